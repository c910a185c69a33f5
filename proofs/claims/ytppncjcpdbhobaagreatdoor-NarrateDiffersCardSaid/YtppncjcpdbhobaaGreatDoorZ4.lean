import Derived.Test.YtppncjcpdbhobaaGreatDoorZ1
set_option maxRecDepth 1000000
set_option maxHeartbeats 32000000
set_option linter.all false
namespace Go.Proofs.YtppncjcpdbhobaaGreatDoor
open RowKit Go.Proofs.Tryz lI Maps oZ qQ ChangeShapes WideShapes ChangeAt
def lu.snoc{a:Type}{b:List Value->a->Prop}{r}{x:a}(c:b r x):∀{d:List<|List Value} {e:List a},lu b d e->lu b (d++[r]) (e++[x])
 |[],[],_=>⟨c,trivial⟩
 |_::_,_::_,⟨h1,h2⟩=>⟨h1,lu.snoc c h2⟩
 |[],_::_,h=>h.elim
 |_::_,[],h=>h.elim
def kJ.snoc{i:Type}{e:Rel i}{p k:Nat}(ok:lh e k){P:Nat->Prop}{w j:World}{q:Nat}{f g:Value}{l:List i}{m:List<|List Value}{r:List Value}{x:i}{o:Obj}
  (t:lu (e (λa=>P a/\a<w/\some a≠f.ownBlock) w) m l) (n:e (λa=>P a/\a<w/\some a≠f.ownBlock) w r x)
  (u:j.ownsRow q p k g (l.length+1)<|m.flatten++r) (s:(w.alloc o).grownBy j f.ownBlock) (c:g.ownBlock=f.ownBlock\/g.ownBlock=some (w.heap.size+1)):kJ e p k P j q g<|l++[x]:=by
 have v:=s.size;rw[QU]at v;refine⟨m++[r],?_,?_⟩
 .rw[Q6];simpa using u
 .refine(lu.snoc n t).imp λr x n=>ok.M (ok.ku n λa d=>?_) λa d=>⟨d.1,Y,λb=>?_⟩
  exact(s.B a (by rw[QU];omega) λb=>d.2.2 b).T (Q9 w o d.2.1);rcases c with c|c;exact d.2.2<|b.T c;rw[c]at b;injection b with b;omega
def kM{n:Type}{P:Program}{w:World}{C:Array Oper}{D:List Oper}{o}{k:Act}{E:Exit->Act->World->Prop}(K:o.guard=none)(F p:Operand)(l:TypeId)
  (L:o.op=.call {callee:=.builtin .append,args:=#[F,p],argTypes:=#[l,l]})
  (g:Nat) (a:TypeId) (i:TypeInfo) (z:Value) (c q:Nat) (M:P.underlying l=some (.slice a)) (N:P.info? a=some i) (O:i.zero=some z)
  (Q:i.size=c) (R:i.bytes=q) (S:z.cells.size=c)
  {j:Rel n} (ok:lh j c) (m:Nat->Prop) (v:Value) (f:List n) (T:k.eval F=v) (U:kJ j a c m w g v f)
  (s:Addr) (r:List Value) (t:n) (x:k.eval p=.slice (some s) 1 1) (V:∀G u,r[G]?=some u->w.cell? (s.add G)=some u)
  (y:j (λb=>m b/\b<w/\some b≠v.ownBlock) w r t)
  (aa:f.length+1<=maxLen) (ab:(f.length+1)*q<=140737488355328) (ac:g<=w)
  (ad:∀d w',kJ j a c m w' g d (f++[t])->w.grownBy w' v.ownBlock->(d.ownBlock=v.ownBlock\/d.ownBlock=some w.heap.size)->wpList P C E D (k.put o.dst d) w'):wpList P C E (o::D) k w:=by
 have⟨I,ae,af⟩:=U.own;have⟨d,w',ag,ah,A,_,J⟩:=TH (P:=P) w g l o.type a i z c q M N O Q R S ok.pos v f.length I.flatten ae s 1 1 r (by rw[ok.len y];omega) V (ok.one y) aa ab ac;have ai:kJ j a c m w' g d<|f++[t]:=by
  refine⟨I++[r],?_,?_⟩;rw[Q6];simpa using ah;refine(lu.snoc y af).imp λr p x=>ok.M (ok.ku x λb e=>A.B b e.2.1 λa=>e.2.2 a) λb e=>⟨e.1,QR e.2.1 A.size,λa=>?_⟩
  rcases J with B|B;exact e.2.2<|a.T B;rw[B]at a;injection a with a;exact absurd e.2.1 Y
 refine Uj K λak aj=>?_;unfold Oper.wp execOp;simp only[L,resolve,invoke,builtin,RL,RN,Rt,Rz,Rx,RO,T,x,ag];exact aj _ _<|ad d w' ai A J
def kz.imp{a:Type}{b c:Rel a}{S w v}{d:List a}(f:kz b S w v d)(g:∀r e,b S w r e->c S w r e):kz c S w v d:=by have⟨i,j,k,l,m,n,p,q⟩:=f;exact⟨i,j,k,l,m,n,p,q.imp g⟩
def kP.up(a:IntKind):∀{d b:Nat} {S:Nat->Prop} {w:World} {c:List Value} {e:Ex},d<=b->kP a d S w c e->kP a b S w c e
 |0,_,_,_,_,_,_,h=>h.elim
 |d+1,0,_,_,_,_,hd,_=>Y
 |d+1,b+1,_,_,_,_,hd,⟨v,h,hs⟩=>⟨v,h,hs.imp λ_ _ f=>kP.up a Y f⟩
def kR.up(a:IntKind):∀{d b:Nat} {S:Nat->Prop} {w:World} {e:List Value} {f:St},d<=b->kR a d S w e f->kR a b S w e f
 |0,_,_,_,_,_,_,h=>h.elim
 |d+1,0,_,_,_,_,hd,_=>Y
 |d+1,b+1,_,_,_,_,hd,⟨v1,v2,v3,h,h1,h2,h3⟩=>⟨v1,v2,v3,h,h1,h2.imp λ_ _ c=>kR.up a Y c,h3.imp λ_ _ c=>kR.up a Y c⟩
def lI.lM.up{i}:∀{d j:Nat} {l:Ex},d<=j->lM i d l->lM i j l
 |0,_,_,_,h=>h.elim
 |d+1,0,_,hd,_=>by omega
 |d+1,j+1,l,hd,h=>by
  have k:∀{m:Ex},lM i d m->lM i j m:=λn=>lM.up Y n;rcases h with h|h|h|⟨a,b,c,p,e,f,g⟩|h|⟨a,b,c,e,f,g⟩|⟨a,b,c,e,q,f,g,r⟩
  exact .inl h;exact .inr<|.inl h;exact .inr<|.inr<|.inl h;exact .inr<|.inr<|.inr<|.inl ⟨a,b,c,p,e,f,k g⟩;exact .inr<|.inr<|.inr<|.inr<|.inl h;exact .inr<|.inr<|.inr<|.inr<|.inr<|.inl ⟨a,b,c,e,f,k g⟩;exact .inr<|.inr<|.inr<|.inr<|.inr<|.inr ⟨a,b,c,e,q,f,k g,k r⟩
def lI.nz.up{i}:∀{d j:Nat} {l:Ex},d<=j->nz i d l->nz i j l
 |0,_,_,_,h=>h.elim
 |d+1,0,_,hd,_=>by omega
 |d+1,j+1,l,hd,h=>by
  have m:∀{k:Ex},nz i d k->nz i j k:=λn=>nz.up Y n;have p:∀{k:Ex},lM i d k->lM i j k:=λn=>lM.up Y n;rcases h with h|h|⟨a,b,c,s,e,f,g⟩|⟨a,b,c,e,f,g⟩|⟨a,b,c,e,q,f,g,r⟩|⟨a,b,c,e,q,f,g,r⟩
  exact .inl h;exact .inr<|.inl h;exact .inr<|.inr<|.inl ⟨a,b,c,s,e,f,p g⟩;exact .inr<|.inr<|.inr<|.inl ⟨a,b,c,e,f,m g⟩;exact .inr<|.inr<|.inr<|.inr<|.inl ⟨a,b,c,e,q,f,m g,m r⟩;exact .inr<|.inr<|.inr<|.inr<|.inr ⟨a,b,c,e,q,f,p g,p r⟩
def sF(e:Nat->Prop)(a:Nat)(b:Sc)(left:Nat)(w:World)(f:Ending)(c:World):Prop:=∃d:Nat,d<b.ints/\f=.returned (tx<|nm 120 d)/\kS e c a b left/\w.grownBy c (some a)
def uT:Code->Option Nat
 | .region b _ _=>some b
 | .seq c _=>uT c
 | .block _ a=>uT a
 | .scope a=>uT a
 |_=>none
def vJ(b:Nat):Code->Option Code
 | .seq c d=>if uT c=some b then some (.seq c d)else match vJ b c with|some a=>some a|none=>vJ b d
 | .block f a=>if uT a=some b then some (.block f a)else vJ b a
 | .scope a=>if uT a=some b then some (.scope a)else vJ b a
 | .cond _ c d=>match vJ b c with|some a=>some a|none=>vJ b d
 | .loop a=>vJ b a
 | .region e o g=>if e=b then some (.region e o g)else none
 |_=>none
noncomputable def tV(a:Func)(n:Nat):Code:=(a.body.bind<|vJ n).getD .skip
abbrev tn:=(.cells #[.int .i64 14,.int .i64 15,.int .i64 11,.int .i64 12,.int .i64 13,.int .i64 14] 3:Go.Obj)
def nW{c:Type}{b:Rel c}{i:Nat}(ok:lh b i){j:Nat}{w d a e}{f:c}(l:w.heap.size<d.heap.size)(k:b (FM d a j) a e f):b (New w a) a e f:=
 ok.M k λm g=>⟨W g.1,g.2.1⟩
def ld{E:Type}{P}{w:World}(p:Nat)(q)(A:TypeId)(c i B)(j C:Nat)(F:P.underlying q=some (.slice c))(G:P.info? c=some i)(R:i.zero=some B)
  (S:i.size=j) (T:i.bytes=C) (U:B.cells.size=j) {m:Rel E} (ok:lh m j) (r:Nat->Prop) (v:Value) (a:List E) (aq:kJ m c j r w p v a)
  (t:Addr) (d:List Value) (I:E) (J:∀V u,d[V]?=some u->w.cell? (t.add V)=some u) (s:m (λb=>r b/\b<w/\some b≠v.ownBlock) w d I)
  (aa:a.length+1<=maxLen) (ab:(a.length+1)*C<=140737488355328) (ar:p<=w):
  ∃k l w',(Builtin.append_ #[q,q] A #[v,.slice (some t) 1 1]).run P w=.ok (.slice k (a.length+1) l) w'/\kJ m c j r w' p (.slice k (a.length+1) l) (a++[I])/\kJ m c j r w' p v a/\w.grownBy w' v.ownBlock/\
   ((Value.slice k (a.length+1) l).ownBlock=v.ownBlock\/(Value.slice k (a.length+1) l).ownBlock=some w.heap.size):=by
 have⟨x,n,ac⟩:=aq.own;have⟨ad,w',K,ae,y,_,af⟩:=TH (P:=P) w p q A c i B j C F G R S T U ok.pos v a.length x.flatten n t 1 1 d (by rw[ok.len s];omega) J (ok.one s) aa ab ar;have au:kJ m c j r w' p ad<|a++[I]:=by
  refine⟨x++[d],?_,?_⟩;rw[Q6];simpa using ae;refine(lu.snoc s ac).imp λd av L=>ok.M (ok.ku L λb e=>y.B b e.2.1 λc=>e.2.2 c) λb e=>⟨e.1,QR e.2.1 y.size,λc=>?_⟩
  rcases af with M|M;exact e.2.2<|c.T M;rw[M]at c;injection c with c;exact absurd e.2.1 Y
 have aw:∃k l,ad=.slice k (a.length+1) l:=by
  rcases ae.2 with⟨_,ag⟩|⟨g,z,f,rfl,_⟩
  omega;exact⟨_,_,Z⟩
 obtain⟨k,l,rfl⟩:=aw;refine⟨k,l,w',K,au,?_,y,af⟩;have ax:lu (m (λb=>r b/\b<w'/\some b≠v.ownBlock) w') x a:=ac.imp λd av L=>ok.M (ok.ku L λb e=>y.B b e.2.1 λc=>e.2.2 c) λb e=>⟨e.1,QR e.2.1 y.size,e.2.2⟩
 refine⟨x,?_,ax⟩;rcases n.2 with⟨rfl,ag⟩|⟨g,z,f,rfl,ah,D,ai,aj,ak,al⟩
 .exact⟨n.1,.inl ⟨Z,ag⟩⟩
 .subst S;by_cases am:a.length+1<=z;have an:d.length=1*i.size:=(by rw[ok.len s];omega);have N:a.length*i.size+d.length<=f.size:=(by rw[an,ak,<-S4];exact Sj _ am);have ao:=run_append_room (P:=P) (w:=w) q A c i F G g a.length z f D t 1 1 d an J (ok.one s) am N;rw[K]at ao;injection ao with O Q;injection O with O _ ay;subst O Q ay;refine⟨n.1,.inr ⟨g,_,_,Z,ah,(Ul w g f (f.toList.take (a.length*i.size)++d++f.toList.drop (a.length*i.size+d.length)).toArray c (0,0) D),ai,aj,?_,?_⟩⟩;have az:min (a.length*i.size) f.size=a.length*i.size:=Tf<|Q8 (TR _ _) N;simp only[Sd,Q6,Ro,TS,Sz,az];omega;have aA:(f.toList.take<|a.length*i.size).length=a.length*i.size:=(by rw[Ro,Sz];exact Tf<|Q8 (TR _ _) N);simp only[Rv];have:=List.take_left (l₁:=f.toList.take<|a.length*i.size) (l₂:=d++f.toList.drop (a.length*i.size+d.length));rw[aA]at this;rw[this];exact al;have⟨aC,aD,ap,_,aB⟩:=Tw (P:=P) (w:=w) q A c i B i.size C F G R Z T U ok.pos ⟨g,0,none⟩ a.length z x.flatten n.1 (n.cells (g:=g) Z) t 1 1 d (by rw[ok.len s];omega) J Y aa ab;rw[K]at ap;injection ap with _ Q;subst Q;refine⟨n.1,.inr ⟨g,z,f,Z,ah,?_,ai,aj,ak,al⟩⟩;rw[aB.B g (QS.1 D).1 Us];exact D
def qA(S:Nat->Prop)(c:Nat)(d:Sc)(D left:Nat)(w:World)(t:Ending)(a:World):Prop:=
 ∃(e:Int) (f g:List UInt8) (i j k:Option Addr) (l m n p q r:Nat) (b:St) (s:Nat),t=.returned (.agg #[.int .i64 e,tx f,tx g,(i,l,m),(j,n,p),(k,q,r)])/\
  kR .i64 (D+1) (FM w a c) a [.int .i64 e,tx f,tx g,(i,l,m),(j,n,p),(k,q,r)] b/\mP d (D+1) b/\kT D b.th+kT D b.el+s<=left/\kS S a c d s/\w.grownBy a (some c)
def wP(i:Nat->Prop)(a:Nat)(d:Sc)(D left:Nat)(w:World)(j:Ending)(b:World):Prop:=
 ∃(e:Value) (c:List St) (f:Nat),j=.returned e/\kJ (kR .i64 D) 171 6 (λg=>w<=g/\g≠a) b w e c/\(∀k∈c,mP d D k)/\kT D c+f<=left/\kS i b a d f/\w.grownBy b (some a)
def lU(b:World)(a:Nat)(c d e f g i:Value):World:=(((((b.setCell a c).setCell ⟨a,1,none⟩ d).setCell ⟨a,2,none⟩ e).setCell ⟨a,3,none⟩ f).setCell ⟨a,4,none⟩ g).setCell ⟨a,5,none⟩ i
abbrev qv(a b c d e f g h i j k l):=(#[.int .i64 a,tx b,tx c,.slice d e f,.slice g h i,.slice j k l]:Array Go.Value)
def wR{S}{n:Nat}{p}{D left left':Nat}{T}{kind:Int}{name hd b c d}{e f g i j k:Nat}{w a}{q:List Ex}{l m:List St}(r:pW S n p left' T (qv kind name hd b e f c g i d j k) w a)
  (v:kz (kP .i64 De) (New w a) a (.slice b e f) q) (x:kz (kR .i64 D) (New w a) a (.slice c g i) l) (y:kz (kR .i64 D) (New w a) a (.slice d j k) m) (z:mP p (D+1)<|.mk kind name hd q l m) (A:kT D l+kT D m+left'<=left):
  qA S n p D left w (.returned<|.agg<|qv kind name hd b e f c g i d j k) a:=by
 have s:∀t,New w a t->FM w a n t:=λt u=>⟨W u.1,u.2,Up u.1 r.yh⟩
 exact⟨kind,name,hd,b,c,d,e,f,g,i,j,k,.mk kind name hd q l m,left',Z,⟨_,_,_,Z,v.M (kP.ok _ _) s,x.M (kR.ok _ _) s,y.M (kR.ok _ _) s⟩,z,A,r.hm,r.hg⟩
def mA(b:World)(S:Nat->Prop)(c:Value)(v:Value)(w:World):Prop:=∃a o,v=.pointer (some ⟨a,o,none⟩)/\(New b w a\/(S a/\a<w))/\w.cell? ⟨a,o,none⟩=some c
def Iz{e f:Nat}{b c d}(m:e<b.heap.size){g i}(j:Good e b.heap.size c d)(l:kP .i64 f (New b c) c g i):kP .i64 f (New b d) d g i:=
 (kP.ok _ _).M ((kP.ok _ _).ku l λk a=>j.2 k a.2 (W a.1)<|W a.1) λk a=>⟨a.1,QR a.2 j.1⟩
def Bo{S w f}{j k e:Nat}{g a}(l:kz qs S w (.slice f j k) g)(m:g[e]?=some a):∃b o c d,f=some ⟨b,o,none⟩/\S b/\w.cell? ⟨b,o+e,none⟩=some (.slice c a.length d)/\kz mI S w (.slice c a.length d) a:=by have⟨b,o,s,n,p,⟨t,q,i⟩,r⟩:=l.ll qs.ok e a m;obtain⟨c,d,u,rfl,_⟩:=id i;have:=r 0 _ (by rw[q];rfl);exact⟨b,o,c,d,n,p,by simpa using this,i⟩
def Dd{S w d}{f g c a:Nat}{e}(i:kz mI S w (.slice d f g) e)(j:e[c]?=some a):∃b o,d=some ⟨b,o,none⟩/\S b/\w.cell? ⟨b,o+c,none⟩=some (.int .i64 (a:Int)):=by have⟨b,o,k,l,m,n,p⟩:=i.ll mI.ok c a j;have q:k=[.int .i64 (a:Int)]:=n;have:=p 0 (.int .i64 (a:Int)) (by rw[q];rfl);exact⟨b,o,l,m,by simpa using this⟩
abbrev sn:=(#[.int .i64 0,Em,Em,Nl,Nl,Nl]:Array Go.Value)
abbrev BE(a b c d):=(λe f=>∃g h,mA a b (.slice g c h) e f/\kz mI b f (.slice g c h) d:Go.Value->Go.World->Prop)
abbrev vi(a):=(#[.pointer a,.int .i64 0]:Array Go.Value)
abbrev sh(a):=(some ⟨a,0,none⟩:Option Go.Addr)
def L8:(prog.info? 171).map (λa=>(a.zero,a.size,a.bytes))=some (some<|.agg sn,6,112):=Ut
def kS.Am{f w}{c:Nat}{g}{left:Nat}(d:kS f w c g left)(e:Nat):kS f (w.setCell ⟨c,7,none⟩<|.int .i64 (e:Int)) c g e:=by have⟨j,k,l,b,m,n⟩:=d.ll;have i:∀a,a≠c->(w.setCell ⟨c,7,none⟩<|.int .i64 (e:Int)).heap[a]?=w.heap[a]?:=λa b=>Q5 _ _ _ _ b;exact⟨⟨j,k,l,kt b,m.ku qs.ok λa b=>i a (d.lJ a b).1,n.ku qO.ok λa b=>i a (d.lJ a b).1⟩,λa b=>⟨(d.lJ a b).1,by rw[QW];exact(d.lJ a b).2⟩⟩
def uy(a:Nat)(c b):kT (a+1) (c++[b])=kT (a+1) c+(1+kT a b.th+kT a b.el):=by simp[kT]
def lI.tr.snoc{d e b h}(g:tr d e b)(i:FN d e b.length h):tr d e<|b++[h]:=λc j a=>by
 rcases Nat.lt_or_ge c b.length with f|f;rw[List.getElem?_append_left f]at a;exact g c j a;rw[List.getElem?_append_right f]at a;obtain⟨rfl⟩:c=b.length:=by rcases Nat.lt_or_ge (c-b.length) 1 with h|h;omega;rw[List.getElem?_eq_none<|by simpa using h]at a;cases a
 rw[Nat.sub_self]at a;simp at a;rw[<-a];exact i
def lI.Kg(a)(b:Nat):(A9 a b).length<=1:=by unfold A9;split<;>(try split)<;>(try split)<;>simp
def lI.Fa(a):∀k,(sf a k).length<=k
 |0=>Nat.le_refl _
 |k+1=>by have b:=Fa a k;have c:=Kg a k;simp only[sf,List.length_append];omega
def Kh:(prog.info? 3).map (λa=>(a.zero,a.size,a.bytes))=some (some<|.int .i64 0,1,8):=Ut
def qu.yR{d e f}{i j b:Nat}{c}(k:kz qu d e (.slice f i j) c)(g:b<c.length):
  ∃a o,f=some ⟨a,o,none⟩/\d a/\e.cell? ⟨a,o+b*2,none⟩=some (.int .u8 ((c.getD b default).params:Int)):=by
 have⟨a,o,p,q,l,m,n,_⟩:=qu.ll k<|Q7 g;refine⟨a,o,l,m,?_⟩;rw[n,List.getD_eq_getElem?_getD,Q7 g];rfl
def kJ.base{b:Type}{c:Rel b}{T d:Nat}{e f}{g i:Nat}{v}{xs:List b}(a:kJ c T d e f g v xs)(k:i<=g):kJ c T d e f i v xs:=by
 have⟨l,j,m⟩:=a.own;refine⟨l,⟨j.1,?_⟩,m⟩;rcases j.2 with a|⟨n,p,q,r,s,a⟩
 exact .inl a;exact .inr ⟨n,p,q,r,Q8 k s,a⟩
def Ma(d:List Nat)(a:World)(e:Ending)(b:World):Prop:=∃c,e=.returned c/\kJ mI 3 1 (λ_=>False) b a c d/\Below a a b
def lI.nQ.up{n m b:Nat}{c}(a:nQ n m c)(g:m<=b):nQ n b c:=⟨λd e=>by have⟨f,i,a⟩:=a.1 d e;exact⟨f,Y,a⟩,a.2⟩
def lI.Mc(c)(d:Nat):∀b∈A9 c d,b<=2:=by unfold A9;intro b a;split at a;simp at a;omega;split at a;simp at a;omega;split at a;simp at a;omega;simp at a
def lI.Df(p):∀k,∀a∈sf p k,a<=2
 |0,a,h=>by simp[sf]at h
 |k+1,a,h=>by rcases List.mem_append.1 h with h|h;exact Df p k a h;exact Mc p k a h
def lI.um(p:Pt):Nat:=if p.hs.length=0 then 1 else min p.hs.length 3
def lI.Bg(p:Pt):Nat:=min p.ss.length 3
def kJ.tight{e:Type}{a:Rel e}{f c:Nat}(ok:lh a c){P w}{g:Nat}{v}{i:List e}(j:kJ a f c P w g v i):kJ a f c (λb=>P b/\b<w) w g v i:=by have⟨k,l,m⟩:=j.own;exact⟨k,l,m.imp λp q n=>ok.M n λb d=>⟨⟨d.1,d.2.1⟩,d.2⟩⟩
def kJ.weaken{d:Type}{a:Rel d}{e c:Nat}(ok:lh a c){P P' w}{f:Nat}{v}{g:List d}(j:kJ a e c P w f v g)(k:∀b,P b->P' b):kJ a e c P' w f v g:=by have⟨l,m,n⟩:=j.own;exact⟨l,m,n.imp λq r p=>ok.M p λb i=>⟨k b i.1,i.2⟩⟩
def kJ.blocks{g:Type}{d:Rel g}{i e:Nat}(ok:lh d e){P w w'}{j:Nat}{f}{k:List g}(c:kJ d i e P w j f k)(r:w.heap.size<=w'.heap.size)(l:∀a,a<w.heap.size->P a\/f.ownBlock=some a->w'.heap[a]?=w.heap[a]?):kJ d i e P w' j f k:=by
 have⟨s,m,t⟩:=c.own;refine⟨s,⟨m.1,?_⟩,t.imp λy z u=>ok.M (ok.ku u λa b=>l a b.2.1<|.inl b.1) λa b=>⟨b.1,QR b.2.1 r,b.2.2⟩⟩;rcases m.2 with c|⟨n,v,x,p,b,q,c⟩
 exact .inl c;refine .inr ⟨n,v,x,p,b,?_,c⟩;rw[l n (QS.1 q).1<|.inr<|by rw[p];rfl];exact q
def Me:(prog.info? 65).map (λa=>(a.zero,a.size,a.bytes))=some (some<|.agg #[Em,false],2,24):=Ut
def Mf:(prog.info? 67).map (λa=>(a.zero,a.size,a.bytes))=some (some<|.agg #[Em,Em,.int .i64 0],3,40):=Ut
def Mg:(prog.info? 69).map (λa=>(a.zero,a.size,a.bytes))=some (some Nl,1,24):=Ut
def Ki{e:Nat}{f d}{g:Nat}{j}(k:∀a b,d[a]?=some b->yo e f a b)(l:d.length=g)(m:yo e f g j):∀a b,(d++[j])[a]?=some b->yo e f a b:=λa b c=>by
 rcases SS a d.length with i|i;rw[RR i]at c;exact k a b c;rw[RY i]at c;have p:a-d.length<1:=by have:=(Rg.1 c).1;simpa using this
 have n:a=g:=Y
 subst n;rw[l,Nat.sub_self]at c;simp at c;rw[<-c];exact m
abbrev ti:=(.cells #[.string ⟨#[97]⟩,.string ⟨#[98]⟩,.string ⟨#[99]⟩] 9:Go.Obj)
def rD.snoc{k:Nat}{b}(c:rD k b)(q):rD (k+1)<|b++[⟨nm 102 k,q⟩]:=by
 refine⟨by simp[c.1],λd f a=>?_⟩;rcases SS d b.length with e|e;rw[RR e]at a;exact c.2 d f a;have g:=(Rg.1 a).1;simp at g;have i:d=b.length:=Y
 subst i;rw[RY<|QZ _,Nat.sub_self]at a;simp at a;rw[<-a,c.1]
abbrev oE(a b c d e f g):=(.cells #[.int .u8 (a:Int),.slice b c d,.slice e f g] 25:Go.Obj)
abbrev tl:=(.cells #[Em,Nl,Nl,Nl] 36:Go.Obj)
def nP.drew{c:Type}{a:Rel c}{T b:Nat}{P d e}{o:Nat}{f g vQ}{i:List c}{x}(j:nP a T b P d e o f g vQ i x)(ok:lh a b):nP a T b P d e o f g vQ i {x with drawn:=x.drawn+1}:=j.grow ok<|kC (Below.refl _ _).drew
def kP.open{b:IntKind}{d:Nat}{c w e a}(f:kP b d c w e a):∃g v,d=g+1/\e=[.int b a.op,tx a.name,.int .i64 a.n,v]/\kz (kP b g) c w v a.args:=by
 cases d with
 |zero=>exact f.elim
 |succ d=>have⟨v,i,j⟩:=f;exact⟨d,v,Z,i,j⟩
def kR.open{b:IntKind}{d:Nat}{c w j a}(k:kR b d c w j a):∃i e f g,d=i+1/\j=[.int b a.kind,tx a.name,tx a.hd,e,f,g]/\kz (kP b De) c w e a.lp/\kz (kR b i) c w f a.th/\kz (kR b i) c w g a.el:=by
 cases d with
 |zero=>exact k.elim
 |succ d=>have⟨e,f,g,l,m⟩:=k;exact⟨d,e,f,g,Z,l,m⟩
def EY:Obj->Prop
 | .cells b _ _=>∀c a,(.int c a:Value)∈b->a=0
 |_=>False
def uz{n:Type}{p q:Rel n}{k}(t:EY k){i d u}{m:List n}(e:kz p i d u m)(z:∀l b,b∈m->p i d l b->q (wa k d i) d l b/\∃f a j,l=.int f a::j/\a≠0):kz q (wa k d i) d u m:=by
 have⟨A,B,c,C,D,E,F,G⟩:=e;have I:∀{c:List<|List Value} {g:List n},(∀b∈g,b∈m)->lu (p i d) c g->lu (q (wa k d i) d) c g/\(c.flatten≠[]->∃f a j,c.flatten=.int f a::j/\a≠0):=by
  intro c;induction c with
  |nil=>intro g _ e;cases g with
   |nil=>exact⟨trivial,λe=>by simp at e⟩
   |cons b g=>exact e.elim
  |cons l c J=>intro g v e;cases g with
   |nil=>exact e.elim
   |cons b g=>have⟨r,f,a,j,s,K⟩:=z l b (v b Us) e.1;exact⟨⟨r,(J (λL M=>v L<|by simp[M]) e.2).1⟩,λ_=>⟨f,a,j++c.flatten,by rw[R8,s];rfl,K⟩⟩
 have⟨r,s⟩:=I (λb N=>N) G;refine⟨A,B,c,C,D,E,λw=>?_,r⟩;have⟨O,o,P,Q,x⟩:=F w;have⟨f,a,j,R,S⟩:=s w;refine⟨O,o,P,⟨Q,λT=>?_⟩,x⟩;have y:=x 0 (.int f a) (by rw[R];rfl);cases k with
 |cells U aa ab=>simp only[World.cell?,T]at y;have V:U[o]?=some (.int f a):=(by simpa using y);exact S<|t f a<|T4 V
 |_=>exact t.elim
def kz.NB{i:IntKind}{j}(c:EY j){k e}:∀{d:Nat} {f:Value} {a:List Ex},(∀g∈a,C8 d g)->kz (kP i d) k e f a->kz (kP i d) (wa j e k) e f a
 |0,_,_,_,h=>uz c h λ_ _ _ b=>b.elim
 |d+1,f,a,ho,h=>uz c h λq g l ⟨m,b,n⟩=>by have⟨r,s,t,p⟩:=ho g l;exact⟨⟨m,b,kz.NB c p n⟩,_,_,_,b,Y⟩
def kz.J4{g:IntKind}{i}(a:EY i){j w}:∀{d:Nat} {e:Value} {b:List St},(∀f∈b,uQ d f)->kz (kR g d) j w e b->kz (kR g d) (wa i w j) w e b
 |0,_,_,_,h=>uz a h λ_ _ _ c=>c.elim
 |d+1,e,b,ho,h=>uz a h λv f k ⟨l,m,n,c,p,q,r⟩=>by have⟨x,y,z,A,B,s,t,u⟩:=ho f k;exact⟨⟨l,m,n,c,kz.NB a s p,kz.J4 a t q,kz.J4 a u r⟩,_,_,_,c,Y⟩
def nO{c o:Nat}{w d w'}(a:Below c w d)(b:d.grownBy w'<|some o)(i:c<=o)(j:c<=w:=by omega):Below c w w':=
 ⟨b.os.T a.os,b.tape.T a.tape,b.output.T a.output,Q8 a.size b.size,λe g=>(b.B e (W a.size) λf=>by injection f with f;omega).T<|a.B e g⟩
abbrev sa(a b c):=(.cells #[.int .u8 a,tx b,c,Nl] 180:Go.Obj)
def Kk:(prog.info? 310).map (λa=>(a.zero,a.size,a.bytes))=some (some<|.agg #[.int .u8 0,.int .i64 0,.int .i64 0,.int .i64 0],4,32):=Ut
def uU(e:World)(a:Nat)(f g i j k l m n p q:Value)(r:Value)(w:World)(s:Value)(t:List In->Prop)(u:Ending)(b:World):Prop:=u=.returned s/\∃c d,my e a f g i j k l m n p q c d b/\nH a r w c b/\t d
abbrev vm(a b c d):=(.cells #[.int .u8 a,b,c,d] 310:Go.Obj)
def Ko:(prog.info? 101).map (λi=>(i.zero,i.size,i.bytes))=some (some<|.agg pv,3,32):=Ut
def Kq:(prog.info? 98).map (λi=>(i.zero,i.size,i.bytes))=some (some<|.agg #[Em,Nl,Nl],3,64):=Ut
def Ks:(prog.info? 111).map (λi=>(i.zero,i.size,i.bytes))=some (some<|.agg #[Em,Nl,Nl],3,64):=Ut
def KG.Lz{a b c}{o d:Nat}{e i f j}(k:KG a o e f b)(l:KG b d i j c)(m:a<=d):KG a o e f c:=
 k.grow l.g (λn g=>by injection g with g;omega)
def Kt(w:World)(m:List UInt8)(b:Fl)(c d e:Nat)(n:Ending)(a:World):Prop:=
 ∃(f:Option Addr) (g:Nat) (i:Option Addr) (j:Nat) (k:Option Addr) (l:Nat),n=.returned (.agg #[tx m,(f,c,g),(i,d,j),(k,e,l)])/\kz mH (Nw w a) a (f,c,g) b.kN/\kz nV (Nw w a) a (i,d,j) b.mj/\kz (mn .u8) (Nw w a) a (k,e,l) b.kF/\Below w w a
abbrev vl(a b):=(.cells #[tx a,b] 93:Go.Obj)
def kI.oc(a:Int):Bool:=(a==32)||(a==9)||(a==10)||(a==13)
def kI.wW(b a):pre b a<=a.length:=by unfold pre;exact(List.takeWhile_sublist _).length_le
def kI.BJ(b:Int->Bool)(a:ByteArray)(c:Nat)(d:¬c<a.size)(e:c<=pre b a.data.toList):pre b a.data.toList=c:=by have:=wW b a.data.toList;simp at this;omega
def kI.Fe(b)(a:Nat)(d:a<39)(c:(words[a]?.getD []==b)=true):tu b=true:=by have e:a<words.length:=d;rw[List.getElem?_eq_getElem e,Option.getD_some]at c;have:=eq_of_beq c;unfold tu;rw[List.contains_iff_mem,<-this];exact List.getElem_mem _
def kI.BK(b)(e:∀a,a<39->(words[a]?.getD []==b)=false):tu b=false:=by unfold tu;rw[Bool.eq_false_iff];intro c;rw[List.contains_iff_mem]at c;have⟨a,d,f⟩:=List.getElem_of_mem c;have:=e a d;rw[List.getElem?_eq_getElem d,Option.getD_some,f]at this;simp at this
def kI.pfx(a b:List UInt8):Bool:=b.isPrefixOf a
def kI.mr:Bool->List UInt8->Nat
 |_,[]=>0
 |false,c::t=>if oc c.toNat then mr false t+1 else if pfx (c::t) [47,47]then mr true t+1 else 0
 |true,c::t=>if c==10 then mr false t+1 else mr true t+1
def kI.sw:∀b a,mr b a<=a.length
 |true,[]=>by simp[mr]
 |false,[]=>by simp[mr]
 |false,c::t=>by have d:=sw false t;have e:=sw true t;simp only[mr,List.length_cons];split;omega;split<;>omega
 |true,c::t=>by have d:=sw false t;have e:=sw true t;simp only[mr,List.length_cons];split<;>omega
def kI.Ff(b)(a:pfx b [47,47]=true):∃e,b=47::47::e:=by
 unfold pfx at a
 match b,a with
 |[],a=>simp at a
 |[c],a=>simp[List.isPrefixOf]at a
 |c::d::e,a=>simp[List.isPrefixOf]at a;exact⟨e,by rw[<-a.1,<-a.2]⟩
def kI.vS(c:Int->Bool)(a:ByteArray)(b:Nat)(d:b<=a.size):b+pre c (a.data.toList.drop b)<=a.size:=by have:=wW c<|a.data.toList.drop b;simp only[List.length_drop,Array.length_toList,ByteArray.size_data]at this;omega
def oA{b}(a:World)(e c)(f:Nat)(g:Array Value)(d:Nat)(i:Value)(j:b.underlying e=some (.array f c))(k:d<f)
  (l:(isAgg c).run b a=.ok false a) (m:g[d]?=some i) (n:(sizeOf c).run b a=.ok 1 a):
  (Instr.index e (.agg g)<|.int .i64 d).run b a=.ok i a:=by
 simp[Instr.index,Tn j,asIntOf,k,n,l,m,go_sem]
def vk(b)(a:Nat)(c:a<39):(Instr.index 319 (.agg pg)<|.int .i64 a).run prog b=.ok (tx<|kI.words.getD a []) b:=
 oA b _ 9 39 _ a _ Ut c Ut
  (by have d:a<kI.words.length:=c;simp[pg,tx,d]) Ut
def oG(a:Int)(b):Calls prog 159 #[.int .u8 a] b λc d=>c=.returned (.bool<|kI.lS a)/\b=d:=by
 by_cases e:97<=a<;>by_cases f:a<=122<;>by_cases g:65<=a<;>by_cases i:a<=90;all_goals
  first
  |omega
  |(go_enter func159,ntmps159;go_wp2;go_ret;exact⟨by simp[kI.lS,e,f,g,i],Z⟩)
def DI:mZ mM=true:=Uz
def wu:mQ 173:=λ_ _=>Ut
def Dg(i:FuncId)(c:Nat):Prop:=∀(d:Nat->Prop) (a:World) (b o:Nat) (e:Ex) (f:List Value),lY a->At a b o f->kP .u8 c d a f e->mJ c e->b<a->(∀g,d g->g<a)->Calls prog 191 #[.pointer<|some ⟨b,o,none⟩,.func (.func i) #[] #[]] a (kH (.bool true) a)
def DJ:∀a∈shapes,a.1<=2:=Ur
def mJ.two{a:Nat}{b}(c:mJ a b):b.args.length<=2:=by
 cases a with
 |zero=>exact c.elim
 |succ a=>have⟨⟨d,_,e,f,_⟩,_⟩:=c;rw[f];exact DJ d<|QV e
def Bq(i:FuncId):Prop:=∀(c:Nat->Prop) (a:World) (b o d:Nat) (e:St) (f:List Value),lY a->At a b o f->kR .u8 d c a f e->nS d e->b<a->(∀g,c g->g<a)->Calls prog i #[.pointer<|some ⟨b,o,none⟩] a (kH (.bool true) a)
def px{e b c}{f o d:Nat}{g i}(k:At b f o i/\kR .u8 d e b i g/\nS d g)(m:f<b)(n:∀a,e a->a<b)(j:Below b b c):At c f o i/\kR .u8 d e c i g/\nS d g/\f<c/\∀a,e a->a<c:=
 ⟨k.1.kv j m,(kR.ok .u8 d).ku k.2.1 λa l=>j.B a<|n a l,k.2.2,QR m j.size,λa l=>QR (n a l) j.size⟩
def Dh(j:FuncId)(c:Nat):Prop:=∀(d:Nat->Prop) (a:World) (e:Option Addr) (f g:Nat) (b:List St),lY a->kz (kR .u8 c) d a (e,f,g) b->b.length<=12->(∀k∈b,nS c k)->(∀i,d i->i<a)->Calls prog 120 #[(e,f,g),.func (.func j) #[] #[]] a (kH (.bool true) a)
def wz:mQ 121:=λ_ _=>Ut
def Di(b:Nat):Prop:=∀(d:Nat->Prop) (a:World) (k l:Int) (m:List UInt8) (e:Option Addr) (c f:Nat) (g:List Ex),kz (kP .u8 b) d a (e,c,f) g->c<=2->(∀n∈g,mJ b n)->b<=6->(∀i,d i->i<a)->
 Calls prog 170 #[.agg #[.int .u8 k,tx m,l,(e,c,f)]] a (λp q=>∃j:Nat,p=.returned (.int .i64 (j:Int))/\j<=b+1/\Below a a q)
def lI.Fh{b:Nat}{d}{c:Nat}(e:kT (b+1) d<=c){a}(f:a∈d):kT b a.th<=c/\kT b a.el<=c:=(qj e).2 a f
def LO(a:Nat):Prop:=∀(d:Nat->Prop) (b:World) (e:Option Addr) (f g:Nat) (c:List St),kz (kR .u8 a) d b (e,f,g) c->c.length<=12->(∀k∈c,nS a k)->kT a c<=40->a<=6->(∀i,d i->i<b)->
 Calls prog 167 #[(e,f,g)] b (λl m=>∃j:Nat,l=.returned (.int .i64 (j:Int))/\j<=kT a c/\Below b b m)
def LP(a:Nat):Prop:=∀(d:Nat->Prop) (b:World) (e:Option Addr) (f g:Nat) (c:List St),kz (kR .u8 a) d b (e,f,g) c->c.length<=12->(∀k∈c,nS a k)->kT a c<=40->a<=6->(∀i,d i->i<b)->
 Calls prog 168 #[(e,f,g)] b (λl m=>∃j:Nat,l=.returned (.int .i64 (j:Int))/\j<=a/\Below b b m)
def AK:mQ 169:=λ_ _=>Ut
def EZ(l:FuncId):Prop:=∀(c:Nat->Prop) (a:World) (d:Option Addr) (e f:Nat) (g:Option Addr) (i j:Nat) (b:Hd),lY a->kz kO c a (d,e,f) b.params->kz (kR .u8 Ds) c a (g,i,j) b.body->vL b->(∀k,c k->k<a)->Calls prog l #[.agg #[tx b.name,(d,e,f),(g,i,j)]] a (kH (.bool true) a)
def yz(a)(e:LA a)(b):Calls prog 122 #[.agg #[tx a.name,.int .u8 a.ty,a.init]] b<|kH (.bool true) b:=by
 have c:Below b b<|b.alloc<|tf a.name a.ty a.init:=Ba _ _;have f:=e.form;have⟨i,j,g⟩:=a;simp only at*;rcases f with⟨rfl,d⟩|⟨rfl,d⟩|⟨rfl,rfl⟩
 .have k:(g != -9223372036854775808)=true:=by simpa using d
  go_enter func122,ntmps122
  go_wp2;go_ret;exact⟨Us,c⟩
 .rcases d with rfl|rfl
  .go_enter func122,ntmps122
   go_wp2;go_ret;exact⟨Z,c⟩
  go_enter func122,ntmps122
  go_wp2;go_ret;exact⟨Z,c⟩
 go_enter func122,ntmps122
 go_wp2;go_ret;exact⟨Z,c⟩
def rU.snoc{a b c:List In}{d m:Nat}(e:rU a d b){x:In}(f:mz x)(g:c=b++[x])(l:d+1<=m):rU a m c:=by obtain⟨i,rfl,n,j⟩:=e;refine⟨i++[x],by rw[g,Rv],Uw,λk hy=>?_⟩;rcases SV.1 hy with hy|hy;exact j k hy;simp at hy;subst hy;exact f
def lI.wh(a:In):List Go.Value:=[.int .u8 a.op,.int .i64 a.a,.int .i64 a.b,.int .i64 a.n]
def lI.In.put(c:In)(d:Nat)(t:Int):In:=if d=1 then{c with a:=t}else{c with b:=t}
def lI.Kv(d:List In)(a:Nat)(e:In)(c:d[a]?=some e)(b:Nat)(f:Go.Value)(g:(wh e)[b]?=some f):((d.map wh).flatten)[a*4+b]?=some f:=by
 induction d generalizing a with
 |nil=>simp at c
 |cons i k j=>
  have l:b<4:=(List.getElem?_eq_some_iff.1 g).1;cases a with
  |zero=>simp only[List.getElem?_cons_zero,Option.some.injEq]at c;subst c;rw[List.map_cons,List.flatten_cons,List.getElem?_append_left<|by show 0*4+b<4;omega];simpa using g
  |succ a=>rw[List.map_cons,List.flatten_cons,List.getElem?_append_right (by show 4<=_;omega),show(a+1)*4+b-(wh i).length=a*4+b by show(a+1)*4+b-4=_;omega];exact j a (by simpa using c)
def lI.pI.O1{a:In}{e b:Nat}(c:pI e a)(j:e<=b){d:Int}(f:0<=d)(g:d<=b):pI b<|a.put 1 d:=by refine⟨c.1,c.2.1,λ_=>⟨f,g⟩,λi=>?_⟩;have:=c.2.2.2 i;show 0<=a.b/\a.b<=b;omega
def lI.pI.O2{a:In}{e b:Nat}(c:pI e a)(j:e<=b){d:Int}(f:0<=d)(g:d<=b):pI b<|a.put 2 d:=by refine⟨c.1,c.2.1,λi=>?_,λ_=>⟨f,g⟩⟩;have:=c.2.2.1 i;show 0<=a.a/\a.a<=b;omega
def lI.na.one{a c:List In}{b:In}(e:c=a++[b])(f:pI (a.length+1) b):na a 1 c:=⟨[b],e,Us,λg d=>by simp at d;subst d;exact f⟩
def rU.QH{a b:List In}{c:Nat}(d:rU a c b):na a c b:=by have⟨e,f,g,i⟩:=d;exact⟨e,f,g,λj k=>(i j k).ok _⟩
def Fi{c d}:∀{a:List<|List Value} {b:List In},lu (yj d c) a b->a=b.map wh
 |[],[],_=>rfl
 |r::rs,x::xs,⟨h1,h2⟩=>by rw[Rx,<-Fi h2];exact RF (·::rs) h1
 |[],_::_,h=>h.elim
 |_::_,[],h=>h.elim
def Fj{b c}:∀(a:List In),lu (yj c b) (a.map wh) a
 |[]=>trivial
 |_::xs=>⟨Z,Fj xs⟩
def ze{a:Type}(f:a->Value->Prop)(g:Value)(o:Option a)(b:World)(c:Ending)(i:World):Prop:=(∀d,o=some d->∃e,c=.returned (.tuple #[e,true])/\f d e)/\(o=none->c=.returned (.tuple #[g,false]))/\Below b b i
abbrev rl:=(.cells #[Em,Nl,Nl] 98:Go.Obj)
abbrev ts:=(.cells #[Em,Nl,Nl] 111:Go.Obj)
def ui(a:Nat)(b c d e:Value)(f:World):Prop:=∃g:ByteArray,f.heap[a]?=some (.cells #[b,c,d,e,.string g,Em,Em,.int .i64 0] 201)
def ui.lt{b:Nat}{c d e f w}(a:ui b c d e f w):b<w:=by have⟨g,a⟩:=a;exact(QS.1 a).1
def ui.ku{cb:Nat}{b c d e w w'}(a:ui cb b c d e w)(f:w'.heap[cb]?=w.heap[cb]?):ui cb b c d e w':=by have⟨g,a⟩:=a;exact⟨g,f.T a⟩
def ui.kv{cb B:Nat}{a b c d w w'}(e:ui cb a b c d w)(f:Below B w w')(g:cb<B):ui cb a b c d w':=e.ku<|f.B cb g
def tY(c:Nat)(d e f g a i)(b:ui c d e f g a):Calls prog 80 #[.pointer c,.int .i64 0,.string i] a λj k=>j=.returned (.bool true)/\a=k:=by
 have⟨l,b⟩:=b;have m:=kr b 7
 go_enter func80,ntmps80
 go_wp2;go_ret;exact⟨Z,Z⟩
def mi(b:Nat)(c d e f a)(j:Int)(g)(k:ui b c d e f a):Calls prog 130 #[.pointer b,true,j,.string g] a λi w'=>i=.returned (.bool true)/\a=w':=by
 have l:=(tY b c d e f a g k)
 go_enter func130,ntmps130
 go_wp21;apply l.M;rintro i m ⟨rfl,rfl⟩;go_wp21;go_ret;exact⟨Z,Z⟩
def uV(b:Nat)(f g j k c d)(a:ui b f g j k c):Calls prog 129 #[.pointer b,.string d] c λl e=>l=.returned (.bool true)/\ui b f g j k e/\c.grownBy e (some b)/\e.heap.size=c:=by
 have⟨n,a⟩:=a;have p:=kr a 4;have q:=kx a 4;have r:=kr a 7;have m:=kt (i:=4) (u:=.string d) a
 go_enter func129,ntmps129
 go_wp2;go_ret;exact⟨Z,⟨d,m⟩,kE c b 4 _,by rw[QW]⟩
def lI.H9{i:List Nat}{j:List<|List Hd}(k:∀d∈j,∀a b,d[a]?=some b->∃e,i[a]?=some e/\b.name=nm 104 a/\b.params=qN 112 e)(A:i.length<=3)(r:∃d∈j,d.length=i.length){a e:Nat}(l:i[a]?=some e):
  ∃b,(j.flatten.find? λf=>f.name==nm 104 a)=some b/\b.params=qN 112 e:=by
 have⟨d,m,B⟩:=r;have C:=(List.getElem?_eq_some_iff.1 l).1;obtain⟨n,p⟩:∃f,d[a]?=some f:=Gx Y;have⟨_,_,s,_⟩:=k d m a n p;cases hf:j.flatten.find? λf=>f.name==nm 104 a with
 |none=>rw[List.find?_eq_none]at hf;exact absurd (by rw[s];simp)<|hf n<|List.mem_flatten.2 ⟨d,m,List.mem_of_getElem? p⟩
 |some b=>
  refine⟨b,Z,?_⟩;have c:=List.find?_some hf;have⟨t,u,v⟩:=List.mem_flatten.1<|List.mem_of_find?_eq_some hf;have⟨q,w⟩:=List.getElem?_of_mem v;have⟨D,g,x,y⟩:=k t u q b w;rw[x]at c;simp only[beq_iff_eq]at c;have E:=(List.getElem?_eq_some_iff.1 g).1;have z:q=a:=by unfold nm at c;injection c with _ c;injection c with c _;have:=congrArg UInt8.toNat c;simp at this;omega
  subst z;rw[l]at g;injection g with g;rw[y,g]
def Ap(a:World)(b:Ending)(w':World):Prop:=b=.returned (.tuple #[])/\Below a a w'
def nC{g:World}{e:Nat}{j:TypeId}(d:∃a b c:Value,g.heap[e]?=some (.cells #[a,b,c] j))(o i:Nat)(u:Value)(m:i<3):∃a b c:Value,(g.setCell ⟨o,i,none⟩ u).heap[e]?=some (.cells #[a,b,c] j):=by
 have⟨a,b,c,d⟩:=d;by_cases k:e=o;subst k;have f:=kt (i:=i) (u:=u) d;have l:i=0\/i=1\/i=2:=Y
 rcases l with rfl|rfl|rfl;exact⟨_,_,_,f⟩;exact⟨_,_,_,f⟩;exact⟨_,_,_,f⟩;exact⟨a,b,c,(Q5 _ _ _ _ k).T d⟩
def lI.Ar{b}:∀{d:Nat} {l:List St},(∀a∈l,mP b d a)->l.length<=kT d l
 |0,l,h=>by cases l with|nil=>simp|cons a l=>exact(h a<|List.mem_cons_self ..).elim
 |d+1,[],_=>by simp
 |d+1,a::l,h=>by have:=Ar (d:=d+1) (l:=l) λc e=>h c<|List.mem_cons_of_mem _ e;simp only[kT,List.map_cons,List.sum_cons,List.length_cons]at this⊢;omega
def lI.pj(a:List Fg)(b:List UInt8):Bool:=a.any λc=>c.name==b
def lI.Mp{g b:Nat}{c}(p:g<=90)(f:rD g c){d}(i:c[b]?=some d):pj (c.take b) d.name=false:=by
 cases hq:pj (c.take b) d.name with
 |false=>rfl
 |true=>
  unfold pj at hq;rw[List.any_eq_true]at hq;have⟨j,k,a⟩:=hq;have⟨l,e⟩:=List.getElem?_of_mem k;rw[List.getElem?_take]at e;split at e;case isFalse=>simp at e
  case isTrue q=>have m:=f.2 l j e;have n:=f.2 b d i;have r:=(List.getElem?_eq_some_iff.1 i).1;have s:=f.1;rw[m,n]at a;simp only[beq_iff_eq]at a;unfold nm at a;injection a with _ a;injection a with a _;have:=congrArg UInt8.toNat a;simp at this;omega
def KC(a b:Lk)(e:Nat)(c:World)(i:c.cell? e=some (tx b.a))(j:c.cell? ⟨e,1,none⟩=some (tx b.b))(k:e<c)(g:(a.a,a.b)≠(b.a,b.b)):
  Calls prog 133 #[.agg #[tx a.a,tx a.b,a.tF],.pointer e] c (kH (.bool false) c):=by
 have l:=nG a.a;have m:=nG a.b;have n:=nG b.a;have p:=nG b.b;by_cases d:a.a=b.a
 .have q:(a.b==b.b)=false:=by rw[TI];intro f;exact g (by rw[d,eq_of_beq f])
  have d:(a.a==b.a)=true:=by simp[d]
  go_enter func133,ntmps133
  go_wp2;go_ret;exact⟨Z,Ba _ _⟩
 .have d:(a.a==b.a)=false:=by rw[TI];intro f;exact d<|eq_of_beq f
  go_enter func133,ntmps133
  go_wp2;go_ret;exact⟨Z,Ba _ _⟩
def lI.NX{i j c:Nat}{d}(k:nQ i j d){e}(b:d[c]?=some e):∀f∈d.take c,(f.a,f.b)≠(e.a,e.b):=by
 intro f l m;have⟨n,a⟩:=List.getElem?_of_mem l;rw[List.getElem?_take]at a;split at a;case isFalse=>simp at a
 case isTrue p=>have q:=(List.getElem?_eq_some_iff.1 b).1;have r:=k.2;have g:=List.pairwise_iff_getElem.1 r n c (by rw[List.length_map];omega) (by rw[List.length_map];exact q) p;have⟨s,a⟩:=List.getElem?_eq_some_iff.1 a;have⟨_,b⟩:=List.getElem?_eq_some_iff.1 b;rw[List.getElem_map,List.getElem_map,a,b]at g;exact g m
def lI.KD{d b:Nat}{a}(e:rD d a):pj a (kV b)=false:=by
 cases hq:pj a (kV b)with
 |false=>rfl
 |true=>unfold pj at hq;rw[List.any_eq_true]at hq;have⟨f,g,c⟩:=hq;have⟨i,j⟩:=List.getElem?_of_mem g;rw[e.2 i f j]at c;simp[nm,kV]at c
def Gk:mQ 199:=λ_ _=>Ut
def PX:Value:=.agg #[Em,Em,.int .i64 0]
def Dp(a:Nat)(b:a<=1000):IntKind.i64.wrap ((a:Int)+1)=((a+1:Nat):Int)/\IntKind.i64.wrap (((a+1:Nat):Int)-1)=(a:Int):=by constructor<;>simp[IntKind.wrap,IntKind.bits,IntKind.signed]<;>omega
def GA:mQ 55:=λ_ _=>Ut
def GC:mQ 53:=λ_ _=>Ut
def GD:mQ 51:=λ_ _=>Ut
abbrev zc(a):=(some ⟨a,3,none⟩:Option Go.Addr)
abbrev zd(a):=(some ⟨a,5,none⟩:Option Go.Addr)
def LZ(a:Int):Nat:=(bits BinOp.and IntKind.u64 (IntKind.u64.wrap<|IntKind.i64.wrap<|-a) 31).toNat
def MF(a:Int):0<=IntKind.u64.wrap a:=Uu
def Ph:Value->Nat
 | .slice _ a _=>a
 |_=>0
def L0:Value->Int
 | .int _ a=>a
 |_=>0
abbrev tC:Array Value:=#[.int .u8 0,.int .u8 0,.int .u8 0,.int .u8 0,.int .u8 0,.int .u8 0,.int .u8 0,.int .u8 0,.int .u8 0,.int .u8 0,.int .u8 0,.int .u8 0,.int .u8 0,.int .u8 0,.int .u8 0,.int .u8 0,.int .u8 0,.int .u8 0,.int .u8 0,.int .u8 0,.int .u8 0,.int .u8 0,.int .u8 0,.int .u8 0,.int .u8 0,.int .u8 0,.int .u8 0,.int .u8 0,.int .u8 0,.int .u8 0,.int .u8 0,.int .u8 0]
def zero32:(tC:Array Value)=Array.replicate 32 (.int .u8 0):=Ut
def oZ.nx(a:List UInt8)(b:List Int):List UInt8:=a++([40]++(Lib.join (b.map Lib.itoa) [44,32]++[41]))
def mg:Rel Int:=λ_ _ a b=>a=[.int .i64 b]
def oZ.FQ(a:UInt8):Bool:=a==45||(decide (48<=a)&&decide (a<=57))
def oZ.oD(a b:List UInt8):Option<|List UInt8:=if a.isPrefixOf b then some (b.drop a.length)else none
def oZ.Fx(a:Nat)(b:a<10):FQ (UInt8.ofNat<|48+a)=true:=by
 have:a=0\/a=1\/a=2\/a=3\/a=4\/a=5\/a=6\/a=7\/a=8\/a=9:=Y
 rcases this with rfl|rfl|rfl|rfl|rfl|rfl|rfl|rfl|rfl|rfl<;>decide
def B8(a:Nat):Lib.itoa (a:Int)=Lib.decDigits a:=by unfold Lib.itoa;rw[Rl Y,RV]
def NZ(a:Int):Lib.formatBool (a==1)=if a=1 then [116,114,117,101]else [102,97,108,115,101]:=by by_cases b:a=1;subst b;rfl;rw[Rl b,QY.2 b];rfl
def kI.qT(a:ByteArray)(b:Nat):Nat:=mr false<|a.data.toList.drop b
abbrev L.FR(a:List UInt8):Value:=.string ⟨a.toArray⟩
def L.pg:Array Value:=(kI.words.map FR).toArray
def qQ.xn:List<|List UInt8:=[[45],[110,111,116],[116,114,117,101],[102,97,108,115,101],[110,111,119],[115,105,122,101],[104,97,115],[40]]
structure PV where
 v1:Value
 v2:Value
 v3:Value
 v4:Value
 lo:Nat
def J2:Rel<|List UInt8×Nat:=λ_ _ b a=>b=[tx a.1,.int .u8 (a.2:Nat)]
def qQ.src:List UInt8:=[102,108,101,101,116,32,102,32,123,32,102,108,97,103,32,115,108,111,119,32,61,32,102,97,108,115,101,59,32,99,111,109,112,111,110,101,110,116,32,102,114,111,110,116,32,123,32,111,110,32,104,40,41,32,123,32,115,101,110,100,32,98,97,99,107,46,103,101,116,40,49,44,32,55,41,59,32,125,32,125,32,99,111,109,112,111,110,101,110,116,32,98,97,99,107,32,123,32,111,110,32,103,101,116,40,105,44,32,106,41,32,123,32,125,32,125,32,125]
def narrateDiffers.Nc:mapsRowed Tryz.pinned.checked.prog=true:=by kernel_rfl
def narrateDiffers.N5:(Rows.narrateDiffersRow.unfollowed==Tryz.pinned.checked.prog.unfollowed 3)=true:=by kernel_rfl
def narrateDiffers.Lj:(Rows.narrateDiffersRow.named==Tryz.pinned.checked.prog.varsNamed 3)=true:=by kernel_rfl
def narrateDiffers.C2:(Rows.narrateDiffersRow.plainKeys==Tryz.pinned.checked.prog.plainKeys)=true:=by kernel_rfl
def narrateDiffers.Nd:(Tryz.pinned.checked.prog.make==some Rows.narrateDiffersRow.make)=true:=by kernel_rfl
def narrateDiffers.Lm:false=Tryz.pinned.checked.prog.looks []:=by kernel_rfl
end Go.Proofs.YtppncjcpdbhobaaGreatDoor
namespace Go.Proofs
open Go.Shelf
open Go.RowKit in
open Go.RowKit in
open Go.RowKit in
def Tryz.vW:Go.Shelf.Ren:=⟨fun|156=>65|165=>106|166=>89|169=>49|240=>140|241=>154|276=>183|277=>188|n=>n,fun|31=>62|9=>9|3=>3|4=>4|0=>0|20=>20|72=>153|76=>215|70=>151|37=>22|75=>214|127=>219|164=>315|5=>5|80=>158|n=>n,fun|n=>n⟩
def Tryz.uv:Go.Proofs.Lays.n156 Tryz.prog Tryz.vW:={
 mixed:=by kernel_rfl
 f156:=Tryz.func65.trans (congrArg some (by kernel_rfl))
 f165:=Tryz.func106.trans (congrArg some (by kernel_rfl))
 f166:=Tryz.func89.trans (congrArg some (by kernel_rfl))
 f169:=Tryz.func49.trans (congrArg some (by kernel_rfl))
 f240:=Tryz.func140.trans (congrArg some (by kernel_rfl))
 f241:=Tryz.func154.trans (congrArg some (by kernel_rfl))
 f276:=Tryz.func183.trans (congrArg some (by kernel_rfl))
 f277:=Tryz.func188.trans (congrArg some (by kernel_rfl))
 t0:=Tryz.underlying0
 a0:=Tryz.isAgg0
 z0:=Tryz.sizeOf0
 v0:=Tryz.zeroValue0
 t3:=Tryz.underlying3
 a3:=Tryz.isAgg3
 z3:=Tryz.sizeOf3
 v3:=Tryz.zeroValue3
 t4:=Tryz.underlying4
 a4:=Tryz.isAgg4
 z4:=Tryz.sizeOf4
 v4:=Tryz.zeroValue4
 t9:=Tryz.underlying9
 a9:=Tryz.isAgg9
 z9:=Tryz.sizeOf9
 v9:=Tryz.zeroValue9
 t20:=Tryz.underlying20
 a20:=Tryz.isAgg20
 z20:=Tryz.sizeOf20
 v20:=Tryz.zeroValue20
 t31:=Tryz.underlying62
 a31:=Tryz.isAgg62
 z31:=Tryz.sizeOf62
 v31:=Tryz.zeroValue62
 t37:=Tryz.underlying22
 a37:=Tryz.isAgg22
 z37:=Tryz.sizeOf22
 v37:=Tryz.zeroValue22
 t70:=Tryz.underlying151
 a70:=Tryz.isAgg151
 z70:=Tryz.sizeOf151
 v70:=Tryz.zeroValue151
 t72:=Tryz.underlying153
 a72:=Tryz.isAgg153
 z72:=Tryz.sizeOf153
 v72:=Tryz.zeroValue153
 t75:=Tryz.underlying214
 a75:=Tryz.isAgg214
 z75:=Tryz.sizeOf214
 v75:=Tryz.zeroValue214
 t76:=Tryz.underlying215
 a76:=Tryz.isAgg215
 z76:=Tryz.sizeOf215
 v76:=Tryz.zeroValue215
 t127:=Tryz.underlying219
 a127:=Tryz.isAgg219
 z127:=Tryz.sizeOf219
 v127:=Tryz.zeroValue219
 t164:=Tryz.underlying315
 a164:=Tryz.isAgg315
 z164:=Tryz.sizeOf315
 v164:=Tryz.zeroValue315}
def Tryz.qM:Builder.Extra Tryz.prog Tryz.vW:={
 sizeBuilder:=by kernel_rfl
 liesBuilder:=by kernel_rfl
 t5:=Tryz.underlying5
 a5:=Tryz.isAgg5
 z5:=Tryz.sizeOf5
 v5:=Tryz.zeroValue5
 infoByte:=by kernel_rfl
 cellsByte:=by kernel_rfl
 sizeByte:=by kernel_rfl
 neB5:=by decide}
open Go.RowKit in
def Tryz.strings_Join_none(a:Option Addr)(c:Nat)(sep:ByteArray)(w:World):
 Calls Tryz.prog 65 #[.slice a 0 c,.string sep] w fun e w'=>e=.returned (.string ⟨#[]⟩)∧w'=w:=Any.strings_Join_none Tryz.uv Tryz.qM a c sep w
open Go.RowKit in
def Tryz.strings_Join(bk o c:Nat)(xs:List ByteArray)(sep:ByteArray)(w:World)(Ml:∀(j:Nat) x,xs[j]?=some x→w.cell? ⟨bk,o+j,none⟩=some (.string x))(QI:bk<w.heap.size)(hN:xs.length≤140737488355328)(O4:xs.length≤c)(hlen:(Lib.join (xs.map (·.data.toList)) sep.data.toList).length≤140737488355328):
 Calls Tryz.prog 65 #[.slice (some ⟨bk,o,none⟩) xs.length c,.string sep] w fun e w'=>e=.returned (.string ⟨(Lib.join (xs.map (·.data.toList)) sep.data.toList).toArray⟩)∧Below w.heap.size w w':=Any.strings_Join Tryz.uv Tryz.qM bk o c xs sep w Ml QI hN O4 hlen
def Tryz.CB:Go.Shelf.Ren:=⟨fun|121=>35|214=>64|n=>n,fun|4=>4|9=>9|n=>n,fun|n=>n⟩
def Tryz.Kw:Go.Proofs.Lays.n121 Tryz.prog Tryz.CB:={Tryz.uv with f121:=Tryz.func35.trans (congrArg some (by kernel_rfl)),f214:=Tryz.func64.trans (congrArg some (by kernel_rfl))}
open Go.RowKit in
def Tryz.strconv_FormatBool(b:Bool)(w:World):
 Calls Tryz.prog 35 #[.bool b] w fun e w'=>e=.returned (.string ⟨(Lib.formatBool b).toArray⟩)∧w'=w:=Any.strconv_FormatBool Tryz.Kw b w
def Tryz.CC:Go.Shelf.Ren:=⟨fun|122=>98|215=>146|n=>n,fun|3=>3|4=>4|n=>n,fun|n=>n⟩
def Tryz.Ky:Go.Proofs.Lays.n122 Tryz.prog Tryz.CC:={Tryz.uv with f122:=Tryz.func98.trans (congrArg some (by kernel_rfl)),f215:=Tryz.func146.trans (congrArg some (by kernel_rfl))}
open Go.RowKit in
def Tryz.cmp_Compare_int(x y:Int)(w:World):
 Calls Tryz.prog 98 #[.int .i64 x,.int .i64 y] w fun e w'=>e=.returned (.int .i64 (Lib.compareInt x y))∧w'=w:=Any.cmp_Compare_int Tryz.Ky x y w
def Tryz.pO:Go.Shelf.Ren:=⟨fun|171=>15|243=>38|246=>62|283=>102|284=>103|285=>104|286=>105|129=>150|317=>149|318=>151|319=>152|320=>153|337=>186|338=>187|173=>33|n=>n,fun|171=>234|53=>225|37=>22|173=>237|212=>278|51=>222|213=>279|46=>229|232=>88|233=>224|n=>n,fun|17=>1|18=>6|19=>7|n=>n⟩
def Tryz.xf:Go.Proofs.LaysM.n171 Tryz.prog Tryz.pO:={
 mixed:=by kernel_rfl
 f129:=Tryz.func150.trans (congrArg some (by kernel_rfl))
 f171:=Tryz.func15.trans (congrArg some (by kernel_rfl))
 f243:=Tryz.func38.trans (congrArg some (by kernel_rfl))
 f246:=Tryz.func62.trans (congrArg some (by kernel_rfl))
 f283:=Tryz.func102.trans (congrArg some (by kernel_rfl))
 f284:=Tryz.func103.trans (congrArg some (by kernel_rfl))
 f285:=Tryz.func104.trans (congrArg some (by kernel_rfl))
 f286:=Tryz.func105.trans (congrArg some (by kernel_rfl))
 f317:=Tryz.func149.trans (congrArg some (by kernel_rfl))
 f318:=Tryz.func151.trans (congrArg some (by kernel_rfl))
 f319:=Tryz.func152.trans (congrArg some (by kernel_rfl))
 f320:=Tryz.func153.trans (congrArg some (by kernel_rfl))
 f337:=Tryz.func186.trans (congrArg some (by kernel_rfl))
 f338:=Tryz.func187.trans (congrArg some (by kernel_rfl))
 t0:=Tryz.underlying0
 a0:=Tryz.isAgg0
 z0:=Tryz.sizeOf0
 v0:=Tryz.zeroValue0
 t2:=Tryz.underlying2
 a2:=Tryz.isAgg2
 z2:=Tryz.sizeOf2
 v2:=Tryz.zeroValue2
 t3:=Tryz.underlying3
 a3:=Tryz.isAgg3
 z3:=Tryz.sizeOf3
 v3:=Tryz.zeroValue3
 t4:=Tryz.underlying4
 a4:=Tryz.isAgg4
 z4:=Tryz.sizeOf4
 v4:=Tryz.zeroValue4
 t5:=Tryz.underlying5
 a5:=Tryz.isAgg5
 z5:=Tryz.sizeOf5
 v5:=Tryz.zeroValue5
 t9:=Tryz.underlying9
 a9:=Tryz.isAgg9
 z9:=Tryz.sizeOf9
 v9:=Tryz.zeroValue9
 t20:=Tryz.underlying20
 a20:=Tryz.isAgg20
 z20:=Tryz.sizeOf20
 v20:=Tryz.zeroValue20
 t37:=Tryz.underlying22
 a37:=Tryz.isAgg22
 z37:=Tryz.sizeOf22
 v37:=Tryz.zeroValue22
 t46:=Tryz.underlying229
 a46:=Tryz.isAgg229
 z46:=Tryz.sizeOf229
 v46:=Tryz.zeroValue229
 t51:=Tryz.underlying222
 a51:=Tryz.isAgg222
 z51:=Tryz.sizeOf222
 v51:=Tryz.zeroValue222
 t53:=Tryz.underlying225
 a53:=Tryz.isAgg225
 z53:=Tryz.sizeOf225
 v53:=Tryz.zeroValue225
 t171:=Tryz.underlying234
 a171:=Tryz.isAgg234
 z171:=Tryz.sizeOf234
 v171:=Tryz.zeroValue234
 t173:=Tryz.underlying237
 a173:=Tryz.isAgg237
 z173:=Tryz.sizeOf237
 v173:=Tryz.zeroValue237
 t212:=Tryz.underlying278
 a212:=Tryz.isAgg278
 z212:=Tryz.sizeOf278
 v212:=Tryz.zeroValue278
 t213:=Tryz.underlying279
 a213:=Tryz.isAgg279
 z213:=Tryz.sizeOf279
 t232:=Tryz.underlying88
 a232:=Tryz.isAgg88
 z232:=Tryz.sizeOf88
 v232:=Tryz.zeroValue88
 t233:=Tryz.underlying224
 a233:=Tryz.isAgg224
 z233:=Tryz.sizeOf224
 v233:=Tryz.zeroValue224
 g17:=by kernel_rfl
 g18:=by kernel_rfl
 g19:=by kernel_rfl
 i0:=by kernel_rfl
 i2:=by kernel_rfl
 i3:=by kernel_rfl
 i4:=by kernel_rfl
 i5:=by kernel_rfl
 i9:=by kernel_rfl
 i20:=by kernel_rfl
 i37:=by kernel_rfl
 i46:=by kernel_rfl
 i51:=by kernel_rfl
 i53:=by kernel_rfl
 i171:=by kernel_rfl
 i173:=by kernel_rfl
 i212:=by kernel_rfl
 i232:=by kernel_rfl
 i233:=by kernel_rfl
 m17:=by kernel_rfl
 m18:=by kernel_rfl
 m19:=by kernel_rfl}
open Go.RowKit Go.Sort Go.Lib in
def Tryz.strconv_Itoa(n:Int)(h0: -9223372036854775808≤n)(h1:n≤9223372036854775807)(w:World)(LS:Lib.TabIs Tryz.prog w "internal/strconv.uint64pow10" .u64 Lib.pow10Tab):
 Calls Tryz.prog 15 #[.int .i64 n] w fun e w'=>e=.returned (.string ⟨(Lib.itoa n).toArray⟩)∧∃k os,w'=grow (w.drewN k) os:=Any.strconv_Itoa Tryz.xf n h0 h1 w LS
def Tryz.Kz:Go.Proofs.Lays.n171 Tryz.prog Tryz.pO:={Tryz.xf with}
open Go.RowKit Go.Sort Go.Lib in
def Tryz.strconv_Itoa_small(i:Nat)(hi:i<100)(w:World):
 Calls Tryz.prog 15 #[.int .i64 i] w fun e w'=>e=.returned (.string ⟨(Lib.decDigits i).toArray⟩)∧w'=w:=Any.strconv_Itoa_small Tryz.Kz i hi w
def Tryz.BO:Go.Proofs.LaysM.n173 Tryz.prog Tryz.pO:={Tryz.xf with f173:=Tryz.func33.trans (congrArg some (by kernel_rfl))}
open Go.RowKit Go.Sort Go.Lib in
def Tryz.strconv_FormatInt_10(n:Int)(h0: -9223372036854775808≤n)(h1:n≤9223372036854775807)(w:World)(LS:Lib.TabIs Tryz.prog w "internal/strconv.uint64pow10" .u64 Lib.pow10Tab):
 Calls Tryz.prog 33 #[.int .i64 n,.int .i64 10] w fun e w'=>e=.returned (.string ⟨(Lib.itoa n).toArray⟩)∧∃k os,w'=grow (w.drewN k) os:=Any.strconv_FormatInt_10 Tryz.BO n h0 h1 w LS
def Tryz.KA:Go.Proofs.Lays.n173 Tryz.prog Tryz.pO:={Tryz.BO with}
open Go.RowKit Go.Sort Go.Lib in
def Tryz.strconv_FormatInt_10_small(i:Nat)(hi:i<100)(w:World):
 Calls Tryz.prog 33 #[.int .i64 i,.int .i64 10] w fun e w'=>e=.returned (.string ⟨(Lib.decDigits i).toArray⟩)∧w'=w:=Any.strconv_FormatInt_10_small Tryz.KA i hi w
def Tryz.DT:Go.Shelf.Ren:=⟨fun|99=>157|206=>189|n=>n,fun|9=>9|4=>4|3=>3|n=>n,fun|n=>n⟩
def Tryz.Mn:Go.Proofs.Lays.n99 Tryz.prog Tryz.DT:={Tryz.uv with f99:=Tryz.func157.trans (congrArg some (by kernel_rfl)),f206:=Tryz.func189.trans (congrArg some (by kernel_rfl))}
open Go.RowKit Go.Lib in
def Tryz.strings_HasPrefix(s p:ByteArray)(w:World):
 Calls Tryz.prog 157 #[.string s,.string p] w fun e w'=>e=.returned (.bool (Lib.hasPrefix s.data.toList p.data.toList))∧w'=w:=Any.strings_HasPrefix Tryz.Mn s p w
open Go.Lib in
open Go.Lib in
open Go.Lib in
open Go.Lib in
def Tryz.yA:Go.Shelf.Ren:=⟨fun|16=>145|n=>n,fun|24=>62|9=>9|4=>4|n=>n,fun|n=>n⟩
def Tryz.vr:Go.Proofs.Lays2.n16 Tryz.prog Tryz.yA:={
 mixed:=by kernel_rfl
 f16:=Tryz.func145.trans (congrArg some (by kernel_rfl))
 t4:=Tryz.underlying4
 a4:=Tryz.isAgg4
 z4:=Tryz.sizeOf4
 v4:=Tryz.zeroValue4
 t9:=Tryz.underlying9
 a9:=Tryz.isAgg9
 z9:=Tryz.sizeOf9
 v9:=Tryz.zeroValue9
 t24:=Tryz.underlying62
 a24:=Tryz.isAgg62
 z24:=Tryz.sizeOf62
 v24:=Tryz.zeroValue62
 i9:=by kernel_rfl}
open Go.RowKit Go.Lib in
def Tryz.slices_Clone_string(b off n c:Nat)(zs:List ByteArray)(w:World)(hz:n≤zs.length)(O5:n*16≤140737488355328)(hc:∀j,j<zs.length→w.cell? ⟨b,off+j,none⟩=some (.string (zs.getD j ByteArray.empty))):
 Calls Tryz.prog 145 #[.slice (some ⟨b,off,none⟩) n c] w fun e w'=>∃v',e=.returned v'∧w'.ownsRow w.heap.size 9 1 v' n ((zs.take n).map (Value.string))∧v'≠.slice none 0 0∧Below w.heap.size w w':=Any.slices_Clone_string Tryz.vr b off n c zs w hz O5 hc
open Go.RowKit Go.Lib in
def Tryz.slices_Clone_string_nil(n c:Nat)(w:World):
 Calls Tryz.prog 145 #[.slice none n c] w fun e w'=>e=.returned (.slice none 0 0)∧w'=w:=Any.slices_Clone_string_nil Tryz.vr n c w
open Go.RowKit Go.Lib in
def Tryz.slices_Clone_string_zero(a:Addr)(c:Nat)(w:World):
 Calls Tryz.prog 145 #[.slice (some a) 0 c] w fun e w'=>∃v',e=.returned v'∧w'.ownsRow w.heap.size 9 1 v' 0 []∧v'≠.slice none 0 0∧Below w.heap.size w w':=Any.slices_Clone_string_zero Tryz.vr a c w
end Go.Proofs
