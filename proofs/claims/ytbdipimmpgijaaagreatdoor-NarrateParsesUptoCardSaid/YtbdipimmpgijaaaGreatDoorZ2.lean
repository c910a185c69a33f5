import Derived.Test.YtbdipimmpgijaaaGreatDoorZ1
set_option maxRecDepth 1000000
set_option maxHeartbeats 32000000
set_option linter.all false
namespace Go.Proofs.YtbdipimmpgijaaaGreatDoor
open RowKit Go.Proofs.Tryz lH Maps oa qR ChangeShapes WideShapes ChangeAt
def ly.snoc{a:Type}{b:List R0->a->Prop}{r}{x:a}(c:b r x):∀{d:List<|List R0} {e:List a},ly b d e->ly b (d++[r]) (e++[x])
 |[],[],_=>⟨c,trivial⟩
 |_::_,_::_,⟨h1,h2⟩=>⟨h1,ly.snoc c h2⟩
 |[],_::_,h=>h.elim
 |_::_,[],h=>h.elim
def ly.app{a:Type}{b:List R0->a->Prop}{c}{d:List a}(e:ly b c d):∀{f:List<|List R0} {g:List a},ly b f g->ly b (f++c) (g++d)
 |[],[],_=>e
 |_::_,_::_,⟨h1,h⟩=>⟨h1,ly.app e h⟩
 |[],_::_,h=>h.elim
 |_::_,[],h=>h.elim
def kJ.sl{f:Type}{d:Rel f}{T k:Nat}(ok:lh d k){P w}{e:Nat}{v}{g:List f}(p:kJ d T k P w e v g):kz d (λb=>(P b\/e<=b)/\b<w) w v g:=by
 have⟨i,j,q⟩:=p.own;have l:=q.imp λA B r=>ok.M r (T:=λb=>(P b\/e<=b)/\b<w) λb a=>⟨.inl a.1,a.2.1⟩
 rcases j.2 with⟨rfl,m⟩|⟨s,t,C,rfl,a,n,u,x,D,y⟩
 refine⟨none,0,i,by rw[m],Y,Y,λz=>?_,l⟩;have:=j.1;rw[m,S5]at this;exact absurd (RI this) z;refine⟨_,t,i,Z,u,x,λ_=>⟨s,0,Z,⟨.inr a,(QP.1 n).1⟩,λE F c=>?_⟩,l⟩;rw[Q7];rw[<-y,Sd]at c;split at c;simp only[World.cell?,n];simpa using c;cases c
def kJ.snoc{i:Type}{e:Rel i}{p k:Nat}(ok:lh e k){P:Nat->Prop}{w j:RW}{q:Nat}{f g:R0}{l:List i}{m:List<|List R0}{r:List R0}{x:i}{o:Obj}
  (t:ly (e (λa=>P a/\a<w/\some a≠f.ownBlock) w) m l) (n:e (λa=>P a/\a<w/\some a≠f.ownBlock) w r x)
  (u:j.ownsRow q p k g (l.length+1)<|m.flatten++r) (s:(w.alloc o).grownBy j f.ownBlock) (c:g.ownBlock=f.ownBlock\/g.ownBlock=some (w.heap.size+1)):kJ e p k P j q g<|l++[x]:=by
 have v:=s.size;rw[QR]at v;refine⟨m++[r],?_,?_⟩
 .rw[Q3];simpa using u
 .refine(ly.snoc n t).imp λr x n=>ok.M (ok.kv n λa d=>?_) λa d=>⟨d.1,Y,λb=>?_⟩
  exact(s.B a (by rw[QR];omega) λb=>d.2.2 b).T (Q5 w o d.2.1);rcases c with c|c;exact d.2.2<|b.T c;rw[c]at b;injection b with b;omega
def kO{n:Type}{P:Program}{w:RW}{C:Array Oper}{D:List Oper}{o}{k:Act}{E:Exit->Act->RW->Prop}(K:o.guard=none)(F p:Operand)(l:TypeId)
  (L:o.op=.call {callee:=.builtin .append,args:=#[F,p],argTypes:=#[l,l]})
  (g:Nat) (a:TypeId) (i:TypeInfo) (z:R0) (c q:Nat) (M:P.underlying l=some (.slice a)) (N:P.info? a=some i) (O:i.zero=some z)
  (Q:i.size=c) (R:i.bytes=q) (S:z.cells.size=c)
  {j:Rel n} (ok:lh j c) (m:Nat->Prop) (v:R0) (f:List n) (T:k.eval F=v) (U:kJ j a c m w g v f)
  (s:Addr) (r:List R0) (t:n) (x:k.eval p=.slice (some s) 1 1) (V:∀G u,r[G]?=some u->w.cell? (s.add G)=some u)
  (y:j (λb=>m b/\b<w/\some b≠v.ownBlock) w r t)
  (aa:f.length+1<=maxLen) (ab:(f.length+1)*q<=140737488355328) (ac:g<=w)
  (ad:∀d w',kJ j a c m w' g d (f++[t])->w.grownBy w' v.ownBlock->(d.ownBlock=v.ownBlock\/d.ownBlock=some w.heap.size)->wpList P C E D (k.put o.dst d) w'):wpList P C E (o::D) k w:=by
 have⟨I,ae,af⟩:=U.own;have⟨d,w',ag,ah,A,_,J⟩:=TG (P:=P) w g l o.type a i z c q M N O Q R S ok.pos v f.length I.flatten ae s 1 1 r (by rw[ok.len y];omega) V (ok.one y) aa ab ac;have ai:kJ j a c m w' g d<|f++[t]:=by
  refine⟨I++[r],?_,?_⟩;rw[Q3];simpa using ah;refine(ly.snoc y af).imp λr p x=>ok.M (ok.kv x λb e=>A.B b e.2.1 λa=>e.2.2 a) λb e=>⟨e.1,QO e.2.1 A.size,λa=>?_⟩
  rcases J with B|B;exact e.2.2<|a.T B;rw[B]at a;injection a with a;exact absurd e.2.1 Y
 refine Uf K λak aj=>?_;unfold Oper.wp execOp;simp only[L,resolve,invoke,builtin,RD,RF,Ro,Rv,Rq,RG,T,x,ag];exact aj _ _<|ad d w' ai A J
def kz.imp{a:Type}{b c:Rel a}{S w v}{d:List a}(f:kz b S w v d)(g:∀r e,b S w r e->c S w r e):kz c S w v d:=by have⟨i,j,k,l,m,n,p,q⟩:=f;exact⟨i,j,k,l,m,n,p,q.imp g⟩
def kP.up(a:IntKind):∀{d b:Nat} {S:Nat->Prop} {w:RW} {c:List R0} {e:Ex},d<=b->kP a d S w c e->kP a b S w c e
 |0,_,_,_,_,_,_,h=>h.elim
 |d+1,0,_,_,_,_,hd,_=>Y
 |d+1,b+1,_,_,_,_,hd,⟨v,h,hs⟩=>⟨v,h,hs.imp λ_ _ f=>kP.up a Y f⟩
def kR.up(a:IntKind):∀{d b:Nat} {S:Nat->Prop} {w:RW} {e:List R0} {f:St},d<=b->kR a d S w e f->kR a b S w e f
 |0,_,_,_,_,_,_,h=>h.elim
 |d+1,0,_,_,_,_,hd,_=>Y
 |d+1,b+1,_,_,_,_,hd,⟨v1,v2,v3,h,h1,h2,h3⟩=>⟨v1,v2,v3,h,h1,h2.imp λ_ _ c=>kR.up a Y c,h3.imp λ_ _ c=>kR.up a Y c⟩
def lH.Im(a)(b:Nat):qN a (b+1)=qN a b++[nm a b]:=by simp[qN,List.range_succ]
def lH.lM.up{i}:∀{d j:Nat} {l:Ex},d<=j->lM i d l->lM i j l
 |0,_,_,_,h=>h.elim
 |d+1,0,_,hd,_=>by omega
 |d+1,j+1,l,hd,h=>by
  have k:∀{m:Ex},lM i d m->lM i j m:=λn=>lM.up Y n;rcases h with h|h|h|⟨a,b,c,p,e,f,g⟩|h|⟨a,b,c,e,f,g⟩|⟨a,b,c,e,q,f,g,r⟩
  exact .inl h;exact .inr<|.inl h;exact .inr<|.inr<|.inl h;exact .inr<|.inr<|.inr<|.inl ⟨a,b,c,p,e,f,k g⟩;exact .inr<|.inr<|.inr<|.inr<|.inl h;exact .inr<|.inr<|.inr<|.inr<|.inr<|.inl ⟨a,b,c,e,f,k g⟩;exact .inr<|.inr<|.inr<|.inr<|.inr<|.inr ⟨a,b,c,e,q,f,k g,k r⟩
def lH.ny.up{i}:∀{d j:Nat} {l:Ex},d<=j->ny i d l->ny i j l
 |0,_,_,_,h=>h.elim
 |d+1,0,_,hd,_=>by omega
 |d+1,j+1,l,hd,h=>by
  have m:∀{k:Ex},ny i d k->ny i j k:=λn=>ny.up Y n;have p:∀{k:Ex},lM i d k->lM i j k:=λn=>lM.up Y n;rcases h with h|h|⟨a,b,c,s,e,f,g⟩|⟨a,b,c,e,f,g⟩|⟨a,b,c,e,q,f,g,r⟩|⟨a,b,c,e,q,f,g,r⟩
  exact .inl h;exact .inr<|.inl h;exact .inr<|.inr<|.inl ⟨a,b,c,s,e,f,p g⟩;exact .inr<|.inr<|.inr<|.inl ⟨a,b,c,e,f,m g⟩;exact .inr<|.inr<|.inr<|.inr<|.inl ⟨a,b,c,e,q,f,m g,m r⟩;exact .inr<|.inr<|.inr<|.inr<|.inr ⟨a,b,c,e,q,f,p g,p r⟩
def mG(w:RW)(a:List R0)(c:TypeId):∀b u,a[b]?=some u->(w.alloc<|.cells a.toArray c).cell? ((w:Addr).add b)=some u:=by
 intro b u e;have f:(w.alloc<|.cells a.toArray c).heap[w.heap.size]?=some (.cells a.toArray c (0,0)):=QQ w _;have d:=kA f b u (by simpa using e);unfold Addr.add;split
 rename_i g;subst g;exact d
 simpa using d
def rK:(prog.info? 9).map (λi=>(i.zero,i.size,i.bytes))=some (some Em,1,16):=Up
def sS(a b:Int)(w):Calls prog 27 #[.int .i64 a,b] w λd w'=>d=.returned (.int .i64 (if a<b then a else b))/\w=w':=by
 by_cases c:a<b;all_goals
  go_enter func27,ntmps27
  go_wp2;go_ret;first|(rw[RB c];exact⟨Z,Z⟩)|(rw[Rh c];exact⟨Z,Z⟩)|simp
def mV(c:List RK)(w:RW)(d:Ending)(a:RW):Prop:=∃b,d=.returned b/\kJ kM 9 1 (λ_=>False) a w b c/\Below w w a
abbrev BY(a b):=(.cells #[.int .u8 (a:Int),.int .u8<|48+(b:Int)] 5:Go.Obj)
def JT(b:RW)(c:UInt8)(a:Nat)(j:a<10):(convert 22 9 (b,2,2)).run prog (b.alloc<|BY c.toNat a)=.ok (tx<|nm c a) (b.alloc<|BY c.toNat a):=by
 have:=run_convert_bytes_back (P:=prog) (b.alloc<|BY c.toNat a) 22 9 5 ⟨b,0,none⟩ 2 (nm c a) underlying22 underlying5 underlying9 (λd e=>by
  have f:d=0\/d=1:=by have:d<2:=e;omega
  have g:((UInt8.ofNat<|48+a).toNat:Int)=48+(a:Int):=Us
  rcases f with rfl|rfl;exact kt (QQ b _) 0;have i:(b:Addr).add 1=⟨b,1,none⟩:=Z;rw[i];refine kA (QQ b _) 1 _ ?_;show some (Value.int .u8<|48+(a:Int))=some (Value.int .u8 ((UInt8.ofNat<|48+a).toNat:Int));rw[g])
 exact this
def kz.HQ{e f}{b o i j:Nat}{g}(k:kz kM e f (.slice (mw b o) i j) g)(c:Nat)(a)(l:g[c]?=some a):e b/\f.cell? ⟨b,o+c,none⟩=some (tx a):=by have⟨u,v,m,d,n,p,q⟩:=k.ll kM.ok c a l;injection d with d;injection d with r s;subst r s;have t:m=[tx a]:=p;have:=q 0 (tx a) (by rw[t];rfl);exact⟨n,by simpa using this⟩
def sG(e:Nat->Prop)(a:Nat)(b:Sc)(left:Nat)(w:RW)(f:Ending)(c:RW):Prop:=∃d:Nat,d<b.ints/\f=.returned (tx<|nm 120 d)/\kT e c a b left/\w.grownBy c (some a)
def kz.Ho{d:Type}{b:Rel d}{e:Nat}(ok:lh b e){S w r}{x:d}{T}(f:b S w r x)(g:∀a,S a->a<w):kz b (λa=>S a\/a=w) (w.alloc<|.cells r.toArray T) (.slice w 1 1) [x]:=by refine⟨_,1,[r],Z,QX _,Y,λ_=>⟨w,0,Z,.inr Z,λi j k=>?_⟩,⟨ok.M (ok.kv f λa c=>Q5 w _<|g a c) λa c=>.inl c,trivial⟩⟩;rw[Q7];exact kA (QQ w _) i j (by simpa using k)
noncomputable def tX(a:Func)(n:Nat):Code:=(a.body.bind<|vJ n).getD .skip
abbrev lk(a b c d e f):=(.cells #[.int .i64 a,tx b,c,.slice d e f] 200:Go.Obj)
abbrev sC:=(#[.int .i64 0,Em,.int .i64 0,Nl]:Array Go.Value)
abbrev vm:=(.cells #[.int .i64 14,.int .i64 15,.int .i64 11,.int .i64 12,.int .i64 13,.int .i64 14] 3:Go.Obj)
abbrev As(a b):=(#[.pointer a,.int .i64<|(b:Int)+1]:Array Go.Value)
abbrev IF(a):=(#[.int .i64 1,tx [],.int .i64<|(a:Int),Nl]:Array Go.Value)
def HR:(prog.info? 200).map (λa=>(a.zero,a.size,a.bytes))=some (some<|.agg sC,4,56):=Up
def kT.sx{d w w'}{e:Nat}{i}{left:Nat}{f}(c:kT d w e i left)(g:w.grownBy w' f)(k:some e≠f)(l:∀a,d a->some a≠f):kT d w' e i left:=by have⟨m,n,p,b,q,r⟩:=c.ll;have j:∀a,d a->w'.heap[a]?=w.heap[a]?:=λa b=>g.B a (c.lK a b).2<|l a b;exact⟨⟨m,n,p,(g.B e c.lt k).T b,q.kv qq.ok j,r.kv qO.ok j⟩,λa b=>⟨(c.lK a b).1,QO (c.lK a b).2 g.size⟩⟩
def uB(S:Nat->Prop)(a:Nat)(d:Sc)(left n:Nat)(w:RW)(g:Ending)(b:RW):Prop:=
 ∃(e:R0) (c:List Ex),g=.returned e/\kJ (kP .i64 3) 200 4 (λf=>w<=f/\f≠a) b w e c/\c.length=n/\(∀i∈c,lM d 3 i)/\kT S b a d left/\w.grownBy b (some a)
abbrev Ly(a):=(#[.pointer a,.int .i64 1]:Array Go.Value)
def pV.start{S}{a:Nat}{c}{left:Nat}{w}(b:kT S w a c left)(T d):pV S a c left T d w (w.alloc<|.cells d T):=
 ⟨QQ w _,b.ku<|Ba w _,QV w _<|some a,b.lt,λe f=>(b.lK e f).2⟩
def nU{c:Type}{b:Rel c}{i:Nat}(ok:lh b i){j:Nat}{w d a e}{f:c}(l:w.heap.size<d.heap.size)(k:b (FH d a j) a e f):b (New w a) a e f:=
 ok.M k λm g=>⟨W g.1,g.2.1⟩
def qi{e:Type}{b:Rel e}{m:Nat}(ok:lh b m){f:Nat}{w c d g}{i:e}(n:b (New w c) c g i)(p:f<w)(j:c.grownBy d<|some f):b (New w d) d g i:=
 ok.M (ok.kv n λk a=>j.B k a.2 (λl=>by injection l with l;have:=a.1;omega)) λk a=>⟨a.1,QO a.2 j.size⟩
def pn{d:Type}{b:Rel d}{f:Nat}(ok:lh b f){w a c}{e:d}{T}(j:w.heap.size<a.heap.size)(g:b (New w a) a c e):kz b (New w<|a.alloc<|.cells c.toArray T) (a.alloc<|.cells c.toArray T) (.slice a 1 1) [e]:=
 (kz.Ho ok g λi hb=>hb.2).M ok λi hb=>by unfold New;rw[QR];rcases hb with hb|hb;exact⟨hb.1,W hb.2⟩;exact⟨Y,Y⟩
def wF{e:Type}{b:Rel e}{i:Nat}(ok:lh b i){w a c d}{f g:e}{T}(m:w.heap.size<a.heap.size)(j:b (New w a) a c f)(k:b (New w a) a d g):kz b (New w<|a.alloc<|.cells (c++d).toArray T) (a.alloc<|.cells (c++d).toArray T) (.slice a 2 2) [f,g]:=
 (kz.Nj ok j k λl hb=>hb.2).M ok λl hb=>by unfold New;rw[QR];rcases hb with hb|hb;exact⟨hb.1,W hb.2⟩;exact⟨Y,Y⟩
def EPost(l:Ex->Prop)(m:Nat->Prop)(b:Nat)(n:Sc)(left d:Nat)(w:RW)(p:Ending)(a:RW):Prop:=
 ∃(c e:Int) (f:RK) (g:RE) (i j:Nat) (k:Ex),p=.returned (.agg #[.int .i64 c,tx f,e,(g,i,j)])/\kP .i64 d (FH w a b) a [.int .i64 c,tx f,e,(g,i,j)] k/\l k/\kT m a b n left/\w.grownBy a (some b)
def vK{q:Ex->Prop}{j}{k:Nat}{r}{left d:Nat}{T s w c}{op n:Int}{name:RK}{l:RE}{m p:Nat}{args:List Ex}(e:pV j k r left T s w c)
  (t:kz (kP .i64 d) (New w c) c (.slice l m p) args) (u:q<|.mk op name n args) (v x y z:R0):
  EPost q j k r left (d+1) w (.returned<|.agg<|mT op name n l m p) ((((c.setCell w v).setCell (sd w) x).setCell (rm w) y).setCell (sz w) z):=by
 have f:w≠k:=W e.yj
 have g:∀a,j a->a≠w:=λa b=>W<|e.hS a b
 have i:∀a,New w c a->a≠w:=λa b=>W b.1
 refine⟨op,n,name,l,m,p,.mk op name n args,Z,⟨_,Z,?_⟩,u,(((e.hm.mH f g).mH f g).mH f g).mH f g,nb<|nb<|nb<|nb e.hg⟩;refine((((t.mH (kP.ok _ _) i).mH (kP.ok _ _) i).mH (kP.ok _ _) i).mH (kP.ok _ _) i).M (kP.ok _ _) λa b=>⟨W b.1,by simp only[QU];exact b.2,Ul b.1 e.yj⟩
def oM{c:Ex->Prop}{e}{f:Nat}{g}{left d:Nat}{T t w a}{o:Obj}{op n:Int}{name:RK}{i:RE}{j k:Nat}{args:List Ex}(l:pV e f g left T t w a)
  (u:kz (kP .i64 d) (New w<|a.alloc o) (a.alloc o) (.slice i j k) args) (v:c<|.mk op name n args) (m p q r:R0):
  EPost c e f g left (d+1) w (.returned<|.agg<|mT op name n i j k) (((((a.setCell w m).setCell (sd w) p).setCell (rm w) q).setCell (sz w) r).alloc o):=by
 have b:=l.lt;have s:=vK (l.alloc o) u v m p q r;rw[RJ o _ _ _ b,RJ o _ _ _ (by rw[QU];exact b),RJ o _ _ _ (by simp only[QU];exact b),RJ o _ _ _<|by simp only[QU];exact b]at s;exact s
def wu{u:Type}{P}{w:RW}(j)(v:TypeId)(g i p)(e q:Nat)(x:P.underlying j=some (.slice g))(y:P.info? g=some i)(N:i.zero=some p)
  (O:i.size=e) (Q:i.bytes=q) (R:p.cells.size=e) {l:Rel u} (ok:lh l e) {S:Nat->Prop} (T:∀a,S a->a<w) {m:Addr} {b:Nat} {z c:List u} {A:R0}
  (B:kz l S w (.slice (some m) b b) z) (r:kz l S w A c) (U:b+c.length<=maxLen) (V:(b+c.length)*q<=140737488355328):
  ∃C D E f,(Builtin.append_ #[j,j] v #[.slice (some m) b b,A]).run P w=.ok (.slice C D E) f/\kz l (λa=>S a\/(w<=a/\a<f)) f (.slice C D E) (z++c)/\w.grownBy f none:=by
 by_cases s:c=[]
 .subst s;obtain⟨F,G,t,rfl,_⟩:=r;refine⟨some m,b,b,w,?_,by rw[Sb];exact B.M ok λa d=>.inl d,World.grownBy.refl w none⟩;cases F<;>simp[Builtin.append_,Tk x,sizeOf,typeInfo,y,Builtin.lenOf,Builtin.firstCells,storeCells,loadCells,loadCellsFrom]
 .have⟨I,J,_,aa,ab,ac,_⟩:=B.cells ok;have⟨F,G,ad,ae,az,aA,af,ag⟩:=id r;subst ae;have ah:ad.flatten≠[]:=by
   intro g;have:=ly.flat (k:=e) (λai aj h=>ok.len h) ag;rw[g]at this;have aB:=ok.pos;have:c.length=0:=by have K:c.length*e=0:=(by simpa using this.symm);rcases TV.1 K with h|h;exact h;omega
   exact s<|RI this
  obtain⟨ak,al,rfl,_,_⟩:=af ah;have⟨t,aC,_,am,an,ao,_⟩:=r.cells ok;have aD:0<c.length:=Tb.2 s;have⟨aE,f,ap,aq,L⟩:=Tv (P:=P) (w:=w) j v g i p e q x y N O Q R ok.pos m b b I.flatten aa ac ⟨ak,al,none⟩ c.length G t.flatten am ao Y U V;rcases aq.2 with⟨rfl,K⟩|⟨ar,au,aF,rfl,d,M,av,aw,aG,ax⟩
  omega;refine⟨_,_,_,f,ap,⟨_,au,I++t,by rw[Q3,J],by rw[Q3,J];exact av,by unfold maxLen at aw;omega,λ_=>⟨ar,0,Z,.inr ⟨d,(QP.1 M).1⟩,λaH aI n=>?_⟩,?_⟩,L⟩;rw[Tc,<-ax,Sd]at n;split at n;rw[Q7];simp only[World.cell?,M];simpa using n;cases n;exact(ly.app an ab).imp λai aj ay=>ok.M (ok.kv ay λa d=>L.B a (T a d) Uo) λa d=>.inl d
def qA(S:Nat->Prop)(c:Nat)(d:Sc)(D left:Nat)(w:RW)(t:Ending)(a:RW):Prop:=
 ∃(e:Int) (f g:RK) (i j k:RE) (l m n p q r:Nat) (b:St) (s:Nat),t=.returned (.agg #[.int .i64 e,tx f,tx g,(i,l,m),(j,n,p),(k,q,r)])/\
  kR .i64 (D+1) (FH w a c) a [.int .i64 e,tx f,tx g,(i,l,m),(j,n,p),(k,q,r)] b/\mR d (D+1) b/\kU D b.th+kU D b.el+s<=left/\kT S a c d s/\w.grownBy a (some c)
def wP(i:Nat->Prop)(a:Nat)(d:Sc)(D left:Nat)(w:RW)(j:Ending)(b:RW):Prop:=
 ∃(e:R0) (c:List St) (f:Nat),j=.returned e/\kJ (kR .i64 D) 194 6 (λg=>w<=g/\g≠a) b w e c/\(∀k∈c,mR d D k)/\kU D c+f<=left/\kT i b a d f/\w.grownBy b (some a)
def pV.mH{b}{c:Nat}{d}{left:Nat}{T e w f}(a:pV b c d left T e w f)(i:Nat)(u):pV b c d left T (e.setIfInBounds i u) w (f.setCell (sa w i) u):=
 ⟨kr a.hz,a.hm.mH (W a.yj) λg j=>W<|a.hS g j,nb a.hg,a.yj,a.hS⟩
def sP{e:Type}{d:Rel e}{k:Nat}(ok:lh d k){a b f}{g:List e}(l:kz d (New a b) b f g)(i:Nat)(j):kz d (New a<|b.setCell (sa a i) j) (b.setCell (sa a i) j) f g:=
 (l.mH ok λm c=>W c.1).M ok λm c=>⟨c.1,by rw[QU];exact c.2⟩
def lQ(b:RW)(a:Nat)(c d e f g i:R0):RW:=(((((b.setCell a c).setCell ⟨a,1,none⟩ d).setCell ⟨a,2,none⟩ e).setCell ⟨a,3,none⟩ f).setCell ⟨a,4,none⟩ g).setCell ⟨a,5,none⟩ i
abbrev qS(a b c d e f g h i j k l):=(#[.int .i64 a,tx b,tx c,.slice d e f,.slice g h i,.slice j k l]:Array Go.Value)
def oT(D:Nat):kU D []=0:=by cases D<;>rfl
def mg{w:RW}{a:Nat}{c d e f g i:R0}{j:TypeId}(b:w.heap[a]?=some (.cells #[c,d,e,f,g,i] j)):
  (w.cell? a=some c/\w.cell? (sd a)=some d/\w.cell? (rm a)=some e/\w.cell? (sz a)=some f/\w.cell? (Iv a)=some g/\w.cell? (An a)=some i)/\(w.frozen? ⟨a,0,none⟩=false/\w.frozen? ⟨a,1,none⟩=false/\w.frozen? ⟨a,2,none⟩=false/\w.frozen? ⟨a,3,none⟩=false/\w.frozen? ⟨a,4,none⟩=false/\w.frozen? ⟨a,5,none⟩=false):=
 ⟨⟨kt b 0,kt b 1,kt b 2,kt b 3,kt b 4,kt b 5⟩,kx b 0,kx b 1,kx b 2,kx b 3,kx b 4,kx b 5⟩
def Good.mH{a z:Nat}(w)(i:Nat)(u):Good a z w<|w.setCell (sa z i) u:=⟨by rw[QU];exact QX _,λc _ _ b=>Q0 _ _ _ _ b⟩
def nV(w0:RW)(d:Nat->R0)(c:Nat)(v:R0)(w:RW):Prop:=∃a o e,v=.slice (some ⟨a,o,none⟩) c e/\New w0 w a/\∀b,b<c->w.cell? ⟨a,o+b,none⟩=some (d b)
def nV.lS{b}{d:Nat}(q:d<b.heap.size){e}{f:Nat}{v w g}(i:Good d b.heap.size w g)(k:nV b e f v w):nV b e f v g:=by have⟨c,o,l,m,a,n⟩:=k;exact⟨c,o,l,m,⟨a.1,QO a.2 i.1⟩,λj p=>(Cb c (o+j)<|i.2 c a.2 (W a.1)<|W a.1).T<|n j p⟩
def mD(b:RW)(S:Nat->Prop)(c:R0)(v:R0)(w:RW):Prop:=∃a o,v=.pointer (some ⟨a,o,none⟩)/\(New b w a\/(S a/\a<w))/\w.cell? ⟨a,o,none⟩=some c
def lG{f:Type}{b:Rel f}{k:Nat}(ok:lh b k){g c:Nat}{S w i}(d:∀a,S a->a<c/\a≠g)(n:c<=w.heap.size){v}{j:List f}(l:Good g c w i)(m:kz b S w v j):kz b S i v j:=
 m.kv ok λa e=>l.2 a (W<|d a e) (d a e).2<|W<|d a e
def kV{e:Type}{c:Rel e}{k:Nat}(ok:lh c k){f:Nat}{b w d}(m:f<b.heap.size){v}{g:List e}(i:Good f b.heap.size w d)(l:kz c (New b w) w v g):kz c (New b d) d v g:=
 (l.kv ok λj a=>i.2 j a.2 (W a.1)<|W a.1).M ok λj a=>⟨a.1,QO a.2 i.1⟩
def nd(a:RW)(b:Nat)(g:Nat)(o c:Int)(name:RK)(d:RE)(e f:Nat)(i:Ex)(w:RW):Prop:=
 New a w b/\w.heap[b]?=some (.cells #[.int .i64 o,tx name,c,(d,e,f)] 200)/\kP .i64 g (New a w) w [.int .i64 o,tx name,c,(d,e,f)] i
def Io{e f:Nat}{b c d}(m:e<b.heap.size){g i}(j:Good e b.heap.size c d)(l:kP .i64 f (New b c) c g i):kP .i64 f (New b d) d g i:=
 (kP.ok _ _).M ((kP.ok _ _).kv l λk a=>j.2 k a.2 (W a.1)<|W a.1) λk a=>⟨a.1,QO a.2 j.1⟩
def Bh{S w f}{j k e:Nat}{g a}(l:kz qq S w (.slice f j k) g)(m:g[e]?=some a):∃b o c d,f=some ⟨b,o,none⟩/\S b/\w.cell? ⟨b,o+e,none⟩=some (.slice c a.length d)/\kz mJ S w (.slice c a.length d) a:=by have⟨b,o,s,n,p,⟨t,q,i⟩,r⟩:=l.ll qq.ok e a m;obtain⟨c,d,u,rfl,_⟩:=id i;have:=r 0 _ (by rw[q];rfl);exact⟨b,o,c,d,n,p,by simpa using this,i⟩
def C6{S w d}{f g c a:Nat}{e}(i:kz mJ S w (.slice d f g) e)(j:e[c]?=some a):∃b o,d=some ⟨b,o,none⟩/\S b/\w.cell? ⟨b,o+c,none⟩=some (.int .i64 (a:Int)):=by have⟨b,o,k,l,m,n,p⟩:=i.ll mJ.ok c a j;have q:k=[.int .i64 (a:Int)]:=n;have:=p 0 (.int .i64 (a:Int)) (by rw[q];rfl);exact⟨b,o,l,m,by simpa using this⟩
abbrev ta:=(#[.int .i64 0,Em,Em,Nl,Nl,Nl]:Array Go.Value)
abbrev F1(a b c d):=(λe f=>∃g h,mD a b (.slice g c h) e f/\kz mJ b f (.slice g c h) d:Go.Value->Go.World->Prop)
abbrev HS(a b c):=(λd e=>∃f g,d=.slice f a g/\kz mJ b e d c:Go.Value->Go.World->Prop)
abbrev IS(a b c):=(λd e=>∃f g,d=.slice f a g/\kz qq b e d c:Go.Value->Go.World->Prop)
abbrev yW(a):=(#[.pointer a,.int .i64 0]:Array Go.Value)
abbrev sE(a):=(some ⟨a,0,none⟩:Option Go.Addr)
abbrev IN(a b c d e f g):=(#[.int .i64 4,tx [],tx [],.slice a 1 1,(.slice b c d),(.slice e f g)]:Array Go.Value)
abbrev Is(a b c d):=(#[.int .i64 5,tx [],tx [],.slice a 1 1,(.slice b c d),(Nl)]:Array Go.Value)
def LQ:(prog.info? 194).map (λa=>(a.zero,a.size,a.bytes))=some (some<|.agg ta,6,112):=Up
def kT.Ab{f w}{c:Nat}{g}{left:Nat}(d:kT f w c g left)(e:Nat):kT f (w.setCell (uc c)<|.int .i64 (e:Int)) c g e:=by have⟨j,k,l,b,m,n⟩:=d.ll;have i:∀a,a≠c->(w.setCell (uc c)<|.int .i64 (e:Int)).heap[a]?=w.heap[a]?:=λa b=>Q0 _ _ _ _ b;exact⟨⟨j,k,l,kr b,m.kv qq.ok λa b=>i a (d.lK a b).1,n.kv qO.ok λa b=>i a (d.lK a b).1⟩,λa b=>⟨(d.lK a b).1,by rw[QU];exact(d.lK a b).2⟩⟩
def kT.Oj{e w}{a:Nat}{f}{left:Nat}(g:kT e w a f left):(∃b i c,w.cell? (zc a)=some (.slice b i c))/\w.cell? (uc a)=some (.int .i64 (left:Int))/\w.frozen? ⟨a,7,none⟩=false:=by obtain⟨j,k,l,d,m,b,c,n,rfl,_⟩:=g.ll;exact⟨⟨b,_,c,kt d 6⟩,kt d 7,kx d 7⟩
def E4(b:Nat):∀a:List St,a.length<=kU (b+1) a
 |[]=>QZ _
 |x::a=>by have c:=E4 b a;unfold kU at c⊢;simp only[Rl,Rq,Ub];omega
def uC(a:Nat)(c b):kU (a+1) (c++[b])=kU (a+1) c+(1+kU a b.th+kU a b.el):=by simp[kU]
def lH.oQ.withParams{b}(a:oQ b){c:Nat}(d:c<=2):oQ {b with params:=c}:=⟨a.Hx,a.Hy,a.lf,a.kQ,d,a.own,a.len,a.each⟩
def lH.tv.snoc{d e b h}(g:tv d e b)(i:FI d e b.length h):tv d e<|b++[h]:=λc j a=>by
 rcases Nat.lt_or_ge c b.length with f|f;rw[List.getElem?_append_left f]at a;exact g c j a;rw[List.getElem?_append_right f]at a;obtain⟨rfl⟩:c=b.length:=by rcases Nat.lt_or_ge (c-b.length) 1 with h|h;omega;rw[List.getElem?_eq_none<|by simpa using h]at a;cases a
 rw[Nat.sub_self]at a;simp at a;rw[<-a];exact i
def kT.yR{f w}{c:Nat}{g}{left:Nat}(d:kT f w c g left)(e:Nat):kT f (w.setCell (An c)<|.int .i64 (e:Int)) c {g with params:=e} left:=by have⟨j,k,l,b,m,n⟩:=d.ll;have i:∀a,a≠c->(w.setCell (An c)<|.int .i64 (e:Int)).heap[a]?=w.heap[a]?:=λ_ b=>Q0 _ _ _ _ b;exact⟨⟨j,k,l,kr b,m.kv qq.ok λa b=>i a (d.lK a b).1,n.kv qO.ok λa b=>i a (d.lK a b).1⟩,λa b=>⟨(d.lK a b).1,by rw[QU];exact(d.lK a b).2⟩⟩
def kT.setBytes{f w}{c:Nat}{g}{left:Nat}(d:kT f w c g left){e i}(k:kz qO f w e i):kT f (w.setCell (zc c) e) c g left:=by have⟨l,n,p,b,m,q⟩:=d.ll;have j:∀a,a≠c->(w.setCell (zc c) e).heap[a]?=w.heap[a]?:=λ_ b=>Q0 _ _ _ _ b;exact⟨⟨l,e,i,kr b,m.kv qq.ok λa b=>j a (d.lK a b).1,k.kv qO.ok λa b=>j a (d.lK a b).1⟩,λa b=>⟨(d.lK a b).1,by rw[QU];exact(d.lK a b).2⟩⟩
def HT(f:Nat->Prop)(a:Nat)(c:Sc)(g:List Nat)(i:Nat)(w:RW)(j:Ending)(w':RW):Prop:=
 ∃(d:R0) (b:List Hd),j=.returned d/\kJ (mA .i64) 121 3 (λe=>w<=e/\e≠a) w' w d b/\b.length=i/\tv c g b/\(∃k left,kT f w' a {c with params:=k} left)/\w.grownBy w' (some a)
def LR:(prog.info? 121).map (λa=>(a.zero,a.size,a.bytes))=some (some<|.agg #[Em,Nl,Nl],3,64):=Up
def nV.ng{w0 c}{n:Nat}{v w w'}(d:NG w0 w w')(f:nV w0 c n v w):nV w0 c n v w':=by have⟨a,o,g,i,b,j⟩:=f;exact⟨a,o,g,i,⟨b.1,QO b.2 d.1⟩,λe k=>(Cb a (o+e)<|d.2 a b).T<|j e k⟩
def A6(w0:RW)(b:R0)(c:R0)(w:RW):Prop:=∃a o,c=.pointer (some ⟨a,o,none⟩)/\New w0 w a/\w.cell? ⟨a,o,none⟩=some b
def sw{d:Type}{b:Rel d}{j:Nat}(ok:lh b j){w0 w c e}{f:List d}(g:NG w0 w c)(k:kz b (New w0 w) w e f):kz b (New w0 c) c e f:=
 (k.kv ok λi a=>g.2 i a).M ok λi a=>⟨a.1,QO a.2 g.1⟩
def ET{d:Type}{b:Rel d}{j:Nat}(ok:lh b j){w0 w c e}{f:d}(g:NG w0 w c)(k:b (New w0 w) w e f):b (New w0 c) c e f:=
 ok.M (ok.kv k λi a=>g.2 i a) λi a=>⟨a.1,QO a.2 g.1⟩
def lH.JY(a)(b:Nat):(AZ a b).length<=1:=by unfold AZ;split<;>(try split)<;>(try split)<;>simp
def lH.E5(a):∀k,(sg a k).length<=k
 |0=>Nat.le_refl _
 |k+1=>by have b:=E5 a k;have c:=JY a k;simp only[sg,List.length_append];omega
def JZ:(prog.info? 3).map (λa=>(a.zero,a.size,a.bytes))=some (some<|.int .i64 0,1,8):=Up
def qu.yS{d e f}{i j b:Nat}{c}(k:kz qu d e (.slice f i j) c)(g:b<c.length):
  ∃a o,f=some ⟨a,o,none⟩/\d a/\e.cell? ⟨a,o+b*2,none⟩=some (.int .u8 ((c.getD b default).params:Int)):=by
 have⟨a,o,p,q,l,m,n,_⟩:=qu.ll k<|Q6 g;refine⟨a,o,l,m,?_⟩;rw[n,List.getD_eq_getElem?_getD,Q6 g];rfl
def kJ.base{b:Type}{c:Rel b}{T d:Nat}{e f}{g i:Nat}{v}{xs:List b}(a:kJ c T d e f g v xs)(k:i<=g):kJ c T d e f i v xs:=by
 have⟨l,j,m⟩:=a.own;refine⟨l,⟨j.1,?_⟩,m⟩;rcases j.2 with a|⟨n,p,q,r,s,a⟩
 exact .inl a;exact .inr ⟨n,p,q,r,QT k s,a⟩
def LS(d:List Nat)(a:RW)(e:Ending)(b:RW):Prop:=∃c,e=.returned c/\kJ mJ 3 1 (λ_=>False) b a c d/\Below a a b
abbrev tp(a b c d e f g h):=(.cells #[.int .u8 (a:Int),.int .u8 (b:Int),.slice c d e,.slice f g h] 75:Go.Obj)
def lH.ri(b:Nat):List Va:=(List.range b).map λa=>⟨nm 120 a,1,a⟩
def lH.sr(a b:Nat):List Va:=ri a++[⟨nm 98 0,2,0⟩]++(List.range b).map λc=>⟨nm 116 c,3,0⟩
def lH.pO(a:Nat):(ri a).length=a:=by simp[ri]
def lH.Dw(a:Nat):ri (a+1)=ri a++[⟨nm 120 a,1,a⟩]:=by simp[ri,List.range_succ]
def lH.vh(a b:Nat):(sr a b).length=a+1+b:=by simp[sr,ri];omega
def lH.Dx(b a:Nat):sr b (a+1)=sr b a++[⟨nm 116 a,3,0⟩]:=by simp[sr,List.range_succ]
def lH.Dy(a:Nat):sr a 0=ri a++[⟨nm 98 0,2,0⟩]:=by simp[sr]
def lH.sU{b c:Nat}(d:b<26)(e:c<26)(a:kX b=kX c):b=c:=by unfold kX at a;injection a with a;have:=congrArg UInt8.toNat a;simp at this;omega
def lH.LU{a b:Nat}(g:0<a)(B:a<=3)(i:b<a*a){j}(c:nP a b j){d}(k:d.a=kX (b/a))(l:d.b=kX (b % a))(s:1<=d.tF)(t:d.tF<=3):nP a (b+1)<|j++[d]:=by refine⟨λf hy=>?_,?_⟩;rcases List.mem_append.1 hy with hy|hy;have⟨e,u,c⟩:=c.1 f hy;exact⟨e,Y,c⟩;simp at hy;subst hy;exact⟨b,Y,i,k,l,s,t⟩;rw[List.map_append,List.nodup_append];refine⟨c.2,Uo,λC m D n p=>?_⟩;simp only[List.map_cons,List.map_nil,List.mem_singleton]at n;rw[List.mem_map]at m;obtain⟨f,hy,rfl⟩:=m;have⟨e,u,v,w,x,_⟩:=c.1 f hy;rw[n]at p;injection p with q r;rw[k,w]at q;rw[l,x]at r;have E:e/a<a:=Nat.div_lt_of_lt_mul v;have F:b/a<a:=Nat.div_lt_of_lt_mul i;have G:e % a<a:=Nat.mod_lt _ g;have I:b % a<a:=Nat.mod_lt _ g;have y:=sU Y Y q;have z:=sU Y Y r;have A:=Nat.div_add_mod e a;have J:=Nat.div_add_mod b a;rw[y,z]at A;omega
def lH.nP.up{n m b:Nat}{c}(a:nP n m c)(g:m<=b):nP n b c:=⟨λd e=>by have⟨f,i,a⟩:=a.1 d e;exact⟨f,Y,a⟩,a.2⟩
def lH.LV(c)(d:Nat):∀b∈AZ c d,b<=2:=by unfold AZ;intro b a;split at a;simp at a;omega;split at a;simp at a;omega;split at a;simp at a;omega;simp at a
def lH.C7(p):∀k,∀a∈sg p k,a<=2
 |0,a,h=>by simp[sg]at h
 |k+1,a,h=>by rcases List.mem_append.1 h with h|h;exact C7 p k a h;exact LV p k a h
def lH.ur(p:Pt):Nat:=if p.hs.length=0 then 1 else min p.hs.length 3
def lH.A7(p:Pt):Nat:=min p.ss.length 3
def lH.Hz(b)(a:Nat):(AZ b a).length=if a<b.hs.length\/a=0\/a<b.ss.length then 1 else 0:=by unfold AZ;by_cases c:a<b.hs.length;rw[if_pos c,if_pos<|.inl c];rfl;rw[if_neg c];by_cases d:a=0;rw[if_pos d,if_pos<|.inr<|.inl d];rfl;rw[if_neg d];by_cases e:a<b.ss.length;rw[if_pos e,if_pos<|.inr<|.inr e];rfl;rw[if_neg e,if_neg Y];rfl
def Kp.refl(a cb:Nat)(w):Kp a cb w w:=⟨Z,Z,Z,QX _,λ_ _ _ _=>Z⟩
def Kp.Lc{b a:Nat}(w)(c:Nat)(d):Kp b a w<|w.setCell (sa a c) d:=⟨Z,Z,Z,by rw[QU];exact QX _,λ_ _ _ e=>Q0 _ _ _ _ e⟩
def Yn(b w:RW):Nat->Prop:=λa=>b<=a/\a<w
def N1.next{n}{f i:Nat}{q e w}{j:Nat}{g r}{s t:Nat}{u}{v x:Nat}{y z A}{B k l:Nat}(a:N1 n f i q e j g r s t u v x y z A B k l)(d:Below e e w){C:RE}{D:Nat}
  (F:kz qq (λc=>e<=c/\c<w) w (C,j,D)<|g.map λp=>sg p 3):M6 n f i q w j g r s t u v x y z (g.map λp=>sg p 3) A B C D k l:=by
 have G:f<e:=(QP.1 a.hF).1;have J:=a.zB;have m:=d.size;exact⟨(d.B i Y).T a.hz,(d.B f G).T a.hF,a.zB,a.rf.T<|d.M Y,a.JE.kv uk.ok λc b=>d.B c<|W<|(a.hS c b).1,a.hS,a.n1,a.n3,
  (a.Nb.kv mI.ok λc b=>d.B c b.2).M mI.ok (λc b=>⟨b.1,QO b.2 m⟩),a.Nc,a.f2,(a.Ol.kv nT.ok λc b=>d.B c b.2).M nT.ok λc b=>⟨b.1,QO b.2 m⟩,a.Om,
  F.M qq.ok (λc b=>⟨W b.1,b.2⟩),Z,λE I=>(d.cell (p:=⟨k,l+E,none⟩) a.b8.2).T<|a.h8 E I,a.b8.1,QO a.b8.2 m⟩
def pP(w:RW)(p:Ending)(a:RW):Prop:=
 ∃(b:RK) (c d e:RE) (f g i j k l:Nat) (m:Fl),p=.returned (.agg #[tx b,(c,f,g),(d,i,j),(e,k,l)])/\Oi .i64 (λn=>w<=n/\n<a) a [tx b,(c,f,g),(d,i,j),(e,k,l)] m/\tS m/\Below w w a
def kJ.tight{e:Type}{a:Rel e}{f c:Nat}(ok:lh a c){P w}{g:Nat}{v}{i:List e}(j:kJ a f c P w g v i):kJ a f c (λb=>P b/\b<w) w g v i:=by have⟨k,l,m⟩:=j.own;exact⟨k,l,m.imp λp q n=>ok.M n λb d=>⟨⟨d.1,d.2.1⟩,d.2⟩⟩
def kJ.weaken{d:Type}{a:Rel d}{e c:Nat}(ok:lh a c){P P' w}{f:Nat}{v}{g:List d}(j:kJ a e c P w f v g)(k:∀b,P b->P' b):kJ a e c P' w f v g:=by have⟨l,m,n⟩:=j.own;exact⟨l,m,n.imp λq r p=>ok.M p λb i=>⟨k b i.1,i.2⟩⟩
def kJ.blocks{g:Type}{d:Rel g}{i e:Nat}(ok:lh d e){P w w'}{j:Nat}{f}{k:List g}(c:kJ d i e P w j f k)(r:w.heap.size<=w'.heap.size)(l:∀a,a<w.heap.size->P a\/f.ownBlock=some a->w'.heap[a]?=w.heap[a]?):kJ d i e P w' j f k:=by
 have⟨s,m,t⟩:=c.own;refine⟨s,⟨m.1,?_⟩,t.imp λy z u=>ok.M (ok.kv u λa b=>l a b.2.1<|.inl b.1) λa b=>⟨b.1,QO b.2.1 r,b.2.2⟩⟩;rcases m.2 with c|⟨n,v,x,p,b,q,c⟩
 exact .inl c;refine .inr ⟨n,v,x,p,b,?_,c⟩;rw[l n (QP.1 q).1<|.inr<|by rw[p];rfl];exact q
def qG{e:Type}{b:Rel e}{l:Nat}(ok:lh b l){c w w' f g}{i:List e}(m:kz b (Yn c w) w g i)(j:w.grownBy w' f)(n:∀k,f=some k->k<c):kz b (Yn c w') w' g i:=
 (m.kv ok λd a=>j.B d a.2 λp=>Ul (n d p.symm) a.1).M ok λd a=>⟨a.1,QO a.2 j.size⟩
def HV:(prog.info? 88).map (λi=>(i.zero,i.size,i.bytes))=some (some<|.agg #[Em,Nl,Nl],3,64):=Up
def LW:(prog.info? 90).map (λi=>(i.zero,i.size,i.bytes))=some (some<|.agg #[Em,.int .i64 0,.int .i64 0],3,32):=Up
def LX:(prog.info? 79).map (λa=>(a.zero,a.size,a.bytes))=some (some<|.agg #[Em,false],2,24):=Up
def LY:(prog.info? 81).map (λa=>(a.zero,a.size,a.bytes))=some (some<|.agg #[Em,Em,.int .i64 0],3,40):=Up
def HX:(prog.info? 95).map (λi=>(i.zero,i.size,i.bytes))=some (some Nl,1,24):=Up
def LZ:(prog.info? 83).map (λa=>(a.zero,a.size,a.bytes))=some (some Nl,1,24):=Up
def Ld(a:RW)(b f:Nat)(g:RE)(c i:Nat)(j:RE)(k l:Nat)(m:List Co)(n:List<|List Nat)(w':RW):Prop:=∃(d:R0) (e:Co),a.grownBy w' (some b)/\w'.heap[b]?=some (.cells #[tx mN,(g,c,i),(j,k,l),d] 32)/\kJ (mr .i64) 88 3 (λp=>a<=p) w' a d (m++[e])/\yr c n f e
def J0{e:Nat}{f d}{g:Nat}{j}(k:∀a b,d[a]?=some b->yr e f a b)(l:d.length=g)(m:yr e f g j):∀a b,(d++[j])[a]?=some b->yr e f a b:=λa b c=>by
 rcases SP a d.length with i|i;rw[RP i]at c;exact k a b c;rw[RS i]at c;have p:a-d.length<1:=by have:=(Q9.1 c).1;simpa using this
 have n:a=g:=Y
 subst n;rw[l,Nat.sub_self]at c;simp at c;rw[<-c];exact m
def N3.next{u}{d k E:Nat}{v e w}{f:Nat}{x}{F:Nat}{G}{I J:Nat}{K L}{M N:Nat}{l}{m n:Nat}{y z}{A g p:Nat}(a:N3 u d k E v e f x F G I J K L M N l m n y z A g p)(i:e.grownBy w<|some d){q:RE}{r s B:Nat}{t:List Lk}
  (hF:w.heap[d]?=some (.cells #[tx mN,.slice l m n,(q,r,s),Nl] 32)) (O:kz nT (λb=>e<=b/\b<w) w (q,r,s) t) (P:nP f B t) (Q:B<=f*f):N1 u d k v w f x l m n q r s y t z A g p:=by
 have aa:d<e:=(QP.1 a.hF).1;have ab:=a.zB;have C:=i.size;have j:∀b,b<e.heap.size->b≠d->w.heap[b]?=e.heap[b]?:=λb R S=>i.B b R (λT=>S<|by injection T);refine⟨(j k Y Y).T a.hz,hF,a.zB,⟨i.os.T a.rf.os,i.tape.T a.rf.tape,i.output.T a.rf.output,W a.rf.size,λb U=>(j b (W a.rf.size) Y).T<|a.rf.B b U⟩,a.JE.kv uk.ok λb c=>j b (W<|(a.hS b c).1)<|W<|(a.hS b c).1,a.hS,a.n1,a.n3,
  (a.Nb.kv mI.ok λb c=>j b c.2<|W c.1).M mI.ok (λb c=>⟨c.1,QO c.2 C⟩),a.Nc,a.f2,O.M nT.ok λb c=>⟨W c.1,c.2⟩,P.up Q,
  λD V=>(Cb g (p+D)<|j g a.b8.2 (by have:=a.b8.1;show g≠d;omega)).T<|a.h8 D V,a.b8.1,QO a.b8.2 C⟩
abbrev vc:=(.cells #[.string ⟨#[97]⟩,.string ⟨#[98]⟩,.string ⟨#[99]⟩] 9:Go.Obj)
def rF.snoc{k:Nat}{b}(c:rF k b)(q):rF (k+1)<|b++[⟨nm 102 k,q⟩]:=by
 refine⟨by simp[c.1],λd f a=>?_⟩;rcases SP d b.length with e|e;rw[RP e]at a;exact c.2 d f a;have g:=(Q9.1 a).1;simp at g;have i:d=b.length:=Y
 subst i;rw[RS<|QX _,Nat.sub_self]at a;simp at a;rw[<-a,c.1]
abbrev qe(a b c d e f g):=(.cells #[.int .u8 (a:Int),.slice b c d,.slice e f g] 25:Go.Obj)
abbrev vi:=(.cells #[Em,Nl,Nl,Nl] 32:Go.Obj)
def om{c:Type}{b:Rel c}{g:Nat}(ok:lh b g){w0 w w' v}{d:List c}(e:NK w0 w w')(i:kz b (Nw w0 w) w v d):kz b (Nw w0 w') w' v d:=
 (i.kv ok λf a=>e.2 f a).M ok λf a=>⟨a.1,QO a.2 e.1⟩
def wO{b:Type}{a:Rel b}{g:Nat}(ok:lh a g){c d w v}{e:List b}(i:c.heap.size<=d.heap.size)(j:kz a (Nw d w) w v e):kz a (Nw c w) w v e:=j.M ok λk f=>⟨QT i f.1,f.2⟩
def nO.start{c:Type}{d:Rel c}{T e:Nat}{P b a}{o:Nat}{f i j}{k:List c}(g:b.grownBy a<|some o)(m:a.heap[o]?=some (.cells f i (0,0)))(l:kJ d T e P a b.heap.size j k)(n:o<b.heap.size):nO d T e P b a o f i j k a:=
 ⟨g,m,l,QX _,l.ge,n,g.size,λ_ _ _ _=>Z⟩
def nO.set{k:Type}{d:Rel k}{f e:Nat}{P c r}{o:Nat}{l C' m vQ n}{s p:List k}{a}(g:nO d f e P c r o l m vQ s a)(ok:lh d e)(t:∀b,P b->c<=b)(q:kJ d f e P a c n p)(i:Nat)(u)(v:l.setIfInBounds i u=C'):
  c.grownBy (a.setCell (sa o i) u) (some o)/\(a.setCell (sa o i) u).heap[o]?=some (.cells C' m (0,0))/\kJ d f e P (a.setCell (sa o i) u) c n p:=by
 have z:=g.lt;have w:=q.ge;refine⟨ky g.g<|kE a o i u,by rw[<-v];exact kr g.c,q.grown ok (kE a o i u) λA j=>?_⟩;injection j with j;subst j;exact⟨λx=>W<|t _ x,λy=>W<|(w _ y.symm).1⟩
def kP.open{b:IntKind}{d:Nat}{c w e a}(f:kP b d c w e a):∃g v,d=g+1/\e=[.int b a.op,tx a.name,.int .i64 a.n,v]/\kz (kP b g) c w v a.args:=by
 cases d with
 |zero=>exact f.elim
 |succ d=>have⟨v,i,j⟩:=f;exact⟨d,v,Z,i,j⟩
def kR.open{b:IntKind}{d:Nat}{c w j a}(k:kR b d c w j a):∃i e f g,d=i+1/\j=[.int b a.kind,tx a.name,tx a.hd,e,f,g]/\kz (kP b De) c w e a.lp/\kz (kR b i) c w f a.th/\kz (kR b i) c w g a.el:=by
 cases d with
 |zero=>exact k.elim
 |succ d=>have⟨e,f,g,l,m⟩:=k;exact⟨d,e,f,g,Z,l,m⟩
def EU:Obj->Prop
 | .cells b _ _=>∀c a,(.int c a:R0)∈b->a=0
 |_=>False
def uD{n:Type}{p q:Rel n}{k}(t:EU k){i d u}{m:List n}(e:kz p i d u m)(z:∀l b,b∈m->p i d l b->q (wb k d i) d l b/\∃f a j,l=.int f a::j/\a≠0):kz q (wb k d i) d u m:=by
 have⟨A,B,c,C,D,E,F,G⟩:=e;have I:∀{c:List<|List R0} {g:List n},(∀b∈g,b∈m)->ly (p i d) c g->ly (q (wb k d i) d) c g/\(c.flatten≠[]->∃f a j,c.flatten=.int f a::j/\a≠0):=by
  intro c;induction c with
  |nil=>intro g _ e;cases g with
   |nil=>exact⟨trivial,λe=>by simp at e⟩
   |cons b g=>exact e.elim
  |cons l c J=>intro g v e;cases g with
   |nil=>exact e.elim
   |cons b g=>have⟨r,f,a,j,s,K⟩:=z l b (v b Uo) e.1;exact⟨⟨r,(J (λL M=>v L<|by simp[M]) e.2).1⟩,λ_=>⟨f,a,j++c.flatten,by rw[R5,s];rfl,K⟩⟩
 have⟨r,s⟩:=I (λb N=>N) G;refine⟨A,B,c,C,D,E,λw=>?_,r⟩;have⟨O,o,P,Q,x⟩:=F w;have⟨f,a,j,R,S⟩:=s w;refine⟨O,o,P,⟨Q,λT=>?_⟩,x⟩;have y:=x 0 (.int f a) (by rw[R];rfl);cases k with
 |cells U aa ab=>simp only[World.cell?,T]at y;have V:U[o]?=some (.int f a):=(by simpa using y);exact S<|t f a<|T2 V
 |_=>exact t.elim
def kz.Nn{i:IntKind}{j}(c:EU j){k e}:∀{d:Nat} {f:R0} {a:List Ex},(∀g∈a,C1 d g)->kz (kP i d) k e f a->kz (kP i d) (wb j e k) e f a
 |0,_,_,_,h=>uD c h λ_ _ _ b=>b.elim
 |d+1,f,a,ho,h=>uD c h λq g l ⟨m,b,n⟩=>by have⟨r,s,t,p⟩:=ho g l;exact⟨⟨m,b,kz.Nn c p n⟩,_,_,_,b,Y⟩
def kz.JL{g:IntKind}{i}(a:EU i){j w}:∀{d:Nat} {e:R0} {b:List St},(∀f∈b,uR d f)->kz (kR g d) j w e b->kz (kR g d) (wb i w j) w e b
 |0,_,_,_,h=>uD a h λ_ _ _ c=>c.elim
 |d+1,e,b,ho,h=>uD a h λv f k ⟨l,m,n,c,p,q,r⟩=>by have⟨x,y,z,A,B,s,t,u⟩:=ho f k;exact⟨⟨l,m,n,c,kz.Nn a s p,kz.JL a t q,kz.JL a u r⟩,_,_,_,c,Y⟩
def wb.set{z w0 w}{o i:Nat}{u}(e:w.heap[o]?=some z){f:Type}{c:Rel f}{j:Nat}(ok:lh c j){v}{g:List f}(k:kz c (wb z w<|Nw w0 w) w v g):kz c (λb=>Nw w0 w b/\b≠o) (w.setCell (sa o i) u) v g:=
 (k.kv ok λb a=>Q0 _ _ _ _ λd=>a.2<|by rw[d];exact e).M ok λb a=>⟨a.1,λd=>a.2<|by rw[d];exact e⟩
def nN{c o:Nat}{w d w'}(a:Below c w d)(b:d.grownBy w'<|some o)(i:c<=o)(j:c<=w:=by omega):Below c w w':=
 ⟨b.os.T a.os,b.tape.T a.tape,b.output.T a.output,QT a.size b.size,λe g=>(b.B e (W a.size) λf=>by injection f with f;omega).T<|a.B e g⟩
abbrev lE:=(#[.int .u8 0,Em,.int .i64 0,Nl]:Array Go.Value)
def E6:(prog.info? 203).map (λa=>(a.zero,a.size,a.bytes))=some (some<|.agg lE,4,56):=Up
def J2(f:Nat)(g i:Int)(j:RK)(a:List Ex)(b:RW)(k:Ending)(c:RW):Prop:=
 ∃(d:RE) (e:Nat),k=.returned (.agg #[.int .u8 g,tx j,i,(d,a.length,e)])/\kz (kP .u8 f) (Nw b c) c (d,a.length,e) a/\Below b b c
def HA(d:Nat):Prop:=∀(e:Nat->Prop) (a:RW) (b f:Int) (g:RK) (i:RE) (j k:Nat) (c:List Ex),kz (kP .i64 d) e a (i,j,k) c->(1<=b/\b<=255/\c.length<=2/\∀m∈c,C1 d m)->(∀l,e l->l<a)->
 Calls prog 81 #[.agg #[.int .i64 b,tx g,f,(i,j,k)]] a (J2 d b f g c a)
abbrev ks:=(.cells #[.int .u8 0,Em,.int .i64 0,Nl] 203:Go.Obj)
abbrev mu(a b c d e f):=(.cells #[.int .u8 a,tx b,c,.slice d e f] 203:Go.Obj)
abbrev so(a b c):=(.cells #[.int .u8 a,tx b,c,Nl] 203:Go.Obj)
abbrev L2(a b c d e f g):=(λh i=>∃(j:RE),∃(k:Nat),h=.agg #[.int .u8 a,tx b,c,.slice j d k]/\kz (kP .u8 e) (Nw f i) i (.slice j d k) g:Go.Value->Go.World->Prop)
def J4:(prog.info? 336).map (λa=>(a.zero,a.size,a.bytes))=some (some<|.agg #[.int .u8 0,.int .i64 0,.int .i64 0,.int .i64 0],4,32):=Up
def nG.refl(cb:Nat)(vQ w):nG cb vQ w vQ w:=⟨QX _,λ_ _ _ a=>⟨Z,a⟩⟩
def mB.old{a}{cb:Nat}{d e f g i j k l m n vQ}{p:List In}{w}(q:mB a cb d e f g i j k l m n vQ p w){b:Nat}(r:b<a)(s:b≠cb):w.heap[b]?=a.heap[b]?:=q.g.B b r (by intro c;injection c with c;exact s c)
def uV(e:RW)(a:Nat)(f g i j k l m n p q:R0)(r:R0)(w:RW)(s:R0)(t:List In->Prop)(u:Ending)(b:RW):Prop:=u=.returned s/\∃c d,mB e a f g i j k l m n p q c d b/\nG a r w c b/\t d
abbrev zp(a b c d):=(.cells #[.int .u8 a,b,c,d] 336:Go.Obj)
abbrev oR:=(#[.int .u8 0,Em,Em,Nl,Nl,Nl]:Array Go.Value)
def J5:(prog.info? 198).map (λa=>(a.zero,a.size,a.bytes))=some (some<|.agg oR,6,112):=Up
abbrev oi:=(.cells #[.int .u8 0,Em,Em,Nl,Nl,Nl] 198:Go.Obj)
def L0(f:Nat)(a:List St)(b:RW)(g:Ending)(c:RW):Prop:=
 ∃(d:RE) (e:Nat),g=.returned (d,a.length,e)/\kz (kR .u8 f) (Nw b c) c (d,a.length,e) a/\Below b b c
def Lv(c:Nat):Prop:=∀(d:Nat->Prop) (a:RW) (e:RE) (f g:Nat) (b:List St),kz (kR .i64 c) d a (e,f,g) b->b.length<=12->(∀j∈b,uR c j)->(∀i,d i->i<a)->
 Calls prog 35 #[(e,f,g)] a (L0 c b a)
abbrev mx(a b c d e f g h i j k l):=(.cells #[.int .u8 a,tx b,tx c,.slice d e f,.slice g h i,.slice j k l] 198:Go.Obj)
def KG.start{a}{o:Nat}{b c}(d:a.heap[o]?=some (.cells b c (0,0))):KG a o b c a:=⟨lC _ _,d,(QP.1 d).1⟩
def KG.set{c}{o:Nat}{d C' e a}(b:KG c o d e a)(i:Nat)(u)(f:d.setIfInBounds i u=C'):KG c o C' e<|a.setCell (sa o i) u:=
 ⟨ky b.g<|kE a o i u,by rw[<-f];exact kr b.c,b.lt⟩
def KG.blk{a}{o:Nat}{d e c}(f:KG a o d e c){b:Nat}(g:b<a)(i:b≠o):c.heap[b]?=a.heap[b]?:=f.g.B b g (λj=>i<|by injection j)
def kJ.Hp{f:Type}{a:Rel f}{g c:Nat}(ok:lh a c){P w}{d:Nat}{v}{j:List f}(k:kJ a g c P w d v j){o i:Nat}{u}(l:∀b,P b->b≠o)(q:o<d):kJ a g c P (w.setCell (sa o i) u) d v j:=by have m:=k.ge;exact k.grown ok (kE w o i u) (λr e=>by injection e with e;subst e;exact⟨λn=>l _ n Z,λp=>W<|(m _ p.symm).1⟩)
def J6:(prog.info? 107).map (λi=>(i.zero,i.size,i.bytes))=some (some<|.agg #[Em,false],2,24):=Up
def J7:(prog.info? 108).map (λi=>(i.zero,i.size,i.bytes))=some (some<|.agg #[Em,Em,.int .i64 0],3,40):=Up
def J8:(prog.info? 115).map (λi=>(i.zero,i.size,i.bytes))=some (some<|.agg pv,3,32):=Up
def J9:(prog.info? 112).map (λi=>(i.zero,i.size,i.bytes))=some (some<|.agg #[Em,Nl,Nl],3,64):=Up
def Ka:(prog.info? 118).map (λi=>(i.zero,i.size,i.bytes))=some (some<|.agg #[Nl],1,24):=Up
def Kb:(prog.info? 125).map (λi=>(i.zero,i.size,i.bytes))=some (some<|.agg #[Em,Nl,Nl],3,64):=Up
def Gt(o:Nat)(w:RW):Nat->Prop:=λa=>o<a/\a<w
def KG.Le{a b c}{o d:Nat}{e i f j}(k:KG a o e f b)(l:KG b d i j c)(m:a<=d):KG a o e f c:=
 k.grow l.g (λn g=>by injection g with g;omega)
def Kc(w:RW)(m:RK)(b:Fl)(c d e:Nat)(n:Ending)(a:RW):Prop:=
 ∃(f:RE) (g:Nat) (i:RE) (j:Nat) (k:RE) (l:Nat),n=.returned (.agg #[tx m,(f,c,g),(i,d,j),(k,e,l)])/\kz mI (Nw w a) a (f,c,g) b.kQ/\kz nT (Nw w a) a (i,d,j) b.ml/\kz (mr .u8) (Nw w a) a (k,e,l) b.kH/\Below w w a
abbrev hR(a b c d e f g):=(#[tx a,.slice b c d,.slice e f g]:Array Go.Value)
abbrev lP(a b c d e f g h i j):=(#[tx a,.slice b c d,.slice e f g,.slice h i j]:Array Go.Value)
abbrev oe(a b c):=(.cells #[.slice a b c] 118:Go.Obj)
abbrev tc:=(.cells #[Em,Nl,Nl,Nl] 54:Go.Obj)
abbrev ti(a b):=(.cells #[tx a,b] 107:Go.Obj)
abbrev Bm(a b c):=(.cells #[tx a,tx b,c] 108:Go.Obj)
def kI.oc(a:Int):Bool:=(a==32)||(a==9)||(a==10)||(a==13)
def kI.oZ(a:Int):Bool:=(a !=10)
def kI.wW(b a):pre b a<=a.length:=by unfold pre;exact(List.takeWhile_sublist _).length_le
def kI.pre_nil(a):pre a []=0:=rfl
def kI.nI(a b c):pre a (b::c)=if a b.toNat then pre a c+1 else 0:=by unfold pre;rw[List.takeWhile_cons];split<;>simp
def kI.Bv(d):∀a b (e:b<a.length),b<=pre d a->d (a[b]).toNat=true->b+1<=pre d a
 |[],_,e,_,_=>absurd e (by simp)
 |c::a,0,_,_,hp=>by rw[nI,if_pos<|by simpa using hp];omega
 |c::a,b+1,e,hk,hp=>by
  rw[nI]at hk⊢;split at hk
  rename_i f
  rw[if_pos f];have:=Bv d a b (by simpa using e) Y (by simpa using hp);omega;omega
def kI.Bw(d):∀a b (e:b<a.length),b<=pre d a->d (a[b]).toNat=false->pre d a=b
 |[],_,e,_,_=>absurd e Uo
 |c::a,0,_,_,hp=>by rw[nI,if_neg<|by simpa using hp]
 |c::a,b+1,e,hk,hp=>by
  rw[nI]at hk⊢;split at hk
  rename_i f
  rw[if_pos f,Bw d a b (by simpa using e) Y<|by simpa using hp];omega
def kI.yV(b:Int->Bool)(c:Se)(a:Nat)(d:a<c.size)(e:a<=pre b c.data.toList)(f:b (c[a]).toNat=true):a+1<=pre b c.data.toList:=
 Bv b _ a (by simpa using d) e (by simpa[ByteArray.getElem_eq_getElem_data]using f)
def kI.yX(b:Int->Bool)(c:Se)(a:Nat)(d:a<c.size)(e:a<=pre b c.data.toList)(f:b (c[a]).toNat=false):pre b c.data.toList=a:=
 Bw b _ a (by simpa using d) e (by simpa[ByteArray.getElem_eq_getElem_data]using f)
def kI.Bx(b:Int->Bool)(a:Se)(c:Nat)(d:¬c<a.size)(e:c<=pre b a.data.toList):pre b a.data.toList=c:=by have:=wW b a.data.toList;simp at this;omega
def kI.syms:List RK:=[[46,46],[61,61],[33,61],[60,61],[62,61],[45,62],[123],[125],[40],[41],[91],[93],[44],[59],[58],[46],[61],[60],[62],[43],[45],[42],[47],[37],[95]]
def kI.E8(b)(a:Nat)(d:a<39)(c:(words[a]?.getD []==b)=true):tz b=true:=by have e:a<words.length:=d;rw[List.getElem?_eq_getElem e,Option.getD_some]at c;have:=eq_of_beq c;unfold tz;rw[List.contains_iff_mem,<-this];exact List.getElem_mem _
def kI.Bz(b)(e:∀a,a<39->(words[a]?.getD []==b)=false):tz b=false:=by unfold tz;rw[Bool.eq_false_iff];intro c;rw[List.contains_iff_mem]at c;have⟨a,d,f⟩:=List.getElem_of_mem c;have:=e a d;rw[List.getElem?_eq_getElem d,Option.getD_some,f]at this;simp at this
def kI.pfx(a b:RK):Bool:=b.isPrefixOf a
def kI.my:Bool->RK->Nat
 |_,[]=>0
 |false,c::t=>if oc c.toNat then my false t+1 else if pfx (c::t) [47,47]then my true t+1 else 0
 |true,c::t=>if c==10 then my false t+1 else my true t+1
def kI.sy:∀b a,my b a<=a.length
 |true,[]=>by simp[my]
 |false,[]=>by simp[my]
 |false,c::t=>by have d:=sy false t;have e:=sy true t;simp only[my,List.length_cons];split;omega;split<;>omega
 |true,c::t=>by have d:=sy false t;have e:=sy true t;simp only[my,List.length_cons];split<;>omega
def kI.E9(b)(a:pfx b [47,47]=true):∃e,b=47::47::e:=by
 unfold pfx at a
 match b,a with
 |[],a=>simp at a
 |[c],a=>simp[List.isPrefixOf]at a
 |c::d::e,a=>simp[List.isPrefixOf]at a;exact⟨e,by rw[<-a.1,<-a.2]⟩
def kI.ry(a:Se)(b:Nat):(a.extract b a.size).data.toList=a.data.toList.drop b:=by rw[ByteArray.data_extract,Array.toList_extract,List.extract_eq_take_drop];apply List.take_of_length_le;simp
def kI.FX(a:Se)(b:Nat):(a.extract 0 b).data.toList=a.data.toList.take b:=by rw[ByteArray.data_extract,Array.toList_extract,List.extract_eq_take_drop];simp
def kI.vU(c:Int->Bool)(a:Se)(b:Nat)(d:b<=a.size):b+pre c (a.data.toList.drop b)<=a.size:=by have:=wW c<|a.data.toList.drop b;simp only[List.length_drop,Array.length_toList,ByteArray.size_data]at this;omega
def kI.pz(a:Se)(b:0<a.size):a.data.toList.headD 0=a[0]:=by
 have c:0<a.data.toList.length:=by simpa using b
 rw[List.headD_eq_head?_getD,List.head?_eq_getElem?,List.getElem?_eq_getElem c,Option.getD_some];rfl
def oB{b}(a:RW)(e c)(f:Nat)(g:Array R0)(d:Nat)(i:R0)(j:b.underlying e=some (.array f c))(k:d<f)
  (l:(isAgg c).run b a=.ok false a) (m:g[d]?=some i) (n:(sizeOf c).run b a=.ok 1 a):
  (Instr.index e (.agg g)<|.int .i64 d).run b a=.ok i a:=by
 simp[Instr.index,Tk j,asIntOf,k,n,l,m,go_sem]
def vn(b)(a:Nat)(c:a<39):(Instr.index 348 (.agg pc)<|.int .i64 a).run prog b=.ok (tx<|kI.words.getD a []) b:=
 oB b _ 9 39 _ a _ Up c Up
  (by have d:a<kI.words.length:=c;simp[pc,tx,d]) Up
def tZ:(prog.info? 348).map (·.size)=some pc.size:=Up
def sI:prog.underlying 348=some (.array 39 9):=Up
def oG(a:Int)(b):Calls prog 194 #[.int .u8 a] b λc d=>c=.returned (.bool<|kI.lY a)/\b=d:=by
 by_cases e:97<=a<;>by_cases f:a<=122<;>by_cases g:65<=a<;>by_cases i:a<=90;all_goals
  first
  |omega
  |(go_enter func194,ntmps194;go_wp2;go_ret;exact⟨by simp[kI.lY,e,f,g,i],Z⟩)
def pQ(a:Int)(b):Calls prog 197 #[.int .u8 a] b λc d=>c=.returned (.bool<|kI.mO a)/\b=d:=by
 by_cases e:48<=a<;>by_cases f:a<=57;all_goals
  first
  |omega
  |(go_enter func197,ntmps197;go_wp2;go_ret;exact⟨by simp[kI.mO,e,f],Z⟩)
def rN{k:Nat}(b:k<3):nr (kX k)=true:=by
 have a:k=0\/k=1\/k=2:=Y
 rcases a with rfl|rfl|rfl<;>decide+kernel
def DD:nr mN=true:=Uv
def lX.low{w}(a:lX w):5<w.heap.size/\11<w.heap.size/\6<w.heap.size:=⟨a.names.lt,a.lt.1,a.lt.2⟩
def lX.to{w w'}(a:lX w)(b:Below w w w'):lX w':=a.ku b a.low
def xx:shapes.length=24:=Un
def vp:forms.length=11:=Un
def qI{f}(b:lX f)(k:Nat)(a)(g:shapes[k]?=some a):∀c d,(rr a)[c]?=some d->f.cell? ⟨11,k*4+c,none⟩=some d:=by have⟨_,⟨m,n,b⟩,_⟩:=b;intro c d i;have⟨e,j,l⟩:=ly.ll (k:=4) (R:=λe a=>e=rr a) (λe a b=>by rw[b];rfl) k a (ly.map rr shapes) g;have:=l c d (by rw[j];exact i);simp only[World.cell?,b];simpa[wG]using this
def pg{f}(b:lX f)(k:Nat)(a)(g:forms[k]?=some a):∀c d,(sQ a)[c]?=some d->f.cell? ⟨6,k*6+c,none⟩=some d:=by have⟨_,_,m,n,b⟩:=b;intro c d i;have⟨e,j,l⟩:=ly.ll (k:=6) (R:=λe a=>e=sQ a) (λe a b=>by rw[b];rfl) k a (ly.map sQ forms) g;have:=l c d (by rw[j];exact i);simp only[World.cell?,b];simpa[zS]using this
def BA(b:Nat)(a)(c:forms[b]?=some a)(g:1<=b)(e)(d:lX e):Calls prog 206 #[.int .u8 (b:Int)] e<|kG (.tuple #[.agg #[.bool a.1,.bool a.2.1,.int .i64 (a.2.2.1:Int),.int .i64 (a.2.2.2.1:Int),.bool a.2.2.2.2.1,.bool a.2.2.2.2.2],true]) e:=by
 have i:b<11:=by have:=(Q9.1 c).1;rw[vp]at this;exact this
 have f:=pg d b a c 0 _ Z;have j:=pg d b a c 1 _ Z;have k:=pg d b a c 2 _ Z;have l:=pg d b a c 3 _ Z;have m:=pg d b a c 4 _ Z;have n:=pg d b a c 5 _ Z;have p:=d.lt.2;rw[Q1]at f
 go_enter func206,ntmps206
 go_wp2;refine QY (v:=.tuple #[.agg #[.bool a.1,.bool a.2.1,.int .i64 (a.2.2.1:Int),.int .i64 (a.2.2.2.1:Int),.bool a.2.2.2.2.1,.bool a.2.2.2.2.2],true]) ?_ rfl ⟨Z,Ba _ _⟩;simp[results,Tryz.results206,go_sem]
def letters:kI.lY (120:UInt8).toNat=true/\kI.lY (112:UInt8).toNat=true/\kI.lY (116:UInt8).toNat=true/\kI.lY (98:UInt8).toNat=true/\kI.lY (102:UInt8).toNat=true/\kI.lY (104:UInt8).toNat=true:=Uv
def lT{d:Nat}{a}{k:Nat}{b}(c:a.op=(k:Int))(q:1<=k)(e:shapes[k]?=some b)(f:a.args.length=b.1)(g:b.2.1=true->nr a.name=true)(i:b.2.1=false->a.name=[])(j:k=1->0<=a.n)(l:k≠1->a.n=0)(m:∀n∈a.args,mK d n):mK (d+1) a:=
 ⟨⟨b,Y,by rw[c];simpa using e,f,g,i,λp=>j Y,λp=>l Y⟩,m⟩
def mZ{b:Nat}{c w}(a:Below b c w)(d:Nat):Below b c<|w.drewN d:=⟨a.os,a.tape,a.output,a.size,a.B⟩
def Bi(i:FuncId):Prop:=∀(c:Nat->Prop) (a:RW) (b o d:Nat) (e:Ex) (f:List R0),lX a->At a b o f->kP .u8 d c a f e->mK d e->b<a->(∀g,c g->g<a)->Calls prog i #[.pointer<|some ⟨b,o,none⟩] a (kG (.bool true) a)
def wz:mq 208:=λ_ _=>Up
def vE:mq 209:=λ_ _=>Up
def C8(i:FuncId)(c:Nat):Prop:=∀(d:Nat->Prop) (a:RW) (b o:Nat) (e:Ex) (f:List R0),lX a->At a b o f->kP .u8 c d a f e->mK c e->b<a->(∀g,d g->g<a)->Calls prog 225 #[.pointer<|some ⟨b,o,none⟩,.func (.func i) #[] #[]] a (kG (.bool true) a)
def DF:∀a∈shapes,a.1<=2:=Un
def mK.two{a:Nat}{b}(c:mK a b):b.args.length<=2:=by
 cases a with
 |zero=>exact c.elim
 |succ a=>have⟨⟨d,_,e,f,_⟩,_⟩:=c;rw[f];exact DF d<|QS e
def xy:∀a∈forms,a.2.2.2.1<=5:=Un
def nQ.five{a:Nat}{b}(c:nQ a b):b.lp.length<=5:=by
 cases a with
 |zero=>exact c.elim
 |succ a=>have⟨⟨d,_,e,_,_,_,_,_,f,_⟩,_⟩:=c;exact QT f<|xy d<|QS e
def Bj(i:FuncId):Prop:=∀(c:Nat->Prop) (a:RW) (b o d:Nat) (e:St) (f:List R0),lX a->At a b o f->kR .u8 d c a f e->nQ d e->b<a->(∀g,c g->g<a)->Calls prog i #[.pointer<|some ⟨b,o,none⟩] a (kG (.bool true) a)
def po{e b c}{f o d:Nat}{g i}(k:At b f o i/\kR .u8 d e b i g/\nQ d g)(m:f<b)(n:∀a,e a->a<b)(j:Below b b c):At c f o i/\kR .u8 d e c i g/\nQ d g/\f<c/\∀a,e a->a<c:=
 ⟨k.1.ku j m,(kR.ok .u8 d).kv k.2.1 λa l=>j.B a<|n a l,k.2.2,QO m j.size,λa l=>QO (n a l) j.size⟩
def C9(j:FuncId)(c:Nat):Prop:=∀(d:Nat->Prop) (a:RW) (e:RE) (f g:Nat) (b:List St),lX a->kz (kR .u8 c) d a (e,f,g) b->b.length<=12->(∀k∈b,nQ c k)->(∀i,d i->i<a)->Calls prog 151 #[(e,f,g),.func (.func j) #[] #[]] a (kG (.bool true) a)
def wB:mq 152:=λ_ _=>Up
def vG:mq 155:=λ_ _=>Up
def Da(b:Nat):Prop:=∀(d:Nat->Prop) (a:RW) (k l:Int) (m:RK) (e:RE) (c f:Nat) (g:List Ex),kz (kP .u8 b) d a (e,c,f) g->c<=2->(∀n∈g,mK b n)->b<=6->(∀i,d i->i<a)->
 Calls prog 205 #[.agg #[.int .u8 k,tx m,l,(e,c,f)]] a (λp q=>∃j:Nat,p=.returned (.int .i64 (j:Int))/\j<=b+1/\Below a a q)
def lH.uS(a:Nat)(b:List St)(d:Nat):Nat:=b.length+((b.take d).map λc=>kU a c.th+kU a c.el).sum
def lH.F5(b:Nat)(a):uS b a 0=a.length:=by simp[uS]
def lH.yZ(a:Nat){b}{c:Nat}{d}(e:b[c]?=some d):uS a b (c+1)=uS a b c+(kU a d.th+kU a d.el):=by simp only[uS,List.take_add_one,e,Option.toList_some,List.map_append,List.sum_append,List.map_cons,List.map_nil,List.sum_cons,List.sum_nil];omega
def lH.xd(b:Nat):∀a,uS b a a.length=kU (b+1) a
 |[]=>rfl
 |x::a=>by have:=xd b a;simp only[uS,List.take_length]at this⊢;simp only[List.length_cons,List.map_cons,List.sum_cons,kU]at this⊢;omega
def lH.F6(c:Nat)(b):∀(k a:Nat),k<=a->uS c b k<=uS c b a
 |k,a,f=>by
  induction a with
  |zero=>obtain rfl:k=0:=Y;exact Nat.le_refl _
  |succ a d=>
   by_cases e:k=a+1;rw[e];exact Nat.le_refl _;refine Nat.le_trans (d Y) ?_;cases hx:b[a]? with
   |none=>have:b.length<=a:=(by rw[List.getElem?_eq_none_iff]at hx;exact hx);simp only[uS,List.take_of_length_le this,List.take_of_length_le<|Nat.le_succ_of_le this];exact Nat.le_refl _
   |some x=>rw[yZ c hx];omega
def lH.Fa{b:Nat}{d}{c:Nat}(e:kU (b+1) d<=c){a}(f:a∈d):kU b a.th<=c/\kU b a.el<=c:=(qj e).2 a f
def Lx(a:Nat):Prop:=∀(d:Nat->Prop) (b:RW) (e:RE) (f g:Nat) (c:List St),kz (kR .u8 a) d b (e,f,g) c->c.length<=12->(∀k∈c,nQ a k)->kU a c<=40->a<=6->(∀i,d i->i<b)->
 Calls prog 202 #[(e,f,g)] b (λl m=>∃j:Nat,l=.returned (.int .i64 (j:Int))/\j<=kU a c/\Below b b m)
def Lz(a:Nat):Prop:=∀(d:Nat->Prop) (b:RW) (e:RE) (f g:Nat) (c:List St),kz (kR .u8 a) d b (e,f,g) c->c.length<=12->(∀k∈c,nQ a k)->kU a c<=40->a<=6->(∀i,d i->i<b)->
 Calls prog 203 #[(e,f,g)] b (λl m=>∃j:Nat,l=.returned (.int .i64 (j:Int))/\j<=a/\Below b b m)
def Az:mq 204:=λ_ _=>Up
def EW(l:FuncId):Prop:=∀(c:Nat->Prop) (a:RW) (d:RE) (e f:Nat) (g:RE) (i j:Nat) (b:Hd),lX a->kz kM c a (d,e,f) b.params->kz (kR .u8 Ds) c a (g,i,j) b.body->vL b->(∀k,c k->k<a)->Calls prog l #[.agg #[tx b.name,(d,e,f),(g,i,j)]] a (kG (.bool true) a)
def HB(a:RW)(b:Hd)(c:RE)(d e:Nat)(f:RE)(g i:Nat):Below a a<|a.alloc<|.cells (hR b.name c d e f g i) 125:=Ba _ _
def uh:mq 148:=λ_ _=>Up
def AA:mq 150:=λ_ _=>Up
def yB:mq 154:=λ_ _=>Up
def yC(a)(e:Lf a)(b):Calls prog 153 #[.agg #[tx a.name,.int .u8 a.ty,a.init]] b<|kG (.bool true) b:=by
 have c:Below b b<|b.alloc<|tw a.name a.ty a.init:=Ba _ _;have f:=e.form;have⟨i,j,g⟩:=a;simp only at*;rcases f with⟨rfl,d⟩|⟨rfl,d⟩|⟨rfl,rfl⟩
 .have k:(g != -9223372036854775808)=true:=by simpa using d
  go_enter func153,ntmps153
  go_wp2;go_ret;exact⟨Uo,c⟩
 .rcases d with rfl|rfl
  .go_enter func153,ntmps153
   go_wp2;go_ret;exact⟨Z,c⟩
  go_enter func153,ntmps153
  go_wp2;go_ret;exact⟨Z,c⟩
 go_enter func153,ntmps153
 go_wp2;go_ret;exact⟨Z,c⟩
def L1:Keyed prog 9:=Keyed.of_law<|Go.WideMaps.string_law underlying9
def mW{c d a}{cb:Nat}{m n p r s t u v w x vQ}{y:List In}(g:mB d cb m n p r s t u v w x vQ y a)(e:∀q,c q->q<d.heap.size/\q≠cb){i}(z:ov c d i)(j:RK):
  Calls prog 86 #[i,tx j] a λk l=>∃f:Int,k=.returned (.int .i64 f)/\a=l:=by
 obtain⟨A,B,C,D,rfl,E,F⟩:=z;refine(vq c a A B C D j (E.kv kM.ok λq b=>g.old (e q b).1 (e q b).2) F λq b=>QO (e q b).1 g.g.size).M ?_;rintro k l ⟨f,G,_,I⟩;exact⟨f,G,I⟩
def lH.qz:Nat->Nat|0=>0|d+1=>2*qz d+1
def rV.snoc{a b c:List In}{d m:Nat}(e:rV a d b){x:In}(f:mC x)(g:c=b++[x])(l:d+1<=m):rV a m c:=by obtain⟨i,rfl,n,j⟩:=e;refine⟨i++[x],by rw[g,Ru],Us,λk hy=>?_⟩;rcases SG.1 hy with hy|hy;exact j k hy;simp at hy;subst hy;exact f
def mB.form{d}{cb:Nat}{e f g i hd j k l m n vQ}{c:List In}{w}(p:mB d cb e f g i hd j k l m n vQ c w):∃a b,vQ=.slice a c.length b:=by have⟨a,b,q,_⟩:=p.own.form;exact⟨a,b,q⟩
def lH.wj(a:In):List Go.Value:=[.int .u8 a.op,.int .i64 a.a,.int .i64 a.b,.int .i64 a.n]
def lH.In.put(c:In)(d:Nat)(t:Int):In:=if d=1 then{c with a:=t}else{c with b:=t}
def lH.Ke(d:List In)(a:Nat)(e:In)(c:d[a]?=some e)(b:Nat)(f:Go.Value)(g:(wj e)[b]?=some f):((d.map wj).flatten)[a*4+b]?=some f:=by
 induction d generalizing a with
 |nil=>simp at c
 |cons i k j=>
  have l:b<4:=(List.getElem?_eq_some_iff.1 g).1;cases a with
  |zero=>simp only[List.getElem?_cons_zero,Option.some.injEq]at c;subst c;rw[List.map_cons,List.flatten_cons,List.getElem?_append_left<|by show 0*4+b<4;omega];simpa using g
  |succ a=>rw[List.map_cons,List.flatten_cons,List.getElem?_append_right (by show 4<=_;omega),show(a+1)*4+b-(wj i).length=a*4+b by show(a+1)*4+b-4=_;omega];exact j a (by simpa using c)
def lH.pG.OU{a:In}{e b:Nat}(c:pG e a)(j:e<=b){d:Int}(f:0<=d)(g:d<=b):pG b<|a.put 1 d:=by refine⟨c.1,c.2.1,λ_=>⟨f,g⟩,λi=>?_⟩;have:=c.2.2.2 i;show 0<=a.b/\a.b<=b;omega
def lH.pG.OV{a:In}{e b:Nat}(c:pG e a)(j:e<=b){d:Int}(f:0<=d)(g:d<=b):pG b<|a.put 2 d:=by refine⟨c.1,c.2.1,λi=>?_,λ_=>⟨f,g⟩⟩;have:=c.2.2.1 i;show 0<=a.a/\a.a<=b;omega
def lH.mY.refl(a:List In):mY a 0 a:=⟨[],Uo,Uo,Uo⟩
def lH.mY.one{a c:List In}{b:In}(e:c=a++[b])(f:pG (a.length+1) b):mY a 1 c:=⟨[b],e,Uo,λg d=>by simp at d;subst d;exact f⟩
def lH.mY.put{a b:List In}{e i c:Nat}(m:mY a e b){d:In}(f:b[i]?=some d)(g:a.length<=i)(n:c=1\/c=2){t:Int}(j:0<=t)(p:t<=b.length):mY a e<|b.set i<|d.put c t:=by obtain⟨q,rfl,r,k⟩:=m;refine⟨q.set (i-a.length)<|d.put c t,by rw[List.set_append_right _ _ g],by simpa using r,λs hy=>?_⟩;rw[List.length_set];rw[List.length_append]at p;rw[List.getElem?_append_right g]at f;have l:=k d<|List.mem_of_getElem? f;rcases List.mem_or_eq_of_mem_set hy with hy|hy;exact k s hy;subst hy;rcases n with rfl|rfl;exact l.OU (Nat.le_refl _) j Y;exact l.OV (Nat.le_refl _) j Y
def rV.QA{a b:List In}{c:Nat}(d:rV a c b):mY a c b:=by have⟨e,f,g,i⟩:=d;exact⟨e,f,g,λj k=>(i j k).ok _⟩
def Fb{c d}:∀{a:List<|List R0} {b:List In},ly (ym d c) a b->a=b.map wj
 |[],[],_=>rfl
 |r::rs,x::xs,⟨h1,h2⟩=>by rw[Rq,<-Fb h2];exact RH (·::rs) h1
 |[],_::_,h=>h.elim
 |_::_,[],h=>h.elim
def Fc{b c}:∀(a:List In),ly (ym c b) (a.map wj) a
 |[]=>trivial
 |_::xs=>⟨Z,Fc xs⟩
def PK:R0:=.agg #[Em,Nl,Nl]
def zf{a:Type}(f:a->R0->Prop)(g:R0)(o:Option a)(b:RW)(c:Ending)(i:RW):Prop:=(∀d,o=some d->∃e,c=.returned (.tuple #[e,true])/\f d e)/\(o=none->c=.returned (.tuple #[g,false]))/\Below b b i
abbrev re:=(.cells #[Em,Nl,Nl] 112:Go.Obj)
abbrev zd:=(#[.agg #[Em,Nl,Nl],false]:Array Go.Value)
def Np(b:Nat->Prop)(c:RW)(a:Hd)(v:R0):Prop:=∃(d:RE) (e f:Nat) (g:RE) (i j:Nat),v=.agg #[tx a.name,(d,e,f),(g,i,j)]/\kz kM b c (d,e,f) a.params/\kz (kR .u8 Ds) b c (g,i,j) a.body
abbrev wg:=(.cells #[Em,Nl,Nl] 125:Go.Obj)
abbrev FG:=(#[.int .u8 1,Em,.int .i64 0]:Array Go.Value)
def um(a:Nat)(b c d e:R0)(f:RW):Prop:=∃g:Se,f.heap[a]?=some (.cells #[b,c,d,e,.string g,Em,Em,.int .i64 0] 223)
def um.lt{b:Nat}{c d e f w}(a:um b c d e f w):b<w:=by have⟨g,a⟩:=a;exact(QP.1 a).1
def um.kv{cb:Nat}{b c d e w w'}(a:um cb b c d e w)(f:w'.heap[cb]?=w.heap[cb]?):um cb b c d e w':=by have⟨g,a⟩:=a;exact⟨g,f.T a⟩
def um.ku{cb B:Nat}{a b c d w w'}(e:um cb a b c d w)(f:Below B w w')(g:cb<B):um cb a b c d w':=e.kv<|f.B cb g
def ub(c:Nat)(d e f g a i)(b:um c d e f g a):Calls prog 106 #[.pointer c,.int .i64 0,.string i] a λj k=>j=.returned (.bool true)/\a=k:=by
 have⟨l,b⟩:=b;have m:=kt b 7
 go_enter func106,ntmps106
 go_wp2;go_ret;exact⟨Z,Z⟩
def mj(b:Nat)(c d e f a)(j:Int)(g)(k:um b c d e f a):Calls prog 161 #[.pointer b,true,j,.string g] a λi w'=>i=.returned (.bool true)/\a=w':=by
 have l:=(ub b c d e f a g k)
 go_enter func161,ntmps161
 go_wp21;apply l.M;rintro i m ⟨rfl,rfl⟩;go_wp21;go_ret;exact⟨Z,Z⟩
def uW(b:Nat)(f g j k c d)(a:um b f g j k c):Calls prog 160 #[.pointer b,.string d] c λl e=>l=.returned (.bool true)/\um b f g j k e/\c.grownBy e (some b)/\e.heap.size=c:=by
 have⟨n,a⟩:=a;have p:=kt a 4;have q:=kx a 4;have r:=kt a 7;have m:=kr (i:=4) (u:=.string d) a
 go_enter func160,ntmps160
 go_wp2;go_ret;exact⟨Z,⟨d,m⟩,kE c b 4 _,by rw[QU]⟩
structure Bd(bb cb:Nat)(AF:RE)(nf cf:Nat)(AV:RE)(nv cv:Nat)(AP:RE)(np cp:Nat)(o0 o1 o2:R0)(pl:Se)(cnt:Nat)(w:RW):Prop where
 ll:w.heap[bb]?=some (.cells #[.pointer cb,(AF,nf,cf),(AV,nv,cv),(AP,np,cp),o0,o1,o2,.string pl,cnt] 331)
def pA(r a s d e t f)(g i:Nat)(j)(k l:Nat)(m)(n p:Nat)(u x:Nat)(y z A:R0)(B:Se)(C:Nat)(b:RK)(c:Va)(D:si r a s d e t f g i j k l m n p)
  (q:Bd u x f g i j k l m n p y z A B C a) (E:b∉e) (F:(d.find? λc=>c.name==b)=some c):
  Calls prog 241 #[.pointer u,tx b] a (kG (.int .u8 c.ty) a):=by
 have v:=(sO r a s d e t f g i j k l m n p b D)
 rw[Rh E,F]at v;have G:=kt q.ll 1;have I:=kt q.ll 2;have J:=kt q.ll 3
 go_enter func241,ntmps241
 go_wp21;apply v.M;rintro K L ⟨rfl,w⟩;simp only[qd];go_wp21;go_ret;exact⟨Z,w.alloc w.size _⟩
def lH.H0{i:List Nat}{j:List<|List Hd}(k:∀d∈j,∀a b,d[a]?=some b->∃e,i[a]?=some e/\b.name=nm 104 a/\b.params=qN 112 e)(A:i.length<=3)(r:∃d∈j,d.length=i.length){a e:Nat}(l:i[a]?=some e):
  ∃b,(j.flatten.find? λf=>f.name==nm 104 a)=some b/\b.params=qN 112 e:=by
 have⟨d,m,B⟩:=r;have C:=(List.getElem?_eq_some_iff.1 l).1;obtain⟨n,p⟩:∃f,d[a]?=some f:=Gx Y;have⟨_,_,s,_⟩:=k d m a n p;cases hf:j.flatten.find? λf=>f.name==nm 104 a with
 |none=>rw[List.find?_eq_none]at hf;exact absurd (by rw[s];simp)<|hf n<|List.mem_flatten.2 ⟨d,m,List.mem_of_getElem? p⟩
 |some b=>
  refine⟨b,Z,?_⟩;have c:=List.find?_some hf;have⟨t,u,v⟩:=List.mem_flatten.1<|List.mem_of_find?_eq_some hf;have⟨q,w⟩:=List.getElem?_of_mem v;have⟨D,g,x,y⟩:=k t u q b w;rw[x]at c;simp only[beq_iff_eq]at c;have E:=(List.getElem?_eq_some_iff.1 g).1;have z:q=a:=by unfold nm at c;injection c with _ c;injection c with c _;have:=congrArg UInt8.toNat c;simp at this;omega
  subst z;rw[l]at g;injection g with g;rw[y,g]
def lH.H2{c:List Co}(l:c.length<=3)(i:∀a b,c[a]?=some b->b.name=kX a){a:Nat}{b:Co}(d:c[a]?=some b):(c.find? λe=>e.name==kX a)=some b:=by
 cases hf:c.find? λe=>e.name==kX a with
 |none=>rw[List.find?_eq_none]at hf;exact absurd (by rw[i a b d];simp)<|hf b<|List.mem_of_getElem? d
 |some e=>have f:=List.find?_some hf;have⟨j,g⟩:=List.getElem?_of_mem<|List.mem_of_find?_eq_some hf;rw[i j e g]at f;simp only[beq_iff_eq]at f;have m:=(List.getElem?_eq_some_iff.1 g).1;have n:=(List.getElem?_eq_some_iff.1 d).1;have k:=sU Y Y f;subst k;rw[g]at d;exact d
abbrev AS(a):=(⟨a,8,none⟩:Go.Addr)
def tT{a:RW}{b:Nat}{d e f g i j k l m:R0}{n:TypeId}(c:a.heap[b]?=some (.cells #[d,e,f,g,i,j,k,l,m] n)):
  a.cell? b=some d/\a.cell? (sd b)=some e/\a.cell? (rm b)=some f/\a.cell? (sz b)=some g/\a.cell? (Iv b)=some i/\a.cell? (An b)=some j/\a.cell? (zc b)=some k/\a.cell? (uc b)=some l/\a.cell? (AS b)=some m:=
 ⟨kt c 0,kt c 1,kt c 2,kt c 3,kt c 4,kt c 5,kt c 6,kt c 7,kt c 8⟩
def Ae(a:RW)(b:Ending)(w':RW):Prop:=b=.returned (.tuple #[])/\Below a a w'
def Hs(e:Sc)(f:List Co):Prop:=(∀(b:Nat) (a:Co),f[b]?=some a->a.name=kX b)/\f.length=e.nZ.length/\(∀g∈e.nZ,∀c∈g,c<=2)/\∀(b:Nat) (a:Co) (d:List Nat),f[b]?=some a->e.nZ[b]?=some d->d.length<=3/\(∀i∈a.lJ,∀(j:Nat) (k:Hd),i[j]?=some k->∃c,d[j]?=some c/\k.name=nm 104 j/\k.params=qN 112 c)/\(∃i∈a.lJ,i.length=d.length)/\a.lJ.length<=1000/\∀g∈a.lJ,g.length<=1000
def nB{g:RW}{e:Nat}{j:TypeId}(d:∃a b c:R0,g.heap[e]?=some (.cells #[a,b,c] j))(o i:Nat)(u:R0)(m:i<3):∃a b c:R0,(g.setCell (sa o i) u).heap[e]?=some (.cells #[a,b,c] j):=by
 have⟨a,b,c,d⟩:=d;by_cases k:e=o;subst k;have f:=kr (i:=i) (u:=u) d;have l:i=0\/i=1\/i=2:=Y
 rcases l with rfl|rfl|rfl;exact⟨_,_,_,f⟩;exact⟨_,_,_,f⟩;exact⟨_,_,_,f⟩;exact⟨a,b,c,(Q0 _ _ _ _ k).T d⟩
abbrev L7(a b c d e f g h):=(.cells #[.int .u8 a,tx b,tx c,.slice d e f,g,h] 198:Go.Obj)
def lH.mR.sub{e}{d:Nat}{f}(i:mR e (d+1) f):(∀c∈f.th,mR e d c)/\∀c∈f.el,mR e d c:=by
 rcases i with⟨_,_,a,b,_⟩|⟨_,_,_,_,a,b,_⟩|⟨_,_,_,_,a,b,_⟩|⟨_,_,_,_,a,b⟩|⟨_,_,_,b,_,a⟩|⟨_,a,b,_⟩|⟨_,_,a,b,_⟩|⟨_,_,_,a,_,b⟩|⟨_,_,a,_,_,b⟩|⟨_,_,_,a,b,_⟩
 all_goals (constructor<;>first|exact a|exact b|(rw[a];intro c g;simp at g)|(rw[b];intro c g;simp at g))
def lH.Ag{b}:∀{d:Nat} {l:List St},(∀a∈l,mR b d a)->l.length<=kU d l
 |0,l,h=>by cases l with|nil=>simp|cons a l=>exact(h a<|List.mem_cons_self ..).elim
 |d+1,[],_=>by simp
 |d+1,a::l,h=>by have:=Ag (d:=d+1) (l:=l) λc e=>h c<|List.mem_cons_of_mem _ e;simp only[kU,List.map_cons,List.sum_cons,List.length_cons]at this⊢;omega
def lH.JN(d:Nat)(a:St):Nat:=1+kU d a.th+kU d a.el
def lH.BG{d:Nat}:∀l a,kU d (l.take a)<=kU d l
 |l,a=>by
  cases d with
  |zero=>simp[kU]
  |succ d=>have e:=congrArg (kU<|d+1)<|List.take_append_drop a l;have:∀b c:List St,kU (d+1) (b++c)=kU (d+1) b+kU (d+1) c:=(by intro b c;simp[kU]);rw[this]at e;omega
structure nX(xQ:Nat->Prop)(w w':RW):Prop where
 os:w'.os=w.os
 tape:w'.tape=w.tape
 output:w'.output=w.output
 size:w.heap.size<=w'
 B:∀k,k<w.heap.size->¬xQ k->w'.heap[k]?=w.heap[k]?
def nX.T{xQ c b d}(a:nX xQ c b)(k:nX xQ b d):nX xQ c d:=
 ⟨k.os.T a.os,k.tape.T a.tape,k.output.T a.output,QT a.size k.size,λe f g=>(k.B e (QO f a.size) g).T<|a.B e f g⟩
def nX.of{xQ w w'}(a:Below w.heap.size w w'):nX xQ w w':=⟨a.os,a.tape,a.output,a.size,λb c _=>a.B b c⟩
def nX.drew{xQ b w}(a:nX xQ b w):nX xQ b w.drew:=⟨a.os,a.tape,a.output,a.size,a.B⟩
def nX.grown{xQ w w'}{q:Nat}(a:w.grownBy w'<|some q)(c:xQ q):nX xQ w w':=⟨a.os,a.tape,a.output,a.size,λd e f=>a.B d e<|by intro b;injection b with b;exact f<|b▸c⟩
def nX.M{xQ b w w'}(a:nX xQ w w')(c:∀k,xQ k->b k):nX b w w':=⟨a.os,a.tape,a.output,a.size,λk d e=>a.B k d λf=>e<|c k f⟩
def Bb(b c:Nat):Nat->Prop:=λa=>a=b\/a=c
def six(a:Nat)(c:a<100):(Lib.decDigits a).length<=20:=by by_cases b:a<10;rw[Lib.decDigits_one b];simp;rw[Lib.decDigits_two b c];simp
abbrev AM(a b c d e f g h i j k l m n):=(#[.pointer a,.slice b c d,.slice e f g,.slice h i j,tx k,.slice e f g,.slice l m n,Em,.int .i64 0]:Array Go.Value)
def lH.pC(a:List Fg)(b:RK):Bool:=a.any λc=>c.name==b
def lH.L9{g b:Nat}{c}(p:g<=90)(f:rF g c){d}(i:c[b]?=some d):pC (c.take b) d.name=false:=by
 cases hq:pC (c.take b) d.name with
 |false=>rfl
 |true=>
  unfold pC at hq;rw[List.any_eq_true]at hq;have⟨j,k,a⟩:=hq;have⟨l,e⟩:=List.getElem?_of_mem k;rw[List.getElem?_take]at e;split at e;case isFalse=>simp at e
  case isTrue q=>have m:=f.2 l j e;have n:=f.2 b d i;have r:=(List.getElem?_eq_some_iff.1 i).1;have s:=f.1;rw[m,n]at a;simp only[beq_iff_eq]at a;unfold nm at a;injection a with _ a;injection a with a _;have:=congrArg UInt8.toNat a;simp at this;omega
def Kk(a b:Lk)(e:Nat)(c:RW)(i:c.cell? e=some (tx b.a))(j:c.cell? (sd e)=some (tx b.b))(k:e<c)(g:(a.a,a.b)≠(b.a,b.b)):
  Calls prog 164 #[.agg #[tx a.a,tx a.b,a.tF],.pointer e] c (kG (.bool false) c):=by
 have l:=nE a.a;have m:=nE a.b;have n:=nE b.a;have p:=nE b.b;by_cases d:a.a=b.a
 .have q:(a.b==b.b)=false:=by rw[TH];intro f;exact g (by rw[d,eq_of_beq f])
  have d:(a.a==b.a)=true:=by simp[d]
  go_enter func164,ntmps164
  go_wp2;go_ret;exact⟨Z,Ba _ _⟩
 .have d:(a.a==b.a)=false:=by rw[TH];intro f;exact d<|eq_of_beq f
  go_enter func164,ntmps164
  go_wp2;go_ret;exact⟨Z,Ba _ _⟩
def Gd:mq 164:=λ_ _=>Up
def lH.NN{i j c:Nat}{d}(k:nP i j d){e}(b:d[c]?=some e):∀f∈d.take c,(f.a,f.b)≠(e.a,e.b):=by
 intro f l m;have⟨n,a⟩:=List.getElem?_of_mem l;rw[List.getElem?_take]at a;split at a;case isFalse=>simp at a
 case isTrue p=>have q:=(List.getElem?_eq_some_iff.1 b).1;have r:=k.2;have g:=List.pairwise_iff_getElem.1 r n c (by rw[List.length_map];omega) (by rw[List.length_map];exact q) p;have⟨s,a⟩:=List.getElem?_eq_some_iff.1 a;have⟨_,b⟩:=List.getElem?_eq_some_iff.1 b;rw[List.getElem_map,List.getElem_map,a,b]at g;exact g m
def lH.Iz{a:List Co}{c:Nat}(m:a.length<=3)(n:c<a.length)(g:∀e f,a[e]?=some f->f.name=kX e):((a.take c).find? λi=>i.name==kX c)=none:=by
 rw[List.find?_eq_none];intro j k d;have⟨l,b⟩:=List.getElem?_of_mem k;rw[List.getElem?_take]at b;split at b;case isFalse=>simp at b
 case isTrue p=>rw[g l j b]at d;simp only[beq_iff_eq]at d;have:=sU Y Y d;omega
def lH.Kl{d b:Nat}{a}(e:rF d a):pC a (kX b)=false:=by
 cases hq:pC a (kX b)with
 |false=>rfl
 |true=>unfold pC at hq;rw[List.any_eq_true]at hq;have⟨f,g,c⟩:=hq;have⟨i,j⟩:=List.getElem?_of_mem g;rw[e.2 i f j]at c;simp[nm,kX]at c
def lH.IA(a b:Nat)(e:1<=a)(f:a<=3)(g:b<=1):((List.range 6).all λc=>match (nw a b)[c]? with|none=>true|some x=>(((nw a b).take c).find? λd=>d.name==x.name).isNone&&x.name.head? !=some 102&&x.name.length==2)=true:=by rcases(show a=1\/a=2\/a=3 from Y)with rfl|rfl|rfl<;>rcases(show b=0\/b=1 from Y)with rfl|rfl<;>decide
def lH.H3{d}{b c:Nat}(e:b<90)(f:c<90)(a:nm d b=nm d c):b=c:=by unfold nm at a;injection a with _ a;injection a with a _;have:=congrArg UInt8.toNat a;simp at this;omega
def mr.rj{b w r a}(l:mr .u8 b w r a):∃c g d e i f,r=[tx a.name,.slice c g d,.slice e i f]/\kz (oh .u8) b w (.slice c g d) a.vars/\kz (nj .u8) b w (.slice e i f) a.lJ:=by obtain⟨m,n,rfl,j,k⟩:=l;obtain⟨c,d,rfl,_⟩:=j.form;obtain⟨e,f,rfl,_⟩:=k.form;exact⟨_,_,_,_,_,_,Z,j,k⟩
def mA.rj{b w r a}(l:mA .u8 b w r a):∃c g d e i f,r=[tx a.name,.slice c g d,.slice e i f]/\kz kM b w (.slice c g d) a.params/\kz (kR .u8 Ds) b w (.slice e i f) a.body:=by obtain⟨m,n,rfl,j,k⟩:=l;obtain⟨c,d,rfl,_⟩:=j.form;obtain⟨e,f,rfl,_⟩:=k.form;exact⟨_,_,_,_,_,_,Z,j,k⟩
def xh{b:RW}{c o k:Nat}{d l:R0}{e m:TypeId}(f:b.heap[c]?=some (.cells #[d] e))(a:∃g i j:R0,b.heap[o]?=some (.cells #[g,i,j] m)):(b.setCell (sa o k) l).heap[c]?=some (.cells #[d] e):=by refine(Q8 _ _ _ _ ?_).T f;intro n;have⟨g,i,j,a⟩:=a;have p:c=o:=n;rw[<-p,f]at a;injection a with a;injection a with a;have:=RH Array.size a;simp at this
def kz.solo{f:Type}{c:Rel f}{l:Nat}(ok:lh c l){g d}{a:Nat}{b m}{i:f}(n:d.heap[a]?=some (.cells #[b] m))(p:c g d [b] i):kz c (λe=>g e\/e=a) d (a,1,1) [i]:=by
 refine⟨some ⟨a,0,none⟩,1,[[b]],Z,Uo,Y,λ_=>⟨a,0,Z,.inr Z,λj k q=>?_⟩,⟨ok.M p λe r=>.inl r,trivial⟩⟩;have s: #[b][j]?=some k:=by simpa using q
 rw[Q7];exact kA n j k s
def nj.rj{c w r d}(g:nj .u8 c w r d):∃a e b,r=[.slice a e b]/\kz (mA .u8) c w (.slice a e b) d:=by obtain⟨i,rfl,f⟩:=g;obtain⟨a,b,rfl,_⟩:=f.form;exact⟨_,_,_,Z,f⟩
def Gf:mq 233:=λ_ _=>Up
def lH.CZ(b:List Co):Nat->St->Prop
 |0,_=>False
 |d+1,s=>(1<=s.kind/\s.kind<=10)/\s.lp.length<=5/\(∀c∈s.lp,Go.Proofs.YtbdipimmpgijaaaGreatDoor.mK De c)/\(s.kind=6->∃a∈b,a.name=s.name)/\(∀a∈s.th,CZ b d a)/\∀a∈s.el,CZ b d a
def pI:Rel<|List RK:=λb c d e=>∃a,d=[a]/\kz kM b c a e
def lH.mY.le{a b:List In}{c m:Nat}(d:mY a c b)(i:c<=m):mY a m b:=by have⟨e,f,j,g⟩:=d;exact⟨e,f,Y,g⟩
def lH.mY.snoc{b a c:List In}{d m:Nat}(e:mY b d a){x:In}(f:c=a++[x])(g:pG (a.length+1) x)(i:d+1<=m):mY b m c:=e.T (mY.one f g) i
def QE:qz De=63:=rfl
def Mb(d:Nat)(b:RW)(e:Ending)(f:RW):Prop:=∃(a:Int) (c:Bool),e=.returned (.tuple #[.int .i64 a,c])/\Below b b f/\(c=true->0<=a/\a<=d)
def Kq(a:RW)(b:Ending)(c:RW):Prop:=∃(d e:Se) (f g:Int),b=.returned (.agg #[.string d,.string e,f,g])/\Below a a c
def lH.pZ(a:List Int):Array Go.Value:=(a.map λb=>Go.Value.int .i64 b).toArray
def lH.IB{a}{b:Nat}{c:Int}(d:a[b]?=some c):(pZ a)[b]?=some (.int .i64 c):=by simp[pZ,d]
def yb:mq 215:=λ_ _=>Up
def Gj(a:Nat):madeCells #[.int .i64 0] a=pZ (List.replicate a 0):=by apply Array.ext_getElem?;intro c;by_cases b:c<a;simp[madeCells,pZ,b,Nat.mod_one];simp[madeCells,pZ,b]
def Md(a:RW)(b:Ending)(c:RW):Prop:=∃(d:Int) (e:Bool),b=.returned (.tuple #[.int .i64 d,e])/\Below a a c
abbrev It(a b):=(.cells #[.slice a (b+1)<|b+1] 83:Go.Obj)
abbrev tf:=(.cells #[.int .i64 0,.int .i64 0,Nl] 230:Go.Obj)
abbrev Lw(a):=(⟨a,10,none⟩:Go.Addr)
def lH.qQ(l:List RK)(a:RK):List RK:=if a∈l then l else l++[a]
def lH.IE(a b):(qQ a b).length<=a.length+1:=by unfold qQ;split<;>simp
def lH.xi(l a):a∈qQ l a:=by unfold qQ;split;assumption;simp
def lH.IG{l c a}(b:a∈l):a∈qQ l c:=by unfold qQ;split;exact b;exact List.mem_append_left _ b
def yt(b:Nat):Rel Unit:=λ_ _ a _=>a.length=b/\∀c∈a,c.oneCell'=true
def nM(b:TypeId)(w:RW)(c d:Nat):Prop:=∃a:Array R0,w.heap[c]?=some (.cells a b (0,0))/\a.size=d/\∀e∈a.toList,e.oneCell'=true
def nM.cells{T w}{b n:Nat}(c:nM T w b n):∃l:List R0,l.length=n/\(∀u∈l,u.oneCell'=true)/\∀a u,l[a]?=some u->w.cell? (sa b a)=some u:=by have⟨d,e,f,g⟩:=c;exact⟨d.toList,by simpa using f,g,λa u i=>kA e a u<|by simpa using i⟩
def xj(a)(e:Nat)(f:0<a.size):∀b∈(madeCells a e).toList,b∈a.toList:=by intro b c;simp only[madeCells,Array.toList_map,Sj]at c;obtain⟨d,_,rfl⟩:=c;have g:d % a.size<a.size:=Tu _ f;rw[getElem!_pos a (d % a.size) g];simp
def DX{w}{a b:Nat}(c:w.heap[a]?=some (.cells (madeCells #[.int .i64 0,.int .i64 0,Nl]<|b*3) 230 (0,0))):nM 230 w a<|b*3:=⟨_,c,SM _ _,λd e=>by have:=xj _ _ Un d e;simp at this;rcases this with rfl|rfl<;>rfl⟩
def DY{w}{a b:Nat}(c:w.heap[a]?=some (.cells (madeCells #[false] b) 4 (0,0))):nM 4 w a b:=⟨_,c,SM _ _,λd e=>by have:=xj _ _ Un d e;simp at this;subst this;rfl⟩
def px(b:TypeId)(c d:RW)(e:R0)(f:Nat):Prop:=∃a:List Unit,kJ (yt 1) b 1 (λ_=>False) d c e a/\a.length<=f
def H5(a:RW)(b:Ending)(c:RW):Prop:=∃(d:RE) (e f:Nat),b=.returned (d,e,f)/\Below a a c
def yJ:(227:TypeId)≠228:=Un
abbrev wi:=(.cells #[Nl,Nl,Nl] 172:Go.Obj)
abbrev M1(a):=(some ⟨a,1,none⟩:Option Go.Addr)
abbrev No(a):=(some ⟨a,2,none⟩:Option Go.Addr)
def PM:R0:=.agg #[Em,Em,.int .i64 0]
abbrev qn:=(.cells #[Em,Em,.int .i64 0] 157:Go.Obj)
def wH(o:Obj):Prop:=∀a b,o≠.cells a 5 b
def HI:(179:TypeId)≠5:=Un
def liesBuilder:liesAt prog prog.depth 179 (3/prog.cellsOf 179) 0 177 1=true:=Up
def ue:prog.underlying 175=some (.pointer 177):=Up
def AE:∀a∈shapes,a.2.2.2.length<=10:=Un
def Ls(a:Nat):Prop:=5<a/\11<a/\6<a
abbrev GO(a):=(.cells (madeCells #[Em] a) 9:Go.Obj)
def Dh(a:Nat)(b:a<=1000):IntKind.i64.wrap ((a:Int)+1)=((a+1:Nat):Int)/\IntKind.i64.wrap (((a+1:Nat):Int)-1)=(a:Int):=by constructor<;>simp[IntKind.wrap,IntKind.bits,IntKind.signed]<;>omega
abbrev wv(a):=(some ⟨a+1,0,none⟩:Option Go.Addr)
def nK{a}(b:nr a=true):a.length<=12:=by unfold nr at b;simp only[R1,SR]at b;omega
abbrev Kx(a b):=(.cells #[tx a,.int .u8 1,b] 115:Go.Obj)
abbrev KK(a b):=(.cells #[tx a,.int .u8 2,b] 115:Go.Obj)
abbrev Lo(a b):=(.cells #[tx a,.int .u8 3,b] 115:Go.Obj)
def Gr:mq 174:=λ_ _=>Up
def Gs:mq 118:=λ_ _=>Up
abbrev Ft(a):=(.cells (madeCells #[Em,Nl,Nl]<|a*3) 125:Go.Obj)
def Gu:mq 77:=λ_ _=>Up
abbrev HW(a):=(.cells (madeCells #[Nl] a) 118:Go.Obj)
def Gv:mq 75:=λ_ _=>Up
abbrev EV(a):=(.cells (madeCells #[Em,Nl,Nl]<|a*3) 112:Go.Obj)
def Gw:mq 73:=λ_ _=>Up
abbrev va(a):=(some ⟨a+2,0,none⟩:Option Go.Addr)
abbrev AT:=(.cells #[.pointer none,Nl,.int .i64 0] 179:Go.Obj)
abbrev BE(a):=(some ⟨a,3,none⟩:Option Go.Addr)
abbrev BT(a):=(some ⟨a,5,none⟩:Option Go.Addr)
def LJ(a:Int):Nat:=(bits BinOp.and IntKind.u64 (IntKind.u64.wrap<|IntKind.i64.wrap<|-a) 31).toNat
abbrev GB(a):=(.cells (madeCells #[.int .u8 0] a) 5:Go.Obj)
abbrev DH:=(.cells (madeCells #[.int .u8 0] 8) 5:Go.Obj)
def zW:prog.arrayLen 243=64:=Up
def H8:prog.underlying 243=some (.array (prog.arrayLen 243)<|prog.elem 243):=Up
abbrev JP:Array R0:=#[.int .u32 0,.int .u32 0,.int .u32 0,.int .u32 0,.int .u32 0,.int .u32 0,.int .u32 0,.int .u32 0,.int .u32 0,.int .u32 0,.int .u32 0,.int .u32 0,.int .u32 0,.int .u32 0,.int .u32 0,.int .u32 0,.int .u32 0,.int .u32 0,.int .u32 0,.int .u32 0,.int .u32 0,.int .u32 0,.int .u32 0,.int .u32 0,.int .u32 0,.int .u32 0,.int .u32 0,.int .u32 0,.int .u32 0,.int .u32 0,.int .u32 0,.int .u32 0,.int .u32 0,.int .u32 0,.int .u32 0,.int .u32 0,.int .u32 0,.int .u32 0,.int .u32 0,.int .u32 0,.int .u32 0,.int .u32 0,.int .u32 0,.int .u32 0,.int .u32 0,.int .u32 0,.int .u32 0,.int .u32 0,.int .u32 0,.int .u32 0,.int .u32 0,.int .u32 0,.int .u32 0,.int .u32 0,.int .u32 0,.int .u32 0,.int .u32 0,.int .u32 0,.int .u32 0,.int .u32 0,.int .u32 0,.int .u32 0,.int .u32 0,.int .u32 0]
def zero64:(JP:Array R0)=Array.replicate 64 (.int .u32 0):=Up
def Mp(a:Int):0<=IntKind.u64.wrap a:=Uq
def O8:R0->Nat
 | .slice _ a _=>a
 |_=>0
def LK:R0->Int
 | .int _ a=>a
 |_=>0
abbrev tE:Array R0:=#[.int .u8 0,.int .u8 0,.int .u8 0,.int .u8 0,.int .u8 0,.int .u8 0,.int .u8 0,.int .u8 0,.int .u8 0,.int .u8 0,.int .u8 0,.int .u8 0,.int .u8 0,.int .u8 0,.int .u8 0,.int .u8 0,.int .u8 0,.int .u8 0,.int .u8 0,.int .u8 0,.int .u8 0,.int .u8 0,.int .u8 0,.int .u8 0,.int .u8 0,.int .u8 0,.int .u8 0,.int .u8 0,.int .u8 0,.int .u8 0,.int .u8 0,.int .u8 0]
def zero32:(tE:Array R0)=Array.replicate 32 (.int .u8 0):=Up
def oa.oX(a:RK)(b:List Int):RK:=a++([40]++(Lib.join (b.map Lib.itoa) [44,32]++[41]))
abbrev vj:=(.cells #[Em,false] 107:Go.Obj)
def lL:Rel Int:=λ_ _ a b=>a=[.int .i64 b]
def cmpL:List Int->List Int->Int
 |[],[]=>0
 |[],_::_=> -1
 |_::_,[]=>1
 |x::xs,y::ys=>if So x y=0 then cmpL xs ys else So x y
def rB{a b:Int}:Lib.compareInt a b=0↔a=b:=by unfold Lib.compareInt;split;simp;omega;split;simp;omega;simp;omega
def qc(B:Bool)(a:RW):Prop:=B=true->Lib.TabIs prog a "internal/strconv.uint64pow10" .u64 Lib.pow10Tab
def td:prog.globalNamed "internal/strconv.uint64pow10" =some 3:=Up
def BR(a:Nat):Lib.itoa (a:Int)=Lib.decDigits a:=by unfold Lib.itoa;rw[Rh Y,RR]
def kY(a b:RK):(⟨a.toArray⟩:Se)++⟨b.toArray⟩=⟨(a++b).toArray⟩:=by apply ByteArray.ext;simp[ByteArray.data_append]
abbrev HD(a):=(.cells (madeCells #[Value.string ⟨#[]⟩] a) 9:Go.Obj)
def NQ(a:Int):Lib.formatBool (a==1)=if a=1 then [116,114,117,101]else [102,97,108,115,101]:=by by_cases b:a=1;subst b;rfl;rw[Rh b,QW.2 b];rfl
def kI.qU(a:Se)(b:Nat):Nat:=my false<|a.data.toList.drop b
def kI.I4:∀a∈syms,1<=a.length/\a.length<=2:=Un
abbrev L.FM(a:RK):R0:=.string ⟨a.toArray⟩
def L.pc:Array R0:=(kI.words.map FM).toArray
def L.sI:prog.underlying 348=some (.array 39 9):=Up
def L.Ep:prog.underlying 310=some (.array 25 9):=Up
def qR.xo:List RK:=[[45],[110,111,116],[116,114,117,101],[102,97,108,115,101],[110,111,119],[115,105,122,101],[104,97,115],[40]]
def qR.opers:List RK:=[[111,114],[97,110,100],[61,61],[33,61],[60],[60,61],[62],[62,61],[43],[45],[42],[47],[37]]
structure PV where
 v1:R0
 v2:R0
 v3:R0
 v4:R0
 lo:Nat
abbrev By:=(.cells #[.int .u8 0,Em,.int .i64 0] 216:Go.Obj)
def JK:Rel<|RK×Nat:=λ_ _ b a=>b=[tx a.1,.int .u8 (a.2:Nat)]
def Lm(b:List<|RK×Nat):List R0:=(b.map λa=>[tx a.1,.int .u8 (a.2:Nat)]).flatten
abbrev we:=(.cells #[.string ⟨#[45]⟩,.int .u8 9,.string ⟨#[110,111,116]⟩,.int .u8 10] 375:Go.Obj)
abbrev tt:=(.cells #[.string ⟨#[42]⟩,.int .u8 11,.string ⟨#[47]⟩,.int .u8 12,.string ⟨#[37]⟩,.int .u8 13] 375:Go.Obj)
abbrev yp:=(.cells #[.string ⟨#[43]⟩,.int .u8 14,.string ⟨#[45]⟩,.int .u8 15] 375:Go.Obj)
abbrev oE:=(.cells #[.string ⟨#[61,61]⟩,.int .u8 16,.string ⟨#[33,61]⟩,.int .u8 17,.string ⟨#[60]⟩,.int .u8 18,.string ⟨#[60,61]⟩,.int .u8 19,.string ⟨#[62]⟩,.int .u8 20,.string ⟨#[62,61]⟩,.int .u8 21] 375:Go.Obj)
abbrev DP:=(.cells #[.string ⟨#[97,110,100]⟩,.int .u8 22] 375:Go.Obj)
abbrev FF:=(.cells #[.string ⟨#[111,114]⟩,.int .u8 23] 375:Go.Obj)
abbrev HK(a b):=(#[.pointer a,.pointer b]:Array Go.Value)
abbrev sn(a):=(.cells #[.pointer a] 146:Go.Obj)
abbrev yd(a):=(.cells #[.func (.func 236) #[] #[.pointer<|some ⟨a+1+1,0,none⟩,.pointer a]] 180:Go.Obj)
abbrev qv(a b):=(.cells #[tx a,Nl,.slice b 1 1] 112:Go.Obj)
abbrev D0:=(.cells #[.string ⟨#[50]⟩,.string ⟨#[51]⟩] 9:Go.Obj)
def qR.src:RK:=[102,108,101,101,116,32,102,32,123,32,102,108,97,103,32,115,108,111,119,32,61,32,102,97,108,115,101,59,32,99,111,109,112,111,110,101,110,116,32,102,114,111,110,116,32,123,32,111,110,32,104,40,41,32,123,32,115,101,110,100,32,98,97,99,107,46,103,101,116,40,49,44,32,55,41,59,32,125,32,125,32,99,111,109,112,111,110,101,110,116,32,98,97,99,107,32,123,32,111,110,32,103,101,116,40,105,44,32,106,41,32,123,32,125,32,125,32,125]
def K9:Hd:=⟨[103,101,116],[[105],[106]],[]⟩
def qF:Co:=⟨[98,97,99,107],[],[[K9]]⟩
def HM:RK:=[116,52,32,98,97,99,107,58,32,109,101,115,115,97,103,101,32,48,32,102,114,111,109,32,102,114,111,110,116,32,103,101,116,40,49,44,32,55,41]
def EY:RK:=[116,52,32,111,112,101,114,97,116,111,114,58,32,102,108,97,103,32,115,108,111,119,32,61,32,116,114,117,101,32,40,99,104,111,105,99,101,32,48,41]
abbrev DQ:=(.cells #[.int .i64 1,.int .i64 7] 2:Go.Obj)
def CR:mq 38:=λ_ _=>Up
def AU:mq 39:=λ_ _=>Up
def AW:mq 45:=λ_ _=>Up
abbrev tn(a):=(.cells #[.pointer a] 27:Go.Obj)
def AX:mq 43:=λ_ _=>Up
abbrev la:=(#[.int .i64 0,.int .i64 0,.int .u8 0,.int .i64 0,.int .i64 0,.int .i64 0,.int .i64 0,.int .i64 0,Nl]:Array Go.Value)
def narrateParses.Il:laidOutB Tryz.pinned.checked.prog=true:=by kernel_rfl
def narrateParses.MZ:mapsRowed Tryz.pinned.checked.prog=true:=by kernel_rfl
def narrateParses.Hc:(Rows.narrateParsesUptoRow.inPlace==Tryz.pinned.checked.prog.inPlace 3)=true:=by kernel_rfl
def narrateParses.NX:(Rows.narrateParsesUptoRow.unfollowed==Tryz.pinned.checked.prog.unfollowed 3)=true:=by kernel_rfl
def narrateParses.NY:(Rows.narrateParsesUptoRow.recurses==Tryz.pinned.checked.prog.recurses 3)=true:=by kernel_rfl
def narrateParses.K0:(Rows.narrateParsesUptoRow.named==Tryz.pinned.checked.prog.varsNamed 3)=true:=by kernel_rfl
def narrateParses.CT:(Rows.narrateParsesUptoRow.plainKeys==Tryz.pinned.checked.prog.plainKeys)=true:=by kernel_rfl
def narrateParses.K1:Tryz.pinned.checked.prog.stopsHeard=true:=by kernel_rfl
def narrateParses.NZ:Tryz.pinned.checked.prog.mayEnter=true:=by kernel_rfl
def narrateParses.JB:(Rows.narrateParsesUptoRow.lifted==Tryz.pinned.checked.prog.liftsFinal)=true:=by kernel_rfl
def narrateParses.M0:(Tryz.pinned.checked.prog.make==some Rows.narrateParsesUptoRow.make)=true:=by kernel_rfl
def narrateParses.K2:true=Tryz.pinned.checked.prog.looks []:=by kernel_rfl
end Go.Proofs.YtbdipimmpgijaaaGreatDoor
namespace Go.Proofs
open Go.Shelf Go.Proofs.Tryz
open Go.RowKit in
open Go.RowKit in
open Go.RowKit in
def Tryz.vX:Go.Shelf.Ren:=⟨fun|156=>91|165=>137|166=>114|169=>71|240=>171|241=>189|276=>218|277=>223|n=>n,fun|31=>76|9=>9|3=>3|4=>4|0=>0|20=>20|72=>177|76=>234|70=>175|37=>22|75=>127|127=>238|164=>341|5=>5|80=>61|n=>n,fun|n=>n⟩
def Tryz.uy:Go.Proofs.Lays.n156 Tryz.prog Tryz.vX:={
 mixed:=Up
 f156:=SO func91
 f165:=SO func137
 f166:=SO func114
 f169:=SO func71
 f240:=SO func171
 f241:=SO func189
 f276:=SO func218
 f277:=SO func223
 t0:=underlying0
 a0:=isAgg0
 z0:=sizeOf0
 v0:=zeroValue0
 t3:=underlying3
 a3:=isAgg3
 z3:=sizeOf3
 v3:=zeroValue3
 t4:=underlying4
 a4:=isAgg4
 z4:=sizeOf4
 v4:=zeroValue4
 t9:=underlying9
 a9:=isAgg9
 z9:=sizeOf9
 v9:=zeroValue9
 t20:=underlying20
 a20:=isAgg20
 z20:=sizeOf20
 v20:=zeroValue20
 t31:=underlying76
 a31:=isAgg76
 z31:=sizeOf76
 v31:=zeroValue76
 t37:=underlying22
 a37:=isAgg22
 z37:=sizeOf22
 v37:=zeroValue22
 t70:=underlying175
 a70:=isAgg175
 z70:=sizeOf175
 v70:=zeroValue175
 t72:=underlying177
 a72:=isAgg177
 z72:=sizeOf177
 v72:=zeroValue177
 t75:=underlying127
 a75:=isAgg127
 z75:=sizeOf127
 v75:=zeroValue127
 t76:=underlying234
 a76:=isAgg234
 z76:=sizeOf234
 v76:=zeroValue234
 t127:=underlying238
 a127:=isAgg238
 z127:=sizeOf238
 v127:=zeroValue238
 t164:=underlying341
 a164:=isAgg341
 z164:=sizeOf341
 v164:=zeroValue341}
def Tryz.qM:Builder.Extra Tryz.prog Tryz.vX:={
 sizeBuilder:=Up
 liesBuilder:=Up
 t5:=underlying5
 a5:=isAgg5
 z5:=sizeOf5
 v5:=zeroValue5
 infoByte:=Up
 cellsByte:=Up
 sizeByte:=Up
 neB5:=by decide}
open Go.RowKit in
def Tryz.strings_Join_none(a:Option Addr)(c:Nat)(sep:ByteArray)(w:World):
 Calls Tryz.prog 91 #[.slice a 0 c,.string sep] w fun e w'=>e=.returned (.string ⟨#[]⟩)∧w'=w:=Any.strings_Join_none Tryz.uy Tryz.qM a c sep w
open Go.RowKit in
def Tryz.strings_Join(bk o c:Nat)(xs:List ByteArray)(sep:ByteArray)(w:World)(L5:∀(j:Nat) x,xs[j]?=some x→w.cell? ⟨bk,o+j,none⟩=some (.string x))(QB:bk<w.heap.size)(hN:xs.length≤140737488355328)(OX:xs.length≤c)(hlen:(Lib.join (xs.map (·.data.toList)) sep.data.toList).length≤140737488355328):
 Calls Tryz.prog 91 #[.slice (some ⟨bk,o,none⟩) xs.length c,.string sep] w fun e w'=>e=.returned (.string ⟨(Lib.join (xs.map (·.data.toList)) sep.data.toList).toArray⟩)∧Below w.heap.size w w':=Any.strings_Join Tryz.uy Tryz.qM bk o c xs sep w L5 QB hN OX hlen
def Tryz.Cp:Go.Shelf.Ren:=⟨fun|103=>40|210=>84|206=>126|n=>n,fun|9=>9|4=>4|24=>132|3=>3|n=>n,fun|n=>n⟩
def Tryz.Ff:Go.Proofs.Lays.n103 Tryz.prog Tryz.Cp:={
 mixed:=Up
 f103:=SO func40
 f206:=SO func126
 f210:=SO func84
 t3:=underlying3
 a3:=isAgg3
 z3:=sizeOf3
 v3:=zeroValue3
 t4:=underlying4
 a4:=isAgg4
 z4:=sizeOf4
 v4:=zeroValue4
 t9:=underlying9
 a9:=isAgg9
 z9:=sizeOf9
 v9:=zeroValue9
 t24:=underlying132
 a24:=isAgg132
 z24:=sizeOf132
 v24:=zeroValue132}
open Go.RowKit in
def Tryz.strings_CutPrefix(s p:ByteArray)(w:World):
 Calls Tryz.prog 40 #[.string s,.string p] w fun e w'=>e=.returned (.tuple #[.string ⟨(Lib.trimPrefix s.data.toList p.data.toList).toArray⟩,.bool (Lib.hasPrefix s.data.toList p.data.toList)])∧w'=w:=Any.strings_CutPrefix Tryz.Ff s p w
def Tryz.Cq:Go.Shelf.Ren:=⟨fun|121=>57|214=>90|n=>n,fun|4=>4|9=>9|n=>n,fun|n=>n⟩
def Tryz.Kf:Go.Proofs.Lays.n121 Tryz.prog Tryz.Cq:={Tryz.uy with f121:=SO func57,f214:=SO func90}
open Go.RowKit in
def Tryz.strconv_FormatBool(b:Bool)(w:World):
 Calls Tryz.prog 57 #[.bool b] w fun e w'=>e=.returned (.string ⟨(Lib.formatBool b).toArray⟩)∧w'=w:=Any.strconv_FormatBool Tryz.Kf b w
def Tryz.Cr:Go.Shelf.Ren:=⟨fun|122=>129|215=>181|n=>n,fun|3=>3|4=>4|n=>n,fun|n=>n⟩
def Tryz.Kg:Go.Proofs.Lays.n122 Tryz.prog Tryz.Cr:={Tryz.uy with f122:=SO func129,f215:=SO func181}
open Go.RowKit in
def Tryz.cmp_Compare_int(x y:Int)(w:World):
 Calls Tryz.prog 129 #[.int .i64 x,.int .i64 y] w fun e w'=>e=.returned (.int .i64 (Lib.compareInt x y))∧w'=w:=Any.cmp_Compare_int Tryz.Kg x y w
def Tryz.pN:Go.Shelf.Ren:=⟨fun|171=>25|243=>60|246=>89|283=>133|284=>134|285=>135|286=>136|129=>185|317=>184|318=>186|319=>187|320=>188|337=>221|338=>222|173=>56|n=>n,fun|171=>260|53=>244|37=>22|173=>263|212=>306|51=>241|213=>307|46=>248|232=>102|233=>243|n=>n,fun|17=>3|18=>8|19=>9|n=>n⟩
def Tryz.xf:Go.Proofs.LaysM.n171 Tryz.prog Tryz.pN:={
 mixed:=Up
 f129:=SO func185
 f171:=SO func25
 f243:=SO func60
 f246:=SO func89
 f283:=SO func133
 f284:=SO func134
 f285:=SO func135
 f286:=SO func136
 f317:=SO func184
 f318:=SO func186
 f319:=SO func187
 f320:=SO func188
 f337:=SO func221
 f338:=SO func222
 t0:=underlying0
 a0:=isAgg0
 z0:=sizeOf0
 v0:=zeroValue0
 t2:=underlying2
 a2:=isAgg2
 z2:=sizeOf2
 v2:=zeroValue2
 t3:=underlying3
 a3:=isAgg3
 z3:=sizeOf3
 v3:=zeroValue3
 t4:=underlying4
 a4:=isAgg4
 z4:=sizeOf4
 v4:=zeroValue4
 t5:=underlying5
 a5:=isAgg5
 z5:=sizeOf5
 v5:=zeroValue5
 t9:=underlying9
 a9:=isAgg9
 z9:=sizeOf9
 v9:=zeroValue9
 t20:=underlying20
 a20:=isAgg20
 z20:=sizeOf20
 v20:=zeroValue20
 t37:=underlying22
 a37:=isAgg22
 z37:=sizeOf22
 v37:=zeroValue22
 t46:=underlying248
 a46:=isAgg248
 z46:=sizeOf248
 v46:=zeroValue248
 t51:=underlying241
 a51:=isAgg241
 z51:=sizeOf241
 v51:=zeroValue241
 t53:=underlying244
 a53:=isAgg244
 z53:=sizeOf244
 v53:=zeroValue244
 t171:=underlying260
 a171:=isAgg260
 z171:=sizeOf260
 v171:=zeroValue260
 t173:=underlying263
 a173:=isAgg263
 z173:=sizeOf263
 v173:=zeroValue263
 t212:=underlying306
 a212:=isAgg306
 z212:=sizeOf306
 v212:=zeroValue306
 t213:=underlying307
 a213:=isAgg307
 z213:=sizeOf307
 t232:=underlying102
 a232:=isAgg102
 z232:=sizeOf102
 v232:=zeroValue102
 t233:=underlying243
 a233:=isAgg243
 z233:=sizeOf243
 v233:=zeroValue243
 g17:=Up
 g18:=Up
 g19:=Up
 i0:=Up
 i2:=Up
 i3:=Up
 i4:=Up
 i5:=Up
 i9:=Up
 i20:=Up
 i37:=Up
 i46:=Up
 i51:=Up
 i53:=Up
 i171:=Up
 i173:=Up
 i212:=Up
 i232:=Up
 i233:=Up
 m17:=Up
 m18:=Up
 m19:=Up}
open Go.RowKit Go.Sort Go.Lib in
def Tryz.strconv_Itoa(n:Int)(h0: -9223372036854775808≤n)(h1:n≤9223372036854775807)(w:World)(LC:Lib.TabIs Tryz.prog w "internal/strconv.uint64pow10" .u64 Lib.pow10Tab):
 Calls Tryz.prog 25 #[.int .i64 n] w fun e w'=>e=.returned (.string ⟨(Lib.itoa n).toArray⟩)∧∃k os,w'=grow (w.drewN k) os:=Any.strconv_Itoa Tryz.xf n h0 h1 w LC
def Tryz.Kh:Go.Proofs.Lays.n171 Tryz.prog Tryz.pN:={Tryz.xf with}
open Go.RowKit Go.Sort Go.Lib in
def Tryz.strconv_Itoa_small(i:Nat)(hi:i<100)(w:World):
 Calls Tryz.prog 25 #[.int .i64 i] w fun e w'=>e=.returned (.string ⟨(Lib.decDigits i).toArray⟩)∧w'=w:=Any.strconv_Itoa_small Tryz.Kh i hi w
def Tryz.BD:Go.Proofs.LaysM.n173 Tryz.prog Tryz.pN:={Tryz.xf with f173:=SO func56}
open Go.RowKit Go.Sort Go.Lib in
def Tryz.strconv_FormatInt_10(n:Int)(h0: -9223372036854775808≤n)(h1:n≤9223372036854775807)(w:World)(LC:Lib.TabIs Tryz.prog w "internal/strconv.uint64pow10" .u64 Lib.pow10Tab):
 Calls Tryz.prog 56 #[.int .i64 n,.int .i64 10] w fun e w'=>e=.returned (.string ⟨(Lib.itoa n).toArray⟩)∧∃k os,w'=grow (w.drewN k) os:=Any.strconv_FormatInt_10 Tryz.BD n h0 h1 w LC
def Tryz.Ki:Go.Proofs.Lays.n173 Tryz.prog Tryz.pN:={Tryz.BD with}
open Go.RowKit Go.Sort Go.Lib in
def Tryz.strconv_FormatInt_10_small(i:Nat)(hi:i<100)(w:World):
 Calls Tryz.prog 56 #[.int .i64 i,.int .i64 10] w fun e w'=>e=.returned (.string ⟨(Lib.decDigits i).toArray⟩)∧w'=w:=Any.strconv_FormatInt_10_small Tryz.Ki i hi w
def Tryz.AD:Go.Shelf.Ren:=⟨fun|174=>36|247=>82|245=>83|287=>121|279=>122|280=>123|281=>124|282=>125|321=>176|322=>177|316=>178|171=>25|205=>179|243=>60|246=>89|283=>133|284=>134|285=>135|286=>136|129=>185|317=>184|318=>186|319=>187|320=>188|337=>221|338=>222|n=>n,fun|9=>9|3=>3|2=>2|75=>127|85=>128|4=>4|167=>249|5=>5|53=>244|175=>250|46=>248|168=>252|37=>22|0=>0|210=>300|21=>21|127=>238|145=>345|143=>343|171=>260|173=>263|212=>306|51=>241|20=>20|213=>307|232=>102|233=>243|80=>61|n=>n,fun|15=>1|16=>2|17=>3|18=>8|19=>9|n=>n⟩
def Tryz.xg:Go.Proofs.LaysC.n174 Tryz.prog Tryz.AD:={
 mixed:=Up
 f129:=SO func185
 f171:=SO func25
 f174:=SO func36
 f205:=SO func179
 f243:=SO func60
 f245:=SO func83
 f246:=SO func89
 f247:=SO func82
 f279:=SO func122
 f280:=SO func123
 f281:=SO func124
 f282:=SO func125
 f283:=SO func133
 f284:=SO func134
 f285:=SO func135
 f286:=SO func136
 f287:=SO func121
 f316:=SO func178
 f317:=SO func184
 f318:=SO func186
 f319:=SO func187
 f320:=SO func188
 f321:=SO func176
 f322:=SO func177
 f337:=SO func221
 f338:=SO func222
 t0:=underlying0
 a0:=isAgg0
 z0:=sizeOf0
 v0:=zeroValue0
 t2:=underlying2
 a2:=isAgg2
 z2:=sizeOf2
 v2:=zeroValue2
 t3:=underlying3
 a3:=isAgg3
 z3:=sizeOf3
 v3:=zeroValue3
 t4:=underlying4
 a4:=isAgg4
 z4:=sizeOf4
 v4:=zeroValue4
 t5:=underlying5
 a5:=isAgg5
 z5:=sizeOf5
 v5:=zeroValue5
 t9:=underlying9
 a9:=isAgg9
 z9:=sizeOf9
 v9:=zeroValue9
 t20:=underlying20
 a20:=isAgg20
 z20:=sizeOf20
 v20:=zeroValue20
 t21:=underlying21
 a21:=isAgg21
 z21:=sizeOf21
 v21:=zeroValue21
 t37:=underlying22
 a37:=isAgg22
 z37:=sizeOf22
 v37:=zeroValue22
 t46:=underlying248
 a46:=isAgg248
 z46:=sizeOf248
 v46:=zeroValue248
 t51:=underlying241
 a51:=isAgg241
 z51:=sizeOf241
 v51:=zeroValue241
 t53:=underlying244
 a53:=isAgg244
 z53:=sizeOf244
 v53:=zeroValue244
 t75:=underlying127
 a75:=isAgg127
 z75:=sizeOf127
 v75:=zeroValue127
 t85:=underlying128
 a85:=isAgg128
 z85:=sizeOf128
 v85:=zeroValue128
 t127:=underlying238
 a127:=isAgg238
 z127:=sizeOf238
 v127:=zeroValue238
 t143:=underlying343
 a143:=isAgg343
 z143:=sizeOf343
 v143:=zeroValue343
 t145:=underlying345
 a145:=isAgg345
 z145:=sizeOf345
 v145:=zeroValue345
 t167:=underlying249
 a167:=isAgg249
 z167:=sizeOf249
 v167:=zeroValue249
 t168:=underlying252
 a168:=isAgg252
 z168:=sizeOf252
 v168:=zeroValue252
 t171:=underlying260
 a171:=isAgg260
 z171:=sizeOf260
 v171:=zeroValue260
 t173:=underlying263
 a173:=isAgg263
 z173:=sizeOf263
 v173:=zeroValue263
 t175:=underlying250
 a175:=isAgg250
 z175:=sizeOf250
 v175:=zeroValue250
 t210:=underlying300
 a210:=isAgg300
 z210:=sizeOf300
 v210:=zeroValue300
 t212:=underlying306
 a212:=isAgg306
 z212:=sizeOf306
 v212:=zeroValue306
 t213:=underlying307
 a213:=isAgg307
 z213:=sizeOf307
 t232:=underlying102
 a232:=isAgg102
 z232:=sizeOf102
 v232:=zeroValue102
 t233:=underlying243
 a233:=isAgg243
 z233:=sizeOf243
 v233:=zeroValue243
 g15:=Up
 g16:=Up
 g17:=Up
 g18:=Up
 g19:=Up
 t80:=underlying61
 a80:=isAgg61
 z80:=sizeOf61
 v80:=zeroValue61
 i0:=Up
 i2:=Up
 i3:=Up
 i4:=Up
 i5:=Up
 i9:=Up
 i20:=Up
 i21:=Up
 i37:=Up
 i46:=Up
 i51:=Up
 i53:=Up
 i75:=Up
 i80:=Up
 i85:=Up
 i127:=Up
 i143:=Up
 i145:=Up
 i167:=Up
 i168:=Up
 i171:=Up
 i173:=Up
 i175:=Up
 i210:=Up
 i212:=Up
 i232:=Up
 i233:=Up
 m15:=Up
 m16:=Up
 m17:=Up
 m18:=Up
 m19:=Up
 c0:=Up
 c2:=Up
 c3:=Up
 c4:=Up
 c5:=Up
 c9:=Up
 c20:=Up
 c21:=Up
 c37:=Up
 c46:=Up
 c51:=Up
 c53:=Up
 c75:=Up
 c80:=Up
 c85:=Up
 c127:=Up
 c143:=Up
 c145:=Up
 c167:=Up
 c168:=Up
 c171:=Up
 c173:=Up
 c175:=Up
 c210:=Up
 c212:=Up
 c213:=Up
 c232:=Up
 c233:=Up}
open Go.RowKit in
def Tryz.strconv_ParseInt_10_at64_ok(s:ByteArray)(OY:s.size≤9223372036854775806)(v:Int)(h:Lib.parseIntB 64 s.data.toList=.ok v)(w:World):
 Calls Tryz.prog 36 #[.string s,.int .i64 10,.int .i64 64] w fun e w'=>e=.returned (.tuple #[.int .i64 v,.nilIface])∧(w'=w∨∃t,w'=Lib.bytesWorld w 5 t):=Any.strconv_ParseInt_10_at64_ok Tryz.xg s OY v h w
open Go.RowKit in
def Tryz.strconv_ParseInt_10_at64_syntax(s:ByteArray)(LD:s.size≤281474976710656)(h:(∀v,Lib.parseIntB 64 s.data.toList≠.ok v)∧Lib.parseIntB 64 s.data.toList≠.range)(ev:Value)(w:World)(hv:w.cell? ⟨1,0,none⟩=some ev)(OA:ev=.nilIface∨∃te pe,ev=.iface te pe):
 Calls Tryz.prog 36 #[.string s,.int .i64 10,.int .i64 64] w fun e w'=>∃N,e=.returned (.tuple #[.int .i64 (0),.iface 252 (.pointer (some ⟨N,0,none⟩))])∧w.heap.size≤N∧w'.heap[N]?=some (.cells #[.string ⟨#[80,97,114,115,101,73,110,116]⟩,.string s,ev] 300 (0,0))∧Below w.heap.size w w':=Any.strconv_ParseInt_10_at64_syntax Tryz.xg s LD (by obtain⟨h1,h2⟩:=h;revert h1 h2;cases Lib.parseIntB 64 s.data.toList<;>intro h1 h2<;>first|rfl|exact absurd rfl (h1 _)|exact absurd rfl h2) ev w hv OA
open Go.RowKit in
def Tryz.strconv_ParseInt_10_at64_range(s:ByteArray)(LD:s.size≤281474976710656)(h:Lib.parseIntB 64 s.data.toList=.range)(ev:Value)(w:World)(hv:w.cell? ⟨2,0,none⟩=some ev)(OA:ev=.nilIface∨∃te pe,ev=.iface te pe):
 Calls Tryz.prog 36 #[.string s,.int .i64 10,.int .i64 64] w fun e w'=>∃N,e=.returned (.tuple #[.int .i64 (Lib.intSat 64 s.data.toList),.iface 252 (.pointer (some ⟨N,0,none⟩))])∧w.heap.size≤N∧w'.heap[N]?=some (.cells #[.string ⟨#[80,97,114,115,101,73,110,116]⟩,.string s,ev] 300 (0,0))∧Below w.heap.size w w':=Any.strconv_ParseInt_10_at64_range Tryz.xg s LD h ev w hv OA
def Tryz.DN:Go.Shelf.Ren:=⟨fun|99=>192|206=>126|n=>n,fun|9=>9|4=>4|3=>3|n=>n,fun|n=>n⟩
def Tryz.L6:Go.Proofs.Lays.n99 Tryz.prog Tryz.DN:={Tryz.Ff with f99:=SO func192}
open Go.RowKit Go.Lib in
def Tryz.strings_HasPrefix(s p:ByteArray)(w:World):
 Calls Tryz.prog 192 #[.string s,.string p] w fun e w'=>e=.returned (.bool (Lib.hasPrefix s.data.toList p.data.toList))∧w'=w:=Any.strings_HasPrefix Tryz.L6 s p w
def Tryz.Cs:Go.Shelf.Ren:=⟨fun|109=>86|n=>n,fun|31=>76|9=>9|3=>3|0=>0|4=>4|n=>n,fun|n=>n⟩
def Tryz.Fh:Go.Proofs.Lays.n109 Tryz.prog Tryz.Cs:={Tryz.uy with f109:=SO func86}
open Go.Lib in
def Tryz.slices_Index_string(b off n c:Nat)(zs:List ByteArray)(x:ByteArray)(w:World)(hz:n≤zs.length)(LF:n≤9223372036854775807)(hc:∀j,j<zs.length→w.cell? ⟨b,off+j,none⟩=some (.string (zs.getD j ByteArray.empty))):
 Calls Tryz.prog 86 #[.slice (some ⟨b,off,none⟩) n c,.string x] w fun e w'=>e=.returned (.int .i64 (Lib.idxOfS (zs.take n) x))∧w'=w:=Any.slices_Index_string Tryz.Fh b off n c zs x w hz LF hc
open Go.Lib in
def Tryz.slices_Index_string_empty(a:Option Addr)(c:Nat)(x:ByteArray)(w:World):
 Calls Tryz.prog 86 #[.slice a 0 c,.string x] w fun e w'=>e=.returned (.int .i64 (Lib.idxOfS [] x))∧w'=w:=Any.slices_Index_string_empty Tryz.Fh a c x w
open Go.Lib in
open Go.Lib in
def Tryz.yD:Go.Shelf.Ren:=⟨fun|16=>180|n=>n,fun|24=>76|9=>9|4=>4|n=>n,fun|n=>n⟩
def Tryz.vt:Go.Proofs.Lays2.n16 Tryz.prog Tryz.yD:={
 mixed:=Up
 f16:=SO func180
 t4:=underlying4
 a4:=isAgg4
 z4:=sizeOf4
 v4:=zeroValue4
 t9:=underlying9
 a9:=isAgg9
 z9:=sizeOf9
 v9:=zeroValue9
 t24:=underlying76
 a24:=isAgg76
 z24:=sizeOf76
 v24:=zeroValue76
 i9:=Up}
open Go.RowKit Go.Lib in
def Tryz.slices_Clone_string(b off n c:Nat)(zs:List ByteArray)(w:World)(hz:n≤zs.length)(LF:n*16≤140737488355328)(hc:∀j,j<zs.length→w.cell? ⟨b,off+j,none⟩=some (.string (zs.getD j ByteArray.empty))):
 Calls Tryz.prog 180 #[.slice (some ⟨b,off,none⟩) n c] w fun e w'=>∃v',e=.returned v'∧w'.ownsRow w.heap.size 9 1 v' n ((zs.take n).map (Value.string))∧v'≠.slice none 0 0∧Below w.heap.size w w':=Any.slices_Clone_string Tryz.vt b off n c zs w hz LF hc
open Go.RowKit Go.Lib in
def Tryz.slices_Clone_string_nil(n c:Nat)(w:World):
 Calls Tryz.prog 180 #[.slice none n c] w fun e w'=>e=.returned (.slice none 0 0)∧w'=w:=Any.slices_Clone_string_nil Tryz.vt n c w
open Go.RowKit Go.Lib in
def Tryz.slices_Clone_string_zero(a:Addr)(c:Nat)(w:World):
 Calls Tryz.prog 180 #[.slice (some a) 0 c] w fun e w'=>∃v',e=.returned v'∧w'.ownsRow w.heap.size 9 1 v' 0 []∧v'≠.slice none 0 0∧Below w.heap.size w w':=Any.slices_Clone_string_zero Tryz.vt a c w
end Go.Proofs
