import Derived.Test.YtppncjcpdbhobaaGreatDoorZ1
set_option maxRecDepth 1000000
set_option maxHeartbeats 32000000
set_option linter.all false
namespace Go.Proofs.YtppncjcpdbhobaaGreatDoor
open RowKit Go.Proofs.Tryz lI Maps oZ qQ ChangeShapes WideShapes ChangeAt
def lu.app{a:Type}{b:List Value->a->Prop}{c}{d:List a}(e:lu b c d):∀{f:List<|List Value} {g:List a},lu b f g->lu b (f++c) (g++d)
 |[],[],_=>e
 |_::_,_::_,⟨h1,h⟩=>⟨h1,lu.app e h⟩
 |[],_::_,h=>h.elim
 |_::_,[],h=>h.elim
def kJ.sl{f:Type}{d:Rel f}{T k:Nat}(ok:lh d k){P w}{e:Nat}{v}{g:List f}(p:kJ d T k P w e v g):kz d (λb=>(P b\/e<=b)/\b<w) w v g:=by
 have⟨i,j,q⟩:=p.own;have l:=q.imp λA B r=>ok.M r (T:=λb=>(P b\/e<=b)/\b<w) λb a=>⟨.inl a.1,a.2.1⟩
 rcases j.2 with⟨rfl,m⟩|⟨s,t,C,rfl,a,n,u,x,D,y⟩
 refine⟨none,0,i,by rw[m],Y,Y,λz=>?_,l⟩;have:=j.1;rw[m,S9]at this;exact absurd (RP this) z;refine⟨_,t,i,Z,u,x,λ_=>⟨s,0,Z,⟨.inr a,(QS.1 n).1⟩,λE F c=>?_⟩,l⟩;rw[Re];rw[<-y,Si]at c;split at c;simp only[World.cell?,n];simpa using c;cases c
def lI.Iy(a)(b:Nat):qN a (b+1)=qN a b++[nm a b]:=by simp[qN,List.range_succ]
def mD(w:World)(a:List Value)(c:TypeId):∀b u,a[b]?=some u->(w.alloc<|.cells a.toArray c).cell? ((w:Addr).add b)=some u:=by
 intro b u e;have f:(w.alloc<|.cells a.toArray c).heap[w.heap.size]?=some (.cells a.toArray c (0,0)):=QT w _;have d:=kB f b u (by simpa using e);unfold Addr.add;split
 rename_i g;subst g;exact d
 simpa using d
def rI:(prog.info? 9).map (λi=>(i.zero,i.size,i.bytes))=some (some Em,1,16):=Ut
def sR(a b:Int)(w):Calls prog 17 #[.int .i64 a,b] w λd w'=>d=.returned (.int .i64 (if a<b then a else b))/\w=w':=by
 by_cases c:a<b;all_goals
  go_enter func17,ntmps17
  go_wp2;go_ret;first|(rw[RG c];exact⟨Z,Z⟩)|(rw[Rl c];exact⟨Z,Z⟩)|simp
def mV(c:List<|List UInt8)(w:World)(d:Ending)(a:World):Prop:=∃b,d=.returned b/\kJ kO 9 1 (λ_=>False) a w b c/\Below w w a
abbrev zp(a b):=(.cells #[.int .u8 (a:Int),.int .u8<|48+(b:Int)] 5:Go.Obj)
def Kb(b:World)(c:UInt8)(a:Nat)(j:a<10):(convert 22 9 (b,2,2)).run prog (b.alloc<|zp c.toNat a)=.ok (tx<|nm c a) (b.alloc<|zp c.toNat a):=by
 have:=run_convert_bytes_back (P:=prog) (b.alloc<|zp c.toNat a) 22 9 5 ⟨b,0,none⟩ 2 (nm c a) underlying22 underlying5 underlying9 (λd e=>by
  have f:d=0\/d=1:=by have:d<2:=e;omega
  have g:((UInt8.ofNat<|48+a).toNat:Int)=48+(a:Int):=Uw
  rcases f with rfl|rfl;exact kr (QT b _) 0;have i:(b:Addr).add 1=⟨b,1,none⟩:=Z;rw[i];refine kB (QT b _) 1 _ ?_;show some (Value.int .u8<|48+(a:Int))=some (Value.int .u8 ((UInt8.ofNat<|48+a).toNat:Int));rw[g])
 exact this
def kz.L6{e f}{b o i j:Nat}{g}(k:kz kO e f (.slice (mw b o) i j) g)(c:Nat)(a)(l:g[c]?=some a):e b/\f.cell? ⟨b,o+c,none⟩=some (tx a):=by have⟨u,v,m,d,n,p,q⟩:=k.ll kO.ok c a l;injection d with d;injection d with r s;subst r s;have t:m=[tx a]:=p;have:=q 0 (tx a) (by rw[t];rfl);exact⟨n,by simpa using this⟩
def kJ.od{P w}{g:Nat}{v a}(f:kJ kO 9 1 P w g v a)(i:0<a.length):
  ∃b o c,v=.slice (mw b o) a.length c/\g<=b/\b<w/\a.length<=c/\c<=9223372036854775807/\∀d e,a[d]?=some e->w.cell? ⟨b,o+d,none⟩=some (tx e):=by
 have⟨y,j,z⟩:=f.own;have⟨k,l,m,n,p⟩:=World.ownsRow.form j i;subst m;have q:=f.sl kO.ok;have⟨A,c,r,s,t⟩:=f.form;injection r with _ _ u;subst u;exact⟨k,0,l,Z,n,p,s,t,λd e x=>(q.L6 d e x).2⟩
def kz.Ht{d:Type}{b:Rel d}{e:Nat}(ok:lh b e){S w r}{x:d}{T}(f:b S w r x)(g:∀a,S a->a<w):kz b (λa=>S a\/a=w) (w.alloc<|.cells r.toArray T) (.slice w 1 1) [x]:=by refine⟨_,1,[r],Z,QZ _,Y,λ_=>⟨w,0,Z,.inr Z,λi j k=>?_⟩,⟨ok.M (ok.ku f λa c=>Q9 w _<|g a c) λa c=>.inl c,trivial⟩⟩;rw[Re];exact kB (QT w _) i j (by simpa using k)
def kz.Nz{i:Type}{d:Rel i}{m:Nat}(ok:lh d m){e b f g}{j k:i}{T}(n:d e b f j)(p:d e b g k)(l:∀a,e a->a<b):kz d (λa=>e a\/a=b) (b.alloc<|.cells (f++g).toArray T) (.slice b 2 2) [j,k]:=by refine⟨_,2,[f,g],Z,QZ _,Y,λ_=>⟨b,0,Z,.inr Z,λq r s=>?_⟩,⟨ok.M (ok.ku n λa c=>Q9 b _<|l a c) λa c=>.inl c,ok.M (ok.ku p λa c=>Q9 b _<|l a c) λa c=>.inl c,trivial⟩⟩;rw[Re];exact kB (QT b _) q r (by simpa using s)
abbrev lE(a b c d e f):=(.cells #[.int .i64 a,tx b,c,.slice d e f] 177:Go.Obj)
abbrev sd:=(#[.int .i64 0,Em,.int .i64 0,Nl]:Array Go.Value)
abbrev we(a b):=(#[.pointer a,.int .i64<|(b:Int)+1]:Array Go.Value)
def H3:(prog.info? 177).map (λa=>(a.zero,a.size,a.bytes))=some (some<|.agg sd,4,56):=Ut
def kS.su{d w w'}{e:Nat}{i}{left:Nat}{f}(c:kS d w e i left)(g:w.grownBy w' f)(k:some e≠f)(l:∀a,d a->some a≠f):kS d w' e i left:=by have⟨m,n,p,b,q,r⟩:=c.ll;have j:∀a,d a->w'.heap[a]?=w.heap[a]?:=λa b=>g.B a (c.lJ a b).2<|l a b;exact⟨⟨m,n,p,(g.B e c.lt k).T b,q.ku qs.ok j,r.ku qO.ok j⟩,λa b=>⟨(c.lJ a b).1,QR (c.lJ a b).2 g.size⟩⟩
def ux(S:Nat->Prop)(a:Nat)(d:Sc)(left n:Nat)(w:World)(g:Ending)(b:World):Prop:=
 ∃(e:Value) (c:List Ex),g=.returned e/\kJ (kP .i64 3) 177 4 (λf=>w<=f/\f≠a) b w e c/\c.length=n/\(∀i∈c,lM d 3 i)/\kS S b a d left/\w.grownBy b (some a)
def pW.start{S}{a:Nat}{c}{left:Nat}{w}(b:kS S w a c left)(T d):pW S a c left T d w (w.alloc<|.cells d T):=
 ⟨QT w _,b.kv<|Ba w _,QX w _<|some a,b.lt,λe f=>(b.lJ e f).2⟩
def qi{e:Type}{b:Rel e}{m:Nat}(ok:lh b m){f:Nat}{w c d g}{i:e}(n:b (New w c) c g i)(p:f<w)(j:c.grownBy d<|some f):b (New w d) d g i:=
 ok.M (ok.ku n λk a=>j.B k a.2 (λl=>by injection l with l;have:=a.1;omega)) λk a=>⟨a.1,QR a.2 j.size⟩
def pw{d:Type}{b:Rel d}{f:Nat}(ok:lh b f){w a c}{e:d}{T}(j:w.heap.size<a.heap.size)(g:b (New w a) a c e):kz b (New w<|a.alloc<|.cells c.toArray T) (a.alloc<|.cells c.toArray T) (.slice a 1 1) [e]:=
 (kz.Ht ok g λi hb=>hb.2).M ok λi hb=>by unfold New;rw[QU];rcases hb with hb|hb;exact⟨hb.1,W hb.2⟩;exact⟨Y,Y⟩
def wE{e:Type}{b:Rel e}{i:Nat}(ok:lh b i){w a c d}{f g:e}{T}(m:w.heap.size<a.heap.size)(j:b (New w a) a c f)(k:b (New w a) a d g):kz b (New w<|a.alloc<|.cells (c++d).toArray T) (a.alloc<|.cells (c++d).toArray T) (.slice a 2 2) [f,g]:=
 (kz.Nz ok j k λl hb=>hb.2).M ok λl hb=>by unfold New;rw[QU];rcases hb with hb|hb;exact⟨hb.1,W hb.2⟩;exact⟨Y,Y⟩
def EPost(l:Ex->Prop)(m:Nat->Prop)(b:Nat)(n:Sc)(left d:Nat)(w:World)(p:Ending)(a:World):Prop:=
 ∃(c e:Int) (f:List UInt8) (g:Option Addr) (i j:Nat) (k:Ex),p=.returned (.agg #[.int .i64 c,tx f,e,(g,i,j)])/\kP .i64 d (FM w a b) a [.int .i64 c,tx f,e,(g,i,j)] k/\l k/\kS m a b n left/\w.grownBy a (some b)
def vK{q:Ex->Prop}{j}{k:Nat}{r}{left d:Nat}{T s w c}{op n:Int}{name:List UInt8}{l:Option Addr}{m p:Nat}{args:List Ex}(e:pW j k r left T s w c)
  (t:kz (kP .i64 d) (New w c) c (.slice l m p) args) (u:q<|.mk op name n args) (v x y z:Value):
  EPost q j k r left (d+1) w (.returned<|.agg<|mT op name n l m p) ((((c.setCell w v).setCell ⟨w,1,none⟩ x).setCell ⟨w,2,none⟩ y).setCell ⟨w,3,none⟩ z):=by
 have f:w≠k:=W e.yh
 have g:∀a,j a->a≠w:=λa b=>W<|e.hS a b
 have i:∀a,New w c a->a≠w:=λa b=>W b.1
 refine⟨op,n,name,l,m,p,.mk op name n args,Z,⟨_,Z,?_⟩,u,(((e.hm.mE f g).mE f g).mE f g).mE f g,nd<|nd<|nd<|nd e.hg⟩;refine((((t.mE (kP.ok _ _) i).mE (kP.ok _ _) i).mE (kP.ok _ _) i).mE (kP.ok _ _) i).M (kP.ok _ _) λa b=>⟨W b.1,by simp only[QW];exact b.2,Up b.1 e.yh⟩
def oN{c:Ex->Prop}{e}{f:Nat}{g}{left d:Nat}{T t w a}{o:Obj}{op n:Int}{name:List UInt8}{i:Option Addr}{j k:Nat}{args:List Ex}(l:pW e f g left T t w a)
  (u:kz (kP .i64 d) (New w<|a.alloc o) (a.alloc o) (.slice i j k) args) (v:c<|.mk op name n args) (m p q r:Value):
  EPost c e f g left (d+1) w (.returned<|.agg<|mT op name n i j k) (((((a.setCell w m).setCell ⟨w,1,none⟩ p).setCell ⟨w,2,none⟩ q).setCell ⟨w,3,none⟩ r).alloc o):=by
 have b:=l.lt;have s:=vK (l.alloc o) u v m p q r;rw[RI o _ _ _ b,RI o _ _ _ (by rw[QW];exact b),RI o _ _ _ (by simp only[QW];exact b),RI o _ _ _<|by simp only[QW];exact b]at s;exact s
def pW.mE{b}{c:Nat}{d}{left:Nat}{T e w f}(a:pW b c d left T e w f)(i:Nat)(u):pW b c d left T (e.setIfInBounds i u) w (f.setCell ⟨w,i,none⟩ u):=
 ⟨kt a.hz,a.hm.mE (W a.yh) λg j=>W<|a.hS g j,nd a.hg,a.yh,a.hS⟩
def sP{e:Type}{d:Rel e}{k:Nat}(ok:lh d k){a b f}{g:List e}(l:kz d (New a b) b f g)(i:Nat)(j):kz d (New a<|b.setCell ⟨a,i,none⟩ j) (b.setCell ⟨a,i,none⟩ j) f g:=
 (l.mE ok λm c=>W c.1).M ok λm c=>⟨c.1,by rw[QW];exact c.2⟩
def oT(D:Nat):kT D []=0:=by cases D<;>rfl
def mf{w:World}{a:Nat}{c d e f g i:Value}{j:TypeId}(b:w.heap[a]?=some (.cells #[c,d,e,f,g,i] j)):
  (w.cell? a=some c/\w.cell? ⟨a,1,none⟩=some d/\w.cell? ⟨a,2,none⟩=some e/\w.cell? ⟨a,3,none⟩=some f/\w.cell? ⟨a,4,none⟩=some g/\w.cell? ⟨a,5,none⟩=some i)/\(w.frozen? ⟨a,0,none⟩=false/\w.frozen? ⟨a,1,none⟩=false/\w.frozen? ⟨a,2,none⟩=false/\w.frozen? ⟨a,3,none⟩=false/\w.frozen? ⟨a,4,none⟩=false/\w.frozen? ⟨a,5,none⟩=false):=
 ⟨⟨kr b 0,kr b 1,kr b 2,kr b 3,kr b 4,kr b 5⟩,kx b 0,kx b 1,kx b 2,kx b 3,kx b 4,kx b 5⟩
def Good.mE{a z:Nat}(w)(i:Nat)(u):Good a z w<|w.setCell ⟨z,i,none⟩ u:=⟨by rw[QW];exact QZ _,λc _ _ b=>Q5 _ _ _ _ b⟩
def nX(w0:World)(d:Nat->Value)(c:Nat)(v:Value)(w:World):Prop:=∃a o e,v=.slice (some ⟨a,o,none⟩) c e/\New w0 w a/\∀b,b<c->w.cell? ⟨a,o+b,none⟩=some (d b)
def nX.lQ{b}{d:Nat}(q:d<b.heap.size){e}{f:Nat}{v w g}(i:Good d b.heap.size w g)(k:nX b e f v w):nX b e f v g:=by have⟨c,o,l,m,a,n⟩:=k;exact⟨c,o,l,m,⟨a.1,QR a.2 i.1⟩,λj p=>(Cb c (o+j)<|i.2 c a.2 (W a.1)<|W a.1).T<|n j p⟩
def lG{f:Type}{b:Rel f}{k:Nat}(ok:lh b k){g c:Nat}{S w i}(d:∀a,S a->a<c/\a≠g)(n:c<=w.heap.size){v}{j:List f}(l:Good g c w i)(m:kz b S w v j):kz b S i v j:=
 m.ku ok λa e=>l.2 a (W<|d a e) (d a e).2<|W<|d a e
def kU{e:Type}{c:Rel e}{k:Nat}(ok:lh c k){f:Nat}{b w d}(m:f<b.heap.size){v}{g:List e}(i:Good f b.heap.size w d)(l:kz c (New b w) w v g):kz c (New b d) d v g:=
 (l.ku ok λj a=>i.2 j a.2 (W a.1)<|W a.1).M ok λj a=>⟨a.1,QR a.2 i.1⟩
def nj(a:World)(b:Nat)(g:Nat)(o c:Int)(name:List UInt8)(d:Option Addr)(e f:Nat)(i:Ex)(w:World):Prop:=
 New a w b/\w.heap[b]?=some (.cells #[.int .i64 o,tx name,c,(d,e,f)] 177)/\kP .i64 g (New a w) w [.int .i64 o,tx name,c,(d,e,f)] i
def nj.new{w0 w}{f:Nat}{o b:Int}{name c}{d e:Nat}{g}(i:w0.heap.size<w.heap.size)(j:kP .i64 f (New w0 w) w [.int .i64 o,tx name,b,.slice c d e] g):
  nj w0 w f o b name c d e g (w.alloc<|lE o name b c d e):=
 ⟨⟨i,by rw[QU];omega⟩,QT w _,(kP.ok _ _).M ((kP.ok _ _).ku j λk a=>Q9 w _ a.2) λk a=>⟨a.1,by rw[QU];have:=a.2;omega⟩⟩
def kS.ar{S w}{d:Nat}{a}{left:Nat}(f:kS S w d a left):∃b c,w.cell? ⟨d,4,none⟩=some (.slice b a.oa.length c)/\kz qs S w (.slice b a.oa.length c) a.oa:=by have⟨i,j,k,g,e,l⟩:=f.ll;obtain⟨b,c,m,rfl,n⟩:=id e;exact⟨b,c,kr g 4,e⟩
def kS.Ov{e w}{a:Nat}{f}{left:Nat}(g:kS e w a f left):(∃b i c,w.cell? ⟨a,6,none⟩=some (.slice b i c))/\w.cell? ⟨a,7,none⟩=some (.int .i64 (left:Int))/\w.frozen? ⟨a,7,none⟩=false:=by obtain⟨j,k,l,d,m,b,c,n,rfl,_⟩:=g.ll;exact⟨⟨b,_,c,kr d 6⟩,kr d 7,kx d 7⟩
def E9(b:Nat):∀a:List St,a.length<=kT (b+1) a
 |[]=>Q1 _
 |x::a=>by have c:=E9 b a;unfold kT at c⊢;simp only[Rn,Rx,Ue];omega
def lI.oP.withParams{b}(a:oP b){c:Nat}(d:c<=2):oP {b with params:=c}:=⟨a.HF,a.HI,a.kZ,a.kN,d,a.own,a.len,a.each⟩
def kS.yQ{f w}{c:Nat}{g}{left:Nat}(d:kS f w c g left)(e:Nat):kS f (w.setCell ⟨c,5,none⟩<|.int .i64 (e:Int)) c {g with params:=e} left:=by have⟨j,k,l,b,m,n⟩:=d.ll;have i:∀a,a≠c->(w.setCell ⟨c,5,none⟩<|.int .i64 (e:Int)).heap[a]?=w.heap[a]?:=λ_ b=>Q5 _ _ _ _ b;exact⟨⟨j,k,l,kt b,m.ku qs.ok λa b=>i a (d.lJ a b).1,n.ku qO.ok λa b=>i a (d.lJ a b).1⟩,λa b=>⟨(d.lJ a b).1,by rw[QW];exact(d.lJ a b).2⟩⟩
def kS.setBytes{f w}{c:Nat}{g}{left:Nat}(d:kS f w c g left){e i}(k:kz qO f w e i):kS f (w.setCell ⟨c,6,none⟩ e) c g left:=by have⟨l,n,p,b,m,q⟩:=d.ll;have j:∀a,a≠c->(w.setCell ⟨c,6,none⟩ e).heap[a]?=w.heap[a]?:=λ_ b=>Q5 _ _ _ _ b;exact⟨⟨l,e,i,kt b,m.ku qs.ok λa b=>j a (d.lJ a b).1,k.ku qO.ok λa b=>j a (d.lJ a b).1⟩,λa b=>⟨(d.lJ a b).1,by rw[QW];exact(d.lJ a b).2⟩⟩
def H4(f:Nat->Prop)(a:Nat)(c:Sc)(g:List Nat)(i:Nat)(w:World)(j:Ending)(w':World):Prop:=
 ∃(d:Value) (b:List Hd),j=.returned d/\kJ (mv .i64) 107 3 (λe=>w<=e/\e≠a) w' w d b/\b.length=i/\tr c g b/\(∃k left,kS f w' a {c with params:=k} left)/\w.grownBy w' (some a)
def L9:(prog.info? 107).map (λa=>(a.zero,a.size,a.bytes))=some (some<|.agg #[Em,Nl,Nl],3,64):=Ut
def nX.ng{w0 c}{n:Nat}{v w w'}(d:NG w0 w w')(f:nX w0 c n v w):nX w0 c n v w':=by have⟨a,o,g,i,b,j⟩:=f;exact⟨a,o,g,i,⟨b.1,QR b.2 d.1⟩,λe k=>(Cb a (o+e)<|d.2 a b).T<|j e k⟩
def Bf(w0:World)(b:Value)(c:Value)(w:World):Prop:=∃a o,c=.pointer (some ⟨a,o,none⟩)/\New w0 w a/\w.cell? ⟨a,o,none⟩=some b
def Bf.ng{w0 c v w w'}(d:NG w0 w w')(e:Bf w0 c v w):Bf w0 c v w':=by have⟨a,o,f,b,g⟩:=e;exact⟨a,o,f,⟨b.1,QR b.2 d.1⟩,(Cb a o<|d.2 a b).T g⟩
def sr{d:Type}{b:Rel d}{j:Nat}(ok:lh b j){w0 w c e}{f:List d}(g:NG w0 w c)(k:kz b (New w0 w) w e f):kz b (New w0 c) c e f:=
 (k.ku ok λi a=>g.2 i a).M ok λi a=>⟨a.1,QR a.2 g.1⟩
def EX{d:Type}{b:Rel d}{j:Nat}(ok:lh b j){w0 w c e}{f:d}(g:NG w0 w c)(k:b (New w0 w) w e f):b (New w0 c) c e f:=
 ok.M (ok.ku k λi a=>g.2 i a) λi a=>⟨a.1,QR a.2 g.1⟩
def qB.app{g}{e:Nat}{p f i}{j:Nat}{q:Int}{r}{n s:Nat}{w t k}(y:qB g e p f i j q r n s w t)(I:e<w)(z:∀b,g b->b<w)(A:kJ (mv .i64) 107 3 (λb=>w<=b/\b≠e) k w f i)(a:t.grownBy k f.ownBlock):qB g e p f i j q r n s w k:=by have⟨d,B,u,C,v,D,left,E⟩:=y;have l:=B.ge;refine⟨⟨a.os.T d.os,a.tape.T d.tape,a.output.T d.output,Q8 d.size a.size,λm x F=>(a.B m (QR x d.size) λc=>W<|(l m c.symm).1).T<|d.B m x F⟩,A,(a.B j (QS.1 u).1 λc=>v c).T u,C,v,D,left,?_⟩;exact E.su a (λc=>W<|(l e c.symm).1) (λb G c=>by have J:=(l b c.symm).1;have:=z b G;omega)
abbrev ta(a b c d e f g h):=(.cells #[.int .u8 (a:Int),.int .u8 (b:Int),.slice c d e,.slice f g h] 61:Go.Obj)
def lI.rh(b:Nat):List Va:=(List.range b).map λa=>⟨nm 120 a,1,a⟩
def lI.sk(a b:Nat):List Va:=rh a++[⟨nm 98 0,2,0⟩]++(List.range b).map λc=>⟨nm 116 c,3,0⟩
def lI.pP(a:Nat):(rh a).length=a:=by simp[rh]
def lI.Dz(a:Nat):rh (a+1)=rh a++[⟨nm 120 a,1,a⟩]:=by simp[rh,List.range_succ]
def lI.vg(a b:Nat):(sk a b).length=a+1+b:=by simp[sk,rh];omega
def lI.DA(b a:Nat):sk b (a+1)=sk b a++[⟨nm 116 a,3,0⟩]:=by simp[sk,List.range_succ]
def lI.DB(a:Nat):sk a 0=rh a++[⟨nm 98 0,2,0⟩]:=by simp[sk]
def lI.sT{b c:Nat}(d:b<26)(e:c<26)(a:kV b=kV c):b=c:=by unfold kV at a;injection a with a;have:=congrArg UInt8.toNat a;simp at this;omega
def lI.Mb{a b:Nat}(g:0<a)(B:a<=3)(i:b<a*a){j}(c:nQ a b j){d}(k:d.a=kV (b/a))(l:d.b=kV (b % a))(s:1<=d.tF)(t:d.tF<=3):nQ a (b+1)<|j++[d]:=by refine⟨λf hy=>?_,?_⟩;rcases List.mem_append.1 hy with hy|hy;have⟨e,u,c⟩:=c.1 f hy;exact⟨e,Y,c⟩;simp at hy;subst hy;exact⟨b,Y,i,k,l,s,t⟩;rw[List.map_append,List.nodup_append];refine⟨c.2,Us,λC m D n p=>?_⟩;simp only[List.map_cons,List.map_nil,List.mem_singleton]at n;rw[List.mem_map]at m;obtain⟨f,hy,rfl⟩:=m;have⟨e,u,v,w,x,_⟩:=c.1 f hy;rw[n]at p;injection p with q r;rw[k,w]at q;rw[l,x]at r;have E:e/a<a:=Nat.div_lt_of_lt_mul v;have F:b/a<a:=Nat.div_lt_of_lt_mul i;have G:e % a<a:=Nat.mod_lt _ g;have I:b % a<a:=Nat.mod_lt _ g;have y:=sT Y Y q;have z:=sT Y Y r;have A:=Nat.div_add_mod e a;have J:=Nat.div_add_mod b a;rw[y,z]at A;omega
def lI.HJ(b)(a:Nat):(A9 b a).length=if a<b.hs.length\/a=0\/a<b.ss.length then 1 else 0:=by unfold A9;by_cases c:a<b.hs.length;rw[if_pos c,if_pos<|.inl c];rfl;rw[if_neg c];by_cases d:a=0;rw[if_pos d,if_pos<|.inr<|.inl d];rfl;rw[if_neg d];by_cases e:a<b.ss.length;rw[if_pos e,if_pos<|.inr<|.inr e];rfl;rw[if_neg e,if_neg Y];rfl
def Kp.Lv{b a:Nat}(w)(c:Nat)(d):Kp b a w<|w.setCell ⟨a,c,none⟩ d:=⟨Z,Z,Z,by rw[QW];exact QZ _,λ_ _ _ e=>Q5 _ _ _ _ e⟩
def Yn(b w:World):Nat->Prop:=λa=>b<=a/\a<w
def N9.next{n}{f i:Nat}{q e w}{j:Nat}{g r}{s t:Nat}{u}{v x:Nat}{y z A}{B k l:Nat}(a:N9 n f i q e j g r s t u v x y z A B k l)(d:Below e e w){C:Option Addr}{D:Nat}
  (F:kz qs (λc=>e<=c/\c<w) w (C,j,D)<|g.map λp=>sf p 3):Ni n f i q w j g r s t u v x y z (g.map λp=>sf p 3) A B C D k l:=by
 have G:f<e:=(QS.1 a.hF).1;have J:=a.zB;have m:=d.size;exact⟨(d.B i Y).T a.hz,(d.B f G).T a.hF,a.zB,a.rb.T<|d.M Y,a.JT.ku uh.ok λc b=>d.B c<|W<|(a.hS c b).1,a.hS,a.n1,a.n3,
  (a.Nr.ku mH.ok λc b=>d.B c b.2).M mH.ok (λc b=>⟨b.1,QR b.2 m⟩),a.Ns,a.f2,(a.Ox.ku nV.ok λc b=>d.B c b.2).M nV.ok λc b=>⟨b.1,QR b.2 m⟩,a.Oy,
  F.M qs.ok (λc b=>⟨W b.1,b.2⟩),Z,λE I=>(d.cell (p:=⟨k,l+E,none⟩) a.b8.2).T<|a.h8 E I,a.b8.1,QR a.b8.2 m⟩
def pQ(w:World)(p:Ending)(a:World):Prop:=
 ∃(b:List UInt8) (c d e:Option Addr) (f g i j k l:Nat) (m:Fl),p=.returned (.agg #[tx b,(c,f,g),(d,i,j),(e,k,l)])/\Ou .i64 (λn=>w<=n/\n<a) a [tx b,(c,f,g),(d,i,j),(e,k,l)] m/\tS m/\Below w w a
def qH{e:Type}{b:Rel e}{l:Nat}(ok:lh b l){c w w' f g}{i:List e}(m:kz b (Yn c w) w g i)(j:w.grownBy w' f)(n:∀k,f=some k->k<c):kz b (Yn c w') w' g i:=
 (m.ku ok λd a=>j.B d a.2 λp=>Up (n d p.symm) a.1).M ok λd a=>⟨a.1,QR a.2 j.size⟩
def H5:(prog.info? 74).map (λi=>(i.zero,i.size,i.bytes))=some (some<|.agg #[Em,Nl,Nl],3,64):=Ut
def Md:(prog.info? 76).map (λi=>(i.zero,i.size,i.bytes))=some (some<|.agg #[Em,.int .i64 0,.int .i64 0],3,32):=Ut
def H6:(prog.info? 81).map (λi=>(i.zero,i.size,i.bytes))=some (some Nl,1,24):=Ut
def Lx(a:World)(b f:Nat)(g:Option Addr)(c i:Nat)(j:Option Addr)(k l:Nat)(m:List Co)(n:List<|List Nat)(w':World):Prop:=∃(d:Value) (e:Co),a.grownBy w' (some b)/\w'.heap[b]?=some (.cells #[tx mM,(g,c,i),(j,k,l),d] 36)/\kJ (mn .i64) 74 3 (λp=>a<=p) w' a d (m++[e])/\yo c n f e
def oh{c:Type}{b:Rel c}{g:Nat}(ok:lh b g){w0 w w' v}{d:List c}(e:NK w0 w w')(i:kz b (Nw w0 w) w v d):kz b (Nw w0 w') w' v d:=
 (i.ku ok λf a=>e.2 f a).M ok λf a=>⟨a.1,QR a.2 e.1⟩
def wO{b:Type}{a:Rel b}{g:Nat}(ok:lh a g){c d w v}{e:List b}(i:c.heap.size<=d.heap.size)(j:kz a (Nw d w) w v e):kz a (Nw c w) w v e:=j.M ok λk f=>⟨Q8 i f.1,f.2⟩
def nP.app{q:Type}{f:Rel q}{g k:Nat}{P i r}{o:Nat}{s t e}{j:List q}{l m}(a:nP f g k P i r o s t e j l)(b:l.grownBy m e.ownBlock)(v:kJ f g k P m i e j):nP f g k P i r o s t e j m:=
 have w:o<l:=(QS.1 a.c).1
 ⟨⟨b.os.T a.g.os,b.tape.T a.g.tape,b.output.T a.g.output,Q8 a.g.size b.size,λc d n=>(b.B c (QR d a.g.size) λp=>W<|(a.v c p.symm).1).T<|a.g.B c d n⟩,(b.B o w λp=>Up ((a.v o p.symm).1) a.lt).T a.c,v,Q8 a.s b.size,a.v,a.lt,a.ws,λc d n u=>(b.B c (QR d a.s) u).T<|a.k c d n u⟩
def nP.ng{b:Type}{f:Rel b}{g i:Nat}{P j c}{o:Nat}{k l d}{m:List b}{a e}(n:nP f g i P j c o k l d m a)(p:a.grownBy e d.ownBlock):NK c a e:=.lA p λq r=>(n.v q r).2
def nP.start{c:Type}{d:Rel c}{T e:Nat}{P b a}{o:Nat}{f i j}{k:List c}(g:b.grownBy a<|some o)(m:a.heap[o]?=some (.cells f i (0,0)))(l:kJ d T e P a b.heap.size j k)(n:o<b.heap.size):nP d T e P b a o f i j k a:=
 ⟨g,m,l,QZ _,l.ge,n,g.size,λ_ _ _ _=>Z⟩
def nP.set{k:Type}{d:Rel k}{f e:Nat}{P c r}{o:Nat}{l C' m vQ n}{s p:List k}{a}(g:nP d f e P c r o l m vQ s a)(ok:lh d e)(t:∀b,P b->c<=b)(q:kJ d f e P a c n p)(i:Nat)(u)(v:l.setIfInBounds i u=C'):
  c.grownBy (a.setCell ⟨o,i,none⟩ u) (some o)/\(a.setCell ⟨o,i,none⟩ u).heap[o]?=some (.cells C' m (0,0))/\kJ d f e P (a.setCell ⟨o,i,none⟩ u) c n p:=by
 have z:=g.lt;have w:=q.ge;refine⟨ky g.g<|kE a o i u,by rw[<-v];exact kt g.c,q.grown ok (kE a o i u) λA j=>?_⟩;injection j with j;subst j;exact⟨λx=>W<|t _ x,λy=>W<|(w _ y.symm).1⟩
def wa.set{z w0 w}{o i:Nat}{u}(e:w.heap[o]?=some z){f:Type}{c:Rel f}{j:Nat}(ok:lh c j){v}{g:List f}(k:kz c (wa z w<|Nw w0 w) w v g):kz c (λb=>Nw w0 w b/\b≠o) (w.setCell ⟨o,i,none⟩ u) v g:=
 (k.ku ok λb a=>Q5 _ _ _ _ λd=>a.2<|by rw[d];exact e).M ok λb a=>⟨a.1,λd=>a.2<|by rw[d];exact e⟩
abbrev lP:=(#[.int .u8 0,Em,.int .i64 0,Nl]:Array Go.Value)
def Fb:(prog.info? 180).map (λa=>(a.zero,a.size,a.bytes))=some (some<|.agg lP,4,56):=Ut
def Kj(f:Nat)(g i:Int)(j:List UInt8)(a:List Ex)(b:World)(k:Ending)(c:World):Prop:=
 ∃(d:Option Addr) (e:Nat),k=.returned (.agg #[.int .u8 g,tx j,i,(d,a.length,e)])/\kz (kP .u8 f) (Nw b c) c (d,a.length,e) a/\Below b b c
def HL(d:Nat):Prop:=∀(e:Nat->Prop) (a:World) (b f:Int) (g:List UInt8) (i:Option Addr) (j k:Nat) (c:List Ex),kz (kP .i64 d) e a (i,j,k) c->(1<=b/\b<=255/\c.length<=2/\∀m∈c,C8 d m)->(∀l,e l->l<a)->
 Calls prog 59 #[.agg #[.int .i64 b,tx g,f,(i,j,k)]] a (Kj d b f g c a)
abbrev ks:=(.cells #[.int .u8 0,Em,.int .i64 0,Nl] 180:Go.Obj)
abbrev mu(a b c d e f):=(.cells #[.int .u8 a,tx b,c,.slice d e f] 180:Go.Obj)
def my.old{a}{cb:Nat}{d e f g i j k l m n vQ}{p:List In}{w}(q:my a cb d e f g i j k l m n vQ p w){b:Nat}(r:b<a)(s:b≠cb):w.heap[b]?=a.heap[b]?:=q.g.B b r (by intro c;injection c with c;exact s c)
abbrev oS:=(#[.int .u8 0,Em,Em,Nl,Nl,Nl]:Array Go.Value)
def Kl:(prog.info? 175).map (λa=>(a.zero,a.size,a.bytes))=some (some<|.agg oS,6,112):=Ut
abbrev oi:=(.cells #[.int .u8 0,Em,Em,Nl,Nl,Nl] 175:Go.Obj)
def Mh(f:Nat)(a:List St)(b:World)(g:Ending)(c:World):Prop:=
 ∃(d:Option Addr) (e:Nat),g=.returned (d,a.length,e)/\kz (kR .u8 f) (Nw b c) c (d,a.length,e) a/\Below b b c
def LN(c:Nat):Prop:=∀(d:Nat->Prop) (a:World) (e:Option Addr) (f g:Nat) (b:List St),kz (kR .i64 c) d a (e,f,g) b->b.length<=12->(∀j∈b,uQ c j)->(∀i,d i->i<a)->
 Calls prog 25 #[(e,f,g)] a (Mh c b a)
abbrev mx(a b c d e f g h i j k l):=(.cells #[.int .u8 a,tx b,tx c,.slice d e f,.slice g h i,.slice j k l] 175:Go.Obj)
def KG.start{a}{o:Nat}{b c}(d:a.heap[o]?=some (.cells b c (0,0))):KG a o b c a:=⟨lC _ _,d,(QS.1 d).1⟩
def KG.set{c}{o:Nat}{d C' e a}(b:KG c o d e a)(i:Nat)(u)(f:d.setIfInBounds i u=C'):KG c o C' e<|a.setCell ⟨o,i,none⟩ u:=
 ⟨ky b.g<|kE a o i u,by rw[<-f];exact kt b.c,b.lt⟩
def KG.blk{a}{o:Nat}{d e c}(f:KG a o d e c){b:Nat}(g:b<a)(i:b≠o):c.heap[b]?=a.heap[b]?:=f.g.B b g (λj=>i<|by injection j)
def kJ.Hu{f:Type}{a:Rel f}{g c:Nat}(ok:lh a c){P w}{d:Nat}{v}{j:List f}(k:kJ a g c P w d v j){o i:Nat}{u}(l:∀b,P b->b≠o)(q:o<d):kJ a g c P (w.setCell ⟨o,i,none⟩ u) d v j:=by have m:=k.ge;exact k.grown ok (kE w o i u) (λr e=>by injection e with e;subst e;exact⟨λn=>l _ n Z,λp=>W<|(m _ p.symm).1⟩)
def Km:(prog.info? 93).map (λi=>(i.zero,i.size,i.bytes))=some (some<|.agg #[Em,false],2,24):=Ut
def Kn:(prog.info? 94).map (λi=>(i.zero,i.size,i.bytes))=some (some<|.agg #[Em,Em,.int .i64 0],3,40):=Ut
def Kr:(prog.info? 104).map (λi=>(i.zero,i.size,i.bytes))=some (some<|.agg #[Nl],1,24):=Ut
def Gt(o:Nat)(w:World):Nat->Prop:=λa=>o<a/\a<w
def KG.sl{b c}{o:Nat}{i j}(e:KG b o i j c){f:Type}{d:Rel f}{k:Nat}(ok:lh d k){v}{g:List f}(l:kz d (Gt o b) b v g):kz d (Gt o c) c v g:=
 (l.ku ok λm a=>e.blk a.2<|W a.1).M ok λm a=>⟨a.1,QR a.2 e.s⟩
def kJ.gt{c:Type}{a:Rel c}{g k:Nat}(ok:lh a k){P w}{d o:Nat}{v}{e:List c}(h:kJ a g k P w d v e)(i:∀b,P b->o<b)(j:o<d):kz a (Gt o w) w v e:=
 (h.sl ok).M ok λb f=>⟨by rcases f.1 with h|h;exact i b h;omega,f.2⟩
abbrev hR(a b c d e f g):=(#[tx a,.slice b c d,.slice e f g]:Array Go.Value)
abbrev mc(a b c d e f g h i j):=(#[tx a,.slice b c d,.slice e f g,.slice h i j]:Array Go.Value)
abbrev oe(a b c):=(.cells #[.slice a b c] 104:Go.Obj)
abbrev so:=(.cells #[Em,Nl,Nl,Nl] 52:Go.Obj)
abbrev yW(a b c):=(.cells #[tx a,tx b,c] 94:Go.Obj)
def kI.pd(a:Int):Bool:=(a !=10)
def kI.pre_nil(a):pre a []=0:=rfl
def kI.nI(a b c):pre a (b::c)=if a b.toNat then pre a c+1 else 0:=by unfold pre;rw[List.takeWhile_cons];split<;>simp
def kI.BH(d):∀a b (e:b<a.length),b<=pre d a->d (a[b]).toNat=true->b+1<=pre d a
 |[],_,e,_,_=>absurd e (by simp)
 |c::a,0,_,_,hp=>by rw[nI,if_pos<|by simpa using hp];omega
 |c::a,b+1,e,hk,hp=>by
  rw[nI]at hk⊢;split at hk
  rename_i f
  rw[if_pos f];have:=BH d a b (by simpa using e) Y (by simpa using hp);omega;omega
def kI.BI(d):∀a b (e:b<a.length),b<=pre d a->d (a[b]).toNat=false->pre d a=b
 |[],_,e,_,_=>absurd e Us
 |c::a,0,_,_,hp=>by rw[nI,if_neg<|by simpa using hp]
 |c::a,b+1,e,hk,hp=>by
  rw[nI]at hk⊢;split at hk
  rename_i f
  rw[if_pos f,BI d a b (by simpa using e) Y<|by simpa using hp];omega
def kI.yU(b:Int->Bool)(c:ByteArray)(a:Nat)(d:a<c.size)(e:a<=pre b c.data.toList)(f:b (c[a]).toNat=true):a+1<=pre b c.data.toList:=
 BH b _ a (by simpa using d) e (by simpa[ByteArray.getElem_eq_getElem_data]using f)
def kI.yV(b:Int->Bool)(c:ByteArray)(a:Nat)(d:a<c.size)(e:a<=pre b c.data.toList)(f:b (c[a]).toNat=false):pre b c.data.toList=a:=
 BI b _ a (by simpa using d) e (by simpa[ByteArray.getElem_eq_getElem_data]using f)
def kI.syms:List<|List UInt8:=[[46,46],[61,61],[33,61],[60,61],[62,61],[45,62],[123],[125],[40],[41],[91],[93],[44],[59],[58],[46],[61],[60],[62],[43],[45],[42],[47],[37],[95]]
def kI.rv(a:ByteArray)(b:Nat):(a.extract b a.size).data.toList=a.data.toList.drop b:=by rw[ByteArray.data_extract,Array.toList_extract,List.extract_eq_take_drop];apply List.take_of_length_le;simp
def kI.F3(a:ByteArray)(b:Nat):(a.extract 0 b).data.toList=a.data.toList.take b:=by rw[ByteArray.data_extract,Array.toList_extract,List.extract_eq_take_drop];simp
def kI.pD(a:ByteArray)(b:0<a.size):a.data.toList.headD 0=a[0]:=by
 have c:0<a.data.toList.length:=by simpa using b
 rw[List.headD_eq_head?_getD,List.head?_eq_getElem?,List.getElem?_eq_getElem c,Option.getD_some];rfl
def tW:(prog.info? 319).map (·.size)=some pg.size:=Ut
def sH:prog.underlying 319=some (.array 39 9):=Ut
def pR(a:Int)(b):Calls prog 162 #[.int .u8 a] b λc d=>c=.returned (.bool<|kI.mF a)/\b=d:=by
 by_cases e:48<=a<;>by_cases f:a<=57;all_goals
  first
  |omega
  |(go_enter func162,ntmps162;go_wp2;go_ret;exact⟨by simp[kI.mF,e,f],Z⟩)
def nB{a}(c:kI.lS a.toNat=true){k:Nat}(j:k<10):mZ (nm a k)=true:=by
 have f:kI.tu (nm a k)=false:=by unfold kI.tu;rw[TI];intro d;rw[T3]at d;have b:∀e∈kI.words,e.length=2->(e[1]?.getD 0).toNat>=97:=Uz;have g:=b _ d (by simp[nm]);simp[nm]at g;omega
 have i:(UInt8.ofNat<|48+k).toNat=48+k:=Uw
 have b:kI.pre kI.lT (nm a k)=2:=by unfold nm;rw[kI.nI,RG (by unfold kI.lT;rw[c];rfl),kI.nI,RG (by unfold kI.lT kI.mF;rw[i];simp;omega),kI.pre_nil]
 unfold mZ;rw[f,b];simp[nm,c]
def rL{k:Nat}(b:k<3):mZ (kV k)=true:=by
 have a:k=0\/k=1\/k=2:=Y
 rcases a with rfl|rfl|rfl<;>decide+kernel
def lY.low{w}(a:lY w):3<w.heap.size/\9<w.heap.size/\4<w.heap.size:=⟨a.names.lt,a.lt.1,a.lt.2⟩
def lY.to{w w'}(a:lY w)(b:Below w w w'):lY w':=a.kv b a.low
def xx:shapes.length=24:=Ur
def vn:forms.length=11:=Ur
def qJ{f}(b:lY f)(k:Nat)(a)(g:shapes[k]?=some a):∀c d,(rq a)[c]?=some d->f.cell? ⟨9,k*4+c,none⟩=some d:=by have⟨_,⟨m,n,b⟩,_⟩:=b;intro c d i;have⟨e,j,l⟩:=lu.ll (k:=4) (R:=λe a=>e=rq a) (λe a b=>by rw[b];rfl) k a (lu.map rq shapes) g;have:=l c d (by rw[j];exact i);simp only[World.cell?,b];simpa[wF]using this
def pn{f}(b:lY f)(k:Nat)(a)(g:forms[k]?=some a):∀c d,(sQ a)[c]?=some d->f.cell? ⟨4,k*6+c,none⟩=some d:=by have⟨_,_,m,n,b⟩:=b;intro c d i;have⟨e,j,l⟩:=lu.ll (k:=6) (R:=λe a=>e=sQ a) (λe a b=>by rw[b];rfl) k a (lu.map sQ forms) g;have:=l c d (by rw[j];exact i);simp only[World.cell?,b];simpa[zX]using this
def sU(b:Nat)(a)(c:shapes[b]?=some a)(g:1<=b)(e)(d:lY e):Calls prog 192 #[.int .u8 (b:Int)] e<|kH (.tuple #[.agg #[.int .i64 (a.1:Int),.bool a.2.1,.int .i64 (a.2.2.1:Int),tx a.2.2.2],true]) e:=by
 have i:b<24:=by have:=(Rg.1 c).1;rw[xx]at this;exact this
 have f:=qJ d b a c 0 _ Z;have j:=qJ d b a c 1 _ Z;have k:=qJ d b a c 2 _ Z;have l:=qJ d b a c 3 _ Z;have m:=d.lt.1;rw[Q3]at f
 go_enter func192,ntmps192
 go_wp2;refine Q0 (v:=.tuple #[.agg #[.int .i64 (a.1:Int),.bool a.2.1,.int .i64 (a.2.2.1:Int),tx a.2.2.2],true]) ?_ rfl ⟨Z,Ba _ _⟩;simp[results,Tryz.results192,go_sem]
def BL(b:Nat)(a)(c:forms[b]?=some a)(g:1<=b)(e)(d:lY e):Calls prog 171 #[.int .u8 (b:Int)] e<|kH (.tuple #[.agg #[.bool a.1,.bool a.2.1,.int .i64 (a.2.2.1:Int),.int .i64 (a.2.2.2.1:Int),.bool a.2.2.2.2.1,.bool a.2.2.2.2.2],true]) e:=by
 have i:b<11:=by have:=(Rg.1 c).1;rw[vn]at this;exact this
 have f:=pn d b a c 0 _ Z;have j:=pn d b a c 1 _ Z;have k:=pn d b a c 2 _ Z;have l:=pn d b a c 3 _ Z;have m:=pn d b a c 4 _ Z;have n:=pn d b a c 5 _ Z;have p:=d.lt.2;rw[Q3]at f
 go_enter func171,ntmps171
 go_wp2;refine Q0 (v:=.tuple #[.agg #[.bool a.1,.bool a.2.1,.int .i64 (a.2.2.1:Int),.int .i64 (a.2.2.2.1:Int),.bool a.2.2.2.2.1,.bool a.2.2.2.2.2],true]) ?_ rfl ⟨Z,Ba _ _⟩;simp[results,Tryz.results171,go_sem]
def letters:kI.lS (120:UInt8).toNat=true/\kI.lS (112:UInt8).toNat=true/\kI.lS (116:UInt8).toNat=true/\kI.lS (98:UInt8).toNat=true/\kI.lS (102:UInt8).toNat=true/\kI.lS (104:UInt8).toNat=true:=Uz
def lR{d:Nat}{a}{k:Nat}{b}(c:a.op=(k:Int))(q:1<=k)(e:shapes[k]?=some b)(f:a.args.length=b.1)(g:b.2.1=true->mZ a.name=true)(i:b.2.1=false->a.name=[])(j:k=1->0<=a.n)(l:k≠1->a.n=0)(m:∀n∈a.args,mJ d n):mJ (d+1) a:=
 ⟨⟨b,Y,by rw[c];simpa using e,f,g,i,λp=>j Y,λp=>l Y⟩,m⟩
def nb{b:Nat}{c w}(a:Below b c w)(d:Nat):Below b c<|w.drewN d:=⟨a.os,a.tape,a.output,a.size,a.B⟩
def Bp(i:FuncId):Prop:=∀(c:Nat->Prop) (a:World) (b o d:Nat) (e:Ex) (f:List Value),lY a->At a b o f->kP .u8 d c a f e->mJ d e->b<a->(∀g,c g->g<a)->Calls prog i #[.pointer<|some ⟨b,o,none⟩] a (kH (.bool true) a)
def vD:mQ 174:=λ_ _=>Ut
def xy:∀a∈forms,a.2.2.2.1<=5:=Ur
def nS.five{a:Nat}{b}(c:nS a b):b.lp.length<=5:=by
 cases a with
 |zero=>exact c.elim
 |succ a=>have⟨⟨d,_,e,_,_,_,_,_,f,_⟩,_⟩:=c;exact Q8 f<|xy d<|QV e
def vE:mQ 124:=λ_ _=>Ut
def lI.uR(a:Nat)(b:List St)(d:Nat):Nat:=b.length+((b.take d).map λc=>kT a c.th+kT a c.el).sum
def lI.Ga(b:Nat)(a):uR b a 0=a.length:=by simp[uR]
def lI.yY(a:Nat){b}{c:Nat}{d}(e:b[c]?=some d):uR a b (c+1)=uR a b c+(kT a d.th+kT a d.el):=by simp only[uR,List.take_add_one,e,Option.toList_some,List.map_append,List.sum_append,List.map_cons,List.map_nil,List.sum_cons,List.sum_nil];omega
def lI.xd(b:Nat):∀a,uR b a a.length=kT (b+1) a
 |[]=>rfl
 |x::a=>by have:=xd b a;simp only[uR,List.take_length]at this⊢;simp only[List.length_cons,List.map_cons,List.sum_cons,kT]at this⊢;omega
def lI.Gb(c:Nat)(b):∀(k a:Nat),k<=a->uR c b k<=uR c b a
 |k,a,f=>by
  induction a with
  |zero=>obtain rfl:k=0:=Y;exact Nat.le_refl _
  |succ a d=>
   by_cases e:k=a+1;rw[e];exact Nat.le_refl _;refine Nat.le_trans (d Y) ?_;cases hx:b[a]? with
   |none=>have:b.length<=a:=(by rw[List.getElem?_eq_none_iff]at hx;exact hx);simp only[uR,List.take_of_length_le this,List.take_of_length_le<|Nat.le_succ_of_le this];exact Nat.le_refl _
   |some x=>rw[yY c hx];omega
def HM(a:World)(b:Hd)(c:Option Addr)(d e:Nat)(f:Option Addr)(g i:Nat):Below a a<|a.alloc<|.cells (hR b.name c d e f g i) 111:=Ba _ _
def uf:mQ 117:=λ_ _=>Ut
def AL:mQ 119:=λ_ _=>Ut
def yy:mQ 123:=λ_ _=>Ut
def Mi:Keyed prog 9:=Keyed.of_law<|Go.WideMaps.string_law underlying9
def mX{c d a}{cb:Nat}{m n p r s t u v w x vQ}{y:List In}(g:my d cb m n p r s t u v w x vQ y a)(e:∀q,c q->q<d.heap.size/\q≠cb){i}(z:ot c d i)(j:List UInt8):
  Calls prog 85 #[i,tx j] a λk l=>∃f:Int,k=.returned (.int .i64 f)/\a=l:=by
 obtain⟨A,B,C,D,rfl,E,F⟩:=z;refine(vp c a A B C D j (E.ku kO.ok λq b=>g.old (e q b).1 (e q b).2) F λq b=>QR (e q b).1 g.g.size).M ?_;rintro k l ⟨f,G,_,I⟩;exact⟨f,G,I⟩
def lI.qz:Nat->Nat|0=>0|d+1=>2*qz d+1
def my.form{d}{cb:Nat}{e f g i hd j k l m n vQ}{c:List In}{w}(p:my d cb e f g i hd j k l m n vQ c w):∃a b,vQ=.slice a c.length b:=by have⟨a,b,q,_⟩:=p.own.form;exact⟨a,b,q⟩
def PU:Value:=.agg #[Em,Nl,Nl]
abbrev vj:=(#[.agg #[Em,Nl,Nl],false]:Array Go.Value)
def NC(b:Nat->Prop)(c:World)(a:Hd)(v:Value):Prop:=∃(d:Option Addr) (e f:Nat) (g:Option Addr) (i j:Nat),v=.agg #[tx a.name,(d,e,f),(g,i,j)]/\kz kO b c (d,e,f) a.params/\kz (kR .u8 Ds) b c (g,i,j) a.body
abbrev By:=(#[.int .u8 1,Em,.int .i64 0]:Array Go.Value)
structure Bd(bb cb:Nat)(AF:Option Addr)(nf cf:Nat)(AV:Option Addr)(nv cv:Nat)(AP:Option Addr)(np cp:Nat)(o0 o1 o2:Value)(pl:ByteArray)(cnt:Nat)(w:World):Prop where
 ll:w.heap[bb]?=some (.cells #[.pointer cb,(AF,nf,cf),(AV,nv,cv),(AP,np,cp),o0,o1,o2,.string pl,cnt] 305)
def pE(r a s d e t f)(g i:Nat)(j)(k l:Nat)(m)(n p:Nat)(u x:Nat)(y z A:Value)(B:ByteArray)(C:Nat)(b:List UInt8)(c:Va)(D:sg r a s d e t f g i j k l m n p)
  (q:Bd u x f g i j k l m n p y z A B C a) (E:b∉e) (F:(d.find? λc=>c.name==b)=some c):
  Calls prog 207 #[.pointer u,tx b] a (kH (.int .u8 c.ty) a):=by
 have v:=(sO r a s d e t f g i j k l m n p b D)
 rw[Rl E,F]at v;have G:=kr q.ll 1;have I:=kr q.ll 2;have J:=kr q.ll 3
 go_enter func207,ntmps207
 go_wp21;apply v.M;rintro K L ⟨rfl,w⟩;simp only[qd];go_wp21;go_ret;exact⟨Z,w.alloc w.size _⟩
def lI.Ia{c:List Co}(l:c.length<=3)(i:∀a b,c[a]?=some b->b.name=kV a){a:Nat}{b:Co}(d:c[a]?=some b):(c.find? λe=>e.name==kV a)=some b:=by
 cases hf:c.find? λe=>e.name==kV a with
 |none=>rw[List.find?_eq_none]at hf;exact absurd (by rw[i a b d];simp)<|hf b<|List.mem_of_getElem? d
 |some e=>have f:=List.find?_some hf;have⟨j,g⟩:=List.getElem?_of_mem<|List.mem_of_find?_eq_some hf;rw[i j e g]at f;simp only[beq_iff_eq]at f;have m:=(List.getElem?_eq_some_iff.1 g).1;have n:=(List.getElem?_eq_some_iff.1 d).1;have k:=sT Y Y f;subst k;rw[g]at d;exact d
def tT{a:World}{b:Nat}{d e f g i j k l m:Value}{n:TypeId}(c:a.heap[b]?=some (.cells #[d,e,f,g,i,j,k,l,m] n)):
  a.cell? b=some d/\a.cell? ⟨b,1,none⟩=some e/\a.cell? ⟨b,2,none⟩=some f/\a.cell? ⟨b,3,none⟩=some g/\a.cell? ⟨b,4,none⟩=some i/\a.cell? ⟨b,5,none⟩=some j/\a.cell? ⟨b,6,none⟩=some k/\a.cell? ⟨b,7,none⟩=some l/\a.cell? ⟨b,8,none⟩=some m:=
 ⟨kr c 0,kr c 1,kr c 2,kr c 3,kr c 4,kr c 5,kr c 6,kr c 7,kr c 8⟩
def Hy(e:Sc)(f:List Co):Prop:=(∀(b:Nat) (a:Co),f[b]?=some a->a.name=kV b)/\f.length=e.oa.length/\(∀g∈e.oa,∀c∈g,c<=2)/\∀(b:Nat) (a:Co) (d:List Nat),f[b]?=some a->e.oa[b]?=some d->d.length<=3/\(∀i∈a.lH,∀(j:Nat) (k:Hd),i[j]?=some k->∃c,d[j]?=some c/\k.name=nm 104 j/\k.params=qN 112 c)/\(∃i∈a.lH,i.length=d.length)/\a.lH.length<=1000/\∀g∈a.lH,g.length<=1000
def lI.mP.sub{e}{d:Nat}{f}(i:mP e (d+1) f):(∀c∈f.th,mP e d c)/\∀c∈f.el,mP e d c:=by
 rcases i with⟨_,_,a,b,_⟩|⟨_,_,_,_,a,b,_⟩|⟨_,_,_,_,a,b,_⟩|⟨_,_,_,_,a,b⟩|⟨_,_,_,b,_,a⟩|⟨_,a,b,_⟩|⟨_,_,a,b,_⟩|⟨_,_,_,a,_,b⟩|⟨_,_,a,_,_,b⟩|⟨_,_,_,a,b,_⟩
 all_goals (constructor<;>first|exact a|exact b|(rw[a];intro c g;simp at g)|(rw[b];intro c g;simp at g))
def lI.J6(d:Nat)(a:St):Nat:=1+kT d a.th+kT d a.el
def lI.BQ{d:Nat}:∀l a,kT d (l.take a)<=kT d l
 |l,a=>by
  cases d with
  |zero=>simp[kT]
  |succ d=>have e:=congrArg (kT<|d+1)<|List.take_append_drop a l;have:∀b c:List St,kT (d+1) (b++c)=kT (d+1) b+kT (d+1) c:=(by intro b c;simp[kT]);rw[this]at e;omega
structure nZ(xQ:Nat->Prop)(w w':World):Prop where
 os:w'.os=w.os
 tape:w'.tape=w.tape
 output:w'.output=w.output
 size:w.heap.size<=w'
 B:∀k,k<w.heap.size->¬xQ k->w'.heap[k]?=w.heap[k]?
def nZ.refl(xQ w):nZ xQ w w:=⟨Z,Z,Z,QZ _,λ_ _ _=>Z⟩
def nZ.T{xQ a b d}(c:nZ xQ a b)(k:nZ xQ b d):nZ xQ a d:=
 ⟨k.os.T c.os,k.tape.T c.tape,k.output.T c.output,Q8 c.size k.size,λe f g=>(k.B e (QR f c.size) g).T<|c.B e f g⟩
def nZ.of{xQ w w'}(a:Below w.heap.size w w'):nZ xQ w w':=⟨a.os,a.tape,a.output,a.size,λb c _=>a.B b c⟩
def nZ.grown{xQ w w'}{q:Nat}(a:w.grownBy w'<|some q)(c:xQ q):nZ xQ w w':=⟨a.os,a.tape,a.output,a.size,λd e f=>a.B d e<|by intro b;injection b with b;exact f<|b▸c⟩
def nZ.set{a w}{q i:Nat}{u}(b:a q):nZ a w<|w.setCell ⟨q,i,none⟩ u:=⟨Z,Z,Z,by simp[World.setCell],λe f c=>Rf _ _ _ _<|by intro d;exact c<|d▸b⟩
def nZ.M{xQ b w w'}(a:nZ xQ w w')(c:∀k,xQ k->b k):nZ b w w':=⟨a.os,a.tape,a.output,a.size,λk d e=>a.B k d λf=>e<|c k f⟩
def Bb(b c:Nat):Nat->Prop:=λa=>a=b\/a=c
def six(a:Nat)(c:a<100):(Lib.decDigits a).length<=20:=by by_cases b:a<10;rw[Lib.decDigits_one b];simp;rw[Lib.decDigits_two b c];simp
def nZ.through{o d:Nat}{c e f}{g:Nat}(a:Below g c e)(b:nZ (Bb o d) e f)(m:c<=g/\c<=o):nZ (λj=>j=d) c f:=
 ⟨b.os.T a.os,b.tape.T a.tape,b.output.T a.output,Q8 a.size b.size,λi k l=>(b.B i (QR k a.size) λhb=>by rcases hb with hb|hb;omega;exact l hb).T<|a.B i Y⟩
abbrev wg(a b c d e f g h i j k l m n):=(#[.pointer a,.slice b c d,.slice e f g,.slice h i j,tx k,.slice e f g,.slice l m n,Em,.int .i64 0]:Array Go.Value)
def Gi:mQ 133:=λ_ _=>Ut
def lI.II{a:List Co}{c:Nat}(m:a.length<=3)(n:c<a.length)(g:∀e f,a[e]?=some f->f.name=kV e):((a.take c).find? λi=>i.name==kV c)=none:=by
 rw[List.find?_eq_none];intro j k d;have⟨l,b⟩:=List.getElem?_of_mem k;rw[List.getElem?_take]at b;split at b;case isFalse=>simp at b
 case isTrue p=>rw[g l j b]at d;simp only[beq_iff_eq]at d;have:=sT Y Y d;omega
def lI.IJ(a b:Nat)(e:1<=a)(f:a<=3)(g:b<=1):((List.range 6).all λc=>match (ny a b)[c]? with|none=>true|some x=>(((ny a b).take c).find? λd=>d.name==x.name).isNone&&x.name.head? !=some 102&&x.name.length==2)=true:=by rcases(show a=1\/a=2\/a=3 from Y)with rfl|rfl|rfl<;>rcases(show b=0\/b=1 from Y)with rfl|rfl<;>decide
def lI.Ib{d}{b c:Nat}(e:b<90)(f:c<90)(a:nm d b=nm d c):b=c:=by unfold nm at a;injection a with _ a;injection a with a _;have:=congrArg UInt8.toNat a;simp at this;omega
def mn.ri{b w r a}(l:mn .u8 b w r a):∃c g d e i f,r=[tx a.name,.slice c g d,.slice e i f]/\kz (og .u8) b w (.slice c g d) a.vars/\kz (nu .u8) b w (.slice e i f) a.lH:=by obtain⟨m,n,rfl,j,k⟩:=l;obtain⟨c,d,rfl,_⟩:=j.form;obtain⟨e,f,rfl,_⟩:=k.form;exact⟨_,_,_,_,_,_,Z,j,k⟩
def mv.ri{b w r a}(l:mv .u8 b w r a):∃c g d e i f,r=[tx a.name,.slice c g d,.slice e i f]/\kz kO b w (.slice c g d) a.params/\kz (kR .u8 Ds) b w (.slice e i f) a.body:=by obtain⟨m,n,rfl,j,k⟩:=l;obtain⟨c,d,rfl,_⟩:=j.form;obtain⟨e,f,rfl,_⟩:=k.form;exact⟨_,_,_,_,_,_,Z,j,k⟩
def xg{b:World}{c o k:Nat}{d l:Value}{e m:TypeId}(f:b.heap[c]?=some (.cells #[d] e))(a:∃g i j:Value,b.heap[o]?=some (.cells #[g,i,j] m)):(b.setCell ⟨o,k,none⟩ l).heap[c]?=some (.cells #[d] e):=by refine(Rf _ _ _ _ ?_).T f;intro n;have⟨g,i,j,a⟩:=a;have p:c=o:=n;rw[<-p,f]at a;injection a with a;injection a with a;have:=RF Array.size a;simp at this
def kz.solo{f:Type}{c:Rel f}{l:Nat}(ok:lh c l){g d}{a:Nat}{b m}{i:f}(n:d.heap[a]?=some (.cells #[b] m))(p:c g d [b] i):kz c (λe=>g e\/e=a) d (a,1,1) [i]:=by
 refine⟨some ⟨a,0,none⟩,1,[[b]],Z,Us,Y,λ_=>⟨a,0,Z,.inr Z,λj k q=>?_⟩,⟨ok.M p λe r=>.inl r,trivial⟩⟩;have s: #[b][j]?=some k:=by simpa using q
 rw[Re];exact kB n j k s
def nu.ri{c w r d}(g:nu .u8 c w r d):∃a e b,r=[.slice a e b]/\kz (mv .u8) c w (.slice a e b) d:=by obtain⟨i,rfl,f⟩:=g;obtain⟨a,b,rfl,_⟩:=f.form;exact⟨_,_,_,Z,f⟩
def lI.C6(b:List Co):Nat->St->Prop
 |0,_=>False
 |d+1,s=>(1<=s.kind/\s.kind<=10)/\s.lp.length<=5/\(∀c∈s.lp,Go.Proofs.YtppncjcpdbhobaaGreatDoor.mJ De c)/\(s.kind=6->∃a∈b,a.name=s.name)/\(∀a∈s.th,C6 b d a)/\∀a∈s.el,C6 b d a
def pK:Rel<|List<|List UInt8:=λb c d e=>∃a,d=[a]/\kz kO b c a e
def lI.na.le{a b:List In}{c m:Nat}(d:na a c b)(i:c<=m):na a m b:=by have⟨e,f,j,g⟩:=d;exact⟨e,f,Y,g⟩
def QL:qz De=63:=rfl
def Mr(d:Nat)(b:World)(e:Ending)(f:World):Prop:=∃(a:Int) (c:Bool),e=.returned (.tuple #[.int .i64 a,c])/\Below b b f/\(c=true->0<=a/\a<=d)
def KI(a:World)(b:Ending)(c:World):Prop:=∃(d e:ByteArray) (f g:Int),b=.returned (.agg #[.string d,.string e,f,g])/\Below a a c
def lI.qa(a:List Int):Array Go.Value:=(a.map λb=>Go.Value.int .i64 b).toArray
def lI.IK{a}{b:Nat}{c:Int}(d:a[b]?=some c):(qa a)[b]?=some (.int .i64 c):=by simp[qa,d]
def lI.Gn(a)(b:Nat)(c:Int):(qa a).setIfInBounds b (.int .i64 c)=qa (a.set b c):=by simp[qa]
def xY:mQ 180:=λ_ _=>Ut
def Gp(a:Nat):madeCells #[.int .i64 0] a=qa (List.replicate a 0):=by apply Array.ext_getElem?;intro c;by_cases b:c<a;simp[madeCells,qa,b,Nat.mod_one];simp[madeCells,qa,b]
def Mu(a:World)(b:Ending)(c:World):Prop:=∃(d:Int) (e:Bool),b=.returned (.tuple #[.int .i64 d,e])/\Below a a c
abbrev sz:=(.cells #[.int .i64 0,.int .i64 0,Nl] 209:Go.Obj)
def lI.pY(l:List<|List UInt8)(a:List UInt8):List<|List UInt8:=if a∈l then l else l++[a]
def lI.IP(a b):(pY a b).length<=a.length+1:=by unfold pY;split<;>simp
def lI.xh(l a):a∈pY l a:=by unfold pY;split;assumption;simp
def lI.IQ{l c a}(b:a∈l):a∈pY l c:=by unfold pY;split;exact b;exact List.mem_append_left _ b
def yq(b:Nat):Rel Unit:=λ_ _ a _=>a.length=b/\∀c∈a,c.oneCell'=true
def nN(b:TypeId)(w:World)(c d:Nat):Prop:=∃a:Array Value,w.heap[c]?=some (.cells a b (0,0))/\a.size=d/\∀e∈a.toList,e.oneCell'=true
def nN.set{a w}{b n:Nat}(c:nN a w b n)(i:Nat){u}(d:u.oneCell'=true):nN a (w.setCell ⟨b,i,none⟩ u) b n:=by have⟨e,f,g,j⟩:=c;refine⟨e.setIfInBounds i u,kt f,by simpa using g,λk hx=>?_⟩;rw[TG]at hx;rcases TL hx with hx|hx;exact j k hx;rw[hx];exact d
def nN.cells{T w}{b n:Nat}(c:nN T w b n):∃l:List Value,l.length=n/\(∀u∈l,u.oneCell'=true)/\∀a u,l[a]?=some u->w.cell? ⟨b,a,none⟩=some u:=by have⟨d,e,f,g⟩:=c;exact⟨d.toList,by simpa using f,g,λa u i=>kB e a u<|by simpa using i⟩
def xi(a)(e:Nat)(f:0<a.size):∀b∈(madeCells a e).toList,b∈a.toList:=by intro b c;simp only[madeCells,Array.toList_map,R6]at c;obtain⟨d,_,rfl⟩:=c;have g:d % a.size<a.size:=Tv _ f;rw[getElem!_pos a (d % a.size) g];simp
def D1{w}{a b:Nat}(c:w.heap[a]?=some (.cells (madeCells #[.int .i64 0,.int .i64 0,Nl]<|b*3) 209 (0,0))):nN 209 w a<|b*3:=⟨_,c,SQ _ _,λd e=>by have:=xi _ _ Ur d e;simp at this;rcases this with rfl|rfl<;>rfl⟩
def D2{w}{a b:Nat}(c:w.heap[a]?=some (.cells (madeCells #[false] b) 4 (0,0))):nN 4 w a b:=⟨_,c,SQ _ _,λd e=>by have:=xi _ _ Ur d e;simp at this;subst this;rfl⟩
def pB(b:TypeId)(c d:World)(e:Value)(f:Nat):Prop:=∃a:List Unit,kJ (yq 1) b 1 (λ_=>False) d c e a/\a.length<=f
def Ie(a:World)(b:Ending)(c:World):Prop:=∃(d:Option Addr) (e f:Nat),b=.returned (d,e,f)/\Below a a c
def yH:(205:TypeId)≠206:=Ur
abbrev tt:=(.cells #[Nl,Nl,Nl] 148:Go.Obj)
abbrev qk:=(.cells #[Em,Em,.int .i64 0] 133:Go.Obj)
def wG(o:Obj):Prop:=∀a b,o≠.cells a 5 b
def HQ:(155:TypeId)≠5:=Ur
def liesBuilder:liesAt prog prog.depth 155 (3/prog.cellsOf 155) 0 153 1=true:=Ut
def ua:prog.underlying 151=some (.pointer 153):=Ut
def AQ:∀a∈shapes,a.2.2.2.length<=10:=Ur
def LL(a:Nat):Prop:=3<a/\9<a/\4<a
abbrev BY(a):=(.cells (madeCells #[Em] a) 9:Go.Obj)
abbrev tw(a):=(some ⟨a+1,0,none⟩:Option Go.Addr)
def nK{a}(b:mZ a=true):a.length<=12:=by unfold mZ at b;simp only[R2,SK]at b;omega
def Gy:mQ 143:=λ_ _=>Ut
def Gz:mQ 93:=λ_ _=>Ut
abbrev AT(a):=(.cells (madeCells #[Em,Nl,Nl]<|a*3) 111:Go.Obj)
abbrev Bs(a):=(.cells (madeCells #[Em,Nl,Nl]<|a*3) 98:Go.Obj)
abbrev tg(a):=(some ⟨a+2,0,none⟩:Option Go.Addr)
abbrev wv:=(.cells #[.pointer none,Nl,.int .i64 0] 155:Go.Obj)
abbrev BT(a):=(.cells (madeCells #[.int .u8 0] a) 5:Go.Obj)
abbrev As:=(.cells (madeCells #[.int .u8 0] 8) 5:Go.Obj)
def Ab:prog.arrayLen 224=64:=Ut
def Ii:prog.underlying 224=some (.array (prog.arrayLen 224)<|prog.elem 224):=Ut
abbrev J8:Array Value:=#[.int .u32 0,.int .u32 0,.int .u32 0,.int .u32 0,.int .u32 0,.int .u32 0,.int .u32 0,.int .u32 0,.int .u32 0,.int .u32 0,.int .u32 0,.int .u32 0,.int .u32 0,.int .u32 0,.int .u32 0,.int .u32 0,.int .u32 0,.int .u32 0,.int .u32 0,.int .u32 0,.int .u32 0,.int .u32 0,.int .u32 0,.int .u32 0,.int .u32 0,.int .u32 0,.int .u32 0,.int .u32 0,.int .u32 0,.int .u32 0,.int .u32 0,.int .u32 0,.int .u32 0,.int .u32 0,.int .u32 0,.int .u32 0,.int .u32 0,.int .u32 0,.int .u32 0,.int .u32 0,.int .u32 0,.int .u32 0,.int .u32 0,.int .u32 0,.int .u32 0,.int .u32 0,.int .u32 0,.int .u32 0,.int .u32 0,.int .u32 0,.int .u32 0,.int .u32 0,.int .u32 0,.int .u32 0,.int .u32 0,.int .u32 0,.int .u32 0,.int .u32 0,.int .u32 0,.int .u32 0,.int .u32 0,.int .u32 0,.int .u32 0,.int .u32 0]
def zero64:(J8:Array Value)=Array.replicate 64 (.int .u32 0):=Ut
abbrev tm:=(.cells #[Em,false] 93:Go.Obj)
def cmpL:List Int->List Int->Int
 |[],[]=>0
 |[],_::_=> -1
 |_::_,[]=>1
 |x::xs,y::ys=>if Lib.compareInt x y=0 then cmpL xs ys else Lib.compareInt x y
def rz{a b:Int}:Lib.compareInt a b=0↔a=b:=by unfold Lib.compareInt;split;simp;omega;split;simp;omega;simp;omega
def zo:∀{xs ys:List Int} {k:Nat},k<=xs.length->xs.take k=ys.take k->cmpL xs ys=cmpL (xs.drop k) (ys.drop k)
 |xs,ys,0,_,_=>by simp
 |[],_,k+1,h,_=>by simp at h
 |x::xs,[],k+1,_,h=>by simp at h
 |x::xs,y::ys,k+1,h,a=>by simp only[Sn,Sh]at a;obtain⟨rfl,a⟩:=a;rw[show cmpL (x::xs) (x::ys)=cmpL xs ys from by rw[cmpL,RG<|rz.2 Z]];exact zo (by simpa using h) a
def oZ.rS(a:Int):Prop:= -9223372036854775808<=a/\a<=9223372036854775807
def qE(B:Bool)(a:World):Prop:=B=true->Lib.TabIs prog a "internal/strconv.uint64pow10" .u64 Lib.pow10Tab
def sZ:prog.globalNamed "internal/strconv.uint64pow10" =some 1:=Ut
def ym(b:Bool)(a:Int):Prop:=rS a/\(b=false->0<=a/\a<100)
def kW(a b:List UInt8):(⟨a.toArray⟩:ByteArray)++⟨b.toArray⟩=⟨(a++b).toArray⟩:=by apply ByteArray.ext;simp[ByteArray.data_append]
abbrev DH(a):=(.cells (madeCells #[Value.string ⟨#[]⟩] a) 9:Go.Obj)
def kI.Jc:∀a∈syms,1<=a.length/\a.length<=2:=Ur
def L.sH:prog.underlying 319=some (.array 39 9):=Ut
def L.Ew:prog.underlying 284=some (.array 25 9):=Ut
def qQ.opers:List<|List UInt8:=[[111,114],[97,110,100],[61,61],[33,61],[60],[60,61],[62],[62,61],[43],[45],[42],[47],[37]]
abbrev yp:=(.cells #[.int .u8 0,Em,.int .i64 0] 191:Go.Obj)
def LG(b:List<|List UInt8×Nat):List Value:=(b.map λa=>[tx a.1,.int .u8 (a.2:Nat)]).flatten
abbrev tp:=(.cells #[.string ⟨#[45]⟩,.int .u8 9,.string ⟨#[110,111,116]⟩,.int .u8 10] 346:Go.Obj)
abbrev te:=(.cells #[.string ⟨#[42]⟩,.int .u8 11,.string ⟨#[47]⟩,.int .u8 12,.string ⟨#[37]⟩,.int .u8 13] 346:Go.Obj)
abbrev vc:=(.cells #[.string ⟨#[43]⟩,.int .u8 14,.string ⟨#[45]⟩,.int .u8 15] 346:Go.Obj)
abbrev oR:=(.cells #[.string ⟨#[61,61]⟩,.int .u8 16,.string ⟨#[33,61]⟩,.int .u8 17,.string ⟨#[60]⟩,.int .u8 18,.string ⟨#[60,61]⟩,.int .u8 19,.string ⟨#[62]⟩,.int .u8 20,.string ⟨#[62,61]⟩,.int .u8 21] 346:Go.Obj)
abbrev AI:=(.cells #[.string ⟨#[97,110,100]⟩,.int .u8 22] 346:Go.Obj)
abbrev Bm:=(.cells #[.string ⟨#[111,114]⟩,.int .u8 23] 346:Go.Obj)
abbrev rn(a):=(.cells #[.pointer a] 122:Go.Obj)
abbrev uc(a):=(.cells #[.func (.func 202) #[] #[.pointer<|some ⟨a+1+1,0,none⟩,.pointer a]] 156:Go.Obj)
abbrev qt(a b):=(.cells #[tx a,Nl,.slice b 1 1] 98:Go.Obj)
abbrev AS:=(.cells #[.string ⟨#[50]⟩,.string ⟨#[51]⟩] 9:Go.Obj)
def Lt:Hd:=⟨[103,101,116],[[105],[106]],[]⟩
def qG:Co:=⟨[98,97,99,107],[],[[Lt]]⟩
def HY:List UInt8:=[116,52,32,98,97,99,107,58,32,109,101,115,115,97,103,101,32,48,32,102,114,111,109,32,102,114,111,110,116,32,103,101,116,40,49,44,32,55,41]
def E2:List UInt8:=[116,52,32,111,112,101,114,97,116,111,114,58,32,102,108,97,103,32,115,108,111,119,32,61,32,116,114,117,101,32,40,99,104,111,105,99,101,32,48,41]
abbrev AM:=(.cells #[.int .i64 1,.int .i64 7] 2:Go.Obj)
def narrateDiffers.Ix:laidOutB Tryz.pinned.checked.prog=true:=by kernel_rfl
def narrateDiffers.Hi:(Rows.narrateDiffersRow.inPlace==Tryz.pinned.checked.prog.inPlace 3)=true:=by kernel_rfl
def narrateDiffers.N6:(Rows.narrateDiffersRow.recurses==Tryz.pinned.checked.prog.recurses 3)=true:=by kernel_rfl
def narrateDiffers.Ll:Tryz.pinned.checked.prog.stopsHeard=true:=by kernel_rfl
def narrateDiffers.N7:Tryz.pinned.checked.prog.mayEnter=true:=by kernel_rfl
def narrateDiffers.JQ:(Rows.narrateDiffersRow.lifted==Tryz.pinned.checked.prog.liftsFinal)=true:=by kernel_rfl
