import Derived.Test.YtjoamapacifofaaGreatDoorZ1
set_option maxRecDepth 1000000
set_option maxHeartbeats 32000000
set_option linter.all false
namespace Go.Proofs.YtjoamapacifofaaGreatDoor
open RowKit Go.Proofs.Tryz kT Maps nu pG ChangeShapes WideShapes ChangeAt
def kJ.app{a:Type}{R:List Value->a->Prop}{b}{c:List a}(d:kJ R b c):∀{e:List (List Value)} {xs:List a},kJ R e xs->kJ R (e++b) (xs++c)
 |[],[],_=>d
 |_::_,_::_,⟨h1,h⟩=>⟨h1,kJ.app d h⟩
 |[],_::_,h=>h.elim
 |_::_,[],h=>h.elim
def jT.imp{a:Type}{R b:Rel a}{S w v}{xs:List a}(h:jT R S w v xs)(hi:∀r x,R S w r x->b S w r x):jT b S w v xs:=by obtain⟨A,c,d,e,f,g,i,j⟩:=h;exact⟨A,c,d,e,f,g,i,j.imp hi⟩
def ko.up(q:IntKind):∀{d d':Nat} {S:Nat->Prop} {w:World} {r:List Value} {e:Ex},d<=d'->ko q d S w r e->ko q d' S w r e
 |0,_,_,_,_,_,_,h=>h.elim
 |d+1,0,_,_,_,_,hd,_=>SE
 |d+1,d'+1,_,_,_,_,hd,⟨v,h,hs⟩=>⟨v,h,hs.imp λ_ _ hx=>ko.up q SE hx⟩
def kp.up(q:IntKind):∀{d d':Nat} {S:Nat->Prop} {w:World} {r:List Value} {e:St},d<=d'->kp q d S w r e->kp q d' S w r e
 |0,_,_,_,_,_,_,h=>h.elim
 |d+1,0,_,_,_,_,hd,_=>SE
 |d+1,d'+1,_,_,_,_,hd,⟨v1,v2,v3,h,h1,h2,h3⟩=>⟨v1,v2,v3,h,h1,h2.imp λ_ _ hx=>kp.up q SE hx,h3.imp λ_ _ hx=>kp.up q SE hx⟩
def kT.kY.up{sc}:∀{d d':Nat} {e:Ex},d<=d'->kY sc d e->kY sc d' e
 |0,_,_,_,h=>h.elim
 |d+1,0,_,hd,_=>by omega
 |d+1,d'+1,e,hd,h=>by
  have up:∀{x:Ex},kY sc d x->kY sc d' x:=λhx=>kY.up SE hx;rcases h with h|h|h|⟨c,f,g,k,a,i,j⟩|h|⟨c,f,g,a,i,j⟩|⟨c,f,g,a,b,i,j,l⟩
  exact .inl h;exact .inr (.inl h);exact .inr (.inr (.inl h));exact .inr (.inr (.inr (.inl ⟨c,f,g,k,a,i,up j⟩)));exact .inr (.inr (.inr (.inr (.inl h))));exact .inr (.inr (.inr (.inr (.inr (.inl ⟨c,f,g,a,i,up j⟩)))));exact .inr (.inr (.inr (.inr (.inr (.inr ⟨c,f,g,a,b,i,up j,up l⟩)))))
def kT.mC.up{sc}:∀{d d':Nat} {e:Ex},d<=d'->mC sc d e->mC sc d' e
 |0,_,_,_,h=>h.elim
 |d+1,0,_,hd,_=>by omega
 |d+1,d'+1,e,hd,h=>by
  have up:∀{x:Ex},mC sc d x->mC sc d' x:=λhx=>mC.up SE hx;have k:∀{x:Ex},kY sc d x->kY sc d' x:=λhx=>kY.up SE hx;rcases h with h|h|⟨c,f,g,m,a,i,j⟩|⟨c,f,g,a,i,j⟩|⟨c,f,g,a,b,i,j,l⟩|⟨c,f,g,a,b,i,j,l⟩
  exact .inl h;exact .inr (.inl h);exact .inr (.inr (.inl ⟨c,f,g,m,a,i,k j⟩));exact .inr (.inr (.inr (.inl ⟨c,f,g,a,i,up j⟩)));exact .inr (.inr (.inr (.inr (.inl ⟨c,f,g,a,b,i,up j,up l⟩))));exact .inr (.inr (.inr (.inr (.inr ⟨c,f,g,a,b,i,k j,k l⟩))))
def pO:(prog.info? 9).map (λi=>(i.zero,i.size,i.bytes))=some (some (Em),1,16):=SH
def lY(l:List (List UInt8))(w:World)(e:Ending)(w':World):Prop:=∃v,e=.returned v/\kf kh 9 1 (λ_=>False) w' w v l/\Below w w w'
abbrev tt(a b):=(.cells #[.int .u8 (a:Int),.int .u8 (48+(b:Int))] 5:Go.Obj)
def Iw(W:World)(c:UInt8)(k:Nat)(g:k<10):(convert 22 9 (.slice W 2 2)).run prog (W.alloc (tt c.toNat k))=.ok (tx (nm c k)) (W.alloc (tt c.toNat k)):=by
 have:=Sb (P:=prog) (W.alloc (tt c.toNat k)) 22 9 5 ⟨W,0,none⟩ 2 (nm c k) underlying22 underlying5 underlying9 (λa b=>by
  have d:a=0\/a=1:=by have:a<2:=b;omega
  have e:((UInt8.ofNat (48+k)).toNat:Int)=48+(k:Int):=SK
  rcases d with rfl|rfl;exact jN (O2 W _) 0;have f:(W:Addr).add 1=⟨W,1,none⟩:=rfl;rw[f];refine jU (O2 W _) 1 _ ?_;show some (Value.int .u8 (48+(k:Int)))=some (Value.int .u8 ((UInt8.ofNat (48+k)).toNat:Int));rw[e])
 exact this
def jT.Kl{S w}{b o n c:Nat}{l}(h:jT kh S w (.slice (some ⟨b,o,none⟩) n c) l)(k:Nat)(x)(hx:l[k]?=some x):S b/\w.cell? ⟨b,o+k,none⟩=some (tx x):=by obtain⟨g,i,r,e,hb,hr,hc⟩:=h.kt kh.ok k x hx;injection e with e;injection e with a d;subst a d;have f:r=[tx x]:=hr;have:=hc 0 (tx x) (by rw[f];rfl);exact⟨hb,by simpa using this⟩
def Eg(w w':World)(a:Nat):Nat->Prop:=λb=>w<=b/\b<w'/\b≠a
def mE(S:Nat->Prop)(a:Nat)(sc:Sc)(left d:Nat)(w:World)(e:Ending)(w':World):Prop:=
 ∃(op n:Int) (name:List UInt8) (A:Option Addr) (m c:Nat) (x:Ex),e=.returned (.agg #[.int .i64 op,tx name,n,.slice A m c])/\ko .i64 d (Eg w w' a) w' [.int .i64 op,tx name,n,.slice A m c] x/\kY sc d x/\kr S w' a sc left/\w.grownBy w' (some a)
abbrev lE(a b c d e f):=(#[.int .i64 a,tx b,c,.slice d e f]:Array Go.Value)
def ua:Code->Option Nat
 | .region n _ _=>some n
 | .seq a _=>ua a
 | .block _ c=>ua c
 | .scope c=>ua c
 |_=>none
def uF(n:Nat):Code->Option Code
 | .seq a b=>if ua a=some n then some (.seq a b)else match uF n a with|some c=>some c|none=>uF n b
 | .block i c=>if ua c=some n then some (.block i c)else uF n c
 | .scope c=>if ua c=some n then some (.scope c)else uF n c
 | .cond _ a b=>match uF n a with|some c=>some c|none=>uF n b
 | .loop c=>uF n c
 | .region k o d=>if k=n then some (.region k o d)else none
 |_=>none
noncomputable def sW(fn:Func)(n:Nat):Code:=(fn.body.bind (uF n)).getD .skip
abbrev kk(a b c d e f):=(.cells #[.int .i64 a,tx b,c,.slice d e f] 193:Go.Obj)
abbrev qn:=(#[.int .i64 0,Em,.int .i64 0,Nl]:Array Go.Value)
abbrev sz:=(.cells #[.int .i64 14,.int .i64 15,.int .i64 11,.int .i64 12,.int .i64 13,.int .i64 14] 3:Go.Obj)
def Gl:(prog.info? 193).map (λi=>(i.zero,i.size,i.bytes))=some (some (.agg qn),4,56):=SH
def kr.rp{S w w'}{a:Nat}{sc}{left:Nat}{row}(h:kr S w a sc left)(hg:w.grownBy w' row)(hm:some a≠row)(hS:∀b,S b->some b≠row):kr S w' a sc left:=by obtain⟨d,e,f,hb,g,hy⟩:=h.kt;have c:∀b,S b->w'.heap[b]?=w.heap[b]?:=λb hb=>hg.B b (h.kX b hb).2 (hS b hb);exact⟨⟨d,e,f,(hg.B a h.lt hm).T hb,g.jP pC.ok c,hy.jP pX.ok c⟩,λb hb=>⟨(h.kX b hb).1,O1 (h.kX b hb).2 hg.size⟩⟩
def na{c:Type}{R:Rel c}{k:Nat}(ok:kF R k){e:Nat}{w d a r}{x:c}(f:w.heap.size<d.heap.size)(h:R (Eg d a e) a r x):R (New w a) a r x:=
 ok.M h λb hb=>⟨SC hb.1,hb.2.1⟩
def EPost(P:Ex->Prop)(S:Nat->Prop)(a:Nat)(sc:Sc)(left d:Nat)(w:World)(e:Ending)(w':World):Prop:=
 ∃(op n:Int) (name:List UInt8) (A:Option Addr) (m c:Nat) (x:Ex),e=.returned (.agg #[.int .i64 op,tx name,n,.slice A m c])/\ko .i64 d (Eg w w' a) w' [.int .i64 op,tx name,n,.slice A m c] x/\P x/\kr S w' a sc left/\w.grownBy w' (some a)
def vg{j:Type}{P}{w:World}(t)(l:TypeId)(e i z)(size c:Nat)(m:P.underlying t=some (.slice e))(hi:P.info? e=some i)(hz:i.zero=some z)
  (F:i.size=size) (G:i.bytes=c) (I:z.cells.size=size) {R:Rel j} (ok:kF R size) {S:Nat->Prop} (hS:∀b,S b->b<w) {A:Addr} {n:Nat} {xs ys:List j} {v2:Value}
  (p:jT R S w (.slice (some A) n n) xs) (d:jT R S w v2 ys) (J:n+ys.length<=maxLen) (K:(n+ys.length)*c<=140737488355328):
  ∃q s v w',(Builtin.append_ #[t,t] l #[.slice (some A) n n,v2]).run P w=.ok (.slice q s v) w'/\jT R (λb=>S b\/(w<=b/\b<w')) w' (.slice q s v) (xs++ys)/\w.grownBy w' none:=by
 by_cases hy:ys=[]
 .subst hy;obtain⟨y,c2,f,rfl,_⟩:=d;refine⟨some A,n,n,w,?_,by rw[QI];exact p.M ok λb hb=>.inl hb,World.grownBy.refl w none⟩;cases y<;>simp[Builtin.append_,Rs m,sizeOf,typeInfo,hi,Builtin.lenOf,Builtin.firstCells,storeCells,loadCells,loadCellsFrom]
 .obtain⟨B,C,_,L,M,N,_⟩:=p.cells ok;obtain⟨y,c2,O,Q,ah,ai,T,U⟩:=id d;subst Q;have V:O.flatten≠[]:=by
   intro e;have:=kJ.flat (k:=size) (λr x h=>ok.len h) U;rw[e]at this;have hp:=ok.pos;have:ys.length=0:=by have D:ys.length*size=0:=(by simpa using this.symm);rcases R6.1 D with h|h;exact h;omega
   exact hy (PT this)
  obtain⟨W,X,rfl,_,_⟩:=T V;obtain⟨f,aj,_,Y,Z,aa,_⟩:=d.cells ok;have ak:0<ys.length:=Rg.2 hy;obtain⟨al,w',ab,ac,hg⟩:=RA (P:=P) (w:=w) t l e i z size c m hi hz F G I ok.pos A n n B.flatten L N ⟨W,X,none⟩ ys.length c2 f.flatten Y aa SE J K;rcases ac.2 with⟨rfl,D⟩|⟨g,ad,am,rfl,hb,E,ae,af,an,ag⟩
  omega;refine⟨_,_,_,w',ab,⟨_,ad,B++f,by rw[Pe,C],by rw[Pe,C];exact ae,by unfold maxLen at af;omega,λ_=>⟨g,0,rfl,.inr ⟨hb,(O3.1 E).1⟩,λao u a=>?_⟩,?_⟩,hg⟩;rw[Rh,<-ag,Ql]at a;split at a;rw[Pk];simp only[World.cell?,E];simpa using a;cases a;exact(kJ.app Z M).imp λr x hx=>ok.M (ok.jP hx λb hb=>hg.B b (hS b hb) SG) λb hb=>.inl hb
def pJ(S:Nat->Prop)(a:Nat)(sc:Sc)(D left:Nat)(w:World)(e:Ending)(w':World):Prop:=
 ∃(kind:Int) (name hd:List UInt8) (b c d:Option Addr) (f c1 g c2 i c3:Nat) (x:St) (j:Nat),e=.returned (.agg #[.int .i64 kind,tx name,tx hd,.slice b f c1,.slice c g c2,.slice d i c3])/\
  kp .i64 (D+1) (Eg w w' a) w' [.int .i64 kind,tx name,tx hd,.slice b f c1,.slice c g c2,.slice d i c3] x/\mf sc (D+1) x/\ku D x.th+ku D x.el+j<=left/\kr S w' a sc j/\w.grownBy w' (some a)
def nX(D:Nat):ku D []=0:=by cases D<;>rfl
def nb(w0:World)(f:Nat->Value)(n:Nat)(v:Value)(w:World):Prop:=∃b o c,v=.slice (some ⟨b,o,none⟩) n c/\New w0 w b/\∀a,a<n->w.cell? ⟨b,o+a,none⟩=some (f a)
def nb.lf{w0}{a:Nat}(i:a<w0.heap.size){f}{n:Nat}{v w w'}(hg:Good a w0.heap.size w w')(h:nb w0 f n v w):nb w0 f n v w':=by obtain⟨b,o,c,e,hb,hc⟩:=h;exact⟨b,o,c,e,⟨hb.1,O1 hb.2 hg.1⟩,λd g=>(Cb b (o+d) (hg.2 b hb.2 (SC hb.1) (SC hb.1))).T (hc d g)⟩
def GP{a d:Nat}{w0 w w'}(c:a<w0.heap.size){r x}(hg:Good a w0.heap.size w w')(h:ko .i64 d (New w0 w) w r x):ko .i64 d (New w0 w') w' r x:=
 (ko.ok _ _).M ((ko.ok _ _).jP h λb hb=>hg.2 b hb.2 (SC hb.1) (SC hb.1)) λb hb=>⟨hb.1,O1 hb.2 hg.1⟩
def B8{S w A}{n c i a:Nat}{l}(h:jT lS S w (.slice A n c) l)(d:l[i]?=some a):∃b o,A=some ⟨b,o,none⟩/\S b/\w.cell? ⟨b,o+i,none⟩=some (.int .i64 (a:Int)):=by obtain⟨b,o,r,e,hb,hr,hc⟩:=h.kt lS.ok i a d;have f:r=[.int .i64 (a:Int)]:=hr;have:=hc 0 (.int .i64 (a:Int)) (by rw[f];rfl);exact⟨b,o,e,hb,by simpa using this⟩
abbrev qt:=(#[.int .i64 0,Em,Em,Nl,Nl,Nl]:Array Go.Value)
def Km:(prog.info? 187).map (λi=>(i.zero,i.size,i.bytes))=some (some (.agg qt),6,112):=SH
def kr.xT{S w}{c:Nat}{sc}{left:Nat}(h:kr S w c sc left)(a:Nat):kr S (w.setCell ⟨c,5,none⟩ (.int .i64 (a:Int))) c {sc with params:=a} left:=by obtain⟨e,f,g,hb,i,hy⟩:=h.kt;have d:∀b,b≠c->(w.setCell ⟨c,5,none⟩ (.int .i64 (a:Int))).heap[b]?=w.heap[b]?:=λ_ hb=>Pd _ _ _ _ hb;exact⟨⟨e,f,g,jO hb,i.jP pC.ok (λb hb=>d b (h.kX b hb).1),hy.jP pX.ok (λb hb=>d b (h.kX b hb).1)⟩,λb hb=>⟨(h.kX b hb).1,by rw[O6];exact(h.kX b hb).2⟩⟩
def nb.ng{w0 f}{n:Nat}{v w w'}(hg:NG w0 w w')(h:nb w0 f n v w):nb w0 f n v w':=by obtain⟨b,o,c,e,hb,hc⟩:=h;exact⟨b,o,c,e,⟨hb.1,O1 hb.2 hg.1⟩,λa d=>(Cb b (o+a) (hg.2 b hb)).T (hc a d)⟩
def Dw{a:Type}{R:Rel a}{k:Nat}(ok:kF R k){w0 w w' r}{x:a}(hg:NG w0 w w')(h:R (New w0 w) w r x):R (New w0 w') w' r x:=
 ok.M (ok.jP h λb hb=>hg.2 b hb) λb hb=>⟨hb.1,O1 hb.2 hg.1⟩
def pD.xU{S w A}{n c i:Nat}{l}(h:jT pD S w (.slice A n c) l)(hi:i<l.length):
  ∃b o,A=some ⟨b,o,none⟩/\S b/\w.cell? ⟨b,o+i*2,none⟩=some (.int .u8 ((l.getD i default).params:Int)):=by
 obtain⟨b,o,d,f,e,hb,a,_⟩:=pD.kt h (Pg hi);refine⟨b,o,e,hb,?_⟩;rw[a,List.getD_eq_getElem?_getD,Pg hi];rfl
def Ko(l:List Nat)(w:World)(e:Ending)(w':World):Prop:=∃v,e=.returned v/\kf lS 3 1 (λ_=>False) w' w v l/\Below w w w'
abbrev rm(a b c d e f g h):=(.cells #[.int .u8 (a:Int),.int .u8 (b:Int),.slice c d e,.slice f g h] 77:Go.Obj)
def kT.mU.up{n m a:Nat}{b}(h:mU n m b)(hm:m<=a):mU n a b:=⟨λx hx=>by obtain⟨k,c,h⟩:=h.1 x hx;exact⟨k,SE,h⟩,h.2⟩
def kT.F8(p)(a:Nat):(zK p a).length=if a<p.hs.length\/a=0\/a<p.ss.length then 1 else 0:=by unfold zK;by_cases b:a<p.hs.length;rw[if_pos b,if_pos (.inl b)];rfl;rw[if_neg b];by_cases c:a=0;rw[if_pos c,if_pos (.inr (.inl c))];rfl;rw[if_neg c];by_cases d:a<p.ss.length;rw[if_pos d,if_pos (.inr (.inr d))];rfl;rw[if_neg d,if_neg SE];rfl
def Yn(a w:World):Nat->Prop:=λb=>a<=b/\b<w
def kf.tight{a:Type}{R:Rel a}{T k:Nat}(ok:kF R k){P w}{lo:Nat}{v}{xs:List a}(h:kf R T k P w lo v xs):kf R T k (λb=>P b/\b<w) w lo v xs:=by obtain⟨c,d,e⟩:=h.own;exact⟨c,d,e.imp λr x hx=>ok.M hx λb hb=>⟨⟨hb.1,hb.2.1⟩,hb.2⟩⟩
def kf.weaken{a:Type}{R:Rel a}{T k:Nat}(ok:kF R k){P P' w}{lo:Nat}{v}{xs:List a}(h:kf R T k P w lo v xs)(hp:∀b,P b->P' b):kf R T k P' w lo v xs:=by obtain⟨c,d,e⟩:=h.own;exact⟨c,d,e.imp λr x hx=>ok.M hx λb hb=>⟨hp b hb.1,hb.2⟩⟩
def kf.blocks{a:Type}{R:Rel a}{T k:Nat}(ok:kF R k){P w w'}{lo:Nat}{v}{xs:List a}(h:kf R T k P w lo v xs)(hs:w.heap.size<=w'.heap.size)(c:∀b,b<w.heap.size->P b\/v.ownBlock=some b->w'.heap[b]?=w.heap[b]?):kf R T k P w' lo v xs:=by
 obtain⟨f,d,i⟩:=h.own;refine⟨f,⟨d.1,?_⟩,i.imp λr x hx=>ok.M (ok.jP hx λb hb=>c b hb.2.1 (.inl hb.1)) λb hb=>⟨hb.1,O1 hb.2.1 hs,hb.2.2⟩⟩;rcases d.2 with h|⟨g,j,l,e,hb,hg,h⟩
 exact .inl h;refine .inr ⟨g,j,l,e,hb,?_,h⟩;rw[c g (O3.1 hg).1 (.inr (by rw[e];rfl))];exact hg
def pP{c:Type}{R:Rel c}{k:Nat}(ok:kF R k){a w w' row v}{xs:List c}(h:jT R (Yn a w) w v xs)(hg:w.grownBy w' row)(hr:∀z,row=some z->z<a):jT R (Yn a w') w' v xs:=
 (h.jP ok λb hb=>hg.B b hb.2 λe=>SD (hr b e.symm) hb.1).M ok λb hb=>⟨hb.1,O1 hb.2 hg.size⟩
def Ks:(prog.info? 90).map (λi=>(i.zero,i.size,i.bytes))=some (some (.agg #[Em,.int .i64 0,.int .i64 0]),3,32):=SH
def Kt:(prog.info? 67).map (λi=>(i.zero,i.size,i.bytes))=some (some (.agg #[Em,false]),2,24):=SH
def JP(a:World)(B k:Nat)(e:Option Addr)(d f:Nat)(g:Option Addr)(nk i:Nat)(j:List Co)(l:List (List Nat))(w':World):Prop:=∃(V':Value) (c:Co),a.grownBy w' (some B)/\w'.heap[B]?=some (.cells #[tx lW,.slice e d f,.slice g nk i,V'] 37)/\kf (lv .i64) 88 3 (λb=>a<=b) w' a V' (j++[c])/\xv d l k c
abbrev sh:=(.cells #[.string ⟨#[97]⟩,.string ⟨#[98]⟩,.string ⟨#[99]⟩] 9:Go.Obj)
abbrev mu(a b c d e f g):=(.cells #[.int .u8 (a:Int),.slice b c d,.slice e f g] 25:Go.Obj)
def mS.drew{a:Type}{R:Rel a}{T k:Nat}{P b wr}{o:Nat}{C c V}{xs:List a}{x}(h:mS R T k P b wr o C c V xs x)(ok:kF R k):mS R T k P b wr o C c V xs {x with drawn:=x.drawn+1}:=h.grow ok (jV (Below.refl _ _).drew)
def mS.set{c:Type}{R:Rel c}{T k:Nat}{P a wr}{o:Nat}{C C' d V V'}{xs f:List c}{x}(h:mS R T k P a wr o C d V xs x)(ok:kF R k)(j:∀b,P b->a<=b)(g:kf R T k P x a V' f)(i:Nat)(u)(hc:C.setIfInBounds i u=C'):
  a.grownBy (x.setCell ⟨o,i,none⟩ u) (some o)/\(x.setCell ⟨o,i,none⟩ u).heap[o]?=some (.cells C' d (0,0))/\kf R T k P (x.setCell ⟨o,i,none⟩ u) a V' f:=by
 have n:=h.lt;have l:=g.ge;refine⟨jR h.g (jY x o i u),by rw[<-hc];exact jO h.c,g.grown ok (jY x o i u) (λz e=>?_)⟩;injection e with e;subst e;exact⟨λhb=>SC (j _ hb),λm=>SC ((l _ m.symm).1)⟩
def ko.open{q:IntKind}{d:Nat}{S w r e}(h:ko q d S w r e):∃d' v,d=d'+1/\r=[.int q e.op,tx e.name,.int .i64 e.n,v]/\jT (ko q d') S w v e.args:=by
 cases d with
 |zero=>exact h.elim
 |succ d=>obtain⟨v,a,b⟩:=h;exact⟨d,v,rfl,a,b⟩
def kp.open{q:IntKind}{d:Nat}{S w r s}(h:kp q d S w r s):∃d' v1 v2 a,d=d'+1/\r=[.int q s.kind,tx s.name,tx s.hd,v1,v2,a]/\jT (ko q De) S w v1 s.kA/\jT (kp q d') S w v2 s.th/\jT (kp q d') S w a s.el:=by
 cases d with
 |zero=>exact h.elim
 |succ d=>obtain⟨v1,v2,a,b,c⟩:=h;exact⟨d,v1,v2,a,rfl,b,c⟩
def Dx:Obj->Prop
 | .cells a _ _=>∀q n,(.int q n:Value)∈a->n=0
 |_=>False
def tK{g:Type}{R i:Rel g}{z}(hz:Dx z){S w v}{xs:List g}(h:jT R S w v xs)(hR:∀r x,x∈xs->R S w r x->i (uU z w S) w r x/\∃q n f,r=.int q n::f/\n≠0):jT i (uU z w S) w v xs:=by
 obtain⟨A,c,a,p,s,u,y,B⟩:=h;have C:∀{a:List (List Value)} {d:List g},(∀x∈d,x∈xs)->kJ (R S w) a d->kJ (i (uU z w S) w) a d/\(a.flatten≠[]->∃q n f,a.flatten=.int q n::f/\n≠0):=by
  intro a;induction a with
  |nil=>intro d _ h;cases d with
   |nil=>exact⟨trivial,λh=>by simp at h⟩
   |cons x d=>exact h.elim
  |cons r a D=>intro d hm h;cases d with
   |nil=>exact h.elim
   |cons x d=>obtain⟨j,q,n,f,k,E⟩:=hR r x (hm x SG) h.1;exact⟨⟨j,(D (λF hy=>hm F (by simp[hy])) h.2).1⟩,λ_=>⟨q,n,f++a.flatten,by rw[P7,k];rfl,E⟩⟩
 obtain⟨j,k⟩:=C (λx hx=>hx) B;refine⟨A,c,a,p,s,u,λl=>?_,j⟩;obtain⟨b,o,e,hb,hc⟩:=y l;obtain⟨q,n,f,G,hn⟩:=k l;refine⟨b,o,e,⟨hb,λI=>?_⟩,hc⟩;have m:=hc 0 (.int q n) (by rw[G];rfl);cases z with
 |cells J t L=>simp only[World.cell?,I]at m;have K:J[o]?=some (.int q n):=(by simpa using m);exact hn (hz q n (Sg K))
 |_=>exact hz.elim
def jT.LS{q:IntKind}{z}(hz:Dx z){S w}:∀{d:Nat} {v:Value} {xs:List Ex},(∀x∈xs,B0 d x)->jT (ko q d) S w v xs->jT (ko q d) (uU z w S) w v xs
 |0,_,_,_,h=>tK hz h λ_ _ _ hr=>hr.elim
 |d+1,v,xs,ho,h=>tK hz h λr x hx ⟨a,hr,hs⟩=>by obtain⟨c,e,f,b⟩:=ho x hx;exact⟨⟨a,hr,jT.LS hz b hs⟩,_,_,_,hr,SE⟩
def jT.Ik{q:IntKind}{z}(hz:Dx z){S w}:∀{d:Nat} {v:Value} {xs:List St},(∀x∈xs,tX d x)->jT (kp q d) S w v xs->jT (kp q d) (uU z w S) w v xs
 |0,_,_,_,h=>tK hz h λ_ _ _ hr=>hr.elim
 |d+1,v,xs,ho,h=>tK hz h λr x hx ⟨v1,v2,a,hr,b,c,e⟩=>by obtain⟨j,k,l,m,n,f,g,i⟩:=ho x hx;exact⟨⟨v1,v2,a,hr,jT.LS hz f b,jT.Ik hz g c,jT.Ik hz i e⟩,_,_,_,hr,SE⟩
def uU.set{z w0 w}{o i:Nat}{u}(a:w.heap[o]?=some z){c:Type}{R:Rel c}{k:Nat}(ok:kF R k){v}{xs:List c}(h:jT R (uU z w (Nw w0 w)) w v xs):jT R (λb=>Nw w0 w b/\b≠o) (w.setCell ⟨o,i,none⟩ u) v xs:=
 (h.jP ok λb hb=>Pd _ _ _ _ (λe=>hb.2 (by rw[e];exact a))).M ok λb hb=>⟨hb.1,λe=>hb.2 (by rw[e];exact a)⟩
def mR{lo o:Nat}{w a w'}(h:Below lo w a)(hg:a.grownBy w' (some o))(c:lo<=o)(d:lo<=w:=by omega):Below lo w w':=
 ⟨hg.os.T h.os,hg.tape.T h.tape,hg.output.T h.output,Pj h.size hg.size,λb hb=>(hg.B b (SC h.size) (λe=>by injection e with e;omega)).T (h.B b hb)⟩
abbrev kl:=(#[.int .u8 0,Em,.int .i64 0,Nl]:Array Go.Value)
def DG:(prog.info? 196).map (λi=>(i.zero,i.size,i.bytes))=some (some (.agg kl),4,56):=SH
def IG:(prog.info? 323).map (λi=>(i.zero,i.size,i.bytes))=some (some (.agg #[.int .u8 0,.int .i64 0,.int .i64 0,.int .i64 0]),4,32):=SH
def lJ.old{a}{cb:Nat}{c d f g hd own i j k params V}{l:List In}{w}(h:lJ a cb c d f g hd own i j k params V l w){b:Nat}(hb:b<a)(hc:b≠cb):w.heap[b]?=a.heap[b]?:=h.g.B b hb (by intro e;injection e with e;exact hc e)
def ub(b:World)(cb:Nat)(c d f g hd own i j k params:Value)(V:Value)(w:World)(l:Value)(Q:List In->Prop)(e:Ending)(w':World):Prop:=e=.returned l/\∃V' a,lJ b cb c d f g hd own i j k params V' a w'/\mJ cb V w V' w'/\Q a
def run_append_nil{j:Type}{P}{w:World}(t)(l:TypeId)(e i z)(size c:Nat)(m:P.underlying t=some (.slice e))(hi:P.info? e=some i)(hz:i.zero=some z)
  (B:i.size=size) (C:i.bytes=c) (D:z.cells.size=size) {R:Rel j} (ok:kF R size) {S:Nat->Prop} {ys:List j} {v2:Value}
  (d:jT R S w v2 ys) (E:∀w' r a,w.grownBy w' none->R S w r a->R (Nw w w') w' r a) (aa:ys.length<=maxLen) (F:ys.length*c<=140737488355328):
  ∃n p w',(Builtin.append_ #[t,t] l #[Nl,v2]).run P w=.ok (.slice n ys.length p) w'/\jT R (Nw w w') w' (.slice n ys.length p) ys/\w.grownBy w' none:=by
 by_cases hy:ys=[]
 .subst hy;obtain⟨q,c2,f,rfl,_⟩:=d;refine⟨none,0,w,?_,jT.nil _ _ _,World.grownBy.refl w none⟩;cases q<;>simp[Builtin.append_,Rs m,sizeOf,typeInfo,hi,Builtin.lenOf,Builtin.firstCells,loadCells,loadCellsFrom]
 .obtain⟨q,c2,G,I,ab,ac,J,K⟩:=id d;subst I;have L:G.flatten≠[]:=by
   intro e;have:=kJ.flat (k:=size) (λr x h=>ok.len h) K;rw[e]at this;have hp:=ok.pos;have:ys.length=0:=by have s:ys.length*size=0:=(by simpa using this.symm);rcases R6.1 s with h|h;exact h;omega
   exact hy (PT this)
  obtain⟨M,N,rfl,_,_⟩:=J L;obtain⟨f,ad,_,O,Q,T,U⟩:=d.cells ok;have ae:0<ys.length:=Rg.2 hy;obtain⟨af,w',V,v,hg,_,_⟩:=RP (P:=P) (w:=w) w t l e i z size c m hi hz B C D ok.pos (Nl) 0 [] (QX _ _ _ _) ⟨M,N,none⟩ ys.length c2 f.flatten O T U SE (by rw[Pk];exact F) (O9 _);have y:w.grownBy w' none:=hg;rw[Pk,QJ]at v;rcases v.2 with⟨rfl,s⟩|⟨g,W,ag,rfl,hb,A,X,Y,ah,Z⟩
  omega;refine⟨_,_,w',V,⟨_,W,f,rfl,X,Y,λ_=>⟨g,0,rfl,⟨hb,(O3.1 A).1⟩,λai u b=>?_⟩,Q.imp λr a hr=>E w' r a y hr⟩,y⟩;rw[<-Z,Ql]at b;split at b;rw[Pk];simp only[World.cell?,A];simpa using b;cases b
def KG.set{a}{o:Nat}{C C' b x}(h:KG a o C b x)(i:Nat)(u)(hc:C.setIfInBounds i u=C'):KG a o C' b (x.setCell ⟨o,i,none⟩ u):=
 ⟨jR h.g (jY x o i u),by rw[<-hc];exact jO h.c,h.lt⟩
def kf.FW{a:Type}{R:Rel a}{T k:Nat}(ok:kF R k){P w}{lo:Nat}{v}{xs:List a}(h:kf R T k P w lo v xs){o i:Nat}{u}(c:∀b,P b->b≠o)(g:o<lo):kf R T k P (w.setCell ⟨o,i,none⟩ u) lo v xs:=by have d:=h.ge;exact h.grown ok (jY w o i u) (λz e=>by injection e with e;subst e;exact⟨λhb=>c _ hb rfl,λf=>SC ((d _ f.symm).1)⟩)
def IP:(prog.info? 125).map (λi=>(i.zero,i.size,i.bytes))=some (some (.agg #[Em,Nl,Nl]),3,64):=SH
def Gt(o:Nat)(w:World):Nat->Prop:=λb=>o<b/\b<w
abbrev ka(a b c d e f g):=(#[tx a,.slice b c d,.slice e f g]:Array Go.Value)
abbrev mc(a b c):=(.cells #[.slice a b c] 118:Go.Obj)
abbrev qv:=(.cells #[Em,Nl,Nl,Nl] 60:Go.Obj)
def ke.nx(n:Int):Bool:=(n==32)||(n==9)||(n==10)||(n==13)
def ke.mL(p c l):pre p (c::l)=if p c.toNat then pre p l+1 else 0:=by unfold pre;rw[List.takeWhile_cons];split<;>simp
def ke.Am(p):∀l k (h:k<l.length),k<=pre p l->p (l[k]).toNat=true->k+1<=pre p l
 |[],_,h,_,_=>absurd h (by simp)
 |c::l,0,_,_,hp=>by rw[mL,if_pos (by simpa using hp)];omega
 |c::l,k+1,h,hk,hp=>by
  rw[mL]at hk⊢;split at hk
  rename_i hc
  rw[if_pos hc];have:=Am p l k (by simpa using h) SE (by simpa using hp);omega;omega
def ke.Ao(p):∀l k (h:k<l.length),k<=pre p l->p (l[k]).toNat=false->pre p l=k
 |[],_,h,_,_=>absurd h SG
 |c::l,0,_,_,hp=>by rw[mL,if_neg (by simpa using hp)]
 |c::l,k+1,h,hk,hp=>by
  rw[mL]at hk⊢;split at hk
  rename_i hc
  rw[if_pos hc,Ao p l k (by simpa using h) SE (by simpa using hp)];omega
def ke.xX(p:Int->Bool)(s:ByteArray)(k:Nat)(h:k<s.size)(a:k<=pre p s.data.toList)(hp:p (s[k]).toNat=true):k+1<=pre p s.data.toList:=
 Am p _ k (by simpa using h) a (by simpa[ByteArray.getElem_eq_getElem_data]using hp)
def ke.xY(p:Int->Bool)(s:ByteArray)(k:Nat)(h:k<s.size)(a:k<=pre p s.data.toList)(hp:p (s[k]).toNat=false):pre p s.data.toList=k:=
 Ao p _ k (by simpa using h) a (by simpa[ByteArray.getElem_eq_getElem_data]using hp)
def ke.Ew(s:ByteArray)(k:Nat):(s.extract 0 k).data.toList=s.data.toList.take k:=by rw[ByteArray.data_extract,Array.toList_extract,List.extract_eq_take_drop];simp
def ke.oA(s:ByteArray)(h:0<s.size):s.data.toList.headD 0=s[0]:=by
 have a:0<s.data.toList.length:=by simpa using h
 rw[List.headD_eq_head?_getD,List.head?_eq_getElem?,List.getElem?_eq_getElem a,Option.getD_some];rfl
def oU(n:Int)(w):Calls prog 165 #[.int .u8 n] w λe w'=>e=.returned (.bool (ke.lX n))/\w=w':=by
 by_cases a:48<=n<;>by_cases b:n<=57;all_goals
  first
  |omega
  |(go_enter func165,ntmps165;go_wp2;go_ret;exact⟨by simp[ke.lX,a,b],rfl⟩)
def qM{k:Nat}(a:k<3):mm (kx k)=true:=by
 have h:k=0\/k=1\/k=2:=SE
 rcases h with rfl|rfl|rfl<;>decide+kernel
def ln.low{w}(h:ln w):3<w.heap.size/\8<w.heap.size/\4<w.heap.size:=⟨h.names.lt,h.lt.1,h.lt.2⟩
def ln.to{w w'}(h:ln w)(hb:Below w w w'):ln w':=h.jQ hb h.low
def wF:shapes.length=24:=SF
def um:forms.length=11:=SF
def mo{B:Nat}{a w}(h:Below B a w)(n:Nat):Below B a (w.drewN n):=⟨h.os,h.tape,h.output,h.size,h.B⟩
def Ce(d:Nat):Prop:=∀(S:Nat->Prop) (w:World) (op n:Int) (name:List UInt8) (A:Option Addr) (m c:Nat) (args:List Ex),jT (ko .u8 d) S w (.slice A m c) args->m<=2->(∀a∈args,lT d a)->d<=6->(∀q,S q->q<w)->
 Calls prog 173 #[.agg #[.int .u8 op,tx name,n,.slice A m c]] w (λe w'=>∃r:Nat,e=.returned (.int .i64 (r:Int))/\r<=d+1/\Below w w w')
def kT.DL{d:Nat}{l}{n:Nat}(h:ku (d+1) l<=n){x}(hx:x∈l):ku d x.th<=n/\ku d x.el<=n:=(pw h).2 x hx
def zt:mg 172:=λ_ _=>SH
def Dy(g:FuncId):Prop:=∀(S:Nat->Prop) (w:World) (a:Option Addr) (b c1:Nat) (c:Option Addr) (d c2:Nat) (h:Hd),ln w->jT kh S w (.slice a b c1) h.params->jT (kp .u8 Ds) S w (.slice c d c2) h.body->uH h->(∀q,S q->q<w)->Calls prog g #[.agg #[tx h.name,.slice a b c1,.slice c d c2]] w (kd (.bool true) w)
def Ga(w:World)(h:Hd)(a:Option Addr)(b c1:Nat)(c:Option Addr)(d c2:Nat):Below w w (w.alloc (.cells (ka h.name a b c1 c d c2) 125)):=Ba _ _
def mj{S b w}{cb:Nat}{d f g i hd own j k l params V}{m:List In}(h:lJ b cb d f g i hd own j k l params V m w)(hf:∀q,S q->q<b.heap.size/\q≠cb){v}(hv:nC S b v)(s:List UInt8):
  Calls prog 93 #[v,tx s] w λe w'=>∃r:Int,e=.returned (.int .i64 r)/\w=w':=by
 obtain⟨A,n,c,xs,rfl,hs,hn⟩:=hv;refine(uo S w A n c xs s (hs.jP kh.ok λq a=>h.old (hf q a).1 (hf q a).2) hn λq a=>O1 (hf q a).1 h.g.size).M ?_;rintro e w' ⟨r,he,_,hw⟩;exact⟨r,he,hw⟩
def kT.pI:Nat->Nat|0=>0|d+1=>2*pI d+1
def lJ.form{b}{cb:Nat}{d e f g hd own i j k params V}{a:List In}{w}(h:lJ b cb d e f g hd own i j k params V a w):∃A c,V=.slice A a.length c:=by obtain⟨A,c,l,_⟩:=h.own.form;exact⟨A,c,l⟩
def Cf(d:Nat):Prop:=∀(S:Nat->Prop) (a w:World) (cb:Nat) (g i j k hd own b c e params V:Value) (f:List In) (op n:Int) (name:List UInt8) (l:Option Addr) (m c1:Nat) (args:List Ex) (d':Nat),d=d'+1->lJ a cb g i j k hd own b c e params V f w->yP S a cb b c e params->jT (ko .u8 d') S a (.slice l m c1) args->lT d (.mk op name n args)->f.length+pI d<=100000->
 Calls prog 217 #[.pointer cb,.agg #[.int .u8 op,tx name,n,.slice l m c1]] w (ub a cb g i j k hd own b c e params V w (.tuple #[]) (qU f (pI d)))
def zf(d:Nat):Prop:=∀(S:Nat->Prop) (b w:World) (cb:Nat) (j k l m hd own c f g params V:Value) (i:List In) (n:Option Addr) (a c1:Nat) (args:List Ex),lJ b cb j k l m hd own c f g params V i w->yP S b cb c f g params->jT (ko .u8 d) S b (.slice n a c1) args->(∀e∈args,lT d e)->i.length+a*pI d<=100000->a<=1000->
 Calls prog 203 #[.pointer cb,.slice n a c1] w (ub b cb j k l m hd own c f g params V w (.tuple #[]) (qU i (a*pI d)))
def kT.uW(x:In):List Go.Value:=[.int .u8 x.op,.int .i64 x.a,.int .i64 x.b,.int .i64 x.n]
def kT.IV(b:List In)(i:Nat)(x:In)(h:b[i]?=some x)(a:Nat)(u:Go.Value)(hu:(uW x)[a]?=some u):((b.map uW).flatten)[i*4+a]?=some u:=by
 induction b generalizing i with
 |nil=>simp at h
 |cons c ys d=>
  have e:a<4:=(List.getElem?_eq_some_iff.1 hu).1;cases i with
  |zero=>simp only[List.getElem?_cons_zero,Option.some.injEq]at h;subst h;rw[List.map_cons,List.flatten_cons,List.getElem?_append_left (by show 0*4+a<4;omega)];simpa using hu
  |succ i=>rw[List.map_cons,List.flatten_cons,List.getElem?_append_right (by show 4<=_;omega),show(i+1)*4+a-(uW c).length=i*4+a by show(i+1)*4+a-4=_;omega];exact d i (by simpa using h)
def DM{w S}:∀{a:List (List Value)} {b:List In},kJ (xr S w) a b->a=b.map uW
 |[],[],_=>rfl
 |r::rs,x::xs,⟨h1,h2⟩=>by rw[PF,<-DM h2];exact PL (·::rs) h1
 |[],_::_,h=>h.elim
 |_::_,[],h=>h.elim
def DN{w S}:∀(a:List In),kJ (xr S w) (a.map uW) a
 |[]=>trivial
 |_::xs=>⟨rfl,DN xs⟩
abbrev tg:=(#[.agg #[Em,Nl,Nl],false]:Array Go.Value)
abbrev sE:=(.cells #[Em,Nl,Nl] 125:Go.Obj)
abbrev we:=(#[.int .u8 1,Em,.int .i64 0]:Array Go.Value)
structure Bd(bb cb:Nat)(AF:Option Addr)(nf cf:Nat)(AV:Option Addr)(nv cv:Nat)(AP:Option Addr)(np cp:Nat)(o0 o1 o2:Value)(pl:ByteArray)(cnt:Nat)(w:World):Prop where
 kt:w.heap[bb]?=some (.cells #[.pointer cb,.slice AF nf cf,.slice AV nv cv,.slice AP np cp,o0,o1,o2,.string pl,cnt] 318)
def oB(S w m a b sc c)(d f:Nat)(g)(i cv:Nat)(j)(k l:Nat)(n cb:Nat)(r s t:Value)(u:ByteArray)(v:Nat)(name:List UInt8)(x:Va)(h:rb S w m a b sc c d f g i cv j k l)
  (hb:Bd n cb c d f g i cv j k l r s t u v w) (hm:name∉b) (hx:(a.find? λx=>x.name==name)=some x):
  Calls prog 214 #[.pointer n,tx name] w (kd (.int .u8 x.ty) w):=by
 have p:=(rI S w m a b sc c d f g i cv j k l name h)
 rw[Pn hm,hx]at p;have y:=jN hb.kt 1;have z:=jN hb.kt 2;have A:=jN hb.kt 3
 go_enter func214,ntmps214
 go_wp21;apply p.M;rintro e B ⟨rfl,q⟩;simp only[pj];go_wp21;go_ret;exact⟨rfl,q.alloc q.size _⟩
def kT.Gs{d:List Nat}{f:List (List Hd)}(g:∀hs∈f,∀k h,hs[k]?=some h->∃a,d[k]?=some a/\h.name=nm 104 k/\h.params=pW 112 a)(v:d.length<=3)(hex:∃hs∈f,hs.length=d.length){k a:Nat}(i:d[k]?=some a):
  ∃h,(f.flatten.find? λx=>x.name==nm 104 k)=some h/\h.params=pW 112 a:=by
 obtain⟨hs,hm,w⟩:=hex;have y:=(List.getElem?_eq_some_iff.1 i).1;obtain⟨j,l⟩:∃x,hs[k]?=some x:=Gx SE;obtain⟨_,_,n,_⟩:=g hs hm k j l;cases hf:f.flatten.find? λx=>x.name==nm 104 k with
 |none=>rw[List.find?_eq_none]at hf;exact absurd (by rw[n];simp) (hf j (List.mem_flatten.2 ⟨hs,hm,List.mem_of_getElem? l⟩))
 |some h=>
  refine⟨h,rfl,?_⟩;have b:=List.find?_some hf;obtain⟨p,q,r⟩:=List.mem_flatten.1 (List.mem_of_find?_eq_some hf);obtain⟨m,s⟩:=List.getElem?_of_mem r;obtain⟨z,c,t,u⟩:=g p q m h s;rw[t]at b;simp only[beq_iff_eq]at b;have A:=(List.getElem?_eq_some_iff.1 c).1;have e:m=k:=by unfold nm at b;injection b with _ b;injection b with b _;have:=congrArg UInt8.toNat b;simp at this;omega
  subst e;rw[i]at c;injection c with c;rw[u,c]
def sS{w:World}{b:Nat}{a v1 v2 c v4 d e f g:Value}{t:TypeId}(h:w.heap[b]?=some (.cells #[a,v1,v2,c,v4,d,e,f,g] t)):
  w.cell? b=some a/\w.cell? ⟨b,1,none⟩=some v1/\w.cell? ⟨b,2,none⟩=some v2/\w.cell? ⟨b,3,none⟩=some c/\w.cell? ⟨b,4,none⟩=some v4/\w.cell? ⟨b,5,none⟩=some d/\w.cell? ⟨b,6,none⟩=some e/\w.cell? ⟨b,7,none⟩=some f/\w.cell? ⟨b,8,none⟩=some g:=
 ⟨jN h 0,jN h 1,jN h 2,jN h 3,jN h 4,jN h 5,jN h 6,jN h 7,jN h 8⟩
def zg(w:World)(e:Ending)(w':World):Prop:=e=.returned (.tuple #[])/\Below w w w'
def kT.AA{d:Nat}:∀l k,ku d (l.take k)<=ku d l
 |l,k=>by
  cases d with
  |zero=>simp[ku]
  |succ d=>have e:=congrArg (ku (d+1)) (List.take_append_drop k l);have:∀a b:List St,ku (d+1) (a++b)=ku (d+1) a+ku (d+1) b:=(by intro a b;simp[ku]);rw[this]at e;omega
abbrev tm(a b c d e f g h i j k l m n):=(#[.pointer a,.slice b c d,.slice e f g,.slice h i j,tx k,.slice e f g,.slice l m n,Em,.int .i64 0]:Array Go.Value)
def I1(x a:Lk)(c:Nat)(w:World)(e:w.cell? c=some (tx a.a))(f:w.cell? ⟨c,1,none⟩=some (tx a.b))(hb:c<w)(d:(x.a,x.b)≠(a.a,a.b)):
  Calls prog 141 #[.agg #[tx x.a,tx x.b,x.sD],.pointer c] w (kd (.bool false) w):=by
 have g:=mA x.a;have i:=mA x.b;have j:=mA a.a;have k:=mA a.b;by_cases b:x.a=a.a
 .have l:(x.b==a.b)=false:=by rw[RQ];intro h;exact d (by rw[b,eq_of_beq h])
  have b:(x.a==a.a)=true:=by simp[b]
  go_enter func141,ntmps141
  go_wp2;go_ret;exact⟨rfl,Ba _ _⟩
 .have b:(x.a==a.a)=false:=by rw[RQ];intro h;exact b (eq_of_beq h)
  go_enter func141,ntmps141
  go_wp2;go_ret;exact⟨rfl,Ba _ _⟩
def lv.qo{S w r c}(h:lv .u8 S w r c):∃a d c1 b e c2,r=[tx c.name,.slice a d c1,.slice b e c2]/\jT (nz .u8) S w (.slice a d c1) c.vars/\jT (mr .u8) S w (.slice b e c2) c.kS:=by obtain⟨v1,v2,rfl,f,g⟩:=h;obtain⟨a,c1,rfl,_⟩:=f.form;obtain⟨b,c2,rfl,_⟩:=g.form;exact⟨_,_,_,_,_,_,rfl,f,g⟩
def lF.qo{S w r c}(h:lF .u8 S w r c):∃a d c1 b e c2,r=[tx c.name,.slice a d c1,.slice b e c2]/\jT kh S w (.slice a d c1) c.params/\jT (kp .u8 Ds) S w (.slice b e c2) c.body:=by obtain⟨v1,v2,rfl,f,g⟩:=h;obtain⟨a,c1,rfl,_⟩:=f.form;obtain⟨b,c2,rfl,_⟩:=g.form;exact⟨_,_,_,_,_,_,rfl,f,g⟩
def mr.qo{S w r l}(h:mr .u8 S w r l):∃a b c1,r=[.slice a b c1]/\jT (lF .u8) S w (.slice a b c1) l:=by obtain⟨v1,rfl,c⟩:=h;obtain⟨a,c1,rfl,_⟩:=c.form;exact⟨_,_,_,rfl,c⟩
def OV:pI De=63:=rfl
abbrev qS:=(.cells #[.int .i64 0,.int .i64 0,Nl] 223:Go.Obj)
def xw(k:Nat):Rel Unit:=λ_ _ r _=>r.length=k/\∀u∈r,u.oneCell'=true
def tE(a b:Value):Prop:=∀z,a.ownBlock=some z->b.ownBlock≠some z
def su(a x:World)(V:Value)(n:Nat):Prop:=∃xs,kf kh 9 1 (λ_=>False) x a V xs/\xs.length<=n
def Ch{a b}(h:tE a b):∀z,a.ownBlock=some z->some z≠b.ownBlock:=λz hz e=>h z hz e.symm
def zi{a b}(h:tE a b):∀z,b.ownBlock=some z->some z≠a.ownBlock:=λz hz e=>h z e.symm hz
def N4:Value:=.agg #[Em,Em,.int .i64 0]
def tj:prog.underlying 167=some (.pointer 169):=SH
def CU:∀k x,shapes[k]?=some x->((k=6\/k=7\/k=9\/k=10)->x.1=1)/\((k≠1/\k≠5/\k≠6/\k≠7/\k≠8/\k≠9/\k≠10)->x.1=0\/x.1=2):=by
 intro k x h;have a:=(Pm.1 h).1;rw[wF]at a;have b:∀k:Fin 24,∀x,shapes[k.val]?=some x->((k.val=6\/k.val=7\/k.val=9\/k.val=10)->x.1=1)/\((k.val≠1/\k.val≠5/\k.val≠6/\k.val≠7/\k.val≠8/\k.val≠9/\k.val≠10)->x.1=0\/x.1=2):=by intro k x hx;have hb:∀k:Fin 24,((k.val=6\/k.val=7\/k.val=9\/k.val=10)->(shapes[k.val]?.map (·.1))=some 1)/\((k.val≠1/\k.val≠5/\k.val≠6/\k.val≠7/\k.val≠8/\k.val≠9/\k.val≠10)->(shapes[k.val]?.map (·.1))=some 0\/(shapes[k.val]?.map (·.1))=some 2):=SF;have:=hb k;rw[hx]at this;simpa using this
 exact b ⟨k,a⟩ x h
def Ck(n:Nat)(h:n<=1000):IntKind.i64.wrap ((n:Int)+1)=((n+1:Nat):Int)/\IntKind.i64.wrap (((n+1:Nat):Int)-1)=(n:Int):=by constructor<;>simp[IntKind.wrap,IntKind.bits,IntKind.signed]<;>omega
def EZ:∀k x,forms[k]?=some x->((k=1\/k=3\/k=4\/k=5\/k=7\/k=9)->1<=x.2.2.1)/\((k=2\/k=8)->2<=x.2.2.1):=by
 intro k x h;have a:=(Pm.1 h).1;rw[um]at a;have hb:∀k:Fin 11,((k.val=1\/k.val=3\/k.val=4\/k.val=5\/k.val=7\/k.val=9)->((forms[k.val]?.map (·.2.2.1)).getD 0>=1))/\((k.val=2\/k.val=8)->((forms[k.val]?.map (·.2.2.1)).getD 0>=2)):=SF
 have:=hb ⟨k,a⟩;simp only[h,RD,Ry]at this;exact this
def E4:mg 62:=λ_ _=>SH
def Kh(k:Int):Nat:=(bits BinOp.and IntKind.u64 (IntKind.u64.wrap (IntKind.i64.wrap (-k))) 31).toNat
def yY:prog.arrayLen 238=64:=SH
def GC:prog.underlying 238=some (.array (prog.arrayLen 238) (prog.elem 238)):=SH
def KV(x:Int):0<=IntKind.u64.wrap x:=SI
def Ki:Value->Int
 | .int _ x=>x
 |_=>0
abbrev sA:Array Value:=#[.int .u8 0,.int .u8 0,.int .u8 0,.int .u8 0,.int .u8 0,.int .u8 0,.int .u8 0,.int .u8 0,.int .u8 0,.int .u8 0,.int .u8 0,.int .u8 0,.int .u8 0,.int .u8 0,.int .u8 0,.int .u8 0,.int .u8 0,.int .u8 0,.int .u8 0,.int .u8 0,.int .u8 0,.int .u8 0,.int .u8 0,.int .u8 0,.int .u8 0,.int .u8 0,.int .u8 0,.int .u8 0,.int .u8 0,.int .u8 0,.int .u8 0,.int .u8 0]
def zero32:(sA:Array Value)=Array.replicate 32 (.int .u8 0):=SH
def cmpL:List Int->List Int->Int
 |[],[]=>0
 |[],_::_=> -1
 |_::_,[]=>1
 |x::xs,y::ys=>if Lib.compareInt x y=0 then cmpL xs ys else Lib.compareInt x y
def kq(a b:List UInt8):(⟨a.toArray⟩:ByteArray)++⟨b.toArray⟩=⟨(a++b).toArray⟩:=by apply ByteArray.ext;simp[ByteArray.data_append]
def Hm(x a:Int)(xs):Lib.join ((x::a::xs).map Lib.itoa) [44,32]=Lib.itoa x++([44,32]++Lib.join ((a::xs).map Lib.itoa) [44,32]):=by rw[PF,Lib.join_cons,PF,Lib.join_cons];simp[Lib.joinTail]
def pG.wm:List (List UInt8):=[[45],[110,111,116],[116,114,117,101],[102,97,108,115,101],[110,111,119],[115,105,122,101],[104,97,115],[40]]
structure PV where
 v1:Value
 v2:Value
 v3:Value
 v4:Value
 lo:Nat
def pG.src:List UInt8:=[102,108,101,101,116,32,102,32,123,32,102,108,97,103,32,115,108,111,119,32,61,32,102,97,108,115,101,59,32,99,111,109,112,111,110,101,110,116,32,102,114,111,110,116,32,123,32,111,110,32,104,40,41,32,123,32,115,101,110,100,32,98,97,99,107,46,103,101,116,40,49,44,32,55,41,59,32,125,32,125,32,99,111,109,112,111,110,101,110,116,32,98,97,99,107,32,123,32,111,110,32,103,101,116,40,105,44,32,106,41,32,123,32,125,32,125,32,125]
def Gi:List UInt8:=[116,52,32,111,112,101,114,97,116,111,114,58,32,102,108,97,103,32,115,108,111,119,32,61,32,116,114,117,101,32,40,99,104,111,105,99,101,32,48,41]
def narrateKeys.GM:laidOutB Tryz.pinned.checked.prog=true:=by kernel_rfl
def narrateKeys.Lt:mapsRowed Tryz.pinned.checked.prog=true:=by kernel_rfl
def narrateKeys.FJ:(Rows.narrateKeysRow.inPlace==Tryz.pinned.checked.prog.inPlace 3)=true:=by kernel_rfl
def narrateKeys.Mr:(Rows.narrateKeysRow.recurses==Tryz.pinned.checked.prog.recurses 3)=true:=by kernel_rfl
def narrateKeys.Mt:Tryz.pinned.checked.prog.mayEnter=true:=by kernel_rfl
def narrateKeys.H7:(Rows.narrateKeysRow.lifted==Tryz.pinned.checked.prog.liftsFinal)=true:=by kernel_rfl
def narrateKeys.Lu:(Tryz.pinned.checked.prog.make==some Rows.narrateKeysRow.make)=true:=by kernel_rfl
end Go.Proofs.YtjoamapacifofaaGreatDoor
namespace Go.Proofs
open Go.Shelf
open Go.RowKit in
open Go.RowKit in
open Go.RowKit in
def Tryz.uO:Go.Shelf.Ren:=⟨fun|156=>85|165=>132|166=>97|169=>58|240=>148|241=>181|276=>190|277=>199|n=>n,fun|31=>78|9=>9|3=>3|4=>4|0=>0|20=>20|72=>169|76=>229|70=>167|37=>22|75=>228|127=>233|164=>328|5=>5|80=>174|n=>n,fun|n=>n⟩
def Tryz.tG:Go.Proofs.Lays.n156 Tryz.prog Tryz.uO:={
 mixed:=by kernel_rfl
 f156:=Tryz.func85.trans (congrArg some (by kernel_rfl))
 f165:=Tryz.func132.trans (congrArg some (by kernel_rfl))
 f166:=Tryz.func97.trans (congrArg some (by kernel_rfl))
 f169:=Tryz.func58.trans (congrArg some (by kernel_rfl))
 f240:=Tryz.func148.trans (congrArg some (by kernel_rfl))
 f241:=Tryz.func181.trans (congrArg some (by kernel_rfl))
 f276:=Tryz.func190.trans (congrArg some (by kernel_rfl))
 f277:=Tryz.func199.trans (congrArg some (by kernel_rfl))
 t0:=Tryz.underlying0
 a0:=Tryz.isAgg0
 z0:=Tryz.sizeOf0
 v0:=Tryz.zeroValue0
 t3:=Tryz.underlying3
 a3:=Tryz.isAgg3
 z3:=Tryz.sizeOf3
 v3:=Tryz.zeroValue3
 t4:=Tryz.underlying4
 a4:=Tryz.isAgg4
 z4:=Tryz.sizeOf4
 v4:=Tryz.zeroValue4
 t9:=Tryz.underlying9
 a9:=Tryz.isAgg9
 z9:=Tryz.sizeOf9
 v9:=Tryz.zeroValue9
 t20:=Tryz.underlying20
 a20:=Tryz.isAgg20
 z20:=Tryz.sizeOf20
 v20:=Tryz.zeroValue20
 t31:=Tryz.underlying78
 a31:=Tryz.isAgg78
 z31:=Tryz.sizeOf78
 v31:=Tryz.zeroValue78
 t37:=Tryz.underlying22
 a37:=Tryz.isAgg22
 z37:=Tryz.sizeOf22
 v37:=Tryz.zeroValue22
 t70:=Tryz.underlying167
 a70:=Tryz.isAgg167
 z70:=Tryz.sizeOf167
 v70:=Tryz.zeroValue167
 t72:=Tryz.underlying169
 a72:=Tryz.isAgg169
 z72:=Tryz.sizeOf169
 v72:=Tryz.zeroValue169
 t75:=Tryz.underlying228
 a75:=Tryz.isAgg228
 z75:=Tryz.sizeOf228
 v75:=Tryz.zeroValue228
 t76:=Tryz.underlying229
 a76:=Tryz.isAgg229
 z76:=Tryz.sizeOf229
 v76:=Tryz.zeroValue229
 t127:=Tryz.underlying233
 a127:=Tryz.isAgg233
 z127:=Tryz.sizeOf233
 v127:=Tryz.zeroValue233
 t164:=Tryz.underlying328
 a164:=Tryz.isAgg328
 z164:=Tryz.sizeOf328
 v164:=Tryz.zeroValue328}
def Tryz.pV:Builder.Extra Tryz.prog Tryz.uO:={
 sizeBuilder:=by kernel_rfl
 liesBuilder:=by kernel_rfl
 t5:=Tryz.underlying5
 a5:=Tryz.isAgg5
 z5:=Tryz.sizeOf5
 v5:=Tryz.zeroValue5
 infoByte:=by kernel_rfl
 cellsByte:=by kernel_rfl
 sizeByte:=by kernel_rfl
 neB5:=by decide}
open Go.RowKit in
def Tryz.strings_Join_none(a:Option Addr)(c:Nat)(sep:ByteArray)(w:World):
 Calls Tryz.prog 85 #[.slice a 0 c,.string sep] w fun e w'=>e=.returned (.string ⟨#[]⟩)∧w'=w:=Any.strings_Join_none Tryz.tG Tryz.pV a c sep w
open Go.RowKit in
def Tryz.strings_Join(bk o c:Nat)(xs:List ByteArray)(sep:ByteArray)(w:World)(KB:∀(j:Nat) x,xs[j]?=some x→w.cell? ⟨bk,o+j,none⟩=some (.string x))(OS:bk<w.heap.size)(hN:xs.length≤140737488355328)(Ng:xs.length≤c)(hlen:(Lib.join (xs.map (·.data.toList)) sep.data.toList).length≤140737488355328):
 Calls Tryz.prog 85 #[.slice (some ⟨bk,o,none⟩) xs.length c,.string sep] w fun e w'=>e=.returned (.string ⟨(Lib.join (xs.map (·.data.toList)) sep.data.toList).toArray⟩)∧Below w.heap.size w w':=Any.strings_Join Tryz.tG Tryz.pV bk o c xs sep w KB OS hN Ng hlen
def Tryz.Bt:Go.Shelf.Ren:=⟨fun|121=>49|214=>84|n=>n,fun|4=>4|9=>9|n=>n,fun|n=>n⟩
def Tryz.IW:Go.Proofs.Lays.n121 Tryz.prog Tryz.Bt:={Tryz.tG with f121:=Tryz.func49.trans (congrArg some (by kernel_rfl)),f214:=Tryz.func84.trans (congrArg some (by kernel_rfl))}
open Go.RowKit in
def Tryz.strconv_FormatBool(b:Bool)(w:World):
 Calls Tryz.prog 49 #[.bool b] w fun e w'=>e=.returned (.string ⟨(Lib.formatBool b).toArray⟩)∧w'=w:=Any.strconv_FormatBool Tryz.IW b w
def Tryz.Bu:Go.Shelf.Ren:=⟨fun|122=>128|215=>178|n=>n,fun|3=>3|4=>4|n=>n,fun|n=>n⟩
def Tryz.IX:Go.Proofs.Lays.n122 Tryz.prog Tryz.Bu:={Tryz.tG with f122:=Tryz.func128.trans (congrArg some (by kernel_rfl)),f215:=Tryz.func178.trans (congrArg some (by kernel_rfl))}
open Go.RowKit in
def Tryz.cmp_Compare_int(x y:Int)(w:World):
 Calls Tryz.prog 128 #[.int .i64 x,.int .i64 y] w fun e w'=>e=.returned (.int .i64 (Lib.compareInt x y))∧w'=w:=Any.cmp_Compare_int Tryz.IX x y w
def Tryz.oP:Go.Shelf.Ren:=⟨fun|171=>15|243=>35|246=>69|283=>104|284=>105|285=>106|286=>107|129=>154|317=>153|318=>155|319=>156|320=>157|337=>193|338=>194|173=>48|n=>n,fun|171=>243|53=>129|37=>22|173=>246|212=>288|51=>236|213=>289|46=>242|232=>102|233=>238|n=>n,fun|17=>1|18=>6|19=>7|n=>n⟩
def Tryz.vX:Go.Proofs.LaysM.n171 Tryz.prog Tryz.oP:={
 mixed:=by kernel_rfl
 f129:=Tryz.func154.trans (congrArg some (by kernel_rfl))
 f171:=Tryz.func15.trans (congrArg some (by kernel_rfl))
 f243:=Tryz.func35.trans (congrArg some (by kernel_rfl))
 f246:=Tryz.func69.trans (congrArg some (by kernel_rfl))
 f283:=Tryz.func104.trans (congrArg some (by kernel_rfl))
 f284:=Tryz.func105.trans (congrArg some (by kernel_rfl))
 f285:=Tryz.func106.trans (congrArg some (by kernel_rfl))
 f286:=Tryz.func107.trans (congrArg some (by kernel_rfl))
 f317:=Tryz.func153.trans (congrArg some (by kernel_rfl))
 f318:=Tryz.func155.trans (congrArg some (by kernel_rfl))
 f319:=Tryz.func156.trans (congrArg some (by kernel_rfl))
 f320:=Tryz.func157.trans (congrArg some (by kernel_rfl))
 f337:=Tryz.func193.trans (congrArg some (by kernel_rfl))
 f338:=Tryz.func194.trans (congrArg some (by kernel_rfl))
 t0:=Tryz.underlying0
 a0:=Tryz.isAgg0
 z0:=Tryz.sizeOf0
 v0:=Tryz.zeroValue0
 t2:=Tryz.underlying2
 a2:=Tryz.isAgg2
 z2:=Tryz.sizeOf2
 v2:=Tryz.zeroValue2
 t3:=Tryz.underlying3
 a3:=Tryz.isAgg3
 z3:=Tryz.sizeOf3
 v3:=Tryz.zeroValue3
 t4:=Tryz.underlying4
 a4:=Tryz.isAgg4
 z4:=Tryz.sizeOf4
 v4:=Tryz.zeroValue4
 t5:=Tryz.underlying5
 a5:=Tryz.isAgg5
 z5:=Tryz.sizeOf5
 v5:=Tryz.zeroValue5
 t9:=Tryz.underlying9
 a9:=Tryz.isAgg9
 z9:=Tryz.sizeOf9
 v9:=Tryz.zeroValue9
 t20:=Tryz.underlying20
 a20:=Tryz.isAgg20
 z20:=Tryz.sizeOf20
 v20:=Tryz.zeroValue20
 t37:=Tryz.underlying22
 a37:=Tryz.isAgg22
 z37:=Tryz.sizeOf22
 v37:=Tryz.zeroValue22
 t46:=Tryz.underlying242
 a46:=Tryz.isAgg242
 z46:=Tryz.sizeOf242
 v46:=Tryz.zeroValue242
 t51:=Tryz.underlying236
 a51:=Tryz.isAgg236
 z51:=Tryz.sizeOf236
 v51:=Tryz.zeroValue236
 t53:=Tryz.underlying129
 a53:=Tryz.isAgg129
 z53:=Tryz.sizeOf129
 v53:=Tryz.zeroValue129
 t171:=Tryz.underlying243
 a171:=Tryz.isAgg243
 z171:=Tryz.sizeOf243
 v171:=Tryz.zeroValue243
 t173:=Tryz.underlying246
 a173:=Tryz.isAgg246
 z173:=Tryz.sizeOf246
 v173:=Tryz.zeroValue246
 t212:=Tryz.underlying288
 a212:=Tryz.isAgg288
 z212:=Tryz.sizeOf288
 v212:=Tryz.zeroValue288
 t213:=Tryz.underlying289
 a213:=Tryz.isAgg289
 z213:=Tryz.sizeOf289
 t232:=Tryz.underlying102
 a232:=Tryz.isAgg102
 z232:=Tryz.sizeOf102
 v232:=Tryz.zeroValue102
 t233:=Tryz.underlying238
 a233:=Tryz.isAgg238
 z233:=Tryz.sizeOf238
 v233:=Tryz.zeroValue238
 g17:=by kernel_rfl
 g18:=by kernel_rfl
 g19:=by kernel_rfl
 i0:=by kernel_rfl
 i2:=by kernel_rfl
 i3:=by kernel_rfl
 i4:=by kernel_rfl
 i5:=by kernel_rfl
 i9:=by kernel_rfl
 i20:=by kernel_rfl
 i37:=by kernel_rfl
 i46:=by kernel_rfl
 i51:=by kernel_rfl
 i53:=by kernel_rfl
 i171:=by kernel_rfl
 i173:=by kernel_rfl
 i212:=by kernel_rfl
 i232:=by kernel_rfl
 i233:=by kernel_rfl
 m17:=by kernel_rfl
 m18:=by kernel_rfl
 m19:=by kernel_rfl}
open Go.RowKit Go.Sort Go.Lib in
def Tryz.strconv_Itoa(n:Int)(h0: -9223372036854775808≤n)(h1:n≤9223372036854775807)(w:World)(Kb:Lib.TabIs Tryz.prog w "internal/strconv.uint64pow10" .u64 Lib.pow10Tab):
 Calls Tryz.prog 15 #[.int .i64 n] w fun e w'=>e=.returned (.string ⟨(Lib.itoa n).toArray⟩)∧∃k os,w'=grow (w.drewN k) os:=Any.strconv_Itoa Tryz.vX n h0 h1 w Kb
def Tryz.IY:Go.Proofs.Lays.n171 Tryz.prog Tryz.oP:={Tryz.vX with}
open Go.RowKit Go.Sort Go.Lib in
def Tryz.strconv_Itoa_small(i:Nat)(hi:i<100)(w:World):
 Calls Tryz.prog 15 #[.int .i64 i] w fun e w'=>e=.returned (.string ⟨(Lib.decDigits i).toArray⟩)∧w'=w:=Any.strconv_Itoa_small Tryz.IY i hi w
def Tryz.Ay:Go.Proofs.LaysM.n173 Tryz.prog Tryz.oP:={Tryz.vX with f173:=Tryz.func48.trans (congrArg some (by kernel_rfl))}
open Go.RowKit Go.Sort Go.Lib in
def Tryz.strconv_FormatInt_10(n:Int)(h0: -9223372036854775808≤n)(h1:n≤9223372036854775807)(w:World)(Kb:Lib.TabIs Tryz.prog w "internal/strconv.uint64pow10" .u64 Lib.pow10Tab):
 Calls Tryz.prog 48 #[.int .i64 n,.int .i64 10] w fun e w'=>e=.returned (.string ⟨(Lib.itoa n).toArray⟩)∧∃k os,w'=grow (w.drewN k) os:=Any.strconv_FormatInt_10 Tryz.Ay n h0 h1 w Kb
def Tryz.IZ:Go.Proofs.Lays.n173 Tryz.prog Tryz.oP:={Tryz.Ay with}
open Go.RowKit Go.Sort Go.Lib in
def Tryz.strconv_FormatInt_10_small(i:Nat)(hi:i<100)(w:World):
 Calls Tryz.prog 48 #[.int .i64 i,.int .i64 10] w fun e w'=>e=.returned (.string ⟨(Lib.decDigits i).toArray⟩)∧w'=w:=Any.strconv_FormatInt_10_small Tryz.IZ i hi w
def Tryz.CJ:Go.Shelf.Ren:=⟨fun|99=>160|206=>195|n=>n,fun|9=>9|4=>4|3=>3|n=>n,fun|n=>n⟩
def Tryz.KC:Go.Proofs.Lays.n99 Tryz.prog Tryz.CJ:={Tryz.tG with f99:=Tryz.func160.trans (congrArg some (by kernel_rfl)),f206:=Tryz.func195.trans (congrArg some (by kernel_rfl))}
open Go.RowKit Go.Lib in
def Tryz.strings_HasPrefix(s p:ByteArray)(w:World):
 Calls Tryz.prog 160 #[.string s,.string p] w fun e w'=>e=.returned (.bool (Lib.hasPrefix s.data.toList p.data.toList))∧w'=w:=Any.strings_HasPrefix Tryz.KC s p w
open Go.Lib in
open Go.Lib in
open Go.Lib in
open Go.Lib in
def Tryz.xF:Go.Shelf.Ren:=⟨fun|16=>108|n=>n,fun|24=>78|9=>9|4=>4|n=>n,fun|n=>n⟩
def Tryz.ur:Go.Proofs.Lays2.n16 Tryz.prog Tryz.xF:={
 mixed:=by kernel_rfl
 f16:=Tryz.func108.trans (congrArg some (by kernel_rfl))
 t4:=Tryz.underlying4
 a4:=Tryz.isAgg4
 z4:=Tryz.sizeOf4
 v4:=Tryz.zeroValue4
 t9:=Tryz.underlying9
 a9:=Tryz.isAgg9
 z9:=Tryz.sizeOf9
 v9:=Tryz.zeroValue9
 t24:=Tryz.underlying78
 a24:=Tryz.isAgg78
 z24:=Tryz.sizeOf78
 v24:=Tryz.zeroValue78
 i9:=by kernel_rfl}
open Go.RowKit Go.Lib in
def Tryz.slices_Clone_string(b off n c:Nat)(zs:List ByteArray)(w:World)(hz:n≤zs.length)(Nh:n*16≤140737488355328)(hc:∀j,j<zs.length→w.cell? ⟨b,off+j,none⟩=some (.string (zs.getD j ByteArray.empty))):
 Calls Tryz.prog 108 #[.slice (some ⟨b,off,none⟩) n c] w fun e w'=>∃v',e=.returned v'∧w'.ownsRow w.heap.size 9 1 v' n ((zs.take n).map (Value.string))∧v'≠.slice none 0 0∧Below w.heap.size w w':=Any.slices_Clone_string Tryz.ur b off n c zs w hz Nh hc
open Go.RowKit Go.Lib in
def Tryz.slices_Clone_string_nil(n c:Nat)(w:World):
 Calls Tryz.prog 108 #[.slice none n c] w fun e w'=>e=.returned (.slice none 0 0)∧w'=w:=Any.slices_Clone_string_nil Tryz.ur n c w
open Go.RowKit Go.Lib in
def Tryz.slices_Clone_string_zero(a:Addr)(c:Nat)(w:World):
 Calls Tryz.prog 108 #[.slice (some a) 0 c] w fun e w'=>∃v',e=.returned v'∧w'.ownsRow w.heap.size 9 1 v' 0 []∧v'≠.slice none 0 0∧Below w.heap.size w w':=Any.slices_Clone_string_zero Tryz.ur a c w
end Go.Proofs
