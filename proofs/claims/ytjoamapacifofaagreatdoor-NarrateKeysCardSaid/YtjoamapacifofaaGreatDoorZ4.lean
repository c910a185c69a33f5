import Derived.Test.YtjoamapacifofaaGreatDoorZ1
set_option maxRecDepth 1000000
set_option maxHeartbeats 32000000
set_option linter.all false
namespace Go.Proofs.YtjoamapacifofaaGreatDoor
open RowKit Go.Proofs.Tryz kT Maps nu pG ChangeShapes WideShapes ChangeAt
def kJ.snoc{a:Type}{R:List Value->a->Prop}{r}{x:a}(hr:R r x):∀{b:List (List Value)} {xs:List a},kJ R b xs->kJ R (b++[r]) (xs++[x])
 |[],[],_=>⟨hr,trivial⟩
 |_::_,_::_,⟨h1,h2⟩=>⟨h1,kJ.snoc hr h2⟩
 |[],_::_,h=>h.elim
 |_::_,[],h=>h.elim
def kf.sl{c:Type}{R:Rel c}{T k:Nat}(ok:kF R k){P w}{lo:Nat}{v}{xs:List c}(h:kf R T k P w lo v xs):jT R (λb=>(P b\/lo<=b)/\b<w) w v xs:=by
 obtain⟨d,e,j⟩:=h.own;have f:=j.imp λr x hx=>ok.M hx (T:=λb=>(P b\/lo<=b)/\b<w) λb hb=>⟨.inl hb.1,hb.2.1⟩
 rcases e.2 with⟨rfl,i⟩|⟨g,l,p,rfl,hb,hg,hc,hm,q,m⟩
 refine⟨none,0,d,by rw[i],SE,SE,λn=>?_,f⟩;have:=e.1;rw[i,Ro]at this;exact absurd (PT this) n;refine⟨_,l,d,rfl,hc,hm,λ_=>⟨g,0,rfl,⟨.inr hb,(O3.1 hg).1⟩,λs u a=>?_⟩,f⟩;rw[Pk];rw[<-m,Ql]at a;split at a;simp only[World.cell?,hg];simpa using a;cases a
def kf.snoc{d:Type}{R:Rel d}{T k:Nat}(ok:kF R k){P:Nat->Prop}{w w6:World}{lo:Nat}{v c:Value}{xs:List d}{f:List (List Value)}{r:List Value}{x:d}{o:Obj}
  (g:kJ (R (λb=>P b/\b<w/\some b≠v.ownBlock) w) f xs) (hx:R (λb=>P b/\b<w/\some b≠v.ownBlock) w r x)
  (i:w6.ownsRow lo T k c (xs.length+1) (f.flatten++r)) (hg:(w.alloc o).grownBy w6 v.ownBlock) (a:c.ownBlock=v.ownBlock\/c.ownBlock=some (w.heap.size+1)):kf R T k P w6 lo c (xs++[x]):=by
 have j:=hg.size;rw[O4]at j;refine⟨f++[r],?_,?_⟩
 .rw[Pe];simpa using i
 .refine(kJ.snoc hx g).imp λr x hx=>ok.M (ok.jP hx λb hb=>?_) λb hb=>⟨hb.1,SE,λe=>?_⟩
  exact(hg.B b (by rw[O4];omega) (λe=>hb.2.2 e)).T (Ph w o hb.2.1);rcases a with a|a;exact hb.2.2 (e.T a);rw[a]at e;injection e with e;omega
def kj{f:Type}{P:Program}{w:World}{ops:Array Oper}{rest:List Oper}{o}{a:Act}{Q:Exit->Act->World->Prop}(q:o.guard=none)(s x:Operand)(t:TypeId)
  (y:o.op=.call {callee:=.builtin .append,args:=#[s,x],argTypes:=#[t,t]})
  (lo:Nat) (e:TypeId) (i:TypeInfo) (z:Value) (size g:Nat) (B:P.underlying t=some (.slice e)) (hi:P.info? e=some i) (hz:i.zero=some z)
  (C:i.size=size) (D:i.bytes=g) (E:z.cells.size=size)
  {R:Rel f} (ok:kF R size) (d:Nat->Prop) (v:Value) (xs:List f) (hs:a.eval s=v) (F:kf R e size d w lo v xs)
  (A:Addr) (r:List Value) (j:f) (hx:a.eval x=.slice (some A) 1 1) (G:∀m u,r[m]?=some u->w.cell? (A.add m)=some u)
  (hR:R (λb=>d b/\b<w/\some b≠v.ownBlock) w r j)
  (I:xs.length+1<=maxLen) (J:(xs.length+1)*g<=140737488355328) (L:lo<=w)
  (h:∀c w',kf R e size d w' lo c (xs++[j])->w.grownBy w' v.ownBlock->(c.ownBlock=v.ownBlock\/c.ownBlock=some w.heap.size)->wpList P ops Q rest (a.put o.dst c) w'):wpList P ops Q (o::rest) a w:=by
 obtain⟨n,M,N⟩:=F.own;obtain⟨c,w',O,S,k,_,p⟩:=RP (P:=P) w lo t o.type e i z size g B hi hz C D E ok.pos v xs.length n.flatten M A 1 1 r (by rw[ok.len hR];omega) G (ok.one hR) I J L;have T:kf R e size d w' lo c (xs++[j]):=by
  refine⟨n++[r],?_,?_⟩;rw[Pe];simpa using S;refine(kJ.snoc hR N).imp λr x hx=>ok.M (ok.jP hx λb hb=>k.B b hb.2.1 (λe=>hb.2.2 e)) λb hb=>⟨hb.1,O1 hb.2.1 k.size,λe=>?_⟩
  rcases p with l|l;exact hb.2.2 (e.T l);rw[l]at e;injection e with e;exact absurd hb.2.1 SE
 refine Sw q λK hK=>?_;unfold Oper.wp execOp;simp only[y,resolve,invoke,builtin,PQ,PR,PB,PI,PF,PS,hs,hx,O];exact hK _ _ (h c w' T k p)
def kT.GN(c)(n:Nat):pW c (n+1)=pW c n++[nm c n]:=by simp[pW,List.range_succ]
def lI(w:World)(a:List Value)(t:TypeId):∀b u,a[b]?=some u->(w.alloc (.cells a.toArray t)).cell? ((w:Addr).add b)=some u:=by
 intro b u d;have e:(w.alloc (.cells a.toArray t)).heap[w.heap.size]?=some (.cells a.toArray t (0,0)):=O2 w _;have c:=jU e b u (by simpa using d);unfold Addr.add;split
 rename_i h;subst h;exact c
 simpa using c
def rQ(a b:Int)(w):Calls prog 26 #[.int .i64 a,b] w λe w'=>e=.returned (.int .i64 (if a<b then a else b))/\w=w':=by
 by_cases h:a<b;all_goals
  go_enter func26,ntmps26
  go_wp2;go_ret;first|(rw[PJ h];exact⟨rfl,rfl⟩)|(rw[Pn h];exact⟨rfl,rfl⟩)|simp
def rz(S:Nat->Prop)(a:Nat)(sc:Sc)(left:Nat)(w:World)(e:Ending)(w':World):Prop:=∃k:Nat,k<sc.ints/\e=.returned (tx (nm 120 k))/\kr S w' a sc left/\w.grownBy w' (some a)
def kr.lR{S w}{a:Nat}{sc}{left:Nat}(h:kr S w a sc left){Z i:Nat}{u}(hz:Z≠a)(hS:∀b,S b->b≠Z):kr S (w.setCell ⟨Z,i,none⟩ u) a sc left:=by obtain⟨d,f,g,hb,j,hy⟩:=h.kt;have c:∀b,b≠Z->(w.setCell ⟨Z,i,none⟩ u).heap[b]?=w.heap[b]?:=λb hb=>Pd _ _ _ _ hb;exact⟨⟨d,f,g,(c a (λe=>hz e.symm)).T hb,j.jP pC.ok (λb hb=>c b (hS b hb)),hy.jP pX.ok (λb hb=>c b (hS b hb))⟩,λb hb=>⟨(h.kX b hb).1,by rw[O6];exact(h.kX b hb).2⟩⟩
def mq{a b:World}{row:Option Nat}(h:a.grownBy b row){i:Nat}{u:Value}:a.grownBy (b.setCell ⟨a,i,none⟩ u) row:=
 ⟨h.os,h.tape,h.output,by rw[O6];exact h.size,λq c d=>(Pd _ _ _ _ (by show q≠a;omega)).T (h.B q c d)⟩
def jT.lR{a:Type}{R:Rel a}{k:Nat}(ok:kF R k){S w v}{xs:List a}(h:jT R S w v xs){Z i:Nat}{u}(hS:∀b,S b->b≠Z):jT R S (w.setCell ⟨Z,i,none⟩ u) v xs:=
 h.jP ok λb hb=>Pd _ _ _ _ (hS b hb)
def jT.FV{a:Type}{R:Rel a}{k:Nat}(ok:kF R k){S w r}{x:a}{T}(h:R S w r x)(hS:∀b,S b->b<w):jT R (λb=>S b\/b=w) (w.alloc (.cells r.toArray T)) (.slice w 1 1) [x]:=by refine⟨_,1,[r],rfl,O9 _,SE,λ_=>⟨w,0,rfl,.inr rfl,λc u d=>?_⟩,⟨ok.M (ok.jP h λb hb=>Ph w _ (hS b hb)) λb hb=>.inl hb,trivial⟩⟩;rw[Pk];exact jU (O2 w _) c u (by simpa using d)
def jT.LQ{a:Type}{R:Rel a}{k:Nat}(ok:kF R k){S w r q}{x c:a}{T}(h:R S w r x)(d:R S w q c)(hS:∀b,S b->b<w):jT R (λb=>S b\/b=w) (w.alloc (.cells (r++q).toArray T)) (.slice w 2 2) [x,c]:=by refine⟨_,2,[r,q],rfl,O9 _,SE,λ_=>⟨w,0,rfl,.inr rfl,λe u f=>?_⟩,⟨ok.M (ok.jP h λb hb=>Ph w _ (hS b hb)) λb hb=>.inl hb,ok.M (ok.jP d λb hb=>Ph w _ (hS b hb)) λb hb=>.inl hb,trivial⟩⟩;rw[Pk];exact jU (O2 w _) e u (by simpa using f)
abbrev tl(a b):=(#[.pointer a,.int .i64 ((b:Int)+1)]:Array Go.Value)
def tI(S:Nat->Prop)(a:Nat)(sc:Sc)(left n:Nat)(w:World)(e:Ending)(w':World):Prop:=
 ∃(v:Value) (xs:List Ex),e=.returned v/\kf (ko .i64 3) 193 4 (λb=>w<=b/\b≠a) w' w v xs/\xs.length=n/\(∀x∈xs,kY sc 3 x)/\kr S w' a sc left/\w.grownBy w' (some a)
def oX.start{S}{a:Nat}{sc}{left:Nat}{w}(h:kr S w a sc left)(T c):oX S a sc left T c w (w.alloc (.cells c T)):=
 ⟨O2 w _,h.jQ (Ba w _),O7 w _ (some a),h.lt,λb hb=>(h.kX b hb).2⟩
def pq{d:Type}{R:Rel d}{k:Nat}(ok:kF R k){f:Nat}{w a c r}{x:d}(h:R (New w a) a r x)(g:f<w)(hg:a.grownBy c (some f)):R (New w c) c r x:=
 ok.M (ok.jP h λb hb=>hg.B b hb.2 (λe=>by injection e with e;have:=hb.1;omega)) λb hb=>⟨hb.1,O1 hb.2 hg.size⟩
def ot{c:Type}{R:Rel c}{k:Nat}(ok:kF R k){w a r}{x:c}{T}(d:w.heap.size<a.heap.size)(h:R (New w a) a r x):jT R (New w (a.alloc (.cells r.toArray T))) (a.alloc (.cells r.toArray T)) (.slice a 1 1) [x]:=
 (jT.FV ok h (λb hb=>hb.2)).M ok λb hb=>by unfold New;rw[O4];rcases hb with hb|hb;exact⟨hb.1,SC hb.2⟩;exact⟨SE,SE⟩
def vr{c:Type}{R:Rel c}{k:Nat}(ok:kF R k){w a r q}{x d:c}{T}(f:w.heap.size<a.heap.size)(h:R (New w a) a r x)(e:R (New w a) a q d):jT R (New w (a.alloc (.cells (r++q).toArray T))) (a.alloc (.cells (r++q).toArray T)) (.slice a 2 2) [x,d]:=
 (jT.LQ ok h e (λb hb=>hb.2)).M ok λb hb=>by unfold New;rw[O4];rcases hb with hb|hb;exact⟨hb.1,SC hb.2⟩;exact⟨SE,SE⟩
def vE(S:Nat->Prop)(a:Nat)(sc:Sc)(D left:Nat)(w:World)(e:Ending)(w':World):Prop:=
 ∃(v:Value) (xs:List St) (c:Nat),e=.returned v/\kf (kp .i64 D) 187 6 (λb=>w<=b/\b≠a) w' w v xs/\(∀x∈xs,mf sc D x)/\ku D xs+c<=left/\kr S w' a sc c/\w.grownBy w' (some a)
def lh(a:World)(b:Nat)(u0 u1 u2 u3 c d:Value):World:=(((((a.setCell b u0).setCell ⟨b,1,none⟩ u1).setCell ⟨b,2,none⟩ u2).setCell ⟨b,3,none⟩ u3).setCell ⟨b,4,none⟩ c).setCell ⟨b,5,none⟩ d
abbrev pe(a b c d e f g h i j k l):=(#[.int .i64 a,tx b,tx c,.slice d e f,.slice g h i,.slice j k l]:Array Go.Value)
def ly{w:World}{b:Nat}{a v1 v2 c v4 d:Value}{t:TypeId}(h:w.heap[b]?=some (.cells #[a,v1,v2,c,v4,d] t)):
  (w.cell? b=some a/\w.cell? ⟨b,1,none⟩=some v1/\w.cell? ⟨b,2,none⟩=some v2/\w.cell? ⟨b,3,none⟩=some c/\w.cell? ⟨b,4,none⟩=some v4/\w.cell? ⟨b,5,none⟩=some d)/\(w.frozen? ⟨b,0,none⟩=false/\w.frozen? ⟨b,1,none⟩=false/\w.frozen? ⟨b,2,none⟩=false/\w.frozen? ⟨b,3,none⟩=false/\w.frozen? ⟨b,4,none⟩=false/\w.frozen? ⟨b,5,none⟩=false):=
 ⟨⟨jN h 0,jN h 1,jN h 2,jN h 3,jN h 4,jN h 5⟩,⟨jS h 0,jS h 1,jS h 2,jS h 3,jS h 4,jS h 5⟩⟩
def lL(w0:World)(S:Nat->Prop)(x:Value)(v:Value)(w:World):Prop:=∃b o,v=.pointer (some ⟨b,o,none⟩)/\(New w0 w b\/(S b/\b<w))/\w.cell? ⟨b,o,none⟩=some x
def kR{a:Type}{R:Rel a}{k:Nat}(ok:kF R k){c z:Nat}{S w w'}(hS:∀b,S b->b<z/\b≠c)(hz:z<=w.heap.size){v}{xs:List a}(hg:Good c z w w')(h:jT R S w v xs):jT R S w' v xs:=
 h.jP ok λb hb=>hg.2 b (SC (hS b hb)) (hS b hb).2 (SC (hS b hb))
def kv{a:Type}{R:Rel a}{k:Nat}(ok:kF R k){c:Nat}{w0 w w'}(d:c<w0.heap.size){v}{xs:List a}(hg:Good c w0.heap.size w w')(h:jT R (New w0 w) w v xs):jT R (New w0 w') w' v xs:=
 (h.jP ok λb hb=>hg.2 b hb.2 (SC hb.1) (SC hb.1)).M ok λb hb=>⟨hb.1,O1 hb.2 hg.1⟩
def mv(w0:World)(a:Nat)(d:Nat)(o n:Int)(name:List UInt8)(A:Option Addr)(m c:Nat)(x:Ex)(w:World):Prop:=
 New w0 w a/\w.heap[a]?=some (.cells #[.int .i64 o,tx name,n,.slice A m c] 193)/\ko .i64 d (New w0 w) w [.int .i64 o,tx name,n,.slice A m c] x
def zV{S w A}{n c i:Nat}{f l}(h:jT pC S w (.slice A n c) f)(g:f[i]?=some l):∃b o a d,A=some ⟨b,o,none⟩/\S b/\w.cell? ⟨b,o+i,none⟩=some (.slice a l.length d)/\jT lS S w (.slice a l.length d) l:=by obtain⟨b,o,r,e,hb,⟨v,hr,hv⟩,hc⟩:=h.kt pC.ok i l g;obtain⟨a,d,j,rfl,_⟩:=id hv;have:=hc 0 _ (by rw[hr];rfl);exact⟨b,o,a,d,e,hb,by simpa using this,hv⟩
abbrev tf(a):=(#[.pointer a,.int .i64 0]:Array Go.Value)
def kr.ze{S w}{a:Nat}{sc}{left:Nat}(h:kr S w a sc left)(l:Nat):kr S (w.setCell ⟨a,7,none⟩ (.int .i64 (l:Int))) a sc l:=by obtain⟨d,e,f,hb,g,hy⟩:=h.kt;have c:∀b,b≠a->(w.setCell ⟨a,7,none⟩ (.int .i64 (l:Int))).heap[b]?=w.heap[b]?:=λb hb=>Pd _ _ _ _ hb;exact⟨⟨d,e,f,jO hb,g.jP pC.ok (λb hb=>c b (h.kX b hb).1),hy.jP pX.ok (λb hb=>c b (h.kX b hb).1)⟩,λb hb=>⟨(h.kX b hb).1,by rw[O6];exact(h.kX b hb).2⟩⟩
def kr.Dt{S w}{a:Nat}{sc}{left:Nat}(h:kr S w a sc left):(∃A n c,w.cell? ⟨a,6,none⟩=some (.slice A n c))/\w.cell? ⟨a,7,none⟩=some (.int .i64 (left:Int))/\w.frozen? ⟨a,7,none⟩=false:=by obtain⟨b,d,e,hb,f,A,c,g,rfl,_⟩:=h.kt;exact⟨⟨A,_,c,jN hb 6⟩,jN hb 7,jS hb 7⟩
def DD(D:Nat):∀xs:List St,xs.length<=ku (D+1) xs
 |[]=>Pb _
 |x::xs=>by have a:=DD D xs;unfold ku at a⊢;simp only[PA,PF,Sq];omega
def tJ(D:Nat)(xs x):ku (D+1) (xs++[x])=ku (D+1) xs+(1+ku D x.th+ku D x.el):=by simp[ku]
def kT.nW.withParams{sc}(h:nW sc){a:Nat}(b:a<=2):nW {sc with params:=a}:=⟨h.F6,h.F7,h.kC,h.km,b,h.own,h.len,h.each⟩
def kT.sq.snoc{sc a hs h}(c:sq sc a hs)(d:Eh sc a hs.length h):sq sc a (hs++[h]):=λk x hx=>by
 rcases Nat.lt_or_ge k hs.length with b|b;rw[List.getElem?_append_left b]at hx;exact c k x hx;rw[List.getElem?_append_right b]at hx;obtain⟨rfl⟩:k=hs.length:=by rcases Nat.lt_or_ge (k-hs.length) 1 with h|h;omega;rw[List.getElem?_eq_none (by simpa using h)]at hx;cases hx
 rw[Nat.sub_self]at hx;simp at hx;rw[<-hx];exact d
def kr.setBytes{S w}{a:Nat}{sc}{left:Nat}(h:kr S w a sc left){v c}(hv:jT pX S w v c):kr S (w.setCell ⟨a,6,none⟩ v) a sc left:=by obtain⟨e,g,i,hb,f,hy⟩:=h.kt;have d:∀b,b≠a->(w.setCell ⟨a,6,none⟩ v).heap[b]?=w.heap[b]?:=λ_ hb=>Pd _ _ _ _ hb;exact⟨⟨e,v,c,jO hb,f.jP pC.ok (λb hb=>d b (h.kX b hb).1),hv.jP pX.ok (λb hb=>d b (h.kX b hb).1)⟩,λb hb=>⟨(h.kX b hb).1,by rw[O6];exact(h.kX b hb).2⟩⟩
def Gm(S:Nat->Prop)(a:Nat)(sc:Sc)(c:List Nat)(n:Nat)(w:World)(e:Ending)(w':World):Prop:=
 ∃(v:Value) (hs:List Hd),e=.returned v/\kf (lF .i64) 121 3 (λb=>w<=b/\b≠a) w' w v hs/\hs.length=n/\sq sc c hs/\(∃p left,kr S w' a {sc with params:=p} left)/\w.grownBy w' (some a)
def Kn:(prog.info? 121).map (λi=>(i.zero,i.size,i.bytes))=some (some (.agg #[Em,Nl,Nl]),3,64):=SH
def zN(w0:World)(x:Value)(v:Value)(w:World):Prop:=∃b o,v=.pointer (some ⟨b,o,none⟩)/\New w0 w b/\w.cell? ⟨b,o,none⟩=some x
def rk{a:Type}{R:Rel a}{k:Nat}(ok:kF R k){w0 w w' v}{xs:List a}(hg:NG w0 w w')(h:jT R (New w0 w) w v xs):jT R (New w0 w') w' v xs:=
 (h.jP ok λb hb=>hg.2 b hb).M ok λb hb=>⟨hb.1,O1 hb.2 hg.1⟩
def kT.IB(p)(a:Nat):(zK p a).length<=1:=by unfold zK;split<;>(try split)<;>(try split)<;>simp
def kT.DF(p):∀k,(ra p k).length<=k
 |0=>Nat.le_refl _
 |k+1=>by have a:=DF p k;have b:=IB p k;simp only[ra,List.length_append];omega
def IC:(prog.info? 3).map (λi=>(i.zero,i.size,i.bytes))=some (some (.int .i64 0),1,8):=SH
def kf.base{a:Type}{R:Rel a}{T k:Nat}{P w}{lo b:Nat}{v}{xs:List a}(h:kf R T k P w lo v xs)(d:b<=lo):kf R T k P w b v xs:=by
 obtain⟨f,c,i⟩:=h.own;refine⟨f,⟨c.1,?_⟩,i⟩;rcases c.2 with h|⟨g,j,l,e,hb,h⟩
 exact .inl h;exact .inr ⟨g,j,l,e,Pj d hb,h⟩
def kT.qm(a:Nat):List Va:=(List.range a).map λk=>⟨nm 120 k,1,k⟩
def kT.ri(a b:Nat):List Va:=qm a++[⟨nm 98 0,2,0⟩]++(List.range b).map λk=>⟨nm 116 k,3,0⟩
def kT.oQ(a:Nat):(qm a).length=a:=by simp[qm]
def kT.Cu(a:Nat):qm (a+1)=qm a++[⟨nm 120 a,1,a⟩]:=by simp[qm,List.range_succ]
def kT.ui(a b:Nat):(ri a b).length=a+1+b:=by simp[ri,qm];omega
def kT.Cv(b a:Nat):ri b (a+1)=ri b a++[⟨nm 116 a,3,0⟩]:=by simp[ri,List.range_succ]
def kT.Cw(a:Nat):ri a 0=qm a++[⟨nm 98 0,2,0⟩]:=by simp[ri]
def kT.rS{i a:Nat}(hi:i<26)(b:a<26)(h:kx i=kx a):i=a:=by unfold kx at h;injection h with h;have:=congrArg UInt8.toNat h;simp at this;omega
def kT.Kq{n m:Nat}(hn:0<n)(y:n<=3)(hm:m<n*n){b}(h:mU n m b){x}(c:x.a=kx (m/n))(hb:x.b=kx (m % n))(i:1<=x.sD)(j:x.sD<=3):mU n (m+1) (b++[x]):=by refine⟨λa hy=>?_,?_⟩;rcases List.mem_append.1 hy with hy|hy;obtain⟨k,l,h⟩:=h.1 a hy;exact⟨k,SE,h⟩;simp at hy;subst hy;exact⟨m,SE,hm,c,hb,i,j⟩;rw[List.map_append,List.nodup_append];refine⟨h.2,SG,λp hp q d e=>?_⟩;simp only[List.map_cons,List.map_nil,List.mem_singleton]at d;rw[List.mem_map]at hp;obtain⟨a,hy,rfl⟩:=hp;obtain⟨k,l,r,s,t,_⟩:=h.1 a hy;rw[d]at e;injection e with f g;rw[c,s]at f;rw[hb,t]at g;have FN:k/n<n:=Nat.div_lt_of_lt_mul r;have z:m/n<n:=Nat.div_lt_of_lt_mul hm;have A:k % n<n:=Nat.mod_lt _ hn;have B:m % n<n:=Nat.mod_lt _ hn;have u:=rS SE SE f;have v:=rS SE SE g;have w:=Nat.div_add_mod k n;have C:=Nat.div_add_mod m n;rw[u,v]at w;omega
def kT.Kr(p)(c:Nat):∀a∈zK p c,a<=2:=by unfold zK;intro a b;split at b;simp at b;omega;split at b;simp at b;omega;split at b;simp at b;omega;simp at b
def kT.B9(p):∀k,∀a∈ra p k,a<=2
 |0,a,h=>by simp[ra]at h
 |k+1,a,h=>by rcases List.mem_append.1 h with h|h;exact B9 p k a h;exact Kr p k a h
def kT.tB(p:Pt):Nat:=if p.hs.length=0 then 1 else min p.hs.length 3
def kT.zO(p:Pt):Nat:=min p.ss.length 3
def Kp.JO{a cb:Nat}(w)(i:Nat)(u):Kp a cb w (w.setCell ⟨cb,i,none⟩ u):=⟨rfl,rfl,rfl,by rw[O6];exact O9 _,λ_ _ _ h=>Pd _ _ _ _ h⟩
def Mv.next{S}{B z:Nat}{w0 d w}{n:Nat}{e i}{j k:Nat}{l}{nk m:Nat}{q r s}{c4 f g:Nat}(h:Mv S B z w0 d n e i j k l nk m q r s c4 f g)(hb:Below d d w){A:Option Addr}{c:Nat}
  (u:jT pC (λb=>d<=b/\b<w) w (.slice A n c) (e.map λp=>ra p 3)):LA S B z w0 w n e i j k l nk m q r (e.map λp=>ra p 3) s c4 A c f g:=by
 have v:B<d:=(O3.1 h.hF).1;have y:=h.zB;have hs:=hb.size;exact⟨(hb.B z SE).T h.hz,(hb.B B v).T h.hF,h.zB,h.qi.T (hb.M SE),h.Ib.jP tv.ok (λb a=>hb.B b (SC ((h.hS b a).1))),h.hS,h.n1,h.n3,
  (h.LH.jP lM.ok (λb a=>hb.B b a.2)).M lM.ok (λb a=>⟨a.1,O1 a.2 hs⟩),h.LI,h.f2,(h.MM.jP mY.ok (λb a=>hb.B b a.2)).M mY.ok (λb a=>⟨a.1,O1 a.2 hs⟩),h.MN,
  u.M pC.ok (λb a=>⟨SC a.1,a.2⟩),rfl,λt x=>(hb.cell (p:=⟨f,g+t,none⟩) h.b8.2).T (h.h8 t x),⟨h.b8.1,O1 h.b8.2 hs⟩⟩
def oT(w:World)(e:Ending)(w':World):Prop:=
 ∃(nm:List UInt8) (a c d:Option Addr) (g c1 i c2 j c3:Nat) (f:Fl),e=.returned (.agg #[tx nm,.slice a g c1,.slice c i c2,.slice d j c3])/\MK .i64 (λb=>w<=b/\b<w') w' [tx nm,.slice a g c1,.slice c i c2,.slice d j c3] f/\sR f/\Below w w w'
def Gn:(prog.info? 88).map (λi=>(i.zero,i.size,i.bytes))=some (some (.agg #[Em,Nl,Nl]),3,64):=SH
def Ku:(prog.info? 81).map (λi=>(i.zero,i.size,i.bytes))=some (some (.agg #[Em,Em,.int .i64 0]),3,40):=SH
def Gp:(prog.info? 95).map (λi=>(i.zero,i.size,i.bytes))=some (some (Nl),1,24):=SH
def Kv:(prog.info? 83).map (λi=>(i.zero,i.size,i.bytes))=some (some (Nl),1,24):=SH
def ID{d:Nat}{f b}{k:Nat}{c}(h:∀a x,b[a]?=some x->xv d f a x)(i:b.length=k)(hc:xv d f k c):∀a x,(b++[c])[a]?=some x->xv d f a x:=λa x hx=>by
 rcases QT a b.length with g|g;rw[PW g]at hx;exact h a x hx;rw[P1 g]at hx;have j:a-b.length<1:=by have:=(Pm.1 hx).1;simpa using this
 have e:a=k:=SE
 subst e;rw[i,Nat.sub_self]at hx;simp at hx;rw[<-hx];exact hc
def qG.snoc{k:Nat}{a}(h:qG k a)(q):qG (k+1) (a++[⟨nm 102 k,q⟩]):=by
 refine⟨by simp[h.1],λb x hx=>?_⟩;rcases QT b a.length with c|c;rw[PW c]at hx;exact h.2 b x hx;have d:=(Pm.1 hx).1;simp at d;have e:b=a.length:=SE
 subst e;rw[P1 (O9 _),Nat.sub_self]at hx;simp at hx;rw[<-hx,h.1]
abbrev sn:=(.cells #[Em,Nl,Nl,Nl] 37:Go.Obj)
def nA{a:Type}{R:Rel a}{k:Nat}(ok:kF R k){w0 w w' v}{xs:List a}(hg:NK w0 w w')(h:jT R (Nw w0 w) w v xs):jT R (Nw w0 w') w' v xs:=
 (h.jP ok λb hb=>hg.2 b hb).M ok λb hb=>⟨hb.1,O1 hb.2 hg.1⟩
def vD{a:Type}{R:Rel a}{k:Nat}(ok:kF R k){c d w v}{xs:List a}(hs:c.heap.size<=d.heap.size)(h:jT R (Nw d w) w v xs):jT R (Nw c w) w v xs:=h.M ok λb hb=>⟨Pj hs hb.1,hb.2⟩
def mS.start{b:Type}{R:Rel b}{T k:Nat}{P a wr}{o:Nat}{C d V}{xs:List b}(g:a.grownBy wr (some o))(c:wr.heap[o]?=some (.cells C d (0,0)))(own:kf R T k P wr a.heap.size V xs)(lt:o<a.heap.size):mS R T k P a wr o C d V xs wr:=
 ⟨g,c,own,O9 _,own.ge,lt,g.size,λ_ _ _ _=>rfl⟩
def IE(d:Nat)(op n:Int)(name:List UInt8)(args:List Ex)(w:World)(e:Ending)(w':World):Prop:=
 ∃(a:Option Addr) (b:Nat),e=.returned (.agg #[.int .u8 op,tx name,n,.slice a args.length b])/\jT (ko .u8 d) (Nw w w') w' (.slice a args.length b) args/\Below w w w'
def F9(d:Nat):Prop:=∀(S:Nat->Prop) (w:World) (op n:Int) (name:List UInt8) (A:Option Addr) (m c:Nat) (args:List Ex),jT (ko .i64 d) S w (.slice A m c) args->(1<=op/\op<=255/\args.length<=2/\∀a∈args,B0 d a)->(∀b,S b->b<w)->
 Calls prog 68 #[.agg #[.int .i64 op,tx name,n,.slice A m c]] w (IE d op n name args w)
abbrev kc:=(.cells #[.int .u8 0,Em,.int .i64 0,Nl] 196:Go.Obj)
abbrev la(a b c d e f):=(.cells #[.int .u8 a,tx b,c,.slice d e f] 196:Go.Obj)
abbrev pv(a b c):=(.cells #[.int .u8 a,tx b,c,Nl] 196:Go.Obj)
abbrev ti(a b c d):=(.cells #[.int .u8 a,b,c,d] 323:Go.Obj)
abbrev mx:=(#[.int .u8 0,Em,Em,Nl,Nl,Nl]:Array Go.Value)
def IH:(prog.info? 191).map (λi=>(i.zero,i.size,i.bytes))=some (some (.agg mx),6,112):=SH
abbrev me:=(.cells #[.int .u8 0,Em,Em,Nl,Nl,Nl] 191:Go.Obj)
def Kw(d:Nat)(l:List St)(w:World)(e:Ending)(w':World):Prop:=
 ∃(a:Option Addr) (b:Nat),e=.returned (.slice a l.length b)/\jT (kp .u8 d) (Nw w w') w' (.slice a l.length b) l/\Below w w w'
def J6(d:Nat):Prop:=∀(S:Nat->Prop) (w:World) (A:Option Addr) (n c:Nat) (l:List St),jT (kp .i64 d) S w (.slice A n c) l->l.length<=12->(∀s∈l,tX d s)->(∀b,S b->b<w)->
 Calls prog 34 #[.slice A n c] w (Kw d l w)
abbrev lk(a b c d e f g h i j k l):=(.cells #[.int .u8 a,tx b,tx c,.slice d e f,.slice g h i,.slice j k l] 191:Go.Obj)
def KG.start{a}{o:Nat}{C b}(h:a.heap[o]?=some (.cells C b (0,0))):KG a o C b a:=⟨kP _ _,h,(O3.1 h).1⟩
def KG.blk{a}{o:Nat}{C c x}(h:KG a o C c x){b:Nat}(hb:b<a)(hn:b≠o):x.heap[b]?=a.heap[b]?:=h.g.B b hb (λe=>hn (by injection e))
def II:(prog.info? 107).map (λi=>(i.zero,i.size,i.bytes))=some (some (.agg #[Em,false]),2,24):=SH
def IJ:(prog.info? 108).map (λi=>(i.zero,i.size,i.bytes))=some (some (.agg #[Em,Em,.int .i64 0]),3,40):=SH
def IK:(prog.info? 115).map (λi=>(i.zero,i.size,i.bytes))=some (some (.agg oe),3,32):=SH
def IL:(prog.info? 112).map (λi=>(i.zero,i.size,i.bytes))=some (some (.agg #[Em,Nl,Nl]),3,64):=SH
def IM:(prog.info? 118).map (λi=>(i.zero,i.size,i.bytes))=some (some (.agg #[Nl]),1,24):=SH
def KG.JQ{a b d}{o c:Nat}{C g f i}(h:KG a o C f b)(j:KG b c g i d)(hc:a<=c):KG a o C f d:=
 h.grow j.g (λz e=>by injection e with e;omega)
def IQ(w:World)(name:List UInt8)(f:Fl)(a b c:Nat)(e:Ending)(w':World):Prop:=
 ∃(d:Option Addr) (c1:Nat) (g:Option Addr) (c2:Nat) (i:Option Addr) (c3:Nat),e=.returned (.agg #[tx name,.slice d a c1,.slice g b c2,.slice i c c3])/\jT lM (Nw w w') w' (.slice d a c1) f.km/\jT mY (Nw w w') w' (.slice g b c2) f.lB/\jT (lv .u8) (Nw w w') w' (.slice i c c3) f.jZ/\Below w w w'
abbrev kb(a b c d e f g h i j):=(#[tx a,.slice b c d,.slice e f g,.slice h i j]:Array Go.Value)
abbrev rl(a b):=(.cells #[tx a,b] 107:Go.Obj)
abbrev tp(a b c):=(.cells #[tx a,tx b,c] 108:Go.Obj)
def ke.od(n:Int):Bool:=(n !=10)
def ke.vL(p l):pre p l<=l.length:=by unfold pre;exact(List.takeWhile_sublist _).length_le
def ke.pre_nil(p):pre p []=0:=rfl
def ke.Ap(p:Int->Bool)(s:ByteArray)(k:Nat)(h:¬k<s.size)(a:k<=pre p s.data.toList):pre p s.data.toList=k:=by have:=vL p s.data.toList;simp at this;omega
def ke.syms:List (List UInt8):=[[46,46],[61,61],[33,61],[60,61],[62,61],[45,62],[123],[125],[40],[41],[91],[93],[44],[59],[58],[46],[61],[60],[62],[43],[45],[42],[47],[37],[95]]
def ke.DJ(l)(k:Nat)(a:k<39)(h:(words[k]?.getD []==l)=true):sr l=true:=by have b:k<words.length:=a;rw[List.getElem?_eq_getElem b,Option.getD_some]at h;have:=eq_of_beq h;unfold sr;rw[List.contains_iff_mem,<-this];exact List.getElem_mem _
def ke.Ar(l)(h:∀a,a<39->(words[a]?.getD []==l)=false):sr l=false:=by unfold sr;rw[Bool.eq_false_iff];intro hc;rw[List.contains_iff_mem]at hc;obtain⟨a,b,e⟩:=List.getElem_of_mem hc;have:=h a b;rw[List.getElem?_eq_getElem b,Option.getD_some,e]at this;simp at this
def ke.pfx(l p:List UInt8):Bool:=p.isPrefixOf l
def ke.DK(l)(h:pfx l [47,47]=true):∃t,l=47::47::t:=by
 unfold pfx at h
 match l,h with
 |[],h=>simp at h
 |[c],h=>simp[List.isPrefixOf]at h
 |c::d::t,h=>simp[List.isPrefixOf]at h;exact⟨t,by rw[<-h.1,<-h.2]⟩
def ke.qw(l:List UInt8):Option (List UInt8):=syms.find? (pfx l)
def ke.nE(l:List UInt8):Nat×Nat:=
 if lp (l.headD 0).toNat then
  if sr (l.take (pre lr l))then(2,pre lr l)
  else if pre lr l<=12 then(1,pre lr l)else(5,l.length)
 else if lX (l.headD 0).toNat then
  if pre lX l==1||((l.headD 0).toNat:Int) !=48 then(3,pre lX l)else(5,l.length)
 else match qw l with
  |some x=>(4,x.length)
  |none=>(5,l.length)
def ke.qA(s:ByteArray)(k:Nat):(s.extract k s.size).data.toList=s.data.toList.drop k:=by rw[ByteArray.data_extract,Array.toList_extract,List.extract_eq_take_drop];apply List.take_of_length_le;simp
def ke.uL(p:Int->Bool)(s:ByteArray)(k:Nat)(h:k<=s.size):k+pre p (s.data.toList.drop k)<=s.size:=by have:=vL p (s.data.toList.drop k);simp only[List.length_drop,Array.length_toList,ByteArray.size_data]at this;omega
def ke.Bn(l)(k:Nat)(c:k<25)(h:∀a,a<k->pfx l (syms[a]?.getD [])=false)(hp:pfx l (syms[k]?.getD [])=true):qw l=some (syms[k]?.getD []):=by have b:k<syms.length:=c;unfold qw;rw[List.getElem?_eq_getElem b,Option.getD_some]at hp⊢;rw[List.find?_eq_some_iff_getElem];refine⟨hp,k,b,rfl,λa d=>?_⟩;have:=h a d;rw[List.getElem?_eq_getElem SE,Option.getD_some]at this;simp[this]
def ke.xA(l)(h:∀a,a<25->pfx l (syms[a]?.getD [])=false):qw l=none:=by unfold qw;rw[List.find?_eq_none];intro x hx;obtain⟨a,b,e⟩:=List.getElem_of_mem hx;have:=h a b;rw[List.getElem?_eq_getElem b,Option.getD_some,e]at this;simp[this]
def nJ{P}(w:World)(t e)(n:Nat)(a:Array Value)(k:Nat)(v:Value)(h:P.underlying t=some (.array n e))(b:k<n)
  (c:(isAgg e).run P w=.ok false w) (hv:a[k]?=some v) (hs:(sizeOf e).run P w=.ok 1 w):
  (Instr.index t (.agg a) (.int .i64 k)).run P w=.ok v w:=by
 simp[Instr.index,Rs h,asIntOf,b,hs,c,hv,go_sem]
def uk(w)(k:Nat)(a:k<39):(Instr.index 331 (.agg og) (.int .i64 k)).run prog w=.ok (tx (ke.words.getD k [])) w:=
 nJ w _ 9 39 _ k _ SH a SH
  (by have b:k<ke.words.length:=a;simp[og,tx,b]) SH
def sX:(prog.info? 331).map (·.size)=some og.size:=SH
def rB:prog.underlying 331=some (.array 39 9):=SH
def nN(n:Int)(w):Calls prog 162 #[.int .u8 n] w λe w'=>e=.returned (.bool (ke.lp n))/\w=w':=by
 by_cases a:97<=n<;>by_cases b:n<=122<;>by_cases c:65<=n<;>by_cases d:n<=90;all_goals
  first
  |omega
  |(go_enter func162,ntmps162;go_wp2;go_ret;exact⟨by simp[ke.lp,a,b,c,d],rfl⟩)
def CB:mm lW=true:=SM
def pS{w}(h:ln w)(k:Nat)(x)(hx:shapes[k]?=some x):∀a u,(qx x)[a]?=some u->w.cell? ⟨8,k*4+a,none⟩=some u:=by obtain⟨_,⟨t,b,h⟩,_⟩:=h;intro a u hu;obtain⟨r,hr,hc⟩:=kJ.kt (k:=4) (R:=λr x=>r=qx x) (λr x h=>by rw[h];rfl) k x (kJ.map qx shapes) hx;have:=hc a u (by rw[hr];exact hu);simp only[World.cell?,h];simpa[vt]using this
def om{w}(h:ln w)(k:Nat)(x)(hx:forms[k]?=some x):∀a u,(rN x)[a]?=some u->w.cell? ⟨4,k*6+a,none⟩=some u:=by obtain⟨_,_,⟨t,b,h⟩⟩:=h;intro a u hu;obtain⟨r,hr,hc⟩:=kJ.kt (k:=6) (R:=λr x=>r=rN x) (λr x h=>by rw[h];rfl) k x (kJ.map rN forms) hx;have:=hc a u (by rw[hr];exact hu);simp only[World.cell?,h];simpa[yT]using this
def letters:ke.lp (120:UInt8).toNat=true/\ke.lp (112:UInt8).toNat=true/\ke.lp (116:UInt8).toNat=true/\ke.lp (98:UInt8).toNat=true/\ke.lp (102:UInt8).toNat=true/\ke.lp (104:UInt8).toNat=true:=SM
def lg{d:Nat}{e}{k:Nat}{x}(b:e.op=(k:Int))(m:1<=k)(hx:shapes[k]?=some x)(c:e.args.length=x.1)(f:x.2.1=true->mm e.name=true)(g:x.2.1=false->e.name=[])(i:k=1->0<=e.n)(j:k≠1->e.n=0)(l:∀a∈e.args,lT d a):lT (d+1) e:=
 ⟨⟨x,SE,by rw[b];simpa using hx,c,f,g,λh=>i SE,λh=>j SE⟩,l⟩
def zW(g:FuncId):Prop:=∀(S:Nat->Prop) (w:World) (b o d:Nat) (e:Ex) (r:List Value),ln w->At w b o r->ko .u8 d S w r e->lT d e->b<w->(∀q,S q->q<w)->Calls prog g #[.pointer (some ⟨b,o,none⟩)] w (kd (.bool true) w)
def vh:mg 176:=λ_ _=>SH
def uA:mg 177:=λ_ _=>SH
def Ca(g:FuncId)(d:Nat):Prop:=∀(S:Nat->Prop) (w:World) (b o:Nat) (e:Ex) (r:List Value),ln w->At w b o r->ko .u8 d S w r e->lT d e->b<w->(∀q,S q->q<w)->Calls prog 197 #[.pointer (some ⟨b,o,none⟩),.func (.func g) #[] #[]] w (kd (.bool true) w)
def wG:∀x∈forms,x.2.2.2.1<=5:=SF
def mV.five{d:Nat}{s}(h:mV d s):s.kA.length<=5:=by
 cases d with
 |zero=>exact h.elim
 |succ d=>obtain⟨⟨x,_,hx,_,_,_,_,_,a,_⟩,_⟩:=h;exact Pj a (wG x (O5 hx))
def zX(g:FuncId):Prop:=∀(S:Nat->Prop) (w:World) (b o d:Nat) (s:St) (r:List Value),ln w->At w b o r->kp .u8 d S w r s->mV d s->b<w->(∀q,S q->q<w)->Calls prog g #[.pointer (some ⟨b,o,none⟩)] w (kd (.bool true) w)
def ov{S w w'}{b o d:Nat}{s r}(h:At w b o r/\kp .u8 d S w r s/\mV d s)(hb:b<w)(hS:∀q,S q->q<w)(a:Below w w w'):At w' b o r/\kp .u8 d S w' r s/\mV d s/\b<w'/\∀q,S q->q<w':=
 ⟨h.1.jQ a hb,(kp.ok .u8 d).jP h.2.1 (λq c=>a.B q (hS q c)),h.2.2,O1 hb a.size,λq c=>O1 (hS q c) a.size⟩
def Cc(g:FuncId)(d:Nat):Prop:=∀(S:Nat->Prop) (w:World) (A:Option Addr) (n c:Nat) (l:List St),ln w->jT (kp .u8 d) S w (.slice A n c) l->l.length<=12->(∀s∈l,mV d s)->(∀q,S q->q<w)->Calls prog 122 #[.slice A n c,.func (.func g) #[] #[]] w (kd (.bool true) w)
def vk:mg 123:=λ_ _=>SH
def uB:mg 126:=λ_ _=>SH
def kT.tY(d:Nat)(l:List St)(k:Nat):Nat:=l.length+((l.take k).map λs=>ku d s.th+ku d s.el).sum
def kT.EE(d:Nat)(l):tY d l 0=l.length:=by simp[tY]
def kT.ya(d:Nat){l}{k:Nat}{x}(h:l[k]?=some x):tY d l (k+1)=tY d l k+(ku d x.th+ku d x.el):=by simp only[tY,List.take_add_one,h,Option.toList_some,List.map_append,List.sum_append,List.map_cons,List.map_nil,List.sum_cons,List.sum_nil];omega
def kT.vV(d:Nat):∀l,tY d l l.length=ku (d+1) l
 |[]=>rfl
 |x::l=>by have:=vV d l;simp only[tY,List.take_length]at this⊢;simp only[List.length_cons,List.map_cons,List.sum_cons,ku]at this⊢;omega
def kT.EF(d:Nat)(l):∀(k a:Nat),k<=a->tY d l k<=tY d l a
 |k,a,h=>by
  induction a with
  |zero=>obtain rfl:k=0:=SE;exact Nat.le_refl _
  |succ a b=>
   by_cases e:k=a+1;rw[e];exact Nat.le_refl _;refine Nat.le_trans (b SE) ?_;cases hx:l[a]? with
   |none=>have:l.length<=a:=(by rw[List.getElem?_eq_none_iff]at hx;exact hx);simp only[tY,List.take_of_length_le this,List.take_of_length_le (Nat.le_succ_of_le this)];exact Nat.le_refl _
   |some x=>rw[ya d hx];omega
def J7(d:Nat):Prop:=∀(S:Nat->Prop) (w:World) (A:Option Addr) (n c:Nat) (l:List St),jT (kp .u8 d) S w (.slice A n c) l->l.length<=12->(∀s∈l,mV d s)->ku d l<=40->d<=6->(∀q,S q->q<w)->
 Calls prog 170 #[.slice A n c] w (λe w'=>∃r:Nat,e=.returned (.int .i64 (r:Int))/\r<=ku d l/\Below w w w')
def J8(d:Nat):Prop:=∀(S:Nat->Prop) (w:World) (A:Option Addr) (n c:Nat) (l:List St),jT (kp .u8 d) S w (.slice A n c) l->l.length<=12->(∀s∈l,mV d s)->ku d l<=40->d<=6->(∀q,S q->q<w)->
 Calls prog 171 #[.slice A n c] w (λe w'=>∃r:Nat,e=.returned (.int .i64 (r:Int))/\r<=d/\Below w w w')
def tr:mg 119:=λ_ _=>SH
def zu:mg 121:=λ_ _=>SH
def xD:mg 125:=λ_ _=>SH
def xE(v)(hv:JR v)(w):Calls prog 124 #[.agg #[tx v.name,.int .u8 v.ty,v.init]] w (kd (.bool true) w):=by
 have a:Below w w (w.alloc (sd v.name v.ty v.init)):=Ba _ _;have hf:=hv.form;obtain⟨name,c,b⟩:=v;simp only at*;rcases hf with⟨rfl,hi⟩|⟨rfl,hi⟩|⟨rfl,rfl⟩
 .have hd:(b != -9223372036854775808)=true:=by simpa using hi
  go_enter func124,ntmps124
  go_wp2;go_ret;exact⟨SG,a⟩
 .rcases hi with rfl|rfl
  .go_enter func124,ntmps124
   go_wp2;go_ret;exact⟨rfl,a⟩
  go_enter func124,ntmps124
  go_wp2;go_ret;exact⟨rfl,a⟩
 go_enter func124,ntmps124
 go_wp2;go_ret;exact⟨rfl,a⟩
def Ky:Keyed prog 9:=Keyed.of_law (Go.WideMaps.string_law underlying9)
def qU.snoc{a b c:List In}{n m:Nat}(h:qU a n b){x:In}(hx:lK x)(d:c=b++[x])(hm:n+1<=m):qU a m c:=by obtain⟨l,rfl,f,hp⟩:=h;refine⟨l++[x],by rw[d,Py],SK,λe hy=>?_⟩;rcases QV.1 hy with hy|hy;exact hp e hy;simp at hy;subst hy;exact hx
def kT.In.put(x:In)(c:Nat)(t:Int):In:=if c=1 then{x with a:=t}else{x with b:=t}
def kT.oI.Nc{x:In}{n m:Nat}(h:oI n x)(hm:n<=m){t:Int}(a:0<=t)(b:t<=m):oI m (x.put 1 t):=by refine⟨h.1,h.2.1,λ_=>⟨a,b⟩,λk=>?_⟩;have:=h.2.2.2 k;show 0<=x.b/\x.b<=m;omega
def kT.oI.Nd{x:In}{n m:Nat}(h:oI n x)(hm:n<=m){t:Int}(a:0<=t)(b:t<=m):oI m (x.put 2 t):=by refine⟨h.1,h.2.1,λk=>?_,λ_=>⟨a,b⟩⟩;have:=h.2.2.1 k;show 0<=x.a/\x.a<=m;omega
def qU.OQ{a b:List In}{n:Nat}(h:qU a n b):mn a n b:=by obtain⟨l,c,d,e⟩:=h;exact⟨l,c,d,λx hx=>(e x hx).ok _⟩
def N2:Value:=.agg #[Em,Nl,Nl]
def yf{a:Type}(At:a->Value->Prop)(z:Value)(o:Option a)(w:World)(e:Ending)(w':World):Prop:=(∀c,o=some c->∃v,e=.returned (.tuple #[v,true])/\At c v)/\(o=none->e=.returned (.tuple #[z,false]))/\Below w w w'
abbrev pa:=(.cells #[Em,Nl,Nl] 112:Go.Obj)
def LU(S:Nat->Prop)(w:World)(h:Hd)(v:Value):Prop:=∃(a:Option Addr) (b c:Nat) (d:Option Addr) (e cb:Nat),v=.agg #[tx h.name,.slice a b c,.slice d e cb]/\jT kh S w (.slice a b c) h.params/\jT (kp .u8 Ds) S w (.slice d e cb) h.body
def tz(cb:Nat)(a b c d:Value)(w:World):Prop:=∃e:ByteArray,w.heap[cb]?=some (.cells #[a,b,c,d,.string e,Em,Em,.int .i64 0] 215)
def tz.lt{cb:Nat}{a b c d w}(h:tz cb a b c d w):cb<w:=by obtain⟨e,h⟩:=h;exact(O3.1 h).1
def tz.jP{cb:Nat}{a b c d w w'}(h:tz cb a b c d w)(hb:w'.heap[cb]?=w.heap[cb]?):tz cb a b c d w':=by obtain⟨e,h⟩:=h;exact⟨e,hb.T h⟩
def tz.jQ{cb B:Nat}{a b c d w w'}(h:tz cb a b c d w)(hb:Below B w w')(e:cb<B):tz cb a b c d w':=h.jP (hb.B cb e)
def sZ(cb:Nat)(a b c d w name)(h:tz cb a b c d w):Calls prog 88 #[.pointer cb,.int .i64 0,.string name] w λe w'=>e=.returned (.bool true)/\w=w':=by
 obtain⟨f,h⟩:=h;have g:=jN h 7
 go_enter func88,ntmps88
 go_wp2;go_ret;exact⟨rfl,rfl⟩
def lA(cb:Nat)(a b c d w)(f:Int)(name)(h:tz cb a b c d w):Calls prog 138 #[.pointer cb,true,f,.string name] w λe w'=>e=.returned (.bool true)/\w=w':=by
 have H:=(sZ cb a b c d w name h)
 go_enter func138,ntmps138
 go_wp21;apply H.M;rintro e g ⟨rfl,rfl⟩;go_wp21;go_ret;exact⟨rfl,rfl⟩
def ud(cb:Nat)(b c d f w a)(h:tz cb b c d f w):Calls prog 137 #[.pointer cb,.string a] w λe w'=>e=.returned (.bool true)/\tz cb b c d f w'/\w.grownBy w' (some cb)/\w'.heap.size=w:=by
 obtain⟨g,h⟩:=h;have j:=jN h 4;have k:=jS h 4;have l:=jN h 7;have hc:=jO (i:=4) (u:=.string a) h
 go_enter func137,ntmps137
 go_wp2;go_ret;exact⟨rfl,⟨a,hc⟩,jY w cb 4 _,by rw[O6]⟩
def kT.Gu{a:List Co}(g:a.length<=3)(hn:∀i c,a[i]?=some c->c.name=kx i){i:Nat}{c:Co}(hc:a[i]?=some c):(a.find? λx=>x.name==kx i)=some c:=by
 cases hf:a.find? λx=>x.name==kx i with
 |none=>rw[List.find?_eq_none]at hf;exact absurd (by rw[hn i c hc];simp) (hf c (List.mem_of_getElem? hc))
 |some x=>have b:=List.find?_some hf;obtain⟨f,d⟩:=List.getElem?_of_mem (List.mem_of_find?_eq_some hf);rw[hn f x d]at b;simp only[beq_iff_eq]at b;have j:=(List.getElem?_eq_some_iff.1 d).1;have k:=(List.getElem?_eq_some_iff.1 hc).1;have e:=rS SE SE b;subst e;rw[d]at hc;exact hc
def mH{w:World}{q:Nat}{T:TypeId}(h:∃a c1 c2:Value,w.heap[q]?=some (.cells #[a,c1,c2] T))(o i:Nat)(u:Value)(hi:i<3):∃a c1 c2:Value,(w.setCell ⟨o,i,none⟩ u).heap[q]?=some (.cells #[a,c1,c2] T):=by
 obtain⟨a,c1,c2,h⟩:=h;by_cases e:q=o;subst e;have b:=jO (i:=i) (u:=u) h;have c:i=0\/i=1\/i=2:=SE
 rcases c with rfl|rfl|rfl;exact⟨_,_,_,b⟩;exact⟨_,_,_,b⟩;exact⟨_,_,_,b⟩;exact⟨a,c1,c2,(Pd _ _ _ _ e).T h⟩
def kT.Im(d:Nat)(s:St):Nat:=1+ku d s.th+ku d s.el
def kT.tJ{d k:Nat}{l:List St}{s:St}(h:l[k]?=some s):ku (d+1) (l.take (k+1))=ku (d+1) (l.take k)+Im d s:=by rw[List.take_add_one,h];simp[ku,Im]
structure nj(X:Nat->Prop)(w w':World):Prop where
 os:w'.os=w.os
 tape:w'.tape=w.tape
 output:w'.output=w.output
 size:w.heap.size<=w'
 B:∀k,k<w.heap.size->¬X k->w'.heap[k]?=w.heap[k]?
def nj.refl(X w):nj X w w:=⟨rfl,rfl,rfl,O9 _,λ_ _ _=>rfl⟩
def nj.T{X a b c}(h:nj X a b)(k:nj X b c):nj X a c:=
 ⟨k.os.T h.os,k.tape.T h.tape,k.output.T h.output,Pj h.size k.size,λi hi hx=>(k.B i (O1 hi h.size) hx).T (h.B i hi hx)⟩
def nj.of{X w w'}(h:Below w.heap.size w w'):nj X w w':=⟨h.os,h.tape,h.output,h.size,λk a _=>h.B k a⟩
def nj.grown{X w w'}{q:Nat}(h:w.grownBy w' (some q))(a:X q):nj X w w':=⟨h.os,h.tape,h.output,h.size,λk b hx=>h.B k b (by intro e;injection e with e;exact hx (e▸a))⟩
def nj.M{X a w w'}(h:nj X w w')(hx:∀k,X k->a k):nj a w w':=⟨h.os,h.tape,h.output,h.size,λk b hy=>h.B k b λc=>hy (hx k c)⟩
def Bb(a cb:Nat):Nat->Prop:=λq=>q=a\/q=cb
def six(i:Nat)(hi:i<100):(Lib.decDigits i).length<=20:=by by_cases h:i<10;rw[Lib.decDigits_one h];simp;rw[Lib.decDigits_two h hi];simp
def kT.oD(a:List Fg)(name:List UInt8):Bool:=a.any λx=>x.name==name
def kT.KE{c k:Nat}{a}(hn:c<=90)(h:qG c a){x}(hx:a[k]?=some x):oD (a.take k) x.name=false:=by
 cases hq:oD (a.take k) x.name with
 |false=>rfl
 |true=>
  unfold oD at hq;rw[List.any_eq_true]at hq;obtain⟨d,hy,e⟩:=hq;obtain⟨f,b⟩:=List.getElem?_of_mem hy;rw[List.getElem?_take]at b;split at b;case isFalse=>simp at b
  case isTrue j=>have g:=h.2 f d b;have i:=h.2 k x hx;have l:=(List.getElem?_eq_some_iff.1 hx).1;have m:=h.1;rw[g,i]at e;simp only[beq_iff_eq]at e;unfold nm at e;injection e with _ e;injection e with e _;have:=congrArg UInt8.toNat e;simp at this;omega
def EM:mg 141:=λ_ _=>SH
def kT.Mh{n m k:Nat}{b}(h:mU n m b){x}(hx:b[k]?=some x):∀c∈b.take k,(c.a,c.b)≠(x.a,x.b):=by
 intro c hy e;obtain⟨f,a⟩:=List.getElem?_of_mem hy;rw[List.getElem?_take]at a;split at a;case isFalse=>simp at a
 case isTrue g=>have i:=(List.getElem?_eq_some_iff.1 hx).1;have j:=h.2;have d:=List.pairwise_iff_getElem.1 j f k (by rw[List.length_map];omega) (by rw[List.length_map];exact i) g;obtain⟨l,a⟩:=List.getElem?_eq_some_iff.1 a;obtain⟨_,hx⟩:=List.getElem?_eq_some_iff.1 hx;rw[List.getElem_map,List.getElem_map,a,hx]at d;exact d e
def kT.GY{a:List Co}{k:Nat}(g:a.length<=3)(j:k<a.length)(hn:∀i c,a[i]?=some c->c.name=kx i):((a.take k).find? λx=>x.name==kx k)=none:=by
 rw[List.find?_eq_none];intro d hy e;obtain⟨f,b⟩:=List.getElem?_of_mem hy;rw[List.getElem?_take]at b;split at b;case isFalse=>simp at b
 case isTrue l=>rw[hn f d b]at e;simp only[beq_iff_eq]at e;have:=rS SE SE e;omega
def kT.I2{b k:Nat}{a}(h:qG b a):oD a (kx k)=false:=by
 cases hq:oD a (kx k)with
 |false=>rfl
 |true=>unfold oD at hq;rw[List.any_eq_true]at hq;obtain⟨c,hy,e⟩:=hq;obtain⟨d,f⟩:=List.getElem?_of_mem hy;rw[h.2 d c f]at e;simp[nm,kx]at e
def kT.Gv{c}{a b:Nat}(d:a<90)(hb:b<90)(h:nm c a=nm c b):a=b:=by unfold nm at h;injection h with _ h;injection h with h _;have:=congrArg UInt8.toNat h;simp at this;omega
def vY{w:World}{b o i:Nat}{v u:Value}{T c:TypeId}(h:w.heap[b]?=some (.cells #[v] T))(a:∃c1 c2 c3:Value,w.heap[o]?=some (.cells #[c1,c2,c3] c)):(w.setCell ⟨o,i,none⟩ u).heap[b]?=some (.cells #[v] T):=by refine(Po _ _ _ _ ?_).T h;intro e;obtain⟨c1,c2,c3,a⟩:=a;have d:b=o:=e;rw[<-d,h]at a;injection a with a;injection a with a;have:=PL Array.size a;simp at this
def jT.solo{a:Type}{R:Rel a}{k:Nat}(ok:kF R k){S w}{b:Nat}{v T}{x:a}(hb:w.heap[b]?=some (.cells #[v] T))(hr:R S w [v] x):jT R (λq=>S q\/q=b) w (.slice b 1 1) [x]:=by
 refine⟨some ⟨b,0,none⟩,1,[[v]],rfl,SG,SE,λ_=>⟨b,0,rfl,.inr rfl,λc u hu=>?_⟩,⟨ok.M hr λq d=>.inl d,trivial⟩⟩;have e: #[v][c]?=some u:=by simpa using hu
 rw[Pk];exact jU hb c u e
def I5(n:List UInt8)(name v1 v2)(i:v1.oneCell'=true)(j:v2.oneCell'=true)(b)(c c1:Nat)(d)(e c2:Nat)(f:v1=.slice b c c1)(g:v2=.slice d e c2)(a:Nat)(w)(hn:w.cell? ⟨a,1,none⟩=some (tx name))(hb:a<w.heap.size):
  Calls prog 206 #[.agg #[tx n,v1,v2],.pointer a] w (kd (.bool (n==name)) w):=by
 subst f g;have k:=mA n;have l:=mA name
 go_enter func206,ntmps206
 go_wp2;go_ret;exact⟨rfl,Ba _ _⟩
def EO:mg 206:=λ_ _=>SH
def kT.BX(a:List Co):Nat->St->Prop
 |0,_=>False
 |d+1,s=>(1<=s.kind/\s.kind<=10)/\s.kA.length<=5/\(∀e∈s.kA,Go.Proofs.YtjoamapacifofaaGreatDoor.lT De e)/\(s.kind=6->∃x∈a,x.name=s.name)/\(∀x∈s.th,BX a d x)/\∀x∈s.el,BX a d x
def oK:Rel (List (List UInt8)):=λS w r l=>∃v,r=[v]/\jT kh S w v l
def kT.mn.le{a b:List In}{n m:Nat}(h:mn a n b)(hm:n<=m):mn a m b:=by obtain⟨l,c,e,d⟩:=h;exact⟨l,c,SE,d⟩
def kT.mn.snoc{b a c:List In}{n m:Nat}(h:mn b n a){x:In}(d:c=a++[x])(hx:oI (a.length+1) x)(hm:n+1<=m):mn b m c:=h.T (mn.one d hx) hm
def kT.pd(l:List Int):Array Go.Value:=(l.map λx=>Go.Value.int .i64 x).toArray
def kT.G0{l}{i:Nat}{x:Int}(h:l[i]?=some x):(pd l)[i]?=some (.int .i64 x):=by simp[pd,h]
def xi:mg 187:=λ_ _=>SH
def ET(n:Nat):madeCells #[.int .i64 0] n=pd (List.replicate n 0):=by apply Array.ext_getElem?;intro i;by_cases h:i<n;simp[madeCells,pd,h,Nat.mod_one];simp[madeCells,pd,h]
def kT.oC(l:List (List UInt8))(x:List UInt8):List (List UInt8):=if x∈l then l else l++[x]
def kT.G3(l x):(oC l x).length<=l.length+1:=by unfold oC;split<;>simp
def kT.vZ(l x):x∈oC l x:=by unfold oC;split;assumption;simp
def kT.G4{l x a}(h:a∈l):a∈oC l x:=by unfold oC;split;exact h;exact List.mem_append_left _ h
def mQ(T:TypeId)(w:World)(b n:Nat):Prop:=∃a:Array Value,w.heap[b]?=some (.cells a T (0,0))/\a.size=n/\∀u∈a.toList,u.oneCell'=true
def mQ.cells{T w}{b n:Nat}(h:mQ T w b n):∃l:List Value,l.length=n/\(∀u∈l,u.oneCell'=true)/\∀a u,l[a]?=some u->w.cell? ⟨b,a,none⟩=some u:=by obtain⟨c,d,e,f⟩:=h;exact⟨c.toList,by simpa using e,f,λa u hu=>jU d a u (by simpa using hu)⟩
def wa(z)(n:Nat)(hz:0<z.size):∀u∈(madeCells z n).toList,u∈z.toList:=by intro u hu;simp only[madeCells,Array.toList_map,Qo]at hu;obtain⟨i,_,rfl⟩:=hu;have a:i % z.size<z.size:=Rz _ hz;rw[getElem!_pos z (i % z.size) a];simp
def CQ{w}{b n:Nat}(h:w.heap[b]?=some (.cells (madeCells #[.int .i64 0,.int .i64 0,Nl] (n*3)) 223 (0,0))):mQ 223 w b (n*3):=⟨_,h,QO _ _,λu hu=>by have:=wa _ _ SF u hu;simp at this;rcases this with rfl|rfl<;>rfl⟩
def CR{w}{b n:Nat}(h:w.heap[b]?=some (.cells (madeCells #[false] n) 4 (0,0))):mQ 4 w b n:=⟨_,h,QO _ _,λu hu=>by have:=wa _ _ SF u hu;simp at this;subst this;rfl⟩
def Gy(w:World)(e:Ending)(w':World):Prop:=∃(A:Option Addr) (n c:Nat),e=.returned (.slice A n c)/\Below w w w'
def xM:(219:TypeId)≠220:=SF
abbrev ta:=(.cells #[Nl,Nl,Nl] 164:Go.Obj)
def MF(a cb:Nat)(C:Array Value)(b:ByteArray)(B:Nat)(wr x:World):Prop:=
 Below B wr x/\x.heap[cb]?=some (.cells (C++ #[.string b,Em,Em,.int .i64 0]) 215 (0,0))/\x.heap[a]?=some (.cells #[Em,Em,.int .i64 0] 149)
abbrev oi:=(.cells #[Em,Em,.int .i64 0] 149:Go.Obj)
def vv(o:Obj):Prop:=∀a b,o≠.cells a 5 b
def lC{a T b}(h:T≠5):vv (.cells a T b):=λ_ _ e=>by injection e with _ e _;exact h e
def Gd:(171:TypeId)≠5:=SF
def liesBuilder:liesAt prog prog.depth 171 (3/prog.cellsOf 171) 0 169 1=true:=SH
def Du(S:Nat->Prop)(B b:Nat)(w:World):Prop:=∀q,S q->q<w/\q≠b/\(q<B\/∃o,w.heap[q]?=some o/\vv o)
def zw:∀x∈shapes,x.2.2.2.length<=10:=SF
def J4(B:Nat):Prop:=3<B/\8<B/\4<B
abbrev wi(a):=(.cells (madeCells #[Em] a) 9:Go.Obj)
def ru{a:Type}(R:Rel a)(n:Nat)(xs:List a)(w:World)(e:Ending)(w':World):Prop:=e=.returned (.slice w n n)/\jT R (Nw w w') w' (.slice w n n) xs/\Below w w w'
def E1:mg 151:=λ_ _=>SH
def E2:mg 101:=λ_ _=>SH
abbrev vl(a):=(.cells (madeCells #[Em,Nl,Nl] (a*3)) 125:Go.Obj)
def E3:mg 64:=λ_ _=>SH
abbrev vj(a):=(.cells (madeCells #[Em,Nl,Nl] (a*3)) 112:Go.Obj)
def E5:mg 60:=λ_ _=>SH
abbrev tn:=(.cells #[.pointer none,Nl,.int .i64 0] 171:Go.Obj)
def oh(k:IntKind)(a:Array Value)(o n:Nat):Prop:=∀i,i<n->∃x:Int,a[o+i]?=some (.int k x)
def DV(n:Nat):oh .u8 (madeCells #[.int .u8 0] n) 0 n:=λi hi=>⟨0,by simp[madeCells,hi,Nat.mod_one]⟩
abbrev wg(a):=(.cells (madeCells #[.int .u8 0] a) 5:Go.Obj)
abbrev uc:=(.cells (madeCells #[.int .u8 0] 8) 5:Go.Obj)
def Ji(n:Nat):oh .u32 (Array.replicate n (.int .u32 0)) 0 n:=λi hi=>⟨0,by simp[hi]⟩
abbrev Ip:Array Value:=#[.int .u32 0,.int .u32 0,.int .u32 0,.int .u32 0,.int .u32 0,.int .u32 0,.int .u32 0,.int .u32 0,.int .u32 0,.int .u32 0,.int .u32 0,.int .u32 0,.int .u32 0,.int .u32 0,.int .u32 0,.int .u32 0,.int .u32 0,.int .u32 0,.int .u32 0,.int .u32 0,.int .u32 0,.int .u32 0,.int .u32 0,.int .u32 0,.int .u32 0,.int .u32 0,.int .u32 0,.int .u32 0,.int .u32 0,.int .u32 0,.int .u32 0,.int .u32 0,.int .u32 0,.int .u32 0,.int .u32 0,.int .u32 0,.int .u32 0,.int .u32 0,.int .u32 0,.int .u32 0,.int .u32 0,.int .u32 0,.int .u32 0,.int .u32 0,.int .u32 0,.int .u32 0,.int .u32 0,.int .u32 0,.int .u32 0,.int .u32 0,.int .u32 0,.int .u32 0,.int .u32 0,.int .u32 0,.int .u32 0,.int .u32 0,.int .u32 0,.int .u32 0,.int .u32 0,.int .u32 0,.int .u32 0,.int .u32 0,.int .u32 0,.int .u32 0]
def zero64:(Ip:Array Value)=Array.replicate 64 (.int .u32 0):=SH
def Nv:Value->Nat
 | .slice _ n _=>n
 |_=>0
abbrev so:=(.cells #[Em,false] 107:Go.Obj)
def qC{x a:Int}:Lib.compareInt x a=0↔x=a:=by unfold Lib.compareInt;split;simp;omega;split;simp;omega;simp;omega
def zy{xs ys:List Int}{k:Nat}{x:Int}(h:xs.take k=ys.take k)(hx:xs[k]?=some x)(hy:ys[k]?=some x):xs.take (k+1)=ys.take (k+1):=by rw[PM,PM,h,hx,hy]
def se:prog.globalNamed "internal/strconv.uint64pow10" =some 1:=SH
def AR(i:Nat):Lib.itoa (i:Int)=Lib.decDigits i:=by unfold Lib.itoa;rw[Pn SE,PZ]
abbrev yd(a):=(.cells (madeCells #[Value.string ⟨#[]⟩] a) 9:Go.Obj)
def ke.Ho:∀x∈syms,1<=x.length/\x.length<=2:=SF
def L.rB:prog.underlying 331=some (.array 39 9):=SH
def L.C8:prog.underlying 295=some (.array 25 9):=SH
def pG.opers:List (List UInt8):=[[111,114],[97,110,100],[61,61],[33,61],[60],[60,61],[62],[62,61],[43],[45],[42],[47],[37]]
abbrev ts:=(.cells #[.int .u8 0,Em,.int .i64 0] 203:Go.Obj)
abbrev sC:=(.cells #[.string ⟨#[45]⟩,.int .u8 9,.string ⟨#[110,111,116]⟩,.int .u8 10] 359:Go.Obj)
abbrev sa:=(.cells #[.string ⟨#[42]⟩,.int .u8 11,.string ⟨#[47]⟩,.int .u8 12,.string ⟨#[37]⟩,.int .u8 13] 359:Go.Obj)
abbrev te:=(.cells #[.string ⟨#[43]⟩,.int .u8 14,.string ⟨#[45]⟩,.int .u8 15] 359:Go.Obj)
abbrev mw:=(.cells #[.string ⟨#[61,61]⟩,.int .u8 16,.string ⟨#[33,61]⟩,.int .u8 17,.string ⟨#[60]⟩,.int .u8 18,.string ⟨#[60,61]⟩,.int .u8 19,.string ⟨#[62]⟩,.int .u8 20,.string ⟨#[62,61]⟩,.int .u8 21] 359:Go.Obj)
abbrev va:=(.cells #[.string ⟨#[97,110,100]⟩,.int .u8 22] 359:Go.Obj)
abbrev vm:=(.cells #[.string ⟨#[111,114]⟩,.int .u8 23] 359:Go.Obj)
abbrev pr(a):=(.cells #[.pointer a] 132:Go.Obj)
abbrev tc(a):=(.cells #[.func (.func 209) #[] #[.pointer (some ⟨a+1+1,0,none⟩),.pointer a]] 172:Go.Obj)
abbrev oR(a b):=(.cells #[tx a,Nl,.slice b 1 1] 112:Go.Obj)
abbrev vi:=(.cells #[.string ⟨#[50]⟩,.string ⟨#[51]⟩] 9:Go.Obj)
def JM:Hd:=⟨[103,101,116],[[105],[106]],[]⟩
def pN:Co:=⟨[98,97,99,107],[],[[JM]]⟩
def J0:List UInt8:=[116,52,32,98,97,99,107,58,32,109,101,115,115,97,103,101,32,48,32,102,114,111,109,32,102,114,111,110,116,32,103,101,116,40,49,44,32,55,41]
abbrev vc:=(.cells #[.int .i64 1,.int .i64 7] 2:Go.Obj)
def narrateKeys.Mq:(Rows.narrateKeysRow.unfollowed==Tryz.pinned.checked.prog.unfollowed 3)=true:=by kernel_rfl
def narrateKeys.JD:(Rows.narrateKeysRow.named==Tryz.pinned.checked.prog.varsNamed 3)=true:=by kernel_rfl
def narrateKeys.BR:(Rows.narrateKeysRow.plainKeys==Tryz.pinned.checked.prog.plainKeys)=true:=by kernel_rfl
def narrateKeys.JE:Tryz.pinned.checked.prog.stopsHeard=true:=by kernel_rfl
def narrateKeys.JF:false=Tryz.pinned.checked.prog.looks []:=by kernel_rfl
