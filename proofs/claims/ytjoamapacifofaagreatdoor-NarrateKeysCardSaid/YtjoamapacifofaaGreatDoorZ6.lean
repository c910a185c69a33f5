import Derived.Test.YtjoamapacifofaaGreatDoorZ2
import Derived.Test.YtjoamapacifofaaGreatDoorZ4
set_option maxRecDepth 1000000
set_option maxHeartbeats 32000000
set_option linter.all false
namespace Go.Proofs.YtjoamapacifofaaGreatDoor
open RowKit Go.Proofs.Tryz kT Maps nu pG ChangeShapes WideShapes ChangeAt
def nB{S}{e:Nat}{sc}{left d:Nat}{w a}{op n:Int}{name:List UInt8}{A:Option Addr}{m c:Nat}{args:List Ex}(i:kr S a e sc left)(hg:w.grownBy a (some e))(j:e<w.heap.size)(hS:∀b,S b->b<w.heap.size)
  (hv:jT (ko .i64 d) (λb=>w.heap.size<b/\b<a) a (.slice A m c) args) (he:kY sc (d+1) (.mk op name n args)) (u0 u1 u2 u3:Value):
  mE S e sc left (d+1) w (.returned (.agg (lE op name n A m c))) ((((a.setCell w u0).setCell ⟨w,1,none⟩ u1).setCell ⟨w,2,none⟩ u2).setCell ⟨w,3,none⟩ u3):=by
 have hz:w≠e:=SE
 have f:∀b,S b->b≠w:=λb hb=>SC (hS b hb)
 have g:∀b,(w.heap.size<b/\b<a)->b≠w:=λb hb=>SE
 refine⟨op,n,name,A,m,c,.mk op name n args,rfl,⟨_,rfl,?_⟩,he,(((i.lR hz f).lR hz f).lR hz f).lR hz f,mq (mq (mq (mq hg)))⟩;refine((((hv.lR (ko.ok _ _) g).lR (ko.ok _ _) g).lR (ko.ok _ _) g).lR (ko.ok _ _) g).M (ko.ok _ _) λb hb=>⟨SE,by simp only[O6];exact hb.2,SE⟩
def qc{S:Nat->Prop}{e:Nat}{sc:Sc}{left d:Nat}{w a:World}{o:Obj}{op n:Int}{name:List UInt8}{A:Option Addr}{m c:Nat}{args:List Ex}(f:w.heap.size<a)(g:kr S (a.alloc o) e sc left)(hg:w.grownBy (a.alloc o) (some e))(i:e<w)(hS:∀b,S b->b<w)
  (hv:jT (ko .i64 d) (λb=>w<b/\b<(a.alloc o).heap.size) (a.alloc o) (.slice A m c) args) (he:kY sc (d+1) (.mk op name n args)) (u0 u1 u2 u3:Value):
  mE S e sc left (d+1) w (.returned (.agg (lE op name n A m c))) (((((a.setCell w u0).setCell ⟨w,1,none⟩ u1).setCell ⟨w,2,none⟩ u2).setCell ⟨w,3,none⟩ u3).alloc o):=by
 have h:=nB g hg i hS hv he u0 u1 u2 u3;rw[PO o _ _ _ f,PO o _ _ _ (by rw[O6];exact f),PO o _ _ _ (by simp only[O6];exact f),PO o _ _ _ (by simp only[O6];exact f)]at h;exact h
def Cr(S)(a:Nat)(sc)(f d left:Nat)(w g)(Z:kr S g a sc left)(hg:w.grownBy g (some a))(aa:a<w.heap.size)(hS:∀b,S b->b<w.heap.size)(O:g.heap[w.heap.size]?=some (.cells qn 193))(hd:d+(f+1)=3)(P:∀W,kr S W a sc left->Calls prog 134 (tl a d) W (mE S a sc left (f+1) W))(u2 u3 ab ac ad ae af ag ah ai aj ak al am an ao ap aq ar au av aw ax ay az aA aB aC aD aE aF aG aH aI aJ aK aL aM aN aO aP aQ aR aS aT aU aV aW aX aY aZ ba bb bc bd be bf bg bh bi bj bk bl bm bn bo bp bq br bs bt bu bv bw bx bz bA bB bC bD bE bF bG bH bI bJ bK bL bM bN bO bP bQ bR bS bT bU bV bW bX bY bZ ca cb cc cd ce cf:Value):
  Code.wp prog (sW Tryz.f134 16) (bodyPost prog Tryz.f134 (mE S a sc left (f+1+1) w)) ⟨(Value.pointer a::Value.int .i64 (d:Int)::u2::u3::Value.pointer w::ab::ac::ad::ae::af::ag::ah::ai::aj::ak::al::am::an::ao::ap::aq::ar::au::av::aw::ax::ay::az::aA::aB::aC::aD::aE::aF::aG::aH::aI::aJ::aK::aL::aM::aN::aO::aP::aQ::aR::aS::aT::aU::aV::aW::aX::aY::aZ::ba::bb::bc::bd::be::bf::bg::bh::bi::bj::bk::bl::bm::bn::bo::bp::bq::br::bs::bt::bu::bv::bw::bx::bz::bA::bB::bC::bD::bE::bF::bG::bH::bI::bJ::bK::bL::bM::bN::bO::bP::bQ::bR::bS::bT::bU::bV::bW::bX::bY::bZ::ca::cb::cc::cd::ce::cf::[]).toArray,[]⟩ g:=by
 have cg:w.heap.size<g:=(O3.1 O).1;have ch:∀n:Nat,0<n->n<=1000->∀W,kr S W a sc left->Calls prog 86 #[.pointer a,n] W (mW S a sc left n W):=λn ci cj W K=>mX S a sc left n W K ci cj;have ck:=O;have cl:=hg;conv=>arg 2;whnf
 obtain⟨cm,Q⟩:∃l:List Int,l=[14,15,11,12,13,14]:=⟨_,rfl⟩
 have cn:=λW K=>ch 6 SE SE W K;have co:=Z.jP (O7 g sz none);go_wp21;apply(cn _ co).M;rintro e L ⟨v,hv,rfl,cp,y⟩;have cq:=(y.B g SG (λe=>by injection e with e;omega)).T (O2 g sz);obtain⟨op,z,cr,cs⟩:∃op:Int,cm[v]?=some op/\11<=op/\op<=15:=by rw[Q];have:v=0\/v=1\/v=2\/v=3\/v=4\/v=5:=SE;rcases this with rfl|rfl|rfl|rfl|rfl|rfl;exact⟨14,rfl,SE,SE⟩;exact⟨15,rfl,SE,SE⟩;exact⟨11,rfl,SE,SE⟩;exact⟨12,rfl,SE,SE⟩;exact⟨13,rfl,SE,SE⟩;exact⟨14,rfl,SE,SE⟩
 have db:L.cell? ⟨g,v,none⟩=some (.int .i64 op):=by refine jU cq v _ ?_;rw[Q]at z;have:v=0\/v=1\/v=2\/v=3\/v=4\/v=5:=SE;rcases this with rfl|rfl|rfl|rfl|rfl|rfl<;>(injection z with z;subst z;rfl)
 have dc:(0:Int)<=(v:Int):=SE
 have dd:(v:Int)<6:=SE
 have ct:=(y.B w (by rw[O4];omega) (λe=>by injection e with e;omega)).T ((Ph g _ cg).T ck);have cu:=jR cl (jR (O7 g sz (some a)) y);have cv:w.heap.size<L:=by have:=y.size;rw[O4]at this;omega
 have cw:=(And.intro cr cs)
 go_wp21;apply(P _ cp).M;rintro e c ⟨i,j,k,m,p,q,A,rfl,cx,cy,cz,M⟩;have cA:=(M.B w cv (λe=>by injection e with e;omega)).T ct;have cB:=jR cu M;have de:=M.size;have cC:w.heap.size<c:=SE
 go_wp21;have B:=O7 c (kk i k j m p q) none;have cD:=O2 c (kk i k j m p q);have cE:=(B.B w cC SG).T cA;have cF:=cz.jP B;have C:c<(c.alloc (kk i k j m p q)).heap.size:=SG
 have cG:=jR cB (kg B (some a));have cH:ko .i64 (f+1) (Eg L c a) (c.alloc (kk i k j m p q)) [.int .i64 i,tx k,j,.slice m p q] A:=(ko.ok .i64 (f+1)).jP cx (λb hb=>B.B b hb.2.1 SG);generalize c.alloc (kk i k j m p q)=t at*;obtain⟨⟨cI,cJ,cK,cL⟩,_⟩:=kn cD;have cM:kr S t.drew a sc left:=cF.jQ (Below.refl t t).drew
 have R:w.heap.size<t:=SE
 have df:IntKind.i64.wrap ((d:Int)+1)=(d:Int)+1:=Qv _ ⟨SE,SE⟩;go_region_with (go_at_call 134;refine Calls.M (P _ cM) ?_;rintro e r ⟨D,E,F,G,I,J,N,rfl,U,V,X,u⟩;have dg:=(Cb c 0 (u.B c C (λe=>by injection e with e;omega))).T cI;have dh:=(Cb c 1 (u.B c C (λe=>by injection e with e;omega))).T cJ;have di:=(Cb c 2 (u.B c C (λe=>by injection e with e;omega))).T cK;have dj:=(Cb c 3 (u.B c C (λe=>by injection e with e;omega))).T cL;have s:=(u.B w R (λe=>by injection e with e;omega)).T cE;have cN:=jN s 0;have cO:=jN s 1;have cP:=jN s 2;have cQ:=jN s 3;have dk:=jS s 0;have dl:=jS s 1;have dm:=jS s 2;have dn:=jS s 3;have cR:=U;have cS:=V;have cT:=X;have x:=u;have cU:t.heap.size<=r:=u.size;have Y:=O1 R cU;clear U V X u s);all_goals
  have cV:ko .i64 (f+1) (λb=>w<b/\b<r) r [.int .i64 i,tx k,j,.slice m p q] A:=(ko.ok .i64 (f+1)).M ((ko.ok .i64 (f+1)).jP cH (λb hb=>x.B b (show b<t from SC hb.2.1) (λe=>hb.2.2 (by injection e)))) (λb hb=>⟨SC hb.1,SC hb.2.1⟩);have cW:ko .i64 (f+1) (λb=>w<b/\b<r) r [.int .i64 D,tx F,E,.slice G I J] N:=(ko.ok .i64 (f+1)).M cR (λb hb=>⟨by have:t<=b:=hb.1;omega,hb.2.1⟩);have cX:=(jT.LQ (T:=193) (ko.ok .i64 (f+1)) cV cW (λb hb=>hb.2)).M (ko.ok .i64 (f+1)) (T:=λb=>w<b/\b<(r.alloc (.cells #[.int .i64 i,tx k,j,.slice m p q,D,tx F,E,.slice G I J] 193)).heap.size) (λb hb=>by rw[O4];rcases hb with hb|hb;exact⟨hb.1,SC hb.2⟩;omega);have cY:t.grownBy r (some a):=⟨x.os,x.tape,x.output,x.size,x.B⟩
  have cZ:=jR (jR cG cY) (O7 r (.cells #[.int .i64 i,tx k,j,.slice m p q,D,tx F,E,.slice G I J] 193) (some a));have da:=cT.jP (O7 r (.cells #[.int .i64 i,tx k,j,.slice m p q,D,tx F,E,.slice G I J] 193) none);go_wp21;refine Pa (v:=.agg #[.int .i64 op,tx [],.int .i64 0,.slice r 2 2]) ?_ rfl (qc (op:=op) (name:=[]) (n:=0) (args:=[A,N]) Y da cZ aa hS cX (.inr (.inr (.inr (.inr (.inr (.inr ⟨cw,rfl,rfl,A,N,rfl,cy,cS⟩)))))) _ _ _ _);simp[results,Tryz.results134,go_sem,cN,cO,cP,cQ,Y]
def uG{P:Ex->Prop}{S}{i:Nat}{sc}{left d:Nat}{T j w a}{op n:Int}{name:List UInt8}{A:Option Addr}{m c:Nat}{args:List Ex}(e:oX S i sc left T j w a)
  (hv:jT (ko .i64 d) (New w a) a (.slice A m c) args) (he:P (.mk op name n args)) (u0 u1 u2 u3:Value):
  EPost P S i sc left (d+1) w (.returned (.agg (lE op name n A m c))) ((((a.setCell w u0).setCell ⟨w,1,none⟩ u1).setCell ⟨w,2,none⟩ u2).setCell ⟨w,3,none⟩ u3):=by
 have hz:w≠i:=SC e.xp
 have f:∀b,S b->b≠w:=λb hb=>SC (e.hS b hb)
 have g:∀b,New w a b->b≠w:=λb hb=>SC hb.1
 refine⟨op,n,name,A,m,c,.mk op name n args,rfl,⟨_,rfl,?_⟩,he,(((e.hm.lR hz f).lR hz f).lR hz f).lR hz f,mq (mq (mq (mq e.hg)))⟩;refine((((hv.lR (ko.ok _ _) g).lR (ko.ok _ _) g).lR (ko.ok _ _) g).lR (ko.ok _ _) g).M (ko.ok _ _) λb hb=>⟨SC hb.1,by simp only[O6];exact hb.2,SD hb.1 e.xp⟩
def nU{P:Ex->Prop}{S}{e:Nat}{sc}{left d:Nat}{T g w a}{o:Obj}{op n:Int}{name:List UInt8}{A:Option Addr}{m c:Nat}{args:List Ex}(f:oX S e sc left T g w a)
  (hv:jT (ko .i64 d) (New w (a.alloc o)) (a.alloc o) (.slice A m c) args) (he:P (.mk op name n args)) (u0 u1 u2 u3:Value):
  EPost P S e sc left (d+1) w (.returned (.agg (lE op name n A m c))) (((((a.setCell w u0).setCell ⟨w,1,none⟩ u1).setCell ⟨w,2,none⟩ u2).setCell ⟨w,3,none⟩ u3).alloc o):=by
 have b:=f.lt;have h:=uG (f.alloc o) hv he u0 u1 u2 u3;rw[PO o _ _ _ b,PO o _ _ _ (by rw[O6];exact b),PO o _ _ _ (by simp only[O6];exact b),PO o _ _ _ (by simp only[O6];exact b)]at h;exact h
def oX.lR{S}{a:Nat}{sc}{left:Nat}{T c w d}(h:oX S a sc left T c w d)(i:Nat)(u):oX S a sc left T (c.setIfInBounds i u) w (d.setCell ⟨w,i,none⟩ u):=
 ⟨jO h.hz,h.hm.lR (SC h.xp) (λb hb=>SC (h.hS b hb)),mq h.hg,h.xp,h.hS⟩
def rM{c:Type}{R:Rel c}{k:Nat}(ok:kF R k){w a v}{xs:List c}(h:jT R (New w a) a v xs)(i:Nat)(u):jT R (New w (a.setCell ⟨w,i,none⟩ u)) (a.setCell ⟨w,i,none⟩ u) v xs:=
 (h.lR ok λb hb=>SC hb.1).M ok λb hb=>⟨hb.1,by rw[O6];exact hb.2⟩
def oX.lh{S:Nat->Prop}{c:Nat}{sc:Sc}{left:Nat}{T:TypeId}{e f g i j k:Value}{w d:World}(h:oX S c sc left T #[e,f,g,i,j,k] w d)(u0 u1 u2 u3 a b:Value):oX S c sc left T #[u0,u1,u2,u3,a,b] w (lh d w.heap.size u0 u1 u2 u3 a b):=
 (((((h.lR 0 u0).lR 1 u1).lR 2 u2).lR 3 u3).lR 4 a).lR 5 b
def nd{b:Type}{R:Rel b}{k:Nat}(ok:kF R k){w a v}{xs:List b}(h:jT R (New w a) a v xs)(u0 u1 u2 u3 c d):jT R (New w (lh a w u0 u1 u2 u3 c d)) (lh a w u0 u1 u2 u3 c d) v xs:=
 rM ok (rM ok (rM ok (rM ok (rM ok (rM ok h _ _) _ _) _ _) _ _) _ _) _ _
def Good.lR{a z:Nat}(w)(i:Nat)(u):Good a z w (w.setCell ⟨z,i,none⟩ u):=⟨by rw[O6];exact O9 _,λb _ _ h=>Pd _ _ _ _ h⟩
def Good.lh{c z:Nat}(w:World)(u0 u1 u2 u3 a b:Value):Good c z w (lh w z u0 u1 u2 u3 a b):=
 ((((((Good.lR w 0 u0).T (Good.lR _ 1 u1)).T (Good.lR _ 2 u2)).T (Good.lR _ 3 u3)).T (Good.lR _ 4 a)).T (Good.lR _ 5 b))
def lL.lf{w0}{a:Nat}{S}(d:a<w0.heap.size)(hS:∀b,S b->b<w0.heap.size/\b≠a){x v w w'}(hg:Good a w0.heap.size w w')(h:lL w0 S x v w):lL w0 S x v w':=by
 obtain⟨b,o,e,hb,hc⟩:=h;have c:b<w/\b≠a/\b≠w0:=by rcases hb with hb|hb;exact⟨hb.2,SC hb.1,SC hb.1⟩;have:=hS b hb.1;exact⟨hb.2,this.2,SE⟩
 refine⟨b,o,e,?_,(Cb b o (hg.2 b c.1 c.2.1 c.2.2)).T hc⟩;rcases hb with hb|hb;exact .inl ⟨hb.1,O1 hb.2 hg.1⟩;exact .inr ⟨hb.1,O1 hb.2 hg.1⟩
def mv.lf{b:Nat}{w0 w w'}{a d:Nat}{o n:Int}{name A}{m c:Nat}{x}(e:b<w0.heap.size)(hg:Good b w0.heap.size w w')(h:mv w0 a d o n name A m c x w):mv w0 a d o n name A m c x w':=
 ⟨⟨h.1.1,O1 h.1.2 hg.1⟩,(hg.2 a h.1.2 (SC h.1.1) (SC h.1.1)).T h.2.1,GP e hg h.2.2⟩
def kr.lh{S:Nat->Prop}{w:World}{a:Nat}{sc:Sc}{left:Nat}(h:kr S w a sc left){z:Nat}(hz:z≠a)(hS:∀b,S b->b≠z)(u0 u1 u2 u3 c d:Value):kr S (lh w z u0 u1 u2 u3 c d) a sc left:=
 (((((h.lR hz hS).lR hz hS).lR hz hS).lR hz hS).lR hz hS).lR hz hS
def Mx.next{S}{B z bp:Nat}{w0 c w}{n:Nat}{r}{v:Nat}{Al}{x y:Nat}{A C}{D E:Nat}{g}{i j:Nat}{s t}{c4 d k:Nat}(h:Mx S B z bp w0 c n r v Al x y A C D E g i j s t c4 d k)(hg:c.grownBy w (some B)){l:Option Addr}{nk p m:Nat}{q:List Lk}
  (hF:w.heap[B]?=some (.cells #[tx lW,.slice g i j,.slice l nk p,Nl] 37)) (F:jT mY (λb=>c<=b/\b<w) w (.slice l nk p) q) (G:mU n m q) (hm:m<=n*n):Mv S B z w0 w n r g i j l nk p s q t c4 d k:=by
 have L:B<c:=(O3.1 h.hF).1;have M:=h.zB;have hs:=hg.size;have f:∀b,b<c.heap.size->b≠B->w.heap[b]?=c.heap[b]?:=λb I J=>hg.B b I (λe=>J (by injection e));refine⟨(f z SE SE).T h.hz,hF,h.zB,⟨hg.os.T h.qi.os,hg.tape.T h.qi.tape,hg.output.T h.qi.output,SC h.qi.size,λb hb=>(f b (SC h.qi.size) SE).T (h.qi.B b hb)⟩,h.Ib.jP tv.ok (λb a=>f b (SC ((h.hS b a).1)) (SC ((h.hS b a).1))),h.hS,h.n1,h.n3,
  (h.LH.jP lM.ok (λb a=>f b a.2 (SC a.1))).M lM.ok (λb a=>⟨a.1,O1 a.2 hs⟩),h.LI,h.f2,F.M mY.ok (λb a=>⟨SC a.1,a.2⟩),G.up hm,
  λu K=>(Cb d (k+u) (f d h.b8.2 (by have:=h.b8.1;show d≠B;omega))).T (h.h8 u K),⟨h.b8.1,O1 h.b8.2 hs⟩⟩
def B6.next{S}{B z bp:Nat}{w0 d w}{n:Nat}{p}{q:Nat}{Al}{r s:Nat}{t u}{v x:Nat}{y}{c4:Nat}(h:B6 S B z bp w0 d n p q Al r s t u v x y c4)(hg:d.grownBy w (some B)){i:Option Addr}{f j:Nat}{k:List Fg}
  (hF:w.heap[B]?=some (.cells #[tx lW,.slice i f j,Nl,Nl] 37)) (A:jT lM (λb=>d<=b/\b<w) w (.slice i f j) k) (C:qG f k) (D:f<=2):
  Mx S B z bp w0 (w.alloc sh) n p q Al r s t u v x i f j k y c4 w 0:=by
 have K:B<d:=(O3.1 h.hF).1;have E:=h.zB;have F:=h.My;have hs:=hg.size;have c:=O7 w sh none;have g:∀b,b<d.heap.size->b≠B->(w.alloc sh).heap[b]?=d.heap[b]?:=λb G I=>(c.B b SE SG).T (hg.B b G (λe=>I (by injection e)));have l:=O2 w sh;refine⟨(g z SE SE).T h.hz,(c.B B SE SG).T hF,(g bp SE SE).T h.LC,F,E,⟨c.os.T (hg.os.T h.qi.os),c.tape.T (hg.tape.T h.qi.tape),c.output.T (hg.output.T h.qi.output),SD h.qi.size c.size,λb hb=>(g b (SC h.qi.size) SE).T (h.qi.B b hb)⟩,
  h.Ib.jP tv.ok (λb a=>g b (SC ((h.hS b a).1)) (SC ((h.hS b a).1))),h.Mz.jP pX.ok (λb a=>g b (SC ((h.hS b a).1)) (SC ((h.hS b a).1))),h.hS,h.n1,h.n3,
  (A.jP lM.ok (λb a=>c.B b a.2 SG)).M lM.ok (λb a=>⟨SC a.1,by rw[O4];have:=a.2;omega⟩),C,D,λm L=>?_,⟨SE,by rw[O4];omega⟩⟩
 have J:m=0\/m=1\/m=2:=SE
 rcases J with rfl|rfl|rfl
 .exact jN l 0
 .exact jN l 1
 .exact jN l 2
def DI:Dx me:=by intro q n h;simp at h;exact h.2
def uU.lh{z w0 w}{o:Nat}{u0 u1 u2 u3 c d}(e:w.heap[o]?=some z){a:Type}{R:Rel a}{k:Nat}(ok:kF R k){v}{xs:List a}(h:jT R (uU z w (Nw w0 w)) w v xs):jT R (λb=>Nw w0 w b/\b≠o) ((((((w.setCell o u0).setCell ⟨o,1,none⟩ u1).setCell ⟨o,2,none⟩ u2).setCell ⟨o,3,none⟩ u3).setCell ⟨o,4,none⟩ c).setCell ⟨o,5,none⟩ d) v xs:=
 have hs:∀b,(Nw w0 w b/\b≠o)->b≠o:=λ_ h=>h.2
 (((((uU.set e ok h).lR ok hs).lR ok hs).lR ok hs).lR ok hs).lR ok hs
def KG.sl{a c}{o:Nat}{C e}(h:KG a o C e c){d:Type}{R:Rel d}{k:Nat}(ok:kF R k){v}{xs:List d}(hs:jT R (Gt o a) a v xs):jT R (Gt o c) c v xs:=
 (hs.jP ok λb hb=>h.blk hb.2 (SC hb.1)).M ok λb hb=>⟨hb.1,O1 hb.2 h.s⟩
def kf.gt{a:Type}{R:Rel a}{T k:Nat}(ok:kF R k){P w}{lo o:Nat}{v}{xs:List a}(h:kf R T k P w lo v xs)(c:∀b,P b->o<b)(d:o<lo):jT R (Gt o w) w v xs:=
 (h.sl ok).M ok λb hb=>⟨by rcases hb.1 with h|h;exact c b h;omega,hb.2⟩
def ke.lH:Bool->List UInt8->Nat
 |_,[]=>0
 |false,c::t=>if nx c.toNat then lH false t+1 else if pfx (c::t) [47,47]then lH true t+1 else 0
 |true,c::t=>if c==10 then lH false t+1 else lH true t+1
def ke.rq:∀b l,lH b l<=l.length
 |true,[]=>by simp[lH]
 |false,[]=>by simp[lH]
 |false,c::t=>by have a:=rq false t;have d:=rq true t;simp only[lH,List.length_cons];split;omega;split<;>omega
 |true,c::t=>by have a:=rq false t;have d:=rq true t;simp only[lH,List.length_cons];split<;>omega
def ke.wE:∀l,lH false l=pre nx l+lH false (l.drop (pre nx l))
 |[]=>by simp[pre_nil,lH]
 |c::t=>by
  rw[mL];split
  rename_i h
  have:=wE t;rw[List.drop_succ_cons,lH,if_pos h];omega;simp
def ke.xZ:∀l,lH true l=pre od l+lH false (l.drop (pre od l))
 |[]=>by simp[pre_nil,lH]
 |c::t=>by
  rw[mL];split
  rename_i h
  have:=xZ t;have hc:(c==10)=false:=by rw[beq_eq_false_iff_ne];rintro rfl;simp[od]at h
  rw[List.drop_succ_cons,lH,hc];simp only[Bool.false_eq_true,if_false];omega
  rename_i h
  have hc:c=10:=by have a:(c.toNat:Int)=10:=(by simpa[od]using h);apply UInt8.toNat.inj;exact Int.ofNat.inj a
  subst hc;simp[lH,nx]
def ke.zr(l)(h:pfx l [47,47]=true):lH false l=pre od l+lH false (l.drop (pre od l)):=by obtain⟨t,rfl⟩:=DK l h;rw[<-xZ];simp[lH,nx,h]
def ke.skip_none(l:List UInt8)(h:pfx (l.drop (pre nx l)) [47,47]=false):lH false (l.drop (pre nx l))=0:=by
 have hd:∀(l:List UInt8) c t,l.drop (pre nx l)=c::t->nx c.toNat=false:=by
  intro l;induction l with
  |nil=>intro c t h;simp[pre_nil]at h
  |cons a l b=>
   intro c t h;rw[mL]at h;split at h;exact b c t (by simpa using h)
   rename_i hn
   simp at h;rw[<-h.1];simpa using hn
 match hl:l.drop (pre nx l)with
 |[]=>simp[lH]
 |c::t=>rw[hl]at h;rw[lH,if_neg (by rw[hd l c t hl];simp),if_neg (by rw[h];simp)]
def ke.CA(l)(k a:Nat)(h:k+lH false (l.drop k)=lH false l)(b:pre nx (l.drop k)=a):
  k+a+lH false (l.drop (k+a))=lH false l:=by
 rw[wE,b,List.drop_drop]at h;omega
def ke.GV(l)(k a:Nat)(h:k+a+lH false (l.drop (k+a))=lH false l)(b:pre nx (l.drop k)=a)(hp:pfx (l.drop (k+a)) [47,47]=false):
  lH false l=k+a:=by
 have:=skip_none (l.drop k);rw[b,List.drop_drop]at this;rw[this hp]at h;omega
def ke.EA(s:ByteArray)(h:0<s.size)(a:lp (s[0]).toNat=false)(hd:lX (s[0]).toNat=true)(hn:pre lX s.data.toList≠1)(b:(((s[0]).toNat:Int) !=48)=false):
  nE s.data.toList=(5,s.size):=by
 unfold nE;rw[oA s h,if_neg (by rw[a];simp),if_pos hd,if_neg]
 .simp
 .rw[b];simpa using hn
def sY(n:Int)(w):Calls prog 163 #[.int .u8 n] w λe w'=>e=.returned (.bool (ke.lr n))/\w=w':=by
 cases h1:ke.lp n<;>cases h2:ke.lX n<;>cases h3:(n==95);all_goals
  (go_enter func163,ntmps163;go_wp2_with (first|(go_at_call 162;apply(nN _ _).M;rintro e w' ⟨rfl,rfl⟩)|(go_at_call 165;apply(oU _ _).M;rintro e w' ⟨rfl,rfl⟩));go_ret;exact⟨by simp[ke.lr,h1,h2,h3],rfl⟩)
def nV(f:FuncId)(p)(g:∀a w,Sem.run prog (callFunc f a) w=.ok (.enter f a) w)(hp:∀n w,Calls prog f #[.int .u8 n] w λe w'=>e=.returned (.bool (p n))/\w=w')(s w)(hs:s.size<=maxLen):
  Calls prog 158 #[.string s,.func (.func f) #[] #[]] w λe w'=>e=.returned (.int .i64 (ke.pre p s.data.toList))/\w=w':=by
 unfold maxLen at hs;have H:=O0 hp
 go_enter func158,ntmps158
 go_wp2
 go_loop [5] (λi=>∃k:Nat,k<=s.size/\i=k/\k<=ke.pre p s.data.toList) (λi=>s.size-(intOf i).toNat)
 .exact⟨0,Pb _,rfl,Pb _⟩
 obtain⟨k,j,rfl,c⟩:=hrel;by_cases d:k<s.size
 .cases hq:p (s[k].toNat:Int)
  .have b:=O0 (ke.xY p s k d c hq);go_wp2_with (apply(H.o _ _).M;rintro e w' ⟨rfl,rfl⟩);go_ret;exact⟨by rw[b.o];rfl,rfl⟩
  have b:=O0 (ke.xX p s k d c hq);go_wp2_with (apply(H.o _ _).M;rintro e w' ⟨rfl,rfl⟩)
  go_round
  .exact⟨k+1,SE,SJ,b.o⟩
  simp[intOf];omega
 have b:=O0 (ke.Ap p s k d c);go_wp2;go_ret;exact⟨by rw[b.o];rfl,rfl⟩
def qd(s)(w:World)(hs:s.size<=maxLen):
  Calls prog 158 #[.string s,.func (.func 163) #[] #[]] w λe w'=>e=.returned (.int .i64 (ke.pre ke.lr s.data.toList))/\w=w':=
 nV _ _ (λ_ _=>SH) sY s w hs
def mF{c}(hc:ke.lp c.toNat=true){k:Nat}(f:k<10):mm (nm c k)=true:=by
 have b:ke.sr (nm c k)=false:=by unfold ke.sr;rw[RQ];intro h;rw[Sd]at h;have a:∀x∈ke.words,x.length=2->(x[1]?.getD 0).toNat>=97:=SM;have d:=a _ h (by simp[nm]);simp[nm]at d;omega
 have e:(UInt8.ofNat (48+k)).toNat=48+k:=SK
 have a:ke.pre ke.lr (nm c k)=2:=by unfold nm;rw[ke.mL,PJ (by unfold ke.lr;rw[hc];rfl),ke.mL,PJ (by unfold ke.lr ke.lX;rw[e];simp;omega),ke.pre_nil]
 unfold mm;rw[b,a];simp[nm,hc]
def rT(k:Nat)(x)(hx:shapes[k]?=some x)(b:1<=k)(w)(hL:ln w):Calls prog 198 #[.int .u8 (k:Int)] w (kd (.tuple #[.agg #[.int .i64 (x.1:Int),.bool x.2.1,.int .i64 (x.2.2.1:Int),tx x.2.2.2],true]) w):=by
 have c:k<24:=by have:=(Pm.1 hx).1;rw[wF]at this;exact this
 have a:=pS hL k x hx 0 _ rfl;have d:=pS hL k x hx 1 _ rfl;have e:=pS hL k x hx 2 _ rfl;have f:=pS hL k x hx 3 _ rfl;have g:=hL.lt.1;rw[Pc]at a
 go_enter func198,ntmps198
 go_wp2;refine Pa (v:=.tuple #[.agg #[.int .i64 (x.1:Int),.bool x.2.1,.int .i64 (x.2.2.1:Int),tx x.2.2.2],true]) ?_ rfl ⟨rfl,Ba _ _⟩;simp[results,Tryz.results198,go_sem]
def kY.lf{sc}(lD:sc.ints<=3/\sc.params<=2):∀{d:Nat} {e:Ex},kY sc d e->lT d e
 |0,_,h=>h.elim
 |d+1,e,h=>by
  rcases h with⟨f,i,g,_,c⟩|⟨f,i,g,c⟩|⟨f,hn,g,c⟩|⟨f,_,i,g,a,c,j⟩|⟨f,_,i,g,c⟩|⟨f,i,g,a,c,j⟩|⟨f,i,g,a,b,c,j,n⟩
  exact lg (k:=1) f (by omega) rfl (by rw[c];rfl) (λh=>by simp at h) (λ_=>i) (λ_=>g) (λh=>absurd rfl h) (by rw[c];simp);exact lg (k:=4) f (by omega) rfl (by rw[c];rfl) (λh=>by simp at h) (λ_=>i) (λh=>by omega) (λ_=>g) (by rw[c];simp);exact lg (k:=5) f (by omega) rfl (by rw[c];rfl) (λ_=>by rcases hn with⟨k,p,e⟩|⟨k,p,e⟩<;>rw[e];exact mF letters.1 (by omega);exact mF letters.2.1 (by omega)) (λh=>by simp at h) (λh=>by omega) (λ_=>g) (by rw[c];simp);exact lg (k:=6) f (by omega) rfl (by rw[c];rfl) (λ_=>by rw[i];exact mF letters.2.2.1 (by omega)) (λh=>by simp at h) (λh=>by omega) (λ_=>g) (by rw[c];simpa using kY.lf lD j);exact lg (k:=8) f (by omega) rfl (by rw[c];rfl) (λ_=>by rw[i];exact mF letters.2.2.1 (by omega)) (λh=>by simp at h) (λh=>by omega) (λ_=>g) (by rw[c];simp);exact lg (k:=9) f (by omega) rfl (by rw[c];rfl) (λh=>by simp at h) (λ_=>i) (λh=>by omega) (λ_=>g) (by rw[c];simpa using kY.lf lD j);have l:∀m∈e.args,lT d m:=(by rw[c];intro m hy;simp at hy;rcases hy with rfl|rfl;exact kY.lf lD j;exact kY.lf lD n);have q:e.op=11\/e.op=12\/e.op=13\/e.op=14\/e.op=15:=SE;rcases q with f|f|f|f|f;exact lg (k:=11) f SE rfl (by rw[c];rfl) (λh=>by simp at h) (λ_=>i) (λh=>SE) (λ_=>g) l;exact lg (k:=12) f SE rfl (by rw[c];rfl) (λh=>by simp at h) (λ_=>i) (λh=>SE) (λ_=>g) l;exact lg (k:=13) f SE rfl (by rw[c];rfl) (λh=>by simp at h) (λ_=>i) (λh=>SE) (λ_=>g) l;exact lg (k:=14) f SE rfl (by rw[c];rfl) (λh=>by simp at h) (λ_=>i) (λh=>SE) (λ_=>g) l;exact lg (k:=15) f SE rfl (by rw[c];rfl) (λh=>by simp at h) (λ_=>i) (λh=>SE) (λ_=>g) l
def mC.lf{sc}(lD:sc.ints<=3/\sc.params<=2)(hf:sc.km<=2):∀{d:Nat} {e:Ex},mC sc d e->lT d e
 |0,_,h=>h.elim
 |d+1,e,h=>by
  rcases h with⟨c,i,g,f⟩|⟨c,hn,g,f⟩|⟨c,_,i,g,a,f,l⟩|⟨c,i,g,a,f,l⟩|⟨c,i,g,a,b,f,l,n⟩|⟨c,i,g,a,b,f,l,n⟩
  rcases c with c|c;exact lg (k:=2) c (by omega) rfl (by rw[f];rfl) (λh=>by simp at h) (λ_=>i) (λh=>by omega) (λ_=>g) (by rw[f];simp);exact lg (k:=3) c (by omega) rfl (by rw[f];rfl) (λh=>by simp at h) (λ_=>i) (λh=>by omega) (λ_=>g) (by rw[f];simp);exact lg (k:=5) c (by omega) rfl (by rw[f];rfl) (λ_=>by rcases hn with e|⟨k,q,e⟩<;>rw[e];exact mF letters.2.2.2.1 (by omega);exact mF letters.2.2.2.2.1 (by omega)) (λh=>by simp at h) (λh=>by omega) (λ_=>g) (by rw[f];simp);exact lg (k:=7) c (by omega) rfl (by rw[f];rfl) (λ_=>by rw[i];exact mF letters.2.2.1 (by omega)) (λh=>by simp at h) (λh=>by omega) (λ_=>g) (by rw[f];simpa using kY.lf lD l);exact lg (k:=10) c (by omega) rfl (by rw[f];rfl) (λh=>by simp at h) (λ_=>i) (λh=>by omega) (λ_=>g) (by rw[f];simpa using mC.lf lD hf l);have j:∀m∈e.args,lT d m:=(by rw[f];intro m hy;simp at hy;rcases hy with rfl|rfl;exact mC.lf lD hf l;exact mC.lf lD hf n);rcases c with c|c;exact lg (k:=22) c SE rfl (by rw[f];rfl) (λh=>by simp at h) (λ_=>i) (λh=>SE) (λ_=>g) j;exact lg (k:=23) c SE rfl (by rw[f];rfl) (λh=>by simp at h) (λ_=>i) (λh=>SE) (λ_=>g) j;have j:∀m∈e.args,lT d m:=(by rw[f];intro m hy;simp at hy;rcases hy with rfl|rfl;exact kY.lf lD l;exact kY.lf lD n);have p:e.op=16\/e.op=17\/e.op=18\/e.op=19\/e.op=20\/e.op=21:=SE;rcases p with c|c|c|c|c|c;exact lg (k:=16) c SE rfl (by rw[f];rfl) (λh=>by simp at h) (λ_=>i) (λh=>SE) (λ_=>g) j;exact lg (k:=17) c SE rfl (by rw[f];rfl) (λh=>by simp at h) (λ_=>i) (λh=>SE) (λ_=>g) j;exact lg (k:=18) c SE rfl (by rw[f];rfl) (λh=>by simp at h) (λ_=>i) (λh=>SE) (λ_=>g) j;exact lg (k:=19) c SE rfl (by rw[f];rfl) (λh=>by simp at h) (λ_=>i) (λh=>SE) (λ_=>g) j;exact lg (k:=20) c SE rfl (by rw[f];rfl) (λh=>by simp at h) (λ_=>i) (λh=>SE) (λ_=>g) j;exact lg (k:=21) c SE rfl (by rw[f];rfl) (λh=>by simp at h) (λ_=>i) (λh=>SE) (λ_=>g) j
def xe:zW 177:=by
 intro S w b o d e r C f hr hg hb hS;obtain⟨d',v,rfl,rfl,hv⟩:=hr.open;obtain⟨⟨x,N,hx,n,D,p,j,l⟩,_⟩:=hg;obtain⟨A,c,rfl,hc⟩:=hv.form;have g:=f 0 _ rfl;have q:=f 1 _ rfl;have s:=f 2 _ rfl;have m:=f 3 _ rfl;rw[Pc]at g;rw[n]at m;obtain⟨k,t⟩:∃k:Nat,k=e.op.toNat:=⟨_,rfl⟩
 have u:e.op=(k:Int):=SE
 rw[<-t]at hx;rw[u]at g j l;have E:1<=k:=SE
 have F:=O0 hx;have i:=O0 (And.intro g (And.intro q (And.intro s m)));have G:=O0 p;have y:=O0 (And.intro j l);clear n D p j l hx t u
 go_enter func177,ntmps177
 go_wp21;apply(rT k x F.o E _ C).M;rintro O I ⟨rfl,a⟩;have J:=a.size;have P:=(Cb b o (a.B b hb)).T i.o.1;have K:=(Cb b (o+1) (a.B b hb)).T i.o.2.1;have L:=(Cb b (o+2) (a.B b hb)).T i.o.2.2.1;have Q:=(Cb b (o+3) (a.B b hb)).T i.o.2.2.2;have R:b<I:=SE
 clear g q s m;have z:((k:Int)==1)=true->decide ((0:Int)<=e.n)=true:=λh=>by rw[RI];exact y.o.1 (by rw[P9]at h;exact h)
 have B:((k:Int)==1)=false->e.n=0:=λh=>y.o.2 (by rw[O8]at h;exact h);cases N1:((k:Int)==1)<;>cases hq:x.2.1;all_goals
  first|have hd:=z N1|have hz:=B N1
  first|have M:=G.o hq|skip
  first|rw[M]at K|skip
  first|rw[hz]at L|skip
  clear z B;go_wp21;go_quiet (fail);go_wp21;go_ret;exact⟨rfl,mo (a.alloc J _) _⟩
def rH(g:FuncId)(C:mg g)(hg:zW g)(d:Nat)(D:∀d',d=d'+1->Ca g d'):Ca g d:=by
 intro S w b o e r u m hr p hb f;unfold mg at C;have E:=p.two;have F:=hg S w b o d e r u m hr p hb f;obtain⟨d',v,rfl,rfl,s⟩:=hr.open;obtain⟨_,G⟩:=p;obtain⟨A,c,rfl,hc⟩:=s.form;obtain⟨n,y⟩:=Xq e.args.length;rw[<-y]at s hc m E;have z:=m 3 _ rfl;have I:=(D d' rfl)
 go_enter func197,ntmps197
 go_wp2_with (apply F.M;rintro e R ⟨rfl,j⟩;have J:=j;have T:=j.size;have U:=(Cb b (o+3) (j.B b hb)).T z;clear j);go_loopw [15] (λi wr=>∃k:Nat,k<=n/\i=k/\Below w w wr) (λi _=>n-(intOf i).toNat)
 .exact⟨0,Pb _,rfl,J⟩
 obtain⟨k,V,rfl,a⟩:=hrel;have K:=a.size;have W:=(Cb b (o+3) (a.B b hb)).T z;by_cases X:k<n
 .obtain⟨x,hx⟩:∃x,e.args[k]?=some x:=Gx (SC y);obtain⟨l,B,r,rfl,L,hr,M⟩:=s.kt (ko.ok .u8 d') k x hx;have N:l<w:=f l L;have O:=(I S wr l (B+k*4) x r (u.to a) ((show At w l (B+k*4) r from M).jQ a N) ((ko.ok .u8 d').jP hr (λq t=>a.B q (f q t))) (G x (O5 hx)) SE (λq t=>SC (f q t)))
  have Y:(0:Int)<=(k:Int):=SE;go_wp21;apply O.M;rintro e Z ⟨rfl,P⟩;have Q:=(a.T (P.M K))
  go_wp21;go_roundw
  .exact⟨k+1,SE,SJ,Q⟩
  simp[intOf];omega
 obtain rfl:k=n:=SE;go_wp21;go_ret;exact⟨rfl,a⟩
def sJ(g:FuncId)(a:mg g)(hg:zW g):∀d,Ca g d
 |0=>rH g a hg 0 λd' e=>by omega
 |d+1=>rH g a hg (d+1) λd' e=>by obtain rfl:d=d':=SE;exact sJ g a hg d
def wH(g:FuncId)(y:mg g)(hg:zW g)(S w)(b o d:Nat)(s r)(hL:ln w)(p:At w b o r)(hr:kp .u8 d S w r s)(t:mV d s)(hb:b<w)(hS:∀q,S q->q<w):
  Calls prog 175 #[.pointer (some ⟨b,o,none⟩),.func (.func g) #[] #[]] w (kd (.bool true) w):=by
 have z:=t.five;obtain⟨d',v1,v2,N,rfl,rfl,j,_,_⟩:=hr.open;obtain⟨_,B,_⟩:=t;obtain⟨A,c,rfl,hc⟩:=j.form;obtain⟨n,u⟩:=Xq s.kA.length;rw[<-u]at j hc p z;have C:=p 3 _ rfl;have l:=hS;have D:=hL;have E:=(sJ g y hg De)
 go_enter func175,ntmps175
 go_wp21;go_loopw [11] (λi wr=>∃k:Nat,k<=n/\i=k/\Below w w wr) (λi _=>n-(intOf i).toNat)
 .exact⟨0,Pb _,rfl,Below.refl _ _⟩
 obtain⟨k,O,rfl,a⟩:=hrel;have F:=a.size;have P:=(Cb b (o+3) (a.B b hb)).T C;by_cases Q:k<n
 .obtain⟨x,hx⟩:∃x,s.kA[k]?=some x:=Gx (SC u);obtain⟨f,v,r,rfl,G,hr,I⟩:=j.kt (ko.ok .u8 De) k x hx;have J:f<w:=l f G;have K:=(E S wr f (v+k*4) x r (D.to a) ((show At w f (v+k*4) r from I).jQ a J) ((ko.ok .u8 De).jP hr (λq m=>a.B q (l q m))) (B x (O5 hx)) SE (λq m=>SC (l q m)))
  have R:(0:Int)<=(k:Int):=SE;go_wp21;apply K.M;rintro e T ⟨rfl,L⟩;have M:=(a.T (L.M F))
  go_wp21;go_roundw
  .exact⟨k+1,SE,SJ,M⟩
  simp[intOf];omega
 obtain rfl:k=n:=SE;go_wp21;go_ret;exact⟨rfl,a⟩
def yc(d:Nat)(P:∀d',d=d'+1->J8 d'):J8 d:=by
 intro S w A n c l hv az Q af aA hS;have R:=hv.len;have aB:n<=12:=SE
 have T:=O0 R.1;have z:=hS;have ag:=hv;have U:=Q;have V:=P;clear Q hS R P;by_cases aC:n=0
 .have hz:((n:Int)==0)=true:=by rw[P9];omega
  go_enter func171,ntmps171
  go_wp21;go_ret;exact⟨0,rfl,Pb _,Below.refl _ _⟩
 have hz:((n:Int)==0)=false:=by rw[O8];omega
 obtain⟨d',rfl⟩:∃d',d=d'+1:=by
  obtain⟨x,hx⟩:∃x,l[0]?=some x:=Gx (SC T.o);have:=U x (O5 hx);cases d with
  |zero=>exact this.elim
  |succ d=>exact⟨d,rfl⟩
 go_enter func171,ntmps171
 go_wp21;go_loopw [3,10] (λv i wr=>∃k r:Nat,k<=n/\i=k/\v=r/\r<=d'/\Below w w wr) (λ_ i _=>n-(intOf i).toNat)
 .exact⟨0,0,Pb _,rfl,rfl,Pb _,Below.refl _ _⟩
 obtain⟨k,r,aD,rfl,rfl,hr,F⟩:=hrel;have y:=F;have B:=F.size;have G:=hr;by_cases aE:k<n
 .obtain⟨x,hx⟩:∃x,l[k]?=some x:=Gx (SC T.o);obtain⟨b,m,j,rfl,ah,ai,I⟩:=ag.kt (kp.ok .u8 _) k x hx;have W:b<w:=z b ah;have F:b<wr:=SE;have aj:=U x (O5 hx);have hmx:=O5 hx;obtain⟨ak,v1,v2,aF,aG,rfl,_,X,Y⟩:=ai.open;obtain rfl:d'=ak:=SE;obtain⟨_,_,⟨al,am⟩,Z,aa⟩:=aj;obtain⟨ab,c2,rfl,_⟩:=X.form;obtain⟨ac,c3,rfl,_⟩:=Y.form;have J:=(And.intro (I 4 _ rfl) (I 5 _ rfl))
  have L:=DL af hmx;have ad:=(λ(C:World) (D:Below w w C)=>V d' rfl S C ab _ c2 x.th (X.jP (kp.ok .u8 _) (λq t=>D.B q (z q t))) al Z L.1 SE (λq t=>O1 (z q t) D.size))
  have ae:=(λ(C:World) (D:Below w w C)=>V d' rfl S C ac _ c3 x.el (Y.jP (kp.ok .u8 _) (λq t=>D.B q (z q t))) am aa L.2 SE (λq t=>O1 (z q t) D.size))
  obtain⟨aH,aI⟩:=mG k n;obtain⟨an,M⟩:=Xq x.th.length;obtain⟨em,N⟩:=Xq x.el.length;rw[<-M,<-N]at J;rw[<-M]at ad;rw[<-N]at ae;clear I hx Z aa L M N;go_wp21;refine sB (λx=>Below wr wr x) (λv w=>∃f:Nat,v=f/\f<=d'/\Below wr wr w) (mi [(·=r),(·=.slice (some ⟨b,m,none⟩) n c),(·=k),(Pp b (m+k*6)),(Pp b (m+k*6+4)),(·=.slice ab an c2),Tr,(·=.slice (some ⟨b,m,none⟩) n c),(·=k),(Pp b (m+k*6)),(Pp b (m+k*6+5)),(·=.slice ac em c3),Tr,Tr,Tr]) [(6,λv w=>∃(p:Nat),v=p/\p<=d'),(12,λv w=>∃(j:Nat),v=j/\j<=d'),(13,λv w=>∃f:Nat,v=f/\f<=d')] ((Below.refl _ _).drew) ⟨?_,?_,?_,?_,?_,?_,?_,?_,?_,?_,?_,?_,?_,?_,?_,trivial⟩ ?_;intro s w a hf hv hd hw;have e3:=Sl 3 (hw 14 _ 3 rfl rfl rfl);clear hf hv hd hw;exact .q (g:=⟨rfl,a,Qa⟩);exact Pf 0;exact Pf 4;intro s w a hf hv hd hw;have aJ:=Sv 14 hv 1;have aK:=Sv 15 hv 2;exact .q (g:=⟨rfl,a,Qa⟩);exact Pv 16 3;intro s w a hf hv hd hw;have g:=(Cb b (m+k*6+4) ((y.T (a.M B)).B b W)).T J.1;exact .l 17 (hv 4 _ rfl rfl) g ⟨rfl,a,Qa⟩;intro s w a hf hv hd hw;have aL:=Sv 18 hv 5;replace a:=Hq a;refine .c (ad w (y.T (a.o.M B))) ?_;rintro e w' ⟨p,rfl,hr,hb⟩;exact⟨_,rfl,⟨trivial,a.o.T (hb.M a.o.size),Qc ⟨p,rfl,hr⟩<|Qd (λu ⟨j,e,hr⟩=>⟨j,e,hr⟩)<|Qb<|Qe⟩⟩;exact Pf 0;exact Pf 4;intro s w a hf hv hd hw;have aM:=Sv 20 hv 7;have aN:=Sv 21 hv 8;exact .q (g:=⟨rfl,a,Qa⟩);exact Pv 22 9;intro s w a hf hv hd hw;have g:=(Cb b (m+k*6+5) ((y.T (a.M B)).B b W)).T J.2;exact .l 23 (hv 10 _ rfl rfl) g ⟨rfl,a,Qa⟩;intro s w a hf hv hd hw;have aO:=Sv 24 hv 11;replace a:=Hq a;refine .c (ae w (y.T (a.o.M B))) ?_;rintro e w' ⟨j,rfl,hr,hb⟩;exact⟨_,rfl,⟨trivial,a.o.T (hb.M a.o.size),Qd (λu ⟨p,e,hr⟩=>⟨p,e,hr⟩)<|Qc ⟨j,rfl,hr⟩<|Qb<|Qe⟩⟩;intro s w a hf hv hd hw;have aP:=Sv 13 hv 0;obtain⟨p,ao,aQ⟩:=kE hd 0;have aR:=Sl 19 ao;obtain⟨j,ap,aS⟩:=kE hd 1;have aT:=Sl 25 ap;exact .q (g:=⟨trivial,a,Q2<|Qc ⟨max (max r p) j,by show Value.int IntKind.i64 _=Value.int IntKind.i64 _;congr 1;(repeat' split)<;>omega,SC G⟩<|Qa⟩);intro s w a hf hv hd hw;obtain⟨f,aq,O⟩:=kE hd 2;have aU:=Sl 26 aq;refine .h λK hK=>?_;go_simp;exact hK (⟨f,rfl,O,a⟩);intro ar aV au av;obtain⟨f,E,O,aw⟩:=av;replace E:ar 14=.int .i64 (f:Int):=E;simp only[mP,E];have ax:=(y.T (aw.M B))
  clear au E;go_wp21;go_roundw
  .exact⟨k+1,f,SE,SJ,rfl,O,ax⟩
  simp[intOf];omega
 obtain rfl:k=n:=SE;have ay:IntKind.i64.wrap ((r:Int)+1)=((r+1:Nat):Int):=(by have:=G;simp[IntKind.wrap,IntKind.bits,IntKind.signed];omega);go_wp21;go_ret;exact⟨r+1,by first|rfl|simp[ay],SC G,y⟩
def Ax:∀d,J8 d
 |0=>yc 0 λd' e=>SE
 |d+1=>yc (d+1) λd' e=>(Nat.succ.inj e)▸Ax d
def wK(d:Nat)(R:Cf d):zf d:=by
 intro S y w cb z A B C hd own D E F params V G av c c1 args h hx hv hg T hm;have H:=h;have m:=hx;have U:=hv;have W:=hg;have X:=hv.len;have Y:=T;have Z:=R;clear hg
 go_enter func203,ntmps203
 go_wp21;go_loopw [8] (λi wr=>∃(k:Nat) (V':Value) (a:List In),k<=c/\i=k/\lJ y cb z A B C hd own D E F params V' a wr/\mJ cb V w V' wr/\qU G (k*pI d) a) (λi _=>c-(intOf i).toNat)
 .exact⟨0,V,G,Pb _,rfl,H,.refl _ _ _,[],SG,SG,SG⟩
 obtain⟨k,V',a,aw,rfl,aa,ab,ac⟩:=hrel;have p:=aa;have I:=ab;have q:=ac;by_cases ax:k<c
 .obtain⟨x,hx⟩:∃x,args[k]?=some x:=Gx (SC X);obtain⟨b,j,r,rfl,J,hr,f⟩:=U.kt (ko.ok .u8 d) k x hx;have ad:=W x (O5 hx);obtain⟨d',v,hd,rfl,s⟩:=hr.open;obtain⟨K,L,rfl,_⟩:=s.form;have g:=p.old (m.kX b J).1 (m.kX b J).2;have ae:=(Cb b (j+k*4+0) g).T (f 0 _ rfl);have ay:=(Cb b (j+k*4+1) g).T (f 1 _ rfl);have az:=(Cb b (j+k*4+2) g).T (f 2 _ rfl);have af:=(Cb b (j+k*4+3) g).T (f 3 _ rfl);rw[Pc]at ae;obtain⟨op,name,n,M⟩:=x;simp only[Ex.op,Ex.name,Ex.n,Ex.args]at*;obtain⟨N,O⟩:=Xq M.length;rw[<-O]at af s;clear O;have ag:=ad;have ah:=s;have ai:=O0 hd;clear f hx hd g;have P:=Ba wr (la op name n K N L);have aj:=(p.jQ P)
  have ak:=(I.T (.jQ P))
  have Q:(k+1)*pI d=k*pI d+pI d:=Sx _ _;have al:(k+1)*pI d<=c*pI d:=Qn _ SE;have t:=(And.intro Q al)
  clear Q;have am:=(show a.length+pI d<=100000 by obtain⟨l,an,aA,_⟩:=q;rw[an,Pe];have:=Y;have:=t.1;have:=t.2;omega)
  go_wp21;apply(Z S y _ cb z A B C hd own D E F params V' a op n name K N L M d' ai.o aj m ah ag am).M;rintro e aB ⟨rfl,ao,ap,aq,ar,au⟩;have u:=(And.intro aq (And.intro (ak.T ar) (q.T au (QB t.1.symm))))
  go_wp21;go_roundw
  .exact⟨k+1,ao,ap,SE,SJ,u.1,u.2.1,u.2.2⟩
  simp[intOf];omega
 obtain rfl:c=k:=SE;go_wp21
 go_end0
 exact⟨rfl,V',a,p,I,q⟩
def kT.vW(a:Nat)(c:a=1\/a=2)(t:Int):∀(b:List In) (i:Nat) (x:In),b[i]?=some x->((b.map uW).flatten).set (i*4+a) (.int .i64 t)=((b.set i (x.put a t)).map uW).flatten
 |[],i,x,h=>by simp at h
 |y::ys,0,x,h=>by simp only[List.getElem?_cons_zero,Option.some.injEq]at h;subst h;rcases c with rfl|rfl<;>simp[uW,In.put]
 |y::ys,i+1,x,h=>by have d:=vW a c t ys i x (by simpa using h);rw[List.map_cons,List.flatten_cons,List.set_append_right _ _ (by show 4<=_;omega),show(i+1)*4+a-(uW y).length=i*4+a by show(i+1)*4+a-4=_;omega,d];rfl
def kT.mn.put{a b:List In}{n i c:Nat}(h:mn a n b){x:In}(hi:b[i]?=some x)(hc:a.length<=i)(e:c=1\/c=2){t:Int}(d:0<=t)(f:t<=b.length):mn a n (b.set i (x.put c t)):=by obtain⟨l,rfl,g,hp⟩:=h;refine⟨l.set (i-a.length) (x.put c t),by rw[List.set_append_right _ _ hc],by simpa using g,λj hy=>?_⟩;rw[List.length_set];rw[List.length_append]at f;rw[List.getElem?_append_right hc]at hi;have hx:=hp x (List.mem_of_getElem? hi);rcases List.mem_or_eq_of_mem_set hy with hy|hy;exact hp j hy;subst hy;rcases e with rfl|rfl;exact hx.Nc (Nat.le_refl _) d SE;exact hx.Nd (Nat.le_refl _) d SE
def lJ.ins{l}{cb:Nat}{n p r s hd own v y z params V}{c:List In}{w}(h:lJ l cb n p r s hd own v y z params V c w){i:Nat}{x:In}(hi:c[i]?=some x):
  ∃g f,V=.slice (some ⟨g,0,none⟩) c.length f/\l<=g/\g<w/\(∀(a:Nat) u,(uW x)[a]?=some u->w.cell? ⟨g,i*4+a,none⟩=some u/\w.frozen? ⟨g,i*4+a,none⟩=false)/\
   ∀a,a=1\/a=2->∀t:Int,lJ l cb n p r s hd own v y z params V (c.set i (x.put a t)) (w.setCell ⟨g,i*4+a,none⟩ (.int .i64 t))/\mJ cb V w V (w.setCell ⟨g,i*4+a,none⟩ (.int .i64 t)):=by
 obtain⟨N,⟨D,j⟩,E⟩:=h.own.own;have hr:=DM E;subst hr;have O:=(Pm.1 hi).1;rcases j with⟨_,P⟩|⟨g,f,A,m,hg,k,F,G,I,B⟩
 .omega
 .refine⟨g,f,m,hg,((O3.1 k).1),λa u hu=>?_,λa C t=>?_⟩;have d:=IV c i x hi a u hu;rw[<-B]at d;have J:A[i*4+a]?=some u:=by rw[Ql]at d;split at d;simpa using d;cases d
  exact⟨jU k _ _ J,jS k _⟩;have K:=h.lt;have L:cb≠g:=SE;refine⟨⟨⟨h.g.os,h.g.tape,h.g.output,by rw[O6];exact h.g.size,λq M hx=>(Po _ _ _ _ (by show q≠g;omega)).T (h.g.B q M hx)⟩,(Po _ _ _ _ L).T h.c,⟨(c.set i (x.put a t)).map uW,⟨?_,.inr ⟨g,f,A.setIfInBounds (i*4+a) (.int .i64 t),?_,hg,jO k,?_,G,by simpa using I,?_⟩⟩,DN _⟩,K⟩,⟨by rw[O6];exact O9 _,λb hb _ j=>⟨Po _ _ _ _ (λe=>j (by rw[m,e];rfl)),j⟩⟩⟩;rw[<-vW a C t c i x hi,Q0,Q0];exact D;rw[m,Q0];rw[Q0];exact F;rw[<-vW a C t c i x hi,Q0,RN,<-B,List.take_set]
def qf(S w A)(n c:Nat)(xs)(name:List UInt8)(hv:jT (lv .u8) S w (.slice A n c) xs)(ad:n<=1000)(hS:∀q,S q->q<w):
  Calls prog 140 #[.slice A n c,tx name] w (yf (uX S w) N2 (xs.find? λx=>x.name==name) w):=by
 have u:=hv.len;have ae:=mA name;have L:Below w w (w.alloc pa):=Ba _ _;have y:=O2 w pa;have M:(w.alloc pa).heap.size=w+1:=SG
 have C:=O0 u.1;have N:=hv;have O:=hS;have D:=O0 y;clear hS u y
 go_enter func140,ntmps140
 go_wp21;obtain⟨z,hz⟩:=Xq w.heap.size;rw[<-hz]at D M⊢;have b:w<=z:=SE
 generalize w.alloc pa=B at*;have P:z<B:=SE
 clear hz;go_loopw [10] (λi wr=>∃k:Nat,k<=n/\i=k/\(xs.take k).find? (λx=>x.name==name)=none/\Below B B wr) (λi _=>n-(intOf i).toNat)
 .exact⟨0,Pb _,rfl,SG,Below.refl _ _⟩
 obtain⟨k,af,rfl,E,d⟩:=hrel;have F:=O0 E;have ag:=d.size;obtain⟨⟨j,l,m⟩,⟨Q,R,T⟩⟩:=kz ((d.B z P).T D.o);have U:z<wr:=SE;have p:=(L.T (d.M SE))
 clear E;by_cases ah:k<n
 .obtain⟨x,hx⟩:∃x,xs[k]?=some x:=Gx (SC C.o);obtain⟨s,V,r,rfl,W,⟨v1,v2,rfl,G,I⟩,J⟩:=N.kt (lv.ok .u8) k x hx;obtain⟨e,cv,rfl,_⟩:=G.form;obtain⟨f,g,rfl,_⟩:=I.form;have X:s<w:=O s W;have Y:At w s (V+k*3) [tx x.name,.slice e x.vars.length cv,.slice f x.kS.length g]:=J;have t:=Y.jQ p X;have Z:=t 0 _ rfl;have ai:=t 1 _ rfl;have aj:=t 2 _ rfl;rw[Pc]at Z;obtain⟨ak,al⟩:=mG k n;have am:=mA x.name;have K:=(uq F.o hx)
  have aa:uX S w x (.agg (ka x.name e x.vars.length cv f x.kS.length g)):=⟨_,_,_,_,_,_,rfl,G,I⟩
  have ab:=(d.alloc SE (.cells (ka x.name e x.vars.length cv f x.kS.length g) 112))
  clear J hx;cases hq:(x.name==name)
  .have hf:=K.2 hq;clear j l m Q R T;go_wp21;go_roundw
   .exact⟨k+1,SE,SJ,hf,ab⟩
   simp[intOf];omega
  have hf:=K.1 hq;go_wp21;refine Pa (v:=.tuple #[.agg (ka x.name e x.vars.length cv f x.kS.length g),true]) ?_ rfl ⟨λac a=>⟨_,rfl,by rw[hf]at a;injection a with a;rw[<-a];exact aa⟩,λhn=>(by rw[hf]at hn;cases hn),(jX (jX (jX p b) b) b).alloc SX _⟩;simp[results,Tryz.results140,go_sem,j,l,m,U,RB]
 obtain rfl:n=k:=SE;have hf:=F.o;rw[Pq (SC C.o)]at hf;go_wp21;refine Pa (v:=.tuple tg) ?_ rfl ⟨λac a=>by rw[hf]at a;(cases a),λ_=>rfl,jX (jX (jX p b) b) b⟩;simp[results,Tryz.results140,go_sem,j,l,m]
def yV(cb:Nat)(a b c d:Value)(w:World)(e:Ending)(w':World):Prop:=e=.returned (.tuple #[])/\tz cb a b c d w'/\nj (λq=>q=cb) w w'
def nj.through{o cb:Nat}{w c w'}{B:Nat}(a:Below B w c)(b:nj (Bb o cb) c w')(e:w<=B/\w<=o):nj (λq=>q=cb) w w':=
 ⟨b.os.T a.os,b.tape.T a.tape,b.output.T a.output,Pj a.size b.size,λk d hx=>(b.B k (O1 d a.size) (λhb=>by rcases hb with hb|hb;omega;exact hx hb)).T (a.B k SE)⟩
def oy(T:TypeId)(b x:World)(V:Value)(n:Nat):Prop:=∃a:List Unit,kf (xw 1) T 1 (λ_=>False) x b V a/\a.length<=n
def oy.up{T a x V}{n m:Nat}(h:oy T a x V n)(hm:n<=m):oy T a x V m:=by obtain⟨b,c,d⟩:=h;exact⟨b,c,Pj d hm⟩
def yr:∀{xs ys:List Int} {k:Nat},k<=xs.length->xs.take k=ys.take k->cmpL xs ys=cmpL (xs.drop k) (ys.drop k)
 |xs,ys,0,_,_=>by simp
 |[],_,k+1,h,_=>by simp at h
 |x::xs,[],k+1,_,h=>by simp at h
 |x::xs,y::ys,k+1,h,he=>by simp only[Qi,Qf]at he;obtain⟨rfl,he⟩:=he;rw[show cmpL (x::xs) (x::ys)=cmpL xs ys from by rw[cmpL,PJ (qC.2 rfl)]];exact yr (by simpa using h) he
