import Derived.Test.YtjoamapacifofaaGreatDoorZ3
import Derived.Test.YtjoamapacifofaaGreatDoorZ24
import Derived.Test.YtjoamapacifofaaGreatDoorZ26
set_option maxRecDepth 1000000
set_option maxHeartbeats 32000000
set_option linter.all false
namespace Go.Proofs.YtjoamapacifofaaGreatDoor
open RowKit Go.Proofs.Tryz kT Maps nu pG ChangeShapes WideShapes ChangeAt
def BQ{B}(w)(hL:L.Laid w)(hS:ln w)(hR:oJ w)(p:pL w)(r:qs B w)(E:3+1<=w.heap.size):Calls prog 4 #[] w (kd (.bool true) w):=by
 have F:=O0 (HE ⟨src.toArray⟩ tree Hz SF JA uz Ll Jy Jz w hL hS hR p E);have G:=O0 r;clear hL hS hR p r
 go_enter func4,ntmps4
 go_wp21;apply F.o.M;rintro e a ⟨s,rfl,f,t,S⟩;have I:=O0 f;have g:=O0 t;have i:=Ba a vc;have J:=O0 (O2 a vc);have v:=O0 i;have T:=f.lt;clear f t;have j:=I.o.jQ i;have k:=(G.o.jQ g.o).jQ i;have y:jT nw (λb=>b=a) (a.alloc vc) (.slice a 2 2) [1,7]:=⟨_,2,[[.int .i64 1],[.int .i64 7]],rfl,SG,SE,λ_=>⟨a,0,rfl,rfl,λK u hu=>by rw[Pk];exact jU J.o K u (by simpa using hu)⟩,⟨rfl,rfl,trivial⟩⟩
 have c:=uS (λb=>b=a) (a.alloc vc) 4 1 5 0 0 0 0 0 (some ⟨a,0,none⟩) 2 2 [1,7] s tree j uz y (λq l=>by rw[l];simp) SF (⟨SS,λ_=>SE⟩) (⟨SS,λ_=>SE⟩) (⟨SS,λ_=>SE⟩) (λx hx=>by simp at hx;exact⟨SS,λ_=>SE⟩) k (.inr rfl);rw[Ln]at c;have z:=O0 c;have M:=O0 j;have N:=O0 k;clear j k y c;obtain⟨U,m⟩:=Xq J0;rw[<-m]at z;have V:=O0 m;clear m;go_wp21;apply z.o.M;rintro e O ⟨rfl,d⟩;have c:=uS (λ_=>False) O 4 2 1 0 0 0 0 1 none 0 0 [] s tree (M.o.jQ d) uz (jT.nil _ _ _) (λq l=>l.elim) SF (⟨SS,λ_=>SE⟩) (⟨SS,λ_=>SE⟩) (⟨SS,λ_=>SE⟩) (λx hx=>by cases hx) (N.o.jQ d) (.inl rfl);rw[Lp]at c;have A:=O0 c;have C:=O0 d;clear d c;obtain⟨lb,n⟩:=Xq Gi;rw[<-n]at A;have P:=O0 n;clear n;go_wp21;apply A.o.M;rintro e W ⟨rfl,D⟩;have Q:=O0 D;clear D;go_wp21;go_ret;have R:=g.o.size;have X:=v.o.size;have Y:=C.o.size;refine⟨?_,(g.o.T (v.o.M R)).T ((C.o.M SE).T (Q.o.M SE))⟩;show Ending.returned (.bool (lb==Gi))=_;rw[P.o,beq_self_eq_true]
def uD(w al)(z:Nat)(Al)(p r:Nat)(av s)(t u:Nat)(aw)(ax:∀b,al b->b<w.heap.size)(ay:jT pX al w (.slice Al p r) av)(hp:jT tv al w (.slice s t u) aw)
  (k a b n i j d:Int) (hn:xu n) (az:xu d)
  (hL:L.Laid w) (hS:ln w) (hR:oJ w) (T:pL w) (K:qs true w) (U:3+1<=w.heap.size):
  Calls prog 3 #[.agg #[.int .u8 (z:Int),.slice Al p r,.slice s t u],.agg #[.int .u8 k,a,b,n],.agg #[.int .i64 i,j,d]] w (kd (.bool true) w):=by
 have aA:=O0 (And.intro hL (And.intro hS (And.intro hR (And.intro T (And.intro K U)))));have Y:=O0 (And.intro ax (And.intro ay hp));have ad:=O0 (And.intro hn az);clear hL hS hR T K U ax ay hp hn az;have m:Below w w (((w.alloc (mu z Al p r s t u)).alloc (qk k a b n)).alloc (qe i j d)):=((Ba _ _).alloc SG _).alloc SK _;have N:(((w.alloc (mu z Al p r s t u)).alloc (qk k a b n)).alloc (qe i j d)).heap[w.heap.size]?=some (mu z Al p r s t u):=(Ph _ _ SK).T ((Ph _ _ SG).T (O2 _ _));have A:(((w.alloc (mu z Al p r s t u)).alloc (qk k a b n)).alloc (qe i j d)).heap[w.heap.size+1]?=some (qk k a b n):=(Ph _ _ SG).T (by have:=O2 (w.alloc (mu z Al p r s t u)) (qk k a b n);rw[O4]at this;exact this);have M:(((w.alloc (mu z Al p r s t u)).alloc (qk k a b n)).alloc (qe i j d)).heap[w.heap.size+1+1]?=some (qe i j d):=by have:=O2 ((w.alloc (mu z Al p r s t u)).alloc (qk k a b n)) (qe i j d);rw[O4,O4]at this;exact this
 have V:(((w.alloc (mu z Al p r s t u)).alloc (qk k a b n)).alloc (qe i j d)).heap.size=w+3:=SG
 have aB:=O0 (And.intro m (And.intro N (And.intro A (And.intro M V))));clear m N A M V
 go_enter func3,ntmps3
 go_upto_region 1 with fail;obtain⟨m,N,A,M,V⟩:=aB.o;obtain⟨ae,aC⟩:=Xq (((w.alloc (mu z Al p r s t u)).alloc (qk k a b n)).alloc (qe i j d));rw[<-aC]at m N A M V⊢;clear aC aB;have aD:=O0 m;obtain⟨b0,aE⟩:=Xq w.heap.size;rw[<-aE]at N A M V⊢;obtain⟨O,aF⟩:=Xq (b0+1);rw[<-aF]at A M⊢;obtain⟨W,aG⟩:=Xq (O+1);rw[<-aG]at M⊢;have aR:b0<ae:=SE
 have aS:O<ae:=SE
 have aT:W<ae:=SE
 have aU:=O0 N;have aV:=O0 A;have aW:=O0 M;obtain⟨hL,hS,hR,T,K,U⟩:=aA.o;have am:=O0 (hS.jQ m hS.low);have an:=O0 (hR.jP (m.B _ hR.lt) m.size);have ao:=O0 (T.jP (m.B _ T.lt) m.size);have aX:=O0 (BQ (B:=true) ae (L.Laid.jQ m U hL) am.o an.o ao.o (K.jQ m) SE);clear hL hS hR T K U m N A M V aE aF aG;go_wp21;apply aX.o.M;rintro e aY ⟨rfl,C⟩;have bu:=C.size;have aZ:=O0 (am.o.jQ C am.o.low);have ba:=O0 (an.o.jP (C.B _ an.o.lt) C.size);have bb:=O0 (ao.o.jP (C.B _ ao.o.lt) C.size);have bc:=O0 ((C.B b0 aR).T aU.o);have bd:=O0 ((C.B O aS).T aV.o);have be:=O0 ((C.B W aT).T aW.o);have Z:=O0 (aD.o.T (C.M aD.o.size));clear C;obtain⟨⟨P,Q,R⟩,_⟩:=kz bc.o
 go_wp21;refine(HF _ aY z Al p r av s t u aw (λq v=>O1 (Y.o.1 q v) Z.o.size) (Y.o.2.1.jP pX.ok (λq v=>Z.o.B q (Y.o.1 q v))) (Y.o.2.2.jP tv.ok (λq v=>Z.o.B q (Y.o.1 q v))) aZ.o ba.o bb.o).M ?_;rintro e D ⟨f,S,E,F,c1,I,J,c2,G,y,c3,rfl,aH,hg,_,A,ap,aa⟩;have bf:=O0 aH;have af:=O0 hg;have bv:=aa.size;have aI:=O0 (Z.o.T (aa.M Z.o.size));have bg:=O0 ((aa.B O SE).T bd.o);have bh:=O0 ((aa.B W SE).T be.o);have bi:=O0 A;have bj:=O0 ap;have aJ:y<=3:=by have bw:=ap.len.1;have U:=hg.c3;omega
 clear aH hg aa A ap P Q R;go_upto_region 4 with fail;have X:=Ba D (.cells (kb f.name E F c1 I J c2 G y c3) 37);have aK:=O0 (bf.o.jQ X);have ag:=O0 (aI.o.T (X.M aI.o.size));have ah:=O0 ((X.B O SE).T bg.o);have ai:=O0 ((X.B W SE).T bh.o);have ab:=O0 (O2 D (.cells (kb f.name E F c1 I J c2 G y c3) 37));have aL:=O0 X;have bx:(D.alloc (.cells (kb f.name E F c1 I J c2 G y c3) 37)).heap.size=D+1:=SG
 clear X;generalize D.alloc (.cells (kb f.name E F c1 I J c2 G y c3) 37)=w6 at*;obtain⟨aM,aN⟩:=Xq D.heap.size;rw[<-aN]at ab⊢;clear aN;have K:=aA.o.2.2.2.2.1;have ac:=O0 (show∀x:World,Below w6 w6 x->jT lM (λq=>q<D) x (.slice E F c1) f.km/\jT (lv .i64) (λq=>q<D) x (.slice G y c3) f.jZ/\∀q,q<D.heap.size->q<x from λx hx=>⟨bi.o.jP lM.ok (λq v=>(hx.B q (by have bk:q<D:=v;omega)).T (aL.o.B q v)),bj.o.jP (lv.ok .i64) (λq v=>(hx.B q (by have bk:q<D:=v;omega)).T (aL.o.B q v)),λq v=>SC hx.size⟩);obtain⟨aj,aq⟩:=Xq (sU (ki f) k a b n);obtain⟨ak,ar⟩:=Xq (ql (ki f) i j d);have bl:=O0 (show∀x:World,Below w6 w6 x->Calls prog 6 #[.agg #[.int .u8 k,a,b,n],.pointer S] x (kd (tx aj) x)from λx hx=>by rw[aq];exact JB (B:=true) x S f (aK.o.jQ hx) af.o k a b n ⟨ad.o.1,λh=>by cases h⟩ ((K.jQ ag.o).jQ hx));have bm:=O0 (show∀x:World,Below w6 w6 x->Calls prog 7 #[.agg (kb f.name E F c1 I J c2 G y c3),.agg #[.int .u8 k,a,b,n]] x (kd (tx aj) x)from λx hx=>by rw[aq];exact HM _ x f.name E F c1 I J c2 G y c3 f af.o (ac.o x hx).1 (ac.o x hx).2.1 (ac.o x hx).2.2 aJ k a b n ad.o.1);have bn:=O0 (show∀x:World,Below w6 w6 x->Calls prog 8 #[.agg #[.int .i64 i,j,d],.pointer S] x (kd (tx ak) x)from λx hx=>by rw[ar];exact D8 (B:=true) x S f (aK.o.jQ hx) af.o i j d ⟨ad.o.2,λh=>by cases h⟩ ((K.jQ ag.o).jQ hx));have bo:=O0 (show∀x:World,Below w6 w6 x->Calls prog 9 #[.agg (kb f.name E F c1 I J c2 G y c3),.agg #[.int .i64 i,j,d]] x (kd (tx ak) x)from λx hx=>by rw[ar];exact Bc _ x f.name E F c1 I J c2 G y c3 f af.o (ac.o x hx).2.1 (ac.o x hx).2.2 aJ i j d ad.o.2);clear aq ar K;refine Ia (λx=>Below w6 w6 x) (mi [(·=.pointer S),(·=.bool true),(·=.bool true),(·=.agg #[.int .u8 k,a,b,n]),(·=.pointer S),(·=tx aj),(·=.agg (kb f.name E F c1 I J c2 G y c3)),(·=.agg #[.int .u8 k,a,b,n]),(·=tx aj),(·=.bool true),(·=.bool true),(·=.bool true),(·=.agg #[.int .i64 i,j,d]),(·=.pointer S),(·=tx ak),(·=.agg (kb f.name E F c1 I J c2 G y c3)),(·=.agg #[.int .i64 i,j,d]),(·=tx ak),(·=.bool true),(·=.bool true),(·=.bool true)]) [] ((Below.refl _ _).drew) ⟨?_,?_,?_,?_,?_,?_,?_,?_,?_,?_,?_,?_,?_,?_,?_,?_,?_,?_,?_,?_,?_,trivial⟩ ?_
 .exact .f 7
 .intro l w c hf hv hd hw;have bz:=Sv 16 hv 0;exact .q (g:=⟨rfl,c,Ra⟩)
 .exact .v 17 1
 .intro l w c hf hv hd hw;have e4:=Sl 4 (hf 4 rfl);obtain⟨⟨P,Q,R,au⟩,_⟩:=mK ((c.B O (O3.1 ah.o).1).T ah.o);replace c:=Hq c;exact .q (g:=⟨rfl,c.o,Qe⟩)
 .exact .f 7
 .intro l w c hf hv hd hw;have bA:=Sv 19 hv 3;have bB:=Sv 20 hv 4;replace c:=Hq c;refine .c (bl.o w c.o) ?_;rintro e w' ⟨rfl,hb⟩;exact⟨_,rfl,⟨rfl,(c.o.T (hb.M c.o.size)),Qe⟩⟩
 .intro l w c hf hv hd hw;have bp:=Sl 8 (hf 8 rfl);obtain⟨⟨P,Q,R,au⟩,_⟩:=mK ((c.B aM (O3.1 ab.o).1).T ab.o);replace c:=Hq c;exact .q (g:=⟨rfl,c.o,Qe⟩)
 .intro l w c hf hv hd hw;have e4:=Sl 4 (hf 4 rfl);obtain⟨⟨P,Q,R,au⟩,_⟩:=mK ((c.B O (O3.1 ah.o).1).T ah.o);replace c:=Hq c;exact .q (g:=⟨rfl,c.o,Qe⟩)
 .intro l w c hf hv hd hw;have bC:=Sv 22 hv 6;have bD:=Sv 23 hv 7;replace c:=Hq c;refine .c (bm.o w c.o) ?_;rintro e w' ⟨rfl,hb⟩;exact⟨_,rfl,⟨rfl,(c.o.T (hb.M c.o.size)),Qe⟩⟩
 .intro l w c hf hv hd hw;have bE:=Sv 21 hv 5;have bF:=Sv 24 hv 8;exact .q (g:=⟨rfl,c,Ra⟩)
 .intro l w c hf hv hd hw;have bG:=Sv 18 hv 2;have bH:=Sv 25 hv 9;exact .q (g:=⟨rfl,c,Ra⟩)
 .exact .v 26 10
 .intro l w c hf hv hd hw;have e5:=Sl 5 (hf 5 rfl);obtain⟨⟨P,Q,R⟩,_⟩:=kz ((c.B W (O3.1 ai.o).1).T ai.o);replace c:=Hq c;exact .q (g:=⟨rfl,c.o,Qe⟩)
 .exact .f 7
 .intro l w c hf hv hd hw;have bI:=Sv 28 hv 12;have bJ:=Sv 29 hv 13;replace c:=Hq c;refine .c (bn.o w c.o) ?_;rintro e w' ⟨rfl,hb⟩;exact⟨_,rfl,⟨rfl,(c.o.T (hb.M c.o.size)),Qe⟩⟩
 .intro l w c hf hv hd hw;have bp:=Sl 8 (hf 8 rfl);obtain⟨⟨P,Q,R,au⟩,_⟩:=mK ((c.B aM (O3.1 ab.o).1).T ab.o);replace c:=Hq c;exact .q (g:=⟨rfl,c.o,Qe⟩)
 .intro l w c hf hv hd hw;have e5:=Sl 5 (hf 5 rfl);obtain⟨⟨P,Q,R⟩,_⟩:=kz ((c.B W (O3.1 ai.o).1).T ai.o);replace c:=Hq c;exact .q (g:=⟨rfl,c.o,Qe⟩)
 .intro l w c hf hv hd hw;have bK:=Sv 31 hv 15;have bL:=Sv 32 hv 16;replace c:=Hq c;refine .c (bo.o w c.o) ?_;rintro e w' ⟨rfl,hb⟩;exact⟨_,rfl,⟨rfl,(c.o.T (hb.M c.o.size)),Qe⟩⟩
 .intro l w c hf hv hd hw;have bM:=Sv 30 hv 14;have bN:=Sv 33 hv 17;exact .q (g:=⟨rfl,c,Ra⟩)
 .intro l w c hf hv hd hw;have bO:=Sv 27 hv 11;have bP:=Sv 34 hv 18;exact .q (g:=⟨rfl,c,Ra⟩)
 .exact .v 35 19
 intro bq br aO aP bs;have aQ:bq 20=.bool true:=aP 20 SF;have bt:=O0 (show Below w6 w6 br from aO);clear aO aP bs;simp only[mP,Pk,Nat.reduceAdd];simp only[aQ];clear aQ;go_wp21;go_ret;exact⟨rfl,ag.o.T (bt.o.M ag.o.size)⟩
def narrateKeys.contract(H:Type)(enc:TypeId×Value->H)(W:World)(base:Nat)(args:Array Value)(b m:List (DataW H))(n:List MemPlace)
  (a:∀(c:Nat) t v,Tryz.f3.params[c]?=some t->args[c]?=some v->Value.okWide prog W .any base t v)
  (d:DataW.Whole enc prog Tryz.f3.params.toList Rows.narrateKeysSpec.vars false W args.toList b m n) (hL:laidMetH prog Rows.narrateKeysRow.laid W):
  Calls prog 3 args W λe f=>∃v,e=.returned v/\Rows.narrateKeysSpec.post enc prog Tryz.f3 false true false false W args v f:=by
 have r:=d;obtain⟨p,q,s,u,rfl,R,S⟩:=d;have g:DataW.TrodAll enc prog W 0 (λ_=>true) true Tryz.f3.params.toList args.toList b p:=s;rw[params3]at g a;obtain⟨i,T,U,V,X,Y,Z,rfl,rfl,w,x⟩:=trodAll_cons g;obtain⟨v1,aa,ab,ac,ad,ae,rfl,rfl,rfl,y,z⟩:=trodAll_cons x;obtain⟨v2,af,ag,ah,ai,aj,rfl,rfl,rfl,A,B⟩:=trodAll_cons z;obtain⟨rfl,rfl,rfl⟩:=trodAll_nil B;obtain rfl:args=#[i,v1,v2]:=by cases args;simp_all
 obtain⟨rfl,rfl⟩:=trodVars_none u;obtain⟨C,Al,j,D,E,k,F,rfl,G,hp⟩:=FE (a 0 25 i rfl rfl) w;obtain⟨I,J,K,L,rfl,M⟩:=FH (a 1 28 v1 rfl rfl) y;obtain⟨N,O,P,rfl,Q⟩:=FI (a 2 30 v2 rfl rfl) A;have l:=H0 hL;refine(uD W (Low W) C Al j.length D j E k.length F k (λ_ h=>h) G hp I J K L N O P M Q l (HV hL) (HX hL) (HY hL) (H4 hL) (FA l)).mono λe f ⟨he,hb⟩=>?_;subst he;exact⟨_,rfl,H8 GM (by kernel_rfl) rfl rfl underlying4 r rfl hb⟩
def narrateKeys.JG(a:Os)(b:a.Started)(H:Type)(enc:TypeId×Value->H)(c:Stop.Interp):
  ReturnsInHanded {} Tryz.checked a 3 .any ((OpenSpec.ofChange Rows.narrateKeysSpec).preRow enc prog Tryz.f3 Rows.narrateKeysRow.domain false Rows.narrateKeysRow.laid) (((OpenSpec.ofChange Rows.narrateKeysSpec).at c).post enc prog Tryz.f3 false true false false):=by
 obtain⟨_,l,hx⟩:=reads a enc;refine returnsInHanded_of_row (C:=Tryz.checked) (s:=OpenSpec.ofChange Rows.narrateKeysSpec) own b (by kernel_rfl) func3
  (witness_row_at (enc:=enc) (C:=Tryz.checked) false (qD a) #[.agg #[.int .u8 0,.slice none 0 0,.slice none 0 0],.agg #[.int .u8 0,.int .i64 0,.int .i64 0,.int .i64 0],.agg #[.int .i64 0,.int .i64 0,.int .i64 0]] rfl (H9 a) (by kernel_rfl) (by kernel_rfl)
   (OpenSpec.preRow_of_cond 8 hx (by kernel_rfl) (λk d=>by cases d) (by kernel_rfl) (H6 a))) ?_
 intro W base args e f g i j _ m n hL p _;exact(contract H enc W base args e f g i j hL).mono λ_ _ h=>h
def narrateKeys.said:Rows.NarrateKeysSaid:=by exact OpenClaim.holds_of_cond 3 Tryz.f3 rfl rfl rfl rfl rfl rfl rfl ⟨rfl,rfl,rfl,rfl,rfl⟩ rfl rfl rfl rfl rfl (by kernel_rfl) func3 closed (of_decide_eq_true (by kernel_rfl)) (by unfold Func.isWrapper;first|(rw[PJ (by decide+kernel)];kernel_rfl)|(rw[Pn (by decide+kernel)];exact⟨rfl,rfl⟩)) (λa b H enc _ c=>by rw[OpenClaim.pre_eq_preRow];exact JG a b H enc c)
theorem narrateKeys.card:Rows.NarrateKeysCardSaid:=
 Claim7.holds_tied_plain_at .later [] _ _ _ _ said (λ_ h=>by cases h) (by kernel_rfl) (λ_ h=>by cases h) narrateKeys_row_tie rfl ⟨rfl,rfl⟩ (by kernel_rfl) rfl plain Lv
end Go.Proofs.YtjoamapacifofaaGreatDoor
