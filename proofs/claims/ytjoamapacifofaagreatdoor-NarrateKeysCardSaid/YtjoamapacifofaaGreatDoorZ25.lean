import Derived.Test.YtjoamapacifofaaGreatDoorZ19
import Derived.Test.YtjoamapacifofaaGreatDoorZ20
set_option maxRecDepth 1000000
set_option maxHeartbeats 32000000
set_option linter.all false
namespace Go.Proofs.YtjoamapacifofaaGreatDoor
open RowKit Go.Proofs.Tryz kT Maps nu pG ChangeShapes WideShapes ChangeAt
def C6(S w)(t cm:Int)(p n a h d:Int)(A)(m c:Nat)(xs)(P:Nat)(f)(am:pc w P f)(hg:mh f)(hv:jT nw S w (.slice A m c) xs)(hS:∀q,S q->q<w)(hm:m<=9223372036854775807):
  Calls prog 24 #[.agg (EC t cm 5 p n a h d (.slice A m c)),.pointer P] w (kd (.bool (valid (ki f) ⟨t,cm,5,p,n,a,h,d,xs⟩)) w):=by
 have Q:=O0 hv.len.1;have aa:=O0 am;have z:=O0 hg;have an:=O0 hv;have ao:=O0 hS;have ab:=O0 hm;clear am hg hv hS hm;obtain⟨vb,ac⟩:=Xq (valid (ki f) ⟨t,cm,5,p,n,a,h,d,xs⟩);rw[<-ac];have B:=O0 ac;clear ac;have ap:=O0 (boxes w (EC t cm 5 p n a h d (.slice A m c)) (EC t cm 5 0 n 0 h 0 (.slice A m c)))
 go_enter func24,ntmps24
 go_upto_region 2 with fail;have s:=ap.o;obtain⟨aC,aq⟩:=Xq ((w.alloc (.cells (EC t cm 5 p n a h d (.slice A m c)) 52)).alloc (.cells (EC t cm 5 0 n 0 h 0 (.slice A m c)) 52));rw[<-aq]at s⊢;clear aq ap;obtain⟨u,ar⟩:=Xq w.heap.size;rw[<-ar]at s⊢;obtain⟨y,au⟩:=Xq (u+1);rw[<-au]at s⊢;have av:u≠y:=SE
 have aw:=O0 (show w<=u/\w<=y from⟨SE,SE⟩);clear ar au;replace s:=O0 s;have aX:=s.o.lt.1;have aY:=s.o.lt.2;obtain⟨C,D,E,F,G,I,J,M,N⟩:=mD s.o.2.1;go_wp2_with fail;apply(nP P cm f aC (aa.o.jQ s.o.1)).M;rintro e aD ⟨rfl,rfl⟩;go_wp2_with fail;apply(rZ P cm h f aD (aa.o.jQ s.o.1) z.o).M;rintro e ax ⟨rfl,ay⟩;have X:=O0 (s.o.jQ ay);have aZ:=X.o.lt.1;have ba:=X.o.lt.2;clear ay;clear C D E F G I J M N;obtain⟨C,D,E,F,G,I,J,M,N⟩:=mD X.o.2.1;have bb:(m:Int)<=9223372036854775807:=SC ab.o
 obtain⟨ad,ae⟩:=Xq (sj (ki f) cm h);rw[<-ae];have R:=O0 ae;clear ae;obtain⟨bc,af⟩:=Xq (pE (ki f) cm);rw[<-af];have bd:=O0 af;clear af;go_upto_region 6 with fail;go_cut [8] (λv aE=>v=.bool (ad&&decide ((m:Int)<=4))/\ax=aE)
 .cases ad
  .go_wp2_with fail;go_meet;exact⟨rfl,rfl⟩
  go_wp2_with fail;go_meet;exact⟨S4,rfl⟩
 obtain⟨rfl,rfl⟩:=hcut;obtain⟨aF,ag⟩:=Xq (ad&&decide ((m:Int)<=4));rw[<-ag];have T:=O0 ag;clear ag;go_wp2_with fail;apply(rE ⟨t,cm,5,p,n,a,h,d,xs⟩ A m c ax).M;rw[show arr ⟨t,cm,5,p,n,a,h,d,xs⟩=5 from rfl];rintro e be ⟨rfl,az⟩;have Y:=O0 (X.o.jQ az);have bf:=Y.o.lt.1;have bg:=Y.o.lt.2;clear az;clear C D E F G I J M N;obtain⟨C,D,E,F,G,I,J,M,N⟩:=mD Y.o.2.1;clear C D E F G I J M N;go_upto_region 21 with fail;refine mO (λL x=>BU w u y (EC t cm 5 p n a h d (.slice A m c)) (EC t cm 5 (if L 5=true then p else 0) n (if L 7=true then a else 0) h 0 (.slice A m c)) x) (mi [(Pp u 3),(·=p),(Pp u 5),(·=a),(Pp y 3),Tr,(Pp y 5),Tr]) [] SH SH 248 rfl SH (Y.o.drew) ⟨?_,?_,?_,?_,?_,?_,?_,?_,trivial⟩ ?_;intro L j w k l r b hf hv hd hw;have aG:=kU (show j.eval (.tmp 2)=.pointer u from hf 2 rfl);clear hf hv hd hw l r k;refine jW.ll λK hK=>?_;unfold jW;go_simp;exact hK _ _ ⟨rfl,b,Qe⟩;intro L j w k l r b hf hv hd hw;have bh:=kU (show j.eval (.tmp 116)=.pointer (some ⟨u,3,none⟩)from hv 0 _ rfl rfl);clear hf hv hd hw l r k;have g:=jN b.2.1 3;have z:=O0 b;clear b;refine jW.ll λK hK=>?_;unfold jW;go_simp;exact hK _ _ ⟨rfl,z.o,Qe⟩;intro L j w k l r b hf hv hd hw;have aG:=kU (show j.eval (.tmp 2)=.pointer u from hf 2 rfl);clear hf hv hd hw l r k;refine jW.ll λK hK=>?_;unfold jW;go_simp;exact hK _ _ ⟨rfl,b,Qe⟩;intro L j w k l r b hf hv hd hw;have bi:=kU (show j.eval (.tmp 118)=.pointer (some ⟨u,5,none⟩)from hv 2 _ rfl rfl);clear hf hv hd hw l r k;have g:=jN b.2.1 5;have z:=O0 b;clear b;refine jW.ll λK hK=>?_;unfold jW;go_simp;exact hK _ _ ⟨rfl,z.o,Qe⟩;intro L j w k l r b hf hv hd hw;have e5:=kU (show j.eval (.tmp 5)=.pointer y from hf 5 rfl);clear hf hv hd hw l r k;refine jW.ll λK hK=>?_;unfold jW;go_simp;exact hK _ _ ⟨rfl,b,Qe⟩;intro L j w k l r b hf hv hd hw;have bj:=kU (show j.eval (.tmp 120)=.pointer (some ⟨y,3,none⟩)from hv 4 _ rfl rfl);have bk:=kU (show j.eval (.tmp 117)=.int .i64 p from hv 1 _ rfl rfl);clear hf hv hd hw l r k;have aH:=jN b.2.2 3;have aI:=jS b.2.2 3;have aJ:=b.lt.2;have z:=O0 b;clear b;refine jW.ll λK hK=>?_;unfold jW;go_simp;exact hK _ _ ⟨trivial,(z.o.set aw.o.2 av 3 _),Qe⟩;intro L j w k l r b hf hv hd hw;have e5:=kU (show j.eval (.tmp 5)=.pointer y from hf 5 rfl);clear hf hv hd hw l r k;refine jW.ll λK hK=>?_;unfold jW;go_simp;exact hK _ _ ⟨rfl,b,Qe⟩;intro L j w k l r b hf hv hd hw;have bl:=kU (show j.eval (.tmp 121)=.pointer (some ⟨y,5,none⟩)from hv 6 _ rfl rfl);have bm:=kU (show j.eval (.tmp 119)=.int .i64 a from hv 3 _ rfl rfl);clear hf hv hd hw l r k;have aH:=jN b.2.2 5;have aI:=jS b.2.2 5;have aJ:=b.lt.2;have z:=O0 b;clear b;refine jW.ll λK hK=>?_;unfold jW;go_simp;exact hK _ _ ⟨trivial,(z.o.set aw.o.2 av 5 _),Qe⟩;intro L bn w6 hL b hv hd;have i:=O0 (show BU w u y (EC t cm 5 p n a h d (.slice A m c)) (EC t cm 5 p n a h 0 (.slice A m c)) w6 from by have aA:=b;simp only[hL 5 SF,hL 7 SF,if_true]at aA;exact aA);clear b hv hd hL;simp only[mP];have bo:=i.o.lt.1;have bp:=i.o.lt.2;obtain⟨C,D,E,F,G,I,J,M,N⟩:=mD i.o.2.1;cases aF
 .go_wp2_with fail;go_ret;exact⟨vF B.o (by show((sj (ki f) cm h&&decide (xs.length<=4))&&(pE (ki f) p&&(decide (a=0)||decide (a=1))))=false;rw[<-R.o,(show decide (xs.length<=4)=decide ((m:Int)<=4)from by rw[Q.o];exact Re.2 SE),<-T.o];rfl),i.o.1⟩
 go_wp2_with fail;apply(nP P p f w6 (aa.o.jQ i.o.1)).M;rintro e aB ⟨rfl,rfl⟩;obtain⟨aK,ah⟩:=Xq (pE (ki f) p);rw[<-ah];have Z:=O0 ah;clear ah;cases aK
 .go_wp2_with fail;go_ret;exact⟨vF B.o (by show((sj (ki f) cm h&&decide (xs.length<=4))&&(pE (ki f) p&&(decide (a=0)||decide (a=1))))=false;rw[<-R.o,(show decide (xs.length<=4)=decide ((m:Int)<=4)from by rw[Q.o];exact Re.2 SE),<-T.o,<-Z.o];rfl),i.o.1⟩
 by_cases O:a=0
 .have aL:(a==0)=true:=(by rw[O];rfl);have ai:=O0 O;clear O;obtain⟨aM,aN,aO,aP,aQ,aR,aS,aT,aU⟩:=mD i.o.2.2;have aj:=O0 (show fits (ki f) ⟨t,cm,5,p,n,a,h,d,xs⟩=true from by show((sj (ki f) cm h&&decide (xs.length<=4))&&(pE (ki f) p&&(decide (a=0)||decide (a=1))))=true;rw[<-R.o,(show decide (xs.length<=4)=decide ((m:Int)<=4)from by rw[Q.o];exact Re.2 SE),<-T.o,<-Z.o,QP ai.o];rfl);by_cases U:0<=t
  .by_cases V:0<=n
   .go_wp2_with fail;apply(LZ S aB i.o.1 ⟨t,cm,5,p,n,a,h,d,xs⟩ ⟨t,cm,5,p,n,a,h,0,xs⟩ A m c an.o ao.o ab.o rfl).M;rintro e aV ⟨rfl,W⟩;have ak:=O0 W;clear W;go_wp2_with fail;go_ret;exact⟨vT B.o aj.o U V rfl,i.o.1.T (ak.o.M i.o.1.size)⟩
   go_wp2_with fail;go_ret;exact⟨vN B.o V,i.o.1⟩
  go_wp2_with fail;go_ret;exact⟨vM B.o U,i.o.1⟩
 have aL:(a==0)=false:=(by rw[O8];exact O);have ai:=O0 O;clear O;by_cases c1:a=1
 .have aW:(a==1)=true:=(by rw[c1];rfl);have al:=O0 c1;clear c1;obtain⟨aM,aN,aO,aP,aQ,aR,aS,aT,aU⟩:=mD i.o.2.2;have aj:=O0 (show fits (ki f) ⟨t,cm,5,p,n,a,h,d,xs⟩=true from by show((sj (ki f) cm h&&decide (xs.length<=4))&&(pE (ki f) p&&(decide (a=0)||decide (a=1))))=true;rw[<-R.o,(show decide (xs.length<=4)=decide ((m:Int)<=4)from by rw[Q.o];exact Re.2 SE),<-T.o,<-Z.o,QP al.o];simp);by_cases U:0<=t
  .by_cases V:0<=n
   .go_wp2_with fail;apply(LZ S aB i.o.1 ⟨t,cm,5,p,n,a,h,d,xs⟩ ⟨t,cm,5,p,n,a,h,0,xs⟩ A m c an.o ao.o ab.o rfl).M;rintro e aV ⟨rfl,W⟩;have ak:=O0 W;clear W;go_wp2_with fail;go_ret;exact⟨vT B.o aj.o U V rfl,i.o.1.T (ak.o.M i.o.1.size)⟩
   go_wp2_with fail;go_ret;exact⟨vN B.o V,i.o.1⟩
  go_wp2_with fail;go_ret;exact⟨vM B.o U,i.o.1⟩
 have aW:(a==1)=false:=(by rw[O8];exact c1);have al:=O0 c1;clear c1;go_wp2_with fail;go_ret;exact⟨vF B.o (by show((sj (ki f) cm h&&decide (xs.length<=4))&&(pE (ki f) p&&(decide (a=0)||decide (a=1))))=false;rw[<-R.o,(show decide (xs.length<=4)=decide ((m:Int)<=4)from by rw[Q.o];exact Re.2 SE),<-T.o,<-Z.o,Qg ai.o,Qg al.o];rfl),i.o.1⟩
def Fw{T:kG}{V:PV}{pb pos q lo:Nat}{f}(w)(hx:vJ T pos=some (f,q))(h:lz T V w pb pos)(g)(y:kf lM 107 2 (λ_=>False) w lo V.v2 g)(ag:V.lo<=lo/\lo<=w)(hn:g.length<=20000):
  Calls prog 76 #[.pointer pb] w λe w'=>(∃v,e=.returned v)/\Le T V pb q lo (g++[f]) w w':=by
 obtain⟨ah,M,N,O,P⟩:=Pu Ld;have k:=O0 (And.intro M (And.intro N (And.intro O P)));clear M N O P;obtain⟨a,aN,aO,b,aP,Q,R,S,U,rfl⟩:=yF hx;have l:=O0 (And.intro Q (And.intro R (And.intro S U)));have B:=h.low;have ai:=h.lt;have H:=O0 h;have C:=O0 y;obtain⟨A,c,W,aQ,aR⟩:=y.form;have D:=O0 W;clear hx Q R S U h y W;have X:=O0 (O2 w so);have aj:=O0 (H.o.jQ (Ba w so));have ak:=O0 (O7 w so none);have al:(w.alloc so).heap.size=w+1:=SG
 go_enter func76,ntmps76
 go_upto_region 1 with fail;generalize w.alloc so=aS at*;obtain⟨z,hz⟩:=Xq w.heap.size;rw[<-hz]at X al ai B ag⊢;have E:=O0 hz;clear hz;go_wp2_with fail;apply(nQ aj.o l.o.1).M;rintro e am ⟨rfl,hb⟩;have aT:=hb.2.size;have m:=(hb.2.B z SE (λe=>by injection e with e;omega)).T X.o;have an:=O0 m;have ao:=O0 (hb.1.other (z:=z) (i:=0) (u:=tx a) B.2);have ap:=O0 (jR (kg ak.o (some pb)) hb.2);have Y:=jN m 0;have F:=jS m 0;clear hb m;go_wp2_with fail;apply(mz ao.o _ l.o.2.1 SF).M;rintro e aU ⟨⟨v2,rfl⟩,hb⟩;have aq:=hb.2.size;rw[O6]at aq;have Z:=(hb.2.B z (by rw[O6];omega) (λe=>by injection e with e;omega)).T (jO (i:=0) (u:=tx a) an.o);have ar:=O0 Z;have au:=O0 hb.1;have av:=O0 (jR (vR ap.o (jY am z 0 (tx a)) (SC E.o)) hb.2);clear Y F Z hb;go_wp2_with fail;apply(Dc au.o l.o.2.2.1).M;rintro e aw ⟨rfl,hb⟩;have aV:=hb.2.size;have p:=(hb.2.B z SE (λe=>by injection e with e;omega)).T ar.o;have ax:=O0 p;have ay:=O0 (hb.1.other (z:=z) (i:=1) (u:=.bool b) B.2);have az:=O0 (jR av.o hb.2);have aA:=jN p 1;have F:=jS p 1;clear hb p;go_wp2_with fail;apply(mz ay.o _ l.o.2.2.2 SF).M;rintro e d ⟨⟨v4,rfl⟩,hb⟩;have aB:=hb.2.size;rw[O6]at aB;have G:=(hb.2.B z (by rw[O6];omega) (λe=>by injection e with e;omega)).T (jO (i:=1) (u:=.bool b) ax.o);have aC:=O0 hb.1;have I:=O0 (jR (vR az.o (jY aw z 1 (.bool b)) (SC E.o)) hb.2);have Y:=jN G 0;have aW:=jN G 1;obtain⟨aX,aY,J⟩:=hb.1.tree;have aD:=jN J 4;have aZ:=hb.1.lt;have ba:=I.o.size;have bb:z<d:=SE
 have bc:=O0 J;have aE:=O0 (C.o.grown lM.ok I.o (λz e=>by injection e with e;subst e;exact⟨λh=>h,λe=>SC ((C.o.ge _ e.symm).1)⟩));have aa:∀q,V.v2.ownBlock=some q->lo<=q:=λq e=>(C.o.ge q e).1;have aF:=O0 aa;have aG:g.length+1<=maxLen:=SP
 have aH:(g.length+1)*24<=140737488355328:=SE
 have K:=O0 (aE.o.grown lM.ok (uJ d (rl a b)) (λz e=>by cases e));rw[D.o]at K;obtain⟨n,r⟩:∃n,g.length=n:=⟨_,rfl⟩
 rw[D.o,r]at aD;rw[r]at K;have aI:=O0 (show∀(s:Nat) (u:Value),[tx a,Value.bool b][s]?=some u->(d.alloc (rl a b)).drew.cell? ((d:Addr).add s)=some u from λs u aJ=>by rw[kM,Pk];exact jU (w:=(d.alloc (rl a b)).drew) (O2 d (rl a b)) s u (by simpa using aJ));have aK:=O0 (aC.o.grown (uJ d (rl a b)));clear aA F G hb J aa;go_wp2_with fail;go_region_law (first|(refine qF (d.alloc (rl a b)).drew (by rfl) (.tmp 18) (.tmp 20) 56 (by rfl) lo 107 ah _ 2 24 underlying56 k.o.1 k.o.2.1 k.o.2.2.1 k.o.2.2.2 rfl lM.ok (λ_=>False) (.slice A n c) g (by rfl) K.o ⟨d,0,none⟩ [tx a,.bool b] ⟨a,b⟩ (by rfl) aI.o rfl aG aH (by show lo<=(d.alloc _).heap.size;rw[O4];omega) n r ?_;intro j c5 t ab x;have L:=aF.o;rw[D.o,r]at L;have ac:=aK.o.jP x.size (λq bd=>x.B q (by show q<(d.alloc _).heap.size;rw[O4];omega) (λe=>SC (L q e.symm)));obtain⟨be,bf,ad⟩:=ac.tree;have bg:=jN ad 4;have bh:=jS ad 4));all_goals
  have ae:=ac.put (V':={V with v2:=.slice j (n+1) c5}) 4 (.slice j (n+1) c5) rfl (λ_ _=>rfl);have af:=ab.grown lM.ok (jY t pb 4 (.slice j (n+1) c5)) (λz e=>by injection e with e;subst e;exact⟨λh=>h,λe=>SC ((ab.ge _ e.symm).1)⟩);have hF:Fr lo pb w (t.setCell ⟨pb,4,none⟩ (.slice j (n+1) c5)):=(((Fr.of I.o (SC E.o) (λz e=>.inr (by injection e with e;exact e.symm))).T (Fr.of (uJ d (rl a b)) SE (λz e=>by cases e))).T (Fr.of x (by show lo<=(d.alloc _).heap.size;rw[O4];omega) (λz e=>.inl (L z e)))).T (Fr.of (jY t pb 4 (.slice j (n+1) c5)) (by have:=x.size;have aL:(d.alloc (rl a b)).heap.size<=t:=this;rw[O4]at aL;omega) (λz e=>.inr (by injection e with e;exact e.symm)));have aM:=O0 (And.intro ae (And.intro af hF));clear ae af hF;go_wp2_with fail
  go_end0
  exact⟨⟨_,rfl⟩,_,aM.o⟩
def Bc(S w)(nm:List UInt8)(j:Option Addr)(k c1:Nat)(l:Option Addr)(m c2:Nat)(g)(d c3:Nat)(f)(hg:mh f)(X:jT (lv .i64) S w (.slice g d c3) f.jZ)(hS:∀q,S q->q<w)(hm:d<=3)(a b n:Int)(hn: -9223372036854775808<=n/\n<=9223372036854775807):
  Calls prog 9 #[.agg (kb nm j k c1 l m c2 g d c3),.agg #[.int .i64 a,b,n]] w (kd (tx (ql (ki f) a b n)) w):=by
 have D:=hg.LF;have aj:=D.c a;have ak:=D.c b;have al:=P0 n hn.1 hn.2;have Y:=(Ba w (.cells (kb nm j k c1 l m c2 g d c3) 37)).alloc SG (qe a b n);have E:=O0 Y;have F:=O0 ((Ph (w.alloc (.cells (kb nm j k c1 l m c2 g d c3) 37)) (qe a b n) SG).T (O2 w (.cells (kb nm j k c1 l m c2 g d c3) 37)));have u:=O0 (show((w.alloc (.cells (kb nm j k c1 l m c2 g d c3) 37)).alloc (qe a b n)).heap[w.heap.size+1]?=some (qe a b n)from by have:=O2 (w.alloc (.cells (kb nm j k c1 l m c2 g d c3) 37)) (qe a b n);rw[O4]at this;exact this);have Z:((w.alloc (.cells (kb nm j k c1 l m c2 g d c3) 37)).alloc (qe a b n)).heap.size=w+2:=SG
 have am:=O0 Z;have G:=O0 (show∀(w':World) (c:Int),Below w w w'->Calls prog 20 #[.agg (kb nm j k c1 l m c2 g d c3),c] w' (kd (.tuple #[tx (cN (ki f) c),.bool (pE (ki f) c)]) w')from λw' c hb=>yI S w' nm j k c1 l m c2 g d c3 f (X.jP (lv.ok .i64) (λq I=>hb.B q (hS q I))) (λq I=>O1 (hS q I) hb.size) hm c);have aa:=O0 (λw'=>D6 n hn.1 hn.2 w');obtain⟨r,hr⟩:=Xq (ql (ki f) a b n);rw[<-hr];obtain⟨ab,J⟩:=Xq (pE (ki f) a);obtain⟨ac,K⟩:=Xq (pE (ki f) b);obtain⟨L,v⟩:=Xq (cN (ki f) a);obtain⟨cb,x⟩:=Xq (cN (ki f) b);obtain⟨M,N⟩:=Xq (Lib.itoa n);have y:=O0 (show r=if ab&&(ac&&decide (0<=n))then [109,101,115,115,97,103,101,32]++(M++([32,102,114,111,109,32]++(L++([32,116,111,32]++cb))))else []by rw[hr,J,K,v,x,N];rfl);rw[<-v]at aj;rw[<-x]at ak;rw[<-N]at al aa;have ad:=O0 (λw'=>G.o w' b);have ae:=O0 (λw'=>G.o w' a);rw[<-J,<-v]at ae;rw[<-K,<-x]at ad;clear J K v x N hr Y Z X hS hg D G hm
 go_enter func9,ntmps9
 go_upto_region 1 with fail;have hz:=am.o;generalize(w.alloc (.cells (kb nm j k c1 l m c2 g d c3) 37)).alloc (qe a b n)=O at*;obtain⟨P,af⟩:=Xq w.heap.size;rw[<-af]at F u hz⊢;obtain⟨z,p⟩:=Xq (P+1);rw[<-p]at u⊢;have an:P<O:=SE
 have ao:z<O:=SE
 clear af p hz;obtain⟨⟨Q,R,T,U⟩,_⟩:=mK F.o;obtain⟨⟨A,B,C⟩,_⟩:=kz u.o;go_wp21;apply(ae.o O E.o).M;rintro e ag ⟨rfl,p⟩;have ax:=p.size;have V:=O0 (E.o.T (p.M E.o.size));have ap:=O0 ((p.B P an).T F.o);have ah:=O0 ((p.B z ao).T u.o)
 have aq:z<ag:=SE
 clear p Q R T U A B C;obtain⟨⟨Q,R,T,U⟩,_⟩:=mK ap.o;obtain⟨⟨A,B,C⟩,_⟩:=kz ah.o;go_wp21;apply(ad.o ag V.o).M;rintro e ar ⟨rfl,W⟩;have t:=O0 (V.o.T (W.M V.o.size));have au:=O0 ((W.B z aq).T ah.o)
 clear W Q R T U A B C;obtain⟨⟨A,B,C⟩,_⟩:=kz au.o;cases ab
 .have i:r=[]:=(by rw[y.o];rfl);have s:=O0 i;clear i;go_wp21;go_ret;refine⟨?_,t.o⟩;rw[s.o];rfl
 cases ac
 .have i:r=[]:=(by rw[y.o];rfl);have s:=O0 i;clear i;go_wp21;go_ret;refine⟨?_,t.o⟩;rw[s.o];rfl
 by_cases ay:n<0
 .have i:r=[]:=(by rw[y.o];rw[Qg (show¬0<=n from SE)];rfl);have s:=O0 i;clear i;go_wp21;go_ret;refine⟨?_,t.o⟩;rw[s.o];rfl
 .have av:0<=n:=SE;have i:r=[109,101,115,115,97,103,101,32]++(M++([32,102,114,111,109,32]++(L++([32,116,111,32]++cb)))):=(by rw[y.o,QP av];rfl);have s:=O0 i;clear i;go_wp21;apply(aa.o ar).M;rintro e az ⟨rfl,ai⟩;have aw:=O0 (t.o.T (ai.M t.o.size));clear ai;go_wp21;go_ret;refine⟨?_,aw.o⟩;rw[s.o];show Ending.returned (.string ((⟨[109,101,115,115,97,103,101,32].toArray⟩:ByteArray)++⟨M.toArray⟩++⟨[32,102,114,111,109,32].toArray⟩++⟨L.toArray⟩++⟨[32,116,111,32].toArray⟩++⟨cb.toArray⟩))=_;rw[kq,kq,kq,kq,kq];simp only[Py,QJ]
end Go.Proofs.YtjoamapacifofaaGreatDoor
namespace Go.Proofs.YtjoamapacifofaaGreatDoor.nu
open Go
section
variable {m:Nm} {k a b n:Int}
def HI(h:n<0):sU m k a b n=[]:=by unfold sU;rw[if_pos h]
def JC(c:k≠2)(hc:pE m a=false):FU m k a b n=[]:=by
 have d:cN m a=[]:=by unfold cN;rw[hc];rfl
 have e:ql m a b n=[]:=by unfold ql;rw[hc];rfl
 unfold FU;rw[d,e,if_neg c];simp
def HJ(c:k≠2)(hc:pE m a=false):sU m k a b n=[]:=by unfold sU;rw[JC c hc];simp
def oM(h:¬n<0)(c:k=1->sj m a b=true)(d:FU m k a b n≠[]):sU m k a b n=kW m k a b n++FU m k a b n:=by unfold sU;rw[if_neg h,if_neg (λhc=>by have:=c hc.1;rw[hc.2]at this;cases this),if_neg d]
def rP(c:FU m k a b n=[]):sU m k a b n=[]:=by unfold sU;rw[c];simp
def HL(h:sj m a b=false):sU m 1 a b n=[]:=by unfold sU;rw[h];simp
end
end Go.Proofs.YtjoamapacifofaaGreatDoor.nu
namespace Go.Proofs.YtjoamapacifofaaGreatDoor
open Go.RowKit kT nu Go.Proofs.Tryz
def Be{l}(h:mm l=true):l≠[]:=by rintro rfl;simp[mm]at h
def Mo{f}(hg:mh f){c:Int}(h:pE (ki f) c=true):cN (ki f) c≠[]:=by obtain⟨a,b⟩:=pQ.1 h;obtain⟨x,hx⟩:∃x,f.jZ[c.toNat]?=some x:=Gx SE;unfold cN;rw[PJ h];simp only[ki,PX,hx];exact Be (hg.jZ x (O5 hx)).name
def DA{f}{i:Nat}{x}(hx:f.km[i]?=some x):fN (ki f) (i:Int)=x.name:=by have:=(Pm.1 hx).1;unfold fN;rw[PJ (rO.2 ⟨SE,SE⟩)];simp[ki,hx]
def HM(S w)(nm:List UInt8)(p)(i c1:Nat)(u:Option Addr)(v c2:Nat)(s)(l c3:Nat)(f)(hg:mh f)(ae:jT lM S w (.slice p i c1) f.km)(an:jT (lv .i64) S w (.slice s l c3) f.jZ)(hS:∀q,S q->q<w)(hm:l<=3)(k a b n:Int)(hn: -9223372036854775808<=n/\n<=9223372036854775807):
  Calls prog 7 #[.agg (kb nm p i c1 u v c2 s l c3),.agg #[.int .u8 k,a,b,n]] w (kd (tx (sU (ki f) k a b n)) w):=by
 have ao:=ae.len;have W:=hg.LF;have aT:=W.c a;have ap:=W.f a;have aU:=W.h a b;have aV:=D7 W.c hn.1 hn.2 (a:=a) (b:=b);have aW:=P0 n hn.1 hn.2;have aq:=(Ba w (.cells (kb nm p i c1 u v c2 s l c3) 37)).alloc SG (qk k a b n);have ar:=O0 aq;have af:=O0 ((Ph (w.alloc (.cells (kb nm p i c1 u v c2 s l c3) 37)) (qk k a b n) SG).T (O2 w (.cells (kb nm p i c1 u v c2 s l c3) 37)));have Z:=O0 (show((w.alloc (.cells (kb nm p i c1 u v c2 s l c3) 37)).alloc (qk k a b n)).heap[w.heap.size+1]?=some (qk k a b n)from by have:=O2 (w.alloc (.cells (kb nm p i c1 u v c2 s l c3) 37)) (qk k a b n);rw[O4]at this;exact this);have aX:=O0 (show((w.alloc (.cells (kb nm p i c1 u v c2 s l c3) 37)).alloc (qk k a b n)).heap.size=w+2 from SG);have T:=O0 (show∀w':World,Below w w w'->jT lM S w' (.slice p i c1) f.km/\jT (lv .i64) S w' (.slice s l c3) f.jZ/\∀q,S q->q<w' from λw' hb=>⟨ae.jP lM.ok (λq X=>hb.B q (hS q X)),an.jP (lv.ok .i64) (λq X=>hb.B q (hS q X)),λq X=>O1 (hS q X) hb.size⟩);have au:=O0 (λw'=>D6 n hn.1 hn.2 w');have av:=O0 (show∀w':World,Below w w w'->Calls prog 20 #[.agg (kb nm p i c1 u v c2 s l c3),a] w' (kd (.tuple #[tx (cN (ki f) a),.bool (pE (ki f) a)]) w')from λw' hb=>yI S w' nm p i c1 u v c2 s l c3 f (T.o w' hb).2.1 (T.o w' hb).2.2 hm a);have aw:=O0 (show∀w':World,Below w w w'->Calls prog 21 #[.agg (kb nm p i c1 u v c2 s l c3),a,b] w' (kd (.tuple #[tx (hN (ki f) a b),.bool (sj (ki f) a b)]) w')from λw' hb=>zG S w' nm p i c1 u v c2 s l c3 f hg (T.o w' hb).2.1 (T.o w' hb).2.2 hm a b);have ax:=O0 (show∀w':World,Below w w w'->Calls prog 9 #[.agg (kb nm p i c1 u v c2 s l c3),.agg #[.int .i64 a,b,n]] w' (kd (tx (ql (ki f) a b n)) w')from λw' hb=>Bc S w' nm p i c1 u v c2 s l c3 f hg (T.o w' hb).2.1 (T.o w' hb).2.2 hm a b n hn);obtain⟨r,hr⟩:=Xq (sU (ki f) k a b n);rw[<-hr];have j:=O0 hr;have aY:=O0 (λh=>Mo hg (c:=a) h);have aZ:=O0 hg;have ay:=O0 ao.1;obtain⟨z,ag⟩:=Xq (Lib.itoa n);obtain⟨t,ah⟩:=Xq (ql (ki f) a b n);obtain⟨A,aa⟩:=Xq (cN (ki f) a);obtain⟨ba,ai⟩:=Xq (pE (ki f) a);obtain⟨az,ab⟩:=Xq (hN (ki f) a b);obtain⟨ok,aj⟩:=Xq (sj (ki f) a b);rw[<-ag]at au aW;rw[<-ah]at ax aV;rw[<-aa,<-ai]at av;rw[<-aa]at aT;rw[<-ab,<-aj]at aw;rw[<-ab]at aU;have V:=O0 ag;have D:=O0 ah;have B:=O0 aa;have aA:=O0 ai;have bb:=O0 ab;have E:=O0 aj;clear hr ag ah aa ai ab aj aq ae an hS hg W hn ao
 go_enter func7,ntmps7
 go_upto_region 1 with fail;have hz:=aX.o;generalize(w.alloc (.cells (kb nm p i c1 u v c2 s l c3) 37)).alloc (qk k a b n)=ak at*;obtain⟨F,aB⟩:=Xq w.heap.size;rw[<-aB]at af Z hz⊢;obtain⟨I,aC⟩:=Xq (F+1);rw[<-aC]at Z⊢;have bc:F<ak:=SE
 have bd:I<ak:=SE
 clear aB aC hz;obtain⟨⟨J,K,L,M⟩,_⟩:=mK af.o;obtain⟨⟨N,O,P,Q⟩,_⟩:=mK Z.o;go_wp21;apply(au.o ak).M;rintro e ac ⟨rfl,g⟩;have br:=g.size;have R:=O0 (ar.o.T (g.M ar.o.size));have aD:=O0 ((g.B F bc).T af.o);have aE:=O0 ((g.B I bd).T Z.o);have be:F<ac:=SE
 have bf:I<ac:=SE
 clear g J K L M N O P Q;obtain⟨⟨J,K,L,M⟩,_⟩:=mK aD.o;obtain⟨⟨N,O,P,Q⟩,_⟩:=mK aE.o;by_cases aF:n<0
 .have d:=O0 (show r=[]by rw[j.o];exact HI aF);go_wp21;go_ret;refine⟨?_,R.o⟩;rw[d.o];try rfl
 have G:=O0 aF;by_cases c2:k=2
 .subst c2;by_cases bg:a<0
  .have d:=O0 (show r=[]by rw[j.o];exact rP (by show fN (ki f) a=[];unfold fN;rw[Pn (by rw[rO];omega)]));go_wp21;go_ret;refine⟨?_,R.o⟩;rw[d.o];try rfl
  by_cases bh:(i:Int)<=a
  .have d:=O0 (show r=[]by rw[j.o];exact rP (by show fN (ki f) a=[];unfold fN;rw[Pn (by rw[rO];have:=ay.o;omega)]));go_wp21;go_ret;refine⟨?_,R.o⟩;rw[d.o];try rfl
  obtain⟨U,rfl⟩:=Qx (show 0<=a from SE);have bs:U<i:=SE;obtain⟨x,hx⟩:∃x,f.km[U]?=some x:=Gx (SC ay.o);obtain⟨bt,bu,bi,rfl,bj,aG,aH⟩:=(T.o ac R.o).1.kt lM.ok U x hx;obtain rfl:bi=[tx x.name,.bool x.init]:=aG;have bk:=aH 0 _ rfl;rw[Pc]at bk;obtain⟨bv,bw⟩:=mG U i;have bx:x.name.length<=12:=(by have:=DA hx;rw[this]at ap;exact ap);have d:=O0 (show r=[102,108,105,112,32]++(z++[32,111,102,32])++x.name by rw[j.o,oM (show¬n<0 from SC G.o) (λh=>by cases h) (by show fN (ki f) (U:Int)≠[];rw[DA hx];exact Be (aZ.o.km x (O5 hx))),V.o];show kW (ki f) 2 (U:Int) b n++fN (ki f) (U:Int)=_;rw[DA hx];rfl);clear aH bj hx bg bh;go_wp21;go_ret;refine⟨?_,R.o⟩;rw[d.o];show Ending.returned (.string ((⟨[102,108,105,112,32].toArray⟩:ByteArray)++⟨z.toArray⟩++⟨[32,111,102,32].toArray⟩++⟨x.name.toArray⟩))=_;rw[kq,kq,kq];simp only[Py]
 have bz:(k==2)=false:=by rw[O8];exact c2
 have aI:=O0 c2;go_wp21;apply(av.o ac R.o).M;rintro e al ⟨rfl,g⟩;have bA:=g.size;have ad:=O0 (R.o.T (g.M R.o.size));have aJ:=O0 ((g.B F be).T aD.o);have aK:=O0 ((g.B I bf).T aE.o);have bl:F<al:=SE
 have bm:I<al:=SE
 clear g J K L M N O P Q;obtain⟨⟨J,K,L,M⟩,_⟩:=mK aJ.o;obtain⟨⟨N,O,P,Q⟩,_⟩:=mK aK.o;cases ba
 .have d:=O0 (show r=[]by rw[j.o];exact HJ aI.o aA.o.symm);go_wp21;go_ret;refine⟨?_,ad.o⟩;rw[d.o];try rfl
 have Y:=O0 (show A≠[]by rw[B.o];exact aY.o aA.o.symm);go_wp21;apply(ax.o al ad.o).M;rintro e am ⟨rfl,g⟩;have bB:=g.size;have y:=O0 (ad.o.T (g.M ad.o.size));have aL:=O0 ((g.B F bl).T aJ.o);have aM:=O0 ((g.B I bm).T aK.o);have bn:F<am:=SE
 have bo:I<am:=SE
 clear g J K L M N O P Q;obtain⟨⟨J,K,L,M⟩,_⟩:=mK aL.o;obtain⟨⟨N,O,P,Q⟩,_⟩:=mK aM.o;by_cases c1:k=1
 .subst c1;go_wp21;apply(aw.o am y.o).M;rintro e bC ⟨rfl,g⟩;have aN:=O0 (y.o.T (g.M y.o.size));have bp:=O0 ((g.B F bn).T aL.o);have bq:=O0 ((g.B I bo).T aM.o);clear g J K L M N O P Q;obtain⟨⟨J,K,L,M⟩,_⟩:=mK bp.o;obtain⟨⟨N,O,P,Q⟩,_⟩:=mK bq.o;cases ok
  .have d:=O0 (show r=[]by rw[j.o];exact HL E.o.symm);go_wp21;go_ret;refine⟨?_,aN.o⟩;rw[d.o];try rfl
  have d:=O0 (show r=([114,101,113,117,101,115,116,32]++(z++([32]++(az++[32,111,102,32]))))++A by rw[j.o,oM (show¬n<0 from SC G.o) (λh=>by first|(cases h;done)|exact E.o.symm) (by show cN (ki f) a≠[];rw[<-B.o];exact Y.o),V.o,bb.o,B.o];rfl);go_wp21;go_ret;refine⟨?_,aN.o⟩;rw[d.o];show Ending.returned (.string ((⟨[114,101,113,117,101,115,116,32].toArray⟩:ByteArray)++⟨z.toArray⟩++⟨[32].toArray⟩++⟨az.toArray⟩++⟨[32,111,102,32].toArray⟩++⟨A.toArray⟩))=_;rw[kq,kq,kq,kq,kq];simp only[Py]
 by_cases c3:k=3
 .subst c3;have d:=O0 (show r=([100,101,112,108,111,121,32]++(z++[32,111,102,32]))++A by rw[j.o,oM (show¬n<0 from SC G.o) (λh=>by first|(cases h;done)|exact E.o.symm) (by show cN (ki f) a≠[];rw[<-B.o];exact Y.o),V.o,B.o];rfl);go_wp21;go_ret;refine⟨?_,y.o⟩;rw[d.o];show Ending.returned (.string ((⟨[100,101,112,108,111,121,32].toArray⟩:ByteArray)++⟨z.toArray⟩++⟨[32,111,102,32].toArray⟩++⟨A.toArray⟩))=_;rw[kq,kq,kq];simp only[Py]
 by_cases c4:k=4
 .subst c4;have d:=O0 (show r=([99,114,97,115,104,32]++(z++[32,111,102,32]))++A by rw[j.o,oM (show¬n<0 from SC G.o) (λh=>by first|(cases h;done)|exact E.o.symm) (by show cN (ki f) a≠[];rw[<-B.o];exact Y.o),V.o,B.o];rfl);go_wp21;go_ret;refine⟨?_,y.o⟩;rw[d.o];show Ending.returned (.string ((⟨[99,114,97,115,104,32].toArray⟩:ByteArray)++⟨z.toArray⟩++⟨[32,111,102,32].toArray⟩++⟨A.toArray⟩))=_;rw[kq,kq,kq];simp only[Py]
 by_cases c5:k=5
 .subst c5;by_cases m:t=[]
  .have C:=O0 (show ql (ki f) a b n=[]by rw[<-D.o];exact m);subst m;have d:=O0 (show r=[]by rw[j.o];exact rP C.o);go_wp21;go_ret;refine⟨?_,y.o⟩;rw[d.o];try rfl
  have C:=O0 m;have aO:t.isEmpty=false:=(by cases LM:t with|nil=>exact absurd LM m|cons=>rfl);clear m;have d:=O0 (show r=([100,114,111,112,32,111,102,32])++t by rw[j.o,oM (show¬n<0 from SC G.o) (λh=>by first|(cases h;done)|exact E.o.symm) (by show ql (ki f) a b n≠[];rw[<-D.o];exact C.o),D.o];rfl);go_wp21;go_ret;refine⟨?_,y.o⟩;rw[d.o];show Ending.returned (.string ((⟨[100,114,111,112,32,111,102,32].toArray⟩:ByteArray)++⟨t.toArray⟩))=_;rw[kq]
 by_cases aP:k=6
 .subst aP;by_cases m:t=[]
  .have C:=O0 (show ql (ki f) a b n=[]by rw[<-D.o];exact m);subst m;have d:=O0 (show r=[]by rw[j.o];exact rP C.o);go_wp21;go_ret;refine⟨?_,y.o⟩;rw[d.o];try rfl
  have C:=O0 m;have aO:t.isEmpty=false:=(by cases LM:t with|nil=>exact absurd LM m|cons=>rfl);clear m;have d:=O0 (show r=([100,101,108,97,121,32,111,102,32])++t by rw[j.o,oM (show¬n<0 from SC G.o) (λh=>by first|(cases h;done)|exact E.o.symm) (by show ql (ki f) a b n≠[];rw[<-D.o];exact C.o),D.o];rfl);go_wp21;go_ret;refine⟨?_,y.o⟩;rw[d.o];show Ending.returned (.string ((⟨[100,101,108,97,121,32,111,102,32].toArray⟩:ByteArray)++⟨t.toArray⟩))=_;rw[kq]
 by_cases aQ:k=7
 .subst aQ;by_cases m:t=[]
  .have C:=O0 (show ql (ki f) a b n=[]by rw[<-D.o];exact m);subst m;have d:=O0 (show r=[]by rw[j.o];exact rP C.o);go_wp21;go_ret;refine⟨?_,y.o⟩;rw[d.o];try rfl
  have C:=O0 m;have aO:t.isEmpty=false:=(by cases LM:t with|nil=>exact absurd LM m|cons=>rfl);clear m;have d:=O0 (show r=([115,101,99,111,110,100,32,99,111,112,121,32,111,102,32])++t by rw[j.o,oM (show¬n<0 from SC G.o) (λh=>by first|(cases h;done)|exact E.o.symm) (by show ql (ki f) a b n≠[];rw[<-D.o];exact C.o),D.o];rfl);go_wp21;go_ret;refine⟨?_,y.o⟩;rw[d.o];show Ending.returned (.string ((⟨[115,101,99,111,110,100,32,99,111,112,121,32,111,102,32].toArray⟩:ByteArray)++⟨t.toArray⟩))=_;rw[kq]
 by_cases aR:k=8
 .subst aR;have d:=O0 (show r=([102,97,105,108,117,114,101,32,111,102,32,100,105,115,107,32,111,112,101,114,97,116,105,111,110,32]++(z++[32,111,102,32]))++A by rw[j.o,oM (show¬n<0 from SC G.o) (λh=>by first|(cases h;done)|exact E.o.symm) (by show cN (ki f) a≠[];rw[<-B.o];exact Y.o),V.o,B.o];rfl);go_wp21;go_ret;refine⟨?_,y.o⟩;rw[d.o];show Ending.returned (.string ((⟨[102,97,105,108,117,114,101,32,111,102,32,100,105,115,107,32,111,112,101,114,97,116,105,111,110,32].toArray⟩:ByteArray)++⟨z.toArray⟩++⟨[32,111,102,32].toArray⟩++⟨A.toArray⟩))=_;rw[kq,kq,kq];simp only[Py]
 by_cases aS:k=9
 .subst aS;have d:=O0 (show r=([106,105,116,116,101,114,32,111,102,32,116,105,109,101,114,32]++(z++[32,111,102,32]))++A by rw[j.o,oM (show¬n<0 from SC G.o) (λh=>by first|(cases h;done)|exact E.o.symm) (by show cN (ki f) a≠[];rw[<-B.o];exact Y.o),V.o,B.o];rfl);go_wp21;go_ret;refine⟨?_,y.o⟩;rw[d.o];show Ending.returned (.string ((⟨[106,105,116,116,101,114,32,111,102,32,116,105,109,101,114,32].toArray⟩:ByteArray)++⟨z.toArray⟩++⟨[32,111,102,32].toArray⟩++⟨A.toArray⟩))=_;rw[kq,kq,kq];simp only[Py]
 have bD:(k==1)=false:=by rw[O8];exact c1
 have bE:(k==3)=false:=by rw[O8];exact c3
 have bF:(k==4)=false:=by rw[O8];exact c4
 have bG:(k==5)=false:=by rw[O8];exact c5
 have bH:(k==6)=false:=by rw[O8];exact aP
 have bI:(k==7)=false:=by rw[O8];exact aQ
 have bJ:(k==8)=false:=by rw[O8];exact aR
 have aG:(k==9)=false:=by rw[O8];exact aS
 have d:=O0 (show r=[]by rw[j.o];exact rP (by unfold FU;rw[Pn SE,Pn aI.o,Pn SE]));go_wp21;go_ret;refine⟨?_,y.o⟩;rw[d.o];try rfl
end Go.Proofs.YtjoamapacifofaaGreatDoor
