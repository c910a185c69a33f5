import Derived.Test.YtjoamapacifofaaGreatDoorZ14
import Derived.Test.YtjoamapacifofaaGreatDoorZ15
import Derived.Test.YtjoamapacifofaaGreatDoorZ16
set_option maxRecDepth 1000000
set_option maxHeartbeats 32000000
set_option linter.all false
namespace Go.Proofs.YtjoamapacifofaaGreatDoor
open RowKit Go.Proofs.Tryz kT Maps nu pG ChangeShapes WideShapes ChangeAt
def zk:∀d,Ab d
 |0=>BB
 |d+1=>BC d (E0 d (zk d) (EY d (zk d)))
def sL(S)(B b n k:Nat)(w A)(m c:Nat)(hs)(hL:ln w)(aw:J4 B)(ad:nO B b (n:Int) k w)(ae:jT (lF .u8) S w (.slice A m c) hs)(hg:∀h∈hs,uH h/\∀s∈h.body,Ed Ds s)(hm:m<=3)(hF:Du S B b w)(hn:n<=80)(af:k+1557906<=90000000):
  Calls prog 99 #[.pointer b,.agg #[.slice A m c]] w (pn B b (n:Int) (k+1557906) w):=by
 have ax:=O0 ae.len.1;have bg:=ad.lt;have ay:=hL;have ag:=aw;have az:=ae;have aA:=O0 hg;have K:=hF;have p:=Ba w (mc A m c);have aB:=(ad.jP p)
 have aC:=(kB.old (b:=b) (show B<=w from SE) p)
 have aD:=O0 (O2 w (mc A m c))
 clear hg
 go_enter func99,ntmps99
 go_upto_region 1 with fail;generalize w.alloc (mc A m c)=bh at*;have aE:=jN aD.o 0;go_wp21;clear aE;go_loopw [9] (λi wr=>∃j f:Nat,j<=m/\f=k+j*519302/\i=j/\nO B b (n:Int) f wr/\kB B b w wr) (λi _=>m-(intOf i).toNat)
 .exact⟨0,k,Pb _,SG,rfl,aB,aC⟩
 obtain⟨j,f,bi,ah,rfl,E,F⟩:=hrel;have bj:=E.lt;have R:=O0 ah;have bk:f<=90000000:=SE;clear ah;by_cases bl:j<m
 .obtain⟨h,T⟩:∃h,hs[j]?=some h:=Gx (SC ax.o);obtain⟨bm,bn,r,rfl,bo,hr,N⟩:=(az.jP (lF.ok .u8) (K.eq F)).kt (lF.ok .u8) j h T;obtain⟨v1,v2,rfl,U,V⟩:=hr;obtain⟨G,I,rfl,_⟩:=U.form;obtain⟨L,cb,rfl,_⟩:=V.form;have W:=N 0 _ rfl;have ai:=N 1 _ rfl;have aj:=N 2 _ rfl;rw[Pc]at W;obtain⟨M,ak⟩:=aA.o h (O5 T);have aF:=O0 ak;obtain⟨t,al⟩:=Xq h.params.length;obtain⟨J,am⟩:=Xq h.body.length;have bp:t<=2:=SC M.FX;have aG:J<=12:=SC M.B4;rw[<-al]at U ai;rw[<-am]at V aj;have an:(⟨h.name.toArray⟩:ByteArray).size<=12:=(by rw[nK];exact mN M.name);obtain⟨nm,ao⟩:=Xq h.name;rw[<-ao]at W an;obtain⟨bq,br⟩:=mG j m;clear N T ak al am ao;have p:=Ba wr (.cells (ka nm G t I L J cb) 125);have aH:=(E.jP p)
  have ap:=(F.T (kB.old (b:=b) (show B<=wr from SE) p))
  have aI:=(U.jP kh.ok (λq y=>p.B q ((K.to F).lt q y)))
  have aJ:=(V.jP (kp.ok .u8 _) (λq y=>p.B q ((K.to F).lt q y)))
  have O:=O0 (O2 wr (.cells (ka nm G t I L J cb) 125));have P:(wr.alloc (.cells (ka nm G t I L J cb) 125)).heap.size=wr+1:=SG;have aK:=O0 P;clear P;have bs:f+519302<=90000000:=SC R.o;go_upto_region 4 with fail;have P:=aK.o;obtain⟨z,aq⟩:=Xq wr.heap.size;rw[<-aq]at O P⊢;generalize wr.alloc (.cells (ka nm G t I L J cb) 125)=d at*;have ar:z<d:=SE;have aL:z≠b:=SE;have bt:b<d:=SE;have X:=(K.to ap)
  clear W ai aj aq E F;refine Dr 7 (λaM=>cond aM (λx=>nO B b ((n:Nat):Int) (f+1) x/\kB B b d x) (λx=>Below d d x)) (mi [(·=.pointer b),(·=.pointer z),Tr,(Pp z 1),(·=.slice G t I),Tr,Tr,Tr]) [(2,λv w=>∃s:ByteArray,v=.string s/\s.size<=12),(5,λv w=>∃s:ByteArray,v=.string s/\s.size<=12700),(6,λv w=>∃(l:Nat) (C:List ByteArray),v=.slice l 5 5/\Nw d w l/\C.length=5/\(∀s∈C,s.size<=20000)/\w.heap[l]?=some (.cells (C.map Value.string).toArray 9 (0,0)))] ((Below.refl _ _).drew) ⟨?_,?_,?_,?_,?_,?_,?_,?_,trivial⟩ ?_;exact .f 0;exact .f 5;intro Q w a hf hv hd hw;replace a:(λx=>Below d d x) w:=a;exact .l 14 (hv 1 _ rfl rfl) (jU ((a.B z ar).T O.o) 0 _ rfl) ⟨trivial,a,Qc ⟨_,rfl,an⟩<|Qa⟩;exact .f 5;intro Q w a hf hv hd hw;replace a:(λx=>Below d d x) w:=a;exact .l 16 (hv 3 _ rfl rfl) (jU ((a.B z ar).T O.o) 1 _ rfl) ⟨rfl,a,Qa⟩;intro Q w a hf hv hd hw;have bu:=Sv 17 hv 4;replace a:(λx=>Below d d x) w:=a;have bv:=a.size;replace a:=Hq a;refine .c (KT S w G t I h.params (aI.jP kh.ok (λq y=>a.o.B q (X.lt q y))) (λx hx=>SC (mN (M.params x hx))) SE (λq y=>SC (X.lt q y))) ?_;rintro e w' ⟨s,rfl,hz,hb⟩;exact⟨_,rfl,⟨trivial,a.o.T (hb.M a.o.size),Qb<|Qc ⟨_,rfl,hz⟩<|Qb<|Qe⟩⟩;intro Q w a hf hv hd hw;obtain⟨aN,aO,bw⟩:=kE hd 0;have bx:=Sl 15 aO;obtain⟨aP,aQ,bz⟩:=kE hd 1;have bA:=Sl 18 aQ;replace a:(λx=>Below d d x) w:=a;have au:=a.size;replace a:=Hq a;exact .q (g:=⟨trivial,a.o.alloc a.o.size _,Q2<|Qc ⟨_,[⟨#[111,110,32]⟩,aN,⟨#[40]⟩,aP,⟨#[41,32,123]⟩],rfl,⟨au,SG⟩,rfl,by intro x hx;simp only[Pz,Ps,PU]at hx;rcases hx with rfl|rfl|rfl|rfl|rfl<;>first|omega|decide,O2 _ _⟩<|Qe⟩);intro Q w a hf hv hd hw;have bB:=Sv 13 hv 0;obtain⟨l,C,aR,aS,aT,aU,aV⟩:=kE hd 2;have bC:=Sl 19 aR;replace a:(λx=>Below d d x) w:=a;have au:=a.size;replace a:=Hq a;refine .c (po B b n (f) 5 w l C aT (aH.jP a.o) aV (SC aS.1) SE SE SE aU) ?_;rintro e w' ⟨he,aW,D⟩;subst he;exact⟨_,rfl,⟨trivial,⟨aW,(kB.old SE a.o).T D⟩,Q2<|Qd (λu ⟨l,C,e,Y,E,aX,af⟩=>⟨l,C,e,⟨Y.1,O1 Y.2 D.size⟩,E,aX,D.jP l _ af (SC Y.1) (lC SF)⟩)<|Qe⟩⟩;intro bD Z aY aZ ba;have aa:nO B b ((n:Nat):Int) (f+1) Z/\kB B b d Z:=aY;have bb:=aa.1;have ab:=(aa.2)
  clear aZ ba aa;simp only[mP];obtain⟨⟨_,_,bc⟩,_⟩:=kz (ab.jP z _ O.o aL (lC SF));have ac:=(ap.T ab)
  go_wp21;refine(zk Ds S B b n (f+1) Z L J cb h.body (ay.wr ac ag) ag bb (aJ.jP (kp.ok .u8 _) (X.eq ab)) (λs hs=>⟨M.body s hs,aF.o s hs⟩) aG (K.to ac) (by show n+2*4<=90;omega) (by rw[Gz];omega)).M ?_;rintro bE w6 ⟨rfl,av,D⟩;have bd:=(ac.T D)
  rw[Gz]at av;clear bc;go_wp21;refine(lU B b n (f+1+519300) w6 [⟨#[125]⟩] av SE SE SG (by intro x hx;simp only[Pz,Ps,PU]at hx;rcases hx with rfl<;>first|omega|decide)).M ?_;rintro bF bG ⟨rfl,be,D⟩;have bf:=(bd.T D)
  go_wp21;go_roundw
  .exact⟨j+1,f+519302,SE,SC R.o,SJ,be,bf⟩
  simp[intOf];omega
 obtain rfl:m=j:=SE;go_wp21
 go_end0
 exact⟨rfl,E.up (SC R.o),F⟩
def CW(S)(B b n k:Nat)(w ag)(G c1:Nat)(ah)(K c2:Nat)(x)(hL:ln w)(bz:J4 B)(aU:nO B b (n:Int) k w)(aV:jT (nz .u8) S w (.slice ag G c1) x.vars)(Y:jT (mr .u8) S w (.slice ah K c2) x.kS)(hg:zY x)(bA:J5 x)(hF:Du S B b w)(hn:n<=70)(ap:k+3115830<=90000000):
  Calls prog 57 #[.pointer b,.agg (ka x.name ag G c1 ah K c2)] w (pn B b (n:Int) (k+3115830) w):=by
 have aq:=aU.lt;have bB:=hL;have al:=bz;have bC:=aU;have aE:=hF;have bD:=aV;have bE:=Y;have aW:=aV.len;have aX:=Y.len;have bF:=O0 aW.1;have bG:=O0 aX.1;have cD:G<=5:=SC hg.Ei
 have cE:K<=2:=SC hg.v2
 have bH:=hg.vars;have bI:=hg.kS;have aY:=bA;have bJ:(⟨x.name.toArray⟩:ByteArray).size<=12:=by rw[nK];exact mN hg.name
 obtain⟨nm,aZ⟩:=Xq x.name;rw[<-aZ]at bJ⊢;obtain⟨l,ba⟩:=Xq (n+1);obtain⟨ai,bb⟩:=Xq (l+1);obtain⟨cF,cG⟩:=GA n l ba SE;obtain⟨cH,cI⟩:=GA l ai bb SE;have cJ:l<=71:=SE
 have cK:ai<=72:=SE
 clear Y aW aX aZ ba bb
 go_enter func57,ntmps57
 have p:=Ba w (.cells (ka nm ag G c1 ah K c2) 112);have bK:=(bC.jP p)
 have am:=(kB.old (b:=b) (show B<=w from SE) p)
 have ar:=O0 (O2 w (.cells (ka nm ag G c1 ah K c2) 112));have f:(w.alloc (.cells (ka nm ag G c1 ah K c2) 112)).heap.size=w+1:=SG
 have bL:=O0 f;clear f;go_upto_region 1 with fail;have f:=bL.o;obtain⟨au,y⟩:=Xq w.heap.size;rw[<-y]at ar f⊢;generalize w.alloc (.cells (ka nm ag G c1 ah K c2) 112)=av at*;have cL:au<av:=SE
 have bc:au≠b:=SE
 clear y f;have bd:=(bB.wr am al)
 have bM:=(bD.jP (nz.ok .u8) (aE.eq am))
 have bN:=(bE.jP (mr.ok .u8) (aE.eq am))
 have aj:=(aE.to am)
 have Z:=jN ar.o 0;go_wp21;refine(lU B b n (k) av [⟨#[99,111,109,112,111,110,101,110,116,32]⟩,⟨nm.toArray⟩,⟨#[32,123]⟩] bK SE SE SG (by intro x hx;simp only[Pz,Ps,PU]at hx;rcases hx with rfl|rfl|rfl<;>first|omega|decide)).M ?_;rintro aw be ⟨rfl,bf,t⟩;have bO:=(t)
 clear Z;go_upto_region 2 with fail
 have W:=bf.ind (m:=(l:Int));have bg:=(bO.T (kB.set (b:=b) (i:=2) (w:=be) (u:=.int .i64 (l:Int)) aq.1))
 obtain⟨aa,ab⟩:=bf.cell;go_upto_region 3 with fail;generalize(be.setCell ⟨b,2,none⟩ (.int .i64 (l:Int)))=cM at*
 clear aa ab;obtain⟨⟨aF,aG,aw⟩,_⟩:=kz (bg.jP au _ ar.o bc (lC SF))
 go_wp21;clear aF aG aw;go_loopw [23] (λi wr=>∃d:Nat,d<=G/\i=d/\nO B b (l:Int) (k+1+d) wr/\kB B b av wr) (λi _=>G-(intOf i).toNat)
 .exact⟨0,Pb _,rfl,W,bg⟩
 obtain⟨d,bP,rfl,A,E⟩:=hrel;have bh:=A.lt;skip;by_cases bi:d<G
 .obtain⟨v,hv⟩:∃v,x.vars[d]?=some v:=Gx (SC bF.o);obtain⟨bQ,bR,r,rfl,bS,hr,ac⟩:=(bM.jP (nz.ok .u8) (aj.eq E)).kt (nz.ok .u8) d v hv;have bT:r=[tx v.name,.int .u8 v.ty,.int .i64 v.init]:=hr;subst bT;have L:=ac 0 _ rfl;have ax:=ac 1 _ rfl;have ay:=ac 2 _ rfl;rw[Pc]at L;have bj:=bH v (O5 hv);obtain⟨hz0,bk⟩:=aY.vars v (O5 hv);have aH:(⟨v.name.toArray⟩:ByteArray).size<=12:=(by rw[nK];exact mN bj.name);have bl:v.ty=1\/v.ty=2\/v.ty=3:=(by rcases bj.form with h|h|h;exact .inl h.1;exact .inr (.inl h.1);exact .inr (.inr h.1));obtain⟨I,bm⟩:=Xq v.name;obtain⟨cN,bn⟩:=Xq v.ty;obtain⟨z,bo⟩:=Xq v.init;rw[<-bm]at L aH;rw[<-bn]at ax bl;rw[<-bo]at ay hz0 bk;obtain⟨bU,bV⟩:=mG d G;have bW:k+1+d<=90000000:=SE;clear ac hv bm bn bo;rcases bl with rfl|rfl|rfl
  .have p:=Ba wr (.cells #[tx I,.int .u8 1,z] 115);have T:=(A.jP p)
   have M:=(E.T (kB.old (b:=b) (show B<=wr from SE) p))
   have D:=O0 (O2 wr (.cells #[tx I,.int .u8 1,z] 115));have ak:=(kB.old (b:=b) (show B<=wr from SE) p)
   have f:(wr.alloc (.cells #[tx I,.int .u8 1,z] 115)).heap.size=wr+1:=SG;have U:=O0 f;clear f;go_upto_region 8 with fail;have f:=U.o;obtain⟨j,y⟩:=Xq wr.heap.size;rw[<-y]at D f⊢;generalize wr.alloc (.cells #[tx I,.int .u8 1,z] 115)=c at*;have X:j<c:=SE;have an:j≠b:=SE;have az:b<c:=SE;clear y f;clear L ax ay;refine Dr 7 (λaI=>cond aI (λx=>nO B b ((l:Nat):Int) (k+1+d+1) x/\kB B b c x) (λx=>Below c c x)) (mi [(·=.pointer b),(·=.pointer j),Tr,(Pp j 2),(·=z),Tr,Tr,Tr]) [(2,λv w=>∃s:ByteArray,v=.string s/\s.size<=12),(5,λv w=>∃s:ByteArray,v=.string s/\s.size<=20),(6,λv w=>∃(C:Nat) (F:List ByteArray),v=.slice C 5 5/\Nw c w C/\F.length=5/\(∀s∈F,s.size<=20000)/\w.heap[C]?=some (.cells (F.map Value.string).toArray 9 (0,0)))] ((Below.refl _ _).drew) ⟨?_,?_,?_,?_,?_,?_,?_,?_,trivial⟩ ?_;exact .f 0;exact .f 5;intro N w a hf hv hd hw;replace a:(λx=>Below c c x) w:=a;exact .l 32 (hv 1 _ rfl rfl) (jU ((a.B j X).T D.o) 0 _ rfl) ⟨trivial,a,Qc ⟨_,rfl,aH⟩<|Qa⟩;exact .f 5;intro N w a hf hv hd hw;replace a:(λx=>Below c c x) w:=a;exact .l 34 (hv 3 _ rfl rfl) (jU ((a.B j X).T D.o) 2 _ rfl) ⟨rfl,a,Qa⟩;intro N w a hf hv hd hw;have cO:=Sv 35 hv 4;replace a:(λx=>Below c c x) w:=a;replace a:=Hq a;refine .c (Ja z hz0 bk w) ?_;rintro e w' ⟨s,rfl,hz,hb⟩;exact⟨_,rfl,⟨trivial,a.o.T (hb.M a.o.size),Qb<|Qc ⟨_,rfl,hz⟩<|Qb<|Qe⟩⟩;intro N w a hf hv hd hw;obtain⟨bX,bY,cP⟩:=kE hd 0;have cQ:=Sl 33 bY;obtain⟨bZ,ca,cR⟩:=kE hd 1;have cS:=Sl 36 ca;replace a:(λx=>Below c c x) w:=a;have ao:=a.size;replace a:=Hq a;exact .q (g:=⟨trivial,a.o.alloc a.o.size _,Q2<|Qc ⟨_,[⟨#[118,97,114,32]⟩,bX,⟨#[58,32,105,110,116,32,61,32]⟩,bZ,⟨#[59]⟩],rfl,⟨ao,SG⟩,rfl,by intro x hx;simp only[Pz,Ps,PU]at hx;rcases hx with rfl|rfl|rfl|rfl|rfl<;>first|omega|decide,O2 _ _⟩<|Qe⟩);intro N w a hf hv hd hw;have cT:=Sv 31 hv 0;obtain⟨C,F,cb,aJ,aK,aA,aL⟩:=kE hd 2;have cU:=Sl 37 cb;replace a:(λx=>Below c c x) w:=a;have ao:=a.size;replace a:=Hq a;refine .c (po B b l (k+1+d) 5 w C F aK (T.jP a.o) aL (SC aJ.1) SE SE SE aA) ?_;rintro e w' ⟨he,W,t⟩;subst he;exact⟨_,rfl,⟨trivial,⟨W,(kB.old SE a.o).T t⟩,Q2<|Qd (λu ⟨C,F,e,ad,A,Y,ap⟩=>⟨C,F,e,⟨ad.1,O1 ad.2 t.size⟩,A,Y,t.jP C _ ap (SC ad.1) (lC SF)⟩)<|Qe⟩⟩;intro cc O aM aN aO;have ae:nO B b ((l:Nat):Int) (k+1+d+1) O/\kB B b c O:=aM;have V:=ae.1;have af:=(M.T ae.2)
   clear aN aO ae;simp only[mP];go_wp21;go_roundw
   .exact⟨d+1,SE,SJ,V,af⟩
   simp[intOf];omega
  .have p:=Ba wr (.cells #[tx I,.int .u8 2,z] 115);have T:=(A.jP p)
   have M:=(E.T (kB.old (b:=b) (show B<=wr from SE) p))
   have D:=O0 (O2 wr (.cells #[tx I,.int .u8 2,z] 115));have ak:=(kB.old (b:=b) (show B<=wr from SE) p)
   have f:(wr.alloc (.cells #[tx I,.int .u8 2,z] 115)).heap.size=wr+1:=SG;have U:=O0 f;clear f;go_upto_region 10 with fail;have f:=U.o;obtain⟨j,y⟩:=Xq wr.heap.size;rw[<-y]at D f⊢;generalize wr.alloc (.cells #[tx I,.int .u8 2,z] 115)=c at*;have X:j<c:=SE;have an:j≠b:=SE;have az:b<c:=SE;clear y f;clear L ax ay;refine Dr 8 (λaI=>cond aI (λx=>nO B b ((l:Nat):Int) (k+1+d+1) x/\kB B b c x) (λx=>Below c c x)) (mi [(·=.pointer b),(·=.pointer j),Tr,(Pp j 2),(·=z),Tr,Tr,Tr,Tr]) [(2,λv w=>∃s:ByteArray,v=.string s/\s.size<=12),(5,λv w=>∃q:Bool,v=.bool q),(6,λv w=>∃s:ByteArray,v=.string s/\s.size<=5),(7,λv w=>∃(C:Nat) (F:List ByteArray),v=.slice C 5 5/\Nw c w C/\F.length=5/\(∀s∈F,s.size<=20000)/\w.heap[C]?=some (.cells (F.map Value.string).toArray 9 (0,0)))] ((Below.refl _ _).drew) ⟨?_,?_,?_,?_,?_,?_,?_,?_,?_,trivial⟩ ?_;exact .f 0;exact .f 5;intro N w a hf hv hd hw;replace a:(λx=>Below c c x) w:=a;exact .l 42 (hv 1 _ rfl rfl) (jU ((a.B j X).T D.o) 0 _ rfl) ⟨trivial,a,Qc ⟨_,rfl,aH⟩<|Qa⟩;exact .f 5;intro N w a hf hv hd hw;replace a:(λx=>Below c c x) w:=a;exact .l 44 (hv 3 _ rfl rfl) (jU ((a.B j X).T D.o) 2 _ rfl) ⟨rfl,a,Qa⟩;intro N w a hf hv hd hw;have cV:=Sv 45 hv 4;replace a:(λx=>Below c c x) w:=a;exact .q (g:=⟨trivial,a,Qb<|Qc ⟨_,rfl⟩<|Qa⟩);intro N w a hf hv hd hw;obtain⟨cd,ce⟩:=kE hd 1;have cW:=Sl 46 ce;replace a:(λx=>Below c c x) w:=a;replace a:=Hq a;refine .c (AH cd w) ?_;rintro e w' ⟨s,rfl,hz,hb⟩;exact⟨_,rfl,⟨trivial,a.o.T (hb.M a.o.size),Q2<|Qc ⟨_,rfl,hz⟩<|Qb<|Qe⟩⟩;intro N w a hf hv hd hw;obtain⟨cf,cg,cX⟩:=kE hd 0;have cY:=Sl 43 cg;obtain⟨ch,ci,cZ⟩:=kE hd 2;have da:=Sl 47 ci;replace a:(λx=>Below c c x) w:=a;have ao:=a.size;replace a:=Hq a;exact .q (g:=⟨trivial,a.o.alloc a.o.size _,Q2<|Qb<|Qc ⟨_,[⟨#[118,97,114,32]⟩,cf,⟨#[58,32,98,111,111,108,32,61,32]⟩,ch,⟨#[59]⟩],rfl,⟨ao,SG⟩,rfl,by intro x hx;simp only[Pz,Ps,PU]at hx;rcases hx with rfl|rfl|rfl|rfl|rfl<;>first|omega|decide,O2 _ _⟩<|Qe⟩);intro N w a hf hv hd hw;have db:=Sv 41 hv 0;obtain⟨C,F,cj,aJ,aK,aA,aL⟩:=kE hd 3;have dc:=Sl 48 cj;replace a:(λx=>Below c c x) w:=a;have ao:=a.size;replace a:=Hq a;refine .c (po B b l (k+1+d) 5 w C F aK (T.jP a.o) aL (SC aJ.1) SE SE SE aA) ?_;rintro e w' ⟨he,W,t⟩;subst he;exact⟨_,rfl,⟨trivial,⟨W,(kB.old SE a.o).T t⟩,Q2<|Qb<|Qd (λu ⟨C,F,e,ad,A,Y,ap⟩=>⟨C,F,e,⟨ad.1,O1 ad.2 t.size⟩,A,Y,t.jP C _ ap (SC ad.1) (lC SF)⟩)<|Qe⟩⟩;intro cc O aM aN aO;have ae:nO B b ((l:Nat):Int) (k+1+d+1) O/\kB B b c O:=aM;have V:=ae.1;have af:=(M.T ae.2)
   clear aN aO ae;simp only[mP];go_wp21;go_roundw
   .exact⟨d+1,SE,SJ,V,af⟩
   simp[intOf];omega
  have p:=Ba wr (.cells #[tx I,.int .u8 3,z] 115);have T:=(A.jP p)
  have M:=(E.T (kB.old (b:=b) (show B<=wr from SE) p))
  have D:=O0 (O2 wr (.cells #[tx I,.int .u8 3,z] 115));have ak:=(kB.old (b:=b) (show B<=wr from SE) p)
  have f:(wr.alloc (.cells #[tx I,.int .u8 3,z] 115)).heap.size=wr+1:=SG;have U:=O0 f;clear f;go_upto_region 12 with fail;have f:=U.o;obtain⟨j,y⟩:=Xq wr.heap.size;rw[<-y]at D f⊢;generalize wr.alloc (.cells #[tx I,.int .u8 3,z] 115)=c at*;have X:j<c:=SE;have an:j≠b:=SE;have az:b<c:=SE;clear y f;clear L ax ay;have Z:=jN D.o 0;go_wp21;refine(lU B b l (k+1+d) c [⟨#[118,97,114,32]⟩,⟨I.toArray⟩,⟨#[58,32,116,97,98,108,101,59]⟩] T SE SE SG (by intro x hx;simp only[Pz,Ps,PU]at hx;rcases hx with rfl|rfl|rfl<;>first|omega|decide)).M ?_;rintro e5 O ⟨rfl,V,t⟩;have af:=(M.T t)
  clear Z;go_wp21;go_roundw
  .exact⟨d+1,SE,SJ,V,af⟩
  simp[intOf];omega
 obtain rfl:G=d:=SE;obtain⟨dd,rfl⟩:=Xq wr;obtain⟨⟨aF,aG,aw⟩,_⟩:=kz (E.jP au _ ar.o bc (lC SF));go_wp21;clear aF aG aw;go_loopw [61] (λi wr=>∃d J:Nat,d<=K/\J=k+1+G+d*1557908/\i=d/\nO B b (l:Int) J wr/\kB B b av wr) (λi _=>K-(intOf i).toNat)
 .exact⟨0,k+1+G,Pb _,SG,rfl,A,E⟩
 clear bh bi;obtain⟨d,J,bP,bp,rfl,A,E⟩:=hrel;have A:=A;have E:=E;have bh:=A.lt;have aB:=O0 bp;have bW:J+1<=90000000:=SE;clear bp;by_cases bi:d<K
 .obtain⟨hs,aC⟩:∃h,x.kS[d]?=some h:=Gx (SC bG.o);obtain⟨bQ,bR,r,rfl,bS,hr,ac⟩:=(bN.jP (mr.ok .u8) (aj.eq E)).kt (mr.ok .u8) d hs aC;obtain⟨v1,rfl,aD⟩:=hr;obtain⟨P,Q,rfl,_⟩:=aD.form;have L:=ac 0 _ rfl;rw[Pc,PG]at L;obtain⟨aP,bq⟩:=bI hs (O5 aC);have br:∀h∈hs,uH h/\∀s∈h.body,Ed Ds s:=λh W=>⟨bq h W,aY.kS hs (O5 aC) h W⟩
  obtain⟨R,bs⟩:=Xq hs.length;rw[<-bs]at aD L aP;obtain⟨bU,bV⟩:=mG d K;have de:J+1557908<=90000000:=SC aB.o;clear ac aC bq bs;by_cases ck:d=0
  .have aQ:(d:Int)=0:=SE;rw[ck,Pc]at L;have aR:=(aj.to E)
   have p:=Ba wr (mc P R Q);have T:=(A.jP p)
   have M:=(E.T (kB.old (b:=b) (show B<=wr from SE) p))
   have D:=O0 (O2 wr (mc P R Q));have ak:=(kB.old (b:=b) (show B<=wr from SE) p)
   have f:(wr.alloc (mc P R Q)).heap.size=wr+1:=SG;have U:=O0 f;clear f;go_upto_region 18 with fail;have f:=U.o;obtain⟨j,y⟩:=Xq wr.heap.size;rw[<-y]at D f⊢;generalize wr.alloc (mc P R Q)=c at*;have X:j<c:=SE;have an:j≠b:=SE;have az:b<c:=SE;clear y f;clear L;have Z:=jN D.o 0;go_wp21;apply(sL S B b l J c P R Q hs (bd.wr M al) al T (aD.jP (lF.ok .u8) (aR.eq ak)) br aP (aj.to M) SE SE).M;rintro e5 O ⟨rfl,V,t⟩;have af:=(M.T t)
   clear Z aQ;go_wp21;go_roundw
   .exact⟨d+1,J+1557908,SE,SC aB.o,SJ,V.up SE,af⟩
   simp[intOf];omega
  have aQ:((d:Int)==0)=false:=(by rw[O8];omega);have cl:IntKind.i64.wrap ((d:Int)+1)=((d+1:Nat):Int):=SI;have aR:=(aj.to E)
  have p:=Ba wr (mc P R Q);have T:=(A.jP p)
  have M:=(E.T (kB.old (b:=b) (show B<=wr from SE) p))
  have D:=O0 (O2 wr (mc P R Q));have ak:=(kB.old (b:=b) (show B<=wr from SE) p)
  have f:(wr.alloc (mc P R Q)).heap.size=wr+1:=SG;have U:=O0 f;clear f;go_upto_region 19 with fail;have f:=U.o;obtain⟨j,y⟩:=Xq wr.heap.size;rw[<-y]at D f⊢;generalize wr.alloc (mc P R Q)=c at*;have X:j<c:=SE;have an:j≠b:=SE;have az:b<c:=SE;clear y f;clear L aQ;go_wp21;apply(AJ (d+1) SE c).M;rintro e O ⟨cm,rfl,df,bt⟩;have V:=(T.jP bt)
  have cn:kB B b c O:=kB.old (b:=b) SE bt;go_wp21;refine(lU B b l (J) O [⟨#[118,101,114,115,105,111,110,32]⟩,cm,⟨#[32,123]⟩] V SE SE SG (by intro x hx;simp only[Pz,Ps,PU]at hx;rcases hx with rfl|rfl|rfl<;>first|omega|decide)).M ?_;rintro dg w6 ⟨rfl,bu,t⟩;have co:=(cn.T t)
  clear cl;go_upto_region 20 with fail;have cp:=bu.ind (m:=(ai:Int));have aS:=(co.T (kB.set (b:=b) (i:=2) (w:=w6) (u:=.int .i64 (ai:Int)) aq.1))
  obtain⟨aa,ab⟩:=bu.cell;go_upto_region 21 with fail;generalize(w6.setCell ⟨b,2,none⟩ (.int .i64 (ai:Int)))=cq at*;clear aa ab;have Z:=jU (aS.jP j _ D.o an (lC SF)) 0 _ rfl;have aT:=(M.T aS)
  have cr:=(ak.T aS)
  go_wp21;apply(sL S B b ai (J+1) cq P R Q hs (bd.wr aT al) al cp (aD.jP (lF.ok .u8) (aR.eq cr)) br aP (aj.to aT) SE SE).M;rintro dh bv ⟨rfl,bw,t⟩;have bx:=(aT.T t)
  have aA:=bx.size;clear Z;go_upto_region 22 with fail;have cs:=bw.ind (m:=(l:Int));have ct:=(bx.T (kB.set (b:=b) (i:=2) (w:=bv) (u:=.int .i64 (l:Int)) aq.1))
  obtain⟨aa,ab⟩:=bw.cell;go_upto_region 23 with fail;generalize(bv.setCell ⟨b,2,none⟩ (.int .i64 (l:Int)))=cu at*;clear aa ab;go_wp21;refine(lU B b l (J+1+1557906) cu [⟨#[125]⟩] cs SE SE SG (by intro x hx;simp only[Pz,Ps,PU]at hx;rcases hx with rfl<;>first|omega|decide)).M ?_;rintro di dj ⟨rfl,cv,t⟩;have cw:=(ct.T t)
  go_wp21;go_roundw
  .exact⟨d+1,J+1557908,SE,SC aB.o,SJ,cv,cw⟩
  simp[intOf];omega
 obtain rfl:K=d:=SE;have cx:J+1<=k+3115830:=SC aB.o;go_upto_region 25 with fail;have cy:=A.ind (m:=(n:Int));have cz:=(E.T (kB.set (b:=b) (i:=2) (w:=wr) (u:=.int .i64 (n:Int)) aq.1))
 obtain⟨aa,ab⟩:=A.cell;go_upto_region 26 with fail;generalize(wr.setCell ⟨b,2,none⟩ (.int .i64 (n:Int)))=cA at*;clear aa ab;go_wp21;refine(lU B b n (J) cA [⟨#[125]⟩] cy SE SE SG (by intro x hx;simp only[Pz,Ps,PU]at hx;rcases hx with rfl<;>first|omega|decide)).M ?_;rintro dk dl ⟨rfl,cB,t⟩;have cC:=(cz.T t)
 go_wp21
 go_end0
 exact⟨rfl,cB.up cx,am.T cC⟩
def BF(B b k:Nat)(n:Int)(w)(h:nO B b n k w):Calls prog 58 #[.pointer b] w λe w'=>(∃s:ByteArray,e=.returned (.string s)/\s.size<=k*200000)/\Below B w w':=by obtain⟨l,hw,c⟩:=h;by_cases a:l=[];subst a;apply(BD B b n w hw).M;rintro e w' ⟨rfl,hb⟩;exact⟨⟨_,rfl,Pb _⟩,hb⟩;apply(CT B b n l w hw a).M;rintro e w' ⟨rfl,hb⟩;exact⟨⟨_,rfl,by rw[nK];exact c⟩,hb⟩
def E6(S w U)(j c1:Nat)(V)(y c2:Nat)(W)(B c3:Nat)(x)(hL:ln w)(hf:oY S w U j c1 V y c2 W B c3 x)(hg:mh x)(bb:∀bH∈x.jZ,J5 bH):
  Calls prog 31 #[.agg (kb x.name U j c1 V y c2 W B c3)] w (pk 1900000000000 w):=by
 have aF:=hL.low;have aG:=O0 hg;have bI:=O0 bb;have bJ:=O0 hf.km.len.1;have bK:=O0 hf.lB.len.1;have bL:=O0 hf.jZ.len.1;have cy:j<=2:=SD hg.FY hf.km.len.1
 have cz:y<=9:=SD hg.FZ hf.lB.len.1
 have cA:B<=3:=SD hg.c3 hf.jZ.len.1
 have bM:(⟨x.name.toArray⟩:ByteArray).size<=12:=by rw[nK];exact mN hg.name
 have ad:=Ba w (.cells (kb x.name U j c1 V y c2 W B c3) 60);have au:=O0 (O2 w (.cells (kb x.name U j c1 V y c2 W B c3) 60));have bc:=(rV S _ U j c1 V y c2 W B c3 x (hL.jQ ad aF) (hf.jQ ad) hg)
 have bd:=(hf.jQ ad)
 have aH:=(hL.jQ ad aF)
 have av:=O0 (show(w.alloc (.cells (kb x.name U j c1 V y c2 W B c3) 60)).heap.size=w+1 from SG);obtain⟨nm,be⟩:=Xq x.name;rw[<-be]at bM ad au bc bd aH av⊢;clear bb be aF
 go_enter func31,ntmps31
 go_upto_region 1 with fail;generalize w.alloc (.cells (kb nm U j c1 V y c2 W B c3) 60)=bN at*;obtain⟨P,aI⟩:=Xq w.heap.size;rw[<-aI]at au av⊢;have bO:=O0 aI;have bP:P<bN:=SC av.o
 clear aI;obtain⟨⟨J,K,L,M⟩,_⟩:=mK au.o;go_wp21;apply bc.M;rintro e ae ⟨rfl,ah⟩;have cB:=ah.size;have bQ:=O0 ((ah.B P bP).T au.o);have bf:=(bd.jQ ah)
 have aJ:=(aH.jQ ah aH.low)
 have bR:P<ae:=SE
 clear J K L M;obtain⟨b,hb⟩:=Xq ae.heap.size;have aw:=Ba ae tn;have ax:=O0 ((aw.B P bR).T bQ.o);have aK:=(bf.jQ aw)
 have bS:=(aJ.jQ aw aJ.low)
 have bg:J4 b:=by rw[hb];exact aJ.low
 have ai:Du S b b (ae.alloc tn):=λq bT=>by have h:=bf.kX q bT;exact⟨SK,SE,.inl SE⟩
 have bU:nO b b ((0:Nat):Int) 0 (ae.alloc tn):=⟨[],.inl ⟨O9 _,_,by rw[hb];exact O2 _ _,by simpa[Lib.byteCells]using QX _ _ _ _⟩,SG⟩
 go_upto_region 4 with fail;rw[<-hb];generalize ae.alloc tn=ay at*;have aL:P<b:=SE
 have bV:=O0 hb;clear hb;obtain⟨C,aM⟩:∃q:Nat,q=1:=⟨_,rfl⟩
 have cC:IntKind.i64.wrap ((C:Int)-1)=0:=by rw[aM];decide
 have cD:C<=1:=SE
 have bW:=O0 aM;clear aM;have bh:b<=b:=O9 b;obtain⟨⟨J,K,L,M⟩,_⟩:=mK ax.o;go_wp21;refine(lU b b 0 0 ay [⟨#[102,108,101,101,116,32]⟩,⟨nm.toArray⟩,⟨#[32,123]⟩] bU SE SE SG (by intro x hx;simp only[Pz,Ps,PU]at hx;rcases hx with rfl|rfl|rfl<;>first|omega|decide)).M ?_;rintro e4 aN ⟨rfl,bi,D⟩;have bX:=(D)
 clear J K L M;go_upto_region 5 with fail
 have aj:=bi.ind (m:=(1:Int));have X:nO b b (C:Int) (0+1) (aN.setCell ⟨b,2,none⟩ (.int .i64 (1:Int))):=by rw[bW.o];exact aj
 have Q:=(bX.T (kB.set (b:=b) (i:=2) (w:=aN) (u:=.int .i64 (1:Int)) bh))
 obtain⟨aO,aP⟩:=bi.cell;go_upto_region 6 with fail;generalize(aN.setCell ⟨b,2,none⟩ (.int .i64 (1:Int)))=Y at*
 clear aO aP;obtain⟨⟨J,K,L,M⟩,_⟩:=mK ((Q.jQ.B P aL).T ax.o)
 go_wp21;clear J K L M;go_loopw [30] (λi wr=>∃d:Nat,d<=j/\i=d/\nO b b (C:Int) (0+1+d) wr/\kB b b ay wr) (λi _=>j-(intOf i).toNat)
 .exact⟨0,Pb _,rfl,X,Q⟩
 obtain⟨d,bj,rfl,f,k⟩:=hrel;have az:=f.lt;skip;by_cases aA:d<j
 .obtain⟨v,hv⟩:∃v,x.km[d]?=some v:=Gx (SC bJ.o);obtain⟨bk,bl,r,rfl,bm,hr,E⟩:=(aK.km.jP lM.ok (ai.eq k)).kt lM.ok d v hv;have aQ:r=[tx v.name,.bool v.init]:=hr;subst aQ;have F:=E 0 _ rfl;have Z:=E 1 _ rfl;rw[Pc]at F;have bn:(⟨v.name.toArray⟩:ByteArray).size<=12:=(by rw[nK];exact mN (aG.o.km v (O5 hv)));obtain⟨N,af⟩:=Xq v.name;obtain⟨ag,bo⟩:=Xq v.init;rw[<-af]at F bn;rw[<-bo]at Z;obtain⟨bp,bq⟩:=mG d j;clear E hv af bo;have A:=Ba wr (rl N ag);have ak:=(f.jP A)
  have aa:=(k.T (kB.old (b:=b) (show b<=wr from SE) A))
  have G:=O0 (O2 wr (rl N ag));have aB:=(kB.old (b:=b) (show b<=wr from SE) A)
  have l:(wr.alloc (rl N ag)).heap.size=wr+1:=SG;have al:=O0 l;clear l;go_upto_region 9 with fail;have l:=al.o;obtain⟨p,R⟩:=Xq wr.heap.size;rw[<-R]at G l⊢;generalize wr.alloc (rl N ag)=c at*;have ab:p<c:=SE;have br:b<c:=SE;clear R l;clear F Z;refine Dr 7 (λaR=>cond aR (λx=>nO b b ((C:Nat):Int) (0+1+d+1) x/\kB b b c x) (λx=>Below c c x)) (mi [(·=.pointer b),(·=.pointer p),Tr,(Pp p 1),(·=.bool ag),Tr,Tr,Tr]) [(2,λv w=>∃s:ByteArray,v=.string s/\s.size<=12),(5,λv w=>∃s:ByteArray,v=.string s/\s.size<=5),(6,λv w=>∃(n:Nat) (t:List ByteArray),v=.slice n 5 5/\Nw c w n/\t.length=5/\(∀s∈t,s.size<=20000)/\w.heap[n]?=some (.cells (t.map Value.string).toArray 9 (0,0)))] ((Below.refl _ _).drew) ⟨?_,?_,?_,?_,?_,?_,?_,?_,trivial⟩ ?_;exact .f 3;exact .f 5;intro I w a hf hv hd hw;replace a:(λx=>Below c c x) w:=a;exact .l 35 (hv 1 _ rfl rfl) (jU ((a.B p ab).T G.o) 0 _ rfl) ⟨trivial,a,Qc ⟨_,rfl,bn⟩<|Qa⟩;exact .f 5;intro I w a hf hv hd hw;replace a:(λx=>Below c c x) w:=a;exact .l 37 (hv 3 _ rfl rfl) (jU ((a.B p ab).T G.o) 1 _ rfl) ⟨rfl,a,Qa⟩;intro I w a hf hv hd hw;have cE:=Sv 38 hv 4;replace a:(λx=>Below c c x) w:=a;replace a:=Hq a;refine .c (AH ag w) ?_;rintro e w' ⟨s,rfl,hz,hb⟩;exact⟨_,rfl,⟨trivial,a.o.T (hb.M a.o.size),Qb<|Qc ⟨_,rfl,hz⟩<|Qb<|Qe⟩⟩;intro I w a hf hv hd hw;obtain⟨bY,bZ,cF⟩:=kE hd 0;have cG:=Sl 36 bZ;obtain⟨ca,cb,cH⟩:=kE hd 1;have cI:=Sl 39 cb;replace a:(λx=>Below c c x) w:=a;have am:=a.size;replace a:=Hq a;exact .q (g:=⟨trivial,a.o.alloc a.o.size _,Q2<|Qc ⟨_,[⟨#[102,108,97,103,32]⟩,bY,⟨#[32,61,32]⟩,ca,⟨#[59]⟩],rfl,⟨am,SG⟩,rfl,by intro x hx;simp only[Pz,Ps,PU]at hx;rcases hx with rfl|rfl|rfl|rfl|rfl<;>first|omega|decide,O2 _ _⟩<|Qe⟩);intro I w a hf hv hd hw;have cJ:=Sv 34 hv 0;obtain⟨n,t,cc,aS,aT,aC,aU⟩:=kE hd 2;have cK:=Sl 40 cc;replace a:(λx=>Below c c x) w:=a;have am:=a.size;replace a:=Hq a;refine .c (po b b C (0+1+d) 5 w n t aT (ak.jP a.o) aU (SC aS.1) SE SE SE aC) ?_;rintro e w' ⟨he,aj,D⟩;subst he;exact⟨_,rfl,⟨trivial,⟨aj,(kB.old SE a.o).T D⟩,Q2<|Qd (λu ⟨n,t,e,T,f,aV,aW⟩=>⟨n,t,e,⟨T.1,O1 T.2 D.size⟩,f,aV,D.jP n _ aW (SC T.1) (lC SF)⟩)<|Qe⟩⟩;intro cd Y aX aY aZ;have ac:nO b b ((C:Nat):Int) (0+1+d+1) Y/\kB b b c Y:=aX;have X:=ac.1;have Q:=(aa.T ac.2)
  clear aY aZ ac;simp only[mP];go_wp21;go_roundw
  .exact⟨d+1,SE,SJ,X,Q⟩
  simp[intOf];omega
 obtain rfl:j=d:=SE;obtain⟨w6,rfl⟩:=Xq wr;obtain⟨⟨J,K,L,M⟩,_⟩:=mK ((k.jQ.B P aL).T ax.o);go_wp21;clear J K L M;go_loopw [46] (λi wr=>∃d:Nat,d<=y/\i=d/\nO b b (C:Int) (0+1+j+d) wr/\kB b b ay wr) (λi _=>y-(intOf i).toNat)
 .exact⟨0,Pb _,rfl,f,k⟩
 clear az aA;obtain⟨d,bj,rfl,f,k⟩:=hrel;have f:=f;have k:=k;have az:=f.lt;clear f;by_cases aA:d<y
 .obtain⟨v,hv⟩:∃v,x.lB[d]?=some v:=Gx (SC bK.o);obtain⟨bk,bl,r,rfl,bm,hr,E⟩:=(aK.lB.jP mY.ok (ai.eq k)).kt mY.ok d v hv;have aQ:r=[tx v.a,tx v.b,.int .i64 v.sD]:=hr;subst aQ;have F:=E 0 _ rfl;have Z:=E 1 _ rfl;have aD:=E 2 _ rfl;rw[Pc]at F;obtain⟨A,bs,ce,cf⟩:=aG.o.lB v (O5 hv);have bt:(⟨v.a.toArray⟩:ByteArray).size<=12:=(by rw[nK];exact mN A);have bu:(⟨v.b.toArray⟩:ByteArray).size<=12:=(by rw[nK];exact mN bs);obtain⟨aE,bv⟩:=Xq v.a;obtain⟨vb,bw⟩:=Xq v.b;obtain⟨z,bx⟩:∃z:Nat,v.sD=(z:Int):=⟨v.sD.toNat,SE⟩
  rw[<-bv]at F bt;rw[<-bw]at Z bu;rw[bx]at aD ce cf;have cg:z<100:=SE;obtain⟨bp,bq⟩:=mG d y;clear E hv bv bw bx A bs;have A:=Ba wr (tp aE vb z);have ak:=(f.jP A)
  have aa:=(k.T (kB.old (b:=b) (show b<=wr from SE) A))
  have G:=O0 (O2 wr (tp aE vb z));have aB:=(kB.old (b:=b) (show b<=wr from SE) A)
  have l:(wr.alloc (tp aE vb z)).heap.size=wr+1:=SG;have al:=O0 l;clear l;go_upto_region 14 with fail;have l:=al.o;obtain⟨p,R⟩:=Xq wr.heap.size;rw[<-R]at G l⊢;generalize wr.alloc (tp aE vb z)=c at*;have ab:p<c:=SE;have br:b<c:=SE;clear R l;clear F Z aD;refine Dr 9 (λaR=>cond aR (λx=>nO b b ((C:Nat):Int) (0+1+j+d+1) x/\kB b b c x) (λx=>Below c c x)) (mi [(·=.pointer b),(·=.pointer p),Tr,(Pp p 1),Tr,(Pp p 2),(·=z),Tr,Tr,Tr]) [(2,λv w=>∃s:ByteArray,v=.string s/\s.size<=12),(4,λv w=>∃s:ByteArray,v=.string s/\s.size<=12),(7,λv w=>∃s:ByteArray,v=.string s/\s.size<=20),(8,λv w=>∃(n:Nat) (t:List ByteArray),v=.slice n 7 7/\Nw c w n/\t.length=7/\(∀s∈t,s.size<=20000)/\w.heap[n]?=some (.cells (t.map Value.string).toArray 9 (0,0)))] ((Below.refl _ _).drew) ⟨?_,?_,?_,?_,?_,?_,?_,?_,?_,?_,trivial⟩ ?_;exact .f 3;exact .f 7;intro I w a hf hv hd hw;replace a:(λx=>Below c c x) w:=a;exact .l 51 (hv 1 _ rfl rfl) (jU ((a.B p ab).T G.o) 0 _ rfl) ⟨trivial,a,Qc ⟨_,rfl,bt⟩<|Qa⟩;exact .f 7;intro I w a hf hv hd hw;replace a:(λx=>Below c c x) w:=a;exact .l 53 (hv 3 _ rfl rfl) (jU ((a.B p ab).T G.o) 1 _ rfl) ⟨trivial,a,Qb<|Qc ⟨_,rfl,bu⟩<|Qa⟩;exact .f 7;intro I w a hf hv hd hw;replace a:(λx=>Below c c x) w:=a;exact .l 55 (hv 5 _ rfl rfl) (jU ((a.B p ab).T G.o) 2 _ rfl) ⟨rfl,a,Qa⟩;intro I w a hf hv hd hw;have cL:=Sv 56 hv 6;replace a:(λx=>Below c c x) w:=a;replace a:=Hq a;refine .c (AJ z cg w) ?_;rintro e w' ⟨s,rfl,hz,hb⟩;exact⟨_,rfl,⟨trivial,a.o.T (hb.M a.o.size),Q2<|Qc ⟨_,rfl,hz⟩<|Qb<|Qe⟩⟩;intro I w a hf hv hd hw;obtain⟨ch,ci,cM⟩:=kE hd 0;have cN:=Sl 52 ci;obtain⟨cj,ck,cO⟩:=kE hd 1;have cP:=Sl 54 ck;obtain⟨cl,cm,cQ⟩:=kE hd 2;have cR:=Sl 57 cm;replace a:(λx=>Below c c x) w:=a;have am:=a.size;replace a:=Hq a;exact .q (g:=⟨trivial,a.o.alloc a.o.size _,Q2<|Qb<|Qc ⟨_,[⟨#[108,105,110,107,32]⟩,ch,⟨#[32,45,62,32]⟩,cj,⟨#[32,108,97,116,101,110,99,121,32]⟩,cl,⟨#[59]⟩],rfl,⟨am,SG⟩,rfl,by intro x hx;simp only[Pz,Ps,PU]at hx;rcases hx with rfl|rfl|rfl|rfl|rfl|rfl|rfl<;>first|omega|decide,O2 _ _⟩<|Qe⟩);intro I w a hf hv hd hw;have cS:=Sv 50 hv 0;obtain⟨n,t,cn,aS,aT,aC,aU⟩:=kE hd 3;have cT:=Sl 58 cn;replace a:(λx=>Below c c x) w:=a;have am:=a.size;replace a:=Hq a;refine .c (po b b C (0+1+j+d) 7 w n t aT (ak.jP a.o) aU (SC aS.1) SE SE SE aC) ?_;rintro e w' ⟨he,aj,D⟩;subst he;exact⟨_,rfl,⟨trivial,⟨aj,(kB.old SE a.o).T D⟩,Q2<|Qb<|Qd (λu ⟨n,t,e,T,f,aV,aW⟩=>⟨n,t,e,⟨T.1,O1 T.2 D.size⟩,f,aV,D.jP n _ aW (SC T.1) (lC SF)⟩)<|Qe⟩⟩;intro cd Y aX aY aZ;have ac:nO b b ((C:Nat):Int) (0+1+j+d+1) Y/\kB b b c Y:=aX;have X:=ac.1;have Q:=(aa.T ac.2)
  clear aY aZ ac;simp only[mP];go_wp21;go_roundw
  .exact⟨d+1,SE,SJ,X,Q⟩
  simp[intOf];omega
 obtain rfl:y=d:=SE;obtain⟨cU,rfl⟩:=Xq wr;obtain⟨⟨J,K,L,M⟩,_⟩:=mK ((k.jQ.B P aL).T ax.o);go_wp21;clear J K L M;go_loopw [64] (λi wr=>∃d O:Nat,d<=B/\O=0+1+j+y+d*3115830/\i=d/\nO b b (C:Int) O wr/\kB b b ay wr) (λi _=>B-(intOf i).toNat)
 .exact⟨0,_,Pb _,SG,rfl,f,k⟩
 clear az aA;obtain⟨d,O,bj,bz,rfl,f,k⟩:=hrel;have f:=f;have k:=k;have az:=f.lt;have co:=O0 bz;have cV:O<=9400000:=SE;clear bz;by_cases aA:d<B
 .obtain⟨v,hv⟩:∃v,x.jZ[d]?=some v:=Gx (SC bL.o);obtain⟨bk,bl,r,rfl,bm,hr,E⟩:=(aK.jZ.jP (lv.ok .u8) (ai.eq k)).kt (lv.ok .u8) d v hv;obtain⟨an,ao,ap,aq,ar,d3,rfl,cp,cq⟩:=hr.qo;have F:=E 0 _ rfl;have Z:=E 1 _ rfl;have aD:=E 2 _ rfl;rw[Pc]at F;have cr:=(aG.o.jZ v (O5 hv))
  have cs:=(bI.o v (O5 hv))
  obtain⟨N,af⟩:=Xq v.name;rw[<-af]at F;have ct:=O0 af;obtain⟨bp,bq⟩:=mG d B;have bA:=(ai.to k)
  clear E hv af;have A:=Ba wr (.cells (ka N an ao ap aq ar d3) 112);have ak:=(f.jP A)
  have aa:=(k.T (kB.old (b:=b) (show b<=wr from SE) A))
  have G:=O0 (O2 wr (.cells (ka N an ao ap aq ar d3) 112));have aB:=(kB.old (b:=b) (show b<=wr from SE) A)
  have l:(wr.alloc (.cells (ka N an ao ap aq ar d3) 112)).heap.size=wr+1:=SG;have al:=O0 l;clear l;go_upto_region 19 with fail;have l:=al.o;obtain⟨p,R⟩:=Xq wr.heap.size;rw[<-R]at G l⊢;generalize wr.alloc (.cells (ka N an ao ap aq ar d3) 112)=c at*;have ab:p<c:=SE;have br:b<c:=SE;clear R l;clear F Z aD;obtain⟨⟨cu,bB,bC⟩,_⟩:=kz G.o;go_wp21;rw[ct.o];apply(CW S b b C O c an ao ap aq ar d3 v (bS.wr aa bg) bg ak (cp.jP (nz.ok .u8) (bA.eq aB)) (cq.jP (mr.ok .u8) (bA.eq aB)) cr cs (ai.to aa) SE SE).M;rintro e5 Y ⟨rfl,X,D⟩;have Q:=(aa.T D)
  clear cu bB bC;go_wp21;go_roundw
  .exact⟨d+1,O+3115830,SE,SC co.o,SJ,X,Q⟩
  simp[intOf];omega
 obtain rfl:B=d:=SE;go_upto_region 21 with fail;have ba:=f.ind (m:=(0:Int));have cv:=(k.T (kB.set (b:=b) (i:=2) (w:=wr) (u:=.int .i64 (0:Int)) bh))
 obtain⟨aO,aP⟩:=f.cell;go_upto_region 22 with fail;generalize(wr.setCell ⟨b,2,none⟩ (.int .i64 (0:Int)))=bD at*;clear aO aP;have ba:nO b b ((0:Nat):Int) O bD:=ba;go_wp21;refine(lU b b 0 (O) bD [⟨#[125]⟩] ba SE SE SG (by intro x hx;simp only[Pz,Ps,PU]at hx;rcases hx with rfl<;>first|omega|decide)).M ?_;rintro cW bE ⟨rfl,bF,D⟩;have bG:=(cv.T D)
 have aC:=bG.size;have T:b<bE:=bF.lt.2;go_wp21;apply(BF b b (O+1) 0 bE bF).M;rintro e cX ⟨⟨s,rfl,hz⟩,cw⟩;have cx:=(bG.jQ.T cw)
 go_wp21;go_ret;have bB:=bO.o;have bC:=bV.o;exact⟨s,rfl,SE,ad.T ((ah.M (SC av.o)).T ((aw.M SE).T (cx.M SE)))⟩
def nu.fits(m:Nm)(e:Ev):Bool:=
 match arr e with
 |1=>decide (e.comp=m.jZ.length)&&(zI m e.peer&&(decide (e.d=0)||decide (e.d=1)))
 |2=>pE m e.comp&&(decide (1<=e.d)&&decide (e.d<=3))
 |3=>pE m e.comp
 |4=>tH m e
 |5=>tH m e&&(pE m e.peer&&(decide (e.copy=0)||decide (e.copy=1)))
 |6=>tH m e
 |8=>pE m e.comp&&(sj m e.peer e.hd&&decide (e.args.length<=4))
 |9=>tH m e&&decide (0<=e.d)
 |10=>pE m e.comp&&((decide (e.peer=0)||decide (e.peer=1))&&((decide (e.copy=0)||decide (e.copy=1))&&decide (e.args.length=if e.peer=1/\e.copy=1 then 1 else 2)))
 |11=>sj m e.comp e.hd
 |_=>false
def nu.valid(m:Nm)(e:Ev):Bool:=fits m e&&(decide (0<=e.tick)&&(decide (0<=e.n)&&tF e (used e)))
def nu.told(m:Nm)(e:Ev):List UInt8:=
 match arr e with
 |1=>[102,108,97,103,32]++(fN m e.peer++([32,61,32]++((if e.d=1 then [116,114,117,101]else [102,97,108,115,101])++([32,40,99,104,111,105,99,101,32]++(Lib.itoa e.n++[41])))))
 |2=>[100,101,112,108,111,121,32,118,101,114,115,105,111,110,32]++(Lib.itoa e.d++([32,40,99,104,111,105,99,101,32]++(Lib.itoa e.n++[41])))
 |3=>[99,114,97,115,104,32,40,99,104,111,105,99,101,32]++(Lib.itoa e.n++[41])
 |4=>[114,101,113,117,101,115,116,32]++(Lib.itoa e.n++([32]++qq (hN m e.comp e.hd) e.args))
 |5=>[109,101,115,115,97,103,101,32]++(Lib.itoa e.n++([32,102,114,111,109,32]++(cN m e.peer++([32]++((if e.copy=1 then [97,103,97,105,110,32]else [])++qq (hN m e.comp e.hd) e.args)))))
 |6=>[116,105,109,101,114,32]++(Lib.itoa e.n++([32]++qq (hN m e.comp e.hd) e.args))
 |8=>[115,101,110,100,115,32,109,101,115,115,97,103,101,32]++(Lib.itoa e.n++([32,116,111,32]++(cN m e.peer++([32]++qq (hN m e.peer e.hd) e.args))))
 |9=>[115,101,116,115,32,116,105,109,101,114,32]++(Lib.itoa e.n++([32]++(qq (hN m e.comp e.hd) e.args++([32,100,117,101,32,97,116,32,116]++Lib.itoa e.d))))
 |10=>Gf e
 |_=>[102,97,117,108,116,32,105,110,32]++hN m e.comp e.hd
def nu.line(m:Nm)(e:Ev):List UInt8:=
 if valid m e then [116]++(Lib.itoa e.tick++([32]++((if e.kind=1 then [111,112,101,114,97,116,111,114]else cN m e.comp)++([58,32]++((if e.kind=7 then [100,105,115,99,97,114,100,115,32]else [])++told m e)))))else []
def rE(e:Ev)(A)(m c:Nat)(w):Calls prog 45 #[.agg (FR e A m c)] w (kd (.int .u8 (arr e:Nat)) w):=by
 obtain⟨t,cm,k,p,n,b,h,d,args⟩:=e;have a:=Ba w (.cells (oS t cm k p n b h d A m c) 52);by_cases g:k=7
 .subst g;by_cases i:d=4
  .subst i
   go_enter func45,ntmps45
   go_wp2;go_ret;exact⟨rfl,a⟩
  by_cases j:d=5
  .subst j
   go_enter func45,ntmps45
   go_wp2;go_ret;exact⟨rfl,a⟩
  by_cases l:d=6
  .subst l
   go_enter func45,ntmps45
   go_wp2;go_ret;exact⟨rfl,a⟩
  have f:arr ⟨t,cm,7,p,n,b,h,d,args⟩=7:=(by simp[arr,i,j,l]);rw[f]
  go_enter func45,ntmps45
  go_wp2;go_ret;exact⟨rfl,a⟩
 have f:arr ⟨t,cm,k,p,n,b,h,d,args⟩=k:=by simp[arr,g]
 rw[f]
 go_enter func45,ntmps45
 go_wp2;go_ret;exact⟨rfl,a⟩
def Hl(V W w)(i j:Int)(l:Nat)(n p r s t:Int)(P)(u y:Int)(z:Nat)(C D E F G:Int)(Q A)(m c:Nat)(B)(J L:Nat)(ab:jT nw V w (.slice A m c) P)(ac:jT nw W w (.slice B J L) Q)(ad:∀q,V q->q<w)(ae:∀q,W q->q<w)(af:m<=9223372036854775807)(ag:J<=9223372036854775807):
  Calls prog 83 #[.agg (ks i j l n p r s t A m c),.agg (ks u y z C D E F G B J L)] w (kd (.int .i64 (xL [Lib.compareInt (i:Int) (u:Int),Lib.compareInt (j:Int) (y:Int),Lib.compareInt (l:Int) (z:Int),Lib.compareInt (n:Int) (C:Int),Lib.compareInt (p:Int) (D:Int),Lib.compareInt (r:Int) (E:Int),Lib.compareInt (s:Int) (F:Int),Lib.compareInt (t:Int) (G:Int),cmpL P Q])) w):=by
 have U:Below w w ((w.alloc (.cells (ks i j l n p r s t A m c) 52)).alloc (.cells (ks u y z C D E F G B J L) 52)):=(Ba _ _).alloc SG _;have N:((w.alloc (.cells (ks i j l n p r s t A m c) 52)).alloc (.cells (ks u y z C D E F G B J L) 52)).heap[w.heap.size]?=some (.cells (ks i j l n p r s t A m c) 52):=(Ph _ _ SG).T (O2 _ _);have M:((w.alloc (.cells (ks i j l n p r s t A m c) 52)).alloc (.cells (ks u y z C D E F G B J L) 52)).heap[w.heap.size+1]?=some (.cells (ks u y z C D E F G B J L) 52):=by have:=O2 (w.alloc (.cells (ks i j l n p r s t A m c) 52)) (.cells (ks u y z C D E F G B J L) 52);rw[O4]at this;exact this
 have hz0:((w.alloc (.cells (ks i j l n p r s t A m c) 52)).alloc (.cells (ks u y z C D E F G B J L) 52)).heap.size=w+2:=SG
 have ah:=ab;have ai:=ac;have X:=ad;have Y:=ae;have aj:=af;have ak:=ag
 go_enter func83,ntmps83
 go_upto_region 1 with fail;generalize(w.alloc (.cells (ks i j l n p r s t A m c) 52)).alloc (.cells (ks u y z C D E F G B J L) 52)=T at*;have Z:∀q,V q->q<T:=λq I=>O1 (X q I) U.size;have aa:∀q,W q->q<T:=λq I=>O1 (Y q I) U.size;obtain⟨d,al⟩:=Xq w.heap.size;obtain⟨f,am⟩:=Xq (d+1);rw[<-al]at N M hz0⊢;rw[<-am]at M⊢;have R:d<T:=SE
 have S:f<T:=SE
 refine Ri (λx=>Below T T x) (mi [(·=.pointer d),(·=.int .i64 i),(·=.pointer f),(·=.int .i64 u),(·=.int .i64 (Lib.compareInt (i:Int) (u:Int))),(·=.pointer (some ⟨d,1,none⟩)),(·=.int .i64 j),(·=.pointer (some ⟨f,1,none⟩)),(·=.int .i64 y),(·=.int .i64 (Lib.compareInt (j:Int) (y:Int))),(·=.pointer (some ⟨d,2,none⟩)),(·=.int .u8 (l:Nat)),(·=.pointer (some ⟨f,2,none⟩)),(·=.int .u8 (z:Nat)),(·=.int .i64 (Lib.compareInt (l:Int) (z:Int))),(·=.pointer (some ⟨d,3,none⟩)),(·=.int .i64 n),(·=.pointer (some ⟨f,3,none⟩)),(·=.int .i64 C),(·=.int .i64 (Lib.compareInt (n:Int) (C:Int))),(·=.pointer (some ⟨d,4,none⟩)),(·=.int .i64 p),(·=.pointer (some ⟨f,4,none⟩)),(·=.int .i64 D),(·=.int .i64 (Lib.compareInt (p:Int) (D:Int))),(·=.pointer (some ⟨d,5,none⟩)),(·=.int .i64 r),(·=.pointer (some ⟨f,5,none⟩)),(·=.int .i64 E),(·=.int .i64 (Lib.compareInt (r:Int) (E:Int))),(·=.pointer (some ⟨d,6,none⟩)),(·=.int .i64 s),(·=.pointer (some ⟨f,6,none⟩)),(·=.int .i64 F),(·=.int .i64 (Lib.compareInt (s:Int) (F:Int))),(·=.pointer (some ⟨d,7,none⟩)),(·=.int .i64 t),(·=.pointer (some ⟨f,7,none⟩)),(·=.int .i64 G),(·=.int .i64 (Lib.compareInt (t:Int) (G:Int))),(·=.pointer (some ⟨d,8,none⟩)),(·=.slice A m c),(·=.pointer (some ⟨f,8,none⟩)),(·=.slice B J L),(·=.int .i64 (cmpL P Q)),Tr,(·=.int .i64 (xL [Lib.compareInt (i:Int) (u:Int),Lib.compareInt (j:Int) (y:Int),Lib.compareInt (l:Int) (z:Int),Lib.compareInt (n:Int) (C:Int),Lib.compareInt (p:Int) (D:Int),Lib.compareInt (r:Int) (E:Int),Lib.compareInt (s:Int) (F:Int),Lib.compareInt (t:Int) (G:Int),cmpL P Q])),(·=.int .i64 (xL [Lib.compareInt (i:Int) (u:Int),Lib.compareInt (j:Int) (y:Int),Lib.compareInt (l:Int) (z:Int),Lib.compareInt (n:Int) (C:Int),Lib.compareInt (p:Int) (D:Int),Lib.compareInt (r:Int) (E:Int),Lib.compareInt (s:Int) (F:Int),Lib.compareInt (t:Int) (G:Int),cmpL P Q]))]) [(45,λv w=>∃(b:Nat),v=.slice b 9 9/\b<w/\T<=b/\w.heap[b]?=some (.cells #[.int .i64 (Lib.compareInt (i:Int) (u:Int)),.int .i64 (Lib.compareInt (j:Int) (y:Int)),.int .i64 (Lib.compareInt (l:Int) (z:Int)),.int .i64 (Lib.compareInt (n:Int) (C:Int)),.int .i64 (Lib.compareInt (p:Int) (D:Int)),.int .i64 (Lib.compareInt (r:Int) (E:Int)),.int .i64 (Lib.compareInt (s:Int) (F:Int)),.int .i64 (Lib.compareInt (t:Int) (G:Int)),.int .i64 (cmpL P Q)] 3))] ((Below.refl _ _).drew) ⟨?_,?_,?_,?_,?_,?_,?_,?_,?_,?_,?_,?_,?_,?_,?_,?_,?_,?_,?_,?_,?_,?_,?_,?_,?_,?_,?_,?_,?_,?_,?_,?_,?_,?_,?_,?_,?_,?_,?_,?_,?_,?_,?_,?_,?_,?_,?_,?_,trivial⟩ ?_
 .exact .f 2
 .exact .l 5 0 λ_ a=>jU ((a.B d R).T N) 0 _ rfl
 .exact .f 3
 .exact .l 7 2 λ_ a=>jU ((a.B f S).T M) 0 _ rfl
 .intro O w a hf hv hd hw;have ay:=Sv 6 hv 1;have az:=Sv 8 hv 3;replace a:=Hq a;refine .h λK hK=>?_;go_simp;refine⟨rfl,?_⟩;refine Calls.M (Tryz.cmp_Compare_int i u w) ?_;rintro e w' ⟨he,hw⟩;subst hw;subst he;exact⟨_,rfl,hK ⟨rfl,a.o,Qb<|Qe⟩⟩
 .exact .f 2
 .exact .l 10 5 λ_ a=>jU ((a.B d R).T N) 1 _ rfl
 .exact .f 3
 .exact .l 12 7 λ_ a=>jU ((a.B f S).T M) 1 _ rfl
 .intro O w a hf hv hd hw;have aA:=Sv 11 hv 6;have aB:=Sv 13 hv 8;replace a:=Hq a;refine .h λK hK=>?_;go_simp;refine⟨rfl,?_⟩;refine Calls.M (Tryz.cmp_Compare_int j y w) ?_;rintro e w' ⟨he,hw⟩;subst hw;subst he;exact⟨_,rfl,hK ⟨rfl,a.o,Qb<|Qe⟩⟩
 .exact .f 2
 .exact .l 15 10 λ_ a=>jU ((a.B d R).T N) 2 _ rfl
 .exact .f 3
 .exact .l 17 12 λ_ a=>jU ((a.B f S).T M) 2 _ rfl
 .intro O w a hf hv hd hw;have aC:=Sv 16 hv 11;have aD:=Sv 18 hv 13;replace a:=Hq a;refine .h λK hK=>?_;go_simp;refine⟨rfl,?_⟩;refine Calls.M (Hj l z w) ?_;rintro e w' ⟨he,hw⟩;subst hw;subst he;exact⟨_,rfl,hK ⟨rfl,a.o,Qb<|Qe⟩⟩
 .exact .f 2
 .exact .l 20 15 λ_ a=>jU ((a.B d R).T N) 3 _ rfl
 .exact .f 3
 .exact .l 22 17 λ_ a=>jU ((a.B f S).T M) 3 _ rfl
 .intro O w a hf hv hd hw;have aE:=Sv 21 hv 16;have aF:=Sv 23 hv 18;replace a:=Hq a;refine .h λK hK=>?_;go_simp;refine⟨rfl,?_⟩;refine Calls.M (Tryz.cmp_Compare_int n C w) ?_;rintro e w' ⟨he,hw⟩;subst hw;subst he;exact⟨_,rfl,hK ⟨rfl,a.o,Qb<|Qe⟩⟩
 .exact .f 2
 .exact .l 25 20 λ_ a=>jU ((a.B d R).T N) 4 _ rfl
 .exact .f 3
 .exact .l 27 22 λ_ a=>jU ((a.B f S).T M) 4 _ rfl
 .intro O w a hf hv hd hw;have aG:=Sv 26 hv 21;have aH:=Sv 28 hv 23;replace a:=Hq a;refine .h λK hK=>?_;go_simp;refine⟨rfl,?_⟩;refine Calls.M (Tryz.cmp_Compare_int p D w) ?_;rintro e w' ⟨he,hw⟩;subst hw;subst he;exact⟨_,rfl,hK ⟨rfl,a.o,Qb<|Qe⟩⟩
 .exact .f 2
 .exact .l 30 25 λ_ a=>jU ((a.B d R).T N) 5 _ rfl
 .exact .f 3
 .exact .l 32 27 λ_ a=>jU ((a.B f S).T M) 5 _ rfl
 .intro O w a hf hv hd hw;have aI:=Sv 31 hv 26;have aJ:=Sv 33 hv 28;replace a:=Hq a;refine .h λK hK=>?_;go_simp;refine⟨rfl,?_⟩;refine Calls.M (Tryz.cmp_Compare_int r E w) ?_;rintro e w' ⟨he,hw⟩;subst hw;subst he;exact⟨_,rfl,hK ⟨rfl,a.o,Qb<|Qe⟩⟩
 .exact .f 2
 .exact .l 35 30 λ_ a=>jU ((a.B d R).T N) 6 _ rfl
 .exact .f 3
 .exact .l 37 32 λ_ a=>jU ((a.B f S).T M) 6 _ rfl
 .intro O w a hf hv hd hw;have aK:=Sv 36 hv 31;have aL:=Sv 38 hv 33;replace a:=Hq a;refine .h λK hK=>?_;go_simp;refine⟨rfl,?_⟩;refine Calls.M (Tryz.cmp_Compare_int s F w) ?_;rintro e w' ⟨he,hw⟩;subst hw;subst he;exact⟨_,rfl,hK ⟨rfl,a.o,Qb<|Qe⟩⟩
 .exact .f 2
 .exact .l 40 35 λ_ a=>jU ((a.B d R).T N) 7 _ rfl
 .exact .f 3
 .exact .l 42 37 λ_ a=>jU ((a.B f S).T M) 7 _ rfl
 .intro O w a hf hv hd hw;have aM:=Sv 41 hv 36;have aN:=Sv 43 hv 38;replace a:=Hq a;refine .h λK hK=>?_;go_simp;refine⟨rfl,?_⟩;refine Calls.M (uv t G w) ?_;rintro e w' ⟨he,hw⟩;subst hw;subst he;exact⟨_,rfl,hK ⟨rfl,a.o,Qb<|Qe⟩⟩
 .exact .f 2
 .exact .l 45 40 λ_ a=>jU ((a.B d R).T N) 8 _ rfl
 .exact .f 3
 .exact .l 47 42 λ_ a=>jU ((a.B f S).T M) 8 _ rfl
 .intro O w a hf hv hd hw;have aO:=Sv 46 hv 41;have aP:=Sv 48 hv 43;replace a:=Hq a;refine .h λK hK=>?_;go_simp;refine⟨rfl,?_⟩;refine Calls.M (Hk V W w A m c B J L P Q (ah.jP nw.ok (λq I=>(a.o.B q (Z q I)).T (U.B q (X q I)))) (ai.jP nw.ok (λq I=>(a.o.B q (aa q I)).T (U.B q (Y q I)))) (λq I=>O1 (Z q I) a.o.size) (λq I=>O1 (aa q I) a.o.size) aj ak) ?_;rintro e w' ⟨he,hw⟩;subst hw;subst he;exact⟨_,rfl,hK ⟨rfl,a.o,Qb<|Qe⟩⟩
 .intro O w a hf hv hd hw;have aQ:=Sv 9 hv 4;have aR:=Sv 14 hv 9;have aS:=Sv 19 hv 14;have aT:=Sv 24 hv 19;have aU:=Sv 29 hv 24;have aV:=Sv 34 hv 29;have aW:=Sv 39 hv 34;have aX:=Sv 44 hv 39;have aY:=Sv 49 hv 44;have an:=a.size;replace a:=Hq a;exact .q (g:=⟨trivial,a.o.alloc a.o.size _,Qc ⟨_,rfl,SG,an,O2 _ _⟩<|Qe⟩)
 .intro O w a hf hv hd hw;obtain⟨ao,ap,aq,aZ,ar⟩:=kE hd 0;have ba:=Sl 50 ap;replace a:=Hq a;refine .h λK hK=>?_;go_simp;refine⟨rfl,?_⟩;refine Calls.M (K0 ao 9 [Lib.compareInt (i:Int) (u:Int),Lib.compareInt (j:Int) (y:Int),Lib.compareInt (l:Int) (z:Int),Lib.compareInt (n:Int) (C:Int),Lib.compareInt (p:Int) (D:Int),Lib.compareInt (r:Int) (E:Int),Lib.compareInt (s:Int) (F:Int),Lib.compareInt (t:Int) (G:Int),cmpL P Q] w rfl SE (λk x hx=>Jp ar hx) aq) ?_;rintro e w' ⟨he,hw⟩;subst hw;subst he;exact⟨_,rfl,hK ⟨rfl,a.o,Qb<|Qe⟩⟩
 .exact .v 51 46
 intro au bb av aw bc;have ax:au 47=.int .i64 (xL [Lib.compareInt (i:Int) (u:Int),Lib.compareInt (j:Int) (y:Int),Lib.compareInt (l:Int) (z:Int),Lib.compareInt (n:Int) (C:Int),Lib.compareInt (p:Int) (D:Int),Lib.compareInt (r:Int) (E:Int),Lib.compareInt (s:Int) (F:Int),Lib.compareInt (t:Int) (G:Int),cmpL P Q]):=aw 47 SF;simp only[mP,ax];go_wp2;go_ret;exact⟨rfl,U.T (av.M U.size)⟩
def yt(j k w)(a b:Ev)(A)(m c:Nat)(B)(f i:Nat)(p:jT nw j w (.slice A m c) a.args)(r:jT nw k w (.slice B f i) b.args)(l:∀q,j q->q<w)(n:∀q,k q->q<w)(s:m<=9223372036854775807)(t:f<=9223372036854775807):
  Calls prog 47 #[.agg (FR a A m c),.agg (FR b B f i)] w (kd (.bool (tF a b)) w):=by
 have u:tF a b=decide (xL [Lib.compareInt a.tick b.tick,Lib.compareInt a.comp b.comp,Lib.compareInt (a.kind:Int) (b.kind:Int),Lib.compareInt a.peer b.peer,Lib.compareInt a.n b.n,Lib.compareInt a.copy b.copy,Lib.compareInt a.hd b.hd,Lib.compareInt a.d b.d,cmpL a.args b.args]=0):=by cases d:tF a b;symm;rw[Rt,AQ];intro e;rw[(yo a b).2 e]at d;cases d;symm;rw[RI,AQ];exact(yo a b).1 d
 rw[u];clear u;have g:Below w w ((w.alloc (.cells (FR a A m c) 52)).alloc (.cells (FR b B f i) 52)):=(Ba _ _).alloc SG _;have v:=O0 (Hl j k ((w.alloc (.cells (FR a A m c) 52)).alloc (.cells (FR b B f i) 52)) a.tick a.comp a.kind a.peer a.n a.copy a.hd a.d a.args b.tick b.comp b.kind b.peer b.n b.copy b.hd b.d b.args A m c B f i (p.jP nw.ok λq d=>g.B q (l q d)) (r.jP nw.ok λq d=>g.B q (n q d)) (λq d=>O1 (l q d) g.size) (λq d=>O1 (n q d) g.size) s t);have x:=O0 g;obtain⟨z,hz⟩:=Xq (xL [Lib.compareInt a.tick b.tick,Lib.compareInt a.comp b.comp,Lib.compareInt (a.kind:Int) (b.kind:Int),Lib.compareInt a.peer b.peer,Lib.compareInt a.n b.n,Lib.compareInt a.copy b.copy,Lib.compareInt a.hd b.hd,Lib.compareInt a.d b.d,cmpL a.args b.args]);rw[<-hz]at v⊢;clear g p r l n s t hz
 go_enter func47,ntmps47
 go_wp21;apply v.o.M;rintro e D ⟨rfl,y⟩;have C:=O0 y;clear y;go_wp21;go_ret;exact⟨rfl,x.o.T (C.o.M x.o.size)⟩
def Fe{B}(S w name A)(n c:Nat)(xs)(hv:jT nw S w (.slice A n c) xs)(hS:∀q,S q->q<w)(hn:n<=4)(hr:∀x∈xs,zL B x)(aE:name.length<=1000)(N:qs B w):
  Calls prog 50 #[tx name,.slice A n c] w (kd (tx (qq name xs)) w):=by
 obtain⟨O,F,G,s,I⟩:=Pu pO;have Q:=Qu (P:=prog) w 78 9 O (Em) underlying78 F G .i64 .i64 0 (n:Int) SE SE (by rw[s];simp;omega) (by rw[I];omega) SE;rw[s,PG,PZ,show Int.toNat 0=0 from rfl]at Q;have t:=O0 (And.intro F (And.intro G (And.intro s I)));obtain⟨ys,J⟩:=Xq (xs.map Lib.itoa);have u:=O0 J;have d:=O0 (show ys.length=n by rw[J,PY];exact hv.len.1);clear J;have ag:=O0 hv;have R:=O0 hv.len;have ah:=O0 hS;have T:=O0 hr;have ai:=O0 N;clear F G s I hv hS hr N
 go_enter func50,ntmps50
 go_wp21;have U:=Ba w (yd n);have aj:=O0 (show kf kh 9 1 (λ_=>False) (w.alloc (yd n)) w (.slice w 0 n) []from⟨[],RJ w _ n (O9 _) SP (by simp[madeCells]),trivial⟩);have ak:=O0 U;generalize w.alloc (yd n)=aF at*;clear Q U;go_loopw [5,13] (λv i wr=>∃(k:Nat) (l:Option Addr) (f:Nat),k<=n/\i=k/\v=.slice l k f/\kf kh 9 1 (λ_=>False) wr w (.slice l k f) (ys.take k)/\Below w w wr) (λ_ i _=>n-(intOf i).toNat)
 .exact⟨0,_,_,Pb _,rfl,rfl,aj.o,ak.o⟩
 obtain⟨k,l,f,aG,rfl,rfl,j,hb⟩:=hrel;have V:=O0 j;have C:=O0 hb;have aH:=hb.size;clear j hb;by_cases aI:k<n
 .obtain⟨x,hx⟩:∃x,xs[k]?=some x:=Gx (SC R.o.1);obtain⟨aJ,aK,r,rfl,al,hr,W⟩:=(ag.o.jP nw.ok (λq am=>C.o.B q (ah.o q am))).kt nw.ok k x hx;have K:r=[.int .i64 x]:=hr;subst K;have an:=W 0 _ rfl;rw[Pc,PG]at an;have X:=T.o x (O5 hx);have ao:=O0 (AU x X wr (ai.o.jQ C.o));obtain⟨aL,aM⟩:=mG k n;have ap:=O0 (show ys.take (k+1)=ys.take k++[Lib.itoa x]by rw[PM,u.o,PX,hx];simp);have D:=O0 (show(ys.take k).length=k by simp;have:=d.o;omega);clear hr W al hx X;go_wp21;apply ao.o.M;rintro e Y ⟨rfl,E⟩;have Z:=O0 E;have aN:=E.size;have aa:=O0 (V.o.jQ kh.ok E);have aq:=O0 (lI Y [tx (Lib.itoa x)] 9);clear E;go_wp2_with (at_builtin;refine kj rfl _ _ 78 rfl w.heap.size 9 O _ 1 16 underlying78 t.o.1 t.o.2.1 t.o.2.2.1 t.o.2.2.2 rfl kh.ok (λ_=>False) _ (ys.take k) rfl (aa.o.jQ kh.ok (Ba _ _)) ⟨Y,0,none⟩ [tx (Lib.itoa x)] (Lib.itoa x) rfl aq.o rfl ?c3 ?c4 ?c5 ?_);case c3=>rw[D.o];unfold maxLen;omega
  case c4=>rw[D.o];omega
  case c5=>first|omega|(simp;omega)
  intro v1 aO m ab _;obtain⟨ar,au,rfl,_⟩:=m.form;rw[Pe,D.o,show [Lib.itoa x].length=1 from rfl]at m;rw[Pe,D.o,show [Lib.itoa x].length=1 from rfl];rw[<-ap.o]at m;have av:=O0 m;have aw:=O0 (((C.o.T (Z.o.M SE)).alloc (SC Z.o.size) _).grown ab SK (λz e=>(aa.o.ge z e).1));clear m ab;go_wp21;go_roundw
  .exact⟨k+1,ar,au,SE,SJ,rfl,av.o,aw.o⟩
  simp[intOf];omega
 obtain rfl:n=k:=SE;have j:=V.o;rw[Pq (SC d.o)]at j;have p:=j.sl kh.ok;have ac:=rF xs (zL.all T.o);have aP:xs.length=n:=R.o.1;have ax:=d.o;have ay:=O0 (show Calls prog 85 #[.slice l n f,.string ⟨#[44,32]⟩] wr (kd (tx (Lib.join ys [44,32])) wr)by
  cases l with
  |none=>
   have g:n=0:=by rcases Qt n with g|g;exact g;obtain⟨b,o,r,e,_⟩:=p.kt kh.ok 0 ys[0] (Pg (SC d.o));cases e
   subst g;have L:ys=[]:=PT d.o;rw[L];apply(Tryz.strings_Join_none none f _ wr).M;rintro e w' ⟨rfl,rfl⟩;exact⟨rfl,Below.refl _ _⟩
  |some a=>
   rcases Qt n with g|g;subst g;have L:ys=[]:=PT d.o;rw[L];apply(Tryz.strings_Join_none (some a) f _ wr).M;rintro e w' ⟨rfl,rfl⟩;exact⟨rfl,Below.refl _ _⟩;obtain⟨b,o,r,e,az,_,_⟩:=p.kt kh.ok 0 ys[0] (Pg (SC d.o));injection e with e;subst e;have hm:((ys.map λx=>(⟨x.toArray⟩:ByteArray)).map λx=>x.data.toList)=ys:=(by rw[List.map_map];simp[Function.comp_def]);have:=Tryz.strings_Join b o f (ys.map λx=>(⟨x.toArray⟩:ByteArray)) ⟨#[44,32]⟩ wr (λad x hx=>by
    rw[PX]at hx;cases hy:ys[ad]? with
    |none=>rw[hy]at hx;cases hx
    |some y=>rw[hy]at hx;injection hx with hx;obtain⟨aQ,aR,aA,M,_,hr,hc⟩:=p.kt kh.ok ad y hy;injection M with M;injection M with e3 e4;subst e3 e4;have K:aA=[tx y]:=hr;subst K;have:=hc 0 _ rfl;rw[Pc,PG]at this;rw[this,<-hx]) az.2 (by rw[PY];have:=d.o;omega) (by rw[PY];have:=d.o;have:=p.len.2;omega) (by rw[hm,u.o];show(Lib.join _ [44,32]).length<=_;omega)
   rw[hm,PY,d.o]at this;exact this)
 have aB:=O0 (show(Lib.join ys [44,32]).length<=92 by rw[u.o];omega);have aC:=O0 (show qq name xs=name++([40]++(Lib.join ys [44,32]++[41]))by rw[u.o];rfl);generalize Lib.join ys [44,32]=ae at*;clear j p ac ax;go_wp21;apply ay.o.M;rintro e aS ⟨rfl,af⟩;have aD:=O0 af;have ac:=aB.o;clear af;go_wp21;go_ret;refine⟨?_,C.o.T (aD.o.M SE)⟩;rw[aC.o];show Ending.returned (.string (((⟨name.toArray⟩:ByteArray)++⟨[40].toArray⟩)++⟨ae.toArray⟩++⟨[41].toArray⟩))=Ending.returned (.string ⟨(name++([40]++(ae++[41]))).toArray⟩);rw[kq,kq,kq];simp only[Py]
def mh.LF{f}(hg:mh f):N7 (ki f):=by
 refine⟨λi=>?_,λi=>?_,λi g=>?_⟩;unfold cN;split;refine wk (P:=λx=>x.length<=12) SG (λx hx=>?_) _;obtain⟨c,hc,rfl⟩:=Qo.1 hx;exact mN (hg.jZ c hc).name;simp;unfold fN;split;refine wk (P:=λx=>x.length<=12) SG (λx hx=>?_) _;obtain⟨c,hc,rfl⟩:=Qo.1 hx;exact mN (hg.km c hc);simp;unfold hN;split;refine wk (P:=λx=>x.length<=12) SG (λx hx=>?_) _;unfold hL at hx;split at hx;have a:x∈((kV f)[i.toNat]?.getD []):=hx;cases hn:(kV f)[i.toNat]? with
 |none=>rw[hn]at a;simp at a
 |some l=>rw[hn]at a;obtain⟨c,hc,rfl⟩:=Qo.1 (O5 hn);have b:=hg.jZ c hc;exact wW (P:=λx=>x.length<=12) SG (λhs d h e=>mN ((b.kS hs d).2 h e).name) x a
 simp at hx;simp
def yu{name xs}(a:name.length<=12)(hx:xs.length<=4)(hr:∀x∈xs,xu x):(qq name xs).length<=110:=by have:=rF xs hr;unfold qq;simp only[Pe,PA,PE];omega
def wX{m:Nm}{e:Ev}(h:fits m e=true):arr e=1\/arr e=2\/arr e=3\/(arr e=4/\e.args.length<=4)\/(arr e=5/\e.args.length<=4)\/(arr e=6/\e.args.length<=4)\/(arr e=8/\e.args.length<=4)\/(arr e=9/\e.args.length<=4)\/(arr e=10/\1<=e.args.length/\e.args.length<=2)\/arr e=11:=by unfold fits at h;split at h<;>simp_all [tH];split<;>omega
def Hn{m:Nm}{e:Ev}(hb:N7 m)(hf:fits m e=true)(hn:xu e.n)(hd:xu e.d)(hr:∀x∈e.args,xu x):(told m e).length<=300:=by
 have c:=P0 e.n hn.1 hn.2;have d:=P0 e.d hd.1 hd.2;have f:=hb.f e.peer;have g:=hb.c e.peer;have a:=hb.h e.comp e.hd;have b:=hb.h e.peer e.hd;have i:=Ff hn hr;have hc:∀nm:List UInt8,nm.length<=12->e.args.length<=4->(qq nm e.args).length<=110:=λnm h hx=>yu h hx hr;rcases wX hf with h|h|h|⟨h,hx⟩|⟨h,hx⟩|⟨h,hx⟩|⟨h,hx⟩|⟨h,hx⟩|⟨h,hx⟩|h;all_goals
  unfold told;rw[h];try have j:=hc _ a hx
  try have k:=hc _ b hx
  simp only[Pe,PA,PE];first|omega|(split<;>simp only[Pe,PA,PE]<;>omega)
def pG.vJ(T:kG)(p:Nat):Option (Fg×Nat):=do
 let (a,p)<-uV T p
 let p<-sk T [61] p
 let (b,p)<-vP T p
 let p<-sk T [59] p
 some (⟨a,b⟩,p)
def uJ(w:World)(o:Obj):w.grownBy (w.alloc o).drew none:=D4 (O7 w o none)
def Hu{T:kG}{V:PV}{pb pos q bp a:Nat}{x}{k:Int}{nm hd xs}(l w)(hx:pM T pos=some (x,q))(h:lz T V w pb pos)(hs:B7 l pb bp a k nm hd xs w)(z:V.lo<=a)(hn:xs.length<=20000):
  Calls prog 209 #[Nl,.pointer a,.pointer bp] w λe w'=>(∃v,e=.returned v)/\vK T V l pb q bp a k nm hd (xs++[x]) w':=by
 obtain⟨B,hi,C,D,E⟩:=Pu K3;obtain⟨v,hs⟩:=hs;obtain⟨ah,ai,aj,ak,al,am⟩:=hs.lt;have G:=O0 (Fq (V:=V) (pb:=pb) hx);have H:=O0 h;have b0:=jN hs.bx 0;have an:bp<w:=SE
 have ao:a<w:=SE
 obtain⟨A,c,rfl⟩:∃A c,v=.slice A xs.length c:=by
  rcases hs.own.2 with⟨rfl,I⟩|⟨g,F,ap,rfl,_⟩
  exact⟨none,0,by rw[I]⟩;exact⟨_,_,rfl⟩
 have J:=jN hs.ex 3;have K:=O0 hs;have s:xs.length+1<=maxLen:=SP
 have t:(xs.length+1)*56<=140737488355328:=SE
 obtain⟨n,f⟩:∃n,xs.length=n:=⟨_,rfl⟩
 rw[f]at J s t;have aq:(0:Int)<=(n:Int):=SE
 have ar:(n:Int)<(n:Int)+1:=SE
 clear hx h hs
 go_enter func209,ntmps209
 go_upto_region 0 with fail;go_cut [] (λL=>vK T V l pb q bp a k nm hd (xs++[x]) L)
 .go_region_law (first|(go_simp;go_at_call 210;refine Calls.M (G.o _ (H.o.grown (by first|exact xO w|exact uJ w _))) ?_;rintro e b ⟨rfl,r⟩;have d:=(K.o.jP (kg (by first|exact xO w|exact uJ w _) _)).jP r.2;have M:=jN d.ex 3;rw[f]at d M;have u:=d.own;rw[f]at u;have au:=d.lt.2.2.2.2.2;have av:a<b:=SE;(try (have N:b.heap[w.heap.size]?=some kc:=(r.2.B w (by simp[World.drew]) (λe=>by injection e;omega)).T (O2 w kc))))|(refine R3 b (by rfl) (.tmp 7) (.tmp 11) 189 (by rfl) l 196 B _ 4 56 underlying189 hi C D E rfl SF (.slice A n c) n (sT xs) (by rfl) u ⟨w,0,none⟩ 1 1 (zJ MH) (by rfl) (by rfl) (RH N) S6 SF s t SE b rfl ?_;intro g F O j m P Q;have y:=GI (x:=x) z r.1 d m f j;obtain⟨⟨R,S,U,W⟩,X,Y,Z,aa⟩:=GJ f j;have p:=JZ d m;have ab:=jN p 3;have ac:=jS p 3;have ad:=(oG j g rfl).1;have ae:g≠a:=SE;have af:a≠g:=SE)|(refine R3 (b.alloc kc) (by rfl) (.tmp 7) (.tmp 11) 189 (by rfl) l 196 B _ 4 56 underlying189 hi C D E rfl SF (.slice A n c) n (sT xs) (by rfl) (u.alloc _) ⟨b,0,none⟩ 1 1 (zJ MH) (by rfl) (by rfl) (RH (O2 b _)) S6 SF s t SN (b+1) SG ?_;intro g F O j m P Q;have y:=GI (x:=x) z (r.1.jQ (Ba _ _)) (d.jP (kg (O7 b kc none) _)) m f j;obtain⟨⟨R,S,U,W⟩,X,Y,Z,aa⟩:=GJ f j;have p:=JZ (d.jP (kg (O7 b kc none) _)) m;have ab:=jN p 3;have ac:=jS p 3;have ad:=(oG j g rfl).1;have ae:g≠a:=SE;have af:a≠g:=SE));all_goals
   go_wp2_with fail;go_meet;first|with_reducible exact y.1|with_reducible exact y.2
 have ag:=O0 hcut;clear hcut;go_wp2_with fail;go_loopw [17] (λi wr=>i=.int .i64 0/\wr=wc) (λ_ _=>0)
 .exact⟨rfl,rfl⟩
 obtain⟨rfl,rfl⟩:=hrel;go_wp2_with fail
 go_end0
 exact⟨⟨_,rfl⟩,ag.o⟩
def Hv{T:kG}{V:PV}{pb pos q bp a c:Nat}{x}{k:Int}{nm hd xs}(b w)(hx:pM T pos=some (x,q))(h:lz T V w pb pos)(hs:B7 b pb bp a k nm hd xs w)(d:V.lo<=a)(hn:xs.length<=20000)(he:w.cell? c=some (.func (.func 209) #[] #[.pointer a,.pointer bp])):
  Calls prog 211 #[.pointer c] w λe w'=>(∃v,e=.returned v)/\vK T V b pb q bp a k nm hd (xs++[x]) w':=by
 have f:=O0 (Hu b w hx h hs d hn);clear hx h hs d hn
 go_enter func211,ntmps211
 go_wp2_with fail;apply f.o.M;rintro e i ⟨⟨v,rfl⟩,hp,hs⟩;have g:=O0 (And.intro hp hs);clear hp hs;go_wp2_with fail
 go_end0
 exact⟨⟨_,rfl⟩,g.o⟩
def ux{T:kG}{p q:Nat}{s}(h:uI T p=some (s,q)):nD T p=[115,101,110,100]/\∃a b c hd d xs e,uV T (p+1)=some (a,b)/\sk T [46] b=some c/\uV T c=some (hd,d)/\sH T (pM T) d=some (xs,e)/\sk T [59] e=some q/\s=.mk 6 a hd xs [] []:=by
 unfold uI at h;split at h
 rename_i f
 obtain⟨⟨a,b⟩,g,h⟩:=bind_some h;obtain⟨c,i,h⟩:=bind_some h;obtain⟨⟨hd,d⟩,j,h⟩:=bind_some h;obtain⟨⟨xs,e⟩,k,h⟩:=bind_some h;obtain⟨r,l,h⟩:=bind_some h;injection h with h;injection h with m n;subst m n;exact⟨f,a,b,c,hd,d,xs,e,g,i,j,k,l,rfl⟩;cases h
def FT.B5{b w}{pb bp a:Nat}{k:Int}{nm hd xs v}(h:FT b pb bp a k nm hd xs v w)(i:Nat)(u){k':Int}{nm' hd'}(he:(#[.int .u8 k,tx nm,tx hd,v,Nl,Nl]:Array Value).setIfInBounds i u=#[.int .u8 k',tx nm',tx hd',v,Nl,Nl]):FT b pb bp a k' nm' hd' xs v (w.setCell ⟨a,i,none⟩ u):=by
 obtain⟨d,f,g,j,c,l⟩:=h.lt;refine⟨(Pd _ _ _ _ c).T h.bx,by rw[<-he];exact jO h.ex,?_,h.g.vQ (jY _ _ _ _),d,f,g,j,c,by rw[O6];exact l⟩;refine h.own.kept (jY _ _ _ _) ?_;cases hv:v.ownBlock with
 |none=>exact .inl rfl
 |some z=>exact .inr λe=>by injection e with e;have:=(oG h.own z hv).1;omega
def pG.A5{T:kG}{p q:Nat}{s:kT.St}(h:uI T p=some (s,q)):p<q:=by obtain⟨_,a,g,i,hd,j,xs,k,d,b,e,f,c,_⟩:=Go.Proofs.YtjoamapacifofaaGreatDoor.ux h;have l:=(Go.Proofs.YtjoamapacifofaaGreatDoor.qz d).2.2.1;have e3:=(Go.Proofs.YtjoamapacifofaaGreatDoor.qz e).2.2.1;unfold sk at b c;split at b;split at c;injection b with b;injection c with c;have e4:=wu (λp q x hx=>A0 hx) f;omega;cases c;cases b
def pG.yC{T:kG}:∀{k p q:Nat} {l:List kT.St},qb T k p=some (l,q)->p<q
 |0,_,_,_,h=>by cases h
 |k+1,p,q,l,h=>by
  unfold qb at h;split at h;injection h with h;injection h with _ a;omega;cases hs:uI T p with
  |none=>rw[hs]at h;cases h
  |some y=>
   obtain⟨s,b⟩:=y;rw[hs]at h;simp only at h;cases hr:qb T k b with
   |none=>rw[hr]at h;cases h
   |some z=>obtain⟨r,c⟩:=z;rw[hr]at h;injection h with h;injection h with _ a;subst a;have:=A5 hs;have:=yC hr;omega
def pG.yD{T:kG}{p q:Nat}{l:List kT.St}(h:ue T p=some (l,q)):p<q:=by unfold ue at h;split at h;have:=yC h;omega;cases h
def yF{T:kG}{p q:Nat}{f}(h:vJ T p=some (f,q)):∃a c d b e,uV T p=some (a,c)/\sk T [61] c=some d/\vP T d=some (b,e)/\sk T [59] e=some q/\f=⟨a,b⟩:=by unfold vJ at h;obtain⟨⟨a,c⟩,g,h⟩:=bind_some h;obtain⟨d,i,h⟩:=bind_some h;obtain⟨⟨b,e⟩,j,h⟩:=bind_some h;obtain⟨n,k,h⟩:=bind_some h;injection h with h;injection h with l m;subst l m;exact⟨a,c,d,b,e,g,i,j,k,rfl⟩
def pG.Hx{T:kG}{p q:Nat}{f:kT.Fg}(h:vJ T p=some (f,q)):p<q:=by obtain⟨a,i,j,b,k,g,d,c,e,_⟩:=Go.Proofs.YtjoamapacifofaaGreatDoor.yF h;have:=qK g;unfold sk at d e;unfold vP at c;split at d;injection d;split at e;injection e;split at c;injection c with c;injection c;omega;split at c;injection c with c;injection c;omega;cases c;cases e;cases d
def pG.A6{c:Type}{T:kG}{w}{b:Nat->Option (c×Nat)}(h:∀p q x,b p=some (x,q)->p<q):∀{k p q:Nat} {l:List c},oz T w b k p=some (l,q)->p<=q
 |0,_,_,_,a=>by cases a
 |k+1,p,q,l,a=>by
  unfold oz at a;split at a;cases hs:b (p+1)with
  |none=>rw[hs]at a;cases a
  |some y=>
   obtain⟨s,e⟩:=y;rw[hs]at a;simp only at a;cases hr:oz T w b k e with
   |none=>rw[hr]at a;cases a
   |some z=>obtain⟨r,f⟩:=z;rw[hr]at a;injection a with a;injection a with _ d;subst d;have:=h _ _ _ hs;have:=A6 h hr;omega
  injection a with a;injection a with _ d;omega
def Ll:JJ tree:=by
 rw[vz];refine⟨⟨SF,λk x hx=>?_⟩,⟨SF,λk x hx=>by simp at hx⟩,SF,λk c hc=>?_⟩
 match k,hx with
 |0,hx=>injection hx with hx;subst hx;exact⟨SM,SF⟩
 |k+1,hx=>simp at hx
 match k,hc with
 |0,hc=>
  injection hc with hc;subst hc;refine⟨SF,SM,SM,SF,λb x hx=>by simp[oH]at hx,SF,SF,λl a b x hx=>?_⟩;simp only[oH,PH]at a;subst a
  match b,hx with
  |0,hx=>injection hx with hx;subst hx;refine⟨SF,SM,λv e hy=>?_,SF,⟨0,0,0,0,[],0⟩,rfl,L1 0 ⟨SF,SF,SF⟩ (λk p hp=>by simp[JL]at hp),?_,λh=>absurd h SF⟩;obtain⟨l,a,d⟩:=List.mem_flatten.1 (RX hy);have:=QK a;simp only[oH,PH]at this;subst this;simp only[PH]at d;subst d;rfl;simp only[JL,PH];rintro s rfl;exact HB 0
  |b+1,hx=>simp at hx
 |1,hc=>
  injection hc with hc;subst hc;refine⟨SF,SM,SM,SF,λb x hx=>by simp[pN]at hx,SF,SF,λl a b x hx=>?_⟩;simp only[pN,PH]at a;subst a
  match b,hx with
  |0,hx=>
   injection hx with hx;subst hx;refine⟨SF,SM,λv e hy=>?_,SF,⟨0,0,0,0,[],1⟩,rfl,L1 1 ⟨SF,SF,SF⟩ (λk p hp=>?_),by simp[JM],λh=>absurd h SF⟩;obtain⟨l,a,d⟩:=List.mem_flatten.1 (RX hy);have:=QK a;simp only[pN,PH]at this;subst this;simp only[PH]at d;subst d;rfl
   match k,hp with
   |0,hp=>injection hp with hp;subst hp;exact⟨SF,SM,SM,SF⟩
   |1,hp=>injection hp with hp;subst hp;exact⟨SF,SM,SM,SF⟩
   |k+2,hp=>simp[JM]at hp
  |b+1,hx=>simp at hx
 |k+2,hc=>simp at hc
def Jy:LD tree:=by
 rw[vz];have hs:BX [oH,pN] Ds qu:=⟨⟨SF,SF⟩,SF,λe he=>by rcases lits e he with rfl|rfl<;>exact yH SE,λ_=>⟨pN,SG,rfl⟩,by simp[qu,St.th],by simp[qu,St.el]⟩
 intro c hc;simp only[Pz,Ps,PU]at hc;rcases hc with rfl|rfl;refine⟨SF,SF,?_⟩;simp only[oH,PH];rintro l rfl;refine⟨SF,?_⟩;simp only[PH];rintro h rfl;refine⟨SF,SF,?_⟩;simp only[JL,PH];rintro s rfl;exact hs;refine⟨SF,SF,?_⟩;simp only[pN,PH];rintro l rfl;refine⟨SF,?_⟩;simp only[PH];rintro h rfl;exact⟨SF,SF,by simp[JM]⟩
def Ln:line (ki tree) ⟨4,1,5,0,0,0,0,0,[1,7]⟩=J0:=SH
def Lp:line (ki tree) ⟨4,2,1,0,0,0,0,1,[]⟩=Gi:=SH
def nu.sU(m:Nm)(k a b n:Int):List UInt8:=if n<0 then []else if k=1/\sj m a b=false then []else if FU m k a b n=[]then []else kW m k a b n++FU m k a b n
end Go.Proofs.YtjoamapacifofaaGreatDoor
namespace Go.Proofs.YtjoamapacifofaaGreatDoor
open Go.RowKit kT nu Go.Proofs.Tryz
abbrev EC(t cm a p n b h d:Int)(s:Value):Array Value:=#[.int .i64 t,.int .i64 cm,.int .u8 a,.int .i64 p,.int .i64 n,.int .i64 b,.int .i64 h,.int .i64 d,s]
def boxes(w a C):BU w w (w+1) a C ((w.alloc (.cells a 52)).alloc (.cells C 52)):=
 ⟨(Ba _ _).alloc SG _,(Ph _ _ SG).T (O2 _ _),by have:=O2 (w.alloc (.cells a 52)) (.cells C 52);rw[O4]at this;exact this⟩
section
variable {m:Nm} {e:Ev} {vb:Bool}
def vF(hv:vb=valid m e)(hf:fits m e=false):Ending.returned (.bool false)=.returned (.bool vb):=by rw[hv];unfold valid;rw[hf];rfl
def vT(hv:vb=valid m e)(hf:fits m e=true)(a:0<=e.tick)(hn:0<=e.n){u:Ev}(hu:u=used e):Ending.returned (.bool (tF e u))=.returned (.bool vb):=by rw[hv];unfold valid;rw[hf,QP a,QP hn,<-hu];rfl
def vN(hv:vb=valid m e)(hn:e.n<0):Ending.returned (.bool false)=.returned (.bool vb):=by rw[hv];unfold valid;rw[Qg (Int.not_le.2 hn)];simp
def vM(hv:vb=valid m e)(hn:e.tick<0):Ending.returned (.bool false)=.returned (.bool vb):=by rw[hv];unfold valid;rw[Qg (Int.not_le.2 hn)];simp
end
section
variable (S:Nat→Prop) {w:World} (w6:World) (hb:Below w.heap.size w w6) (e u:Ev) (A:Option Addr) (m c:Nat) (hv:jT nw S w (.slice A m c) e.args) (hS:∀q,S q→q<w.heap.size) (hm:m≤9223372036854775807)
include hb hv hS hm
theorem LZ(hu:u.args=e.args):Calls prog 47 #[.agg (FR e A m c),.agg (FR u A m c)] w6 (kd (.bool (tF e u)) w6):=by have b:=hv.jP nw.ok (λq a=>hb.B q (hS q a));have f:=λq a=>O1 (hS q a) hb.size;exact yt S S w6 e u A m c A m c b (by rw[hu];exact b) f f hm hm
theorem L0(hu:u.args=[]):Calls prog 47 #[.agg (FR e A m c),.agg (FR u none 0 0)] w6 (kd (.bool (tF e u)) w6):=by have b:=hv.jP nw.ok (λq a=>hb.B q (hS q a));have f:=λq a=>O1 (hS q a) hb.size;exact yt S (λ_=>False) w6 e u A m c none 0 0 b (by rw[hu];exact jT.nil _ _ _) f (λq a=>a.elim) hm SF
end
end Go.Proofs.YtjoamapacifofaaGreatDoor
namespace Go.Proofs.YtjoamapacifofaaGreatDoor.nu
open Go
def DA{m:Nm}{c:Int}(h:zI m c=true):m.km[c.toNat]?=some (fN m c)/\((c.toNat:Nat):Int)=c:=by unfold fN;rw[if_pos h];simp only[zI,Bool.and_eq_true,decide_eq_true_eq]at h;rw[List.getElem?_eq_getElem SE];exact⟨rfl,SE⟩
def Gg{m:Nm}(c:Int)(P:List (List UInt8)->Prop)(a:P [])(h:∀l∈m.hs,P l):P (hL m c):=by
 unfold hL;split;cases hx:m.hs[c.toNat]? with
 |none=>exact a
 |some l=>exact h l (List.mem_of_getElem? hx)
 exact a
section
variable {m:Nm} (hg:JV m)
include hg
omit hg in
omit hg in
omit hg in
omit hg in
omit hg in
omit hg in
omit hg in
omit hg in
omit hg in
omit hg in
end
end Go.Proofs.YtjoamapacifofaaGreatDoor.nu
namespace Go.RowKit
open Go.WideShapes Go.ChangeShapes Go.WideElems
section
variable {H:Type} {enc:TypeId×Value→H} {P:Program}
def qP(P:Program)(a:List TypeId):Bool:=a.all λt=>P.readableRec t&&decide (t<P.types.size)
def sQ(e:laidOutB P=true){W f:World}{sp:Nat->Bool}:∀{b:List TypeId} {vs:List Value} {c:List (DataW H)} {a:List MemPlace},qP P b=true->
  DataW.TrodAll enc P W 0 (λ_=>true) true b vs c a->(∀p∈a,W.sameAt f p)->(∀p∈a,sp p.block=true)->DataW.TrodAll enc P f 0 sp true b vs c a
 |[],[],[],_,_,h,_,_=>h
 |t::b,v::vs,d::c,a,hr,h,h1,h2=>by
  obtain⟨p,q,hp,g,rfl⟩:=h;simp only[qP,List.all_cons,Bool.and_eq_true,decide_eq_true_eq]at hr;exact⟨p,q,Trod_stays e hr.1.1 hr.1.2 hp (λx hx=>h1 x (by simp[hx])) (λx hx=>h2 x (by simp[hx])),
   sQ e (by simp[qP];simpa using hr.2) g (λx hx=>h1 x (by simp[hx])) (λx hx=>h2 x (by simp[hx])),rfl⟩
 |[],[],_::_,_,_,h,_,_=>h.elim
 |[],_::_,_,_,_,h,_,_=>h.elim
 |_::_,[],_,_,_,h,_,_=>h.elim
 |_::_,_::_,[],_,_,h,_,_=>h.elim
def H8{f:Func}{s:ChangeSpec}{k z A B:Bool}{W c:World}{args:Array Value}{a l:List (DataW H)}{d:List MemPlace}{m:TypeId}
  (C:laidOutB P=true) (D:qP P f.params.toList=true) (e:s.vars=[]) (n:f.resultTypes=#[m]) (r:P.underlying m=some .bool)
  (g:DataW.Whole enc P f.params.toList s.vars k W args.toList a l d)
  (i:s.fn H (a++l)={results:=[.lit (.bool true)],args:=a}) (hb:Below W.heap.size W c):
  s.post enc P f k z A B W args (.bool true) c:=by
 have E:=g;have j:∀p∈d,p.block<W.heap.size:=λp hp=>g.lt p hp;have F:∀p∈d,(λb=>decide (b<W.heap.size)) p.block=true:=λp hp=>by simpa using j p hp
 obtain⟨p,q,G,t,rfl,hz,hn⟩:=E;rw[e]at t;obtain⟨rfl,rfl⟩:=trodVars_none t;simp only[List.append_nil]at*;have u:∀(b:Nat) (sp:Nat->Bool) (hd:Bool),DataW.TrodAll enc P c b sp hd f.resultTypes.toList ((Value.bool true).resultList f.resultTypes.size) [.lit (.bool true)] []:=by intro b sp hd;rw[n];exact trodAll_mk1 (shut_bool r true)
 have v:∀sp:Nat->Bool,(∀x∈p,sp x.block=true)->DataW.TrodAll enc P c 0 sp true f.params.toList args.toList a p:=
  λsp h=>sQ C D G (λx hx=>hb.same (j x hx)) h
 refine⟨a,[],p,[],p,[],g,?_,?_,?_,World.keptBut_mono (λx hx=>⟨hx,.inr (.inl hx)⟩) (hb.frame (·∈p)),λ_=>?_⟩
 .rw[List.append_nil,i];exact u _ _ _
 .rw[List.append_nil,i];exact v _ F
 .rw[List.append_nil,i,e];rfl
 .refine⟨ok_one n rfl (okWide_bool_mk r true),_,[],([]++p)++[],⟨[]++p,[],trodAll_append (v _ (λ_ _=>rfl)) (u _ _ _),by rw[e];rfl,rfl,?_,?_⟩,?_⟩;intro b w hp;have y:MemPlace.cell b w∈p:=(by simpa using hp);rw[hb.frozen (j _ y)];exact hz b w y;intro I;simpa using hn I;intro x hx _;simpa using hx
end
end Go.RowKit
