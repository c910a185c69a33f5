import Derived.Test.YtppncjcpdbhobaaGreatDoorZ17
import Derived.Test.YtppncjcpdbhobaaGreatDoorZ18
import Derived.Test.YtppncjcpdbhobaaGreatDoorZ19
set_option maxRecDepth 1000000
set_option maxHeartbeats 32000000
set_option linter.all false
namespace Go.Proofs.YtppncjcpdbhobaaGreatDoor
open RowKit Go.Proofs.Tryz lI Maps oZ qQ ChangeShapes WideShapes ChangeAt
def Ax:∀d,Bv d
 |0=>CK
 |d+1=>CL d<|Gw d (Ax d)<|Gu d<|Ax d
def tM(P)(e b k G:Nat)(w I)(m J:Nat)(A)(aI:lY w)(aJ:LL e)(ao:oH e b (k:Int) G w)(ap:kz (mv .u8) P w (.slice I m J) A)(aq:∀f∈A,vL f/\∀i∈f.body,FL Ds i)(bA:m<=3)(hF:EU P e b w)(bB:k<=80)(ar:G+1557906<=90000000):
  Calls prog 91 #[.pointer b,.agg #[.slice I m J]] w (qg e b (k:Int) (G+1557906) w):=by
 have aK:=X ap.len.1;have bC:=ao.lt;have aL:=aI;have au:=aJ;have aM:=ap;have aN:=X aq;have K:=hF;have r:=Ba w<|oe I m J;have aO:=(ao.ku r)
 have aP:=(kY.old (b:=b) (show e<=w from Y) r)
 have aQ:=X<|QT w<|oe I m J
 clear aq
 go_enter func91,ntmps91
 go_upto_region 1 with fail;generalize w.alloc (oe I m J)=bD at*;have aR:=kr aQ.o 0;go_wp21;clear aR;go_loopw [9] (λab wr=>∃l j:Nat,l<=m/\j=G+l*519302/\ab=l/\oH e b (k:Int) j wr/\kY e b w wr) (λab _=>m-(intOf ab).toNat)
 .exact⟨0,G,Q1 _,Us,Z,aO,aP⟩
 obtain⟨l,j,bE,av,rfl,B,C⟩:=hrel;have bF:=B.lt;have ac:=X av;have bG:j<=90000000:=Y;clear av;by_cases bH:l<m
 .obtain⟨f,ad⟩:∃f,A[l]?=some f:=Gx<|W aK.o;obtain⟨bI,bJ,bK,rfl,bL,aS,Q⟩:=(aM.ku (mv.ok .u8)<|K.eq C).ll (mv.ok .u8) l f ad;obtain⟨bM,bN,rfl,ae,af⟩:=aS;obtain⟨D,E,rfl,_⟩:=ae.form;obtain⟨L,M,rfl,_⟩:=af.form;have ag:=Q 0 _ Z;have aw:=Q 1 _ Z;have ax:=Q 2 _ Z;rw[Q3]at ag;have⟨N,ay⟩:=aN.o f<|QV ad;have aT:=X ay;have⟨s,az⟩:=Xq f.params.length;have⟨F,aA⟩:=Xq f.body.length;have bO:s<=2:=W N.Hv;have aU:F<=12:=W N.C9;rw[<-az]at ae aw;rw[<-aA]at af ax;have aB:(⟨f.name.toArray⟩:ByteArray).size<=12:=(by rw[oB];exact nK N.name);have⟨R,aC⟩:=Xq f.name;rw[<-aC]at ag aB;obtain⟨bP,bQ⟩:=nL l m;clear Q ad ay az aA aC;have r:=Ba wr<|.cells (hR R D s E L F M) 111;have aV:=(B.ku r)
  have aD:=(C.T<|kY.old (b:=b) (show e<=wr from Y) r)
  have aW:=(ae.ku kO.ok λn t=>r.B n<|(K.to C).lt n t)
  have aX:=(af.ku (kR.ok .u8 _) λn t=>r.B n<|(K.to C).lt n t)
  have S:=X<|QT wr<|.cells (hR R D s E L F M) 111;have T:(wr.alloc<|.cells (hR R D s E L F M) 111).heap.size=wr+1:=Us;have aY:=X T;clear T;have bR:j+519302<=90000000:=W ac.o;go_upto_region 4 with fail;have T:=aY.o;have⟨u,aE⟩:=Xq wr.heap.size;rw[<-aE]at S T⊢;generalize wr.alloc (.cells (hR R D s E L F M) 111)=d at*;have aF:u<d:=Y;have aZ:u≠b:=Y;have bS:b<d:=Y;have ah:=(K.to aD)
  clear ag aw ax aE B C;refine ET 7 (λba=>cond ba (λc=>oH e b ((k:Nat):Int) (j+1) c/\kY e b d c) λc=>Below d d c) (mU [(·=.pointer b),(·=.pointer u),Tr,(Pp u 1),(·=.slice D s E),Tr,Tr,Tr]) [(2,pr),(5,wi),(6,pe d)] ((Below.refl _ _).drew) ⟨?_,?_,?_,?_,?_,?_,?_,?_,trivial⟩ ?_;exact .f 0;exact .f 5;intro U w a V q x aa;replace a:(λc=>Below d d c) w:=a;exact .l 14 (q 1 _ Z Z) (kB ((a.B u aF).T S.o) 0 _ Z) ⟨trivial,a,Qc ⟨_,Z,aB⟩<|Qa⟩;exact .f 5;intro U w a V q x aa;replace a:(λc=>Below d d c) w:=a;exact .l 16 (q 3 _ Z Z) (kB ((a.B u aF).T S.o) 1 _ Z) ⟨Z,a,Qa⟩;intro U w a V q x aa;have bT:=Sv 17 q 4;replace a:(λc=>Below d d c) w:=a;have bU:=a.size;refine .c (MD P w D s E f.params (aW.ku kO.ok λn t=>a.B n<|ah.lt n t) (λc y=>W<|nK<|N.params c y) Y λn t=>W<|ah.lt n t) ?_;rintro ai bb ⟨i,rfl,bc,bd⟩;exact⟨_,Z,⟨trivial,a.T<|bd.M a.size,Qb<|Qc ⟨_,Z,bc⟩<|Qb<|Qe⟩⟩;intro U w a V q x aa;obtain⟨be,bf,bV⟩:=lg x 0;have bW:=Sl 15 bf;obtain⟨bg,bh,bX⟩:=lg x 1;have bY:=Sl 18 bh;replace a:(λc=>Below d d c) w:=a;have aG:=a.size;exact .q (g:=⟨trivial,a.alloc a.size _,Q2<|Qc ⟨_,[⟨#[111,110,32]⟩,be,⟨#[40]⟩,bg,⟨#[41,32,123]⟩],Z,⟨aG,Us⟩,Z,by intro c y;simp only[Rq,Rk,RQ]at y;rcases y with rfl|rfl|rfl|rfl|rfl<;>first|omega|decide,QT _ _⟩<|Qe⟩);intro U w a V q x aa;have bZ:=Sv 13 q 0;obtain⟨p,v,bi,bj,bk,bl,bm⟩:=lg x 2;have ca:=Sl 19 bi;replace a:(λc=>Below d d c) w:=a;have aG:=a.size;refine .c (qh e b k j 5 w p v bk (aV.ku a) bm (W bj.1) Y Y Y bl) ?_;rintro ai bb ⟨bn,bo,z⟩;subst bn;exact⟨_,Z,⟨trivial,⟨bo,(kY.old Y a).T z⟩,Q2<|Qd (λcb ⟨p,v,ai,aj,B,bp,ar⟩=>⟨p,v,ai,⟨aj.1,QR aj.2 z.size⟩,B,bp,z.ku p _ ar (W aj.1)<|ml Ur⟩)<|Qe⟩⟩;intro cc ak bq br bs;have al:oH e b ((k:Nat):Int) (j+1) ak/\kY e b d ak:=bq;have bt:=al.1;have am:=(al.2)
  clear br bs al;simp only[nE];have⟨⟨_,_,bu⟩,_⟩:=lf<|am.ku u _ S.o aZ<|ml Ur;have an:=(aD.T am)
  go_wp21;refine(Ax Ds P e b k (j+1) ak L F M f.body (aL.wr an au) au bt (aX.ku (kR.ok .u8 _)<|ah.eq am) (λi A=>⟨N.body i A,aT.o i A⟩) aU (K.to an) (by show k+2*4<=90;omega)<|by rw[Ig];omega).M ?_;rintro cd bv ⟨rfl,aH,z⟩;have bw:=(an.T z)
  rw[Ig]at aH;clear bu;go_wp21;refine(mK e b k (j+1+519300) bv [⟨#[125]⟩] aH Y Y Us<|by intro c y;simp only[Rq,Rk,RQ]at y;rcases y with rfl<;>first|omega|decide).M ?_;rintro ce cf ⟨rfl,bx,z⟩;have bz:=(bw.T z)
  go_wp21;go_roundw
  .exact⟨l+1,j+519302,Y,W ac.o,Uv,bx,bz⟩
  simp[intOf];omega
 obtain rfl:m=l:=Y;go_wp21
 go_end0
 exact⟨Z,B.up<|W ac.o,C⟩
def D7(aw)(f b M A:Nat)(w an)(F ao:Nat)(ap)(J aq:Nat)(d)(bT:lY w)(bU:LL f)(bl:oH f b (M:Int) A w)(bm:kz (og .u8) aw w (.slice an F ao) d.vars)(ae:kz (nu .u8) aw w (.slice ap J aq) d.lH)(ax:Br d)(bV:LM d)(hF:EU aw f b w)(da:M<=70)(aD:A+3115830<=90000000):
  Calls prog 48 #[.pointer b,.agg<|hR d.name an F ao ap J aq] w (qg f b (M:Int) (A+3115830) w):=by
 have aE:=bl.lt;have bW:=bT;have ay:=bU;have bX:=bl;have aQ:=hF;have bY:=bm;have bZ:=ae;have bn:=bm.len;have bo:=ae.len;have ca:=X bn.1;have cb:=X bo.1;have db:F<=5:=W ax.FO
 have dc:J<=2:=W ax.v2
 have cc:=ax.vars;have cd:=ax.lH;have bp:=bV;have ce:(⟨d.name.toArray⟩:ByteArray).size<=12:=by rw[oB];exact nK ax.name
 have⟨az,bq⟩:=Xq d.name;rw[<-bq]at ce⊢;have⟨p,br⟩:=Xq<|M+1;have⟨ar,bs⟩:=Xq<|p+1;have⟨dd,de⟩:=Ih M p br Y;have⟨df,dg⟩:=Ih p ar bs Y;have dh:p<=71:=Y
 have di:ar<=72:=Y
 clear ae bn bo bq br bs
 go_enter func48,ntmps48
 have q:=Ba w<|.cells (hR az an F ao ap J aq) 98;have cf:=(bX.ku q)
 have aA:=(kY.old (b:=b) (show f<=w from Y) q)
 have aF:=X<|QT w<|.cells (hR az an F ao ap J aq) 98;have j:(w.alloc<|.cells (hR az an F ao ap J aq) 98).heap.size=w+1:=Us
 have cg:=X j;clear j;go_upto_region 1 with fail;have j:=cg.o;have⟨aG,v⟩:=Xq w.heap.size;rw[<-v]at aF j⊢;generalize w.alloc (.cells (hR az an F ao ap J aq) 98)=aH at*;have dj:aG<aH:=Y
 have bt:aG≠b:=Y
 clear v j;have bu:=(bW.wr aA ay)
 have ch:=(bY.ku (og.ok .u8)<|aQ.eq aA)
 have ci:=(bZ.ku (nu.ok .u8)<|aQ.eq aA)
 have au:=(aQ.to aA)
 have af:=kr aF.o 0;go_wp21;refine(mK f b M A aH [⟨#[99,111,109,112,111,110,101,110,116,32]⟩,⟨az.toArray⟩,⟨#[32,123]⟩] cf Y Y Us<|by intro d s;simp only[Rq,Rk,RQ]at s;rcases s with rfl|rfl|rfl<;>first|omega|decide).M ?_;rintro aI bv ⟨rfl,bw,r⟩;have cj:=(r)
 clear af;go_upto_region 2 with fail
 have ab:=bw.ind (m:=(p:Int));have bx:=(cj.T<|kY.set (b:=b) (i:=2) (w:=bv) (u:=.int .i64 (p:Int)) aE.1)
 have⟨ag,ah⟩:=bw.cell;go_upto_region 3 with fail;generalize(bv.setCell ⟨b,2,none⟩<|.int .i64 (p:Int))=dk at*
 clear ag ah;have⟨⟨aR,aS,aI⟩,_⟩:=lf<|bx.ku aG _ aF.o bt<|ml Ur
 go_wp21;clear aR aS aI;go_loopw [23] (λi wr=>∃e:Nat,e<=F/\i=e/\oH f b (p:Int) (A+1+e) wr/\kY f b aH wr) (λi _=>F-(intOf i).toNat)
 .exact⟨0,Q1 _,Z,ab,bx⟩
 obtain⟨e,ck,rfl,x,C⟩:=hrel;have bz:=x.lt;skip;by_cases bA:e<F
 .obtain⟨k,l⟩:∃k,d.vars[e]?=some k:=Gx<|W ca.o;obtain⟨cl,cm,bB,rfl,cn,aT,ai⟩:=(ch.ku (og.ok .u8)<|au.eq C).ll (og.ok .u8) e k l;have co:bB=[tx k.name,.int .u8 k.ty,.int .i64 k.init]:=aT;subst co;have K:=ai 0 _ Z;have aJ:=ai 1 _ Z;have aK:=ai 2 _ Z;rw[Q3]at K;have bC:=cc k<|QV l;have⟨bD,bE⟩:=bp.vars k<|QV l;have aU:(⟨k.name.toArray⟩:ByteArray).size<=12:=(by rw[oB];exact nK bC.name);have bF:k.ty=1\/k.ty=2\/k.ty=3:=(by rcases bC.form with h|h|h;exact .inl h.1;exact .inr<|.inl h.1;exact .inr<|.inr h.1);have⟨G,bG⟩:=Xq k.name;have⟨dl,bH⟩:=Xq k.ty;have⟨D,bI⟩:=Xq k.init;rw[<-bG]at K aU;rw[<-bH]at aJ bF;rw[<-bI]at aK bD bE;obtain⟨cp,cq⟩:=nL e F;have cr:A+1+e<=90000000:=Y;clear ai l bG bH bI;rcases bF with rfl|rfl|rfl
  .have q:=Ba wr<|.cells #[tx G,.int .u8 1,D] 101;have U:=(x.ku q)
   have L:=(C.T<|kY.old (b:=b) (show f<=wr from Y) q)
   have B:=X<|QT wr<|.cells #[tx G,.int .u8 1,D] 101;have av:=(kY.old (b:=b) (show f<=wr from Y) q)
   have j:(wr.alloc<|.cells #[tx G,.int .u8 1,D] 101).heap.size=wr+1:=Us;have V:=X j;clear j;go_upto_region 8 with fail;have j:=V.o;have⟨n,v⟩:=Xq wr.heap.size;rw[<-v]at B j⊢;generalize wr.alloc (.cells #[tx G,.int .u8 1,D] 101)=c at*;have ac:n<c:=Y;have aB:n≠b:=Y;have aL:b<c:=Y;clear v j;clear K aJ aK;refine ET 7 (λaV=>cond aV (λd=>oH f b ((p:Nat):Int) (A+1+e+1) d/\kY f b c d) λd=>Below c c d) (mU [(·=.pointer b),(·=.pointer n),Tr,(Pp n 2),(·=D),Tr,Tr,Tr]) [(2,pr),(5,λk w=>∃t:ByteArray,k=.string t/\t.size<=20),(6,pe c)] ((Below.refl _ _).drew) ⟨?_,?_,?_,?_,?_,?_,?_,?_,trivial⟩ ?_;exact .f 0;exact .f 5;intro N w a O l z P;replace a:(λd=>Below c c d) w:=a;exact .l 32 (l 1 _ Z Z) (kB ((a.B n ac).T B.o) 0 _ Z) ⟨trivial,a,Qc ⟨_,Z,aU⟩<|Qa⟩;exact .f 5;intro N w a O l z P;replace a:(λd=>Below c c d) w:=a;exact .l 34 (l 3 _ Z Z) (kB ((a.B n ac).T B.o) 2 _ Z) ⟨Z,a,Qa⟩;intro N w a O l z P;have dm:=Sv 35 l 4;replace a:(λd=>Below c c d) w:=a;refine .c (KN D bD bE w) ?_;rintro ad aW ⟨t,rfl,aX,aY⟩;exact⟨_,Z,⟨trivial,a.T<|aY.M a.size,Qb<|Qc ⟨_,Z,aX⟩<|Qb<|Qe⟩⟩;intro N w a O l z P;obtain⟨cs,ct,dn⟩:=lg z 0;have dp:=Sl 33 ct;obtain⟨cu,cv,dq⟩:=lg z 1;have dr:=Sl 36 cv;replace a:(λd=>Below c c d) w:=a;have aC:=a.size;exact .q (g:=⟨trivial,a.alloc a.size _,Q2<|Qc ⟨_,[⟨#[118,97,114,32]⟩,cs,⟨#[58,32,105,110,116,32,61,32]⟩,cu,⟨#[59]⟩],Z,⟨aC,Us⟩,Z,by intro d s;simp only[Rq,Rk,RQ]at s;rcases s with rfl|rfl|rfl|rfl|rfl<;>first|omega|decide,QT _ _⟩<|Qe⟩);intro N w a O l z P;have ds:=Sv 31 l 0;obtain⟨y,E,cw,aZ,ba,aM,bb⟩:=lg z 2;have dt:=Sl 37 cw;replace a:(λd=>Below c c d) w:=a;have aC:=a.size;refine .c (qh f b p (A+1+e) 5 w y E ba (U.ku a) bb (W aZ.1) Y Y Y aM) ?_;rintro ad aW ⟨bc,ab,r⟩;subst bc;exact⟨_,Z,⟨trivial,⟨ab,(kY.old Y a).T r⟩,Q2<|Qd (λu ⟨y,E,ad,aj,x,ae,aD⟩=>⟨y,E,ad,⟨aj.1,QR aj.2 r.size⟩,x,ae,r.ku y _ aD (W aj.1)<|ml Ur⟩)<|Qe⟩⟩;intro cx Q bd be bf;have ak:oH f b ((p:Nat):Int) (A+1+e+1) Q/\kY f b c Q:=bd;have aa:=ak.1;have al:=(L.T ak.2)
   clear be bf ak;simp only[nE];go_wp21;go_roundw
   .exact⟨e+1,Y,Uv,aa,al⟩
   simp[intOf];omega
  .have q:=Ba wr<|.cells #[tx G,.int .u8 2,D] 101;have U:=(x.ku q)
   have L:=(C.T<|kY.old (b:=b) (show f<=wr from Y) q)
   have B:=X<|QT wr<|.cells #[tx G,.int .u8 2,D] 101;have av:=(kY.old (b:=b) (show f<=wr from Y) q)
   have j:(wr.alloc<|.cells #[tx G,.int .u8 2,D] 101).heap.size=wr+1:=Us;have V:=X j;clear j;go_upto_region 10 with fail;have j:=V.o;have⟨n,v⟩:=Xq wr.heap.size;rw[<-v]at B j⊢;generalize wr.alloc (.cells #[tx G,.int .u8 2,D] 101)=c at*;have ac:n<c:=Y;have aB:n≠b:=Y;have aL:b<c:=Y;clear v j;clear K aJ aK;refine ET 8 (λaV=>cond aV (λd=>oH f b ((p:Nat):Int) (A+1+e+1) d/\kY f b c d) λd=>Below c c d) (mU [(·=.pointer b),(·=.pointer n),Tr,(Pp n 2),(·=D),Tr,Tr,Tr,Tr]) [(2,pr),(5,λk w=>∃cy:Bool,k=.bool cy),(6,λk w=>∃t:ByteArray,k=.string t/\t.size<=5),(7,pe c)] ((Below.refl _ _).drew) ⟨?_,?_,?_,?_,?_,?_,?_,?_,?_,trivial⟩ ?_;exact .f 0;exact .f 5;intro N w a O l z P;replace a:(λd=>Below c c d) w:=a;exact .l 42 (l 1 _ Z Z) (kB ((a.B n ac).T B.o) 0 _ Z) ⟨trivial,a,Qc ⟨_,Z,aU⟩<|Qa⟩;exact .f 5;intro N w a O l z P;replace a:(λd=>Below c c d) w:=a;exact .l 44 (l 3 _ Z Z) (kB ((a.B n ac).T B.o) 2 _ Z) ⟨Z,a,Qa⟩;intro N w a O l z P;have du:=Sv 45 l 4;replace a:(λd=>Below c c d) w:=a;exact .q (g:=⟨trivial,a,Qb<|Qc ⟨_,Z⟩<|Qa⟩);intro N w a O l z P;obtain⟨cz,cA⟩:=lg z 1;have dv:=Sl 46 cA;replace a:(λd=>Below c c d) w:=a;refine .c (BW cz w) ?_;rintro ad aW ⟨t,rfl,aX,aY⟩;exact⟨_,Z,⟨trivial,a.T<|aY.M a.size,Q2<|Qc ⟨_,Z,aX⟩<|Qb<|Qe⟩⟩;intro N w a O l z P;obtain⟨cB,cC,dw⟩:=lg z 0;have dx:=Sl 43 cC;obtain⟨cD,cE,dy⟩:=lg z 2;have dz:=Sl 47 cE;replace a:(λd=>Below c c d) w:=a;have aC:=a.size;exact .q (g:=⟨trivial,a.alloc a.size _,Q2<|Qb<|Qc ⟨_,[⟨#[118,97,114,32]⟩,cB,⟨#[58,32,98,111,111,108,32,61,32]⟩,cD,⟨#[59]⟩],Z,⟨aC,Us⟩,Z,by intro d s;simp only[Rq,Rk,RQ]at s;rcases s with rfl|rfl|rfl|rfl|rfl<;>first|omega|decide,QT _ _⟩<|Qe⟩);intro N w a O l z P;have dA:=Sv 41 l 0;obtain⟨y,E,cF,aZ,ba,aM,bb⟩:=lg z 3;have dB:=Sl 48 cF;replace a:(λd=>Below c c d) w:=a;have aC:=a.size;refine .c (qh f b p (A+1+e) 5 w y E ba (U.ku a) bb (W aZ.1) Y Y Y aM) ?_;rintro ad aW ⟨bc,ab,r⟩;subst bc;exact⟨_,Z,⟨trivial,⟨ab,(kY.old Y a).T r⟩,Q2<|Qb<|Qd (λu ⟨y,E,ad,aj,x,ae,aD⟩=>⟨y,E,ad,⟨aj.1,QR aj.2 r.size⟩,x,ae,r.ku y _ aD (W aj.1)<|ml Ur⟩)<|Qe⟩⟩;intro cx Q bd be bf;have ak:oH f b ((p:Nat):Int) (A+1+e+1) Q/\kY f b c Q:=bd;have aa:=ak.1;have al:=(L.T ak.2)
   clear be bf ak;simp only[nE];go_wp21;go_roundw
   .exact⟨e+1,Y,Uv,aa,al⟩
   simp[intOf];omega
  have q:=Ba wr<|.cells #[tx G,.int .u8 3,D] 101;have U:=(x.ku q)
  have L:=(C.T<|kY.old (b:=b) (show f<=wr from Y) q)
  have B:=X<|QT wr<|.cells #[tx G,.int .u8 3,D] 101;have av:=(kY.old (b:=b) (show f<=wr from Y) q)
  have j:(wr.alloc<|.cells #[tx G,.int .u8 3,D] 101).heap.size=wr+1:=Us;have V:=X j;clear j;go_upto_region 12 with fail;have j:=V.o;have⟨n,v⟩:=Xq wr.heap.size;rw[<-v]at B j⊢;generalize wr.alloc (.cells #[tx G,.int .u8 3,D] 101)=c at*;have ac:n<c:=Y;have aB:n≠b:=Y;have aL:b<c:=Y;clear v j;clear K aJ aK;have af:=kr B.o 0;go_wp21;refine(mK f b p (A+1+e) c [⟨#[118,97,114,32]⟩,⟨G.toArray⟩,⟨#[58,32,116,97,98,108,101,59]⟩] U Y Y Us<|by intro d s;simp only[Rq,Rk,RQ]at s;rcases s with rfl|rfl|rfl<;>first|omega|decide).M ?_;rintro cG Q ⟨rfl,aa,r⟩;have al:=(L.T r)
  clear af;go_wp21;go_roundw
  .exact⟨e+1,Y,Uv,aa,al⟩
  simp[intOf];omega
 obtain rfl:F=e:=Y;obtain⟨dC,rfl⟩:=Xq wr;have⟨⟨aR,aS,aI⟩,_⟩:=lf<|C.ku aG _ aF.o bt<|ml Ur;go_wp21;clear aR aS aI;go_loopw [61] (λi wr=>∃e I:Nat,e<=J/\I=A+1+F+e*1557908/\i=e/\oH f b (p:Int) I wr/\kY f b aH wr) (λi _=>J-(intOf i).toNat)
 .exact⟨0,A+1+F,Q1 _,Us,Z,x,C⟩
 clear bz bA;obtain⟨e,I,ck,bJ,rfl,x,C⟩:=hrel;have x:=x;have C:=C;have bz:=x.lt;have aN:=X bJ;have cr:I+1<=90000000:=Y;clear bJ;by_cases bA:e<J
 .obtain⟨am,aO⟩:∃h,d.lH[e]?=some h:=Gx<|W cb.o;obtain⟨cl,cm,bB,rfl,cn,aT,ai⟩:=(ci.ku (nu.ok .u8)<|au.eq C).ll (nu.ok .u8) e am aO;obtain⟨dD,rfl,aP⟩:=aT;obtain⟨R,S,rfl,_⟩:=aP.form;have K:=ai 0 _ Z;rw[Q3,RA]at K;have⟨bg,bK⟩:=cd am<|QV aO;have bL:∀h∈am,vL h/\∀t∈h.body,FL Ds t:=λh ab=>⟨bK h ab,bp.lH am (QV aO) h ab⟩
  have⟨T,bM⟩:=Xq am.length;rw[<-bM]at aP K bg;obtain⟨cp,cq⟩:=nL e J;have dE:I+1557908<=90000000:=W aN.o;clear ai aO bK bM;by_cases cH:e=0
  .have bh:(e:Int)=0:=Y;rw[cH,Q3]at K;have bi:=(au.to C)
   have q:=Ba wr<|oe R T S;have U:=(x.ku q)
   have L:=(C.T<|kY.old (b:=b) (show f<=wr from Y) q)
   have B:=X<|QT wr<|oe R T S;have av:=(kY.old (b:=b) (show f<=wr from Y) q)
   have j:(wr.alloc<|oe R T S).heap.size=wr+1:=Us;have V:=X j;clear j;go_upto_region 18 with fail;have j:=V.o;have⟨n,v⟩:=Xq wr.heap.size;rw[<-v]at B j⊢;generalize wr.alloc (oe R T S)=c at*;have ac:n<c:=Y;have aB:n≠b:=Y;have aL:b<c:=Y;clear v j;clear K;have af:=kr B.o 0;go_wp21;apply(tM aw f b p I c R T S am (bu.wr L ay) ay U (aP.ku (mv.ok .u8)<|bi.eq av) bL bg (au.to L) Y Y).M;rintro cG Q ⟨rfl,aa,r⟩;have al:=(L.T r)
   clear af bh;go_wp21;go_roundw
   .exact⟨e+1,I+1557908,Y,W aN.o,Uv,aa.up Y,al⟩
   simp[intOf];omega
  have bh:((e:Int)==0)=false:=(by rw[QY];omega);have cI:IntKind.i64.wrap ((e:Int)+1)=((e+1:Nat):Int):=Uu;have bi:=(au.to C)
  have q:=Ba wr<|oe R T S;have U:=(x.ku q)
  have L:=(C.T<|kY.old (b:=b) (show f<=wr from Y) q)
  have B:=X<|QT wr<|oe R T S;have av:=(kY.old (b:=b) (show f<=wr from Y) q)
  have j:(wr.alloc<|oe R T S).heap.size=wr+1:=Us;have V:=X j;clear j;go_upto_region 19 with fail;have j:=V.o;have⟨n,v⟩:=Xq wr.heap.size;rw[<-v]at B j⊢;generalize wr.alloc (oe R T S)=c at*;have ac:n<c:=Y;have aB:n≠b:=Y;have aL:b<c:=Y;clear v j;clear K bh;go_wp21;apply(BX (e+1) Y c).M;rintro ad Q ⟨cJ,rfl,dF,bN⟩;have aa:=(U.ku bN)
  have cK:kY f b c Q:=kY.old (b:=b) Y bN;go_wp21;refine(mK f b p I Q [⟨#[118,101,114,115,105,111,110,32]⟩,cJ,⟨#[32,123]⟩] aa Y Y Us<|by intro d s;simp only[Rq,Rk,RQ]at s;rcases s with rfl|rfl|rfl<;>first|omega|decide).M ?_;rintro dG bO ⟨rfl,bP,r⟩;have cL:=(cK.T r)
  clear cI;go_upto_region 20 with fail;have cM:=bP.ind (m:=(ar:Int));have bj:=(cL.T<|kY.set (b:=b) (i:=2) (w:=bO) (u:=.int .i64 (ar:Int)) aE.1)
  have⟨ag,ah⟩:=bP.cell;go_upto_region 21 with fail;generalize(bO.setCell ⟨b,2,none⟩<|.int .i64 (ar:Int))=cN at*;clear ag ah;have af:=kB (bj.ku n _ B.o aB<|ml Ur) 0 _ Z;have bk:=(L.T bj)
  have cO:=(av.T bj)
  go_wp21;apply(tM aw f b ar (I+1) cN R T S am (bu.wr bk ay) ay cM (aP.ku (mv.ok .u8)<|bi.eq cO) bL bg (au.to bk) Y Y).M;rintro dH bQ ⟨rfl,bR,r⟩;have bS:=(bk.T r)
  have aM:=bS.size;clear af;go_upto_region 22 with fail;have cP:=bR.ind (m:=(p:Int));have cQ:=(bS.T<|kY.set (b:=b) (i:=2) (w:=bQ) (u:=.int .i64 (p:Int)) aE.1)
  have⟨ag,ah⟩:=bR.cell;go_upto_region 23 with fail;generalize(bQ.setCell ⟨b,2,none⟩<|.int .i64 (p:Int))=cR at*;clear ag ah;go_wp21;refine(mK f b p (I+1+1557906) cR [⟨#[125]⟩] cP Y Y Us<|by intro d s;simp only[Rq,Rk,RQ]at s;rcases s with rfl<;>first|omega|decide).M ?_;rintro dI dJ ⟨rfl,cS,r⟩;have cT:=(cQ.T r)
  go_wp21;go_roundw
  .exact⟨e+1,I+1557908,Y,W aN.o,Uv,cS,cT⟩
  simp[intOf];omega
 obtain rfl:J=e:=Y;have cU:I+1<=A+3115830:=W aN.o;go_upto_region 25 with fail;have cV:=x.ind (m:=(M:Int));have cW:=(C.T<|kY.set (b:=b) (i:=2) (w:=wr) (u:=.int .i64 (M:Int)) aE.1)
 have⟨ag,ah⟩:=x.cell;go_upto_region 26 with fail;generalize(wr.setCell ⟨b,2,none⟩<|.int .i64 (M:Int))=cX at*;clear ag ah;go_wp21;refine(mK f b M I cX [⟨#[125]⟩] cV Y Y Us<|by intro d s;simp only[Rq,Rk,RQ]at s;rcases s with rfl<;>first|omega|decide).M ?_;rintro dK dL ⟨rfl,cY,r⟩;have cZ:=(cW.T r)
 go_wp21
 go_end0
 exact⟨Z,cY.up cU,aA.T cZ⟩
def GF(aH w ab)(p ac:Nat)(ad)(y ae:Nat)(af)(A ag:Nat)(c)(aW:lY w)(n:pX aH w ab p ac ad y ae af A ag c)(an:mo c)(bw:∀cd∈c.kF,LM cd):
  Calls prog 22 #[.agg<|mc c.name ab p ac ad y ae af A ag] w (qf 1900000000000 w):=by
 have aX:=aW.low;have aY:=X an;have ce:=X bw;have cf:=X n.kN.len.1;have cg:=X n.mj.len.1;have ch:=X n.kF.len.1;have cU:p<=2:=Up an.Hw n.kN.len.1
 have cV:y<=9:=Up an.Hx n.mj.len.1
 have cW:A<=3:=Up an.c3 n.kF.len.1
 have ci:(⟨c.name.toArray⟩:ByteArray).size<=12:=by rw[oB];exact nK an.name
 have ao:=Ba w<|.cells (mc c.name ab p ac ad y ae af A ag) 52;have aI:=X<|QT w<|.cells (mc c.name ab p ac ad y ae af A ag) 52;have bx:=(sW aH _ ab p ac ad y ae af A ag c (aW.kv ao aX) (n.kv ao) an)
 have bz:=(n.kv ao)
 have aZ:=(aW.kv ao aX)
 have aJ:=X<|show(w.alloc<|.cells (mc c.name ab p ac ad y ae af A ag) 52).heap.size=w+1 from Us;have⟨bA,bB⟩:=Xq c.name;rw[<-bB]at ci ao aI bx bz aZ aJ⊢;clear bw bB aX
 go_enter func22,ntmps22
 go_upto_region 1 with fail;generalize w.alloc (.cells (mc bA ab p ac ad y ae af A ag) 52)=cj at*;have⟨T,ba⟩:=Xq w.heap.size;rw[<-ba]at aI aJ⊢;have ck:=X ba;have cl:T<cj:=W aJ.o
 clear ba;have⟨⟨K,L,M,N⟩,_⟩:=rE aI.o;go_wp21;apply bx.M;rintro O ap ⟨rfl,au⟩;have cX:=au.size;have cm:=X<|(au.B T cl).T aI.o;have bC:=(bz.kv au)
 have bb:=(aZ.kv au aZ.low)
 have cn:T<ap:=Y
 clear K L M N;have⟨b,P⟩:=Xq ap.heap.size;have aK:=Ba ap wv;have aL:=X<|(aK.B T cn).T cm.o;have bc:=(bC.kv aK)
 have co:=(bb.kv aK bb.low)
 have bD:LL b:=by rw[P];exact bb.low
 have av:EU aH b b<|ap.alloc wv:=λbd cp=>by have cY:=bC.lJ bd cp;exact⟨Uw,Y,.inl Y⟩
 have cq:oH b b ((0:Nat):Int) 0<|ap.alloc wv:=⟨[],.inl ⟨QZ _,_,by rw[P];exact QT _ _,by simpa[Lib.byteCells]using SX _ _ _ _⟩,Us⟩
 go_upto_region 4 with fail;rw[<-P];generalize ap.alloc wv=aM at*;have be:T<b:=Y
 have cr:=X P;clear P;obtain⟨B,bf⟩:∃bd:Nat,bd=1:=⟨_,Z⟩
 have cZ:IntKind.i64.wrap ((B:Int)-1)=0:=by rw[bf];decide
 have da:B<=1:=Y
 have cs:=X bf;clear bf;have bE:b<=b:=QZ b;have⟨⟨K,L,M,N⟩,_⟩:=rE aL.o;go_wp21;refine(mK b b 0 0 aM [⟨#[102,108,101,101,116,32]⟩,⟨bA.toArray⟩,⟨#[32,123]⟩] cq Y Y Us<|by intro c E;simp only[Rq,Rk,RQ]at E;rcases E with rfl|rfl|rfl<;>first|omega|decide).M ?_;rintro db bg ⟨rfl,bF,C⟩;have ct:=(C)
 clear K L M N;go_upto_region 5 with fail
 have aw:=bF.ind (m:=(1:Int));have ah:oH b b (B:Int) (0+1)<|bg.setCell ⟨b,2,none⟩<|.int .i64 (1:Int):=by rw[cs.o];exact aw
 have U:=(ct.T<|kY.set (b:=b) (i:=2) (w:=bg) (u:=.int .i64 (1:Int)) bE)
 have⟨bh,bi⟩:=bF.cell;go_upto_region 6 with fail;generalize(bg.setCell ⟨b,2,none⟩<|.int .i64 (1:Int))=ai at*
 clear bh bi;have⟨⟨K,L,M,N⟩,_⟩:=rE<|(U.kv.B T be).T aL.o
 go_wp21;clear K L M N;go_loopw [30] (λi wr=>∃f:Nat,f<=p/\i=f/\oH b b (B:Int) (0+1+f) wr/\kY b b aM wr) (λi _=>p-(intOf i).toNat)
 .exact⟨0,Q1 _,Z,ah,U⟩
 obtain⟨f,bG,rfl,l,q⟩:=hrel;have aN:=l.lt;skip;by_cases aO:f<p
 .obtain⟨d,j⟩:∃d,c.kN[f]?=some d:=Gx<|W cf.o;obtain⟨bH,bI,aP,rfl,bJ,ax,D⟩:=(bc.kN.ku mH.ok<|av.eq q).ll mH.ok f d j;have bj:aP=[tx d.name,.bool d.init]:=ax;subst bj;have F:=D 0 _ Z;have aj:=D 1 _ Z;rw[Q3]at F;have bK:(⟨d.name.toArray⟩:ByteArray).size<=12:=(by rw[oB];exact nK<|aY.o.kN d<|QV j);have⟨Q,aq⟩:=Xq d.name;have⟨ar,bL⟩:=Xq d.init;rw[<-aq]at F bK;rw[<-bL]at aj;obtain⟨bM,bN⟩:=nL f p;clear D j aq bL;have z:=Ba wr<|vl Q ar;have ay:=(l.ku z)
  have ak:=(q.T<|kY.old (b:=b) (show b<=wr from Y) z)
  have G:=X<|QT wr<|vl Q ar;have aQ:=(kY.old (b:=b) (show b<=wr from Y) z)
  have r:(wr.alloc<|vl Q ar).heap.size=wr+1:=Us;have az:=X r;clear r;go_upto_region 9 with fail;have r:=az.o;have⟨v,V⟩:=Xq wr.heap.size;rw[<-V]at G r⊢;generalize wr.alloc (vl Q ar)=e at*;have al:v<e:=Y;have bO:b<e:=Y;clear V r;clear F aj;refine ET 7 (λbk=>cond bk (λc=>oH b b ((B:Nat):Int) (0+1+f+1) c/\kY b b e c) λc=>Below e e c) (mU [(·=.pointer b),(·=.pointer v),Tr,(Pp v 1),(·=.bool ar),Tr,Tr,Tr]) [(2,pr),(5,λd w=>∃k:ByteArray,d=.string k/\k.size<=5),(6,pe e)] ((Below.refl _ _).drew) ⟨?_,?_,?_,?_,?_,?_,?_,?_,trivial⟩ ?_;exact .f 3;exact .f 5;intro I w a n j t J;replace a:(λc=>Below e e c) w:=a;exact .l 35 (j 1 _ Z Z) (kB ((a.B v al).T G.o) 0 _ Z) ⟨trivial,a,Qc ⟨_,Z,bK⟩<|Qa⟩;exact .f 5;intro I w a n j t J;replace a:(λc=>Below e e c) w:=a;exact .l 37 (j 3 _ Z Z) (kB ((a.B v al).T G.o) 1 _ Z) ⟨Z,a,Qa⟩;intro I w a n j t J;have dc:=Sv 38 j 4;replace a:(λc=>Below e e c) w:=a;refine .c (BW ar w) ?_;rintro O bl ⟨k,rfl,aR,P⟩;exact⟨_,Z,⟨trivial,a.T<|P.M a.size,Qb<|Qc ⟨_,Z,aR⟩<|Qb<|Qe⟩⟩;intro I w a n j t J;obtain⟨cu,cv,dd⟩:=lg t 0;have de:=Sl 36 cv;obtain⟨cw,cx,df⟩:=lg t 1;have dg:=Sl 39 cx;replace a:(λc=>Below e e c) w:=a;have aA:=a.size;exact .q (g:=⟨trivial,a.alloc a.size _,Q2<|Qc ⟨_,[⟨#[102,108,97,103,32]⟩,cu,⟨#[32,61,32]⟩,cw,⟨#[59]⟩],Z,⟨aA,Us⟩,Z,by intro c E;simp only[Rq,Rk,RQ]at E;rcases E with rfl|rfl|rfl|rfl|rfl<;>first|omega|decide,QT _ _⟩<|Qe⟩);intro I w a n j t J;have dh:=Sv 34 j 0;obtain⟨s,x,cy,bm,bn,aS,bo⟩:=lg t 2;have di:=Sl 40 cy;replace a:(λc=>Below e e c) w:=a;have aA:=a.size;refine .c (qh b b B (0+1+f) 5 w s x bn (ay.ku a) bo (W bm.1) Y Y Y aS) ?_;rintro O bl ⟨bp,aw,C⟩;subst bp;exact⟨_,Z,⟨trivial,⟨aw,(kY.old Y a).T C⟩,Q2<|Qd (λu ⟨s,x,O,aa,l,bq,br⟩=>⟨s,x,O,⟨aa.1,QR aa.2 C.size⟩,l,bq,C.ku s _ br (W aa.1)<|ml Ur⟩)<|Qe⟩⟩;intro cz ai bs bt bu;have am:oH b b ((B:Nat):Int) (0+1+f+1) ai/\kY b b e ai:=bs;have ah:=am.1;have U:=(ak.T am.2)
  clear bt bu am;simp only[nE];go_wp21;go_roundw
  .exact⟨f+1,Y,Uv,ah,U⟩
  simp[intOf];omega
 obtain rfl:p=f:=Y;obtain⟨dj,rfl⟩:=Xq wr;have⟨⟨K,L,M,N⟩,_⟩:=rE<|(q.kv.B T be).T aL.o;go_wp21;clear K L M N;go_loopw [46] (λi wr=>∃f:Nat,f<=y/\i=f/\oH b b (B:Int) (0+1+p+f) wr/\kY b b aM wr) (λi _=>y-(intOf i).toNat)
 .exact⟨0,Q1 _,Z,l,q⟩
 clear aN aO;obtain⟨f,bG,rfl,l,q⟩:=hrel;have l:=l;have q:=q;have aN:=l.lt;clear l;by_cases aO:f<y
 .obtain⟨d,j⟩:∃d,c.mj[f]?=some d:=Gx<|W cg.o;obtain⟨bH,bI,aP,rfl,bJ,ax,D⟩:=(bc.mj.ku nV.ok<|av.eq q).ll nV.ok f d j;have bj:aP=[tx d.a,tx d.b,.int .i64 d.tF]:=ax;subst bj;have F:=D 0 _ Z;have aj:=D 1 _ Z;have aT:=D 2 _ Z;rw[Q3]at F;have⟨z,bP,cA,cB⟩:=aY.o.mj d<|QV j;have bQ:(⟨d.a.toArray⟩:ByteArray).size<=12:=(by rw[oB];exact nK z);have bR:(⟨d.b.toArray⟩:ByteArray).size<=12:=(by rw[oB];exact nK bP);have⟨aU,bS⟩:=Xq d.a;have⟨aV,bT⟩:=Xq d.b;obtain⟨R,bU⟩:∃R:Nat,d.tF=(R:Int):=⟨d.tF.toNat,Y⟩
  rw[<-bS]at F bQ;rw[<-bT]at aj bR;rw[bU]at aT cA cB;have cC:R<100:=Y;obtain⟨bM,bN⟩:=nL f y;clear D j bS bT bU z bP;have z:=Ba wr<|yW aU aV R;have ay:=(l.ku z)
  have ak:=(q.T<|kY.old (b:=b) (show b<=wr from Y) z)
  have G:=X<|QT wr<|yW aU aV R;have aQ:=(kY.old (b:=b) (show b<=wr from Y) z)
  have r:(wr.alloc<|yW aU aV R).heap.size=wr+1:=Us;have az:=X r;clear r;go_upto_region 14 with fail;have r:=az.o;have⟨v,V⟩:=Xq wr.heap.size;rw[<-V]at G r⊢;generalize wr.alloc (yW aU aV R)=e at*;have al:v<e:=Y;have bO:b<e:=Y;clear V r;clear F aj aT;refine ET 9 (λbk=>cond bk (λc=>oH b b ((B:Nat):Int) (0+1+p+f+1) c/\kY b b e c) λc=>Below e e c) (mU [(·=.pointer b),(·=.pointer v),Tr,(Pp v 1),Tr,(Pp v 2),(·=R),Tr,Tr,Tr]) [(2,pr),(4,pr),(7,λd w=>∃k:ByteArray,d=.string k/\k.size<=20),(8,qe e)] ((Below.refl _ _).drew) ⟨?_,?_,?_,?_,?_,?_,?_,?_,?_,?_,trivial⟩ ?_;exact .f 3;exact .f 7;intro I w a n j t J;replace a:(λc=>Below e e c) w:=a;exact .l 51 (j 1 _ Z Z) (kB ((a.B v al).T G.o) 0 _ Z) ⟨trivial,a,Qc ⟨_,Z,bQ⟩<|Qa⟩;exact .f 7;intro I w a n j t J;replace a:(λc=>Below e e c) w:=a;exact .l 53 (j 3 _ Z Z) (kB ((a.B v al).T G.o) 1 _ Z) ⟨trivial,a,Qb<|Qc ⟨_,Z,bR⟩<|Qa⟩;exact .f 7;intro I w a n j t J;replace a:(λc=>Below e e c) w:=a;exact .l 55 (j 5 _ Z Z) (kB ((a.B v al).T G.o) 2 _ Z) ⟨Z,a,Qa⟩;intro I w a n j t J;have dk:=Sv 56 j 6;replace a:(λc=>Below e e c) w:=a;refine .c (BX R cC w) ?_;rintro O bl ⟨k,rfl,aR,P⟩;exact⟨_,Z,⟨trivial,a.T<|P.M a.size,Q2<|Qc ⟨_,Z,aR⟩<|Qb<|Qe⟩⟩;intro I w a n j t J;obtain⟨cD,cE,dl⟩:=lg t 0;have dm:=Sl 52 cE;obtain⟨cF,cG,dn⟩:=lg t 1;have dp:=Sl 54 cG;obtain⟨cH,cI,dq⟩:=lg t 2;have dr:=Sl 57 cI;replace a:(λc=>Below e e c) w:=a;have aA:=a.size;exact .q (g:=⟨trivial,a.alloc a.size _,Q2<|Qb<|Qc ⟨_,[⟨#[108,105,110,107,32]⟩,cD,⟨#[32,45,62,32]⟩,cF,⟨#[32,108,97,116,101,110,99,121,32]⟩,cH,⟨#[59]⟩],Z,⟨aA,Us⟩,Z,by intro c E;simp only[Rq,Rk,RQ]at E;rcases E with rfl|rfl|rfl|rfl|rfl|rfl|rfl<;>first|omega|decide,QT _ _⟩<|Qe⟩);intro I w a n j t J;have ds:=Sv 50 j 0;obtain⟨s,x,cJ,bm,bn,aS,bo⟩:=lg t 3;have dt:=Sl 58 cJ;replace a:(λc=>Below e e c) w:=a;have aA:=a.size;refine .c (qh b b B (0+1+p+f) 7 w s x bn (ay.ku a) bo (W bm.1) Y Y Y aS) ?_;rintro O bl ⟨bp,aw,C⟩;subst bp;exact⟨_,Z,⟨trivial,⟨aw,(kY.old Y a).T C⟩,Q2<|Qb<|Qd (λu ⟨s,x,O,aa,l,bq,br⟩=>⟨s,x,O,⟨aa.1,QR aa.2 C.size⟩,l,bq,C.ku s _ br (W aa.1)<|ml Ur⟩)<|Qe⟩⟩;intro cz ai bs bt bu;have am:oH b b ((B:Nat):Int) (0+1+p+f+1) ai/\kY b b e ai:=bs;have ah:=am.1;have U:=(ak.T am.2)
  clear bt bu am;simp only[nE];go_wp21;go_roundw
  .exact⟨f+1,Y,Uv,ah,U⟩
  simp[intOf];omega
 obtain rfl:y=f:=Y;obtain⟨du,rfl⟩:=Xq wr;have⟨⟨K,L,M,N⟩,_⟩:=rE<|(q.kv.B T be).T aL.o;go_wp21;clear K L M N;go_loopw [64] (λi wr=>∃f S:Nat,f<=A/\S=0+1+p+y+f*3115830/\i=f/\oH b b (B:Int) S wr/\kY b b aM wr) (λi _=>A-(intOf i).toNat)
 .exact⟨0,_,Q1 _,Us,Z,l,q⟩
 clear aN aO;obtain⟨f,S,bG,bV,rfl,l,q⟩:=hrel;have l:=l;have q:=q;have aN:=l.lt;have cK:=X bV;have dv:S<=9400000:=Y;clear bV;by_cases aO:f<A
 .obtain⟨d,j⟩:∃d,c.kF[f]?=some d:=Gx<|W ch.o;obtain⟨bH,bI,aP,rfl,bJ,ax,D⟩:=(bc.kF.ku (mn.ok .u8)<|av.eq q).ll (mn.ok .u8) f d j;obtain⟨aB,aC,aD,aE,aF,aG,rfl,cL,cM⟩:=ax.ri;have F:=D 0 _ Z;have aj:=D 1 _ Z;have aT:=D 2 _ Z;rw[Q3]at F;have cN:=(aY.o.kF d<|QV j)
  have cO:=(ce.o d<|QV j)
  have⟨Q,aq⟩:=Xq d.name;rw[<-aq]at F;have cP:=X aq;obtain⟨bM,bN⟩:=nL f A;have bW:=(av.to q)
  clear D j aq;have z:=Ba wr<|.cells (hR Q aB aC aD aE aF aG) 98;have ay:=(l.ku z)
  have ak:=(q.T<|kY.old (b:=b) (show b<=wr from Y) z)
  have G:=X<|QT wr<|.cells (hR Q aB aC aD aE aF aG) 98;have aQ:=(kY.old (b:=b) (show b<=wr from Y) z)
  have r:(wr.alloc<|.cells (hR Q aB aC aD aE aF aG) 98).heap.size=wr+1:=Us;have az:=X r;clear r;go_upto_region 19 with fail;have r:=az.o;have⟨v,V⟩:=Xq wr.heap.size;rw[<-V]at G r⊢;generalize wr.alloc (.cells (hR Q aB aC aD aE aF aG) 98)=e at*;have al:v<e:=Y;have bO:b<e:=Y;clear V r;clear F aj aT;have⟨⟨cQ,bX,bY⟩,_⟩:=lf G.o;go_wp21;rw[cP.o];apply(D7 aH b b B S e aB aC aD aE aF aG d (co.wr ak bD) bD ay (cL.ku (og.ok .u8)<|bW.eq aQ) (cM.ku (nu.ok .u8)<|bW.eq aQ) cN cO (av.to ak) Y Y).M;rintro dw ai ⟨rfl,ah,C⟩;have U:=(ak.T C)
  clear cQ bX bY;go_wp21;go_roundw
  .exact⟨f+1,S+3115830,Y,W cK.o,Uv,ah,U⟩
  simp[intOf];omega
 obtain rfl:A=f:=Y;go_upto_region 21 with fail;have bv:=l.ind (m:=(0:Int));have cR:=(q.T<|kY.set (b:=b) (i:=2) (w:=wr) (u:=.int .i64 (0:Int)) bE)
 have⟨bh,bi⟩:=l.cell;go_upto_region 22 with fail;generalize(wr.setCell ⟨b,2,none⟩<|.int .i64 (0:Int))=bZ at*;clear bh bi;have bv:oH b b ((0:Nat):Int) S bZ:=bv;go_wp21;refine(mK b b 0 S bZ [⟨#[125]⟩] bv Y Y Us<|by intro c E;simp only[Rq,Rk,RQ]at E;rcases E with rfl<;>first|omega|decide).M ?_;rintro dx ca ⟨rfl,cb,C⟩;have cc:=(cR.T C)
 have aS:=cc.size;have aa:b<ca:=cb.lt.2;go_wp21;apply(CN b b (S+1) 0 ca cb).M;rintro O dy ⟨⟨k,rfl,aR⟩,cS⟩;have cT:=(cc.kv.T cS)
 go_wp21;go_ret;have bX:=ck.o;have bY:=cr.o;exact⟨k,Z,Y,ao.T<|(au.M<|W aJ.o).T<|(aK.M Y).T<|cT.M Y⟩
def Ei(I f)(b a:Int)(g c i d j:Int)(n)(e p:Nat)(q)(D:Nat)(l)(s:oo f D l)(R:mo l)(J:kz mg I f (.slice n e p) q)(S:∀T,I T->T<f)(U:e<=9223372036854775807):
  Calls prog 12 #[.agg<|EC b a 3 g c i d j<|.slice n e p,.pointer D] f (kH (.bool<|valid (kG l) ⟨b,a,3,g,c,i,d,j,q⟩) f):=by
 have aI:=X J.len.1;have V:=X s;have au:=X R;have av:=X J;have aw:=X S;have aa:=X U;clear s R J S U;have⟨aJ,K⟩:=Xq<|valid (kG l) ⟨b,a,3,g,c,i,d,j,q⟩;rw[<-K];have E:=X K;clear K;have ab:=X<|boxes f (EC b a 3 g c i d j<|.slice n e p)<|EC b a 3 0 c 0 d 0<|.slice n e p
 go_enter func12,ntmps12
 go_upto_region 2 with fail;have k:=ab.o;have⟨ax,ac⟩:=Xq<|(f.alloc<|.cells (EC b a 3 g c i d j<|.slice n e p) 29).alloc<|.cells (EC b a 3 0 c 0 d 0<|.slice n e p) 29;rw[<-ac]at k⊢;clear ac ab;have⟨F,ad⟩:=Xq f.heap.size;rw[<-ad]at k⊢;have⟨C,ae⟩:=Xq<|F+1;rw[<-ae]at k⊢;have af:F≠C:=Y
 have ag:=X<|show f<=F/\f<=C from⟨Y,Y⟩;clear ad ae;replace k:=X k;have aK:=k.o.lt.1;have aL:=k.o.lt.2;have⟨t,u,v,w,x,y,z,A,B⟩:=kQ k.o.2.1;go_wp2_with fail;apply(lV D a l ax<|V.o.kv k.o.1).M;rintro L ay ⟨rfl,rfl⟩;go_wp2_with fail;apply(mm D a d l ay (V.o.kv k.o.1) au.o).M;rintro L ah ⟨rfl,ai⟩;have G:=X<|k.o.kv ai;have aM:=G.o.lt.1;have aN:=G.o.lt.2;clear ai;clear t u v w x y z A B;have⟨t,u,v,w,x,y,z,A,B⟩:=kQ G.o.2.1;have aO:(e:Int)<=9223372036854775807:=W aa.o
 have⟨M,N⟩:=Xq<|oW (kG l) a d;rw[<-N];have aP:=X N;clear N;have⟨az,O⟩:=Xq<|nM (kG l) a;rw[<-O];have aA:=X O;clear O;go_upto_region 6 with fail;go_cut [8] (λaB aC=>aB=.bool (M&&decide ((e:Int)<=4))/\ah=aC)
 .cases M
  .go_wp2_with fail;go_meet;exact⟨Z,Z⟩
  go_wp2_with fail;go_meet;exact⟨UB,Z⟩
 obtain⟨rfl,rfl⟩:=hcut;have⟨aQ,P⟩:=Xq<|M&&decide ((e:Int)<=4);rw[<-P];have aR:=X P;clear P;go_wp2_with fail;apply(lX ⟨b,a,3,g,c,i,d,j,q⟩ n e p ah).M;rw[show arr ⟨b,a,3,g,c,i,d,j,q⟩=3 from Z];rintro L aD ⟨rfl,aj⟩;have r:=X<|G.o.kv aj;have aS:=r.o.lt.1;have aT:=r.o.lt.2;clear aj;clear t u v w x y z A B;have⟨t,u,v,w,x,y,z,A,B⟩:=kQ r.o.2.1;have ak:=kr r.o.2.2 6;have al:=kr r.o.2.2 8;have aE:=kx r.o.2.2 6;have aF:=kx r.o.2.2 8;go_upto_region 39 with fail;have⟨am,Q⟩:=Xq<|(aD.setCell ⟨C,6,none⟩<|.int .i64 0).setCell ⟨C,8,none⟩ Nl;have m:=X (show uj f F C (EC b a 3 g c i d j<|.slice n e p) (EC b a 3 0 c 0 0 0 Nl) am from by rw[Q];exact(r.o.set ag.o.2 af 6 _).set ag.o.2 af 8 _);rw[<-Q];clear Q ak al aE aF;clear t u v w x y z A B;have⟨an,s⟩:=Xq az;rw[<-s];have ao:=X (show an=fits (kG l) ⟨b,a,3,g,c,i,d,j,q⟩from by rw[s,aA.o];rfl);clear s;have aU:=m.o.lt.1;have aV:=m.o.lt.2;have⟨t,u,v,w,x,y,z,A,B⟩:=kQ m.o.2.1;cases an with
 |false=>go_wp2_with fail;go_ret;exact⟨vF E.o ao.o.symm,m.o.1⟩
 |true=>
  have⟨aW,aX,aY,aZ,ba,bb,ak,bc,al⟩:=kQ m.o.2.2;have aG:=X<|show fits (kG l) ⟨b,a,3,g,c,i,d,j,q⟩=true from ao.o.symm;by_cases ap:0<=b
  .by_cases aq:0<=c
   .go_wp2_with fail;apply(HB I am m.o.1 ⟨b,a,3,g,c,i,d,j,q⟩ ⟨b,a,3,0,c,0,0,0,[]⟩ n e p av.o aw.o aa.o Z).M;rintro L bd ⟨rfl,ar⟩;have aH:=X ar;clear ar;go_wp2_with fail;go_ret;exact⟨vT E.o aG.o ap aq Z,m.o.1.T<|aH.o.M m.o.1.size⟩
   go_wp2_with fail;go_ret;exact⟨vN E.o aq,m.o.1⟩
  go_wp2_with fail;go_ret;exact⟨vM E.o ap,m.o.1⟩
def Es(N g)(d a:Int)(j e k b c:Int)(m)(f n:Nat)(p)(A:Nat)(l)(O:oo g A l)(P:mo l)(F:kz mg N g (.slice m f n) p)(Q:∀R,N R->R<g)(S:f<=9223372036854775807)(T:c≠4/\c≠5/\c≠6):
  Calls prog 12 #[.agg<|EC d a 7 j e k b c<|.slice m f n,.pointer A] g (kH (.bool<|valid (kG l) ⟨d,a,7,j,e,k,b,c,p⟩) g):=by
 have ax:=X F.len.1;have U:=X (show arr ⟨d,a,7,j,e,k,b,c,p⟩=7 from by simp[arr,T]);have aj:=X (show fits (kG l) ⟨d,a,7,j,e,k,b,c,p⟩=false from by cases hq:fits (kG l) ⟨d,a,7,j,e,k,b,c,p⟩;rfl;have:=rN hq;rw[U.o]at this;omega)
 clear T;have V:=X O;have ak:=X P;have ay:=X F;have az:=X Q;have al:=X S;clear O P F Q S;have⟨aA,G⟩:=Xq<|valid (kG l) ⟨d,a,7,j,e,k,b,c,p⟩;rw[<-G];have am:=X G;clear G;have aa:=X<|boxes g (EC d a 7 j e k b c<|.slice m f n)<|EC d a 7 0 e 0 b 0<|.slice m f n
 go_enter func12,ntmps12
 go_upto_region 2 with fail;have i:=aa.o;have⟨an,ab⟩:=Xq<|(g.alloc<|.cells (EC d a 7 j e k b c<|.slice m f n) 29).alloc<|.cells (EC d a 7 0 e 0 b 0<|.slice m f n) 29;rw[<-ab]at i⊢;clear ab aa;have⟨B,ac⟩:=Xq g.heap.size;rw[<-ac]at i⊢;have⟨C,ad⟩:=Xq<|B+1;rw[<-ad]at i⊢;have ao:B≠C:=Y
 have ap:=X<|show g<=B/\g<=C from⟨Y,Y⟩;clear ac ad;replace i:=X i;have aB:=i.o.lt.1;have aC:=i.o.lt.2;have aq:=kr i.o.2.2 7;have ar:=kx i.o.2.2 7;have⟨q,r,s,t,u,v,w,x,y⟩:=kQ i.o.2.1;go_upto_region 4 with fail;have⟨ae,I⟩:=Xq<|an.setCell ⟨C,7,none⟩<|.int .i64 c;have z:=X (show uj g B C (EC d a 7 j e k b c<|.slice m f n) (EC d a 7 0 e 0 b c<|.slice m f n) ae from by rw[I];exact i.o.set ap.o.2 ao 7 _);rw[<-I];have aD:=z.o.lt.1;have aE:=z.o.lt.2;clear I aq ar;clear q r s t u v w x y;have⟨q,r,s,t,u,v,w,x,y⟩:=kQ z.o.2.1;go_wp2_with fail;apply(lV A a l ae<|V.o.kv z.o.1).M;rintro af au ⟨rfl,rfl⟩;go_wp2_with fail;apply(mm A a b l au (V.o.kv z.o.1) ak.o).M;rintro af ag ⟨rfl,ah⟩;have D:=X<|z.o.kv ah;have aF:=D.o.lt.1;have aG:=D.o.lt.2;clear ah;clear q r s t u v w x y;have⟨q,r,s,t,u,v,w,x,y⟩:=kQ D.o.2.1;have aH:(f:Int)<=9223372036854775807:=W al.o
 have⟨J,K⟩:=Xq<|oW (kG l) a b;rw[<-K];have aI:=X K;clear K;have⟨aJ,L⟩:=Xq<|nM (kG l) a;rw[<-L];have aK:=X L;clear L;go_upto_region 6 with fail;go_cut [8] (λav aw=>av=.bool (J&&decide ((f:Int)<=4))/\ag=aw)
 .cases J
  .go_wp2_with fail;go_meet;exact⟨Z,Z⟩
  go_wp2_with fail;go_meet;exact⟨UB,Z⟩
 obtain⟨rfl,rfl⟩:=hcut;have⟨aL,M⟩:=Xq<|J&&decide ((f:Int)<=4);rw[<-M];have aM:=X M;clear M;go_wp2_with fail;apply(lX ⟨d,a,7,j,e,k,b,c,p⟩ m f n ag).M;rw[U.o];rintro af aN ⟨rfl,ai⟩;have E:=X<|D.o.kv ai;have aO:=E.o.lt.1;have aP:=E.o.lt.2;clear ai;clear q r s t u v w x y;have⟨q,r,s,t,u,v,w,x,y⟩:=kQ E.o.2.1;go_wp2_with fail;go_ret;exact⟨vF am.o aj.o,E.o.1⟩
