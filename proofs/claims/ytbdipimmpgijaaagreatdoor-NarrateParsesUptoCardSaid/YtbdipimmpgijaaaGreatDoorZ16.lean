import Derived.Test.YtbdipimmpgijaaaGreatDoorZ10
import Derived.Test.YtbdipimmpgijaaaGreatDoorZ11
import Derived.Test.YtbdipimmpgijaaaGreatDoorZ12
import Derived.Test.YtbdipimmpgijaaaGreatDoorZ13
set_option maxRecDepth 1000000
set_option maxHeartbeats 32000000
set_option linter.all false
namespace Go.Proofs.YtbdipimmpgijaaaGreatDoor
open RowKit Go.Proofs.Tryz lH Maps oa qR ChangeShapes WideShapes ChangeAt
def Am:∀d,Bo d
 |0=>CA
 |d+1=>CB d<|Gq d (Am d)<|Gn d<|Am d
def tM(P)(e b k G:Nat)(w I)(m J:Nat)(A)(aI:lX w)(aJ:Ls e)(ao:oH e b (k:Int) G w)(ap:kz (mA .u8) P w (.slice I m J) A)(aq:∀f∈A,vL f/\∀i∈f.body,FE Ds i)(bA:m<=3)(hF:ER P e b w)(bB:k<=80)(ar:G+1557906<=90000000):
  Calls prog 116 #[.pointer b,.agg #[.slice I m J]] w (qg e b (k:Int) (G+1557906) w):=by
 have aK:=X ap.len.1;have bC:=ao.lt;have aL:=aI;have au:=aJ;have aM:=ap;have aN:=X aq;have K:=hF;have r:=Ba w<|oe I m J;have aO:=(ao.kv r)
 have aP:=(ld.old (b:=b) (show e<=w from Y) r)
 have aQ:=X<|QQ w<|oe I m J
 clear aq
 go_enter func116,ntmps116
 go_upto_region 1 with fail;generalize w.alloc (oe I m J)=bD at*;have aR:=kt aQ.o 0;go_wp21;clear aR;go_loopw [9] (λab wr=>∃l j:Nat,l<=m/\j=G+l*519302/\ab=l/\oH e b (k:Int) j wr/\ld e b w wr) (λab _=>m-(intOf ab).toNat)
 .exact⟨0,G,QZ _,Uo,Z,aO,aP⟩
 obtain⟨l,j,bE,av,rfl,B,C⟩:=hrel;have bF:=B.lt;have ac:=X av;have bG:j<=90000000:=Y;clear av;by_cases bH:l<m
 .obtain⟨f,ad⟩:∃f,A[l]?=some f:=Gx<|W aK.o;obtain⟨bI,bJ,bK,rfl,bL,aS,Q⟩:=(aM.kv (mA.ok .u8)<|K.eq C).ll (mA.ok .u8) l f ad;obtain⟨bM,bN,rfl,ae,af⟩:=aS;obtain⟨D,E,rfl,_⟩:=ae.form;obtain⟨L,M,rfl,_⟩:=af.form;have ag:=Q 0 _ Z;have aw:=Q 1 _ Z;have ax:=Q 2 _ Z;rw[Q1]at ag;have⟨N,ay⟩:=aN.o f<|QS ad;have aT:=X ay;have⟨s,az⟩:=Xq f.params.length;have⟨F,aA⟩:=Xq f.body.length;have bO:s<=2:=W N.Hq;have aU:F<=12:=W N.C2;rw[<-az]at ae aw;rw[<-aA]at af ax;have aB:(⟨f.name.toArray⟩:Se).size<=12:=(by rw[oC];exact nK N.name);have⟨R,aC⟩:=Xq f.name;rw[<-aC]at ag aB;obtain⟨bP,bQ⟩:=nL l m;clear Q ad ay az aA aC;have r:=Ba wr<|.cells (hR R D s E L F M) 125;have aV:=(B.kv r)
  have aD:=(C.T<|ld.old (b:=b) (show e<=wr from Y) r)
  have aW:=(ae.kv kM.ok λn t=>r.B n<|(K.to C).lt n t)
  have aX:=(af.kv (kR.ok .u8 _) λn t=>r.B n<|(K.to C).lt n t)
  have S:=X<|QQ wr<|.cells (hR R D s E L F M) 125;have T:(wr.alloc<|.cells (hR R D s E L F M) 125).heap.size=wr+1:=Uo;have aY:=X T;clear T;have bR:j+519302<=90000000:=W ac.o;go_upto_region 4 with fail;have T:=aY.o;have⟨u,aE⟩:=Xq wr.heap.size;rw[<-aE]at S T⊢;generalize wr.alloc (.cells (hR R D s E L F M) 125)=d at*;have aF:u<d:=Y;have aZ:u≠b:=Y;have bS:b<d:=Y;have ah:=(K.to aD)
  clear ag aw ax aE B C;refine EP 7 (λba=>cond ba (λc=>oH e b ((k:Nat):Int) (j+1) c/\ld e b d c) λc=>Below d d c) (mM [(·=.pointer b),(·=.pointer u),Tr,(Pp u 1),(·=.slice D s E),Tr,Tr,Tr]) [(2,pr),(5,AN),(6,pa d)] ((Sf _ _).drew) ⟨?_,?_,?_,?_,?_,?_,?_,?_,trivial⟩ ?_;exact .f 0;exact .f 5;intro U w a V q x aa;replace a:(λc=>Below d d c) w:=a;exact .l 14 (q 1 _ Z Z) (kA ((a.B u aF).T S.o) 0 _ Z) ⟨trivial,a,Qc ⟨_,Z,aB⟩<|Qa⟩;exact .f 5;intro U w a V q x aa;replace a:(λc=>Below d d c) w:=a;exact .l 16 (q 3 _ Z Z) (kA ((a.B u aF).T S.o) 1 _ Z) ⟨Z,a,Qa⟩;intro U w a V q x aa;have bT:=Sv 17 q 4;replace a:(λc=>Below d d c) w:=a;have bU:=a.size;refine .c (Mn P w D s E f.params (aW.kv kM.ok λn t=>a.B n<|ah.lt n t) (λc y=>W<|nK<|N.params c y) Y λn t=>W<|ah.lt n t) ?_;rintro ai bb ⟨i,rfl,bc,bd⟩;exact⟨_,Z,⟨trivial,a.T<|bd.M a.size,Qb<|Qc ⟨_,Z,bc⟩<|Qb<|Qe⟩⟩;intro U w a V q x aa;obtain⟨be,bf,bV⟩:=kW x 0;have bW:=Sl 15 bf;obtain⟨bg,bh,bX⟩:=kW x 1;have bY:=Sl 18 bh;replace a:(λc=>Below d d c) w:=a;have aG:=a.size;exact .q (g:=⟨trivial,a.alloc a.size _,Q2<|Qc ⟨_,[⟨#[111,110,32]⟩,be,⟨#[40]⟩,bg,⟨#[41,32,123]⟩],Z,⟨aG,Uo⟩,Z,by intro c y;simp only[Rn,Rg,RO]at y;rcases y with rfl|rfl|rfl|rfl|rfl<;>first|omega|decide,QQ _ _⟩<|Qe⟩);intro U w a V q x aa;have bZ:=Sv 13 q 0;obtain⟨p,v,bi,bj,bk,bl,bm⟩:=kW x 2;have ca:=Sl 19 bi;replace a:(λc=>Below d d c) w:=a;have aG:=a.size;refine .c (qh e b k j 5 w p v bk (aV.kv a) bm (W bj.1) Y Y Y bl) ?_;rintro ai bb ⟨bn,bo,z⟩;subst bn;exact⟨_,Z,⟨trivial,⟨bo,(ld.old Y a).T z⟩,Q2<|Qd (λcb ⟨p,v,ai,aj,B,bp,ar⟩=>⟨p,v,ai,⟨aj.1,QO aj.2 z.size⟩,B,bp,z.kv p _ ar (W aj.1)<|mm Un⟩)<|Qe⟩⟩;intro cc ak bq br bs;have al:oH e b ((k:Nat):Int) (j+1) ak/\ld e b d ak:=bq;have bt:=al.1;have am:=(al.2)
  clear br bs al;simp only[nx];have⟨⟨_,_,bu⟩,_⟩:=lg<|am.kv u _ S.o aZ<|mm Un;have an:=(aD.T am)
  go_wp21;refine(Am Ds P e b k (j+1) ak L F M f.body (aL.wr an au) au bt (aX.kv (kR.ok .u8 _)<|ah.eq am) (λi A=>⟨N.body i A,aT.o i A⟩) aU (K.to an) (by show k+2*4<=90;omega)<|by rw[H6];omega).M ?_;rintro cd bv ⟨rfl,aH,z⟩;have bw:=(an.T z)
  rw[H6]at aH;clear bu;go_wp21;refine(mL e b k (j+1+519300) bv [⟨#[125]⟩] aH Y Y Uo<|by intro c y;simp only[Rn,Rg,RO]at y;rcases y with rfl<;>first|omega|decide).M ?_;rintro ce cf ⟨rfl,bx,z⟩;have bz:=(bw.T z)
  go_wp21;go_roundw
  .exact⟨l+1,j+519302,Y,W ac.o,Ur,bx,bz⟩
  simp[intOf];omega
 obtain rfl:m=l:=Y;go_wp21
 go_end0
 exact⟨Z,B.up<|W ac.o,C⟩
def D4(aw)(f b M A:Nat)(w an)(F ao:Nat)(ap)(J aq:Nat)(d)(bT:lX w)(bU:Ls f)(bl:oH f b (M:Int) A w)(bm:kz (oh .u8) aw w (.slice an F ao) d.vars)(ae:kz (nj .u8) aw w (.slice ap J aq) d.lJ)(ax:Bk d)(bV:Lt d)(hF:ER aw f b w)(da:M<=70)(aD:A+3115830<=90000000):
  Calls prog 70 #[.pointer b,.agg<|hR d.name an F ao ap J aq] w (qg f b (M:Int) (A+3115830) w):=by
 have aE:=bl.lt;have bW:=bT;have ay:=bU;have bX:=bl;have aQ:=hF;have bY:=bm;have bZ:=ae;have bn:=bm.len;have bo:=ae.len;have ca:=X bn.1;have cb:=X bo.1;have db:F<=5:=W ax.FJ
 have dc:J<=2:=W ax.v2
 have cc:=ax.vars;have cd:=ax.lJ;have bp:=bV;have ce:(⟨d.name.toArray⟩:Se).size<=12:=by rw[oC];exact nK ax.name
 have⟨az,bq⟩:=Xq d.name;rw[<-bq]at ce⊢;have⟨p,br⟩:=Xq<|M+1;have⟨ar,bs⟩:=Xq<|p+1;have⟨dd,de⟩:=H7 M p br Y;have⟨df,dg⟩:=H7 p ar bs Y;have dh:p<=71:=Y
 have di:ar<=72:=Y
 clear ae bn bo bq br bs
 go_enter func70,ntmps70
 have q:=Ba w<|.cells (hR az an F ao ap J aq) 112;have cf:=(bX.kv q)
 have aA:=(ld.old (b:=b) (show f<=w from Y) q)
 have aF:=X<|QQ w<|.cells (hR az an F ao ap J aq) 112;have j:(w.alloc<|.cells (hR az an F ao ap J aq) 112).heap.size=w+1:=Uo
 have cg:=X j;clear j;go_upto_region 1 with fail;have j:=cg.o;have⟨aG,v⟩:=Xq w.heap.size;rw[<-v]at aF j⊢;generalize w.alloc (.cells (hR az an F ao ap J aq) 112)=aH at*;have dj:aG<aH:=Y
 have bt:aG≠b:=Y
 clear v j;have bu:=(bW.wr aA ay)
 have ch:=(bY.kv (oh.ok .u8)<|aQ.eq aA)
 have ci:=(bZ.kv (nj.ok .u8)<|aQ.eq aA)
 have au:=(aQ.to aA)
 have af:=kt aF.o 0;go_wp21;refine(mL f b M A aH [⟨#[99,111,109,112,111,110,101,110,116,32]⟩,⟨az.toArray⟩,⟨#[32,123]⟩] cf Y Y Uo<|by intro d s;simp only[Rn,Rg,RO]at s;rcases s with rfl|rfl|rfl<;>first|omega|decide).M ?_;rintro aI bv ⟨rfl,bw,r⟩;have cj:=(r)
 clear af;go_upto_region 2 with fail
 have ab:=bw.ind (m:=(p:Int));have bx:=(cj.T<|ld.set (b:=b) (i:=2) (w:=bv) (u:=.int .i64 (p:Int)) aE.1)
 have⟨ag,ah⟩:=bw.cell;go_upto_region 3 with fail;generalize(bv.setCell (rm b)<|.int .i64 (p:Int))=dk at*
 clear ag ah;have⟨⟨aR,aS,aI⟩,_⟩:=lg<|bx.kv aG _ aF.o bt<|mm Un
 go_wp21;clear aR aS aI;go_loopw [23] (λi wr=>∃e:Nat,e<=F/\i=e/\oH f b (p:Int) (A+1+e) wr/\ld f b aH wr) (λi _=>F-(intOf i).toNat)
 .exact⟨0,QZ _,Z,ab,bx⟩
 obtain⟨e,ck,rfl,x,C⟩:=hrel;have bz:=x.lt;skip;by_cases bA:e<F
 .obtain⟨k,l⟩:∃k,d.vars[e]?=some k:=Gx<|W ca.o;obtain⟨cl,cm,bB,rfl,cn,aT,ai⟩:=(ch.kv (oh.ok .u8)<|au.eq C).ll (oh.ok .u8) e k l;have co:bB=[tx k.name,.int .u8 k.ty,.int .i64 k.init]:=aT;subst co;have K:=ai 0 _ Z;have aJ:=ai 1 _ Z;have aK:=ai 2 _ Z;rw[Q1]at K;have bC:=cc k<|QS l;have⟨bD,bE⟩:=bp.vars k<|QS l;have aU:(⟨k.name.toArray⟩:Se).size<=12:=(by rw[oC];exact nK bC.name);have bF:k.ty=1\/k.ty=2\/k.ty=3:=(by rcases bC.form with h|h|h;exact .inl h.1;exact .inr<|.inl h.1;exact .inr<|.inr h.1);have⟨G,bG⟩:=Xq k.name;have⟨dl,bH⟩:=Xq k.ty;have⟨D,bI⟩:=Xq k.init;rw[<-bG]at K aU;rw[<-bH]at aJ bF;rw[<-bI]at aK bD bE;obtain⟨cp,cq⟩:=nL e F;have cr:A+1+e<=90000000:=Y;clear ai l bG bH bI;rcases bF with rfl|rfl|rfl
  .have q:=Ba wr<|Kx G D;have U:=(x.kv q)
   have L:=(C.T<|ld.old (b:=b) (show f<=wr from Y) q)
   have B:=X<|QQ wr<|Kx G D;have av:=(ld.old (b:=b) (show f<=wr from Y) q)
   have j:(wr.alloc<|Kx G D).heap.size=wr+1:=Uo;have V:=X j;clear j;go_upto_region 8 with fail;have j:=V.o;have⟨n,v⟩:=Xq wr.heap.size;rw[<-v]at B j⊢;generalize wr.alloc (Kx G D)=c at*;have ac:n<c:=Y;have aB:n≠b:=Y;have aL:b<c:=Y;clear v j;clear K aJ aK;refine EP 7 (λaV=>cond aV (λd=>oH f b ((p:Nat):Int) (A+1+e+1) d/\ld f b c d) λd=>Below c c d) (mM [(·=.pointer b),(·=.pointer n),Tr,(Pp n 2),(·=D),Tr,Tr,Tr]) [(2,pr),(5,λk w=>∃t:Se,k=.string t/\t.size<=20),(6,pa c)] ((Sf _ _).drew) ⟨?_,?_,?_,?_,?_,?_,?_,?_,trivial⟩ ?_;exact .f 0;exact .f 5;intro N w a O l z P;replace a:(λd=>Below c c d) w:=a;exact .l 32 (l 1 _ Z Z) (kA ((a.B n ac).T B.o) 0 _ Z) ⟨trivial,a,Qc ⟨_,Z,aU⟩<|Qa⟩;exact .f 5;intro N w a O l z P;replace a:(λd=>Below c c d) w:=a;exact .l 34 (l 3 _ Z Z) (kA ((a.B n ac).T B.o) 2 _ Z) ⟨Z,a,Qa⟩;intro N w a O l z P;have dm:=Sv 35 l 4;replace a:(λd=>Below c c d) w:=a;refine .c (Ku D bD bE w) ?_;rintro ad aW ⟨t,rfl,aX,aY⟩;exact⟨_,Z,⟨trivial,a.T<|aY.M a.size,Qb<|Qc ⟨_,Z,aX⟩<|Qb<|Qe⟩⟩;intro N w a O l z P;obtain⟨cs,ct,dn⟩:=kW z 0;have dp:=Sl 33 ct;obtain⟨cu,cv,dq⟩:=kW z 1;have dr:=Sl 36 cv;replace a:(λd=>Below c c d) w:=a;have aC:=a.size;exact .q (g:=⟨trivial,a.alloc a.size _,Q2<|Qc ⟨_,[⟨#[118,97,114,32]⟩,cs,⟨#[58,32,105,110,116,32,61,32]⟩,cu,⟨#[59]⟩],Z,⟨aC,Uo⟩,Z,by intro d s;simp only[Rn,Rg,RO]at s;rcases s with rfl|rfl|rfl|rfl|rfl<;>first|omega|decide,QQ _ _⟩<|Qe⟩);intro N w a O l z P;have ds:=Sv 31 l 0;obtain⟨y,E,cw,aZ,ba,aM,bb⟩:=kW z 2;have dt:=Sl 37 cw;replace a:(λd=>Below c c d) w:=a;have aC:=a.size;refine .c (qh f b p (A+1+e) 5 w y E ba (U.kv a) bb (W aZ.1) Y Y Y aM) ?_;rintro ad aW ⟨bc,ab,r⟩;subst bc;exact⟨_,Z,⟨trivial,⟨ab,(ld.old Y a).T r⟩,Q2<|Qd (λu ⟨y,E,ad,aj,x,ae,aD⟩=>⟨y,E,ad,⟨aj.1,QO aj.2 r.size⟩,x,ae,r.kv y _ aD (W aj.1)<|mm Un⟩)<|Qe⟩⟩;intro cx Q bd be bf;have ak:oH f b ((p:Nat):Int) (A+1+e+1) Q/\ld f b c Q:=bd;have aa:=ak.1;have al:=(L.T ak.2)
   clear be bf ak;simp only[nx];go_wp21;go_roundw
   .exact⟨e+1,Y,Ur,aa,al⟩
   simp[intOf];omega
  .have q:=Ba wr<|KK G D;have U:=(x.kv q)
   have L:=(C.T<|ld.old (b:=b) (show f<=wr from Y) q)
   have B:=X<|QQ wr<|KK G D;have av:=(ld.old (b:=b) (show f<=wr from Y) q)
   have j:(wr.alloc<|KK G D).heap.size=wr+1:=Uo;have V:=X j;clear j;go_upto_region 10 with fail;have j:=V.o;have⟨n,v⟩:=Xq wr.heap.size;rw[<-v]at B j⊢;generalize wr.alloc (KK G D)=c at*;have ac:n<c:=Y;have aB:n≠b:=Y;have aL:b<c:=Y;clear v j;clear K aJ aK;refine EP 8 (λaV=>cond aV (λd=>oH f b ((p:Nat):Int) (A+1+e+1) d/\ld f b c d) λd=>Below c c d) (mM [(·=.pointer b),(·=.pointer n),Tr,(Pp n 2),(·=D),Tr,Tr,Tr,Tr]) [(2,pr),(5,AI),(6,λk w=>∃t:Se,k=.string t/\t.size<=5),(7,pa c)] ((Sf _ _).drew) ⟨?_,?_,?_,?_,?_,?_,?_,?_,?_,trivial⟩ ?_;exact .f 0;exact .f 5;intro N w a O l z P;replace a:(λd=>Below c c d) w:=a;exact .l 42 (l 1 _ Z Z) (kA ((a.B n ac).T B.o) 0 _ Z) ⟨trivial,a,Qc ⟨_,Z,aU⟩<|Qa⟩;exact .f 5;intro N w a O l z P;replace a:(λd=>Below c c d) w:=a;exact .l 44 (l 3 _ Z Z) (kA ((a.B n ac).T B.o) 2 _ Z) ⟨Z,a,Qa⟩;intro N w a O l z P;have du:=Sv 45 l 4;replace a:(λd=>Below c c d) w:=a;exact .q (g:=⟨trivial,a,Qb<|Qc ⟨_,Z⟩<|Qa⟩);intro N w a O l z P;obtain⟨cz,cA⟩:=kW z 1;have dv:=Sl 46 cA;replace a:(λd=>Below c c d) w:=a;refine .c (BL cz w) ?_;rintro ad aW ⟨t,rfl,aX,aY⟩;exact⟨_,Z,⟨trivial,a.T<|aY.M a.size,Q2<|Qc ⟨_,Z,aX⟩<|Qb<|Qe⟩⟩;intro N w a O l z P;obtain⟨cB,cC,dw⟩:=kW z 0;have dx:=Sl 43 cC;obtain⟨cD,cE,dy⟩:=kW z 2;have dz:=Sl 47 cE;replace a:(λd=>Below c c d) w:=a;have aC:=a.size;exact .q (g:=⟨trivial,a.alloc a.size _,Q2<|Qb<|Qc ⟨_,[⟨#[118,97,114,32]⟩,cB,⟨#[58,32,98,111,111,108,32,61,32]⟩,cD,⟨#[59]⟩],Z,⟨aC,Uo⟩,Z,by intro d s;simp only[Rn,Rg,RO]at s;rcases s with rfl|rfl|rfl|rfl|rfl<;>first|omega|decide,QQ _ _⟩<|Qe⟩);intro N w a O l z P;have dA:=Sv 41 l 0;obtain⟨y,E,cF,aZ,ba,aM,bb⟩:=kW z 3;have dB:=Sl 48 cF;replace a:(λd=>Below c c d) w:=a;have aC:=a.size;refine .c (qh f b p (A+1+e) 5 w y E ba (U.kv a) bb (W aZ.1) Y Y Y aM) ?_;rintro ad aW ⟨bc,ab,r⟩;subst bc;exact⟨_,Z,⟨trivial,⟨ab,(ld.old Y a).T r⟩,Q2<|Qb<|Qd (λu ⟨y,E,ad,aj,x,ae,aD⟩=>⟨y,E,ad,⟨aj.1,QO aj.2 r.size⟩,x,ae,r.kv y _ aD (W aj.1)<|mm Un⟩)<|Qe⟩⟩;intro cx Q bd be bf;have ak:oH f b ((p:Nat):Int) (A+1+e+1) Q/\ld f b c Q:=bd;have aa:=ak.1;have al:=(L.T ak.2)
   clear be bf ak;simp only[nx];go_wp21;go_roundw
   .exact⟨e+1,Y,Ur,aa,al⟩
   simp[intOf];omega
  have q:=Ba wr<|Lo G D;have U:=(x.kv q)
  have L:=(C.T<|ld.old (b:=b) (show f<=wr from Y) q)
  have B:=X<|QQ wr<|Lo G D;have av:=(ld.old (b:=b) (show f<=wr from Y) q)
  have j:(wr.alloc<|Lo G D).heap.size=wr+1:=Uo;have V:=X j;clear j;go_upto_region 12 with fail;have j:=V.o;have⟨n,v⟩:=Xq wr.heap.size;rw[<-v]at B j⊢;generalize wr.alloc (Lo G D)=c at*;have ac:n<c:=Y;have aB:n≠b:=Y;have aL:b<c:=Y;clear v j;clear K aJ aK;have af:=kt B.o 0;go_wp21;refine(mL f b p (A+1+e) c [⟨#[118,97,114,32]⟩,⟨G.toArray⟩,⟨#[58,32,116,97,98,108,101,59]⟩] U Y Y Uo<|by intro d s;simp only[Rn,Rg,RO]at s;rcases s with rfl|rfl|rfl<;>first|omega|decide).M ?_;rintro cG Q ⟨rfl,aa,r⟩;have al:=(L.T r)
  clear af;go_wp21;go_roundw
  .exact⟨e+1,Y,Ur,aa,al⟩
  simp[intOf];omega
 obtain rfl:F=e:=Y;obtain⟨dC,rfl⟩:=Xq wr;have⟨⟨aR,aS,aI⟩,_⟩:=lg<|C.kv aG _ aF.o bt<|mm Un;go_wp21;clear aR aS aI;go_loopw [61] (λi wr=>∃e I:Nat,e<=J/\I=A+1+F+e*1557908/\i=e/\oH f b (p:Int) I wr/\ld f b aH wr) (λi _=>J-(intOf i).toNat)
 .exact⟨0,A+1+F,QZ _,Uo,Z,x,C⟩
 clear bz bA;obtain⟨e,I,ck,bJ,rfl,x,C⟩:=hrel;have x:=x;have C:=C;have bz:=x.lt;have aN:=X bJ;have cr:I+1<=90000000:=Y;clear bJ;by_cases bA:e<J
 .obtain⟨am,aO⟩:∃h,d.lJ[e]?=some h:=Gx<|W cb.o;obtain⟨cl,cm,bB,rfl,cn,aT,ai⟩:=(ci.kv (nj.ok .u8)<|au.eq C).ll (nj.ok .u8) e am aO;obtain⟨dD,rfl,aP⟩:=aT;obtain⟨R,S,rfl,_⟩:=aP.form;have K:=ai 0 _ Z;rw[Q1,Ry]at K;have⟨bg,bK⟩:=cd am<|QS aO;have bL:∀h∈am,vL h/\∀t∈h.body,FE Ds t:=λh ab=>⟨bK h ab,bp.lJ am (QS aO) h ab⟩
  have⟨T,bM⟩:=Xq am.length;rw[<-bM]at aP K bg;obtain⟨cp,cq⟩:=nL e J;have dE:I+1557908<=90000000:=W aN.o;clear ai aO bK bM;by_cases cH:e=0
  .have bh:(e:Int)=0:=Y;rw[cH,Q1]at K;have bi:=(au.to C)
   have q:=Ba wr<|oe R T S;have U:=(x.kv q)
   have L:=(C.T<|ld.old (b:=b) (show f<=wr from Y) q)
   have B:=X<|QQ wr<|oe R T S;have av:=(ld.old (b:=b) (show f<=wr from Y) q)
   have j:(wr.alloc<|oe R T S).heap.size=wr+1:=Uo;have V:=X j;clear j;go_upto_region 18 with fail;have j:=V.o;have⟨n,v⟩:=Xq wr.heap.size;rw[<-v]at B j⊢;generalize wr.alloc (oe R T S)=c at*;have ac:n<c:=Y;have aB:n≠b:=Y;have aL:b<c:=Y;clear v j;clear K;have af:=kt B.o 0;go_wp21;apply(tM aw f b p I c R T S am (bu.wr L ay) ay U (aP.kv (mA.ok .u8)<|bi.eq av) bL bg (au.to L) Y Y).M;rintro cG Q ⟨rfl,aa,r⟩;have al:=(L.T r)
   clear af bh;go_wp21;go_roundw
   .exact⟨e+1,I+1557908,Y,W aN.o,Ur,aa.up Y,al⟩
   simp[intOf];omega
  have bh:((e:Int)==0)=false:=(by rw[QW];omega);have cI:IntKind.i64.wrap ((e:Int)+1)=((e+1:Nat):Int):=Uq;have bi:=(au.to C)
  have q:=Ba wr<|oe R T S;have U:=(x.kv q)
  have L:=(C.T<|ld.old (b:=b) (show f<=wr from Y) q)
  have B:=X<|QQ wr<|oe R T S;have av:=(ld.old (b:=b) (show f<=wr from Y) q)
  have j:(wr.alloc<|oe R T S).heap.size=wr+1:=Uo;have V:=X j;clear j;go_upto_region 19 with fail;have j:=V.o;have⟨n,v⟩:=Xq wr.heap.size;rw[<-v]at B j⊢;generalize wr.alloc (oe R T S)=c at*;have ac:n<c:=Y;have aB:n≠b:=Y;have aL:b<c:=Y;clear v j;clear K bh;go_wp21;apply(BM (e+1) Y c).M;rintro ad Q ⟨cJ,rfl,dF,bN⟩;have aa:=(U.kv bN)
  have cK:ld f b c Q:=ld.old (b:=b) Y bN;go_wp21;refine(mL f b p I Q [⟨#[118,101,114,115,105,111,110,32]⟩,cJ,⟨#[32,123]⟩] aa Y Y Uo<|by intro d s;simp only[Rn,Rg,RO]at s;rcases s with rfl|rfl|rfl<;>first|omega|decide).M ?_;rintro dG bO ⟨rfl,bP,r⟩;have cL:=(cK.T r)
  clear cI;go_upto_region 20 with fail;have cM:=bP.ind (m:=(ar:Int));have bj:=(cL.T<|ld.set (b:=b) (i:=2) (w:=bO) (u:=.int .i64 (ar:Int)) aE.1)
  have⟨ag,ah⟩:=bP.cell;go_upto_region 21 with fail;generalize(bO.setCell (rm b)<|.int .i64 (ar:Int))=cN at*;clear ag ah;have af:=kA (bj.kv n _ B.o aB<|mm Un) 0 _ Z;have bk:=(L.T bj)
  have cO:=(av.T bj)
  go_wp21;apply(tM aw f b ar (I+1) cN R T S am (bu.wr bk ay) ay cM (aP.kv (mA.ok .u8)<|bi.eq cO) bL bg (au.to bk) Y Y).M;rintro dH bQ ⟨rfl,bR,r⟩;have bS:=(bk.T r)
  have aM:=bS.size;clear af;go_upto_region 22 with fail;have cP:=bR.ind (m:=(p:Int));have cQ:=(bS.T<|ld.set (b:=b) (i:=2) (w:=bQ) (u:=.int .i64 (p:Int)) aE.1)
  have⟨ag,ah⟩:=bR.cell;go_upto_region 23 with fail;generalize(bQ.setCell (rm b)<|.int .i64 (p:Int))=cR at*;clear ag ah;go_wp21;refine(mL f b p (I+1+1557906) cR [⟨#[125]⟩] cP Y Y Uo<|by intro d s;simp only[Rn,Rg,RO]at s;rcases s with rfl<;>first|omega|decide).M ?_;rintro dI dJ ⟨rfl,cS,r⟩;have cT:=(cQ.T r)
  go_wp21;go_roundw
  .exact⟨e+1,I+1557908,Y,W aN.o,Ur,cS,cT⟩
  simp[intOf];omega
 obtain rfl:J=e:=Y;have cU:I+1<=A+3115830:=W aN.o;go_upto_region 25 with fail;have cV:=x.ind (m:=(M:Int));have cW:=(C.T<|ld.set (b:=b) (i:=2) (w:=wr) (u:=.int .i64 (M:Int)) aE.1)
 have⟨ag,ah⟩:=x.cell;go_upto_region 26 with fail;generalize(wr.setCell (rm b)<|.int .i64 (M:Int))=cX at*;clear ag ah;go_wp21;refine(mL f b M I cX [⟨#[125]⟩] cV Y Y Uo<|by intro d s;simp only[Rn,Rg,RO]at s;rcases s with rfl<;>first|omega|decide).M ?_;rintro dK dL ⟨rfl,cY,r⟩;have cZ:=(cW.T r)
 go_wp21
 go_end0
 exact⟨Z,cY.up cU,aA.T cZ⟩
def CD(a b g:Nat)(c:Int)(w)(m:oH a b c g w):Calls prog 71 #[.pointer b] w λd e=>(∃i:Se,d=.returned (.string i)/\i.size<=g*200000)/\Below a w e:=by have⟨j,k,n⟩:=m;by_cases l:j=[];subst l;apply(CC a b c w k).M;rintro d e ⟨rfl,f⟩;exact⟨⟨_,Z,QZ _⟩,f⟩;apply(D1 a b c j w k l).M;rintro d e ⟨rfl,f⟩;exact⟨⟨_,Z,by rw[oC];exact n⟩,f⟩
def Gy(aH w ab)(p ac:Nat)(ad)(y ae:Nat)(af)(A ag:Nat)(c)(aW:lX w)(n:pW aH w ab p ac ad y ae af A ag c)(an:mi c)(bw:∀cd∈c.kH,Lt cd):
  Calls prog 32 #[.agg<|lP c.name ab p ac ad y ae af A ag] w (qf 1900000000000 w):=by
 have aX:=aW.low;have aY:=X an;have ce:=X bw;have cf:=X n.kQ.len.1;have cg:=X n.ml.len.1;have ch:=X n.kH.len.1;have cU:p<=2:=Ul an.C3 n.kQ.len.1
 have cV:y<=9:=Ul an.Hr n.ml.len.1
 have cW:A<=3:=Ul an.c3 n.kH.len.1
 have ci:(⟨c.name.toArray⟩:Se).size<=12:=by rw[oC];exact nK an.name
 have ao:=Ba w<|.cells (lP c.name ab p ac ad y ae af A ag) 54;have aI:=X<|QQ w<|.cells (lP c.name ab p ac ad y ae af A ag) 54;have bx:=(sX aH _ ab p ac ad y ae af A ag c (aW.ku ao aX) (n.ku ao) an)
 have bz:=(n.ku ao)
 have aZ:=(aW.ku ao aX)
 have aJ:=X<|show(w.alloc<|.cells (lP c.name ab p ac ad y ae af A ag) 54).heap.size=w+1 from Uo;have⟨bA,bB⟩:=Xq c.name;rw[<-bB]at ci ao aI bx bz aZ aJ⊢;clear bw bB aX
 go_enter func32,ntmps32
 go_upto_region 1 with fail;generalize w.alloc (.cells (lP bA ab p ac ad y ae af A ag) 54)=cj at*;have⟨T,ba⟩:=Xq w.heap.size;rw[<-ba]at aI aJ⊢;have ck:=X ba;have cl:T<cj:=W aJ.o
 clear ba;have⟨⟨K,L,M,N⟩,_⟩:=rG aI.o;go_wp21;apply bx.M;rintro O ap ⟨rfl,au⟩;have cX:=au.size;have cm:=X<|(au.B T cl).T aI.o;have bC:=(bz.ku au)
 have bb:=(aZ.ku au aZ.low)
 have cn:T<ap:=Y
 clear K L M N;have⟨b,P⟩:=Xq ap.heap.size;have aK:=Ba ap AT;have aL:=X<|(aK.B T cn).T cm.o;have bc:=(bC.ku aK)
 have co:=(bb.ku aK bb.low)
 have bD:Ls b:=by rw[P];exact bb.low
 have av:ER aH b b<|ap.alloc AT:=λbd cp=>by have cY:=bC.lK bd cp;exact⟨Us,Y,.inl Y⟩
 have cq:oH b b ((0:Nat):Int) 0<|ap.alloc AT:=⟨[],.inl ⟨QX _,_,by rw[P];exact QQ _ _,by simpa[Lib.byteCells]using SS _ _ _ _⟩,Uo⟩
 go_upto_region 4 with fail;rw[<-P];generalize ap.alloc AT=aM at*;have be:T<b:=Y
 have cr:=X P;clear P;obtain⟨B,bf⟩:∃bd:Nat,bd=1:=⟨_,Z⟩
 have cZ:IntKind.i64.wrap ((B:Int)-1)=0:=by rw[bf];decide
 have da:B<=1:=Y
 have cs:=X bf;clear bf;have bE:b<=b:=QX b;have⟨⟨K,L,M,N⟩,_⟩:=rG aL.o;go_wp21;refine(mL b b 0 0 aM [⟨#[102,108,101,101,116,32]⟩,⟨bA.toArray⟩,⟨#[32,123]⟩] cq Y Y Uo<|by intro c E;simp only[Rn,Rg,RO]at E;rcases E with rfl|rfl|rfl<;>first|omega|decide).M ?_;rintro db bg ⟨rfl,bF,C⟩;have ct:=(C)
 clear K L M N;go_upto_region 5 with fail
 have aw:=bF.ind (m:=(1:Int));have ah:oH b b (B:Int) (0+1)<|bg.setCell (rm b)<|.int .i64 (1:Int):=by rw[cs.o];exact aw
 have U:=(ct.T<|ld.set (b:=b) (i:=2) (w:=bg) (u:=.int .i64 (1:Int)) bE)
 have⟨bh,bi⟩:=bF.cell;go_upto_region 6 with fail;generalize(bg.setCell (rm b)<|.int .i64 (1:Int))=ai at*
 clear bh bi;have⟨⟨K,L,M,N⟩,_⟩:=rG<|(U.ku.B T be).T aL.o
 go_wp21;clear K L M N;go_loopw [30] (λi wr=>∃f:Nat,f<=p/\i=f/\oH b b (B:Int) (0+1+f) wr/\ld b b aM wr) (λi _=>p-(intOf i).toNat)
 .exact⟨0,QZ _,Z,ah,U⟩
 obtain⟨f,bG,rfl,l,q⟩:=hrel;have aN:=l.lt;skip;by_cases aO:f<p
 .obtain⟨d,j⟩:∃d,c.kQ[f]?=some d:=Gx<|W cf.o;obtain⟨bH,bI,aP,rfl,bJ,ax,D⟩:=(bc.kQ.kv mI.ok<|av.eq q).ll mI.ok f d j;have bj:aP=[tx d.name,.bool d.init]:=ax;subst bj;have F:=D 0 _ Z;have aj:=D 1 _ Z;rw[Q1]at F;have bK:(⟨d.name.toArray⟩:Se).size<=12:=(by rw[oC];exact nK<|aY.o.kQ d<|QS j);have⟨Q,aq⟩:=Xq d.name;have⟨ar,bL⟩:=Xq d.init;rw[<-aq]at F bK;rw[<-bL]at aj;obtain⟨bM,bN⟩:=nL f p;clear D j aq bL;have z:=Ba wr<|ti Q ar;have ay:=(l.kv z)
  have ak:=(q.T<|ld.old (b:=b) (show b<=wr from Y) z)
  have G:=X<|QQ wr<|ti Q ar;have aQ:=(ld.old (b:=b) (show b<=wr from Y) z)
  have r:(wr.alloc<|ti Q ar).heap.size=wr+1:=Uo;have az:=X r;clear r;go_upto_region 9 with fail;have r:=az.o;have⟨v,V⟩:=Xq wr.heap.size;rw[<-V]at G r⊢;generalize wr.alloc (ti Q ar)=e at*;have al:v<e:=Y;have bO:b<e:=Y;clear V r;clear F aj;refine EP 7 (λbk=>cond bk (λc=>oH b b ((B:Nat):Int) (0+1+f+1) c/\ld b b e c) λc=>Below e e c) (mM [(·=.pointer b),(·=.pointer v),Tr,(Pp v 1),(·=.bool ar),Tr,Tr,Tr]) [(2,pr),(5,λd w=>∃k:Se,d=.string k/\k.size<=5),(6,pa e)] ((Sf _ _).drew) ⟨?_,?_,?_,?_,?_,?_,?_,?_,trivial⟩ ?_;exact .f 3;exact .f 5;intro I w a n j t J;replace a:(λc=>Below e e c) w:=a;exact .l 35 (j 1 _ Z Z) (kA ((a.B v al).T G.o) 0 _ Z) ⟨trivial,a,Qc ⟨_,Z,bK⟩<|Qa⟩;exact .f 5;intro I w a n j t J;replace a:(λc=>Below e e c) w:=a;exact .l 37 (j 3 _ Z Z) (kA ((a.B v al).T G.o) 1 _ Z) ⟨Z,a,Qa⟩;intro I w a n j t J;have dc:=Sv 38 j 4;replace a:(λc=>Below e e c) w:=a;refine .c (BL ar w) ?_;rintro O bl ⟨k,rfl,aR,P⟩;exact⟨_,Z,⟨trivial,a.T<|P.M a.size,Qb<|Qc ⟨_,Z,aR⟩<|Qb<|Qe⟩⟩;intro I w a n j t J;obtain⟨cu,cv,dd⟩:=kW t 0;have de:=Sl 36 cv;obtain⟨cw,cx,df⟩:=kW t 1;have dg:=Sl 39 cx;replace a:(λc=>Below e e c) w:=a;have aA:=a.size;exact .q (g:=⟨trivial,a.alloc a.size _,Q2<|Qc ⟨_,[⟨#[102,108,97,103,32]⟩,cu,⟨#[32,61,32]⟩,cw,⟨#[59]⟩],Z,⟨aA,Uo⟩,Z,by intro c E;simp only[Rn,Rg,RO]at E;rcases E with rfl|rfl|rfl|rfl|rfl<;>first|omega|decide,QQ _ _⟩<|Qe⟩);intro I w a n j t J;have dh:=Sv 34 j 0;obtain⟨s,x,cy,bm,bn,aS,bo⟩:=kW t 2;have di:=Sl 40 cy;replace a:(λc=>Below e e c) w:=a;have aA:=a.size;refine .c (qh b b B (0+1+f) 5 w s x bn (ay.kv a) bo (W bm.1) Y Y Y aS) ?_;rintro O bl ⟨bp,aw,C⟩;subst bp;exact⟨_,Z,⟨trivial,⟨aw,(ld.old Y a).T C⟩,Q2<|Qd (λu ⟨s,x,O,aa,l,bq,br⟩=>⟨s,x,O,⟨aa.1,QO aa.2 C.size⟩,l,bq,C.kv s _ br (W aa.1)<|mm Un⟩)<|Qe⟩⟩;intro cz ai bs bt bu;have am:oH b b ((B:Nat):Int) (0+1+f+1) ai/\ld b b e ai:=bs;have ah:=am.1;have U:=(ak.T am.2)
  clear bt bu am;simp only[nx];go_wp21;go_roundw
  .exact⟨f+1,Y,Ur,ah,U⟩
  simp[intOf];omega
 obtain rfl:p=f:=Y;obtain⟨dj,rfl⟩:=Xq wr;have⟨⟨K,L,M,N⟩,_⟩:=rG<|(q.ku.B T be).T aL.o;go_wp21;clear K L M N;go_loopw [46] (λi wr=>∃f:Nat,f<=y/\i=f/\oH b b (B:Int) (0+1+p+f) wr/\ld b b aM wr) (λi _=>y-(intOf i).toNat)
 .exact⟨0,QZ _,Z,l,q⟩
 clear aN aO;obtain⟨f,bG,rfl,l,q⟩:=hrel;have l:=l;have q:=q;have aN:=l.lt;clear l;by_cases aO:f<y
 .obtain⟨d,j⟩:∃d,c.ml[f]?=some d:=Gx<|W cg.o;obtain⟨bH,bI,aP,rfl,bJ,ax,D⟩:=(bc.ml.kv nT.ok<|av.eq q).ll nT.ok f d j;have bj:aP=[tx d.a,tx d.b,.int .i64 d.tF]:=ax;subst bj;have F:=D 0 _ Z;have aj:=D 1 _ Z;have aT:=D 2 _ Z;rw[Q1]at F;have⟨z,bP,cA,cB⟩:=aY.o.ml d<|QS j;have bQ:(⟨d.a.toArray⟩:Se).size<=12:=(by rw[oC];exact nK z);have bR:(⟨d.b.toArray⟩:Se).size<=12:=(by rw[oC];exact nK bP);have⟨aU,bS⟩:=Xq d.a;have⟨aV,bT⟩:=Xq d.b;obtain⟨R,bU⟩:∃R:Nat,d.tF=(R:Int):=⟨d.tF.toNat,Y⟩
  rw[<-bS]at F bQ;rw[<-bT]at aj bR;rw[bU]at aT cA cB;have cC:R<100:=Y;obtain⟨bM,bN⟩:=nL f y;clear D j bS bT bU z bP;have z:=Ba wr<|Bm aU aV R;have ay:=(l.kv z)
  have ak:=(q.T<|ld.old (b:=b) (show b<=wr from Y) z)
  have G:=X<|QQ wr<|Bm aU aV R;have aQ:=(ld.old (b:=b) (show b<=wr from Y) z)
  have r:(wr.alloc<|Bm aU aV R).heap.size=wr+1:=Uo;have az:=X r;clear r;go_upto_region 14 with fail;have r:=az.o;have⟨v,V⟩:=Xq wr.heap.size;rw[<-V]at G r⊢;generalize wr.alloc (Bm aU aV R)=e at*;have al:v<e:=Y;have bO:b<e:=Y;clear V r;clear F aj aT;refine EP 9 (λbk=>cond bk (λc=>oH b b ((B:Nat):Int) (0+1+p+f+1) c/\ld b b e c) λc=>Below e e c) (mM [(·=.pointer b),(·=.pointer v),Tr,(Pp v 1),Tr,(Pp v 2),(·=R),Tr,Tr,Tr]) [(2,pr),(4,pr),(7,λd w=>∃k:Se,d=.string k/\k.size<=20),(8,qk e)] ((Sf _ _).drew) ⟨?_,?_,?_,?_,?_,?_,?_,?_,?_,?_,trivial⟩ ?_;exact .f 3;exact .f 7;intro I w a n j t J;replace a:(λc=>Below e e c) w:=a;exact .l 51 (j 1 _ Z Z) (kA ((a.B v al).T G.o) 0 _ Z) ⟨trivial,a,Qc ⟨_,Z,bQ⟩<|Qa⟩;exact .f 7;intro I w a n j t J;replace a:(λc=>Below e e c) w:=a;exact .l 53 (j 3 _ Z Z) (kA ((a.B v al).T G.o) 1 _ Z) ⟨trivial,a,Qb<|Qc ⟨_,Z,bR⟩<|Qa⟩;exact .f 7;intro I w a n j t J;replace a:(λc=>Below e e c) w:=a;exact .l 55 (j 5 _ Z Z) (kA ((a.B v al).T G.o) 2 _ Z) ⟨Z,a,Qa⟩;intro I w a n j t J;have dk:=Sv 56 j 6;replace a:(λc=>Below e e c) w:=a;refine .c (BM R cC w) ?_;rintro O bl ⟨k,rfl,aR,P⟩;exact⟨_,Z,⟨trivial,a.T<|P.M a.size,Q2<|Qc ⟨_,Z,aR⟩<|Qb<|Qe⟩⟩;intro I w a n j t J;obtain⟨cD,cE,dl⟩:=kW t 0;have dm:=Sl 52 cE;obtain⟨cF,cG,dn⟩:=kW t 1;have dp:=Sl 54 cG;obtain⟨cH,cI,dq⟩:=kW t 2;have dr:=Sl 57 cI;replace a:(λc=>Below e e c) w:=a;have aA:=a.size;exact .q (g:=⟨trivial,a.alloc a.size _,Q2<|Qb<|Qc ⟨_,[⟨#[108,105,110,107,32]⟩,cD,⟨#[32,45,62,32]⟩,cF,⟨#[32,108,97,116,101,110,99,121,32]⟩,cH,⟨#[59]⟩],Z,⟨aA,Uo⟩,Z,by intro c E;simp only[Rn,Rg,RO]at E;rcases E with rfl|rfl|rfl|rfl|rfl|rfl|rfl<;>first|omega|decide,QQ _ _⟩<|Qe⟩);intro I w a n j t J;have ds:=Sv 50 j 0;obtain⟨s,x,cJ,bm,bn,aS,bo⟩:=kW t 3;have dt:=Sl 58 cJ;replace a:(λc=>Below e e c) w:=a;have aA:=a.size;refine .c (qh b b B (0+1+p+f) 7 w s x bn (ay.kv a) bo (W bm.1) Y Y Y aS) ?_;rintro O bl ⟨bp,aw,C⟩;subst bp;exact⟨_,Z,⟨trivial,⟨aw,(ld.old Y a).T C⟩,Q2<|Qb<|Qd (λu ⟨s,x,O,aa,l,bq,br⟩=>⟨s,x,O,⟨aa.1,QO aa.2 C.size⟩,l,bq,C.kv s _ br (W aa.1)<|mm Un⟩)<|Qe⟩⟩;intro cz ai bs bt bu;have am:oH b b ((B:Nat):Int) (0+1+p+f+1) ai/\ld b b e ai:=bs;have ah:=am.1;have U:=(ak.T am.2)
  clear bt bu am;simp only[nx];go_wp21;go_roundw
  .exact⟨f+1,Y,Ur,ah,U⟩
  simp[intOf];omega
 obtain rfl:y=f:=Y;obtain⟨du,rfl⟩:=Xq wr;have⟨⟨K,L,M,N⟩,_⟩:=rG<|(q.ku.B T be).T aL.o;go_wp21;clear K L M N;go_loopw [64] (λi wr=>∃f S:Nat,f<=A/\S=0+1+p+y+f*3115830/\i=f/\oH b b (B:Int) S wr/\ld b b aM wr) (λi _=>A-(intOf i).toNat)
 .exact⟨0,_,QZ _,Uo,Z,l,q⟩
 clear aN aO;obtain⟨f,S,bG,bV,rfl,l,q⟩:=hrel;have l:=l;have q:=q;have aN:=l.lt;have cK:=X bV;have dv:S<=9400000:=Y;clear bV;by_cases aO:f<A
 .obtain⟨d,j⟩:∃d,c.kH[f]?=some d:=Gx<|W ch.o;obtain⟨bH,bI,aP,rfl,bJ,ax,D⟩:=(bc.kH.kv (mr.ok .u8)<|av.eq q).ll (mr.ok .u8) f d j;obtain⟨aB,aC,aD,aE,aF,aG,rfl,cL,cM⟩:=ax.rj;have F:=D 0 _ Z;have aj:=D 1 _ Z;have aT:=D 2 _ Z;rw[Q1]at F;have cN:=(aY.o.kH d<|QS j)
  have cO:=(ce.o d<|QS j)
  have⟨Q,aq⟩:=Xq d.name;rw[<-aq]at F;have cP:=X aq;obtain⟨bM,bN⟩:=nL f A;have bW:=(av.to q)
  clear D j aq;have z:=Ba wr<|.cells (hR Q aB aC aD aE aF aG) 112;have ay:=(l.kv z)
  have ak:=(q.T<|ld.old (b:=b) (show b<=wr from Y) z)
  have G:=X<|QQ wr<|.cells (hR Q aB aC aD aE aF aG) 112;have aQ:=(ld.old (b:=b) (show b<=wr from Y) z)
  have r:(wr.alloc<|.cells (hR Q aB aC aD aE aF aG) 112).heap.size=wr+1:=Uo;have az:=X r;clear r;go_upto_region 19 with fail;have r:=az.o;have⟨v,V⟩:=Xq wr.heap.size;rw[<-V]at G r⊢;generalize wr.alloc (.cells (hR Q aB aC aD aE aF aG) 112)=e at*;have al:v<e:=Y;have bO:b<e:=Y;clear V r;clear F aj aT;have⟨⟨cQ,bX,bY⟩,_⟩:=lg G.o;go_wp21;rw[cP.o];apply(D4 aH b b B S e aB aC aD aE aF aG d (co.wr ak bD) bD ay (cL.kv (oh.ok .u8)<|bW.eq aQ) (cM.kv (nj.ok .u8)<|bW.eq aQ) cN cO (av.to ak) Y Y).M;rintro dw ai ⟨rfl,ah,C⟩;have U:=(ak.T C)
  clear cQ bX bY;go_wp21;go_roundw
  .exact⟨f+1,S+3115830,Y,W cK.o,Ur,ah,U⟩
  simp[intOf];omega
 obtain rfl:A=f:=Y;go_upto_region 21 with fail;have bv:=l.ind (m:=(0:Int));have cR:=(q.T<|ld.set (b:=b) (i:=2) (w:=wr) (u:=.int .i64 (0:Int)) bE)
 have⟨bh,bi⟩:=l.cell;go_upto_region 22 with fail;generalize(wr.setCell (rm b)<|.int .i64 (0:Int))=bZ at*;clear bh bi;have bv:oH b b ((0:Nat):Int) S bZ:=bv;go_wp21;refine(mL b b 0 S bZ [⟨#[125]⟩] bv Y Y Uo<|by intro c E;simp only[Rn,Rg,RO]at E;rcases E with rfl<;>first|omega|decide).M ?_;rintro dx ca ⟨rfl,cb,C⟩;have cc:=(cR.T C)
 have aS:=cc.size;have aa:b<ca:=cb.lt.2;go_wp21;apply(CD b b (S+1) 0 ca cb).M;rintro O dy ⟨⟨k,rfl,aR⟩,cS⟩;have cT:=(cc.ku.T cS)
 go_wp21;go_ret;have bX:=ck.o;have bY:=cr.o;exact⟨k,Z,Y,ao.T<|(au.M<|W aJ.o).T<|(aK.M Y).T<|cT.M Y⟩
def GC(f:Int)(a):Calls prog 120 #[.int .u64 f] a<|GA a:=by
 have j:(Instr.makeSlice 22 (.int .i64 8)<|.int .i64 8).run prog a=.ok (.slice a 8 8) (a.alloc DH):=Fo 8 8 (QX _) Y a;have c:=(Ba a DH)
 have d:pq (a.alloc DH) a 8:=⟨_,QQ a _,zk 8,Fm 8⟩
 go_enter func120,ntmps120
 go_wp2;generalize a.alloc DH=k at*;go_loopw [8] (λe wr=>∃b:Nat,b<=8/\e=b/\pq wr a 8/\Below a a wr) (λe _=>8-(intOf e).toNat)
 .exact⟨0,Y,Z,d,c⟩
 obtain⟨b,l,rfl,d,c⟩:=hrel;by_cases g:b<8
 .have⟨m,n,p,i⟩:=d.get g;have q:IntKind.i64.wrap (8*(b:Int))=8*(b:Int):=Uq;have r:IntKind.i64.wrap (56-8*(b:Int))=56-8*(b:Int):=Uq;go_wp2;go_roundw
  .exact⟨b+1,Y,Ur,i _,kD c<|QX _⟩
  simp[intOf];omega
 obtain rfl:b=8:=Y;go_wp2;go_ret;exact⟨Z,d,c⟩
def mE.at8{e a}{b d:Nat}(f:mE e a b d)(i:Nat)(g:i<d):∃c:Int,a.cell? (sa b i)=some (.int .u32 c)/\a.frozen? ⟨b,i,none⟩=false:=by have⟨c,j,k,_⟩:=f.get g;exact⟨c,j,k⟩
def KE(q:Nat)(p)(ab:nh p q)(aI:qC p)(aJ:(0:Nat)≠q):Calls prog 119 #[.pointer q] p<|Fq p q:=by
 have N:=ab;have aU:=aI;have O:=ab.lt;have aV:=aI.lt;have n:=X<|Ba p<|.cells JP 295;have j:mE 295 (p.alloc<|.cells JP 295) p 64:=⟨_,QQ p _,by rw[zero64];simp,by rw[zero64];exact KD 64⟩
 clear ab
 go_enter func119,ntmps119
 go_wp21;generalize(p.alloc<|.cells JP 295)=cb at*;have⟨r,aK⟩:=Xq p.heap.size;rw[<-aK]at j⊢
 have cc:p<=r:=Y
 clear aK;go_loopw [22] (λi wr=>∃b:Nat,b<=16/\i=b/\mE 295 wr r 64/\Below p p wr) (λi _=>16-(intOf i).toNat)
 .exact⟨0,Y,Z,j,n.o⟩
 obtain⟨b,ax,rfl,j,s⟩:=hrel;have n:=X s;have aL:=j.lt;by_cases w:b<16
 .have aM:(0:Int)<=(b:Int):=Y;have ay:(b:Int)<16:=Y;have cd:IntKind.i64.wrap (4*(b:Int))=((4*b:Nat):Int):=Uq;have aW:IntKind.i64.wrap (((4*b:Nat):Int)+4)=((4*b+4:Nat):Int):=Uq;have ce:=D9 q b w wr;have cf:(b:Int)<64:=Y;go_wp21;refine sf (λt=>Below p p t/\mE 295 t r 64) (λk c=>Below p p c/\mE 295 c r 64) (mM [(·=b),(·=.slice (some ⟨q,8+4*b,none⟩) 4 (64-4*b)),(Pp q<|8+4*b),Tr,Tr,Tr,(·=.slice (some ⟨q,8+4*b,none⟩) 4 (64-4*b)),(Pp q<|8+4*b+1),Tr,Tr,Tr,Tr,(·=.slice (some ⟨q,8+4*b,none⟩) 4 (64-4*b)),(Pp q<|8+4*b+2),Tr,Tr,Tr,Tr,(·=.slice (some ⟨q,8+4*b,none⟩) 4 (64-4*b)),(Pp q<|8+4*b+3),Tr,Tr,Tr,(Pp r b),Tr]) [(3,HU),(4,nF),(5,nF),(8,HU),(9,nF),(10,nF),(11,nF),(14,HU),(15,nF),(16,nF),(17,nF),(20,HU),(21,nF),(22,nF)] (⟨n.o.drew,j⟩) ⟨?_,?_,?_,?_,?_,?_,?_,?_,?_,?_,?_,?_,?_,?_,?_,?_,?_,?_,?_,?_,?_,?_,?_,?_,?_,trivial⟩ ?_;exact Pf 3;exact Pf 4;intro m c a l e f j;have cg:=Sv 35 e 1;exact .q (g:=⟨Z,a,Qa⟩);intro m c a l e f j;have ch:=Sv 36 e 2;have⟨x,g⟩:=(N.kv<|a.1.B q O).byte (i:=4*b) Y;exact .q (g:=⟨trivial,a,Qc ⟨_,Z⟩<|Qa⟩);intro m c a l e f j;obtain⟨ci,aX⟩:=kW f 0;have cj:=Sl 37 aX;clear l e f j;exact .q (g:=⟨trivial,a,Qb<|Qc ⟨_,Z⟩<|Qa⟩);intro m c a l e f j;obtain⟨ck,aY⟩:=kW f 1;have cl:=Sl 38 aY;exact .q (g:=⟨trivial,a,Q2<|Qc ⟨_,Z⟩<|Qa⟩);exact Pf 4;intro m c a l e f j;have cm:=Sv 40 e 6;exact .q (g:=⟨Z,a,Qa⟩);intro m c a l e f j;have cn:=Sv 41 e 7;have⟨x,g⟩:=(N.kv<|a.1.B q O).byte (i:=4*b+1) Y;rw[<-Tq]at g;exact .q (g:=⟨trivial,a,Q2<|Qb<|Qc ⟨_,Z⟩<|Qa⟩);intro m c a l e f j;obtain⟨co,aZ⟩:=kW f 3;have cp:=Sl 42 aZ;clear l e f j;exact .q (g:=⟨trivial,a,Q4<|Qc ⟨_,Z⟩<|Qa⟩);intro m c a l e f j;obtain⟨cq,ba⟩:=kW f 4;have cr:=Sl 43 ba;exact .q (g:=⟨trivial,a,Q4<|Qb<|Qc ⟨_,Z⟩<|Qa⟩);intro m c a l e f j;obtain⟨cs,bb⟩:=kW f 2;have ct:=Sl 39 bb;obtain⟨cu,bc⟩:=kW f 5;have cv:=Sl 44 bc;exact .q (g:=⟨trivial,a,Q4<|Q2<|Qc ⟨_,Z⟩<|Qa⟩);exact Pf 4;intro m c a l e f j;have cw:=Sv 46 e 12;exact .q (g:=⟨Z,a,Qa⟩);intro m c a l e f j;have cx:=Sv 47 e 13;have⟨x,g⟩:=(N.kv<|a.1.B q O).byte (i:=4*b+2) Y;rw[<-Tq]at g;exact .q (g:=⟨trivial,a,Q4<|Q2<|Qb<|Qc ⟨_,Z⟩<|Qa⟩);intro m c a l e f j;obtain⟨cy,bd⟩:=kW f 7;have cz:=Sl 48 bd;clear l e f j;exact .q (g:=⟨trivial,a,Q4<|Q4<|Qc ⟨_,Z⟩<|Qa⟩);intro m c a l e f j;obtain⟨cA,be⟩:=kW f 8;have cB:=Sl 49 be;exact .q (g:=⟨trivial,a,Q4<|Q4<|Qb<|Qc ⟨_,Z⟩<|Qa⟩);intro m c a l e f j;obtain⟨cC,bf⟩:=kW f 6;have cD:=Sl 45 bf;obtain⟨cE,bg⟩:=kW f 9;have cF:=Sl 50 bg;exact .q (g:=⟨trivial,a,Q4<|Q4<|Q2<|Qc ⟨_,Z⟩<|Qa⟩);exact Pf 4;intro m c a l e f j;have cG:=Sv 52 e 18;exact .q (g:=⟨Z,a,Qa⟩);intro m c a l e f j;have cH:=Sv 53 e 19;have⟨x,g⟩:=(N.kv<|a.1.B q O).byte (i:=4*b+3) Y;rw[<-Tq]at g;exact .q (g:=⟨trivial,a,Q4<|Q4<|Q2<|Qb<|Qc ⟨_,Z⟩<|Qa⟩);intro m c a l e f j;obtain⟨cI,bh⟩:=kW f 11;have cJ:=Sl 54 bh;clear l e f j;exact .q (g:=⟨trivial,a,Q4<|Q4<|Q4<|Qc ⟨_,Z⟩<|Qa⟩);intro m c a l e f j;obtain⟨cK,bi⟩:=kW f 10;have cL:=Sl 51 bi;obtain⟨cM,bj⟩:=kW f 12;have cN:=Sl 55 bj;exact .q (g:=⟨trivial,a,Q4<|Q4<|Q4<|Qb<|Qc ⟨_,Z⟩<|Qa⟩);intro m c a l e f j;have ai:=Sl 2<|l 2 Z;have cO:=Sv 34 e 0;exact .q (g:=⟨Z,a,Qa⟩);intro m c a l e f j;have cP:=Sv 57 e 23;obtain⟨bk,bl⟩:=kW f 13;have cQ:=Sl 56 bl;have⟨x,g,aN,E⟩:=a.2.get (i:=b) Y;have ac:=X<|E bk;clear E;refine .h λaz K=>?_;go_simp;exact K<|⟨kD a.1 Y,ac.o⟩;intro aj F L z;have G:=X z;clear L z;simp only[lz,Act.put,Rk,RA,Rx];go_wp21;go_roundw
  .exact⟨b+1,Y,Ur,G.o.2,G.o.1⟩
  simp[intOf];omega
 obtain rfl:b=16:=Y;obtain⟨cR,rfl⟩:=Xq wr;go_wp21;go_loopw [5] (λi wr=>∃b:Nat,16<=b/\b<=64/\i=b/\Below p p wr/\mE 295 wr r 64) (λi _=>64-(intOf i).toNat)
 .exact⟨16,Y,Y,Z,n.o,j⟩
 clear w;obtain⟨b,cS,ax,rfl,s,j⟩:=hrel;have j:=j;have n:=X s;have aL:=j.lt;by_cases w:b<64
 .have ay:(b:Int)<64:=Y;have cT:IntKind.i64.wrap ((b:Int)-15)=((b-15:Nat):Int):=Uq;have aW:IntKind.i64.wrap ((b:Int)-2)=((b-2:Nat):Int):=Uq;have cU:IntKind.i64.wrap ((b:Int)-16)=((b-16:Nat):Int):=Uq;have cV:IntKind.i64.wrap ((b:Int)-7)=((b-7:Nat):Int):=Uq;have cW:IntKind.i64.wrap ((b:Int)+1)=((b+1:Nat):Int):=Uq;have cX:(0:Int)<=((b-15:Nat):Int):=Y;have cY:((b-15:Nat):Int)<64:=Y;have cZ:(0:Int)<=((b-2:Nat):Int):=Y;have da:((b-2:Nat):Int)<64:=Y;have db:(0:Int)<=((b-16:Nat):Int):=Y;have dc:((b-16:Nat):Int)<64:=Y;have dd:(0:Int)<=((b-7:Nat):Int):=Y;have de:((b-7:Nat):Int)<64:=Y;have df:(0:Int)<=(b:Int):=Y;have⟨dg,bm,_⟩:=j.at8 (b-15) Y;have⟨dh,I,_⟩:=j.at8 (b-2) Y;go_upto_region 10 with fail;go_cut [5,6,7] (λad M A u=>ad=b/\(∃d:Int,M=.int .u32 d)/\(∃d:Int,A=.int .u32 d)/\Below p p u/\mE 295 u r 64)
  .go_quiet (fail);go_wp21;go_meet;exact⟨Z,⟨_,Z⟩,⟨_,Z⟩,n.o.T<|mZ (Sf _ _) _,j.to<|mZ (Sf _ _) _⟩
  obtain⟨rfl,⟨P,rfl⟩,⟨Q,rfl⟩,s,j⟩:=hcut;clear bm I;have j:=j;have n:=X s;obtain⟨R,rfl⟩:=Xq wc;go_upto_region 11 with fail;go_cut [5,7,8] (λad A ae u=>ad=b/\A=.int .u32 Q/\(∃d:Int,ae=.int .u32 d)/\u=R)
  .go_wp21;apply(oz P 7 Un _).M;rintro v B ⟨di,rfl,rfl⟩;go_wp21;apply(oz P 18 Un _).M;rintro v B ⟨dj,rfl,rfl⟩;go_wp21;go_meet;exact⟨Z,Z,⟨_,Z⟩,Z⟩
  obtain⟨rfl,rfl,⟨aO,rfl⟩,rfl⟩:=hcut;obtain⟨R,rfl⟩:=Xq wc;go_upto_region 12 with fail;go_cut [5,8,9] (λad A ae u=>ad=b/\A=.int .u32 aO/\(∃d:Int,ae=.int .u32 d)/\u=R)
  .go_wp21;apply(oz Q 17 Un _).M;rintro v B ⟨dk,rfl,rfl⟩;go_wp21;apply(oz Q 19 Un _).M;rintro v B ⟨dl,rfl,rfl⟩;go_wp21;go_meet;exact⟨Z,Z,⟨_,Z⟩,Z⟩
  obtain⟨rfl,rfl,⟨bn,rfl⟩,rfl⟩:=hcut;obtain⟨R,rfl⟩:=Xq wc;go_upto_region 13 with fail;refine sf (λt=>Below p p t/\mE 295 t r 64) (λk c=>Below p p c/\mE 295 c r 64) (mM [(·=b),(·=b),(·=.int .i64 ((b-16:Nat):Int)),(Pp r<|b-16),Tr,(·=.int .u32 aO),Tr,(·=b),(·=.int .i64 ((b-7:Nat):Int)),(Pp r<|b-7),Tr,Tr,(·=.int .u32 bn),Tr,(Pp r b),Tr]) [(4,nF),(6,nF),(10,nF),(11,nF),(13,nF)] (⟨n.o.drew,j⟩) ⟨?_,?_,?_,?_,?_,?_,?_,?_,?_,?_,?_,?_,?_,?_,?_,?_,trivial⟩ ?_;exact Pf 5;exact Pf 5;intro m c a l e f j;have dm:=Sv 88 e 1;exact .q (g:=⟨Z,a,Qa⟩);intro m c a l e f j;have ai:=Sl 2<|l 2 Z;have dn:=Sv 89 e 2;exact .q (g:=⟨Z,a,Qa⟩);intro m c a l e f j;have dp:=Sv 90 e 3;have⟨x,g,_⟩:=a.2.at8 (b-16) Y;exact .q (g:=⟨trivial,a,Qc ⟨_,Z⟩<|Qa⟩);exact Pf 8;intro m c a l e f j;obtain⟨dq,bo⟩:=kW f 0;have dr:=Sl 91 bo;have ds:=Sv 92 e 5;exact .q (g:=⟨trivial,a,Qb<|Qc ⟨_,Z⟩<|Qa⟩);exact Pf 5;intro m c a l e f j;have dt:=Sv 94 e 7;exact .q (g:=⟨Z,a,Qa⟩);intro m c a l e f j;have ai:=Sl 2<|l 2 Z;have du:=Sv 95 e 8;exact .q (g:=⟨Z,a,Qa⟩);intro m c a l e f j;have dv:=Sv 96 e 9;have⟨x,g,_⟩:=a.2.at8 (b-7) Y;exact .q (g:=⟨trivial,a,Q2<|Qc ⟨_,Z⟩<|Qa⟩);intro m c a l e f j;obtain⟨dw,bp⟩:=kW f 1;have dx:=Sl 93 bp;obtain⟨dy,bq⟩:=kW f 2;have dz:=Sl 97 bq;exact .q (g:=⟨trivial,a,Q2<|Qb<|Qc ⟨_,Z⟩<|Qa⟩);exact Pf 9;intro m c a l e f j;obtain⟨dA,br⟩:=kW f 3;have dB:=Sl 98 br;have dC:=Sv 99 e 12;exact .q (g:=⟨trivial,a,Q4<|Qc ⟨_,Z⟩<|Qa⟩);intro m c a l e f j;have ai:=Sl 2<|l 2 Z;have dD:=Sv 87 e 0;exact .q (g:=⟨Z,a,Qa⟩);intro m c a l e f j;have dE:=Sv 101 e 14;obtain⟨bs,bt⟩:=kW f 4;have dF:=Sl 100 bt;have⟨x,g,aN,E⟩:=a.2.get (i:=b) Y;have ac:=X<|E bs;clear E;refine .h λaz K=>?_;go_simp;exact K<|⟨kD a.1 Y,ac.o⟩;intro aj F L z;have G:=X z;clear L z;simp only[lz,Act.put,Rk,RA,Rx];go_wp21;go_roundw
  .exact⟨b+1,Y,Y,Ur,G.o.1,G.o.2⟩
  simp[intOf];omega
 obtain rfl:b=64:=Y;have dG:p.heap.size<=wr:=Y;have J:=(N.kv<|n.o.B q O)
 have⟨ak,S⟩:=J.at8 0 Y;have⟨al,T⟩:=J.at8 1 Y;have⟨am,I⟩:=J.at8 2 Y;have⟨an,ao⟩:=J.at8 3 Y;have⟨ap,U⟩:=J.at8 4 Y;have⟨aq,V⟩:=J.at8 5 Y;have⟨ar,aa⟩:=J.at8 6 Y;have⟨au,av⟩:=J.at8 7 Y;have⟨C,aA⟩:=Xq wr.heap.size;have dH:r<C:=Y;have bu:=X<|show Below p p (wr.alloc<|.cells (qt ak al am an ap aq ar au) 242)/\mE 295 (wr.alloc<|.cells (qt ak al am an ap aq ar au) 242) r 64/\mE 242 (wr.alloc<|.cells (qt ak al am an ap aq ar au) 242) C 8 from⟨n.o.alloc Y _,j.to<|Ba _ _,by rw[aA];exact mE.eight<|QQ _ _⟩;have bv:=X aA;clear aA;go_upto_region 15 with fail;rw[<-bv.o];generalize(wr.alloc<|.cells (qt ak al am an ap aq ar au) 242)=dI at*;clear S T I ao U V aa av;go_wp21;go_loopw [106] (λi wr=>∃b:Nat,b<=64/\i=b/\Below p p wr/\mE 295 wr r 64/\mE 242 wr C 8) (λi _=>64-(intOf i).toNat)
 .exact⟨0,Y,Z,bu.o⟩
 clear w;obtain⟨b,ax,rfl,s⟩:=hrel;have n:=X s;have aL:=s.2.1.lt;clear s;by_cases w:b<64
 .have aM:(0:Int)<=(b:Int):=Y;have ay:(b:Int)<64:=Y;have⟨aB,S,_⟩:=n.o.2.2.at8 0 Y;have⟨aC,T,_⟩:=n.o.2.2.at8 1 Y;have⟨aD,I,_⟩:=n.o.2.2.at8 2 Y;have⟨aE,U,_⟩:=n.o.2.2.at8 4 Y;have⟨aF,V,_⟩:=n.o.2.2.at8 5 Y;have⟨P,aa,_⟩:=n.o.2.2.at8 6 Y;go_upto_region 18 with fail;go_cut [11,12,13,14,15,16,17,106]from 106 to 183 (λi M A aG v aH g af u=>af=b/\i=b/\(∃d:Int,M=.int .u32 d)/\(∃d:Int,A=.int .u32 d)/\(∃d:Int,aG=.int .u32 d)/\(∃d:Int,v=.int .u32 d)/\(∃d:Int,aH=.int .u32 d)/\(∃d:Int,g=.int .u32 d)/\Below p p u/\mE 295 u r 64/\mE 242 u C 8)
  .go_quiet (fail);go_wp21;go_meet;exact⟨Z,Z,⟨_,Z⟩,⟨_,Z⟩,⟨_,Z⟩,⟨_,Z⟩,⟨_,Z⟩,⟨_,Z⟩,n.o.1.T<|mZ (Sf _ _) _,n.o.2.1.to<|mZ (Sf _ _) _,n.o.2.2.to<|mZ (Sf _ _) _⟩
  clear S T I U V aa;obtain⟨rfl,rfl,⟨aw,rfl⟩,⟨bw,rfl⟩,⟨bx,rfl⟩,⟨D,rfl⟩,⟨aP,rfl⟩,⟨aQ,rfl⟩,s⟩:=hcut;have n:=X s;clear s;obtain⟨R,rfl⟩:=Xq wc;go_upto_region 19 with fail;refine sf (λt=>Below p p t/\mE 295 t r 64/\mE 242 t C 8) (λk c=>(∃d:Int,k=.int .u32 d)/\Below p p c/\mE 295 c r 64/\mE 242 c C 8) (mM [(Pp C 7),Tr,(·=.int .u32 D),Tr,(·=.int .u32 D),Tr,Tr,(·=.int .u32 D),Tr,Tr,Tr,(·=.int .u32 D),(·=.int .u32 aP),Tr,(·=.int .u32 D),Tr,(·=.int .u32 aQ),Tr,Tr,Tr,(·=b),(Pp 0 b),Tr,Tr,(·=b),(Pp r b),Tr,Tr,Tr]) [(1,nF),(3,nF),(5,nF),(6,nF),(8,nF),(9,nF),(10,nF),(13,nF),(15,nF),(17,nF),(18,nF),(19,nF),(22,nF),(23,nF),(26,nF),(27,nF)] (⟨n.o.1.drew,n.o.2.1.to<|(Sf _ _).drew,n.o.2.2.to<|(Sf _ _).drew⟩) ⟨?_,?_,?_,?_,?_,?_,?_,?_,?_,?_,?_,?_,?_,?_,?_,?_,?_,?_,?_,?_,?_,?_,?_,?_,?_,?_,?_,?_,?_,trivial⟩ ?_;intro m c a l e f j;have dJ:=Sl 10<|l 10 Z;exact .q (g:=⟨Z,a,Qa⟩);intro m c a l e f j;have dK:=Sv 121 e 0;have⟨x,g,_⟩:=a.2.2.at8 7 Y;exact .q (g:=⟨trivial,a,Qc ⟨_,Z⟩<|Qa⟩);exact Pf 15;intro m c a l e f j;have dL:=Sv 123 e 2;refine .c (oz D 6 Un c) ?_;rintro v B ⟨aR,ag,ah⟩;subst ag;subst ah;exact⟨_,Z,⟨trivial,a,Qb<|Qc ⟨_,Z⟩<|Q4<|Q4<|Q4<|Q2<|Qe⟩⟩;exact Pf 15;intro m c a l e f j;have dM:=Sv 125 e 4;refine .c (oz D 11 Un c) ?_;rintro v B ⟨aR,ag,ah⟩;subst ag;subst ah;exact⟨_,Z,⟨trivial,a,Q2<|Qc ⟨_,Z⟩<|Q4<|Q4<|Q4<|Qb<|Qe⟩⟩;intro m c a l e f j;obtain⟨dN,bz⟩:=kW f 1;have dO:=Sl 124 bz;obtain⟨dP,bA⟩:=kW f 2;have dQ:=Sl 126 bA;exact .q (g:=⟨trivial,a,Q2<|Qb<|Qc ⟨_,Z⟩<|Qa⟩);exact Pf 15;intro m c a l e f j;have dR:=Sv 128 e 7;refine .c (oz D 25 Un c) ?_;rintro v B ⟨aR,ag,ah⟩;subst ag;subst ah;exact⟨_,Z,⟨trivial,a,Q4<|Qc ⟨_,Z⟩<|Q4<|Q4<|Q2<|Qb<|Qe⟩⟩;intro m c a l e f j;obtain⟨dS,bB⟩:=kW f 3;have dT:=Sl 127 bB;obtain⟨dU,bC⟩:=kW f 4;have dV:=Sl 129 bC;exact .q (g:=⟨trivial,a,Q4<|Qb<|Qc ⟨_,Z⟩<|Qa⟩);intro m c a l e f j;obtain⟨dW,bD⟩:=kW f 0;have dX:=Sl 122 bD;obtain⟨dY,bE⟩:=kW f 5;have dZ:=Sl 130 bE;exact .q (g:=⟨trivial,a,Q4<|Q2<|Qc ⟨_,Z⟩<|Qa⟩);exact Pf 15;exact Pf 16;intro m c a l e f j;have ea:=Sv 132 e 11;have eb:=Sv 133 e 12;exact .q (g:=⟨trivial,a,Q4<|Q2<|Qb<|Qc ⟨_,Z⟩<|Qa⟩);exact Pf 15;intro m c a l e f j;have ec:=Sv 135 e 14;clear l e f j;exact .q (g:=⟨trivial,a,Q4<|Q4<|Qc ⟨_,Z⟩<|Qa⟩);exact Pf 17;intro m c a l e f j;obtain⟨ed,bF⟩:=kW f 8;have ee:=Sl 136 bF;have ef:=Sv 137 e 16;exact .q (g:=⟨trivial,a,Q4<|Q4<|Qb<|Qc ⟨_,Z⟩<|Qa⟩);intro m c a l e f j;obtain⟨eg,bG⟩:=kW f 7;have eh:=Sl 134 bG;obtain⟨ei,bH⟩:=kW f 9;have ej:=Sl 138 bH;exact .q (g:=⟨trivial,a,Q4<|Q4<|Q2<|Qc ⟨_,Z⟩<|Qa⟩);intro m c a l e f j;obtain⟨ek,bI⟩:=kW f 6;have el:=Sl 131 bI;obtain⟨em,bJ⟩:=kW f 10;have en:=Sl 139 bJ;exact .q (g:=⟨trivial,a,Q4<|Q4<|Q2<|Qb<|Qc ⟨_,Z⟩<|Qa⟩);exact Pf 11;intro m c a l e f j;have eo:=Sv 141 e 20;exact .q (g:=⟨Z,a,Qa⟩);intro m c a l e f j;have ep:=Sv 142 e 21;have⟨x,g⟩:=(aU.kv (a.1.B _ aV) a.1.size).ll b w;exact .q (g:=⟨trivial,a,Q4<|Q4<|Q4<|Qc ⟨_,Z⟩<|Qa⟩);intro m c a l e f j;obtain⟨eq,bK⟩:=kW f 11;have er:=Sl 140 bK;obtain⟨es,bL⟩:=kW f 12;have et:=Sl 143 bL;exact .q (g:=⟨trivial,a,Q4<|Q4<|Q4<|Qb<|Qc ⟨_,Z⟩<|Qa⟩);exact Pf 11;intro m c a l e f j;have ai:=Sl 2<|l 2 Z;have eu:=Sv 145 e 24;exact .q (g:=⟨Z,a,Qa⟩);intro m c a l e f j;have ev:=Sv 146 e 25;have⟨x,g,_⟩:=a.2.1.at8 b w;exact .q (g:=⟨trivial,a,Q4<|Q4<|Q4<|Q2<|Qc ⟨_,Z⟩<|Qa⟩);intro m c a l e f j;obtain⟨ew,bM⟩:=kW f 13;have ex:=Sl 144 bM;obtain⟨ey,bN⟩:=kW f 14;have ez:=Sl 147 bN;exact .q (g:=⟨trivial,a,Q4<|Q4<|Q4<|Q2<|Qb<|Qc ⟨_,Z⟩<|Qa⟩);intro m c a l e f j;obtain⟨eA,bO⟩:=kW f 15;have eB:=Sl 148 bO;refine .h λaz K=>?_;go_simp;exact K<|⟨⟨_,Z⟩,a⟩;intro aj F L z;have⟨⟨bP,aS⟩,s⟩:=(show(∃d:Int,aj 28=.int .u32 d)/\Below p p F/\mE 295 F r 64/\mE 242 F C 8 from z)
  have y:=X s;clear s L;simp only[lz,Act.put,Rk,RA,Rx,Q7,Nat.reduceAdd];simp only[aS];clear aS;go_upto_region 20 with fail;go_cut [11,12,13,14,15,16,17,18,19,106]from 106 to 183 (λi M A aG v aH g ab ae af u=>af=b/\i=b/\M=.int .u32 aw/\A=.int .u32 bw/\aG=.int .u32 bx/\v=.int .u32 D/\aH=.int .u32 aP/\g=.int .u32 aQ/\ab=.int .u32 bP/\(∃d:Int,ae=.int .u32 d)/\u=F)
  .go_wp21;apply(oz aw 2 Un _).M;rintro v B ⟨eC,rfl,rfl⟩;go_wp21;apply(oz aw 13 Un _).M;rintro v B ⟨eD,rfl,rfl⟩;go_wp21;apply(oz aw 22 Un _).M;rintro v B ⟨eE,rfl,rfl⟩;go_wp21;go_meet;exact⟨Z,Z,Z,Z,Z,Z,Z,Z,Z,⟨_,Z⟩,Z⟩
  obtain⟨rfl,rfl,rfl,rfl,rfl,rfl,rfl,rfl,rfl,⟨eF,rfl⟩,rfl⟩:=hcut;obtain⟨F,rfl⟩:=Xq wc;have⟨aB,S,eG⟩:=y.o.2.2.at8 0 Y;have⟨aC,T,eH⟩:=y.o.2.2.at8 1 Y;have⟨aD,I,eI⟩:=y.o.2.2.at8 2 Y;have⟨aT,ao,eJ⟩:=y.o.2.2.at8 3 Y;have⟨aE,U,eK⟩:=y.o.2.2.at8 4 Y;have⟨aF,V,eL⟩:=y.o.2.2.at8 5 Y;have⟨P,aa,eM⟩:=y.o.2.2.at8 6 Y;have⟨Q,av,eN⟩:=y.o.2.2.at8 7 Y;go_wp21;go_roundw
  .refine⟨b+1,Y,Ur,?_,?_,?_⟩;repeat refine kD ?_ Y
   exact y.o.1;refine y.o.2.1.kv ?_;have aJ:r≠C:=Y;repeat refine(Q8 _ _ _ _ aJ).T ?_
   rfl;exact((((((((y.o.2.2.set 0 Y _).set 1 Y _).set 2 Y _).set 3 Y _).set 4 Y _).set 5 Y _).set 6 Y _).set 7 Y _)
  simp[intOf];omega
 obtain rfl:b=64:=Y;have⟨aB,S,_⟩:=n.o.2.2.at8 0 Y;have⟨aC,T,_⟩:=n.o.2.2.at8 1 Y;have⟨aD,I,_⟩:=n.o.2.2.at8 2 Y;have⟨aT,ao,_⟩:=n.o.2.2.at8 3 Y;have⟨aE,U,_⟩:=n.o.2.2.at8 4 Y;have⟨aF,V,_⟩:=n.o.2.2.at8 5 Y;have⟨P,aa,_⟩:=n.o.2.2.at8 6 Y;have⟨Q,av,_⟩:=n.o.2.2.at8 7 Y;have bQ:=(N.kv<|n.o.1.B q O)
 have bR:p.grownBy wr<|some q:=⟨n.o.1.os,n.o.1.tape,n.o.1.output,n.o.1.size,λbS bT _=>n.o.1.B bS bT⟩
 obtain⟨eO,rfl⟩:=Xq wr;go_wp21;clear S T I ao U V aa av;go_loopw [185] (λi wr=>∃b:Nat,b<=8/\i=b/\p.grownBy wr (some q)/\nh wr q) (λi _=>8-(intOf i).toNat)
 .exact⟨0,Y,Z,bR,bQ⟩
 clear w;obtain⟨b,ax,rfl,bU,bV⟩:=hrel;have n:=On bU bV;by_cases w:b<8
 .have aM:(0:Int)<=(b:Int):=Y;have ay:(b:Int)<8:=Y;go_upto_region 25 with fail;go_cut [20,21,185]from 185 to 200 (λM t af u=>af=b/\M=b/\(∃d:Int,t=.int .u32 d)/\u=wr)
  .have⟨yk,QL⟩:=Nr wr b w aB aC aD aT aE aF P Q;go_wp21;go_meet;exact⟨Z,Z,⟨_,Z⟩,Z⟩
  obtain⟨rfl,rfl,⟨bW,rfl⟩,rfl⟩:=hcut;obtain⟨R,rfl⟩:=Xq wc;go_upto_region 26 with fail;refine sf (λt=>p.grownBy t (some q)/\nh t q) (λk c=>p.grownBy c (some q)/\nh c q) (mM [(·=.pointer q),(·=b),(·=.pointer q),(·=.pointer q),(Pp q b),Tr,(·=.int .u32 bW),Tr,(·=.pointer q),(·=.pointer q),(Pp q b),Tr]) [(5,nF),(7,nF)] (⟨n.o.1.T ⟨Z,Z,Z,QX _,λ_ _ _=>Z⟩,n.o.2.kv Z⟩) ⟨?_,?_,?_,?_,?_,?_,?_,?_,?_,?_,?_,?_,trivial⟩ ?_;exact Pf 0;exact Pf 20;exact Pv 189 0;exact Pv 191 2;intro m c a l e f j;have eP:=Sv 192 e 3;have bX:=Sv 190 e 1;exact .q (g:=⟨Z,a,Qa⟩);intro m c a l e f j;have eQ:=Sv 193 e 4;have⟨x,g,_⟩:=a.2.word w;exact .q (g:=⟨trivial,a,Qc ⟨_,Z⟩<|Qa⟩);exact Pf 21;intro m c a l e f j;obtain⟨eR,bY⟩:=kW f 0;have eS:=Sl 194 bY;have eT:=Sv 195 e 6;exact .q (g:=⟨trivial,a,Qb<|Qc ⟨_,Z⟩<|Qa⟩);exact Pv 189 0;exact Pv 197 8;intro m c a l e f j;have eU:=Sv 198 e 9;have bX:=Sv 190 e 1;exact .q (g:=⟨Z,a,Qa⟩);intro m c a l e f j;have eV:=Sv 199 e 10;obtain⟨bZ,ca⟩:=kW f 1;have eW:=Sl 196 ca;have⟨x,g,aN,E⟩:=a.2.word w;have ac:=X<|E bZ;clear E;refine .h λaz K=>?_;go_simp;exact K<|⟨a.1.T<|kE _ _ _ _,ac.o⟩;intro aj F L z;have G:=X z;clear L z;simp only[lz,Act.put,Rk,RA,Rx];go_wp21;go_roundw
  .exact⟨b+1,Y,Ur,G.o.1,G.o.2⟩
  simp[intOf];omega
 obtain rfl:b=8:=Y;go_wp21
 go_end0
 exact⟨Z,n.o.1,n.o.2⟩
def xK(b g q:Nat)(r e)(E:nh e b)(F:qC e)(s:(0:Nat)≠b)(G:Hj b e r g)(I:g<=q)(ah:g<=140737488355328):
  Calls prog 79 #[.pointer b,.slice r g q] e (Mq e b):=by
 have J:=E;have t:=F;have K:=G
 go_enter func79,ntmps79
 go_wp21;go_loopw [1] (λm wr=>∃(i:RE) (c j:Nat),m=.slice i c j/\c<=g/\c<=j/\Hj b wr i c/\nh wr b/\e.grownBy wr (some b)) (λm _=>O8 m)
 .exact⟨_,_,_,Z,QX _,I,K,J,lC _ _⟩
 obtain⟨i,c,j,rfl,ai,L,u,n,v⟩:=hrel;by_cases M:0<c
 .have⟨aj,d,ak,w,al,am,an,ao,_⟩:=n.Ns;have ap:IntKind.i64.wrap (d:Int)=(d:Int):=Uq;have aq:=Ea b d w wr;have⟨a,x⟩:=Xq<|min c<|64-d;have N:a<=c:=Y;have ar:0<a:=Y;have au:d+a<=64:=Y;have O:=X x;clear x;have av:IntKind.u64.wrap (a:Int)=(a:Int):=Uq;have aw:IntKind.i64.wrap ((d:Int)+(a:Int))=((d+a:Nat):Int):=Uq;go_upto_region 3 with fail;go_wp2_with (refine yh Z _ _ Z b d c j (64-d) i Z Z n u w M O.o ?_);intro k P y;have⟨ax,ay,Q⟩:=GD k i c j a N L;have R:=X Q;have S:=(qp v y)
  have T:=(u.grown y)
  have⟨l,az,aA,U⟩:=P.Nt;have V:=X U;have z:=(V.o (IntKind.u64.wrap<|l+(a:Int))<|Mp _)
  have p:=(qp S<|kE k b 72<|.int .u64<|IntKind.u64.wrap<|l+(a:Int))
  have A:=((T.grown<|kE k b 72<|.int .u64<|IntKind.u64.wrap<|l+(a:Int)).low R.o)
  have aa:=X<|show∀f,nh f b->e.grownBy f (some b)->Calls prog 119 #[.pointer b] f (Fq f b)from λf ab B=>KE b f ab (t.kv (B.B _ t.lt λC=>s<|by injection C) B.size) s;by_cases aB:d+a=64
  .have ac:((d:Int)+(a:Int)==64)=true:=(by rw[R2];omega);go_upto_region 7 with fail;generalize k.setCell ⟨b,72,none⟩ (.int .u64<|IntKind.u64.wrap<|l+(a:Int))=ad at*;go_wp21;apply(aa.o ad z p).M;rintro C aC ⟨rfl,D,ae⟩;have af:=(qp p D)
   have ag:=(A.grown D)
   go_wp21;go_roundw
   .exact⟨_,_,_,Z,Y,Y,ag,ae,af⟩
   show c-a<c;omega
  have ac:((d:Int)+(a:Int)==64)=false:=(by rw[QW];omega);go_wp21;refine⟨⟨_,_,_,Z,Y,Y,A,z,p⟩,?_⟩;show c-a<c;omega
 obtain rfl:c=0:=Y;go_wp21
 go_end0
 exact⟨Z,n,v⟩
def xL(a)(d:Func)(e)(b:Nat)(c)(f:d.results=#[ResultVar.cell 2 103])(g:e[2]?=some (.pointer b))(i:a.heap[b]?=some (.cells c 103 (0,0)))(j:c.size=32):(results d e).run prog a=.ok (.agg c) a:=by have k:=run_loadVar_mid (P:=prog) a b 0 103 c.toList _ (xl i) underlying103 Z (by rw[RV,j];exact wJ);simp[results,f,g,k,asAddr]
def IX(b:Nat)(c)(h:nh c b)(aE:qC c)(bX:(0:Nat)<c):Calls prog 80 #[.pointer b] c<|H9 c:=by
 have⟨ak,al,_⟩:=id h;have⟨aF,V⟩:=h.one al;have aa:=h.lt;have am:=h;have aG:=aE;have N:Below c c<|c.alloc<|.cells tE 103:=Ba c _;have x:pX 103 (c.alloc<|.cells tE 103) c 32:=pX.zero<|QQ _ _;have an:=X<|show(c.alloc<|.cells tE 103).heap[b]?=some (.cells ak 246 (0,0))from(N.B b aa).T al;have aH:=X<|show(c.alloc<|.cells tE 103).heap.size=c+1 from Uo;have O:=On aF V
 go_enter func80,ntmps80
 go_upto_region 3 with fail;generalize(c.alloc<|.cells tE 103)=y at*;have⟨d,ab⟩:=Xq c.heap.size;rw[<-ab]at x⊢;have s:=X ab;clear ab;go_upto_region 4 with(first|(refine wpList_load_mid rfl _ _ rfl b 0 rfl ak.toList _ (xl an.o) underlying246 rfl (by rw[RV,O.o.1];exact zl) ?_)|(refine pk rfl _ _ _ rfl y.heap.size _ _ _ rfl rfl (QQ _ _) (by rw[O.o.1];kernel_rfl) (by rw[O.o.1];exact zl) O.o.2 ?_;intro e ao A P))
 have⟨m,ac⟩:=Xq y.heap.size;rw[QR]at P;rw[<-ac]at ao A P⊢;have aI:d<m:=Ul aH.o s.o
 have bY:m<e:=Y
 have bZ:b<d:=W s.o
 have ad:Below m y e:=by rw[ac];exact⟨A.os,A.tape,A.output,Y,λa ae=>(A.B a Us λq=>by injection q;omega).T<|Q5 _ _ ae⟩
 have ap:=((show nh y b from am.kv<|N.B b aa).same an.o ao)
 have aJ:=((show nh y b from am.kv<|N.B b aa).kv<|ad.B b Y)
 have aK:=(x.kv<|ad.B d aI)
 have af:Below d c e:=by rw[s.o];exact N.T<|ad.M<|W s.o
 have⟨ca,f,cb,cc,cd,ce,cf,cg,_⟩:=ap.Ns;have ch:IntKind.i64.wrap (f:Int)=(f:Int):=Uq
 have ci:IntKind.i64.wrap (56-(f:Int))=56-(f:Int):=Uq
 have cj:IntKind.i64.wrap (56-(f:Int)+64)=56-(f:Int)+64:=Uq
 clear ac;go_upto_region 6 with fail;go_cut [5,23] (λv aL ag=>v=.int .i64 (56-(f:Int))/\aL=.bool (decide (56-(f:Int)<=0))/\ag=e)
 .go_wp21;go_meet;exact⟨Z,Z,Z⟩
 obtain⟨rfl,rfl,rfl⟩:=hcut;obtain⟨e,rfl⟩:=Xq wc;go_step;go_cut [5] (λv ag=>(∃j:Nat,1<=j/\j<=64/\v=j)/\ag=e)
 .by_cases h9:f<=55
  .have aM:¬(56-(f:Int)<=0):=Y;have aN:decide (56-(f:Int)<=0)=false:=Us;go_wp21;go_meet;exact⟨⟨56-f,Y,Y,by congr 1;omega⟩,Z⟩
  have aM:56-(f:Int)<=0:=Y;have aN:decide (56-(f:Int)<=0)=true:=Us;go_wp21;go_meet;exact⟨⟨120-f,Y,Y,by congr 1;omega⟩,Z⟩
 obtain⟨⟨j,ck,cl,rfl⟩,rfl⟩:=hcut;obtain⟨e,rfl⟩:=Xq wc;have⟨n,aO⟩:=Xq<|j+8;have cm:j<=n:=Y;have cn:n<=72:=Y;have co:IntKind.i64.wrap ((j:Int)+8)=(n:Int):=Uq;clear aO;have aP:=Fo j n Y Y e;have⟨g,B⟩:=Xq e.heap.size;rw[<-B]at aP;have Q:m<g:=Y;have R:=X B;have aQ:pq (e.alloc<|GB n) g n:=⟨_,by rw[B];exact QQ _ _,zk _,Fm _⟩
 have aR:Below g e<|e.alloc<|GB n:=(by rw[B];exact Ba _ _);clear B;go_upto_region 9 with fail;generalize e.alloc (GB n)=aS at*;have⟨aT,aU,aV,aW⟩:=aQ.get (i:=0) Y;have aq:=(aW 128)
 have C:=(kD (z:=g) (i:=0) (u:=.int .u8 128) aR<|QX _)
 go_upto_region 10 with fail;generalize aS.setCell g (.int .u8 128)=D at*;have cp:g<D:=(by have⟨_,aX,_⟩:=aq;exact(QP.1 aX).1);have aY:=aJ.kv<|C.B b Y;have⟨cq,cr,_,_⟩:=aY.Nt;have⟨ah,aZ,S,ba⟩:=aq;have bb:=pq.ints ba S;have bc:D.ownsRow g 5 1 (g,j,n) j<|ah.toList.take j:=⟨by simp[S];omega,.inr ⟨g,n,ah,Z,QX _,aZ,Y,Uw,Y,by rw[Ry]⟩⟩
 have bd:=X<|show∀u∈ah.toList.take j,∃ar:Int,u=.int .u8 ar from λu E=>bb u<|SH E;have⟨be,bf,bg,P,bh⟩:=Rj Fk;have T:=OK bf bg P bh;have cs:m<D:=Y;go_wp21;apply(GC _ D).M;rintro q au ⟨rfl,av,k⟩;have⟨aw,ax⟩:=Xq D.heap.size;rw[<-ax]at av k⊢;have⟨ay,bi,az,bj⟩:=av;have bk:=pq.ints bj az;have ct:=k.size;have cu:g<aw:=Y;have cv:g<=au:=Y;have cw:m<au:=Y;have bl:=(bc.kept (row:=none) ⟨k.os,k.tape,k.output,k.size,λa ae _=>k.B a Y⟩<|.inr UG)
 have bm:=X bi;have bn:ay.toList.length=8:=(by simpa using az);have aA:=X bk;clear ax;go_wp2_with (at_builtin;refine Tm _ Z _ _ 22 Z g 5 be (.int .u8 0) 1 1 underlying22 T.o.1 T.o.2.1 T.o.2.2.1 T.o.2.2.2 Z Un _ _ _ Z bl ⟨aw,0,none⟩ 8 8 ay.toList Z (by rw[bn]) ?c1 ?c2 ?c3 ?c4 ?c5 ?_);case c1=>intro bo u bp;rw[addr_add,Q7];exact kA bm.o bo u (by simpa using bp)
 case c2=>intro u E;obtain⟨ar,rfl⟩:=aA.o u E;rfl
 case c3=>unfold maxLen;omega
 case c4=>omega
 case c5=>omega
 intro cx ai bq F _;obtain⟨br,c5,rfl,bs,bt⟩:=KF (b:=m) bq (λu E=>by rcases SG.1 E with h|h;exact bd.o u h;exact aA.o u h) Q Y;have cy:=F.size;have cz:=R.o;have U:=X<|show∀l,l<g->ai.heap[l]?=e.heap[l]? from λl G=>(F.B l (W k.size)<|by simp[Value.ownBlock];omega).T<|(k.B l Y).T<|C.B l G;have I:Below g e ai:=⟨F.os.T<|k.os.T C.os,F.tape.T<|k.tape.T C.tape,F.output.T<|k.output.T C.output,W k.size,λl G=>U.o l G⟩
 have bu:=(ap.kv<|U.o m Q)
 have bv:=(aG.kv ((U.o _<|W s.o).T<|af.B _<|W s.o)<|Ul af.size I.size)
 have bw:(0:Nat)≠m:=W s.o;go_wp21;apply(xK m (j+8) c5 br ai bu bv bw bt bs Y).M;rintro q r ⟨rfl,aB,w⟩;have cA:=w.size;have bx:d<r:=Ul R.o I.size;have bz:m<r:=aB.lt;have bA:Below d c r:=(af.T<|I.M Y).T ⟨w.os,w.tape,w.output,w.size,λl G=>w.B l (Ul R.o I.size) λq=>by injection q;omega⟩;have bB:=(aK.kv<|(w.B d (Ul R.o I.size) λq=>by injection q;omega).T<|U.o d Y)
 have⟨J,aj⟩:=Xq r.heap.size;have p:pX 103 (r.alloc<|.cells tE 103) J 32:=pX.zero (by rw[aj];exact QQ _ _);have bC:pX 103 (r.alloc<|.cells tE 103) d 32:=bB.kv<|Q5 _ _ bx;have t:nh (r.alloc<|.cells tE 103) m:=aB.kv<|Q5 _ _ bz;have bD:Below d c<|r.alloc<|.cells tE 103:=bA.alloc Y _;have cB:d<J:=Y;have bE:=X aj;clear aj;go_upto_region 12 with fail;rw[<-bE.o];generalize r.alloc (.cells tE 103)=cC at*;have⟨bF,aU⟩:=t.at8 0 Y;have⟨bG,c1⟩:=t.at8 1 Y;have⟨bH,c2⟩:=t.at8 2 Y;have⟨bI,c3⟩:=t.at8 3 Y;have⟨bJ,c4⟩:=t.at8 4 Y;have⟨bK,c5⟩:=t.at8 5 Y;have⟨bL,cD⟩:=t.at8 6 Y;have⟨bM,cE⟩:=t.at8 7 Y;go_wp21;go_loopw [43] (λi wr=>∃a:Nat,a<=8/\i=a/\pX 103 wr J 32/\pX 103 wr d 32/\Below d c wr) (λi _=>8-(intOf i).toNat)
 .exact⟨0,Y,Z,p,bC,bD⟩
 obtain⟨a,ae,rfl,p,x,aC⟩:=hrel;have cF:=p.lt;by_cases bN:a<8
 .have cG:(a:Int)<8:=Y;have⟨cH,cI⟩:=Nr wr a bN bF bG bH bI bJ bK bL bM;have cJ:IntKind.i64.wrap (4*(a:Int))=((4*a:Nat):Int):=Uq;have⟨aT,cK,aV⟩:=p.ll (i:=4*a) Y;have⟨cL,cM,cN⟩:=p.ll (i:=4*a+1) Y;have⟨cO,cP,cQ⟩:=p.ll (i:=4*a+2) Y;have⟨cR,cS,cT⟩:=p.ll (i:=4*a+3) Y;go_wp21;go_roundw
  .refine⟨a+1,Y,Ur,?_,?_,?_⟩;exact(((p.set (4*a) _).set (4*a+1) _).set (4*a+2) _).set (4*a+3) _;refine x.kv ?_;have bO:d≠J:=Y;repeat refine(Q8 _ _ _ _ bO).T ?_
   rfl;repeat refine kD ?_ Y
   exact aC
  simp[intOf];omega
 obtain rfl:a=8:=Y;obtain⟨cU,rfl⟩:=Xq wr;have⟨K,aD,bP,bQ⟩:=id p;have bR:=X aD;have V:=(p.one aD).2;have bS:=X V;have L:=On bP bQ;have⟨bT,bU,S,_⟩:=x;have bV:=X bU;go_wp2_with (first|(refine wpList_load_mid Z _ _ Z J 0 Z K.toList _ (xl bR.o) underlying103 Z (by rw[RV,L.o.1];exact wJ) ?_)|(refine pk Z _ _ _ Z d bT K _ Z Z bV.o (by rw[S,L.o.1]) (by rw[L.o.1];exact wJ) bS.o ?_;intro cV bW M cW));have Q:=s.o;refine QY (v:=.agg K) (xL _ _ _ d K Tryz.results80 Z bW L.o.1) Z ⟨⟨K,Z,L.o⟩,?_⟩;rw[<-Q];exact aC.T ⟨M.os,M.tape,M.output,M.size,λl G=>M.B l Y λq=>by injection q;omega⟩
def KH(n)(d w:Nat)(a)(F:0<d->∃c o,n=some ⟨c,o,none⟩/\c<a.heap.size/\∀i,i<d->∃p:Int,a.cell? ⟨c,o+i,none⟩=some (.int .u8 p))(V:d<=w)(aa:d<=140737488355328)(x:qC a):
  Calls prog 34 #[.slice n d w] a (H9 a):=by
 have ab:=X x;have ac:=x.lt;have ad:=X F;have q:=X<|show Below a a (a.alloc<|.cells tE 103)from Ba a _;have G:=X<|show pX 103 (a.alloc<|.cells tE 103) a 32 from pX.zero<|QQ _ _;have I:=X<|show(a.alloc<|.cells tE 103).heap.size=a+1 from Uo;clear x F
 go_enter func34,ntmps34
 go_upto_region 1 with fail;generalize(a.alloc<|.cells tE 103)=J at*;have⟨e,y⟩:=Xq a.heap.size;rw[<-y]at G ac⊢;have r:=X y;clear y;go_wp21;apply(IW J).M;rintro b K ⟨rfl,s,f⟩;have L:=I.o;have z:=r.o;have⟨j,M⟩:=Xq J.heap.size;rw[<-M]at s f⊢;have ae:e<j:=Y
 have af:=X s;have A:=X f;have ay:=s.lt;have B:=X<|ab.o.kv ((f.B _ Y).T<|q.o.B _ Y)<|Ul q.o.size f.size;have ag:=X (show Hj j K n d from λah=>by have⟨c,o,b,az,ai⟩:=ad.o ah;refine⟨c,o,b,Y,Y,λi aj=>?_⟩;have⟨p,t⟩:=ai i aj;exact⟨p,(Cb c (o+i)<|(f.B c Y).T<|q.o.B c Y).T t⟩)
 clear s f M L z;go_wp21;apply(xK j d w n K af.o B.o Y ag.o V aa).M;rintro b C ⟨rfl,N,k⟩;have ak:=X N;have g:=X k;have aA:=k.size;have O:=X<|B.o.kv (k.B _ B.o.lt λb=>by injection b;omega) k.size;clear N k;have al:(0:Nat)<C:=O.o.lt;go_wp21;apply(IX j C ak.o O.o al).M;rintro b am ⟨⟨l,rfl,P,D⟩,Q⟩;have R:=X Q;have u:=On P D;have S:=X (show Below e a am from by have z:=r.o;have L:=I.o;have an:=q.o.T<|A.o.M<|show a<=j from Y;have T:Below a a C:=an.T ⟨g.o.os,g.o.tape,g.o.output,g.o.size,λE ao=>g.o.B E (W A.o.size) λb=>by injection b;omega⟩;rw[z];exact T.T<|R.o.M<|W T.size)
 have ap:=X<|G.o.kv<|(R.o.B e Y).T<|(g.o.B e Y λb=>by injection b;omega).T<|A.o.B e ae;have⟨aq,U,ar,_⟩:=ap.o;have au:=X U;have av:=X (show l.all (·.oneCell')=true from TJ.2 λaw aB=>by have⟨p,t⟩:=D aw Y;rw[Q7]at t;rw[(QP.1 t).2];rfl)
 clear Q U P D;go_wp2_with (refine pk Z _ _ _ Z e aq l _ Z Z au.o (by rw[ar,u.o.1]) (by rw[u.o.1];exact wJ) av.o ?_;intro aC ax m aD);refine QY (v:=.agg l) (xL _ _ _ e l Tryz.results34 Z ax u.o.1) Z ⟨⟨l,Z,u.o⟩,?_⟩;rw[<-r.o];exact S.o.T ⟨m.os,m.tape,m.output,m.size,λE ao=>m.B E (Ul S.o.size r.o) λb=>by injection b;omega⟩
def nu{T:lj}{d:PV}{w}{pb pos q:Nat}(g:mh T d w pb pos)(b)(a:tu T b pos=some q)(i:b≠[]):Calls prog 95 #[.pointer pb,tx b] w λe w'=>(∃v,e=.returned v)/\lN T d w pb q w':=by
 unfold tu at a;by_cases c:ow T pos=b
 .rw[RB c]at a;injection a with a;subst a;have f:=(uG g b i)
  rw[R2.2 c]at f
  go_enter func95,ntmps95
  go_wp21;apply f.M;rintro e w' ⟨rfl,j⟩;go_wp21
  go_end0
  exact⟨⟨_,Z⟩,j⟩
 rw[Rh c]at a;cases a
def Eu{b:lj}{m:PV}{w}{i c n:Nat}{p}(q:mh b m w i c)(a:wY b c=some (p,n)):Calls prog 143 #[.pointer i] w λd r=>d=.returned (.bool p)/\lN b m w i n r:=by
 have e:=(uG q [116,114,117,101] Un)
 unfold wY at a;by_cases f:ow b c=[116,114,117,101]
 .rw[RB f]at a;injection a with a;injection a with j k;subst j k;rw[R2.2 f]at e
  go_enter func143,ntmps143
  go_wp21;apply e.M;rintro d s ⟨rfl,g⟩;go_wp21;go_ret;exact⟨Z,g⟩
 rw[Rh f]at a;rw[Tf f]at e;by_cases l:ow b c=[102,97,108,115,101]
 .rw[RB l]at a;injection a with a;injection a with j k;subst j k;have t:tu b [102,97,108,115,101] c=some (c+1):=by unfold tu;rw[RB l]
  go_enter func143,ntmps143
  go_wp21;apply e.M;rintro d s ⟨rfl,g⟩;go_wp21;apply(nu g.1 _ t Un).M;rintro d v ⟨⟨x,rfl⟩,u⟩;go_wp21;go_ret;exact⟨Z,g.T u⟩
 rw[Rh l]at a;cases a
def zt{T:lj}{n:PV}{j m y:Nat}{s:Type}(t:Nat->Option (s×Nat))(E:List s)(e:tI T t m=some (E,y))(u:FuncId)(F:Array R0)(ay:∀(G:Array R0) (b:RW),Sem.run prog (callFunc u G) b=.ok (.enter u G) b)(k:List s->RW->Prop)
  (ab:∀c b w',k c b->b.grownBy w' (some j)->k c w')
  (I:∀a f g,t a=some (g,f)->a<f)
  (ac:∀c a f g b,t a=some (g,f)->mh T n b j a->k c b->c.length<=20000->Calls prog u F b λd w'=>(∃v,d=.returned v)/\mh T n w' j f/\k (c++[g]) w')
  (b:RW) (ad:mh T n b j m) (ae:k [] b):
  Calls prog 199 #[.pointer j,.func (.func u) #[] F] b λd w'=>(∃v,d=.returned v)/\mh T n w' j y/\k E w':=by
 unfold tI at e;by_cases z:ow T m=[40]
 .rw[RB z]at e;have J:=ad;have i:=(RC ab<|RC I ac)
  have K:=ae;have L:tu T [40] m=some (m+1):=(by unfold tu;rw[RB z]);by_cases w:ow T (m+1)=[41]
  .rw[RB w]at e;injection e with e;injection e with af ag;subst af ag
   go_enter func199,ntmps199
   go_wp21;apply(nu J _ L Un).M;rintro d ah ⟨⟨v,rfl⟩,A⟩;go_wp21;apply(sF A _ Un w).M;rintro d M ⟨rfl,l⟩;go_wp21;refine QY (results_none Z _ _ _) Z ?_;exact⟨⟨_,Z⟩,l.1,i.1 _ _ _ K l.2⟩
  rw[Rh w]at e;obtain⟨g,f,N,O,rfl,ai⟩:=rQ e
  go_enter func199,ntmps199
  go_wp21;apply(nu J _ L Un).M;rintro d ah ⟨⟨v,rfl⟩,A⟩;go_wp21;apply(mF A _ Un w).M;rintro d M ⟨rfl,l⟩;go_wp21;apply(i.2.2 [] _ _ g M O l.1 (i.1 _ _ _ K l.2) Uo).M;rintro d az ⟨⟨aA,rfl⟩,aj,ak⟩;have B:=(RC aj ak)
  go_wp21
  go_loopg [] (T.length-f) (λal wr=>∃(c C:List s) (a:Nat),c++C=g::N/\c.length<=a/\a+al=T.length/\mh T n wr j a/\k c wr/\Ib T t a C y)
  .have hs:=B.1.small;have:=i.2.1 _ _ _ O;exact⟨[g],N,f,Z,Us,Y,B.1,B.2,ai⟩
  have⟨c,C,a,p,aB,aC,P,Q,am⟩:=hrel;have aD:=P.small;have R:=(lN.refl P)
  rcases am with⟨x,aE,an⟩|⟨x,rfl,rfl⟩
  .obtain⟨S,U,ao,ap,rfl,aq⟩:=rQ an;have D:=(RC ap aq)
   go_wp21;apply(sF R _ Un x).M;rintro d V ⟨rfl,q⟩;go_wp21;apply(i.2.2 c _ _ S V D.1 q.1 (i.1 _ _ _ Q q.2) Y).M;rintro d ar ⟨⟨au,rfl⟩,aa,av⟩;have r:=(RC aa av)
   have aF:=aa.small;have I:=i.2.1 _ _ _ D.1;go_wp21
   go_roundg (T.length-U)
   case measure=>omega
   case rel=>exact⟨c++[S],ao,U,by rw[Ru];exact p,by rw[Q3];simp;omega,Y,r.1,r.2,D.2⟩
  have aw:ow T a≠[44]:=(by rw[x];decide);have ax:tu T [41] a=some (a+1):=(by unfold tu;rw[RB x]);go_wp21;apply(mF R _ Un aw).M;rintro d V ⟨rfl,q⟩;go_wp21;apply(nu q.1 _ ax Un).M;rintro d ar ⟨⟨au,rfl⟩,l⟩;have r:=(q.T l)
  go_wp21
  go_end0
  have p:=p;rw[Sb]at p;exact⟨⟨_,Z⟩,r.1,by rw[<-p];exact i.1 _ _ _ Q r.2⟩
 .rw[Rh z]at e;cases e
def Fx{b c:RW}{d:Option Nat}(a:b.grownBy c d):b.grownBy c.drew d:=⟨a.os,a.tape,a.output,a.size,a.B⟩
def vP(w:RW)(o:Obj):w.grownBy (w.alloc o).drew none:=Fx<|QV w o none
def yL(a:RW):a.grownBy a.drew none:=Fx<|lC a none
def KS{B:lj}{t:PV}{g u k}{m a n d e c p:Nat}{C:Int}{D E i J}{q x:Ex}(U:t.lo<=d)(K:mh B t u m a)(j:Hl g m n d C D E i J u)(F:u.grownBy k J.ownBlock)(L:i.length=c)
  (G:k.ownsRow g 203 4 (e,c+1,p) (c+1)<|tV i++AY q):
  wV B t g m a n d C D E (i++[x]) ((kZ k e (c*4)<|AY x).setCell (sz d) (e,c+1,p))/\wV B t g m a n d C D E (i++[x]) (kZ (k.setCell (sz d) (e,c+1,p)) e (c*4)<|AY x):=by
 have⟨M,N,v,I,w,V⟩:=j.lt;have aa:g<=e:=(pE G e Z).1;have O:=F.size;have r:∀a,a<g.heap.size->k.heap[a]?=u.heap[a]?:=λa y=>F.B a Y λb=>W<|(pE j.own a b.symm).1;have z:∀(f:RW) (s:R0),(f.setCell (sz d) s).heap.size=f:=λf s=>QU _ _ _;have A:∀(f:RW) (s:R0) (a:Nat),a≠d->(f.setCell (sz d) s).heap[a]?=f.heap[a]?:=λf s a y=>Q0 _ _ _ _ y;have l:∀(f:RW) (a:Nat),a≠e->(kZ f e (c*4)<|AY x).heap[a]?=f.heap[a]?:=λf a y=>mX y;have P:=(r d I).T j.ex;have Q:(tV i).length=c*4:=by rw[BV,L]
 have R:(i++[x]).length=c+1:=by rw[Q3,L];rfl
 have S:qx g k m d:=j.g.lK F λq b=>(pE j.own q b).1;refine⟨⟨K.kv (by rw[z,mf];exact O) (λa T=>by rw[A _ _ _ Y,l _ _ Y];exact r a Y),.slice e (c+1) p,?_,?_,?_,?_,M,N,v,I,w,?_⟩,⟨K.kv (by rw[mf,z];exact O) (λa T=>by rw[l _ _ Y,A _ _ _ Y];exact r a Y),.slice e (c+1) p,?_,?_,?_,?_,M,N,v,I,w,?_⟩⟩
 .rw[A _ _ _ w,l _ _ Y];exact(r n v).T j.bx
 .exact kr<|(l _ _ Y).T P
 .rw[R,zv];exact(Fw G Q Z Z).kept (kE _ _ _ _) (.inr λb=>by simp[Value.ownBlock]at b;omega)
 .exact(S.lK (pT _ _ _ _) λq b=>by injection b with b;omega).wZ (kE _ _ _ _)
 .rw[z,mf];omega
 .rw[l _ _ Y,A _ _ _ w];exact(r n v).T j.bx
 .rw[l _ _ Y];exact kr P
 .rw[R,zv];exact Fw (G.kept (kE _ _ _ _)<|.inr λb=>by simp[Value.ownBlock]at b;omega) Q Z Z
 .exact(S.wZ<|kE _ _ _ _).lK (pT _ _ _ _) (λq b=>by injection b with b;omega)
 .rw[mf,z];omega
def Ic{g:lj}{vQ:PV}{e i f}{pb j k c b a l:Nat}{m:Int}{n p d r}{s x:Ex}(t:vQ.lo<=c)(u:mh g vQ i pb j)(v:Hl e pb k c m n p d r i)(w:i.grownBy f r.ownBlock)(y:d.length=a)
  (z:f.ownsRow e 203 4 (b,a+1,l) (a+1)<|tV d++AY s):
  wV g vQ e pb j k c m n p (d++[x]) (((((f.setCell ⟨b,a*4,none⟩<|.int .u8 x.op).setCell ⟨b,a*4+1,none⟩<|tx x.name).setCell ⟨b,a*4+2,none⟩<|.int .i64 x.n).setCell ⟨b,a*4+3,none⟩ Nl).setCell (sz c) (b,a+1,l))/\wV g vQ e pb j k c m n p (d++[x]) (((((f.setCell (sz c) (b,a+1,l)).setCell ⟨b,a*4,none⟩<|.int .u8 x.op).setCell ⟨b,a*4+1,none⟩<|tx x.name).setCell ⟨b,a*4+2,none⟩<|.int .i64 x.n).setCell ⟨b,a*4+3,none⟩ Nl):=by
 have q:=KS (x:=x) t u v w y z;unfold AY at q;rw[Fy,Fy]at q;exact q
def I9{q:lj}{vQ:PV}{pb F v l b:Nat}{x}{w:Int}{y z c}(m a)(G:qE q F=some (x,v))(I:mh q vQ a pb F)(f:C4 m pb l b w y z c a)(J:vQ.lo<=b)(ax:c.length<=20000):
  Calls prog 236 #[Nl,.pointer b,.pointer l] a λr Q=>(∃A,r=.returned A)/\wV q vQ m pb v l b w y z (c++[x]) Q:=by
 have⟨K,L,M,N,O⟩:=Rj My;have⟨A,f⟩:=f;have⟨ay,az,aA,aB,aC,aD⟩:=f.lt;have R:=X<|GU (vQ:=vQ) (pb:=pb) G;have S:=X I;have aE:=kt f.bx 0;have aF:l<a:=Y
 have aG:b<a:=Y
 obtain⟨s,t,rfl⟩:∃s t,A=.slice s c.length t:=by
  rcases f.own.2 with⟨rfl,T⟩|⟨g,P,aH,rfl,_⟩
  exact⟨none,0,by rw[T]⟩;exact⟨_,_,Z⟩
 have U:=kt f.ex 3;have V:=X f;have B:c.length+1<=maxLen:=Uw
 have C:(c.length+1)*56<=140737488355328:=Y
 obtain⟨e,j⟩:∃e,c.length=e:=⟨_,Z⟩
 rw[j]at U B C;have aI:(0:Int)<=(e:Int):=Y
 have aJ:(e:Int)<(e:Int)+1:=Y
 clear G I f
 go_enter func236,ntmps236
 go_upto_region 0 with fail;go_cut [] (λaa=>wV q vQ m pb v l b w y z (c++[x]) aa)
 .go_region_law (first|(go_simp;go_at_call 237;refine Calls.M (R.o _<|S.o.grown<|by first|exact yL a|exact vP a _) ?_;rintro r d ⟨rfl,u⟩;have i:=(V.o.kv<|kK (by first|exact yL a|exact vP a _) _).kv u.2;have ab:=kt i.ex 3;rw[j]at i ab;have D:=i.own;rw[j]at D;have aK:=i.lt.2.2.2.2.2;have aL:b<d:=Y;(try (have ac:d.heap[a.heap.size]?=some ks:=(u.2.B a (by simp[World.drew]) λr=>by injection r;omega).T<|QQ a ks)))|(refine TR d (by rfl) (.tmp 7) (.tmp 11) 196 (by rfl) m 203 K _ 4 56 underlying196 L M N O Z Un (.slice s e t) e (tV c) (by rfl) D ⟨a,0,none⟩ 1 1 (AY Od) (by rfl) (by rfl) (TA ac) UK Un B C Y d Z ?_;intro g P ad k n ae af;have E:=Ic (x:=x) J u.1 i n j k;have⟨⟨ag,ah,ai,aj⟩,ak,al,am,an⟩:=Ie j k;have p:=Ln i n;have ao:=kt p 3;have ap:=kx p 3;have aq:=(pE k g Z).1;have ar:g≠b:=Y;have au:b≠g:=Y)|(refine TR (d.alloc ks) (by rfl) (.tmp 7) (.tmp 11) 196 (by rfl) m 203 K _ 4 56 underlying196 L M N O Z Un (.slice s e t) e (tV c) (by rfl) (D.alloc _) ⟨d,0,none⟩ 1 1 (AY Od) (by rfl) (by rfl) (TA<|QQ d _) UK Un B C Uu (d+1) Uo ?_;intro g P ad k n ae af;have E:=Ic (x:=x) J (u.1.ku<|Ba _ _) (i.kv<|kK (QV d ks none) _) n j k;have⟨⟨ag,ah,ai,aj⟩,ak,al,am,an⟩:=Ie j k;have p:=Ln (i.kv<|kK (QV d ks none) _) n;have ao:=kt p 3;have ap:=kx p 3;have aq:=(pE k g Z).1;have ar:g≠b:=Y;have au:b≠g:=Y));all_goals
   go_wp21;go_meet;first|with_reducible exact E.1|with_reducible exact E.2
 have av:=X hcut;clear hcut;go_wp21;go_loopw [17] (λaw wr=>aw=.int .i64 0/\wr=wc) (λ_ _=>0)
 .exact⟨Z,Z⟩
 obtain⟨rfl,rfl⟩:=hrel;go_wp21
 go_end0
 exact⟨⟨_,Z⟩,av.o⟩
def Ja{T:lj}{d:PV}{e j k f c l:Nat}{m}{n:Int}{p q g}(i a)(r:qE T j=some (m,k))(s:mh T d a e j)(b:C4 i e f c n p q g a)(t:d.lo<=c)(u:g.length<=20000)(A:a.cell? l=some (.func (.func 236) #[]<|HK c f)):
  Calls prog 238 #[.pointer l] a λw w'=>(∃v,w=.returned v)/\wV T d i e k f c n p q (g++[m]) w':=by
 have y:=X<|I9 i a r s b t u;clear r s b t u
 go_enter func238,ntmps238
 go_wp21;apply y.o.M;rintro w B ⟨⟨v,rfl⟩,x,b⟩;have z:=On x b;clear x b;go_wp21
 go_end0
 exact⟨⟨_,Z⟩,z.o⟩
def qR.zw{f:Type}{j:f->Prop}{l:lj}{g:Nat->Option (f×Nat)}(m:∀d e c,g d=some (c,e)->j c):∀{k d e:Nat} {i:List f},pD l g k d=some (i,e)->∀c∈i,j c
 |0,_,_,_,a=>by cases a
 |k+1,d,e,i,a=>by
  obtain⟨c,p,r,n,rfl,s⟩:=rQ a;unfold pD at a;rw[n]at a;simp only at a;intro q hy;rcases List.mem_cons.1 hy with rfl|hy;exact m _ _ _ n;split at a;cases hr:pD l g k (p+1)with
  |none=>rw[hr]at a;cases a
  |some z=>have⟨t,u⟩:=z;rw[hr]at a;injection a with a;injection a with b v;injection b with _ b;subst b;exact zw m hr q hy
  split at a;injection a with a;injection a with b _;injection b with _ b;subst b;cases hy;cases a
def qR.Jb{c:Type}{f:c->Prop}{T:lj}{g:Nat->Option (c×Nat)}(j:∀d e b,g d=some (b,e)->f b){d e:Nat}{i:List c}(a:tI T g d=some (i,e)):∀b∈i,f b:=by unfold tI at a;split at a;split at a;injection a with a;injection a with k _;subst k;intro b l;cases l;exact zw j a;cases a
def vB{T:lj}{j k:Nat}{l}(a:vO T j=some (l,k)):ow T j=[115,101,110,100]/\∃b c d e f g i,wh T (j+1)=some (b,c)/\tu T [46] c=some d/\wh T d=some (e,f)/\tI T (qE T) f=some (g,i)/\tu T [59] i=some k/\l=.mk 6 b e g [] []:=by
 unfold vO at a;split at a
 rename_i m
 have⟨⟨b,c⟩,n,a⟩:=bind_some a;have⟨d,p,a⟩:=bind_some a;have⟨⟨e,f⟩,q,a⟩:=bind_some a;have⟨⟨g,i⟩,r,a⟩:=bind_some a;have⟨v,s,a⟩:=bind_some a;injection a with a;injection a with t u;subst t u;exact⟨m,b,c,d,e,f,g,i,n,p,q,r,s,Z⟩;cases a
def GW{T:lj}{y:PV}{e af G:Nat}{al}(c)(am:vO T af=some (al,G))(I:mh T y c e af):Calls prog 224 #[.pointer e] c<|MA T y e G al c:=by
 obtain⟨A,d,bx,bz,f,bA,k,bB,an,ao,ap,aq,ar,rfl⟩:=vB am;have x:=ON an ao ap aq ar;have aA:=X I;have aB:=I.low;have aC:=I.lt;clear am an ao ap aq ar I
 go_enter func224,ntmps224
 go_upto_region 5 with fail;have⟨l,s⟩:=Xq<|(((c.alloc<|sn e).alloc oi).alloc oi).alloc<|yd c;rw[<-s];have aD:l.heap.size=c+4:=by rw[s];simp
 have t:Below c c l:=by rw[s];exact(((Ba _ _).alloc Uo _).alloc Us _).alloc Us _
 have⟨b,w⟩:=Xq c.heap.size;have au:Hid<|l.heap[b]?=some (sn e):=X (by rw[s,w];exact(Q5 _ _ Uu).T ((Q5 _ _ Uu).T<|(Q5 _ _ Uu).T<|QQ _ _));have aE:Hid<|l.heap[b+1]?=some oi:=X (by rw[s,w];have:=QQ (c.alloc<|sn e) oi;rw[QR]at this;exact(Q5 _ _ Uu).T ((Q5 _ _ Uu).T this));have aF:Hid<|l.heap[b+1+1]?=some oi:=X (by rw[s,w];have:=QQ ((c.alloc<|sn e).alloc oi) oi;rw[QR,QR]at this;exact(Q5 _ _ Uu).T this);have aG:Hid<|l.heap[b+1+1+1]?=some (yd b):=X (by rw[s,w];have:=QQ (((c.alloc<|sn e).alloc oi).alloc oi)<|yd c;rw[QR,QR,QR]at this;exact this);clear s;rw[<-w]at aD aB aC⊢;have aH:=X w;clear w;have aI:Hid<|lN T y c e af l:=X<|lN.of aA.o t;have B:Hid<|Hl l e b (b+1+1) 0 [] [] [] Nl l:=X ⟨au.o,aF.o,SS _ _ _ _,qx.refl _ _ _,Y,Y,Y,Y,Y,QX _⟩;have aJ:=X<|lN.refl aI.o.1
 have aK:=kt au.o 0;have aL:=X t;clear t;go_wp21;refine(mF aJ.o _ Un<|by rw[A];decide).M ?_;rintro n bC ⟨rfl,a⟩;have aM:=X a;have aN:=kA (B.o.kv a.2).bx 0 _ Z;clear a aK;go_wp21;refine(mF aM.o _ Un<|by rw[A];decide).M ?_;rintro n bD ⟨rfl,a⟩;have aO:=X a;have aP:=kA (B.o.kv a.2).bx 0 _ Z;clear a aN;go_wp21;refine(mF aO.o _ Un<|by rw[A];decide).M ?_;rintro n bE ⟨rfl,a⟩;have aQ:=X a;have aR:=kA (B.o.kv a.2).bx 0 _ Z;clear a aP;go_wp21;refine(mF aQ.o _ Un<|by rw[A];decide).M ?_;rintro n bF ⟨rfl,a⟩;have aS:=X a;have aT:=kA (B.o.kv a.2).bx 0 _ Z;clear a aR;go_wp21;apply(sF aS.o _ Un A).M;rintro n bG ⟨rfl,a⟩;have av:=X a;have aw:=X<|B.o.kv a.2;have aU:=kt aw.o.bx 0;clear a aT;go_wp21;apply(oI av.o.1 x.o.1).M;rintro n bH ⟨rfl,a⟩;have aV:=X<|av.o.T a;have ag:=X<|aw.o.kv a.2;have aW:=kt ag.o.bx 0;have⟨⟨J,K,L,M,N,O⟩,P,Q,R,S,U,V⟩:=mg ag.o.ex;clear a aU;go_wp21;have aa:y.lo<=b+1+1:=Y
 have aX:=X<|(aV.o.1.other (i:=0) (u:=.int .u8 6) aa).other (i:=1) (u:=tx d) aa;have aY:=X<|(ag.o.yv 0 (.int .u8 6) (k':=6) (nm':=[]) (hd':=[]) Z).yv 1 (tx d) (k':=6) (nm':=d) (hd':=[]) Z;clear J K L M N O P Q R S U V aW;apply(nu aX.o _ x.o.2.1 Un).M;rintro n bI ⟨⟨bJ,rfl⟩,a⟩;have aZ:=X a.1;have ab:=X<|aY.o.kv a.2;have ba:=kt ab.o.bx 0;clear a;go_wp21;apply(oI aZ.o x.o.2.2.1).M;rintro n bK ⟨rfl,a⟩;have bb:=X<|a.1.other (z:=b+1+1) (i:=2) (u:=tx f) aa;have bc:=X<|(ab.o.kv a.2).yv 2 (tx f) (k':=6) (nm':=d) (hd':=f) Z;have bd:=kA (ab.o.kv a.2).bx 0 _ Z;have⟨⟨J,K,L,M,N,O⟩,P,Q,R,S,U,V⟩:=mg (ab.o.kv a.2).ex;clear a ba;go_wp21;clear J K L M N O P Q R S U V bd;refine(zt (qE T) k x.o.2.2.2.1 238 #[.pointer<|some ⟨b+1+1+1,0,none⟩] (λ_ _=>Up) (λah c=>C4 l e b (b+1+1) 6 d f ah c) (λah c w' ac be=>ac.kv be) (λax bf ay C=>BX C) (λah ax bf ay c C ad ac bg=>?_) _ bb.o ⟨_,bc.o⟩).M ?_;have bh:=ac;have⟨v,D⟩:=bh;exact Ja l c C ad ac aa bg<|kA ((D.g.B (b+1+1+1) Y Y Y).T aG.o) 0 _ Z;rintro n bL ⟨⟨bM,rfl⟩,ad,v,D⟩;have bi:=X ad;have bj:=X D;have bk:=kt D.bx 0;clear ad D;go_wp21;apply(nu bi.o _ x.o.2.2.2.2 Un).M;rintro n p ⟨⟨bN,rfl⟩,a⟩;have bl:=X a.1;have ae:=X<|bj.o.kv a.2;have ai:=(ae.o.g.B (b+1) Y Y Y).T aE.o;have bm:=X ai;have⟨⟨J,K,L,M,N,O⟩,_⟩:=mg ae.o.ex;have⟨⟨bO,bP,bQ,bR,bS,bT⟩,P,Q,R,S,U,V⟩:=mg ai;have aj:=ae.o.own;obtain⟨g,j,rfl⟩:∃g j,v=.slice g k.length j:=by
  rcases aj.2 with⟨rfl,bn⟩|⟨bU,bV,bW,rfl,_⟩
  exact⟨none,0,by rw[bn]⟩;exact⟨_,_,Z⟩
 have bo:=X<|Mz aj<|Jb (λax G ay C=>GV C) x.o.2.2.2.1;clear a ai aj bk;go_wp21;have t:=aL.o;have E:=ae.o.g;have bX:=E.size;have bY:=aH.o;have F:c.grownBy p<|some e:=⟨E.os.T t.os,E.tape.T t.tape,E.output.T t.output,Y,λz q ak=>(E.B z Y (λn=>ak<|by rw[n]) Y).T<|t.B z q⟩
 change bodyPost _ _ _ _ _ (kZ p (b+1) 0 [.int .u8 6,tx d,tx f,.slice g k.length j,Nl,Nl]);have hF:(kZ p (b+1) 0 [.int .u8 6,tx d,tx f,.slice g k.length j,Nl,Nl]).heap[b+1]?=some (.cells #[.int .u8 6,tx d,tx f,.slice g k.length j,Nl,Nl] 198):=mP (r:=[.int .u8 6,tx d,tx f,.slice g k.length j,Nl,Nl]) (m:=[_,_,_,_,_,_]) bm.o Z;have bp:lN T y c e G<|kZ p (b+1) 0 [.int .u8 6,tx d,tx f,.slice g k.length j,Nl,Nl]:=⟨bl.o.kv (Sx mf.symm) λz q=>mX Y,⟨(pT (b+1) _ 0 p).os.T F.os,(pT (b+1) _ 0 p).tape.T F.tape,(pT (b+1) _ 0 p).output.T F.output,by rw[mf];exact F.size,λz q ak=>(mX Y).T<|F.B z q ak⟩⟩
 have bq:=(bo.o.kv (w':=kZ p (b+1) 0 [.int .u8 6,tx d,tx f,.slice g k.length j,Nl,Nl]) (kP.ok .u8 _) λz q=>mX<|W q.1).M (kP.ok .u8 _) (T:=λaz=>c<=az/\az<(kZ p (b+1) 0 [.int .u8 6,tx d,tx f,.slice g k.length j,Nl,Nl]).heap.size) λz q=>⟨W q.1,by rw[mf];exact q.2⟩;generalize kZ p (b+1) 0 [.int .u8 6,tx d,tx f,.slice g k.length j,Nl,Nl]=bZ at*;have⟨⟨br,bs,bt,bu,bv,bw⟩,_⟩:=mg hF;refine QY (v:=.agg #[.int .u8 6,tx d,tx f,.slice g k.length j,Nl,Nl]) ?_ rfl ⟨g,j,Z,bq,bp⟩;simp[results,Tryz.results224,go_sem,br,bs,bt,bu,bv,bw]
def qx.base{c d e:RW}{p f:Nat}(b:qx d e p f)(a:c.grownBy d<|some p)(l:c<=f):c.grownBy e<|some p:=
 ⟨b.os.T a.os,b.tape.T a.tape,b.output.T a.output,QT a.size b.size,λg i j=>(b.B g (QO i a.size) (λk=>j<|by rw[k]) Y).T<|a.B g i j⟩
def GX{T:lj}{m:PV}{g t u n b:Nat}{x w a}(p f)(E:wh T t=some (x,u))(F:mh T m f g t)(c:JQ p g n b w a f)(G:m.lo<=b)(ae:a.length<=20000):
  Calls prog 200 (HK b n) f λi y=>(∃v,i=.returned v)/\mh T m y g u/\JQ p g n b w (a++[x]) y:=by
 have⟨I,J,K,L,M⟩:=Rj MD;have j:=OK J K L M;have⟨v,c⟩:=c;have⟨af,ag,ah,ai,aj,ak⟩:=c.lt;have N:=X E;have O:=X F;have al:=kt c.bx 0
 obtain⟨q,r,rfl⟩:∃q r,v=.slice q a.length r:=by
  rcases c.own.2 with⟨rfl,P⟩|⟨Q,R,am,rfl,_⟩
  exact⟨none,0,by rw[P]⟩;exact⟨_,_,Z⟩
 have S:=kt c.ex 1;have U:=X c;have z:a.length+1<=maxLen:=Uw
 have A:(a.length+1)*16<=140737488355328:=Y
 obtain⟨k,l⟩:∃k,a.length=k:=⟨_,Z⟩
 rw[l]at S z A
 go_enter func200,ntmps200
 go_upto_region 0 with fail;go_region_law (first|(go_simp;go_at_call 96;refine Calls.M (oI (O.o.grown<|yL f) N.o) ?_;rintro i d ⟨rfl,B⟩;have e:=(U.o.kv<|kK (yL f) _).kv B.2;have V:=kt e.ex 1;rw[l]at e V;have s:=e.own;rw[l]at s;have an:=e.lt.2.2.2.2.2;have aa:b<d:=Y)|(refine TR (d.alloc<|.cells #[tx x] 9) (by rfl) (.tmp 3) (.tmp 6) 76 (by rfl) p 9 I _ 1 16 underlying76 j.o.1 j.o.2.1 j.o.2.2.1 j.o.2.2.2 Z Un (.slice q k r) k (a.map tx) (by rfl) (s.alloc _) ⟨d,0,none⟩ 1 1 [tx x] (by rfl) (by rfl) (TA<|QQ d _) (by simp[Value.oneCell']) Un z A Uu (d+1) Uo ?_;intro Q R ao ab C ap aq;have ac:=ME (x:=x) G (B.1.ku<|(Sf _ _).alloc (QX _)<|.cells #[tx x] 9) (e.kv<|kK (QV d (.cells #[tx x] 9) none) _) C l ab;have D:=(C.B b Uu λi=>W<|(pE s b i.symm).1).T<|(Q5 d (.cells #[tx x] 9) aa).T e.ex;have ar:=kt D 1;have au:=kx D 1));all_goals
  have ad:=X ac;go_wp21
  go_end0
  exact⟨⟨_,Z⟩,ad.o⟩
def qR.uN{T:lj}{g i:Nat}{j:lH.Hd}(a:sD T g=some (j,i)):∃b c d e f,wh T g=some (b,c)/\tI T (wh T) c=some (d,e)/\uX T e=some (f,i)/\j=⟨b,d,f⟩:=by unfold sD at a;have⟨⟨b,c⟩,k,a⟩:=Go.Proofs.YtbdipimmpgijaaaGreatDoor.bind_some a;have⟨⟨d,e⟩,l,a⟩:=Go.Proofs.YtbdipimmpgijaaaGreatDoor.bind_some a;have⟨⟨f,q⟩,m,a⟩:=Go.Proofs.YtbdipimmpgijaaaGreatDoor.bind_some a;injection a with a;injection a with n p;subst n p;exact⟨b,c,d,e,f,k,l,m,Z⟩
def EK(a:Int)(b:RW):Calls prog 39 #[.int .u8 a] b<|Dl b:=by
 by_cases c:a=95;all_goals by_cases d:(48:Int)<=a
 all_goals by_cases e:a<=57
 all_goals by_cases f:(97:Int)<=a
 all_goals by_cases g:a<=122
 all_goals by_cases i:(65:Int)<=a
 all_goals by_cases j:a<=90
 all_goals try omega
 all_goals
  go_enter func39,ntmps39
  go_wp21;go_ret;exact⟨⟨_,Z⟩,Z⟩
