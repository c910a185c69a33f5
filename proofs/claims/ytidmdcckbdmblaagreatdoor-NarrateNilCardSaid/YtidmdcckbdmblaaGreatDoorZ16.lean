import Derived.Test.YtidmdcckbdmblaaGreatDoorZ11
import Derived.Test.YtidmdcckbdmblaaGreatDoorZ12
import Derived.Test.YtidmdcckbdmblaaGreatDoorZ13
import Derived.Test.YtidmdcckbdmblaaGreatDoorZ14
set_option maxRecDepth 1000000
set_option maxHeartbeats 32000000
set_option linter.all false
namespace Go.Proofs.YtidmdcckbdmblaaGreatDoor
open Go.RowKit jJ Go.Proofs.Tryz
theorem vH:∀d,wI d
 |0=>xL
 |d+1=>xM d (BH d (vH d) (BF d (vH d)))
theorem pJ(O)(B b n k:Nat)(w F)(m c:Nat)(hs)(hL:jV w)(aC:FH B)(ag:lF B b (n:Int) k w)(V:jc (kZ .u8) O w (.slice F m c) hs)(ah:∀h∈hs,qZ h/\∀s∈h.body,Cs Ds s)(hm:m<=3)(hF:Ad O B b w)(hn:n<=80)(ai:k+1557906<=90000000):
  Calls prog 175 #[.pointer (some ⟨b,0,none⟩),.agg #[.slice F m c]] w (mO B b (n:Int) (k+1557906) w):=by
 have bo:=V.len.2;have aD:=JH V.len.1;have bp:=ag.lt;have aE:=hL;have aj:=aC;have aF:=V;have aG:=JH ah;have G:=hF;have y:=Ba w (.cells #[.slice F m c] 182);have aH:=(ag.iV y)
 have aI:=(jq.old (b:=b) (show B<=w from LC) y)
 have aJ:=JH (JK w (.cells #[.slice F m c] 182));have P:(w.alloc (.cells #[.slice F m c] 182)).heap.size=w+1:=LG
 have aK:=JH P;clear ah P
 go_enter func175,ntmps175
 go_upto_region 1 with fail;have P:=aK.o;generalize w.alloc (.cells #[.slice F m c] 182)=bq at*;have aL:=iT aJ.o 0 _ rfl;go_wp2_with fail;clear aL;go_loopw [9] (λi wr=>∃f j:Nat,f<=m/\j=k+f*519302/\i=f/\lF B b (n:Int) j wr/\jq B b w wr) (λi _=>m-(intOf i).toNat);case atStart=>exact⟨0,k,JV _,LG,rfl,aH,aI⟩
 case round=>
  clear P;obtain⟨f,j,br,ak,rfl,I,l⟩:=hrel;have bs:=l.size;have bt:=I.lt;have W:=JH ak;have bu:j<=90000000:=LC;clear ak;by_cases bv:f<m
  .obtain⟨h,X⟩:∃h,hs[f]?=some h:=Gx (LA aD.o);obtain⟨al,bw,r,rfl,aM,hr,Q⟩:=(aF.iV (kZ.ok .u8) (G.eq l)).jr (kZ.ok .u8) f h X;obtain⟨v1,v2,rfl,Y,Z⟩:=hr;obtain⟨J,K,rfl,_⟩:=Y.form;obtain⟨M,cb,rfl,_⟩:=Z.form;have aa:=Q 0 _ rfl;have am:=Q 1 _ rfl;have an:=Q 2 _ rfl;rw[JT]at aa;obtain⟨N,ao⟩:=aG.o h (JM X);have aN:=JH ao;obtain⟨z,ap⟩:=Xq h.params.length;obtain⟨L,aq⟩:=Xq h.body.length;have bx:z<=2:=LA N.Cx;have aO:L<=12:=LA N.yo;rw[<-ap]at Y am;rw[<-aq]at Z an;have ar:(⟨h.name.toArray⟩:ByteArray).size<=12:=(by rw[lz];exact kS N.name);obtain⟨nm,au⟩:=Xq h.name;rw[<-au]at aa ar;have bz:al<wr:=LA ((G.to l).lt al aM);have bA:(0:Int)<=(f:Int):=LC;have bB:(f:Int)<(m:Int):=LC;clear Q X ao ap aq au;have y:=Ba wr (.cells #[tx nm,.slice J z K,.slice M L cb] 189);have aP:=(I.iV y)
   have av:=(l.T (jq.old (b:=b) (show B<=wr from LC) y))
   have aQ:=(Y.iV jk.ok (λq A=>y.B q ((G.to l).lt q A)))
   have aR:=(Z.iV (jH.ok .u8 _) (λq A=>y.B q ((G.to l).lt q A)))
   have R:=JH (JK wr (.cells #[tx nm,.slice J z K,.slice M L cb] 189));have S:(wr.alloc (.cells #[tx nm,.slice J z K,.slice M L cb] 189)).heap.size=wr+1:=LG;have aS:=JH S;clear S;have bC:j+519302<=90000000:=LA W.o;go_upto_region 4 with fail;have S:=aS.o;obtain⟨C,aw⟩:=Xq wr.heap.size;rw[<-aw]at R S⊢;generalize wr.alloc (.cells #[tx nm,.slice J z K,.slice M L cb] 189)=d at*;have ax:C<d:=LC;have aT:C≠b:=LC;have bD:b<d:=LC;have ab:=(G.to av)
   clear aa am an aw I l;refine Ac 7 (λaU=>cond aU (λx=>lF B b ((n:Nat):Int) (j+1) x/\jq B b d x) (λx=>Below d d x)) (kN [(Pp b 0),(Pp C 0),Tr,(Pp C 1),(·=.slice J z K),Tr,Tr,Tr]) [(2,λv w=>∃s:ByteArray,v=.string s/\s.size<=12),(5,λv w=>∃s:ByteArray,v=.string s/\s.size<=12700),(6,λv w=>∃(p:Nat) (D:List ByteArray),v=.slice (some ⟨p,0,none⟩) 5 5/\Nw d w p/\D.length=5/\(∀s∈D,s.size<=20000)/\w.heap[p]?=some (.cells (D.map Value.string).toArray 9 (0,0)))] ((Below.refl _ _).drew) ⟨?_,?_,?_,?_,?_,?_,?_,?_,trivial⟩ ?_;exact .f 0;exact .f 5;intro T w a hf t hd hw;replace a:(λx=>Below d d x) w:=a;exact .l 14 (t 1 _ rfl rfl) (iT ((a.B C ax).T R.o) 0 _ rfl) ⟨trivial,a,Qc ⟨_,rfl,ar⟩<|Qa⟩;exact .f 5;intro T w a hf t hd hw;replace a:(λx=>Below d d x) w:=a;exact .l 16 (t 3 _ rfl rfl) (iT ((a.B C ax).T R.o) 1 _ rfl) ⟨rfl,a,Qa⟩;intro T w a hf t hd hw;have bE:=Sv 17 t 4;replace a:(λx=>Below d d x) w:=a;have bF:=a.size;replace a:=Hq a;refine .c (Gm O w J z K h.params (aQ.iV jk.ok (λq A=>a.o.B q (ab.lt q A))) (λx hx=>LA (kS (N.params x hx))) LC (λq A=>LA (ab.lt q A))) ?_;rintro e w' ⟨s,rfl,hz,aV⟩;exact⟨_,rfl,⟨trivial,a.o.T (aV.M a.o.size),Qb<|Qc ⟨_,rfl,hz⟩<|Qb<|Qe⟩⟩;intro T w a hf t hd hw;obtain⟨aW,aX,bG⟩:=hd _ (Mm 0 rfl) _ rfl rfl;have bH:=Sl 15 aX;obtain⟨aY,aZ,bI⟩:=hd _ (Mm 1 rfl) _ rfl rfl;have bJ:=Sl 18 aZ;replace a:(λx=>Below d d x) w:=a;have ay:=a.size;replace a:=Hq a;exact .q (g:=⟨trivial,a.o.alloc a.o.size _,Q2<|Qc ⟨_,[⟨#[111,110,32]⟩,aW,⟨#[40]⟩,aY,⟨#[41,32,123]⟩],rfl,⟨ay,LG⟩,rfl,by intro x hx;simp only[Kf,J7,Kq]at hx;rcases hx with rfl|rfl|rfl|rfl|rfl<;>first|omega|decide,JK _ _⟩<|Qe⟩);intro T w a hf t hd hw;have bK:=Sv 13 t 0;obtain⟨p,D,ba,bb,bc,bd,be⟩:=hd _ (Mm 2 rfl) _ rfl rfl;have bL:=Sl 19 ba;replace a:(λx=>Below d d x) w:=a;have ay:=a.size;replace a:=Hq a;refine .c (mP B b n (j) 5 w p D bc (aP.iV a.o) be (LA bb.1) LC LC LC bd) ?_;rintro e w' ⟨he,bf,E⟩;subst he;exact⟨_,rfl,⟨trivial,⟨bf,(jq.old LC a.o).T E⟩,Q2<|Qd (λu ⟨p,D,e,ac,I,bg,ai⟩=>⟨p,D,e,⟨ac.1,JI ac.2 E.size⟩,I,bg,E.iV p _ ai (LA ac.1) (jT LD)⟩)<|Qe⟩⟩;intro bM ad bh bi bj;have ae:lF B b ((n:Nat):Int) (j+1) ad/\jq B b d ad:=bh;have bk:=ae.1;have U:=(ae.2)
   have bN:=U.size;clear bi bj ae;simp only[je,Act.put,JL,JP,JO];obtain⟨⟨_,_,bl⟩,_⟩:=jz (U.iV C _ R.o aT (jT LD));have af:=(av.T U)
   go_wp2_with fail;refine(vH Ds O B b n (j+1) ad M L cb h.body (aE.wr af aj) aj bk (aR.iV (jH.ok .u8 _) (ab.eq U)) (λs hs=>⟨N.body s hs,aN.o s hs⟩) aO (G.to af) (by show n+2*4<=90;omega) (by rw[CT];omega)).M ?_;rintro bO bm ⟨rfl,az,E⟩;have aA:=(af.T E)
   have bP:=aA.size;rw[CT]at az;clear bl;go_wp2_with fail;refine(kx B b n (j+1+519300) bm [⟨#[125]⟩] az LC LC LG (by intro x hx;simp only[Kf,J7,Kq]at hx;rcases hx with rfl<;>first|omega|decide)).M ?_;rintro bQ bR ⟨rfl,bn,E⟩;have aB:=(aA.T E)
   have bS:=aB.size;go_wp2_with fail;go_roundw;case rel=>exact⟨f+1,j+519302,LC,LA W.o,LI,bn,aB⟩
   case measure=>simp[intOf];omega
  obtain rfl:m=f:=LC;go_wp2_with fail
  go_end0
  exact⟨rfl,I.up (LA W.o),l⟩
theorem zi(an)(B b n k:Nat)(w aj)(I c1:Nat)(ak)(L c2:Nat)(x)(hL:jV w)(bQ:FH B)(bp:lF B b (n:Int) k w)(bq:jc (nU .u8) an w (.slice aj I c1) x.vars)(ab:jc (ly .u8) an w (.slice ak L c2) x.jG)(ao:wF x)(bR:Hb x)(hF:Ad an B b w)(hn:n<=70)(aA:k+3115830<=90000000):
  Calls prog 113 #[.pointer (some ⟨b,0,none⟩),.agg #[tx x.name,.slice aj I c1,.slice ak L c2]] w (mO B b (n:Int) (k+3115830) w):=by
 have aB:=bp.lt;have bS:=hL;have ap:=bQ;have bT:=bp;have aN:=hF;have bU:=bq;have bV:=ab;have aO:=bq.len;have aP:=ab.len;have cP:=aO.2;have cQ:=aP.2;have bW:=JH aO.1;have bX:=JH aP.1;have cR:I<=5:=LA ao.yq
 have cS:L<=2:=LA ao.v2
 have bY:=ao.vars;have bZ:=ao.jG;have br:=bR;have ca:(⟨x.name.toArray⟩:ByteArray).size<=12:=by rw[lz];exact kS ao.name
 obtain⟨nm,bs⟩:=Xq x.name;rw[<-bs]at ca⊢;obtain⟨j,bt⟩:=Xq (n+1);obtain⟨ac,bu⟩:=Xq (j+1);obtain⟨cT,cU⟩:=CU n j bt LC;obtain⟨cV,cW⟩:=CU j ac bu LC;have cX:j<=71:=LC
 have cY:ac<=72:=LC
 clear ab aO aP bs bt bu
 go_enter func113,ntmps113
 have t:=Ba w (.cells #[tx nm,.slice aj I c1,.slice ak L c2] 176);have cb:=(bT.iV t)
 have aq:=(jq.old (b:=b) (show B<=w from LC) t)
 have aC:=JH (JK w (.cells #[tx nm,.slice aj I c1,.slice ak L c2] 176));have f:(w.alloc (.cells #[tx nm,.slice aj I c1,.slice ak L c2] 176)).heap.size=w+1:=LG
 have cc:=JH f;clear f;go_upto_region 1 with fail;have f:=cc.o;obtain⟨al,D⟩:=Xq w.heap.size;rw[<-D]at aC f⊢;generalize w.alloc (.cells #[tx nm,.slice aj I c1,.slice ak L c2] 176)=ar at*;have cZ:al<ar:=LC
 have bv:al≠b:=LC
 have da:b<ar:=LC
 clear D f;have bw:=(bS.wr aq ap)
 have cd:=(bU.iV (nU.ok .u8) (aN.eq aq))
 have ce:=(bV.iV (ly.ok .u8) (aN.eq aq))
 have Y:=(aN.to aq)
 have ad:=iT aC.o 0 _ rfl;go_wp2_with fail;refine(kx B b n (k) ar [⟨#[99,111,109,112,111,110,101,110,116,32]⟩,⟨nm.toArray⟩,⟨#[32,123]⟩] cb LC LC LG (by intro x hx;simp only[Kf,J7,Kq]at hx;rcases hx with rfl|rfl|rfl<;>first|omega|decide)).M ?_;rintro aD au ⟨rfl,aQ,y⟩;have bx:=(y)
 have db:=bx.size;clear ad;go_upto_region 2 with fail;have aR:b<au:=by have:=aQ.lt.2;exact this
 have Z:=aQ.ind (m:=(j:Int));have bz:=(bx.T (jq.set (b:=b) (i:=2) (w:=au) (u:=.int .i64 (j:Int)) aB.1))
 have M:=JH (JQ au ⟨b,2,none⟩ (.int .i64 (j:Int)));obtain⟨ae,af⟩:=aQ.cell;go_upto_region 3 with fail;generalize(au.setCell ⟨b,2,none⟩ (.int .i64 (j:Int)))=aS at*;have dc:b<aS:=LA M.o
 have dd:au.heap.size<=aS:=LA M.o
 clear ae af;obtain⟨⟨aT,aU,aD⟩,_⟩:=jz (bz.iV al _ aC.o bv (jT LD));have de:al<aS:=LC
 go_wp2_with fail;clear aT aU aD;go_loopw [23] (λi wr=>∃d:Nat,d<=I/\i=d/\lF B b (j:Int) (k+1+d) wr/\jq B b ar wr) (λi _=>I-(intOf i).toNat);case atStart=>exact⟨0,JV _,rfl,Z,bz⟩
 case round=>
  obtain⟨d,cf,rfl,C,A⟩:=hrel;have cg:=A.size;have bA:=C.lt;skip;by_cases bB:d<I
  .obtain⟨v,p⟩:∃v,x.vars[d]?=some v:=Gx (LA bW.o);obtain⟨av,ch,r,rfl,aV,hr,ag⟩:=(cd.iV (nU.ok .u8) (Y.eq A)).jr (nU.ok .u8) d v p;have ci:r=[tx v.name,.int .u8 v.ty,.int .i64 v.init]:=hr;subst ci;have N:=ag 0 _ rfl;have aE:=ag 1 _ rfl;have aF:=ag 2 _ rfl;rw[JT]at N;have bC:=bY v (JM p);obtain⟨hz0,bD⟩:=br.vars v (JM p);have aW:(⟨v.name.toArray⟩:ByteArray).size<=12:=(by rw[lz];exact kS bC.name);have bE:v.ty=1\/v.ty=2\/v.ty=3:=(by rcases bC.form with h|h|h;exact .inl h.1;exact .inr (.inl h.1);exact .inr (.inr h.1));obtain⟨J,bF⟩:=Xq v.name;obtain⟨df,bG⟩:=Xq v.ty;obtain⟨z,bH⟩:=Xq v.init;rw[<-bF]at N aW;rw[<-bG]at aE bE;rw[<-bH]at aF hz0 bD;have cj:av<wr:=LA ((Y.to A).lt av aV);have ck:(0:Int)<=(d:Int):=LC;have cl:(d:Int)<(I:Int):=LC;have cm:k+1+d<=90000000:=LC;clear ag p bF bG bH;rcases bE with rfl|rfl|rfl
   .have t:=Ba wr (.cells #[tx J,.int .u8 1,z] 179);have V:=(C.iV t)
    have O:=(A.T (jq.old (b:=b) (show B<=wr from LC) t))
    have F:=JH (JK wr (.cells #[tx J,.int .u8 1,z] 179));have am:=(jq.old (b:=b) (show B<=wr from LC) t)
    have f:(wr.alloc (.cells #[tx J,.int .u8 1,z] 179)).heap.size=wr+1:=LG;have W:=JH f;clear f;go_upto_region 8 with fail;have f:=W.o;obtain⟨l,D⟩:=Xq wr.heap.size;rw[<-D]at F f⊢;generalize wr.alloc (.cells #[tx J,.int .u8 1,z] 179)=c at*;have aa:l<c:=LC;have aw:l≠b:=LC;have aG:b<c:=LC;clear D f;clear N aE aF;refine Ac 7 (λaX=>cond aX (λx=>lF B b ((j:Nat):Int) (k+1+d+1) x/\jq B b c x) (λx=>Below c c x)) (kN [(Pp b 0),(Pp l 0),Tr,(Pp l 2),(·=z),Tr,Tr,Tr]) [(2,λv w=>∃s:ByteArray,v=.string s/\s.size<=12),(5,λv w=>∃s:ByteArray,v=.string s/\s.size<=20),(6,λv w=>∃(E:Nat) (G:List ByteArray),v=.slice (some ⟨E,0,none⟩) 5 5/\Nw c w E/\G.length=5/\(∀s∈G,s.size<=20000)/\w.heap[E]?=some (.cells (G.map Value.string).toArray 9 (0,0)))] ((Below.refl _ _).drew) ⟨?_,?_,?_,?_,?_,?_,?_,?_,trivial⟩ ?_;exact .f 0;exact .f 5;intro Q w a hf p hd hw;replace a:(λx=>Below c c x) w:=a;exact .l 32 (p 1 _ rfl rfl) (iT ((a.B l aa).T F.o) 0 _ rfl) ⟨trivial,a,Qc ⟨_,rfl,aW⟩<|Qa⟩;exact .f 5;intro Q w a hf p hd hw;replace a:(λx=>Below c c x) w:=a;exact .l 34 (p 3 _ rfl rfl) (iT ((a.B l aa).T F.o) 2 _ rfl) ⟨rfl,a,Qa⟩;intro Q w a hf p hd hw;have dg:=Sv 35 p 4;replace a:(λx=>Below c c x) w:=a;replace a:=Hq a;refine .c (EN z hz0 bD w) ?_;rintro e w' ⟨s,rfl,hz,aY⟩;exact⟨_,rfl,⟨trivial,a.o.T (aY.M a.o.size),Qb<|Qc ⟨_,rfl,hz⟩<|Qb<|Qe⟩⟩;intro Q w a hf p hd hw;obtain⟨cn,co,dh⟩:=hd _ (Mm 0 rfl) _ rfl rfl;have di:=Sl 33 co;obtain⟨cp,cq,dj⟩:=hd _ (Mm 1 rfl) _ rfl rfl;have dk:=Sl 36 cq;replace a:(λx=>Below c c x) w:=a;have ax:=a.size;replace a:=Hq a;exact .q (g:=⟨trivial,a.o.alloc a.o.size _,Q2<|Qc ⟨_,[⟨#[118,97,114,32]⟩,cn,⟨#[58,32,105,110,116,32,61,32]⟩,cp,⟨#[59]⟩],rfl,⟨ax,LG⟩,rfl,by intro x hx;simp only[Kf,J7,Kq]at hx;rcases hx with rfl|rfl|rfl|rfl|rfl<;>first|omega|decide,JK _ _⟩<|Qe⟩);intro Q w a hf p hd hw;have dl:=Sv 31 p 0;obtain⟨E,G,cr,aZ,ba,aH,bb⟩:=hd _ (Mm 2 rfl) _ rfl rfl;have dm:=Sl 37 cr;replace a:(λx=>Below c c x) w:=a;have ax:=a.size;replace a:=Hq a;refine .c (mP B b j (k+1+d) 5 w E G ba (V.iV a.o) bb (LA aZ.1) LC LC LC aH) ?_;rintro e w' ⟨he,Z,y⟩;subst he;exact⟨_,rfl,⟨trivial,⟨Z,(jq.old LC a.o).T y⟩,Q2<|Qd (λu ⟨E,G,e,ah,C,ab,aA⟩=>⟨E,G,e,⟨ah.1,JI ah.2 y.size⟩,C,ab,y.iV E _ aA (LA ah.1) (jT LD)⟩)<|Qe⟩⟩;intro cs R bc bd be;have ai:lF B b ((j:Nat):Int) (k+1+d+1) R/\jq B b c R:=bc;have X:=ai.1;have P:=(O.T ai.2)
    have aI:=P.size;clear bd be ai;simp only[je,Act.put,JL,JP,JO];go_wp2_with fail;go_roundw;case rel=>exact⟨d+1,LC,LI,X,P⟩
    case measure=>simp[intOf];omega
   .have t:=Ba wr (.cells #[tx J,.int .u8 2,z] 179);have V:=(C.iV t)
    have O:=(A.T (jq.old (b:=b) (show B<=wr from LC) t))
    have F:=JH (JK wr (.cells #[tx J,.int .u8 2,z] 179));have am:=(jq.old (b:=b) (show B<=wr from LC) t)
    have f:(wr.alloc (.cells #[tx J,.int .u8 2,z] 179)).heap.size=wr+1:=LG;have W:=JH f;clear f;go_upto_region 10 with fail;have f:=W.o;obtain⟨l,D⟩:=Xq wr.heap.size;rw[<-D]at F f⊢;generalize wr.alloc (.cells #[tx J,.int .u8 2,z] 179)=c at*;have aa:l<c:=LC;have aw:l≠b:=LC;have aG:b<c:=LC;clear D f;clear N aE aF;refine Ac 8 (λaX=>cond aX (λx=>lF B b ((j:Nat):Int) (k+1+d+1) x/\jq B b c x) (λx=>Below c c x)) (kN [(Pp b 0),(Pp l 0),Tr,(Pp l 2),(·=z),Tr,Tr,Tr,Tr]) [(2,λv w=>∃s:ByteArray,v=.string s/\s.size<=12),(5,λv w=>∃q:Bool,v=.bool q),(6,λv w=>∃s:ByteArray,v=.string s/\s.size<=5),(7,λv w=>∃(E:Nat) (G:List ByteArray),v=.slice (some ⟨E,0,none⟩) 5 5/\Nw c w E/\G.length=5/\(∀s∈G,s.size<=20000)/\w.heap[E]?=some (.cells (G.map Value.string).toArray 9 (0,0)))] ((Below.refl _ _).drew) ⟨?_,?_,?_,?_,?_,?_,?_,?_,?_,trivial⟩ ?_;exact .f 0;exact .f 5;intro Q w a hf p hd hw;replace a:(λx=>Below c c x) w:=a;exact .l 42 (p 1 _ rfl rfl) (iT ((a.B l aa).T F.o) 0 _ rfl) ⟨trivial,a,Qc ⟨_,rfl,aW⟩<|Qa⟩;exact .f 5;intro Q w a hf p hd hw;replace a:(λx=>Below c c x) w:=a;exact .l 44 (p 3 _ rfl rfl) (iT ((a.B l aa).T F.o) 2 _ rfl) ⟨rfl,a,Qa⟩;intro Q w a hf p hd hw;have dn:=Sv 45 p 4;replace a:(λx=>Below c c x) w:=a;exact .q (g:=⟨trivial,a,Qb<|Qc ⟨_,rfl⟩<|Qa⟩);intro Q w a hf p hd hw;obtain⟨ct,cu⟩:=hd _ (Mm 1 rfl) _ rfl rfl;have dp:=Sl 46 cu;replace a:(λx=>Below c c x) w:=a;replace a:=Hq a;refine .c (xa ct w) ?_;rintro e w' ⟨s,rfl,hz,aY⟩;exact⟨_,rfl,⟨trivial,a.o.T (aY.M a.o.size),Q2<|Qc ⟨_,rfl,hz⟩<|Qb<|Qe⟩⟩;intro Q w a hf p hd hw;obtain⟨cv,cw,dq⟩:=hd _ (Mm 0 rfl) _ rfl rfl;have dr:=Sl 43 cw;obtain⟨cx,cy,ds⟩:=hd _ (Mm 2 rfl) _ rfl rfl;have dt:=Sl 47 cy;replace a:(λx=>Below c c x) w:=a;have ax:=a.size;replace a:=Hq a;exact .q (g:=⟨trivial,a.o.alloc a.o.size _,Q2<|Qb<|Qc ⟨_,[⟨#[118,97,114,32]⟩,cv,⟨#[58,32,98,111,111,108,32,61,32]⟩,cx,⟨#[59]⟩],rfl,⟨ax,LG⟩,rfl,by intro x hx;simp only[Kf,J7,Kq]at hx;rcases hx with rfl|rfl|rfl|rfl|rfl<;>first|omega|decide,JK _ _⟩<|Qe⟩);intro Q w a hf p hd hw;have du:=Sv 41 p 0;obtain⟨E,G,cz,aZ,ba,aH,bb⟩:=hd _ (Mm 3 rfl) _ rfl rfl;have dv:=Sl 48 cz;replace a:(λx=>Below c c x) w:=a;have ax:=a.size;replace a:=Hq a;refine .c (mP B b j (k+1+d) 5 w E G ba (V.iV a.o) bb (LA aZ.1) LC LC LC aH) ?_;rintro e w' ⟨he,Z,y⟩;subst he;exact⟨_,rfl,⟨trivial,⟨Z,(jq.old LC a.o).T y⟩,Q2<|Qb<|Qd (λu ⟨E,G,e,ah,C,ab,aA⟩=>⟨E,G,e,⟨ah.1,JI ah.2 y.size⟩,C,ab,y.iV E _ aA (LA ah.1) (jT LD)⟩)<|Qe⟩⟩;intro cs R bc bd be;have ai:lF B b ((j:Nat):Int) (k+1+d+1) R/\jq B b c R:=bc;have X:=ai.1;have P:=(O.T ai.2)
    have aI:=P.size;clear bd be ai;simp only[je,Act.put,JL,JP,JO];go_wp2_with fail;go_roundw;case rel=>exact⟨d+1,LC,LI,X,P⟩
    case measure=>simp[intOf];omega
   have t:=Ba wr (.cells #[tx J,.int .u8 3,z] 179);have V:=(C.iV t)
   have O:=(A.T (jq.old (b:=b) (show B<=wr from LC) t))
   have F:=JH (JK wr (.cells #[tx J,.int .u8 3,z] 179));have am:=(jq.old (b:=b) (show B<=wr from LC) t)
   have f:(wr.alloc (.cells #[tx J,.int .u8 3,z] 179)).heap.size=wr+1:=LG;have W:=JH f;clear f;go_upto_region 12 with fail;have f:=W.o;obtain⟨l,D⟩:=Xq wr.heap.size;rw[<-D]at F f⊢;generalize wr.alloc (.cells #[tx J,.int .u8 3,z] 179)=c at*;have aa:l<c:=LC;have aw:l≠b:=LC;have aG:b<c:=LC;clear D f;clear N aE aF;have ad:=iT F.o 0 _ rfl;go_wp2_with fail;refine(kx B b j (k+1+d) c [⟨#[118,97,114,32]⟩,⟨J.toArray⟩,⟨#[58,32,116,97,98,108,101,59]⟩] V LC LC LG (by intro x hx;simp only[Kf,J7,Kq]at hx;rcases hx with rfl|rfl|rfl<;>first|omega|decide)).M ?_;rintro cA R ⟨rfl,X,y⟩;have P:=(O.T y)
   have aI:=P.size;clear ad;go_wp2_with fail;go_roundw;case rel=>exact⟨d+1,LC,LI,X,P⟩
   case measure=>simp[intOf];omega
  obtain rfl:I=d:=LC;obtain⟨cB,rfl⟩:=Xq wr;obtain⟨⟨aT,aU,aD⟩,_⟩:=jz (A.iV al _ aC.o bv (jT LD));have dw:al<cB:=LC;go_wp2_with fail;clear aT aU aD;go_loopw [61] (λi wr=>∃d K:Nat,d<=L/\K=k+1+I+d*1557908/\i=d/\lF B b (j:Int) K wr/\jq B b ar wr) (λi _=>L-(intOf i).toNat);case atStart=>exact⟨0,k+1+I,JV _,LG,rfl,C,A⟩
  case round=>
   clear bA bB;obtain⟨d,K,cf,bI,rfl,C,A⟩:=hrel;have C:=C;have A:=A;have cg:=A.size;have bA:=C.lt;have aJ:=JH bI;have cm:K+1<=90000000:=LC;clear bI;by_cases bB:d<L
   .obtain⟨hs,aK⟩:∃h,x.jG[d]?=some h:=Gx (LA bX.o);obtain⟨av,ch,r,rfl,aV,hr,ag⟩:=(ce.iV (ly.ok .u8) (Y.eq A)).jr (ly.ok .u8) d hs aK;obtain⟨v1,rfl,aL⟩:=hr;obtain⟨S,T,rfl,_⟩:=aL.form;have N:=ag 0 _ rfl;rw[JT,Kk]at N;obtain⟨bf,bJ⟩:=bZ hs (JM aK);have bK:∀h∈hs,qZ h/\∀s∈h.body,Cs Ds s:=λh Z=>⟨bJ h Z,br.jG hs (JM aK) h Z⟩
    obtain⟨U,bL⟩:=Xq hs.length;rw[<-bL]at aL N bf;have cj:av<wr:=LA ((Y.to A).lt av aV);have ck:(0:Int)<=(d:Int):=LC;have cl:(d:Int)<(L:Int):=LC;have dx:K+1557908<=90000000:=LA aJ.o;clear ag aK bJ bL;by_cases cC:d=0
    .have bg:(d:Int)=0:=LC;rw[cC,JT]at N;have bh:=(Y.to A)
     have t:=Ba wr (.cells #[.slice S U T] 182);have V:=(C.iV t)
     have O:=(A.T (jq.old (b:=b) (show B<=wr from LC) t))
     have F:=JH (JK wr (.cells #[.slice S U T] 182));have am:=(jq.old (b:=b) (show B<=wr from LC) t)
     have f:(wr.alloc (.cells #[.slice S U T] 182)).heap.size=wr+1:=LG;have W:=JH f;clear f;go_upto_region 18 with fail;have f:=W.o;obtain⟨l,D⟩:=Xq wr.heap.size;rw[<-D]at F f⊢;generalize wr.alloc (.cells #[.slice S U T] 182)=c at*;have aa:l<c:=LC;have aw:l≠b:=LC;have aG:b<c:=LC;clear D f;clear N;have ad:=iT F.o 0 _ rfl;go_wp2_with fail;refine(pJ an B b j K c S U T hs (bw.wr O ap) ap V (aL.iV (kZ.ok .u8) (bh.eq am)) bK bf (Y.to O) LC LC).M ?_;rintro cA R ⟨rfl,X,y⟩;have P:=(O.T y)
     have aI:=P.size;clear ad bg;go_wp2_with fail;go_roundw;case rel=>exact⟨d+1,K+1557908,LC,LA aJ.o,LI,X.up LC,P⟩
     case measure=>simp[intOf];omega
    have bg:((d:Int)==0)=false:=(by rw[JX];omega);have cD:IntKind.i64.wrap ((d:Int)+1)=((d+1:Nat):Int):=LH;have bh:=(Y.to A)
    have t:=Ba wr (.cells #[.slice S U T] 182);have V:=(C.iV t)
    have O:=(A.T (jq.old (b:=b) (show B<=wr from LC) t))
    have F:=JH (JK wr (.cells #[.slice S U T] 182));have am:=(jq.old (b:=b) (show B<=wr from LC) t)
    have f:(wr.alloc (.cells #[.slice S U T] 182)).heap.size=wr+1:=LG;have W:=JH f;clear f;go_upto_region 19 with fail;have f:=W.o;obtain⟨l,D⟩:=Xq wr.heap.size;rw[<-D]at F f⊢;generalize wr.alloc (.cells #[.slice S U T] 182)=c at*;have aa:l<c:=LC;have aw:l≠b:=LC;have aG:b<c:=LC;clear D f;clear N bg;go_wp2_with fail;refine(xb (d+1) LC c).M ?_;rintro e R ⟨cE,rfl,dy,bi⟩;have X:=(V.iV bi)
    have cF:jq B b c R:=jq.old (b:=b) LC bi;have aI:=bi.size;go_wp2_with fail;refine(kx B b j (K) R [⟨#[118,101,114,115,105,111,110,32]⟩,cE,⟨#[32,123]⟩] X LC LC LG (by intro x hx;simp only[Kf,J7,Kq]at hx;rcases hx with rfl|rfl|rfl<;>first|omega|decide)).M ?_;rintro dz ay ⟨rfl,bj,y⟩;have bM:=(cF.T y)
    have dA:=bM.size;clear cD;go_upto_region 20 with fail;have aR:b<ay:=(by have:=bj.lt.2;exact this);have cG:=bj.ind (m:=(ac:Int));have bk:=(bM.T (jq.set (b:=b) (i:=2) (w:=ay) (u:=.int .i64 (ac:Int)) aB.1))
    have M:=JH (JQ ay ⟨b,2,none⟩ (.int .i64 (ac:Int)));obtain⟨ae,af⟩:=bj.cell;go_upto_region 21 with fail;generalize(ay.setCell ⟨b,2,none⟩ (.int .i64 (ac:Int)))=aM at*;have dB:b<aM:=LA M.o;have dC:ay.heap.size<=aM:=LA M.o;clear ae af;have ad:=iT (bk.iV l _ F.o aw (jT LD)) 0 _ rfl;have dD:l<aM:=LC;have bl:=(O.T bk)
    have cH:=(am.T bk)
    go_wp2_with fail;refine(pJ an B b ac (K+1) aM S U T hs (bw.wr bl ap) ap cG (aL.iV (kZ.ok .u8) (bh.eq cH)) bK bf (Y.to bl) LC LC).M ?_;rintro dE az ⟨rfl,bm,y⟩;have bN:=(bl.T y)
    have aH:=bN.size;clear ad;go_upto_region 22 with fail;have aR:b<az:=(by have:=bm.lt.2;exact this);have cI:=bm.ind (m:=(j:Int));have cJ:=(bN.T (jq.set (b:=b) (i:=2) (w:=az) (u:=.int .i64 (j:Int)) aB.1))
    have M:=JH (JQ az ⟨b,2,none⟩ (.int .i64 (j:Int)));obtain⟨ae,af⟩:=bm.cell;go_upto_region 23 with fail;generalize(az.setCell ⟨b,2,none⟩ (.int .i64 (j:Int)))=bn at*;have dF:b<bn:=LA M.o;have dG:az.heap.size<=bn:=LA M.o;clear ae af;go_wp2_with fail;refine(kx B b j (K+1+1557906) bn [⟨#[125]⟩] cI LC LC LG (by intro x hx;simp only[Kf,J7,Kq]at hx;rcases hx with rfl<;>first|omega|decide)).M ?_;rintro dH dI ⟨rfl,cK,y⟩;have bO:=(cJ.T y)
    have dJ:=bO.size;go_wp2_with fail;go_roundw;case rel=>exact⟨d+1,K+1557908,LC,LA aJ.o,LI,cK,bO⟩
    case measure=>simp[intOf];omega
   obtain rfl:L=d:=LC;have cL:K+1<=k+3115830:=LA aJ.o;go_upto_region 25 with fail;have aR:b<wr:=(by have:=C.lt.2;exact this);have cM:=C.ind (m:=(n:Int));have cN:=(A.T (jq.set (b:=b) (i:=2) (w:=wr) (u:=.int .i64 (n:Int)) aB.1))
   have M:=JH (JQ wr ⟨b,2,none⟩ (.int .i64 (n:Int)));obtain⟨ae,af⟩:=C.cell;go_upto_region 26 with fail;generalize(wr.setCell ⟨b,2,none⟩ (.int .i64 (n:Int)))=bo at*;have dK:b<bo:=LA M.o;have dL:wr.heap.size<=bo:=LA M.o;clear ae af;go_wp2_with fail;refine(kx B b n (K) bo [⟨#[125]⟩] cM LC LC LG (by intro x hx;simp only[Kf,J7,Kq]at hx;rcases hx with rfl<;>first|omega|decide)).M ?_;rintro dM dN ⟨rfl,cO,y⟩;have bP:=(cN.T y)
   have dO:=bP.size;go_wp2_with fail
   go_end0
   exact⟨rfl,cO.up cL,aq.T bP⟩
theorem lZ.get{w}{b n:Nat}(h:lZ w b n){i:Nat}(hi:i<n):∃x:Int,w.cell? ⟨b,i,none⟩=some (.int .u8 x)/\w.frozen? ⟨b,i,none⟩=false/\∀a:Int,lZ (w.setCell ⟨b,i,none⟩ (.int .u8 a)) b n:=by obtain⟨e,c,f,d⟩:=h;obtain⟨x,hx⟩:=d i hi;rw[J4]at hx;exact⟨x,iT c i _ hx,iY c i,λa=>⟨e.setIfInBounds i (.int .u8 a),iW c,by simpa using f,d.set i a (.inr (.inr rfl))⟩⟩
theorem BO(x:Int)(w):Calls prog 179 #[.int .u64 x] w (BN w):=by
 have f:(Instr.makeSlice 22 (.int .i64 8) (.int .i64 8)).run prog w=.ok (.slice (some ⟨w,0,none⟩) 8 8) (w.alloc (.cells (madeCells #[.int .u8 0] 8) 5)):=AB 8 8 (JS _) LC w;have b:=(Ba w (.cells (madeCells #[.int .u8 0] 8) 5))
 have a:lZ (w.alloc (.cells (madeCells #[.int .u8 0] 8) 5)) w 8:=⟨_,JK w _,uG 8,AA 8⟩
 go_enter func179,ntmps179
 go_wp2;generalize w.alloc (.cells (madeCells #[.int .u8 0] 8) 5)=g at*;go_loopw [8] (λi wr=>∃k:Nat,k<=8/\i=k/\lZ wr w 8/\Below w w wr) (λi _=>8-(intOf i).toNat);case atStart=>exact⟨0,LC,rfl,a,b⟩
 case round=>
  obtain⟨k,j,rfl,a,b⟩:=hrel;by_cases c:k<8
  .obtain⟨l,m,n,d⟩:=a.get c;have p:IntKind.i64.wrap (8*(k:Int))=8*(k:Int):=LH;have q:IntKind.i64.wrap (56-8*(k:Int))=56-8*(k:Int):=LH;have r:w.heap.size<wr:=(by obtain⟨s,e,_⟩:=a;exact(JJ.1 e).1);go_wp2;go_roundw;case rel=>exact⟨k+1,LC,LI,d _,ja b (JS _)⟩
   case measure=>simp[intOf];omega
  obtain rfl:k=8:=LC;go_wp2;go_ret;exact⟨rfl,a,b⟩
theorem kp.get{T w}{b n:Nat}(h:kp T w b n){i:Nat}(hi:i<n):∃x:Int,w.cell? ⟨b,i,none⟩=some (.int .u32 x)/\w.frozen? ⟨b,i,none⟩=false/\∀a:Int,kp T (w.setCell ⟨b,i,none⟩ (.int .u32 a)) b n:=by obtain⟨e,c,f,d⟩:=h;obtain⟨x,hx⟩:=d i hi;rw[J4]at hx;exact⟨x,iT c i _ hx,iY c i,λa=>⟨e.setIfInBounds i (.int .u32 a),iW c,by simpa using f,d.set i a (.inr (.inr rfl))⟩⟩
theorem kp.set{T w}{b n:Nat}(h:kp T w b n)(i:Nat)(hi:i<n)(x:Int):kp T (w.setCell ⟨b,i,none⟩ (.int .u32 x)) b n:=by obtain⟨_,_,_,hs⟩:=h.get hi;exact hs x
theorem kp.at8{T w}{b n:Nat}(h:kp T w b n)(i:Nat)(hi:i<n):∃x:Int,w.cell? ⟨b,i,none⟩=some (.int .u32 x)/\w.frozen? ⟨b,i,none⟩=false:=by obtain⟨x,hx,hf,_⟩:=h.get hi;exact⟨x,hx,hf⟩
theorem EY(b:Nat)(w0)(h:kI w0 b)(al:ov w0)(am:(3:Nat)≠b):Calls prog 178 #[.pointer (some ⟨b,0,none⟩)] w0 (AE w0 b):=by
 have H:=h;have ay:=al;have L:=h.lt;have az:=al.lt;have r:=JH (Ba w0 (.cells Ep 386));have n:kp 386 (w0.alloc (.cells Ep 386)) w0 64:=⟨_,JK w0 _,by rw[zero64];simp,by rw[zero64];exact EX 64⟩
 clear h
 go_enter func178,ntmps178
 go_wp2_with fail;generalize(w0.alloc (.cells Ep 386))=bB at*;obtain⟨u,ac⟩:=Xq w0.heap.size;rw[<-ac]at n⊢;have bC:=JH ac;have bD:b<u:=LC
 have bE:w0<=u:=LC
 clear ac;go_loopw [22] (λi wr=>∃k:Nat,k<=16/\i=k/\kp 386 wr u 64/\Below w0 w0 wr) (λi _=>16-(intOf i).toNat);case atStart=>exact⟨0,LC,rfl,n,r.o⟩
 case round=>
  obtain⟨k,ad,rfl,n,y⟩:=hrel;have r:=JH y;have an:=n.lt;by_cases A:k<16
  .have ao:(0:Int)<=(k:Int):=LC;have ae:(k:Int)<16:=LC;have bF:IntKind.i64.wrap (4*(k:Int))=((4*k:Nat):Int):=LH;have aA:IntKind.i64.wrap (((4*k:Nat):Int)+4)=((4*k+4:Nat):Int):=LH;have bG:(0:Int)<=((4*k:Nat):Int):=LC;have bH:((4*k:Nat):Int)<=((4*k+4:Nat):Int):=LC;have bI:((4*k+4:Nat):Int)<=64:=LC;have bJ:=zn b k A wr;have bK:(k:Int)<64:=LC;go_wp2_with fail;refine rr (λx=>Below w0 w0 x/\kp 386 x u 64) (λv w=>Below w0 w0 w/\kp 386 w u 64) (kN [(·=k),(·=.slice (some ⟨b,8+4*k,none⟩) 4 (64-4*k)),(Pp b (8+4*k)),Tr,Tr,Tr,(·=.slice (some ⟨b,8+4*k,none⟩) 4 (64-4*k)),(Pp b (8+4*k+1)),Tr,Tr,Tr,Tr,(·=.slice (some ⟨b,8+4*k,none⟩) 4 (64-4*k)),(Pp b (8+4*k+2)),Tr,Tr,Tr,Tr,(·=.slice (some ⟨b,8+4*k,none⟩) 4 (64-4*k)),(Pp b (8+4*k+3)),Tr,Tr,Tr,(Pp u k),Tr]) [(3,λv w=>∃l:Int,v=.int .u8 l),(4,λv w=>∃l:Int,v=.int .u32 l),(5,λv w=>∃l:Int,v=.int .u32 l),(8,λv w=>∃l:Int,v=.int .u8 l),(9,λv w=>∃l:Int,v=.int .u32 l),(10,λv w=>∃l:Int,v=.int .u32 l),(11,λv w=>∃l:Int,v=.int .u32 l),(14,λv w=>∃l:Int,v=.int .u8 l),(15,λv w=>∃l:Int,v=.int .u32 l),(16,λv w=>∃l:Int,v=.int .u32 l),(17,λv w=>∃l:Int,v=.int .u32 l),(20,λv w=>∃l:Int,v=.int .u8 l),(21,λv w=>∃l:Int,v=.int .u32 l),(22,λv w=>∃l:Int,v=.int .u32 l)] (⟨r.o.drew,n⟩) ⟨?_,?_,?_,?_,?_,?_,?_,?_,?_,?_,?_,?_,?_,?_,?_,?_,?_,?_,?_,?_,?_,?_,?_,?_,?_,trivial⟩ ?_;exact Pf 3;exact Pf 4;intro p w j hf m hd n;have bL:=Sv 35 m 1;exact .q (g:=⟨rfl,j,Qa⟩);intro p w j hf m hd n;have bM:=Sv 36 m 2;obtain⟨B,g⟩:=(H.iV (j.1.B b L)).byte (i:=4*k) LC;replace j:=Hq j;exact .q (g:=⟨trivial,j.o,Qc ⟨_,rfl⟩<|Qa⟩);intro p w j hf m hd n;obtain⟨bN,aB⟩:=hd _ (Mm 0 rfl) _ rfl rfl;have bO:=Sl 37 aB;clear hf m hd n;exact .q (g:=⟨trivial,j,Qb<|Qc ⟨_,rfl⟩<|Qa⟩);intro p w j hf m hd n;obtain⟨bP,aC⟩:=hd _ (Mm 1 rfl) _ rfl rfl;have bQ:=Sl 38 aC;exact .q (g:=⟨trivial,j,Q2<|Qc ⟨_,rfl⟩<|Qa⟩);exact Pf 4;intro p w j hf m hd n;have bR:=Sv 40 m 6;exact .q (g:=⟨rfl,j,Qa⟩);intro p w j hf m hd n;have bS:=Sv 41 m 7;obtain⟨B,g⟩:=(H.iV (j.1.B b L)).byte (i:=4*k+1) LC;rw[<-Nat.add_assoc]at g;replace j:=Hq j;exact .q (g:=⟨trivial,j.o,Q2<|Qb<|Qc ⟨_,rfl⟩<|Qa⟩);intro p w j hf m hd n;obtain⟨bT,aD⟩:=hd _ (Mm 3 rfl) _ rfl rfl;have bU:=Sl 42 aD;clear hf m hd n;exact .q (g:=⟨trivial,j,Q4<|Qc ⟨_,rfl⟩<|Qa⟩);intro p w j hf m hd n;obtain⟨bV,aE⟩:=hd _ (Mm 4 rfl) _ rfl rfl;have bW:=Sl 43 aE;exact .q (g:=⟨trivial,j,Q4<|Qb<|Qc ⟨_,rfl⟩<|Qa⟩);intro p w j hf m hd n;obtain⟨bX,aF⟩:=hd _ (Mm 2 rfl) _ rfl rfl;have bY:=Sl 39 aF;obtain⟨bZ,aG⟩:=hd _ (Mm 5 rfl) _ rfl rfl;have ca:=Sl 44 aG;exact .q (g:=⟨trivial,j,Q4<|Q2<|Qc ⟨_,rfl⟩<|Qa⟩);exact Pf 4;intro p w j hf m hd n;have cb:=Sv 46 m 12;exact .q (g:=⟨rfl,j,Qa⟩);intro p w j hf m hd n;have cc:=Sv 47 m 13;obtain⟨B,g⟩:=(H.iV (j.1.B b L)).byte (i:=4*k+2) LC;rw[<-Nat.add_assoc]at g;replace j:=Hq j;exact .q (g:=⟨trivial,j.o,Q4<|Q2<|Qb<|Qc ⟨_,rfl⟩<|Qa⟩);intro p w j hf m hd n;obtain⟨cd,aH⟩:=hd _ (Mm 7 rfl) _ rfl rfl;have ce:=Sl 48 aH;clear hf m hd n;exact .q (g:=⟨trivial,j,Q4<|Q4<|Qc ⟨_,rfl⟩<|Qa⟩);intro p w j hf m hd n;obtain⟨cf,aI⟩:=hd _ (Mm 8 rfl) _ rfl rfl;have cg:=Sl 49 aI;exact .q (g:=⟨trivial,j,Q4<|Q4<|Qb<|Qc ⟨_,rfl⟩<|Qa⟩);intro p w j hf m hd n;obtain⟨ch,aJ⟩:=hd _ (Mm 6 rfl) _ rfl rfl;have ci:=Sl 45 aJ;obtain⟨cj,aK⟩:=hd _ (Mm 9 rfl) _ rfl rfl;have ck:=Sl 50 aK;exact .q (g:=⟨trivial,j,Q4<|Q4<|Q2<|Qc ⟨_,rfl⟩<|Qa⟩);exact Pf 4;intro p w j hf m hd n;have cl:=Sv 52 m 18;exact .q (g:=⟨rfl,j,Qa⟩);intro p w j hf m hd n;have cm:=Sv 53 m 19;obtain⟨B,g⟩:=(H.iV (j.1.B b L)).byte (i:=4*k+3) LC;rw[<-Nat.add_assoc]at g;replace j:=Hq j;exact .q (g:=⟨trivial,j.o,Q4<|Q4<|Q2<|Qb<|Qc ⟨_,rfl⟩<|Qa⟩);intro p w j hf m hd n;obtain⟨cn,aL⟩:=hd _ (Mm 11 rfl) _ rfl rfl;have co:=Sl 54 aL;clear hf m hd n;exact .q (g:=⟨trivial,j,Q4<|Q4<|Q4<|Qc ⟨_,rfl⟩<|Qa⟩);intro p w j hf m hd n;obtain⟨cp,aM⟩:=hd _ (Mm 10 rfl) _ rfl rfl;have cq:=Sl 51 aM;obtain⟨cr,aN⟩:=hd _ (Mm 12 rfl) _ rfl rfl;have cs:=Sl 55 aN;exact .q (g:=⟨trivial,j,Q4<|Q4<|Q4<|Qb<|Qc ⟨_,rfl⟩<|Qa⟩);intro p w j hf m hd n;have U:=Sl 2 (hf 2 rfl);have ct:=Sv 34 m 0;exact .q (g:=⟨rfl,j,Qa⟩);intro p w j hf m hd n;have cu:=Sv 57 m 23;obtain⟨aO,aP⟩:=hd _ (Mm 13 rfl) _ rfl rfl;have cv:=Sl 56 aP;obtain⟨B,g,gf,hs⟩:=j.2.get (i:=k) LC;have R:=JH (hs aO);clear hs;replace j:=Hq j;refine .h λK hK=>?_;go_simp;exact hK (⟨ja j.o.1 LC,R.o⟩);intro V F J D;have G:=JH D;clear J D;simp only[je,Act.put,JL,JP,JO];go_wp2_with fail;go_roundw;case rel=>exact⟨k+1,LC,LI,G.o.2,G.o.1⟩
   case measure=>simp[intOf];omega
  obtain rfl:k=16:=LC;obtain⟨cw,rfl⟩:=Xq wr;go_wp2_with fail;go_loopw [5] (λi wr=>∃k:Nat,16<=k/\k<=64/\i=k/\Below w0 w0 wr/\kp 386 wr u 64) (λi _=>64-(intOf i).toNat);case atStart=>exact⟨16,LC,LC,rfl,r.o,n⟩
  case round=>
   clear A;obtain⟨k,cx,ad,rfl,y,n⟩:=hrel;have n:=n;have r:=JH y;have an:=n.lt;by_cases A:k<64
   .have ae:(k:Int)<64:=LC;have cy:IntKind.i64.wrap ((k:Int)-15)=((k-15:Nat):Int):=LH;have aA:IntKind.i64.wrap ((k:Int)-2)=((k-2:Nat):Int):=LH;have cz:IntKind.i64.wrap ((k:Int)-16)=((k-16:Nat):Int):=LH;have cA:IntKind.i64.wrap ((k:Int)-7)=((k-7:Nat):Int):=LH;have cB:IntKind.i64.wrap ((k:Int)+1)=((k+1:Nat):Int):=LH;have cC:(0:Int)<=((k-15:Nat):Int):=LC;have cD:((k-15:Nat):Int)<64:=LC;have cE:(0:Int)<=((k-2:Nat):Int):=LC;have cF:((k-2:Nat):Int)<64:=LC;have cG:(0:Int)<=((k-16:Nat):Int):=LC;have cH:((k-16:Nat):Int)<64:=LC;have cI:(0:Int)<=((k-7:Nat):Int):=LC;have cJ:((k-7:Nat):Int)<64:=LC;have a0:(0:Int)<=(k:Int):=LC;obtain⟨cK,aQ,_⟩:=n.at8 (k-15) LC;obtain⟨cL,c2,_⟩:=n.at8 (k-2) LC;go_upto_region 10 with fail;go_cut [5,6,7] (λt a c z=>t=k/\(∃l:Int,a=.int .u32 l)/\(∃l:Int,c=.int .u32 l)/\Below w0 w0 z/\kp 386 z u 64);case first=>go_quiet (fail);go_wp2_with fail;go_meet;exact⟨rfl,⟨_,rfl⟩,⟨_,rfl⟩,r.o.T (kF (Below.refl _ _) _),n.to (kF (Below.refl _ _) _)⟩
    case rest=>
     obtain⟨rfl,⟨M,rfl⟩,⟨N,rfl⟩,y,n⟩:=hcut;clear aQ c2;have n:=n;have r:=JH y;have cM:=n.lt;obtain⟨O,rfl⟩:=Xq wc;go_upto_region 11 with fail;go_cut [5,7,8] (λt c s z=>t=k/\c=.int .u32 N/\(∃l:Int,s=.int .u32 l)/\z=O);case first=>go_wp2_with fail;refine(lu M 7 LD _).M ?_;rintro e w' ⟨cN,rfl,rfl⟩;go_wp2_with fail;refine(lu M 18 LD _).M ?_;rintro e w' ⟨cO,rfl,rfl⟩;go_wp2_with fail;go_meet;exact⟨rfl,rfl,⟨_,rfl⟩,rfl⟩
     case rest=>
      obtain⟨rfl,rfl,⟨ap,rfl⟩,rfl⟩:=hcut;obtain⟨O,rfl⟩:=Xq wc;go_upto_region 12 with fail;go_cut [5,8,9] (λt c s z=>t=k/\c=.int .u32 ap/\(∃l:Int,s=.int .u32 l)/\z=O);case first=>go_wp2_with fail;refine(lu N 17 LD _).M ?_;rintro e w' ⟨cP,rfl,rfl⟩;go_wp2_with fail;refine(lu N 19 LD _).M ?_;rintro e w' ⟨cQ,rfl,rfl⟩;go_wp2_with fail;go_meet;exact⟨rfl,rfl,⟨_,rfl⟩,rfl⟩
      case rest=>
       obtain⟨rfl,rfl,⟨aR,rfl⟩,rfl⟩:=hcut;obtain⟨O,rfl⟩:=Xq wc;go_upto_region 13 with fail;refine rr (λx=>Below w0 w0 x/\kp 386 x u 64) (λv w=>Below w0 w0 w/\kp 386 w u 64) (kN [(·=k),(·=k),(·=.int .i64 ((k-16:Nat):Int)),(Pp u (k-16)),Tr,(·=.int .u32 ap),Tr,(·=k),(·=.int .i64 ((k-7:Nat):Int)),(Pp u (k-7)),Tr,Tr,(·=.int .u32 aR),Tr,(Pp u k),Tr]) [(4,λv w=>∃l:Int,v=.int .u32 l),(6,λv w=>∃l:Int,v=.int .u32 l),(10,λv w=>∃l:Int,v=.int .u32 l),(11,λv w=>∃l:Int,v=.int .u32 l),(13,λv w=>∃l:Int,v=.int .u32 l)] (⟨r.o.drew,n⟩) ⟨?_,?_,?_,?_,?_,?_,?_,?_,?_,?_,?_,?_,?_,?_,?_,?_,trivial⟩ ?_;exact Pf 5;exact Pf 5;intro p w j hf m hd n;have cR:=Sv 88 m 1;exact .q (g:=⟨rfl,j,Qa⟩);intro p w j hf m hd n;have U:=Sl 2 (hf 2 rfl);have cS:=Sv 89 m 2;exact .q (g:=⟨rfl,j,Qa⟩);intro p w j hf m hd n;have cT:=Sv 90 m 3;obtain⟨B,g,_⟩:=j.2.at8 (k-16) LC;replace j:=Hq j;exact .q (g:=⟨trivial,j.o,Qc ⟨_,rfl⟩<|Qa⟩);exact Pf 8;intro p w j hf m hd n;obtain⟨cU,aS⟩:=hd _ (Mm 0 rfl) _ rfl rfl;have cV:=Sl 91 aS;have cW:=Sv 92 m 5;exact .q (g:=⟨trivial,j,Qb<|Qc ⟨_,rfl⟩<|Qa⟩);exact Pf 5;intro p w j hf m hd n;have cX:=Sv 94 m 7;exact .q (g:=⟨rfl,j,Qa⟩);intro p w j hf m hd n;have U:=Sl 2 (hf 2 rfl);have cY:=Sv 95 m 8;exact .q (g:=⟨rfl,j,Qa⟩);intro p w j hf m hd n;have cZ:=Sv 96 m 9;obtain⟨B,g,_⟩:=j.2.at8 (k-7) LC;replace j:=Hq j;exact .q (g:=⟨trivial,j.o,Q2<|Qc ⟨_,rfl⟩<|Qa⟩);intro p w j hf m hd n;obtain⟨da,aT⟩:=hd _ (Mm 1 rfl) _ rfl rfl;have db:=Sl 93 aT;obtain⟨dc,aU⟩:=hd _ (Mm 2 rfl) _ rfl rfl;have dd:=Sl 97 aU;exact .q (g:=⟨trivial,j,Q2<|Qb<|Qc ⟨_,rfl⟩<|Qa⟩);exact Pf 9;intro p w j hf m hd n;obtain⟨de,aV⟩:=hd _ (Mm 3 rfl) _ rfl rfl;have df:=Sl 98 aV;have dg:=Sv 99 m 12;exact .q (g:=⟨trivial,j,Q4<|Qc ⟨_,rfl⟩<|Qa⟩);intro p w j hf m hd n;have U:=Sl 2 (hf 2 rfl);have dh:=Sv 87 m 0;exact .q (g:=⟨rfl,j,Qa⟩);intro p w j hf m hd n;have di:=Sv 101 m 14;obtain⟨aW,aX⟩:=hd _ (Mm 4 rfl) _ rfl rfl;have dj:=Sl 100 aX;obtain⟨B,g,gf,hs⟩:=j.2.get (i:=k) LC;have R:=JH (hs aW);clear hs;replace j:=Hq j;refine .h λK hK=>?_;go_simp;exact hK (⟨ja j.o.1 LC,R.o⟩);intro V F J D;have G:=JH D;clear J D;simp only[je,Act.put,JL,JP,JO];go_wp2_with fail;go_roundw;case rel=>exact⟨k+1,LC,LC,LI,G.o.1,G.o.2⟩
       case measure=>simp[intOf];omega
   obtain rfl:k=64:=LC;have dk:w0.heap.size<=wr:=LC;have I:=(H.iV (r.o.B b L))
   obtain⟨u0,P⟩:=I.at8 0 LC;obtain⟨u1,c1⟩:=I.at8 1 LC;obtain⟨u2,c2⟩:=I.at8 2 LC;obtain⟨u3,c3⟩:=I.at8 3 LC;obtain⟨W,c4⟩:=I.at8 4 LC;obtain⟨X,c5⟩:=I.at8 5 LC;obtain⟨Y,Q⟩:=I.at8 6 LC;obtain⟨Z,aa⟩:=I.at8 7 LC;obtain⟨E,af⟩:=Xq wr.heap.size;have dl:u<E:=LC;have aY:=JH (show Below w0 w0 (wr.alloc (.cells #[.int .u32 u0,.int .u32 u1,.int .u32 u2,.int .u32 u3,.int .u32 W,.int .u32 X,.int .u32 Y,.int .u32 Z] 327))/\kp 386 (wr.alloc (.cells #[.int .u32 u0,.int .u32 u1,.int .u32 u2,.int .u32 u3,.int .u32 W,.int .u32 X,.int .u32 Y,.int .u32 Z] 327)) u 64/\kp 327 (wr.alloc (.cells #[.int .u32 u0,.int .u32 u1,.int .u32 u2,.int .u32 u3,.int .u32 W,.int .u32 X,.int .u32 Y,.int .u32 Z] 327)) E 8 from⟨r.o.alloc LC _,n.to (Ba _ _),by rw[af];exact kp.eight (JK _ _)⟩);have aZ:=JH af;clear af;have dm:b<wr:=LC;go_upto_region 15 with fail;rw[<-aZ.o];generalize(wr.alloc (.cells #[.int .u32 u0,.int .u32 u1,.int .u32 u2,.int .u32 u3,.int .u32 W,.int .u32 X,.int .u32 Y,.int .u32 Z] 327))=dn at*;clear P c1 c2 c3 c4 c5 Q aa;go_wp2_with fail;go_loopw [106] (λi wr=>∃k:Nat,k<=64/\i=k/\Below w0 w0 wr/\kp 386 wr u 64/\kp 327 wr E 8) (λi _=>64-(intOf i).toNat);case atStart=>exact⟨0,LC,rfl,aY.o⟩
   case round=>
    clear A;obtain⟨k,ad,rfl,y⟩:=hrel;have r:=JH y;have an:=y.2.1.lt;have dp:=y.2.2.lt;clear y;by_cases A:k<64
    .have ao:(0:Int)<=(k:Int):=LC;have ae:(k:Int)<64:=LC;obtain⟨ag,P,_⟩:=r.o.2.2.at8 0 LC;obtain⟨ah,c1,_⟩:=r.o.2.2.at8 1 LC;obtain⟨ai,c2,_⟩:=r.o.2.2.at8 2 LC;obtain⟨aj,c4,_⟩:=r.o.2.2.at8 4 LC;obtain⟨ak,c5,_⟩:=r.o.2.2.at8 5 LC;obtain⟨M,Q,_⟩:=r.o.2.2.at8 6 LC;go_upto_region 18 with fail;go_cut [11,12,13,14,15,16,17,106]from 106 to 183 (λi a c d e f g S z=>S=k/\i=k/\(∃l:Int,a=.int .u32 l)/\(∃l:Int,c=.int .u32 l)/\(∃l:Int,d=.int .u32 l)/\(∃l:Int,e=.int .u32 l)/\(∃l:Int,f=.int .u32 l)/\(∃l:Int,g=.int .u32 l)/\Below w0 w0 z/\kp 386 z u 64/\kp 327 z E 8);case first=>go_quiet (fail);go_wp2_with fail;go_meet;exact⟨rfl,rfl,⟨_,rfl⟩,⟨_,rfl⟩,⟨_,rfl⟩,⟨_,rfl⟩,⟨_,rfl⟩,⟨_,rfl⟩,r.o.1.T (kF (Below.refl _ _) _),r.o.2.1.to (kF (Below.refl _ _) _),r.o.2.2.to (kF (Below.refl _ _) _)⟩
     case rest=>
      clear P c1 c2 c4 c5 Q;obtain⟨rfl,rfl,⟨ab,rfl⟩,⟨v1,rfl⟩,⟨v2,rfl⟩,⟨v4,rfl⟩,⟨aq,rfl⟩,⟨ar,rfl⟩,y⟩:=hcut;have r:=JH y;clear y;obtain⟨O,rfl⟩:=Xq wc;go_upto_region 19 with fail;refine rr (λx=>Below w0 w0 x/\kp 386 x u 64/\kp 327 x E 8) (λv w=>(∃l:Int,v=.int .u32 l)/\Below w0 w0 w/\kp 386 w u 64/\kp 327 w E 8) (kN [(Pp E 7),Tr,(·=.int .u32 v4),Tr,(·=.int .u32 v4),Tr,Tr,(·=.int .u32 v4),Tr,Tr,Tr,(·=.int .u32 v4),(·=.int .u32 aq),Tr,(·=.int .u32 v4),Tr,(·=.int .u32 ar),Tr,Tr,Tr,(·=k),(Pp 3 k),Tr,Tr,(·=k),(Pp u k),Tr,Tr,Tr]) [(1,λv w=>∃l:Int,v=.int .u32 l),(3,λv w=>∃l:Int,v=.int .u32 l),(5,λv w=>∃l:Int,v=.int .u32 l),(6,λv w=>∃l:Int,v=.int .u32 l),(8,λv w=>∃l:Int,v=.int .u32 l),(9,λv w=>∃l:Int,v=.int .u32 l),(10,λv w=>∃l:Int,v=.int .u32 l),(13,λv w=>∃l:Int,v=.int .u32 l),(15,λv w=>∃l:Int,v=.int .u32 l),(17,λv w=>∃l:Int,v=.int .u32 l),(18,λv w=>∃l:Int,v=.int .u32 l),(19,λv w=>∃l:Int,v=.int .u32 l),(22,λv w=>∃l:Int,v=.int .u32 l),(23,λv w=>∃l:Int,v=.int .u32 l),(26,λv w=>∃l:Int,v=.int .u32 l),(27,λv w=>∃l:Int,v=.int .u32 l)] (⟨r.o.1.drew,r.o.2.1.to ((Below.refl _ _).drew),r.o.2.2.to ((Below.refl _ _).drew)⟩) ⟨?_,?_,?_,?_,?_,?_,?_,?_,?_,?_,?_,?_,?_,?_,?_,?_,?_,?_,?_,?_,?_,?_,?_,?_,?_,?_,?_,?_,?_,trivial⟩ ?_;intro p w j hf m hd n;have dq:=Sl 10 (hf 10 rfl);exact .q (g:=⟨rfl,j,Qa⟩);intro p w j hf m hd n;have dr:=Sv 121 m 0;obtain⟨B,g,_⟩:=j.2.2.at8 7 LC;replace j:=Hq j;exact .q (g:=⟨trivial,j.o,Qc ⟨_,rfl⟩<|Qa⟩);exact Pf 15;intro p w j hf m hd n;have ds:=Sv 123 m 2;replace j:=Hq j;refine .c (lu v4 6 LD w) ?_;rintro e w' ⟨au,he,T⟩;subst he;subst T;exact⟨_,rfl,⟨trivial,j.o,Qb<|Qc ⟨_,rfl⟩<|Q4<|Q4<|Q4<|Q2<|Qe⟩⟩;exact Pf 15;intro p w j hf m hd n;have dt:=Sv 125 m 4;replace j:=Hq j;refine .c (lu v4 11 LD w) ?_;rintro e w' ⟨au,he,T⟩;subst he;subst T;exact⟨_,rfl,⟨trivial,j.o,Q2<|Qc ⟨_,rfl⟩<|Q4<|Q4<|Q4<|Qb<|Qe⟩⟩;intro p w j hf m hd n;obtain⟨du,ba⟩:=hd _ (Mm 1 rfl) _ rfl rfl;have dv:=Sl 124 ba;obtain⟨dw,bb⟩:=hd _ (Mm 2 rfl) _ rfl rfl;have dx:=Sl 126 bb;exact .q (g:=⟨trivial,j,Q2<|Qb<|Qc ⟨_,rfl⟩<|Qa⟩);exact Pf 15;intro p w j hf m hd n;have dy:=Sv 128 m 7;replace j:=Hq j;refine .c (lu v4 25 LD w) ?_;rintro e w' ⟨au,he,T⟩;subst he;subst T;exact⟨_,rfl,⟨trivial,j.o,Q4<|Qc ⟨_,rfl⟩<|Q4<|Q4<|Q2<|Qb<|Qe⟩⟩;intro p w j hf m hd n;obtain⟨dz,bc⟩:=hd _ (Mm 3 rfl) _ rfl rfl;have dA:=Sl 127 bc;obtain⟨dB,bd⟩:=hd _ (Mm 4 rfl) _ rfl rfl;have dC:=Sl 129 bd;exact .q (g:=⟨trivial,j,Q4<|Qb<|Qc ⟨_,rfl⟩<|Qa⟩);intro p w j hf m hd n;obtain⟨dD,be⟩:=hd _ (Mm 0 rfl) _ rfl rfl;have dE:=Sl 122 be;obtain⟨dF,bf⟩:=hd _ (Mm 5 rfl) _ rfl rfl;have dG:=Sl 130 bf;exact .q (g:=⟨trivial,j,Q4<|Q2<|Qc ⟨_,rfl⟩<|Qa⟩);exact Pf 15;exact Pf 16;intro p w j hf m hd n;have dH:=Sv 132 m 11;have dI:=Sv 133 m 12;exact .q (g:=⟨trivial,j,Q4<|Q2<|Qb<|Qc ⟨_,rfl⟩<|Qa⟩);exact Pf 15;intro p w j hf m hd n;have dJ:=Sv 135 m 14;clear hf m hd n;exact .q (g:=⟨trivial,j,Q4<|Q4<|Qc ⟨_,rfl⟩<|Qa⟩);exact Pf 17;intro p w j hf m hd n;obtain⟨dK,bg⟩:=hd _ (Mm 8 rfl) _ rfl rfl;have dL:=Sl 136 bg;have dM:=Sv 137 m 16;exact .q (g:=⟨trivial,j,Q4<|Q4<|Qb<|Qc ⟨_,rfl⟩<|Qa⟩);intro p w j hf m hd n;obtain⟨dN,bh⟩:=hd _ (Mm 7 rfl) _ rfl rfl;have dO:=Sl 134 bh;obtain⟨dP,bi⟩:=hd _ (Mm 9 rfl) _ rfl rfl;have dQ:=Sl 138 bi;exact .q (g:=⟨trivial,j,Q4<|Q4<|Q2<|Qc ⟨_,rfl⟩<|Qa⟩);intro p w j hf m hd n;obtain⟨dR,bj⟩:=hd _ (Mm 6 rfl) _ rfl rfl;have dS:=Sl 131 bj;obtain⟨dT,bk⟩:=hd _ (Mm 10 rfl) _ rfl rfl;have dU:=Sl 139 bk;exact .q (g:=⟨trivial,j,Q4<|Q4<|Q2<|Qb<|Qc ⟨_,rfl⟩<|Qa⟩);exact Pf 11;intro p w j hf m hd n;have dV:=Sv 141 m 20;exact .q (g:=⟨rfl,j,Qa⟩);intro p w j hf m hd n;have dW:=Sv 142 m 21;obtain⟨B,g⟩:=(ay.iV (j.1.B _ az) j.1.size).jr k A;replace j:=Hq j;exact .q (g:=⟨trivial,j.o,Q4<|Q4<|Q4<|Qc ⟨_,rfl⟩<|Qa⟩);intro p w j hf m hd n;obtain⟨dX,bl⟩:=hd _ (Mm 11 rfl) _ rfl rfl;have dY:=Sl 140 bl;obtain⟨dZ,bm⟩:=hd _ (Mm 12 rfl) _ rfl rfl;have ea:=Sl 143 bm;exact .q (g:=⟨trivial,j,Q4<|Q4<|Q4<|Qb<|Qc ⟨_,rfl⟩<|Qa⟩);exact Pf 11;intro p w j hf m hd n;have U:=Sl 2 (hf 2 rfl);have eb:=Sv 145 m 24;exact .q (g:=⟨rfl,j,Qa⟩);intro p w j hf m hd n;have ec:=Sv 146 m 25;obtain⟨B,g,_⟩:=j.2.1.at8 k A;replace j:=Hq j;exact .q (g:=⟨trivial,j.o,Q4<|Q4<|Q4<|Q2<|Qc ⟨_,rfl⟩<|Qa⟩);intro p w j hf m hd n;obtain⟨ed,bn⟩:=hd _ (Mm 13 rfl) _ rfl rfl;have ee:=Sl 144 bn;obtain⟨ef,bo⟩:=hd _ (Mm 14 rfl) _ rfl rfl;have eg:=Sl 147 bo;exact .q (g:=⟨trivial,j,Q4<|Q4<|Q4<|Q2<|Qb<|Qc ⟨_,rfl⟩<|Qa⟩);intro p w j hf m hd n;obtain⟨eh,bp⟩:=hd _ (Mm 15 rfl) _ rfl rfl;have ei:=Sl 148 bp;replace j:=Hq j;refine .h λK hK=>?_;go_simp;exact hK (⟨⟨_,rfl⟩,j.o⟩);intro V F J D;obtain⟨⟨bq,av⟩,y⟩:=(show(∃l:Int,V 28=.int .u32 l)/\Below w0 w0 F/\kp 386 F u 64/\kp 327 F E 8 from D)
      have C:=JH y;clear y J;simp only[je,Act.put,JL,JP,JO,J4,Nat.reduceAdd];simp only[av];clear av;go_upto_region 20 with fail;go_cut [11,12,13,14,15,16,17,18,19,106]from 106 to 183 (λi a c d e f g h s S z=>S=k/\i=k/\a=.int .u32 ab/\c=.int .u32 v1/\d=.int .u32 v2/\e=.int .u32 v4/\f=.int .u32 aq/\g=.int .u32 ar/\h=.int .u32 bq/\(∃l:Int,s=.int .u32 l)/\z=F);case first=>go_wp2_with fail;refine(lu ab 2 LD _).M ?_;rintro e w' ⟨ej,rfl,rfl⟩;go_wp2_with fail;refine(lu ab 13 LD _).M ?_;rintro e w' ⟨ek,rfl,rfl⟩;go_wp2_with fail;refine(lu ab 22 LD _).M ?_;rintro e w' ⟨el,rfl,rfl⟩;go_wp2_with fail;go_meet;exact⟨rfl,rfl,rfl,rfl,rfl,rfl,rfl,rfl,rfl,⟨_,rfl⟩,rfl⟩
      case rest=>
       obtain⟨rfl,rfl,rfl,rfl,rfl,rfl,rfl,rfl,rfl,⟨em,rfl⟩,rfl⟩:=hcut;obtain⟨F,rfl⟩:=Xq wc;obtain⟨ag,P,en⟩:=C.o.2.2.at8 0 LC;obtain⟨ah,c1,eo⟩:=C.o.2.2.at8 1 LC;obtain⟨ai,c2,ep⟩:=C.o.2.2.at8 2 LC;obtain⟨aw,c3,eq⟩:=C.o.2.2.at8 3 LC;obtain⟨aj,c4,er⟩:=C.o.2.2.at8 4 LC;obtain⟨ak,c5,es⟩:=C.o.2.2.at8 5 LC;obtain⟨M,Q,et⟩:=C.o.2.2.at8 6 LC;obtain⟨N,aa,eu⟩:=C.o.2.2.at8 7 LC;have ev:E<F:=C.o.2.2.lt;go_wp2_with fail;go_roundw;case rel=>
        refine⟨k+1,LC,LI,?_,?_,?_⟩;repeat refine ja ?_ LC
        exact C.o.1;refine C.o.2.1.iV ?_;have am:u≠E:=LC;repeat refine(J0 _ _ _ _ am).T ?_
        rfl;exact((((((((C.o.2.2.set 0 LC _).set 1 LC _).set 2 LC _).set 3 LC _).set 4 LC _).set 5 LC _).set 6 LC _).set 7 LC _)
       case measure=>simp[intOf];omega
    obtain rfl:k=64:=LC;obtain⟨ag,P,_⟩:=r.o.2.2.at8 0 LC;obtain⟨ah,c1,_⟩:=r.o.2.2.at8 1 LC;obtain⟨ai,c2,_⟩:=r.o.2.2.at8 2 LC;obtain⟨aw,c3,_⟩:=r.o.2.2.at8 3 LC;obtain⟨aj,c4,_⟩:=r.o.2.2.at8 4 LC;obtain⟨ak,c5,_⟩:=r.o.2.2.at8 5 LC;obtain⟨M,Q,_⟩:=r.o.2.2.at8 6 LC;obtain⟨N,aa,_⟩:=r.o.2.2.at8 7 LC;have br:=(H.iV (r.o.1.B b L))
    have bs:w0.grownBy wr (some b):=⟨r.o.1.os,r.o.1.tape,r.o.1.output,r.o.1.size,λq bt _=>r.o.1.B q bt⟩
    obtain⟨ew,rfl⟩:=Xq wr;go_wp2_with fail;clear P c1 c2 c3 c4 c5 Q aa;go_loopw [185] (λi wr=>∃k:Nat,k<=8/\i=k/\w0.grownBy wr (some b)/\kI wr b) (λi _=>8-(intOf i).toNat);case atStart=>exact⟨0,LC,rfl,bs,br⟩
    case round=>
     clear A;obtain⟨k,ad,rfl,bu,ax⟩:=hrel;have r:=JH (And.intro bu ax);have ex:=ax.lt;by_cases A:k<8
     .have ao:(0:Int)<=(k:Int):=LC;have ae:(k:Int)<8:=LC;go_upto_region 25 with fail;go_cut [20,21,185]from 185 to 200 (λa x S z=>S=k/\a=k/\(∃l:Int,x=.int .u32 l)/\z=wr);case first=>obtain⟨ey,ez⟩:=Hk wr k A ag ah ai aw aj ak M N;go_wp2_with fail;go_meet;exact⟨rfl,rfl,⟨_,rfl⟩,rfl⟩
      case rest=>
       obtain⟨rfl,rfl,⟨bv,rfl⟩,rfl⟩:=hcut;obtain⟨O,rfl⟩:=Xq wc;go_upto_region 26 with fail;refine rr (λx=>w0.grownBy x (some b)/\kI x b) (λv w=>w0.grownBy w (some b)/\kI w b) (kN [(Pp b 0),(·=k),(Pp b 0),(Pp b 0),(Pp b k),Tr,(·=.int .u32 bv),Tr,(Pp b 0),(Pp b 0),(Pp b k),Tr]) [(5,λv w=>∃l:Int,v=.int .u32 l),(7,λv w=>∃l:Int,v=.int .u32 l)] (⟨r.o.1.T ⟨rfl,rfl,rfl,JS _,λ_ _ _=>rfl⟩,r.o.2.iV rfl⟩) ⟨?_,?_,?_,?_,?_,?_,?_,?_,?_,?_,?_,?_,trivial⟩ ?_;exact Pf 0;exact Pf 20;exact Pv 189 0;exact Pv 191 2;intro p w j hf m hd n;have eA:=Sv 192 m 3;have bw:=Sv 190 m 1;exact .q (g:=⟨rfl,j,Qa⟩);intro p w j hf m hd n;have eB:=Sv 193 m 4;obtain⟨B,g,_⟩:=j.2.word A;replace j:=Hq j;exact .q (g:=⟨trivial,j.o,Qc ⟨_,rfl⟩<|Qa⟩);exact Pf 21;intro p w j hf m hd n;obtain⟨eC,bx⟩:=hd _ (Mm 0 rfl) _ rfl rfl;have eD:=Sl 194 bx;have eE:=Sv 195 m 6;exact .q (g:=⟨trivial,j,Qb<|Qc ⟨_,rfl⟩<|Qa⟩);exact Pv 189 0;exact Pv 197 8;intro p w j hf m hd n;have eF:=Sv 198 m 9;have bw:=Sv 190 m 1;exact .q (g:=⟨rfl,j,Qa⟩);intro p w j hf m hd n;have eG:=Sv 199 m 10;obtain⟨bz,bA⟩:=hd _ (Mm 1 rfl) _ rfl rfl;have eH:=Sl 196 bA;obtain⟨B,g,gf,hs⟩:=j.2.word A;have R:=JH (hs bz);clear hs;replace j:=Hq j;refine .h λK hK=>?_;go_simp;exact hK (⟨j.o.1.T (jb _ _ _ _),R.o⟩);intro V F J D;have G:=JH D;clear J D;simp only[je,Act.put,JL,JP,JO];go_wp2_with fail;go_roundw;case rel=>exact⟨k+1,LC,LI,G.o.1,G.o.2⟩
       case measure=>simp[intOf];omega
     obtain rfl:k=8:=LC;go_wp2_with fail
     go_end0
     exact⟨rfl,r.o.1,r.o.2⟩
theorem mC.set{T w}{b n:Nat}(h:mC T w b n)(i:Nat)(x:Int):mC T (w.setCell ⟨b,i,none⟩ (.int .u8 x)) b n:=by obtain⟨a,c,d,e⟩:=h;exact⟨a.setIfInBounds i (.int .u8 x),iW c,by simpa using d,e.set i x (.inr (.inr rfl))⟩
end Go.Proofs.YtidmdcckbdmblaaGreatDoor
namespace Go.Proofs.YtidmdcckbdmblaaGreatDoor
open Go.RowKit jJ mX Go.Proofs.Tryz
theorem nt.set{w:World}{b a:Nat}{c d:Array Value}{x:World}(h:nt w b a c d x)(f:w<=a)(g:b≠a)(i:Nat)(u:Value){e:Array Value}(hc:d.setIfInBounds i u=e:=by rfl):nt w b a c e (x.setCell ⟨a,i,none⟩ u):=
 ⟨ja h.1 f,(J8 _ _ _ _ g).T h.2.1,by rw[<-hc];exact iW h.2.2⟩
end Go.Proofs.YtidmdcckbdmblaaGreatDoor
namespace Go.Proofs.YtidmdcckbdmblaaGreatDoor
open Go.RowKit jJ nw Go.Proofs.Tryz
theorem jK.set{T:js}{V:PV}{w w':World}{pb pos q:Nat}(h:jK T V w pb pos w')(a:q<=T.length):jK T V w pb q (w'.setCell ⟨pb,1,none⟩ (.int .i64 (q:Int))):=⟨h.1.step a,jd h.2 (jb _ _ _ _)⟩
structure Cu(wA:World)(pb bp sb:Nat)(k:Int)(nm hd:List UInt8)(xs:List Ex)(v:Value)(w:World):Prop where
 bx:w.heap[bp]?=some (.cells #[.pointer (some ⟨pb,0,none⟩)] 222 (0,0))
 ex:w.heap[sb]?=some (.cells #[.int .u8 k,tx nm,tx hd,v,Nl,Nl] 270 (0,0))
 own:w.ownsRow wA 275 4 v xs.length (pR xs)
 g:mY wA w pb sb
 lt:pb<bp/\pb<sb/\bp<wA/\sb<wA/\bp≠sb/\wA.heap.size<=w
def yu(a:World)(pb bp b:Nat)(k:Int)(nm hd:List UInt8)(xs:List Ex)(w:World):Prop:=∃v,Cu a pb bp b k nm hd xs v w
theorem mv{w:World}{lo e size n:Nat}{v:Value}{xs:List Value}(h:w.ownsRow lo e size v n xs)(z:Nat)(hz:v.ownBlock=some z):lo<=z/\z<w:=by
 rcases h.2 with⟨rfl,_⟩|⟨g,c,d,rfl,a,b,_⟩
 cases hz;simp only[Value.ownBlock,Option.some.injEq]at hz;subst hz;exact⟨a,(JJ.1 b).1⟩
theorem xk{w w':World}{lo e size n q:Nat}{v:Value}{xs:List Value}(h:w.ownsRow lo e size v n xs)(a:w.grownBy w' (some q))(b:q<lo):w'.ownsRow lo e size v n xs:=by
 refine h.kept a ?_;cases hv:v.ownBlock with
 |none=>exact .inl rfl
 |some z=>exact .inr λe=>by injection e with e;have:=(mv h z hv).1;omega
theorem Cu.iV{c:World}{pb bp b:Nat}{k:Int}{nm hd:List UInt8}{xs:List Ex}{v:Value}{w w':World}(h:Cu c pb bp b k nm hd xs v w)(a:w.grownBy w' (some pb)):Cu c pb bp b k nm hd xs v w':=by obtain⟨d,f,g,i,j,l⟩:=h.lt;exact⟨(a.B bp LC (λe=>by injection e;omega)).T h.bx,(a.B b LC (λe=>by injection e;omega)).T h.ex,xk h.own a LC,h.g.grown a,d,f,g,i,j,J9 l a.size⟩
theorem yu.iV{a:World}{pb bp b:Nat}{k:Int}{nm hd:List UInt8}{xs:List Ex}{w w':World}(h:yu a pb bp b k nm hd xs w)(c:w.grownBy w' (some pb)):yu a pb bp b k nm hd xs w':=by obtain⟨v,h⟩:=h;exact⟨v,h.iV c⟩
theorem mJ(g:Nat):∀(r:List Value) (o:Nat) (w:World),w.grownBy (jn w g o r) (some g)
 |[],_,w=>lM w _
 |u::r,o,w=>jd (jb w g o u) (mJ g r (o+1) _)
def rU(T:js)(V:PV)(a:World)(pb q bp b:Nat)(k:Int)(nm hd:List UInt8)(xs:List Ex)(W:World):Prop:=kd T V W pb q/\yu a pb bp b k nm hd xs W
theorem AL(w:World)(g o:Nat)(a b c d:Value):jn w g o [a,b,c,d]=(((w.setCell ⟨g,o,none⟩ a).setCell ⟨g,o+1,none⟩ b).setCell ⟨g,o+2,none⟩ c).setCell ⟨g,o+3,none⟩ d:=rfl
theorem FC{d C c:World}{pb bp a:Nat}{k:Int}{nm hd:List UInt8}{xs:List Ex}{v:Value}(b:Cu d pb bp a k nm hd xs v C)(f:C.grownBy c v.ownBlock):c.heap[a]?=some (.cells #[.int .u8 k,tx nm,tx hd,v,Nl,Nl] 270 (0,0)):=by obtain⟨g,i,j,l,m,n⟩:=b.lt;exact(f.B a LC (λe=>LA ((mv b.own a e.symm).1))).T b.ex
theorem C1{w:World}{lo g n a:Nat}{xs:List Ex}(hn:xs.length=n){z:Ex}(b:w.ownsRow lo 275 4 (.slice (some ⟨g,0,none⟩) (n+1) a) (n+1) (pR xs++wb z)):(w.cell? ⟨g,n*4,none⟩=some (.int .u8 z.op)/\w.cell? ⟨g,n*4+1,none⟩=some (tx z.name)/\w.cell? ⟨g,n*4+2,none⟩=some (.int .i64 z.n)/\w.cell? ⟨g,n*4+3,none⟩=some (Nl))/\w.frozen? ⟨g,n*4,none⟩=false/\w.frozen? ⟨g,n*4+1,none⟩=false/\w.frozen? ⟨g,n*4+2,none⟩=false/\w.frozen? ⟨g,n*4+3,none⟩=false:=by
 have hR:(pR xs).length=n*4:=by rw[xj,hn]
 have hc:∀i u,(wb z)[i]?=some u->w.cell? ⟨g,n*4+i,none⟩=some u/\w.frozen? ⟨g,n*4+i,none⟩=false:=λi u hu=>DK b _ _ (by rw[KF LC,hR,Nat.add_sub_cancel_left];exact hu);exact⟨⟨(hc 0 _ rfl).1,(hc 1 _ rfl).1,(hc 2 _ rfl).1,(hc 3 _ rfl).1⟩,(hc 0 _ rfl).2,(hc 1 _ rfl).2,(hc 2 _ rfl).2,(hc 3 _ rfl).2⟩
def H3:Ex:=.mk 0 [] 0 []
theorem GA{w:World}{lo:Nat}{v:Value}{xs:List Ex}(h:w.ownsRow lo 275 4 v xs.length (pR xs))(d:∀x∈xs,x.args=[]):jc (ki .u8 De) (λb=>lo<=b/\b<w) w v xs:=by
 have hr:∀(a:Nat->Prop) (l:List Ex),(∀x∈l,x.args=[])->jD (ki .u8 De a w) (l.map wb) l:=λa l=>by
  induction l with
  |nil=>exact λ_=>trivial
  |cons x l e=>exact λhx=>⟨⟨_,rfl,by rw[hx x LG];exact jc.nil _ _ _⟩,e λf hy=>hx f (by simp[hy])⟩
 have hf:(xs.map wb).flatten=pR xs:=rfl;rcases h.2 with⟨rfl,i⟩|⟨g,j,q,rfl,k,c,m,n,r,p⟩
 obtain rfl:=KA i;exact jc.nil _ _ _;refine⟨_,j,xs.map wb,rfl,m,by unfold maxLen at n;omega,λ_=>⟨g,0,rfl,⟨k,(JJ.1 c).1⟩,λs u hu=>?_⟩,hr _ xs d⟩;rw[hf,<-p,K5]at hu;split at hu;rw[J4];simp only[World.cell?,c];simpa using hu;cases hu
theorem Cu.yt{b w:World}{pb bp a:Nat}{k:Int}{nm hd:List UInt8}{xs:List Ex}{v:Value}(h:Cu b pb bp a k nm hd xs v w)(i:Nat)(u:Value){k':Int}{nm' hd':List UInt8}(he:(#[.int .u8 k,tx nm,tx hd,v,Nl,Nl]:Array Value).setIfInBounds i u=#[.int .u8 k',tx nm',tx hd',v,Nl,Nl]):Cu b pb bp a k' nm' hd' xs v (w.setCell ⟨a,i,none⟩ u):=by
 obtain⟨d,f,g,j,c,l⟩:=h.lt;refine⟨(J8 _ _ _ _ c).T h.bx,by rw[<-he];exact iW h.ex,?_,h.g.rY (jb _ _ _ _),d,f,g,j,c,by rw[JQ];exact l⟩;refine h.own.kept (jb _ _ _ _) ?_;cases hv:v.ownBlock with
 |none=>exact .inl rfl
 |some z=>exact .inr λe=>by injection e with e;have:=(mv h.own z hv).1;omega
theorem jK.jY{T:js}{V:PV}{w c d:World}{pb p:Nat}{r:Option Nat}(h:jK T V w pb p c)(g:V.lo<=w)(a:c.grownBy d r)(hr:∀z,r=some z->w<=z):jK T V w pb p d:=
 ⟨h.1.iV a.size (λq b=>a.B q (LA h.2.size) (λe=>LA (hr q e.symm))),⟨a.os.T h.2.os,a.tape.T h.2.tape,a.output.T h.2.output,J9 h.2.size a.size,λq b f=>(a.B q (JI b h.2.size) (λe=>LA (hr q e.symm))).T (h.2.B q b f)⟩⟩
theorem mY.base{a b c:World}{p q:Nat}(h:mY b c p q)(d:a.grownBy b (some p))(g:a<=q):a.grownBy c (some p):=
 ⟨h.os.T d.os,h.tape.T d.tape,h.output.T d.output,J9 d.size h.size,λz hz f=>(h.B z (JI hz d.size) (λe=>f (by rw[e])) LC).T (d.B z hz f)⟩
structure G5(wA:World)(pb bp sb:Nat)(nm:List UInt8)(ps:List (List UInt8))(v:Value)(w:World):Prop where
 bx:w.heap[bp]?=some (.cells #[.pointer (some ⟨pb,0,none⟩)] 222 (0,0))
 ex:w.heap[sb]?=some (.cells #[tx nm,v,Nl] 189 (0,0))
 own:w.ownsRow wA 9 1 v ps.length (ps.map tx)
 g:mY wA w pb sb
 lt:pb<bp/\pb<sb/\bp<wA/\sb<wA/\bp≠sb/\wA.heap.size<=w
def Er(a:World)(pb bp b:Nat)(nm:List UInt8)(c:List (List UInt8))(w:World):Prop:=∃v,G5 a pb bp b nm c v w
theorem G5.iV{c:World}{pb bp b:Nat}{nm:List UInt8}{d:List (List UInt8)}{v:Value}{w w':World}(h:G5 c pb bp b nm d v w)(a:w.grownBy w' (some pb)):G5 c pb bp b nm d v w':=by obtain⟨f,g,i,j,k,l⟩:=h.lt;exact⟨(a.B bp LC (λe=>by injection e;omega)).T h.bx,(a.B b LC (λe=>by injection e;omega)).T h.ex,xk h.own a LC,h.g.grown a,f,g,i,j,k,J9 l a.size⟩
theorem GH{T:js}{V:PV}{c C b:World}{pb q bp a g n f:Nat}{nm:List UInt8}{i:List (List UInt8)}{v:Value}{x:List UInt8}(E:V.lo<=a)(l:kd T V C pb q)(d:G5 c pb bp a nm i v C)(j:C.grownBy b v.ownBlock)(hn:i.length=n)
  (m:b.ownsRow c 9 1 (.slice (some ⟨g,0,none⟩) (n+1) f) (n+1) (i.map tx++[tx x])):
  kd T V (b.setCell ⟨a,1,none⟩ (.slice (some ⟨g,0,none⟩) (n+1) f)) pb q/\Er c pb bp a nm (i++[x]) (b.setCell ⟨a,1,none⟩ (.slice (some ⟨g,0,none⟩) (n+1) f)):=by
 obtain⟨w,y,p,r,s,F⟩:=d.lt;have G:c<=g:=(mv m g rfl).1;have A:=j.size;have I:=l.low;have k:∀q,q<c.heap.size->b.heap[q]?=C.heap[q]?:=λq t=>j.B q LC (λe=>LA ((mv d.own q e.symm).1));have u:∀(q:Nat),q≠a->(b.setCell ⟨a,1,none⟩ (.slice (some ⟨g,0,none⟩) (n+1) f)).heap[q]?=b.heap[q]?:=λq t=>J8 _ _ _ _ t;have B:(i++[x]).length=n+1:=by rw[JU,hn];rfl
 have D:mY c b pb a:=d.g.jY j (λz e=>(mv d.own z e).1);refine⟨l.iV (by rw[JQ];exact A) (λq J=>by rw[u _ LC];exact k q LC),.slice (some ⟨g,0,none⟩) (n+1) f,⟨?_,?_,?_,?_,w,y,p,r,s,?_⟩⟩
 .rw[u _ s];exact(k bp p).T d.bx
 .exact iW ((k a r).T d.ex)
 .rw[B,List.map_append];exact m.kept (jb _ _ _ _) (.inr (λe=>by simp[Value.ownBlock]at e;omega))
 .exact D.rY (jb _ _ _ _)
 .rw[JQ];omega
theorem Fa{w:World}{lo:Nat}{v:Value}{xs:List (List UInt8)}(h:w.ownsRow lo 9 1 v xs.length (xs.map tx)):jc jk (λb=>lo<=b/\b<w) w v xs:=by
 have hr:∀(c:Nat->Prop) (l:List (List UInt8)),jD (jk c w) (l.map λx=>[tx x]) l:=λc l=>by
  induction l with
  |nil=>trivial
  |cons x l a=>exact⟨rfl,a⟩
 have e:∀l:List (List UInt8),(l.map λx=>[tx x]).flatten=l.map tx:=λl=>by
  induction l with
  |nil=>rfl
  |cons x l a=>rw[Ks,KP,a];rfl
 have hf:=e xs;rcases h.2 with⟨rfl,f⟩|⟨g,i,p,rfl,j,d,k,m,q,n⟩
 obtain rfl:=KA f;exact jc.nil _ _ _;refine⟨_,i,xs.map λx=>[tx x],rfl,k,by unfold maxLen at m;omega,λ_=>⟨g,0,rfl,⟨j,(JJ.1 d).1⟩,λr u hu=>?_⟩,hr _ xs⟩;rw[hf,<-n,K5]at hu;split at hu;rw[J4];simp only[World.cell?,d];simpa using hu;cases hu
theorem rZ{a b c:World}{r:Option Nat}{z:Nat}(h:a.grownBy b r)(d:b.grownBy c (some z))(hz:a<=z):a.grownBy c r:=
 ⟨d.os.T h.os,d.tape.T h.tape,d.output.T h.output,J9 h.size d.size,λq f g=>(d.B q (JI f h.size) (λe=>by injection e with e;omega)).T (h.B q f g)⟩
theorem nT{P:Program}{g:Type}{ops:Array Oper}{o:Oper}{a:Act}{K:Act->World->Prop}{Q:Exit->Act->World->Prop}{p:Prop}(w:World)(q:o.guard=none)(s x:Operand)(t:TypeId)
  (y:o.op=.call {callee:=.builtin .append,args:=#[s,x],argTypes:=#[t,t]})
  (lo:Nat) (e:TypeId) (i:TypeInfo) (z:Value) (size j:Nat) (A:P.underlying t=some (.slice e)) (hi:P.info? e=some i) (hz:i.zero=some z)
  (B:i.size=size) (C:i.bytes=j) (D:z.cells.size=size)
  {R:Rel g} (ok:jI R size) (c:Nat->Prop) (v:Value) (xs:List g) (hs:a.eval s=v) (E:jx R e size c w lo v xs)
  (k:Addr) (r:List Value) (l:g) (hx:a.eval x=.slice (some k) 1 1) (F:∀(m:Nat) (u:Value),r[m]?=some u->w.cell? (k.add m)=some u)
  (hR:R (λb=>c b/\b<w/\some b≠v.ownBlock) w r l)
  (G:xs.length+1<=maxLen) (I:(xs.length+1)*j<=140737488355328) (J:lo<=w) (n:Nat) (hn:xs.length=n)
  (h:∀d f w',jx R e size c w' lo (.slice d (n+1) f) (xs++[l])->w.grownBy w' v.ownBlock->K (a.put o.dst (.slice d (n+1) f)) w'):
  if Region.wanted o (yielded ops a.tmps)=true then Oper.wp P o a w K Q else p:=by
 have hw:Region.wanted o (yielded ops a.tmps)=true:=by simp[Region.wanted,q]
 rw[Kn hw];subst hn;obtain⟨d,f,w',L,M,_,N,_⟩:=jX (P:=P) (w:=w) lo t o.type e i z size j A hi hz B C D ok c v xs E k r l F hR G I J;unfold Oper.wp execOp;simp only[y,resolve,invoke,builtin,KH,KI,Ko,Ky,Ks,KJ,hs,hx,L];exact h d f w' M N
theorem uY{T:js}{p q:Nat}{f:Fg}(h:rT T p=some (f,q)):∃a c d b e,ru T p=some (a,c)/\pq T [61] c=some d/\rX T d=some (b,e)/\pq T [59] e=some q/\f=⟨a,b⟩:=by unfold rT at h;obtain⟨⟨a,c⟩,g,h⟩:=bind_some h;obtain⟨d,i,h⟩:=bind_some h;obtain⟨⟨b,e⟩,j,h⟩:=bind_some h;obtain⟨n,k,h⟩:=bind_some h;injection h with h;injection h with l m;subst l m;exact⟨a,c,d,b,e,g,i,j,k,rfl⟩
theorem kd.put{T:js}{V V':PV}{w:World}{pb pos:Nat}(h:kd T V w pb pos)(i:Nat)(u:Value)(c:V'.lo=V.lo)(he:∀f b,(#[f,.int .i64 (pos:Int),.int .i64 b,V.v1,V.v2,V.v3,V.v4,.int .i64 0,.int .i64 0]:Array Value).setIfInBounds i u=#[f,.int .i64 (pos:Int),.int .i64 b,V'.v1,V'.v2,V'.v3,V'.v4,.int .i64 0,.int .i64 0]):kd T V' (w.setCell ⟨pb,i,none⟩ u) pb pos:=by obtain⟨a,j,b,l,hc,hn,g,m⟩:=h.jr;refine⟨⟨a,j,b,by rw[<-he];exact iW l,hc,hn,by rw[c];exact g,λk x hx=>?_⟩,h.small,by rw[c];exact h.low.1,by rw[c,JQ];exact h.low.2⟩;obtain⟨n,p,q⟩:=m k x hx;have d:=(jb w pb i u).B a (JI g h.low.2) (λe=>hn (by injection e));exact⟨(Cb a _ d).T n,(Cb a _ d).T p,(Cb a _ d).T q⟩
end Go.Proofs.YtidmdcckbdmblaaGreatDoor
namespace nw
theorem uT{c:Type}{P:c->Prop}{T:js}{d:Nat->Option (c×Nat)}(h:∀p q x,d p=some (x,q)->P x):∀{k p q:Nat} {xs:List c},mr T d k p=some (xs,q)->∀x∈xs,P x
 |0,_,_,_,a=>by cases a
 |k+1,p,q,xs,a=>by
  obtain⟨x,e,rest,hi,rfl,g⟩:=og a;unfold mr at a;rw[hi]at a;simp only at a;intro f hy;rcases List.mem_cons.1 hy with rfl|hy;exact h _ _ _ hi;split at a;cases hr:mr T d k (e+1)with
  |none=>rw[hr]at a;cases a
  |some z=>obtain⟨zs,r⟩:=z;rw[hr]at a;injection a with a;injection a with b i;injection b with _ b;subst b;exact uT h hr f hy
  split at a;injection a with a;injection a with b _;injection b with _ b;subst b;cases hy;cases a
theorem DN{b:Type}{P:b->Prop}{T:js}{c:Nat->Option (b×Nat)}(h:∀p q x,c p=some (x,q)->P x){p q:Nat}{xs:List b}(a:pF T c p=some (xs,q)):∀x∈xs,P x:=by unfold pF at a;split at a;split at a;injection a with a;injection a with d _;subst d;intro x hx;cases hx;exact uT h a;cases a
theorem uU{c:Type}{T:js}{b:Nat->Option (c×Nat)}(h:∀p q x,b p=some (x,q)->p<q):∀{k p q:Nat} {xs:List c},mr T b k p=some (xs,q)->p<q
 |0,_,_,_,a=>by cases a
 |k+1,p,q,xs,a=>by
  obtain⟨x,e,rest,hi,rfl,f⟩:=og a;have g:=h _ _ _ hi;unfold mr at a;rw[hi]at a;simp only at a;split at a;cases hr:mr T b k (e+1)with
  |none=>rw[hr]at a;cases a
  |some z=>obtain⟨zs,r⟩:=z;rw[hr]at a;injection a with a;injection a with _ d;subst d;have:=uU h hr;omega
  split at a;injection a with a;injection a with _ d;omega;cases a
theorem sD{b:Type}{T:js}{c:Nat->Option (b×Nat)}(h:∀p q x,c p=some (x,q)->p<q){p q:Nat}{xs:List b}(a:pF T c p=some (xs,q)):p<q:=by unfold pF at a;split at a;split at a;injection a with a;injection a with _ d;omega;have:=uU h a;omega;cases a
theorem uX{f:Type}{T:js}{w:List UInt8}{a:Nat->Option (f×Nat)}{k p q:Nat}{l:List f}(h:mi T w a k p=some (l,q)):(ln T p≠w/\l=[]/\q=p)\/(ln T p=w/\∃x b r k',a (p+1)=some (x,b)/\l=x::r/\mi T w a k' b=some (r,q)):=by
 cases k with
 |zero=>cases h
 |succ k=>
  unfold mi at h;split at h
  rename_i c
  cases hs:a (p+1)with
  |none=>rw[hs]at h;cases h
  |some y=>
   obtain⟨s,b⟩:=y;rw[hs]at h;simp only at h;cases hr:mi T w a k b with
   |none=>rw[hr]at h;cases h
   |some z=>obtain⟨r,g⟩:=z;rw[hr]at h;injection h with h;injection h with d e;subst d e;exact .inr ⟨c,s,b,r,k,rfl,rfl,hr⟩
  rename_i c
  injection h with h;injection h with d e;exact .inl ⟨c,d.symm,e.symm⟩
theorem DO{T:js}{p q:Nat}{f:jJ.Fg}(h:rT T p=some (f,q)):p<q:=by obtain⟨a,i,j,b,k,g,d,c,e,_⟩:=Go.Proofs.YtidmdcckbdmblaaGreatDoor.uY h;have:=nZ g;unfold pq at d e;unfold rX at c;split at d;injection d;split at e;injection e;split at c;injection c with c;injection c;omega;split at c;injection c with c;injection c;omega;cases c;cases e;cases d
end nw
namespace nw
open jJ
def tree:Fl:=⟨[102],[⟨[115,108,111,119],false⟩],[],[⟨[102,114,111,110,116],[],[[⟨[104],[],[.mk 6 [98,97,99,107] [103,101,116] [.mk 1 [] 1 [],.mk 1 [] 7 []] [] []]⟩]]⟩,⟨[98,97,99,107],[],[[⟨[103,101,116],[[105],[106]],[]⟩]]⟩]⟩
end nw
namespace Go.Proofs.YtidmdcckbdmblaaGreatDoor
open jJ nw Go.Proofs.Tryz
def wB(n:Int):Ex:=.mk 1 [] n []
def nJ:St:=.mk 6 [98,97,99,107] [103,101,116] [wB 1,wB 7] [] []
def Fs:Hd:=⟨[104],[],[nJ]⟩
def my:Co:=⟨[102,114,111,110,116],[],[[Fs]]⟩
theorem rN:tree=⟨[102],[⟨[115,108,111,119],false⟩],[],[my,nc]⟩:=rfl
theorem vg{n:Int}(h:0<=n):kB De (wB n):=jN (d:=5) (k:=1) rfl LC rfl rfl (λh=>by simp at h) (λ_=>rfl) (λ_=>h) (λh=>absurd rfl h) (by simp[wB,Ex.args])
theorem DV{sc:Sc}{n:Int}(h:0<=n)(a:n<=8):kG sc De (wB n):=.inl ⟨rfl,rfl,h,a,rfl⟩
theorem lits:∀e∈nJ.jy,e=wB 1\/e=wB 7:=by simp[nJ,St.jy]
theorem zX:lK Ds nJ:=by refine⟨⟨_,LD,rfl,λ_=>LM,λh=>by simp at h,λ_=>LM,λh=>by simp at h,LD,LD,λ_=>rfl,λ_=>rfl⟩,λe he=>?_,⟨LD,LD⟩,by simp[nJ,St.th],by simp[nJ,St.el]⟩;rcases lits e he with rfl|rfl<;>exact vg LC
theorem qU:kr tree:=by
 have a:qZ Fs:=⟨LM,LD,by simp[Fs],LD,by simp only[Fs,Ki];rintro s rfl;exact zX,LD⟩
 have b:qZ Fu:=⟨LM,LD,LM,LD,by simp[Fu],LD⟩
 have d:wF my:=⟨LM,LD,by simp[my],LD,LD,by simp only[my,Ki];rintro l rfl;exact⟨LD,by simp only[Ki];rintro h rfl;exact a⟩⟩
 have cb:wF nc:=⟨LM,LD,by simp[nc],LD,LD,by simp only[nc,Ki];rintro l rfl;exact⟨LD,by simp only[Ki];rintro h rfl;exact b⟩⟩
 rw[rN];refine⟨LM,LD,LM,LD,LG,LD,LD,?_⟩;simp only[Kf,J7,Kq];rintro c (rfl|rfl);exact d;exact cb
theorem DW(k:Nat):Cp ⟨0,0,0,0,[],k⟩ [my,nc] Ds nJ:=by refine .inr ⟨LD,rfl,rfl,rfl,⟨nc,Fu,rfl,LD,LD,rfl,rfl⟩,LD,λe he=>?_⟩;rcases lits e he with rfl|rfl<;>exact DV LC LC
theorem GS:G4 tree:=by
 rw[rN];refine⟨⟨LD,λk x hx=>?_⟩,⟨LD,λk x hx=>by simp at hx⟩,LD,λk c hc=>?_⟩
 match k,hx with
 |0,hx=>injection hx with hx;subst hx;exact⟨LM,LD⟩
 |k+1,hx=>simp at hx
 match k,hc with
 |0,hc=>
  injection hc with hc;subst hc;refine⟨LD,LM,LM,LD,λb x hx=>by simp[my]at hx,LD,LD,λl a b x hx=>?_⟩;simp only[my,Ki]at a;subst a
  match b,hx with
  |0,hx=>injection hx with hx;subst hx;refine⟨LD,LM,λv e hy=>?_,LD,⟨0,0,0,0,[],0⟩,rfl,Hn 0 ⟨LD,LD,LD⟩ (λk p hp=>by simp[Fs]at hp),?_,λh=>absurd h LD⟩;obtain⟨l,a,d⟩:=List.mem_flatten.1 (List.mem_of_find?_eq_some hy);have:=Lc a;simp only[my,Ki]at this;subst this;simp only[Ki]at d;subst d;rfl;simp only[Fs,Ki];rintro s rfl;exact DW 0
  |b+1,hx=>simp at hx
 |1,hc=>
  injection hc with hc;subst hc;refine⟨LD,LM,LM,LD,λb x hx=>by simp[nc]at hx,LD,LD,λl a b x hx=>?_⟩;simp only[nc,Ki]at a;subst a
  match b,hx with
  |0,hx=>
   injection hx with hx;subst hx;refine⟨LD,LM,λv e hy=>?_,LD,⟨0,0,0,0,[],1⟩,rfl,Hn 1 ⟨LD,LD,LD⟩ (λk p hp=>?_),by simp[Fu],λh=>absurd h LD⟩;obtain⟨l,a,d⟩:=List.mem_flatten.1 (List.mem_of_find?_eq_some hy);have:=Lc a;simp only[nc,Ki]at this;subst this;simp only[Ki]at d;subst d;rfl
   match k,hp with
   |0,hp=>injection hp with hp;subst hp;exact⟨LD,LM,LM,LD⟩
   |1,hp=>injection hp with hp;subst hp;exact⟨LD,LM,LM,LD⟩
   |k+2,hp=>simp[Fu]at hp
  |b+1,hx=>simp at hx
 |k+2,hc=>simp at hc
theorem Fc:Ha tree:=by
 rw[rN];have hs:yl [my,nc] Ds nJ:=⟨⟨LD,LD⟩,LD,λe he=>by rcases lits e he with rfl|rfl<;>exact vg LC,λ_=>⟨nc,LG,rfl⟩,by simp[nJ,St.th],by simp[nJ,St.el]⟩
 intro c hc;simp only[Kf,J7,Kq]at hc;rcases hc with rfl|rfl;refine⟨LD,LD,?_⟩;simp only[my,Ki];rintro l rfl;refine⟨LD,?_⟩;simp only[Ki];rintro h rfl;refine⟨LD,LD,?_⟩;simp only[Fs,Ki];rintro s rfl;exact hs;refine⟨LD,LD,?_⟩;simp only[nc,Ki];rintro l rfl;refine⟨LD,?_⟩;simp only[Ki];rintro h rfl;exact⟨LD,LD,by simp[Fu]⟩
theorem Fe:∀c∈tree.jh,Hb c:=by
 rw[rN];have hs:Cs Ds nJ:=⟨λe he=>by rcases lits e he with rfl|rfl<;>exact⟨λ_=>LD,by simp[wB,Ex.args]⟩,by simp[nJ,St.th],by simp[nJ,St.el]⟩
 simp only[Kf,J7,Kq];rintro c (rfl|rfl);refine⟨by simp[my],?_⟩;simp only[my,Ki];rintro l rfl;simp only[Ki];rintro h rfl;simp only[Fs,Ki];rintro s rfl;exact hs;refine⟨by simp[nc],?_⟩;simp only[nc,Ki];rintro l rfl;simp only[Ki];rintro h rfl;simp[Fu]
end Go.Proofs.YtidmdcckbdmblaaGreatDoor
namespace Go.Proofs.YtidmdcckbdmblaaGreatDoor
open Go.ChangeShapes Go.WideShapes Go.ChangeAt Go.RowKit jJ Go.Proofs.Tryz
theorem IM{c:Type}{a:List c}(h:a.length=3):∃b c1 c2,a=[b,c1,c2]:=by
 match a,h with
 |[b,c1,c2],_=>exact⟨b,c1,c2,rfl⟩
theorem FZ{c:Type}{a:List c}(h:a.length=4):∃b c1 c2 c3,a=[b,c1,c2,c3]:=by
 match a,h with
 |[b,c1,c2,c3],_=>exact⟨b,c1,c2,c3,rfl⟩
theorem IP{f:Type}{a:List f}(h:a.length=9):∃b c1 c2 c3 c4 c5 c d e,a=[b,c1,c2,c3,c4,c5,c,d,e]:=by
 match a,h with
 |[b,c1,c2,c3,c4,c5,c,d,e],_=>exact⟨b,c1,c2,c3,c4,c5,c,d,e,rfl⟩
section
variable {H:Type} {enc:TypeId×Value→H} {W:World} {base:Nat} {sp:Nat→Bool} {held:Bool}
theorem Ab{r:Reach}{b0:Nat}{v:Value}{d:DataW H}{p:List MemPlace}(Y:Value.okWide prog W r b0 29 v)(h:DataW.Trod enc prog W base sp held 29 v d p):
  ∃(t cm Z p n aa h d:Int) (k:Option Addr) (m c:Nat),v=.agg #[.int .i64 t,cm,.int .u8 Z,p,n,aa,h,d,.slice k m c]:=by
 obtain⟨B,rfl,_⟩:=okWide_struct underlying29 Y;obtain⟨ab,ac⟩:=h;have ad:DataW.trod enc prog W base sp held ab 29 B.toList=some (d,p):=ac;obtain⟨xs,n,_,_,ae,hx,hf⟩:=Lq underlying29 ad;obtain⟨f,c1,c2,c3,c4,c5,g,i,b,C⟩:=IP (ae.T (show prog.cellsOf 29=9 from LF));rw[C]at hf;have ah:xs.length=9:=hx;have l:DataW.trod enc prog W base sp held n 3 (([f,c1,c2,c3,c4,c5,g,i,b].drop 0).take (prog.cellsOf 3))=xs[0]?:=hf 0 _ rfl;rw[show prog.cellsOf 3=1 from LF,JW LC]at l;have q:DataW.trod enc prog W base sp held n 3 (([f,c1,c2,c3,c4,c5,g,i,b].drop 1).take (prog.cellsOf 3))=xs[1]?:=hf 1 _ rfl;rw[show prog.cellsOf 3=1 from LF,JW LC]at q;have s:DataW.trod enc prog W base sp held n 26 (([f,c1,c2,c3,c4,c5,g,i,b].drop 2).take (prog.cellsOf 26))=xs[2]?:=hf 2 _ rfl;rw[show prog.cellsOf 26=1 from LF,JW LC]at s;have u:DataW.trod enc prog W base sp held n 3 (([f,c1,c2,c3,c4,c5,g,i,b].drop 3).take (prog.cellsOf 3))=xs[3]?:=hf 3 _ rfl;rw[show prog.cellsOf 3=1 from LF,JW LC]at u;have w:DataW.trod enc prog W base sp held n 3 (([f,c1,c2,c3,c4,c5,g,i,b].drop 4).take (prog.cellsOf 3))=xs[4]?:=hf 4 _ rfl;rw[show prog.cellsOf 3=1 from LF,JW LC]at w;have x:DataW.trod enc prog W base sp held n 3 (([f,c1,c2,c3,c4,c5,g,i,b].drop 5).take (prog.cellsOf 3))=xs[5]?:=hf 5 _ rfl;rw[show prog.cellsOf 3=1 from LF,JW LC]at x;have y:DataW.trod enc prog W base sp held n 3 (([f,c1,c2,c3,c4,c5,g,i,b].drop 6).take (prog.cellsOf 3))=xs[6]?:=hf 6 _ rfl;rw[show prog.cellsOf 3=1 from LF,JW LC]at y;have z:DataW.trod enc prog W base sp held n 2 (([f,c1,c2,c3,c4,c5,g,i,b].drop 7).take (prog.cellsOf 2))=xs[7]?:=hf 7 _ rfl;rw[show prog.cellsOf 2=1 from LF,JW LC]at z;have A:DataW.trod enc prog W base sp held n 27 (([f,c1,c2,c3,c4,c5,g,i,b].drop 8).take (prog.cellsOf 27))=xs[8]?:=hf 8 _ rfl;rw[show prog.cellsOf 27=1 from LF,JW LC]at A;simp only[List.drop_zero,Lh,K3,List.take_zero]at l q s u w x y z A;obtain⟨D,E,_,w0⟩:=Kr underlying3 l;obtain⟨F,G,_,ai⟩:=Kr underlying3 q;obtain⟨I,J,_,af⟩:=Kr underlying26 s;obtain⟨K,L,_,aj⟩:=Kr underlying3 u;obtain⟨M,N,_,ak⟩:=Kr underlying3 w;obtain⟨O,P,_,al⟩:=Kr underlying3 x;obtain⟨Q,R,_,am⟩:=Kr underlying3 y;obtain⟨S,T,_,an⟩:=Kr underlying2 z;have j:∃(k:Option Addr) (m c:Nat),[b]=[.slice k m c]:=by
  rcases Go.Deep.open_slice underlying27 A with⟨e,_⟩|⟨a,len,ag,_,_,_,_,e,_⟩
  exact⟨none,0,0,e⟩;exact⟨some a,len,ag,e⟩
 obtain⟨U,V,X,j⟩:=j;simp only[KX,and_true]at E G J L N P R T j;have ao:=bounds_u8 af;subst E G J L N P R T j;obtain rfl:B=#[.int .i64 D,.int .i64 F,.int .u8 I,.int .i64 K,.int .i64 M,.int .i64 O,.int .i64 Q,.int .i64 S,.slice U V X]:=by apply Array.ext';rw[C]
 exact⟨D,F,I,K,M,O,Q,S,U,V,X,rfl⟩
theorem Cj{r:Reach}{b0:Nat}{v:Value}{d:DataW H}{p:List MemPlace}(z:Value.okWide prog W r b0 44 v)(h:DataW.Trod enc prog W base sp held 44 v d p):
  ∃k a b n:Int,v=.agg #[.int .u8 k,a,b,n]:=by
 obtain⟨j,rfl,_⟩:=okWide_struct underlying44 z;obtain⟨A,B⟩:=h;have C:DataW.trod enc prog W base sp held A 44 j.toList=some (d,p):=B;obtain⟨xs,n,_,_,D,hx,hf⟩:=Lq underlying44 C;obtain⟨c,c1,c2,c3,l⟩:=FZ (D.T (show prog.cellsOf 44=4 from LF));rw[l]at hf;have E:xs.length=4:=hx;have e:DataW.trod enc prog W base sp held n 42 (([c,c1,c2,c3].drop 0).take (prog.cellsOf 42))=xs[0]?:=hf 0 _ rfl;rw[show prog.cellsOf 42=1 from LF,JW LC]at e;have f:DataW.trod enc prog W base sp held n 3 (([c,c1,c2,c3].drop 1).take (prog.cellsOf 3))=xs[1]?:=hf 1 _ rfl;rw[show prog.cellsOf 3=1 from LF,JW LC]at f;have g:DataW.trod enc prog W base sp held n 3 (([c,c1,c2,c3].drop 2).take (prog.cellsOf 3))=xs[2]?:=hf 2 _ rfl;rw[show prog.cellsOf 3=1 from LF,JW LC]at g;have i:DataW.trod enc prog W base sp held n 3 (([c,c1,c2,c3].drop 3).take (prog.cellsOf 3))=xs[3]?:=hf 3 _ rfl;rw[show prog.cellsOf 3=1 from LF,JW LC]at i;simp only[List.drop_zero,Lh,K3,List.take_zero]at e f g i;obtain⟨m,q,_,w0⟩:=Kr underlying42 e;obtain⟨s,t,_,F⟩:=Kr underlying3 f;obtain⟨u,w,_,G⟩:=Kr underlying3 g;obtain⟨x,y,_,I⟩:=Kr underlying3 i;simp only[KX,and_true]at q t w y;have J:=bounds_u8 w0;subst q t w y;obtain rfl:j=#[.int .u8 m,.int .i64 s,.int .i64 u,.int .i64 x]:=by apply Array.ext';rw[l]
 exact⟨m,s,u,x,rfl⟩
theorem DY{r:Reach}{b0:Nat}{v:Value}{d:DataW H}{p:List MemPlace}(u:Value.okWide prog W r b0 46 v)(h:DataW.Trod enc prog W base sp held 46 v d p):
  ∃a b n:Int,v=.agg #[.int .i64 a,b,n]:=by
 obtain⟨i,rfl,_⟩:=okWide_struct underlying46 u;obtain⟨w,x⟩:=h;have y:DataW.trod enc prog W base sp held w 46 i.toList=some (d,p):=x;obtain⟨xs,n,_,_,z,hx,hf⟩:=Lq underlying46 y;obtain⟨c,c1,c2,j⟩:=IM (z.T (show prog.cellsOf 46=3 from LF));rw[j]at hf;have A:xs.length=3:=hx;have e:DataW.trod enc prog W base sp held n 3 (([c,c1,c2].drop 0).take (prog.cellsOf 3))=xs[0]?:=hf 0 _ rfl;rw[show prog.cellsOf 3=1 from LF,JW LC]at e;have f:DataW.trod enc prog W base sp held n 3 (([c,c1,c2].drop 1).take (prog.cellsOf 3))=xs[1]?:=hf 1 _ rfl;rw[show prog.cellsOf 3=1 from LF,JW LC]at f;have g:DataW.trod enc prog W base sp held n 3 (([c,c1,c2].drop 2).take (prog.cellsOf 3))=xs[2]?:=hf 2 _ rfl;rw[show prog.cellsOf 3=1 from LF,JW LC]at g;simp only[List.drop_zero,Lh,K3,List.take_zero]at e f g;obtain⟨k,l,_,w0⟩:=Kr underlying3 e;obtain⟨m,q,_,B⟩:=Kr underlying3 f;obtain⟨s,t,_,C⟩:=Kr underlying3 g;simp only[KX,and_true]at l q t;subst l q t;obtain rfl:i=#[.int .i64 k,.int .i64 m,.int .i64 s]:=by apply Array.ext';rw[j]
 exact⟨k,m,s,rfl⟩
end
end Go.Proofs.YtidmdcckbdmblaaGreatDoor
namespace Go.RowKit
open Go.WideShapes Go.ChangeShapes Go.WideElems
section
variable {H:Type} {enc:TypeId×Value→H} {P:Program}
def oh(P:Program)(a:List TypeId):Bool:=a.all λt=>P.readableRec t&&decide (t<P.types.size)
theorem pO(e:laidOutB P=true){W f:World}{sp:Nat->Bool}:∀{b:List TypeId} {vs:List Value} {c:List (DataW H)} {a:List MemPlace},oh P b=true->
  DataW.TrodAll enc P W 0 (λ_=>true) true b vs c a->(∀p∈a,W.sameAt f p)->(∀p∈a,sp p.block=true)->DataW.TrodAll enc P f 0 sp true b vs c a
 |[],[],[],_,_,h,_,_=>h
 |t::b,v::vs,d::c,a,hr,h,h1,h2=>by
  obtain⟨p,q,hp,g,rfl⟩:=h;simp only[oh,List.all_cons,Bool.and_eq_true,decide_eq_true_eq]at hr;exact⟨p,q,Trod_stays e hr.1.1 hr.1.2 hp (λx hx=>h1 x (by simp[hx])) (λx hx=>h2 x (by simp[hx])),
   pO e (by simp[oh];simpa using hr.2) g (λx hx=>h1 x (by simp[hx])) (λx hx=>h2 x (by simp[hx])),rfl⟩
 |[],[],_::_,_,_,h,_,_=>h.elim
 |[],_::_,_,_,_,h,_,_=>h.elim
 |_::_,[],_,_,_,h,_,_=>h.elim
 |_::_,_::_,[],_,_,h,_,_=>h.elim
theorem Ec{f:Func}{s:ChangeSpec}{l A B C:Bool}{W c:World}{args:Array Value}{a m:List (DataW H)}{d:List MemPlace}{n:TypeId}
  (D:laidOutB P=true) (E:oh P f.params.toList=true) (e:s.vars=[]) (r:f.resultTypes=#[n]) (t:P.underlying n=some .bool)
  (g:DataW.Whole enc P f.params.toList s.vars l W args.toList a m d)
  (i:s.fn H (a++m)={results:=[.lit (.bool true)],args:=a}) (j:Below W.heap.size W c):
  s.post enc P f l A B C W args (.bool true) c:=by
 have F:=g;have k:∀p∈d,p.block<W.heap.size:=λp hp=>g.lt p hp;have G:∀p∈d,(λb=>decide (b<W.heap.size)) p.block=true:=λp hp=>by simpa using k p hp
 obtain⟨p,q,I,u,rfl,hz,hn⟩:=F;rw[e]at u;obtain⟨rfl,rfl⟩:=trodVars_none u;simp only[List.append_nil]at*;have v:∀(b:Nat) (sp:Nat->Bool) (hd:Bool),DataW.TrodAll enc P c b sp hd f.resultTypes.toList ((Value.bool true).resultList f.resultTypes.size) [.lit (.bool true)] []:=by intro b sp hd;rw[r];exact trodAll_mk1 (shut_bool t true)
 have w:∀sp:Nat->Bool,(∀x∈p,sp x.block=true)->DataW.TrodAll enc P c 0 sp true f.params.toList args.toList a p:=
  λsp h=>pO D E I (λx hx=>j.same (k x hx)) h
 refine⟨a,[],p,[],p,[],g,?_,?_,?_,World.keptBut_mono (λx hx=>⟨hx,.inr (.inl hx)⟩) (j.frame (·∈p)),λ_=>?_⟩
 .rw[List.append_nil,i];exact v _ _ _
 .rw[List.append_nil,i];exact w _ G
 .rw[List.append_nil,i,e];rfl
 .refine⟨ok_one r rfl (okWide_bool_mk t true),_,[],([]++p)++[],⟨[]++p,[],trodAll_append (w _ (λ_ _=>rfl)) (v _ _ _),by rw[e];rfl,rfl,?_,?_⟩,?_⟩;intro b y hp;have z:MemPlace.cell b y∈p:=(by simpa using hp);rw[j.frozen (k _ z)];exact hz b y z;intro J;simpa using hn J;intro x hx _;simpa using hx
end
end Go.RowKit
