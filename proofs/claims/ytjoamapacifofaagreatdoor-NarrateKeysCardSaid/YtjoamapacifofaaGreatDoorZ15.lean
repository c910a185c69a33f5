import Derived.Test.YtjoamapacifofaaGreatDoorZ9
import Derived.Test.YtjoamapacifofaaGreatDoorZ10
import Derived.Test.YtjoamapacifofaaGreatDoorZ11
set_option maxRecDepth 1000000
set_option maxHeartbeats 32000000
set_option linter.all false
namespace Go.Proofs.YtjoamapacifofaaGreatDoor
open RowKit Go.Proofs.Tryz kT Maps nu pG ChangeShapes WideShapes ChangeAt
def xg:∀d,KD d:=by
 intro d;induction d with
 |zero=>
  intro S w B C D sc E F G I J cv L M N b cb p t u v O P Q n am an ao ap c3 A m c l H hx aH hv hs bV bW;have bv:l=[]:=(by cases l with|nil=>rfl|cons s l=>exact(hs s (Qs ..)).zero.elim);subst bv;have hm:m=0:=(by have aU:=hv.len.1;simp only[PE]at aU;exact aU.symm);subst hm;clear hs
  go_enter func185,ntmps185
  go_wp21;go_loopw [8] (λi wr=>i=.int .i64 0/\w=wr) (λ_ _=>0)
  .exact⟨rfl,rfl⟩
  obtain⟨rfl,rfl⟩:=hrel;go_wp21
  go_end0
  exact⟨rfl,H,.refl _ _⟩
 |succ d bw=>
  intro S w B C D sc E F G I J cv L M N b cb p t u v O P Q n am an ao ap c3 A m c l H y aH f hs bx aq;have aI:=f.len;have bX:=AB hs;have bz:=O0 hs;have aV:=O0 aI.1;have aJ:=O0 aH;have bY:m<=90:=SC aI.1;have aW:=H.sc.kX;have aK:=O0 aW;have aX:=bw;clear hs aI aH aW
  go_enter func185,ntmps185
  go_wp21;go_loopw [8] (λi wr=>∃k:Nat,k<=m/\i=k/\vB S wr B C D sc E F G I J cv L M N b cb p t u v O P Q n (am+ku (d+1) (l.take k))/\nj (Bb b cb) w wr) (λi _=>m-(intOf i).toNat)
  .exact⟨0,Pb _,rfl,H,.refl _ _⟩
  obtain⟨k,bZ,rfl,z,ar⟩:=hrel;have ca:=ar.size;by_cases cc:k<m
  .obtain⟨x,y⟩:∃x,l[k]?=some x:=Gx (SC aV.o);obtain⟨cd,ce,r,rfl,cf,hr,R⟩:=(f.jP (kp.ok .u8 _) (λq T=>(H.blk ar) q T)).kt (kp.ok .u8 _) k x y;have aL:=bz.o x (O5 y);obtain⟨d',v1,v2,cg,hd,rfl,aM,aN,aO⟩:=hr.open;obtain rfl:d=d':=SE;obtain⟨U,c1,rfl,_⟩:=aM.form;obtain⟨V,c4,rfl,_⟩:=aN.form;obtain⟨W,c5,rfl,_⟩:=aO.form;have aY:=R 0 _ rfl;have bA:=R 1 _ rfl;have bB:=R 2 _ rfl;have aZ:=R 3 _ rfl;have ba:=R 4 _ rfl;have bb:=R 5 _ rfl;rw[Pc]at aY;have bC:=kT.tJ (d:=d) y;have ch:=kT.AA (d:=d+1) l (k+1);obtain⟨bc,bd⟩:=aL.sub;obtain⟨X,name,Y,be,th,el⟩:=x;simp only[St.kind,St.name,St.hd,St.kA,St.th,St.el,Im]at*;obtain⟨Z,bf⟩:=Xq be.length;rw[<-bf]at aZ aM;clear bf;obtain⟨aa,bg⟩:=Xq th.length;rw[<-bg]at ba aN;clear bg;obtain⟨ab,bh⟩:=Xq el.length;rw[<-bh]at bb aO;clear bh;obtain⟨j,bi⟩:=Xq (am+ku (d+1) (l.take k));rw[<-bi]at z;have bj:j+(1+ku d th+ku d el)<=90:=SC bx;have bD:=O0 (show j+1+ku d th+ku d el=am+ku (d+1) (l.take (k+1)) from SE);have bE:=O0 bc;have bF:=O0 bd;have ci:j<90:=SE;obtain⟨cj,ck⟩:=mG k m;clear R y bC bi bc bd;go_wp21;have ac:=Ba wr (lk X name Y U Z c1 V aa c4 W ab c5);have au:=(z.jQ ac)
   have av:=(ar.T (.of ac))
   have aw:=O0 (O2 wr (lk X name Y U Z c1 V aa c4 W ab c5));have bG:=(aM.jP (ko.ok .u8 De) (λq T=>ac.B q (SC (aK.o q T))))
   have bH:=(aN.jP (kp.ok .u8 d) (λq T=>ac.B q (SC (aK.o q T))))
   have bI:=(aO.jP (kp.ok .u8 d) (λq T=>ac.B q (SC (aK.o q T))))
   obtain⟨ad,bk⟩:=Xq wr.heap.size;have aP:¬Bb b cb ad:=(by have cl:=(O3.1 z.bd.kt).1;have cm:=z.BW.lt;rintro(H|H)<;>omega);rw[<-bk]at aw⊢;have aQ:ad<(wr.alloc (lk X name Y U Z c1 V aa c4 W ab c5)).heap.size:=(by rw[O4];omega);generalize wr.alloc (lk X name Y U Z c1 V aa c4 W ab c5)=bl at*;clear bk aY bA bB aZ ba bb;refine Ri (λx=>vB S x B C D sc E F G I J cv L M N b cb p t u v O P Q n j/\nj (Bb b cb) bl x) (mi [(·=.pointer b),(·=.pointer b),(·=.pointer b),(·=.pointer cb),(·=.pointer b),(·=.pointer b),(Pp b 7),(·=.string n),(·=.pointer b),(·=.pointer b),(Pp b 8),(·=j),(·=.string ⟨(Lib.decDigits j).toArray⟩),(·=.string (n++⟨(Lib.decDigits j).toArray⟩)),(·=.bool true),(·=.bool false)]) [] (⟨au.jQ (Below.refl _ _).drew,(nj.refl _ _).drew⟩) ⟨?_,?_,?_,?_,?_,?_,?_,?_,?_,?_,?_,?_,?_,?_,?_,?_,trivial⟩ ?_;exact .f 0;exact .v 12 0;exact .v 13 1;intro ae w a hf f hd hw;have cn:=Sv 14 f 2;obtain⟨ax,ay,az,aA,aB,aC,aD,aE,aF⟩:=sS a.1.bd.kt;replace a:=Hq a;exact .q (g:=⟨rfl,a.o,Qa⟩);exact .f 0;exact .v 16 4;exact .v 17 5;intro ae w a hf f hd hw;have co:=Sv 18 f 6;obtain⟨ax,ay,az,aA,aB,aC,aD,aE,aF⟩:=sS a.1.bd.kt;replace a:=Hq a;exact .q (g:=⟨rfl,a.o,Qa⟩);exact .f 0;exact .v 20 8;exact .v 21 9;intro ae w a hf f hd hw;have cp:=Sv 22 f 10;obtain⟨ax,ay,az,aA,aB,aC,aD,aE,aF⟩:=sS a.1.bd.kt;replace a:=Hq a;exact .q (g:=⟨rfl,a.o,Qa⟩);intro ae w a hf f hd hw;have cq:=Sv 23 f 11;clear hf f hd hw;replace a:=Hq a;refine .h λK hK=>?_;go_simp;refine⟨rfl,?_⟩;refine Calls.M (Tryz.strconv_Itoa_small j SE w) ?_;rintro e w' ⟨he,hw⟩;subst hw;subst he;exact⟨_,rfl,hK ⟨rfl,a.o,Qe⟩⟩;intro ae w a hf f hd hw;have cr:=Sv 19 f 7;have cs:=Sv 24 f 12;have aq:=aq;have aL:=six j SE;have ct:¬9223372036854775807<n.size+(Lib.decDigits j).length:=SE;exact .q (g:=⟨rfl,a,Qa⟩);intro ae w a hf f hd hw;have cu:=Sv 15 f 3;have cw:=Sv 25 f 13;replace a:=Hq a;refine .h λK hK=>?_;go_simp;refine⟨rfl,?_⟩;refine Calls.M (ud cb p t u v w _ a.o.1.BW) ?_;rintro e w' ⟨he,hc,hg,_⟩;subst he;exact⟨_,rfl,hK ⟨rfl,⟨a.o.1.kt hc hg,a.o.2.T (.grown hg (.inr rfl))⟩,Qe⟩⟩;exact .v 26 14;intro bJ bK bm bn bL;have bo:bJ 15=.bool false:=bn 15 SF;have af:=O0 bm;clear bn bL bm;simp only[mP,bo];clear bo;obtain⟨ax,ay,az,aA,aB,aC,aD,aE,aF⟩:=sS af.o.1.bd.kt;have bM:=jS af.o.1.bd.kt 8;obtain⟨⟨ag,ah,ai,aj,ak,al⟩,_⟩:=ly ((af.o.2.B ad aQ aP).T aw.o);go_wp21;obtain⟨aR,aG⟩:=Xq (bK.setCell ⟨b,8,none⟩ (.int .i64 ((j:Int)+1)));have bp:vB S aR B C D sc E F G I J cv L M N b cb p t u v O P Q n (j+1):=aG▸af.o.1.inc;have bq:nj (Bb b cb) bl aR:=aG▸af.o.2.T (.set (.inl rfl));rw[<-aG];clear aG ax ay az aA aB aC aD aE aF bM ag ah ai aj ak al;have br:=O0 (au.blk bq);apply(xG S aR B C D sc E F G I J cv L M N b cb p t u v O P Q n (j+1) an ao ap c3 bp ((y.jP (H.blk av)).jP br.o) aJ.o d X name Y be th el U Z c1 _ _ rfl rfl (bG.jP (ko.ok .u8 De) br.o) aL).M;rintro e bN ⟨rfl,bs⟩;have bO:=(bp.jQ bs)
   have aS:=(bq.T (.of bs))
   obtain⟨⟨ag,ah,ai,aj,ak,al⟩,_⟩:=ly ((aS.B ad aQ aP).T aw.o);go_wp21;have bt:=O0 (au.blk aS);refine(aX S bN B C D sc E F G I J cv L M N b cb p t u v O P Q n (j+1) an ao ap c3 V aa c4 th bO ((y.jP (H.blk av)).jP bt.o) aJ.o (bH.jP (kp.ok .u8 d) bt.o) bE.o (SC bj) aq).M ?_;rintro e bP ⟨rfl,bQ,bR⟩;have aT:=(aS.T bR)
   clear ag ah ai aj ak al;obtain⟨⟨ag,ah,ai,aj,ak,al⟩,_⟩:=ly ((aT.B ad aQ aP).T aw.o);go_wp21;have bu:=O0 (au.blk aT);refine(aX S bP B C D sc E F G I J cv L M N b cb p t u v O P Q n (j+1+ku d th) an ao ap c3 W ab c5 el bQ ((y.jP (H.blk av)).jP bu.o) aJ.o (bI.jP (kp.ok .u8 d) bu.o) bF.o (SC bj) aq).M ?_;rintro e cx ⟨rfl,bS,bT⟩;have bU:=(aT.T bT)
   clear ag ah ai aj ak al;go_wp21;go_roundw
   .exact⟨k+1,SE,SJ,bD.o▸bS,av.T bU⟩
   simp[intOf];omega
  obtain rfl:m=k:=SE;go_wp21
  go_end0
  have he:l.take m=l:=Pq (SC aV.o);have z:=z;rw[he]at z;exact⟨rfl,z,ar⟩
def yh(S:Nat->Prop)(w:World)(ae:List Fg)(af:List Va)(R:List (List UInt8))(sc:Sc)(z:Option Addr)(A C:Nat)(b:Option Addr)(c cv:Nat)(n:Option Addr)(f l:Nat)(cb:Nat)(U V:Value)(al:List Co)(W:Option Addr)(X c3:Nat)(m hn:List UInt8)(t:Option Addr)(u y:Nat)(E:Option Addr)(F G:Nat)(ag:ByteArray)(ah:List St)
  (h:rb S w ae af R sc z A C b c cv n f l) (am:tz cb U (.slice z A C) V (.slice W X c3) w) (aR:∀q,S q->q≠cb) (hx:tD S w sc al W X c3 (tx m) (.slice b c cv) (.slice t u y))
  (hv:jT (kp .u8 Ds) S w (.slice E F G) ah) (hs:∀s∈ah,FM sc al Ds s) (aS:ku Ds ah<=90) (bs:m.length<=1000) (aT:hn.length<=1000) (bt:ag.size<=1000):
  Calls prog 145 #[.pointer cb,.agg (ka m b c cv t u y),.agg (ka hn n f l E F G),.string ag] w (yV cb U (.slice z A C) V (.slice W X c3) w):=by
 have P:Below w w ((w.alloc (.cells (ka m b c cv t u y) 112)).alloc (.cells (ka hn n f l E F G) 125)):=(Ba _ _).alloc SG _;have hz0:((w.alloc (.cells (ka m b c cv t u y) 112)).alloc (.cells (ka hn n f l E F G) 125)).heap.size=w+2:=SG
 have an:((w.alloc (.cells (ka m b c cv t u y) 112)).alloc (.cells (ka hn n f l E F G) 125)).heap[w.heap.size]?=some (.cells (ka m b c cv t u y) 112):=(P3 _ _ _ SG).T (O2 w _);have ao:((w.alloc (.cells (ka m b c cv t u y) 112)).alloc (.cells (ka hn n f l E F G) 125)).heap[w.heap.size+1]?=some (.cells (ka hn n f l E F G) 125):=by have:=O2 (w.alloc (.cells (ka m b c cv t u y) 112)) (.cells (ka hn n f l E F G) 125);rw[O4]at this;exact this
 have ay:=h.lens;have H:=(h.jQ P)
 have Y:=(am.jQ P am.lt)
 have az:=(hx.jP (λq d=>P.B q (h.kX q d)))
 have aA:=(hv.jP (kp.ok .u8 Ds) (λq d=>P.B q (h.kX q d)))
 have aU:=O0 hs;have aV:=aS;have bu:=am.lt;have aW:=O0 aR;have bv:=O0 h.kX;have D:=O0 (show∀q,S q->q<w+2 from λq d=>SC (h.kX q d));clear h hs;obtain⟨j,I⟩:=Xq w.heap.size;obtain⟨B,T⟩:=Xq ((w.alloc (.cells (ka m b c cv t u y) 112)).alloc (.cells (ka hn n f l E F G) 125));rw[<-T]at H Y az aA hz0 an ao P;have aX:=O0 T;have Z:=O0 an;have aa:=O0 ao;have L:=O0 I;clear T an ao I;have bw:=O0 (And.intro H.lens H)
 go_enter func145,ntmps145
 go_wp2_with fail;have T:=aX.o;have I:=L.o;rw[<-T,<-I];have bx:cb<j:=SE
 have bz:B=j+2:=SE
 rw[<-I]at D Z aa P;clear T I;go_loopw [16] (λi wr=>∃k:Nat,k<=f/\i=k/\Below (j+2) B wr) (λi _=>f-(intOf i).toNat)
 .exact⟨0,Pb _,rfl,Below.refl _ _⟩
 obtain⟨k,bA,rfl,J⟩:=hrel;have bB:=J.size;by_cases bC:k<f
 .have aY:=H.params.len.1;obtain⟨p,hp⟩:∃p,R[k]?=some p:=Gx SE;obtain⟨aB,aC,aD,aZ⟩:=H.Ig.Nf k p hp;obtain⟨bD,bE,r,rfl,ba,hr,aE⟩:=(H.params.jP kh.ok (λq d=>J.B q (D.o q d))).kt kh.ok k p hp;cases hr;have aF:=aE 0 _ rfl;rw[Pc,PG]at aF;have aG:=(oO S wr b c cv af p (H.vars.jP (nz.ok _) (λq d=>J.B q (D.o q d))) ay.2.1 (λq d=>SC (D.o q d)))
  rw[aC]at aG;clear aC hp aZ;have bb:=((H.params.take k SE))
  obtain⟨⟨M,N,O⟩,_⟩:=kz ((J.B j SE).T Z.o);obtain⟨bF,bG⟩:=mG k f;have bc:=O0 aB;have bd:=O0 aD;have be:k<=1000:=SE;clear aD aB aE ba aY;go_wp2_with fail;apply aG.M;rintro e ap ⟨rfl,I⟩;have L:=O0 (J.T (I.M SE));have bH:=L.o.size;clear I aF M N O;simp only[pj];obtain⟨bf,ai⟩:=Y.jP (L.o.B cb SE);have c1:=jN ai 1;have bI:cb<ap:=SE;obtain⟨⟨M,N,O⟩,_⟩:=kz ((L.o.B (j+1) SE).T aa.o);have bJ:j+1<ap:=SE;clear ai;have K:=Ba ap (.cells oe 115);have aH:=(rr S _ z A C ae p (H.km.jP lM.ok (λq d=>(K.B q (SC (D.o q d))).T (L.o.B q (D.o q d)))) ay.1 (λq d=>O1 (SC (D.o q d)) K.size))
  rw[bd.o]at aH;skip;go_wp2_with fail;apply aH.M;rintro e aq ⟨rfl,aI⟩;have ab:=(L.o.T ((K.T (aI.M K.size)).M SE))
  clear aI;have bK:=ab.size;clear M N O c1;have bg:=Y.jP (ab.B cb SE);skip;obtain⟨⟨M,N,O⟩,_⟩:=kz ((ab.B (j+1) SE).T aa.o);have bL:j+1<aq:=SE;have bM:(k:Int)<=(l:Int):=SC H.params.len.2;have aJ:=(oN S aq _ k l ((R).take k) p (bb.jP kh.ok (λq d=>ab.B q (D.o q d))) be (λq d=>SC (D.o q d)))
  have aK:decide (p∈(R).take k)=false:=(by simpa using bc.o);rw[aK]at aJ;clear aK;go_wp2_with fail;apply aJ.M;rintro e bh ⟨rfl,rfl⟩;go_wp2_with fail;apply(lA cb U _ V _ aq _ _ bg).M;rintro e bh ⟨rfl,rfl⟩;go_wp2_with fail;go_roundw
  .exact⟨k+1,SE,SJ,ab⟩
  simp[intOf];omega
 obtain rfl:f=k:=SE;go_wp2_with fail;refine Ia (λx=>Below wr wr x) (mi [(·=.pointer cb),(·=.agg (ka m b c cv t u y)),(·=.pointer cb),(·=.pointer cb),(·=.pointer cb),(Pp cb 1),(·=.slice z A C),(Pp j 1),(·=.slice b c cv),(Pp (j+1) 1),(·=.slice n f l),(·=.agg (ob z A C b c cv n f l)),(·=.agg (tm cb z A C b c cv n f l m t u y)),Tr,Tr]) [(13,13,λv _ w=>∃(o:Nat),v=.pointer o/\Nw wr w o/\w.heap[o]?=some (.cells (tm cb z A C b c cv n f l m t u y) 318)),(14,14,λv _ w=>∃(o:Nat),v=.pointer o/\Nw wr w o/\w.heap[o]?=some (.cells (tm cb z A C b c cv n f l m t u y) 318))] ((Below.refl _ _).drew) ⟨?_,?_,?_,?_,?_,?_,?_,?_,?_,?_,?_,?_,?_,?_,?_,trivial⟩ ?_;exact .f 0;intro Q w a hf hv hd hw;have e5:=Sl 5 (hf 5 rfl);obtain⟨⟨M,N,O⟩,_⟩:=kz ((a.B j SE).T ((J.B j SE).T Z.o));replace a:=Hq a;exact .q (g:=⟨rfl,a.o,Ra⟩);exact .f 0;exact .v 55 2;exact .v 56 3;exact .v 57 4;intro Q w a hf hv hd hw;obtain⟨bf,ai⟩:=Y.jP ((a.B cb SE).T (J.B cb SE));exact .l 58 (hv 5 _ rfl rfl) (jN ai 1) ⟨rfl,a,Ra⟩;exact .f 5;intro Q w a hf hv hd hw;have bN:=Sv 60 hv 7;obtain⟨⟨M,N,O⟩,_⟩:=kz ((a.B j SE).T ((J.B j SE).T Z.o));replace a:=Hq a;exact .q (g:=⟨rfl,a.o,Ra⟩);exact .f 6;intro Q w a hf hv hd hw;have bO:=Sv 62 hv 9;obtain⟨⟨M,N,O⟩,_⟩:=kz ((a.B (j+1) SE).T ((J.B (j+1) SE).T aa.o));replace a:=Hq a;exact .q (g:=⟨rfl,a.o,Ra⟩);intro Q w a hf hv hd hw;have bP:=Sv 59 hv 6;have bQ:=Sv 61 hv 8;have bR:=Sv 63 hv 10;exact .q (g:=⟨rfl,a,Ra⟩);intro Q w a hf hv hd hw;have bS:=Sv 53 hv 0;have bT:=Sv 54 hv 1;have bU:=Sv 64 hv 11;exact .q (g:=⟨rfl,a,Ra⟩);intro Q w a hf hv hd hw;have bV:=Sv 65 hv 12;have bi:=a.size;replace a:=Hq a;exact .q (g:=⟨trivial,a.o.alloc a.o.size _,Rc (λ_ _=>⟨_,rfl,⟨bi,SG⟩,O2 _ _⟩)<|Rb<|Qe⟩);intro Q w a hf hv hd hw;obtain⟨o,bj,bk,bl⟩:=hd _ (Mm 0 rfl) _ _ rfl rfl rfl;exact .p 66 bj ⟨trivial,a,Rb<|Rc (λ_ _=>⟨o,rfl,bk,bl⟩)<|Ra⟩;intro ar au aL bm aM;obtain⟨o,aN,av,aw⟩:=(show(λ(v:Value) (_:Value) (w:World)=>∃(o:Nat),v=.pointer o/\Nw wr w o/\w.heap[o]?=some (.cells (tm cb z A C b c cv n f l m t u y) 318)) (ar 14) (ar 14) au from aM _ (List.Mem.tail _ (List.Mem.head _)) (show(14:Nat)<15 from SF) (show(14:Nat)<15 from SF))
 have aO:ar 14=.pointer o:=aN;have aj:=(J.T (aL.M SE))
 have bW:=aj.size;have bX:=av.1;have bY:=av.2;have bZ:=jS aw 7;have aP:=O0 aw;clear bm aM aL aN av aw;simp only[mP,aO];clear aO;obtain⟨⟨M,N,O⟩,_⟩:=kz ((aj.B j SE).T Z.o);obtain⟨⟨ca,cc,cd⟩,_⟩:=kz ((aj.B (j+1) SE).T aa.o);obtain⟨ce,cf,cg,ch,ci,cj,ck,cl,cm⟩:=sS aP.o;have aT:j+1<au:=SE;have cn:o≠j+1:=SE;have co:=O0 D.o;go_wp2_with fail;generalize aQ:(({data:=#[115,116,97,116,101,109,101,110,116,32]}++{data:=m.toArray}++{data:=#[46]}++{data:=hn.toArray}++ag++{data:=#[32]}):ByteArray)=ac;have bn:ac.size<=100000000:=(by rw[<-aQ];simp only[Pr];show 10+m.toArray.size+1+hn.toArray.size+ag.size+1<=_;simp only[Qj];omega);clear aQ;obtain⟨ad,ak⟩:=Xq (au.setCell ⟨o,7,none⟩ (.string ac));have bo:ad.heap[o]?=some (.cells #[.pointer cb,.slice z A C,.slice b c cv,.slice n f l,tx m,.slice b c cv,.slice t u y,.string ac,.int .i64 ((0:Nat):Int)] 318):=ak▸jO aP.o;have K:Below (j+2) B ad:=ak▸jX aj SE;rw[<-ak];clear ak;have ax:∀q,S q->ad.heap[q]?=B.heap[q]?:=λq d=>K.B q (D.o q d);have bp:vB S ad ae af R sc z A C b c cv n f l o cb U (.slice z A C) V (.slice W X c3) (tx m) (.slice b c cv) (.slice t u y) ac 0:=⟨H.jP ax K.size,Y.jP (K.B cb SE),⟨bo⟩,SE,λq d=>⟨SC (D.o q d),aW.o q d⟩⟩
 refine(xg Ds S ad ae af R sc z A C b c cv n f l o cb U _ V _ (tx m) _ _ ac 0 al W X c3 E F G ah bp (az.jP ax) rfl (aA.jP (kp.ok .u8 Ds) ax) aU.o (SC aV) bn).M ?_;rintro e cp ⟨rfl,bq,br⟩;go_wp2_with fail
 go_end0
 have I:=L.o;exact⟨rfl,bq.BW,nj.through (P.T (K.M SE)) br SE⟩
def EN(S w aB O)(C J:Nat)(aL cu)(aj c3:Nat)(cb:Nat)(U V)(k:Nat)(an)(cw:tz cb U (.slice O C J) V (.slice cu aj c3) w)(cx:jT lM S w (.slice O C J) aB)(fQ:aB.length<=2)(bN:jT (lv .u8) S w (.slice cu aj c3) aL)(ek:aL.length<=3)(bq:LK aB aL k an)(L:aL[k]?=some an)(hS:∀q,S q->q<w/\q≠cb):
  Calls prog 91 #[.pointer cb,k] w (yV cb U (.slice O C J) V (.slice cu aj c3) w):=by
 have fR:=(Pm.1 L).1;have el:=cx.len;have em:=bN.len;have fS:C<=2:=SE
 have fT:k<aj:=SE
 have fU:k<=c3:=SE
 obtain⟨T,bj⟩:=Xq an.name;have en:=O0 bj;obtain⟨aM,aN,r,rfl,eo,hr,W⟩:=bN.kt (lv.ok _) k an L;obtain⟨aC,ac,cv,bO,ad,ah,rfl,hv,he⟩:=hr.qo;rw[<-bj]at W;have aq:=W 0 _ rfl;have br:=W 1 _ rfl;have bs:=W 2 _ rfl;rw[Pc]at aq;have ep:=O0 cw;have cy:=O0 cx;have dj:=O0 bN;have bt:=O0 bq;have eq:=O0 L;have aD:=O0 hS;have bP:=O0 hv;have bQ:=O0 he;have er:=cw.lt;have cz:=O0 (hv.len);have cA:=O0 he.len;have es:=O0 (show((aL.take k).find? λx=>x.name==T)=none from bj▸bq.new);have et:=O0 (show oa aB T=false from bj▸bq.OT);obtain⟨cB,aR⟩:=cw;have c1:=jN aR 3;obtain⟨fV,fW⟩:=mG k aj
 have fX:T.length<=12:=bj▸bq.nl;clear aR cx bN bq L hS hv he bj W eo el em;have ak:=Ba w (.cells (ka T aC ac cv bO ad ah) 112);have bu:=O0 (nj.of (X:=λq=>q=cb) ak);have bv:=O0 (ep.o.jQ ak er);have bw:=O0 (O2 w (.cells (ka T aC ac cv bO ad ah) 112));have cC:=O0 (show(w.alloc (.cells (ka T aC ac cv bO ad ah) 112)).heap.size=w+1 from SG);clear ak
 go_enter func91,ntmps91
 go_wp21;apply(ud cb U (.slice O C J) V _ _ _ bv.o).M;rintro e aO ⟨rfl,bb,bc,cD⟩;have bd:=cC.o;obtain⟨m,cE⟩:=Xq w.heap.size;have bx:aO.heap[m]?=some (.cells (ka T aC ac cv bO ad ah) 112):=by rw[cE];exact(bc.B _ SE SU).T bw.o
 rw[<-cE];have bR:=O0 bb;have dk:=O0 (bu.o.T (.grown bc rfl));have bS:=O0 bx;have bk:m<aO:=SE
 have aE:m≠cb:=SE
 have bz:=bb.lt
 have bT:=O0 (show∀q,S q->q<aO from λq c=>SC ((aD.o q c).1));have dl:=O0 (show∀q,S q->aO.heap[q]?=w.heap[q]? from λq c=>dk.o.B q (aD.o q c).1 (aD.o q c).2);clear bc cD bx bb bd cE aq br bs bw bv bu c1;go_wp21;refine Ia (λx=>Below aO aO x) (mi [(·=.pointer cb),(·=.pointer cb),(·=.pointer cb),(Pp cb 3),(·=.slice (some ⟨aM,aN,none⟩) aj c3),(·=k),(·=.slice (some ⟨aM,aN,none⟩) k c3),(·=.pointer m),(·=tx T),(·=.tuple tg),(·=.tuple tg),(·=.agg #[Em,Nl,Nl]),(·=.bool false),Tr,Tr,(·=.bool false)]) [(13,13,λv _ w=>∃(o:Nat),v=.pointer o/\Nw aO w o/\∃c1 c2 c3:Value,w.heap[o]?=some (.cells #[c1,c2,c3] 112))] ((Below.refl _ _).drew) ⟨?_,?_,?_,?_,?_,?_,?_,?_,?_,?_,?_,?_,?_,?_,?_,?_,trivial⟩ ?_
 .exact .f 0
 .exact .v 33 0
 .exact .v 34 1
 .exact .v 35 2
 .intro d w a hf hv hd hw;obtain⟨cB,aR⟩:=bR.o.jP (a.B cb bz);exact .l 36 (hv 3 _ rfl rfl) (jN aR 3) ⟨rfl,a,Ra⟩
 .exact .f 1
 .intro d w a hf hv hd hw;have fY:=Sv 37 hv 4;have fZ:=Sv 38 hv 5;have ga:(k:Int)<=(c3:Int):=SE;exact .q (g:=⟨rfl,a,Ra⟩)
 .exact .f 4
 .intro d w a hf hv hd hw;have gb:=Sv 40 hv 7;obtain⟨⟨p,s,t⟩,_⟩:=kz ((a.B m bk).T bS.o);replace a:=Hq a;exact .q (g:=⟨rfl,a.o,Ra⟩)
 .intro d w a hf hv hd hw;have gc:=Sv 39 hv 6;have gd:=Sv 41 hv 8;replace a:=Hq a;refine .h λK hK=>?_;go_simp;refine⟨rfl,?_⟩;refine Calls.M (qf S w _ k c3 (aL.take k) T ((dj.o.take k SE).jP (lv.ok _) (λq c=>(a.o.B q (bT.o q c)).T (dl.o q c))) SE (λq c=>SD (bT.o q c) a.o.size)) ?_;rintro e w' ⟨_,hp,hb⟩;have he:=hp es.o;clear hp;subst he;exact⟨_,rfl,hK ⟨rfl,a.o.T (hb.M a.o.size),Rd (λu _ ⟨o,e,f,c1,c2,c3,L⟩=>⟨o,e,⟨f.1,O1 f.2 ((NK.jQ (w0:=aO) hb)).1⟩,c1,c2,c3,(((NK.jQ (w0:=aO) hb)).2 o f).T L⟩)<|Qe⟩⟩
 .exact .v 42 9
 iterate 2
  .exact .v 32 10
 .intro d w a hf hv hd hw;have ar:=a.size;replace a:=Hq a;exact .q (g:=⟨trivial,a.o.alloc a.o.size _,Rc (λ_ _=>⟨_,rfl,⟨ar,SG⟩,_,_,_,O2 _ _⟩)<|Qe⟩)
 .intro d w a hf hv hd hw;obtain⟨o,eu,Q,c1,c2,c3,M⟩:=hd _ (Mm 0 rfl) _ _ rfl rfl rfl;have e5:=Sl 5 eu;have ge:=Sv 43 hv 11;replace M:=Hq M;obtain⟨⟨bU,bV,bW⟩,⟨bX,bY,bZ⟩⟩:=kz M;replace a:=Hq a;exact .q (g:=⟨trivial,jX (jX (jX (a.o) Q.1) Q.1) Q.1,Rd (λu _ ⟨aP,ap,f,au⟩=>⟨aP,ap,⟨f.1,by simp only[O6];exact f.2⟩,mH (mH (mH (au) _ _ _ SF) _ _ _ SF) _ _ _ SF⟩)<|Qe⟩)
 .exact .v 44 12
 intro Y Z av aS bA;have dm:Y 15=.bool false:=aS 15 SF;have A:=O0 av;have B:=av.size;clear aS bA av;simp only[kK,Act.put,Px,PN,PK,dm];clear dm;go_wp21;refine Ia (λx=>Below Z Z x) (mi [(·=.pointer cb),(·=.bool false),(·=.bool true),(·=.bool true),(·=.pointer cb),(·=.pointer cb),(·=.pointer cb),(Pp cb 1),(·=.slice O C J),(·=.pointer m),(·=tx T),(·=.bool false),(·=.bool true),(·=.bool true),(·=.pointer m),(·=tx T),(·=.bool true)]) [] ((Below.refl _ _).drew) ⟨?_,?_,?_,?_,?_,?_,?_,?_,?_,?_,?_,?_,?_,?_,?_,?_,?_,trivial⟩ ?_
 .exact .f 0
 .exact .f 6
 .exact .v 46 1
 .exact .v 47 2
 .exact .f 0
 .exact .v 49 4
 .exact .v 50 5
 .exact .v 51 6
 .intro d w a hf hv hd hw;obtain⟨cB,aR⟩:=bR.o.jP (((A.o.T (a.M B))).B cb bz);exact .l 52 (hv 7 _ rfl rfl) (jN aR 1) ⟨rfl,a,Ra⟩
 .exact .f 4
 .intro d w a hf hv hd hw;have gf:=Sv 54 hv 9;obtain⟨⟨p,s,t⟩,_⟩:=kz ((((A.o.T (a.M B))).B m bk).T bS.o);replace a:=Hq a;exact .q (g:=⟨rfl,a.o,Ra⟩)
 .intro d w a hf hv hd hw;have gg:=Sv 53 hv 8;have gh:=Sv 55 hv 10;replace a:=Hq a;refine .h λK hK=>?_;go_simp;refine⟨rfl,?_⟩;refine Calls.M (rr S w _ C J aB T (cy.o.jP lM.ok (λq c=>(((A.o.T (a.o.M B))).B q (bT.o q c)).T (dl.o q c))) SE (λq c=>SD (bT.o q c) (((A.o.T (a.o.M B))).size))) ?_;rintro e w' ⟨he,hb⟩;rw[et.o]at he;subst he;exact⟨_,rfl,hK ⟨rfl,a.o.T (hb.M a.o.size),Qe⟩⟩
 .exact .v 56 11
 .intro d w a hf hv hd hw;have gi:=Sv 48 hv 3;have gj:=Sv 57 hv 12;exact .q (g:=⟨rfl,a,Ra⟩)
 .exact .f 4
 .intro d w a hf hv hd hw;have gk:=Sv 59 hv 14;obtain⟨⟨p,s,t⟩,_⟩:=kz ((((A.o.T (a.M B))).B m bk).T bS.o);replace a:=Hq a;exact .q (g:=⟨rfl,a.o,Ra⟩)
 .intro d w a hf hv hd hw;have gl:=Sv 45 hv 0;have gm:=Sv 58 hv 13;have gn:=Sv 60 hv 15;clear hf hv hd hw;replace a:=Hq a;refine .h λK hK=>?_;go_simp;refine⟨rfl,?_⟩;refine Calls.M (lA cb U (.slice O C J) V _ w _ _ (bR.o.jP (((A.o.T (a.o.M B))).B cb bz))) ?_;rintro e w' ⟨he,hw⟩;subst hw;subst he;exact⟨_,rfl,hK ⟨rfl,a.o,Qe⟩⟩
 intro Y P aT be bl;have ca:=O0 ((A.o.T (aT.M B)));clear be bl aT;simp only[kK,Act.put,Px,PN,PK];have cF:=(ca.o.B m bk).T bS.o;have bB:=O0 cF;have ev:=O0 (bR.o.jP (ca.o.B cb bz));have bC:m<P:=O1 bk ca.o.size;have bD:=O0 (dk.o.T (.of ca.o));have ew:=bD.o.size;have aw:=O0 (show∀q,S q->q<P/\q≠cb from λq c=>⟨SC ((aD.o q c).1),(aD.o q c).2⟩);have cc:=O0 (show∀q,S q->P.heap[q]?=w.heap[q]? from λq c=>bD.o.B q (aD.o q c).1 (aD.o q c).2);obtain⟨p,s,t⟩:=(kz cF).1;clear cF B ew bz bk;go_wp21;clear p s t;have cG:=O0 bt.o.hs;have gp:ac<=5:=by have h:=cz.o.1;have:=bt.o.nv;omega
 go_loopw [65] (λi wr=>∃n:Nat,n<=ac/\i=n/\tz cb U (.slice O C J) V (.slice (some ⟨aM,aN,none⟩) aj c3) wr/\nj (λq=>q=cb) P wr) (λi _=>ac-(intOf i).toNat)
 .exact⟨0,Pb _,rfl,ev.o,.refl _ _⟩
 obtain⟨n,ex,rfl,aU,al⟩:=hrel;have aa:=O0 aU;have ab:=O0 al;have cd:=al.size;clear aU al;by_cases ey:n<ac
 .obtain⟨x,hx⟩:∃x,an.vars[n]?=some x:=Gx (SC cz.o);have ax:∀q,S q->wr.heap[q]?=w.heap[q]?:=λq c=>(ab.o.B q (aw.o q c).1 (aw.o q c).2).T (cc.o q c);obtain⟨aF,aG,r,rfl,cH,hr,W⟩:=(bP.o.jP (nz.ok _) ax).kt (nz.ok _) n x hx;have ez:r=[tx x.name,.int .u8 x.ty,.int .i64 x.init]:=hr;subst ez;have aq:=W 0 _ rfl;have br:=W 1 _ rfl;have bs:=W 2 _ rfl;rw[Pc]at aq;obtain⟨dn,dp,gq⟩:=bt.o.vars n x hx;have eA:=O0 dn;have eB:=O0 (show oa aB x.name=false from dp);have dq:=O0 ((ab.o.B m bC aE).T bB.o);obtain⟨eC,eD⟩:=mG n ac;have eE:(n:Int)<=(cv:Int):=SC cz.o.2;clear ax hr W cH hx dn dp;have ak:=Ba wr (sd x.name x.ty x.init);have bu:=O0 (ab.o.T (.of ak));have bv:=O0 (aa.o.jQ ak aa.o.lt);have bw:=O0 (O2 wr (sd x.name x.ty x.init));have cC:=O0 (show(wr.alloc (sd x.name x.ty x.init)).heap.size=wr+1 from SG);have gr:=aa.o.lt;obtain⟨⟨p,s,t⟩,_⟩:=kz dq.o;have eF:m<wr:=SE;clear ak;go_wp21;apply(ud cb U (.slice O C J) V _ _ _ bv.o).M;rintro e ae ⟨rfl,bb,bc,cD⟩;have bd:=cC.o;obtain⟨aV,cI⟩:=Xq wr.heap.size;have bx:ae.heap[aV]?=some (sd x.name x.ty x.init):=(by rw[cI];exact(bc.B _ SE SU).T bw.o);rw[<-cI];have cJ:=O0 bb;have aQ:=O0 (bu.o.T (.grown bc rfl));have cK:=O0 bx;have cL:aV<ae:=SE;have cM:=bb.lt;have eG:P.heap.size<=ae:=SE;have aH:=O0 (show∀q,S q->q<ae from λq c=>SC ((aw.o q c).1));have bE:=O0 (show∀q,S q->ae.heap[q]?=w.heap[q]? from λq c=>(aQ.o.B q (aw.o q c).1 (aw.o q c).2).T (cc.o q c));have bF:=O0 ((aQ.o.B m bC aE).T bB.o);have ce:m<ae:=SE;clear bc cD bx bb bd cI aq br bs bw bv bu aa ab p s t dq eF;go_wp21;refine Ia (λx=>Below ae ae x) (mi [(Pp m 1),(·=.slice (some ⟨aF,aG,none⟩) ac cv),(·=n),(·=.slice (some ⟨aF,aG,none⟩) n cv),(·=.pointer aV),(·=tx x.name),(·=.tuple #[.agg oe,false]),(·=.tuple #[.agg oe,false]),(·=.agg oe),(·=.bool false),Tr,Tr,(·=.bool false)]) [(10,10,λv _ w=>∃(o:Nat),v=.pointer o/\Nw ae w o/\∃c1 c2 c3:Value,w.heap[o]?=some (.cells #[c1,c2,c3] 115))] ((Below.refl _ _).drew) ⟨?_,?_,?_,?_,?_,?_,?_,?_,?_,?_,?_,?_,?_,trivial⟩ ?_;exact .f 4;intro d w a hf hv hd hw;have gs:=Sv 81 hv 0;obtain⟨⟨p,s,t⟩,_⟩:=kz ((a.B m ce).T bF.o);replace a:=Hq a;exact .q (g:=⟨rfl,a.o,Ra⟩);exact .f 7;intro d w a hf hv hd hw;have gt:=Sv 82 hv 1;have gu:=Sv 83 hv 2;exact .q (g:=⟨rfl,a,Ra⟩);exact .f 8;intro d w a hf hv hd hw;have gv:=Sv 85 hv 4;obtain⟨⟨p,s,t⟩,_⟩:=kz ((a.B aV cL).T cK.o);replace a:=Hq a;exact .q (g:=⟨rfl,a.o,Ra⟩);intro d w a hf hv hd hw;have gw:=Sv 84 hv 3;have gx:=Sv 86 hv 5;replace a:=Hq a;refine .h λK hK=>?_;go_simp;refine⟨rfl,?_⟩;refine Calls.M (oO S w _ n cv (an.vars.take n) x.name ((bP.o.take n SE).jP (nz.ok _) (λq c=>(a.o.B q (aH.o q c)).T (bE.o q c))) SE (λq c=>SD (aH.o q c) a.o.size)) ?_;rintro e w' ⟨he,hb⟩;rw[eA.o]at he;simp only[pj]at he;subst he;exact⟨_,rfl,hK ⟨rfl,a.o.T (hb.M a.o.size),Rd (λu _ ⟨o,e,f,c1,c2,c3,L⟩=>⟨o,e,⟨f.1,O1 f.2 ((NK.jQ (w0:=ae) hb)).1⟩,c1,c2,c3,(((NK.jQ (w0:=ae) hb)).2 o f).T L⟩)<|Qe⟩⟩;exact .v 87 6;exact .v 80 7;exact .v 80 7;intro d w a hf hv hd hw;have ar:=a.size;replace a:=Hq a;exact .q (g:=⟨trivial,a.o.alloc a.o.size _,Rc (λ_ _=>⟨_,rfl,⟨ar,SG⟩,_,_,_,O2 _ _⟩)<|Qe⟩);intro d w a hf hv hd hw;obtain⟨o,eH,Q,c1,c2,c3,M⟩:=hd _ (Mm 0 rfl) _ _ rfl rfl rfl;have ap:=Sl 9 eH;have aW:=Sv 88 hv 8;replace M:=Hq M;obtain⟨⟨bU,bV,bW⟩,⟨bX,bY,bZ⟩⟩:=kz M;replace a:=Hq a;exact .q (g:=⟨trivial,jX (jX (jX (a.o) Q.1) Q.1) Q.1,Rd (λu _ ⟨aP,ap,f,au⟩=>⟨aP,ap,⟨f.1,by simp only[O6];exact f.2⟩,mH (mH (mH (au) _ _ _ SF) _ _ _ SF) _ _ _ SF⟩)<|Qe⟩);exact .v 89 9;intro Y Z av aS bA;have dr:Y 12=.bool false:=aS 12 SF;have A:=O0 av;have B:=av.size;clear aS bA av;simp only[kK,Act.put,Px,PN,PK,dr];clear dr;go_wp21;refine Ia (λx=>Below Z Z x) (mi [(·=.pointer cb),(·=.bool false),(·=.bool true),(·=.bool true),(·=.pointer cb),(·=.pointer cb),(·=.pointer cb),(Pp cb 1),(·=.slice O C J),(·=.pointer aV),(·=tx x.name),(·=.bool false),(·=.bool true),(·=.bool true),(·=.pointer aV),(·=tx x.name),(·=.bool true)]) [] ((Below.refl _ _).drew) ⟨?_,?_,?_,?_,?_,?_,?_,?_,?_,?_,?_,?_,?_,?_,?_,?_,?_,trivial⟩ ?_;exact .f 0;exact .f 10;exact .v 91 1;exact .v 92 2;exact .f 0;exact .v 94 4;exact .v 95 5;exact .v 96 6;intro d w a hf hv hd hw;obtain⟨cB,aR⟩:=cJ.o.jP (((A.o.T (a.M B))).B cb cM);exact .l 97 (hv 7 _ rfl rfl) (jN aR 1) ⟨rfl,a,Ra⟩;exact .f 8;intro d w a hf hv hd hw;have gy:=Sv 99 hv 9;obtain⟨⟨p,s,t⟩,_⟩:=kz ((((A.o.T (a.M B))).B aV cL).T cK.o);replace a:=Hq a;exact .q (g:=⟨rfl,a.o,Ra⟩);intro d w a hf hv hd hw;have gz:=Sv 98 hv 8;have gA:=Sv 100 hv 10;replace a:=Hq a;refine .h λK hK=>?_;go_simp;refine⟨rfl,?_⟩;refine Calls.M (rr S w _ C J aB x.name (cy.o.jP lM.ok (λq c=>(((A.o.T (a.o.M B))).B q (aH.o q c)).T (bE.o q c))) SE (λq c=>SD (aH.o q c) (((A.o.T (a.o.M B))).size))) ?_;rintro e w' ⟨he,hb⟩;rw[eB.o]at he;subst he;exact⟨_,rfl,hK ⟨rfl,a.o.T (hb.M a.o.size),Qe⟩⟩;exact .v 101 11;intro d w a hf hv hd hw;have gB:=Sv 93 hv 3;have gC:=Sv 102 hv 12;exact .q (g:=⟨rfl,a,Ra⟩);exact .f 8;intro d w a hf hv hd hw;have gD:=Sv 104 hv 14;obtain⟨⟨p,s,t⟩,_⟩:=kz ((((A.o.T (a.M B))).B aV cL).T cK.o);replace a:=Hq a;exact .q (g:=⟨rfl,a.o,Ra⟩);intro d w a hf hv hd hw;have gE:=Sv 90 hv 0;have gF:=Sv 103 hv 13;have gG:=Sv 105 hv 15;clear hf hv hd hw;replace a:=Hq a;refine .h λK hK=>?_;go_simp;refine⟨rfl,?_⟩;refine Calls.M (lA cb U (.slice O C J) V _ w _ _ (cJ.o.jP (((A.o.T (a.o.M B))).B cb cM))) ?_;rintro e w' ⟨he,hw⟩;subst hw;subst he;exact⟨_,rfl,hK ⟨rfl,a.o,Qe⟩⟩;intro Y gH ds eI eJ;have dt:=O0 ((A.o.T (ds.M B)));clear eI eJ ds;simp only[kK,Act.put,Px,PN,PK];go_wp21;go_roundw
  .repeat apply Exists.intro
   refine⟨?_,rfl⟩;exact⟨n+1,SE,SJ,cJ.o.jP (dt.o.B cb cM),aQ.o.T (.of dt.o)⟩
  simp[intOf];omega
 obtain rfl:ac=n:=SE;obtain⟨⟨p,s,t⟩,_⟩:=kz ((ab.o.B m bC aE).T bB.o);go_wp21;clear p s t;go_loopw [111] (λi wr=>∃v:Nat,v<=ad/\i=v/\tz cb U (.slice O C J) V (.slice (some ⟨aM,aN,none⟩) aj c3) wr/\nj (λq=>q=cb) P wr) (λi _=>ad-(intOf i).toNat)
 .exact⟨0,Pb _,rfl,aa.o,ab.o⟩
 clear aa ab;obtain⟨j,gI,rfl,aU,al⟩:=hrel;have aa:=O0 aU;have ab:=O0 al;have cd:=al.size;clear aU al;by_cases ey:j<ad
 .obtain⟨hs,cN⟩:∃x,an.kS[j]?=some x:=Gx (SC cA.o);have ax:∀q,S q->wr.heap[q]?=w.heap[q]?:=λq c=>(ab.o.B q (aw.o q c).1 (aw.o q c).2).T (cc.o q c);obtain⟨aF,aG,r,rfl,cH,hr,W⟩:=(bQ.o.jP (mr.ok _) ax).kt (mr.ok _) j hs cN;obtain⟨bm,ao,ay,rfl,cf⟩:=hr.qo;have aq:=W 0 _ rfl;rw[Pc,PG]at aq;have cO:=O5 cN;have eK:=cG.o hs cO;have gJ:ao<=3:=SC cf.len.1;have gK:ad<=2:=SD cA.o.1 bt.o.OU;have du:=O0 (cf.jP (lF.ok .u8) (λq c=>(ax q c).symm));have eL:=O0 cO;have cP:=O0 cf.len;obtain⟨eC,eD⟩:=mG j ad;have eE:(j:Int)<=(ah:Int):=SC cA.o.2;clear ax hr W cH cN cf cO eK;obtain⟨⟨p,s,t⟩,_⟩:=kz ((ab.o.B m bC aE).T bB.o);go_wp21;clear p s t;have ak:=Ba wr (mc bm ao ay);have cQ:=O0 (ab.o.T (.of ak));have eM:=O0 (aa.o.jQ ak aa.o.lt);have dv:=O0 (O2 wr (mc bm ao ay));have bd:(wr.alloc (mc bm ao ay)).heap.size=wr+1:=SG;obtain⟨aX,dw⟩:=Xq wr.heap.size;have dx:aX≠cb:=SC aa.o.lt;rw[<-dw]at dv⊢;have eN:aX<(wr.alloc (mc bm ao ay)).heap.size:=SE;have gL:P<=(wr.alloc (mc bm ao ay)).heap.size:=SE;generalize wr.alloc (mc bm ao ay)=bG at*;clear ak bd dw aq aa ab cd;have eO:m<bG:=SE;have eP:=O0 ((cQ.o.B m bC aE).T bB.o);have bn:=O0 (show∀q,S q->q<bG/\q≠cb from λq c=>⟨SC ((aw.o q c).1),(aw.o q c).2⟩);have dy:=O0 (show∀q,S q->bG.heap[q]?=w.heap[q]? from λq c=>(cQ.o.B q (aw.o q c).1 (aw.o q c).2).T (cc.o q c));go_wp21;go_loopw [119] (λi wr=>∃n:Nat,n<=ao/\i=n/\tz cb U (.slice O C J) V (.slice (some ⟨aM,aN,none⟩) aj c3) wr/\nj (λq=>q=cb) bG wr) (λi _=>ao-(intOf i).toNat)
  .exact⟨0,Pb _,rfl,eM.o,.refl _ _⟩
  obtain⟨n,ex,rfl,aU,al⟩:=hrel;have aa:=O0 aU;have ab:=O0 al;have cd:=al.size;clear aU al;by_cases gM:n<ao
  .obtain⟨x,hx⟩:∃x,hs[n]?=some x:=Gx (SC cP.o);have ax:∀q,S q->wr.heap[q]?=w.heap[q]?:=λq c=>(ab.o.B q (bn.o q c).1 (bn.o q c).2).T (dy.o q c);skip;obtain⟨cg,ch,r,rfl,eQ,hr,W⟩:=(du.o.jP (lF.ok .u8) ax).kt (lF.ok .u8) n x hx;obtain⟨az,af,aA,aI,aJ,aK,rfl,dz,dA⟩:=hr.qo;have aq:=W 0 _ rfl;have br:=W 1 _ rfl;have bs:=W 2 _ rfl;rw[Pc]at aq;obtain⟨cR,dB,dC,dD,sc,dE,dF,dG,dH⟩:=bt.o.hd hs eL.o n x hx;have ci:=O0 cR;have eR:=O0 dB;have eS:=O0 dC;have eT:=O0 dE;have eU:=O0 dF;have dI:=O0 dG;have dJ:=O0 dD;have eV:=O0 dH;have dK:=O0 (dz.jP kh.ok (λq c=>(ax q c).symm));have dL:=O0 (dA.jP (kp.ok .u8 Ds) (λq c=>(ax q c).symm));obtain⟨hz0,gN⟩:=mG n ao;have gO:(n:Int)<=(ay:Int):=SC cP.o.2;clear ax hr W eQ hx dB dC dE dF dG dD dH dz dA cR;go_wp21;have ak:=Ba wr (.cells (ka x.name az af aA aI aJ aK) 125);have aQ:=O0 (ab.o.T (.of ak));have dM:=O0 (aa.o.jQ ak aa.o.lt);have cj:=O0 (O2 wr (.cells (ka x.name az af aA aI aJ aK) 125));have bd:(wr.alloc (.cells (ka x.name az af aA aI aJ aK) 125)).heap.size=wr+1:=SG;obtain⟨R,dN⟩:=Xq wr.heap.size;have ck:R≠cb:=SC aa.o.lt;rw[<-dN]at cj⊢;have dO:R<(wr.alloc (.cells (ka x.name az af aA aI aJ aK) 125)).heap.size:=SE;have eG:bG<=(wr.alloc (.cells (ka x.name az af aA aI aJ aK) 125)).heap.size:=SE;generalize wr.alloc (.cells (ka x.name az af aA aI aJ aK) 125)=ae at*;clear ak bd dN aq br bs aa ab cd;have ce:m<ae:=SE;have eW:aX<ae:=SE;have bF:=O0 ((aQ.o.B m eO aE).T eP.o);have dP:=O0 ((aQ.o.B aX eN dx).T dv.o);have aH:=O0 (show∀q,S q->q<ae/\q≠cb from λq c=>⟨SC ((bn.o q c).1),(bn.o q c).2⟩);have bE:=O0 (show∀q,S q->ae.heap[q]?=w.heap[q]? from λq c=>(aQ.o.B q (bn.o q c).1 (bn.o q c).2).T (dy.o q c));have dQ:IntKind.i64.wrap ((j:Int)+1)=((j+1:Nat):Int):=SI;obtain⟨cl,cS⟩:=Xq ((⟨#[104,97,110,100,108,101,114,32]⟩:ByteArray)++⟨T.toArray⟩);obtain⟨cm,cT⟩:=Xq (cl++(⟨#[46]⟩:ByteArray));obtain⟨cn,cU⟩:=Xq (cm++(⟨x.name.toArray⟩:ByteArray));obtain⟨cV,cW⟩:=Xq (cn++(⟨#[32]⟩:ByteArray));obtain⟨eX,dR⟩:=Xq (cV++(⟨(Lib.decDigits (j+1)).toArray⟩:ByteArray));have dS:cl.size<=20:=(by rw[cS,Pr];show 8+T.toArray.size<=20;rw[Qj];omega);have dT:cm.size<=21:=(by rw[cT,Pr];show cl.size+1<=21;omega);have dU:cn.size<=33:=(by rw[cU,Pr];show cm.size+x.name.toArray.size<=33;rw[Qj];have:=ci.o;omega);have dV:cV.size<=34:=(by rw[cW,Pr];show cn.size+1<=34;omega);have eY:=O0 cS;have eZ:=O0 cT;have fa:=O0 cU;have fb:=O0 cW;have fc:=O0 dR;have fd:=O0 dS;have fe:=O0 dT;have ff:=O0 dU;have fg:=O0 dV;clear cS cT cU cW dR dS dT dU dV;have bH:=O0 (six (j+1) SE);refine Ri (λx=>tz cb U (.slice O C J) V (.slice (some ⟨aM,aN,none⟩) aj c3) x/\nj (λq=>q=cb) ae x) (mi [(·=.pointer cb),(·=.pointer m),(·=tx T),(·=.string cl),(·=.string cm),(·=.pointer R),(·=tx x.name),(·=.string cn),(·=.string cV),(·=j),(·=.int .i64 ((j+1:Nat):Int)),(·=.string ⟨(Lib.decDigits (j+1)).toArray⟩),(·=.string eX),(·=.bool true),(·=.bool false)]) [] (⟨dM.o,(nj.refl _ _).drew⟩) ⟨?_,?_,?_,?_,?_,?_,?_,?_,?_,?_,?_,?_,?_,?_,?_,trivial⟩ ?_;exact .f 0;exact .f 4;intro d w a hf hv hd hw;have gP:=Sv 125 hv 1;obtain⟨⟨p,s,t⟩,_⟩:=kz ((a.2.B m ce aE).T bF.o);replace a:=Hq a;exact .q (g:=⟨rfl,a.o,Qa⟩);intro d w a hf hv hd hw;have gQ:=Sv 126 hv 2;refine .h λK hK=>?_;go_simp;rw[Pn SE];exact hK ⟨(PL Value.string eY.o.symm),a,Qe⟩;intro d w a hf hv hd hw;have gR:=Sv 127 hv 3;have hz:=fd.o;refine .h λK hK=>?_;go_simp;rw[Pn SE];exact hK ⟨(PL Value.string eZ.o.symm),a,Qe⟩;exact .f 14;intro d w a hf hv hd hw;have gS:=Sv 129 hv 5;obtain⟨⟨p,s,t⟩,_⟩:=kz ((a.2.B R dO ck).T cj.o);replace a:=Hq a;exact .q (g:=⟨rfl,a.o,Qa⟩);intro d w a hf hv hd hw;have gT:=Sv 128 hv 4;have gU:=Sv 130 hv 6;have hz:=fe.o;have cR:=ci.o;refine .h λK hK=>?_;go_simp;rw[Pn SE];exact hK ⟨(PL Value.string fa.o.symm),a,Qe⟩;intro d w a hf hv hd hw;have gV:=Sv 131 hv 7;have hz:=ff.o;refine .h λK hK=>?_;go_simp;rw[Pn SE];exact hK ⟨(PL Value.string fb.o.symm),a,Qe⟩;exact .f 11;intro d w a hf hv hd hw;have gW:=Sv 133 hv 9;exact .q (g:=⟨rfl,a,Qa⟩);intro d w a hf hv hd hw;have gX:=Sv 134 hv 10;clear hf hv hd hw;replace a:=Hq a;refine .h λK hK=>?_;go_simp;refine⟨rfl,?_⟩;refine Calls.M (Tryz.strconv_Itoa_small (j+1) SE w) ?_;rintro e w' ⟨he,hw⟩;subst hw;subst he;exact⟨_,rfl,hK ⟨rfl,a.o,Qe⟩⟩;intro d w a hf hv hd hw;have gY:=Sv 132 hv 8;have gZ:=Sv 135 hv 11;have hz:=fg.o;have dW:=bH.o;have dX:¬9223372036854775807<13+(Lib.decDigits (j+1)).length:=SE;refine .h λK hK=>?_;go_simp;rw[Pn SE];exact hK ⟨(PL Value.string fc.o.symm),a,Qe⟩;intro d w a hf hv hd hw;have ha:=Sv 124 hv 0;have hh:=Sv 136 hv 12;replace a:=Hq a;refine .h λK hK=>?_;go_simp;refine⟨rfl,?_⟩;refine Calls.M (ud cb U (.slice O C J) V _ _ _ a.o.1) ?_;rintro e w' ⟨he,hc,hg,_⟩;subst he;exact⟨_,rfl,hK ⟨rfl,⟨hc,a.o.2.T (.grown hg rfl)⟩,Qe⟩⟩;exact .v 137 13;intro Y ag co dY fh;have dZ:Y 14=.bool false:=dY 14 SF;have cp:=O0 co.1;have bo:=O0 co.2;have hj:=co.2.size;clear dY fh co;simp only[kK,Act.put,Px,PN,PK,dZ];clear dZ;have cq:m<ag:=SE;have fi:aX<ag:=SE;have aY:R<ag:=SE;have cX:=cp.o.lt;have cr:=O0 ((bo.o.B m ce aE).T bF.o);have fj:=O0 ((bo.o.B aX eW dx).T dP.o);have aZ:=O0 ((bo.o.B R dO ck).T cj.o);have ai:=O0 (show∀q,S q->q<ag/\q≠cb from λq c=>⟨SC ((aH.o q c).1),(aH.o q c).2⟩);have bI:=O0 (show∀q,S q->ag.heap[q]?=w.heap[q]? from λq c=>(bo.o.B q (aH.o q c).1 (aH.o q c).2).T (bE.o q c));have ea:=O0 (aQ.o.T bo.o);clear bF dP cj aH bE aQ bo dM;go_wp21;refine Ia (λx=>Below ag ag x) (mi [(·=.pointer aX),(·=.slice (some ⟨cg,ch,none⟩) ao ay),(·=n),(·=.slice (some ⟨cg,ch,none⟩) n ay),(·=.agg #[.slice (some ⟨cg,ch,none⟩) n ay]),Tr,(·=.pointer R),(·=tx x.name),(·=.tuple tg),(·=.tuple tg),(·=.agg #[Em,Nl,Nl]),(·=.bool false),Tr,Tr,(·=.bool false)]) [(5,5,λv _ w=>∃(b:Nat),v=.slice b 1 1/\Nw ag w b/\w.heap[b]?=some (.cells #[.slice (some ⟨cg,ch,none⟩) n ay] 118)),(12,12,λv _ w=>∃(o:Nat),v=.pointer o/\Nw ag w o/\∃c1 c2 c3:Value,w.heap[o]?=some (.cells #[c1,c2,c3] 125))] ((Below.refl _ _).drew) ⟨?_,?_,?_,?_,?_,?_,?_,?_,?_,?_,?_,?_,?_,?_,?_,trivial⟩ ?_;exact .f 12;intro d w a hf hv hd hw;exact .l 140 (hv 0 _ rfl rfl) (jU ((a.B aX fi).T fj.o) 0 _ rfl) ⟨rfl,a,Ra⟩;exact .f 13;intro d w a hf hv hd hw;have hk:=Sv 141 hv 1;have hl:=Sv 142 hv 2;exact .q (g:=⟨rfl,a,Ra⟩);intro d w a hf hv hd hw;have ho:=Sv 143 hv 3;exact .q (g:=⟨rfl,a,Ra⟩);intro d w a hf hv hd hw;have hq:=Sv 144 hv 4;have ar:=a.size;replace a:=Hq a;exact .q (g:=⟨trivial,a.o.alloc a.o.size _,Rc (λ_ _=>⟨_,rfl,⟨ar,SG⟩,O2 _ _⟩)<|Rd (λu _ ⟨o,e,f,c1,c2,c3,L⟩=>⟨o,e,⟨f.1,O1 f.2 ((NK.alloc ag w _)).1⟩,c1,c2,c3,(((NK.alloc ag w _)).2 o f).T L⟩)<|Qe⟩);exact .f 14;intro d w a hf hv hd hw;have ht:=Sv 146 hv 6;obtain⟨⟨p,s,t⟩,_⟩:=kz ((a.B R aY).T aZ.o);replace a:=Hq a;exact .q (g:=⟨rfl,a.o,Ra⟩);intro d w a hf hv hd hw;obtain⟨eb,fk,cY,cZ⟩:=hd _ (Mm 0 rfl) _ _ rfl rfl rfl;have hA:=Sl 145 fk;have hB:=Sv 147 hv 7;replace cZ:=Hq cZ;replace cY:=Hq cY;replace a:=Hq a;refine .h λK hK=>?_;go_simp;refine⟨rfl,?_⟩;refine Calls.M ((show Calls prog 144 #[.slice eb 1 1,tx x.name] w _ from pT (λq=>S q\/q=eb) w _ 1 1 [hs.take n] x.name (jT.solo (mr.ok _) cZ.o ⟨_,rfl,(du.o.take n SE).jP (lF.ok .u8) (λq c=>(a.o.B q (ai.o q c).1).T (bI.o q c))⟩) SE (λl bp=>by simp only[PH]at bp;subst bp;rw[Pw];have:=cP.o.1;omega) (λq c=>by rcases c with c|c;(have:=(ai.o q c).1;have:=a.o.size;omega);(subst c;exact cY.o.2)))) ?_;rintro e w' ⟨_,hp,hb⟩;have he:=hp eR.o;clear hp;subst he;exact⟨_,rfl,hK ⟨rfl,a.o.T (hb.M a.o.size),Rd (λu _ ⟨b,e,f,L⟩=>⟨b,e,⟨f.1,O1 f.2 ((NK.jQ (w0:=ag) hb)).1⟩,(((NK.jQ (w0:=ag) hb)).2 b f).T L⟩)<|Rd (λu _ ⟨o,e,f,c1,c2,c3,L⟩=>⟨o,e,⟨f.1,O1 f.2 ((NK.jQ (w0:=ag) hb)).1⟩,c1,c2,c3,(((NK.jQ (w0:=ag) hb)).2 o f).T L⟩)<|Qe⟩⟩;exact .v 148 8;exact .v 139 9;exact .v 139 9;intro d w a hf hv hd hw;have ar:=a.size;replace a:=Hq a;exact .q (g:=⟨trivial,a.o.alloc a.o.size _,Rd (λu _ ⟨b,e,f,L⟩=>⟨b,e,⟨f.1,O1 f.2 ((NK.alloc ag w _)).1⟩,(((NK.alloc ag w _)).2 b f).T L⟩)<|Rc (λ_ _=>⟨_,rfl,⟨ar,SG⟩,_,_,_,O2 _ _⟩)<|Qe⟩);intro d w a hf hv hd hw;obtain⟨o,fl,Q,c1,c2,c3,M⟩:=hd _ (Mm 1 rfl) _ _ rfl rfl rfl;have hC:=Sl 15 fl;have hD:=Sv 149 hv 10;replace M:=Hq M;obtain⟨⟨bU,bV,bW⟩,⟨bX,bY,bZ⟩⟩:=kz M;replace a:=Hq a;exact .q (g:=⟨trivial,jX (jX (jX (a.o) Q.1) Q.1) Q.1,Rd (λu _ ⟨fm,ap,f,au⟩=>⟨fm,ap,⟨f.1,by simp only[O6];exact f.2⟩,vY (vY (vY au ⟨_,_,_,M.o⟩) (mH ⟨_,_,_,M.o⟩ _ _ _ SF)) (mH (mH ⟨_,_,_,M.o⟩ _ _ _ SF) _ _ _ SF)⟩)<|Rd (λu _ ⟨aP,ap,f,au⟩=>⟨aP,ap,⟨f.1,by simp only[O6];exact f.2⟩,mH (mH (mH (au) _ _ _ SF) _ _ _ SF) _ _ _ SF⟩)<|Qe⟩);exact .v 150 11;intro Y Z av aS bA;have ba:Y 14=.bool false:=aS 14 SF;have A:=O0 av;have B:=av.size;clear aS bA av;simp only[kK,Act.put,Px,PN,PK,ba];clear ba;obtain⟨⟨p,s,t⟩,_⟩:=kz ((A.o.B R aY).T aZ.o);have fn:=O0 (cp.o.jP (A.o.B cb cX));go_wp21;apply(lA cb U (.slice O C J) V _ _ _ _ fn.o).M;rintro e ec ⟨rfl,rfl⟩;clear p s t;go_wp21;have ed:=O0 (show rb S w aB an.vars x.params sc O C J aC ac cv az af aA from⟨cy.o,bP.o,dK.o,eU.o,λq c=>(aD.o q c).1⟩);have ee:=O0 (show tD S w sc aL (some ⟨aM,aN,none⟩) aj c3 (tx T) (.slice aC ac cv) (.slice (some ⟨aF,aG,none⟩) ad ah)from⟨dj.o,ek,eV.o,an,eT.o▸eq.o,⟨_,_,_,_,_,_,by rw[en.o],bP.o,bQ.o⟩⟩);cases J2:(an.kS.take j).flatten.find? (λz=>z.name==x.name);case none=>
    have cs:=O0 J2;clear J2;refine Ia (λx=>Below Z Z x) (mi [(Pp m 2),(·=.slice (some ⟨aF,aG,none⟩) ad ah),(·=j),(·=.slice (some ⟨aF,aG,none⟩) j ah),(·=.pointer R),(·=tx x.name),(·=.tuple tg),(·=.tuple tg),(·=.agg #[Em,Nl,Nl]),(·=.bool false),Tr,Tr,(·=.bool false)]) [(10,10,λv _ w=>∃(o:Nat),v=.pointer o/\Nw Z w o/\∃c1 c2 c3:Value,w.heap[o]?=some (.cells #[c1,c2,c3] 125))] ((Below.refl _ _).drew) ⟨?_,?_,?_,?_,?_,?_,?_,?_,?_,?_,?_,?_,?_,trivial⟩ ?_;exact .f 4;intro d w a hf hv hd hw;have fo:=Sv 158 hv 0;obtain⟨⟨p,s,t⟩,_⟩:=kz ((((A.o.T (a.M B))).B m cq).T cr.o);replace a:=Hq a;exact .q (g:=⟨rfl,a.o,Ra⟩);exact .f 11;intro d w a hf hv hd hw;have fp:=Sv 159 hv 1;have fq:=Sv 160 hv 2;exact .q (g:=⟨rfl,a,Ra⟩);exact .f 14;intro d w a hf hv hd hw;have fr:=Sv 162 hv 4;obtain⟨⟨p,s,t⟩,_⟩:=kz ((((A.o.T (a.M B))).B R aY).T aZ.o);replace a:=Hq a;exact .q (g:=⟨rfl,a.o,Ra⟩);intro d w a hf hv hd hw;have fs:=Sv 161 hv 3;have ft:=Sv 163 hv 5;replace a:=Hq a;refine .h λK hK=>?_;go_simp;refine⟨rfl,?_⟩;refine Calls.M (pT S w _ j ah (an.kS.take j) x.name ((bQ.o.take j SE).jP (mr.ok _) (λq c=>(((A.o.T (a.o.M B))).B q (ai.o q c).1).T (bI.o q c))) SE (λl bp=>by have ef:=cG.o l (QK bp);omega) (λq c=>SD ((ai.o q c).1) (((A.o.T (a.o.M B))).size))) ?_;rintro e w' ⟨_,hp,hb⟩;have he:=hp cs.o;clear hp;subst he;exact⟨_,rfl,hK ⟨rfl,a.o.T (hb.M a.o.size),Rd (λu _ ⟨o,e,f,c1,c2,c3,L⟩=>⟨o,e,⟨f.1,O1 f.2 ((NK.jQ (w0:=Z) hb)).1⟩,c1,c2,c3,(((NK.jQ (w0:=Z) hb)).2 o f).T L⟩)<|Qe⟩⟩;exact .v 164 6;exact .v 157 7;exact .v 157 7;intro d w a hf hv hd hw;have ar:=a.size;replace a:=Hq a;exact .q (g:=⟨trivial,a.o.alloc a.o.size _,Rc (λ_ _=>⟨_,rfl,⟨ar,SG⟩,_,_,_,O2 _ _⟩)<|Qe⟩);intro d w a hf hv hd hw;obtain⟨o,ct,Q,c1,c2,c3,M⟩:=hd _ (Mm 0 rfl) _ _ rfl rfl rfl;have fu:=Sl 17 ct;have fv:=Sv 165 hv 8;replace M:=Hq M;obtain⟨⟨bU,bV,bW⟩,⟨bX,bY,bZ⟩⟩:=kz M;replace a:=Hq a;exact .q (g:=⟨trivial,jX (jX (jX (a.o) Q.1) Q.1) Q.1,Rd (λu _ ⟨aP,ap,f,au⟩=>⟨aP,ap,⟨f.1,by simp only[O6];exact f.2⟩,mH (mH (mH (au) _ _ _ SF) _ _ _ SF) _ _ _ SF⟩)<|Qe⟩);exact .v 166 9;intro Y P aT be bl;have ba:Y 12=.bool false:=be 12 SF;have am:=O0 ((A.o.T (aT.M B)));have fw:=am.o.size;have fx:w.heap.size<=P:=SC bD.o.size;clear be bl aT;simp only[kK,Act.put,Px,PN,PK,ba];clear ba;obtain⟨⟨p,s,t⟩,_⟩:=kz ((am.o.B R aY).T aZ.o);have da:R<P:=SE;have bJ:=O0 (cp.o.jP (am.o.B cb cX));go_wp21;apply(lA cb U (.slice O C J) V _ _ _ _ bJ.o).M;rintro e ec ⟨rfl,rfl⟩;clear p s t;go_wp21;have db:m<P:=SE;have dc:=O0 ((am.o.B m cq).T cr.o);have dd:=O0 ((am.o.B R aY).T aZ.o);have bf:=O0 (show∀q,S q->P.heap[q]?=w.heap[q]? from λq c=>(am.o.B q (ai.o q c).1).T (bI.o q c));have bg:=O0 (show∀q,S q->q<P from λq c=>SC ((ai.o q c).1));have dQ:IntKind.i64.wrap ((j:Int)+1)=((j+1:Nat):Int):=SI;obtain⟨bh,aW⟩:=Xq ((⟨#[32]⟩:ByteArray)++⟨(Lib.decDigits (j+1)).toArray⟩);have bK:bh.size<=1000:=(by rw[aW,Pr];show 1+(Lib.decDigits (j+1)).toArray.size<=1000;rw[Qj];have:=bH.o;omega);have de:=O0 aW;have df:=O0 bK;clear aW bK;refine Ri (λx=>tz cb U (.slice O C J) V (.slice (some ⟨aM,aN,none⟩) aj c3) x/\nj (λq=>q=cb) P x) (mi [(·=.pointer cb),(·=.agg #[tx T,.slice aC ac cv,.slice (some ⟨aF,aG,none⟩) ad ah]),(·=.agg (ka x.name az af aA aI aJ aK)),(·=j),(·=.int .i64 ((j+1:Nat):Int)),(·=.string ⟨(Lib.decDigits (j+1)).toArray⟩),(·=.string bh),(·=.tuple #[])]) [] (⟨bJ.o,(nj.refl _ _).drew⟩) ⟨?_,?_,?_,?_,?_,?_,?_,?_,trivial⟩ ?_;exact .f 0;intro d w a hf hv hd hw;have e4:=Sl 4 (hf 4 rfl);obtain⟨⟨p,s,t⟩,_⟩:=kz ((a.2.B m db aE).T dc.o);replace a:=Hq a;exact .q (g:=⟨rfl,a.o,Qa⟩);intro d w a hf hv hd hw;have fy:=Sl 14 (hf 14 rfl);obtain⟨⟨p,s,t⟩,_⟩:=kz ((a.2.B R da ck).T dd.o);replace a:=Hq a;exact .q (g:=⟨rfl,a.o,Qa⟩);exact .f 11;intro d w a hf hv hd hw;have fz:=Sv 185 hv 3;exact .q (g:=⟨rfl,a,Qa⟩);intro d w a hf hv hd hw;have fA:=Sv 186 hv 4;clear hf hv hd hw;replace a:=Hq a;refine .h λK hK=>?_;go_simp;refine⟨rfl,?_⟩;refine Calls.M (Tryz.strconv_Itoa_small (j+1) SE w) ?_;rintro e w' ⟨he,hw⟩;subst hw;subst he;exact⟨_,rfl,hK ⟨rfl,a.o,Qe⟩⟩;intro d w a hf hv hd hw;have fB:=Sv 187 hv 5;have dW:=bH.o;have dX:¬9223372036854775807<1+(Lib.decDigits (j+1)).length:=SE;exact .q (g:=⟨(PL Value.string de.o.symm),a,Qe⟩);intro d w a hf hv hd hw;have fC:=Sv 182 hv 0;have fD:=Sv 183 hv 1;have fE:=Sv 184 hv 2;have fF:=Sv 188 hv 6;replace a:=Hq a;refine .h λK hK=>?_;go_simp;refine⟨rfl,?_⟩;refine Calls.M (yh S w aB an.vars x.params sc O C J aC ac cv az af aA cb U V aL _ aj c3 T x.name _ ad ah aI aJ aK bh x.body (ed.o.jP (λq c=>(a.o.2.B q (bg.o q c) (ai.o q c).2).T (bf.o q c)) (SC a.o.2.size)) a.o.1 (λq c=>(aD.o q c).2) (ee.o.jP (λq c=>(a.o.2.B q (bg.o q c) (ai.o q c).2).T (bf.o q c))) (dL.o.jP (kp.ok .u8 Ds) (λq c=>(a.o.2.B q (bg.o q c) (ai.o q c).2).T (bf.o q c))) dI.o (SC dJ.o) SE (SC ci.o) df.o) ?_;rintro e w' ⟨he,hc,al⟩;subst he;exact⟨_,rfl,hK ⟨rfl,⟨hc,a.o.2.T al⟩,Qe⟩⟩;intro Y fG bi dg dh;have bL:=O0 bi.1;have bM:=O0 (ea.o.T ((nj.of am.o).T bi.2));clear dg dh bi;simp only[kK,Act.put,Px,PN,PK];go_wp21;go_roundw
    .first
     |exact⟨n+1,SE,SJ,bL.o,bM.o⟩
     |(repeat apply Exists.intro)
      refine⟨?_,rfl⟩;exact⟨n+1,SE,SJ,bL.o,bM.o⟩
    simp[intOf];omega
   case some y=>
    have cs:=O0 J2;clear J2;refine Ia (λx=>Below Z Z x) (mi [(Pp m 2),(·=.slice (some ⟨aF,aG,none⟩) ad ah),(·=j),(·=.slice (some ⟨aF,aG,none⟩) j ah),(·=.pointer R),(·=tx x.name),Tr,Tr,Tr,(·=.bool true),Tr,Tr,(·=.bool true)]) [(6,6,λv _ w=>∃(N:List UInt8),∃(D:Option Addr),∃(E:Nat),∃(F:Option Addr),∃(G I:Nat),v=.tuple #[.agg (ka N D af E F G I),true]/\True),(7,7,λv _ w=>∃(N:List UInt8),∃(D:Option Addr),∃(E:Nat),∃(F:Option Addr),∃(G I:Nat),v=.tuple #[.agg (ka N D af E F G I),true]/\True),(8,8,λv _ w=>∃(N:List UInt8),∃(D:Option Addr),∃(E:Nat),∃(F:Option Addr),∃(G I:Nat),v=.agg (ka N D af E F G I)/\True),(10,10,λv _ w=>∃(o:Nat),v=.pointer o/\Nw Z w o/\∃c1 c2 c3:Value,w.heap[o]?=some (.cells #[c1,c2,c3] 125)),(11,10,λv x w=>∃(o:Nat),∃(N:List UInt8),∃(D:Option Addr),∃(E:Nat),∃(F:Option Addr),∃(G I:Nat),x=.pointer o/\Nw Z w o/\w.heap[o]?=some (.cells (ka N D af E F G I) 125))] ((Below.refl _ _).drew) ⟨?_,?_,?_,?_,?_,?_,?_,?_,?_,?_,?_,?_,?_,trivial⟩ ?_;exact .f 4;intro d w a hf hv hd hw;have fo:=Sv 158 hv 0;obtain⟨⟨p,s,t⟩,_⟩:=kz ((((A.o.T (a.M B))).B m cq).T cr.o);replace a:=Hq a;exact .q (g:=⟨rfl,a.o,Ra⟩);exact .f 11;intro d w a hf hv hd hw;have fp:=Sv 159 hv 1;have fq:=Sv 160 hv 2;exact .q (g:=⟨rfl,a,Ra⟩);exact .f 14;intro d w a hf hv hd hw;have fr:=Sv 162 hv 4;obtain⟨⟨p,s,t⟩,_⟩:=kz ((((A.o.T (a.M B))).B R aY).T aZ.o);replace a:=Hq a;exact .q (g:=⟨rfl,a.o,Ra⟩);intro d w a hf hv hd hw;have fs:=Sv 161 hv 3;have ft:=Sv 163 hv 5;replace a:=Hq a;refine .h λK hK=>?_;go_simp;refine⟨rfl,?_⟩;refine Calls.M (pT S w _ j ah (an.kS.take j) x.name ((bQ.o.take j SE).jP (mr.ok _) (λq c=>(((A.o.T (a.o.M B))).B q (ai.o q c).1).T (bI.o q c))) SE (λl bp=>by have ef:=cG.o l (QK bp);omega) (λq c=>SD ((ai.o q c).1) (((A.o.T (a.o.M B))).size))) ?_;rintro e w' ⟨hp,_,hb⟩;obtain⟨hE,rfl,fH⟩:=hp y cs.o;obtain⟨D,nq,E,F,G,I,rfl,fI,_⟩:=fH;obtain rfl:nq=af:=(by have ef:=fI.len.1;have hG:=dK.o.len.1;have hH:=eS.o j y cs.o;omega);exact⟨_,rfl,hK ⟨trivial,a.o.T (hb.M a.o.size),Rc (λ_ _=>⟨_,D,E,F,G,I,rfl,trivial⟩)<|Rb<|Rb<|Rd (λu _ ⟨o,e,f,c1,c2,c3,L⟩=>⟨o,e,⟨f.1,O1 f.2 ((NK.jQ (w0:=Z) hb)).1⟩,c1,c2,c3,(((NK.jQ (w0:=Z) hb)).2 o f).T L⟩)<|Rb<|Qe⟩⟩;intro d w a hf hv hd hw;obtain⟨N,D,E,F,G,I,fJ,fK⟩:=hd _ (Mm 0 rfl) _ _ rfl rfl rfl;exact .p 164 fJ ⟨trivial,a,Rb<|Rc (λ_ _=>⟨N,D,E,F,G,I,rfl,fK⟩)<|Ra⟩;intro d w a hf hv hd hw;obtain⟨N,D,E,F,G,I,di,eg⟩:=hd _ (Mm 1 rfl) _ _ rfl rfl rfl;exact .p 157 di ⟨trivial,a,Rb<|Rb<|Rc (λ_ _=>⟨N,D,E,F,G,I,rfl,eg⟩)<|Ra⟩;intro d w a hf hv hd hw;obtain⟨N,D,E,F,G,I,di,eg⟩:=hd _ (Mm 1 rfl) _ _ rfl rfl rfl;exact .p 157 di ⟨rfl,a,Ra⟩;intro d w a hf hv hd hw;have ar:=a.size;replace a:=Hq a;exact .q (g:=⟨trivial,a.o.alloc a.o.size _,Rd (λu _ ⟨N,D,E,F,G,I,e,hr⟩=>⟨N,D,E,F,G,I,e,trivial⟩)<|Rd (λu _ ⟨N,D,E,F,G,I,e,hr⟩=>⟨N,D,E,F,G,I,e,trivial⟩)<|Rd (λu _ ⟨N,D,E,F,G,I,e,hr⟩=>⟨N,D,E,F,G,I,e,trivial⟩)<|Rc (λ_ _=>⟨_,rfl,⟨ar,SG⟩,_,_,_,O2 _ _⟩)<|Rb<|Qe⟩);intro d w a hf hv hd hw;obtain⟨o,ct,Q,c1,c2,c3,M⟩:=hd _ (Mm 3 rfl) _ _ rfl rfl rfl;have fu:=Sl 17 ct;obtain⟨N,D,E,F,G,I,fL,hI⟩:=hd _ (Mm 2 rfl) _ _ rfl rfl rfl;have fv:=Sl 165 fL;replace M:=Hq M;obtain⟨⟨bU,bV,bW⟩,⟨bX,bY,bZ⟩⟩:=kz M;replace a:=Hq a;exact .q (g:=⟨trivial,jX (jX (jX (a.o) Q.1) Q.1) Q.1,Rb<|Rb<|Rb<|Rd (λu _ ⟨aP,ap,f,au⟩=>⟨aP,ap,⟨f.1,by simp only[O6];exact f.2⟩,mH (mH (mH (au) _ _ _ SF) _ _ _ SF) _ _ _ SF⟩)<|Rc (λok L=>by(injection L with L;subst L;rw[Pn (show¬(10:Nat)=11 from SF)];exact⟨o,N,D,E,F,G,I,ct,⟨Q.1,by simp only[O6];exact Q.2⟩,jO (jO (jO M.o))⟩))<|Qe⟩);exact .v 166 9;intro Y P aT be bl;obtain⟨o,N,D,E,F,G,I,eh,fM,ei⟩:=(show(λ(v:Value) (x:Value) (w:World)=>∃(o:Nat),∃(N:List UInt8),∃(D:Option Addr),∃(E:Nat),∃(F:Option Addr),∃(G I:Nat),x=.pointer o/\Nw Z w o/\w.heap[o]?=some (.cells (ka N D af E F G I) 125)) (Y 11) (Y 10) P from bl _ (List.Mem.tail _ (List.Mem.tail _ (List.Mem.tail _ (List.Mem.tail _ (List.Mem.head _))))) (show(11:Nat)<13 from SF) (show(10:Nat)<13 from SF))
    have ej:Y 10=.pointer o:=eh;obtain⟨fN,fO,fP⟩:=(kz ei).1;have ba:Y 12=.bool true:=be 12 SF;have am:=O0 ((A.o.T (aT.M B)));have fw:=am.o.size;have fx:w.heap.size<=P:=SC bD.o.size;clear be bl aT eh fM ei;simp only[kK,Act.put,Px,PN,PK,ba,ej];clear ba ej;obtain⟨⟨p,s,t⟩,_⟩:=kz ((am.o.B R aY).T aZ.o);have da:R<P:=SE;have bJ:=O0 (cp.o.jP (am.o.B cb cX));go_wp21;apply(lA cb U (.slice O C J) V _ _ _ _ bJ.o).M;rintro e ec ⟨rfl,rfl⟩;clear p s t fN fO fP;go_wp21;have db:m<P:=SE;have dc:=O0 ((am.o.B m cq).T cr.o);have dd:=O0 ((am.o.B R aY).T aZ.o);have bf:=O0 (show∀q,S q->P.heap[q]?=w.heap[q]? from λq c=>(am.o.B q (ai.o q c).1).T (bI.o q c));have bg:=O0 (show∀q,S q->q<P from λq c=>SC ((ai.o q c).1));have dQ:IntKind.i64.wrap ((j:Int)+1)=((j+1:Nat):Int):=SI;obtain⟨bh,aW⟩:=Xq ((⟨#[32]⟩:ByteArray)++⟨(Lib.decDigits (j+1)).toArray⟩);have bK:bh.size<=1000:=(by rw[aW,Pr];show 1+(Lib.decDigits (j+1)).toArray.size<=1000;rw[Qj];have:=bH.o;omega);have de:=O0 aW;have df:=O0 bK;clear aW bK;refine Ri (λx=>tz cb U (.slice O C J) V (.slice (some ⟨aM,aN,none⟩) aj c3) x/\nj (λq=>q=cb) P x) (mi [(·=.pointer cb),(·=.agg #[tx T,.slice aC ac cv,.slice (some ⟨aF,aG,none⟩) ad ah]),(·=.agg (ka x.name az af aA aI aJ aK)),(·=j),(·=.int .i64 ((j+1:Nat):Int)),(·=.string ⟨(Lib.decDigits (j+1)).toArray⟩),(·=.string bh),(·=.tuple #[])]) [] (⟨bJ.o,(nj.refl _ _).drew⟩) ⟨?_,?_,?_,?_,?_,?_,?_,?_,trivial⟩ ?_;exact .f 0;intro d w a hf hv hd hw;have e4:=Sl 4 (hf 4 rfl);obtain⟨⟨p,s,t⟩,_⟩:=kz ((a.2.B m db aE).T dc.o);replace a:=Hq a;exact .q (g:=⟨rfl,a.o,Qa⟩);intro d w a hf hv hd hw;have fy:=Sl 14 (hf 14 rfl);obtain⟨⟨p,s,t⟩,_⟩:=kz ((a.2.B R da ck).T dd.o);replace a:=Hq a;exact .q (g:=⟨rfl,a.o,Qa⟩);exact .f 11;intro d w a hf hv hd hw;have fz:=Sv 185 hv 3;exact .q (g:=⟨rfl,a,Qa⟩);intro d w a hf hv hd hw;have fA:=Sv 186 hv 4;clear hf hv hd hw;replace a:=Hq a;refine .h λK hK=>?_;go_simp;refine⟨rfl,?_⟩;refine Calls.M (Tryz.strconv_Itoa_small (j+1) SE w) ?_;rintro e w' ⟨he,hw⟩;subst hw;subst he;exact⟨_,rfl,hK ⟨rfl,a.o,Qe⟩⟩;intro d w a hf hv hd hw;have fB:=Sv 187 hv 5;have dW:=bH.o;have dX:¬9223372036854775807<1+(Lib.decDigits (j+1)).length:=SE;exact .q (g:=⟨(PL Value.string de.o.symm),a,Qe⟩);intro d w a hf hv hd hw;have fC:=Sv 182 hv 0;have fD:=Sv 183 hv 1;have fE:=Sv 184 hv 2;have fF:=Sv 188 hv 6;replace a:=Hq a;refine .h λK hK=>?_;go_simp;refine⟨rfl,?_⟩;refine Calls.M (yh S w aB an.vars x.params sc O C J aC ac cv az af aA cb U V aL _ aj c3 T x.name _ ad ah aI aJ aK bh x.body (ed.o.jP (λq c=>(a.o.2.B q (bg.o q c) (ai.o q c).2).T (bf.o q c)) (SC a.o.2.size)) a.o.1 (λq c=>(aD.o q c).2) (ee.o.jP (λq c=>(a.o.2.B q (bg.o q c) (ai.o q c).2).T (bf.o q c))) (dL.o.jP (kp.ok .u8 Ds) (λq c=>(a.o.2.B q (bg.o q c) (ai.o q c).2).T (bf.o q c))) dI.o (SC dJ.o) SE (SC ci.o) df.o) ?_;rintro e w' ⟨he,hc,al⟩;subst he;exact⟨_,rfl,hK ⟨rfl,⟨hc,a.o.2.T al⟩,Qe⟩⟩;intro Y fG bi dg dh;have bL:=O0 bi.1;have bM:=O0 (ea.o.T ((nj.of am.o).T bi.2));clear dg dh bi;simp only[kK,Act.put,Px,PN,PK];go_wp21;go_roundw
    .first
     |exact⟨n+1,SE,SJ,bL.o,bM.o⟩
     |(repeat apply Exists.intro)
      refine⟨?_,rfl⟩;exact⟨n+1,SE,SJ,bL.o,bM.o⟩
    simp[intOf];omega
  obtain rfl:ao=n:=SE;go_wp21;go_roundw
  .exact⟨j+1,SE,SJ,aa.o,cQ.o.T ab.o⟩
  simp[intOf];omega
 obtain rfl:ad=j:=SE;go_wp21
 go_end0
 exact⟨rfl,aa.o,bD.o.T ab.o⟩
def CN(S w)(name:List UInt8)(V:Option Addr)(W c1:Nat)(O)(l c2:Nat)(f)(hv:jT (mr .u8) S w (.slice O l c2) f)(hS:∀q,S q->q<w)(aX:l<=4)(ad:∀hs∈f,hs.length<=100):
  Calls prog 54 #[.agg (ka name V W c1 O l c2)] w (lY (kL [] f) w):=by
 obtain⟨az,aA,hz0,aB,aC⟩:=Pu pO;have aD:=hv;have P:=O0 hS;have aE:=O0 ad;have ae:=O0 hv.len;have aF:=Ba w (.cells (ka name V W c1 O l c2) 112);clear hS ad
 go_enter func54,ntmps54
 go_wp21;generalize w.alloc (.cells (ka name V W c1 O l c2) 112)=w0 at*;go_loopw [3,11] (λv i wr=>∃k:Nat,k<=l/\i=k/\kf kh 9 1 (λ_=>False) wr w v (kL [] (f.take k))/\(kL [] (f.take k)).length<=100*k/\Below w w wr) (λ_ i _=>l-(intOf i).toNat)
 .exact⟨0,Pb _,rfl,kf.nil _ _ _ _ _ _,by simp[kL],aF⟩
 obtain⟨k,aY,rfl,d,aG,g⟩:=hrel;obtain⟨A,C,rfl,X,aH⟩:=d.form;have hz:=g.size;by_cases aZ:k<l
 .obtain⟨x,hx⟩:∃x,f[k]?=some x:=Gx (SC ae.o);obtain⟨ba,bb,r,rfl,bc,hr,n⟩:=(aD.jP (mr.ok _) (λq m=>g.B q (P.o q m))).kt (mr.ok _) k x hx;obtain⟨v,rfl,Y⟩:=hr;obtain⟨af,ag,rfl,aI⟩:=Y.form;have p:=n 0 _ rfl;rw[Pc,PG]at p;have aJ:=aE.o x (O5 hx);have ah:=O0 (uQ [] hx);obtain⟨u,Z⟩:=Xq (kL [] (f.take k));rw[<-Z]at d aG ah;obtain⟨s,aa⟩:=Xq x.length;rw[<-aa]at Y p aJ aI;have ai:=O0 aa;obtain⟨aj,ab⟩:=Xq u.length;have Q:=O0 ab;obtain⟨bd,be⟩:=mG k l;have ac:=Ba wr (mc af s ag);have ak:=(g.T (ac.M hz))
  have aK:=(d.jQ kh.ok ac)
  have aL:=(Y.jP (lF.ok .u8) (λq m=>ac.B q (SC (P.o q m))))
  rw[<-Z,<-ab];clear n hx aa Z ab;go_wp21;clear p;generalize wr.alloc (mc af s ag)=bf at*;go_loopw [3,18] (λv i wr=>∃(a:Nat),a<=s/\i=a/\kf kh 9 1 (λ_=>False) wr w v (lO u (x.take a))/\(lO u (x.take a)).length<=aj+a/\Below w w wr) (λ_ i _=>s-(intOf i).toNat)
  .exact⟨0,Pb _,rfl,by rw[Q.o];exact aK,by rw[Q.o];simp[lO],ak⟩
  obtain⟨a,bg,rfl,d,t,g⟩:=hrel;obtain⟨A,C,rfl,X,aH⟩:=d.form;have d:=d;have g:=g;have hz:=g.size;by_cases bh:a<s
  .obtain⟨y,hy⟩:∃y,x[a]?=some y:=Gx (SC ai.o);obtain⟨bi,bj,r,rfl,bk,hr,n⟩:=(aL.jP (lF.ok .u8) (λq m=>(g.B q (P.o q m)).T (ak.B q (P.o q m)).symm)).kt (lF.ok .u8) a y hy;obtain⟨v1,v2,rfl,aM,aN⟩:=hr;obtain⟨D,E,rfl,_⟩:=aM.form;obtain⟨F,cb,rfl,_⟩:=aN.form;have p:=n 0 _ rfl;have al:=n 1 _ rfl;have am:=n 2 _ rfl;rw[Pc]at p;have B:=O0 (uP u hy);obtain⟨j,an⟩:=Xq (lO u (x.take a));rw[<-an]at d t B X⊢;obtain⟨G,R⟩:=Xq j.length;have T:=O0 R;have bl:G<=aj+a:=SC t;have aO:G<=1000:=SD t Q.o;rw[<-R]at X⊢;obtain⟨I,ao⟩:=Xq y.params.length;obtain⟨J,ap⟩:=Xq y.body.length;obtain⟨c,aq⟩:=Xq y.name;rw[<-ao]at al;rw[<-ap]at am;rw[<-aq]at p B;obtain⟨bm,bn⟩:=mG a s;have ar:=Ba wr (.cells (ka c D I E F J cb) 125);have au:=(g.T (ar.M hz))
   have U:=(show kf kh 9 1 (λ_=>False) (wr.alloc (.cells (ka c D I E F J cb) 125)) w (.slice A G C) j by have h:=d.jQ kh.ok ar;rw[<-R]at h;exact h)
   have av:=O0 (O2 wr (.cells (ka c D I E F J cb) 125));have K:(wr.alloc (.cells (ka c D I E F J cb) 125)).heap.size=wr+1:=SG;have aP:=O0 K;clear n hy an R ao ap aq K d g t;go_upto_region 8 with fail;have K:=aP.o;obtain⟨bo,aw⟩:=Xq wr.heap.size;rw[<-aw]at av K⊢;generalize wr.alloc (.cells (ka c D I E F J cb) 125)=L at*;have aQ:w.heap.size<=L:=SE;have bp:=jN av.o 0;clear K aw p al am;have aR:=U.sl kh.ok;go_wp21;refine(oN (λb=>(False\/w<=b)/\b<L) L A G C j c aR aO (λq m=>m.2)).M ?_;rintro e w' ⟨rfl,rfl⟩;by_cases hm:c∈j
   .have hd:decide (c∈j)=true:=(by simpa using hm);rw[hd];have M:oC j c=j:=(by unfold oC;rw[PJ hm]);have N:=O0 M;clear M hd hm;go_wp21;go_roundw
    .exact⟨a+1,SE,SJ,by rw[B.o,N.o];exact U,by rw[B.o,N.o,<-T.o];omega,au⟩
    simp[intOf];omega
   have hd:decide (c∈j)=false:=(by simpa using hm);rw[hd];have M:oC j c=j++[c]:=(by unfold oC;rw[Pn hm]);have N:=O0 M;clear M hd hm;go_wp2_with (at_builtin;(refine kj rfl _ _ 78 rfl w.heap.size 9 az _ 1 16 underlying78 aA hz0 aB aC rfl kh.ok (λ_=>False) (.slice A G C) j rfl (U.jQ kh.ok (Ba _ _)) ⟨L,0,none⟩ [tx c] c rfl (lI L [tx c] 9) rfl ?c3 ?c4 ?c5 ?_));case c3=>rw[<-T.o];unfold maxLen;omega
   case c4=>rw[<-T.o];omega
   case c5=>simp;omega
   intro v1 bq aS aT _;have aU:=((au.alloc aQ (.cells #[tx c] 9)).grown aT SK (λz e=>(U.ge z e).1))
   go_wp21;go_roundw
   .exact⟨a+1,SE,SJ,by rw[B.o,N.o];exact aS,by rw[B.o,N.o,Pe,<-T.o];simp;omega,aU⟩
   simp[intOf];omega
  obtain rfl:a=s:=SE;have ax:lO u (x.take a)=kL [] (f.take (k+1)):=(by rw[Pq (SC ai.o)];exact ah.o.symm);rw[ax]at d t⊢;clear ax;go_wp21;go_roundw
  .exact⟨k+1,SE,SJ,d,by have:=t;have:=t;have:=Q.o;omega,g⟩
  simp[intOf];omega
 obtain rfl:k=l:=SE;go_wp21;go_ret;refine⟨_,rfl,?_,g⟩;have ay:=d;have aV:f.take k=f:=Pq (SC ae.o);have aW:kf kh 9 1 (λ_=>False) wr w (.slice A (kL [] (f.take k)).length C) (kL [] f):=(by rw[aV]at ay⊢;exact ay);exact aW
abbrev nF(a b c d e f g h i j):=(.cells #[tx a,.slice b c d,.slice e f g,.slice h i j,.string ⟨#[102,108,101,101,116]⟩,Em,Em,.int .i64 0] 215:Go.Obj)
def mN{l}(a:mm l=true):l.length<=12:=by unfold mm at a;simp only[Qh,QW]at a;omega
def Gz:xq Ds=519300:=SF
def KT(S w A)(m c:Nat)(xs)(h:jT kh S w (.slice A m c) xs)(hx:∀x∈xs,x.length<=2520)(hm:m<=5)(hS:∀q,S q->q<w):Calls prog 85 #[.slice A m c,.string ⟨#[44,32]⟩] w (pk 12700 w):=by
 have g:=h.len;rcases Qt m with rfl|u;exact join_none w A c;obtain⟨b,o,r,rfl,hb,_,_⟩:=h.kt kh.ok 0 xs[0] (Pg SE);have i:(Lib.join ((xs.map λx=>(⟨x.toArray⟩:ByteArray)).map (·.data.toList)) (⟨#[44,32]⟩:ByteArray).data.toList).length<=12700:=join_le _ (λx j=>by obtain⟨s,hs,rfl⟩:=Qo.1 j;obtain⟨a,hy,rfl⟩:=Qo.1 hs;exact hx a hy) SK
 have:=Tryz.strings_Join b o c (xs.map λx=>(⟨x.toArray⟩:ByteArray)) ⟨#[44,32]⟩ w (λf x k=>by obtain⟨a,hy,rfl⟩:∃a,xs[f]?=some a/\(⟨a.toArray⟩:ByteArray)=x:=(by simpa using k);obtain⟨v,y,l,d,_,hr,hc⟩:=h.kt kh.ok f a hy;injection d with d;injection d with n p;subst n;subst p;have t:l=[tx a]:=hr;subst t;have:=hc 0 _ rfl;rw[Pc,PG]at this;exact this) (hS b hb) SK SK SE
 rw[PY,g.1]at this;apply this.M;rintro e w' ⟨he,hb⟩;exact⟨_,he,by simpa[ByteArray.size]using i,hb⟩
def mK{w:World}{b:Nat}{a0 a c d:Value}{T:TypeId}(h:w.heap[b]?=some (.cells #[a0,a,c,d] T)):(w.cell? b=some a0/\w.cell? ⟨b,1,none⟩=some a/\w.cell? ⟨b,2,none⟩=some c/\w.cell? ⟨b,3,none⟩=some d)/\w.frozen? ⟨b,0,none⟩=false/\w.frozen? ⟨b,1,none⟩=false/\w.frozen? ⟨b,2,none⟩=false/\w.frozen? ⟨b,3,none⟩=false:=
 ⟨⟨jN h 0,jN h 1,jN h 2,jN h 3⟩,jS h 0,jS h 1,jS h 2,jS h 3⟩
def lZ{w:World}{b:Nat}{T:TypeId}{r m:List Value}(h:w.heap[b]?=some (.cells m.toArray T (0,0)))(a:m.length=r.length):(ky w b 0 r).heap[b]?=some (.cells r.toArray T (0,0)):=by have:=pU (r:=r) (m:=m) (t:=[]) (l:=[]) a (by simpa using h);simpa using this
def Ke(d:Nat):Prop:=∀(S:Nat->Prop) (w:World) (r:List Value) (x:Ex),ko .u8 d S w r x->(∀q,S q->q<w)->lT d x->Calls prog 151 #[.agg r.toArray] w (pZ (ko .u8 d) x w)
def xI(d:Nat)(K:Ke d):Ke (d+1):=by
 intro S w r x h hS hg;obtain⟨v,rfl,hv⟩:=h;obtain⟨A,c,rfl,hc⟩:=hv.form;have L:=hg.args.1;have M:=O0 hg.args.2;obtain⟨m,hm⟩:=Xq x.args.length;rw[<-hm]at hv L hc⊢;clear hm;have N:=K;have C:=O0 hS;have j:=(Ba w (la x.op x.name x.n A m c)|>.alloc SG kc)
 have k:=O0 ((Ph (w.alloc (la x.op x.name x.n A m c)) kc (r:=w.heap.size) SG).T (O2 _ _));have l:=O0 (O2 (w.alloc (la x.op x.name x.n A m c)) kc);have O:=O0 (show((w.alloc (la x.op x.name x.n A m c)).alloc kc).heap.size=w+2 from SG);have P:=(hv.jP (ko.ok .u8 d) (λq b=>j.B q (hS q b)))
 rw[O4]at l;clear hS
 go_enter func151,ntmps151
 go_upto_region 1 with fail;generalize(w.alloc (la x.op x.name x.n A m c)).alloc kc=D at*;have E:=O.o;obtain⟨a,n⟩:=Xq w.heap.size;rw[<-n]at k l j E⊢;have p:=O0 n;clear n;obtain⟨⟨s,t,u,y⟩,_⟩:=mK k.o;have Q:a<D:=SE
 go_wp21;refine(wR d S D A m c x.args P SE (λq b=>SD (C.o q b) p.o) (λF hy f r hb hr=>N S f r F hr (λq b=>by have:=C.o q b;have:=p.o;have:=hb.size;omega) (M.o F hy))).M ?_;rintro e f ⟨rfl,R,z⟩;have G:=(z.B a Q).T k.o;have B:=(z.B (a+1) SE).T l.o;clear s t u y;obtain⟨⟨s,t,u,y⟩,T,U,V,W⟩:=mK G;obtain⟨⟨X,Y,Z,aa⟩,ab,ac,ad,ae⟩:=mK B
 have af:a+1≠a:=SE
 have I:=(Po f ⟨a,3,none⟩ (.slice (some ⟨a+2,0,none⟩) m m) (a+1) af).T B;obtain⟨i,g⟩:=Xq (ky (f.setCell ⟨a,3,none⟩ (.slice (some ⟨a+2,0,none⟩) m m)) (a+1) 0 [.int .u8 x.op,tx x.name,x.n,.slice (some ⟨a+2,0,none⟩) m m]);have ag:=O0 (show i.heap[a+1]?=some (.cells #[.int .u8 x.op,tx x.name,x.n,.slice (some ⟨a+2,0,none⟩) m m] 196)from by rw[g];exact lZ (r:=[.int .u8 x.op,tx x.name,.int .i64 x.n,.slice (some ⟨a+2,0,none⟩) m m]) (m:=[_,_,_,_]) I rfl);have ah:=O0 (show∀q,q≠a->q≠a+1->i.heap[q]?=f.heap[q]? from λq ai aj=>by rw[g];exact(ml aj).T (Po _ _ _ _ ai));have ak:=O0 (show i.heap.size=f from by rw[g];exact lu.T (O6 _ _ _));have al:Below a w i:=by rw[g];exact kQ SE (jX (j.T (z.M SE)) (O9 _))
 have am:=O0 g;clear G B I g;go_wp21;change bodyPost _ _ _ _ _ (ky (f.setCell ⟨a,3,none⟩ (.slice (some ⟨a+2,0,none⟩) m m)) (a+1) 0 [.int .u8 x.op,tx x.name,x.n,.slice (some ⟨a+2,0,none⟩) m m]);rw[<-am.o];have an:=p.o;subst an;obtain⟨⟨ao,ap,aq,ar⟩,_⟩:=mK ag.o;clear s t u y T U V W X Y Z aa ab ac ad ae;refine Pa (v:=.agg #[.int .u8 x.op,tx x.name,x.n,.slice (some ⟨w+2,0,none⟩) m m]) ?_ rfl ⟨[.int .u8 x.op,tx x.name,x.n,.slice (some ⟨w+2,0,none⟩) m m],rfl,⟨_,rfl,?_⟩,al⟩;simp[results,Tryz.results151,go_sem,ao,ap,aq,ar];have J:=R;rw[E]at J;exact(J.jP (ko.ok .u8 d) (λq b=>ah.o q (SC b.1) (SC b.1))).M (ko.ok .u8 d) (λq b=>⟨SC b.1,by rw[ak.o];exact b.2⟩)
def tQ:∀d,Ke d
 |0=>λ_ _ _ _ h _ _=>h.elim
 |d+1=>xI d (tQ d)
def Kg(d:Nat):Prop:=∀(S:Nat->Prop) (w:World) (r:List Value) (x:St),kp .u8 d S w r x->(∀q,S q->q<w)->mV d x->Calls prog 101 #[.agg r.toArray] w (pZ (kp .u8 d) x w)
def Hf(x k:Int)(a:Nat)(c:a<=31)(d:bits BinOp.and IntKind.u64 (IntKind.u64.wrap k) 31=(a:Int))(w):Calls prog 192 #[.int .u32 x,k] w λe w'=>∃b:Int,e=.returned (.int .u32 b)/\w'=w:=by
 have f:IntKind.u64.wrap (32-(a:Int))=32-(a:Int):=SI
 go_enter func192,ntmps192
 go_wp2;go_ret;exact⟨_,rfl,rfl⟩
def nH(x k:Int)(a:k∈[7,18,17,19,6,11,25,2,13,22])(w):Calls prog 152 #[.int .u32 x,k] w λe w'=>∃b:Int,e=.returned (.int .u32 b)/\w'=w:=by
 have h:Kh k<=31/\bits BinOp.and IntKind.u64 (IntKind.u64.wrap (-k)) 31=(Kh k:Int):=by simp only[Pz,Ps,PU]at a;rcases a with rfl|rfl|rfl|rfl|rfl|rfl|rfl|rfl|rfl|rfl<;>decide+kernel
 have hb: -100<=k/\k<=100:=by simp only[Pz,Ps,PU]at a;omega
 have hw:IntKind.i64.wrap (-k)= -k:=SI
 have c:=(λw=>Hf x (-k) (Kh k) h.1 h.2 w)
 go_enter func152,ntmps152
 go_wp21;apply(c _).M;rintro e w' ⟨b,rfl,rfl⟩;go_wp21;go_ret;exact⟨_,rfl,rfl⟩
def my.byte{w}{b:Nat}(h:my w b){i:Nat}(hi:i<64):∃x:Int,w.cell? ⟨b,8+i,none⟩=some (.int .u8 x):=by obtain⟨d,a,_,_,c,_⟩:=h;obtain⟨x,hx⟩:=c i hi;exact⟨x,jU a _ _ hx⟩
def my.N6{w}{b:Nat}(h:my w b):∃t:Int,0<=t/\w.cell? ⟨b,72,none⟩=some (.int .u64 t)/\w.frozen? ⟨b,72,none⟩=false/\∀a:Int,0<=a->my (w.setCell ⟨b,72,none⟩ (.int .u64 a)) b:=by obtain⟨d,c,hs,e,f,t,g,i⟩:=h;exact⟨t,i,jU c _ _ g,jS c 72,λa hy=>⟨d.setIfInBounds 72 (.int .u64 a),jO c,by simpa using hs,e.set 72 a (.inr (.inl SE)),f.set 72 a (.inr (.inl SE)),a,by rw[QL SE],hy⟩⟩
def DY(w:World)(b:Nat)(e:Ending)(w':World):Prop:=e=.returned (.tuple #[])/\w.grownBy w' (some b)/\my w' b
def KU(w:World)(e:Ending)(w':World):Prop:=e=.returned (.pointer w)/\my w' w/\Below w w w'
def Hg(w):Calls prog 65 #[] w (KU w):=by
 go_enter func65,ntmps65
 go_wp2;go_ret;exact⟨rfl,my.of (O2 _ _),Ba _ _⟩
def Fa(w A)(n c m:Nat)(hm:m<=n)(hc:n<=c):∃a:Option Addr,(Instr.sliceAt 22 (.slice A n c) (some (.int .i64 (m:Int))) none none).run prog w=.ok (.slice a (n-m) (c-m)) w/\(m<n->a=A.map (·.add m)):=by
 have hu:prog.underlying 22=some (.slice (prog.elem 22)):=SH
 have hs:(sizeOf (prog.elem 22)).run prog w=.ok 1 w:=SH
 refine⟨if c=m then A else A.map (·.add (m*1)),?_,λh=>by rw[Pn SE,PG]⟩;rw[run_sliceAt_slice w _ _ _ _ _ hu,run_slice_l w _ A n c hu .i64 (m:Int) SE SE,hs,PZ];simp[sliced]
def my.LX{w}{b:Nat}(h:my w b):∃(t:Int) (kt:Nat),0<=t/\kt<64/\t % 64=(kt:Int)/\t.tmod 64=(kt:Int)/\w.cell? ⟨b,72,none⟩=some (.int .u64 t)/\w.frozen? ⟨b,72,none⟩=false/\∀a:Int,0<=a->my (w.setCell ⟨b,72,none⟩ (.int .u64 a)) b:=by obtain⟨t,c,d,e,f⟩:=h.N6;refine⟨t,(t % 64).toNat,c,SE,SE,?_,d,e,f⟩;rw[QC c];omega
def my.LY{w}{b:Nat}(h:my w b):∃t:Int,w.cell? ⟨b,72,none⟩=some (.int .u64 t)/\w.frozen? ⟨b,72,none⟩=false/\∀a:Int,0<=a->my (w.setCell ⟨b,72,none⟩ (.int .u64 a)) b:=by obtain⟨t,f,c,d,e⟩:=h.N6;exact⟨t,c,d,e⟩
def pA{a w w':World}{row:Option Nat}(h:a.grownBy w row)(k:w.grownBy w' row):a.grownBy w' row:=
 ⟨k.os.T h.os,k.tape.T h.tape,k.output.T h.output,Pj h.size k.size,λi hi hr=>(k.B i (O1 hi h.size) hr).T (h.B i hi hr)⟩
def oq{P:Program}{ops:Array Oper}{rest:List Oper}{op}{a:Act}{w:World}{Q:Exit->Act->World->Prop}(g:op.guard=none)(c)(x f:Operand)(i:op.op=.store c x f)
  (b:Nat) (d cells:Array Value) (T:TypeId) (hx:a.eval x=.pointer b) (hy:a.eval f=.agg cells) (hc:w.heap[b]?=some (.cells d T (0,0))) (j:d.size=cells.size)
  (hi:(P.info? c).map (·.size)=some cells.size) (l:cells.all (·.oneCell')=true)
  (h:∀w',w'.heap[b]?=some (.cells cells T (0,0))->w.grownBy w' (some b)->w'.heap.size=w->wpList P ops Q rest (a.put op.dst undef) w'):wpList P ops Q (op::rest) a w:=by
 have m:=run_storeVar_row (P:=P) w b T c d cells hc hi j l;refine Sw g λK hK=>?_;unfold Oper.wp execOp;simp only[i,hx,hy,Instr.storeAt,Instr.sureAddr,PQ,PR,PB,m];exact hK _ _ (h _ (Sz w b _ _ _ _ hc) ⟨rfl,rfl,rfl,S5,λk p n=>setRow_other _ _ _ _ (λe=>n (by rw[e]))⟩ S5)
def wh{w:World}{b:Nat}{a:Array Value}{T:TypeId}{c:Nat×Nat}(h:w.heap[b]?=some (.cells a T c)):w.rangeAt b 0 a.toList:=λd v hv=>by rw[Pk];exact jU h d v (by simpa using hv)
def ow.ints{a}{n:Nat}(h:oh .u8 a 0 n)(hs:a.size=n):∀u∈a.toList,∃x:Int,u=.int .u8 x:=by
 intro u hu;obtain⟨i,hi,rfl⟩:=RG hu;have b:i<n:=by simpa[hs]using hi
 obtain⟨x,hx⟩:=h i b;rw[Pk]at hx;exact⟨x,by simpa using(O3.1 hx).2⟩
def vx:(prog.info? 103).map (·.size)=some 32:=SH
def GD(w:World)(e:Ending)(w':World):Prop:=(∃a:Array Value,e=.returned (.agg a)/\a.size=32/\oh .u8 a 0 32)/\Below w w w'
def wT(w)(fn:Func)(tmps)(b:Nat)(a)(hr:fn.results=#[ResultVar.cell 2 103])(c:tmps[2]?=some (.pointer b))(hx:w.heap[b]?=some (.cells a 103 (0,0)))(hs:a.size=32):(results fn tmps).run prog w=.ok (.agg a) w:=by have h:=run_loadVar_mid (P:=prog) w b 0 103 a.toList _ (wh hx) underlying103 rfl (by rw[Qz,hs];exact vx);simp[results,hr,c,h,asAddr]
def Jm(S:Nat->Prop)(f:Fl)(w:World)(e:Ending)(w':World):Prop:=∃a:Nat,e=.returned (.tuple #[.pointer a,.int .i64 0])/\Kj (λq=>S q\/w<=q) w' a f/\Below w w w'/\w<=a
def pB(a:Nat)(f w)(h:pc w a f):Calls prog 40 #[.pointer a] w λe w'=>e=.returned (.int .i64 (f.jZ.length:Int))/\w'=w:=by
 obtain⟨b,S,c,d,g,i,j,k,l,m,d3,pb,n,c1,c2,c3,c4,hf,_⟩:=h;have hn:=hf.jZ.len.1;rw[hn]
 go_enter func40,ntmps40
 go_wp2;go_ret;exact⟨rfl,rfl⟩
def nu.tF(a b:Ev):Bool:=a.tick==b.tick&&a.comp==b.comp&&a.kind==b.kind&&a.peer==b.peer&&a.n==b.n&&a.copy==b.copy&&a.hd==b.hd&&a.d==b.d&&a.args==b.args
def nu.yo(a b:Ev):tF a b=true↔a=b:=by obtain⟨c,d,e,f,g,i,j,k,l⟩:=a;obtain⟨m,n,p,q,r,s,t,u,v⟩:=b;simp[tF,and_assoc]
def nu.tH(m:Nm)(e:Ev):Bool:=sj m e.comp e.hd&&decide (e.args.length<=4)
def Jn(nm:List UInt8)(w:World)(e:Ending)(w':World):Prop:=(∃(a:Option Addr) (b c:Nat) (d:Option Addr) (f g:Nat),e=.returned (.agg #[tx nm,.slice a b c,.slice d f g]))/\Below w w w'
def Jo(nm:List UInt8)(w:World)(e:Ending)(w':World):Prop:=(∃(b:Bool),e=.returned (.agg #[tx nm,b]))/\Below w w w'
def AK{S w}:∀(l:List (List UInt8)),kJ (kh S w) (l.map λx=>[tx x]) l
 |[]=>trivial
 |_::l=>⟨rfl,AK l⟩
def BJ{f}(hg:mh f){i:Nat}{x}(hx:(kV f)[i]?=some x):x.length<=200:=by
 unfold kV at hx;rw[PX]at hx;cases hc:f.jZ[i]? with
 |none=>rw[hc]at hx;cases hx
 |some c=>rw[hc]at hx;injection hx with hx;have a:=hg.jZ c (O5 hc);have b:=qN c.kS [] (λhs d=>SC ((a.kS hs d).1));have e:=a.v2;rw[<-hx];show(kL [] c.kS).length<=200;simp at b;omega
abbrev FR(e:Ev)(A:Option Addr)(m c:Nat):Array Value:=#[.int .i64 e.tick,.int .i64 e.comp,.int .u8 (e.kind:Nat),.int .i64 e.peer,.int .i64 e.n,.int .i64 e.copy,.int .i64 e.hd,.int .i64 e.d,.slice A m c]
def qy(x:Nat)(w):Calls prog 179 #[.int .u8 (x:Nat)] w λe w'=>e=.returned (.bool false)/\w'=w:=by
 go_enter func179,ntmps179
 go_wp2;go_ret;exact⟨SG,rfl⟩
def Hj(x a:Nat)(w):Calls prog 129 #[.int .u8 (x:Nat),.int .u8 (a:Nat)] w λe w'=>e=.returned (.int .i64 (Lib.compareInt (x:Int) (a:Int)))/\w'=w:=by
 unfold Lib.compareInt;by_cases c:(x:Int)<(a:Int)
 .rw[PJ c]
  go_enter func129,ntmps129
  go_wp21;apply(qy x w).M;rintro e b ⟨rfl,rfl⟩;go_wp21;apply(qy a b).M;rintro e d ⟨rfl,rfl⟩;go_wp21;go_ret;exact⟨rfl,rfl⟩
 by_cases f:(a:Int)<(x:Int)
 .rw[Pn c,PJ f]
  go_enter func129,ntmps129
  go_wp21;apply(qy x w).M;rintro e b ⟨rfl,rfl⟩;go_wp21;apply(qy a b).M;rintro e d ⟨rfl,rfl⟩;go_wp21;go_ret;exact⟨rfl,rfl⟩
 rw[Pn c,Pn f]
 go_enter func129,ntmps129
 go_wp21;apply(qy x w).M;rintro e b ⟨rfl,rfl⟩;go_wp21;apply(qy a b).M;rintro e d ⟨rfl,rfl⟩;go_wp21;go_ret;exact⟨rfl,rfl⟩
def vZ{l x a}(h:a∈oC l x):a∈l\/a=x:=by unfold oC at h;split at h;exact .inl h;rcases QV.1 h with h|h;exact .inl h;exact .inr (by simpa using h)
def wV{P:List UInt8->Prop}:∀{hs:List Hd} {l:List (List UInt8)},(∀x∈l,P x)->(∀h∈hs,P h.name)->∀a∈lO l hs,P a
 |[],l,hl,_,a,hy=>hl a hy
 |h::hs,l,hl,hh,a,hy=>by have b:a∈lO (oC l h.name) hs:=hy;refine wV (l:=oC l h.name) (λx hx=>?_) (λz hz=>hh z (QY _ hz)) a b;rcases vZ hx with hx|rfl;exact hl x hx;exact hh h (Qs ..)
def wW{P:List UInt8->Prop}:∀{vs:List (List Hd)} {l:List (List UInt8)},(∀x∈l,P x)->(∀hs∈vs,∀h∈hs,P h.name)->∀a∈kL l vs,P a
 |[],l,hl,_,a,hy=>hl a hy
 |hs::vs,l,hl,hh,a,hy=>by have b:a∈kL (lO l hs) vs:=hy;exact wW (l:=lO l hs) (λx hx=>wV hl (hh hs (Qs ..)) x hx) (λz hz=>hh z (QY _ hz)) a b
def Mj(d:Int):Lib.formatBool (d==1)=if d=1 then [116,114,117,101]else [102,97,108,115,101]:=by by_cases h:d=1;subst h;rfl;rw[Pn h,O8.2 h];rfl
def BU.drew{w:World}{a b:Nat}{c d:Array Value}{x:World}(h:BU w a b c d x):BU w a b c d {x with drawn:=x.drawn+1}:=h.jQ (Below.refl _ _).drew
def pG.sk(T:kG)(x:List UInt8)(p:Nat):Option Nat:=if nD T p=x then some (p+1)else none
def pG.oF{a:Type}(T:kG)(b:Nat->Option (a×Nat)):Nat->Nat->Option (List a×Nat)
 |0,_=>none
 |k+1,p=>match b p with
  |none=>none
  |some (x,q)=>if nD T q=[44]then
    match oF T b k (q+1)with
    |some (xs,r)=>some (x::xs,r)
    |none=>none
   else if nD T q=[41]then some ([x],q+1)else none
def pG.sH{a:Type}(T:kG)(b:Nat->Option (a×Nat))(p:Nat):Option (List a×Nat):=
 if nD T p=[40]then(if nD T (p+1)=[41]then some ([],p+2)else oF T b T.length (p+1))else none
def pG.uI(T:kG)(p:Nat):Option (St×Nat):=
 if nD T p=[115,101,110,100]then do
  let (a,p)<-uV T (p+1)
  let p<-sk T [46] p
  let (h,p)<-uV T p
  let (xs,p)<-sH T (pM T) p
  let p<-sk T [59] p
  some (.mk 6 a h xs [] [],p)
 else none
def pG.qb(T:kG):Nat->Nat->Option (List St×Nat)
 |0,_=>none
 |k+1,p=>if nD T p=[125]then some ([],p+1)else
  match uI T p with
  |none=>none
  |some (s,q)=>match qb T k q with
   |some (l,r)=>some (s::l,r)
   |none=>none
def pG.ue(T:kG)(p:Nat):Option (List St×Nat):=if nD T p=[123]then qb T (T.length+1) (p+1)else none
def pG.rv(T:kG)(p:Nat):Option (Hd×Nat):=do
 let (a,p)<-uV T p
 let (l,p)<-sH T (uV T) p
 let (b,p)<-ue T p
 some (⟨a,l,b⟩,p)
def pG.GH{a:Type}(T:kG)(b:Nat->Option (a×Nat))(p:Nat)(rest:List a)(q:Nat):Prop:=
 (nD T p=[44]/\∃k,oF T b k (p+1)=some (rest,q))\/(nD T p=[41]/\rest=[]/\q=p+1)
def pG.qO{e:Type}{T:kG}{b:Nat->Option (e×Nat)}:∀{k p q:Nat} {xs:List e},oF T b k p=some (xs,q)->∃x a rest,b p=some (x,a)/\xs=x::rest/\GH T b a rest q
 |0,_,_,_,h=>by cases h
 |k+1,p,q,xs,h=>by
  unfold oF at h;cases hi:b p with
  |none=>rw[hi]at h;cases h
  |some y=>
   obtain⟨x,a⟩:=y;rw[hi]at h;simp only at h;by_cases hc:nD T a=[44];rw[if_pos hc]at h;cases hr:oF T b k (a+1)with
   |none=>rw[hr]at h;cases h
   |some z=>obtain⟨zs,r⟩:=z;rw[hr]at h;injection h with h;injection h with c d;subst c d;exact⟨x,a,_,rfl,rfl,.inl ⟨hc,k,hr⟩⟩
   rw[if_neg hc]at h;by_cases hp:nD T a=[41];rw[if_pos hp]at h;injection h with h;injection h with c d;subst c d;exact⟨x,a,[],rfl,rfl,.inr ⟨hp,rfl,rfl⟩⟩;rw[if_neg hp]at h;cases h
def yy{w:World}{lo e size g n b:Nat}{xs:List Value}(h:w.ownsRow lo e size (.slice g n b) n xs):∃t:List Value,w.heap[g]?=some (.cells (xs++t).toArray e (0,0))/\n<=b/\b<=maxLen/\(xs++t).length=b*size/\lo<=g:=by
 rcases h.2 with⟨a,_⟩|⟨l,m,d,a,hb,hg,f,i,j,c⟩
 cases a;injection a with a _ k;injection a with a;injection a with a;subst a k;refine⟨d.toList.drop (n*size),?_,f,i,?_,hb⟩;rw[<-c,QD];exact hg;rw[<-c,QD];simpa using j
def D3{w}{lo e size g n a:Nat}{R m r}(h:w.ownsRow lo e size (.slice g (n+1) a) (n+1) (R++m))(hR:R.length=n*size)(hm:m.length=size)(hr:r.length=size):(ky w g (n*size) r).ownsRow lo e size (.slice g (n+1) a) (n+1) (R++r):=by
 obtain⟨t,d,f,i,j,k⟩:=yy h;have hp:=pU (b:=g) (T:=e) (t:=t) (r:=r) (m:=m) (l:=R) (w:=w) SE (by rw[<-Py];exact d);rw[hR]at hp;have c:(R++r).length=(n+1)*size:=by rw[Pe,hR,hr,Q1];omega
 refine⟨c,.inr ⟨g,a,_,rfl,k,hp,f,i,?_,?_⟩⟩;rw[<-j];simp only[Qj,Pe];omega;simp only[<-Py];rw[<-c];exact List.take_left
def Ht{w:World}{lo e size g n b:Nat}{xs:List Value}(h:w.ownsRow lo e size (.slice g n b) n xs)(i:Nat)(u:Value)(hi:xs[i]?=some u):w.cell? ⟨g,i,none⟩=some u/\w.frozen? ⟨g,i,none⟩=false:=by obtain⟨t,a,_⟩:=yy h;refine⟨jU a i u ?_,jS a i⟩;rw[Qk,PW (Pm.1 hi).1];exact hi
def zJ(x:Ex):List Value:=[.int .u8 x.op,tx x.name,.int .i64 x.n,Nl]
def sT(l:List Ex):List Value:=l.flatMap zJ
def AY(l):(sT l).length=l.length*4:=by
 induction l with
 |nil=>rfl
 |cons x l a=>simp only[sT,List.flatMap_cons,Pe,PA]at*;rw[a];simp[zJ];omega
def yz(l x):sT (l++[x])=sT l++zJ x:=by simp[sT]
def lz.jP{T:kG}{V:PV}{w w'}{pb pos:Nat}(h:lz T V w pb pos)(hs:w.heap.size<=w'.heap.size)(c:∀q,q<V.lo->w'.heap[q]?=w.heap[q]?):lz T V w' pb pos:=by obtain⟨a,e,f,hb,hc,hn,d,g⟩:=h.kt;refine⟨⟨a,e,f,(c pb h.low.1).T hb,hc,hn,d,λk x hx=>?_⟩,h.small,h.low.1,Pj h.low.2 hs⟩;obtain⟨i,j,l⟩:=g k x hx;have b:=c a d;exact⟨(Cb a _ b).T i,(Cb a _ b).T j,(Cb a _ b).T l⟩
structure pH(a b:World)(p q:Nat):Prop where
 os:b.os=a.os
 tape:b.tape=a.tape
 output:b.output=a.output
 size:a.heap.size<=b
 B:∀z,z<a.heap.size->z≠p->z≠q->b.heap[z]?=a.heap[z]?
def pH.refl(a)(p q:Nat):pH a a p q:=⟨rfl,rfl,rfl,O9 _,λ_ _ _ _=>rfl⟩
def pH.grown{a b c}{p q:Nat}(h:pH a b p q)(hg:b.grownBy c (some p)):pH a c p q:=
 ⟨hg.os.T h.os,hg.tape.T h.tape,hg.output.T h.output,Pj h.size hg.size,λz hz d f=>(hg.B z (O1 hz h.size) (λe=>d (by injection e))).T (h.B z hz d f)⟩
def pH.vQ{a b c}{p q:Nat}(h:pH a b p q)(hg:b.grownBy c (some q)):pH a c p q:=
 ⟨hg.os.T h.os,hg.tape.T h.tape,hg.output.T h.output,Pj h.size hg.size,λz hz f d=>(hg.B z (O1 hz h.size) (λe=>d (by injection e))).T (h.B z hz f d)⟩
def pH.kX{a b c}{p q:Nat}{r}(h:pH a b p q)(hg:b.grownBy c r)(hr:∀z,r=some z->a<=z):pH a c p q:=
 ⟨hg.os.T h.os,hg.tape.T h.tape,hg.output.T h.output,Pj h.size hg.size,λz hz d f=>(hg.B z (O1 hz h.size) (λe=>SC (hr z e.symm))).T (h.B z hz d f)⟩
structure FT(wA:World)(pb bp sb:Nat)(k:Int)(nm hd:List UInt8)(xs:List Ex)(v:Value)(w:World):Prop where
 bx:w.heap[bp]?=some (.cells #[.pointer pb] 132)
 ex:w.heap[sb]?=some (.cells #[.int .u8 k,tx nm,tx hd,v,Nl,Nl] 191)
 own:w.ownsRow wA 196 4 v xs.length (sT xs)
 g:pH wA w pb sb
 lt:pb<bp/\pb<sb/\bp<wA/\sb<wA/\bp≠sb/\wA.heap.size<=w
def B7(a:World)(pb bp b:Nat)(k:Int)(nm hd:List UInt8)(xs:List Ex)(w:World):Prop:=∃v,FT a pb bp b k nm hd xs v w
def oG{w:World}{lo e size n:Nat}{v:Value}{xs:List Value}(h:w.ownsRow lo e size v n xs)(z:Nat)(hz:v.ownBlock=some z):lo<=z/\z<w:=by
 rcases h.2 with⟨rfl,_⟩|⟨g,a,b,rfl,hb,hg,_⟩
 cases hz;simp only[Value.ownBlock,Rv]at hz;subst hz;exact⟨hb,(O3.1 hg).1⟩
def AZ{w w':World}{lo e size n q:Nat}{v:Value}{xs:List Value}(h:w.ownsRow lo e size v n xs)(hg:w.grownBy w' (some q))(a:q<lo):w'.ownsRow lo e size v n xs:=by
 refine h.kept hg ?_;cases hv:v.ownBlock with
 |none=>exact .inl rfl
 |some z=>exact .inr λe=>by injection e with e;have:=(oG h z hv).1;omega
def FT.jP{b}{pb bp a:Nat}{k:Int}{nm hd xs v w w'}(h:FT b pb bp a k nm hd xs v w)(hg:w.grownBy w' (some pb)):FT b pb bp a k nm hd xs v w':=by obtain⟨c,d,f,g,i,j⟩:=h.lt;exact⟨(hg.B bp SE (λe=>by injection e;omega)).T h.bx,(hg.B a SE (λe=>by injection e;omega)).T h.ex,AZ h.own hg SE,h.g.grown hg,c,d,f,g,i,Pj j hg.size⟩
def B7.jP{a}{pb bp b:Nat}{k:Int}{nm hd xs w w'}(h:B7 a pb bp b k nm hd xs w)(hg:w.grownBy w' (some pb)):B7 a pb bp b k nm hd xs w':=by obtain⟨v,h⟩:=h;exact⟨v,h.jP hg⟩
def D4{a b:World}{r:Option Nat}(h:a.grownBy b r):a.grownBy b.drew r:=⟨h.os,h.tape,h.output,h.size,h.B⟩
def xO(w:World):w.grownBy w.drew none:=D4 (kP w none)
def oW(g:Nat):∀(r:List Value) (o:Nat) (w:World),w.grownBy (ky w g o r) (some g)
 |[],_,w=>kP w _
 |u::r,o,w=>jR (jY w g o u) (oW g r (o+1) _)
def vK(T:kG)(V:PV)(a:World)(pb q bp b:Nat)(k:Int)(nm hd:List UInt8)(xs:List Ex)(W:World):Prop:=lz T V W pb q/\B7 a pb bp b k nm hd xs W
def Jv{T:kG}{V:PV}{b C d}{pb q bp a g n i:Nat}{k:Int}{nm hd xs v}{z x:Ex}(K:V.lo<=a)(A:lz T V C pb q)(c:FT b pb bp a k nm hd xs v C)(hg:C.grownBy d v.ownBlock)(hn:xs.length=n)
  (t:d.ownsRow b 196 4 (.slice g (n+1) i) (n+1) (sT xs++zJ z)):
  vK T V b pb q bp a k nm hd (xs++[x]) ((ky d g (n*4) (zJ x)).setCell ⟨a,3,none⟩ (.slice g (n+1) i))/\vK T V b pb q bp a k nm hd (xs++[x]) (ky (d.setCell ⟨a,3,none⟩ (.slice g (n+1) i)) g (n*4) (zJ x)):=by
 obtain⟨B,D,l,y,m,L⟩:=c.lt;have M:b<=g:=(oG t g rfl).1;have E:=hg.size;have j:∀q,q<b.heap.size->d.heap[q]?=C.heap[q]?:=λq p=>hg.B q SE (λe=>SC ((oG c.own q e.symm).1));have r:∀(w:World) (u:Value),(w.setCell ⟨a,3,none⟩ u).heap.size=w:=λw u=>O6 _ _ _;have s:∀(w:World) (u:Value) (q:Nat),q≠a->(w.setCell ⟨a,3,none⟩ u).heap[q]?=w.heap[q]?:=λw u q p=>Pd _ _ _ _ p;have f:∀(w:World) (q:Nat),q≠g->(ky w g (n*4) (zJ x)).heap[q]?=w.heap[q]?:=λw q p=>ml p;have F:=(j a y).T c.ex;have hR:(sT xs).length=n*4:=by rw[AY,hn]
 have G:(xs++[x]).length=n+1:=by rw[Pe,hn];rfl
 have I:pH b d pb a:=c.g.kX hg (λz e=>(oG c.own z e).1);refine⟨⟨A.jP (by rw[r,lu];exact E) (λq J=>by rw[s _ _ _ SE,f _ _ SE];exact j q SE),.slice g (n+1) i,⟨?_,?_,?_,?_,B,D,l,y,m,?_⟩⟩,⟨A.jP (by rw[lu,r];exact E) (λq J=>by rw[f _ _ SE,s _ _ _ SE];exact j q SE),.slice g (n+1) i,⟨?_,?_,?_,?_,B,D,l,y,m,?_⟩⟩⟩
 .rw[s _ _ _ m,f _ _ SE];exact(j bp l).T c.bx
 .exact jO ((f _ _ SE).T F)
 .rw[G,yz];exact(D3 t hR rfl rfl).kept (jY _ _ _ _) (.inr (λe=>by simp[Value.ownBlock]at e;omega))
 .exact(I.kX (oW _ _ _ _) (λz e=>by injection e with e;omega)).vQ (jY _ _ _ _)
 .rw[r,lu];omega
 .rw[f _ _ SE,s _ _ _ m];exact(j bp l).T c.bx
 .rw[f _ _ SE];exact jO F
 .rw[G,yz];exact D3 (t.kept (jY _ _ _ _) (.inr (λe=>by simp[Value.ownBlock]at e;omega))) hR rfl rfl
 .exact(I.vQ (jY _ _ _ _)).kX (oW _ _ _ _) (λz e=>by injection e with e;omega)
 .rw[lu,r];omega
def D5(w)(g o:Nat)(a b c d):ky w g o [a,b,c,d]=(((w.setCell ⟨g,o,none⟩ a).setCell ⟨g,o+1,none⟩ b).setCell ⟨g,o+2,none⟩ c).setCell ⟨g,o+3,none⟩ d:=rfl
def GI{T:kG}{V:PV}{b C c}{pb q bp a g n d:Nat}{k:Int}{nm hd xs v}{z x:Ex}(e:V.lo<=a)(f:lz T V C pb q)(i:FT b pb bp a k nm hd xs v C)(hg:C.grownBy c v.ownBlock)(hn:xs.length=n)
  (j:c.ownsRow b 196 4 (.slice g (n+1) d) (n+1) (sT xs++zJ z)):
  vK T V b pb q bp a k nm hd (xs++[x]) (((((c.setCell ⟨g,n*4,none⟩ (.int .u8 x.op)).setCell ⟨g,n*4+1,none⟩ (tx x.name)).setCell ⟨g,n*4+2,none⟩ (.int .i64 x.n)).setCell ⟨g,n*4+3,none⟩ (Nl)).setCell ⟨a,3,none⟩ (.slice g (n+1) d))/\vK T V b pb q bp a k nm hd (xs++[x]) (((((c.setCell ⟨a,3,none⟩ (.slice g (n+1) d)).setCell ⟨g,n*4,none⟩ (.int .u8 x.op)).setCell ⟨g,n*4+1,none⟩ (tx x.name)).setCell ⟨g,n*4+2,none⟩ (.int .i64 x.n)).setCell ⟨g,n*4+3,none⟩ (Nl)):=by
 have h:=Jv (x:=x) e f i hg hn j;unfold zJ at h;rw[D5,D5]at h;exact h
def JZ{d C c}{pb bp a:Nat}{k:Int}{nm hd xs v}(b:FT d pb bp a k nm hd xs v C)(hg:C.grownBy c v.ownBlock):c.heap[a]?=some (.cells #[.int .u8 k,tx nm,tx hd,v,Nl,Nl] 191):=by obtain⟨f,g,i,j,l,m⟩:=b.lt;exact(hg.B a SE (λe=>SC ((oG b.own a e.symm).1))).T b.ex
def GJ{w:World}{lo g n a:Nat}{xs:List Ex}(hn:xs.length=n){z:Ex}(b:w.ownsRow lo 196 4 (.slice g (n+1) a) (n+1) (sT xs++zJ z)):(w.cell? ⟨g,n*4,none⟩=some (.int .u8 z.op)/\w.cell? ⟨g,n*4+1,none⟩=some (tx z.name)/\w.cell? ⟨g,n*4+2,none⟩=some (.int .i64 z.n)/\w.cell? ⟨g,n*4+3,none⟩=some (Nl))/\w.frozen? ⟨g,n*4,none⟩=false/\w.frozen? ⟨g,n*4+1,none⟩=false/\w.frozen? ⟨g,n*4+2,none⟩=false/\w.frozen? ⟨g,n*4+3,none⟩=false:=by
 have hR:(sT xs).length=n*4:=by rw[AY,hn]
 have hc:∀i u,(zJ z)[i]?=some u->w.cell? ⟨g,n*4+i,none⟩=some u/\w.frozen? ⟨g,n*4+i,none⟩=false:=λi u hu=>Ht b _ _ (by rw[P1 SE,hR,Nat.add_sub_cancel_left];exact hu);exact⟨⟨(hc 0 _ rfl).1,(hc 1 _ rfl).1,(hc 2 _ rfl).1,(hc 3 _ rfl).1⟩,(hc 0 _ rfl).2,(hc 1 _ rfl).2,(hc 2 _ rfl).2,(hc 3 _ rfl).2⟩
def MH:Ex:=.mk 0 [] 0 []
def K3:(prog.info? 196).map (λi=>(i.zero,i.size,i.bytes))=some (some (.agg kl),4,56):=SH
def pG.yA{c:Type}{P:c->Prop}{T:kG}{d:Nat->Option (c×Nat)}(h:∀p q x,d p=some (x,q)->P x):∀{k p q:Nat} {xs:List c},oF T d k p=some (xs,q)->∀x∈xs,P x
 |0,_,_,_,a=>by cases a
 |k+1,p,q,xs,a=>by
  obtain⟨x,e,rest,hi,rfl,g⟩:=qO a;unfold oF at a;rw[hi]at a;simp only at a;intro f hy;rcases List.mem_cons.1 hy with rfl|hy;exact h _ _ _ hi;split at a;cases hr:oF T d k (e+1)with
  |none=>rw[hr]at a;cases a
  |some z=>obtain⟨zs,r⟩:=z;rw[hr]at a;injection a with a;injection a with b i;injection b with _ b;subst b;exact yA h hr f hy
  split at a;injection a with a;injection a with b _;injection b with _ b;subst b;cases hy;cases a
def pG.Hw{b:Type}{P:b->Prop}{T:kG}{c:Nat->Option (b×Nat)}(h:∀p q x,c p=some (x,q)->P x){p q:Nat}{xs:List b}(a:sH T c p=some (xs,q)):∀x∈xs,P x:=by unfold sH at a;split at a;split at a;injection a with a;injection a with d _;subst d;intro x hx;cases hx;exact yA h a;cases a
def pG.yB{c:Type}{T:kG}{b:Nat->Option (c×Nat)}(h:∀p q x,b p=some (x,q)->p<q):∀{k p q:Nat} {xs:List c},oF T b k p=some (xs,q)->p<q
 |0,_,_,_,a=>by cases a
 |k+1,p,q,xs,a=>by
  obtain⟨x,e,rest,hi,rfl,f⟩:=qO a;have g:=h _ _ _ hi;unfold oF at a;rw[hi]at a;simp only at a;split at a;cases hr:oF T b k (e+1)with
  |none=>rw[hr]at a;cases a
  |some z=>obtain⟨zs,r⟩:=z;rw[hr]at a;injection a with a;injection a with _ d;subst d;have:=yB h hr;omega
  split at a;injection a with a;injection a with _ d;omega;cases a
def pG.wu{b:Type}{T:kG}{c:Nat->Option (b×Nat)}(h:∀p q x,c p=some (x,q)->p<q){p q:Nat}{xs:List b}(a:sH T c p=some (xs,q)):p<q:=by unfold sH at a;split at a;split at a;injection a with a;injection a with _ d;omega;have:=yB h a;omega;cases a
def K4{w}{lo:Nat}{v xs}(h:w.ownsRow lo 196 4 v xs.length (sT xs))(a:∀x∈xs,x.args=[]):jT (ko .u8 De) (λb=>lo<=b/\b<w.heap.size) w v xs:=by
 have hr:∀(S:Nat->Prop) (l:List Ex),(∀x∈l,x.args=[])->kJ (ko .u8 De S w) (l.map zJ) l:=λS l=>by
  induction l with
  |nil=>exact λ_=>trivial
  |cons x l c=>exact λhx=>⟨⟨_,rfl,by rw[hx x SG];exact jT.nil _ _ _⟩,c λd hy=>hx d (by simp[hy])⟩
 have hf:(xs.map zJ).flatten=sT xs:=rfl;rcases h.2 with⟨rfl,e⟩|⟨g,f,m,rfl,hb,hg,i,j,n,k⟩
 obtain rfl:=PT e;exact jT.nil _ _ _;refine⟨_,f,xs.map zJ,rfl,i,by unfold maxLen at j;omega,λ_=>⟨g,0,rfl,⟨hb,(O3.1 hg).1⟩,λp u hu=>?_⟩,hr _ xs a⟩;rw[hf,<-k,Ql]at hu;split at hu;rw[Pk];simp only[World.cell?,hg];simpa using hu;cases hu
def pG.Di{T:kG}{k p q:Nat}{l:List kT.St}(h:qb T k p=some (l,q)):(nD T p=[125]/\l=[]/\q=p+1)\/(nD T p≠[125]/\∃s a r k',uI T p=some (s,a)/\l=s::r/\qb T k' a=some (r,q)):=by
 cases k with
 |zero=>cases h
 |succ k=>
  unfold qb at h;split at h
  rename_i b
  injection h with h;injection h with c d;exact .inl ⟨b,c.symm,d.symm⟩
  rename_i b
  cases hs:uI T p with
  |none=>rw[hs]at h;cases h
  |some y=>
   obtain⟨s,a⟩:=y;rw[hs]at h;simp only at h;cases hr:qb T k a with
   |none=>rw[hr]at h;cases h
   |some z=>obtain⟨r,e⟩:=z;rw[hr]at h;injection h with h;injection h with c d;subst c d;exact .inr ⟨b,s,a,r,k,rfl,rfl,hr⟩
def kZ.kX{T:kG}{V:PV}{w b c}{pb p:Nat}{r}(h:kZ T V w pb p b)(f:V.lo<=w)(hg:b.grownBy c r)(hr:∀z,r=some z->w<=z):kZ T V w pb p c:=
 ⟨h.1.jP hg.size (λq a=>hg.B q (SC h.2.size) (λe=>SC (hr q e.symm))),⟨hg.os.T h.2.os,hg.tape.T h.2.tape,hg.output.T h.2.output,Pj h.2.size hg.size,λq a d=>(hg.B q (O1 a h.2.size) (λe=>SC (hr q e.symm))).T (h.2.B q a d)⟩⟩
def K6:(prog.info? 191).map (λi=>(i.zero,i.size,i.bytes))=some (some (.agg mx),6,112):=SH
structure LG(wA:World)(pb bp sb:Nat)(nm:List UInt8)(ps:List (List UInt8))(v:Value)(w:World):Prop where
 bx:w.heap[bp]?=some (.cells #[.pointer pb] 132)
 ex:w.heap[sb]?=some (.cells #[tx nm,v,Nl] 125)
 own:w.ownsRow wA 9 1 v ps.length (ps.map tx)
 g:pH wA w pb sb
 lt:pb<bp/\pb<sb/\bp<wA/\sb<wA/\bp≠sb/\wA.heap.size<=w
def Iq(a:World)(pb bp b:Nat)(nm:List UInt8)(c:List (List UInt8))(w:World):Prop:=∃v,LG a pb bp b nm c v w
def LG.jP{b}{pb bp a:Nat}{nm c v w w'}(h:LG b pb bp a nm c v w)(hg:w.grownBy w' (some pb)):LG b pb bp a nm c v w':=by obtain⟨d,f,g,i,j,k⟩:=h.lt;exact⟨(hg.B bp SE (λe=>by injection e;omega)).T h.bx,(hg.B a SE (λe=>by injection e;omega)).T h.ex,AZ h.own hg SE,h.g.grown hg,d,f,g,i,j,Pj k hg.size⟩
def K8:(prog.info? 9).map (λi=>(i.zero,i.size,i.bytes))=some (some (Em),1,16):=SH
def K9{T:kG}{V:PV}{c C b}{pb q bp a g n f:Nat}{nm i v}{x:List UInt8}(D:V.lo<=a)(t:lz T V C pb q)(d:LG c pb bp a nm i v C)(hg:C.grownBy b v.ownBlock)(hn:i.length=n)
  (k:b.ownsRow c 9 1 (.slice g (n+1) f) (n+1) (i.map tx++[tx x])):
  lz T V (b.setCell ⟨a,1,none⟩ (.slice g (n+1) f)) pb q/\Iq c pb bp a nm (i++[x]) (b.setCell ⟨a,1,none⟩ (.slice g (n+1) f)):=by
 obtain⟨u,w,l,m,p,E⟩:=d.lt;have F:c<=g:=(oG k g rfl).1;have y:=hg.size;have j:∀q,q<c.heap.size->b.heap[q]?=C.heap[q]?:=λq r=>hg.B q SE (λe=>SC ((oG d.own q e.symm).1));have s:∀(q:Nat),q≠a->(b.setCell ⟨a,1,none⟩ (.slice g (n+1) f)).heap[q]?=b.heap[q]?:=λq r=>Pd _ _ _ _ r;have A:(i++[x]).length=n+1:=by rw[Pe,hn];rfl
 have B:pH c b pb a:=d.g.kX hg (λz e=>(oG d.own z e).1);refine⟨t.jP (by rw[O6];exact y) (λq G=>by rw[s _ SE];exact j q SE),.slice g (n+1) f,⟨?_,?_,?_,?_,u,w,l,m,p,?_⟩⟩
 .rw[s _ p];exact(j bp l).T d.bx
 .exact jO ((j a m).T d.ex)
 .rw[A,List.map_append];exact k.kept (jY _ _ _ _) (.inr (λe=>by simp[Value.ownBlock]at e;omega))
 .exact B.vQ (jY _ _ _ _)
 .rw[O6];omega
def La:(prog.info? 125).map (λi=>(i.zero,i.size,i.bytes))=some (some (.agg #[Em,Nl,Nl]),3,64):=SH
def Jw{w}{lo:Nat}{v xs}(h:w.ownsRow lo 9 1 v xs.length (xs.map tx)):jT kh (λb=>lo<=b/\b<w.heap.size) w v xs:=by
 have hr:∀(S:Nat->Prop) (l:List (List UInt8)),kJ (kh S w) (l.map λx=>[tx x]) l:=λS l=>by
  induction l with
  |nil=>trivial
  |cons x l a=>exact⟨rfl,a⟩
 have c:∀l:List (List UInt8),(l.map λx=>[tx x]).flatten=l.map tx:=λl=>by
  induction l with
  |nil=>rfl
  |cons x l a=>rw[PF,P7,a];rfl
 have hf:=c xs;rcases h.2 with⟨rfl,d⟩|⟨g,e,k,rfl,hb,hg,f,i,m,j⟩
 obtain rfl:=PT d;exact jT.nil _ _ _;refine⟨_,e,xs.map λx=>[tx x],rfl,f,by unfold maxLen at i;omega,λ_=>⟨g,0,rfl,⟨hb,(O3.1 hg).1⟩,λn u hu=>?_⟩,hr _ xs⟩;rw[hf,<-j,Ql]at hu;split at hu;rw[Pk];simp only[World.cell?,hg];simpa using hu;cases hu
def vR{a b c:World}{r:Option Nat}{z:Nat}(h:a.grownBy b r)(hg:b.grownBy c (some z))(hz:a<=z):a.grownBy c r:=
 ⟨hg.os.T h.os,hg.tape.T h.tape,hg.output.T h.output,Pj h.size hg.size,λq d f=>(hg.B q (O1 d h.size) (λe=>by injection e with e;omega)).T (h.B q d f)⟩
def qF{P:Program}{g:Type}{ops:Array Oper}{o}{a:Act}{K:Act->World->Prop}{Q:Exit->Act->World->Prop}{m:Prop}(w:World)(p:o.guard=none)(s x:Operand)(t:TypeId)
  (q:o.op=.call {callee:=.builtin .append,args:=#[s,x],argTypes:=#[t,t]})
  (lo:Nat) (e:TypeId) (i:TypeInfo) (z:Value) (size j:Nat) (y:P.underlying t=some (.slice e)) (hi:P.info? e=some i) (hz:i.zero=some z)
  (B:i.size=size) (C:i.bytes=j) (D:z.cells.size=size)
  {R:Rel g} (ok:kF R size) (c:Nat->Prop) (v:Value) (xs:List g) (hs:a.eval s=v) (E:kf R e size c w lo v xs)
  (A:Addr) (r:List Value) (k:g) (hx:a.eval x=.slice (some A) 1 1) (F:∀(l:Nat) (u:Value),r[l]?=some u->w.cell? (A.add l)=some u)
  (hR:R (λb=>c b/\b<w/\some b≠v.ownBlock) w r k)
  (G:xs.length+1<=maxLen) (I:(xs.length+1)*j<=140737488355328) (J:lo<=w) (n:Nat) (hn:xs.length=n)
  (h:∀d f w',kf R e size c w' lo (.slice d (n+1) f) (xs++[k])->w.grownBy w' v.ownBlock->K (a.put o.dst (.slice d (n+1) f)) w'):
  if Region.wanted o (yielded ops a.tmps)=true then Oper.wp P o a w K Q else m:=by
 have hw:Region.wanted o (yielded ops a.tmps)=true:=by simp[Region.wanted,p]
 rw[PJ hw];subst hn;obtain⟨d,f,w',L,M,_,N,_⟩:=kD (P:=P) (w:=w) lo t o.type e i z size j y hi hz B C D ok c v xs E A r k F hR G I J;unfold Oper.wp execOp;simp only[q,resolve,invoke,builtin,PQ,PR,PB,PI,PF,PS,hs,hx,L];exact h d f w' M N
structure Fr(lo pb:Nat)(w w':World):Prop where
 os:w'.os=w.os
 tape:w'.tape=w.tape
 output:w'.output=w.output
 size:w.heap.size<=w'
 B:∀q,q<lo->q≠pb->w'.heap[q]?=w.heap[q]?
def Fr.refl(lo pb:Nat)(w):Fr lo pb w w:=⟨rfl,rfl,rfl,O9 _,λ_ _ _=>rfl⟩
def Fr.T{lo pb:Nat}{a b c}(h:Fr lo pb a b)(k:Fr lo pb b c):Fr lo pb a c:=⟨k.os.T h.os,k.tape.T h.tape,k.output.T h.output,Pj h.size k.size,λq d e=>(k.B q d e).T (h.B q d e)⟩
def Ld:(prog.info? 107).map (λi=>(i.zero,i.size,i.bytes))=some (some (.agg #[Em,false]),2,24):=SH
def lz.tree{T:kG}{V:PV}{w}{pb pos:Nat}(h:lz T V w pb pos):∃(A:Value) (a:Int),w.heap[pb]?=some (.cells #[A,pos,a,V.v1,V.v2,V.v3,V.v4,.int .i64 0,.int .i64 0] 139):=by obtain⟨b,c,a,hb,_⟩:=h.kt;exact⟨_,a,hb⟩
def lz.put{T:kG}{V V':PV}{w}{pb pos:Nat}(h:lz T V w pb pos)(i:Nat)(u)(c:V'.lo=V.lo)(he:∀A b,(#[A,.int .i64 (pos:Int),.int .i64 b,V.v1,V.v2,V.v3,V.v4,.int .i64 0,.int .i64 0]:Array Value).setIfInBounds i u=#[A,.int .i64 (pos:Int),.int .i64 b,V'.v1,V'.v2,V'.v3,V'.v4,.int .i64 0,.int .i64 0]):lz T V' (w.setCell ⟨pb,i,none⟩ u) pb pos:=by obtain⟨a,g,b,hb,hc,hn,f,j⟩:=h.kt;refine⟨⟨a,g,b,by rw[<-he];exact jO hb,hc,hn,by rw[c];exact f,λk x hx=>?_⟩,h.small,by rw[c];exact h.low.1,by rw[c,O6];exact h.low.2⟩;obtain⟨l,m,n⟩:=j k x hx;have d:=(jY w pb i u).B a (O1 f h.low.2) (λe=>hn (by injection e));exact⟨(Cb a _ d).T l,(Cb a _ d).T m,(Cb a _ d).T n⟩
def Le(T:kG)(V:PV)(pb q lo:Nat)(b:List Fg)(w w':World):Prop:=∃a,lz T {V with v2:=a} w' pb q/\kf lM 107 2 (λ_=>False) w' lo a b/\Fr lo pb w w'
def Lf:(prog.info? 112).map (λi=>(i.zero,i.size,i.bytes))=some (some (.agg #[Em,Nl,Nl]),3,64):=SH
def Lg(T:kG)(V:PV)(pb q lo:Nat)(c:List Co)(w w':World):Prop:=∃a,lz T {V with v4:=a} w' pb q/\kf (lv .u8) 112 3 (λb=>lo<=b) w' lo a c/\Fr lo pb w w'
def Nz(T:kG)(V:PV)(pb:Nat)(f:Fl)(w w':World):Prop:=∃v2 v4,lz T {V with v1:=tx f.name,v2:=v2,v4:=v4} w' pb T.length/\jT lM (λb=>V.lo<=b/\b<w') w' v2 f.km/\jT (lv .u8) (λb=>V.lo<=b/\b<w') w' v4 f.jZ/\f.lB=[]/\Fr V.lo pb w w'
def J1(T:kG)(V:PV)(pb bp lo:Nat)(b:World)(pre:List Fg)(p:Nat)(w:World):Prop:=w.cell? bp=some (.pointer pb)/\∃a,lz T {V with v2:=a} w pb p/\kf lM 107 2 (λ_=>False) w lo a pre/\Fr lo pb b w
def J3(T:kG)(V:PV)(pb bp lo:Nat)(c:World)(pre:List Co)(p:Nat)(w:World):Prop:=w.cell? bp=some (.pointer pb)/\∃a,lz T {V with v4:=a} w pb p/\kf (lv .u8) 112 3 (λb=>lo<=b) w lo a pre/\Fr lo pb c w
def pG.tree:Fl:=⟨[102],[⟨[115,108,111,119],false⟩],[],[⟨[102,114,111,110,116],[],[[⟨[104],[],[.mk 6 [98,97,99,107] [103,101,116] [.mk 1 [] 1 [],.mk 1 [] 7 []] [] []]⟩]]⟩,⟨[98,97,99,107],[],[[⟨[103,101,116],[[105],[106]],[]⟩]]⟩]⟩
def zU(n:Int):Ex:=.mk 1 [] n []
def qu:St:=.mk 6 [98,97,99,107] [103,101,116] [zU 1,zU 7] [] []
def JL:Hd:=⟨[104],[],[qu]⟩
def oH:Co:=⟨[102,114,111,110,116],[],[[JL]]⟩
def vz:tree=⟨[102],[⟨[115,108,111,119],false⟩],[],[oH,pN]⟩:=rfl
def yH{n:Int}(h:0<=n):lT De (zU n):=lg (d:=5) (k:=1) rfl SE rfl rfl (λh=>by simp at h) (λ_=>rfl) (λ_=>h) (λh=>absurd rfl h) (by simp[zU,Ex.args])
def HA{sc}{n:Int}(h:0<=n)(a:n<=8):kY sc De (zU n):=.inl ⟨rfl,rfl,h,a,rfl⟩
def lits:∀e∈qu.kA,e=zU 1\/e=zU 7:=by simp[qu,St.kA]
def Dq:mV Ds qu:=by refine⟨⟨_,SF,rfl,λ_=>SM,λh=>by simp at h,λ_=>SM,λh=>by simp at h,SF,SF,λ_=>rfl,λ_=>rfl⟩,λe he=>?_,⟨SF,SF⟩,by simp[qu,St.th],by simp[qu,St.el]⟩;rcases lits e he with rfl|rfl<;>exact yH SE
def uz:mh tree:=by
 have a:uH JL:=⟨SM,SF,by simp[JL],SF,by simp only[JL,PH];rintro s rfl;exact Dq,SF⟩
 have hb:uH JM:=⟨SM,SF,SM,SF,by simp[JM],SF⟩
 have b:zY oH:=⟨SM,SF,by simp[oH],SF,SF,by simp only[oH,PH];rintro l rfl;exact⟨SF,by simp only[PH];rintro h rfl;exact a⟩⟩
 have cb:zY pN:=⟨SM,SF,by simp[pN],SF,SF,by simp only[pN,PH];rintro l rfl;exact⟨SF,by simp only[PH];rintro h rfl;exact hb⟩⟩
 rw[vz];refine⟨SM,SF,SM,SF,SG,SF,SF,?_⟩;simp only[Pz,Ps,PU];rintro c (rfl|rfl);exact b;exact cb
def HB(k:Nat):FM ⟨0,0,0,0,[],k⟩ [oH,pN] Ds qu:=by refine .inr ⟨SF,rfl,rfl,rfl,⟨pN,JM,rfl,SF,SF,rfl,rfl⟩,SF,λe he=>?_⟩;rcases lits e he with rfl|rfl<;>exact HA SE SE
def Jz:∀c∈tree.jZ,J5 c:=by
 rw[vz];have hs:Ed Ds qu:=⟨λe he=>by rcases lits e he with rfl|rfl<;>exact⟨λ_=>SF,by simp[zU,Ex.args]⟩,by simp[qu,St.th],by simp[qu,St.el]⟩
 simp only[Pz,Ps,PU];rintro c (rfl|rfl);refine⟨by simp[oH],?_⟩;simp only[oH,PH];rintro l rfl;simp only[PH];rintro h rfl;simp only[JL,PH];rintro s rfl;exact hs;refine⟨by simp[pN],?_⟩;simp only[pN,PH];rintro l rfl;simp only[PH];rintro h rfl;simp[JM]
structure kT.N8(sc:Sc):Prop where
 ints:sc.ints<=3
 params:sc.params<=2
 km:sc.km<=2
 len:sc.nr.length<=3
 hs:∀l∈sc.nr,l.length<=3
 nr:∀l∈sc.nr,∀a∈l,a<=2
def kT.nI{d:Nat}{s}{k:Nat}{x}(c:s.kind=(k:Int))(l:1<=k)(hx:forms[k]?=some x)(hn:(x.1=true->mm s.name=true)/\(x.1=false->s.name=[]))(a:(x.2.1=true->mm s.hd=true)/\(x.2.1=false->s.hd=[]))(b:x.2.2.1<=s.kA.length/\s.kA.length<=x.2.2.2.1)(f:x.2.2.2.2.1=false->s.th=[])(he:x.2.2.2.2.2=false->s.el=[])
  (hg:∀e∈s.kA,lT De e) (g:s.th.length<=12/\s.el.length<=12) (i:∀x∈s.th,mV d x) (j:∀x∈s.el,mV d x):mV (d+1) s:=
 ⟨⟨x,SE,by rw[c];simpa using hx,hn.1,hn.2,a.1,a.2,b.1,b.2,f,he⟩,hg,g,i,j⟩
def kT.mf.Gj{sc}(lD:N8 sc):∀{d:Nat} {l:List St},(∀s∈l,mf sc d s)->ku d l<=12->∀s∈l,mV d s
 |0,_,h,_,s,hs=>(h s hs).elim
 |d+1,l,h0,hc,s,hs=>by
  have h:=h0 s hs;have u:=h.sub;have M:=(pw hc).2 s hs;have gt:∀x∈s.th,mV d x:=mf.Gj lD u.1 SE;have ge:∀x∈s.el,mV d x:=mf.Gj lD u.2 SE;have lt:=zh u.1;have le:=zh u.2;have n:∀e,kY sc De e->lT De e:=λe he=>kY.lf ⟨lD.ints,lD.params⟩ he;have v:∀e,mC sc De e->lT De e:=λe he=>mC.lf ⟨lD.ints,lD.params⟩ lD.km he;have m:s.th.length<=12/\s.el.length<=12:=⟨SE,SE⟩
  have A:∀{k:Nat},k<3->mm (nm 120 k)=true:=λD=>mF letters.1 SE;have B:∀{k:Nat},k<3->mm (nm 104 k)=true:=λD=>mF letters.2.2.2.2.2 SE;have C:mm (nm 116 0)=true:=mF letters.2.2.1 SE;have E:mm (nm 98 0)=true:=mF letters.2.2.2.1 SE;have hi:=lD.ints;rcases h with⟨k,c,f,e3,e,hx,h⟩|⟨k,_,g,c,f,e3,a,b,hx,i,hb⟩|⟨k,_,g,c,f,e3,a,hx,i⟩|⟨k,g,c,⟨a,hx,i⟩,_,_⟩|⟨k,g,c,e3,⟨a,hx,i⟩,_⟩|⟨k,f,e3,⟨t,q,F,a,p,r,hn,w,y⟩,hx⟩|⟨k,g,f,e3,⟨q,F,a,p,r,w,y⟩,hx⟩|⟨k,g,c,f,⟨a,b,hx,i,hb⟩,_⟩|⟨k,c,f,⟨G,I,g⟩,⟨a,hx,i⟩,_⟩|⟨k,g,c,f,e3,hx⟩
  refine nI (k:=1) k SE rfl ⟨λ_=>?_,λh=>by simp at h⟩ ⟨λh=>by simp at h,λ_=>c⟩ (by rw[hx];simp) (λ_=>f) (λ_=>e3) (λj hy=>?_) m gt ge;rcases h with⟨G,I,z,_⟩|⟨z,_⟩
  rw[z];exact A SE;rw[z];exact E;rw[hx]at hy;simp at hy;subst hy;rcases h with⟨_,_,_,h⟩|⟨_,h⟩
  exact n _ h;exact v _ h;exact nI (k:=2) k SE rfl ⟨λ_=>by rw[g];exact C,λh=>by simp at h⟩ ⟨λh=>by simp at h,λ_=>c⟩ (by rw[hx];simp) (λ_=>f) (λ_=>e3) (λj hy=>by rw[hx]at hy;simp at hy;rcases hy with rfl|rfl;exact n _ i;exact n _ hb) m gt ge;exact nI (k:=3) k SE rfl ⟨λ_=>by rw[g];exact C,λh=>by simp at h⟩ ⟨λh=>by simp at h,λ_=>c⟩ (by rw[hx];simp) (λ_=>f) (λ_=>e3) (λj hy=>by rw[hx]at hy;simp at hy;subst hy;exact n _ i) m gt ge;exact nI (k:=4) k SE rfl ⟨λh=>by simp at h,λ_=>g⟩ ⟨λh=>by simp at h,λ_=>c⟩ (by rw[hx];simp) (λh=>by simp at h) (λh=>by simp at h) (λj hy=>by rw[hx]at hy;simp at hy;subst hy;exact v _ i) m gt ge;exact nI (k:=5) k SE rfl ⟨λh=>by simp at h,λ_=>g⟩ ⟨λh=>by simp at h,λ_=>c⟩ (by rw[hx];simp) (λh=>by simp at h) (λ_=>e3) (λj hy=>by rw[hx]at hy;simp at hy;subst hy;exact v _ i) m gt ge;have N:=(List.getElem?_eq_some_iff.1 p).1;have O:=lD.len;have J:=lD.hs q (List.mem_of_getElem? p);have K:=lD.nr q (List.mem_of_getElem? p) a (List.mem_of_getElem? r);have L:=(List.getElem?_eq_some_iff.1 r).1;exact nI (k:=6) k SE rfl ⟨λ_=>by rw[hn];exact qM SE,λh=>by simp at h⟩ ⟨λ_=>by rw[w];exact B SE,λh=>by simp at h⟩ (by rw[y];simp;omega) (λ_=>f) (λ_=>e3) (λj hy=>n _ (hx j hy)) m gt ge;have J:=lD.hs q (List.mem_of_getElem? p);have K:=lD.nr q (List.mem_of_getElem? p) a (List.mem_of_getElem? r);have L:=(List.getElem?_eq_some_iff.1 r).1;exact nI (k:=7) k SE rfl ⟨λh=>by simp at h,λ_=>g⟩ ⟨λ_=>by rw[w];exact B SE,λh=>by simp at h⟩ (by rw[y];simp;omega) (λ_=>f) (λ_=>e3) (λj hy=>n _ (hx j hy)) m gt ge;exact nI (k:=8) k SE rfl ⟨λh=>by simp at h,λ_=>g⟩ ⟨λh=>by simp at h,λ_=>c⟩ (by rw[hx];simp) (λ_=>f) (λh=>by simp at h) (λj hy=>by rw[hx]at hy;simp at hy;rcases hy with rfl|rfl;exact n _ i;exact n _ hb) m gt ge;exact nI (k:=9) k SE rfl ⟨λ_=>by rw[g];exact A SE,λh=>by simp at h⟩ ⟨λh=>by simp at h,λ_=>c⟩ (by rw[hx];simp) (λ_=>f) (λh=>by simp at h) (λj hy=>by rw[hx]at hy;simp at hy;subst hy;exact n _ i) m gt ge;exact nI (k:=10) k SE rfl ⟨λh=>by simp at h,λ_=>g⟩ ⟨λh=>by simp at h,λ_=>c⟩ (by rw[hx];simp) (λ_=>f) (λ_=>e3) (λj hy=>by rw[hx]at hy;simp at hy) m gt ge
def kT.sR.lf{f}(h:sR f):mh f:=by
 have hb:=h.b;obtain⟨u,e,w,y,q,V,z,j,A,W,B⟩:=h.ex;refine⟨by rw[w];exact CB,hb.km,λx hx=>?_,hb.lB,λx hx=>?_,SE,hb.jZ,λc hc=>?_⟩;obtain⟨k,b⟩:=List.getElem?_of_mem hx;have C:=(List.getElem?_eq_some_iff.1 b).1;rw[q.2 k x b];exact mF letters.2.2.2.2.1 (SC q.1);obtain⟨k,_,D,m,E,F,X⟩:=A.1 x hx;have hd:k/e.length<e.length:=Nat.div_lt_of_lt_mul D;have hm:k % e.length<e.length:=Nat.mod_lt _ SE;exact⟨by rw[m];exact qM SE,by rw[E];exact qM SE,F,SE⟩;obtain⟨i,hi⟩:=List.getElem?_of_mem hc;have Y:=(List.getElem?_eq_some_iff.1 hi).1;obtain⟨ints,G,I,Z,J,aa,hn,hv,K,L,M,N,_⟩:=(B i c hi).ex;have O:=j I (List.mem_of_getElem? M);refine⟨by rw[hn];exact qM SE,(hb.co c hc).vars,λv g=>?_,K,L,λl d=>?_⟩;rw[hv]at g;unfold mB at g;simp only[List.mem_append,List.mem_map,List.mem_range,List.mem_singleton]at g;rcases g with(⟨k,b,rfl⟩|rfl)|⟨k,b,rfl⟩
 exact⟨mF letters.1 SE,.inl ⟨rfl,SG⟩⟩;exact⟨mF letters.2.2.2.1 SE,.inr (.inl ⟨rfl,.inl rfl⟩)⟩;exact⟨mF letters.2.2.1 SE,.inr (.inr ⟨rfl,rfl⟩)⟩;obtain⟨ab,ac,P⟩:=N l d;refine⟨SE,λh r=>?_⟩;obtain⟨k,b⟩:=List.getElem?_of_mem r;have C:=(List.getElem?_eq_some_iff.1 b).1;have s:=(hb.co c hc).hs l d|>.2 h r;obtain⟨a,m,Q,hp,R,t⟩:=P k h b;have S:=O.2.2 a (List.mem_of_getElem? m);have T:N8 {pY u ints G e i with params:=a}:=⟨J,S,y,z,λl d=>(j l d).2.1,λl d=>(j l d).2.2⟩
 refine⟨by rw[Q];exact mF letters.2.2.2.2.2 SE,s.params,λp n=>?_,s.body,mf.Gj T R t,t⟩;rw[hp]at n;unfold pW at n;obtain⟨ad,U,rfl⟩:=List.mem_map.1 n;exact mF letters.2.1 (SC (List.mem_range.1 U))
def Lr(w:World)(e:Ending)(w':World):Prop:=
 ∃(f:Fl) (a:Nat) (b:Option Addr) (c c1:Nat) (i:Option Addr) (j c2:Nat) (d:Option Addr) (g c3:Nat),e=.returned (.tuple #[.pointer a,.agg #[tx f.name,.slice b c c1,.slice i j c2,.slice d g c3]])/\pc w' a f/\mh f/\JJ f/\jT lM (λq=>q<w') w' (.slice b c c1) f.km/\jT (lv .i64) (λq=>q<w') w' (.slice d g c3) f.jZ/\Below w w w'
abbrev qk(a b c d):=(.cells #[.int .u8 a,b,c,d] 28:Go.Obj)
