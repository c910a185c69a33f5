import Derived.Test.YtppncjcpdbhobaaGreatDoorZ13
import Derived.Test.YtppncjcpdbhobaaGreatDoorZ15
import Derived.Test.YtppncjcpdbhobaaGreatDoorZ16
set_option maxRecDepth 1000000
set_option maxHeartbeats 32000000
set_option linter.all false
namespace Go.Proofs.YtppncjcpdbhobaaGreatDoor
open RowKit Go.Proofs.Tryz lI Maps oZ qQ ChangeShapes WideShapes ChangeAt
def CJ(S A l)(m n:Nat)(q)(r s:Nat)(u)(e p:Nat)(c)(ch:lY A)(ci:pJ A)(M:pX S A l m n q r s u e p c)(aa:mo c)(cj:JZ c)(ck:Nn c):
  Calls prog 21 #[.agg<|mc c.name l m n q r s u e p] A (Mz S A<|lL c):=by
 have cl:=X ch;have cm:=X ci;have aD:=X M;have bx:=X aa;have cS:=X cj;have cn:=X ck;have bz:=X M.kF.len;have cT:e<=3:=Up M.kF.len.1 aa.c3
 have co:=Ba A<|.cells (mc c.name l m n q r s u e p) 52;have bA:=X co;have aE:=X<|QT A<|.cells (mc c.name l m n q r s u e p) 52;have aR:(A.alloc<|.cells (mc c.name l m n q r s u e p) 52).heap.size=A+1:=Us
 have cp:=X aR;clear co aR ch ci M aa cj ck
 go_enter func21,ntmps21
 go_upto_region 1 with fail;have aR:=cp.o;generalize A.alloc (.cells (mc c.name l m n q r s u e p) 52)=cq at*;have⟨ab,bj⟩:=Xq A.heap.size;rw[<-bj]at aE bA aR⊢;have bk:=X bj;have bl:=X<|show Below A A cq from bj▸bA.o;clear bj cp bA;have⟨⟨ah,ai,aj,ap⟩,_⟩:=kL aE.o;go_wp21;apply(sW S cq l m n q r s u e p c (cl.o.to bl.o) (aD.o.kv bl.o) bx.o).M;rintro ea cr ⟨rfl,v⟩;have cU:=v.size;have bm:=X<|bl.o.T<|v.M<|W bk.o;have bn:=X<|(v.B ab Y).T aE.o;have bB:ab<cr:=Y
 clear v ah ai aj ap aE bl;have⟨⟨ah,ai,aj,ap⟩,_⟩:=kL bn.o;go_wp21;apply(D3 S cr l m n q r s u e p c (cl.o.to bm.o) (aD.o.kv bm.o) bx.o cS.o).M;rintro eb ac ⟨rfl,v⟩;have cs:=v.size;unfold PX;have T:=Ba ac qk;have bC:=Below.alloc (Below.refl (ac.alloc qk).heap.size<|ac.alloc qk) (QZ _)<|sC c.name l m n q r s u e p;have aS:((ac.alloc qk).alloc<|sC c.name l m n q r s u e p).heap.size=ac+2:=Us
 have bD:=X<|bm.o.T<|(v.T<|(T.M cs).T<|bC.M Uw).M<|W bk.o;have bE:=X<|(bC.B ab Uw).T<|(T.B ab Y).T<|(v.B ab bB).T bn.o;have bF:=X (show((ac.alloc qk).alloc<|sC c.name l m n q r s u e p).heap[ac.heap.size+1]?=some (sC c.name l m n q r s u e p)from by have:=QT (ac.alloc qk)<|sC c.name l m n q r s u e p;rw[QU]at this;exact this);have ct:=(v.B ab bB).T bn.o;have cu:=X aS;clear v T bC aS ah ai aj ap bn bm;have⟨⟨ah,ai,aj,ap⟩,_⟩:=kL ct;clear ct;have cV:ab<ac:=Y
 go_upto_region 8 with fail;have aS:=cu.o;have⟨x,cv⟩:=Xq<|(ac.alloc qk).alloc<|sC c.name l m n q r s u e p;rw[<-cv]at bD bE bF aS⊢;have⟨k,cw⟩:=Xq<|ac.heap.size+1;rw[<-cw]at bF⊢;have ec:x=k+1:=Y
 have ed:ab<k:=Y
 have ee:A<=ab:=W bk.o
 clear cv cw cu aS cV bB cs cU aR ah ai aj ap bk;have⟨cW,cx,cy,cz,cA⟩:=Rm MA;have bo:=Ft cx cy cz cA;have⟨cX,cB,cC,cD,cE⟩:=Rm KL;have bp:=Ft cB cC cD cE;clear cx cy cz cA cB cC cD cE;have Q:=X aD.o.lJ;have cF:∀a,S a->x.heap[a]?=A.heap[a]?:=λa i=>bD.o.B a<|Q.o a i;have cY:=X<|aD.o.kF.ku (mn.ok .u8) cF;have bq:=X (show(lL c).length=e from by have:=bz.o.1;unfold lL;rw[RS];exact this);clear cF;have cZ:k<x:=Y
 have⟨⟨ah,ai,aj,ap⟩,_⟩:=kL bE.o;go_wp21;clear ah ai aj ap;go_loopw [31] (λax wr=>∃(b:Nat) (E:Option Addr) (F:Nat),b<=e/\ax=b/\x.grownBy wr (some k)/\wr.heap[k]?=some (.cells #[tx c.name,.slice l m n,.slice q r s,.slice u e p,(.slice E b F),.int .i64 0,Nl,Nl,Nl,Nl,Nl] 140)/\kJ pK 62 1 (λf=>x<=f) wr x (.slice E b F) ((lL c).take b)) (λax _=>e-(intOf ax).toNat)
 .exact⟨0,none,0,Q1 _,Z,⟨Z,Z,Z,QZ _,λ_ _ _=>Z⟩,bF.o,kJ.nil _ _ _ _ _ _⟩
 obtain⟨b,E,F,aT,rfl,aa,br,aU⟩:=hrel;have ak:=X aa;have bs:=X br;have bt:=X aU;have ef:=aa.size;clear aa br aU;by_cases da:b<e
 .obtain⟨t,al⟩:∃t,c.kF[b]?=some t:=Gx<|W bz.o.1;obtain⟨am,aV,eg,rfl,bG,an,ao⟩:=cY.o.ll (mn.ok .u8) b t al;obtain⟨aF,aG,aH,aI,ay,aJ,rfl,db,bH⟩:=an.ri;have bu:wr.heap[am]?=x.heap[am]?:=ak.o.B am (W<|Q.o am bG) (by intro j;injection j with j;have:=Q.o am bG;omega);have bI:=(Cb am (aV+b*3+0) bu).T<|ao 0 _ Z;have dc:=(Cb am (aV+b*3+1) bu).T<|ao 1 _ Z;have dd:=(Cb am (aV+b*3+2) bu).T<|ao 2 _ Z;rw[Q3]at bI;obtain⟨de,df⟩:=nL b e;have cG:=cn.o t<|QV al;have dg:ay<=4:=W bH.len.1;have dh:=X λdi h=>(cG.2.2 di h).1;have dj:=X bH;have bJ:=X (show(lL c).take (b+1)=(lL c).take b++[lK [] t.lH]from by rw[RB];unfold lL;rw[RT,al];rfl);have⟨aK,cH⟩:=Xq<|(lK [] t.lH).length;have dk:=X cH;have⟨aL,eh,aM⟩:=t;simp only at bI;clear cG an ao bG al db bH bu cH;have T:=QX wr (.cells (hR aL aF aG aH aI ay aJ) 98) none;have dl:=X<|nP.start (ky ak.o<|kK T _) ((T.B k Y Us).T bs.o) (bt.o.grown pK.ok T λB j=>by cases j) cZ;have aE:=X<|QT wr<|.cells (hR aL aF aG aH aI ay aJ) 98;have cI:=X bt.o.ge;have U:(wr.alloc<|.cells (hR aL aF aG aH aI ay aJ) 98).heap.size=wr+1:=Us;have aW:=X U;have dm:=X<|show∀a,S a->(wr.alloc<|.cells (hR aL aF aG aH aI ay aJ) 98).heap[a]?=x.heap[a]? from λa i=>(T.B a (W<|Q.o a i) Us).T<|ak.o.B a (W<|Q.o a i) (by intro j;injection j with j;have:=Q.o a i;omega);clear T U;go_upto_region 11 with fail;have U:=aW.o;have⟨aX,cJ⟩:=Xq wr.heap.size;rw[<-cJ]at aE U⊢;generalize wr.alloc (.cells (hR aL aF aG aH aI ay aJ) 98)=aq at*;have dn:aX<aq:=Y;have dp:aX≠k:=Y;have dq:some aX≠(Value.slice E b F).ownBlock:=λj=>W<|(cI.o aX j.symm).2;have ei:x.heap.size<=aq:=Y;have bv:=X<|show∀f,S f->f<aq/\f≠k/\some f≠(Value.slice E b F).ownBlock from λf ar=>⟨W<|Q.o f ar,W<|Q.o f ar,λj=>Up ((cI.o f j.symm).1)<|Q.o f ar⟩;have aN:=X<|show((lL c).take b).length=b/\b<=3 from⟨by rw[Ro,bq.o];omega,Y⟩;clear bI dc dd cJ aW U;refine tE (λt=>nP pK 62 1 (λf=>x<=f) x aq k #[tx c.name,.slice l m n,.slice q r s,.slice (mw am aV) e p,(.slice E b F),.int .i64 0,Nl,Nl,Nl,Nl,Nl] 140 (.slice E b F) ((lL c).take b) t) (λG w=>∃(ad:Option Addr) (ae:Nat),x.grownBy w (some k)/\w.heap[k]?=some (.cells #[tx c.name,.slice l m n,.slice q r s,.slice (mw am aV) e p,(.slice ad (b+1) ae),.int .i64 0,Nl,Nl,Nl,Nl,Nl] 140)/\kJ pK 62 1 (λf=>x<=f) w x (.slice ad (b+1) ae) (((lL c).take b)++[(lK [] aM)])) (mU [(·=.pointer k),(·=.pointer k),(·=.pointer k),(Pp k 4),(·=.slice E b F),(·=.agg (hR aL aF aG aH aI ay aJ)),Tr,Tr,Tr,(·=.pointer k),(Pp k 4),Tr]) [(6,λG w=>∃(y:Option Addr),∃(z:Nat),G=.slice y aK z/\kz kO (Nw aq w) w (.slice y aK z) (lK [] aM)),(7,λG w=>∃(y:Option Addr),∃(z:Nat),∃(f:Nat),G=.slice f 1 1/\Nw aq w f/\w.heap[f]?=some (.cells #[.slice y aK z] 62)/\kz kO (Nw aq w) w (.slice y aK z) (lK [] aM)),(8,λG w=>∃(y:Option Addr),∃(z:Nat),∃(ad:Option Addr) (ae:Nat),G=.slice ad (b+1) ae/\kJ pK 62 1 (λf=>x<=f) w x G (((lL c).take b)++[(lK [] aM)]))] (dl.o.drew pK.ok) ⟨?_,?_,?_,?_,?_,?_,?_,?_,?_,?_,?_,?_,trivial⟩ ?_;exact Pf 7;exact Pf 7;exact Pv 36 1;exact Pv 37 2;exact Pl 38 3 λ_ d=>kr d.c 4;intro V w d M I N az;have ej:=Sl 9<|M 9 Z;have⟨⟨ah,ai,aj⟩,_⟩:=lf<|(d.k aX dn dp dq).T aE.o;exact .q (g:=⟨Z,d,Qa⟩);intro V w d M I N az;have ek:=Sv 40 I 5;have aA:=d.s;refine .c (DX S w aL aF aG aH aI ay aJ aM (dj.o.ku (nu.ok .u8) λa i=>(d.k a (bv.o a i).1 (bv.o a i).2.1 (bv.o a i).2.2).T<|dm.o a i) (λa i=>QR (bv.o a i).1 aA) dg dh.o) ?_;rintro j bK ⟨el,rfl,aU,ar⟩;obtain⟨y,z,rfl,_⟩:=aU.form;have bw:=aU.sl kO.ok;rw[show(lK [] aM).length=aK from dk.o.symm]at bw⊢;exact⟨_,Z,⟨trivial,d.kv pK.ok ar,Qc ⟨y,z,Z,bw.M kO.ok λf v=>⟨by rcases v.1 with h|h;exact h.elim;exact Q8 aA h,v.2⟩⟩<|Q2<|Qe⟩⟩;intro V w d M I N az;obtain⟨y,z,dr,ds⟩:=lg N 0;have em:=Sl 41 dr;have aA:=d.s;exact .q (g:=⟨trivial,d.alloc pK.ok _,Qd (λR ⟨y,z,j,an⟩=>⟨y,z,j,oh kO.ok (NK.alloc aq w _) an⟩)<|Qc ⟨_,_,_,Z,⟨aA,Us⟩,QT _ _,oh kO.ok (NK.alloc aq w _) ds⟩<|Qb<|Qe⟩);intro V w d M I N az;have dt:=Sv 39 I 4;obtain⟨y,z,aO,du,dv,bL,dw⟩:=lg N 1;have bM:=d.own;have aA:=d.s;have cK:=d.ws;have bN:=d.v;have ao:∀(au:Nat) (R:Value),(#[.slice y aK z]).toList[au]?=some R->w.cell? ((aO:Addr).add au)=some R:=λau R bO=>(by rw[lz,Re];exact kB bL au R<|by simpa using bO);have⟨bP,aY,bK,aZ,ba,bQ,av,bR⟩:=ld (P:=prog) (w:=w) x 137 137 62 cW _ 1 24 underlying137 bo.o.1 bo.o.2.1 bo.o.2.2.1 bo.o.2.2.2 Z pK.ok (λf=>x<=f) ((.slice E b F)) (((lL c).take b)) bM ⟨aO,0,none⟩ (#[.slice y aK z]).toList (lK [] aM) ao (⟨_,Z,dw.M kO.ok λf ar=>⟨Q8 cK ar.1,ar.2,λj=>Up ((bN f j.symm).2) ar.1⟩⟩) (by have:=aN.o;unfold maxLen;omega) (W aN.o) Y;have bS:V.eval (.tmp 39)=(.slice E b F):=(by simp[Act.eval,dt]);have bT:V.eval (.tmp 42)=.slice aO 1 1:=du;have bU:=aN.o.1;rw[bU]at aZ ba bR;clear ao;refine .h λbV aP=>?_;simp only[execOp,resolve,invoke,builtin,RL,RN,Rt,Rz,Rx,RO,bS,bT,aZ];exact aP ⟨trivial,d.app av bQ,Qd (λR ⟨y,z,j,an⟩=>⟨y,z,j,oh kO.ok (d.ng av) an⟩)<|Qd (λR ⟨y,z,f,j,v,aT,an⟩=>⟨y,z,f,j,⟨v.1,QR v.2 ((d.ng av)).1⟩,(((d.ng av)).2 f v).T aT,oh kO.ok (d.ng av) an⟩)<|Qc ⟨y,z,bP,aY,Z,ba⟩<|Qe⟩;exact Pv 35 0;exact Pv 44 9;intro V w d M I N az;have en:=Sv 45 I 10;obtain⟨y,z,ad,ae,cL,bW⟩:=lg N 2;have eo:=Sl 43 cL;have bs:=X d.c;have bX:=d.c;have dx:=kx bX 4;have dy:=kr bX 4;clear bX;refine .h λbV aP=>?_;go_simp;exact aP<|⟨ad,ae,d.set pK.ok (λ_ h=>h) (by have bb:=bW;rw[cL]at bb;exact bb) 4 _ Z⟩;intro dz dA bY bc;have⟨ad,ae,cM,cN,bZ⟩:=bc;have bd:=bJ.o;rw[<-bd]at bZ;have be:=EV cM cN bZ;clear bY cM cN bZ bd;simp only[nE];go_wp2_with fail;go_roundw
  .exact⟨b+1,ad,ae,Y,Uv,be.o.1,be.o.2.1,be.o.2.2⟩
  simp[intOf];omega
 obtain rfl:e=b:=Y;have T:=Ba wr<|.cells #[Nl] 144;have ca:=X<|QT wr<|.cells #[Nl] 144;have U:(wr.alloc<|.cells #[Nl] 144).heap.size=wr+1:=Us;have aW:=X U;have aw:=X T;clear T U;go_upto_region 14 with fail;have U:=aW.o;have⟨D,cO⟩:=Xq wr.heap.size;rw[<-cO]at ca aw U⊢;generalize wr.alloc (.cells #[Nl] 144)=O at*;have ep:k<D:=Y;have eq:O=D+1:=U;have cb:=X<|show Below A A O from bD.o.T<|⟨(aw.o.os.T ak.o.os),aw.o.tape.T ak.o.tape,aw.o.output.T ak.o.output,W ak.o.size,λa i=>(aw.o.B a Y).T<|ak.o.B a Y UJ⟩;have cc:∀a,S a->O.heap[a]?=A.heap[a]?:=λa i=>cb.o.B a<|Q.o a i;have cd:(lL c).take e=lL c:=Rh<|W bq.o;have aQ:=bt.o.sl pK.ok;rw[cd]at aQ;obtain⟨aB,bf⟩:∃aB:Nat->Prop,aB=λa=>S a\/(x<=a/\a<D):=⟨_,Z⟩
 obtain⟨af,bg⟩:∃af:Nat->Prop,af=λa=>S a\/(x<=a/\a≠D):=⟨_,Z⟩
 have ag:=X (show∀a,aB a->a<O/\a≠k/\a≠D/\af a from λa i=>by rw[bf]at i;rw[bg];rcases i with h|h;(have:=Q.o a h;exact⟨Y,Y,Y,.inl h⟩);exact⟨Y,Y,Y,.inr ⟨h.1,Y⟩⟩);have ce:∀a,S a->aB a:=λa i=>(by rw[bf];exact .inl i);have dB:=X<|show¬af k/\¬af D from⟨λh=>by rw[bg]at h;rcases h with h|h;(have:=Q.o _ h;omega);(have:=h.1;omega),λh=>by rw[bg]at h;rcases h with h|h;(have:=Q.o _ h;omega);exact h.2 Z⟩;have cf:=cm.o.lt;have dC:=X<|show HA aB O k l m n u e p E F c.kN c.kF (lL c)from⟨(aD.o.kN.ku mH.ok cc).M mH.ok ce,Up aD.o.kN.len.1 bx.o.Hw,(aD.o.kF.ku (mn.ok .u8) cc).M (mn.ok .u8) ce,cT,(aQ.ku pK.ok λa i=>aw.o.B a<|W i.2).M pK.ok (λa i=>by rw[bf];exact .inr ⟨by rcases i.1 with h|h<;>exact h,W i.2⟩),λax t al=>by unfold lL;rw[RT,al];rfl,λa i=>⟨(ag.o a i).1,(ag.o a i).2.1⟩,cm.o.ku (cb.o.B _ cf) Y,Y,cn.o⟩;have cP:=X<|show Oj O k D af (tx c.name) (.slice l m n) (.slice q r s) (.slice u e p) (.slice E e F) [] 0 O from⟨none,0,nZ.refl _ _,⟨_,_,_,_,.bool true,_,_,(aw.o.B k Y).T bs.o⟩,ca.o,kJ.nil _ _ _ _ _ _,QZ _,λB C=>by simp[Value.ownBlock]at C,QZ _,⟨Y,Y,Y⟩,dB.o⟩;have dD:=D0 bf bg;have dE:=X<|(aw.o.B ab Y).T<|(ak.o.B ab Y UJ).T bE.o;have cQ:=X cf;clear bf bg cc aQ ce U aW bs bt ak aw ca cf cO;have⟨⟨ah,ai,aj,ap⟩,_⟩:=kL dE.o;go_wp21;clear ah ai aj ap;go_loopw [52] (λax dF=>∃b:Nat,b<=e/\ax=b/\Oj O k D af (tx c.name) (.slice l m n) (.slice q r s) (.slice u e p) (.slice E e F) ((lL c).take b) b dF) (λax _=>e-(intOf ax).toNat)
 .exact⟨0,Q1 _,Z,cP.o⟩
 clear cP;obtain⟨b,aT,rfl,bh,bi,aa⟩:=hrel;have aC:=X aa;have er:=aa.ws;clear aa;by_cases da:b<e
 .obtain⟨t,al⟩:∃t,c.kF[b]?=some t:=Gx<|W bz.o.1;have dG:=X al;have bJ:=X (show(lL c).take (b+1)=(lL c).take b++[lK [] t.lH]from by rw[RB];unfold lL;rw[RT,al];rfl);have aN:=X<|show((lL c).take b).length=b/\b<=3 from⟨by rw[Ro,bq.o];omega,Y⟩;obtain⟨de,df⟩:=nL b e;clear al;go_wp21;refine tE (λt=>yl O wr k D af (tx c.name) (.slice l m n) (.slice q r s) (.slice u e p) (.slice E e F) (.slice bh b bi) ((lL c).take b) t) (λG w=>Oj O k D af (tx c.name) (.slice l m n) (.slice q r s) (.slice u e p) (.slice E e F) ((lL c).take b++[lK [] t.lH]) (b+1) w) (mU [(·=.pointer D),(·=.pointer D),(·=.pointer D),(·=.pointer D),(·=.slice bh b bi),(·=.pointer k),(·=b),Tr,Tr,Tr,(·=.pointer D),(·=.pointer D),Tr]) [(7,λG w=>∃(J K L:Value),G=.agg #[J,K,L]/\(kz kO aB O J (lK [] t.lH)/\K.oneCell'=true/\L.oneCell'=true)),(8,λG w=>∃(J:Value),∃(K:Value),∃(L:Value),∃(f:Nat),G=.slice f 1 1/\Nw wr w f/\w.heap[f]?=some (.cells #[J,K,L] 148)/\(kz kO aB O J (lK [] t.lH)/\K.oneCell'=true/\L.oneCell'=true)),(9,λG w=>∃(J:Value),∃(K:Value),∃(L:Value),∃(ad:Option Addr) (ae:Nat),G=.slice ad (b+1) ae/\kJ C7 148 3 af w O G (((lL c).take b)++[(lK [] t.lH)]))] (aC.o.drew) ⟨?_,?_,?_,?_,?_,?_,?_,?_,?_,?_,?_,?_,?_,trivial⟩ ?_;exact Pf 10;exact Pf 10;exact Pv 56 1;exact Pv 57 2;exact Pl 58 3 λ_ d=>kr d.p 0;exact Pf 7;exact Pf 11;intro V w d M I N az;have es:=Sv 60 I 5;have et:=Sv 61 I 6;have⟨dH,f,dI,dJ,j,dK,a,br⟩:=d.c;refine .c (yb aB w k (tx c.name) (.slice q r s) dH f dI dJ dK a l m n u e p E F c.kN c.kF (lL c) b t br (dC.o.ku (λB C=>d.g.B B (by rcases C with C|rfl;exact(ag.o B C).1;(have:=cQ.o;omega))<|by rcases C with C|rfl;(have:=ag.o B C;omega);(have:=cQ.o;omega)) d.g.size) dG.o) ?_;rintro j bK ⟨J,K,L,dL,bw,dM,dN,dO,dP,dQ,aY,dR,dS,dT,dU⟩;subst dL;exact⟨_,Z,⟨trivial,d.grown dO ⟨dP,dQ,aY,dR,.bool true,dS,dT,dU⟩,Qc ⟨_,_,_,Z,bw.ku kO.ok λB C=>(d.g.B B (ag.o B C).1<|W<|ag.o B C).symm,dM,dN⟩<|Q2<|Qe⟩⟩;intro V w d M I N az;obtain⟨J,K,L,dV,dW⟩:=lg N 0;have eu:=Sl 62 dV;have aA:=d.s;exact .q (g:=⟨trivial,d.alloc _,Qb<|Qc ⟨_,_,_,_,Z,⟨aA,Us⟩,QT _ _,dW⟩<|Qb<|Qe⟩);intro V w d M I N az;have dX:=Sv 59 I 4;obtain⟨J,K,L,aO,dY,dv,bL,cg⟩:=lg N 1;have bM:=d.own;have aA:=d.s;have cK:=d.ws;have bN:=d.v;have ao:∀(au:Nat) (R:Value),(#[J,K,L]).toList[au]?=some R->w.cell? ((aO:Addr).add au)=some R:=λau R bO=>(by rw[lz,Re];exact kB bL au R<|by simpa using bO);have⟨bP,aY,bK,aZ,ba,bQ,av,bR⟩:=ld (P:=prog) (w:=w) O 142 142 148 cX _ 3 72 underlying142 bp.o.1 bp.o.2.1 bp.o.2.2.1 bp.o.2.2.2 Z C7.ok af ((.slice bh b bi)) (((lL c).take b)) bM ⟨aO,0,none⟩ (#[J,K,L]).toList (lK [] t.lH) ao (⟨_,_,_,Z,(cg.1.ku kO.ok λB C=>d.g.B B (ag.o B C).1<|W<|ag.o B C).M kO.ok λB C=>⟨(ag.o B C).2.2.2,Up (ag.o B C) d.g.size,λj=>Up ((bN B j.symm).1)<|ag.o B C⟩,cg.2.1,cg.2.2⟩) (by have:=aN.o;unfold maxLen;omega) (W aN.o) Y;have bS:V.eval (.tmp 59)=(.slice bh b bi):=(by simp[Act.eval,dX]);have bT:V.eval (.tmp 63)=.slice aO 1 1:=dY;have bU:=aN.o.1;rw[bU]at aZ ba bR;clear ao;refine .h λbV aP=>?_;simp only[execOp,resolve,invoke,builtin,RL,RN,Rt,Rz,Rx,RO,bS,bT,aZ];exact aP ⟨trivial,d.app av bQ,Qb<|Qd (λR ⟨J,K,L,f,j,v,aT,an⟩=>⟨J,K,L,f,j,⟨v.1,QR v.2 ((d.ng av)).1⟩,(((d.ng av)).2 f v).T aT,an⟩)<|Qc ⟨J,K,L,bP,aY,Z,ba⟩<|Qe⟩;exact Pv 55 0;exact Pv 65 10;intro V w d M I N az;have ev:=Sv 66 I 11;obtain⟨J,K,L,ad,ae,cR,bW⟩:=lg N 2;have ew:=Sl 64 cR;have dx:=kx d.p 0;have dy:=kr d.p 0;refine .h λbV aP=>?_;go_simp;exact aP<|d.put (by have bb:=bW;rw[cR]at bb;exact bb);intro dz dA bY bc;have bd:=bJ.o;rw[<-bd]at bc;have be:=X bc;clear bY bc bd;simp only[nE];go_wp21;go_roundw
  .exact⟨b+1,Y,Uv,be.o⟩
  simp[intOf];omega
 obtain rfl:e=b:=Y;go_wp21
 go_ret2
 have cd:(lL c).take e=lL c:=Rh<|W bq.o;have aQ:=aC.o.own.sl C7.ok;rw[cd]at aQ;have dZ:=aC.o.g.size;refine⟨D,Z,cb.o.T ⟨aC.o.g.os,aC.o.g.tape,aC.o.g.output,dZ,λa i=>aC.o.g.B a Y Y⟩,⟨Y,Y⟩,bh,e,bi,aC.o.p,aQ.M C7.ok λa i=>?_⟩;rcases i.1 with h|h;rw[dD.o.2]at h;rcases h with h|h;exact .inl h;exact .inr ⟨W h.1,i.2⟩;exact .inr ⟨Y,i.2⟩
def I8(C D e E)(b F:Nat)(G)(c I:Nat)(xs ys)(t:kz mg C e (.slice E b F) xs)(u:kz mg D e (.slice G c I) ys)(R:∀m,C m->m<e)(S:∀m,D m->m<e)(ai:b<=9223372036854775807)(aj:c<=9223372036854775807):
  Calls prog 101 #[.slice E b F,.slice G c I] e λv T=>v=.returned (.int .i64<|cmpL xs ys)/\T=e:=by
 have U:=X t;have V:=X u;have j:=X t.len;have n:=X u.len;clear t u
 go_enter func101,ntmps101
 go_wp21;go_loopw [11] (λw wr=>∃k:Nat,k<=b/\w=k/\k<=c/\xs.take k=ys.take k/\e=wr) (λw _=>b-(intOf w).toNat)
 .exact⟨0,Q1 _,Z,Q1 _,Z,Z⟩
 obtain⟨k,ak,rfl,al,J,rfl⟩:=hrel;have K:=X J;clear J;have f:=zo (xs:=xs) (ys:=ys) (k:=k) (W j.o.1) K.o;by_cases am:k<b
 .obtain⟨a,x⟩:∃a,xs[k]?=some a:=Gx<|W j.o.1;obtain⟨aa,an,y,rfl,L,p,q⟩:=U.o.ll mg.ok k a x;have z:y=[.int .i64 a]:=p;subst z;have ab:=q 0 _ Z;rw[Q3,RA]at ab;have ao:=R aa L;obtain⟨ap,aq⟩:=nL k b;have M:=X x;clear p q L x;by_cases ac:k<c
  .obtain⟨d,A⟩:∃d,ys[k]?=some d:=Gx<|W n.o.1;obtain⟨ad,ar,y,rfl,N,p,q⟩:=V.o.ll mg.ok k d A;have z:y=[.int .i64 d]:=p;subst z;have ae:=q 0 _ Z;rw[Q3,RA]at ae;have au:=S ad N;have av:(k:Int)<(c:Int):=Y;have aw:¬(c:Int)<=(k:Int):=Y;have O:=X A;clear p q N A;have i:=X (show cmpL xs ys=if Lib.compareInt a d=0 then cmpL (xs.drop<|k+1) (ys.drop<|k+1)else Lib.compareInt a d by rw[f];have r:=M.o;have s:=O.o;rw[SG<|W j.o.1,SG (l:=ys)<|W n.o.1];rw[Q7<|W j.o.1]at r;rw[Q7<|W n.o.1]at s;injection r with r;injection s with s;rw[r,s,cmpL])
   clear f;by_cases g:Lib.compareInt a d=0
   .have af:=rz.1 g;subst af;go_wp21;apply(vv a a e).M;rintro v ag ⟨rfl,rfl⟩;rw[g];go_wp21;go_roundw
    .exact⟨k+1,Y,Uv,Y,AU K.o M.o O.o,trivial⟩
    simp[intOf];omega
   have B:=i.o;rw[Rl g]at B;have ah:=X B;clear B;have ax:(Lib.compareInt a d !=0)=true:=(by simp[g]);go_wp21;apply(vv a d e).M;rintro v ag ⟨rfl,rfl⟩;generalize Lib.compareInt a d=ay at*;go_wp21;go_ret;exact⟨by rw[ah.o];rfl,Z⟩
  obtain rfl:c=k:=Y;have i:=X (show cmpL xs ys=1 by rw[f,S6 (l:=ys)<|W n.o.1,SG<|W j.o.1];rfl)
  clear f;go_wp21;go_ret;exact⟨by rw[i.o];rfl,Z⟩
 obtain rfl:b=k:=Y;have P:=j.o.1;have Q:=n.o.1;have g:xs.drop b=[]:=S6 Y;rw[g]at f;by_cases ac:b<c
 .have i:=X (show cmpL xs ys= -1 by rw[f,SG Y];rfl)
  clear f g P Q;go_wp21;go_ret;exact⟨by rw[i.o];rfl,Z⟩
 have i:=X (show cmpL xs ys=0 by rw[f,S6 Y];rfl)
 clear f g P Q;have az:¬(b:Int)<(c:Int):=Y;go_wp21;go_ret;exact⟨by rw[i.o];rfl,Z⟩
def I9(ac ad b)(l m:Int)(n:Nat)(p q r s t:Int)(P)(u v:Int)(w:Nat)(x y z A B:Int)(Q F)(D G:Nat)(I)(E J:Nat)(ak:kz mg ac b (.slice F D G) P)(al:kz mg ad b (.slice I E J) Q)(am:∀e,ac e->e<b)(an:∀e,ad e->e<b)(ao:D<=9223372036854775807)(ap:E<=9223372036854775807):
  Calls prog 61 #[.agg<|me l m n p q r s t F D G,.agg<|me u v w x y z A B I E J] b (kH (.int .i64<|yG [Lib.compareInt (l:Int) (u:Int),Lib.compareInt (m:Int) (v:Int),Lib.compareInt (n:Int) (w:Int),Lib.compareInt (p:Int) (x:Int),Lib.compareInt (q:Int) (y:Int),Lib.compareInt (r:Int) (z:Int),Lib.compareInt (s:Int) (A:Int),Lib.compareInt (t:Int) (B:Int),cmpL P Q]) b):=by
 have ab:Below b b<|(b.alloc<|.cells (me l m n p q r s t F D G) 29).alloc<|.cells (me u v w x y z A B I E J) 29:=(Ba _ _).alloc Us _;have M:((b.alloc<|.cells (me l m n p q r s t F D G) 29).alloc<|.cells (me u v w x y z A B I E J) 29).heap[b.heap.size]?=some (.cells (me l m n p q r s t F D G) 29):=(Q9 _ _ Us).T<|QT _ _;have K:((b.alloc<|.cells (me l m n p q r s t F D G) 29).alloc<|.cells (me u v w x y z A B I E J) 29).heap[b.heap.size+1]?=some (.cells (me u v w x y z A B I E J) 29):=by have:=QT (b.alloc<|.cells (me l m n p q r s t F D G) 29)<|.cells (me u v w x y z A B I E J) 29;rw[QU]at this;exact this
 have aq:((b.alloc<|.cells (me l m n p q r s t F D G) 29).alloc<|.cells (me u v w x y z A B I E J) 29).heap.size=b+2:=Us
 have ar:=ak;have au:=al;have af:=am;have ag:=an;have av:=ao;have aw:=ap
 go_enter func61,ntmps61
 go_upto_region 1 with fail;generalize(b.alloc<|.cells (me l m n p q r s t F D G) 29).alloc (.cells (me u v w x y z A B I E J) 29)=aa at*;have ah:∀e,ac e->e<aa:=λe C=>QR (af e C) ab.size;have ai:∀e,ad e->e<aa:=λe C=>QR (ag e C) ab.size;have⟨f,ax⟩:=Xq b.heap.size;have⟨i,ay⟩:=Xq<|f+1;rw[<-ax]at M K aq⊢;rw[<-ay]at K⊢;have R:f<aa:=Y
 have S:i<aa:=Y
 refine Ri (λaj=>Below aa aa aj) (mU [(·=.pointer f),(·=.int .i64 l),(·=.pointer i),(·=.int .i64 u),(·=.int .i64 (Lib.compareInt (l:Int) (u:Int))),(·=.pointer (some ⟨f,1,none⟩)),(·=.int .i64 m),(·=.pointer (some ⟨i,1,none⟩)),(·=.int .i64 v),(·=.int .i64 (Lib.compareInt (m:Int) (v:Int))),(·=.pointer (some ⟨f,2,none⟩)),(·=.int .u8 (n:Nat)),(·=.pointer (some ⟨i,2,none⟩)),(·=.int .u8 (w:Nat)),(·=.int .i64 (Lib.compareInt (n:Int) (w:Int))),(·=.pointer (zc f)),(·=.int .i64 p),(·=.pointer (zc i)),(·=.int .i64 x),(·=.int .i64 (Lib.compareInt (p:Int) (x:Int))),(·=.pointer (some ⟨f,4,none⟩)),(·=.int .i64 q),(·=.pointer (some ⟨i,4,none⟩)),(·=.int .i64 y),(·=.int .i64 (Lib.compareInt (q:Int) (y:Int))),(·=.pointer (zd f)),(·=.int .i64 r),(·=.pointer (zd i)),(·=.int .i64 z),(·=.int .i64 (Lib.compareInt (r:Int) (z:Int))),(·=.pointer (some ⟨f,6,none⟩)),(·=.int .i64 s),(·=.pointer (some ⟨i,6,none⟩)),(·=.int .i64 A),(·=.int .i64 (Lib.compareInt (s:Int) (A:Int))),(·=.pointer (some ⟨f,7,none⟩)),(·=.int .i64 t),(·=.pointer (some ⟨i,7,none⟩)),(·=.int .i64 B),(·=.int .i64 (Lib.compareInt (t:Int) (B:Int))),(·=.pointer (some ⟨f,8,none⟩)),(·=.slice F D G),(·=.pointer (some ⟨i,8,none⟩)),(·=.slice I E J),(·=.int .i64 (cmpL P Q)),Tr,(·=.int .i64 (yG [Lib.compareInt (l:Int) (u:Int),Lib.compareInt (m:Int) (v:Int),Lib.compareInt (n:Int) (w:Int),Lib.compareInt (p:Int) (x:Int),Lib.compareInt (q:Int) (y:Int),Lib.compareInt (r:Int) (z:Int),Lib.compareInt (s:Int) (A:Int),Lib.compareInt (t:Int) (B:Int),cmpL P Q])),(·=.int .i64 (yG [Lib.compareInt (l:Int) (u:Int),Lib.compareInt (m:Int) (v:Int),Lib.compareInt (n:Int) (w:Int),Lib.compareInt (p:Int) (x:Int),Lib.compareInt (q:Int) (y:Int),Lib.compareInt (r:Int) (z:Int),Lib.compareInt (s:Int) (A:Int),Lib.compareInt (t:Int) (B:Int),cmpL P Q]))]) [(45,λaz b=>∃(ae:Nat),az=.slice ae 9 9/\ae<b/\aa<=ae/\b.heap[ae]?=some (.cells #[.int .i64<|Lib.compareInt (l:Int) (u:Int),.int .i64<|Lib.compareInt (m:Int) (v:Int),.int .i64<|Lib.compareInt (n:Int) (w:Int),.int .i64<|Lib.compareInt (p:Int) (x:Int),.int .i64<|Lib.compareInt (q:Int) (y:Int),.int .i64<|Lib.compareInt (r:Int) (z:Int),.int .i64<|Lib.compareInt (s:Int) (A:Int),.int .i64<|Lib.compareInt (t:Int) (B:Int),.int .i64<|cmpL P Q] 3))] ((Below.refl _ _).drew) ⟨?_,?_,?_,?_,?_,?_,?_,?_,?_,?_,?_,?_,?_,?_,?_,?_,?_,?_,?_,?_,?_,?_,?_,?_,?_,?_,?_,?_,?_,?_,?_,?_,?_,?_,?_,?_,?_,?_,?_,?_,?_,?_,?_,?_,?_,?_,?_,?_,trivial⟩ ?_
 .exact .f 2
 .exact .l 5 0 λ_ a=>kB ((a.B f R).T M) 0 _ Z
 .exact .f 3
 .exact .l 7 2 λ_ a=>kB ((a.B i S).T K) 0 _ Z
 .intro N b a O c L d;have aK:=Sv 6 c 1;have aL:=Sv 8 c 3;refine .h λT j=>?_;go_simp;refine⟨Z,?_⟩;refine Calls.M (Tryz.cmp_Compare_int l u b) ?_;rintro U V ⟨k,d⟩;subst d;subst k;exact⟨_,Z,j ⟨Z,a,Qb<|Qe⟩⟩
 .exact .f 2
 .exact .l 10 5 λ_ a=>kB ((a.B f R).T M) 1 _ Z
 .exact .f 3
 .exact .l 12 7 λ_ a=>kB ((a.B i S).T K) 1 _ Z
 .intro N b a O c L d;have aM:=Sv 11 c 6;have aN:=Sv 13 c 8;refine .h λT j=>?_;go_simp;refine⟨Z,?_⟩;refine Calls.M (Tryz.cmp_Compare_int m v b) ?_;rintro U V ⟨k,d⟩;subst d;subst k;exact⟨_,Z,j ⟨Z,a,Qb<|Qe⟩⟩
 .exact .f 2
 .exact .l 15 10 λ_ a=>kB ((a.B f R).T M) 2 _ Z
 .exact .f 3
 .exact .l 17 12 λ_ a=>kB ((a.B i S).T K) 2 _ Z
 .intro N b a O c L d;have aO:=Sv 16 c 11;have aP:=Sv 18 c 13;refine .h λT j=>?_;go_simp;refine⟨Z,?_⟩;refine Calls.M (I7 n w b) ?_;rintro U V ⟨k,d⟩;subst d;subst k;exact⟨_,Z,j ⟨Z,a,Qb<|Qe⟩⟩
 .exact .f 2
 .exact .l 20 15 λ_ a=>kB ((a.B f R).T M) 3 _ Z
 .exact .f 3
 .exact .l 22 17 λ_ a=>kB ((a.B i S).T K) 3 _ Z
 .intro N b a O c L d;have aQ:=Sv 21 c 16;have aR:=Sv 23 c 18;refine .h λT j=>?_;go_simp;refine⟨Z,?_⟩;refine Calls.M (Tryz.cmp_Compare_int p x b) ?_;rintro U V ⟨k,d⟩;subst d;subst k;exact⟨_,Z,j ⟨Z,a,Qb<|Qe⟩⟩
 .exact .f 2
 .exact .l 25 20 λ_ a=>kB ((a.B f R).T M) 4 _ Z
 .exact .f 3
 .exact .l 27 22 λ_ a=>kB ((a.B i S).T K) 4 _ Z
 .intro N b a O c L d;have aS:=Sv 26 c 21;have aT:=Sv 28 c 23;refine .h λT j=>?_;go_simp;refine⟨Z,?_⟩;refine Calls.M (Tryz.cmp_Compare_int q y b) ?_;rintro U V ⟨k,d⟩;subst d;subst k;exact⟨_,Z,j ⟨Z,a,Qb<|Qe⟩⟩
 .exact .f 2
 .exact .l 30 25 λ_ a=>kB ((a.B f R).T M) 5 _ Z
 .exact .f 3
 .exact .l 32 27 λ_ a=>kB ((a.B i S).T K) 5 _ Z
 .intro N b a O c L d;have aU:=Sv 31 c 26;have aV:=Sv 33 c 28;refine .h λT j=>?_;go_simp;refine⟨Z,?_⟩;refine Calls.M (Tryz.cmp_Compare_int r z b) ?_;rintro U V ⟨k,d⟩;subst d;subst k;exact⟨_,Z,j ⟨Z,a,Qb<|Qe⟩⟩
 .exact .f 2
 .exact .l 35 30 λ_ a=>kB ((a.B f R).T M) 6 _ Z
 .exact .f 3
 .exact .l 37 32 λ_ a=>kB ((a.B i S).T K) 6 _ Z
 .intro N b a O c L d;have aW:=Sv 36 c 31;have aX:=Sv 38 c 33;refine .h λT j=>?_;go_simp;refine⟨Z,?_⟩;refine Calls.M (Tryz.cmp_Compare_int s A b) ?_;rintro U V ⟨k,d⟩;subst d;subst k;exact⟨_,Z,j ⟨Z,a,Qb<|Qe⟩⟩
 .exact .f 2
 .exact .l 40 35 λ_ a=>kB ((a.B f R).T M) 7 _ Z
 .exact .f 3
 .exact .l 42 37 λ_ a=>kB ((a.B i S).T K) 7 _ Z
 .intro N b a O c L d;have aY:=Sv 41 c 36;have aZ:=Sv 43 c 38;refine .h λT j=>?_;go_simp;refine⟨Z,?_⟩;refine Calls.M (vv t B b) ?_;rintro U V ⟨k,d⟩;subst d;subst k;exact⟨_,Z,j ⟨Z,a,Qb<|Qe⟩⟩
 .exact .f 2
 .exact .l 45 40 λ_ a=>kB ((a.B f R).T M) 8 _ Z
 .exact .f 3
 .exact .l 47 42 λ_ a=>kB ((a.B i S).T K) 8 _ Z
 .intro N b a O c L d;have ba:=Sv 46 c 41;have bb:=Sv 48 c 43;refine .h λT j=>?_;go_simp;refine⟨Z,?_⟩;refine Calls.M (I8 ac ad b F D G I E J P Q (ar.ku mg.ok λe C=>(a.B e<|ah e C).T<|ab.B e<|af e C) (au.ku mg.ok λe C=>(a.B e<|ai e C).T<|ab.B e<|ag e C) (λe C=>QR (ah e C) a.size) (λe C=>QR (ai e C) a.size) av aw) ?_;rintro U V ⟨k,d⟩;subst d;subst k;exact⟨_,Z,j ⟨Z,a,Qb<|Qe⟩⟩
 .intro N b a O c L d;have bc:=Sv 9 c 4;have bd:=Sv 14 c 9;have be:=Sv 19 c 14;have bf:=Sv 24 c 19;have bg:=Sv 29 c 24;have bh:=Sv 34 c 29;have bi:=Sv 39 c 34;have bj:=Sv 44 c 39;have bk:=Sv 49 c 44;have aA:=a.size;exact .q (g:=⟨trivial,a.alloc a.size _,Qc ⟨_,Z,Us,aA,QT _ _⟩<|Qe⟩)
 .intro N b a O c L d;obtain⟨aB,aC,aD,bl,aE⟩:=lg L 0;have bm:=Sl 50 aC;refine .h λT j=>?_;go_simp;refine⟨Z,?_⟩;refine Calls.M (MK aB 9 [Lib.compareInt (l:Int) (u:Int),Lib.compareInt (m:Int) (v:Int),Lib.compareInt (n:Int) (w:Int),Lib.compareInt (p:Int) (x:Int),Lib.compareInt (q:Int) (y:Int),Lib.compareInt (r:Int) (z:Int),Lib.compareInt (s:Int) (A:Int),Lib.compareInt (t:Int) (B:Int),cmpL P Q] b Z Y (λbn aj aF=>K2 aE aF) aD) ?_;rintro U V ⟨k,d⟩;subst d;subst k;exact⟨_,Z,j ⟨Z,a,Qb<|Qe⟩⟩
 .exact .v 51 46
 intro aG bo aH aI bp;have aJ:aG 47=.int .i64 (yG [Lib.compareInt (l:Int) (u:Int),Lib.compareInt (m:Int) (v:Int),Lib.compareInt (n:Int) (w:Int),Lib.compareInt (p:Int) (x:Int),Lib.compareInt (q:Int) (y:Int),Lib.compareInt (r:Int) (z:Int),Lib.compareInt (s:Int) (A:Int),Lib.compareInt (t:Int) (B:Int),cmpL P Q]):=aI 47 Ur;simp only[nE,aJ];go_wp2;go_ret;exact⟨Z,ab.T<|aH.M ab.size⟩
def zq(n p e)(a b:Ev)(i)(f j:Nat)(k)(g l:Nat)(w:kz mg n e (.slice i f j) a.args)(x:kz mg p e (.slice k g l) b.args)(q:∀c,n c->c<e)(r:∀c,p c->c<e)(y:f<=9223372036854775807)(z:g<=9223372036854775807):
  Calls prog 31 #[.agg<|Hp a i f j,.agg<|Hp b k g l] e (kH (.bool<|oY a b) e):=by
 have A:oY a b=decide (yG [Lib.compareInt a.tick b.tick,Lib.compareInt a.comp b.comp,Lib.compareInt (a.kind:Int) (b.kind:Int),Lib.compareInt a.peer b.peer,Lib.compareInt a.n b.n,Lib.compareInt a.copy b.copy,Lib.compareInt a.hd b.hd,Lib.compareInt a.d b.d,cmpL a.args b.args]=0):=by cases d:oY a b;symm;rw[Tp,B5];intro s;rw[(oI a b).2 s]at d;cases d;symm;rw[TD,B5];exact(oI a b).1 d
 rw[A];have m:Below e e<|(e.alloc<|.cells (Hp a i f j) 29).alloc<|.cells (Hp b k g l) 29:=(Ba _ _).alloc Us _;have t:=X<|I9 n p ((e.alloc<|.cells (Hp a i f j) 29).alloc<|.cells (Hp b k g l) 29) a.tick a.comp a.kind a.peer a.n a.copy a.hd a.d a.args b.tick b.comp b.kind b.peer b.n b.copy b.hd b.d b.args i f j k g l (w.ku mg.ok λc d=>m.B c<|q c d) (x.ku mg.ok λc d=>m.B c<|r c d) (λc d=>QR (q c d) m.size) (λc d=>QR (r c d) m.size) y z;have u:=X m;have⟨D,v⟩:=Xq<|yG [Lib.compareInt a.tick b.tick,Lib.compareInt a.comp b.comp,Lib.compareInt (a.kind:Int) (b.kind:Int),Lib.compareInt a.peer b.peer,Lib.compareInt a.n b.n,Lib.compareInt a.copy b.copy,Lib.compareInt a.hd b.hd,Lib.compareInt a.d b.d,cmpL a.args b.args];rw[<-v]at t⊢;clear v
 go_enter func31,ntmps31
 go_wp21;apply t.o.M;rintro s E ⟨rfl,B⟩;have C:=X B;go_wp21;go_ret;exact⟨Z,u.o.T<|C.o.M u.o.size⟩
def qQ.vO(T:lj)(b:Nat):Option<|St×Nat:=
 if ov T b=[115,101,110,100]then do
  let (a,b)<-vH T (b+1)
  let b<-tq T [46] b
  let (h,b)<-vH T b
  let (xs,b)<-tI T (qF T) b
  let b<-tq T [59] b
  some (.mk 6 a h xs [] [],b)
 else none
def qQ.qU(T:lj):Nat->Nat->Option (List St×Nat)
 |0,_=>none
 |k+1,p=>if ov T p=[125]then some ([],p+1)else
  match vO T p with
  |none=>none
  |some (s,q)=>match qU T k q with
   |some (l,r)=>some (s::l,r)
   |none=>none
def qQ.uW(T:lj)(a:Nat):Option<|List St×Nat:=if ov T a=[123]then qU T (T.length+1) (a+1)else none
def qQ.sB(T:lj)(c:Nat):Option<|Hd×Nat:=do
 let (a,c)<-vH T c
 let (l,c)<-tI T (vH T) c
 let (b,c)<-uW T c
 some (⟨a,l,b⟩,c)
def qQ.uB(T:lj)(a:Nat):Option<|List Hd×Nat:=pC T [111,110] (sB T) (T.length+1) a
def qQ.wT(T:lj)(b:Nat):Option<|Co×Nat:=do
 let (a,b)<-vH T b
 let b<-tq T [123] b
 if ov T b=[118,97,114]then none else
 let (hs,b)<-uB T b
 if ov T b=[118,101,114,115,105,111,110]then none else
 let b<-tq T [125] b
 some (⟨a,[],[hs]⟩,b)
def xo{i:lj}{vQ:PV}{f}{pb j:Nat}(s:mh i vQ f pb j)(t u)(d v:Nat)(l)(m:kz J2 t f (.slice u d v) l)(w:∀a,t a->a≠pb/\a<f)(x:Bj i j l)(N:d<=100):
  Calls prog 217 #[.pointer pb,.slice u d v] f λk y=>k=.returned (.tuple #[.int .u8 0,false])/\lN i vQ f pb j y:=by
 have E:=X<|lN.refl s;have F:=X m;have z:=X w;have G:=X x;have I:=X m.len.1;clear s m w x
 go_enter func217,ntmps217
 go_wp21;go_loopw [10] (λn wr=>∃b:Nat,b<=d/\n=b/\lN i vQ f pb j wr) (λn _=>d-(intOf n).toNat)
 .exact⟨0,Q1 _,Z,E.o⟩
 obtain⟨b,O,rfl,g⟩:=hrel;by_cases P:b<d
 .obtain⟨c,p⟩:∃c,l[b]?=some c:=Gx<|W I.o;obtain⟨a,o,J,rfl,e,A,q⟩:=(F.o.ku J2.ok λa e=>g.2.B a (z.o a e).2 λk=>(z.o a e).1<|by injection k).ll J2.ok b c p;have K:J=[tx c.1,.int .u8 (c.2:Nat)]:=A;subst K;have L:=q 0 _ Z;have Q:=q 1 _ Z;rw[Q3]at L;have⟨B,C⟩:=G.o c<|QV p;have D:=D0 B C;have r:=X<|g.alloc<|.cells #[tx c.1,.int .u8 (c.2:Nat)] 346;obtain⟨R,S⟩:=nL b d;clear q A p B C g e;go_wp21;apply(mC r.o _ D.o.1 D.o.2).M;rintro k y ⟨rfl,e⟩;have M:=X e;clear e;go_wp21;go_roundw
  .exact⟨b+1,Y,Uv,M.o⟩
  simp[intOf];omega
 have r:=X g;clear g;go_wp21
 go_ret2
 exact⟨Z,r.o⟩
def tk{i:lj}{vQ:PV}{pb x m:Nat}{a}(j:FuncId)(ag:∀(y:Array Value) (c:World),Sem.run prog (callFunc j y) c=.ok (.enter j y) c)(hF:Bk i vQ pb x m a j)(n p)(k q:Nat)(r c)(l:mh i vQ c pb x)(z:kz J2 n c (.slice p k q) r)(s:∀d,n d->d≠pb/\d<c)(A:Bj i m r)(M:k<=100):
  Calls prog 212 #[.pointer pb,.func (.func j) #[.pointer pb] #[],.slice p k q] c (Il i vQ pb m a c):=by
 have N:=l.low.2;have B:=X<|QT c ks;have C:=X<|(lN.refl l).alloc ks;have O:=X<|z.ku J2.ok λd b=>Q9 c ks (s d b).2;have D:c<(c.alloc ks).heap.size:=Us
 have P:pb<c:=l.lt;have Q:=X hF;have R:=X A;have g:=X s;clear l z s A hF
 go_enter func212,ntmps212
 go_upto_region 1 with fail;generalize c.alloc ks=E at*;have⟨S,t⟩:=Xq c.heap.size;rw[<-t]at B D P N g⊢;have F:=X t;clear t;go_wp21;apply(Q.o E C.o.1).M;rintro e f ⟨rfl,b⟩;have T:=X b;have G:=X<|QT f<|sa a.op a.name a.n;have u:=X<|b.alloc<|sa a.op a.name a.n;have I:f<(f.alloc<|sa a.op a.name a.n).heap.size:=Us
 have U:pb<f:=b.1.lt;clear b;go_wp21;generalize f.alloc (sa a.op a.name a.n)=V at*;have⟨J,w⟩:=Xq f.heap.size;have ah:E<=J:=by rw[w];exact T.o.2.size
 rw[<-w]at G I U⊢;clear w;go_loopw [] (λwr=>wr=V) (λ_=>0)
 .rfl
 subst hrel;have aa:=X (O.o.ku J2.ok λd b=>u.o.2.B d (W<|(g.o d b).2) λe=>(g.o d b).1<|by injection e);go_wp21;refine(xo u.o.1 n p k q r aa.o (λd b=>⟨(g.o d b).1,W<|(g.o d b).2⟩) R.o M).M ?_;rintro e ai ⟨rfl,b⟩;have K:=X<|u.o.T b;have ab:=(b.2.B J I λe=>by injection e with e;omega).T G.o;have L:=(K.o.2.B S D λe=>by injection e with e;omega).T B.o;have⟨⟨aj,ak,al,am⟩,_⟩:=kL ab;have⟨⟨an,ao,ap,aq⟩,ar,au,av,aw⟩:=kL L;clear b;go_wp21;have hF:=zW (u0:=.int .u8 a.op) (u1:=tx a.name) (u2:=.int .i64 a.n) (u3:=Nl) L;have ac:=kr hF 0;have ad:=kr hF 1;have ae:=kr hF 2;have af:=kr hF 3;refine Q0 (v:=Lr a) ?_ rfl ⟨Z,zV (C.o.T K.o) (W F.o)<|SC F.o.symm⟩;simp[results,Tryz.results212,go_sem,ac,ad,ae,af]
def FB{w}{i f a d c g:Nat}{e m r}(p:w.ownsRow i f a (d,c+1,g) (c+1)<|e++m)(j:e.length=c*a)(z:m.length=a)(q:r.length=a):(kX w d (c*a) r).ownsRow i f a (d,c+1,g) (c+1)<|e++r:=by
 have⟨t,s,u,v,x,y⟩:=zw p;have k:=qL (b:=d) (T:=f) (t:=t) (r:=r) (m:=m) (l:=e) (w:=w) Y (by rw[<-Rv];exact s);rw[j]at k;have n:(e++r).length=(c+1)*a:=by rw[Q6,j,q,S4];omega
 refine⟨n,.inr ⟨d,g,_,Z,y,k,u,v,?_,?_⟩⟩;rw[<-x];simp only[Sd,Q6];omega;simp only[<-Rv];rw[<-n];exact List.take_left
structure Hq(wA:World)(pb bp sb:Nat)(k:Int)(nm hd:List UInt8)(xs:List Ex)(v:Value)(w:World):Prop where
 bx:w.heap[bp]?=some (.cells #[.pointer pb] 122)
 ex:w.heap[sb]?=some (.cells #[.int .u8 k,tx nm,tx hd,v,Nl,Nl] 175)
 own:w.ownsRow wA 180 4 v xs.length<|tU xs
 g:qy wA w pb sb
 lt:pb<bp/\pb<sb/\bp<wA/\sb<wA/\bp≠sb/\wA.heap.size<=w
def Db(a:World)(pb b c:Nat)(d:Int)(e f:List UInt8)(g:List Ex)(i:World):Prop:=∃j,Hq a pb b c d e f g j i
def pG{c:World}{d f g i:Nat}{e:Value}{j:List Value}(k:c.ownsRow d f g e i j)(a:Nat)(b:e.ownBlock=some a):d<=a/\a<c:=by
 rcases k.2 with⟨rfl,_⟩|⟨n,p,q,rfl,l,m,_⟩
 cases b;simp only[Value.ownBlock,Ts]at b;subst b;exact⟨l,(QS.1 m).1⟩
def Ce{d e:World}{b a f g i:Nat}{c:Value}{j:List Value}(k:d.ownsRow b a f c g j)(l:d.grownBy e<|some i)(m:i<b):e.ownsRow b a f c g j:=by
 refine k.kept l ?_;cases hv:c.ownBlock with
 |none=>exact .inl Z
 |some z=>exact .inr λa=>by injection a with a;have:=(pG k z hv).1;omega
def Hq.ku{e}{pb bp c:Nat}{k:Int}{f hd g v w w'}(a:Hq e pb bp c k f hd g v w)(b:w.grownBy w'<|some pb):Hq e pb bp c k f hd g v w':=by have⟨i,j,l,m,n,p⟩:=a.lt;exact⟨(b.B bp Y λd=>by injection d;omega).T a.bx,(b.B c Y λd=>by injection d;omega).T a.ex,Ce a.own b Y,a.g.grown b,i,j,l,m,n,Q8 p b.size⟩
def Db.ku{b}{pb bp c:Nat}{k:Int}{d hd e w w'}(a:Db b pb bp c k d hd e w)(f:w.grownBy w'<|some pb):Db b pb bp c k d hd e w':=by have⟨g,a⟩:=a;exact⟨g,a.ku f⟩
def FC{b c:World}{d:Option Nat}(a:b.grownBy c d):b.grownBy c.drew d:=⟨a.os,a.tape,a.output,a.size,a.B⟩
def vP(w:World)(o:Obj):w.grownBy (w.alloc o).drew none:=FC<|QX w o none
def yL(a:World):a.grownBy a.drew none:=FC<|lC a none
def wV(b:lj)(vQ:PV)(c:World)(pb d e f:Nat)(g:Int)(i j:List UInt8)(k:List Ex)(a:World):Prop:=mh b vQ a pb d/\Db c pb e f g i j k a
def K8{B:lj}{t:PV}{g u k}{m a n d e c p:Nat}{C:Int}{D E i J}{q x:Ex}(U:t.lo<=d)(K:mh B t u m a)(j:Hq g m n d C D E i J u)(F:u.grownBy k J.ownBlock)(L:i.length=c)
  (G:k.ownsRow g 180 4 (e,c+1,p) (c+1)<|tU i++A8 q):
  wV B t g m a n d C D E (i++[x]) ((kX k e (c*4)<|A8 x).setCell ⟨d,3,none⟩ (e,c+1,p))/\wV B t g m a n d C D E (i++[x]) (kX (k.setCell ⟨d,3,none⟩ (e,c+1,p)) e (c*4)<|A8 x):=by
 have⟨M,N,v,I,w,V⟩:=j.lt;have aa:g<=e:=(pG G e Z).1;have O:=F.size;have r:∀a,a<g.heap.size->k.heap[a]?=u.heap[a]?:=λa y=>F.B a Y λb=>W<|(pG j.own a b.symm).1;have z:∀(f:World) (s:Value),(f.setCell ⟨d,3,none⟩ s).heap.size=f:=λf s=>QW _ _ _;have A:∀(f:World) (s:Value) (a:Nat),a≠d->(f.setCell ⟨d,3,none⟩ s).heap[a]?=f.heap[a]?:=λf s a y=>Q5 _ _ _ _ y;have l:∀(f:World) (a:Nat),a≠e->(kX f e (c*4)<|A8 x).heap[a]?=f.heap[a]?:=λf a y=>mY y;have P:=(r d I).T j.ex;have Q:(tU i).length=c*4:=by rw[Cc,L]
 have R:(i++[x]).length=c+1:=by rw[Q6,L];rfl
 have S:qy g k m d:=j.g.lJ F λq b=>(pG j.own q b).1;refine⟨⟨K.ku (by rw[z,ma];exact O) (λa T=>by rw[A _ _ _ Y,l _ _ Y];exact r a Y),.slice e (c+1) p,?_,?_,?_,?_,M,N,v,I,w,?_⟩,⟨K.ku (by rw[ma,z];exact O) (λa T=>by rw[l _ _ Y,A _ _ _ Y];exact r a Y),.slice e (c+1) p,?_,?_,?_,?_,M,N,v,I,w,?_⟩⟩
 .rw[A _ _ _ w,l _ _ Y];exact(r n v).T j.bx
 .exact kt<|(l _ _ Y).T P
 .rw[R,zx];exact(FB G Q Z Z).kept (kE _ _ _ _) (.inr λb=>by simp[Value.ownBlock]at b;omega)
 .exact(S.lJ (pU _ _ _ _) λq b=>by injection b with b;omega).wZ (kE _ _ _ _)
 .rw[z,ma];omega
 .rw[l _ _ Y,A _ _ _ w];exact(r n v).T j.bx
 .rw[l _ _ Y];exact kt P
 .rw[R,zx];exact FB (G.kept (kE _ _ _ _)<|.inr λb=>by simp[Value.ownBlock]at b;omega) Q Z Z
 .exact(S.wZ<|kE _ _ _ _).lJ (pU _ _ _ _) (λq b=>by injection b with b;omega)
 .rw[ma,z];omega
def Io{g:lj}{vQ:PV}{e i f}{pb j k c b a l:Nat}{m:Int}{n p d r}{s x:Ex}(t:vQ.lo<=c)(u:mh g vQ i pb j)(v:Hq e pb k c m n p d r i)(w:i.grownBy f r.ownBlock)(y:d.length=a)
  (z:f.ownsRow e 180 4 (b,a+1,l) (a+1)<|tU d++A8 s):
  wV g vQ e pb j k c m n p (d++[x]) (((((f.setCell ⟨b,a*4,none⟩<|.int .u8 x.op).setCell ⟨b,a*4+1,none⟩<|tx x.name).setCell ⟨b,a*4+2,none⟩<|.int .i64 x.n).setCell ⟨b,a*4+3,none⟩ Nl).setCell ⟨c,3,none⟩ (b,a+1,l))/\wV g vQ e pb j k c m n p (d++[x]) (((((f.setCell ⟨c,3,none⟩ (b,a+1,l)).setCell ⟨b,a*4,none⟩<|.int .u8 x.op).setCell ⟨b,a*4+1,none⟩<|tx x.name).setCell ⟨b,a*4+2,none⟩<|.int .i64 x.n).setCell ⟨b,a*4+3,none⟩ Nl):=by
 have q:=K8 (x:=x) t u v w y z;unfold A8 at q;rw[FD,FD]at q;exact q
def LH{j d e}{pb k a:Nat}{f:Int}{g i l b}(c:Hq j pb k a f g i l b d)(m:d.grownBy e b.ownBlock):e.heap[a]?=some (.cells #[.int .u8 f,tx g,tx i,b,Nl,Nl] 175):=by have⟨p,q,r,s,t,u⟩:=c.lt;exact(m.B a Y λn=>W<|(pG c.own a n.symm).1).T c.ex
def Ip{b:World}{j c a k:Nat}{g:List Ex}(l:g.length=a){e:Ex}(m:b.ownsRow j 180 4 (c,a+1,k) (a+1)<|tU g++A8 e):(b.cell? ⟨c,a*4,none⟩=some (.int .u8 e.op)/\b.cell? ⟨c,a*4+1,none⟩=some (tx e.name)/\b.cell? ⟨c,a*4+2,none⟩=some (.int .i64 e.n)/\b.cell? ⟨c,a*4+3,none⟩=some Nl)/\b.frozen? ⟨c,a*4,none⟩=false/\b.frozen? ⟨c,a*4+1,none⟩=false/\b.frozen? ⟨c,a*4+2,none⟩=false/\b.frozen? ⟨c,a*4+3,none⟩=false:=by
 have n:(tU g).length=a*4:=by rw[Cc,l]
 have d:∀f i,(A8 e)[f]?=some i->b.cell? ⟨c,a*4+f,none⟩=some i/\b.frozen? ⟨c,a*4+f,none⟩=false:=λf i p=>Jg m _ _ (by rw[RY Y,n,Nat.add_sub_cancel_left];exact p);exact⟨⟨(d 0 _ Z).1,(d 1 _ Z).1,(d 2 _ Z).1,(d 3 _ Z).1⟩,(d 0 _ Z).2,(d 1 _ Z).2,(d 2 _ Z).2,(d 3 _ Z).2⟩
def Oo:Ex:=.mk 0 [] 0 []
def qQ.zy{f:Type}{j:f->Prop}{l:lj}{g:Nat->Option (f×Nat)}(m:∀d e c,g d=some (c,e)->j c):∀{k d e:Nat} {i:List f},pF l g k d=some (i,e)->∀c∈i,j c
 |0,_,_,_,a=>by cases a
 |k+1,d,e,i,a=>by
  obtain⟨c,p,r,n,rfl,s⟩:=rO a;unfold pF at a;rw[n]at a;simp only at a;intro q hy;rcases List.mem_cons.1 hy with rfl|hy;exact m _ _ _ n;split at a;cases hr:pF l g k (p+1)with
  |none=>rw[hr]at a;cases a
  |some z=>have⟨t,u⟩:=z;rw[hr]at a;injection a with a;injection a with b v;injection b with _ b;subst b;exact zy m hr q hy
  split at a;injection a with a;injection a with b _;injection b with _ b;subst b;cases hy;cases a
def qQ.Jj{c:Type}{f:c->Prop}{T:lj}{g:Nat->Option (c×Nat)}(j:∀d e b,g d=some (b,e)->f b){d e:Nat}{i:List c}(a:tI T g d=some (i,e)):∀b∈i,f b:=by unfold tI at a;split at a;split at a;injection a with a;injection a with k _;subst k;intro b l;cases l;exact zy j a;cases a
def qQ.zz{e:Type}{f:lj}{d:Nat->Option (e×Nat)}(g:∀b c i,d b=some (i,c)->b<c):∀{k b c:Nat} {j:List e},pF f d k b=some (j,c)->b<c
 |0,_,_,_,a=>by cases a
 |k+1,b,c,j,a=>by
  obtain⟨i,n,p,l,rfl,q⟩:=rO a;have r:=g _ _ _ l;unfold pF at a;rw[l]at a;simp only at a;split at a;cases hr:pF f d k (n+1)with
  |none=>rw[hr]at a;cases a
  |some z=>have⟨s,t⟩:=z;rw[hr]at a;injection a with a;injection a with _ m;subst m;have:=zz g hr;omega
  split at a;injection a with a;injection a with _ m;omega;cases a
def qQ.xp{d:Type}{T:lj}{e:Nat->Option (d×Nat)}(f:∀b c g,e b=some (g,c)->b<c){b c:Nat}{i:List d}(a:tI T e b=some (i,c)):b<c:=by unfold tI at a;split at a;split at a;injection a with a;injection a with _ j;omega;have:=zz f a;omega;cases a
def MO{d}{f:Nat}{v a}(l:d.ownsRow f 180 4 v a.length<|tU a)(m:∀c∈a,c.args=[]):kz (kP .u8 De) (λg=>f<=g/\g<d.heap.size) d v a:=by
 have n:∀(i:Nat->Prop) (b:List Ex),(∀c∈b,c.args=[])->lu (kP .u8 De i d) (b.map A8) b:=λi b=>by
  induction b with
  |nil=>exact λ_=>trivial
  |cons c b p=>exact λj=>⟨⟨_,Z,by rw[j c Us];exact kz.nil _ _ _⟩,p λq r=>j q<|by simp[r]⟩
 have s:(a.map A8).flatten=tU a:=Z;rcases l.2 with⟨rfl,t⟩|⟨u,w,B,rfl,x,k,y,z,C,A⟩
 obtain rfl:=RP t;exact kz.nil _ _ _;refine⟨_,w,a.map A8,Z,y,by unfold maxLen at z;omega,λ_=>⟨u,0,Z,⟨x,(QS.1 k).1⟩,λD E e=>?_⟩,n _ a m⟩;rw[s,<-A,Si]at e;split at e;rw[Re];simp only[World.cell?,k];simpa using e;cases e
def MP(T:lj)(f:PV)(g i:Nat)(a:St)(b:World)(j:Ending)(w':World):Prop:=∃(c:Option Addr) (d:Nat),j=.returned (.agg #[.int .u8 a.kind,tx a.name,tx a.hd,(c,a.lp.length,d),Nl,Nl])/\kz (kP .u8 De) (λe=>b<=e/\e<w') w' (c,a.lp.length,d) a.lp/\lN T f b g i w'
def vy{T:lj}{j k:Nat}{l}(a:vO T j=some (l,k)):ov T j=[115,101,110,100]/\∃b c d e f g i,vH T (j+1)=some (b,c)/\tq T [46] c=some d/\vH T d=some (e,f)/\tI T (qF T) f=some (g,i)/\tq T [59] i=some k/\l=.mk 6 b e g [] []:=by
 unfold vO at a;split at a
 rename_i m
 have⟨⟨b,c⟩,n,a⟩:=bind_some a;have⟨d,p,a⟩:=bind_some a;have⟨⟨e,f⟩,q,a⟩:=bind_some a;have⟨⟨g,i⟩,r,a⟩:=bind_some a;have⟨v,s,a⟩:=bind_some a;injection a with a;injection a with t u;subst t u;exact⟨m,b,c,d,e,f,g,i,n,p,q,r,s,Z⟩;cases a
def Hq.Da{c w}{d e b:Nat}{f:Int}{g j k v}(a:Hq c d e b f g j k v w)(i:Nat)(u){k':Int}{nm' hd'}(n:(#[.int .u8 f,tx g,tx j,v,Nl,Nl]:Array Value).setIfInBounds i u=#[.int .u8 k',tx nm',tx hd',v,Nl,Nl]):Hq c d e b k' nm' hd' k v<|w.setCell ⟨b,i,none⟩ u:=by
 have⟨p,q,r,s,l,t⟩:=a.lt;refine⟨(Q5 _ _ _ _ l).T a.bx,by rw[<-n];exact kt a.ex,?_,a.g.wZ<|kE _ _ _ _,p,q,r,s,l,by rw[QW];exact t⟩;refine a.own.kept (kE _ _ _ _) ?_;cases hv:v.ownBlock with
 |none=>exact .inl Z
 |some z=>exact .inr λm=>by injection m with m;have:=(pG a.own z hv).1;omega
def qQ.Cg{T:lj}{c d:Nat}{e:lI.St}(f:vO T c=some (e,d)):c<d:=by have⟨_,l,m,n,p,q,r,s,g,a,i,j,b,_⟩:=Go.Proofs.YtppncjcpdbhobaaGreatDoor.vy f;have t:=(Go.Proofs.YtppncjcpdbhobaaGreatDoor.ru g).2.2.1;have u:=(Go.Proofs.YtppncjcpdbhobaaGreatDoor.ru i).2.2.1;unfold tq at a b;split at a;split at b;injection a with a;injection b with b;have v:=xp (λc d w k=>Cf k) j;omega;cases b;cases a
def qQ.EH{T:lj}{c b g:Nat}{i:List lI.St}(a:qU T c b=some (i,g)):(ov T b=[125]/\i=[]/\g=b+1)\/(ov T b≠[125]/\∃e d f m,vO T b=some (e,d)/\i=e::f/\qU T m d=some (f,g)):=by
 cases c with
 |zero=>cases a
 |succ c=>
  unfold qU at a;split at a
  rename_i j
  injection a with a;injection a with k l;exact .inl ⟨j,k.symm,l.symm⟩
  rename_i j
  cases hs:vO T b with
  |none=>rw[hs]at a;cases a
  |some y=>
   have⟨e,d⟩:=y;rw[hs]at a;simp only at a;cases hr:qU T c d with
   |none=>rw[hr]at a;cases a
   |some z=>have⟨f,n⟩:=z;rw[hr]at a;injection a with a;injection a with k l;subst k l;exact .inr ⟨j,e,d,f,c,Z,Z,hr⟩
def lN.lJ{T:lj}{vQ:PV}{w f g}{i p:Nat}{r}(a:lN T vQ w i p f)(l:vQ.lo<=w)(b:f.grownBy g r)(j:∀z,r=some z->w<=z):lN T vQ w i p g:=
 ⟨a.1.ku b.size λc d=>b.B c (W a.2.size) λe=>W<|j c e.symm,⟨b.os.T a.2.os,b.tape.T a.2.tape,b.output.T a.2.output,Q8 a.2.size b.size,λc d k=>(b.B c (QR d a.2.size) λe=>W<|j c e.symm).T<|a.2.B c d k⟩⟩
def MR(T:lj)(g:PV)(i j:Nat)(a:List St)(c:World)(k:Ending)(b:World):Prop:=∃(d:Option Addr) (e:Nat),k=.returned (d,a.length,e)/\kz (kR .u8 Ds) (λf=>c<=f/\f<b) b (d,a.length,e) a/\lN T g c i j b
def qy.base{c d e:World}{p f:Nat}(b:qy d e p f)(a:c.grownBy d<|some p)(l:c<=f):c.grownBy e<|some p:=
 ⟨b.os.T a.os,b.tape.T a.tape,b.output.T a.output,Q8 a.size b.size,λg i j=>(b.B g (QR i a.size) (λk=>j<|by rw[k]) Y).T<|a.B g i j⟩
structure Nq(wA:World)(pb bp sb:Nat)(nm:List UInt8)(ps:List<|List UInt8)(v:Value)(w:World):Prop where
 bx:w.heap[bp]?=some (.cells #[.pointer pb] 122)
 ex:w.heap[sb]?=some (.cells #[tx nm,v,Nl] 111)
 own:w.ownsRow wA 9 1 v ps.length<|ps.map tx
 g:qy wA w pb sb
 lt:pb<bp/\pb<sb/\bp<wA/\sb<wA/\bp≠sb/\wA.heap.size<=w
def J9(a:World)(b c d:Nat)(e:List UInt8)(f:List<|List UInt8)(g:World):Prop:=∃i,Nq a b c d e f i g
def Nq.ku{e}{pb bp c:Nat}{f g v w w'}(a:Nq e pb bp c f g v w)(b:w.grownBy w'<|some pb):Nq e pb bp c f g v w':=by have⟨i,j,k,l,m,n⟩:=a.lt;exact⟨(b.B bp Y λd=>by injection d;omega).T a.bx,(b.B c Y λd=>by injection d;omega).T a.ex,Ce a.own b Y,a.g.grown b,i,j,k,l,m,Q8 n b.size⟩
def MT{s:lj}{n:PV}{f m c}{i a p b e d j:Nat}{t k u}{x:List UInt8}(L:n.lo<=b)(C:mh s n m i a)(g:Nq f i p b t k u m)(q:m.grownBy c u.ownBlock)(D:k.length=d)
  (v:c.ownsRow f 9 1 (e,d+1,j) (d+1)<|k.map tx++[tx x]):
  mh s n (c.setCell ⟨b,1,none⟩ (e,d+1,j)) i a/\J9 f i p b t (k++[x]) (c.setCell ⟨b,1,none⟩ (e,d+1,j)):=by
 have⟨E,F,w,y,z,M⟩:=g.lt;have N:f<=e:=(pG v e Z).1;have G:=q.size;have r:∀a,a<f.heap.size->c.heap[a]?=m.heap[a]?:=λa A=>q.B a Y λl=>W<|(pG g.own a l.symm).1;have B:∀(a:Nat),a≠b->(c.setCell ⟨b,1,none⟩ (e,d+1,j)).heap[a]?=c.heap[a]?:=λa A=>Q5 _ _ _ _ A;have I:(k++[x]).length=d+1:=by rw[Q6,D];rfl
 have J:qy f c i b:=g.g.lJ q λK l=>(pG g.own K l).1;refine⟨C.ku (by rw[QW];exact G) (λa O=>by rw[B _ Y];exact r a Y),.slice e (d+1) j,?_,?_,?_,?_,E,F,w,y,z,?_⟩
 .rw[B _ z];exact(r p w).T g.bx
 .exact kt<|(r b y).T g.ex
 .rw[I,List.map_append];exact v.kept (kE _ _ _ _) (.inr λl=>by simp[Value.ownBlock]at l;omega)
 .exact J.wZ<|kE _ _ _ _
 .rw[QW];omega
def G2{T:lj}{m:PV}{g t u n b:Nat}{x w a}(p f)(E:vH T t=some (x,u))(F:mh T m f g t)(c:J9 p g n b w a f)(G:m.lo<=b)(ae:a.length<=20000):
  Calls prog 165 #[.pointer b,.pointer n] f λi y=>(∃v,i=.returned v)/\mh T m y g u/\J9 p g n b w (a++[x]) y:=by
 have⟨I,J,K,L,M⟩:=Rm MS;have j:=Ft J K L M;have⟨v,c⟩:=c;have⟨af,ag,ah,ai,aj,ak⟩:=c.lt;have N:=X E;have O:=X F;have al:=kr c.bx 0
 obtain⟨q,r,rfl⟩:∃q r,v=.slice q a.length r:=by
  rcases c.own.2 with⟨rfl,P⟩|⟨Q,R,am,rfl,_⟩
  exact⟨none,0,by rw[P]⟩;exact⟨_,_,Z⟩
 have S:=kr c.ex 1;have U:=X c;have z:a.length+1<=maxLen:=UA
 have A:(a.length+1)*16<=140737488355328:=Y
 obtain⟨k,l⟩:∃k,a.length=k:=⟨_,Z⟩
 rw[l]at S z A
 go_enter func165,ntmps165
 go_upto_region 0 with fail;go_region_law (first|(go_simp;go_at_call 70;refine Calls.M (oJ (O.o.grown<|yL f) N.o) ?_;rintro i d ⟨rfl,B⟩;have e:=(U.o.ku<|kK (yL f) _).ku B.2;have V:=kr e.ex 1;rw[l]at e V;have s:=e.own;rw[l]at s;have an:=e.lt.2.2.2.2.2;have aa:b<d:=Y)|(refine TT (d.alloc<|.cells #[tx x] 9) (by rfl) (.tmp 3) (.tmp 6) 62 (by rfl) p 9 I _ 1 16 underlying62 j.o.1 j.o.2.1 j.o.2.2.1 j.o.2.2.2 Z Ur (.slice q k r) k (a.map tx) (by rfl) (s.alloc _) ⟨d,0,none⟩ 1 1 [tx x] (by rfl) (by rfl) (TC<|QT d _) (by simp[Value.oneCell']) Ur z A Uy (d+1) Us ?_;intro Q R ao ab C ap aq;have ac:=MT (x:=x) G (B.1.kv<|(Below.refl _ _).alloc (QZ _)<|.cells #[tx x] 9) (e.ku<|kK (QX d (.cells #[tx x] 9) none) _) C l ab;have D:=(C.B b Uy λi=>W<|(pG s b i.symm).1).T<|(Q9 d (.cells #[tx x] 9) aa).T e.ex;have ar:=kr D 1;have au:=kx D 1));all_goals
  have ad:=X ac;go_wp21
  go_end0
  exact⟨⟨_,Z⟩,ad.o⟩
def qQ.zA{c:lj}:∀{k b d:Nat} {e:List lI.St},qU c k b=some (e,d)->b<d
 |0,_,_,_,a=>by cases a
 |k+1,b,d,e,a=>by
  unfold qU at a;split at a;injection a with a;injection a with _ f;omega;cases hs:vO c b with
  |none=>rw[hs]at a;cases a
  |some y=>
   have⟨i,g⟩:=y;rw[hs]at a;simp only at a;cases hr:qU c k g with
   |none=>rw[hr]at a;cases a
   |some z=>have⟨j,l⟩:=z;rw[hr]at a;injection a with a;injection a with _ f;subst f;have:=Cg hs;have:=zA hr;omega
def qQ.zC{T:lj}{b c:Nat}{d:List lI.St}(a:uW T b=some (d,c)):b<c:=by unfold uW at a;split at a;have:=zA a;omega;cases a
def qQ.uJ{T:lj}{g i:Nat}{j:lI.Hd}(a:sB T g=some (j,i)):∃b c d e f,vH T g=some (b,c)/\tI T (vH T) c=some (d,e)/\uW T e=some (f,i)/\j=⟨b,d,f⟩:=by unfold sB at a;have⟨⟨b,c⟩,k,a⟩:=Go.Proofs.YtppncjcpdbhobaaGreatDoor.bind_some a;have⟨⟨d,e⟩,l,a⟩:=Go.Proofs.YtppncjcpdbhobaaGreatDoor.bind_some a;have⟨⟨f,q⟩,m,a⟩:=Go.Proofs.YtppncjcpdbhobaaGreatDoor.bind_some a;injection a with a;injection a with n p;subst n p;exact⟨b,c,d,e,f,k,l,m,Z⟩
def qQ.zD{n:Type}{T:lj}{c}{d:Nat->Option (n×Nat)}{e b i:Nat}{j:List n}(a:pC T c d e b=some (j,i)):(ov T b≠c/\j=[]/\i=b)\/(ov T b=c/\∃p f g q,d (b+1)=some (p,f)/\j=p::g/\pC T c d q f=some (g,i)):=by
 cases e with
 |zero=>cases a
 |succ e=>
  unfold pC at a;split at a
  rename_i k
  cases hs:d (b+1)with
  |none=>rw[hs]at a;cases a
  |some y=>
   have⟨r,f⟩:=y;rw[hs]at a;simp only at a;cases hr:pC T c d e f with
   |none=>rw[hr]at a;cases a
   |some z=>have⟨g,s⟩:=z;rw[hr]at a;injection a with a;injection a with l m;subst l m;exact .inr ⟨k,r,f,g,e,Z,Z,hr⟩
  rename_i k
  injection a with a;injection a with l m;exact .inl ⟨k,l.symm,m.symm⟩
def K9{d}{g:Nat}{v c}(l:d.ownsRow g 9 1 v c.length<|c.map tx):kz kO (λi=>g<=i/\i<d.heap.size) d v c:=by
 have m:∀(j:Nat->Prop) (a:List<|List UInt8),lu (kO j d) (a.map λb=>[tx b]) a:=λj a=>by
  induction a with
  |nil=>trivial
  |cons b a f=>exact⟨Z,f⟩
 have n:∀a:List<|List UInt8,(a.map λb=>[tx b]).flatten=a.map tx:=λa=>by
  induction a with
  |nil=>rfl
  |cons b a f=>rw[Rx,R8,f];rfl
 have p:=n c;rcases l.2 with⟨rfl,q⟩|⟨r,s,y,rfl,t,k,u,w,z,x⟩
 obtain rfl:=RP q;exact kz.nil _ _ _;refine⟨_,s,c.map λb=>[tx b],Z,u,by unfold maxLen at w;omega,λ_=>⟨r,0,Z,⟨t,(QS.1 k).1⟩,λA B e=>?_⟩,m _ c⟩;rw[p,<-x,Si]at e;split at e;rw[Re];simp only[World.cell?,k];simpa using e;cases e
def xa{c d e:World}{f:Option Nat}{z:Nat}(a:c.grownBy d f)(b:d.grownBy e<|some z)(l:c<=z):c.grownBy e f:=
 ⟨b.os.T a.os,b.tape.T a.tape,b.output.T a.output,Q8 a.size b.size,λg i k=>(b.B g (QR i a.size) λj=>by injection j with j;omega).T<|a.B g i k⟩
def MV(T:lj)(g:PV)(i j:Nat)(a:List Hd)(c:World)(k:Ending)(b:World):Prop:=∃(d:Option Addr) (e:Nat),k=.returned (.agg #[(d,a.length,e)])/\kz (mv .u8) (λf=>c<=f/\f<b) b (d,a.length,e) a/\lN T g c i j b
def Fr.T{lo pb:Nat}{a b d}(c:Fr lo pb a b)(k:Fr lo pb b d):Fr lo pb a d:=⟨k.os.T c.os,k.tape.T c.tape,k.output.T c.output,Q8 c.size k.size,λe f g=>(k.B e f g).T<|c.B e f g⟩
def Fr.of{b pb:Nat}{c d r}(a:c.grownBy d r)(i:b<=c.heap.size)(f:∀z,r=some z->b<=z\/z=pb):Fr b pb c d:=
 ⟨a.os,a.tape,a.output,a.size,λe j k=>a.B e Y λg=>by rcases f e g.symm with h|h<;>omega⟩
def mh.tree{T:lj}{a:PV}{w}{pb pos:Nat}(c:mh T a w pb pos):∃(d:Value) (b:Int),w.heap[pb]?=some (.cells #[d,pos,b,a.v1,a.v2,a.v3,a.v4,.int .i64 0,.int .i64 0] 129):=by have⟨f,g,b,e,_⟩:=c.ll;exact⟨_,b,e⟩
def MX(e:lj)(f:PV)(b g c:Nat)(i:List Fg)(w a:World):Prop:=∃d,mh e {f with v2:=d} a b g/\kJ mH 93 2 (λ_=>False) a c d i/\Fr c b w a
def zF{b:lj}{i j:Nat}{k}(a:wT b i=some (k,j)):∃e f c g d,vH b i=some (e,f)/\tq b [123] f=some c/\ov b c≠[118,97,114]/\uB b c=some (g,d)/\ov b d≠[118,101,114,115,105,111,110]/\tq b [125] d=some j/\k=⟨e,[],[g]⟩:=by
 unfold wT at a;have⟨⟨e,f⟩,l,a⟩:=bind_some a;have⟨c,m,a⟩:=bind_some a;simp only at a;split at a;cases a
 rename_i n
 have⟨⟨g,d⟩,p,a⟩:=bind_some a;simp only at a;split at a;cases a
 rename_i q
 have⟨u,r,a⟩:=bind_some a;injection a with a;injection a with s t;subst s t;exact⟨e,f,c,g,d,l,m,n,p,q,r,Z⟩
def M0(d:lj)(e:PV)(b f a:Nat)(g:List Co)(w w':World):Prop:=∃c,mh d {e with v4:=c} w' b f/\kJ (mn .u8) 98 3 (λi=>a<=i) w' a c g/\Fr a b w w'
def vz{T:lj}{pb pos q bp k:Nat}{j:Type}(l:Nat->Option (j×Nat))(m)(x:m≠[])(n:List j)(J:pC T m l k pos=some (n,q))(p:FuncId)(ab:∀(y:Array Value) (b:World),Sem.run prog (callFunc p y) b=.ok (.enter p y) b)(e:List j->Nat->World->Prop)
  (z:∀c a b,e c a b->b.cell? bp=some (.pointer pb)/\∃V',mh T V' b pb a/\∀d w',lN T V' b pb d w'->e c d w')
  (A:∀a d f,l a=some (f,d)->a<d)
  (K:∀c a d f b,l a=some (f,d)->e c a b->c.length<=20000->Calls prog p #[.pointer pb] b λg w'=>(∃s,g=.returned s)/\e (c++[f]) d w')
  (b:World) (B:e [] pos b):
  Calls prog 67 #[tx m,.func (.func p) #[.pointer pb] #[],.pointer bp] b λg w'=>(∃s,g=.returned s)/\e n q w':=by
 have r:=(GO z<|GO A K)
 have L:=B;have M:=J;have⟨_,ac,N,_⟩:=z _ _ _ B;have ad:=N.small
 go_enter func67,ntmps67
 go_wp21
 go_loopg [] (T.length-pos) (λO wr=>∃(c t:List j) (a k:Nat),c++t=n/\pC T m l k a=some (t,q)/\c.length<=a/\a+O=T.length/\e c a wr)
 .exact⟨[],n,pos,_,Z,M,Q1 _,Y,L⟩
 have⟨c,t,a,ae,i,P,af,ag,Q⟩:=hrel;have⟨ah,V',R,C⟩:=r.1 _ _ _ Q;have D:=(lN.refl R)
 rcases zD P with⟨u,rfl,rfl⟩|⟨u,f,d,S,U,E,rfl,V⟩
 .go_wp21;apply(mC D _ x u).M;rintro g F ⟨rfl,v⟩;have w:=(C _ _ v)
  go_wp21
  go_end0
  have i:=i;rw[Sq]at i;subst i;exact⟨⟨_,Z⟩,w⟩
 have G:=(GO E V)
 have A:=r.2.1 _ _ _ E;go_wp21;apply(sD D _ x u).M;rintro g F ⟨rfl,v⟩;have w:=(C _ _ v)
 go_wp21;apply(r.2.2 c _ _ f F G.1 w Y).M;rintro g ai ⟨⟨aj,rfl⟩,I⟩;have⟨_,ak,aa,_⟩:=r.1 _ _ _ I;have al:=aa.small;go_wp21
 go_roundg (T.length-d)
 case measure=>omega
 case rel=>exact⟨c++[f],S,d,U,by rw[Rv];exact i,G.2,by rw[Q6];simp;omega,Y,I⟩
def qQ.Ch{e:Type}{f:lj}{g}{d:Nat->Option (e×Nat)}(i:∀b c m,d b=some (m,c)->b<c):∀{k b c:Nat} {j:List e},pC f g d k b=some (j,c)->b<=c
 |0,_,_,_,a=>by cases a
 |k+1,b,c,j,a=>by
  unfold pC at a;split at a;cases hs:d (b+1)with
  |none=>rw[hs]at a;cases a
  |some y=>
   have⟨p,n⟩:=y;rw[hs]at a;simp only at a;cases hr:pC f g d k n with
   |none=>rw[hr]at a;cases a
   |some z=>have⟨q,r⟩:=z;rw[hr]at a;injection a with a;injection a with _ l;subst l;have:=i _ _ _ hs;have:=Ch i hr;omega
  injection a with a;injection a with _ l;omega
def qQ.C1{d:lj}{a b:Nat}{e:lI.Hd}(c:sB d a=some (e,b)):a<b:=by have⟨j,k,l,m,n,f,g,i,_⟩:=uJ c;have:=rJ f;have:=xp (λa b p c=>rJ c) g;have:=zC i;omega
def qQ.Jl{T:lj}{c q:Nat}{d:lI.Co}(e:wT T c=some (d,q)):c<q:=by have⟨j,k,l,m,n,f,a,_,g,_,b,_⟩:=Go.Proofs.YtppncjcpdbhobaaGreatDoor.zF e;have:=rJ f;have:=Ch (λc q p i=>C1 i) g;unfold tq at a b;split at a;injection a;split at b;injection b;omega;cases b;cases a
def Pn(T:lj)(b:PV)(pb:Nat)(c:Fl)(d w':World):Prop:=∃v2 v4,mh T {b with v1:=tx c.name,v2:=v2,v4:=v4} w' pb T.length/\kz mH (λa=>b.lo<=a/\a<w') w' v2 c.kN/\kz (mn .u8) (λa=>b.lo<=a/\a<w') w' v4 c.kF/\c.mj=[]/\Fr b.lo pb d w'
def J1(T:lj)(d:PV)(pb bp b:Nat)(e:World)(f:List Fg)(g:Nat)(a:World):Prop:=a.cell? bp=some (.pointer pb)/\∃c,mh T {d with v2:=c} a pb g/\kJ mH 93 2 (λ_=>False) a b c f/\Fr b pb e a
def J3(T:lj)(d:PV)(pb bp b:Nat)(e:World)(f:List Co)(g:Nat)(a:World):Prop:=a.cell? bp=some (.pointer pb)/\∃c,mh T {d with v4:=c} a pb g/\kJ (mn .u8) 98 3 (λi=>b<=i) a b c f/\Fr b pb e a
def J1.ok{T:lj}{vQ:PV}{pb bp lo:Nat}{c}(q:bp<lo/\bp≠pb)(r:vQ.lo<=lo)(s:lo<=c.heap.size)(g)(p:Nat)(w)(d:J1 T vQ pb bp lo c g p w):w.cell? bp=some (.pointer pb)/\∃V',mh T V' w pb p/\∀e w',lN T V' w pb e w'->J1 T vQ pb bp lo c g e w':=by have⟨i,l,j,k,f⟩:=d;have m:=j.low.1;have t:pb<vQ.lo:=m;refine⟨i,_,j,λe w' b=>⟨(Cb bp 0<|b.2.B bp (W f.size) λa=>by injection a with a;omega).T i,l,b.1,k.grown mH.ok b.2 (λn a=>by injection a with a;subst a;exact⟨λd=>d,λa=>W<|(k.ge _ a.symm).1⟩),f.T<|Fr.of b.2 (W f.size) λn a=>.inr<|by injection a with a;exact a.symm⟩⟩
def J3.ok{T:lj}{vQ:PV}{pb bp lo:Nat}{c}(q:bp<lo/\bp≠pb)(r:vQ.lo<=lo)(s:lo<=c.heap.size)(f)(p:Nat)(w)(k:J3 T vQ pb bp lo c f p w):w.cell? bp=some (.pointer pb)/\∃V',mh T V' w pb p/\∀d w',lN T V' w pb d w'->J3 T vQ pb bp lo c f d w':=by have⟨g,l,i,j,e⟩:=k;have m:=i.low.1;have t:pb<vQ.lo:=m;refine⟨g,_,i,λd w' b=>⟨(Cb bp 0<|b.2.B bp (W e.size) λa=>by injection a with a;omega).T g,l,b.1,j.grown (mn.ok .u8) b.2 (λn a=>by injection a with a;subst a;exact⟨Y,λa=>W<|(j.ge _ a.symm).1⟩),e.T<|Fr.of b.2 (W e.size) λn a=>.inr<|by injection a with a;exact a.symm⟩⟩
def qQ.tree:Fl:=⟨[102],[⟨[115,108,111,119],false⟩],[],[⟨[102,114,111,110,116],[],[[⟨[104],[],[.mk 6 [98,97,99,107] [103,101,116] [.mk 1 [] 1 [],.mk 1 [] 7 []] [] []]⟩]]⟩,⟨[98,97,99,107],[],[[⟨[103,101,116],[[105],[106]],[]⟩]]⟩]⟩
def La(a:Fl)(b:World)(j:Ending)(c:World):Prop:=∃(d:Option Addr) (e:Nat) (f:Option Addr) (g:Nat),j=.returned (.tuple #[.agg #[tx a.name,(d,a.kN.length,e),Nl,(f,a.kF.length,g)],.int .i64 0,.int .i64 0])/\
 pX (λi=>b<=i/\i<c) c d a.kN.length e none 0 0 f a.kF.length g a/\Below b b c
def Bn(a:Int):Ex:=.mk 1 [] a []
def rk:St:=.mk 6 [98,97,99,107] [103,101,116] [Bn 1,Bn 7] [] []
def Ls:Hd:=⟨[104],[],[rk]⟩
def pH:Co:=⟨[102,114,111,110,116],[],[[Ls]]⟩
def wK:tree=⟨[102],[⟨[115,108,111,119],false⟩],[],[pH,qG]⟩:=rfl
def zG{b:Int}(a:0<=b):mJ De<|Bn b:=lR (d:=5) (k:=1) Z Y Z Z (λa=>by simp at a) (λ_=>Z) (λ_=>a) (λa=>absurd Z a) (by simp[Bn,Ex.args])
def Jn{b}{a:Int}(c:0<=a)(d:a<=8):lM b De<|Bn a:=.inl ⟨Z,Z,c,d,Z⟩
def lits:∀a∈rk.lp,a=Bn 1\/a=Bn 7:=by simp[rk,St.lp]
def EO:nS Ds rk:=by refine⟨⟨_,Ur,Z,λ_=>Uz,λa=>by simp at a,λ_=>Uz,λa=>by simp at a,Ur,Ur,λ_=>Z,λ_=>Z⟩,λb c=>?_,⟨Ur,Ur⟩,by simp[rk,St.th],by simp[rk,St.el]⟩;rcases lits b c with rfl|rfl<;>exact zG Y
def vA:mo tree:=by
 have a:vL Ls:=⟨Uz,Ur,by simp[Ls],Ur,by simp only[Ls,Ry];rintro g rfl;exact EO,Ur⟩
 have b:vL Lt:=⟨Uz,Ur,Uz,Ur,by simp[Lt],Ur⟩
 have c:Br pH:=⟨Uz,Ur,by simp[pH],Ur,Ur,by simp only[pH,Ry];rintro d rfl;exact⟨Ur,by simp only[Ry];rintro e rfl;exact a⟩⟩
 have f:Br qG:=⟨Uz,Ur,by simp[qG],Ur,Ur,by simp only[qG,Ry];rintro d rfl;exact⟨Ur,by simp only[Ry];rintro e rfl;exact b⟩⟩
 rw[wK];refine⟨Uz,Ur,Uz,Ur,Us,Ur,Ur,?_⟩;simp only[Rq,Rk,RQ];rintro i (rfl|rfl);exact c;exact f
def NJ{e f d}(a:Nat)(i:e.length<=1000/\f.length<=1000/\d.length<=90)(j:∀a c,d[a]?=some c->c∉d.take a/\(f.find? λk=>k.name==c)=none/\oX e c=false/\c.length<=12):J5 ⟨0,0,0,0,[],a⟩ e f d:=by
 refine⟨i,λm n l=>?_,λg=>absurd (show(0:Nat)=1 from g) Ur,λa b=>absurd b Us,λg=>absurd (show 1<=(0:Nat)from g) Ur,j⟩;rcases l with⟨_,⟨a,b,_⟩|⟨a,b,_⟩⟩|⟨_,b,_⟩
 exact absurd b Us;exact absurd b Us;exact absurd (show 1<=(0:Nat)from b) Ur
def Jo(a:Nat):Hk ⟨0,0,0,0,[],a⟩ [pH,qG] Ds rk:=by refine .inr ⟨Ur,Z,Z,Z,⟨qG,Lt,Z,Ur,Ur,Z,Z⟩,Ur,λb c=>?_⟩;rcases lits b c with rfl|rfl<;>exact Jn Y Y
def M6:JZ tree:=by
 rw[wK];refine⟨⟨Ur,λk f a=>?_⟩,⟨Ur,λk f a=>by simp at a⟩,Ur,λk q c=>?_⟩
 match k,a with
 |0,a=>injection a with a;subst a;exact⟨Uz,Ur⟩
 |k+1,a=>simp at a
 match k,c with
 |0,c=>
  injection c with c;subst c;refine⟨Ur,Uz,Uz,Ur,λe f a=>by simp[pH]at a,Ur,Ur,λi d e f a=>?_⟩;simp only[pH,Ry]at d;subst d
  match e,a with
  |0,a=>injection a with a;subst a;refine⟨Ur,Uz,λm n j=>?_,Ur,⟨0,0,0,0,[],0⟩,Z,NJ 0 ⟨Ur,Ur,Ur⟩ (λk p b=>by simp[Ls]at b),?_,λl=>absurd l Ur⟩;have⟨i,d,g⟩:=List.mem_flatten.1<|TN j;have:=SJ d;simp only[pH,Ry]at this;subst this;simp only[Ry]at g;subst g;rfl;simp only[Ls,Ry];rintro r rfl;exact Jo 0
  |e+1,a=>simp at a
 |1,c=>
  injection c with c;subst c;refine⟨Ur,Uz,Uz,Ur,λe f a=>by simp[qG]at a,Ur,Ur,λi d e f a=>?_⟩;simp only[qG,Ry]at d;subst d
  match e,a with
  |0,a=>
   injection a with a;subst a;refine⟨Ur,Uz,λm n j=>?_,Ur,⟨0,0,0,0,[],1⟩,Z,NJ 1 ⟨Ur,Ur,Ur⟩ λk p b=>?_,by simp[Lt],λl=>absurd l Ur⟩;have⟨i,d,g⟩:=List.mem_flatten.1<|TN j;have:=SJ d;simp only[qG,Ry]at this;subst this;simp only[Ry]at g;subst g;rfl
   match k,b with
   |0,b=>injection b with b;subst b;exact⟨Ur,Uz,Uz,Ur⟩
   |1,b=>injection b with b;subst b;exact⟨Ur,Uz,Uz,Ur⟩
   |k+2,b=>simp[Lt]at b
  |e+1,a=>simp at a
 |k+2,c=>simp at c
def Lc:Nn tree:=by
 rw[wK];have b:C6 [pH,qG] Ds rk:=⟨⟨Ur,Ur⟩,Ur,λc d=>by rcases lits c d with rfl|rfl<;>exact zG Y,λ_=>⟨qG,Us,Z⟩,by simp[rk,St.th],by simp[rk,St.el]⟩
 intro g a;simp only[Rq,Rk,RQ]at a;rcases a with rfl|rfl;refine⟨Ur,Ur,?_⟩;simp only[pH,Ry];rintro e rfl;refine⟨Ur,?_⟩;simp only[Ry];rintro f rfl;refine⟨Ur,Ur,?_⟩;simp only[Ls,Ry];rintro i rfl;exact b;refine⟨Ur,Ur,?_⟩;simp only[qG,Ry];rintro e rfl;refine⟨Ur,?_⟩;simp only[Ry];rintro f rfl;exact⟨Ur,Ur,by simp[Lt]⟩
def Ld:∀a∈tree.kF,LM a:=by
 rw[wK];have b:FL Ds rk:=⟨λc d=>by rcases lits c d with rfl|rfl<;>exact⟨λ_=>Ur,by simp[Bn,Ex.args]⟩,by simp[rk,St.th],by simp[rk,St.el]⟩
 simp only[Rq,Rk,RQ];rintro a (rfl|rfl);refine⟨by simp[pH],?_⟩;simp only[pH,Ry];rintro e rfl;simp only[Ry];rintro f rfl;simp only[Ls,Ry];rintro g rfl;exact b;refine⟨by simp[qG],?_⟩;simp only[qG,Ry];rintro e rfl;simp only[Ry];rintro f rfl;simp[Lt]
def M8:line (kG tree) ⟨4,1,5,0,0,0,0,0,[1,7]⟩=HY:=Ut
def M9:line (kG tree) ⟨4,2,1,0,0,0,0,1,[]⟩=E2:=Ut
def lI.oz{c:Nat}{a}{k:Nat}{b}(g:a.kind=(k:Int))(s:1<=k)(i:forms[k]?=some b)(d:(b.1=true->mZ a.name=true)/\(b.1=false->a.name=[]))(e:(b.2.1=true->mZ a.hd=true)/\(b.2.1=false->a.hd=[]))(f:b.2.2.1<=a.lp.length/\a.lp.length<=b.2.2.2.1)(j:b.2.2.2.2.1=false->a.th=[])(l:b.2.2.2.2.2=false->a.el=[])
  (m:∀n∈a.lp,mJ De n) (p:a.th.length<=12/\a.el.length<=12) (q:∀b∈a.th,nS c b) (r:∀b∈a.el,nS c b):nS (c+1) a:=
 ⟨⟨b,Y,by rw[g];simpa using i,d.1,d.2,e.1,e.2,f.1,f.2,j,l⟩,m,p,q,r⟩
def lI.mP.HZ{y}(i:P3 y):∀{d:Nat} {z:List St},(∀l∈z,mP y d l)->kT d z<=12->∀l∈z,nS d l
 |0,_,a,_,l,hs=>(a l hs).elim
 |d+1,z,h0,hc,l,hs=>by
  have a:=h0 l hs;have A:=a.sub;have aa:=(qj hc).2 l hs;have p:∀B∈l.th,nS d B:=mP.HZ i A.1 Y;have q:∀B∈l.el,nS d B:=mP.HZ i A.2 Y;have ab:=Ar A.1;have ac:=Ar A.2;have s:∀u,lM y De u->mJ De u:=λu C=>lM.lQ ⟨i.ints,i.params⟩ C;have D:∀u,nz y De u->mJ De u:=λu C=>nz.lQ ⟨i.ints,i.params⟩ i.kN C;have r:l.th.length<=12/\l.el.length<=12:=⟨Y,Y⟩
  have J:∀{k:Nat},k<3->mZ (nm 120 k)=true:=λM=>nB letters.1 Y;have K:∀{k:Nat},k<3->mZ (nm 104 k)=true:=λM=>nB letters.2.2.2.2.2 Y;have L:mZ (nm 116 0)=true:=nB letters.2.2.1 Y;have N:mZ (nm 98 0)=true:=nB letters.2.2.2.1 Y;have ad:=i.ints;rcases a with⟨k,e,f,j,u,c,a⟩|⟨k,_,g,e,f,j,t,O,c,m,E⟩|⟨k,_,g,e,f,j,t,c,m⟩|⟨k,g,e,⟨t,c,m⟩,_,_⟩|⟨k,g,e,j,⟨t,c,m⟩,_⟩|⟨k,f,j,⟨ae,w,P,t,v,x,Q,F,G⟩,c⟩|⟨k,g,f,j,⟨w,P,t,v,x,F,G⟩,c⟩|⟨k,g,e,f,⟨t,O,c,m,E⟩,_⟩|⟨k,e,f,⟨R,S,g⟩,⟨t,c,m⟩,_⟩|⟨k,g,e,f,j,c⟩
  refine oz (k:=1) k Y Z ⟨λ_=>?_,λa=>by simp at a⟩ ⟨λa=>by simp at a,λ_=>e⟩ (by rw[c];simp) (λ_=>f) (λ_=>j) (λn b=>?_) r p q;rcases a with⟨R,S,I,_⟩|⟨I,_⟩
  rw[I];exact J Y;rw[I];exact N;rw[c]at b;simp at b;subst b;rcases a with⟨_,_,_,a⟩|⟨_,a⟩
  exact s _ a;exact D _ a;exact oz (k:=2) k Y Z ⟨λ_=>by rw[g];exact L,λa=>by simp at a⟩ ⟨λa=>by simp at a,λ_=>e⟩ (by rw[c];simp) (λ_=>f) (λ_=>j) (λn b=>by rw[c]at b;simp at b;rcases b with rfl|rfl;exact s _ m;exact s _ E) r p q;exact oz (k:=3) k Y Z ⟨λ_=>by rw[g];exact L,λa=>by simp at a⟩ ⟨λa=>by simp at a,λ_=>e⟩ (by rw[c];simp) (λ_=>f) (λ_=>j) (λn b=>by rw[c]at b;simp at b;subst b;exact s _ m) r p q;exact oz (k:=4) k Y Z ⟨λa=>by simp at a,λ_=>g⟩ ⟨λa=>by simp at a,λ_=>e⟩ (by rw[c];simp) (λa=>by simp at a) (λa=>by simp at a) (λn b=>by rw[c]at b;simp at b;subst b;exact D _ m) r p q;exact oz (k:=5) k Y Z ⟨λa=>by simp at a,λ_=>g⟩ ⟨λa=>by simp at a,λ_=>e⟩ (by rw[c];simp) (λa=>by simp at a) (λ_=>j) (λn b=>by rw[c]at b;simp at b;subst b;exact D _ m) r p q;have af:=(List.getElem?_eq_some_iff.1 v).1;have ag:=i.len;have T:=i.hs w<|List.mem_of_getElem? v;have U:=i.oa w (List.mem_of_getElem? v) t<|List.mem_of_getElem? x;have V:=(List.getElem?_eq_some_iff.1 x).1;exact oz (k:=6) k Y Z ⟨λ_=>by rw[Q];exact rL Y,λa=>by simp at a⟩ ⟨λ_=>by rw[F];exact K Y,λa=>by simp at a⟩ (by rw[G];simp;omega) (λ_=>f) (λ_=>j) (λn b=>s _<|c n b) r p q;have T:=i.hs w<|List.mem_of_getElem? v;have U:=i.oa w (List.mem_of_getElem? v) t<|List.mem_of_getElem? x;have V:=(List.getElem?_eq_some_iff.1 x).1;exact oz (k:=7) k Y Z ⟨λa=>by simp at a,λ_=>g⟩ ⟨λ_=>by rw[F];exact K Y,λa=>by simp at a⟩ (by rw[G];simp;omega) (λ_=>f) (λ_=>j) (λn b=>s _<|c n b) r p q;exact oz (k:=8) k Y Z ⟨λa=>by simp at a,λ_=>g⟩ ⟨λa=>by simp at a,λ_=>e⟩ (by rw[c];simp) (λ_=>f) (λa=>by simp at a) (λn b=>by rw[c]at b;simp at b;rcases b with rfl|rfl;exact s _ m;exact s _ E) r p q;exact oz (k:=9) k Y Z ⟨λ_=>by rw[g];exact J Y,λa=>by simp at a⟩ ⟨λa=>by simp at a,λ_=>e⟩ (by rw[c];simp) (λ_=>f) (λa=>by simp at a) (λn b=>by rw[c]at b;simp at b;subst b;exact s _ m) r p q;exact oz (k:=10) k Y Z ⟨λa=>by simp at a,λ_=>g⟩ ⟨λa=>by simp at a,λ_=>e⟩ (by rw[c];simp) (λ_=>f) (λ_=>j) (λn b=>by rw[c]at b;simp at b) r p q
def lI.tS.lQ{r}(e:tS r):mo r:=by
 have f:=e.b;have⟨z,g,A,B,s,ag,C,j,D,ah,E⟩:=e.ex;refine⟨by rw[A];exact DI,f.kN,λk l=>?_,f.mj,λk l=>?_,Y,f.kF,λm n=>?_⟩;have⟨a,b⟩:=List.getElem?_of_mem l;have F:=(List.getElem?_eq_some_iff.1 b).1;rw[s.2 a k b];exact nB letters.2.2.2.2.1<|W s.1;have⟨a,_,G,p,I,J,ai⟩:=D.1 k l;have aj:a/g.length<g.length:=Nat.div_lt_of_lt_mul G;have ak:a % g.length<g.length:=Nat.mod_lt _ Y;exact⟨by rw[p];exact rL Y,by rw[I];exact rL Y,J,Y⟩;have⟨t,u⟩:=List.getElem?_of_mem n;have al:=(List.getElem?_eq_some_iff.1 u).1;have⟨K,L,M,am,N,an,O,P,Q,R,S,T,_⟩:=(E t m u).ex;have U:=j M<|List.mem_of_getElem? S;refine⟨by rw[O];exact rL Y,(f.co m n).vars,λao i=>?_,Q,R,λc d=>?_⟩;rw[P]at i;unfold ny at i;simp only[List.mem_append,List.mem_map,List.mem_range,List.mem_singleton]at i;rcases i with(⟨a,b,rfl⟩|rfl)|⟨a,b,rfl⟩
 exact⟨nB letters.1 Y,.inl ⟨Z,Us⟩⟩;exact⟨nB letters.2.2.2.1 Y,.inr<|.inl ⟨Z,.inl Z⟩⟩;exact⟨nB letters.2.2.1 Y,.inr<|.inr ⟨Z,Z⟩⟩;have⟨ap,aq,V⟩:=T c d;refine⟨Y,λe v=>?_⟩;have⟨a,b⟩:=List.getElem?_of_mem v;have F:=(List.getElem?_eq_some_iff.1 b).1;have w:=(f.co m n).hs c d|>.2 e v;have⟨x,p,aa,ab,ac,y⟩:=V a e b;have ad:=U.2.2 x<|List.mem_of_getElem? p;have ae:P3 {qP z K L g t with params:=x}:=⟨N,ad,B,C,λc d=>(j c d).2.1,λc d=>(j c d).2.2⟩
 refine⟨by rw[aa];exact nB letters.2.2.2.2.2 Y,w.params,λar q=>?_,w.body,mP.HZ ae ac y,y⟩;rw[ab]at q;unfold qN at q;obtain⟨au,af,rfl⟩:=List.mem_map.1 q;exact nB letters.2.1<|W<|List.mem_range.1 af
def Na(d:World)(m:Ending)(a:World):Prop:=
 ∃(b:Fl) (e:Nat) (f:Option Addr) (g i:Nat) (n:Option Addr) (p q:Nat) (j:Option Addr) (k l:Nat),m=.returned (.tuple #[.pointer e,.agg #[tx b.name,(f,g,i),(n,p,q),(j,k,l)]])/\oo a e b/\mo b/\JZ b/\kz mH (λc=>c<a) a (f,g,i) b.kN/\kz (mn .i64) (λc=>c<a) a (j,k,l) b.kF/\Below d d a
def zM{c:Type}(b:c->List UInt8)(a:List c)(j:∀d e,a[d]?=some e->∀k∈a.take d,b k≠b e):(a.map b).Nodup:=by rw[List.Nodup,List.pairwise_iff_getElem];intro f g l i m;rw[List.getElem_map,List.getElem_map];rw[RS]at l i;refine j g a[g] (Q7 i) a[f] ?_;rw[List.mem_take_iff_getElem];exact⟨f,Y,Z⟩
def ES{a}(b:a.Nodup)(d):(pY a d).Nodup:=by
 unfold pY;split;exact b
 rename_i e
 rw[List.nodup_append];refine⟨b,Us,λi f j c=>?_⟩;rw[Ry]at c;rw[c];exact λg=>e<|g▸f
def uL:∀(a:List Hd) {b:List<|List UInt8},b.Nodup->(mW b a).Nodup
 |[],_,h=>h
 |x::a,_,h=>uL a<|ES h x.name
def uM:∀(a:List<|List Hd) {b:List<|List UInt8},b.Nodup->(lK b a).Nodup
 |[],_,h=>h
 |x::a,_,h=>uM a<|uL x h
def Jz{f:Fl}(g:mo f)(k:JZ f):HV (kG f) where
 kF c hs:=by obtain⟨a,b,rfl⟩:=R6.1 hs;exact vC (g.kF a b).name
 kN c hs:=by obtain⟨a,b,rfl⟩:=R6.1 hs;exact vC<|g.kN a b
 hs l hl c hs:=by obtain⟨a,b,rfl⟩:=R6.1 hl;exact ud (P:=λc=>c.all oQ=true) (λ_ m=>by cases m) (λn p d e=>vC (((g.kF a b).lH n p).2 d e).name) c hs
 nc:=zM _ _ λi a b d e j=>by have:=(k.each i a b).new;rw[List.find?_eq_none]at this;exact this d e (by simp[j])
 nf:=zM _ _ λi a b d e j=>by have:=(k.kN.vH i a b).1;unfold pj at this;rw[List.any_eq_false]at this;exact this d e (by simp[j])
 nh l hl:=by obtain⟨a,_,rfl⟩:=R6.1 hl;exact uM _ List.nodup_nil
end Go.Proofs.YtppncjcpdbhobaaGreatDoor
namespace Go.Proofs.YtppncjcpdbhobaaGreatDoor
open Go.RowKit lI oZ Go.Proofs.Tryz
abbrev EC(a b c d e f g i:Int)(j:Value):Array Value:=#[.int .i64 a,.int .i64 b,.int .u8 c,.int .i64 d,.int .i64 e,.int .i64 f,.int .i64 g,.int .i64 i,j]
def boxes(a b c):uj a a (a+1) b c<|(a.alloc<|.cells b 29).alloc<|.cells c 29:=
 ⟨(Ba _ _).alloc Us _,(Q9 _ _ Us).T<|QT _ _,by have:=QT (a.alloc<|.cells b 29)<|.cells c 29;rw[QU]at this;exact this⟩
section
variable {m:Nm} {e:Ev} {vb:Bool}
def vF(a:vb=valid m e)(b:fits m e=false):Ending.returned (.bool false)=.returned (.bool vb):=by rw[a];unfold valid;rw[b];rfl
def vT(a:vb=valid m e)(b:fits m e=true)(c:0<=e.tick)(d:0<=e.n){u:Ev}(f:u=used e):Ending.returned (.bool<|oY e u)=.returned (.bool vb):=by rw[a];unfold valid;rw[b,Sk c,Sk d,<-f];rfl
def vN(a:vb=valid m e)(b:e.n<0):Ending.returned (.bool false)=.returned (.bool vb):=by rw[a];unfold valid;rw[Sr<|Int.not_le.2 b];simp
def vM(a:vb=valid m e)(b:e.tick<0):Ending.returned (.bool false)=.returned (.bool vb):=by rw[a];unfold valid;rw[Sr<|Int.not_le.2 b];simp
end
section
variable (S:Nat→Prop) {w:World} (w6:World) (hb:Below w.heap.size w w6) (e u:Ev) (A:Option Addr) (m c:Nat) (hv:kz mg S w (.slice A m c) e.args) (hS:∀q,S q→q<w.heap.size) (hm:m≤9223372036854775807)
include hb hv hS hm
theorem uo(g:u.args=e.args):Calls prog 31 #[.agg<|Hp e A m c,.agg<|Hp u A m c] w6<|kH (.bool<|oY e u) w6:=by have d:=hv.ku mg.ok λa b=>hb.B a<|hS a b;have f:=λa b=>QR (hS a b) hb.size;exact zq S S w6 e u A m c A m c d (by rw[g];exact d) f f hm hm
theorem HB(d:u.args=[]):Calls prog 31 #[.agg<|Hp e A m c,.agg<|Hp u none 0 0] w6<|kH (.bool<|oY e u) w6:=by have f:=hv.ku mg.ok λa b=>hb.B a<|hS a b;have g:=λa b=>QR (hS a b) hb.size;exact zq S (λ_=>False) w6 e u A m c none 0 0 f (by rw[d];exact kz.nil _ _ _) g (λa b=>b.elim) hm Ur
end
end Go.Proofs.YtppncjcpdbhobaaGreatDoor
namespace Go.EM
open Go
variable {P:Program} {ops:Array Oper} {Q:Exit→Act→World→Prop}
def wJ(ops:Array Oper):Bool:=ops.all λo=>match o.op with| .defer _=>false|_=>true
def N1{l n:Nat}{o:Oper}{a:Act}{w:World}{K:Act->World->Prop}(hd:∀c,o.op≠.defer c)(h:o.wp P a w K Q):o.wpIn (Fence.wide.inRound l) n P a w K Q:=by
 refine⟨λ_ _=>trivial,?_⟩;rw[Oper.semAt_eq _ _ _ hd];unfold Oper.wp at h;generalize(execOp a.eval o).run P w=r at*;cases r with
 |ok x w'=>cases x<;>first|exact h|exact h.elim|exact⟨(λh=>by cases h),CallsIn.inRound l (callsIn_wide.2 h)⟩|skip;refine⟨(λh=>by cases h),λc b _=>?_⟩;obtain⟨v,d,hr,hs⟩:=h c b;exact⟨v,d,hr,stepsIn_wide.2 hs⟩
 |halt x w'=>cases x<;>first|exact h|exact h.elim
def A5(h:wJ ops=true){i:Nat}{o:Oper}(hi:ops[i]?=some o):∀c,o.op≠.defer c:=by intro c e;unfold wJ at h;rw[Array.all_eq_true]at h;obtain⟨a,rfl⟩:=Array.getElem?_eq_some_iff.1 hi;have:=h i a;rw[e]at this;cases this
def Ae{e:Region.Mode}{l n:Nat}(hd:wJ ops=true)(c:¬LetsOut Q):∀(g:Nat) (d:Array Bool) (a:Act) (w:World),wpAny P e ops Q g d a w->wpAnyIn (Fence.wide.inRound l) n P e ops Q g d a w
 |0,_,_,_,h=>h
 |g+1,d,a,w,h=>by
  refine⟨h.1,λi hi=>?_⟩;have b:=h.2 i hi;unfold wpOp at b;unfold wpOpIn;split
  rename_i he
  rw[he]at b;exact Ae hd c g _ a w b
  rename_i o f
  rw[f]at b;simp only at b;split
  rename_i hw
  rw[if_pos hw]at b;rcases b with b|b;exact Oper.wpIn_mono (λa w=>Ae hd c g _ a w) (N1 (A5 hd f) b);exact absurd b.2 c
  rename_i hw
  rw[if_neg hw]at b;exact⟨λ_ _=>trivial,Ae hd c g _ _ w b⟩
end Go.EM
namespace Go.Proofs.YtppncjcpdbhobaaGreatDoor
open RowKit Go.Proofs.Tryz lI Maps oZ qQ ChangeShapes WideShapes ChangeAt
def EL{P:Program}{ops:List Oper}{a0:Act}{Q:Exit->Act->World->Prop}{id l k:Nat}{w0:World}(e:EM.wJ ops.toArray=true)(f:¬LetsOut Q)(G:World->Prop)(a:Value->World->Prop)(VP:Nat->Value->Prop)(D:om)(hm:P.follows .mixedOrders=true)(g:rT ops=true)(i:uS ops=true)(j:0<ops.length)(n:Nat)(hn:a0.tmps.size=n)(m:(ops.all λo=>match o.dst with|some d=>decide (d<n)|none=>true)=true)(p:G {w0 with drawn:=w0.drawn+1})(q:Ai P ops a0 G a VP D 0 ops)
  (r:∀(b:Nat->Value) (w:World),(∀c,c<ops.length-1->VP c (b c))->a (b (ops.length-1)) w->Q .normal (ly a0 ops b 0) w):(Code.region id ops.toArray true).wpIn (Fence.wide.inRound l) k P Q a0 w0:=
 wpIn_region_any hm (EM.Ae e f _ _ _ _ (BD G (λ_=>a) VP D g i j n hn m p q r))
end Go.Proofs.YtppncjcpdbhobaaGreatDoor
namespace Go.Proofs.YtppncjcpdbhobaaGreatDoor
open Go.RowKit Go.Shelf lI qQ Go.Proofs.Tryz
attribute [local go_sem] Oper.semAt_some
def yt(a:kI.Tok):List Value:=[.int .u8 (a.kind:Nat),.string a.text,.int .i64 (a.off:Nat)]
def Bl(a:List kI.Tok):List Value:=a.flatMap yt
def M3:(prog.info? 191).map (λa=>(a.zero,a.size,a.bytes))=some (some<|.agg #[.int .u8 0,Em,.int .i64 0],3,32):=Ut
def rf:Rel kI.Tok:=λ_ _ a b=>a=yt b
def rf.ok:lh rf 3:=
 ⟨Y,λa=>by rw[a];rfl,λa c b=>by rw[a]at b;simp[yt]at b;rcases b with rfl|rfl|rfl<;>rfl,λa _=>a,λa _=>a⟩
def Ci{b:Nat->Prop}{c:World}:∀(a:List kI.Tok),lu (rf b c) (a.map yt) a
 |[]=>trivial
 |_::a=>⟨Z,Ci a⟩
def Cj(a:List kI.Tok):(a.map yt).flatten=Bl a:=by simp[Bl,List.flatMap]
def Ck{c:Nat->Prop}{d:World}:∀{a:List<|List Value} {b:List kI.Tok},lu (rf c d) a b->a=b.map yt
 |[],[],_=>rfl
 |_::_,_::_,⟨h1,h2⟩=>by rw[show _=yt _ from h1,Ck h2];rfl
 |[],_::_,h=>h.elim
 |_::_,[],h=>h.elim
def Dr{w:World}{b:Nat}{c:Value}{a:List kI.Tok}(d:w.ownsRow b 191 3 c a.length<|Bl a):kJ rf 191 3 (λ_=>False) w b c a:=⟨a.map yt,by rw[Cj];exact d,Ci a⟩
def uD{w:World}{b:Nat}{c:Value}{a:List kI.Tok}(e:kJ rf 191 3 (λ_=>False) w b c a):w.ownsRow b 191 3 c a.length<|Bl a:=by have⟨g,d,f⟩:=e.own;rw[Ck f,Cj]at d;exact d
def G4{w:World}{e:Nat}{b:Value}{f:List kI.Tok}(g:kJ rf 191 3 (λ_=>False) w e b f)(a:Nat)(c:b.ownBlock=some a):∃d,w.heap[a]?=some d/\d.isCells=true:=by
 rcases(uD g).2 with⟨rfl,_⟩|⟨i,k,l,rfl,_,j,_⟩
 simp[Value.ownBlock]at c;obtain rfl:i=a:=by simpa[Value.ownBlock]using c
 exact⟨_,j,Z⟩
def wD{w c:World}(a:Below w w c)(e:w.heap.size+1<=c)(f:Obj):(w.alloc f).grownBy c<|some w.heap.size:=
 ⟨a.os,a.tape,a.output,by rw[QU];exact e,λb g i=>by
  rw[QU]at g;have d:b<w:=by rcases SS b w with h|h;exact h;exact absurd (by rw[show b=w.heap.size from Y]) i
  exact(a.B b d).T (Q9 _ _ d).symm⟩
def uq(a:World)(b:Nat)(c:Int)(d:Value):Prop:=a.heap[b]?=some (.cells #[d,.int .i64 0,c,Em,Nl,Nl,Nl,.int .i64 0,.int .i64 0] 129)
def uq.inj{b:World}{c:Nat}{d:Int}{e f:Value}(g:uq b c d e)(a:uq b c d f):e=f:=by unfold uq at g a;rw[g]at a;injection a with a;injection a with a;injection a with a;injection a
def uq.kept{b c:World}{row:Option Nat}{a:Nat}{d:Int}{v:Value}(e:uq b a d v)(f:b.grownBy c row)(g:some a≠row):uq c a d v:=(f.B a (QS.1 e).1 g).T e
def M4(m c:Nat)(n:Int):Own λ(f:List kI.Tok) g=>∃b,uq g c n b/\g.ownsRow m 191 3 b f.length (Bl f):=by
 rintro s p t u ⟨b,i,j⟩ k l;refine⟨b,i.kept k λd=>?_,j.kept k ?_⟩;have⟨o,a,e⟩:=l c d.symm;rw[show p.heap[c]?=_ from i]at a;cases a;cases e;rcases j.2 with⟨rfl,_⟩|⟨q,v,w,rfl,_,r,_⟩
 exact .inl Z;refine .inr λd=>?_;have⟨o,a,e⟩:=l q (by simpa[Value.ownBlock]using d.symm);rw[r]at a;cases a;cases e
def M5(a:ByteArray)(w:World)(d:Ending)(b:World):Prop:=
 ∃c,d=.returned (.pointer w)/\uq b w a.size c/\b.ownsRow (w+1) 191 3 c (kI.lexB a).length (Bl<|kI.lexB a)/\Below w w b
abbrev qS(a):=(#[.slice none 0 0,.int .i64 0,.int .i64 (a:Nat),.string ⟨#[]⟩,.slice none 0 0,.slice none 0 0,.slice none 0 0,.int .i64 0,.int .i64 0]:Array Go.Value)
abbrev tc(a b c):=(#[.int .u8 (a:Nat),.string b,.int .i64 (c:Nat)]:Array Go.Value)
def EN(g:ByteArray)(ad:g.size<=20000)(w:World)(aQ:L.Laid w)(B:3+1<=w.heap.size):Calls prog 39 #[.string g] w<|M5 g w:=by
 have⟨bn,aR,aS,aT,aU⟩:=Rm M3;have bo:=kI.vX g;refine(Tz (n:=3)).1 ?_;have aV:Fence.wide.round=none:=Z;refine callsIn_of_wp_marks func39 Z trivial ?_ aV;simp only[ntmps39,Sd,Rn,Rs,Nat.reduceAdd,Nat.reduceSub,Ub,Uc,List.push_toArray,Ug,Sa,List.cons_append]
 gi_wp2_with (refine⟨trivial,?_⟩;gi_at_call 66;apply(Tz.2<|L.K4 _ _).mono;rintro r bp ⟨rfl,rfl⟩)
 obtain⟨Q,T⟩:∃Q,(((w.alloc<|.cells (qS g.size) 129).alloc<|rn w.heap.size).alloc<|.cells #[.string g] 9)=Q:=⟨_,Z⟩
 have ay:Q.heap.size=w.heap.size+3:=by rw[<-T];simp
 have az:Below w.heap.size w Q:=by rw[<-T];exact(((Below.refl _ w).alloc (QZ _) _).alloc Us _).alloc Uw _
 have aW:uq Q w.heap.size g.size<|.slice none 0 0:=by rw[<-T];exact(Q9 _ _ Uy).trans ((Q9 _ _ Uy).trans<|QT _ _)
 have ae:Boxed Q (w.heap.size+1) 122<|.pointer w.heap.size:=by rw[<-T];have:=QT (w.alloc<|.cells (qS g.size) 129)<|rn w.heap.size;rw[QU]at this;exact(Q9 _ _ Uy).trans this
 have aA:Boxed Q (w.heap.size+1+1) 9<|.string g:=by rw[<-T];have:=QT ((w.alloc<|.cells (qS g.size) 129).alloc<|rn w.heap.size)<|.cells #[.string g] 9;rw[QU,QU]at this;exact this
 rw[T];clear T;refine wpIn_rangeFunc_ownH aV Y (gf:=107) (lb:=#[.pointer<|some ⟨w.heap.size+1+1,0,none⟩]) Z trivial (enters_of func107 Ut Z)
  (L.EA (3-1) Y (w.heap.size+1+1) w.heap.size g UA B Q Y Y aA<|aQ.kv az B) (L.Pk _ _) (L.Pm Y Y) (Below.refl _ _) (λ_=>Z)
  (λC s=>(((∃b,uq s w.heap.size g.size b/\s.ownsRow (w.heap.size+1) 191 3 b C.length (Bl C))/\Boxed s (w.heap.size+1) 122 (.pointer w.heap.size))/\Boxed s (w.heap.size+1+1) 9 (.string g))/\Below w.heap.size w s)
  (λ_ _ _=>False)
  (Un (Un (Un (Own.from (M4 _ _ _) _)<|Own.from (boxed_own _ _ _) _)<|Own.from (boxed_own _ _ _) _)<|ownFrom_below (QZ _) Y)
  (λ_ _ _ _ _ ad _ _=>ad)
  ⟨⟨⟨⟨_,aW,SX _ _ _ _⟩,ae⟩,aA⟩,az⟩
  (λd aB s=>∃b R,uq s w.heap.size g.size b/\some R≠b.ownBlock/\w.heap.size+2<R/\s.heap[R]?=some (.cells (tc d.kind d.text d.off) 191)/\aB={tmps:=#[.string g,undef,.pointer none,.pointer<|some ⟨w.heap.size+1,0,none⟩,.pointer<|some ⟨R,0,none⟩,.string g,.int .i64 (g.size:Nat),.agg<|qS g.size,.pointer w.heap.size,.string g,.int .i64 (g.size:Nat),.bool<|decide ((20000:Int)<(g.size:Nat)),undef,undef,undef,undef,.string g,.func (.func 107) #[] #[.pointer<|some ⟨w.heap.size+1+1,0,none⟩],.agg<|tc d.kind d.text d.off,undef,undef,undef,undef,undef,undef,undef,undef,undef,undef,undef],defers:=[]})
  (λd aB _ bq ca cb ad aX aY=>by have⟨b,R,aZ,br,U,B,bs⟩:=ad;refine⟨b,R,aZ.kept aX λr=>?_,br,U,?_,bs⟩;have⟨_,o,I,ab⟩:=aY _ r.symm;rw[show bq.heap[w.heap.size]?=_ from aZ]at I;cases I;cases ab;refine(aX.block R (QS.1 B).1 λr=>?_).trans B;have⟨_,o,I,ab⟩:=aY R r.symm;rw[B]at I;cases I;cases ab)
  ?assign ?body ?done ?stop
 case assign=>
  rintro bt C d s J ⟨⟨⟨⟨b,K,V⟩,M⟩,D⟩,S⟩ f;simp only[L.L3]
  gi_wp2
  have ba:=S.size;refine f _ _ ((KeepsOthers.alloc _ _).from _) ⟨(Below.refl _ s).alloc ba _,R3 s _ _ D.lt⟩ ⟨⟨⟨⟨b,K.kept (QX s _ none) Us,V.alloc _⟩,M.alloc _⟩,D.alloc _⟩,S.alloc ba _⟩ ⟨b,s.heap.size,K.kept (QX s _ none) Us,λr=>?_,D.lt,World.alloc_heap_new s _,Z⟩;have:=(Dr V).ge _ r.symm;omega
 case body=>
  rintro bt C d aB t bu-⟨⟨⟨⟨b,K,V⟩,M⟩,D⟩,S⟩ ⟨cc,af,bb,aC,al,ae,rfl⟩ bv;obtain rfl:=uq.inj bb K;have E:=Dr V;obtain⟨y,x,rfl,-⟩:=E.form;obtain⟨i,ag⟩:∃i,i=C.length:=⟨_,Z⟩
  rw[<-ag]at K E aC;obtain⟨z,am⟩:∃z:World,z=w.alloc (.cells #[] 191):=⟨_,Z⟩
  have aa:z.heap.size=w.heap.size+1:=(by rw[am];simp);have aD:z.grownBy t<|some w.heap.size:=(by rw[am];exact wD S (W M.lt) _);have an:=X<|show C.length=i/\i<=20000 from⟨ag.symm,Y⟩;have ao:=Ft aR aS aT aU;have ap:=X S;have aE:=X (show z.os=w.os/\z.tape=w.tape/\z.output=w.output by rw[am];exact⟨Z,Z,Z⟩);obtain⟨o,I⟩:∃o,o=w.heap.size:=⟨_,Z⟩
  obtain⟨A,aq⟩:∃A,A=o+1:=⟨_,Z⟩
  obtain⟨O,ar⟩:∃O,O=A+1:=⟨_,Z⟩
  obtain⟨au,ah⟩:∃au:Int,au=(g.size:Nat):=⟨_,Z⟩
  rw[<-I]at K al M D aD aa E⊢;rw[<-aq]at M D aa E⊢;rw[<-ar]at D⊢;rw[<-ah]at K;rw[<-aa]at E;have aF:=X<|show t.heap[A]?=some (.cells #[.pointer<|some ⟨o,0,none⟩] 122)from M;have bw:=X<|show t.heap[O]?=some (.cells #[.string g] 9)from D;have bx:=X ae;have bz:af<t.heap.size:=(QS.1 ae).1;have aG:A<t.heap.size:=M.lt;have bA:O<t.heap.size:=D.lt;have bB:af≠o:=Y;have aH:A≠o:=Y;have bC:O≠o:=Y;have bD:some af≠(Value.slice y i x).ownBlock:=aC;have aI:some A≠(Value.slice y i x).ownBlock:=M.not_row Ur<|uD E;have bE:some O≠(Value.slice y i x).ownBlock:=D.not_row Ur<|uD E;have bc:=X<|show∀v,(Value.slice y i x).ownBlock=some v->A<=v/\v<t.heap.size/\∃ai,t.heap[v]?=some ai/\ai.isCells=true from λv r=>⟨W<|(E.ge v r).1,(E.ge v r).2,G4 E v r⟩;have bF:=X<|nP.start aD K E Y;have bG:=FF I aq ar aa ah;have bH:=D0 ay al;clear aQ az aW ae aA K bb V M D S E aC al bu bv ag am aa aD aR aS aT aU bo ad B ah;clear I;clear aq ar ay
  gi_upto_region 7 with fail
  refine EL Ut (λ⟨_,_,a⟩=>a.elim) (λd=>nP rf 191 3 (λ_=>False) z t o #[(.slice y i x),.int .i64 0,.int .i64 au,.string ⟨#[]⟩,.slice none 0 0,.slice none 0 0,.slice none 0 0,.int .i64 0,.int .i64 0] 129 (.slice y i x) C d) (λb w=>∃(F:Option Addr) (G:Nat),z.grownBy w (some o)/\w.heap[o]?=some (.cells #[(.slice F (i+1) G),.int .i64 0,.int .i64 au,.string ⟨#[]⟩,.slice none 0 0,.slice none 0 0,.slice none 0 0,.int .i64 0,.int .i64 0] 129)/\kJ rf 191 3 (λ_=>False) w z.heap.size (.slice F (i+1) G) (C++[d])/\((Value.slice F (i+1) G).ownBlock=(Value.slice y i x).ownBlock\/∃v,(Value.slice F (i+1) G).ownBlock=some v/\t.heap.size<=v)/\t.heap.size<=w.heap.size/\∀p,p<t.heap.size->p≠o->some p≠(Value.slice y i x).ownBlock->w.heap[p]?=t.heap[p]?) (mU [λb=>b=.pointer (some ⟨o,0,none⟩),λb=>b=.pointer (some ⟨o,0,none⟩),λb=>b=.pointer (some ⟨o,0,none⟩),λb=>b=.pointer (some ⟨o,0,none⟩),λb=>b=.slice y i x,λb=>b=.agg (tc d.kind d.text d.off),λb=>True,λb=>True,λb=>b=.pointer (some ⟨o,0,none⟩),λb=>b=.pointer (some ⟨o,0,none⟩),λb=>True]) [(6,λb w=>∃(p:Nat),b=.slice p 1 1/\Nw t w p/\w.heap[p]?=some (.cells (tc d.kind d.text d.off) 191)),(7,λb w=>∃(F:Option Addr) (G:Nat),b=.slice F (i+1) G/\kJ rf 191 3 (λ_=>False) w z.heap.size b (C++[d])/\(b.ownBlock=(Value.slice y i x).ownBlock\/∃v,b.ownBlock=some v/\t.heap.size<=v))] Ut Ut Ut Ur 30 Z Ut (bF.o.drew rf.ok) ⟨?_,?_,?_,?_,?_,?_,?_,?_,?_,?_,?_,trivial⟩ ?_;intro j w c k e l q;have bI:=lr<|show j.eval (.tmp 3)=.pointer (some ⟨A,0,none⟩)from k 3 Z;clear k e l q;have bd:=kB ((c.k A aG aH aI).trans aF.o) 0 _ Z;have u:=X c;clear c;refine kA.lF λJ f=>?_;unfold kA;go_simp;exact f _ _ ⟨Z,u.o,Ru.2 ⟨⟨λa=>absurd (show 6=0 from a) Ur,λ_ _=>λ_ m=>m⟩,Ru.2 ⟨⟨λa=>absurd (show 7=0 from a) Ur,λ_ _=>λ_ m=>m⟩,R7 _⟩⟩⟩;intro j w c k e l q;have bI:=lr<|show j.eval (.tmp 3)=.pointer (some ⟨A,0,none⟩)from k 3 Z;clear k e l q;have bd:=kB ((c.k A aG aH aI).trans aF.o) 0 _ Z;have u:=X c;clear c;refine kA.lF λJ f=>?_;unfold kA;go_simp;exact f _ _ ⟨Z,u.o,Ru.2 ⟨⟨λa=>absurd (show 6=1 from a) Ur,λ_ _=>λ_ m=>m⟩,Ru.2 ⟨⟨λa=>absurd (show 7=1 from a) Ur,λ_ a=>nomatch (show true=false from a)⟩,R7 _⟩⟩⟩;intro j w c k e l q;have cd:=lr<|show j.eval (.tmp 20)=.pointer (some ⟨o,0,none⟩)from e 1 _ Z Z;clear k e l q;refine kA.lF λJ f=>?_;unfold kA;go_simp;exact f _ _ ⟨Z,c,Ru.2 ⟨⟨λa=>absurd (show 6=2 from a) Ur,λ_ _=>λ_ m=>m⟩,Ru.2 ⟨⟨λa=>absurd (show 7=2 from a) Ur,λ_ _=>λ_ m=>m⟩,R7 _⟩⟩⟩;intro j w c k e l q;have ce:=lr<|show j.eval (.tmp 21)=.pointer (some ⟨o,0,none⟩)from e 2 _ Z Z;clear k e l q;refine kA.lF λJ f=>?_;unfold kA;go_simp;exact f _ _ ⟨Z,c,Ru.2 ⟨⟨λa=>absurd (show 6=3 from a) Ur,λ_ _=>λ_ m=>m⟩,Ru.2 ⟨⟨λa=>absurd (show 7=3 from a) Ur,λ_ _=>λ_ m=>m⟩,R7 _⟩⟩⟩;intro j w c k e l q;have cf:=lr<|show j.eval (.tmp 22)=.pointer (some ⟨o,0,none⟩)from e 3 _ Z Z;clear k e l q;have bd:=kr c.c 0;have u:=X c;clear c;refine kA.lF λJ f=>?_;unfold kA;go_simp;exact f _ _ ⟨Z,u.o,Ru.2 ⟨⟨λa=>absurd (show 6=4 from a) Ur,λ_ _=>λ_ m=>m⟩,Ru.2 ⟨⟨λa=>absurd (show 7=4 from a) Ur,λ_ a=>nomatch (show true=false from a)⟩,R7 _⟩⟩⟩;intro j w c k e l q;have cg:=lr<|show j.eval (.tmp 4)=.pointer af from k 4 Z;clear k e l q;have⟨⟨ch,ci,cj⟩,_⟩:=lf<|(c.k af bz bB bD).trans bx.o;have u:=X c;clear c;refine kA.lF λJ f=>?_;unfold kA;go_simp;exact f _ _ ⟨Z,u.o,Ru.2 ⟨⟨λa=>absurd (show 6=5 from a) Ur,λ_ a=>nomatch (show true=false from a)⟩,Ru.2 ⟨⟨λa=>absurd (show 7=5 from a) Ur,λ_ a=>nomatch (show true=false from a)⟩,R7 _⟩⟩⟩;intro j w c k e l q;have ck:=lr<|show j.eval (.tmp 24)=.agg (tc d.kind d.text d.off)from e 5 _ Z Z;clear k e l q;have be:=c.s;have u:=X c;clear c;refine kA.lF λJ f=>?_;unfold kA;go_simp;exact f _ _ ⟨trivial,u.o.alloc rf.ok _,Ru.2 ⟨⟨λ_=>⟨_,Z,⟨be,Us⟩,QT _ _⟩,λa=>absurd Z a⟩,Ru.2 ⟨⟨λa=>absurd (show 7=6 from a) Ur,λ_ a=>nomatch (show true=false from a)⟩,R7 _⟩⟩⟩;intro j w c k e l q;have bJ:=lr<|show j.eval (.tmp 23)=.slice y i x from e 4 _ Z Z;have bK:=(show(λ(b:Value) (w:World)=>∃(p:Nat),b=.slice p 1 1/\Nw t w p/\w.heap[p]?=some (.cells (tc d.kind d.text d.off) 191)) (j.eval<|.tmp 25) w from l _ (List.Mem.head _) _ Z Z)
  have⟨aJ,bL,cl,bM⟩:=bK;clear k e l q;have bN:=c.own;have be:=c.s;have cm:=c.ws;have u:=X c;clear c;have bf:∀(av:Nat) (aj:Value),(tc d.kind d.text d.off).toList[av]?=some aj->w.cell? ((aJ:Addr).add av)=some aj:=λav aj bO=>(by rw[lz,Re];exact kB bM av aj<|by simpa using bO);have⟨bP,bQ,bp,bg,bh,bR,aw,bi⟩:=ld (P:=prog) (w:=w) z.heap.size 127 127 191 bn _ 3 32 underlying127 ao.o.1 ao.o.2.1 ao.o.2.2.1 ao.o.2.2.2 Z rf.ok (λ_=>False) ((.slice y i x)) C bN ⟨aJ,0,none⟩ (tc d.kind d.text d.off).toList d bf ((by unfold rf yt;rfl)) (by have:=an.o;unfold maxLen;omega) (W an.o) Y;have bS:j.eval (.tmp 23)=(.slice y i x):=(by simp[Act.eval,bJ]);have bT:j.eval (.tmp 25)=.slice aJ 1 1:=bL;have bU:=an.o.1;rw[bU]at bg bh bi;clear bf;refine kA.lF λJ f=>?_;unfold kA;simp only[execOp,resolve,invoke,builtin,RL,RN,Rt,Rz,Rx,RO,bS,bT,bg];exact f _ _ ⟨trivial,u.o.app aw bR,Ru.2 ⟨⟨λa=>absurd (show 6=7 from a) Ur,λ_ _=>λaj ⟨p,r,aK,ag⟩=>⟨p,r,⟨aK.1,QR aK.2 ((u.o.ng aw)).1⟩,(((u.o.ng aw)).2 p aK).trans ag⟩⟩,Ru.2 ⟨⟨λ_=>⟨bP,bQ,Z,bh,bi.imp id λa=>⟨_,a,W aw.size⟩⟩,λa=>absurd Z a⟩,R7 _⟩⟩⟩;intro j w c k e l q;have cn:=lr<|show j.eval (.tmp 19)=.pointer (some ⟨o,0,none⟩)from e 0 _ Z Z;clear k e l q;refine kA.lF λJ f=>?_;unfold kA;go_simp;exact f _ _ ⟨Z,c,Ru.2 ⟨⟨λa=>absurd (show 6=8 from a) Ur,λ_ _=>λ_ m=>m⟩,Ru.2 ⟨⟨λa=>absurd (show 7=8 from a) Ur,λ_ _=>λ_ m=>m⟩,R7 _⟩⟩⟩;intro j w c k e l q;have co:=lr<|show j.eval (.tmp 27)=.pointer (some ⟨o,0,none⟩)from e 8 _ Z Z;clear k e l q;refine kA.lF λJ f=>?_;unfold kA;go_simp;exact f _ _ ⟨Z,c,Ru.2 ⟨⟨λa=>absurd (show 6=9 from a) Ur,λ_ _=>λ_ m=>m⟩,Ru.2 ⟨⟨λa=>absurd (show 7=9 from a) Ur,λ_ _=>λ_ m=>m⟩,R7 _⟩⟩⟩;intro j w c k e l q;have cp:=lr<|show j.eval (.tmp 28)=.pointer (some ⟨o,0,none⟩)from e 9 _ Z Z;have bV:=(show(λ(b:Value) (w:World)=>∃(F:Option Addr) (G:Nat),b=.slice F (i+1) G/\kJ rf 191 3 (λ_=>False) w z.heap.size b (C++[d])/\(b.ownBlock=(Value.slice y i x).ownBlock\/∃v,b.ownBlock=some v/\t.heap.size<=v)) (j.eval<|.tmp 26) w from l _ (List.Mem.tail _<|List.Mem.head _) _ Z Z)
  have⟨F,G,ak,bj,bW⟩:=bV;have cq:=lr ak;clear k e l q;have aL:=X bj;clear bj;have aM:=c.c;have cr:=kx aM 0;have cs:=kr aM 0;clear aM;have u:=X c;clear c;refine kA.lF λJ f=>?_;unfold kA;go_simp;exact f _ _<|⟨F,G,(u.o.set rf.ok (λ_ a=>a.elim) (by have N:=aL.o;rw[ak]at N;exact N) 0 _ Z).1,(u.o.set rf.ok (λ_ a=>a.elim) (by have N:=aL.o;rw[ak]at N;exact N) 0 _ Z).2.1,(u.o.set rf.ok (λ_ a=>a.elim) (by have N:=aL.o;rw[ak]at N;exact N) 0 _ Z).2.2,(by have N:=bW;rw[ak]at N;exact N),(by rw[QW];exact u.o.s),(λp ac U B=>(Q5 _ _ _ _ U).trans<|u.o.k p ac U B)⟩;intro ct bk cu bX;have⟨F,G,aN,bY,bZ,cv,bl,ax⟩:=bX;have⟨I,aq,ar,aa,ah⟩:=bG.o;have⟨ay,al⟩:=bH.o;have aO:Below o t bk:=⟨aN.os.trans<|aE.o.1.trans ap.o.os.symm,aN.tape.trans<|aE.o.2.1.trans ap.o.tape.symm,aN.output.trans<|aE.o.2.2.trans ap.o.output.symm,bl,λp ac=>ax p Y Y λr=>W<|(bc.o p r.symm).1⟩
  have bm:bk.heap[O]?=t.heap[O]?:=ax O bA bC bE;refine⟨⟨bl,λai cw cx ac ab=>(ax ai (QS.1 ac).1 Y λr=>?_).trans ac⟩,⟨aO,bm⟩,⟨⟨⟨.slice F (i+1) G,?_,?_⟩,?_⟩,?_⟩,?_⟩;have⟨_,_,cy,U,B⟩:=bc.o ai r.symm;rw[ac]at U;cases U;rw[ab]at B;cases B;rw[<-ah];exact bY;have:=uD bZ;rw[aa]at this;simpa[an.o.1]using this;exact(ax A aG aH aI).trans aF.o;exact bm.trans bw.o;rw[I]at aO⊢;exact ap.o.trans aO
 case done=>
  rintro aP cz s cA rfl ⟨⟨⟨⟨b,K,V⟩,M⟩,D⟩,S⟩ f;have ab:=M.cell
  gi_wp2
  refine⟨Us,.inl ⟨_,_,Z,run_takeDeferred f,?_⟩⟩;exact⟨_,results_tmp Z _ _ _,b,Z,K.kept (grownBy_putObj' s aP _) (λr=>by injection r with r;omega),ownsRow_putObj V _ f Z,S.trans<|belowK_b (w:=w) (QZ _) s aP _ _ Y f Z Z⟩
 case stop=>rintro aP x C s _ _ a _;exact a.elim
end Go.Proofs.YtppncjcpdbhobaaGreatDoor
namespace Go.Proofs.YtppncjcpdbhobaaGreatDoor
open RowKit Go.Proofs.Tryz lI Maps oZ qQ ChangeShapes WideShapes ChangeAt
def N2{a c}{k g:Nat}{v}(l:uq c g a.size v)(m:c.ownsRow k 191 3 v (kI.lexB a).length<|Bl<|kI.lexB a)(K:g<k)(r:(kI.lexB a).length<=20000)(s:0<(kI.lexB a).length):
  mh (kI.lexB a) ⟨Em,Nl,Nl,Nl,c⟩ c g 0:=by
 have i:=Dr m;obtain⟨t,u,rfl,w,L⟩:=i.form;have x:=i.sl rf.ok;have y:=i.ge;obtain⟨M,N⟩:∃d,(kI.lexB a)[0]?=some d:=Gx s;have z:∃e,t=some ⟨e,0,none⟩:=by
  rcases m.2 with⟨b,_⟩|⟨A,O,P,b,_⟩
  injection b with b B;omega;injection b with b B;exact⟨A,b⟩
 obtain⟨e,rfl⟩:=z;have C:=y e Z;refine⟨⟨e,u,a.size,l,w,Y,C.2,λD d E=>?_⟩,⟨r,Q1 _⟩,(QS.1 l).1,QZ _⟩;have⟨Q,o,F,j,_,G,f⟩:=x.ll rf.ok D d E;injection j with j;injection j with I J;subst I J;rw[show F=yt d from G]at f;have n:=f 0 _ Z;have p:=f 1 _ Z;have q:=f 2 _ Z;rw[Re]at n p q;exact⟨n,p,q⟩
def Po(a):Sem.run prog (binOp BinOp.eql 9 (tx HY)<|.string ⟨#[116,52,32,98,97,99,107,58,32,109,101,115,115,97,103,101,32,48,32,102,114,111,109,32,102,114,111,110,116,32,103,101,116,40,49,44,32,55,41]⟩) a=.ok (.bool true) a:=Ut
def Pq(a):Sem.run prog (binOp BinOp.eql 9 (tx E2)<|.string ⟨#[116,52,32,111,112,101,114,97,116,111,114,58,32,102,108,97,103,32,115,108,111,119,32,61,32,116,114,117,101,32,40,99,104,111,105,99,101,32,48,41]⟩) a=.ok (.bool true) a:=Ut
def narrateDiffers.plain(f:FuncId)(fn:Func)(hf:Tryz.pinned.checked.prog.funcNamed "rootcause/rootcauselaw52.NarrateDiffers" =some f)(c:Tryz.pinned.checked.prog.funcs[f]?=some fn):
  false=Tryz.pinned.checked.prog.looks []/\∀(b:Nat) t,fn.params[b]?=some t->Tryz.pinned.checked.prog.wantsStandIn t=false:=by
 obtain rfl:f=3:=Option.some.inj ((show prog.funcNamed "rootcause/rootcauselaw52.NarrateDiffers" =some 3 by kernel_rfl).symm.trans hf)|>.symm;obtain rfl:fn=Tryz.f3:=(Option.some.inj (func3.symm.trans c)).symm;refine⟨Lm,λb t a=>?_⟩;rw[params3]at a;have hm:t∈[25,29,29]:=by simpa using T4 a
 have d:∀t∈[25,29,29],prog.wantsStandIn t=false:=by have h:([25,29,29].all λt=>!prog.wantsStandIn t)=true:=(by kernel_rfl);intro t a;simpa using Sb.1 h t a
 exact d t hm
end Go.Proofs.YtppncjcpdbhobaaGreatDoor
namespace Go.Proofs.YtppncjcpdbhobaaGreatDoor
open Go.ChangeShapes Go.WideShapes Go.ChangeAt Go.RowKit lI Go.Proofs.Tryz
def Pr{e:Type}{a:List e}(f:a.length=3):∃b c d,a=[b,c,d]:=by
 match a,f with
 |[b,c,d],_=>exact⟨b,c,d,Z⟩
def L5{f:Type}{a:List f}(g:a.length=4):∃b c d e,a=[b,c,d,e]:=by
 match a,g with
 |[b,c,d,e],_=>exact⟨b,c,d,e,Z⟩
def Ps{l:Type}{a:List l}(m:a.length=9):∃b c d e f g i j k,a=[b,c,d,e,f,g,i,j,k]:=by
 match a,m with
 |[b,c,d,e,f,g,i,j,k],_=>exact⟨b,c,d,e,f,g,i,j,k,Z⟩
section
variable {H:Type} {enc:TypeId×Value→H} {wQ:World} {base:Nat} {sp:Nat→Bool} {held:Bool}
end
end Go.Proofs.YtppncjcpdbhobaaGreatDoor
namespace Go.Proofs.YtppncjcpdbhobaaGreatDoor
open Go.ChangeShapes Go.WideShapes Go.ChangeAt Go.RowKit lI Go.Proofs.Tryz
def ra{e:Type}{q:TypeId×Value->e}{b:Program}{r:World}{s:Nat}{t:Nat->Bool}{u:Bool}{f:Nat}{g i:TypeId}{n:Nat}{j:List Value}{zs:List<|List UInt8}{v:List MemPlace}
  (w:b.underlying g=some (.array n i)) (x:b.underlying i=some .string) (y:b.cellsOf i=1) (z:b.cellsOf g=n)
  (c:DataW.trod q b r s t u f g j=some (.agg<|zs.map λa=>.lit<|.string a,v)):j=zs.map tx:=by
 cases f with
 |zero=>simp[DataW.trod]at c
 |succ f=>
  simp only[DataW.trod,w,y,z,RA]at c;split at c
  rename_i J
  have⟨k,m,A⟩:=S5.1 c;have p:k.map (·.1)=zs.map λa=>(DataW.lit (.string a):DataW e):=by have:=RF Prod.fst A;simpa using this
  have K:k.length=n:=(by simpa using Lib.mapM_length m);have L:zs.length=n:=by have:=RF List.length p;simp at this;omega
  apply TJ;intro d;by_cases B:d<n;have⟨M,C,D⟩:=Lib.mapM_at m d d (by simp[B]);obtain⟨a,E,rfl,_⟩:=Tt x D;have F:j[d]?=some (.string a):=by have:=RF (·[0]?) E;simpa[Si,SU]using this
  have l:(k.map (·.1))[d]?=some (DataW.lit (.string a.data.toList):DataW e):=(by simp[C]);rw[p]at l;simp only[RT,S5,T1,Lit.string.injEq]at l;have⟨N,G,I⟩:=l;rw[F,RT,G,I];rfl;rw[SF Y,SF Uw];cases c
def mL:List<|String×DataW Unit:=[("math/bits.deBruijn32tab",Rows.laid_math_bits_deBruijn32tab),("math/bits.deBruijn64tab",Rows.laid_math_bits_deBruijn64tab),("internal/strconv.uint64pow10",Rows.laid_internal_strconv_uint64pow10),("rootcause/digest.constants",Rows.laid_rootcause_digest_constants),("rootcause/lexer.words",Rows.laid_rootcause_lexer_words),("rootcause/lexer.symbols",Rows.laid_rootcause_lexer_symbols),("rootcause/syntax.shapes",Rows.laid_rootcause_syntax_shapes),("rootcause/syntax.forms",Rows.laid_rootcause_syntax_forms),("rootcause/code.rows",Rows.laid_rootcause_code_rows)]
def oL{d:Program}{e:World}{n:String}{f:Nat}{g:Array Value}(i:d.globalNamed n=some f)(a:e.var? d n=some g):∃b c,e.heap[f]?=some (.cells g b c):=by
 unfold World.var? at a;rw[i]at a;simp only[Option.bind_some]at a;split at a
 rename_i k b c j
 cases a;exact⟨b,c,j⟩;cases a
def Dt:prog.cellsOf 3=1:=Ut
def xb:prog.cellsOf 9=1:=Ut
def ue{c:Nat}:∀(d:List<|List Value) (b a:Nat),(∀r∈d,r.length=c)->a<c->d.flatten[b*c+a]?=(d[b]?).bind (·[a]?)
 |[],b,a,_,_=>by simp
 |r::d,0,a,h,hq=>by rw[R8,S9,Re,RR<|by rw[h r<|by simp];exact hq];rfl
 |r::d,b+1,a,h,hq=>by have e:=h r Us;rw[R8,RY (by rw[e,S4];omega),e,show(b+1)*c+a-c=b*c+a by rw[S4];omega];exact ue d b a (λf g=>h f<|by simp[g]) hq
section
variable {H:Type} {enc:TypeId×Value→H} {wQ:World} {base:Nat} {sp:Nat→Bool} {held:Bool}
def Pu{a c:Nat}{e:List Value}{d:List<|List Value}(k:0<a)(p:e.length=c*a)(q:d.length=c)(l:∀m∈d,m.length=a)(n:∀f,f<c->d[f]?=some ((e.drop<|f*a).take a)):e=d.flatten:=by
 apply TJ;intro b;have g:b/a*a+b % a=b:=by rw[Nat.mul_comm];exact Nat.div_add_mod b a
 have i:=Tv b k;have j:=ue d (b/a) (b % a) l i;rw[g]at j;rw[j];rcases SS (b/a) c with hi|hi;rw[n _ hi,Option.bind_some,S1 i,SU,g];have r:c*a<=b:=Q8 (Sj a hi) Y;rw[SF Y,SF Y];rfl
def tP{e:Type}(xs:List e)(j:e->List Value)(f:e->DataW H){k g}{n b:Nat}(u:0<b)(v:∀a,(j a).length=b)(w:prog.underlying k=some (.array n g))(x:prog.cellsOf g=b)(y:prog.cellsOf k=n*b)
  (z:∀{l:Nat} {c:List Value} {q:e} {m:List MemPlace},DataW.trod enc prog wQ base sp held l g c=some (f q,m)->c=j q)
  {l:Nat} {c:List Value} {m:List MemPlace} (A:DataW.trod enc prog wQ base sp held l k c=some (.agg<|xs.map f,m)):c=(xs.map j).flatten:=by
 have⟨p,B,_,C,D,K,E⟩:=TU w A;have r:xs.map f=p.map (·.1):=by have:=RF Prod.fst C;simpa using this
 have F:xs.length=n:=by have:=RF List.length r;simp at this;omega
 refine Pu u (D.T y) (by rw[RS];exact F) (λL G=>by obtain⟨a,_,rfl⟩:=R6.1 G;exact v a) λd I=>?_;have s:=E d I;rw[x,Q7 Y]at s;obtain⟨a,t⟩:∃a,xs[d]?=some a:=Gx Y;have i:=RF (·[d]?) r;simp only[RT,t,Ty,Q7<|show d<p.length from Y]at i;have i:=Option.some.inj i;have J:DataW.trod enc prog wQ base sp held B g ((c.drop<|d*b).take b)=some (f a,p[d].2):=by rw[s,i]
 rw[RT,t,Ty,<-z J]
def Iu:prog.cellsOf 4=1:=Ut
def xP:prog.cellsOf 325=4:=Ut
def zN:prog.cellsOf 293=6:=Ut
def zO:prog.cellsOf 312=4:=Ut
def JA:prog.cellsOf 222=1:=Ut
def N4{a:List Value}(i:a.length=6):∃b c d e f g,a=[b,c,d,e,f,g]:=by
 match a,i with
 |[b,c,d,e,f,g],_=>exact⟨b,c,d,e,f,g,Z⟩
def NL{f:Type}{a:List f}(g:a.length=4):∃b c d e,a=[b,c,d,e]:=by
 match a,g with
 |[b,c,d,e],_=>exact⟨b,c,d,e,Z⟩
def Pw{i:Type}{a:List i}(j:a.length=6):∃b c d e f g,a=[b,c,d,e,f,g]:=by
 match a,j with
 |[b,c,d,e,f,g],_=>exact⟨b,c,d,e,f,g,Z⟩
def Du(a:Nat×Bool×Nat×List UInt8):DataW H:=.agg [.lit<|.int .i64 (a.1:Int),.lit<|.bool a.2.1,.lit<|.int .i64 (a.2.2.1:Int),.lit<|.string a.2.2.2]
def H2(a:Bool×Bool×Nat×Nat×Bool×Bool):DataW H:=.agg [.lit<|.bool a.1,.lit<|.bool a.2.1,.lit<|.int .i64 (a.2.2.1:Int),.lit<|.int .i64 (a.2.2.2.1:Int),.lit<|.bool a.2.2.2.2.1,.lit<|.bool a.2.2.2.2.2]
def Hb{x:Nat}{s g}{y:List MemPlace}(z:DataW.trod enc prog wQ base sp held x 325 s=some (Du g,y)):s=rq g:=by have⟨A,a,_,B,C,D,b⟩:=SL underlying325 z;obtain⟨c,d,e,f,rfl⟩:=L5<|C.T xP;have E:A.length=4:=D;obtain⟨F,G,I,J,rfl⟩:=NL E;have i:=DataW.agg.inj (Prod.mk.inj B).1;simp only[Rx,RO,Sh,Tl]at i;have j:DataW.trod enc prog wQ base sp held a 3 (([c,d,e,f].drop 0).take<|prog.cellsOf 3)=some F:=b 0 _ Z;have k:DataW.trod enc prog wQ base sp held a 4 (([c,d,e,f].drop 1).take<|prog.cellsOf 4)=some G:=b 1 _ Z;have l:DataW.trod enc prog wQ base sp held a 3 (([c,d,e,f].drop 2).take<|prog.cellsOf 3)=some I:=b 2 _ Z;have m:DataW.trod enc prog wQ base sp held a 9 (([c,d,e,f].drop 3).take<|prog.cellsOf 9)=some J:=b 3 _ Z;rw[Dt]at j l;rw[Iu]at k;rw[xb]at m;simp only[SZ,SB,Sn,S0]at j k l m;have⟨O,t,K,_⟩:=RX underlying3 j;have⟨P,u,L⟩:=Ti underlying4 k;have⟨Q,v,M,_⟩:=RX underlying3 l;have⟨R,w,N,_⟩:=Tt underlying9 m;simp only[Sh,Tl]at t u v w;subst t u v w;rw[K,L,M,N]at i;have⟨n,p,q,r⟩:=i;simp only[T1,Lit.int.injEq,Lit.bool.injEq,Lit.string.injEq,true_and]at n p q r;have⟨S,T,U,V⟩:=g;simp only at n p q r;subst n p q r;rfl
def JB{F:Nat}{y j}{G:List MemPlace}(I:DataW.trod enc prog wQ base sp held F 293 y=some (H2 j,G)):y=sQ j:=by have⟨J,a,_,K,L,M,b⟩:=SL underlying293 I;obtain⟨c,d,e,f,g,i,rfl⟩:=N4<|L.T zN;have N:J.length=6:=M;obtain⟨O,P,Q,R,S,T,rfl⟩:=Pw N;have k:=DataW.agg.inj (Prod.mk.inj K).1;simp only[Rx,RO,Sh,Tl]at k;have l:DataW.trod enc prog wQ base sp held a 4 (([c,d,e,f,g,i].drop 0).take<|prog.cellsOf 4)=some O:=b 0 _ Z;have m:DataW.trod enc prog wQ base sp held a 4 (([c,d,e,f,g,i].drop 1).take<|prog.cellsOf 4)=some P:=b 1 _ Z;have n:DataW.trod enc prog wQ base sp held a 3 (([c,d,e,f,g,i].drop 2).take<|prog.cellsOf 3)=some Q:=b 2 _ Z;have p:DataW.trod enc prog wQ base sp held a 3 (([c,d,e,f,g,i].drop 3).take<|prog.cellsOf 3)=some R:=b 3 _ Z;have q:DataW.trod enc prog wQ base sp held a 4 (([c,d,e,f,g,i].drop 4).take<|prog.cellsOf 4)=some S:=b 4 _ Z;have r:DataW.trod enc prog wQ base sp held a 4 (([c,d,e,f,g,i].drop 5).take<|prog.cellsOf 4)=some T:=b 5 _ Z;rw[Dt]at n p;rw[Iu]at l m q r;simp only[SZ,SB,Sn,S0]at l m n p q r;have⟨ae,z,U⟩:=Ti underlying4 l;have⟨af,A,V⟩:=Ti underlying4 m;have⟨ag,B,aa,_⟩:=RX underlying3 n;have⟨ah,C,ab,_⟩:=RX underlying3 p;have⟨ai,D,ac⟩:=Ti underlying4 q;have⟨aj,E,ad⟩:=Ti underlying4 r;simp only[Sh,Tl]at z A B C D E;subst z A B C D E;rw[U,V,aa,ab,ac,ad]at k;have⟨s,t,u,v,w,x⟩:=k;simp only[T1,Lit.int.injEq,Lit.bool.injEq,true_and]at s t u v w x;have⟨ak,al,am,an,ao,ap⟩:=j;simp only at s t u v w x;subst s t u v w x;rfl
def JC{r:Nat}{l}{s:DataW H×List MemPlace}(t:DataW.trod enc prog wQ base sp held r 312 l=some s):∃(u v:ByteArray) (w x:Int),l=[.string u,.string v,.int .i64 w,.int .i64 x]:=by have⟨y,a,_,_,z,A,b⟩:=SL underlying312 t;obtain⟨c,d,e,f,rfl⟩:=L5<|z.T zO;have B:y.length=4:=A;obtain⟨C,D,E,F,rfl⟩:=NL B;have g:DataW.trod enc prog wQ base sp held a 9 (([c,d,e,f].drop 0).take<|prog.cellsOf 9)=some C:=b 0 _ Z;have i:DataW.trod enc prog wQ base sp held a 9 (([c,d,e,f].drop 1).take<|prog.cellsOf 9)=some D:=b 1 _ Z;have j:DataW.trod enc prog wQ base sp held a 3 (([c,d,e,f].drop 2).take<|prog.cellsOf 3)=some E:=b 2 _ Z;have k:DataW.trod enc prog wQ base sp held a 3 (([c,d,e,f].drop 3).take<|prog.cellsOf 3)=some F:=b 3 _ Z;rw[Dt]at j k;rw[xb]at g i;simp only[SZ,SB,Sn,S0]at g i j k;have⟨G,m,_⟩:=Tt underlying9 g;have⟨I,n,_⟩:=Tt underlying9 i;have⟨J,p,_⟩:=RX underlying3 j;have⟨K,q,_⟩:=RX underlying3 k;simp only[Sh,Tl]at m n p q;subst m n p q;exact⟨_,_,_,_,Z⟩
end
def Ka:prog.globalNamed "rootcause/lexer.words" =some 3:=Ut
def NM:prog.globalNamed "rootcause/syntax.shapes" =some 9:=Ut
def NN:prog.globalNamed "rootcause/syntax.forms" =some 4:=Ut
def NP:prog.globalNamed "rootcause/code.rows" =some 5:=Ut
def NQ:prog.globalNamed "rootcause/digest.constants" =some 0:=Ut
def NR:(prog.globals[3]?).map (·.type)=some 319:=Ut
def Px:(prog.globals[9]?).map (·.type)=some 338:=Ut
def Py:(prog.globals[4]?).map (·.type)=some 321:=Ut
def Pz:(prog.globals[5]?).map (·.type)=some 333:=Ut
def PA:(prog.globals[0]?).map (·.type)=some 271:=Ut
def NS:prog.underlying 319=some (.array 39 9):=Ut
def PB:prog.underlying 338=some (.array 24 325):=Ut
def PC:prog.underlying 321=some (.array 11 293):=Ut
def PD:prog.underlying 333=some (.array 35 312):=Ut
def PE:prog.underlying 271=some (.array 64 222):=Ut
def NT:prog.cellsOf 319=39:=Ut
def PF:prog.cellsOf 338=24*4:=Ut
def PG:prog.cellsOf 321=11*6:=Ut
def Cp:(Rows.laid_rootcause_lexer_words:DataW Unit)=.agg (kI.words.map λa=>.lit<|.string a):=Ut
def JD:(Rows.laid_rootcause_syntax_shapes:DataW Unit)=.agg (shapes.map Du):=Ut
def JE:(Rows.laid_rootcause_syntax_forms:DataW Unit)=.agg (forms.map H2):=Ut
def tQ{a:World}{b:Nat}{c:Array Value}{e:TypeId}{f:Nat×Nat}(g:a.heap[b]?=some (.cells c e f))(d:Nat):a.cell? ⟨b,d,none⟩=c[d]?:=by simp[World.cell?,g]
def JF{m}(a:laidMetH prog mL m):lY m:=by have a:laidMet prog mL m:=a;refine⟨?_,?_,?_⟩;have⟨p,b,e,q,r,f,g,i,c⟩:=Lib.laidMet.reads a (n:= "rootcause/lexer.words") (d:=Rows.laid_rootcause_lexer_words) UF;obtain rfl:=Option.some.inj<|Ka.symm.T f;obtain rfl:=Option.some.inj<|NR.symm.T g;have⟨b,j,k⟩:=oL Ka i;refine⟨b,j,?_⟩;rw[Cp]at c;have l:=ra (zs:=kI.words) NS underlying9 xb NT c;rw[k,show e=pg from by unfold pg;rw[<-Sy (xs:=e),l]];have⟨p,b,e,q,r,f,g,i,c⟩:=Lib.laidMet.reads a (n:= "rootcause/syntax.shapes") (d:=Rows.laid_rootcause_syntax_shapes) UF;obtain rfl:=Option.some.inj<|NM.symm.T f;obtain rfl:=Option.some.inj<|Px.symm.T g;have⟨b,j,k⟩:=oL NM i;refine⟨b,j,?_⟩;rw[JD]at c;have l:=tP shapes rq Du Ur (λ_=>Z) PB xP PF (λa=>Hb a) c;rw[k,show e=wF from by unfold wF;rw[<-l]];have⟨p,b,e,q,r,f,g,i,c⟩:=Lib.laidMet.reads a (n:= "rootcause/syntax.forms") (d:=Rows.laid_rootcause_syntax_forms) UF;obtain rfl:=Option.some.inj<|NN.symm.T f;obtain rfl:=Option.some.inj<|Py.symm.T g;have⟨b,j,k⟩:=oL NN i;refine⟨b,j,?_⟩;rw[JE]at c;have l:=tP forms sQ H2 Ur (λ_=>Z) PC zN PG (λa=>JB a) c;rw[k,show e=zX from by unfold zX;rw[<-l]]
def JG{a}(e:laidMetH prog mL a):pJ a:=by
 have e:laidMet prog mL a:=e;have⟨z,r,A,B,C,s,t,u,v⟩:=Lib.laidMet.reads e (n:= "rootcause/code.rows") (d:=Rows.laid_rootcause_code_rows) UF;obtain rfl:=Option.some.inj<|NP.symm.T s;obtain rfl:=Option.some.inj<|Pz.symm.T t;have⟨r,D,g⟩:=oL NP u;have⟨E,F,_,_,G,I,w⟩:=TU PD v;refine⟨(QS.1 g).1,λi J=>?_⟩;have j:=w i Y;rw[zO,Q7 Y]at j;have⟨k,l,m,p,x⟩:=JC j;have b:∀c f,([.string k,.string l,.int .i64 m,.int .i64 p]:List Value)[c]?=some f->c<4->a.cell? ⟨5,i*4+c,none⟩=some f:=λc f q y=>by rw[<-x,S1 y,SU]at q;rw[tQ g,<-q,T8]
 exact⟨k,l,m,p,b 0 _ Z Ur,b 1 _ Z Ur,b 2 _ Z Ur,b 3 _ Z Ur⟩
def JH{a}(b:laidMetH prog mL a):qC a:=by have b:laidMet prog mL a:=b;have⟨t,i,u,v,w,j,k,l,m⟩:=Lib.laidMet.reads b (n:= "rootcause/digest.constants") (d:=Rows.laid_rootcause_digest_constants) UF;obtain rfl:=Option.some.inj<|NQ.symm.T j;obtain rfl:=Option.some.inj<|PA.symm.T k;have⟨i,x,e⟩:=oL NQ l;have⟨y,z,_,_,A,B,p⟩:=TU PE m;refine⟨(QS.1 e).1,λq r=>?_⟩;have f:=p q r;rw[JA,Q7 Y]at f;have⟨c,s,_⟩:=RX underlying222 f;refine⟨c,?_⟩;have g:([.int .u32 c]:List Value)[0]?=some (.int .u32 c):=Z;rw[<-s,S1 Ur,SU]at g;rw[tQ e,<-g,T8,RA,Q3]
def NU:prog.globalNamed "rootcause/lexer.symbols" =some 2:=Ut
def PH:(prog.globals[2]?).map (·.type)=some 284:=Ut
def PI:prog.underlying 284=some (.array 25 9):=Ut
def PJ:prog.cellsOf 284=25:=Ut
def JI:(Rows.laid_rootcause_lexer_symbols:DataW Unit)=.agg (kI.syms.map λa=>.lit<|.string a):=Ut
def JJ{f}(e:laidMetH prog mL f):L.Laid f:=by have e:laidMet prog mL f:=e;constructor;have⟨p,a,b,q,r,g,i,j,c⟩:=Lib.laidMet.reads e (n:= "rootcause/lexer.words") (d:=Rows.laid_rootcause_lexer_words) UF;obtain rfl:=Option.some.inj<|Ka.symm.T g;obtain rfl:=Option.some.inj<|NR.symm.T i;have⟨a,k,l⟩:=oL Ka j;refine⟨a,k,?_⟩;rw[Cp]at c;have m:=ra (zs:=kI.words) NS underlying9 xb NT c;rw[l,show b=L.pg from by unfold L.pg;rw[<-Sy (xs:=b),m]];have⟨p,a,b,q,r,g,i,j,c⟩:=Lib.laidMet.reads e (n:= "rootcause/lexer.symbols") (d:=Rows.laid_rootcause_lexer_symbols) UF;obtain rfl:=Option.some.inj<|NU.symm.T g;obtain rfl:=Option.some.inj<|PH.symm.T i;have⟨a,k,l⟩:=oL NU j;refine⟨a,k,?_⟩;rw[JI]at c;have m:=ra (zs:=kI.syms) PI underlying9 xb PJ c;rw[l,show b=L.yK from by unfold L.yK;rw[<-Sy (xs:=b),m]]
def Hc{a}(b:L.Laid a):3+1<=a.heap.size:=by have⟨⟨d,e,c⟩,_⟩:=b;have:=(QS.1 c).1;omega
def PK:(prog.globals[1]?).map (·.type)=some 278:=Ut
def Nb:prog.cellsOf 225=1:=Ut
def JK:prog.cellsOf 278=20:=Ut
def He:prog.underlying 278=some (.array 20 225):=Ut
def JL:(Rows.laid_internal_strconv_uint64pow10:DataW Unit)=Lib.tabData .u64 Lib.pow10Tab:=Ut
def JM{a}(b:laidMetH prog mL a):qE true a:=by have b:laidMet prog mL a:=b;have⟨m,e,f,p,q,g,i,j,c⟩:=Lib.laidMet.reads b (n:= "internal/strconv.uint64pow10") (d:=Rows.laid_internal_strconv_uint64pow10) UF;obtain rfl:=Option.some.inj<|sZ.symm.T g;obtain rfl:=Option.some.inj<|PK.symm.T i;have⟨e,r,k⟩:=oL sZ j;rw[JL]at c;have l:=Lib.cells_of_tab (zs:=Lib.pow10Tab) He underlying225 Nb JK c;intro _;unfold Lib.TabIs World.var?;rw[sZ];simp only[Option.bind_some,k];rw[<-Sy (xs:=f),l]
def own:ownKnob prog.godebug=none:=Ut
def putCells(a:Array Value):Obj->Obj
 | .cells _ b c=>.cells a b c
 |o=>o
def FH:DataW Unit->List Value
 | .lit (.int a b)=>[Value.int a b]
 | .lit (.string c)=>[.string ⟨c.toArray⟩]
 | .lit (.bool d)=>[.bool d]
 |_=>[undef]
def oV:DataW Unit->Array Value
 | .agg a=>(a.flatMap λ| .agg b=>b.flatMap FH|x=>FH x).toArray
 |_=> #[]
noncomputable def rB(a:Os):World:=
 {World.holding prog a ⟨#[],#[],[]⟩with heap:=(((((((((World.holding prog a ⟨#[],#[],[]⟩).heap.modify 6<|putCells<|oV Rows.laid_math_bits_deBruijn32tab).modify 7<|putCells<|oV Rows.laid_math_bits_deBruijn64tab).modify 1<|putCells<|oV Rows.laid_internal_strconv_uint64pow10).modify 0<|putCells<|oV Rows.laid_rootcause_digest_constants).modify 3<|putCells<|oV Rows.laid_rootcause_lexer_words).modify 2<|putCells<|oV Rows.laid_rootcause_lexer_symbols).modify 9<|putCells<|oV Rows.laid_rootcause_syntax_shapes).modify 4<|putCells<|oV Rows.laid_rootcause_syntax_forms).modify 5<|putCells<|oV Rows.laid_rootcause_code_rows}
end Go.Proofs.YtppncjcpdbhobaaGreatDoor
namespace Go.Proofs.YtppncjcpdbhobaaGreatDoor
open Go.ChangeShapes Go.WideShapes Go.ChangeAt Go.RowKit lI oZ Go.Proofs.Tryz
def vY{b:Type}{c:List Value->b->Prop}{d}{e:Nat->b}:∀(a:List Nat),(∀i∈a,c (d i)<|e i)->lu c (a.map d) (a.map e)
 |[],_=>trivial
 |i::a,h=>⟨h i Us,vY a λf g=>h f<|by simp[g]⟩
section
variable {H:Type} {enc:TypeId×Value→H} {wQ:World} {base:Nat} {sp:Nat→Bool} {held:Bool}
abbrev Low(a:World):Nat->Prop:=λb=>b<a
def pV{α:Type}{i:Rel α}{C t}{b:Nat}(ok:lh i b)(M:prog.underlying C=some (.slice t))(N:prog.cellsOf t=b)
  (O:∀{u:Nat} {j:List Value} {v:DataW H×List MemPlace},DataW.trod enc prog wQ base sp held u t j=some v->∃w,i (Low wQ) wQ j w)
  {u:Nat} {j:List Value} {v:DataW H×List MemPlace} (P:DataW.trod enc prog wQ base sp held u C j=some v):
  ∃(D:Option Addr) (x:List α) (E:Nat),j=[.slice D x.length E]/\kz i (Low wQ) wQ (.slice D x.length E) x:=by
 rcases Go.Deep.open_slice M P with⟨rfl,_⟩|⟨f,d,r,Q,n,aj,ak,rfl,al,R,F,S,_,G⟩
 .exact⟨none,[],0,Z,kz.nil _ _ _⟩
 .have am:d<=Q:=(by rw[S];split<;>omega);rw[N]at G;have⟨T,hF⟩:=Go.Deep.choose_lt (α:=Option<|List Value×α) (n:=d) (p:=λa p=>∃c,p=some c/\wQ.cells? base (f.add<|a*b) b=some c.1/\i (Low wQ) wQ c.1 c.2) (λa hi=>by have⟨U,y,g⟩:=G a Y;have⟨w,V⟩:=O g;exact⟨some (U,w),_,Z,y,V⟩)
  rcases Su d with aa|hp;subst aa;exact⟨some f,[],r,Z,some f,r,[],Z,Q1 _,by unfold maxLen at F;omega,uk.nil _ _ _,trivial⟩;have⟨ab,_,_,_⟩:=hF 0 hp;obtain⟨e,k⟩:∃e:Nat->List Value×α,∀a,a<d->wQ.cells? base (f.add<|a*b) b=some (e a).1/\i (Low wQ) wQ (e a).1 (e a).2:=
   ⟨λa=>(T a).getD ab,λa hi=>by have⟨c,z,y,g⟩:=hF a hi;simp only[z,SD];exact⟨y,g⟩⟩
  have I:((List.range d).map λa=>(e a).2).length=d:=Us;have J:=ok.pos;have ac:∀K∈(List.range d).map (λa=>(e a).1),K.length=b:=by intro K ad;obtain⟨a,hi,rfl⟩:=R6.1 ad;exact ok.len (k a<|Tm.1 hi).2
  refine⟨some f,(List.range d).map λa=>(e a).2,r,by rw[I],some f,r,(List.range d).map λa=>(e a).1,Z,by rw[I];exact R,by unfold maxLen at F;omega,λan=>?_,vY _ λa hi=>(k a<|Tm.1 hi).2⟩;have L:∀a,a<d->∀l m,(e a).1[l]?=some m->wQ.cell? ((f.add<|a*b).add l)=some m:=λa hi l m s=>by have⟨_,ao,g⟩:=World.cells?_some (k a hi).1;have ae:l<b:=(by have:=(Rg.1 s).1;rw[ok.len (k a hi).2]at this;exact this);rw[g l ae];exact s
  have af:0<(e 0).1.length:=(by rw[ok.len (k 0 hp).2];exact J);have A:=L 0 hp 0 _<|Q7 af;have⟨ag,B,ah⟩:=f;have ai:ah=none:=(by simpa[Addr.add]using World.cell?_spot A);subst ai;rw[lz,lz]at A;refine⟨ag,B,Z,block_lt_of_cell A,λc m s=>?_⟩;have z:c/b*b+c % b=c:=(by rw[Nat.mul_comm];exact Nat.div_add_mod c b);have q:=ue _ (c/b) (c % b) ac<|Tv _ J;rw[z,s]at q;rcases SS (c/b) d with hi|hi;rw[RT,Uf hi]at q;have g:=L (c/b) hi (c % b) m q.symm;rw[lz,lz,show B+c/b*b+c % b=B+c from Y]at g;exact g;rw[SF<|by simpa using hi]at q;cases q
def uZ:prog.cellsOf 5=1:=Ut
def FI:prog.cellsOf 22=1:=Ut
def AD:prog.cellsOf 80=2:=Ut
def Cq:prog.cellsOf 59=1:=Ut
def FJ:prog.cellsOf 61=4:=Ut
def JN:prog.cellsOf 23=1:=Ut
def Hf:prog.cellsOf 25=3:=Ut
def PL{d:Type}{a:List d}(e:a.length=2):∃b c,a=[b,c]:=by
 match a,e with
 |[b,c],_=>exact⟨b,c,Z⟩
def zP{c:Nat}{b}{d:DataW H×List MemPlace}(e:DataW.trod enc prog wQ base sp held c 5 b=some d):∃f,qO (Low wQ) wQ b f:=by
 obtain⟨a,rfl,_,g⟩:=RX underlying5 e;have j:=bounds_u8 g;refine⟨UInt8.ofNat a.toNat,?_⟩;have i:((UInt8.ofNat a.toNat).toNat:Int)=a:=by rw[UInt8.toNat_ofNat'];omega
 show [Value.int .u8 a]=[.int .u8 _];rw[i]
def wM{c:Nat}{a}{d:DataW H×List MemPlace}(e:DataW.trod enc prog wQ base sp held c 5 a=some d):∃b:Nat,a=[.int .u8 (b:Int)]/\b<=255:=by obtain⟨f,rfl,_,g⟩:=RX underlying5 e;have i:=bounds_u8 g;exact⟨f.toNat,by rw[Uh i.1],Y⟩
def zR{m:Nat}{e}{n:DataW H×List MemPlace}(a:DataW.trod enc prog wQ base sp held m 80 e=some n):∃p,qu (Low wQ) wQ e p:=by have⟨b,f,_,_,q,r,g⟩:=SL underlying80 a;obtain⟨i,j,rfl⟩:=PL<|q.T AD;have v:b.length=2:=r;have c:DataW.trod enc prog wQ base sp held f 5 (([i,j].drop 0).take<|prog.cellsOf 5)=b[0]?:=g 0 _ Z;rw[uZ,Q7 Y]at c;have d:DataW.trod enc prog wQ base sp held f 22 (([i,j].drop 1).take<|prog.cellsOf 22)=b[1]?:=g 1 _ Z;rw[FI,Q7 Y]at d;simp only[SZ,SB,Sn,S0]at c d;have⟨s,k,_⟩:=wM c;have⟨w,t,x,l,u⟩:=pV qO.ok underlying22 uZ (λa=>zP a) d;simp only[Sh,Tl]at k l;subst k l;exact⟨⟨s,t⟩,_,Z,u⟩
def Hg{t:Nat}{n}{u:DataW H×List MemPlace}(a:DataW.trod enc prog wQ base sp held t 61 n=some u):∃v,uh (Low wQ) wQ n v:=by have⟨b,c,_,_,w,x,d⟩:=SL underlying61 a;obtain⟨e,f,g,i,rfl⟩:=L5<|w.T FJ;have E:b.length=4:=x;have j:DataW.trod enc prog wQ base sp held c 5 (([e,f,g,i].drop 0).take<|prog.cellsOf 5)=b[0]?:=d 0 _ Z;rw[uZ,Q7 Y]at j;have k:DataW.trod enc prog wQ base sp held c 5 (([e,f,g,i].drop 1).take<|prog.cellsOf 5)=b[1]?:=d 1 _ Z;rw[uZ,Q7 Y]at k;have l:DataW.trod enc prog wQ base sp held c 59 (([e,f,g,i].drop 2).take<|prog.cellsOf 59)=b[2]?:=d 2 _ Z;rw[Cq,Q7 Y]at l;have m:DataW.trod enc prog wQ base sp held c 59 (([e,f,g,i].drop 3).take<|prog.cellsOf 59)=b[3]?:=d 3 _ Z;rw[Cq,Q7 Y]at m;simp only[SZ,SB,Sn,S0]at j k l m;have⟨y,p,_⟩:=wM j;have⟨z,q,_⟩:=wM k;have⟨F,A,G,r,B⟩:=pV qu.ok underlying59 AD (λa=>zR a) l;have⟨I,C,J,s,D⟩:=pV qu.ok underlying59 AD (λa=>zR a) m;simp only[Sh,Tl]at p q r s;subst p q r s;exact⟨⟨y,z,A,C⟩,_,_,Z,B,D⟩
def Hh{A:Reach}{B:Nat}{c:Value}{p:DataW H}{q:List MemPlace}(C:Value.okWide prog wQ A B 25 c)(a:DataW.Trod enc prog wQ base sp held 25 c p q):
  ∃(d:Nat) (r:Option Addr) (e:List UInt8) (s:Nat) (t:Option Addr) (f:List Pt) (u:Nat),c=.agg #[.int .u8 (d:Int),(r,e.length,s),(t,f.length,u)]/\kz qO (Low wQ) wQ (r,e.length,s) e/\kz uh (Low wQ) wQ (t,f.length,u) f:=by
 obtain⟨v,rfl,_⟩:=okWide_struct underlying25 C;have⟨D,E⟩:=a;have F:DataW.trod enc prog wQ base sp held D 25 v.toList=some (p,q):=E;have⟨xs,g,_,_,G,I,b⟩:=SL underlying25 F;have⟨i,j,k,w⟩:=Pr<|G.T Hf;rw[w]at b;have R:xs.length=3:=I;have l:DataW.trod enc prog wQ base sp held g 5 (([i,j,k].drop 0).take<|prog.cellsOf 5)=xs[0]?:=b 0 _ Z;rw[uZ,Q7 Y]at l;have m:DataW.trod enc prog wQ base sp held g 22 (([i,j,k].drop 1).take<|prog.cellsOf 22)=xs[1]?:=b 1 _ Z;rw[FI,Q7 Y]at m;have n:DataW.trod enc prog wQ base sp held g 23 (([i,j,k].drop 2).take<|prog.cellsOf 23)=xs[2]?:=b 2 _ Z;rw[JN,Q7 Y]at n;simp only[SZ,SB,Sn,S0]at l m n;have⟨d,x,_⟩:=wM l;have⟨J,K,L,y,M⟩:=pV qO.ok underlying22 uZ (λa=>zP a) m;have⟨N,O,P,z,Q⟩:=pV uh.ok underlying23 FJ (λa=>Hg a) n;simp only[Sh,Tl]at x y z;subst x y z;refine⟨d,J,K,L,N,O,P,?_,M,Q⟩;rw[<-Sy (xs:=v),w]
def FU:Rel Int:=λb c d a=>mg b c d a/\rS a
def FU.ok:lh FU 1:=
 ⟨mg.ok.pos,λa=>mg.ok.len a.1,λa=>mg.ok.one a.1,λa b=>⟨mg.ok.M a.1 b,a.2⟩,λa c=>⟨mg.ok.ku a.1 c,a.2⟩⟩
def zS{d e}:∀{f:List<|List Value} {b:List Int},lu (FU d e) f b->lu (mg d e) f b/\∀c∈b,rS c
 |[],[],_=>⟨trivial,λ_ a=>by cases a⟩
 |_::_,_::_,⟨a,t⟩=>by have⟨g,i⟩:=zS t;exact⟨⟨a.1,g⟩,λc hx=>by rcases Rq.1 hx with rfl|hx;exact a.2;exact i c hx⟩
 |[],_::_,a=>a.elim
 |_::_,[],a=>a.elim
def Li{b c d a}(e:kz FU b c d a):kz mg b c d a/\∀f∈a,rS f:=by have⟨g,i,j,k,l,m,n,p⟩:=e;have⟨q,r⟩:=zS p;exact⟨⟨g,i,j,k,l,m,n,q⟩,r⟩
def Iw{a:Type}{c:Rel a}{d e f}{b g:Nat}{i:List a}(j:kz c d e (.slice f b g) i):b<=9223372036854775807:=by have⟨_,l,_,k,m,n,_⟩:=j;injection k with _ p _;omega
def JO{b:Nat}{a}{c:DataW H×List MemPlace}(d:DataW.trod enc prog wQ base sp held b 2 a=some c):∃e,FU (Low wQ) wQ a e:=by have⟨f,g,_,i⟩:=RX underlying2 d;exact⟨f,g,Ud i⟩
def vZ{af:Reach}{ag:Nat}{s:Value}{n:DataW H}{q:List MemPlace}(ah:Value.okWide prog wQ af ag 29 s)(p:DataW.Trod enc prog wQ base sp held 29 s n q):
  ∃(C ai:Int) (aj:Nat) (q b ak p n:Int) (D:Option Addr) (E:Nat) (a:List Int),s=.agg #[.int .i64 C,ai,.int .u8 (aj:Nat),q,b,ak,p,n,.slice D a.length E]/\(rS C/\rS b/\rS n/\∀al∈a,rS al)/\kz mg (Low wQ) wQ (.slice D a.length E) a:=by
 obtain⟨F,rfl,_⟩:=okWide_struct underlying29 ah;have⟨am,an⟩:=p;have ao:DataW.trod enc prog wQ base sp held am 29 F.toList=some (n,q):=an;have⟨a,b,_,_,ap,aq,c⟩:=SL underlying29 ao;have⟨d,e,f,g,i,j,k,l,m,G⟩:=Ps<|ap.T<|show prog.cellsOf 29=9 from Ut;rw[G]at c;have aC:a.length=9:=aq;have t:DataW.trod enc prog wQ base sp held b 3 (([d,e,f,g,i,j,k,l,m].drop 0).take<|prog.cellsOf 3)=a[0]?:=c 0 _ Z;rw[show prog.cellsOf 3=1 from Ut,Q7 Y]at t;have u:DataW.trod enc prog wQ base sp held b 3 (([d,e,f,g,i,j,k,l,m].drop 1).take<|prog.cellsOf 3)=a[1]?:=c 1 _ Z;rw[show prog.cellsOf 3=1 from Ut,Q7 Y]at u;have v:DataW.trod enc prog wQ base sp held b 26 (([d,e,f,g,i,j,k,l,m].drop 2).take<|prog.cellsOf 26)=a[2]?:=c 2 _ Z;rw[show prog.cellsOf 26=1 from Ut,Q7 Y]at v;have w:DataW.trod enc prog wQ base sp held b 3 (([d,e,f,g,i,j,k,l,m].drop 3).take<|prog.cellsOf 3)=a[3]?:=c 3 _ Z;rw[show prog.cellsOf 3=1 from Ut,Q7 Y]at w;have x:DataW.trod enc prog wQ base sp held b 3 (([d,e,f,g,i,j,k,l,m].drop 4).take<|prog.cellsOf 3)=a[4]?:=c 4 _ Z;rw[show prog.cellsOf 3=1 from Ut,Q7 Y]at x;have y:DataW.trod enc prog wQ base sp held b 3 (([d,e,f,g,i,j,k,l,m].drop 5).take<|prog.cellsOf 3)=a[5]?:=c 5 _ Z;rw[show prog.cellsOf 3=1 from Ut,Q7 Y]at y;have z:DataW.trod enc prog wQ base sp held b 3 (([d,e,f,g,i,j,k,l,m].drop 6).take<|prog.cellsOf 3)=a[6]?:=c 6 _ Z;rw[show prog.cellsOf 3=1 from Ut,Q7 Y]at z;have A:DataW.trod enc prog wQ base sp held b 2 (([d,e,f,g,i,j,k,l,m].drop 7).take<|prog.cellsOf 2)=a[7]?:=c 7 _ Z;rw[show prog.cellsOf 2=1 from Ut,Q7 Y]at A;have B:DataW.trod enc prog wQ base sp held b 27 (([d,e,f,g,i,j,k,l,m].drop 8).take<|prog.cellsOf 27)=a[8]?:=c 8 _ Z;rw[show prog.cellsOf 27=1 from Ut,Q7 Y]at B;simp only[SZ,SB,Sn,S0]at t u v w x y z A B;have⟨I,J,_,ar⟩:=RX underlying3 t;have⟨K,L,_,aD⟩:=RX underlying3 u;have⟨r,M,_,au⟩:=RX underlying26 v;have⟨N,O,_,aE⟩:=RX underlying3 w;have⟨P,Q,_,av⟩:=RX underlying3 x;have⟨R,S,_,aF⟩:=RX underlying3 y;have⟨T,U,_,aG⟩:=RX underlying3 z;have⟨V,aa,_,aw⟩:=RX underlying2 A;have⟨ab,ac,ad,ae,ax⟩:=pV FU.ok underlying27 (show prog.cellsOf 2=1 from Ut) (λp=>JO p) B;have⟨ay,az⟩:=Li ax;simp only[Sh,Tl]at J L M O Q S U aa ae;have aA:=bounds_u8 au;subst J L M O Q S U aa ae;obtain rfl:F=#[.int .i64 I,.int .i64 K,.int .u8 r,.int .i64 N,.int .i64 P,.int .i64 R,.int .i64 T,.int .i64 V,.slice ab ac.length ad]:=by apply Array.ext';rw[G]
 have aB:((r.toNat:Nat):Int)=r:=Uh aA.1;exact⟨I,K,r.toNat,N,P,R,T,V,ab,ad,ac,by rw[aB],⟨Ud ar,Ud av,Ud aw,az⟩,ay⟩
end
end Go.Proofs.YtppncjcpdbhobaaGreatDoor
namespace Go.RowKit
open Go.WideShapes Go.ChangeShapes Go.WideElems
section
variable {H:Type} {enc:TypeId×Value→H} {P:Program}
def rP(P:Program)(a:List TypeId):Bool:=a.all λt=>P.readableRec t&&decide (t<P.types.size)
def tR(e:laidOutB P=true){wQ f:World}{sp:Nat->Bool}:∀{b:List TypeId} {vs:List Value} {c:List (DataW H)} {a:List MemPlace},rP P b=true->
  DataW.TrodAll enc P wQ 0 (λ_=>true) true b vs c a->(∀p∈a,wQ.sameAt f p)->(∀p∈a,sp p.block=true)->DataW.TrodAll enc P f 0 sp true b vs c a
 |[],[],[],_,_,h,_,_=>h
 |t::b,v::vs,d::c,a,hr,h,h1,h2=>by
  obtain⟨p,q,hp,g,rfl⟩:=h;simp only[rP,List.all_cons,Bool.and_eq_true,decide_eq_true_eq]at hr;exact⟨p,q,Trod_stays e hr.1.1 hr.1.2 hp (λx hx=>h1 x (by simp[hx])) (λx hx=>h2 x (by simp[hx])),
   tR e (by simp[rP];simpa using hr.2) g (λx hx=>h1 x (by simp[hx])) (λx hx=>h2 x (by simp[hx])),rfl⟩
 |[],[],_::_,_,_,h,_,_=>h.elim
 |[],_::_,_,_,_,h,_,_=>h.elim
 |_::_,[],_,_,_,h,_,_=>h.elim
 |_::_,_::_,[],_,_,h,_,_=>h.elim
def JR{f:Func}{s:ChangeSpec}{k z A B:Bool}{wQ c:World}{args:Array Value}{a l:List (DataW H)}{d:List MemPlace}{m:TypeId}
  (C:laidOutB P=true) (D:rP P f.params.toList=true) (e:s.vars=[]) (n:f.resultTypes=#[m]) (r:P.underlying m=some .bool)
  (g:DataW.Whole enc P f.params.toList s.vars k wQ args.toList a l d)
  (i:s.fn H (a++l)={results:=[.lit (.bool true)],args:=a}) (hb:Below wQ.heap.size wQ c):
  s.post enc P f k z A B wQ args (.bool true) c:=by
 have E:=g;have j:∀p∈d,p.block<wQ.heap.size:=λp hp=>g.lt p hp;have F:∀p∈d,(λb=>decide (b<wQ.heap.size)) p.block=true:=λp hp=>by simpa using j p hp
 obtain⟨p,q,G,t,rfl,hz,hn⟩:=E;rw[e]at t;obtain⟨rfl,rfl⟩:=trodVars_none t;simp only[List.append_nil]at*;have u:∀(b:Nat) (sp:Nat->Bool) (hd:Bool),DataW.TrodAll enc P c b sp hd f.resultTypes.toList ((Value.bool true).resultList f.resultTypes.size) [.lit (.bool true)] []:=by intro b sp hd;rw[n];exact trodAll_mk1 (shut_bool r true)
 have v:∀sp:Nat->Bool,(∀x∈p,sp x.block=true)->DataW.TrodAll enc P c 0 sp true f.params.toList args.toList a p:=
  λsp h=>tR C D G (λx hx=>hb.same (j x hx)) h
 refine⟨a,[],p,[],p,[],g,?_,?_,?_,World.keptBut_mono (λx hx=>⟨hx,.inr (.inl hx)⟩) (hb.frame (·∈p)),λ_=>?_⟩
 .rw[List.append_nil,i];exact u _ _ _
 .rw[List.append_nil,i];exact v _ F
 .rw[List.append_nil,i,e];rfl
 .refine⟨ok_one n rfl (okWide_bool_mk r true),_,[],([]++p)++[],⟨[]++p,[],trodAll_append (v _ (λ_ _=>rfl)) (u _ _ _),by rw[e];rfl,rfl,?_,?_⟩,?_⟩;intro b w hp;have y:MemPlace.cell b w∈p:=(by simpa using hp);rw[hb.frozen (j _ y)];exact hz b w y;intro I;simpa using hn I;intro x hx _;simpa using hx
end
end Go.RowKit
namespace Go.Proofs.YtppncjcpdbhobaaGreatDoor
open RowKit Go.Proofs.Tryz lI Maps oZ qQ ChangeShapes WideShapes ChangeAt
def narrateDiffers.reads(a:Os){H:Type}(enc:TypeId×Value->H):∃b c,DataW.whole enc prog ((rB a).forCall (λ_ _=>0) ⟨#[],#[.agg #[.int .u8 0,.slice none 0 0,.slice none 0 0],.agg #[.int .i64 0,.int .i64 0,.int .u8 0,.int .i64 0,.int .i64 0,.int .i64 0,.int .i64 0,.int .i64 0,.slice none 0 0],.agg #[.int .i64 0,.int .i64 0,.int .u8 0,.int .i64 0,.int .i64 0,.int .i64 0,.int .i64 0,.int .i64 0,.slice none 0 0]],[]⟩).memory Tryz.f3.params.toList Rows.narrateDiffersSpec.vars false (#[.agg #[.int .u8 0,.slice none 0 0,.slice none 0 0],.agg #[.int .i64 0,.int .i64 0,.int .u8 0,.int .i64 0,.int .i64 0,.int .i64 0,.int .i64 0,.int .i64 0,.slice none 0 0],.agg #[.int .i64 0,.int .i64 0,.int .u8 0,.int .i64 0,.int .i64 0,.int .i64 0,.int .i64 0,.int .i64 0,.slice none 0 0]]:Array Value).toList 8=some (b,[],c):=by
 have h:(match DataW.whole enc prog ((rB a).forCall (λ_ _=>0) ⟨#[],#[.agg #[.int .u8 0,.slice none 0 0,.slice none 0 0],.agg #[.int .i64 0,.int .i64 0,.int .u8 0,.int .i64 0,.int .i64 0,.int .i64 0,.int .i64 0,.int .i64 0,.slice none 0 0],.agg #[.int .i64 0,.int .i64 0,.int .u8 0,.int .i64 0,.int .i64 0,.int .i64 0,.int .i64 0,.int .i64 0,.slice none 0 0]],[]⟩).memory Tryz.f3.params.toList Rows.narrateDiffersSpec.vars false (#[.agg #[.int .u8 0,.slice none 0 0,.slice none 0 0],.agg #[.int .i64 0,.int .i64 0,.int .u8 0,.int .i64 0,.int .i64 0,.int .i64 0,.int .i64 0,.int .i64 0,.slice none 0 0],.agg #[.int .i64 0,.int .i64 0,.int .u8 0,.int .i64 0,.int .i64 0,.int .i64 0,.int .i64 0,.int .i64 0,.slice none 0 0]]:Array Value).toList 8 with|some (_,[],_)=>true|_=>false)=true:=by kernel_rfl
 split at h;exact⟨_,_,by assumption⟩;cases h
def narrateDiffers.JS(a:Os):(((rB a).forCall (λ_ _=>0) ⟨#[],#[.agg #[.int .u8 0,.slice none 0 0,.slice none 0 0],.agg #[.int .i64 0,.int .i64 0,.int .u8 0,.int .i64 0,.int .i64 0,.int .i64 0,.int .i64 0,.int .i64 0,.slice none 0 0],.agg #[.int .i64 0,.int .i64 0,.int .u8 0,.int .i64 0,.int .i64 0,.int .i64 0,.int .i64 0,.int .i64 0,.slice none 0 0]],[]⟩)).variablesB Tryz.checked.prog=true:=by kernel_rfl
