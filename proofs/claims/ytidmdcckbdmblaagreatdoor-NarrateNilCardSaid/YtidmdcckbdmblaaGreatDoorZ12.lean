import Derived.Test.YtidmdcckbdmblaaGreatDoorZ7
import Derived.Test.YtidmdcckbdmblaaGreatDoorZ8
import Derived.Test.YtidmdcckbdmblaaGreatDoorZ10
set_option maxRecDepth 1000000
set_option maxHeartbeats 32000000
set_option linter.all false
namespace Go.Proofs.YtidmdcckbdmblaaGreatDoor
open Go.RowKit jJ Go.Maps Go.Proofs.Tryz
theorem Bn(ad w A)(n c1:Nat)(C)(p c2:Nat)(D)(b c3:Nat)(f)(hL:jV w)(hf:nE ad w A n c1 C p c2 D b c3 f)(I:kr f):
  Calls prog 161 #[.agg #[tx f.name,.slice A n c1,.slice C p c2,.slice D b c3]] w (jf (.bool true) w):=by
 have ba:= @run_makeMap prog;have W:=hf.jl;have X:=hf.kj;have Q:=hf.jh;have hS:=hf.jY;have bb:n<=2:=by rw[<-W.len.1];exact I.yr
 have bc:p<=9:=by rw[<-X.len.1];exact I.AZ
 have bd:b<=3:=by rw[<-Q.len.1];exact I.c3
 have be:1<=b:=by rw[<-Q.len.1];exact I.c1
 have bf:=W.len.2;have bg:=X.len.2;have bh:=Q.len.2;have bi:=JH W.len.1;have bj:=JH X.len.1;have aq:=JH Q.len.1;have Y:Below w w (w.alloc (.cells #[tx f.name,.slice A n c1,.slice C p c2,.slice D b c3] 84)):=Ba _ _;have ae:=JK w (.cells #[tx f.name,.slice A n c1,.slice C p c2,.slice D b c3] 84);have bk:(w.alloc (.cells #[tx f.name,.slice A n c1,.slice C p c2,.slice D b c3] 84)).heap.size=w+1:=LG
 have J:=(hf.iU Y)
 have af:=I;have ar:=(hL.to Y)
 have au:=JH ae;clear hS ae;have bl:((b:Int)==0)=false:=by rw[JX];omega
 have bm:¬(8:Int)<(b:Int):=LC
 have bn:¬(8:Int)<(n:Int):=LC
 have bo:¬(64:Int)<(p:Int):=LC
 go_enter func161,ntmps161
 go_wp2_with fail;generalize w.alloc (.cells #[tx f.name,.slice A n c1,.slice C p c2,.slice D b c3] 84)=B at*;have av:w.heap.size<B:=LC
 have v:=JH J.jY;have bp:=J.jl;have bq:=J.kj;have aw:=J.jh;have a:=(Below.refl B B)
 go_loopw [36] (λi wr=>∃k:Nat,k<=b/\i=k/\Below B B wr) (λi _=>b-(intOf i).toNat);case atStart=>exact⟨0,JV _,rfl,a⟩
 case round=>
  obtain⟨E,br,rfl,a⟩:=hrel;have bs:=a.size;by_cases bt:E<b
  .obtain⟨l,hx⟩:∃x,f.jh[E]?=some x:=Gx (LA aq.o);obtain⟨ag,bu,r,rfl,K,hr,g⟩:=(aw.iV (kL.ok .u8) (λq s=>a.B q (v.o q s))).jr (kL.ok .u8) E l hx;obtain⟨v1,v2,rfl,y,L⟩:=hr;obtain⟨M,cv,rfl,hcv⟩:=y.form;obtain⟨N,O,rfl,hce⟩:=L.form;have ax:=g 0 _ rfl;have ay:=g 1 _ rfl;have az:=g 2 _ rfl;rw[JT]at ax;have bv:ag<wr:=LA (v.o ag K);have aA:=JM hx;have bw:(0:Int)<=(E:Int):=LC;have bx:(E:Int)<(b:Int):=LC;clear g hx;have R:=af.jh l aA;obtain⟨F,Z⟩:=Xq l.vars.length;obtain⟨c,P⟩:=Xq l.jG.length;rw[<-Z]at ay y hcv;rw[<-P]at az L hce;have bz:F<=5:=(by rw[Z];exact R.yq);have bA:c<=2:=(by rw[P];exact R.v2);have bB:1<=c:=(by rw[P];exact R.v1);have aB:=JH P.symm;have bC:¬(8:Int)<(F:Int):=LC;have bD:((c:Int)==0)=false:=(by rw[JX];omega);have bE:¬(3:Int)<(c:Int):=LC;have aC:=(L.iV (ly.ok .u8) (w':=B) (λq s=>(a.B q (v.o q s)).symm))
   have aD:=((a.alloc LC (.cells #[tx l.name,.slice M F cv,.slice N c O] 176)).alloc (by rw[JN];omega) (.map #[] 0))
   have aa:=World.ownsMap_made (wr.alloc (.cells #[tx l.name,.slice M F cv,.slice N c O] 176)) prog 9 RM;rw[JN]at aa;have uf:((wr.alloc (.cells #[tx l.name,.slice M F cv,.slice N c O] 176)).alloc (.map #[] 0)).heap.size=wr+2:=LG;obtain⟨t,ab⟩:=Xq (wr.heap.size+1);rw[<-ab]at aa;have aE:wo ((wr.alloc (.cells #[tx l.name,.slice M F cv,.slice N c O] 176)).alloc (.map #[] 0)) t (3*0):=⟨_,aa⟩
   have bF:B<=t:=LC;clear Z P;go_wp2_with fail;rw[<-ab];generalize(wr.alloc (.cells #[tx l.name,.slice M F cv,.slice N c O] 176)).alloc (.map #[] 0)=bG at*;clear ab;have a:=aD;go_loopw [59] (λi wr=>∃k:Nat,k<=c/\i=k/\wo wr t (3*k)/\Below B B wr) (λi _=>c-(intOf i).toNat);case atStart=>exact⟨0,JV _,rfl,aE,a⟩
   case round=>
    obtain⟨j,bH,rfl,G,a⟩:=hrel;have a:=a;have bI:=a.size;by_cases bJ:j<c
    .obtain⟨S,hx⟩:∃x,l.jG[j]?=some x:=Gx (LA aB.o);obtain⟨ah,bK,r,rfl,K,hr,g⟩:=(aC.iV (ly.ok .u8) (λq s=>a.B q (v.o q s))).jr (ly.ok .u8) j S hx;obtain⟨v1,rfl,y⟩:=hr;obtain⟨T,U,rfl,aF⟩:=y.form;have ai:=g 0 _ rfl;rw[JT,Kk]at ai;have bL:ah<wr:=LA (v.o ah K);have aG:=JM hx;have bM:(0:Int)<=(j:Int):=LC;have bN:(j:Int)<(c:Int):=LC;clear g hx;have V:=R.jG S aG;obtain⟨m,ac⟩:=Xq S.length;rw[<-ac]at ai y aF V;have bO:m<=3:=V.1;have aH:=JH V;have aI:=JH ac.symm;have aJ:=(y.iV (kZ.ok .u8) (w':=B) (λq s=>(a.B q (v.o q s)).symm))
     have aK:=(a.alloc LC (.cells #[.slice T m U] 182))
     have aL:wo (wr.alloc (.cells #[.slice T m U] 182)) t (3*j+0):=G.imp λaj h=>h.alloc _;have bP:(wr.alloc (.cells #[.slice T m U] 182)).heap.size=wr+1:=LG;have bQ:t<wr:=G.elim λaj h=>h.lt;clear V ac;go_wp2_with fail;generalize wr.alloc (.cells #[.slice T m U] 182)=bR at*;have a:=aK;go_loopw [66] (λi wr=>∃k:Nat,k<=m/\i=k/\wo wr t (3*j+k)/\Below B B wr) (λi _=>m-(intOf i).toNat);case atStart=>exact⟨0,JV _,rfl,aL,a⟩
     case round=>
      obtain⟨u,bS,rfl,G,a⟩:=hrel;have a:=a;have bT:=a.size;by_cases bU:u<m
      .obtain⟨d,hx⟩:∃x,S[u]?=some x:=Gx (LA aI.o);obtain⟨ak,bV,r,rfl,K,hr,g⟩:=(aJ.iV (kZ.ok .u8) (λq s=>a.B q (v.o q s))).jr (kZ.ok .u8) u d hx;obtain⟨v1,v2,rfl,y,L⟩:=hr;obtain⟨al,am,rfl,bW⟩:=y.form;obtain⟨an,cb,rfl,bX⟩:=L.form;have aM:=g 0 _ rfl;have bY:=g 1 _ rfl;have bZ:=g 2 _ rfl;rw[JT]at aM;have ca:ak<wr:=LA (v.o ak K);have aN:=JM hx;have cc:(0:Int)<=(u:Int):=LC;have cd:(u:Int)<(m:Int):=LC;clear g hx;have aO:=aH.o.2 d aN;have aP:=(a.alloc LC (.cells #[tx d.name,.slice al d.params.length am,.slice an d.body.length cb] 189))
       obtain⟨aQ,aR⟩:=G;have aS:=(aR.alloc (.cells #[tx d.name,.slice al d.params.length am,.slice an d.body.length cb] 189))
       have ao:keyOf prog 9 (tx d.name)=some (.string d.name):=Go.WideMaps.keyOf_string_mk underlying9 (by have:=aO.name;unfold lf at this;simp at this;show d.name.toArray.size<=maxLen;simp;unfold maxLen;omega);have aT:=JH ao;clear ao;go_wp2_with (at_mapUpdate;refine wpList_mapUpdate_own _ rfl _ _ _ 364 rfl 9 4 F2 underlying364 RM t (3*j+u) aQ rfl aS LN (tx d.name) (.bool true) (.string d.name) rfl rfl aT.o _ [] rfl ?_);intro aU aV aW;have aX:wo aU t (3*j+(u+1)):=⟨_,aV⟩
       have a:=(aP.grown aW (by rw[JN];omega) (λz e=>by injection e with e;omega))
       go_wp2_with fail;go_roundw;case rel=>exact⟨u+1,LC,LI,aX,a⟩
       case measure=>simp[intOf];omega
      obtain rfl:m=u:=LC;have aY:wo wr t (3*(j+1)):=G.imp λaj h=>h.M LC;go_wp2_with fail;go_roundw;case rel=>exact⟨j+1,LC,LI,aY,a⟩
      case measure=>simp[intOf];omega
    obtain rfl:c=j:=LC;obtain⟨nm,ce,cf⟩:=G.len;have cg:¬(8:Int)<(nm:Int):=LC;go_wp2_with fail;go_roundw;case rel=>exact⟨E+1,LC,LI,a⟩
    case measure=>simp[intOf];omega
  obtain rfl:b=E:=LC;obtain⟨⟨ch,ci,cj,ck⟩,_⟩:=jA ((a.B _ av).T au.o);have cl:w.heap.size<wr:=LA a.size;go_wp2_with fail;have ap:=(Y.T (a.M LC))
  refine(lW 218 pZ qX ad wr A n c1 C p c2 D b c3 f (ar.to a) (J.iU a) af).M ?_;rintro e cm ⟨rfl,aZ⟩;go_wp2_with fail;go_ret;exact⟨rfl,ap.T (aZ.M ap.size)⟩
end Go.Proofs.YtidmdcckbdmblaaGreatDoor
namespace Go.Proofs.YtidmdcckbdmblaaGreatDoor
open Go.RowKit jJ Go.Proofs.Tryz
theorem xH(aM w aq)(m c:Nat)(ar:List In)(l:jc tN aM w (.slice aq m c) ar)(aN:∀x∈ar,mz m x)(hm:m<=100000)(hS:∀q,aM q->q<w)(hR:na w):
  Calls prog 239 #[.slice aq m c] w (Gd w):=by
 have ch:∀(fn:Fn) (first cap:Array Value) (w:World),(Instr.makeFunc fn first cap).run prog w=.ok (.func fn first cap) w:=λ_ _ _ _=>rfl;have bn:=tD;unfold kv at bn;have bo:=JH l;have bp:=JH aN;have aO:=JH hS;have aP:=JH hR;have bq:=JH l.len;clear l aN hS hR;have ci:IntKind.i64.wrap ((m:Int)+1)=((m+1:Nat):Int):=LH
 have cj:∀w:World,(Instr.makeSlice 147 (.int .i64 ((m:Int)+1)) (.int .i64 ((m:Int)+1))).run prog w=.ok (.slice (some ⟨w,0,none⟩) (m+1) (m+1)) (w.alloc (.cells (mA (List.replicate (m+1) 0)) 3)):=λw=>BB (m+1) LC w;have au:=JH (show oA (w+1) w (m+1) ((w.alloc (.cells (mA (List.replicate (m+1) 0)) 3)).alloc (.cells #[.slice (some ⟨w,0,none⟩) (m+1) (m+1)] 147))from⟨by have:=JK (w.alloc (.cells (mA (List.replicate (m+1) 0)) 3)) (.cells #[.slice (some ⟨w,0,none⟩) (m+1) (m+1)] 147);rw[JN]at this;exact this,⟨List.replicate (m+1) 0,LG,(KC _ _ _ LG).T (JK w _)⟩,LC⟩);have aQ:=JH (show Below w w ((w.alloc (.cells (mA (List.replicate (m+1) 0)) 3)).alloc (.cells #[.slice (some ⟨w,0,none⟩) (m+1) (m+1)] 147))from(Ba _ _).alloc LG _);have br:=JH (show((w.alloc (.cells (mA (List.replicate (m+1) 0)) 3)).alloc (.cells #[.slice (some ⟨w,0,none⟩) (m+1) (m+1)] 147)).heap.size=w+2 from LG);obtain⟨B,ac⟩:=Xq ((w.alloc (.cells (mA (List.replicate (m+1) 0)) 3)).alloc (.cells #[.slice (some ⟨w,0,none⟩) (m+1) (m+1)] 147));rw[<-ac]at au aQ br;have bs:=JH ac;clear ac
 go_enter func239,ntmps239
 go_wp2_with fail;have ac:=bs.o;rw[<-ac];clear ac;obtain⟨j,av⟩:=Xq w.heap.size;rw[<-av]at au⊢;have U:=JH av;clear av;go_loopw [19] (λi wr=>∃k:Nat,k<=m+1/\i=k/\oA (j+1) j (m+1) wr/\Below j w wr) (λi _=>m+1-(intOf i).toNat);case atStart=>exact⟨0,JV _,rfl,au.o,by rw[U.o];exact aQ.o⟩
 case round=>
  obtain⟨k,bt,rfl,V,ad⟩:=hrel;have W:=JH V;have X:=JH ad;have aw:=(JJ.1 V.var).1;have F:=iT V.var 0 _ rfl;clear V ad;by_cases aR:k<m+1
  .obtain⟨x,ae,ck,hs⟩:=W.o.get aR;have ax:=JH (hs (-1));have bu:(0:Int)<=(k:Int):=LC;have bv:(k:Int)<((m:Int)+1):=LC;have aS:j<wr:=LC;clear hs;go_wp2_with fail;go_roundw;case rel=>exact⟨k+1,LC,LI,ax.o,ja X.o (JS _)⟩
   case measure=>simp[intOf];omega
  obtain rfl:k=m+1:=LC;go_wp2_with fail;clear F aw;go_loopw [2,29] (λv i wr=>∃(k:Nat) (t:Int),k<=m/\i=k/\v=t/\oA (j+1) j (m+1) wr/\Below j w wr) (λ_ i _=>m-(intOf i).toNat);case atStart=>exact⟨0,0,JV _,rfl,rfl,W.o,X.o⟩
  case round=>
   clear W X;obtain⟨k,t,bt,rfl,rfl,V,ad⟩:=hrel;have W:=JH V;have X:=JH ad;have aw:=(JJ.1 V.var).1;have bw:=U.o;have cl:w.heap.size<=wr:=ad.size;clear V ad bw;by_cases aR:k<m
   .obtain⟨x,hx⟩:∃x,ar[k]?=some x:=Gx (LA bq.o);obtain⟨aT,cm,r,rfl,aU,hr,ah⟩:=(bo.o.iV tN.ok (λq aV=>X.o.B q (by rw[U.o];exact aO.o q aV))).jr tN.ok k x hx;have bx:r=[.int .u8 x.op,.int .i64 x.a,.int .i64 x.b,.int .i64 x.n]:=hr;subst bx;have ae:=ah 0 _ rfl;have D:=ah 1 _ rfl;have aW:=ah 2 _ rfl;have aX:=ah 3 _ rfl;rw[JT]at ae;have aY:=JH (bp.o x (JM hx));have cn:aT<wr:=LA (aO.o aT aU);have bu:(0:Int)<=(k:Int):=LC;have bv:(k:Int)<(m:Int):=LC;clear hr ah aU hx;obtain⟨op,a,b,n⟩:=x;simp only at ae D aW aX;go_wp2_with fail;have ay:=Ba wr (.cells #[.int .u8 op,a,b,n] 429);have aZ:=JH (JK wr (.cells #[.int .u8 op,a,b,n] 429));have bz:=JH (W.o.iU ay);have bA:=JH (X.o.T (ay.M LC));have az:(wr.alloc (.cells #[.int .u8 op,a,b,n] 429)).heap.size=wr+1:=LG;obtain⟨E,ba⟩:=Xq wr.heap.size;rw[<-ba]at aZ⊢;have bb:E<(wr.alloc (.cells #[.int .u8 op,a,b,n] 429)).heap.size:=LC;have co:E≠j/\E≠j+1/\j+1<E:=LC;have cp:j+1<(wr.alloc (.cells #[.int .u8 op,a,b,n] 429)).heap.size:=LC;generalize wr.alloc (.cells #[.int .u8 op,a,b,n] 429)=aA at*;clear ay az ba ae D aW aX W X;refine rr (λx=>oA (j+1) j (m+1) x/\Below aA aA x) (λv w=>oA (j+1) j (m+1) w/\aA.grownBy w (some j)) (kN [(·=.slice (some ⟨j,0,none⟩) (m+1) (m+1)),(·=k),(·=.slice (some ⟨j,0,none⟩) (m+1) (m+1)),(·=k),(Pp j k),Tr,Tr,(Pp j k),Tr]) [(5,λv w=>∃af:Int,v=af),(6,λv w=>∃af:Int,v=af)] (⟨bz.o.iU (Below.refl _ _).drew,(Below.refl _ _).drew⟩) ⟨?_,?_,?_,?_,?_,?_,?_,?_,?_,trivial⟩ ?_;intro P w f hf l hd hw;exact .l 4 (hf 4 rfl) (iT f.1.var 0 _ rfl) ⟨rfl,f,Qa⟩;exact Pf 7;intro P w f hf l hd hw;exact .l 4 (hf 4 rfl) (iT f.1.var 0 _ rfl) ⟨rfl,f,Qa⟩;exact Pf 7;intro P w f hf l hd hw;have cq:=Sv 36 l 2;have cr:=Sv 37 l 3;have aB:(k:Int)<(m:Int)+1:=LC;exact .q (g:=⟨rfl,f,Qa⟩);intro P w f hf l hd hw;have cs:=Sv 38 l 4;obtain⟨bB,g,_,_⟩:=f.1.get (i:=k) LC;replace f:=Hq f;exact .q (g:=⟨trivial,f.o,Qc ⟨_,rfl⟩<|Qa⟩);intro P w f hf l hd hw;obtain⟨af,bC⟩:=hd _ (Mm 0 rfl) _ rfl rfl;have ct:=Sl 39 bC;exact .q (g:=⟨trivial,f,Qb<|Qc ⟨_,rfl⟩<|Qa⟩);intro P w f hf l hd hw;have al:=Sv 34 l 0;have cu:=Sv 35 l 1;have aB:(k:Int)<(m:Int)+1:=LC;exact .q (g:=⟨rfl,f,Qa⟩);intro P w f hf l hd hw;have cv:=Sv 41 l 7;obtain⟨af,bD⟩:=hd _ (Mm 1 rfl) _ rfl rfl;have cw:=Sl 40 bD;obtain⟨bB,g,gf,hs⟩:=f.1.get (i:=k) LC;have ax:=JH (hs af);clear hs;replace f:=Hq f;refine .h λK hK=>?_;go_simp;exact hK (⟨ax.o,jd (jv (jo f.o.2) _) (jb _ _ _ _)⟩);intro aC aD bE bc;have Y:=JH bc;clear bE bc;simp only[je,Act.put,JL,JP,JO];obtain⟨bF,bG,aE,aF⟩:=aY.o;simp only at bF bG aE aF;have cx:=JH (And.intro aE aF);clear aE aF;obtain⟨p,bH⟩:∃q:Nat,op=(q:Int):=⟨op.toNat,LC⟩
    subst bH;have aG:=(Y.o.2.B E bb (λe=>by injection e with e;omega)).T aZ.o;have bI:=JH aG;have bJ:E<aD:=JI bb Y.o.2.size;obtain⟨⟨u,y,A,C⟩,_⟩:=jA aG;have am:=JH (show Below j w aD from bA.o.T ⟨Y.o.2.os,Y.o.2.tape,Y.o.2.output,Y.o.2.size,λq aV=>Y.o.2.B q LC (λe=>by injection e with e;omega)⟩);have bK:=JH (aP.o.iV (am.o.B _ (by rw[U.o];exact aP.o.lt)) am.o.size);clear aG;go_wp2_with fail;refine(EK p LC aD bK.o).M ?_;rintro e an ⟨Z,u1,aH,D,rfl,aI⟩;have aJ:=JH aI;have cy:=aI.size;clear aI u y A C;obtain⟨ag,aK⟩:=Xq an.heap.size;have aa:=JH (show mK j m E ag (p:Int) a b n Z u1 D w (an.alloc (.cells #[.string Z,.string u1,aH,D] 431))from⟨(Y.o.1.iU aJ.o).iU (Below.alloc (Below.refl _ _) (JS _) _),(KC _ _ _ LC).T ((aJ.o.B E bJ).T bI.o),⟨aH,by rw[aK];exact JK an _⟩,(am.o.T (aJ.o.M (LA am.o.size))).alloc LC _,LC,LC⟩);skip;go_upto_region 13 with fail;rw[<-aK];obtain⟨bL,bd⟩:=Xq (an.alloc (.cells #[.string Z,.string u1,aH,D] 431));rw[<-bd]at aa⊢;clear bd aK;obtain⟨ab,s⟩:=aa.o.row;obtain⟨⟨u,y,A,C⟩,_⟩:=jA aa.o.ins;obtain⟨⟨G,I,J,L⟩,⟨bM,ai,ao,ap⟩⟩:=jA s;have M:=(JJ.1 s).1;have N:=(JJ.1 aa.o.ins).1;clear s;go_cut [29,52]from 29 to 124 (λi c Q=>i=k/\(∃R:Bool,c=.bool R)/\Q=bL);case first=>
     by_cases bN:p=30
     .subst bN;go_wp2_with fail;go_meet;exact⟨rfl,⟨_,rfl⟩,rfl⟩
     by_cases bO:p=31
     .subst bO;go_wp2_with fail;go_meet;exact⟨rfl,⟨_,rfl⟩,rfl⟩
     have cz:((p:Int)==30)=false:=LJ;have cA:((p:Int)==31)=false:=LJ;have cB:¬(p:Int)=30:=LC;have cC:¬(p:Int)=31:=LC;go_wp2_with fail;go_meet;exact⟨rfl,⟨_,rfl⟩,rfl⟩
    case rest=>
     obtain⟨rfl,⟨R,rfl⟩,rfl⟩:=hcut;go_step;go_cut [29]from 29 to 124 (λi Q=>i=k/\mK j m E ag (p:Int) a b n Z u1 D w Q);case first=>
      cases R
      .go_wp2_with fail;go_meet;exact⟨rfl,aa.o⟩
      go_wp2_with fail;go_meet;exact⟨rfl,aa.o.Iu _⟩
     case rest=>
      obtain⟨rfl,be⟩:=hcut;clear aa u y A C G I J L bM ai ao ap N M;have d:=JH be;clear be;obtain⟨ab,s⟩:=d.o.row;obtain⟨⟨u,y,A,C⟩,_⟩:=jA d.o.ins;obtain⟨⟨G,I,J,L⟩,_⟩:=jA s;have M:=(JJ.1 s).1;have N:=(JJ.1 d.o.ins).1;have F:=iT d.o.ht.var 0 _ rfl;obtain⟨O,T,_,_⟩:=d.o.ht.get (i:=k) LC;clear s;have aB:(k:Int)<(m:Int)+1:=LC;go_upto_region 15 with fail;go_cut [29,77]from 29 to 124 (λi c Q=>i=k/\(∃R:Bool,c=.bool R)/\mK j m E ag (p:Int) a b n Z u1 D w Q);case first=>
       by_cases cD:O<ab
       .go_quiet (fail);go_wp2_with fail;go_meet;exact⟨rfl,⟨_,rfl⟩,d.o.to (kF (Below.refl _ _) _)⟩
       by_cases al:p=34
       .subst al;by_cases bf:O=0
        .subst bf;go_quiet (fail);go_wp2_with fail;go_meet;exact⟨rfl,⟨_,rfl⟩,d.o.to (kF (Below.refl _ _) _)⟩
        have ae:(O !=0)=true:=(by simpa using bf);go_quiet (fail);go_wp2_with fail;go_meet;exact⟨rfl,⟨_,rfl⟩,d.o.to (kF (Below.refl _ _) _)⟩
       have bP:((p:Int)==34)=false:=LJ;have bQ:¬(p:Int)=34:=LC;go_quiet (fail);go_wp2_with fail;go_meet;exact⟨rfl,⟨_,rfl⟩,d.o.to (kF (Below.refl _ _) _)⟩
      case rest=>
       obtain⟨rfl,⟨R,rfl⟩,S⟩:=hcut;clear u y A C G I J L F T M N;clear d;have d:=JH S;clear S;cases R;case true=>go_wp2_with fail;refine JZ (v:=.tuple #[.int .i64 0,.bool false]) ?_ rfl ⟨0,false,rfl,by have h:=d.o.iU;rw[U.o]at h;exact h⟩;simp[results,Tryz.results239,go_sem]
       case false=>
        obtain⟨ab,s⟩:=d.o.row;obtain⟨⟨u,y,A,C⟩,_⟩:=jA d.o.ins;obtain⟨⟨G,I,J,L⟩,_⟩:=jA s;have M:=(JJ.1 s).1;have N:=(JJ.1 d.o.ins).1;have F:=iT d.o.ht.var 0 _ rfl;obtain⟨O,T,_,_⟩:=d.o.ht.get (i:=k) LC;clear s;have aB:(k:Int)<(m:Int)+1:=LC;obtain⟨ai,az⟩:∃ai,IntKind.i64.wrap (O-ab)=ai:=⟨_,rfl⟩
        obtain⟨ao,bR⟩:∃ao,IntKind.i64.wrap (ai+D)=ao:=⟨_,rfl⟩
        have bS:IntKind.i64.wrap ((k:Int)+1)=((k+1:Nat):Int):=LH;go_upto_region 17 with fail;go_cut [10,29]from 29 to 124 (λbT i Q=>(∃z:Int,bT=z)/\i=k/\mK j m E ag (p:Int) a b n Z u1 D w Q);case first=>go_quiet (fail);go_wp2_with fail;go_meet;exact⟨⟨_,rfl⟩,rfl,d.o.to (kF (Below.refl _ _) _)⟩
        case rest=>
         obtain⟨⟨ap,rfl⟩,rfl,S⟩:=hcut;clear u y A C G I J L M N F T;clear d az bR;have d:=JH S;clear S;obtain⟨ab,s⟩:=d.o.row;obtain⟨⟨u,y,A,C⟩,_⟩:=jA d.o.ins;obtain⟨⟨G,I,J,L⟩,_⟩:=jA s;have M:=(JJ.1 s).1;have N:=(JJ.1 d.o.ins).1;have F:=iT d.o.ht.var 0 _ rfl;obtain⟨cE,T,_,_⟩:=d.o.ht.get (i:=k) LC;clear s;go_upto_region 18 with fail;go_cut [2,29]from 29 to 124 (λbU i Q=>(∃z:Int,bU=z)/\i=k/\mK j m E ag (p:Int) a b n Z u1 D w Q);case first=>go_wp2_with fail;all_goals (go_meet;exact⟨⟨_,rfl⟩,rfl,d.o⟩)
         case rest=>
          obtain⟨⟨cF,rfl⟩,rfl,S⟩:=hcut;clear u y A C G I J L M N F T;clear d;have d:=JH S;clear S;obtain⟨ab,s⟩:=d.o.row;obtain⟨⟨u,y,A,C⟩,_⟩:=jA d.o.ins;obtain⟨⟨G,I,J,L⟩,_⟩:=jA s;have M:=(JJ.1 s).1;have N:=(JJ.1 d.o.ins).1;have F:=iT d.o.ht.var 0 _ rfl;obtain⟨cG,T,_,_⟩:=d.o.ht.get (i:=k) LC;clear s;go_upto_region 19 with fail;go_cut [29,110]from 29 to 124 (λi c Q=>i=k/\(∃R:Bool,c=.bool R)/\mK j m E ag (p:Int) a b n Z u1 D w Q);case first=>
           by_cases bV:p=27
           .subst bV;go_wp2_with fail;go_meet;exact⟨rfl,⟨_,rfl⟩,d.o⟩
           have cH:((p:Int) !=27)=true:=LJ;by_cases al:p=34
           .subst al;go_wp2_with fail;go_meet;exact⟨rfl,⟨_,rfl⟩,d.o⟩
           have bP:((p:Int) !=34)=true:=LJ;have cI:¬(p:Int)=27:=LC;have bQ:¬(p:Int)=34:=LC;go_wp2_with fail;refine(qs (j+1) j (m+1) (k+1) ap _ d.o.ht LC LC).M ?_;rintro e bW ⟨bg,rfl,aj,f⟩;have bX:=JH (d.o.grown aj f);clear aj f u y A C G I J L M N F T;go_wp2_with fail;go_meet;exact⟨rfl,⟨_,rfl⟩,bX.o⟩
          case rest=>
           obtain⟨rfl,⟨R,rfl⟩,S⟩:=hcut;clear u y A C G I J L M N F T;clear d;have d:=JH S;clear S;cases R;case true=>go_wp2_with fail;refine JZ (v:=.tuple #[.int .i64 0,.bool false]) ?_ rfl ⟨0,false,rfl,by have h:=d.o.iU;rw[U.o]at h;exact h⟩;simp[results,Tryz.results239,go_sem]
           case false=>
            obtain⟨ab,s⟩:=d.o.row;obtain⟨⟨u,y,A,C⟩,_⟩:=jA d.o.ins;obtain⟨⟨G,I,J,L⟩,_⟩:=jA s;have M:=(JJ.1 s).1;have N:=(JJ.1 d.o.ins).1;have F:=iT d.o.ht.var 0 _ rfl;obtain⟨O,T,_,_⟩:=d.o.ht.get (i:=k) LC;clear s;go_wp2_with fail;refine(yV ⟨(p:Int),a,b,n⟩ m _ aY.o).M ?_;rintro e cJ ⟨bh,bY,rfl,bi,bZ⟩;have ak:=JH (d.o.to bi);clear u y A C G I J L M N F T;clear d bi;cases bY;case false=>
             go_wp2_with fail;refine⟨?_,?_⟩;repeat apply Exists.intro
             refine⟨?_,rfl⟩;exact⟨k+1,_,LC,LI,rfl,ak.o.ht,ak.o.iU⟩;show m-(intOf (.int .i64 ((k:Int)+1))).toNat<m-(intOf (.int .i64 (k:Int))).toNat;simp[intOf];omega
            case true=>
             obtain⟨ae,D⟩:=bZ rfl;obtain⟨ca,cb⟩:∃q:Nat,bh=(q:Int):=⟨bh.toNat,LC⟩
             subst cb;go_wp2_with fail;refine(qs (j+1) j (m+1) ca ap _ ak.o.ht LC LC).M ?_;rintro e bW ⟨bg,rfl,aj,f⟩;have d:=JH (ak.o.grown aj f);clear aj f ak;cases bg;case false=>go_wp2_with fail;refine JZ (v:=.tuple #[.int .i64 0,.bool false]) ?_ rfl ⟨0,false,rfl,by have h:=d.o.iU;rw[U.o]at h;exact h⟩;simp[results,Tryz.results239,go_sem]
             case true=>
              go_wp2_with fail;refine⟨?_,?_⟩;repeat apply Exists.intro
              refine⟨?_,rfl⟩;exact⟨k+1,_,LC,LI,rfl,d.o.ht,d.o.iU⟩;show m-(intOf (.int .i64 ((k:Int)+1))).toNat<m-(intOf (.int .i64 (k:Int))).toNat;simp[intOf];omega
   obtain rfl:k=m:=LC;go_wp2_with fail;have aS:j<wr:=LC;obtain⟨O,bj,_,_⟩:=W.o.get (i:=k) LC;have cc:=JH bj;have cd:=JH W.o.var;have cK:(0:Int)<=(k:Int):=LC;have bS:(k:Int)<(k:Int)+1:=LC;clear bj;refine Ri (λx=>Below wr wr x) (kN [(·=t),(·=.slice (some ⟨j,0,none⟩) (k+1) (k+1)),(·=.slice aq k c),(·=k),(Pp j k),(·=O),(·=.bool (decide (O<=0))),(·=t),(·=.bool (decide (O<=0)))]) [] ((Below.refl _ _).drew) ⟨?_,?_,?_,?_,?_,?_,?_,?_,?_,trivial⟩ ?_;exact λ_ w f hf l hd hw=>.p 2 (hw 7 _ 2 rfl rfl rfl) ⟨rfl,f,Qa⟩;intro P w f hf l hd hw;exact .l 4 (hf 4 rfl) (iT ((f.B (j+1) aw).T cd.o) 0 _ rfl) ⟨rfl,f,Qa⟩;exact .f 0;intro P w f hf l hd hw;have cL:=Sv 127 l 2;exact .q (g:=⟨rfl,f,Qa⟩);intro P w f hf l hd hw;have cM:=Sv 126 l 1;have cN:=Sv 128 l 3;exact .q (g:=⟨rfl,f,Qa⟩);intro P w f hf l hd hw;have g:=(Cb j k (f.B j aS)).T cc.o;exact .l 129 (l 4 _ rfl rfl) g ⟨rfl,f,Qa⟩;intro P w f hf l hd hw;have cO:=Sv 130 l 5;exact .q (g:=⟨rfl,f,Qa⟩);exact .v 125 0;exact .v 131 6;intro aC cP bk aL ce;have bl:aC 7=.int .i64 t:=aL 7 LD;have bm:aC 8=.bool (decide (O<=0)):=aL 8 LD;have cf:=JH bk;have cg:w<=j:=LA U.o;clear aL ce bk;simp only[je,Act.put,JL,JP,JO,bl,bm];clear bl bm;go_wp2_with fail;refine JZ (v:=.tuple #[.int .i64 t,.bool (decide (O<=0))]) ?_ rfl ⟨t,_,rfl,(X.o.M cg).T (cf.o.M LC)⟩;simp[results,Tryz.results239,go_sem]
theorem yX(ac w)(name:List UInt8)(U:Option Addr)(V c1:Nat)(P)(l c2:Nat)(f)(ad:jc (ly .u8) ac w (.slice P l c2) f)(hS:∀q,ac q->q<w)(be:l<=4)(ae:∀hs∈f,hs.length<=100):
  Calls prog 110 #[.agg #[tx name,.slice U V c1,.slice P l c2]] w (A8 (jL [] f) w):=by
 obtain⟨aC,aD,hz0,aE,aF⟩:=Kl qi;have aG:=ad;have u:=JH hS;have aH:=JH ae;have af:=JH ad.len;have aI:=Ba w (.cells #[tx name,.slice U V c1,.slice P l c2] 176);clear hS ae
 go_enter func110,ntmps110
 go_wp2_with fail;generalize w.alloc (.cells #[tx name,.slice U V c1,.slice P l c2] 176)=w0 at*;go_loopw [3,11] (λv i wr=>∃k:Nat,k<=l/\i=k/\jx jk 9 1 (λ_=>False) wr w v (jL [] (f.take k))/\(jL [] (f.take k)).length<=100*k/\Below w w wr) (λ_ i _=>l-(intOf i).toNat);case atStart=>exact⟨0,JV _,rfl,jx.nil _ _ _ _ _ _,by simp[jL],aI⟩
 case round=>
  obtain⟨k,bf,rfl,d,aJ,g⟩:=hrel;obtain⟨D,E,rfl,W,aK⟩:=d.form;have hz:=g.size;by_cases bg:k<l
  .obtain⟨x,hx⟩:∃x,f[k]?=some x:=Gx (LA af.o);obtain⟨ag,bh,r,rfl,aL,hr,n⟩:=(aG.iV (ly.ok _) (λq m=>g.B q (u.o q m))).jr (ly.ok _) k x hx;obtain⟨v,rfl,X⟩:=hr;obtain⟨ah,ai,rfl,aM⟩:=X.form;have p:=n 0 _ rfl;rw[JT,Kk]at p;have aN:ag<wr:=LA (u.o ag aL);have aO:=aH.o x (JM hx);have aj:=JH (xJ [] hx);obtain⟨y,Y⟩:=Xq (jL [] (f.take k));rw[<-Y]at d aJ aj;obtain⟨s,Z⟩:=Xq x.length;rw[<-Z]at X p aO aM;have ak:=JH Z;obtain⟨al,aa⟩:=Xq y.length;have Q:=JH aa;have bi:(0:Int)<=(k:Int):=LC;have bj:(k:Int)<(l:Int):=LC;have ab:=Ba wr (.cells #[.slice ah s ai] 182);have am:=(g.T (ab.M hz))
   have aP:=(d.iU jk.ok ab)
   have aQ:=(X.iV (kZ.ok .u8) (λq m=>ab.B q (LA (u.o q m))))
   rw[<-Y,<-aa];clear n hx Z Y aa;go_wp2_with fail;clear p;generalize wr.alloc (.cells #[.slice ah s ai] 182)=bk at*;go_loopw [3,18] (λv i wr=>∃(a:Nat),a<=s/\i=a/\jx jk 9 1 (λ_=>False) wr w v (kH y (x.take a))/\(kH y (x.take a)).length<=al+a/\Below w w wr) (λ_ i _=>s-(intOf i).toNat);case atStart=>exact⟨0,JV _,rfl,by rw[Q.o];exact aP,by rw[Q.o];simp[kH],am⟩
   case round=>
    obtain⟨a,bl,rfl,d,t,g⟩:=hrel;obtain⟨D,E,rfl,W,aK⟩:=d.form;have d:=d;have g:=g;have hz:=g.size;by_cases bm:a<s
    .obtain⟨A,hy⟩:∃A,x[a]?=some A:=Gx (LA ak.o);obtain⟨an,bn,r,rfl,aR,hr,n⟩:=(aQ.iV (kZ.ok .u8) (λq m=>(g.B q (u.o q m)).T (am.B q (u.o q m)).symm)).jr (kZ.ok .u8) a A hy;obtain⟨v1,v2,rfl,aS,aT⟩:=hr;obtain⟨F,G,rfl,_⟩:=aS.form;obtain⟨I,cb,rfl,_⟩:=aT.form;have p:=n 0 _ rfl;have ao:=n 1 _ rfl;have ap:=n 2 _ rfl;rw[JT]at p;have aN:an<wr:=LA (u.o an aR);have B:=JH (xI y hy);obtain⟨j,aq⟩:=Xq (kH y (x.take a));rw[<-aq]at d t B W⊢;obtain⟨J,R⟩:=Xq j.length;have S:=JH R;have bo:J<=al+a:=LA t;have aU:J<=1000:=LB t Q.o;rw[<-R]at W⊢;obtain⟨K,ar⟩:=Xq A.params.length;obtain⟨L,au⟩:=Xq A.body.length;obtain⟨c,av⟩:=Xq A.name;rw[<-ar]at ao;rw[<-au]at ap;rw[<-av]at p B;have bp:(0:Int)<=(a:Int):=LC;have bq:(a:Int)<(s:Int):=LC;have aw:=Ba wr (.cells #[tx c,.slice F K G,.slice I L cb] 189);have ax:=(g.T (aw.M hz))
     have T:=(show jx jk 9 1 (λ_=>False) (wr.alloc (.cells #[tx c,.slice F K G,.slice I L cb] 189)) w (.slice D J E) j by have h:=d.iU jk.ok aw;rw[<-R]at h;exact h)
     have ay:=JH (JK wr (.cells #[tx c,.slice F K G,.slice I L cb] 189));have M:(wr.alloc (.cells #[tx c,.slice F K G,.slice I L cb] 189)).heap.size=wr+1:=LG;have aV:=JH M;clear n hy aq R ar au av M d g t;go_upto_region 8 with fail;have M:=aV.o;obtain⟨aW,az⟩:=Xq wr.heap.size;rw[<-az]at ay M⊢;generalize wr.alloc (.cells #[tx c,.slice F K G,.slice I L cb] 189)=C at*;have br:aW<C:=LC;have aX:w.heap.size<=C:=LC;have bs:=iT ay.o 0 _ rfl;clear M az p ao ap;have aY:=T.sl jk.ok;go_wp2_with fail;refine(mD (λb=>(False\/w<=b)/\b<C) C D J E j c aY aU (λq m=>m.2)).M ?_;rintro e w' ⟨rfl,rfl⟩;by_cases hm:c∈j
     .have hd:decide (c∈j)=true:=(by simpa using hm);rw[hd];have N:nu j c=j:=(by unfold nu;rw[Kn hm]);have O:=JH N;clear N hd hm;go_wp2_with fail;go_roundw;case rel=>exact⟨a+1,LC,LI,by rw[B.o,O.o];exact T,by rw[B.o,O.o,<-S.o];omega,ax⟩
      case measure=>simp[intOf];omega
     have hd:decide (c∈j)=false:=(by simpa using hm);rw[hd];have N:nu j c=j++[c]:=(by unfold nu;rw[Ka hm]);have O:=JH N;clear N hd hm;go_wp2_with (at_builtin;(refine kV rfl _ _ 126 rfl w.heap.size 9 aC _ 1 16 underlying126 aD hz0 aE aF rfl jk.ok (λ_=>False) (.slice D J E) j rfl (T.iU jk.ok (Ba _ _)) ⟨C,0,none⟩ [tx c] c rfl (wM C [tx c] 9) rfl ?c3 ?c4 ?c5 ?_));case c3=>rw[<-S.o];unfold maxLen;omega
     case c4=>rw[<-S.o];omega
     case c5=>simp;omega
     intro v1 bt aZ ba _;have bb:=((ax.alloc aX (.cells #[tx c] 9)).grown ba LJ (λz e=>(T.ge z e).1))
     go_wp2_with fail;go_roundw;case rel=>exact⟨a+1,LC,LI,by rw[B.o,O.o];exact aZ,by rw[B.o,O.o,JU,<-S.o];simp;omega,bb⟩
     case measure=>simp[intOf];omega
    obtain rfl:a=s:=LC;have aA:kH y (x.take a)=jL [] (f.take (k+1)):=(by rw[Kj (LA ak.o)];exact aj.o.symm);rw[aA]at d t⊢;clear aA;go_wp2_with fail;go_roundw;case rel=>exact⟨k+1,LC,LI,d,by have:=t;have:=t;have:=Q.o;omega,g⟩
    case measure=>simp[intOf];omega
  obtain rfl:k=l:=LC;go_wp2_with fail;go_ret;refine⟨_,rfl,?_,g⟩;have aB:=d;have bc:f.take k=f:=Kj (LA af.o);have bd:jx jk 9 1 (λ_=>False) wr w (.slice D (jL [] (f.take k)).length E) (jL [] f):=(by rw[bc]at aB⊢;exact aB);exact bd
theorem tE(b n:Nat)(w)(h:kT 318 w b (n*3))(hn:n<=1000):Calls prog 172 #[.slice (some ⟨b,0,none⟩) n n] w (CS w):=by
 obtain⟨j,hi,hz0,m,p⟩:=Kl wX;have A:∀w a n c n' d,(binOp .eql 315 (.slice a n c) (.slice none n' d)).run prog w=.ok (.bool a.isNone) w:=λw a n c n' d=>Lib.run_eql_slice_nil w _ _ a n c n' d underlying315;obtain⟨l,B,q,r⟩:=h.cells;have s:=h.lt
 go_enter func172,ntmps172
 go_wp2_with (at_builtin;refine wpList_append_own _ rfl _ _ 315 rfl w.heap.size 318 j _ 3 40 underlying315 hi hz0 m p rfl LD _ _ _ rfl (World.ownsRow_made w #[] 0 (JS _) (JV _) rfl) ⟨b,0,none⟩ n n l rfl ?Ia ?Ib ?Ic ?Ie ?Ig ?Ih ?_);case Ia=>omega
 case Ib=>intro f u t;rw[kh,J4];exact(Cb b f (KC _ _ _ s)).T (r f u t)
 case Ic=>exact q
 case Ie=>unfold maxLen;omega
 case Ig=>omega
 case Ih=>simp
 intro v C x y D;obtain⟨i,d,rfl⟩:∃i d,v=.slice i n d:=by
  rcases x.2 with⟨e,E⟩|⟨g,F,G,e,_⟩
  exact⟨none,0,by rw[e];congr 1;omega⟩;exact⟨_,_,by rw[e]⟩
 go_wp2;go_ret;exact⟨_,_,_,rfl,((Below.refl _ w).alloc (JS _) _).grown y LG (by intro k z;simp[Value.ownBlock]at z;omega)⟩
theorem tF(b n:Nat)(w)(h:kT 4 w b n)(hn:n<=1000):Calls prog 173 #[.slice (some ⟨b,0,none⟩) n n] w (CS w):=by
 obtain⟨j,hi,hz0,m,p⟩:=Kl wY;have A:∀w a n c n' d,(binOp .eql 316 (.slice a n c) (.slice none n' d)).run prog w=.ok (.bool a.isNone) w:=λw a n c n' d=>Lib.run_eql_slice_nil w _ _ a n c n' d underlying316;obtain⟨l,B,q,r⟩:=h.cells;have s:=h.lt
 go_enter func173,ntmps173
 go_wp2_with (at_builtin;refine wpList_append_own _ rfl _ _ 316 rfl w.heap.size 4 j _ 1 1 underlying316 hi hz0 m p rfl LD _ _ _ rfl (World.ownsRow_made w #[] 0 (JS _) (JV _) rfl) ⟨b,0,none⟩ n n l rfl ?Ia ?Ib ?Ic ?Ie ?Ig ?Ih ?_);case Ia=>omega
 case Ib=>intro f u t;rw[kh,J4];exact(Cb b f (KC _ _ _ s)).T (r f u t)
 case Ic=>exact q
 case Ie=>unfold maxLen;omega
 case Ig=>omega
 case Ih=>simp
 intro v C x y D;obtain⟨i,d,rfl⟩:∃i d,v=.slice i n d:=by
  rcases x.2 with⟨e,E⟩|⟨g,F,G,e,_⟩
  exact⟨none,0,by rw[e];congr 1;omega⟩;exact⟨_,_,by rw[e]⟩
 go_wp2;go_ret;exact⟨_,_,_,rfl,((Below.refl _ w).alloc (JS _) _).grown y LG (by intro k z;simp[Value.ownBlock]at z;omega)⟩
theorem mW.unit{l}{cb m p q r:Nat}{a b c d hd own f g i nm}{n:Nat}{x j}(h:mW l cb m p q r a b c d hd own f g i nm n x)(k:x.grownBy j (some cb))(hc:∃P V:Value,j.heap[cb]?=some (.cells #[a,b,c,d,hd,own,f,g,i,P,V] 240 (0,0))):mW l cb m p q r a b c d hd own f g i nm n j:=by obtain⟨t,u,v,w,y,A⟩:=h.ne;have s:∀z,z≠cb->¬some z=some cb:=λz hz e=>hz (by injection e);exact h.to (ld.grown k (.inl rfl)) hc (h.u.iV (k.B _ h.u.lt (s _ t))) (h.f.iV (k.B _ h.f.lt (s _ u)))
theorem mW.Cz{b}{cb a c d e:Nat}{f g j k hd own l m p nm}{n:Nat}{x}(h:mW b cb a c d e f g j k hd own l m p nm n x)(i:Nat){u}(hu:u.oneCell'=true):mW b cb a c d e f g j k hd own l m p nm n (x.setCell ⟨a,i,none⟩ u):=by obtain⟨P,V,hc⟩:=h.c;obtain⟨q,s,t,v,w,r⟩:=h.ne;exact h.to (ld.set (.inr (.inl rfl))) ⟨P,V,(J0 _ _ _ _ (Lx q)).T hc⟩ (h.u.set i hu) (h.f.iV (J0 _ _ _ _ (Lx r)))
theorem mW.FR{b}{cb c a d e:Nat}{f g j k hd own l m p nm}{n:Nat}{x}(h:mW b cb c a d e f g j k hd own l m p nm n x)(i:Nat){u}(hu:u.oneCell'=true):mW b cb c a d e f g j k hd own l m p nm n (x.setCell ⟨a,i,none⟩ u):=by obtain⟨P,V,hc⟩:=h.c;obtain⟨s,q,t,v,w,r⟩:=h.ne;exact h.to (ld.set (.inr (.inr rfl))) ⟨P,V,(J0 _ _ _ _ (Lx q)).T hc⟩ (h.u.iV (J0 _ _ _ _ r)) (h.f.set i hu)
theorem pD.start{g}{cb i j k l:Nat}{m p q r hd own s t u nm}{n:Nat}{x}(h:mW g cb i j k l m p q r hd own s t u nm n x):∃(c d:Value) (a b:List Unit),a.length<=n/\b.length<=n/\pD g cb i j k l m p q r hd own s t u nm x c d a b n false false x:=by obtain⟨c,d,hx,⟨a,e,v⟩,⟨b,f,w⟩⟩:=h.r;exact⟨c,d,a,b,v,w,h.g,h.c,h.u,h.f,⟨c,d,hx,λ_=>rfl,λ_=>rfl,⟨a,e,LC⟩,⟨b,f,LC⟩⟩,e,f,JS _,h.g.size,e.ge,f.ge,h.l,h.ne⟩
theorem pD.done{c}{cb d e f g:Nat}{i j k l hd own m p q nm wr r s}{t u:List Unit}{n:Nat}{v w x}(h:pD c cb d e f g i j k l hd own m p q nm wr r s t u n v w x):mW c cb d e f g i j k l hd own m p q nm (n+1) x:=by obtain⟨a,b,hx,_,_,y,z⟩:=h.r;exact⟨h.g,h.c,h.u,h.f,⟨a,b,hx,y,z⟩,h.l,h.ne⟩
theorem pD.Iw{j}{cb p q r s:Nat}{t u v w hd own y A B nm wr f C}{g D:List Unit}{n:Nat}{l E x k}(h:pD j cb p q r s t u v w hd own y A B nm wr f C g D n l E x)(I:l=false)(T:g.length<=n)(c:x.grownBy k f.ownBlock)(F:jx (tQ 1) 315 1 (λ_=>False) k j f g):pD j cb p q r s t u v w hd own y A B nm wr f C g D n l E k:=by
 obtain⟨P,V,hc⟩:=h.c;obtain⟨J,K,L,M⟩:=h.l;have i:∀z,z<j.heap.size->¬some z=f.ownBlock:=λz hz e=>LA ((h.vu z e.symm).1)
 have N:=rW h.ou h.Cr ui;obtain⟨a,b,hx,G,O,U,Q,m,R⟩:=h.r;have S:=rW h.ou m ui;have d:∀{z:Nat},z<x->¬some z=f.ownBlock->k.heap[z]?=x.heap[z]?:=λhz hn=>c.B _ hz hn;exact⟨⟨c.os.T h.g.os,c.tape.T h.g.tape,c.output.T h.g.output,J9 h.g.size c.size,λz hz hn=>(d (JI hz h.g.size) (i z hz)).T (h.g.B z hz hn)⟩,⟨P,V,(d (JJ.1 hc).1 (i _ J)).T hc⟩,h.u.iV (d h.u.lt (i _ K)),h.f.iV (d h.f.lt (i _ L)),⟨a,b,(d (JJ.1 hx).1 (i _ M)).T hx,G,O,by rw[G I];exact⟨g,F,LC⟩,⟨Q,m.turn nI (λz hz=>d (m.ge z hz).2 (λe=>S z e.symm hz)) (λ_ h=>h.elim) c.size,R⟩⟩,F,h.Cr.turn nI (λz hz=>d (h.Cr.ge z hz).2 (λe=>N z e.symm hz)) (λ_ h=>h.elim) c.size,J9 h.s c.size,h.ws,h.vu,h.vf,h.l,h.ne⟩
theorem pD.Ix{j}{cb p q r s:Nat}{t u v w hd own y A B nm wr C f}{D g:List Unit}{n:Nat}{E l x k}(h:pD j cb p q r s t u v w hd own y A B nm wr C f D g n E l x)(I:l=false)(T:g.length<=n)(c:x.grownBy k f.ownBlock)(F:jx (tQ 1) 316 1 (λ_=>False) k j f g):pD j cb p q r s t u v w hd own y A B nm wr C f D g n E l k:=by
 obtain⟨P,V,hc⟩:=h.c;obtain⟨J,K,L,M⟩:=h.l;have i:∀z,z<j.heap.size->¬some z=f.ownBlock:=λz hz e=>LA ((h.vf z e.symm).1)
 have N:=rW h.Cr h.ou (Lx ui);obtain⟨a,b,hx,O,G,⟨Q,m,R⟩,U⟩:=h.r;have S:=rW h.Cr m (Lx ui);have d:∀{z:Nat},z<x->¬some z=f.ownBlock->k.heap[z]?=x.heap[z]?:=λhz hn=>c.B _ hz hn;exact⟨⟨c.os.T h.g.os,c.tape.T h.g.tape,c.output.T h.g.output,J9 h.g.size c.size,λz hz hn=>(d (JI hz h.g.size) (i z hz)).T (h.g.B z hz hn)⟩,⟨P,V,(d (JJ.1 hc).1 (i _ J)).T hc⟩,h.u.iV (d h.u.lt (i _ K)),h.f.iV (d h.f.lt (i _ L)),⟨a,b,(d (JJ.1 hx).1 (i _ M)).T hx,O,G,⟨Q,m.turn nI (λz hz=>d (m.ge z hz).2 (λe=>S z e.symm hz)) (λ_ h=>h.elim) c.size,R⟩,by rw[G I];exact⟨g,F,LC⟩⟩,h.ou.turn nI (λz hz=>d (h.ou.ge z hz).2 (λe=>N z e.symm hz)) (λ_ h=>h.elim) c.size,F,J9 h.s c.size,h.ws,h.vu,h.vf,h.l,h.ne⟩
theorem pD.Cz{f}{cb g i d j:Nat}{k l m p hd own q r s nm wr t u}{w y:List Unit}{n:Nat}{B A x}(h:pD f cb g i d j k l m p hd own q r s nm wr t u w y n B A x){v}(C:mh 315 f x v (n+1)):pD f cb g i d j k l m p hd own q r s nm wr t u w y n true A (x.setCell ⟨d,1,none⟩ v):=by
 obtain⟨P,V,hc⟩:=h.c;obtain⟨J,K,L,M⟩:=h.l;obtain⟨N,O,D,E,F,Q⟩:=h.ne;obtain⟨a,b,hx,R,G,S,I⟩:=h.r;have c:∀{z:Nat},z≠d->(x.setCell ⟨d,1,none⟩ v).heap[z]?=x.heap[z]?:=λhz=>J0 _ _ _ _ hz;have hs:x<=(x.setCell ⟨d,1,none⟩ v).heap.size:=by rw[JQ];exact JS _
 have T:=h.ws;exact⟨h.g.T (ld.set (.inr (.inr (.inr rfl)))),⟨P,V,(c (Lx D)).T hc⟩,h.u.iV (c E),h.f.iV (c F),⟨v,b,iW hx,λe=>(by cases e),G,C.turn (λz _ hz _=>c LC) hs,I.turn (λz _ hz _=>c LC) hs⟩,h.ou.turn nI (λz hz=>c (LA ((h.vu z hz).1))) (λ_ h=>h.elim) hs,h.Cr.turn nI (λz hz=>c (LA ((h.vf z hz).1))) (λ_ h=>h.elim) hs,by rw[JQ];exact h.s,h.ws,h.vu,h.vf,h.l,h.ne⟩
theorem pD.FR{f}{cb g i d j:Nat}{k l m p hd own q r s nm wr t u}{w y:List Unit}{n:Nat}{A B x}(h:pD f cb g i d j k l m p hd own q r s nm wr t u w y n A B x){v}(C:mh 316 f x v (n+1)):pD f cb g i d j k l m p hd own q r s nm wr t u w y n A true (x.setCell ⟨d,2,none⟩ v):=by
 obtain⟨P,V,hc⟩:=h.c;obtain⟨J,K,L,M⟩:=h.l;obtain⟨N,O,D,E,F,Q⟩:=h.ne;obtain⟨a,b,hx,G,R,I,S⟩:=h.r;have c:∀{z:Nat},z≠d->(x.setCell ⟨d,2,none⟩ v).heap[z]?=x.heap[z]?:=λhz=>J0 _ _ _ _ hz;have hs:x<=(x.setCell ⟨d,2,none⟩ v).heap.size:=by rw[JQ];exact JS _
 have T:=h.ws;exact⟨h.g.T (ld.set (.inr (.inr (.inr rfl)))),⟨P,V,(c (Lx D)).T hc⟩,h.u.iV (c E),h.f.iV (c F),⟨a,v,iW hx,G,λe=>(by cases e),I.turn (λz _ hz _=>c LC) hs,C.turn (λz _ hz _=>c LC) hs⟩,h.ou.turn nI (λz hz=>c (LA ((h.vu z hz).1))) (λ_ h=>h.elim) hs,h.Cr.turn nI (λz hz=>c (LA ((h.vf z hz).1))) (λ_ h=>h.elim) hs,by rw[JQ];exact h.s,h.ws,h.vu,h.vf,h.l,h.ne⟩
theorem pD.HX{g}{cb i j k l:Nat}{m p q r hd own s t u nm wr c v}{w y:List Unit}{n:Nat}{z A x a}(h:pD g cb i j k l m p q r hd own s t u nm wr c v w y n z A x)(d:x.grownBy a c.ownBlock):x.heap.size<=a/\∀b,Nw wr x b->a.heap[b]?=x.heap[b]?:=
 ⟨d.size,λb f=>d.B b f.2 (λe=>LB ((h.vu b e.symm).2) f.1)⟩
theorem pD.HY{g}{cb i j k l:Nat}{m p q r hd own s t u nm wr v c}{w y:List Unit}{n:Nat}{z A x a}(h:pD g cb i j k l m p q r hd own s t u nm wr v c w y n z A x)(d:x.grownBy a c.ownBlock):x.heap.size<=a/\∀b,Nw wr x b->a.heap[b]?=x.heap[b]?:=
 ⟨d.size,λb f=>d.B b f.2 (λe=>LB ((h.vf b e.symm).2) f.1)⟩
theorem yB{a c b:Value}{x:World}{lo:Nat}(h:qh a b)(hw:c.ownBlock=a.ownBlock\/∃z,c.ownBlock=some z/\x<=z)(d:∀z,b.ownBlock=some z->lo<=z/\z<x):qh c b:=λz hz e=>by
 rcases hw with hw|⟨q,f,hs⟩
 exact h z (hw▸hz) e;rw[f]at hz;injection hz with hz;have:=(d z e).2;omega
theorem yC{a b c:Value}{x:World}{lo:Nat}(h:qh a b)(hw:c.ownBlock=b.ownBlock\/∃z,c.ownBlock=some z/\x<=z)(d:∀z,a.ownBlock=some z->lo<=z/\z<x):qh a c:=λz hz e=>by
 rcases hw with hw|⟨q,f,hs⟩
 exact h z hz (hw▸e);rw[f]at e;injection e with e;have:=(d z hz).2;omega
theorem oB.Iy{c}{cb:Nat}{d e f g hd own P V i j k}{q m n:Nat}{V'}{n':Nat}{l x a}(h:oB c cb d e f g hd own P V i j k q m n x)(r:c.grownBy a (some cb))(hc:a.heap[cb]?=some (.cells #[d,e,f,g,hd,own,V',j,k,P,V] 240 (0,0)))(s:jx jk 9 1 (λ_=>False) a c V' l)(t:l.length<=n')(hw:V'.ownBlock=i.ownBlock\/∃z,V'.ownBlock=some z/\x<=z)(hs:x.heap.size<=a)(p:∀b,b<x.heap.size->b≠cb->some b≠i.ownBlock->a.heap[b]?=x.heap[b]?):oB c cb d e f g hd own P V V' j k n' m n a:=
 ⟨r,hc,⟨l,s,t⟩,h.r7.turn h.lt hs p (vF (h.d.1)),h.r8.turn h.lt hs p (vF (h.d.2.1)),⟨yB h.d.1 hw (h.r7.lt),yB h.d.2.1 hw (h.r8.lt),h.d.2.2⟩,h.lt⟩
theorem oB.Iz{c}{cb:Nat}{d e f g hd own P V i j k}{m q n:Nat}{V'}{n':Nat}{l x a}(h:oB c cb d e f g hd own P V i j k m q n x)(r:c.grownBy a (some cb))(hc:a.heap[cb]?=some (.cells #[d,e,f,g,hd,own,i,V',k,P,V] 240 (0,0)))(s:jx jk 9 1 (λ_=>False) a c V' l)(t:l.length<=n')(hw:V'.ownBlock=j.ownBlock\/∃z,V'.ownBlock=some z/\x<=z)(hs:x.heap.size<=a)(p:∀b,b<x.heap.size->b≠cb->some b≠j.ownBlock->a.heap[b]?=x.heap[b]?):oB c cb d e f g hd own P V i V' k m n' n a:=
 ⟨r,hc,h.r6.turn h.lt hs p (yA (h.d.1)),⟨l,s,t⟩,h.r8.turn h.lt hs p (vF (h.d.2.2)),⟨yC h.d.1 hw (h.r6.lt),h.d.2.1,yB h.d.2.2 hw (h.r8.lt)⟩,h.lt⟩
theorem oB.IA{c}{cb:Nat}{d e f g hd own P V i j k}{m n q:Nat}{V'}{n':Nat}{l x a}(h:oB c cb d e f g hd own P V i j k m n q x)(r:c.grownBy a (some cb))(hc:a.heap[cb]?=some (.cells #[d,e,f,g,hd,own,i,j,V',P,V] 240 (0,0)))(s:jx jk 9 1 (λ_=>False) a c V' l)(t:l.length<=n')(hw:V'.ownBlock=k.ownBlock\/∃z,V'.ownBlock=some z/\x<=z)(hs:x.heap.size<=a)(p:∀b,b<x.heap.size->b≠cb->some b≠k.ownBlock->a.heap[b]?=x.heap[b]?):oB c cb d e f g hd own P V i j V' m n n' a:=
 ⟨r,hc,h.r6.turn h.lt hs p (yA (h.d.2.1)),h.r7.turn h.lt hs p (yA (h.d.2.2)),⟨l,s,t⟩,⟨h.d.1,yC h.d.2.1 hw (h.r6.lt),yC h.d.2.2 hw (h.r7.lt)⟩,h.lt⟩
def Gh(g:Nat->Prop)(w:World)(cb:Nat)(i j k l hd:Value)(m:List (List UInt8))(e:Ending)(w':World):Prop:=
 ∃v1 v2 f:Value,e=.returned (.agg #[v1,v2,f])/\jc jk g w v1 m/\v2.oneCell'=true/\f.oneCell'=true/\w.grownBy w' (some cb)/\∃a b c d P V:Value,w'.heap[cb]?=some (.cells #[i,j,k,l,hd,a,b,c,d,P,V] 240 (0,0))
theorem py.strs{a x V}{n:Nat}(h:py a x V n)(hn:n<=1000):ll (λq=>a<=q/\q<x) x V:=by obtain⟨xs,b,f⟩:=h;obtain⟨e,c,rfl,_⟩:=b.form;exact⟨e,_,c,xs,rfl,(b.sl jk.ok).M jk.ok (λq d=>⟨by rcases d.1 with h|h;exact h.elim;exact h,d.2⟩),LC⟩
theorem mh.app{T b a x c V d}{n:Nat}{i:List Unit}(h:mh T a x V n)(j:jx (tQ 1) b 1 (λ_=>False) x a d i)(k:T≠b)(f:x.grownBy c d.ownBlock):mh T a c V n:=by obtain⟨l,g,m⟩:=h;have p:=rW g j k;exact mh.turn ⟨l,g,m⟩ (λz hz _ q=>f.B z q (λe=>p z hz e.symm)) f.size
theorem tO.app{g wr}{cb pb:Nat}{P k l m n hd V xs x i}(h:tO g wr cb pb P k l m n hd V xs x)(f:x.grownBy i V.ownBlock)(r:jx ym 248 3 P i g V xs):tO g wr cb pb P k l m n hd V xs i:=by
 obtain⟨s,t,u⟩:=h.lt;obtain⟨a,b,c,d,e,p,q,hc⟩:=h.c;have j:∀z,z<g.heap.size->¬some z=V.ownBlock:=λz hz e=>LA ((h.v z e.symm).1)
 exact⟨⟨f.os.T h.g.os,f.tape.T h.g.tape,f.output.T h.g.output,J9 h.g.size f.size,λz hz hn=>(f.B z (JI hz h.g.size) (j z hz)).T (h.g.B z hz hn)⟩,⟨a,b,c,d,e,p,q,(f.B cb (JJ.1 hc).1 (j _ s)).T hc⟩,(f.B pb (JJ.1 h.p).1 (j _ t)).T h.p,r,J9 h.s f.size,h.v,h.ws,h.lt,h.np⟩
theorem xa(q w):Calls prog 70 #[.bool q] w (mN 5 w):=by refine(Tryz.strconv_FormatBool q w).M ?_;rintro e w' ⟨he,rfl⟩;exact⟨_,he,by cases q<;>decide,Below.refl _ _⟩
theorem EN(z:Int)(a:0<=z)(b:z<100)(w):Calls prog 69 #[.int .i64 z,.int .i64 10] w (mN 20 w):=by
 obtain⟨i,rfl⟩:∃i:Nat,z=(i:Int):=⟨z.toNat,LC⟩
 refine(Tryz.strconv_FormatInt_10_small i LC w).M ?_;rintro e w' ⟨he,rfl⟩;exact⟨_,he,vG i LC,Below.refl _ _⟩
theorem EO:(prog.info? 275).map (λi=>(i.zero,i.size,i.bytes))=some (some (.agg #[.int .u8 0,Em,.int .i64 0,Nl]),4,56):=LF
theorem Dl(n:Nat)(hn:n<=1000)(w):(Instr.makeSlice 121 (.int .i64 (n:Int)) (.int .i64 (n:Int))).run prog w=.ok (.slice (some ⟨w,0,none⟩) n n) (w.alloc (.cells (madeCells #[.int .u8 0,Em,.int .i64 0,Nl] (n*4)) 275)):=by obtain⟨b,c,d,a,e⟩:=Kl EO;have:=KZ (P:=prog) w 121 275 b _ underlying121 c d .i64 .i64 (n:Int) (n:Int) LC (K9 _) (by rw[a];simp;omega) (by rw[e];omega) LC;rw[a,Kw]at this;exact this
theorem EU:(prog.info? 171).map (λi=>(i.zero,i.size,i.bytes))=some (some (.agg #[Em,.bool false]),2,24):=LF
theorem Dv(x k:Int)(a:Nat)(c:a<=31)(d:bits BinOp.and IntKind.u64 (IntKind.u64.wrap k) 31=(a:Int))(w):Calls prog 287 #[.int .u32 x,k] w λe w'=>∃b:Int,e=.returned (.int .u32 b)/\w'=w:=by
 have f:IntKind.u64.wrap (32-(a:Int))=32-(a:Int):=LH
 go_enter func287,ntmps287
 go_wp2;go_ret;exact⟨_,rfl,rfl⟩
theorem lu(x k:Int)(a:k∈[7,18,17,19,6,11,25,2,13,22])(w):Calls prog 243 #[.int .u32 x,k] w λe w'=>∃b:Int,e=.returned (.int .u32 b)/\w'=w:=by
 have h:FW k<=31/\bits BinOp.and IntKind.u64 (IntKind.u64.wrap (-k)) 31=(FW k:Int):=by simp only[Kf,J7,Kq]at a;rcases a with rfl|rfl|rfl|rfl|rfl|rfl|rfl|rfl|rfl|rfl<;>decide+kernel
 have d: -100<=k/\k<=100:=by simp only[Kf,J7,Kq]at a;omega
 have hw:IntKind.i64.wrap (-k)= -k:=LH
 have c:=(λw=>Dv x (-k) (FW k) h.1 h.2 w)
 go_enter func243,ntmps243
 go_wp2_with fail;refine(c _).M ?_;rintro e w' ⟨b,rfl,rfl⟩;go_wp2_with fail;go_ret;exact⟨_,rfl,rfl⟩
theorem uG(n:Nat):(madeCells #[.int .u8 0] n).size=n:=by simp[madeCells]
def lZ(w:World)(b n:Nat):Prop:=∃a:Array Value,w.heap[b]?=some (.cells a 5 (0,0))/\a.size=n/\lT .u8 a 0 n
def BN(w:World)(e:Ending)(w':World):Prop:=e=.returned (.slice (some ⟨w,0,none⟩) 8 8)/\lZ w' w 8/\Below w w w'
theorem kI.of{w}{b:Nat}{a c d f g j k l:Int}(h:w.heap[b]?=some (.cells #[.int .u32 a,.int .u32 c,.int .u32 d,.int .u32 f,.int .u32 g,.int .u32 j,.int .u32 k,.int .u32 l,.int .u8 0,.int .u8 0,.int .u8 0,.int .u8 0,.int .u8 0,.int .u8 0,.int .u8 0,.int .u8 0,.int .u8 0,.int .u8 0,.int .u8 0,.int .u8 0,.int .u8 0,.int .u8 0,.int .u8 0,.int .u8 0,.int .u8 0,.int .u8 0,.int .u8 0,.int .u8 0,.int .u8 0,.int .u8 0,.int .u8 0,.int .u8 0,.int .u8 0,.int .u8 0,.int .u8 0,.int .u8 0,.int .u8 0,.int .u8 0,.int .u8 0,.int .u8 0,.int .u8 0,.int .u8 0,.int .u8 0,.int .u8 0,.int .u8 0,.int .u8 0,.int .u8 0,.int .u8 0,.int .u8 0,.int .u8 0,.int .u8 0,.int .u8 0,.int .u8 0,.int .u8 0,.int .u8 0,.int .u8 0,.int .u8 0,.int .u8 0,.int .u8 0,.int .u8 0,.int .u8 0,.int .u8 0,.int .u8 0,.int .u8 0,.int .u8 0,.int .u8 0,.int .u8 0,.int .u8 0,.int .u8 0,.int .u8 0,.int .u8 0,.int .u8 0,.int .u64 0] 330 (0,0))):kI w b:=by
 have e:(#[.int .u32 a,.int .u32 c,.int .u32 d,.int .u32 f,.int .u32 g,.int .u32 j,.int .u32 k,.int .u32 l,.int .u8 0,.int .u8 0,.int .u8 0,.int .u8 0,.int .u8 0,.int .u8 0,.int .u8 0,.int .u8 0,.int .u8 0,.int .u8 0,.int .u8 0,.int .u8 0,.int .u8 0,.int .u8 0,.int .u8 0,.int .u8 0,.int .u8 0,.int .u8 0,.int .u8 0,.int .u8 0,.int .u8 0,.int .u8 0,.int .u8 0,.int .u8 0,.int .u8 0,.int .u8 0,.int .u8 0,.int .u8 0,.int .u8 0,.int .u8 0,.int .u8 0,.int .u8 0,.int .u8 0,.int .u8 0,.int .u8 0,.int .u8 0,.int .u8 0,.int .u8 0,.int .u8 0,.int .u8 0,.int .u8 0,.int .u8 0,.int .u8 0,.int .u8 0,.int .u8 0,.int .u8 0,.int .u8 0,.int .u8 0,.int .u8 0,.int .u8 0,.int .u8 0,.int .u8 0,.int .u8 0,.int .u8 0,.int .u8 0,.int .u8 0,.int .u8 0,.int .u8 0,.int .u8 0,.int .u8 0,.int .u8 0,.int .u8 0,.int .u8 0,.int .u8 0,.int .u64 0]:Array Value)=([Value.int .u32 a,Value.int .u32 c,Value.int .u32 d,Value.int .u32 f,Value.int .u32 g,Value.int .u32 j,Value.int .u32 k,Value.int .u32 l]++(List.replicate 64 (Value.int .u8 0)++[Value.int .u64 0])).toArray:=LF
 rw[e]at h;refine⟨_,h,LG,λi hi=>?_,λi hi=>?_,0,LG,LC⟩;rw[J4,KR,Ku (by simpa using hi)]
 match i,hi with
 |0,_=>exact⟨_,rfl⟩
 |1,_=>exact⟨_,rfl⟩
 |2,_=>exact⟨_,rfl⟩
 |3,_=>exact⟨_,rfl⟩
 |4,_=>exact⟨_,rfl⟩
 |5,_=>exact⟨_,rfl⟩
 |6,_=>exact⟨_,rfl⟩
 |7,_=>exact⟨_,rfl⟩
 refine⟨0,?_⟩;rw[KR,KF LG];simp only[Kb,Kc];rw[show 8+i-(0+1+1+1+1+1+1+1+1)=i from LC,Ku (by rw[List.length_replicate];exact hi),List.getElem?_replicate,Kn hi]
def Ct(b:Nat)(w:World)(c:Option Addr)(n:Nat):Prop:=0<n->∃p o,c=some ⟨p,o,none⟩/\p≠b/\p<w/\∀a,a<n->∃x:Int,w.cell? ⟨p,o+a,none⟩=some (.int .u8 x)
theorem Ct.grown{b:Nat}{w w' a}{n:Nat}(h:Ct b w a n)(c:w.grownBy w' (some b)):Ct b w' a n:=λhn=>by obtain⟨p,o,e,hp,d,hc⟩:=h hn;refine⟨p,o,e,hp,JI d c.size,λf g=>?_⟩;obtain⟨x,hx⟩:=hc f g;exact⟨x,(Cb p (o+f) (c.B p d (λe=>hp (by injection e)))).T hx⟩
theorem Ct.low{b:Nat}{w a c}{n m:Nat}(h:Ct b w a n)(d:m<n->c=a.map (·.add m)):Ct b w c (n-m):=λhn=>by obtain⟨p,o,rfl,hp,e,hc⟩:=h LC;refine⟨p,o+m,by rw[d LC];simp[kh],hp,e,λf g=>?_⟩;rw[Nat.add_assoc];exact hc (m+f) LC
theorem mU{a w w':World}{row:Option Nat}(h:a.grownBy w row)(k:w.grownBy w' row):a.grownBy w' row:=
 ⟨k.os.T h.os,k.tape.T h.tape,k.output.T h.output,J9 h.size k.size,λi hi hr=>(k.B i (JI hi h.size) hr).T (h.B i hi hr)⟩
theorem mC.jr{T w}{b n:Nat}(h:mC T w b n){i:Nat}(hi:i<n):∃x:Int,w.cell? ⟨b,i,none⟩=some (.int .u8 x)/\w.frozen? ⟨b,i,none⟩=false:=by obtain⟨d,a,e,c⟩:=h;obtain⟨x,hx⟩:=c i hi;rw[J4]at hx;exact⟨x,iT a i _ hx,iY a i⟩
theorem sw{w:World}{b:Nat}{a:Array Value}{T:TypeId}{c:Nat×Nat}(h:w.heap[b]?=some (.cells a T c)):w.rangeAt b 0 a.toList:=λd v e=>by rw[J4];exact iT h d v (by simpa using e)
theorem EZ{w}{lo n b:Nat}{v xs}(h:w.ownsRow lo 5 1 v n xs)(hu:∀u∈xs,∃x:Int,u=.int .u8 x)(q:b<lo)(hn:0<n):∃d c,v=.slice d n c/\n<=c/\Ct b w d n:=by
 obtain⟨k,h|⟨g,l,r,rfl,s,e,m,t,y,f⟩⟩:=h;omega;refine⟨_,l,rfl,m,λ_=>⟨g,0,rfl,LC,(JJ.1 e).1,λa p=>?_⟩⟩;rw[Kk]at k f;have i:a<xs.length:=LC
 obtain⟨x,hx⟩:=hu _ (List.getElem_mem i);refine⟨x,?_⟩;rw[J4];refine iT e a _ ?_;have j:xs[a]?=some (.int .u8 x):=by rw[JW i,hx]
 rw[<-f,K5,Kn p]at j;simpa using j
theorem lZ.ints{a}{n:Nat}(h:lT .u8 a 0 n)(hs:a.size=n):∀u∈a.toList,∃x:Int,u=.int .u8 x:=by
 intro u hu;obtain⟨i,hi,rfl⟩:=List.getElem_of_mem hu;have b:i<n:=by simpa[hs]using hi
 obtain⟨x,hx⟩:=h i b;rw[J4]at hx;exact⟨x,by simpa using(JJ.1 hx).2⟩
end Go.Proofs.YtidmdcckbdmblaaGreatDoor
namespace Go.Proofs.YtidmdcckbdmblaaGreatDoor
open Go.RowKit Go.Proofs.Tryz
theorem kz.start{c:Type}(R:Rel c){T k B:Nat}{w}{b n:Nat}{a}(h:w.heap[b]?=some (.cells a T (0,0)))(hs:a.size=n*k):kz R T k B w b n []:=⟨[],a.toList,by simpa using h,by simpa using hs,trivial⟩
theorem kz.done{a:Type}{R:Rel a}{T k B:Nat}(ok:jI R k){w}{b n:Nat}{xs:List a}(h:kz R T k B w b n xs)(hn:xs.length=n)(d:B<=b)(e:n<=9223372036854775807):jc R (λq=>B<=q/\q<w) w (.slice (some ⟨b,0,none⟩) n n) xs:=by have f:=h.lt;obtain⟨g,m,i,p,j⟩:=h.ex;refine⟨_,n,g,by rw[hn],LC,e,λ_=>⟨b,0,rfl,⟨d,f⟩,λl u hu=>?_⟩,j.imp λr x hx=>ok.M hx λq c=>⟨c.1,c.2.1⟩⟩;rw[J4];refine iT i l u ?_;rw[KR,Ku (J6.1 hu).1];exact hu
theorem lA{c:Type}{P}{w:World}(t)(m:TypeId)(e i z)(size d:Nat)(p:P.underlying t=some (.slice e))(hi:P.info? e=some i)(hz:i.zero=some z)
  (F:i.size=size) (G:i.bytes=d) (I:z.cells.size=size) {R:Rel c} (ok:jI R size) (J:∀{f K:Nat->Prop} {w w':World} {r:List Value} {x:c},R f w r x->R K w' r x) {f:Nat->Prop} {b0:Nat} {ys:List c} {v2:Value}
  {n:Nat} (hn:ys.length=n) (j:jc R f w v2 ys) (ad:n<=maxLen) (L:n*d<=140737488355328):
  ∃q s w',(Builtin.append_ #[t,t] m #[.slice (some ⟨b0,0,none⟩) 0 0,v2]).run P w=.ok (.slice q n s) w'/\jc R (λb=>w<=b/\b<w') w' (.slice q n s) ys/\Below w w w':=by
 subst hn;by_cases hy:ys=[]
 .subst hy;obtain⟨v,c2,l,rfl,_⟩:=j;refine⟨some ⟨b0,0,none⟩,0,w,?_,⟨_,0,[],rfl,JS _,LC,qA.nil _ _ _,trivial⟩,Below.refl _ _⟩;cases v<;>simp[Builtin.append_,run_underlying p,sizeOf,typeInfo,hi,Builtin.lenOf,Builtin.firstCells,storeCells,loadCells,loadCellsFrom]
 .obtain⟨v,c2,M,N,ae,af,O,Q⟩:=id j;subst N;have S:M.flatten≠[]:=by
   intro e;have:=jD.flat (k:=size) (λr x h=>ok.len h) Q;rw[e]at this;have hp:=ok.pos;have:ys.length=0:=by have y:ys.length*size=0:=(by simpa using this.symm);rcases Nat.mul_eq_zero.1 y with h|h;exact h;omega
   exact hy (KA this)
  obtain⟨T,U,rfl,_,_⟩:=O S;obtain⟨l,ag,_,V,W,X,_⟩:=j.cells ok;have ah:0<ys.length:=List.length_pos_iff.2 hy;obtain⟨ai,w',A,Y,Z⟩:=run_append_arg_grows (P:=P) (w:=w) t m e i z size d p hi hz F G I ok.pos ⟨b0,0,none⟩ 0 0 [] LG LG ⟨T,U,none⟩ ys.length c2 l.flatten V X LC LC (by rw[J4];exact L);rcases Y.2 with⟨rfl,y⟩|⟨g,B,aj,rfl,aa,C,D,ab,ak,E⟩
  omega;rw[J4]at A D;refine⟨_,B,w',A,⟨_,B,l,rfl,D,by unfold maxLen at ab;omega,λ_=>⟨g,0,rfl,⟨aa,(JJ.1 C).1⟩,λal u a=>?_⟩,W.imp λr x hx=>J hx⟩,(Below.refl _ w).grown Z (JS _) (λk ac=>by cases ac)⟩;rw[KS]at E;rw[<-E,K5]at a;split at a;rw[J4];simp only[World.cell?,C];simpa using a;cases a
end Go.Proofs.YtidmdcckbdmblaaGreatDoor
namespace mX
open Go
def kX(a b:Ev):Bool:=a.tick==b.tick&&a.comp==b.comp&&a.kind==b.kind&&a.peer==b.peer&&a.n==b.n&&a.copy==b.copy&&a.hd==b.hd&&a.d==b.d&&a.args==b.args
theorem uJ(a b:Ev):kX a b=true↔a=b:=by obtain⟨c,d,e,f,g,i,j,k,l⟩:=a;obtain⟨m,n,p,q,r,s,t,u,v⟩:=b;simp[kX,and_assoc]
def lO(name:List UInt8)(args:List Int):List UInt8:=name++([40]++(Lib.join (args.map Lib.itoa) [44,32]++[41]))
def mL(e:Ev):List UInt8:=
 (if e.peer=1 then [102,101,116,99,104,32]else [115,116,111,114,101,32])++(Lib.itoa e.n++([58,32]++(Lib.itoa (e.args[0]?.getD 0)++((if e.args.length=2 then [32,61,32]++Lib.itoa (e.args[1]?.getD 0)else [])++(if e.copy=1 then [32,102,97,105,108,115]else [])))))
end mX
namespace Go.Proofs.YtidmdcckbdmblaaGreatDoor
open Go.RowKit jJ mX Go.Proofs.Tryz
def E1(nm:List UInt8)(w:World)(e:Ending)(w':World):Prop:=(∃(a:Option Addr) (b c:Nat) (d:Option Addr) (f g:Nat),e=.returned (.agg #[tx nm,.slice a b c,.slice d f g]))/\Below w w w'
def E2(nm:List UInt8)(w:World)(e:Ending)(w':World):Prop:=(∃(b:Bool),e=.returned (.agg #[tx nm,.bool b]))/\Below w w w'
theorem xc{a:Nat->Prop}{w:World}:∀(l:List (List UInt8)),jD (jk a w) (l.map λx=>[tx x]) l
 |[]=>trivial
 |_::l=>⟨rfl,xc l⟩
theorem Dy(l:List (List UInt8)):(l.map λx=>[tx x]).flatten=l.map tx:=by
 induction l with
 |nil=>rfl
 |cons x l a=>simp[a]
theorem xd{w:World}{lo:Nat}{v:Value}{l:List (List UInt8)}(h:w.ownsRow lo 9 1 v l.length (l.map tx)):jx jk 9 1 (λ_=>False) w lo v l:=⟨l.map λx=>[tx x],by rw[Dy];exact h,xc l⟩
theorem mH(x:Int)(w:World):Calls prog 246 #[.int .i64 x] w λe w'=>e=.returned (.bool false)/\w'=w:=by
 go_enter func246,ntmps246
 go_wp2_with fail;go_ret;exact⟨LG,rfl⟩
theorem qO(x a:Int)(w:World):Calls prog 183 #[.int .i64 x,a] w λe w'=>e=.returned (.int .i64 (Lib.compareInt x a))/\w'=w:=by
 unfold Lib.compareInt;by_cases c:x<a
 .rw[Kn c]
  go_enter func183,ntmps183
  go_wp2_with fail;refine(mH x w).M ?_;rintro e b ⟨rfl,rfl⟩;go_wp2_with fail;refine(mH a b).M ?_;rintro e d ⟨rfl,rfl⟩;go_wp2_with fail;go_ret;exact⟨rfl,rfl⟩
 by_cases f:a<x
 .rw[Ka c,Kn f]
  go_enter func183,ntmps183
  go_wp2_with fail;refine(mH x w).M ?_;rintro e b ⟨rfl,rfl⟩;go_wp2_with fail;refine(mH a b).M ?_;rintro e d ⟨rfl,rfl⟩;go_wp2_with fail;go_ret;exact⟨rfl,rfl⟩
 rw[Ka c,Ka f]
 go_enter func183,ntmps183
 go_wp2_with fail;refine(mH x w).M ?_;rintro e b ⟨rfl,rfl⟩;go_wp2_with fail;refine(mH a b).M ?_;rintro e d ⟨rfl,rfl⟩;go_wp2_with fail;go_ret;exact⟨rfl,rfl⟩
theorem DA(A B:Nat->Prop)(w:World)(C:Option Addr)(n c:Nat)(D:Option Addr)(n' t:Nat)(xs ys:List Int)(h:jc jO A w (.slice C n c) xs)(u:jc jO B w (.slice D n' t) ys)(N:∀q,A q->q<w)(O:∀q,B q->q<w)(hn:n<=9223372036854775807)(Z:n'<=9223372036854775807):
  Calls prog 184 #[.slice C n c,.slice D n' t] w λe w'=>e=.returned (.int .i64 (cmpL xs ys))/\w'=w:=by
 have P:=JH h;have Q:=JH u;have f:=JH h.len;have j:=JH u.len;clear h u
 go_enter func184,ntmps184
 go_wp2_with fail;go_loopw [11] (λi wr=>∃k:Nat,k<=n/\i=k/\k<=n'/\xs.take k=ys.take k/\w=wr) (λi _=>n-(intOf i).toNat);case atStart=>exact⟨0,JV _,rfl,JV _,rfl,rfl⟩
 case round=>
  obtain⟨k,aa,rfl,ab,E,rfl⟩:=hrel;have F:=JH E;clear E;have b:=uM (xs:=xs) (ys:=ys) (k:=k) (LA f.o.1) F.o;by_cases ac:k<n
  .obtain⟨x,hx⟩:∃x,xs[k]?=some x:=Gx (LA f.o.1);obtain⟨R,ad,r,rfl,G,hr,m⟩:=P.o.jr jO.ok k x hx;have v:r=[.int .i64 x]:=hr;subst v;have S:=m 0 _ rfl;rw[JT,Kk]at S;have ae:=N R G;have af:(0:Int)<=(k:Int):=LC;have ag:(k:Int)<(n:Int):=LC;have ah:(k:Int)<=(c:Int):=LA f.o.2;have I:=JH hx;clear hr m G hx;by_cases T:k<n'
   .obtain⟨a,hy⟩:∃a,ys[k]?=some a:=Gx (LA j.o.1);obtain⟨U,ai,r,rfl,J,hr,m⟩:=Q.o.jr jO.ok k a hy;have v:r=[.int .i64 a]:=hr;subst v;have V:=m 0 _ rfl;rw[JT,Kk]at V;have aj:=O U J;have ak:(k:Int)<(n':Int):=LC;have al:¬(n':Int)<=(k:Int):=LC;have am:(k:Int)<=(t:Int):=LA j.o.2;have K:=JH hy;clear hr m J hy;have g:=JH (show cmpL xs ys=if Lib.compareInt x a=0 then cmpL (xs.drop (k+1)) (ys.drop (k+1))else Lib.compareInt x a by rw[b];have p:=I.o;have s:=K.o;rw[K8 (LA f.o.1),K8 (l:=ys) (LA j.o.1)];rw[JW (LA f.o.1)]at p;rw[JW (LA j.o.1)]at s;injection p with p;injection s with s;rw[p,s,cmpL])
    clear b;by_cases d:Lib.compareInt x a=0
    .have W:=nR.1 d;subst W;go_wp2_with fail;refine(qO x x w).M ?_;rintro e X ⟨rfl,rfl⟩;rw[d];go_wp2_with fail;go_roundw;case rel=>exact⟨k+1,LC,LI,LC,vT F.o I.o K.o,trivial⟩
     case measure=>simp[intOf];omega
    have y:=g.o;rw[Ka d]at y;have Y:=JH y;clear y;have an:(Lib.compareInt x a !=0)=true:=(by simp[d]);go_wp2_with fail;refine(qO x a w).M ?_;rintro e X ⟨rfl,rfl⟩;generalize Lib.compareInt x a=z at*;go_wp2_with fail;go_ret;exact⟨by rw[Y.o];rfl,rfl⟩
   obtain rfl:n'=k:=LC;have g:=JH (show cmpL xs ys=1 by rw[b,List.drop_of_length_le (l:=ys) (LA j.o.1),K8 (LA f.o.1)];rfl)
   clear b;go_wp2_with fail;go_ret;exact⟨by rw[g.o];rfl,rfl⟩
  obtain rfl:n=k:=LC;have L:=f.o.1;have M:=j.o.1;have d:xs.drop n=[]:=List.drop_of_length_le LC;rw[d]at b;by_cases T:n<n'
  .have g:=JH (show cmpL xs ys= -1 by rw[b,K8 LC];rfl)
   clear b d L M;go_wp2_with fail;go_ret;exact⟨by rw[g.o];rfl,rfl⟩
  have g:=JH (show cmpL xs ys=0 by rw[b,List.drop_of_length_le LC];rfl)
  clear b d L M;have ao:¬(n:Int)<(n':Int):=LC;go_wp2_with fail;go_ret;exact⟨by rw[g.o];rfl,rfl⟩
def nt(w:World)(a b:Nat)(c d:Array Value)(x:World):Prop:=Below w w x/\x.heap[a]?=some (.cells c 29 (0,0))/\x.heap[b]?=some (.cells d 29 (0,0))
theorem nt.lt{w:World}{a b:Nat}{c d:Array Value}{x:World}(h:nt w a b c d x):a<x/\b<x:=⟨(JJ.1 h.2.1).1,(JJ.1 h.2.2).1⟩
theorem nt.iU{w:World}{a b:Nat}{d e:Array Value}{x f:World}(h:nt w a b d e x)(c:Below x x f):nt w a b d e f:=⟨h.1.T (c.M h.1.size),(c.B a h.lt.1).T h.2.1,(c.B b h.lt.2).T h.2.2⟩
theorem nt.drew{w:World}{a b:Nat}{c d:Array Value}{x:World}(h:nt w a b c d x):nt w a b c d {x with drawn:=x.drawn+1}:=h.iU (Below.refl _ _).drew
end Go.Proofs.YtidmdcckbdmblaaGreatDoor
namespace jg
def lL(s:ByteArray)(a:Nat):List Tok:=rz s (s.size+1-a) a
def lexB(s:ByteArray):List Tok:=lL s (ny s 0)
theorem oo(s:ByteArray)(a:Nat)(h:¬a<s.size):lL s a=[]:=by
 unfold lL;cases hf:s.size+1-a with
 |zero=>rfl
 |succ f=>rw[rz,if_neg h]
theorem pL(s:ByteArray)(a:Nat)(h:a<s.size):lL s a=wJ s a::lL s (nW s a):=by have b:=nC s a h;unfold lL;rw[show s.size+1-a=(s.size-a)+1 from LC,rz,if_pos h,uO s (s.size-a) (s.size+1-nW s a) _ LC LC]
theorem oz(s:ByteArray):∀(n a:Nat),s.size-a<=n->(lL s a).length<=n
 |0,a,h=>by rw[oo s a (by omega)];simp
 |n+1,a,h=>by by_cases b:a<s.size;have c:=nC s a b;rw[pL s a b];have:=oz s n (nW s a) LC;simp;omega;rw[oo s a b];simp
theorem rp(s:ByteArray):(lexB s).length<=s.size:=oz s _ _ LC
end jg
namespace Go.Proofs.YtidmdcckbdmblaaGreatDoor.L
open Go.RowKit Go.Proofs.Tryz
theorem DI(s:ByteArray)(w:World)(hL:Laid w)(hs:s.size<=maxLen)(a:0<s.size):
  Calls prog 210 #[.string s] w λe w'=>e=.returned (ox s.data.toList)/\w=w':=by
 cases hl:jg.jS (s[0]).toNat
 .cases hd:jg.kt (s[0]).toNat;exact zJ s w hL a hl hd;exact zI s w hs a hl hd
 .exact xZ s w hL hs a hl
end Go.Proofs.YtidmdcckbdmblaaGreatDoor.L
namespace Go.Proofs.YtidmdcckbdmblaaGreatDoor.L
open Go.RowKit Go.Shelf Go.Proofs.Tryz
attribute [local go_sem] Oper.semAt_some
def FY(x:jg.Tok):Value:=.agg #[.int .u8 (x.kind:Nat),.string x.text,.int .i64 (x.off:Nat)]
def Kp(n₀ a:Nat)(W b:World):Prop:=Below n₀ W b/\b.heap[a]?=W.heap[a]?
theorem Laid.iU{n:Nat}{a B:World}(h:Below n a B)(hn:9+1<=n)(b:Laid a):Laid B:=by obtain⟨⟨c,d,e⟩,⟨f,g,i⟩⟩:=b;exact⟨⟨c,d,(h.B _ LC).T e⟩,⟨f,g,(h.B _ LC).T i⟩⟩
theorem E5(s:ByteArray)(w:World):
  Calls prog 152 #[.string s] w λe w'=>e=.returned (.func (.func 208) #[] #[.pointer (some ⟨w,0,none⟩)])/\w.alloc (.cells #[.string s] 9)=w':=by
 go_enter func152,ntmps152
 go_wp2;go_ret;exact⟨rfl,rfl⟩
theorem E6(n:Nat)(hn:1<=n)(l f n₀:Nat)(s:ByteArray)(hs:s.size<=maxLen)(I:9+1<=n₀)(c r:List jg.Tok->World->Prop)
  (t:∀pre x W,c pre W->pre.length<(jg.lexB s).length->YieldAt Fence.wide (n-1) prog l #[FY x] W λe b=>
   (e=.returned (.bool true)/\c (pre++[x]) b/\Kp n₀ f W b)\/(e=.returned (.bool false)/\r (pre++[x]) b))
  (W:World) (i:W.heap[f]?=some (.cells #[.string s] 9)) (hL:Laid W) (u:c [] W):
  CallsIn Fence.wide n prog 208 #[.func (.yield l) #[] #[],.pointer (some ⟨f,0,none⟩)] W λe b=>(∃v,e=.returned v)/\
   ((∃ys,ys=jg.lexB s/\c ys b)\/(∃pre,pre<+:jg.lexB s/\r pre b)):=by
 have hc:=cell_of_one i;have J:=JH t;clear t;have K:=hs;unfold maxLen at K;refine callsIn_of_wp func208 rfl trivial ?_ rfl;simp only[ntmps208,KQ,Kb,Kc,Nat.reduceAdd,Nat.reduceSub,Array.replicate_succ,Array.replicate_zero,List.push_toArray,List.append_toArray,KS,List.cons_append]
 gi_wp2_with (refine⟨trivial,?_⟩;gi_at_call 209;refine(callsIn_wide.2 (xh _ _ (by assumption))).mono ?_;rintro e w' ⟨rfl,rfl⟩)
 have L:jg.ny s 0<=s.size:=LA (jg.qQ s 0 (JV _))
 have w:jg.km false s.data.toList=jg.ny s 0:=by unfold jg.ny;simp
 rw[w];clear w
 gi_loopw [3,4,5] (λo _ _ wr=>∃(pre:List jg.Tok) (a:Nat),o=a/\a<=s.size/\pre++jg.lL s a=jg.lexB s/\wr.heap[f]?=some (.cells #[.string s] 9)/\Laid wr/\c pre wr)
  (λo _ _ _=>s.size-(intOf o).toNat)
 case atStart=>exact⟨[],_,rfl,L,rfl,i,hL,u⟩
 case round=>
  obtain⟨pre,a,rfl,X,hx,j,y,k⟩:=hrel;clear hc hL i u;have g:=JH hx;have z:=JH y;have M:=JH j;have hc:=cell_of_one j;clear hx y j;by_cases m:a<s.size
  .have N:=jg.pK s a m;have p:=jg.pL s a m;obtain⟨fn,tmps,assign,body,hy,hR⟩:=J.o pre (jg.wJ s a) wr k (by rw[<-g.o,p];simp);have A:=JH p;clear p
   gi_wp2_with fail
   refine⟨trivial,?_⟩;refine(callsIn_wide.2 (DI _ _ z.o LQ LJ)).mono ?_;rintro e w' ⟨rfl,rfl⟩;rw[jg.nP];have B:ox (s.data.toList.drop a)=.tuple #[.int .u8 ((jg.lC s a).1:Nat),.int .i64 ((jg.lC s a).2:Nat)]:=rfl;rw[B];clear B;have Y:Sem.run prog (Instr.yield l #[.agg #[.int .u8 ((jg.lC s a).1:Nat),.string (s.extract a (a+(jg.lC s a).2)),a]]) wr=Result.ok (Next.round l fn tmps assign body) wr:=hy;clear hy;have C:jg.nW s a=a+(jg.lC s a).2+jg.ny s (a+(jg.lC s a).2):=rfl;have O:=JH C;clear C;generalize(jg.lC s a).1=Z at*;generalize(jg.lC s a).2=d at*;obtain⟨aa,P⟩:=N
   gi_wp2_with fail
   refine hR.mono ?_;rintro e ab (⟨rfl,D,E,F⟩|⟨rfl,Q⟩)
   .have q:=F.trans M.o;have ac:=cell_of_one q;have R:=JH (z.o.iU E I);have S:=jg.qQ s (a+d) P;have T:=JH q;have U:=JH D;clear q E F k hc D
    gi_wp2_with fail
    refine⟨trivial,?_⟩;refine(callsIn_wide.2 (xh _ _ LQ)).mono ?_;rintro e w' ⟨rfl,rfl⟩;rw[jg.nP];have G:jg.km false (s.data.toList.drop (a+d))=jg.ny s (a+d):=rfl;rw[G];clear G;generalize jg.ny s (a+d)=V at*
    gi_wp2_with fail
    go_roundw;case rel=>exact⟨pre++[jg.wJ s a],a+d+V,LI,S,by rw[<-O.o,Kh,List.singleton_append,<-A.o,g.o],T.o,R.o,U.o⟩
    case measure=>simp[intOf];omega
   gi_wp2_with fail
   refine JZ (results_none rfl _ _ _) rfl ?_;exact⟨⟨_,rfl⟩,.inr ⟨pre++[jg.wJ s a],⟨jg.lL s (jg.nW s a),by rw[Kh,List.singleton_append,<-A.o,g.o]⟩,Q⟩⟩
  gi_wp2_with fail
  go_end0
  exact⟨⟨_,rfl⟩,.inl ⟨pre,by have:=g.o;rw[jg.oo s a m]at this;simpa using this,k⟩⟩
theorem IH(n₀ a:Nat){b B C:World}(c:Kp n₀ a b B)(d:Kp n₀ a B C):Kp n₀ a b C:=⟨c.1.T d.1,d.2.T c.2⟩
theorem II{n₀ a:Nat}{w:World}(hn:n₀<=w)(f:a<w)(W:World)(l:Nat)(o b:Obj)(h:w<=l)(c:W.heap[l]?=some o)(d:o.isCells=false)(e:o.isWalk=false):Kp n₀ a W (W.putObj l b):=
 ⟨belowK_b hn W l o b h c d e,(belowK_b (n₀:=a+1) (w:=w) LC W l o b h c d e).B a LC⟩
theorem zK(n:Nat)(hn:1<=n)(a n₀:Nat)(s:ByteArray)(hs:s.size<=maxLen)(b:9+1<=n₀)(w:World)(d:n₀<=w)(e:a<w)
  (f:w.heap[a]?=some (.cells #[.string s] 9)) (hL:Laid w):
  SeqStopsK Fence.wide n prog 208 #[.pointer (some ⟨a,0,none⟩)] (λx=> #[FY x]) (Kp n₀ a) (λys=>ys=jg.lexB s) (λpre=>pre<+:jg.lexB s) (jg.lexB s).length w:=λl g i W c _ _ j k=>
 E6 n hn l a n₀ s hs b g i j W ((c.B a e).T f) (hL.iU (c.M d) b) k
end Go.Proofs.YtidmdcckbdmblaaGreatDoor.L
namespace nw
open jJ
abbrev js:=List jg.Tok
def wj(T:js)(p:Nat):Nat:=match T[p]? with|some t=>t.kind|none=>0
def ln(T:js)(p:Nat):List UInt8:=match T[p]? with|some t=>t.text.data.toList|none=>[]
def pq(T:js)(x:List UInt8)(p:Nat):Option Nat:=if ln T p=x then some (p+1)else none
def ru(T:js)(p:Nat):Option (List UInt8×Nat):=if wj T p=1 then some (ln T p,p+1)else none
def mr{a:Type}(T:js)(b:Nat->Option (a×Nat)):Nat->Nat->Option (List a×Nat)
 |0,_=>none
 |k+1,p=>match b p with
  |none=>none
  |some (x,q)=>if ln T q=[44]then
    match mr T b k (q+1)with
    |some (xs,r)=>some (x::xs,r)
    |none=>none
   else if ln T q=[41]then some ([x],q+1)else none
def pF{a:Type}(T:js)(b:Nat->Option (a×Nat))(p:Nat):Option (List a×Nat):=
 if ln T p=[40]then(if ln T (p+1)=[41]then some ([],p+2)else mr T b T.length (p+1))else none
def mi{a:Type}(T:js)(w:List UInt8)(b:Nat->Option (a×Nat)):Nat->Nat->Option (List a×Nat)
 |0,_=>none
 |k+1,p=>if ln T p=w then
   match b (p+1)with
   |none=>none
   |some (x,q)=>match mi T w b k q with
    |some (l,r)=>some (x::l,r)
    |none=>none
  else some ([],p)
def rX(T:js)(p:Nat):Option (Bool×Nat):=if ln T p=[116,114,117,101]then some (true,p+1)else if ln T p=[102,97,108,115,101]then some (false,p+1)else none
def rT(T:js)(p:Nat):Option (Fg×Nat):=do
 let (a,p)<-ru T p
 let p<-pq T [61] p
 let (b,p)<-rX T p
 let p<-pq T [59] p
 some (⟨a,b⟩,p)
end nw
namespace Go.Proofs.YtidmdcckbdmblaaGreatDoor
open Go.RowKit jJ nw Go.Proofs.Tryz
structure kd(T:js)(V:PV)(w:World)(pb pos:Nat):Prop where
 jr:∃(tb cap:Nat) (en:Int),w.heap[pb]?=some (.cells #[.slice (some ⟨tb,0,none⟩) T.length cap,pos,en,V.v1,V.v2,V.v3,V.v4,.int .i64 0,.int .i64 0] 229 (0,0))/\T.length<=cap/\tb≠pb/\tb<V.lo/\
  ∀(k:Nat) (x:jg.Tok),T[k]?=some x->w.cell? ⟨tb,k*3,none⟩=some (.int .u8 (x.kind:Nat))/\w.cell? ⟨tb,k*3+1,none⟩=some (.string x.text)/\w.cell? ⟨tb,k*3+2,none⟩=some (.int .i64 (x.off:Nat))
 small:T.length<=20000/\pos<=T.length
 low:pb<V.lo/\V.lo<=w
theorem kd.lt{T:js}{V:PV}{w:World}{pb pos:Nat}(h:kd T V w pb pos):pb<w:=by obtain⟨_,_,_,a,_⟩:=h.jr;exact(JJ.1 a).1
theorem kd.grown{T:js}{V:PV}{w w':World}{pb pos:Nat}(h:kd T V w pb pos)(b:w.grownBy w' none):kd T V w' pb pos:=by obtain⟨a,e,f,g,hc,hn,d,i⟩:=h.jr;exact⟨⟨a,e,f,(b.B pb h.lt LG).T g,hc,hn,d,λk x hx=>by obtain⟨j,l,m⟩:=i k x hx;have c:=b.B a (JI d h.low.2) LG;exact⟨(Cb a _ c).T j,(Cb a _ c).T l,(Cb a _ c).T m⟩⟩,h.small,h.low.1,J9 h.low.2 b.size⟩
theorem kd.iU{T:js}{V:PV}{w w':World}{pb pos:Nat}(h:kd T V w pb pos)(a:Below w w w'):kd T V w' pb pos:=h.grown (jo a)
theorem kd.step{T:js}{V:PV}{w:World}{pb pos q:Nat}(h:kd T V w pb pos)(d:q<=T.length):kd T V (w.setCell ⟨pb,1,none⟩ (.int .i64 (q:Int))) pb q:=by obtain⟨a,f,g,i,hc,hn,c,j⟩:=h.jr;refine⟨⟨a,f,g,iW i,hc,hn,c,λk x hx=>?_⟩,⟨h.small.1,d⟩,h.low.1,by rw[JQ];exact h.low.2⟩;obtain⟨l,m,n⟩:=j k x hx;have b:=(jb w pb 1 (.int .i64 (q:Int))).B a (JI c h.low.2) (λe=>hn (by injection e));exact⟨(Cb a _ b).T l,(Cb a _ b).T m,(Cb a _ b).T n⟩
def jK(T:js)(V:PV)(w:World)(pb q:Nat)(w':World):Prop:=kd T V w' pb q/\w.grownBy w' (some pb)
theorem Gw(x:jg.Tok):Value.string x.text=tx x.text.data.toList:=by show Value.string x.text=.string ⟨x.text.data.toList.toArray⟩;rw[Ls]
theorem HI{T:js}{p:Nat}{x:jg.Tok}(h:T[p]?=some x):wj T p=x.kind/\ln T p=x.text.data.toList:=by unfold wj ln;rw[h];exact⟨rfl,rfl⟩
theorem yE{T:js}{p:Nat}(h:¬p<T.length):wj T p=0/\ln T p=[]:=by unfold wj ln;rw[Ln LC];exact⟨rfl,rfl⟩
def E7(T:js)(pos:Nat)(w:World)(e:Ending)(w':World):Prop:=(∃a:Int,e=.returned (.agg #[.int .u8 (wj T pos:Nat),tx (ln T pos),a]))/\Below w w w'
theorem mR{T:js}{V:PV}{w:World}{pb pos:Nat}(h:kd T V w pb pos):Calls prog 212 #[.pointer (some ⟨pb,0,none⟩)] w (E7 T pos w):=by
 have m:=Ba w (.cells #[.int .u8 0,Em,.int .i64 0] 305);have j:=JH m;have e:=h.iU m;obtain⟨L,M,k,l,hc,hn,A,p⟩:=e.jr;have N:=JI A e.low.2;have O:=iT l 0 _ rfl;have P:=iT l 1 _ rfl;have B:=iT l 2 _ rfl;have Q:=e.lt;have b:=JK w (.cells #[.int .u8 0,Em,.int .i64 0] 305);have R:=h.small.1;have y:w≠pb:=LA h.lt
 clear h m l;by_cases z:pos<T.length
 .obtain⟨x,hx⟩:∃x,T[pos]?=some x:=Gx z;obtain⟨S,c1,c2⟩:=p pos x hx;obtain⟨f,g⟩:=HI hx;have i:=JH (And.intro f g);rw[Gw]at c1;have U:(0:Int)<=(pos:Int):=LC;have C:(pos:Int)<(T.length:Int):=LC;generalize T.length=n at*;clear p e hx f g B
  go_enter func212,ntmps212
  go_upto_region 1 with fail;generalize w.alloc (.cells #[.int .u8 0,Em,.int .i64 0] 305)=c at*;obtain⟨a,d⟩:=Xq w.heap.size;rw[<-d]at b j y⊢;have q:=JH d;have D:a<c:=(JJ.1 b).1;clear d;go_quiet (fail);go_wp2_with fail;obtain⟨⟨E,F,G⟩,⟨I,J,K⟩⟩:=jz b
  go_region
  go_wp2_with fail;have hF:((((c.drewN (nq+1)).setCell ⟨a,0,none⟩ (.int .u8 (x.kind:Nat))).setCell ⟨a,1,none⟩ (tx x.text.data.toList)).setCell ⟨a,2,none⟩ (.int .i64 (x.off:Nat))).heap[a]?=some (.cells #[.int .u8 (x.kind:Nat),tx x.text.data.toList,.int .i64 (x.off:Nat)] 305 (0,0)):=iW (iW (iW (w:=c.drewN (nq+1)) b));have r:=iT hF 0 _ rfl;have s:=iT hF 1 _ rfl;have t:=iT hF 2 _ rfl;have u:=q.o;refine JZ (v:=.agg #[.int .u8 (x.kind:Nat),tx x.text.data.toList,.int .i64 (x.off:Nat)]) ?_ rfl ⟨⟨_,by rw[i.o.1,i.o.2]⟩,?_⟩;simp[results,Tryz.results212,go_sem,r,s,t];rw[<-u];exact ja (ja (ja (kF j.o _) (JS _)) (JS _)) (JS _)
 obtain⟨f,g⟩:=yE (T:=T) z;have C:¬(pos:Int)<(T.length:Int):=LC
 have i:=JH (And.intro f g);generalize T.length=n at*;clear p e f g
 go_enter func212,ntmps212
 go_upto_region 1 with fail;generalize w.alloc (.cells #[.int .u8 0,Em,.int .i64 0] 305)=c at*;obtain⟨a,d⟩:=Xq w.heap.size;rw[<-d]at b j y⊢;have q:=JH d;have D:a<c:=(JJ.1 b).1;clear d;go_quiet (fail);obtain⟨⟨E,F,G⟩,⟨I,J,K⟩⟩:=jz b;go_wp2_with fail;have hF:((((c.drewN nq).setCell ⟨a,0,none⟩ (.int .u8 0)).setCell ⟨a,1,none⟩ (Em)).setCell ⟨a,2,none⟩ (.int .i64 k)).heap[a]?=some (.cells #[.int .u8 0,Em,k] 305 (0,0)):=iW (iW (iW (w:=c.drewN nq) b));have r:=iT hF 0 _ rfl;have s:=iT hF 1 _ rfl;have t:=iT hF 2 _ rfl;have u:=q.o;refine JZ (v:=.agg #[.int .u8 0,Em,k]) ?_ rfl ⟨⟨k,by rw[i.o.1,i.o.2];rfl⟩,?_⟩;simp[results,Tryz.results212,go_sem,r,s,t];rw[<-u];exact ja (ja (ja (kF j.o _) (JS _)) (JS _)) (JS _)
theorem B5(w:World)(a b c:Value):(Instr.field 305 (.agg #[a,b,c]) 1).run prog w=.ok b w:=LF
theorem vJ{T:js}{V:PV}{w:World}{pb pos:Nat}(h:kd T V w pb pos)(x:List UInt8):Calls prog 211 #[.pointer (some ⟨pb,0,none⟩),tx x] w λe w'=>e=.returned (.bool (ln T pos==x))/\Below w w w':=by
 obtain⟨d,f,g,a,_⟩:=h.jr;have i:=iT a 8 _ rfl;have j:=h.lt;have H:=JH h;clear h a
 go_enter func211,ntmps211
 go_wp2_with (refine(mR H.o).M ?_;rintro e w' ⟨⟨b,rfl⟩,a⟩;have k:=B5 w' (.int .u8 (wj T pos:Nat)) (tx (ln T pos)) (.int .i64 b);have c:=JH a;clear a);go_ret;exact⟨rfl,c.o⟩
def E8(T:js)(V:PV)(pb pos:Nat)(b:Bool)(w:World)(e:Ending)(w':World):Prop:=e=.returned (.bool b)/\jK T V w pb (if b then pos+1 else pos) w'
theorem jK.T{T:js}{V:PV}{w w' a:World}{pb p q:Nat}(h:jK T V w pb p w')(k:jK T V w' pb q a):jK T V w pb q a:=⟨k.1,jd h.2 k.2⟩
theorem FA{T:js}{p:Nat}{x:List UInt8}(h:ln T p=x)(hx:x≠[]):p<T.length:=by by_cases a:p<T.length;exact a;exact absurd ((yE a).2.symm.T h).symm hx
theorem nO{T:js}{p q:Nat}{x:List UInt8}(h:ru T p=some (x,q)):wj T p=1/\ln T p=x/\q=p+1/\p<T.length:=by unfold ru at h;by_cases a:wj T p=1;rw[Kn a]at h;injection h with h;injection h with c d;refine⟨a,c,d.symm,?_⟩;by_cases b:p<T.length;exact b;rw[(yE b).1]at a;cases a;rw[Ka a]at h;cases h
theorem zO{T:js}{V:PV}{w:World}{pb:Nat}(h:kd T V w pb T.length):Calls prog 106 #[.pointer (some ⟨pb,0,none⟩)] w λe w'=>e=.returned (.tuple #[.int .i64 0,.int .i64 0])/\Below w w w':=by
 obtain⟨b,c,d,a,_⟩:=h.jr;have f:=iT a 0 _ rfl;have g:=iT a 1 _ rfl;have i:=iT a 7 _ rfl;have j:=iT a 8 _ rfl;have k:=h.lt;clear a h
 go_enter func106,ntmps106
 go_wp2_with fail;go_quiet (fail);go_wp2_with fail;go_quiet (fail);go_wp2_with fail
 go_ret2
 exact⟨rfl,kF (kF (Below.refl _ _) _) _⟩
theorem jK.refl{T:js}{V:PV}{w:World}{pb pos:Nat}(h:kd T V w pb pos):jK T V w pb pos w:=⟨h,lM _ _⟩
def wu(T:js)(pos:Nat)(l:List (List UInt8×Nat)):Prop:=∀s∈l,s.1≠[]/\ln T pos≠s.1
theorem kd.other{T:js}{V:PV}{w:World}{pb pos z i:Nat}{u:Value}(h:kd T V w pb pos)(hz:V.lo<=z):kd T V (w.setCell ⟨z,i,none⟩ u) pb pos:=by obtain⟨a,g,j,l,hc,hn,d,m⟩:=h.jr;have n:=jb w z i u;have b:=h.low;have f:∀q,q<V.lo->(w.setCell ⟨z,i,none⟩ u).heap[q]?=w.heap[q]?:=λq t=>n.B q LC (λe=>by injection e;omega);refine⟨⟨a,g,j,(f pb b.1).T l,hc,hn,d,λk x hx=>?_⟩,h.small,b.1,by rw[JQ];exact b.2⟩;obtain⟨p,r,s⟩:=m k x hx;have c:=f a d;exact⟨(Cb a _ c).T p,(Cb a _ c).T r,(Cb a _ c).T s⟩
theorem jK.other{T:js}{V:PV}{w0 w:World}{pb pos z i:Nat}{u:Value}(h:jK T V w0 pb pos w)(a:V.lo<=w0)(hz:w0<=z):jK T V w0 pb pos (w.setCell ⟨z,i,none⟩ u):=
 ⟨h.1.other (J9 a hz),⟨h.2.os,h.2.tape,h.2.output,by rw[JQ];exact h.2.size,λq b c=>(J8 _ _ _ _ (by show q≠z;omega)).T (h.2.B q b c)⟩⟩
theorem vr{T:js}{V:PV}{w0 w:World}{pb pos z:Nat}{u0 u1 u2 u3:Value}(h:jK T V w0 pb pos w)(a:V.lo<=w0)(hz:w0<=z):
 jK T V w0 pb pos ((((w.setCell ⟨z,0,none⟩ u0).setCell ⟨z,1,none⟩ u1).setCell ⟨z,2,none⟩ u2).setCell ⟨z,3,none⟩ u3):=(((h.other a hz).other a hz).other a hz).other a hz
theorem uR{w:World}{lo e size g n b:Nat}{xs:List Value}(h:w.ownsRow lo e size (.slice (some ⟨g,0,none⟩) n b) n xs):∃t:List Value,w.heap[g]?=some (.cells (xs++t).toArray e (0,0))/\n<=b/\b<=maxLen/\(xs++t).length=b*size/\lo<=g:=by
 rcases h.2 with⟨a,_⟩|⟨p,q,d,a,f,i,j,k,l,c⟩
 cases a;injection a with a _ m;injection a with a;injection a with a;subst a m;refine⟨d.toList.drop (n*size),?_,j,k,?_,f⟩;rw[<-c,K6];exact i;rw[<-c,K6];simpa using l
theorem DK{w:World}{lo e size g n b:Nat}{xs:List Value}(h:w.ownsRow lo e size (.slice (some ⟨g,0,none⟩) n b) n xs)(i:Nat)(u:Value)(hi:xs[i]?=some u):w.cell? ⟨g,i,none⟩=some u/\w.frozen? ⟨g,i,none⟩=false:=by obtain⟨t,a,_⟩:=uR h;refine⟨iT a i u ?_,iY a i⟩;rw[KR,Ku (J6.1 hi).1];exact hi
theorem kd.iV{T:js}{V:PV}{w w':World}{pb pos:Nat}(h:kd T V w pb pos)(hs:w.heap.size<=w')(c:∀q,q<V.lo->w'.heap[q]?=w.heap[q]?):kd T V w' pb pos:=by obtain⟨a,e,f,g,hc,hn,d,i⟩:=h.jr;refine⟨⟨a,e,f,(c pb h.low.1).T g,hc,hn,d,λk x hx=>?_⟩,h.small,h.low.1,J9 h.low.2 hs⟩;obtain⟨j,l,m⟩:=i k x hx;have b:=c a d;exact⟨(Cb a _ b).T j,(Cb a _ b).T l,(Cb a _ b).T m⟩
structure mY(a b:World)(p q:Nat):Prop where
 os:b.os=a.os
 tape:b.tape=a.tape
 output:b.output=a.output
 size:a.heap.size<=b
 B:∀z,z<a.heap.size->z≠p->z≠q->b.heap[z]?=a.heap[z]?
theorem mY.refl(a:World)(p q:Nat):mY a a p q:=⟨rfl,rfl,rfl,JS _,λ_ _ _ _=>rfl⟩
theorem mY.grown{a b c:World}{p q:Nat}(h:mY a b p q)(d:b.grownBy c (some p)):mY a c p q:=
 ⟨d.os.T h.os,d.tape.T h.tape,d.output.T h.output,J9 h.size d.size,λz hz f g=>(d.B z (JI hz h.size) (λe=>f (by injection e))).T (h.B z hz f g)⟩
theorem mY.rY{a b c:World}{p q:Nat}(h:mY a b p q)(d:b.grownBy c (some q)):mY a c p q:=
 ⟨d.os.T h.os,d.tape.T h.tape,d.output.T h.output,J9 h.size d.size,λz hz g f=>(d.B z (JI hz h.size) (λe=>f (by injection e))).T (h.B z hz g f)⟩
theorem mY.jY{a b c:World}{p q:Nat}{r:Option Nat}(h:mY a b p q)(d:b.grownBy c r)(hr:∀z,r=some z->a<=z):mY a c p q:=
 ⟨d.os.T h.os,d.tape.T h.tape,d.output.T h.output,J9 h.size d.size,λz hz f g=>(d.B z (JI hz h.size) (λe=>LA (hr z e.symm))).T (h.B z hz f g)⟩
theorem AK{a b:World}{r:Option Nat}(h:a.grownBy b r):a.grownBy b.drew r:=⟨h.os,h.tape,h.output,h.size,h.B⟩
theorem uk(w:World):w.grownBy w.drew none:=AK (lM w none)
theorem Gz:(prog.info? 275).map (λi=>(i.zero,i.size,i.bytes))=some (some (.agg #[.int .u8 0,Em,.int .i64 0,Nl]),4,56):=LF
def GC(T:js)(V:PV)(pb q:Nat)(s:St)(w:World)(e:Ending)(w':World):Prop:=∃(a:Option Addr) (c:Nat),e=.returned (.agg #[.int .u8 s.kind,tx s.name,tx s.hd,.slice a s.jy.length c,Nl,Nl])/\jc (ki .u8 De) (λb=>w<=b/\b<w') w' (.slice a s.jy.length c) s.jy/\jK T V w pb q w'
theorem GD:(prog.info? 270).map (λi=>(i.zero,i.size,i.bytes))=some (some (.agg #[.int .u8 0,Em,Em,Nl,Nl,Nl]),6,112):=LF
def GF(T:js)(V:PV)(pb q:Nat)(l:List St)(w:World)(e:Ending)(w':World):Prop:=∃(a:Option Addr) (c:Nat),e=.returned (.slice a l.length c)/\jc (jH .u8 Ds) (λb=>w<=b/\b<w') w' (.slice a l.length c) l/\jK T V w pb q w'
theorem GG:(prog.info? 9).map (λi=>(i.zero,i.size,i.bytes))=some (some (Em),1,16):=LF
theorem GI:(prog.info? 189).map (λi=>(i.zero,i.size,i.bytes))=some (some (.agg #[Em,Nl,Nl]),3,64):=LF
def GJ(T:js)(V:PV)(pb q:Nat)(l:List Hd)(w:World)(e:Ending)(w':World):Prop:=∃(a:Option Addr) (c:Nat),e=.returned (.agg #[.slice a l.length c])/\jc (kZ .u8) (λb=>w<=b/\b<w') w' (.slice a l.length c) l/\jK T V w pb q w'
structure Fr(lo pb:Nat)(w w':World):Prop where
 os:w'.os=w.os
 tape:w'.tape=w.tape
 output:w'.output=w.output
 size:w.heap.size<=w'
 B:∀q,q<lo->q≠pb->w'.heap[q]?=w.heap[q]?
theorem Fr.refl(lo pb:Nat)(w:World):Fr lo pb w w:=⟨rfl,rfl,rfl,JS _,λ_ _ _=>rfl⟩
theorem Fr.T{lo pb:Nat}{a b c:World}(h:Fr lo pb a b)(k:Fr lo pb b c):Fr lo pb a c:=⟨k.os.T h.os,k.tape.T h.tape,k.output.T h.output,J9 h.size k.size,λq d e=>(k.B q d e).T (h.B q d e)⟩
theorem GK:(prog.info? 171).map (λi=>(i.zero,i.size,i.bytes))=some (some (.agg #[Em,.bool false]),2,24):=LF
theorem kd.tree{T:js}{V:PV}{w:World}{pb pos:Nat}(h:kd T V w pb pos):∃(b:Value) (a:Int),w.heap[pb]?=some (.cells #[b,pos,a,V.v1,V.v2,V.v3,V.v4,.int .i64 0,.int .i64 0] 229 (0,0)):=by obtain⟨d,e,a,c,_⟩:=h.jr;exact⟨_,a,c⟩
def GL(T:js)(V:PV)(pb q lo:Nat)(b:List Fg)(w w':World):Prop:=∃a,kd T {V with v2:=a} w' pb q/\jx kY 171 2 (λ_=>False) w' lo a b/\Fr lo pb w w'
theorem GM:(prog.info? 176).map (λi=>(i.zero,i.size,i.bytes))=some (some (.agg #[Em,Nl,Nl]),3,64):=LF
def GN(T:js)(V:PV)(pb q lo:Nat)(c:List Co)(w w':World):Prop:=∃a,kd T {V with v4:=a} w' pb q/\jx (kL .u8) 176 3 (λb=>lo<=b) w' lo a c/\Fr lo pb w w'
def IJ(T:js)(V:PV)(pb:Nat)(f:Fl)(w w':World):Prop:=∃v2 v4,kd T {V with v1:=tx f.name,v2:=v2,v4:=v4} w' pb T.length/\jc kY (λb=>V.lo<=b/\b<w') w' v2 f.jl/\jc (kL .u8) (λb=>V.lo<=b/\b<w') w' v4 f.jh/\f.kj=[]/\Fr V.lo pb w w'
def J1(T:js)(V:PV)(pb bp lo:Nat)(b:World)(pre:List Fg)(p:Nat)(w:World):Prop:=w.cell? ⟨bp,0,none⟩=some (.pointer (some ⟨pb,0,none⟩))/\∃a,kd T {V with v2:=a} w pb p/\jx kY 171 2 (λ_=>False) w lo a pre/\Fr lo pb b w
def J3(T:js)(V:PV)(pb bp lo:Nat)(c:World)(pre:List Co)(p:Nat)(w:World):Prop:=w.cell? ⟨bp,0,none⟩=some (.pointer (some ⟨pb,0,none⟩))/\∃a,kd T {V with v4:=a} w pb p/\jx (kL .u8) 176 3 (λb=>lo<=b) w lo a pre/\Fr lo pb c w
end Go.Proofs.YtidmdcckbdmblaaGreatDoor
namespace nw
def CZ{a:Type}(T:js)(b:Nat->Option (a×Nat))(p:Nat)(rest:List a)(q:Nat):Prop:=
 (ln T p=[44]/\∃k,mr T b k (p+1)=some (rest,q))\/(ln T p=[41]/\rest=[]/\q=p+1)
theorem og{e:Type}{T:js}{b:Nat->Option (e×Nat)}:∀{k p q:Nat} {xs:List e},mr T b k p=some (xs,q)->∃x a rest,b p=some (x,a)/\xs=x::rest/\CZ T b a rest q
 |0,_,_,_,h=>by cases h
 |k+1,p,q,xs,h=>by
  unfold mr at h;cases hi:b p with
  |none=>rw[hi]at h;cases h
  |some y=>
   obtain⟨x,a⟩:=y;rw[hi]at h;simp only at h;by_cases hc:ln T a=[44];rw[if_pos hc]at h;cases hr:mr T b k (a+1)with
   |none=>rw[hr]at h;cases h
   |some z=>obtain⟨zs,r⟩:=z;rw[hr]at h;injection h with h;injection h with c d;subst c d;exact⟨x,a,_,rfl,rfl,.inl ⟨hc,k,hr⟩⟩
   rw[if_neg hc]at h;by_cases hp:ln T a=[41];rw[if_pos hp]at h;injection h with h;injection h with c d;subst c d;exact⟨x,a,[],rfl,rfl,.inr ⟨hp,rfl,rfl⟩⟩;rw[if_neg hp]at h;cases h
theorem nZ{T:js}{p q:Nat}{x:List UInt8}(h:ru T p=some (x,q)):p<q:=LA ((Go.Proofs.YtidmdcckbdmblaaGreatDoor.nO h).2.2.1)
theorem xn{c:Type}{T:js}{w:List UInt8}{b:Nat->Option (c×Nat)}(h:∀p q x,b p=some (x,q)->p<q):∀{k p q:Nat} {l:List c},mi T w b k p=some (l,q)->p<=q
 |0,_,_,_,a=>by cases a
 |k+1,p,q,l,a=>by
  unfold mi at a;split at a;cases hs:b (p+1)with
  |none=>rw[hs]at a;cases a
  |some y=>
   obtain⟨s,e⟩:=y;rw[hs]at a;simp only at a;cases hr:mi T w b k e with
   |none=>rw[hr]at a;cases a
   |some z=>obtain⟨r,f⟩:=z;rw[hr]at a;injection a with a;injection a with _ d;subst d;have:=h _ _ _ hs;have:=xn h hr;omega
  injection a with a;injection a with _ d;omega
end nw
namespace Go.Proofs.YtidmdcckbdmblaaGreatDoor
open Go.RowKit jJ mX nw Go.Proofs.Tryz
theorem Ff:0<(jg.lexB ⟨src.toArray⟩).length:=LM
end Go.Proofs.YtidmdcckbdmblaaGreatDoor
