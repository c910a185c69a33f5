import Derived.Test.YtfemcncookpdhaaGreatDoorZ10
import Derived.Test.YtfemcncookpdhaaGreatDoorZ11
import Derived.Test.YtfemcncookpdhaaGreatDoorZ12
set_option maxRecDepth 1000000
set_option maxHeartbeats 32000000
set_option linter.all false
namespace Go.Proofs.YtfemcncookpdhaaGreatDoor
open Go.RowKit lX Go.Proofs.Tryz
theorem Lh.next{S}{B z x:Nat}{w0 c w}{n:Nat}{s}{y:Nat}{Al}{A C:Nat}{D E}{F G:Nat}{i}{j k:Nat}{t u}{c4 d l:Nat}(h:Lh S B z x w0 c n s y Al A C D E F G i j k t u c4 d l)(f:c.grownBy w (some B)){p:Option Addr}{nk q m:Nat}{r:List Lk}
  (hF:w.heap[B]?=some (.cells #[tx mi,.slice i j k,.slice p nk q,Nl] 32 (0,0))) (I:km nI (λb=>c<=b/\b<w) w (.slice p nk q) r) (J:nL n m r) (hm:m<=n*n):Lf S B z w0 w n s i j k p nk q t r u c4 d l:=by
 have O:B<c:=(NC.1 h.hF).1;have P:=h.zB;have hs:=f.size;have g:∀b,b<c.heap.size->b≠B->w.heap[b]?=c.heap[b]?:=λb K L=>f.B b K (λe=>L (by injection e));refine⟨(g z PJ PJ).T h.hz,hF,h.zB,⟨f.os.T h.qz.os,f.tape.T h.qz.tape,f.output.T h.qz.output,PH h.qz.size,λb M=>(g b (PH h.qz.size) PJ).T (h.qz.B b M)⟩,h.Hy.kg tX.ok (λb a=>g b (PH ((h.hS b a).1)) (PH ((h.hS b a).1))),h.hS,h.n1,h.n3,
  (h.KE.kg mR.ok (λb a=>g b a.2 (PH a.1))).M mR.ok (λb a=>⟨a.1,ND a.2 hs⟩),h.Hz,h.f2,I.M nI.ok (λb a=>⟨PH a.1,a.2⟩),J.up hm,
  λv N=>(Cb d (l+v) (g d h.b8.2 (by have:=h.b8.1;show d≠B;omega))).T (h.h8 v N),⟨h.b8.1,ND h.b8.2 hs⟩⟩
theorem yE:∀d,Cc d
 |0=>λ_ _ _ _ _ _ _ _ _ _ _ _ _ _ _ _ _ _ _ _ _ _ _ d' hd=>PJ
 |d+1=>EB d (xc d (yE d))
theorem CF(d:Nat):zy d:=xc d (yE d)
theorem EG(d:Nat)(cl:Dx d)(cm:F9 d):Jy (d+1):=by
 intro S t w cb u y z D hd own p s A params V aI X aN o h U i aj name aO cn th el aY ac c1 bc bd c4 aZ ba c5 d' hd bV af bw co ay;obtain rfl:d=d':=PJ
 obtain⟨cp,cq,bx,bz,bA,bB⟩:=co;simp only[St.kind,St.name,St.kV,St.th,St.el]at cp cq bx bz bA bB;have dj:ac<=5:=PH bV.len.1
 have bW:=Ba w (.cells #[.int .u8 aj,tx name,tx aO,.slice aY ac c1,.slice bc bd c4,.slice aZ ba c5] 185);have cr:=NA (NF w (.cells #[.int .u8 aj,tx name,tx aO,.slice aY ac c1,.slice bc bd c4,.slice aZ ba c5] 185));have dk:=(NC.1 h.c).1;have bX:=h.own.ge;have be:=NA (show w<(w.alloc (.cells #[.int .u8 aj,tx name,tx aO,.slice aY ac c1,.slice bc bd c4,.slice aZ ba c5] 185)).heap.size/\w≠cb/\some w.heap.size≠V.ownBlock from⟨PK,PJ,λe=>PH ((bX _ e.symm).2)⟩);have H:=(h.kh bW)
 have cs:=(mX.kh (cb:=cb) (V:=V) bW)
 have ct:=NA bx;have cu:=NA bz;have bY:=NA bA;have bC:=NA bB;have bZ:=cl;have bD:=cm;obtain⟨cv,c,rfl⟩:=h.form;have dl:aI.length<=90000:=PJ
 clear h bx bz bA bB bX hd
 go_enter func177,ntmps177
 go_wp2_with fail;refine(kR t _ cb u y z D hd own p s A params cv _ c aI ⟨29,0,0,0⟩ H PJ).M ?_;rintro e ca ⟨rfl,cw,cc,cx,k,l⟩;obtain⟨I,G⟩:=k.k _ be.o.1 be.o.2.1 be.o.2.2;obtain⟨C,cd⟩:=Xq w.heap.size;have bp:=I.T cr.o;have bE:w.heap.size<ca:=ND be.o.1 k.size;have al:=be.o.2.1;rw[<-cd]at bp bE G al⊢;have cy:=NA bp;have cz:=NA G;obtain⟨⟨N,M,O,P,Q,R⟩,_⟩:=lL bp;have cA:=(cs.T k)
 have cB:=NA l;have ce:cc.length=aI.length+1:=by rw[l];simp
 have cC:=NA ce;have cf:ac*qh De<=315:=by rw[Nx];omega
 clear I G bp l cd ce;go_wp2_with fail;clear N M O P Q R;refine(CF De S t ca cb u y z D hd own p s A params cw cc aY ac c1 cn cx U bV ct.o (PI cC.o cf) PJ).M ?_;rintro e B ⟨rfl,W,j,E,k,l⟩;obtain⟨I,G⟩:=k.k C bE al cz.o;have bF:=I.T cy.o;have ao:=NA bF;have bq:=NA G;have ad:C<B:=ND bE k.size;have ap:=((mC.one cB.o ⟨PK,PK,λh=>by rcases h with h|h<;>simp at h,λh=>by rcases h with h|h<;>simp at h⟩).T l.Nt (q:=316) (PH cf))
 have bG:=ap.len;have aB:=NA bG;obtain⟨J,c2,rfl⟩:=E.form;have az:=(cA.T k)
 have dm:j.length<=95000:=PJ
 have dn:aI.length<=j.length:=bG.1;obtain⟨⟨N,M,O,P,Q,R⟩,_⟩:=lL bF;clear I G bF bG;have cD:aj=1\/aj=2\/aj=3\/aj=4\/aj=5\/aj=6\/aj=7\/aj=8\/aj=9\/aj=10:=PJ
 rcases cD with rfl|rfl|rfl|rfl|rfl|rfl|rfl|rfl|rfl|rfl
 .go_wp2_with fail;refine sV (λx=>lO t cb u y z D hd own p s A params (.slice J j.length c2) j x/\Below B B x) (λv w=>∃(W:Value) (F:List In) (r:Int),lO t cb u y z D hd own p s A params W F w/\mX cb (.slice J j.length c2) B W w/\F=j++[⟨24,r,0,0⟩]) (mG [(Pp cb 0),(Pp cb 0),(Pp cb 0),(Pp cb 6),(·=p),(Pp C 1),(·=tx name),Tr,Tr,Tr]) [(7,λv w=>∃r:Int,v=r),(8,λv w=>∃r:Int,v=.agg #[.int .u8 24,r,.int .i64 0,.int .i64 0])] (⟨E.kh (Below.refl _ _).drew,(Below.refl _ _).drew⟩) ⟨?_,?_,?_,?_,?_,?_,?_,?_,?_,?_,trivial⟩ ?_;exact Pf 0;exact Pf 0;exact Pv 25 1;exact Pv 26 2;intro n w a i f hd hw;exact .l 27 (f 3 _ rfl rfl) (kf a.1.c 6 _ rfl) ⟨rfl,a,Qa⟩;exact Pf 3;intro n w a i f hd hw;have dp:=Sv 29 f 5;obtain⟨⟨N,M,O,P,Q,R⟩,_⟩:=lL ((a.2.B C ad).T ao.o);replace a:=Hq a;exact .q (g:=⟨rfl,a.o,Qa⟩);intro n w a i f hd hw;have dq:=Sv 28 f 4;have dr:=Sv 30 f 6;clear i f hd hw;replace a:=Hq a;refine .h λK hK=>?_;go_simp;refine⟨rfl,?_⟩;refine Calls.M (mz a.o.1 U.ln U.vars name) ?_;rintro e w' ⟨r,he,hw⟩;subst hw;subst he;exact⟨_,rfl,hK ⟨trivial,a.o,Qc ⟨r,rfl⟩<|Qb<|Qe⟩⟩;intro n w a i f hd hw;obtain⟨r,cE⟩:=hd _ (Mm 0 rfl) _ rfl rfl;have ds:=Sl 31 cE;exact .q (g:=⟨trivial,a,Qb<|Qc ⟨r,rfl⟩<|Qa⟩);intro n w a i f hd hw;have dt:=Sv 24 f 0;obtain⟨r,cF⟩:=hd _ (Mm 1 rfl) _ rfl rfl;have du:=Sl 32 cF;clear i f hd hw;replace a:=Hq a;refine .h λK hK=>?_;go_simp;refine⟨rfl,?_⟩;refine Calls.M (kR t w cb u y z D hd own p s A params J _ c2 j ⟨24,r,0,0⟩ a.o.1 PJ) ?_;rintro e w' ⟨he,W,F,E,k,l⟩;subst he;refine⟨_,rfl,?_⟩;exact hK (⟨W,F,r,E,(mX.kh a.o.2).T k,l⟩);intro aP bb af am;obtain⟨aJ,F,r,E,k,l⟩:=am;have T:=NA (And.intro E (And.intro (az.T k) (ap.snoc (m:=400*(1+kN d th+kN d el)) l ⟨PK,PK,λh=>by rcases h with h|h<;>simp at h,λh=>by rcases h with h|h<;>simp at h⟩ PJ)));clear l af;simp only[kr,Act.put,NI,NL,NJ];go_wp2_with fail
  go_end0
  exact⟨rfl,_,_,T.o.1,T.o.2.1,T.o.2.2⟩
 .go_wp2_with fail;refine sV (λx=>lO t cb u y z D hd own p s A params (.slice J j.length c2) j x/\Below B B x) (λv w=>∃(W:Value) (F:List In) (r:Int),lO t cb u y z D hd own p s A params W F w/\mX cb (.slice J j.length c2) B W w/\F=j++[⟨25,r,0,0⟩]) (mG [(Pp cb 0),(Pp cb 0),(Pp cb 0),(Pp cb 7),(·=s),(Pp C 1),(·=tx name),Tr,Tr,Tr]) [(7,λv w=>∃r:Int,v=r),(8,λv w=>∃r:Int,v=.agg #[.int .u8 25,r,.int .i64 0,.int .i64 0])] (⟨E.kh (Below.refl _ _).drew,(Below.refl _ _).drew⟩) ⟨?_,?_,?_,?_,?_,?_,?_,?_,?_,?_,trivial⟩ ?_;exact Pf 0;exact Pf 0;exact Pv 37 1;exact Pv 38 2;intro n w a i f hd hw;exact .l 39 (f 3 _ rfl rfl) (kf a.1.c 7 _ rfl) ⟨rfl,a,Qa⟩;exact Pf 3;intro n w a i f hd hw;have dv:=Sv 41 f 5;obtain⟨⟨N,M,O,P,Q,R⟩,_⟩:=lL ((a.2.B C ad).T ao.o);replace a:=Hq a;exact .q (g:=⟨rfl,a.o,Qa⟩);intro n w a i f hd hw;have dw:=Sv 40 f 4;have dx:=Sv 42 f 6;clear i f hd hw;replace a:=Hq a;refine .h λK hK=>?_;go_simp;refine⟨rfl,?_⟩;refine Calls.M (mz a.o.1 U.ln U.kF name) ?_;rintro e w' ⟨r,he,hw⟩;subst hw;subst he;exact⟨_,rfl,hK ⟨trivial,a.o,Qc ⟨r,rfl⟩<|Qb<|Qe⟩⟩;intro n w a i f hd hw;obtain⟨r,cG⟩:=hd _ (Mm 0 rfl) _ rfl rfl;have dy:=Sl 43 cG;exact .q (g:=⟨trivial,a,Qb<|Qc ⟨r,rfl⟩<|Qa⟩);intro n w a i f hd hw;have dz:=Sv 36 f 0;obtain⟨r,cH⟩:=hd _ (Mm 1 rfl) _ rfl rfl;have dA:=Sl 44 cH;clear i f hd hw;replace a:=Hq a;refine .h λK hK=>?_;go_simp;refine⟨rfl,?_⟩;refine Calls.M (kR t w cb u y z D hd own p s A params J _ c2 j ⟨25,r,0,0⟩ a.o.1 PJ) ?_;rintro e w' ⟨he,W,F,E,k,l⟩;subst he;refine⟨_,rfl,?_⟩;exact hK (⟨W,F,r,E,(mX.kh a.o.2).T k,l⟩);intro aP bb af am;obtain⟨aJ,F,r,E,k,l⟩:=am;have T:=NA (And.intro E (And.intro (az.T k) (ap.snoc (m:=400*(1+kN d th+kN d el)) l ⟨PK,PK,λh=>by rcases h with h|h<;>simp at h,λh=>by rcases h with h|h<;>simp at h⟩ PJ)));clear l af;simp only[kr,Act.put,NI,NL,NJ];go_wp2_with fail
  go_end0
  exact⟨rfl,_,_,T.o.1,T.o.2.1,T.o.2.2⟩
 .go_wp2_with fail;refine sV (λx=>lO t cb u y z D hd own p s A params (.slice J j.length c2) j x/\Below B B x) (λv w=>∃(W:Value) (F:List In) (r:Int),lO t cb u y z D hd own p s A params W F w/\mX cb (.slice J j.length c2) B W w/\F=j++[⟨26,r,0,0⟩]) (mG [(Pp cb 0),(Pp cb 0),(Pp cb 0),(Pp cb 7),(·=s),(Pp C 1),(·=tx name),Tr,Tr,Tr]) [(7,λv w=>∃r:Int,v=r),(8,λv w=>∃r:Int,v=.agg #[.int .u8 26,r,.int .i64 0,.int .i64 0])] (⟨E.kh (Below.refl _ _).drew,(Below.refl _ _).drew⟩) ⟨?_,?_,?_,?_,?_,?_,?_,?_,?_,?_,trivial⟩ ?_;exact Pf 0;exact Pf 0;exact Pv 49 1;exact Pv 50 2;intro n w a i f hd hw;exact .l 51 (f 3 _ rfl rfl) (kf a.1.c 7 _ rfl) ⟨rfl,a,Qa⟩;exact Pf 3;intro n w a i f hd hw;have dB:=Sv 53 f 5;obtain⟨⟨N,M,O,P,Q,R⟩,_⟩:=lL ((a.2.B C ad).T ao.o);replace a:=Hq a;exact .q (g:=⟨rfl,a.o,Qa⟩);intro n w a i f hd hw;have dC:=Sv 52 f 4;have dD:=Sv 54 f 6;clear i f hd hw;replace a:=Hq a;refine .h λK hK=>?_;go_simp;refine⟨rfl,?_⟩;refine Calls.M (mz a.o.1 U.ln U.kF name) ?_;rintro e w' ⟨r,he,hw⟩;subst hw;subst he;exact⟨_,rfl,hK ⟨trivial,a.o,Qc ⟨r,rfl⟩<|Qb<|Qe⟩⟩;intro n w a i f hd hw;obtain⟨r,cI⟩:=hd _ (Mm 0 rfl) _ rfl rfl;have dE:=Sl 55 cI;exact .q (g:=⟨trivial,a,Qb<|Qc ⟨r,rfl⟩<|Qa⟩);intro n w a i f hd hw;have dF:=Sv 48 f 0;obtain⟨r,cJ⟩:=hd _ (Mm 1 rfl) _ rfl rfl;have dG:=Sl 56 cJ;clear i f hd hw;replace a:=Hq a;refine .h λK hK=>?_;go_simp;refine⟨rfl,?_⟩;refine Calls.M (kR t w cb u y z D hd own p s A params J _ c2 j ⟨26,r,0,0⟩ a.o.1 PJ) ?_;rintro e w' ⟨he,W,F,E,k,l⟩;subst he;refine⟨_,rfl,?_⟩;exact hK (⟨W,F,r,E,(mX.kh a.o.2).T k,l⟩);intro aP bb af am;obtain⟨aJ,F,r,E,k,l⟩:=am;have T:=NA (And.intro E (And.intro (az.T k) (ap.snoc (m:=400*(1+kN d th+kN d el)) l ⟨PK,PK,λh=>by rcases h with h|h<;>simp at h,λh=>by rcases h with h|h<;>simp at h⟩ PJ)));clear l af;simp only[kr,Act.put,NI,NL,NJ];go_wp2_with fail
  go_end0
  exact⟨rfl,_,_,T.o.1,T.o.2.1,T.o.2.2⟩
 .go_wp2_with fail;clear N M O P Q R;refine(kR t B cb u y z D hd own p s A params J _ c2 j ⟨28,0,0,0⟩ E PJ).M ?_;rintro e ae ⟨rfl,ab,L,aC,k,l⟩;obtain⟨I,G⟩:=k.k C ad al bq.o;have ag:=NA (I.T ao.o);have aQ:=NA G;have ah:C<ae:=ND ad k.size;have aD:=(az.T k)
  clear I G;have aR:=NA l;have aq:L.length=j.length+1:=(by rw[l];simp);have aE:=NA aq;have bH:L.length<=95000:=PI ay aB.o;have ar:=(ap.snoc (m:=317) l ⟨PK,PK,λ_=>⟨PK,PY⟩,λh=>by rcases h with h|h<;>simp at h⟩ PJ)
  clear l aq;have au:L[j.length]?=some (⟨28,0,0,0⟩:In):=(by rw[aR.o];simp);obtain⟨⟨N,M,O,P,Q,R⟩,_⟩:=lL ag.o;go_wp2_with fail;clear N M O P Q R;refine(bZ S t ae cb u y z D hd own p s A params ab L X aN o aC U i bc bd c4 th af bY.o (PI ay ar.len)).M ?_;rintro e bf ⟨rfl,aJ,F,br,k,aF⟩;obtain⟨I,G⟩:=k.k C ah al aQ.o;have bs:=NA (I.T ag.o);have bI:=NA G;have bg:C<bf:=ND ah k.size;have bJ:=(aD.T k)
  clear I G;have bt:=(ar.T (q:=317+400*kN d th) aF PJ)
  obtain⟨⟨N,M,O,P,Q,R⟩,_⟩:=lL bs.o;go_wp2_with fail;clear N M O P Q R;refine(bD S t bf cb u y z D hd own p s A params aJ F X aN o br U i aZ ba c5 el bw bC.o (PI ay bt.len)).M ?_;rintro e aA ⟨r,rfl,bK,Y,ai,k,av,bh⟩;obtain⟨I,G⟩:=k.k C bg al bI.o;have bL:=NA (I.T bs.o);have bM:=NA G;have bN:C<aA:=ND bg k.size;have aS:=(bJ.T k)
  clear I G;have aT:=(bt.T (q:=318+400*kN d th+400*kN d el) av PJ)
  have aw:=NA (av.kI (aF.kI au));have aK:=(show j.length<Y.length by have:=av.len;have:=aF.len;have:=aE.o;omega)
  clear au;obtain⟨g,an,rfl⟩:=ai.Ar (PH aK);have Z:=ai.Ap aw.o;have bO:=(Z.1 1 _ rfl).1;have bP:=(Z.1 1 _ rfl).2;have ax:=NA (Z.2 1 PM (r:Int));have cg:=kf ai.c 10 _ rfl;have bQ:(0:Int)<=(j.length:Int):=PJ;have bR:(j.length:Int)<(Y.length:Int):=PH aK;clear Z;go_wp2_with fail
  go_end0
  exact⟨rfl,_,_,ax.o.1,aS.T ax.o.2,(aT.put aw.o (PH aB.o) (.inl rfl) PJ (PH bh)).le PJ⟩
 .go_wp2_with fail;clear N M O P Q R;refine(kR t B cb u y z D hd own p s A params J _ c2 j ⟨28,0,0,0⟩ E PJ).M ?_;rintro e ae ⟨rfl,ab,L,aC,k,l⟩;obtain⟨I,G⟩:=k.k C ad al bq.o;have ag:=NA (I.T ao.o);have aQ:=NA G;have ah:C<ae:=ND ad k.size;have aD:=(az.T k)
  clear I G;have aR:=NA l;have aq:L.length=j.length+1:=(by rw[l];simp);have aE:=NA aq;have bH:L.length<=95000:=PI ay aB.o;have ar:=(ap.snoc (m:=317) l ⟨PK,PK,λ_=>⟨PK,PY⟩,λh=>by rcases h with h|h<;>simp at h⟩ PJ)
  clear l aq;have au:L[j.length]?=some (⟨28,0,0,0⟩:In):=(by rw[aR.o];simp);obtain⟨⟨N,M,O,P,Q,R⟩,_⟩:=lL ag.o;go_wp2_with fail;clear N M O P Q R;refine(bZ S t ae cb u y z D hd own p s A params ab L X aN o aC U i bc bd c4 th af bY.o (PI ay ar.len)).M ?_;rintro e bf ⟨rfl,aJ,F,br,k,aF⟩;obtain⟨I,G⟩:=k.k C ah al aQ.o;have bs:=NA (I.T ag.o);have bI:=NA G;have bg:C<bf:=ND ah k.size;have bJ:=(aD.T k)
  clear I G;have bt:=(ar.T (q:=317+400*kN d th) aF PJ)
  have bS:F.length<=95000/\aI.length<=F.length:=(by have dH:=aF.len;have:=aE.o;have:=ay;have:=aB.o;omega);have cK:=NA bS;have dI:=bS.1;clear bS;obtain⟨cL,cM,rfl⟩:=br.form;go_wp2_with fail;refine(kR t bf cb u y z D hd own p s A params cL _ cM F ⟨27,(aI.length:Int),0,0⟩ br PJ).M ?_;rintro e aA ⟨rfl,bK,Y,ai,k,l⟩;obtain⟨I,G⟩:=k.k C bg al bI.o;have bL:=NA (I.T bs.o);have bM:=NA G;have bN:C<aA:=ND bg k.size;have aS:=(bJ.T k)
  clear I G;have cN:=NA l;have ch:Y.length=F.length+1:=(by rw[l];simp);have cO:=NA ch;skip;have aT:=(bt.snoc (m:=318+400*kN d th) l ⟨PK,PK,λ_=>⟨by show(0:Int)<=(aI.length:Int);omega,by show(aI.length:Int)<=_;have:=cK.o.2;omega⟩,λh=>by rcases h with h|h<;>simp at h⟩ PJ)
  clear l ch;have ci:Y[j.length]?=some (⟨28,0,0,0⟩:In):=(by rw[cN.o,Ou (PI aF.len aE.o)];exact aF.kI au);have aw:=NA ci;have bR:(j.length:Int)<(Y.length:Int):=(by have:=aF.len;have:=aE.o;have:=cO.o;omega);have bQ:(0:Int)<=(j.length:Int):=PJ;obtain⟨g,an,rfl⟩:=ai.Ar PJ;clear au ci;go_wp2_with fail;refine sV (λx=>lO t cb u y z D hd own p s A params (.slice (some ⟨g,0,none⟩) Y.length an) Y x/\Below aA aA x) (λv w=>lO t cb u y z D hd own p s A params (.slice (some ⟨g,0,none⟩) Y.length an) (Y.set j.length ((⟨28,0,0,0⟩:In).put 1 (Y.length:Int))) w/\mX cb (.slice (some ⟨g,0,none⟩) Y.length an) aA (.slice (some ⟨g,0,none⟩) Y.length an) w) (mG [(Pp cb 0),(Pp cb 0),(Pp cb 10),(·=.slice (some ⟨g,0,none⟩) Y.length an),(·=.int .i64 (j.length:Int)),(Pp cb 0),(Pp cb 0),(Pp cb 10),(·=.slice (some ⟨g,0,none⟩) Y.length an),(·=.int .i64 (Y.length:Int)),(Pp g (j.length*4)),(Pp g (j.length*4+1)),Tr]) [] (⟨ai.kh (Below.refl _ _).drew,(Below.refl _ _).drew⟩) ⟨?_,?_,?_,?_,?_,?_,?_,?_,?_,?_,?_,?_,?_,trivial⟩ ?_;exact Pf 0;exact Pv 92 0;exact Pv 93 1;intro n w a i f hd hw;exact .l 94 (f 2 _ rfl rfl) (kf a.1.c 10 _ rfl) ⟨rfl,a,Qa⟩;exact Pf 7;exact Pf 0;exact Pv 97 5;exact Pv 98 6;intro n w a i f hd hw;exact .l 99 (f 7 _ rfl rfl) (kf a.1.c 10 _ rfl) ⟨rfl,a,Qa⟩;intro n w a i f hd hw;have dJ:=Sv 100 f 8;exact .q (g:=⟨rfl,a,Qa⟩);intro n w a i f hd hw;have dK:=Sv 95 f 3;have dL:=Sv 96 f 4;exact .q (g:=⟨rfl,a,Qa⟩);exact Pv 102 10;intro n w a i f hd hw;have dM:=Sv 103 f 11;have dN:=Sv 101 f 9;have Z:=a.1.Ap aw.o;have bO:=(Z.1 1 _ rfl).1;have bP:=(Z.1 1 _ rfl).2;have ax:=NA (Z.2 1 PM (Y.length:Int));clear Z;replace a:=Hq a;refine .h λK hK=>?_;go_simp;exact hK (⟨ax.o.1,(mX.kh a.o.2).T ax.o.2⟩);intro aP bb af am;have T:=NA am;clear af am;simp only[kr,Act.put,NI,NL,NJ];go_wp2_with fail
  go_end0
  exact⟨rfl,_,_,T.o.1,aS.T T.o.2,(aT.put aw.o (PH aB.o) (.inl rfl) PJ (Pb _)).le PJ⟩
 .obtain⟨aL,c3,rfl,cP⟩:=i.cs;obtain⟨cQ,aG,rfl,bi⟩:=i.ns;obtain⟨rfl,cR⟩:=i.own;have cS:=i.len;have cT:∀(fn:Fn) (first an:Array Value) (w:World),(Instr.makeFunc fn first an).run prog w=.ok (.func fn first an) w:=λ_ _ _ _=>rfl;have aM:=kf E.c 3 _ rfl;go_wp2_with fail;refine(Br S B aL X.length c3 X name C (cP.kg (mg.ok _) (λq bu=>E.old (U.ln q bu).1 (U.ln q bu).2)) PJ (λq bu=>ND (U.ln q bu).1 E.g.size) M ad (cu.o PK)).M ?_;rintro e ae ⟨r,dO,rfl,bv⟩;clear aM N M O P Q R;obtain⟨aH,aU⟩:∃x,aN[r]?=some x:=Gx (PH bi.len.1);obtain⟨aa,ak,cU,rfl,aV,bT,bj⟩:=bi.kI pA.ok r aH aU;obtain⟨cV,rfl,aW⟩:=bT;obtain⟨bk,bl,rfl,_⟩:=aW.form;have aX:=bj 0 _ rfl;have bm:=i.KP aH (NH aU);obtain⟨bn,bo⟩:=Xq aH.length;rw[<-bo]at aX aW bm;have bU:=NA aX;have cW:=(U.ln aa aV).1;have cX:(0:Int)<=(r:Int):=PJ;have cY:(r:Int)<(X.length:Int):=PJ;clear bj aX aU bo;have aC:=(E.kh bv)
  have aD:=(az.T (.kh bv))
  have ag:=NA ((bv.B C ad).T ao.o);have ah:C<ae:=ND ad bv.size;clear cT;go_wp2_with fail;refine sV (λx=>lO t cb u y z (.slice aL X.length c3) (.slice (some ⟨aa,ak,none⟩) X.length aG) (.int .i64 (o:Int)) p s A params (.slice J j.length c2) j x/\Below ae ae x) (λv w=>∃(W:Value) (F:List In) (q:Int),lO t cb u y z (.slice aL X.length c3) (.slice (some ⟨aa,ak,none⟩) X.length aG) (.int .i64 (o:Int)) p s A params W F w/\mX cb (.slice J j.length c2) ae W w/\F=j++[⟨30,(r:Int),q,(ac:Int)⟩]) (mG [(Pp cb 0),(·=r),(Pp cb 0),(Pp cb 0),(Pp cb 4),(·=.slice (some ⟨aa,ak,none⟩) X.length aG),(·=r),(Pp aa (ak+r)),(·=.slice bk bn bl),(Pp C 2),(·=tx aO),Tr,(Pp C 3),(·=.slice aY ac c1),(·=ac),Tr,Tr]) [(11,λv w=>∃q:Int,v=q),(15,λv w=>∃q:Int,v=.agg #[.int .u8 30,r,q,ac])] (⟨aC.kh (Below.refl _ _).drew,(Below.refl _ _).drew⟩) ⟨?_,?_,?_,?_,?_,?_,?_,?_,?_,?_,?_,?_,?_,?_,?_,?_,?_,trivial⟩ ?_;exact Pf 0;exact Pf 8;exact Pf 0;exact Pv 115 2;exact Pv 116 3;intro n w a i f hd hw;exact .l 117 (f 4 _ rfl rfl) (kf a.1.c 4 _ rfl) ⟨rfl,a,Qa⟩;exact Pf 8;intro n w a i f hd hw;have dP:=Sv 118 f 5;have dQ:=Sv 119 f 6;exact .q (g:=⟨rfl,a,Qa⟩);intro n w a i f hd hw;have aM:=(Cb aa (ak+r*1+0) (a.1.old (U.ln aa aV).1 (U.ln aa aV).2)).T bU.o;rw[NS,Og]at aM;exact .l 120 (f 7 _ rfl rfl) aM ⟨rfl,a,Qa⟩;exact Pf 3;intro n w a i f hd hw;have dR:=Sv 122 f 9;obtain⟨⟨N,M,O,P,Q,R⟩,_⟩:=lL ((a.2.B C ah).T ag.o);replace a:=Hq a;exact .q (g:=⟨rfl,a.o,Qa⟩);intro n w a i f hd hw;have dS:=Sv 121 f 8;have dT:=Sv 123 f 10;clear i f hd hw;replace a:=Hq a;refine .h λK hK=>?_;go_simp;refine⟨rfl,?_⟩;refine Calls.M (mz a.o.1 U.ln ⟨bk,bn,bl,aH,rfl,aW,bm⟩ aO) ?_;rintro e w' ⟨q,he,hw⟩;subst hw;subst he;exact⟨_,rfl,hK ⟨trivial,a.o,Qc ⟨q,rfl⟩<|Qb<|Qe⟩⟩;exact Pf 3;intro n w a i f hd hw;have dU:=Sv 125 f 12;obtain⟨⟨N,M,O,P,Q,R⟩,_⟩:=lL ((a.2.B C ah).T ag.o);replace a:=Hq a;exact .q (g:=⟨rfl,a.o,Qa⟩);intro n w a i f hd hw;have dV:=Sv 126 f 13;exact .q (g:=⟨rfl,a,Qa⟩);intro n w a i f hd hw;have dW:=Sv 114 f 1;obtain⟨q,cZ⟩:=hd _ (Mm 0 rfl) _ rfl rfl;have dX:=Sl 124 cZ;have dY:=Sv 127 f 14;exact .q (g:=⟨trivial,a,Qb<|Qc ⟨q,rfl⟩<|Qa⟩);intro n w a i f hd hw;have dZ:=Sv 113 f 0;obtain⟨q,da⟩:=hd _ (Mm 1 rfl) _ rfl rfl;have ea:=Sl 128 da;replace a:=Hq a;refine .h λK hK=>?_;go_simp;refine⟨rfl,?_⟩;refine Calls.M (kR t w cb u y z (.slice aL X.length c3) (.slice (some ⟨aa,ak,none⟩) X.length aG) (.int .i64 (o:Int)) p s A params J _ c2 j ⟨30,(r:Int),q,(ac:Int)⟩ a.o.1 PJ) ?_;rintro e w' ⟨he,W,F,E,k,l⟩;subst he;refine⟨_,rfl,?_⟩;exact hK (⟨W,F,q,E,(mX.kh a.o.2).T k,l⟩);intro aP bb af am;obtain⟨aJ,F,q,E,k,l⟩:=am;have T:=NA (And.intro E (And.intro (aD.T k) (ap.snoc (m:=400*(1+kN d th+kN d el)) l ⟨PK,PK,λh=>by rcases h with h|h<;>simp at h,λh=>by rcases h with h|h<;>simp at h⟩ PJ)));clear l af;simp only[kr,Act.put,NI,NL,NJ];go_wp2_with fail
  go_end0
  exact⟨rfl,_,_,T.o.1,T.o.2.1,T.o.2.2⟩
 .obtain⟨aL,c3,rfl,eb⟩:=i.cs;obtain⟨cQ,aG,rfl,bi⟩:=i.ns;obtain⟨rfl,cR⟩:=i.own;have cS:=i.len;obtain⟨aH,aU⟩:∃x,aN[o]?=some x:=Gx (PH bi.len.1);obtain⟨aa,ak,cU,rfl,aV,bT,bj⟩:=bi.kI pA.ok o aH aU;obtain⟨cV,rfl,aW⟩:=bT;obtain⟨bk,bl,rfl,_⟩:=aW.form;have aX:=bj 0 _ rfl;have bm:=i.KP aH (NH aU);obtain⟨bn,bo⟩:=Xq aH.length;rw[<-bo]at aX aW bm;have bU:=NA aX;have cW:=(U.ln aa aV).1;have cX:(0:Int)<=(o:Int):=PJ;have cY:(o:Int)<(X.length:Int):=PJ;clear bj aX aU bo;go_wp2_with fail;clear N M O P Q R;refine sV (λx=>lO t cb u y z (.slice aL X.length c3) (.slice (some ⟨aa,ak,none⟩) X.length aG) (.int .i64 (o:Int)) p s A params (.slice J j.length c2) j x/\Below B B x) (λv w=>∃(W:Value) (F:List In) (q:Int),lO t cb u y z (.slice aL X.length c3) (.slice (some ⟨aa,ak,none⟩) X.length aG) (.int .i64 (o:Int)) p s A params W F w/\mX cb (.slice J j.length c2) B W w/\F=j++[⟨31,0,q,(IntKind.i64.wrap ((ac:Int)-1))⟩]) (mG [(Pp cb 0),(Pp cb 0),(Pp cb 0),(Pp cb 4),(·=.slice (some ⟨aa,ak,none⟩) X.length aG),(Pp cb 0),(Pp cb 0),(Pp cb 5),(·=o),(Pp aa (ak+o)),(·=.slice bk bn bl),(Pp C 2),(·=tx aO),Tr,(Pp C 3),(·=.slice aY ac c1),(·=ac),(·=.int .i64 (IntKind.i64.wrap ((ac:Int)-1))),Tr,Tr]) [(13,λv w=>∃q:Int,v=q),(18,λv w=>∃q:Int,v=.agg #[.int .u8 31,.int .i64 0,q,.int .i64 (IntKind.i64.wrap ((ac:Int)-1))])] (⟨E.kh (Below.refl _ _).drew,(Below.refl _ _).drew⟩) ⟨?_,?_,?_,?_,?_,?_,?_,?_,?_,?_,?_,?_,?_,?_,?_,?_,?_,?_,?_,?_,trivial⟩ ?_;exact Pf 0;exact Pf 0;exact Pv 133 1;exact Pv 134 2;intro n w a i f hd hw;exact .l 135 (f 3 _ rfl rfl) (kf a.1.c 4 _ rfl) ⟨rfl,a,Qa⟩;exact Pf 0;exact Pv 137 5;exact Pv 138 6;intro n w a i f hd hw;exact .l 139 (f 7 _ rfl rfl) (kf a.1.c 5 _ rfl) ⟨rfl,a,Qa⟩;intro n w a i f hd hw;have ec:=Sv 136 f 4;have ed:=Sv 140 f 8;exact .q (g:=⟨rfl,a,Qa⟩);intro n w a i f hd hw;have aM:=(Cb aa (ak+o*1+0) (a.1.old (U.ln aa aV).1 (U.ln aa aV).2)).T bU.o;rw[NS,Og]at aM;exact .l 141 (f 9 _ rfl rfl) aM ⟨rfl,a,Qa⟩;exact Pf 3;intro n w a i f hd hw;have ee:=Sv 143 f 11;obtain⟨⟨N,M,O,P,Q,R⟩,_⟩:=lL ((a.2.B C ad).T ao.o);replace a:=Hq a;exact .q (g:=⟨rfl,a.o,Qa⟩);intro n w a i f hd hw;have ef:=Sv 142 f 10;have eg:=Sv 144 f 12;clear i f hd hw;replace a:=Hq a;refine .h λK hK=>?_;go_simp;refine⟨rfl,?_⟩;refine Calls.M (mz a.o.1 U.ln ⟨bk,bn,bl,aH,rfl,aW,bm⟩ aO) ?_;rintro e w' ⟨q,he,hw⟩;subst hw;subst he;exact⟨_,rfl,hK ⟨trivial,a.o,Qc ⟨q,rfl⟩<|Qb<|Qe⟩⟩;exact Pf 3;intro n w a i f hd hw;have eh:=Sv 146 f 14;obtain⟨⟨N,M,O,P,Q,R⟩,_⟩:=lL ((a.2.B C ad).T ao.o);replace a:=Hq a;exact .q (g:=⟨rfl,a.o,Qa⟩);intro n w a i f hd hw;have ei:=Sv 147 f 15;exact .q (g:=⟨rfl,a,Qa⟩);intro n w a i f hd hw;have ej:=Sv 148 f 16;exact .q (g:=⟨rfl,a,Qa⟩);intro n w a i f hd hw;obtain⟨q,db⟩:=hd _ (Mm 0 rfl) _ rfl rfl;have ek:=Sl 145 db;have em:=Sv 149 f 17;exact .q (g:=⟨trivial,a,Qb<|Qc ⟨q,rfl⟩<|Qa⟩);intro n w a i f hd hw;have en:=Sv 132 f 0;obtain⟨q,dc⟩:=hd _ (Mm 1 rfl) _ rfl rfl;have eo:=Sl 150 dc;replace a:=Hq a;refine .h λK hK=>?_;go_simp;refine⟨rfl,?_⟩;refine Calls.M (kR t w cb u y z (.slice aL X.length c3) (.slice (some ⟨aa,ak,none⟩) X.length aG) (.int .i64 (o:Int)) p s A params J _ c2 j ⟨31,0,q,(IntKind.i64.wrap ((ac:Int)-1))⟩ a.o.1 PJ) ?_;rintro e w' ⟨he,W,F,E,k,l⟩;subst he;refine⟨_,rfl,?_⟩;exact hK (⟨W,F,q,E,(mX.kh a.o.2).T k,l⟩);intro aP bb af am;obtain⟨aJ,F,q,E,k,l⟩:=am;have T:=NA (And.intro E (And.intro (az.T k) (ap.snoc (m:=400*(1+kN d th+kN d el)) l ⟨PK,PK,λh=>by rcases h with h|h<;>simp at h,λh=>by rcases h with h|h<;>simp at h⟩ PJ)));clear l af;simp only[kr,Act.put,NI,NL,NJ];go_wp2_with fail
  go_end0
  exact⟨rfl,_,_,T.o.1,T.o.2.1,T.o.2.2⟩
 .go_wp2_with fail;clear N M O P Q R;refine(kR t B cb u y z D hd own p s A params J _ c2 j ⟨32,0,0,0⟩ E PJ).M ?_;rintro e ae ⟨rfl,ab,L,aC,k,l⟩;obtain⟨I,G⟩:=k.k C ad al bq.o;have ag:=NA (I.T ao.o);have aQ:=NA G;have ah:C<ae:=ND ad k.size;have aD:=(az.T k)
  clear I G;have aR:=NA l;have aq:L.length=j.length+1:=(by rw[l];simp);have aE:=NA aq;have bH:L.length<=95000:=PI ay aB.o;have ar:=(ap.snoc (m:=317) l ⟨PK,PK,λh=>by rcases h with h|h<;>simp at h,λ_=>⟨PK,PY⟩⟩ PJ)
  clear l aq;have au:L[j.length]?=some (⟨32,0,0,0⟩:In):=(by rw[aR.o];simp);obtain⟨⟨N,M,O,P,Q,R⟩,_⟩:=lL ag.o;go_wp2_with fail;clear N M O P Q R;refine(bD S t ae cb u y z D hd own p s A params ab L X aN o aC U i aZ ba c5 el bw bC.o (PI ay ar.len)).M ?_;rintro e aA ⟨r,rfl,bK,Y,ai,k,av,bh⟩;obtain⟨I,G⟩:=k.k C ah al aQ.o;have bL:=NA (I.T ag.o);have bM:=NA G;have bN:C<aA:=ND ah k.size;have aS:=(aD.T k)
  clear I G;have aT:=(ar.T (q:=318+400*kN d el) av PJ)
  have aw:=NA (av.kI au);have aK:=(show j.length<Y.length from PI av.len aE.o)
  clear au;obtain⟨g,an,rfl⟩:=ai.Ar (PH aK);have Z:=ai.Ap aw.o;have bO:=(Z.1 2 _ rfl).1;have bP:=(Z.1 2 _ rfl).2;have ax:=NA (Z.2 2 PM (r:Int));have cg:=kf ai.c 10 _ rfl;have bQ:(0:Int)<=(j.length:Int):=PJ;have bR:(j.length:Int)<(Y.length:Int):=PH aK;clear Z;go_wp2_with fail
  go_end0
  exact⟨rfl,_,_,ax.o.1,aS.T ax.o.2,(aT.put aw.o (PH aB.o) (.inr rfl) PJ (PH bh)).le PJ⟩
 .go_wp2_with fail;clear N M O P Q R;refine Dn 9 (λb=>cond b (λx=>∃(ab:Value) (L:List In) (r:Int),lO t cb u y z D hd own p s A params ab L x/\mX cb (.slice J j.length c2) B ab x/\L=j++[⟨33,r,0,0⟩]) (λx=>lO t cb u y z D hd own p s A params (.slice J j.length c2) j x/\Below B B x)) (mG [(Pp cb 0),(Pp cb 0),(Pp cb 0),(Pp cb 6),(·=p),(Pp C 1),(·=tx name),Tr,Tr,(·=.int .i64 (j.length:Int)),(·=.int .i64 (j.length:Int))]) [(7,λv w=>∃r:Int,v=r),(8,λv w=>∃r:Int,v=.agg #[.int .u8 33,r,.int .i64 0,.int .i64 0])] (⟨E.kh (Below.refl _ _).drew,(Below.refl _ _).drew⟩) ⟨?_,?_,?_,?_,?_,?_,?_,?_,?_,?_,?_,trivial⟩ ?_;intro n w a i f hd hw;have dd:=Sl 0 (i 0 rfl);clear i f hd hw;replace a:(λx=>lO t cb u y z D hd own p s A params (.slice J j.length c2) j x/\Below B B x) w:=a;exact .q (g:=⟨rfl,a,Qa⟩);intro n w a i f hd hw;have dd:=Sl 0 (i 0 rfl);clear i f hd hw;replace a:(λx=>lO t cb u y z D hd own p s A params (.slice J j.length c2) j x/\Below B B x) w:=a;exact .q (g:=⟨rfl,a,Qa⟩);intro n w a i f hd hw;have ep:=Sv 172 f 1;clear i f hd hw;replace a:(λx=>lO t cb u y z D hd own p s A params (.slice J j.length c2) j x/\Below B B x) w:=a;exact .q (g:=⟨rfl,a,Qa⟩);intro n w a i f hd hw;have eq:=Sv 173 f 2;clear i f hd hw;replace a:(λx=>lO t cb u y z D hd own p s A params (.slice J j.length c2) j x/\Below B B x) w:=a;exact .q (g:=⟨rfl,a,Qa⟩);intro n w a i f hd hw;have er:=Sv 174 f 3;clear i f hd hw;replace a:(λx=>lO t cb u y z D hd own p s A params (.slice J j.length c2) j x/\Below B B x) w:=a;have aM:=kf a.1.c 6 _ rfl;replace a:=Hq a;exact .q (g:=⟨rfl,a.o,Qa⟩);intro n w a i f hd hw;have e3:=Sl 3 (i 3 rfl);clear i f hd hw;replace a:(λx=>lO t cb u y z D hd own p s A params (.slice J j.length c2) j x/\Below B B x) w:=a;exact .q (g:=⟨rfl,a,Qa⟩);intro n w a i f hd hw;have es:=Sv 176 f 5;clear i f hd hw;replace a:(λx=>lO t cb u y z D hd own p s A params (.slice J j.length c2) j x/\Below B B x) w:=a;obtain⟨⟨N,M,O,P,Q,R⟩,_⟩:=lL ((a.2.B C ad).T ao.o);replace a:=Hq a;exact .q (g:=⟨rfl,a.o,Qa⟩);intro n w a i f hd hw;have et:=Sv 175 f 4;have eu:=Sv 177 f 6;clear i f hd hw;replace a:(λx=>lO t cb u y z D hd own p s A params (.slice J j.length c2) j x/\Below B B x) w:=a;replace a:=Hq a;refine .h λK hK=>?_;go_simp;refine⟨rfl,?_⟩;refine Calls.M (mz a.o.1 U.ln U.vars name) ?_;rintro e w' ⟨r,he,hw⟩;subst hw;subst he;exact⟨_,rfl,hK ⟨trivial,a.o,Qc ⟨r,rfl⟩<|Qb<|Qe⟩⟩;intro n w a i f hd hw;obtain⟨r,de⟩:=hd _ (Mm 0 rfl) _ rfl rfl;have ev:=Sl 178 de;clear i f hd hw;replace a:(λx=>lO t cb u y z D hd own p s A params (.slice J j.length c2) j x/\Below B B x) w:=a;exact .q (g:=⟨trivial,a,Qb<|Qc ⟨r,rfl⟩<|Qa⟩);intro n w a i f hd hw;have ew:=Sv 171 f 0;obtain⟨r,df⟩:=hd _ (Mm 1 rfl) _ rfl rfl;have ex:=Sl 179 df;clear i f hd hw;replace a:(λx=>lO t cb u y z D hd own p s A params (.slice J j.length c2) j x/\Below B B x) w:=a;replace a:=Hq a;refine .h λK hK=>?_;go_simp;refine⟨rfl,?_⟩;refine Calls.M (kR t w cb u y z D hd own p s A params J _ c2 j ⟨33,r,0,0⟩ a.o.1 PJ) ?_;rintro e w' ⟨he,ab,L,E,k,l⟩;subst he;exact⟨_,rfl,hK ⟨rfl,⟨ab,L,r,E,(mX.kh a.o.2).T k,l⟩,Q2<|Qe⟩⟩;intro n w a i f hd hw;have ey:=Sv 180 f 9;clear i f hd hw;replace a:(λx=>∃(ab:Value) (L:List In) (r:Int),lO t cb u y z D hd own p s A params ab L x/\mX cb (.slice J j.length c2) B ab x/\L=j++[⟨33,r,0,0⟩]) w:=a;exact .q (g:=⟨rfl,a,Qa⟩);intro aP ae dg cj dh;have ck:aP 10=.int .i64 (j.length:Int):=cj 10 PM;obtain⟨ab,L,di,aC,k,l⟩:=(show(λx=>∃(ab:Value) (L:List In) (r:Int),lO t cb u y z D hd own p s A params ab L x/\mX cb (.slice J j.length c2) B ab x/\L=j++[⟨33,r,0,0⟩]) ae from dg)
  clear cj dh;obtain⟨I,G⟩:=k.k C ad al bq.o;have ag:=NA (I.T ao.o);have aQ:=NA G;have ah:C<ae:=ND ad k.size;have aD:=(az.T k)
  clear I G;have aR:=NA l;have aq:L.length=j.length+1:=(by rw[l];simp);have aE:=NA aq;have bH:L.length<=95000:=PI ay aB.o;have ar:=(ap.snoc (m:=317) l ⟨PK,PK,λh=>by rcases h with h|h<;>simp at h,λ_=>⟨PK,PY⟩⟩ PJ)
  clear l aq;have au:L[j.length]?=some (⟨33,di,0,0⟩:In):=(by rw[aR.o];simp);simp only[kr,Act.put,NI,NL,NJ,ck];clear ck;obtain⟨⟨N,M,O,P,Q,R⟩,_⟩:=lL ag.o;go_wp2_with fail;clear N M O P Q R;refine(bD S t ae cb u y z D hd own p s A params ab L X aN o aC U i aZ ba c5 el bw bC.o (PI ay ar.len)).M ?_;rintro e aA ⟨r,rfl,bK,Y,ai,k,av,bh⟩;obtain⟨I,G⟩:=k.k C ah al aQ.o;have bL:=NA (I.T ag.o);have bM:=NA G;have bN:C<aA:=ND ah k.size;have aS:=(aD.T k)
  clear I G;have aT:=(ar.T (q:=318+400*kN d el) av PJ)
  have aw:=NA (av.kI au);have aK:=(show j.length<Y.length from PI av.len aE.o)
  clear au;obtain⟨g,an,rfl⟩:=ai.Ar (PH aK);have Z:=ai.Ap aw.o;have bO:=(Z.1 2 _ rfl).1;have bP:=(Z.1 2 _ rfl).2;have ax:=NA (Z.2 2 PM (r:Int));have cg:=kf ai.c 10 _ rfl;have bQ:(0:Int)<=(j.length:Int):=PJ;have bR:(j.length:Int)<(Y.length:Int):=PH aK;clear Z;go_wp2_with fail
  go_end0
  exact⟨rfl,_,_,ax.o.1,aS.T ax.o.2,(aT.put aw.o (PH aB.o) (.inr rfl) PJ (PH bh)).le PJ⟩
 go_wp2_with fail;refine(kR t B cb u y z D hd own p s A params J _ c2 j ⟨34,0,0,0⟩ E PJ).M ?_;rintro e bb ⟨rfl,aJ,F,E,k,l⟩;have T:=NA (And.intro E (And.intro (az.T k) (ap.snoc (m:=400*(1+kN d th+kN d el)) l ⟨PK,PK,λh=>by rcases h with h|h<;>simp at h,λh=>by rcases h with h|h<;>simp at h⟩ PJ)));clear l;go_wp2_with fail
 go_end0
 exact⟨rfl,_,_,T.o.1,T.o.2.1,T.o.2.2⟩
theorem xJ.ng{b wr}{cb c:Nat}{P d f g i hd V xs x a}(h:xJ b wr cb c P d f g i hd V xs x)(j:x.grownBy a V.ownBlock):NK wr x a:=.kW j (λz e=>(h.v z e).2)
theorem CR(B b:Nat)(n:Int)(l w)(h:rC B b n l w)(d:l≠[]):
  Calls prog 41 #[.pointer (some ⟨b,0,none⟩)] w λe w'=>e=.returned (tx l)/\Below B w w':=by
 obtain⟨p,y,v,i,f⟩:=h.any;have j:l.length≠0:=by simpa using d
 obtain⟨g,a,c,rfl,k,m,z,q,A,C⟩:∃g a c,v=.slice (some ⟨g,0,none⟩) l.length a/\B<=g/\w.heap[g]?=some (.cells c 5 (0,0))/\l.length<=a/\a<=maxLen/\c.size=a*1/\c.toList.take (l.length*1)=Lib.byteCells l:=by
  rcases f.2 with⟨_,hz⟩|⟨g,a,c,s,r⟩
  exact absurd hz j;exact⟨g,a,c,s,r⟩
 have c1:w.drew.cell? ⟨b,1,none⟩=some (.slice (some ⟨g,0,none⟩) l.length a):=kf (w:=w.drew) i 1 _ rfl;have D:(Builtin.unsafeSliceData_ #[22] 205 #[.slice (some ⟨g,0,none⟩) l.length a]).run prog w.drew=.ok (.pointer (some ⟨g,0,none⟩)) w.drew:=
  Lib.run_unsafeSliceData_row _ _ _ _ _ _ PJ
 have E:(Builtin.unsafeString_ #[205,3] 9 #[.pointer (some ⟨g,0,none⟩),l.length]).run prog w.drew=.ok (.string ⟨l.toArray⟩) (w.drew.freeze ⟨g,0,none⟩ l.length):=by refine Lib.run_unsafeString_row w.drew 205 3 9 5 PL PL g c.size (by have t:w.drew.heap[g]?=some (.cells c 5 (0,0)):=m;simp[World.shape?,t]) l d PJ (by unfold maxLen at q;omega) ?_;intro u x hx;exact f.cells (g:=g) rfl u (.int .u8 x.toNat) (by simp[Lib.byteCells,hx])
 go_enter func41,ntmps41
 go_wp2
 go_region
 all_goals (go_wp2;go_ret;exact⟨rfl,Lib.below_freeze (Below.drew (Below.refl B w)) (p:=⟨g,0,none⟩) k _⟩)
theorem ov.ind{B b k:Nat}{n m:Int}{w}(h:ov B b n k w):ov B b m k (w.setCell ⟨b,2,none⟩ (.int .i64 m)):=by
 obtain⟨l,h,e⟩:=h;refine⟨l,?_,e⟩;rcases h with⟨a,v,c,d⟩|⟨a,v,c,d⟩
 exact .inl (sP.set a c rfl d);exact .inr (sP.set a c rfl d)
theorem AO(q w):Calls prog 50 #[.bool q] w (pQ 5 w):=by refine(Tryz.strconv_FormatBool q w).M ?_;rintro e w' ⟨he,rfl⟩;exact⟨_,he,by cases q<;>decide,Below.refl _ _⟩
theorem nY(i:Nat)(hi:i<100)(w):Calls prog 51 #[.int .i64 (i:Int)] w (pQ 20 w):=by refine(Tryz.strconv_Itoa_small i hi w).M ?_;rintro e w' ⟨he,rfl⟩;exact⟨_,he,zC i hi,Below.refl _ _⟩
theorem Ir(z:Int)(a:0<=z)(b:z<100)(w):Calls prog 77 #[.int .i64 z,.int .i64 10] w (pQ 20 w):=by
 obtain⟨i,rfl⟩:∃i:Nat,z=(i:Int):=⟨z.toNat,PJ⟩
 refine(Tryz.strconv_FormatInt_10_small i PJ w).M ?_;rintro e w' ⟨he,rfl⟩;exact⟨_,he,zC i PJ,Below.refl _ _⟩
theorem Gc(a b:Nat)(h:b=a+1)(c:a<=1000):IntKind.i64.wrap ((a:Int)+1)=(b:Int)/\IntKind.i64.wrap ((b:Int)-1)=(a:Int):=by subst h;exact Ck a c
theorem Iy:(prog.info? 111).map (λi=>(i.zero,i.size,i.bytes))=some (some (.agg #[Nl]),1,24):=PL
theorem ml.args{d:Nat}{e}(h:ml (d+1) e):e.args.length<=2/\∀a∈e.args,ml d a:=by
 obtain⟨⟨x,_,hx,b,_⟩,c⟩:=h;refine⟨?_,c⟩;rw[b];have:∀x∈shapes,x.1<=2:=PM
 exact this x (NH hx)
structure zb(d:Nat)(w1:World)(b1:Nat)(c0 c1 c2 o3 o4 o5:Value)(s:St)(l1 l2 l3:Bool)(x:World):Prop where
 g:nG (λq=>q=b1) w1 x
 l:b1<w1
 r:∃a b c:Value,x.heap[b1]?=some (.cells #[c0,c1,c2,a,b,c] 185 (0,0))/\(l1=false->a=o3)/\(l1=true->km (kz .u8 De) (Nw w1 x) x a s.kV)/\(l2=false->b=o4)/\(l2=true->km (kE .u8 d) (Nw w1 x) x b s.th)/\(l3=false->c=o5)/\(l3=true->km (kE .u8 d) (Nw w1 x) x c s.el)
theorem zb.kh{d:Nat}{e}{f:Nat}{c0 c1 c2 j k l s m n p x g}(h:zb d e f c0 c1 c2 j k l s m n p x)(i:Below x x g):zb d e f c0 c1 c2 j k l s m n p g:=by obtain⟨a,b,c,hx,r,t,u,v,e3,w⟩:=h.r;have hn:NK e x g:=.kh i;exact⟨h.g.T (nG.of i),h.l,a,b,c,(i.B f (NC.1 hx).1).T hx,r,λq=>nR (kz.ok .u8 De) hn (t q),u,λq=>nR (kE.ok .u8 d) hn (v q),e3,λq=>nR (kE.ok .u8 d) hn (w q)⟩
theorem zb.ln{d:Nat}{a:World}{b:Nat}{c0 c1 c2 f g i:Value}{s:St}{j k l:Bool}{x:World}(h:zb d a b c0 c1 c2 f g i s j k l x){S:Nat->Prop}(hS:∀q,S q->q<b):∀q,S q->x.heap[q]?=a.heap[q]?:=
 λq c=>h.g.B q (Nat.lt_trans (hS q c) h.l) (λe=>PH (hS q c))
theorem GR:(prog.info? 108).map (λi=>(i.zero,i.size,i.bytes))=some (some (.agg #[Em,.int .u8 0,.int .i64 0]),3,32):=PL
structure BP(w1:World)(b1:Nat)(c0 o1 o2 o3:Value)(f:Fl)(l1 l2:Bool)(x:World):Prop where
 g:nG (λq=>q=b1) w1 x
 l:b1<w1
 r:∃a b:Value,x.heap[b1]?=some (.cells #[c0,a,b,o3] 42 (0,0))/\(l1=false->a=o1)/\(l1=true->km mR (Nw w1 x) x a f.kM)/\(l2=false->b=o2)/\(l2=true->km nI (Nw w1 x) x b f.lN)
theorem BP.kh{c}{d:Nat}{c0 o1 o2 i f j k x e}(h:BP c d c0 o1 o2 i f j k x)(g:Below x x e):BP c d c0 o1 o2 i f j k e:=by obtain⟨a,b,hx,l,m,n,p⟩:=h.r;have hn:NK c x e:=.kh g;exact⟨h.g.T (nG.of g),h.l,a,b,(g.B d (NC.1 hx).1).T hx,l,λq=>nR mR.ok hn (m q),n,λq=>nR nI.ok hn (p q)⟩
theorem BP.ln{a:World}{b:Nat}{c0 o1 o2 d:Value}{f:Fl}{g i:Bool}{x:World}(h:BP a b c0 o1 o2 d f g i x){S:Nat->Prop}(hS:∀q,S q->q<b):∀q,S q->x.heap[q]?=a.heap[q]?:=
 λq c=>h.g.B q (Nat.lt_trans (hS q c) h.l) (λe=>PH (hS q c))
theorem KQ(w)(k:Nat)(b:k<8)(c d e f g i j l:Int):∃a:Int,(Instr.index 227 (.agg #[.int .u32 c,.int .u32 d,.int .u32 e,.int .u32 f,.int .u32 g,.int .u32 i,.int .u32 j,.int .u32 l]) (.int .i64 k)).run prog w=.ok (.int .u32 a) w:=by
 have h:∃a:Int,(#[.int .u32 c,.int .u32 d,.int .u32 e,.int .u32 f,.int .u32 g,.int .u32 i,.int .u32 j,.int .u32 l]:Array Value)[k]?=some (.int .u32 a):=by
  match k,b with
  |0,_=>exact⟨_,rfl⟩
  |1,_=>exact⟨_,rfl⟩
  |2,_=>exact⟨_,rfl⟩
  |3,_=>exact⟨_,rfl⟩
  |4,_=>exact⟨_,rfl⟩
  |5,_=>exact⟨_,rfl⟩
  |6,_=>exact⟨_,rfl⟩
  |7,_=>exact⟨_,rfl⟩
 obtain⟨a,hy⟩:=h;exact⟨a,oZ w _ 226 8 _ k _ PL b PL hy PL⟩
end Go.Proofs.YtfemcncookpdhaaGreatDoor
namespace Go.Proofs.YtfemcncookpdhaaGreatDoor
open Go.RowKit lX Go.Maps Go.Proofs.Tryz
theorem Ey(S w A)(n c1:Nat)(C)(p c2:Nat)(E)(b c3:Nat)(f)(ar:lH w)(hf:qV S w A n c1 C p c2 E b c3 f)(J:pj f):
  Calls prog 83 #[.agg #[tx f.name,.slice A n c1,.slice C p c2,.slice E b c3]] w (kU (.bool true) w):=by
 have bd:= @run_makeMap prog;have Y:=hf.kM;have Z:=hf.lN;have R:=hf.ky;have hS:=hf.ln;have be:n<=2:=by rw[<-Y.len.1];exact J.zf
 have bf:p<=9:=by rw[<-Z.len.1];exact J.Ee
 have bg:b<=3:=by rw[<-R.len.1];exact J.c3
 have bh:1<=b:=by rw[<-R.len.1];exact J.c1
 have bi:=Y.len.2;have bj:=Z.len.2;have bk:=R.len.2;have bl:=NA Y.len.1;have bm:=NA Z.len.1;have au:=NA R.len.1;have aa:Below w w (w.alloc (.cells #[tx f.name,.slice A n c1,.slice C p c2,.slice E b c3] 42)):=Ba _ _;have af:=NF w (.cells #[tx f.name,.slice A n c1,.slice C p c2,.slice E b c3] 42);have bn:(w.alloc (.cells #[tx f.name,.slice A n c1,.slice C p c2,.slice E b c3] 42)).heap.size=w+1:=PK
 have K:=(hf.kh aa)
 have ag:=J;have av:=(ar.to aa)
 have aw:=NA af;clear hS af;have bo:((b:Int)==0)=false:=by rw[NX];omega
 have bp:¬(8:Int)<(b:Int):=PJ
 have bq:¬(8:Int)<(n:Int):=PJ
 have br:¬(64:Int)<(p:Int):=PJ
 go_enter func83,ntmps83
 go_wp2_with fail;generalize w.alloc (.cells #[tx f.name,.slice A n c1,.slice C p c2,.slice E b c3] 42)=B at*;have ax:w.heap.size<B:=PJ
 have v:=NA K.ln;have bs:=K.kM;have bt:=K.lN;have ay:=K.ky;have a:=(Below.refl B B)
 go_loopw [36] (λi wr=>∃k:Nat,k<=b/\i=k/\Below B B wr) (λi _=>b-(intOf i).toNat);case atStart=>exact⟨0,NP _,rfl,a⟩
 case round=>
  obtain⟨F,bu,rfl,a⟩:=hrel;have bv:=a.size;by_cases bw:F<b
  .obtain⟨l,hx⟩:∃x,f.ky[F]?=some x:=Gx (PH au.o);obtain⟨ah,o1,r,rfl,L,hr,g⟩:=(ay.kg (mg.ok .u8) (λq s=>a.B q (v.o q s))).kI (mg.ok .u8) F l hx;obtain⟨ai,az,rfl,y,M⟩:=hr;obtain⟨N,cv,rfl,hcv⟩:=y.form;obtain⟨O,P,rfl,hce⟩:=M.form;have aA:=g 0 _ rfl;have aB:=g 1 _ rfl;have aC:=g 2 _ rfl;rw[NS]at aA;have bx:ah<wr:=PH (v.o ah L);have aD:=NH hx;have bz:(0:Int)<=(F:Int):=PJ;have bA:(F:Int)<(b:Int):=PJ;clear g hx;have T:=ag.ky l aD;obtain⟨G,ab⟩:=Xq l.vars.length;obtain⟨c,Q⟩:=Xq l.kY.length;rw[<-ab]at aB y hcv;rw[<-Q]at aC M hce;have bB:G<=5:=(by rw[ab];exact T.B0);have bC:c<=2:=(by rw[Q];exact T.v2);have bD:1<=c:=(by rw[Q];exact T.v1);have aE:=NA Q.symm;have bE:¬(8:Int)<(G:Int):=PJ;have bF:((c:Int)==0)=false:=(by rw[NX];omega);have bG:¬(3:Int)<(c:Int):=PJ;have aF:=(M.kg (mB.ok .u8) (w':=B) (λq s=>(a.B q (v.o q s)).symm))
   have aG:=((a.alloc PJ (.cells #[tx l.name,.slice N G cv,.slice O c P] 105)).alloc (by rw[NB];omega) (.map #[] 0))
   have ac:=World.ownsMap_made (wr.alloc (.cells #[tx l.name,.slice N G cv,.slice O c P] 105)) prog 9 RM;rw[NB]at ac;have lK:((wr.alloc (.cells #[tx l.name,.slice N G cv,.slice O c P] 105)).alloc (.map #[] 0)).heap.size=wr+2:=PK;obtain⟨t,ad⟩:=Xq (wr.heap.size+1);rw[<-ad]at ac;have aH:Ad ((wr.alloc (.cells #[tx l.name,.slice N G cv,.slice O c P] 105)).alloc (.map #[] 0)) t (3*0):=⟨_,ac⟩
   have bH:B<=t:=PJ;clear ab Q;go_wp2_with fail;rw[<-ad];generalize(wr.alloc (.cells #[tx l.name,.slice N G cv,.slice O c P] 105)).alloc (.map #[] 0)=bI at*;clear ad;have a:=aG;go_loopw [59] (λi wr=>∃k:Nat,k<=c/\i=k/\Ad wr t (3*k)/\Below B B wr) (λi _=>c-(intOf i).toNat);case atStart=>exact⟨0,NP _,rfl,aH,a⟩
   case round=>
    obtain⟨j,bJ,rfl,I,a⟩:=hrel;have a:=a;have bK:=a.size;by_cases bL:j<c
    .obtain⟨U,hx⟩:∃x,l.kY[j]?=some x:=Gx (PH aE.o);obtain⟨aj,o2,r,rfl,L,hr,g⟩:=(aF.kg (mB.ok .u8) (λq s=>a.B q (v.o q s))).kI (mB.ok .u8) j U hx;obtain⟨ai,rfl,y⟩:=hr;obtain⟨V,W,rfl,aI⟩:=y.form;have ak:=g 0 _ rfl;rw[NS,Og]at ak;have bM:aj<wr:=PH (v.o aj L);have aJ:=NH hx;have bN:(0:Int)<=(j:Int):=PJ;have bO:(j:Int)<(c:Int):=PJ;clear g hx;have X:=T.kY U aJ;obtain⟨m,ae⟩:=Xq U.length;rw[<-ae]at ak y aI X;have bP:m<=3:=X.1;have aK:=NA X;have aL:=NA ae.symm;have aM:=(y.kg (mo.ok .u8) (w':=B) (λq s=>(a.B q (v.o q s)).symm))
     have aN:=(a.alloc PJ (.cells #[.slice V m W] 111))
     have aO:Ad (wr.alloc (.cells #[.slice V m W] 111)) t (3*j+0):=I.imp λD h=>h.alloc _;have bQ:(wr.alloc (.cells #[.slice V m W] 111)).heap.size=wr+1:=PK;have bR:t<wr:=I.elim λD h=>h.lt;clear X ae;go_wp2_with fail;generalize wr.alloc (.cells #[.slice V m W] 111)=bS at*;have a:=aN;go_loopw [66] (λi wr=>∃k:Nat,k<=m/\i=k/\Ad wr t (3*j+k)/\Below B B wr) (λi _=>m-(intOf i).toNat);case atStart=>exact⟨0,NP _,rfl,aO,a⟩
     case round=>
      obtain⟨u,bT,rfl,I,a⟩:=hrel;have a:=a;have bU:=a.size;by_cases bV:u<m
      .obtain⟨d,hx⟩:∃x,U[u]?=some x:=Gx (PH aL.o);obtain⟨al,bW,r,rfl,L,hr,g⟩:=(aM.kg (mo.ok .u8) (λq s=>a.B q (v.o q s))).kI (mo.ok .u8) u d hx;obtain⟨ai,az,rfl,y,M⟩:=hr;obtain⟨am,an,rfl,bX⟩:=y.form;obtain⟨ao,cb,rfl,bY⟩:=M.form;have aP:=g 0 _ rfl;have bZ:=g 1 _ rfl;have ca:=g 2 _ rfl;rw[NS]at aP;have cc:al<wr:=PH (v.o al L);have aQ:=NH hx;have cd:(0:Int)<=(u:Int):=PJ;have ce:(u:Int)<(m:Int):=PJ;clear g hx;have aR:=aK.o.2 d aQ;have aS:=(a.alloc PJ (.cells #[tx d.name,.slice am d.params.length an,.slice ao d.body.length cb] 118))
       obtain⟨aT,aU⟩:=I;have aV:=(aU.alloc (.cells #[tx d.name,.slice am d.params.length an,.slice ao d.body.length cb] 118))
       have ap:keyOf prog 9 (tx d.name)=some (.string d.name):=Go.WideMaps.keyOf_string_mk underlying9 (by have:=aR.name;unfold mI at this;simp at this;show d.name.toArray.size<=maxLen;simp;unfold maxLen;omega);have aW:=NA ap;clear ap;go_wp2_with (at_mapUpdate;refine wpList_mapUpdate_own _ rfl _ _ _ 252 rfl 9 4 JV underlying252 RM t (3*j+u) aT rfl aV PT (tx d.name) (.bool true) (.string d.name) rfl rfl aW.o _ [] rfl ?_);intro aX aY aZ;have ba:Ad aX t (3*j+(u+1)):=⟨_,aY⟩
       have a:=(aS.grown aZ (by rw[NB];omega) (λz e=>by injection e with e;omega))
       go_wp2_with fail;go_roundw;case rel=>exact⟨u+1,PJ,PQ,ba,a⟩
       case measure=>simp[intOf];omega
      obtain rfl:m=u:=PJ;have bb:Ad wr t (3*(j+1)):=I.imp λD h=>h.M PJ;go_wp2_with fail;go_roundw;case rel=>exact⟨j+1,PJ,PQ,bb,a⟩
      case measure=>simp[intOf];omega
    obtain rfl:c=j:=PJ;obtain⟨nm,cf,cg⟩:=I.len;have ch:¬(8:Int)<(nm:Int):=PJ;go_wp2_with fail;go_roundw;case rel=>exact⟨F+1,PJ,PQ,a⟩
    case measure=>simp[intOf];omega
  obtain rfl:b=F:=PJ;obtain⟨⟨ci,cj,ck,cl⟩,_⟩:=kC ((a.B _ ax).T aw.o);have cm:w.heap.size<wr:=PH a.size;go_wp2_with fail;have aq:=(aa.T (a.M PJ))
  refine(oT 127 tU vt S wr A n c1 C p c2 E b c3 f (av.to a) (K.kh a) ag).M ?_;rintro e cn ⟨rfl,bc⟩;go_wp2_with fail;go_ret;exact⟨rfl,aq.T (bc.M aq.size)⟩
end Go.Proofs.YtfemcncookpdhaaGreatDoor
namespace lX
theorem vE(l:List (List UInt8)){hs:List Hd}{a:Nat}{x:Hd}(h:hs[a]?=some x):my l (hs.take (a+1))=qA (my l (hs.take a)) x.name:=by rw[List.take_add_one,h];simp[my,List.foldl_append]
theorem vF(l:List (List UInt8)){vs:List (List Hd)}{a:Nat}{x:List Hd}(h:vs[a]?=some x):kX l (vs.take (a+1))=my (kX l (vs.take a)) x:=by rw[List.take_add_one,h];simp[kX,List.foldl_append]
end lX
namespace Go.Proofs.YtfemcncookpdhaaGreatDoor
open Go.RowKit lX Go.Proofs.Tryz
theorem CL(S w)(name:List UInt8)(V:Option Addr)(W c1:Nat)(P)(l c2:Nat)(f)(ad:km (mB .u8) S w (.slice P l c2) f)(hS:∀q,S q->q<w)(bf:l<=4)(ae:∀hs∈f,hs.length<=100):
  Calls prog 47 #[.agg #[tx name,.slice V W c1,.slice P l c2]] w (mj (kX [] f) w):=by
 obtain⟨aC,aD,hz0,aE,aF⟩:=N4 qX;have aG:=ad;have u:=NA hS;have aH:=NA ae;have af:=NA ad.len;have aI:=Ba w (.cells #[tx name,.slice V W c1,.slice P l c2] 105);clear hS ae
 go_enter func47,ntmps47
 go_wp2_with fail;generalize w.alloc (.cells #[tx name,.slice V W c1,.slice P l c2] 105)=w0 at*;go_loopw [3,11] (λv i wr=>∃k:Nat,k<=l/\i=k/\kx kA 9 1 (λ_=>False) wr w v (kX [] (f.take k))/\(kX [] (f.take k)).length<=100*k/\Below w w wr) (λ_ i _=>l-(intOf i).toNat);case atStart=>exact⟨0,NP _,rfl,kx.nil _ _ _ _ _ _,by simp[kX],aI⟩
 case round=>
  obtain⟨k,bg,rfl,d,aJ,g⟩:=hrel;obtain⟨D,E,rfl,X,aK⟩:=d.form;have hz:=g.size;by_cases bh:k<l
  .obtain⟨x,hx⟩:∃x,f[k]?=some x:=Gx (PH af.o);obtain⟨ag,bi,r,rfl,aL,hr,n⟩:=(aG.kg (mB.ok _) (λq m=>g.B q (u.o q m))).kI (mB.ok _) k x hx;obtain⟨v,rfl,Y⟩:=hr;obtain⟨ah,ai,rfl,aM⟩:=Y.form;have p:=n 0 _ rfl;rw[NS,Og]at p;have aN:ag<wr:=PH (u.o ag aL);have aO:=aH.o x (NH hx);have aj:=NA (vF [] hx);obtain⟨y,Z⟩:=Xq (kX [] (f.take k));rw[<-Z]at d aJ aj;obtain⟨s,aa⟩:=Xq x.length;rw[<-aa]at Y p aO aM;have ak:=NA aa;obtain⟨al,ab⟩:=Xq y.length;have Q:=NA ab;have bj:(0:Int)<=(k:Int):=PJ;have bk:(k:Int)<(l:Int):=PJ;have ac:=Ba wr (.cells #[.slice ah s ai] 111);have am:=(g.T (ac.M hz))
   have aP:=(d.kh kA.ok ac)
   have aQ:=(Y.kg (mo.ok .u8) (λq m=>ac.B q (PH (u.o q m))))
   rw[<-Z,<-ab];clear n hx aa Z ab;go_wp2_with fail;clear p;generalize wr.alloc (.cells #[.slice ah s ai] 111)=bl at*;go_loopw [3,18] (λv i wr=>∃(a:Nat),a<=s/\i=a/\kx kA 9 1 (λ_=>False) wr w v (my y (x.take a))/\(my y (x.take a)).length<=al+a/\Below w w wr) (λ_ i _=>s-(intOf i).toNat);case atStart=>exact⟨0,NP _,rfl,by rw[Q.o];exact aP,by rw[Q.o];simp[my],am⟩
   case round=>
    obtain⟨a,bm,rfl,d,t,g⟩:=hrel;obtain⟨D,E,rfl,X,aK⟩:=d.form;have d:=d;have g:=g;have hz:=g.size;by_cases bn:a<s
    .obtain⟨A,hy⟩:∃A,x[a]?=some A:=Gx (PH ak.o);obtain⟨an,bo,r,rfl,aR,hr,n⟩:=(aQ.kg (mo.ok .u8) (λq m=>(g.B q (u.o q m)).T (am.B q (u.o q m)).symm)).kI (mo.ok .u8) a A hy;obtain⟨aS,bp,rfl,aT,aU⟩:=hr;obtain⟨F,G,rfl,_⟩:=aT.form;obtain⟨I,cb,rfl,_⟩:=aU.form;have p:=n 0 _ rfl;have ao:=n 1 _ rfl;have ap:=n 2 _ rfl;rw[NS]at p;have aN:an<wr:=PH (u.o an aR);have B:=NA (vE y hy);obtain⟨j,aq⟩:=Xq (my y (x.take a));rw[<-aq]at d t B X⊢;obtain⟨J,R⟩:=Xq j.length;have T:=NA R;have bq:J<=al+a:=PH t;have aV:J<=1000:=PI t Q.o;rw[<-R]at X⊢;obtain⟨K,ar⟩:=Xq A.params.length;obtain⟨L,au⟩:=Xq A.body.length;obtain⟨c,av⟩:=Xq A.name;rw[<-ar]at ao;rw[<-au]at ap;rw[<-av]at p B;have br:(0:Int)<=(a:Int):=PJ;have bs:(a:Int)<(s:Int):=PJ;have aw:=Ba wr (.cells #[tx c,.slice F K G,.slice I L cb] 118);have ax:=(g.T (aw.M hz))
     have U:=(show kx kA 9 1 (λ_=>False) (wr.alloc (.cells #[tx c,.slice F K G,.slice I L cb] 118)) w (.slice D J E) j by have h:=d.kh kA.ok aw;rw[<-R]at h;exact h)
     have ay:=NA (NF wr (.cells #[tx c,.slice F K G,.slice I L cb] 118));have M:(wr.alloc (.cells #[tx c,.slice F K G,.slice I L cb] 118)).heap.size=wr+1:=PK;have aW:=NA M;clear n hy aq R ar au av M d g t;go_upto_region 8 with fail;have M:=aW.o;obtain⟨aX,az⟩:=Xq wr.heap.size;rw[<-az]at ay M⊢;generalize wr.alloc (.cells #[tx c,.slice F K G,.slice I L cb] 118)=C at*;have bt:aX<C:=PJ;have aY:w.heap.size<=C:=PJ;have bu:=kf ay.o 0 _ rfl;clear M az p ao ap;have aZ:=U.sl kA.ok;go_wp2_with fail;refine(pF (λb=>(False\/w<=b)/\b<C) C D J E j c aZ aV (λq m=>m.2)).M ?_;rintro e w' ⟨rfl,rfl⟩;by_cases hm:c∈j
     .have hd:decide (c∈j)=true:=(by simpa using hm);rw[hd];have N:qA j c=j:=(by unfold qA;rw[Oj hm]);have O:=NA N;clear N hd hm;go_wp2_with fail;go_roundw;case rel=>exact⟨a+1,PJ,PQ,by rw[B.o,O.o];exact U,by rw[B.o,O.o,<-T.o];omega,ax⟩
      case measure=>simp[intOf];omega
     have hd:decide (c∈j)=false:=(by simpa using hm);rw[hd];have N:qA j c=j++[c]:=(by unfold qA;rw[Od hm]);have O:=NA N;clear N hd hm;go_wp2_with (at_builtin;(refine kD rfl _ _ 49 rfl w.heap.size 9 aC _ 1 16 underlying49 aD hz0 aE aF rfl kA.ok (λ_=>False) (.slice D J E) j rfl (U.kh kA.ok (Ba _ _)) ⟨C,0,none⟩ [tx c] c rfl (lT C [tx c] 9) rfl ?c3 ?c4 ?c5 ?_));case c3=>rw[<-T.o];unfold maxLen;omega
     case c4=>rw[<-T.o];omega
     case c5=>simp;omega
     intro aS bv ba bb _;have bc:=((ax.alloc aY (.cells #[tx c] 9)).grown bb PO (λz e=>(U.ge z e).1))
     go_wp2_with fail;go_roundw;case rel=>exact⟨a+1,PJ,PQ,by rw[B.o,O.o];exact ba,by rw[B.o,O.o,N2,<-T.o];simp;omega,bc⟩
     case measure=>simp[intOf];omega
    obtain rfl:a=s:=PJ;have aA:my y (x.take a)=kX [] (f.take (k+1)):=(by rw[NV (PH ak.o)];exact aj.o.symm);rw[aA]at d t⊢;clear aA;go_wp2_with fail;go_roundw;case rel=>exact⟨k+1,PJ,PQ,d,by have:=t;have:=t;have:=Q.o;omega,g⟩
    case measure=>simp[intOf];omega
  obtain rfl:k=l:=PJ;go_wp2_with fail;go_ret;refine⟨_,rfl,?_,g⟩;have aB:=d;have bd:f.take k=f:=NV (PH af.o);have be:kx kA 9 1 (λ_=>False) wr w (.slice D (kX [] (f.take k)).length E) (kX [] f):=(by rw[bd]at aB⊢;exact aB);exact be
end Go.Proofs.YtfemcncookpdhaaGreatDoor
namespace lX
open Go.Proofs.YtfemcncookpdhaaGreatDoor
def lD(f:Fl):List (List (List UInt8)):=f.ky.map λc=>kX [] c.kY
theorem lp.sm{sc}:∀{d:Nat} {e:Ex},lp sc d e->HA d e
 |0,_,h=>h.elim
 |d+1,e,h=>by
  rcases h with⟨f,_,j,l,c⟩|⟨f,_,_,c⟩|⟨f,_,_,c⟩|⟨f,_,_,_,a,c,g⟩|⟨f,_,_,_,c⟩|⟨f,_,_,a,c,g⟩|⟨f,_,_,a,b,c,g,k⟩
  exact⟨λ_=>⟨j,PJ⟩,by rw[c];simp⟩;exact⟨λh=>PJ,by rw[c];simp⟩;exact⟨λh=>PJ,by rw[c];simp⟩;exact⟨λh=>PJ,by rw[c];intro i hy;simp at hy;subst hy;exact lp.sm g⟩;exact⟨λh=>PJ,by rw[c];simp⟩;exact⟨λh=>PJ,by rw[c];intro i hy;simp at hy;subst hy;exact lp.sm g⟩;exact⟨λh=>PJ,by rw[c];intro i hy;simp at hy;rcases hy with rfl|rfl;exact lp.sm g;exact lp.sm k⟩
theorem mO.sm{sc}:∀{d:Nat} {e:Ex},mO sc d e->HA d e
 |0,_,h=>h.elim
 |d+1,e,h=>by
  rcases h with⟨g,_,_,c⟩|⟨g,_,_,c⟩|⟨g,_,_,_,a,c,f⟩|⟨g,_,_,a,c,f⟩|⟨g,_,_,a,b,c,f,i⟩|⟨g,_,_,a,b,c,f,i⟩
  exact⟨λh=>PJ,by rw[c];simp⟩;exact⟨λh=>PJ,by rw[c];simp⟩;exact⟨λh=>PJ,by rw[c];intro j hy;simp at hy;subst hy;exact f.sm⟩;exact⟨λh=>PJ,by rw[c];intro j hy;simp at hy;subst hy;exact mO.sm f⟩;exact⟨λh=>PJ,by rw[c];intro j hy;simp at hy;rcases hy with rfl|rfl;exact mO.sm f;exact mO.sm i⟩;exact⟨λh=>PJ,by rw[c];intro j hy;simp at hy;rcases hy with rfl|rfl;exact f.sm;exact i.sm⟩
end lX
namespace Go.Proofs.YtfemcncookpdhaaGreatDoor
open Go.RowKit Go.Proofs.Tryz
theorem mA{c:Type}{P}{w:World}(t)(l:TypeId)(e i z)(size d:Nat)(m:P.underlying t=some (.slice e))(hi:P.info? e=some i)(hz:i.zero=some z)
  (F:i.size=size) (G:i.bytes=d) (I:z.cells.size=size) {R:Rel c} (ok:kT R size) (J:∀{S K:Nat->Prop} {w w':World} {r:List Value} {x:c},R S w r x->R K w' r x) {S:Nat->Prop} {b0:Nat} {ys:List c} {p:Value}
  {n:Nat} (hn:ys.length=n) (f:km R S w p ys) (ad:n<=maxLen) (L:n*d<=140737488355328):
  ∃q s w',(Builtin.append_ #[t,t] l #[.slice (some ⟨b0,0,none⟩) 0 0,p]).run P w=.ok (.slice q n s) w'/\km R (λb=>w<=b/\b<w') w' (.slice q n s) ys/\Below w w w':=by
 subst hn;by_cases hy:ys=[]
 .subst hy;obtain⟨v,c2,j,rfl,_⟩:=f;refine⟨some ⟨b0,0,none⟩,0,w,?_,⟨_,0,[],rfl,NQ _,PJ,tY.nil _ _ _,trivial⟩,Below.refl _ _⟩;cases v<;>simp[Builtin.append_,PB m,sizeOf,typeInfo,hi,Builtin.lenOf,Builtin.firstCells,storeCells,loadCells,loadCellsFrom]
 .obtain⟨v,c2,M,N,ae,af,O,Q⟩:=id f;subst N;have T:M.flatten≠[]:=by
   intro e;have:=kZ.flat (k:=size) (λr x h=>ok.len h) Q;rw[e]at this;have hp:=ok.pos;have:ys.length=0:=by have y:ys.length*size=0:=(by simpa using this.symm);rcases Nat.mul_eq_zero.1 y with h|h;exact h;omega
   exact hy (OQ this)
  obtain⟨U,o2,rfl,_,_⟩:=O T;obtain⟨j,ag,_,V,W,X,_⟩:=f.cells ok;have ah:0<ys.length:=List.length_pos_iff.2 hy;obtain⟨ai,w',A,Y,Z⟩:=run_append_arg_grows (P:=P) (w:=w) t l e i z size d m hi hz F G I ok.pos ⟨b0,0,none⟩ 0 0 [] PK PK ⟨U,o2,none⟩ ys.length c2 j.flatten V X PJ PJ (by rw[NY];exact L);rcases Y.2 with⟨rfl,y⟩|⟨g,B,aj,rfl,aa,C,D,ab,ak,E⟩
  omega;rw[NY]at A D;refine⟨_,B,w',A,⟨_,B,j,rfl,D,by unfold maxLen at ab;omega,λ_=>⟨g,0,rfl,⟨aa,(NC.1 C).1⟩,λal u a=>?_⟩,W.imp λr x hx=>J hx⟩,(Below.refl _ w).grown Z (NQ _) (λk ac=>by cases ac)⟩;rw[List.nil_append]at E;rw[<-E,OJ]at a;split at a;rw[NY];simp only[World.cell?,C];simpa using a;cases a
end Go.Proofs.YtfemcncookpdhaaGreatDoor
namespace kj
def FC(l:List Int):Int:=(l.find? (λx=>x !=0)).getD 0
def B4(x a:Key):Int:=FC [rz x.kind a.kind,rz x.a a.a,rz x.b a.b,rz x.n a.n]
def qJ(x a:Key):Bool:=decide (B4 x a<0)
theorem Key.ext'{x a:Key}(b:x.kind=a.kind)(c:x.a=a.a)(d:x.b=a.b)(e:x.n=a.n):x=a:=by cases x;cases a;simp_all
theorem AQ(x:Int)(l):FC (x::l)=if x=0 then FC l else x:=by unfold FC;by_cases h:x=0<;>simp[h]
theorem IH:FC []=0:=rfl
theorem DW(x a:Key):B4 x a<0↔wo x a:=by unfold B4 wo;simp only[AQ,IH];rcases oP x.kind a.kind with⟨d,b⟩|⟨d,b⟩|⟨d,b⟩<;>rcases oP x.a a.a with⟨e,c⟩|⟨e,c⟩|⟨e,c⟩<;>rcases oP x.b a.b with⟨f,e3⟩|⟨f,e3⟩|⟨f,e3⟩<;>rcases oP x.n a.n with⟨g,e4⟩|⟨g,e4⟩|⟨g,e4⟩<;>simp[b,c,e3,e4]<;>omega
theorem vh(x a:Key):qJ x a=true↔wo x a:=by unfold qJ;rw[decide_eq_true_iff];exact DW x a
theorem sy(x a:Key):BQ x a=true↔x=a:=by unfold BQ;constructor;intro h;simp at h;exact Key.ext' h.1.1.1 h.1.1.2 h.1.2 h.2;rintro rfl;simp
structure lJ where
 ku:Key
 t:Int
 d:Int
 args:List Int
def nj:List lJ->Bool
 |[]=>true
 |c::r=>!(r.any λx=>BQ x.ku c.ku)&&nj r
def Ord(l:List lJ):Prop:=l.Pairwise λx a=>wo x.ku a.ku
def ins:List lJ->lJ->List lJ
 |[],c=>[c]
 |x::r,c=>if qJ x.ku c.ku=true then x::ins r c else c::x::r
def qo(l:List lJ):List lJ:=l.foldl ins []
theorem nodup_iff(l:List lJ):nj l=true↔l.Pairwise λx d=>x.ku≠d.ku:=by
 induction l with
 |nil=>simp[nj]
 |cons c r f=>rw[nj,Bool.and_eq_true,f,List.pairwise_cons];simp only[Bool.not_eq_true',List.any_eq_false];constructor;rintro⟨a,b⟩;exact⟨λx hx e=>a x hx ((sy _ _).2 e.symm),b⟩;rintro⟨a,b⟩;exact⟨λx hx e=>a x hx ((sy _ _).1 e).symm,b⟩
theorem wQ(l:List lJ)(c:lJ):(ins l c).Perm (c::l):=by
 induction l with
 |nil=>exact List.Perm.refl _
 |cons x r a=>rw[ins];split;exact(List.Perm.cons x a).T (List.Perm.swap c x r);exact List.Perm.refl _
theorem oQ(l:List lJ):(qo l).Perm l:=by
 have h:∀(l b:List lJ),(l.foldl ins b).Perm (b++l):=by
  intro l;induction l with
  |nil=>intro b;simp
  |cons c r d=>intro b;rw[List.foldl_cons];refine(d (ins b c)).T ?_;refine(List.Perm.append_right r (wQ b c)).T ?_;rw[List.cons_append];exact(List.perm_middle (l₁:=b) (l₂:=r) (a:=c)).symm
 simpa[qo]using h l []
theorem C9(l:List lJ)(x:lJ):qo (l++[x])=ins (qo l) x:=by simp[qo,List.foldl_append]
def sX(x:lJ):Prop:=∀v∈x.args,-9223372036854775808<=v/\v<=9223372036854775807
end kj
namespace kj
open Go
def mZ(c:lJ):List (List UInt8):=[oY c.ku]++(if oA c.ku.kind=true then [[97,116],Lib.itoa c.t]else [])++(if qP c.ku.kind=true then [Lib.itoa c.d]else [])++c.args.map Lib.itoa
def oc(c:lJ):List UInt8:=Lib.join (mZ c) [32]
end kj
namespace Go.Proofs.YtfemcncookpdhaaGreatDoor.C
open Go.RowKit Go.Sort Go.Proofs.Tryz
structure Row where
 ku:kj.Key
 t:Int
 d:Int
 p:Option Addr
 n:Nat
 c:Nat
instance:Inhabited Row:=⟨⟨⟨0,0,0,0⟩,0,0,none,0,0⟩⟩
def Row.vs(r:Row):List Value:=[.int .u8 r.ku.kind,.int .i64 r.ku.a,.int .i64 r.ku.b,.int .i64 r.ku.n,.int .i64 r.t,.int .i64 r.d,.slice r.p r.n r.c]
def pC(r:Row):Value:=.agg #[.int .u8 r.ku.kind,r.ku.a,r.ku.b,r.ku.n,r.t,r.d,.slice r.p r.n r.c]
def pL(l:List Int):List Value:=l.map (Value.int .i64)
abbrev lM:=Row×kj.lJ
def qF(p:lM):List Value:=p.1.vs
def kJ(a:List lM):List Value:=a.flatMap qF
theorem qN(p:lM):(qF p).length=7:=rfl
theorem og(a b:List lM):kJ (a++b)=kJ a++kJ b:=by simp[kJ]
theorem G3(l:List Int)(k:Nat)(h:k<l.length):kj.FC (l.drop k)=if l[k]=0 then kj.FC (l.drop (k+1))else l[k]:=by rw[List.drop_eq_getElem_cons h,kj.AQ]
end Go.Proofs.YtfemcncookpdhaaGreatDoor.C
namespace Go.Proofs.YtfemcncookpdhaaGreatDoor.C
open Go.RowKit Go.Proofs.Tryz
def ll(a:List lM):List kj.lJ:=a.map (·.2)
theorem mK(a:List lM):∀u∈kJ a,u.oneCell'=true:=by intro u hu;simp only[kJ,List.mem_flatMap]at hu;obtain⟨p,_,hu⟩:=hu;simp only[qF,Row.vs,Oa,N7,Ow]at hu;rcases hu with rfl|rfl|rfl|rfl|rfl|rfl|rfl<;>rfl
end Go.Proofs.YtfemcncookpdhaaGreatDoor.C
namespace Go.Proofs.YtfemcncookpdhaaGreatDoor.C
open Go.RowKit Go.Shelf Go.Sort Go.Proofs.Tryz
abbrev uI(l:List UInt8):Value:=.string ⟨l.toArray⟩
def pO:Array Value:=(kj.words.map uI).toArray
end Go.Proofs.YtfemcncookpdhaaGreatDoor.C
