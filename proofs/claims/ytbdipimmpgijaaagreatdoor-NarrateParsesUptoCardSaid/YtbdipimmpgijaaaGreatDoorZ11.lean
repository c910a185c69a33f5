import Derived.Test.YtbdipimmpgijaaaGreatDoorZ7
import Derived.Test.YtbdipimmpgijaaaGreatDoorZ9
set_option maxRecDepth 1000000
set_option maxHeartbeats 32000000
set_option linter.all false
namespace Go.Proofs.YtbdipimmpgijaaaGreatDoor
open RowKit Go.Proofs.Tryz lH Maps oa qR ChangeShapes WideShapes ChangeAt
def Gg(aa:Nat)(cy:EX aa)(cz:H4 aa):LG<|aa+1:=by
 intro aY s d cb t u v A b B p r w x vQ aS ab aZ o h ac f an ap ba cA aq ar bj ah bk bq br bs bl bm bn cB b ci al bL cC aI;obtain rfl:aa=cB:=Y
 have⟨cD,cE,bM,bN,bO,bP⟩:=cC;simp only[St.kind,St.name,St.lp,St.th,St.el]at cD cE bM bN bO bP;have dz:ah<=5:=W ci.len.1
 have cj:=Ba d<|mx an ap ba bj ah bk bq br bs bl bm bn;have cF:=X<|QQ d<|mx an ap ba bj ah bk bq br bs bl bm bn;have dA:=(QP.1 h.c).1;have ck:=h.own.ge;have bt:=X<|show d<(d.alloc<|mx an ap ba bj ah bk bq br bs bl bm bn).heap.size/\d≠cb/\some d.heap.size≠vQ.ownBlock from⟨Uo,Y,λN=>W<|(ck _ N.symm).2⟩;have cG:=(h.ku cj)
 have cH:=(nG.ku (cb:=cb) (vQ:=vQ) cj)
 have cI:=X bM;have cJ:=X bN;have cl:=X bO;have bQ:=X bP;have cm:=cy;have bR:=cz;obtain⟨cK,cL,rfl⟩:=h.form;have dB:aS.length<=90000:=Y
 clear h bM bN bO bP ck b
 go_enter func214,ntmps214
 go_wp21;apply(ln s _ cb t u v A b B p r w x cK _ cL aS ⟨29,0,0,0⟩ cG Y).M;rintro N cn ⟨rfl,cM,co,cN,k,n⟩;have⟨J,I⟩:=k.k _ bt.o.1 bt.o.2.1 bt.o.2.2;have⟨D,cp⟩:=Xq d.heap.size;have bF:=J.T cF.o;have bS:d.heap.size<cn:=QO bt.o.1 k.size;have au:=bt.o.2.1;rw[<-cp]at bF bS I au⊢;have cO:=X bF;have cP:=X I;have⟨⟨O,M,P,Q,R,S⟩,_⟩:=mg bF;have cQ:=(cH.T k)
 have cR:=X n;have cq:co.length=aS.length+1:=by rw[n];simp
 have cS:=X cq;have cr:ah*qz De<=315:=by rw[QE];omega
 clear J I bF n cp cq;go_wp21;clear O M P Q R S;refine(DK De aY s cn cb t u v A b B p r w x cM co bj ah bk cA cN ac ci cI.o (Ul cS.o cr) Y).M ?_;rintro N y ⟨rfl,U,e,C,k,n⟩;have⟨J,I⟩:=k.k D bS au cP.o;have bT:=J.T cO.o;have az:=X bT;have bG:=X I;have ai:D<y:=QO bS k.size;have aA:=((mY.one cR.o ⟨Uo,Uo,λh=>by rcases h with h|h<;>simp at h,λh=>by rcases h with h|h<;>simp at h⟩).T n.QA (q:=316)<|W cr)
 have bU:=aA.len;have aK:=X bU;obtain⟨F,G,rfl⟩:=C.form;have aJ:=(cQ.T k)
 have dC:e.length<=95000:=Y
 have dD:aS.length<=e.length:=bU.1;have⟨⟨O,M,P,Q,R,S⟩,_⟩:=mg bT;clear J I bT bU;have cT:an=1\/an=2\/an=3\/an=4\/an=5\/an=6\/an=7\/an=8\/an=9\/an=10:=Y
 rcases cT with rfl|rfl|rfl|rfl|rfl|rfl|rfl|rfl|rfl|rfl
 .go_wp21;refine sf (λl=>mB s cb t u v A b B p r w x (F,e.length,G) e l/\Below y y l) (λL d=>∃(U:R0) (E:List In) (i:Int),mB s cb t u v A b B p r w x U E d/\nG cb (F,e.length,G) y U d/\E=e++[⟨24,i,0,0⟩]) (mM [(·=.pointer cb),(·=.pointer cb),(·=.pointer cb),(Pp cb 6),(·=p),(Pp D 1),(·=tx ap),Tr,Tr,Tr]) [(7,λL d=>∃i:Int,L=i),(8,λL d=>∃i:Int,L=.agg #[.int .u8 24,i,.int .i64 0,.int .i64 0])] (⟨C.ku (Sf _ _).drew,(Sf _ _).drew⟩) ⟨?_,?_,?_,?_,?_,?_,?_,?_,?_,?_,trivial⟩ ?_;exact Pf 0;exact Pf 0;exact Pv 25 1;exact Pv 26 2;exact Pl 27 3 λ_ a=>kt a.1.c 6;exact Pf 3;intro z d a f c b j;have dE:=Sv 29 c 5;have⟨⟨O,M,P,Q,R,S⟩,_⟩:=mg<|(a.2.B D ai).T az.o;exact .q (g:=⟨Z,a,Qa⟩);intro z d a f c b j;have dF:=Sv 28 c 4;have dG:=Sv 30 c 6;clear f c b j;refine .h λav V=>?_;go_simp;refine⟨Z,?_⟩;refine Calls.M (mW a.1 ac.lK ac.vars ap) ?_;rintro N aB ⟨i,ad,j⟩;subst j;subst ad;exact⟨_,Z,V ⟨trivial,a,Qc ⟨i,Z⟩<|Qb<|Qe⟩⟩;intro z d a f c b j;obtain⟨i,cU⟩:=kW b 0;have dH:=Sl 31 cU;exact .q (g:=⟨trivial,a,Qb<|Qc ⟨i,Z⟩<|Qa⟩);intro z d a f c b j;have dI:=Sv 24 c 0;obtain⟨i,cV⟩:=kW b 1;have dJ:=Sl 32 cV;clear f c b j;refine .h λav V=>?_;go_simp;refine⟨Z,?_⟩;refine Calls.M (ln s d cb t u v A b B p r w x F _ G e ⟨24,i,0,0⟩ a.1 Y) ?_;rintro N aB ⟨ad,U,E,C,k,n⟩;subst ad;refine⟨_,Z,?_⟩;exact V<|⟨U,E,i,C,(nG.ku a.2).T k,n⟩;intro bb bo al aw;have⟨aT,E,i,C,k,n⟩:=aw;have T:=OF C (aJ.T k)<|aA.snoc (m:=400*(1+kU aa aq+kU aa ar)) n ⟨Uo,Uo,λh=>by rcases h with h|h<;>simp at h,λh=>by rcases h with h|h<;>simp at h⟩ Y;clear n al;simp only[nx];go_wp21
  go_end0
  exact⟨Z,_,_,T.o.1,T.o.2.1,T.o.2.2⟩
 .go_wp21;refine sf (λl=>mB s cb t u v A b B p r w x (F,e.length,G) e l/\Below y y l) (λL d=>∃(U:R0) (E:List In) (i:Int),mB s cb t u v A b B p r w x U E d/\nG cb (F,e.length,G) y U d/\E=e++[⟨25,i,0,0⟩]) (mM [(·=.pointer cb),(·=.pointer cb),(·=.pointer cb),(Pp cb 7),(·=r),(Pp D 1),(·=tx ap),Tr,Tr,Tr]) [(7,λL d=>∃i:Int,L=i),(8,λL d=>∃i:Int,L=.agg #[.int .u8 25,i,.int .i64 0,.int .i64 0])] (⟨C.ku (Sf _ _).drew,(Sf _ _).drew⟩) ⟨?_,?_,?_,?_,?_,?_,?_,?_,?_,?_,trivial⟩ ?_;exact Pf 0;exact Pf 0;exact Pv 37 1;exact Pv 38 2;exact Pl 39 3 λ_ a=>kt a.1.c 7;exact Pf 3;intro z d a f c b j;have dK:=Sv 41 c 5;have⟨⟨O,M,P,Q,R,S⟩,_⟩:=mg<|(a.2.B D ai).T az.o;exact .q (g:=⟨Z,a,Qa⟩);intro z d a f c b j;have dL:=Sv 40 c 4;have dM:=Sv 42 c 6;clear f c b j;refine .h λav V=>?_;go_simp;refine⟨Z,?_⟩;refine Calls.M (mW a.1 ac.lK ac.lf ap) ?_;rintro N aB ⟨i,ad,j⟩;subst j;subst ad;exact⟨_,Z,V ⟨trivial,a,Qc ⟨i,Z⟩<|Qb<|Qe⟩⟩;intro z d a f c b j;obtain⟨i,cW⟩:=kW b 0;have dN:=Sl 43 cW;exact .q (g:=⟨trivial,a,Qb<|Qc ⟨i,Z⟩<|Qa⟩);intro z d a f c b j;have dO:=Sv 36 c 0;obtain⟨i,cX⟩:=kW b 1;have dP:=Sl 44 cX;clear f c b j;refine .h λav V=>?_;go_simp;refine⟨Z,?_⟩;refine Calls.M (ln s d cb t u v A b B p r w x F _ G e ⟨25,i,0,0⟩ a.1 Y) ?_;rintro N aB ⟨ad,U,E,C,k,n⟩;subst ad;refine⟨_,Z,?_⟩;exact V<|⟨U,E,i,C,(nG.ku a.2).T k,n⟩;intro bb bo al aw;have⟨aT,E,i,C,k,n⟩:=aw;have T:=OF C (aJ.T k)<|aA.snoc (m:=400*(1+kU aa aq+kU aa ar)) n ⟨Uo,Uo,λh=>by rcases h with h|h<;>simp at h,λh=>by rcases h with h|h<;>simp at h⟩ Y;clear n al;simp only[nx];go_wp21
  go_end0
  exact⟨Z,_,_,T.o.1,T.o.2.1,T.o.2.2⟩
 .go_wp21;refine sf (λl=>mB s cb t u v A b B p r w x (F,e.length,G) e l/\Below y y l) (λL d=>∃(U:R0) (E:List In) (i:Int),mB s cb t u v A b B p r w x U E d/\nG cb (F,e.length,G) y U d/\E=e++[⟨26,i,0,0⟩]) (mM [(·=.pointer cb),(·=.pointer cb),(·=.pointer cb),(Pp cb 7),(·=r),(Pp D 1),(·=tx ap),Tr,Tr,Tr]) [(7,λL d=>∃i:Int,L=i),(8,λL d=>∃i:Int,L=.agg #[.int .u8 26,i,.int .i64 0,.int .i64 0])] (⟨C.ku (Sf _ _).drew,(Sf _ _).drew⟩) ⟨?_,?_,?_,?_,?_,?_,?_,?_,?_,?_,trivial⟩ ?_;exact Pf 0;exact Pf 0;exact Pv 49 1;exact Pv 50 2;exact Pl 51 3 λ_ a=>kt a.1.c 7;exact Pf 3;intro z d a f c b j;have dQ:=Sv 53 c 5;have⟨⟨O,M,P,Q,R,S⟩,_⟩:=mg<|(a.2.B D ai).T az.o;exact .q (g:=⟨Z,a,Qa⟩);intro z d a f c b j;have dR:=Sv 52 c 4;have dS:=Sv 54 c 6;clear f c b j;refine .h λav V=>?_;go_simp;refine⟨Z,?_⟩;refine Calls.M (mW a.1 ac.lK ac.lf ap) ?_;rintro N aB ⟨i,ad,j⟩;subst j;subst ad;exact⟨_,Z,V ⟨trivial,a,Qc ⟨i,Z⟩<|Qb<|Qe⟩⟩;intro z d a f c b j;obtain⟨i,cY⟩:=kW b 0;have dT:=Sl 55 cY;exact .q (g:=⟨trivial,a,Qb<|Qc ⟨i,Z⟩<|Qa⟩);intro z d a f c b j;have dU:=Sv 48 c 0;obtain⟨i,cZ⟩:=kW b 1;have dV:=Sl 56 cZ;clear f c b j;refine .h λav V=>?_;go_simp;refine⟨Z,?_⟩;refine Calls.M (ln s d cb t u v A b B p r w x F _ G e ⟨26,i,0,0⟩ a.1 Y) ?_;rintro N aB ⟨ad,U,E,C,k,n⟩;subst ad;refine⟨_,Z,?_⟩;exact V<|⟨U,E,i,C,(nG.ku a.2).T k,n⟩;intro bb bo al aw;have⟨aT,E,i,C,k,n⟩:=aw;have T:=OF C (aJ.T k)<|aA.snoc (m:=400*(1+kU aa aq+kU aa ar)) n ⟨Uo,Uo,λh=>by rcases h with h|h<;>simp at h,λh=>by rcases h with h|h<;>simp at h⟩ Y;clear n al;simp only[nx];go_wp21
  go_end0
  exact⟨Z,_,_,T.o.1,T.o.2.1,T.o.2.2⟩
 .go_wp21;clear O M P Q R S;apply(ln s y cb t u v A b B p r w x F _ G e ⟨28,0,0,0⟩ C Y).M;rintro N aj ⟨rfl,ag,K,aL,k,n⟩;have⟨J,I⟩:=k.k D ai au bG.o;have ax:=X<|J.T az.o;have bc:=X I;have ay:D<aj:=QO ai k.size;have aM:=(aJ.T k)
  clear J I;have bd:=X n;have aC:K.length=e.length+1:=(by rw[n];simp);have aN:=X aC;have bV:K.length<=95000:=Ul aI aK.o;have aD:=(aA.snoc (m:=317) n ⟨Uo,Uo,λ_=>⟨Uo,by show(0:Int)<=_;omega⟩,λh=>by rcases h with h|h<;>simp at h⟩ Y)
  clear n aC;have aE:K[e.length]?=some (⟨28,0,0,0⟩:In):=(by rw[bd.o];simp);have⟨⟨O,M,P,Q,R,S⟩,_⟩:=mg ax.o;go_wp21;clear O M P Q R S;refine(cm aY s aj cb t u v A b B p r w x ag K ab aZ o aL ac f bq br bs aq al cl.o<|Ul aI aD.len).M ?_;rintro N bu ⟨rfl,aT,E,bH,k,aO⟩;have⟨J,I⟩:=k.k D ay au bc.o;have cs:=X<|J.T ax.o;have bW:=X I;have bX:D<bu:=QO ay k.size;have bY:=(aM.T k)
  clear J I;have bI:=(aD.T (q:=317+400*kU aa aq) aO Y)
  have⟨⟨O,M,P,Q,R,S⟩,_⟩:=mg cs.o;go_wp21;clear O M P Q R S;refine(bR aY s bu cb t u v A b B p r w x aT E ab aZ o bH ac f bl bm bn ar bL bQ.o<|Ul aI bI.len).M ?_;rintro N bp ⟨i,rfl,bZ,ae,am,k,aF,bv⟩;have⟨J,I⟩:=k.k D bX au bW.o;have be:=(bY.T k)
  clear J I;have bf:=(bI.T (q:=318+400*kU aa aq+400*kU aa ar) aF Y)
  have aG:=X<|aF.ll<|aO.ll aE;have aU:=(show e.length<ae.length by have:=aF.len;have:=aO.len;have:=aN.o;omega)
  clear aE;obtain⟨g,aP,rfl⟩:=am.Bn<|W aU;have af:=am.Bl aG.o;have ca:=(af.1 1 _ Z).1;have cc:=(af.1 1 _ Z).2;have aH:=X<|af.2 1 Un (i:Int);have ct:=kt am.c 10;have cd:(0:Int)<=(e.length:Int):=Y;have ce:(e.length:Int)<(ae.length:Int):=W aU;clear af;go_wp21
  go_end0
  exact⟨Z,_,_,aH.o.1,be.T aH.o.2,(bf.put aG.o (W aK.o) (.inl Z) Y<|W bv).le Y⟩
 .go_wp21;clear O M P Q R S;apply(ln s y cb t u v A b B p r w x F _ G e ⟨28,0,0,0⟩ C Y).M;rintro N aj ⟨rfl,ag,K,aL,k,n⟩;have⟨J,I⟩:=k.k D ai au bG.o;have ax:=X<|J.T az.o;have bc:=X I;have ay:D<aj:=QO ai k.size;have aM:=(aJ.T k)
  clear J I;have bd:=X n;have aC:K.length=e.length+1:=(by rw[n];simp);have aN:=X aC;have bV:K.length<=95000:=Ul aI aK.o;have aD:=(aA.snoc (m:=317) n ⟨Uo,Uo,λ_=>⟨Uo,by show(0:Int)<=_;omega⟩,λh=>by rcases h with h|h<;>simp at h⟩ Y)
  clear n aC;have aE:K[e.length]?=some (⟨28,0,0,0⟩:In):=(by rw[bd.o];simp);have⟨⟨O,M,P,Q,R,S⟩,_⟩:=mg ax.o;go_wp21;clear O M P Q R S;refine(cm aY s aj cb t u v A b B p r w x ag K ab aZ o aL ac f bq br bs aq al cl.o<|Ul aI aD.len).M ?_;rintro N bu ⟨rfl,aT,E,bH,k,aO⟩;have⟨J,I⟩:=k.k D ay au bc.o;have cs:=X<|J.T ax.o;have bW:=X I;have bX:D<bu:=QO ay k.size;have bY:=(aM.T k)
  clear J I;have bI:=(aD.T (q:=317+400*kU aa aq) aO Y)
  have cf:E.length<=95000/\aS.length<=E.length:=(by have dW:=aO.len;have:=aN.o;have:=aI;have:=aK.o;omega);have da:=X cf;have dX:=cf.1;clear cf;obtain⟨db,dc,rfl⟩:=bH.form;go_wp21;apply(ln s bu cb t u v A b B p r w x db _ dc E ⟨27,(aS.length:Int),0,0⟩ bH Y).M;rintro N bp ⟨rfl,bZ,ae,am,k,n⟩;have⟨J,I⟩:=k.k D bX au bW.o;have be:=(bY.T k)
  clear J I;have dd:=X n;have cu:ae.length=E.length+1:=(by rw[n];simp);have de:=X cu;skip;have bf:=(bI.snoc (m:=318+400*kU aa aq) n ⟨Uo,Uo,λ_=>⟨by show(0:Int)<=(aS.length:Int);omega,by show(aS.length:Int)<=_;have:=da.o.2;omega⟩,λh=>by rcases h with h|h<;>simp at h⟩ Y)
  clear n cu;have cv:ae[e.length]?=some (⟨28,0,0,0⟩:In):=(by rw[dd.o,RP<|Ul aO.len aN.o];exact aO.ll aE);have aG:=X cv;have ce:(e.length:Int)<(ae.length:Int):=(by have:=aO.len;have:=aN.o;have:=de.o;omega);have cd:(0:Int)<=(e.length:Int):=Y;obtain⟨g,aP,rfl⟩:=am.Bn Y;clear aE cv;go_wp21;refine sf (λl=>mB s cb t u v A b B p r w x (g,ae.length,aP) ae l/\Below bp bp l) (λL d=>mB s cb t u v A b B p r w x (g,ae.length,aP) (ae.set e.length<|(⟨28,0,0,0⟩:In).put 1 (ae.length:Int)) d/\nG cb (g,ae.length,aP) bp (g,ae.length,aP) d) (mM [(·=.pointer cb),(·=.pointer cb),(Pp cb 10),(·=.slice g ae.length aP),(·=.int .i64 (e.length:Int)),(·=.pointer cb),(·=.pointer cb),(Pp cb 10),(·=.slice g ae.length aP),(·=.int .i64 (ae.length:Int)),(Pp g<|e.length*4),(Pp g<|e.length*4+1),Tr]) [] (⟨am.ku (Sf _ _).drew,(Sf _ _).drew⟩) ⟨?_,?_,?_,?_,?_,?_,?_,?_,?_,?_,?_,?_,?_,trivial⟩ ?_;exact Pf 0;exact Pv 92 0;exact Pv 93 1;exact Pl 94 2 λ_ a=>kt a.1.c 10;exact Pf 7;exact Pf 0;exact Pv 97 5;exact Pv 98 6;exact Pl 99 7 λ_ a=>kt a.1.c 10;intro z d a f c b j;have dY:=Sv 100 c 8;exact .q (g:=⟨Z,a,Qa⟩);intro z d a f c b j;have dZ:=Sv 95 c 3;have ea:=Sv 96 c 4;exact .q (g:=⟨Z,a,Qa⟩);exact Pv 102 10;intro z d a f c b j;have eb:=Sv 103 c 11;have ec:=Sv 101 c 9;have af:=a.1.Bl aG.o;have ca:=(af.1 1 _ Z).1;have cc:=(af.1 1 _ Z).2;have aH:=X<|af.2 1 Un (ae.length:Int);clear af;refine .h λav V=>?_;go_simp;exact V<|⟨aH.o.1,(nG.ku a.2).T aH.o.2⟩;intro bb bo al aw;have T:=X aw;clear al aw;simp only[nx];go_wp21
  go_end0
  exact⟨Z,_,_,T.o.1,be.T T.o.2,(bf.put aG.o (W aK.o) (.inl Z) Y<|SE _).le Y⟩
 .obtain⟨aV,aW,rfl,df⟩:=f.cs;obtain⟨dg,aQ,rfl,bw⟩:=f.ns;obtain⟨rfl,dh⟩:=f.own;have di:=f.len;have aX:=kt C.c 3;go_wp21;refine(Cu aY y aV ab.length aW ab ap D (df.kv (mr.ok _) λq bJ=>C.old (ac.lK q bJ).1 (ac.lK q bJ).2) Y (λq bJ=>QO (ac.lK q bJ).1 C.g.size) M ai<|cJ.o Uo).M ?_;rintro N aj ⟨i,ed,rfl,bK⟩;clear aX O M P Q R S;obtain⟨aR,bg⟩:∃l,aZ[i]?=some l:=Gx<|W bw.len.1;obtain⟨ak,ao,dj,rfl,bx,cg,bz⟩:=bw.ll pI.ok i aR bg;obtain⟨dk,rfl,bh⟩:=cg;obtain⟨bA,bB,rfl,_⟩:=bh.form;have bi:=bz 0 _ Z;have bC:=f.Nq aR<|QS bg;have⟨bD,bE⟩:=Xq aR.length;rw[<-bE]at bi bh bC;have ch:=X bi;have dl:(0:Int)<=(i:Int):=Y;have dm:(i:Int)<(ab.length:Int):=Y;clear bz bi bg bE;have aL:=(C.ku bK)
  have aM:=(aJ.T<|.ku bK)
  have ax:=X<|(bK.B D ai).T az.o;have ay:D<aj:=QO ai bK.size;go_wp21;refine sf (λl=>mB s cb t u v (aV,ab.length,aW) (mw ak ao,ab.length,aQ) (.int .i64 (o:Int)) p r w x (F,e.length,G) e l/\Below aj aj l) (λL d=>∃(U:R0) (E:List In) (q:Int),mB s cb t u v (aV,ab.length,aW) (mw ak ao,ab.length,aQ) (.int .i64 (o:Int)) p r w x U E d/\nG cb (F,e.length,G) aj U d/\E=e++[⟨30,(i:Int),q,(ah:Int)⟩]) (mM [(·=.pointer cb),(·=i),(·=.pointer cb),(·=.pointer cb),(Pp cb 4),(·=.slice (mw ak ao) ab.length aQ),(·=i),(Pp ak<|ao+i),(·=.slice bA bD bB),(Pp D 2),(·=tx ba),Tr,(Pp D 3),(·=.slice bj ah bk),(·=ah),Tr,Tr]) [(11,λL d=>∃q:Int,L=q),(15,λL d=>∃q:Int,L=.agg #[.int .u8 30,i,q,ah])] (⟨aL.ku (Sf _ _).drew,(Sf _ _).drew⟩) ⟨?_,?_,?_,?_,?_,?_,?_,?_,?_,?_,?_,?_,?_,?_,?_,?_,?_,trivial⟩ ?_;exact Pf 0;exact Pf 8;exact Pf 0;exact Pv 115 2;exact Pv 116 3;exact Pl 117 4 λ_ a=>kt a.1.c 4;exact Pf 8;intro z d a f c b j;have ee:=Sv 118 c 5;have ef:=Sv 119 c 6;exact .q (g:=⟨Z,a,Qa⟩);intro z d a f c b j;have aX:=(Cb ak (ao+i*1+0)<|a.1.old (ac.lK ak bx).1 (ac.lK ak bx).2).T ch.o;rw[Q1,Ry]at aX;exact .l 120 (c 7 _ Z Z) aX ⟨Z,a,Qa⟩;exact Pf 3;intro z d a f c b j;have eg:=Sv 122 c 9;have⟨⟨O,M,P,Q,R,S⟩,_⟩:=mg<|(a.2.B D ay).T ax.o;exact .q (g:=⟨Z,a,Qa⟩);intro z d a f c b j;have eh:=Sv 121 c 8;have ei:=Sv 123 c 10;clear f c b j;refine .h λav V=>?_;go_simp;refine⟨Z,?_⟩;refine Calls.M (mW a.1 ac.lK ⟨bA,bD,bB,aR,Z,bh,bC⟩ ba) ?_;rintro N aB ⟨q,ad,j⟩;subst j;subst ad;exact⟨_,Z,V ⟨trivial,a,Qc ⟨q,Z⟩<|Qb<|Qe⟩⟩;exact Pf 3;intro z d a f c b j;have ej:=Sv 125 c 12;have⟨⟨O,M,P,Q,R,S⟩,_⟩:=mg<|(a.2.B D ay).T ax.o;exact .q (g:=⟨Z,a,Qa⟩);intro z d a f c b j;have ek:=Sv 126 c 13;exact .q (g:=⟨Z,a,Qa⟩);intro z d a f c b j;have el:=Sv 114 c 1;obtain⟨q,dn⟩:=kW b 0;have em:=Sl 124 dn;have en:=Sv 127 c 14;exact .q (g:=⟨trivial,a,Qb<|Qc ⟨q,Z⟩<|Qa⟩);intro z d a f c b j;have eo:=Sv 113 c 0;obtain⟨q,dp⟩:=kW b 1;have ep:=Sl 128 dp;refine .h λav V=>?_;go_simp;refine⟨Z,?_⟩;refine Calls.M (ln s d cb t u v (aV,ab.length,aW) (mw ak ao,ab.length,aQ) (.int .i64 (o:Int)) p r w x F _ G e ⟨30,(i:Int),q,(ah:Int)⟩ a.1 Y) ?_;rintro N aB ⟨ad,U,E,C,k,n⟩;subst ad;refine⟨_,Z,?_⟩;exact V<|⟨U,E,q,C,(nG.ku a.2).T k,n⟩;intro bb bo al aw;have⟨aT,E,q,C,k,n⟩:=aw;have T:=OF C (aM.T k)<|aA.snoc (m:=400*(1+kU aa aq+kU aa ar)) n ⟨Uo,Uo,λh=>by rcases h with h|h<;>simp at h,λh=>by rcases h with h|h<;>simp at h⟩ Y;clear n al;simp only[nx];go_wp21
  go_end0
  exact⟨Z,_,_,T.o.1,T.o.2.1,T.o.2.2⟩
 .obtain⟨aV,aW,rfl,eq⟩:=f.cs;obtain⟨dg,aQ,rfl,bw⟩:=f.ns;obtain⟨rfl,dh⟩:=f.own;have di:=f.len;obtain⟨aR,bg⟩:∃l,aZ[o]?=some l:=Gx<|W bw.len.1;obtain⟨ak,ao,dj,rfl,bx,cg,bz⟩:=bw.ll pI.ok o aR bg;obtain⟨dk,rfl,bh⟩:=cg;obtain⟨bA,bB,rfl,_⟩:=bh.form;have bi:=bz 0 _ Z;have bC:=f.Nq aR<|QS bg;have⟨bD,bE⟩:=Xq aR.length;rw[<-bE]at bi bh bC;have ch:=X bi;have dl:(0:Int)<=(o:Int):=Y;have dm:(o:Int)<(ab.length:Int):=Y;clear bz bi bg bE;go_wp21;clear O M P Q R S;refine sf (λl=>mB s cb t u v (aV,ab.length,aW) (mw ak ao,ab.length,aQ) (.int .i64 (o:Int)) p r w x (F,e.length,G) e l/\Below y y l) (λL d=>∃(U:R0) (E:List In) (q:Int),mB s cb t u v (aV,ab.length,aW) (mw ak ao,ab.length,aQ) (.int .i64 (o:Int)) p r w x U E d/\nG cb (F,e.length,G) y U d/\E=e++[⟨31,0,q,(IntKind.i64.wrap<|(ah:Int)-1)⟩]) (mM [(·=.pointer cb),(·=.pointer cb),(·=.pointer cb),(Pp cb 4),(·=.slice (mw ak ao) ab.length aQ),(·=.pointer cb),(·=.pointer cb),(Pp cb 5),(·=o),(Pp ak<|ao+o),(·=.slice bA bD bB),(Pp D 2),(·=tx ba),Tr,(Pp D 3),(·=.slice bj ah bk),(·=ah),(·=.int .i64 (IntKind.i64.wrap<|(ah:Int)-1)),Tr,Tr]) [(13,λL d=>∃q:Int,L=q),(18,λL d=>∃q:Int,L=.agg #[.int .u8 31,.int .i64 0,q,.int .i64<|IntKind.i64.wrap<|(ah:Int)-1])] (⟨C.ku (Sf _ _).drew,(Sf _ _).drew⟩) ⟨?_,?_,?_,?_,?_,?_,?_,?_,?_,?_,?_,?_,?_,?_,?_,?_,?_,?_,?_,?_,trivial⟩ ?_;exact Pf 0;exact Pf 0;exact Pv 133 1;exact Pv 134 2;exact Pl 135 3 λ_ a=>kt a.1.c 4;exact Pf 0;exact Pv 137 5;exact Pv 138 6;exact Pl 139 7 λ_ a=>kt a.1.c 5;intro z d a f c b j;have er:=Sv 136 c 4;have es:=Sv 140 c 8;exact .q (g:=⟨Z,a,Qa⟩);intro z d a f c b j;have aX:=(Cb ak (ao+o*1+0)<|a.1.old (ac.lK ak bx).1 (ac.lK ak bx).2).T ch.o;rw[Q1,Ry]at aX;exact .l 141 (c 9 _ Z Z) aX ⟨Z,a,Qa⟩;exact Pf 3;intro z d a f c b j;have et:=Sv 143 c 11;have⟨⟨O,M,P,Q,R,S⟩,_⟩:=mg<|(a.2.B D ai).T az.o;exact .q (g:=⟨Z,a,Qa⟩);intro z d a f c b j;have eu:=Sv 142 c 10;have ev:=Sv 144 c 12;clear f c b j;refine .h λav V=>?_;go_simp;refine⟨Z,?_⟩;refine Calls.M (mW a.1 ac.lK ⟨bA,bD,bB,aR,Z,bh,bC⟩ ba) ?_;rintro N aB ⟨q,ad,j⟩;subst j;subst ad;exact⟨_,Z,V ⟨trivial,a,Qc ⟨q,Z⟩<|Qb<|Qe⟩⟩;exact Pf 3;intro z d a f c b j;have ew:=Sv 146 c 14;have⟨⟨O,M,P,Q,R,S⟩,_⟩:=mg<|(a.2.B D ai).T az.o;exact .q (g:=⟨Z,a,Qa⟩);intro z d a f c b j;have ex:=Sv 147 c 15;exact .q (g:=⟨Z,a,Qa⟩);intro z d a f c b j;have ey:=Sv 148 c 16;exact .q (g:=⟨Z,a,Qa⟩);intro z d a f c b j;obtain⟨q,dq⟩:=kW b 0;have ez:=Sl 145 dq;have eA:=Sv 149 c 17;exact .q (g:=⟨trivial,a,Qb<|Qc ⟨q,Z⟩<|Qa⟩);intro z d a f c b j;have eB:=Sv 132 c 0;obtain⟨q,dr⟩:=kW b 1;have eC:=Sl 150 dr;refine .h λav V=>?_;go_simp;refine⟨Z,?_⟩;refine Calls.M (ln s d cb t u v (aV,ab.length,aW) (mw ak ao,ab.length,aQ) (.int .i64 (o:Int)) p r w x F _ G e ⟨31,0,q,(IntKind.i64.wrap<|(ah:Int)-1)⟩ a.1 Y) ?_;rintro N aB ⟨ad,U,E,C,k,n⟩;subst ad;refine⟨_,Z,?_⟩;exact V<|⟨U,E,q,C,(nG.ku a.2).T k,n⟩;intro bb bo al aw;have⟨aT,E,q,C,k,n⟩:=aw;have T:=OF C (aJ.T k)<|aA.snoc (m:=400*(1+kU aa aq+kU aa ar)) n ⟨Uo,Uo,λh=>by rcases h with h|h<;>simp at h,λh=>by rcases h with h|h<;>simp at h⟩ Y;clear n al;simp only[nx];go_wp21
  go_end0
  exact⟨Z,_,_,T.o.1,T.o.2.1,T.o.2.2⟩
 .go_wp21;clear O M P Q R S;apply(ln s y cb t u v A b B p r w x F _ G e ⟨32,0,0,0⟩ C Y).M;rintro N aj ⟨rfl,ag,K,aL,k,n⟩;have⟨J,I⟩:=k.k D ai au bG.o;have ax:=X<|J.T az.o;have bc:=X I;have ay:D<aj:=QO ai k.size;have aM:=(aJ.T k)
  clear J I;have bd:=X n;have aC:K.length=e.length+1:=(by rw[n];simp);have aN:=X aC;have bV:K.length<=95000:=Ul aI aK.o;have aD:=(aA.snoc (m:=317) n ⟨Uo,Uo,λh=>by rcases h with h|h<;>simp at h,λ_=>⟨Uo,by show(0:Int)<=_;omega⟩⟩ Y)
  clear n aC;have aE:K[e.length]?=some (⟨32,0,0,0⟩:In):=(by rw[bd.o];simp);have⟨⟨O,M,P,Q,R,S⟩,_⟩:=mg ax.o;go_wp21;clear O M P Q R S;refine(bR aY s aj cb t u v A b B p r w x ag K ab aZ o aL ac f bl bm bn ar bL bQ.o<|Ul aI aD.len).M ?_;rintro N bp ⟨i,rfl,bZ,ae,am,k,aF,bv⟩;have⟨J,I⟩:=k.k D ay au bc.o;have be:=(aM.T k)
  clear J I;have bf:=(aD.T (q:=318+400*kU aa ar) aF Y)
  have aG:=X<|aF.ll aE;have aU:=(show e.length<ae.length from Ul aF.len aN.o)
  clear aE;obtain⟨g,aP,rfl⟩:=am.Bn<|W aU;have af:=am.Bl aG.o;have ca:=(af.1 2 _ Z).1;have cc:=(af.1 2 _ Z).2;have aH:=X<|af.2 2 Un (i:Int);have ct:=kt am.c 10;have cd:(0:Int)<=(e.length:Int):=Y;have ce:(e.length:Int)<(ae.length:Int):=W aU;clear af;go_wp21
  go_end0
  exact⟨Z,_,_,aH.o.1,be.T aH.o.2,(bf.put aG.o (W aK.o) (.inr Z) Y<|W bv).le Y⟩
 .go_wp21;clear O M P Q R S;refine EP 9 (λds=>cond ds (λl=>∃(ag:R0) (K:List In) (i:Int),mB s cb t u v A b B p r w x ag K l/\nG cb (F,e.length,G) y ag l/\K=e++[⟨33,i,0,0⟩]) λl=>mB s cb t u v A b B p r w x (F,e.length,G) e l/\Below y y l) (mM [(·=.pointer cb),(·=.pointer cb),(·=.pointer cb),(Pp cb 6),(·=p),(Pp D 1),(·=tx ap),Tr,Tr,(·=.int .i64 (e.length:Int)),(·=.int .i64 (e.length:Int))]) [(7,λL d=>∃i:Int,L=i),(8,λL d=>∃i:Int,L=.agg #[.int .u8 33,i,.int .i64 0,.int .i64 0])] (⟨C.ku (Sf _ _).drew,(Sf _ _).drew⟩) ⟨?_,?_,?_,?_,?_,?_,?_,?_,?_,?_,?_,trivial⟩ ?_;intro z d a f c b j;have dt:=Sl 0<|f 0 Z;clear f c b j;replace a:(λl=>mB s cb t u v A b B p r w x (F,e.length,G) e l/\Below y y l) d:=a;exact .q (g:=⟨Z,a,Qa⟩);intro z d a f c b j;have dt:=Sl 0<|f 0 Z;clear f c b j;replace a:(λl=>mB s cb t u v A b B p r w x (F,e.length,G) e l/\Below y y l) d:=a;exact .q (g:=⟨Z,a,Qa⟩);intro z d a f c b j;have eD:=Sv 172 c 1;clear f c b j;replace a:(λl=>mB s cb t u v A b B p r w x (F,e.length,G) e l/\Below y y l) d:=a;exact .q (g:=⟨Z,a,Qa⟩);intro z d a f c b j;have eE:=Sv 173 c 2;clear f c b j;replace a:(λl=>mB s cb t u v A b B p r w x (F,e.length,G) e l/\Below y y l) d:=a;exact .q (g:=⟨Z,a,Qa⟩);intro z d a f c b j;have eF:=Sv 174 c 3;clear f c b j;replace a:(λl=>mB s cb t u v A b B p r w x (F,e.length,G) e l/\Below y y l) d:=a;have aX:=kt a.1.c 6;exact .q (g:=⟨Z,a,Qa⟩);intro z d a f c b j;have eG:=Sl 3<|f 3 Z;clear f c b j;replace a:(λl=>mB s cb t u v A b B p r w x (F,e.length,G) e l/\Below y y l) d:=a;exact .q (g:=⟨Z,a,Qa⟩);intro z d a f c b j;have eH:=Sv 176 c 5;clear f c b j;replace a:(λl=>mB s cb t u v A b B p r w x (F,e.length,G) e l/\Below y y l) d:=a;have⟨⟨O,M,P,Q,R,S⟩,_⟩:=mg<|(a.2.B D ai).T az.o;exact .q (g:=⟨Z,a,Qa⟩);intro z d a f c b j;have eI:=Sv 175 c 4;have eJ:=Sv 177 c 6;clear f c b j;replace a:(λl=>mB s cb t u v A b B p r w x (F,e.length,G) e l/\Below y y l) d:=a;refine .h λav V=>?_;go_simp;refine⟨Z,?_⟩;refine Calls.M (mW a.1 ac.lK ac.vars ap) ?_;rintro N aB ⟨i,ad,j⟩;subst j;subst ad;exact⟨_,Z,V ⟨trivial,a,Qc ⟨i,Z⟩<|Qb<|Qe⟩⟩;intro z d a f c b j;obtain⟨i,du⟩:=kW b 0;have eK:=Sl 178 du;clear f c b j;replace a:(λl=>mB s cb t u v A b B p r w x (F,e.length,G) e l/\Below y y l) d:=a;exact .q (g:=⟨trivial,a,Qb<|Qc ⟨i,Z⟩<|Qa⟩);intro z d a f c b j;have eL:=Sv 171 c 0;obtain⟨i,dv⟩:=kW b 1;have eM:=Sl 179 dv;clear f c b j;replace a:(λl=>mB s cb t u v A b B p r w x (F,e.length,G) e l/\Below y y l) d:=a;refine .h λav V=>?_;go_simp;refine⟨Z,?_⟩;refine Calls.M (ln s d cb t u v A b B p r w x F _ G e ⟨33,i,0,0⟩ a.1 Y) ?_;rintro N aB ⟨ad,ag,K,C,k,n⟩;subst ad;exact⟨_,Z,V ⟨Z,⟨ag,K,i,C,(nG.ku a.2).T k,n⟩,Q2<|Qe⟩⟩;intro z d a f c b j;have eN:=Sv 180 c 9;clear f c b j;replace a:(λl=>∃(ag:R0) (K:List In) (i:Int),mB s cb t u v A b B p r w x ag K l/\nG cb (F,e.length,G) y ag l/\K=e++[⟨33,i,0,0⟩]) d:=a;exact .q (g:=⟨Z,a,Qa⟩);intro bb aj dw cw dx;have cx:bb 10=.int .i64 (e.length:Int):=cw 10 Un;have⟨ag,K,dy,aL,k,n⟩:=(show(λl=>∃(ag:R0) (K:List In) (i:Int),mB s cb t u v A b B p r w x ag K l/\nG cb (F,e.length,G) y ag l/\K=e++[⟨33,i,0,0⟩]) aj from dw)
  clear cw dx;have⟨J,I⟩:=k.k D ai au bG.o;have ax:=X<|J.T az.o;have bc:=X I;have ay:D<aj:=QO ai k.size;have aM:=(aJ.T k)
  clear J I;have bd:=X n;have aC:K.length=e.length+1:=(by rw[n];simp);have aN:=X aC;have bV:K.length<=95000:=Ul aI aK.o;have aD:=(aA.snoc (m:=317) n ⟨Uo,Uo,λh=>by rcases h with h|h<;>simp at h,λ_=>⟨Uo,by show(0:Int)<=_;omega⟩⟩ Y)
  clear n aC;have aE:K[e.length]?=some (⟨33,dy,0,0⟩:In):=(by rw[bd.o];simp);simp only[nx,cx];clear cx;have⟨⟨O,M,P,Q,R,S⟩,_⟩:=mg ax.o;go_wp21;clear O M P Q R S;refine(bR aY s aj cb t u v A b B p r w x ag K ab aZ o aL ac f bl bm bn ar bL bQ.o<|Ul aI aD.len).M ?_;rintro N bp ⟨i,rfl,bZ,ae,am,k,aF,bv⟩;have⟨J,I⟩:=k.k D ay au bc.o;have be:=(aM.T k)
  clear J I;have bf:=(aD.T (q:=318+400*kU aa ar) aF Y)
  have aG:=X<|aF.ll aE;have aU:=(show e.length<ae.length from Ul aF.len aN.o)
  clear aE;obtain⟨g,aP,rfl⟩:=am.Bn<|W aU;have af:=am.Bl aG.o;have ca:=(af.1 2 _ Z).1;have cc:=(af.1 2 _ Z).2;have aH:=X<|af.2 2 Un (i:Int);have ct:=kt am.c 10;have cd:(0:Int)<=(e.length:Int):=Y;have ce:(e.length:Int)<(ae.length:Int):=W aU;clear af;go_wp21
  go_end0
  exact⟨Z,_,_,aH.o.1,be.T aH.o.2,(bf.put aG.o (W aK.o) (.inr Z) Y<|W bv).le Y⟩
 go_wp21;apply(ln s y cb t u v A b B p r w x F _ G e ⟨34,0,0,0⟩ C Y).M;rintro N bo ⟨rfl,aT,E,C,k,n⟩;have T:=OF C (aJ.T k)<|aA.snoc (m:=400*(1+kU aa aq+kU aa ar)) n ⟨Uo,Uo,λh=>by rcases h with h|h<;>simp at h,λh=>by rcases h with h|h<;>simp at h⟩ Y;clear n;go_wp21
 go_end0
 exact⟨Z,_,_,T.o.1,T.o.2.1,T.o.2.2⟩
def lH.Cx(c:List RK){a:List Hd}{b:Nat}{d:Hd}(e:a[b]?=some d):na c (a.take<|b+1)=qQ (na c<|a.take b) d.name:=by rw[List.take_add_one,e];simp[na,List.foldl_append]
def lH.Cy(c:List RK){a:List<|List Hd}{b:Nat}{d:List Hd}(e:a[b]?=some d):lO c (a.take<|b+1)=na (lO c<|a.take b) d:=by rw[List.take_add_one,e];simp[lO,List.foldl_append]
def DU(am w)(V:RK)(aa:RE)(ab ac:Nat)(M)(j N:Nat)(f)(an:kz (nj .u8) am w (.slice M j N) f)(ao:∀d,am d->d<w)(br:j<=4)(ap:∀aO∈f,aO.length<=100):
  Calls prog 67 #[.agg<|hR V aa ab ac M j N] w (mV (lO [] f) w):=by
 have⟨aP,aQ,aR,aS,aT⟩:=Rj rK;have aU:=an;have O:=X ao;have aV:=X ap;have aq:=X an.len;have aW:=Ba w<|.cells (hR V aa ab ac M j N) 112;clear ao ap
 go_enter func67,ntmps67
 go_wp21;generalize w.alloc (.cells (hR V aa ab ac M j N) 112)=bs at*;go_loopw [3,11] (λP m wr=>∃a:Nat,a<=j/\m=a/\kJ kM 9 1 (λ_=>False) wr w P (lO []<|f.take a)/\(lO []<|f.take a).length<=100*a/\Below w w wr) (λ_ m _=>j-(intOf m).toNat)
 .exact⟨0,QZ _,Z,kJ.nil _ _ _ _ _ _,by simp[lO],aW⟩
 obtain⟨a,bt,rfl,e,aX,g⟩:=hrel;obtain⟨x,y,rfl,ad,aY⟩:=e.form;have ae:=g.size;by_cases bu:a<j
 .obtain⟨k,Q⟩:∃k,f[a]?=some k:=Gx<|W aq.o;obtain⟨bv,bw,aZ,rfl,bx,af,n⟩:=(aU.kv (nj.ok _) λd l=>g.B d<|O.o d l).ll (nj.ok _) a k Q;obtain⟨P,rfl,ag⟩:=af;obtain⟨ar,au,rfl,ba⟩:=ag.form;have p:=n 0 _ Z;rw[Q1,Ry]at p;have bb:=aV.o k<|QS Q;have av:=X<|Cy [] Q;have⟨s,ah⟩:=Xq<|lO []<|f.take a;rw[<-ah]at e aX av;have⟨q,ai⟩:=Xq k.length;rw[<-ai]at ag p bb ba;have aw:=X ai;have⟨ax,aj⟩:=Xq s.length;have R:=X aj;obtain⟨bz,bA⟩:=nL a j;have ak:=Ba wr<|oe ar q au;have ay:=(g.T<|ak.M ae)
  have bc:=(e.ku kM.ok ak)
  have bd:=(ag.kv (mA.ok .u8) λd l=>ak.B d<|W<|O.o d l)
  rw[<-ah,<-aj];clear n Q ai ah aj;go_wp21;clear p;generalize wr.alloc (oe ar q au)=bB at*;go_loopw [3,18] (λP m wr=>∃(b:Nat),b<=q/\m=b/\kJ kM 9 1 (λ_=>False) wr w P (na s<|k.take b)/\(na s<|k.take b).length<=ax+b/\Below w w wr) (λ_ m _=>q-(intOf m).toNat)
  .exact⟨0,QZ _,Z,by rw[R.o];exact bc,by rw[R.o];simp[na],ay⟩
  obtain⟨b,bC,rfl,e,r,g⟩:=hrel;obtain⟨x,y,rfl,ad,aY⟩:=e.form;have e:=e;have g:=g;have ae:=g.size;by_cases bD:b<q
  .obtain⟨t,al⟩:∃t,k[b]?=some t:=Gx<|W aw.o;obtain⟨bE,bF,aZ,rfl,bG,af,n⟩:=(bd.kv (mA.ok .u8) λd l=>(g.B d<|O.o d l).T (ay.B d<|O.o d l).symm).ll (mA.ok .u8) b t al;obtain⟨be,bH,rfl,bf,bg⟩:=af;obtain⟨z,A,rfl,_⟩:=bf.form;obtain⟨B,C,rfl,_⟩:=bg.form;have p:=n 0 _ Z;have az:=n 1 _ Z;have aA:=n 2 _ Z;rw[Q1]at p;have u:=X<|Cx s al;have⟨i,aB⟩:=Xq<|na s<|k.take b;rw[<-aB]at e r u ad⊢;have⟨D,S⟩:=Xq i.length;have T:=X S;have bI:D<=ax+b:=W r;have bh:D<=1000:=Ul r R.o;rw[<-S]at ad⊢;have⟨E,aC⟩:=Xq t.params.length;have⟨F,aD⟩:=Xq t.body.length;have⟨c,aE⟩:=Xq t.name;rw[<-aC]at az;rw[<-aD]at aA;rw[<-aE]at p u;obtain⟨bJ,bK⟩:=nL b q;have aF:=Ba wr<|.cells (hR c z E A B F C) 125;have aG:=(g.T<|aF.M ae)
   have U:=(show kJ kM 9 1 (λ_=>False) (wr.alloc<|.cells (hR c z E A B F C) 125) w (x,D,y) i by have aH:=e.ku kM.ok aF;rw[<-S]at aH;exact aH)
   have aI:=X<|QQ wr<|.cells (hR c z E A B F C) 125;have G:(wr.alloc<|.cells (hR c z E A B F C) 125).heap.size=wr+1:=Uo;have bi:=X G;clear n al aB S aC aD aE G e g r;go_upto_region 8 with fail;have G:=bi.o;have⟨bL,aJ⟩:=Xq wr.heap.size;rw[<-aJ]at aI G⊢;generalize wr.alloc (.cells (hR c z E A B F C) 125)=I at*;have bj:w.heap.size<=I:=Y;have bM:=kt aI.o 0;clear G aJ p az aA;have bk:=U.sl kM.ok;go_wp21;refine(pL (λaK=>(False\/w<=aK)/\aK<I) I x D y i c bk bh λd l=>l.2).M ?_;rintro aL bN ⟨rfl,rfl⟩;by_cases v:c∈i
   .have J:decide (c∈i)=true:=(by simpa using v);rw[J];have K:qQ i c=i:=(by unfold qQ;rw[RB v]);have L:=X K;clear K J v;go_wp21;go_roundw
    .exact⟨b+1,Y,Ur,by rw[u.o,L.o];exact U,by rw[u.o,L.o,<-T.o];omega,aG⟩
    simp[intOf];omega
   have J:decide (c∈i)=false:=(by simpa using v);rw[J];have K:qQ i c=i++[c]:=(by unfold qQ;rw[Rh v]);have L:=X K;clear K J v;go_wp2_with (at_builtin;(refine kO Z _ _ 76 Z w.heap.size 9 aP _ 1 16 underlying76 aQ aR aS aT Z kM.ok (λ_=>False) (x,D,y) i Z (U.ku kM.ok<|Ba _ _) ⟨I,0,none⟩ [tx c] c Z (mG I [tx c] 9) Z ?c3 ?c4 ?c5 ?_));case c3=>rw[<-T.o];unfold maxLen;omega
   case c4=>rw[<-T.o];omega
   case c5=>simp;omega
   intro be bO bl bm _;have bn:=((aG.alloc bj<|.cells #[tx c] 9).grown bm Us λbo aL=>(U.ge bo aL).1)
   go_wp21;go_roundw
   .exact⟨b+1,Y,Ur,by rw[u.o,L.o];exact bl,by rw[u.o,L.o,Q3,<-T.o];simp;omega,bn⟩
   simp[intOf];omega
  obtain rfl:b=q:=Y;have aM:na s (k.take b)=lO [] (f.take<|a+1):=(by rw[Re<|W aw.o];exact av.o.symm);rw[aM]at e r⊢;clear aM;go_wp21;go_roundw
  .exact⟨a+1,Y,Ur,e,by have:=r;have:=r;have:=R.o;omega,g⟩
  simp[intOf];omega
 obtain rfl:a=j:=Y;go_wp21;go_ret;refine⟨_,Z,?_,g⟩;have aN:=e;have bp:f.take a=f:=Re<|W aq.o;have bq:kJ kM 9 1 (λ_=>False) wr w (.slice x (lO []<|f.take a).length y)<|lO [] f:=(by rw[bp]at aN⊢;exact aN);exact bq
def yn.app{e n}{g i:Nat}{P p q r s t d j u k}(a:yn e n g i P p q r s t d j u)(b:u.grownBy k d.ownBlock)(w:kJ C0 172 3 P k e d j):yn e n g i P p q r s t d j k:=by
 have⟨x,y,G⟩:=a.lt;have⟨z,A,B,C,l,D,E,v⟩:=a.c;have m:∀c,c<e.heap.size->¬some c=d.ownBlock:=λc f l=>W<|(a.v c l.symm).1
 exact⟨⟨b.os.T a.g.os,b.tape.T a.g.tape,b.output.T a.g.output,QT a.g.size b.size,λc f F=>(b.B c (QO f a.g.size)<|m c f).T<|a.g.B c f F⟩,⟨z,A,B,C,l,D,E,(b.B g (QP.1 v).1<|m _ x).T v⟩,(b.B i (QP.1 a.p).1<|m _ y).T a.p,w,QT a.s b.size,a.v,a.ws,a.lt,a.np⟩
def yn.ng{e b}{f g:Nat}{P i j k l m c n a d}(p:yn e b f g P i j k l m c n a)(q:a.grownBy d c.ownBlock):NK b a d:=.lA q λr s=>(p.v r s).2
abbrev pf(a b c d e f g h i j):=(.cells #[tx a,.slice b c d,.slice e f g,.slice h i j,.string ⟨#[102,108,101,101,116]⟩,Em,Em,.int .i64 0] 223:Go.Obj)
def oH.ind{f b g:Nat}{i m:Int}{w}(a:oH f b i g w):oH f b m g<|w.setCell (rm b)<|.int .i64 m:=by
 have⟨j,a,k⟩:=a;refine⟨j,?_,k⟩;rcases a with⟨c,l,d,e⟩|⟨c,l,d,e⟩
 exact .inl<|tB.set c d Z e;exact .inr<|tB.set c d Z e
def Gn(g:Nat)(u:Bo g):Lh g:=by
 intro v c d e f l m w i x y z n p A B C q M N r
 go_enter func235,ntmps235
 by_cases D:i=0
 .subst D;go_wp21;refine(mL c d e f l [m,⟨#[59]⟩] p Y Y Uo<|by intro s a;simp at a;rcases a with rfl|rfl;exact r;decide).M ?_;rintro j t ⟨rfl,k,b⟩;go_wp21
  go_end0
  exact⟨Z,k.up Y,b⟩
 have O:((i:Int)==0)=false:=by rw[QW];omega
 go_wp21;refine(mL c d e f l [m,⟨#[32,101,108,115,101,32,123]⟩] p Y Y Uo<|by intro s a;simp at a;rcases a with rfl|rfl;exact r;decide).M ?_;rintro j t ⟨rfl,k,b⟩;go_wp21;apply(u v c d e (f+1) t w i x y (z.wr b n) n k (A.kv (kR.ok .u8 _)<|q.eq b) B C (q.to b) Y Y).M;rintro j E ⟨rfl,F,G⟩;have I:=(b.T G)
 go_wp21;refine(mL c d e (f+1+yl g) E [⟨#[125]⟩] F Y Y Uo<|by intro s a;simp at a;subst a;decide).M ?_;rintro j P ⟨rfl,J,K⟩;have L:=(I.T K)
 go_wp21
 go_end0
 exact⟨Z,J.up Y,L⟩
def CA:Bo 0:=by
 intro s c d e i j t k u a v w b l m x hF y z;have n:a=[]:=by
  cases a with
  |nil=>rfl
  |cons p a=>exact((m p<|Sq ..).1).elim
 subst n;obtain rfl:0=k:=l.len.1;have f:=b.lt;have⟨A,B⟩:=b.cell;have⟨C,D⟩:=Dh e Y
 go_enter func172,ntmps172
 go_wp2;go_loopw [15] (λq wr=>q=.int .i64 0/\oH c d ((e+1:Nat):Int) i wr/\ld c d j wr) (λ_ _=>0)
 .exact⟨Z,b.ind,ld.set f.1⟩
 obtain⟨rfl,g,r⟩:=hrel;have⟨E,F⟩:=g.cell;go_wp2
 go_end0
 exact⟨Z,g.ind,r.T<|ld.set f.1⟩
def CB(q:Nat)(ap:Li q):Bo<|q+1:=by
 intro aq l b u r Q aP k aQ ar au R v S T av m aR aw;have ax:=X S.len.1;have U:=v.lt;have⟨ay,az⟩:=v.cell;have aA:=X T;have⟨aS,aT⟩:=Dh u Y;have⟨d,w⟩:=Xq<|3+2*yl q;have V:yl (q+1)=12*d:=by rw[w];rfl
 rw[V]at aw⊢;have aa:=X w;have aU:k*d<=12*d:=Sh _ av;clear T w V
 go_enter func172,ntmps172
 go_wp21;go_loopw [15] (λx wr=>∃c i:Nat,c<=k/\i=r+c*d/\x=c/\oH l b ((u+1:Nat):Int) i wr/\ld l b Q wr) (λx _=>k-(intOf x).toNat)
 .exact⟨0,r,QZ _,Uo,Z,v.ind,ld.set U.1⟩
 obtain⟨c,i,aV,ab,rfl,s,t⟩:=hrel;have aW:=t.size;have⟨aB,aC⟩:=s.cell;have aX:=s.lt;have ac:=X ab;clear ay az ab;by_cases aY:c<k
 .obtain⟨a,y⟩:∃a,ar[c]?=some a:=Gx<|W ax.o;have ad:=m.eq t;obtain⟨aZ,ba,bb,rfl,bc,aD,j⟩:=(S.kv (kR.ok .u8 _) ad).ll (kR.ok .u8 _) c a y;obtain⟨bd,be,bf,rfl,z,A,B⟩:=aD;obtain⟨C,D,rfl,_⟩:=z.form;obtain⟨E,F,rfl,_⟩:=A.form;obtain⟨G,I,rfl,_⟩:=B.form;have J:=j 0 _ Z;have ae:=j 1 _ Z;have af:=j 2 _ Z;have ag:=j 3 _ Z;have ah:=j 4 _ Z;have ai:=j 5 _ Z;rw[Q1]at J;have⟨K,aj⟩:=Xq a.lp.length;have⟨L,ak⟩:=Xq a.th.length;have⟨M,al⟩:=Xq a.el.length;rw[<-aj]at z ag;rw[<-ak]at A ah;rw[<-al]at B ai;have⟨aE,aF⟩:=aA.o a<|QS y;have N:=OF z A B;have am:=On aE aF;obtain⟨bg,bh⟩:=nL c k;have⟨aG,e⟩:=Xq a.kind;have⟨aH,f⟩:=Xq a.name;have⟨aI,g⟩:=Xq a.hd;rw[<-e]at J;rw[<-f]at ae;rw[<-g]at af;have aJ:=OF e f g;have aK:=Ba wr<|mx aG aH aI C K D E L F G M I;have O:=(t.T<|ld.old (b:=b) (show l<=wr from Y) aK)
  have bi:(c+1)*d<=12*d:=Sh _ Y;have an:i+d=r+(c+1)*d:=(by rw[ac.o,Ug];omega);have aL:=X an;have P:i+d<=90000000:=Y;clear j y aj ak al e f g ad aB aC an;go_wp21;have⟨e,f,g⟩:=aJ.o;rw[e,f,g];refine(ap aq l b (u+1) i (wr.alloc<|mx a.kind a.name a.hd C K D E L F G M I) a C K D E L F G M I (by have:=au.wr O R;rw[e,f,g]at this;exact this) R (s.kv<|Ba _ _) ?_ ?_ ?_ am.o.1 am.o.2 ?_ Y<|by rw[<-aa.o];exact P).M ?_;case refine_1=>exact N.o.1.kv (kP.ok .u8 _) λn p=>RY _ _ _<|W<|m.lt n p
  case refine_2=>exact N.o.2.1.kv (kR.ok .u8 _) λn p=>RY _ _ _<|W<|m.lt n p
  case refine_3=>exact N.o.2.2.kv (kR.ok .u8 _) λn p=>RY _ _ _<|W<|m.lt n p
  case refine_4=>have:=m.to O;rw[e,f,g]at this;exact this
  rintro bj aM ⟨rfl,ao,aN⟩;rw[<-aa.o]at ao;have aO:ld l b Q aM:=(by have:=O;rw[e,f,g]at this;exact this.T aN);clear e f g J ae af ag ah ai;go_wp21;go_roundw
  .exact⟨c+1,i+d,Y,aL.o,Ur,ao,aO⟩
  simp[intOf];omega
 obtain rfl:k=c:=Y;have P:i<=r+12*d:=(by rw[ac.o];omega);go_wp21
 go_end0
 exact⟨Z,(s.ind).up P,t.T<|ld.set U.1⟩
def H6:yl Ds=519300:=Un
def Mn(m c g)(e f:Nat)(d)(i:kz kM m c (.slice g e f) d)(r:∀a∈d,a.length<=2520)(F:e<=5)(s:∀n,m n->n<c):Calls prog 91 #[.slice g e f,.string ⟨#[44,32]⟩] c<|qf 12700 c:=by
 have t:=i.len;rcases Sr e with rfl|G;exact join_none c g f;obtain⟨p,o,I,rfl,j,_,_⟩:=i.ll kM.ok 0 d[0]<|Q6 Y;have u:(Lib.join ((d.map λa=>(⟨a.toArray⟩:Se)).map (·.data.toList)) (⟨#[44,32]⟩:Se).data.toList).length<=12700:=join_le _ (λa v=>by obtain⟨J,w,rfl⟩:=Sj.1 v;obtain⟨b,k,rfl⟩:=Sj.1 w;exact r b k) Us
 have:=Tryz.strings_Join p o f (d.map λa=>(⟨a.toArray⟩:Se)) ⟨#[44,32]⟩ c (λq a x=>by obtain⟨b,k,rfl⟩:∃b,d[q]?=some b/\(⟨b.toArray⟩:Se)=a:=(by simpa using x);have⟨K,L,y,l,_,z,A⟩:=i.ll kM.ok q b k;injection l with l;injection l with B C;subst B;subst C;have D:y=[tx b]:=z;subst D;have:=A 0 _ Z;rw[Q1,Ry]at this;exact this) (s p j) Us Us Y
 rw[RN,t.1]at this;apply this.M;rintro M N ⟨E,j⟩;exact⟨_,E,by simpa[ByteArray.size]using u,j⟩
def Ky:(prog.info? 125).map (λa=>(a.zero,a.size,a.bytes))=some (some<|.agg #[Em,Nl,Nl],3,64):=Up
def IK(a:Nat)(i:a<=1000)(b):(Instr.makeSlice 116 (.int .i64 (a:Int))<|.int .i64 (a:Int)).run prog b=.ok (.slice b a a) (b.alloc<|Ft a):=by have⟨d,e,f,c,g⟩:=Rj Ky;have:=Ss (P:=prog) b 116 125 d _ underlying116 e f .i64 .i64 (a:Int) (a:Int) Y (SE _) (by rw[c];simp;omega) (by rw[g];omega) Y;rw[c,RR]at this;exact this
def D5(A e E)(c F:Nat)(f)(G:kz (mA .u8) A e (.slice E c F) f)(U:c<=1000)(V:∀j,A j->j<e)(aa:∀d∈f,∀(p:RW) (r:List R0),Below e e p->(mA .u8) A p r d->Calls prog 77 #[.agg r.toArray] p (qT (mA .u8) d p)):
  Calls prog 76 #[.slice E c F,.func (.func 77) #[] #[]] e (sB (mA .u8) c f e):=by
 have ab:=Gu;unfold mq at ab;have ac:=G.len;have t:=X ac.1;have ad:=G;have I:=V;have ae:=aa;have af:=IK c U e;have⟨g,q⟩:=Xq e.heap.size;have l:mQ (mA .u8) 125 3 g (e.alloc<|Ft c) g c ([]:List Hd):=mQ.start _ (by rw[q];exact QQ _ _) (by rw[SM]);have m:Below g e<|e.alloc<|Ft c:=by rw[q];exact Ba _ _
 rw[<-q]at af;have n:=X q;clear q
 go_enter func76,ntmps76
 go_wp21;generalize e.alloc (Ft c)=p at*;go_loopw [13] (λi wr=>∃a:Nat,a<=c/\i=a/\mQ (mA .u8) 125 3 g wr g c (f.take a)/\Below g e wr) (λi _=>c-(intOf i).toNat)
 .exact⟨0,QZ _,Z,l,m⟩
 obtain⟨a,au,rfl,l,m⟩:=hrel;have av:=l.lt;by_cases aw:a<c
 .obtain⟨d,B⟩:∃d,f[a]?=some d:=Gx<|W t.o;obtain⟨ax,ay,r,rfl,az,J,C⟩:=(ad.kv (mA.ok .u8) λj s=>m.B j<|by rw[n.o];exact I j s).ll (mA.ok .u8) a d B;obtain⟨u,v,w,x,y,z,rfl⟩:=J.opn;have ag:=C 0 _ Z;have aA:=C 1 _ Z;have aB:=C 2 _ Z;rw[Q1]at ag;obtain⟨aC,aD⟩:=nL a c;have D:=Ba wr<|.cells (hR d.name u v w x y z) 125;have ah:=(ae d (QS B) (wr.alloc<|.cells (hR d.name u v w x y z) 125) [tx d.name,(u,v,w),(x,y,z)] (by rw[<-n.o];exact m.T<|D.M<|W n.o)<|(mA.ok .u8).kv J λj s=>D.B j<|Ul (I j s) n.o)
  have ai:=X B;go_wp21;apply ah.M;rintro K L ⟨r,rfl,M,aj⟩;obtain⟨N,O,P,Q,R,S,rfl⟩:=M.opn;have aE:(wr.alloc<|.cells (hR d.name u v w x y z) 125).heap.size=wr+1:=Uo;have T:Below wr wr L:=D.T<|aj.M Y;have k:=(l.kv (mA.ok .u8) T)
  have ak:=(m.T<|T.M Y)
  have al:=k.frozen<|a*3+0;have aF:=k.frozen<|a*3+1;have aG:=k.frozen<|a*3+2;rw[Q1]at al;have aH:a*3+2<c*3:=Y;have⟨aI,aJ⟩:=k.cell (mA.ok .u8) (i:=a*3) Y;have⟨aK,aL⟩:=k.cell (mA.ok .u8) (i:=a*3+1) Y;have⟨aM,aN⟩:=k.cell (mA.ok .u8) (i:=a*3+2) Y;have am:=(show mQ (mA .u8) 125 3 g (kZ L g (a*3) [tx d.name,(N,O,P),(Q,R,S)]) g c (f.take<|a+1)from by have K:f.take (a+1)=f.take a++[d]:=(by rw[Rz,ai.o];rfl);rw[K];have an:(f.take a).length=a:=(by rw[Rm];have:=t.o;omega);exact k.put (mA.ok .u8) ((mA.ok .u8).M M (λj s=>by have⟨aO,ao⟩:=s;have:=n.o;exact⟨Y,ao,Y⟩)) Y<|by rw[an])
  have ap:=(lD (lo:=g) (b:=g) (QX _) (r:=[tx d.name,(N,O,P),(Q,R,S)]) (o:=(a*3)) ak)
  go_wp21;go_roundw
  .exact⟨a+1,Y,Ur,am,ap⟩
  simp[intOf];omega
 obtain rfl:c=a:=Y;have aq:f.take c=f:=Re<|W t.o;rw[aq]at l;go_wp21;go_ret;have ar:=n.o;subst ar;exact⟨Z,l.done (mA.ok .u8) (W t.o) (QX _) Y,m⟩
def KA:(prog.info? 112).map (λa=>(a.zero,a.size,a.bytes))=some (some<|.agg #[Em,Nl,Nl],3,64):=Up
def IM(a:Nat)(i:a<=1000)(b):(Instr.makeSlice 52 (.int .i64 (a:Int))<|.int .i64 (a:Int)).run prog b=.ok (.slice b a a) (b.alloc<|EV a):=by have⟨d,e,f,c,g⟩:=Rj KA;have:=Ss (P:=prog) b 52 112 d _ underlying52 e f .i64 .i64 (a:Int) (a:Int) Y (SE _) (by rw[c];simp;omega) (by rw[g];omega) Y;rw[c,RR]at this;exact this
def D7(A w E)(c F:Nat)(e)(G:kz (mr .u8) A w (.slice E c F) e)(U:c<=1000)(V:∀g,A g->g<w)(aa:∀d∈e,∀(n:RW) (r:List R0),Below w w n->(mr .u8) A n r d->Calls prog 73 #[.agg r.toArray] n (qT (mr .u8) d n)):
  Calls prog 72 #[.slice E c F,.func (.func 73) #[] #[]] w (sB (mr .u8) c e w):=by
 have ab:=Gw;unfold mq at ab;have ac:=G.len;have s:=X ac.1;have ad:=G;have I:=V;have ae:=aa;have af:=IM c U w;have⟨f,p⟩:=Xq w.heap.size;have k:mQ (mr .u8) 112 3 f (w.alloc<|EV c) f c ([]:List Co):=mQ.start _ (by rw[p];exact QQ _ _) (by rw[SM]);have l:Below f w<|w.alloc<|EV c:=by rw[p];exact Ba _ _
 rw[<-p]at af;have m:=X p;clear p
 go_enter func72,ntmps72
 go_wp21;generalize w.alloc (EV c)=n at*;go_loopw [13] (λi wr=>∃a:Nat,a<=c/\i=a/\mQ (mr .u8) 112 3 f wr f c (e.take a)/\Below f w wr) (λi _=>c-(intOf i).toNat)
 .exact⟨0,QZ _,Z,k,l⟩
 obtain⟨a,au,rfl,k,l⟩:=hrel;have av:=k.lt;by_cases aw:a<c
 .obtain⟨d,B⟩:∃d,e[a]?=some d:=Gx<|W s.o;obtain⟨ax,ay,r,rfl,az,J,C⟩:=(ad.kv (mr.ok .u8) λg q=>l.B g<|by rw[m.o];exact I g q).ll (mr.ok .u8) a d B;obtain⟨t,u,v,x,y,z,rfl⟩:=J.opn;have ag:=C 0 _ Z;have aA:=C 1 _ Z;have aB:=C 2 _ Z;rw[Q1]at ag;obtain⟨aC,aD⟩:=nL a c;have D:=Ba wr<|.cells (hR d.name t u v x y z) 112;have ah:=(ae d (QS B) (wr.alloc<|.cells (hR d.name t u v x y z) 112) [tx d.name,(t,u,v),(x,y,z)] (by rw[<-m.o];exact l.T<|D.M<|W m.o)<|(mr.ok .u8).kv J λg q=>D.B g<|Ul (I g q) m.o)
  have ai:=X B;go_wp21;apply ah.M;rintro K L ⟨r,rfl,M,aj⟩;obtain⟨N,O,P,Q,R,S,rfl⟩:=M.opn;have aE:(wr.alloc<|.cells (hR d.name t u v x y z) 112).heap.size=wr+1:=Uo;have T:Below wr wr L:=D.T<|aj.M Y;have j:=(k.kv (mr.ok .u8) T)
  have ak:=(l.T<|T.M Y)
  have al:=j.frozen<|a*3+0;have aF:=j.frozen<|a*3+1;have aG:=j.frozen<|a*3+2;rw[Q1]at al;have aH:a*3+2<c*3:=Y;have⟨aI,aJ⟩:=j.cell (mr.ok .u8) (i:=a*3) Y;have⟨aK,aL⟩:=j.cell (mr.ok .u8) (i:=a*3+1) Y;have⟨aM,aN⟩:=j.cell (mr.ok .u8) (i:=a*3+2) Y;have am:=(show mQ (mr .u8) 112 3 f (kZ L f (a*3) [tx d.name,(N,O,P),(Q,R,S)]) f c (e.take<|a+1)from by have K:e.take (a+1)=e.take a++[d]:=(by rw[Rz,ai.o];rfl);rw[K];have an:(e.take a).length=a:=(by rw[Rm];have:=s.o;omega);exact j.put (mr.ok .u8) ((mr.ok .u8).M M (λg q=>by have⟨aO,ao⟩:=q;have:=m.o;exact⟨Y,ao,Y⟩)) Y<|by rw[an])
  have ap:=(lD (lo:=f) (b:=f) (QX _) (r:=[tx d.name,(N,O,P),(Q,R,S)]) (o:=(a*3)) ak)
  go_wp21;go_roundw
  .exact⟨a+1,Y,Ur,am,ap⟩
  simp[intOf];omega
 obtain rfl:c=a:=Y;have aq:e.take c=e:=Re<|W s.o;rw[aq]at k;go_wp21;go_ret;have ar:=m.o;subst ar;exact⟨Z,k.done (mr.ok .u8) (W s.o) (QX _) Y,l⟩
def lH.lM.sm{k}:∀{d:Nat} {g:Ex},lM k d g->JF d g
 |0,_,b=>b.elim
 |d+1,g,b=>by
  rcases b with⟨e,_,l,n,a⟩|⟨e,_,_,a⟩|⟨e,_,_,a⟩|⟨e,_,_,_,i,a,f⟩|⟨e,_,_,_,a⟩|⟨e,_,_,i,a,f⟩|⟨e,_,_,i,p,a,f,m⟩
  exact⟨λ_=>⟨l,Y⟩,by rw[a];simp⟩;exact⟨λb=>Y,by rw[a];simp⟩;exact⟨λb=>Y,by rw[a];simp⟩;exact⟨λb=>Y,by rw[a];intro j c;simp at c;subst c;exact lM.sm f⟩;exact⟨λb=>Y,by rw[a];simp⟩;exact⟨λb=>Y,by rw[a];intro j c;simp at c;subst c;exact lM.sm f⟩;exact⟨λb=>Y,by rw[a];intro j c;simp at c;rcases c with rfl|rfl;exact lM.sm f;exact lM.sm m⟩
def lH.ny.sm{l}:∀{d:Nat} {g:Ex},ny l d g->JF d g
 |0,_,c=>c.elim
 |d+1,g,c=>by
  rcases c with⟨f,_,_,a⟩|⟨f,_,_,a⟩|⟨f,_,_,_,i,a,e⟩|⟨f,_,_,i,a,e⟩|⟨f,_,_,i,m,a,e,j⟩|⟨f,_,_,i,m,a,e,j⟩
  exact⟨λc=>Y,by rw[a];simp⟩;exact⟨λc=>Y,by rw[a];simp⟩;exact⟨λc=>Y,by rw[a];intro k b;simp at b;subst b;exact e.sm⟩;exact⟨λc=>Y,by rw[a];intro k b;simp at b;subst b;exact ny.sm e⟩;exact⟨λc=>Y,by rw[a];intro k b;simp at b;rcases b with rfl|rfl;exact ny.sm e;exact ny.sm j⟩;exact⟨λc=>Y,by rw[a];intro k b;simp at b;rcases b with rfl|rfl;exact e.sm;exact j.sm⟩
def lH.mR.sm{q}:∀{d:Nat} {k:St},mR q d k->FE d k
 |0,_,f=>f.elim
 |d+1,k,f=>by
  have n:=f.sub;have g:(∀p∈k.lp,JF De p)->FE (d+1) k:=λj=>⟨j,λl b=>mR.sm<|n.1 l b,λl b=>mR.sm<|n.2 l b⟩
  rcases f with⟨i,_,_,_,p,b,f⟩|⟨i,_,_,_,_,_,j,r,b,c,m⟩|⟨i,_,_,_,_,_,j,b,c⟩|⟨i,_,_,⟨j,b,c⟩,_,_⟩|⟨i,_,_,_,⟨j,b,c⟩,_⟩|⟨i,_,_,_,b⟩|⟨i,_,_,_,_,b⟩|⟨i,_,_,_,⟨j,r,b,c,m⟩,_⟩|⟨i,_,_,_,⟨j,b,c⟩,_⟩|⟨i,_,_,_,_,b⟩
  refine g λe a=>?_;rw[b]at a;simp at a;subst a;rcases f with⟨_,_,_,f⟩|⟨_,f⟩
  exact f.sm;exact f.sm;exact g λe a=>(by rw[b]at a;simp at a;rcases a with rfl|rfl;exact c.sm;exact m.sm);exact g λe a=>(by rw[b]at a;simp at a;subst a;exact c.sm);exact g λe a=>(by rw[b]at a;simp at a;subst a;exact c.sm);exact g λe a=>(by rw[b]at a;simp at a;subst a;exact c.sm);exact g λe a=>(b e a).sm;exact g λe a=>(b e a).sm;exact g λe a=>(by rw[b]at a;simp at a;rcases a with rfl|rfl;exact c.sm;exact m.sm);exact g λe a=>(by rw[b]at a;simp at a;subst a;exact c.sm);exact g λe a=>by rw[b]at a;simp at a
def lH.tS.sm{c}(g:tS c):∀a∈c.kH,Lt a:=by
 intro a i;have⟨z,A,_,B,_,C,D,E,_,F,j⟩:=g.ex;have⟨f,k,l⟩:=List.getElem_of_mem i;have m:c.kH[f]?=some a:=by rw[List.getElem?_eq_getElem k,l]
 have⟨G,I,J,K,L,M,N,n,_,_,O,p,_⟩:=(j f a m).ex;refine⟨λP b=>?_,λq r s t u v=>?_⟩;rw[n]at b;unfold nw at b;simp only[List.mem_append,List.mem_map,List.mem_range,List.mem_singleton]at b;rcases b with(⟨d,e,rfl⟩|rfl)|⟨d,e,rfl⟩
 exact⟨Uo,Us⟩;exact⟨Uo,Uo⟩;exact⟨Uo,Uo⟩;have⟨_,_,w⟩:=p q r;have⟨d,e,x⟩:=List.getElem_of_mem t;have⟨Q,R,_,_,y,_⟩:=w d s (by rw[List.getElem?_eq_getElem e,x]);exact(y u v).sm
def IV(d b:Int)(a:Nat)(i:a<=31)(j:bits BinOp.and IntKind.u64 (IntKind.u64.wrap b) 31=(a:Int))(c):Calls prog 220 #[.int .u32 d,b] c λe f=>∃g:Int,e=.returned (.int .u32 g)/\f=c:=by
 have k:IntKind.u64.wrap (32-(a:Int))=32-(a:Int):=Uq
 go_enter func220,ntmps220
 go_wp2;go_ret;exact⟨_,Z,Z⟩
def oz(d a:Int)(c:a∈[7,18,17,19,6,11,25,2,13,22])(b):Calls prog 175 #[.int .u32 d,a] b λe f=>∃g:Int,e=.returned (.int .u32 g)/\f=b:=by
 have i:LJ a<=31/\bits BinOp.and IntKind.u64 (IntKind.u64.wrap<|-a) 31=(LJ a:Int):=by simp only[Rn,Rg,RO]at c;rcases c with rfl|rfl|rfl|rfl|rfl|rfl|rfl|rfl|rfl|rfl<;>decide+kernel
 have k: -100<=a/\a<=100:=by simp only[Rn,Rg,RO]at c;omega
 have l:IntKind.i64.wrap (-a)= -a:=Uq
 have j:=(λb=>IV d (-a) (LJ a) i.1 i.2 b)
 go_enter func175,ntmps175
 go_wp21;apply(j _).M;rintro e f ⟨g,rfl,rfl⟩;go_wp21;go_ret;exact⟨_,Z,Z⟩
def nh.word{c}{a:Nat}(j:nh c a){i:Nat}(k:i<8):∃d:Int,c.cell? (sa a i)=some (.int .u32 d)/\c.frozen? ⟨a,i,none⟩=false/\∀b:Int,nh (c.setCell (sa a i)<|.int .u32 b) a:=by have⟨l,e,m,f,n,p,q,r⟩:=j;have⟨d,g⟩:=f i k;rw[Q7]at g;exact⟨d,kA e _ _ g,kx e i,λb=>⟨l.setIfInBounds i<|.int .u32 b,kr e,by simpa using m,f.set i b<|.inr<|.inr Z,n.set i b<|.inl Y,p,by rw[R7 Y];exact q,r⟩⟩
def Fp(a):(sizeOf<|prog.elem 243).run prog a=.ok 1 a:=Up
def D9(b a:Nat)(f:a<16)(c):(Instr.sliceAt 243 (.pointer<|some ⟨b,8,none⟩) (some<|.int .i64<|4*(a:Int)) (some<|.int .i64<|4*(a:Int)+4) none).run prog c=.ok (.slice (some ⟨b,8+4*a,none⟩) 4<|64-4*a) c:=by
 have d:(4*(a:Int)).toNat=4*a:=Y
 have e:(4*(a:Int)+4).toNat=4*a+4:=Y
 rw[run_sliceAt_array_lh c 243 ⟨b,8,none⟩ H8 .i64 .i64 _ _ Y Y (by rw[zW];omega),Fp,zW,d,e];simp only[Ro,slicedAt];rw[Rh Y];simp[addr_add]
def Ea(b a:Nat)(d:a<64)(c):(Instr.sliceAt 243 (.pointer<|some ⟨b,8,none⟩) (some<|.int .i64 (a:Int)) none none).run prog c=.ok (.slice (some ⟨b,8+a,none⟩) (64-a)<|64-a) c:=by rw[run_sliceAt_array_l c 243 ⟨b,8,none⟩ H8 .i64 _ Y (by rw[zW];omega),Fp,zW,RR];simp only[Ro,slicedAt];rw[Rh Y];simp[addr_add]
abbrev qt(a b c d e f g h):=(#[.int .u32 a,.int .u32 b,.int .u32 c,.int .u32 d,.int .u32 e,.int .u32 f,.int .u32 g,.int .u32 h]:Array Go.Value)
def Nr(c)(a:Nat)(d:a<8)(e f g i j k l m:Int):∃b:Int,(Instr.index 242 (.agg<|qt e f g i j k l m)<|.int .i64 a).run prog c=.ok (.int .u32 b) c:=by
 have n:∃b:Int,((qt e f g i j k l m):Array R0)[a]?=some (.int .u32 b):=by
  match a,d with
  |0,_=>exact⟨_,Z⟩
  |1,_=>exact⟨_,Z⟩
  |2,_=>exact⟨_,Z⟩
  |3,_=>exact⟨_,Z⟩
  |4,_=>exact⟨_,Z⟩
  |5,_=>exact⟨_,Z⟩
  |6,_=>exact⟨_,Z⟩
  |7,_=>exact⟨_,Z⟩
 have⟨b,p⟩:=n;exact⟨b,oB c _ 241 8 _ a _ Up d Up p Up⟩
def nh.at8{c}{b:Nat}(d:nh c b)(i:Nat)(e:i<8):∃a:Int,c.cell? (sa b i)=some (.int .u32 a):=by have⟨a,f,_⟩:=d.word e;exact⟨a,f⟩
def mE.eight{a b}{c:Nat}{d e f g i j k l:Int}(m:b.heap[c]?=some (.cells (qt d e f g i j k l) a)):mE a b c 8:=
 ⟨_,m,Z,λn p=>by
  match n,p with
  |0,_=>exact⟨_,Z⟩
  |1,_=>exact⟨_,Z⟩
  |2,_=>exact⟨_,Z⟩
  |3,_=>exact⟨_,Z⟩
  |4,_=>exact⟨_,Z⟩
  |5,_=>exact⟨_,Z⟩
  |6,_=>exact⟨_,Z⟩
  |7,_=>exact⟨_,Z⟩⟩
abbrev HU:=(λa b=>∃c:Int,a=.int .u8 c:Go.Value->Go.World->Prop)
def og(b:Nat)(c a)(d:nH a b c):Calls prog 17 #[.pointer b] a λe f=>e=.returned (.int .i64 (c.kH.length:Int))/\f=a:=by
 have⟨j,k,l,m,n,p,q,r,s,t,u,v,w,x,y,z,A,g,_⟩:=d;have i:=g.kH.len.1;rw[i]
 go_enter func17,ntmps17
 go_wp2;go_ret;exact⟨Z,Z⟩
def vw(b:Nat)(c a)(d:nH a b c):Calls prog 42 #[.pointer b] a λe f=>e=.returned (.int .i64 (c.kQ.length:Int))/\f=a:=by
 have⟨j,k,l,m,n,p,q,r,s,t,u,v,w,x,y,z,A,g,_⟩:=d;have i:=g.kQ.len.1;rw[i]
 go_enter func42,ntmps42
 go_wp2;go_ret;exact⟨Z,Z⟩
def oa.qD(a b:Ev):Bool:=a.tick==b.tick&&a.comp==b.comp&&a.kind==b.kind&&a.peer==b.peer&&a.n==b.n&&a.copy==b.copy&&a.hd==b.hd&&a.d==b.d&&a.args==b.args
def oa.rA(a b:Ev):qD a b=true↔a=b:=by have⟨c,d,e,f,g,i,j,k,l⟩:=a;have⟨m,n,p,q,r,s,t,u,v⟩:=b;simp[qD,and_assoc]
def oa.base(a:Ev):Ev:=⟨a.tick,a.comp,a.kind,0,a.n,0,a.hd,if a.kind=7 then a.d else 0,a.args⟩
def kF(a:Fl):Nm:=⟨a.kH.map (·.name),a.kQ.map (·.name),lI a⟩
def uA{b}{a:Int}:ot (kF b) a=true↔0<=a/\a<b.kH.length:=by simp[ot,kF]
def Ao{b}{a:Int}:CV (kF b) a=true↔0<=a/\a<b.kQ.length:=by simp[CV,kF]
def BN{b c}:∀(a:List RK),ly (kM b c) (a.map λd=>[tx d]) a
 |[]=>trivial
 |_::a=>⟨Z,BN a⟩
def IY(a:List RK):(a.map λb=>[tx b]).flatten=a.map tx:=by
 induction a with
 |nil=>rfl
 |cons b a c=>simp[c]
def BO{b}{c:Nat}{d a}(e:b.ownsRow c 9 1 d a.length<|a.map tx):kJ kM 9 1 (λ_=>False) b c d a:=⟨a.map λf=>[tx f],by rw[IY];exact e,BN a⟩
def Eb(q d l)(e g:Nat)(b)(j:kz kM q d (.slice l e g) b)(F:e<=1000)(G:∀r,q r->r<d):
  Calls prog 180 #[.slice l e g] d (pw b d):=by
 have m:=j.len;cases l with
 |none=>
  have f:e=0:=by rcases Sr e with f|f;exact f;have⟨s,o,v,c,_⟩:=j.ll kM.ok 0 b[0]<|Q6 Y;cases c
  subst f;obtain rfl:b=[]:=RI m.1;apply(Tryz.slices_Clone_string_nil 0 g d).M;rintro c t ⟨rfl,rfl⟩;exact pw.of (kJ.nil _ _ _ _ _ _)<|Sf _ _
 |some a=>rcases Sr e with f|f;subst f;obtain rfl:b=[]:=RI m.1;apply(Tryz.slices_Clone_string_zero a g d).M;rintro c t ⟨w,rfl,i,_,n⟩;exact pw.of (BO i) n;have⟨s,o,v,c,_,_,_⟩:=j.ll kM.ok 0 b[0]<|Q6 Y;injection c with c;subst c;refine(Tryz.slices_Clone_string s o e g (b.map λx=>(⟨x.toArray⟩:Se)) d Us Y λk y=>?_).M ?_;have u:k<b.length:=(by simpa using y);have⟨I,J,z,p,_,A,B⟩:=j.ll kM.ok k b[k]<|Q6 u;injection p with p;injection p with C D;subst C;subst D;have E:z=[tx b[k]]:=A;subst E;have:=B 0 _ Z;rw[Q1,Ry]at this;rw[this];simp[u];rintro c t ⟨w,rfl,i,_,n⟩;refine pw.of (BO ?_) n;rw[<-m.1]at i;rw[Re Uo,List.map_map]at i;exact i
def Lj{a}{b:Nat}{c}(d:(lI a)[b]?=some c):hL (kF a) (b:Int)=c:=by have e:=(Q9.1 d).1;unfold hL;rw[RB<|uA.2 ⟨Y,by simp[lI]at e;omega⟩];simp[kF,d]
def Di{b}{a:Int}(c:¬(0<=a/\a<b.kH.length)):hL (kF b) a=[]:=by unfold hL;rw[Rh];rw[uA];exact c
def vY{b}(g:mi b){d:Nat}{e}(a:(lI b)[d]?=some e):e.length<=200:=by
 unfold lI at a;rw[RQ]at a;cases hc:b.kH[d]? with
 |none=>rw[hc]at a;cases a
 |some c=>rw[hc]at a;injection a with a;have f:=g.kH c<|QS hc;have i:=rO c.lJ [] λj k=>W<|(f.lJ j k).1;have l:=f.v2;rw[<-a];show(lO [] c.lJ).length<=200;simp at i;omega
def Ec(f c)(j:Nat)(a:Int)(b)(q:yu f c j<|lI b)(r:∀k,f k->k<c)(s:mi b):
  Calls prog 127 #[.pointer j,a] c (pw (hL (kF b) a) c):=by
 have F:(lI b).length=b.kH.length:=by simp[lI]
 have⟨G,l,I,t,m⟩:=q;have J:=kt t 0;have K:=m.len.1;by_cases L:a<0
 .rw[Di Y]
  go_enter func127,ntmps127
  go_wp21;go_ret;exact pw.of (kJ.nil _ _ _ _ _ _)<|Sf _ _
 .by_cases M:(l:Int)<=a
  .rw[Di Y]
   go_enter func127,ntmps127
   go_wp21;go_ret;exact pw.of (kJ.nil _ _ _ _ _ _)<|Sf _ _
  obtain⟨d,rfl⟩:∃d:Nat,a=(d:Int):=⟨a.toNat,Y⟩
  obtain⟨e,g⟩:∃e,(lI b)[d]?=some e:=Gx Y;have u:=vY s g;rw[Lj g];obtain⟨N,O,P,rfl,Q,v,w⟩:=m.ll C0.ok d e g;obtain⟨R,S,T,rfl,i,_,_⟩:=v;obtain⟨x,y,rfl,U⟩:=i.form;have n:=w 0 _ Z;rw[Q1]at n;obtain⟨V,aa⟩:=nL d l;have⟨z,p⟩:=Xq e.length;rw[<-p]at n i u;have A:=X<|Eb f c x z y e i Y r;clear p
  go_enter func127,ntmps127
  go_wp21;apply A.o.M;rintro ab ac ⟨⟨ad,ae,rfl,B⟩,C⟩;have D:=X C;have E:=X B;go_wp21;go_ret;exact⟨⟨_,_,Z,E.o⟩,D.o⟩
def xN(d:Nat)(c:Int)(a b)(e:nH b d a)(f:mi a):Calls prog 87 #[.pointer d,c] b<|pw (hL (kF a) c) b:=by
 have⟨p,g,q,r,s,t,u,v,w,x,y,i,z,A,B,C,D,j,k,E⟩:=e;have l:=(Ec g b i c a k j.lK f)
 go_enter func87,ntmps87
 go_wp21;apply l.M;rintro F G ⟨⟨I,J,rfl,m⟩,n⟩;go_wp21;go_ret;exact⟨⟨_,_,Z,m⟩,n⟩
def lU(d:Nat)(a:Int)(b c)(i:nH c d b):Calls prog 51 #[.pointer d,a] c λf j=>f=.returned (.bool<|ot (kF b) a)/\j=c:=by
 have k:=(og d b c i)
 by_cases g:0<=a
 .have e:ot (kF b) a=decide (a<(b.kH.length:Int)):=(by simp[ot,kF,g]);rw[e]
  go_enter func51,ntmps51
  go_wp21;apply k.M;rintro f l ⟨rfl,rfl⟩;go_wp21;go_ret;exact⟨Z,Z⟩
 have e:ot (kF b) a=false:=by simp[ot,g]
 rw[e]
 go_enter func51,ntmps51
 go_wp21;go_ret;exact⟨Z,Z⟩
def mn(f:Nat)(b c:Int)(a s)(A:nH s f a)(D:mi a):Calls prog 52 #[.pointer f,b,c] s<|kG (.tuple #[tx<|hN (kF a) b c,.bool<|qs (kF a) b c]) s:=by
 have t:=A;have m:=(xN f b a s A D)
 by_cases n:qs (kF a) b c=true
 .rw[n];have j:ot (kF a) b=true/\0<=c/\c<((hL (kF a) b).length:Int):=(by simpa[qs]using n);have⟨k,N,B⟩:=j;obtain⟨p,rfl⟩:∃p:Nat,c=(p:Int):=⟨c.toNat,Y⟩
  obtain⟨q,u⟩:∃q,(hL (kF a) b)[p]?=some q:=Gx Y;have v:hN (kF a) b (p:Int)=q:=by unfold hN;rw[RB n];simp[u]
  rw[v];have⟨E,F⟩:=Xq<|hL (kF a) b;rw[<-F]at m u B;have⟨G,r⟩:=Xq E.length;rw[<-r]at B
  go_enter func52,ntmps52
  go_wp21;apply m.M;rintro g i ⟨⟨w,x,rfl,l⟩,d⟩;rw[<-r]at l⊢;obtain⟨O,P,I,rfl,Q,J,K⟩:=l.ll kM.ok p q u;have L:I=[tx q]:=J;subst L;have M:=K 0 _ Z;rw[Q1,Ry]at M;have e:=(lU f b a i<|t.ku d)
  rw[k]at e;go_wp21;apply e.M;rintro g y ⟨rfl,rfl⟩;go_wp21
  go_ret2
  exact⟨Z,d⟩
 have C:qs (kF a) b c=false:=by cases hq:qs (kF a) b c;rfl;exact absurd hq n
 have v:hN (kF a) b c=[]:=by unfold hN;rw[Rh n]
 rw[C,v];cases OM:ot (kF a) b with
 |false=>
  have k:=OM
  go_enter func52,ntmps52
  go_wp21;apply m.M;rintro g i ⟨⟨w,x,rfl,l⟩,d⟩;have e:=(lU f b a i<|t.ku d)
  rw[k]at e;go_wp21;apply e.M;rintro g y ⟨rfl,rfl⟩;go_wp21
  go_ret2
  exact⟨Z,d⟩
 |true=>
  have j:c<0\/((hL (kF a) b).length:Int)<=c:=by rcases Int.lt_or_le c 0 with z|z;exact .inl z;refine .inr ?_;simp[qs,OM,z]at C;omega
  have k:=OM;have⟨G,r⟩:=Xq<|(hL (kF a) b).length;rw[<-r]at j;rcases j with j|j
  .go_enter func52,ntmps52
   go_wp21;apply m.M;rintro g i ⟨⟨w,x,rfl,l⟩,d⟩;have e:=(lU f b a i<|t.ku d)
   rw[k]at e;go_wp21;apply e.M;rintro g y ⟨rfl,rfl⟩;go_wp21
   go_ret2
   exact⟨Z,d⟩
  have R:¬c<0:=Y
  go_enter func52,ntmps52
  go_wp21;apply m.M;rintro g i ⟨⟨w,x,rfl,l⟩,d⟩;rw[<-r]at l⊢;have e:=(lU f b a i<|t.ku d)
  rw[k]at e;go_wp21;apply e.M;rintro g y ⟨rfl,rfl⟩;go_wp21
  go_ret2
  exact⟨Z,d⟩
def kL{a:RW}{b:Nat}{T:TypeId}{d e f g i j k l m:R0}(c:a.heap[b]?=some (.cells #[d,e,f,g,i,j,k,l,m] T)):
  a.cell? b=some d/\a.cell? (sd b)=some e/\a.cell? (rm b)=some f/\a.cell? (sz b)=some g/\a.cell? (Iv b)=some i/\a.cell? (An b)=some j/\a.cell? (zc b)=some k/\a.cell? (uc b)=some l/\a.cell? (AS b)=some m:=
 ⟨kt c 0,kt c 1,kt c 2,kt c 3,kt c 4,kt c 5,kt c 6,kt c 7,kt c 8⟩
abbrev me(a b c d e f g h i j k):=(#[.int .i64 a,b,.int .u8 (c:Nat),d,e,f,g,h,.slice i j k]:Array Go.Value)
def ru(b:Nat)(a):Calls prog 182 #[.int .u8 (b:Nat)] a λc d=>c=.returned (.bool false)/\d=a:=by
 go_enter func182,ntmps182
 go_wp2;go_ret;exact⟨Uo,Z⟩
def IZ(a b:Nat)(d):Calls prog 130 #[.int .u8 (a:Nat),.int .u8 (b:Nat)] d λc j=>c=.returned (.int .i64<|Lib.compareInt (a:Int) (b:Int))/\j=d:=by
 unfold Lib.compareInt;by_cases f:(a:Int)<(b:Int)
 .rw[RB f]
  go_enter func130,ntmps130
  go_wp21;apply(ru a d).M;rintro c e ⟨rfl,rfl⟩;go_wp21;apply(ru b e).M;rintro c g ⟨rfl,rfl⟩;go_wp21;go_ret;exact⟨Z,Z⟩
 by_cases i:(b:Int)<(a:Int)
 .rw[Rh f,RB i]
  go_enter func130,ntmps130
  go_wp21;apply(ru a d).M;rintro c e ⟨rfl,rfl⟩;go_wp21;apply(ru b e).M;rintro c g ⟨rfl,rfl⟩;go_wp21;go_ret;exact⟨Z,Z⟩
 rw[Rh f,Rh i]
 go_enter func130,ntmps130
 go_wp21;apply(ru a d).M;rintro c e ⟨rfl,rfl⟩;go_wp21;apply(ru b e).M;rintro c g ⟨rfl,rfl⟩;go_wp21;go_ret;exact⟨Z,Z⟩
def zm:∀{b c:List Int},cmpL b c=0↔b=c
 |[],[]=>by simp[cmpL]
 |[],_::_=>by simp[cmpL]
 |_::_,[]=>by simp[cmpL]
 |x::b,y::c=>by
  unfold cmpL;split
  rename_i a
  rw[zm,rB.1 a];simp
  rename_i a
  simp only[a,Sn,false_iff,not_and];exact λd=>absurd (rB.2 d) a
def KM{c:RW}{d:Nat}{e:List Int}{g:TypeId}{f:Array R0}(i:c.heap[d]?=some (.cells f g (0,0))){b:Nat}{a:Int}(j:e[b]?=some a)(k:f=(e.map λa=>Value.int .i64 a).toArray:=by rfl):c.cell? (sa d b)=some (.int .i64 a):=by subst k;exact kA i b _ (by simp[j])
abbrev mc(a b c d e f g h i j k):=(#[.int .i64 a,.int .i64 b,.int .u8 (c:Nat),.int .i64 d,.int .i64 e,.int .i64 f,.int .i64 g,.int .i64 h,.slice i j k]:Array Go.Value)
def vz{c}(b:Int)(d:yo c b)(a)(g:qc c a):Calls prog 25 #[.int .i64 b] a<|kG (tx<|Lib.itoa b) a:=by
 cases c with
 |true=>exact(Tryz.strconv_Itoa b d.1.1 d.1.2 a<|g Z).M λ_ _ ⟨e,k,l,f⟩=>⟨e,by rw[f];exact Lib.below_grow _ _ (QX _) _ _⟩
 |false=>have⟨i,m⟩:=d.2 Z;obtain⟨j,rfl⟩:=TU i;exact(Tryz.strconv_Itoa_small j Y a).M λ_ _ ⟨e,f⟩=>⟨by rw[e,BR],by rw[f];exact Sf _ _⟩
def uE{c}(b:Int)(d:yo c b)(a)(g:qc c a):Calls prog 56 #[.int .i64 b,.int .i64 10] a<|kG (tx<|Lib.itoa b) a:=by
 cases c with
 |true=>exact(Tryz.strconv_FormatInt_10 b d.1.1 d.1.2 a<|g Z).M λ_ _ ⟨e,k,l,f⟩=>⟨e,by rw[f];exact Lib.below_grow _ _ (QX _) _ _⟩
 |false=>have⟨i,m⟩:=d.2 Z;obtain⟨j,rfl⟩:=TU i;exact(Tryz.strconv_FormatInt_10_small j Y a).M λ_ _ ⟨e,f⟩=>⟨by rw[e,BR],by rw[f];exact Sf _ _⟩
def I2(a b:Int)(c):Lib.join ((a::b::c).map Lib.itoa) [44,32]=Lib.itoa a++([44,32]++Lib.join ((b::c).map Lib.itoa) [44,32]):=by rw[Rq,Lib.join_cons,Rq,Lib.join_cons];simp[Lib.joinTail]
def sL:∀(a:List Int),(∀x∈a,oP x)->(Lib.join (a.map Lib.itoa) [44,32]).length<=23*a.length
 |[],_=>by simp[Lib.join]
 |[x],h=>by have:=RT x (h x Uo).1 (h x Uo).2;rw[show Lib.join ([x].map Lib.itoa) [44,32]=Lib.itoa x from Lib.join_one _ _];simp;omega
 |x::y::a,h=>by have e:=RT x (h x Uo).1 (h x Uo).2;have b:=sL (y::a) (λc d=>h c<|by simp[d]);rw[I2];simp only[Q3,Rl,Rp]at b⊢;omega
def GH{K}(L f l M)(c N:Nat)(k)(A:kz lL L f (.slice M c N) k)(ai:∀p,L p->p<f)(aT:c<=4)(q:∀b∈k,yo K b)(aU:l.length<=1000)(aj:qc K f):
  Calls prog 58 #[tx l,.slice M c N] f (kG (tx<|oX l k) f):=by
 have⟨O,Q,R,B,S⟩:=Rj rK;have ak:=Ss (P:=prog) f 76 9 O Em underlying76 Q R .i64 .i64 0 (c:Int) Y Y (by rw[B];simp;omega) (by rw[S];omega) Y;rw[B,Ry,RR,show Int.toNat 0=0 from Z]at ak;have s:=OK Q R B S;have⟨d,C⟩:=Xq<|k.map Lib.itoa;have t:=X C;have j:=X (show d.length=c by rw[C,RN];exact A.len.1);clear C;have al:=X A;have T:=X A.len;have am:=X ai;have U:=X q;have an:=X aj
 go_enter func58,ntmps58
 go_wp21;have ao:=Ba f<|HD c;have ap:=X<|show kJ kM 9 1 (λ_=>False) (f.alloc<|HD c) f (.slice f 0 c) []from⟨[],TD f _ c (QX _) Uw (by simp[madeCells]),trivial⟩;have aq:=X ao;generalize f.alloc (HD c)=aV at*;go_loopw [5,13] (λar D wr=>∃(e:Nat) (r:RE) (m:Nat),e<=c/\D=e/\ar=.slice r e m/\kJ kM 9 1 (λ_=>False) wr f (r,e,m) (d.take e)/\Below f f wr) (λ_ D _=>c-(intOf D).toNat)
 .exact⟨0,_,_,QZ _,Z,Z,ap.o,aq.o⟩
 obtain⟨e,r,m,aW,rfl,rfl,u,V⟩:=hrel;have aa:=X u;have v:=X V;have aX:=V.size;by_cases aY:e<c
 .obtain⟨b,g⟩:∃b,k[e]?=some b:=Gx<|W T.o.1;obtain⟨aZ,ba,E,rfl,bb,q,au⟩:=(al.o.kv lL.ok λp av=>v.o.B p<|am.o p av).ll lL.ok e b g;have F:E=[.int .i64 b]:=q;subst F;have aw:=au 0 _ Z;rw[Q1,Ry]at aw;have ax:=U.o b<|QS g;have ay:=X<|uE b ax wr<|an.o.ku v.o;obtain⟨bc,bd⟩:=nL e c;have az:=X (show d.take (e+1)=d.take e++[Lib.itoa b]by rw[Rz,t.o,RQ,g];simp);have w:=X (show(d.take e).length=e by simp;have:=j.o;omega);go_wp21;apply ay.o.M;rintro i ab ⟨rfl,G⟩;have ac:=X G;have be:=G.size;have ad:=X<|aa.o.ku kM.ok G;have aA:=X<|mG ab [tx<|Lib.itoa b] 9;go_wp2_with (at_builtin;refine kO Z _ _ 76 Z f.heap.size 9 O _ 1 16 underlying76 s.o.1 s.o.2.1 s.o.2.2.1 s.o.2.2.2 Z kM.ok (λ_=>False) _ (d.take e) Z (ad.o.ku kM.ok<|Ba _ _) ⟨ab,0,none⟩ [tx<|Lib.itoa b] (Lib.itoa b) Z aA.o Z ?c3 ?c4 ?c5 ?_);case c3=>rw[w.o];unfold maxLen;omega
  case c4=>rw[w.o];omega
  case c5=>first|omega|(simp;omega)
  intro bf bg x aB _;obtain⟨aC,aD,rfl,_⟩:=x.form;rw[Q3,w.o,show [Lib.itoa b].length=1 from Z]at x;rw[Q3,w.o,show [Lib.itoa b].length=1 from Z];rw[<-az.o]at x;have aE:=X x;have aF:=X<|((v.o.T<|ac.o.M Y).alloc (W ac.o.size) _).grown aB Us λaG i=>(ad.o.ge aG i).1;go_wp21;go_roundw
  .exact⟨e+1,aC,aD,Y,Ur,Z,aE.o,aF.o⟩
  simp[intOf];omega
 obtain rfl:c=e:=Y;have u:=aa.o;rw[Re<|W j.o]at u;have z:=u.sl kM.ok;have aH:=sL k<|yo.all U.o;have bh:k.length=c:=T.o.1;have bi:=j.o;have aI:=X (show Calls prog 91 #[(r,c,m),.string ⟨#[44,32]⟩] wr (kG (tx<|Lib.join d [44,32]) wr)by
  cases r with
  |none=>
   have n:c=0:=by rcases Sr c with n|n;exact n;have⟨ae,o,E,i,_⟩:=z.ll kM.ok 0 d[0]<|Q6<|W j.o;cases i
   subst n;have I:d=[]:=RI j.o;rw[I];apply(Tryz.strings_Join_none none m _ wr).M;rintro i aJ ⟨rfl,rfl⟩;exact⟨Z,Sf _ _⟩
  |some a=>
   rcases Sr c with n|n;subst n;have I:d=[]:=RI j.o;rw[I];apply(Tryz.strings_Join_none (some a) m _ wr).M;rintro i aJ ⟨rfl,rfl⟩;exact⟨Z,Sf _ _⟩;have⟨ae,o,E,i,aK,_,_⟩:=z.ll kM.ok 0 d[0]<|Q6<|W j.o;injection i with i;subst i;have af:((d.map λb=>(⟨b.toArray⟩:Se)).map λb=>b.data.toList)=d:=(by rw[List.map_map];simp[Function.comp_def]);have:=Tryz.strings_Join ae o m (d.map λb=>(⟨b.toArray⟩:Se)) ⟨#[44,32]⟩ wr (λag b g=>by
    rw[RQ]at g;cases hy:d[ag]? with
    |none=>rw[hy]at g;cases g
    |some y=>rw[hy]at g;injection g with g;have⟨bj,bk,aL,J,_,q,aM⟩:=z.ll kM.ok ag y hy;injection J with J;injection J with aN aO;subst aN aO;have F:aL=[tx y]:=q;subst F;have:=aM 0 _ Z;rw[Q1,Ry]at this;rw[this,<-g]) aK.2 (by rw[RN];have:=j.o;omega) (by rw[RN];have:=j.o;have:=z.len.2;omega) (by rw[af,t.o];show(Lib.join _ [44,32]).length<=_;omega)
   rw[af,RN,j.o]at this;exact this)
 have aP:=X (show(Lib.join d [44,32]).length<=92 by rw[t.o];omega);have aQ:=X (show oX l k=l++([40]++(Lib.join d [44,32]++[41]))by rw[t.o];rfl);generalize Lib.join d [44,32]=ah at*;go_wp21;apply aI.o.M;rintro i bl ⟨rfl,aR⟩;have aS:=X aR;have aH:=aP.o;go_wp21;go_ret;refine⟨?_,v.o.T<|aS.o.M Y⟩;rw[aQ.o];show Ending.returned (.string<|((⟨l.toArray⟩:Se)++⟨[40].toArray⟩)++⟨ah.toArray⟩++⟨[41].toArray⟩)=Ending.returned (.string ⟨(l++([40]++(ah++[41]))).toArray⟩);rw[kY,kY,kY];simp only[Ru]
def pS{b a}(e:b.length<=12)(f:a.length<=4)(c:∀d∈a,oP d):(oX b a).length<=110:=by have:=sL a c;unfold oX;simp only[Q3,Rl,Rp];omega
def uo.drew{w:RW}{a b:Nat}{c d:Array R0}{x:RW}(e:uo w a b c d x):uo w a b c d {x with drawn:=x.drawn+1}:=e.ku (Sf _ _).drew
def kI.rY(b:Se):∀(n a:Nat),b.size-a<=n->(oU b a).length<=n
 |0,a,h=>by rw[rT b a<|by omega];simp
 |n+1,a,h=>by by_cases c:a<b.size;have d:=qZ b a c;rw[tO b a c];have:=rY b n (rI b a) Y;simp;omega;rw[rT b a c];simp
def kI.vZ(a:Se):(lexB a).length<=a.size:=rY a _ _ Y
def qR.tu(T:lj)(b:RK)(a:Nat):Option Nat:=if ow T a=b then some (a+1)else none
def qR.pD{b:Type}(a:lj)(c:Nat->Option (b×Nat)):Nat->Nat->Option (List b×Nat)
 |0,_=>none
 |k+1,p=>match c p with
  |none=>none
  |some (x,q)=>if ow a q=[44]then
    match pD a c k (q+1)with
    |some (xs,r)=>some (x::xs,r)
    |none=>none
   else if ow a q=[41]then some ([x],q+1)else none
def qR.tI{c:Type}(a:lj)(d:Nat->Option (c×Nat))(b:Nat):Option<|List c×Nat:=
 if ow a b=[40]then(if ow a (b+1)=[41]then some ([],b+2)else pD a d a.length (b+1))else none
def qR.vO(T:lj)(b:Nat):Option<|St×Nat:=
 if ow T b=[115,101,110,100]then do
  let (a,b)<-wh T (b+1)
  let b<-tu T [46] b
  let (h,b)<-wh T b
  let (xs,b)<-tI T (qE T) b
  let b<-tu T [59] b
  some (.mk 6 a h xs [] [],b)
 else none
def qR.qV(T:lj):Nat->Nat->Option (List St×Nat)
 |0,_=>none
 |k+1,p=>if ow T p=[125]then some ([],p+1)else
  match vO T p with
  |none=>none
  |some (s,q)=>match qV T k q with
   |some (l,r)=>some (s::l,r)
   |none=>none
def qR.uX(T:lj)(a:Nat):Option<|List St×Nat:=if ow T a=[123]then qV T (T.length+1) (a+1)else none
def qR.sD(T:lj)(c:Nat):Option<|Hd×Nat:=do
 let (a,c)<-wh T c
 let (l,c)<-tI T (wh T) c
 let (b,c)<-uX T c
 some (⟨a,l,b⟩,c)
def qR.Ib{c:Type}(b:lj)(f:Nat->Option (c×Nat))(a:Nat)(d:List c)(e:Nat):Prop:=
 (ow b a=[44]/\∃g,pD b f g (a+1)=some (d,e))\/(ow b a=[41]/\d=[]/\e=a+1)
def qR.rQ{p:Type}{c:lj}{d:Nat->Option (p×Nat)}:∀{k f g:Nat} {i:List p},pD c d k f=some (i,g)->∃e b q,d f=some (e,b)/\i=e::q/\Ib c d b q g
 |0,_,_,_,a=>by cases a
 |k+1,f,g,i,a=>by
  unfold pD at a;cases hi:d f with
  |none=>rw[hi]at a;cases a
  |some y=>
   have⟨e,b⟩:=y;rw[hi]at a;simp only at a;by_cases j:ow c b=[44];rw[if_pos j]at a;cases hr:pD c d k (b+1)with
   |none=>rw[hr]at a;cases a
   |some z=>have⟨r,s⟩:=z;rw[hr]at a;injection a with a;injection a with l m;subst l m;exact⟨e,b,_,Z,Z,.inl ⟨j,k,hr⟩⟩
   rw[if_neg j]at a;by_cases n:ow c b=[41];rw[if_pos n]at a;injection a with a;injection a with l m;subst l m;exact⟨e,b,[],Z,Z,.inr ⟨n,Z,Z⟩⟩;rw[if_neg n]at a;cases a
def pT(b:Nat):∀(r:List R0) (o:Nat) (a:RW),a.grownBy (kZ a b o r)<|some b
 |[],_,a=>lC a _
 |u::r,o,a=>ky (kE a b o u)<|pT b r (o+1) _
def qR.GV{T:lj}{c d:Nat}{b:lH.Ex}(a:qE T c=some (b,d)):b.args=[]:=by have⟨_,a⟩:=Go.Proofs.YtbdipimmpgijaaaGreatDoor.tk (Go.Proofs.YtbdipimmpgijaaaGreatDoor.oJ a).1;rcases a with⟨_,e,_,rfl⟩|⟨_,_,f,_,rfl⟩<;>rfl
def qR.BX{T:lj}{b c:Nat}{d:lH.Ex}(a:qE T b=some (d,c)):b<c:=by
 have⟨_,a⟩:=Go.Proofs.YtbdipimmpgijaaaGreatDoor.tk (Go.Proofs.YtbdipimmpgijaaaGreatDoor.oJ a).1;rcases a with⟨_,e,a,_⟩|⟨_,_,f,a,_⟩
 have:=(Go.Proofs.YtbdipimmpgijaaaGreatDoor.BU a).2.2.2.2.2.1;omega;have:=(Go.Proofs.YtbdipimmpgijaaaGreatDoor.rv a).2.2.1;omega
abbrev DE(a b c d e f):=(.cells #[.int .u8 a,tx b,tx c,.slice d e f,Nl,Nl] 198:Go.Obj)
def qR.rL{T:lj}{a b:Nat}{c}(d:wh T a=some (c,b)):a<b:=W<|(Go.Proofs.YtbdipimmpgijaaaGreatDoor.rv d).2.2.1
def one_set{b:RW}{a:Nat}{u v:R0}{c:TypeId}(d:b.heap[a]?=some (.cells #[u] c)):(b.setCell a v).heap[a]?=some (.cells #[v] c):=kr d
def pB(w:RW)(a b:Nat)(c:Se)(d:Bool):Prop:=w.heap[a]?=some (.cells #[.pointer b,.string c,d] 58)
def pB.rest{w:RW}{a b:Nat}{e:Se}{c:Bool}(f:pB w a b e c)(d:Se):pB (w.setCell (sd a)<|.string d) a b d c:=kr f
def pB.fail{w:RW}{a c:Nat}{d:Se}{e:Bool}(f:pB w a c d e)(b:Bool):pB (w.setCell (rm a)<|.bool b) a c d b:=kr f
def Dl(a:RW)(b:Ending)(c:RW):Prop:=(∃d,b=.returned (.bool d))/\c=a
def G2(a:Int)(b:RW):Calls prog 38 #[.int .u8 a] b<|Dl b:=by
 by_cases c:a=45;all_goals by_cases d:(48:Int)<=a
 all_goals by_cases e:a<=57
 all_goals try omega
 all_goals
  go_enter func38,ntmps38
  go_wp21;go_ret;exact⟨⟨_,Z⟩,Z⟩
structure vR(w:RW):Prop where
 QH:∃ev,w.cell? ⟨1,0,none⟩=some ev/\(ev=.nilIface\/∃te pe,ev=.iface te pe)
 ran:∃ev,w.cell? ⟨2,0,none⟩=some ev/\(ev=.nilIface\/∃te pe,ev=.iface te pe)
