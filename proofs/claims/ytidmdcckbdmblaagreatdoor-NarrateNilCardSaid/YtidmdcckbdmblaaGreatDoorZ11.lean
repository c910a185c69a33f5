import Derived.Test.YtidmdcckbdmblaaGreatDoorZ7
import Derived.Test.YtidmdcckbdmblaaGreatDoorZ8
import Derived.Test.YtidmdcckbdmblaaGreatDoorZ10
set_option maxRecDepth 1000000
set_option maxHeartbeats 32000000
set_option linter.all false
namespace Go.Proofs.YtidmdcckbdmblaaGreatDoor
open Go.RowKit jJ Go.Proofs.Tryz
theorem Bl(W w z)(j c1:Nat)(A)(l c2:Nat)(D)(g c3:Nat)(f)(hL:jV w)(hf:nE W w z j c1 A l c2 D g c3 f)(J:kr f):
  Calls prog 162 #[.agg #[tx f.name,.slice z j c1,.slice A l c2,.slice D g c3]] w (jf (.bool true) w):=by
 have X:=hf.jl;have Y:=hf.kj;have R:=hf.jh;have hS:=hf.jY;have aR:j<=2:=by rw[<-X.len.1];exact J.yr
 have aS:l<=9:=by rw[<-Y.len.1];exact J.AZ
 have aT:g<=3:=by rw[<-R.len.1];exact J.c3
 have aU:1<=g:=by rw[<-R.len.1];exact J.c1
 have aV:=X.len.2;have aW:=Y.len.2;have aX:=R.len.2;have aD:=JH X.len.1;have aE:=JH Y.len.1;have aF:=JH R.len.1;have Z:Below w w (w.alloc (.cells #[tx f.name,.slice z j c1,.slice A l c2,.slice D g c3] 84)):=Ba _ _;have ai:=JK w (.cells #[tx f.name,.slice z j c1,.slice A l c2,.slice D g c3] 84);have aY:(w.alloc (.cells #[tx f.name,.slice z j c1,.slice A l c2,.slice D g c3] 84)).heap.size=w+1:=LG
 have K:=(hf.iU Z)
 have L:=J;have n:=(hL.to Z)
 have S:=JH ai;clear hS ai
 go_enter func162,ntmps162
 go_wp2_with fail;refine(lr f.name L.name _ n.names).M ?_;rintro e G ⟨rfl,rfl⟩;generalize w.alloc (.cells #[tx f.name,.slice z j c1,.slice A l c2,.slice D g c3] 84)=B at*;have aa:w.heap.size<B:=LC
 have t:=JH K.jY;have aG:=K.jl;have aH:=K.kj;have aI:=K.jh;have a:=(Below.refl B B)
 obtain⟨⟨ab,ac,ad,ae⟩,_⟩:=jA S.o;go_wp2_with fail;go_loopw [3,18] (λv i wr=>∃k:Nat,k<=j/\i=k/\v=.bool true/\Below B B wr) (λ_ i _=>j-(intOf i).toNat);case atStart=>exact⟨0,JV _,rfl,rfl,a⟩
 case round=>
  obtain⟨c,aj,rfl,rfl,a⟩:=hrel;have ak:=a.size;by_cases al:c<j
  .obtain⟨b,hx⟩:∃x,f.jl[c]?=some x:=Gx (LA aD.o);obtain⟨u,am,r,rfl,E,hr,d⟩:=(aG.iV kY.ok (λq m=>a.B q (t.o q m))).jr kY.ok c b hx;have M:r=[tx b.name,.bool b.init]:=hr;subst M;have N:=d 0 _ rfl;have af:=d 1 _ rfl;rw[JT]at N;have an:u<wr:=LA (t.o u E);have O:=JM hx;have ao:(0:Int)<=(c:Int):=LC;have ap:(c:Int)<(j:Int):=LC;clear d hx;have T:=L.jl b O;have p:=(a.alloc LC (.cells #[tx b.name,.bool b.init] 171))
   go_wp2_with fail;refine(lr b.name T _ (n.names.iU p n.low.1)).M ?_;rintro e G ⟨rfl,rfl⟩;have a:=p;go_wp2_with fail;go_roundw;case rel=>exact⟨c+1,LC,LI,rfl,a⟩
   case measure=>simp[intOf];omega
  obtain rfl:j=c:=LC;obtain⟨⟨ab,ac,ad,ae⟩,_⟩:=jA ((a.B _ aa).T S.o);have aq:w.heap.size<wr:=LA a.size;go_wp2_with fail;go_loopw [3,32] (λv i wr=>∃k:Nat,k<=l/\i=k/\v=.bool true/\Below B B wr) (λ_ i _=>l-(intOf i).toNat);case atStart=>exact⟨0,JV _,rfl,rfl,a⟩
  case round=>
   obtain⟨c,aj,rfl,rfl,a⟩:=hrel;have a:=a;have ak:=a.size;by_cases al:c<l
   .obtain⟨b,hx⟩:∃x,f.kj[c]?=some x:=Gx (LA aE.o);obtain⟨u,am,r,rfl,E,hr,d⟩:=(aH.iV nr.ok (λq m=>a.B q (t.o q m))).jr nr.ok c b hx;have M:r=[tx b.a,tx b.b,.int .i64 b.tL]:=hr;subst M;have N:=d 0 _ rfl;have af:=d 1 _ rfl;have ar:=d 2 _ rfl;rw[JT]at N;have an:u<wr:=LA (t.o u E);have O:=JM hx;have ao:(0:Int)<=(c:Int):=LC;have ap:(c:Int)<(l:Int):=LC;clear d hx;have T:=L.kj b O;have p:=(a.alloc LC (.cells #[tx b.a,tx b.b,b.tL] 172))
    have au:=JH T;clear T;go_wp2_with fail;refine(lr b.a au.o.1 _ (n.names.iU p n.low.1)).M ?_;rintro e G ⟨rfl,rfl⟩;go_wp2_with fail;refine(lr b.b au.o.2.1 _ (n.names.iU p n.low.1)).M ?_;rintro e G ⟨rfl,rfl⟩;have a:=p;go_wp2_with fail;go_roundw;case rel=>exact⟨c+1,LC,LI,rfl,a⟩
    case measure=>simp[intOf];omega
   obtain rfl:l=c:=LC;obtain⟨⟨ab,ac,ad,ae⟩,_⟩:=jA ((a.B _ aa).T S.o);have aq:w.heap.size<wr:=LA a.size;go_wp2_with fail;go_loopw [3,51] (λv i wr=>∃k:Nat,k<=g/\i=k/\v=.bool true/\Below B B wr) (λ_ i _=>g-(intOf i).toNat);case atStart=>exact⟨0,JV _,rfl,rfl,a⟩
   case round=>
    obtain⟨c,aj,rfl,rfl,a⟩:=hrel;have a:=a;have ak:=a.size;by_cases al:c<g
    .obtain⟨b,hx⟩:∃x,f.jh[c]?=some x:=Gx (LA aF.o);obtain⟨u,am,r,rfl,E,hr,d⟩:=(aI.iV (kL.ok .u8) (λq m=>a.B q (t.o q m))).jr (kL.ok .u8) c b hx;obtain⟨v1,v2,rfl,ag,ah⟩:=hr;obtain⟨av,cv,rfl,hcv⟩:=ag.form;obtain⟨aw,ax,rfl,hce⟩:=ah.form;have N:=d 0 _ rfl;have af:=d 1 _ rfl;have ar:=d 2 _ rfl;rw[JT]at N;have an:u<wr:=LA (t.o u E);have O:=JM hx;have ao:(0:Int)<=(c:Int):=LC;have ap:(c:Int)<(g:Int):=LC;clear d hx;have P:=L.jh b O;obtain⟨y,U⟩:=Xq b.vars.length;obtain⟨V,Q⟩:=Xq b.jG.length;rw[<-U]at af ag hcv;rw[<-Q]at ar ah hce;have aZ:y<=5:=(by rw[U];exact P.yq);have ba:V<=2:=(by rw[Q];exact P.v2);have bb:1<=V:=(by rw[Q];exact P.v1);have aJ:=JH U.symm;have bc:=JH Q.symm;obtain⟨C,I⟩:=Xq (wr.alloc (.cells #[tx b.name,.slice av y cv,.slice aw V ax] 176));have bd:C.heap.size=wr+1:=(by rw[I];simp);have p:=(show Below B B C by rw[I];exact a.alloc LC _)
     have ay:wr.grownBy C none:=(by rw[I];exact Kd _ _ none);have aK:=(ag.iV (nU.ok .u8) (w':=C) (λq m=>ay.B q (LA (t.o q m)) LG))
     have be:=(ah.iV (ly.ok .u8) (w':=C) (λq m=>ay.B q (LA (t.o q m)) LG))
     have az:=JH (show∀q,W q->q<C from λq m=>LA (t.o q m));clear U Q;have aL:=P.name;have aA:C.heap[wr.heap.size]?=some (.cells #[tx b.name,.slice av y cv,.slice aw V ax] 176 (0,0)):=(by rw[I];exact JK _ _);have bf:wr.heap.size<C:=LC;go_wp2_with fail;rw[<-I];refine(lr b.name aL _ (n.names.iU p n.low.1)).M ?_;rintro e G ⟨rfl,rfl⟩;obtain⟨⟨bg,bh,bi⟩,_⟩:=jz aA;clear I aA;go_wp2_with fail;have a:=(Below.refl C C)
     go_loopw [3,64] (λv i wr=>∃k:Nat,k<=y/\i=k/\v=.bool true/\Below C C wr) (λ_ i _=>y-(intOf i).toNat);case atStart=>exact⟨0,JV _,rfl,rfl,a⟩
     case round=>
      obtain⟨F,bj,rfl,rfl,a⟩:=hrel;have a:=a;have bk:=a.size;by_cases bl:F<y
      .obtain⟨s,hx⟩:∃x,b.vars[F]?=some x:=Gx (LA aJ.o);obtain⟨aB,bm,r,rfl,E,hr,d⟩:=(aK.iV (nU.ok .u8) (λq m=>a.B q (az.o q m))).jr (nU.ok .u8) F s hx;have M:r=[tx s.name,.int .u8 s.ty,.int .i64 s.init]:=hr;subst M;have aM:=d 0 _ rfl;have bn:=d 1 _ rfl;have bo:=d 2 _ rfl;rw[JT]at aM;have bp:aB<wr:=LA (az.o aB E);have aN:=JM hx;have bq:(0:Int)<=(F:Int):=LC;have br:(F:Int)<(y:Int):=LC;clear d hx;have aO:=(P.vars s aN).name;have p:=(p.T ((a.alloc LC (.cells #[tx s.name,.int .u8 s.ty,s.init] 179)).M LC))
       have aP:=(a.alloc LC (.cells #[tx s.name,.int .u8 s.ty,s.init] 179))
       go_wp2_with fail;refine(lr s.name aO _ (n.names.iU p n.low.1)).M ?_;rintro e G ⟨rfl,rfl⟩;have a:=aP;go_wp2_with fail;go_roundw;case rel=>exact⟨F+1,LC,LI,rfl,a⟩
       case measure=>simp[intOf];omega
      obtain rfl:y=F:=LC;have a:=(p.T (a.M LC))
      go_wp2_with fail;go_roundw;case rel=>exact⟨c+1,LC,LI,rfl,a⟩
      case measure=>simp[intOf];omega
    obtain rfl:g=c:=LC;obtain⟨⟨ab,ac,ad,ae⟩,_⟩:=jA ((a.B _ aa).T S.o);have aq:w.heap.size<wr:=LA a.size;go_wp2_with fail;have aC:=(Z.T (a.M LC))
    refine(lW 219 vN yN W wr z j c1 A l c2 D g c3 f (n.to a) (K.iU a) L).M ?_;rintro e G ⟨rfl,aQ⟩;go_wp2_with fail;go_ret;exact⟨rfl,aC.T (aQ.M aC.size)⟩
theorem Bw(d:Nat)(cl:Ai d)(cm:CR d):FQ (d+1):=by
 intro aM t w cb u y z D hd own p s A params V aH W aN o h T i ai name aO cn th el aY ab c1 bc bd c4 aZ ba c5 d' hd bV ae bw co ax;obtain rfl:d=d':=LC
 obtain⟨cp,cq,bx,bz,bA,bB⟩:=co;simp only[St.kind,St.name,St.jy,St.th,St.el]at cp cq bx bz bA bB;have dj:ab<=5:=LA bV.len.1
 have bW:=Ba w (.cells #[.int .u8 ai,tx name,tx aO,.slice aY ab c1,.slice bc bd c4,.slice aZ ba c5] 270);have cr:=JH (JK w (.cells #[.int .u8 ai,tx name,tx aO,.slice aY ab c1,.slice bc bd c4,.slice aZ ba c5] 270));have dk:=(JJ.1 h.c).1;have bX:=h.own.ge;have be:=JH (show w<(w.alloc (.cells #[.int .u8 ai,tx name,tx aO,.slice aY ab c1,.slice bc bd c4,.slice aZ ba c5] 270)).heap.size/\w≠cb/\some w.heap.size≠V.ownBlock from⟨LG,LC,λe=>LA ((bX _ e.symm).2)⟩);have H:=(h.iU bW)
 have cs:=(kQ.iU (cb:=cb) (V:=V) bW)
 have ct:=JH bx;have cu:=JH bz;have bY:=JH bA;have bC:=JH bB;have bZ:=cl;have bD:=cm;obtain⟨cv,c,rfl⟩:=h.form;have dl:aH.length<=90000:=LC
 clear h bx bz bA bB bX hd
 go_enter func282,ntmps282
 go_wp2_with fail;refine(jt t _ cb u y z D hd own p s A params cv _ c aH ⟨29,0,0,0⟩ H LC).M ?_;rintro e ca ⟨rfl,cw,cc,cx,k,l⟩;obtain⟨I,G⟩:=k.k _ be.o.1 be.o.2.1 be.o.2.2;obtain⟨C,cd⟩:=Xq w.heap.size;have bp:=I.T cr.o;have bE:w.heap.size<ca:=JI be.o.1 k.size;have ak:=be.o.2.1;rw[<-cd]at bp bE G ak⊢;have cy:=JH bp;have cz:=JH G;obtain⟨⟨N,M,O,P,Q,R⟩,_⟩:=kU bp;have cA:=(cs.T k)
 have cB:=JH l;have ce:cc.length=aH.length+1:=by rw[l];simp
 have cC:=JH ce;have cf:ab*mZ De<=315:=by rw[JA];omega
 clear I G bp l cd ce;go_wp2_with fail;clear N M O P Q R;refine(yP De aM t ca cb u y z D hd own p s A params cw cc aY ab c1 cn cx T bV ct.o (LB cC.o cf) LC).M ?_;rintro e B ⟨rfl,U,j,E,k,l⟩;obtain⟨I,G⟩:=k.k C bE ak cz.o;have bF:=I.T cy.o;have an:=JH bF;have bq:=JH G;have ac:C<B:=JI bE k.size;have ao:=((kE.one cB.o ⟨LG,LG,λh=>by rcases h with h|h<;>simp at h,λh=>by rcases h with h|h<;>simp at h⟩).T l.Jw (q:=316) (LA cf))
 have bG:=ao.len;have aA:=JH bG;obtain⟨J,c2,rfl⟩:=E.form;have ay:=(cA.T k)
 have dm:j.length<=95000:=LC
 have dn:aH.length<=j.length:=bG.1;obtain⟨⟨N,M,O,P,Q,R⟩,_⟩:=kU bF;clear I G bF bG;have cD:ai=1\/ai=2\/ai=3\/ai=4\/ai=5\/ai=6\/ai=7\/ai=8\/ai=9\/ai=10:=LC
 rcases cD with rfl|rfl|rfl|rfl|rfl|rfl|rfl|rfl|rfl|rfl
 .go_wp2_with fail;refine rr (λx=>kn t cb u y z D hd own p s A params (.slice J j.length c2) j x/\Below B B x) (λv w=>∃(U:Value) (F:List In) (r:Int),kn t cb u y z D hd own p s A params U F w/\kQ cb (.slice J j.length c2) B U w/\F=j++[⟨24,r,0,0⟩]) (kN [(Pp cb 0),(Pp cb 0),(Pp cb 0),(Pp cb 6),(·=p),(Pp C 1),(·=tx name),Tr,Tr,Tr]) [(7,λv w=>∃r:Int,v=r),(8,λv w=>∃r:Int,v=.agg #[.int .u8 24,r,.int .i64 0,.int .i64 0])] (⟨E.iU (Below.refl _ _).drew,(Below.refl _ _).drew⟩) ⟨?_,?_,?_,?_,?_,?_,?_,?_,?_,?_,trivial⟩ ?_;exact Pf 0;exact Pf 0;exact Pv 25 1;exact Pv 26 2;intro n w a i f hd hw;exact .l 27 (f 3 _ rfl rfl) (iT a.1.c 6 _ rfl) ⟨rfl,a,Qa⟩;exact Pf 3;intro n w a i f hd hw;have dp:=Sv 29 f 5;obtain⟨⟨N,M,O,P,Q,R⟩,_⟩:=kU ((a.2.B C ac).T an.o);replace a:=Hq a;exact .q (g:=⟨rfl,a.o,Qa⟩);intro n w a i f hd hw;have dq:=Sv 28 f 4;have dr:=Sv 30 f 6;clear i f hd hw;replace a:=Hq a;refine .h λK hK=>?_;go_simp;refine⟨rfl,?_⟩;refine Calls.M (kC a.o.1 T.jY T.vars name) ?_;rintro e w' ⟨r,he,hw⟩;subst hw;subst he;exact⟨_,rfl,hK ⟨trivial,a.o,Qc ⟨r,rfl⟩<|Qb<|Qe⟩⟩;intro n w a i f hd hw;obtain⟨r,cE⟩:=hd _ (Mm 0 rfl) _ rfl rfl;have ds:=Sl 31 cE;exact .q (g:=⟨trivial,a,Qb<|Qc ⟨r,rfl⟩<|Qa⟩);intro n w a i f hd hw;have dt:=Sv 24 f 0;obtain⟨r,cF⟩:=hd _ (Mm 1 rfl) _ rfl rfl;have du:=Sl 32 cF;clear i f hd hw;replace a:=Hq a;refine .h λK hK=>?_;go_simp;refine⟨rfl,?_⟩;refine Calls.M (jt t w cb u y z D hd own p s A params J _ c2 j ⟨24,r,0,0⟩ a.o.1 LC) ?_;rintro e w' ⟨he,U,F,E,k,l⟩;subst he;refine⟨_,rfl,?_⟩;exact hK (⟨U,F,r,E,(kQ.iU a.o.2).T k,l⟩);intro aP bb ae al;obtain⟨aI,F,r,E,k,l⟩:=al;have S:=JH (And.intro E (And.intro (ay.T k) (ao.snoc (m:=400*(1+jw d th+jw d el)) l ⟨LG,LG,λh=>by rcases h with h|h<;>simp at h,λh=>by rcases h with h|h<;>simp at h⟩ LC)));clear l ae;simp only[je,Act.put,JL,JP,JO];go_wp2_with fail
  go_end0
  exact⟨rfl,_,_,S.o.1,S.o.2.1,S.o.2.2⟩
 .go_wp2_with fail;refine rr (λx=>kn t cb u y z D hd own p s A params (.slice J j.length c2) j x/\Below B B x) (λv w=>∃(U:Value) (F:List In) (r:Int),kn t cb u y z D hd own p s A params U F w/\kQ cb (.slice J j.length c2) B U w/\F=j++[⟨25,r,0,0⟩]) (kN [(Pp cb 0),(Pp cb 0),(Pp cb 0),(Pp cb 7),(·=s),(Pp C 1),(·=tx name),Tr,Tr,Tr]) [(7,λv w=>∃r:Int,v=r),(8,λv w=>∃r:Int,v=.agg #[.int .u8 25,r,.int .i64 0,.int .i64 0])] (⟨E.iU (Below.refl _ _).drew,(Below.refl _ _).drew⟩) ⟨?_,?_,?_,?_,?_,?_,?_,?_,?_,?_,trivial⟩ ?_;exact Pf 0;exact Pf 0;exact Pv 37 1;exact Pv 38 2;intro n w a i f hd hw;exact .l 39 (f 3 _ rfl rfl) (iT a.1.c 7 _ rfl) ⟨rfl,a,Qa⟩;exact Pf 3;intro n w a i f hd hw;have dv:=Sv 41 f 5;obtain⟨⟨N,M,O,P,Q,R⟩,_⟩:=kU ((a.2.B C ac).T an.o);replace a:=Hq a;exact .q (g:=⟨rfl,a.o,Qa⟩);intro n w a i f hd hw;have dw:=Sv 40 f 4;have dx:=Sv 42 f 6;clear i f hd hw;replace a:=Hq a;refine .h λK hK=>?_;go_simp;refine⟨rfl,?_⟩;refine Calls.M (kC a.o.1 T.jY T.kg name) ?_;rintro e w' ⟨r,he,hw⟩;subst hw;subst he;exact⟨_,rfl,hK ⟨trivial,a.o,Qc ⟨r,rfl⟩<|Qb<|Qe⟩⟩;intro n w a i f hd hw;obtain⟨r,cG⟩:=hd _ (Mm 0 rfl) _ rfl rfl;have dy:=Sl 43 cG;exact .q (g:=⟨trivial,a,Qb<|Qc ⟨r,rfl⟩<|Qa⟩);intro n w a i f hd hw;have dz:=Sv 36 f 0;obtain⟨r,cH⟩:=hd _ (Mm 1 rfl) _ rfl rfl;have dA:=Sl 44 cH;clear i f hd hw;replace a:=Hq a;refine .h λK hK=>?_;go_simp;refine⟨rfl,?_⟩;refine Calls.M (jt t w cb u y z D hd own p s A params J _ c2 j ⟨25,r,0,0⟩ a.o.1 LC) ?_;rintro e w' ⟨he,U,F,E,k,l⟩;subst he;refine⟨_,rfl,?_⟩;exact hK (⟨U,F,r,E,(kQ.iU a.o.2).T k,l⟩);intro aP bb ae al;obtain⟨aI,F,r,E,k,l⟩:=al;have S:=JH (And.intro E (And.intro (ay.T k) (ao.snoc (m:=400*(1+jw d th+jw d el)) l ⟨LG,LG,λh=>by rcases h with h|h<;>simp at h,λh=>by rcases h with h|h<;>simp at h⟩ LC)));clear l ae;simp only[je,Act.put,JL,JP,JO];go_wp2_with fail
  go_end0
  exact⟨rfl,_,_,S.o.1,S.o.2.1,S.o.2.2⟩
 .go_wp2_with fail;refine rr (λx=>kn t cb u y z D hd own p s A params (.slice J j.length c2) j x/\Below B B x) (λv w=>∃(U:Value) (F:List In) (r:Int),kn t cb u y z D hd own p s A params U F w/\kQ cb (.slice J j.length c2) B U w/\F=j++[⟨26,r,0,0⟩]) (kN [(Pp cb 0),(Pp cb 0),(Pp cb 0),(Pp cb 7),(·=s),(Pp C 1),(·=tx name),Tr,Tr,Tr]) [(7,λv w=>∃r:Int,v=r),(8,λv w=>∃r:Int,v=.agg #[.int .u8 26,r,.int .i64 0,.int .i64 0])] (⟨E.iU (Below.refl _ _).drew,(Below.refl _ _).drew⟩) ⟨?_,?_,?_,?_,?_,?_,?_,?_,?_,?_,trivial⟩ ?_;exact Pf 0;exact Pf 0;exact Pv 49 1;exact Pv 50 2;intro n w a i f hd hw;exact .l 51 (f 3 _ rfl rfl) (iT a.1.c 7 _ rfl) ⟨rfl,a,Qa⟩;exact Pf 3;intro n w a i f hd hw;have dB:=Sv 53 f 5;obtain⟨⟨N,M,O,P,Q,R⟩,_⟩:=kU ((a.2.B C ac).T an.o);replace a:=Hq a;exact .q (g:=⟨rfl,a.o,Qa⟩);intro n w a i f hd hw;have dC:=Sv 52 f 4;have dD:=Sv 54 f 6;clear i f hd hw;replace a:=Hq a;refine .h λK hK=>?_;go_simp;refine⟨rfl,?_⟩;refine Calls.M (kC a.o.1 T.jY T.kg name) ?_;rintro e w' ⟨r,he,hw⟩;subst hw;subst he;exact⟨_,rfl,hK ⟨trivial,a.o,Qc ⟨r,rfl⟩<|Qb<|Qe⟩⟩;intro n w a i f hd hw;obtain⟨r,cI⟩:=hd _ (Mm 0 rfl) _ rfl rfl;have dE:=Sl 55 cI;exact .q (g:=⟨trivial,a,Qb<|Qc ⟨r,rfl⟩<|Qa⟩);intro n w a i f hd hw;have dF:=Sv 48 f 0;obtain⟨r,cJ⟩:=hd _ (Mm 1 rfl) _ rfl rfl;have dG:=Sl 56 cJ;clear i f hd hw;replace a:=Hq a;refine .h λK hK=>?_;go_simp;refine⟨rfl,?_⟩;refine Calls.M (jt t w cb u y z D hd own p s A params J _ c2 j ⟨26,r,0,0⟩ a.o.1 LC) ?_;rintro e w' ⟨he,U,F,E,k,l⟩;subst he;refine⟨_,rfl,?_⟩;exact hK (⟨U,F,r,E,(kQ.iU a.o.2).T k,l⟩);intro aP bb ae al;obtain⟨aI,F,r,E,k,l⟩:=al;have S:=JH (And.intro E (And.intro (ay.T k) (ao.snoc (m:=400*(1+jw d th+jw d el)) l ⟨LG,LG,λh=>by rcases h with h|h<;>simp at h,λh=>by rcases h with h|h<;>simp at h⟩ LC)));clear l ae;simp only[je,Act.put,JL,JP,JO];go_wp2_with fail
  go_end0
  exact⟨rfl,_,_,S.o.1,S.o.2.1,S.o.2.2⟩
 .go_wp2_with fail;clear N M O P Q R;refine(jt t B cb u y z D hd own p s A params J _ c2 j ⟨28,0,0,0⟩ E LC).M ?_;rintro e ad ⟨rfl,aa,L,aB,k,l⟩;obtain⟨I,G⟩:=k.k C ac ak bq.o;have af:=JH (I.T an.o);have aQ:=JH G;have ag:C<ad:=JI ac k.size;have aC:=(ay.T k)
  clear I G;have aR:=JH l;have ap:L.length=j.length+1:=(by rw[l];simp);have aD:=JH ap;have bH:L.length<=95000:=LB ax aA.o;have aq:=(ao.snoc (m:=317) l ⟨LG,LG,λ_=>⟨LG,LU⟩,λh=>by rcases h with h|h<;>simp at h⟩ LC)
  clear l ap;have ar:L[j.length]?=some (⟨28,0,0,0⟩:In):=(by rw[aR.o];simp);obtain⟨⟨N,M,O,P,Q,R⟩,_⟩:=kU af.o;go_wp2_with fail;clear N M O P Q R;refine(bZ aM t ad cb u y z D hd own p s A params aa L W aN o aB T i bc bd c4 th ae bY.o (LB ax aq.len)).M ?_;rintro e bf ⟨rfl,aI,F,br,k,aE⟩;obtain⟨I,G⟩:=k.k C ag ak aQ.o;have bs:=JH (I.T af.o);have bI:=JH G;have bg:C<bf:=JI ag k.size;have bJ:=(aC.T k)
  clear I G;have bt:=(aq.T (q:=317+400*jw d th) aE LC)
  obtain⟨⟨N,M,O,P,Q,R⟩,_⟩:=kU bs.o;go_wp2_with fail;clear N M O P Q R;refine(bD aM t bf cb u y z D hd own p s A params aI F W aN o br T i aZ ba c5 el bw bC.o (LB ax bt.len)).M ?_;rintro e az ⟨r,rfl,bK,X,ah,k,au,bh⟩;obtain⟨I,G⟩:=k.k C bg ak bI.o;have bL:=JH (I.T bs.o);have bM:=JH G;have bN:C<az:=JI bg k.size;have aS:=(bJ.T k)
  clear I G;have aT:=(bt.T (q:=318+400*jw d th+400*jw d el) au LC)
  have av:=JH (au.jr (aE.jr ar));have aJ:=(show j.length<X.length by have:=au.len;have:=aE.len;have:=aD.o;omega)
  clear ar;obtain⟨g,am,rfl⟩:=ah.wH (LA aJ);have Y:=ah.wG av.o;have bO:=(Y.1 1 _ rfl).1;have bP:=(Y.1 1 _ rfl).2;have aw:=JH (Y.2 1 LD (r:Int));have cg:=iT ah.c 10 _ rfl;have bQ:(0:Int)<=(j.length:Int):=LC;have bR:(j.length:Int)<(X.length:Int):=LA aJ;clear Y;go_wp2_with fail
  go_end0
  exact⟨rfl,_,_,aw.o.1,aS.T aw.o.2,(aT.put av.o (LA aA.o) (.inl rfl) LC (LA bh)).le LC⟩
 .go_wp2_with fail;clear N M O P Q R;refine(jt t B cb u y z D hd own p s A params J _ c2 j ⟨28,0,0,0⟩ E LC).M ?_;rintro e ad ⟨rfl,aa,L,aB,k,l⟩;obtain⟨I,G⟩:=k.k C ac ak bq.o;have af:=JH (I.T an.o);have aQ:=JH G;have ag:C<ad:=JI ac k.size;have aC:=(ay.T k)
  clear I G;have aR:=JH l;have ap:L.length=j.length+1:=(by rw[l];simp);have aD:=JH ap;have bH:L.length<=95000:=LB ax aA.o;have aq:=(ao.snoc (m:=317) l ⟨LG,LG,λ_=>⟨LG,LU⟩,λh=>by rcases h with h|h<;>simp at h⟩ LC)
  clear l ap;have ar:L[j.length]?=some (⟨28,0,0,0⟩:In):=(by rw[aR.o];simp);obtain⟨⟨N,M,O,P,Q,R⟩,_⟩:=kU af.o;go_wp2_with fail;clear N M O P Q R;refine(bZ aM t ad cb u y z D hd own p s A params aa L W aN o aB T i bc bd c4 th ae bY.o (LB ax aq.len)).M ?_;rintro e bf ⟨rfl,aI,F,br,k,aE⟩;obtain⟨I,G⟩:=k.k C ag ak aQ.o;have bs:=JH (I.T af.o);have bI:=JH G;have bg:C<bf:=JI ag k.size;have bJ:=(aC.T k)
  clear I G;have bt:=(aq.T (q:=317+400*jw d th) aE LC)
  have bS:F.length<=95000/\aH.length<=F.length:=(by have dH:=aE.len;have:=aD.o;have:=ax;have:=aA.o;omega);have cK:=JH bS;have dI:=bS.1;clear bS;obtain⟨cL,cM,rfl⟩:=br.form;go_wp2_with fail;refine(jt t bf cb u y z D hd own p s A params cL _ cM F ⟨27,(aH.length:Int),0,0⟩ br LC).M ?_;rintro e az ⟨rfl,bK,X,ah,k,l⟩;obtain⟨I,G⟩:=k.k C bg ak bI.o;have bL:=JH (I.T bs.o);have bM:=JH G;have bN:C<az:=JI bg k.size;have aS:=(bJ.T k)
  clear I G;have cN:=JH l;have ch:X.length=F.length+1:=(by rw[l];simp);have cO:=JH ch;skip;have aT:=(bt.snoc (m:=318+400*jw d th) l ⟨LG,LG,λ_=>⟨by show(0:Int)<=(aH.length:Int);omega,by show(aH.length:Int)<=_;have:=cK.o.2;omega⟩,λh=>by rcases h with h|h<;>simp at h⟩ LC)
  clear l ch;have ci:X[j.length]?=some (⟨28,0,0,0⟩:In):=(by rw[cN.o,Ku (LB aE.len aD.o)];exact aE.jr ar);have av:=JH ci;have bR:(j.length:Int)<(X.length:Int):=(by have:=aE.len;have:=aD.o;have:=cO.o;omega);have bQ:(0:Int)<=(j.length:Int):=LC;obtain⟨g,am,rfl⟩:=ah.wH LC;clear ar ci;go_wp2_with fail;refine rr (λx=>kn t cb u y z D hd own p s A params (.slice (some ⟨g,0,none⟩) X.length am) X x/\Below az az x) (λv w=>kn t cb u y z D hd own p s A params (.slice (some ⟨g,0,none⟩) X.length am) (X.set j.length ((⟨28,0,0,0⟩:In).put 1 (X.length:Int))) w/\kQ cb (.slice (some ⟨g,0,none⟩) X.length am) az (.slice (some ⟨g,0,none⟩) X.length am) w) (kN [(Pp cb 0),(Pp cb 0),(Pp cb 10),(·=.slice (some ⟨g,0,none⟩) X.length am),(·=.int .i64 (j.length:Int)),(Pp cb 0),(Pp cb 0),(Pp cb 10),(·=.slice (some ⟨g,0,none⟩) X.length am),(·=.int .i64 (X.length:Int)),(Pp g (j.length*4)),(Pp g (j.length*4+1)),Tr]) [] (⟨ah.iU (Below.refl _ _).drew,(Below.refl _ _).drew⟩) ⟨?_,?_,?_,?_,?_,?_,?_,?_,?_,?_,?_,?_,?_,trivial⟩ ?_;exact Pf 0;exact Pv 92 0;exact Pv 93 1;intro n w a i f hd hw;exact .l 94 (f 2 _ rfl rfl) (iT a.1.c 10 _ rfl) ⟨rfl,a,Qa⟩;exact Pf 7;exact Pf 0;exact Pv 97 5;exact Pv 98 6;intro n w a i f hd hw;exact .l 99 (f 7 _ rfl rfl) (iT a.1.c 10 _ rfl) ⟨rfl,a,Qa⟩;intro n w a i f hd hw;have dJ:=Sv 100 f 8;exact .q (g:=⟨rfl,a,Qa⟩);intro n w a i f hd hw;have dK:=Sv 95 f 3;have dL:=Sv 96 f 4;exact .q (g:=⟨rfl,a,Qa⟩);exact Pv 102 10;intro n w a i f hd hw;have dM:=Sv 103 f 11;have dN:=Sv 101 f 9;have Y:=a.1.wG av.o;have bO:=(Y.1 1 _ rfl).1;have bP:=(Y.1 1 _ rfl).2;have aw:=JH (Y.2 1 LD (X.length:Int));clear Y;replace a:=Hq a;refine .h λK hK=>?_;go_simp;exact hK (⟨aw.o.1,(kQ.iU a.o.2).T aw.o.2⟩);intro aP bb ae al;have S:=JH al;clear ae al;simp only[je,Act.put,JL,JP,JO];go_wp2_with fail
  go_end0
  exact⟨rfl,_,_,S.o.1,aS.T S.o.2,(aT.put av.o (LA aA.o) (.inl rfl) LC (K9 _)).le LC⟩
 .obtain⟨aK,c3,rfl,cP⟩:=i.cs;obtain⟨cQ,aF,rfl,bi⟩:=i.ns;obtain⟨rfl,cR⟩:=i.own;have cS:=i.len;have cT:∀(fn:Fn) (first am:Array Value) (w:World),(Instr.makeFunc fn first am).run prog w=.ok (.func fn first am) w:=λ_ _ _ _=>rfl;have aL:=iT E.c 3 _ rfl;go_wp2_with fail;refine(xF aM B aK W.length c3 W name C (cP.iV (kL.ok _) (λq bu=>E.old (T.jY q bu).1 (T.jY q bu).2)) LC (λq bu=>JI (T.jY q bu).1 E.g.size) M ac (cu.o LG)).M ?_;rintro e ad ⟨r,dO,rfl,bv⟩;clear aL N M O P Q R;obtain⟨aG,aU⟩:∃x,aN[r]?=some x:=Gx (LA bi.len.1);obtain⟨Z,aj,cU,rfl,aV,bT,bj⟩:=bi.jr mB.ok r aG aU;obtain⟨cV,rfl,aW⟩:=bT;obtain⟨bk,bl,rfl,_⟩:=aW.form;have aX:=bj 0 _ rfl;have bm:=i.Hj aG (JM aU);obtain⟨bn,bo⟩:=Xq aG.length;rw[<-bo]at aX aW bm;have bU:=JH aX;have cW:=(T.jY Z aV).1;have cX:(0:Int)<=(r:Int):=LC;have cY:(r:Int)<(W.length:Int):=LC;clear bj aX aU bo;have aB:=(E.iU bv)
  have aC:=(ay.T (.iU bv))
  have af:=JH ((bv.B C ac).T an.o);have ag:C<ad:=JI ac bv.size;clear cT;go_wp2_with fail;refine rr (λx=>kn t cb u y z (.slice aK W.length c3) (.slice (some ⟨Z,aj,none⟩) W.length aF) (.int .i64 (o:Int)) p s A params (.slice J j.length c2) j x/\Below ad ad x) (λv w=>∃(U:Value) (F:List In) (q:Int),kn t cb u y z (.slice aK W.length c3) (.slice (some ⟨Z,aj,none⟩) W.length aF) (.int .i64 (o:Int)) p s A params U F w/\kQ cb (.slice J j.length c2) ad U w/\F=j++[⟨30,(r:Int),q,(ab:Int)⟩]) (kN [(Pp cb 0),(·=r),(Pp cb 0),(Pp cb 0),(Pp cb 4),(·=.slice (some ⟨Z,aj,none⟩) W.length aF),(·=r),(Pp Z (aj+r)),(·=.slice bk bn bl),(Pp C 2),(·=tx aO),Tr,(Pp C 3),(·=.slice aY ab c1),(·=ab),Tr,Tr]) [(11,λv w=>∃q:Int,v=q),(15,λv w=>∃q:Int,v=.agg #[.int .u8 30,r,q,ab])] (⟨aB.iU (Below.refl _ _).drew,(Below.refl _ _).drew⟩) ⟨?_,?_,?_,?_,?_,?_,?_,?_,?_,?_,?_,?_,?_,?_,?_,?_,?_,trivial⟩ ?_;exact Pf 0;exact Pf 8;exact Pf 0;exact Pv 115 2;exact Pv 116 3;intro n w a i f hd hw;exact .l 117 (f 4 _ rfl rfl) (iT a.1.c 4 _ rfl) ⟨rfl,a,Qa⟩;exact Pf 8;intro n w a i f hd hw;have dP:=Sv 118 f 5;have dQ:=Sv 119 f 6;exact .q (g:=⟨rfl,a,Qa⟩);intro n w a i f hd hw;have aL:=(Cb Z (aj+r*1+0) (a.1.old (T.jY Z aV).1 (T.jY Z aV).2)).T bU.o;rw[JT,Kk]at aL;exact .l 120 (f 7 _ rfl rfl) aL ⟨rfl,a,Qa⟩;exact Pf 3;intro n w a i f hd hw;have dR:=Sv 122 f 9;obtain⟨⟨N,M,O,P,Q,R⟩,_⟩:=kU ((a.2.B C ag).T af.o);replace a:=Hq a;exact .q (g:=⟨rfl,a.o,Qa⟩);intro n w a i f hd hw;have dS:=Sv 121 f 8;have dT:=Sv 123 f 10;clear i f hd hw;replace a:=Hq a;refine .h λK hK=>?_;go_simp;refine⟨rfl,?_⟩;refine Calls.M (kC a.o.1 T.jY ⟨bk,bn,bl,aG,rfl,aW,bm⟩ aO) ?_;rintro e w' ⟨q,he,hw⟩;subst hw;subst he;exact⟨_,rfl,hK ⟨trivial,a.o,Qc ⟨q,rfl⟩<|Qb<|Qe⟩⟩;exact Pf 3;intro n w a i f hd hw;have dU:=Sv 125 f 12;obtain⟨⟨N,M,O,P,Q,R⟩,_⟩:=kU ((a.2.B C ag).T af.o);replace a:=Hq a;exact .q (g:=⟨rfl,a.o,Qa⟩);intro n w a i f hd hw;have dV:=Sv 126 f 13;exact .q (g:=⟨rfl,a,Qa⟩);intro n w a i f hd hw;have dW:=Sv 114 f 1;obtain⟨q,cZ⟩:=hd _ (Mm 0 rfl) _ rfl rfl;have dX:=Sl 124 cZ;have dY:=Sv 127 f 14;exact .q (g:=⟨trivial,a,Qb<|Qc ⟨q,rfl⟩<|Qa⟩);intro n w a i f hd hw;have dZ:=Sv 113 f 0;obtain⟨q,da⟩:=hd _ (Mm 1 rfl) _ rfl rfl;have ea:=Sl 128 da;replace a:=Hq a;refine .h λK hK=>?_;go_simp;refine⟨rfl,?_⟩;refine Calls.M (jt t w cb u y z (.slice aK W.length c3) (.slice (some ⟨Z,aj,none⟩) W.length aF) (.int .i64 (o:Int)) p s A params J _ c2 j ⟨30,(r:Int),q,(ab:Int)⟩ a.o.1 LC) ?_;rintro e w' ⟨he,U,F,E,k,l⟩;subst he;refine⟨_,rfl,?_⟩;exact hK (⟨U,F,q,E,(kQ.iU a.o.2).T k,l⟩);intro aP bb ae al;obtain⟨aI,F,q,E,k,l⟩:=al;have S:=JH (And.intro E (And.intro (aC.T k) (ao.snoc (m:=400*(1+jw d th+jw d el)) l ⟨LG,LG,λh=>by rcases h with h|h<;>simp at h,λh=>by rcases h with h|h<;>simp at h⟩ LC)));clear l ae;simp only[je,Act.put,JL,JP,JO];go_wp2_with fail
  go_end0
  exact⟨rfl,_,_,S.o.1,S.o.2.1,S.o.2.2⟩
 .obtain⟨aK,c3,rfl,eb⟩:=i.cs;obtain⟨cQ,aF,rfl,bi⟩:=i.ns;obtain⟨rfl,cR⟩:=i.own;have cS:=i.len;obtain⟨aG,aU⟩:∃x,aN[o]?=some x:=Gx (LA bi.len.1);obtain⟨Z,aj,cU,rfl,aV,bT,bj⟩:=bi.jr mB.ok o aG aU;obtain⟨cV,rfl,aW⟩:=bT;obtain⟨bk,bl,rfl,_⟩:=aW.form;have aX:=bj 0 _ rfl;have bm:=i.Hj aG (JM aU);obtain⟨bn,bo⟩:=Xq aG.length;rw[<-bo]at aX aW bm;have bU:=JH aX;have cW:=(T.jY Z aV).1;have cX:(0:Int)<=(o:Int):=LC;have cY:(o:Int)<(W.length:Int):=LC;clear bj aX aU bo;go_wp2_with fail;clear N M O P Q R;refine rr (λx=>kn t cb u y z (.slice aK W.length c3) (.slice (some ⟨Z,aj,none⟩) W.length aF) (.int .i64 (o:Int)) p s A params (.slice J j.length c2) j x/\Below B B x) (λv w=>∃(U:Value) (F:List In) (q:Int),kn t cb u y z (.slice aK W.length c3) (.slice (some ⟨Z,aj,none⟩) W.length aF) (.int .i64 (o:Int)) p s A params U F w/\kQ cb (.slice J j.length c2) B U w/\F=j++[⟨31,0,q,(IntKind.i64.wrap ((ab:Int)-1))⟩]) (kN [(Pp cb 0),(Pp cb 0),(Pp cb 0),(Pp cb 4),(·=.slice (some ⟨Z,aj,none⟩) W.length aF),(Pp cb 0),(Pp cb 0),(Pp cb 5),(·=o),(Pp Z (aj+o)),(·=.slice bk bn bl),(Pp C 2),(·=tx aO),Tr,(Pp C 3),(·=.slice aY ab c1),(·=ab),(·=.int .i64 (IntKind.i64.wrap ((ab:Int)-1))),Tr,Tr]) [(13,λv w=>∃q:Int,v=q),(18,λv w=>∃q:Int,v=.agg #[.int .u8 31,.int .i64 0,q,.int .i64 (IntKind.i64.wrap ((ab:Int)-1))])] (⟨E.iU (Below.refl _ _).drew,(Below.refl _ _).drew⟩) ⟨?_,?_,?_,?_,?_,?_,?_,?_,?_,?_,?_,?_,?_,?_,?_,?_,?_,?_,?_,?_,trivial⟩ ?_;exact Pf 0;exact Pf 0;exact Pv 133 1;exact Pv 134 2;intro n w a i f hd hw;exact .l 135 (f 3 _ rfl rfl) (iT a.1.c 4 _ rfl) ⟨rfl,a,Qa⟩;exact Pf 0;exact Pv 137 5;exact Pv 138 6;intro n w a i f hd hw;exact .l 139 (f 7 _ rfl rfl) (iT a.1.c 5 _ rfl) ⟨rfl,a,Qa⟩;intro n w a i f hd hw;have ec:=Sv 136 f 4;have ed:=Sv 140 f 8;exact .q (g:=⟨rfl,a,Qa⟩);intro n w a i f hd hw;have aL:=(Cb Z (aj+o*1+0) (a.1.old (T.jY Z aV).1 (T.jY Z aV).2)).T bU.o;rw[JT,Kk]at aL;exact .l 141 (f 9 _ rfl rfl) aL ⟨rfl,a,Qa⟩;exact Pf 3;intro n w a i f hd hw;have ee:=Sv 143 f 11;obtain⟨⟨N,M,O,P,Q,R⟩,_⟩:=kU ((a.2.B C ac).T an.o);replace a:=Hq a;exact .q (g:=⟨rfl,a.o,Qa⟩);intro n w a i f hd hw;have ef:=Sv 142 f 10;have eg:=Sv 144 f 12;clear i f hd hw;replace a:=Hq a;refine .h λK hK=>?_;go_simp;refine⟨rfl,?_⟩;refine Calls.M (kC a.o.1 T.jY ⟨bk,bn,bl,aG,rfl,aW,bm⟩ aO) ?_;rintro e w' ⟨q,he,hw⟩;subst hw;subst he;exact⟨_,rfl,hK ⟨trivial,a.o,Qc ⟨q,rfl⟩<|Qb<|Qe⟩⟩;exact Pf 3;intro n w a i f hd hw;have eh:=Sv 146 f 14;obtain⟨⟨N,M,O,P,Q,R⟩,_⟩:=kU ((a.2.B C ac).T an.o);replace a:=Hq a;exact .q (g:=⟨rfl,a.o,Qa⟩);intro n w a i f hd hw;have ei:=Sv 147 f 15;exact .q (g:=⟨rfl,a,Qa⟩);intro n w a i f hd hw;have ej:=Sv 148 f 16;exact .q (g:=⟨rfl,a,Qa⟩);intro n w a i f hd hw;obtain⟨q,db⟩:=hd _ (Mm 0 rfl) _ rfl rfl;have ek:=Sl 145 db;have em:=Sv 149 f 17;exact .q (g:=⟨trivial,a,Qb<|Qc ⟨q,rfl⟩<|Qa⟩);intro n w a i f hd hw;have en:=Sv 132 f 0;obtain⟨q,dc⟩:=hd _ (Mm 1 rfl) _ rfl rfl;have eo:=Sl 150 dc;replace a:=Hq a;refine .h λK hK=>?_;go_simp;refine⟨rfl,?_⟩;refine Calls.M (jt t w cb u y z (.slice aK W.length c3) (.slice (some ⟨Z,aj,none⟩) W.length aF) (.int .i64 (o:Int)) p s A params J _ c2 j ⟨31,0,q,(IntKind.i64.wrap ((ab:Int)-1))⟩ a.o.1 LC) ?_;rintro e w' ⟨he,U,F,E,k,l⟩;subst he;refine⟨_,rfl,?_⟩;exact hK (⟨U,F,q,E,(kQ.iU a.o.2).T k,l⟩);intro aP bb ae al;obtain⟨aI,F,q,E,k,l⟩:=al;have S:=JH (And.intro E (And.intro (ay.T k) (ao.snoc (m:=400*(1+jw d th+jw d el)) l ⟨LG,LG,λh=>by rcases h with h|h<;>simp at h,λh=>by rcases h with h|h<;>simp at h⟩ LC)));clear l ae;simp only[je,Act.put,JL,JP,JO];go_wp2_with fail
  go_end0
  exact⟨rfl,_,_,S.o.1,S.o.2.1,S.o.2.2⟩
 .go_wp2_with fail;clear N M O P Q R;refine(jt t B cb u y z D hd own p s A params J _ c2 j ⟨32,0,0,0⟩ E LC).M ?_;rintro e ad ⟨rfl,aa,L,aB,k,l⟩;obtain⟨I,G⟩:=k.k C ac ak bq.o;have af:=JH (I.T an.o);have aQ:=JH G;have ag:C<ad:=JI ac k.size;have aC:=(ay.T k)
  clear I G;have aR:=JH l;have ap:L.length=j.length+1:=(by rw[l];simp);have aD:=JH ap;have bH:L.length<=95000:=LB ax aA.o;have aq:=(ao.snoc (m:=317) l ⟨LG,LG,λh=>by rcases h with h|h<;>simp at h,λ_=>⟨LG,LU⟩⟩ LC)
  clear l ap;have ar:L[j.length]?=some (⟨32,0,0,0⟩:In):=(by rw[aR.o];simp);obtain⟨⟨N,M,O,P,Q,R⟩,_⟩:=kU af.o;go_wp2_with fail;clear N M O P Q R;refine(bD aM t ad cb u y z D hd own p s A params aa L W aN o aB T i aZ ba c5 el bw bC.o (LB ax aq.len)).M ?_;rintro e az ⟨r,rfl,bK,X,ah,k,au,bh⟩;obtain⟨I,G⟩:=k.k C ag ak aQ.o;have bL:=JH (I.T af.o);have bM:=JH G;have bN:C<az:=JI ag k.size;have aS:=(aC.T k)
  clear I G;have aT:=(aq.T (q:=318+400*jw d el) au LC)
  have av:=JH (au.jr ar);have aJ:=(show j.length<X.length from LB au.len aD.o)
  clear ar;obtain⟨g,am,rfl⟩:=ah.wH (LA aJ);have Y:=ah.wG av.o;have bO:=(Y.1 2 _ rfl).1;have bP:=(Y.1 2 _ rfl).2;have aw:=JH (Y.2 2 LD (r:Int));have cg:=iT ah.c 10 _ rfl;have bQ:(0:Int)<=(j.length:Int):=LC;have bR:(j.length:Int)<(X.length:Int):=LA aJ;clear Y;go_wp2_with fail
  go_end0
  exact⟨rfl,_,_,aw.o.1,aS.T aw.o.2,(aT.put av.o (LA aA.o) (.inr rfl) LC (LA bh)).le LC⟩
 .go_wp2_with fail;clear N M O P Q R;refine Ac 9 (λb=>cond b (λx=>∃(aa:Value) (L:List In) (r:Int),kn t cb u y z D hd own p s A params aa L x/\kQ cb (.slice J j.length c2) B aa x/\L=j++[⟨33,r,0,0⟩]) (λx=>kn t cb u y z D hd own p s A params (.slice J j.length c2) j x/\Below B B x)) (kN [(Pp cb 0),(Pp cb 0),(Pp cb 0),(Pp cb 6),(·=p),(Pp C 1),(·=tx name),Tr,Tr,(·=.int .i64 (j.length:Int)),(·=.int .i64 (j.length:Int))]) [(7,λv w=>∃r:Int,v=r),(8,λv w=>∃r:Int,v=.agg #[.int .u8 33,r,.int .i64 0,.int .i64 0])] (⟨E.iU (Below.refl _ _).drew,(Below.refl _ _).drew⟩) ⟨?_,?_,?_,?_,?_,?_,?_,?_,?_,?_,?_,trivial⟩ ?_;intro n w a i f hd hw;have dd:=Sl 0 (i 0 rfl);clear i f hd hw;replace a:(λx=>kn t cb u y z D hd own p s A params (.slice J j.length c2) j x/\Below B B x) w:=a;exact .q (g:=⟨rfl,a,Qa⟩);intro n w a i f hd hw;have dd:=Sl 0 (i 0 rfl);clear i f hd hw;replace a:(λx=>kn t cb u y z D hd own p s A params (.slice J j.length c2) j x/\Below B B x) w:=a;exact .q (g:=⟨rfl,a,Qa⟩);intro n w a i f hd hw;have ep:=Sv 172 f 1;clear i f hd hw;replace a:(λx=>kn t cb u y z D hd own p s A params (.slice J j.length c2) j x/\Below B B x) w:=a;exact .q (g:=⟨rfl,a,Qa⟩);intro n w a i f hd hw;have eq:=Sv 173 f 2;clear i f hd hw;replace a:(λx=>kn t cb u y z D hd own p s A params (.slice J j.length c2) j x/\Below B B x) w:=a;exact .q (g:=⟨rfl,a,Qa⟩);intro n w a i f hd hw;have er:=Sv 174 f 3;clear i f hd hw;replace a:(λx=>kn t cb u y z D hd own p s A params (.slice J j.length c2) j x/\Below B B x) w:=a;have aL:=iT a.1.c 6 _ rfl;replace a:=Hq a;exact .q (g:=⟨rfl,a.o,Qa⟩);intro n w a i f hd hw;have es:=Sl 3 (i 3 rfl);clear i f hd hw;replace a:(λx=>kn t cb u y z D hd own p s A params (.slice J j.length c2) j x/\Below B B x) w:=a;exact .q (g:=⟨rfl,a,Qa⟩);intro n w a i f hd hw;have et:=Sv 176 f 5;clear i f hd hw;replace a:(λx=>kn t cb u y z D hd own p s A params (.slice J j.length c2) j x/\Below B B x) w:=a;obtain⟨⟨N,M,O,P,Q,R⟩,_⟩:=kU ((a.2.B C ac).T an.o);replace a:=Hq a;exact .q (g:=⟨rfl,a.o,Qa⟩);intro n w a i f hd hw;have eu:=Sv 175 f 4;have ev:=Sv 177 f 6;clear i f hd hw;replace a:(λx=>kn t cb u y z D hd own p s A params (.slice J j.length c2) j x/\Below B B x) w:=a;replace a:=Hq a;refine .h λK hK=>?_;go_simp;refine⟨rfl,?_⟩;refine Calls.M (kC a.o.1 T.jY T.vars name) ?_;rintro e w' ⟨r,he,hw⟩;subst hw;subst he;exact⟨_,rfl,hK ⟨trivial,a.o,Qc ⟨r,rfl⟩<|Qb<|Qe⟩⟩;intro n w a i f hd hw;obtain⟨r,de⟩:=hd _ (Mm 0 rfl) _ rfl rfl;have ew:=Sl 178 de;clear i f hd hw;replace a:(λx=>kn t cb u y z D hd own p s A params (.slice J j.length c2) j x/\Below B B x) w:=a;exact .q (g:=⟨trivial,a,Qb<|Qc ⟨r,rfl⟩<|Qa⟩);intro n w a i f hd hw;have ex:=Sv 171 f 0;obtain⟨r,df⟩:=hd _ (Mm 1 rfl) _ rfl rfl;have ey:=Sl 179 df;clear i f hd hw;replace a:(λx=>kn t cb u y z D hd own p s A params (.slice J j.length c2) j x/\Below B B x) w:=a;replace a:=Hq a;refine .h λK hK=>?_;go_simp;refine⟨rfl,?_⟩;refine Calls.M (jt t w cb u y z D hd own p s A params J _ c2 j ⟨33,r,0,0⟩ a.o.1 LC) ?_;rintro e w' ⟨he,aa,L,E,k,l⟩;subst he;exact⟨_,rfl,hK ⟨rfl,⟨aa,L,r,E,(kQ.iU a.o.2).T k,l⟩,Q2<|Qe⟩⟩;intro n w a i f hd hw;have ez:=Sv 180 f 9;clear i f hd hw;replace a:(λx=>∃(aa:Value) (L:List In) (r:Int),kn t cb u y z D hd own p s A params aa L x/\kQ cb (.slice J j.length c2) B aa x/\L=j++[⟨33,r,0,0⟩]) w:=a;exact .q (g:=⟨rfl,a,Qa⟩);intro aP ad dg cj dh;have ck:aP 10=.int .i64 (j.length:Int):=cj 10 LD;obtain⟨aa,L,di,aB,k,l⟩:=(show(λx=>∃(aa:Value) (L:List In) (r:Int),kn t cb u y z D hd own p s A params aa L x/\kQ cb (.slice J j.length c2) B aa x/\L=j++[⟨33,r,0,0⟩]) ad from dg)
  clear cj dh;obtain⟨I,G⟩:=k.k C ac ak bq.o;have af:=JH (I.T an.o);have aQ:=JH G;have ag:C<ad:=JI ac k.size;have aC:=(ay.T k)
  clear I G;have aR:=JH l;have ap:L.length=j.length+1:=(by rw[l];simp);have aD:=JH ap;have bH:L.length<=95000:=LB ax aA.o;have aq:=(ao.snoc (m:=317) l ⟨LG,LG,λh=>by rcases h with h|h<;>simp at h,λ_=>⟨LG,LU⟩⟩ LC)
  clear l ap;have ar:L[j.length]?=some (⟨33,di,0,0⟩:In):=(by rw[aR.o];simp);simp only[je,Act.put,JL,JP,JO,ck];clear ck;obtain⟨⟨N,M,O,P,Q,R⟩,_⟩:=kU af.o;go_wp2_with fail;clear N M O P Q R;refine(bD aM t ad cb u y z D hd own p s A params aa L W aN o aB T i aZ ba c5 el bw bC.o (LB ax aq.len)).M ?_;rintro e az ⟨r,rfl,bK,X,ah,k,au,bh⟩;obtain⟨I,G⟩:=k.k C ag ak aQ.o;have bL:=JH (I.T af.o);have bM:=JH G;have bN:C<az:=JI ag k.size;have aS:=(aC.T k)
  clear I G;have aT:=(aq.T (q:=318+400*jw d el) au LC)
  have av:=JH (au.jr ar);have aJ:=(show j.length<X.length from LB au.len aD.o)
  clear ar;obtain⟨g,am,rfl⟩:=ah.wH (LA aJ);have Y:=ah.wG av.o;have bO:=(Y.1 2 _ rfl).1;have bP:=(Y.1 2 _ rfl).2;have aw:=JH (Y.2 2 LD (r:Int));have cg:=iT ah.c 10 _ rfl;have bQ:(0:Int)<=(j.length:Int):=LC;have bR:(j.length:Int)<(X.length:Int):=LA aJ;clear Y;go_wp2_with fail
  go_end0
  exact⟨rfl,_,_,aw.o.1,aS.T aw.o.2,(aT.put av.o (LA aA.o) (.inr rfl) LC (LA bh)).le LC⟩
 go_wp2_with fail;refine(jt t B cb u y z D hd own p s A params J _ c2 j ⟨34,0,0,0⟩ E LC).M ?_;rintro e bb ⟨rfl,aI,F,E,k,l⟩;have S:=JH (And.intro E (And.intro (ay.T k) (ao.snoc (m:=400*(1+jw d th+jw d el)) l ⟨LG,LG,λh=>by rcases h with h|h<;>simp at h,λh=>by rcases h with h|h<;>simp at h⟩ LC)));clear l;go_wp2_with fail
 go_end0
 exact⟨rfl,_,_,S.o.1,S.o.2.1,S.o.2.2⟩
def Gi(a:Nat->Prop)(w:World)(b:List (List (List UInt8)))(e:Ending)(w':World):Prop:=∃pb:Nat,e=.returned (.tuple #[.pointer (some ⟨pb,0,none⟩),.int .i64 0])/\Below w w w'/\(w<=pb/\pb<w')/\vq (λq=>a q\/(w<=q/\q<w')) w' pb b
theorem tO.ng{b wr}{cb pb:Nat}{P c d f g hd V xs x a}(h:tO b wr cb pb P c d f g hd V xs x)(i:x.grownBy a V.ownBlock):NK wr x a:=.mj i (λz e=>(h.v z e).2)
theorem lF.ind{B b k:Nat}{n m:Int}{w}(h:lF B b n k w):lF B b m k (w.setCell ⟨b,2,none⟩ (.int .i64 m)):=by
 obtain⟨l,h,e⟩:=h;refine⟨l,?_,e⟩;rcases h with⟨a,v,c,d⟩|⟨a,v,c,d⟩
 exact .inl (pz.set a c rfl d);exact .inr (pz.set a c rfl d)
theorem xL:wI 0:=by
 intro q B b n k w r m c l hL t a g j hm hF hn u;have p:l=[]:=by
  cases l with
  |nil=>rfl
  |cons s l=>exact((j s (KY ..)).1).elim
 subst p;obtain rfl:0=m:=g.len.1;have e:=a.lt;obtain⟨v,x⟩:=a.cell;obtain⟨y,z⟩:=yD n LC
 go_enter func240,ntmps240
 go_wp2;go_loopw [15] (λi wr=>i=.int .i64 0/\lF B b ((n+1:Nat):Int) k wr/\jq B b w wr) (λ_ _=>0);case atStart=>exact⟨rfl,a.ind,jq.set e.1⟩
 case round=>
  obtain⟨rfl,d,f⟩:=hrel;have A:=f.size;obtain⟨C,D⟩:=d.cell;have E:=d.lt;go_wp2
  go_end0
  exact⟨rfl,d.ind,f.T (jq.set e.1)⟩
theorem xM(d:Nat)(am:Fz d):wI (d+1):=by
 intro an B b n k w aK m c l ao S z A T hm u hn ap;have aL:=A.len.2;have aq:=JH A.len.1;have U:=z.lt;obtain⟨ar,au⟩:=z.cell;have av:=JH T;obtain⟨aM,aN⟩:=yD n LC;obtain⟨P,C⟩:=Xq (3+2*tK d);have V:tK (d+1)=12*P:=by rw[C];rfl
 rw[V]at ap⊢;have W:=JH C;have aO:m*P<=12*P:=KU _ hm;clear T C V
 go_enter func240,ntmps240
 go_wp2_with fail;go_loopw [15] (λi wr=>∃a p:Nat,a<=m/\p=k+a*P/\i=a/\lF B b ((n+1:Nat):Int) p wr/\jq B b w wr) (λi _=>m-(intOf i).toNat);case atStart=>exact⟨0,k,JV _,LG,rfl,z.ind,jq.set U.1⟩
 case round=>
  obtain⟨a,p,aP,X,rfl,x,y⟩:=hrel;have aQ:=y.size;obtain⟨aw,ax⟩:=x.cell;have aR:=x.lt;have Y:=JH X;clear ar au X;by_cases aS:a<m
  .obtain⟨s,hs⟩:∃s,l[a]?=some s:=Gx (LA aq.o);have Z:=u.eq y;obtain⟨aa,aT,r,rfl,ay,hr,t⟩:=(A.iV (jH.ok .u8 _) Z).jr (jH.ok .u8 _) a s hs;obtain⟨v1,v2,aU,rfl,D,E,F⟩:=hr;obtain⟨G,c1,rfl,_⟩:=D.form;obtain⟨I,c4,rfl,_⟩:=E.form;obtain⟨J,c5,rfl,_⟩:=F.form;have K:=t 0 _ rfl;have ab:=t 1 _ rfl;have ac:=t 2 _ rfl;have ad:=t 3 _ rfl;have ae:=t 4 _ rfl;have af:=t 5 _ rfl;rw[JT]at K;obtain⟨L,ag⟩:=Xq s.jy.length;obtain⟨M,ah⟩:=Xq s.th.length;obtain⟨N,ai⟩:=Xq s.el.length;rw[<-ag]at D ad;rw[<-ah]at E ae;rw[<-ai]at F af;obtain⟨az,aA⟩:=av.o s (JM hs);have O:=JH (And.intro D (And.intro E F));have aj:=JH (And.intro az aA);have aV:aa<wr:=LA (u.lt aa ay);have aW:(0:Int)<=(a:Int):=LC;have aX:(a:Int)<(m:Int):=LC;obtain⟨aB,f⟩:=Xq s.kind;obtain⟨aC,g⟩:=Xq s.name;obtain⟨aD,j⟩:=Xq s.hd;rw[<-f]at K;rw[<-g]at ab;rw[<-j]at ac;have aE:=JH (And.intro f (And.intro g j));have aF:=Ba wr (.cells #[.int .u8 aB,tx aC,tx aD,.slice G L c1,.slice I M c4,.slice J N c5] 270);have Q:=(y.T (jq.old (b:=b) (show B<=wr from LC) aF))
   have aY:(a+1)*P<=12*P:=KU _ LC;have ak:p+P=k+(a+1)*P:=(by rw[Y.o,Nat.succ_mul];omega);have aG:=JH ak;have R:p+P<=90000000:=LC;clear t hs ag ah ai f g j Z aw ax ak;go_wp2_with fail;obtain⟨f,g,j⟩:=aE.o;rw[f,g,j];refine(am an B b (n+1) p (wr.alloc (.cells #[.int .u8 s.kind,tx s.name,tx s.hd,.slice G L c1,.slice I M c4,.slice J N c5] 270)) s G L c1 I M c4 J N c5 (by have:=ao.wr Q S;rw[f,g,j]at this;exact this) S (x.iV (Ba _ _)) ?_ ?_ ?_ aj.o.1 aj.o.2 ?_ LC (by rw[<-W.o];exact R)).M ?_;case refine_1=>exact O.o.1.iV (ki.ok .u8 _) (λq v=>KC _ _ _ (LA (u.lt q v)))
   case refine_2=>exact O.o.2.1.iV (jH.ok .u8 _) (λq v=>KC _ _ _ (LA (u.lt q v)))
   case refine_3=>exact O.o.2.2.iV (jH.ok .u8 _) (λq v=>KC _ _ _ (LA (u.lt q v)))
   case refine_4=>have:=u.to Q;rw[f,g,j]at this;exact this
   rintro e aH ⟨rfl,al,aI⟩;rw[<-W.o]at al;have aJ:jq B b w aH:=(by have:=Q;rw[f,g,j]at this;exact this.T aI);clear f g j K ab ac ad ae af;go_wp2_with fail;go_roundw;case rel=>exact⟨a+1,p+P,LC,aG.o,LI,al,aJ⟩
   case measure=>simp[intOf];omega
  obtain rfl:m=a:=LC;have R:p<=k+12*P:=(by rw[Y.o];omega);go_wp2_with fail
  go_end0
  exact⟨rfl,(x.ind).up R,y.T (jq.set U.1)⟩
theorem kS{l}(a:lf l=true):l.length<=12:=by unfold lf at a;simp only[KO,Lp]at a;omega
theorem CT:tK Ds=519300:=LD
theorem xb(i:Nat)(hi:i<100)(w):Calls prog 27 #[.int .i64 (i:Int)] w (mN 20 w):=by refine(Tryz.strconv_Itoa_small i hi w).M ?_;rintro e w' ⟨he,rfl⟩;exact⟨_,he,vG i hi,Below.refl _ _⟩
structure Hb(c:Co):Prop where
 vars:∀v∈c.vars,0<=v.init/\v.init<100
 jG:∀hs∈c.jG,∀h∈hs,∀s∈h.body,Cs Ds s
theorem CU(a b:Nat)(h:b=a+1)(c:a<=1000):IntKind.i64.wrap ((a:Int)+1)=(b:Int)/\IntKind.i64.wrap ((b:Int)-1)=(a:Int):=by subst h;exact yD a c
theorem xN(B b:Nat)(n:Int)(w)(h:oD B b n [] w):
  Calls prog 46 #[.pointer (some ⟨b,0,none⟩)] w λe w'=>e=.returned (.string .empty)/\Below B w w':=by
 obtain⟨p,j,v,a,k⟩:=h.any;have l:B<=w:=J9 j (Nat.le_of_lt (JJ.1 a).1);have c1:w.drew.cell? ⟨b,1,none⟩=some v:=iT (w:=w.drew) a 1 _ rfl;rcases k.2 with⟨rfl,_⟩|⟨g,c,d,rfl,r,m,s,t,u,x⟩
 .have f:(Builtin.unsafeSliceData_ #[22] 212 #[Nl]).run prog w.drew=.ok (.pointer none) w.drew:=Lib.run_unsafeSliceData_nil _ _ _ _ _;have i:(Builtin.unsafeString_ #[212,3] 9 #[.pointer none,.int .i64 0]).run prog w.drew=.ok (.string .empty) w.drew:=Lib.run_unsafeString_none _ _ _ _ _
  go_enter func46,ntmps46
  go_wp2
  go_region
  all_goals (go_wp2;go_ret;exact⟨rfl,Below.drew (Below.refl B w)⟩)
 .by_cases hc:c=0
  .subst hc;have q:w.drew.heap[g]?=some (.cells d 5 (0,0)):=m;have f:(Builtin.unsafeSliceData_ #[22] 212 #[.slice (some ⟨g,0,none⟩) 0 0]).run prog w.drew=.ok (.pointer (some ⟨w,0,none⟩)) (w.drew.alloc (.view ⟨g,0,none⟩ 5)):=
    Lib.run_unsafeSliceData_zero _ _ _ _ LF _ _ (5,d.size) (by simp[World.shape?,q])
   have c2:(w.alloc (.view ⟨g,0,none⟩ 5)).cell? ⟨b,1,none⟩=some (.slice (some ⟨g,0,none⟩) 0 0):=iT ((JY w _ (JJ.1 a).1).T a) 1 _ rfl;have i:(Builtin.unsafeString_ #[212,3] 9 #[.pointer (some ⟨w,0,none⟩),.int .i64 0]).run prog (w.alloc (.view ⟨g,0,none⟩ 5)).drew=.ok (.string .empty) (w.alloc (.view ⟨g,0,none⟩ 5)).drew:=Lib.run_unsafeString_none _ _ _ _ _
   go_enter func46,ntmps46
   go_wp2
   go_region
   all_goals (go_wp2;go_ret;exact⟨rfl,(Below.drew (Below.refl B w)).alloc l _⟩)
  have f:(Builtin.unsafeSliceData_ #[22] 212 #[.slice (some ⟨g,0,none⟩) 0 c]).run prog w.drew=.ok (.pointer (some ⟨g,0,none⟩)) w.drew:=Lib.run_unsafeSliceData_row _ _ _ _ _ _ hc;have i:(Builtin.unsafeString_ #[212,3] 9 #[.pointer (some ⟨g,0,none⟩),.int .i64 0]).run prog w.drew=.ok (.string .empty) w.drew:=Lib.run_unsafeString_none _ _ _ _ _
  go_enter func46,ntmps46
  go_wp2
  go_region
  all_goals (go_wp2;go_ret;exact⟨rfl,Below.drew (Below.refl B w)⟩)
def nx{a:Type}(R:Rel a)(x:a)(w:World)(e:Ending)(w':World):Prop:=∃r:List Value,e=.returned (.agg r.toArray)/\R (Nw w w') w' r x/\Below w w w'
theorem ki.opn{d:Nat}{a w r x}(h:ki .u8 d a w r x):∃b e c1,r=[.int .u8 x.op,tx x.name,.int .i64 x.n,.slice b e c1]:=by
 cases d with
 |zero=>exact h.elim
 |succ d=>obtain⟨v,rfl,f⟩:=h;obtain⟨g,c,rfl,_⟩:=f.form;exact⟨_,_,_,rfl⟩
theorem jH.opn{d:Nat}{b w r x}(h:jH .u8 d b w r x):∃e f c1 g i j k u1 l,r=[.int .u8 x.kind,tx x.name,tx x.hd,.slice e f c1,.slice g i j,.slice k u1 l]:=by
 cases d with
 |zero=>exact h.elim
 |succ d=>obtain⟨v1,v2,q,rfl,m,n,p⟩:=h;obtain⟨a,c,rfl,_⟩:=m.form;obtain⟨a,c,rfl,_⟩:=n.form;obtain⟨a,c,rfl,_⟩:=p.form;exact⟨_,_,_,_,_,_,_,_,_,rfl⟩
theorem kZ.opn{c w r x}(h:kZ .u8 c w r x):∃a b c1 d e f,r=[tx x.name,.slice a b c1,.slice d e f]:=by obtain⟨a,b,c1,g,i,c2,h,_⟩:=h.nH;exact⟨a,b,c1,g,i,c2,h⟩
theorem ly.opn{c w r x}(h:ly .u8 c w r x):∃a b c1,r=[.slice a b c1]:=by obtain⟨a,b,c1,h,_⟩:=h.nH;exact⟨a,b,c1,h⟩
theorem kL.opn{c w r x}(h:kL .u8 c w r x):∃a b c1 d e f,r=[tx x.name,.slice a b c1,.slice d e f]:=by obtain⟨a,b,c1,g,i,c2,h,_⟩:=h.nH;exact⟨a,b,c1,g,i,c2,h⟩
theorem EP:(prog.info? 270).map (λi=>(i.zero,i.size,i.bytes))=some (some (.agg #[.int .u8 0,Em,Em,Nl,Nl,Nl]),6,112):=LF
theorem Dm(n:Nat)(hn:n<=1000)(w):(Instr.makeSlice 186 (.int .i64 (n:Int)) (.int .i64 (n:Int))).run prog w=.ok (.slice (some ⟨w,0,none⟩) n n) (w.alloc (.cells (madeCells #[.int .u8 0,Em,Em,Nl,Nl,Nl] (n*6)) 270)):=by obtain⟨b,c,d,a,e⟩:=Kl EP;have:=KZ (P:=prog) w 186 270 b _ underlying186 c d .i64 .i64 (n:Int) (n:Int) LC (K9 _) (by rw[a];simp;omega) (by rw[e];omega) LC;rw[a,Kw]at this;exact this
theorem ER:(prog.info? 189).map (λi=>(i.zero,i.size,i.bytes))=some (some (.agg #[Em,Nl,Nl]),3,64):=LF
theorem Dn(n:Nat)(hn:n<=1000)(w):(Instr.makeSlice 180 (.int .i64 (n:Int)) (.int .i64 (n:Int))).run prog w=.ok (.slice (some ⟨w,0,none⟩) n n) (w.alloc (.cells (madeCells #[Em,Nl,Nl] (n*3)) 189)):=by obtain⟨b,c,d,a,e⟩:=Kl ER;have:=KZ (P:=prog) w 180 189 b _ underlying180 c d .i64 .i64 (n:Int) (n:Int) LC (K9 _) (by rw[a];simp;omega) (by rw[e];omega) LC;rw[a,Kw]at this;exact this
theorem ES:(prog.info? 182).map (λi=>(i.zero,i.size,i.bytes))=some (some (.agg #[Nl]),1,24):=LF
theorem Dp(n:Nat)(hn:n<=1000)(w):(Instr.makeSlice 174 (.int .i64 (n:Int)) (.int .i64 (n:Int))).run prog w=.ok (.slice (some ⟨w,0,none⟩) n n) (w.alloc (.cells (madeCells #[Nl] n) 182)):=by obtain⟨b,c,d,a,e⟩:=Kl ES;have:=KZ (P:=prog) w 174 182 b _ underlying174 c d .i64 .i64 (n:Int) (n:Int) LC (K9 _) (by rw[a];simp;omega) (by rw[e];omega) LC;rw[a,Kk,Kw]at this;exact this
theorem ET:(prog.info? 176).map (λi=>(i.zero,i.size,i.bytes))=some (some (.agg #[Em,Nl,Nl]),3,64):=LF
theorem Dq(n:Nat)(hn:n<=1000)(w):(Instr.makeSlice 82 (.int .i64 (n:Int)) (.int .i64 (n:Int))).run prog w=.ok (.slice (some ⟨w,0,none⟩) n n) (w.alloc (.cells (madeCells #[Em,Nl,Nl] (n*3)) 176)):=by obtain⟨b,c,d,a,e⟩:=Kl ET;have:=KZ (P:=prog) w 82 176 b _ underlying82 c d .i64 .i64 (n:Int) (n:Int) LC (K9 _) (by rw[a];simp;omega) (by rw[e];omega) LC;rw[a,Kw]at this;exact this
theorem oF{w:World}{b:Nat}{a0 a c d:Value}{T:TypeId}(h:w.heap[b]?=some (.cells #[a0,a,c,d] T (0,0))):(w.cell? ⟨b,0,none⟩=some a0/\w.cell? ⟨b,1,none⟩=some a/\w.cell? ⟨b,2,none⟩=some c/\w.cell? ⟨b,3,none⟩=some d)/\w.frozen? ⟨b,0,none⟩=false/\w.frozen? ⟨b,1,none⟩=false/\w.frozen? ⟨b,2,none⟩=false/\w.frozen? ⟨b,3,none⟩=false:=
 ⟨⟨iT h 0 _ rfl,iT h 1 _ rfl,iT h 2 _ rfl,iT h 3 _ rfl⟩,iY h 0,iY h 1,iY h 2,iY h 3⟩
def FT(d:Nat):Prop:=∀(a:Nat->Prop) (w:World) (r:List Value) (x:Ex),ki .u8 d a w r x->(∀q,a q->q<w)->kB d x->Calls prog 242 #[.agg r.toArray] w (nx (ki .u8 d) x w)
def FV(d:Nat):Prop:=∀(a:Nat->Prop) (w:World) (r:List Value) (x:St),jH .u8 d a w r x->(∀q,a q->q<w)->lK d x->Calls prog 177 #[.agg r.toArray] w (nx (jH .u8 d) x w)
theorem Dr:(prog.info? 179).map (λi=>(i.zero,i.size,i.bytes))=some (some (.agg #[Em,.int .u8 0,.int .i64 0]),3,32):=LF
theorem lT.set{k b:IntKind}{c}{o n:Nat}(h:lT k c o n)(a:Nat)(x:Int)(d:a<o\/o+n<=a\/b=k):lT k (c.setIfInBounds a (.int b x)) o n:=λi hi=>by
 obtain⟨f,hy⟩:=h i hi;by_cases e:o+i=a;obtain rfl:b=k:=by rcases d with h|h|h;omega;omega;exact h
 subst e;exact⟨x,by rw[Array.getElem?_setIfInBounds_self_of_lt (JJ.1 hy).1]⟩;exact⟨f,by rw[KN (Lx e)];exact hy⟩
theorem kI.word{w}{b:Nat}(h:kI w b){i:Nat}(hi:i<8):∃x:Int,w.cell? ⟨b,i,none⟩=some (.int .u32 x)/\w.frozen? ⟨b,i,none⟩=false/\∀a:Int,kI (w.setCell ⟨b,i,none⟩ (.int .u32 a)) b:=by obtain⟨e,c,hs,d,f,t,g,j⟩:=h;obtain⟨x,hx⟩:=d i hi;rw[J4]at hx;exact⟨x,iT c _ _ hx,iY c i,λa=>⟨e.setIfInBounds i (.int .u32 a),iW c,by simpa using hs,d.set i a (.inr (.inr rfl)),f.set i a (.inl LC),t,by rw[KN LC];exact g,j⟩⟩
theorem kI.Jj{w}{b:Nat}(h:kI w b):∃t:Int,0<=t/\w.cell? ⟨b,72,none⟩=some (.int .u64 t)/\w.frozen? ⟨b,72,none⟩=false/\∀a:Int,0<=a->kI (w.setCell ⟨b,72,none⟩ (.int .u64 a)) b:=by obtain⟨d,c,hs,e,f,t,g,i⟩:=h;exact⟨t,i,iT c _ _ g,iY c 72,λa hy=>⟨d.setIfInBounds 72 (.int .u64 a),iW c,by simpa using hs,e.set 72 a (.inr (.inl LC)),f.set 72 a (.inr (.inl LC)),a,by rw[Array.getElem?_setIfInBounds_self_of_lt LC],hy⟩⟩
theorem Hk(w)(k:Nat)(b:k<8)(c d e f g i j l:Int):∃a:Int,(Instr.index 327 (.agg #[.int .u32 c,.int .u32 d,.int .u32 e,.int .u32 f,.int .u32 g,.int .u32 i,.int .u32 j,.int .u32 l]) (.int .i64 k)).run prog w=.ok (.int .u32 a) w:=by
 have h:∃a:Int,(#[.int .u32 c,.int .u32 d,.int .u32 e,.int .u32 f,.int .u32 g,.int .u32 i,.int .u32 j,.int .u32 l]:Array Value)[k]?=some (.int .u32 a):=by
  match k,b with
  |0,_=>exact⟨_,rfl⟩
  |1,_=>exact⟨_,rfl⟩
  |2,_=>exact⟨_,rfl⟩
  |3,_=>exact⟨_,rfl⟩
  |4,_=>exact⟨_,rfl⟩
  |5,_=>exact⟨_,rfl⟩
  |6,_=>exact⟨_,rfl⟩
  |7,_=>exact⟨_,rfl⟩
 obtain⟨a,hy⟩:=h;exact⟨a,lv w _ 326 8 _ k _ LF b LF hy LF⟩
theorem kI.at8{w}{b:Nat}(h:kI w b)(i:Nat)(hi:i<8):∃x:Int,w.cell? ⟨b,i,none⟩=some (.int .u32 x):=by obtain⟨x,hx,_⟩:=h.word hi;exact⟨x,hx⟩
theorem kp.eight{T w}{b:Nat}{a c d e f g j k:Int}(h:w.heap[b]?=some (.cells #[.int .u32 a,.int .u32 c,.int .u32 d,.int .u32 e,.int .u32 f,.int .u32 g,.int .u32 j,.int .u32 k] T (0,0))):kp T w b 8:=
 ⟨_,h,rfl,λi hi=>by
  match i,hi with
  |0,_=>exact⟨_,rfl⟩
  |1,_=>exact⟨_,rfl⟩
  |2,_=>exact⟨_,rfl⟩
  |3,_=>exact⟨_,rfl⟩
  |4,_=>exact⟨_,rfl⟩
  |5,_=>exact⟨_,rfl⟩
  |6,_=>exact⟨_,rfl⟩
  |7,_=>exact⟨_,rfl⟩⟩
theorem kI.Hl{w}{b:Nat}(h:kI w b):∃(t:Int) (jr:Nat),0<=t/\jr<64/\t % 64=(jr:Int)/\t.tmod 64=(jr:Int)/\w.cell? ⟨b,72,none⟩=some (.int .u64 t)/\w.frozen? ⟨b,72,none⟩=false/\∀a:Int,0<=a->kI (w.setCell ⟨b,72,none⟩ (.int .u64 a)) b:=by obtain⟨t,c,d,e,f⟩:=h.Jj;refine⟨t,(t % 64).toNat,c,LC,LC,?_,d,e,f⟩;rw[Int.tmod_eq_emod_of_nonneg c];omega
theorem kI.Hm{w}{b:Nat}(h:kI w b):∃t:Int,w.cell? ⟨b,72,none⟩=some (.int .u64 t)/\w.frozen? ⟨b,72,none⟩=false/\∀a:Int,0<=a->kI (w.setCell ⟨b,72,none⟩ (.int .u64 a)) b:=by obtain⟨t,f,c,d,e⟩:=h.Jj;exact⟨t,c,d,e⟩
theorem mV(a:Nat)(f w)(h:lp w a f):Calls prog 39 #[.pointer (some ⟨a,0,none⟩)] w λe w'=>e=.returned (.int .i64 (f.jh.length:Int))/\w'=w:=by
 obtain⟨b,c,d,g,i,j,k,l,m,n,p,pb,q,c1,c2,c3,c4,hf,_⟩:=h;have hn:=hf.jh.len.1;rw[hn]
 go_enter func39,ntmps39
 go_wp2;go_ret;exact⟨rfl,rfl⟩
theorem uI(a:Nat)(f w)(h:lp w a f):Calls prog 66 #[.pointer (some ⟨a,0,none⟩)] w λe w'=>e=.returned (.int .i64 (f.jl.length:Int))/\w'=w:=by
 obtain⟨b,c,d,g,i,j,k,l,m,n,p,pb,q,c1,c2,c3,c4,hf,_⟩:=h;have hn:=hf.jl.len.1;rw[hn]
 go_enter func66,ntmps66
 go_wp2;go_ret;exact⟨rfl,rfl⟩
end Go.Proofs.YtidmdcckbdmblaaGreatDoor
namespace Go.Proofs.YtidmdcckbdmblaaGreatDoor
open Go.RowKit Go.Proofs.Tryz
def jn(w:World)(b:Nat):Nat->List Value->World
 |_,[]=>w
 |o,u::us=>jn (w.setCell ⟨b,o,none⟩ u) b (o+1) us
theorem ni{b:Nat}{T t}:∀{r m l:List Value} {w:World},m.length=r.length->w.heap[b]?=some (.cells (l++(m++t)).toArray T (0,0))->(jn w b l.length r).heap[b]?=some (.cells (l++(r++t)).toArray T (0,0))
 |[],[],_,_,_,h=>h
 |[],_::_,_,_,h,_=>by simp at h
 |_::_,[],_,_,h,_=>by simp at h
 |u::r,v::m,l,w,hl,h=>by
  have a:=iW (i:=l.length) (u:=u) h;have e:((l++(v::m++t)).toArray.setIfInBounds l.length u)=((l++[u])++(m++t)).toArray:=by rw[JL,List.set_append_right _ _ (JS _)];simp
  rw[e]at a;have:=ni (r:=r) (m:=m) (l:=l++[u]) (by simpa using hl) a;rw[JU]at this;simp only[jn];rw[show l.length+1=l.length+[u].length from rfl,this];simp
theorem kD{b q:Nat}(a:q≠b):∀{r:List Value} {o:Nat} {w:World},(jn w b o r).heap[q]?=w.heap[q]?
 |[],_,_=>rfl
 |u::r,o,w=>(kD a (r:=r)).T (J0 _ _ _ _ a)
theorem jW{b:Nat}:∀{r:List Value} {o:Nat} {w:World},(jn w b o r).heap.size=w
 |[],_,_=>rfl
 |u::r,o,w=>(jW (r:=r)).T (JQ _ _ _)
theorem jC{lo b:Nat}(a:lo<=b){w0}:∀{r:List Value} {o:Nat} {w:World},Below lo w0 w->Below lo w0 (jn w b o r)
 |[],_,_,h=>h
 |u::r,o,w,h=>jC a (r:=r) (h.setCell (p:=⟨b,o,none⟩) a _)
theorem kz.frozen{a:Type}{R:Rel a}{T k B:Nat}{w}{b n:Nat}{xs:List a}(h:kz R T k B w b n xs)(i:Nat):w.frozen? ⟨b,i,none⟩=false:=by obtain⟨d,e,c,f,g⟩:=h.ex;exact iY c i
theorem kz.cell{a:Type}{R:Rel a}{T k B:Nat}(ok:jI R k){w}{b n:Nat}{xs:List a}(h:kz R T k B w b n xs){i:Nat}(hi:i<n*k):∃u,w.cell? ⟨b,i,none⟩=some u:=by obtain⟨e,f,c,g,d⟩:=h.ex;have j:=jD.flat (k:=k) (λr x h=>ok.len h) d;exact⟨_,iT c i _ (by rw[KR];exact JW (by rw[JU];omega))⟩
theorem kz.put{c:Type}{R:Rel c}{T k B:Nat}(ok:jI R k){w}{b n:Nat}{xs:List c}(h:kz R T k B w b n xs){r}{x:c}(hx:R (λq=>B<=q/\q<w/\q≠b) w r x)(hn:xs.length<n){o:Nat}(g:o=xs.length*k):kz R T k B (jn w b o r) b n (xs++[x]):=by obtain⟨e,d,i,p,f⟩:=h.ex;have j:=jD.flat (k:=k) (λr x h=>ok.len h) f;have hr:=ok.len hx;have hm:=KU k hn;rw[Nat.succ_mul]at hm;subst g;refine⟨e++[r],d.drop k,?_,?_,?_⟩;rw[<-j];have:=ni (r:=r) (m:=d.take k) (t:=d.drop k) (l:=e.flatten) (by rw[Kv];omega) (by rw[K6];exact i);rw[this];simp;rw[JU,List.length_drop,Lu];simp only[Kb,Kc];omega;refine(jD.snoc hx f).imp λr x hx=>ok.M (ok.iV hx λq a=>kD a.2.2) λq a=>⟨a.1,by rw[jW];exact a.2.1,a.2.2⟩
end Go.Proofs.YtidmdcckbdmblaaGreatDoor
namespace Go.Proofs.YtidmdcckbdmblaaGreatDoor
open Go.RowKit jJ Go.Proofs.Tryz
theorem ky{w:World}{b:Nat}{T:TypeId}{r m:List Value}(h:w.heap[b]?=some (.cells m.toArray T (0,0)))(a:m.length=r.length):(jn w b 0 r).heap[b]?=some (.cells r.toArray T (0,0)):=by have:=ni (r:=r) (m:=m) (t:=[]) (l:=[]) a (by simpa using h);simpa using this
theorem lX{P:Program}{ops:Array Oper}{rest:List Oper}{op}{a:Act}{w:World}{Q:Exit->Act->World->Prop}(g:op.guard=none)(c)(x f:Operand)(i:op.op=.store c x f)
  (b:Nat) (d cells:Array Value) (T:TypeId) (hx:a.eval x=.pointer (some ⟨b,0,none⟩)) (hy:a.eval f=.agg cells) (hc:w.heap[b]?=some (.cells d T (0,0))) (j:d.size=cells.size)
  (hi:(P.info? c).map (·.size)=some cells.size) (l:cells.all (·.oneCell')=true)
  (h:∀w',w'.heap[b]?=some (.cells cells T (0,0))->w.grownBy w' (some b)->w'.heap.size=w->wpList P ops Q rest (a.put op.dst undef) w'):wpList P ops Q (op::rest) a w:=by
 have m:=run_storeVar_row (P:=P) w b T c d cells hc hi j l;refine wpList_plain g λK hK=>?_;unfold Oper.wp execOp;simp only[i,hx,hy,Instr.storeAt,Instr.sureAddr,KH,KI,Ko,m];exact hK _ _ (h _ (setRow_heap w b _ _ _ _ hc) ⟨rfl,rfl,rfl,by simp[World.setRow],λk p n=>setRow_other _ _ _ _ (λe=>n (by rw[e]))⟩ (by simp[World.setRow]))
end Go.Proofs.YtidmdcckbdmblaaGreatDoor
namespace mX
open Go
def arr(e:Ev):Nat:=if e.kind=7 then(if e.d=4 then 4 else if e.d=5 then 5 else if e.d=6 then 6 else 7)else e.kind
def base(e:Ev):Ev:=⟨e.tick,e.comp,e.kind,0,e.n,0,e.hd,if e.kind=7 then e.d else 0,e.args⟩
def used(e:Ev):Ev:=
 match arr e with
 |1=>{base e with peer:=e.peer,d:=e.d,hd:=0,args:=[]}
 |2=>{base e with d:=e.d,hd:=0,args:=[]}
 |3=>{base e with hd:=0,args:=[]}
 |5=>{base e with peer:=e.peer,copy:=e.copy}
 |8=>{base e with peer:=e.peer}
 |9=>{base e with d:=e.d}
 |10=>{base e with peer:=e.peer,copy:=e.copy,hd:=0}
 |11=>{base e with n:=0,args:=[]}
 |_=>base e
def qj(m:Nm)(e:Ev):Bool:=lJ m e.comp e.hd&&decide (e.args.length<=4)
def fits(m:Nm)(e:Ev):Bool:=
 match arr e with
 |1=>decide (e.comp=m.jh.length)&&(rH m e.peer&&(decide (e.d=0)||decide (e.d=1)))
 |2=>kM m e.comp&&(decide (1<=e.d)&&decide (e.d<=3))
 |3=>kM m e.comp
 |4=>qj m e
 |5=>qj m e&&(kM m e.peer&&(decide (e.copy=0)||decide (e.copy=1)))
 |6=>qj m e
 |8=>kM m e.comp&&(lJ m e.peer e.hd&&decide (e.args.length<=4))
 |9=>qj m e&&decide (0<=e.d)
 |10=>kM m e.comp&&((decide (e.peer=0)||decide (e.peer=1))&&((decide (e.copy=0)||decide (e.copy=1))&&decide (e.args.length=if e.peer=1/\e.copy=1 then 1 else 2)))
 |11=>lJ m e.comp e.hd
 |_=>false
def yh(v:Int):Prop:= -9223372036854775808<=v/\v<=9223372036854775807
end mX
namespace Go.Proofs.YtidmdcckbdmblaaGreatDoor
open Go.RowKit jJ mX Go.Proofs.Tryz
def iZ(f:Fl):Nm:=⟨f.jh.map (·.name),f.jl.map (·.name),jM f⟩
theorem ql{f:Fl}{c:Int}:kM (iZ f) c=true↔0<=c/\c<f.jh.length:=by simp[kM,iZ]
theorem vI{f:Fl}{c:Int}:rH (iZ f) c=true↔0<=c/\c<f.jl.length:=by simp[rH,iZ]
theorem xQ(w:World)(a b c:Value):(Instr.field 176 (.agg #[a,b,c]) 0).run prog w=.ok a w:=LF
theorem xR(w:World)(a b:Value):(Instr.field 171 (.agg #[a,b]) 0).run prog w=.ok a w:=LF
def ma(xs:List (List UInt8))(w:World)(e:Ending)(w':World):Prop:=(∃(a:Option Addr) (c:Nat),e=.returned (.slice a xs.length c)/\jc jk (λb=>w<=b/\b<w') w' (.slice a xs.length c) xs)/\Below w w w'
theorem HE{f:Fl}{i:Nat}{x:List (List UInt8)}(hx:(jM f)[i]?=some x):hL (iZ f) (i:Int)=x:=by have hi:=(J6.1 hx).1;unfold hL;rw[Kn (ql.2 ⟨LC,by simp[jM]at hi;omega⟩)];simp[iZ,hx]
theorem CX{f:Fl}{c:Int}(h:¬(0<=c/\c<f.jh.length)):hL (iZ f) c=[]:=by unfold hL;rw[Ka];rw[ql];exact h
theorem xS{f:Fl}(b:kr f){i:Nat}{x:List (List UInt8)}(hx:(jM f)[i]?=some x):x.length<=200:=by
 unfold jM at hx;rw[KD]at hx;cases hc:f.jh[i]? with
 |none=>rw[hc]at hx;cases hx
 |some c=>rw[hc]at hx;injection hx with hx;have a:=b.jh c (JM hc);have d:=oc c.jG [] (λhs e=>LA ((a.jG hs e).1));have g:=a.v2;rw[<-hx];show(jL [] c.jG).length<=200;simp at d;omega
theorem jP(a:Nat)(c:Int)(f:Fl)(w:World)(h:lp w a f):Calls prog 33 #[.pointer (some ⟨a,0,none⟩),c] w λe w'=>e=.returned (.bool (kM (iZ f) c))/\w'=w:=by
 have d:=JH (mV a f w h);clear h;by_cases b:0<=c
 .have he:kM (iZ f) c=decide (c<(f.jh.length:Int)):=(by simp[kM,iZ,b]);rw[he];clear he
  go_enter func33,ntmps33
  go_wp2_with fail;refine d.o.M ?_;rintro e g ⟨rfl,rfl⟩;go_wp2_with fail;go_ret;exact⟨rfl,rfl⟩
 have he:kM (iZ f) c=false:=by simp[kM,b]
 rw[he];clear he
 go_enter func33,ntmps33
 go_wp2_with fail;go_ret;exact⟨rfl,rfl⟩
abbrev FI(e:Ev)(a:Option Addr)(m c:Nat):Array Value:=#[.int .i64 e.tick,.int .i64 e.comp,.int .u8 (e.kind:Nat),.int .i64 e.peer,.int .i64 e.n,.int .i64 e.copy,.int .i64 e.hd,.int .i64 e.d,.slice a m c]
theorem ji{w:World}{b:Nat}{T:TypeId}{a c d e f g i j k:Value}(h:w.heap[b]?=some (.cells #[a,c,d,e,f,g,i,j,k] T (0,0))):
  w.cell? ⟨b,0,none⟩=some a/\w.cell? ⟨b,1,none⟩=some c/\w.cell? ⟨b,2,none⟩=some d/\w.cell? ⟨b,3,none⟩=some e/\w.cell? ⟨b,4,none⟩=some f/\w.cell? ⟨b,5,none⟩=some g/\w.cell? ⟨b,6,none⟩=some i/\w.cell? ⟨b,7,none⟩=some j/\w.cell? ⟨b,8,none⟩=some k:=
 ⟨iT h 0 _ rfl,iT h 1 _ rfl,iT h 2 _ rfl,iT h 3 _ rfl,iT h 4 _ rfl,iT h 5 _ rfl,iT h 6 _ rfl,iT h 7 _ rfl,iT h 8 _ rfl⟩
theorem jR(e:Ev)(i:Option Addr)(m c:Nat)(w:World):Calls prog 65 #[.agg (FI e i m c)] w (jf (.int .u8 (arr e:Nat)) w):=by
 obtain⟨t,cm,k,p,n,g,h,d,args⟩:=e;have a:=Ba w (.cells #[.int .i64 t,cm,.int .u8 (k:Nat),p,n,g,h,d,.slice i m c] 29);have b:=JH a;by_cases j:k=7
 .subst j;by_cases l:d=4
  .subst l;clear a
   go_enter func65,ntmps65
   go_wp2_with fail;go_ret;exact⟨rfl,b.o⟩
  by_cases q:d=5
  .subst q;clear a
   go_enter func65,ntmps65
   go_wp2_with fail;go_ret;exact⟨rfl,b.o⟩
  by_cases r:d=6
  .subst r;clear a
   go_enter func65,ntmps65
   go_wp2_with fail;go_ret;exact⟨rfl,b.o⟩
  have f:arr ⟨t,cm,7,p,n,g,h,d,args⟩=7:=(by simp[arr,l,q,r]);rw[f];clear a f
  go_enter func65,ntmps65
  go_wp2_with fail;go_ret;exact⟨rfl,b.o⟩
 have f:arr ⟨t,cm,k,p,n,g,h,d,args⟩=k:=by simp[arr,j]
 have s:¬(k:Int)=7:=LC
 rw[f];clear a f
 go_enter func65,ntmps65
 go_wp2_with fail;go_ret;exact⟨rfl,b.o⟩
theorem nN(x:Nat)(w:World):Calls prog 245 #[.int .u8 (x:Nat)] w λe w'=>e=.returned (.bool false)/\w'=w:=by
 go_enter func245,ntmps245
 go_wp2_with fail;go_ret;exact⟨LG,rfl⟩
theorem Dz(x a:Nat)(w:World):Calls prog 182 #[.int .u8 (x:Nat),.int .u8 (a:Nat)] w λe w'=>e=.returned (.int .i64 (Lib.compareInt (x:Int) (a:Int)))/\w'=w:=by
 unfold Lib.compareInt;by_cases c:(x:Int)<(a:Int)
 .rw[Kn c]
  go_enter func182,ntmps182
  go_wp2_with fail;refine(nN x w).M ?_;rintro e b ⟨rfl,rfl⟩;go_wp2_with fail;refine(nN a b).M ?_;rintro e d ⟨rfl,rfl⟩;go_wp2_with fail;go_ret;exact⟨rfl,rfl⟩
 by_cases f:(a:Int)<(x:Int)
 .rw[Ka c,Kn f]
  go_enter func182,ntmps182
  go_wp2_with fail;refine(nN x w).M ?_;rintro e b ⟨rfl,rfl⟩;go_wp2_with fail;refine(nN a b).M ?_;rintro e d ⟨rfl,rfl⟩;go_wp2_with fail;go_ret;exact⟨rfl,rfl⟩
 rw[Ka c,Ka f]
 go_enter func182,ntmps182
 go_wp2_with fail;refine(nN x w).M ?_;rintro e b ⟨rfl,rfl⟩;go_wp2_with fail;refine(nN a b).M ?_;rintro e d ⟨rfl,rfl⟩;go_wp2_with fail;go_ret;exact⟨rfl,rfl⟩
theorem E3{w:World}{b:Nat}{l:List Int}{T:TypeId}{a:Array Value}(h:w.heap[b]?=some (.cells a T (0,0))){k:Nat}{x:Int}(hx:l[k]?=some x)(hc:a=(l.map λx=>Value.int .i64 x).toArray:=by rfl):w.cell? ⟨b,k,none⟩=some (.int .i64 x):=by subst hc;exact iT h k _ (by simp[hx])
def tP(B:Bool)(x:Int):Prop:=yh x/\(B=false->0<=x/\x<100)
theorem tP.all{B:Bool}{xs:List Int}(h:∀x∈xs,tP B x):∀x∈xs,yh x:=λx hx=>(h x hx).1
theorem qP{B:Bool}(n:Int)(hn:tP B n)(w:World)(a:ow B w):Calls prog 27 #[.int .i64 n] w (jf (tx (Lib.itoa n)) w):=by
 cases B with
 |true=>exact(Tryz.strconv_Itoa n hn.1.1 hn.1.2 w (a rfl)).M λ_ _ ⟨he,k,c,hw⟩=>⟨he,by rw[hw];exact Lib.below_grow _ _ (JS _) _ _⟩
 |false=>obtain⟨b,d⟩:=hn.2 rfl;obtain⟨i,rfl⟩:=Int.eq_ofNat_of_zero_le b;exact(Tryz.strconv_Itoa_small i LC w).M λ_ _ ⟨he,hw⟩=>⟨by rw[he,xg],by rw[hw];exact Below.refl _ _⟩
theorem qm{B:Bool}(n:Int)(hn:tP B n)(w:World)(a:ow B w):Calls prog 69 #[.int .i64 n,.int .i64 10] w (jf (tx (Lib.itoa n)) w):=by
 cases B with
 |true=>exact(Tryz.strconv_FormatInt_10 n hn.1.1 hn.1.2 w (a rfl)).M λ_ _ ⟨he,k,c,hw⟩=>⟨he,by rw[hw];exact Lib.below_grow _ _ (JS _) _ _⟩
 |false=>obtain⟨b,d⟩:=hn.2 rfl;obtain⟨i,rfl⟩:=Int.eq_ofNat_of_zero_le b;exact(Tryz.strconv_FormatInt_10_small i LC w).M λ_ _ ⟨he,hw⟩=>⟨by rw[he,xg],by rw[hw];exact Below.refl _ _⟩
theorem oQ:∀(xs:List Int),(∀x∈xs,yh x)->(Lib.join (xs.map Lib.itoa) [44,32]).length<=23*xs.length
 |[],_=>by simp[Lib.join]
 |[x],h=>by have:=Kz x (h x LG).1 (h x LG).2;rw[show Lib.join ([x].map Lib.itoa) [44,32]=Lib.itoa x from Lib.join_one _ _];simp;omega
 |x::y::xs,h=>by have b:=Kz x (h x LG).1 (h x LG).2;have a:=oQ (y::xs) (λz hz=>h z (by simp[hz]));rw[DC];simp only[JU,Kb,Kc]at a⊢;omega
theorem CI{l a:List UInt8}(h:l=a):tx l=tx a:=Km tx h
theorem sq{l:List (List UInt8)}{x a:List UInt8}(h:a∈nu l x):a∈l\/a=x:=by unfold nu at h;split at h;exact .inl h;rcases List.mem_append.1 h with h|h;exact .inl h;exact .inr (by simpa using h)
theorem sX{P:List UInt8->Prop}:∀{hs:List Hd} {l:List (List UInt8)},(∀x∈l,P x)->(∀h∈hs,P h.name)->∀a∈kH l hs,P a
 |[],l,hl,_,a,hy=>hl a hy
 |h::hs,l,hl,hh,a,hy=>by have b:a∈kH (nu l h.name) hs:=hy;refine sX (l:=nu l h.name) (λx hx=>?_) (λz hz=>hh z (Lr _ hz)) a b;rcases sq hx with hx|rfl;exact hl x hx;exact hh h (KY ..)
theorem sY{P:List UInt8->Prop}:∀{vs:List (List Hd)} {l:List (List UInt8)},(∀x∈l,P x)->(∀hs∈vs,∀h∈hs,P h.name)->∀a∈jL l vs,P a
 |[],l,hl,_,a,hy=>hl a hy
 |hs::vs,l,hl,hh,a,hy=>by have b:a∈jL (kH l hs) vs:=hy;exact sY (l:=kH l hs) (λx hx=>sX hl (hh hs (KY ..)) x hx) (λz hz=>hh z (Lr _ hz)) a b
theorem sy{P:List UInt8->Prop}{l:List (List UInt8)}(a:P [])(h:∀x∈l,P x)(i:Nat):P (l[i]?.getD []):=by
 cases hx:l[i]? with
 |none=>exact a
 |some x=>exact h x (JM hx)
theorem kr.Jl{f:Fl}(b:kr f):Jk (iZ f):=by
 refine⟨λi=>?_,λi=>?_,λi k=>?_⟩;unfold cN;split;refine sy (P:=λx=>x.length<=12) LG (λx hx=>?_) _;obtain⟨c,hc,rfl⟩:=Ld.1 hx;exact kS (b.jh c hc).name;simp;unfold fN;split;refine sy (P:=λx=>x.length<=12) LG (λx hx=>?_) _;obtain⟨c,hc,rfl⟩:=Ld.1 hx;exact kS (b.jl c hc);simp;unfold hN;split;refine sy (P:=λx=>x.length<=12) LG (λx hx=>?_) _;unfold hL at hx;split at hx;have a:x∈((jM f)[i.toNat]?.getD []):=hx;cases hn:(jM f)[i.toNat]? with
 |none=>rw[hn]at a;simp at a
 |some l=>rw[hn]at a;have d:=JM hn;obtain⟨c,hc,rfl⟩:=Ld.1 d;have e:=b.jh c hc;exact sY (P:=λx=>x.length<=12) LG (λhs g h j=>kS ((e.jG hs g).2 h j).name) x a
 simp at hx;simp
theorem HF(d:Int):Lib.formatBool (d==1)=if d=1 then [116,114,117,101]else [102,97,108,115,101]:=by by_cases h:d=1;subst h;rfl;rw[Ka h,JX.2 h];rfl
theorem od{m:Nm}{e:Ev}(h:fits m e=true):arr e=1\/arr e=2\/arr e=3\/(arr e=4/\e.args.length<=4)\/(arr e=5/\e.args.length<=4)\/(arr e=6/\e.args.length<=4)\/(arr e=8/\e.args.length<=4)\/(arr e=9/\e.args.length<=4)\/(arr e=10/\1<=e.args.length/\e.args.length<=2)\/arr e=11:=by unfold fits at h;split at h<;>simp_all [qj];split<;>omega
theorem zZ(w:World)(a b n:Int):
  Calls prog 14 #[.agg #[.int .i64 a,b,n],.pointer none] w (jf (Em) w):=by
 go_enter func14,ntmps14
 go_wp2_with fail;go_ret;exact⟨rfl,Ba _ _⟩
theorem wa(w:World)(s:ByteArray):
  Calls prog 17 #[.string s,.pointer none] w (jf (.tuple #[.agg #[.int .i64 0,.int .i64 0,.int .u8 0,.int .i64 0,.int .i64 0,.int .i64 0,.int .i64 0,.int .i64 0,Nl],.int .i64 1]) w):=by
 go_enter func17,ntmps17
 go_wp2_with fail;exact JZ (v:=.tuple #[.agg #[.int .i64 0,.int .i64 0,.int .u8 0,.int .i64 0,.int .i64 0,.int .i64 0,.int .i64 0,.int .i64 0,Nl],.int .i64 1]) (by simp[results,Tryz.results17,go_sem]) rfl ⟨rfl,Ba _ _⟩
end Go.Proofs.YtidmdcckbdmblaaGreatDoor
namespace nw
open jJ
def rA(l:List UInt8):Nat:=l.foldl (λv c=>10*v+(c.toNat-48)) 0
end nw
namespace Go.Proofs.YtidmdcckbdmblaaGreatDoor
open Go.RowKit jJ nw Go.Proofs.Tryz
theorem sZ(w:World)(a b c:Value):(Instr.field 305 (.agg #[a,b,c]) 0).run prog w=.ok a w:=LF
theorem zM{P:Program}{f:FuncId}{args:Array Value}{w:World}{n:Nat}{v:Value}
  (h:Calls P f args (w.drewN n) λe w'=>e=.returned v/\w.drewN n=w'):Calls P f args (w.drewN n) λe a=>e=.returned v/\∃m,a=w.drewN m:=
 h.M λ_ _ ⟨he,hm⟩=>⟨he,n,hm.symm⟩
def Ei:Rel (List UInt8×Nat):=λ_ _ r x=>r=[tx x.1,.int .u8 (x.2:Nat)]
theorem Ei.ok:jI Ei 2:=⟨LC,λh=>by rw[h];rfl,λh u hu=>by rw[h]at hu;simp at hu;rcases hu with rfl|rfl<;>rfl,λh _=>h,λh _=>h⟩
abbrev Fq(x:Ex):Value:=.agg #[.int .u8 x.op,tx x.name,x.n,Nl]
theorem vt{w:World}{z:Nat}{a c1 c2 c3 u0 u1 u2 u3:Value}{t:TypeId}(h:w.heap[z]?=some (.cells #[a,c1,c2,c3] t (0,0))):
 ((((w.setCell ⟨z,0,none⟩ u0).setCell ⟨z,1,none⟩ u1).setCell ⟨z,2,none⟩ u2).setCell ⟨z,3,none⟩ u3).heap[z]?=some (.cells #[u0,u1,u2,u3] t (0,0)):=iW (iW (iW (iW h)))
def FB(l:List (List UInt8×Nat)):List Value:=(l.map λx=>[tx x.1,.int .u8 (x.2:Nat)]).flatten
theorem qH{w:World}{b:Nat}{t:TypeId}{a:Nat×Nat}(l:List (List UInt8×Nat))(n:Nat)(h:w.heap[b]?=some (.cells (FB l).toArray t a))(hn:l.length=n)(c:n<=100):jc Ei (λq=>q=b) w (.slice (some ⟨b,0,none⟩) n n) l:=by
 subst hn;refine⟨_,_,l.map λx=>[tx x.1,.int .u8 (x.2:Nat)],rfl,JS _,LC,λ_=>⟨b,0,rfl,rfl,λe u hu=>?_⟩,?_⟩;rw[J4];simp only[World.cell?,h];simpa[FB]using hu;clear h c;induction l with
 |nil=>trivial
 |cons x l d=>exact⟨rfl,d⟩
def wb(x:Ex):List Value:=[.int .u8 x.op,tx x.name,.int .i64 x.n,Nl]
def pR(l:List Ex):List Value:=l.flatMap wb
theorem xj(l:List Ex):(pR l).length=l.length*4:=by
 induction l with
 |nil=>rfl
 |cons x l a=>simp only[pR,List.flatMap_cons,JU,Kb]at*;rw[a];simp[wb];omega
theorem uS(l:List Ex)(x:Ex):pR (l++[x])=pR l++wb x:=by simp[pR]
theorem bind_some{a b:Type}{o:Option a}{f:a->Option b}{c:b}(h:(o>>=f)=some c):∃x,o=some x/\f x=some c:=by
 cases o with
 |none=>cases h
 |some x=>exact⟨x,rfl,h⟩
theorem one_set{w:World}{b:Nat}{u v:Value}{t:TypeId}(h:w.heap[b]?=some (.cells #[u] t (0,0))):(w.setCell ⟨b,0,none⟩ v).heap[b]?=some (.cells #[v] t (0,0)):=iW h
def GU(f:Fl)(w:World)(e:Ending)(w':World):Prop:=∃a:Nat,e=.returned (.tuple #[.pointer (some ⟨a,0,none⟩),.int .i64 0,.int .i64 0])/\lp w' a f/\Below w w w'/\w<=a
end Go.Proofs.YtidmdcckbdmblaaGreatDoor
namespace nw
theorem uP(l:List UInt8)(c:UInt8):rA (l++[c])=10*rA l+(c.toNat-48):=by simp[rA]
theorem AH:∀(n:Nat) (l:List UInt8),l.length=n->l.all (λc=>decide (48<=c)&&decide (c<=57))=true->rA l<10^n
 |0,l,h,_=>by obtain rfl:=List.eq_nil_of_length_eq_zero h;decide
 |n+1,l,h,ha=>by
  obtain⟨m,c,rfl⟩:∃m c,l=m++[c]:=⟨l.dropLast,l.getLast (by intro e;rw[e]at h;cases h),(List.dropLast_concat_getLast _).symm⟩
  rw[List.all_append,Bool.and_eq_true]at ha;have a:=AH n m (by simpa using h) ha.1;have hc:c<=57:=(by have:=ha.2;simp at this;exact this.2);have b:c.toNat<=57:=hc;rw[uP,Nat.pow_succ];omega
theorem B6{l:List UInt8}(k:Nat)(h:k<l.length):rA (l.take (k+1))=10*rA (l.take k)+((l[k]).toNat-48):=by rw[List.take_add_one,List.getElem?_eq_getElem h];exact uP _ _
theorem Gy{l:List UInt8}(a:l.all (λc=>decide (48<=c)&&decide (c<=57))=true)(k:Nat)(h:k<l.length):48<=(l[k]).toNat/\(l[k]).toNat<=57:=by have:=List.all_eq_true.1 a _ (List.getElem_mem h);simp at this;exact this
theorem td:∀{l:List UInt8},l.all (λc=>decide (48<=c)&&decide (c<=57))=true->jg.pre jg.kt l=l.length
 |[],_=>rfl
 |c::l,h=>by
  rw[List.all_cons,Bool.and_eq_true]at h;have hc:48<=c.toNat/\c.toNat<=57:=by have:=h.1;simp at this;exact this
  rw[jg.kR,if_pos (by unfold jg.kt;simp;omega),td h.2,List.length_cons]
end nw
namespace Go.Proofs.YtidmdcckbdmblaaGreatDoor
open Go.RowKit jJ nw Go.Proofs.Tryz
theorem zN(l:List UInt8)(m:Int)(w:World)(d:l.all (λc=>decide (48<=c)&&decide (c<=57))=true)(n:l≠[])(z:l.length<=18):
  Calls prog 267 #[.agg #[.int .u8 3,tx l,m]] w λe w'=>e=.returned (.tuple #[.int .i64 (rA l:Nat),.int .i64 0])/\Below w w w':=by
 obtain⟨s,hs⟩:∃s:ByteArray,s=⟨l.toArray⟩:=⟨_,rfl⟩
 have f:s.size=l.length:=by rw[hs];exact KQ ..
 have Ij:s.data.toList=l:=by rw[hs]
 have g:=λ(W:World)=>L.qx s W LN;rw[Ij,td d,<-f]at g;have A:=JH g;have b:=JH (And.intro d (And.intro f Ij));have B:s.toList≠[]:=by rw[hs,K2];exact n
 have he:s.toList.isEmpty=false:=by
  cases e:s.toList with
  |nil=>exact absurd e B
  |cons=>rfl
 have E:s.size<=18:=LC
 rw[show tx l=.string s from by rw[hs]];clear g hs Ij d n z f
 go_enter func267,ntmps267
 go_wp2_with fail;go_quiet ((go_at_call 259;exact zM (A.o _)));go_wp2_with fail;go_loopw [4,5,6,27] (λa _ _ i wr=>∃k:Nat,k<=s.size/\i=k/\a=.int .i64 (rA (l.take k):Nat)/\wr=(w.alloc (Obj.cells #[Value.int IntKind.u8 3,Value.string s,Value.int IntKind.i64 m] 305)).drewN nq) (λ_ _ _ i _=>s.size-(intOf i).toNat);case atStart=>exact⟨0,JV _,rfl,rfl,rfl⟩
 case round=>
  obtain⟨k,F,rfl,rfl,rfl⟩:=hrel;have p:=AH k (l.take k) (by rw[Kv];have:=b.o.2.1;omega) (by have:=b.o.1;rw[KT]at this⊢;exact λx hx=>this x (Lc hx));by_cases C:k<s.size
  .have hp:10^k<=10^17:=Nat.pow_le_pow_right LD LC;have j:k<l.length:=LA b.o.2.1;have D:=Gy b.o.1 k j;have q:=JH (B6 k j);have r:s[k]=l[k]:=by have t:s.data.toList[k]?=some s[k]:=(by rw[JW (by simpa using C)];rfl);rw[b.o.2.2,JW j]at t;exact(Option.some.inj t).symm
   have u:(s[k]).toNat=(l[k]).toNat:=(by rw[r]);have G:rA (l.take k)<100000000000000000:=LC;generalize rA (l.take k)=v at*;generalize hc:(s[k]).toNat=c at*;rw[<-u]at D q;clear u r p hp;go_wp2_with fail;go_roundw;case rel=>exact⟨k+1,LC,LI,by rw[q.o];go_num,trivial⟩
   case measure=>simp[intOf];omega
  have y:l.take k=l:=Kj (LA b.o.2.1);rw[y];have y:k=s.size:=LC;clear p;go_wp2_with fail
  go_ret2
  exact⟨rfl,kF (Ba _ _) _⟩
end Go.Proofs.YtidmdcckbdmblaaGreatDoor
