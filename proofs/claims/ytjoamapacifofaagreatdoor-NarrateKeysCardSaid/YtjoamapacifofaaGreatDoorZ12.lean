import Derived.Test.YtjoamapacifofaaGreatDoorZ5
import Derived.Test.YtjoamapacifofaaGreatDoorZ6
import Derived.Test.YtjoamapacifofaaGreatDoorZ7
import Derived.Test.YtjoamapacifofaaGreatDoorZ8
set_option maxRecDepth 1000000
set_option maxHeartbeats 32000000
set_option linter.all false
namespace Go.Proofs.YtjoamapacifofaaGreatDoor
open RowKit Go.Proofs.Tryz kT Maps nu pG ChangeShapes WideShapes ChangeAt
def xR{S}{i:Nat}{sc}{D left left':Nat}{T j k l m n p}{kind:Int}{name hd:List UInt8}{b c d:Option Addr}{e c1 f c2 g c3:Nat}{w a}{kA:List Ex}{th el:List St}(q:oX S i sc left' T #[j,k,l,m,n,p] w a)
  (r:jT (ko .i64 De) (New w a) a (.slice b e c1) kA) (s:jT (kp .i64 D) (New w a) a (.slice c f c2) th) (t:jT (kp .i64 D) (New w a) a (.slice d g c3) el) (he:mf sc (D+1) (.mk kind name hd kA th el)) (u:ku D th+ku D el+left'<=left):
  pJ S i sc D left w (.returned (.agg (pe kind name hd b e c1 c f c2 d g c3))) (lh a w (.int .i64 kind) (tx name) (tx hd) (.slice b e c1) (.slice c f c2) (.slice d g c3)):=
 vG (left:=left) (q.lh (.int .i64 kind) (tx name) (tx hd) (.slice b e c1) (.slice c f c2) (.slice d g c3)) (nd (ko.ok _ _) r _ _ _ _ _ _) (nd (kp.ok _ _) s _ _ _ _ _ _) (nd (kp.ok _ _) t _ _ _ _ _ _) he u
def xf:zX 126:=by
 intro S w b o d s r hL c hr m hb hS;have L:=c;have M:=hr;have N:=m;obtain⟨d',v1,v2,ak,rfl,rfl,O,P,Q⟩:=hr.open;obtain⟨⟨x,al,hx,R,p,T,q,am,an,t,u⟩,U,⟨ao,ap⟩,_⟩:=m;obtain⟨aq,c1,rfl,ar⟩:=O.form;obtain⟨au,c2,rfl,av⟩:=P.form;obtain⟨aw,c3,rfl,ax⟩:=Q.form;have j:=c 0 _ rfl;have v:=c 1 _ rfl;have y:=c 2 _ rfl;have z:=c 3 _ rfl;have A:=c 4 _ rfl;have B:=c 5 _ rfl;rw[Pc]at j;obtain⟨k,C⟩:∃k:Nat,k=s.kind.toNat:=⟨_,rfl⟩
 have D:s.kind=(k:Int):=SE
 rw[<-C]at hx;rw[D]at j;have V:1<=k:=SE
 have E:=hL;have W:=O0 hx;have e:=(And.intro j (And.intro v (And.intro y (And.intro z (And.intro A B)))))
 have g:=(And.intro L (And.intro M N))
 have i:=hS;have F:=(And.intro p q)
 have G:=(And.intro t u)
 obtain⟨n,hn⟩:=Xq s.kA.length;have ay:¬(n:Int)<(x.2.2.1:Int):=SE
 have az:¬(x.2.2.2.1:Int)<(n:Int):=SE
 have X:=O0 hn;clear R p T q t u U hx C D hS hn
 go_enter func126,ntmps126
 go_wp21;apply(Au k x W.o V _ E).M;rintro aA Y ⟨rfl,a⟩;have I:=a.size;have aB:=(Cb b o (a.B b hb)).T e.1;have Z:=(Cb b (o+1) (a.B b hb)).T e.2.1;have aa:=(Cb b (o+2) (a.B b hb)).T e.2.2.1;have ab:=(Cb b (o+3) (a.B b hb)).T e.2.2.2.1;have ac:=(Cb b (o+4) (a.B b hb)).T e.2.2.2.2.1;have ad:=(Cb b (o+5) (a.B b hb)).T e.2.2.2.2.2;have aC:b<Y:=SE
 have J:=a;rw[<-X.o]at ab;clear j v y z A B;have K:=λ(l:World) (f:Below w w l)=>wH 177 uA xe S l b o _ s _ (E.to f) (ov g hb i f).1 (ov g hb i f).2.1 (ov g hb i f).2.2.1 (ov g hb i f).2.2.2.1 (ov g hb i f).2.2.2.2;have ae:=K;clear K;cases MA:x.1<;>cases MB:x.2.1<;>cases OO:x.2.2.2.2.1<;>cases OP:x.2.2.2.2.2;all_goals
  first|(have af:=F.1 MA;rw[af]at Z)|skip
  first|(have ag:=F.2 MB;rw[ag]at aa)|skip
  first|(have ah:=G.1 OO;rw[ah,PE]at ac)|skip
  first|(have ai:=G.2 OP;rw[ai,PE]at ad)|skip
  go_wp21;apply(ae _ (J.alloc I _)).M;rintro aD l ⟨rfl,aj⟩;go_wp21;go_ret;exact⟨rfl,(J.alloc I _).T (aj.M SK)⟩
def uC:Dy 119:=by
 intro S w i d c1 b c c2 h z A B a hS;have J:d<=2:=by rw[<-A.len.1];exact a.FX
 have K:¬(4:Int)<(d:Int):=SE
 have l:=Ga w h i d c1 b c c2;have m:=(λ(f:World) (n:Below w w f)=>B.jP (kp.ok .u8 Ds) (λq p=>n.B q (hS q p)))
 have s:=(λ(f:World) (n:Below w w f) q (p:S q)=>O1 (hS q p) n.size)
 have u:=O2 w (.cells (ka h.name i d c1 b c c2) 125);have t:ku Ds h.body<=40:=Pj a.cnt SE;have L:=a.cnt;have v:Ds=4:=rfl
 go_enter func119,ntmps119
 go_wp21;refine(Aw Ds S _ b c c2 h.body (m _ l) a.B4 a.body t (by rw[v];omega) (s _ l)).M ?_;have x:w<(w.alloc (.cells (ka h.name i d c1 b c c2) 125)).heap.size:=SG
 generalize w.alloc (.cells (ka h.name i d c1 b c c2) 125)=M at*;rintro e f ⟨r,rfl,hr,j⟩;have N:¬(40:Int)<(r:Int):=SC t
 have k:=(l.T (j.M SE))
 have O:=j.size;obtain⟨⟨C,D,E⟩,_⟩:=kz ((j.B _ x).T u);have F:=((j.B _ x).T u)
 go_wp21;refine(Ax Ds S _ b c c2 h.body (m _ k) a.B4 a.body t (by rw[v];omega) (s _ k)).M ?_;rintro e P ⟨Q,rfl,R,y⟩
 have g:=(k.T (y.M k.size))
 have G:w.heap.size<f:=SE
 obtain⟨⟨C,D,E⟩,_⟩:=kz ((y.B _ G).T F);go_wp21;apply(rU 172 zt CD Ds S _ b c c2 h.body (z.to g) (m _ g) a.B4 a.body (s _ g)).M;rintro e T ⟨rfl,I⟩;go_wp21;go_ret;exact⟨rfl,g.T (I.M g.size)⟩
def Bp:Dy 125:=by
 intro S w i j c1 c d c2 h hL p k f g;have a:=Ga w h i j c1 c d c2;have l:=(k.jP (kp.ok .u8 Ds) (λq b=>a.B q (g q b)))
 have m:=(hL.to a)
 go_enter func125,ntmps125
 go_wp21;refine(rU 126 uB xf Ds S _ c d c2 h.body m l f.B4 f.body (λq b=>by rw[O4];have:=g q b;omega)).M ?_;rintro e r ⟨rfl,n⟩;go_wp21;go_ret;exact⟨rfl,a.T (n.M SG)⟩
def CF(S w n)(p c1:Nat)(s)(g c2:Nat)(t)(c c3:Nat)(f)(hL:ln w)(hf:oY S w n p c1 s g c2 t c c3 f)(hg:mh f):
  Calls prog 82 #[.agg (kb f.name n p c1 s g c2 t c c3)] w (kd (.bool true) w):=by
 have N:=hf.lB;have E:=hf.jZ
 have aH:g<=9:=by rw[<-N.len.1];exact hg.FZ
 have aI:c<=3:=by rw[<-E.len.1];exact hg.c3
 have aJ:1<=c:=by rw[<-E.len.1];exact hg.c1
 have Z:=O0 N.len.1;have aa:=O0 E.len.1;have F:Below w w (w.alloc (.cells (kb f.name n p c1 s g c2 t c c3) 60)):=Ba _ _;have O:=O2 w (.cells (kb f.name n p c1 s g c2 t c c3) 60);have aK:(w.alloc (.cells (kb f.name n p c1 s g c2 t c c3) 60)).heap.size=w+1:=SG
 have z:=(hf.jQ F)
 have G:=hg;have ab:=(hL.to F)
 have P:=O0 O;clear O
 go_enter func82,ntmps82
 go_wp21;generalize w.alloc (.cells (kb f.name n p c1 s g c2 t c c3) 60)=B at*;have Q:w.heap.size<B:=SE
 have A:=z.kX;have ac:=z.lB;have ad:=z.jZ;have a:=(Below.refl B B)
 go_loopw [12] (λi wr=>∃k:Nat,k<=g/\i=k/\Below B B wr) (λi _=>g-(intOf i).toNat)
 .exact⟨0,Pb _,rfl,a⟩
 obtain⟨j,ae,rfl,a⟩:=hrel;have af:=a.size;by_cases ag:j<g
 .obtain⟨b,hx⟩:∃x,f.lB[j]?=some x:=Gx (SC Z.o);obtain⟨ah,ai,r,rfl,R,hr,d⟩:=(ac.jP mY.ok (λq m=>a.B q (A q m))).kt mY.ok j b hx;have I:r=[tx b.a,tx b.b,.int .i64 b.sD]:=hr;subst I;have J:=d 0 _ rfl;have T:=d 1 _ rfl;have U:=d 2 _ rfl;rw[Pc]at J;have K:=O5 hx;obtain⟨aj,ak⟩:=mG j g;clear d hx;have al:=G.lB b K;have aL:¬b.sD<1:=SE;have aM:¬50<b.sD:=SE;clear al;have a:=(a.alloc SE (.cells #[tx b.a,tx b.b,b.sD] 108))
  go_wp2_with fail;go_roundw
  .exact⟨j+1,SE,SJ,a⟩
  simp[intOf];omega
 obtain rfl:g=j:=SE;obtain⟨⟨am,an,ao,ap⟩,_⟩:=kn ((a.B _ Q).T P.o);go_wp21;go_loopw [28] (λi wr=>∃k:Nat,k<=c/\i=k/\Below B B wr) (λi _=>c-(intOf i).toNat)
 .exact⟨0,Pb _,rfl,a⟩
 obtain⟨j,ae,rfl,a⟩:=hrel;have a:=a;have af:=a.size;by_cases ag:j<c
 .obtain⟨b,hx⟩:∃x,f.jZ[j]?=some x:=Gx (SC aa.o);obtain⟨ah,ai,r,rfl,R,hr,d⟩:=(ad.jP (lv.ok .u8) (λq m=>a.B q (A q m))).kt (lv.ok .u8) j b hx;obtain⟨v1,v2,rfl,L,V⟩:=hr;obtain⟨aq,cv,rfl,hcv⟩:=L.form;obtain⟨ar,au,rfl,hce⟩:=V.form;have J:=d 0 _ rfl;have T:=d 1 _ rfl;have U:=d 2 _ rfl;rw[Pc]at J;have K:=O5 hx;obtain⟨aj,ak⟩:=mG j c;clear d hx;have W:=G.jZ b K;obtain⟨u,D⟩:=Xq b.vars.length;obtain⟨av,X⟩:=Xq b.kS.length;rw[<-D]at T L hcv;rw[<-X]at U V hce;have aN:u<=5:=(by rw[D];exact W.Ei);have aw:=O0 D.symm;obtain⟨C,y⟩:=Xq (wr.alloc (.cells #[tx b.name,.slice aq u cv,.slice ar av au] 112));have aO:C.heap.size=wr+1:=(by rw[y];simp);have ax:=(show Below B B C by rw[y];exact a.alloc SE _)
  have ay:wr.grownBy C none:=(by rw[y];exact O7 _ _ none);have az:=(L.jP (nz.ok .u8) (w':=C) (λq m=>ay.B q (SC (A q m)) SG))
  have aA:∀q,S q->q<C:=λq m=>SC (A q m);clear D X;go_wp21;rw[<-y];clear y;have a:=(Below.refl C C)
  go_loopw [35] (λi wr=>∃k:Nat,k<=u/\i=k/\Below C C wr) (λi _=>u-(intOf i).toNat)
  .exact⟨0,Pb _,rfl,a⟩
  obtain⟨v,aP,rfl,a⟩:=hrel;have a:=a;have aQ:=a.size;by_cases aR:v<u
  .obtain⟨l,hx⟩:∃x,b.vars[v]?=some x:=Gx (SC aw.o);obtain⟨aS,aT,r,rfl,R,hr,d⟩:=(az.jP (nz.ok .u8) (λq m=>a.B q (aA q m))).kt (nz.ok .u8) v l hx;have I:r=[tx l.name,.int .u8 l.ty,.int .i64 l.init]:=hr;subst I;have aB:=d 0 _ rfl;have aU:=d 1 _ rfl;have aV:=d 2 _ rfl;rw[Pc]at aB;have aC:=O5 hx;obtain⟨aW,aX⟩:=mG v u;clear d hx;have aD:=W.vars l aC;have aE:=(xE l aD (wr.alloc (.cells #[tx l.name,.int .u8 l.ty,l.init] 115)))
   have aF:=(a.alloc SE (.cells #[tx l.name,.int .u8 l.ty,l.init] 115))
   go_wp21;apply aE.M;rintro e aG ⟨rfl,M⟩;have a:=(aF.T (M.M (by rw[O4];omega)))
   go_wp21;go_roundw
   .exact⟨v+1,SE,SJ,a⟩
   simp[intOf];omega
  obtain rfl:u=v:=SE;have a:=(ax.T (a.M SE))
  go_wp21;go_roundw
  .exact⟨j+1,SE,SJ,a⟩
  simp[intOf];omega
 obtain rfl:c=j:=SE;obtain⟨⟨am,an,ao,ap⟩,_⟩:=kn ((a.B _ Q).T P.o);go_wp21;have Y:=(F.T (a.M SE))
 apply(oo 125 xD Bp S wr n p c1 s g c2 t c c3 f (ab.to a) (z.jQ a) G).M;rintro e aG ⟨rfl,M⟩;go_wp21;go_ret;exact⟨rfl,Y.T (M.M Y.size)⟩
def EH(S w y)(m c1:Nat)(A)(n c2:Nat)(C)(b c3:Nat)(f)(hL:ln w)(hf:oY S w y m c1 A n c2 C b c3 f)(hg:mh f):
  Calls prog 80 #[.agg (kb f.name y m c1 A n c2 C b c3)] w (kd (.bool true) w):=by
 have aW:= @run_makeMap prog;have ak:=hf.km;have al:=hf.lB;have R:=hf.jZ;have aX:m<=2:=by rw[<-ak.len.1];exact hg.FY
 have aY:n<=9:=by rw[<-al.len.1];exact hg.FZ
 have aZ:b<=3:=by rw[<-R.len.1];exact hg.c3
 have ba:1<=b:=by rw[<-R.len.1];exact hg.c1
 have am:=O0 R.len.1;have T:Below w w (w.alloc (.cells (kb f.name y m c1 A n c2 C b c3) 60)):=Ba _ _;have ab:=O2 w (.cells (kb f.name y m c1 A n c2 C b c3) 60);have bb:(w.alloc (.cells (kb f.name y m c1 A n c2 C b c3) 60)).heap.size=w+1:=SG
 have U:=(hf.jQ T)
 have ac:=hg;have an:=(hL.to T)
 have ao:=O0 ab;clear ab;have bc:((b:Int)==0)=false:=by rw[O8];omega
 have bd:¬(8:Int)<(b:Int):=SE
 have be:¬(8:Int)<(m:Int):=SE
 have bf:¬(64:Int)<(n:Int):=SE
 go_enter func80,ntmps80
 go_wp21;generalize w.alloc (.cells (kb f.name y m c1 A n c2 C b c3) 60)=B at*;have ap:w.heap.size<B:=SE
 have G:=O0 U.kX;have aq:=U.jZ;have a:=(Below.refl B B)
 go_loopw [36] (λi wr=>∃k:Nat,k<=b/\i=k/\Below B B wr) (λi _=>b-(intOf i).toNat)
 .exact⟨0,Pb _,rfl,a⟩
 obtain⟨F,bg,rfl,a⟩:=hrel;have bh:=a.size;by_cases bi:F<b
 .obtain⟨l,hx⟩:∃x,f.jZ[F]?=some x:=Gx (SC am.o);obtain⟨bj,bk,r,rfl,ad,hr,g⟩:=(aq.jP (lv.ok .u8) (λq p=>a.B q (G.o q p))).kt (lv.ok .u8) F l hx;obtain⟨v1,v2,rfl,t,I⟩:=hr;obtain⟨J,cv,rfl,hcv⟩:=t.form;obtain⟨K,L,rfl,hce⟩:=I.form;have ar:=g 0 _ rfl;have au:=g 1 _ rfl;have av:=g 2 _ rfl;rw[Pc]at ar;have aw:=O5 hx;obtain⟨bl,bm⟩:=mG F b;clear g hx;have O:=ac.jZ l aw;obtain⟨E,V⟩:=Xq l.vars.length;obtain⟨c,M⟩:=Xq l.kS.length;rw[<-V]at au t hcv;rw[<-M]at av I hce;have bn:E<=5:=(by rw[V];exact O.Ei);have bo:c<=2:=(by rw[M];exact O.v2);have bp:1<=c:=(by rw[M];exact O.v1);have ax:=O0 M.symm;have bq:¬(8:Int)<(E:Int):=SE;have br:((c:Int)==0)=false:=(by rw[O8];omega);have bs:¬(3:Int)<(c:Int):=SE;have ay:=(I.jP (mr.ok .u8) (w':=B) (λq p=>(a.B q (G.o q p)).symm))
  have az:=((a.alloc SE (.cells #[tx l.name,.slice J E cv,.slice K c L] 112)).alloc (by rw[O4];omega) (.map #[] 0))
  have W:=World.ownsMap_made (wr.alloc (.cells #[tx l.name,.slice J E cv,.slice K c L] 112)) prog 9 RM;rw[O4]at W;have lD:((wr.alloc (.cells #[tx l.name,.slice J E cv,.slice K c L] 112)).alloc (.map #[] 0)).heap.size=wr+2:=SG;obtain⟨u,X⟩:=Xq (wr.heap.size+1);rw[<-X]at W;have aA:zP ((wr.alloc (.cells #[tx l.name,.slice J E cv,.slice K c L] 112)).alloc (.map #[] 0)) u (3*0):=⟨_,W⟩
  have bt:B<=u:=SE;clear V M;go_wp21;rw[<-X];generalize(wr.alloc (.cells #[tx l.name,.slice J E cv,.slice K c L] 112)).alloc (.map #[] 0)=bu at*;clear X;have a:=az;go_loopw [59] (λi wr=>∃k:Nat,k<=c/\i=k/\zP wr u (3*k)/\Below B B wr) (λi _=>c-(intOf i).toNat)
  .exact⟨0,Pb _,rfl,aA,a⟩
  obtain⟨j,bv,rfl,N,a⟩:=hrel;have a:=a;have bw:=a.size;by_cases bx:j<c
  .obtain⟨P,hx⟩:∃x,l.kS[j]?=some x:=Gx (SC ax.o);obtain⟨bz,bA,r,rfl,ad,hr,g⟩:=(ay.jP (mr.ok .u8) (λq p=>a.B q (G.o q p))).kt (mr.ok .u8) j P hx;obtain⟨v1,rfl,t⟩:=hr;obtain⟨Y,Z,rfl,aB⟩:=t.form;have ae:=g 0 _ rfl;rw[Pc,PG]at ae;have aC:=O5 hx;obtain⟨bB,bC⟩:=mG j c;clear g hx;have Q:=O.kS P aC;obtain⟨s,aa⟩:=Xq P.length;rw[<-aa]at ae t aB Q;have bD:s<=3:=Q.1;have aD:=O0 Q;have aE:=O0 aa.symm;have aF:=(t.jP (lF.ok .u8) (w':=B) (λq p=>(a.B q (G.o q p)).symm))
   have aG:=(a.alloc SE (mc Y s Z))
   have aH:zP (wr.alloc (mc Y s Z)) u (3*j+0):=N.imp λD h=>h.alloc _;clear Q aa;go_wp21;generalize wr.alloc (mc Y s Z)=bE at*;have a:=aG;go_loopw [66] (λi wr=>∃k:Nat,k<=s/\i=k/\zP wr u (3*j+k)/\Below B B wr) (λi _=>s-(intOf i).toNat)
   .exact⟨0,Pb _,rfl,aH,a⟩
   obtain⟨v,bF,rfl,N,a⟩:=hrel;have a:=a;have bG:=a.size;by_cases bH:v<s
   .obtain⟨d,hx⟩:∃x,P[v]?=some x:=Gx (SC aE.o);obtain⟨bI,bJ,r,rfl,ad,hr,g⟩:=(aF.jP (lF.ok .u8) (λq p=>a.B q (G.o q p))).kt (lF.ok .u8) v d hx;obtain⟨v1,v2,rfl,t,I⟩:=hr;obtain⟨af,ag,rfl,bK⟩:=t.form;obtain⟨ah,cb,rfl,bL⟩:=I.form;have aI:=g 0 _ rfl;have bM:=g 1 _ rfl;have bN:=g 2 _ rfl;rw[Pc]at aI;have aJ:=O5 hx;obtain⟨bO,bP⟩:=mG v s;clear g hx;have aK:=aD.o.2 d aJ;have aL:=(a.alloc SE (.cells #[tx d.name,.slice af d.params.length ag,.slice ah d.body.length cb] 125))
    obtain⟨aM,aN⟩:=N;have aO:=(aN.alloc (.cells #[tx d.name,.slice af d.params.length ag,.slice ah d.body.length cb] 125))
    have ai:keyOf prog 9 (tx d.name)=some (.string d.name):=Go.WideMaps.keyOf_string_mk underlying9 (by have:=aK.name;unfold mm at this;simp at this;show d.name.toArray.size<=maxLen;simp;unfold maxLen;omega);have aP:=O0 ai;clear ai;go_wp2_with (at_mapUpdate;refine wpList_mapUpdate_own _ rfl _ _ _ 257 rfl 9 4 Ky underlying257 RM u (3*j+v) aM rfl aO SP (tx d.name) (.bool true) (.string d.name) rfl rfl aP.o _ [] rfl ?_);intro aQ aR aS;have aT:zP aQ u (3*j+(v+1)):=⟨_,aR⟩
    have a:=(aL.grown aS (by rw[O4];omega) (λz e=>by injection e with e;omega))
    go_wp21;go_roundw
    .exact⟨v+1,SE,SJ,aT,a⟩
    simp[intOf];omega
   obtain rfl:s=v:=SE;have aU:zP wr u (3*(j+1)):=N.imp λD h=>h.M SE;go_wp21;go_roundw
   .exact⟨j+1,SE,SJ,aU,a⟩
   simp[intOf];omega
  obtain rfl:c=j:=SE;obtain⟨nm,bQ,bR⟩:=N.len;have bS:¬(8:Int)<(nm:Int):=SE;go_wp2_with fail;go_roundw
  .exact⟨F+1,SE,SJ,a⟩
  simp[intOf];omega
 obtain rfl:b=F:=SE;obtain⟨⟨bT,bU,bV,bW⟩,_⟩:=kn ((a.B _ ap).T ao.o);go_wp21;have aj:=(T.T (a.M SE))
 apply(oo 119 tr uC S wr y m c1 A n c2 C b c3 f (an.to a) (U.jQ a) ac).M;rintro e bX ⟨rfl,aV⟩;go_wp21;go_ret;exact⟨rfl,aj.T (aV.M aj.size)⟩
def ye:∀d,Cf d
 |0=>λ_ _ _ _ _ _ _ _ _ _ _ _ _ _ _ _ _ _ _ _ _ _ _ d' hd=>SE
 |d+1=>EK d (wK d (ye d))
def CG(d:Nat):zf d:=wK d (ye d)
def lJ.zZ{d}{cb:Nat}{f j k l hd own m p q params}{g n b:Nat}{c:List In}{w}(h:lJ d cb f j k l hd own m p q params (.slice g n b) c w){i:Nat}{x:In}(hi:c[i]?=some x):
  (∀(a:Nat) u,(uW x)[a]?=some u->w.cell? ⟨g,i*4+a,none⟩=some u/\w.frozen? ⟨g,i*4+a,none⟩=false)/\
   ∀a,a=1\/a=2->∀t:Int,lJ d cb f j k l hd own m p q params (.slice g n b) (c.set i (x.put a t)) (w.setCell ⟨g,i*4+a,none⟩ (.int .i64 t))/\mJ cb (.slice g n b) w (.slice g n b) (w.setCell ⟨g,i*4+a,none⟩ (.int .i64 t)):=by
 obtain⟨v,y,e,_,_,r,s⟩:=h.ins hi;injection e with e _ _;injection e with e;injection e with e;subst e;exact⟨r,s⟩
def lJ.Aa{c}{cb:Nat}{d f j k hd own l m n params V}{a:List In}{w}(h:lJ c cb d f j k hd own l m n params V a w)(hc:0<a.length):∃g b,V=.slice (some ⟨g,0,none⟩) a.length b:=by obtain⟨g,b,e,_⟩:=h.ins (i:=0) (x:=a[0]) (Pg hc);exact⟨g,b,e⟩
def Bx(d:Nat)(ab:Dz d):Gw d:=by
 intro S p w cb q r s t hd own u y z params V f ac ad o H ae B af D c1 l i hg au;have ag:=O0 hg;have ah:=ab;obtain⟨A,c,rfl⟩:=H.form;have E:=jN H.c 10;clear hg;by_cases ai:D=0
 .subst ai
  go_enter func204,ntmps204
  go_wp21;go_ret;exact⟨_,rfl,_,f,H,.refl _ _ _,(mn.refl f).T (mn.refl f) SE,O9 _⟩
 have aj:((D:Int)==0)=false:=SK
 clear E
 go_enter func204,ntmps204
 go_wp21;apply(kH p w cb q r s t hd own u y z params A _ c f ⟨27,0,0,0⟩ H SE).M;rintro e ak ⟨rfl,av,F,G,al,j⟩;have O:F.length=f.length+1:=by rw[j];simp
 obtain⟨aw,c2,rfl⟩:=G.form;have E:=jN G.c 10;have P:=O0 j;have Q:=O0 O;clear j O;go_wp21;clear E;refine(ah S p ak cb q r s t hd own u y z params _ F ac ad o G ae B af D c1 l i ag.o (SC Q.o)).M ?_;rintro e I ⟨rfl,ax,k,J,am,j⟩;have R:=j.len;have T:f.length<k.length:=SC Q.o
 obtain⟨g,m,rfl⟩:=J.Aa SE;have U:k[f.length]?=some (⟨27,0,0,0⟩:In):=j.kt (by rw[P.o];simp);have L:=O0 U;have W:=(al.T am)
 have an:mn f (400*ku d l+1) k:=(mn.one P.o ⟨SF,SF,λ_=>⟨SF,by show(0:Int)<=_;omega⟩,λH=>by rcases H with H|H<;>simp at H⟩).T j SE;have ao:F.length<=k.length:=R.1;obtain⟨b,M⟩:=Xq k.length;obtain⟨n,N⟩:=Xq f.length;have ap:=O0 M;have aq:=O0 N;rw[<-M]at J W T;rw[<-N]at L T⊢;obtain⟨ay,az⟩:=mG n b
 clear R U M N aj;go_wp21;refine sB (λx=>lJ p cb q r s t hd own u y z params (.slice g b m) k x/\Below I I x) (λv w=>lJ p cb q r s t hd own u y z params (.slice g b m) (k.set n ((⟨27,0,0,0⟩:In).put 1 (b:Int))) w/\mJ cb (.slice g b m) I (.slice g b m) w) (mi [(·=.pointer cb),(·=.pointer cb),(Pp cb 10),(·=.slice g b m),(·=n),(·=.pointer cb),(·=.pointer cb),(Pp cb 10),(·=.slice g b m),(·=b),(Pp g (n*4)),(Pp g (n*4+1)),Tr]) [] (⟨J.jQ (Below.refl _ _).drew,(Below.refl _ _).drew⟩) ⟨?_,?_,?_,?_,?_,?_,?_,?_,?_,?_,?_,?_,?_,trivial⟩ ?_;exact Pf 0;exact Pv 26 0;exact Pv 27 1;exact Pl 28 2 λ_ a=>jN a.1.c 10;exact Pf 5;exact Pf 0;exact Pv 31 5;exact Pv 32 6;exact Pl 33 7 λ_ a=>jN a.1.c 10;intro X w a B i hd hw;have aA:=Sv 34 i 8;exact .q (g:=⟨rfl,a,Qa⟩);intro X w a B i hd hw;have aB:=Sv 29 i 3;have aC:=Sv 30 i 4;exact .q (g:=⟨rfl,a,Qa⟩);exact Pv 36 10;intro X w a B i hd hw;have aD:=Sv 37 i 11;have aE:=Sv 35 i 9;have C:=a.1.zZ L.o;have aF:=(C.1 1 _ rfl).1;have aG:=(C.1 1 _ rfl).2;have Y:=O0 (C.2 1 SF (b:Int));clear C;replace a:=Hq a;refine .h λK hK=>?_;go_simp;exact hK (⟨Y.o.1,(mJ.jQ a.o.2).T Y.o.2⟩);intro aH aI ar Z;have aa:=O0 Z;clear ar Z;simp only[mP];go_wp21;go_ret;refine⟨_,rfl,_,_,aa.o.1,W.T aa.o.2,an.put L.o (by rw[aq.o];exact O9 _) (.inl rfl) SE (by rw[ap.o];exact QG _),?_⟩;rw[Q0];exact ao
def EP(d:Nat)(ci:Dz d)(cj:Gw d):Kc (d+1):=by
 intro S p w cb s t u C hd own l n y params V aH W aM o h X i ah name aN ck th el aW ab c1 bb bc c4 aX aY c5 d' hd bR af bu cl ax;obtain rfl:d=d':=SE
 obtain⟨cm,cn,bv,bw,bx,bz⟩:=cl;simp only[St.kind,St.name,St.kA,St.th,St.el]at cm cn bv bw bx bz;have dd:ab<=5:=SC bR.len.1
 have bS:=Ba w (lk ah name aN aW ab c1 bb bc c4 aX aY c5);have co:=O0 (O2 w (lk ah name aN aW ab c1 bb bc c4 aX aY c5));have de:=(O3.1 h.c).1;have bT:=h.own.ge;have bd:=O0 (show w<(w.alloc (lk ah name aN aW ab c1 bb bc c4 aX aY c5)).heap.size/\w≠cb/\some w.heap.size≠V.ownBlock from⟨SG,SE,λe=>SC ((bT _ e.symm).2)⟩);have H:=(h.jQ bS)
 have cp:=(mJ.jQ (cb:=cb) (V:=V) bS)
 have cq:=O0 bv;have cr:=O0 bw;have bU:=O0 bx;have bA:=O0 bz;have bV:=ci;have bB:=cj;obtain⟨A,c,rfl⟩:=h.form;have df:aH.length<=90000:=SE
 clear h bv bw bx bz bT hd
 go_enter func186,ntmps186
 go_wp21;apply(kH p _ cb s t u C hd own l n y params A _ c aH ⟨29,0,0,0⟩ H SE).M;rintro e bW ⟨rfl,cs,bX,ct,j,k⟩;obtain⟨J,I⟩:=j.k _ bd.o.1 bd.o.2.1 bd.o.2.2;obtain⟨E,bY⟩:=Xq w.heap.size;have bo:=J.T co.o;have bC:w.heap.size<bW:=O1 bd.o.1 j.size;have aj:=bd.o.2.1;rw[<-bY]at bo bC I aj⊢;have cu:=O0 bo;have cv:=O0 I;obtain⟨⟨N,M,O,P,Q,R⟩,_⟩:=ly bo;have cw:=(cp.T j)
 have cx:=O0 k;have bZ:bX.length=aH.length+1:=by rw[k];simp
 have cy:=O0 bZ;have ca:ab*pI De<=315:=by rw[OV];omega
 clear J I bo k bY bZ;go_wp21;clear N M O P Q R;refine(CG De S p bW cb s t u C hd own l n y params cs bX aW ab c1 ck ct X bR cq.o (SD cy.o ca) SE).M ?_;rintro e z ⟨rfl,U,f,D,j,k⟩;obtain⟨J,I⟩:=j.k E bC aj cv.o;have bD:=J.T cu.o;have an:=O0 bD;have bp:=O0 I;have ac:E<z:=O1 bC j.size;have ao:=((mn.one cx.o ⟨SG,SG,λh=>by rcases h with h|h<;>simp at h,λh=>by rcases h with h|h<;>simp at h⟩).T k.OQ (q:=316) (SC ca))
 have bE:=ao.len;have az:=O0 bE;obtain⟨G,c2,rfl⟩:=D.form;have ay:=(cw.T j)
 have dg:f.length<=95000:=SE
 have dh:aH.length<=f.length:=bE.1;obtain⟨⟨N,M,O,P,Q,R⟩,_⟩:=ly bD;clear J I bD bE;have cz:ah=1\/ah=2\/ah=3\/ah=4\/ah=5\/ah=6\/ah=7\/ah=8\/ah=9\/ah=10:=SE
 rcases cz with rfl|rfl|rfl|rfl|rfl|rfl|rfl|rfl|rfl|rfl
 .go_wp21;refine sB (λx=>lJ p cb s t u C hd own l n y params (.slice G f.length c2) f x/\Below z z x) (λv w=>∃(U:Value) (F:List In) (r:Int),lJ p cb s t u C hd own l n y params U F w/\mJ cb (.slice G f.length c2) z U w/\F=f++[⟨24,r,0,0⟩]) (mi [(·=.pointer cb),(·=.pointer cb),(·=.pointer cb),(Pp cb 6),(·=l),(Pp E 1),(·=tx name),Tr,Tr,Tr]) [(7,λv w=>∃r:Int,v=r),(8,λv w=>∃r:Int,v=.agg #[.int .u8 24,r,.int .i64 0,.int .i64 0])] (⟨D.jQ (Below.refl _ _).drew,(Below.refl _ _).drew⟩) ⟨?_,?_,?_,?_,?_,?_,?_,?_,?_,?_,trivial⟩ ?_;exact Pf 0;exact Pf 0;exact Pv 25 1;exact Pv 26 2;exact Pl 27 3 λ_ a=>jN a.1.c 6;exact Pf 3;intro B w a i hv hd hw;have di:=Sv 29 hv 5;obtain⟨⟨N,M,O,P,Q,R⟩,_⟩:=ly ((a.2.B E ac).T an.o);replace a:=Hq a;exact .q (g:=⟨rfl,a.o,Qa⟩);intro B w a i hv hd hw;have dj:=Sv 28 hv 4;have dk:=Sv 30 hv 6;clear i hv hd hw;replace a:=Hq a;refine .h λK hK=>?_;go_simp;refine⟨rfl,?_⟩;refine Calls.M (mj a.o.1 X.kX X.vars name) ?_;rintro e w' ⟨r,he,hw⟩;subst hw;subst he;exact⟨_,rfl,hK ⟨trivial,a.o,Qc ⟨r,rfl⟩<|Qb<|Qe⟩⟩;intro B w a i hv hd hw;obtain⟨r,cA⟩:=kE hd 0;have dl:=Sl 31 cA;exact .q (g:=⟨trivial,a,Qb<|Qc ⟨r,rfl⟩<|Qa⟩);intro B w a i hv hd hw;have dm:=Sv 24 hv 0;obtain⟨r,cB⟩:=kE hd 1;have dn:=Sl 32 cB;clear i hv hd hw;replace a:=Hq a;refine .h λK hK=>?_;go_simp;refine⟨rfl,?_⟩;refine Calls.M (kH p w cb s t u C hd own l n y params G _ c2 f ⟨24,r,0,0⟩ a.o.1 SE) ?_;rintro e w' ⟨he,U,F,D,j,k⟩;subst he;refine⟨_,rfl,?_⟩;exact hK (⟨U,F,r,D,(mJ.jQ a.o.2).T j,k⟩);intro aO aZ af ak;obtain⟨aI,F,r,D,j,k⟩:=ak;have T:=O0 (And.intro D (And.intro (ay.T j) (ao.snoc (m:=400*(1+ku d th+ku d el)) k ⟨SG,SG,λh=>by rcases h with h|h<;>simp at h,λh=>by rcases h with h|h<;>simp at h⟩ SE)));clear k af;simp only[mP];go_wp21
  go_end0
  exact⟨rfl,_,_,T.o.1,T.o.2.1,T.o.2.2⟩
 .go_wp21;refine sB (λx=>lJ p cb s t u C hd own l n y params (.slice G f.length c2) f x/\Below z z x) (λv w=>∃(U:Value) (F:List In) (r:Int),lJ p cb s t u C hd own l n y params U F w/\mJ cb (.slice G f.length c2) z U w/\F=f++[⟨25,r,0,0⟩]) (mi [(·=.pointer cb),(·=.pointer cb),(·=.pointer cb),(Pp cb 7),(·=n),(Pp E 1),(·=tx name),Tr,Tr,Tr]) [(7,λv w=>∃r:Int,v=r),(8,λv w=>∃r:Int,v=.agg #[.int .u8 25,r,.int .i64 0,.int .i64 0])] (⟨D.jQ (Below.refl _ _).drew,(Below.refl _ _).drew⟩) ⟨?_,?_,?_,?_,?_,?_,?_,?_,?_,?_,trivial⟩ ?_;exact Pf 0;exact Pf 0;exact Pv 37 1;exact Pv 38 2;exact Pl 39 3 λ_ a=>jN a.1.c 7;exact Pf 3;intro B w a i hv hd hw;have dp:=Sv 41 hv 5;obtain⟨⟨N,M,O,P,Q,R⟩,_⟩:=ly ((a.2.B E ac).T an.o);replace a:=Hq a;exact .q (g:=⟨rfl,a.o,Qa⟩);intro B w a i hv hd hw;have dq:=Sv 40 hv 4;have dr:=Sv 42 hv 6;clear i hv hd hw;replace a:=Hq a;refine .h λK hK=>?_;go_simp;refine⟨rfl,?_⟩;refine Calls.M (mj a.o.1 X.kX X.kC name) ?_;rintro e w' ⟨r,he,hw⟩;subst hw;subst he;exact⟨_,rfl,hK ⟨trivial,a.o,Qc ⟨r,rfl⟩<|Qb<|Qe⟩⟩;intro B w a i hv hd hw;obtain⟨r,cC⟩:=kE hd 0;have ds:=Sl 43 cC;exact .q (g:=⟨trivial,a,Qb<|Qc ⟨r,rfl⟩<|Qa⟩);intro B w a i hv hd hw;have dt:=Sv 36 hv 0;obtain⟨r,cD⟩:=kE hd 1;have du:=Sl 44 cD;clear i hv hd hw;replace a:=Hq a;refine .h λK hK=>?_;go_simp;refine⟨rfl,?_⟩;refine Calls.M (kH p w cb s t u C hd own l n y params G _ c2 f ⟨25,r,0,0⟩ a.o.1 SE) ?_;rintro e w' ⟨he,U,F,D,j,k⟩;subst he;refine⟨_,rfl,?_⟩;exact hK (⟨U,F,r,D,(mJ.jQ a.o.2).T j,k⟩);intro aO aZ af ak;obtain⟨aI,F,r,D,j,k⟩:=ak;have T:=O0 (And.intro D (And.intro (ay.T j) (ao.snoc (m:=400*(1+ku d th+ku d el)) k ⟨SG,SG,λh=>by rcases h with h|h<;>simp at h,λh=>by rcases h with h|h<;>simp at h⟩ SE)));clear k af;simp only[mP];go_wp21
  go_end0
  exact⟨rfl,_,_,T.o.1,T.o.2.1,T.o.2.2⟩
 .go_wp21;refine sB (λx=>lJ p cb s t u C hd own l n y params (.slice G f.length c2) f x/\Below z z x) (λv w=>∃(U:Value) (F:List In) (r:Int),lJ p cb s t u C hd own l n y params U F w/\mJ cb (.slice G f.length c2) z U w/\F=f++[⟨26,r,0,0⟩]) (mi [(·=.pointer cb),(·=.pointer cb),(·=.pointer cb),(Pp cb 7),(·=n),(Pp E 1),(·=tx name),Tr,Tr,Tr]) [(7,λv w=>∃r:Int,v=r),(8,λv w=>∃r:Int,v=.agg #[.int .u8 26,r,.int .i64 0,.int .i64 0])] (⟨D.jQ (Below.refl _ _).drew,(Below.refl _ _).drew⟩) ⟨?_,?_,?_,?_,?_,?_,?_,?_,?_,?_,trivial⟩ ?_;exact Pf 0;exact Pf 0;exact Pv 49 1;exact Pv 50 2;exact Pl 51 3 λ_ a=>jN a.1.c 7;exact Pf 3;intro B w a i hv hd hw;have dv:=Sv 53 hv 5;obtain⟨⟨N,M,O,P,Q,R⟩,_⟩:=ly ((a.2.B E ac).T an.o);replace a:=Hq a;exact .q (g:=⟨rfl,a.o,Qa⟩);intro B w a i hv hd hw;have dw:=Sv 52 hv 4;have dx:=Sv 54 hv 6;clear i hv hd hw;replace a:=Hq a;refine .h λK hK=>?_;go_simp;refine⟨rfl,?_⟩;refine Calls.M (mj a.o.1 X.kX X.kC name) ?_;rintro e w' ⟨r,he,hw⟩;subst hw;subst he;exact⟨_,rfl,hK ⟨trivial,a.o,Qc ⟨r,rfl⟩<|Qb<|Qe⟩⟩;intro B w a i hv hd hw;obtain⟨r,cE⟩:=kE hd 0;have dy:=Sl 55 cE;exact .q (g:=⟨trivial,a,Qb<|Qc ⟨r,rfl⟩<|Qa⟩);intro B w a i hv hd hw;have dz:=Sv 48 hv 0;obtain⟨r,cF⟩:=kE hd 1;have dA:=Sl 56 cF;clear i hv hd hw;replace a:=Hq a;refine .h λK hK=>?_;go_simp;refine⟨rfl,?_⟩;refine Calls.M (kH p w cb s t u C hd own l n y params G _ c2 f ⟨26,r,0,0⟩ a.o.1 SE) ?_;rintro e w' ⟨he,U,F,D,j,k⟩;subst he;refine⟨_,rfl,?_⟩;exact hK (⟨U,F,r,D,(mJ.jQ a.o.2).T j,k⟩);intro aO aZ af ak;obtain⟨aI,F,r,D,j,k⟩:=ak;have T:=O0 (And.intro D (And.intro (ay.T j) (ao.snoc (m:=400*(1+ku d th+ku d el)) k ⟨SG,SG,λh=>by rcases h with h|h<;>simp at h,λh=>by rcases h with h|h<;>simp at h⟩ SE)));clear k af;simp only[mP];go_wp21
  go_end0
  exact⟨rfl,_,_,T.o.1,T.o.2.1,T.o.2.2⟩
 .go_wp21;clear N M O P Q R;apply(kH p z cb s t u C hd own l n y params G _ c2 f ⟨28,0,0,0⟩ D SE).M;rintro e ad ⟨rfl,aa,L,aA,j,k⟩;obtain⟨J,I⟩:=j.k E ac aj bp.o;have al:=O0 (J.T an.o);have aP:=O0 I;have am:E<ad:=O1 ac j.size;have aB:=(ay.T j)
  clear J I;have aQ:=O0 k;have ap:L.length=f.length+1:=(by rw[k];simp);have aC:=O0 ap;have bF:L.length<=95000:=SD ax az.o;have aq:=(ao.snoc (m:=317) k ⟨SG,SG,λ_=>⟨SG,by show(0:Int)<=_;omega⟩,λh=>by rcases h with h|h<;>simp at h⟩ SE)
  clear k ap;have ar:L[f.length]?=some (⟨28,0,0,0⟩:In):=(by rw[aQ.o];simp);obtain⟨⟨N,M,O,P,Q,R⟩,_⟩:=ly al.o;go_wp21;clear N M O P Q R;refine(bV S p ad cb s t u C hd own l n y params aa L W aM o aA X i bb bc c4 th af bU.o (SD ax aq.len)).M ?_;rintro e be ⟨rfl,aI,F,bq,j,aD⟩;obtain⟨J,I⟩:=j.k E am aj aP.o;have cc:=O0 (J.T al.o);have bG:=O0 I;have bH:E<be:=O1 am j.size;have bI:=(aB.T j)
  clear J I;have br:=(aq.T (q:=317+400*ku d th) aD SE)
  obtain⟨⟨N,M,O,P,Q,R⟩,_⟩:=ly cc.o;go_wp21;clear N M O P Q R;refine(bB S p be cb s t u C hd own l n y params aI F W aM o bq X i aX aY c5 el bu bA.o (SD ax br.len)).M ?_;rintro e ba ⟨r,rfl,bJ,Y,ag,j,au,bf⟩;obtain⟨J,I⟩:=j.k E bH aj bG.o;have aR:=(bI.T j)
  clear J I;have aS:=(br.T (q:=318+400*ku d th+400*ku d el) au SE)
  have av:=O0 (au.kt (aD.kt ar));have aJ:=(show f.length<Y.length by have:=au.len;have:=aD.len;have:=aC.o;omega)
  clear ar;obtain⟨g,aE,rfl⟩:=ag.Aa (SC aJ);have Z:=ag.zZ av.o;have bK:=(Z.1 1 _ rfl).1;have bL:=(Z.1 1 _ rfl).2;have aw:=O0 (Z.2 1 SF (r:Int));have cd:=jN ag.c 10;have bM:(0:Int)<=(f.length:Int):=SE;have bN:(f.length:Int)<(Y.length:Int):=SC aJ;clear Z;go_wp21
  go_end0
  exact⟨rfl,_,_,aw.o.1,aR.T aw.o.2,(aS.put av.o (SC az.o) (.inl rfl) SE (SC bf)).le SE⟩
 .go_wp21;clear N M O P Q R;apply(kH p z cb s t u C hd own l n y params G _ c2 f ⟨28,0,0,0⟩ D SE).M;rintro e ad ⟨rfl,aa,L,aA,j,k⟩;obtain⟨J,I⟩:=j.k E ac aj bp.o;have al:=O0 (J.T an.o);have aP:=O0 I;have am:E<ad:=O1 ac j.size;have aB:=(ay.T j)
  clear J I;have aQ:=O0 k;have ap:L.length=f.length+1:=(by rw[k];simp);have aC:=O0 ap;have bF:L.length<=95000:=SD ax az.o;have aq:=(ao.snoc (m:=317) k ⟨SG,SG,λ_=>⟨SG,by show(0:Int)<=_;omega⟩,λh=>by rcases h with h|h<;>simp at h⟩ SE)
  clear k ap;have ar:L[f.length]?=some (⟨28,0,0,0⟩:In):=(by rw[aQ.o];simp);obtain⟨⟨N,M,O,P,Q,R⟩,_⟩:=ly al.o;go_wp21;clear N M O P Q R;refine(bV S p ad cb s t u C hd own l n y params aa L W aM o aA X i bb bc c4 th af bU.o (SD ax aq.len)).M ?_;rintro e be ⟨rfl,aI,F,bq,j,aD⟩;obtain⟨J,I⟩:=j.k E am aj aP.o;have cc:=O0 (J.T al.o);have bG:=O0 I;have bH:E<be:=O1 am j.size;have bI:=(aB.T j)
  clear J I;have br:=(aq.T (q:=317+400*ku d th) aD SE)
  have bO:F.length<=95000/\aH.length<=F.length:=(by have dB:=aD.len;have:=aC.o;have:=ax;have:=az.o;omega);have cG:=O0 bO;have dC:=bO.1;clear bO;obtain⟨cH,cI,rfl⟩:=bq.form;go_wp21;apply(kH p be cb s t u C hd own l n y params cH _ cI F ⟨27,(aH.length:Int),0,0⟩ bq SE).M;rintro e ba ⟨rfl,bJ,Y,ag,j,k⟩;obtain⟨J,I⟩:=j.k E bH aj bG.o;have aR:=(bI.T j)
  clear J I;have cJ:=O0 k;have ce:Y.length=F.length+1:=(by rw[k];simp);have cK:=O0 ce;skip;have aS:=(br.snoc (m:=318+400*ku d th) k ⟨SG,SG,λ_=>⟨by show(0:Int)<=(aH.length:Int);omega,by show(aH.length:Int)<=_;have:=cG.o.2;omega⟩,λh=>by rcases h with h|h<;>simp at h⟩ SE)
  clear k ce;have cf:Y[f.length]?=some (⟨28,0,0,0⟩:In):=(by rw[cJ.o,PW (SD aD.len aC.o)];exact aD.kt ar);have av:=O0 cf;have bN:(f.length:Int)<(Y.length:Int):=(by have:=aD.len;have:=aC.o;have:=cK.o;omega);have bM:(0:Int)<=(f.length:Int):=SE;obtain⟨g,aE,rfl⟩:=ag.Aa SE;clear ar cf;go_wp21;refine sB (λx=>lJ p cb s t u C hd own l n y params (.slice g Y.length aE) Y x/\Below ba ba x) (λv w=>lJ p cb s t u C hd own l n y params (.slice g Y.length aE) (Y.set f.length ((⟨28,0,0,0⟩:In).put 1 (Y.length:Int))) w/\mJ cb (.slice g Y.length aE) ba (.slice g Y.length aE) w) (mi [(·=.pointer cb),(·=.pointer cb),(Pp cb 10),(·=.slice g Y.length aE),(·=.int .i64 (f.length:Int)),(·=.pointer cb),(·=.pointer cb),(Pp cb 10),(·=.slice g Y.length aE),(·=.int .i64 (Y.length:Int)),(Pp g (f.length*4)),(Pp g (f.length*4+1)),Tr]) [] (⟨ag.jQ (Below.refl _ _).drew,(Below.refl _ _).drew⟩) ⟨?_,?_,?_,?_,?_,?_,?_,?_,?_,?_,?_,?_,?_,trivial⟩ ?_;exact Pf 0;exact Pv 92 0;exact Pv 93 1;exact Pl 94 2 λ_ a=>jN a.1.c 10;exact Pf 7;exact Pf 0;exact Pv 97 5;exact Pv 98 6;exact Pl 99 7 λ_ a=>jN a.1.c 10;intro B w a i hv hd hw;have dD:=Sv 100 hv 8;exact .q (g:=⟨rfl,a,Qa⟩);intro B w a i hv hd hw;have dE:=Sv 95 hv 3;have dF:=Sv 96 hv 4;exact .q (g:=⟨rfl,a,Qa⟩);exact Pv 102 10;intro B w a i hv hd hw;have dG:=Sv 103 hv 11;have dH:=Sv 101 hv 9;have Z:=a.1.zZ av.o;have bK:=(Z.1 1 _ rfl).1;have bL:=(Z.1 1 _ rfl).2;have aw:=O0 (Z.2 1 SF (Y.length:Int));clear Z;replace a:=Hq a;refine .h λK hK=>?_;go_simp;exact hK (⟨aw.o.1,(mJ.jQ a.o.2).T aw.o.2⟩);intro aO aZ af ak;have T:=O0 ak;clear af ak;simp only[mP];go_wp21
  go_end0
  exact⟨rfl,_,_,T.o.1,aR.T T.o.2,(aS.put av.o (SC az.o) (.inl rfl) SE (QG _)).le SE⟩
 .obtain⟨aK,c3,rfl,cL⟩:=i.cs;obtain⟨cM,aF,rfl,bg⟩:=i.ns;obtain⟨rfl,cN⟩:=i.own;have cO:=i.len;have aL:=jN D.c 3;go_wp21;refine(Bw S z aK W.length c3 W name E (cL.jP (lv.ok _) (λq bs=>D.old (X.kX q bs).1 (X.kX q bs).2)) SE (λq bs=>O1 (X.kX q bs).1 D.g.size) M ac (cr.o SG)).M ?_;rintro e ad ⟨r,dI,rfl,bt⟩;clear aL N M O P Q R;obtain⟨aG,aT⟩:∃x,aM[r]?=some x:=Gx (SC bg.len.1);obtain⟨ae,ai,cP,rfl,bh,bP,bi⟩:=bg.kt oK.ok r aG aT;obtain⟨cQ,rfl,aU⟩:=bP;obtain⟨bj,bk,rfl,_⟩:=aU.form;have aV:=bi 0 _ rfl;have bl:=i.LV aG (O5 aT);obtain⟨bm,bn⟩:=Xq aG.length;rw[<-bn]at aV aU bl;have bQ:=O0 aV;have cR:(0:Int)<=(r:Int):=SE;have cS:(r:Int)<(W.length:Int):=SE;clear bi aV aT bn;have aA:=(D.jQ bt)
  have aB:=(ay.T (.jQ bt))
  have al:=O0 ((bt.B E ac).T an.o);have am:E<ad:=O1 ac bt.size;go_wp21;refine sB (λx=>lJ p cb s t u (.slice aK W.length c3) (.slice (some ⟨ae,ai,none⟩) W.length aF) (.int .i64 (o:Int)) l n y params (.slice G f.length c2) f x/\Below ad ad x) (λv w=>∃(U:Value) (F:List In) (q:Int),lJ p cb s t u (.slice aK W.length c3) (.slice (some ⟨ae,ai,none⟩) W.length aF) (.int .i64 (o:Int)) l n y params U F w/\mJ cb (.slice G f.length c2) ad U w/\F=f++[⟨30,(r:Int),q,(ab:Int)⟩]) (mi [(·=.pointer cb),(·=r),(·=.pointer cb),(·=.pointer cb),(Pp cb 4),(·=.slice (some ⟨ae,ai,none⟩) W.length aF),(·=r),(Pp ae (ai+r)),(·=.slice bj bm bk),(Pp E 2),(·=tx aN),Tr,(Pp E 3),(·=.slice aW ab c1),(·=ab),Tr,Tr]) [(11,λv w=>∃q:Int,v=q),(15,λv w=>∃q:Int,v=.agg #[.int .u8 30,r,q,ab])] (⟨aA.jQ (Below.refl _ _).drew,(Below.refl _ _).drew⟩) ⟨?_,?_,?_,?_,?_,?_,?_,?_,?_,?_,?_,?_,?_,?_,?_,?_,?_,trivial⟩ ?_;exact Pf 0;exact Pf 8;exact Pf 0;exact Pv 115 2;exact Pv 116 3;exact Pl 117 4 λ_ a=>jN a.1.c 4;exact Pf 8;intro B w a i hv hd hw;have dJ:=Sv 118 hv 5;have dK:=Sv 119 hv 6;exact .q (g:=⟨rfl,a,Qa⟩);intro B w a i hv hd hw;have aL:=(Cb ae (ai+r*1+0) (a.1.old (X.kX ae bh).1 (X.kX ae bh).2)).T bQ.o;rw[Pc,PG]at aL;exact .l 120 (hv 7 _ rfl rfl) aL ⟨rfl,a,Qa⟩;exact Pf 3;intro B w a i hv hd hw;have dL:=Sv 122 hv 9;obtain⟨⟨N,M,O,P,Q,R⟩,_⟩:=ly ((a.2.B E am).T al.o);replace a:=Hq a;exact .q (g:=⟨rfl,a.o,Qa⟩);intro B w a i hv hd hw;have dM:=Sv 121 hv 8;have dN:=Sv 123 hv 10;clear i hv hd hw;replace a:=Hq a;refine .h λK hK=>?_;go_simp;refine⟨rfl,?_⟩;refine Calls.M (mj a.o.1 X.kX ⟨bj,bm,bk,aG,rfl,aU,bl⟩ aN) ?_;rintro e w' ⟨q,he,hw⟩;subst hw;subst he;exact⟨_,rfl,hK ⟨trivial,a.o,Qc ⟨q,rfl⟩<|Qb<|Qe⟩⟩;exact Pf 3;intro B w a i hv hd hw;have dO:=Sv 125 hv 12;obtain⟨⟨N,M,O,P,Q,R⟩,_⟩:=ly ((a.2.B E am).T al.o);replace a:=Hq a;exact .q (g:=⟨rfl,a.o,Qa⟩);intro B w a i hv hd hw;have dP:=Sv 126 hv 13;exact .q (g:=⟨rfl,a,Qa⟩);intro B w a i hv hd hw;have dQ:=Sv 114 hv 1;obtain⟨q,cT⟩:=kE hd 0;have dR:=Sl 124 cT;have dS:=Sv 127 hv 14;exact .q (g:=⟨trivial,a,Qb<|Qc ⟨q,rfl⟩<|Qa⟩);intro B w a i hv hd hw;have dT:=Sv 113 hv 0;obtain⟨q,cU⟩:=kE hd 1;have dU:=Sl 128 cU;replace a:=Hq a;refine .h λK hK=>?_;go_simp;refine⟨rfl,?_⟩;refine Calls.M (kH p w cb s t u (.slice aK W.length c3) (.slice (some ⟨ae,ai,none⟩) W.length aF) (.int .i64 (o:Int)) l n y params G _ c2 f ⟨30,(r:Int),q,(ab:Int)⟩ a.o.1 SE) ?_;rintro e w' ⟨he,U,F,D,j,k⟩;subst he;refine⟨_,rfl,?_⟩;exact hK (⟨U,F,q,D,(mJ.jQ a.o.2).T j,k⟩);intro aO aZ af ak;obtain⟨aI,F,q,D,j,k⟩:=ak;have T:=O0 (And.intro D (And.intro (aB.T j) (ao.snoc (m:=400*(1+ku d th+ku d el)) k ⟨SG,SG,λh=>by rcases h with h|h<;>simp at h,λh=>by rcases h with h|h<;>simp at h⟩ SE)));clear k af;simp only[mP];go_wp21
  go_end0
  exact⟨rfl,_,_,T.o.1,T.o.2.1,T.o.2.2⟩
 .obtain⟨aK,c3,rfl,dV⟩:=i.cs;obtain⟨cM,aF,rfl,bg⟩:=i.ns;obtain⟨rfl,cN⟩:=i.own;have cO:=i.len;obtain⟨aG,aT⟩:∃x,aM[o]?=some x:=Gx (SC bg.len.1);obtain⟨ae,ai,cP,rfl,bh,bP,bi⟩:=bg.kt oK.ok o aG aT;obtain⟨cQ,rfl,aU⟩:=bP;obtain⟨bj,bk,rfl,_⟩:=aU.form;have aV:=bi 0 _ rfl;have bl:=i.LV aG (O5 aT);obtain⟨bm,bn⟩:=Xq aG.length;rw[<-bn]at aV aU bl;have bQ:=O0 aV;have cR:(0:Int)<=(o:Int):=SE;have cS:(o:Int)<(W.length:Int):=SE;clear bi aV aT bn;go_wp21;clear N M O P Q R;refine sB (λx=>lJ p cb s t u (.slice aK W.length c3) (.slice (some ⟨ae,ai,none⟩) W.length aF) (.int .i64 (o:Int)) l n y params (.slice G f.length c2) f x/\Below z z x) (λv w=>∃(U:Value) (F:List In) (q:Int),lJ p cb s t u (.slice aK W.length c3) (.slice (some ⟨ae,ai,none⟩) W.length aF) (.int .i64 (o:Int)) l n y params U F w/\mJ cb (.slice G f.length c2) z U w/\F=f++[⟨31,0,q,(IntKind.i64.wrap ((ab:Int)-1))⟩]) (mi [(·=.pointer cb),(·=.pointer cb),(·=.pointer cb),(Pp cb 4),(·=.slice (some ⟨ae,ai,none⟩) W.length aF),(·=.pointer cb),(·=.pointer cb),(Pp cb 5),(·=o),(Pp ae (ai+o)),(·=.slice bj bm bk),(Pp E 2),(·=tx aN),Tr,(Pp E 3),(·=.slice aW ab c1),(·=ab),(·=.int .i64 (IntKind.i64.wrap ((ab:Int)-1))),Tr,Tr]) [(13,λv w=>∃q:Int,v=q),(18,λv w=>∃q:Int,v=.agg #[.int .u8 31,.int .i64 0,q,.int .i64 (IntKind.i64.wrap ((ab:Int)-1))])] (⟨D.jQ (Below.refl _ _).drew,(Below.refl _ _).drew⟩) ⟨?_,?_,?_,?_,?_,?_,?_,?_,?_,?_,?_,?_,?_,?_,?_,?_,?_,?_,?_,?_,trivial⟩ ?_;exact Pf 0;exact Pf 0;exact Pv 133 1;exact Pv 134 2;exact Pl 135 3 λ_ a=>jN a.1.c 4;exact Pf 0;exact Pv 137 5;exact Pv 138 6;exact Pl 139 7 λ_ a=>jN a.1.c 5;intro B w a i hv hd hw;have dW:=Sv 136 hv 4;have dX:=Sv 140 hv 8;exact .q (g:=⟨rfl,a,Qa⟩);intro B w a i hv hd hw;have aL:=(Cb ae (ai+o*1+0) (a.1.old (X.kX ae bh).1 (X.kX ae bh).2)).T bQ.o;rw[Pc,PG]at aL;exact .l 141 (hv 9 _ rfl rfl) aL ⟨rfl,a,Qa⟩;exact Pf 3;intro B w a i hv hd hw;have dY:=Sv 143 hv 11;obtain⟨⟨N,M,O,P,Q,R⟩,_⟩:=ly ((a.2.B E ac).T an.o);replace a:=Hq a;exact .q (g:=⟨rfl,a.o,Qa⟩);intro B w a i hv hd hw;have dZ:=Sv 142 hv 10;have ea:=Sv 144 hv 12;clear i hv hd hw;replace a:=Hq a;refine .h λK hK=>?_;go_simp;refine⟨rfl,?_⟩;refine Calls.M (mj a.o.1 X.kX ⟨bj,bm,bk,aG,rfl,aU,bl⟩ aN) ?_;rintro e w' ⟨q,he,hw⟩;subst hw;subst he;exact⟨_,rfl,hK ⟨trivial,a.o,Qc ⟨q,rfl⟩<|Qb<|Qe⟩⟩;exact Pf 3;intro B w a i hv hd hw;have eb:=Sv 146 hv 14;obtain⟨⟨N,M,O,P,Q,R⟩,_⟩:=ly ((a.2.B E ac).T an.o);replace a:=Hq a;exact .q (g:=⟨rfl,a.o,Qa⟩);intro B w a i hv hd hw;have ec:=Sv 147 hv 15;exact .q (g:=⟨rfl,a,Qa⟩);intro B w a i hv hd hw;have ed:=Sv 148 hv 16;exact .q (g:=⟨rfl,a,Qa⟩);intro B w a i hv hd hw;obtain⟨q,cV⟩:=kE hd 0;have ee:=Sl 145 cV;have ef:=Sv 149 hv 17;exact .q (g:=⟨trivial,a,Qb<|Qc ⟨q,rfl⟩<|Qa⟩);intro B w a i hv hd hw;have eg:=Sv 132 hv 0;obtain⟨q,cW⟩:=kE hd 1;have eh:=Sl 150 cW;replace a:=Hq a;refine .h λK hK=>?_;go_simp;refine⟨rfl,?_⟩;refine Calls.M (kH p w cb s t u (.slice aK W.length c3) (.slice (some ⟨ae,ai,none⟩) W.length aF) (.int .i64 (o:Int)) l n y params G _ c2 f ⟨31,0,q,(IntKind.i64.wrap ((ab:Int)-1))⟩ a.o.1 SE) ?_;rintro e w' ⟨he,U,F,D,j,k⟩;subst he;refine⟨_,rfl,?_⟩;exact hK (⟨U,F,q,D,(mJ.jQ a.o.2).T j,k⟩);intro aO aZ af ak;obtain⟨aI,F,q,D,j,k⟩:=ak;have T:=O0 (And.intro D (And.intro (ay.T j) (ao.snoc (m:=400*(1+ku d th+ku d el)) k ⟨SG,SG,λh=>by rcases h with h|h<;>simp at h,λh=>by rcases h with h|h<;>simp at h⟩ SE)));clear k af;simp only[mP];go_wp21
  go_end0
  exact⟨rfl,_,_,T.o.1,T.o.2.1,T.o.2.2⟩
 .go_wp21;clear N M O P Q R;apply(kH p z cb s t u C hd own l n y params G _ c2 f ⟨32,0,0,0⟩ D SE).M;rintro e ad ⟨rfl,aa,L,aA,j,k⟩;obtain⟨J,I⟩:=j.k E ac aj bp.o;have al:=O0 (J.T an.o);have aP:=O0 I;have am:E<ad:=O1 ac j.size;have aB:=(ay.T j)
  clear J I;have aQ:=O0 k;have ap:L.length=f.length+1:=(by rw[k];simp);have aC:=O0 ap;have bF:L.length<=95000:=SD ax az.o;have aq:=(ao.snoc (m:=317) k ⟨SG,SG,λh=>by rcases h with h|h<;>simp at h,λ_=>⟨SG,by show(0:Int)<=_;omega⟩⟩ SE)
  clear k ap;have ar:L[f.length]?=some (⟨32,0,0,0⟩:In):=(by rw[aQ.o];simp);obtain⟨⟨N,M,O,P,Q,R⟩,_⟩:=ly al.o;go_wp21;clear N M O P Q R;refine(bB S p ad cb s t u C hd own l n y params aa L W aM o aA X i aX aY c5 el bu bA.o (SD ax aq.len)).M ?_;rintro e ba ⟨r,rfl,bJ,Y,ag,j,au,bf⟩;obtain⟨J,I⟩:=j.k E am aj aP.o;have aR:=(aB.T j)
  clear J I;have aS:=(aq.T (q:=318+400*ku d el) au SE)
  have av:=O0 (au.kt ar);have aJ:=(show f.length<Y.length from SD au.len aC.o)
  clear ar;obtain⟨g,aE,rfl⟩:=ag.Aa (SC aJ);have Z:=ag.zZ av.o;have bK:=(Z.1 2 _ rfl).1;have bL:=(Z.1 2 _ rfl).2;have aw:=O0 (Z.2 2 SF (r:Int));have cd:=jN ag.c 10;have bM:(0:Int)<=(f.length:Int):=SE;have bN:(f.length:Int)<(Y.length:Int):=SC aJ;clear Z;go_wp21
  go_end0
  exact⟨rfl,_,_,aw.o.1,aR.T aw.o.2,(aS.put av.o (SC az.o) (.inr rfl) SE (SC bf)).le SE⟩
 .go_wp21;clear N M O P Q R;refine Dr 9 (λb=>cond b (λx=>∃(aa:Value) (L:List In) (r:Int),lJ p cb s t u C hd own l n y params aa L x/\mJ cb (.slice G f.length c2) z aa x/\L=f++[⟨33,r,0,0⟩]) (λx=>lJ p cb s t u C hd own l n y params (.slice G f.length c2) f x/\Below z z x)) (mi [(·=.pointer cb),(·=.pointer cb),(·=.pointer cb),(Pp cb 6),(·=l),(Pp E 1),(·=tx name),Tr,Tr,(·=.int .i64 (f.length:Int)),(·=.int .i64 (f.length:Int))]) [(7,λv w=>∃r:Int,v=r),(8,λv w=>∃r:Int,v=.agg #[.int .u8 33,r,.int .i64 0,.int .i64 0])] (⟨D.jQ (Below.refl _ _).drew,(Below.refl _ _).drew⟩) ⟨?_,?_,?_,?_,?_,?_,?_,?_,?_,?_,?_,trivial⟩ ?_;intro B w a i hv hd hw;have cX:=Sl 0 (i 0 rfl);clear i hv hd hw;replace a:(λx=>lJ p cb s t u C hd own l n y params (.slice G f.length c2) f x/\Below z z x) w:=a;exact .q (g:=⟨rfl,a,Qa⟩);intro B w a i hv hd hw;have cX:=Sl 0 (i 0 rfl);clear i hv hd hw;replace a:(λx=>lJ p cb s t u C hd own l n y params (.slice G f.length c2) f x/\Below z z x) w:=a;exact .q (g:=⟨rfl,a,Qa⟩);intro B w a i hv hd hw;have ei:=Sv 172 hv 1;clear i hv hd hw;replace a:(λx=>lJ p cb s t u C hd own l n y params (.slice G f.length c2) f x/\Below z z x) w:=a;exact .q (g:=⟨rfl,a,Qa⟩);intro B w a i hv hd hw;have ej:=Sv 173 hv 2;clear i hv hd hw;replace a:(λx=>lJ p cb s t u C hd own l n y params (.slice G f.length c2) f x/\Below z z x) w:=a;exact .q (g:=⟨rfl,a,Qa⟩);intro B w a i hv hd hw;have ek:=Sv 174 hv 3;clear i hv hd hw;replace a:(λx=>lJ p cb s t u C hd own l n y params (.slice G f.length c2) f x/\Below z z x) w:=a;have aL:=jN a.1.c 6;replace a:=Hq a;exact .q (g:=⟨rfl,a.o,Qa⟩);intro B w a i hv hd hw;have e3:=Sl 3 (i 3 rfl);clear i hv hd hw;replace a:(λx=>lJ p cb s t u C hd own l n y params (.slice G f.length c2) f x/\Below z z x) w:=a;exact .q (g:=⟨rfl,a,Qa⟩);intro B w a i hv hd hw;have em:=Sv 176 hv 5;clear i hv hd hw;replace a:(λx=>lJ p cb s t u C hd own l n y params (.slice G f.length c2) f x/\Below z z x) w:=a;obtain⟨⟨N,M,O,P,Q,R⟩,_⟩:=ly ((a.2.B E ac).T an.o);replace a:=Hq a;exact .q (g:=⟨rfl,a.o,Qa⟩);intro B w a i hv hd hw;have en:=Sv 175 hv 4;have eo:=Sv 177 hv 6;clear i hv hd hw;replace a:(λx=>lJ p cb s t u C hd own l n y params (.slice G f.length c2) f x/\Below z z x) w:=a;replace a:=Hq a;refine .h λK hK=>?_;go_simp;refine⟨rfl,?_⟩;refine Calls.M (mj a.o.1 X.kX X.vars name) ?_;rintro e w' ⟨r,he,hw⟩;subst hw;subst he;exact⟨_,rfl,hK ⟨trivial,a.o,Qc ⟨r,rfl⟩<|Qb<|Qe⟩⟩;intro B w a i hv hd hw;obtain⟨r,cY⟩:=kE hd 0;have ep:=Sl 178 cY;clear i hv hd hw;replace a:(λx=>lJ p cb s t u C hd own l n y params (.slice G f.length c2) f x/\Below z z x) w:=a;exact .q (g:=⟨trivial,a,Qb<|Qc ⟨r,rfl⟩<|Qa⟩);intro B w a i hv hd hw;have eq:=Sv 171 hv 0;obtain⟨r,cZ⟩:=kE hd 1;have er:=Sl 179 cZ;clear i hv hd hw;replace a:(λx=>lJ p cb s t u C hd own l n y params (.slice G f.length c2) f x/\Below z z x) w:=a;replace a:=Hq a;refine .h λK hK=>?_;go_simp;refine⟨rfl,?_⟩;refine Calls.M (kH p w cb s t u C hd own l n y params G _ c2 f ⟨33,r,0,0⟩ a.o.1 SE) ?_;rintro e w' ⟨he,aa,L,D,j,k⟩;subst he;exact⟨_,rfl,hK ⟨rfl,⟨aa,L,r,D,(mJ.jQ a.o.2).T j,k⟩,Q2<|Qe⟩⟩;intro B w a i hv hd hw;have es:=Sv 180 hv 9;clear i hv hd hw;replace a:(λx=>∃(aa:Value) (L:List In) (r:Int),lJ p cb s t u C hd own l n y params aa L x/\mJ cb (.slice G f.length c2) z aa x/\L=f++[⟨33,r,0,0⟩]) w:=a;exact .q (g:=⟨rfl,a,Qa⟩);intro aO ad da cg db;have ch:aO 10=.int .i64 (f.length:Int):=cg 10 SF;obtain⟨aa,L,dc,aA,j,k⟩:=(show(λx=>∃(aa:Value) (L:List In) (r:Int),lJ p cb s t u C hd own l n y params aa L x/\mJ cb (.slice G f.length c2) z aa x/\L=f++[⟨33,r,0,0⟩]) ad from da)
  clear cg db;obtain⟨J,I⟩:=j.k E ac aj bp.o;have al:=O0 (J.T an.o);have aP:=O0 I;have am:E<ad:=O1 ac j.size;have aB:=(ay.T j)
  clear J I;have aQ:=O0 k;have ap:L.length=f.length+1:=(by rw[k];simp);have aC:=O0 ap;have bF:L.length<=95000:=SD ax az.o;have aq:=(ao.snoc (m:=317) k ⟨SG,SG,λh=>by rcases h with h|h<;>simp at h,λ_=>⟨SG,by show(0:Int)<=_;omega⟩⟩ SE)
  clear k ap;have ar:L[f.length]?=some (⟨33,dc,0,0⟩:In):=(by rw[aQ.o];simp);simp only[mP,ch];clear ch;obtain⟨⟨N,M,O,P,Q,R⟩,_⟩:=ly al.o;go_wp21;clear N M O P Q R;refine(bB S p ad cb s t u C hd own l n y params aa L W aM o aA X i aX aY c5 el bu bA.o (SD ax aq.len)).M ?_;rintro e ba ⟨r,rfl,bJ,Y,ag,j,au,bf⟩;obtain⟨J,I⟩:=j.k E am aj aP.o;have aR:=(aB.T j)
  clear J I;have aS:=(aq.T (q:=318+400*ku d el) au SE)
  have av:=O0 (au.kt ar);have aJ:=(show f.length<Y.length from SD au.len aC.o)
  clear ar;obtain⟨g,aE,rfl⟩:=ag.Aa (SC aJ);have Z:=ag.zZ av.o;have bK:=(Z.1 2 _ rfl).1;have bL:=(Z.1 2 _ rfl).2;have aw:=O0 (Z.2 2 SF (r:Int));have cd:=jN ag.c 10;have bM:(0:Int)<=(f.length:Int):=SE;have bN:(f.length:Int)<(Y.length:Int):=SC aJ;clear Z;go_wp21
  go_end0
  exact⟨rfl,_,_,aw.o.1,aR.T aw.o.2,(aS.put av.o (SC az.o) (.inr rfl) SE (SC bf)).le SE⟩
 go_wp21;apply(kH p z cb s t u C hd own l n y params G _ c2 f ⟨34,0,0,0⟩ D SE).M;rintro e aZ ⟨rfl,aI,F,D,j,k⟩;have T:=O0 (And.intro D (And.intro (ay.T j) (ao.snoc (m:=400*(1+ku d th+ku d el)) k ⟨SG,SG,λh=>by rcases h with h|h<;>simp at h,λh=>by rcases h with h|h<;>simp at h⟩ SE)));clear k;go_wp21
 go_end0
 exact⟨rfl,_,_,T.o.1,T.o.2.1,T.o.2.2⟩
def uu:∀d,Dz d
 |0=>wM 0 ER
 |d+1=>wM (d+1) (EP d (uu d) (Bx d (uu d)))
