import Derived.Test.YtfemcncookpdhaaGreatDoorZ10
import Derived.Test.YtfemcncookpdhaaGreatDoorZ11
import Derived.Test.YtfemcncookpdhaaGreatDoorZ12
set_option maxRecDepth 1000000
set_option maxHeartbeats 32000000
set_option linter.all false
namespace Go.Proofs.YtfemcncookpdhaaGreatDoor
open Go.RowKit lX Go.Proofs.Tryz
theorem Bj:Dw 133:=by
 intro S w i j c1 c d c2 h k r l f g;have a:=FO w h i j c1 c d c2;have m:=(l.kg (kE.ok .u8 Ds) (λq b=>a.B q (g q b)))
 have n:=(k.to a)
 go_enter func133,ntmps133
 go_wp2_with fail;refine(sI 134 vr xx Ds S _ c d c2 h.body n m f.BZ f.body (λq b=>by rw[NB];have:=g q b;omega)).M ?_;rintro e s ⟨rfl,p⟩;go_wp2_with fail;go_ret;exact⟨rfl,a.T (p.M PK)⟩
theorem CE(S w p)(n c1:Nat)(s)(j c2:Nat)(t)(d c3:Nat)(f)(ag:lH w)(hf:qV S w p n c1 s j c2 t d c3 f)(z:pj f):
  Calls prog 85 #[.agg #[tx f.name,.slice p n c1,.slice s j c2,.slice t d c3]] w (kU (.bool true) w):=by
 have L:=hf.kM;have M:=hf.lN;have I:=hf.ky;have hS:=hf.ln;have aM:n<=2:=by rw[<-L.len.1];exact z.zf
 have aN:j<=9:=by rw[<-M.len.1];exact z.Ee
 have aO:d<=3:=by rw[<-I.len.1];exact z.c3
 have aP:1<=d:=by rw[<-I.len.1];exact z.c1
 have aQ:=L.len.2;have aR:=M.len.2;have aS:=I.len.2;have aT:=NA L.len.1;have ah:=NA M.len.1;have ai:=NA I.len.1;have N:Below w w (w.alloc (.cells #[tx f.name,.slice p n c1,.slice s j c2,.slice t d c3] 42)):=Ba _ _;have X:=NF w (.cells #[tx f.name,.slice p n c1,.slice s j c2,.slice t d c3] 42);have aU:(w.alloc (.cells #[tx f.name,.slice p n c1,.slice s j c2,.slice t d c3] 42)).heap.size=w+1:=PK
 have A:=(hf.kh N)
 have O:=z;have aj:=(ag.to N)
 have Y:=NA X;clear hS X
 go_enter func85,ntmps85
 go_wp2_with fail;generalize w.alloc (.cells #[tx f.name,.slice p n c1,.slice s j c2,.slice t d c3] 42)=B at*;have Z:w.heap.size<B:=PJ
 have u:=A.ln;have aV:=A.kM;have ak:=A.lN;have al:=A.ky;have a:=(Below.refl B B)
 go_loopw [12] (λi wr=>∃k:Nat,k<=j/\i=k/\Below B B wr) (λi _=>j-(intOf i).toNat);case atStart=>exact⟨0,NP _,rfl,a⟩
 case round=>
  obtain⟨c,am,rfl,a⟩:=hrel;have an:=a.size;by_cases ao:c<j
  .obtain⟨b,hx⟩:∃x,f.lN[c]?=some x:=Gx (PH ah.o);obtain⟨D,o1,r,rfl,E,hr,g⟩:=(ak.kg nI.ok (λq m=>a.B q (u q m))).kI nI.ok c b hx;have P:r=[tx b.a,tx b.b,.int .i64 b.sW]:=hr;subst P;have Q:=g 0 _ rfl;have aa:=g 1 _ rfl;have ab:=g 2 _ rfl;rw[NS]at Q;have ap:D<wr:=PH (u D E);have R:=NH hx;have aq:(0:Int)<=(c:Int):=PJ;have ar:(c:Int)<(j:Int):=PJ;clear g hx;have au:=O.lN b R;have aW:¬b.sW<1:=PJ;have aX:¬50<b.sW:=PJ;clear au;have a:=(a.alloc PJ (.cells #[tx b.a,tx b.b,b.sW] 101))
   go_wp2_with fail;go_roundw;case rel=>exact⟨c+1,PJ,PQ,a⟩
   case measure=>simp[intOf];omega
  obtain rfl:j=c:=PJ;obtain⟨⟨av,aw,ax,ay⟩,_⟩:=kC ((a.B _ Z).T Y.o);have az:w.heap.size<wr:=PH a.size;go_wp2_with fail;go_loopw [28] (λi wr=>∃k:Nat,k<=d/\i=k/\Below B B wr) (λi _=>d-(intOf i).toNat);case atStart=>exact⟨0,NP _,rfl,a⟩
  case round=>
   obtain⟨c,am,rfl,a⟩:=hrel;have a:=a;have an:=a.size;by_cases ao:c<d
   .obtain⟨b,hx⟩:∃x,f.ky[c]?=some x:=Gx (PH ai.o);obtain⟨D,o1,r,rfl,E,hr,g⟩:=(al.kg (mg.ok .u8) (λq m=>a.B q (u q m))).kI (mg.ok .u8) c b hx;obtain⟨aY,aZ,rfl,T,U⟩:=hr;obtain⟨aA,cv,rfl,hcv⟩:=T.form;obtain⟨aB,aC,rfl,hce⟩:=U.form;have Q:=g 0 _ rfl;have aa:=g 1 _ rfl;have ab:=g 2 _ rfl;rw[NS]at Q;have ap:D<wr:=PH (u D E);have R:=NH hx;have aq:(0:Int)<=(c:Int):=PJ;have ar:(c:Int)<(d:Int):=PJ;clear g hx;have J:=O.ky b R;obtain⟨v,K⟩:=Xq b.vars.length;obtain⟨V,F⟩:=Xq b.kY.length;rw[<-K]at aa T hcv;rw[<-F]at ab U hce;have ba:v<=5:=(by rw[K];exact J.B0);have bb:V<=2:=(by rw[F];exact J.v2);have bc:1<=V:=(by rw[F];exact J.v1);have aD:=NA K.symm;have bd:=NA F.symm;obtain⟨C,G⟩:=Xq (wr.alloc (.cells #[tx b.name,.slice aA v cv,.slice aB V aC] 105));have be:C.heap.size=wr+1:=(by rw[G];simp);have aE:=(show Below B B C by rw[G];exact a.alloc PJ _)
    have ac:wr.grownBy C none:=(by rw[G];exact NN _ _ none);have aF:=(T.kg (nJ.ok .u8) (w':=C) (λq m=>ac.B q (PH (u q m)) PK))
    have bf:=(U.kg (mB.ok .u8) (w':=C) (λq m=>ac.B q (PH (u q m)) PK))
    have ad:∀q,S q->q<C:=λq m=>PH (u q m);clear K F;go_wp2_with fail;rw[<-G];clear G;have a:=(Below.refl C C)
    go_loopw [35] (λi wr=>∃k:Nat,k<=v/\i=k/\Below C C wr) (λi _=>v-(intOf i).toNat);case atStart=>exact⟨0,NP _,rfl,a⟩
    case round=>
     obtain⟨y,bg,rfl,a⟩:=hrel;have a:=a;have bh:=a.size;by_cases bi:y<v
     .obtain⟨l,hx⟩:∃x,b.vars[y]?=some x:=Gx (PH aD.o);obtain⟨ae,o2,r,rfl,E,hr,g⟩:=(aF.kg (nJ.ok .u8) (λq m=>a.B q (ad q m))).kI (nJ.ok .u8) y l hx;have P:r=[tx l.name,.int .u8 l.ty,.int .i64 l.init]:=hr;subst P;have aG:=g 0 _ rfl;have bj:=g 1 _ rfl;have bk:=g 2 _ rfl;rw[NS]at aG;have bl:ae<wr:=PH (ad ae E);have aH:=NH hx;have bm:(0:Int)<=(y:Int):=PJ;have bn:(y:Int)<(v:Int):=PJ;clear g hx;have aI:=J.vars l aH;have aJ:=(xY l aI (wr.alloc (.cells #[tx l.name,.int .u8 l.ty,l.init] 108)))
      have aK:=(a.alloc PJ (.cells #[tx l.name,.int .u8 l.ty,l.init] 108))
      go_wp2_with fail;refine aJ.M ?_;rintro e aL ⟨rfl,W⟩;have a:=(aK.T (W.M (by rw[NB];omega)))
      go_wp2_with fail;go_roundw;case rel=>exact⟨y+1,PJ,PQ,a⟩
      case measure=>simp[intOf];omega
     obtain rfl:v=y:=PJ;have a:=(aE.T (a.M PJ))
     go_wp2_with fail;go_roundw;case rel=>exact⟨c+1,PJ,PQ,a⟩
     case measure=>simp[intOf];omega
   obtain rfl:d=c:=PJ;obtain⟨⟨av,aw,ax,ay⟩,_⟩:=kC ((a.B _ Z).T Y.o);have az:w.heap.size<wr:=PH a.size;go_wp2_with fail;have af:=(N.T (a.M PJ))
   refine(oT 133 xX Bj S wr p n c1 s j c2 t d c3 f (aj.to a) (A.kh a) O).M ?_;rintro e aL ⟨rfl,W⟩;go_wp2_with fail;go_ret;exact⟨rfl,af.T (W.M af.size)⟩
theorem xz(S:Nat->Prop)(w:World)(d:Option Addr)(n c:Nat)(xs:List Lk)(a:Lk)(b:Nat)(f:km nI S w (.slice d n c) xs)(g:n<=1000)(hS:∀q,S q->q<w)(i:w.cell? ⟨b,0,none⟩=some (tx a.a))(j:w.cell? ⟨b,1,none⟩=some (tx a.b))(k:b<w)(l:∀x∈xs,(x.a,x.b)≠(a.a,a.b)):
  Calls prog 140 #[.slice d n c,.func (.func 139) #[] #[.pointer (some ⟨b,0,none⟩)]] w (kU (.bool false) w):=by
 have m:=(Bq S w d n c xs a b f g hS i j k l)
 go_enter func140,ntmps140
 go_wp2_with fail;refine m.M ?_;rintro e r ⟨rfl,p⟩;go_wp2_with fail;go_ret;exact⟨rfl,p⟩
theorem CJ(S w D J)(j p:Nat)(s E)(v c3:Nat)(cb:Nat)(y A)(n:Nat)(R:tW cb y A (.slice J j p) (.slice E v c3) w)(ag:km nI S w (.slice J j p) D)(ah:km (mg .u8) S w (.slice E v c3) s)(aI:nL n (n*n) D)(bD:D.length<=90)(bE:n<=3)(bF:s.length=n)(ai:∀(i:Nat) (c:Co),s[i]?=some c->c.name=kB i)(hS:∀q,S q->q<w/\q≠cb):
  Calls prog 88 #[.pointer (some ⟨cb,0,none⟩)] w (zk cb y A (.slice J j p) (.slice E v c3) w):=by
 have bG:∀(fn:Fn) (first cap:Array Value) (w:World),(Instr.makeFunc fn first cap).run prog w=.ok (.func fn first cap) w:=λ_ _ _ _=>rfl;have aj:=ag.len;have bH:j<=90:=PJ
 have aJ:v<=1000:=PH ah.len.1
 have ak:=NA aj;have aK:=R;have al:=ag;have aL:=ah;have am:=aI;have B:=NA hS;have an:=NA (show∀i,i<n->∃c,(s.find? λx=>x.name==kB i)=some c from λi hi=>⟨_,F7 PJ ai (NU PJ)⟩);have bI:=R.lt;obtain⟨ao,u⟩:=R;have c1:=kf u 2 _ rfl;clear u aj hS ai
 go_enter func88,ntmps88
 go_wp2_with fail;clear c1;go_loopw [15] (λi wr=>∃k:Nat,k<=j/\i=k/\tW cb y A (.slice J j p) (.slice E v c3) wr/\nG (λq=>q=cb) w wr) (λi _=>j-(intOf i).toNat);case atStart=>exact⟨0,NP _,rfl,aK,.refl _ _⟩
 case round=>
  obtain⟨k,bJ,rfl,F,G⟩:=hrel;have bK:=G.size;by_cases bL:k<j
  .obtain⟨x,hx⟩:∃x,D[k]?=some x:=Gx (PH ak.o);have T:∀q,S q->wr.heap[q]?=w.heap[q]?:=λq b=>G.B q (B.o q b).1 (B.o q b).2;obtain⟨L,ap,r,rfl,aM,hr,M⟩:=(al.kg nI.ok T).kI nI.ok k x hx;have aN:r=[tx x.a,tx x.b,.int .i64 x.sW]:=hr;subst aN;have aq:=M 0 _ rfl;have aO:=M 1 _ rfl;have aP:=M 2 _ rfl;rw[NS]at aq;obtain⟨z,hz,ar,U,V,_⟩:=am.1 x (NH hx);have bM:x.a.length=1:=(by rw[U];rfl);have bN:x.b.length=1:=(by rw[V];rfl);have aQ:0<n:=(by rcases OL n with h|h;rw[h]at ar;omega;exact h);have aR:=NA (show∃c,(s.find? λt=>t.name==x.a)=some c from U▸an.o _ (Nat.div_lt_of_lt_mul ar));have aS:=NA (show∃c,(s.find? λt=>t.name==x.b)=some c from V▸an.o _ (Nat.mod_lt _ aQ));have aT:=NA (K1 am hx);have bO:=NA T;have bP:(0:Int)<=(k:Int):=PJ;have bQ:(k:Int)<(j:Int):=PJ;have bR:(k:Int)<=(p:Int):=PH ak.o.2;have bS:L<wr:=PH ((B.o L aM).1);clear T M hx U V;have au:=Ba wr (.cells #[tx x.a,tx x.b,x.sW] 101);have aU:=(G.T (.of au))
   have aV:=(F.kh au F.lt)
   have aW:=NA (NF wr (.cells #[tx x.a,tx x.b,x.sW] 101));have aX:=NA (show(wr.alloc (.cells #[tx x.a,tx x.b,x.sW] 101)).heap.size=wr+1 from PK);have bT:=F.lt;go_wp2_with fail;refine(uM cb y A _ _ _ _ aV).M ?_;rintro e f ⟨rfl,N,av,aY⟩;have aZ:=aX.o;obtain⟨m,W⟩:=Xq wr.heap.size;have X:f.heap[m]?=some (.cells #[tx x.a,tx x.b,x.sW] 101 (0,0)):=(by rw[W];exact(av.B _ PJ PX).T aW.o);rw[<-W];have aw:=(aU.T (.grown av rfl))
   have ba:=NA X;have bb:m<f:=PJ;have Y:=N.lt;have bU:w.heap.size<=f:=PJ;have I:=NA (show∀q,S q->q<f from λq b=>PH ((B.o q b).1));have ax:=NA (show∀q,S q->f.heap[q]?=w.heap[q]? from λq b=>aw.B q (B.o q b).1 (B.o q b).2);obtain⟨⟨bc,bd,be⟩,_⟩:=kS X;clear aY X aZ W aq aO aP F G;go_wp2_with fail;have Z:=(Ba f (.cells #[tx x.a,tx x.b] 9))
   have ay:=NA (NF f (.cells #[tx x.a,tx x.b] 9));have az:(f.alloc (.cells #[tx x.a,tx x.b] 9)).heap.size=f+1:=PK;obtain⟨aa,aA⟩:=Xq f.heap.size;rw[<-aA]at ay az⊢;have bf:aa<(f.alloc (.cells #[tx x.a,tx x.b] 9)).heap.size:=PJ;generalize f.alloc (.cells #[tx x.a,tx x.b] 9)=ab at*;have bg:f.heap.size<=ab:=Z.size;clear aA az bc bd be;go_loopw [36] (λi bh=>∃l:Nat,l<=2/\i=l/\Below ab ab bh) (λi _=>2-(intOf i).toNat);case atStart=>exact⟨0,PJ,rfl,Below.refl _ _⟩
   case round=>
    obtain⟨l,bV,rfl,O⟩:=hrel;have bi:=O.size;have C:=(Z.T (O.M bg))
    by_cases bW:l<2
    .obtain⟨t,hy,bj⟩:∃t,wr.cell? ⟨aa,0+l,none⟩=some (tx t)/\∃c,(s.find? λz=>z.name==t)=some c:=by have aB:=(O.B aa bf).T ay.o;rcases(show l=0\/l=1 from PJ)with rfl|rfl;exact⟨x.a,kf aB 0 _ rfl,aR.o⟩;exact⟨x.b,kf aB 1 _ rfl,aS.o⟩
     rw[NY]at hy;obtain⟨aC,aD⟩:=bj;have bk:=NA aD;have bl:=(qD S wr E v c3 s t (aL.kg (mg.ok _) (λq b=>(C.B q (I.o q b)).T (ax.o q b))) aJ (λq b=>PH (I.o q b)))
     obtain⟨ao,u⟩:=N.kg (C.B cb Y);have c4:=kf u 3 _ rfl;have bX:(0:Int)<=(l:Int):=PJ;have bY:(l:Int)<2:=PJ;clear u aD;go_wp2_with fail;refine bl.M ?_;rintro e bm ⟨hp,_,bn⟩;obtain⟨bZ,rfl,bo⟩:=hp aC bk.o;obtain⟨bp,bq,br,bs,bt,bu,rfl,_⟩:=bo;have ac:=(O.T (bn.M bi))
     have bv:=ac.size;clear hp hy c4;have aE:=(N.kg ((ac.B cb PJ).T (Z.B cb Y)))
     have aF:=Ba bm (.cells #[tx aC.name,.slice bp bq br,.slice bs bt bu] 105);have bw:=(aE.kh aF aE.lt)
     go_wp2_with fail;refine(lG cb y A _ _ _ _ _ bw).M ?_;rintro e ca ⟨rfl,rfl⟩;go_wp2_with fail;go_roundw;case rel=>exact⟨l+1,PJ,PQ,ac.T (aF.M bv)⟩
     case measure=>simp[intOf];omega
    obtain rfl:l=2:=PJ;have aG:=(C.B m bb).T ba.o;have ad:=NA aG;have ae:m<wr:=PJ;have P:=(N.kg (C.B cb Y))
    have af:=P.lt;clear aG;go_wp2_with fail;refine Ri (λx=>Below wr wr x) (mG [(Pp cb 0),(Pp cb 0),(Pp cb 0),(Pp cb 0),(Pp cb 2),(·=.slice (some ⟨L,ap,none⟩) j p),(·=k),(·=.slice (some ⟨L,ap,none⟩) k p),(·=.func (.func 139) #[] #[.pointer (some ⟨m,0,none⟩)]),(·=.bool false),(·=.bool true),(Pp m 0),(·=tx x.a),(·=.bool true)]) [] ((Below.refl _ _).drew) ⟨?_,?_,?_,?_,?_,?_,?_,?_,?_,?_,?_,?_,?_,?_,trivial⟩ ?_;exact .f 0;exact .f 0;exact .v 57 1;exact .v 58 2;exact .v 59 3;intro Q w a hf d hd hw;obtain⟨ao,u⟩:=P.kg (a.B cb af);exact .l 60 (d 4 _ rfl rfl) (kf u 2 _ rfl) ⟨rfl,a,Qa⟩;exact .f 2;intro Q w a hf d hd hw;have cc:=Sv 61 d 5;have cd:=Sv 62 d 6;exact .q (g:=⟨rfl,a,Qa⟩);exact .f 8;intro Q w a hf d hd hw;have ce:=Sv 63 d 7;have cf:=Sv 64 d 8;replace a:=Hq a;refine .c (xz S w _ k p (D.take k) x m ((al.take k PJ).kg nI.ok (λq b=>(a.o.B q (PH (I.o q b))).T ((C.B q (I.o q b)).T (ax.o q b)))) PJ (λq b=>PI (I.o q b) a.o.size) (kf ((a.o.B m ae).T ad.o) 0 _ rfl) (kf ((a.o.B m ae).T ad.o) 1 _ rfl) (PH a.o.size) aT.o) ?_;rintro e w' ⟨he,bx⟩;subst he;exact⟨_,rfl,⟨rfl,a.o.T (bx.M a.o.size),Qe⟩⟩;exact .v 65 9;exact .f 3;intro Q w a hf d hd hw;exact .l 67 (d 11 _ rfl rfl) (kf ((a.B m ae).T ad.o) 0 _ rfl) ⟨rfl,a,Qa⟩;intro Q w a hf d hd hw;have cg:=Sv 56 d 0;have ch:=Sv 66 d 10;have ci:=Sv 68 d 12;clear hf d hd hw;replace a:=Hq a;refine .h λK hK=>?_;go_simp;refine⟨rfl,?_⟩;refine Calls.M (lG cb y A _ _ w _ _ (P.kg (a.o.B cb af))) ?_;rintro e w' ⟨he,hw⟩;subst hw;subst he;exact⟨_,rfl,hK ⟨rfl,a.o,Qe⟩⟩;intro cj ck aH bz bA;have bB:=(C.T (aH.M PJ))
    have bC:=P.kg (aH.B cb af);clear bz bA;simp only[kr,Act.put,NI,NL,NJ];go_wp2_with fail;go_roundw;case rel=>exact⟨k+1,PJ,PQ,bC,aw.T (.of bB)⟩
    case measure=>simp[intOf];omega
  obtain rfl:j=k:=PJ;go_wp2_with fail
  go_end0
  exact⟨rfl,F,G⟩
theorem Bt(d:Nat)(ab:Dx d):F9 d:=by
 intro S q w cb r s t u hd own y z A params V i ac ad o H ae m af B c1 l a O aw;have ag:=NA O;have ax:=NA a.len;have ah:=ab;obtain⟨ai,c,rfl⟩:=H.form;have E:=kf H.c 10 _ rfl;clear O;by_cases aj:B=0
 .subst aj
  go_enter func202,ntmps202
  go_wp2_with fail;go_ret;exact⟨_,rfl,_,i,H,.refl _ _ _,(mC.refl i).T (mC.refl i) PJ,NQ _⟩
 have ak:((B:Int)==0)=false:=PO
 have al:¬(B:Int)=0:=PJ
 clear E
 go_enter func202,ntmps202
 go_wp2_with fail;refine(kR q w cb r s t u hd own y z A params ai _ c i ⟨27,0,0,0⟩ H PJ).M ?_;rintro e am ⟨rfl,ay,F,G,an,j⟩;have P:F.length=i.length+1:=by rw[j];simp
 obtain⟨az,c2,rfl⟩:=G.form;have E:=kf G.c 10 _ rfl;have Q:=NA j;have R:=NA P;clear j P;go_wp2_with fail;clear E;refine(ah S q am cb r s t u hd own y z A params _ F ac ad o G ae m af B c1 l a ag.o (PH R.o)).M ?_;rintro e I ⟨rfl,aA,k,J,ao,j⟩;have T:=j.len;have U:i.length<k.length:=PH R.o
 obtain⟨g,n,rfl⟩:=J.Ar PJ;have W:k[i.length]?=some (⟨27,0,0,0⟩:In):=j.kI (by rw[Q.o];simp);have L:=NA W;have X:=(an.T ao)
 have ap:mC i (400*kN d l+1) k:=(mC.one Q.o ⟨PM,PM,λ_=>⟨PM,PY⟩,λH=>by rcases H with H|H<;>simp at H⟩).T j PJ;have aq:F.length<=k.length:=T.1;obtain⟨f,M⟩:=Xq k.length;obtain⟨p,N⟩:=Xq i.length;have ar:=NA M;have au:=NA N;rw[<-M]at J X U;rw[<-N]at L U⊢;have aB:(0:Int)<=(p:Int):=PJ
 have aC:(p:Int)<(f:Int):=PJ
 clear T W M N ak al;go_wp2_with fail;refine sV (λx=>lO q cb r s t u hd own y z A params (.slice (some ⟨g,0,none⟩) f n) k x/\Below I I x) (λv w=>lO q cb r s t u hd own y z A params (.slice (some ⟨g,0,none⟩) f n) (k.set p ((⟨27,0,0,0⟩:In).put 1 (f:Int))) w/\mX cb (.slice (some ⟨g,0,none⟩) f n) I (.slice (some ⟨g,0,none⟩) f n) w) (mG [(Pp cb 0),(Pp cb 0),(Pp cb 10),(·=.slice (some ⟨g,0,none⟩) f n),(·=p),(Pp cb 0),(Pp cb 0),(Pp cb 10),(·=.slice (some ⟨g,0,none⟩) f n),(·=f),(Pp g (p*4)),(Pp g (p*4+1)),Tr]) [] (⟨J.kh (Below.refl _ _).drew,(Below.refl _ _).drew⟩) ⟨?_,?_,?_,?_,?_,?_,?_,?_,?_,?_,?_,?_,?_,trivial⟩ ?_;exact Pf 0;exact Pv 26 0;exact Pv 27 1;intro C w b m a hd hw;exact .l 28 (a 2 _ rfl rfl) (kf b.1.c 10 _ rfl) ⟨rfl,b,Qa⟩;exact Pf 5;exact Pf 0;exact Pv 31 5;exact Pv 32 6;intro C w b m a hd hw;exact .l 33 (a 7 _ rfl rfl) (kf b.1.c 10 _ rfl) ⟨rfl,b,Qa⟩;intro C w b m a hd hw;have aD:=Sv 34 a 8;exact .q (g:=⟨rfl,b,Qa⟩);intro C w b m a hd hw;have aE:=Sv 29 a 3;have aF:=Sv 30 a 4;exact .q (g:=⟨rfl,b,Qa⟩);exact Pv 36 10;intro C w b m a hd hw;have aG:=Sv 37 a 11;have aH:=Sv 35 a 9;have D:=b.1.Ap L.o;have aI:=(D.1 1 _ rfl).1;have aJ:=(D.1 1 _ rfl).2;have Y:=NA (D.2 1 PM (f:Int));clear D;replace b:=Hq b;refine .h λK hK=>?_;go_simp;exact hK (⟨Y.o.1,(mX.kh b.o.2).T Y.o.2⟩);intro aK aL av Z;have aa:=NA Z;clear av Z;simp only[kr,Act.put,NI,NL,NJ];go_wp2_with fail;go_ret;refine⟨_,rfl,_,_,aa.o.1,X.T aa.o.2,ap.put L.o (by rw[au.o];exact NQ _) (.inl rfl) PJ (by rw[ar.o];exact Pb _),?_⟩;rw[PE];exact aq
theorem Bu(S w ar)(m c:Nat)(au:List In)(l:km sX S w (.slice ar m c) au)(aN:∀x∈au,pw m x)(hm:m<=100000)(hS:∀q,S q->q<w)(hR:rp w):
  Calls prog 145 #[.slice ar m c] w (J3 w):=by
 have ch:∀(fn:Fn) (first cap:Array Value) (w:World),(Instr.makeFunc fn first cap).run prog w=.ok (.func fn first cap) w:=λ_ _ _ _=>rfl;have bn:=xA;unfold ma at bn;have bo:=NA l;have bp:=NA aN;have aO:=NA hS;have aP:=NA hR;have bq:=NA l.len;clear l aN hS hR;have ci:IntKind.i64.wrap ((m:Int)+1)=((m+1:Nat):Int):=PN
 have cj:∀w:World,(Instr.makeSlice 44 (.int .i64 ((m:Int)+1)) (.int .i64 ((m:Int)+1))).run prog w=.ok (.slice (some ⟨w,0,none⟩) (m+1) (m+1)) (w.alloc (.cells (px (List.replicate (m+1) 0)) 3)):=λw=>EK (m+1) PJ w;have av:=NA (show rv (w+1) w (m+1) ((w.alloc (.cells (px (List.replicate (m+1) 0)) 3)).alloc (.cells #[.slice (some ⟨w,0,none⟩) (m+1) (m+1)] 44))from⟨by have:=NF (w.alloc (.cells (px (List.replicate (m+1) 0)) 3)) (.cells #[.slice (some ⟨w,0,none⟩) (m+1) (m+1)] 44);rw[NB]at this;exact this,⟨List.replicate (m+1) 0,PK,(Ot _ _ _ PK).T (NF w _)⟩,PJ⟩);have aQ:=NA (show Below w w ((w.alloc (.cells (px (List.replicate (m+1) 0)) 3)).alloc (.cells #[.slice (some ⟨w,0,none⟩) (m+1) (m+1)] 44))from(Ba _ _).alloc PK _);have br:=NA (show((w.alloc (.cells (px (List.replicate (m+1) 0)) 3)).alloc (.cells #[.slice (some ⟨w,0,none⟩) (m+1) (m+1)] 44)).heap.size=w+2 from PK);obtain⟨B,ad⟩:=Xq ((w.alloc (.cells (px (List.replicate (m+1) 0)) 3)).alloc (.cells #[.slice (some ⟨w,0,none⟩) (m+1) (m+1)] 44));rw[<-ad]at av aQ br;have bs:=NA ad;clear ad
 go_enter func145,ntmps145
 go_wp2_with fail;have ad:=bs.o;rw[<-ad];clear ad;obtain⟨j,aw⟩:=Xq w.heap.size;rw[<-aw]at av⊢;have U:=NA aw;clear aw;go_loopw [19] (λi wr=>∃k:Nat,k<=m+1/\i=k/\rv (j+1) j (m+1) wr/\Below j w wr) (λi _=>m+1-(intOf i).toNat);case atStart=>exact⟨0,NP _,rfl,av.o,by rw[U.o];exact aQ.o⟩
 case round=>
  obtain⟨k,bt,rfl,V,ae⟩:=hrel;have W:=NA V;have X:=NA ae;have ax:=(NC.1 V.var).1;have c0:=kf V.var 0 _ rfl;clear V ae;by_cases aR:k<m+1
  .obtain⟨x,af,ck,hs⟩:=W.o.get aR;have ay:=NA (hs (-1));have bu:(0:Int)<=(k:Int):=PJ;have bv:(k:Int)<((m:Int)+1):=PJ;have aS:j<wr:=PJ;clear hs;go_wp2_with fail;go_roundw;case rel=>exact⟨k+1,PJ,PQ,ay.o,kq X.o (NQ _)⟩
   case measure=>simp[intOf];omega
  obtain rfl:k=m+1:=PJ;go_wp2_with fail;clear c0 ax;go_loopw [2,29] (λv i wr=>∃(k:Nat) (t:Int),k<=m/\i=k/\v=t/\rv (j+1) j (m+1) wr/\Below j w wr) (λ_ i _=>m-(intOf i).toNat);case atStart=>exact⟨0,0,NP _,rfl,rfl,W.o,X.o⟩
  case round=>
   clear W X;obtain⟨k,t,bt,rfl,rfl,V,ae⟩:=hrel;have W:=NA V;have X:=NA ae;have ax:=(NC.1 V.var).1;have bw:=U.o;have cl:w.heap.size<=wr:=ae.size;clear V ae bw;by_cases aR:k<m
   .obtain⟨x,hx⟩:∃x,au[k]?=some x:=Gx (PH bq.o);obtain⟨aT,cm,r,rfl,aU,hr,ai⟩:=(bo.o.kg sX.ok (λq aV=>X.o.B q (by rw[U.o];exact aO.o q aV))).kI sX.ok k x hx;have bx:r=[.int .u8 x.op,.int .i64 x.a,.int .i64 x.b,.int .i64 x.n]:=hr;subst bx;have af:=ai 0 _ rfl;have D:=ai 1 _ rfl;have aW:=ai 2 _ rfl;have aX:=ai 3 _ rfl;rw[NS]at af;have aY:=NA (bp.o x (NH hx));have cn:aT<wr:=PH (aO.o aT aU);have bu:(0:Int)<=(k:Int):=PJ;have bv:(k:Int)<(m:Int):=PJ;clear hr ai aU hx;obtain⟨op,a,b,n⟩:=x;simp only at af D aW aX;go_wp2_with fail;have az:=Ba wr (.cells #[.int .u8 op,a,b,n] 312);have aZ:=NA (NF wr (.cells #[.int .u8 op,a,b,n] 312));have bz:=NA (W.o.kh az);have bA:=NA (X.o.T (az.M PJ));have aA:(wr.alloc (.cells #[.int .u8 op,a,b,n] 312)).heap.size=wr+1:=PK;obtain⟨E,ba⟩:=Xq wr.heap.size;rw[<-ba]at aZ⊢;have bb:E<(wr.alloc (.cells #[.int .u8 op,a,b,n] 312)).heap.size:=PJ;have co:E≠j/\E≠j+1/\j+1<E:=PJ;have cp:j+1<(wr.alloc (.cells #[.int .u8 op,a,b,n] 312)).heap.size:=PJ;generalize wr.alloc (.cells #[.int .u8 op,a,b,n] 312)=aB at*;clear az aA ba af D aW aX W X;refine sV (λx=>rv (j+1) j (m+1) x/\Below aB aB x) (λv w=>rv (j+1) j (m+1) w/\aB.grownBy w (some j)) (mG [(·=.slice (some ⟨j,0,none⟩) (m+1) (m+1)),(·=k),(·=.slice (some ⟨j,0,none⟩) (m+1) (m+1)),(·=k),(Pp j k),Tr,Tr,(Pp j k),Tr]) [(5,λv w=>∃ag:Int,v=ag),(6,λv w=>∃ag:Int,v=ag)] (⟨bz.o.kh (Below.refl _ _).drew,(Below.refl _ _).drew⟩) ⟨?_,?_,?_,?_,?_,?_,?_,?_,?_,trivial⟩ ?_;intro O w f hf l hd hw;exact .l 4 (hf 4 rfl) (kf f.1.var 0 _ rfl) ⟨rfl,f,Qa⟩;exact Pf 7;intro O w f hf l hd hw;exact .l 4 (hf 4 rfl) (kf f.1.var 0 _ rfl) ⟨rfl,f,Qa⟩;exact Pf 7;intro O w f hf l hd hw;have cq:=Sv 36 l 2;have cr:=Sv 37 l 3;have aC:(k:Int)<(m:Int)+1:=PJ;exact .q (g:=⟨rfl,f,Qa⟩);intro O w f hf l hd hw;have cs:=Sv 38 l 4;obtain⟨bB,g,_,_⟩:=f.1.get (i:=k) PJ;replace f:=Hq f;exact .q (g:=⟨trivial,f.o,Qc ⟨_,rfl⟩<|Qa⟩);intro O w f hf l hd hw;obtain⟨ag,bC⟩:=hd _ (Mm 0 rfl) _ rfl rfl;have ct:=Sl 39 bC;exact .q (g:=⟨trivial,f,Qb<|Qc ⟨_,rfl⟩<|Qa⟩);intro O w f hf l hd hw;have am:=Sv 34 l 0;have cu:=Sv 35 l 1;have aC:(k:Int)<(m:Int)+1:=PJ;exact .q (g:=⟨rfl,f,Qa⟩);intro O w f hf l hd hw;have cv:=Sv 41 l 7;obtain⟨ag,bD⟩:=hd _ (Mm 1 rfl) _ rfl rfl;have cw:=Sl 40 bD;obtain⟨bB,g,cx,hs⟩:=f.1.get (i:=k) PJ;have ay:=NA (hs ag);clear hs;replace f:=Hq f;refine .h λK hK=>?_;go_simp;exact hK (⟨ay.o,kn (kG (kp f.o.2) _) (kv _ _ _ _)⟩);intro aD aE bE bc;have Y:=NA bc;clear bE bc;simp only[kr,Act.put,NI,NL,NJ];obtain⟨bF,bG,aF,aG⟩:=aY.o;simp only at bF bG aF aG;have cy:=NA (And.intro aF aG);clear aF aG;obtain⟨p,bH⟩:∃q:Nat,op=(q:Int):=⟨op.toNat,PJ⟩
    subst bH;have aH:=(Y.o.2.B E bb (λe=>by injection e with e;omega)).T aZ.o;have bI:=NA aH;have bJ:E<aE:=ND bb Y.o.2.size;obtain⟨⟨u,y,A,C⟩,_⟩:=kC aH;have an:=NA (show Below j w aE from bA.o.T ⟨Y.o.2.os,Y.o.2.tape,Y.o.2.output,Y.o.2.size,λq aV=>Y.o.2.B q PJ (λe=>by injection e with e;omega)⟩);have bK:=NA (aP.o.kg (an.o.B _ (by rw[U.o];exact aP.o.lt)) an.o.size);clear aH;go_wp2_with fail;refine(Io p PJ aE bK.o).M ?_;rintro e ao ⟨Z,aa,aI,D,rfl,aJ⟩;have aK:=NA aJ;have cz:=aJ.size;clear aJ u y A C;obtain⟨ah,aL⟩:=Xq ao.heap.size;have ab:=NA (show pN j m E ah (p:Int) a b n Z aa D w (ao.alloc (.cells #[.string Z,.string aa,aI,D] 314))from⟨(Y.o.1.kh aK.o).kh (Below.alloc (Below.refl _ _) (NQ _) _),(Ot _ _ _ PJ).T ((aK.o.B E bJ).T bI.o),⟨aI,by rw[aL];exact NF ao _⟩,(an.o.T (aK.o.M (PH an.o.size))).alloc PJ _,PJ,PJ⟩);skip;go_upto_region 13 with fail;rw[<-aL];obtain⟨bL,bd⟩:=Xq (ao.alloc (.cells #[.string Z,.string aa,aI,D] 314));rw[<-bd]at ab⊢;clear bd aL;obtain⟨ac,s⟩:=ab.o.row;obtain⟨⟨u,y,A,C⟩,_⟩:=kC ab.o.ins;obtain⟨⟨F,G,I,J⟩,⟨bM,aj,ap,aq⟩⟩:=kC s;have L:=(NC.1 s).1;have M:=(NC.1 ab.o.ins).1;clear s;go_cut [29,52]from 29 to 124 (λi c P=>i=k/\(∃Q:Bool,c=.bool Q)/\P=bL);case first=>
     by_cases bN:p=30
     .subst bN;go_wp2_with fail;go_meet;exact⟨rfl,⟨_,rfl⟩,rfl⟩
     by_cases bO:p=31
     .subst bO;go_wp2_with fail;go_meet;exact⟨rfl,⟨_,rfl⟩,rfl⟩
     have cA:((p:Int)==30)=false:=PO;have cB:((p:Int)==31)=false:=PO;have cC:¬(p:Int)=30:=PJ;have cD:¬(p:Int)=31:=PJ;go_wp2_with fail;go_meet;exact⟨rfl,⟨_,rfl⟩,rfl⟩
    case rest=>
     obtain⟨rfl,⟨Q,rfl⟩,rfl⟩:=hcut;go_step;go_cut [29]from 29 to 124 (λi P=>i=k/\pN j m E ah (p:Int) a b n Z aa D w P);case first=>
      cases Q
      .go_wp2_with fail;go_meet;exact⟨rfl,ab.o⟩
      go_wp2_with fail;go_meet;exact⟨rfl,ab.o.L4 _⟩
     case rest=>
      obtain⟨rfl,be⟩:=hcut;clear ab u y A C F G I J bM aj ap aq M L;have d:=NA be;clear be;obtain⟨ac,s⟩:=d.o.row;obtain⟨⟨u,y,A,C⟩,_⟩:=kC d.o.ins;obtain⟨⟨F,G,I,J⟩,_⟩:=kC s;have L:=(NC.1 s).1;have M:=(NC.1 d.o.ins).1;have c0:=kf d.o.ht.var 0 _ rfl;obtain⟨N,T,_,_⟩:=d.o.ht.get (i:=k) PJ;clear s;have aC:(k:Int)<(m:Int)+1:=PJ;go_upto_region 15 with fail;go_cut [29,77]from 29 to 124 (λi c P=>i=k/\(∃Q:Bool,c=.bool Q)/\pN j m E ah (p:Int) a b n Z aa D w P);case first=>
       by_cases cE:N<ac
       .go_quiet (fail);go_wp2_with fail;go_meet;exact⟨rfl,⟨_,rfl⟩,d.o.to (lg (Below.refl _ _) _)⟩
       by_cases am:p=34
       .subst am;by_cases bf:N=0
        .subst bf;go_quiet (fail);go_wp2_with fail;go_meet;exact⟨rfl,⟨_,rfl⟩,d.o.to (lg (Below.refl _ _) _)⟩
        have af:(N !=0)=true:=(by simpa using bf);go_quiet (fail);go_wp2_with fail;go_meet;exact⟨rfl,⟨_,rfl⟩,d.o.to (lg (Below.refl _ _) _)⟩
       have bP:((p:Int)==34)=false:=PO;have bQ:¬(p:Int)=34:=PJ;go_quiet (fail);go_wp2_with fail;go_meet;exact⟨rfl,⟨_,rfl⟩,d.o.to (lg (Below.refl _ _) _)⟩
      case rest=>
       obtain⟨rfl,⟨Q,rfl⟩,R⟩:=hcut;clear u y A C F G I J c0 T L M;clear d;have d:=NA R;clear R;cases Q;case true=>go_wp2_with fail;refine NT (v:=.tuple #[.int .i64 0,.bool false]) ?_ rfl ⟨0,false,rfl,by have h:=d.o.kh;rw[U.o]at h;exact h⟩;simp[results,Tryz.results145,go_sem]
       case false=>
        obtain⟨ac,s⟩:=d.o.row;obtain⟨⟨u,y,A,C⟩,_⟩:=kC d.o.ins;obtain⟨⟨F,G,I,J⟩,_⟩:=kC s;have L:=(NC.1 s).1;have M:=(NC.1 d.o.ins).1;have c0:=kf d.o.ht.var 0 _ rfl;obtain⟨N,T,_,_⟩:=d.o.ht.get (i:=k) PJ;clear s;have aC:(k:Int)<(m:Int)+1:=PJ;obtain⟨aj,aA⟩:∃aj,IntKind.i64.wrap (N-ac)=aj:=⟨_,rfl⟩
        obtain⟨ap,bR⟩:∃ap,IntKind.i64.wrap (aj+D)=ap:=⟨_,rfl⟩
        have bS:IntKind.i64.wrap ((k:Int)+1)=((k+1:Nat):Int):=PN;go_upto_region 17 with fail;go_cut [10,29]from 29 to 124 (λbT i P=>(∃z:Int,bT=z)/\i=k/\pN j m E ah (p:Int) a b n Z aa D w P);case first=>go_quiet (fail);go_wp2_with fail;go_meet;exact⟨⟨_,rfl⟩,rfl,d.o.to (lg (Below.refl _ _) _)⟩
        case rest=>
         obtain⟨⟨aq,rfl⟩,rfl,R⟩:=hcut;clear u y A C F G I J L M c0 T;clear d aA bR;have d:=NA R;clear R;obtain⟨ac,s⟩:=d.o.row;obtain⟨⟨u,y,A,C⟩,_⟩:=kC d.o.ins;obtain⟨⟨F,G,I,J⟩,_⟩:=kC s;have L:=(NC.1 s).1;have M:=(NC.1 d.o.ins).1;have c0:=kf d.o.ht.var 0 _ rfl;obtain⟨cF,T,_,_⟩:=d.o.ht.get (i:=k) PJ;clear s;go_upto_region 18 with fail;go_cut [2,29]from 29 to 124 (λbU i P=>(∃z:Int,bU=z)/\i=k/\pN j m E ah (p:Int) a b n Z aa D w P);case first=>go_wp2_with fail;all_goals (go_meet;exact⟨⟨_,rfl⟩,rfl,d.o⟩)
         case rest=>
          obtain⟨⟨cG,rfl⟩,rfl,R⟩:=hcut;clear u y A C F G I J L M c0 T;clear d;have d:=NA R;clear R;obtain⟨ac,s⟩:=d.o.row;obtain⟨⟨u,y,A,C⟩,_⟩:=kC d.o.ins;obtain⟨⟨F,G,I,J⟩,_⟩:=kC s;have L:=(NC.1 s).1;have M:=(NC.1 d.o.ins).1;have c0:=kf d.o.ht.var 0 _ rfl;obtain⟨cH,T,_,_⟩:=d.o.ht.get (i:=k) PJ;clear s;go_upto_region 19 with fail;go_cut [29,110]from 29 to 124 (λi c P=>i=k/\(∃Q:Bool,c=.bool Q)/\pN j m E ah (p:Int) a b n Z aa D w P);case first=>
           by_cases bV:p=27
           .subst bV;go_wp2_with fail;go_meet;exact⟨rfl,⟨_,rfl⟩,d.o⟩
           have cI:((p:Int) !=27)=true:=PO;by_cases am:p=34
           .subst am;go_wp2_with fail;go_meet;exact⟨rfl,⟨_,rfl⟩,d.o⟩
           have bP:((p:Int) !=34)=true:=PO;have cJ:¬(p:Int)=27:=PJ;have bQ:¬(p:Int)=34:=PJ;go_wp2_with fail;refine(uo (j+1) j (m+1) (k+1) aq _ d.o.ht PJ PJ).M ?_;rintro e bW ⟨bg,rfl,ak,f⟩;have bX:=NA (d.o.grown ak f);clear ak f u y A C F G I J L M c0 T;go_wp2_with fail;go_meet;exact⟨rfl,⟨_,rfl⟩,bX.o⟩
          case rest=>
           obtain⟨rfl,⟨Q,rfl⟩,R⟩:=hcut;clear u y A C F G I J L M c0 T;clear d;have d:=NA R;clear R;cases Q;case true=>go_wp2_with fail;refine NT (v:=.tuple #[.int .i64 0,.bool false]) ?_ rfl ⟨0,false,rfl,by have h:=d.o.kh;rw[U.o]at h;exact h⟩;simp[results,Tryz.results145,go_sem]
           case false=>
            obtain⟨ac,s⟩:=d.o.row;obtain⟨⟨u,y,A,C⟩,_⟩:=kC d.o.ins;obtain⟨⟨F,G,I,J⟩,_⟩:=kC s;have L:=(NC.1 s).1;have M:=(NC.1 d.o.ins).1;have c0:=kf d.o.ht.var 0 _ rfl;obtain⟨N,T,_,_⟩:=d.o.ht.get (i:=k) PJ;clear s;go_wp2_with fail;refine(CK ⟨(p:Int),a,b,n⟩ m _ aY.o).M ?_;rintro e cK ⟨bh,bY,rfl,bi,bZ⟩;have al:=NA (d.o.to bi);clear u y A C F G I J L M c0 T;clear d bi;cases bY;case false=>
             go_wp2_with fail;refine⟨?_,?_⟩;repeat apply Exists.intro
             refine⟨?_,rfl⟩;exact⟨k+1,_,PJ,PQ,rfl,al.o.ht,al.o.kh⟩;show m-(intOf (.int .i64 ((k:Int)+1))).toNat<m-(intOf (.int .i64 (k:Int))).toNat;simp[intOf];omega
            case true=>
             obtain⟨af,D⟩:=bZ rfl;obtain⟨ca,cb⟩:∃q:Nat,bh=(q:Int):=⟨bh.toNat,PJ⟩
             subst cb;go_wp2_with fail;refine(uo (j+1) j (m+1) ca aq _ al.o.ht PJ PJ).M ?_;rintro e bW ⟨bg,rfl,ak,f⟩;have d:=NA (al.o.grown ak f);clear ak f al;cases bg;case false=>go_wp2_with fail;refine NT (v:=.tuple #[.int .i64 0,.bool false]) ?_ rfl ⟨0,false,rfl,by have h:=d.o.kh;rw[U.o]at h;exact h⟩;simp[results,Tryz.results145,go_sem]
             case true=>
              go_wp2_with fail;refine⟨?_,?_⟩;repeat apply Exists.intro
              refine⟨?_,rfl⟩;exact⟨k+1,_,PJ,PQ,rfl,d.o.ht,d.o.kh⟩;show m-(intOf (.int .i64 ((k:Int)+1))).toNat<m-(intOf (.int .i64 (k:Int))).toNat;simp[intOf];omega
   obtain rfl:k=m:=PJ;go_wp2_with fail;have aS:j<wr:=PJ;obtain⟨N,bj,_,_⟩:=W.o.get (i:=k) PJ;have cc:=NA bj;have cd:=NA W.o.var;have cL:(0:Int)<=(k:Int):=PJ;have bS:(k:Int)<(k:Int)+1:=PJ;clear bj;refine Ri (λx=>Below wr wr x) (mG [(·=t),(·=.slice (some ⟨j,0,none⟩) (k+1) (k+1)),(·=.slice ar k c),(·=k),(Pp j k),(·=N),(·=.bool (decide (N<=0))),(·=t),(·=.bool (decide (N<=0)))]) [] ((Below.refl _ _).drew) ⟨?_,?_,?_,?_,?_,?_,?_,?_,?_,trivial⟩ ?_;exact λ_ w f hf l hd hw=>.p 2 (hw 7 _ 2 rfl rfl rfl) ⟨rfl,f,Qa⟩;intro O w f hf l hd hw;exact .l 4 (hf 4 rfl) (kf ((f.B (j+1) ax).T cd.o) 0 _ rfl) ⟨rfl,f,Qa⟩;exact .f 0;intro O w f hf l hd hw;have cM:=Sv 127 l 2;exact .q (g:=⟨rfl,f,Qa⟩);intro O w f hf l hd hw;have cN:=Sv 126 l 1;have cO:=Sv 128 l 3;exact .q (g:=⟨rfl,f,Qa⟩);intro O w f hf l hd hw;have g:=(Cb j k (f.B j aS)).T cc.o;exact .l 129 (l 4 _ rfl rfl) g ⟨rfl,f,Qa⟩;intro O w f hf l hd hw;have cP:=Sv 130 l 5;exact .q (g:=⟨rfl,f,Qa⟩);exact .v 125 0;exact .v 131 6;intro aD cQ bk aM ce;have bl:aD 7=.int .i64 t:=aM 7 PM;have bm:aD 8=.bool (decide (N<=0)):=aM 8 PM;have cf:=NA bk;have cg:w<=j:=PH U.o;clear aM ce bk;simp only[kr,Act.put,NI,NL,NJ,bl,bm];clear bl bm;go_wp2_with fail;refine NT (v:=.tuple #[.int .i64 t,.bool (decide (N<=0))]) ?_ rfl ⟨t,_,rfl,(X.o.M cg).T (cf.o.M PJ)⟩;simp[results,Tryz.results145,go_sem]
theorem xB(b n:Nat)(w)(h:nb 219 w b (n*3))(hn:n<=1000):Calls prog 93 #[.slice (some ⟨b,0,none⟩) n n] w (Ga w):=by
 obtain⟨j,hi,hz0,m,p⟩:=N4 AJ;have A:∀w a n c n' d,(binOp .eql 215 (.slice a n c) (.slice none n' d)).run prog w=.ok (.bool a.isNone) w:=λw a n c n' d=>Lib.run_eql_slice_nil w _ _ a n c n' d underlying215;obtain⟨l,B,q,r⟩:=h.cells;have s:=h.lt
 go_enter func93,ntmps93
 go_wp2_with (at_builtin;refine Oo _ rfl _ _ 215 rfl w.heap.size 219 j _ 3 40 underlying215 hi hz0 m p rfl PM _ _ _ rfl (World.ownsRow_made w #[] 0 (NQ _) (NP _) rfl) ⟨b,0,none⟩ n n l rfl ?LP ?LQ ?LR ?LS ?LU ?LV ?_);case LP=>omega
 case LQ=>intro f u t;rw[kQ,NY];exact(Cb b f (Ot _ _ _ s)).T (r f u t)
 case LR=>exact q
 case LS=>unfold maxLen;omega
 case LU=>omega
 case LV=>simp
 intro v C x y D;obtain⟨i,d,rfl⟩:∃i d,v=.slice i n d:=by
  rcases x.2 with⟨e,E⟩|⟨g,F,G,e,_⟩
  exact⟨none,0,by rw[e];congr 1;omega⟩;exact⟨_,_,by rw[e]⟩
 go_wp2;go_ret;exact⟨_,_,_,rfl,((Below.refl _ w).alloc (NQ _) _).grown y PK (by intro k z;simp[Value.ownBlock]at z;omega)⟩
theorem xC(b n:Nat)(w)(h:nb 4 w b n)(hn:n<=1000):Calls prog 94 #[.slice (some ⟨b,0,none⟩) n n] w (Ga w):=by
 obtain⟨j,hi,hz0,m,p⟩:=N4 AK;have A:∀w a n c n' d,(binOp .eql 216 (.slice a n c) (.slice none n' d)).run prog w=.ok (.bool a.isNone) w:=λw a n c n' d=>Lib.run_eql_slice_nil w _ _ a n c n' d underlying216;obtain⟨l,B,q,r⟩:=h.cells;have s:=h.lt
 go_enter func94,ntmps94
 go_wp2_with (at_builtin;refine Oo _ rfl _ _ 216 rfl w.heap.size 4 j _ 1 1 underlying216 hi hz0 m p rfl PM _ _ _ rfl (World.ownsRow_made w #[] 0 (NQ _) (NP _) rfl) ⟨b,0,none⟩ n n l rfl ?LP ?LQ ?LR ?LS ?LU ?LV ?_);case LP=>omega
 case LQ=>intro f u t;rw[kQ,NY];exact(Cb b f (Ot _ _ _ s)).T (r f u t)
 case LR=>exact q
 case LS=>unfold maxLen;omega
 case LU=>omega
 case LV=>simp
 intro v C x y D;obtain⟨i,d,rfl⟩:∃i d,v=.slice i n d:=by
  rcases x.2 with⟨e,E⟩|⟨g,F,G,e,_⟩
  exact⟨none,0,by rw[e];congr 1;omega⟩;exact⟨_,_,by rw[e]⟩
 go_wp2;go_ret;exact⟨_,_,_,rfl,((Below.refl _ w).alloc (NQ _) _).grown y PK (by intro k z;simp[Value.ownBlock]at z;omega)⟩
theorem qf.unit{l}{cb m p q r:Nat}{a b c d hd own f g i nm}{n:Nat}{x j}(h:qf l cb m p q r a b c d hd own f g i nm n x)(k:x.grownBy j (some cb))(hc:∃P V:Value,j.heap[cb]?=some (.cells #[a,b,c,d,hd,own,f,g,i,P,V] 152 (0,0))):qf l cb m p q r a b c d hd own f g i nm n j:=by obtain⟨t,u,v,w,y,A⟩:=h.ne;have s:∀z,z≠cb->¬some z=some cb:=λz hz e=>hz (by injection e);exact h.to (nG.grown k (.inl rfl)) hc (h.u.kg (k.B _ h.u.lt (s _ t))) (h.f.kg (k.B _ h.f.lt (s _ u)))
theorem qf.FI{b}{cb a c d e:Nat}{f g j k hd own l m p nm}{n:Nat}{x}(h:qf b cb a c d e f g j k hd own l m p nm n x)(i:Nat){u}(hu:u.oneCell'=true):qf b cb a c d e f g j k hd own l m p nm n (x.setCell ⟨a,i,none⟩ u):=by obtain⟨P,V,hc⟩:=h.c;obtain⟨q,s,t,v,w,r⟩:=h.ne;exact h.to (nG.set (.inr (.inl rfl))) ⟨P,V,(N1 _ _ _ _ (PD q)).T hc⟩ (h.u.set i hu) (h.f.kg (N1 _ _ _ _ (PD r)))
theorem qf.Jz{b}{cb c a d e:Nat}{f g j k hd own l m p nm}{n:Nat}{x}(h:qf b cb c a d e f g j k hd own l m p nm n x)(i:Nat){u}(hu:u.oneCell'=true):qf b cb c a d e f g j k hd own l m p nm n (x.setCell ⟨a,i,none⟩ u):=by obtain⟨P,V,hc⟩:=h.c;obtain⟨s,q,t,v,w,r⟩:=h.ne;exact h.to (nG.set (.inr (.inr rfl))) ⟨P,V,(N1 _ _ _ _ (PD q)).T hc⟩ (h.u.kg (N1 _ _ _ _ r)) (h.f.set i hu)
theorem sY.start{g}{cb i j k l:Nat}{m p q r hd own s t u nm}{n:Nat}{x}(h:qf g cb i j k l m p q r hd own s t u nm n x):∃(c d:Value) (a b:List Unit),a.length<=n/\b.length<=n/\sY g cb i j k l m p q r hd own s t u nm x c d a b n false false x:=by obtain⟨c,d,hx,⟨a,e,v⟩,⟨b,f,w⟩⟩:=h.r;exact⟨c,d,a,b,v,w,h.g,h.c,h.u,h.f,⟨c,d,hx,λ_=>rfl,λ_=>rfl,⟨a,e,PJ⟩,⟨b,f,PJ⟩⟩,e,f,NQ _,h.g.size,e.ge,f.ge,h.l,h.ne⟩
theorem sY.done{c}{cb d e f g:Nat}{i j k l hd own m p q nm wr r s}{t u:List Unit}{n:Nat}{v w x}(h:sY c cb d e f g i j k l hd own m p q nm wr r s t u n v w x):qf c cb d e f g i j k l hd own m p q nm (n+1) x:=by obtain⟨a,b,hx,_,_,y,z⟩:=h.r;exact⟨h.g,h.c,h.u,h.f,⟨a,b,hx,y,z⟩,h.l,h.ne⟩
theorem sY.L5{j}{cb p q r s:Nat}{t u v w hd own y A B nm wr f C}{g D:List Unit}{n:Nat}{l E x k}(h:sY j cb p q r s t u v w hd own y A B nm wr f C g D n l E x)(I:l=false)(T:g.length<=n)(c:x.grownBy k f.ownBlock)(F:kx (xM 1) 215 1 (λ_=>False) k j f g):sY j cb p q r s t u v w hd own y A B nm wr f C g D n l E k:=by
 obtain⟨P,V,hc⟩:=h.c;obtain⟨J,K,L,M⟩:=h.l;have i:∀z,z<j.heap.size->¬some z=f.ownBlock:=λz hz e=>PH ((h.vu z e.symm).1)
 have N:=wD h.ou h.FA yr;obtain⟨a,b,hx,G,O,U,Q,m,R⟩:=h.r;have S:=wD h.ou m yr;have d:∀{z:Nat},z<x->¬some z=f.ownBlock->k.heap[z]?=x.heap[z]?:=λhz hn=>c.B _ hz hn;exact⟨⟨c.os.T h.g.os,c.tape.T h.g.tape,c.output.T h.g.output,NR h.g.size c.size,λz hz hn=>(d (ND hz h.g.size) (i z hz)).T (h.g.B z hz hn)⟩,⟨P,V,(d (NC.1 hc).1 (i _ J)).T hc⟩,h.u.kg (d h.u.lt (i _ K)),h.f.kg (d h.f.lt (i _ L)),⟨a,b,(d (NC.1 hx).1 (i _ M)).T hx,G,O,by rw[G I];exact⟨g,F,PJ⟩,⟨Q,m.turn qI (λz hz=>d (m.ge z hz).2 (λe=>S z e.symm hz)) (λ_ h=>h.elim) c.size,R⟩⟩,F,h.FA.turn qI (λz hz=>d (h.FA.ge z hz).2 (λe=>N z e.symm hz)) (λ_ h=>h.elim) c.size,NR h.s c.size,h.ws,h.vu,h.vf,h.l,h.ne⟩
theorem sY.L6{j}{cb p q r s:Nat}{t u v w hd own y A B nm wr C f}{D g:List Unit}{n:Nat}{E l x k}(h:sY j cb p q r s t u v w hd own y A B nm wr C f D g n E l x)(I:l=false)(T:g.length<=n)(c:x.grownBy k f.ownBlock)(F:kx (xM 1) 216 1 (λ_=>False) k j f g):sY j cb p q r s t u v w hd own y A B nm wr C f D g n E l k:=by
 obtain⟨P,V,hc⟩:=h.c;obtain⟨J,K,L,M⟩:=h.l;have i:∀z,z<j.heap.size->¬some z=f.ownBlock:=λz hz e=>PH ((h.vf z e.symm).1)
 have N:=wD h.FA h.ou (PD yr);obtain⟨a,b,hx,O,G,⟨Q,m,R⟩,U⟩:=h.r;have S:=wD h.FA m (PD yr);have d:∀{z:Nat},z<x->¬some z=f.ownBlock->k.heap[z]?=x.heap[z]?:=λhz hn=>c.B _ hz hn;exact⟨⟨c.os.T h.g.os,c.tape.T h.g.tape,c.output.T h.g.output,NR h.g.size c.size,λz hz hn=>(d (ND hz h.g.size) (i z hz)).T (h.g.B z hz hn)⟩,⟨P,V,(d (NC.1 hc).1 (i _ J)).T hc⟩,h.u.kg (d h.u.lt (i _ K)),h.f.kg (d h.f.lt (i _ L)),⟨a,b,(d (NC.1 hx).1 (i _ M)).T hx,O,G,⟨Q,m.turn qI (λz hz=>d (m.ge z hz).2 (λe=>S z e.symm hz)) (λ_ h=>h.elim) c.size,R⟩,by rw[G I];exact⟨g,F,PJ⟩⟩,h.ou.turn qI (λz hz=>d (h.ou.ge z hz).2 (λe=>N z e.symm hz)) (λ_ h=>h.elim) c.size,F,NR h.s c.size,h.ws,h.vu,h.vf,h.l,h.ne⟩
theorem sY.FI{f}{cb g i d j:Nat}{k l m p hd own q r s nm wr t u}{w y:List Unit}{n:Nat}{B A x}(h:sY f cb g i d j k l m p hd own q r s nm wr t u w y n B A x){v}(C:pg 215 f x v (n+1)):sY f cb g i d j k l m p hd own q r s nm wr t u w y n true A (x.setCell ⟨d,1,none⟩ v):=by
 obtain⟨P,V,hc⟩:=h.c;obtain⟨J,K,L,M⟩:=h.l;obtain⟨N,O,D,E,F,Q⟩:=h.ne;obtain⟨a,b,hx,R,G,S,I⟩:=h.r;have c:∀{z:Nat},z≠d->(x.setCell ⟨d,1,none⟩ v).heap[z]?=x.heap[z]?:=λhz=>N1 _ _ _ _ hz;have hs:x<=(x.setCell ⟨d,1,none⟩ v).heap.size:=by rw[NM];exact NQ _
 have T:=h.ws;exact⟨h.g.T (nG.set (.inr (.inr (.inr rfl)))),⟨P,V,(c (PD D)).T hc⟩,h.u.kg (c E),h.f.kg (c F),⟨v,b,ki hx,λe=>(by cases e),G,C.turn (λz _ hz _=>c PJ) hs,I.turn (λz _ hz _=>c PJ) hs⟩,h.ou.turn qI (λz hz=>c (PH ((h.vu z hz).1))) (λ_ h=>h.elim) hs,h.FA.turn qI (λz hz=>c (PH ((h.vf z hz).1))) (λ_ h=>h.elim) hs,by rw[NM];exact h.s,h.ws,h.vu,h.vf,h.l,h.ne⟩
theorem sY.Jz{f}{cb g i d j:Nat}{k l m p hd own q r s nm wr t u}{w y:List Unit}{n:Nat}{A B x}(h:sY f cb g i d j k l m p hd own q r s nm wr t u w y n A B x){v}(C:pg 216 f x v (n+1)):sY f cb g i d j k l m p hd own q r s nm wr t u w y n A true (x.setCell ⟨d,2,none⟩ v):=by
 obtain⟨P,V,hc⟩:=h.c;obtain⟨J,K,L,M⟩:=h.l;obtain⟨N,O,D,E,F,Q⟩:=h.ne;obtain⟨a,b,hx,G,R,I,S⟩:=h.r;have c:∀{z:Nat},z≠d->(x.setCell ⟨d,2,none⟩ v).heap[z]?=x.heap[z]?:=λhz=>N1 _ _ _ _ hz;have hs:x<=(x.setCell ⟨d,2,none⟩ v).heap.size:=by rw[NM];exact NQ _
 have T:=h.ws;exact⟨h.g.T (nG.set (.inr (.inr (.inr rfl)))),⟨P,V,(c (PD D)).T hc⟩,h.u.kg (c E),h.f.kg (c F),⟨a,v,ki hx,G,λe=>(by cases e),I.turn (λz _ hz _=>c PJ) hs,C.turn (λz _ hz _=>c PJ) hs⟩,h.ou.turn qI (λz hz=>c (PH ((h.vu z hz).1))) (λ_ h=>h.elim) hs,h.FA.turn qI (λz hz=>c (PH ((h.vf z hz).1))) (λ_ h=>h.elim) hs,by rw[NM];exact h.s,h.ws,h.vu,h.vf,h.l,h.ne⟩
theorem sY.Ln{g}{cb i j k l:Nat}{m p q r hd own s t u nm wr c v}{w y:List Unit}{n:Nat}{z A x a}(h:sY g cb i j k l m p q r hd own s t u nm wr c v w y n z A x)(d:x.grownBy a c.ownBlock):x.heap.size<=a/\∀b,Nw wr x b->a.heap[b]?=x.heap[b]?:=
 ⟨d.size,λb f=>d.B b f.2 (λe=>PI ((h.vu b e.symm).2) f.1)⟩
theorem sY.Lp{g}{cb i j k l:Nat}{m p q r hd own s t u nm wr v c}{w y:List Unit}{n:Nat}{z A x a}(h:sY g cb i j k l m p q r hd own s t u nm wr v c w y n z A x)(d:x.grownBy a c.ownBlock):x.heap.size<=a/\∀b,Nw wr x b->a.heap[b]?=x.heap[b]?:=
 ⟨d.size,λb f=>d.B b f.2 (λe=>PI ((h.vf b e.symm).2) f.1)⟩
theorem Ci{a c b:Value}{x:World}{lo:Nat}(h:ub a b)(hw:c.ownBlock=a.ownBlock\/∃z,c.ownBlock=some z/\x<=z)(d:∀z,b.ownBlock=some z->lo<=z/\z<x):ub c b:=λz hz e=>by
 rcases hw with hw|⟨q,f,hs⟩
 exact h z (hw▸hz) e;rw[f]at hz;injection hz with hz;have:=(d z e).2;omega
theorem Cj{a b c:Value}{x:World}{lo:Nat}(h:ub a b)(hw:c.ownBlock=b.ownBlock\/∃z,c.ownBlock=some z/\x<=z)(d:∀z,a.ownBlock=some z->lo<=z/\z<x):ub a c:=λz hz e=>by
 rcases hw with hw|⟨q,f,hs⟩
 exact h z hz (hw▸e);rw[f]at e;injection e with e;have:=(d z hz).2;omega
theorem sO.up{a x V}{n m:Nat}(h:sO a x V n)(hm:n<=m):sO a x V m:=by obtain⟨xs,b,c⟩:=h;exact⟨xs,b,NR c hm⟩
theorem ry.up{a}{cb:Nat}{b c d e hd own P V f g i}{j k l:Nat}{m n p:Nat}{x}(h:ry a cb b c d e hd own P V f g i j k l x)(q:j<=m)(r:k<=n)(s:l<=p):ry a cb b c d e hd own P V f g i m n p x:=⟨h.g,h.c,h.r6.up q,h.r7.up r,h.r8.up s,h.d,h.lt⟩
theorem ry.L8{d}{cb:Nat}{e f g i hd own P V j k l}{r n p:Nat}{c}{n':Nat}{m x a}(h:ry d cb e f g i hd own P V j k l r n p x)(s:d.grownBy a (some cb))(hc:a.heap[cb]?=some (.cells #[e,f,g,i,hd,own,c,k,l,P,V] 152 (0,0)))(t:kx kA 9 1 (λ_=>False) a d c m)(u:m.length<=n')(hw:c.ownBlock=j.ownBlock\/∃z,c.ownBlock=some z/\x<=z)(hs:x.heap.size<=a)(q:∀b,b<x.heap.size->b≠cb->some b≠j.ownBlock->a.heap[b]?=x.heap[b]?):ry d cb e f g i hd own P V c k l n' n p a:=
 ⟨s,hc,⟨m,t,u⟩,h.r7.turn h.lt hs q (zA (h.d.1)),h.r8.turn h.lt hs q (zA (h.d.2.1)),⟨Ci h.d.1 hw (h.r7.lt),Ci h.d.2.1 hw (h.r8.lt),h.d.2.2⟩,h.lt⟩
theorem ry.L9{d}{cb:Nat}{e f g i hd own P V j k l}{n r p:Nat}{c}{n':Nat}{m x a}(h:ry d cb e f g i hd own P V j k l n r p x)(s:d.grownBy a (some cb))(hc:a.heap[cb]?=some (.cells #[e,f,g,i,hd,own,j,c,l,P,V] 152 (0,0)))(t:kx kA 9 1 (λ_=>False) a d c m)(u:m.length<=n')(hw:c.ownBlock=k.ownBlock\/∃z,c.ownBlock=some z/\x<=z)(hs:x.heap.size<=a)(q:∀b,b<x.heap.size->b≠cb->some b≠k.ownBlock->a.heap[b]?=x.heap[b]?):ry d cb e f g i hd own P V j c l n n' p a:=
 ⟨s,hc,h.r6.turn h.lt hs q (Ch (h.d.1)),⟨m,t,u⟩,h.r8.turn h.lt hs q (zA (h.d.2.2)),⟨Cj h.d.1 hw (h.r6.lt),h.d.2.1,Ci h.d.2.2 hw (h.r8.lt)⟩,h.lt⟩
theorem ry.JA{d}{cb:Nat}{e f g i hd own P V j k l}{n p r:Nat}{c}{n':Nat}{m x a}(h:ry d cb e f g i hd own P V j k l n p r x)(s:d.grownBy a (some cb))(hc:a.heap[cb]?=some (.cells #[e,f,g,i,hd,own,j,k,c,P,V] 152 (0,0)))(t:kx kA 9 1 (λ_=>False) a d c m)(u:m.length<=n')(hw:c.ownBlock=l.ownBlock\/∃z,c.ownBlock=some z/\x<=z)(hs:x.heap.size<=a)(q:∀b,b<x.heap.size->b≠cb->some b≠l.ownBlock->a.heap[b]?=x.heap[b]?):ry d cb e f g i hd own P V j k c n p n' a:=
 ⟨s,hc,h.r6.turn h.lt hs q (Ch (h.d.2.1)),h.r7.turn h.lt hs q (Ch (h.d.2.2)),⟨m,t,u⟩,⟨h.d.1,Cj h.d.2.1 hw (h.r6.lt),Cj h.d.2.2 hw (h.r7.lt)⟩,h.lt⟩
def J7(S:Nat->Prop)(w:World)(cb:Nat)(j k l m hd:Value)(n:List (List UInt8))(e:Ending)(w':World):Prop:=
 ∃f g i:Value,e=.returned (.agg #[f,g,i])/\km kA S w f n/\g.oneCell'=true/\i.oneCell'=true/\w.grownBy w' (some cb)/\∃a b c d P V:Value,w'.heap[cb]?=some (.cells #[j,k,l,m,hd,a,b,c,d,P,V] 152 (0,0))
theorem sO.strs{a x V}{n:Nat}(h:sO a x V n)(hn:n<=1000):nU (λq=>a<=q/\q<x) x V:=by obtain⟨xs,b,f⟩:=h;obtain⟨e,c,rfl,_⟩:=b.form;exact⟨e,_,c,xs,rfl,(b.sl kA.ok).M kA.ok (λq d=>⟨by rcases d.1 with h|h;exact h.elim;exact h,d.2⟩),PJ⟩
theorem pg.app{T b a x c V d}{n:Nat}{i:List Unit}(h:pg T a x V n)(j:kx (xM 1) b 1 (λ_=>False) x a d i)(k:T≠b)(f:x.grownBy c d.ownBlock):pg T a c V n:=by obtain⟨l,g,m⟩:=h;have p:=wD g j k;exact pg.turn ⟨l,g,m⟩ (λz hz _ q=>f.B z q (λe=>p z hz e.symm)) f.size
def xN(S:Nat->Prop)(w:World)(b:Nat)(d:List (List (List UInt8))):Prop:=∃(a:Option Addr) (n c:Nat),w.heap[b]?=some (.cells #[.slice a n c] 156 (0,0))/\km BW S w (.slice a n c) d
def J8(S:Nat->Prop)(w:World)(b:List (List (List UInt8)))(e:Ending)(w':World):Prop:=∃a:Nat,e=.returned (.tuple #[.pointer (some ⟨a,0,none⟩),.int .i64 0])/\Below w w w'/\(w<=a/\a<w')/\xN (λq=>S q\/(w<=q/\q<w')) w' a b
theorem xJ.app{g wr}{cb i:Nat}{P l m n r hd V xs x j}(h:xJ g wr cb i P l m n r hd V xs x)(f:x.grownBy j V.ownBlock)(s:kx BW 160 3 P j g V xs):xJ g wr cb i P l m n r hd V xs j:=by
 obtain⟨t,u,v⟩:=h.lt;obtain⟨a,b,c,d,e,p,q,hc⟩:=h.c;have k:∀z,z<g.heap.size->¬some z=V.ownBlock:=λz hz e=>PH ((h.v z e.symm).1)
 exact⟨⟨f.os.T h.g.os,f.tape.T h.g.tape,f.output.T h.g.output,NR h.g.size f.size,λz hz hn=>(f.B z (ND hz h.g.size) (k z hz)).T (h.g.B z hz hn)⟩,⟨a,b,c,d,e,p,q,(f.B cb (NC.1 hc).1 (k _ t)).T hc⟩,(f.B i (NC.1 h.p).1 (k _ u)).T h.p,s,NR h.s f.size,h.v,h.ws,h.lt,h.np⟩
theorem ov.up{B b k m:Nat}{n:Int}{w}(h:ov B b n k w)(hm:k<=m):ov B b n m w:=by obtain⟨l,h,a⟩:=h;exact⟨l,h,NR a (Oz _ hm)⟩
def pR(B b:Nat)(n:Int)(k:Nat)(w:World)(e:Ending)(w':World):Prop:=e=.returned (.tuple #[])/\ov B b n k w'/\kO B b w w'
def sR(w:World)(b n:Nat):Prop:=∃a:List ByteArray,a.length=n/\(∀s∈a,s.size<=2520)/\w.heap[b]?=some (.cells (a.map Value.string).toArray 9 (0,0))
theorem sR.lt{w}{b n:Nat}(h:sR w b n):b<w:=by obtain⟨_,_,_,h⟩:=h;exact(NC.1 h).1
theorem sR.kg{w w'}{b n:Nat}(h:sR w b n)(a:w'.heap[b]?=w.heap[b]?):sR w' b n:=by obtain⟨c,d,e,f⟩:=h;exact⟨c,d,e,a.T f⟩
theorem sR.get{w}{b n:Nat}(h:sR w b n){i:Nat}(hi:i<n):(∃s:ByteArray,s.size<=2520/\w.cell? ⟨b,i,none⟩=some (.string s))/\w.frozen? ⟨b,i,none⟩=false:=by obtain⟨c,d,e,a⟩:=h;exact⟨⟨c[i],e _ (List.getElem_mem _),kf a i _ (by simp[d,hi])⟩,ko a i⟩
theorem sR.set{w}{b n:Nat}(h:sR w b n)(i:Nat){s}(hs:s.size<=2520):sR (w.setCell ⟨b,i,none⟩ (.string s)) b n:=by obtain⟨a,c,d,e⟩:=h;refine⟨a.set i s,by simpa using c,λx hx=>?_,?_⟩;rcases List.mem_or_eq_of_mem_set hx with h|h;exact d x h;rw[h];exact hs;have:=ki (i:=i) (u:=.string s) e;rw[this];simp[List.map_set]
theorem sR.made{w}{b n:Nat}(h:w.heap[b]?=some (.cells (madeCells #[Em] n) 9 (0,0))):sR w b n:=by
 refine⟨List.replicate n ⟨#[]⟩,PK,λs hs=>by rw[List.eq_of_mem_replicate hs];decide,?_⟩;rw[h];have e:madeCells #[Value.string ⟨#[]⟩] n=((List.replicate n (⟨#[]⟩:ByteArray)).map Value.string).toArray:=by apply Array.ext';rw[List.map_replicate];refine List.eq_replicate_iff.2 ⟨by rw[O8,Pn],λu hu=>?_⟩;have:=wN _ n PK u hu;simpa using this
 rw[e]
theorem kO.alloc{B b:Nat}{w}(a:B<=w.heap.size)(o):kO B b w (w.alloc o):=.old a (Ba _ _)
theorem pR.up{B b k a:Nat}{n:Int}{w e w'}(h:pR B b n k w e w')(c:k<=a):pR B b n a w e w':=⟨h.1,h.2.1.up c,h.2.2⟩
theorem ox{l}(a:mI l=true):l.length<=12:=by unfold mI at a;simp only[OD,Pg]at a;omega
theorem Bz(B b:Nat)(n:Int)(w)(h:rC B b n [] w):
  Calls prog 41 #[.pointer (some ⟨b,0,none⟩)] w λe w'=>e=.returned (.string .empty)/\Below B w w':=by
 obtain⟨p,j,v,a,k⟩:=h.any;have l:B<=w:=NR j (N9 (NC.1 a).1);have c1:w.drew.cell? ⟨b,1,none⟩=some v:=kf (w:=w.drew) a 1 _ rfl;rcases k.2 with⟨rfl,_⟩|⟨g,c,d,rfl,r,m,s,t,u,x⟩
 .have f:(Builtin.unsafeSliceData_ #[22] 205 #[Nl]).run prog w.drew=.ok (.pointer none) w.drew:=Lib.run_unsafeSliceData_nil _ _ _ _ _;have i:(Builtin.unsafeString_ #[205,3] 9 #[.pointer none,.int .i64 0]).run prog w.drew=.ok (.string .empty) w.drew:=Lib.run_unsafeString_none _ _ _ _ _
  go_enter func41,ntmps41
  go_wp2
  go_region
  all_goals (go_wp2;go_ret;exact⟨rfl,Below.drew (Below.refl B w)⟩)
 .by_cases hc:c=0
  .subst hc;have q:w.drew.heap[g]?=some (.cells d 5 (0,0)):=m;have f:(Builtin.unsafeSliceData_ #[22] 205 #[.slice (some ⟨g,0,none⟩) 0 0]).run prog w.drew=.ok (.pointer (some ⟨w,0,none⟩)) (w.drew.alloc (.view ⟨g,0,none⟩ 5)):=
    Lib.run_unsafeSliceData_zero _ _ _ _ PL _ _ (5,d.size) (by simp[World.shape?,q])
   have c2:(w.alloc (.view ⟨g,0,none⟩ 5)).cell? ⟨b,1,none⟩=some (.slice (some ⟨g,0,none⟩) 0 0):=kf ((N6 w _ (NC.1 a).1).T a) 1 _ rfl;have i:(Builtin.unsafeString_ #[205,3] 9 #[.pointer (some ⟨w,0,none⟩),.int .i64 0]).run prog (w.alloc (.view ⟨g,0,none⟩ 5)).drew=.ok (.string .empty) (w.alloc (.view ⟨g,0,none⟩ 5)).drew:=Lib.run_unsafeString_none _ _ _ _ _
   go_enter func41,ntmps41
   go_wp2
   go_region
   all_goals (go_wp2;go_ret;exact⟨rfl,(Below.drew (Below.refl B w)).alloc l _⟩)
  have f:(Builtin.unsafeSliceData_ #[22] 205 #[.slice (some ⟨g,0,none⟩) 0 c]).run prog w.drew=.ok (.pointer (some ⟨g,0,none⟩)) w.drew:=Lib.run_unsafeSliceData_row _ _ _ _ _ _ hc;have i:(Builtin.unsafeString_ #[205,3] 9 #[.pointer (some ⟨g,0,none⟩),.int .i64 0]).run prog w.drew=.ok (.string .empty) w.drew:=Lib.run_unsafeString_none _ _ _ _ _
  go_enter func41,ntmps41
  go_wp2
  go_region
  all_goals (go_wp2;go_ret;exact⟨rfl,Below.drew (Below.refl B w)⟩)
def qB{a:Type}(R:Rel a)(x:a)(w:World)(e:Ending)(w':World):Prop:=∃r:List Value,e=.returned (.agg r.toArray)/\R (Nw w w') w' r x/\Below w w w'
theorem kz.opn{d:Nat}{S w r x}(h:kz .u8 d S w r x):∃a b c1,r=[.int .u8 x.op,tx x.name,.int .i64 x.n,.slice a b c1]:=by
 cases d with
 |zero=>exact h.elim
 |succ d=>obtain⟨v,rfl,e⟩:=h;obtain⟨f,c,rfl,_⟩:=e.form;exact⟨_,_,_,rfl⟩
theorem kE.opn{d:Nat}{S w r x}(h:kE .u8 d S w r x):∃b e c1 f g i j k l,r=[.int .u8 x.kind,tx x.name,tx x.hd,.slice b e c1,.slice f g i,.slice j k l]:=by
 cases d with
 |zero=>exact h.elim
 |succ d=>obtain⟨q,s,t,rfl,m,n,p⟩:=h;obtain⟨a,c,rfl,_⟩:=m.form;obtain⟨a,c,rfl,_⟩:=n.form;obtain⟨a,c,rfl,_⟩:=p.form;exact⟨_,_,_,_,_,_,_,_,_,rfl⟩
theorem mo.opn{S w r x}(h:mo .u8 S w r x):∃a b c1 c d e,r=[tx x.name,.slice a b c1,.slice c d e]:=by obtain⟨a,b,c1,f,g,c2,h,_⟩:=h.qH;exact⟨a,b,c1,f,g,c2,h⟩
theorem mB.opn{S w r x}(h:mB .u8 S w r x):∃a b c1,r=[.slice a b c1]:=by obtain⟨a,b,c1,h,_⟩:=h.qH;exact⟨a,b,c1,h⟩
theorem mg.opn{S w r x}(h:mg .u8 S w r x):∃a b c1 c d e,r=[tx x.name,.slice a b c1,.slice c d e]:=by obtain⟨a,b,c1,f,g,c2,h,_⟩:=h.qH;exact⟨a,b,c1,f,g,c2,h⟩
theorem Iu:(prog.info? 190).map (λi=>(i.zero,i.size,i.bytes))=some (some (.agg #[.int .u8 0,Em,.int .i64 0,Nl]),4,56):=PL
theorem GL(n:Nat)(hn:n<=1000)(w):(Instr.makeSlice 183 (.int .i64 (n:Int)) (.int .i64 (n:Int))).run prog w=.ok (.slice (some ⟨w,0,none⟩) n n) (w.alloc (.cells (madeCells #[.int .u8 0,Em,.int .i64 0,Nl] (n*4)) 190)):=by obtain⟨b,c,d,a,e⟩:=N4 Iu;have:=O9 (P:=prog) w 183 190 b _ underlying183 c d .i64 .i64 (n:Int) (n:Int) PJ (Pb _) (by rw[a];simp;omega) (by rw[e];omega) PJ;rw[a,Oq]at this;exact this
theorem Iw:(prog.info? 185).map (λi=>(i.zero,i.size,i.bytes))=some (some (.agg #[.int .u8 0,Em,Em,Nl,Nl,Nl]),6,112):=PL
theorem GM(n:Nat)(hn:n<=1000)(w):(Instr.makeSlice 115 (.int .i64 (n:Int)) (.int .i64 (n:Int))).run prog w=.ok (.slice (some ⟨w,0,none⟩) n n) (w.alloc (.cells (madeCells #[.int .u8 0,Em,Em,Nl,Nl,Nl] (n*6)) 185)):=by obtain⟨b,c,d,a,e⟩:=N4 Iw;have:=O9 (P:=prog) w 115 185 b _ underlying115 c d .i64 .i64 (n:Int) (n:Int) PJ (Pb _) (by rw[a];simp;omega) (by rw[e];omega) PJ;rw[a,Oq]at this;exact this
theorem Ix:(prog.info? 118).map (λi=>(i.zero,i.size,i.bytes))=some (some (.agg #[Em,Nl,Nl]),3,64):=PL
theorem GN(n:Nat)(hn:n<=1000)(w):(Instr.makeSlice 109 (.int .i64 (n:Int)) (.int .i64 (n:Int))).run prog w=.ok (.slice (some ⟨w,0,none⟩) n n) (w.alloc (.cells (madeCells #[Em,Nl,Nl] (n*3)) 118)):=by obtain⟨b,c,d,a,e⟩:=N4 Ix;have:=O9 (P:=prog) w 109 118 b _ underlying109 c d .i64 .i64 (n:Int) (n:Int) PJ (Pb _) (by rw[a];simp;omega) (by rw[e];omega) PJ;rw[a,Oq]at this;exact this
theorem Iz:(prog.info? 105).map (λi=>(i.zero,i.size,i.bytes))=some (some (.agg #[Em,Nl,Nl]),3,64):=PL
theorem GQ(n:Nat)(hn:n<=1000)(w):(Instr.makeSlice 40 (.int .i64 (n:Int)) (.int .i64 (n:Int))).run prog w=.ok (.slice (some ⟨w,0,none⟩) n n) (w.alloc (.cells (madeCells #[Em,Nl,Nl] (n*3)) 105)):=by obtain⟨b,c,d,a,e⟩:=N4 Iz;have:=O9 (P:=prog) w 40 105 b _ underlying40 c d .i64 .i64 (n:Int) (n:Int) PJ (Pb _) (by rw[a];simp;omega) (by rw[e];omega) PJ;rw[a,Oq]at this;exact this
theorem qg{w:World}{b:Nat}{a0 a c d:Value}{T:TypeId}(h:w.heap[b]?=some (.cells #[a0,a,c,d] T (0,0))):(w.cell? ⟨b,0,none⟩=some a0/\w.cell? ⟨b,1,none⟩=some a/\w.cell? ⟨b,2,none⟩=some c/\w.cell? ⟨b,3,none⟩=some d)/\w.frozen? ⟨b,0,none⟩=false/\w.frozen? ⟨b,1,none⟩=false/\w.frozen? ⟨b,2,none⟩=false/\w.frozen? ⟨b,3,none⟩=false:=
 ⟨⟨kf h 0 _ rfl,kf h 1 _ rfl,kf h 2 _ rfl,kf h 3 _ rfl⟩,ko h 0,ko h 1,ko h 2,ko h 3⟩
def JB(d:Nat):Prop:=∀(S:Nat->Prop) (w:World) (r:List Value) (x:Ex),kz .u8 d S w r x->(∀q,S q->q<w)->ml d x->Calls prog 148 #[.agg r.toArray] w (qB (kz .u8 d) x w)
theorem GV(x k:Int)(a:Nat)(c:a<=31)(d:bits BinOp.and IntKind.u64 (IntKind.u64.wrap k) 31=(a:Int))(w):Calls prog 182 #[.int .u32 x,k] w λe w'=>∃b:Int,e=.returned (.int .u32 b)/\w'=w:=by
 have f:IntKind.u64.wrap (32-(a:Int))=32-(a:Int):=PN
 go_enter func182,ntmps182
 go_wp2;go_ret;exact⟨_,rfl,rfl⟩
theorem nZ(x k:Int)(a:k∈[7,18,17,19,6,11,25,2,13,22])(w):Calls prog 149 #[.int .u32 x,k] w λe w'=>∃b:Int,e=.returned (.int .u32 b)/\w'=w:=by
 have h:JF k<=31/\bits BinOp.and IntKind.u64 (IntKind.u64.wrap (-k)) 31=(JF k:Int):=by simp only[Oa,N7,Ow]at a;rcases a with rfl|rfl|rfl|rfl|rfl|rfl|rfl|rfl|rfl|rfl<;>decide+kernel
 have d: -100<=k/\k<=100:=by simp only[Oa,N7,Ow]at a;omega
 have hw:IntKind.i64.wrap (-k)= -k:=PN
 have c:=(λw=>GV x (-k) (JF k) h.1 h.2 w)
 go_enter func149,ntmps149
 go_wp2_with fail;refine(c _).M ?_;rintro e w' ⟨b,rfl,rfl⟩;go_wp2_with fail;go_ret;exact⟨_,rfl,rfl⟩
theorem oK.set{k b:IntKind}{c}{o n:Nat}(h:oK k c o n)(a:Nat)(x:Int)(d:a<o\/o+n<=a\/b=k):oK k (c.setIfInBounds a (.int b x)) o n:=λi hi=>by
 obtain⟨f,hy⟩:=h i hi;by_cases e:o+i=a;obtain rfl:b=k:=by rcases d with h|h|h;omega;omega;exact h
 subst e;exact⟨x,by rw[Array.getElem?_setIfInBounds_self_of_lt (NC.1 hy).1]⟩;exact⟨f,by rw[OH (PD e)];exact hy⟩
def oX(w:World)(b n:Nat):Prop:=∃a:Array Value,w.heap[b]?=some (.cells a 5 (0,0))/\a.size=n/\oK .u8 a 0 n
theorem oX.get{w}{b n:Nat}(h:oX w b n){i:Nat}(hi:i<n):∃x:Int,w.cell? ⟨b,i,none⟩=some (.int .u8 x)/\w.frozen? ⟨b,i,none⟩=false/\∀a:Int,oX (w.setCell ⟨b,i,none⟩ (.int .u8 a)) b n:=by obtain⟨e,c,f,d⟩:=h;obtain⟨x,hx⟩:=d i hi;rw[NY]at hx;exact⟨x,kf c i _ hx,ko c i,λa=>⟨e.setIfInBounds i (.int .u8 a),ki c,by simpa using f,d.set i a (.inr (.inr rfl))⟩⟩
def lS(T:TypeId)(w:World)(b n:Nat):Prop:=∃a:Array Value,w.heap[b]?=some (.cells a T (0,0))/\a.size=n/\oK .u32 a 0 n
theorem lS.get{T w}{b n:Nat}(h:lS T w b n){i:Nat}(hi:i<n):∃x:Int,w.cell? ⟨b,i,none⟩=some (.int .u32 x)/\w.frozen? ⟨b,i,none⟩=false/\∀a:Int,lS T (w.setCell ⟨b,i,none⟩ (.int .u32 a)) b n:=by obtain⟨e,c,f,d⟩:=h;obtain⟨x,hx⟩:=d i hi;rw[NY]at hx;exact⟨x,kf c i _ hx,ko c i,λa=>⟨e.setIfInBounds i (.int .u32 a),ki c,by simpa using f,d.set i a (.inr (.inr rfl))⟩⟩
def mH(w:World)(b:Nat):Prop:=∃a:Array Value,w.heap[b]?=some (.cells a 230 (0,0))/\a.size=73/\oK .u32 a 0 8/\oK .u8 a 8 64/\∃t:Int,a[72]?=some (.int .u64 t)/\0<=t
theorem mH.byte{w}{b:Nat}(h:mH w b){i:Nat}(hi:i<64):∃x:Int,w.cell? ⟨b,8+i,none⟩=some (.int .u8 x):=by obtain⟨d,a,_,_,c,_⟩:=h;obtain⟨x,hx⟩:=c i hi;exact⟨x,kf a _ _ hx⟩
theorem DU(w):(sizeOf (prog.elem 228)).run prog w=.ok 1 w:=PL
theorem CZ(b k:Nat)(d:k<16)(w):(Instr.sliceAt 228 (.pointer (some ⟨b,8,none⟩)) (some (.int .i64 (4*(k:Int)))) (some (.int .i64 (4*(k:Int)+4))) none).run prog w=.ok (.slice (some ⟨b,8+4*k,none⟩) 4 (64-4*k)) w:=by
 have a:(4*(k:Int)).toNat=4*k:=PJ
 have c:(4*(k:Int)+4).toNat=4*k+4:=PJ
 rw[run_sliceAt_array_lh w 228 ⟨b,8,none⟩ Gd .i64 .i64 _ _ PJ PJ (by rw[zm];omega),DU,zm,a,c];simp only[N8,slicedAt];rw[Od PJ];simp[kQ]
def DV(w:World)(b:Nat)(e:Ending)(w':World):Prop:=e=.returned (.tuple #[])/\w.grownBy w' (some b)/\mH w' b
theorem lS.set{T w}{b n:Nat}(h:lS T w b n)(i:Nat)(hi:i<n)(x:Int):lS T (w.setCell ⟨b,i,none⟩ (.int .u32 x)) b n:=by obtain⟨_,_,_,hs⟩:=h.get hi;exact hs x
def FB(b:Nat)(w:World)(c:Option Addr)(n:Nat):Prop:=0<n->∃p o,c=some ⟨p,o,none⟩/\p≠b/\p<w/\∀a,a<n->∃x:Int,w.cell? ⟨p,o+a,none⟩=some (.int .u8 x)
def pB(T:TypeId)(w:World)(b n:Nat):Prop:=∃a:Array Value,w.heap[b]?=some (.cells a T (0,0))/\a.size=n/\oK .u8 a 0 n
theorem pB.zero{T w}{b:Nat}(h:w.heap[b]?=some (.cells sS T (0,0))):pB T w b 32:=by rw[zero32]at h;exact⟨_,h,PK,λi hi=>⟨0,by simp[hi]⟩⟩
end Go.Proofs.YtfemcncookpdhaaGreatDoor
namespace lX
def Fw:Nat->St->Prop
 |0,_=>False
 |d+1,s=>(∀e∈s.kV,HA De e)/\(∀x∈s.th,Fw d x)/\∀x∈s.el,Fw d x
def xI:Nat->Nat
 |0=>0
 |d+1=>12*(3+2*xI d)
end lX
namespace Go.Proofs.YtfemcncookpdhaaGreatDoor
open Go.RowKit lX Go.Proofs.Tryz
def Au(d:Nat):Prop:=∀(S:Nat->Prop) (B b n k:Nat) (w:World) (a:Option Addr) (m c:Nat) (l:List St),lH w->Jr B->ov B b (n:Int) k w->km (kE .u8 d) S w (.slice a m c) l->(∀s∈l,nB d s/\Fw d s)->m<=12->Dr S B b w->n+2*d<=90->k+xI d<=90000000->
 Calls prog 146 #[.pointer (some ⟨b,0,none⟩),.slice a m c] w (pR B b (n:Int) (k+xI d) w)
def Jn(d:Nat):Prop:=∀(S:Nat->Prop) (B b n k:Nat) (w:World) (s:ByteArray) (a:Option Addr) (m c:Nat) (l:List St),lH w->Jr B->ov B b (n:Int) k w->km (kE .u8 d) S w (.slice a m c) l->(∀s∈l,nB d s/\Fw d s)->m<=12->Dr S B b w->n+2*d<=90->k+(3+xI d)<=90000000->s.size<=20000->
 Calls prog 206 #[.pointer (some ⟨b,0,none⟩),.string s,.slice a m c] w (pR B b (n:Int) (k+(3+xI d)) w)
def Jo(d:Nat):Prop:=∀(S:Nat->Prop) (B b n k:Nat) (w:World) (s:St) (a:Option Addr) (c c1:Nat) (e:Option Addr) (f c4:Nat) (g:Option Addr) (i c5:Nat),lH w->Jr B->ov B b (n:Int) k w->km (kz .u8 De) S w (.slice a c c1) s.kV->km (kE .u8 d) S w (.slice e f c4) s.th->km (kE .u8 d) S w (.slice g i c5) s.el->nB (d+1) s->Fw (d+1) s->Dr S B b w->n+2*d<=90->k+(3+2*xI d)<=90000000->
 Calls prog 181 #[.pointer (some ⟨b,0,none⟩),.agg #[.int .u8 s.kind,tx s.name,tx s.hd,.slice a c c1,.slice e f c4,.slice g i c5]] w (pR B b (n:Int) (k+(3+2*xI d)) w)
theorem Gb:xI Ds=519300:=PM
structure ML(c:Co):Prop where
 vars:∀v∈c.vars,0<=v.init/\v.init<100
 kY:∀hs∈c.kY,∀h∈hs,∀s∈h.body,Fw Ds s
end Go.Proofs.YtfemcncookpdhaaGreatDoor
namespace Go.Proofs.YtfemcncookpdhaaGreatDoor
open Go.RowKit Go.Proofs.Tryz
def lC(w:World)(b:Nat):Nat->List Value->World
 |_,[]=>w
 |o,u::us=>lC (w.setCell ⟨b,o,none⟩ u) b (o+1) us
theorem rW{b:Nat}{T t}:∀{r m l:List Value} {w:World},m.length=r.length->w.heap[b]?=some (.cells (l++(m++t)).toArray T (0,0))->(lC w b l.length r).heap[b]?=some (.cells (l++(r++t)).toArray T (0,0))
 |[],[],_,_,_,h=>h
 |[],_::_,_,_,h,_=>by simp at h
 |_::_,[],_,_,h,_=>by simp at h
 |u::r,v::m,l,w,hl,h=>by
  have a:=ki (i:=l.length) (u:=u) h;have e:((l++(v::m++t)).toArray.setIfInBounds l.length u)=((l++[u])++(m++t)).toArray:=by rw[NI,List.set_append_right _ _ (NQ _)];simp
  rw[e]at a;have:=rW (r:=r) (m:=m) (l:=l++[u]) (by simpa using hl) a;rw[N2]at this;simp only[lC];rw[show l.length+1=l.length+[u].length from rfl,this];simp
theorem nP{b q:Nat}(a:q≠b):∀{r:List Value} {o:Nat} {w:World},(lC w b o r).heap[q]?=w.heap[q]?
 |[],_,_=>rfl
 |u::r,o,w=>(nP a (r:=r)).T (N1 _ _ _ _ a)
theorem nh{b:Nat}:∀{r:List Value} {o:Nat} {w:World},(lC w b o r).heap.size=w
 |[],_,_=>rfl
 |u::r,o,w=>(nh (r:=r)).T (NM _ _ _)
theorem lF{lo b:Nat}(a:lo<=b){w0}:∀{r:List Value} {o:Nat} {w:World},Below lo w0 w->Below lo w0 (lC w b o r)
 |[],_,_,h=>h
 |u::r,o,w,h=>lF a (r:=r) (h.setCell (p:=⟨b,o,none⟩) a _)
structure mm{α:Type}(R:Rel α)(T k:Nat)(B:Nat)(w:World)(b n:Nat)(xs:List α):Prop where
 ex:∃(rows:List (List Value)) (cs:List Value),w.heap[b]?=some (.cells (rows.flatten++cs).toArray T (0,0))/\xs.length*k+cs.length=n*k/\kZ (R (λq=>B<=q/\q<w/\q≠b) w) rows xs
theorem mm.start{c:Type}(R:Rel c){T k B:Nat}{w}{b n:Nat}{a}(h:w.heap[b]?=some (.cells a T (0,0)))(hs:a.size=n*k):mm R T k B w b n []:=⟨[],a.toList,by simpa using h,by simpa using hs,trivial⟩
theorem mm.lt{a:Type}{R:Rel a}{T k B:Nat}{w}{b n:Nat}{xs:List a}(h:mm R T k B w b n xs):b<w:=by obtain⟨d,e,c,_⟩:=h.ex;exact(NC.1 c).1
theorem mm.kg{d:Type}{R:Rel d}{T k B:Nat}(ok:kT R k){w w'}{b n:Nat}{xs:List d}(h:mm R T k B w b n xs)(c:Below w w w'):mm R T k B w' b n xs:=by obtain⟨e,f,g,i,j⟩:=h.ex;have hs:=c.size;exact⟨e,f,(c.B b h.lt).T g,i,j.imp λr x hx=>ok.M (ok.kg hx λq a=>c.B q a.2.1) λq a=>⟨a.1,PJ,a.2.2⟩⟩
theorem mm.frozen{a:Type}{R:Rel a}{T k B:Nat}{w}{b n:Nat}{xs:List a}(h:mm R T k B w b n xs)(i:Nat):w.frozen? ⟨b,i,none⟩=false:=by obtain⟨d,e,c,f,g⟩:=h.ex;exact ko c i
theorem mm.cell{a:Type}{R:Rel a}{T k B:Nat}(ok:kT R k){w}{b n:Nat}{xs:List a}(h:mm R T k B w b n xs){i:Nat}(hi:i<n*k):∃u,w.cell? ⟨b,i,none⟩=some u:=by obtain⟨e,f,c,g,d⟩:=h.ex;have j:=kZ.flat (k:=k) (λr x h=>ok.len h) d;exact⟨_,kf c i _ (by rw[O3];exact NU (by rw[N2];omega))⟩
theorem mm.put{c:Type}{R:Rel c}{T k B:Nat}(ok:kT R k){w}{b n:Nat}{xs:List c}(h:mm R T k B w b n xs){r}{x:c}(hx:R (λq=>B<=q/\q<w/\q≠b) w r x)(hn:xs.length<n){o:Nat}(g:o=xs.length*k):mm R T k B (lC w b o r) b n (xs++[x]):=by obtain⟨e,d,i,p,f⟩:=h.ex;have j:=kZ.flat (k:=k) (λr x h=>ok.len h) f;have hr:=ok.len hx;have hm:=Oz k hn;rw[Nat.succ_mul]at hm;subst g;refine⟨e++[r],d.drop k,?_,?_,?_⟩;rw[<-j];have:=rW (r:=r) (m:=d.take k) (t:=d.drop k) (l:=e.flatten) (by rw[N0];omega) (by rw[Pu];exact i);rw[this];simp;rw[N2,List.length_drop,PF];simp only[OP,OT];omega;refine(kZ.snoc hx f).imp λr x hx=>ok.M (ok.kg hx λq a=>nP a.2.2) λq a=>⟨a.1,by rw[nh];exact a.2.1,a.2.2⟩
theorem mm.done{a:Type}{R:Rel a}{T k B:Nat}(ok:kT R k){w}{b n:Nat}{xs:List a}(h:mm R T k B w b n xs)(hn:xs.length=n)(d:B<=b)(e:n<=9223372036854775807):km R (λq=>B<=q/\q<w) w (.slice (some ⟨b,0,none⟩) n n) xs:=by have f:=h.lt;obtain⟨g,m,i,p,j⟩:=h.ex;refine⟨_,n,g,by rw[hn],PJ,e,λ_=>⟨b,0,rfl,⟨d,f⟩,λl u hu=>?_⟩,j.imp λr x hx=>ok.M hx λq c=>⟨c.1,c.2.1⟩⟩;rw[NY];refine kf i l u ?_;rw[O3,Ou (NW.1 hu).1];exact hu
end Go.Proofs.YtfemcncookpdhaaGreatDoor
namespace Go.Proofs.YtfemcncookpdhaaGreatDoor
open Go.RowKit lX Go.Proofs.Tryz
theorem ot{w:World}{b:Nat}{T:TypeId}{r m:List Value}(h:w.heap[b]?=some (.cells m.toArray T (0,0)))(a:m.length=r.length):(lC w b 0 r).heap[b]?=some (.cells r.toArray T (0,0)):=by have:=rW (r:=r) (m:=m) (t:=[]) (l:=[]) a (by simpa using h);simpa using this
theorem lS.kg{T w w'}{b n:Nat}(h:lS T w b n)(a:w'.heap[b]?=w.heap[b]?):lS T w' b n:=by obtain⟨c,d,e⟩:=h;exact⟨c,a.T d,e⟩
theorem lS.lt{T w}{b n:Nat}(h:lS T w b n):b<w:=by obtain⟨c,a,d⟩:=h;exact(NC.1 a).1
theorem mH.kg{w w'}{b:Nat}(h:mH w b)(a:w'.heap[b]?=w.heap[b]?):mH w' b:=by obtain⟨c,d,e⟩:=h;exact⟨c,a.T d,e⟩
theorem mH.lt{w}{b:Nat}(h:mH w b):b<w:=by obtain⟨c,a,d⟩:=h;exact(NC.1 a).1
structure tj(w:World):Prop where
 lt:1<w.heap.size
 kI:∀k:Nat,k<64->∃x:Int,w.cell? ⟨1,k,none⟩=some (.int .u32 x)
theorem tj.kg{w w'}(h:tj w)(a:w'.heap[(1:Nat)]?=w.heap[(1:Nat)]?)(hs:w.heap.size<=w'.heap.size):tj w':=
 ⟨ND h.lt hs,λk b=>by obtain⟨x,c⟩:=h.kI k b;exact⟨x,(Cb 1 k a).T c⟩⟩
theorem lS.to{T w w'}{b n:Nat}(h:lS T w b n)(a:Below w w w'):lS T w' b n:=h.kg (a.B b h.lt)
theorem pB.lt{T w}{b n:Nat}(h:pB T w b n):b<w:=by obtain⟨c,a,d⟩:=h;exact(NC.1 a).1
theorem pB.kI{T w}{b n:Nat}(h:pB T w b n){i:Nat}(hi:i<n):∃x:Int,w.cell? ⟨b,i,none⟩=some (.int .u8 x)/\w.frozen? ⟨b,i,none⟩=false:=by obtain⟨d,a,e,c⟩:=h;obtain⟨x,hx⟩:=c i hi;rw[NY]at hx;exact⟨x,kf a i _ hx,ko a i⟩
theorem pB.kg{T w w'}{b n:Nat}(h:pB T w b n)(a:w'.heap[b]?=w.heap[b]?):pB T w' b n:=by obtain⟨c,d,e⟩:=h;exact⟨c,a.T d,e⟩
end Go.Proofs.YtfemcncookpdhaaGreatDoor
namespace Go.Proofs.YtfemcncookpdhaaGreatDoor.C
open Go.RowKit Go.Proofs.Tryz
theorem yi{W a}(h:Below W.heap.size W a):W.grownBy a none:=⟨h.os,h.tape,h.output,h.size,λk b _=>h.B k b⟩
theorem uj:(prog.info? 62).map (λi=>(i.zero,i.size,i.bytes))=some (some (.agg #[.int .u8 0,.int .i64 0,.int .i64 0,.int .i64 0,.int .i64 0,.int .i64 0,Nl]),7,72):=PL
end Go.Proofs.YtfemcncookpdhaaGreatDoor.C
namespace Go.Proofs.YtfemcncookpdhaaGreatDoor.C
open Go.RowKit Go.Shelf Go.Sort Go.Proofs.Tryz
theorem AR:(prog.info? 9).map (λi=>(i.zero,i.size,i.bytes))=some (some (Em),1,16):=PL
end Go.Proofs.YtfemcncookpdhaaGreatDoor.C
