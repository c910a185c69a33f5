import Derived.Test.YtbdipimmpgijaaaGreatDoorZ4
import Derived.Test.YtbdipimmpgijaaaGreatDoorZ5
set_option maxRecDepth 1000000
set_option maxHeartbeats 32000000
set_option linter.all false
namespace Go.Proofs.YtbdipimmpgijaaaGreatDoor
open RowKit Go.Proofs.Tryz lH Maps oa qR ChangeShapes WideShapes ChangeAt
def vH:EW 148:=by
 intro l a m g n d e f c D E F b x;have O:g<=2:=by rw[<-E.len.1];exact b.Hq
 have P:¬(4:Int)<(g:Int):=Y
 have r:=HB a c m g n d e f;have s:=(λ(i:RW) (t:Below a a i)=>F.kv (kR.ok .u8 Ds) λj u=>t.B j<|x j u)
 have v:=(λ(i:RW) (t:Below a a i) j (u:l j)=>QO (x j u) t.size)
 have y:=QQ a<|.cells (hR c.name m g n d e f) 125;have w:kU Ds c.body<=40:=QT b.cnt Y;have Q:=b.cnt;have z:Ds=4:=Z
 go_enter func148,ntmps148
 go_wp21;refine(BB Ds l _ d e f c.body (s _ r) b.C2 b.body w (by rw[z];omega)<|v _ r).M ?_;have A:a<(a.alloc<|.cells (hR c.name m g n d e f) 125).heap.size:=Uo
 generalize a.alloc (.cells (hR c.name m g n d e f) 125)=R at*;rintro B i ⟨G,rfl,S,p⟩;have T:¬(40:Int)<(G:Int):=W w
 have q:=(r.T<|p.M Y)
 have U:=p.size;have⟨⟨I,J,K⟩,_⟩:=lg<|(p.B _ A).T y;have L:=((p.B _ A).T y)
 go_wp21;refine(BC Ds l _ d e f c.body (s _ q) b.C2 b.body w (by rw[z];omega)<|v _ q).M ?_;rintro B V ⟨aa,rfl,ab,C⟩
 have k:=(q.T<|C.M q.size)
 have M:a.heap.size<i:=Y
 have⟨⟨I,J,K⟩,_⟩:=lg<|(C.B _ M).T L;go_wp21;apply(sW 204 Az DG Ds l _ d e f c.body (D.to k) (s _ k) b.C2 b.body<|v _ k).M;rintro B ac ⟨rfl,N⟩;go_wp21;go_ret;exact⟨Z,k.T<|N.M k.size⟩
def Cl:EW 154:=by
 intro k l m n p d e f g q v r i j;have b:=HB l g m n p d e f;have s:=(r.kv (kR.ok .u8 Ds) λa c=>b.B a<|j a c)
 have t:=(q.to b)
 go_enter func154,ntmps154
 go_wp21;refine(sW 155 vG xY Ds k _ d e f g.body t s i.C2 i.body (λa c=>by rw[QR];have:=j a c;omega)).M ?_;rintro w x ⟨rfl,u⟩;go_wp21;go_ret;exact⟨Z,b.T<|u.M Uo⟩
def DI:EW 150:=by
 intro D a q b r g i j e k w E l t;have x:=w.len;have aa:b<=2:=by rw[<-x.1];exact l.Hq
 have y:=HB a e q b r g i j;have F:=(λ(m:RW) (u:Below a a m)=>w.kv kM.ok λd n=>u.B d<|t d n)
 have G:=(λ(m:RW) (u:Below a a m)=>E.kv (kR.ok .u8 Ds) λd n=>u.B d<|t d n)
 have I:=x.1;have z:=QQ a<|.cells (hR e.name q b r g i j) 125;have J:a<(a.alloc<|.cells (hR e.name q b r g i j) 125).heap.size:=Uo
 go_enter func150,ntmps150
 go_wp21;apply(oy _ l.name _<|k.names.ku y k.low.1).M;rintro A m ⟨rfl,rfl⟩;generalize a.alloc (.cells (hR e.name q b r g i j) 125)=B at*;have⟨⟨K,L,M⟩,_⟩:=lg z;go_wp21;go_loopw [3,12] (λN v wr=>∃c:Nat,c<=b/\v=c/\N=.bool true/\Below B B wr) (λ_ v _=>b-(intOf v).toNat)
 .exact⟨0,QZ _,Z,Z,Sf _ _⟩
 obtain⟨c,ab,rfl,rfl,s⟩:=hrel;have p:=(y.T<|s.M Y)
 have ac:=s.size;have O:=((s.B _ J).T z)
 by_cases ad:c<b
 .obtain⟨f,C⟩:∃f,e.params[c]?=some f:=Gx<|W I;obtain⟨ae,af,P,rfl,ag,Q,R⟩:=(F _ p).ll kM.ok c f C;have S:P=[tx f]:=Q;subst S;have T:=R 0 _ Z;rw[Q1,Ry]at T;have U:=(oy f (l.params f<|QS C) wr<|k.names.ku p k.low.1)
  obtain⟨ah,ai⟩:=nL c b;go_wp21;apply U.M;rintro A m ⟨rfl,rfl⟩;go_wp2_with fail;go_roundw
  .exact⟨c+1,Y,Ur,Z,s⟩
  simp[intOf];omega
 obtain rfl:c=b:=Y;have⟨⟨K,L,M⟩,_⟩:=lg O;have aj:a.heap.size<wr:=Y;go_wp21;refine(sW 152 wB yA Ds D _ g i j e.body (k.to p) (G _ p) l.C2 l.body λd n=>W<|t d n).M ?_;rintro A ak ⟨rfl,V⟩;go_wp21;go_ret;exact⟨Z,p.T<|V.M Y⟩
def DJ(K i s)(t u:Nat)(v)(f w:Nat)(x)(d y:Nat)(m)(aj:lX i)(L:pW K i s t u v f w x d y m)(E:mi m):
  Calls prog 103 #[.agg<|lP m.name s t u v f w x d y] i (kG (.bool true) i):=by
 have U:=L.ml;have M:=L.kH
 have aW:f<=9:=by rw[<-U.len.1];exact E.Hr
 have aX:d<=3:=by rw[<-M.len.1];exact E.c3
 have aY:1<=d:=by rw[<-M.len.1];exact E.c1
 have ak:=X U.len.1;have al:=X M.len.1;have N:Below i i<|i.alloc<|.cells (lP m.name s t u v f w x d y) 54:=Ba _ _;have V:=QQ i<|.cells (lP m.name s t u v f w x d y) 54;have aZ:(i.alloc<|.cells (lP m.name s t u v f w x d y) 54).heap.size=i+1:=Uo
 have F:=(L.ku N)
 have O:=E;have am:=(aj.to N)
 have aa:=X V;clear V
 go_enter func103,ntmps103
 go_wp21;generalize i.alloc (.cells (lP m.name s t u v f w x d y) 54)=n at*;have ab:i.heap.size<n:=Y
 have G:=F.lK;have an:=F.ml;have ao:=F.kH;have a:=(Sf n n)
 go_loopw [12] (λk wr=>∃r:Nat,r<=f/\k=r/\Below n n wr) (λk _=>f-(intOf k).toNat)
 .exact⟨0,QZ _,Z,a⟩
 obtain⟨g,ap,rfl,a⟩:=hrel;have aq:=a.size;by_cases ar:g<f
 .obtain⟨b,l⟩:∃B,m.ml[g]?=some B:=Gx<|W ak.o;obtain⟨au,av,I,rfl,ac,C,e⟩:=(an.kv nT.ok λc p=>a.B c<|G c p).ll nT.ok g b l;have P:I=[tx b.a,tx b.b,.int .i64 b.tF]:=C;subst P;have Q:=e 0 _ Z;have ad:=e 1 _ Z;have ae:=e 2 _ Z;rw[Q1]at Q;have R:=QS l;obtain⟨aw,ax⟩:=nL g f;clear e l;have ay:=O.ml b R;have ba:¬b.tF<1:=Y;have bb:¬50<b.tF:=Y;clear ay;have a:=(a.alloc Y<|.cells #[tx b.a,tx b.b,b.tF] 108)
  go_wp2_with fail;go_roundw
  .exact⟨g+1,Y,Ur,a⟩
  simp[intOf];omega
 obtain rfl:f=g:=Y;have⟨⟨az,aA,aB,aC⟩,_⟩:=kN<|(a.B _ ab).T aa.o;go_wp21;go_loopw [28] (λk wr=>∃r:Nat,r<=d/\k=r/\Below n n wr) (λk _=>d-(intOf k).toNat)
 .exact⟨0,QZ _,Z,a⟩
 obtain⟨g,ap,rfl,a⟩:=hrel;have a:=a;have aq:=a.size;by_cases ar:g<d
 .obtain⟨b,l⟩:∃B,m.kH[g]?=some B:=Gx<|W al.o;obtain⟨au,av,I,rfl,ac,C,e⟩:=(ao.kv (mr.ok .u8) λc p=>a.B c<|G c p).ll (mr.ok .u8) g b l;obtain⟨bc,bd,rfl,S,af⟩:=C;obtain⟨aD,aE,rfl,aF⟩:=S.form;obtain⟨aG,aH,rfl,aI⟩:=af.form;have Q:=e 0 _ Z;have ad:=e 1 _ Z;have ae:=e 2 _ Z;rw[Q1]at Q;have R:=QS l;obtain⟨aw,ax⟩:=nL g d;clear e l;have ag:=O.kH b R;have⟨z,J⟩:=Xq b.vars.length;have⟨aJ,ah⟩:=Xq b.lJ.length;rw[<-J]at ad S aF;rw[<-ah]at ae af aI;have be:z<=5:=(by rw[J];exact ag.FJ);have aK:=X J.symm;have⟨q,D⟩:=Xq<|wr.alloc<|.cells #[tx b.name,(aD,z,aE),(aG,aJ,aH)] 112;have bf:q.heap.size=wr+1:=(by rw[D];simp);have aL:=(show Below n n q by rw[D];exact a.alloc Y _)
  have aM:wr.grownBy q none:=(by rw[D];exact QV _ _ none);have aN:=(S.kv (oh.ok .u8) (w':=q) λc p=>aM.B c (W<|G c p) Uo)
  have aO:∀c,K c->c<q:=λc p=>W<|G c p;clear J ah;go_wp21;rw[<-D];clear D;have a:=(Sf q q)
  go_loopw [35] (λk wr=>∃r:Nat,r<=z/\k=r/\Below q q wr) (λk _=>z-(intOf k).toNat)
  .exact⟨0,QZ _,Z,a⟩
  obtain⟨A,bg,rfl,a⟩:=hrel;have a:=a;have bh:=a.size;by_cases bi:A<z
  .obtain⟨j,l⟩:∃B,b.vars[A]?=some B:=Gx<|W aK.o;obtain⟨bj,bk,I,rfl,ac,C,e⟩:=(aN.kv (oh.ok .u8) λc p=>a.B c<|aO c p).ll (oh.ok .u8) A j l;have P:I=[tx j.name,.int .u8 j.ty,.int .i64 j.init]:=C;subst P;have aP:=e 0 _ Z;have bl:=e 1 _ Z;have bm:=e 2 _ Z;rw[Q1]at aP;have aQ:=QS l;obtain⟨bn,bo⟩:=nL A z;clear e l;have aR:=ag.vars j aQ;have aS:=(yC j aR<|wr.alloc<|.cells #[tx j.name,.int .u8 j.ty,j.init] 115)
   have aT:=(a.alloc Y<|.cells #[tx j.name,.int .u8 j.ty,j.init] 115)
   go_wp21;apply aS.M;rintro aU aV ⟨rfl,T⟩;have a:=(aT.T<|T.M<|by rw[QR];omega)
   go_wp21;go_roundw
   .exact⟨A+1,Y,Ur,a⟩
   simp[intOf];omega
  obtain rfl:z=A:=Y;have a:=(aL.T<|a.M Y)
  go_wp21;go_roundw
  .exact⟨g+1,Y,Ur,a⟩
  simp[intOf];omega
 obtain rfl:d=g:=Y;have⟨⟨az,aA,aB,aC⟩,_⟩:=kN<|(a.B _ ab).T aa.o;go_wp21;have ai:=(N.T<|a.M Y)
 apply(pj 154 yB Cl K wr s t u v f w x d y m (am.to a) (F.ku a) O).M;rintro aU aV ⟨rfl,T⟩;go_wp21;go_ret;exact⟨Z,ai.T<|T.M ai.size⟩
def F7(aa l w)(j x:Nat)(y)(k z:Nat)(A)(i B:Nat)(m)(aJ:lX l)(S:pW aa l w j x y k z A i B m)(L:mi m):
  Calls prog 102 #[.agg<|lP m.name w j x y k z A i B] l (kG (.bool true) l):=by
 have am:=S.kQ;have an:=S.ml;have ab:=S.kH;have bc:j<=2:=by rw[<-am.len.1];exact L.C3
 have bd:k<=9:=by rw[<-an.len.1];exact L.Hr
 have be:i<=3:=by rw[<-ab.len.1];exact L.c3
 have bf:1<=i:=by rw[<-ab.len.1];exact L.c1
 have aK:=X am.len.1;have aL:=X an.len.1;have aM:=X ab.len.1;have ac:Below l l<|l.alloc<|.cells (lP m.name w j x y k z A i B) 54:=Ba _ _;have ao:=QQ l<|.cells (lP m.name w j x y k z A i B) 54;have bg:(l.alloc<|.cells (lP m.name w j x y k z A i B) 54).heap.size=l+1:=Uo
 have M:=(S.ku ac)
 have N:=L;have n:=(aJ.to ac)
 have T:=X ao;clear ao
 go_enter func102,ntmps102
 go_wp21;apply(oy m.name N.name _ n.names).M;rintro F G ⟨rfl,rfl⟩;generalize l.alloc (.cells (lP m.name w j x y k z A i B) 54)=r at*;have ad:l.heap.size<r:=Y
 have O:=X M.lK;have aN:=M.kQ;have aO:=M.ml;have aP:=M.kH;have a:=(Sf r r)
 have⟨⟨ae,af,ag,ah⟩,_⟩:=kN T.o;go_wp21;go_loopw [3,18] (λC f wr=>∃s:Nat,s<=j/\f=s/\C=.bool true/\Below r r wr) (λ_ f _=>j-(intOf f).toNat)
 .exact⟨0,QZ _,Z,Z,a⟩
 obtain⟨c,ap,rfl,rfl,a⟩:=hrel;have aq:=a.size;by_cases ar:c<j
 .obtain⟨b,g⟩:∃D,m.kQ[c]?=some D:=Gx<|W aK.o;obtain⟨au,av,I,rfl,ai,E,e⟩:=(aN.kv mI.ok λd t=>a.B d<|O.o d t).ll mI.ok c b g;have P:I=[tx b.name,.bool b.init]:=E;subst P;have Q:=e 0 _ Z;have aj:=e 1 _ Z;rw[Q1]at Q;have R:=QS g;obtain⟨aw,ax⟩:=nL c j;clear e g;have U:=N.kQ b R;have p:=(a.alloc Y<|.cells #[tx b.name,b.init] 107)
  go_wp21;apply(oy b.name U _<|n.names.ku p n.low.1).M;rintro F G ⟨rfl,rfl⟩;have a:=p;go_wp2_with fail;go_roundw
  .exact⟨c+1,Y,Ur,Z,a⟩
  simp[intOf];omega
 obtain rfl:j=c:=Y;have⟨⟨ae,af,ag,ah⟩,_⟩:=kN<|(a.B _ ad).T T.o;go_wp21;go_loopw [3,32] (λC f wr=>∃s:Nat,s<=k/\f=s/\C=.bool true/\Below r r wr) (λ_ f _=>k-(intOf f).toNat)
 .exact⟨0,QZ _,Z,Z,a⟩
 obtain⟨c,ap,rfl,rfl,a⟩:=hrel;have a:=a;have aq:=a.size;by_cases ar:c<k
 .obtain⟨b,g⟩:∃D,m.ml[c]?=some D:=Gx<|W aL.o;obtain⟨au,av,I,rfl,ai,E,e⟩:=(aO.kv nT.ok λd t=>a.B d<|O.o d t).ll nT.ok c b g;have P:I=[tx b.a,tx b.b,.int .i64 b.tF]:=E;subst P;have Q:=e 0 _ Z;have aj:=e 1 _ Z;have ay:=e 2 _ Z;rw[Q1]at Q;have R:=QS g;obtain⟨aw,ax⟩:=nL c k;clear e g;have U:=N.ml b R;have p:=(a.alloc Y<|.cells #[tx b.a,tx b.b,b.tF] 108)
  have az:=X U;clear U;go_wp21;apply(oy b.a az.o.1 _<|n.names.ku p n.low.1).M;rintro F G ⟨rfl,rfl⟩;go_wp21;apply(oy b.b az.o.2.1 _<|n.names.ku p n.low.1).M;rintro F G ⟨rfl,rfl⟩;have a:=p;go_wp2_with fail;go_roundw
  .exact⟨c+1,Y,Ur,Z,a⟩
  simp[intOf];omega
 obtain rfl:k=c:=Y;have⟨⟨ae,af,ag,ah⟩,_⟩:=kN<|(a.B _ ad).T T.o;go_wp21;go_loopw [3,51] (λC f wr=>∃s:Nat,s<=i/\f=s/\C=.bool true/\Below r r wr) (λ_ f _=>i-(intOf f).toNat)
 .exact⟨0,QZ _,Z,Z,a⟩
 obtain⟨c,ap,rfl,rfl,a⟩:=hrel;have a:=a;have aq:=a.size;by_cases ar:c<i
 .obtain⟨b,g⟩:∃D,m.kH[c]?=some D:=Gx<|W aM.o;obtain⟨au,av,I,rfl,ai,E,e⟩:=(aP.kv (mr.ok .u8) λd t=>a.B d<|O.o d t).ll (mr.ok .u8) c b g;obtain⟨bh,bi,rfl,ak,aA⟩:=E;obtain⟨aB,aC,rfl,aQ⟩:=ak.form;obtain⟨aD,aE,rfl,aR⟩:=aA.form;have Q:=e 0 _ Z;have aj:=e 1 _ Z;have ay:=e 2 _ Z;rw[Q1]at Q;have R:=QS g;obtain⟨aw,ax⟩:=nL c i;clear e g;have al:=N.kH b R;have⟨v,V⟩:=Xq b.vars.length;have⟨aF,aG⟩:=Xq b.lJ.length;rw[<-V]at aj ak aQ;rw[<-aG]at ay aA aR;have bj:v<=5:=(by rw[V];exact al.FJ);have aS:=X V.symm;have⟨u,J⟩:=Xq<|wr.alloc<|.cells #[tx b.name,(aB,v,aC),(aD,aF,aE)] 112;have bk:u.heap.size=wr+1:=(by rw[J];simp);have p:=(show Below r r u by rw[J];exact a.alloc Y _)
  have aT:wr.grownBy u none:=(by rw[J];exact QV _ _ none);have aU:=(ak.kv (oh.ok .u8) (w':=u) λd t=>aT.B d (W<|O.o d t) Uo)
  have aV:=X<|show∀d,aa d->d<u from λd t=>W<|O.o d t;clear V aG;have aW:=al.name;have aH:u.heap[wr.heap.size]?=some (.cells #[tx b.name,(aB,v,aC),(aD,aF,aE)] 112):=(by rw[J];exact QQ _ _);go_wp21;rw[<-J];apply(oy b.name aW _<|n.names.ku p n.low.1).M;rintro F G ⟨rfl,rfl⟩;have⟨⟨bl,bm,bn⟩,_⟩:=lg aH;clear J aH;go_wp21;have a:=(Sf u u)
  go_loopw [3,64] (λC f wr=>∃s:Nat,s<=v/\f=s/\C=.bool true/\Below u u wr) (λ_ f _=>v-(intOf f).toNat)
  .exact⟨0,QZ _,Z,Z,a⟩
  obtain⟨K,bo,rfl,rfl,a⟩:=hrel;have a:=a;have bp:=a.size;by_cases bq:K<v
  .obtain⟨q,g⟩:∃D,b.vars[K]?=some D:=Gx<|W aS.o;obtain⟨br,bs,I,rfl,ai,E,e⟩:=(aU.kv (oh.ok .u8) λd t=>a.B d<|aV.o d t).ll (oh.ok .u8) K q g;have P:I=[tx q.name,.int .u8 q.ty,.int .i64 q.init]:=E;subst P;have aX:=e 0 _ Z;have bt:=e 1 _ Z;have bu:=e 2 _ Z;rw[Q1]at aX;have aY:=QS g;obtain⟨bv,bw⟩:=nL K v;clear e g;have aZ:=(al.vars q aY).name;have p:=(p.T<|(a.alloc Y<|.cells #[tx q.name,.int .u8 q.ty,q.init] 115).M Y)
   have ba:=(a.alloc Y<|.cells #[tx q.name,.int .u8 q.ty,q.init] 115)
   go_wp21;apply(oy q.name aZ _<|n.names.ku p n.low.1).M;rintro F G ⟨rfl,rfl⟩;have a:=ba;go_wp2_with fail;go_roundw
   .exact⟨K+1,Y,Ur,Z,a⟩
   simp[intOf];omega
  obtain rfl:v=K:=Y;have a:=(p.T<|a.M Y)
  go_wp2_with fail;go_roundw
  .exact⟨c+1,Y,Ur,Z,a⟩
  simp[intOf];omega
 obtain rfl:i=c:=Y;have⟨⟨ae,af,ag,ah⟩,_⟩:=kN<|(a.B _ ad).T T.o;go_wp21;have aI:=(ac.T<|a.M Y)
 apply(pj 150 AA DI aa wr w j x y k z A i B m (n.to a) (M.ku a) N).M;rintro F G ⟨rfl,bb⟩;go_wp21;go_ret;exact⟨Z,aI.T<|bb.M aI.size⟩
def F8(ak f x)(p y:Nat)(z)(q A:Nat)(B)(b C:Nat)(r)(az:lX f)(R:pW ak f x p y z q A B b C r)(F:mi r):
  Calls prog 101 #[.agg<|lP r.name x p y z q A B b C] f (kG (.bool true) f):=by
 have bp:= @run_makeMap prog;have aA:=R.kQ;have aB:=R.ml;have V:=R.kH;have bq:p<=2:=by rw[<-aA.len.1];exact F.C3
 have br:q<=9:=by rw[<-aB.len.1];exact F.Hr
 have bs:b<=3:=by rw[<-V.len.1];exact F.c3
 have bt:1<=b:=by rw[<-V.len.1];exact F.c1
 have aC:=X V.len.1;have aa:Below f f<|f.alloc<|.cells (lP r.name x p y z q A B b C) 54:=Ba _ _;have al:=QQ f<|.cells (lP r.name x p y z q A B b C) 54;have bu:(f.alloc<|.cells (lP r.name x p y z q A B b C) 54).heap.size=f+1:=Uo
 have ab:=(R.ku aa)
 have am:=F;have aD:=(az.to aa)
 have aE:=X al;clear al;have bv:((b:Int)==0)=false:=by rw[QW];omega
 have bw:¬(8:Int)<(b:Int):=Y
 have bx:¬(8:Int)<(p:Int):=Y
 have bz:¬(64:Int)<(q:Int):=Y
 go_enter func101,ntmps101
 go_wp21;generalize f.alloc (.cells (lP r.name x p y z q A B b C) 54)=g at*;have aF:f.heap.size<g:=Y
 have G:=X ab.lK;have aG:=ab.kH;have a:=(Sf g g)
 go_loopw [36] (λj wr=>∃m:Nat,m<=b/\j=m/\Below g g wr) (λj _=>b-(intOf j).toNat)
 .exact⟨0,QZ _,Z,a⟩
 obtain⟨E,bA,rfl,a⟩:=hrel;have bB:=a.size;by_cases bC:E<b
 .obtain⟨n,k⟩:∃I,r.kH[E]?=some I:=Gx<|W aC.o;obtain⟨bD,bE,an,rfl,ao,J,i⟩:=(aG.kv (mr.ok .u8) λc s=>a.B c<|G.o c s).ll (mr.ok .u8) E n k;obtain⟨ap,aH,rfl,u,K⟩:=J;obtain⟨L,M,rfl,aI⟩:=u.form;obtain⟨N,O,rfl,aJ⟩:=K.form;have aK:=i 0 _ Z;have aL:=i 1 _ Z;have aM:=i 2 _ Z;rw[Q1]at aK;have aN:=QS k;obtain⟨bF,bG⟩:=nL E b;clear i k;have S:=am.kH n aN;have⟨D,ac⟩:=Xq n.vars.length;have⟨d,P⟩:=Xq n.lJ.length;rw[<-ac]at aL u aI;rw[<-P]at aM K aJ;have bH:D<=5:=(by rw[ac];exact S.FJ);have bI:d<=2:=(by rw[P];exact S.v2);have bJ:1<=d:=(by rw[P];exact S.v1);have aO:=X P.symm;have bK:¬(8:Int)<(D:Int):=Y;have bL:((d:Int)==0)=false:=(by rw[QW];omega);have bM:¬(3:Int)<(d:Int):=Y;have aP:=(K.kv (nj.ok .u8) (w':=g) λc s=>(a.B c<|G.o c s).symm)
  have aQ:=((a.alloc Y<|.cells #[tx n.name,(L,D,M),(N,d,O)] 112).alloc (by rw[QR];omega)<|.map #[] 0)
  have ad:=World.ownsMap_made (wr.alloc<|.cells #[tx n.name,(L,D,M),(N,d,O)] 112) prog 9 RM;rw[QR]at ad;have bN:((wr.alloc<|.cells #[tx n.name,(L,D,M),(N,d,O)] 112).alloc<|.map #[] 0).heap.size=wr+2:=Uo;have⟨v,ae⟩:=Xq<|wr.heap.size+1;rw[<-ae]at ad;have aR:A8 ((wr.alloc<|.cells #[tx n.name,(L,D,M),(N,d,O)] 112).alloc<|.map #[] 0) v<|3*0:=⟨_,ad⟩
  have bO:g<=v:=Y;clear ac P;go_wp21;rw[<-ae];generalize(wr.alloc<|.cells #[tx n.name,(L,D,M),(N,d,O)] 112).alloc (.map #[] 0)=bP at*;clear ae;have a:=aQ;go_loopw [59] (λj wr=>∃m:Nat,m<=d/\j=m/\A8 wr v (3*m)/\Below g g wr) (λj _=>d-(intOf j).toNat)
  .exact⟨0,QZ _,Z,aR,a⟩
  obtain⟨l,bQ,rfl,Q,a⟩:=hrel;have a:=a;have bR:=a.size;by_cases bS:l<d
  .obtain⟨T,k⟩:∃I,n.lJ[l]?=some I:=Gx<|W aO.o;obtain⟨bT,bU,an,rfl,ao,J,i⟩:=(aP.kv (nj.ok .u8) λc s=>a.B c<|G.o c s).ll (nj.ok .u8) l T k;obtain⟨ap,rfl,u⟩:=J;obtain⟨af,ag,rfl,aS⟩:=u.form;have aq:=i 0 _ Z;rw[Q1,Ry]at aq;have aT:=QS k;obtain⟨bV,bW⟩:=nL l d;clear i k;have U:=S.lJ T aT;have⟨t,ah⟩:=Xq T.length;rw[<-ah]at aq u aS U;have bX:t<=3:=U.1;have aU:=X U;have aV:=X ah.symm;have aW:=(u.kv (mA.ok .u8) (w':=g) λc s=>(a.B c<|G.o c s).symm)
   have aX:=(a.alloc Y<|oe af t ag)
   have aY:A8 (wr.alloc<|oe af t ag) v<|3*l+0:=Q.imp λaZ ai=>ai.alloc _;clear U ah;go_wp21;generalize wr.alloc (oe af t ag)=bY at*;have a:=aX;go_loopw [66] (λj wr=>∃m:Nat,m<=t/\j=m/\A8 wr v (3*l+m)/\Below g g wr) (λj _=>t-(intOf j).toNat)
   .exact⟨0,QZ _,Z,aY,a⟩
   obtain⟨w,bZ,rfl,Q,a⟩:=hrel;have a:=a;have ca:=a.size;by_cases cb:w<t
   .obtain⟨e,k⟩:∃I,T[w]?=some I:=Gx<|W aV.o;obtain⟨cc,cd,an,rfl,ao,J,i⟩:=(aW.kv (mA.ok .u8) λc s=>a.B c<|G.o c s).ll (mA.ok .u8) w e k;obtain⟨ap,aH,rfl,u,K⟩:=J;obtain⟨ar,au,rfl,ce⟩:=u.form;obtain⟨av,aw,rfl,cf⟩:=K.form;have ba:=i 0 _ Z;have cg:=i 1 _ Z;have ch:=i 2 _ Z;rw[Q1]at ba;have bb:=QS k;obtain⟨ci,cj⟩:=nL w t;clear i k;have bc:=aU.o.2 e bb;have bd:=(a.alloc Y<|.cells #[tx e.name,(ar,e.params.length,au),(av,e.body.length,aw)] 125)
    have⟨be,bf⟩:=Q;have bg:=(bf.alloc<|.cells #[tx e.name,(ar,e.params.length,au),(av,e.body.length,aw)] 125)
    have ax:keyOf prog 9 (tx e.name)=some (.string e.name):=Go.WideMaps.keyOf_string_mk underlying9 (by have:=bc.name;unfold nr at this;simp at this;show e.name.toArray.size<=maxLen;simp;unfold maxLen;omega);have bh:=X ax;clear ax;go_wp2_with (at_mapUpdate;refine wpList_mapUpdate_own _ Z _ _ _ 272 Z 9 4 L1 underlying272 RM v (3*l+w) be Z bg Uw (tx e.name) (.bool true) (.string e.name) Z Z bh.o _ [] Z ?_);intro bi bj bk;have bl:A8 bi v<|3*l+(w+1):=⟨_,bj⟩
    have a:=(bd.grown bk (by rw[QR];omega) λck aj=>by injection aj with aj;omega)
    go_wp21;go_roundw
    .exact⟨w+1,Y,Ur,bl,a⟩
    simp[intOf];omega
   obtain rfl:t=w:=Y;have bm:A8 wr v<|3*(l+1):=Q.imp λaZ ai=>ai.M Y;go_wp21;go_roundw
   .exact⟨l+1,Y,Ur,bm,a⟩
   simp[intOf];omega
  obtain rfl:d=l:=Y;have⟨bn,cl,cm⟩:=Q.len;have cn:¬(8:Int)<(bn:Int):=Y;go_wp2_with fail;go_roundw
  .exact⟨E+1,Y,Ur,a⟩
  simp[intOf];omega
 obtain rfl:b=E:=Y;have⟨⟨co,cp,cq,cr⟩,_⟩:=kN<|(a.B _ aF).T aE.o;go_wp21;have ay:=(aa.T<|a.M Y)
 apply(pj 148 uh vH ak wr x p y z q A B b C r (aD.to a) (ab.ku a) am).M;rintro aj cs ⟨rfl,bo⟩;go_wp21;go_ret;exact⟨Z,ay.T<|bo.M ay.size⟩
def sX(m w c)(d e:Nat)(f)(g i:Nat)(j)(k l:Nat)(b)(z:lX w)(A:pW m w c d e f g i j k l b)(B:mi b):
  Calls prog 64 #[.agg<|lP b.name c d e f g i j k l] w (kG (.int .i64 0) w):=by
 have p:Below w w<|w.alloc<|.cells (lP b.name c d e f g i j k l) 54:=Ba _ _;have u:=QQ w<|.cells (lP b.name c d e f g i j k l) 54;have J:(w.alloc<|.cells (lP b.name c d e f g i j k l) 54).heap.size=w+1:=Uo
 have q:=(A.ku p)
 have r:=B;have s:=(z.to p)
 go_enter func64,ntmps64
 go_wp21;generalize w.alloc (.cells (lP b.name c d e f g i j k l) 54)=v at*;have x:w.heap.size<v:=Y
 apply(F8 m v c d e f g i j k l b s q r).M;rintro y C ⟨rfl,a⟩;generalize C=n at*;have⟨⟨D,E,F,G⟩,_⟩:=kN<|(a.B _ x).T u
 go_wp21;apply(F7 m n c d e f g i j k l b (s.to a) (q.ku a) r).M;rintro y I ⟨rfl,t⟩;have a:=(a.T<|t.M a.size)
 generalize n=K at*;generalize I=n at*;have⟨⟨D,E,F,G⟩,_⟩:=kN<|(a.B _ x).T u
 go_wp21;apply(DJ m n c d e f g i j k l b (s.to a) (q.ku a) r).M;rintro y L ⟨rfl,t⟩;have a:=(a.T<|t.M a.size)
 go_wp21;go_ret;exact⟨Z,p.T<|a.M Y⟩
def zg:∀d,LA d
 |0=>xD 0 λb a=>Y
 |d+1=>xD (d+1) λb a=>(Nat.succ.inj a)▸vW d (zg d)
def DM(a:Nat):LB a:=vW a<|zg a
def Fi(z a ab ac ad A B)(C D:Nat)(E)(F G:Nat)(I)(J K:Nat)(r L:Nat)(M N O P aE aF aG aH)(aI:Nat)(ae)(e af:Nat)(Q)(f:Int)(ag:wN z a ab ac ad A B C D E F G I J K r L M N O P aE aF aG aH aI)(ah:kz (kP .u8 De) z a (.slice ae e af) Q)(bi:e<=5)(ai:∀v∈Q,uP A De v f):
  Calls prog 242 #[.pointer r,.int .u8 f,.slice ae e af] a (Ae a):=by
 have aj:=ah.len;have aJ:=ag;have aK:=ah;have aL:=X aj.1;have aM:=X ai;have ak:=ag.sc.lK;have al:=X ak;clear aj ai ak
 go_enter func242,ntmps242
 go_wp21;go_loopw [13] (λR wr=>∃c:Nat,c<=e/\R=c/\Below a a wr) (λR _=>e-(intOf R).toNat)
 .exact⟨0,QZ _,Z,Sf _ _⟩
 obtain⟨c,bj,rfl,w⟩:=hrel;have bk:=w.size;by_cases bl:c<e
 .obtain⟨q,S⟩:∃q,Q[c]?=some q:=Gx<|W aL.o;obtain⟨bm,bn,bo,rfl,bp,aN,s⟩:=(aK.kv (kP.ok .u8 De) λi t=>w.B i<|al.o i t).ll (kP.ok .u8 De) c q S;have am:=aM.o q<|QS S;obtain⟨T,bq,u,rfl,d⟩:=aN.open;rw[u]at am;obtain⟨j,k,rfl,_⟩:=d.form;have an:=s 0 _ Z;have aO:=s 1 _ Z;have aP:=s 2 _ Z;have ao:=s 3 _ Z;rw[Q1]at an;have⟨l,m,n,ap⟩:=q;simp only[Ex.op,Ex.name,Ex.n,Ex.args]at*;have⟨p,aq⟩:=Xq ap.length;rw[<-aq]at ao d;clear aq;obtain⟨br,bs⟩:=nL c e;clear s S u;go_wp21;have aQ:=QV wr (mu l m n j p k) none;have ar:=(w.alloc Y<|mu l m n j p k)
  have au:=X<|QQ wr<|mu l m n j p k;have aR:=(d.kv (kP.ok .u8 T) λi t=>aQ.B i (W<|al.o i t) Uo)
  have⟨av,aw⟩:=Xq wr.heap.size;rw[<-aw]at au⊢;have aS:av<(wr.alloc<|mu l m n j p k).heap.size:=(by rw[QR];omega);have aT:a<=(wr.alloc<|mu l m n j p k).heap.size:=(by rw[QR];omega);generalize wr.alloc (mu l m n j p k)=ax at*;clear aw an aO aP ao;have x:=(aJ.ku ar)
  refine Ri (λq=>Below ax ax q) (mM [(·=.pointer r),(·=.pointer r),(Pp r 1),(·=.agg (ph B C D E F G I J K)),(·=.agg #[.int .u8 l,tx m,n,(j,p,k)]),(·=.tuple (HO f)),(·=.tuple (HO f)),(·=.int .u8 f),(·=Em),(·=.int .i64 0),(·=.int .u8 f),(·=Em),(·=.int .i64 0)]) [] ((Sf _ _).drew) ⟨?_,?_,?_,?_,?_,?_,?_,?_,?_,?_,?_,?_,?_,trivial⟩ ?_;exact .f 0;exact .v 18 0;exact .v 19 1;intro ay a b U d u az;have bt:=Sv 20 d 2;have⟨aU,aV,aW,aX,aY,aZ,ba,bb,bc⟩:=tT (x.ku b).bd.ll;exact .q (g:=⟨Z,b,Qa⟩);intro ay a b U d u az;have bu:=Sl 7<|U 7 Z;have⟨⟨bv,bw,bx,bz⟩,_⟩:=kN<|(b.B av aS).T au.o;exact .q (g:=⟨Z,b,Qa⟩);intro ay a b U d u az;have bA:=Sv 21 d 3;have bB:=Sv 22 d 4;refine .c (DM T z a ab ac ad A B C D E F G I J K j p k l n m ap f (x.ku b).sc (aR.kv (kP.ok .u8 T) λi t=>b.B i<|x.sc.lK i t) am) ?_;rintro v bC ⟨bd,be⟩;subst bd;exact⟨_,Z,Z,b.T<|be.M b.size,Qe⟩;exact .v 23 5;exact .v 17 6;exact .v 17 6;exact .v 17 6;exact .v 24 7;exact .v 25 8;exact .v 26 9;intro V bD aA y bf;have aB:V 10=.int .u8 f:=y 10 Un;have aC:V 11=Em:=y 11 Un;have aD:V 12=.int .i64 0:=y 12 Un;have bg:=(ar.T<|aA.M aT)
  have aa:=(x.ku aA)
  clear y bf;simp only[nx,aB,aC,aD];clear aB aC aD;have⟨aU,aV,aW,aX,aY,aZ,ba,bb,bc⟩:=tT aa.bd.ll;go_wp21;apply(ub L M N O P _ _ aa.CY).M;rintro v bh ⟨rfl,rfl⟩;go_wp21;apply(mj L M N O P _ _ _ aa.CY).M;rintro v bh ⟨rfl,rfl⟩;go_wp21;go_roundw
  .exact⟨c+1,Y,Ur,bg⟩
  simp[intOf];omega
 obtain rfl:e=c:=Y;go_wp21
 go_end0
 exact⟨Z,w⟩
def BF(w b V aa ab K ac)(ad ae:Nat)(af)(ag ah:Nat)(ai)(aj ak:Nat)(k x:Nat)(z A B C al am an ao)(ap:Nat)(D)(j E:Nat)(L)(l:Co)(aq:R0)(F:RK)(c:Hd)(first:Nat)(M:wN w b V aa ab K ac ad ae af ag ah ai aj ak k x z A B C al am an ao ap)(a:kz (kP .u8 De) w b (.slice D j E) L)(aP:j<=5)(ar:∀y∈L,uP K De y 1)
  (aQ:wk w b l aq) (bk:l.lJ.length<=1000) (au:∀aR∈l.lJ,aR.length<=1000) (f:(l.lJ.flatten.find? λN=>N.name==F)=some c) (av:j=c.params.length+first):
  Calls prog 243 #[.pointer k,aq,tx F,.slice D j E,first] b (Ae b):=by
 obtain⟨aw,ax,ay,O,P,Q,rfl,bl,az⟩:=aQ;have aS:=az.len.1;have R:Below b b<|b.alloc<|.cells (hR l.name aw ax ay O P Q) 112:=Ba _ _;have aT:=(qJ w _ O P Q l.lJ F (az.kv (nj.ok _) λm r=>R.B m<|M.sc.lK m r) Y au λm r=>QO (M.sc.lK m r) R.size)
 have G:=M;have aU:=a;have aV:=ar;have aW:=X f;have aX:=X av;have bm:(b.alloc<|.cells (hR l.name aw ax ay O P Q) 112).heap.size=b+1:=Uo
 clear ar au f aS av
 go_enter func243,ntmps243
 go_wp21;apply aT.M;rintro y n ⟨aA,_,aY⟩;obtain⟨a,rfl,p,e,q,s,t,u,rfl,aZ,_⟩:=aA c aW.o;have aB:=aZ.len.1;have bn:IntKind.i64.wrap ((j:Int)-(first:Int))=(e:Int):=by have:=aX.o;rw[aB]at this;simp[IntKind.wrap,IntKind.bits,IntKind.signed];omega
 have I:=(R.T<|aY.M Y)
 have S:b.heap.size<=n:=I.size;clear aA aB;have J:=(G.ku<|I.alloc S<|.cells (hR c.name p e q s t u) 125)
 have ba:=(I.alloc S<|.cells (hR c.name p e q s t u) 125)
 have aC:=X<|QQ n<|.cells (hR c.name p e q s t u) 125;have bo:k<n:=QO (QP.1 G.bd.ll).1 S;have⟨aD,aE,aF,aG,aH,aI,aJ,aK,aL⟩:=tT (G.ku I).bd.ll;go_wp21;apply(mj x z A B C _ _ _ J.CY).M;rintro y bp ⟨rfl,rfl⟩;have⟨T,aM⟩:=Xq n.heap.size;rw[<-aM]at aC⊢;have bb:T<(n.alloc<|.cells (hR c.name p e q s t u) 125).heap.size:=by rw[QR];omega
 have bc:b<=(n.alloc<|.cells (hR c.name p e q s t u) 125).heap.size:=by rw[QR];omega
 generalize n.alloc (.cells (hR c.name p e q s t u) 125)=aN at*;clear aM aD aE aF aG aH aI aJ aK aL;go_wp21;refine Ri (λN=>Below aN aN N) (mM [(·=.pointer k),(·=.pointer k),(·=.pointer k),(·=.pointer x),(·=.slice D j E),(·=j),(·=first),(·=e),(Pp T 1),(·=.slice p e q),(·=e),(·=.bool true),(·=tx F),(·=.bool true)]) [] ((Sf _ _).drew) ⟨?_,?_,?_,?_,?_,?_,?_,?_,?_,?_,?_,?_,?_,?_,trivial⟩ ?_
 .exact .f 0
 .exact .v 26 0
 .exact .v 27 1
 .intro v b d f a c i;have bq:=Sv 28 a 2;have⟨aD,aE,aF,aG,aH,aI,aJ,aK,aL⟩:=tT (J.ku d).bd.ll;exact .q (g:=⟨Z,d,Qa⟩)
 .exact .f 3
 .intro v b d f a c i;have br:=Sv 30 a 4;exact .q (g:=⟨Z,d,Qa⟩)
 .exact .f 4
 .intro v b d f a c i;have bs:=Sv 31 a 5;have bt:=Sv 32 a 6;exact .q (g:=⟨Z,d,Qa⟩)
 .exact .f 10
 .intro v b d f a c i;have bu:=Sv 34 a 8;have⟨⟨bv,bw,bx⟩,_⟩:=lg<|(d.B T bb).T aC.o;exact .q (g:=⟨Z,d,Qa⟩)
 .intro v b d f a c i;have bz:=Sv 35 a 9;exact .q (g:=⟨Z,d,Qa⟩)
 .intro v b d f a c i;have bA:=Sv 33 a 7;have bB:=Sv 36 a 10;have r:((e:Int)==(e:Int))=true:=Uo;exact .q (g:=⟨Z,d,Qa⟩)
 .exact .f 2
 .intro v b d f a c i;have bC:=Sv 29 a 3;have bD:=Sv 37 a 11;have bE:=Sv 38 a 12;clear f a c i;refine .h λbF bd=>?_;go_simp;refine⟨Z,?_⟩;refine Calls.M (mj x z A B C b _ _ (J.ku d).CY) ?_;rintro y bG ⟨be,i⟩;subst i;subst be;exact⟨_,Z,bd ⟨Z,d,Qe⟩⟩
 intro bH bf aO bg bh;have U:=(ba.T<|aO.M bc)
 have bi:=(J.ku aO)
 clear bg bh;simp only[nx];go_wp21;refine(Fi w bf V aa ab K ac ad ae af ag ah ai aj ak k x z A B C al am an ao ap D j E L 1 bi (aU.kv (kP.ok .u8 De) λm r=>U.B m<|G.sc.lK m r) aP aV).M ?_;rintro y bI ⟨rfl,bj⟩;go_wp21
 go_end0
 exact⟨Z,U.T<|bj.M U.size⟩
def yE(T b aE aF aG D aH)(aI aJ:Nat)(aK)(aL aM:Nat)(aN)(aO aP:Nat)(n N:Nat)(aY aZ ba bZ ao ap aq aQ)(aR:Nat)(bH ax)(ar ay:Nat)(bj:wN T b aE aF aG D aH aI aJ aK aL aM aN aO aP n N aY aZ ba bZ ao ap aq aQ aR)(bk:uw T b D bH ax ar ay ao ap aq)(cu:bZ=.slice ax ar ay)(d:Nat)(P:Int)(am au:RK)(Q:List Ex)(bl bm:List St)(O:RE)(E K:Nat)(U V)(dh:U.oneCell'=true)(bR:V.oneCell'=true)
  (c:kz (kP .u8 De) T b (O,E,K) Q) (aS:Hf D bH (d+1)<|.mk P am au Q bl bm):
  Calls prog 228 #[.pointer n,.agg #[.int .u8 P,tx am,tx au,(O,E,K),U,V]] b (Ae b):=by
 subst cu;have ca:=c.len;have ab:Below b b<|b.alloc<|L7 P am au O E K U V:=Ba _ _;have cb:=QQ b<|L7 P am au O E K U V;have cv:(b.alloc<|L7 P am au O E K U V).heap.size=b+1:=Uo
 have q:=(bj.ku ab)
 have bg:=(bk.kv λe F=>ab.B e<|bj.sc.lK e F)
 have bI:=(c.kv (kP.ok .u8 De) λe F=>ab.B e<|bj.sc.lK e F)
 have av:=X ca.1;have z:=X cb;have aA:=bj.sc.JI;have cw:(mR D (d+1) (.mk P am au Q bl bm)/\(St.mk P am au Q bl bm).kind≠6/\1<=D.ints)\/Dc D bH (.mk P am au Q bl bm):=by
  rcases aS with⟨aS,cc⟩|⟨_,aS⟩
  by_cases bJ:(St.mk P am au Q bl bm).kind=6;exact .inr<|bk.send cc aS bJ;exact .inl ⟨aS,bJ,cc⟩;exact .inr aS
 clear aS;have⟨f,p⟩:=Xq<|b.alloc<|L7 P am au O E K U V;rw[<-p]at q bg bI ab z cv;have az:=X p;have bb:=X λ(A:RW) (aa:Below f f A) (cd:Int) (G:E<=5) (cx:∀i∈Q,uP D De i cd)=>Fi T A aE aF aG D aH aI aJ aK aL aM aN aO aP n N aY aZ ba (.slice ax ar ay) ao ap aq aQ aR O E K Q cd (q.ku aa) (bI.kv (kP.ok .u8 De) λe F=>aa.B e<|q.sc.lK e F) G cx;clear bj bk c ca cb p;rcases cw with⟨aS,bJ,bh⟩|⟨B,_,_,⟨R,j,ce,bn,bo,bp,bK⟩,cy,L⟩
 rotate_left
 .simp only[St.kind,St.name,St.hd,St.lp,St.th,St.el]at*;have S:P=6:=B;subst S;have bq:∀i∈Q,uP D De i 1:=λi C=>.num<|L i C;have br:E=j.params.length+0:=W av.o;have bS:E<=5:=W av.o;have cz:=X ce;have bT:=X bp;have bs:=On bn bo;have bU:=X br;have bV:=X bq;have cA:ar<=1000:=Ul bg.cs.len.1 bg.len;clear bn bo bp ce L bq br bK cy
  go_enter func228,ntmps228
  go_wp21;have p:f=b.alloc (.cells #[.int .u8 6,tx am,tx au,(O,E,K),U,V] 198):=(by rw[az.o]);rw[<-p];clear p;have⟨l,y⟩:=Xq b.heap.size;rw[<-y]at z⊢;have M:l<f:=Y;clear y;refine JG (λac=>Below f f ac) (mM [(·=.pointer n),(·=.pointer n),(·=.pointer n),(·=.pointer N),(·=.pointer N),(·=.pointer N),(Pp N 3),(·=.slice ax ar ay),(Pp l 1),(·=tx am),Tr,Tr,Tr,(·=.bool true),Tr,Tr,(·=.bool true)]) [(10,10,λaT _ b=>∃(s:RE),∃(t u:Nat),∃(v:RE),∃(w x:Nat),aT=.tuple #[.agg<|hR R.name s t u v w x,true]/\wk T f R (.agg<|hR R.name s t u v w x)),(11,11,λaT _ b=>∃(s:RE),∃(t u:Nat),∃(v:RE),∃(w x:Nat),aT=.tuple #[.agg<|hR R.name s t u v w x,true]/\wk T f R (.agg<|hR R.name s t u v w x)),(12,12,λaT _ b=>∃(s:RE),∃(t u:Nat),∃(v:RE),∃(w x:Nat),aT=.agg (hR R.name s t u v w x)/\wk T f R (.agg<|hR R.name s t u v w x)),(14,14,λaT _ b=>∃(o:Nat),aT=.pointer o/\Nw f b o/\∃bL K bM:R0,b.heap[o]?=some (.cells #[bL,K,bM] 112)),(15,14,λaT ac b=>∃(o:Nat),∃(s:RE),∃(t u:Nat),∃(v:RE),∃(w x:Nat),ac=.pointer o/\Nw f b o/\b.heap[o]?=some (.cells (hR R.name s t u v w x) 112)/\wk T f R (.agg<|hR R.name s t u v w x))] ((Sf _ _).drew) ⟨?_,?_,?_,?_,?_,?_,?_,?_,?_,?_,?_,?_,?_,?_,?_,?_,?_,trivial⟩ ?_;exact .f 0;exact .v 80 0;exact .v 81 1;intro r b a m c j k;have di:=Sv 82 c 2;have⟨bt,bu,bv,bw,bx,bz,bA,bB,bC⟩:=tT (q.ku a).bd.ll;exact .q (g:=⟨Z,a,Ra⟩);exact .v 83 3;exact .v 84 4;exact .v 85 5;intro r b a m c j k;have⟨dj,cB⟩:=(q.ku a).CY;exact .l 86 (c 6 _ Z Z) (kt cB 3) ⟨Z,a,Ra⟩;exact .f 3;intro r b a m c j k;have dk:=Sv 88 c 8;have⟨⟨ad,ae,af,ag,ah,ai⟩,_⟩:=mg<|(a.B l M).T z.o;exact .q (g:=⟨Z,a,Ra⟩);intro r b a m c j k;have dl:=Sv 87 c 7;have dm:=Sv 89 c 9;refine .c (qY T b ax ar ay bH am (bg.cs.kv (mr.ok _) λe F=>a.B e<|q.sc.lK e F) cA λe F=>QO (q.sc.lK e F) a.size) ?_;rintro i w' ⟨cC,_,aj⟩;obtain⟨dn,rfl,cD⟩:=cC R cz.o;have cE:=cD.kv (w':=f) λe F=>(a.B e<|q.sc.lK e F).symm;obtain⟨s,t,u,v,w,x,rfl,cF,cG⟩:=cE;exact⟨_,Z,⟨trivial,a.T<|aj.M a.size,Rc (λ_ _=>⟨s,t,u,v,w,x,Z,_,_,_,_,_,_,Z,cF,cG⟩)<|Rb<|Rb<|Rd (λbN _ ⟨o,i,J,bL,cf,bM,B⟩=>⟨o,i,⟨J.1,QO J.2 ((NK.ku (w0:=f) aj)).1⟩,bL,cf,bM,(((NK.ku (w0:=f) aj)).2 o J).T B⟩)<|Rb<|Qe⟩⟩;intro r b a m c j k;obtain⟨s,t,u,v,w,x,cH,cI⟩:=j _ (Mm 0 Z) _ _ Z Z Z;exact .p 90 cH ⟨trivial,a,Rb<|Rc (λ_ _=>⟨s,t,u,v,w,x,Z,cI⟩)<|Ra⟩;intro r b a m c j k;obtain⟨s,t,u,v,w,x,bW,cg⟩:=j _ (Mm 1 Z) _ _ Z Z Z;exact .p 79 bW ⟨trivial,a,Rb<|Rb<|Rc (λ_ _=>⟨s,t,u,v,w,x,Z,cg⟩)<|Ra⟩;intro r b a m c j k;obtain⟨s,t,u,v,w,x,bW,cg⟩:=j _ (Mm 1 Z) _ _ Z Z Z;exact .p 79 bW ⟨Z,a,Ra⟩;intro r b a m c j k;have cJ:=a.size;exact .q (g:=⟨trivial,a.alloc a.size _,Rd (λbN _ ⟨s,t,u,v,w,x,i,bD⟩=>⟨s,t,u,v,w,x,i,bD⟩)<|Rd (λbN _ ⟨s,t,u,v,w,x,i,bD⟩=>⟨s,t,u,v,w,x,i,bD⟩)<|Rd (λbN _ ⟨s,t,u,v,w,x,i,bD⟩=>⟨s,t,u,v,w,x,i,bD⟩)<|Rc (λ_ _=>⟨_,Z,⟨cJ,Uo⟩,_,_,_,QQ _ _⟩)<|Rb<|Qe⟩);intro r b a m c j k;obtain⟨o,ch,bE,bL,cf,bM,ci⟩:=j _ (Mm 3 Z) _ _ Z Z Z;have dp:=Sl 5 ch;obtain⟨s,t,u,v,w,x,cK,cL⟩:=j _ (Mm 2 Z) _ _ Z Z Z;have dq:=Sl 91 cK;have⟨⟨dr,ds,dt⟩,du,dv,dw⟩:=lg ci;exact .q (g:=⟨trivial,kD (kD (kD a bE.1) bE.1) bE.1,Rb<|Rb<|Rb<|Rd (λbN _ ⟨cM,aw,J,cN⟩=>⟨cM,aw,⟨J.1,by simp only[QU];exact J.2⟩,nB (nB (nB cN _ _ _ Un) _ _ _ Un) _ _ _ Un⟩)<|Rc (λok B=>by(injection B with B;subst B;rw[Rh<|show¬(14:Nat)=15 from Un];exact⟨o,s,t,u,v,w,x,ch,⟨bE.1,by simp only[QU];exact bE.2⟩,kr<|kr<|kr ci,cL⟩))<|Qe⟩);exact .v 92 13;intro aU bd an aB aC;have⟨o,s,t,u,v,w,x,cj,ck,cO,cP⟩:=(show(λ(aT:R0) (ac:R0) (b:RW)=>∃(o:Nat),∃(s:RE),∃(t u:Nat),∃(v:RE),∃(w x:Nat),ac=.pointer o/\Nw f b o/\b.heap[o]?=some (.cells (hR R.name s t u v w x) 112)/\wk T f R (.agg<|hR R.name s t u v w x)) (aU 15) (aU 14) bd from aC _ (List.Mem.tail _<|List.Mem.tail _<|List.Mem.tail _<|List.Mem.tail _<|List.Mem.head _) (show(15:Nat)<17 from Un)<|show(14:Nat)<17 from Un)
  have bR:aU 14=.pointer o:=cj;have cl:aU 16=.bool true:=aB 16 Un;have I:=X an;have cQ:=ck.2;clear aB aC an cj ck;simp only[nx,bR,cl];clear bR cl;go_wp21;refine Ri (λac=>Below bd bd ac) (mM [(·=.pointer n),(·=.pointer n),(·=.pointer n),(·=.pointer N),(·=.bool true),(Pp l 1),(·=tx am),(·=.bool true)]) [] ((Sf _ _).drew) ⟨?_,?_,?_,?_,?_,?_,?_,?_,trivial⟩ ?_;exact .f 0;exact .v 93 0;exact .v 94 1;intro r b a m c j k;have dx:=Sv 95 c 2;have bF:=I.o.T<|a.M I.o.size;have⟨bt,bu,bv,bw,bx,bz,bA,bB,bC⟩:=tT (q.ku bF).bd.ll;clear bF;exact .q (g:=⟨Z,a,Qa⟩);exact .f 6;exact .f 3;intro r b a m c j k;have dy:=Sv 98 c 5;have bF:=I.o.T<|a.M I.o.size;have⟨⟨ad,ae,af,ag,ah,ai⟩,_⟩:=mg<|(bF.B l M).T z.o;clear bF;exact .q (g:=⟨Z,a,Qa⟩);intro r b a m c j k;have dz:=Sv 96 c 3;have dA:=Sv 97 c 4;have dB:=Sv 99 c 6;clear m c j k;refine .h λbO aV=>?_;go_simp;refine⟨Z,?_⟩;refine Calls.M (mj N aY aZ ba (.slice ax ar ay) b _ _ (q.ku<|I.o.T<|a.M I.o.size).CY) ?_;rintro i w' ⟨ak,k⟩;subst k;subst ak;exact⟨_,Z,aV ⟨Z,a,Qe⟩⟩;intro aU cR bX cS cT;have bi:=(I.o.T<|bX.M I.o.size)
  have⟨⟨dC,dD,dE⟩,_⟩:=lg<|(bX.B o cQ).T cO;have⟨⟨ad,ae,af,ag,ah,ai⟩,_⟩:=mg<|(bi.B l M).T z.o;clear cS cT bX;simp only[nx];go_wp21;refine(BF T cR aE aF aG D aH aI aJ aK aL aM aN aO aP n N aY aZ ba (.slice ax ar ay) ao ap aq aQ aR O E K Q R _ au j 0 (q.ku bi) (bI.kv (kP.ok .u8 De) λe F=>bi.B e<|q.sc.lK e F) bS bV.o (cP.kv λe F=>bi.B e<|q.sc.lK e F) bs.o.1 bs.o.2 bT.o bU.o).M ?_;rintro aw bc ⟨rfl,J⟩;go_wp21
  go_end0
  exact⟨Z,ab.T<|(bi.T<|J.M bi.size).M Y⟩
 rcases aS with⟨B,_,_,_,dF,C,bk⟩|⟨B,bG,aD,_,_,_,aW,cU,C,al,aj⟩|⟨B,bG,aD,_,_,_,aW,C,al⟩|⟨B,_,_,⟨aW,C,al⟩,_,_⟩|⟨B,_,_,_,⟨aW,C,al⟩,_⟩|⟨B,_,_,⟨dG,bY,e,aW,bP,bQ,aD,cm,bK⟩,L⟩|⟨B,_,_,_,⟨bY,e,aW,bP,bQ,cm,bK⟩,L⟩|⟨B,_,_,_,⟨aW,cU,C,al,aj⟩,_⟩|⟨B,_,_,⟨e,F,aD⟩,⟨aW,C,al⟩,_⟩|⟨B,_,_,_,_,C⟩
 .simp only[St.kind,St.name,St.hd,St.lp,St.th,St.el]at*;have S:P=1:=B;subst S;rcases bk with⟨e,F,aD,al⟩|⟨aD,al⟩
  .subst aD;have aX:=X λ(A:RW) (aa:Below f f A)=>(show Calls prog 241 #[.pointer n,tx<|nm 120 e] A (kG (.int .u8 1) A)from pA T A aE aF aG D aH aI aJ aK aL aM aN aO aP n N ao ap aq aQ aR (nm 120 e) ⟨nm 120 e,1,e⟩ (q.ku aa).sc (q.ku aa).bd (aA.int e F).1 (aA.int e F).2);have L:∀i∈Q,uP D De i 1:=by rw[C];intro i G;simp at G;rw[G];exact .num al
   go_enter func228,ntmps228
   go_wp21;have p:f=b.alloc (.cells #[.int .u8 1,tx<|nm 120 e,tx [],(O,E,K),U,V] 198):=(by rw[az.o];simp[*]);rw[<-p];clear p;have⟨l,y⟩:=Xq b.heap.size;rw[<-y]at z⊢;have M:l<f:=Y;clear y;apply(aX.o _<|Sf _ _).M;rintro aw cV ⟨rfl,be⟩;have bf:=X be;have⟨⟨ad,ae,af,ag,ah,ai⟩,_⟩:=mg<|(be.B l M).T z.o;clear be;go_wp21;refine(bb.o _ bf.o 1 (by have:=av.o;rw[C]at this;simp at this;omega) L).M ?_;rintro aw bc ⟨rfl,J⟩;go_wp21
   go_end0
   exact⟨Z,ab.T<|(bf.o.T<|J.M bf.o.size).M Y⟩
  subst aD;have aX:=X λ(A:RW) (aa:Below f f A)=>(show Calls prog 241 #[.pointer n,tx<|nm 98 0] A (kG (.int .u8 2) A)from pA T A aE aF aG D aH aI aJ aK aL aM aN aO aP n N ao ap aq aQ aR (nm 98 0) ⟨nm 98 0,2,0⟩ (q.ku aa).sc (q.ku aa).bd (aA.PL bh).1 (aA.PL bh).2);have L:∀i∈Q,uP D De i 2:=by rw[C];intro i G;simp at G;rw[G];exact .JJ bh al
  go_enter func228,ntmps228
  go_wp21;have p:f=b.alloc (.cells #[.int .u8 1,tx<|nm 98 0,tx [],(O,E,K),U,V] 198):=(by rw[az.o];simp[*]);rw[<-p];clear p;have⟨l,y⟩:=Xq b.heap.size;rw[<-y]at z⊢;have M:l<f:=Y;clear y;apply(aX.o _<|Sf _ _).M;rintro aw cV ⟨rfl,be⟩;have bf:=X be;have⟨⟨ad,ae,af,ag,ah,ai⟩,_⟩:=mg<|(be.B l M).T z.o;clear be;go_wp21;refine(bb.o _ bf.o 2 (by have:=av.o;rw[C]at this;simp at this;omega) L).M ?_;rintro aw bc ⟨rfl,J⟩;go_wp21
  go_end0
  exact⟨Z,ab.T<|(bf.o.T<|J.M bf.o.size).M Y⟩
 .simp only[St.kind,St.name,St.hd,St.lp,St.th,St.el]at*;have S:P=2:=B;subst S;subst aD;have aX:=X λ(A:RW) (aa:Below f f A)=>(show Calls prog 241 #[.pointer n,tx<|nm 116 0] A (kG (.int .u8 3) A)from pA T A aE aF aG D aH aI aJ aK aL aM aN aO aP n N ao ap aq aQ aR (nm 116 0) ⟨nm 116 0,3,0⟩ (q.ku aa).sc (q.ku aa).bd (aA.table bG).1 (aA.table bG).2);have L:∀i∈Q,uP D De i 1:=by rw[C];intro i G;simp at G;rcases G with rfl|rfl;exact .num al;exact .num aj
  go_enter func228,ntmps228
  go_wp21;have p:f=b.alloc (.cells #[.int .u8 2,tx<|nm 116 0,tx [],(O,E,K),U,V] 198):=(by rw[az.o];simp[*]);rw[<-p];clear p;have⟨l,y⟩:=Xq b.heap.size;rw[<-y]at z⊢;have M:l<f:=Y;clear y;refine Ri (λac=>Below f f ac) (mM [(·=.pointer n),(·=.pointer n),(·=.pointer n),(·=.pointer N),(·=.pointer n),(Pp l 1),(·=tx (nm 116 0)),(·=.int .u8 3),(·=.bool true),(Pp l 1),(·=tx (nm 116 0)),(·=.bool true)]) [] ((Sf _ _).drew) ⟨?_,?_,?_,?_,?_,?_,?_,?_,?_,?_,?_,?_,trivial⟩ ?_;exact .f 0;exact .v 36 0;exact .v 37 1;intro r b a m c j k;have cW:=Sv 38 c 2;have⟨bt,bu,bv,bw,bx,bz,bA,bB,bC⟩:=tT (q.ku a).bd.ll;exact .q (g:=⟨Z,a,Qa⟩);exact .f 0;exact .f 3;intro r b a m c j k;have cX:=Sv 41 c 5;have⟨⟨ad,ae,af,ag,ah,ai⟩,_⟩:=mg<|(a.B l M).T z.o;exact .q (g:=⟨Z,a,Qa⟩);intro r b a m c j k;have cY:=Sv 40 c 4;have cZ:=Sv 42 c 6;refine .c (aX.o b a) ?_;rintro i w' ⟨ak,aj⟩;subst ak;exact⟨_,Z,Z,a.T<|aj.M a.size,Qe⟩;intro r b a m c j k;have da:=Sv 43 c 7;exact .q (g:=⟨Z,a,Qa⟩);exact .f 3;intro r b a m c j k;have db:=Sv 45 c 9;have⟨⟨ad,ae,af,ag,ah,ai⟩,_⟩:=mg<|(a.B l M).T z.o;exact .q (g:=⟨Z,a,Qa⟩);intro r b a m c j k;have dc:=Sv 39 c 3;have dd:=Sv 44 c 8;have de:=Sv 46 c 10;clear m c j k;refine .h λbO aV=>?_;go_simp;refine⟨Z,?_⟩;refine Calls.M (mj N aY aZ ba (.slice ax ar ay) b _ _ (q.ku a).CY) ?_;rintro i w' ⟨ak,k⟩;subst k;subst ak;exact⟨_,Z,aV ⟨Z,a,Qe⟩⟩;intro aU bd an aB aC;have I:=X an;clear aB aC an;simp only[nx];have⟨⟨ad,ae,af,ag,ah,ai⟩,_⟩:=mg<|(I.o.B l M).T z.o;go_wp21;refine(bb.o _ I.o 1 (by have:=av.o;rw[C]at this;simp at this;omega) L).M ?_;rintro aw bc ⟨rfl,J⟩;go_wp21
  go_end0
  exact⟨Z,ab.T<|(I.o.T<|J.M I.o.size).M Y⟩
 .simp only[St.kind,St.name,St.hd,St.lp,St.th,St.el]at*;have S:P=3:=B;subst S;subst aD;have aX:=X λ(A:RW) (aa:Below f f A)=>(show Calls prog 241 #[.pointer n,tx<|nm 116 0] A (kG (.int .u8 3) A)from pA T A aE aF aG D aH aI aJ aK aL aM aN aO aP n N ao ap aq aQ aR (nm 116 0) ⟨nm 116 0,3,0⟩ (q.ku aa).sc (q.ku aa).bd (aA.table bG).1 (aA.table bG).2);have L:∀i∈Q,uP D De i 1:=by rw[C];intro i G;simp at G;rw[G];exact .num al
  go_enter func228,ntmps228
  go_wp21;have p:f=b.alloc (.cells #[.int .u8 3,tx<|nm 116 0,tx [],(O,E,K),U,V] 198):=(by rw[az.o];simp[*]);rw[<-p];clear p;have⟨l,y⟩:=Xq b.heap.size;rw[<-y]at z⊢;have M:l<f:=Y;clear y;refine Ri (λac=>Below f f ac) (mM [(·=.pointer n),(·=.pointer n),(·=.pointer n),(·=.pointer N),(·=.pointer n),(Pp l 1),(·=tx (nm 116 0)),(·=.int .u8 3),(·=.bool true),(Pp l 1),(·=tx (nm 116 0)),(·=.bool true)]) [] ((Sf _ _).drew) ⟨?_,?_,?_,?_,?_,?_,?_,?_,?_,?_,?_,?_,trivial⟩ ?_;exact .f 0;exact .v 36 0;exact .v 37 1;intro r b a m c j k;have cW:=Sv 38 c 2;have⟨bt,bu,bv,bw,bx,bz,bA,bB,bC⟩:=tT (q.ku a).bd.ll;exact .q (g:=⟨Z,a,Qa⟩);exact .f 0;exact .f 3;intro r b a m c j k;have cX:=Sv 41 c 5;have⟨⟨ad,ae,af,ag,ah,ai⟩,_⟩:=mg<|(a.B l M).T z.o;exact .q (g:=⟨Z,a,Qa⟩);intro r b a m c j k;have cY:=Sv 40 c 4;have cZ:=Sv 42 c 6;refine .c (aX.o b a) ?_;rintro i w' ⟨ak,aj⟩;subst ak;exact⟨_,Z,Z,a.T<|aj.M a.size,Qe⟩;intro r b a m c j k;have da:=Sv 43 c 7;exact .q (g:=⟨Z,a,Qa⟩);exact .f 3;intro r b a m c j k;have db:=Sv 45 c 9;have⟨⟨ad,ae,af,ag,ah,ai⟩,_⟩:=mg<|(a.B l M).T z.o;exact .q (g:=⟨Z,a,Qa⟩);intro r b a m c j k;have dc:=Sv 39 c 3;have dd:=Sv 44 c 8;have de:=Sv 46 c 10;clear m c j k;refine .h λbO aV=>?_;go_simp;refine⟨Z,?_⟩;refine Calls.M (mj N aY aZ ba (.slice ax ar ay) b _ _ (q.ku a).CY) ?_;rintro i w' ⟨ak,k⟩;subst k;subst ak;exact⟨_,Z,aV ⟨Z,a,Qe⟩⟩;intro aU bd an aB aC;have I:=X an;clear aB aC an;simp only[nx];have⟨⟨ad,ae,af,ag,ah,ai⟩,_⟩:=mg<|(I.o.B l M).T z.o;go_wp21;refine(bb.o _ I.o 1 (by have:=av.o;rw[C]at this;simp at this;omega) L).M ?_;rintro aw bc ⟨rfl,J⟩;go_wp21
  go_end0
  exact⟨Z,ab.T<|(I.o.T<|J.M I.o.size).M Y⟩
 .simp only[St.kind,St.name,St.hd,St.lp,St.th,St.el]at*;have S:P=4:=B;subst S;have L:∀i∈Q,uP D De i 2:=by rw[C];intro i G;simp at G;rw[G];exact .JJ bh al
  go_enter func228,ntmps228
  go_wp21;have p:f=b.alloc (.cells #[.int .u8 4,tx [],tx [],(O,E,K),U,V] 198):=(by rw[az.o];simp[*]);rw[<-p];clear p;have⟨l,y⟩:=Xq b.heap.size;rw[<-y]at z⊢;clear y;refine(bb.o _ (Sf _ _) 2 (by have:=av.o;rw[C]at this;simp at this;omega) L).M ?_;rintro aw bc ⟨rfl,J⟩;go_wp21
  go_end0
  exact⟨Z,ab.T<|(J).M Y⟩
 .simp only[St.kind,St.name,St.hd,St.lp,St.th,St.el]at*;have S:P=5:=B;subst S;have L:∀i∈Q,uP D De i 2:=by rw[C];intro i G;simp at G;rw[G];exact .JJ bh al
  go_enter func228,ntmps228
  go_wp21;have p:f=b.alloc (.cells #[.int .u8 5,tx [],tx [],(O,E,K),U,V] 198):=(by rw[az.o];simp[*]);rw[<-p];clear p;have⟨l,y⟩:=Xq b.heap.size;rw[<-y]at z⊢;clear y;refine(bb.o _ (Sf _ _) 2 (by have:=av.o;rw[C]at this;simp at this;omega) L).M ?_;rintro aw bc ⟨rfl,J⟩;go_wp21
  go_end0
  exact⟨Z,ab.T<|(J).M Y⟩
 .exact absurd B bJ
 .simp only[St.kind,St.name,St.hd,St.lp,St.th,St.el]at*;have S:P=7:=B;subst S;subst cm;have bq:∀i∈Q,uP D De i 1:=λi C=>.num<|L i C;have⟨R,cn,co⟩:=bg.own;have⟨_,_,cp,cq⟩:=bg.hd bh;have⟨df,cr,cs,bn,bo⟩:=cq D.own R bY cn bP;have⟨j,bp,ct⟩:=H0 cr df cs bQ;have dH:aW<=2:=cp bY (QS bP) aW<|QS bQ;clear cp cq;have br:E=j.params.length+1:=(by rw[ct,lR];have:=av.o;omega);have bS:E<=5:=W av.o;have bT:=X bp;have bs:=On bn bo;have bU:=X br;have bV:=X bq;have dg:=X co;clear cn co cr cs bn bo ct bp L bq br bK bP bQ
  go_enter func228,ntmps228
  go_wp21;have p:f=b.alloc (.cells #[.int .u8 7,tx [],tx<|nm 104 e,(O,E,K),U,V] 198):=(by rw[az.o];simp[*]);rw[<-p];clear p;have⟨l,y⟩:=Xq b.heap.size;rw[<-y]at z⊢;have M:l<f:=Y;clear y;refine Ri (λac=>Below f f ac) (mM [(·=.pointer n),(·=.pointer n),(·=.pointer n),(Pp n 4),(·=.agg #[ao,ap,aq]),(Pp l 2),(·=tx (nm 104 e)),(Pp l 3),(·=.slice O E K),Tr]) [] ((Sf _ _).drew) ⟨?_,?_,?_,?_,?_,?_,?_,?_,?_,?_,trivial⟩ ?_;exact .f 0;exact .f 0;exact .v 111 1;exact .v 112 2;intro r b a m c j k;have dI:=Sv 113 c 3;have⟨bt,bu,bv,bw,bx,bz,bA,bB,bC⟩:=tT (q.ku a).bd.ll;exact .q (g:=⟨Z,a,Qa⟩);exact .f 3;intro r b a m c j k;have dJ:=Sv 115 c 5;have⟨⟨ad,ae,af,ag,ah,ai⟩,_⟩:=mg<|(a.B l M).T z.o;exact .q (g:=⟨Z,a,Qa⟩);exact .f 3;intro r b a m c j k;have dK:=Sv 117 c 7;have⟨⟨ad,ae,af,ag,ah,ai⟩,_⟩:=mg<|(a.B l M).T z.o;exact .q (g:=⟨Z,a,Qa⟩);intro r b a m c j k;have dL:=Sv 110 c 0;have dM:=Sv 114 c 4;have dN:=Sv 116 c 6;have dO:=Sv 118 c 8;clear m c j k;refine .h λbO aV=>?_;go_simp;refine⟨Z,?_⟩;refine Calls.M (BF T b aE aF aG D aH aI aJ aK aL aM aN aO aP n N aY aZ ba (.slice ax ar ay) ao ap aq aQ aR O E K Q R (.agg #[ao,ap,aq]) (nm 104 e) j 1 (q.ku a) (bI.kv (kP.ok .u8 De) λe F=>a.B e<|q.sc.lK e F) bS bV.o (dg.o.kv λe F=>a.B e<|q.sc.lK e F) bs.o.1 bs.o.2 bT.o bU.o) ?_;rintro i w' ⟨ak,aj⟩;subst ak;exact⟨_,Z,aV ⟨trivial,a.T<|aj.M a.size,Qe⟩⟩;intro aU bd an aB aC;have I:=X an;clear aB aC an;simp only[nx];go_wp21
  go_end0
  exact⟨Z,ab.T<|I.o.M Y⟩
 .simp only[St.kind,St.name,St.hd,St.lp,St.th,St.el]at*;have S:P=8:=B;subst S;have L:∀i∈Q,uP D De i 1:=by rw[C];intro i G;simp at G;rcases G with rfl|rfl;exact .num al;exact .num aj
  go_enter func228,ntmps228
  go_wp21;have p:f=b.alloc (.cells #[.int .u8 8,tx [],tx [],(O,E,K),U,V] 198):=(by rw[az.o];simp[*]);rw[<-p];clear p;have⟨l,y⟩:=Xq b.heap.size;rw[<-y]at z⊢;clear y;refine(bb.o _ (Sf _ _) 1 (by have:=av.o;rw[C]at this;simp at this;omega) L).M ?_;rintro aw bc ⟨rfl,J⟩;go_wp21
  go_end0
  exact⟨Z,ab.T<|(J).M Y⟩
 .simp only[St.kind,St.name,St.hd,St.lp,St.th,St.el]at*;have S:P=9:=B;subst S;subst aD;have aX:=X λ(A:RW) (aa:Below f f A)=>(show Calls prog 241 #[.pointer n,tx<|nm 120 e] A (kG (.int .u8 1) A)from pA T A aE aF aG D aH aI aJ aK aL aM aN aO aP n N ao ap aq aQ aR (nm 120 e) ⟨nm 120 e,1,e⟩ (q.ku aa).sc (q.ku aa).bd (aA.int e F).1 (aA.int e F).2);have L:∀i∈Q,uP D De i 1:=by rw[C];intro i G;simp at G;rw[G];exact .num al
  go_enter func228,ntmps228
  go_wp21;have p:f=b.alloc (.cells #[.int .u8 9,tx<|nm 120 e,tx [],(O,E,K),U,V] 198):=(by rw[az.o];simp[*]);rw[<-p];clear p;have⟨l,y⟩:=Xq b.heap.size;rw[<-y]at z⊢;have M:l<f:=Y;clear y;refine Ri (λac=>Below f f ac) (mM [(·=.pointer n),(·=.pointer n),(·=.pointer n),(·=.pointer N),(·=.pointer n),(Pp l 1),(·=tx (nm 120 e)),(·=.int .u8 1),(·=.bool true),(Pp l 1),(·=tx (nm 120 e)),(·=.bool true)]) [] ((Sf _ _).drew) ⟨?_,?_,?_,?_,?_,?_,?_,?_,?_,?_,?_,?_,trivial⟩ ?_;exact .f 0;exact .v 54 0;exact .v 55 1;intro r b a m c j k;have dP:=Sv 56 c 2;have⟨bt,bu,bv,bw,bx,bz,bA,bB,bC⟩:=tT (q.ku a).bd.ll;exact .q (g:=⟨Z,a,Qa⟩);exact .f 0;exact .f 3;intro r b a m c j k;have dQ:=Sv 59 c 5;have⟨⟨ad,ae,af,ag,ah,ai⟩,_⟩:=mg<|(a.B l M).T z.o;exact .q (g:=⟨Z,a,Qa⟩);intro r b a m c j k;have dR:=Sv 58 c 4;have dS:=Sv 60 c 6;refine .c (aX.o b a) ?_;rintro i w' ⟨ak,aj⟩;subst ak;exact⟨_,Z,Z,a.T<|aj.M a.size,Qe⟩;intro r b a m c j k;have dT:=Sv 61 c 7;exact .q (g:=⟨Z,a,Qa⟩);exact .f 3;intro r b a m c j k;have dU:=Sv 63 c 9;have⟨⟨ad,ae,af,ag,ah,ai⟩,_⟩:=mg<|(a.B l M).T z.o;exact .q (g:=⟨Z,a,Qa⟩);intro r b a m c j k;have dV:=Sv 57 c 3;have dW:=Sv 62 c 8;have dX:=Sv 64 c 10;clear m c j k;refine .h λbO aV=>?_;go_simp;refine⟨Z,?_⟩;refine Calls.M (mj N aY aZ ba (.slice ax ar ay) b _ _ (q.ku a).CY) ?_;rintro i w' ⟨ak,k⟩;subst k;subst ak;exact⟨_,Z,aV ⟨Z,a,Qe⟩⟩;intro aU bd an aB aC;have I:=X an;clear aB aC an;simp only[nx];have⟨⟨ad,ae,af,ag,ah,ai⟩,_⟩:=mg<|(I.o.B l M).T z.o;go_wp21;refine(bb.o _ I.o 1 (by have:=av.o;rw[C]at this;simp at this;omega) L).M ?_;rintro aw bc ⟨rfl,J⟩;go_wp21
  go_end0
  exact⟨Z,ab.T<|(I.o.T<|J.M I.o.size).M Y⟩
 .simp only[St.kind,St.name,St.hd,St.lp,St.th,St.el]at*;have S:P=10:=B;subst S
  go_enter func228,ntmps228
  go_wp21;have p:f=b.alloc (.cells #[.int .u8 10,tx [],tx [],(O,E,K),U,V] 198):=(by rw[az.o];simp[*]);rw[<-p];clear p
  go_end0
  exact⟨Z,ab⟩
def DR(p i G I)(l q:Nat)(z A)(t B:Nat)(c:Nat)(u v)(ag:um c u v (.slice I l q) (.slice A t B) i)(ah:kz nT p i (.slice I l q) G)(ai:kz (mr .u8) p i (.slice A t B) z)(aj:OC G z)(bP:z.length<=3)(ak:∀a,p a->a<i/\a≠c):
  Calls prog 108 #[.pointer c] i (zU c u v (.slice I l q) (.slice A t B) i):=by
 have al:=ah.len;have bQ:l<=90:=W aj.len
 have aO:t<=1000:=W ai.len.1
 have am:=X al;have aP:=ag;have an:=ah;have aQ:=ai;have aR:=aj;have C:=X ak;have⟨ao,r⟩:=ag;have aS:=kt r 2;clear r al ak
 go_enter func108,ntmps108
 go_wp21;clear aS;go_loopw [15] (λs wr=>∃f:Nat,f<=l/\s=f/\um c u v (.slice I l q) (.slice A t B) wr/\nX (λa=>a=c) i wr) (λs _=>l-(intOf s).toNat)
 .exact⟨0,QZ _,Z,aP,.refl _ _⟩
 obtain⟨f,bR,rfl,aT,D⟩:=hrel;have E:=X aT;have bS:=D.size;by_cases bT:f<l
 .obtain⟨b,O⟩:∃b,G[f]?=some b:=Gx<|W am.o;have ap:∀a,p a->wr.heap[a]?=i.heap[a]?:=λa d=>D.B a (C.o a d).1 (C.o a d).2;obtain⟨aq,ar,aU,rfl,bU,aV,J⟩:=(an.kv nT.ok ap).ll nT.ok f b O;have aW:aU=[tx b.a,tx b.b,.int .i64 b.tF]:=aV;subst aW;have au:=J 0 _ Z;have aX:=J 1 _ Z;have aY:=J 2 _ Z;rw[Q1]at au;have⟨bV,bW,aZ,av,aw⟩:=aR.each f b O;have ba:=X av;have bb:=X aw;obtain⟨bX,bY⟩:=nL f l;have bZ:(f:Int)<=(q:Int):=W am.o.2;clear ap J O av aw;have ax:=Ba wr<|Bm b.a b.b b.tF;have bc:=X<|D.T<|.of ax;have bd:=(E.o.ku ax E.o.lt)
  have be:=(QQ wr<|Bm b.a b.b b.tF)
  have bf:=X<|show(wr.alloc<|Bm b.a b.b b.tF).heap.size=wr+1 from Uo;have ca:=E.o.lt;go_wp21;apply(uW c u v _ _ _ _ bd).M;rintro w j ⟨rfl,ay,az,bg⟩;have bh:=bf.o;have⟨n,P⟩:=Xq wr.heap.size;have aA:j.heap[n]?=some (Bm b.a b.b b.tF):=(by rw[P];exact(az.B _ Y<|by intro w;injection w;omega).T be);rw[<-P];have Q:=X ay;have aB:=(bc.o.T<|.grown az Z)
  have bi:n<j:=Y;have R:=ay.lt;have F:=X<|show∀a,p a->a<j from λa d=>W<|(C.o a d).1;have aC:=X<|show∀a,p a->j.heap[a]?=i.heap[a]? from λa d=>aB.B a (C.o a d).1 (C.o a d).2;have⟨⟨bj,bk,bl⟩,_⟩:=lg aA;clear bg bh P au aX aY E D;go_wp21;have S:=X<|Ba j<|.cells #[tx b.a,tx b.b] 9;have aD:=(QQ j<|.cells #[tx b.a,tx b.b] 9)
  have aE:(j.alloc<|.cells #[tx b.a,tx b.b] 9).heap.size=j+1:=Uo;have⟨T,aF⟩:=Xq j.heap.size;rw[<-aF]at aD aE⊢;have bm:T<(j.alloc<|.cells #[tx b.a,tx b.b] 9).heap.size:=Y;generalize j.alloc (.cells #[tx b.a,tx b.b] 9)=U at*;have bn:j.heap.size<=U:=S.o.size;clear aF aE bj bk bl;go_loopw [36] (λs bo=>∃m:Nat,m<=2/\s=m/\Below U U bo) (λs _=>2-(intOf s).toNat)
  .exact⟨0,Y,Z,Sf _ _⟩
  obtain⟨m,cb,rfl,aG⟩:=hrel;have V:=X aG;have bp:=aG.size;have x:=(S.o.T<|V.o.M bn)
  by_cases cc:m<2
  .obtain⟨K,aH,bq⟩:∃K,wr.cell? ⟨T,0+m,none⟩=some (tx K)/\∃br,(z.find? λbs=>bs.name==K)=some br:=by have aI:=(V.o.B T bm).T aD;rcases(show m=0\/m=1 from Y)with rfl|rfl;exact⟨b.a,kt aI 0,aZ⟩;exact⟨b.b,kt aI 1,ba.o⟩
   rw[Q7]at aH;have⟨aJ,bt⟩:=bq;have bu:=X<|qY p wr A t B z K (aQ.kv (mr.ok _) λa d=>(x.B a<|F.o a d).T<|aC.o a d) aO λa d=>W<|F.o a d;have⟨ao,r⟩:=Q.o.kv<|x.B c R;have bv:=kt r 3;have cd:(0:Int)<=(m:Int):=Y;have ce:(m:Int)<2:=Y;clear r;go_wp21;apply bu.o.M;rintro w bw ⟨aK,_,bx⟩;obtain⟨cf,rfl,bz⟩:=aK aJ bt;obtain⟨bA,bB,bC,bD,bE,bF,rfl,_⟩:=bz;have aa:=(V.o.T<|bx.M bp)
   have bG:=aa.size;clear aK aH bv;have aL:=(Q.o.kv<|(aa.B c Y).T<|S.o.B c R)
   have aM:=Ba bw<|.cells (hR aJ.name bA bB bC bD bE bF) 112;have bH:=(aL.ku aM aL.lt)
   go_wp21;apply(mj c u v _ _ _ _ _ bH).M;rintro w cg ⟨rfl,rfl⟩;go_wp21;go_roundw
   .exact⟨m+1,Y,Ur,aa.T<|aM.M bG⟩
   simp[intOf];omega
  obtain rfl:m=2:=Y;have ab:=(x.B n bi).T aA;have ac:n<wr:=Y;have L:=X<|Q.o.kv<|x.B c R;have ad:=L.o.lt;skip;go_wp21;refine Ri (λb=>Below wr wr b) (mM [(·=.pointer c),(·=.pointer c),(·=.pointer c),(·=.pointer c),(Pp c 2),(·=.slice (mw aq ar) l q),(·=f),(·=.slice (mw aq ar) f q),(·=.func (.func 164) #[] #[.pointer n]),(·=.bool false),(·=.bool true),(·=.pointer n),(·=tx b.a),(·=.bool true)]) [] ((Sf _ _).drew) ⟨?_,?_,?_,?_,?_,?_,?_,?_,?_,?_,?_,?_,?_,?_,trivial⟩ ?_;exact .f 0;exact .f 0;exact .v 57 1;exact .v 58 2;exact .v 59 3;intro ae i e M k N y;have⟨ao,r⟩:=L.o.kv<|e.B c ad;exact .l 60 (k 4 _ Z Z) (kt r 2) ⟨Z,e,Qa⟩;exact .f 2;intro ae i e M k N y;have ch:=Sv 61 k 5;have ci:=Sv 62 k 6;exact .q (g:=⟨Z,e,Qa⟩);exact .f 8;intro ae i e M k N y;have cj:=Sv 63 k 7;have ck:=Sv 64 k 8;refine .c (ya p i _ f q (G.take f) b n ((an.take f Y).kv nT.ok λa d=>(e.B a<|W<|F.o a d).T<|(x.B a<|F.o a d).T<|aC.o a d) Y (λa d=>Ul (F.o a d) e.size) (kA ((e.B n ac).T ab) 0 _ Z) (kA ((e.B n ac).T ab) 1 _ Z) (W e.size) bb.o) ?_;rintro w bI ⟨af,bJ⟩;subst af;exact⟨_,Z,Z,e.T<|bJ.M e.size,Qe⟩;exact .v 65 9;exact .f 3;exact .l 67 11 λ_ e=>kA ((e.B n ac).T ab) 0 _ Z;intro ae i e M k N y;have cl:=Sv 56 k 0;have cm:=Sv 66 k 10;have cn:=Sv 68 k 12;clear M k N y;refine .h λco bK=>?_;go_simp;refine⟨Z,?_⟩;refine Calls.M (mj c u v _ _ i _ _<|L.o.kv<|e.B c ad) ?_;rintro w bI ⟨af,y⟩;subst y;subst af;exact⟨_,Z,bK ⟨Z,e,Qe⟩⟩;intro cp cq aN bL bM;have bN:=(x.T<|aN.M Y)
  have bO:=L.o.kv<|aN.B c ad;clear bL bM;simp only[nx];go_wp21;go_roundw
  .exact⟨f+1,Y,Ur,bO,aB.T<|.of bN⟩
  simp[intOf];omega
 obtain rfl:l=f:=Y;go_wp21
 go_end0
 exact⟨Z,E.o,D⟩
