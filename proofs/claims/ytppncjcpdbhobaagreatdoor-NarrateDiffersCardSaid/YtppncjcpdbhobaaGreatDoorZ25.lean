import Derived.Test.YtppncjcpdbhobaaGreatDoorZ17
import Derived.Test.YtppncjcpdbhobaaGreatDoorZ18
import Derived.Test.YtppncjcpdbhobaaGreatDoorZ19
import Derived.Test.YtppncjcpdbhobaaGreatDoorZ21
set_option maxRecDepth 1000000
set_option maxHeartbeats 32000000
set_option linter.all false
namespace Go.Proofs.YtppncjcpdbhobaaGreatDoor
open RowKit Go.Proofs.Tryz lI Maps oZ qQ ChangeShapes WideShapes ChangeAt
def I5(b:Nat)(c)(h:nr c b)(aE:qC c)(bX:(0:Nat)<c):Calls prog 58 #[.pointer b] c<|Ij c:=by
 have⟨ak,al,_⟩:=id h;have⟨aF,V⟩:=h.one al;have aa:=h.lt;have am:=h;have aG:=aE;have N:Below c c<|c.alloc<|.cells tC 89:=Ba c _;have x:pZ 89 (c.alloc<|.cells tC 89) c 32:=pZ.zero<|QT _ _;have an:=X<|show(c.alloc<|.cells tC 89).heap[b]?=some (.cells ak 227 (0,0))from(N.B b aa).T al;have aH:=X<|show(c.alloc<|.cells tC 89).heap.size=c+1 from Us;have O:=D0 aF V
 go_enter func58,ntmps58
 go_upto_region 3 with fail;generalize(c.alloc<|.cells tC 89)=y at*;have⟨d,ab⟩:=Xq c.heap.size;rw[<-ab]at x⊢;have s:=X ab;clear ab;go_upto_region 4 with(first|(refine wpList_load_mid rfl _ _ rfl b 0 rfl ak.toList _ (xk an.o) underlying227 rfl (by rw[Sz,O.o.1];exact zk) ?_)|(refine pq rfl _ _ _ rfl y.heap.size _ _ _ rfl rfl (QT _ _) (by rw[O.o.1];kernel_rfl) (by rw[O.o.1];exact zk) O.o.2 ?_;intro e ao A P))
 have⟨m,ac⟩:=Xq y.heap.size;rw[QU]at P;rw[<-ac]at ao A P⊢;have aI:d<m:=Up aH.o s.o
 have bY:m<e:=Y
 have bZ:b<d:=W s.o
 have ad:Below m y e:=by rw[ac];exact⟨A.os,A.tape,A.output,Y,λa ae=>(A.B a Uw λq=>by injection q;omega).T<|Q9 _ _ ae⟩
 have ap:=((show nr y b from am.ku<|N.B b aa).same an.o ao)
 have aJ:=((show nr y b from am.ku<|N.B b aa).ku<|ad.B b Y)
 have aK:=(x.ku<|ad.B d aI)
 have af:Below d c e:=by rw[s.o];exact N.T<|ad.M<|W s.o
 have⟨ca,f,cb,cc,cd,ce,cf,cg,_⟩:=ap.NH;have ch:IntKind.i64.wrap (f:Int)=(f:Int):=Uu
 have ci:IntKind.i64.wrap (56-(f:Int))=56-(f:Int):=Uu
 have cj:IntKind.i64.wrap (56-(f:Int)+64)=56-(f:Int)+64:=Uu
 clear ac;go_upto_region 6 with fail;go_cut [5,23] (λv aL ag=>v=.int .i64 (56-(f:Int))/\aL=.bool (decide (56-(f:Int)<=0))/\ag=e)
 .go_wp21;go_meet;exact⟨Z,Z,Z⟩
 obtain⟨rfl,rfl,rfl⟩:=hcut;obtain⟨e,rfl⟩:=Xq wc;go_step;go_cut [5] (λv ag=>(∃j:Nat,1<=j/\j<=64/\v=j)/\ag=e)
 .by_cases h9:f<=55
  .have aM:¬(56-(f:Int)<=0):=Y;have aN:decide (56-(f:Int)<=0)=false:=Uw;go_wp21;go_meet;exact⟨⟨56-f,Y,Y,by congr 1;omega⟩,Z⟩
  have aM:56-(f:Int)<=0:=Y;have aN:decide (56-(f:Int)<=0)=true:=Uw;go_wp21;go_meet;exact⟨⟨120-f,Y,Y,by congr 1;omega⟩,Z⟩
 obtain⟨⟨j,ck,cl,rfl⟩,rfl⟩:=hcut;obtain⟨e,rfl⟩:=Xq wc;have⟨n,aO⟩:=Xq<|j+8;have cm:j<=n:=Y;have cn:n<=72:=Y;have co:IntKind.i64.wrap ((j:Int)+8)=(n:Int):=Uu;clear aO;have aP:=Fs j n Y Y e;have⟨g,B⟩:=Xq e.heap.size;rw[<-B]at aP;have Q:m<g:=Y;have R:=X B;have aQ:py (e.alloc<|BT n) g n:=⟨_,by rw[B];exact QT _ _,zj _,Fq _⟩
 have aR:Below g e<|e.alloc<|BT n:=(by rw[B];exact Ba _ _);clear B;go_upto_region 9 with fail;generalize e.alloc (BT n)=aS at*;have⟨aT,aU,aV,aW⟩:=aQ.get (i:=0) Y;have aq:=(aW 128)
 have C:=(kD (z:=g) (i:=0) (u:=.int .u8 128) aR<|QZ _)
 go_upto_region 10 with fail;generalize aS.setCell g (.int .u8 128)=D at*;have cp:g<D:=(by have⟨_,aX,_⟩:=aq;exact(QS.1 aX).1);have aY:=aJ.ku<|C.B b Y;have⟨cq,cr,_,_⟩:=aY.NI;have⟨ah,aZ,S,ba⟩:=aq;have bb:=py.ints ba S;have bc:D.ownsRow g 5 1 (g,j,n) j<|ah.toList.take j:=⟨by simp[S];omega,.inr ⟨g,n,ah,Z,QZ _,aZ,Y,UA,Y,by rw[RA]⟩⟩
 have bd:=X<|show∀u∈ah.toList.take j,∃ar:Int,u=.int .u8 ar from λu E=>bb u<|SJ E;have⟨be,bf,bg,P,bh⟩:=Rm Fp;have T:=Ft bf bg P bh;have cs:m<D:=Y;go_wp21;apply(GI _ D).M;rintro q au ⟨rfl,av,k⟩;have⟨aw,ax⟩:=Xq D.heap.size;rw[<-ax]at av k⊢;have⟨ay,bi,az,bj⟩:=av;have bk:=py.ints bj az;have ct:=k.size;have cu:g<aw:=Y;have cv:g<=au:=Y;have cw:m<au:=Y;have bl:=(bc.kept (row:=none) ⟨k.os,k.tape,k.output,k.size,λa ae _=>k.B a Y⟩<|.inr UK)
 have bm:=X bi;have bn:ay.toList.length=8:=(by simpa using az);have aA:=X bk;clear ax;go_wp2_with (at_builtin;refine Tq _ Z _ _ 22 Z g 5 be (.int .u8 0) 1 1 underlying22 T.o.1 T.o.2.1 T.o.2.2.1 T.o.2.2.2 Z Ur _ _ _ Z bl ⟨aw,0,none⟩ 8 8 ay.toList Z (by rw[bn]) ?c1 ?c2 ?c3 ?c4 ?c5 ?_);case c1=>intro bo u bp;rw[lz,Re];exact kB bm.o bo u (by simpa using bp)
 case c2=>intro u E;obtain⟨ar,rfl⟩:=aA.o u E;rfl
 case c3=>unfold maxLen;omega
 case c4=>omega
 case c5=>omega
 intro cx ai bq F _;obtain⟨br,c5,rfl,bs,bt⟩:=KX (b:=m) bq (λu E=>by rcases SV.1 E with h|h;exact bd.o u h;exact aA.o u h) Q Y;have cy:=F.size;have cz:=R.o;have U:=X<|show∀l,l<g->ai.heap[l]?=e.heap[l]? from λl G=>(F.B l (W k.size)<|by simp[Value.ownBlock];omega).T<|(k.B l Y).T<|C.B l G;have I:Below g e ai:=⟨F.os.T<|k.os.T C.os,F.tape.T<|k.tape.T C.tape,F.output.T<|k.output.T C.output,W k.size,λl G=>U.o l G⟩
 have bu:=(ap.ku<|U.o m Q)
 have bv:=(aG.ku ((U.o _<|W s.o).T<|af.B _<|W s.o)<|Up af.size I.size)
 have bw:(0:Nat)≠m:=W s.o;go_wp21;apply(xK m (j+8) c5 br ai bu bv bw bt bs Y).M;rintro q r ⟨rfl,aB,w⟩;have cA:=w.size;have bx:d<r:=Up R.o I.size;have bz:m<r:=aB.lt;have bA:Below d c r:=(af.T<|I.M Y).T ⟨w.os,w.tape,w.output,w.size,λl G=>w.B l (Up R.o I.size) λq=>by injection q;omega⟩;have bB:=(aK.ku<|(w.B d (Up R.o I.size) λq=>by injection q;omega).T<|U.o d Y)
 have⟨J,aj⟩:=Xq r.heap.size;have p:pZ 89 (r.alloc<|.cells tC 89) J 32:=pZ.zero (by rw[aj];exact QT _ _);have bC:pZ 89 (r.alloc<|.cells tC 89) d 32:=bB.ku<|Q9 _ _ bx;have t:nr (r.alloc<|.cells tC 89) m:=aB.ku<|Q9 _ _ bz;have bD:Below d c<|r.alloc<|.cells tC 89:=bA.alloc Y _;have cB:d<J:=Y;have bE:=X aj;clear aj;go_upto_region 12 with fail;rw[<-bE.o];generalize r.alloc (.cells tC 89)=cC at*;have⟨bF,aU⟩:=t.at8 0 Y;have⟨bG,c1⟩:=t.at8 1 Y;have⟨bH,c2⟩:=t.at8 2 Y;have⟨bI,c3⟩:=t.at8 3 Y;have⟨bJ,c4⟩:=t.at8 4 Y;have⟨bK,c5⟩:=t.at8 5 Y;have⟨bL,cD⟩:=t.at8 6 Y;have⟨bM,cE⟩:=t.at8 7 Y;go_wp21;go_loopw [43] (λi wr=>∃a:Nat,a<=8/\i=a/\pZ 89 wr J 32/\pZ 89 wr d 32/\Below d c wr) (λi _=>8-(intOf i).toNat)
 .exact⟨0,Y,Z,p,bC,bD⟩
 obtain⟨a,ae,rfl,p,x,aC⟩:=hrel;have cF:=p.lt;by_cases bN:a<8
 .have cG:(a:Int)<8:=Y;have⟨cH,cI⟩:=NF wr a bN bF bG bH bI bJ bK bL bM;have cJ:IntKind.i64.wrap (4*(a:Int))=((4*a:Nat):Int):=Uu;have⟨aT,cK,aV⟩:=p.ll (i:=4*a) Y;have⟨cL,cM,cN⟩:=p.ll (i:=4*a+1) Y;have⟨cO,cP,cQ⟩:=p.ll (i:=4*a+2) Y;have⟨cR,cS,cT⟩:=p.ll (i:=4*a+3) Y;go_wp21;go_roundw
  .refine⟨a+1,Y,Uv,?_,?_,?_⟩;exact(((p.set (4*a) _).set (4*a+1) _).set (4*a+2) _).set (4*a+3) _;refine x.ku ?_;have bO:d≠J:=Y;repeat refine(Rf _ _ _ _ bO).T ?_
   rfl;repeat refine kD ?_ Y
   exact aC
  simp[intOf];omega
 obtain rfl:a=8:=Y;obtain⟨cU,rfl⟩:=Xq wr;have⟨K,aD,bP,bQ⟩:=id p;have bR:=X aD;have V:=(p.one aD).2;have bS:=X V;have L:=D0 bP bQ;have⟨bT,bU,S,_⟩:=x;have bV:=X bU;go_wp2_with (first|(refine wpList_load_mid Z _ _ Z J 0 Z K.toList _ (xk bR.o) underlying89 Z (by rw[Sz,L.o.1];exact wI) ?_)|(refine pq Z _ _ _ Z d bT K _ Z Z bV.o (by rw[S,L.o.1]) (by rw[L.o.1];exact wI) bS.o ?_;intro cV bW M cW));have Q:=s.o;refine Q0 (v:=.agg K) (xL _ _ _ d K Tryz.results58 Z bW L.o.1) Z ⟨⟨K,Z,L.o⟩,?_⟩;rw[<-Q];exact aC.T ⟨M.os,M.tape,M.output,M.size,λl G=>M.B l Y λq=>by injection q;omega⟩
def KY(n)(d w:Nat)(a)(F:0<d->∃c o,n=some ⟨c,o,none⟩/\c<a.heap.size/\∀i,i<d->∃p:Int,a.cell? ⟨c,o+i,none⟩=some (.int .u8 p))(V:d<=w)(aa:d<=140737488355328)(x:qC a):
  Calls prog 24 #[.slice n d w] a (Ij a):=by
 have ab:=X x;have ac:=x.lt;have ad:=X F;have q:=X<|show Below a a (a.alloc<|.cells tC 89)from Ba a _;have G:=X<|show pZ 89 (a.alloc<|.cells tC 89) a 32 from pZ.zero<|QT _ _;have I:=X<|show(a.alloc<|.cells tC 89).heap.size=a+1 from Us;clear x F
 go_enter func24,ntmps24
 go_upto_region 1 with fail;generalize(a.alloc<|.cells tC 89)=J at*;have⟨e,y⟩:=Xq a.heap.size;rw[<-y]at G ac⊢;have r:=X y;clear y;go_wp21;apply(I4 J).M;rintro b K ⟨rfl,s,f⟩;have L:=I.o;have z:=r.o;have⟨j,M⟩:=Xq J.heap.size;rw[<-M]at s f⊢;have ae:e<j:=Y
 have af:=X s;have A:=X f;have ay:=s.lt;have B:=X<|ab.o.ku ((f.B _ Y).T<|q.o.B _ Y)<|Up q.o.size f.size;have ag:=X (show Ho j K n d from λah=>by have⟨c,o,b,az,ai⟩:=ad.o ah;refine⟨c,o,b,Y,Y,λi aj=>?_⟩;have⟨p,t⟩:=ai i aj;exact⟨p,(Cb c (o+i)<|(f.B c Y).T<|q.o.B c Y).T t⟩)
 clear s f M L z;go_wp21;apply(xK j d w n K af.o B.o Y ag.o V aa).M;rintro b C ⟨rfl,N,k⟩;have ak:=X N;have g:=X k;have aA:=k.size;have O:=X<|B.o.ku (k.B _ B.o.lt λb=>by injection b;omega) k.size;clear N k;have al:(0:Nat)<C:=O.o.lt;go_wp21;apply(I5 j C ak.o O.o al).M;rintro b am ⟨⟨l,rfl,P,D⟩,Q⟩;have R:=X Q;have u:=D0 P D;have S:=X (show Below e a am from by have z:=r.o;have L:=I.o;have an:=q.o.T<|A.o.M<|show a<=j from Y;have T:Below a a C:=an.T ⟨g.o.os,g.o.tape,g.o.output,g.o.size,λE ao=>g.o.B E (W A.o.size) λb=>by injection b;omega⟩;rw[z];exact T.T<|R.o.M<|W T.size)
 have ap:=X<|G.o.ku<|(R.o.B e Y).T<|(g.o.B e Y λb=>by injection b;omega).T<|A.o.B e ae;have⟨aq,U,ar,_⟩:=ap.o;have au:=X U;have av:=X (show l.all (·.oneCell')=true from TK.2 λaw aB=>by have⟨p,t⟩:=D aw Y;rw[Re]at t;rw[(QS.1 t).2];rfl)
 clear Q U P D;go_wp2_with (refine pq Z _ _ _ Z e aq l _ Z Z au.o (by rw[ar,u.o.1]) (by rw[u.o.1];exact wI) av.o ?_;intro aC ax m aD);refine Q0 (v:=.agg l) (xL _ _ _ e l Tryz.results24 Z ax u.o.1) Z ⟨⟨l,Z,u.o⟩,?_⟩;rw[<-r.o];exact S.o.T ⟨m.os,m.tape,m.output,m.size,λE ao=>m.B E (Up S.o.size r.o) λb=>by injection b;omega⟩
def En(G j)(e a:Int)(m f n b c:Int)(p)(d q:Nat)(g)(C:Nat)(i)(T:oo j C i)(U:mo i)(I:kz mg G j (.slice p d q) g)(V:∀aa,G aa->aa<j)(ab:d<=9223372036854775807):
  Calls prog 12 #[.agg<|EC e a 9 m f n b c<|.slice p d q,.pointer C] j (kH (.bool<|valid (kG i) ⟨e,a,9,m,f,n,b,c,g⟩) j):=by
 have J:=X I.len.1;have ac:=X T;have aq:=X U;have ar:=X I;have au:=X V;have ad:=X ab;clear T U I V ab;have⟨aH,K⟩:=Xq<|valid (kG i) ⟨e,a,9,m,f,n,b,c,g⟩;rw[<-K];have B:=X K;clear K;have ae:=X<|boxes j (EC e a 9 m f n b c<|.slice p d q)<|EC e a 9 0 f 0 b 0<|.slice p d q
 go_enter func12,ntmps12
 go_upto_region 2 with fail;have k:=ae.o;have⟨av,af⟩:=Xq<|(j.alloc<|.cells (EC e a 9 m f n b c<|.slice p d q) 29).alloc<|.cells (EC e a 9 0 f 0 b 0<|.slice p d q) 29;rw[<-af]at k⊢;clear af ae;have⟨D,ag⟩:=Xq j.heap.size;rw[<-ag]at k⊢;have⟨E,ah⟩:=Xq<|D+1;rw[<-ah]at k⊢;have aw:D≠E:=Y
 have ax:=X<|show j<=D/\j<=E from⟨Y,Y⟩;clear ag ah;replace k:=X k;have aI:=k.o.lt.1;have aJ:=k.o.lt.2;have⟨r,s,t,u,v,w,x,y,z⟩:=kQ k.o.2.1;go_wp2_with fail;apply(lV C a i av<|ac.o.kv k.o.1).M;rintro L ay ⟨rfl,rfl⟩;go_wp2_with fail;apply(mm C a b i ay (ac.o.kv k.o.1) aq.o).M;rintro L ai ⟨rfl,aj⟩;have F:=X<|k.o.kv aj;have aK:=F.o.lt.1;have aL:=F.o.lt.2;clear aj;clear r s t u v w x y z;have⟨r,s,t,u,v,w,x,y,z⟩:=kQ F.o.2.1;have aM:(d:Int)<=9223372036854775807:=W ad.o
 have⟨M,N⟩:=Xq<|oW (kG i) a b;rw[<-N];have O:=X N;clear N;have⟨aN,P⟩:=Xq<|nM (kG i) a;rw[<-P];have aO:=X P;clear P;go_upto_region 6 with fail;go_cut [8] (λaz aA=>az=.bool (M&&decide ((d:Int)<=4))/\ai=aA)
 .cases M
  .go_wp2_with fail;go_meet;exact⟨Z,Z⟩
  go_wp2_with fail;go_meet;exact⟨UB,Z⟩
 obtain⟨rfl,rfl⟩:=hcut;have⟨aB,Q⟩:=Xq<|M&&decide ((d:Int)<=4);rw[<-Q];have R:=X Q;clear Q;go_wp2_with fail;apply(lX ⟨e,a,9,m,f,n,b,c,g⟩ p d q ai).M;rw[show arr ⟨e,a,9,m,f,n,b,c,g⟩=9 from Z];rintro L aC ⟨rfl,ak⟩;have A:=X<|F.o.kv ak;have aP:=A.o.lt.1;have aQ:=A.o.lt.2;clear ak;clear r s t u v w x y z;have⟨r,s,t,u,v,w,x,y,z⟩:=kQ A.o.2.1;have al:=kr A.o.2.2 7;have aD:=kx A.o.2.2 7;go_upto_region 29 with fail;have⟨am,S⟩:=Xq<|aC.setCell ⟨E,7,none⟩<|.int .i64 c;have l:=X (show uj j D E (EC e a 9 m f n b c<|.slice p d q) (EC e a 9 0 f 0 b c<|.slice p d q) am from by rw[S];exact(A.o.set ax.o.2 aw 7 _));rw[<-S];have aR:=l.o.lt.1;have aS:=l.o.lt.2;clear S al aD;clear r s t u v w x y z;have⟨r,s,t,u,v,w,x,y,z⟩:=kQ l.o.2.1;cases aB
 .go_wp2_with fail;go_ret;exact⟨vF B.o (by show((oW (kG i) a b&&decide (g.length<=4))&&decide (0<=c))=false;rw[<-O.o,(show decide (g.length<=4)=decide ((d:Int)<=4)from by rw[J.o];exact RJ.2 Y),<-R.o];rfl),l.o.1⟩
 by_cases aE:0<=c
 .have⟨aT,aU,aV,aW,aX,aY,aZ,al,ba⟩:=kQ l.o.2.2;have aF:=X (show fits (kG i) ⟨e,a,9,m,f,n,b,c,g⟩=true from by show((oW (kG i) a b&&decide (g.length<=4))&&decide (0<=c))=true;rw[<-O.o,(show decide (g.length<=4)=decide ((d:Int)<=4)from by rw[J.o];exact RJ.2 Y),<-R.o,Sk aE];rfl);by_cases an:0<=e
  .by_cases ao:0<=f
   .go_wp2_with fail;apply(uo G am l.o.1 ⟨e,a,9,m,f,n,b,c,g⟩ ⟨e,a,9,0,f,0,b,c,g⟩ p d q ar.o au.o ad.o Z).M;rintro L bb ⟨rfl,ap⟩;have aG:=X ap;clear ap;go_wp2_with fail;go_ret;exact⟨vT B.o aF.o an ao Z,l.o.1.T<|aG.o.M l.o.1.size⟩
   go_wp2_with fail;go_ret;exact⟨vN B.o ao,l.o.1⟩
  go_wp2_with fail;go_ret;exact⟨vM B.o an,l.o.1⟩
 go_wp2_with fail;go_ret;exact⟨vF B.o (by show((oW (kG i) a b&&decide (g.length<=4))&&decide (0<=c))=false;rw[<-O.o,(show decide (g.length<=4)=decide ((d:Int)<=4)from by rw[J.o];exact RJ.2 Y),<-R.o,Sr<|show¬0<=c from Y];rfl),l.o.1⟩
def Ep(af m)(j b:Int)(e k a f x:Int)(y)(g z:Nat)(l)(T:Nat)(i)(av:oo m T i)(aw:mo i)(d:kz mg af m (.slice y g z) l)(ax:∀ay,af ay->ay<m)(az:g<=9223372036854775807):
  Calls prog 12 #[.agg<|EC j b 5 e k a f x<|.slice y g z,.pointer T] m (kH (.bool<|valid (kG i) ⟨j,b,5,e,k,a,f,x,l⟩) m):=by
 have U:=X d.len.1;have ah:=X av;have D:=X aw;have aA:=X d;have aB:=X ax;have ai:=X az;clear av aw d ax az;have⟨bp,aj⟩:=Xq<|valid (kG i) ⟨j,b,5,e,k,a,f,x,l⟩;rw[<-aj];have E:=X aj;clear aj;have aC:=X<|boxes m (EC j b 5 e k a f x<|.slice y g z)<|EC j b 5 0 k 0 f 0<|.slice y g z
 go_enter func12,ntmps12
 go_upto_region 2 with fail;have F:=aC.o;have⟨aR,aD⟩:=Xq<|(m.alloc<|.cells (EC j b 5 e k a f x<|.slice y g z) 29).alloc<|.cells (EC j b 5 0 k 0 f 0<|.slice y g z) 29;rw[<-aD]at F⊢;clear aD aC;have⟨A,aE⟩:=Xq m.heap.size;rw[<-aE]at F⊢;have⟨C,aF⟩:=Xq<|A+1;rw[<-aF]at F⊢;have aG:A≠C:=Y
 have aH:=X<|show m<=A/\m<=C from⟨Y,Y⟩;clear aE aF;replace F:=X F;have⟨I,J,K,L,M,N,O,P,Q⟩:=kQ F.o.2.1;go_wp21;apply(lV T b i aR<|ah.o.kv F.o.1).M;rintro V aS ⟨rfl,rfl⟩;go_wp21;apply(mm T b f i aS (ah.o.kv F.o.1) D.o).M;rintro V aI ⟨rfl,aJ⟩;have aK:=X<|F.o.kv aJ;clear aJ;clear I J K L M N O P Q;have⟨I,J,K,L,M,N,O,P,Q⟩:=kQ aK.o.2.1;have bq:(g:Int)<=9223372036854775807:=W ai.o
 have⟨ak,al⟩:=Xq<|oW (kG i) b f;rw[<-al];have aa:=X al;clear al;have⟨br,aL⟩:=Xq<|nM (kG i) b;rw[<-aL];clear aL;go_upto_region 6 with fail;go_cut [8] (λaT aU=>aT=.bool (ak&&decide ((g:Int)<=4))/\aI=aU)
 .cases ak
  .go_wp21;go_meet;exact⟨Z,Z⟩
  go_wp21;go_meet;exact⟨UB,Z⟩
 obtain⟨rfl,rfl⟩:=hcut;have⟨aV,am⟩:=Xq<|ak&&decide ((g:Int)<=4);rw[<-am];have ab:=X am;clear am;go_wp21;apply(lX ⟨j,b,5,e,k,a,f,x,l⟩ y g z aI).M;rw[show arr ⟨j,b,5,e,k,a,f,x,l⟩=5 from Z];rintro V bs ⟨rfl,aM⟩;have aN:=X<|aK.o.kv aM;clear aM;clear I J K L M N O P Q;have⟨I,J,K,L,M,N,O,P,Q⟩:=kQ aN.o.2.1;clear I J K L M N O P Q;go_upto_region 21 with fail;refine mS (λB aW=>uj m A C (EC j b 5 e k a f x<|.slice y g z) (EC j b 5 (if B 5=true then e else 0) k (if B 7=true then a else 0) f 0<|.slice y g z) aW) (mU [(Pp A 3),(·=e),(Pp A 5),(·=a),(Pp C 3),Tr,(Pp C 5),Tr]) [] Ut Ut 248 Z Ut (aN.o.drew) ⟨?_,?_,?_,?_,?_,?_,?_,?_,trivial⟩ ?_;intro B p m s t u c n d q v;have aX:=lr<|show p.eval (.tmp 2)=.pointer A from n 2 Z;clear n d q v t u s;refine kA.lF λG w=>?_;unfold kA;go_simp;exact w _ _ ⟨Z,c,Qe⟩;intro B p m s t u c n d q v;have bt:=lr<|show p.eval (.tmp 116)=.pointer (zc A)from d 0 _ Z Z;clear n d q v t u s;have aY:=kr c.2.1 3;have D:=X c;clear c;refine kA.lF λG w=>?_;unfold kA;go_simp;exact w _ _ ⟨Z,D.o,Qe⟩;intro B p m s t u c n d q v;have aX:=lr<|show p.eval (.tmp 2)=.pointer A from n 2 Z;clear n d q v t u s;refine kA.lF λG w=>?_;unfold kA;go_simp;exact w _ _ ⟨Z,c,Qe⟩;intro B p m s t u c n d q v;have bu:=lr<|show p.eval (.tmp 118)=.pointer (zd A)from d 2 _ Z Z;clear n d q v t u s;have aY:=kr c.2.1 5;have D:=X c;clear c;refine kA.lF λG w=>?_;unfold kA;go_simp;exact w _ _ ⟨Z,D.o,Qe⟩;intro B p m s t u c n d q v;have aZ:=lr<|show p.eval (.tmp 5)=.pointer C from n 5 Z;clear n d q v t u s;refine kA.lF λG w=>?_;unfold kA;go_simp;exact w _ _ ⟨Z,c,Qe⟩;intro B p m s t u c n d q v;have bv:=lr<|show p.eval (.tmp 120)=.pointer (zc C)from d 4 _ Z Z;have bw:=lr<|show p.eval (.tmp 117)=.int .i64 e from d 1 _ Z Z;clear n d q v t u s;have ba:=kr c.2.2 3;have bb:=kx c.2.2 3;have D:=X c;clear c;refine kA.lF λG w=>?_;unfold kA;go_simp;exact w _ _ ⟨trivial,(D.o.set aH.o.2 aG 3 _),Qe⟩;intro B p m s t u c n d q v;have aZ:=lr<|show p.eval (.tmp 5)=.pointer C from n 5 Z;clear n d q v t u s;refine kA.lF λG w=>?_;unfold kA;go_simp;exact w _ _ ⟨Z,c,Qe⟩;intro B p m s t u c n d q v;have bx:=lr<|show p.eval (.tmp 121)=.pointer (zd C)from d 6 _ Z Z;have bz:=lr<|show p.eval (.tmp 119)=.int .i64 a from d 3 _ Z Z;clear n d q v t u s;have ba:=kr c.2.2 5;have bb:=kx c.2.2 5;have D:=X c;clear c;refine kA.lF λG w=>?_;unfold kA;go_simp;exact w _ _ ⟨trivial,(D.o.set aH.o.2 aG 5 _),Qe⟩;intro B bA aO an c d q;have r:=X (show uj m A C (EC j b 5 e k a f x<|.slice y g z) (EC j b 5 e k a f 0<|.slice y g z) aO from by have aP:=c;simp only[an 5 Ur,an 7 Ur,T6]at aP;exact aP);clear c d q an;simp only[nE];have⟨I,J,K,L,M,N,O,P,Q⟩:=kQ r.o.2.1;cases aV
 .go_wp21;go_ret;exact⟨vF E.o (by show((oW (kG i) b f&&decide (l.length<=4))&&(nM (kG i) e&&(decide (a=0)||decide (a=1))))=false;rw[<-aa.o,(show decide (l.length<=4)=decide ((g:Int)<=4)from by rw[U.o];exact RJ.2 Y),<-ab.o];rfl),r.o.1⟩
 go_wp21;apply(lV T e i aO<|ah.o.kv r.o.1).M;rintro V aQ ⟨rfl,rfl⟩;have⟨bc,ao⟩:=Xq<|nM (kG i) e;rw[<-ao];have ag:=X ao;clear ao;cases bc
 .go_wp21;go_ret;exact⟨vF E.o (by show((oW (kG i) b f&&decide (l.length<=4))&&(nM (kG i) e&&(decide (a=0)||decide (a=1))))=false;rw[<-aa.o,(show decide (l.length<=4)=decide ((g:Int)<=4)from by rw[U.o];exact RJ.2 Y),<-ab.o,<-ag.o];rfl),r.o.1⟩
 by_cases R:a=0
 .have bd:(a==0)=true:=(by rw[R];rfl);have ap:=X R;clear R;have⟨be,bf,bg,bh,bi,bj,bk,bl,bm⟩:=kQ r.o.2.2;have aq:=X (show fits (kG i) ⟨j,b,5,e,k,a,f,x,l⟩=true from by show((oW (kG i) b f&&decide (l.length<=4))&&(nM (kG i) e&&(decide (a=0)||decide (a=1))))=true;rw[<-aa.o,(show decide (l.length<=4)=decide ((g:Int)<=4)from by rw[U.o];exact RJ.2 Y),<-ab.o,<-ag.o,Sk ap.o];rfl);by_cases ac:0<=j
  .by_cases ad:0<=k
   .go_wp21;apply(uo af aQ r.o.1 ⟨j,b,5,e,k,a,f,x,l⟩ ⟨j,b,5,e,k,a,f,0,l⟩ y g z aA.o aB.o ai.o Z).M;rintro V bn ⟨rfl,ae⟩;have ar:=X ae;clear ae;go_wp21;go_ret;exact⟨vT E.o aq.o ac ad Z,r.o.1.T<|ar.o.M r.o.1.size⟩
   go_wp21;go_ret;exact⟨vN E.o ad,r.o.1⟩
  go_wp21;go_ret;exact⟨vM E.o ac,r.o.1⟩
 have bd:(a==0)=false:=(by rw[QY];exact R);have ap:=X R;clear R;by_cases S:a=1
 .have bo:(a==1)=true:=(by rw[S];rfl);have au:=X S;clear S;have⟨be,bf,bg,bh,bi,bj,bk,bl,bm⟩:=kQ r.o.2.2;have aq:=X (show fits (kG i) ⟨j,b,5,e,k,a,f,x,l⟩=true from by show((oW (kG i) b f&&decide (l.length<=4))&&(nM (kG i) e&&(decide (a=0)||decide (a=1))))=true;rw[<-aa.o,(show decide (l.length<=4)=decide ((g:Int)<=4)from by rw[U.o];exact RJ.2 Y),<-ab.o,<-ag.o,Sk au.o];simp);by_cases ac:0<=j
  .by_cases ad:0<=k
   .go_wp21;apply(uo af aQ r.o.1 ⟨j,b,5,e,k,a,f,x,l⟩ ⟨j,b,5,e,k,a,f,0,l⟩ y g z aA.o aB.o ai.o Z).M;rintro V bn ⟨rfl,ae⟩;have ar:=X ae;clear ae;go_wp21;go_ret;exact⟨vT E.o aq.o ac ad Z,r.o.1.T<|ar.o.M r.o.1.size⟩
   go_wp21;go_ret;exact⟨vN E.o ad,r.o.1⟩
  go_wp21;go_ret;exact⟨vM E.o ac,r.o.1⟩
 have bo:(a==1)=false:=(by rw[QY];exact S);have au:=X S;clear S;go_wp21;go_ret;exact⟨vF E.o (by show((oW (kG i) b f&&decide (l.length<=4))&&(nM (kG i) e&&(decide (a=0)||decide (a=1))))=false;rw[<-aa.o,(show decide (l.length<=4)=decide ((g:Int)<=4)from by rw[U.o];exact RJ.2 Y),<-ab.o,<-ag.o,Sr ap.o,Sr au.o];rfl),r.o.1⟩
def Er(L i)(d b:Int)(a:Nat)(j e k c l:Int)(p)(f q:Nat)(n)(r:Nat)(m)(M:oo i r m)(N:mo m)(D:kz mg L i (.slice p f q) n)(O:∀P,L P->P<i)(Q:f<=9223372036854775807)(ap:a=0\/11<a):
  Calls prog 12 #[.agg<|EC d b (a:Nat) j e k c l<|.slice p f q,.pointer r] i (kH (.bool<|valid (kG m) ⟨d,b,a,j,e,k,c,l,n⟩) i):=by
 have aq:=X D.len.1;have af:=X (show fits (kG m) ⟨d,b,a,j,e,k,c,l,n⟩=false from by have ag:arr ⟨d,b,a,j,e,k,c,l,n⟩=a:=(by simp[arr,show a≠7 from Y]);cases hq:fits (kG m) ⟨d,b,a,j,e,k,c,l,n⟩;rfl;have:=rN hq;rw[ag]at this;omega)
 have ar:((a:Int)==1)=false:=by rw[QY];omega
 have au:((a:Int)==2)=false:=by rw[QY];omega
 have av:((a:Int)==3)=false:=by rw[QY];omega
 have aw:((a:Int)==4)=false:=by rw[QY];omega
 have ax:((a:Int)==5)=false:=by rw[QY];omega
 have ay:((a:Int)==6)=false:=by rw[QY];omega
 have az:((a:Int)==7)=false:=by rw[QY];omega
 have aA:((a:Int)==8)=false:=by rw[QY];omega
 have aB:((a:Int)==9)=false:=by rw[QY];omega
 have aC:((a:Int)==10)=false:=by rw[QY];omega
 have aD:((a:Int)==11)=false:=by rw[QY];omega
 have ah:=X (show arr ⟨d,b,a,j,e,k,c,l,n⟩=a from by simp[arr,show a≠7 from Y]);have R:=X M;have ai:=X N;have aE:=X D;have aF:=X O;have aj:=X Q;clear M N D O Q;have⟨aG,E⟩:=Xq<|valid (kG m) ⟨d,b,a,j,e,k,c,l,n⟩;rw[<-E];have ak:=X E;clear E;have S:=X<|boxes i (EC d b (a:Nat) j e k c l<|.slice p f q)<|EC d b (a:Nat) 0 e 0 c 0<|.slice p f q
 go_enter func12,ntmps12
 go_upto_region 2 with fail;have g:=S.o;have⟨al,T⟩:=Xq<|(i.alloc<|.cells (EC d b (a:Nat) j e k c l<|.slice p f q) 29).alloc<|.cells (EC d b (a:Nat) 0 e 0 c 0<|.slice p f q) 29;rw[<-T]at g⊢;clear T S;have⟨F,U⟩:=Xq i.heap.size;rw[<-U]at g⊢;have⟨V,aa⟩:=Xq<|F+1;rw[<-aa]at g⊢;have aH:F≠V:=Y
 have aI:=X<|show i<=F/\i<=V from⟨Y,Y⟩;clear U aa;replace g:=X g;have aJ:=g.o.lt.1;have aK:=g.o.lt.2;have⟨s,t,u,v,w,x,y,z,A⟩:=kQ g.o.2.1;go_wp2_with fail;apply(lV r b m al<|R.o.kv g.o.1).M;rintro ab am ⟨rfl,rfl⟩;go_wp2_with fail;apply(mm r b c m am (R.o.kv g.o.1) ai.o).M;rintro ab ac ⟨rfl,ad⟩;have B:=X<|g.o.kv ad;have aL:=B.o.lt.1;have aM:=B.o.lt.2;clear ad;clear s t u v w x y z A;have⟨s,t,u,v,w,x,y,z,A⟩:=kQ B.o.2.1;have aN:(f:Int)<=9223372036854775807:=W aj.o
 have⟨G,I⟩:=Xq<|oW (kG m) b c;rw[<-I];have aO:=X I;clear I;have⟨aP,J⟩:=Xq<|nM (kG m) b;rw[<-J];have aQ:=X J;clear J;go_upto_region 6 with fail;go_cut [8] (λan ao=>an=.bool (G&&decide ((f:Int)<=4))/\ac=ao)
 .cases G
  .go_wp2_with fail;go_meet;exact⟨Z,Z⟩
  go_wp2_with fail;go_meet;exact⟨UB,Z⟩
 obtain⟨rfl,rfl⟩:=hcut;have⟨aR,K⟩:=Xq<|G&&decide ((f:Int)<=4);rw[<-K];have aS:=X K;clear K;go_wp2_with fail;apply(lX ⟨d,b,a,j,e,k,c,l,n⟩ p f q ac).M;rw[ah.o];rintro ab aT ⟨rfl,ae⟩;have C:=X<|B.o.kv ae;have aU:=C.o.lt.1;have aV:=C.o.lt.2;clear ae;clear s t u v w x y z A;have⟨s,t,u,v,w,x,y,z,A⟩:=kQ C.o.2.1;go_wp2_with fail;go_ret;exact⟨vF ak.o af.o,C.o.1⟩
def CV(G g)(c a:Int)(i d j b:Int)(l)(e m:Nat)(n)(B:Nat)(p)(z:oo g B p)(Q:mo p)(I:kz mg G g (.slice l e m) n)(R:∀S,G S->S<g)(T:e<=9223372036854775807):
  Calls prog 12 #[.agg<|EC c a 7 i d j b 6<|.slice l e m,.pointer B] g (kH (.bool<|valid (kG p) ⟨c,a,7,i,d,j,b,6,n⟩) g):=by
 have ao:=X I.len.1;have U:=X z;have ap:=X Q;have aq:=X I;have ar:=X R;have V:=X T;clear z Q I R T;have⟨aH,J⟩:=Xq<|valid (kG p) ⟨c,a,7,i,d,j,b,6,n⟩;rw[<-J];have C:=X J;clear J;have aa:=X<|boxes g (EC c a 7 i d j b 6<|.slice l e m)<|EC c a 7 0 d 0 b 0<|.slice l e m
 go_enter func12,ntmps12
 go_upto_region 2 with fail;have k:=aa.o;have⟨au,ab⟩:=Xq<|(g.alloc<|.cells (EC c a 7 i d j b 6<|.slice l e m) 29).alloc<|.cells (EC c a 7 0 d 0 b 0<|.slice l e m) 29;rw[<-ab]at k⊢;clear ab aa;have⟨D,ac⟩:=Xq g.heap.size;rw[<-ac]at k⊢;have⟨E,ad⟩:=Xq<|D+1;rw[<-ad]at k⊢;have av:D≠E:=Y
 have aw:=X<|show g<=D/\g<=E from⟨Y,Y⟩;clear ac ad;replace k:=X k;have aI:=k.o.lt.1;have aJ:=k.o.lt.2;have ae:=kr k.o.2.2 7;have ax:=kx k.o.2.2 7;have⟨q,r,s,t,u,v,w,x,y⟩:=kQ k.o.2.1;go_upto_region 4 with fail;have⟨af,K⟩:=Xq<|au.setCell ⟨E,7,none⟩<|.int .i64 6;have A:=X (show uj g D E (EC c a 7 i d j b 6<|.slice l e m) (EC c a 7 0 d 0 b 6<|.slice l e m) af from by rw[K];exact k.o.set aw.o.2 av 7 _);rw[<-K];have aK:=A.o.lt.1;have aL:=A.o.lt.2;clear K ae ax;clear q r s t u v w x y;have⟨q,r,s,t,u,v,w,x,y⟩:=kQ A.o.2.1;go_wp2_with fail;apply(lV B a p af<|U.o.kv A.o.1).M;rintro L ay ⟨rfl,rfl⟩;go_wp2_with fail;apply(mm B a b p ay (U.o.kv A.o.1) ap.o).M;rintro L ag ⟨rfl,ah⟩;have F:=X<|A.o.kv ah;have aM:=F.o.lt.1;have aN:=F.o.lt.2;clear ah;clear q r s t u v w x y;have⟨q,r,s,t,u,v,w,x,y⟩:=kQ F.o.2.1;have aO:(e:Int)<=9223372036854775807:=W V.o
 have⟨M,N⟩:=Xq<|oW (kG p) a b;rw[<-N];have az:=X N;clear N;have⟨aP,O⟩:=Xq<|nM (kG p) a;rw[<-O];have aQ:=X O;clear O;go_upto_region 6 with fail;go_cut [8] (λaA aB=>aA=.bool (M&&decide ((e:Int)<=4))/\ag=aB)
 .cases M
  .go_wp2_with fail;go_meet;exact⟨Z,Z⟩
  go_wp2_with fail;go_meet;exact⟨UB,Z⟩
 obtain⟨rfl,rfl⟩:=hcut;have⟨aC,P⟩:=Xq<|M&&decide ((e:Int)<=4);rw[<-P];have aD:=X P;clear P;go_wp2_with fail;apply(lX ⟨c,a,7,i,d,j,b,6,n⟩ l e m ag).M;rw[show arr ⟨c,a,7,i,d,j,b,6,n⟩=6 from Z];rintro L aE ⟨rfl,ai⟩;have f:=X<|F.o.kv ai;have aR:=f.o.lt.1;have aS:=f.o.lt.2;clear ai;clear q r s t u v w x y;have⟨q,r,s,t,u,v,w,x,y⟩:=kQ f.o.2.1;go_upto_region 39 with fail;clear q r s t u v w x y;have⟨aj,z⟩:=Xq aC;rw[<-z];have ak:=X (show aj=fits (kG p) ⟨c,a,7,i,d,j,b,6,n⟩from by rw[z,aD.o,az.o,show decide ((e:Int)<=4)=decide (n.length<=4)from by rw[ao.o];exact RJ.2 Y];rfl);clear z;have aT:=f.o.lt.1;have aU:=f.o.lt.2;have⟨q,r,s,t,u,v,w,x,y⟩:=kQ f.o.2.1;cases aj with
 |false=>go_wp2_with fail;go_ret;exact⟨vF C.o ak.o.symm,f.o.1⟩
 |true=>
  have⟨aV,aW,aX,aY,aZ,ba,bb,ae,bc⟩:=kQ f.o.2.2;have aF:=X<|show fits (kG p) ⟨c,a,7,i,d,j,b,6,n⟩=true from ak.o.symm;by_cases al:0<=c
  .by_cases am:0<=d
   .go_wp2_with fail;apply(uo G aE f.o.1 ⟨c,a,7,i,d,j,b,6,n⟩ ⟨c,a,7,0,d,0,b,6,n⟩ l e m aq.o ar.o V.o Z).M;rintro L bd ⟨rfl,an⟩;have aG:=X an;clear an;go_wp2_with fail;go_ret;exact⟨vT C.o aF.o al am Z,f.o.1.T<|aG.o.M f.o.1.size⟩
   go_wp2_with fail;go_ret;exact⟨vN C.o am,f.o.1⟩
  go_wp2_with fail;go_ret;exact⟨vM C.o al,f.o.1⟩
def Et(am m)(t e:Int)(j u J v c:Int)(L)(G M:Nat)(S)(U:Nat)(g)(aN:oo m U g)(aO:mo g)(d:kz mg am m (.slice L G M) S)(aP:∀aQ,am aQ->aQ<m)(aR:G<=9223372036854775807):
  Calls prog 12 #[.agg<|EC t e 1 j u J v c<|.slice L G M,.pointer<|some ⟨U,0,none⟩] m (kH (.bool<|valid (kG g) ⟨t,e,1,j,u,J,v,c,S⟩) m):=by
 have bz:=X d.len.1;have au:=X aN;have K:=X aO;have aS:=X d;have aT:=X aP;have av:=X aR;clear aN aO d aP aR;have⟨bA,aw⟩:=Xq<|valid (kG g) ⟨t,e,1,j,u,J,v,c,S⟩;rw[<-aw];have Q:=X aw;clear aw;have aU:=X<|boxes m (EC t e 1 j u J v c<|.slice L G M)<|EC t e 1 0 u 0 v 0<|.slice L G M
 go_enter func12,ntmps12
 go_upto_region 2 with fail;have N:=aU.o;have⟨be,aV⟩:=Xq<|(m.alloc<|.cells (EC t e 1 j u J v c<|.slice L G M) 29).alloc<|.cells (EC t e 1 0 u 0 v 0<|.slice L G M) 29;rw[<-aV]at N⊢;clear aV aU;have⟨O,aW⟩:=Xq m.heap.size;rw[<-aW]at N⊢;have⟨I,aX⟩:=Xq<|O+1;rw[<-aX]at N⊢;have an:O≠I:=Y
 have ao:=X<|show m<=O/\m<=I from⟨Y,Y⟩;clear aW aX;replace N:=X N;have bB:=N.o.lt.1;have bC:=N.o.lt.2;have⟨w,x,y,z,A,B,C,D,E⟩:=kQ N.o.2.1;go_wp2_with fail;refine(lV U e g be<|au.o.kv N.o.1).M ?_;rintro V bf ⟨rfl,rfl⟩;go_wp2_with fail;refine(mm U e v g bf (au.o.kv N.o.1) K.o).M ?_;rintro V aY ⟨rfl,aZ⟩;have ap:=X<|N.o.kv aZ;have bD:=ap.o.lt.1;have bE:=ap.o.lt.2;clear aZ;clear w x y z A B C D E;have⟨w,x,y,z,A,B,C,D,E⟩:=kQ ap.o.2.1;have bF:(G:Int)<=9223372036854775807:=W av.o
 have⟨ax,ay⟩:=Xq<|oW (kG g) e v;rw[<-ay];have bG:=X ay;clear ay;have⟨bH,az⟩:=Xq<|nM (kG g) e;rw[<-az];have bI:=X az;clear az;go_upto_region 6 with fail;go_cut [8] (λbg bh=>bg=.bool (ax&&decide ((G:Int)<=4))/\aY=bh);case first=>
  cases ax
  .go_wp2_with fail;go_meet;exact⟨Z,Z⟩
  go_wp2_with fail;go_meet;exact⟨UB,Z⟩
 case rest=>
  obtain⟨rfl,rfl⟩:=hcut;have⟨bJ,aA⟩:=Xq<|ax&&decide ((G:Int)<=4);rw[<-aA];have bK:=X aA;clear aA;go_wp2_with fail;refine(lX ⟨t,e,1,j,u,J,v,c,S⟩ L G M aY).M ?_;rw[show arr ⟨t,e,1,j,u,J,v,c,S⟩=1 from Z];rintro V bL ⟨rfl,ba⟩;have aq:=X<|ap.o.kv ba;have bM:=aq.o.lt.1;have bN:=aq.o.lt.2;clear ba;clear w x y z A B C D E;have⟨w,x,y,z,A,B,C,D,E⟩:=kQ aq.o.2.1;clear w x y z A B C D E;go_upto_region 10 with fail;refine mS (λF bi=>uj m O I (EC t e 1 j u J v c<|.slice L G M) (EC t e 1 (if F 5=true then j else 0) u 0 (if F 9=true then 0 else v) (if F 7=true then c else 0) (if F 11=true then Nl else .slice L G M)) bi) (mU [(Pp O 3),(·=j),(Pp O 7),(·=c),(Pp I 3),Tr,(Pp I 7),Tr,(Pp I 6),Tr,(Pp I 8),Tr]) [] Ut Ut 248 Z Ut (aq.o.drew) ⟨?_,?_,?_,?_,?_,?_,?_,?_,?_,?_,?_,?_,trivial⟩ ?_;intro F k m n p q a i d l r;have bj:=lr<|show k.eval (.tmp 2)=.pointer (some ⟨O,0,none⟩)from i 2 Z;clear i d l r p q n;refine kA.lF λP s=>?_;unfold kA;go_simp;exact s _ _ ⟨Z,a,Qe⟩;intro F k m n p q a i d l r;have bO:=lr<|show k.eval (.tmp 53)=.pointer (some ⟨O,3,none⟩)from d 0 _ Z Z;clear i d l r p q n;have bk:=kB a.2.1 3 _ Z;have K:=X a;clear a;refine kA.lF λP s=>?_;unfold kA;go_simp;exact s _ _ ⟨Z,K.o,Qe⟩;intro F k m n p q a i d l r;have bj:=lr<|show k.eval (.tmp 2)=.pointer (some ⟨O,0,none⟩)from i 2 Z;clear i d l r p q n;refine kA.lF λP s=>?_;unfold kA;go_simp;exact s _ _ ⟨Z,a,Qe⟩;intro F k m n p q a i d l r;have bP:=lr<|show k.eval (.tmp 55)=.pointer (some ⟨O,7,none⟩)from d 2 _ Z Z;clear i d l r p q n;have bk:=kB a.2.1 7 _ Z;have K:=X a;clear a;refine kA.lF λP s=>?_;unfold kA;go_simp;exact s _ _ ⟨Z,K.o,Qe⟩;intro F k m n p q a i d l r;have aB:=lr<|show k.eval (.tmp 5)=.pointer (some ⟨I,0,none⟩)from i 5 Z;clear i d l r p q n;refine kA.lF λP s=>?_;unfold kA;go_simp;exact s _ _ ⟨Z,a,Qe⟩;intro F k m n p q a i d l r;have bQ:=lr<|show k.eval (.tmp 57)=.pointer (some ⟨I,3,none⟩)from d 4 _ Z Z;have bR:=lr<|show k.eval (.tmp 54)=.int .i64 j from d 1 _ Z Z;clear i d l r p q n;have aC:=kB a.2.2 3 _ Z;have aD:=kx a.2.2 3;have aE:=a.lt.2;have K:=X a;clear a;refine kA.lF λP s=>?_;unfold kA;go_simp;exact s _ _ ⟨trivial,(K.o.set ao.o.2 an 3 _),Qe⟩;intro F k m n p q a i d l r;have aB:=lr<|show k.eval (.tmp 5)=.pointer (some ⟨I,0,none⟩)from i 5 Z;clear i d l r p q n;refine kA.lF λP s=>?_;unfold kA;go_simp;exact s _ _ ⟨Z,a,Qe⟩;intro F k m n p q a i d l r;have bS:=lr<|show k.eval (.tmp 58)=.pointer (some ⟨I,7,none⟩)from d 6 _ Z Z;have bT:=lr<|show k.eval (.tmp 56)=.int .i64 c from d 3 _ Z Z;clear i d l r p q n;have aC:=kB a.2.2 7 _ Z;have aD:=kx a.2.2 7;have aE:=a.lt.2;have K:=X a;clear a;refine kA.lF λP s=>?_;unfold kA;go_simp;exact s _ _ ⟨trivial,(K.o.set ao.o.2 an 7 _),Qe⟩;intro F k m n p q a i d l r;have aB:=lr<|show k.eval (.tmp 5)=.pointer (some ⟨I,0,none⟩)from i 5 Z;clear i d l r p q n;refine kA.lF λP s=>?_;unfold kA;go_simp;exact s _ _ ⟨Z,a,Qe⟩;intro F k m n p q a i d l r;have bU:=lr<|show k.eval (.tmp 59)=.pointer (some ⟨I,6,none⟩)from d 8 _ Z Z;clear i d l r p q n;have aC:=kB a.2.2 6 _ Z;have aD:=kx a.2.2 6;have aE:=a.lt.2;have K:=X a;clear a;refine kA.lF λP s=>?_;unfold kA;go_simp;exact s _ _ ⟨trivial,(K.o.set ao.o.2 an 6 _),Qe⟩;intro F k m n p q a i d l r;have aB:=lr<|show k.eval (.tmp 5)=.pointer (some ⟨I,0,none⟩)from i 5 Z;clear i d l r p q n;refine kA.lF λP s=>?_;unfold kA;go_simp;exact s _ _ ⟨Z,a,Qe⟩;intro F k m n p q a i d l r;have bV:=lr<|show k.eval (.tmp 60)=.pointer (some ⟨I,8,none⟩)from d 10 _ Z Z;clear i d l r p q n;have aC:=kB a.2.2 8 _ Z;have aD:=kx a.2.2 8;have aE:=a.lt.2;have K:=X a;clear a;refine kA.lF λP s=>?_;unfold kA;go_simp;exact s _ _ ⟨trivial,(K.o.set ao.o.2 an 8 _),Qe⟩;intro F bW f ag a d l;have R:=X (show uj m O I (EC t e 1 j u J v c<|.slice L G M) (EC t e 1 j u 0 0 c Nl) f from by have bb:=a;simp only[ag 5 Ur,ag 7 Ur,ag 9 Ur,ag 11 Ur,T6]at bb;exact bb);clear a d l ag;simp only[ly,Act.put,Rp,RH,RD];have bX:=R.o.lt.1;have bY:=R.o.lt.2;have⟨w,x,y,z,A,B,C,D,E⟩:=kQ R.o.2.1;have aF:=au.o.kv R.o.1;have ab:=X<|show∀T:Nat,Calls prog 29 #[.pointer<|some ⟨U,0,none⟩] (f.drewN T) λV aG=>V=.returned (.int .i64 (g.kF.length:Int))/\aG=f.drewN T from λT=>qq U g (f.drewN T)<|aF.kv ⟨Z,Z,Z,QZ _,λ_ _=>Z⟩;have ac:=X<|show∀T:Nat,Calls prog 30 #[.pointer<|some ⟨U,0,none⟩] (f.drewN T) λV aG=>V=.returned (.int .i64 (g.kN.length:Int))/\aG=f.drewN T from λT=>zl U g (f.drewN T)<|aF.kv ⟨Z,Z,Z,QZ _,λ_ _=>Z⟩;clear aF;go_upto_region 11 with fail;by_cases ad:e=(g.kF.length:Int)
  .have bl:(e==(g.kF.length:Int))=true:=(by rw[ad];simp);have ar:=X ad;clear ad;by_cases bc:0<=j
   .have aH:=X bc;by_cases bd:j<(g.kN.length:Int)
    .have aI:=X bd;by_cases ae:c=0
     .have bm:(c==0)=true:=(by rw[ae];rfl);have aJ:=X ae;clear ae;go_quiet ((first|(go_at_call 29;exact R1<|ab.o _)|(go_at_call 30;exact R1<|ac.o _)));have b:=X<|R.o.kv<|show Below f f (f.drewN nq)from⟨Z,Z,Z,QZ _,λ_ _=>Z⟩;have ah:=b.o.lt.1;have ai:=b.o.lt.2;clear w x y z A B C D E;generalize f.drewN nq=aa at*;have⟨w,x,y,z,A,B,C,D,E⟩:=kQ b.o.2.1;have⟨bn,bo,bp,bq,br,bs,bt,bu,bv⟩:=kQ b.o.2.2;have aK:=X (show fits (kG g) ⟨t,e,1,j,u,J,v,c,S⟩=true from by show(decide (e=((g.kF.map (·.name)).length:Int))&&(yF (kG g) j&&(decide (c=0)||decide (c=1))))=true;rw[RS];simp[yF,kG,ar.o,aH.o,aI.o,aJ.o]);by_cases aj:0<=t
      .by_cases ak:0<=u
       .go_wp2_with fail;refine(HB am aa b.o.1 ⟨t,e,1,j,u,J,v,c,S⟩ ⟨t,e,1,j,u,0,0,c,[]⟩ L G M aS.o aT.o av.o Z).M ?_;rintro V bw ⟨rfl,al⟩;have aL:=X al;clear al;go_wp2_with fail;go_ret;exact⟨vT Q.o aK.o aj ak Z,b.o.1.T<|aL.o.M b.o.1.size⟩
       go_wp2_with fail;go_ret;exact⟨vN Q.o ak,b.o.1⟩
      go_wp2_with fail;go_ret;exact⟨vM Q.o aj,b.o.1⟩
     have bm:(c==0)=false:=(by rw[QY];exact ae);have aJ:=X ae;clear ae;by_cases af:c=1
     .have bx:(c==1)=true:=(by rw[af];rfl);have aM:=X af;clear af;go_quiet ((first|(go_at_call 29;exact R1<|ab.o _)|(go_at_call 30;exact R1<|ac.o _)));have b:=X<|R.o.kv<|show Below f f (f.drewN nq)from⟨Z,Z,Z,QZ _,λ_ _=>Z⟩;have ah:=b.o.lt.1;have ai:=b.o.lt.2;clear w x y z A B C D E;generalize f.drewN nq=aa at*;have⟨w,x,y,z,A,B,C,D,E⟩:=kQ b.o.2.1;have⟨bn,bo,bp,bq,br,bs,bt,bu,bv⟩:=kQ b.o.2.2;have aK:=X (show fits (kG g) ⟨t,e,1,j,u,J,v,c,S⟩=true from by show(decide (e=((g.kF.map (·.name)).length:Int))&&(yF (kG g) j&&(decide (c=0)||decide (c=1))))=true;rw[RS];simp[yF,kG,ar.o,aH.o,aI.o,aM.o]);by_cases aj:0<=t
      .by_cases ak:0<=u
       .go_wp2_with fail;refine(HB am aa b.o.1 ⟨t,e,1,j,u,J,v,c,S⟩ ⟨t,e,1,j,u,0,0,c,[]⟩ L G M aS.o aT.o av.o Z).M ?_;rintro V bw ⟨rfl,al⟩;have aL:=X al;clear al;go_wp2_with fail;go_ret;exact⟨vT Q.o aK.o aj ak Z,b.o.1.T<|aL.o.M b.o.1.size⟩
       go_wp2_with fail;go_ret;exact⟨vN Q.o ak,b.o.1⟩
      go_wp2_with fail;go_ret;exact⟨vM Q.o aj,b.o.1⟩
     have bx:(c==1)=false:=(by rw[QY];exact af);have aM:=X af;clear af;go_quiet ((first|(go_at_call 29;exact R1<|ab.o _)|(go_at_call 30;exact R1<|ac.o _)));have b:=X<|R.o.kv<|show Below f f (f.drewN nq)from⟨Z,Z,Z,QZ _,λ_ _=>Z⟩;have ah:=b.o.lt.1;have ai:=b.o.lt.2;clear w x y z A B C D E;generalize f.drewN nq=aa at*;have⟨w,x,y,z,A,B,C,D,E⟩:=kQ b.o.2.1;go_wp2_with fail;go_ret;exact⟨vF Q.o (by show(decide (e=((g.kF.map (·.name)).length:Int))&&(yF (kG g) j&&(decide (c=0)||decide (c=1))))=false;rw[RS];simp[yF,kG,aJ.o,aM.o]),b.o.1⟩
    have aI:=X bd;go_quiet ((first|(go_at_call 29;exact R1<|ab.o _)|(go_at_call 30;exact R1<|ac.o _)));have b:=X<|R.o.kv<|show Below f f (f.drewN nq)from⟨Z,Z,Z,QZ _,λ_ _=>Z⟩;have ah:=b.o.lt.1;have ai:=b.o.lt.2;clear w x y z A B C D E;generalize f.drewN nq=aa at*;have⟨w,x,y,z,A,B,C,D,E⟩:=kQ b.o.2.1;go_wp2_with fail;go_ret;exact⟨vF Q.o (by show(decide (e=((g.kF.map (·.name)).length:Int))&&(yF (kG g) j&&(decide (c=0)||decide (c=1))))=false;rw[RS];simp[yF,kG];intros;omega),b.o.1⟩
   have aH:=X bc;go_quiet ((first|(go_at_call 29;exact R1<|ab.o _)|(go_at_call 30;exact R1<|ac.o _)));have b:=X<|R.o.kv<|show Below f f (f.drewN nq)from⟨Z,Z,Z,QZ _,λ_ _=>Z⟩;have ah:=b.o.lt.1;have ai:=b.o.lt.2;clear w x y z A B C D E;generalize f.drewN nq=aa at*;have⟨w,x,y,z,A,B,C,D,E⟩:=kQ b.o.2.1;go_wp2_with fail;go_ret;exact⟨vF Q.o (by show(decide (e=((g.kF.map (·.name)).length:Int))&&(yF (kG g) j&&(decide (c=0)||decide (c=1))))=false;rw[RS];simp[yF,kG];intros;omega),b.o.1⟩
  have bl:(e==(g.kF.length:Int))=false:=(by rw[QY];exact ad);have ar:=X ad;clear ad;go_quiet ((first|(go_at_call 29;exact R1<|ab.o _)|(go_at_call 30;exact R1<|ac.o _)));have b:=X<|R.o.kv<|show Below f f (f.drewN nq)from⟨Z,Z,Z,QZ _,λ_ _=>Z⟩;have ah:=b.o.lt.1;have ai:=b.o.lt.2;clear w x y z A B C D E;generalize f.drewN nq=aa at*;have⟨w,x,y,z,A,B,C,D,E⟩:=kQ b.o.2.1;go_wp2_with fail;go_ret;exact⟨vF Q.o (by show(decide (e=((g.kF.map (·.name)).length:Int))&&(yF (kG g) j&&(decide (c=0)||decide (c=1))))=false;rw[RS];simp[yF,kG,ar.o]),b.o.1⟩
def rC{P:Program}{n:Type}{x:Array Oper}{o}{a:Act}{y:Act->World->Prop}{D:Exit->Act->World->Prop}{E:Prop}(w:World)(F:o.guard=none)(A B:Operand)(f:TypeId)
  (G:o.op=.call {callee:=.builtin .append,args:=#[A,B],argTypes:=#[f,f]})
  (g:Nat) (d:TypeId) (i:TypeInfo) (z:Value) (b p:Nat) (I:P.underlying f=some (.slice d)) (J:P.info? d=some i) (K:i.zero=some z)
  (L:i.size=b) (M:i.bytes=p) (N:z.cells.size=b)
  {j:Rel n} (ok:lh j b) (k:Nat->Prop) (e:Value) (c:List n) (O:a.eval A=e) (Q:kJ j d b k w g e c)
  (q:Addr) (r:List Value) (s:n) (R:a.eval B=.slice (some q) 1 1) (S:∀(C:Nat) (u:Value),r[C]?=some u->w.cell? (q.add C)=some u)
  (T:j (λt=>k t/\t<w/\some t≠e.ownBlock) w r s)
  (U:c.length+1<=maxLen) (V:(c.length+1)*p<=140737488355328) (aa:g<=w) (v:Nat) (ab:c.length=v)
  (ac:∀l m w',kJ j d b k w' g (.slice l (v+1) m) (c++[s])->w.grownBy w' e.ownBlock->y (a.put o.dst<|.slice l (v+1) m) w'):
  if Region.wanted o (yielded x a.tmps)=true then Oper.wp P o a w y D else E:=by
 have ad:Region.wanted o (yielded x a.tmps)=true:=by simp[Region.wanted,F]
 rw[RG ad];subst ab;have⟨l,m,w',ae,af,_,ag,_⟩:=ld (P:=P) (w:=w) g f o.type d i z b p I J K L M N ok k e c Q q r s S T U V aa;unfold Oper.wp execOp;simp only[G,resolve,invoke,builtin,RL,RN,Rt,Rz,Rx,RO,O,R,ae];exact ac l m w' af ag
def mh.put{T:lj}{vQ V':PV}{w}{pb pos:Nat}(a:mh T vQ w pb pos)(i:Nat)(u)(d:V'.lo=vQ.lo)(k:∀f c,(#[f,.int .i64 (pos:Int),.int .i64 c,vQ.v1,vQ.v2,vQ.v3,vQ.v4,.int .i64 0,.int .i64 0]:Array Value).setIfInBounds i u=#[f,.int .i64 (pos:Int),.int .i64 c,V'.v1,V'.v2,V'.v3,V'.v4,.int .i64 0,.int .i64 0]):mh T V' (w.setCell ⟨pb,i,none⟩ u) pb pos:=by have⟨b,l,c,m,n,g,j,p⟩:=a.ll;refine⟨⟨b,l,c,by rw[<-k];exact kt m,n,g,by rw[d];exact j,λq r s=>?_⟩,a.small,by rw[d];exact a.low.1,by rw[d,QW];exact a.low.2⟩;have⟨t,v,x⟩:=p q r s;have e:=(kE w pb i u).B b (QR j a.low.2) (λy=>g<|by injection y);exact⟨(Cb b _ e).T t,(Cb b _ e).T v,(Cb b _ e).T x⟩
