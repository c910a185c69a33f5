import Derived.Test.YtppncjcpdbhobaaGreatDoorZ17
import Derived.Test.YtppncjcpdbhobaaGreatDoorZ18
import Derived.Test.YtppncjcpdbhobaaGreatDoorZ19
set_option maxRecDepth 1000000
set_option maxHeartbeats 32000000
set_option linter.all false
namespace Go.Proofs.YtppncjcpdbhobaaGreatDoor
open RowKit Go.Proofs.Tryz lI Maps oZ qQ ChangeShapes WideShapes ChangeAt
def Ej(E i)(c a:Int)(j d k b l:Int)(p)(e q:Nat)(m)(B:Nat)(n)(r:oo i B n)(O:mo n)(F:kz mg E i (.slice p e q) m)(P:∀Q,E Q->Q<i)(R:e<=9223372036854775807):
  Calls prog 12 #[.agg<|EC c a 4 j d k b l<|.slice p e q,.pointer B] i (kH (.bool<|valid (kG n) ⟨c,a,4,j,d,k,b,l,m⟩) i):=by
 have al:=X F.len.1;have S:=X r;have am:=X O;have an:=X F;have ao:=X P;have T:=X R;clear r O F P R;have⟨aB,G⟩:=Xq<|valid (kG n) ⟨c,a,4,j,d,k,b,l,m⟩;rw[<-G];have C:=X G;clear G;have U:=X<|boxes i (EC c a 4 j d k b l<|.slice p e q)<|EC c a 4 0 d 0 b 0<|.slice p e q
 go_enter func12,ntmps12
 go_upto_region 2 with fail;have g:=U.o;have⟨ap,V⟩:=Xq<|(i.alloc<|.cells (EC c a 4 j d k b l<|.slice p e q) 29).alloc<|.cells (EC c a 4 0 d 0 b 0<|.slice p e q) 29;rw[<-V]at g⊢;clear V U;have⟨I,aa⟩:=Xq i.heap.size;rw[<-aa]at g⊢;have⟨ab,ac⟩:=Xq<|I+1;rw[<-ac]at g⊢;have aC:I≠ab:=Y
 have aD:=X<|show i<=I/\i<=ab from⟨Y,Y⟩;clear aa ac;replace g:=X g;have aE:=g.o.lt.1;have aF:=g.o.lt.2;have⟨s,t,u,v,w,x,y,z,A⟩:=kQ g.o.2.1;go_wp2_with fail;apply(lV B a n ap<|S.o.kv g.o.1).M;rintro J aq ⟨rfl,rfl⟩;go_wp2_with fail;apply(mm B a b n aq (S.o.kv g.o.1) am.o).M;rintro J ad ⟨rfl,ae⟩;have D:=X<|g.o.kv ae;have aG:=D.o.lt.1;have aH:=D.o.lt.2;clear ae;clear s t u v w x y z A;have⟨s,t,u,v,w,x,y,z,A⟩:=kQ D.o.2.1;have aI:(e:Int)<=9223372036854775807:=W T.o
 have⟨K,L⟩:=Xq<|oW (kG n) a b;rw[<-L];have ar:=X L;clear L;have⟨aJ,M⟩:=Xq<|nM (kG n) a;rw[<-M];have aK:=X M;clear M;go_upto_region 6 with fail;go_cut [8] (λau av=>au=.bool (K&&decide ((e:Int)<=4))/\ad=av)
 .cases K
  .go_wp2_with fail;go_meet;exact⟨Z,Z⟩
  go_wp2_with fail;go_meet;exact⟨UB,Z⟩
 obtain⟨rfl,rfl⟩:=hcut;have⟨aw,N⟩:=Xq<|K&&decide ((e:Int)<=4);rw[<-N];have ax:=X N;clear N;go_wp2_with fail;apply(lX ⟨c,a,4,j,d,k,b,l,m⟩ p e q ad).M;rw[show arr ⟨c,a,4,j,d,k,b,l,m⟩=4 from Z];rintro J ay ⟨rfl,af⟩;have f:=X<|D.o.kv af;have aL:=f.o.lt.1;have aM:=f.o.lt.2;clear af;clear s t u v w x y z A;have⟨s,t,u,v,w,x,y,z,A⟩:=kQ f.o.2.1;go_upto_region 39 with fail;clear s t u v w x y z A;have⟨ag,r⟩:=Xq aw;rw[<-r];have ah:=X (show ag=fits (kG n) ⟨c,a,4,j,d,k,b,l,m⟩from by rw[r,ax.o,ar.o,show decide ((e:Int)<=4)=decide (m.length<=4)from by rw[al.o];exact RJ.2 Y];rfl);clear r;have aN:=f.o.lt.1;have aO:=f.o.lt.2;have⟨s,t,u,v,w,x,y,z,A⟩:=kQ f.o.2.1;cases ag with
 |false=>go_wp2_with fail;go_ret;exact⟨vF C.o ah.o.symm,f.o.1⟩
 |true=>
  have⟨aP,aQ,aR,aS,aT,aU,aV,aW,aX⟩:=kQ f.o.2.2;have az:=X<|show fits (kG n) ⟨c,a,4,j,d,k,b,l,m⟩=true from ah.o.symm;by_cases ai:0<=c
  .by_cases aj:0<=d
   .go_wp2_with fail;apply(uo E ay f.o.1 ⟨c,a,4,j,d,k,b,l,m⟩ ⟨c,a,4,0,d,0,b,0,m⟩ p e q an.o ao.o T.o Z).M;rintro J aY ⟨rfl,ak⟩;have aA:=X ak;clear ak;go_wp2_with fail;go_ret;exact⟨vT C.o az.o ai aj Z,f.o.1.T<|aA.o.M f.o.1.size⟩
   go_wp2_with fail;go_ret;exact⟨vN C.o aj,f.o.1⟩
  go_wp2_with fail;go_ret;exact⟨vM C.o ai,f.o.1⟩
def El(I j)(c b:Int)(l d m e a:Int)(p)(f q:Nat)(r)(D:Nat)(g)(T:oo j D g)(U:mo g)(J:kz mg I j (.slice p f q) r)(V:∀aa,I aa->aa<j)(ab:f<=9223372036854775807):
  Calls prog 12 #[.agg<|EC c b 2 l d m e a<|.slice p f q,.pointer D] j (kH (.bool<|valid (kG g) ⟨c,b,2,l,d,m,e,a,r⟩) j):=by
 have aK:=X J.len.1;have ac:=X T;have av:=X U;have aw:=X J;have ax:=X V;have ad:=X ab;clear T U J V ab;have⟨aL,K⟩:=Xq<|valid (kG g) ⟨c,b,2,l,d,m,e,a,r⟩;rw[<-K];have s:=X K;clear K;have ae:=X<|boxes j (EC c b 2 l d m e a<|.slice p f q)<|EC c b 2 0 d 0 e 0<|.slice p f q
 go_enter func12,ntmps12
 go_upto_region 2 with fail;have k:=ae.o;have⟨ay,af⟩:=Xq<|(j.alloc<|.cells (EC c b 2 l d m e a<|.slice p f q) 29).alloc<|.cells (EC c b 2 0 d 0 e 0<|.slice p f q) 29;rw[<-af]at k⊢;clear af ae;have⟨E,ag⟩:=Xq j.heap.size;rw[<-ag]at k⊢;have⟨t,ah⟩:=Xq<|E+1;rw[<-ah]at k⊢;have L:E≠t:=Y
 have M:=X<|show j<=E/\j<=t from⟨Y,Y⟩;clear ag ah;replace k:=X k;have aM:=k.o.lt.1;have aN:=k.o.lt.2;have⟨u,v,w,x,y,z,A,B,C⟩:=kQ k.o.2.1;go_wp2_with fail;apply(lV D b g ay<|ac.o.kv k.o.1).M;rintro N az ⟨rfl,rfl⟩;go_wp2_with fail;apply(mm D b e g az (ac.o.kv k.o.1) av.o).M;rintro N ai ⟨rfl,aj⟩;have F:=X<|k.o.kv aj;have aO:=F.o.lt.1;have aP:=F.o.lt.2;clear aj;clear u v w x y z A B C;have⟨u,v,w,x,y,z,A,B,C⟩:=kQ F.o.2.1;have aQ:(f:Int)<=9223372036854775807:=W ad.o
 have⟨O,P⟩:=Xq<|oW (kG g) b e;rw[<-P];have aR:=X P;clear P;have⟨aA,Q⟩:=Xq<|nM (kG g) b;rw[<-Q];have G:=X Q;clear Q;go_upto_region 6 with fail;go_cut [8] (λaB aC=>aB=.bool (O&&decide ((f:Int)<=4))/\ai=aC)
 .cases O
  .go_wp2_with fail;go_meet;exact⟨Z,Z⟩
  go_wp2_with fail;go_meet;exact⟨UB,Z⟩
 obtain⟨rfl,rfl⟩:=hcut;have⟨aS,R⟩:=Xq<|O&&decide ((f:Int)<=4);rw[<-R];have aT:=X R;clear R;go_wp2_with fail;apply(lX ⟨c,b,2,l,d,m,e,a,r⟩ p f q ai).M;rw[show arr ⟨c,b,2,l,d,m,e,a,r⟩=2 from Z];rintro N aD ⟨rfl,ak⟩;have n:=X<|F.o.kv ak;have aU:=n.o.lt.1;have aV:=n.o.lt.2;clear ak;clear u v w x y z A B C;have⟨u,v,w,x,y,z,A,B,C⟩:=kQ n.o.2.1;have al:=kr n.o.2.2 7;have aE:=kx n.o.2.2 7;have am:=kr n.o.2.2 6;have aF:=kx n.o.2.2 6;have an:=kr n.o.2.2 8;have aG:=kx n.o.2.2 8;go_upto_region 14 with fail;have⟨ao,S⟩:=Xq<|((aD.setCell ⟨t,7,none⟩<|.int .i64 a).setCell ⟨t,6,none⟩<|.int .i64 0).setCell ⟨t,8,none⟩<|(Nl);have i:=X (show uj j E t (EC c b 2 l d m e a<|.slice p f q) (EC c b 2 0 d 0 0 a Nl) ao from by rw[S];exact(((n.o.set M.o.2 L 7 _).set M.o.2 L 6 _).set M.o.2 L 8 _));rw[<-S];have aW:=i.o.lt.1;have aX:=i.o.lt.2;clear S al aE am aF an aG;clear u v w x y z A B C;have⟨u,v,w,x,y,z,A,B,C⟩:=kQ i.o.2.1;cases aA
 .go_wp2_with fail;go_ret;exact⟨vF s.o (by show(nM (kG g) b&&(decide (1<=a)&&decide (a<=3)))=false;rw[<-G.o];rfl),i.o.1⟩
 by_cases ap:1<=a
 .by_cases aH:a<=3
  .have⟨aY,aZ,ba,bb,bc,bd,am,al,an⟩:=kQ i.o.2.2;have aI:=X (show fits (kG g) ⟨c,b,2,l,d,m,e,a,r⟩=true from by show(nM (kG g) b&&(decide (1<=a)&&decide (a<=3)))=true;rw[<-G.o,Sk ap,Sk aH];rfl);by_cases aq:0<=c
   .by_cases ar:0<=d
    .go_wp2_with fail;apply(HB I ao i.o.1 ⟨c,b,2,l,d,m,e,a,r⟩ ⟨c,b,2,0,d,0,0,a,[]⟩ p f q aw.o ax.o ad.o Z).M;rintro N be ⟨rfl,au⟩;have aJ:=X au;clear au;go_wp2_with fail;go_ret;exact⟨vT s.o aI.o aq ar Z,i.o.1.T<|aJ.o.M i.o.1.size⟩
    go_wp2_with fail;go_ret;exact⟨vN s.o ar,i.o.1⟩
   go_wp2_with fail;go_ret;exact⟨vM s.o aq,i.o.1⟩
  go_wp2_with fail;go_ret;exact⟨vF s.o (by show(nM (kG g) b&&(decide (1<=a)&&decide (a<=3)))=false;rw[<-G.o,Sk ap,Sr<|show¬a<=3 from Y];rfl),i.o.1⟩
 go_wp2_with fail;go_ret;exact⟨vF s.o (by show(nM (kG g) b&&(decide (1<=a)&&decide (a<=3)))=false;rw[<-G.o,Sr<|show¬1<=a from Y];rfl),i.o.1⟩
def CS(K g)(c a:Int)(j d k b l:Int)(n)(e p:Nat)(A)(B:Nat)(f)(T:oo g B f)(U:mo f)(L:kz mg K g (.slice n e p) A)(V:∀aa,K aa->aa<g)(ab:e<=9223372036854775807):
  Calls prog 12 #[.agg<|EC c a 11 j d k b l<|.slice n e p,.pointer B] g (kH (.bool<|valid (kG f) ⟨c,a,11,j,d,k,b,l,A⟩) g):=by
 have aI:=X L.len.1;have M:=X T;have ac:=X U;have aw:=X L;have ax:=X V;have ad:=X ab;clear T U L V ab;have⟨aJ,N⟩:=Xq<|valid (kG f) ⟨c,a,11,j,d,k,b,l,A⟩;rw[<-N];have E:=X N;clear N;have ae:=X<|boxes g (EC c a 11 j d k b l<|.slice n e p)<|EC c a 11 0 d 0 b 0<|.slice n e p
 go_enter func12,ntmps12
 go_upto_region 2 with fail;have i:=ae.o;have⟨ay,af⟩:=Xq<|(g.alloc<|.cells (EC c a 11 j d k b l<|.slice n e p) 29).alloc<|.cells (EC c a 11 0 d 0 b 0<|.slice n e p) 29;rw[<-af]at i⊢;clear af ae;have⟨F,ag⟩:=Xq g.heap.size;rw[<-ag]at i⊢;have⟨C,ah⟩:=Xq<|F+1;rw[<-ah]at i⊢;have ai:F≠C:=Y
 have aj:=X<|show g<=F/\g<=C from⟨Y,Y⟩;clear ag ah;replace i:=X i;have aK:=i.o.lt.1;have aL:=i.o.lt.2;have⟨q,r,s,t,u,v,w,x,y⟩:=kQ i.o.2.1;go_wp2_with fail;apply(lV B a f ay<|M.o.kv i.o.1).M;rintro G az ⟨rfl,rfl⟩;go_wp2_with fail;apply(mm B a b f az (M.o.kv i.o.1) ac.o).M;rintro G ak ⟨rfl,al⟩;have I:=X<|i.o.kv al;have aM:=I.o.lt.1;have aN:=I.o.lt.2;clear al;clear q r s t u v w x y;have⟨q,r,s,t,u,v,w,x,y⟩:=kQ I.o.2.1;have aO:(e:Int)<=9223372036854775807:=W ad.o
 have⟨J,O⟩:=Xq<|oW (kG f) a b;rw[<-O];have P:=X O;clear O;have⟨aP,Q⟩:=Xq<|nM (kG f) a;rw[<-Q];have aQ:=X Q;clear Q;go_upto_region 6 with fail;go_cut [8] (λaA aB=>aA=.bool (J&&decide ((e:Int)<=4))/\ak=aB)
 .cases J
  .go_wp2_with fail;go_meet;exact⟨Z,Z⟩
  go_wp2_with fail;go_meet;exact⟨UB,Z⟩
 obtain⟨rfl,rfl⟩:=hcut;have⟨aR,R⟩:=Xq<|J&&decide ((e:Int)<=4);rw[<-R];have aS:=X R;clear R;go_wp2_with fail;apply(lX ⟨c,a,11,j,d,k,b,l,A⟩ n e p ak).M;rw[show arr ⟨c,a,11,j,d,k,b,l,A⟩=11 from Z];rintro G aC ⟨rfl,am⟩;have z:=X<|I.o.kv am;have aT:=z.o.lt.1;have aU:=z.o.lt.2;clear am;clear q r s t u v w x y;have⟨q,r,s,t,u,v,w,x,y⟩:=kQ z.o.2.1;have an:=kr z.o.2.2 4;have aD:=kx z.o.2.2 4;have ao:=kr z.o.2.2 8;have aE:=kx z.o.2.2 8;go_upto_region 38 with fail;have⟨ap,S⟩:=Xq<|(aC.setCell ⟨C,4,none⟩<|.int .i64 0).setCell ⟨C,8,none⟩<|(Nl);have D:=X (show uj g F C (EC c a 11 j d k b l<|.slice n e p) (EC c a 11 0 0 0 b 0 Nl) ap from by rw[S];exact((z.o.set aj.o.2 ai 4 _).set aj.o.2 ai 8 _));rw[<-S];have aV:=D.o.lt.1;have aW:=D.o.lt.2;clear S an aD ao aE;clear q r s t u v w x y;have⟨q,r,s,t,u,v,w,x,y⟩:=kQ D.o.2.1;go_wp2_with fail;apply(mm B a b f ap (M.o.kv D.o.1) ac.o).M;rintro G aF ⟨rfl,aq⟩;have m:=X<|D.o.kv aq;have aX:=m.o.lt.1;have aY:=m.o.lt.2;clear aq;clear q r s t u v w x y;have⟨q,r,s,t,u,v,w,x,y⟩:=kQ m.o.2.1;rw[<-P.o];cases J
 .go_wp2_with fail;go_ret;exact⟨vF E.o (by show oW (kG f) a b=false;rw[<-P.o]),m.o.1⟩
 have⟨aZ,ba,bb,bc,an,bd,be,bf,ao⟩:=kQ m.o.2.2;have aG:=X (show fits (kG f) ⟨c,a,11,j,d,k,b,l,A⟩=true from by show oW (kG f) a b=true;rw[<-P.o]);by_cases ar:0<=c
 .by_cases au:0<=d
  .go_wp2_with fail;apply(HB K aF m.o.1 ⟨c,a,11,j,d,k,b,l,A⟩ ⟨c,a,11,0,0,0,b,0,[]⟩ n e p aw.o ax.o ad.o Z).M;rintro G bg ⟨rfl,av⟩;have aH:=X av;clear av;go_wp2_with fail;go_ret;exact⟨vT E.o aG.o ar au Z,m.o.1.T<|aH.o.M m.o.1.size⟩
  go_wp2_with fail;go_ret;exact⟨vN E.o au,m.o.1⟩
 go_wp2_with fail;go_ret;exact⟨vM E.o ar,m.o.1⟩
def Eo(M k)(g a:Int)(d i m b n:Int)(p)(c q:Nat)(f)(C:Nat)(e)(aa:oo k C e)(ab:mo e)(N:kz mg M k (.slice p c q) f)(ac:∀ad,M ad->ad<k)(ae:c<=9223372036854775807):
  Calls prog 12 #[.agg<|EC g a 8 d i m b n<|.slice p c q,.pointer C] k (kH (.bool<|valid (kG e) ⟨g,a,8,d,i,m,b,n,f⟩) k):=by
 have E:=X N.len.1;have O:=X aa;have af:=X ab;have aw:=X N;have ax:=X ac;have ag:=X ae;clear aa ab N ac ae;have⟨aM,P⟩:=Xq<|valid (kG e) ⟨g,a,8,d,i,m,b,n,f⟩;rw[<-P];have A:=X P;clear P;have ah:=X<|boxes k (EC g a 8 d i m b n<|.slice p c q)<|EC g a 8 0 i 0 b 0<|.slice p c q
 go_enter func12,ntmps12
 go_upto_region 2 with fail;have l:=ah.o;have⟨ay,ai⟩:=Xq<|(k.alloc<|.cells (EC g a 8 d i m b n<|.slice p c q) 29).alloc<|.cells (EC g a 8 0 i 0 b 0<|.slice p c q) 29;rw[<-ai]at l⊢;clear ai ah;have⟨F,aj⟩:=Xq k.heap.size;rw[<-aj]at l⊢;have⟨G,ak⟩:=Xq<|F+1;rw[<-ak]at l⊢;have az:F≠G:=Y
 have aA:=X<|show k<=F/\k<=G from⟨Y,Y⟩;clear aj ak;replace l:=X l;have aN:=l.o.lt.1;have aO:=l.o.lt.2;have⟨r,s,t,u,v,w,x,y,z⟩:=kQ l.o.2.1;go_wp2_with fail;apply(lV C a e ay<|O.o.kv l.o.1).M;rintro I aB ⟨rfl,rfl⟩;go_wp2_with fail;apply(mm C a b e aB (O.o.kv l.o.1) af.o).M;rintro I al ⟨rfl,am⟩;have J:=X<|l.o.kv am;have aP:=J.o.lt.1;have aQ:=J.o.lt.2;clear am;clear r s t u v w x y z;have⟨r,s,t,u,v,w,x,y,z⟩:=kQ J.o.2.1;have aR:(c:Int)<=9223372036854775807:=W ag.o
 have⟨Q,R⟩:=Xq<|oW (kG e) a b;rw[<-R];have aS:=X R;clear R;have⟨aC,S⟩:=Xq<|nM (kG e) a;rw[<-S];have K:=X S;clear S;go_upto_region 6 with fail;go_cut [8] (λaD aE=>aD=.bool (Q&&decide ((c:Int)<=4))/\al=aE)
 .cases Q
  .go_wp2_with fail;go_meet;exact⟨Z,Z⟩
  go_wp2_with fail;go_meet;exact⟨UB,Z⟩
 obtain⟨rfl,rfl⟩:=hcut;have⟨aT,T⟩:=Xq<|Q&&decide ((c:Int)<=4);rw[<-T];have aU:=X T;clear T;go_wp2_with fail;apply(lX ⟨g,a,8,d,i,m,b,n,f⟩ p c q al).M;rw[show arr ⟨g,a,8,d,i,m,b,n,f⟩=8 from Z];rintro I aF ⟨rfl,an⟩;have B:=X<|J.o.kv an;have aV:=B.o.lt.1;have aW:=B.o.lt.2;clear an;clear r s t u v w x y z;have⟨r,s,t,u,v,w,x,y,z⟩:=kQ B.o.2.1;have ao:=kr B.o.2.2 3;have aG:=kx B.o.2.2 3;go_upto_region 25 with fail;have⟨ap,U⟩:=Xq<|aF.setCell ⟨G,3,none⟩<|.int .i64 d;have D:=X (show uj k F G (EC g a 8 d i m b n<|.slice p c q) (EC g a 8 d i 0 b 0<|.slice p c q) ap from by rw[U];exact(B.o.set aA.o.2 az 3 _));rw[<-U];have aX:=D.o.lt.1;have aY:=D.o.lt.2;clear U ao aG;clear r s t u v w x y z;have⟨r,s,t,u,v,w,x,y,z⟩:=kQ D.o.2.1;go_wp2_with fail;apply(mm C d b e ap (O.o.kv D.o.1) af.o).M;rintro I aH ⟨rfl,aq⟩;have j:=X<|D.o.kv aq;have aZ:=j.o.lt.1;have ba:=j.o.lt.2;clear aq;clear r s t u v w x y z;have⟨r,s,t,u,v,w,x,y,z⟩:=kQ j.o.2.1;have⟨aI,V⟩:=Xq<|oW (kG e) d b;rw[<-V];have L:=X V;clear V;cases aC
 .go_wp2_with fail;go_ret;exact⟨vF A.o (by show(nM (kG e) a&&(oW (kG e) d b&&decide (f.length<=4)))=false;rw[<-K.o,<-L.o,(show decide (f.length<=4)=decide ((c:Int)<=4)from by rw[E.o];exact RJ.2 Y)];rfl),j.o.1⟩
 cases aI
 .go_wp2_with fail;go_ret;exact⟨vF A.o (by show(nM (kG e) a&&(oW (kG e) d b&&decide (f.length<=4)))=false;rw[<-K.o,<-L.o,(show decide (f.length<=4)=decide ((c:Int)<=4)from by rw[E.o];exact RJ.2 Y)];rfl),j.o.1⟩
 by_cases aJ:(c:Int)<=4
 .have⟨bb,bc,bd,ao,be,bf,bg,bh,bi⟩:=kQ j.o.2.2;have aK:=X (show fits (kG e) ⟨g,a,8,d,i,m,b,n,f⟩=true from by show(nM (kG e) a&&(oW (kG e) d b&&decide (f.length<=4)))=true;rw[<-K.o,<-L.o,(show decide (f.length<=4)=decide ((c:Int)<=4)from by rw[E.o];exact RJ.2 Y),Sk aJ];rfl);by_cases ar:0<=g
  .by_cases au:0<=i
   .go_wp2_with fail;apply(uo M aH j.o.1 ⟨g,a,8,d,i,m,b,n,f⟩ ⟨g,a,8,d,i,0,b,0,f⟩ p c q aw.o ax.o ag.o Z).M;rintro I bj ⟨rfl,av⟩;have aL:=X av;clear av;go_wp2_with fail;go_ret;exact⟨vT A.o aK.o ar au Z,j.o.1.T<|aL.o.M j.o.1.size⟩
   go_wp2_with fail;go_ret;exact⟨vN A.o au,j.o.1⟩
  go_wp2_with fail;go_ret;exact⟨vM A.o ar,j.o.1⟩
 go_wp2_with fail;go_ret;exact⟨vF A.o (by show(nM (kG e) a&&(oW (kG e) d b&&decide (f.length<=4)))=false;rw[<-K.o,<-L.o,(show decide (f.length<=4)=decide ((c:Int)<=4)from by rw[E.o];exact RJ.2 Y),Sr<|show¬(c:Int)<=4 from Y];rfl),j.o.1⟩
def CT(ab p)(j c:Int)(b k a q y:Int)(B)(i C:Nat)(f)(ar:Nat)(l)(aS:oo p ar l)(aT:mo l)(g:kz mg ab p (.slice B i C) f)(aU:∀aV,ab aV->aV<p)(aW:i<=9223372036854775807):
  Calls prog 12 #[.agg<|EC j c 10 b k a q y<|.slice B i C,.pointer ar] p (kH (.bool<|valid (kG l) ⟨j,c,10,b,k,a,q,y,f⟩) p):=by
 have z:=X g.len.1;have aX:=X aS;have L:=X aT;have au:=X g;have av:=X aU;have ao:=X aW;clear aS aT g aU aW;have⟨bt,aA⟩:=Xq<|valid (kG l) ⟨j,c,10,b,k,a,q,y,f⟩;rw[<-aA];have m:=X aA;clear aA;have aY:=X<|boxes p (EC j c 10 b k a q y<|.slice B i C)<|EC j c 10 0 k 0 q 0<|.slice B i C
 go_enter func12,ntmps12
 go_upto_region 2 with fail;have M:=aY.o;have⟨bl,aZ⟩:=Xq<|(p.alloc<|.cells (EC j c 10 b k a q y<|.slice B i C) 29).alloc<|.cells (EC j c 10 0 k 0 q 0<|.slice B i C) 29;rw[<-aZ]at M⊢;clear aZ aY;have⟨N,ba⟩:=Xq p.heap.size;rw[<-ba]at M⊢;have⟨F,bb⟩:=Xq<|N+1;rw[<-bb]at M⊢;have aB:N≠F:=Y
 have aC:=X<|show p<=N/\p<=F from⟨Y,Y⟩;clear ba bb;replace M:=X M;have bu:=M.o.lt.1;have bv:=M.o.lt.2;have⟨ac,ad,ae,af,ag,ah,ai,aj,ak⟩:=kQ M.o.2.1;go_wp2_with fail;apply(lV ar c l bl<|aX.o.kv M.o.1).M;rintro al bm ⟨rfl,rfl⟩;go_wp2_with fail;apply(mm ar c q l bm (aX.o.kv M.o.1) L.o).M;rintro al bc ⟨rfl,bd⟩;have aw:=X<|M.o.kv bd;have bw:=aw.o.lt.1;have bx:=aw.o.lt.2;clear bd;clear ac ad ae af ag ah ai aj ak;have⟨ac,ad,ae,af,ag,ah,ai,aj,ak⟩:=kQ aw.o.2.1;have bz:(i:Int)<=9223372036854775807:=W ao.o
 have⟨aD,aE⟩:=Xq<|oW (kG l) c q;rw[<-aE];have bA:=X aE;clear aE;have⟨ap,aF⟩:=Xq<|nM (kG l) c;rw[<-aF];have A:=X aF;clear aF;go_upto_region 6 with fail;go_cut [8] (λbn bo=>bn=.bool (aD&&decide ((i:Int)<=4))/\bc=bo)
 .cases aD
  .go_wp2_with fail;go_meet;exact⟨Z,Z⟩
  go_wp2_with fail;go_meet;exact⟨UB,Z⟩
 obtain⟨rfl,rfl⟩:=hcut;have⟨bB,aG⟩:=Xq<|aD&&decide ((i:Int)<=4);rw[<-aG];have bC:=X aG;clear aG;go_wp2_with fail;apply(lX ⟨j,c,10,b,k,a,q,y,f⟩ B i C bc).M;rw[show arr ⟨j,c,10,b,k,a,q,y,f⟩=10 from Z];rintro al bD ⟨rfl,be⟩;have ax:=X<|aw.o.kv be;have bE:=ax.o.lt.1;have bF:=ax.o.lt.2;clear be;clear ac ad ae af ag ah ai aj ak;have⟨ac,ad,ae,af,ag,ah,ai,aj,ak⟩:=kQ ax.o.2.1;clear ac ad ae af ag ah ai aj ak;go_upto_region 31 with fail;refine mS (λE bp=>uj p N F (EC j c 10 b k a q y<|.slice B i C) (EC j c 10 (if E 5=true then b else 0) k (if E 7=true then a else 0) (if E 9=true then 0 else q) 0<|.slice B i C) bp) (mU [(Pp N 3),(·=b),(Pp N 5),(·=a),(Pp F 3),Tr,(Pp F 5),Tr,(Pp F 6),Tr]) [] Ut Ut 248 Z Ut (ax.o.drew) ⟨?_,?_,?_,?_,?_,?_,?_,?_,?_,?_,trivial⟩ ?_;intro E r p t u v e n g s w;have bq:=lr<|show r.eval (.tmp 2)=.pointer N from n 2 Z;clear n g s w u v t;refine kA.lF λS x=>?_;unfold kA;go_simp;exact x _ _ ⟨Z,e,Qe⟩;intro E r p t u v e n g s w;have bG:=lr<|show r.eval (.tmp 176)=.pointer (zc N)from g 0 _ Z Z;clear n g s w u v t;have br:=kr e.2.1 3;have L:=X e;clear e;refine kA.lF λS x=>?_;unfold kA;go_simp;exact x _ _ ⟨Z,L.o,Qe⟩;intro E r p t u v e n g s w;have bq:=lr<|show r.eval (.tmp 2)=.pointer N from n 2 Z;clear n g s w u v t;refine kA.lF λS x=>?_;unfold kA;go_simp;exact x _ _ ⟨Z,e,Qe⟩;intro E r p t u v e n g s w;have bH:=lr<|show r.eval (.tmp 178)=.pointer (zd N)from g 2 _ Z Z;clear n g s w u v t;have br:=kr e.2.1 5;have L:=X e;clear e;refine kA.lF λS x=>?_;unfold kA;go_simp;exact x _ _ ⟨Z,L.o,Qe⟩;intro E r p t u v e n g s w;have bf:=lr<|show r.eval (.tmp 5)=.pointer F from n 5 Z;clear n g s w u v t;refine kA.lF λS x=>?_;unfold kA;go_simp;exact x _ _ ⟨Z,e,Qe⟩;intro E r p t u v e n g s w;have bI:=lr<|show r.eval (.tmp 180)=.pointer (zc F)from g 4 _ Z Z;have bJ:=lr<|show r.eval (.tmp 177)=.int .i64 b from g 1 _ Z Z;clear n g s w u v t;have bg:=kr e.2.2 3;have bh:=kx e.2.2 3;have bi:=e.lt.2;have L:=X e;clear e;refine kA.lF λS x=>?_;unfold kA;go_simp;exact x _ _ ⟨trivial,(L.o.set aC.o.2 aB 3 _),Qe⟩;intro E r p t u v e n g s w;have bf:=lr<|show r.eval (.tmp 5)=.pointer F from n 5 Z;clear n g s w u v t;refine kA.lF λS x=>?_;unfold kA;go_simp;exact x _ _ ⟨Z,e,Qe⟩;intro E r p t u v e n g s w;have bK:=lr<|show r.eval (.tmp 181)=.pointer (zd F)from g 6 _ Z Z;have bL:=lr<|show r.eval (.tmp 179)=.int .i64 a from g 3 _ Z Z;clear n g s w u v t;have bg:=kr e.2.2 5;have bh:=kx e.2.2 5;have bi:=e.lt.2;have L:=X e;clear e;refine kA.lF λS x=>?_;unfold kA;go_simp;exact x _ _ ⟨trivial,(L.o.set aC.o.2 aB 5 _),Qe⟩;intro E r p t u v e n g s w;have bf:=lr<|show r.eval (.tmp 5)=.pointer F from n 5 Z;clear n g s w u v t;refine kA.lF λS x=>?_;unfold kA;go_simp;exact x _ _ ⟨Z,e,Qe⟩;intro E r p t u v e n g s w;have bM:=lr<|show r.eval (.tmp 182)=.pointer (some ⟨F,6,none⟩)from g 8 _ Z Z;clear n g s w u v t;have bg:=kr e.2.2 6;have bh:=kx e.2.2 6;have bi:=e.lt.2;have L:=X e;clear e;refine kA.lF λS x=>?_;unfold kA;go_simp;exact x _ _ ⟨trivial,(L.o.set aC.o.2 aB 6 _),Qe⟩;intro E bN aq ay e g s;have d:=X (show uj p N F (EC j c 10 b k a q y<|.slice B i C) (EC j c 10 b k a 0 0<|.slice B i C) aq from by have bj:=e;simp only[ay 5 Ur,ay 7 Ur,ay 9 Ur,T6]at bj;exact bj);clear e g s ay;simp only[nE];have bO:=d.o.lt.1;have bP:=d.o.lt.2;have⟨ac,ad,ae,af,ag,ah,ai,aj,ak⟩:=kQ d.o.2.1;by_cases am:b=1
 .have bs:(b==1)=true:=(by rw[am];rfl);have G:=X am;clear am;have bk:(b==0)=false:=(by rw[QY];have:=G.o;omega);by_cases I:a=1
  .have aH:(a==1)=true:=(by rw[I];rfl);have K:=X I;clear I;have az:(a==0)=false:=(by rw[QY];have:=K.o;omega);cases ap
   .go_wp2_with fail;go_ret;exact⟨vF m.o (by show(nM (kG l) c&&((decide (b=0)||decide (b=1))&&((decide (a=0)||decide (a=1))&&decide (f.length=if b=1/\a=1 then 1 else 2))))=false;rw[<-A.o];simp[z.o]),d.o.1⟩
   by_cases c:i=1
   .have T:((i:Int)==1)=true:=(by rw[c];rfl);have D:=X c;clear c;have⟨aI,aJ,aK,aL,aM,aN,aO,aP,aQ⟩:=kQ d.o.2.2;have U:=X (show fits (kG l) ⟨j,c,10,b,k,a,q,y,f⟩=true from by show(nM (kG l) c&&((decide (b=0)||decide (b=1))&&((decide (a=0)||decide (a=1))&&decide (f.length=if b=1/\a=1 then 1 else 2))))=true;rw[<-A.o];simp[z.o,D.o,G.o,K.o]);by_cases O:0<=j
    .by_cases P:0<=k
     .go_wp2_with fail;apply(uo ab aq d.o.1 ⟨j,c,10,b,k,a,q,y,f⟩ ⟨j,c,10,b,k,a,0,0,f⟩ B i C au.o av.o ao.o Z).M;rintro al aR ⟨rfl,Q⟩;have V:=X Q;clear Q;go_wp2_with fail;go_ret;exact⟨vT m.o U.o O P Z,d.o.1.T<|V.o.M d.o.1.size⟩
     go_wp2_with fail;go_ret;exact⟨vN m.o P,d.o.1⟩
    go_wp2_with fail;go_ret;exact⟨vM m.o O,d.o.1⟩
   have T:((i:Int)==1)=false:=(by rw[QY];omega);have D:=X c;clear c;go_wp2_with fail;go_ret;exact⟨vF m.o (by show(nM (kG l) c&&((decide (b=0)||decide (b=1))&&((decide (a=0)||decide (a=1))&&decide (f.length=if b=1/\a=1 then 1 else 2))))=false;rw[<-A.o];simp[z.o,D.o,G.o,K.o]),d.o.1⟩
  have aH:(a==1)=false:=(by rw[QY];exact I);have K:=X I;clear I;by_cases J:a=0
  .have az:(a==0)=true:=(by rw[J];rfl);have R:=X J;clear J;cases ap
   .go_wp2_with fail;go_ret;exact⟨vF m.o (by show(nM (kG l) c&&((decide (b=0)||decide (b=1))&&((decide (a=0)||decide (a=1))&&decide (f.length=if b=1/\a=1 then 1 else 2))))=false;rw[<-A.o];simp[z.o]),d.o.1⟩
   by_cases c:i=2
   .have T:((i:Int)==2)=true:=(by rw[c];rfl);have D:=X c;clear c;have⟨aI,aJ,aK,aL,aM,aN,aO,aP,aQ⟩:=kQ d.o.2.2;have U:=X (show fits (kG l) ⟨j,c,10,b,k,a,q,y,f⟩=true from by show(nM (kG l) c&&((decide (b=0)||decide (b=1))&&((decide (a=0)||decide (a=1))&&decide (f.length=if b=1/\a=1 then 1 else 2))))=true;rw[<-A.o];simp[z.o,D.o,G.o,K.o,R.o]);by_cases O:0<=j
    .by_cases P:0<=k
     .go_wp2_with fail;apply(uo ab aq d.o.1 ⟨j,c,10,b,k,a,q,y,f⟩ ⟨j,c,10,b,k,a,0,0,f⟩ B i C au.o av.o ao.o Z).M;rintro al aR ⟨rfl,Q⟩;have V:=X Q;clear Q;go_wp2_with fail;go_ret;exact⟨vT m.o U.o O P Z,d.o.1.T<|V.o.M d.o.1.size⟩
     go_wp2_with fail;go_ret;exact⟨vN m.o P,d.o.1⟩
    go_wp2_with fail;go_ret;exact⟨vM m.o O,d.o.1⟩
   have T:((i:Int)==2)=false:=(by rw[QY];omega);have D:=X c;clear c;go_wp2_with fail;go_ret;exact⟨vF m.o (by show(nM (kG l) c&&((decide (b=0)||decide (b=1))&&((decide (a=0)||decide (a=1))&&decide (f.length=if b=1/\a=1 then 1 else 2))))=false;rw[<-A.o];simp[z.o,D.o,G.o,K.o,R.o]),d.o.1⟩
  have az:(a==0)=false:=(by rw[QY];exact J);have R:=X J;clear J;cases ap
  .go_wp2_with fail;go_ret;exact⟨vF m.o (by show(nM (kG l) c&&((decide (b=0)||decide (b=1))&&((decide (a=0)||decide (a=1))&&decide (f.length=if b=1/\a=1 then 1 else 2))))=false;rw[<-A.o];simp[z.o]),d.o.1⟩
  go_wp2_with fail;go_ret;exact⟨vF m.o (by show(nM (kG l) c&&((decide (b=0)||decide (b=1))&&((decide (a=0)||decide (a=1))&&decide (f.length=if b=1/\a=1 then 1 else 2))))=false;rw[<-A.o];simp[z.o,G.o,K.o,R.o]),d.o.1⟩
 have bs:(b==1)=false:=(by rw[QY];exact am);have G:=X am;clear am;by_cases an:b=0
 .have bk:(b==0)=true:=(by rw[an];rfl);have aa:=X an;clear an;cases ap
  .go_wp2_with fail;go_ret;exact⟨vF m.o (by show(nM (kG l) c&&((decide (b=0)||decide (b=1))&&((decide (a=0)||decide (a=1))&&decide (f.length=if b=1/\a=1 then 1 else 2))))=false;rw[<-A.o];simp[z.o]),d.o.1⟩
  by_cases J:a=0
  .have az:(a==0)=true:=(by rw[J];rfl);have R:=X J;clear J;by_cases c:i=2
   .have T:((i:Int)==2)=true:=(by rw[c];rfl);have D:=X c;clear c;have⟨aI,aJ,aK,aL,aM,aN,aO,aP,aQ⟩:=kQ d.o.2.2;have U:=X (show fits (kG l) ⟨j,c,10,b,k,a,q,y,f⟩=true from by show(nM (kG l) c&&((decide (b=0)||decide (b=1))&&((decide (a=0)||decide (a=1))&&decide (f.length=if b=1/\a=1 then 1 else 2))))=true;rw[<-A.o];simp[z.o,D.o,G.o,aa.o,R.o]);by_cases O:0<=j
    .by_cases P:0<=k
     .go_wp2_with fail;apply(uo ab aq d.o.1 ⟨j,c,10,b,k,a,q,y,f⟩ ⟨j,c,10,b,k,a,0,0,f⟩ B i C au.o av.o ao.o Z).M;rintro al aR ⟨rfl,Q⟩;have V:=X Q;clear Q;go_wp2_with fail;go_ret;exact⟨vT m.o U.o O P Z,d.o.1.T<|V.o.M d.o.1.size⟩
     go_wp2_with fail;go_ret;exact⟨vN m.o P,d.o.1⟩
    go_wp2_with fail;go_ret;exact⟨vM m.o O,d.o.1⟩
   have T:((i:Int)==2)=false:=(by rw[QY];omega);have D:=X c;clear c;go_wp2_with fail;go_ret;exact⟨vF m.o (by show(nM (kG l) c&&((decide (b=0)||decide (b=1))&&((decide (a=0)||decide (a=1))&&decide (f.length=if b=1/\a=1 then 1 else 2))))=false;rw[<-A.o];simp[z.o,D.o,G.o,aa.o,R.o]),d.o.1⟩
  have az:(a==0)=false:=(by rw[QY];exact J);have R:=X J;clear J;by_cases I:a=1
  .have aH:(a==1)=true:=(by rw[I];rfl);have K:=X I;clear I;by_cases c:i=2
   .have T:((i:Int)==2)=true:=(by rw[c];rfl);have D:=X c;clear c;have⟨aI,aJ,aK,aL,aM,aN,aO,aP,aQ⟩:=kQ d.o.2.2;have U:=X (show fits (kG l) ⟨j,c,10,b,k,a,q,y,f⟩=true from by show(nM (kG l) c&&((decide (b=0)||decide (b=1))&&((decide (a=0)||decide (a=1))&&decide (f.length=if b=1/\a=1 then 1 else 2))))=true;rw[<-A.o];simp[z.o,D.o,G.o,aa.o,R.o,K.o]);by_cases O:0<=j
    .by_cases P:0<=k
     .go_wp2_with fail;apply(uo ab aq d.o.1 ⟨j,c,10,b,k,a,q,y,f⟩ ⟨j,c,10,b,k,a,0,0,f⟩ B i C au.o av.o ao.o Z).M;rintro al aR ⟨rfl,Q⟩;have V:=X Q;clear Q;go_wp2_with fail;go_ret;exact⟨vT m.o U.o O P Z,d.o.1.T<|V.o.M d.o.1.size⟩
     go_wp2_with fail;go_ret;exact⟨vN m.o P,d.o.1⟩
    go_wp2_with fail;go_ret;exact⟨vM m.o O,d.o.1⟩
   have T:((i:Int)==2)=false:=(by rw[QY];omega);have D:=X c;clear c;go_wp2_with fail;go_ret;exact⟨vF m.o (by show(nM (kG l) c&&((decide (b=0)||decide (b=1))&&((decide (a=0)||decide (a=1))&&decide (f.length=if b=1/\a=1 then 1 else 2))))=false;rw[<-A.o];simp[z.o,D.o,G.o,aa.o,R.o,K.o]),d.o.1⟩
  have aH:(a==1)=false:=(by rw[QY];exact I);have K:=X I;clear I;go_wp2_with fail;go_ret;exact⟨vF m.o (by show(nM (kG l) c&&((decide (b=0)||decide (b=1))&&((decide (a=0)||decide (a=1))&&decide (f.length=if b=1/\a=1 then 1 else 2))))=false;rw[<-A.o];simp[z.o,G.o,aa.o,R.o,K.o]),d.o.1⟩
 have bk:(b==0)=false:=(by rw[QY];exact an);have aa:=X an;clear an;cases ap
 .go_wp2_with fail;go_ret;exact⟨vF m.o (by show(nM (kG l) c&&((decide (b=0)||decide (b=1))&&((decide (a=0)||decide (a=1))&&decide (f.length=if b=1/\a=1 then 1 else 2))))=false;rw[<-A.o];simp[z.o]),d.o.1⟩
 go_wp2_with fail;go_ret;exact⟨vF m.o (by show(nM (kG l) c&&((decide (b=0)||decide (b=1))&&((decide (a=0)||decide (a=1))&&decide (f.length=if b=1/\a=1 then 1 else 2))))=false;rw[<-A.o];simp[z.o,G.o,aa.o]),d.o.1⟩
def CW(af l)(i b:Int)(e j a d:Int)(t)(g u:Nat)(m)(T:Nat)(k)(aB:oo l T k)(aC:mo k)(f:kz mg af l (.slice t g u) m)(aD:∀aE,af aE->aE<l)(aF:g<=9223372036854775807):
  Calls prog 12 #[.agg<|EC i b 7 e j a d 5<|.slice t g u,.pointer T] l (kH (.bool<|valid (kG k) ⟨i,b,7,e,j,a,d,5,m⟩) l):=by
 have U:=X f.len.1;have aj:=X aB;have D:=X aC;have aG:=X f;have aH:=X aD;have ak:=X aF;clear aB aC f aD aF;have⟨bs,al⟩:=Xq<|valid (kG k) ⟨i,b,7,e,j,a,d,5,m⟩;rw[<-al];have E:=X al;clear al;have aI:=X<|boxes l (EC i b 7 e j a d 5<|.slice t g u)<|EC i b 7 0 j 0 d 0<|.slice t g u
 go_enter func12,ntmps12
 go_upto_region 2 with fail;have B:=aI.o;have⟨aT,aJ⟩:=Xq<|(l.alloc<|.cells (EC i b 7 e j a d 5<|.slice t g u) 29).alloc<|.cells (EC i b 7 0 j 0 d 0<|.slice t g u) 29;rw[<-aJ]at B⊢;clear aJ aI;have⟨z,aK⟩:=Xq l.heap.size;rw[<-aK]at B⊢;have⟨A,aL⟩:=Xq<|z+1;rw[<-aL]at B⊢;have am:z≠A:=Y
 have an:=X<|show l<=z/\l<=A from⟨Y,Y⟩;clear aK aL;replace B:=X B;have bt:=B.o.lt.1;have bu:=B.o.lt.2;have ao:=kr B.o.2.2 7;have aU:=kx B.o.2.2 7;have⟨F,G,I,J,K,L,M,N,O⟩:=kQ B.o.2.1;go_upto_region 4 with fail;have⟨aM,n⟩:=Xq<|aT.setCell ⟨A,7,none⟩<|.int .i64 5;have Q:=X (show uj l z A (EC i b 7 e j a d 5<|.slice t g u) (EC i b 7 0 j 0 d 5<|.slice t g u) aM from by rw[n];exact B.o.set an.o.2 am 7 _);rw[<-n];have bv:=Q.o.lt.1;have bw:=Q.o.lt.2;clear n ao aU;clear F G I J K L M N O;have⟨F,G,I,J,K,L,M,N,O⟩:=kQ Q.o.2.1;go_wp2_with fail;apply(lV T b k aM<|aj.o.kv Q.o.1).M;rintro V aV ⟨rfl,rfl⟩;go_wp2_with fail;apply(mm T b d k aV (aj.o.kv Q.o.1) D.o).M;rintro V aN ⟨rfl,aO⟩;have ag:=X<|Q.o.kv aO;have bx:=ag.o.lt.1;have bz:=ag.o.lt.2;clear aO;clear F G I J K L M N O;have⟨F,G,I,J,K,L,M,N,O⟩:=kQ ag.o.2.1;have bA:(g:Int)<=9223372036854775807:=W ak.o
 have⟨ap,aq⟩:=Xq<|oW (kG k) b d;rw[<-aq];have aa:=X aq;clear aq;have⟨bB,ar⟩:=Xq<|nM (kG k) b;rw[<-ar];have bC:=X ar;clear ar;go_upto_region 6 with fail;go_cut [8] (λaW aX=>aW=.bool (ap&&decide ((g:Int)<=4))/\aN=aX)
 .cases ap
  .go_wp2_with fail;go_meet;exact⟨Z,Z⟩
  go_wp2_with fail;go_meet;exact⟨UB,Z⟩
 obtain⟨rfl,rfl⟩:=hcut;have⟨aY,au⟩:=Xq<|ap&&decide ((g:Int)<=4);rw[<-au];have ab:=X au;clear au;go_wp2_with fail;apply(lX ⟨i,b,7,e,j,a,d,5,m⟩ t g u aN).M;rw[show arr ⟨i,b,7,e,j,a,d,5,m⟩=5 from Z];rintro V bD ⟨rfl,aP⟩;have ah:=X<|ag.o.kv aP;have bE:=ah.o.lt.1;have bF:=ah.o.lt.2;clear aP;clear F G I J K L M N O;have⟨F,G,I,J,K,L,M,N,O⟩:=kQ ah.o.2.1;clear F G I J K L M N O;go_upto_region 21 with fail;refine mS (λC aZ=>uj l z A (EC i b 7 e j a d 5<|.slice t g u) (EC i b 7 (if C 5=true then e else 0) j (if C 7=true then a else 0) d 5<|.slice t g u) aZ) (mU [(Pp z 3),(·=e),(Pp z 5),(·=a),(Pp A 3),Tr,(Pp A 5),Tr]) [] Ut Ut 248 Z Ut (ah.o.drew) ⟨?_,?_,?_,?_,?_,?_,?_,?_,trivial⟩ ?_;intro C r l v w x c p f s n;have ba:=lr<|show r.eval (.tmp 2)=.pointer z from p 2 Z;clear p f s n w x v;refine kA.lF λP y=>?_;unfold kA;go_simp;exact y _ _ ⟨Z,c,Qe⟩;intro C r l v w x c p f s n;have bG:=lr<|show r.eval (.tmp 116)=.pointer (zc z)from f 0 _ Z Z;clear p f s n w x v;have bb:=kr c.2.1 3;have D:=X c;clear c;refine kA.lF λP y=>?_;unfold kA;go_simp;exact y _ _ ⟨Z,D.o,Qe⟩;intro C r l v w x c p f s n;have ba:=lr<|show r.eval (.tmp 2)=.pointer z from p 2 Z;clear p f s n w x v;refine kA.lF λP y=>?_;unfold kA;go_simp;exact y _ _ ⟨Z,c,Qe⟩;intro C r l v w x c p f s n;have bH:=lr<|show r.eval (.tmp 118)=.pointer (zd z)from f 2 _ Z Z;clear p f s n w x v;have bb:=kr c.2.1 5;have D:=X c;clear c;refine kA.lF λP y=>?_;unfold kA;go_simp;exact y _ _ ⟨Z,D.o,Qe⟩;intro C r l v w x c p f s n;have bc:=lr<|show r.eval (.tmp 5)=.pointer A from p 5 Z;clear p f s n w x v;refine kA.lF λP y=>?_;unfold kA;go_simp;exact y _ _ ⟨Z,c,Qe⟩;intro C r l v w x c p f s n;have bI:=lr<|show r.eval (.tmp 120)=.pointer (zc A)from f 4 _ Z Z;have bJ:=lr<|show r.eval (.tmp 117)=.int .i64 e from f 1 _ Z Z;clear p f s n w x v;have bd:=kr c.2.2 3;have be:=kx c.2.2 3;have bf:=c.lt.2;have D:=X c;clear c;refine kA.lF λP y=>?_;unfold kA;go_simp;exact y _ _ ⟨trivial,(D.o.set an.o.2 am 3 _),Qe⟩;intro C r l v w x c p f s n;have bc:=lr<|show r.eval (.tmp 5)=.pointer A from p 5 Z;clear p f s n w x v;refine kA.lF λP y=>?_;unfold kA;go_simp;exact y _ _ ⟨Z,c,Qe⟩;intro C r l v w x c p f s n;have bK:=lr<|show r.eval (.tmp 121)=.pointer (zd A)from f 6 _ Z Z;have bL:=lr<|show r.eval (.tmp 119)=.int .i64 a from f 3 _ Z Z;clear p f s n w x v;have bd:=kr c.2.2 5;have be:=kx c.2.2 5;have bf:=c.lt.2;have D:=X c;clear c;refine kA.lF λP y=>?_;unfold kA;go_simp;exact y _ _ ⟨trivial,(D.o.set an.o.2 am 5 _),Qe⟩;intro C bM aQ av c f s;have q:=X (show uj l z A (EC i b 7 e j a d 5<|.slice t g u) (EC i b 7 e j a d 5<|.slice t g u) aQ from by have aR:=c;simp only[av 5 Ur,av 7 Ur,T6]at aR;exact aR);clear c f s av;simp only[nE];have bN:=q.o.lt.1;have bO:=q.o.lt.2;have⟨F,G,I,J,K,L,M,N,O⟩:=kQ q.o.2.1;cases aY
 .go_wp2_with fail;go_ret;exact⟨vF E.o (by show((oW (kG k) b d&&decide (m.length<=4))&&(nM (kG k) e&&(decide (a=0)||decide (a=1))))=false;rw[<-aa.o,(show decide (m.length<=4)=decide ((g:Int)<=4)from by rw[U.o];exact RJ.2 Y),<-ab.o];rfl),q.o.1⟩
 go_wp2_with fail;apply(lV T e k aQ<|aj.o.kv q.o.1).M;rintro V aS ⟨rfl,rfl⟩;have⟨bg,aw⟩:=Xq<|nM (kG k) e;rw[<-aw];have ai:=X aw;clear aw;cases bg
 .go_wp2_with fail;go_ret;exact⟨vF E.o (by show((oW (kG k) b d&&decide (m.length<=4))&&(nM (kG k) e&&(decide (a=0)||decide (a=1))))=false;rw[<-aa.o,(show decide (m.length<=4)=decide ((g:Int)<=4)from by rw[U.o];exact RJ.2 Y),<-ab.o,<-ai.o];rfl),q.o.1⟩
 by_cases R:a=0
 .have bh:(a==0)=true:=(by rw[R];rfl);have ax:=X R;clear R;have⟨bi,bj,bk,bl,bm,bn,bo,ao,bp⟩:=kQ q.o.2.2;have ay:=X (show fits (kG k) ⟨i,b,7,e,j,a,d,5,m⟩=true from by show((oW (kG k) b d&&decide (m.length<=4))&&(nM (kG k) e&&(decide (a=0)||decide (a=1))))=true;rw[<-aa.o,(show decide (m.length<=4)=decide ((g:Int)<=4)from by rw[U.o];exact RJ.2 Y),<-ab.o,<-ai.o,Sk ax.o];rfl);by_cases ac:0<=i
  .by_cases ad:0<=j
   .go_wp2_with fail;apply(uo af aS q.o.1 ⟨i,b,7,e,j,a,d,5,m⟩ ⟨i,b,7,e,j,a,d,5,m⟩ t g u aG.o aH.o ak.o Z).M;rintro V bq ⟨rfl,ae⟩;have az:=X ae;clear ae;go_wp2_with fail;go_ret;exact⟨vT E.o ay.o ac ad Z,q.o.1.T<|az.o.M q.o.1.size⟩
   go_wp2_with fail;go_ret;exact⟨vN E.o ad,q.o.1⟩
  go_wp2_with fail;go_ret;exact⟨vM E.o ac,q.o.1⟩
 have bh:(a==0)=false:=(by rw[QY];exact R);have ax:=X R;clear R;by_cases S:a=1
 .have br:(a==1)=true:=(by rw[S];rfl);have aA:=X S;clear S;have⟨bi,bj,bk,bl,bm,bn,bo,ao,bp⟩:=kQ q.o.2.2;have ay:=X (show fits (kG k) ⟨i,b,7,e,j,a,d,5,m⟩=true from by show((oW (kG k) b d&&decide (m.length<=4))&&(nM (kG k) e&&(decide (a=0)||decide (a=1))))=true;rw[<-aa.o,(show decide (m.length<=4)=decide ((g:Int)<=4)from by rw[U.o];exact RJ.2 Y),<-ab.o,<-ai.o,Sk aA.o];simp);by_cases ac:0<=i
  .by_cases ad:0<=j
   .go_wp2_with fail;apply(uo af aS q.o.1 ⟨i,b,7,e,j,a,d,5,m⟩ ⟨i,b,7,e,j,a,d,5,m⟩ t g u aG.o aH.o ak.o Z).M;rintro V bq ⟨rfl,ae⟩;have az:=X ae;clear ae;go_wp2_with fail;go_ret;exact⟨vT E.o ay.o ac ad Z,q.o.1.T<|az.o.M q.o.1.size⟩
   go_wp2_with fail;go_ret;exact⟨vN E.o ad,q.o.1⟩
  go_wp2_with fail;go_ret;exact⟨vM E.o ac,q.o.1⟩
 have br:(a==1)=false:=(by rw[QY];exact S);have aA:=X S;clear S;go_wp2_with fail;go_ret;exact⟨vF E.o (by show((oW (kG k) b d&&decide (m.length<=4))&&(nM (kG k) e&&(decide (a=0)||decide (a=1))))=false;rw[<-aa.o,(show decide (m.length<=4)=decide ((g:Int)<=4)from by rw[U.o];exact RJ.2 Y),<-ab.o,<-ai.o,Sr ax.o,Sr aA.o];rfl),q.o.1⟩
def qQ.uX(T:lj):Option Fl:=do
 let b<-tq T [102,108,101,101,116] 0
 let (a,b)<-vH T b
 let b<-tq T [123] b
 let (fs,b)<-pC T [102,108,97,103] (wU T) (T.length+1) b
 if ov T b=[108,105,110,107]then none else
 let (cs,b)<-pC T [99,111,109,112,111,110,101,110,116] (wT T) (T.length+1) b
 let b<-tq T [125] b
 if b=T.length then some ⟨a,fs,[],cs⟩else none
def zE{b:lj}{i j:Nat}{k}(a:wU b i=some (k,j)):∃c d e f g,vH b i=some (c,d)/\tq b [61] d=some e/\wY b e=some (f,g)/\tq b [59] g=some j/\k=⟨c,f⟩:=by unfold wU at a;have⟨⟨c,d⟩,l,a⟩:=bind_some a;have⟨e,m,a⟩:=bind_some a;have⟨⟨f,g⟩,n,a⟩:=bind_some a;have⟨s,p,a⟩:=bind_some a;injection a with a;injection a with q r;subst q r;exact⟨c,d,e,f,g,l,m,n,p,Z⟩
def qQ.Jk{T:lj}{d q:Nat}{e:lI.Fg}(f:wU T d=some (e,q)):d<q:=by have⟨i,j,k,l,m,g,b,a,c,_⟩:=Go.Proofs.YtppncjcpdbhobaaGreatDoor.zE f;have:=rJ g;unfold tq at b c;unfold wY at a;split at b;injection b;split at c;injection c;split at a;injection a with a;injection a;omega;split at a;injection a with a;injection a;omega;cases a;cases c;cases b
def qQ.EJ{T:lj}{k:lI.Fl}(a:uX T=some k):∃c d e f g b i j,tq T [102,108,101,101,116] 0=some c/\vH T c=some (d,e)/\tq T [123] e=some f/\pC T [102,108,97,103] (wU T) (T.length+1) f=some (g,b)/\ov T b≠[108,105,110,107]/\pC T [99,111,109,112,111,110,101,110,116] (wT T) (T.length+1) b=some (i,j)/\tq T [125] j=some T.length/\k=⟨d,g,[],i⟩:=by
 unfold uX at a;have⟨c,l,a⟩:=Go.Proofs.YtppncjcpdbhobaaGreatDoor.bind_some a;have⟨⟨d,e⟩,m,a⟩:=Go.Proofs.YtppncjcpdbhobaaGreatDoor.bind_some a;have⟨f,n,a⟩:=Go.Proofs.YtppncjcpdbhobaaGreatDoor.bind_some a;have⟨⟨g,b⟩,p,a⟩:=Go.Proofs.YtppncjcpdbhobaaGreatDoor.bind_some a;simp only at a;split at a;cases a
 rename_i q
 have⟨⟨i,j⟩,r,a⟩:=Go.Proofs.YtppncjcpdbhobaaGreatDoor.bind_some a;have⟨u,s,a⟩:=Go.Proofs.YtppncjcpdbhobaaGreatDoor.bind_some a;simp only at a;split at a
 rename_i t
 injection a with a;subst a t;exact⟨c,d,e,f,g,b,i,j,l,m,n,p,q,r,s,Z⟩;cases a
def qQ.Jm:uX (kI.lexB ⟨src.toArray⟩)=some tree:=Ut
end Go.Proofs.YtppncjcpdbhobaaGreatDoor
namespace Go.Proofs.YtppncjcpdbhobaaGreatDoor.oZ
open Go
def G7:∀a:Fin 10,(UInt8.ofNat<|48+a.val).toNat=48+a.val:=Ur
def vB{a:Nat}(b:a<10):(UInt8.ofNat<|48+a).toNat=48+a:=G7 ⟨a,b⟩
def G8:∀(a:Nat),a<18446744073709551616->∀b,Lib.parseUint10 0 (Lib.decDigits a++b)=Lib.parseUint10 a b:=by
 intro a;induction a using Nat.strongRecOn with
 |_ a d=>intro e b;by_cases c:a<10;rw[Lib.decDigits,dif_pos c,List.singleton_append,Lib.parseUint10,vB c,if_pos Y,if_neg Y,if_neg Y];congr 1;omega;rw[Lib.decDigits,dif_neg c,List.append_assoc,d (a/10) Y Y,List.singleton_append,Lib.parseUint10,vB<|Nat.mod_lt _ Ur,if_pos Y,if_neg Y,if_neg Y];congr 1;omega
def Cl(a:Nat):∃b c,Lib.decDigits a=b::c/\48<=b.toNat/\b.toNat<=57/\(b.toNat=48->a=0):=by
 induction a using Nat.strongRecOn with
 |_ a f=>by_cases d:a<10;refine⟨_,[],by rw[Lib.decDigits,dif_pos d],?_,?_,?_⟩<;>rw[vB d]<;>omega;have⟨b,c,e,g,i,j⟩:=f (a/10) Y;exact⟨b,c++[UInt8.ofNat<|48+a % 10],by rw[Lib.decDigits,dif_neg d,e];rfl,g,i,λe=>W<|j e⟩
def uK(a:Nat)(b:a<18446744073709551616):Lib.parseMag (Lib.decDigits a)=.ok a:=by have⟨d,e,c,_⟩:=Cl a;unfold Lib.parseMag;rw[if_neg<|by rw[c];simp];have:=G8 a b [];rw[List.append_nil]at this;rw[this];rfl
def lZ(a:Int)(f:rS a):Lib.parseIntB 64 (Lib.itoa a)=.ok a:=by
 have⟨j,k⟩:=f;rw[Lib.parseIntB_64];unfold Lib.itoa;by_cases c:a<0;rw[if_pos c];unfold Lib.atoiAll;have b:(45:UInt8).toNat=45:=Z;simp only[b,or_true,if_true,uK a.natAbs Y,not_true,false_and,if_false,true_and];rw[if_neg Y];congr 1;omega;rw[if_neg c];have⟨d,l,b,m,n,_⟩:=Cl a.toNat;have e:=uK a.toNat Y;rw[b]at e⊢;unfold Lib.atoiAll;have g:¬d.toNat=43:=Y
 have i:¬d.toNat=45:=Y
 simp only[g,i,or_self,if_false,e,not_false_eq_true,true_and,false_and];rw[if_neg Y];congr 1;omega
def G9(b:Nm)(a:Ev)(r):wb b a ([100,101,112,108,111,121,32,118,101,114,115,105,111,110,32]++r)=(do let (d,r)<-qx r;let (n,t)<-pA r;some ({a with kind:=2,d:=d,n:=n},t)):=rfl
def Jr(b:Nm)(a:Ev)(r):wb b a ([99,114,97,115,104]++r)=(do let (n,t)<-pA r;some ({a with kind:=3,n:=n},t)):=rfl
def Js(b:Nm)(a:Ev)(r):wb b a ([102,97,117,108,116,32,105,110,32]++r)=(do let c<-(hL b a.comp).idxOf? (se r).1;some ({a with kind:=11,hd:=(c:Int)},(se r).2)):=rfl
def Jt(b:Nm)(a:Ev)(r):wb b a ([115,116,111,114,101,32]++r)=yI a r:=rfl
def Ju(b:Nm)(a:Ev)(r):wb b a ([102,101,116,99,104,32]++r)=yI {a with peer:=1} r:=rfl
def Jv(a:Nm)(b:Ev)(r):wb a b ([115,101,110,100,115,32,109,101,115,115,97,103,101,32]++r)=(do let (n,r)<-qx r;let r<-oD [32,116,111,32] r;let (c,r)<-yJ a r;let r<-oD [32] r;let (h,l,t)<-qD a c r;some ({b with kind:=8,n:=n,peer:=c,hd:=h,args:=l},t)):=rfl
def Lf(b:Nm)(a:Ev)(r):wb b a ([115,101,116,115,32,116,105,109,101,114,32]++r)=(do let (n,r)<-qx r;let r<-oD [32] r;let (h,l,r)<-qD b a.comp r;let r<-oD [32,100,117,101,32,97,116,32,116] r;let (d,t)<-qx r;some ({a with kind:=9,n:=n,hd:=h,args:=l,d:=d},t)):=rfl
def EP(b:Nm)(a:Ev)(r):wb b a ([114,101,113,117,101,115,116,32]++r)=(do let (n,r)<-qx r;let r<-oD [32] r;let (h,l,t)<-qD b a.comp r;some ({a with kind:=4,n:=n,hd:=h,args:=l},t)):=rfl
def Jw(b:Nm)(a:Ev)(r):wb b a ([116,105,109,101,114,32]++r)=(do let (n,r)<-qx r;let r<-oD [32] r;let (h,l,t)<-qD b a.comp r;some ({a with kind:=6,n:=n,hd:=h,args:=l},t)):=rfl
def L4(b:Nm)(a:Ev)(n c:Int)(r:List UInt8):Option<|Ev×List UInt8:=
 match oD [32,97,103,97,105,110,32] r with
 |some r=>do
  let (h,l,t)<-qD b a.comp r
  some ({a with kind:=5,n:=n,peer:=c,copy:=1,hd:=h,args:=l},t)
 |none=>do
  let r<-oD [32] r
  let (h,l,t)<-qD b a.comp r
  some ({a with kind:=5,n:=n,peer:=c,hd:=h,args:=l},t)
def ER(a:Nm)(b:Ev)(r):wb a b ([109,101,115,115,97,103,101,32]++r)=(do let (n,r)<-qx r;let r<-oD [32,102,114,111,109,32] r;let (c,r)<-yJ a r;L4 a b n c r):=rfl
def Bz{b:Nm}{a:Int}(c:nM b a=true):b.kF[a.toNat]?=some (cN b a)/\((a.toNat:Nat):Int)=a:=by unfold cN;rw[if_pos c];simp only[nM,Bool.and_eq_true,decide_eq_true_eq]at c;rw[List.getElem?_eq_getElem Y];exact⟨Z,Y⟩
def H0{b:Nm}{a:Int}(c:yF b a=true):b.kN[a.toNat]?=some (fN b a)/\((a.toNat:Nat):Int)=a:=by unfold fN;rw[if_pos c];simp only[yF,Bool.and_eq_true,decide_eq_true_eq]at c;rw[List.getElem?_eq_getElem Y];exact⟨Z,Y⟩
def E3{b:Nm}{c a:Int}(d:oW b c a=true):(hL b c)[a.toNat]?=some (hN b c a)/\((a.toNat:Nat):Int)=a:=by unfold hN;rw[if_pos d];simp only[oW,Bool.and_eq_true,decide_eq_true_eq]at d;rw[List.getElem?_eq_getElem Y];exact⟨Z,Y⟩
def E1{a:Nm}(d:Int)(b:List (List UInt8)->Prop)(e:b [])(f:∀c∈a.hs,b c):b<|hL a d:=by
 unfold hL;split;cases hx:a.hs[d.toNat]? with
 |none=>exact e
 |some c=>exact f c<|List.mem_of_getElem? hx
 exact e
section
variable {m:Nm} (hg:HV m)
include hg
theorem AA{a:Int}(b:nM m a=true):(cN m a).all oQ=true:=hg.kF _<|List.mem_of_getElem? (Bz b).1
theorem Lg{a:Int}(b:yF m a=true):(fN m a).all oQ=true:=hg.kN _<|List.mem_of_getElem? (H0 b).1
theorem AB{b a:Int}(c:oW m b a=true):(hN m b a).all oQ=true:=E1 b (λd=>∀e∈d,e.all oQ=true) (λ_ a=>by cases a) hg.hs _<|List.mem_of_getElem? (E3 c).1
theorem zH{a:Int}(b:nM m a=true){r}(c:Om oQ r=false):yJ m (cN m a++r)=some (a,r):=by unfold yJ;rw[sA (AA hg b) c];simp only[Ad hg.nc (Bz b).1,Option.bind_eq_bind,Option.bind_some,(Bz b).2]
theorem LI{a b:Int}(c:oW m a b=true):(hL m a).idxOf? (hN m a b)=some b.toNat:=Ad (E1 a List.Nodup List.nodup_nil hg.nh) (E3 c).1
omit hg in
theorem zI:∀(v:Int) (a:List Int) (c:Nat) (r:List UInt8),a.length<c->rS v->(∀b∈a,rS b)->Bw c (Lib.join ((v::a).map Lib.itoa) [44,32]++([41]++r))=some (v::a,r)
 |v,[],c+1,r,_,hv,_=>by have d:Lib.join ([v].map Lib.itoa) [44,32]=Lib.itoa v:=Lib.join_one _ _;rw[d,Bw,mR (r:=[41]++r) (lZ v hv) Z];simp only[Option.bind_eq_bind,Option.bind_some,mG]
 |v,b::a,c+1,r,hk,hv,hx=>by
  have d:Lib.join ((v::b::a).map Lib.itoa) [44,32]=Lib.itoa v++([44,32]++Lib.join ((b::a).map Lib.itoa) [44,32]):=by rw[List.map_cons,Lib.join_cons,List.map_cons,Lib.join_cons];simp[Lib.joinTail]
  have e:oD [41] ([44,32]++Lib.join ((b::a).map Lib.itoa) [44,32]++([41]++r))=none:=Z;have f:=zI b a c r (by simpa using hk) (hx b Us) (λg i=>hx g<|by simp[i]);rw[d,List.append_assoc,Bw,mR<|lZ v hv]
  rotate_left
  exact Z;simp only[Option.bind_eq_bind,Option.bind_some,e];rw[List.append_assoc,mG];simp only[Option.bind_some,f]
 |_,_,0,_,hk,_,_=>absurd hk Y
omit hg in
theorem FE(b:Int):Lib.itoa b≠[]:=by intro a;unfold Lib.itoa at a;split at a;cases a;have:=Lib.decDigits_length b.toNat;rw[a]at this;have:=Lib.nDigits_pos b.toNat;simp at*;omega
omit hg in
theorem Ha(a:Int)(c):oD [41] (Lib.itoa a++c)=none:=by
 have b:=B7 a;cases e:Lib.itoa a with
 |nil=>exact absurd e<|FE a
 |cons d g=>
  rw[e,List.all_cons,Bool.and_eq_true]at b;have f:((41:UInt8)==d)=false:=by rw[beq_eq_false_iff_ne];rintro rfl;exact absurd b.1 Ur
  unfold oD;rw[List.cons_append,List.isPrefixOf,f];rfl
omit hg in
theorem Jx(b:Int)(a):a.length+1<=(Lib.join ((b::a).map Lib.itoa) [44,32]).length:=by
 rw[List.map_cons,Lib.join_cons];have c:0<(Lib.itoa b).length:=List.length_pos_iff.2<|FE b;have d:a.length<=(Lib.joinTail [44,32]<|a.map Lib.itoa).length:=by rw[Lib.joinTail_length];simp;omega
 rw[List.length_append];omega
theorem rA{d e:Int}(f:oW m d e=true){b}(g:∀a∈b,rS a)(r):qD m d (nx (hN m d e) b++r)=some (e,b,r):=by
 unfold nx qD;rw[List.append_assoc,sA<|AB hg f]
 rotate_left
 exact Z;simp only[LI hg f,Option.bind_eq_bind,Option.bind_some,List.append_assoc,mG,(E3 f).2];cases b with
 |nil=>have i:Lib.join (([]:List Int).map Lib.itoa) [44,32]=[]:=Z;rw[i,List.nil_append,mG]
 |cons a c=>
  have j:oD [41] (Lib.join ((a::c).map Lib.itoa) [44,32]++([41]++r))=none:=by rw[List.map_cons,Lib.join_cons,List.append_assoc];exact Ha a _
  have k:=zI a c (Lib.join ((a::c).map Lib.itoa) [44,32]++([41]++r)).length r (by have:=Jx a c;simp only[List.length_append];omega) (g a Us) (λl n=>g l<|by simp[n]);rw[j];simp only[k,Option.bind_some]
omit hg in
theorem sL{a:Int}(b:rS a):pA ([32,40,99,104,111,105,99,101,32]++(Lib.itoa a++[41]))=some (a,[]):=by unfold pA;rw[mG];simp only[Option.bind_eq_bind,Option.bind_some,mR (lZ a b) (r:=[41]) Z];rfl
omit hg in
theorem BA{a b}[Decidable a][Decidable b](c:(decide a||decide b)=true):a\/b:=by simpa using c
omit hg in
theorem zJ(d:Ev)(l:d.args=[]/\d.copy=0){n b:Int}(m:rS n)(f:rS b)(c)(p:∀a∈c,rS a)(q:c.length<=1){e:Int}(g:e=0\/e=1):
  yI d (Lib.itoa n++([58,32]++(Lib.itoa b++((if(b::c).length=2 then [32,61,32]++Lib.itoa (c[0]?.getD 0)else [])++(if e=1 then [32,102,97,105,108,115]else [])))))=some ({d with kind:=10,n:=n,args:=b::c,copy:=e},[]):=by
 have⟨r,s,t,u,v,w,x,y,z⟩:=d;have⟨i,j⟩:=l;simp only at i j;subst i j;unfold yI;rw[mR<|lZ n m]
 rotate_left
 .exact Z
 simp only[Option.bind_eq_bind,Option.bind_some,mG]
 match c,q with
 |[],_=>
  rw[if_neg Us,List.nil_append];rcases g with rfl|rfl;rw[if_neg Ur,mR (lZ b f) Z];rfl;rw[if_pos Z,mR<|lZ b f]
  rotate_left
  exact Z;rfl
 |[a],_=>
  have k:=p a Us;rw[if_pos<|show [b,a].length=2 from Z,List.append_assoc,mR<|lZ b f]
  rotate_left
  exact Z;simp only[Option.bind_some,mG];rcases g with rfl|rfl;rw[if_neg Ur,show([a][0]?.getD 0)=a from Z,mR (lZ a k) Z];rfl;rw[if_pos Z,show([a][0]?.getD 0)=a from Z,mR<|lZ a k]
  rotate_left
  exact Z;rfl
omit hg in
theorem kinds{c:Nm}{a:Ev}(b:fits c a=true)(d:a.kind≠7):a.kind=1\/a.kind=2\/a.kind=3\/a.kind=4\/a.kind=5\/a.kind=6\/a.kind=8\/a.kind=9\/a.kind=10\/a.kind=11:=by
 have e:arr a=a.kind:=by unfold arr;rw[if_neg d]
 unfold fits at b;rw[e]at b;split at b<;>simp_all
omit hg in
theorem Iq{f c r}:∀(d a:List UInt8),(∃b∈d,f b=false)->c∉d->a.all f=true->d.isPrefixOf (a++c::r)=false
 |[],_,⟨_,h,_⟩,_,_=>by cases h
 |y::q,[],_,hc,_=>by have:(y==c)=false:=(by rw[beq_eq_false_iff_ne];rintro rfl;simp at hc);rw[List.nil_append,List.isPrefixOf,this];rfl
 |y::q,z::a,⟨b,hx,hf⟩,hc,hn=>by
  simp only[List.all_cons,Bool.and_eq_true]at hn;rw[List.cons_append,List.isPrefixOf];by_cases e:y=z;subst e;have g:b∈q:=by rcases List.mem_cons.1 hx with rfl|h;rw[hn.1]at hf;cases hf;exact h
  rw[Iq q a ⟨b,g,hf⟩ (λh=>hc<|by simp[h]) hn.2,Bool.and_false];rw[beq_eq_false_iff_ne.2 e,Bool.false_and]
omit hg in
theorem Jy(a b)(e:a.all oQ=true):oD [32,97,103,97,105,110,32] ([32]++nx a b)=none:=by unfold oD nx;rw[if_neg];have g:=Iq (f:=oQ) (c:=40) (r:=Lib.join (b.map Lib.itoa) [44,32]++[41]) [97,103,97,105,110,32] a ⟨32,Ur,Ur⟩ Ur e;intro d;rw[show List.isPrefixOf [32,97,103,97,105,110,32] ([32]++(a++([40]++(Lib.join (b.map Lib.itoa) [44,32]++[41]))))=List.isPrefixOf [97,103,97,105,110,32] (a++40::(Lib.join (b.map Lib.itoa) [44,32]++[41]))from Z,g]at d;cases d
theorem wL{e:Ev}(t:fits m e=true)(s:e=used e)(y:e.kind≠7)(z:e.kind≠1)(F:Np e):wb m ⟨e.tick,e.comp,0,0,0,0,0,0,[]⟩ (told m e)=some (e,[]):=by
 have A:=kinds t y;have⟨G,n,v,p⟩:=F;have⟨u,g,M,f,c,i,d,j,b⟩:=e;simp only at A y z G n v p;rcases A with rfl|rfl|rfl|rfl|rfl|rfl|rfl|rfl|rfl|rfl;exact absurd Z z
 .obtain⟨rfl,rfl,rfl,rfl⟩:f=0/\i=0/\d=0/\b=[]:=(by simpa[used,arr,base]using s);show wb m _ ([100,101,112,108,111,121,32,118,101,114,115,105,111,110,32]++(Lib.itoa j++([32,40,99,104,111,105,99,101,32]++(Lib.itoa c++[41]))))=_;rw[G9,mR<|lZ j v]
  rotate_left
  exact Z;simp only[Option.bind_eq_bind,Option.bind_some,sL n]
 obtain⟨rfl,rfl,rfl,rfl,rfl⟩:f=0/\i=0/\d=0/\j=0/\b=[]:=by simpa[used,arr,base]using s
 show wb m _ ([99,114,97,115,104]++([32,40,99,104,111,105,99,101,32]++(Lib.itoa c++[41])))=_;rw[Jr];simp only[Option.bind_eq_bind,Option.bind_some,sL n]
 .obtain⟨rfl,rfl,rfl⟩:f=0/\i=0/\j=0:=(by simpa[used,arr,base]using s);have a:nR m ⟨u,g,4,0,c,0,d,0,b⟩=true:=t;simp only[nR,Bool.and_eq_true,decide_eq_true_eq]at a;show wb m _ ([114,101,113,117,101,115,116,32]++(Lib.itoa c++([32]++nx (hN m g d) b)))=_;rw[EP,mR<|lZ c n]
  rotate_left
  exact Z;have k:=rA hg a.1 p [];rw[List.append_nil]at k;simp only[Option.bind_eq_bind,Option.bind_some,mG,k]
 .obtain rfl:j=0:=(by simpa[used,arr,base]using s);have a:(nR m ⟨u,g,5,f,c,i,d,0,b⟩&&(nM m f&&(decide (i=0)||decide (i=1))))=true:=t;simp only[nR,Bool.and_eq_true,decide_eq_true_eq]at a;have k:=rA hg a.1.1 p [];rw[List.append_nil]at k;show wb m _ ([109,101,115,115,97,103,101,32]++(Lib.itoa c++([32,102,114,111,109,32]++(cN m f++([32]++((if i=1 then [97,103,97,105,110,32]else [])++nx (hN m g d) b))))))=_;rw[ER,mR<|lZ c n]
  rotate_left
  exact Z;simp only[Option.bind_eq_bind,Option.bind_some,mG];rw[zH hg a.2.1]
  rotate_left
  exact Z;simp only[Option.bind_some];rcases BA a.2.2 with rfl|rfl;rw[if_neg Ur,List.nil_append];have I:oD [32,97,103,97,105,110,32] ([32]++nx (hN m g d) b)=none:=Jy _ _<|AB hg a.1.1;unfold L4;rw[I];simp only[Option.bind_eq_bind,Option.bind_some,mG,k];rw[if_pos Z];unfold L4;rw[show [32]++([97,103,97,105,110,32]++nx (hN m g d) b)=[32,97,103,97,105,110,32]++nx (hN m g d) b from Z,mG];simp only[Option.bind_eq_bind,Option.bind_some,k]
 .obtain⟨rfl,rfl,rfl⟩:f=0/\i=0/\j=0:=(by simpa[used,arr,base]using s);have a:nR m ⟨u,g,6,0,c,0,d,0,b⟩=true:=t;simp only[nR,Bool.and_eq_true,decide_eq_true_eq]at a;show wb m _ ([116,105,109,101,114,32]++(Lib.itoa c++([32]++nx (hN m g d) b)))=_;rw[Jw,mR<|lZ c n]
  rotate_left
  exact Z;have k:=rA hg a.1 p [];rw[List.append_nil]at k;simp only[Option.bind_eq_bind,Option.bind_some,mG,k]
 .obtain⟨rfl,rfl⟩:i=0/\j=0:=(by simpa[used,arr,base]using s);have a:(nM m g&&(oW m f d&&decide (b.length<=4)))=true:=t;simp only[Bool.and_eq_true,decide_eq_true_eq]at a;have J:nM m f=true:=(by have:=a.2.1;unfold oW at this;rw[Bool.and_eq_true]at this;exact this.1);have k:=rA hg a.2.1 p [];rw[List.append_nil]at k;show wb m _ ([115,101,110,100,115,32,109,101,115,115,97,103,101,32]++(Lib.itoa c++([32,116,111,32]++(cN m f++([32]++nx (hN m f d) b)))))=_;rw[Jv,mR<|lZ c n]
  rotate_left
  exact Z;simp only[Option.bind_eq_bind,Option.bind_some,mG];rw[zH hg J]
  rotate_left
  exact Z;simp only[Option.bind_some,mG,k]
 .obtain⟨rfl,rfl⟩:f=0/\i=0:=(by simpa[used,arr,base]using s);have a:(nR m ⟨u,g,9,0,c,0,d,j,b⟩&&decide (0<=j))=true:=t;simp only[nR,Bool.and_eq_true,decide_eq_true_eq]at a;show wb m _ ([115,101,116,115,32,116,105,109,101,114,32]++(Lib.itoa c++([32]++(nx (hN m g d) b++([32,100,117,101,32,97,116,32,116]++Lib.itoa j)))))=_;rw[Lf,mR<|lZ c n]
  rotate_left
  exact Z;have B:=mR (lZ j v) (r:=[]) Z;rw[List.append_nil]at B;simp only[Option.bind_eq_bind,Option.bind_some,mG,rA hg a.1.1 p,B]
 obtain⟨rfl,rfl⟩:d=0/\j=0:=by simpa[used,arr,base]using s
 have a:(nM m g&&((decide (f=0)||decide (f=1))&&((decide (i=0)||decide (i=1))&&decide (b.length=if f=1/\i=1 then 1 else 2))))=true:=t;simp only[Bool.and_eq_true]at a;have K:=of_decide_eq_true a.2.2.2;have C:b.length=1\/b.length=2:=by split at K<;>omega
 obtain⟨q,l,rfl⟩:∃q l,b=q::l:=by
  cases b with
  |nil=>simp at C
  |cons q l=>exact⟨q,l,Z⟩
 have D:l.length<=1:=by simp only[List.length_cons]at C;omega
 have L:(q::l)[1]?.getD 0=l[0]?.getD 0:=Us
 show wb m _ ((if f=1 then [102,101,116,99,104,32]else [115,116,111,114,101,32])++(Lib.itoa c++([58,32]++(Lib.itoa q++((if(q::l).length=2 then [32,61,32]++Lib.itoa ((q::l)[1]?.getD 0)else [])++(if i=1 then [32,102,97,105,108,115]else []))))))=_;rw[L];rcases BA a.2.1 with rfl|rfl;rw[if_neg Ur,Jt,zJ _ ⟨Z,Z⟩ n (p q Us) l (λw x=>p w<|by simp[x]) D<|BA a.2.2.1];rw[if_pos Z,Ju,zJ _ ⟨Z,Z⟩ n (p q Us) l (λw x=>p w<|by simp[x]) D<|BA a.2.2.1];obtain⟨rfl,rfl,rfl,rfl,rfl⟩:f=0/\c=0/\i=0/\j=0/\b=[]:=by simpa[used,arr,base]using s
 have a:oW m g d=true:=t;show wb m _ ([102,97,117,108,116,32,105,110,32]++hN m g d)=_;rw[Js];have E:=sA (AB hg a) (r:=[]) Z;rw[List.append_nil]at E;simp only[E,LI hg a,Option.bind_eq_bind,Option.bind_some,(E3 a).2]
end
end Go.Proofs.YtppncjcpdbhobaaGreatDoor.oZ
namespace Go.Proofs.YtppncjcpdbhobaaGreatDoor.oZ
open Go
def Lh{a:Nm}{e:Ev}(i:fits a e=true)(c:e.kind≠7)(d:e.kind≠1):oD [102,108,97,103,32] (told a e)=none/\oD [100,105,115,99,97,114,100,115,32] (told a e)=none:=by have f:=kinds i c;have⟨j,k,l,b,m,n,p,q,r⟩:=e;simp only at f c d;rcases f with rfl|rfl|rfl|rfl|rfl|rfl|rfl|rfl|rfl|rfl;exact absurd Z d;exact⟨Z,Z⟩;exact⟨Z,Z⟩;exact⟨Z,Z⟩;exact⟨Z,Z⟩;exact⟨Z,Z⟩;exact⟨Z,Z⟩;exact⟨Z,Z⟩;show oD _ ((if b=1 then [102,101,116,99,104,32]else [115,116,111,114,101,32])++_)=none/\oD _ ((if b=1 then [102,101,116,99,104,32]else [115,116,111,114,101,32])++_)=none;by_cases g:b=1;rw[if_pos g];exact⟨Z,Z⟩;rw[if_neg g];exact⟨Z,Z⟩;exact⟨Z,Z⟩
def zK{c:Nm}{e:Ev}(a:fits c e=true)(i:arr e≠1):nM c e.comp=true:=by
 have f:∀g,oW c e.comp g=true->nM c e.comp=true:=λg b=>by unfold oW at b;rw[Bool.and_eq_true]at b;exact b.1
 have d:nR c e=true->nM c e.comp=true:=λb=>by unfold nR at b;rw[Bool.and_eq_true]at b;exact f _ b.1
 unfold fits at a;split at a;exact absurd (by assumption) i;rw[Bool.and_eq_true]at a;exact a.1;exact a;exact d a;rw[Bool.and_eq_true]at a;exact d a.1;exact d a;rw[Bool.and_eq_true]at a;exact a.1;rw[Bool.and_eq_true]at a;exact d a.1;rw[Bool.and_eq_true]at a;exact a.1;exact f _ a;cases a
def OX:rS 0:=UC
def BB(b:Nm)(c:Int)(i a:List UInt8):Option<|Ev×List UInt8:=
 match oD [102,108,97,103,32] a with
 |some q=>do
  let f:=(b.kN.idxOf? (se q).1).getD 0
  match oD [32,61,32,116,114,117,101] (se q).2 with
  |some a=>do
   let (n,t)<-pA a
   some (⟨c,b.kF.length,1,f,n,0,0,1,[]⟩,t)
  |none=>do
   let a<-oD [32,61,32,102,97,108,115,101] (se q).2
   let (n,t)<-pA a
   some (⟨c,b.kF.length,1,f,n,0,0,0,[]⟩,t)
 |none=>do
  let g:Ev:=⟨c,(b.kF.idxOf? i).getD 0,0,0,0,0,0,0,[]⟩
  match oD [100,105,115,99,97,114,100,115,32] a with
  |some q=>do
   let (e,t)<-wb b g q
   some ({e with d:=e.kind,kind:=7},t)
  |none=>wb b g a
def xq(c:Nm)(a:Int)(e:rS a)(b d)(f:b.all oQ=true):HT c ([116]++(Lib.itoa a++([32]++(b++([58,32]++d)))))=BB c a b d:=by
 unfold HT;rw[mG];simp only[Option.bind_eq_bind,Option.bind_some];rw[mR<|lZ a e]
 rotate_left
 exact Z;simp only[Option.bind_some,mG];rw[sA f]
 rotate_left
 exact Z;simp only[Option.bind_some,mG];rfl
def N3{i:Nm}{e:Ev}(j:e.kind=7)(f:fits i e=true):∃a:Nat,(a=4\/a=5\/a=6)/\e.d=(a:Int)/\arr e=a:=by
 have b:arr e=if e.d=4 then 4 else if e.d=5 then 5 else if e.d=6 then 6 else 7:=by unfold arr;rw[if_pos j]
 by_cases c:e.d=4;exact⟨4,.inl Z,c,by rw[b,if_pos c]⟩;by_cases d:e.d=5;exact⟨5,.inr<|.inl Z,d,by rw[b,if_neg c,if_pos d]⟩;by_cases g:e.d=6;exact⟨6,.inr<|.inr Z,g,by rw[b,if_neg c,if_neg d,if_pos g]⟩;rw[if_neg c,if_neg d,if_neg g]at b;unfold fits at f;rw[b]at f;cases f
section
variable {m:Nm} (hg:HV m)
include hg
theorem Cm{a:Int}(b:nM m a=true):((((m.kF.idxOf?<|cN m a).getD 0:Nat)):Int)=a:=by rw[Ad hg.nc (Bz b).1];exact(Bz b).2
theorem zL{e:Ev}(t:valid m e=true)(r:Np e):HT m (line m e)=some (e,[]):=by
 have A:=t;unfold valid at t;simp only[Bool.and_eq_true,decide_eq_true_eq]at t;obtain⟨g,_,_,s⟩:=t;have s:=(oI _ _).1 s;unfold line;rw[if_pos A];by_cases l:e.kind=1
 .rw[if_pos l,xq m e.tick r.tick _ _ Ur,if_neg Y];obtain⟨_,q,_,_⟩:=r;obtain⟨i,j,B,c,a,f,b,u,n⟩:=e;simp only at l q;subst l;obtain⟨rfl,rfl,rfl⟩:f=0/\b=0/\n=[]:=(by simpa[used,arr,base]using s);have z:(decide (j=(m.kF.length:Int))&&(yF m c&&(decide (u=0)||decide (u=1))))=true:=g;simp only[Bool.and_eq_true,decide_eq_true_eq]at z;obtain⟨rfl,x,b⟩:=z;have C:=Ad hg.nf (H0 x).1;have k:=sL q;show BB m i _ ([102,108,97,103,32]++(fN m c++([32,61,32]++((if u=1 then [116,114,117,101]else [102,97,108,115,101])++([32,40,99,104,111,105,99,101,32]++(Lib.itoa a++[41]))))))=_;unfold BB;rw[mG];simp only;rw[sA<|Lg hg x]
  rotate_left
  exact Z;simp only[C,Option.getD_some,(H0 x).2];rcases BA b with rfl|rfl;rw[if_neg Ur];rw[show oD [32,61,32,116,114,117,101] ([32,61,32]++([102,97,108,115,101]++([32,40,99,104,111,105,99,101,32]++(Lib.itoa a++[41]))))=none from Z,show [32,61,32]++([102,97,108,115,101]++([32,40,99,104,111,105,99,101,32]++(Lib.itoa a++[41])))=[32,61,32,102,97,108,115,101]++([32,40,99,104,111,105,99,101,32]++(Lib.itoa a++[41]))from Z,mG];simp only[Option.bind_eq_bind,Option.bind_some,k];rw[if_pos Z];rw[show [32,61,32]++([116,114,117,101]++([32,40,99,104,111,105,99,101,32]++(Lib.itoa a++[41])))=[32,61,32,116,114,117,101]++([32,40,99,104,111,105,99,101,32]++(Lib.itoa a++[41]))from Z,mG];simp only[Option.bind_eq_bind,Option.bind_some,k]
 rw[if_neg l];by_cases p:e.kind=7;obtain⟨y,D,b,E⟩:=N3 p g;have k:=zK g (by rw[E];omega);rw[if_pos p,xq m e.tick r.tick _ _<|AA hg k];obtain⟨v,q,J,w⟩:=r;obtain⟨i,j,B,c,a,f,b,u,n⟩:=e;simp only at l p b k v q w;subst p b;have F:wb m ⟨i,j,0,0,0,0,0,0,[]⟩ (told m ⟨i,j,7,c,a,f,b,y,n⟩)=some (⟨i,j,y,c,a,f,b,0,n⟩,[]):=by rcases D with rfl|rfl|rfl;refine wL hg (e:=⟨i,j,4,c,a,f,b,0,n⟩) g ?_ (λd=>nomatch d) (λd=>nomatch d) ⟨v,q,OX,w⟩;obtain⟨rfl,rfl⟩:c=0/\f=0:=(by simpa[used,arr,base]using s);rfl;refine wL hg (e:=⟨i,j,5,c,a,f,b,0,n⟩) g ?_ (λd=>nomatch d) (λd=>nomatch d) ⟨v,q,OX,w⟩;rfl;refine wL hg (e:=⟨i,j,6,c,a,f,b,0,n⟩) g ?_ (λd=>nomatch d) (λd=>nomatch d) ⟨v,q,OX,w⟩;obtain⟨rfl,rfl⟩:c=0/\f=0:=(by simpa[used,arr,base]using s);rfl
 unfold BB;rw[show oD [102,108,97,103,32] ([100,105,115,99,97,114,100,115,32]++told m ⟨i,j,7,c,a,f,b,y,n⟩)=none from Z];simp only[mG,Cm hg k,F,Option.bind_eq_bind,Option.bind_some];have k:=zK g (by unfold arr;rw[if_neg p];exact l);obtain⟨G,I⟩:=Lh g p l;rw[if_neg p,List.nil_append,xq m e.tick r.tick _ _<|AA hg k];unfold BB;rw[G];simp only[I,Cm hg k];exact wL hg g s p l r
omit hg in
omit hg in
theorem Cn{a:Ev}(b:valid m a=false):line m a=[]:=by unfold line;rw[if_neg<|by rw[b];decide]
theorem A6{a b:Ev}(e:Np a)(f:Np b):line m a=[]\/line m b=[]\/(line m a==line m b)=oY a b:=by
 cases va:valid m a with
 |false=>exact .inl<|Cn va
 |true=>
  cases vb:valid m b with
  |false=>exact .inr<|.inl<|Cn vb
  |true=>
   refine .inr<|.inr ?_;by_cases d:a=b;subst d;rw[(oI a a).2 Z];simp;have g:oY a b=false:=by
    cases hs:oY a b with
    |false=>rfl
    |true=>exact absurd ((oI a b).1 hs) d
   rw[g,beq_eq_false_iff_ne];intro i;have c:=zL hg va e;rw[i,zL hg vb f]at c;injection c with c;injection c with c;exact d c.symm
end
end Go.Proofs.YtppncjcpdbhobaaGreatDoor.oZ
