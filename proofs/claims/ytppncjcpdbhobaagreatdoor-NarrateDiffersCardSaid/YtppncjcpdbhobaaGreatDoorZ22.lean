import Derived.Test.YtppncjcpdbhobaaGreatDoorZ18
import Derived.Test.YtppncjcpdbhobaaGreatDoorZ19
set_option maxRecDepth 1000000
set_option maxHeartbeats 32000000
set_option linter.all false
namespace Go.Proofs.YtppncjcpdbhobaaGreatDoor
open RowKit Go.Proofs.Tryz lI Maps oZ qQ ChangeShapes WideShapes ChangeAt
def Ek(E i)(c a:Int)(j d k b l:Int)(p)(e q:Nat)(m)(B:Nat)(n)(r:oo i B n)(O:mo n)(F:kz mg E i (.slice p e q) m)(P:∀Q,E Q->Q<i)(R:e<=9223372036854775807):
  Calls prog 12 #[.agg<|EC c a 6 j d k b l<|.slice p e q,.pointer B] i (kH (.bool<|valid (kG n) ⟨c,a,6,j,d,k,b,l,m⟩) i):=by
 have al:=X F.len.1;have S:=X r;have am:=X O;have an:=X F;have ao:=X P;have T:=X R;clear r O F P R;have⟨aB,G⟩:=Xq<|valid (kG n) ⟨c,a,6,j,d,k,b,l,m⟩;rw[<-G];have C:=X G;clear G;have U:=X<|boxes i (EC c a 6 j d k b l<|.slice p e q)<|EC c a 6 0 d 0 b 0<|.slice p e q
 go_enter func12,ntmps12
 go_upto_region 2 with fail;have g:=U.o;have⟨ap,V⟩:=Xq<|(i.alloc<|.cells (EC c a 6 j d k b l<|.slice p e q) 29).alloc<|.cells (EC c a 6 0 d 0 b 0<|.slice p e q) 29;rw[<-V]at g⊢;clear V U;have⟨I,aa⟩:=Xq i.heap.size;rw[<-aa]at g⊢;have⟨ab,ac⟩:=Xq<|I+1;rw[<-ac]at g⊢;have aC:I≠ab:=Y
 have aD:=X<|show i<=I/\i<=ab from⟨Y,Y⟩;clear aa ac;replace g:=X g;have aE:=g.o.lt.1;have aF:=g.o.lt.2;have⟨s,t,u,v,w,x,y,z,A⟩:=kQ g.o.2.1;go_wp2_with fail;apply(lV B a n ap<|S.o.kv g.o.1).M;rintro J aq ⟨rfl,rfl⟩;go_wp2_with fail;apply(mm B a b n aq (S.o.kv g.o.1) am.o).M;rintro J ad ⟨rfl,ae⟩;have D:=X<|g.o.kv ae;have aG:=D.o.lt.1;have aH:=D.o.lt.2;clear ae;clear s t u v w x y z A;have⟨s,t,u,v,w,x,y,z,A⟩:=kQ D.o.2.1;have aI:(e:Int)<=9223372036854775807:=W T.o
 have⟨K,L⟩:=Xq<|oW (kG n) a b;rw[<-L];have ar:=X L;clear L;have⟨aJ,M⟩:=Xq<|nM (kG n) a;rw[<-M];have aK:=X M;clear M;go_upto_region 6 with fail;go_cut [8] (λau av=>au=.bool (K&&decide ((e:Int)<=4))/\ad=av)
 .cases K
  .go_wp2_with fail;go_meet;exact⟨Z,Z⟩
  go_wp2_with fail;go_meet;exact⟨UB,Z⟩
 obtain⟨rfl,rfl⟩:=hcut;have⟨aw,N⟩:=Xq<|K&&decide ((e:Int)<=4);rw[<-N];have ax:=X N;clear N;go_wp2_with fail;apply(lX ⟨c,a,6,j,d,k,b,l,m⟩ p e q ad).M;rw[show arr ⟨c,a,6,j,d,k,b,l,m⟩=6 from Z];rintro J ay ⟨rfl,af⟩;have f:=X<|D.o.kv af;have aL:=f.o.lt.1;have aM:=f.o.lt.2;clear af;clear s t u v w x y z A;have⟨s,t,u,v,w,x,y,z,A⟩:=kQ f.o.2.1;go_upto_region 39 with fail;clear s t u v w x y z A;have⟨ag,r⟩:=Xq aw;rw[<-r];have ah:=X (show ag=fits (kG n) ⟨c,a,6,j,d,k,b,l,m⟩from by rw[r,ax.o,ar.o,show decide ((e:Int)<=4)=decide (m.length<=4)from by rw[al.o];exact RJ.2 Y];rfl);clear r;have aN:=f.o.lt.1;have aO:=f.o.lt.2;have⟨s,t,u,v,w,x,y,z,A⟩:=kQ f.o.2.1;cases ag with
 |false=>go_wp2_with fail;go_ret;exact⟨vF C.o ah.o.symm,f.o.1⟩
 |true=>
  have⟨aP,aQ,aR,aS,aT,aU,aV,aW,aX⟩:=kQ f.o.2.2;have az:=X<|show fits (kG n) ⟨c,a,6,j,d,k,b,l,m⟩=true from ah.o.symm;by_cases ai:0<=c
  .by_cases aj:0<=d
   .go_wp2_with fail;apply(uo E ay f.o.1 ⟨c,a,6,j,d,k,b,l,m⟩ ⟨c,a,6,0,d,0,b,0,m⟩ p e q an.o ao.o T.o Z).M;rintro J aY ⟨rfl,ak⟩;have aA:=X ak;clear ak;go_wp2_with fail;go_ret;exact⟨vT C.o az.o ai aj Z,f.o.1.T<|aA.o.M f.o.1.size⟩
   go_wp2_with fail;go_ret;exact⟨vN C.o aj,f.o.1⟩
  go_wp2_with fail;go_ret;exact⟨vM C.o ai,f.o.1⟩
def CU(G g)(c a:Int)(i d j b:Int)(l)(e m:Nat)(n)(B:Nat)(p)(z:oo g B p)(Q:mo p)(I:kz mg G g (.slice l e m) n)(R:∀S,G S->S<g)(T:e<=9223372036854775807):
  Calls prog 12 #[.agg<|EC c a 7 i d j b 4<|.slice l e m,.pointer B] g (kH (.bool<|valid (kG p) ⟨c,a,7,i,d,j,b,4,n⟩) g):=by
 have ao:=X I.len.1;have U:=X z;have ap:=X Q;have aq:=X I;have ar:=X R;have V:=X T;clear z Q I R T;have⟨aH,J⟩:=Xq<|valid (kG p) ⟨c,a,7,i,d,j,b,4,n⟩;rw[<-J];have C:=X J;clear J;have aa:=X<|boxes g (EC c a 7 i d j b 4<|.slice l e m)<|EC c a 7 0 d 0 b 0<|.slice l e m
 go_enter func12,ntmps12
 go_upto_region 2 with fail;have k:=aa.o;have⟨au,ab⟩:=Xq<|(g.alloc<|.cells (EC c a 7 i d j b 4<|.slice l e m) 29).alloc<|.cells (EC c a 7 0 d 0 b 0<|.slice l e m) 29;rw[<-ab]at k⊢;clear ab aa;have⟨D,ac⟩:=Xq g.heap.size;rw[<-ac]at k⊢;have⟨E,ad⟩:=Xq<|D+1;rw[<-ad]at k⊢;have av:D≠E:=Y
 have aw:=X<|show g<=D/\g<=E from⟨Y,Y⟩;clear ac ad;replace k:=X k;have aI:=k.o.lt.1;have aJ:=k.o.lt.2;have ae:=kr k.o.2.2 7;have ax:=kx k.o.2.2 7;have⟨q,r,s,t,u,v,w,x,y⟩:=kQ k.o.2.1;go_upto_region 4 with fail;have⟨af,K⟩:=Xq<|au.setCell ⟨E,7,none⟩<|.int .i64 4;have A:=X (show uj g D E (EC c a 7 i d j b 4<|.slice l e m) (EC c a 7 0 d 0 b 4<|.slice l e m) af from by rw[K];exact k.o.set aw.o.2 av 7 _);rw[<-K];have aK:=A.o.lt.1;have aL:=A.o.lt.2;clear K ae ax;clear q r s t u v w x y;have⟨q,r,s,t,u,v,w,x,y⟩:=kQ A.o.2.1;go_wp2_with fail;apply(lV B a p af<|U.o.kv A.o.1).M;rintro L ay ⟨rfl,rfl⟩;go_wp2_with fail;apply(mm B a b p ay (U.o.kv A.o.1) ap.o).M;rintro L ag ⟨rfl,ah⟩;have F:=X<|A.o.kv ah;have aM:=F.o.lt.1;have aN:=F.o.lt.2;clear ah;clear q r s t u v w x y;have⟨q,r,s,t,u,v,w,x,y⟩:=kQ F.o.2.1;have aO:(e:Int)<=9223372036854775807:=W V.o
 have⟨M,N⟩:=Xq<|oW (kG p) a b;rw[<-N];have az:=X N;clear N;have⟨aP,O⟩:=Xq<|nM (kG p) a;rw[<-O];have aQ:=X O;clear O;go_upto_region 6 with fail;go_cut [8] (λaA aB=>aA=.bool (M&&decide ((e:Int)<=4))/\ag=aB)
 .cases M
  .go_wp2_with fail;go_meet;exact⟨Z,Z⟩
  go_wp2_with fail;go_meet;exact⟨UB,Z⟩
 obtain⟨rfl,rfl⟩:=hcut;have⟨aC,P⟩:=Xq<|M&&decide ((e:Int)<=4);rw[<-P];have aD:=X P;clear P;go_wp2_with fail;apply(lX ⟨c,a,7,i,d,j,b,4,n⟩ l e m ag).M;rw[show arr ⟨c,a,7,i,d,j,b,4,n⟩=4 from Z];rintro L aE ⟨rfl,ai⟩;have f:=X<|F.o.kv ai;have aR:=f.o.lt.1;have aS:=f.o.lt.2;clear ai;clear q r s t u v w x y;have⟨q,r,s,t,u,v,w,x,y⟩:=kQ f.o.2.1;go_upto_region 39 with fail;clear q r s t u v w x y;have⟨aj,z⟩:=Xq aC;rw[<-z];have ak:=X (show aj=fits (kG p) ⟨c,a,7,i,d,j,b,4,n⟩from by rw[z,aD.o,az.o,show decide ((e:Int)<=4)=decide (n.length<=4)from by rw[ao.o];exact RJ.2 Y];rfl);clear z;have aT:=f.o.lt.1;have aU:=f.o.lt.2;have⟨q,r,s,t,u,v,w,x,y⟩:=kQ f.o.2.1;cases aj with
 |false=>go_wp2_with fail;go_ret;exact⟨vF C.o ak.o.symm,f.o.1⟩
 |true=>
  have⟨aV,aW,aX,aY,aZ,ba,bb,ae,bc⟩:=kQ f.o.2.2;have aF:=X<|show fits (kG p) ⟨c,a,7,i,d,j,b,4,n⟩=true from ak.o.symm;by_cases al:0<=c
  .by_cases am:0<=d
   .go_wp2_with fail;apply(uo G aE f.o.1 ⟨c,a,7,i,d,j,b,4,n⟩ ⟨c,a,7,0,d,0,b,4,n⟩ l e m aq.o ar.o V.o Z).M;rintro L bd ⟨rfl,an⟩;have aG:=X an;clear an;go_wp2_with fail;go_ret;exact⟨vT C.o aF.o al am Z,f.o.1.T<|aG.o.M f.o.1.size⟩
   go_wp2_with fail;go_ret;exact⟨vN C.o am,f.o.1⟩
  go_wp2_with fail;go_ret;exact⟨vM C.o al,f.o.1⟩
def EG{g:lj}{vQ:PV}{pb i l:Nat}{a}(j:wS g i=some (a,l)):Bk g vQ pb i l a 225:=by
 intro b f;have z:=f.low.2;have m:=X<|QT b ks;have n:=X<|(lN.refl f).alloc ks;have p:b<(b.alloc ks).heap.size:=Us
 have A:pb<b:=f.lt;have B:=X (show Bj g i [([45],9),([110,111,116],10)]from by intro L q;simp only[Rq,Rk,RQ]at q;rcases q with rfl|rfl<;>exact⟨Ur,λc=>(tj j).1<|by rw[c];decide⟩)
 have C:=X<|AY (vQ:=vQ) (pb:=pb) j;clear f j
 go_enter func225,ntmps225
 go_upto_region 1 with fail;generalize b.alloc ks=e at*;have⟨D,k⟩:=Xq b.heap.size;rw[<-k]at m p A z⊢;have r:=X k;clear k;have s:=X<|lN.refl n.o.1;have E:=X<|uY [([45],9),([110,111,116],10)] 2 (QT e tp) Z Ur;have t:=X<|s.o.alloc tp;have M:e<(e.alloc tp).heap.size:=Us
 have N:pb<e:=s.o.1.lt;go_wp21;refine(xo t.o.1 (λu=>u=e) _ 2 2 [([45],9),([110,111,116],10)] E.o (λu d=>⟨Y,Y⟩) B.o Ur).M ?_;rintro c F ⟨rfl,d⟩;have w:=X<|t.o.T d;clear d;go_wp21;apply(C.o F w.o.1).M;rintro c O ⟨rfl,d⟩;have x:=X<|w.o.T d;clear d;have y:=(x.o.2.B D p λc=>by injection c with c;omega).T m.o;have⟨⟨P,Q,R,S⟩,T,U,V,aa⟩:=kL y;go_wp21;have hF:=zW (u0:=.int .u8 a.op) (u1:=tx a.name) (u2:=.int .i64 a.n) (u3:=Nl) y;have G:=kr hF 0;have I:=kr hF 1;have J:=kr hF 2;have K:=kr hF 3;refine Q0 (v:=Lr a) ?_ rfl ⟨Z,zV (n.o.T x.o) (W r.o)<|SC r.o.symm⟩;simp[results,Tryz.results225,go_sem,G,I,J,K]
def AZ{f:lj}{vQ:PV}{pb l g:Nat}{a}(i:qF f l=some (a,g)):Bk f vQ pb l g a 224:=by
 intro b e;have y:=e.low.2;have m:=X<|QT b ks;have n:=X<|(lN.refl e).alloc ks;have p:b<(b.alloc ks).heap.size:=Us
 have z:pb<b:=e.lt;have A:=X (show Bj f g [([42],11),([47],12),([37],13)]from by intro J q;simp only[Rq,Rk,RQ]at q;rcases q with rfl|rfl|rfl<;>exact⟨Ur,λc=>(oK i).2<|by rw[c];decide⟩)
 have B:=X<|EG (vQ:=vQ) (pb:=pb) (oK i).1;clear e i
 go_enter func224,ntmps224
 go_upto_region 1 with fail;generalize b.alloc ks=d at*;have⟨C,j⟩:=Xq b.heap.size;rw[<-j]at m p z y⊢;have r:=X j;clear j;have s:=X<|lN.refl n.o.1;have D:=X<|uY [([42],11),([47],12),([37],13)] 3 (QT d te) Z Ur;have t:=X<|s.o.alloc te;have K:d<(d.alloc te).heap.size:=Us
 have L:pb<d:=s.o.1.lt;go_wp21;refine(tk 225 (λ_ _=>Ut) B.o (λu=>u=d) _ 3 3 [([42],11),([47],12),([37],13)] _ t.o.1 D.o (λu k=>⟨Y,Y⟩) A.o Ur).M ?_;rintro c M ⟨rfl,k⟩;have w:=X<|t.o.T k;clear k;have x:=(w.o.2.B C p λc=>by injection c with c;omega).T m.o;have⟨⟨N,O,P,Q⟩,R,S,T,U⟩:=kL x;go_wp21;have hF:=zW (u0:=.int .u8 a.op) (u1:=tx a.name) (u2:=.int .i64 a.n) (u3:=Nl) x;have E:=kr hF 0;have F:=kr hF 1;have G:=kr hF 2;have I:=kr hF 3;refine Q0 (v:=Lr a) ?_ rfl ⟨Z,zV (n.o.T w.o) (W r.o)<|SC r.o.symm⟩;simp[results,Tryz.results224,go_sem,E,F,G,I]
def Jf{f:lj}{vQ:PV}{pb l g:Nat}{a}(i:qF f l=some (a,g)):Bk f vQ pb l g a 223:=by
 intro b e;have y:=e.low.2;have m:=X<|QT b ks;have n:=X<|(lN.refl e).alloc ks;have p:b<(b.alloc ks).heap.size:=Us
 have z:pb<b:=e.lt;have A:=X (show Bj f g [([43],14),([45],15)]from by intro J q;simp only[Rq,Rk,RQ]at q;rcases q with rfl|rfl<;>exact⟨Ur,λc=>(oK i).2<|by rw[c];decide⟩)
 have B:=X<|AZ (vQ:=vQ) (pb:=pb) i;clear e i
 go_enter func223,ntmps223
 go_upto_region 1 with fail;generalize b.alloc ks=d at*;have⟨C,j⟩:=Xq b.heap.size;rw[<-j]at m p z y⊢;have r:=X j;clear j;have s:=X<|lN.refl n.o.1;have D:=X<|uY [([43],14),([45],15)] 2 (QT d vc) Z Ur;have t:=X<|s.o.alloc vc;have K:d<(d.alloc vc).heap.size:=Us
 have L:pb<d:=s.o.1.lt;go_wp21;refine(tk 224 (λ_ _=>Ut) B.o (λu=>u=d) _ 2 2 [([43],14),([45],15)] _ t.o.1 D.o (λu k=>⟨Y,Y⟩) A.o Ur).M ?_;rintro c M ⟨rfl,k⟩;have w:=X<|t.o.T k;clear k;have x:=(w.o.2.B C p λc=>by injection c with c;omega).T m.o;have⟨⟨N,O,P,Q⟩,R,S,T,U⟩:=kL x;go_wp21;have hF:=zW (u0:=.int .u8 a.op) (u1:=tx a.name) (u2:=.int .i64 a.n) (u3:=Nl) x;have E:=kr hF 0;have F:=kr hF 1;have G:=kr hF 2;have I:=kr hF 3;refine Q0 (v:=Lr a) ?_ rfl ⟨Z,zV (n.o.T w.o) (W r.o)<|SC r.o.symm⟩;simp[results,Tryz.results223,go_sem,E,F,G,I]
def GX{g:lj}{vQ:PV}{pb l i:Nat}{a}(j:qF g l=some (a,i)):Bk g vQ pb l i a 218:=by
 intro e f;have y:=f.low.2;have m:=X<|QT e ks;have n:=X<|(lN.refl f).alloc ks;have p:e<(e.alloc ks).heap.size:=Us
 have z:pb<e:=f.lt;have A:=X (show Bj g i [([61,61],16),([33,61],17),([60],18),([60,61],19),([62],20),([62,61],21)]from by intro P q;simp only[Rq,Rk,RQ]at q;rcases q with rfl|rfl|rfl|rfl|rfl|rfl<;>exact⟨Ur,λc=>(oK j).2<|by rw[c];decide⟩)
 have B:=X<|Jf (vQ:=vQ) (pb:=pb) j;clear f j
 go_enter func218,ntmps218
 go_upto_region 1 with fail;generalize e.alloc ks=C at*;have⟨D,k⟩:=Xq e.heap.size;rw[<-k]at m p z y⊢;have r:=X k;clear k;go_wp21;apply(B.o C n.o.1).M;rintro c b ⟨rfl,d⟩;have E:=X<|QT b<|sa a.op a.name a.n;have F:=X<|d.alloc<|sa a.op a.name a.n;have G:b<(b.alloc<|sa a.op a.name a.n).heap.size:=Us
 have Q:pb<b:=d.1.lt;clear d;have s:=X<|uY [([61,61],16),([33,61],17),([60],18),([60,61],19),([62],20),([62,61],21)] 6 (QT (b.alloc<|sa a.op a.name a.n) oR) Z Ur;have t:=X<|F.o.alloc oR;have I:(b.alloc<|sa a.op a.name a.n).heap.size<((b.alloc<|sa a.op a.name a.n).alloc oR).heap.size:=Us
 have J:(b.alloc<|sa a.op a.name a.n).heap.size=b+1:=Us
 rw[J]at s I;go_wp21;refine(xo t.o.1 (λu=>u=b+1) _ 6 6 [([61,61],16),([33,61],17),([60],18),([60,61],19),([62],20),([62,61],21)] s.o (λu d=>⟨Y,Y⟩) A.o Ur).M ?_;rintro c R ⟨rfl,d⟩;have w:=X<|t.o.T d;have K:=(d.2.B b Y λc=>by injection c with c;omega).T<|(Q9 _ oR G).T E.o;have⟨⟨S,T,U,V⟩,_⟩:=kL K;clear d;have x:=(w.o.2.B D p λc=>by injection c with c;omega).T m.o;have⟨⟨aa,ab,ac,ad⟩,ae,af,ag,ah⟩:=kL x;go_wp21;have hF:=zW (u0:=.int .u8 a.op) (u1:=tx a.name) (u2:=.int .i64 a.n) (u3:=Nl) x;have L:=kr hF 0;have M:=kr hF 1;have N:=kr hF 2;have O:=kr hF 3;refine Q0 (v:=Lr a) ?_ rfl ⟨Z,zV (n.o.T w.o) (W r.o)<|SC r.o.symm⟩;simp[results,Tryz.results218,go_sem,L,M,N,O]
def GY{f:lj}{vQ:PV}{pb l g:Nat}{a}(i:qF f l=some (a,g)):Bk f vQ pb l g a 213:=by
 intro b e;have y:=e.low.2;have m:=X<|QT b ks;have n:=X<|(lN.refl e).alloc ks;have p:b<(b.alloc ks).heap.size:=Us
 have z:pb<b:=e.lt;have A:=X (show Bj f g [([97,110,100],22)]from by intro J q;simp only[Rq,Rk,RQ]at q;rcases q with rfl<;>exact⟨Ur,λc=>(oK i).2<|by rw[c];decide⟩)
 have B:=X<|GX (vQ:=vQ) (pb:=pb) i;clear e i
 go_enter func213,ntmps213
 go_upto_region 1 with fail;generalize b.alloc ks=d at*;have⟨C,j⟩:=Xq b.heap.size;rw[<-j]at m p z y⊢;have r:=X j;clear j;have s:=X<|lN.refl n.o.1;have D:=X<|uY [([97,110,100],22)] 1 (QT d AI) Z Ur;have t:=X<|s.o.alloc AI;have K:d<(d.alloc AI).heap.size:=Us
 have L:pb<d:=s.o.1.lt;go_wp21;refine(tk 218 (λ_ _=>Ut) B.o (λu=>u=d) _ 1 1 [([97,110,100],22)] _ t.o.1 D.o (λu k=>⟨Y,Y⟩) A.o Ur).M ?_;rintro c M ⟨rfl,k⟩;have w:=X<|t.o.T k;clear k;have x:=(w.o.2.B C p λc=>by injection c with c;omega).T m.o;have⟨⟨N,O,P,Q⟩,R,S,T,U⟩:=kL x;go_wp21;have hF:=zW (u0:=.int .u8 a.op) (u1:=tx a.name) (u2:=.int .i64 a.n) (u3:=Nl) x;have E:=kr hF 0;have F:=kr hF 1;have G:=kr hF 2;have I:=kr hF 3;refine Q0 (v:=Lr a) ?_ rfl ⟨Z,zV (n.o.T w.o) (W r.o)<|SC r.o.symm⟩;simp[results,Tryz.results213,go_sem,E,F,G,I]
def GZ{e:lj}{vQ:PV}{pb k f:Nat}{x}(g:qF e k=some (x,f)):Bk e vQ pb k f x 203:=by
 intro a d;have y:=d.low.2;have l:=X<|QT a ks;have m:=X<|(lN.refl d).alloc ks;have n:a<(a.alloc ks).heap.size:=Us
 have z:pb<a:=d.lt;have A:=X (show Bj e f [([111,114],23)]from by intro J p;simp only[Rq,Rk,RQ]at p;rcases p with rfl<;>exact⟨Ur,λb=>(oK g).2<|by rw[b];decide⟩)
 have B:=X<|GY (vQ:=vQ) (pb:=pb) g;clear d g
 go_enter func203,ntmps203
 go_upto_region 1 with fail;generalize a.alloc ks=c at*;have⟨C,i⟩:=Xq a.heap.size;rw[<-i]at l n z y⊢;have q:=X i;clear i;have r:=X<|lN.refl m.o.1;have D:=X<|uY [([111,114],23)] 1 (QT c Bm) Z Ur;have s:=X<|r.o.alloc Bm;have K:c<(c.alloc Bm).heap.size:=Us
 have L:pb<c:=r.o.1.lt;go_wp21;refine(tk 213 (λ_ _=>Ut) B.o (λt=>t=c) _ 1 1 [([111,114],23)] _ s.o.1 D.o (λt j=>⟨Y,Y⟩) A.o Ur).M ?_;rintro b M ⟨rfl,j⟩;have u:=X<|s.o.T j;clear j;have w:=(u.o.2.B C n λb=>by injection b with b;omega).T l.o;have⟨⟨N,O,P,Q⟩,R,S,T,U⟩:=kL w;go_wp21;have hF:=zW (u0:=.int .u8 x.op) (u1:=tx x.name) (u2:=.int .i64 x.n) (u3:=Nl) w;have E:=kr hF 0;have F:=kr hF 1;have G:=kr hF 2;have I:=kr hF 3;refine Q0 (v:=Lr x) ?_ rfl ⟨Z,zV (m.o.T u.o) (W q.o)<|SC q.o.symm⟩;simp[results,Tryz.results203,go_sem,E,F,G,I]
def Jh{q:lj}{vQ:PV}{pb F v l b:Nat}{x}{w:Int}{y z c}(m a)(G:qF q F=some (x,v))(I:mh q vQ a pb F)(f:Db m pb l b w y z c a)(J:vQ.lo<=b)(ax:c.length<=20000):
  Calls prog 202 #[Nl,.pointer b,.pointer l] a λr Q=>(∃A,r=.returned A)/\wV q vQ m pb v l b w y z (c++[x]) Q:=by
 have⟨K,L,M,N,O⟩:=Rm MN;have⟨A,f⟩:=f;have⟨ay,az,aA,aB,aC,aD⟩:=f.lt;have R:=X<|GZ (vQ:=vQ) (pb:=pb) G;have S:=X I;have aE:=kr f.bx 0;have aF:l<a:=Y
 have aG:b<a:=Y
 obtain⟨s,t,rfl⟩:∃s t,A=.slice s c.length t:=by
  rcases f.own.2 with⟨rfl,T⟩|⟨g,P,aH,rfl,_⟩
  exact⟨none,0,by rw[T]⟩;exact⟨_,_,Z⟩
 have U:=kr f.ex 3;have V:=X f;have B:c.length+1<=maxLen:=UA
 have C:(c.length+1)*56<=140737488355328:=Y
 obtain⟨e,j⟩:∃e,c.length=e:=⟨_,Z⟩
 rw[j]at U B C;have aI:(0:Int)<=(e:Int):=Y
 have aJ:(e:Int)<(e:Int)+1:=Y
 clear G I f
 go_enter func202,ntmps202
 go_upto_region 0 with fail;go_cut [] (λaa=>wV q vQ m pb v l b w y z (c++[x]) aa)
 .go_region_law (first|(go_simp;go_at_call 203;refine Calls.M (R.o _<|S.o.grown<|by first|exact yL a|exact vP a _) ?_;rintro r d ⟨rfl,u⟩;have i:=(V.o.ku<|kK (by first|exact yL a|exact vP a _) _).ku u.2;have ab:=kr i.ex 3;rw[j]at i ab;have D:=i.own;rw[j]at D;have aK:=i.lt.2.2.2.2.2;have aL:b<d:=Y;(try (have ac:d.heap[a.heap.size]?=some ks:=(u.2.B a (by simp[World.drew]) λr=>by injection r;omega).T<|QT a ks)))|(refine TT d (by rfl) (.tmp 7) (.tmp 11) 173 (by rfl) m 180 K _ 4 56 underlying173 L M N O Z Ur (.slice s e t) e (tU c) (by rfl) D ⟨a,0,none⟩ 1 1 (A8 Oo) (by rfl) (by rfl) (TC ac) UO Ur B C Y d Z ?_;intro g P ad k n ae af;have E:=Io (x:=x) J u.1 i n j k;have⟨⟨ag,ah,ai,aj⟩,ak,al,am,an⟩:=Ip j k;have p:=LH i n;have ao:=kr p 3;have ap:=kx p 3;have aq:=(pG k g Z).1;have ar:g≠b:=Y;have au:b≠g:=Y)|(refine TT (d.alloc ks) (by rfl) (.tmp 7) (.tmp 11) 173 (by rfl) m 180 K _ 4 56 underlying173 L M N O Z Ur (.slice s e t) e (tU c) (by rfl) (D.alloc _) ⟨d,0,none⟩ 1 1 (A8 Oo) (by rfl) (by rfl) (TC<|QT d _) UO Ur B C Uy (d+1) Us ?_;intro g P ad k n ae af;have E:=Io (x:=x) J (u.1.kv<|Ba _ _) (i.ku<|kK (QX d ks none) _) n j k;have⟨⟨ag,ah,ai,aj⟩,ak,al,am,an⟩:=Ip j k;have p:=LH (i.ku<|kK (QX d ks none) _) n;have ao:=kr p 3;have ap:=kx p 3;have aq:=(pG k g Z).1;have ar:g≠b:=Y;have au:b≠g:=Y));all_goals
   go_wp21;go_meet;first|with_reducible exact E.1|with_reducible exact E.2
 have av:=X hcut;clear hcut;go_wp21;go_loopw [17] (λaw wr=>aw=.int .i64 0/\wr=wc) (λ_ _=>0)
 .exact⟨Z,Z⟩
 obtain⟨rfl,rfl⟩:=hrel;go_wp21
 go_end0
 exact⟨⟨_,Z⟩,av.o⟩
def Ji{T:lj}{d:PV}{e j k f c l:Nat}{m}{n:Int}{p q g}(i a)(r:qF T j=some (m,k))(s:mh T d a e j)(b:Db i e f c n p q g a)(t:d.lo<=c)(u:g.length<=20000)(A:a.cell? l=some (.func (.func 202) #[] #[.pointer c,.pointer f])):
  Calls prog 204 #[.pointer l] a λw w'=>(∃v,w=.returned v)/\wV T d i e k f c n p q (g++[m]) w':=by
 have y:=X<|Jh i a r s b t u;clear r s b t u
 go_enter func204,ntmps204
 go_wp21;apply y.o.M;rintro w B ⟨⟨v,rfl⟩,x,b⟩;have z:=D0 x b;clear x b;go_wp21
 go_end0
 exact⟨⟨_,Z⟩,z.o⟩
def G1{T:lj}{y:PV}{e M F:Nat}{S}(c)(au:vO T M=some (S,F))(N:mh T y c e M):Calls prog 190 #[.pointer e] c<|MP T y e F S c:=by
 obtain⟨A,d,bn,bo,f,bp,k,bq,av,aw,ax,ay,az,rfl⟩:=vy au;have x:=FF av aw ax ay az;have aA:=X N;have aB:=N.low;have aC:=N.lt
 go_enter func190,ntmps190
 go_upto_region 5 with fail;have⟨l,s⟩:=Xq<|(((c.alloc<|rn e).alloc oi).alloc oi).alloc<|uc c;rw[<-s];have aD:l.heap.size=c+4:=by rw[s];simp
 have t:Below c c l:=by rw[s];exact(((Ba _ _).alloc Us _).alloc Uw _).alloc Uw _
 have⟨b,w⟩:=Xq c.heap.size;have U:Hid<|l.heap[b]?=some (rn e):=X (by rw[s,w];exact(Q9 _ _ Uy).T ((Q9 _ _ Uy).T<|(Q9 _ _ Uy).T<|QT _ _));have aE:Hid<|l.heap[b+1]?=some oi:=X (by rw[s,w];have:=QT (c.alloc<|rn e) oi;rw[QU]at this;exact(Q9 _ _ Uy).T ((Q9 _ _ Uy).T this));have aF:Hid<|l.heap[b+1+1]?=some oi:=X (by rw[s,w];have:=QT ((c.alloc<|rn e).alloc oi) oi;rw[QU,QU]at this;exact(Q9 _ _ Uy).T this);have aG:Hid<|l.heap[b+1+1+1]?=some (uc b):=X (by rw[s,w];have:=QT (((c.alloc<|rn e).alloc oi).alloc oi)<|uc c;rw[QU,QU,QU]at this;exact this);clear s;rw[<-w]at aD aB aC⊢;have aH:=X w;clear w;have aI:Hid<|lN T y c e M l:=X<|lN.of aA.o t;have B:Hid<|Hq l e b (b+1+1) 0 [] [] [] Nl l:=X ⟨U.o,aF.o,SX _ _ _ _,qy.refl _ _ _,Y,Y,Y,Y,Y,QZ _⟩;have aJ:=X<|lN.refl aI.o.1
 have br:=kr U.o 0;have aK:=X t;go_wp21;refine(mC aJ.o _ Ur<|by rw[A];decide).M ?_;rintro n bs ⟨rfl,a⟩;have aL:=X a;have bt:=kB (B.o.ku a.2).bx 0 _ Z;go_wp21;refine(mC aL.o _ Ur<|by rw[A];decide).M ?_;rintro n bu ⟨rfl,a⟩;have aM:=X a;have bv:=kB (B.o.ku a.2).bx 0 _ Z;go_wp21;refine(mC aM.o _ Ur<|by rw[A];decide).M ?_;rintro n bw ⟨rfl,a⟩;have aN:=X a;have bx:=kB (B.o.ku a.2).bx 0 _ Z;go_wp21;refine(mC aN.o _ Ur<|by rw[A];decide).M ?_;rintro n bz ⟨rfl,a⟩;have aO:=X a;have bA:=kB (B.o.ku a.2).bx 0 _ Z;go_wp21;apply(sD aO.o _ Ur A).M;rintro n bB ⟨rfl,a⟩;have V:=X a;have aa:=X<|B.o.ku a.2;have bC:=kr aa.o.bx 0;go_wp21;apply(oJ V.o.1 x.o.1).M;rintro n bD ⟨rfl,a⟩;have aP:=X<|V.o.T a;have O:=X<|aa.o.ku a.2;have bE:=kr O.o.bx 0;have⟨⟨ab,ac,ad,ae,af,ag⟩,ah,ai,aj,ak,al,am⟩:=mf O.o.ex;go_wp21;have G:y.lo<=b+1+1:=Y
 have aQ:=X<|(aP.o.1.other (i:=0) (u:=.int .u8 6) G).other (i:=1) (u:=tx d) G;have aR:=X<|(O.o.Da 0 (.int .u8 6) (k':=6) (nm':=[]) (hd':=[]) Z).Da 1 (tx d) (k':=6) (nm':=d) (hd':=[]) Z;apply(nw aQ.o _ x.o.2.1 Ur).M;rintro n bF ⟨⟨bG,rfl⟩,a⟩;have aS:=X a.1;have I:=X<|aR.o.ku a.2;have bH:=kr I.o.bx 0;go_wp21;apply(oJ aS.o x.o.2.2.1).M;rintro n bI ⟨rfl,a⟩;have aT:=X<|a.1.other (z:=b+1+1) (i:=2) (u:=tx f) G;have aU:=X<|(I.o.ku a.2).Da 2 (tx f) (k':=6) (nm':=d) (hd':=f) Z;have bJ:=kB (I.o.ku a.2).bx 0 _ Z;have⟨⟨ab,ac,ad,ae,af,ag⟩,ah,ai,aj,ak,al,am⟩:=mf (I.o.ku a.2).ex;go_wp21;refine(zv (qF T) k x.o.2.2.2.1 204 #[.pointer<|some ⟨b+1+1+1,0,none⟩] (λ_ _=>Ut) (λP c=>Db l e b (b+1+1) 6 d f P c) (λP c w' J aV=>J.ku aV) (λan aW ao C=>Cf C) (λP an aW ao c C Q J aX=>?_) _ aT.o ⟨_,aU.o⟩).M ?_;have aY:=J;have⟨v,K⟩:=aY;exact Ji l c C Q J G aX<|kB ((K.g.B (b+1+1+1) Y Y Y).T aG.o) 0 _ Z;rintro n bK ⟨⟨bL,rfl⟩,Q,v,K⟩;have aZ:=X Q;have ba:=X K;have bM:=kr K.bx 0;go_wp21;apply(nw aZ.o _ x.o.2.2.2.2 Ur).M;rintro n p ⟨⟨bN,rfl⟩,a⟩;have bb:=X a.1;have L:=X<|ba.o.ku a.2;have ap:=(L.o.g.B (b+1) Y Y Y).T aE.o;have bc:=X ap;have⟨⟨ab,ac,ad,ae,af,ag⟩,_⟩:=mf L.o.ex;have⟨⟨bO,bP,bQ,bR,bS,bT⟩,ah,ai,aj,ak,al,am⟩:=mf ap;have aq:=L.o.own;obtain⟨g,j,rfl⟩:∃g j,v=.slice g k.length j:=by
  rcases aq.2 with⟨rfl,bd⟩|⟨bU,bV,bW,rfl,_⟩
  exact⟨none,0,by rw[bd]⟩;exact⟨_,_,Z⟩
 have be:=X<|MO aq<|Jj (λan F ao C=>G0 C) x.o.2.2.2.1;go_wp21;have t:=aK.o;have D:=L.o.g;have bX:=D.size;have bY:=aH.o;have E:c.grownBy p<|some e:=⟨D.os.T t.os,D.tape.T t.tape,D.output.T t.output,Y,λz q R=>(D.B z Y (λn=>R<|by rw[n]) Y).T<|t.B z q⟩
 change bodyPost _ _ _ _ _ (kX p (b+1) 0 [.int .u8 6,tx d,tx f,.slice g k.length j,Nl,Nl]);have hF:(kX p (b+1) 0 [.int .u8 6,tx d,tx f,.slice g k.length j,Nl,Nl]).heap[b+1]?=some (.cells #[.int .u8 6,tx d,tx f,.slice g k.length j,Nl,Nl] 175):=mN (r:=[.int .u8 6,tx d,tx f,.slice g k.length j,Nl,Nl]) (m:=[_,_,_,_,_,_]) bc.o Z;have bf:lN T y c e F<|kX p (b+1) 0 [.int .u8 6,tx d,tx f,.slice g k.length j,Nl,Nl]:=⟨bb.o.ku (SC ma.symm) λz q=>mY Y,⟨(pU (b+1) _ 0 p).os.T E.os,(pU (b+1) _ 0 p).tape.T E.tape,(pU (b+1) _ 0 p).output.T E.output,by rw[ma];exact E.size,λz q R=>(mY Y).T<|E.B z q R⟩⟩
 have bg:=(be.o.ku (w':=kX p (b+1) 0 [.int .u8 6,tx d,tx f,.slice g k.length j,Nl,Nl]) (kP.ok .u8 _) λz q=>mY<|W q.1).M (kP.ok .u8 _) (T:=λar=>c<=ar/\ar<(kX p (b+1) 0 [.int .u8 6,tx d,tx f,.slice g k.length j,Nl,Nl]).heap.size) λz q=>⟨W q.1,by rw[ma];exact q.2⟩;generalize kX p (b+1) 0 [.int .u8 6,tx d,tx f,.slice g k.length j,Nl,Nl]=bZ at*;have⟨⟨bh,bi,bj,bk,bl,bm⟩,_⟩:=mf hF;refine Q0 (v:=.agg #[.int .u8 6,tx d,tx f,.slice g k.length j,Nl,Nl]) ?_ rfl ⟨g,j,Z,bg,bf⟩;simp[results,Tryz.results190,go_sem,bh,bi,bj,bk,bl,bm]
def EI{T:lj}{t:PV}{n j G:Nat}{u}(e)(p:uW T j=some (u,G))(h:mh T t e n j):Calls prog 166 #[.pointer n] e<|MR T t n G u e:=by
 have⟨ag,ah,ai,aj,ak⟩:=Rm MQ;have v:=Ft ah ai aj ak;unfold uW at p;by_cases a:ov T j=[123]
 .rw[RG a]at p;have al:=X (show tq T [123] j=some (j+1)from by unfold tq;rw[RG a]);have am:=X p;have an:=X h;have ao:=h.low;have aO:=h.lt
  go_enter func166,ntmps166
  go_wp21;apply(nw an.o _ al.o Ur).M;rintro c aP ⟨⟨O,rfl⟩,a⟩;have P:=X a;go_wp21;have aQ:=P.o.1.small
  go_loopg [3] (T.length-(j+1)) (λap O wr=>∃(g I:List St) (k Q:Nat),g++I=u/\qU T Q k=some (I,G)/\g.length<=k/\k+ap=T.length/\lN T t e n k wr/\kJ (kR .u8 Ds) 175 6 (λd=>e<=d) wr e O g)
  .exact⟨[],u,j+1,_,Z,am.o,Q1 _,Y,P.o,kJ.nil _ _ _ _ _ _⟩
  have⟨g,I,k,Q,w,aq,aR,aS,x,ar⟩:=hrel;have R:=X w;have S:=X x;have m:=X ar;have⟨aT,aU,aV,au,_⟩:=x.1.ll;have aW:=kr au 8;have aX:=x.2.size;have y:=X<|Az x.1 [125];rcases EH aq with⟨z,rfl,rfl⟩|⟨z,b,J,av,aw,U,rfl,ax⟩
  .rw[R5.2 z]at y;have ay:=X (show tq T [125] k=some (k+1)from by unfold tq;rw[RG z]);obtain⟨q,r,rfl,V,az⟩:=m.o.form;go_wp2_with (apply y.o.M;rintro c K ⟨rfl,a⟩;have s:=X<|S.o.kv a;have A:=X a;clear a);apply(nw s.o.1 _ ay.o Ur).M;rintro c f ⟨⟨aY,rfl⟩,a⟩;have aA:=X<|s.o.T a;have B:=X<|((m.o.kv (kR.ok .u8 _) A.o).grown (kR.ok .u8 _) a.2 λC c=>by injection c with c;subst c;exact⟨Y,λc=>W<|(m.o.ge _ c.symm).1⟩).sl<|kR.ok .u8 _;go_wp21;go_ret;have w:=R.o;rw[Sq]at w;subst w;exact⟨q,r,Z,B.o.M (kR.ok .u8 _) λd a=>⟨by rcases a.1 with h|h<;>exact h,a.2⟩,aA.o⟩
  rw[Th z]at y;have L:=D0 U ax;have aZ:=Cg U;go_wp2_with (apply y.o.M;rintro c K ⟨rfl,a⟩;have s:=X<|S.o.kv a;have A:=X a;clear a);obtain⟨q,r,rfl,V,az⟩:=m.o.form;apply(G1 K L.o.1 s.o.1).M;rintro c f ⟨i,c3,rfl,aB,a⟩;have ba:=a.2.size;have bb:=A.o.size;have D:=m.o.ge;have B:=X ((m.o.kv (kR.ok .u8 _) A.o).grown (kR.ok .u8 _) a.2 λC c=>by injection c with c;subst c;exact⟨Y,λc=>W<|(D _ c.symm).1⟩);have aC:=X<|s.o.T a;have aD:∀d,K.heap.size<=d->some d≠(Value.slice q g.length r).ownBlock:=λd a c=>W<|(D d c.symm).2;have M:kR .u8 Ds (λd=>e<=d/\d<f/\some d≠(Value.slice q g.length r).ownBlock) f [.int .u8 b.kind,tx b.name,tx b.hd,(i,b.lp.length,c3),Nl,Nl] b:=by obtain⟨_,bc,bd,be,bf,bg,bh,bi,_,_,_,_,_,rfl⟩:=vy L.o.1;exact⟨_,_,_,Z,aB.M (kP.ok .u8 _) λd a=>⟨W a.1,a.2,aD d a.1⟩,kz.nil _ _ _,kz.nil _ _ _⟩
  have⟨aa,N⟩:=Xq g.length;have⟨l,ab⟩:=Xq b.lp.length;rw[<-N]at V B M⊢;rw[<-ab]at M⊢;have ac:=X N;have bj:aa<=20000:=Y;have aE:=X<|QT f<|An b.kind b.name b.hd i l c3;have aF:∀(E:Nat) (F:Value),[Value.int .u8 b.kind,tx b.name,tx b.hd,(i,l,c3),Nl,Nl][E]?=some F->(f.alloc<|An b.kind b.name b.hd i l c3).cell? ((f:Addr).add E)=some F:=λE F aG=>(by rw[lz,Re];exact kB aE.o E F<|by simpa using aG);have aH:=X aF;have ad:f.grownBy (f.alloc<|An b.kind b.name b.hd i l c3) none:=QX _ _ _;have ae:=X (B.o.grown (kR.ok .u8 _) ad λC c=>by cases c);have aI:=X<|(kR.ok .u8 Ds).M ((kR.ok .u8 Ds).ku M λd a=>ad.B d a.2.1 Us) (T:=λd=>e<=d/\d<(f.alloc<|An b.kind b.name b.hd i l c3).heap.size/\some d≠(Value.slice q aa r).ownBlock) λd a=>⟨a.1,Uy,a.2.2⟩;clear ab N;go_wp2_with (at_builtin;refine kM Z _ _ 108 Z e.heap.size 175 ag _ 6 112 underlying108 v.o.1 v.o.2.1 v.o.2.2.1 v.o.2.2.2 Z (kR.ok .u8 Ds) (λd=>e<=d) _ g Z ae.o ⟨f,0,none⟩ [.int .u8 b.kind,tx b.name,tx b.hd,(i,l,c3),Nl,Nl] b Z aH.o aI.o ?c3 ?c4 ?c5 ?_);case c3=>rw[<-ac.o];unfold maxLen;omega
  case c4=>rw[<-ac.o];omega
  case c5=>simp only[QU];omega
  intro bk aJ aK aL bl;have D:=ae.o.ge;have aM:=aC.o.alloc<|An b.kind b.name b.hd i l c3;have af:Hid<|lN T t e n J aJ:=X<|aM.lJ ao.2 aL λC c=>(D C c).1;have aN:=X aK;have bm:=af.o.1.small;go_wp21
  go_roundg (T.length-J)
  case measure=>omega
  case rel=>exact⟨g++[b],av,J,aw,by rw[Rv];exact R.o,L.o.2,by rw[Q6];simp;omega,Y,af.o,aN.o⟩
 rw[Rl a]at p;cases p
def A0{T:lj}{N:PV}{n O d:Nat}{G}(w)(P:uB T O=some (G,d))(h:mh T N w n O):Calls prog 115 #[.pointer n] w<|MV T N n d G w:=by
 have⟨bd,be,bf,bg,bh⟩:=Rm MU;have Q:=Ft be bf bg bh;unfold uB at P;have bi:=X P;have bj:=X h;have aw:=h.low;have bk:=h.lt;have cm:=h.small
 go_enter func115,ntmps115
 go_wp21;have⟨p,B⟩:=Xq<|((w.alloc<|rn n).alloc<|.cells #[Nl] 104).alloc<|.cells #[Nl] 104;rw[<-B];have ax:p.heap.size=w+3:=by rw[B];simp
 have ay:Below w w p:=by rw[B];exact((Ba _ _).alloc Us _).alloc Uw _
 have⟨e,C⟩:=Xq w.heap.size;have bl:Hid<|p.heap[e]?=some (rn n):=X (by rw[B,C];exact(Q9 _ _ Uy).T ((Q9 _ _ Uy).T<|QT _ _));have af:Hid<|p.heap[e+1]?=some (.cells #[Nl] 104):=X (by rw[B,C];have:=QT (w.alloc<|rn n)<|.cells #[Nl] 104;rw[QU]at this;exact(Q9 _ _ Uy).T this);have bm:Hid<|p.heap[e+1+1]?=some (.cells #[Nl] 104):=X (by rw[B,C];have:=QT ((w.alloc<|rn n).alloc<|.cells #[Nl] 104)<|.cells #[Nl] 104;rw[QU,QU]at this;exact this);clear B;rw[<-C]at ax aw bk⊢;have bn:=X C;have bo:=X<|lN.of bj.o ay;have bp:=X ay;clear C
 go_loopg [] (T.length-O) (λbq wr=>∃(k ag:List Hd) (A az:Nat) (v:Value),k++ag=G/\pC T [111,110] (sB T) az A=some (ag,d)/\k.length<=A/\A+bq=T.length/\mh T N wr n A/\qy p wr n (e+1+1)/\wr.heap[e+1+1]?=some (.cells #[v] 104)/\kJ (mv .u8) 111 3 (λc=>p<=c) wr p v k)
 .exact⟨[],G,O,_,_,Z,bi.o,Q1 _,Y,bo.o.1,qy.refl _ _ _,bm.o,kJ.nil _ _ _ _ _ _⟩
 have⟨k,ag,A,az,v,R,br,cn,co,ah,I,bs,aA⟩:=hrel;have aB:=X R;have aC:=X<|lN.refl ah;have S:=X aA;have J:=X I;have ai:=X bs;have cp:=I.size;have b:=(I.B e Y Y Y).T bl.o;have aD:=X b;have cq:=kr b 0;have aE:e<wr:=Y;obtain⟨r,s,rfl,bt,cr⟩:=aA.form;rcases zD br with⟨aj,rfl,rfl⟩|⟨aj,aF,D,aG,bu,bv,rfl,bw⟩
 .have ak:=kr ai.o 0;have bx:=kB ((J.o.B (e+1) Y Y Y).T af.o) 0 _ Z;have bz:=kx ((J.o.B (e+1) Y Y Y).T af.o) 0;go_wp21;apply(mC aC.o _ Ur aj).M;rintro a t ⟨rfl,b⟩;have bA:=(b.2.B (e+1+1) Y λa=>by injection a;omega).T ai.o;have al:=(b.2.B (e+1) Y λa=>by injection a;omega).T<|(J.o.B (e+1) Y Y Y).T af.o;have bB:=X al;have am:=X b;have ak:=kr bA 0;have bx:=kr al 0;have bz:=kx al 0;go_wp21;have hF:=one_set (v:=.slice r k.length s) bB.o;have bC:=kr hF 0;have cs:=bn.o;have bD:=((S.o.grown (mv.ok .u8) am.o.2 λz a=>by injection a with a;subst a;exact⟨Y,λa=>W<|(S.o.ge _ a.symm).1⟩).sl<|mv.ok .u8)
  have bE:=J.o.base (kK (kC bp.o)<|some n) Y;have bF:lN T N w n d<|t.setCell ⟨e+1,0,none⟩<|.slice r k.length s:=lN.lJ ⟨am.o.1,ky bE am.o.2⟩ (W aw.2) (kE _ _ _ _) (λz a=>by injection a with a;omega);have R:=aB.o;rw[Sq]at R;subst R;refine Q0 (v:=.agg #[.slice r k.length s]) ?_ rfl ⟨r,s,Z,(bD.mE (mv.ok .u8) λc b=>by rcases b.1 with h|h<;>omega).M (mv.ok .u8) λc b=>⟨by rcases b.1 with h|h<;>omega,by rw[QW];exact b.2⟩,bF⟩;simp[results,Tryz.results115,go_sem,bC]
 obtain⟨f,ct,l,cu,c,aH,aI,aJ,rfl⟩:=uJ bv;have U:=Ft aH aI aJ bw;have cv:A+1<D:=(by have:=rJ aH;have:=xp (λA d aK P=>rJ P) aI;have:=zC aJ;omega);go_wp21;apply(sD aC.o _ Ur aj).M;rintro a cw ⟨rfl,b⟩;have aL:=X b;have cx:=kB ((b.2.B e aE λa=>by injection a;omega).T aD.o) 0 _ Z;go_wp21;apply(oJ aL.o.1 U.o.1).M;rintro a t ⟨rfl,b⟩;have an:wr.grownBy t<|some n:=ky aL.o.2 b.2;have cy:=an.size;have bG:=X b.1;have bH:=X an;have aM:=(an.B e aE λa=>by injection a;omega).T aD.o;have cz:=kr aM 0;have bI:=X aM;have aN:=X<|QT t<|.cells #[tx f,Nl,Nl] 111;have aO:=X<|bG.o.kv<|Ba t<|.cells #[tx f,Nl,Nl] 111;have bJ:=(Q9 t (.cells #[tx f,Nl,Nl] 111)<|show e<t from Y).T bI.o;have aP:=X bJ;have cA:e<t:=Y;go_wp21;have⟨E,F⟩:=Xq<|t.alloc<|.cells #[tx f,Nl,Nl] 111;have⟨b,V⟩:=Xq t.heap.size;rw[<-F,<-V]at aN;rw[<-F]at aO aP;rw[<-F,<-V];have cB:E=b+1:=(by rw[F,V,QU]);have bK:Hid<|wr.grownBy E<|some n:=X (by rw[F];exact ky bH.o<|kK (QX _ _ none) _);have bL:Hid<|Nq E n e b f [] Nl E:=X ⟨aP.o,aN.o,SX _ _ _ _,qy.refl _ _ _,Y,Y,Y,Y,Y,QZ _⟩;have aQ:wr<=b:=Y;clear F V;refine(zv (vH T) l U.o.2.1 165 #[.pointer b,.pointer e] (λ_ _=>Ut) (λk w=>J9 E n e b f k w) (λk w cC ⟨v,K⟩ I=>⟨v,K.ku I⟩) (λA D aK ao=>rJ ao) (λk A D aK w ao ah K L=>G2 E w ao ah K Y L) _ aO.o ⟨_,bL.o⟩).M ?_;rintro a bM ⟨⟨cD,rfl⟩,bN,v,aR⟩;have bO:=X bN;have aS:=X aR;have cE:=kr aR.bx 0;go_wp21;apply(EI bM U.o.2.2.1 bO.o).M;rintro a q ⟨g,j,rfl,bP,aT⟩;have aa:=X<|aS.o.ku aT.2;have aU:=X aT;have bQ:=X bP;have⟨⟨cF,cG,cH⟩,cI,cJ,cK⟩:=lf aa.o.ex;have aV:=aa.o.g.base bK.o aQ;have aW:=(aV.B (e+1+1) Y λa=>by injection a;omega).T ai.o;have ak:=kr aW 0;obtain⟨x,y,rfl⟩:∃r s,v=.slice r l.length s:=by
  rcases aa.o.own.2 with⟨rfl,aF⟩|⟨cL,cM,cN,rfl,_⟩
  exact⟨none,0,by rw[aF]⟩;exact⟨_,_,Z⟩
 have cO:=aU.o.2.size;have M:=S.o.ge;have cP:=aS.o.lt.2.2.2.2.2;have aX:wr.grownBy (q.setCell ⟨b,2,none⟩ (g,c.length,j))<|some n:=xa aV (kE _ _ _ _) aQ;have bR:=X aX;have aY:=S.o.grown (mv.ok .u8) aX (λz a=>by injection a with a;subst a;exact⟨Y,λa=>W<|(M _ a.symm).1⟩);have ap:∀d,b+1<=d->some d≠(Value.slice r k.length s).ownBlock:=λd m a=>W<|(M d a.symm).2;have aZ:mv .u8 (λd=>p<=d/\d<(q.setCell ⟨b,2,none⟩ (g,c.length,j)).heap.size/\some d≠(Value.slice r k.length s).ownBlock) (q.setCell ⟨b,2,none⟩ (g,c.length,j)) [tx f,(x,l.length,y),(g,c.length,j)] ⟨f,l,c⟩:=
  ⟨_,_,Z,((K9 aa.o.own).mE kO.ok λd m=>W m.1).M kO.ok λd m=>⟨W m.1,by rw[QW];exact m.2,ap d<|W m.1⟩,(bQ.o.mE (kR.ok .u8 _) λd m=>W m.1).M (kR.ok .u8 _) λd m=>⟨W m.1,by rw[QW];exact m.2,ap d<|W m.1⟩⟩
 have bS:=aU.o.1.other (z:=b) (i:=2) (u:=.slice g c.length j) Y;have bT:=(Q5 q ⟨b,2,none⟩ (g,c.length,j) (e+1+1)<|by show e+1+1≠b;omega).T aW;have bU:=X bT;have bV:=X bS;have⟨aq,L⟩:=Xq k.length;rw[<-L]at bt aY aZ ak;have ba:(q.setCell ⟨b,2,none⟩ (g,c.length,j)).grownBy ((q.setCell ⟨b,2,none⟩ (g,c.length,j)).alloc<|.cells (hR f x l.length y g c.length j) 111) none:=QX _ _ _;have bW:=X (aY.grown (mv.ok .u8) ba λz a=>by cases a);have bX:=X (show∀(ab:Nat) (u:Value),[tx f,Value.slice x l.length y,(g,c.length,j)][ab]?=some u->((q.setCell ⟨b,2,none⟩ (g,c.length,j)).alloc<|.cells (hR f x l.length y g c.length j) 111).cell? ((q:Addr).add ab)=some u from λab u K=>by have:=QT (q.setCell ⟨b,2,none⟩ (g,c.length,j))<|.cells (hR f x l.length y g c.length j) 111;rw[QW]at this;rw[lz,Re];exact kB this ab u<|by simpa using K)
 have bY:=X<|(mv.ok .u8).M ((mv.ok .u8).ku aZ λd m=>ba.B d m.2.1 Us) (T:=λd=>p<=d/\d<((q.setCell ⟨b,2,none⟩ (g,c.length,j)).alloc<|.cells (hR f x l.length y g c.length j) 111).heap.size/\some d≠(Value.slice r aq s).ownBlock) λd m=>⟨m.1,Uy,m.2.2⟩;rw[<-L]at ap M;have bZ:=λz a=>(M z a).1;have ca:=X bZ;have cb:some (e+1+1)≠(Value.slice r aq s).ownBlock:=λa=>W<|(M _ a.symm).1;clear L;go_wp2_with (at_builtin;refine kM Z _ _ 102 Z p.heap.size 111 bd _ 3 64 underlying102 Q.o.1 Q.o.2.1 Q.o.2.2.1 Q.o.2.2.2 Z (mv.ok .u8) (λd=>p<=d) _ k Z bW.o ⟨q,0,none⟩ [tx f,(x,l.length,y),(g,c.length,j)] ⟨f,l,c⟩ Z bX.o bY.o ?c3 ?c4 ?c5 ?_);case c3=>unfold maxLen;omega
 case c4=>omega
 case c5=>simp only[QU,QW];omega
 intro cQ ar au ac cR;obtain⟨ad,ae,rfl,cS,_⟩:=au.form;have bb:∀z,(Value.slice r aq s).ownBlock=some z->p<=z:=ca.o;have cc:(e+1+1)<(q.setCell ⟨b,2,none⟩ (g,c.length,j)).heap.size:=(by rw[QW];omega);have av:=(ac.B (e+1+1) (by rw[QU];omega) cb).T<|(Q9 (q.setCell ⟨b,2,none⟩ (g,c.length,j)) (.cells (hR f x l.length y g c.length j) 111) cc).T bU.o;have cT:=kr av 0;have cU:=kx av 0;have cd:=bV.o.kv<|(Below.refl _ _).alloc (QZ _)<|.cells (hR f x l.length y g c.length j) 111;have bc:=cd.ku ac.size λd m=>ac.B d (by rw[QU];omega) λa=>W<|bb d a.symm;have ce:qy p ar n<|e+1+1:=((J.o.grown bR.o).lJ (QX (q.setCell ⟨b,2,none⟩ (g,c.length,j)) (.cells (hR f x l.length y g c.length j) 111) none) λz a=>by cases a).lJ ac λz a=>bb z a;have cf:=X<|bc.other (z:=e+1+1) (i:=0) (u:=.slice ad (k++[(⟨f,l,c⟩:Hd)]).length ae) Y;have cg:=X<|ce.wZ<|kE ar (e+1+1) 0<|.slice ad (k++[(⟨f,l,c⟩:Hd)]).length ae;have ch:=X<|one_set (v:=.slice ad (k++[(⟨f,l,c⟩:Hd)]).length ae) av;have ci:=X (au.grown (mv.ok .u8) (kE ar (e+1+1) 0<|.slice ad (k++[(⟨f,l,c⟩:Hd)]).length ae) λz a=>by injection a with a;subst a;exact⟨Y,λa=>W<|(au.ge _ a.symm).1⟩);have cV:=bc.small;have cj:=X (show(k++[(⟨f,l,c⟩:Hd)])++aG=G from by rw[Rv];exact aB.o);have ck:=X (show(k++[(⟨f,l,c⟩:Hd)]).length<=D from by rw[Q6];simp;omega);generalize k++[(⟨f,l,c⟩:Hd)]=cl at*;go_wp21
 go_roundg (T.length-D)
 case measure=>omega
 case rel=>exact⟨cl,aG,D,bu,_,cj.o,U.o.2.2.2,ck.o,Y,cf.o,cg.o,ch.o,by rw[ax];exact ci.o⟩
