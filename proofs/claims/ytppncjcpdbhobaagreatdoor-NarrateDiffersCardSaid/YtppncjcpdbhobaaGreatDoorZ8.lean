import Derived.Test.YtppncjcpdbhobaaGreatDoorZ2
import Derived.Test.YtppncjcpdbhobaaGreatDoorZ4
set_option maxRecDepth 1000000
set_option maxHeartbeats 32000000
set_option linter.all false
namespace Go.Proofs.YtppncjcpdbhobaaGreatDoor
open RowKit Go.Proofs.Tryz lI Maps oZ qQ ChangeShapes WideShapes ChangeAt
def wo{u:Type}{P}{w:World}(j)(v:TypeId)(g i p)(e q:Nat)(x:P.underlying j=some (.slice g))(y:P.info? g=some i)(N:i.zero=some p)
  (O:i.size=e) (Q:i.bytes=q) (R:p.cells.size=e) {l:Rel u} (ok:lh l e) {S:Nat->Prop} (T:∀a,S a->a<w) {m:Addr} {b:Nat} {z c:List u} {A:Value}
  (B:kz l S w (.slice (some m) b b) z) (r:kz l S w A c) (U:b+c.length<=maxLen) (V:(b+c.length)*q<=140737488355328):
  ∃C D E f,(Builtin.append_ #[j,j] v #[.slice (some m) b b,A]).run P w=.ok (.slice C D E) f/\kz l (λa=>S a\/(w<=a/\a<f)) f (.slice C D E) (z++c)/\w.grownBy f none:=by
 by_cases s:c=[]
 .subst s;obtain⟨F,G,t,rfl,_⟩:=r;refine⟨some m,b,b,w,?_,by rw[Sq];exact B.M ok λa d=>.inl d,World.grownBy.refl w none⟩;cases F<;>simp[Builtin.append_,Tn x,sizeOf,typeInfo,y,Builtin.lenOf,Builtin.firstCells,storeCells,loadCells,loadCellsFrom]
 .have⟨I,J,_,aa,ab,ac,_⟩:=B.cells ok;have⟨F,G,ad,ae,az,aA,af,ag⟩:=id r;subst ae;have ah:ad.flatten≠[]:=by
   intro g;have:=lu.flat (k:=e) (λai aj h=>ok.len h) ag;rw[g]at this;have aB:=ok.pos;have:c.length=0:=by have K:c.length*e=0:=(by simpa using this.symm);rcases TX.1 K with h|h;exact h;omega
   exact s<|RP this
  obtain⟨ak,al,rfl,_,_⟩:=af ah;have⟨t,aC,_,am,an,ao,_⟩:=r.cells ok;have aD:0<c.length:=Td.2 s;have⟨aE,f,ap,aq,L⟩:=Tw (P:=P) (w:=w) j v g i p e q x y N O Q R ok.pos m b b I.flatten aa ac ⟨ak,al,none⟩ c.length G t.flatten am ao Y U V;rcases aq.2 with⟨rfl,K⟩|⟨ar,au,aF,rfl,d,M,av,aw,aG,ax⟩
  omega;refine⟨_,_,_,f,ap,⟨_,au,I++t,by rw[Q6,J],by rw[Q6,J];exact av,by unfold maxLen at aw;omega,λ_=>⟨ar,0,Z,.inr ⟨d,(QS.1 M).1⟩,λaH aI n=>?_⟩,?_⟩,L⟩;rw[Te,<-ax,Si]at n;split at n;rw[Re];simp only[World.cell?,M];simpa using n;cases n;exact(lu.app an ab).imp λai aj ay=>ok.M (ok.ku ay λa d=>L.B a (T a d) Us) λa d=>.inl d
def ln(p w)(cb:Nat)(A r s B j C D E F G e)(a f:Nat)(q:List In)(x:In)(d:my p cb A r s B j C D E F G (.slice e a f) q w)(T:a<=100000):
  Calls prog 195 #[.pointer cb,.agg #[.int .u8 x.op,x.a,x.b,x.n]] w (uU p cb A r s B j C D E F G (.slice e a f) w (.int .i64 (a:Int)) λar=>ar=q++[x]):=by
 have⟨au,av,u,v,aw⟩:=Rm Kk;have M:=Ft av u v aw;have ax:q.length=a:=(d.own.sl yj.ok).len.1;have N:=D0 ax T;have ay:=d.own.ge;have az:=X ay;have aZ:=(QS.1 d.c).1;have ah:=d.lt;have U:=Ba w<|vm x.op x.a x.b x.n;have O:=(d.kv U)
 have V:=X<|QT w<|vm x.op x.a x.b x.n;have aA:=X<|show(w.alloc<|vm x.op x.a x.b x.n).heap.size=w+1 from Us
 go_enter func195,ntmps195
 go_wp21;have aB:=aA.o;have⟨I,ai⟩:=Xq w.heap.size;have aC:I≠cb:=Y
 have aD:some I≠(Value.slice e a f).ownBlock:=λm=>W<|(az.o I m.symm).2
 rw[<-ai]at V⊢;have⟨n,aj⟩:=Xq<|w.alloc<|vm x.op x.a x.b x.n;rw[<-aj]at O V U aB⊢;have aE:I<n:=Y
 have ba:w.heap.size<=n:=Y
 clear aj ai;have aF:=(nP.start O.g O.c O.own ah)
 refine tE (λx=>nP yj 310 4 (λ_=>False) p n cb #[A,r,s,B,j,C,D,E,F,G,(.slice e a f)] 140 (.slice e a f) q x) (λt w=>∃(k:Option Addr) (l:Nat),p.grownBy w (some cb)/\w.heap[cb]?=some (.cells #[A,r,s,B,j,C,D,E,F,G,(.slice k (a+1) l)] 140)/\kJ yj 310 4 (λ_=>False) w p (k,a+1,l) (q++[x])/\((Value.slice k (a+1) l).ownBlock=(Value.slice e a f).ownBlock\/∃y,(Value.slice k (a+1) l).ownBlock=some y/\n<=y)/\n.heap.size<=w/\∀c,c<n.heap.size->c≠cb->some c≠(Value.slice e a f).ownBlock->w.heap[c]?=n.heap[c]?) (mU [(·=.pointer cb),(·=.pointer cb),(·=.pointer cb),(Pp cb 10),(·=.slice e a f),(·=.agg #[.int .u8 x.op,x.a,x.b,x.n]),Tr,Tr,(·=.pointer cb),(Pp cb 10),Tr]) [(6,λt w=>∃(c:Nat),t=.slice c 1 1/\Nw n w c/\w.heap[c]?=some (vm x.op x.a x.b x.n)),(7,λt w=>∃(k:Option Addr) (l:Nat),t=.slice k (a+1) l/\kJ yj 310 4 (λ_=>False) w p t (q++[x])/\(t.ownBlock=(Value.slice e a f).ownBlock\/∃y,t.ownBlock=some y/\n<=y))] (aF.drew yj.ok) ⟨?_,?_,?_,?_,?_,?_,?_,?_,?_,?_,?_,trivial⟩ ?_;iterate 2
  .exact Pf 0
 .exact Pv 6 1
 .exact Pv 7 2
 .exact Pl 8 3 λ_ b=>kr b.c 10
 .intro J w b Q z j aa;have bb:=Sl 3<|Q 3 Z;have⟨⟨bc,bd,be,bf⟩,_⟩:=kL<|(b.k I aE aC aD).T V.o;exact .q (g:=⟨Z,b,Qa⟩)
 .intro J w b Q z j aa;have bg:=Sv 10 z 5;have ak:=b.s;exact .q (g:=⟨trivial,b.alloc yj.ok _,Qc ⟨_,Z,⟨ak,Us⟩,QT _ _⟩<|Qb<|Qe⟩)
 .intro J w b Q z j aa;have aG:=Sv 9 z 4;obtain⟨ab,aH,bh,aI⟩:=lg j 0;have aJ:=b.own;have ak:=b.s;have bi:=b.ws;have aK:∀(R:Nat) (K:Value),(#[.int .u8 x.op,.int .i64 x.a,.int .i64 x.b,.int .i64 x.n]).toList[R]?=some K->w.cell? ((ab:Addr).add R)=some K:=λR K aL=>(by rw[lz,Re];exact kB aI R K<|by simpa using aL);have⟨aM,aN,bj,al,am,aO,S,an⟩:=ld (P:=prog) (w:=w) p 138 138 310 au _ 4 32 underlying138 M.o.1 M.o.2.1 M.o.2.2.1 M.o.2.2.2 Z yj.ok (λ_=>False) ((.slice e a f)) q aJ ⟨ab,0,none⟩ (#[.int .u8 x.op,.int .i64 x.a,.int .i64 x.b,.int .i64 x.n]).toList x aK ((by unfold yj;rfl)) (by have:=N.o;unfold maxLen;omega) (W N.o) Y;have r:J.eval (.tmp 9)=(.slice e a f):=(by simp[Act.eval,aG]);have s:J.eval (.tmp 11)=.slice ab 1 1:=aH;have aP:=N.o.1;rw[aP]at al am an;refine .h λaQ ac=>?_;simp only[execOp,resolve,invoke,builtin,RL,RN,Rt,Rz,Rx,RO,r,s,al];exact ac ⟨trivial,b.app S aO,Qd (λK ⟨c,m,ad,T⟩=>⟨c,m,⟨ad.1,QR ad.2 ((b.ng S)).1⟩,(((b.ng S)).2 c ad).T T⟩)<|Qc ⟨aM,aN,Z,am,an.imp id λd=>⟨_,d,W S.size⟩⟩<|Qe⟩
 .exact Pv 5 0
 .exact Pv 13 8
 .intro J w b Q z j aa;have bk:=Sv 14 z 9;obtain⟨k,l,L,ae,aR⟩:=lg j 1;have bl:=Sl 12 L;have ao:=b.c;have bm:=kx ao 10;have bn:=kr ao 10;refine .h λaQ ac=>?_;go_simp;exact ac<|⟨k,l,(b.set yj.ok (λ_ d=>d.elim) (by have i:=ae;rw[L]at i;exact i) 10 _ Z).1,(b.set yj.ok (λ_ d=>d.elim) (by have i:=ae;rw[L]at i;exact i) 10 _ Z).2.1,(b.set yj.ok (λ_ d=>d.elim) (by have i:=ae;rw[L]at i;exact i) 10 _ Z).2.2,(by have i:=aR;rw[L]at i;exact i),(by rw[QW];exact b.s),(λc af u v=>(Q5 _ _ _ _ u).T<|b.k c af u v)⟩
 intro bo ap bp aS;have⟨k,l,aT,aq,aU,aV,bq,aW⟩:=aS;have aX:my p cb A r s B j C D E F G (k,a+1,l) (q++[x]) ap:=⟨aT,aq,aU,ah⟩
 have aY:nH cb (.slice e a f) w (k,a+1,l) ap:=⟨Y,λc af u v=>⟨(aW c Y u v).T<|U.B c af,λm=>by rcases aV with ag|⟨y,ag,i⟩;(rw[ag]at m;exact v m);(rw[ag]at m;injection m with m;omega)⟩⟩
 have br:IntKind.i64.wrap ((a:Int)+1-1)=(a:Int):=by have:=N.o.2;simp[IntKind.wrap,IntKind.bits,IntKind.signed];omega
 have bs:=kr aq 10;simp only[nE];go_wp21;go_ret;exact⟨Z,_,_,aX,aY,Z⟩
def Ge(J b c)(cb:Nat)(l m n p q r d e f g s)(i t:Nat)(u:List In)(A:List UInt8)(B:my b cb l m n p q r d e f g (.slice s i t) u c)(K:zU J b cb d e f g)(D:i<=100000):
  Calls prog 216 #[.pointer cb,tx A] c (uU b cb l m n p q r d e f g (.slice s i t) c (.tuple #[]) λC=>∃x,C=u++[x]/\mz x):=by
 have j:=B;have k:=K;have M:=kr B.c 6;have N:=kr B.c 8;have O:=kr B.c 9
 go_enter func216,ntmps216
 go_wp21;apply(mX j k.lJ k.params A).M;rintro v E ⟨F,rfl,rfl⟩;by_cases P:0<=F
 .go_wp21;apply(ln b c cb l m n p q r d e f g s i t u ⟨3,F,0,0⟩ j D).M;rintro v G ⟨rfl,w,C,y,z,rfl⟩;have a:=(GO y z)
  go_wp21
  go_end0
  exact⟨Z,w,_,a.1,a.2,_,Z,Ux⟩
 .go_wp21;apply(mX j k.lJ k.vars A).M;rintro v E ⟨I,rfl,rfl⟩;by_cases Q:0<=I
  .go_wp21;apply(ln b c cb l m n p q r d e f g s i t u ⟨2,I,0,0⟩ j D).M;rintro v G ⟨rfl,w,C,y,z,rfl⟩;have a:=(GO y z)
   go_wp21
   go_end0
   exact⟨Z,w,_,a.1,a.2,_,Z,Ux⟩
  go_wp21;apply(mX j k.lJ k.kN A).M;rintro v E ⟨L,rfl,rfl⟩;go_wp21;apply(ln b c cb l m n p q r d e f g s i t u ⟨4,L,0,0⟩ j D).M;rintro v G ⟨rfl,w,C,y,z,rfl⟩;have a:=(GO y z)
  go_wp21
  go_end0
  exact⟨Z,w,_,a.1,a.2,_,Z,Ux⟩
def xD(g:Nat)(N:∀i,g=i+1->LR i):LQ g:=by
 intro ad b ae af ag ah j k l m n p q r s aE e aF ai c O f aG z;have B:=f.len;have aH:=B.2;have C:Below b b<|b.alloc<|pa j k l m n p q r s:=Ba _ _;have P:=QT b<|pa j k l m n p q r s;have aj:(b.alloc<|pa j k l m n p q r s).heap.size=b+1:=Us
 have Q:=(O.kv C)
 have ak:=(f.ku (kP.ok .u8 g) λd t=>C.B d<|O.lJ d t)
 have al:=X B.1;have R:=X P;have am:=X z;have an:=X N;clear B P z N
 go_enter func219,ntmps219
 go_wp21;have⟨A,S⟩:=Xq b.heap.size;rw[<-S]at R aj⊢;have aI:b<=A:=Y
 generalize b.alloc (pa j k l m n p q r s)=u at*;have ao:A<u:=Y
 clear S;go_loopw [4,7,15] (λap aq D wr=>∃a:Nat,a<=e/\D=a/\ap=.int .u8 (C4 a c)/\aq=.bool true/\Below u u wr) (λ_ _ D _=>e-(intOf D).toNat)
 .exact⟨0,Q1 _,Z,Z,Z,Below.refl _ _⟩
 obtain⟨a,aJ,rfl,rfl,rfl,w⟩:=hrel;have aK:=w.size;have⟨⟨ar,au,av⟩,_⟩:=lf<|(w.B A ao).T R.o;have aL:A<wr:=Y;by_cases aM:a<e
 .obtain⟨x,E⟩:∃x,ai[a]?=some x:=Gx<|W al.o;have F:=Q.lJ;obtain⟨aN,aO,aP,rfl,aQ,aw,y⟩:=(ak.ku (kP.ok .u8 g) λd t=>w.B d<|F d t).ll (kP.ok .u8 g) a x E;obtain⟨i,v,rfl,rfl,f⟩:=aw.open;obtain⟨G,I,rfl,_⟩:=f.form;have ax:=y 0 _ Z;have aR:=y 1 _ Z;have aS:=y 2 _ Z;have ay:=y 3 _ Z;rw[Q3]at ax;have z:=am.o x<|QV E;have⟨J,K,L,T⟩:=x;simp only[Ex.op,Ex.name,Ex.n,Ex.args]at*;have⟨M,U⟩:=Xq T.length;rw[<-U]at ay f;clear U;have V:Below u u<|wr.alloc<|mu J K L G M I:=w.alloc Y _;have az:=(an.o i Z ad (wr.alloc<|mu J K L G M I) ae af ag ah j k l m n p q r s G M I J L K T c (Q.kv V) (f.ku (kP.ok .u8 i) λd t=>Q9 _ _<|W<|F d t) z)
  obtain⟨aT,aU⟩:=nL a e;clear y E F;go_wp21;apply az.M;rintro aV aW ⟨rfl,aA⟩;have aa:=(V.T<|aA.M<|by rw[QU];omega)
  by_cases ab:a=0
  .subst ab;have aB:((0:Int)==0)=true:=Z;go_wp2_with fail;go_roundw
   .exact⟨1,Y,Uv,Z,Z,aa⟩
   simp[intOf];omega
  have aB:((a:Int)==0)=false:=(by rw[QY];omega);have aC:C4 a c=c:=(by unfold C4;rw[Rl ab]);have ac:C4 (a+1) c=c:=(by unfold C4;rw[Rl Y]);have aD:=X ac;clear ac;rw[aC];go_wp2_with fail;go_roundw
  .exact⟨a+1,Y,Uv,by rw[aD.o],Us,aa⟩
  simp[intOf];omega
 obtain rfl:e=a:=Y;clear ar au av;go_wp21;refine Q0 (v:=.tuple #[.int .u8<|C4 e c,Em,.int .i64 0]) ?_ rfl ⟨Z,C.T<|w.M Y⟩;simp[results,Tryz.results219,go_sem]
structure wN(S:Nat->Prop)(w:World)(uN:List Fg)(Hj:List Va)(FK:List<|List UInt8)(sc:Sc)(AF:Option Addr)(nf cf:Nat)(AV:Option Addr)(nv cv:Nat)(AP:Option Addr)(np cp:Nat)(bb cb:Nat)(f0 f1 f2 f3 o0 o1 o2:Value)(pl:ByteArray)(cnt:Nat):Prop where
 sc:sg S w uN Hj FK sc AF nf cf AV nv cv AP np cp
 C5:ui cb f0 f1 f2 f3 w
 bd:Bd bb cb AF nf cf AV nv cv AP np cp o0 o1 o2 pl cnt w
 ne:bb≠cb
 lJ:∀q,S q->q≠bb/\q≠cb
def wN.kv{S w d e f g i}{j k:Nat}{l}{m n:Nat}{p}{q r:Nat}{b cb:Nat}{s t u v x y z A}{B:Nat}(a:wN S w d e f g i j k l m n p q r b cb s t u v x y z A B){w'}(c:Below w w w'):wN S w' d e f g i j k l m n p q r b cb s t u v x y z A B:=
 ⟨a.sc.kv c,a.C5.kv c a.C5.lt,⟨(c.B b (QS.1 a.bd.ll).1).T a.bd.ll⟩,a.ne,a.lJ⟩
structure ur(S:Nat->Prop)(w:World)(sc:Sc)(kF:List Co)(A3:Option Addr)(m3 c3:Nat)(o0 o1 o2:Value):Prop where
 cs:kz (mn .u8) S w (A3,m3,c3) kF
 len:kF.length<=3
 hd:1<=sc.ints->Hy sc kF
 own:∃c,kF[sc.own]?=some c/\wj S w c (.agg #[o0,o1,o2])
def ur.ku{S w w' b c d}{e f:Nat}{g i j}(a:ur S w b c d e f g i j)(k:∀q,S q->w'.heap[q]?=w.heap[q]?):ur S w' b c d e f g i j:=by have⟨l,m,n⟩:=a.own;exact⟨a.cs.ku (mn.ok _) k,a.len,a.hd,l,m,n.ku k⟩
def Dk(e:Sc)(f:List Co)(a:St):Prop:=a.kind=6/\a.th=[]/\a.el=[]/\(∃(b:Co) (d:Hd),(f.find? λc=>c.name==a.name)=some b/\b.lH.length<=1000/\(∀g∈b.lH,g.length<=1000)/\(b.lH.flatten.find? λc=>c.name==a.hd)=some d/\a.lp.length=d.params.length)/\a.lp.length<=5/\∀i∈a.lp,lM e De i
def Hk(a:Sc)(c:List Co)(d:Nat)(b:St):Prop:=(mP a d b/\1<=a.ints)\/(0<d/\Dk a c b)
def ur.send{n:Nat->Prop}{p:World}{b:Sc}{d:List Co}{q:Option Addr}{r s:Nat}{t u v:Value}(g:ur n p b d q r s t u v)(w:1<=b.ints){x:Nat}{e:St}(y:mP b (x+1) e)(z:e.kind=6):Dk b d e:=by
 have⟨A,T,B,C⟩:=g.hd w;rcases y with⟨a,_⟩|⟨a,_⟩|⟨a,_⟩|⟨a,_⟩|⟨a,_⟩|⟨a,D,E,⟨i,j,U,k,f,l,F,G,I⟩,J⟩|⟨a,_⟩|⟨a,_⟩|⟨a,_⟩|⟨a,_⟩
 case inr.inr.inr.inr.inr.inl=>obtain⟨c,m⟩:∃c,d[i]?=some c:=Gx<|W<|(Rg.1 f).1;have⟨K,L,M,N,O⟩:=C i c j m f;have⟨P,Q,R⟩:=H9 L K M l;have S:=Ia g.len A m;have V:k<=2:=B j (QV f) k<|QV l;exact⟨a,D,E,⟨c,P,by rw[F];exact S,N,O,by rw[G];exact Q,by rw[I,R,lO]⟩,Y,J⟩
 all_goals
  rw[z]at a;exact absurd a Ur
def nZ.kv{xQ w w'}{B:Nat}(a:nZ xQ w w')(b:B<=w)(c:∀k,xQ k->B<=k):Below B w w':=⟨a.os,a.tape,a.output,a.size,λk d=>a.B k (QR d b) λe=>W<|c k e⟩
def wN.but{x y z A B C e}{f g:Nat}{i}{j k:Nat}{l}{m n:Nat}{c a:Nat}{p q r s t u v I}{J:Nat}{D}{E:Nat}(b:wN x y z A B C e f g i j k l m n c a p q r s t u v I J){d}(F:nZ (Bb c a) y d)(K:ui a p q r s d)(L:Bd c a e f g i j k l m n t u v D E d):wN x d z A B C e f g i j k l m n c a p q r s t u v D E:=
 ⟨b.sc.ku (λw G=>F.B w (b.sc.lJ w G) (λhx=>by have:=b.lJ w G;rcases hx with hx|hx;exact this.1 hx;exact this.2 hx)) F.size,K,L,b.ne,b.lJ⟩
def wN.blk{b w i j k l m}{n p:Nat}{q}{r s:Nat}{t}{u v:Nat}{c d:Nat}{x y z A B C D E}{F:Nat}(e:wN b w i j k l m n p q r s t u v c d x y z A B C D E F){f}(G:nZ (Bb c d) w f):∀a,b a->f.heap[a]?=w.heap[a]?:=
 λa g=>G.B a (e.sc.lJ a g) (λhx=>by have:=e.lJ a g;rcases hx with hx|hx;exact this.1 hx;exact this.2 hx)
def wN.ll{S w i j k l m}{n p:Nat}{q}{r s:Nat}{t}{u v:Nat}{b cb:Nat}{c d e f x y z A}{B:Nat}(a:wN S w i j k l m n p q r s t u v b cb c d e f x y z A B){w'}(D:ui cb c d e f w')(C:w.grownBy w'<|some cb):wN S w' i j k l m n p q r s t u v b cb c d e f x y z A B:=
 a.but (.grown C<|.inr Z) D ⟨(C.B b (QS.1 a.bd.ll).1<|by intro g;injection g with g;exact a.ne g).T a.bd.ll⟩
def wN.inc{c d e f g i j}{k l:Nat}{m}{n p:Nat}{q}{r s:Nat}{b t:Nat}{u v w x y z A B}{D:Nat}(a:wN c d e f g i j k l m n p q r s b t u v w x y z A B D){C:Nat}:wN c (d.setCell ⟨b,8,none⟩<|.int .i64<|(C:Int)+1) e f g i j k l m n p q r s b t u v w x y z A B<|C+1:=
 a.but (.set (.inl Z)) (a.C5.ku<|Rf _ _ _ _ λE=>a.ne E.symm) ⟨kt a.bd.ll⟩
def KB(d:Nat->Prop)(e:List Fg)(f:List Va)(g:List<|List UInt8)(i:Sc)(j:Option Addr)(k l:Nat)(m:Option Addr)(n p:Nat)(q:Option Addr)(r s:Nat)(a b:Nat)(t u v w x y z:Value)(A:ByteArray)(B:Nat)(C:World)(D:Ending)(c:World):Prop:=D=.returned (.tuple #[])/\wN d c e f g i j k l m n p q r s a b t u v w x y z A B/\nZ (Bb a b) C c
def Hk.sub{e:Sc}{f:List Co}{d:Nat}{g:St}(c:Hk e f (d+1) g):(∀a∈g.th,Hk e f d a)/\∀a∈g.el,Hk e f d a:=by
 rcases c with⟨c,i⟩|⟨_,_,j,k,_⟩
 exact⟨λa b=>.inl ⟨c.sub.1 a b,i⟩,λa b=>.inl ⟨c.sub.2 a b,i⟩⟩;exact⟨λa b=>(by rw[j]at b;cases b),λa b=>(by rw[k]at b;cases b)⟩
def Hk.zero{b:Sc}{c:List Co}{d:St}(a:Hk b c 0 d):False:=by
 rcases a with⟨a,_⟩|⟨a,_⟩
 exact a;omega
def BR{b:Sc}{c:List Co}:∀{d:Nat} {l:List St},(∀a∈l,Hk b c d a)->l.length<=kT d l
 |0,l,h=>by cases l with|nil=>simp|cons a l=>exact(h a<|Ss ..).zero.elim
 |d+1,[],_=>by simp
 |d+1,a::l,h=>by have:=BR (d:=d+1) (l:=l) λe f=>h e<|SY _ f;simp only[kT,Rx,Ue,Rn]at this⊢;omega
def Mo(d:Nat):Prop:=∀(b:Nat->Prop) (a:World) (n:List Fg) (p:List Va) (q:List<|List UInt8) (c:Sc) (r:Option Addr) (s t:Nat) (u:Option Addr) (v w:Nat) (x:Option Addr) (y z:Nat) (f A:Nat) (B C D g i j k:Value) (l:ByteArray) (m:Nat) (E:List Co) (F:Option Addr) (G I:Nat) (J:Option Addr) (K L:Nat) (e:List St),wN b a n p q c r s t u v w x y z f A B C D g i j k l m->ur b a c E F G I i j k->g=.slice F G I->kz (kR .u8 d) b a (J,K,L) e->(∀M∈e,Hk c E d M)->m+kT d e<=90->l.size<=100000000->
 Calls prog 178 #[.pointer f,(J,K,L)] a (KB b n p q c r s t u v w x y z f A B C D g i j k l (m+kT d e) a)
structure lI.OJ(uN:List Fg):Prop where
 len:uN.length<=2
 vH:∀k x,uN[k]?=some x->pj (uN.take k) x.name=false/\x.name.length<=10
def lI.rD.t{b:Nat}{c:List Fg}(e:b<=2)(a:rD b c):OJ c:=
 ⟨by rw[a.1];exact e,λf g d=>⟨Mp Y a d,by rw[a.2 f g d];simp[nm]⟩⟩
def CD(l:Nat->Prop)(b:World)(m:Option Addr)(e n:Nat)(j:List Lk)(g:Lk)(c:Nat)(p:kz nV l b (m,e,n) j)(R:e<=1000)(t:∀i,l i->i<b)(u:b.cell? c=some (tx g.a))(v:b.cell? ⟨c,1,none⟩=some (tx g.b))(q:c<b)(w:∀a∈j,(a.a,a.b)≠(g.a,g.b)):
  Calls prog 177 #[(m,e,n),.func (.func 133) #[] #[.pointer c]] b (kH (.int .i64<|-1) b):=by
 have x:=Gi;unfold mQ at x;have y:=p.len;have z:=y.1;have A:=p;have B:=t;have C:=u;have D:=v;have E:=w
 go_enter func177,ntmps177
 go_wp2;go_loopw [8] (λk wr=>∃d:Nat,d<=e/\k=d/\Below b b wr) (λk _=>e-(intOf k).toNat)
 .exact⟨0,Q1 _,Z,Below.refl _ _⟩
 obtain⟨d,S,rfl,f⟩:=hrel;have F:=f.size;have G:=((Cb c 0<|f.B c q).T C)
 have I:=((Cb c 1<|f.B c q).T D)
 by_cases T:d<e
 .obtain⟨a,r⟩:∃a,j[d]?=some a:=Gx<|W z;obtain⟨U,V,J,rfl,aa,K,L⟩:=(A.ku nV.ok λi M=>f.B i<|B i M).ll nV.ok d a r;have N:J=[tx a.a,tx a.b,.int .i64 a.tF]:=K;subst N;have O:=L 0 _ Z;rw[Q3]at O;have P:=(KC a g c wr G I Y<|E a<|QV r)
  go_wp2_with (apply P.M;rintro ab ac ⟨rfl,s⟩;have Q:=(f.T<|s.M F);clear s);go_roundw
  .exact⟨d+1,Y,Uv,Q⟩
  simp[intOf];omega
 obtain rfl:e=d:=Y;go_wp2;go_ret;exact⟨Z,f⟩
def xX(e:Nat->Prop)(a:World)(f:Option Addr)(d g:Nat)(i:List Lk)(b:Lk)(c:Nat)(l:kz nV e a (f,d,g) i)(m:d<=1000)(n:∀j,e j->j<a)(p:a.cell? c=some (tx b.a))(q:a.cell? ⟨c,1,none⟩=some (tx b.b))(r:c<a)(s:∀k∈i,(k.a,k.b)≠(b.a,b.b)):
  Calls prog 134 #[(f,d,g),.func (.func 133) #[] #[.pointer c]] a (kH (.bool false) a):=by
 have t:=(CD e a f d g i b c l m n p q r s)
 go_enter func134,ntmps134
 go_wp21;apply t.M;rintro v w ⟨rfl,u⟩;go_wp21;go_ret;exact⟨Z,u⟩
structure lI.OL(JW:List Lk)(kF:List Co):Prop where
 len:JW.length<=90
 each:∀k x,JW[k]?=some x->x.a.length=1/\x.b.length=1/\(∃c,(kF.find? λy=>y.name==x.a)=some c)/\(∃c,(kF.find? λy=>y.name==x.b)=some c)/\∀y∈JW.take k,(y.a,y.b)≠(x.a,x.b)
def nQ.t{n:Nat}{c:List Lk}{a:List Co}(e:nQ n (n*n) c)(m:c.length<=90)(r:n<=3)(s:a.length=n)(p:∀(i:Nat) (b:Co),a[i]?=some b->b.name=kV i):OL c a:=by
 have f:∀i,i<n->∃b,(a.find? λd=>d.name==kV i)=some b:=λi t=>⟨_,Ia Y p<|Q7 Y⟩
 refine⟨m,λu d g=>?_⟩;have⟨v,w,j,k,l,_⟩:=e.1 d<|QV g;have q:0<n:=by rcases Su n with h|h;rw[h]at j;omega;exact h
 exact⟨by rw[k];rfl,by rw[l];rfl,k▸f _ (T9 j),l▸f _ (Tv _ q),NX e g⟩
def lI.KE{b e f:Nat}{c}{l:Nat}{g}(m:rD l g)(n:1<=b)(p:b<=3)(q:e<=1)(k:(ny b e)[f]?=some c):(((ny b e).take f).find? λi=>i.name==c.name)=none/\pj g c.name=false/\c.name.length=2:=by
 have r:=(List.getElem?_eq_some_iff.1 k).1;rw[rK]at r;have a:=List.all_eq_true.1 (IJ b e n p q) f<|List.mem_range.2 Y;rw[k]at a;simp only[Bool.and_eq_true,Option.isNone_iff_eq_none,beq_iff_eq,bne_iff_ne]at a;refine⟨a.1.1,?_,a.2⟩;cases d:pj g c.name with
 |false=>rfl
 |true=>unfold pj at d;rw[List.any_eq_true]at d;have⟨i,s,j⟩:=d;have⟨t,d⟩:=List.getElem?_of_mem s;rw[m.2 t i d]at j;rw[beq_iff_eq]at j;rw[<-j]at a;exact absurd Z a.1.2
def lI.NY{k f b}(r:f.length<=3)(g:tr k f b){c:Nat}{d}(l:b[c]?=some d):((([b.take c]:List<|List Hd).flatten).find? λe=>e.name==d.name)=none:=by
 rw[List.find?_eq_none];intro e i j;rw[List.flatten_cons,List.flatten_nil,List.append_nil]at i;have⟨m,a⟩:=List.getElem?_of_mem i;rw[List.getElem?_take]at a;split at a;case isFalse=>simp at a
 case isTrue s=>have⟨t,u,n,_⟩:=g m e a;have⟨v,p,q,_⟩:=g c d l;have w:=(List.getElem?_eq_some_iff.1 p).1;rw[n,q,beq_iff_eq]at j;have:=Ib Y Y j;omega
def lI.KF{m:Sc}{f:List Nat}{d:List<|List Hd}(C:f.length<=3)(g:∀a∈d,tr m f a){a:List Hd}{i n:Nat}{c e:Hd}(p:a∈d)(q:a[i]?=some c)(j:((d.take n).flatten.find? λr=>r.name==c.name)=some e):e.params.length=c.params.length:=by have⟨s,t,u⟩:=List.mem_flatten.1<|List.mem_of_find?_eq_some j;have k:=List.find?_some j;have⟨v,w⟩:=List.getElem?_of_mem u;have⟨D,l,x,y,_⟩:=g s (List.mem_of_mem_take t) v e w;have⟨E,b,z,A,_⟩:=g a p i c q;have F:=(List.getElem?_eq_some_iff.1 l).1;have G:=(List.getElem?_eq_some_iff.1 b).1;rw[x,z,beq_iff_eq]at k;have B:=Ib Y Y k;subst B;rw[l]at b;injection b with b;rw[y,A,b]
def Hy.of{f:List Co}{q:Nat}{d:List<|List Nat}(k:Sc)(r:k.oa=d)(l:∀(i:Nat) (b:Co),f[i]?=some b->yo q d i b)(s:d.length=f.length)(m:∀a∈d,1<=a.length/\a.length<=3/\∀g∈a,g<=2):Hy k f:=by subst r;refine⟨λi b c=>?_,s.symm,λa j=>(m a j).2.2,λi b t u n=>?_⟩;have⟨_,_,_,_,_,_,c,_⟩:=(l i b c).ex;exact c;have⟨E,F,G,_,_,_,_,_,I,J,e,p,v⟩:=(l i b u).ex;rw[n]at e;injection e with e;subst e;have w:=(m t<|QV n).2.1;refine⟨w,λx y z c A=>?_,v,Y,λa j=>W<|(p a j).2.1⟩;have⟨g,B,C,D,_⟩:=(p x y).2.2 z c A;exact⟨g,B,C,D⟩
structure Nu(uN:List Fg)(kF:List Co)(k:Nat)(co:Co):Prop where
 nl:co.name.length<=12
 new:((kF.take k).find? λx=>x.name==co.name)=none
 QJ:pj uN co.name=false
 nv:co.vars.length<=5
 vars:∀j x,co.vars[j]?=some x->((co.vars.take j).find? λy=>y.name==x.name)=none/\pj uN x.name=false/\x.name.length<=12
 QK:co.lH.length<=2
 hs:∀l∈co.lH,l.length<=3
 hd:∀l∈co.lH,∀j x,l[j]?=some x->x.name.length<=12/\((([l.take j]:List<|List Hd).flatten).find? λy=>y.name==x.name)=none/\(∀v y,((co.lH.take v).flatten.find? λz=>z.name==x.name)=some y->y.params.length=x.params.length)/\kT Ds x.body<=12/\
  ∃sc:Sc,sc.own=k/\J5 sc uN co.vars x.params/\(∀s∈x.body,Hk sc kF Ds s)/\(1<=sc.ints->Hy sc kF)
def Nu.of{w:List Fg}{c:List Co}{g:Nat}{d:List<|List Nat}{k:Nat}{l:Co}(m:rD g w)(D:g<=2)(E:c.length<=3)(n:∀(i:Nat) (b:Co),c[i]?=some b->yo g d i b)(F:d.length=c.length)(p:∀a∈d,1<=a.length/\a.length<=3/\∀j∈a,j<=2)(x:c[k]?=some l):Nu w c k l:=by
 have G:=(Rg.1 x).1;have I:∀(i:Nat) (b:Co),c[i]?=some b->b.name=kV i:=λi b q=>by have⟨_,_,_,_,_,_,q,_⟩:=(n i b q).ex;exact q
 have⟨J,K,L,r,y,z,s,t,ac,M,N,u,ad⟩:=(n k l x).ex;have v:=p L<|QV N;refine⟨by rw[s];simp[kV],by rw[s];exact II E G I,by rw[s];exact KD m,by rw[t,rK];omega,λA B e=>?_,M,λa f=>W<|(u a f).2.1,λa f A B e=>?_⟩;rw[t]at e⊢;have⟨O,P,ae⟩:=KE m r y z e;exact⟨O,P,Y⟩;have⟨_,_,C⟩:=u a f;have⟨j,Q,R,S,T,af⟩:=C A B e;have U:oP (⟨J,K,g,j,d,k⟩:Sc):=⟨r,y,z,D,v.2.2 j<|QV Q,by show k<d.length;omega,by show d.length<=3;omega,p⟩
 refine⟨by rw[R];simp[nm],NY v.2.1 C e,λag ah V=>KF v.2.1 (λa f=>(u a f).2.2) f e V,Y,_,Z,?_,λaa ab=>.inl ⟨T aa ab,r⟩,λ_=>Hy.of _ Z n F p⟩;rw[t,S];exact oP.JX U m
def KH(b:List UInt8)(c d e)(q:d.oneCell'=true)(r:e.oneCell'=true)(g)(i j:Nat)(k)(l m:Nat)(n:d=.slice g i j)(p:e=.slice k l m)(f:Nat)(a)(s:a.cell? ⟨f,1,none⟩=some (tx c))(t:f<a.heap.size):
  Calls prog 199 #[.agg #[tx b,d,e],.pointer f] a (kH (.bool<|b==c) a):=by
 subst n p;have u:=nG b;have v:=nG c
 go_enter func199,ntmps199
 go_wp2;go_ret;exact⟨Z,Ba _ _⟩
def CE(u c v)(e w:Nat)(n j)(g:Nat)(x:kz (mn .u8) u c (.slice v e w) n)(ai:e<=1000)(K:∀q,u q->q<c)(L:c.cell? ⟨g,1,none⟩=some (tx j))(M:g<c)(N:∃a∈n,a.name=j):
  Calls prog 198 #[.slice v e w,.func (.func 199) #[] #[.pointer g]] c λf O=>∃r:Nat,r<e/\f=.returned (.int .i64 (r:Int))/\Below c c O:=by
 have P:=Gk;unfold mQ at P;have Q:=x.len;have y:=Q.1;have R:=x;have S:=K;have T:=L;have U:=N
 go_enter func198,ntmps198
 go_wp2;go_loopw [8] (λs wr=>∃b:Nat,b<=e/\s=b/\(∀d a,d<b->n[d]?=some a->a.name≠j)/\Below c c wr) (λs _=>e-(intOf s).toNat)
 .exact⟨0,Q1 _,Z,λd a p=>Y,Below.refl _ _⟩
 obtain⟨b,aj,rfl,z,k⟩:=hrel;have A:=k.size;have V:=((Cb g 1<|k.B g M).T T)
 by_cases aa:b<e
 .obtain⟨a,B⟩:∃a,n[b]?=some a:=Gx<|W y;obtain⟨ak,al,r,rfl,am,ab,ac⟩:=(R.ku (mn.ok _) λq i=>k.B q<|S q i).ll (mn.ok _) b a B;obtain⟨C,D,E,F,G,I,rfl,_,_⟩:=ab.ri;have ad:=ac 0 _ Z;rw[Q3]at ad;have J:=(KH a.name j (C,D,E) (F,G,I) Z Z C D E F G I Z Z g wr V Y)
  cases i:(a.name==j)
  .go_wp2_with (apply J.M;rw[i];rintro f ae ⟨rfl,l⟩;have t:=(k.T<|l.M A);clear l);go_roundw
   .refine⟨b+1,Y,Uv,λd af p m=>?_,t⟩;by_cases f:d=b;rw[f,B]at m;injection m with m;rw[<-m];intro ag;rw[ag]at i;simp at i;exact z d af Y m
   simp[intOf];omega
  go_wp2_with (apply J.M;rw[i];rintro f ae ⟨rfl,l⟩;have t:=(k.T<|l.M A);clear l);go_ret;exact⟨b,aa,Z,t⟩
 have⟨a,ah,f⟩:=U;have⟨d,p⟩:=Ta ah;exact absurd f<|z d a (Up ((Rg.1 p).1) y) p
def lI.C6.len{b}:∀{d:Nat} {l:List St},(∀a∈l,C6 b d a)->l.length<=kT d l
 |0,l,h=>by cases l with|nil=>simp|cons a l=>exact(h a<|List.mem_cons_self ..).elim
 |d+1,[],_=>by simp
 |d+1,a::l,h=>by have:=C6.len (d:=d+1) (l:=l) λc e=>h c<|List.mem_cons_of_mem _ e;simp only[kT,List.map_cons,List.sum_cons,List.length_cons]at this⊢;omega
def pK.ok:lh pK 1:=
 ⟨Y,λ⟨b,a,_⟩=>by rw[a];rfl,λ⟨b,a,c⟩ g d=>by rw[a]at d;simp at d;subst d;exact c.one,λ⟨b,a,c⟩ e=>⟨b,a,c.M kO.ok e⟩,λ⟨b,a,c⟩ f=>⟨b,a,c.ku kO.ok f⟩⟩
structure FP(S:Nat->Prop)(w3:World)(f3 hd own:Value)(kF:List Co)(nl:List<|List<|List UInt8)(o:Nat):Prop where
 cs:∃(A3:Option Addr) (c3:Nat),f3=.slice A3 kF.length c3/\kz (mn .u8) S w3 f3 kF
 len:kF.length<=3
 ns:∃(Ah:Option Addr) (ch:Nat),hd=.slice Ah kF.length ch/\kz pK S w3 hd nl
 ND:∀l∈nl,l.length<=1000
 own:own=o/\o<kF.length
def Mq(f:World)(a:Nat)(g i j k l m n p q r:Value)(s:Value)(t:World)(u:List In->Nat->Prop)(v:Ending)(b:World):Prop:=∃c:Nat,v=.returned (.int .i64 (c:Int))/\∃d e,my f a g i j k l m n p q r d e b/\nH a s t d b/\u e c
abbrev HP(t:(Nat->Prop)->World->World->Nat->Value->Value->Value->Value->Value->Value->Value->Value->Value->Value->Value->List In->List Co->Prop):Prop:=
 ∀(b:Nat->Prop) (a l:World) (c:Nat) (m n p d e f g i j k q:Value) (r:List In) (s:List Co) (u:List<|List<|List UInt8) (o:Nat),my a c m n p d e f g i j k q r l->zU b a c g i j k->FP b a d e f s u o->t b a l c m n p d e f g i j k q r s
def E0(d:Nat):Prop:=HP λk b c e l m n p q r s t u v w f x=>∀(g:Option Addr) (i j:Nat) (a:List St),kz (kR .u8 d) k b (g,i,j) a->(∀y∈a,C6 x d y)->f.length+400*kT d a<=90000->
 Calls prog 138 #[.pointer e,(g,i,j)] c (uU b e l m n p q r s t u v w c (.tuple #[])<|na f<|400*kT d a)
def Ic(a:Nat):Prop:=HP λl c d e m n p q r s t u v w x f y=>∀(g:Option Addr) (i j:Nat) (b:List St),kz (kR .u8 a) l c (g,i,j) b->(∀z∈b,C6 y a z)->f.length+400*kT a b+1<=90000->
 Calls prog 197 #[.pointer e,(g,i,j)] d (Mq c e m n p q r s t u v w x d λk A=>na f (400*kT a b+1) k/\A<=k.length)
def LU(d:Nat):Prop:=HP λf b g i y z A B C D E F G I J j K=>∀(k:Int) (l m:List UInt8) (n:List Ex) (c e:List St) (p:Option Addr) (q r:Nat) (s:Option Addr) (t u:Nat) (v:Option Addr) (w x:Nat) (a:Nat),d=a+1->kz (kP .u8 De) f b (p,q,r) n->kz (kR .u8 a) f b (s,t,u) c->kz (kR .u8 a) f b (v,w,x) e->C6 K d (.mk k l m n c e)->j.length+400*(1+kT a c+kT a e)<=90000->
 Calls prog 179 #[.pointer i,.agg #[.int .u8 k,tx l,tx m,(p,q,r),(s,t,u),(v,w,x)]] g (uU b i y z A B C D E F G I J g (.tuple #[])<|na j<|400*(1+kT a c+kT a e))
def Gm:LU 0:=λ_ _ _ _ _ _ _ _ _ _ _ _ _ _ _ _ _ _ _ _ _ _ _ _ _ _ _ _ _ _ _ _ _ _ _ _ _ _ b a=>absurd a Y
def DW(b:In)(i:Nat)(j:World)(e:pI i b):
  Calls prog 182 #[.agg #[.int .u8 b.op,b.a,b.b,b.n]] j (Mr i j):=by
 have⟨_,_,f,g⟩:=e;have⟨a,c,d,p⟩:=b;simp only at f g⊢;by_cases k:a=27
 .subst k
  go_enter func182,ntmps182
  go_wp2;refine Q0 (v:=.tuple #[.int .i64 c,true]) ?_ rfl ⟨c,true,Z,Ba _ _,λ_=>f Us⟩;simp[results,Tryz.results182,go_sem]
 by_cases l:a=28
 .subst l
  go_enter func182,ntmps182
  go_wp2;refine Q0 (v:=.tuple #[.int .i64 c,true]) ?_ rfl ⟨c,true,Z,Ba _ _,λ_=>f Us⟩;simp[results,Tryz.results182,go_sem]
 by_cases m:a=32
 .subst m
  go_enter func182,ntmps182
  go_wp2;refine Q0 (v:=.tuple #[.int .i64 d,true]) ?_ rfl ⟨d,true,Z,Ba _ _,λ_=>g Us⟩;simp[results,Tryz.results182,go_sem]
 by_cases n:a=33
 .subst n
  go_enter func182,ntmps182
  go_wp2;refine Q0 (v:=.tuple #[.int .i64 d,true]) ?_ rfl ⟨d,true,Z,Ba _ _,λ_=>g Us⟩;simp[results,Tryz.results182,go_sem]
 have q:(a==27)=false:=by simpa using k
 have r:(a==28)=false:=by simpa using l
 have s:(a==32)=false:=by simpa using m
 have t:(a==33)=false:=by simpa using n
 go_enter func182,ntmps182
 go_wp2;refine Q0 (v:=.tuple #[.int .i64 0,false]) ?_ rfl ⟨0,false,Z,Ba _ _,λe=>by cases e⟩;simp[results,Tryz.results182,go_sem]
structure pJ(w:World):Prop where
 lt:5<w.heap.size
 ll:∀k:Nat,k<=34->∃(t u:ByteArray) (p q:Int),w.cell? ⟨5,k*4,none⟩=some (.string t)/\w.cell? ⟨5,k*4+1,none⟩=some (.string u)/\w.cell? ⟨5,k*4+2,none⟩=some (.int .i64 p)/\w.cell? ⟨5,k*4+3,none⟩=some (.int .i64 q)
def pJ.ku{w w'}(c:pJ w)(b:w'.heap[(5:Nat)]?=w.heap[(5:Nat)]?)(d:w.heap.size<=w'.heap.size):pJ w':=
 ⟨QR c.lt d,λa e=>by have⟨f,g,i,j,k,l,m,n⟩:=c.ll a e;exact⟨f,g,i,j,(Cb 5 (a*4) b).T k,(Cb 5 (a*4+1) b).T l,(Cb 5 (a*4+2) b).T m,(Cb 5 (a*4+3) b).T n⟩⟩
def KJ(a:Nat)(i:a<=34)(b)(c:pJ b):
  Calls prog 181 #[.int .u8 (a:Int)] b (KI b):=by
 have⟨d,e,f,g,j,k,l,m⟩:=c.ll a i;have n:=c.lt
 go_enter func181,ntmps181
 go_wp2;refine Q0 (v:=.agg #[.string d,.string e,f,g]) ?_ rfl ⟨d,e,f,g,Z,?_⟩
 .simp[results,Tryz.results181,go_sem]
 .exact Ba _ _
structure rY(hb hh n:Nat)(w:World):Prop where
 var:w.heap[hb]?=some (.cells #[(hh,n,n)] 69)
 row:∃l:List Int,l.length=n/\w.heap[hh]?=some (.cells (qa l) 3 (0,0))
 ne:hb≠hh
def rY.get{g a d:Nat}{w}(c:rY g a d w){i:Nat}(m:i<d):∃b:Int,w.cell? ⟨a,i,none⟩=some (.int .i64 b)/\w.frozen? ⟨a,i,none⟩=false/\∀e:Int,rY g a d<|w.setCell ⟨a,i,none⟩<|.int .i64 e:=by have⟨j,k,f⟩:=c.row;obtain⟨b,l⟩:∃b,j[i]?=some b:=Gx Y;refine⟨b,kB f i _<|IK l,kx f i,λe=>⟨(Rf _ _ _ _ c.ne).T c.var,⟨j.set i e,by simpa using k,?_⟩,c.ne⟩⟩;rw[<-Gn];exact kt f
def Mt(c a d:Nat)(e:World)(f:Ending)(b:World):Prop:=∃g:Bool,f=.returned (.bool g)/\rY c a d b/\e.grownBy b (some a)
def uF(b d a i:Nat)(v:Int)(c)(e:rY b d a c)(f:i<a)(l:a<=1000000):
  Calls prog 180 #[.int .i64 (i:Int),v,.pointer b] c (Mt b d a c):=by
 have⟨g,m,n,j⟩:=e.get f;have p:=kr e.var 0
 have k:=(j v)
 by_cases q:g<0;iterate 2
  .go_enter func180,ntmps180
   go_wp2;go_ret;exact⟨_,Z,k,kE _ _ _ _⟩
def IL:(prog.info? 3).map (λa=>(a.zero,a.size,a.bytes))=some (some<|.int .i64 0,1,8):=Ut
def Gq(a:Nat)(i:a<=100001)(b):(Instr.makeSlice 69 (.int .i64 (a:Int))<|.int .i64 (a:Int)).run prog b=.ok (.slice b a a) (b.alloc<|.cells (qa<|List.replicate a 0) 3):=by have⟨d,e,f,c,g⟩:=Rm IL;have:=Sw (P:=prog) b 69 3 d (.int .i64 0) underlying69 e f .i64 .i64 (a:Int) (a:Int) Y (SH _) (by rw[c];simp;omega) (by rw[g];omega) Y;rw[c,RA,RV]at this;rw[this,<-Gp];rfl
def rY.kv{b c n:Nat}{w w'}(a:rY b c n w)(d:Below w w w'):rY b c n w':=by have⟨f,g,e⟩:=a.row;exact⟨(d.B _ (QS.1 a.var).1).T a.var,⟨f,g,(d.B _ (QS.1 e).1).T e⟩,a.ne⟩
def ot.ku{S w w' v}(a:ot S w v)(b:∀q,S q->w'.heap[q]?=w.heap[q]?):ot S w' v:=by have⟨c,d,e,f,g,i,j⟩:=a;exact⟨c,d,e,f,g,i.ku kO.ok b,j⟩
def Mv(c:World)(a d:Nat)(e f g i j k l m n:Value)(p:Ending)(b:World):Prop:=
 ∃(q:Int) (r:Option Addr) (s t:Nat),p=.returned (.agg #[.int .i64 (d:Int),q,(r,s,t)])/\c.grownBy b (some a)/\∃u v:Value,b.heap[a]?=some (.cells #[e,f,g,i,j,k,l,m,n,u,v] 140)
def lI.mW(l:List<|List UInt8)(hs:List Hd):List<|List UInt8:=hs.foldl (λl a=>pY l a.name) l
def lI.lK(l:List<|List UInt8)(vs:List<|List Hd):List<|List UInt8:=vs.foldl mW l
def lI.tZ:∀{hs:List Hd} {l:List<|List UInt8} {a:List UInt8},a∈l->a∈mW l hs
 |[],_,_,h=>h
 |x::hs,l,a,h=>tZ (hs:=hs) (l:=pY l x.name)<|IQ h
def lI.xF:∀{hs:List Hd} {l:List<|List UInt8} {a:Hd},a∈hs->a.name∈mW l hs
 |y::hs,l,a,h=>by rcases List.mem_cons.1 h with rfl|h;exact tZ (hs:=hs) (l:=pY l a.name)<|xh _ _;exact xF (hs:=hs) (l:=pY l y.name) h
def lI.xG:∀{vs:List<|List Hd} {l:List<|List UInt8} {a:List UInt8},a∈l->a∈lK l vs
 |[],_,_,h=>h
 |x::vs,l,a,h=>xG (vs:=vs) (l:=mW l x)<|tZ h
def lI.xH:∀{vs:List<|List Hd} {l:List<|List UInt8} {a:List Hd} {b:Hd},a∈vs->b∈a->b.name∈lK l vs
 |y::vs,l,a,b,h,hx=>by rcases List.mem_cons.1 h with rfl|h;exact xG (vs:=vs) (l:=mW l a)<|xF hx;exact xH (vs:=vs) (l:=mW l y) h hx
def lI.xI:∀b a,(mW a b).length<=a.length+b.length
 |[],a=>by simp[mW]
 |x::b,a=>by have c:=xI b<|pY a x.name;have d:=IP a x.name;show(mW (pY a x.name) b).length<=_;simp only[List.length_cons];omega
def lI.rM:∀b a,(∀c∈b,c.length<=100)->(lK a b).length<=a.length+100*b.length
 |[],a,_=>by simp[lK]
 |x::b,a,h=>by have f:=rM b (mW a x) λd e=>h d<|List.mem_cons_of_mem _ e;have g:=xI x a;have i:=h x<|List.mem_cons_self ..;show(lK (mW a x) b).length<=_;simp only[List.length_cons];omega
def yq.ok(k:Nat)(b:0<k):lh (yq k) k:=⟨b,λa=>a.1,λa=>a.2,λa _=>a,λa _=>a⟩
def nN.get{d w}{b a:Nat}(e:nN d w b a){i:Nat}(f:i<a):(∃u,w.cell? ⟨b,i,none⟩=some u)/\w.frozen? ⟨b,i,none⟩=false:=by have⟨g,c,j,_⟩:=e;exact⟨⟨_,kB c i _<|Sp Y⟩,kx c i⟩
def nN.lt{T w}{b n:Nat}(a:nN T w b n):b<w:=by have⟨d,c,_⟩:=a;exact(QS.1 c).1
def BS:(prog.info? 209).map (λa=>(a.zero,a.size,a.bytes))=some (some<|.agg #[.int .i64 0,.int .i64 0,Nl],3,40):=Ut
def BU:(prog.info? 4).map (λa=>(a.zero,a.size,a.bytes))=some (some<|.bool false,1,1):=Ut
def Mw:(prog.info? 205).map (λi=>(i.zero,i.size,i.bytes))=some (some Nl,1,24):=Ut
def Mx:(prog.info? 206).map (λi=>(i.zero,i.size,i.bytes))=some (some Nl,1,24):=Ut
def DY(a:Nat)(g:a<=1000)(w):(Instr.makeSlice 205 (.int .i64 (a:Int))<|.int .i64 (a:Int)).run prog w=.ok (.slice w a a) (w.alloc<|.cells (madeCells #[.int .i64 0,.int .i64 0,Nl]<|a*3) 209):=by have⟨c,d,e,b,f⟩:=Rm BS;have:=Sw (P:=prog) w 205 209 c _ underlying205 d e .i64 .i64 (a:Int) (a:Int) Y (SH _) (by rw[b];simp;omega) (by rw[f];omega) Y;rw[b,RV]at this;exact this
def DZ(a:Nat)(g:a<=1000)(w):(Instr.makeSlice 206 (.int .i64 (a:Int))<|.int .i64 (a:Int)).run prog w=.ok (.slice w a a) (w.alloc<|.cells (madeCells #[false] a) 4):=by have⟨c,d,e,b,f⟩:=Rm BU;have:=Sw (P:=prog) w 206 4 c _ underlying206 d e .i64 .i64 (a:Int) (a:Int) Y (SH _) (by rw[b];simp;omega) (by rw[f];omega) Y;rw[b,RA,RV]at this;exact this
def rj:lh (yq 1) 1:=yq.ok 1 Y
def wX{e f g}{m n:Nat}{p q}{r s:Nat}{i j}{k l:Type}{t:Rel k}{u:Rel l}{v:List k}{w:List l}(x:kJ t e r p g m i v)(y:kJ u f s q g n j w)(z:e≠f):∀b,i.ownBlock=some b->j.ownBlock≠some b:=by
 intro b c d;have⟨_,A,_⟩:=x.own;have⟨_,B,_⟩:=y.own;rcases A.2 with⟨rfl,_⟩|⟨D,E,F,rfl,_,C,_⟩
 simp[Value.ownBlock]at c;rcases B.2 with⟨rfl,_⟩|⟨G,I,J,rfl,_,a,_⟩
 simp[Value.ownBlock]at d;simp only[Value.ownBlock,Ts]at c d;subst c;subst d;rw[C]at a;injection a with a;injection a with _ a _;exact z a
structure qw(w3:World)(cb bu bf bx nn:Nat)(f0 f1 f2 f3 hd own V6 V7 V8 nm:Value)(n:Nat)(x:World):Prop where
 g:nZ (λq=>q=cb\/q=bu\/q=bf\/q=bx) w3 x
 c:∃P vQ:Value,x.heap[cb]?=some (.cells #[f0,f1,f2,f3,hd,own,V6,V7,V8,P,vQ] 140)
 u:nN 209 x bu<|nn*3
 f:nN 4 x bf nn
 r:∃Vu Vf:Value,x.heap[bx]?=some (.cells #[nm,Vu,Vf] 148)/\pB 205 w3 x Vu n/\pB 206 w3 x Vf n
 l:cb<w3/\bu<w3/\bf<w3/\bx<w3
 ne:bu≠cb/\bf≠cb/\bx≠cb/\bu≠bx/\bf≠bx/\bu≠bf
structure tG(w3:World)(cb bu bf bx nn:Nat)(f0 f1 f2 f3 hd own V6 V7 V8 nm:Value)(wr:World)(Vu Vf:Value)(us fs:List Unit)(n:Nat)(b1 b2:Bool)(x:World):Prop where
 g:nZ (λq=>q=cb\/q=bu\/q=bf\/q=bx) w3 x
 c:∃P vQ:Value,x.heap[cb]?=some (.cells #[f0,f1,f2,f3,hd,own,V6,V7,V8,P,vQ] 140)
 u:nN 209 x bu<|nn*3
 f:nN 4 x bf nn
 r:∃a b:Value,x.heap[bx]?=some (.cells #[nm,a,b] 148)/\(b1=false->a=Vu)/\(b2=false->b=Vf)/\pB 205 w3 x a (n+1)/\pB 206 w3 x b (n+1)
 ou:kJ (yq 1) 205 1 (λ_=>False) x w3 Vu us
 Hn:kJ (yq 1) 206 1 (λ_=>False) x w3 Vf fs
 s:wr.heap.size<=x
 ws:w3.heap.size<=wr
 vu:∀z,Vu.ownBlock=some z->w3<=z/\z<wr
 vf:∀z,Vf.ownBlock=some z->w3<=z/\z<wr
 l:cb<w3/\bu<w3/\bf<w3/\bx<w3
 ne:bu≠cb/\bf≠cb/\bx≠cb/\bu≠bx/\bf≠bx/\bu≠bf
def tG.start{j}{k l m p q:Nat}{r s t u hd v w x y z}{n:Nat}{f}(a:qw j k l m p q r s t u hd v w x y z n f):∃(d e:Value) (b c:List Unit),b.length<=n/\c.length<=n/\tG j k l m p q r s t u hd v w x y z f d e b c n false false f:=by have⟨d,e,A,⟨b,g,B⟩,c,i,C⟩:=a.r;exact⟨d,e,b,c,B,C,a.g,a.c,a.u,a.f,⟨d,e,A,λ_=>Z,λ_=>Z,⟨b,g,Y⟩,c,i,Y⟩,g,i,QZ _,a.g.size,g.ge,i.ge,a.l,a.ne⟩
def tG.done{b}{c d e f g:Nat}{i j k l m p q r s t v w x}{y z:List Unit}{n:Nat}{A B u}(a:tG b c d e f g i j k l m p q r s t v w x y z n A B u):qw b c d e f g i j k l m p q r s t (n+1) u:=by have⟨C,D,E,_,_,F,G⟩:=a.r;exact⟨a.g,a.c,a.u,a.f,⟨C,D,E,F,G⟩,a.l,a.ne⟩
def tG.Oh{i}{j k l m n:Nat}{p q r s t u v w x y d e z}{A B:List Unit}{C:Nat}{D E b c}(F:tG i j k l m n p q r s t u v w x y d e z A B C D E b)(f:b.grownBy c e.ownBlock):b.heap.size<=c/\∀a,Nw d b a->c.heap[a]?=b.heap[a]?:=
 ⟨f.size,λa g=>f.B a g.2 λG=>Up ((F.vu a G.symm).2) g.1⟩
def tG.Oi{i}{j k l m n:Nat}{p q r s t u v w x y d z e}{A B:List Unit}{C:Nat}{D E b c}(F:tG i j k l m n p q r s t u v w x y d z e A B C D E b)(f:b.grownBy c e.ownBlock):b.heap.size<=c/\∀a,Nw d b a->c.heap[a]?=b.heap[a]?:=
 ⟨f.size,λa g=>f.B a g.2 λG=>Up ((F.vf a G.symm).2) g.1⟩
def NK.set{c w}{a i:Nat}{u}(e:a<c.heap.size):w.heap.size<=(w.setCell ⟨a,i,none⟩ u).heap.size/\∀b,Nw c w b->(w.setCell ⟨a,i,none⟩ u).heap[b]?=w.heap[b]?:=
 ⟨by rw[QW];exact QZ _,λb d=>Rf _ _ _ _ (by have:=d.1;show b≠a;omega)⟩
def uu(b c:Value):Prop:=∀a,b.ownBlock=some a->c.ownBlock≠some a
def tv(b c:World)(d:Value)(e:Nat):Prop:=∃a,kJ kO 9 1 (λ_=>False) c b d a/\a.length<=e
def tv.lt{a x vQ}{n:Nat}(b:tv a x vQ n):∀z,vQ.ownBlock=some z->a<=z/\z<x:=by have⟨d,c,_⟩:=b;exact c.ge
def Dl{b c}(d:uu b c):∀a,b.ownBlock=some a->some a≠c.ownBlock:=λa e f=>d a e f.symm
def Au{b c}(d:uu b c):∀a,c.ownBlock=some a->some a≠b.ownBlock:=λa e f=>d a f.symm e
def Dm{f c d:Value}{g:World}{j:Nat}(k:uu f d)(e:c.ownBlock=f.ownBlock\/∃a,c.ownBlock=some a/\g<=a)(l:∀a,d.ownBlock=some a->j<=a/\a<g):uu c d:=λa b i=>by
 rcases e with e|⟨n,m,p⟩
 exact k a (e▸b) i;rw[m]at b;injection b with b;have:=(l a i).2;omega
def Dn{c f d:Value}{g:World}{j:Nat}(k:uu c f)(e:d.ownBlock=f.ownBlock\/∃a,d.ownBlock=some a/\g<=a)(l:∀a,c.ownBlock=some a->j<=a/\a<g):uu c d:=λa i b=>by
 rcases e with e|⟨n,m,p⟩
 exact k a i<|e▸b;rw[m]at b;injection b with b;have:=(l a i).2;omega
structure rZ(w1:World)(cb:Nat)(f0 f1 f2 f3 hd own P vQ V6 V7 V8:Value)(n6 n7 n8:Nat)(x:World):Prop where
 g:w1.grownBy x<|some cb
 c:x.heap[cb]?=some (.cells #[f0,f1,f2,f3,hd,own,V6,V7,V8,P,vQ] 140)
 r6:tv w1 x V6 n6
 r7:tv w1 x V7 n7
 r8:tv w1 x V8 n8
 d:uu V6 V7/\uu V6 V8/\uu V7 V8
 lt:cb<w1
def My(f:Nat->Prop)(w:World)(a:Nat)(g i j k l:Value)(m:List<|List UInt8)(n:Ending)(b:World):Prop:=
 ∃c d e:Value,n=.returned (.agg #[c,d,e])/\kz kO f w c m/\d.oneCell'=true/\e.oneCell'=true/\w.grownBy b (some a)/\∃p q r s t u:Value,b.heap[a]?=some (.cells #[g,i,j,k,l,p,q,r,s,t,u] 140)
def ot.M{S T w v}(a:ot S w v)(b:∀q,S q->T q):ot T w v:=by have⟨c,d,e,f,g,i,j⟩:=a;exact⟨c,d,e,f,g,i.M kO.ok b,j⟩
def tv.strs{c a d}{e:Nat}(h:tv c a d e)(l:e<=1000):ot (λb=>c<=b/\b<a) a d:=by have⟨i,f,m⟩:=h;obtain⟨j,k,rfl,_⟩:=f.form;exact⟨j,_,k,i,Z,(f.sl kO.ok).M kO.ok λb g=>⟨by rcases g.1 with h|h;exact h.elim;exact h,g.2⟩,Y⟩
abbrev sE(a b c d e f g):=(λh i=>∃(j:Option Addr) (k:Nat),h=.slice j (a+1) k/\kJ kO 9 1 (λl=>False) i b h (c++[d])/\(h.ownBlock=(Value.slice e a f).ownBlock\/∃m,h.ownBlock=some m/\g<=m):Go.Value->Go.World->Prop)
abbrev yd(a b):=(λc d=>∃(e:Nat),c=.slice e 1 1/\Nw a d e/\d.heap[e]?=some (.cells #[tx b] 9):Go.Value->Go.World->Prop)
abbrev DQ(a b c):=(.cells #[.slice a b c,Nl,Nl] 148:Go.Obj)
def C7:Rel<|List<|List UInt8:=λd e f g=>∃a b c:Value,f=[a,b,c]/\kz kO d e a g/\b.oneCell'=true/\c.oneCell'=true
def yr(e:Nat->Prop)(a:World)(f:Nat)(g:List<|List<|List UInt8):Prop:=∃(b:Option Addr) (c d:Nat),a.heap[f]?=some (.cells #[(b,c,d)] 144)/\kz C7 e a (b,c,d) g
structure yl(w5 wr:World)(cb pb:Nat)(P:Nat->Prop)(f0 f1 f2 f3 hd vQ:Value)(xs:List<|List<|List UInt8)(x:World):Prop where
 g:nZ (λq=>q=cb\/q=pb) w5 x
 c:∃a b c d e p q:Value,x.heap[cb]?=some (.cells #[f0,f1,f2,f3,hd,a,b,c,d,p,q] 140)
 p:x.heap[pb]?=some (.cells #[vQ] 144)
 own:kJ C7 148 3 P x w5 vQ xs
 s:wr.heap.size<=x
 v:∀z,vQ.ownBlock=some z->w5<=z/\z<wr
 ws:w5.heap.size<=wr
 lt:cb<w5/\pb<w5/\cb≠pb
 np:¬P cb/\¬P pb
def Oj(b:World)(c d:Nat)(P:Nat->Prop)(e f g i j:Value)(k:List<|List<|List UInt8)(l:Nat)(a:World):Prop:=∃(m:Option Addr) (n:Nat),yl b a c d P e f g i j (m,l,n) k a
def lI.lL(a:Fl):List<|List<|List UInt8:=a.kF.map λb=>lK [] b.lH
abbrev lI.Nn(c:Fl):Prop:=∀a∈c.kF,a.vars.length<=50/\a.lH.length<=4/\∀d∈a.lH,d.length<=100/\∀b∈d,b.params.length<=1000/\kT Ds b.body<=12/\∀e∈b.body,C6 c.kF Ds e
def MB{e:World}{a:Nat}{f:TypeId}{b c d:Value}(g:e.heap[a]?=some (.cells #[b,c,d] f)):(((e.setCell a b).setCell ⟨a,1,none⟩ c).setCell ⟨a,2,none⟩ d).heap[a]?=some (.cells #[b,c,d] f):=kt<|kt<|kt g
def Ok(b c:Nat)(d:Array Value)(e:ByteArray)(f:Nat)(g a:World):Prop:=
 Below f g a/\a.heap[c]?=some (.cells (d++ #[.string e,Em,Em,.int .i64 0]) 201 (0,0))/\a.heap[b]?=some (.cells #[Em,Em,.int .i64 0] 133)
structure JZ(f:Fl):Prop where
 kN:OJ f.kN
 mj:OL f.mj f.kF
 kF:f.kF.length<=3
 each:∀k c,f.kF[k]?=some c->Nu f.kN f.kF k c
def tS.t{d:Fl}(a:tS d):JZ d:=by
 have⟨p,q,r,e,f,s,j,k,l,g,i⟩:=a.ex;have m:∀(c:Nat) (b:Co),d.kF[c]?=some b->b.name=kV c:=λc b a=>by have⟨_,_,_,_,_,_,a,_⟩:=(i c b a).ex;exact a
 exact⟨f.t e,nQ.t l (W a.b.mj) j g m,Y,λt b n=>Nu.of f e Y i g.symm k n⟩
def ml{c b d}(e:b≠5):wG<|.cells c b d:=λ_ _ a=>by injection a with _ a _;exact e a
def tz(a b:Nat)(f:Value)(g:Int)(c:List UInt8)(d:World):Prop:=
 a<=b/\∃e,d.heap[b]?=some (.cells #[f,e,g] 155)/\d.ownsRow a 5 1 e c.length (Lib.byteCells c)
def si(a b:Nat)(c:Int)(d:List UInt8)(w:World):Prop:=tz a b (.pointer none) c d w\/tz a b (.pointer b) c d w
def wH{c:World}{f b:Nat}{d:Value}{g:Nat}{i:List Value}{o:Obj}(j:c.ownsRow f 5 1 d g i)(a:c.heap[b]?=some o)(k:wG o):d.ownBlock≠some b:=by
 rcases j.2 with⟨rfl,_⟩|⟨m,n,p,rfl,_,l,_⟩
 simp[Value.ownBlock];intro e;simp only[Value.ownBlock,Ts]at e;subst e;rw[l]at a;injection a with a;exact k _ _ a.symm
def tz.lt{B b:Nat}{p}{n:Int}{c w}(a:tz B b p n c w):b<w:=by have⟨_,d,a,_⟩:=a;exact(QS.1 a).1
def si.lt{B b:Nat}{n:Int}{a w}(h:si B b n a w):b<w:=by rcases h with h|h;exact h.lt;exact h.lt
def si.any{a b:Nat}{c:Int}{d w}(h:si a b c d w):∃p,tz a b p c d w:=by rcases h with h|h;exact⟨_,h⟩;exact⟨_,h⟩
def oH(c b:Nat)(d:Int)(e:Nat)(w:World):Prop:=∃a:List UInt8,si c b d a w/\a.length<=e*200000
def EU(c:Nat->Prop)(d b:Nat)(w:World):Prop:=∀a,c a->a<w/\a≠b/\(a<d\/∃o,w.heap[a]?=some o/\wG o)
def EU.lt{S}{B b:Nat}{w}(a:EU S B b w):∀q,S q->q<w:=λq c=>(a q c).1
def oH.lt{B b k:Nat}{n:Int}{w}(a:oH B b n k w):B<=b/\b<w:=by have⟨d,a,_⟩:=a;have⟨e,c⟩:=a.any;exact⟨c.1,c.lt⟩
def oH.cell{d b k:Nat}{n:Int}{w}(a:oH d b n k w):w.cell? ⟨b,2,none⟩=some (.int .i64 n)/\w.frozen? ⟨b,2,none⟩=false:=by have⟨e,a,_⟩:=a;have⟨f,_,g,c,_⟩:=a.any;exact⟨kr c 2,kx c 2⟩
def lI.JU:Nat->Ex->Prop
 |0,_=>False
 |d+1,e=>(e.op=1->0<=e.n/\e.n<100)/\∀a∈e.args,JU d a
def lI.TB:Nat->Nat
 |0=>0
 |d+1=>2*TB d+40
def lI.Fo:∀{d d':Nat},d<=d'->TB d<=TB d'
 |0,_,_=>Nat.zero_le _
 |d+1,0,h=>by omega
 |d+1,d'+1,h=>by have:=Fo (d:=d) (d':=d') Y;unfold TB;omega
def lI.HR{a:Nat}(b:a<=6):TB a<=2520:=Fo b
def D5:∀a b,shapes[a]?=some b->((a=6\/a=7\/a=9\/a=10)->b.1=1)/\((a≠1/\a≠5/\a≠6/\a≠7/\a≠8/\a≠9/\a≠10)->b.1=0\/b.1=2):=by
 intro a b c;have d:=(Rg.1 c).1;rw[xx]at d;have e:∀a:Fin 24,∀b,shapes[a.val]?=some b->((a.val=6\/a.val=7\/a.val=9\/a.val=10)->b.1=1)/\((a.val≠1/\a.val≠5/\a.val≠6/\a.val≠7/\a.val≠8/\a.val≠9/\a.val≠10)->b.1=0\/b.1=2):=by intro a b f;have g:∀a:Fin 24,((a.val=6\/a.val=7\/a.val=9\/a.val=10)->(shapes[a.val]?.map (·.1))=some 1)/\((a.val≠1/\a.val≠5/\a.val≠6/\a.val≠7/\a.val≠8/\a.val≠9/\a.val≠10)->(shapes[a.val]?.map (·.1))=some 0\/(shapes[a.val]?.map (·.1))=some 2):=Ur;have:=g a;rw[f]at this;simpa using this
 exact e ⟨a,d⟩ b c
abbrev DP(a b c d e f):=(.cells #[.int .u8 (a:Int),tx b,c,.slice d e f] 180:Go.Obj)
def lI.FL:Nat->St->Prop
 |0,_=>False
 |d+1,s=>(∀b∈s.lp,JU De b)/\(∀a∈s.th,FL d a)/\∀a∈s.el,FL d a
def lI.yi:Nat->Nat
 |0=>0
 |d+1=>12*(3+2*yi d)
def LB{c d:Type}(b:c->d):∀a:List c,(a.map λe=>[b e]).flatten=a.map b
 |[]=>rfl
 |_::a=>by simp[LB b a]
def MC{d:World}{b:Nat}{a:List ByteArray}(e:d.heap[b]?=some (.cells (a.map Value.string).toArray 9 (0,0)))(g:a.length<=9):kz kO (λi=>i=b) d (b,a.length,a.length)<|a.map λc=>c.data.toList:=by
 refine⟨some ⟨b,0,none⟩,a.length,a.map λc=>[Value.string c],by rw[RS],by rw[RS];exact QZ _,Y,λ_=>⟨b,0,Z,Z,λj k f=>?_⟩,?_⟩;rw[Re];refine kB e j k ?_;rw[LB]at f;simpa using f;clear e g;induction a with
 |nil=>exact trivial
 |cons c a l=>exact⟨Z,l⟩
def KM(a)(c:Nat)(d:∀b∈a,b.length<=c):Lib.lens a<=c*a.length:=by
 induction a with
 |nil=>simp[Lib.lens]
 |cons b a e=>have f:=e λg i=>d g<|SY _ i;have j:=d b<|Ss ..;simp only[Lib.lens,Rx,Ue,Rn]at f⊢;rw[Nat.mul_succ];omega
def join_le(a)(c:∀b∈a,b.length<=2520)(d:a.length<=5):(Lib.join a [44,32]).length<=12700:=by
 cases a with
 |nil=>simp[Lib.join_nil]
 |cons b a=>rw[Lib.join_length];have e:=KM (b::a) 2520 c;simp only[Rn,Rs]at*;omega
def Gv:∀a b,forms[a]?=some b->((a=1\/a=3\/a=4\/a=5\/a=7\/a=9)->1<=b.2.2.1)/\((a=2\/a=8)->2<=b.2.2.1):=by
 intro a b c;have d:=(Rg.1 c).1;rw[vn]at d;have e:∀a:Fin 11,((a.val=1\/a.val=3\/a.val=4\/a.val=5\/a.val=7\/a.val=9)->((forms[a.val]?.map (·.2.2.1)).getD 0>=1))/\((a.val=2\/a.val=8)->((forms[a.val]?.map (·.2.2.1)).getD 0>=2)):=Ur
 have:=e ⟨a,d⟩;simp only[c,Ty,SD]at this;exact this
abbrev re(a b c d e f g h i j k l):=(.cells #[.int .u8 (a:Int),tx b,tx c,.slice d e f,.slice g h i,.slice j k l] 175:Go.Obj)
def Ig:yi Ds=519300:=Ur
structure LM(c:Co):Prop where
 vars:∀v∈c.vars,0<=v.init/\v.init<100
 lH:∀hs∈c.lH,∀h∈hs,∀s∈h.body,FL Ds s
def kX(w:World)(b:Nat):Nat->List Value->World
 |_,[]=>w
 |o,u::us=>kX (w.setCell ⟨b,o,none⟩ u) b (o+1) us
def lD{lo b:Nat}(a:lo<=b){w0}:∀{r:List Value} {o:Nat} {w:World},Below lo w0 w->Below lo w0 (kX w b o r)
 |[],_,_,h=>h
 |u::r,o,w,h=>lD a (r:=r)<|h.setCell (p:=⟨b,o,none⟩) a _
def qR{b:Type}(d:Rel b)(e:b)(w:World)(f:Ending)(a:World):Prop:=∃c:List Value,f=.returned (.agg c.toArray)/\d (Nw w a) a c e/\Below w w a
def sy{d:Type}(e:Rel d)(b:Nat)(f:List d)(a:World)(g:Ending)(c:World):Prop:=g=.returned (a,b,b)/\kz e (Nw a c) c (a,b,b) f/\Below a a c
def kP.opn{b:Nat}{d e r a}(c:kP .u8 b d e r a):∃f g i,r=[.int .u8 a.op,tx a.name,.int .i64 a.n,.slice f g i]:=by
 cases b with
 |zero=>exact c.elim
 |succ b=>obtain⟨k,rfl,j⟩:=c;obtain⟨l,m,rfl,_⟩:=j.form;exact⟨_,_,_,Z⟩
def kR.opn{b:Nat}{f g r a}(c:kR .u8 b f g r a):∃i j k l m n p q s,r=[.int .u8 a.kind,tx a.name,tx a.hd,.slice i j k,.slice l m n,.slice p q s]:=by
 cases b with
 |zero=>exact c.elim
 |succ b=>obtain⟨w,x,y,rfl,t,u,v⟩:=c;obtain⟨d,e,rfl,_⟩:=t.form;obtain⟨d,e,rfl,_⟩:=u.form;obtain⟨d,e,rfl,_⟩:=v.form;exact⟨_,_,_,_,_,_,_,_,_,Z⟩
def mv.opn{f g r e}(a:mv .u8 f g r e):∃b c d i j k,r=[tx e.name,.slice b c d,.slice i j k]:=by have⟨b,c,d,l,m,n,a,_⟩:=a.ri;exact⟨b,c,d,l,m,n,a⟩
def nu.opn{e f r g}(a:nu .u8 e f r g):∃b c d,r=[.slice b c d]:=by have⟨b,c,d,a,_⟩:=a.ri;exact⟨b,c,d,a⟩
def mn.opn{f g r e}(a:mn .u8 f g r e):∃b c d i j k,r=[tx e.name,.slice b c d,.slice i j k]:=by have⟨b,c,d,l,m,n,a,_⟩:=a.ri;exact⟨b,c,d,l,m,n,a⟩
def mJ.args{d:Nat}{e}(c:mJ (d+1) e):e.args.length<=2/\∀a∈e.args,mJ d a:=by
 have⟨⟨b,_,f,g,_⟩,i⟩:=c;refine⟨?_,i⟩;rw[g];have:∀b∈shapes,b.1<=2:=Ur
 exact this b<|QV f
def rE{w:World}{b:Nat}{c d e f:Value}{g:TypeId}(a:w.heap[b]?=some (.cells #[c,d,e,f] g)):(w.cell? b=some c/\w.cell? ⟨b,1,none⟩=some d/\w.cell? ⟨b,2,none⟩=some e/\w.cell? ⟨b,3,none⟩=some f)/\w.frozen? ⟨b,0,none⟩=false/\w.frozen? ⟨b,1,none⟩=false/\w.frozen? ⟨b,2,none⟩=false/\w.frozen? ⟨b,3,none⟩=false:=
 ⟨⟨kr a 0,kr a 1,kr a 2,kr a 3⟩,kx a 0,kx a 1,kx a 2,kx a 3⟩
def LW(b:Nat):Prop:=∀(d:Nat->Prop) (a:World) (e:List Value) (c:Ex),kP .u8 b d a e c->(∀f,d f->f<a)->mJ b c->Calls prog 143 #[.agg e.toArray] a (qR (kP .u8 b) c a)
structure zT(d:Nat)(w1:World)(b1:Nat)(c0 c1 c2 o3 o4 o5:Value)(s:St)(l1 l2 l3:Bool)(x:World):Prop where
 g:nZ (λq=>q=b1) w1 x
 l:b1<w1
 r:∃a b c:Value,x.heap[b1]?=some (.cells #[c0,c1,c2,a,b,c] 175)/\(l1=false->a=o3)/\(l1=true->kz (kP .u8 De) (Nw w1 x) x a s.lp)/\(l2=false->b=o4)/\(l2=true->kz (kR .u8 d) (Nw w1 x) x b s.th)/\(l3=false->c=o5)/\(l3=true->kz (kR .u8 d) (Nw w1 x) x c s.el)
def LY(b:Nat):Prop:=∀(d:Nat->Prop) (a:World) (e:List Value) (c:St),kR .u8 b d a e c->(∀f,d f->f<a)->nS b c->Calls prog 93 #[.agg e.toArray] a (qR (kR .u8 b) c a)
abbrev DE(a b c):=(λ(d:Value) (e:World)=>∃(f:Option Addr),∃(g h:Nat),d=.slice f g h/\kz (kR .u8 a) (Nw b e) e (.slice f g h) c:Go.Value->Go.World->Prop)
structure C3(w1:World)(b1:Nat)(c0 o1 o2 o3:Value)(f:Fl)(l1 l2:Bool)(x:World):Prop where
 g:nZ (λq=>q=b1) w1 x
 l:b1<w1
 r:∃a b:Value,x.heap[b1]?=some (.cells #[c0,a,b,o3] 52)/\(l1=false->a=o1)/\(l1=true->kz mH (Nw w1 x) x a f.kN)/\(l2=false->b=o2)/\(l2=true->kz nV (Nw w1 x) x b f.mj)
def I3(d b:Int)(a:Nat)(i:a<=31)(j:bits BinOp.and IntKind.u64 (IntKind.u64.wrap b) 31=(a:Int))(c):Calls prog 185 #[.int .u32 d,b] c λe f=>∃g:Int,e=.returned (.int .u32 g)/\f=c:=by
 have k:IntKind.u64.wrap (32-(a:Int))=32-(a:Int):=Uu
 go_enter func185,ntmps185
 go_wp2;go_ret;exact⟨_,Z,Z⟩
def oy(d a:Int)(c:a∈[7,18,17,19,6,11,25,2,13,22])(b):Calls prog 144 #[.int .u32 d,a] b λe f=>∃g:Int,e=.returned (.int .u32 g)/\f=b:=by
 have i:LZ a<=31/\bits BinOp.and IntKind.u64 (IntKind.u64.wrap<|-a) 31=(LZ a:Int):=by simp only[Rq,Rk,RQ]at c;rcases c with rfl|rfl|rfl|rfl|rfl|rfl|rfl|rfl|rfl|rfl<;>decide+kernel
 have k: -100<=a/\a<=100:=by simp only[Rq,Rk,RQ]at c;omega
 have l:IntKind.i64.wrap (-a)= -a:=Uu
 have j:=(λb=>I3 d (-a) (LZ a) i.1 i.2 b)
 go_enter func144,ntmps144
 go_wp21;apply(j _).M;rintro e f ⟨g,rfl,rfl⟩;go_wp21;go_ret;exact⟨_,Z,Z⟩
def pk(b:IntKind)(c:Array Value)(o d:Nat):Prop:=∀a,a<d->∃e:Int,c[o+a]?=some (.int b e)
def KV(a:Nat):pk .u32 (Array.replicate a<|.int .u32 0) 0 a:=λc b=>⟨0,by simp[b]⟩
abbrev qn(a b c d e f g h):=(#[.int .u32 a,.int .u32 b,.int .u32 c,.int .u32 d,.int .u32 e,.int .u32 f,.int .u32 g,.int .u32 h]:Array Go.Value)
abbrev nF:=(λa b=>∃c:Int,a=.int .u32 c:Go.Value->Go.World->Prop)
abbrev ob(a b c d e f g h):=(#[.int .u32 a,.int .u32 b,.int .u32 c,.int .u32 d,.int .u32 e,.int .u32 f,.int .u32 g,.int .u32 h,.int .u8 0,.int .u8 0,.int .u8 0,.int .u8 0,.int .u8 0,.int .u8 0,.int .u8 0,.int .u8 0,.int .u8 0,.int .u8 0,.int .u8 0,.int .u8 0,.int .u8 0,.int .u8 0,.int .u8 0,.int .u8 0,.int .u8 0,.int .u8 0,.int .u8 0,.int .u8 0,.int .u8 0,.int .u8 0,.int .u8 0,.int .u8 0,.int .u8 0,.int .u8 0,.int .u8 0,.int .u8 0,.int .u8 0,.int .u8 0,.int .u8 0,.int .u8 0,.int .u8 0,.int .u8 0,.int .u8 0,.int .u8 0,.int .u8 0,.int .u8 0,.int .u8 0,.int .u8 0,.int .u8 0,.int .u8 0,.int .u8 0,.int .u8 0,.int .u8 0,.int .u8 0,.int .u8 0,.int .u8 0,.int .u8 0,.int .u8 0,.int .u8 0,.int .u8 0,.int .u8 0,.int .u8 0,.int .u8 0,.int .u8 0,.int .u8 0,.int .u8 0,.int .u8 0,.int .u8 0,.int .u8 0,.int .u8 0,.int .u8 0,.int .u8 0,.int .u64 0]:Array Go.Value)
def Ho(e:Nat)(b:World)(f:Option Addr)(c:Nat):Prop:=0<c->∃a o,f=some ⟨a,o,none⟩/\a≠e/\a<b/\∀d,d<c->∃g:Int,b.cell? ⟨a,o+d,none⟩=some (.int .u8 g)
def Ho.low{b:Nat}{w c d}{a m:Nat}(e:Ho b w c a)(f:m<a->d=c.map (·.add m)):Ho b w d<|a-m:=λn=>by obtain⟨g,o,rfl,i,j,k⟩:=e Y;refine⟨g,o+m,by rw[f Y];simp[lz],i,j,λl p=>?_⟩;rw[Tu];exact k (m+l) Y
def L1(d:Nat->Prop)(a:World)(b:Nat)(e:Fl):Prop:=(b<a/\d b)/\∃(f:Nat->Prop) (g:Option Addr) (i j:Nat) (k:Option Addr) (l m:Nat) (n:Option Addr) (p q c:Nat),a.cell? b=some (tx e.name)/\a.cell? ⟨b,1,none⟩=some (.slice g i j)/\a.cell? ⟨b,2,none⟩=some (.slice k l m)/\a.cell? ⟨b,3,none⟩=some (.slice n p q)/\
 a.cell? ⟨b,37,none⟩=some (.pointer c)/\pX f a g i j k l m n p q e/\yr f a c (lL e)/\(c<a/\d c)/\∀r,f r->d r
structure oZ.Nm where
 kF:List<|List UInt8
 kN:List<|List UInt8
 hs:List<|List<|List UInt8
def oZ.nM(b:Nm)(a:Int):Bool:=decide (0<=a)&&decide (a<b.kF.length)
def oZ.cN(m:Nm)(a:Int):List UInt8:=if nM m a then m.kF[a.toNat]?.getD []else []
def oZ.yF(b:Nm)(a:Int):Bool:=decide (0<=a)&&decide (a<b.kN.length)
def oZ.fN(m:Nm)(a:Int):List UInt8:=if yF m a then m.kN[a.toNat]?.getD []else []
def oZ.hL(m:Nm)(a:Int):List<|List UInt8:=if nM m a then m.hs[a.toNat]?.getD []else []
def oZ.oW(a:Nm)(b c:Int):Bool:=nM a b&&(decide (0<=c)&&decide (c<(hL a b).length))
def oZ.hN(a:Nm)(b c:Int):List UInt8:=if oW a b c then(hL a b)[c.toNat]?.getD []else []
def oZ.oQ(c:UInt8):Bool:=c==95||((decide (48<=c)&&decide (c<=57))||((decide (97<=c)&&decide (c<=122))||(decide (65<=c)&&decide (c<=90))))
structure oZ.HV(m:Nm):Prop where
 kF:∀s∈m.kF,s.all oQ=true
 kN:∀s∈m.kN,s.all oQ=true
 hs:∀l∈m.hs,∀s∈l,s.all oQ=true
 nc:m.kF.Nodup
 nf:m.kN.Nodup
 nh:∀l∈m.hs,l.Nodup
structure P0(m:Nm):Prop where
 c:∀i,(cN m i).length<=12
 f:∀i,(fN m i).length<=12
 h:∀i j,(hN m i j).length<=12
def kI.K3(b c:List UInt8)(a:pfx b c=true):c.length<=b.length:=by unfold pfx at a;rw[List.isPrefixOf_iff_prefix]at a;exact a.length_le
def qQ.wm(a:List UInt8):Nat:=a.foldl (λb c=>10*b+(c.toNat-48)) 0
def qQ.zu(a b):wm (a++[b])=10*wm a+(b.toNat-48):=by simp[wm]
def qQ.GW{a:List UInt8}(b:Nat)(c:b<a.length):wm (a.take<|b+1)=10*wm (a.take b)+((a[b]).toNat-48):=by rw[List.take_add_one,List.getElem?_eq_getElem c];exact zu _ _
def pU(b:Nat):∀(r:List Value) (o:Nat) (a:World),a.grownBy (kX a b o r)<|some b
 |[],_,a=>lC a _
 |u::r,o,a=>ky (kE a b o u)<|pU b r (o+1) _
