import Derived.Test.YtppncjcpdbhobaaGreatDoorZ15
import Derived.Test.YtppncjcpdbhobaaGreatDoorZ16
set_option maxRecDepth 1000000
set_option maxHeartbeats 32000000
set_option linter.all false
namespace Go.Proofs.YtppncjcpdbhobaaGreatDoor
open RowKit Go.Proofs.Tryz lI Maps oZ qQ ChangeShapes WideShapes ChangeAt
def CL(q:Nat)(ap:LD q):Bv<|q+1:=by
 intro aq l b u r Q aP k aQ ar au R v S T av m aR aw;have ax:=X S.len.1;have U:=v.lt;have⟨ay,az⟩:=v.cell;have aA:=X T;have⟨aS,aT⟩:=Dp u Y;have⟨d,w⟩:=Xq<|3+2*yi q;have V:yi (q+1)=12*d:=by rw[w];rfl
 rw[V]at aw⊢;have aa:=X w;have aU:k*d<=12*d:=Sj _ av;clear T w V
 go_enter func141,ntmps141
 go_wp21;go_loopw [15] (λx wr=>∃c i:Nat,c<=k/\i=r+c*d/\x=c/\oH l b ((u+1:Nat):Int) i wr/\kY l b Q wr) (λx _=>k-(intOf x).toNat)
 .exact⟨0,r,Q1 _,Us,Z,v.ind,kY.set U.1⟩
 obtain⟨c,i,aV,ab,rfl,s,t⟩:=hrel;have aW:=t.size;have⟨aB,aC⟩:=s.cell;have aX:=s.lt;have ac:=X ab;clear ay az ab;by_cases aY:c<k
 .obtain⟨a,y⟩:∃a,ar[c]?=some a:=Gx<|W ax.o;have ad:=m.eq t;obtain⟨aZ,ba,bb,rfl,bc,aD,j⟩:=(S.ku (kR.ok .u8 _) ad).ll (kR.ok .u8 _) c a y;obtain⟨bd,be,bf,rfl,z,A,B⟩:=aD;obtain⟨C,D,rfl,_⟩:=z.form;obtain⟨E,F,rfl,_⟩:=A.form;obtain⟨G,I,rfl,_⟩:=B.form;have J:=j 0 _ Z;have ae:=j 1 _ Z;have af:=j 2 _ Z;have ag:=j 3 _ Z;have ah:=j 4 _ Z;have ai:=j 5 _ Z;rw[Q3]at J;have⟨K,aj⟩:=Xq a.lp.length;have⟨L,ak⟩:=Xq a.th.length;have⟨M,al⟩:=Xq a.el.length;rw[<-aj]at z ag;rw[<-ak]at A ah;rw[<-al]at B ai;have⟨aE,aF⟩:=aA.o a<|QV y;have N:=EV z A B;have am:=D0 aE aF;obtain⟨bg,bh⟩:=nL c k;have⟨aG,e⟩:=Xq a.kind;have⟨aH,f⟩:=Xq a.name;have⟨aI,g⟩:=Xq a.hd;rw[<-e]at J;rw[<-f]at ae;rw[<-g]at af;have aJ:=EV e f g;have aK:=Ba wr<|mx aG aH aI C K D E L F G M I;have O:=(t.T<|kY.old (b:=b) (show l<=wr from Y) aK)
  have bi:(c+1)*d<=12*d:=Sj _ Y;have an:i+d=r+(c+1)*d:=(by rw[ac.o,Uk];omega);have aL:=X an;have P:i+d<=90000000:=Y;clear j y aj ak al e f g ad aB aC an;go_wp21;have⟨e,f,g⟩:=aJ.o;rw[e,f,g];refine(ap aq l b (u+1) i (wr.alloc<|mx a.kind a.name a.hd C K D E L F G M I) a C K D E L F G M I (by have:=au.wr O R;rw[e,f,g]at this;exact this) R (s.ku<|Ba _ _) ?_ ?_ ?_ am.o.1 am.o.2 ?_ Y<|by rw[<-aa.o];exact P).M ?_;case refine_1=>exact N.o.1.ku (kP.ok .u8 _) λn p=>R3 _ _ _<|W<|m.lt n p
  case refine_2=>exact N.o.2.1.ku (kR.ok .u8 _) λn p=>R3 _ _ _<|W<|m.lt n p
  case refine_3=>exact N.o.2.2.ku (kR.ok .u8 _) λn p=>R3 _ _ _<|W<|m.lt n p
  case refine_4=>have:=m.to O;rw[e,f,g]at this;exact this
  rintro bj aM ⟨rfl,ao,aN⟩;rw[<-aa.o]at ao;have aO:kY l b Q aM:=(by have:=O;rw[e,f,g]at this;exact this.T aN);clear e f g J ae af ag ah ai;go_wp21;go_roundw
  .exact⟨c+1,i+d,Y,aL.o,Uv,ao,aO⟩
  simp[intOf];omega
 obtain rfl:k=c:=Y;have P:i<=r+12*d:=(by rw[ac.o];omega);go_wp21
 go_end0
 exact⟨Z,(s.ind).up P,t.T<|kY.set U.1⟩
def GK(F:Nat)(g:Int)(e d)(aa:oo d F e):Calls prog 32 #[.pointer F,g] d<|K0 (cN (kG e) g) d:=by
 have L:=Ba d rl;have E:=X L;have M:=X<|aa.kv L;have j:=X<|QT d rl
 go_enter func32,ntmps32
 go_upto_region 1 with fail;generalize d.alloc rl=G at*;have⟨b,I⟩:=Xq d.heap.size;rw[<-I]at j E⊢;have J:=X I;have N:=X<|qq F e G M.o;clear I;by_cases ag:g<0
 .have k:cN (kG e) g=[]:=(by unfold cN;rw[Rl];rw[uw];omega);have w:=X k;have⟨⟨O,P,Q⟩,R,S,T⟩:=lf j.o;have⟨i,a⟩:=Xq<|kX G b 0 [Em,Nl,Nl];have x:=X (show i.heap[b]?=some rl from by rw[a];exact mN (r:=[Em,Nl,Nl]) (m:=[_,_,_]) j.o Z);have y:=X (show Below b d i from by rw[a];exact lD (QZ _) E.o);have z:=X a;clear a;go_wp21;change bodyPost _ _ _ _ _ (kX G b 0 [Em,Nl,Nl]);rw[<-z.o];have c:=x.o;have A:=kr c 0;have B:=kr c 1;have C:=kr c 2;refine Q0 (v:=.agg #[Em,Nl,Nl]) ?_ rfl ⟨⟨none,0,0,none,0,0,by rw[w.o]⟩,by rw[<-J.o];exact y.o⟩;simp[results,Tryz.results32,go_sem,A,B,C]
 by_cases ah:(e.kF.length:Int)<=g
 .have k:cN (kG e) g=[]:=(by unfold cN;rw[Rl];rw[uw];omega);have w:=X k;go_wp21;apply N.o.M;rintro ab D ⟨rfl,rfl⟩;have⟨⟨O,P,Q⟩,R,S,T⟩:=lf j.o;have⟨i,a⟩:=Xq<|kX D b 0 [Em,Nl,Nl];have x:=X (show i.heap[b]?=some rl from by rw[a];exact mN (r:=[Em,Nl,Nl]) (m:=[_,_,_]) j.o Z);have y:=X (show Below b d i from by rw[a];exact lD (QZ _) E.o);have z:=X a;clear a;go_wp21;change bodyPost _ _ _ _ _ (kX D b 0 [Em,Nl,Nl]);rw[<-z.o];have c:=x.o;have A:=kr c 0;have B:=kr c 1;have C:=kr c 2;refine Q0 (v:=.agg #[Em,Nl,Nl]) ?_ rfl ⟨⟨none,0,0,none,0,0,by rw[w.o]⟩,by rw[<-J.o];exact y.o⟩;simp[results,Tryz.results32,go_sem,A,B,C]
 obtain⟨l,rfl⟩:∃l:Nat,g=(l:Int):=⟨g.toNat,Y⟩
 obtain⟨f,U⟩:∃f,e.kF[l]?=some f:=Gx Y;have k:cN (kG e) (l:Int)=f.name:=by unfold cN;rw[RG<|uw.2 ⟨Y,Y⟩];simp[kG,U]
 have w:=X k;have ac:=X U;have ai:(l:Int)<(e.kF.length:Int):=Y
 have aj:(0:Int)<=(l:Int):=Y
 go_wp21;apply N.o.M;rintro ab D ⟨rfl,rfl⟩;have⟨ak,al,am,an,ao,ap,aq,ar,au,av,aw,ax,ay,az,aA,ad,aB,V,_⟩:=M.o;have k:=V.kF.len.1;obtain⟨aC,aD,r,rfl,aE,ae,K⟩:=V.kF.ll (mn.ok .u8) l f ac.o;obtain⟨n,p,q,s,t,u,rfl,_,aF⟩:=ae.ri;have af:=K 0 _ Z;have aG:=K 1 _ Z;have aH:=K 2 _ Z;rw[Q3]at af;rw[<-k]at ad;have⟨⟨O,P,Q⟩,R,S,T⟩:=lf j.o;have⟨i,a⟩:=Xq<|kX D b 0 [tx f.name,(n,p,q),(s,t,u)];have x:=X (show i.heap[b]?=some (.cells (hR f.name n p q s t u) 98)from by rw[a];exact mN (r:=[tx f.name,(n,p,q),(s,t,u)]) (m:=[_,_,_]) j.o Z);have y:=X (show Below b d i from by rw[a];exact lD (QZ _) E.o);have z:=X a;clear a;go_wp21;change bodyPost _ _ _ _ _ (kX D b 0 [tx f.name,(n,p,q),(s,t,u)]);rw[<-z.o];have c:=x.o;have A:=kr c 0;have B:=kr c 1;have C:=kr c 2;refine Q0 (v:=.agg<|hR f.name n p q s t u) ?_ rfl ⟨⟨n,p,q,s,t,u,by rw[w.o]⟩,by rw[<-J.o];exact y.o⟩;simp[results,Tryz.results32,go_sem,A,B,C]
def zm(b:Nat)(c:Int)(d a)(e:oo a b d):Calls prog 13 #[.pointer b,c] a<|kH (tx<|cN (kG d) c) a:=by
 have f:=(GK b c d a e)
 have i:=CP
 go_enter func13,ntmps13
 go_wp21;apply f.M;rintro j k ⟨⟨l,m,n,p,q,r,rfl⟩,g⟩;go_wp21;go_ret;exact⟨Z,g⟩
def GL(y:Nat)(g:Int)(f e)(N:oo e y f):Calls prog 63 #[.pointer y,g] e<|K1 (fN (kG f) g) e:=by
 have C:=Ba e tm;have x:=X C;have D:=X<|N.kv C;have b:=X<|QT e tm
 go_enter func63,ntmps63
 go_upto_region 1 with fail;generalize e.alloc tm=z at*;have⟨d,A⟩:=Xq e.heap.size;rw[<-A]at b x⊢;have B:=X A;have E:=X<|zl y f z D.o;clear A;by_cases U:g<0
 .have k:fN (kG f) g=[]:=(by unfold fN;rw[Rl];rw[Ay];omega);have n:=X k;have F:=kr b.o 0;have G:=kr b.o 1;have I:=kx b.o 0;have J:=kx b.o 1;have⟨i,c⟩:=Xq<|kX z d 0 [Em,.bool false];have p:=X (show i.heap[d]?=some tm from by rw[c];exact mN (r:=[Em,.bool false]) (m:=[_,_]) b.o Z);have q:=X (show Below d e i from by rw[c];exact lD (QZ _) x.o);have s:=X c;clear c;go_wp21;change bodyPost _ _ _ _ _ (kX z d 0 [Em,.bool false]);rw[<-s.o];have j:=p.o;have t:=kr j 0;have u:=kr j 1;refine Q0 (v:=.agg #[Em,false]) ?_ rfl ⟨⟨false,by rw[n.o]⟩,by rw[<-B.o];exact q.o⟩;simp[results,Tryz.results63,go_sem,t,u]
 by_cases V:(f.kN.length:Int)<=g
 .have k:fN (kG f) g=[]:=(by unfold fN;rw[Rl];rw[Ay];omega);have n:=X k;go_wp21;apply E.o.M;rintro O w ⟨rfl,rfl⟩;have F:=kr b.o 0;have G:=kr b.o 1;have I:=kx b.o 0;have J:=kx b.o 1;have⟨i,c⟩:=Xq<|kX w d 0 [Em,.bool false];have p:=X (show i.heap[d]?=some tm from by rw[c];exact mN (r:=[Em,.bool false]) (m:=[_,_]) b.o Z);have q:=X (show Below d e i from by rw[c];exact lD (QZ _) x.o);have s:=X c;clear c;go_wp21;change bodyPost _ _ _ _ _ (kX w d 0 [Em,.bool false]);rw[<-s.o];have j:=p.o;have t:=kr j 0;have u:=kr j 1;refine Q0 (v:=.agg #[Em,false]) ?_ rfl ⟨⟨false,by rw[n.o]⟩,by rw[<-B.o];exact q.o⟩;simp[results,Tryz.results63,go_sem,t,u]
 obtain⟨l,rfl⟩:∃l:Nat,g=(l:Int):=⟨g.toNat,Y⟩
 obtain⟨a,K⟩:∃a,f.kN[l]?=some a:=Gx Y;have k:fN (kG f) (l:Int)=a.name:=by unfold fN;rw[RG<|Ay.2 ⟨Y,Y⟩];simp[kG,K]
 have n:=X k;have P:=X K;have aa:(l:Int)<(f.kN.length:Int):=Y
 have ab:(0:Int)<=(l:Int):=Y
 go_wp21;apply E.o.M;rintro O w ⟨rfl,rfl⟩;have⟨ac,ad,ae,af,ag,ah,ai,aj,ak,al,am,an,ao,Q,ap,aq,ar,L,_⟩:=D.o;have k:=L.kN.len.1;obtain⟨au,av,r,rfl,aw,R,M⟩:=L.kN.ll mH.ok l a P.o;have S:r=[tx a.name,.bool a.init]:=R;subst S;have T:=M 0 _ Z;have ax:=M 1 _ Z;rw[Q3]at T;rw[<-k]at Q;have F:=kr b.o 0;have G:=kr b.o 1;have I:=kx b.o 0;have J:=kx b.o 1;have⟨i,c⟩:=Xq<|kX w d 0 [tx a.name,.bool a.init];have p:=X (show i.heap[d]?=some (vl a.name a.init)from by rw[c];exact mN (r:=[tx a.name,.bool a.init]) (m:=[_,_]) b.o Z);have q:=X (show Below d e i from by rw[c];exact lD (QZ _) x.o);have s:=X c;clear c;go_wp21;change bodyPost _ _ _ _ _ (kX w d 0 [tx a.name,.bool a.init]);rw[<-s.o];have j:=p.o;have t:=kr j 0;have u:=kr j 1;refine Q0 (v:=.agg #[tx a.name,a.init]) ?_ rfl ⟨⟨a.init,by rw[n.o]⟩,by rw[<-B.o];exact q.o⟩;simp[results,Tryz.results63,go_sem,t,u]
def Ee(b:Nat)(c:Int)(d a)(e:oo a b d):Calls prog 34 #[.pointer b,c] a<|kH (tx<|fN (kG d) c) a:=by
 have f:=(GL b c d a e)
 have i:=CQ
 go_enter func34,ntmps34
 go_wp21;apply f.M;rintro j k ⟨⟨l,rfl⟩,g⟩;go_wp21;go_ret;exact⟨Z,g⟩
def Eg(f c)(j:Nat)(a:Int)(b)(q:yr f c j<|lL b)(r:∀k,f k->k<c)(s:mo b):
  Calls prog 96 #[.pointer j,a] c (pz (hL (kG b) a) c):=by
 have F:(lL b).length=b.kF.length:=by simp[lL]
 have⟨G,l,I,t,m⟩:=q;have J:=kr t 0;have K:=m.len.1;by_cases L:a<0
 .rw[Ik Y]
  go_enter func96,ntmps96
  go_wp21;go_ret;exact pz.of (kJ.nil _ _ _ _ _ _)<|Below.refl _ _
 .by_cases M:(l:Int)<=a
  .rw[Ik Y]
   go_enter func96,ntmps96
   go_wp21;go_ret;exact pz.of (kJ.nil _ _ _ _ _ _)<|Below.refl _ _
  obtain⟨d,rfl⟩:∃d:Nat,a=(d:Int):=⟨a.toNat,Y⟩
  obtain⟨e,g⟩:∃e,(lL b)[d]?=some e:=Gx Y;have u:=CR s g;rw[E1 g];obtain⟨N,O,P,rfl,Q,v,w⟩:=m.ll C7.ok d e g;obtain⟨R,S,T,rfl,i,_,_⟩:=v;obtain⟨x,y,rfl,U⟩:=i.form;have n:=w 0 _ Z;rw[Q3]at n;obtain⟨V,aa⟩:=nL d l;have⟨z,p⟩:=Xq e.length;rw[<-p]at n i u;have A:=X<|Ef f c x z y e i Y r;clear p
  go_enter func96,ntmps96
  go_wp21;apply A.o.M;rintro ab ac ⟨⟨ad,ae,rfl,B⟩,C⟩;have D:=X C;have E:=X B;go_wp21;go_ret;exact⟨⟨_,_,Z,E.o⟩,D.o⟩
def Eh(d:Nat)(c:Int)(a b)(e:oo b d a)(f:mo a):Calls prog 60 #[.pointer d,c] b<|pz (hL (kG a) c) b:=by
 have⟨p,g,q,r,s,t,u,v,w,x,y,i,z,A,B,C,D,j,k,E⟩:=e;have l:=(Eg g b i c a k j.lJ f)
 go_enter func60,ntmps60
 go_wp21;apply l.M;rintro F G ⟨⟨I,J,rfl,m⟩,n⟩;go_wp21;go_ret;exact⟨⟨_,_,Z,m⟩,n⟩
def mm(f:Nat)(b c:Int)(a t)(B:oo t f a)(I:mo a):Calls prog 27 #[.pointer f,b,c] t<|kH (.tuple #[tx<|hN (kG a) b c,.bool<|oW (kG a) b c]) t:=by
 have u:=X B;have p:=X<|Eh f b a t B I;by_cases q:oW (kG a) b c=true
 .rw[q];have l:nM (kG a) b=true/\0<=c/\c<((hL (kG a) b).length:Int):=(by simpa[oW]using q);have⟨J,R,C⟩:=l;obtain⟨r,rfl⟩:∃r:Nat,c=(r:Int):=⟨c.toNat,Y⟩
  obtain⟨s,D⟩:∃s,(hL (kG a) b)[r]?=some s:=Gx Y;have v:hN (kG a) b (r:Int)=s:=by unfold hN;rw[RG q];simp[D]
  rw[v];have E:=X D;have m:=X J;have⟨K,F⟩:=Xq<|hL (kG a) b;rw[<-F]at p E C;have⟨L,g⟩:=Xq K.length;rw[<-g]at C;have w:=X g;clear F g
  go_enter func27,ntmps27
  go_wp21;apply p.o.M;rintro i j ⟨⟨x,y,rfl,n⟩,d⟩;rw[<-w.o]at n⊢;have k:=X d;obtain⟨S,T,M,rfl,U,N,O⟩:=n.ll kO.ok r s E.o;have P:M=[tx s]:=N;subst P;have Q:=O 0 _ Z;rw[Q3,RA]at Q;have e:=X<|lV f b a j<|u.o.kv d;rw[m.o]at e;go_wp21;apply e.o.M;rintro i z ⟨rfl,rfl⟩;go_wp21
  go_ret2
  exact⟨Z,k.o⟩
 have G:oW (kG a) b c=false:=by cases hq:oW (kG a) b c;rfl;exact absurd hq q
 have v:hN (kG a) b c=[]:=by unfold hN;rw[Rl q]
 rw[G,v];cases OV:nM (kG a) b with
 |false=>
  have m:=X OV
  go_enter func27,ntmps27
  go_wp21;apply p.o.M;rintro i j ⟨⟨x,y,rfl,n⟩,d⟩;have k:=X d;have e:=X<|lV f b a j<|u.o.kv d;rw[m.o]at e;go_wp21;apply e.o.M;rintro i z ⟨rfl,rfl⟩;go_wp21
  go_ret2
  exact⟨Z,k.o⟩
 |true=>
  have l:c<0\/((hL (kG a) b).length:Int)<=c:=by rcases Int.lt_or_le c 0 with A|A;exact .inl A;refine .inr ?_;simp[oW,OV,A]at G;omega
  have m:=X OV;have⟨L,g⟩:=Xq<|(hL (kG a) b).length;rw[<-g]at l;have w:=X g;clear g;rcases l with l|l
  .go_enter func27,ntmps27
   go_wp21;apply p.o.M;rintro i j ⟨⟨x,y,rfl,n⟩,d⟩;have k:=X d;have e:=X<|lV f b a j<|u.o.kv d;rw[m.o]at e;go_wp21;apply e.o.M;rintro i z ⟨rfl,rfl⟩;go_wp21
   go_ret2
   exact⟨Z,k.o⟩
  have V:¬c<0:=Y
  go_enter func27,ntmps27
  go_wp21;apply p.o.M;rintro i j ⟨⟨x,y,rfl,n⟩,d⟩;rw[<-w.o]at n⊢;have k:=X d;have e:=X<|lV f b a j<|u.o.kv d;rw[m.o]at e;go_wp21;apply e.o.M;rintro i z ⟨rfl,rfl⟩;go_wp21
  go_ret2
  exact⟨Z,k.o⟩
def GM{K}(L f l M)(c N:Nat)(k)(A:kz mg L f (.slice M c N) k)(ai:∀p,L p->p<f)(aT:c<=4)(q:∀b∈k,ym K b)(aU:l.length<=1000)(aj:qE K f):
  Calls prog 36 #[tx l,.slice M c N] f (kH (tx<|nx l k) f):=by
 have⟨O,Q,R,B,S⟩:=Rm rI;have ak:=Sw (P:=prog) f 62 9 O Em underlying62 Q R .i64 .i64 0 (c:Int) Y Y (by rw[B];simp;omega) (by rw[S];omega) Y;rw[B,RA,RV,show Int.toNat 0=0 from Z]at ak;have s:=Ft Q R B S;have⟨d,C⟩:=Xq<|k.map Lib.itoa;have t:=X C;have j:=X (show d.length=c by rw[C,RS];exact A.len.1);clear C;have al:=X A;have T:=X A.len;have am:=X ai;have U:=X q;have an:=X aj
 go_enter func36,ntmps36
 go_wp21;have ao:=Ba f<|DH c;have ap:=X<|show kJ kO 9 1 (λ_=>False) (f.alloc<|DH c) f (.slice f 0 c) []from⟨[],TE f _ c (QZ _) UA (by simp[madeCells]),trivial⟩;have aq:=X ao;generalize f.alloc (DH c)=aV at*;go_loopw [5,13] (λar D wr=>∃(e:Nat) (r:Option Addr) (m:Nat),e<=c/\D=e/\ar=.slice r e m/\kJ kO 9 1 (λ_=>False) wr f (r,e,m) (d.take e)/\Below f f wr) (λ_ D _=>c-(intOf D).toNat)
 .exact⟨0,_,_,Q1 _,Z,Z,ap.o,aq.o⟩
 obtain⟨e,r,m,aW,rfl,rfl,u,V⟩:=hrel;have aa:=X u;have v:=X V;have aX:=V.size;by_cases aY:e<c
 .obtain⟨b,g⟩:∃b,k[e]?=some b:=Gx<|W T.o.1;obtain⟨aZ,ba,E,rfl,bb,q,au⟩:=(al.o.ku mg.ok λp av=>v.o.B p<|am.o p av).ll mg.ok e b g;have F:E=[.int .i64 b]:=q;subst F;have aw:=au 0 _ Z;rw[Q3,RA]at aw;have ax:=U.o b<|QV g;have ay:=X<|uA b ax wr<|an.o.kv v.o;obtain⟨bc,bd⟩:=nL e c;have az:=X (show d.take (e+1)=d.take e++[Lib.itoa b]by rw[RB,t.o,RT,g];simp);have w:=X (show(d.take e).length=e by simp;have:=j.o;omega);go_wp21;apply ay.o.M;rintro i ab ⟨rfl,G⟩;have ac:=X G;have be:=G.size;have ad:=X<|aa.o.kv kO.ok G;have aA:=X<|mD ab [tx<|Lib.itoa b] 9;go_wp2_with (at_builtin;refine kM Z _ _ 62 Z f.heap.size 9 O _ 1 16 underlying62 s.o.1 s.o.2.1 s.o.2.2.1 s.o.2.2.2 Z kO.ok (λ_=>False) _ (d.take e) Z (ad.o.kv kO.ok<|Ba _ _) ⟨ab,0,none⟩ [tx<|Lib.itoa b] (Lib.itoa b) Z aA.o Z ?c3 ?c4 ?c5 ?_);case c3=>rw[w.o];unfold maxLen;omega
  case c4=>rw[w.o];omega
  case c5=>first|omega|(simp;omega)
  intro bf bg x aB _;obtain⟨aC,aD,rfl,_⟩:=x.form;rw[Q6,w.o,show [Lib.itoa b].length=1 from Z]at x;rw[Q6,w.o,show [Lib.itoa b].length=1 from Z];rw[<-az.o]at x;have aE:=X x;have aF:=X<|((v.o.T<|ac.o.M Y).alloc (W ac.o.size) _).grown aB Uw λaG i=>(ad.o.ge aG i).1;go_wp21;go_roundw
  .exact⟨e+1,aC,aD,Y,Uv,Z,aE.o,aF.o⟩
  simp[intOf];omega
 obtain rfl:c=e:=Y;have u:=aa.o;rw[Rh<|W j.o]at u;have z:=u.sl kO.ok;have aH:=sK k<|ym.all U.o;have bh:k.length=c:=T.o.1;have bi:=j.o;have aI:=X (show Calls prog 65 #[(r,c,m),.string ⟨#[44,32]⟩] wr (kH (tx<|Lib.join d [44,32]) wr)by
  cases r with
  |none=>
   have n:c=0:=by rcases Su c with n|n;exact n;have⟨ae,o,E,i,_⟩:=z.ll kO.ok 0 d[0]<|Q7<|W j.o;cases i
   subst n;have I:d=[]:=RP j.o;rw[I];apply(Tryz.strings_Join_none none m _ wr).M;rintro i aJ ⟨rfl,rfl⟩;exact⟨Z,Below.refl _ _⟩
  |some a=>
   rcases Su c with n|n;subst n;have I:d=[]:=RP j.o;rw[I];apply(Tryz.strings_Join_none (some a) m _ wr).M;rintro i aJ ⟨rfl,rfl⟩;exact⟨Z,Below.refl _ _⟩;have⟨ae,o,E,i,aK,_,_⟩:=z.ll kO.ok 0 d[0]<|Q7<|W j.o;injection i with i;subst i;have af:((d.map λb=>(⟨b.toArray⟩:ByteArray)).map λb=>b.data.toList)=d:=(by rw[List.map_map];simp[Function.comp_def]);have:=Tryz.strings_Join ae o m (d.map λb=>(⟨b.toArray⟩:ByteArray)) ⟨#[44,32]⟩ wr (λag b g=>by
    rw[RT]at g;cases hy:d[ag]? with
    |none=>rw[hy]at g;cases g
    |some y=>rw[hy]at g;injection g with g;have⟨bj,bk,aL,J,_,q,aM⟩:=z.ll kO.ok ag y hy;injection J with J;injection J with aN aO;subst aN aO;have F:aL=[tx y]:=q;subst F;have:=aM 0 _ Z;rw[Q3,RA]at this;rw[this,<-g]) aK.2 (by rw[RS];have:=j.o;omega) (by rw[RS];have:=j.o;have:=z.len.2;omega) (by rw[af,t.o];show(Lib.join _ [44,32]).length<=_;omega)
   rw[af,RS,j.o]at this;exact this)
 have aP:=X (show(Lib.join d [44,32]).length<=92 by rw[t.o];omega);have aQ:=X (show nx l k=l++([40]++(Lib.join d [44,32]++[41]))by rw[t.o];rfl);generalize Lib.join d [44,32]=ah at*;go_wp21;apply aI.o.M;rintro i bl ⟨rfl,aR⟩;have aS:=X aR;have aH:=aP.o;go_wp21;go_ret;refine⟨?_,v.o.T<|aS.o.M Y⟩;rw[aQ.o];show Ending.returned (.string<|((⟨l.toArray⟩:ByteArray)++⟨[40].toArray⟩)++⟨ah.toArray⟩++⟨[41].toArray⟩)=Ending.returned (.string ⟨(l++([40]++(ah++[41]))).toArray⟩);rw[kW,kW,kW];simp only[Rv]
def GP{aO}(aP c)(y s:Int)(z:Nat)(e m u j k:Int)(F)(A l:Nat)(p)(K:Nat)(q)(aQ:oo c K q)(br:mo q)(d:kz mg aP c (.slice F A l) p)(ay:∀L,aP L->L<c)(aR:∀ao∈p,ym aO ao)(aS:ym aO m)(bs:ym aO k)(cf:fits (kG q) ⟨y,s,z,e,m,u,j,k,p⟩=true)(aC:qE aO c):
  Calls prog 14 #[.agg<|lk y s z e m u j k F A l,.pointer K] c (kH (tx<|told (kG q) ⟨y,s,z,e,m,u,j,k,p⟩) c):=by
 have de:=X d;have df:=X ay;have aD:=X aR;have ap:=X d.len.1;have aE:=X br.P1;have cg:=X<|rN cf;have ch:=X<|show∀(a:World) (l:Int),Below c c a->Calls prog 13 #[.pointer K,l] a (kH (tx<|cN (kG q) l) a)from λa l f=>zm K l q a<|aQ.kv f;have cQ:=X<|show∀(a:World) (l:Int),Below c c a->Calls prog 34 #[.pointer K,l] a (kH (tx<|fN (kG q) l) a)from λa l f=>Ee K l q a<|aQ.kv f;have ci:=X<|show∀(a:World) (l j:Int),Below c c a->Calls prog 27 #[.pointer K,l,j] a (kH (.tuple #[tx<|hN (kG q) l j,.bool<|oW (kG q) l j]) a)from λa l j f=>mm K l j q a (aQ.kv f) br;have aF:=X<|show∀(a:World) (aG:List UInt8),A<=4->aG.length<=12->Below c c a->Calls prog 36 #[tx aG,.slice F A l] a (kH (tx<|nx aG p) a)from λa aG B dg f=>GM aP a aG F A l p (d.ku mg.ok λL aq=>f.B L<|ay L aq) (λL aq=>QR (ay L aq) f.size) B aR Y<|aC.kv f;have cR:=X<|show∀(a:World),1<=A->A<=4->Below c c a->Calls prog 37 #[.agg<|lk y s z e m u j k F A l] a (kH (tx<|qc ⟨y,s,z,e,m,u,j,k,p⟩) a)from λa cS B f=>GN aP a y s z e m u j k F A l p (d.ku mg.ok λL aq=>f.B L<|ay L aq) (λL aq=>QR (ay L aq) f.size) cS B aR aS<|aC.kv f;have cj:=X<|show∀a:World,Below c c a->Calls prog 15 #[.int .i64 m] a (kH (tx<|Lib.itoa m) a)from λa f=>vw m aS a<|aC.kv f;have ck:=X<|show∀a:World,Below c c a->Calls prog 33 #[.int .i64 k,.int .i64 10] a (kH (tx<|Lib.itoa k) a)from λa f=>uA k bs a<|aC.kv f;have cT:=RZ m aS.1.1 aS.1.2;have cU:=RZ k bs.1.1 bs.1.2;have cl:=Ba c<|la y s z e m u j k F A l;have bt:=X cl;have bu:=X<|QT c<|la y s z e m u j k F A l;have⟨C,bv⟩:=Xq<|Lib.itoa m;have⟨aT,bw⟩:=Xq<|Lib.itoa k;rw[<-bv]at cj cT;rw[<-bw]at ck cU;have ag:=X bv;have az:=X bw;have⟨cV,aU⟩:=Xq<|arr ⟨y,s,z,e,m,u,j,k,p⟩;have ae:=X aU;rw[<-aU]at cg;have cW:=X (show∀a:World,Calls prog 28 #[.agg<|lk y s z e m u j k F A l] a (kH (.int .u8 (cV:Nat)) a)from λa=>by rw[aU];exact lX ⟨y,s,z,e,m,u,j,k,p⟩ F A l a);clear cl bv bw aU d ay aR aC aQ br cf
 go_enter func14,ntmps14
 go_upto_region 1 with fail;have cX:(c.alloc<|la y s z e m u j k F A l).heap.size=c+1:=Us
 generalize c.alloc (la y s z e m u j k F A l)=cm at*;have⟨t,cn⟩:=Xq c.heap.size;rw[<-cn]at bu⊢;have ar:t<cm:=Y
 have ak:=X bu.o;clear cn cX bu;have⟨O,P,Q,R,S,T,U,V,aa⟩:=kQ ak.o;go_wp2_with fail;apply(cj.o cm bt.o).M;rintro M co ⟨rfl,bx⟩;have aV:=X bx;have bz:=X<|bt.o.T<|bx.M bt.o.size;clear O P Q R S T U V aa;clear bx;have⟨O,P,Q,R,S,T,U,V,aa⟩:=kQ<|(aV.o.B t ar).T ak.o;have dh:t<co:=W aV.o.size
 go_wp2_with fail;apply(ck.o co bz.o).M;rintro M cp ⟨rfl,bA⟩;have aW:=X<|aV.o.T<|bA.M aV.o.size;have bB:=X<|bz.o.T<|bA.M bz.o.size;clear O P Q R S T U V aa;clear bA;have⟨O,P,Q,R,S,T,U,V,aa⟩:=kQ<|(aW.o.B t ar).T ak.o;have di:t<cp:=W aW.o.size
 go_wp2_with fail;apply(ci.o cp s j bB.o).M;rintro M cq ⟨rfl,bC⟩;have aX:=X<|aW.o.T<|bC.M aW.o.size;have cr:=X<|bB.o.T<|bC.M bB.o.size;clear O P Q R S T U V aa;clear bC;have ah:=aE.o.h s j;have⟨N,bD⟩:=Xq<|hN (kG q) s j;rw[<-bD]at ah⊢;have au:=X bD;clear bD;have⟨O,P,Q,R,S,T,U,V,aa⟩:=kQ<|(aX.o.B t ar).T ak.o;have dj:t<cq:=W aX.o.size
 go_wp2_with fail;apply(cW.o cq).M;rintro M ab ⟨rfl,bE⟩;have aA:=X<|aX.o.T<|bE.M aX.o.size;have n:=X<|cr.o.T<|bE.M cr.o.size;clear O P Q R S T U V aa;clear bE;have⟨O,P,Q,R,S,T,U,V,aa⟩:=kQ<|(aA.o.B t ar).T ak.o;have aY:t<ab:=W aA.o.size
 rcases cg.o with rfl|rfl|rfl|⟨rfl,B⟩|⟨rfl,B⟩|⟨rfl,B⟩|⟨rfl,B⟩|⟨rfl,B⟩|⟨rfl,B⟩|rfl
 .have cs:=X<|show∀a:World,Below c c a->Calls prog 34 #[.pointer K,e] a (kH (tx<|fN (kG q) e) a)from λa f=>cQ.o a e f;have cY:=aE.o.f e;have⟨bF,bG⟩:=Xq<|fN (kG q) e;rw[<-bG]at cY cs;have cZ:=X bG;have⟨aZ,bH⟩:=Xq<|Lib.formatBool<|k==1;have dk:aZ.length<=5:=(by rw[bH];cases(k==1)<;>decide);have ct:=X bH;clear bG bH;have aH:=X<|(aA.o.B t ar).T ak.o;clear O P Q R S T U V aa;go_upto_region 6 with fail;have⟨ba,bI⟩:=Xq<|[102,108,97,103,32]++bF;have dl:ba.length<=17:=(by rw[bI,Q6];first|omega|(simp only[Rn,Rs];omega));have cu:=X bI;clear bI;have⟨bb,bJ⟩:=Xq<|ba++[32,61,32];have dm:bb.length<=20:=(by rw[bJ,Q6];first|omega|(simp only[Rn,Rs];omega));have cv:=X bJ;clear bJ;have⟨bc,bK⟩:=Xq<|bb++aZ;have dn:bc.length<=25:=(by rw[bK,Q6];first|omega|(simp only[Rn,Rs];omega));have cw:=X bK;clear bK;have⟨bd,bL⟩:=Xq<|bc++[32,40,99,104,111,105,99,101,32];have dp:bd.length<=34:=(by rw[bL,Q6];first|omega|(simp only[Rn,Rs];omega));have cx:=X bL;clear bL;have⟨be,bM⟩:=Xq<|bd++C;have dq:be.length<=55:=(by rw[bM,Q6];first|omega|(simp only[Rn,Rs];omega));have cy:=X bM;clear bM;have⟨bf,bN⟩:=Xq<|be++[41];have dr:bf.length<=56:=(by rw[bN,Q6];first|omega|(simp only[Rn,Rs];omega));have cz:=X bN;clear bN;refine Ri (λao=>Below ab ab ao) (mU [(·=.pointer K),(Pp t 3),(·=e),(·=tx bF),(·=tx ba),(·=tx bb),(Pp t 7),(·=k),(·=.bool (k==1)),(·=tx aZ),(·=tx bc),(·=tx bd),(·=tx C),(·=tx be),(·=tx bf),(·=tx bf)]) [] ((Below.refl _ _).drew) ⟨?_,?_,?_,?_,?_,?_,?_,?_,?_,?_,?_,?_,?_,?_,?_,?_,trivial⟩ ?_;exact .f 1;exact .f 2;exact .l 30 1 λ_ b=>kB ((b.B t aY).T aH.o) 3 _ Z;intro x c b v d w r;have ds:=Sv 29 d 0;have dt:=Sv 31 d 2;refine .c (cs.o c<|n.o.T<|b.M n.o.size) ?_;rintro M a ⟨ac,f⟩;subst ac;exact⟨_,Z,Z,b.T<|f.M b.size,Qe⟩;intro x c b v d w r;have du:=Sv 32 d 3;refine .h λE i=>?_;go_simp;rw[Rl Y];exact i ⟨(by rw[cu.o];exact RF Value.string<|kW ([102,108,97,103,32]) bF),b,Qe⟩;intro x c b v d w r;have dv:=Sv 33 d 4;refine .h λE i=>?_;go_simp;rw[Rl Y];exact i ⟨(by rw[cv.o];exact RF Value.string<|kW ba<|[32,61,32]),b,Qe⟩;exact .f 2;exact .l 35 6 λ_ b=>kB ((b.B t aY).T aH.o) 7 _ Z;intro x c b v d w r;have dw:=Sv 36 d 7;exact .q (g:=⟨Z,b,Qa⟩);intro x c b v d w r;have dx:=Sv 37 d 8;clear v d w r;refine .h λE i=>?_;go_simp;refine⟨Z,?_⟩;refine Calls.M (Tryz.strconv_FormatBool (k==1) c) ?_;rintro M a ⟨ac,r⟩;subst r;subst ac;rw[<-ct.o];exact⟨_,Z,i ⟨Z,b,Qe⟩⟩;intro x c b v d w r;have dy:=Sv 34 d 5;have dz:=Sv 38 d 9;refine .h λE i=>?_;go_simp;rw[Rl Y];exact i ⟨(by rw[cw.o];exact RF Value.string<|kW bb aZ),b,Qe⟩;intro x c b v d w r;have dA:=Sv 39 d 10;refine .h λE i=>?_;go_simp;rw[Rl Y];exact i ⟨(by rw[cx.o];exact RF Value.string<|kW bc<|[32,40,99,104,111,105,99,101,32]),b,Qe⟩;exact .f 5;intro x c b v d w r;have dB:=Sv 40 d 11;have dC:=Sv 41 d 12;refine .h λE i=>?_;go_simp;rw[Rl Y];exact i ⟨(by rw[cy.o];exact RF Value.string<|kW bd C),b,Qe⟩;intro x c b v d w r;have dD:=Sv 42 d 13;refine .h λE i=>?_;go_simp;rw[Rl Y];exact i ⟨(by rw[cz.o];exact RF Value.string<|kW be<|[41]),b,Qe⟩;exact .v 43 14;intro aI cA al am aJ;have an:aI 15=tx bf:=am 15 Ur;have aK:=X al;clear am aJ al;simp only[nE,an];clear an;go_wp2_with fail;go_ret;refine⟨?_,n.o.T<|aK.o.M n.o.size⟩;exact RF Ending.returned (HX<|by unfold told;rw[<-ae.o];simp only[cz.o,cy.o,cx.o,cw.o,cv.o,cu.o,ct.o,cZ.o,ag.o,NZ,Rv])
 .go_wp2_with fail;go_ret;refine⟨?_,n.o⟩;have ad:told (kG q) ⟨y,s,z,e,m,u,j,k,p⟩=[100,101,112,108,111,121,32,118,101,114,115,105,111,110,32]++(aT++([32,40,99,104,111,105,99,101,32]++(C++[41]))):=(by unfold told;rw[<-ae.o];simp only[<-au.o,<-ag.o,<-az.o]);rw[ad];show Ending.returned (.string<|(⟨[100,101,112,108,111,121,32,118,101,114,115,105,111,110,32].toArray⟩:ByteArray)++⟨aT.toArray⟩++⟨[32,40,99,104,111,105,99,101,32].toArray⟩++⟨C.toArray⟩++⟨[41].toArray⟩)=_;rw[kW,kW,kW,kW];simp only[Rv]
 .go_wp2_with fail;go_ret;refine⟨?_,n.o⟩;have ad:told (kG q) ⟨y,s,z,e,m,u,j,k,p⟩=[99,114,97,115,104,32,40,99,104,111,105,99,101,32]++(C++[41]):=(by unfold told;rw[<-ae.o];simp only[<-au.o,<-ag.o,<-az.o]);rw[ad];show Ending.returned (.string<|(⟨[99,114,97,115,104,32,40,99,104,111,105,99,101,32].toArray⟩:ByteArray)++⟨C.toArray⟩++⟨[41].toArray⟩)=_;rw[kW,kW];simp only[Rv]
 .have G:=X<|aF.o ab N (by rw[<-ap.o];exact B) ah n.o;have ai:=pT ah B<|ym.all aD.o;have⟨I,D⟩:=Xq<|nx N p;rw[<-D]at G ai;have aj:=X D;clear D;go_wp2_with fail;apply G.o.M;rintro M av ⟨rfl,J⟩;have af:=X J;clear J;go_wp2_with fail;go_ret;refine⟨?_,n.o.T<|af.o.M n.o.size⟩;have ad:told (kG q) ⟨y,s,z,e,m,u,j,k,p⟩=[114,101,113,117,101,115,116,32]++(C++([32]++I)):=(by unfold told;rw[<-ae.o];simp only[<-au.o,<-ag.o,<-az.o,<-aj.o]);rw[ad];show Ending.returned (.string<|(⟨[114,101,113,117,101,115,116,32].toArray⟩:ByteArray)++⟨C.toArray⟩++⟨[32].toArray⟩++⟨I.toArray⟩)=_;rw[kW,kW,kW];simp only[Rv]
 .have aL:=X<|show∀a:World,Below c c a->Calls prog 13 #[.pointer K,e] a (kH (tx<|cN (kG q) e) a)from λa f=>ch.o a e f;have bO:=aE.o.c e;have⟨aw,ax⟩:=Xq<|cN (kG q) e;rw[<-ax]at bO aL;have bP:=X ax;clear ax;have G:=X<|show∀a:World,Below c c a->Calls prog 36 #[tx N,.slice F A l] a (kH (tx<|nx N p) a)from λa f=>aF.o a N (by rw[<-ap.o];exact B) ah f;have ai:=pT ah B<|ym.all aD.o;have⟨I,D⟩:=Xq<|nx N p;rw[<-D]at G ai;have aj:=X D;clear D;obtain⟨aM,bQ⟩:∃L:List UInt8,L=if u=1 then [97,103,97,105,110,32]else []:=⟨_,Z⟩
  have dE:aM.length<=6:=(by rw[bQ];split<;>simp);have bR:=X bQ;clear bQ;have aH:=X<|(aA.o.B t ar).T ak.o;go_upto_region 14 with fail;(iterate 8 go_step);go_cut [9] (λda db=>da=tx aM/\ab=db)
  .by_cases P2:u=1
   .subst P2;go_wp2_with fail;go_meet;exact⟨by rw[bR.o,RG trivial],Z⟩
   go_wp2_with fail;go_meet;exact⟨by rw[bR.o,Rl P2],Z⟩
  obtain⟨rfl,rfl⟩:=hcut;clear O P Q R S T U V aa;go_upto_region 17 with fail;have⟨bg,bS⟩:=Xq<|[109,101,115,115,97,103,101,32]++C;have dF:bg.length<=29:=(by rw[bS,Q6];first|omega|(simp only[Rn,Rs];omega));have cB:=X bS;clear bS;have⟨bh,bT⟩:=Xq<|bg++[32,102,114,111,109,32];have dG:bh.length<=35:=(by rw[bT,Q6];first|omega|(simp only[Rn,Rs];omega));have cC:=X bT;clear bT;have⟨bi,bU⟩:=Xq<|bh++aw;have dH:bi.length<=47:=(by rw[bU,Q6];first|omega|(simp only[Rn,Rs];omega));have cD:=X bU;clear bU;have⟨bj,bV⟩:=Xq<|bi++[32];have dI:bj.length<=48:=(by rw[bV,Q6];first|omega|(simp only[Rn,Rs];omega));have cE:=X bV;clear bV;have⟨bk,bW⟩:=Xq<|bj++aM;have dJ:bk.length<=54:=(by rw[bW,Q6];first|omega|(simp only[Rn,Rs];omega));have cF:=X bW;clear bW;have⟨bl,bX⟩:=Xq<|bk++I;have dK:bl.length<=164:=(by rw[bX,Q6];first|omega|(simp only[Rn,Rs];omega));have cG:=X bX;clear bX;refine Ri (λao=>Below ab ab ao) (mU [(·=tx C),(·=tx bg),(·=tx bh),(·=.pointer K),(Pp t 3),(·=e),(·=tx aw),(·=tx bi),(·=tx bj),(·=tx aM),(·=tx bk),(·=tx N),(Pp t 8),(·=.slice F A l),(·=tx I),(·=tx bl),(·=tx bl)]) [] ((Below.refl _ _).drew) ⟨?_,?_,?_,?_,?_,?_,?_,?_,?_,?_,?_,?_,?_,?_,?_,?_,?_,trivial⟩ ?_;exact .f 5;intro x c b v d w r;have dL:=Sv 72 d 0;refine .h λE i=>?_;go_simp;rw[Rl Y];exact i ⟨(by rw[cB.o];exact RF Value.string<|kW ([109,101,115,115,97,103,101,32]) C),b,Qe⟩;intro x c b v d w r;have dM:=Sv 73 d 1;refine .h λE i=>?_;go_simp;rw[Rl Y];exact i ⟨(by rw[cC.o];exact RF Value.string<|kW bg<|[32,102,114,111,109,32]),b,Qe⟩;exact .f 1;exact .f 2;exact .l 76 4 λ_ b=>kB ((b.B t aY).T aH.o) 3 _ Z;intro x c b v d w r;have dN:=Sv 75 d 3;have dO:=Sv 77 d 5;refine .c (aL.o c<|n.o.T<|b.M n.o.size) ?_;rintro M a ⟨ac,f⟩;subst ac;exact⟨_,Z,Z,b.T<|f.M b.size,Qe⟩;intro x c b v d w r;have dP:=Sv 74 d 2;have dQ:=Sv 78 d 6;refine .h λE i=>?_;go_simp;rw[Rl Y];exact i ⟨(by rw[cD.o];exact RF Value.string<|kW bh aw),b,Qe⟩;intro x c b v d w r;have dR:=Sv 79 d 7;refine .h λE i=>?_;go_simp;rw[Rl Y];exact i ⟨(by rw[cE.o];exact RF Value.string<|kW bi<|[32]),b,Qe⟩;exact .f 9;intro x c b v d w r;have dS:=Sv 80 d 8;have dT:=Sv 81 d 9;refine .h λE i=>?_;go_simp;rw[Rl Y];exact i ⟨(by rw[cF.o];exact RF Value.string<|kW bj aM),b,Qe⟩;exact .f 7;exact .f 2;exact .l 84 12 λ_ b=>kB ((b.B t aY).T aH.o) 8 _ Z;intro x c b v d w r;have dU:=Sv 83 d 11;have dV:=Sv 85 d 13;refine .c (G.o c<|n.o.T<|b.M n.o.size) ?_;rintro M a ⟨ac,f⟩;subst ac;exact⟨_,Z,Z,b.T<|f.M b.size,Qe⟩;intro x c b v d w r;have dW:=Sv 82 d 10;have dX:=Sv 86 d 14;refine .h λE i=>?_;go_simp;rw[Rl Y];exact i ⟨(by rw[cG.o];exact RF Value.string<|kW bk I),b,Qe⟩;exact .v 87 15;intro aI cA al am aJ;have an:aI 16=tx bl:=am 16 Ur;have aK:=X al;clear am aJ al;simp only[nE,an];clear an;go_wp2_with fail;go_ret;refine⟨?_,n.o.T<|aK.o.M n.o.size⟩;exact RF Ending.returned (HX<|by unfold told;rw[<-ae.o];simp only[cG.o,cF.o,cE.o,cD.o,cC.o,cB.o,bR.o,aj.o,bP.o,au.o,ag.o,Rv])
 .have G:=X<|aF.o ab N (by rw[<-ap.o];exact B) ah n.o;have ai:=pT ah B<|ym.all aD.o;have⟨I,D⟩:=Xq<|nx N p;rw[<-D]at G ai;have aj:=X D;clear D;go_wp2_with fail;apply G.o.M;rintro M av ⟨rfl,J⟩;have af:=X J;clear J;go_wp2_with fail;go_ret;refine⟨?_,n.o.T<|af.o.M n.o.size⟩;have ad:told (kG q) ⟨y,s,z,e,m,u,j,k,p⟩=[116,105,109,101,114,32]++(C++([32]++I)):=(by unfold told;rw[<-ae.o];simp only[<-au.o,<-ag.o,<-az.o,<-aj.o]);rw[ad];show Ending.returned (.string<|(⟨[116,105,109,101,114,32].toArray⟩:ByteArray)++⟨C.toArray⟩++⟨[32].toArray⟩++⟨I.toArray⟩)=_;rw[kW,kW,kW];simp only[Rv]
 .have aL:=X<|show∀a:World,Below c c a->Calls prog 13 #[.pointer K,e] a (kH (tx<|cN (kG q) e) a)from λa f=>ch.o a e f;have bO:=aE.o.c e;have⟨aw,ax⟩:=Xq<|cN (kG q) e;rw[<-ax]at bO aL;have bP:=X ax;clear ax;go_wp2_with fail;apply(ci.o ab e j n.o).M;rintro M av ⟨rfl,J⟩;have af:=X<|aA.o.T<|J.M aA.o.size;have aB:=X<|n.o.T<|J.M n.o.size;clear O P Q R S T U V aa;clear J;have cH:t<av:=W af.o.size;have cI:=X<|(af.o.B t ar).T ak.o;have bY:=aE.o.h e j;have⟨aN,bZ⟩:=Xq<|hN (kG q) e j;rw[<-bZ]at bY⊢;have dc:=X bZ;clear bZ;have G:=X<|show∀a:World,Below c c a->Calls prog 36 #[tx aN,.slice F A l] a (kH (tx<|nx aN p) a)from λa f=>aF.o a aN (by rw[<-ap.o];exact B) bY f;have ai:=pT bY B<|ym.all aD.o;have⟨I,D⟩:=Xq<|nx aN p;rw[<-D]at G ai;have aj:=X D;clear D;go_upto_region 22 with fail;have⟨bm,ca⟩:=Xq<|[115,101,110,100,115,32,109,101,115,115,97,103,101,32]++C;have dY:bm.length<=35:=(by rw[ca,Q6];first|omega|(simp only[Rn,Rs];omega));have cJ:=X ca;clear ca;have⟨bn,cb⟩:=Xq<|bm++[32,116,111,32];have dZ:bn.length<=39:=(by rw[cb,Q6];first|omega|(simp only[Rn,Rs];omega));have cK:=X cb;clear cb;have⟨bo,cc⟩:=Xq<|bn++aw;have ea:bo.length<=51:=(by rw[cc,Q6];first|omega|(simp only[Rn,Rs];omega));have cL:=X cc;clear cc;have⟨bp,cd⟩:=Xq<|bo++[32];have eb:bp.length<=52:=(by rw[cd,Q6];first|omega|(simp only[Rn,Rs];omega));have cM:=X cd;clear cd;have⟨bq,ce⟩:=Xq<|bp++I;have ec:bq.length<=162:=(by rw[ce,Q6];first|omega|(simp only[Rn,Rs];omega));have cO:=X ce;clear ce;refine Ri (λao=>Below av av ao) (mU [(·=tx C),(·=tx bm),(·=tx bn),(·=.pointer K),(Pp t 3),(·=e),(·=tx aw),(·=tx bo),(·=tx bp),(·=tx aN),(Pp t 8),(·=.slice F A l),(·=tx I),(·=tx bq),(·=tx bq)]) [] ((Below.refl _ _).drew) ⟨?_,?_,?_,?_,?_,?_,?_,?_,?_,?_,?_,?_,?_,?_,?_,trivial⟩ ?_;exact .f 5;intro x c b v d w r;have ed:=Sv 109 d 0;refine .h λE i=>?_;go_simp;rw[Rl Y];exact i ⟨(by rw[cJ.o];exact RF Value.string<|kW ([115,101,110,100,115,32,109,101,115,115,97,103,101,32]) C),b,Qe⟩;intro x c b v d w r;have ee:=Sv 110 d 1;refine .h λE i=>?_;go_simp;rw[Rl Y];exact i ⟨(by rw[cK.o];exact RF Value.string<|kW bm<|[32,116,111,32]),b,Qe⟩;exact .f 1;exact .f 2;exact .l 113 4 λ_ b=>kB ((b.B t cH).T cI.o) 3 _ Z;intro x c b v d w r;have ef:=Sv 112 d 3;have eg:=Sv 114 d 5;refine .c (aL.o c<|aB.o.T<|b.M aB.o.size) ?_;rintro M a ⟨ac,f⟩;subst ac;exact⟨_,Z,Z,b.T<|f.M b.size,Qe⟩;intro x c b v d w r;have eh:=Sv 111 d 2;have ei:=Sv 115 d 6;refine .h λE i=>?_;go_simp;rw[Rl Y];exact i ⟨(by rw[cL.o];exact RF Value.string<|kW bn aw),b,Qe⟩;intro x c b v d w r;have ej:=Sv 116 d 7;refine .h λE i=>?_;go_simp;rw[Rl Y];exact i ⟨(by rw[cM.o];exact RF Value.string<|kW bo<|[32]),b,Qe⟩;exact .f 7;exact .f 2;exact .l 119 10 λ_ b=>kB ((b.B t cH).T cI.o) 8 _ Z;intro x c b v d w r;have ek:=Sv 118 d 9;have el:=Sv 120 d 11;refine .c (G.o c<|aB.o.T<|b.M aB.o.size) ?_;rintro M a ⟨ac,f⟩;subst ac;exact⟨_,Z,Z,b.T<|f.M b.size,Qe⟩;intro x c b v d w r;have em:=Sv 117 d 8;have en:=Sv 121 d 12;refine .h λE i=>?_;go_simp;rw[Rl Y];exact i ⟨(by rw[cO.o];exact RF Value.string<|kW bp I),b,Qe⟩;exact .v 122 13;intro aI cA al am aJ;have an:aI 14=tx bq:=am 14 Ur;have aK:=X al;clear am aJ al;simp only[nE,an];clear an;go_wp2_with fail;go_ret;refine⟨?_,aB.o.T<|aK.o.M aB.o.size⟩;exact RF Ending.returned (HX<|by unfold told;rw[<-ae.o];simp only[cO.o,cM.o,cL.o,cK.o,cJ.o,aj.o,bP.o,dc.o,ag.o,Rv])
 .have G:=X<|aF.o ab N (by rw[<-ap.o];exact B) ah n.o;have ai:=pT ah B<|ym.all aD.o;have⟨I,D⟩:=Xq<|nx N p;rw[<-D]at G ai;have aj:=X D;clear D;go_wp2_with fail;apply G.o.M;rintro M av ⟨rfl,J⟩;have af:=X J;clear J;go_wp2_with fail;go_ret;refine⟨?_,n.o.T<|af.o.M n.o.size⟩;have ad:told (kG q) ⟨y,s,z,e,m,u,j,k,p⟩=[115,101,116,115,32,116,105,109,101,114,32]++(C++([32]++(I++([32,100,117,101,32,97,116,32,116]++aT)))):=(by unfold told;rw[<-ae.o];simp only[<-au.o,<-ag.o,<-az.o,<-aj.o]);rw[ad];show Ending.returned (.string<|(⟨[115,101,116,115,32,116,105,109,101,114,32].toArray⟩:ByteArray)++⟨C.toArray⟩++⟨[32].toArray⟩++⟨I.toArray⟩++⟨[32,100,117,101,32,97,116,32,116].toArray⟩++⟨aT.toArray⟩)=_;rw[kW,kW,kW,kW,kW];simp only[Rv]
 .have G:=X<|cR.o ab (by rw[<-ap.o];omega) (by rw[<-ap.o];omega) n.o;have cP:told (kG q) ⟨y,s,z,e,m,u,j,k,p⟩=qc ⟨y,s,z,e,m,u,j,k,p⟩:=(by unfold told;rw[<-ae.o];rfl);have dd:=X cP;clear cP;generalize qc ⟨y,s,z,e,m,u,j,k,p⟩=eo at*;go_wp2_with fail;apply G.o.M;rintro M av ⟨rfl,J⟩;have af:=X J;clear J;go_wp2_with fail;go_ret;exact⟨by rw[dd.o];rfl,n.o.T<|af.o.M n.o.size⟩
 .go_wp2_with fail;go_ret;refine⟨?_,n.o⟩;have ad:told (kG q) ⟨y,s,z,e,m,u,j,k,p⟩=[102,97,117,108,116,32,105,110,32]++N:=(by unfold told;rw[<-ae.o];simp only[<-au.o,<-ag.o,<-az.o]);rw[ad];show Ending.returned (.string<|(⟨[102,97,117,108,116,32,105,110,32].toArray⟩:ByteArray)++⟨N.toArray⟩)=_;rw[kW]
def AY{c:lj}{vQ:PV}{pb d P:Nat}{Q}(R:wS c d=some (Q,P)):Bk c vQ pb d P Q 226:=by
 intro e x;have⟨S,ad⟩:=tj R;have T:=x.low.2;have y:=X<|QT e ks;have A:=X<|(lN.refl x).alloc ks;have U:=X<|lN.refl A.o.1;have b:=X (show∀g∈xn,ov c d≠g from λg B a=>S<|by rw[a];exact B);have z:e<(e.alloc ks).heap.size:=Us
 have V:pb<e:=x.lt;clear x R S;rcases ad with⟨aa,v,ae,rfl⟩|⟨aa,af,g,B,rfl⟩
 .go_enter func226,ntmps226
  go_upto_region 1 with fail;generalize e.alloc ks=ag at*;have⟨C,f⟩:=Xq e.heap.size;rw[<-f]at y z V T⊢;have i:=X f;clear f;go_wp21;apply(mC U.o _ Ur<|b.o _ Ur).M;rintro a ah ⟨rfl,j⟩;have D:=X j;clear j;go_wp21;apply(mC D.o _ Ur<|b.o _ Ur).M;rintro a ai ⟨rfl,k⟩;have E:=X k;clear k;go_wp21;apply(mC E.o _ Ur<|b.o _ Ur).M;rintro a aj ⟨rfl,l⟩;have F:=X l;clear l;go_wp21;apply(mC F.o _ Ur<|b.o _ Ur).M;rintro a ak ⟨rfl,m⟩;have G:=X m;clear m;go_wp21;apply(mC G.o _ Ur<|b.o _ Ur).M;rintro a al ⟨rfl,n⟩;have I:=X n;clear n;go_wp21;apply(mC I.o _ Ur<|b.o _ Ur).M;rintro a am ⟨rfl,p⟩;have q:=X p;clear p;go_wp21;apply(qm q.o.1).M;rintro a J ⟨⟨K,rfl⟩,r⟩;have s:=X<|q.o.kv r;clear r;rw[aa];have ay:=xN J (.int .u8 3) (tx<|ov c d)<|.int .i64 K;go_wp21;apply(C0 s.o.1 ae).M;rintro a an ⟨rfl,t⟩;have u:=X<|s.o.T t;clear t;have w:=(u.o.2.B C z λa=>by injection a with a;omega).T y.o;have⟨⟨ao,ap,aq,ar⟩,au,av,aw,ax⟩:=kL w;go_wp21;have hF:=zW (u0:=.int .u8 1) (u1:=tx []) (u2:=.int .i64 (v:Nat)) (u3:=Nl) w;have L:=kr hF 0;have M:=kr hF 1;have N:=kr hF 2;have O:=kr hF 3;refine Q0 (v:=.agg #[.int .u8 1,tx [],v,Nl]) ?_ rfl ⟨Z,zV (A.o.T u.o) (W i.o)<|SC i.o.symm⟩;simp[results,Tryz.results226,go_sem,L,M,N,O]
 go_enter func226,ntmps226
 go_upto_region 1 with fail;generalize e.alloc ks=ag at*;have⟨C,f⟩:=Xq e.heap.size;rw[<-f]at y z V T⊢;have i:=X f;clear f;go_wp21;apply(mC U.o _ Ur<|b.o _ Ur).M;rintro a ah ⟨rfl,j⟩;have D:=X j;clear j;go_wp21;apply(mC D.o _ Ur<|b.o _ Ur).M;rintro a ai ⟨rfl,k⟩;have E:=X k;clear k;go_wp21;apply(mC E.o _ Ur<|b.o _ Ur).M;rintro a aj ⟨rfl,l⟩;have F:=X l;clear l;go_wp21;apply(mC F.o _ Ur<|b.o _ Ur).M;rintro a ak ⟨rfl,m⟩;have G:=X m;clear m;go_wp21;apply(mC G.o _ Ur<|b.o _ Ur).M;rintro a al ⟨rfl,n⟩;have I:=X n;clear n;go_wp21;apply(mC I.o _ Ur<|b.o _ Ur).M;rintro a am ⟨rfl,p⟩;have q:=X p;clear p;go_wp21;apply(qm q.o.1).M;rintro a J ⟨⟨K,rfl⟩,r⟩;have s:=X<|q.o.kv r;clear r;have az:((Bc c d:Nat):Int)≠3:=Y
 have aA:=xN J (.int .u8 (Bc c d:Nat)) (tx<|ov c d)<|.int .i64 K;generalize aB:Bc c d=aC at*;go_wp21;apply(oJ s.o.1 B).M;rintro a an ⟨rfl,t⟩;have u:=X<|s.o.T t;clear t;go_wp21;apply(Az u.o.1 _).M;rintro a aD ⟨rfl,ab⟩;rw[Th af];have ac:=X<|u.o.kv ab;clear ab;have w:=(ac.o.2.B C z λa=>by injection a with a;omega).T y.o;have⟨⟨ao,ap,aq,ar⟩,au,av,aw,ax⟩:=kL w;go_wp21;have hF:=zW (u0:=.int .u8 5) (u1:=tx g) (u2:=.int .i64 0) (u3:=Nl) w;have L:=kr hF 0;have M:=kr hF 1;have N:=kr hF 2;have O:=kr hF 3;refine Q0 (v:=.agg #[.int .u8 5,tx g,.int .i64 0,Nl]) ?_ rfl ⟨Z,zV (A.o.T ac.o) (W i.o)<|SC i.o.symm⟩;simp[results,Tryz.results226,go_sem,L,M,N,O]
def zv{T:lj}{n:PV}{j m y:Nat}{s:Type}(t:Nat->Option (s×Nat))(E:List s)(e:tI T t m=some (E,y))(u:FuncId)(F:Array Value)(ay:∀(G:Array Value) (b:World),Sem.run prog (callFunc u G) b=.ok (.enter u G) b)(k:List s->World->Prop)
  (ab:∀c b w',k c b->b.grownBy w' (some j)->k c w')
  (I:∀a f g,t a=some (g,f)->a<f)
  (ac:∀c a f g b,t a=some (g,f)->mh T n b j a->k c b->c.length<=20000->Calls prog u F b λd w'=>(∃v,d=.returned v)/\mh T n w' j f/\k (c++[g]) w')
  (b:World) (ad:mh T n b j m) (ae:k [] b):
  Calls prog 164 #[.pointer j,.func (.func u) #[] F] b λd w'=>(∃v,d=.returned v)/\mh T n w' j y/\k E w':=by
 unfold tI at e;by_cases z:ov T m=[40]
 .rw[RG z]at e;have J:=ad;have i:=(GO ab<|GO I ac)
  have K:=ae;have L:tq T [40] m=some (m+1):=(by unfold tq;rw[RG z]);by_cases w:ov T (m+1)=[41]
  .rw[RG w]at e;injection e with e;injection e with af ag;subst af ag
   go_enter func164,ntmps164
   go_wp21;apply(nw J _ L Ur).M;rintro d ah ⟨⟨v,rfl⟩,A⟩;go_wp21;apply(sD A _ Ur w).M;rintro d M ⟨rfl,l⟩;go_wp21;refine Q0 (results_none Z _ _ _) Z ?_;exact⟨⟨_,Z⟩,l.1,i.1 _ _ _ K l.2⟩
  rw[Rl w]at e;obtain⟨g,f,N,O,rfl,ai⟩:=rO e
  go_enter func164,ntmps164
  go_wp21;apply(nw J _ L Ur).M;rintro d ah ⟨⟨v,rfl⟩,A⟩;go_wp21;apply(mC A _ Ur w).M;rintro d M ⟨rfl,l⟩;go_wp21;apply(i.2.2 [] _ _ g M O l.1 (i.1 _ _ _ K l.2) Us).M;rintro d az ⟨⟨aA,rfl⟩,aj,ak⟩;have B:=(GO aj ak)
  go_wp21
  go_loopg [] (T.length-f) (λal wr=>∃(c C:List s) (a:Nat),c++C=g::N/\c.length<=a/\a+al=T.length/\mh T n wr j a/\k c wr/\Im T t a C y)
  .have hs:=B.1.small;have:=i.2.1 _ _ _ O;exact⟨[g],N,f,Z,Uw,Y,B.1,B.2,ai⟩
  have⟨c,C,a,p,aB,aC,P,Q,am⟩:=hrel;have aD:=P.small;have R:=(lN.refl P)
  rcases am with⟨x,aE,an⟩|⟨x,rfl,rfl⟩
  .obtain⟨S,U,ao,ap,rfl,aq⟩:=rO an;have D:=(GO ap aq)
   go_wp21;apply(sD R _ Ur x).M;rintro d V ⟨rfl,q⟩;go_wp21;apply(i.2.2 c _ _ S V D.1 q.1 (i.1 _ _ _ Q q.2) Y).M;rintro d ar ⟨⟨au,rfl⟩,aa,av⟩;have r:=(GO aa av)
   have aF:=aa.small;have I:=i.2.1 _ _ _ D.1;go_wp21
   go_roundg (T.length-U)
   case measure=>omega
   case rel=>exact⟨c++[S],ao,U,by rw[Rv];exact p,by rw[Q6];simp;omega,Y,r.1,r.2,D.2⟩
  have aw:ov T a≠[44]:=(by rw[x];decide);have ax:tq T [41] a=some (a+1):=(by unfold tq;rw[RG x]);go_wp21;apply(mC R _ Ur aw).M;rintro d V ⟨rfl,q⟩;go_wp21;apply(nw q.1 _ ax Ur).M;rintro d ar ⟨⟨au,rfl⟩,l⟩;have r:=(q.T l)
  go_wp21
  go_end0
  have p:=p;rw[Sq]at p;exact⟨⟨_,Z⟩,r.1,by rw[<-p];exact i.1 _ _ _ Q r.2⟩
 .rw[Rl z]at e;cases e
