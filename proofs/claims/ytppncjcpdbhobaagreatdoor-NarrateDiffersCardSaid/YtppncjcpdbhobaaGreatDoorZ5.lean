import Derived.Test.YtppncjcpdbhobaaGreatDoorZ2
import Derived.Test.YtppncjcpdbhobaaGreatDoorZ4
set_option maxRecDepth 1000000
set_option maxHeartbeats 32000000
set_option linter.all false
namespace Go.Proofs.YtppncjcpdbhobaaGreatDoor
open RowKit Go.Proofs.Tryz lI Maps oZ qQ ChangeShapes WideShapes ChangeAt
def lI.vh(p):(sf p 3).length=max (um p) (Bg p):=by have a:=HJ p 0;have b:=HJ p 1;have c:=HJ p 2;rw[if_pos Y]at a;simp only[sf,List.length_append,List.length_nil,a,b,c,um,Bg];split<;>split<;>split<;>omega
def FZ{S}{w c:Nat}{z q f}{d:Nat}{F g}{e i:Nat}{j}{k l:Nat}{A x m G}{I:Nat}{J}{K L M:Nat}{n:Option Addr}{p:Nat}{s:List Co}(h:Ni S w c z q d F g e i j k l A x m G I J K L M)(r:q.grownBy f<|some w)
  (N:kJ (mn .i64) 74 3 (λa=>q<=a) f q (n,d,p) s) (O:s.length=d) (P:∀B C,s[B]?=some C->yo e m B C):
  pQ z (.returned<|.agg #[tx mM,.slice g e i,.slice j k l,(n,d,p)]) ((((f.setCell c<|tx mM).setCell ⟨c,1,none⟩<|.slice g e i).setCell ⟨c,2,none⟩<|.slice j k l).setCell ⟨c,3,none⟩ (n,d,p)):=by
 have R:=h.zB;have T:=h.len.2.2;have U:=r.size;have y:∀a,a≠c->((((f.setCell c<|tx mM).setCell ⟨c,1,none⟩<|.slice g e i).setCell ⟨c,2,none⟩<|.slice j k l).setCell ⟨c,3,none⟩ (n,d,p)).heap[a]?=f.heap[a]?:=λa b=>
  (Q5 _ _ _ _ b).T ((Q5 _ _ _ _ b).T<|(Q5 _ _ _ _ b).T<|Q5 _ _ _ _ b)
 have v:((((f.setCell c<|tx mM).setCell ⟨c,1,none⟩<|.slice g e i).setCell ⟨c,2,none⟩<|.slice j k l).setCell ⟨c,3,none⟩ (n,d,p)).heap.size=f:=by simp only[QW]
 have D:∀a,w<a->a<q->((((f.setCell c<|tx mM).setCell ⟨c,1,none⟩<|.slice g e i).setCell ⟨c,2,none⟩<|.slice j k l).setCell ⟨c,3,none⟩ (n,d,p)).heap[a]?=q.heap[a]?:=λa V Q=>(y a Y).T (r.B a Q λt=>by injection t with t;omega);refine⟨mM,g,j,n,e,i,k,l,d,p,⟨mM,A,x,s⟩,Z,⟨_,_,_,Z,?_,?_,?_⟩,⟨e,m,Z,h.f2,h.Ns,?_,?_,?_,?_,?_,P⟩,?_⟩
 .exact(h.Nr.ku mH.ok λa b=>D a b.1 b.2).M mH.ok (λa b=>⟨W b.1,by rw[v];have:=b.2;omega⟩)
 .exact(h.Ox.ku nV.ok λa b=>D a b.1 b.2).M nV.ok (λa b=>⟨W b.1,by rw[v];have:=b.2;omega⟩)
 .exact((N.sl<|mn.ok _).ku (mn.ok _) λa b=>y a<|by rcases b.1 with h|h<;>omega).M (mn.ok _) (λa b=>⟨by rcases b.1 with h|h<;>omega,by rw[v];exact b.2⟩)
 .rw[h.len.2.1];exact h.n1
 .rw[h.len.2.1];exact h.n3
 .intro aa E;rw[h.Oz,R6]at E;obtain⟨u,_,rfl⟩:=E;have ab:=vh u;have ac:1<=um u/\um u<=3:=UH;have ad:Bg u<=3:=(by unfold Bg;omega);exact⟨Y,Y,Df u 3⟩
 .show nQ m.length (m.length*m.length) x;rw[h.len.2.1];exact h.Oy
 .show s.length=m.length;rw[h.len.2.1];exact O
 .refine⟨r.os.T h.rb.os,r.tape.T h.rb.tape,r.output.T h.rb.output,by rw[v];omega,λa b=>?_⟩;exact(y a Y).T ((r.B a Y λt=>by injection t with t;omega).T<|h.rb.B a b)
def Fc:EY oi:=by intro b c a;simp at a;exact a.2
def kI.xw:∀a,mr false a=pre oc a+mr false (a.drop<|pre oc a)
 |[]=>by simp[pre_nil,mr]
 |c::t=>by
  rw[nI];split
  rename_i b
  have:=xw t;rw[List.drop_succ_cons,mr,if_pos b];omega;simp
def kI.rp(a:List UInt8):Option<|List UInt8:=syms.find?<|pfx a
def kI.ow(a:List UInt8):Nat×Nat:=
 if lS (a.headD 0).toNat then
  if tu (a.take<|pre lT a)then(2,pre lT a)
  else if pre lT a<=12 then(1,pre lT a)else(5,a.length)
 else if mF (a.headD 0).toNat then
  if pre mF a==1||((a.headD 0).toNat:Int) !=48 then(3,pre mF a)else(5,a.length)
 else match rp a with
  |some x=>(4,x.length)
  |none=>(5,a.length)
def kI.DG(a)(b c:Nat)(d:b+mr false (a.drop b)=mr false a)(e:pre oc (a.drop b)=c):
  b+c+mr false (a.drop<|b+c)=mr false a:=by
 rw[xw,e,List.drop_drop]at d;omega
def kI.Ku(a:ByteArray)(b:0<a.size)(c:lS (a[0]).toNat=true)(d:tu (a.data.toList.take<|pre lT a.data.toList)=true):
  ow a.data.toList=(2,pre lT a.data.toList):=by
 unfold ow;rw[pD a b,if_pos c,if_pos d]
def kI.F5(a:ByteArray)(b:0<a.size)(c:lS (a[0]).toNat=true)(d:tu (a.data.toList.take<|pre lT a.data.toList)=false)(e:pre lT a.data.toList<=12):
  ow a.data.toList=(1,pre lT a.data.toList):=by
 unfold ow;rw[pD a b,if_pos c,if_neg (by rw[d];simp),if_pos e]
def kI.F6(a:ByteArray)(b:0<a.size)(c:lS (a[0]).toNat=true)(d:tu (a.data.toList.take<|pre lT a.data.toList)=false)(e:¬pre lT a.data.toList<=12):
  ow a.data.toList=(5,a.size):=by
 unfold ow;rw[pD a b,if_pos c,if_neg (by rw[d];simp),if_neg e];simp
def kI.IG(a:ByteArray)(c:0<a.size)(d:lS (a[0]).toNat=false)(e:mF (a[0]).toNat=true)(f:pre mF a.data.toList=1\/(((a[0]).toNat:Int) !=48)=true):
  ow a.data.toList=(3,pre mF a.data.toList):=by
 unfold ow;rw[pD a c,if_neg (by rw[d];simp),if_pos e,if_pos];rcases f with b|b<;>simp[b]
def kI.F7(a:ByteArray)(b:0<a.size)(c:lS (a[0]).toNat=false)(d:mF (a[0]).toNat=true)(e:pre mF a.data.toList≠1)(f:(((a[0]).toNat:Int) !=48)=false):
  ow a.data.toList=(5,a.size):=by
 unfold ow;rw[pD a b,if_neg (by rw[c];simp),if_pos d,if_neg]
 .simp
 .rw[f];simpa using e
def kI.Cw(c)(a:Nat)(f:a<25)(g:∀b,b<a->pfx c (syms[b]?.getD [])=false)(d:pfx c (syms[a]?.getD [])=true):rp c=some (syms[a]?.getD []):=by have e:a<syms.length:=f;unfold rp;rw[List.getElem?_eq_getElem e,Option.getD_some]at d⊢;rw[List.find?_eq_some_iff_getElem];refine⟨d,a,e,Z,λb i=>?_⟩;have:=g b i;rw[List.getElem?_eq_getElem Y,Option.getD_some]at this;simp[this]
def kI.yv(b)(d:∀a,a<25->pfx b (syms[a]?.getD [])=false):rp b=none:=by unfold rp;rw[List.find?_eq_none];intro g e;have⟨a,c,f⟩:=List.getElem_of_mem e;have:=d a c;rw[List.getElem?_eq_getElem c,Option.getD_some,f]at this;simp[this]
def kI.IH(a:ByteArray)(d:0<a.size)(e:lS (a[0]).toNat=false)(f:mF (a[0]).toNat=false)(b:Nat)(g:b<25)(i:∀c,c<b->pfx a.data.toList (syms[c]?.getD [])=false)(j:pfx a.data.toList (syms[b]?.getD [])=true):
  ow a.data.toList=(4,(syms[b]?.getD []).length):=by
 unfold ow;rw[pD a d,if_neg (by rw[e];simp),if_neg (by rw[f];simp),Cw _ b g i j]
def kI.F8(a:ByteArray)(c:0<a.size)(d:lS (a[0]).toNat=false)(e:mF (a[0]).toNat=false)(f:∀b,b<25->pfx a.data.toList (syms[b]?.getD [])=false):
  ow a.data.toList=(5,a.size):=by
 unfold ow;rw[pD a c,if_neg (by rw[d];simp),if_neg (by rw[e];simp),yv _ f];simp
def sI(d:ByteArray)(c)(j:tH c):
  Calls prog 161 #[.string d] c λe k=>e=.returned (.bool<|kI.tu d.data.toList)/\c=k:=by
 have⟨l,m,n⟩:=j
 go_enter func161,ntmps161
 go_wp2_with (refine TY Z 319 _ Z 3 Z l _ m _ n sH Z tW ?_)
 go_loop [4,6] (λ_ f=>∃a:Nat,a<=39/\f=a/\∀b,b<a->(kI.words[b]?.getD []==d.toList)=false) (λ_ f=>39-(intOf f).toNat)
 .exact⟨0,Q1 _,Z,Y⟩
 obtain⟨a,q,rfl,g⟩:=hrel;by_cases i:a<39
 .have r:=λc=>vk c a i;cases hq:(kI.words[a]?.getD []==d.toList)
  .go_wp2
   go_round
   .refine⟨a+1,Y,Uv,λb p=>?_⟩;by_cases e:b=a;rw[e];exact hq;exact g b Y
   simp[intOf];omega
  go_wp2;go_ret;exact⟨by rw[kI.Fe _ a i<|by rw[<-SA];exact hq];rfl,Z⟩
 go_wp2;go_ret;exact⟨by rw[kI.BK _ λb p=>by rw[<-SA];exact g b Y];rfl,Z⟩
def xU:Bp 174:=by
 intro O P a o Q e R z f A B g S;obtain⟨T,U,rfl,rfl,C⟩:=A.open;have⟨⟨p,V,k,q,D,r,l,m⟩,_⟩:=B;obtain⟨aa,ab,rfl,ac⟩:=C.form;have i:=f 0 _ Z;have s:=f 1 _ Z;have t:=f 2 _ Z;have n:=f 3 _ Z;rw[Q3]at i;rw[q]at n;obtain⟨b,u⟩:∃b:Nat,b=e.op.toNat:=⟨_,Z⟩
 have v:e.op=(b:Int):=Y
 rw[<-u]at k;rw[v]at i l m;have E:1<=b:=Y
 have F:=X k;have j:=Ft i s t n;have G:=X r;have w:=D0 l m;clear q D r l m k u v
 go_enter func174,ntmps174
 go_wp21;apply(sU b p F.o E _ z).M;rintro ad I ⟨rfl,c⟩;have J:=c.size;have ae:=(Cb a o<|c.B a g).T j.o.1;have K:=(Cb a (o+1)<|c.B a g).T j.o.2.1;have L:=(Cb a (o+2)<|c.B a g).T j.o.2.2.1;have af:=(Cb a (o+3)<|c.B a g).T j.o.2.2.2;have ag:a<I:=Y
 clear i s t n;have x:((b:Int)==1)=true->decide ((0:Int)<=e.n)=true:=λd=>by rw[TD];exact w.o.1 (by rw[R5]at d;exact d)
 have y:((b:Int)==1)=false->e.n=0:=λd=>w.o.2 (by rw[QY]at d;exact d);cases PT:((b:Int)==1)<;>cases hq:p.2.1;all_goals
  first|have ah:=x PT|have M:=y PT
  first|have N:=G.o hq|skip
  first|rw[N]at K|skip
  first|rw[M]at L|skip
  clear x y;go_wp21;go_quiet (fail);go_wp21;go_ret;exact⟨Z,nb (c.alloc J _) _⟩
def sN(i:FuncId)(E:mQ i)(F:Bp i)(r:Nat)(G:∀c,r=c+1->Dg i c):Dg i r:=by
 intro y d e o f j z s k t u l;unfold mQ at E;have I:=t.two;have J:=F y d e o r f j z s k t u l;obtain⟨c,V,rfl,rfl,v⟩:=k.open;have⟨_,K⟩:=t;obtain⟨aa,ab,rfl,L⟩:=v.form;have⟨m,A⟩:=Xq f.args.length;rw[<-A]at v L s I;have B:=s 3 _ Z;have M:=(G c Z)
 go_enter func191,ntmps191
 go_wp2_with (apply J.M;rintro f ac ⟨rfl,n⟩;have N:=n;have ad:=n.size;have ae:=(Cb e (o+3)<|n.B e u).T B;clear n);go_loopw [15] (λw wr=>∃a:Nat,a<=m/\w=a/\Below d d wr) (λw _=>m-(intOf w).toNat)
 .exact⟨0,Q1 _,Z,N⟩
 obtain⟨a,af,rfl,b⟩:=hrel;have O:=b.size;have ag:=(Cb e (o+3)<|b.B e u).T B;by_cases ah:a<m
 .obtain⟨g,C⟩:∃g,f.args[a]?=some g:=Gx<|W A;obtain⟨p,D,j,rfl,P,k,Q⟩:=v.ll (kP.ok .u8 c) a g C;have R:p<d:=l p P;have S:=(M y wr p (D+a*4) g j (z.to b) ((show At d p (D+a*4) j from Q).kv b R) ((kP.ok .u8 c).ku k λq x=>b.B q<|l q x) (K g<|QV C) Y λq x=>W<|l q x)
  have ai:(0:Int)<=(a:Int):=Y;go_wp21;apply S.M;rintro f aj ⟨rfl,T⟩;have U:=(b.T<|T.M O)
  go_wp21;go_roundw
  .exact⟨a+1,Y,Uv,U⟩
  simp[intOf];omega
 obtain rfl:a=m:=Y;go_wp21;go_ret;exact⟨Z,b⟩
def tK(a:FuncId)(b:mQ a)(c:Bp a):∀d,Dg a d
 |0=>sN a b c 0 λe f=>by omega
 |d+1=>sN a b c (d+1) λe f=>by obtain rfl:d=e:=Y;exact tK a b c d
def xz(i:FuncId)(z:mQ i)(A:Bp i)(m a)(e o t:Nat)(j f)(B:lY a)(u:At a e o f)(n:kR .u8 t m a f j)(v:nS t j)(C:e<a)(D:∀c,m c->c<a):
  Calls prog 172 #[.pointer<|mw e o,.func (.func i) #[] #[]] a (kH (.bool true) a):=by
 have E:=v.five;obtain⟨S,T,U,V,rfl,rfl,p,_,_⟩:=n.open;have⟨_,F,_⟩:=v;obtain⟨aa,ab,rfl,G⟩:=p.form;have⟨k,w⟩:=Xq j.lp.length;rw[<-w]at p G u E;have I:=u 3 _ Z;have q:=D;have J:=B;have K:=(tK i z A De)
 go_enter func172,ntmps172
 go_wp21;go_loopw [11] (λr wr=>∃b:Nat,b<=k/\r=b/\Below a a wr) (λr _=>k-(intOf r).toNat)
 .exact⟨0,Q1 _,Z,Below.refl _ _⟩
 obtain⟨b,ac,rfl,d⟩:=hrel;have L:=d.size;have ad:=(Cb e (o+3)<|d.B e C).T I;by_cases ae:b<k
 .obtain⟨g,x⟩:∃g,j.lp[b]?=some g:=Gx<|W w;obtain⟨l,y,f,rfl,M,n,N⟩:=p.ll (kP.ok .u8 De) b g x;have O:l<a:=q l M;have P:=(K m wr l (y+b*4) g f (J.to d) ((show At a l (y+b*4) f from N).kv d O) ((kP.ok .u8 De).ku n λc s=>d.B c<|q c s) (F g<|QV x) Y λc s=>W<|q c s)
  have af:(0:Int)<=(b:Int):=Y;go_wp21;apply P.M;rintro ag ah ⟨rfl,Q⟩;have R:=(d.T<|Q.M L)
  go_wp21;go_roundw
  .exact⟨b+1,Y,Uv,R⟩
  simp[intOf];omega
 obtain rfl:b=k:=Y;go_wp21;go_ret;exact⟨Z,d⟩
def xV:Bq 124:=by
 intro O q a o au l av P d r s b t;have Q:=d;have R:=r;have S:=s;obtain⟨aw,ax,ay,az,rfl,rfl,T,U,V⟩:=r.open;have⟨⟨e,aA,n,aa,u,ab,v,aB,aC,w,x⟩,ac,⟨aD,aE⟩,_⟩:=s;obtain⟨aF,aG,rfl,aH⟩:=T.form;obtain⟨aI,aJ,rfl,aK⟩:=U.form;obtain⟨aL,aM,rfl,aN⟩:=V.form;have m:=d 0 _ Z;have y:=d 1 _ Z;have z:=d 2 _ Z;have A:=d 3 _ Z;have B:=d 4 _ Z;have C:=d 5 _ Z;rw[Q3]at m;obtain⟨i,D⟩:∃i:Nat,i=l.kind.toNat:=⟨_,Z⟩
 have E:l.kind=(i:Int):=Y
 rw[<-D]at n;rw[E]at m;have ad:1<=i:=Y
 have F:=P;have ae:=X n;have f:=(GO m<|GO y<|GO z<|GO A<|GO B C)
 have j:=(GO Q<|GO R S)
 have k:=t;have G:=(GO u v)
 have I:=(GO w x)
 have⟨J,K⟩:=Xq l.lp.length;have aO:¬(J:Int)<(e.2.2.1:Int):=Y
 have aP:¬(e.2.2.2.1:Int)<(J:Int):=Y
 have af:=X K;clear aa u ab v w x ac n D E t K
 go_enter func124,ntmps124
 go_wp21;apply(BL i e ae.o ad _ F).M;rintro aQ ag ⟨rfl,c⟩;have L:=c.size;have aR:=(Cb a o<|c.B a b).T f.1;have ah:=(Cb a (o+1)<|c.B a b).T f.2.1;have ai:=(Cb a (o+2)<|c.B a b).T f.2.2.1;have aj:=(Cb a (o+3)<|c.B a b).T f.2.2.2.1;have ak:=(Cb a (o+4)<|c.B a b).T f.2.2.2.2.1;have al:=(Cb a (o+5)<|c.B a b).T f.2.2.2.2.2;have aS:a<ag:=Y
 have M:=c;rw[<-af.o]at aj;clear m y z A B C;have N:=λ(p:World) (g:Below q q p)=>xz 174 vD xU O p a o _ l _ (F.to g) (px j b k g).1 (px j b k g).2.1 (px j b k g).2.2.1 (px j b k g).2.2.2.1 (px j b k g).2.2.2.2;have am:=N;clear N;cases Oe:e.1<;>cases Og:e.2.1<;>cases QF:e.2.2.2.2.1<;>cases QG:e.2.2.2.2.2;all_goals
  first|(have an:=G.1 Oe;rw[an]at ah)|skip
  first|(have ao:=G.2 Og;rw[ao]at ai)|skip
  first|(have ap:=I.1 QF;rw[ap,Rs]at ak)|skip
  first|(have aq:=I.2 QG;rw[aq,Rs]at al)|skip
  go_wp21;apply(am _<|M.alloc L _).M;rintro aT p ⟨rfl,ar⟩;go_wp21;go_ret;exact⟨Z,(M.alloc L _).T<|ar.M Uw⟩
def xA(q:FuncId)(N:mQ q)(O:Bq q)(m:Nat)(P:∀n,m=n+1->Dh q n):Dh q m:=by
 intro t d ao p ap Q u A aq R f;unfold mQ at N;have S:=A.len
 have T:=S.1;have B:=P;have U:=O
 go_enter func120,ntmps120
 go_wp21;go_loopw [9] (λv wr=>∃b:Nat,b<=p/\v=b/\Below d d wr) (λv _=>p-(intOf v).toNat)
 .exact⟨0,Q1 _,Z,Below.refl _ _⟩
 obtain⟨b,ar,rfl,j⟩:=hrel;have V:=j.size;by_cases au:b<p
 .obtain⟨g,C⟩:∃g,Q[b]?=some g:=Gx<|W T;obtain⟨e,r,D,rfl,aa,E,ab⟩:=A.ll (kR.ok .u8 m) b g C;have w:e<d:=f e aa;have F:=R g<|QV C;have x:At d e (r+b*6) D:=ab;have ac:=(U t wr e (r+b*6) m g D (u.to j) (x.kv j w) ((kR.ok .u8 m).ku E λa c=>j.B a<|f a c) F Y λa c=>W<|f a c)
  obtain⟨n,av,aw,ax,rfl,rfl,_,G,I⟩:=E.open;have⟨_,_,⟨ad,ae⟩,af,ag⟩:=F;obtain⟨ah,ai,rfl,_⟩:=G.form;obtain⟨aj,ak,rfl,_⟩:=I.form;have J:=x 4 _ Z;have K:=x 5 _ Z;have al:=(λ(k:World) (i:Below d d k)=>B n Z t k ah _ ai g.th (u.to i) (G.ku (kR.ok .u8 _) λa c=>i.B a<|f a c) ad af λa c=>QR (f a c) i.size)
  have am:=(λ(k:World) (i:Below d d k)=>B n Z t k aj _ ak g.el (u.to i) (I.ku (kR.ok .u8 _) λa c=>i.B a<|f a c) ae ag λa c=>QR (f a c) i.size)
  have L:=(GO J K)
  obtain⟨ay,az⟩:=nL b p;go_wp2_with (apply ac.M;rintro M k ⟨rfl,l⟩;have y:=j.T<|l.M V;have z:=y;have J:=(Cb e (r+b*6+4)<|y.B e w).T L.1;clear l y);apply(al _ z).M;rintro M aA ⟨rfl,l⟩;have s:=z.T<|l.M z.size;have K:=(Cb e (r+b*6+5)<|s.B e w).T L.2;go_wp21;apply(am _ s).M;rintro M aB ⟨rfl,l⟩;have an:=(s.T<|l.M s.size)
  go_wp21;go_roundw
  .exact⟨b+1,Y,Uv,an⟩
  simp[intOf];omega
 obtain rfl:b=p:=Y;go_wp21;go_ret;exact⟨Z,j⟩
def sV(a:FuncId)(b:mQ a)(c:Bq a):∀d,Dh a d
 |0=>xA a b c 0 λe f=>by omega
 |d+1=>xA a b c (d+1) λe f=>by obtain rfl:d=e:=Y;exact sV a b c d
def yZ(y:Nat)(V:∀aa,y=aa+1->LO aa):LO y:=by
 intro ab c aW r ac v e aX ad ax aY ae;have af:=e.len;have aZ:r<=12:=Y
 have B:=X af.1;have C:=ae;have ay:=e;have ag:=ad;have ah:=V;clear ad ae af V
 go_enter func167,ntmps167
 go_wp21;go_loopw [3,9] (λm M wr=>∃f n:Nat,f<=r/\M=f/\m=n/\n<=uR (y-1) v f/\Below c c wr) (λ_ M _=>r-(intOf M).toNat)
 .exact⟨0,r,Q1 _,Z,Z,by rw[Ga];have:=B.o;omega,Below.refl _ _⟩
 obtain⟨f,n,ba,rfl,rfl,p,N⟩:=hrel;have z:=N;have D:=N.size;have J:=p;by_cases bb:f<r
 .obtain⟨i,E⟩:∃i,v[f]?=some i:=Gx<|W B.o;obtain⟨l,w,a,rfl,az,A,O⟩:=ay.ll (kR.ok .u8 _) f i E;have ai:l<c:=C l az;have N:l<wr:=Y;have aA:=ag i<|QV E;have aB:=QV E;obtain⟨j,bc,bd,be,aC,rfl,_,aj,ak⟩:=A.open;subst aC;rw[Tk]at J;have⟨_,_,⟨aD,aE⟩,al,am⟩:=aA;obtain⟨an,ao,rfl,_⟩:=aj.form;obtain⟨ap,aq,rfl,_⟩:=ak.form;have P:=(GO (O 4 _ rfl)<|O 5 _ rfl)
  have Q:=Fh ax aB;have ar:=(λ(F:World) (G:Below c c F)=>ah j Z ab F an _ ao i.th (aj.ku (kR.ok .u8 _) λt x=>G.B t<|C t x) aD al Q.1 Y λt x=>QR (C t x) G.size)
  have au:=(λ(F:World) (G:Below c c F)=>ah j Z ab F ap _ aq i.el (ak.ku (kR.ok .u8 _) λt x=>G.B t<|C t x) aE am Q.2 Y λt x=>QR (C t x) G.size)
  obtain⟨bf,bg⟩:=nL f r;have R:=X<|yY j E;have av:=xd j v;have bh:=Gb j v (f+1) r Y;rw[B.o]at av;have bi:uR j v (f+1)<=40:=Y
  clear av;have⟨aF,S⟩:=Xq i.th.length;have⟨aG,T⟩:=Xq i.el.length;rw[<-S,<-T]at P;rw[<-S]at ar;rw[<-T]at au;clear O E al am Q S T;go_wp21;refine tE (λi=>Below wr wr i) (λm c=>∃b a:Nat,m=.int .i64 ((n+(b+a):Nat):Int)/\b<=kT j i.th/\a<=kT j i.el/\Below wr wr c) (mU [(·=n),(·=.slice (mw l w) r ac),(·=f),(Pp l<|w+f*6),(Pp l<|w+f*6+4),(·=.slice an aF ao),Tr,(·=.slice (mw l w) r ac),(·=f),(Pp l<|w+f*6),(Pp l<|w+f*6+5),(·=.slice ap aG aq),Tr,Tr,Tr,Tr]) [(6,λm c=>∃(b:Nat),m=b/\b<=kT j i.th),(12,λm c=>∃(a:Nat),m=a/\a<=kT j i.el),(13,λm c=>∃b a:Nat,m=.int .i64 ((b+a:Nat):Int)/\b<=kT j i.th/\a<=kT j i.el),(14,λm c=>∃b a:Nat,m=.int .i64 ((n+(b+a):Nat):Int)/\b<=kT j i.th/\a<=kT j i.el)] ((Below.refl _ _).drew) ⟨?_,?_,?_,?_,?_,?_,?_,?_,?_,?_,?_,?_,?_,?_,?_,?_,trivial⟩ ?_;intro u c d s e k q;have bj:=Sl 3<|q 15 _ 3 Z Z Z;clear s e k q;exact .q (g:=⟨Z,d,Qa⟩);exact Pf 0;exact Pf 4;intro u c d s e k q;have bk:=Sv 13 e 1;have bl:=Sv 14 e 2;exact .q (g:=⟨Z,d,Qa⟩);exact Pv 15 3;intro u c d s e k q;have g:=(Cb l (w+f*6+4)<|(z.T<|d.M D).B l ai).T P.1;exact .l 16 (e 4 _ Z Z) g ⟨Z,d,Qa⟩;intro u c d s e k q;have bm:=Sv 17 e 5;refine .c (ar c<|z.T<|d.M D) ?_;rintro I aH ⟨b,rfl,p,U⟩;exact⟨_,Z,⟨trivial,d.T<|U.M d.size,Qc ⟨b,Z,p⟩<|Qd (λaI ⟨a,I,p⟩=>⟨a,I,p⟩)<|Q2<|Qe⟩⟩;exact Pf 0;exact Pf 4;intro u c d s e k q;have bn:=Sv 19 e 7;have bo:=Sv 20 e 8;exact .q (g:=⟨Z,d,Qa⟩);exact Pv 21 9;intro u c d s e k q;have g:=(Cb l (w+f*6+5)<|(z.T<|d.M D).B l ai).T P.2;exact .l 22 (e 10 _ Z Z) g ⟨Z,d,Qa⟩;intro u c d s e k q;have bp:=Sv 23 e 11;refine .c (au c<|z.T<|d.M D) ?_;rintro I aH ⟨a,rfl,p,U⟩;exact⟨_,Z,⟨trivial,d.T<|U.M d.size,Qd (λaI ⟨b,I,p⟩=>⟨b,I,p⟩)<|Qc ⟨a,Z,p⟩<|Q2<|Qe⟩⟩;intro u c d s e k q;obtain⟨b,aJ,aK⟩:=lg k 0;have bq:=Sl 18 aJ;obtain⟨a,aL,aM⟩:=lg k 1;have br:=Sl 24 aL;have aN:IntKind.i64.wrap ((b:Int)+(a:Int))=(b:Int)+(a:Int):=(by have:=R.o;simp[IntKind.wrap,IntKind.bits,IntKind.signed];omega);exact .q (g:=⟨trivial,d,Q2<|Qc ⟨b,a,UB,aK,aM⟩<|Qa⟩);intro u c d s e k q;have bs:=Sv 12 e 0;obtain⟨b,a,aO,K,A⟩:=lg k 2;have bt:=Sl 25 aO;have aN:IntKind.i64.wrap ((n:Int)+((b:Int)+(a:Int)))=(n:Int)+((b:Int)+(a:Int)):=(by have:=R.o;have:=J;simp[IntKind.wrap,IntKind.bits,IntKind.signed];omega);exact .q (g:=⟨trivial,d,Q2<|Qb<|Qc ⟨b,a,UB,K,A⟩<|Qa⟩);intro u c d s e k q;obtain⟨b,a,aP,K,A⟩:=lg k 3;have bu:=Sl 26 aP;refine .h λbv aQ=>?_;go_simp;exact aQ<|⟨b,a,Z,K,A,d⟩;intro aR bw aS aT;have⟨b,a,L,K,A,aU⟩:=aT;replace L:aR 15=.int .i64 ((n+(b+a):Nat):Int):=L;simp only[nE,L];have aV:=(z.T<|aU.M D)
  clear aS L;go_wp21;go_roundw
  .exact⟨f+1,n+(b+a),Y,Uv,Z,by rw[Tk,R.o];have:=J;omega,aV⟩
  simp[intOf];omega
 obtain rfl:f=r:=Y;go_wp21;go_ret;refine⟨n,Z,?_,z⟩;have p:=J;have aw:=xd (y-1) v;rw[B.o]at aw;cases y with
 |zero=>
  cases v with
  |nil=>have:=B.o;simp[uR]at*;omega
  |cons i v=>exact(ag i Us).elim
 |succ y=>rw[Tk]at aw p;omega
def BM:∀d,LO d
 |0=>yZ 0 λb a=>Y
 |d+1=>yZ (d+1) λb a=>(Nat.succ.inj a)▸BM d
def Cy:EZ 123:=by
 intro k l m n p d e f g q v r i j;have b:=HM l g m n p d e f;have s:=(r.ku (kR.ok .u8 Ds) λa c=>b.B a<|j a c)
 have t:=(q.to b)
 go_enter func123,ntmps123
 go_wp21;refine(sV 124 vE xV Ds k _ d e f g.body t s i.C9 i.body (λa c=>by rw[QU];have:=j a c;omega)).M ?_;rintro w x ⟨rfl,u⟩;go_wp21;go_ret;exact⟨Z,b.T<|u.M Us⟩
def vV(aT:Nat)(bd:LQ aT):LR aT:=by
 intro ac b ad ae af U k l m n p q r s t N e O F aA name G aB I f be;have A:=OI.of be;have aY:=f.len;have u:Below b b<|(b.alloc<|pa k l m n p q r s t).alloc<|mu F name aA N e O:=(Ba _ _).alloc Us _;have aZ:((b.alloc<|pa k l m n p q r s t).alloc<|mu F name aA N e O).heap[b.heap.size]?=some (pa k l m n p q r s t):=(Q9 _ _ Us).T<|QT _ _;have ba:((b.alloc<|pa k l m n p q r s t).alloc<|mu F name aA N e O).heap[b.heap.size+1]?=some (mu F name aA N e O):=by have:=QT (b.alloc<|pa k l m n p q r s t)<|mu F name aA N e O;rwa [QU]at this
 have bf:((b.alloc<|pa k l m n p q r s t).alloc<|mu F name aA N e O).heap.size=b+2:=Us
 have J:=(I.kv u)
 have au:=(f.ku (kP.ok .u8 aT) λbb bg=>u.B bb<|I.lJ bb bg)
 have av:=X aY.1;have aw:=u;have K:=X aZ;have L:=X ba;have aC:=bd;clear I aY aZ ba;have⟨aD,w⟩:=Xq<|(b.alloc<|pa k l m n p q r s t).alloc<|mu F name aA N e O;rw[<-w]at J au aw K L bf;have aE:=X w;clear w;cases A with
 |num I aH V=>
  subst aH;have ag:G=[]:=V;have M:e=0:=(by have:=av.o;rw[ag]at this;exact this.symm);have aF:C4 e 0=0:=(by rw[M];rfl);have aa:e<=2:=Y;clear M;have ab:F=1\/F=4:=I;rcases ab with rfl|rfl;all_goals
   go_enter func215,ntmps215
   go_wp21;have w:=aE.o;rw[<-w];clear w;refine(aC ac aD ad ae af U k l m n p q r s t N e O G 0 J au aa<|by rw[ag];simp).M ?_;rintro P i ⟨rfl,c⟩;have⟨j,u⟩:=Xq b.heap.size;have⟨d,x⟩:=Xq<|b.heap.size+1;rw[<-x]at L⊢;rw[<-u]at K⊢;have aG:=c.size;have R:j<i:=Y;have S:d<i:=Y;have y:=X<|(c.B j Y).T K.o;have z:=X<|(c.B d Y).T L.o;have ar:=(J.kv c)
   have T:=(aw.T<|c.M Y)
   have⟨⟨B,C,D⟩,_⟩:=lf y.o;have⟨⟨ah,ai,E,aj⟩,_⟩:=kL z.o;clear x u;rw[aF];go_wp21;refine Q0 (v:=.tuple By) ?_ rfl ⟨Z,T⟩;simp[results,Tryz.results215,go_sem]
 |JY I aH V=>
  subst aH;have ag:G=[]:=V;have M:e=0:=(by have:=av.o;rw[ag]at this;exact this.symm);have aF:C4 e 0=0:=(by rw[M];rfl);have aa:e<=2:=Y;clear M;have ab:F=2\/F=3:=I;rcases ab with rfl|rfl;all_goals
   go_enter func215,ntmps215
   go_wp21;have w:=aE.o;rw[<-w];clear w;refine(aC ac aD ad ae af U k l m n p q r s t N e O G 0 J au aa<|by rw[ag];simp).M ?_;rintro P i ⟨rfl,c⟩;have⟨j,u⟩:=Xq b.heap.size;have⟨d,x⟩:=Xq<|b.heap.size+1;rw[<-x]at L⊢;rw[<-u]at K⊢;have aG:=c.size;have R:j<i:=Y;have S:d<i:=Y;have y:=X<|(c.B j Y).T K.o;have z:=X<|(c.B d Y).T L.o;have ar:=(J.kv c)
   have T:=(aw.T<|c.M Y)
   have⟨⟨B,C,D⟩,_⟩:=lf y.o;have⟨⟨ah,ai,E,aj⟩,_⟩:=kL z.o;clear x u;rw[aF];go_wp21;refine Q0 (v:=.tuple #[.int .u8 2,Em,.int .i64 0]) ?_ rfl ⟨Z,T⟩;simp[results,Tryz.results215,go_sem]
 |name I aI V=>
  have ag:G=[]:=V;have M:e=0:=(by have:=av.o;rw[ag]at this;exact this.symm);have aF:C4 e 0=0:=(by rw[M];rfl);have aa:e<=2:=Y;clear M;have ab:F=5:=I;have aJ:zY U name aB:=aI;subst ab
  go_enter func215,ntmps215
  go_wp21;have w:=aE.o;rw[<-w];clear w;refine(aC ac aD ad ae af U k l m n p q r s t N e O G 0 J au aa<|by rw[ag];simp).M ?_;rintro P i ⟨rfl,c⟩;have⟨j,u⟩:=Xq b.heap.size;have⟨d,x⟩:=Xq<|b.heap.size+1;rw[<-x]at L⊢;rw[<-u]at K⊢;have aG:=c.size;have R:j<i:=Y;have S:d<i:=Y;have y:=X<|(c.B j Y).T K.o;have z:=X<|(c.B d Y).T L.o;have ar:=(J.kv c)
  have T:=(aw.T<|c.M Y)
  have⟨⟨B,C,D⟩,_⟩:=lf y.o;have⟨⟨ah,ai,E,aj⟩,_⟩:=kL z.o;clear x u;rw[aF];go_wp21;apply(DO ac i ad ae af U k l m n p q r s t name aB ar aJ).M;rintro P bh ⟨rfl,aQ⟩;have bi:=(T.T<|aQ.M Y)
  have br:=aQ.size;clear B C D ah ai E aj;have⟨⟨B,C,D⟩,_⟩:=lf<|(aQ.B j R).T y.o;have⟨⟨ah,ai,E,aj⟩,_⟩:=kL<|(aQ.B d S).T z.o;go_wp21;apply(sY _ _ _ aB name bh).M;rintro P bs ⟨rfl,bj⟩;have bk:=(bi.T<|bj.M Y)
  go_wp21;refine Q0 (v:=.tuple<|DS aB) ?_ rfl ⟨Z,bk⟩;simp[results,Tryz.results215,go_sem]
 |size I aH aR aI V=>
  have ag:G=[]:=V;have M:e=0:=(by have:=av.o;rw[ag]at this;exact this.symm);have aF:C4 e 0=0:=(by rw[M];rfl);have aa:e<=2:=Y;clear M;subst aH;have ab:F=8:=I;have aJ:name=nm 116 0:=aI;subst ab aJ
  go_enter func215,ntmps215
  go_wp21;have w:=aE.o;rw[<-w];clear w;refine(aC ac aD ad ae af U k l m n p q r s t N e O G 0 J au aa<|by rw[ag];simp).M ?_;rintro P i ⟨rfl,c⟩;have⟨j,u⟩:=Xq b.heap.size;have⟨d,x⟩:=Xq<|b.heap.size+1;rw[<-x]at L⊢;rw[<-u]at K⊢;have aG:=c.size;have R:j<i:=Y;have S:d<i:=Y;have y:=X<|(c.B j Y).T K.o;have z:=X<|(c.B d Y).T L.o;have ar:=(J.kv c)
  have T:=(aw.T<|c.M Y)
  have⟨⟨B,C,D⟩,_⟩:=lf y.o;have⟨⟨ah,ai,E,aj⟩,_⟩:=kL z.o;clear x u;rw[aF];go_wp21;clear B C D ah ai E aj;refine Ri (λaK=>Below i i aK) (mU [(·=.agg (ph k l m n p q r s t)),(Pp d 1),(·=tx (nm 116 0)),(·=.agg (ph k l m n p q r s t)),(Pp d 1),(·=tx (nm 116 0)),(·=.int .i64 0),(·=.tuple By),(·=.int .u8 1),(·=Em),(·=.int .i64 0),(·=.int .u8 1),(·=Em),(·=.int .i64 0)]) [] ((Below.refl _ _).drew) ⟨?_,?_,?_,?_,?_,?_,?_,?_,?_,?_,?_,?_,?_,?_,trivial⟩ ?_;intro ak b a A f al am;have E:=Sl 2<|A 2 Z;have⟨⟨B,C,D⟩,_⟩:=lf<|(a.B j R).T y.o;exact .q (g:=⟨Z,a,Qa⟩);exact .f 3;exact .l 50 1 λ_ a=>kB ((a.B d S).T z.o) 1 _ Z;intro ak b a A f al am;have E:=Sl 2<|A 2 Z;have⟨⟨B,C,D⟩,_⟩:=lf<|(a.B j R).T y.o;exact .q (g:=⟨Z,a,Qa⟩);exact .f 3;exact .l 53 4 λ_ a=>kB ((a.B d S).T z.o) 1 _ Z;intro ak b a A f al am;have bt:=Sv 52 f 3;have bu:=Sv 54 f 5;refine .h λaL an=>?_;go_simp;refine⟨Z,?_⟩;refine Calls.M (sJ ac b ad ae af U k l m n p q r s t (ar.kv a) aR) ?_;rintro P aM ⟨ao,ap⟩;subst ao;exact⟨_,Z,an ⟨Z,a.T<|ap.M a.size,Qe⟩⟩;intro ak b a A f al am;have bv:=Sv 49 f 0;have bw:=Sv 51 f 2;have bx:=Sv 55 f 6;refine .h λaL an=>?_;go_simp;refine⟨Z,?_⟩;refine Calls.M (sY _ _ _ 1 (nm 116 0) b) ?_;rintro P aM ⟨ao,ap⟩;subst ao;exact⟨_,Z,an ⟨Z,a.T<|ap.M a.size,Qe⟩⟩;exact .v 56 7;exact .v 56 7;exact .v 56 7;exact .v 57 8;exact .v 58 9;exact .v 59 10;intro aq bc aN Q aO;have ax:aq 11=.int .u8 1:=Q 11 Ur;have ay:aq 12=Em:=Q 12 Ur;have az:aq 13=.int .i64 0:=Q 13 Ur;have aP:=aN;clear Q aO;simp only[nE,ax,ay,az];clear ax ay az;go_wp21;refine Q0 (v:=.tuple By) ?_ rfl ⟨Z,(T.T<|aP.M Y)⟩;simp[results,Tryz.results215,go_sem]
 |get I aR aI aU aV V=>
  have M:¬e=0:=(by have:=av.o;have aW:0<G.length:=aU;omega);have aa:e<=2:=(by have:=av.o;have aW:G.length<=2:=aV;omega);have aJ:name=nm 116 0:=aI;subst aJ;have ab:(F=6/\aB=1)\/(F=7/\aB=2):=I;have aS:C4 e 1=1:=(by unfold C4;rw[Rl M]);rcases ab with⟨rfl,rfl⟩|⟨rfl,rfl⟩
  .go_enter func215,ntmps215
   go_wp21;have w:=aE.o;rw[<-w];clear w;apply(aC ac aD ad ae af U k l m n p q r s t N e O G 1 J au aa V).M;rintro P i ⟨rfl,c⟩;have⟨j,u⟩:=Xq b.heap.size;have⟨d,x⟩:=Xq<|b.heap.size+1;rw[<-x]at L⊢;rw[<-u]at K⊢;have aG:=c.size;have R:j<i:=Y;have S:d<i:=Y;have y:=X<|(c.B j Y).T K.o;have z:=X<|(c.B d Y).T L.o;have ar:=(J.kv c)
   have T:=(aw.T<|c.M Y)
   have⟨⟨B,C,D⟩,_⟩:=lf y.o;have⟨⟨ah,ai,E,aj⟩,_⟩:=kL z.o;clear x u;rw[aS];go_wp21;clear B C D ah ai E aj;refine Ri (λaK=>Below i i aK) (mU [(·=.agg (ph k l m n p q r s t)),(·=.int .u8 1),(Pp d 1),(·=tx (nm 116 0)),(·=.agg (ph k l m n p q r s t)),(Pp d 1),(·=tx (nm 116 0)),(·=.int .i64 0),(·=.tuple By),(·=.int .u8 1),(·=Em),(·=.int .i64 0),(·=.int .u8 1),(·=Em),(·=.int .i64 0)]) [] ((Below.refl _ _).drew) ⟨?_,?_,?_,?_,?_,?_,?_,?_,?_,?_,?_,?_,?_,?_,?_,trivial⟩ ?_;intro ak b a A f al am;have E:=Sl 2<|A 2 Z;have⟨⟨B,C,D⟩,_⟩:=lf<|(a.B j R).T y.o;exact .q (g:=⟨Z,a,Qa⟩);exact .f 8;exact .f 3;exact .l 87 2 λ_ a=>kB ((a.B d S).T z.o) 1 _ Z;intro ak b a A f al am;have E:=Sl 2<|A 2 Z;have⟨⟨B,C,D⟩,_⟩:=lf<|(a.B j R).T y.o;exact .q (g:=⟨Z,a,Qa⟩);exact .f 3;exact .l 90 5 λ_ a=>kB ((a.B d S).T z.o) 1 _ Z;intro ak b a A f al am;have bl:=Sv 89 f 4;have bm:=Sv 91 f 6;refine .h λaL an=>?_;go_simp;refine⟨Z,?_⟩;refine Calls.M (sJ ac b ad ae af U k l m n p q r s t (ar.kv a) aR) ?_;rintro P aM ⟨ao,ap⟩;subst ao;exact⟨_,Z,an ⟨Z,a.T<|ap.M a.size,Qe⟩⟩;intro ak b a A f al am;have bn:=Sv 85 f 0;have bo:=Sv 86 f 1;have bp:=Sv 88 f 3;have bq:=Sv 92 f 7;refine .h λaL an=>?_;go_simp;refine⟨Z,?_⟩;refine Calls.M (sY _ _ _ 1 (nm 116 0) b) ?_;rintro P aM ⟨ao,ap⟩;subst ao;exact⟨_,Z,an ⟨Z,a.T<|ap.M a.size,Qe⟩⟩;exact .v 93 8;exact .v 93 8;exact .v 93 8;exact .v 94 9;exact .v 95 10;exact .v 96 11;intro aq bc aN Q aO;have ax:aq 12=.int .u8 1:=Q 12 Ur;have ay:aq 13=Em:=Q 13 Ur;have az:aq 14=.int .i64 0:=Q 14 Ur;have aP:=aN;clear Q aO;simp only[nE,ax,ay,az];clear ax ay az;go_wp21;refine Q0 (v:=.tuple By) ?_ rfl ⟨Z,(T.T<|aP.M Y)⟩;simp[results,Tryz.results215,go_sem]
  go_enter func215,ntmps215
  go_wp21;have w:=aE.o;rw[<-w];clear w;apply(aC ac aD ad ae af U k l m n p q r s t N e O G 1 J au aa V).M;rintro P i ⟨rfl,c⟩;have⟨j,u⟩:=Xq b.heap.size;have⟨d,x⟩:=Xq<|b.heap.size+1;rw[<-x]at L⊢;rw[<-u]at K⊢;have aG:=c.size;have R:j<i:=Y;have S:d<i:=Y;have y:=X<|(c.B j Y).T K.o;have z:=X<|(c.B d Y).T L.o;have ar:=(J.kv c)
  have T:=(aw.T<|c.M Y)
  have⟨⟨B,C,D⟩,_⟩:=lf y.o;have⟨⟨ah,ai,E,aj⟩,_⟩:=kL z.o;clear x u;rw[aS];go_wp21;clear B C D ah ai E aj;refine Ri (λaK=>Below i i aK) (mU [(·=.agg (ph k l m n p q r s t)),(·=.int .u8 2),(Pp d 1),(·=tx (nm 116 0)),(·=.agg (ph k l m n p q r s t)),(Pp d 1),(·=tx (nm 116 0)),(·=.int .i64 0),(·=.tuple #[.int .u8 2,Em,.int .i64 0]),(·=.int .u8 2),(·=Em),(·=.int .i64 0),(·=.int .u8 2),(·=Em),(·=.int .i64 0)]) [] ((Below.refl _ _).drew) ⟨?_,?_,?_,?_,?_,?_,?_,?_,?_,?_,?_,?_,?_,?_,?_,trivial⟩ ?_;intro ak b a A f al am;have E:=Sl 2<|A 2 Z;have⟨⟨B,C,D⟩,_⟩:=lf<|(a.B j R).T y.o;exact .q (g:=⟨Z,a,Qa⟩);exact .f 8;exact .f 3;exact .l 87 2 λ_ a=>kB ((a.B d S).T z.o) 1 _ Z;intro ak b a A f al am;have E:=Sl 2<|A 2 Z;have⟨⟨B,C,D⟩,_⟩:=lf<|(a.B j R).T y.o;exact .q (g:=⟨Z,a,Qa⟩);exact .f 3;exact .l 90 5 λ_ a=>kB ((a.B d S).T z.o) 1 _ Z;intro ak b a A f al am;have bl:=Sv 89 f 4;have bm:=Sv 91 f 6;refine .h λaL an=>?_;go_simp;refine⟨Z,?_⟩;refine Calls.M (sJ ac b ad ae af U k l m n p q r s t (ar.kv a) aR) ?_;rintro P aM ⟨ao,ap⟩;subst ao;exact⟨_,Z,an ⟨Z,a.T<|ap.M a.size,Qe⟩⟩;intro ak b a A f al am;have bn:=Sv 85 f 0;have bo:=Sv 86 f 1;have bp:=Sv 88 f 3;have bq:=Sv 92 f 7;refine .h λaL an=>?_;go_simp;refine⟨Z,?_⟩;refine Calls.M (sY _ _ _ 2 (nm 116 0) b) ?_;rintro P aM ⟨ao,ap⟩;subst ao;exact⟨_,Z,an ⟨Z,a.T<|ap.M a.size,Qe⟩⟩;exact .v 93 8;exact .v 93 8;exact .v 93 8;exact .v 94 9;exact .v 95 10;exact .v 96 11;intro aq bc aN Q aO;have ax:aq 12=.int .u8 2:=Q 12 Ur;have ay:aq 13=Em:=Q 13 Ur;have az:aq 14=.int .i64 0:=Q 14 Ur;have aP:=aN;clear Q aO;simp only[nE,ax,ay,az];clear ax ay az;go_wp21;refine Q0 (v:=.tuple #[.int .u8 2,Em,.int .i64 0]) ?_ rfl ⟨Z,(T.T<|aP.M Y)⟩;simp[results,Tryz.results215,go_sem]
 |ops aX I aU aV V=>
  have M:¬e=0:=(by have:=av.o;have aW:0<G.length:=aU;omega);have aa:e<=2:=(by have:=av.o;have aW:G.length<=2:=aV;omega);have ab:(F,aX,aB)∈HN:=I;have aS:C4 e aX=aX:=(by unfold C4;rw[Rl M]);simp only[HN,Rq,Prod.mk.injEq,Rk,RQ]at ab;rcases ab with⟨rfl,rfl,rfl⟩|⟨rfl,rfl,rfl⟩|⟨rfl,rfl,rfl⟩|⟨rfl,rfl,rfl⟩|⟨rfl,rfl,rfl⟩|⟨rfl,rfl,rfl⟩|⟨rfl,rfl,rfl⟩|⟨rfl,rfl,rfl⟩|⟨rfl,rfl,rfl⟩|⟨rfl,rfl,rfl⟩|⟨rfl,rfl,rfl⟩|⟨rfl,rfl,rfl⟩|⟨rfl,rfl,rfl⟩|⟨rfl,rfl,rfl⟩|⟨rfl,rfl,rfl⟩
  all_goals
   go_enter func215,ntmps215
   go_wp21;have w:=aE.o;rw[<-w];clear w;apply(aC ac aD ad ae af U k l m n p q r s t N e O G _ J au aa V).M;rintro P i ⟨rfl,c⟩;have⟨j,u⟩:=Xq b.heap.size;have⟨d,x⟩:=Xq<|b.heap.size+1;rw[<-x]at L⊢;rw[<-u]at K⊢;have aG:=c.size;have R:j<i:=Y;have S:d<i:=Y;have y:=X<|(c.B j Y).T K.o;have z:=X<|(c.B d Y).T L.o;have ar:=(J.kv c)
   have T:=(aw.T<|c.M Y)
   have⟨⟨B,C,D⟩,_⟩:=lf y.o;have⟨⟨ah,ai,E,aj⟩,_⟩:=kL z.o;clear x u;rw[aS];go_wp21;refine Q0 (v:=.tuple #[.int .u8 _,Em,.int .i64 0]) ?_ rfl ⟨Z,T⟩;simp[results,Tryz.results215,go_sem]
def kI.oF(a:ByteArray)(b:Nat):Nat×Nat:=ow<|a.data.toList.drop b
def kI.rG(b:ByteArray)(a:Nat):Nat:=a+(oF b a).2+qT b (a+(oF b a).2)
def L.yK:Array Value:=(kI.syms.map FR).toArray
def L.rV(a:List UInt8):Value:=.tuple #[.int .u8 ((kI.ow a).1:Nat),.int .i64 ((kI.ow a).2:Nat)]
