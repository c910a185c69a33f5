import Derived.Test.YtjoamapacifofaaGreatDoorZ5
import Derived.Test.YtjoamapacifofaaGreatDoorZ6
import Derived.Test.YtjoamapacifofaaGreatDoorZ7
import Derived.Test.YtjoamapacifofaaGreatDoorZ8
set_option maxRecDepth 1000000
set_option maxHeartbeats 32000000
set_option linter.all false
namespace Go.Proofs.YtjoamapacifofaaGreatDoor
open RowKit Go.Proofs.Tryz kT Maps nu pG ChangeShapes WideShapes ChangeAt
def ED(s w)(hL:sG w)(f:0<s.size)(hs:s.size<=12)(g:ke.lp (s[0]).toNat=true)(hp:ke.pre ke.lr s.data.toList=s.size)(a:ke.sr s.data.toList=false):
  Calls prog 111 #[.string s] w λe w'=>e=.returned (.tuple #[.int .u8 1,.int .i64 (s.size:Int)])/\w=w':=by
 have b:=hL;have c:=hp;have d:=a
 go_enter func111,ntmps111
 go_wp2_with (go_at_call 162;apply(nN _ _).M;rintro e w' ⟨rfl,rfl⟩);refine(qd _ _ SP).M ?_;rintro e w' ⟨rfl,rfl⟩;rw[c];go_wp21;apply(rC _ _ b).M;rintro e w' ⟨rfl,rfl⟩;rw[d];go_wp21
 go_ret2
 exact⟨rfl,rfl⟩
def Bo(s w)(hL:sG w)(a:0<s.size)(hs:s.size<=12)(b:ke.lp (s[0]).toNat=true)(hp:ke.pre ke.lr s.data.toList=s.size)(c:ke.sr s.data.toList=false):
  Calls prog 120 #[.string s] w λe w'=>e=.returned (.bool true)/\w=w':=by
 have d:=hL;have f:=hp;have g:=c;have i:s.toList≠[]:=by rw[QA];intro e;have j:=PL List.length e;rw[Qz,PE]at j;have k:s.data.size=s.size:=rfl;omega
 have he:s.toList.isEmpty=false:=by cases h:s.toList.isEmpty;rfl;exact absurd (List.isEmpty_iff.1 h) i
 go_enter func120,ntmps120
 go_wp21;apply(ED s _ d a hs b f g).M;rintro e w' ⟨rfl,rfl⟩
 go_wp21;go_ret;exact⟨rfl,rfl⟩
def nG(l)(h:mm l=true)(w)(hL:sG w):Calls prog 120 #[tx l] w λe w'=>e=.returned (.bool true)/\w=w':=by
 unfold mm at h;simp only[Qh,QW,P9,Bool.not_eq_true']at h;obtain⟨⟨⟨⟨b,c⟩,d⟩,f⟩,g⟩:=h;have a:(⟨l.toArray⟩:ByteArray).size=l.length:=S3
 refine Bo ⟨l.toArray⟩ w hL (by rw[a];exact b) (by rw[a];exact c) ?_ (by rw[a];simpa using f) (by simpa using g);rw[<-ke.oA ⟨l.toArray⟩ (by rw[a];exact b)];simpa using d
def xB:zW 176:=by
 intro S w b o d e r f i hr hg hb hS;obtain⟨d',v,rfl,rfl,hv⟩:=hr.open;obtain⟨⟨x,D,hx,p,j,q,s,t⟩,_⟩:=hg;have c:=i 0 _ rfl;have l:=i 1 _ rfl;rw[Pc]at c;obtain⟨k,m⟩:∃k:Nat,k=e.op.toNat:=⟨_,rfl⟩
 have n:e.op=(k:Int):=SE
 rw[<-m]at hx;rw[n]at c;have u:1<=k:=SE
 have y:=O0 hx;have z:=O0 (And.intro c l);have A:=O0 j;clear p j q s t hx m n
 go_enter func176,ntmps176
 go_wp21;apply(rT k x y.o u _ f).M;rintro E B ⟨rfl,a⟩;have g:=a.size;have F:=(Cb b (o+1) (a.B b hb)).T z.o.2;have G:b<B:=SE
 clear c l;cases hq:x.2.1
 .go_wp21;go_ret;exact⟨rfl,a.alloc g _⟩
 have C:=A.o hq;go_wp21;apply(nG e.name C _ (f.names.jQ (a.alloc g _) f.low.1)).M;rintro I J ⟨rfl,rfl⟩;go_wp21;go_ret;exact⟨rfl,a.alloc g _⟩
def xC:zX 123:=by
 intro S w b o d s r hL g hr z hb hS;have N:=g;have O:=hr;have P:=z;obtain⟨d',v1,v2,ac,rfl,rfl,Q,R,T⟩:=hr.open;obtain⟨⟨x,ad,hx,A,U,B,V,ae,af,W,X⟩,Y,⟨ag,ah⟩,_⟩:=z;obtain⟨ai,c1,rfl,aj⟩:=Q.form;obtain⟨ak,c2,rfl,al⟩:=R.form;obtain⟨am,c3,rfl,an⟩:=T.form;have p:=g 0 _ rfl;have C:=g 1 _ rfl;have D:=g 2 _ rfl;have E:=g 3 _ rfl;have F:=g 4 _ rfl;have G:=g 5 _ rfl;rw[Pc]at p;obtain⟨k,I⟩:∃k:Nat,k=s.kind.toNat:=⟨_,rfl⟩
 have J:s.kind=(k:Int):=SE
 rw[<-I]at hx;rw[J]at p;have Z:1<=k:=SE
 have q:=hL;have aa:=O0 hx;have K:=(And.intro p (And.intro C (And.intro D (And.intro E (And.intro F G)))))
 have m:=(And.intro N (And.intro O P))
 have n:=hS;have t:=(And.intro A B)
 clear A U B V W X Y hx I J hS
 go_enter func123,ntmps123
 go_wp21;apply(Au k x aa.o Z _ q).M;rintro ao ab ⟨rfl,u⟩;have c:=u.size;have ap:=(Cb b (o+1) (u.B b hb)).T K.2.1;have aq:=(Cb b (o+2) (u.B b hb)).T K.2.2.1;have ar:b<ab:=SE
 have e:=u;clear p C D E F G;have L:=λ(a:World) (f:Below w w a)=>wH 176 vh xB S a b o _ s _ (q.to f) (ov m hb n f).1 (ov m hb n f).2.1 (ov m hb n f).2.2.1 (ov m hb n f).2.2.2.1 (ov m hb n f).2.2.2.2;have v:=L;have M:=λ(l:List UInt8) (h:mm l=true) (a:World) (f:Below w w a)=>nG l h a (q.names.jQ f q.low.1);have y:=M;clear L M;cases MA:x.1<;>cases MB:x.2.1
 .go_wp21;apply(v _ (e.alloc c _)).M;rintro i a ⟨rfl,j⟩;go_wp21;go_ret;exact⟨rfl,(e.alloc c _).T (j.M SK)⟩
 .go_wp21;apply(y _ (t.2 MB) _ (e.alloc c _)).M;rintro i a ⟨rfl,rfl⟩;go_wp21;apply(v _ (e.alloc c _)).M;rintro i a ⟨rfl,j⟩;go_wp21;go_ret;exact⟨rfl,(e.alloc c _).T (j.M SK)⟩
 .go_wp21;apply(y _ (t.1 MA) _ (e.alloc c _)).M;rintro i a ⟨rfl,rfl⟩;go_wp21;apply(v _ (e.alloc c _)).M;rintro i a ⟨rfl,j⟩;go_wp21;go_ret;exact⟨rfl,(e.alloc c _).T (j.M SK)⟩
 go_wp21;apply(y _ (t.1 MA) _ (e.alloc c _)).M;rintro i a ⟨rfl,rfl⟩;go_wp21;apply(y _ (t.2 MB) _ (e.alloc c _)).M;rintro i a ⟨rfl,rfl⟩;go_wp21;apply(v _ (e.alloc c _)).M;rintro i a ⟨rfl,j⟩;go_wp21;go_ret;exact⟨rfl,(e.alloc c _).T (j.M SK)⟩
def CE:Dy 121:=by
 intro S w m a c1 b c c2 h d t B f p;have u:=t.len;have Q:a<=2:=by rw[<-u.1];exact f.FX
 have y:=Ga w h m a c1 b c c2;have C:=(λ(g:World) (s:Below w w g)=>t.jP kh.ok (λq j=>s.B q (p q j)))
 have D:=(λ(g:World) (s:Below w w g)=>B.jP (kp.ok .u8 Ds) (λq j=>s.B q (p q j)))
 have E:=u.1;have z:=O2 w (.cells (ka h.name m a c1 b c c2) 125);have F:w<(w.alloc (.cells (ka h.name m a c1 b c c2) 125)).heap.size:=SG
 go_enter func121,ntmps121
 go_wp21;apply(nG _ f.name _ (d.names.jQ y d.low.1)).M;rintro e g ⟨rfl,rfl⟩;generalize w.alloc (.cells (ka h.name m a c1 b c c2) 125)=A at*;obtain⟨⟨G,I,J⟩,_⟩:=kz z;go_wp21;go_loopw [3,12] (λv i wr=>∃k:Nat,k<=a/\i=k/\v=.bool true/\Below A A wr) (λ_ i _=>a-(intOf i).toNat)
 .exact⟨0,Pb _,rfl,rfl,Below.refl _ _⟩
 obtain⟨k,R,rfl,rfl,n⟩:=hrel;have l:=(y.T (n.M SE))
 have T:=n.size;have K:=((n.B _ F).T z)
 by_cases U:k<a
 .obtain⟨x,hx⟩:∃x,h.params[k]?=some x:=Gx (SC E);obtain⟨V,W,r,rfl,X,hr,L⟩:=(C _ l).kt kh.ok k x hx;have M:r=[tx x]:=hr;subst M;have N:=L 0 _ rfl;rw[Pc,PG]at N;have O:=(nG x (f.params x (O5 hx)) wr (d.names.jQ l d.low.1))
  obtain⟨Y,Z⟩:=mG k a;go_wp21;apply O.M;rintro e g ⟨rfl,rfl⟩;go_wp2_with fail;go_roundw
  .exact⟨k+1,SE,SJ,rfl,n⟩
  simp[intOf];omega
 obtain rfl:k=a:=SE;obtain⟨⟨G,I,J⟩,_⟩:=kz K;have aa:w.heap.size<wr:=SE;go_wp21;refine(rU 123 vk xC Ds S _ b c c2 h.body (d.to l) (D _ l) f.B4 f.body (λq j=>SC (p q j))).M ?_;rintro e ab ⟨rfl,P⟩;go_wp21;go_ret;exact⟨rfl,l.T (P.M SE)⟩
def EG(S w u)(j c1:Nat)(y)(l c2:Nat)(z)(g c3:Nat)(f)(hL:ln w)(hf:oY S w u j c1 y l c2 z g c3 f)(hg:mh f):
  Calls prog 81 #[.agg (kb f.name u j c1 y l c2 z g c3)] w (kd (.bool true) w):=by
 have ab:=hf.km;have ac:=hf.lB;have P:=hf.jZ;have aN:j<=2:=by rw[<-ab.len.1];exact hg.FY
 have aO:l<=9:=by rw[<-ac.len.1];exact hg.FZ
 have aP:g<=3:=by rw[<-P.len.1];exact hg.c3
 have aQ:1<=g:=by rw[<-P.len.1];exact hg.c1
 have ax:=O0 ab.len.1;have ay:=O0 ac.len.1;have az:=O0 P.len.1;have Q:Below w w (w.alloc (.cells (kb f.name u j c1 y l c2 z g c3) 60)):=Ba _ _;have ad:=O2 w (.cells (kb f.name u j c1 y l c2 z g c3) 60);have aR:(w.alloc (.cells (kb f.name u j c1 y l c2 z g c3) 60)).heap.size=w+1:=SG
 have F:=(hf.jQ Q)
 have G:=hg;have m:=(hL.to Q)
 have M:=O0 ad;clear ad
 go_enter func81,ntmps81
 go_wp21;apply(nG f.name G.name _ m.names).M;rintro e A ⟨rfl,rfl⟩;generalize w.alloc (.cells (kb f.name u j c1 y l c2 z g c3) 60)=B at*;have R:w.heap.size<B:=SE
 have I:=O0 F.kX;have aA:=F.km;have aB:=F.lB;have aC:=F.jZ;have a:=(Below.refl B B)
 obtain⟨⟨T,U,V,W⟩,_⟩:=kn M.o;go_wp21;go_loopw [3,18] (λv i wr=>∃k:Nat,k<=j/\i=k/\v=.bool true/\Below B B wr) (λ_ i _=>j-(intOf i).toNat)
 .exact⟨0,Pb _,rfl,rfl,a⟩
 obtain⟨c,ae,rfl,rfl,a⟩:=hrel;have af:=a.size;by_cases ag:c<j
 .obtain⟨b,hx⟩:∃x,f.km[c]?=some x:=Gx (SC ax.o);obtain⟨ah,ai,r,rfl,X,hr,d⟩:=(aA.jP lM.ok (λq s=>a.B q (I.o q s))).kt lM.ok c b hx;have J:r=[tx b.name,.bool b.init]:=hr;subst J;have K:=d 0 _ rfl;have Y:=d 1 _ rfl;rw[Pc]at K;have L:=O5 hx;obtain⟨aj,ak⟩:=mG c j;clear d hx;have N:=G.km b L;have n:=(a.alloc SE (.cells #[tx b.name,b.init] 107))
  go_wp21;apply(nG b.name N _ (m.names.jQ n m.low.1)).M;rintro e A ⟨rfl,rfl⟩;have a:=n;go_wp2_with fail;go_roundw
  .exact⟨c+1,SE,SJ,rfl,a⟩
  simp[intOf];omega
 obtain rfl:j=c:=SE;obtain⟨⟨T,U,V,W⟩,_⟩:=kn ((a.B _ R).T M.o);go_wp21;go_loopw [3,32] (λv i wr=>∃k:Nat,k<=l/\i=k/\v=.bool true/\Below B B wr) (λ_ i _=>l-(intOf i).toNat)
 .exact⟨0,Pb _,rfl,rfl,a⟩
 obtain⟨c,ae,rfl,rfl,a⟩:=hrel;have a:=a;have af:=a.size;by_cases ag:c<l
 .obtain⟨b,hx⟩:∃x,f.lB[c]?=some x:=Gx (SC ay.o);obtain⟨ah,ai,r,rfl,X,hr,d⟩:=(aB.jP mY.ok (λq s=>a.B q (I.o q s))).kt mY.ok c b hx;have J:r=[tx b.a,tx b.b,.int .i64 b.sD]:=hr;subst J;have K:=d 0 _ rfl;have Y:=d 1 _ rfl;have al:=d 2 _ rfl;rw[Pc]at K;have L:=O5 hx;obtain⟨aj,ak⟩:=mG c l;clear d hx;have N:=G.lB b L;have n:=(a.alloc SE (.cells #[tx b.a,tx b.b,b.sD] 108))
  have am:=O0 N;clear N;go_wp21;apply(nG b.a am.o.1 _ (m.names.jQ n m.low.1)).M;rintro e A ⟨rfl,rfl⟩;go_wp21;apply(nG b.b am.o.2.1 _ (m.names.jQ n m.low.1)).M;rintro e A ⟨rfl,rfl⟩;have a:=n;go_wp2_with fail;go_roundw
  .exact⟨c+1,SE,SJ,rfl,a⟩
  simp[intOf];omega
 obtain rfl:l=c:=SE;obtain⟨⟨T,U,V,W⟩,_⟩:=kn ((a.B _ R).T M.o);go_wp21;go_loopw [3,51] (λv i wr=>∃k:Nat,k<=g/\i=k/\v=.bool true/\Below B B wr) (λ_ i _=>g-(intOf i).toNat)
 .exact⟨0,Pb _,rfl,rfl,a⟩
 obtain⟨c,ae,rfl,rfl,a⟩:=hrel;have a:=a;have af:=a.size;by_cases ag:c<g
 .obtain⟨b,hx⟩:∃x,f.jZ[c]?=some x:=Gx (SC az.o);obtain⟨ah,ai,r,rfl,X,hr,d⟩:=(aC.jP (lv.ok .u8) (λq s=>a.B q (I.o q s))).kt (lv.ok .u8) c b hx;obtain⟨v1,v2,rfl,Z,an⟩:=hr;obtain⟨ao,cv,rfl,hcv⟩:=Z.form;obtain⟨ap,aq,rfl,hce⟩:=an.form;have K:=d 0 _ rfl;have Y:=d 1 _ rfl;have al:=d 2 _ rfl;rw[Pc]at K;have L:=O5 hx;obtain⟨aj,ak⟩:=mG c g;clear d hx;have aa:=G.jZ b L;obtain⟨t,O⟩:=Xq b.vars.length;obtain⟨ar,au⟩:=Xq b.kS.length;rw[<-O]at Y Z hcv;rw[<-au]at al an hce;have aS:t<=5:=(by rw[O];exact aa.Ei);have aD:=O0 O.symm;obtain⟨C,D⟩:=Xq (wr.alloc (.cells #[tx b.name,.slice ao t cv,.slice ap ar aq] 112));have aT:C.heap.size=wr+1:=(by rw[D];simp);have n:=(show Below B B C by rw[D];exact a.alloc SE _)
  have aE:wr.grownBy C none:=(by rw[D];exact O7 _ _ none);have aF:=(Z.jP (nz.ok .u8) (w':=C) (λq s=>aE.B q (SC (I.o q s)) SG))
  have aG:=O0 (show∀q,S q->q<C from λq s=>SC (I.o q s));clear O au;have aH:=aa.name;have av:C.heap[wr.heap.size]?=some (.cells #[tx b.name,.slice ao t cv,.slice ap ar aq] 112):=(by rw[D];exact O2 _ _);go_wp21;rw[<-D];apply(nG b.name aH _ (m.names.jQ n m.low.1)).M;rintro e A ⟨rfl,rfl⟩;obtain⟨⟨aU,aV,aW⟩,_⟩:=kz av;clear D av;go_wp21;have a:=(Below.refl C C)
  go_loopw [3,64] (λv i wr=>∃k:Nat,k<=t/\i=k/\v=.bool true/\Below C C wr) (λ_ i _=>t-(intOf i).toNat)
  .exact⟨0,Pb _,rfl,rfl,a⟩
  obtain⟨E,aX,rfl,rfl,a⟩:=hrel;have a:=a;have aY:=a.size;by_cases aZ:E<t
  .obtain⟨p,hx⟩:∃x,b.vars[E]?=some x:=Gx (SC aD.o);obtain⟨ba,bb,r,rfl,X,hr,d⟩:=(aF.jP (nz.ok .u8) (λq s=>a.B q (aG.o q s))).kt (nz.ok .u8) E p hx;have J:r=[tx p.name,.int .u8 p.ty,.int .i64 p.init]:=hr;subst J;have aI:=d 0 _ rfl;have bc:=d 1 _ rfl;have bd:=d 2 _ rfl;rw[Pc]at aI;have aJ:=O5 hx;obtain⟨be,bf⟩:=mG E t;clear d hx;have aK:=(aa.vars p aJ).name;have n:=(n.T ((a.alloc SE (.cells #[tx p.name,.int .u8 p.ty,p.init] 115)).M SE))
   have aL:=(a.alloc SE (.cells #[tx p.name,.int .u8 p.ty,p.init] 115))
   go_wp21;apply(nG p.name aK _ (m.names.jQ n m.low.1)).M;rintro e A ⟨rfl,rfl⟩;have a:=aL;go_wp2_with fail;go_roundw
   .exact⟨E+1,SE,SJ,rfl,a⟩
   simp[intOf];omega
  obtain rfl:t=E:=SE;have a:=(n.T (a.M SE))
  go_wp2_with fail;go_roundw
  .exact⟨c+1,SE,SJ,rfl,a⟩
  simp[intOf];omega
 obtain rfl:g=c:=SE;obtain⟨⟨T,U,V,W⟩,_⟩:=kn ((a.B _ R).T M.o);go_wp21;have aw:=(Q.T (a.M SE))
 apply(oo 121 zu CE S wr u j c1 y l c2 z g c3 f (m.to a) (F.jQ a) G).M;rintro e A ⟨rfl,aM⟩;go_wp21;go_ret;exact⟨rfl,aw.T (aM.M aw.size)⟩
def yg:∀d,J9 d
 |0=>wL 0 λd' e=>SE
 |d+1=>wL (d+1) λd' e=>(Nat.succ.inj e)▸uN d (yg d)
def CI(d:Nat):Ka d:=uN d (yg d)
def DR(S w R T U sc B)(C D:Nat)(E)(F cv:Nat)(G)(I J:Nat)(l cb:Nat)(K L M N ao ap aq ar)(au:Nat)(A)(m c:Nat)(O)(t:Int)(h:vB S w R T U sc B C D E F cv G I J l cb K L M N ao ap aq ar au)(hv:jT (ko .u8 De) S w (.slice A m c) O)(hm:m<=5)(V:∀e∈O,tV sc De e t):
  Calls prog 215 #[.pointer l,.int .u8 t,.slice A m c] w (zg w):=by
 have W:=hv.len;have H:=h;have av:=hv;have aw:=O0 W.1;have ax:=O0 V;have X:=h.sc.kX;have Y:=O0 X;clear W V X
 go_enter func215,ntmps215
 go_wp21;go_loopw [13] (λi wr=>∃k:Nat,k<=m/\i=k/\Below w w wr) (λi _=>m-(intOf i).toNat)
 .exact⟨0,Pb _,rfl,Below.refl _ _⟩
 obtain⟨k,aQ,rfl,u⟩:=hrel;have aR:=u.size;by_cases aS:k<m
 .obtain⟨x,hx⟩:∃x,O[k]?=some x:=Gx (SC aw.o);obtain⟨aT,aU,r,rfl,aV,hr,p⟩:=(av.jP (ko.ok .u8 De) (λq s=>u.B q (Y.o q s))).kt (ko.ok .u8 De) k x hx;have Z:=ax.o x (O5 hx);obtain⟨d',v,hd,rfl,b⟩:=hr.open;rw[hd]at Z;obtain⟨d,f,rfl,_⟩:=b.form;have aa:=p 0 _ rfl;have ay:=p 1 _ rfl;have az:=p 2 _ rfl;have ab:=p 3 _ rfl;rw[Pc]at aa;obtain⟨op,name,n,ac⟩:=x;simp only[Ex.op,Ex.name,Ex.n,Ex.args]at*;obtain⟨j,ad⟩:=Xq ac.length;rw[<-ad]at ab b;clear ad;obtain⟨aW,aX⟩:=mG k m;clear p hx hd;go_wp21;have aA:=O7 wr (la op name n d j f) none;have ae:=(u.alloc SE (la op name n d j f))
  have af:=O0 (O2 wr (la op name n d j f));have aB:=(b.jP (ko.ok .u8 d') (λq s=>aA.B q (SC (Y.o q s)) SG))
  obtain⟨ag,ah⟩:=Xq wr.heap.size;rw[<-ah]at af⊢;have aC:ag<(wr.alloc (la op name n d j f)).heap.size:=(by rw[O4];omega);have aD:w<=(wr.alloc (la op name n d j f)).heap.size:=(by rw[O4];omega);generalize wr.alloc (la op name n d j f)=ai at*;clear ah aa ay az ab;have y:=(H.jQ ae)
  refine Ri (λx=>Below ai ai x) (mi [(·=.pointer l),(·=.pointer l),(Pp l 1),(·=.agg (ob B C D E F cv G I J)),(·=.agg #[.int .u8 op,tx name,n,.slice d j f]),(·=.tuple (zc t)),(·=.tuple (zc t)),(·=.int .u8 t),(·=Em),(·=.int .i64 0),(·=.int .u8 t),(·=Em),(·=.int .i64 0)]) [] ((Below.refl _ _).drew) ⟨?_,?_,?_,?_,?_,?_,?_,?_,?_,?_,?_,?_,?_,trivial⟩ ?_;exact .f 0;exact .v 18 0;exact .v 19 1;intro aj w a hf b hd hw;have aY:=Sv 20 b 2;obtain⟨aE,aF,aG,aH,aI,aJ,aK,aL,aM⟩:=sS (y.jQ a).bd.kt;replace a:=Hq a;exact .q (g:=⟨rfl,a.o,Qa⟩);intro aj w a hf b hd hw;have aZ:=Sl 7 (hf 7 rfl);obtain⟨⟨ba,bb,bc,bd⟩,_⟩:=kn ((a.B ag aC).T af.o);replace a:=Hq a;exact .q (g:=⟨rfl,a.o,Qa⟩);intro aj w a hf b hd hw;have be:=Sv 21 b 3;have bf:=Sv 22 b 4;replace a:=Hq a;refine .c (CI d' S w R T U sc B C D E F cv G I J d j f op n name ac t (y.jQ a.o).sc (aB.jP (ko.ok .u8 d') (λq s=>a.o.B q (y.sc.kX q s))) Z) ?_;rintro e w' ⟨he,hb⟩;subst he;exact⟨_,rfl,⟨rfl,a.o.T (hb.M a.o.size),Qe⟩⟩;exact .v 23 5;exact .v 17 6;exact .v 17 6;exact .v 17 6;exact .v 24 7;exact .v 25 8;exact .v 26 9;intro P bg ak z aN;have al:P 10=.int .u8 t:=z 10 SF;have am:P 11=Em:=z 11 SF;have an:P 12=.int .i64 0:=z 12 SF;have aO:=(ae.T (ak.M aD))
  have Q:=(y.jQ ak)
  clear z aN;simp only[mP,al,am,an];clear al am an;obtain⟨aE,aF,aG,aH,aI,aJ,aK,aL,aM⟩:=sS Q.bd.kt;go_wp21;apply(sZ cb K L M N _ _ Q.BW).M;rintro e aP ⟨rfl,rfl⟩;go_wp21;apply(lA cb K L M N _ _ _ Q.BW).M;rintro e aP ⟨rfl,rfl⟩;go_wp21;go_roundw
  .exact⟨k+1,SE,SJ,aO⟩
  simp[intOf];omega
 obtain rfl:m=k:=SE;go_wp21
 go_end0
 exact⟨rfl,u⟩
def Az(S w N O P sc Q)(R T:Nat)(U)(V cv:Nat)(W)(X Y:Nat)(d cb:Nat)(u y z B Z aa ab ac)(ad:Nat)(A)(m c:Nat)(E)(f:Co)(v:Value)(name:List UInt8)(hd:Hd)(first:Nat)(h:vB S w N O P sc Q R T U V cv W X Y d cb u y z B Z aa ab ac ad)(hv:jT (ko .u8 De) S w (.slice A m c) E)(hm:m<=5)(ae:∀e∈E,tV sc De e 1)
  (aA:uX S w f v) (aR:f.kS.length<=1000) (af:∀l∈f.kS,l.length<=1000) (hf:(f.kS.flatten.find? λx=>x.name==name)=some hd) (ag:m=hd.params.length+first):
  Calls prog 216 #[.pointer d,v,tx name,.slice A m c,first] w (zg w):=by
 obtain⟨ah,ai,c1,F,G,c2,rfl,aS,aj⟩:=aA;have aB:=aj.len.1;have I:Below w w (w.alloc (.cells (ka f.name ah ai c1 F G c2) 112)):=Ba _ _;have aC:=(pT S _ F G c2 f.kS name (aj.jP (mr.ok _) (λq n=>I.B q (h.sc.kX q n))) SE af (λq n=>O1 (h.sc.kX q n) I.size))
 have H:=h;have aD:=hv;have aE:=ae;have aF:=O0 hf;have aG:=O0 ag;have aT:(w.alloc (.cells (ka f.name ah ai c1 F G c2) 112)).heap.size=w+1:=SG
 clear ae af hf aB ag
 go_enter func216,ntmps216
 go_wp21;apply aC.M;rintro e i ⟨hp,_,aH⟩;obtain⟨hv,rfl,j,b,k,p,r,s,rfl,aI,_⟩:=hp hd aF.o;have ak:=aI.len.1;have aU:IntKind.i64.wrap ((m:Int)-(first:Int))=(b:Int):=by have:=aG.o;rw[ak]at this;simp[IntKind.wrap,IntKind.bits,IntKind.signed];omega
 have C:=(I.T (aH.M SE))
 have J:w.heap.size<=i:=C.size;clear hp ak;have D:=(H.jQ (C.alloc J (.cells (ka hd.name j b k p r s) 125)))
 have aJ:=(C.alloc J (.cells (ka hd.name j b k p r s) 125))
 have al:=O0 (O2 i (.cells (ka hd.name j b k p r s) 125));have aV:d<i:=O1 (O3.1 H.bd.kt).1 J;obtain⟨am,an,ao,ap,aq,ar,au,av,aw⟩:=sS (H.jQ C).bd.kt;go_wp21;apply(lA cb u y z B _ _ _ D.BW).M;rintro e aW ⟨rfl,rfl⟩;obtain⟨L,ax⟩:=Xq i.heap.size;rw[<-ax]at al⊢;have aK:L<(i.alloc (.cells (ka hd.name j b k p r s) 125)).heap.size:=by rw[O4];omega
 have aL:w<=(i.alloc (.cells (ka hd.name j b k p r s) 125)).heap.size:=by rw[O4];omega
 generalize i.alloc (.cells (ka hd.name j b k p r s) 125)=ay at*;clear ax am an ao ap aq ar au av aw;go_wp21;refine Ri (λx=>Below ay ay x) (mi [(·=.pointer d),(·=.pointer d),(·=.pointer d),(·=.pointer cb),(·=.slice A m c),(·=m),(·=first),(·=b),(Pp L 1),(·=.slice j b k),(·=b),(·=.bool true),(·=tx name),(·=.bool true)]) [] ((Below.refl _ _).drew) ⟨?_,?_,?_,?_,?_,?_,?_,?_,?_,?_,?_,?_,?_,?_,trivial⟩ ?_
 .exact .f 0
 .exact .v 26 0
 .exact .v 27 1
 .intro t w a hf hv hd hw;have aX:=Sv 28 hv 2;obtain⟨am,an,ao,ap,aq,ar,au,av,aw⟩:=sS (D.jQ a).bd.kt;replace a:=Hq a;exact .q (g:=⟨rfl,a.o,Qa⟩)
 .exact .f 3
 .intro t w a hf hv hd hw;have aY:=Sv 30 hv 4;exact .q (g:=⟨rfl,a,Qa⟩)
 .exact .f 4
 .intro t w a hf hv hd hw;have aZ:=Sv 31 hv 5;have ba:=Sv 32 hv 6;exact .q (g:=⟨rfl,a,Qa⟩)
 .exact .f 10
 .intro t w a hf hv hd hw;have bb:=Sv 34 hv 8;obtain⟨⟨bc,bd,be⟩,_⟩:=kz ((a.B L aK).T al.o);replace a:=Hq a;exact .q (g:=⟨rfl,a.o,Qa⟩)
 .intro t w a hf hv hd hw;have bf:=Sv 35 hv 9;exact .q (g:=⟨rfl,a,Qa⟩)
 .intro t w a hf hv hd hw;have bg:=Sv 33 hv 7;have bh:=Sv 36 hv 10;have n:((b:Int)==(b:Int))=true:=SG;exact .q (g:=⟨rfl,a,Qa⟩)
 .exact .f 2
 .intro t w a hf hv hd hw;have bi:=Sv 29 hv 3;have bj:=Sv 37 hv 11;have bk:=Sv 38 hv 12;clear hf hv hd hw;replace a:=Hq a;refine .h λK hK=>?_;go_simp;refine⟨rfl,?_⟩;refine Calls.M (lA cb u y z B w _ _ (D.jQ a.o).BW) ?_;rintro e w' ⟨he,hw⟩;subst hw;subst he;exact⟨_,rfl,hK ⟨rfl,a.o,Qe⟩⟩
 intro bl aM az aN aO;have M:=(aJ.T (az.M aL))
 have aP:=(D.jQ az)
 clear aN aO;simp only[mP];go_wp21;refine(DR S aM N O P sc Q R T U V cv W X Y d cb u y z B Z aa ab ac ad A m c E 1 aP (aD.jP (ko.ok .u8 De) (λq n=>M.B q (H.sc.kX q n))) hm aE).M ?_;rintro e bm ⟨rfl,aQ⟩;go_wp21
 go_end0
 exact⟨rfl,M.T (aQ.M M.size)⟩
def xG(S w aq ar au sc av)(aw ax:Nat)(ay)(az cv:Nat)(aA)(aB aC:Nat)(i cb:Nat)(aH aI aJ bA ae af ag aD)(aE:Nat)(bk al)(ah c3:Nat)(h:vB S w aq ar au sc av aw ax ay az cv aA aB aC i cb aH aI aJ bA ae af ag aD aE)(hx:tD S w sc bk al ah c3 ae af ag)(bR:bA=.slice al ah c3)(d:Nat)(N:Int)(name ai:List UInt8)(O:List Ex)(th el:List St)(M:Option Addr)(E c1:Nat)(v4 R)(cE:v4.oneCell'=true)(bs:R.oneCell'=true)
  (hv:jT (ko .u8 De) S w (.slice M E c1) O) (hs:FM sc bk (d+1) (.mk N name ai O th el)):
  Calls prog 201 #[.pointer i,.agg #[.int .u8 N,tx name,tx ai,.slice M E c1,v4,R]] w (zg w):=by
 subst bR;have bB:=hv.len;have U:Below w w (w.alloc (.cells #[.int .u8 N,tx name,tx ai,.slice M E c1,v4,R] 191)):=Ba _ _;have bC:=O2 w (.cells #[.int .u8 N,tx name,tx ai,.slice M E c1,v4,R] 191);have bS:(w.alloc (.cells #[.int .u8 N,tx name,tx ai,.slice M E c1,v4,R] 191)).heap.size=w+1:=SG
 have H:=(h.jQ U)
 have aP:=(hx.jP (λq F=>U.B q (h.sc.kX q F)))
 have bl:=(hv.jP (ko.ok .u8 De) (λq F=>U.B q (h.sc.kX q F)))
 have aj:=O0 bB.1;have A:=O0 bC;have an:=h.sc.Ig;have bT:(mf sc (d+1) (.mk N name ai O th el)/\(St.mk N name ai O th el).kind≠6/\1<=sc.ints)\/Cg sc bk (.mk N name ai O th el):=by
  rcases hs with⟨hs,hi⟩|⟨_,hs⟩
  by_cases bm:(St.mk N name ai O th el).kind=6;exact .inr (hx.send hi hs bm);exact .inl ⟨hs,bm,hi⟩;exact .inr hs
 clear hs;obtain⟨B,j⟩:=Xq (w.alloc (.cells #[.int .u8 N,tx name,tx ai,.slice M E c1,v4,R] 191));rw[<-j]at H aP bl U A bS;have am:=O0 j;have aK:=O0 (λ(C:World) (T:Below B B C) (t:Int) (hm:E<=5) (bU:∀e∈O,tV sc De e t)=>DR S C aq ar au sc av aw ax ay az cv aA aB aC i cb aH aI aJ (.slice al ah c3) ae af ag aD aE M E c1 O t (H.jQ T) (bl.jP (ko.ok .u8 De) (λq F=>T.B q (H.sc.kX q F))) hm bU);clear h hx hv bB bC j;rcases bT with⟨hs,bm,aQ⟩|⟨D,_,_,⟨P,hd,bD,aS,aT,aU,bn⟩,bV,J⟩
 rotate_left
 .simp only[St.kind,St.name,St.hd,St.kA,St.th,St.el]at*;have Q:N=6:=D;subst Q;have aV:∀e∈O,tV sc De e 1:=λe he=>.num (J e he);have aW:E=hd.params.length+0:=SC aj.o;have bt:E<=5:=SC aj.o;have bW:=O0 bD;have bu:=O0 aU;have aX:=O0 (And.intro aS aT);have bv:=O0 aW;have bw:=O0 aV;have bX:ah<=1000:=SD aP.cs.len.1 aP.len;clear aS aT aU bD J aV aW bn bV
  go_enter func201,ntmps201
  go_wp21;have j:B=w.alloc (.cells #[.int .u8 6,tx name,tx ai,.slice M E c1,v4,R] 191):=(by rw[am.o]);rw[<-j];clear j;obtain⟨f,z⟩:=Xq w.heap.size;rw[<-z]at A⊢;have L:f<B:=SE;clear z;refine Ia (λx=>Below B B x) (mi [(·=.pointer i),(·=.pointer i),(·=.pointer i),(·=.pointer cb),(·=.pointer cb),(·=.pointer cb),(Pp cb 3),(·=.slice al ah c3),(Pp f 1),(·=tx name),Tr,Tr,Tr,(·=.bool true),Tr,Tr,(·=.bool true)]) [(10,10,λv _ w=>∃(m:Option Addr),∃(n p:Nat),∃(r:Option Addr),∃(s y:Nat),v=.tuple #[.agg (ka P.name m n p r s y),true]/\uX S B P (.agg (ka P.name m n p r s y))),(11,11,λv _ w=>∃(m:Option Addr),∃(n p:Nat),∃(r:Option Addr),∃(s y:Nat),v=.tuple #[.agg (ka P.name m n p r s y),true]/\uX S B P (.agg (ka P.name m n p r s y))),(12,12,λv _ w=>∃(m:Option Addr),∃(n p:Nat),∃(r:Option Addr),∃(s y:Nat),v=.agg (ka P.name m n p r s y)/\uX S B P (.agg (ka P.name m n p r s y))),(14,14,λv _ w=>∃(o:Nat),v=.pointer o/\Nw B w o/\∃bo c1 c2:Value,w.heap[o]?=some (.cells #[bo,c1,c2] 112)),(15,14,λv x w=>∃(o:Nat),∃(m:Option Addr),∃(n p:Nat),∃(r:Option Addr),∃(s y:Nat),x=.pointer o/\Nw B w o/\w.heap[o]?=some (.cells (ka P.name m n p r s y) 112)/\uX S B P (.agg (ka P.name m n p r s y)))] ((Below.refl _ _).drew) ⟨?_,?_,?_,?_,?_,?_,?_,?_,?_,?_,?_,?_,?_,?_,?_,?_,?_,trivial⟩ ?_;exact .f 0;exact .v 80 0;exact .v 81 1;intro k w c hf hv hd hw;have cF:=Sv 82 hv 2;obtain⟨aY,aZ,ba,bb,bc,bd,be,bf,bg⟩:=sS (H.jQ c).bd.kt;replace c:=Hq c;exact .q (g:=⟨rfl,c.o,Ra⟩);exact .v 83 3;exact .v 84 4;exact .v 85 5;intro k w c hf hv hd hw;obtain⟨cG,bY⟩:=(H.jQ c).BW;exact .l 86 (hv 6 _ rfl rfl) (jN bY 3) ⟨rfl,c,Ra⟩;exact .f 3;intro k w c hf hv hd hw;have cH:=Sv 88 hv 8;obtain⟨⟨V,W,X,Y,Z,aa⟩,_⟩:=ly ((c.B f L).T A.o);replace c:=Hq c;exact .q (g:=⟨rfl,c.o,Ra⟩);intro k w c hf hv hd hw;have cI:=Sv 87 hv 7;have cJ:=Sv 89 hv 9;replace c:=Hq c;refine .c (qf S w al ah c3 bk name (aP.cs.jP (lv.ok _) (λq F=>c.o.B q (H.sc.kX q F))) bX (λq F=>O1 (H.sc.kX q F) c.o.size)) ?_;rintro e w' ⟨hp,_,hb⟩;obtain⟨cK,rfl,bZ⟩:=hp P bW.o;have ca:=bZ.jP (w':=B) (λq F=>(c.o.B q (H.sc.kX q F)).symm);obtain⟨m,n,p,r,s,y,rfl,cc,cd⟩:=ca;exact⟨_,rfl,⟨trivial,c.o.T (hb.M c.o.size),Rc (λ_ _=>⟨m,n,p,r,s,y,rfl,⟨_,_,_,_,_,_,rfl,cc,cd⟩⟩)<|Rb<|Rb<|Rd (λu _ ⟨o,e,I,bo,bE,c2,D⟩=>⟨o,e,⟨I.1,O1 I.2 ((NK.jQ (w0:=B) hb)).1⟩,bo,bE,c2,(((NK.jQ (w0:=B) hb)).2 o I).T D⟩)<|Rb<|Qe⟩⟩;intro k w c hf hv hd hw;obtain⟨m,n,p,r,s,y,ce,cf⟩:=hd _ (Mm 0 rfl) _ _ rfl rfl rfl;exact .p 90 ce ⟨trivial,c,Rb<|Rc (λ_ _=>⟨m,n,p,r,s,y,rfl,cf⟩)<|Ra⟩;intro k w c hf hv hd hw;obtain⟨m,n,p,r,s,y,bx,bF⟩:=hd _ (Mm 1 rfl) _ _ rfl rfl rfl;exact .p 79 bx ⟨trivial,c,Rb<|Rb<|Rc (λ_ _=>⟨m,n,p,r,s,y,rfl,bF⟩)<|Ra⟩;intro k w c hf hv hd hw;obtain⟨m,n,p,r,s,y,bx,bF⟩:=hd _ (Mm 1 rfl) _ _ rfl rfl rfl;exact .p 79 bx ⟨rfl,c,Ra⟩;intro k w c hf hv hd hw;have cg:=c.size;replace c:=Hq c;exact .q (g:=⟨trivial,c.o.alloc c.o.size _,Rd (λu _ ⟨m,n,p,r,s,y,e,hr⟩=>⟨m,n,p,r,s,y,e,hr⟩)<|Rd (λu _ ⟨m,n,p,r,s,y,e,hr⟩=>⟨m,n,p,r,s,y,e,hr⟩)<|Rd (λu _ ⟨m,n,p,r,s,y,e,hr⟩=>⟨m,n,p,r,s,y,e,hr⟩)<|Rc (λ_ _=>⟨_,rfl,⟨cg,SG⟩,_,_,_,O2 _ _⟩)<|Rb<|Qe⟩);intro k w c hf hv hd hw;obtain⟨o,bG,bh,bo,bE,c2,bp⟩:=hd _ (Mm 3 rfl) _ _ rfl rfl rfl;have e5:=Sl 5 bG;obtain⟨m,n,p,r,s,y,ch,ci⟩:=hd _ (Mm 2 rfl) _ _ rfl rfl rfl;have cL:=Sl 91 ch;obtain⟨⟨cM,cN,cO⟩,⟨cP,cQ,cR⟩⟩:=kz bp;replace bp:=Hq bp;replace c:=Hq c;exact .q (g:=⟨trivial,jX (jX (jX c.o bh.1) bh.1) bh.1,Rb<|Rb<|Rb<|Rd (λu _ ⟨cj,ak,I,ck⟩=>⟨cj,ak,⟨I.1,by simp only[O6];exact I.2⟩,mH (mH (mH ck _ _ _ SF) _ _ _ SF) _ _ _ SF⟩)<|Rc (λok D=>by(injection D with D;subst D;rw[Pn (show¬(14:Nat)=15 from SF)];exact⟨o,m,n,p,r,s,y,bG,⟨bh.1,by simp only[O6];exact bh.2⟩,jO (jO (jO bp.o)),ci⟩))<|Qe⟩);exact .v 92 13;intro aF aM ad ao ap;obtain⟨o,m,n,p,r,s,y,bH,bI,cl,cm⟩:=(show(λ(v:Value) (x:Value) (w:World)=>∃(o:Nat),∃(m:Option Addr),∃(n p:Nat),∃(r:Option Addr),∃(s y:Nat),x=.pointer o/\Nw B w o/\w.heap[o]?=some (.cells (ka P.name m n p r s y) 112)/\uX S B P (.agg (ka P.name m n p r s y))) (aF 15) (aF 14) aM from ap _ (List.Mem.tail _ (List.Mem.tail _ (List.Mem.tail _ (List.Mem.tail _ (List.Mem.head _))))) (show(15:Nat)<17 from SF) (show(14:Nat)<17 from SF))
  have bs:aF 14=.pointer o:=bH;have bJ:aF 16=.bool true:=ao 16 SF;have G:=O0 ad;have cn:=bI.2;clear ao ap ad bH bI;simp only[mP,bs,bJ];clear bs bJ;go_wp21;refine Ri (λx=>Below aM aM x) (mi [(·=.pointer i),(·=.pointer i),(·=.pointer i),(·=.pointer cb),(·=.bool true),(Pp f 1),(·=tx name),(·=.bool true)]) [] ((Below.refl _ _).drew) ⟨?_,?_,?_,?_,?_,?_,?_,?_,trivial⟩ ?_;exact .f 0;exact .v 93 0;exact .v 94 1;intro k w c hf hv hd hw;have cS:=Sv 95 hv 2;have bi:=G.o.T (c.M G.o.size);obtain⟨aY,aZ,ba,bb,bc,bd,be,bf,bg⟩:=sS (H.jQ bi).bd.kt;clear bi;replace c:=Hq c;exact .q (g:=⟨rfl,c.o,Qa⟩);exact .f 6;exact .f 3;intro k w c hf hv hd hw;have cT:=Sv 98 hv 5;have bi:=G.o.T (c.M G.o.size);obtain⟨⟨V,W,X,Y,Z,aa⟩,_⟩:=ly ((bi.B f L).T A.o);clear bi;replace c:=Hq c;exact .q (g:=⟨rfl,c.o,Qa⟩);intro k w c hf hv hd hw;have cU:=Sv 96 hv 3;have cV:=Sv 97 hv 4;have cW:=Sv 99 hv 6;clear hf hv hd hw;replace c:=Hq c;refine .h λK hK=>?_;go_simp;refine⟨rfl,?_⟩;refine Calls.M (lA cb aH aI aJ (.slice al ah c3) w _ _ (H.jQ (G.o.T (c.o.M G.o.size))).BW) ?_;rintro e w' ⟨ab,hw⟩;subst hw;subst ab;exact⟨_,rfl,hK ⟨rfl,c.o,Qe⟩⟩;intro aF co bz cp cq;have aR:=(G.o.T (bz.M G.o.size))
  obtain⟨⟨cX,cY,cZ⟩,_⟩:=kz ((bz.B o cn).T cl);obtain⟨⟨V,W,X,Y,Z,aa⟩,_⟩:=ly ((aR.B f L).T A.o);clear cp cq bz;simp only[mP];go_wp21;refine(Az S co aq ar au sc av aw ax ay az cv aA aB aC i cb aH aI aJ (.slice al ah c3) ae af ag aD aE M E c1 O P _ ai hd 0 (H.jQ aR) (bl.jP (ko.ok .u8 De) (λq F=>aR.B q (H.sc.kX q F))) bt bw.o (cm.jP (λq F=>aR.B q (H.sc.kX q F))) aX.o.1 aX.o.2 bu.o bv.o).M ?_;rintro ak aL ⟨rfl,I⟩;go_wp21
  go_end0
  exact⟨rfl,U.T ((aR.T (I.M aR.size)).M SE)⟩
 rcases hs with⟨D,_,_,_,da,he,hx⟩|⟨D,bj,hn,_,_,_,a,b,he,ac,hb⟩|⟨D,bj,hn,_,_,_,a,he,ac⟩|⟨D,_,_,⟨a,he,ac⟩,_,_⟩|⟨D,_,_,_,⟨a,he,ac⟩,_⟩|⟨D,_,_,⟨db,l,q,a,bq,br,hn,bK,bn⟩,J⟩|⟨D,_,_,_,⟨l,q,a,bq,br,bK,bn⟩,J⟩|⟨D,_,_,_,⟨a,b,he,ac,hb⟩,_⟩|⟨D,_,_,⟨q,F,hn⟩,⟨a,he,ac⟩,_⟩|⟨D,_,_,_,_,he⟩
 .simp only[St.kind,St.name,St.hd,St.kA,St.th,St.el]at*;have Q:N=1:=D;subst Q;rcases hx with⟨q,F,hn,ac⟩|⟨hn,ac⟩
  .subst hn;have aG:=O0 (λ(C:World) (T:Below B B C)=>(show Calls prog 214 #[.pointer i,tx (nm 120 q)] C (kd (.int .u8 1) C)from oB S C aq ar au sc av aw ax ay az cv aA aB aC i cb ae af ag aD aE (nm 120 q) ⟨nm 120 q,1,q⟩ (H.jQ T).sc (H.jQ T).bd (an.int q F).1 (an.int q F).2));have J:∀e∈O,tV sc De e 1:=by rw[he];intro e hm;simp at hm;rw[hm];exact .num ac
   go_enter func201,ntmps201
   go_wp21;have j:B=w.alloc (.cells #[.int .u8 1,tx (nm 120 q),tx [],.slice M E c1,v4,R] 191):=(by rw[am.o];simp[*]);rw[<-j];clear j;obtain⟨f,z⟩:=Xq w.heap.size;rw[<-z]at A⊢;have L:f<B:=SE;clear z;apply(aG.o _ (Below.refl _ _)).M;rintro ak cr ⟨rfl,aN⟩;have aO:=O0 aN;obtain⟨⟨V,W,X,Y,Z,aa⟩,_⟩:=ly ((aN.B f L).T A.o);clear aN;go_wp21;refine(aK.o _ aO.o 1 (by have:=aj.o;rw[he]at this;simp at this;omega) (J)).M ?_;rintro ak aL ⟨rfl,I⟩;go_wp21
   go_end0
   exact⟨rfl,U.T ((aO.o.T (I.M aO.o.size)).M SE)⟩
  subst hn;have aG:=O0 (λ(C:World) (T:Below B B C)=>(show Calls prog 214 #[.pointer i,tx (nm 98 0)] C (kd (.int .u8 2) C)from oB S C aq ar au sc av aw ax ay az cv aA aB aC i cb ae af ag aD aE (nm 98 0) ⟨nm 98 0,2,0⟩ (H.jQ T).sc (H.jQ T).bd (an.N3 aQ).1 (an.N3 aQ).2));have J:∀e∈O,tV sc De e 2:=by rw[he];intro e hm;simp at hm;rw[hm];exact .Ih aQ ac
  go_enter func201,ntmps201
  go_wp21;have j:B=w.alloc (.cells #[.int .u8 1,tx (nm 98 0),tx [],.slice M E c1,v4,R] 191):=(by rw[am.o];simp[*]);rw[<-j];clear j;obtain⟨f,z⟩:=Xq w.heap.size;rw[<-z]at A⊢;have L:f<B:=SE;clear z;apply(aG.o _ (Below.refl _ _)).M;rintro ak cr ⟨rfl,aN⟩;have aO:=O0 aN;obtain⟨⟨V,W,X,Y,Z,aa⟩,_⟩:=ly ((aN.B f L).T A.o);clear aN;go_wp21;refine(aK.o _ aO.o 2 (by have:=aj.o;rw[he]at this;simp at this;omega) (J)).M ?_;rintro ak aL ⟨rfl,I⟩;go_wp21
  go_end0
  exact⟨rfl,U.T ((aO.o.T (I.M aO.o.size)).M SE)⟩
 .simp only[St.kind,St.name,St.hd,St.kA,St.th,St.el]at*;have Q:N=2:=D;subst Q;subst hn;have aG:=O0 (λ(C:World) (T:Below B B C)=>(show Calls prog 214 #[.pointer i,tx (nm 116 0)] C (kd (.int .u8 3) C)from oB S C aq ar au sc av aw ax ay az cv aA aB aC i cb ae af ag aD aE (nm 116 0) ⟨nm 116 0,3,0⟩ (H.jQ T).sc (H.jQ T).bd (an.table bj).1 (an.table bj).2));have J:∀e∈O,tV sc De e 1:=by rw[he];intro e hm;simp at hm;rcases hm with rfl|rfl;exact .num ac;exact .num hb
  go_enter func201,ntmps201
  go_wp21;have j:B=w.alloc (.cells #[.int .u8 2,tx (nm 116 0),tx [],.slice M E c1,v4,R] 191):=(by rw[am.o];simp[*]);rw[<-j];clear j;obtain⟨f,z⟩:=Xq w.heap.size;rw[<-z]at A⊢;have L:f<B:=SE;clear z;refine Ri (λx=>Below B B x) (mi [(·=.pointer i),(·=.pointer i),(·=.pointer i),(·=.pointer cb),(·=.pointer i),(Pp f 1),(·=tx (nm 116 0)),(·=.int .u8 3),(·=.bool true),(Pp f 1),(·=tx (nm 116 0)),(·=.bool true)]) [] ((Below.refl _ _).drew) ⟨?_,?_,?_,?_,?_,?_,?_,?_,?_,?_,?_,?_,trivial⟩ ?_;exact .f 0;exact .v 36 0;exact .v 37 1;intro k w c hf hv hd hw;have cs:=Sv 38 hv 2;obtain⟨aY,aZ,ba,bb,bc,bd,be,bf,bg⟩:=sS (H.jQ c).bd.kt;replace c:=Hq c;exact .q (g:=⟨rfl,c.o,Qa⟩);exact .f 0;exact .f 3;intro k w c hf hv hd hw;have ct:=Sv 41 hv 5;obtain⟨⟨V,W,X,Y,Z,aa⟩,_⟩:=ly ((c.B f L).T A.o);replace c:=Hq c;exact .q (g:=⟨rfl,c.o,Qa⟩);intro k w c hf hv hd hw;have cu:=Sv 40 hv 4;have cw:=Sv 42 hv 6;replace c:=Hq c;refine .c (aG.o w c.o) ?_;rintro e w' ⟨ab,hb⟩;subst ab;exact⟨_,rfl,⟨rfl,c.o.T (hb.M c.o.size),Qe⟩⟩;intro k w c hf hv hd hw;have cx:=Sv 43 hv 7;exact .q (g:=⟨rfl,c,Qa⟩);exact .f 3;intro k w c hf hv hd hw;have cy:=Sv 45 hv 9;obtain⟨⟨V,W,X,Y,Z,aa⟩,_⟩:=ly ((c.B f L).T A.o);replace c:=Hq c;exact .q (g:=⟨rfl,c.o,Qa⟩);intro k w c hf hv hd hw;have cz:=Sv 39 hv 3;have cA:=Sv 44 hv 8;have cB:=Sv 46 hv 10;clear hf hv hd hw;replace c:=Hq c;refine .h λK hK=>?_;go_simp;refine⟨rfl,?_⟩;refine Calls.M (lA cb aH aI aJ (.slice al ah c3) w _ _ (H.jQ c.o).BW) ?_;rintro e w' ⟨ab,hw⟩;subst hw;subst ab;exact⟨_,rfl,hK ⟨rfl,c.o,Qe⟩⟩;intro aF aM ad ao ap;have G:=O0 ad;clear ao ap ad;simp only[mP];obtain⟨⟨V,W,X,Y,Z,aa⟩,_⟩:=ly ((G.o.B f L).T A.o);go_wp21;refine(aK.o _ G.o 1 (by have:=aj.o;rw[he]at this;simp at this;omega) (J)).M ?_;rintro ak aL ⟨rfl,I⟩;go_wp21
  go_end0
  exact⟨rfl,U.T ((G.o.T (I.M G.o.size)).M SE)⟩
 .simp only[St.kind,St.name,St.hd,St.kA,St.th,St.el]at*;have Q:N=3:=D;subst Q;subst hn;have aG:=O0 (λ(C:World) (T:Below B B C)=>(show Calls prog 214 #[.pointer i,tx (nm 116 0)] C (kd (.int .u8 3) C)from oB S C aq ar au sc av aw ax ay az cv aA aB aC i cb ae af ag aD aE (nm 116 0) ⟨nm 116 0,3,0⟩ (H.jQ T).sc (H.jQ T).bd (an.table bj).1 (an.table bj).2));have J:∀e∈O,tV sc De e 1:=by rw[he];intro e hm;simp at hm;rw[hm];exact .num ac
  go_enter func201,ntmps201
  go_wp21;have j:B=w.alloc (.cells #[.int .u8 3,tx (nm 116 0),tx [],.slice M E c1,v4,R] 191):=(by rw[am.o];simp[*]);rw[<-j];clear j;obtain⟨f,z⟩:=Xq w.heap.size;rw[<-z]at A⊢;have L:f<B:=SE;clear z;refine Ri (λx=>Below B B x) (mi [(·=.pointer i),(·=.pointer i),(·=.pointer i),(·=.pointer cb),(·=.pointer i),(Pp f 1),(·=tx (nm 116 0)),(·=.int .u8 3),(·=.bool true),(Pp f 1),(·=tx (nm 116 0)),(·=.bool true)]) [] ((Below.refl _ _).drew) ⟨?_,?_,?_,?_,?_,?_,?_,?_,?_,?_,?_,?_,trivial⟩ ?_;exact .f 0;exact .v 36 0;exact .v 37 1;intro k w c hf hv hd hw;have cs:=Sv 38 hv 2;obtain⟨aY,aZ,ba,bb,bc,bd,be,bf,bg⟩:=sS (H.jQ c).bd.kt;replace c:=Hq c;exact .q (g:=⟨rfl,c.o,Qa⟩);exact .f 0;exact .f 3;intro k w c hf hv hd hw;have ct:=Sv 41 hv 5;obtain⟨⟨V,W,X,Y,Z,aa⟩,_⟩:=ly ((c.B f L).T A.o);replace c:=Hq c;exact .q (g:=⟨rfl,c.o,Qa⟩);intro k w c hf hv hd hw;have cu:=Sv 40 hv 4;have cw:=Sv 42 hv 6;replace c:=Hq c;refine .c (aG.o w c.o) ?_;rintro e w' ⟨ab,hb⟩;subst ab;exact⟨_,rfl,⟨rfl,c.o.T (hb.M c.o.size),Qe⟩⟩;intro k w c hf hv hd hw;have cx:=Sv 43 hv 7;exact .q (g:=⟨rfl,c,Qa⟩);exact .f 3;intro k w c hf hv hd hw;have cy:=Sv 45 hv 9;obtain⟨⟨V,W,X,Y,Z,aa⟩,_⟩:=ly ((c.B f L).T A.o);replace c:=Hq c;exact .q (g:=⟨rfl,c.o,Qa⟩);intro k w c hf hv hd hw;have cz:=Sv 39 hv 3;have cA:=Sv 44 hv 8;have cB:=Sv 46 hv 10;clear hf hv hd hw;replace c:=Hq c;refine .h λK hK=>?_;go_simp;refine⟨rfl,?_⟩;refine Calls.M (lA cb aH aI aJ (.slice al ah c3) w _ _ (H.jQ c.o).BW) ?_;rintro e w' ⟨ab,hw⟩;subst hw;subst ab;exact⟨_,rfl,hK ⟨rfl,c.o,Qe⟩⟩;intro aF aM ad ao ap;have G:=O0 ad;clear ao ap ad;simp only[mP];obtain⟨⟨V,W,X,Y,Z,aa⟩,_⟩:=ly ((G.o.B f L).T A.o);go_wp21;refine(aK.o _ G.o 1 (by have:=aj.o;rw[he]at this;simp at this;omega) (J)).M ?_;rintro ak aL ⟨rfl,I⟩;go_wp21
  go_end0
  exact⟨rfl,U.T ((G.o.T (I.M G.o.size)).M SE)⟩
 .simp only[St.kind,St.name,St.hd,St.kA,St.th,St.el]at*;have Q:N=4:=D;subst Q;have J:∀e∈O,tV sc De e 2:=by rw[he];intro e hm;simp at hm;rw[hm];exact .Ih aQ ac
  go_enter func201,ntmps201
  go_wp21;have j:B=w.alloc (.cells #[.int .u8 4,tx [],tx [],.slice M E c1,v4,R] 191):=(by rw[am.o];simp[*]);rw[<-j];clear j;obtain⟨f,z⟩:=Xq w.heap.size;rw[<-z]at A⊢;clear z;refine(aK.o _ (Below.refl _ _) 2 (by have:=aj.o;rw[he]at this;simp at this;omega) (J)).M ?_;rintro ak aL ⟨rfl,I⟩;go_wp21
  go_end0
  exact⟨rfl,U.T ((I).M SE)⟩
 .simp only[St.kind,St.name,St.hd,St.kA,St.th,St.el]at*;have Q:N=5:=D;subst Q;have J:∀e∈O,tV sc De e 2:=by rw[he];intro e hm;simp at hm;rw[hm];exact .Ih aQ ac
  go_enter func201,ntmps201
  go_wp21;have j:B=w.alloc (.cells #[.int .u8 5,tx [],tx [],.slice M E c1,v4,R] 191):=(by rw[am.o];simp[*]);rw[<-j];clear j;obtain⟨f,z⟩:=Xq w.heap.size;rw[<-z]at A⊢;clear z;refine(aK.o _ (Below.refl _ _) 2 (by have:=aj.o;rw[he]at this;simp at this;omega) (J)).M ?_;rintro ak aL ⟨rfl,I⟩;go_wp21
  go_end0
  exact⟨rfl,U.T ((I).M SE)⟩
 .exact absurd D bm
 .simp only[St.kind,St.name,St.hd,St.kA,St.th,St.el]at*;have Q:N=7:=D;subst Q;subst bK;have aV:∀e∈O,tV sc De e 1:=λe he=>.num (J e he);obtain⟨P,bL,bM⟩:=aP.own;obtain⟨_,_,bN,bO⟩:=aP.hd aQ;obtain⟨cC,bP,hex,aS,aT⟩:=bO sc.own P l bL bq;obtain⟨hd,aU,bQ⟩:=Gs bP cC hex br;have dc:a<=2:=bN l (O5 bq) a (O5 br);clear bN bO;have aW:E=hd.params.length+1:=(by rw[bQ,ld];have:=aj.o;omega);have bt:E<=5:=SC aj.o;have bu:=O0 aU;have aX:=O0 (And.intro aS aT);have bv:=O0 aW;have bw:=O0 aV;have cD:=O0 bM;clear bL bM bP hex aS aT bQ aU J aV aW bn bq br
  go_enter func201,ntmps201
  go_wp21;have j:B=w.alloc (.cells #[.int .u8 7,tx [],tx (nm 104 q),.slice M E c1,v4,R] 191):=(by rw[am.o];simp[*]);rw[<-j];clear j;obtain⟨f,z⟩:=Xq w.heap.size;rw[<-z]at A⊢;have L:f<B:=SE;clear z;refine Ri (λx=>Below B B x) (mi [(·=.pointer i),(·=.pointer i),(·=.pointer i),(Pp i 4),(·=.agg #[ae,af,ag]),(Pp f 2),(·=tx (nm 104 q)),(Pp f 3),(·=.slice M E c1),Tr]) [] ((Below.refl _ _).drew) ⟨?_,?_,?_,?_,?_,?_,?_,?_,?_,?_,trivial⟩ ?_;exact .f 0;exact .f 0;exact .v 111 1;exact .v 112 2;intro k w c hf hv hd hw;have dd:=Sv 113 hv 3;obtain⟨aY,aZ,ba,bb,bc,bd,be,bf,bg⟩:=sS (H.jQ c).bd.kt;replace c:=Hq c;exact .q (g:=⟨rfl,c.o,Qa⟩);exact .f 3;intro k w c hf hv hd hw;have de:=Sv 115 hv 5;obtain⟨⟨V,W,X,Y,Z,aa⟩,_⟩:=ly ((c.B f L).T A.o);replace c:=Hq c;exact .q (g:=⟨rfl,c.o,Qa⟩);exact .f 3;intro k w c hf hv hd hw;have df:=Sv 117 hv 7;obtain⟨⟨V,W,X,Y,Z,aa⟩,_⟩:=ly ((c.B f L).T A.o);replace c:=Hq c;exact .q (g:=⟨rfl,c.o,Qa⟩);intro k w c hf hv hd hw;have dg:=Sv 110 hv 0;have dh:=Sv 114 hv 4;have di:=Sv 116 hv 6;have dj:=Sv 118 hv 8;clear hf hv hd hw;replace c:=Hq c;refine .h λK hK=>?_;go_simp;refine⟨rfl,?_⟩;refine Calls.M (Az S w aq ar au sc av aw ax ay az cv aA aB aC i cb aH aI aJ (.slice al ah c3) ae af ag aD aE M E c1 O P (.agg #[ae,af,ag]) (nm 104 q) hd 1 (H.jQ c.o) (bl.jP (ko.ok .u8 De) (λq F=>c.o.B q (H.sc.kX q F))) bt bw.o (cD.o.jP (λq F=>c.o.B q (H.sc.kX q F))) aX.o.1 aX.o.2 bu.o bv.o) ?_;rintro e w' ⟨ab,hb⟩;subst ab;exact⟨_,rfl,hK ⟨trivial,c.o.T (hb.M c.o.size),Qe⟩⟩;intro aF aM ad ao ap;have G:=O0 ad;clear ao ap ad;simp only[mP];go_wp21
  go_end0
  exact⟨rfl,U.T (G.o.M SE)⟩
 .simp only[St.kind,St.name,St.hd,St.kA,St.th,St.el]at*;have Q:N=8:=D;subst Q;have J:∀e∈O,tV sc De e 1:=by rw[he];intro e hm;simp at hm;rcases hm with rfl|rfl;exact .num ac;exact .num hb
  go_enter func201,ntmps201
  go_wp21;have j:B=w.alloc (.cells #[.int .u8 8,tx [],tx [],.slice M E c1,v4,R] 191):=(by rw[am.o];simp[*]);rw[<-j];clear j;obtain⟨f,z⟩:=Xq w.heap.size;rw[<-z]at A⊢;clear z;refine(aK.o _ (Below.refl _ _) 1 (by have:=aj.o;rw[he]at this;simp at this;omega) (J)).M ?_;rintro ak aL ⟨rfl,I⟩;go_wp21
  go_end0
  exact⟨rfl,U.T ((I).M SE)⟩
 .simp only[St.kind,St.name,St.hd,St.kA,St.th,St.el]at*;have Q:N=9:=D;subst Q;subst hn;have aG:=O0 (λ(C:World) (T:Below B B C)=>(show Calls prog 214 #[.pointer i,tx (nm 120 q)] C (kd (.int .u8 1) C)from oB S C aq ar au sc av aw ax ay az cv aA aB aC i cb ae af ag aD aE (nm 120 q) ⟨nm 120 q,1,q⟩ (H.jQ T).sc (H.jQ T).bd (an.int q F).1 (an.int q F).2));have J:∀e∈O,tV sc De e 1:=by rw[he];intro e hm;simp at hm;rw[hm];exact .num ac
  go_enter func201,ntmps201
  go_wp21;have j:B=w.alloc (.cells #[.int .u8 9,tx (nm 120 q),tx [],.slice M E c1,v4,R] 191):=(by rw[am.o];simp[*]);rw[<-j];clear j;obtain⟨f,z⟩:=Xq w.heap.size;rw[<-z]at A⊢;have L:f<B:=SE;clear z;refine Ri (λx=>Below B B x) (mi [(·=.pointer i),(·=.pointer i),(·=.pointer i),(·=.pointer cb),(·=.pointer i),(Pp f 1),(·=tx (nm 120 q)),(·=.int .u8 1),(·=.bool true),(Pp f 1),(·=tx (nm 120 q)),(·=.bool true)]) [] ((Below.refl _ _).drew) ⟨?_,?_,?_,?_,?_,?_,?_,?_,?_,?_,?_,?_,trivial⟩ ?_;exact .f 0;exact .v 54 0;exact .v 55 1;intro k w c hf hv hd hw;have dk:=Sv 56 hv 2;obtain⟨aY,aZ,ba,bb,bc,bd,be,bf,bg⟩:=sS (H.jQ c).bd.kt;replace c:=Hq c;exact .q (g:=⟨rfl,c.o,Qa⟩);exact .f 0;exact .f 3;intro k w c hf hv hd hw;have dl:=Sv 59 hv 5;obtain⟨⟨V,W,X,Y,Z,aa⟩,_⟩:=ly ((c.B f L).T A.o);replace c:=Hq c;exact .q (g:=⟨rfl,c.o,Qa⟩);intro k w c hf hv hd hw;have dm:=Sv 58 hv 4;have dn:=Sv 60 hv 6;replace c:=Hq c;refine .c (aG.o w c.o) ?_;rintro e w' ⟨ab,hb⟩;subst ab;exact⟨_,rfl,⟨rfl,c.o.T (hb.M c.o.size),Qe⟩⟩;intro k w c hf hv hd hw;have dp:=Sv 61 hv 7;exact .q (g:=⟨rfl,c,Qa⟩);exact .f 3;intro k w c hf hv hd hw;have dq:=Sv 63 hv 9;obtain⟨⟨V,W,X,Y,Z,aa⟩,_⟩:=ly ((c.B f L).T A.o);replace c:=Hq c;exact .q (g:=⟨rfl,c.o,Qa⟩);intro k w c hf hv hd hw;have dr:=Sv 57 hv 3;have ds:=Sv 62 hv 8;have dt:=Sv 64 hv 10;clear hf hv hd hw;replace c:=Hq c;refine .h λK hK=>?_;go_simp;refine⟨rfl,?_⟩;refine Calls.M (lA cb aH aI aJ (.slice al ah c3) w _ _ (H.jQ c.o).BW) ?_;rintro e w' ⟨ab,hw⟩;subst hw;subst ab;exact⟨_,rfl,hK ⟨rfl,c.o,Qe⟩⟩;intro aF aM ad ao ap;have G:=O0 ad;clear ao ap ad;simp only[mP];obtain⟨⟨V,W,X,Y,Z,aa⟩,_⟩:=ly ((G.o.B f L).T A.o);go_wp21;refine(aK.o _ G.o 1 (by have:=aj.o;rw[he]at this;simp at this;omega) (J)).M ?_;rintro ak aL ⟨rfl,I⟩;go_wp21
  go_end0
  exact⟨rfl,U.T ((G.o.T (I.M G.o.size)).M SE)⟩
 .simp only[St.kind,St.name,St.hd,St.kA,St.th,St.el]at*;have Q:N=10:=D;subst Q
  go_enter func201,ntmps201
  go_wp21;have j:B=w.alloc (.cells #[.int .u8 10,tx [],tx [],.slice M E c1,v4,R] 191):=(by rw[am.o];simp[*]);rw[<-j];clear j
  go_end0
  exact⟨rfl,U⟩
