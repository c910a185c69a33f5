import Derived.Test.YtppncjcpdbhobaaGreatDoorZ2
import Derived.Test.YtppncjcpdbhobaaGreatDoorZ4
set_option maxRecDepth 1000000
set_option maxHeartbeats 32000000
set_option linter.all false
namespace Go.Proofs.YtppncjcpdbhobaaGreatDoor
open RowKit Go.Proofs.Tryz lI Maps oZ qQ ChangeShapes WideShapes ChangeAt
def nJ(b)(n:Nat)(w)(A:n<=3):Calls prog 18 #[.int .u8 (b.toNat:Int),n] w<|mV (qN b n) w:=by
 have⟨f,g,i,j,k⟩:=Rm rI
 go_enter func18,ntmps18
 go_wp2;go_loopw [5,6] (λl d wr=>∃a:Nat,a<=n/\d=a/\kJ kO 9 1 (λ_=>False) wr w l (qN b a)/\Below w w wr) (λ_ d _=>n-(intOf d).toNat)
 .exact⟨0,Q1 _,Z,kJ.nil _ _ _ _ _ _,Below.refl _ _⟩
 obtain⟨a,B,rfl,c,e⟩:=hrel;obtain⟨C,D,rfl,m,E⟩:=c.form;rw[lO]at c m⊢;have p:=e.size;by_cases F:a<n
 .have G:=Kb wr b a Y;have I:IntKind.u8.wrap (48+(a:Int))=48+(a:Int):=Uu;have q:=Iy b a;go_wp2_with (at_builtin;refine kM Z _ _ 62 Z w.heap.size 9 f _ 1 16 underlying62 g i j k Z kO.ok (λ_=>False) _ (qN b a) Z (c.kv kO.ok<|(Ba _ _).alloc Us _) ⟨wr+1,0,none⟩ [tx<|nm b a] (nm b a) Z ?c1 Z ?c3 ?c4 ?c5 ?_);case c1=>have:=mD (wr.alloc<|zp b.toNat a) [tx<|nm b a] 9;rwa [QU]at this
  case c3=>rw[lO];unfold maxLen;omega
  case c4=>rw[lO];omega
  case c5=>simp;omega
  intro r s t u _;have v:kJ kO 9 1 (λ_=>False) s w r<|qN b<|a+1:=(by rw[q];exact t);have x:=(((e.alloc p _).alloc Uw _).grown u Uw λy z=>(c.ge y z).1)
  go_wp2;go_roundw
  .exact⟨a+1,Y,Uv,v,x⟩
  simp[intOf];omega
 obtain rfl:a=n:=Y;go_wp2;go_ret;exact⟨_,Z,c,e⟩
def oM(e)(b:Nat)(c)(left:Nat)(w)(j:kS e w b c left)(m:oP c):Calls prog 128 #[.pointer b] w<|sF e b c left w:=by
 have u:=m.HF;have M:=m.HI;have v:∀f,Calls prog 18 #[.int .u8 120,.int .i64 3] f<|mV (qN 120 3) f:=λf=>nJ 120 3 f Y;have x:kS e w.drew b c left:=j.kv (Below.refl w w).drew;have y:b<w:=j.lt;have⟨z,_⟩:=j.cells
 go_enter func128,ntmps128
 go_wp2;go_region_with (first|(go_at_call 18;refine Calls.M (v _) ?_;rintro g A ⟨N,B,n,k⟩;have C:=(x.kv k);have⟨i,q,O,r,D,E,F,P,s⟩:=n.od (by rw[lO];omega);rw[lO]at r F;subst r B;have G:=s;have d:=(kC k);have Q:=(k.cell (p:=⟨b,0,none⟩) y).T z;have R:w<=i:=D;clear n s)|(go_at_call 78;refine Calls.M (nU e b c left c.ints _ C u Y) ?_;rintro g I ⟨a,J,rfl,t,l⟩;have S:(0:Int)<=(a:Int):=Y;have T:(a:Int)<3:=Y;have U:I.cell? ⟨i,q+a,none⟩=some (tx<|nm 120 a):=(Cb i (q+a)<|l.B i E λg=>by injection g with g;omega).T<|G a (nm 120 a)<|pc 120 3 a Y;have K:=l;have L:=t;clear l t));all_goals
  go_wp2;go_ret;exact⟨a,J,Z,L,ky (kK (show w.grownBy A none from⟨d.os,d.tape,d.output,d.size,d.B⟩) _) K⟩
def Cs(i)(e:Nat)(d)(J:oP d)(R left:Nat)(b)(aN:R+0=3)(S:kS i b e d left):Calls prog 126 #[.pointer e,R] b<|nA i e d left (0+1) b:=by
 have y:=S.lt;have z:∀K,i K->K<b:=λK ag=>(S.lJ K ag).2;have aO:=J.params;have aP:=J.kZ;have L:∀n:Nat,0<n->n<=1000->∀g,kS i g e d left->Calls prog 78 #[.pointer e,n] g (nT i e d left n g):=λn ah ai g aj=>nU i e d left n g aj ah ai;have ak:=S.kv<|Ba b<|.cells sd 177;have al:=QX b (.cells sd 177)<|some e
 go_enter func126,ntmps126
 go_wp2_with fail;apply(L 12 Y Y _ ak).M;rintro a r ⟨C,aQ,rfl,t,T⟩;have A:r.heap[b.heap.size]?=some (.cells sd 177):=(T.B b Us λa=>by injection a with a;omega).T<|QT b _;have B:=ky al T;have am:=T.size;rw[QU]at am;have U:b.heap.size<r:=Y
 have⟨⟨j,k,l,m⟩,M,N,O,P⟩:=kL A;have⟨aR,aS,aT,aU,an,aV⟩:=t.cells;obtain rfl:R=3:=Y
 by_cases aW:C<2
 .go_wp2_with fail;apply(L 9 Y Y _ t).M;rintro a u ⟨v,D,rfl,w,c⟩;have x:=(c.B b Y λa=>by injection a with a;omega).T A;have⟨⟨j,k,l,m⟩,M,N,O,P⟩:=kL x;have q:=ky B c;have V:=c.size;have E:b.heap.size<u:=Y;go_wp2_with fail;refine Q0 (v:=.agg #[.int .i64 1,tx [],.int .i64<|(v:Int),Nl]) ?_ rfl<|oq (op:=1) (name:=[]) (n:=(v:Int)) (args:=[]) w q y z (kz.nil _ _ _) (.inl ⟨Z,Z,Tj _,(show(v:Int)<=8 from Y),Z⟩) _ _ _ _;simp[results,Tryz.results126,go_sem,j,k,l,m]<;>rfl
 by_cases aX:5<C
 .go_wp2_with fail;apply(L 9 Y Y _ t).M;rintro a u ⟨v,D,rfl,w,c⟩;have x:=(c.B b Y λa=>by injection a with a;omega).T A;have⟨⟨j,k,l,m⟩,M,N,O,P⟩:=kL x;have q:=ky B c;have V:=c.size;have E:b.heap.size<u:=Y;go_wp2_with fail;refine Q0 (v:=.agg #[.int .i64 1,tx [],.int .i64<|(v:Int),Nl]) ?_ rfl<|oq (op:=1) (name:=[]) (n:=(v:Int)) (args:=[]) w q y z (kz.nil _ _ _) (.inl ⟨Z,Z,Tj _,(show(v:Int)<=8 from Y),Z⟩) _ _ _ _;simp[results,Tryz.results126,go_sem,j,k,l,m]<;>rfl
 by_cases aY:C<4
 .go_wp2_with fail;apply(oM i e d left _ t J).M;rintro a u ⟨v,D,rfl,w,c⟩;have x:=(c.B b Y λa=>by injection a with a;omega).T A;have⟨⟨j,k,l,m⟩,M,N,O,P⟩:=kL x;have q:=ky B c;have V:=c.size;have E:b.heap.size<u:=Y;go_wp2_with fail;refine Q0 (v:=.agg #[.int .i64 5,tx<|nm 120 v,.int .i64 0,Nl]) ?_ rfl<|oq (op:=5) (name:=(nm 120 v)) (n:=0) (args:=[]) w q y z (kz.nil _ _ _) (.inr<|.inr<|.inl ⟨Z,.inl ⟨v,D,Z⟩,Z,Z⟩) _ _ _ _;simp[results,Tryz.results126,go_sem,j,k,l,m]<;>rfl
 by_cases ao:C=4
 .subst ao;by_cases aZ:d.params=0
  .have ap:((d.params:Int)==0)=true:=(by rw[R5];omega);go_wp2_with fail;apply(oM i e d left _ t J).M;rintro a u ⟨v,D,rfl,w,c⟩;have x:=(c.B b Y λa=>by injection a with a;omega).T A;have⟨⟨j,k,l,m⟩,M,N,O,P⟩:=kL x;have q:=ky B c;have V:=c.size;have E:b.heap.size<u:=Y;go_wp2_with fail;refine Q0 (v:=.agg #[.int .i64 5,tx<|nm 120 v,.int .i64 0,Nl]) ?_ rfl<|oq (op:=5) (name:=(nm 120 v)) (n:=0) (args:=[]) w q y z (kz.nil _ _ _) (.inr<|.inr<|.inl ⟨Z,.inl ⟨v,D,Z⟩,Z,Z⟩) _ _ _ _;simp[results,Tryz.results126,go_sem,j,k,l,m]<;>rfl
  have aq:0<d.params:=Y;have ap:((d.params:Int)==0)=false:=(by rw[QY];omega);have ar:∀g,Calls prog 18 #[.int .u8 112,.int .i64 2] g<|mV (qN 112 2) g:=λg=>nJ 112 2 g Y;have au:=L;have av:kS i r.drew e d left:=t.kv (Below.refl r r).drew;have aw:e<r:=Y;go_wp2_with fail;go_region_with (first|(go_at_call 18;refine Calls.M (ar _) ?_;rintro a ax ⟨ba,ay,aa,F⟩;have az:=(av.kv F);have⟨Q,ab,bb,ac,aA,aB,aC,bc,ad⟩:=aa.od (by rw[lO];omega);rw[lO]at ac aC;subst ac ay;have aD:=ad;have G:=(kC F);have bd:=(F.cell (p:=⟨e,5,none⟩) aw).T an;have be:r<=Q:=aA;have aE:=((F.B b U).T A);have ae:=QR U F.size;clear aa ad)|(go_at_call 78;refine Calls.M (au d.params aq Y _ az) ?_;rintro a aF ⟨f,aG,rfl,af,I⟩;have bf:(0:Int)<=(f:Int):=Y;have bg:(f:Int)<2:=Y;have bh:aF.cell? ⟨Q,ab+f,none⟩=some (tx<|nm 112 f):=(Cb Q (ab+f)<|I.B Q aB λa=>by injection a with a;omega).T<|aD f (nm 112 f)<|pc 112 2 f Y;have s:=(I.B b ae λa=>by injection a with a;omega).T aE;have aH:=kr s 0;have aI:=kr s 1;have aJ:=kr s 2;have aK:=kr s 3;have bi:=kx s 0;have bj:=kx s 1;have bk:=kx s 2;have bl:=kx s 3;have aL:=I;have aM:=af;have E:=QR ae I.size;clear I af));all_goals
   have q:=(ky (ky B<|kK (show r.grownBy ax none from⟨G.os,G.tape,G.output,G.size,G.B⟩) _) aL)
   go_wp2_with fail;refine Q0 (v:=.agg #[.int .i64 5,tx<|nm 112 f,.int .i64 0,Nl]) ?_ rfl<|oq (op:=5) (name:=nm 112 f) (n:=0) (args:=[]) aM q y z (kz.nil _ _ _) (.inr<|.inr<|.inl ⟨Z,.inr ⟨f,aG,Z⟩,Z,Z⟩) _ _ _ _;simp[results,Tryz.results126,go_sem,aH,aI,aJ,aK]
 obtain rfl:C=5:=Y
 go_wp2_with fail;have E:=U;refine Q0 (v:=.agg #[.int .i64 4,tx [],.int .i64 0,Nl]) ?_ rfl<|oq (op:=4) (name:=[]) (n:=0) (args:=[]) t B y z (kz.nil _ _ _) (.inr<|.inl ⟨Z,Z,Z,Z⟩) _ _ _ _;simp[results,Tryz.results126,go_sem,j,k,l,m]<;>rfl
def FY(C b d D E)(l F m G:Nat)(R:∀e,C e->e<d.heap.size)(S:kz qu C d (.slice D l F) b.hs)(T:kz qu C d (.slice E m G) b.ss):
  Calls prog 19 #[.agg #[.int .u8 (b.ints:Int),.int .u8 (b.kZ:Int),.slice D l F,.slice E m G]] d (Ma (sf b 3) d):=by
 have⟨J,U,V,aa,ab⟩:=Rm Kh;have f:=Ft U V aa ab;clear U V aa ab;have ac:=X R;have ad:l=b.hs.length:=by have⟨_,_,_,g,_⟩:=S;injection g
 have ae:m=b.ss.length:=by have⟨_,_,_,g,_⟩:=T;injection g
 have j:=D0 ad ae;have am:=S;have an:=T;have⟨ao,af⟩:=Xq<|d.alloc<|ta b.ints b.kZ D l F E m G;have r:=X af;clear R ad ae af
 go_enter func19,ntmps19
 go_wp21;go_loopw [3,4] (λap K wr=>∃a:Nat,a<=3/\K=a/\kJ mI 3 1 (λ_=>False) wr (d+1) ap (sf b a)/\Below (d+1) ao wr) (λ_ K _=>3-(intOf K).toNat)
 .exact⟨0,Y,Z,kJ.nil _ _ _ _ _ _,by rw[r.o];exact Below.refl _ _⟩
 obtain⟨a,aB,rfl,L,p⟩:=hrel;obtain⟨ag,ah,rfl,aq,aC⟩:=L.form;have ar:=Fa b a;have⟨ai,M⟩:=Xq<|(sf b a).length;rw[<-M]at L aq ar⊢;have au:=p.size;rw[r.o,QU]at au;have aj:wr.heap[d.heap.size]?=some (ta b.ints b.kZ D l F E m G):=(p.B _ Y).T (by rw[r.o];exact QT d _);have⟨⟨aD,aE,aF,aG⟩,_⟩:=kL aj;have N:∀e,C e->wr.heap[e]?=d.heap[e]?:=λe ak=>(p.B e<|W<|ac.o e ak).T (by rw[r.o];exact Q9 d _<|ac.o e ak);have av:=(am.ku qu.ok N)
 have aw:=(an.ku qu.ok N)
 have k:=L;have s:=p;have q:=X M;clear M aj N;have al:∀(c:Nat) (I:Value) (t:World),A9 b a=[c]->kJ mI 3 1 (λ_=>False) t (d+1) I (sf b a++[c])->wr.grownBy t (Value.slice ag ai ah).ownBlock\/True->kJ mI 3 1 (λ_=>False) t (d+1) I (sf b<|a+1):=λc I t i ax _=>by show kJ mI 3 1 _ t _ I (sf b a++A9 b a);rw[i];exact ax
 have O:=X al;clear al;by_cases aH:a<3
 .by_cases aI:a<l
  .obtain⟨e,o,rfl,p,P⟩:=qu.yR av<|show a<b.hs.length from W j.o.1;obtain⟨c,i⟩:∃c:Nat,c=(b.hs.getD a default).params:=⟨_,Z⟩
   rw[<-i]at P;have u:=X (show A9 b a=[c % 3]by unfold A9;rw[RG<|W j.o.1,i]);obtain⟨ay,az⟩:=nL a l;have aA:(0:Int)<=(c:Int):=Y;clear i;have v:=X<|mD wr [.int .i64 ((c % 3:Nat):Int)] 3;go_wp2_with (at_builtin;refine kM Z _ _ 69 Z (d.heap.size+1) 3 J _ 1 8 underlying69 f.o.1 f.o.2.1 f.o.2.2.1 f.o.2.2.2 Z mI.ok (λ_=>False) _ (sf b a) Z (k.kv mI.ok<|Ba _ _) ⟨wr,0,none⟩ [.int .i64 ((c % 3:Nat):Int)] (c % 3) Z v.o Z ?c3 ?c4 ?c5 ?_);case c3=>rw[<-q.o];unfold maxLen;omega
   case c4=>rw[<-q.o];omega
   case c5=>first|omega|(simp;omega)
   intro w x y z _;have n:=(O.o _ w x u.o y<|.inr trivial)
   have A:=((s.alloc Y _).grown z Uw λB g=>(k.ge B g).1)
   go_wp21;go_roundw
   .exact⟨a+1,Y,Uv,n,A⟩
   simp[intOf];omega
  by_cases Q:a=0
  .subst Q;have u:=X (show A9 b 0=[1]by unfold A9;rw[Rl<|W j.o.1,RG Z]);have v:=X<|mD wr [.int .i64 1] 3;go_wp2_with (at_builtin;refine kM Z _ _ 69 Z (d.heap.size+1) 3 J _ 1 8 underlying69 f.o.1 f.o.2.1 f.o.2.2.1 f.o.2.2.2 Z mI.ok (λ_=>False) _ (sf b 0) Z (k.kv mI.ok<|Ba _ _) ⟨wr,0,none⟩ [.int .i64 1] 1 Z v.o Z ?d3 ?d4 ?d5 ?_);case d3=>rw[<-q.o];unfold maxLen;omega
   case d4=>rw[<-q.o];omega
   case d5=>first|omega|(simp;omega)
   intro w x y z _;have n:=(O.o _ w x u.o y<|.inr trivial)
   have A:=((s.alloc Y _).grown z Uw λB g=>(k.ge B g).1)
   go_wp21;go_roundw
   .exact⟨1,Y,Z,n,A⟩
   simp[intOf]
  have aJ:((a:Int)==0)=false:=(by rw[QY];omega);by_cases aK:a<m
  .obtain⟨e,o,rfl,p,P⟩:=qu.yR aw<|show a<b.ss.length from W j.o.2;obtain⟨c,i⟩:∃c:Nat,c=(b.ss.getD a default).params:=⟨_,Z⟩
   rw[<-i]at P;have u:=X (show A9 b a=[c % 3]by unfold A9;rw[Rl<|W j.o.1,Rl Q,RG<|W j.o.2,i]);obtain⟨ay,az⟩:=nL a m;have aA:(0:Int)<=(c:Int):=Y;clear i;have v:=X<|mD wr [.int .i64 ((c % 3:Nat):Int)] 3;go_wp2_with (at_builtin;refine kM Z _ _ 69 Z (d.heap.size+1) 3 J _ 1 8 underlying69 f.o.1 f.o.2.1 f.o.2.2.1 f.o.2.2.2 Z mI.ok (λ_=>False) _ (sf b a) Z (k.kv mI.ok<|Ba _ _) ⟨wr,0,none⟩ [.int .i64 ((c % 3:Nat):Int)] (c % 3) Z v.o Z ?e3 ?e4 ?e5 ?_);case e3=>rw[<-q.o];unfold maxLen;omega
   case e4=>rw[<-q.o];omega
   case e5=>first|omega|(simp;omega)
   intro w x y z _;have n:=(O.o _ w x u.o y<|.inr trivial)
   have A:=((s.alloc Y _).grown z Uw λB g=>(k.ge B g).1)
   go_wp21;go_roundw
   .exact⟨a+1,Y,Uv,n,A⟩
   simp[intOf];omega
  have n:=(show kJ mI 3 1 (λ_=>False) wr (d+1) (ag,ai,ah) (sf b<|a+1)by
   have g:sf b (a+1)=sf b a:=by show sf b a++A9 b a=_;unfold A9;rw[Rl<|W j.o.1,Rl Q,Rl<|W j.o.2,Sq]
   rw[g];exact k)
  go_wp2_with fail;go_roundw
  .exact⟨a+1,Y,Uv,n,s⟩
  simp[intOf];omega
 obtain rfl:a=3:=Y;go_wp21;go_ret;refine⟨_,Z,?_,?_⟩;exact k.base Y;have:=s;rw[r.o]at this;exact(Ba _ _).T (this.M Y)
def xu(Q:Nat)(bl:∀u,Q=u+1->HL u):HL Q:=by
 intro ap w m x y aq B ar C H ab aG;have⟨bm,aH,aI,aJ,aK⟩:=Rm Fb;have ac:=Ft aH aI aJ aK;clear aH aI aJ aK;have aL:=H.len;have⟨ca,cb,cc,aM⟩:=ab;have aN:=aL.1;have J:=X aG;have bn:=X aM;have ad:=X aN;have cd:B<=2:=Y
 clear aG aM aL aN;have ce:IntKind.u8.wrap m=m:=Uu
 go_enter func59,ntmps59
 go_wp21;have⟨j,M⟩:=Xq<|((w.alloc<|lE m y x aq B ar).alloc ks).alloc<|sa m y x;rw[<-M];have bo:j.heap.size=w+3:=by rw[M];simp
 have au:j.heap[w.heap.size+1]?=some ks:=by rw[M];have:=QT (w.alloc<|lE m y x aq B ar) ks;rw[QU]at this;exact(Q9 _ _ Us).T this
 have ae:j.heap[w.heap.size+1+1]?=some (sa m y x):=by rw[M];have:=QT ((w.alloc<|lE m y x aq B ar).alloc ks)<|sa m y x;rw[QU,QU]at this;exact this
 have aO:Below w w j:=by rw[M];exact((Ba _ _).alloc Us _).alloc Uw _
 clear M;have⟨z,aP⟩:=Xq<|w.heap.size+1;have⟨o,ab⟩:=Xq<|z+1;rw[<-aP]at au ae⊢;rw[<-ab]at ae⊢;have cf:z<o:=Y
 have bp:o<j:=Y
 have cg:w<z:=Y
 have bq:=X au;have br:=X ae;clear au ae aP ab bo;go_loopw [17] (λav wr=>∃(c:Nat) (r:Option Addr) (s:Nat),c<=B/\av=c/\j.grownBy wr (some o)/\wr.heap[o]?=some (mu m y x r c s)/\kJ (kP .u8 Q) 180 4 (λa=>j<=a) wr j (r,c,s) (C.take c)) (λav _=>B-(intOf av).toNat)
 .exact⟨0,none,0,Q1 _,Z,lC _ _,br.o,kJ.nil _ _ _ _ _ _⟩
 obtain⟨c,D,E,aQ,rfl,aR,aS,aw⟩:=hrel;have ch:=aR.size;have af:=X aR;have ax:=X aS;have ay:=X<|show(C.take c).length=c/\c<=2 from⟨by rw[Ro];have:=ad.o;omega,Y⟩;clear aS;by_cases ci:c<B
 .obtain⟨k,ag⟩:∃k,C[c]?=some k:=Gx<|W ad.o;have aT:∀a,ap a->wr.heap[a]?=w.heap[a]?:=λa b=>(af.o.B a (W<|J.o a b) (λe=>by injection e with e;have:=J.o a b;omega)).T<|aO.B a<|J.o a b;obtain⟨cj,ck,cl,rfl,cm,A,F⟩:=(H.ku (kP.ok .i64 Q) aT).ll (kP.ok .i64 Q) c k ag;obtain⟨u,v,rfl,rfl,t⟩:=A.open;obtain⟨G,I,rfl,bs⟩:=t.form;have R:=F 0 _ Z;have ah:=F 1 _ Z;have ai:=F 2 _ Z;have aj:=F 3 _ Z;rw[Q3]at R;have S:=bn.o k<|QV ag;have⟨bt,bu,bv,aU⟩:=S;have aV:=Ft bt bu bv aU;have bw:=X (show C.take (c+1)=C.take c++[k]from by rw[RB,ag];rfl);obtain⟨cn,co⟩:=nL c B;clear F ag aT aU;have⟨n,S⟩:=Xq k.op;have⟨p,az⟩:=Xq k.n;have⟨q,aA⟩:=Xq k.name;have⟨l,aB⟩:=Xq k.args.length;rw[<-S]at R aV;rw[<-aA]at ah;rw[<-az]at ai;rw[<-aB]at aj t bs;have ak:=Ft S az aA aB;clear S az aA aB;go_wp21;have al:=QX wr (lE n q p G l I) none;have bx:=(nP.start (ky af.o<|kK al _) ((al.B o Y Us).T ax.o) (aw.grown (kP.ok .u8 _) al λz e=>by cases e) bp)
  have aW:=X<|QT wr<|lE n q p G l I;have aX:=X aw.ge;have bz:=(t.ku (kP.ok .i64 u) (w':=wr.alloc<|lE n q p G l I) λa b=>al.B a (W<|J.o a b) Us)
  have am:=X<|show∀a,ap a->a<(wr.alloc<|lE n q p G l I).heap.size/\a≠o/\some a≠(Value.slice D c E).ownBlock from λa b=>⟨by rw[QU];have:=J.o a b;omega,W<|J.o a b,λe=>Up ((aX.o a e.symm).1)<|J.o a b⟩;have⟨T,aY⟩:=Xq wr.heap.size;rw[<-aY]at aW⊢;have bA:T<(wr.alloc<|lE n q p G l I).heap.size:=(by rw[QU];omega);have bB:T≠o:=Y;have bC:some T≠(Value.slice D c E).ownBlock:=λe=>W<|(aX.o T e.symm).2;generalize wr.alloc (lE n q p G l I)=N at*;clear aY R ah ai aj;refine tE (λk=>nP (kP .u8<|u+1) 180 4 (λa=>j<=a) j N o #[.int .u8 m,tx y,x,(D,c,E)] 180 (D,c,E) (C.take c) k) (λv w=>∃(r:Option Addr) (s:Nat),j.grownBy w (some o)/\w.heap[o]?=some (.cells #[.int .u8 m,tx y,x,(r,c+1,s)] 180)/\kJ (kP .u8<|u+1) 180 4 (λa=>j<=a) w j (r,c+1,s) ((C.take c)++[k])) (mU [(Pp o 3),(·=.slice D c E),(·=.agg (mT n q p G l I)),Tr,Tr,Tr,(Pp o 3),Tr]) [(3,λv w=>∃(f:Option Addr),∃(i:Nat),v=.agg #[.int .u8 n,tx q,p,(f,l,i)]/\kz (kP .u8 u) (Nw N w) w (f,l,i) k.args),(4,λv w=>∃(f:Option Addr),∃(i:Nat),∃(a:Nat),v=.slice a 1 1/\Nw N w a/\w.heap[a]?=some (mu n q p f l i)/\kz (kP .u8 u) (Nw N w) w (f,l,i) k.args),(5,λv w=>∃(f:Option Addr),∃(i:Nat),∃(r:Option Addr) (s:Nat),v=.slice r (c+1) s/\kJ (kP .u8<|u+1) 180 4 (λa=>j<=a) w j v ((C.take c)++[k]))] (bx.drew<|kP.ok .u8 _) ⟨?_,?_,?_,?_,?_,?_,?_,?_,trivial⟩ ?_;exact Pf 3;exact Pl 21 0 λ_ d=>kr d.c 3;intro O w d U t K an;have cp:=Sl 5<|U 5 Z;have⟨⟨R,ah,ai,aj⟩,_⟩:=kL<|(d.k T bA bB bC).T aW.o;exact .q (g:=⟨Z,d,Qa⟩);intro O w d U t K an;have cq:=Sv 23 t 2;have V:=d.s;refine .c (bl u Z ap w n p q G l I k.args (bz.ku (kP.ok .i64 _) λa b=>d.k a (am.o a b).1 (am.o a b).2.1 (am.o a b).2.2) aV.o λa b=>QR (am.o a b).1 V) ?_;rintro e w' ⟨f,i,rfl,A,b⟩;rw[<-ak.o.2.2.2]at A⊢;exact⟨_,Z,⟨trivial,d.kv (kP.ok .u8 _) b,Qc ⟨f,i,Z,A.M (kP.ok .u8 _) λa b=>⟨Q8 V b.1,b.2⟩⟩<|Q2<|Qe⟩⟩;intro O w d U t K an;obtain⟨f,i,bD,bE⟩:=lg K 0;have cr:=Sl 24 bD;have V:=d.s;exact .q (g:=⟨trivial,d.alloc (kP.ok .u8 _) _,Qd (λL ⟨f,i,e,A⟩=>⟨f,i,e,oh (kP.ok .u8 _) (NK.alloc N w _) A⟩)<|Qc ⟨_,_,_,Z,⟨V,Us⟩,QT _ _,oh (kP.ok .u8 _) (NK.alloc N w _) bE⟩<|Qb<|Qe⟩);intro O w d U t K an;have bF:=Sv 22 t 1;obtain⟨f,i,aC,bG,cs,bH,bI⟩:=lg K 1;have bJ:=d.own;have V:=d.s;have aZ:=d.ws;have bK:=d.v;have F:∀(ao:Nat) (L:Value),(#[.int .u8 n,tx q,.int .i64 p,(f,l,i)]).toList[ao]?=some L->w.cell? ((aC:Addr).add ao)=some L:=λao L bL=>(by rw[lz,Re];exact kB bH ao L<|by simpa using bL);have⟨bM,bN,w',ba,bb,bO,aa,bP⟩:=ld (P:=prog) (w:=w) j 173 173 180 bm _ 4 56 underlying173 ac.o.1 ac.o.2.1 ac.o.2.2.1 ac.o.2.2.2 Z (kP.ok .u8 _) (λa=>j<=a) ((.slice D c E)) ((C.take c)) bJ ⟨aC,0,none⟩ (#[.int .u8 n,tx q,.int .i64 p,(f,l,i)]).toList k F (⟨_,by rw[ak.o.1,ak.o.2.1,ak.o.2.2.1],(by exact bI.M (kP.ok .u8 _) λa b=>⟨Q8 aZ b.1,b.2,λe=>Up ((bK a e.symm).2) b.1⟩)⟩) (by have:=ay.o;unfold maxLen;omega) (W ay.o) Y;have bc:O.eval (.tmp 22)=(.slice D c E):=(by simp[Act.eval,bF]);have bd:O.eval (.tmp 25)=.slice aC 1 1:=bG;have bQ:=ay.o.1;rw[bQ]at ba bb bP;clear F;refine .h λbR aD=>?_;simp only[execOp,resolve,invoke,builtin,RL,RN,Rt,Rz,Rx,RO,bc,bd,ba];exact aD ⟨trivial,d.app aa bO,Qd (λL ⟨f,i,e,A⟩=>⟨f,i,e,oh (kP.ok .u8 _) (d.ng aa) A⟩)<|Qd (λL ⟨f,i,a,e,b,aQ,A⟩=>⟨f,i,a,e,⟨b.1,QR b.2 ((d.ng aa)).1⟩,(((d.ng aa)).2 a b).T aQ,oh (kP.ok .u8 _) (d.ng aa) A⟩)<|Qc ⟨f,i,bM,bN,Z,bb⟩<|Qe⟩;exact Pf 3;intro O w d U t K an;have ct:=Sv 27 t 6;obtain⟨f,i,r,s,be,bS⟩:=lg K 2;have cu:=Sl 26 be;have ax:=X d.c;have aE:=d.c;have cv:=kx aE 3;have cw:=kr aE 3;clear aE;refine .h λbR aD=>?_;go_simp;exact aD<|⟨r,s,d.set (kP.ok .u8 _) (λ_ H=>H) (by have bf:=bS;rw[be]at bf;exact bf) 3 _ Z⟩;intro cx cy bT bU;have⟨r,s,bV,bg,bh⟩:=bU;rw[<-bw.o]at bh;have aF:=EV bV bg bh;clear bT bg;simp only[nE];go_wp21;go_roundw
  .exact⟨c+1,r,s,Y,Uv,aF.o.1,aF.o.2.1,aF.o.2.2⟩
  simp[intOf];omega
 obtain rfl:c=B:=Y;have bi:=(af.o.B z Y λe=>by injection e with e;omega).T bq.o;have⟨⟨R,ah,ai,aj⟩,_⟩:=kL ax.o;have⟨⟨bW,bX,bY,bZ⟩,cz,bc,bd,cA⟩:=kL bi;have aZ:z<wr:=Y;clear bi;go_wp21;refine Q0 (v:=.agg #[.int .u8 m,tx y,x,(D,c,E)]) ?_ rfl ?_;simp[results,Tryz.results59,go_sem,bW,bX,bY,bZ];have bj:=aw.sl<|kP.ok .u8 _;rw[Rh<|W ad.o]at bj;have bk:=ad.o;refine⟨D,E,by rw[bk],?_,?_⟩;rw[bk];exact((((bj.mE (kP.ok .u8 _) (zQ:=z) λa b=>by rcases b.1 with H|H<;>omega).mE (kP.ok .u8 _) (zQ:=z) λa b=>by rcases b.1 with H|H<;>omega).mE (kP.ok .u8 _) (zQ:=z) λa b=>by rcases b.1 with H|H<;>omega).mE (kP.ok .u8 _) (zQ:=z) λa b=>by rcases b.1 with H|H<;>omega).M (kP.ok .u8 _) (λa b=>⟨by rcases b.1 with H|H<;>omega,by simp only[QW];exact b.2⟩);exact kD (kD (kD (kD (nO aO af.o Y) Y) Y) Y) Y
def yS:∀d,HL d
 |0=>xu 0 λa b=>by omega
 |d+1=>xu (d+1) λa b=>by obtain rfl:d=a:=Y;exact yS d
def kI.yX:∀a,mr true a=pre pd a+mr false (a.drop<|pre pd a)
 |[]=>by simp[pre_nil,mr]
 |c::t=>by
  rw[nI];split
  rename_i b
  have:=yX t;have d:(c==10)=false:=by rw[beq_eq_false_iff_ne];rintro rfl;simp[pd]at b
  rw[List.drop_succ_cons,mr,d];simp only[Bool.false_eq_true,if_false];omega
  rename_i b
  have d:c=10:=by have e:(c.toNat:Int)=10:=(by simpa[pd]using b);apply UInt8.toNat.inj;exact Int.ofNat.inj e
  subst d;simp[mr,oc]
def kI.AJ(a)(b:pfx a [47,47]=true):mr false a=pre pd a+mr false (a.drop<|pre pd a):=by obtain⟨c,rfl⟩:=Ff a b;rw[<-yX];simp[mr,oc,b]
def kI.DF(a)(b:pfx a [47,47]=true):2<=pre pd a:=by obtain⟨c,rfl⟩:=Ff a b;rw[nI,if_pos Ur,nI,if_pos Ur];omega
def kI.skip_none(a:List UInt8)(b:pfx (a.drop<|pre oc a) [47,47]=false):mr false (a.drop<|pre oc a)=0:=by
 have e:∀(a:List UInt8) c d,a.drop (pre oc a)=c::d->oc c.toNat=false:=by
  intro a;induction a with
  |nil=>intro c d b;simp[pre_nil]at b
  |cons i a f=>
   intro c d b;rw[nI]at b;split at b;exact f c d (by simpa using b)
   rename_i g
   simp at b;rw[<-b.1];simpa using g
 match hl:a.drop (pre oc a)with
 |[]=>simp[mr]
 |c::d=>rw[hl]at b;rw[mr,if_neg (by rw[e a c d hl];simp),if_neg<|by rw[b];simp]
def kI.Cv(a)(b c:Nat)(e:b+mr false (a.drop b)=mr false a)(d:pfx (a.drop b) [47,47]=true)(f:pre pd (a.drop b)=c):
  b+c+mr false (a.drop<|b+c)=mr false a/\2<=c:=by
 have g:=DF _ d;rw[AJ _ d,f,List.drop_drop]at e;omega
def kI.IE(a)(b c:Nat)(d:b+c+mr false (a.drop<|b+c)=mr false a)(e:pre oc (a.drop b)=c)(f:pfx (a.drop<|b+c) [47,47]=false):
  mr false a=b+c:=by
 have:=skip_none<|a.drop b;rw[e,List.drop_drop]at this;rw[this f]at d;omega
def tX(a:Int)(d):Calls prog 160 #[.int .u8 a] d λb c=>b=.returned (.bool<|kI.lT a)/\d=c:=by
 cases h1:kI.lS a<;>cases h2:kI.mF a<;>cases h3:(a==95);all_goals
  (go_enter func160,ntmps160;go_wp2_with (first|(go_at_call 159;apply(oG _ _).M;rintro b c ⟨rfl,rfl⟩)|(go_at_call 162;apply(pR _ _).M;rintro b c ⟨rfl,rfl⟩));go_ret;exact⟨by simp[kI.lT,h1,h2,h3],Z⟩)
def oO(i:FuncId)(d)(s:∀m c,Sem.run prog (callFunc i m) c=.ok (.enter i m) c)(q:∀n c,Calls prog i #[.int .u8 n] c λe f=>e=.returned (.bool<|d n)/\c=f)(a c)(r:a.size<=maxLen):
  Calls prog 155 #[.string a,.func (.func i) #[] #[]] c λe f=>e=.returned (.int .i64<|kI.pre d a.data.toList)/\c=f:=by
 unfold maxLen at r;have p:=X q
 go_enter func155,ntmps155
 go_wp2
 go_loop [5] (λj=>∃b:Nat,b<=a.size/\j=b/\b<=kI.pre d a.data.toList) (λj=>a.size-(intOf j).toNat)
 .exact⟨0,Q1 _,Z,Q1 _⟩
 obtain⟨b,t,rfl,k⟩:=hrel;by_cases l:b<a.size
 .cases hq:d (a[b].toNat:Int)
  .have g:=X<|kI.yV d a b l k hq;go_wp2_with (apply(p.o _ _).M;rintro e f ⟨rfl,rfl⟩);go_ret;exact⟨by rw[g.o];rfl,Z⟩
  have g:=X<|kI.yU d a b l k hq;go_wp2_with (apply(p.o _ _).M;rintro e f ⟨rfl,rfl⟩)
  go_round
  .exact⟨b+1,Y,Uv,g.o⟩
  simp[intOf];omega
 have g:=X<|kI.BJ d a b l k;go_wp2;go_ret;exact⟨by rw[g.o];rfl,Z⟩
def qW(a)(b:World)(c:a.size<=maxLen):
  Calls prog 155 #[.string a,.func (.func 160) #[] #[]] b λd e=>d=.returned (.int .i64<|kI.pre kI.lT a.data.toList)/\b=e:=
 oO _ _ (λ_ _=>Ut) tX a b c
def vU(f:Nat)(D:∀i,f=i+1->Di i):Di f:=by
 intro E a j k l m b n F g ag G ah I;have J:=g.len;have K:=X J.1;have w:=X I;have L:=X G;have M:=X D
 go_enter func170,ntmps170
 go_wp21;have N:Below a a<|a.alloc<|mu j l k m b n:=Ba _ _;have x:=QT a<|mu j l k m b n;have O:(a.alloc<|mu j l k m b n).heap.size=a+1:=Us
 have⟨s,y⟩:=Xq a.heap.size;rw[<-y]at x O⊢;generalize a.alloc (mu j l k m b n)=t at*;have P:s<t:=Y
 have ai:a<=s:=Y
 have Q:=X x;clear y;go_loopw [3,8] (λz u wr=>∃c e:Nat,c<=b/\u=c/\z=e/\e<=f/\Below t t wr) (λ_ u _=>b-(intOf u).toNat)
 .exact⟨0,0,Q1 _,Z,Z,Q1 _,Below.refl _ _⟩
 obtain⟨c,e,aj,rfl,rfl,ak,p⟩:=hrel;have A:=(N.T<|p.M Y)
 have R:=p.size;have⟨⟨al,am,an,ao⟩,_⟩:=kL<|(p.B s P).T Q.o;by_cases ap:c<b
 .obtain⟨d,B⟩:∃d,F[c]?=some d:=Gx<|W K.o;obtain⟨aq,ar,au,rfl,av,S,q⟩:=(g.ku (kP.ok .u8 f) λr v=>A.B r<|w.o r v).ll (kP.ok .u8 f) c d B;have C:=L.o d<|QV B;have T:=C.two;obtain⟨i,z,rfl,rfl,g⟩:=S.open;obtain⟨U,V,rfl,aw⟩:=g.form;have aa:=q 0 _ Z;have ax:=q 1 _ Z;have ay:=q 2 _ Z;have az:=q 3 _ Z;rw[Q3]at aa;have ab:=(M.o i Z E wr d.op d.n d.name U _ V d.args g T C.2 Y λr v=>W<|w.o r v)
  obtain⟨aA,aB⟩:=nL c b;go_wp21;apply ab.M;rintro aC aD ⟨ac,rfl,aE,ad⟩;have ae:=(p.T<|ad.M R)
  go_wp21;go_roundw
  .exact⟨c+1,max e ac,Y,Uv,by first|rfl|(congr 1;omega)|(simp;omega),Y,ae⟩
  simp[intOf];omega
 obtain rfl:c=b:=Y;have af:IntKind.i64.wrap ((e:Int)+1)=((e+1:Nat):Int):=Uu;go_wp21;go_ret;exact⟨e+1,by first|rfl|simp[af],Y,A⟩
def xB:∀d,Di d
 |0=>vU 0 λa b=>by omega
 |d+1=>vU (d+1) λa b=>by obtain rfl:d=a:=Y;exact xB d
def DK:Bq 169:=by
 intro w q N o O r x P s i t Q j;have y:=t.five;obtain⟨R,S,T,U,rfl,rfl,c,_,_⟩:=i.open;have⟨_,z,_⟩:=t;obtain⟨V,aa,rfl,A⟩:=c.form;have⟨f,u⟩:=Xq r.lp.length;rw[<-u]at c A s y;have ab:=s 3 _ Z
 go_enter func169,ntmps169
 go_wp21;go_loopw [10] (λk wr=>∃b:Nat,b<=f/\k=b/\Below q q wr) (λk _=>f-(intOf k).toNat)
 .exact⟨0,Q1 _,Z,Below.refl _ _⟩
 obtain⟨b,ac,rfl,g⟩:=hrel;have ad:=g.size;by_cases ae:b<f
 .obtain⟨a,v⟩:∃a,r.lp[b]?=some a:=Gx<|W u;obtain⟨af,ag,x,rfl,ah,i,B⟩:=(c.ku (kP.ok .u8 De) λd e=>g.B d<|j d e).ll (kP.ok .u8 De) b a v;have l:=z a<|QV v;have C:=l.two;have ai:De=6:=Z;obtain⟨m,aj,D,rfl,c⟩:=i.open;obtain⟨n,p,rfl,_⟩:=c.form;have E:=B 0 _ Z;rw[Q3]at E;have F:∀G∈a.args,mJ m G:=(by rw[D]at l;exact l.2);have I:=c.ku (kP.ok .u8 m) (w':=wr.alloc<|mu a.op a.name a.n n a.args.length p) λd e=>Q9 _ _<|W<|j d e;have J:=(xB m w _ a.op a.n a.name n _ p a.args I C F Y (λd e=>by rw[QU];have:=j d e;omega))
  have K:=(g.alloc Y<|mu a.op a.name a.n n a.args.length p)
  have ak:(0:Int)<=(b:Int):=Y;go_wp21;apply J.M;rintro al am ⟨an,rfl,ao,L⟩;have M:=(K.T<|L.M<|by rw[QU];omega)
  go_wp21;go_roundw
  .exact⟨b+1,Y,Uv,M⟩
  simp[intOf];omega
 obtain rfl:b=f:=Y;go_wp21;go_ret;exact⟨Z,g⟩
def Dj(a:Nat):Prop:=∀(k:Nat->Prop) (b d:World) (c:Nat) (l m n p q r e f g i s:Value) (j:List In) (t u:Int) (v:List UInt8) (w:Option Addr) (x y:Nat) (z:List Ex) (A:Nat),a=A+1->my b c l m n p q r e f g i s j d->zU k b c e f g i->kz (kP .u8 A) k b (w,x,y) z->mJ a (.mk t v u z)->j.length+qz a<=100000->
 Calls prog 210 #[.pointer c,.agg #[.int .u8 t,tx v,u,(w,x,y)]] d (uU b c l m n p q r e f g i s d (.tuple #[])<|rU j<|qz a)
def Ao(b:Nat):Prop:=∀(l:Nat->Prop) (c e:World) (d:Nat) (m n p q r s f g i j t:Value) (k:List In) (u:Option Addr) (a v:Nat) (w:List Ex),my c d m n p q r s f g i j t k e->zU l c d f g i j->kz (kP .u8 b) l c (u,a,v) w->(∀x∈w,mJ b x)->k.length+a*qz b<=100000->a<=1000->
 Calls prog 196 #[.pointer d,(u,a,v)] e (uU c d m n p q r s f g i j t e (.tuple #[])<|rU k<|a*qz b)
def xC(b:Nat)(ab:Dj b):Ao b:=by
 intro ac w ad n x y z A e B C D E F G I aK f aL ae af g J K ag aM;have ah:=af;have p:=g;have ai:=J;have aj:=K;have ak:=J.len;have al:=ag;have am:=ab;clear K
 go_enter func196,ntmps196
 go_wp21;go_loopw [8] (λq wr=>∃(a:Nat) (i:Value) (c:List In),a<=f/\q=a/\my w n x y z A e B C D E F i c wr/\nH n G ad i wr/\rU I (a*qz b) c) (λq _=>f-(intOf q).toNat)
 .exact⟨0,G,I,Q1 _,Z,ah,.refl _ _ _,[],Us,Us,Us⟩
 obtain⟨a,i,c,aN,rfl,an,ao,ap⟩:=hrel;have r:=an;have L:=ao;have s:=ap;by_cases aO:a<f
 .obtain⟨j,g⟩:∃j,ae[a]?=some j:=Gx<|W ak;obtain⟨d,m,aP,rfl,M,aq,k⟩:=ai.ll (kP.ok .u8 b) a j g;have ar:=aj j<|QV g;obtain⟨au,aQ,e,rfl,t⟩:=aq.open;obtain⟨N,O,rfl,_⟩:=t.form;have l:=r.old (p.lJ d M).1 (p.lJ d M).2;have av:=(Cb d (m+a*4+0) l).T<|k 0 _ Z;have aR:=(Cb d (m+a*4+1) l).T<|k 1 _ Z;have aS:=(Cb d (m+a*4+2) l).T<|k 2 _ Z;have aw:=(Cb d (m+a*4+3) l).T<|k 3 _ Z;rw[Q3]at av;have⟨P,Q,R,S⟩:=j;simp only[Ex.op,Ex.name,Ex.n,Ex.args]at*;have⟨T,U⟩:=Xq S.length;rw[<-U]at aw t;clear U;have ax:=ar;have ay:=t;have az:=X e;clear k g e l;have V:=Ba wr<|mu P Q R N T O;have aA:=(r.kv V)
  have aB:=(L.T<|.kv V)
  have aa:(a+1)*qz b=a*qz b+qz b:=Uk _ _;have aC:(a+1)*qz b<=f*qz b:=Sj _ Y;have u:=(GO aa aC)
  clear aa;have aD:=(show c.length+qz b<=100000 by have⟨aT,aE,aU,_⟩:=s;rw[aE,Q6];have:=al;have:=u.1;have:=u.2;omega)
  go_wp21;apply(am ac w _ n x y z A e B C D E F i c P R Q N T O S au az.o aA p ay ax aD).M;rintro aV aW ⟨rfl,aF,aG,aH,aI,aJ⟩;have v:=(GO aH<|GO (aB.T aI)<|s.T aJ<|SC u.1.symm)
  go_wp21;go_roundw
  .exact⟨a+1,aF,aG,Y,Uv,v.1,v.2.1,v.2.2⟩
  simp[intOf];omega
 obtain rfl:f=a:=Y;go_wp21
 go_end0
 exact⟨Z,i,c,r,L,s⟩
def qX(j b C)(d D:Nat)(k)(i:List UInt8)(E:kz (mn .u8) j b (.slice C d D) k)(ap:d<=1000)(F:∀G,j G->G<b):
  Calls prog 132 #[.slice C d D,tx i] b (ze (wj j b) PU (k.find? λa=>a.name==i) b):=by
 have I:=E.len;have aq:=nG i;have U:Below b b<|b.alloc rl:=Ba _ _;have J:=QT b rl;have V:(b.alloc rl).heap.size=b+1:=Us
 have K:=X I.1;have aa:=E;have ab:=F;have L:=X J;clear F I J
 go_enter func132,ntmps132
 go_wp21;have⟨l,M⟩:=Xq b.heap.size;rw[<-M]at L V⊢;have g:b<=l:=Y
 generalize b.alloc rl=s at*;have ac:l<s:=Y
 clear M;go_loopw [10] (λt wr=>∃c:Nat,c<=d/\t=c/\(k.take c).find? (λa=>a.name==i)=none/\Below s s wr) (λt _=>d-(intOf t).toNat)
 .exact⟨0,Q1 _,Z,Us,Below.refl _ _⟩
 obtain⟨c,ar,rfl,N,m⟩:=hrel;have O:=X N;have au:=m.size;have⟨⟨u,w,x⟩,ad,ae,af⟩:=lf<|(m.B l ac).T L.o;have ag:l<wr:=Y;have y:=(U.T<|m.M Y)
 clear N;by_cases av:c<d
 .obtain⟨a,z⟩:∃a,k[c]?=some a:=Gx<|W K.o;obtain⟨A,ah,aw,rfl,ai,⟨ax,ay,rfl,P,Q⟩,R⟩:=aa.ll (mn.ok .u8) c a z;obtain⟨n,p,rfl,_⟩:=P.form;obtain⟨q,r,rfl,_⟩:=Q.form;have aj:A<b:=ab A ai;have ak:At b A (ah+c*3) [tx a.name,.slice n a.vars.length p,.slice q a.lH.length r]:=R;have B:=ak.kv y aj;have al:=B 0 _ Z;have az:=B 1 _ Z;have aA:=B 2 _ Z;rw[Q3]at al;obtain⟨aB,aC⟩:=nL c d;have aD:=nG a.name;have S:=(vq O.o z)
  have am:wj j b a<|.agg<|hR a.name n a.vars.length p q a.lH.length r:=⟨_,_,_,_,_,_,Z,P,Q⟩
  have an:=(m.alloc Y<|.cells (hR a.name n a.vars.length p q a.lH.length r) 98)
  clear R z;cases hq:(a.name==i)
  .have e:=S.2 hq;clear u w x ad ae af;go_wp21;go_roundw
   .exact⟨c+1,Y,Uv,e,an⟩
   simp[intOf];omega
  have e:=S.1 hq;go_wp21;refine Q0 (v:=.tuple #[.agg<|hR a.name n a.vars.length p q a.lH.length r,true]) ?_ rfl ⟨λao f=>⟨_,Z,by rw[e]at f;injection f with f;rw[<-f];exact am⟩,λT=>(by rw[e]at T;cases T),(kD (kD (kD y g) g) g).alloc UG _⟩;simp[results,Tryz.results132,go_sem,u,w,x,ag,Tx]
 obtain rfl:d=c:=Y;have e:=O.o;rw[Rh<|W K.o]at e;go_wp21;refine Q0 (v:=.tuple vj) ?_ rfl ⟨λao f=>by rw[e]at f;(cases f),λ_=>Z,kD (kD (kD y g) g) g⟩;simp[results,Tryz.results132,go_sem,u,w,x]
def lI.uy{d a:Nat}{b:List St}{c:St}(e:b[a]?=some c):kT (d+1) (b.take<|a+1)=kT (d+1) (b.take a)+J6 d c:=by rw[List.take_add_one,e];simp[kT,J6]
def zZ(a:Nat)(c d e f:Value)(g:World)(i:Ending)(b:World):Prop:=i=.returned (.tuple #[])/\ui a c d e f b/\nZ (λj=>j=a) g b
def pB.up{T a b c}{n m:Nat}(d:pB T a b c n)(e:n<=m):pB T a b c m:=by have⟨f,g,i⟩:=d;exact⟨f,g,Q8 i e⟩
