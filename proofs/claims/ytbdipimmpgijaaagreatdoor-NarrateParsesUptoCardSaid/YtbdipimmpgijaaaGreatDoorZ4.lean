import Derived.Test.YtbdipimmpgijaaaGreatDoorZ2
set_option maxRecDepth 1000000
set_option maxHeartbeats 32000000
set_option linter.all false
namespace Go.Proofs.YtbdipimmpgijaaaGreatDoor
open RowKit Go.Proofs.Tryz lH Maps oa qR ChangeShapes WideShapes ChangeAt
def nJ(b)(n:Nat)(w)(A:n<=3):Calls prog 28 #[.int .u8 (b.toNat:Int),n] w<|mV (qN b n) w:=by
 have⟨f,g,i,j,k⟩:=Rj rK
 go_enter func28,ntmps28
 go_wp2;go_loopw [5,6] (λl d wr=>∃a:Nat,a<=n/\d=a/\kJ kM 9 1 (λ_=>False) wr w l (qN b a)/\Below w w wr) (λ_ d _=>n-(intOf d).toNat)
 .exact⟨0,QZ _,Z,kJ.nil _ _ _ _ _ _,Sf _ _⟩
 obtain⟨a,B,rfl,c,e⟩:=hrel;obtain⟨C,D,rfl,m,E⟩:=c.form;rw[lR]at c m⊢;have p:=e.size;by_cases F:a<n
 .have G:=JT wr b a Y;have I:IntKind.u8.wrap (48+(a:Int))=48+(a:Int):=Uq;have q:=Im b a;go_wp2_with (at_builtin;refine kO Z _ _ 76 Z w.heap.size 9 f _ 1 16 underlying76 g i j k Z kM.ok (λ_=>False) _ (qN b a) Z (c.ku kM.ok<|(Ba _ _).alloc Uo _) ⟨wr+1,0,none⟩ [tx<|nm b a] (nm b a) Z ?c1 Z ?c3 ?c4 ?c5 ?_);case c1=>have:=mG (wr.alloc<|BY b.toNat a) [tx<|nm b a] 9;rwa [QR]at this
  case c3=>rw[lR];unfold maxLen;omega
  case c4=>rw[lR];omega
  case c5=>simp;omega
  intro r s t u _;have v:kJ kM 9 1 (λ_=>False) s w r<|qN b<|a+1:=(by rw[q];exact t);have x:=(((e.alloc p _).alloc Us _).grown u Us λy z=>(c.ge y z).1)
  go_wp2;go_roundw
  .exact⟨a+1,Y,Ur,v,x⟩
  simp[intOf];omega
 obtain rfl:a=n:=Y;go_wp2;go_ret;exact⟨_,Z,c,e⟩
def pV.lQ{S:Nat->Prop}{g:Nat}{i:Sc}{left:Nat}{T:TypeId}{k l m n p q:R0}{w j:RW}(r:pV S g i left T #[k,l,m,n,p,q] w j)(a b c d e f:R0):pV S g i left T #[a,b,c,d,e,f] w (lQ j w.heap.size a b c d e f):=
 (((((r.mH 0 a).mH 1 b).mH 2 c).mH 3 d).mH 4 e).mH 5 f
def nW{c:Type}{b:Rel c}{l:Nat}(ok:lh b l){w a v}{d:List c}(m:kz b (New w a) a v d)(e f g i j k):kz b (New w<|lQ a w e f g i j k) (lQ a w e f g i j k) v d:=
 sP ok (sP ok (sP ok (sP ok (sP ok (sP ok m _ _) _ _) _ _) _ _) _ _) _ _
def Good.lQ{i a:Nat}(w:RW)(b c d e f g:R0):Good i a w<|lQ w a b c d e f g:=
 ((((((Good.mH w 0 b).T<|Good.mH _ 1 c).T<|Good.mH _ 2 d).T<|Good.mH _ 3 e).T<|Good.mH _ 4 f).T<|Good.mH _ 5 g)
def mD.lS{b}{c:Nat}{S}(m:c<b.heap.size)(i:∀a,S a->a<b.heap.size/\a≠c){f v w g}(d:Good c b.heap.size w g)(j:mD b S f v w):mD b S f v g:=by
 have⟨a,o,k,hb,l⟩:=j;have e:a<w/\a≠c/\a≠b:=by rcases hb with hb|hb;exact⟨hb.2,W hb.1,W hb.1⟩;have:=i a hb.1;exact⟨hb.2,this.2,Y⟩
 refine⟨a,o,k,?_,(Cb a o<|d.2 a e.1 e.2.1 e.2.2).T l⟩;rcases hb with hb|hb;exact .inl ⟨hb.1,QO hb.2 d.1⟩;exact .inr ⟨hb.1,QO hb.2 d.1⟩
def nd.lS{e:Nat}{b w f}{c g:Nat}{o i:Int}{name j}{k l:Nat}{m}(n:e<b.heap.size)(d:Good e b.heap.size w f)(a:nd b c g o i name j k l m w):nd b c g o i name j k l m f:=
 ⟨⟨a.1.1,QO a.1.2 d.1⟩,(d.2 c a.1.2 (W a.1.1)<|W a.1.1).T a.2.1,Io n d a.2.2⟩
def kT.lQ{S:Nat->Prop}{w:RW}{c:Nat}{e:Sc}{left:Nat}(g:kT S w c e left){d:Nat}(a:d≠c)(b:∀f,S f->f≠d)(i j k l m n:R0):kT S (lQ w d i j k l m n) c e left:=
 (((((g.mH a b).mH a b).mH a b).mH a b).mH a b).mH a b
def yQ(j:Nat->Prop)(a:Nat)(k:Sc)(f O left:Nat)(e:RW)(aX:O+f=3)(aY:left<=12)
  (al:∀(l left:Nat) P,l<13->left<=12->kT j P a k left->Calls prog 105 #[.pointer a,l,O] P (qA j a k f left P)) (i:kT j e a k left):
  Calls prog 65 #[.pointer a,O] e (wP j a k (f+1) left e):=by
 have⟨am,an,ao,ap,aq⟩:=Rj LQ;have I:=OK an ao ap aq;have aZ:=i.lt;have ar:=X<|show∀b,j b->b<e from λb g=>(i.lK b g).2;have au:=X al;have av:=i
 go_enter func65,ntmps65
 go_wp21
 go_loopg [5] left (λQ aw wr=>∃(d:List St),Q<=left/\kJ (kR .i64<|f+1) 194 6 (λb=>e<=b/\b≠a) wr e aw d/\(∀m∈d,mR k (f+1) m)/\kU (f+1) d+Q<=left/\kT j wr a k Q/\e.grownBy wr (some a))
 .exact⟨[],QX _,kJ.nil _ _ _ _ _ _,Uo,by rw[oT];omega,av,lC _ _⟩
 have⟨d,ba,n,ax,R,J,K⟩:=hrel;obtain⟨ay,az,rfl,aA,bb⟩:=n.form;have⟨af,S⟩:=Xq d.length;rw[<-S]at n aA⊢;have bc:=K.size;have bd:=E4 f d;have L:=X ax;have E:=X S;have be:af<=left:=Y;have⟨⟨bf,ag,bg,bh⟩,aB,aC⟩:=J.Oj;clear S;by_cases aD:ag=0
 .subst aD;go_wp21;go_ret;exact⟨_,d,gk,Z,by have:=n;rw[E.o]at this⊢;exact this,L.o,R,J,K⟩
 have bi:(0:Int)<(ag:Int):=Y;by_cases bj:gk=0
 .have aE:¬(0:Int)<(gk:Int):=Y;go_wp21;go_ret;exact⟨_,d,gk,Z,by have:=n;rw[E.o]at this⊢;exact this,L.o,R,J,K⟩
 have aE:(0:Int)<(gk:Int):=Y;go_wp21;apply(nS j a k gk 14 wr J Y Y).M;rintro c M ⟨l,bk,rfl,T,U⟩;have p:=n.ge;have V:=n.grown (kR.ok _ _) U (λah c=>by injection c with c;subst c;exact⟨λi=>i.2 Z,λF=>W<|p a F.symm⟩);have ai:=(ky K U)
 have bl:=U.size;have⟨_,aB,aC⟩:=T.Oj;by_cases aF:l=13
 .subst aF;go_wp21;go_ret;exact⟨_,d,gk,Z,by have:=V;rw[E.o]at this⊢;exact this,L.o,R,T,ai⟩
 have aa:((l:Int)==13)=false:=(by rw[QW];omega);obtain⟨q,rfl⟩:∃q,gk=q+1:=⟨gk-1,Y⟩
 have aG:=(T.Ab q)
 have ab:M.grownBy (M.setCell (uc a)<|.int .i64 (q:Int))<|some a:=kE M a 7 _;have p:=V.ge;have aj:=(V.grown (kR.ok _ _) ab λah c=>by injection c with c;subst c;exact⟨λi=>i.2 Z,λF=>W<|p a F.symm⟩)
 have aH:=(ky ai ab)
 have bm:=ab.size;go_wp21;apply(au.o l q _ Y Y aG).M;generalize M.setCell (uc a) (.int .i64 (q:Int))=bn at*;rintro c G ⟨r,s,t,u,v,w,x,y,z,A,B,c3,m,aI,rfl,aJ,aK,bo,aL,ac⟩;have p:=aj.ge;have aM:=aj.grown (kR.ok _ _) ac (λah c=>by injection c with c;subst c;exact⟨λi=>i.2 Z,λF=>W<|p a F.symm⟩);have bp:=ac.size;have N:=Ba G<|.cells (qS r s t u x y v z A w B c3) 194;have aN:kR .i64 (f+1) (λb=>(e<=b/\b≠a)/\b<(G.alloc<|.cells (qS r s t u x y v z A w B c3) 194).heap.size/\some b≠(Value.slice ay af az).ownBlock) (G.alloc<|.cells (qS r s t u x y v z A w B c3) 194) [.int .i64 r,tx s,tx t,(u,x,y),(v,z,A),(w,B,c3)] m:=
  (kR.ok _ _).M ((kR.ok _ _).kv aJ λb g=>N.B b g.2.1) (λb g=>⟨⟨W g.1,g.2.2⟩,by rw[QR];have:=g.2.1;omega,λc=>Ul ((p b c.symm).2) g.1⟩)
 have ak:=(aM.ku (kR.ok _ _) N)
 have aO:=(aL.ku N)
 have C:=(ky (ky aH ac)<|kK (kC N)<|some a)
 have aP:=X<|mG G [.int .i64 r,tx s,tx t,(u,x,y),(v,z,A),(w,B,c3)] 194;go_wp2_with (at_builtin;refine kO Z _ _ 119 Z e.heap.size 194 am _ 6 112 underlying119 I.o.1 I.o.2.1 I.o.2.2.1 I.o.2.2.2 Z (kR.ok .i64<|f+1) (λb=>e<=b/\b≠a) _ d Z ak ⟨G,0,none⟩ [.int .i64 r,tx s,tx t,(u,x,y),(v,z,A),(w,B,c3)] m Z aP.o aN ?c3 ?c4 ?c5 ?_);case c3=>rw[<-E.o];unfold maxLen;omega
 case c4=>rw[<-E.o];omega
 case c5=>simp;omega
 intro bq aQ aR D br;have ad:=ak.ge;have aS:e.grownBy aQ<|some a:=⟨D.os.T C.os,D.tape.T C.tape,D.output.T C.output,QT C.size D.size,λae aa aT=>(D.B ae (QO aa C.size) λc=>W<|(ad ae c.symm).1).T<|C.B ae aa aT⟩
 have aU:=aO.sx D (λc=>W<|(ad a c.symm).1) (λb g c=>by have bs:=(ad b c.symm).1;have bt:=ar.o b g;omega);have aV:=X<|uC f d m;go_wp21
 go_roundg aI
 .exact⟨d++[m],Y,aR,λaW hy=>by rcases SG.1 hy with hy|hy;exact L.o aW hy;simp at hy;rw[hy];exact aK,by rw[aV.o];omega,aU,aS⟩
 omega
def qB.app{g}{e:Nat}{p f i}{j:Nat}{q:Int}{r}{n s:Nat}{w t k}(y:qB g e p f i j q r n s w t)(I:e<w)(z:∀b,g b->b<w)(A:kJ (mA .i64) 121 3 (λb=>w<=b/\b≠e) k w f i)(a:t.grownBy k f.ownBlock):qB g e p f i j q r n s w k:=by have⟨d,B,u,C,v,D,left,E⟩:=y;have l:=B.ge;refine⟨⟨a.os.T d.os,a.tape.T d.tape,a.output.T d.output,QT d.size a.size,λm x F=>(a.B m (QO x d.size) λc=>W<|(l m c.symm).1).T<|d.B m x F⟩,A,(a.B j (QP.1 u).1 λc=>v c).T u,C,v,D,left,?_⟩;exact E.sx a (λc=>W<|(l e c.symm).1) (λb G c=>by have J:=(l b c.symm).1;have:=z b G;omega)
def lH.vk(p):(sg p 3).length=max (ur p) (A7 p):=by have a:=Hz p 0;have b:=Hz p 1;have c:=Hz p 2;rw[if_pos Y]at a;simp only[sg,List.length_append,List.length_nil,a,b,c,ur,A7];split<;>split<;>split<;>omega
def FU{S}{w c:Nat}{z q f}{d:Nat}{F g}{e i:Nat}{j}{k l:Nat}{A x m G}{I:Nat}{J}{K L M:Nat}{n:RE}{p:Nat}{s:List Co}(h:M6 S w c z q d F g e i j k l A x m G I J K L M)(r:q.grownBy f<|some w)
  (N:kJ (mr .i64) 88 3 (λa=>q<=a) f q (n,d,p) s) (O:s.length=d) (P:∀B C,s[B]?=some C->yr e m B C):
  pP z (.returned<|.agg #[tx mN,.slice g e i,.slice j k l,(n,d,p)]) ((((f.setCell c<|tx mN).setCell (sd c)<|.slice g e i).setCell (rm c)<|.slice j k l).setCell (sz c) (n,d,p)):=by
 have R:=h.zB;have T:=h.len.2.2;have U:=r.size;have y:∀a,a≠c->((((f.setCell c<|tx mN).setCell (sd c)<|.slice g e i).setCell (rm c)<|.slice j k l).setCell (sz c) (n,d,p)).heap[a]?=f.heap[a]?:=λa b=>
  (Q0 _ _ _ _ b).T ((Q0 _ _ _ _ b).T<|(Q0 _ _ _ _ b).T<|Q0 _ _ _ _ b)
 have v:((((f.setCell c<|tx mN).setCell (sd c)<|.slice g e i).setCell (rm c)<|.slice j k l).setCell (sz c) (n,d,p)).heap.size=f:=by simp only[QU]
 have D:∀a,w<a->a<q->((((f.setCell c<|tx mN).setCell (sd c)<|.slice g e i).setCell (rm c)<|.slice j k l).setCell (sz c) (n,d,p)).heap[a]?=q.heap[a]?:=λa V Q=>(y a Y).T (r.B a Q λt=>by injection t with t;omega);refine⟨mN,g,j,n,e,i,k,l,d,p,⟨mN,A,x,s⟩,Z,⟨_,_,_,Z,?_,?_,?_⟩,⟨e,m,Z,h.f2,h.Nc,?_,?_,?_,?_,?_,P⟩,?_⟩
 .exact(h.Nb.kv mI.ok λa b=>D a b.1 b.2).M mI.ok (λa b=>⟨W b.1,by rw[v];have:=b.2;omega⟩)
 .exact(h.Ol.kv nT.ok λa b=>D a b.1 b.2).M nT.ok (λa b=>⟨W b.1,by rw[v];have:=b.2;omega⟩)
 .exact((N.sl<|mr.ok _).kv (mr.ok _) λa b=>y a<|by rcases b.1 with h|h<;>omega).M (mr.ok _) (λa b=>⟨by rcases b.1 with h|h<;>omega,by rw[v];exact b.2⟩)
 .rw[h.len.2.1];exact h.n1
 .rw[h.len.2.1];exact h.n3
 .intro aa E;rw[h.Oo,Sj]at E;obtain⟨u,_,rfl⟩:=E;have ab:=vk u;have ac:1<=ur u/\ur u<=3:=UD;have ad:A7 u<=3:=(by unfold A7;omega);exact⟨Y,Y,C7 u 3⟩
 .show nP m.length (m.length*m.length) x;rw[h.len.2.1];exact h.Om
 .show s.length=m.length;rw[h.len.2.1];exact O
 .refine⟨r.os.T h.rf.os,r.tape.T h.rf.tape,r.output.T h.rf.output,by rw[v];omega,λa b=>?_⟩;exact(y a Y).T ((r.B a Y λt=>by injection t with t;omega).T<|h.rf.B a b)
def B6.next{s}{d k l:Nat}{t f w}{u:Nat}{v}{x:Nat}{y}{z A:Nat}{B C}{D E:Nat}{F}{G:Nat}(b:B6 s d k l t f u v x y z A B C D E F G)(g:f.grownBy w<|some d){m:RE}{i n:Nat}{p:List Fg}
  (hF:w.heap[d]?=some (.cells #[tx mN,(m,i,n),Nl,Nl] 32)) (I:kz mI (λa=>f<=a/\a<w) w (m,i,n) p) (J:rF i p) (K:i<=2):
  N3 s d k l t (w.alloc vc) u v x y z A B C D E m i n p F G w 0:=by
 have S:d<f:=(QP.1 b.hF).1;have L:=b.zB;have M:=b.N4;have T:=g.size;have e:=QV w vc none;have j:∀a,a<f.heap.size->a≠d->(w.alloc vc).heap[a]?=f.heap[a]?:=λa N O=>(e.B a Y Uo).T (g.B a N λP=>O<|by injection P);have q:=QQ w vc;refine⟨(j k Y Y).T b.hz,(e.B d Y Uo).T hF,(j l Y Y).T b.M8,M,L,⟨e.os.T<|g.os.T b.rf.os,e.tape.T<|g.tape.T b.rf.tape,e.output.T<|g.output.T b.rf.output,Ul b.rf.size e.size,λa Q=>(j a (W b.rf.size) Y).T<|b.rf.B a Q⟩,
  b.JE.kv uk.ok (λa c=>j a (W<|(b.hS a c).1)<|W<|(b.hS a c).1),b.N5.kv qO.ok λa c=>j a (W<|(b.hS a c).1)<|W<|(b.hS a c).1,b.hS,b.n1,b.n3,
  (I.kv mI.ok λa c=>e.B a c.2 Uo).M mI.ok (λa c=>⟨W c.1,by rw[QR];have:=c.2;omega⟩),J,K,λr U=>?_,⟨Y,by rw[QR];omega⟩⟩
 have R:r=0\/r=1\/r=2:=Y
 rcases R with rfl|rfl|rfl
 .exact kt q 0
 .exact kt q 1
 .exact kt q 2
def nO.app{q:Type}{f:Rel q}{g k:Nat}{P i r}{o:Nat}{s t e}{j:List q}{l m}(a:nO f g k P i r o s t e j l)(b:l.grownBy m e.ownBlock)(v:kJ f g k P m i e j):nO f g k P i r o s t e j m:=
 have w:o<l:=(QP.1 a.c).1
 ⟨⟨b.os.T a.g.os,b.tape.T a.g.tape,b.output.T a.g.output,QT a.g.size b.size,λc d n=>(b.B c (QO d a.g.size) λp=>W<|(a.v c p.symm).1).T<|a.g.B c d n⟩,(b.B o w λp=>Ul ((a.v o p.symm).1) a.lt).T a.c,v,QT a.s b.size,a.v,a.lt,a.ws,λc d n u=>(b.B c (QO d a.s) u).T<|a.k c d n u⟩
def wb.lQ{e w0 w}{o:Nat}{i j k l m n}(p:w.heap[o]?=some e){f:Type}{c:Rel f}{q:Nat}(ok:lh c q){v}{g:List f}(d:kz c (wb e w<|Nw w0 w) w v g):kz c (λa=>Nw w0 w a/\a≠o) ((((((w.setCell o i).setCell (sd o) j).setCell (rm o) k).setCell (sz o) l).setCell (Iv o) m).setCell (An o) n) v g:=
 have b:∀a,(Nw w0 w a/\a≠o)->a≠o:=λ_ d=>d.2
 (((((wb.set p ok d).mH ok b).mH ok b).mH ok b).mH ok b).mH ok b
def run_append_nil{s:Type}{P}{w:RW}(g)(t:TypeId)(d i m)(c n:Nat)(u:P.underlying g=some (.slice d))(v:P.info? d=some i)(I:i.zero=some m)
  (J:i.size=c) (K:i.bytes=n) (L:m.cells.size=c) {e:Rel s} (ok:lh e c) {x:Nat->Prop} {b:List s} {y:R0}
  (p:kz e x w y b) (M:∀a f j,w.grownBy a none->e x w f j->e (Nw w a) a f j) (an:b.length<=maxLen) (N:b.length*n<=140737488355328):
  ∃z A a,(Builtin.append_ #[g,g] t #[Nl,y]).run P w=.ok (.slice z b.length A) a/\kz e (Nw w a) a (.slice z b.length A) b/\w.grownBy a none:=by
 by_cases q:b=[]
 .subst q;obtain⟨B,C,r,rfl,_⟩:=p;refine⟨none,0,w,?_,kz.nil _ _ _,World.grownBy.refl w none⟩;cases B<;>simp[Builtin.append_,Tk u,sizeOf,typeInfo,v,Builtin.lenOf,Builtin.firstCells,loadCells,loadCellsFrom]
 .have⟨B,C,O,Q,ao,ap,R,S⟩:=id p;subst Q;have T:O.flatten≠[]:=by
   intro d;have:=ly.flat (k:=c) (λf aq h=>ok.len h) S;rw[d]at this;have ar:=ok.pos;have:b.length=0:=by have D:b.length*c=0:=(by simpa using this.symm);rcases TV.1 D with h|h;exact h;omega
   exact q<|RI this
  obtain⟨U,V,rfl,_,_⟩:=R T;have⟨r,au,_,aa,ab,ac,ad⟩:=p.cells ok;have av:0<b.length:=Tb.2 q;have⟨aw,a,ae,E,af,_,_⟩:=TG (P:=P) (w:=w) w g t d i m c n u v I J K L ok.pos Nl 0 [] (SS _ _ _ _) ⟨U,V,none⟩ b.length C r.flatten aa ac ad Y (by rw[Q7];exact N)<|QX _;have F:w.grownBy a none:=af;rw[Q7,R8]at E;rcases E.2 with⟨rfl,D⟩|⟨ag,ah,ax,rfl,ai,G,aj,ak,ay,al⟩
  omega;refine⟨_,_,a,ae,⟨_,ah,r,Z,aj,ak,λ_=>⟨ag,0,Z,⟨ai,(QP.1 G).1⟩,λaz aA l=>?_⟩,ab.imp λf j am=>M a f j F am⟩,F⟩;rw[<-al,Sd]at l;split at l;rw[Q7];simp only[World.cell?,G];simpa using l;cases l
def kI.xw:∀a,my false a=pre oc a+my false (a.drop<|pre oc a)
 |[]=>by simp[pre_nil,my]
 |c::t=>by
  rw[nI];split
  rename_i b
  have:=xw t;rw[List.drop_succ_cons,my,if_pos b];omega;simp
def kI.yY:∀a,my true a=pre oZ a+my false (a.drop<|pre oZ a)
 |[]=>by simp[pre_nil,my]
 |c::t=>by
  rw[nI];split
  rename_i b
  have:=yY t;have d:(c==10)=false:=by rw[beq_eq_false_iff_ne];rintro rfl;simp[oZ]at b
  rw[List.drop_succ_cons,my,d];simp only[Bool.false_eq_true,if_false];omega
  rename_i b
  have d:c=10:=by have e:(c.toNat:Int)=10:=(by simpa[oZ]using b);apply UInt8.toNat.inj;exact Int.ofNat.inj e
  subst d;simp[my,oc]
def kI.Ay(a)(b:pfx a [47,47]=true):my false a=pre oZ a+my false (a.drop<|pre oZ a):=by obtain⟨c,rfl⟩:=E9 a b;rw[<-yY];simp[my,oc,b]
def kI.DB(a)(b:pfx a [47,47]=true):2<=pre oZ a:=by obtain⟨c,rfl⟩:=E9 a b;rw[nI,if_pos Un,nI,if_pos Un];omega
def kI.skip_none(a:RK)(b:pfx (a.drop<|pre oc a) [47,47]=false):my false (a.drop<|pre oc a)=0:=by
 have e:∀(a:RK) c d,a.drop (pre oc a)=c::d->oc c.toNat=false:=by
  intro a;induction a with
  |nil=>intro c d b;simp[pre_nil]at b
  |cons i a f=>
   intro c d b;rw[nI]at b;split at b;exact f c d (by simpa using b)
   rename_i g
   simp at b;rw[<-b.1];simpa using g
 match hl:a.drop (pre oc a)with
 |[]=>simp[my]
 |c::d=>rw[hl]at b;rw[my,if_neg (by rw[e a c d hl];simp),if_neg<|by rw[b];simp]
def kI.DC(a)(b c:Nat)(d:b+my false (a.drop b)=my false a)(e:pre oc (a.drop b)=c):
  b+c+my false (a.drop<|b+c)=my false a:=by
 rw[xw,e,List.drop_drop]at d;omega
def kI.Ci(a)(b c:Nat)(e:b+my false (a.drop b)=my false a)(d:pfx (a.drop b) [47,47]=true)(f:pre oZ (a.drop b)=c):
  b+c+my false (a.drop<|b+c)=my false a/\2<=c:=by
 have g:=DB _ d;rw[Ay _ d,f,List.drop_drop]at e;omega
def kI.Iw(a)(b c:Nat)(d:b+c+my false (a.drop<|b+c)=my false a)(e:pre oc (a.drop b)=c)(f:pfx (a.drop<|b+c) [47,47]=false):
  my false a=b+c:=by
 have:=skip_none<|a.drop b;rw[e,List.drop_drop]at this;rw[this f]at d;omega
def xA(q:FuncId)(N:mq q)(O:Bj q)(m:Nat)(P:∀n,m=n+1->C9 q n):C9 q m:=by
 intro t d ao p ap Q u A aq R f;unfold mq at N;have S:=A.len
 have T:=S.1;have B:=P;have U:=O
 go_enter func151,ntmps151
 go_wp21;go_loopw [9] (λv wr=>∃b:Nat,b<=p/\v=b/\Below d d wr) (λv _=>p-(intOf v).toNat)
 .exact⟨0,QZ _,Z,Sf _ _⟩
 obtain⟨b,ar,rfl,j⟩:=hrel;have V:=j.size;by_cases au:b<p
 .obtain⟨g,C⟩:∃g,Q[b]?=some g:=Gx<|W T;obtain⟨e,r,D,rfl,aa,E,ab⟩:=A.ll (kR.ok .u8 m) b g C;have w:e<d:=f e aa;have F:=R g<|QS C;have x:At d e (r+b*6) D:=ab;have ac:=(U t wr e (r+b*6) m g D (u.to j) (x.ku j w) ((kR.ok .u8 m).kv E λa c=>j.B a<|f a c) F Y λa c=>W<|f a c)
  obtain⟨n,av,aw,ax,rfl,rfl,_,G,I⟩:=E.open;have⟨_,_,⟨ad,ae⟩,af,ag⟩:=F;obtain⟨ah,ai,rfl,_⟩:=G.form;obtain⟨aj,ak,rfl,_⟩:=I.form;have J:=x 4 _ Z;have K:=x 5 _ Z;have al:=(λ(k:RW) (i:Below d d k)=>B n Z t k ah _ ai g.th (u.to i) (G.kv (kR.ok .u8 _) λa c=>i.B a<|f a c) ad af λa c=>QO (f a c) i.size)
  have am:=(λ(k:RW) (i:Below d d k)=>B n Z t k aj _ ak g.el (u.to i) (I.kv (kR.ok .u8 _) λa c=>i.B a<|f a c) ae ag λa c=>QO (f a c) i.size)
  have L:=(RC J K)
  obtain⟨ay,az⟩:=nL b p;go_wp2_with (apply ac.M;rintro M k ⟨rfl,l⟩;have y:=j.T<|l.M V;have z:=y;have J:=(Cb e (r+b*6+4)<|y.B e w).T L.1;clear l y);apply(al _ z).M;rintro M aA ⟨rfl,l⟩;have s:=z.T<|l.M z.size;have K:=(Cb e (r+b*6+5)<|s.B e w).T L.2;go_wp21;apply(am _ s).M;rintro M aB ⟨rfl,l⟩;have an:=(s.T<|l.M s.size)
  go_wp21;go_roundw
  .exact⟨b+1,Y,Ur,an⟩
  simp[intOf];omega
 obtain rfl:b=p:=Y;go_wp21;go_ret;exact⟨Z,j⟩
def sW(a:FuncId)(b:mq a)(c:Bj a):∀d,C9 a d
 |0=>xA a b c 0 λe f=>by omega
 |d+1=>xA a b c (d+1) λe f=>by obtain rfl:d=e:=Y;exact sW a b c d
def vV(f:Nat)(D:∀i,f=i+1->Da i):Da f:=by
 intro E a j k l m b n F g ag G ah I;have J:=g.len;have K:=X J.1;have w:=X I;have L:=X G;have M:=X D
 go_enter func205,ntmps205
 go_wp21;have N:Below a a<|a.alloc<|mu j l k m b n:=Ba _ _;have x:=QQ a<|mu j l k m b n;have O:(a.alloc<|mu j l k m b n).heap.size=a+1:=Uo
 have⟨s,y⟩:=Xq a.heap.size;rw[<-y]at x O⊢;generalize a.alloc (mu j l k m b n)=t at*;have P:s<t:=Y
 have ai:a<=s:=Y
 have Q:=X x;clear y;go_loopw [3,8] (λz u wr=>∃c e:Nat,c<=b/\u=c/\z=e/\e<=f/\Below t t wr) (λ_ u _=>b-(intOf u).toNat)
 .exact⟨0,0,QZ _,Z,Z,QZ _,Sf _ _⟩
 obtain⟨c,e,aj,rfl,rfl,ak,p⟩:=hrel;have A:=(N.T<|p.M Y)
 have R:=p.size;have⟨⟨al,am,an,ao⟩,_⟩:=kN<|(p.B s P).T Q.o;by_cases ap:c<b
 .obtain⟨d,B⟩:∃d,F[c]?=some d:=Gx<|W K.o;obtain⟨aq,ar,au,rfl,av,S,q⟩:=(g.kv (kP.ok .u8 f) λr v=>A.B r<|w.o r v).ll (kP.ok .u8 f) c d B;have C:=L.o d<|QS B;have T:=C.two;obtain⟨i,z,rfl,rfl,g⟩:=S.open;obtain⟨U,V,rfl,aw⟩:=g.form;have aa:=q 0 _ Z;have ax:=q 1 _ Z;have ay:=q 2 _ Z;have az:=q 3 _ Z;rw[Q1]at aa;have ab:=(M.o i Z E wr d.op d.n d.name U _ V d.args g T C.2 Y λr v=>W<|w.o r v)
  obtain⟨aA,aB⟩:=nL c b;go_wp21;apply ab.M;rintro aC aD ⟨ac,rfl,aE,ad⟩;have ae:=(p.T<|ad.M R)
  go_wp21;go_roundw
  .exact⟨c+1,max e ac,Y,Ur,by first|rfl|(congr 1;omega)|(simp;omega),Y,ae⟩
  simp[intOf];omega
 obtain rfl:c=b:=Y;have af:IntKind.i64.wrap ((e:Int)+1)=((e+1:Nat):Int):=Uq;go_wp21;go_ret;exact⟨e+1,by first|rfl|simp[af],Y,A⟩
def xB:∀d,Da d
 |0=>vV 0 λa b=>by omega
 |d+1=>vV (d+1) λa b=>by obtain rfl:d=a:=Y;exact xB d
def za(y:Nat)(V:∀aa,y=aa+1->Lx aa):Lx y:=by
 intro ab c aW r ac v e aX ad ax aY ae;have af:=e.len;have aZ:r<=12:=Y
 have B:=X af.1;have C:=ae;have ay:=e;have ag:=ad;have ah:=V;clear ad ae af V
 go_enter func202,ntmps202
 go_wp21;go_loopw [3,9] (λm M wr=>∃f n:Nat,f<=r/\M=f/\m=n/\n<=uS (y-1) v f/\Below c c wr) (λ_ M _=>r-(intOf M).toNat)
 .exact⟨0,r,QZ _,Z,Z,by rw[F5];have:=B.o;omega,Sf _ _⟩
 obtain⟨f,n,ba,rfl,rfl,p,N⟩:=hrel;have z:=N;have D:=N.size;have J:=p;by_cases bb:f<r
 .obtain⟨i,E⟩:∃i,v[f]?=some i:=Gx<|W B.o;obtain⟨l,w,a,rfl,az,A,O⟩:=ay.ll (kR.ok .u8 _) f i E;have ai:l<c:=C l az;have N:l<wr:=Y;have aA:=ag i<|QS E;have aB:=QS E;obtain⟨j,bc,bd,be,aC,rfl,_,aj,ak⟩:=A.open;subst aC;rw[Ti]at J;have⟨_,_,⟨aD,aE⟩,al,am⟩:=aA;obtain⟨an,ao,rfl,_⟩:=aj.form;obtain⟨ap,aq,rfl,_⟩:=ak.form;have P:=(RC (O 4 _ rfl)<|O 5 _ rfl)
  have Q:=Fa ax aB;have ar:=(λ(F:RW) (G:Below c c F)=>ah j Z ab F an _ ao i.th (aj.kv (kR.ok .u8 _) λt x=>G.B t<|C t x) aD al Q.1 Y λt x=>QO (C t x) G.size)
  have au:=(λ(F:RW) (G:Below c c F)=>ah j Z ab F ap _ aq i.el (ak.kv (kR.ok .u8 _) λt x=>G.B t<|C t x) aE am Q.2 Y λt x=>QO (C t x) G.size)
  obtain⟨bf,bg⟩:=nL f r;have R:=X<|yZ j E;have av:=xd j v;have bh:=F6 j v (f+1) r Y;rw[B.o]at av;have bi:uS j v (f+1)<=40:=Y
  clear av;have⟨aF,S⟩:=Xq i.th.length;have⟨aG,T⟩:=Xq i.el.length;rw[<-S,<-T]at P;rw[<-S]at ar;rw[<-T]at au;clear O E al am Q S T;go_wp21;refine sf (λi=>Below wr wr i) (λm c=>∃b a:Nat,m=.int .i64 ((n+(b+a):Nat):Int)/\b<=kU j i.th/\a<=kU j i.el/\Below wr wr c) (mM [(·=n),(·=.slice (mw l w) r ac),(·=f),(Pp l<|w+f*6),(Pp l<|w+f*6+4),(·=.slice an aF ao),Tr,(·=.slice (mw l w) r ac),(·=f),(Pp l<|w+f*6),(Pp l<|w+f*6+5),(·=.slice ap aG aq),Tr,Tr,Tr,Tr]) [(6,λm c=>∃(b:Nat),m=b/\b<=kU j i.th),(12,λm c=>∃(a:Nat),m=a/\a<=kU j i.el),(13,λm c=>∃b a:Nat,m=.int .i64 ((b+a:Nat):Int)/\b<=kU j i.th/\a<=kU j i.el),(14,λm c=>∃b a:Nat,m=.int .i64 ((n+(b+a):Nat):Int)/\b<=kU j i.th/\a<=kU j i.el)] ((Sf _ _).drew) ⟨?_,?_,?_,?_,?_,?_,?_,?_,?_,?_,?_,?_,?_,?_,?_,?_,trivial⟩ ?_;intro u c d s e k q;have bj:=Sl 3<|q 15 _ 3 Z Z Z;clear s e k q;exact .q (g:=⟨Z,d,Qa⟩);exact Pf 0;exact Pf 4;intro u c d s e k q;have bk:=Sv 13 e 1;have bl:=Sv 14 e 2;exact .q (g:=⟨Z,d,Qa⟩);exact Pv 15 3;intro u c d s e k q;have g:=(Cb l (w+f*6+4)<|(z.T<|d.M D).B l ai).T P.1;exact .l 16 (e 4 _ Z Z) g ⟨Z,d,Qa⟩;intro u c d s e k q;have bm:=Sv 17 e 5;refine .c (ar c<|z.T<|d.M D) ?_;rintro I aH ⟨b,rfl,p,U⟩;exact⟨_,Z,⟨trivial,d.T<|U.M d.size,Qc ⟨b,Z,p⟩<|Qd (λaI ⟨a,I,p⟩=>⟨a,I,p⟩)<|Q2<|Qe⟩⟩;exact Pf 0;exact Pf 4;intro u c d s e k q;have bn:=Sv 19 e 7;have bo:=Sv 20 e 8;exact .q (g:=⟨Z,d,Qa⟩);exact Pv 21 9;intro u c d s e k q;have g:=(Cb l (w+f*6+5)<|(z.T<|d.M D).B l ai).T P.2;exact .l 22 (e 10 _ Z Z) g ⟨Z,d,Qa⟩;intro u c d s e k q;have bp:=Sv 23 e 11;refine .c (au c<|z.T<|d.M D) ?_;rintro I aH ⟨a,rfl,p,U⟩;exact⟨_,Z,⟨trivial,d.T<|U.M d.size,Qd (λaI ⟨b,I,p⟩=>⟨b,I,p⟩)<|Qc ⟨a,Z,p⟩<|Q2<|Qe⟩⟩;intro u c d s e k q;obtain⟨b,aJ,aK⟩:=kW k 0;have bq:=Sl 18 aJ;obtain⟨a,aL,aM⟩:=kW k 1;have br:=Sl 24 aL;have aN:IntKind.i64.wrap ((b:Int)+(a:Int))=(b:Int)+(a:Int):=(by have:=R.o;simp[IntKind.wrap,IntKind.bits,IntKind.signed];omega);exact .q (g:=⟨trivial,d,Q2<|Qc ⟨b,a,Ux,aK,aM⟩<|Qa⟩);intro u c d s e k q;have bs:=Sv 12 e 0;obtain⟨b,a,aO,K,A⟩:=kW k 2;have bt:=Sl 25 aO;have aN:IntKind.i64.wrap ((n:Int)+((b:Int)+(a:Int)))=(n:Int)+((b:Int)+(a:Int)):=(by have:=R.o;have:=J;simp[IntKind.wrap,IntKind.bits,IntKind.signed];omega);exact .q (g:=⟨trivial,d,Q2<|Qb<|Qc ⟨b,a,Ux,K,A⟩<|Qa⟩);intro u c d s e k q;obtain⟨b,a,aP,K,A⟩:=kW k 3;have bu:=Sl 26 aP;refine .h λbv aQ=>?_;go_simp;exact aQ<|⟨b,a,Z,K,A,d⟩;intro aR bw aS aT;have⟨b,a,L,K,A,aU⟩:=aT;replace L:aR 15=.int .i64 ((n+(b+a):Nat):Int):=L;simp only[nx,L];have aV:=(z.T<|aU.M D)
  clear aS L;go_wp21;go_roundw
  .exact⟨f+1,n+(b+a),Y,Ur,Z,by rw[Ti,R.o];have:=J;omega,aV⟩
  simp[intOf];omega
 obtain rfl:f=r:=Y;go_wp21;go_ret;refine⟨n,Z,?_,z⟩;have p:=J;have aw:=xd (y-1) v;rw[B.o]at aw;cases y with
 |zero=>
  cases v with
  |nil=>have:=B.o;simp[uS]at*;omega
  |cons i v=>exact(ag i Uo).elim
 |succ y=>rw[Ti]at aw p;omega
def BB:∀d,Lx d
 |0=>za 0 λb a=>Y
 |d+1=>za (d+1) λb a=>(Nat.succ.inj a)▸BB d
def zb(y:Nat)(S:∀f,y=f+1->Lz f):Lz y:=by
 intro T a aR k U V c aS aa ar aT ab;have ac:=c.len;have aU:k<=12:=Y
 have ad:=X ac.1;have B:=ab;have au:=c;have ae:=aa;have af:=S;clear aa ab ac S;by_cases aV:k=0
 .have av:((k:Int)==0)=true:=by rw[R2];omega
  go_enter func203,ntmps203
  go_wp21;go_ret;exact⟨0,Z,QZ _,Sf _ _⟩
 have av:((k:Int)==0)=false:=by rw[QW];omega
 obtain⟨f,rfl⟩:∃f,y=f+1:=by
  obtain⟨e,z⟩:∃e,V[0]?=some e:=Gx<|W ad.o;have:=ae e<|QS z;cases y with
  |zero=>exact this.elim
  |succ y=>exact⟨y,Z⟩
 go_enter func203,ntmps203
 go_wp21;go_loopw [3,10] (λn I wr=>∃d t:Nat,d<=k/\I=d/\n=t/\t<=f/\Below a a wr) (λ_ I _=>k-(intOf I).toNat)
 .exact⟨0,0,QZ _,Z,Z,QZ _,Sf _ _⟩
 obtain⟨d,t,aW,rfl,rfl,p,J⟩:=hrel;have A:=J;have C:=J.size;have K:=p;by_cases aX:d<k
 .obtain⟨e,z⟩:∃e,V[d]?=some e:=Gx<|W ad.o;obtain⟨i,u,q,rfl,aw,ax,L⟩:=au.ll (kR.ok .u8 _) d e z;have ag:i<a:=B i aw;have J:i<wr:=Y;have ay:=ae e<|QS z;have az:=QS z;obtain⟨aA,aY,aZ,ba,bb,rfl,_,ah,ai⟩:=ax.open;obtain rfl:f=aA:=Y;have⟨_,_,⟨aB,aC⟩,aj,ak⟩:=ay;obtain⟨al,am,rfl,_⟩:=ah.form;obtain⟨an,ao,rfl,_⟩:=ai.form;have M:=(RC (L 4 _ rfl)<|L 5 _ rfl)
  have N:=Fa ar az;have ap:=(λ(D:RW) (E:Below a a D)=>af f Z T D al _ am e.th (ah.kv (kR.ok .u8 _) λr x=>E.B r<|B r x) aB aj N.1 Y λr x=>QO (B r x) E.size)
  have aq:=(λ(D:RW) (E:Below a a D)=>af f Z T D an _ ao e.el (ai.kv (kR.ok .u8 _) λr x=>E.B r<|B r x) aC ak N.2 Y λr x=>QO (B r x) E.size)
  obtain⟨bc,bd⟩:=nL d k;have⟨aD,O⟩:=Xq e.th.length;have⟨aE,P⟩:=Xq e.el.length;rw[<-O,<-P]at M;rw[<-O]at ap;rw[<-P]at aq;clear L z aj ak N O P;go_wp21;refine sf (λe=>Below wr wr e) (λn a=>∃l:Nat,n=l/\l<=f/\Below wr wr a) (mM [(·=t),(·=.slice (mw i u) k U),(·=d),(Pp i<|u+d*6),(Pp i<|u+d*6+4),(·=.slice al aD am),Tr,(·=.slice (mw i u) k U),(·=d),(Pp i<|u+d*6),(Pp i<|u+d*6+5),(·=.slice an aE ao),Tr,Tr,Tr]) [(6,λn a=>∃(v:Nat),n=v/\v<=f),(12,λn a=>∃(q:Nat),n=q/\q<=f),(13,λn a=>∃l:Nat,n=l/\l<=f)] ((Sf _ _).drew) ⟨?_,?_,?_,?_,?_,?_,?_,?_,?_,?_,?_,?_,?_,?_,?_,trivial⟩ ?_;intro w a b s c j m;have be:=Sl 3<|m 14 _ 3 Z Z Z;clear s c j m;exact .q (g:=⟨Z,b,Qa⟩);exact Pf 0;exact Pf 4;intro w a b s c j m;have bf:=Sv 14 c 1;have bg:=Sv 15 c 2;exact .q (g:=⟨Z,b,Qa⟩);exact Pv 16 3;intro w a b s c j m;have g:=(Cb i (u+d*6+4)<|(A.T<|b.M C).B i ag).T M.1;exact .l 17 (c 4 _ Z Z) g ⟨Z,b,Qa⟩;intro w a b s c j m;have bh:=Sv 18 c 5;refine .c (ap a<|A.T<|b.M C) ?_;rintro F aF ⟨v,rfl,p,Q⟩;exact⟨_,Z,⟨trivial,b.T<|Q.M b.size,Qc ⟨v,Z,p⟩<|Qd (λaG ⟨q,F,p⟩=>⟨q,F,p⟩)<|Qb<|Qe⟩⟩;exact Pf 0;exact Pf 4;intro w a b s c j m;have bi:=Sv 20 c 7;have bj:=Sv 21 c 8;exact .q (g:=⟨Z,b,Qa⟩);exact Pv 22 9;intro w a b s c j m;have g:=(Cb i (u+d*6+5)<|(A.T<|b.M C).B i ag).T M.2;exact .l 23 (c 10 _ Z Z) g ⟨Z,b,Qa⟩;intro w a b s c j m;have bk:=Sv 24 c 11;refine .c (aq a<|A.T<|b.M C) ?_;rintro F aF ⟨q,rfl,p,Q⟩;exact⟨_,Z,⟨trivial,b.T<|Q.M b.size,Qd (λaG ⟨v,F,p⟩=>⟨v,F,p⟩)<|Qc ⟨q,Z,p⟩<|Qb<|Qe⟩⟩;intro w a b s c j m;have bl:=Sv 13 c 0;obtain⟨v,aH,bm⟩:=kW j 0;have bn:=Sl 19 aH;obtain⟨q,aI,bo⟩:=kW j 1;have bp:=Sl 25 aI;exact .q (g:=⟨trivial,b,Q2<|Qc ⟨max (max t v) q,by show Value.int IntKind.i64 _=Value.int IntKind.i64 _;congr 1;(repeat' split)<;>omega,W K⟩<|Qa⟩);intro w a b s c j m;obtain⟨l,aJ,R⟩:=kW j 2;have bq:=Sl 26 aJ;refine .h λbr aK=>?_;go_simp;exact aK<|⟨l,Z,R,b⟩;intro aL bs aM aN;have⟨l,G,R,aO⟩:=aN;replace G:aL 14=.int .i64 (l:Int):=G;simp only[nx,G];have aP:=(A.T<|aO.M C)
  clear aM G;go_wp21;go_roundw
  .exact⟨d+1,l,Y,Ur,Z,R,aP⟩
  simp[intOf];omega
 obtain rfl:d=k:=Y;have aQ:IntKind.i64.wrap ((t:Int)+1)=((t+1:Nat):Int):=(by have:=K;simp[IntKind.wrap,IntKind.bits,IntKind.signed];omega);go_wp21;go_ret;exact⟨t+1,by first|rfl|simp[aQ],W K,A⟩
def BC:∀d,Lz d
 |0=>zb 0 λb a=>Y
 |d+1=>zb (d+1) λb a=>(Nat.succ.inj a)▸BC d
def DG:Bj 204:=by
 intro w q N o O r x P s i t Q j;have y:=t.five;obtain⟨R,S,T,U,rfl,rfl,c,_,_⟩:=i.open;have⟨_,z,_⟩:=t;obtain⟨V,aa,rfl,A⟩:=c.form;have⟨f,u⟩:=Xq r.lp.length;rw[<-u]at c A s y;have ab:=s 3 _ Z
 go_enter func204,ntmps204
 go_wp21;go_loopw [10] (λk wr=>∃b:Nat,b<=f/\k=b/\Below q q wr) (λk _=>f-(intOf k).toNat)
 .exact⟨0,QZ _,Z,Sf _ _⟩
 obtain⟨b,ac,rfl,g⟩:=hrel;have ad:=g.size;by_cases ae:b<f
 .obtain⟨a,v⟩:∃a,r.lp[b]?=some a:=Gx<|W u;obtain⟨af,ag,x,rfl,ah,i,B⟩:=(c.kv (kP.ok .u8 De) λd e=>g.B d<|j d e).ll (kP.ok .u8 De) b a v;have l:=z a<|QS v;have C:=l.two;have ai:De=6:=Z;obtain⟨m,aj,D,rfl,c⟩:=i.open;obtain⟨n,p,rfl,_⟩:=c.form;have E:=B 0 _ Z;rw[Q1]at E;have F:∀G∈a.args,mK m G:=(by rw[D]at l;exact l.2);have I:=c.kv (kP.ok .u8 m) (w':=wr.alloc<|mu a.op a.name a.n n a.args.length p) λd e=>Q5 _ _<|W<|j d e;have J:=(xB m w _ a.op a.n a.name n _ p a.args I C F Y (λd e=>by rw[QR];have:=j d e;omega))
  have K:=(g.alloc Y<|mu a.op a.name a.n n a.args.length p)
  have ak:(0:Int)<=(b:Int):=Y;go_wp21;apply J.M;rintro al am ⟨an,rfl,ao,L⟩;have M:=(K.T<|L.M<|by rw[QR];omega)
  go_wp21;go_roundw
  .exact⟨b+1,Y,Ur,M⟩
  simp[intOf];omega
 obtain rfl:b=f:=Y;go_wp21;go_ret;exact⟨Z,g⟩
def qJ(A b T)(i U:Nat)(f)(j:RK)(V:kz (nj .u8) A b (.slice T i U) f)(aP:i<=1000)(aa:∀aw∈f,aw.length<=1000)(ab:∀ac,A ac->ac<b):
  Calls prog 167 #[.slice T i U,tx j] b (zf (Np A b) PK (f.flatten.find? λa=>a.name==j) b):=by
 have ad:=V.len;have aQ:=nE j;have J:Below b b<|b.alloc wg:=Ba _ _;have ae:=QQ b wg;have ax:(b.alloc wg).heap.size=b+1:=Uo
 have af:=X ad.1;have ay:=V;have ag:=ab;have K:=X ae;have az:=aa;clear ab ad ae aa
 go_enter func167,ntmps167
 go_wp21;have⟨q,ah⟩:=Xq b.heap.size;rw[<-ah]at K ax⊢;have r:b<=q:=Y
 generalize b.alloc wg=t at*;have ai:q<t:=Y
 clear ah;go_loopw [12] (λl wr=>∃c:Nat,c<=i/\l=c/\(f.take c).flatten.find? (λa=>a.name==j)=none/\Below t t wr) (λl _=>i-(intOf l).toNat)
 .exact⟨0,QZ _,Z,Uo,Sf _ _⟩
 obtain⟨c,aR,rfl,aj,d⟩:=hrel;have L:=X aj;have aS:=d.size;clear aj;by_cases aT:c<i
 .obtain⟨m,k⟩:∃a,f[c]?=some a:=Gx<|W af.o;obtain⟨M,aA,aB,rfl,aC,⟨aD,rfl,s⟩,u⟩:=ay.ll (nj.ok .u8) c m k;obtain⟨ak,al,rfl,aE⟩:=s.form;have aF:M<b:=ag M aC;have N:At b M (aA+c*1) [(ak,m.length,al)]:=u;have B:=N.ku (J.T<|d.M Y) aF 0 _ Z;rw[Q1,Ry]at B;obtain⟨aU,aV⟩:=nL c i;have⟨n,C⟩:=Xq m.length;have aW:n<=1000:=(by rw[C];exact az m<|QS k);rw[<-C]at s B aE;have am:=X C.symm;have an:=X k;have aG:=(d.alloc Y<|oe ak n al)
  clear u k C;go_wp21;go_loopw [19] (λl wr=>∃e:Nat,e<=n/\l=e/\(m.take e).find? (λa=>a.name==j)=none/\Below t t wr) (λl _=>n-(intOf l).toNat)
  .exact⟨0,QZ _,Z,Uo,aG⟩
  obtain⟨e,aX,rfl,ao,d⟩:=hrel;have ap:=X ao;have d:=d;have aY:=d.size;have⟨⟨w,x,y⟩,O,P,Q⟩:=lg<|(d.B q ai).T K.o;have aq:q<wr:=Y;have D:=(J.T<|d.M Y)
  clear ao;by_cases aZ:e<n
  .obtain⟨a,k⟩:∃a,m[e]?=some a:=Gx<|W am.o;obtain⟨R,aH,aB,rfl,aI,⟨aD,ba,rfl,s,ar⟩,u⟩:=s.ll (mA.ok .u8) e a k;obtain⟨E,F,rfl,_⟩:=s.form;obtain⟨G,I,rfl,_⟩:=ar.form;have aJ:R<b:=ag R aI;have N:At b R (aH+e*3) [tx a.name,.slice E a.params.length F,.slice G a.body.length I]:=u;have S:=N.ku D aJ;have B:=S 0 _ Z;have bb:=S 1 _ Z;have bc:=S 2 _ Z;rw[Q1]at B;obtain⟨bd,be⟩:=nL e n;have bf:=nE a.name;have au:=(vr ap.o k)
   have aK:Np A b a<|.agg<|hR a.name E a.params.length F G a.body.length I:=⟨_,_,_,_,_,_,Z,s,ar⟩
   have aL:=(d.alloc Y<|.cells (hR a.name E a.params.length F G a.body.length I) 125)
   clear u k;cases hq:(a.name==j)
   .have g:=au.2 hq;clear w x y O P Q;go_wp21;go_roundw
    .exact⟨e+1,Y,Ur,g,aL⟩
    simp[intOf];omega
   have g:f.flatten.find? (λa=>a.name==j)=some a:=by
    have aM:f=f.take c++(m::f.drop (c+1)):=by
     have z:=(Q9.1 an.o)
     have⟨z,aN⟩:=z;rw[<-aN,List.getElem_cons_drop,SA]
    rw[aM,Tc,R5,S3,L.o,S3,au.1 hq];rfl
   go_wp21;refine QY (v:=.tuple #[.agg<|hR a.name E a.params.length F G a.body.length I,true]) ?_ rfl ⟨λaO p=>⟨_,Z,by rw[g]at p;injection p with p;rw[<-p];exact aK⟩,λav=>(by rw[g]at av;cases av),(kD (kD (kD D r) r) r).alloc UC _⟩;simp[results,Tryz.results167,go_sem,w,x,y,aq,Tw]
  obtain rfl:n=e:=Y;have g:(f.take<|c+1).flatten.find? (λa=>a.name==j)=none:=by have z:=ap.o;rw[Re<|W am.o]at z;rw[Rz,an.o,Tc,S3,L.o];simpa using z
  clear w x y O P Q;go_wp21;go_roundw
  .exact⟨c+1,Y,Ur,g,d⟩
  simp[intOf];omega
 obtain rfl:i=c:=Y;have g:=L.o;rw[Re<|W af.o]at g;have⟨⟨w,x,y⟩,O,P,Q⟩:=lg<|(d.B q ai).T K.o;have D:=(J.T<|d.M Y)
 have aq:q<wr:=Y;go_wp21;refine QY (v:=.tuple zd) ?_ rfl ⟨λaO p=>by rw[g]at p;(cases p),λ_=>Z,kD (kD (kD D r) r) r⟩;simp[results,Tryz.results167,go_sem,w,x,y]
def vW(aT:Nat)(bd:LA aT):LB aT:=by
 intro ac b ad ae af U k l m n p q r s t N e O F aA name G aB I f be;have A:=Oz.of be;have aY:=f.len;have u:Below b b<|(b.alloc<|oS k l m n p q r s t).alloc<|mu F name aA N e O:=(Ba _ _).alloc Uo _;have aZ:((b.alloc<|oS k l m n p q r s t).alloc<|mu F name aA N e O).heap[b.heap.size]?=some (oS k l m n p q r s t):=(Q5 _ _ Uo).T<|QQ _ _;have ba:((b.alloc<|oS k l m n p q r s t).alloc<|mu F name aA N e O).heap[b.heap.size+1]?=some (mu F name aA N e O):=by have:=QQ (b.alloc<|oS k l m n p q r s t)<|mu F name aA N e O;rwa [QR]at this
 have bf:((b.alloc<|oS k l m n p q r s t).alloc<|mu F name aA N e O).heap.size=b+2:=Uo
 have J:=(I.ku u)
 have au:=(f.kv (kP.ok .u8 aT) λbb bg=>u.B bb<|I.lK bb bg)
 have av:=X aY.1;have aw:=u;have K:=X aZ;have L:=X ba;have aC:=bd;clear I aY aZ ba;have⟨aD,w⟩:=Xq<|(b.alloc<|oS k l m n p q r s t).alloc<|mu F name aA N e O;rw[<-w]at J au aw K L bf;have aE:=X w;clear w;cases A with
 |num I aH V=>
  subst aH;have ag:G=[]:=V;have M:e=0:=(by have:=av.o;rw[ag]at this;exact this.symm);have aF:CX e 0=0:=(by rw[M];rfl);have aa:e<=2:=Y;clear M;have ab:F=1\/F=4:=I;rcases ab with rfl|rfl;all_goals
   go_enter func249,ntmps249
   go_wp21;have w:=aE.o;rw[<-w];clear w;refine(aC ac aD ad ae af U k l m n p q r s t N e O G 0 J au aa<|by rw[ag];simp).M ?_;rintro P i ⟨rfl,c⟩;have⟨j,u⟩:=Xq b.heap.size;have⟨d,x⟩:=Xq<|b.heap.size+1;rw[<-x]at L⊢;rw[<-u]at K⊢;have aG:=c.size;have R:j<i:=Y;have S:d<i:=Y;have y:=X<|(c.B j Y).T K.o;have z:=X<|(c.B d Y).T L.o;have ar:=(J.ku c)
   have T:=(aw.T<|c.M Y)
   have⟨⟨B,C,D⟩,_⟩:=lg y.o;have⟨⟨ah,ai,E,aj⟩,_⟩:=kN z.o;clear x u;rw[aF];go_wp21;refine QY (v:=.tuple FG) ?_ rfl ⟨Z,T⟩;simp[results,Tryz.results249,go_sem]
 |JJ I aH V=>
  subst aH;have ag:G=[]:=V;have M:e=0:=(by have:=av.o;rw[ag]at this;exact this.symm);have aF:CX e 0=0:=(by rw[M];rfl);have aa:e<=2:=Y;clear M;have ab:F=2\/F=3:=I;rcases ab with rfl|rfl;all_goals
   go_enter func249,ntmps249
   go_wp21;have w:=aE.o;rw[<-w];clear w;refine(aC ac aD ad ae af U k l m n p q r s t N e O G 0 J au aa<|by rw[ag];simp).M ?_;rintro P i ⟨rfl,c⟩;have⟨j,u⟩:=Xq b.heap.size;have⟨d,x⟩:=Xq<|b.heap.size+1;rw[<-x]at L⊢;rw[<-u]at K⊢;have aG:=c.size;have R:j<i:=Y;have S:d<i:=Y;have y:=X<|(c.B j Y).T K.o;have z:=X<|(c.B d Y).T L.o;have ar:=(J.ku c)
   have T:=(aw.T<|c.M Y)
   have⟨⟨B,C,D⟩,_⟩:=lg y.o;have⟨⟨ah,ai,E,aj⟩,_⟩:=kN z.o;clear x u;rw[aF];go_wp21;refine QY (v:=.tuple #[.int .u8 2,Em,.int .i64 0]) ?_ rfl ⟨Z,T⟩;simp[results,Tryz.results249,go_sem]
 |name I aI V=>
  have ag:G=[]:=V;have M:e=0:=(by have:=av.o;rw[ag]at this;exact this.symm);have aF:CX e 0=0:=(by rw[M];rfl);have aa:e<=2:=Y;clear M;have ab:F=5:=I;have aJ:zT U name aB:=aI;subst ab
  go_enter func249,ntmps249
  go_wp21;have w:=aE.o;rw[<-w];clear w;refine(aC ac aD ad ae af U k l m n p q r s t N e O G 0 J au aa<|by rw[ag];simp).M ?_;rintro P i ⟨rfl,c⟩;have⟨j,u⟩:=Xq b.heap.size;have⟨d,x⟩:=Xq<|b.heap.size+1;rw[<-x]at L⊢;rw[<-u]at K⊢;have aG:=c.size;have R:j<i:=Y;have S:d<i:=Y;have y:=X<|(c.B j Y).T K.o;have z:=X<|(c.B d Y).T L.o;have ar:=(J.ku c)
  have T:=(aw.T<|c.M Y)
  have⟨⟨B,C,D⟩,_⟩:=lg y.o;have⟨⟨ah,ai,E,aj⟩,_⟩:=kN z.o;clear x u;rw[aF];go_wp21;apply(DL ac i ad ae af U k l m n p q r s t name aB ar aJ).M;rintro P bh ⟨rfl,aQ⟩;have bi:=(T.T<|aQ.M Y)
  have br:=aQ.size;clear B C D ah ai E aj;have⟨⟨B,C,D⟩,_⟩:=lg<|(aQ.B j R).T y.o;have⟨⟨ah,ai,E,aj⟩,_⟩:=kN<|(aQ.B d S).T z.o;go_wp21;apply(sZ _ _ _ aB name bh).M;rintro P bs ⟨rfl,bj⟩;have bk:=(bi.T<|bj.M Y)
  go_wp21;refine QY (v:=.tuple<|HO aB) ?_ rfl ⟨Z,bk⟩;simp[results,Tryz.results249,go_sem]
 |size I aH aR aI V=>
  have ag:G=[]:=V;have M:e=0:=(by have:=av.o;rw[ag]at this;exact this.symm);have aF:CX e 0=0:=(by rw[M];rfl);have aa:e<=2:=Y;clear M;subst aH;have ab:F=8:=I;have aJ:name=nm 116 0:=aI;subst ab aJ
  go_enter func249,ntmps249
  go_wp21;have w:=aE.o;rw[<-w];clear w;refine(aC ac aD ad ae af U k l m n p q r s t N e O G 0 J au aa<|by rw[ag];simp).M ?_;rintro P i ⟨rfl,c⟩;have⟨j,u⟩:=Xq b.heap.size;have⟨d,x⟩:=Xq<|b.heap.size+1;rw[<-x]at L⊢;rw[<-u]at K⊢;have aG:=c.size;have R:j<i:=Y;have S:d<i:=Y;have y:=X<|(c.B j Y).T K.o;have z:=X<|(c.B d Y).T L.o;have ar:=(J.ku c)
  have T:=(aw.T<|c.M Y)
  have⟨⟨B,C,D⟩,_⟩:=lg y.o;have⟨⟨ah,ai,E,aj⟩,_⟩:=kN z.o;clear x u;rw[aF];go_wp21;clear B C D ah ai E aj;refine Ri (λaK=>Below i i aK) (mM [(·=.agg (ph k l m n p q r s t)),(Pp d 1),(·=tx (nm 116 0)),(·=.agg (ph k l m n p q r s t)),(Pp d 1),(·=tx (nm 116 0)),(·=.int .i64 0),(·=.tuple FG),(·=.int .u8 1),(·=Em),(·=.int .i64 0),(·=.int .u8 1),(·=Em),(·=.int .i64 0)]) [] ((Sf _ _).drew) ⟨?_,?_,?_,?_,?_,?_,?_,?_,?_,?_,?_,?_,?_,?_,trivial⟩ ?_;intro ak b a A f al am;have E:=Sl 2<|A 2 Z;have⟨⟨B,C,D⟩,_⟩:=lg<|(a.B j R).T y.o;exact .q (g:=⟨Z,a,Qa⟩);exact .f 3;exact .l 50 1 λ_ a=>kA ((a.B d S).T z.o) 1 _ Z;intro ak b a A f al am;have E:=Sl 2<|A 2 Z;have⟨⟨B,C,D⟩,_⟩:=lg<|(a.B j R).T y.o;exact .q (g:=⟨Z,a,Qa⟩);exact .f 3;exact .l 53 4 λ_ a=>kA ((a.B d S).T z.o) 1 _ Z;intro ak b a A f al am;have bt:=Sv 52 f 3;have bu:=Sv 54 f 5;refine .h λaL an=>?_;go_simp;refine⟨Z,?_⟩;refine Calls.M (sK ac b ad ae af U k l m n p q r s t (ar.ku a) aR) ?_;rintro P aM ⟨ao,ap⟩;subst ao;exact⟨_,Z,an ⟨Z,a.T<|ap.M a.size,Qe⟩⟩;intro ak b a A f al am;have bv:=Sv 49 f 0;have bw:=Sv 51 f 2;have bx:=Sv 55 f 6;refine .h λaL an=>?_;go_simp;refine⟨Z,?_⟩;refine Calls.M (sZ _ _ _ 1 (nm 116 0) b) ?_;rintro P aM ⟨ao,ap⟩;subst ao;exact⟨_,Z,an ⟨Z,a.T<|ap.M a.size,Qe⟩⟩;exact .v 56 7;exact .v 56 7;exact .v 56 7;exact .v 57 8;exact .v 58 9;exact .v 59 10;intro aq bc aN Q aO;have ax:aq 11=.int .u8 1:=Q 11 Un;have ay:aq 12=Em:=Q 12 Un;have az:aq 13=.int .i64 0:=Q 13 Un;have aP:=aN;clear Q aO;simp only[nx,ax,ay,az];clear ax ay az;go_wp21;refine QY (v:=.tuple FG) ?_ rfl ⟨Z,(T.T<|aP.M Y)⟩;simp[results,Tryz.results249,go_sem]
 |get I aR aI aU aV V=>
  have M:¬e=0:=(by have:=av.o;have aW:0<G.length:=aU;omega);have aa:e<=2:=(by have:=av.o;have aW:G.length<=2:=aV;omega);have aJ:name=nm 116 0:=aI;subst aJ;have ab:(F=6/\aB=1)\/(F=7/\aB=2):=I;have aS:CX e 1=1:=(by unfold CX;rw[Rh M]);rcases ab with⟨rfl,rfl⟩|⟨rfl,rfl⟩
  .go_enter func249,ntmps249
   go_wp21;have w:=aE.o;rw[<-w];clear w;apply(aC ac aD ad ae af U k l m n p q r s t N e O G 1 J au aa V).M;rintro P i ⟨rfl,c⟩;have⟨j,u⟩:=Xq b.heap.size;have⟨d,x⟩:=Xq<|b.heap.size+1;rw[<-x]at L⊢;rw[<-u]at K⊢;have aG:=c.size;have R:j<i:=Y;have S:d<i:=Y;have y:=X<|(c.B j Y).T K.o;have z:=X<|(c.B d Y).T L.o;have ar:=(J.ku c)
   have T:=(aw.T<|c.M Y)
   have⟨⟨B,C,D⟩,_⟩:=lg y.o;have⟨⟨ah,ai,E,aj⟩,_⟩:=kN z.o;clear x u;rw[aS];go_wp21;clear B C D ah ai E aj;refine Ri (λaK=>Below i i aK) (mM [(·=.agg (ph k l m n p q r s t)),(·=.int .u8 1),(Pp d 1),(·=tx (nm 116 0)),(·=.agg (ph k l m n p q r s t)),(Pp d 1),(·=tx (nm 116 0)),(·=.int .i64 0),(·=.tuple FG),(·=.int .u8 1),(·=Em),(·=.int .i64 0),(·=.int .u8 1),(·=Em),(·=.int .i64 0)]) [] ((Sf _ _).drew) ⟨?_,?_,?_,?_,?_,?_,?_,?_,?_,?_,?_,?_,?_,?_,?_,trivial⟩ ?_;intro ak b a A f al am;have E:=Sl 2<|A 2 Z;have⟨⟨B,C,D⟩,_⟩:=lg<|(a.B j R).T y.o;exact .q (g:=⟨Z,a,Qa⟩);exact .f 8;exact .f 3;exact .l 87 2 λ_ a=>kA ((a.B d S).T z.o) 1 _ Z;intro ak b a A f al am;have E:=Sl 2<|A 2 Z;have⟨⟨B,C,D⟩,_⟩:=lg<|(a.B j R).T y.o;exact .q (g:=⟨Z,a,Qa⟩);exact .f 3;exact .l 90 5 λ_ a=>kA ((a.B d S).T z.o) 1 _ Z;intro ak b a A f al am;have bl:=Sv 89 f 4;have bm:=Sv 91 f 6;refine .h λaL an=>?_;go_simp;refine⟨Z,?_⟩;refine Calls.M (sK ac b ad ae af U k l m n p q r s t (ar.ku a) aR) ?_;rintro P aM ⟨ao,ap⟩;subst ao;exact⟨_,Z,an ⟨Z,a.T<|ap.M a.size,Qe⟩⟩;intro ak b a A f al am;have bn:=Sv 85 f 0;have bo:=Sv 86 f 1;have bp:=Sv 88 f 3;have bq:=Sv 92 f 7;refine .h λaL an=>?_;go_simp;refine⟨Z,?_⟩;refine Calls.M (sZ _ _ _ 1 (nm 116 0) b) ?_;rintro P aM ⟨ao,ap⟩;subst ao;exact⟨_,Z,an ⟨Z,a.T<|ap.M a.size,Qe⟩⟩;exact .v 93 8;exact .v 93 8;exact .v 93 8;exact .v 94 9;exact .v 95 10;exact .v 96 11;intro aq bc aN Q aO;have ax:aq 12=.int .u8 1:=Q 12 Un;have ay:aq 13=Em:=Q 13 Un;have az:aq 14=.int .i64 0:=Q 14 Un;have aP:=aN;clear Q aO;simp only[nx,ax,ay,az];clear ax ay az;go_wp21;refine QY (v:=.tuple FG) ?_ rfl ⟨Z,(T.T<|aP.M Y)⟩;simp[results,Tryz.results249,go_sem]
  go_enter func249,ntmps249
  go_wp21;have w:=aE.o;rw[<-w];clear w;apply(aC ac aD ad ae af U k l m n p q r s t N e O G 1 J au aa V).M;rintro P i ⟨rfl,c⟩;have⟨j,u⟩:=Xq b.heap.size;have⟨d,x⟩:=Xq<|b.heap.size+1;rw[<-x]at L⊢;rw[<-u]at K⊢;have aG:=c.size;have R:j<i:=Y;have S:d<i:=Y;have y:=X<|(c.B j Y).T K.o;have z:=X<|(c.B d Y).T L.o;have ar:=(J.ku c)
  have T:=(aw.T<|c.M Y)
  have⟨⟨B,C,D⟩,_⟩:=lg y.o;have⟨⟨ah,ai,E,aj⟩,_⟩:=kN z.o;clear x u;rw[aS];go_wp21;clear B C D ah ai E aj;refine Ri (λaK=>Below i i aK) (mM [(·=.agg (ph k l m n p q r s t)),(·=.int .u8 2),(Pp d 1),(·=tx (nm 116 0)),(·=.agg (ph k l m n p q r s t)),(Pp d 1),(·=tx (nm 116 0)),(·=.int .i64 0),(·=.tuple #[.int .u8 2,Em,.int .i64 0]),(·=.int .u8 2),(·=Em),(·=.int .i64 0),(·=.int .u8 2),(·=Em),(·=.int .i64 0)]) [] ((Sf _ _).drew) ⟨?_,?_,?_,?_,?_,?_,?_,?_,?_,?_,?_,?_,?_,?_,?_,trivial⟩ ?_;intro ak b a A f al am;have E:=Sl 2<|A 2 Z;have⟨⟨B,C,D⟩,_⟩:=lg<|(a.B j R).T y.o;exact .q (g:=⟨Z,a,Qa⟩);exact .f 8;exact .f 3;exact .l 87 2 λ_ a=>kA ((a.B d S).T z.o) 1 _ Z;intro ak b a A f al am;have E:=Sl 2<|A 2 Z;have⟨⟨B,C,D⟩,_⟩:=lg<|(a.B j R).T y.o;exact .q (g:=⟨Z,a,Qa⟩);exact .f 3;exact .l 90 5 λ_ a=>kA ((a.B d S).T z.o) 1 _ Z;intro ak b a A f al am;have bl:=Sv 89 f 4;have bm:=Sv 91 f 6;refine .h λaL an=>?_;go_simp;refine⟨Z,?_⟩;refine Calls.M (sK ac b ad ae af U k l m n p q r s t (ar.ku a) aR) ?_;rintro P aM ⟨ao,ap⟩;subst ao;exact⟨_,Z,an ⟨Z,a.T<|ap.M a.size,Qe⟩⟩;intro ak b a A f al am;have bn:=Sv 85 f 0;have bo:=Sv 86 f 1;have bp:=Sv 88 f 3;have bq:=Sv 92 f 7;refine .h λaL an=>?_;go_simp;refine⟨Z,?_⟩;refine Calls.M (sZ _ _ _ 2 (nm 116 0) b) ?_;rintro P aM ⟨ao,ap⟩;subst ao;exact⟨_,Z,an ⟨Z,a.T<|ap.M a.size,Qe⟩⟩;exact .v 93 8;exact .v 93 8;exact .v 93 8;exact .v 94 9;exact .v 95 10;exact .v 96 11;intro aq bc aN Q aO;have ax:aq 12=.int .u8 2:=Q 12 Un;have ay:aq 13=Em:=Q 13 Un;have az:aq 14=.int .i64 0:=Q 14 Un;have aP:=aN;clear Q aO;simp only[nx,ax,ay,az];clear ax ay az;go_wp21;refine QY (v:=.tuple #[.int .u8 2,Em,.int .i64 0]) ?_ rfl ⟨Z,(T.T<|aP.M Y)⟩;simp[results,Tryz.results249,go_sem]
 |ops aX I aU aV V=>
  have M:¬e=0:=(by have:=av.o;have aW:0<G.length:=aU;omega);have aa:e<=2:=(by have:=av.o;have aW:G.length<=2:=aV;omega);have ab:(F,aX,aB)∈HE:=I;have aS:CX e aX=aX:=(by unfold CX;rw[Rh M]);simp only[HE,Rn,Prod.mk.injEq,Rg,RO]at ab;rcases ab with⟨rfl,rfl,rfl⟩|⟨rfl,rfl,rfl⟩|⟨rfl,rfl,rfl⟩|⟨rfl,rfl,rfl⟩|⟨rfl,rfl,rfl⟩|⟨rfl,rfl,rfl⟩|⟨rfl,rfl,rfl⟩|⟨rfl,rfl,rfl⟩|⟨rfl,rfl,rfl⟩|⟨rfl,rfl,rfl⟩|⟨rfl,rfl,rfl⟩|⟨rfl,rfl,rfl⟩|⟨rfl,rfl,rfl⟩|⟨rfl,rfl,rfl⟩|⟨rfl,rfl,rfl⟩
  all_goals
   go_enter func249,ntmps249
   go_wp21;have w:=aE.o;rw[<-w];clear w;apply(aC ac aD ad ae af U k l m n p q r s t N e O G _ J au aa V).M;rintro P i ⟨rfl,c⟩;have⟨j,u⟩:=Xq b.heap.size;have⟨d,x⟩:=Xq<|b.heap.size+1;rw[<-x]at L⊢;rw[<-u]at K⊢;have aG:=c.size;have R:j<i:=Y;have S:d<i:=Y;have y:=X<|(c.B j Y).T K.o;have z:=X<|(c.B d Y).T L.o;have ar:=(J.ku c)
   have T:=(aw.T<|c.M Y)
   have⟨⟨B,C,D⟩,_⟩:=lg y.o;have⟨⟨ah,ai,E,aj⟩,_⟩:=kN z.o;clear x u;rw[aS];go_wp21;refine QY (v:=.tuple #[.int .u8 _,Em,.int .i64 0]) ?_ rfl ⟨Z,T⟩;simp[results,Tryz.results249,go_sem]
def nX.set{a w}{q i:Nat}{u}(b:a q):nX a w<|w.setCell (sa q i) u:=⟨Z,Z,Z,by simp[World.setCell],λe f c=>Q8 _ _ _ _<|by intro d;exact c<|d▸b⟩
def lH.Gi(a)(b:Nat)(c:Int):(pZ a).setIfInBounds b (.int .i64 c)=pZ (a.set b c):=by simp[pZ]
def nM.set{a w}{b n:Nat}(c:nM a w b n)(i:Nat){u}(d:u.oneCell'=true):nM a (w.setCell (sa b i) u) b n:=by have⟨e,f,g,j⟩:=c;refine⟨e.setIfInBounds i u,kr f,by simpa using g,λk hx=>?_⟩;rw[TF]at hx;rcases TK hx with hx|hx;exact j k hx;rw[hx];exact d
