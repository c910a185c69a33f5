import Derived.Test.YtppncjcpdbhobaaGreatDoorZ2
import Derived.Test.YtppncjcpdbhobaaGreatDoorZ4
set_option maxRecDepth 1000000
set_option maxHeartbeats 32000000
set_option linter.all false
namespace Go.Proofs.YtppncjcpdbhobaaGreatDoor
open RowKit Go.Proofs.Tryz lI Maps oZ qQ ChangeShapes WideShapes ChangeAt
def Dw(s)(c:Nat)(u)(f z left:Nat)(d g)(ad:kS s g c u left)(ae:d.grownBy g<|some c)(af:c<d.heap.size)(ag:∀b,s b->b<d.heap.size)(Q:g.heap[d.heap.size]?=some (.cells sd 177))(dk:z+(f+1)=3)(R:∀i,kS s i c u left->Calls prog 126 (we c z) i (nA s c u left (f+1) i))(ah ai aj ak al am an ao ap aq ar au av aw ax ay az aA aB aC aD aE aF aG aH aI aJ aK aL aM aN aO aP aQ aR aS aT aU aV aW aX aY aZ ba bb bc bd be bf bg bh bi bj bk bl bm bn bo bp bq br bs bt bu bv bw bx bz bA bB bC bD bE bF bG bH bI bJ bK bL bM bN bO bP bQ bR bS bT bU bV bW bX bY bZ ca cb cc cd ce cf cg ch ci cj ck cl cm cn:Value):
  Code.wp prog (tV Tryz.f126 16) (bodyPost prog Tryz.f126<|nA s c u left (f+1+1) d) ⟨(Value.pointer c::Value.int .i64 (z:Int)::ah::ai::Value.pointer d::aj::ak::al::am::an::ao::ap::aq::ar::au::av::aw::ax::ay::az::aA::aB::aC::aD::aE::aF::aG::aH::aI::aJ::aK::aL::aM::aN::aO::aP::aQ::aR::aS::aT::aU::aV::aW::aX::aY::aZ::ba::bb::bc::bd::be::bf::bg::bh::bi::bj::bk::bl::bm::bn::bo::bp::bq::br::bs::bt::bu::bv::bw::bx::bz::bA::bB::bC::bD::bE::bF::bG::bH::bI::bJ::bK::bL::bM::bN::bO::bP::bQ::bR::bS::bT::bU::bV::bW::bX::bY::bZ::ca::cb::cc::cd::ce::cf::cg::ch::ci::cj::ck::cl::cm::cn::[]).toArray,[]⟩ g:=by
 have co:d.heap.size<g:=(QS.1 Q).1;have cp:∀n:Nat,0<n->n<=1000->∀i,kS s i c u left->Calls prog 78 #[.pointer c,n] i (nT s c u left n i):=λn cq cr i M=>nU s c u left n i M cq cr;have cs:=Q;have ct:=ae;conv=>arg 2;whnf
 obtain⟨cu,S⟩:∃cv:List Int,cv=[14,15,11,12,13,14]:=⟨_,Z⟩
 have cw:=λi M=>cp 6 Y Y i M;have cx:=ad.ku<|QX g tn none;go_wp21;apply(cw _ cx).M;rintro a N ⟨v,dl,rfl,cy,A⟩;have cz:=(A.B g Us λa=>by injection a with a;omega).T<|QT g tn;obtain⟨op,B,cA,cB⟩:∃op:Int,cu[v]?=some op/\11<=op/\op<=15:=by rw[S];have:v=0\/v=1\/v=2\/v=3\/v=4\/v=5:=Y;rcases this with rfl|rfl|rfl|rfl|rfl|rfl;exact⟨14,Z,Y,Y⟩;exact⟨15,Z,Y,Y⟩;exact⟨11,Z,Y,Y⟩;exact⟨12,Z,Y,Y⟩;exact⟨13,Z,Y,Y⟩;exact⟨14,Z,Y,Y⟩
 have dm:N.cell? ⟨g,v,none⟩=some (.int .i64 op):=by refine kB cz v _ ?_;rw[S]at B;have:v=0\/v=1\/v=2\/v=3\/v=4\/v=5:=Y;rcases this with rfl|rfl|rfl|rfl|rfl|rfl<;>(injection B with B;subst B;rfl)
 have dn:(0:Int)<=(v:Int):=Y
 have dp:(v:Int)<6:=Y
 have cC:=(A.B d (by rw[QU];omega) λa=>by injection a with a;omega).T<|(Q9 g _ co).T cs;have cD:=ky ct<|ky (QX g tn<|some c) A;have cE:d.heap.size<N:=by have:=A.size;rw[QU]at this;omega
 have cF:=(GO cA cB)
 go_wp21;apply(R _ cy).M;rintro a e ⟨j,k,l,m,p,q,C,rfl,cG,cH,cI,O⟩;have cJ:=(O.B d cE λa=>by injection a with a;omega).T cC;have cK:=ky cD O;have dq:=O.size;have cL:d.heap.size<e:=Y
 go_wp21;have D:=QX e (lE j l k m p q) none;have cM:=QT e<|lE j l k m p q;have cN:=(D.B d cL Us).T cJ;have cO:=cI.ku D;have E:e<(e.alloc<|lE j l k m p q).heap.size:=Us
 have cP:=ky cK<|kK D<|some c;have cQ:kP .i64 (f+1) (FM N e c) (e.alloc<|lE j l k m p q) [.int .i64 j,tx l,k,(m,p,q)] C:=(kP.ok .i64<|f+1).ku cG λb hb=>D.B b hb.2.1 Us;generalize e.alloc (lE j l k m p q)=w at*;have⟨⟨cR,cS,cT,cU⟩,_⟩:=kL cM;have cV:kS s w.drew c u left:=cO.kv (Below.refl w w).drew
 have U:d.heap.size<w:=Y
 have dr:IntKind.i64.wrap ((z:Int)+1)=(z:Int)+1:=Sx _ ⟨Y,Y⟩;go_region_with (go_at_call 126;refine Calls.M (R _ cV) ?_;rintro a r ⟨F,G,I,J,K,L,P,rfl,V,aa,ab,x⟩;have ds:=(Cb e 0<|x.B e E λa=>by injection a with a;omega).T cR;have dt:=(Cb e 1<|x.B e E λa=>by injection a with a;omega).T cS;have du:=(Cb e 2<|x.B e E λa=>by injection a with a;omega).T cT;have dv:=(Cb e 3<|x.B e E λa=>by injection a with a;omega).T cU;have t:=(x.B d U λa=>by injection a with a;omega).T cN;have cW:=kr t 0;have cX:=kr t 1;have cY:=kr t 2;have cZ:=kr t 3;have dw:=kx t 0;have dx:=kx t 1;have dy:=kx t 2;have dz:=kx t 3;have da:=V;have db:=aa;have dc:=ab;have y:=x;have dd:w.heap.size<=r:=x.size;have ac:=QR U dd;clear V aa ab x t);all_goals
  have de:kP .i64 (f+1) (λb=>d<b/\b<r) r [.int .i64 j,tx l,k,(m,p,q)] C:=(kP.ok .i64<|f+1).M ((kP.ok .i64<|f+1).ku cQ λb hb=>y.B b (show b<w from W hb.2.1) λa=>hb.2.2<|by injection a) λb hb=>⟨W hb.1,W hb.2.1⟩;have df:kP .i64 (f+1) (λb=>d<b/\b<r) r [.int .i64 F,tx I,G,(J,K,L)] P:=(kP.ok .i64<|f+1).M da λb hb=>⟨by have:w<=b:=hb.1;omega,hb.2.1⟩;have dg:=(kz.Nz (T:=177) (kP.ok .i64<|f+1) de df λb hb=>hb.2).M (kP.ok .i64<|f+1) (T:=λb=>d<b/\b<(r.alloc<|.cells #[.int .i64 j,tx l,k,(m,p,q),F,tx I,G,(J,K,L)] 177).heap.size) (λb hb=>by rw[QU];rcases hb with hb|hb;exact⟨hb.1,W hb.2⟩;omega);have dh:w.grownBy r<|some c:=⟨y.os,y.tape,y.output,y.size,y.B⟩
  have di:=ky (ky cP dh)<|QX r (.cells #[.int .i64 j,tx l,k,(m,p,q),F,tx I,G,(J,K,L)] 177)<|some c;have dj:=dc.ku<|QX r (.cells #[.int .i64 j,tx l,k,(m,p,q),F,tx I,G,(J,K,L)] 177) none;go_wp21;refine Q0 (v:=.agg #[.int .i64 op,tx [],.int .i64 0,(r,2,2)]) ?_ rfl<|qV (op:=op) (name:=[]) (n:=0) (args:=[C,P]) ac dj di af ag dg (.inr<|.inr<|.inr<|.inr<|.inr<|.inr ⟨cF,Z,Z,C,P,Z,cH,db⟩) _ _ _ _;simp[results,Tryz.results126,go_sem,cW,cX,cY,cZ,ac]
def pW.lU{S:Nat->Prop}{g:Nat}{i:Sc}{left:Nat}{T:TypeId}{k l m n p q:Value}{w j:World}(r:pW S g i left T #[k,l,m,n,p,q] w j)(a b c d e f:Value):pW S g i left T #[a,b,c,d,e,f] w (lU j w.heap.size a b c d e f):=
 (((((r.mE 0 a).mE 1 b).mE 2 c).mE 3 d).mE 4 e).mE 5 f
def nY{c:Type}{b:Rel c}{l:Nat}(ok:lh b l){w a v}{d:List c}(m:kz b (New w a) a v d)(e f g i j k):kz b (New w<|lU a w e f g i j k) (lU a w e f g i j k) v d:=
 sP ok (sP ok (sP ok (sP ok (sP ok (sP ok m _ _) _ _) _ _) _ _) _ _) _ _
def qI{r}{s:Nat}{m}{D left left':Nat}{T v x y z A B}{o:Obj}{kind:Int}{name hd:List UInt8}{c d e:Option Addr}{f g i j k l:Nat}{w a}{t:List Ex}{n p:List St}(u:pW r s m left' T #[v,x,y,z,A,B] w a)
  (C:kz (kP .i64 De) (New w<|a.alloc o) (a.alloc o) (.slice c f g) t) (E:kz (kR .i64 D) (New w<|a.alloc o) (a.alloc o) (.slice d i j) n) (F:kz (kR .i64 D) (New w<|a.alloc o) (a.alloc o) (.slice e k l) p) (G:mP m (D+1)<|.mk kind name hd t n p) (I:kT D n+kT D p+left'<=left):
  qA r s m D left w (.returned<|.agg<|qv kind name hd c f g d i j e k l) ((lU a w (.int .i64 kind) (tx name) (tx hd) (.slice c f g) (.slice d i j)<|.slice e k l).alloc o):=by
 have b:=u.lt;have q:=wR (left:=left) ((u.alloc o).lU (.int .i64 kind) (tx name) (tx hd) (.slice c f g) (.slice d i j)<|.slice e k l) (nY (kP.ok _ _) C _ _ _ _ _ _) (nY (kR.ok _ _) E _ _ _ _ _ _) (nY (kR.ok _ _) F _ _ _ _ _ _) G I;unfold lU at q⊢;rw[RI o _ _ _ b,RI o _ _ _ (by simp only[QW];exact b),RI o _ _ _ (by simp only[QW];exact b),RI o _ _ _ (by simp only[QW];exact b),RI o _ _ _ (by simp only[QW];exact b),RI o _ _ _<|by simp only[QW];exact b]at q;exact q
def yO{p}{q:Nat}{l}{D left left':Nat}{T s t u v x y}{kind:Int}{name hd:List UInt8}{b c d:Option Addr}{e f g i j k:Nat}{w a}{r:List Ex}{m n:List St}(z:pW p q l left' T #[s,t,u,v,x,y] w a)
  (A:kz (kP .i64 De) (New w a) a (.slice b e f) r) (B:kz (kR .i64 D) (New w a) a (.slice c g i) m) (C:kz (kR .i64 D) (New w a) a (.slice d j k) n) (E:mP l (D+1)<|.mk kind name hd r m n) (F:kT D m+kT D n+left'<=left):
  qA p q l D left w (.returned<|.agg<|qv kind name hd b e f c g i d j k) (lU a w (.int .i64 kind) (tx name) (tx hd) (.slice b e f) (.slice c g i)<|.slice d j k):=
 wR (left:=left) (z.lU (.int .i64 kind) (tx name) (tx hd) (.slice b e f) (.slice c g i)<|.slice d j k) (nY (kP.ok _ _) A _ _ _ _ _ _) (nY (kR.ok _ _) B _ _ _ _ _ _) (nY (kR.ok _ _) C _ _ _ _ _ _) E F
def Good.lU{i a:Nat}(w:World)(b c d e f g:Value):Good i a w<|lU w a b c d e f g:=
 ((((((Good.mE w 0 b).T<|Good.mE _ 1 c).T<|Good.mE _ 2 d).T<|Good.mE _ 3 e).T<|Good.mE _ 4 f).T<|Good.mE _ 5 g)
def mA.lQ{b}{c:Nat}{S}(m:c<b.heap.size)(i:∀a,S a->a<b.heap.size/\a≠c){f v w g}(d:Good c b.heap.size w g)(j:mA b S f v w):mA b S f v g:=by
 have⟨a,o,k,hb,l⟩:=j;have e:a<w/\a≠c/\a≠b:=by rcases hb with hb|hb;exact⟨hb.2,W hb.1,W hb.1⟩;have:=i a hb.1;exact⟨hb.2,this.2,Y⟩
 refine⟨a,o,k,?_,(Cb a o<|d.2 a e.1 e.2.1 e.2.2).T l⟩;rcases hb with hb|hb;exact .inl ⟨hb.1,QR hb.2 d.1⟩;exact .inr ⟨hb.1,QR hb.2 d.1⟩
def nj.lQ{e:Nat}{b w f}{c g:Nat}{o i:Int}{name j}{k l:Nat}{m}(n:e<b.heap.size)(d:Good e b.heap.size w f)(a:nj b c g o i name j k l m w):nj b c g o i name j k l m f:=
 ⟨⟨a.1.1,QR a.1.2 d.1⟩,(d.2 c a.1.2 (W a.1.1)<|W a.1.1).T a.2.1,Iz n d a.2.2⟩
def kS.lU{S:Nat->Prop}{w:World}{c:Nat}{e:Sc}{left:Nat}(g:kS S w c e left){d:Nat}(a:d≠c)(b:∀f,S f->f≠d)(i j k l m n:Value):kS S (lU w d i j k l m n) c e left:=
 (((((g.mE a b).mE a b).mE a b).mE a b).mE a b).mE a b
def yP(j:Nat->Prop)(a:Nat)(k:Sc)(f O left:Nat)(e:World)(aX:O+f=3)(aY:left<=12)
  (al:∀(l left:Nat) P,l<13->left<=12->kS j P a k left->Calls prog 79 #[.pointer a,l,O] P (qA j a k f left P)) (i:kS j e a k left):
  Calls prog 43 #[.pointer a,O] e (wP j a k (f+1) left e):=by
 have⟨am,an,ao,ap,aq⟩:=Rm L8;have I:=Ft an ao ap aq;have aZ:=i.lt;have ar:=X<|show∀b,j b->b<e from λb g=>(i.lJ b g).2;have au:=X al;have av:=i
 go_enter func43,ntmps43
 go_wp21
 go_loopg [5] left (λQ aw wr=>∃(d:List St),Q<=left/\kJ (kR .i64<|f+1) 171 6 (λb=>e<=b/\b≠a) wr e aw d/\(∀m∈d,mP k (f+1) m)/\kT (f+1) d+Q<=left/\kS j wr a k Q/\e.grownBy wr (some a))
 .exact⟨[],QZ _,kJ.nil _ _ _ _ _ _,Us,by rw[oT];omega,av,lC _ _⟩
 have⟨d,ba,n,ax,R,J,K⟩:=hrel;obtain⟨ay,az,rfl,aA,bb⟩:=n.form;have⟨af,S⟩:=Xq d.length;rw[<-S]at n aA⊢;have bc:=K.size;have bd:=E9 f d;have L:=X ax;have E:=X S;have be:af<=left:=Y;have⟨⟨bf,ag,bg,bh⟩,aB,aC⟩:=J.Ov;clear S;by_cases aD:ag=0
 .subst aD;go_wp21;go_ret;exact⟨_,d,gk,Z,by have:=n;rw[E.o]at this⊢;exact this,L.o,R,J,K⟩
 have bi:(0:Int)<(ag:Int):=Y;by_cases bj:gk=0
 .have aE:¬(0:Int)<(gk:Int):=Y;go_wp21;go_ret;exact⟨_,d,gk,Z,by have:=n;rw[E.o]at this⊢;exact this,L.o,R,J,K⟩
 have aE:(0:Int)<(gk:Int):=Y;go_wp21;apply(nU j a k gk 14 wr J Y Y).M;rintro c M ⟨l,bk,rfl,T,U⟩;have p:=n.ge;have V:=n.grown (kR.ok _ _) U (λah c=>by injection c with c;subst c;exact⟨λi=>i.2 Z,λF=>W<|p a F.symm⟩);have ai:=(ky K U)
 have bl:=U.size;have⟨_,aB,aC⟩:=T.Ov;by_cases aF:l=13
 .subst aF;go_wp21;go_ret;exact⟨_,d,gk,Z,by have:=V;rw[E.o]at this⊢;exact this,L.o,R,T,ai⟩
 have aa:((l:Int)==13)=false:=(by rw[QY];omega);obtain⟨q,rfl⟩:∃q,gk=q+1:=⟨gk-1,Y⟩
 have aG:=(T.Am q)
 have ab:M.grownBy (M.setCell ⟨a,7,none⟩<|.int .i64 (q:Int))<|some a:=kE M a 7 _;have p:=V.ge;have aj:=(V.grown (kR.ok _ _) ab λah c=>by injection c with c;subst c;exact⟨λi=>i.2 Z,λF=>W<|p a F.symm⟩)
 have aH:=(ky ai ab)
 have bm:=ab.size;go_wp21;apply(au.o l q _ Y Y aG).M;generalize M.setCell ⟨a,7,none⟩ (.int .i64 (q:Int))=bn at*;rintro c G ⟨r,s,t,u,v,w,x,y,z,A,B,c3,m,aI,rfl,aJ,aK,bo,aL,ac⟩;have p:=aj.ge;have aM:=aj.grown (kR.ok _ _) ac (λah c=>by injection c with c;subst c;exact⟨λi=>i.2 Z,λF=>W<|p a F.symm⟩);have bp:=ac.size;have N:=Ba G<|.cells (qv r s t u x y v z A w B c3) 171;have aN:kR .i64 (f+1) (λb=>(e<=b/\b≠a)/\b<(G.alloc<|.cells (qv r s t u x y v z A w B c3) 171).heap.size/\some b≠(Value.slice ay af az).ownBlock) (G.alloc<|.cells (qv r s t u x y v z A w B c3) 171) [.int .i64 r,tx s,tx t,(u,x,y),(v,z,A),(w,B,c3)] m:=
  (kR.ok _ _).M ((kR.ok _ _).ku aJ λb g=>N.B b g.2.1) (λb g=>⟨⟨W g.1,g.2.2⟩,by rw[QU];have:=g.2.1;omega,λc=>Up ((p b c.symm).2) g.1⟩)
 have ak:=(aM.kv (kR.ok _ _) N)
 have aO:=(aL.kv N)
 have C:=(ky (ky aH ac)<|kK (kC N)<|some a)
 have aP:=X<|mD G [.int .i64 r,tx s,tx t,(u,x,y),(v,z,A),(w,B,c3)] 171;go_wp2_with (at_builtin;refine kM Z _ _ 105 Z e.heap.size 171 am _ 6 112 underlying105 I.o.1 I.o.2.1 I.o.2.2.1 I.o.2.2.2 Z (kR.ok .i64<|f+1) (λb=>e<=b/\b≠a) _ d Z ak ⟨G,0,none⟩ [.int .i64 r,tx s,tx t,(u,x,y),(v,z,A),(w,B,c3)] m Z aP.o aN ?c3 ?c4 ?c5 ?_);case c3=>rw[<-E.o];unfold maxLen;omega
 case c4=>rw[<-E.o];omega
 case c5=>simp;omega
 intro bq aQ aR D br;have ad:=ak.ge;have aS:e.grownBy aQ<|some a:=⟨D.os.T C.os,D.tape.T C.tape,D.output.T C.output,Q8 C.size D.size,λae aa aT=>(D.B ae (QR aa C.size) λc=>W<|(ad ae c.symm).1).T<|C.B ae aa aT⟩
 have aU:=aO.su D (λc=>W<|(ad a c.symm).1) (λb g c=>by have bs:=(ad b c.symm).1;have bt:=ar.o b g;omega);have aV:=X<|uy f d m;go_wp21
 go_roundg aI
 .exact⟨d++[m],Y,aR,λaW hy=>by rcases SV.1 hy with hy|hy;exact L.o aW hy;simp at hy;rw[hy];exact aK,by rw[aV.o];omega,aU,aS⟩
 omega
def Ob.next{u}{d k E:Nat}{v e w}{f:Nat}{x}{F:Nat}{G}{I J:Nat}{K L}{M N:Nat}{l}{m n:Nat}{y z}{A g p:Nat}(a:Ob u d k E v e f x F G I J K L M N l m n y z A g p)(i:e.grownBy w<|some d){q:Option Addr}{r s B:Nat}{t:List Lk}
  (hF:w.heap[d]?=some (.cells #[tx mM,.slice l m n,(q,r,s),Nl] 36)) (O:kz nV (λb=>e<=b/\b<w) w (q,r,s) t) (P:nQ f B t) (Q:B<=f*f):N9 u d k v w f x l m n q r s y t z A g p:=by
 have aa:d<e:=(QS.1 a.hF).1;have ab:=a.zB;have C:=i.size;have j:∀b,b<e.heap.size->b≠d->w.heap[b]?=e.heap[b]?:=λb R S=>i.B b R (λT=>S<|by injection T);refine⟨(j k Y Y).T a.hz,hF,a.zB,⟨i.os.T a.rb.os,i.tape.T a.rb.tape,i.output.T a.rb.output,W a.rb.size,λb U=>(j b (W a.rb.size) Y).T<|a.rb.B b U⟩,a.JT.ku uh.ok λb c=>j b (W<|(a.hS b c).1)<|W<|(a.hS b c).1,a.hS,a.n1,a.n3,
  (a.Nr.ku mH.ok λb c=>j b c.2<|W c.1).M mH.ok (λb c=>⟨c.1,QR c.2 C⟩),a.Ns,a.f2,O.M nV.ok λb c=>⟨W c.1,c.2⟩,P.up Q,
  λD V=>(Cb g (p+D)<|j g a.b8.2 (by have:=a.b8.1;show g≠d;omega)).T<|a.h8 D V,a.b8.1,QR a.b8.2 C⟩
def B6.next{s}{d k l:Nat}{t f w}{u:Nat}{v}{x:Nat}{y}{z A:Nat}{B C}{D E:Nat}{F}{G:Nat}(b:B6 s d k l t f u v x y z A B C D E F G)(g:f.grownBy w<|some d){m:Option Addr}{i n:Nat}{p:List Fg}
  (hF:w.heap[d]?=some (.cells #[tx mM,(m,i,n),Nl,Nl] 36)) (I:kz mH (λa=>f<=a/\a<w) w (m,i,n) p) (J:rD i p) (K:i<=2):
  Ob s d k l t (w.alloc ti) u v x y z A B C D E m i n p F G w 0:=by
 have S:d<f:=(QS.1 b.hF).1;have L:=b.zB;have M:=b.Oc;have T:=g.size;have e:=QX w ti none;have j:∀a,a<f.heap.size->a≠d->(w.alloc ti).heap[a]?=f.heap[a]?:=λa N O=>(e.B a Y Us).T (g.B a N λP=>O<|by injection P);have q:=QT w ti;refine⟨(j k Y Y).T b.hz,(e.B d Y Us).T hF,(j l Y Y).T b.Nk,M,L,⟨e.os.T<|g.os.T b.rb.os,e.tape.T<|g.tape.T b.rb.tape,e.output.T<|g.output.T b.rb.output,Up b.rb.size e.size,λa Q=>(j a (W b.rb.size) Y).T<|b.rb.B a Q⟩,
  b.JT.ku uh.ok (λa c=>j a (W<|(b.hS a c).1)<|W<|(b.hS a c).1),b.Od.ku qO.ok λa c=>j a (W<|(b.hS a c).1)<|W<|(b.hS a c).1,b.hS,b.n1,b.n3,
  (I.ku mH.ok λa c=>e.B a c.2 Us).M mH.ok (λa c=>⟨W c.1,by rw[QU];have:=c.2;omega⟩),J,K,λr U=>?_,⟨Y,by rw[QU];omega⟩⟩
 have R:r=0\/r=1\/r=2:=Y
 rcases R with rfl|rfl|rfl
 .exact kr q 0
 .exact kr q 1
 .exact kr q 2
def wa.lU{e w0 w}{o:Nat}{i j k l m n}(p:w.heap[o]?=some e){f:Type}{c:Rel f}{q:Nat}(ok:lh c q){v}{g:List f}(d:kz c (wa e w<|Nw w0 w) w v g):kz c (λa=>Nw w0 w a/\a≠o) ((((((w.setCell o i).setCell ⟨o,1,none⟩ j).setCell ⟨o,2,none⟩ k).setCell ⟨o,3,none⟩ l).setCell ⟨o,4,none⟩ m).setCell ⟨o,5,none⟩ n) v g:=
 have b:∀a,(Nw w0 w a/\a≠o)->a≠o:=λ_ d=>d.2
 (((((wa.set p ok d).mE ok b).mE ok b).mE ok b).mE ok b).mE ok b
def run_append_nil{s:Type}{P}{w:World}(g)(t:TypeId)(d i m)(c n:Nat)(u:P.underlying g=some (.slice d))(v:P.info? d=some i)(I:i.zero=some m)
  (J:i.size=c) (K:i.bytes=n) (L:m.cells.size=c) {e:Rel s} (ok:lh e c) {x:Nat->Prop} {b:List s} {y:Value}
  (p:kz e x w y b) (M:∀a f j,w.grownBy a none->e x w f j->e (Nw w a) a f j) (an:b.length<=maxLen) (N:b.length*n<=140737488355328):
  ∃z A a,(Builtin.append_ #[g,g] t #[Nl,y]).run P w=.ok (.slice z b.length A) a/\kz e (Nw w a) a (.slice z b.length A) b/\w.grownBy a none:=by
 by_cases q:b=[]
 .subst q;obtain⟨B,C,r,rfl,_⟩:=p;refine⟨none,0,w,?_,kz.nil _ _ _,World.grownBy.refl w none⟩;cases B<;>simp[Builtin.append_,Tn u,sizeOf,typeInfo,v,Builtin.lenOf,Builtin.firstCells,loadCells,loadCellsFrom]
 .have⟨B,C,O,Q,ao,ap,R,S⟩:=id p;subst Q;have T:O.flatten≠[]:=by
   intro d;have:=lu.flat (k:=c) (λf aq h=>ok.len h) S;rw[d]at this;have ar:=ok.pos;have:b.length=0:=by have D:b.length*c=0:=(by simpa using this.symm);rcases TX.1 D with h|h;exact h;omega
   exact q<|RP this
  obtain⟨U,V,rfl,_,_⟩:=R T;have⟨r,au,_,aa,ab,ac,ad⟩:=p.cells ok;have av:0<b.length:=Td.2 q;have⟨aw,a,ae,E,af,_,_⟩:=TH (P:=P) (w:=w) w g t d i m c n u v I J K L ok.pos Nl 0 [] (SX _ _ _ _) ⟨U,V,none⟩ b.length C r.flatten aa ac ad Y (by rw[Re];exact N)<|QZ _;have F:w.grownBy a none:=af;rw[Re,Sa]at E;rcases E.2 with⟨rfl,D⟩|⟨ag,ah,ax,rfl,ai,G,aj,ak,ay,al⟩
  omega;refine⟨_,_,a,ae,⟨_,ah,r,Z,aj,ak,λ_=>⟨ag,0,Z,⟨ai,(QS.1 G).1⟩,λaz aA l=>?_⟩,ab.imp λf j am=>M a f j F am⟩,F⟩;rw[<-al,Si]at l;split at l;rw[Re];simp only[World.cell?,G];simpa using l;cases l
def lM.lQ{m}(l:m.ints<=3/\m.params<=2):∀{d:Nat} {g:Ex},lM m d g->mJ d g
 |0,_,a=>a.elim
 |d+1,g,a=>by
  rcases a with⟨c,f,e,_,b⟩|⟨c,f,e,b⟩|⟨c,r,e,b⟩|⟨c,_,f,e,n,b,i⟩|⟨c,_,f,e,b⟩|⟨c,f,e,n,b,i⟩|⟨c,f,e,n,v,b,i,s⟩
  exact lR (k:=1) c (by omega) Z (by rw[b];rfl) (λa=>by simp at a) (λ_=>f) (λ_=>e) (λa=>absurd Z a) (by rw[b];simp);exact lR (k:=4) c (by omega) Z (by rw[b];rfl) (λa=>by simp at a) (λ_=>f) (λa=>by omega) (λ_=>e) (by rw[b];simp);exact lR (k:=5) c (by omega) Z (by rw[b];rfl) (λ_=>by rcases r with⟨k,t,g⟩|⟨k,t,g⟩<;>rw[g];exact nB letters.1 (by omega);exact nB letters.2.1<|by omega) (λa=>by simp at a) (λa=>by omega) (λ_=>e) (by rw[b];simp);exact lR (k:=6) c (by omega) Z (by rw[b];rfl) (λ_=>by rw[f];exact nB letters.2.2.1<|by omega) (λa=>by simp at a) (λa=>by omega) (λ_=>e) (by rw[b];simpa using lM.lQ l i);exact lR (k:=8) c (by omega) Z (by rw[b];rfl) (λ_=>by rw[f];exact nB letters.2.2.1<|by omega) (λa=>by simp at a) (λa=>by omega) (λ_=>e) (by rw[b];simp);exact lR (k:=9) c (by omega) Z (by rw[b];rfl) (λa=>by simp at a) (λ_=>f) (λa=>by omega) (λ_=>e) (by rw[b];simpa using lM.lQ l i);have j:∀p∈g.args,mJ d p:=(by rw[b];intro p q;simp at q;rcases q with rfl|rfl;exact lM.lQ l i;exact lM.lQ l s);have u:g.op=11\/g.op=12\/g.op=13\/g.op=14\/g.op=15:=Y;rcases u with c|c|c|c|c;exact lR (k:=11) c Y Z (by rw[b];rfl) (λa=>by simp at a) (λ_=>f) (λa=>Y) (λ_=>e) j;exact lR (k:=12) c Y Z (by rw[b];rfl) (λa=>by simp at a) (λ_=>f) (λa=>Y) (λ_=>e) j;exact lR (k:=13) c Y Z (by rw[b];rfl) (λa=>by simp at a) (λ_=>f) (λa=>Y) (λ_=>e) j;exact lR (k:=14) c Y Z (by rw[b];rfl) (λa=>by simp at a) (λ_=>f) (λa=>Y) (λ_=>e) j;exact lR (k:=15) c Y Z (by rw[b];rfl) (λa=>by simp at a) (λ_=>f) (λa=>Y) (λ_=>e) j
def nz.lQ{p}(l:p.ints<=3/\p.params<=2)(q:p.kN<=2):∀{d:Nat} {g:Ex},nz p d g->mJ d g
 |0,_,a=>a.elim
 |d+1,g,a=>by
  rcases a with⟨b,f,e,c⟩|⟨b,t,e,c⟩|⟨b,_,f,e,r,c,j⟩|⟨b,f,e,r,c,j⟩|⟨b,f,e,r,u,c,j,s⟩|⟨b,f,e,r,u,c,j,s⟩
  rcases b with b|b;exact lR (k:=2) b (by omega) Z (by rw[c];rfl) (λa=>by simp at a) (λ_=>f) (λa=>by omega) (λ_=>e) (by rw[c];simp);exact lR (k:=3) b (by omega) Z (by rw[c];rfl) (λa=>by simp at a) (λ_=>f) (λa=>by omega) (λ_=>e) (by rw[c];simp);exact lR (k:=5) b (by omega) Z (by rw[c];rfl) (λ_=>by rcases t with g|⟨k,w,g⟩<;>rw[g];exact nB letters.2.2.2.1 (by omega);exact nB letters.2.2.2.2.1<|by omega) (λa=>by simp at a) (λa=>by omega) (λ_=>e) (by rw[c];simp);exact lR (k:=7) b (by omega) Z (by rw[c];rfl) (λ_=>by rw[f];exact nB letters.2.2.1<|by omega) (λa=>by simp at a) (λa=>by omega) (λ_=>e) (by rw[c];simpa using lM.lQ l j);exact lR (k:=10) b (by omega) Z (by rw[c];rfl) (λa=>by simp at a) (λ_=>f) (λa=>by omega) (λ_=>e) (by rw[c];simpa using nz.lQ l q j);have i:∀m∈g.args,mJ d m:=(by rw[c];intro m n;simp at n;rcases n with rfl|rfl;exact nz.lQ l q j;exact nz.lQ l q s);rcases b with b|b;exact lR (k:=22) b Y Z (by rw[c];rfl) (λa=>by simp at a) (λ_=>f) (λa=>Y) (λ_=>e) i;exact lR (k:=23) b Y Z (by rw[c];rfl) (λa=>by simp at a) (λ_=>f) (λa=>Y) (λ_=>e) i;have i:∀m∈g.args,mJ d m:=(by rw[c];intro m n;simp at n;rcases n with rfl|rfl;exact lM.lQ l j;exact lM.lQ l s);have v:g.op=16\/g.op=17\/g.op=18\/g.op=19\/g.op=20\/g.op=21:=Y;rcases v with b|b|b|b|b|b;exact lR (k:=16) b Y Z (by rw[c];rfl) (λa=>by simp at a) (λ_=>f) (λa=>Y) (λ_=>e) i;exact lR (k:=17) b Y Z (by rw[c];rfl) (λa=>by simp at a) (λ_=>f) (λa=>Y) (λ_=>e) i;exact lR (k:=18) b Y Z (by rw[c];rfl) (λa=>by simp at a) (λ_=>f) (λa=>Y) (λ_=>e) i;exact lR (k:=19) b Y Z (by rw[c];rfl) (λa=>by simp at a) (λ_=>f) (λa=>Y) (λ_=>e) i;exact lR (k:=20) b Y Z (by rw[c];rfl) (λa=>by simp at a) (λ_=>f) (λa=>Y) (λ_=>e) i;exact lR (k:=21) b Y Z (by rw[c];rfl) (λa=>by simp at a) (λ_=>f) (λa=>Y) (λ_=>e) i
def za(y:Nat)(S:∀f,y=f+1->LP f):LP y:=by
 intro T a aR k U V c aS aa ar aT ab;have ac:=c.len;have aU:k<=12:=Y
 have ad:=X ac.1;have B:=ab;have au:=c;have ae:=aa;have af:=S;clear aa ab ac S;by_cases aV:k=0
 .have av:((k:Int)==0)=true:=by rw[R5];omega
  go_enter func168,ntmps168
  go_wp21;go_ret;exact⟨0,Z,Q1 _,Below.refl _ _⟩
 have av:((k:Int)==0)=false:=by rw[QY];omega
 obtain⟨f,rfl⟩:∃f,y=f+1:=by
  obtain⟨e,z⟩:∃e,V[0]?=some e:=Gx<|W ad.o;have:=ae e<|QV z;cases y with
  |zero=>exact this.elim
  |succ y=>exact⟨y,Z⟩
 go_enter func168,ntmps168
 go_wp21;go_loopw [3,10] (λn I wr=>∃d t:Nat,d<=k/\I=d/\n=t/\t<=f/\Below a a wr) (λ_ I _=>k-(intOf I).toNat)
 .exact⟨0,0,Q1 _,Z,Z,Q1 _,Below.refl _ _⟩
 obtain⟨d,t,aW,rfl,rfl,p,J⟩:=hrel;have A:=J;have C:=J.size;have K:=p;by_cases aX:d<k
 .obtain⟨e,z⟩:∃e,V[d]?=some e:=Gx<|W ad.o;obtain⟨i,u,q,rfl,aw,ax,L⟩:=au.ll (kR.ok .u8 _) d e z;have ag:i<a:=B i aw;have J:i<wr:=Y;have ay:=ae e<|QV z;have az:=QV z;obtain⟨aA,aY,aZ,ba,bb,rfl,_,ah,ai⟩:=ax.open;obtain rfl:f=aA:=Y;have⟨_,_,⟨aB,aC⟩,aj,ak⟩:=ay;obtain⟨al,am,rfl,_⟩:=ah.form;obtain⟨an,ao,rfl,_⟩:=ai.form;have M:=(GO (L 4 _ rfl)<|L 5 _ rfl)
  have N:=Fh ar az;have ap:=(λ(D:World) (E:Below a a D)=>af f Z T D al _ am e.th (ah.ku (kR.ok .u8 _) λr x=>E.B r<|B r x) aB aj N.1 Y λr x=>QR (B r x) E.size)
  have aq:=(λ(D:World) (E:Below a a D)=>af f Z T D an _ ao e.el (ai.ku (kR.ok .u8 _) λr x=>E.B r<|B r x) aC ak N.2 Y λr x=>QR (B r x) E.size)
  obtain⟨bc,bd⟩:=nL d k;have⟨aD,O⟩:=Xq e.th.length;have⟨aE,P⟩:=Xq e.el.length;rw[<-O,<-P]at M;rw[<-O]at ap;rw[<-P]at aq;clear L z aj ak N O P;go_wp21;refine tE (λe=>Below wr wr e) (λn a=>∃l:Nat,n=l/\l<=f/\Below wr wr a) (mU [(·=t),(·=.slice (mw i u) k U),(·=d),(Pp i<|u+d*6),(Pp i<|u+d*6+4),(·=.slice al aD am),Tr,(·=.slice (mw i u) k U),(·=d),(Pp i<|u+d*6),(Pp i<|u+d*6+5),(·=.slice an aE ao),Tr,Tr,Tr]) [(6,λn a=>∃(v:Nat),n=v/\v<=f),(12,λn a=>∃(q:Nat),n=q/\q<=f),(13,λn a=>∃l:Nat,n=l/\l<=f)] ((Below.refl _ _).drew) ⟨?_,?_,?_,?_,?_,?_,?_,?_,?_,?_,?_,?_,?_,?_,?_,trivial⟩ ?_;intro w a b s c j m;have be:=Sl 3<|m 14 _ 3 Z Z Z;clear s c j m;exact .q (g:=⟨Z,b,Qa⟩);exact Pf 0;exact Pf 4;intro w a b s c j m;have bf:=Sv 14 c 1;have bg:=Sv 15 c 2;exact .q (g:=⟨Z,b,Qa⟩);exact Pv 16 3;intro w a b s c j m;have g:=(Cb i (u+d*6+4)<|(A.T<|b.M C).B i ag).T M.1;exact .l 17 (c 4 _ Z Z) g ⟨Z,b,Qa⟩;intro w a b s c j m;have bh:=Sv 18 c 5;refine .c (ap a<|A.T<|b.M C) ?_;rintro F aF ⟨v,rfl,p,Q⟩;exact⟨_,Z,⟨trivial,b.T<|Q.M b.size,Qc ⟨v,Z,p⟩<|Qd (λaG ⟨q,F,p⟩=>⟨q,F,p⟩)<|Qb<|Qe⟩⟩;exact Pf 0;exact Pf 4;intro w a b s c j m;have bi:=Sv 20 c 7;have bj:=Sv 21 c 8;exact .q (g:=⟨Z,b,Qa⟩);exact Pv 22 9;intro w a b s c j m;have g:=(Cb i (u+d*6+5)<|(A.T<|b.M C).B i ag).T M.2;exact .l 23 (c 10 _ Z Z) g ⟨Z,b,Qa⟩;intro w a b s c j m;have bk:=Sv 24 c 11;refine .c (aq a<|A.T<|b.M C) ?_;rintro F aF ⟨q,rfl,p,Q⟩;exact⟨_,Z,⟨trivial,b.T<|Q.M b.size,Qd (λaG ⟨v,F,p⟩=>⟨v,F,p⟩)<|Qc ⟨q,Z,p⟩<|Qb<|Qe⟩⟩;intro w a b s c j m;have bl:=Sv 13 c 0;obtain⟨v,aH,bm⟩:=lg j 0;have bn:=Sl 19 aH;obtain⟨q,aI,bo⟩:=lg j 1;have bp:=Sl 25 aI;exact .q (g:=⟨trivial,b,Q2<|Qc ⟨max (max t v) q,by show Value.int IntKind.i64 _=Value.int IntKind.i64 _;congr 1;(repeat' split)<;>omega,W K⟩<|Qa⟩);intro w a b s c j m;obtain⟨l,aJ,R⟩:=lg j 2;have bq:=Sl 26 aJ;refine .h λbr aK=>?_;go_simp;exact aK<|⟨l,Z,R,b⟩;intro aL bs aM aN;have⟨l,G,R,aO⟩:=aN;replace G:aL 14=.int .i64 (l:Int):=G;simp only[nE,G];have aP:=(A.T<|aO.M C)
  clear aM G;go_wp21;go_roundw
  .exact⟨d+1,l,Y,Uv,Z,R,aP⟩
  simp[intOf];omega
 obtain rfl:d=k:=Y;have aQ:IntKind.i64.wrap ((t:Int)+1)=((t+1:Nat):Int):=(by have:=K;simp[IntKind.wrap,IntKind.bits,IntKind.signed];omega);go_wp21;go_ret;exact⟨t+1,by first|rfl|simp[aQ],W K,A⟩
def BN:∀d,LP d
 |0=>za 0 λb a=>Y
 |d+1=>za (d+1) λb a=>(Nat.succ.inj a)▸BN d
def po(Q:FuncId)(ap:mQ Q)(aq:EZ Q)(M j y)(z A:Nat)(B)(C D:Nat)(E)(d F:Nat)(q)(ar:lY j)(ag:pX M j y z A B C D E d F q)(R:mo q):
  Calls prog 116 #[.agg<|mc q.name y z A B C D E d F,.func (.func Q) #[] #[]] j (kH (.bool true) j):=by
 unfold mQ at ap;have au:=aq;have S:=ag.kF
 have be:d<=3:=by rw[<-S.len.1];exact R.c3
 have bf:1<=d:=by rw[<-S.len.1];exact R.c1
 have av:=X S.len.1;have T:Below j j<|j.alloc<|.cells (mc q.name y z A B C D E d F) 52:=Ba _ _;have bg:(j.alloc<|.cells (mc q.name y z A B C D E d F) 52).heap.size=j+1:=Us
 have ah:=(ag.kv T)
 have aw:=R;have ax:=(ar.to T)
 go_enter func116,ntmps116
 go_wp21;generalize j.alloc (.cells (mc q.name y z A B C D E d F) 52)=s at*
 have U:=X ah.lJ;have ay:=ah.kF;have a:=(Below.refl s s)
 go_loopw [14] (λf wr=>∃n:Nat,n<=d/\f=n/\Below s s wr) (λf _=>d-(intOf f).toNat)
 .exact⟨0,Q1 _,Z,a⟩
 obtain⟨t,bh,rfl,a⟩:=hrel;have bi:=a.size;by_cases bj:t<d
 .obtain⟨u,g⟩:∃G,q.kF[t]?=some G:=Gx<|W av.o;obtain⟨bk,bl,ai,rfl,aj,I,e⟩:=(ay.ku (mn.ok .u8) λb c=>a.B b<|U.o b c).ll (mn.ok .u8) t u g;obtain⟨ak,az,rfl,k,v⟩:=I;obtain⟨aA,aB,rfl,aC⟩:=k.form;obtain⟨aD,aE,rfl,aF⟩:=v.form;have aG:=e 0 _ Z;have aH:=e 1 _ Z;have aI:=e 2 _ Z;rw[Q3]at aG;have aJ:=QV g;obtain⟨bm,bn⟩:=nL t d;clear e g;have V:=aw.kF u aJ;have⟨aK,al⟩:=Xq u.vars.length;have⟨p,J⟩:=Xq u.lH.length;rw[<-al]at aH k aC;rw[<-J]at aI v aF;have bo:p<=2:=(by rw[J];exact V.v2);have bp:1<=p:=(by rw[J];exact V.v1);have aL:=X J.symm;have⟨i,K⟩:=Xq<|wr.alloc<|.cells #[tx u.name,(aA,aK,aB),(aD,p,aE)] 98;have bq:i.heap.size=wr+1:=(by rw[K];simp);have am:=(show Below s s i by rw[K];exact a.alloc Y _)
  have aM:wr.grownBy i none:=(by rw[K];exact QX _ _ none)
  have aN:=(v.ku (nu.ok .u8) (w':=i) λb c=>aM.B b (W<|U.o b c) Us)
  have aa:=X<|show∀b,M b->b<i from λb c=>W<|U.o b c;clear al J;have aO:=(ax.to am)
  go_wp21;rw[<-K];clear K;have a:=(Below.refl i i)
  go_loopw [21] (λf wr=>∃n:Nat,n<=p/\f=n/\Below i i wr) (λf _=>p-(intOf f).toNat)
  .exact⟨0,Q1 _,Z,a⟩
  obtain⟨w,br,rfl,a⟩:=hrel;have a:=a;have bs:=a.size;by_cases bt:w<p
  .obtain⟨N,g⟩:∃G,u.lH[w]?=some G:=Gx<|W aL.o;obtain⟨bu,bv,ai,rfl,aj,I,e⟩:=(aN.ku (nu.ok .u8) λb c=>a.B b<|aa.o b c).ll (nu.ok .u8) w N g;obtain⟨ak,rfl,k⟩:=I;obtain⟨aP,aQ,rfl,aR⟩:=k.form;have an:=e 0 _ Z;rw[Q3,RA]at an;have aS:=QV g;obtain⟨bw,bx⟩:=nL w p;clear e g;have O:=V.lH N aS;have⟨r,ab⟩:=Xq N.length;rw[<-ab]at an k aR O;have bz:r<=3:=O.1;have aT:=X O;have aU:=X ab.symm;have⟨l,L⟩:=Xq<|wr.alloc<|oe aP r aQ;have bA:l.heap.size=wr+1:=(by rw[L];simp);have aV:wr.grownBy l none:=(by rw[L];exact QX _ _ none);have ao:=(show Below i i l by rw[L];exact a.alloc Y _)
   have aW:=(k.ku (mv.ok .u8) (w':=l) λb c=>aV.B b (W<|aa.o b c) Us)
   have P:=X<|show∀b,M b->b<l from λb c=>W<|aa.o b c;have aX:=(aO.to ao)
   clear O ab;go_wp21;rw[<-L];clear L;have a:=(Below.refl l l)
   go_loopw [28] (λf wr=>∃n:Nat,n<=r/\f=n/\Below l l wr) (λf _=>r-(intOf f).toNat)
   .exact⟨0,Q1 _,Z,a⟩
   obtain⟨x,bB,rfl,a⟩:=hrel;have a:=a;have bC:=a.size;by_cases bD:x<r
   .obtain⟨m,g⟩:∃G,N[x]?=some G:=Gx<|W aU.o;obtain⟨bE,bF,ai,rfl,aj,I,e⟩:=(aW.ku (mv.ok .u8) λb c=>a.B b<|P.o b c).ll (mv.ok .u8) x m g;obtain⟨ak,az,rfl,k,v⟩:=I;obtain⟨ac,ad,rfl,bG⟩:=k.form;obtain⟨ae,af,rfl,bH⟩:=v.form;have aY:=e 0 _ Z;have bI:=e 1 _ Z;have bJ:=e 2 _ Z;rw[Q3]at aY;have aZ:=QV g;obtain⟨bK,bL⟩:=nL x r;clear e g;have ba:=aT.o.2 m aZ;have bb:=(au M (wr.alloc<|.cells #[tx m.name,(ac,m.params.length,ad),(ae,m.body.length,af)] 111) ac _ ad ae _ af m (aX.to<|a.alloc Y _) (k.ku kO.ok λb c=>Q9 _ _<|W<|P.o b c) (v.ku (kR.ok .u8 _) λb c=>Q9 _ _<|W<|P.o b c) ba (λb c=>by rw[QU];have:=P.o b c;omega))
    have bc:=(a.alloc Y<|.cells #[tx m.name,(ac,m.params.length,ad),(ae,m.body.length,af)] 111)
    go_wp21;apply bb.M;rintro bM bN ⟨rfl,bd⟩;have a:=(bc.T<|bd.M<|by rw[QU];omega)
    go_wp21;go_roundw
    .exact⟨x+1,Y,Uv,a⟩
    simp[intOf];omega
   obtain rfl:r=x:=Y;have a:=(ao.T<|a.M Y)
   go_wp21;go_roundw
   .exact⟨w+1,Y,Uv,a⟩
   simp[intOf];omega
  obtain rfl:p=w:=Y;have a:=(am.T<|a.M Y)
  go_wp21;go_roundw
  .exact⟨t+1,Y,Uv,a⟩
  simp[intOf];omega
 obtain rfl:d=t:=Y;go_wp21;go_ret;exact⟨Z,T.T<|a.M Y⟩
def lI.xe(b:Nat)(f:b=1\/b=2)(d:Int):∀(e:List In) (a:Nat) (c:In),e[a]?=some c->((e.map wh).flatten).set (a*4+b) (.int .i64 d)=((e.set a<|c.put b d).map wh).flatten
 |[],a,c,h=>by simp at h
 |y::ys,0,c,h=>by simp only[List.getElem?_cons_zero,Option.some.injEq]at h;subst h;rcases f with rfl|rfl<;>simp[wh,In.put]
 |y::ys,a+1,c,h=>by have g:=xe b f d ys a c (by simpa using h);rw[List.map_cons,List.flatten_cons,List.set_append_right _ _ (by show 4<=_;omega),show(a+1)*4+b-(wh y).length=a*4+b by show(a+1)*4+b-4=_;omega,g];rfl
def lI.na.put{a b:List In}{e i c:Nat}(m:na a e b){d:In}(f:b[i]?=some d)(g:a.length<=i)(n:c=1\/c=2){t:Int}(j:0<=t)(p:t<=b.length):na a e<|b.set i<|d.put c t:=by obtain⟨q,rfl,r,k⟩:=m;refine⟨q.set (i-a.length)<|d.put c t,by rw[List.set_append_right _ _ g],by simpa using r,λs hy=>?_⟩;rw[List.length_set];rw[List.length_append]at p;rw[List.getElem?_append_right g]at f;have l:=k d<|List.mem_of_getElem? f;rcases List.mem_or_eq_of_mem_set hy with hy|hy;exact k s hy;subst hy;rcases n with rfl|rfl;exact l.O1 (Nat.le_refl _) j Y;exact l.O2 (Nat.le_refl _) j Y
def my.ins{r}{l:Nat}{t u v w y z A B C D f}{b:List In}{e}(c:my r l t u v w y z A B C D f b e){i:Nat}{x:In}(m:b[i]?=some x):
  ∃g n,f=.slice (sh g) b.length n/\r<=g/\g<e/\(∀(a:Nat) j,(wh x)[a]?=some j->e.cell? ⟨g,i*4+a,none⟩=some j/\e.frozen? ⟨g,i*4+a,none⟩=false)/\
   ∀a,a=1\/a=2->∀d:Int,my r l t u v w y z A B C D f (b.set i<|x.put a d) (e.setCell ⟨g,i*4+a,none⟩<|.int .i64 d)/\nH l f e f (e.setCell ⟨g,i*4+a,none⟩<|.int .i64 d):=by
 have⟨ab,⟨K,p⟩,L⟩:=c.own.own;have M:=Fi L;subst M;have ac:=(Rg.1 m).1;rcases p with⟨_,ad⟩|⟨g,n,E,s,F,q,N,O,P,G⟩
 .omega
 .refine⟨g,n,s,F,((QS.1 q).1),λa j Q=>?_,λa I d=>?_⟩;have k:=Kv b i x m a j Q;rw[<-G]at k;have R:E[i*4+a]?=some j:=by rw[Si]at k;split at k;simpa using k;cases k
  exact⟨kB q _ _ R,kx q _⟩;have S:=c.lt;have T:l≠g:=Y;refine⟨⟨⟨c.g.os,c.g.tape,c.g.output,by rw[QW];exact c.g.size,λJ U V=>(Rf _ _ _ _<|by show J≠g;omega).T<|c.g.B J U V⟩,(Rf _ _ _ _ T).T c.c,⟨(b.set i<|x.put a d).map wh,⟨?_,.inr ⟨g,n,E.setIfInBounds (i*4+a)<|.int .i64 d,?_,F,kt q,?_,O,by simpa using P,?_⟩⟩,Fj _⟩,S⟩,⟨by rw[QW];exact QZ _,λae af _ p=>⟨Rf _ _ _ _ (λaa=>p<|by rw[s,aa];rfl),p⟩⟩⟩;rw[<-xe a I d b i x m,S3,S3];exact K;rw[s,S3];rw[S3];exact N;rw[<-xe a I d b i x m,S3,TG,<-G,List.take_set]
def qK(A b T)(i U:Nat)(f)(j:List UInt8)(V:kz (nu .u8) A b (.slice T i U) f)(aP:i<=1000)(aa:∀aw∈f,aw.length<=1000)(ab:∀ac,A ac->ac<b):
  Calls prog 136 #[.slice T i U,tx j] b (ze (NC A b) PU (f.flatten.find? λa=>a.name==j) b):=by
 have ad:=V.len;have aQ:=nG j;have J:Below b b<|b.alloc ts:=Ba _ _;have ae:=QT b ts;have ax:(b.alloc ts).heap.size=b+1:=Us
 have af:=X ad.1;have ay:=V;have ag:=ab;have K:=X ae;have az:=aa;clear ab ad ae aa
 go_enter func136,ntmps136
 go_wp21;have⟨q,ah⟩:=Xq b.heap.size;rw[<-ah]at K ax⊢;have r:b<=q:=Y
 generalize b.alloc ts=t at*;have ai:q<t:=Y
 clear ah;go_loopw [12] (λl wr=>∃c:Nat,c<=i/\l=c/\(f.take c).flatten.find? (λa=>a.name==j)=none/\Below t t wr) (λl _=>i-(intOf l).toNat)
 .exact⟨0,Q1 _,Z,Us,Below.refl _ _⟩
 obtain⟨c,aR,rfl,aj,d⟩:=hrel;have L:=X aj;have aS:=d.size;clear aj;by_cases aT:c<i
 .obtain⟨m,k⟩:∃a,f[c]?=some a:=Gx<|W af.o;obtain⟨M,aA,aB,rfl,aC,⟨aD,rfl,s⟩,u⟩:=ay.ll (nu.ok .u8) c m k;obtain⟨ak,al,rfl,aE⟩:=s.form;have aF:M<b:=ag M aC;have N:At b M (aA+c*1) [(ak,m.length,al)]:=u;have B:=N.kv (J.T<|d.M Y) aF 0 _ Z;rw[Q3,RA]at B;obtain⟨aU,aV⟩:=nL c i;have⟨n,C⟩:=Xq m.length;have aW:n<=1000:=(by rw[C];exact az m<|QV k);rw[<-C]at s B aE;have am:=X C.symm;have an:=X k;have aG:=(d.alloc Y<|oe ak n al)
  clear u k C;go_wp21;go_loopw [19] (λl wr=>∃e:Nat,e<=n/\l=e/\(m.take e).find? (λa=>a.name==j)=none/\Below t t wr) (λl _=>n-(intOf l).toNat)
  .exact⟨0,Q1 _,Z,Us,aG⟩
  obtain⟨e,aX,rfl,ao,d⟩:=hrel;have ap:=X ao;have d:=d;have aY:=d.size;have⟨⟨w,x,y⟩,O,P,Q⟩:=lf<|(d.B q ai).T K.o;have aq:q<wr:=Y;have D:=(J.T<|d.M Y)
  clear ao;by_cases aZ:e<n
  .obtain⟨a,k⟩:∃a,m[e]?=some a:=Gx<|W am.o;obtain⟨R,aH,aB,rfl,aI,⟨aD,ba,rfl,s,ar⟩,u⟩:=s.ll (mv.ok .u8) e a k;obtain⟨E,F,rfl,_⟩:=s.form;obtain⟨G,I,rfl,_⟩:=ar.form;have aJ:R<b:=ag R aI;have N:At b R (aH+e*3) [tx a.name,.slice E a.params.length F,.slice G a.body.length I]:=u;have S:=N.kv D aJ;have B:=S 0 _ Z;have bb:=S 1 _ Z;have bc:=S 2 _ Z;rw[Q3]at B;obtain⟨bd,be⟩:=nL e n;have bf:=nG a.name;have au:=(vq ap.o k)
   have aK:NC A b a<|.agg<|hR a.name E a.params.length F G a.body.length I:=⟨_,_,_,_,_,_,Z,s,ar⟩
   have aL:=(d.alloc Y<|.cells (hR a.name E a.params.length F G a.body.length I) 111)
   clear u k;cases hq:(a.name==j)
   .have g:=au.2 hq;clear w x y O P Q;go_wp21;go_roundw
    .exact⟨e+1,Y,Uv,g,aL⟩
    simp[intOf];omega
   have g:f.flatten.find? (λa=>a.name==j)=some a:=by
    have aM:f=f.take c++(m::f.drop (c+1)):=by
     have z:=(Rg.1 an.o)
     have⟨z,aN⟩:=z;rw[<-aN,List.getElem_cons_drop,SE]
    rw[aM,Te,R8,S7,L.o,S7,au.1 hq];rfl
   go_wp21;refine Q0 (v:=.tuple #[.agg<|hR a.name E a.params.length F G a.body.length I,true]) ?_ rfl ⟨λaO p=>⟨_,Z,by rw[g]at p;injection p with p;rw[<-p];exact aK⟩,λav=>(by rw[g]at av;cases av),(kD (kD (kD D r) r) r).alloc UG _⟩;simp[results,Tryz.results136,go_sem,w,x,y,aq,Tx]
  obtain rfl:n=e:=Y;have g:(f.take<|c+1).flatten.find? (λa=>a.name==j)=none:=by have z:=ap.o;rw[Rh<|W am.o]at z;rw[RB,an.o,Te,S7,L.o];simpa using z
  clear w x y O P Q;go_wp21;go_roundw
  .exact⟨c+1,Y,Uv,g,d⟩
  simp[intOf];omega
 obtain rfl:i=c:=Y;have g:=L.o;rw[Rh<|W af.o]at g;have⟨⟨w,x,y⟩,O,P,Q⟩:=lf<|(d.B q ai).T K.o;have D:=(J.T<|d.M Y)
 have aq:q<wr:=Y;go_wp21;refine Q0 (v:=.tuple vj) ?_ rfl ⟨λaO p=>by rw[g]at p;(cases p),λ_=>Z,kD (kD (kD D r) r) r⟩;simp[results,Tryz.results136,go_sem,w,x,y]
def nZ.drew{xQ a w}(b:nZ xQ a w):nZ xQ a w.drew:=⟨b.os,b.tape,b.output,b.size,b.B⟩
def lI.na.snoc{b a c:List In}{d m:Nat}(e:na b d a){x:In}(f:c=a++[x])(g:pI (a.length+1) x)(i:d+1<=m):na b m c:=e.T (na.one f g) i
