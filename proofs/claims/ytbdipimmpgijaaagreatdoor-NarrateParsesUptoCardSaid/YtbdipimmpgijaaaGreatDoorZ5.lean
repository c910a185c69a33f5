import Derived.Test.YtbdipimmpgijaaaGreatDoorZ2
set_option maxRecDepth 1000000
set_option maxHeartbeats 32000000
set_option linter.all false
namespace Go.Proofs.YtbdipimmpgijaaaGreatDoor
open RowKit Go.Proofs.Tryz lH Maps oa qR ChangeShapes WideShapes ChangeAt
def kJ.od{P w}{g:Nat}{v a}(f:kJ kM 9 1 P w g v a)(i:0<a.length):
  ∃b o c,v=.slice (mw b o) a.length c/\g<=b/\b<w/\a.length<=c/\c<=9223372036854775807/\∀d e,a[d]?=some e->w.cell? ⟨b,o+d,none⟩=some (tx e):=by
 have⟨y,j,z⟩:=f.own;have⟨k,l,m,n,p⟩:=World.ownsRow.form j i;subst m;have q:=f.sl kM.ok;have⟨A,c,r,s,t⟩:=f.form;injection r with _ _ u;subst u;exact⟨k,0,l,Z,n,p,s,t,λd e x=>(q.HQ d e x).2⟩
def Dt(s)(c:Nat)(u)(f z left:Nat)(d g)(ad:kT s g c u left)(ae:d.grownBy g<|some c)(af:c<d.heap.size)(ag:∀b,s b->b<d.heap.size)(Q:g.heap[d.heap.size]?=some (.cells sC 200))(dk:z+(f+1)=3)(R:∀i,kT s i c u left->Calls prog 157 (As c z) i (nz s c u left (f+1) i))(ah ai aj ak al am an ao ap aq ar au av aw ax ay az aA aB aC aD aE aF aG aH aI aJ aK aL aM aN aO aP aQ aR aS aT aU aV aW aX aY aZ ba bb bc bd be bf bg bh bi bj bk bl bm bn bo bp bq br bs bt bu bv bw bx bz bA bB bC bD bE bF bG bH bI bJ bK bL bM bN bO bP bQ bR bS bT bU bV bW bX bY bZ ca cb cc cd ce cf cg ch ci cj ck cl cm cn:R0):
  Code.wp prog (tX Tryz.f157 16) (bodyPost prog Tryz.f157<|nz s c u left (f+1+1) d) ⟨(Value.pointer c::Value.int .i64 (z:Int)::ah::ai::Value.pointer d::aj::ak::al::am::an::ao::ap::aq::ar::au::av::aw::ax::ay::az::aA::aB::aC::aD::aE::aF::aG::aH::aI::aJ::aK::aL::aM::aN::aO::aP::aQ::aR::aS::aT::aU::aV::aW::aX::aY::aZ::ba::bb::bc::bd::be::bf::bg::bh::bi::bj::bk::bl::bm::bn::bo::bp::bq::br::bs::bt::bu::bv::bw::bx::bz::bA::bB::bC::bD::bE::bF::bG::bH::bI::bJ::bK::bL::bM::bN::bO::bP::bQ::bR::bS::bT::bU::bV::bW::bX::bY::bZ::ca::cb::cc::cd::ce::cf::cg::ch::ci::cj::ck::cl::cm::cn::[]).toArray,[]⟩ g:=by
 have co:d.heap.size<g:=(QP.1 Q).1;have cp:∀n:Nat,0<n->n<=1000->∀i,kT s i c u left->Calls prog 104 #[.pointer c,n] i (nR s c u left n i):=λn cq cr i M=>nS s c u left n i M cq cr;have cs:=Q;have ct:=ae;conv=>arg 2;whnf
 obtain⟨cu,S⟩:∃cv:List Int,cv=[14,15,11,12,13,14]:=⟨_,Z⟩
 have cw:=λi M=>cp 6 Y Y i M;have cx:=ad.kv<|QV g vm none;go_wp21;apply(cw _ cx).M;rintro a N ⟨v,dl,rfl,cy,A⟩;have cz:=(A.B g Uo λa=>by injection a with a;omega).T<|QQ g vm;obtain⟨op,B,cA,cB⟩:∃op:Int,cu[v]?=some op/\11<=op/\op<=15:=by rw[S];have:v=0\/v=1\/v=2\/v=3\/v=4\/v=5:=Y;rcases this with rfl|rfl|rfl|rfl|rfl|rfl;exact⟨14,Z,Y,Y⟩;exact⟨15,Z,Y,Y⟩;exact⟨11,Z,Y,Y⟩;exact⟨12,Z,Y,Y⟩;exact⟨13,Z,Y,Y⟩;exact⟨14,Z,Y,Y⟩
 have dm:N.cell? (sa g v)=some (.int .i64 op):=by refine kA cz v _ ?_;rw[S]at B;have:v=0\/v=1\/v=2\/v=3\/v=4\/v=5:=Y;rcases this with rfl|rfl|rfl|rfl|rfl|rfl<;>(injection B with B;subst B;rfl)
 have dn:(0:Int)<=(v:Int):=Y
 have dp:(v:Int)<6:=Y
 have cC:=(A.B d (by rw[QR];omega) λa=>by injection a with a;omega).T<|(Q5 g _ co).T cs;have cD:=ky ct<|ky (QV g vm<|some c) A;have cE:d.heap.size<N:=by have:=A.size;rw[QR]at this;omega
 have cF:=(RC cA cB)
 go_wp21;apply(R _ cy).M;rintro a e ⟨j,k,l,m,p,q,C,rfl,cG,cH,cI,O⟩;have cJ:=(O.B d cE λa=>by injection a with a;omega).T cC;have cK:=ky cD O;have dq:=O.size;have cL:d.heap.size<e:=Y
 go_wp21;have D:=QV e (lk j l k m p q) none;have cM:=QQ e<|lk j l k m p q;have cN:=(D.B d cL Uo).T cJ;have cO:=cI.kv D;have E:e<(e.alloc<|lk j l k m p q).heap.size:=Uo
 have cP:=ky cK<|kK D<|some c;have cQ:kP .i64 (f+1) (FH N e c) (e.alloc<|lk j l k m p q) [.int .i64 j,tx l,k,(m,p,q)] C:=(kP.ok .i64<|f+1).kv cG λb hb=>D.B b hb.2.1 Uo;generalize e.alloc (lk j l k m p q)=w at*;have⟨⟨cR,cS,cT,cU⟩,_⟩:=kN cM;have cV:kT s w.drew c u left:=cO.ku (Sf w w).drew
 have U:d.heap.size<w:=Y
 have dr:IntKind.i64.wrap ((z:Int)+1)=(z:Int)+1:=Su _ ⟨Y,Y⟩;go_region_with (go_at_call 157;refine Calls.M (R _ cV) ?_;rintro a r ⟨F,G,I,J,K,L,P,rfl,V,aa,ab,x⟩;have ds:=(Cb e 0<|x.B e E λa=>by injection a with a;omega).T cR;have dt:=(Cb e 1<|x.B e E λa=>by injection a with a;omega).T cS;have du:=(Cb e 2<|x.B e E λa=>by injection a with a;omega).T cT;have dv:=(Cb e 3<|x.B e E λa=>by injection a with a;omega).T cU;have t:=(x.B d U λa=>by injection a with a;omega).T cN;have cW:=kt t 0;have cX:=kt t 1;have cY:=kt t 2;have cZ:=kt t 3;have dw:=kx t 0;have dx:=kx t 1;have dy:=kx t 2;have dz:=kx t 3;have da:=V;have db:=aa;have dc:=ab;have y:=x;have dd:w.heap.size<=r:=x.size;have ac:=QO U dd;clear V aa ab x t);all_goals
  have de:kP .i64 (f+1) (λb=>d<b/\b<r) r [.int .i64 j,tx l,k,(m,p,q)] C:=(kP.ok .i64<|f+1).M ((kP.ok .i64<|f+1).kv cQ λb hb=>y.B b (show b<w from W hb.2.1) λa=>hb.2.2<|by injection a) λb hb=>⟨W hb.1,W hb.2.1⟩;have df:kP .i64 (f+1) (λb=>d<b/\b<r) r [.int .i64 F,tx I,G,(J,K,L)] P:=(kP.ok .i64<|f+1).M da λb hb=>⟨by have:w<=b:=hb.1;omega,hb.2.1⟩;have dg:=(kz.Nj (T:=200) (kP.ok .i64<|f+1) de df λb hb=>hb.2).M (kP.ok .i64<|f+1) (T:=λb=>d<b/\b<(r.alloc<|.cells #[.int .i64 j,tx l,k,(m,p,q),F,tx I,G,(J,K,L)] 200).heap.size) (λb hb=>by rw[QR];rcases hb with hb|hb;exact⟨hb.1,W hb.2⟩;omega);have dh:w.grownBy r<|some c:=⟨y.os,y.tape,y.output,y.size,y.B⟩
  have di:=ky (ky cP dh)<|QV r (.cells #[.int .i64 j,tx l,k,(m,p,q),F,tx I,G,(J,K,L)] 200)<|some c;have dj:=dc.kv<|QV r (.cells #[.int .i64 j,tx l,k,(m,p,q),F,tx I,G,(J,K,L)] 200) none;go_wp21;refine QY (v:=.agg #[.int .i64 op,tx [],.int .i64 0,(r,2,2)]) ?_ rfl<|qW (op:=op) (name:=[]) (n:=0) (args:=[C,P]) ac dj di af ag dg (.inr<|.inr<|.inr<|.inr<|.inr<|.inr ⟨cF,Z,Z,C,P,Z,cH,db⟩) _ _ _ _;simp[results,Tryz.results157,go_sem,cW,cX,cY,cZ,ac]
def kS{E:Type}{P}{w:RW}(p:Nat)(q)(A:TypeId)(c i B)(j C:Nat)(F:P.underlying q=some (.slice c))(G:P.info? c=some i)(R:i.zero=some B)
  (S:i.size=j) (T:i.bytes=C) (U:B.cells.size=j) {m:Rel E} (ok:lh m j) (r:Nat->Prop) (v:R0) (a:List E) (aq:kJ m c j r w p v a)
  (t:Addr) (d:List R0) (I:E) (J:∀V u,d[V]?=some u->w.cell? (t.add V)=some u) (s:m (λb=>r b/\b<w/\some b≠v.ownBlock) w d I)
  (aa:a.length+1<=maxLen) (ab:(a.length+1)*C<=140737488355328) (ar:p<=w):
  ∃k l w',(Builtin.append_ #[q,q] A #[v,.slice (some t) 1 1]).run P w=.ok (.slice k (a.length+1) l) w'/\kJ m c j r w' p (.slice k (a.length+1) l) (a++[I])/\kJ m c j r w' p v a/\w.grownBy w' v.ownBlock/\
   ((Value.slice k (a.length+1) l).ownBlock=v.ownBlock\/(Value.slice k (a.length+1) l).ownBlock=some w.heap.size):=by
 have⟨x,n,ac⟩:=aq.own;have⟨ad,w',K,ae,y,_,af⟩:=TG (P:=P) w p q A c i B j C F G R S T U ok.pos v a.length x.flatten n t 1 1 d (by rw[ok.len s];omega) J (ok.one s) aa ab ar;have au:kJ m c j r w' p ad<|a++[I]:=by
  refine⟨x++[d],?_,?_⟩;rw[Q3];simpa using ae;refine(ly.snoc s ac).imp λd av L=>ok.M (ok.kv L λb e=>y.B b e.2.1 λc=>e.2.2 c) λb e=>⟨e.1,QO e.2.1 y.size,λc=>?_⟩
  rcases af with M|M;exact e.2.2<|c.T M;rw[M]at c;injection c with c;exact absurd e.2.1 Y
 have aw:∃k l,ad=.slice k (a.length+1) l:=by
  rcases ae.2 with⟨_,ag⟩|⟨g,z,f,rfl,_⟩
  omega;exact⟨_,_,Z⟩
 obtain⟨k,l,rfl⟩:=aw;refine⟨k,l,w',K,au,?_,y,af⟩;have ax:ly (m (λb=>r b/\b<w'/\some b≠v.ownBlock) w') x a:=ac.imp λd av L=>ok.M (ok.kv L λb e=>y.B b e.2.1 λc=>e.2.2 c) λb e=>⟨e.1,QO e.2.1 y.size,e.2.2⟩
 refine⟨x,?_,ax⟩;rcases n.2 with⟨rfl,ag⟩|⟨g,z,f,rfl,ah,D,ai,aj,ak,al⟩
 .exact⟨n.1,.inl ⟨Z,ag⟩⟩
 .subst S;by_cases am:a.length+1<=z;have an:d.length=1*i.size:=(by rw[ok.len s];omega);have N:a.length*i.size+d.length<=f.size:=(by rw[an,ak,<-SZ];exact Sh _ am);have ao:=run_append_room (P:=P) (w:=w) q A c i F G g a.length z f D t 1 1 d an J (ok.one s) am N;rw[K]at ao;injection ao with O Q;injection O with O _ ay;subst O Q ay;refine⟨n.1,.inr ⟨g,_,_,Z,ah,(Uh w g f (f.toList.take (a.length*i.size)++d++f.toList.drop (a.length*i.size+d.length)).toArray c (0,0) D),ai,aj,?_,?_⟩⟩;have az:min (a.length*i.size) f.size=a.length*i.size:=Td<|QT (TQ _ _) N;simp only[R6,Q3,Rm,Ts,RV,az];omega;have aA:(f.toList.take<|a.length*i.size).length=a.length*i.size:=(by rw[Rm,RV];exact Td<|QT (TQ _ _) N);simp only[Ru];have:=List.take_left (l₁:=f.toList.take<|a.length*i.size) (l₂:=d++f.toList.drop (a.length*i.size+d.length));rw[aA]at this;rw[this];exact al;have⟨aC,aD,ap,_,aB⟩:=Tv (P:=P) (w:=w) q A c i B i.size C F G R Z T U ok.pos ⟨g,0,none⟩ a.length z x.flatten n.1 (n.cells (g:=g) Z) t 1 1 d (by rw[ok.len s];omega) J Y aa ab;rw[K]at ap;injection ap with _ Q;subst Q;refine⟨n.1,.inr ⟨g,z,f,Z,ah,?_,ai,aj,ak,al⟩⟩;rw[aB.B g (QP.1 D).1 Uo];exact D
def wR{S}{n:Nat}{p}{D left left':Nat}{T}{kind:Int}{name hd b c d}{e f g i j k:Nat}{w a}{q:List Ex}{l m:List St}(r:pV S n p left' T (qS kind name hd b e f c g i d j k) w a)
  (v:kz (kP .i64 De) (New w a) a (.slice b e f) q) (x:kz (kR .i64 D) (New w a) a (.slice c g i) l) (y:kz (kR .i64 D) (New w a) a (.slice d j k) m) (z:mR p (D+1)<|.mk kind name hd q l m) (A:kU D l+kU D m+left'<=left):
  qA S n p D left w (.returned<|.agg<|qS kind name hd b e f c g i d j k) a:=by
 have s:∀t,New w a t->FH w a n t:=λt u=>⟨W u.1,u.2,Ul u.1 r.yj⟩
 exact⟨kind,name,hd,b,c,d,e,f,g,i,j,k,.mk kind name hd q l m,left',Z,⟨_,_,_,Z,v.M (kP.ok _ _) s,x.M (kR.ok _ _) s,y.M (kR.ok _ _) s⟩,z,A,r.hm,r.hg⟩
def nd.new{w0 w}{f:Nat}{o b:Int}{name c}{d e:Nat}{g}(i:w0.heap.size<w.heap.size)(j:kP .i64 f (New w0 w) w [.int .i64 o,tx name,b,.slice c d e] g):
  nd w0 w f o b name c d e g (w.alloc<|lk o name b c d e):=
 ⟨⟨i,by rw[QR];omega⟩,QQ w _,(kP.ok _ _).M ((kP.ok _ _).kv j λk a=>Q5 w _ a.2) λk a=>⟨a.1,by rw[QR];have:=a.2;omega⟩⟩
def A6.ng{w0 c v w w'}(d:NG w0 w w')(e:A6 w0 c v w):A6 w0 c v w':=by have⟨a,o,f,b,g⟩:=e;exact⟨a,o,f,⟨b.1,QO b.2 d.1⟩,(Cb a o<|d.2 a b).T g⟩
def FT(C b d D E)(l F m G:Nat)(R:∀e,C e->e<d.heap.size)(S:kz qu C d (.slice D l F) b.hs)(T:kz qu C d (.slice E m G) b.ss):
  Calls prog 29 #[.agg #[.int .u8 (b.ints:Int),.int .u8 (b.lf:Int),.slice D l F,.slice E m G]] d (LS (sg b 3) d):=by
 have⟨J,U,V,aa,ab⟩:=Rj JZ;have f:=OK U V aa ab;clear U V aa ab;have ac:=X R;have ad:l=b.hs.length:=by have⟨_,_,_,g,_⟩:=S;injection g
 have ae:m=b.ss.length:=by have⟨_,_,_,g,_⟩:=T;injection g
 have j:=On ad ae;have am:=S;have an:=T;have⟨ao,af⟩:=Xq<|d.alloc<|tp b.ints b.lf D l F E m G;have r:=X af;clear R ad ae af
 go_enter func29,ntmps29
 go_wp21;go_loopw [3,4] (λap K wr=>∃a:Nat,a<=3/\K=a/\kJ mJ 3 1 (λ_=>False) wr (d+1) ap (sg b a)/\Below (d+1) ao wr) (λ_ K _=>3-(intOf K).toNat)
 .exact⟨0,Y,Z,kJ.nil _ _ _ _ _ _,by rw[r.o];exact Sf _ _⟩
 obtain⟨a,aB,rfl,L,p⟩:=hrel;obtain⟨ag,ah,rfl,aq,aC⟩:=L.form;have ar:=E5 b a;have⟨ai,M⟩:=Xq<|(sg b a).length;rw[<-M]at L aq ar⊢;have au:=p.size;rw[r.o,QR]at au;have aj:wr.heap[d.heap.size]?=some (tp b.ints b.lf D l F E m G):=(p.B _ Y).T (by rw[r.o];exact QQ d _);have⟨⟨aD,aE,aF,aG⟩,_⟩:=kN aj;have N:∀e,C e->wr.heap[e]?=d.heap[e]?:=λe ak=>(p.B e<|W<|ac.o e ak).T (by rw[r.o];exact Q5 d _<|ac.o e ak);have av:=(am.kv qu.ok N)
 have aw:=(an.kv qu.ok N)
 have k:=L;have s:=p;have q:=X M;clear M aj N;have al:∀(c:Nat) (I:R0) (t:RW),AZ b a=[c]->kJ mJ 3 1 (λ_=>False) t (d+1) I (sg b a++[c])->wr.grownBy t (Value.slice ag ai ah).ownBlock\/True->kJ mJ 3 1 (λ_=>False) t (d+1) I (sg b<|a+1):=λc I t i ax _=>by show kJ mJ 3 1 _ t _ I (sg b a++AZ b a);rw[i];exact ax
 have O:=X al;clear al;by_cases aH:a<3
 .by_cases aI:a<l
  .obtain⟨e,o,rfl,p,P⟩:=qu.yS av<|show a<b.hs.length from W j.o.1;obtain⟨c,i⟩:∃c:Nat,c=(b.hs.getD a default).params:=⟨_,Z⟩
   rw[<-i]at P;have u:=X (show AZ b a=[c % 3]by unfold AZ;rw[RB<|W j.o.1,i]);obtain⟨ay,az⟩:=nL a l;have aA:(0:Int)<=(c:Int):=Y;clear i;have v:=X<|mG wr [.int .i64 ((c % 3:Nat):Int)] 3;go_wp2_with (at_builtin;refine kO Z _ _ 83 Z (d.heap.size+1) 3 J _ 1 8 underlying83 f.o.1 f.o.2.1 f.o.2.2.1 f.o.2.2.2 Z mJ.ok (λ_=>False) _ (sg b a) Z (k.ku mJ.ok<|Ba _ _) ⟨wr,0,none⟩ [.int .i64 ((c % 3:Nat):Int)] (c % 3) Z v.o Z ?c3 ?c4 ?c5 ?_);case c3=>rw[<-q.o];unfold maxLen;omega
   case c4=>rw[<-q.o];omega
   case c5=>first|omega|(simp;omega)
   intro w x y z _;have n:=(O.o _ w x u.o y<|.inr trivial)
   have A:=((s.alloc Y _).grown z Us λB g=>(k.ge B g).1)
   go_wp21;go_roundw
   .exact⟨a+1,Y,Ur,n,A⟩
   simp[intOf];omega
  by_cases Q:a=0
  .subst Q;have u:=X (show AZ b 0=[1]by unfold AZ;rw[Rh<|W j.o.1,RB Z]);have v:=X<|mG wr [.int .i64 1] 3;go_wp2_with (at_builtin;refine kO Z _ _ 83 Z (d.heap.size+1) 3 J _ 1 8 underlying83 f.o.1 f.o.2.1 f.o.2.2.1 f.o.2.2.2 Z mJ.ok (λ_=>False) _ (sg b 0) Z (k.ku mJ.ok<|Ba _ _) ⟨wr,0,none⟩ [.int .i64 1] 1 Z v.o Z ?d3 ?d4 ?d5 ?_);case d3=>rw[<-q.o];unfold maxLen;omega
   case d4=>rw[<-q.o];omega
   case d5=>first|omega|(simp;omega)
   intro w x y z _;have n:=(O.o _ w x u.o y<|.inr trivial)
   have A:=((s.alloc Y _).grown z Us λB g=>(k.ge B g).1)
   go_wp21;go_roundw
   .exact⟨1,Y,Z,n,A⟩
   simp[intOf]
  have aJ:((a:Int)==0)=false:=(by rw[QW];omega);by_cases aK:a<m
  .obtain⟨e,o,rfl,p,P⟩:=qu.yS aw<|show a<b.ss.length from W j.o.2;obtain⟨c,i⟩:∃c:Nat,c=(b.ss.getD a default).params:=⟨_,Z⟩
   rw[<-i]at P;have u:=X (show AZ b a=[c % 3]by unfold AZ;rw[Rh<|W j.o.1,Rh Q,RB<|W j.o.2,i]);obtain⟨ay,az⟩:=nL a m;have aA:(0:Int)<=(c:Int):=Y;clear i;have v:=X<|mG wr [.int .i64 ((c % 3:Nat):Int)] 3;go_wp2_with (at_builtin;refine kO Z _ _ 83 Z (d.heap.size+1) 3 J _ 1 8 underlying83 f.o.1 f.o.2.1 f.o.2.2.1 f.o.2.2.2 Z mJ.ok (λ_=>False) _ (sg b a) Z (k.ku mJ.ok<|Ba _ _) ⟨wr,0,none⟩ [.int .i64 ((c % 3:Nat):Int)] (c % 3) Z v.o Z ?e3 ?e4 ?e5 ?_);case e3=>rw[<-q.o];unfold maxLen;omega
   case e4=>rw[<-q.o];omega
   case e5=>first|omega|(simp;omega)
   intro w x y z _;have n:=(O.o _ w x u.o y<|.inr trivial)
   have A:=((s.alloc Y _).grown z Us λB g=>(k.ge B g).1)
   go_wp21;go_roundw
   .exact⟨a+1,Y,Ur,n,A⟩
   simp[intOf];omega
  have n:=(show kJ mJ 3 1 (λ_=>False) wr (d+1) (ag,ai,ah) (sg b<|a+1)by
   have g:sg b (a+1)=sg b a:=by show sg b a++AZ b a=_;unfold AZ;rw[Rh<|W j.o.1,Rh Q,Rh<|W j.o.2,Sb]
   rw[g];exact k)
  go_wp2_with fail;go_roundw
  .exact⟨a+1,Y,Ur,n,s⟩
  simp[intOf];omega
 obtain rfl:a=3:=Y;go_wp21;go_ret;refine⟨_,Z,?_,?_⟩;exact k.base Y;have:=s;rw[r.o]at this;exact(Ba _ _).T (this.M Y)
def nO.ng{b:Type}{f:Rel b}{g i:Nat}{P j c}{o:Nat}{k l d}{m:List b}{a e}(n:nO f g i P j c o k l d m a)(p:a.grownBy e d.ownBlock):NK c a e:=.lA p λq r=>(n.v q r).2
def E7:EU oi:=by intro b c a;simp at a;exact a.2
def KG.sl{b c}{o:Nat}{i j}(e:KG b o i j c){f:Type}{d:Rel f}{k:Nat}(ok:lh d k){v}{g:List f}(l:kz d (Gt o b) b v g):kz d (Gt o c) c v g:=
 (l.kv ok λm a=>e.blk a.2<|W a.1).M ok λm a=>⟨a.1,QO a.2 e.s⟩
def kJ.gt{c:Type}{a:Rel c}{g k:Nat}(ok:lh a k){P w}{d o:Nat}{v}{e:List c}(h:kJ a g k P w d v e)(i:∀b,P b->o<b)(j:o<d):kz a (Gt o w) w v e:=
 (h.sl ok).M ok λb f=>⟨by rcases f.1 with h|h;exact i b h;omega,f.2⟩
def kI.rq(a:RK):Option RK:=syms.find?<|pfx a
def kI.ox(a:RK):Nat×Nat:=
 if lY (a.headD 0).toNat then
  if tz (a.take<|pre ma a)then(2,pre ma a)
  else if pre ma a<=12 then(1,pre ma a)else(5,a.length)
 else if mO (a.headD 0).toNat then
  if pre mO a==1||((a.headD 0).toNat:Int) !=48 then(3,pre mO a)else(5,a.length)
 else match rq a with
  |some x=>(4,x.length)
  |none=>(5,a.length)
def kI.Kd(a:Se)(b:0<a.size)(c:lY (a[0]).toNat=true)(d:tz (a.data.toList.take<|pre ma a.data.toList)=true):
  ox a.data.toList=(2,pre ma a.data.toList):=by
 unfold ox;rw[pz a b,if_pos c,if_pos d]
def kI.FY(a:Se)(b:0<a.size)(c:lY (a[0]).toNat=true)(d:tz (a.data.toList.take<|pre ma a.data.toList)=false)(e:pre ma a.data.toList<=12):
  ox a.data.toList=(1,pre ma a.data.toList):=by
 unfold ox;rw[pz a b,if_pos c,if_neg (by rw[d];simp),if_pos e]
def kI.FZ(a:Se)(b:0<a.size)(c:lY (a[0]).toNat=true)(d:tz (a.data.toList.take<|pre ma a.data.toList)=false)(e:¬pre ma a.data.toList<=12):
  ox a.data.toList=(5,a.size):=by
 unfold ox;rw[pz a b,if_pos c,if_neg (by rw[d];simp),if_neg e];simp
def kI.Ix(a:Se)(c:0<a.size)(d:lY (a[0]).toNat=false)(e:mO (a[0]).toNat=true)(f:pre mO a.data.toList=1\/(((a[0]).toNat:Int) !=48)=true):
  ox a.data.toList=(3,pre mO a.data.toList):=by
 unfold ox;rw[pz a c,if_neg (by rw[d];simp),if_pos e,if_pos];rcases f with b|b<;>simp[b]
def kI.F0(a:Se)(b:0<a.size)(c:lY (a[0]).toNat=false)(d:mO (a[0]).toNat=true)(e:pre mO a.data.toList≠1)(f:(((a[0]).toNat:Int) !=48)=false):
  ox a.data.toList=(5,a.size):=by
 unfold ox;rw[pz a b,if_neg (by rw[c];simp),if_pos d,if_neg]
 .simp
 .rw[f];simpa using e
def kI.Cj(c)(a:Nat)(f:a<25)(g:∀b,b<a->pfx c (syms[b]?.getD [])=false)(d:pfx c (syms[a]?.getD [])=true):rq c=some (syms[a]?.getD []):=by have e:a<syms.length:=f;unfold rq;rw[List.getElem?_eq_getElem e,Option.getD_some]at d⊢;rw[List.find?_eq_some_iff_getElem];refine⟨d,a,e,Z,λb i=>?_⟩;have:=g b i;rw[List.getElem?_eq_getElem Y,Option.getD_some]at this;simp[this]
def kI.yy(b)(d:∀a,a<25->pfx b (syms[a]?.getD [])=false):rq b=none:=by unfold rq;rw[List.find?_eq_none];intro g e;have⟨a,c,f⟩:=List.getElem_of_mem e;have:=d a c;rw[List.getElem?_eq_getElem c,Option.getD_some,f]at this;simp[this]
def kI.Iy(a:Se)(d:0<a.size)(e:lY (a[0]).toNat=false)(f:mO (a[0]).toNat=false)(b:Nat)(g:b<25)(i:∀c,c<b->pfx a.data.toList (syms[c]?.getD [])=false)(j:pfx a.data.toList (syms[b]?.getD [])=true):
  ox a.data.toList=(4,(syms[b]?.getD []).length):=by
 unfold ox;rw[pz a d,if_neg (by rw[e];simp),if_neg (by rw[f];simp),Cj _ b g i j]
def kI.F2(a:Se)(c:0<a.size)(d:lY (a[0]).toNat=false)(e:mO (a[0]).toNat=false)(f:∀b,b<25->pfx a.data.toList (syms[b]?.getD [])=false):
  ox a.data.toList=(5,a.size):=by
 unfold ox;rw[pz a c,if_neg (by rw[d];simp),if_neg (by rw[e];simp),yy _ f];simp
def ua(a:Int)(d):Calls prog 195 #[.int .u8 a] d λb c=>b=.returned (.bool<|kI.ma a)/\d=c:=by
 cases h1:kI.lY a<;>cases h2:kI.mO a<;>cases h3:(a==95);all_goals
  (go_enter func195,ntmps195;go_wp2_with (first|(go_at_call 194;apply(oG _ _).M;rintro b c ⟨rfl,rfl⟩)|(go_at_call 197;apply(pQ _ _).M;rintro b c ⟨rfl,rfl⟩));go_ret;exact⟨by simp[kI.ma,h1,h2,h3],Z⟩)
def oN(i:FuncId)(d)(s:∀m c,Sem.run prog (callFunc i m) c=.ok (.enter i m) c)(q:∀n c,Calls prog i #[.int .u8 n] c λe f=>e=.returned (.bool<|d n)/\c=f)(a c)(r:a.size<=maxLen):
  Calls prog 190 #[.string a,.func (.func i) #[] #[]] c λe f=>e=.returned (.int .i64<|kI.pre d a.data.toList)/\c=f:=by
 unfold maxLen at r;have p:=X q
 go_enter func190,ntmps190
 go_wp2
 go_loop [5] (λj=>∃b:Nat,b<=a.size/\j=b/\b<=kI.pre d a.data.toList) (λj=>a.size-(intOf j).toNat)
 .exact⟨0,QZ _,Z,QZ _⟩
 obtain⟨b,t,rfl,k⟩:=hrel;by_cases l:b<a.size
 .cases hq:d (a[b].toNat:Int)
  .have g:=X<|kI.yX d a b l k hq;go_wp2_with (apply(p.o _ _).M;rintro e f ⟨rfl,rfl⟩);go_ret;exact⟨by rw[g.o];rfl,Z⟩
  have g:=X<|kI.yV d a b l k hq;go_wp2_with (apply(p.o _ _).M;rintro e f ⟨rfl,rfl⟩)
  go_round
  .exact⟨b+1,Y,Ur,g.o⟩
  simp[intOf];omega
 have g:=X<|kI.Bx d a b l k;go_wp2;go_ret;exact⟨by rw[g.o];rfl,Z⟩
def qX(a)(b:RW)(c:a.size<=maxLen):
  Calls prog 190 #[.string a,.func (.func 195) #[] #[]] b λd e=>d=.returned (.int .i64<|kI.pre kI.ma a.data.toList)/\b=e:=
 oN _ _ (λ_ _=>Up) ua a b c
def sJ(d:Se)(c)(j:tH c):
  Calls prog 196 #[.string d] c λe k=>e=.returned (.bool<|kI.tz d.data.toList)/\c=k:=by
 have⟨l,m,n⟩:=j
 go_enter func196,ntmps196
 go_wp2_with (refine TW Z 348 _ Z 5 Z l _ m _ n sI Z tZ ?_)
 go_loop [4,6] (λ_ f=>∃a:Nat,a<=39/\f=a/\∀b,b<a->(kI.words[b]?.getD []==d.toList)=false) (λ_ f=>39-(intOf f).toNat)
 .exact⟨0,QZ _,Z,Y⟩
 obtain⟨a,q,rfl,g⟩:=hrel;by_cases i:a<39
 .have r:=λc=>vn c a i;cases hq:(kI.words[a]?.getD []==d.toList)
  .go_wp2
   go_round
   .refine⟨a+1,Y,Ur,λb p=>?_⟩;by_cases e:b=a;rw[e];exact hq;exact g b Y
   simp[intOf];omega
  go_wp2;go_ret;exact⟨by rw[kI.E8 _ a i<|by rw[<-R3];exact hq];rfl,Z⟩
 go_wp2;go_ret;exact⟨by rw[kI.Bz _ λb p=>by rw[<-R3];exact g b Y];rfl,Z⟩
def F3(a d)(e:tH d)(l:0<a.size)(m:a.size<=12)(n:kI.lY (a[0]).toNat=true)(f:kI.pre kI.ma a.data.toList=a.size)(g:kI.tz a.data.toList=false):
  Calls prog 140 #[.string a] d λb c=>b=.returned (.tuple #[.int .u8 1,.int .i64 (a.size:Int)])/\d=c:=by
 have i:=e;have j:=f;have k:=g
 go_enter func140,ntmps140
 go_wp2_with (go_at_call 194;apply(oG _ _).M;rintro b c ⟨rfl,rfl⟩);refine(qX _ _ Uw).M ?_;rintro b c ⟨rfl,rfl⟩;rw[j];go_wp21;apply(sJ _ _ i).M;rintro b c ⟨rfl,rfl⟩;rw[k];go_wp21
 go_ret2
 exact⟨Z,Z⟩
def Ck(a c)(e:tH c)(f:0<a.size)(g:a.size<=12)(i:kI.lY (a[0]).toNat=true)(j:kI.pre kI.ma a.data.toList=a.size)(k:kI.tz a.data.toList=false):
  Calls prog 149 #[.string a] c λb d=>b=.returned (.bool true)/\c=d:=by
 have l:=e;have m:=j;have n:=k;have p:a.toList≠[]:=by rw[R3];intro b;have q:=RH List.length b;rw[RV,Rp]at q;have r:a.data.size=a.size:=Z;omega
 have s:a.toList.isEmpty=false:=by cases h:a.toList.isEmpty;rfl;exact absurd (List.isEmpty_iff.1 h) p
 go_enter func149,ntmps149
 go_wp21;apply(F3 a _ l f g i m n).M;rintro b d ⟨rfl,rfl⟩
 go_wp21;go_ret;exact⟨Z,Z⟩
def oy(a)(d:nr a=true)(b)(f:tH b):Calls prog 149 #[tx a] b λg w'=>g=.returned (.bool true)/\b=w':=by
 unfold nr at d;simp only[R1,SR,R2,Bool.not_eq_true']at d;have⟨⟨⟨⟨e,i⟩,j⟩,k⟩,l⟩:=d;have c:(⟨a.toArray⟩:Se).size=a.length:=UI
 refine Ck ⟨a.toArray⟩ b f (by rw[c];exact e) (by rw[c];exact i) ?_ (by rw[c];simpa using k) (by simpa using l);rw[<-kI.pz ⟨a.toArray⟩ (by rw[c];exact e)];simpa using j
def nA{a}(c:kI.lY a.toNat=true){k:Nat}(j:k<10):nr (nm a k)=true:=by
 have f:kI.tz (nm a k)=false:=by unfold kI.tz;rw[TH];intro d;rw[T1]at d;have b:∀e∈kI.words,e.length=2->(e[1]?.getD 0).toNat>=97:=Uv;have g:=b _ d (by simp[nm]);simp[nm]at g;omega
 have i:(UInt8.ofNat<|48+k).toNat=48+k:=Us
 have b:kI.pre kI.ma (nm a k)=2:=by unfold nm;rw[kI.nI,RB (by unfold kI.ma;rw[c];rfl),kI.nI,RB (by unfold kI.ma kI.mO;rw[i];simp;omega),kI.pre_nil]
 unfold nr;rw[f,b];simp[nm,c]
def sV(b:Nat)(a)(c:shapes[b]?=some a)(g:1<=b)(e)(d:lX e):Calls prog 226 #[.int .u8 (b:Int)] e<|kG (.tuple #[.agg #[.int .i64 (a.1:Int),.bool a.2.1,.int .i64 (a.2.2.1:Int),tx a.2.2.2],true]) e:=by
 have i:b<24:=by have:=(Q9.1 c).1;rw[xx]at this;exact this
 have f:=qI d b a c 0 _ Z;have j:=qI d b a c 1 _ Z;have k:=qI d b a c 2 _ Z;have l:=qI d b a c 3 _ Z;have m:=d.lt.1;rw[Q1]at f
 go_enter func226,ntmps226
 go_wp2;refine QY (v:=.tuple #[.agg #[.int .i64 (a.1:Int),.bool a.2.1,.int .i64 (a.2.2.1:Int),tx a.2.2.2],true]) ?_ rfl ⟨Z,Ba _ _⟩;simp[results,Tryz.results226,go_sem]
def yz:Bi 208:=by
 intro D E d o F e G f j q r s I;obtain⟨J,K,rfl,rfl,L⟩:=q.open;have⟨⟨k,M,g,t,l,u,v,w⟩,_⟩:=r;have c:=j 0 _ Z;have m:=j 1 _ Z;rw[Q1]at c;obtain⟨a,n⟩:∃a:Nat,a=e.op.toNat:=⟨_,Z⟩
 have p:e.op=(a:Int):=Y
 rw[<-n]at g;rw[p]at c;have x:1<=a:=Y
 have y:=X g;have z:=On c m;have A:=X l;clear t l u v w g n p
 go_enter func208,ntmps208
 go_wp21;apply(sV a k y.o x _ f).M;rintro N B ⟨rfl,b⟩;have i:=b.size;have O:=(Cb d (o+1)<|b.B d s).T z.o.2;have P:d<B:=Y
 clear c m;cases hq:k.2.1
 .go_wp21;go_ret;exact⟨Z,b.alloc i _⟩
 have C:=A.o hq;go_wp21;apply(oy e.name C _<|f.names.ku (b.alloc i _) f.low.1).M;rintro Q R ⟨rfl,rfl⟩;go_wp21;go_ret;exact⟨Z,b.alloc i _⟩
def xX:Bi 209:=by
 intro O P a o Q e R z f A B g S;obtain⟨T,U,rfl,rfl,C⟩:=A.open;have⟨⟨p,V,k,q,D,r,l,m⟩,_⟩:=B;obtain⟨aa,ab,rfl,ac⟩:=C.form;have i:=f 0 _ Z;have s:=f 1 _ Z;have t:=f 2 _ Z;have n:=f 3 _ Z;rw[Q1]at i;rw[q]at n;obtain⟨b,u⟩:∃b:Nat,b=e.op.toNat:=⟨_,Z⟩
 have v:e.op=(b:Int):=Y
 rw[<-u]at k;rw[v]at i l m;have E:1<=b:=Y
 have F:=X k;have j:=OK i s t n;have G:=X r;have w:=On l m;clear q D r l m k u v
 go_enter func209,ntmps209
 go_wp21;apply(sV b p F.o E _ z).M;rintro ad I ⟨rfl,c⟩;have J:=c.size;have ae:=(Cb a o<|c.B a g).T j.o.1;have K:=(Cb a (o+1)<|c.B a g).T j.o.2.1;have L:=(Cb a (o+2)<|c.B a g).T j.o.2.2.1;have af:=(Cb a (o+3)<|c.B a g).T j.o.2.2.2;have ag:a<I:=Y
 clear i s t n;have x:((b:Int)==1)=true->decide ((0:Int)<=e.n)=true:=λd=>by rw[TC];exact w.o.1 (by rw[R2]at d;exact d)
 have y:((b:Int)==1)=false->e.n=0:=λd=>w.o.2 (by rw[QW]at d;exact d);cases PJ:((b:Int)==1)<;>cases hq:p.2.1;all_goals
  first|have ah:=x PJ|have M:=y PJ
  first|have N:=G.o hq|skip
  first|rw[N]at K|skip
  first|rw[M]at L|skip
  clear x y;go_wp21;go_quiet (fail);go_wp21;go_ret;exact⟨Z,mZ (c.alloc J _) _⟩
def sN(i:FuncId)(E:mq i)(F:Bi i)(r:Nat)(G:∀c,r=c+1->C8 i c):C8 i r:=by
 intro y d e o f j z s k t u l;unfold mq at E;have I:=t.two;have J:=F y d e o r f j z s k t u l;obtain⟨c,V,rfl,rfl,v⟩:=k.open;have⟨_,K⟩:=t;obtain⟨aa,ab,rfl,L⟩:=v.form;have⟨m,A⟩:=Xq f.args.length;rw[<-A]at v L s I;have B:=s 3 _ Z;have M:=(G c Z)
 go_enter func225,ntmps225
 go_wp2_with (apply J.M;rintro f ac ⟨rfl,n⟩;have N:=n;have ad:=n.size;have ae:=(Cb e (o+3)<|n.B e u).T B;clear n);go_loopw [15] (λw wr=>∃a:Nat,a<=m/\w=a/\Below d d wr) (λw _=>m-(intOf w).toNat)
 .exact⟨0,QZ _,Z,N⟩
 obtain⟨a,af,rfl,b⟩:=hrel;have O:=b.size;have ag:=(Cb e (o+3)<|b.B e u).T B;by_cases ah:a<m
 .obtain⟨g,C⟩:∃g,f.args[a]?=some g:=Gx<|W A;obtain⟨p,D,j,rfl,P,k,Q⟩:=v.ll (kP.ok .u8 c) a g C;have R:p<d:=l p P;have S:=(M y wr p (D+a*4) g j (z.to b) ((show At d p (D+a*4) j from Q).ku b R) ((kP.ok .u8 c).kv k λq x=>b.B q<|l q x) (K g<|QS C) Y λq x=>W<|l q x)
  have ai:(0:Int)<=(a:Int):=Y;go_wp21;apply S.M;rintro f aj ⟨rfl,T⟩;have U:=(b.T<|T.M O)
  go_wp21;go_roundw
  .exact⟨a+1,Y,Ur,U⟩
  simp[intOf];omega
 obtain rfl:a=m:=Y;go_wp21;go_ret;exact⟨Z,b⟩
def tK(a:FuncId)(b:mq a)(c:Bi a):∀d,C8 a d
 |0=>sN a b c 0 λe f=>by omega
 |d+1=>sN a b c (d+1) λe f=>by obtain rfl:d=e:=Y;exact tK a b c d
def xz(i:FuncId)(z:mq i)(A:Bi i)(m a)(e o t:Nat)(j f)(B:lX a)(u:At a e o f)(n:kR .u8 t m a f j)(v:nQ t j)(C:e<a)(D:∀c,m c->c<a):
  Calls prog 207 #[.pointer<|mw e o,.func (.func i) #[] #[]] a (kG (.bool true) a):=by
 have E:=v.five;obtain⟨S,T,U,V,rfl,rfl,p,_,_⟩:=n.open;have⟨_,F,_⟩:=v;obtain⟨aa,ab,rfl,G⟩:=p.form;have⟨k,w⟩:=Xq j.lp.length;rw[<-w]at p G u E;have I:=u 3 _ Z;have q:=D;have J:=B;have K:=(tK i z A De)
 go_enter func207,ntmps207
 go_wp21;go_loopw [11] (λr wr=>∃b:Nat,b<=k/\r=b/\Below a a wr) (λr _=>k-(intOf r).toNat)
 .exact⟨0,QZ _,Z,Sf _ _⟩
 obtain⟨b,ac,rfl,d⟩:=hrel;have L:=d.size;have ad:=(Cb e (o+3)<|d.B e C).T I;by_cases ae:b<k
 .obtain⟨g,x⟩:∃g,j.lp[b]?=some g:=Gx<|W w;obtain⟨l,y,f,rfl,M,n,N⟩:=p.ll (kP.ok .u8 De) b g x;have O:l<a:=q l M;have P:=(K m wr l (y+b*4) g f (J.to d) ((show At a l (y+b*4) f from N).ku d O) ((kP.ok .u8 De).kv n λc s=>d.B c<|q c s) (F g<|QS x) Y λc s=>W<|q c s)
  have af:(0:Int)<=(b:Int):=Y;go_wp21;apply P.M;rintro ag ah ⟨rfl,Q⟩;have R:=(d.T<|Q.M L)
  go_wp21;go_roundw
  .exact⟨b+1,Y,Ur,R⟩
  simp[intOf];omega
 obtain rfl:b=k:=Y;go_wp21;go_ret;exact⟨Z,d⟩
def yA:Bj 152:=by
 intro P n j o ak v al Q e y z f A;have R:=e;have S:=y;have T:=z;obtain⟨am,an,ao,ap,rfl,rfl,U,V,aa⟩:=y.open;have⟨⟨w,aq,x,B,ab,C,ac,ar,au,ad,ae⟩,af,⟨av,aw⟩,_⟩:=z;obtain⟨ax,ay,rfl,az⟩:=U.form;obtain⟨aA,aB,rfl,aC⟩:=V.form;obtain⟨aD,aE,rfl,aF⟩:=aa.form;have p:=e 0 _ Z;have D:=e 1 _ Z;have E:=e 2 _ Z;have F:=e 3 _ Z;have G:=e 4 _ Z;have I:=e 5 _ Z;rw[Q1]at p;obtain⟨k,J⟩:∃k:Nat,k=v.kind.toNat:=⟨_,Z⟩
 have K:v.kind=(k:Int):=Y
 rw[<-J]at x;rw[K]at p;have ag:1<=k:=Y
 have q:=Q;have ah:=X x;have L:=(RC p<|RC D<|RC E<|RC F<|RC G I)
 have l:=(RC R<|RC S T)
 have m:=A;have r:=(RC B C)
 clear B ab C ac ad ae af x J K A
 go_enter func152,ntmps152
 go_wp21;apply(BA k w ah.o ag _ q).M;rintro aG ai ⟨rfl,s⟩;have b:=s.size;have aH:=(Cb j (o+1)<|s.B j f).T L.2.1;have aI:=(Cb j (o+2)<|s.B j f).T L.2.2.1;have aJ:j<ai:=Y
 have c:=s;clear p D E F G I;have M:=λ(a:RW) (d:Below n n a)=>xz 208 wz yz P a j o _ v _ (q.to d) (po l f m d).1 (po l f m d).2.1 (po l f m d).2.2.1 (po l f m d).2.2.2.1 (po l f m d).2.2.2.2;have t:=M;have N:=λ(O:RK) (aj:nr O=true) (a:RW) (d:Below n n a)=>oy O aj a<|q.names.ku d q.low.1;have u:=N;clear M N;cases N6:w.1<;>cases N7:w.2.1
 .go_wp21;apply(t _<|c.alloc b _).M;rintro g a ⟨rfl,i⟩;go_wp21;go_ret;exact⟨Z,(c.alloc b _).T<|i.M Us⟩
 .go_wp21;apply(u _ (r.2 N7) _<|c.alloc b _).M;rintro g a ⟨rfl,rfl⟩;go_wp21;apply(t _<|c.alloc b _).M;rintro g a ⟨rfl,i⟩;go_wp21;go_ret;exact⟨Z,(c.alloc b _).T<|i.M Us⟩
 .go_wp21;apply(u _ (r.1 N6) _<|c.alloc b _).M;rintro g a ⟨rfl,rfl⟩;go_wp21;apply(t _<|c.alloc b _).M;rintro g a ⟨rfl,i⟩;go_wp21;go_ret;exact⟨Z,(c.alloc b _).T<|i.M Us⟩
 go_wp21;apply(u _ (r.1 N6) _<|c.alloc b _).M;rintro g a ⟨rfl,rfl⟩;go_wp21;apply(u _ (r.2 N7) _<|c.alloc b _).M;rintro g a ⟨rfl,rfl⟩;go_wp21;apply(t _<|c.alloc b _).M;rintro g a ⟨rfl,i⟩;go_wp21;go_ret;exact⟨Z,(c.alloc b _).T<|i.M Us⟩
def xY:Bj 155:=by
 intro O q a o au l av P d r s b t;have Q:=d;have R:=r;have S:=s;obtain⟨aw,ax,ay,az,rfl,rfl,T,U,V⟩:=r.open;have⟨⟨e,aA,n,aa,u,ab,v,aB,aC,w,x⟩,ac,⟨aD,aE⟩,_⟩:=s;obtain⟨aF,aG,rfl,aH⟩:=T.form;obtain⟨aI,aJ,rfl,aK⟩:=U.form;obtain⟨aL,aM,rfl,aN⟩:=V.form;have m:=d 0 _ Z;have y:=d 1 _ Z;have z:=d 2 _ Z;have A:=d 3 _ Z;have B:=d 4 _ Z;have C:=d 5 _ Z;rw[Q1]at m;obtain⟨i,D⟩:∃i:Nat,i=l.kind.toNat:=⟨_,Z⟩
 have E:l.kind=(i:Int):=Y
 rw[<-D]at n;rw[E]at m;have ad:1<=i:=Y
 have F:=P;have ae:=X n;have f:=(RC m<|RC y<|RC z<|RC A<|RC B C)
 have j:=(RC Q<|RC R S)
 have k:=t;have G:=(RC u v)
 have I:=(RC w x)
 have⟨J,K⟩:=Xq l.lp.length;have aO:¬(J:Int)<(e.2.2.1:Int):=Y
 have aP:¬(e.2.2.2.1:Int)<(J:Int):=Y
 have af:=X K;clear aa u ab v w x ac n D E t K
 go_enter func155,ntmps155
 go_wp21;apply(BA i e ae.o ad _ F).M;rintro aQ ag ⟨rfl,c⟩;have L:=c.size;have aR:=(Cb a o<|c.B a b).T f.1;have ah:=(Cb a (o+1)<|c.B a b).T f.2.1;have ai:=(Cb a (o+2)<|c.B a b).T f.2.2.1;have aj:=(Cb a (o+3)<|c.B a b).T f.2.2.2.1;have ak:=(Cb a (o+4)<|c.B a b).T f.2.2.2.2.1;have al:=(Cb a (o+5)<|c.B a b).T f.2.2.2.2.2;have aS:a<ag:=Y
 have M:=c;rw[<-af.o]at aj;clear m y z A B C;have N:=λ(p:RW) (g:Below q q p)=>xz 209 vE xX O p a o _ l _ (F.to g) (po j b k g).1 (po j b k g).2.1 (po j b k g).2.2.1 (po j b k g).2.2.2.1 (po j b k g).2.2.2.2;have am:=N;clear N;cases N6:e.1<;>cases N7:e.2.1<;>cases Qy:e.2.2.2.2.1<;>cases Qz:e.2.2.2.2.2;all_goals
  first|(have an:=G.1 N6;rw[an]at ah)|skip
  first|(have ao:=G.2 N7;rw[ao]at ai)|skip
  first|(have ap:=I.1 Qy;rw[ap,Rp]at ak)|skip
  first|(have aq:=I.2 Qz;rw[aq,Rp]at al)|skip
  go_wp21;apply(am _<|M.alloc L _).M;rintro aT p ⟨rfl,ar⟩;go_wp21;go_ret;exact⟨Z,(M.alloc L _).T<|ar.M Us⟩
def pj(Q:FuncId)(ap:mq Q)(aq:EW Q)(M j y)(z A:Nat)(B)(C D:Nat)(E)(d F:Nat)(q)(ar:lX j)(ag:pW M j y z A B C D E d F q)(R:mi q):
  Calls prog 147 #[.agg<|lP q.name y z A B C D E d F,.func (.func Q) #[] #[]] j (kG (.bool true) j):=by
 unfold mq at ap;have au:=aq;have S:=ag.kH
 have be:d<=3:=by rw[<-S.len.1];exact R.c3
 have bf:1<=d:=by rw[<-S.len.1];exact R.c1
 have av:=X S.len.1;have T:Below j j<|j.alloc<|.cells (lP q.name y z A B C D E d F) 54:=Ba _ _;have bg:(j.alloc<|.cells (lP q.name y z A B C D E d F) 54).heap.size=j+1:=Uo
 have ah:=(ag.ku T)
 have aw:=R;have ax:=(ar.to T)
 go_enter func147,ntmps147
 go_wp21;generalize j.alloc (.cells (lP q.name y z A B C D E d F) 54)=s at*
 have U:=X ah.lK;have ay:=ah.kH;have a:=(Sf s s)
 go_loopw [14] (λf wr=>∃n:Nat,n<=d/\f=n/\Below s s wr) (λf _=>d-(intOf f).toNat)
 .exact⟨0,QZ _,Z,a⟩
 obtain⟨t,bh,rfl,a⟩:=hrel;have bi:=a.size;by_cases bj:t<d
 .obtain⟨u,g⟩:∃G,q.kH[t]?=some G:=Gx<|W av.o;obtain⟨bk,bl,ai,rfl,aj,I,e⟩:=(ay.kv (mr.ok .u8) λb c=>a.B b<|U.o b c).ll (mr.ok .u8) t u g;obtain⟨ak,az,rfl,k,v⟩:=I;obtain⟨aA,aB,rfl,aC⟩:=k.form;obtain⟨aD,aE,rfl,aF⟩:=v.form;have aG:=e 0 _ Z;have aH:=e 1 _ Z;have aI:=e 2 _ Z;rw[Q1]at aG;have aJ:=QS g;obtain⟨bm,bn⟩:=nL t d;clear e g;have V:=aw.kH u aJ;have⟨aK,al⟩:=Xq u.vars.length;have⟨p,J⟩:=Xq u.lJ.length;rw[<-al]at aH k aC;rw[<-J]at aI v aF;have bo:p<=2:=(by rw[J];exact V.v2);have bp:1<=p:=(by rw[J];exact V.v1);have aL:=X J.symm;have⟨i,K⟩:=Xq<|wr.alloc<|.cells #[tx u.name,(aA,aK,aB),(aD,p,aE)] 112;have bq:i.heap.size=wr+1:=(by rw[K];simp);have am:=(show Below s s i by rw[K];exact a.alloc Y _)
  have aM:wr.grownBy i none:=(by rw[K];exact QV _ _ none)
  have aN:=(v.kv (nj.ok .u8) (w':=i) λb c=>aM.B b (W<|U.o b c) Uo)
  have aa:=X<|show∀b,M b->b<i from λb c=>W<|U.o b c;clear al J;have aO:=(ax.to am)
  go_wp21;rw[<-K];clear K;have a:=(Sf i i)
  go_loopw [21] (λf wr=>∃n:Nat,n<=p/\f=n/\Below i i wr) (λf _=>p-(intOf f).toNat)
  .exact⟨0,QZ _,Z,a⟩
  obtain⟨w,br,rfl,a⟩:=hrel;have a:=a;have bs:=a.size;by_cases bt:w<p
  .obtain⟨N,g⟩:∃G,u.lJ[w]?=some G:=Gx<|W aL.o;obtain⟨bu,bv,ai,rfl,aj,I,e⟩:=(aN.kv (nj.ok .u8) λb c=>a.B b<|aa.o b c).ll (nj.ok .u8) w N g;obtain⟨ak,rfl,k⟩:=I;obtain⟨aP,aQ,rfl,aR⟩:=k.form;have an:=e 0 _ Z;rw[Q1,Ry]at an;have aS:=QS g;obtain⟨bw,bx⟩:=nL w p;clear e g;have O:=V.lJ N aS;have⟨r,ab⟩:=Xq N.length;rw[<-ab]at an k aR O;have bz:r<=3:=O.1;have aT:=X O;have aU:=X ab.symm;have⟨l,L⟩:=Xq<|wr.alloc<|oe aP r aQ;have bA:l.heap.size=wr+1:=(by rw[L];simp);have aV:wr.grownBy l none:=(by rw[L];exact QV _ _ none);have ao:=(show Below i i l by rw[L];exact a.alloc Y _)
   have aW:=(k.kv (mA.ok .u8) (w':=l) λb c=>aV.B b (W<|aa.o b c) Uo)
   have P:=X<|show∀b,M b->b<l from λb c=>W<|aa.o b c;have aX:=(aO.to ao)
   clear O ab;go_wp21;rw[<-L];clear L;have a:=(Sf l l)
   go_loopw [28] (λf wr=>∃n:Nat,n<=r/\f=n/\Below l l wr) (λf _=>r-(intOf f).toNat)
   .exact⟨0,QZ _,Z,a⟩
   obtain⟨x,bB,rfl,a⟩:=hrel;have a:=a;have bC:=a.size;by_cases bD:x<r
   .obtain⟨m,g⟩:∃G,N[x]?=some G:=Gx<|W aU.o;obtain⟨bE,bF,ai,rfl,aj,I,e⟩:=(aW.kv (mA.ok .u8) λb c=>a.B b<|P.o b c).ll (mA.ok .u8) x m g;obtain⟨ak,az,rfl,k,v⟩:=I;obtain⟨ac,ad,rfl,bG⟩:=k.form;obtain⟨ae,af,rfl,bH⟩:=v.form;have aY:=e 0 _ Z;have bI:=e 1 _ Z;have bJ:=e 2 _ Z;rw[Q1]at aY;have aZ:=QS g;obtain⟨bK,bL⟩:=nL x r;clear e g;have ba:=aT.o.2 m aZ;have bb:=(au M (wr.alloc<|.cells #[tx m.name,(ac,m.params.length,ad),(ae,m.body.length,af)] 125) ac _ ad ae _ af m (aX.to<|a.alloc Y _) (k.kv kM.ok λb c=>Q5 _ _<|W<|P.o b c) (v.kv (kR.ok .u8 _) λb c=>Q5 _ _<|W<|P.o b c) ba (λb c=>by rw[QR];have:=P.o b c;omega))
    have bc:=(a.alloc Y<|.cells #[tx m.name,(ac,m.params.length,ad),(ae,m.body.length,af)] 125)
    go_wp21;apply bb.M;rintro bM bN ⟨rfl,bd⟩;have a:=(bc.T<|bd.M<|by rw[QR];omega)
    go_wp21;go_roundw
    .exact⟨x+1,Y,Ur,a⟩
    simp[intOf];omega
   obtain rfl:r=x:=Y;have a:=(ao.T<|a.M Y)
   go_wp21;go_roundw
   .exact⟨w+1,Y,Ur,a⟩
   simp[intOf];omega
  obtain rfl:p=w:=Y;have a:=(am.T<|a.M Y)
  go_wp21;go_roundw
  .exact⟨t+1,Y,Ur,a⟩
  simp[intOf];omega
 obtain rfl:d=t:=Y;go_wp21;go_ret;exact⟨Z,T.T<|a.M Y⟩
def Db(a:Nat):Prop:=∀(k:Nat->Prop) (b d:RW) (c:Nat) (l m n p q r e f g i s:R0) (j:List In) (t u:Int) (v:RK) (w:RE) (x y:Nat) (z:List Ex) (A:Nat),a=A+1->mB b c l m n p q r e f g i s j d->zP k b c e f g i->kz (kP .u8 A) k b (w,x,y) z->mK a (.mk t v u z)->j.length+qz a<=100000->
 Calls prog 244 #[.pointer c,.agg #[.int .u8 t,tx v,u,(w,x,y)]] d (uV b c l m n p q r e f g i s d (.tuple #[])<|rV j<|qz a)
def Ad(b:Nat):Prop:=∀(l:Nat->Prop) (c e:RW) (d:Nat) (m n p q r s f g i j t:R0) (k:List In) (u:RE) (a v:Nat) (w:List Ex),mB c d m n p q r s f g i j t k e->zP l c d f g i j->kz (kP .u8 b) l c (u,a,v) w->(∀x∈w,mK b x)->k.length+a*qz b<=100000->a<=1000->
 Calls prog 230 #[.pointer d,(u,a,v)] e (uV c d m n p q r s f g i j t e (.tuple #[])<|rV k<|a*qz b)
def xC(b:Nat)(ab:Db b):Ad b:=by
 intro ac w ad n x y z A e B C D E F G I aK f aL ae af g J K ag aM;have ah:=af;have p:=g;have ai:=J;have aj:=K;have ak:=J.len;have al:=ag;have am:=ab;clear K
 go_enter func230,ntmps230
 go_wp21;go_loopw [8] (λq wr=>∃(a:Nat) (i:R0) (c:List In),a<=f/\q=a/\mB w n x y z A e B C D E F i c wr/\nG n G ad i wr/\rV I (a*qz b) c) (λq _=>f-(intOf q).toNat)
 .exact⟨0,G,I,QZ _,Z,ah,.refl _ _ _,[],Uo,Uo,Uo⟩
 obtain⟨a,i,c,aN,rfl,an,ao,ap⟩:=hrel;have r:=an;have L:=ao;have s:=ap;by_cases aO:a<f
 .obtain⟨j,g⟩:∃j,ae[a]?=some j:=Gx<|W ak;obtain⟨d,m,aP,rfl,M,aq,k⟩:=ai.ll (kP.ok .u8 b) a j g;have ar:=aj j<|QS g;obtain⟨au,aQ,e,rfl,t⟩:=aq.open;obtain⟨N,O,rfl,_⟩:=t.form;have l:=r.old (p.lK d M).1 (p.lK d M).2;have av:=(Cb d (m+a*4+0) l).T<|k 0 _ Z;have aR:=(Cb d (m+a*4+1) l).T<|k 1 _ Z;have aS:=(Cb d (m+a*4+2) l).T<|k 2 _ Z;have aw:=(Cb d (m+a*4+3) l).T<|k 3 _ Z;rw[Q1]at av;have⟨P,Q,R,S⟩:=j;simp only[Ex.op,Ex.name,Ex.n,Ex.args]at*;have⟨T,U⟩:=Xq S.length;rw[<-U]at aw t;clear U;have ax:=ar;have ay:=t;have az:=X e;clear k g e l;have V:=Ba wr<|mu P Q R N T O;have aA:=(r.ku V)
  have aB:=(L.T<|.ku V)
  have aa:(a+1)*qz b=a*qz b+qz b:=Ug _ _;have aC:(a+1)*qz b<=f*qz b:=Sh _ Y;have u:=(RC aa aC)
  clear aa;have aD:=(show c.length+qz b<=100000 by have⟨aT,aE,aU,_⟩:=s;rw[aE,Q3];have:=al;have:=u.1;have:=u.2;omega)
  go_wp21;apply(am ac w _ n x y z A e B C D E F i c P R Q N T O S au az.o aA p ay ax aD).M;rintro aV aW ⟨rfl,aF,aG,aH,aI,aJ⟩;have v:=(RC aH<|RC (aB.T aI)<|s.T aJ<|Sx u.1.symm)
  go_wp21;go_roundw
  .exact⟨a+1,aF,aG,Y,Ur,v.1,v.2.1,v.2.2⟩
  simp[intOf];omega
 obtain rfl:f=a:=Y;go_wp21
 go_end0
 exact⟨Z,i,c,r,L,s⟩
def lH.xe(b:Nat)(f:b=1\/b=2)(d:Int):∀(e:List In) (a:Nat) (c:In),e[a]?=some c->((e.map wj).flatten).set (a*4+b) (.int .i64 d)=((e.set a<|c.put b d).map wj).flatten
 |[],a,c,h=>by simp at h
 |y::ys,0,c,h=>by simp only[List.getElem?_cons_zero,Option.some.injEq]at h;subst h;rcases f with rfl|rfl<;>simp[wj,In.put]
 |y::ys,a+1,c,h=>by have g:=xe b f d ys a c (by simpa using h);rw[List.map_cons,List.flatten_cons,List.set_append_right _ _ (by show 4<=_;omega),show(a+1)*4+b-(wj y).length=a*4+b by show(a+1)*4+b-4=_;omega,g];rfl
def mB.ins{r}{l:Nat}{t u v w y z A B C D f}{b:List In}{e}(c:mB r l t u v w y z A B C D f b e){i:Nat}{x:In}(m:b[i]?=some x):
  ∃g n,f=.slice (sE g) b.length n/\r<=g/\g<e/\(∀(a:Nat) j,(wj x)[a]?=some j->e.cell? ⟨g,i*4+a,none⟩=some j/\e.frozen? ⟨g,i*4+a,none⟩=false)/\
   ∀a,a=1\/a=2->∀d:Int,mB r l t u v w y z A B C D f (b.set i<|x.put a d) (e.setCell ⟨g,i*4+a,none⟩<|.int .i64 d)/\nG l f e f (e.setCell ⟨g,i*4+a,none⟩<|.int .i64 d):=by
 have⟨ab,⟨K,p⟩,L⟩:=c.own.own;have M:=Fb L;subst M;have ac:=(Q9.1 m).1;rcases p with⟨_,ad⟩|⟨g,n,E,s,F,q,N,O,P,G⟩
 .omega
 .refine⟨g,n,s,F,((QP.1 q).1),λa j Q=>?_,λa I d=>?_⟩;have k:=Ke b i x m a j Q;rw[<-G]at k;have R:E[i*4+a]?=some j:=by rw[Sd]at k;split at k;simpa using k;cases k
  exact⟨kA q _ _ R,kx q _⟩;have S:=c.lt;have T:l≠g:=Y;refine⟨⟨⟨c.g.os,c.g.tape,c.g.output,by rw[QU];exact c.g.size,λJ U V=>(Q8 _ _ _ _<|by show J≠g;omega).T<|c.g.B J U V⟩,(Q8 _ _ _ _ T).T c.c,⟨(b.set i<|x.put a d).map wj,⟨?_,.inr ⟨g,n,E.setIfInBounds (i*4+a)<|.int .i64 d,?_,F,kr q,?_,O,by simpa using P,?_⟩⟩,Fc _⟩,S⟩,⟨by rw[QU];exact QX _,λae af _ p=>⟨Q8 _ _ _ _ (λaa=>p<|by rw[s,aa];rfl),p⟩⟩⟩;rw[<-xe a I d b i x m,SY,SY];exact K;rw[s,SY];rw[SY];exact N;rw[<-xe a I d b i x m,SY,TF,<-G,List.take_set]
def qY(j b C)(d D:Nat)(k)(i:RK)(E:kz (mr .u8) j b (.slice C d D) k)(ap:d<=1000)(F:∀G,j G->G<b):
  Calls prog 163 #[.slice C d D,tx i] b (zf (wk j b) PK (k.find? λa=>a.name==i) b):=by
 have I:=E.len;have aq:=nE i;have U:Below b b<|b.alloc re:=Ba _ _;have J:=QQ b re;have V:(b.alloc re).heap.size=b+1:=Uo
 have K:=X I.1;have aa:=E;have ab:=F;have L:=X J;clear F I J
 go_enter func163,ntmps163
 go_wp21;have⟨l,M⟩:=Xq b.heap.size;rw[<-M]at L V⊢;have g:b<=l:=Y
 generalize b.alloc re=s at*;have ac:l<s:=Y
 clear M;go_loopw [10] (λt wr=>∃c:Nat,c<=d/\t=c/\(k.take c).find? (λa=>a.name==i)=none/\Below s s wr) (λt _=>d-(intOf t).toNat)
 .exact⟨0,QZ _,Z,Uo,Sf _ _⟩
 obtain⟨c,ar,rfl,N,m⟩:=hrel;have O:=X N;have au:=m.size;have⟨⟨u,w,x⟩,ad,ae,af⟩:=lg<|(m.B l ac).T L.o;have ag:l<wr:=Y;have y:=(U.T<|m.M Y)
 clear N;by_cases av:c<d
 .obtain⟨a,z⟩:∃a,k[c]?=some a:=Gx<|W K.o;obtain⟨A,ah,aw,rfl,ai,⟨ax,ay,rfl,P,Q⟩,R⟩:=aa.ll (mr.ok .u8) c a z;obtain⟨n,p,rfl,_⟩:=P.form;obtain⟨q,r,rfl,_⟩:=Q.form;have aj:A<b:=ab A ai;have ak:At b A (ah+c*3) [tx a.name,.slice n a.vars.length p,.slice q a.lJ.length r]:=R;have B:=ak.ku y aj;have al:=B 0 _ Z;have az:=B 1 _ Z;have aA:=B 2 _ Z;rw[Q1]at al;obtain⟨aB,aC⟩:=nL c d;have aD:=nE a.name;have S:=(vr O.o z)
  have am:wk j b a<|.agg<|hR a.name n a.vars.length p q a.lJ.length r:=⟨_,_,_,_,_,_,Z,P,Q⟩
  have an:=(m.alloc Y<|.cells (hR a.name n a.vars.length p q a.lJ.length r) 112)
  clear R z;cases hq:(a.name==i)
  .have e:=S.2 hq;clear u w x ad ae af;go_wp21;go_roundw
   .exact⟨c+1,Y,Ur,e,an⟩
   simp[intOf];omega
  have e:=S.1 hq;go_wp21;refine QY (v:=.tuple #[.agg<|hR a.name n a.vars.length p q a.lJ.length r,true]) ?_ rfl ⟨λao f=>⟨_,Z,by rw[e]at f;injection f with f;rw[<-f];exact am⟩,λT=>(by rw[e]at T;cases T),(kD (kD (kD y g) g) g).alloc UC _⟩;simp[results,Tryz.results163,go_sem,u,w,x,ag,Tw]
 obtain rfl:d=c:=Y;have e:=O.o;rw[Re<|W K.o]at e;go_wp21;refine QY (v:=.tuple zd) ?_ rfl ⟨λao f=>by rw[e]at f;(cases f),λ_=>Z,kD (kD (kD y g) g) g⟩;simp[results,Tryz.results163,go_sem,u,w,x]
def xD(g:Nat)(N:∀i,g=i+1->LB i):LA g:=by
 intro ad b ae af ag ah j k l m n p q r s aE e aF ai c O f aG z;have B:=f.len;have aH:=B.2;have C:Below b b<|b.alloc<|oS j k l m n p q r s:=Ba _ _;have P:=QQ b<|oS j k l m n p q r s;have aj:(b.alloc<|oS j k l m n p q r s).heap.size=b+1:=Uo
 have Q:=(O.ku C)
 have ak:=(f.kv (kP.ok .u8 g) λd t=>C.B d<|O.lK d t)
 have al:=X B.1;have R:=X P;have am:=X z;have an:=X N;clear B P z N
 go_enter func253,ntmps253
 go_wp21;have⟨A,S⟩:=Xq b.heap.size;rw[<-S]at R aj⊢;have aI:b<=A:=Y
 generalize b.alloc (oS j k l m n p q r s)=u at*;have ao:A<u:=Y
 clear S;go_loopw [4,7,15] (λap aq D wr=>∃a:Nat,a<=e/\D=a/\ap=.int .u8 (CX a c)/\aq=.bool true/\Below u u wr) (λ_ _ D _=>e-(intOf D).toNat)
 .exact⟨0,QZ _,Z,Z,Z,Sf _ _⟩
 obtain⟨a,aJ,rfl,rfl,rfl,w⟩:=hrel;have aK:=w.size;have⟨⟨ar,au,av⟩,_⟩:=lg<|(w.B A ao).T R.o;have aL:A<wr:=Y;by_cases aM:a<e
 .obtain⟨x,E⟩:∃x,ai[a]?=some x:=Gx<|W al.o;have F:=Q.lK;obtain⟨aN,aO,aP,rfl,aQ,aw,y⟩:=(ak.kv (kP.ok .u8 g) λd t=>w.B d<|F d t).ll (kP.ok .u8 g) a x E;obtain⟨i,v,rfl,rfl,f⟩:=aw.open;obtain⟨G,I,rfl,_⟩:=f.form;have ax:=y 0 _ Z;have aR:=y 1 _ Z;have aS:=y 2 _ Z;have ay:=y 3 _ Z;rw[Q1]at ax;have z:=am.o x<|QS E;have⟨J,K,L,T⟩:=x;simp only[Ex.op,Ex.name,Ex.n,Ex.args]at*;have⟨M,U⟩:=Xq T.length;rw[<-U]at ay f;clear U;have V:Below u u<|wr.alloc<|mu J K L G M I:=w.alloc Y _;have az:=(an.o i Z ad (wr.alloc<|mu J K L G M I) ae af ag ah j k l m n p q r s G M I J L K T c (Q.ku V) (f.kv (kP.ok .u8 i) λd t=>Q5 _ _<|W<|F d t) z)
  obtain⟨aT,aU⟩:=nL a e;clear y E F;go_wp21;apply az.M;rintro aV aW ⟨rfl,aA⟩;have aa:=(V.T<|aA.M<|by rw[QR];omega)
  by_cases ab:a=0
  .subst ab;have aB:((0:Int)==0)=true:=Z;go_wp2_with fail;go_roundw
   .exact⟨1,Y,Ur,Z,Z,aa⟩
   simp[intOf];omega
  have aB:((a:Int)==0)=false:=(by rw[QW];omega);have aC:CX a c=c:=(by unfold CX;rw[Rh ab]);have ac:CX (a+1) c=c:=(by unfold CX;rw[Rh Y]);have aD:=X ac;clear ac;rw[aC];go_wp2_with fail;go_roundw
  .exact⟨a+1,Y,Ur,by rw[aD.o],Uo,aa⟩
  simp[intOf];omega
 obtain rfl:e=a:=Y;clear ar au av;go_wp21;refine QY (v:=.tuple #[.int .u8<|CX e c,Em,.int .i64 0]) ?_ rfl ⟨Z,C.T<|w.M Y⟩;simp[results,Tryz.results253,go_sem]
structure wN(S:Nat->Prop)(w:RW)(uO:List Fg)(He:List Va)(FD:List RK)(sc:Sc)(AF:RE)(nf cf:Nat)(AV:RE)(nv cv:Nat)(AP:RE)(np cp:Nat)(bb cb:Nat)(f0 f1 f2 f3 o0 o1 o2:R0)(pl:Se)(cnt:Nat):Prop where
 sc:si S w uO He FD sc AF nf cf AV nv cv AP np cp
 CY:um cb f0 f1 f2 f3 w
 bd:Bd bb cb AF nf cf AV nv cv AP np cp o0 o1 o2 pl cnt w
 ne:bb≠cb
 lK:∀q,S q->q≠bb/\q≠cb
def wN.ku{S w d e f g i}{j k:Nat}{l}{m n:Nat}{p}{q r:Nat}{b cb:Nat}{s t u v x y z A}{B:Nat}(a:wN S w d e f g i j k l m n p q r b cb s t u v x y z A B){w'}(c:Below w w w'):wN S w' d e f g i j k l m n p q r b cb s t u v x y z A B:=
 ⟨a.sc.ku c,a.CY.ku c a.CY.lt,⟨(c.B b (QP.1 a.bd.ll).1).T a.bd.ll⟩,a.ne,a.lK⟩
structure uw(S:Nat->Prop)(w:RW)(sc:Sc)(kH:List Co)(A3:RE)(m3 c3:Nat)(o0 o1 o2:R0):Prop where
 cs:kz (mr .u8) S w (A3,m3,c3) kH
 len:kH.length<=3
 hd:1<=sc.ints->Hs sc kH
 own:∃c,kH[sc.own]?=some c/\wk S w c (.agg #[o0,o1,o2])
def uw.kv{S w w' b c d}{e f:Nat}{g i j}(a:uw S w b c d e f g i j)(k:∀q,S q->w'.heap[q]?=w.heap[q]?):uw S w' b c d e f g i j:=by have⟨l,m,n⟩:=a.own;exact⟨a.cs.kv (mr.ok _) k,a.len,a.hd,l,m,n.kv k⟩
def Dc(e:Sc)(f:List Co)(a:St):Prop:=a.kind=6/\a.th=[]/\a.el=[]/\(∃(b:Co) (d:Hd),(f.find? λc=>c.name==a.name)=some b/\b.lJ.length<=1000/\(∀g∈b.lJ,g.length<=1000)/\(b.lJ.flatten.find? λc=>c.name==a.hd)=some d/\a.lp.length=d.params.length)/\a.lp.length<=5/\∀i∈a.lp,lM e De i
def Hf(a:Sc)(c:List Co)(d:Nat)(b:St):Prop:=(mR a d b/\1<=a.ints)\/(0<d/\Dc a c b)
def uw.send{n:Nat->Prop}{p:RW}{b:Sc}{d:List Co}{q:RE}{r s:Nat}{t u v:R0}(g:uw n p b d q r s t u v)(w:1<=b.ints){x:Nat}{e:St}(y:mR b (x+1) e)(z:e.kind=6):Dc b d e:=by
 have⟨A,T,B,C⟩:=g.hd w;rcases y with⟨a,_⟩|⟨a,_⟩|⟨a,_⟩|⟨a,_⟩|⟨a,_⟩|⟨a,D,E,⟨i,j,U,k,f,l,F,G,I⟩,J⟩|⟨a,_⟩|⟨a,_⟩|⟨a,_⟩|⟨a,_⟩
 case inr.inr.inr.inr.inr.inl=>obtain⟨c,m⟩:∃c,d[i]?=some c:=Gx<|W<|(Q9.1 f).1;have⟨K,L,M,N,O⟩:=C i c j m f;have⟨P,Q,R⟩:=H0 L K M l;have S:=H2 g.len A m;have V:k<=2:=B j (QS f) k<|QS l;exact⟨a,D,E,⟨c,P,by rw[F];exact S,N,O,by rw[G];exact Q,by rw[I,R,lR]⟩,Y,J⟩
 all_goals
  rw[z]at a;exact absurd a Un
def lH.uC{d a:Nat}{b:List St}{c:St}(e:b[a]?=some c):kU (d+1) (b.take<|a+1)=kU (d+1) (b.take a)+JN d c:=by rw[List.take_add_one,e];simp[kU,JN]
def nX.refl(xQ w):nX xQ w w:=⟨Z,Z,Z,QX _,λ_ _ _=>Z⟩
def nX.ku{xQ w w'}{B:Nat}(a:nX xQ w w')(b:B<=w)(c:∀k,xQ k->B<=k):Below B w w':=⟨a.os,a.tape,a.output,a.size,λk d=>a.B k (QO d b) λe=>W<|c k e⟩
def wN.but{x y z A B C e}{f g:Nat}{i}{j k:Nat}{l}{m n:Nat}{c a:Nat}{p q r s t u v I}{J:Nat}{D}{E:Nat}(b:wN x y z A B C e f g i j k l m n c a p q r s t u v I J){d}(F:nX (Bb c a) y d)(K:um a p q r s d)(L:Bd c a e f g i j k l m n t u v D E d):wN x d z A B C e f g i j k l m n c a p q r s t u v D E:=
 ⟨b.sc.kv (λw G=>F.B w (b.sc.lK w G) (λhx=>by have:=b.lK w G;rcases hx with hx|hx;exact this.1 hx;exact this.2 hx)) F.size,K,L,b.ne,b.lK⟩
def wN.blk{b w i j k l m}{n p:Nat}{q}{r s:Nat}{t}{u v:Nat}{c d:Nat}{x y z A B C D E}{F:Nat}(e:wN b w i j k l m n p q r s t u v c d x y z A B C D E F){f}(G:nX (Bb c d) w f):∀a,b a->f.heap[a]?=w.heap[a]?:=
 λa g=>G.B a (e.sc.lK a g) (λhx=>by have:=e.lK a g;rcases hx with hx|hx;exact this.1 hx;exact this.2 hx)
def wN.ll{S w i j k l m}{n p:Nat}{q}{r s:Nat}{t}{u v:Nat}{b cb:Nat}{c d e f x y z A}{B:Nat}(a:wN S w i j k l m n p q r s t u v b cb c d e f x y z A B){w'}(D:um cb c d e f w')(C:w.grownBy w'<|some cb):wN S w' i j k l m n p q r s t u v b cb c d e f x y z A B:=
 a.but (.grown C<|.inr Z) D ⟨(C.B b (QP.1 a.bd.ll).1<|by intro g;injection g with g;exact a.ne g).T a.bd.ll⟩
def Kj(d:Nat->Prop)(e:List Fg)(f:List Va)(g:List RK)(i:Sc)(j:RE)(k l:Nat)(m:RE)(n p:Nat)(q:RE)(r s:Nat)(a b:Nat)(t u v w x y z:R0)(A:Se)(B:Nat)(C:RW)(D:Ending)(c:RW):Prop:=D=.returned (.tuple #[])/\wN d c e f g i j k l m n p q r s a b t u v w x y z A B/\nX (Bb a b) C c
def Hf.sub{e:Sc}{f:List Co}{d:Nat}{g:St}(c:Hf e f (d+1) g):(∀a∈g.th,Hf e f d a)/\∀a∈g.el,Hf e f d a:=by
 rcases c with⟨c,i⟩|⟨_,_,j,k,_⟩
 exact⟨λa b=>.inl ⟨c.sub.1 a b,i⟩,λa b=>.inl ⟨c.sub.2 a b,i⟩⟩;exact⟨λa b=>(by rw[j]at b;cases b),λa b=>(by rw[k]at b;cases b)⟩
def Hf.zero{b:Sc}{c:List Co}{d:St}(a:Hf b c 0 d):False:=by
 rcases a with⟨a,_⟩|⟨a,_⟩
 exact a;omega
def BH{b:Sc}{c:List Co}:∀{d:Nat} {l:List St},(∀a∈l,Hf b c d a)->l.length<=kU d l
 |0,l,h=>by cases l with|nil=>simp|cons a l=>exact(h a<|Sq ..).zero.elim
 |d+1,[],_=>by simp
 |d+1,a::l,h=>by have:=BH (d:=d+1) (l:=l) λe f=>h e<|SV _ f;simp only[kU,Rq,Ub,Rl]at this⊢;omega
def L8(d:Nat):Prop:=∀(b:Nat->Prop) (a:RW) (n:List Fg) (p:List Va) (q:List RK) (c:Sc) (r:RE) (s t:Nat) (u:RE) (v w:Nat) (x:RE) (y z:Nat) (f A:Nat) (B C D g i j k:R0) (l:Se) (m:Nat) (E:List Co) (F:RE) (G I:Nat) (J:RE) (K L:Nat) (e:List St),wN b a n p q c r s t u v w x y z f A B C D g i j k l m->uw b a c E F G I i j k->g=.slice F G I->kz (kR .u8 d) b a (J,K,L) e->(∀M∈e,Hf c E d M)->m+kU d e<=90->l.size<=100000000->
 Calls prog 213 #[.pointer f,(J,K,L)] a (Kj b n p q c r s t u v w x y z f A B C D g i j k l (m+kU d e) a)
def zU(a:Nat)(c d e f:R0)(g:RW)(i:Ending)(b:RW):Prop:=i=.returned (.tuple #[])/\um a c d e f b/\nX (λj=>j=a) g b
def nX.through{o d:Nat}{c e f}{g:Nat}(a:Below g c e)(b:nX (Bb o d) e f)(m:c<=g/\c<=o):nX (λj=>j=d) c f:=
 ⟨b.os.T a.os,b.tape.T a.tape,b.output.T a.output,QT a.size b.size,λi k l=>(b.B i (QO k a.size) λhb=>by rcases hb with hb|hb;omega;exact l hb).T<|a.B i Y⟩
structure lH.OB(uO:List Fg):Prop where
 len:uO.length<=2
 wh:∀k x,uO[k]?=some x->pC (uO.take k) x.name=false/\x.name.length<=10
def lH.rF.t{b:Nat}{c:List Fg}(e:b<=2)(a:rF b c):OB c:=
 ⟨by rw[a.1];exact e,λf g d=>⟨L9 Y a d,by rw[a.2 f g d];simp[nm]⟩⟩
def Ct(l:Nat->Prop)(b:RW)(m:RE)(e n:Nat)(j:List Lk)(g:Lk)(c:Nat)(p:kz nT l b (m,e,n) j)(R:e<=1000)(t:∀i,l i->i<b)(u:b.cell? c=some (tx g.a))(v:b.cell? (sd c)=some (tx g.b))(q:c<b)(w:∀a∈j,(a.a,a.b)≠(g.a,g.b)):
  Calls prog 212 #[(m,e,n),.func (.func 164) #[] #[.pointer c]] b (kG (.int .i64<|-1) b):=by
 have x:=Gd;unfold mq at x;have y:=p.len;have z:=y.1;have A:=p;have B:=t;have C:=u;have D:=v;have E:=w
 go_enter func212,ntmps212
 go_wp2;go_loopw [8] (λk wr=>∃d:Nat,d<=e/\k=d/\Below b b wr) (λk _=>e-(intOf k).toNat)
 .exact⟨0,QZ _,Z,Sf _ _⟩
 obtain⟨d,S,rfl,f⟩:=hrel;have F:=f.size;have G:=((Cb c 0<|f.B c q).T C)
 have I:=((Cb c 1<|f.B c q).T D)
 by_cases T:d<e
 .obtain⟨a,r⟩:∃a,j[d]?=some a:=Gx<|W z;obtain⟨U,V,J,rfl,aa,K,L⟩:=(A.kv nT.ok λi M=>f.B i<|B i M).ll nT.ok d a r;have N:J=[tx a.a,tx a.b,.int .i64 a.tF]:=K;subst N;have O:=L 0 _ Z;rw[Q1]at O;have P:=(Kk a g c wr G I Y<|E a<|QS r)
  go_wp2_with (apply P.M;rintro ab ac ⟨rfl,s⟩;have Q:=(f.T<|s.M F);clear s);go_roundw
  .exact⟨d+1,Y,Ur,Q⟩
  simp[intOf];omega
 obtain rfl:e=d:=Y;go_wp2;go_ret;exact⟨Z,f⟩
def ya(e:Nat->Prop)(a:RW)(f:RE)(d g:Nat)(i:List Lk)(b:Lk)(c:Nat)(l:kz nT e a (f,d,g) i)(m:d<=1000)(n:∀j,e j->j<a)(p:a.cell? c=some (tx b.a))(q:a.cell? (sd c)=some (tx b.b))(r:c<a)(s:∀k∈i,(k.a,k.b)≠(b.a,b.b)):
  Calls prog 165 #[(f,d,g),.func (.func 164) #[] #[.pointer c]] a (kG (.bool false) a):=by
 have t:=(Ct e a f d g i b c l m n p q r s)
 go_enter func165,ntmps165
 go_wp21;apply t.M;rintro v w ⟨rfl,u⟩;go_wp21;go_ret;exact⟨Z,u⟩
structure lH.OC(JH:List Lk)(kH:List Co):Prop where
 len:JH.length<=90
 each:∀k x,JH[k]?=some x->x.a.length=1/\x.b.length=1/\(∃c,(kH.find? λy=>y.name==x.a)=some c)/\(∃c,(kH.find? λy=>y.name==x.b)=some c)/\∀y∈JH.take k,(y.a,y.b)≠(x.a,x.b)
def nP.t{n:Nat}{c:List Lk}{a:List Co}(e:nP n (n*n) c)(m:c.length<=90)(r:n<=3)(s:a.length=n)(p:∀(i:Nat) (b:Co),a[i]?=some b->b.name=kX i):OC c a:=by
 have f:∀i,i<n->∃b,(a.find? λd=>d.name==kX i)=some b:=λi t=>⟨_,H2 Y p<|Q6 Y⟩
 refine⟨m,λu d g=>?_⟩;have⟨v,w,j,k,l,_⟩:=e.1 d<|QS g;have q:0<n:=by rcases Sr n with h|h;rw[h]at j;omega;exact h
 exact⟨by rw[k];rfl,by rw[l];rfl,k▸f _ (T7 j),l▸f _ (Tu _ q),NN e g⟩
def lH.Km{b e f:Nat}{c}{l:Nat}{g}(m:rF l g)(n:1<=b)(p:b<=3)(q:e<=1)(k:(nw b e)[f]?=some c):(((nw b e).take f).find? λi=>i.name==c.name)=none/\pC g c.name=false/\c.name.length=2:=by
 have r:=(List.getElem?_eq_some_iff.1 k).1;rw[rM]at r;have a:=List.all_eq_true.1 (IA b e n p q) f<|List.mem_range.2 Y;rw[k]at a;simp only[Bool.and_eq_true,Option.isNone_iff_eq_none,beq_iff_eq,bne_iff_ne]at a;refine⟨a.1.1,?_,a.2⟩;cases d:pC g c.name with
 |false=>rfl
 |true=>unfold pC at d;rw[List.any_eq_true]at d;have⟨i,s,j⟩:=d;have⟨t,d⟩:=List.getElem?_of_mem s;rw[m.2 t i d]at j;rw[beq_iff_eq]at j;rw[<-j]at a;exact absurd Z a.1.2
def lH.NP{k f b}(r:f.length<=3)(g:tv k f b){c:Nat}{d}(l:b[c]?=some d):((([b.take c]:List<|List Hd).flatten).find? λe=>e.name==d.name)=none:=by
 rw[List.find?_eq_none];intro e i j;rw[List.flatten_cons,List.flatten_nil,List.append_nil]at i;have⟨m,a⟩:=List.getElem?_of_mem i;rw[List.getElem?_take]at a;split at a;case isFalse=>simp at a
 case isTrue s=>have⟨t,u,n,_⟩:=g m e a;have⟨v,p,q,_⟩:=g c d l;have w:=(List.getElem?_eq_some_iff.1 p).1;rw[n,q,beq_iff_eq]at j;have:=H3 Y Y j;omega
def lH.Kn{m:Sc}{f:List Nat}{d:List<|List Hd}(C:f.length<=3)(g:∀a∈d,tv m f a){a:List Hd}{i n:Nat}{c e:Hd}(p:a∈d)(q:a[i]?=some c)(j:((d.take n).flatten.find? λr=>r.name==c.name)=some e):e.params.length=c.params.length:=by have⟨s,t,u⟩:=List.mem_flatten.1<|List.mem_of_find?_eq_some j;have k:=List.find?_some j;have⟨v,w⟩:=List.getElem?_of_mem u;have⟨D,l,x,y,_⟩:=g s (List.mem_of_mem_take t) v e w;have⟨E,b,z,A,_⟩:=g a p i c q;have F:=(List.getElem?_eq_some_iff.1 l).1;have G:=(List.getElem?_eq_some_iff.1 b).1;rw[x,z,beq_iff_eq]at k;have B:=H3 Y Y k;subst B;rw[l]at b;injection b with b;rw[y,A,b]
def Hs.of{f:List Co}{q:Nat}{d:List<|List Nat}(k:Sc)(r:k.nZ=d)(l:∀(i:Nat) (b:Co),f[i]?=some b->yr q d i b)(s:d.length=f.length)(m:∀a∈d,1<=a.length/\a.length<=3/\∀g∈a,g<=2):Hs k f:=by subst r;refine⟨λi b c=>?_,s.symm,λa j=>(m a j).2.2,λi b t u n=>?_⟩;have⟨_,_,_,_,_,_,c,_⟩:=(l i b c).ex;exact c;have⟨E,F,G,_,_,_,_,_,I,J,e,p,v⟩:=(l i b u).ex;rw[n]at e;injection e with e;subst e;have w:=(m t<|QS n).2.1;refine⟨w,λx y z c A=>?_,v,Y,λa j=>W<|(p a j).2.1⟩;have⟨g,B,C,D,_⟩:=(p x y).2.2 z c A;exact⟨g,B,C,D⟩
def Ko(b:RK)(c d e)(q:d.oneCell'=true)(r:e.oneCell'=true)(g)(i j:Nat)(k)(l m:Nat)(n:d=.slice g i j)(p:e=.slice k l m)(f:Nat)(a)(s:a.cell? (sd f)=some (tx c))(t:f<a.heap.size):
  Calls prog 233 #[.agg #[tx b,d,e],.pointer f] a (kG (.bool<|b==c) a):=by
 subst n p;have u:=nE b;have v:=nE c
 go_enter func233,ntmps233
 go_wp2;go_ret;exact⟨Z,Ba _ _⟩
def Cu(u c v)(e w:Nat)(n j)(g:Nat)(x:kz (mr .u8) u c (.slice v e w) n)(ai:e<=1000)(K:∀q,u q->q<c)(L:c.cell? (sd g)=some (tx j))(M:g<c)(N:∃a∈n,a.name=j):
  Calls prog 232 #[.slice v e w,.func (.func 233) #[] #[.pointer g]] c λf O=>∃r:Nat,r<e/\f=.returned (.int .i64 (r:Int))/\Below c c O:=by
 have P:=Gf;unfold mq at P;have Q:=x.len;have y:=Q.1;have R:=x;have S:=K;have T:=L;have U:=N
 go_enter func232,ntmps232
 go_wp2;go_loopw [8] (λs wr=>∃b:Nat,b<=e/\s=b/\(∀d a,d<b->n[d]?=some a->a.name≠j)/\Below c c wr) (λs _=>e-(intOf s).toNat)
 .exact⟨0,QZ _,Z,λd a p=>Y,Sf _ _⟩
 obtain⟨b,aj,rfl,z,k⟩:=hrel;have A:=k.size;have V:=((Cb g 1<|k.B g M).T T)
 by_cases aa:b<e
 .obtain⟨a,B⟩:∃a,n[b]?=some a:=Gx<|W y;obtain⟨ak,al,r,rfl,am,ab,ac⟩:=(R.kv (mr.ok _) λq i=>k.B q<|S q i).ll (mr.ok _) b a B;obtain⟨C,D,E,F,G,I,rfl,_,_⟩:=ab.rj;have ad:=ac 0 _ Z;rw[Q1]at ad;have J:=(Ko a.name j (C,D,E) (F,G,I) Z Z C D E F G I Z Z g wr V Y)
  cases i:(a.name==j)
  .go_wp2_with (apply J.M;rw[i];rintro f ae ⟨rfl,l⟩;have t:=(k.T<|l.M A);clear l);go_roundw
   .refine⟨b+1,Y,Ur,λd af p m=>?_,t⟩;by_cases f:d=b;rw[f,B]at m;injection m with m;rw[<-m];intro ag;rw[ag]at i;simp at i;exact z d af Y m
   simp[intOf];omega
  go_wp2_with (apply J.M;rw[i];rintro f ae ⟨rfl,l⟩;have t:=(k.T<|l.M A);clear l);go_ret;exact⟨b,aa,Z,t⟩
 have⟨a,ah,f⟩:=U;have⟨d,p⟩:=S8 ah;exact absurd f<|z d a (Ul ((Q9.1 p).1) y) p
def lH.CZ.len{b}:∀{d:Nat} {l:List St},(∀a∈l,CZ b d a)->l.length<=kU d l
 |0,l,h=>by cases l with|nil=>simp|cons a l=>exact(h a<|List.mem_cons_self ..).elim
 |d+1,[],_=>by simp
 |d+1,a::l,h=>by have:=CZ.len (d:=d+1) (l:=l) λc e=>h c<|List.mem_cons_of_mem _ e;simp only[kU,List.map_cons,List.sum_cons,List.length_cons]at this⊢;omega
def pI.ok:lh pI 1:=
 ⟨Y,λ⟨b,a,_⟩=>by rw[a];rfl,λ⟨b,a,c⟩ g d=>by rw[a]at d;simp at d;subst d;exact c.one,λ⟨b,a,c⟩ e=>⟨b,a,c.M kM.ok e⟩,λ⟨b,a,c⟩ f=>⟨b,a,c.kv kM.ok f⟩⟩
def Ma(f:RW)(a:Nat)(g i j k l m n p q r:R0)(s:R0)(t:RW)(u:List In->Nat->Prop)(v:Ending)(b:RW):Prop:=∃c:Nat,v=.returned (.int .i64 (c:Int))/\∃d e,mB f a g i j k l m n p q r d e b/\nG a s t d b/\u e c
def DT(b:In)(i:Nat)(j:RW)(e:pG i b):
  Calls prog 217 #[.agg #[.int .u8 b.op,b.a,b.b,b.n]] j (Mb i j):=by
 have⟨_,_,f,g⟩:=e;have⟨a,c,d,p⟩:=b;simp only at f g⊢;by_cases k:a=27
 .subst k
  go_enter func217,ntmps217
  go_wp2;refine QY (v:=.tuple #[.int .i64 c,true]) ?_ rfl ⟨c,true,Z,Ba _ _,λ_=>f Uo⟩;simp[results,Tryz.results217,go_sem]
 by_cases l:a=28
 .subst l
  go_enter func217,ntmps217
  go_wp2;refine QY (v:=.tuple #[.int .i64 c,true]) ?_ rfl ⟨c,true,Z,Ba _ _,λ_=>f Uo⟩;simp[results,Tryz.results217,go_sem]
 by_cases m:a=32
 .subst m
  go_enter func217,ntmps217
  go_wp2;refine QY (v:=.tuple #[.int .i64 d,true]) ?_ rfl ⟨d,true,Z,Ba _ _,λ_=>g Uo⟩;simp[results,Tryz.results217,go_sem]
 by_cases n:a=33
 .subst n
  go_enter func217,ntmps217
  go_wp2;refine QY (v:=.tuple #[.int .i64 d,true]) ?_ rfl ⟨d,true,Z,Ba _ _,λ_=>g Uo⟩;simp[results,Tryz.results217,go_sem]
 have q:(a==27)=false:=by simpa using k
 have r:(a==28)=false:=by simpa using l
 have s:(a==32)=false:=by simpa using m
 have t:(a==33)=false:=by simpa using n
 go_enter func217,ntmps217
 go_wp2;refine QY (v:=.tuple #[.int .i64 0,false]) ?_ rfl ⟨0,false,Z,Ba _ _,λe=>by cases e⟩;simp[results,Tryz.results217,go_sem]
structure pH(w:RW):Prop where
 lt:7<w.heap.size
 ll:∀k:Nat,k<=34->∃(t u:Se) (p q:Int),w.cell? ⟨7,k*4,none⟩=some (.string t)/\w.cell? ⟨7,k*4+1,none⟩=some (.string u)/\w.cell? ⟨7,k*4+2,none⟩=some (.int .i64 p)/\w.cell? ⟨7,k*4+3,none⟩=some (.int .i64 q)
def pH.kv{w w'}(c:pH w)(b:w'.heap[(7:Nat)]?=w.heap[(7:Nat)]?)(d:w.heap.size<=w'.heap.size):pH w':=
 ⟨QO c.lt d,λa e=>by have⟨f,g,i,j,k,l,m,n⟩:=c.ll a e;exact⟨f,g,i,j,(Cb 7 (a*4) b).T k,(Cb 7 (a*4+1) b).T l,(Cb 7 (a*4+2) b).T m,(Cb 7 (a*4+3) b).T n⟩⟩
def Kr(a:Nat)(i:a<=34)(b)(c:pH b):
  Calls prog 216 #[.int .u8 (a:Int)] b (Kq b):=by
 have⟨d,e,f,g,j,k,l,m⟩:=c.ll a i;have n:=c.lt
 go_enter func216,ntmps216
 go_wp2;refine QY (v:=.agg #[.string d,.string e,f,g]) ?_ rfl ⟨d,e,f,g,Z,?_⟩
 .simp[results,Tryz.results216,go_sem]
 .exact Ba _ _
structure rZ(hb hh n:Nat)(w:RW):Prop where
 var:w.heap[hb]?=some (.cells #[(hh,n,n)] 83)
 row:∃l:List Int,l.length=n/\w.heap[hh]?=some (.cells (pZ l) 3 (0,0))
 ne:hb≠hh
def Mc(c a d:Nat)(e:RW)(f:Ending)(b:RW):Prop:=∃g:Bool,f=.returned (.bool g)/\rZ c a d b/\e.grownBy b (some a)
def IC:(prog.info? 3).map (λa=>(a.zero,a.size,a.bytes))=some (some<|.int .i64 0,1,8):=Up
def Gk(a:Nat)(i:a<=100001)(b):(Instr.makeSlice 83 (.int .i64 (a:Int))<|.int .i64 (a:Int)).run prog b=.ok (.slice b a a) (b.alloc<|.cells (pZ<|List.replicate a 0) 3):=by have⟨d,e,f,c,g⟩:=Rj IC;have:=Ss (P:=prog) b 83 3 d (.int .i64 0) underlying83 e f .i64 .i64 (a:Int) (a:Int) Y (SE _) (by rw[c];simp;omega) (by rw[g];omega) Y;rw[c,Ry,RR]at this;rw[this,<-Gj];rfl
def rZ.ku{b c n:Nat}{w w'}(a:rZ b c n w)(d:Below w w w'):rZ b c n w':=by have⟨f,g,e⟩:=a.row;exact⟨(d.B _ (QP.1 a.var).1).T a.var,⟨f,g,(d.B _ (QP.1 e).1).T e⟩,a.ne⟩
def ov.kv{S w w' v}(a:ov S w v)(b:∀q,S q->w'.heap[q]?=w.heap[q]?):ov S w' v:=by have⟨c,d,e,f,g,i,j⟩:=a;exact⟨c,d,e,f,g,i.kv kM.ok b,j⟩
def Me(c:RW)(a d:Nat)(e f g i j k l m n:R0)(p:Ending)(b:RW):Prop:=
 ∃(q:Int) (r:RE) (s t:Nat),p=.returned (.agg #[.int .i64 (d:Int),q,(r,s,t)])/\c.grownBy b (some a)/\∃u v:R0,b.heap[a]?=some (.cells #[e,f,g,i,j,k,l,m,n,u,v] 164)
def yt.ok(k:Nat)(b:0<k):lh (yt k) k:=⟨b,λa=>a.1,λa=>a.2,λa _=>a,λa _=>a⟩
def nM.lt{T w}{b n:Nat}(a:nM T w b n):b<w:=by have⟨d,c,_⟩:=a;exact(QP.1 c).1
def BI:(prog.info? 230).map (λa=>(a.zero,a.size,a.bytes))=some (some<|.agg #[.int .i64 0,.int .i64 0,Nl],3,40):=Up
def BJ:(prog.info? 4).map (λa=>(a.zero,a.size,a.bytes))=some (some<|.bool false,1,1):=Up
def Mf:(prog.info? 227).map (λi=>(i.zero,i.size,i.bytes))=some (some Nl,1,24):=Up
def Mg:(prog.info? 228).map (λi=>(i.zero,i.size,i.bytes))=some (some Nl,1,24):=Up
def DV(a:Nat)(g:a<=1000)(w):(Instr.makeSlice 227 (.int .i64 (a:Int))<|.int .i64 (a:Int)).run prog w=.ok (.slice w a a) (w.alloc<|.cells (madeCells #[.int .i64 0,.int .i64 0,Nl]<|a*3) 230):=by have⟨c,d,e,b,f⟩:=Rj BI;have:=Ss (P:=prog) w 227 230 c _ underlying227 d e .i64 .i64 (a:Int) (a:Int) Y (SE _) (by rw[b];simp;omega) (by rw[f];omega) Y;rw[b,RR]at this;exact this
def DW(a:Nat)(g:a<=1000)(w):(Instr.makeSlice 228 (.int .i64 (a:Int))<|.int .i64 (a:Int)).run prog w=.ok (.slice w a a) (w.alloc<|.cells (madeCells #[false] a) 4):=by have⟨c,d,e,b,f⟩:=Rj BJ;have:=Ss (P:=prog) w 228 4 c _ underlying228 d e .i64 .i64 (a:Int) (a:Int) Y (SE _) (by rw[b];simp;omega) (by rw[f];omega) Y;rw[b,Ry,RR]at this;exact this
def rk:lh (yt 1) 1:=yt.ok 1 Y
def px.up{T a b c}{n m:Nat}(d:px T a b c n)(e:n<=m):px T a b c m:=by have⟨f,g,i⟩:=d;exact⟨f,g,QT i e⟩
def Ks:(prog.info? 172).map (λa=>(a.zero,a.size,a.bytes))=some (some<|.agg #[Nl,Nl,Nl],3,72):=Up
def Mj:(prog.info? 76).map (λa=>(a.zero,a.size,a.bytes))=some (some Nl,1,24):=Up
def zn:∀{xs ys:List Int} {k:Nat},k<=xs.length->xs.take k=ys.take k->cmpL xs ys=cmpL (xs.drop k) (ys.drop k)
 |xs,ys,0,_,_=>by simp
 |[],_,k+1,h,_=>by simp at h
 |x::xs,[],k+1,_,h=>by simp at h
 |x::xs,y::ys,k+1,h,a=>by simp only[Sw,Sn]at a;obtain⟨rfl,a⟩:=a;rw[show cmpL (x::xs) (x::ys)=cmpL xs ys from by rw[cmpL,RB<|rB.2 Z]];exact zn (by simpa using h) a
def kI.oF(a:Se)(b:Nat):Nat×Nat:=ox<|a.data.toList.drop b
def kI.rI(b:Se)(a:Nat):Nat:=a+(oF b a).2+qU b (a+(oF b a).2)
def L.yK:Array R0:=(kI.syms.map FM).toArray
def L.rW(a:RK):R0:=.tuple #[.int .u8 ((kI.ox a).1:Nat),.int .i64 ((kI.ox a).2:Nat)]
