import Derived.Test.YtppncjcpdbhobaaGreatDoorZ5
import Derived.Test.YtppncjcpdbhobaaGreatDoorZ6
import Derived.Test.YtppncjcpdbhobaaGreatDoorZ7
import Derived.Test.YtppncjcpdbhobaaGreatDoorZ8
set_option maxRecDepth 1000000
set_option maxHeartbeats 32000000
set_option linter.all false
namespace Go.Proofs.YtppncjcpdbhobaaGreatDoor
open RowKit Go.Proofs.Tryz lI Maps oZ qQ ChangeShapes WideShapes ChangeAt
def xv(aH:Nat)(bK:∀N,aH=N+1->LN N):LN aH:=by
 intro an w dR aA dS ao h dT bL bM;have⟨cz,aI,aJ,aK,aL⟩:=Rm Kl;have aV:=Ft aI aJ aK aL;clear aI aJ aK aL;have⟨cA,aI,aJ,aK,aL⟩:=Rm Fb;have aW:=Ft aI aJ aK aL;clear aI aJ aK aL;have bN:=h.len;have bO:=bN.1;have cB:=h;have aX:=X bM;have cC:=X bL;have aM:=X bO;have dU:aA<=12:=Y
 clear h bM bL bN bO
 go_enter func25,ntmps25
 go_wp21;go_loopw [3,11] (λcD ap wr=>∃(r:Nat) (E:Option Addr) (F:Nat),r<=aA/\ap=r/\cD=.slice E r F/\kJ (kR .u8 aH) 175 6 (λa=>w<=a) wr w (E,r,F) (ao.take r)/\Below w w wr) (λ_ ap _=>aA-(intOf ap).toNat)
 .exact⟨0,none,0,Q1 _,Z,Z,kJ.nil _ _ _ _ _ _,Below.refl _ _⟩
 obtain⟨r,bk,bl,aB,rfl,rfl,bm,bn⟩:=hrel;have dV:=bn.size;have bo:=bn;have bp:=bm;have aN:=X<|show(ao.take r).length=r/\r<=12 from⟨by rw[Ro];have:=aM.o;omega,Y⟩;by_cases dW:r<aA
 .obtain⟨ad,aY⟩:∃ad,ao[r]?=some ad:=Gx<|W aM.o;obtain⟨bP,dX,cE,rfl,cF,l,A⟩:=(cB.ku (kR.ok .i64 aH) λa b=>bo.B a<|aX.o a b).ll (kR.ok .i64 aH) r ad aY;obtain⟨N,dY,cG,dZ,rfl,rfl,bQ,bR,bS⟩:=l.open;obtain⟨aq,ar,rfl,cH⟩:=bQ.form;obtain⟨ag,ah,rfl,cI⟩:=bR.form;obtain⟨ai,aj,rfl,bT⟩:=bS.form;have af:=A 0 _ Z;have au:=A 1 _ Z;have av:=A 2 _ Z;have ak:=A 3 _ Z;have aZ:=A 4 _ Z;have ba:=A 5 _ Z;rw[Q3]at af;have bn:bP<wr:=W<|aX.o bP cF;have cJ:=cC.o ad<|QV aY;have⟨ea,eb,cK,cL,cM,bU,bV,bW⟩:=cJ;have aO:=EV bU bV bW;have aC:=EV bQ bR bS;have cN:=X (show ao.take (r+1)=ao.take r++[ad]from by rw[RB,aY];rfl);obtain⟨ec,ed⟩:=nL r aA;clear A aY bU bV bW;have⟨m,s,t,O,aw,ax⟩:=ad;simp only[St.kind,St.name,St.hd,St.lp,St.th,St.el]at*;have ee:IntKind.u8.wrap m=m:=Uu;have⟨Q,bq⟩:=Xq O.length;have⟨n,br⟩:=Xq aw.length;have⟨p,bs⟩:=Xq ax.length;rw[<-bq]at ak cH cK aC;rw[<-br]at aZ cI cL aC;rw[<-bs]at ba bT cM aC;have ay:=EV bq br bs;clear bq br bs;go_wp21;have R:=QX wr (.cells (qv m s t aq Q ar ag n ah ai p aj) 171) none;have cO:=(bo.alloc Y<|.cells (qv m s t aq Q ar ag n ah ai p aj) 171)
  have bX:=X bp.ge;have az:=X<|QT wr<|.cells (qv m s t aq Q ar ag n ah ai p aj) 171;have bb:∀a,an a->(wr.alloc<|.cells (qv m s t aq Q ar ag n ah ai p aj) 171).heap[a]?=wr.heap[a]?:=λa b=>R.B a (W<|aX.o a b) Us;have bt:=EV (aC.o.1.ku (kP.ok .i64 _) bb) (aC.o.2.1.ku (kR.ok .i64 _) bb)<|aC.o.2.2.ku (kR.ok .i64 _) bb;have⟨B,bY⟩:=Xq wr.heap.size;rw[<-bY]at az⊢;have aD:B<(wr.alloc<|.cells (qv m s t aq Q ar ag n ah ai p aj) 171).heap.size:=(by rw[QU];omega);have aa:=X (show∀a,an a->a<(wr.alloc<|.cells (qv m s t aq Q ar ag n ah ai p aj) 171).heap.size/\a<B from λa b=>by have:=aX.o a b;rw[QU];omega);have cP:=(bp.tight<|kR.ok .u8 _)
  have cQ:=(cP.grown (kR.ok .u8 _) R λaP d=>by cases d)
  generalize wr.alloc (.cells (qv m s t aq Q ar ag n ah ai p aj) 171)=q at*;have ef:wr<=B:=Y;clear bY af au av ak aZ ba bb;refine sM (λad=>Below q q ad) (λbc y w=>∃(o:Nat) (f:Option Addr) (i:Nat) (j:Option Addr) (k:Nat),bc 14=.pointer o/\Below q q w/\Nw q w o/\w.heap[o]?=some (.cells #[.int .u8 m,tx s,tx t,Nl,(f,n,i),(j,p,k)] 175)/\kz (kR .u8 N) (λa=>Nw q w a/\a≠o) w (f,n,i) aw/\kz (kR .u8 N) (λa=>Nw q w a/\a≠o) w (j,p,k) ax) (mU [(·=.pointer B),(·=m),(·=.int .u8 m),(Pp B 1),(·=tx s),(Pp B 2),(·=tx t),(Pp B 4),(·=.slice ag n ah),Tr,(Pp B 5),(·=.slice ai p aj),Tr,Tr,Tr,Tr]) [(9,λy w=>∃(f:Option Addr),∃(i:Nat),y=.slice f n i/\kz (kR .u8 N) (wa oi w<|Nw q w) w (f,n,i) aw),(12,λy w=>∃(j:Option Addr),∃(k:Nat),y=.slice j p k/\kz (kR .u8 N) (wa oi w<|Nw q w) w (j,p,k) ax),(13,λy w=>∃(f:Option Addr),∃(i:Nat),∃(j:Option Addr),∃(k:Nat),y=.agg #[.int .u8 m,tx s,tx t,Nl,(f,n,i),(j,p,k)]/\(kz (kR .u8 N) (wa oi w<|Nw q w) w (f,n,i) aw)/\kz (kR .u8 N) (wa oi w<|Nw q w) w (j,p,k) ax),(14,λy w=>∃(o:Nat),y=.pointer o/\Nw q w o/\w.heap[o]?=some oi)] Ut Ut Ut Ur 50 Z Ut ((Below.refl _ _).drew) ⟨?_,?_,?_,?_,?_,?_,?_,?_,?_,?_,?_,?_,?_,?_,?_,?_,trivial⟩ ?_;exact Pf 5;exact Pl 15 0 λ_ c=>kB ((c.B B aD).T az.o) 0 _ Z;intro S w c ab u z ae;have eg:=Sv 16 u 1;exact .q (g:=⟨Z,c,Qa⟩);exact Pf 5;exact Pl 18 3 λ_ c=>kB ((c.B B aD).T az.o) 1 _ Z;exact Pf 5;exact Pl 20 5 λ_ c=>kB ((c.B B aD).T az.o) 2 _ Z;exact Pf 5;exact Pl 22 7 λ_ c=>kB ((c.B B aD).T az.o) 4 _ Z;intro S w c ab u z ae;have eh:=Sv 23 u 8;have L:=c.size;refine .c (bK N Z an w _ n _ aw (bt.o.2.1.ku (kR.ok .i64 _) λa b=>c.B a (aa.o a b).1) (W ay.o.2.1) aO.o.2.1 λa b=>QR (aa.o a b).1 L) ?_;rintro d w' ⟨f,i,rfl,l,b⟩;rw[<-ay.o.2.1]at l⊢;exact⟨_,Z,⟨trivial,c.T<|b.M c.size,Qc ⟨f,i,Z,kz.J4 Fc aO.o.2.1<|wO (kR.ok .u8 _) L l⟩<|Qd (λG ⟨j,k,d,l⟩=>⟨j,k,d,wa.ku (NK.kv (w0:=q) b) (kR.ok .u8 _) l⟩)<|Qb<|Qd (λG ⟨o,d,ac,aB⟩=>⟨o,d,⟨ac.1,QR ac.2 ((NK.kv (w0:=q) b)).1⟩,(((NK.kv (w0:=q) b)).2 o ac).T aB⟩)<|Qe⟩⟩;exact Pf 5;exact Pl 25 10 λ_ c=>kB ((c.B B aD).T az.o) 5 _ Z;intro S w c ab u z ae;have ei:=Sv 26 u 11;have L:=c.size;refine .c (bK N Z an w _ p _ ax (bt.o.2.2.ku (kR.ok .i64 _) λa b=>c.B a (aa.o a b).1) (W ay.o.2.2) aO.o.2.2 λa b=>QR (aa.o a b).1 L) ?_;rintro d w' ⟨j,k,rfl,l,b⟩;rw[<-ay.o.2.2]at l⊢;exact⟨_,Z,⟨trivial,c.T<|b.M c.size,Qd (λG ⟨f,i,d,l⟩=>⟨f,i,d,wa.ku (NK.kv (w0:=q) b) (kR.ok .u8 _) l⟩)<|Qc ⟨j,k,Z,kz.J4 Fc aO.o.2.2<|wO (kR.ok .u8 _) L l⟩<|Qb<|Qd (λG ⟨o,d,ac,aB⟩=>⟨o,d,⟨ac.1,QR ac.2 ((NK.kv (w0:=q) b)).1⟩,(((NK.kv (w0:=q) b)).2 o ac).T aB⟩)<|Qe⟩⟩;intro S w c ab u z ae;have ej:=Sv 17 u 2;have ek:=Sv 19 u 4;have el:=Sv 21 u 6;obtain⟨f,i,cR,cS⟩:=lg z 0;have em:=Sl 24 cR;obtain⟨j,k,cT,cU⟩:=lg z 1;have en:=Sl 27 cT;exact .q (g:=⟨trivial,c,Q2<|Qc ⟨_,_,_,_,Z,cS,cU⟩<|Qa⟩);intro S w c ab u z ae;have L:=c.size;exact .q (g:=⟨trivial,c.alloc c.size _,Qd (λG ⟨f,i,d,l⟩=>⟨f,i,d,wa.ku (NK.alloc q w _) (kR.ok .u8 _) l⟩)<|Qd (λG ⟨j,k,d,l⟩=>⟨j,k,d,wa.ku (NK.alloc q w _) (kR.ok .u8 _) l⟩)<|Qd (λG ⟨f,i,j,k,d,l⟩=>⟨f,i,j,k,d,wa.ku (NK.alloc q w _) (kR.ok .u8 _) l.1,wa.ku (NK.alloc q w _) (kR.ok .u8 _) l.2⟩)<|Qc ⟨_,Z,⟨L,Us⟩,QT _ _⟩<|Qe⟩);intro S w c ab u z ae;obtain⟨o,bZ,C,bd⟩:=lg z 3;have eo:=Sl 6 bZ;obtain⟨f,i,j,k,cV,ca⟩:=lg z 2;have ep:=Sl 28 cV;have⟨⟨eq,er,es,et,eu,ev⟩,ew,cb,cc,ex,ey,ez⟩:=mf bd;refine .h λcd aQ=>?_;go_simp;exact aQ<|⟨o,f,i,j,k,bZ,kD (kD (kD (kD (kD (kD c C.1) C.1) C.1) C.1) C.1) C.1,⟨C.1,by simp only[QW];exact C.2⟩,kt<|kt<|kt<|kt<|kt<|kt bd,(wa.lU bd (kR.ok .u8 _) ca.1).M (kR.ok .u8 _) λa b=>⟨⟨b.1.1,by simp only[QW];exact b.1.2⟩,b.2⟩,(wa.lU bd (kR.ok .u8 _) ca.2).M (kR.ok .u8 _) λa b=>⟨⟨b.1.1,by simp only[QW];exact b.1.2⟩,b.2⟩⟩;intro bc M cW cX;have⟨o,f,i,j,k,aE,bu,ce,cf,cY,cZ⟩:=cX;replace aE:bc 14=.pointer o:=aE;simp only[nE,aE];clear cW aE;have eA:=bu.size;have eB:=ce.1;have da:=ce.2;have bv:=bu;have db:=X cf;have dc:=cY;have dd:=cZ;have de:=X<|(bu.B B aD).T az.o;have⟨⟨af,au,av,ak,aZ,ba⟩,_⟩:=mf de.o;have eC:B<M:=Y;clear cf;have df:=((cQ.kv (kR.ok .u8 _) bv))
  generalize wr=eD at*;go_wp21;go_loopw [32] (λap bw=>∃(e:Nat) (E:Option Addr) (F:Nat),e<=Q/\ap=e/\M.grownBy bw (some o)/\bw.heap[o]?=some (mx m s t E e F f n i j p k)/\kJ (kP .u8 De) 180 4 (λa=>M<=a) bw M (E,e,F) (O.take e)) (λap _=>Q-(intOf ap).toNat)
  .exact⟨0,none,0,Q1 _,Z,lC _ _,db.o,kJ.nil _ _ _ _ _ _⟩
  obtain⟨e,I,J,eE,rfl,cg,ch,bm⟩:=hrel;skip;have eF:=cg.size;have aF:=X cg;have bx:=X ch;have bz:=bm;have ci:=X aN.o;have aN:=X<|show(O.take e).length=e/\e<=3 from⟨by rw[Ro];have:=ay.o.1;omega,Y⟩;clear ch;by_cases eG:e<Q
  .obtain⟨D,be⟩:∃D,O[e]?=some D:=Gx<|W ay.o.1;have cj:∀a,an a->wr.heap[a]?=q.heap[a]?:=λa b=>(aF.o.B a (W<|(aa.o a b).1) (λd=>by injection d with d;have:=(aa.o a b).1;omega)).T<|bv.B a (aa.o a b).1;obtain⟨eH,eI,cE,rfl,eJ,l,A⟩:=(bt.o.1.ku (kP.ok .i64 De) cj).ll (kP.ok .i64 De) e D be;obtain⟨bf,y,bA,rfl,u⟩:=l.open;obtain⟨al,am,rfl,dg⟩:=u.form;have af:=A 0 _ Z;have au:=A 1 _ Z;have av:=A 2 _ Z;have ak:=A 3 _ Z;rw[Q3]at af;have C:=aO.o.1 D<|QV be;rw[bA]at C;have⟨dh,di,dj,ck⟩:=C;have cl:=Ft dh di dj ck;have cm:=u;have dk:=X bA;have dl:=X (show O.take (e+1)=O.take e++[D]from by rw[RB,be];rfl);obtain⟨eK,eL⟩:=nL e Q;clear A be cj ck bA;have⟨T,C⟩:=Xq D.op;have⟨U,bB⟩:=Xq D.n;have⟨V,bC⟩:=Xq D.name;have⟨K,bD⟩:=Xq D.args.length;rw[<-C]at af cl;rw[<-bC]at au;rw[<-bB]at av;rw[<-bD]at ak cm dg;have bg:=Ft C bB bC bD;clear C bB bC bD;go_wp21;have R:=QX wr (lE T V U al K am) none;have dm:=(nP.start (ky aF.o<|kK R _) ((R.B o Y Us).T bx.o) (bz.grown (kP.ok .u8 _) R λaP d=>by cases d) da)
   have cn:=X<|QT wr<|lE T V U al K am;have co:=X bz.ge;have dn:=(cm.ku (kP.ok .i64 bf) (w':=wr.alloc<|lE T V U al K am) λa b=>R.B a (W<|(aa.o a b).1) Us)
   have bh:=X<|show∀a,an a->a<(wr.alloc<|lE T V U al K am).heap.size/\a≠o/\some a≠(Value.slice I e J).ownBlock from λa b=>⟨by rw[QU];have:=(aa.o a b).1;omega,W<|(aa.o a b).1,λd=>Up ((co.o a d.symm).1)<|(aa.o a b).1⟩;have⟨aR,cp⟩:=Xq wr.heap.size;rw[<-cp]at cn⊢;have dp:aR<(wr.alloc<|lE T V U al K am).heap.size:=(by rw[QU];omega);have dq:aR≠o:=Y;have dr:some aR≠(Value.slice I e J).ownBlock:=λd=>W<|(co.o aR d.symm).2;generalize wr.alloc (lE T V U al K am)=aG at*;clear cp af au av ak;refine tE (λad=>nP (kP .u8 De) 180 4 (λa=>M<=a) M aG o #[.int .u8 m,tx s,tx t,(I,e,J),(f,n,i),(j,p,k)] 175 (I,e,J) (O.take e) ad) (λy w=>∃(E:Option Addr) (F:Nat),M.grownBy w (some o)/\w.heap[o]?=some (.cells #[.int .u8 m,tx s,tx t,(E,e+1,F),(f,n,i),(j,p,k)] 175)/\kJ (kP .u8 De) 180 4 (λa=>M<=a) w M (E,e+1,F) ((O.take e)++[D])) (mU [(Pp o 3),(·=.slice I e J),(·=.agg (mT T V U al K am)),Tr,Tr,Tr,(Pp o 3),Tr]) [(3,λy w=>∃(v:Option Addr),∃(x:Nat),y=.agg #[.int .u8 T,tx V,U,(v,K,x)]/\kz (kP .u8 bf) (Nw aG w) w (v,K,x) D.args),(4,λy w=>∃(v:Option Addr),∃(x:Nat),∃(a:Nat),y=.slice a 1 1/\Nw aG w a/\w.heap[a]?=some (mu T V U v K x)/\kz (kP .u8 bf) (Nw aG w) w (v,K,x) D.args),(5,λy w=>∃(v:Option Addr),∃(x:Nat),∃(E:Option Addr) (F:Nat),y=.slice E (e+1) F/\kJ (kP .u8 De) 180 4 (λa=>M<=a) w M y ((O.take e)++[D]))] (dm.drew<|kP.ok .u8 _) ⟨?_,?_,?_,?_,?_,?_,?_,?_,trivial⟩ ?_;exact Pf 6;exact Pl 36 0 λ_ c=>kr c.c 3;intro S w c ab u z ae;have eM:=Sl 8<|ab 8 Z;have⟨⟨af,au,av,ak⟩,_⟩:=kL<|(c.k aR dp dq dr).T cn.o;exact .q (g:=⟨Z,c,Qa⟩);intro S w c ab u z ae;have eN:=Sv 38 u 2;have L:=c.s;refine .c (yS bf an w T U V al K am D.args (dn.ku (kP.ok .i64 _) λa b=>c.k a (bh.o a b).1 (bh.o a b).2.1 (bh.o a b).2.2) cl.o λa b=>QR (bh.o a b).1 L) ?_;rintro d w' ⟨v,x,rfl,l,b⟩;rw[<-bg.o.2.2.2]at l⊢;exact⟨_,Z,⟨trivial,c.kv (kP.ok .u8 _) b,Qc ⟨v,x,Z,l.M (kP.ok .u8 _) λa b=>⟨Q8 L b.1,b.2⟩⟩<|Q2<|Qe⟩⟩;intro S w c ab u z ae;obtain⟨v,x,ds,dt⟩:=lg z 0;have eO:=Sl 39 ds;have L:=c.s;exact .q (g:=⟨trivial,c.alloc (kP.ok .u8 _) _,Qd (λG ⟨v,x,d,l⟩=>⟨v,x,d,oh (kP.ok .u8 _) (NK.alloc aG w _) l⟩)<|Qc ⟨_,_,_,Z,⟨L,Us⟩,QT _ _,oh (kP.ok .u8 _) (NK.alloc aG w _) dt⟩<|Qb<|Qe⟩);intro S w c ab u z ae;have du:=Sv 37 u 1;obtain⟨v,x,bE,dv,eP,dw,dx⟩:=lg z 1;have aE:=c.own;have L:=c.s;have dy:=c.ws;have dz:=c.v;have A:∀(e:Nat) (G:Value),(#[.int .u8 T,tx V,.int .i64 U,(v,K,x)]).toList[e]?=some G->w.cell? ((bE:Addr).add e)=some G:=λe G dA=>(by rw[lz,Re];exact kB dw e G<|by simpa using dA);have⟨bF,bG,w',cq,cr,dB,aS,aT⟩:=ld (P:=prog) (w:=w) M 173 173 180 cA _ 4 56 underlying173 aW.o.1 aW.o.2.1 aW.o.2.2.1 aW.o.2.2.2 Z (kP.ok .u8 _) (λa=>M<=a) ((.slice I e J)) ((O.take e)) aE ⟨bE,0,none⟩ (#[.int .u8 T,tx V,.int .i64 U,(v,K,x)]).toList D A (by rw[dk.o];exact⟨_,by rw[bg.o.1,bg.o.2.1,bg.o.2.2.1],(by exact dx.M (kP.ok .u8 _) λa b=>⟨Q8 dy b.1,b.2,λd=>Up ((dz a d.symm).2) b.1⟩)⟩) (by have:=aN.o;unfold maxLen;omega) (W aN.o) Y;have cb:S.eval (.tmp 37)=(.slice I e J):=(by simp[Act.eval,du]);have cc:S.eval (.tmp 40)=.slice bE 1 1:=dv;have bi:=aN.o.1;rw[bi]at cq cr aT;clear A;refine .h λcd aQ=>?_;simp only[execOp,resolve,invoke,builtin,RL,RN,Rt,Rz,Rx,RO,cb,cc,cq];exact aQ ⟨trivial,c.app aS dB,Qd (λG ⟨v,x,d,l⟩=>⟨v,x,d,oh (kP.ok .u8 _) (c.ng aS) l⟩)<|Qd (λG ⟨v,x,a,d,ac,aB,l⟩=>⟨v,x,a,d,⟨ac.1,QR ac.2 ((c.ng aS)).1⟩,(((c.ng aS)).2 a ac).T aB,oh (kP.ok .u8 _) (c.ng aS) l⟩)<|Qc ⟨v,x,bF,bG,Z,cr⟩<|Qe⟩;exact Pf 6;intro S w c ab u z ae;have eQ:=Sv 42 u 6;obtain⟨v,x,E,F,cs,bH⟩:=lg z 2;have eR:=Sl 41 cs;have bx:=X c.c;have bI:=c.c;have eS:=kx bI 3;have bT:=kr bI 3;clear bI;refine .h λcd aQ=>?_;go_simp;exact aQ<|⟨E,F,c.set (kP.ok .u8 _) (λ_ h=>h) (by have ct:=bH;rw[cs]at ct;exact ct) 3 _ Z⟩;intro bc eT dC dD;have⟨E,F,dE,cu,cv⟩:=dD;rw[<-dl.o]at cv;have bJ:=EV dE cu cv;clear dC cu;simp only[nE];go_wp21;go_roundw
   .exact⟨e+1,E,F,Y,Uv,bJ.o.1,bJ.o.2.1,bJ.o.2.2⟩
   simp[intOf];omega
  obtain rfl:e=Q:=Y;have⟨⟨af,au,av,ak,aZ,ba⟩,_⟩:=mf bx.o;have aU:=bX.o;have R:=QX wr (mx m s t I e J f n i j p k) none;have cw:=bz.sl<|kP.ok .u8 _;rw[Rh<|W ay.o.1]at cw;have dF:=dc.ku (kR.ok .u8 _) (w':=wr) (λa b=>aF.o.B a b.1.2 λd=>b.2<|by injection d);have dG:=dd.ku (kR.ok .u8 _) (w':=wr) (λa b=>aF.o.B a b.1.2 λd=>b.2<|by injection d);have dH:kR .u8 (N+1) (λa=>w<=a/\a<(wr.alloc<|mx m s t I e J f n i j p k).heap.size/\some a≠(Value.slice bk r bl).ownBlock) (wr.alloc<|mx m s t I e J f n i j p k) [.int .u8 m,tx s,tx t,(I,e,J),(f,n,i),(j,p,k)] ⟨m,s,t,O,aw,ax⟩:=
   ⟨_,_,_,Z,(cw.ku (kP.ok .u8 _) λa b=>R.B a b.2 Us).M (kP.ok .u8 _) λa b=>⟨by rcases b.1 with h|h<;>omega,by rw[QU];have:=b.2;omega,λd=>by have:=(aU a d.symm).2;rcases b.1 with h|h<;>omega⟩,
    (dF.ku (kR.ok .u8 _) λa b=>R.B a (W b.1.2) Us).M (kR.ok .u8 _) (λa b=>⟨W b.1.1,by rw[QU];have:=b.1.2;omega,λd=>Up ((aU a d.symm).2) b.1.1⟩),
    (dG.ku (kR.ok .u8 _) λa b=>R.B a (W b.1.2) Us).M (kR.ok .u8 _) (λa b=>⟨W b.1.1,by rw[QU];have:=b.1.2;omega,λd=>Up ((aU a d.symm).2) b.1.1⟩)⟩
  have bH:=((df.grown (kR.ok .u8 _) aF.o λaP d=>by injection d with d;subst d;exact⟨λh=>W h.2,λdI=>W<|(aU _ dI.symm).2⟩).weaken (kR.ok .u8 _) (P':=λa=>w<=a) λa b=>b.1).grown (kR.ok .u8 _) R (λaP d=>by cases d);have dJ:=(nO (cO.T<|bv.M Y) aF.o Y).alloc Y<|mx m s t I e J f n i j p k;have dK:=dH;have dL:=bH;have dM:=dJ;have dN:=X<|mD wr [.int .u8 m,tx s,tx t,(I,e,J),(f,n,i),(j,p,k)] 175;clear aU;go_wp2_with (at_builtin;refine kM Z _ _ 108 Z w.heap.size 175 cz _ 6 112 underlying108 aV.o.1 aV.o.2.1 aV.o.2.2.1 aV.o.2.2.2 Z (kR.ok .u8 _) (λa=>w<=a) (bk,r,bl) (ao.take r) Z dL ⟨wr,0,none⟩ [.int .u8 m,tx s,tx t,(I,e,J),(f,n,i),(j,p,k)] ⟨m,s,t,O,aw,ax⟩ Z dN.o dK ?OD ?OE ?OG ?_);case OD=>have:=ci.o;unfold maxLen;omega
  case OE=>have:=ci.o;omega
  case OG=>first|omega|(simp;omega)
  intro cG eU bj dO aT;obtain⟨bF,bG,rfl,_,_⟩:=bj.form;rw[<-cN.o]at bj aT⊢;have bi:(ao.take<|r+1).length=r+1:=(by rw[Ro];have:=aM.o;omega);rw[bi]at bj aT⊢;have dP:=(dM.grown dO Uw λaP d=>(bX.o aP d).1)
  have dQ:=bj;clear aT bi;go_wp21;go_roundw
  .exact⟨r+1,bF,bG,Y,Uv,Z,dQ,dP⟩
  simp[intOf];omega
 obtain rfl:r=aA:=Y;go_wp21;go_ret;have cx:=bp.sl<|kR.ok .u8 _;rw[Rh<|W aM.o]at cx;have cy:=aM.o;refine⟨bk,bl,by rw[cy];rfl,?_,bo⟩;rw[cy];exact cx.M (kR.ok .u8 _) λa b=>⟨by rcases b.1 with h|h<;>exact h,b.2⟩
def yT:∀d,LN d
 |0=>xv 0 λa b=>by omega
 |d+1=>xv (d+1) λa b=>by obtain rfl:d=a:=Y;exact yT d
def DD(bh w)(O:List UInt8)(bA)(ag bB:Nat)(bC)(ah bD:Nat)(bE)(ai bF:Nat)(aS)(E:kz mH bh w (.slice bA ag bB) aS.kN)(z:kz nV bh w (.slice bC ah bD) aS.mj)(F:kz (mn .i64) bh w (.slice bE ai bF) aS.kF)(d:PS aS)(du:∀b,bh b->b<w):
  Calls prog 11 #[.agg<|mc O bA ag bB bC ah bD bE ai bF] w (Kt w O aS ag ah ai):=by
 have⟨ex,M,E,z,F⟩:=Rm Km;have cd:=(GO M<|GO E<|GO z F)
 clear M E z F;have⟨ey,M,E,z,F⟩:=Rm Kn;have ce:=(GO M<|GO E<|GO z F)
 clear M E z F;have⟨ez,M,E,z,F⟩:=Rm Ko;have cf:=(GO M<|GO E<|GO z F)
 clear M E z F;have⟨eA,M,E,z,F⟩:=Rm Kq;have cg:=(GO M<|GO E<|GO z F)
 clear M E z F;have⟨eB,M,E,z,F⟩:=Rm Kr;have ch:=(GO M<|GO E<|GO z F)
 clear M E z F;have⟨eC,M,E,z,F⟩:=Rm Ks;have ci:=(GO M<|GO E<|GO z F)
 clear M E z F;have⟨eD,M,E,z,F⟩:=Rm rI;have cj:=(GO M<|GO E<|GO z F)
 clear M E z F;obtain⟨bi,bj,bk,cF,cG,cH⟩:∃eE b ax,aS.kN=eE/\aS.mj=b/\aS.kF=ax:=⟨_,_,_,Z,Z,Z⟩
 have cI:=(GO cF<|GO cG cH)
 have dv:=d.kN;have dw:=d.mj;have ck:=d.kF;have cJ:=d.co;rw[cF]at E dv;rw[cG]at z dw;rw[cH]at F ck cJ;clear cF cG cH d;have cl:=X E.len.1;have cm:=X z.len.1;have cn:=X F.len.1;have gj:ag<=2:=by rw[<-E.len.1];exact dv
 have gk:ah<=9:=by rw[<-z.len.1];exact dw
 have gl:ai<=3:=by rw[<-F.len.1];exact ck
 have cK:=z.len.2;have eF:=E;have eG:=z;have eH:=F;have J:=X du;have eI:=cJ;clear du cJ
 go_enter func11,ntmps11
 go_wp21;have⟨bl,bm⟩:=Xq<|((w.alloc<|.cells (mc O bA ag bB bC ah bD bE ai bF) 36).alloc so).alloc<|.cells #[tx O,Nl,Nl,Nl] 52;rw[<-bm];have eJ:bl.heap.size=w+3:=by rw[bm];simp
 have cL:bl.heap[w.heap.size]?=some (.cells (mc O bA ag bB bC ah bD bE ai bF) 36):=by rw[bm];exact(Q9 _ _ Uw).T ((Q9 _ _ Us).T<|QT _ _)
 have cM:bl.heap[w.heap.size+1]?=some so:=by rw[bm];have:=QT (w.alloc<|.cells (mc O bA ag bB bC ah bD bE ai bF) 36) so;rw[QU]at this;exact(Q9 _ _ Us).T this
 have co:bl.heap[w.heap.size+1+1]?=some (.cells #[tx O,Nl,Nl,Nl] 52):=by rw[bm];have:=QT ((w.alloc<|.cells (mc O bA ag bB bC ah bD bE ai bF) 36).alloc so)<|.cells #[tx O,Nl,Nl,Nl] 52;rw[QU,QU]at this;exact this
 have ck:Below w w bl:=by rw[bm];exact((Ba _ _).alloc Us _).alloc Uw _
 clear bm;have⟨j,dx⟩:=Xq<|w.heap.size+1;have⟨o,dy⟩:=Xq<|j+1;have⟨bn,dz⟩:=Xq w.heap.size;rw[<-dx]at cM co⊢;rw[<-dy]at co⊢;rw[<-dz]at cL⊢;have gm:j<o:=Y
 have gn:bn<j:=Y
 have gp:w<=bn:=Y
 have aT:o<bl:=Y
 have bP:=X cM;have bQ:=X cL;have aU:=X co;have ay:=ck;clear cM cL co dx dy dz eJ;generalize bl=cN at*;go_loopw [24] (λi wr=>∃(a:Nat) (A:Option Addr) (B:Nat),a<=ag/\i=a/\KG cN o #[tx O,(A,a,B),Nl,Nl] 52 wr/\kJ mH 93 2 (λ_=>False) wr cN (A,a,B) (bi.take a)) (λi _=>ag-(intOf i).toNat)
 .exact⟨0,none,0,Q1 _,Z,KG.start aU.o,kJ.nil _ _ _ _ _ _⟩
 obtain⟨a,k,l,bo,rfl,I,R⟩:=hrel;have bR:=I.s;have bG:=I.lx;have f:=I;have S:=R;have al:=R.ge;have U:(bi.take a).length=a/\a<=2:=⟨by rw[Ro];have:=cl.o;omega,Y⟩
 by_cases aV:a<ag
 .obtain⟨c,y⟩:∃c,bi[a]?=some c:=Gx<|W cl.o;obtain⟨dA,dB,aW,rfl,dC,n,r⟩:=(eF.ku mH.ok λb d=>(f.blk (W<|J.o b d)<|W<|J.o b d).T<|ay.B b<|J.o b d).ll mH.ok a c y;have bS:aW=[tx c.name,.bool c.init]:=n;subst bS;have aa:=r 0 _ Z;have aX:=r 1 _ Z;rw[Q3]at aa;have ao:=X (show bi.take (a+1)=bi.take a++[c]from by rw[RB,y];rfl);obtain⟨dD,dE⟩:=nL a ag;clear r y;have⟨⟨bp,bq,br,cp⟩,bH,aY,az,bT⟩:=kL f.c;have aG:∀(N:Nat) (u:Value),([tx c.name,.bool c.init]:List Value)[N]?=some u->((wr.alloc<|.cells #[tx c.name,c.init] 65).alloc<|vl c.name c.init).cell? ((⟨wr+1,0,none⟩:Addr).add N)=some u:=(by have:=mD (wr.alloc<|.cells #[tx c.name,c.init] 65) [tx c.name,.bool c.init] 93;first|exact this|(simp only[QU]at this;exact this));go_wp2_with (at_builtin;refine kM Z _ _ 48 Z cN.heap.size 93 ex _ 2 24 underlying48 cd.1 cd.2.1 cd.2.2.1 cd.2.2.2 Z mH.ok (λ_=>False) (k,a,l) (bi.take a) Z (S.kv mH.ok<|(Ba _ _).alloc Us _) ⟨wr+1,0,none⟩ [tx c.name,.bool c.init] c Z aG Z ?Qq ?Qr ?Qs ?_);case Qq=>have:=U;unfold maxLen;omega
  case Qr=>have:=U;omega
  case Qs=>simp only[QU];omega
  intro bI cq G aH L;obtain⟨C,D,rfl,_,_⟩:=G.form;rw[<-ao.o]at G L⊢;have Q:(bi.take<|a+1).length=a+1:=(by rw[Ro];have:=cl.o;omega);rw[Q]at G L⊢;have ae:=((f.alloc<|.cells #[tx c.name,c.init] 65).alloc<|vl c.name c.init).grow aH λj e=>(al j e).1;have aI:=(ae.set 1 (C,a+1,D) (C':=#[tx O,(C,a+1,D),Nl,Nl]) Z)
  have aJ:=(G.Hu mH.ok (o:=o) (i:=1) (u:=.slice C (a+1) D) (λ_ s=>s.elim) aT)
  have⟨⟨cr,cs,ct,dF⟩,cu,cv,aA,dG⟩:=kL ae.c;clear L Q;go_wp21;go_roundw
  .exact⟨a+1,C,D,Y,Uv,aI,aJ⟩
  simp[intOf];omega
 obtain rfl:a=ag:=Y;have bJ:=(nO ay f.g Y)
 have aZ:=X<|(f.blk (b:=bn) Y Y).T bQ.o;have cO:=X<|(f.blk (b:=j) Y Y).T bP.o;have bU:=X f.c;have cP:=f.lx;have dH:=S.gt (o:=o) mH.ok (λ_ s=>s.elim) aT;rw[Rh<|W cl.o]at dH;have cQ:=dH;have⟨⟨dI,dJ,dK,eK⟩,_⟩:=kL aZ.o;have eL:bn<wr:=Y;generalize wr=cR at*;have ay:=bJ;have bQ:=aZ;have bP:=cO;have aU:=bU;have aT:=cP;have⟨ba,eM⟩:=Xq k;have⟨bb,eN⟩:=Xq l;have⟨bs,eO⟩:=Xq a;subst eM eN eO;clear aV;go_wp21;go_loopw [42] (λi wr=>∃(a:Nat) (A:Option Addr) (B:Nat),a<=ah/\i=a/\KG cR o #[tx O,(ba,bs,bb),(A,a,B),Nl] 52 wr/\kJ nV 94 3 (λ_=>False) wr cR (A,a,B) (bj.take a)) (λi _=>ah-(intOf i).toNat)
 .exact⟨0,none,0,Q1 _,Z,KG.start aU.o,kJ.nil _ _ _ _ _ _⟩
 obtain⟨a,k,l,bo,rfl,I,R⟩:=hrel;have bR:=I.s;have bG:=I.lx;have f:=I;have S:=R;have al:=R.ge;have U:(bj.take a).length=a/\a<=9:=⟨by rw[Ro];have:=cm.o;omega,Y⟩
 by_cases aV:a<ah
 .obtain⟨c,y⟩:∃c,bj[a]?=some c:=Gx<|W cm.o;obtain⟨dA,dB,aW,rfl,dC,n,r⟩:=(eG.ku nV.ok λb d=>(f.blk (W<|J.o b d)<|W<|J.o b d).T<|ay.B b<|J.o b d).ll nV.ok a c y;have bS:aW=[tx c.a,tx c.b,.int .i64 c.tF]:=n;subst bS;have aa:=r 0 _ Z;have aX:=r 1 _ Z;have bt:=r 2 _ Z;rw[Q3]at aa;have ao:=X (show bj.take (a+1)=bj.take a++[c]from by rw[RB,y];rfl);obtain⟨dD,dE⟩:=nL a ah;clear r y;have⟨⟨bp,bq,br,cp⟩,bH,aY,az,bT⟩:=kL f.c;have aG:∀(N:Nat) (u:Value),([tx c.a,tx c.b,.int .i64 c.tF]:List Value)[N]?=some u->((wr.alloc<|.cells #[tx c.a,tx c.b,c.tF] 67).alloc<|yW c.a c.b c.tF).cell? ((⟨wr+1,0,none⟩:Addr).add N)=some u:=(by have:=mD (wr.alloc<|.cells #[tx c.a,tx c.b,c.tF] 67) [tx c.a,tx c.b,c.tF] 94;first|exact this|(simp only[QU]at this;exact this));go_wp2_with (at_builtin;refine kM Z _ _ 49 Z cR.heap.size 94 ey _ 3 40 underlying49 ce.1 ce.2.1 ce.2.2.1 ce.2.2.2 Z nV.ok (λ_=>False) (k,a,l) (bj.take a) Z (S.kv nV.ok<|(Ba _ _).alloc Us _) ⟨wr+1,0,none⟩ [tx c.a,tx c.b,c.tF] c Z aG Z ?Qt ?Qu ?Qv ?_);case Qt=>have:=U;unfold maxLen;omega
  case Qu=>have:=U;omega
  case Qv=>simp only[QU];omega
  intro bI cq G aH L;obtain⟨C,D,rfl,_,_⟩:=G.form;rw[<-ao.o]at G L⊢;have Q:(bj.take<|a+1).length=a+1:=(by rw[Ro];have:=cm.o;omega);rw[Q]at G L⊢;have ae:=((f.alloc<|.cells #[tx c.a,tx c.b,c.tF] 67).alloc<|yW c.a c.b c.tF).grow aH λj e=>(al j e).1;have aI:=(ae.set 2 (C,a+1,D) (C':=#[tx O,(ba,bs,bb),(C,a+1,D),Nl]) Z)
  have aJ:=(G.Hu nV.ok (o:=o) (i:=2) (u:=.slice C (a+1) D) (λ_ s=>s.elim) aT)
  have⟨⟨cr,cs,ct,dF⟩,cu,cv,aA,dG⟩:=kL ae.c;clear L Q;go_wp21;go_roundw
  .exact⟨a+1,C,D,Y,Uv,aI,aJ⟩
  simp[intOf];omega
 obtain rfl:a=ah:=Y;have bJ:=(nO ay f.g Y)
 have aZ:=X<|(f.blk (b:=bn) Y Y).T bQ.o;have cO:=X<|(f.blk (b:=j) Y Y).T bP.o;have bU:=X f.c;have cP:=f.lx;have bV:=S.gt (o:=o) nV.ok (λ_ s=>s.elim) aT;rw[Rh<|W cm.o]at bV;have eP:=bV;have cS:=(f.sl mH.ok cQ)
 have⟨⟨dI,dJ,dK,eK⟩,_⟩:=kL aZ.o;have eL:bn<wr:=Y;generalize wr=aB at*;have ay:=bJ;have bQ:=aZ;have bP:=cO;have aU:=bU;have aT:=cP;have cQ:=cS;have⟨bK,eQ⟩:=Xq k;have⟨bL,bu⟩:=Xq l;have⟨bW,eR⟩:=Xq a;subst eQ bu eR;clear aV;go_wp21;go_loopw [62] (λi wr=>∃(a:Nat) (A:Option Addr) (B:Nat),a<=ai/\i=a/\KG aB o (mc O ba bs bb bK bW bL A a B) 52 wr/\kJ (mn .u8) 98 3 (λb=>aB<=b) wr aB (A,a,B) (bk.take a)) (λi _=>ai-(intOf i).toNat)
 .exact⟨0,none,0,Q1 _,Z,KG.start aU.o,kJ.nil _ _ _ _ _ _⟩
 obtain⟨a,k,l,bo,rfl,I,R⟩:=hrel;have bR:=I.s;have bG:=I.lx;have f:=I;have S:=R;have al:=R.ge;have U:(bk.take a).length=a/\a<=3:=⟨by rw[Ro];have:=cn.o;omega,Y⟩
 have aj:=(nO ay f.g Y)
 by_cases aV:a<ai
 .obtain⟨c,y⟩:∃c,bk[a]?=some c:=Gx<|W cn.o;obtain⟨dA,dB,aW,rfl,dC,⟨dL,bI,rfl,ap,bv⟩,r⟩:=(eH.ku (mn.ok .i64) λb d=>aj.B b<|J.o b d).ll (mn.ok .i64) a c y;have am:=eI c<|QV y;have⟨K,aq,ar⟩:=c;simp only at*;obtain⟨cT,cU,rfl,eS⟩:=ap.form;obtain⟨cV,cW,rfl,dM⟩:=bv.form;have aa:=r 0 _ Z;have aX:=r 1 _ Z;have bt:=r 2 _ Z;rw[Q3]at aa;have ao:=X (show bk.take (a+1)=bk.take a++[⟨K,aq,ar⟩]from by rw[RB,y];rfl);have⟨aK,cw⟩:=Xq aq.length;have⟨aL,cx⟩:=Xq ar.length;rw[<-cw]at ap aX eS;rw[<-cx]at bv bt dM;have gq:aK<=5:=(by rw[cw];exact am.vars);have gr:aL<=2:=(by rw[cx];exact am.lH);have dN:=am;have eT:=ap;have eU:=bv;have cy:=X cw.symm;have cz:=X cx.symm;obtain⟨dD,dE⟩:=nL a ai;clear r y cw cx;go_wp21;have⟨aM,bM⟩:=Xq<|(wr.alloc<|.cells (hR K cT aK cU cV aL cW) 74).alloc<|.cells #[tx K,Nl,Nl] 98;rw[<-bM];have eV:aM.heap.size=wr+2:=(by rw[bM];simp);have cX:aM.heap[wr.heap.size]?=some (.cells (hR K cT aK cU cV aL cW) 74):=(by rw[bM];exact(Q9 _ _ Us).T (QT _ _));have bN:aM.heap[wr.heap.size+1]?=some (.cells #[tx K,Nl,Nl] 98):=(by rw[bM];have:=QT (wr.alloc<|.cells (hR K cT aK cU cV aL cW) 74)<|.cells #[tx K,Nl,Nl] 98;rwa [QU]at this);have aN:wr.grownBy aM none:=(by rw[bM];exact ky (QX _ _ none)<|QX _ _ none);clear bM;have⟨bw,dO⟩:=Xq wr.heap.size;have⟨ax,dP⟩:=Xq<|bw+1;rw[<-dO]at bN cX⊢;rw[<-dP]at bN⊢;have gs:bw<ax:=Y;have bu:ax<aM:=Y;have gt:aB<=bw:=Y;have gu:w<=bw:=Y;have eW:=(f.grow aN λj e=>by cases e)
  have eX:=((S.tight<|mn.ok _).grown (mn.ok _) aN λj e=>by cases e)
  have bX:∀j,(Value.slice k a l).ownBlock=some j->aB<=j/\j<bw:=λj e=>W<|al j e;have gv:wr<=bw:=Y;have dQ:=U;have eY:=X ao.o;have ay:Below w w aM:=⟨aN.os.T aj.os,aN.tape.T aj.tape,aN.output.T aj.output,Up aj.size aN.size,λb d=>(aN.B b (W aj.size) Us).T<|aj.B b d⟩
  have eZ:=X cX;have fa:=X bN;have fb:=(eT.ku (og.ok _) λb d=>aN.B b (W<|J.o b d) Us)
  have fc:=(eU.ku (nu.ok _) λb d=>aN.B b (W<|J.o b d) Us)
  have fd:=ay;clear cX bN eV aa aX bt dO dP;have⟨aO,fe⟩:=Xq a;have⟨dR,ff⟩:=Xq k;have⟨dS,bY⟩:=Xq l;subst fe ff bY;skip;skip;generalize wr=gw at*;have aU:=fa;go_loopw [72] (λi wr=>∃(a:Nat) (A:Option Addr) (B:Nat),a<=aK/\i=a/\KG aM ax #[tx K,(A,a,B),Nl] 98 wr/\kJ (og .u8) 101 3 (λ_=>False) wr aM (A,a,B) (aq.take a)) (λi _=>aK-(intOf i).toNat)
  .exact⟨0,none,0,Q1 _,Z,KG.start aU.o,kJ.nil _ _ _ _ _ _⟩
  obtain⟨a,k,l,bo,rfl,I,R⟩:=hrel;have bR:=I.s;have bG:=I.lx;have f:=I;have S:=R;have al:=R.ge;have U:(aq.take a).length=a/\a<=5:=⟨by rw[Ro];have:=cy.o;omega,Y⟩
  by_cases aV:a<aK
  .obtain⟨c,y⟩:∃c,aq[a]?=some c:=Gx<|W cy.o;obtain⟨gx,gy,aW,rfl,gz,n,r⟩:=(fb.ku (og.ok _) λb d=>f.blk (W<|J.o b d)<|W<|J.o b d).ll (og.ok .i64) a c y;have bS:aW=[tx c.name,.int .i64 c.ty,.int .i64 c.init]:=n;subst bS;have aa:=r 0 _ Z;have aX:=r 1 _ Z;have bt:=r 2 _ Z;rw[Q3]at aa;have ao:=X (show aq.take (a+1)=aq.take a++[c]from by rw[RB,y];rfl);have fg:=dN.ty c<|QV y;have gA:IntKind.u8.wrap c.ty=c.ty:=Uu;obtain⟨dT,dU⟩:=nL a aK;clear n r y fg;have⟨⟨bp,bq,br⟩,bH,aY,az⟩:=lf f.c;have aG:∀(N:Nat) (u:Value),([tx c.name,.int .u8 c.ty,.int .i64 c.init]:List Value)[N]?=some u->((wr.alloc<|.cells #[tx c.name,c.ty,c.init] 76).alloc<|tf c.name c.ty c.init).cell? ((⟨wr+1,0,none⟩:Addr).add N)=some u:=(by have:=mD (wr.alloc<|.cells #[tx c.name,c.ty,c.init] 76) [tx c.name,.int .u8 c.ty,c.init] 101;first|exact this|(simp only[QU]at this;exact this));go_wp2_with (at_builtin;refine kM Z _ _ 95 Z aM.heap.size 101 ez _ 3 32 underlying95 cf.1 cf.2.1 cf.2.2.1 cf.2.2.2 Z (og.ok .u8) (λ_=>False) (k,a,l) (aq.take a) Z (S.kv (og.ok .u8)<|(Ba _ _).alloc Us _) ⟨wr+1,0,none⟩ [tx c.name,.int .u8 c.ty,c.init] c Z aG Z ?Qw ?Qx ?Qy ?_);case Qw=>have:=U;unfold maxLen;omega
   case Qx=>have:=U;omega
   case Qy=>simp only[QU];omega
   intro bI cq G aH L;obtain⟨C,D,rfl,_,_⟩:=G.form;rw[<-ao.o]at G L⊢;have Q:(aq.take<|a+1).length=a+1:=(by rw[Ro];have:=cy.o;omega);rw[Q]at G L⊢;have ae:=((f.alloc<|.cells #[tx c.name,c.ty,c.init] 76).alloc<|tf c.name c.ty c.init).grow aH λj e=>(al j e).1;have aI:=(ae.set 1 (C,a+1,D) (C':=#[tx K,(C,a+1,D),Nl]) Z)
   have aJ:=(G.Hu (og.ok .u8) (o:=ax) (i:=1) (u:=.slice C (a+1) D) (λ_ s=>s.elim) bu)
   have⟨⟨cr,cs,ct⟩,cu,cv,aA⟩:=lf ae.c;clear L Q;go_wp21;go_roundw
   .exact⟨a+1,C,D,Y,Uv,aI,aJ⟩
   simp[intOf];omega
  obtain rfl:a=aK:=Y;have bJ:=(nO fd f.g Y)
  have aZ:=X<|(f.blk (b:=bw) Y Y).T eZ.o;have bU:=X f.c;have fh:=f.lx;have dV:=S.gt (o:=ax) (og.ok _) (λ_ s=>s.elim) bu;rw[Rh<|W cy.o]at dV;have fi:=dV;have fj:=(fc.ku (nu.ok _) λb d=>f.blk (W<|J.o b d)<|W<|J.o b d)
  have fk:=(KG.Lz eW f Y)
  have fl:=(eX.grown (mn.ok _) f.g λj e=>by injection e with e;subst e;exact⟨λs=>W s.2,λaA=>W<|(bX _ aA.symm).2⟩)
  have⟨⟨dI,dJ,dK⟩,_⟩:=lf aZ.o;generalize wr=aC at*;have⟨au,fm⟩:=Xq k;have⟨av,fn⟩:=Xq l;have⟨aw,fo⟩:=Xq a;subst fm fn fo;have bu:=fh;clear aV;go_wp21;go_loopw [93] (λi wr=>∃(a:Nat) (A:Option Addr) (B:Nat),a<=aL/\i=a/\KG aC ax (hR K au aw av A a B) 98 wr/\kJ (nu .u8) 104 1 (λb=>aC<=b) wr aC (A,a,B) (ar.take a)) (λi _=>aL-(intOf i).toNat)
  .exact⟨0,none,0,Q1 _,Z,KG.start bU.o,kJ.nil _ _ _ _ _ _⟩
  obtain⟨a,k,l,bo,rfl,I,R⟩:=hrel;have bR:=I.s;have bG:=I.lx;have f:=I;have S:=R;have al:=R.ge;have U:(ar.take a).length=a/\a<=2:=⟨by rw[Ro];have:=cz.o;omega,Y⟩
  have aj:=(nO bJ f.g Y)
  by_cases aV:a<aL
  .obtain⟨ab,y⟩:∃c,ar[a]?=some c:=Gx<|W cz.o;obtain⟨gB,gC,aW,rfl,gD,⟨dL,rfl,ap⟩,r⟩:=(fj.ku (nu.ok _) λb d=>f.blk (by have:=J.o b d;have:=aj.size;have:=bJ.size;omega)<|W<|J.o b d).ll (nu.ok .i64) a ab y;have am:=dN.hs ab<|QV y;obtain⟨gE,gF,rfl,fp⟩:=ap.form;have aa:=r 0 _ Z;rw[Q3,RA]at aa;have ao:=X (show ar.take (a+1)=ar.take a++[ab]from by rw[RB,y];rfl);have⟨bO,cY⟩:=Xq ab.length;rw[<-cY]at ap aa fp am;have gG:bO<=3:=am.1;have fq:=am.2;have fr:=ap;have cZ:=X cY.symm;obtain⟨dT,dU⟩:=nL a aL;clear r y am cY;go_wp21;have af:=QX wr (.cells #[Nl] 104) none;have da:=QT wr<|.cells #[Nl] 104;have dW:(wr.alloc<|.cells #[Nl] 104).heap.size=wr+1:=Us;have fs:=(f.alloc<|.cells #[Nl] 104)
   have ft:=((S.tight<|nu.ok _).grown (nu.ok _) af λj e=>by cases e)
   have cA:Below w w<|wr.alloc<|.cells #[Nl] 104:=aj.alloc (W aj.size) _;have fu:=(fr.ku (mv.ok _) λb d=>af.B b (Up (J.o b d) aj.size) Us)
   have⟨ac,dX⟩:=Xq wr.heap.size;rw[<-dX]at da dW⊢;have gH:wr<=ac:=Y;have gI:aC<=ac:=Y;generalize wr.alloc (.cells #[Nl] 104)=ak at*;have db:ac<ak:=Y;have gJ:w<=ac:=W aj.size;have fv:=X da;have dc:∀j,(Value.slice k a l).ownBlock=some j->aC<=j/\j<ac:=λj e=>W<|al j e;have dY:=U;have fw:=X ao.o;clear da dW dX aa;have⟨aP,fx⟩:=Xq a;have⟨dZ,fy⟩:=Xq k;have⟨ea,fz⟩:=Xq l;subst fx fy fz;generalize wr=gK at*;go_loopw [99] (λi wr=>∃(a:Nat) (A:Option Addr) (B:Nat),a<=bO/\i=a/\KG ak ac #[(A,a,B)] 104 wr/\kJ (mv .u8) 111 3 (λb=>ak<=b) wr ak (A,a,B) (ab.take a)) (λi _=>bO-(intOf i).toNat)
   .exact⟨0,none,0,Q1 _,Z,KG.start fv.o,kJ.nil _ _ _ _ _ _⟩
   obtain⟨a,k,l,bo,rfl,I,R⟩:=hrel;have bR:=I.s;have bG:=I.lx;have f:=I;have S:=R;have al:=R.ge;have U:(ab.take a).length=a/\a<=3:=⟨by rw[Ro];have:=cZ.o;omega,Y⟩
   by_cases aV:a<bO
   .obtain⟨c,y⟩:∃c,ab[a]?=some c:=Gx<|W cZ.o;obtain⟨gL,gM,aW,rfl,gN,⟨dL,bI,rfl,ap,bv⟩,r⟩:=(fu.ku (mv.ok _) λb d=>f.blk (Up (J.o b d) cA.size)<|W<|J.o b d).ll (mv.ok .i64) a c y;have am:=fq c<|QV y;have⟨ad,bc,aQ⟩:=c;simp only at*;obtain⟨bd,be,rfl,bN⟩:=ap.form;obtain⟨bf,bg,rfl,fA⟩:=bv.form;have aa:=r 0 _ Z;have aX:=r 1 _ Z;have bt:=r 2 _ Z;rw[Q3]at aa;have ao:=X (show ab.take (a+1)=ab.take a++[⟨ad,bc,aQ⟩]from by rw[RB,y];rfl);have⟨nq,cB⟩:=Xq bc.length;have⟨T,cC⟩:=Xq aQ.length;rw[<-cB]at ap aX bN;rw[<-cC]at bv bt fA;have gO:nq<=2:=(by rw[cB];exact am.params);have gP:T<=12:=(by rw[cC];exact am.body);have fB:=am.ops;have fC:=ap;have fD:=bv;have dd:=X cB.symm;have eb:=X cC.symm;obtain⟨dT,dU⟩:=nL a bO;clear r y cB cC;go_wp21;have af:=QX wr (.cells (hR ad bd nq be bf T bg) 107) none;have fE:=(nP.start (ky f.g<|kK af _) ((af.B ac bG Us).T f.c) (S.grown (mv.ok .u8) af λj e=>by cases e) db)
    have cD:=X<|QT wr<|.cells (hR ad bd nq be bf T bg) 107;have de:∀b,bh b->(wr.alloc<|.cells (hR ad bd nq be bf T bg) 107).heap[b]?=wr.heap[b]?:=λb d=>af.B b (Up (J.o b d) cA.size) Us;have fF:=(fC.ku kO.ok de)
    have fG:=(fD.ku (kR.ok .i64 _) de)
    have bx:∀b,bh b->b<(wr.alloc<|.cells (hR ad bd nq be bf T bg) 107).heap.size/\b≠ac/\some b≠(Value.slice k a l).ownBlock:=λb d=>⟨by rw[QU];have:=J.o b d;have:=cA.size;omega,W<|J.o b d,λe=>by have:=(al b e.symm).1;have:=J.o b d;have:=cA.size;omega⟩
    have⟨aD,ec⟩:=Xq wr.heap.size;rw[<-ec]at cD⊢;have df:aD<(wr.alloc<|.cells (hR ad bd nq be bf T bg) 107).heap.size:=(by rw[QU];omega);have dg:aD≠ac:=Y;have dh:some aD≠(Value.slice k a l).ownBlock:=λe=>W<|(al aD e.symm).2;generalize wr.alloc (.cells (hR ad bd nq be bf T bg) 107)=V at*;clear ec aa aX bt de;refine tE (λc=>nP (mv .u8) 111 3 (λb=>ak<=b) ak V ac #[(k,a,l)] 104 (k,a,l) (ab.take a) c) (λv w=>∃(A:Option Addr) (B:Nat),ak.grownBy w (some ac)/\w.heap[ac]?=some (.cells #[(A,a+1,B)] 104)/\kJ (mv .u8) 111 3 (λb=>ak<=b) w ak (A,a+1,B) ((ab.take a)++[⟨ad,bc,aQ⟩])) (mU [(·=.pointer ac),(·=.slice k a l),(·=.pointer aD),(·=tx ad),(Pp aD 1),(·=.slice bd nq be),Tr,(Pp aD 2),(·=.slice bf T bg),Tr,Tr,Tr,Tr,(·=.pointer ac),Tr]) [(6,λv w=>∃(t:Option Addr),∃(x:Nat),v=.slice t nq x/\kz kO (Nw V w) w (t,nq,x) bc),(9,λv w=>∃(p:Option Addr),∃(q:Nat),v=.slice p T q/\kz (kR .u8 Ds) (Nw V w) w (p,T,q) aQ),(10,λv w=>∃(t:Option Addr),∃(x:Nat),∃(p:Option Addr),∃(q:Nat),v=.agg (hR ad t nq x p T q)/\(kz kO (Nw V w) w (t,nq,x) bc)/\kz (kR .u8 Ds) (Nw V w) w (p,T,q) aQ),(11,λv w=>∃(t:Option Addr),∃(x:Nat),∃(p:Option Addr),∃(q:Nat),∃(b:Nat),v=.slice (sh b) 1 1/\Nw V w b/\w.heap[b]?=some (.cells (hR ad t nq x p T q) 111)/\(kz kO (Nw V w) w (t,nq,x) bc)/\kz (kR .u8 Ds) (Nw V w) w (p,T,q) aQ),(12,λv w=>∃(t:Option Addr),∃(x:Nat),∃(p:Option Addr),∃(q:Nat),∃(A:Option Addr) (B:Nat),v=.slice A (a+1) B/\kJ (mv .u8) 111 3 (λb=>ak<=b) w ak v ((ab.take a)++[⟨ad,bc,aQ⟩]))] (fE.drew<|mv.ok .u8) ⟨?_,?_,?_,?_,?_,?_,?_,?_,?_,?_,?_,?_,?_,?_,?_,trivial⟩ ?_;exact Pf 15;exact Pl 103 0 λ_ m=>kr m.c 0;exact Pf 17;exact Pl 105 2 λ_ m=>kB ((m.k aD df dg dh).T cD.o) 0 _ Z;exact Pf 17;exact Pl 107 4 λ_ m=>kB ((m.k aD df dg dh).T cD.o) 1 _ Z;intro aR w m bZ aE aF ca;have fH:=Sv 108 aE 5;have bz:=m.s;have ed:=fF.ku kO.ok λb d=>m.k b (bx b d).1 (bx b d).2.1 (bx b d).2.2;have⟨fI,fJ,ee,cb,bV,an⟩:=run_append_nil (P:=prog) (w:=w) 62 62 9 eD _ 1 16 underlying62 cj.1 cj.2.1 cj.2.2.1 cj.2.2.2 Z kO.ok ed (λ_ _ _ _ s=>s) (by have:=dd.o;unfold maxLen;omega)<|W dd.o;have az:aR.eval (.tmp 108)=.slice bd nq be:=(by simp[Act.eval,fH]);have bT:aR.eval (.const Nl)=Nl:=Z;have Q:=dd.o;rw[Q]at cb bV;clear ed;refine .h λef cc=>?_;simp only[execOp,resolve,invoke,builtin,RL,RN,Rt,Rz,Rx,RO,bT,az,cb];exact cc ⟨trivial,m.grow (mv.ok .u8) an,Qc ⟨fI,fJ,Z,wO kO.ok bz bV⟩<|Qd (λu ⟨p,q,e,n⟩=>⟨p,q,e,oh (kR.ok .u8 _) (NK.lA (w0:=V) an λj e=>by cases e) n⟩)<|Q2<|Qb<|Qe⟩;exact Pf 17;exact Pl 110 7 λ_ m=>kB ((m.k aD df dg dh).T cD.o) 2 _ Z;intro aR w m bZ aE aF ca;have gQ:=Sv 111 aE 8;have bz:=m.s;refine .c (yT Ds bh w bf T bg aQ (fG.ku (kR.ok .i64 _) λb d=>m.k b (bx b d).1 (bx b d).2.1 (bx b d).2.2) (W eb.o) fB λb d=>QR (bx b d).1 bz) ?_;rintro e ee ⟨p,q,rfl,n,d⟩;rw[eb.o]at n⊢;exact⟨_,Z,⟨trivial,m.kv (mv.ok .u8) d,Qd (λu ⟨t,x,e,n⟩=>⟨t,x,e,oh kO.ok (NK.kv (w0:=V) d) n⟩)<|Qc ⟨p,q,Z,wO (kR.ok .u8 _) bz n⟩<|Q2<|Qb<|Qe⟩⟩;intro aR w m bZ aE aF ca;have gR:=Sv 106 aE 3;obtain⟨t,x,fK,fL⟩:=lg aF 0;have gS:=Sl 109 fK;obtain⟨p,q,fM,fN⟩:=lg aF 1;have gT:=Sl 112 fM;exact .q (g:=⟨trivial,m,Q2<|Qc ⟨_,_,_,_,Z,fL,fN⟩<|Qa⟩);intro aR w m bZ aE aF ca;obtain⟨t,x,p,q,fO,eg⟩:=lg aF 2;have gU:=Sl 113 fO;have bz:=m.s;exact .q (g:=⟨trivial,m.alloc (mv.ok .u8) _,Qd (λu ⟨t,x,e,n⟩=>⟨t,x,e,oh kO.ok (NK.alloc V w _) n⟩)<|Qd (λu ⟨p,q,e,n⟩=>⟨p,q,e,oh (kR.ok .u8 _) (NK.alloc V w _) n⟩)<|Qd (λu ⟨t,x,p,q,e,n⟩=>⟨t,x,p,q,e,oh kO.ok (NK.alloc V w _) n.1,oh (kR.ok .u8 _) (NK.alloc V w _) n.2⟩)<|Qc ⟨_,_,_,_,_,Z,⟨bz,Us⟩,QT _ _,oh kO.ok (NK.alloc V w _) eg.1,oh (kR.ok .u8 _) (NK.alloc V w _) eg.2⟩<|Qb<|Qe⟩);intro aR w m bZ aE aF ca;have fP:=Sv 104 aE 1;obtain⟨t,x,p,q,di,fQ,gV,fR,eh⟩:=lg aF 3;have fS:=m.own;have bz:=m.s;have ei:=m.ws;have ej:=m.v;have r:∀(N:Nat) (u:Value),(hR ad t nq x p T q).toList[N]?=some u->w.cell? ((di:Addr).add N)=some u:=λN u fT=>(by rw[lz,Re];exact kB fR N u<|by simpa using fT);have⟨C,D,ee,cb,ek,fU,an,L⟩:=ld (P:=prog) (w:=w) ak 102 102 111 eC _ 3 64 underlying102 ci.1 ci.2.1 ci.2.2.1 ci.2.2.2 Z (mv.ok .u8) (λb=>ak<=b) ((.slice k a l)) ((ab.take a)) fS ⟨di,0,none⟩ (hR ad t nq x p T q).toList ⟨ad,bc,aQ⟩ r (⟨_,_,Z,eh.1.M kO.ok λb d=>⟨Q8 ei d.1,d.2,λe=>Up ((ej b e.symm).2) d.1⟩,eh.2.M (kR.ok .u8 _) λb d=>⟨Q8 ei d.1,d.2,λe=>Up ((ej b e.symm).2) d.1⟩⟩) (by have:=U;unfold maxLen;omega) (W U) Y;have aY:aR.eval (.tmp 104)=(.slice k a l):=(by simp[Act.eval,fP]);have az:aR.eval (.tmp 114)=.slice di 1 1:=fQ;have Q:=U.1;rw[Q]at cb ek L;clear r;refine .h λef cc=>?_;simp only[execOp,resolve,invoke,builtin,RL,RN,Rt,Rz,Rx,RO,aY,az,cb];exact cc ⟨trivial,m.app an fU,Qd (λu ⟨t,x,e,n⟩=>⟨t,x,e,oh kO.ok (m.ng an) n⟩)<|Qd (λu ⟨p,q,e,n⟩=>⟨p,q,e,oh (kR.ok .u8 _) (m.ng an) n⟩)<|Qd (λu ⟨t,x,p,q,e,n⟩=>⟨t,x,p,q,e,oh kO.ok (m.ng an) n.1,oh (kR.ok .u8 _) (m.ng an) n.2⟩)<|Qd (λu ⟨t,x,p,q,b,e,dj,bo,n⟩=>⟨t,x,p,q,b,e,⟨dj.1,QR dj.2 ((m.ng an)).1⟩,(((m.ng an)).2 b dj).T bo,oh kO.ok (m.ng an) n.1,oh (kR.ok .u8 _) (m.ng an) n.2⟩)<|Qc ⟨t,x,p,q,C,D,Z,ek⟩<|Qe⟩;exact Pf 15;intro aR w m bZ aE aF ca;have gW:=Sv 116 aE 13;obtain⟨t,x,p,q,A,B,el,dk⟩:=lg aF 4;have gX:=Sl 115 el;have aU:=X m.c;have bY:=m.c;have gY:=kx bY 0;have dM:=kr bY 0;clear bY;refine .h λef cc=>?_;go_simp;exact cc<|⟨A,B,m.set (mv.ok .u8) (λ_ s=>s) (by have em:=dk;rw[el]at em;exact em) 0 _ Z⟩;intro gZ ha fV fW;have⟨A,B,fX,en,eo⟩:=fW;rw[<-ao.o]at eo;have dl:=(GO fX<|GO en eo)
    clear fV en;simp only[nE];go_wp21;go_roundw
    .exact⟨a+1,A,B,Y,Uv,⟨dl.1,dl.2.1,db⟩,dl.2.2⟩
    simp[intOf];omega
   obtain rfl:a=bO:=Y;have ep:=S.gt (o:=ac) (mv.ok _) (λb s=>Y) db;rw[Rh<|W cZ.o]at ep;have eq:=fs.grow f.g (λj e=>by injection e with e;omega);have fY:=(ft.grown (nu.ok _) f.g λj e=>by injection e with e;subst e;exact⟨λs=>W s.2,λaA=>W<|(dc _ aA.symm).2⟩).weaken (nu.ok _) (P':=λb=>aC<=b) λb d=>d.1;have⟨⟨bp,bq,br⟩,bH,aY,az⟩:=lf eq.c;have dm:=kr f.c 0;have af:=QX wr (oe k a l) none;have dn:nu .u8 (λb=>aC<=b/\b<(wr.alloc<|oe k a l).heap.size/\some b≠(Value.slice dZ aP ea).ownBlock) (wr.alloc<|oe k a l) [(k,a,l)] ab:=⟨_,Z,(ep.ku (mv.ok _) λb d=>af.B b d.2 Us).M (mv.ok _) λb d=>⟨W d.1,by rw[QU];have:=d.2;omega,λe=>Up ((dc b e.symm).2) d.1⟩⟩
   have dp:=dn;have dq:=eq;have dr:=(fY.grown (nu.ok _) af λj e=>by cases e)
   have hb:aC.heap.size<=wr:=Y;have aG:∀(N:Nat) (u:Value),([(k,a,l)]:List Value)[N]?=some u->(wr.alloc<|oe k a l).cell? ((wr:Addr).add N)=some u:=(by have:=mD wr [(k,a,l)] 104;first|exact this|(simp only[QU]at this;exact this));go_wp2_with (at_builtin;refine kM Z _ _ 96 Z aC.heap.size 104 eB _ 1 24 underlying96 ch.1 ch.2.1 ch.2.2.1 ch.2.2.2 Z (nu.ok .u8) (λb=>aC<=b) (dZ,aP,ea) (ar.take aP) Z dr ⟨wr,0,none⟩ [(k,a,l)] ab Z aG dp ?Qz ?QA ?QB ?_);case Qz=>have:=dY;unfold maxLen;omega
   case QA=>have:=dY;omega
   case QB=>simp only[QU];omega
   intro bI cq G aH L;obtain⟨C,D,rfl,_,_⟩:=G.form;rw[<-fw.o]at G L⊢;have Q:(ar.take<|aP+1).length=aP+1:=(by rw[Ro];have:=cz.o;omega);rw[Q]at G L⊢;have ae:=(dq.alloc<|oe k a l).grow aH λj e=>(dc j e).1;have aI:=(ae.set 2 (C,aP+1,D) (C':=#[tx K,(au,aw,av),(C,aP+1,D)]) Z)
   have aJ:=(G.Hu (nu.ok .u8) (o:=ax) (i:=2) (u:=.slice C (aP+1) D) (λb s=>Y) bu)
   have⟨⟨cr,cs,ct⟩,cu,cv,aA⟩:=lf ae.c;clear L Q bp bq br bH aY az dm;go_wp21;go_roundw
   .exact⟨aP+1,C,D,Y,Uv,aI,aJ⟩
   simp[intOf];omega
  obtain rfl:a=aL:=Y;have er:=S.gt (o:=ax) (nu.ok _) (λb s=>Y) bu;rw[Rh<|W cz.o]at er;have fZ:=f.sl (og.ok _) fi;have es:=KG.Lz fk f Y;have dk:=(fl.grown (mn.ok _) f.g λj e=>by injection e with e;subst e;exact⟨λs=>W s.2,λaA=>W<|(bX _ aA.symm).2⟩).weaken (mn.ok _) (P':=λb=>aB<=b) λb d=>d.1;have⟨⟨bp,bq,br,cp⟩,bH,aY,az,bT⟩:=kL es.c;have⟨⟨dm,ga,gb⟩,_⟩:=lf f.c;have af:=QX wr (.cells (hR K au aw av k a l) 98) none;have dn:mn .u8 (λb=>aB<=b/\b<(wr.alloc<|.cells (hR K au aw av k a l) 98).heap.size/\some b≠(Value.slice dR aO dS).ownBlock) (wr.alloc<|.cells (hR K au aw av k a l) 98) [tx K,(au,aw,av),(k,a,l)] ⟨K,aq,ar⟩:=⟨_,_,Z,(fZ.ku (og.ok _) λb d=>af.B b d.2 Us).M (og.ok _) λb d=>⟨W d.1,by rw[QU];have:=d.2;omega,λe=>Up ((bX b e.symm).2) d.1⟩,(er.ku (nu.ok _) λb d=>af.B b d.2 Us).M (nu.ok _) λb d=>⟨W d.1,by rw[QU];have:=d.2;omega,λe=>Up ((bX b e.symm).2) d.1⟩⟩
  have dp:=dn;have dq:=es;have dr:=(dk.grown (mn.ok _) af λj e=>by cases e)
  have hg:aB.heap.size<=wr:=Y;have aG:∀(N:Nat) (u:Value),([tx K,(au,aw,av),(k,a,l)]:List Value)[N]?=some u->(wr.alloc<|.cells (hR K au aw av k a l) 98).cell? ((wr:Addr).add N)=some u:=(by have:=mD wr [tx K,(au,aw,av),(k,a,l)] 98;first|exact this|(simp only[QU]at this;exact this));go_wp2_with (at_builtin;refine kM Z _ _ 50 Z aB.heap.size 98 eA _ 3 64 underlying50 cg.1 cg.2.1 cg.2.2.1 cg.2.2.2 Z (mn.ok .u8) (λb=>aB<=b) (dR,aO,dS) (bk.take aO) Z dr ⟨wr,0,none⟩ [tx K,(au,aw,av),(k,a,l)] ⟨K,aq,ar⟩ Z aG dp ?QC ?QD ?QE ?_);case QC=>have:=dQ;unfold maxLen;omega
  case QD=>have:=dQ;omega
  case QE=>simp only[QU];omega
  intro bI cq G aH L;obtain⟨C,D,rfl,_,_⟩:=G.form;rw[<-eY.o]at G L⊢;have Q:(bk.take<|aO+1).length=aO+1:=(by rw[Ro];have:=cn.o;omega);rw[Q]at G L⊢;have ae:=(dq.alloc<|.cells (hR K au aw av k a l) 98).grow aH λj e=>(bX j e).1;have aI:=(ae.set 3 (C,aO+1,D) (C':=#[tx O,(ba,bs,bb),(bK,bW,bL),(C,aO+1,D)]) Z)
  have aJ:=(G.Hu (mn.ok .u8) (o:=o) (i:=3) (u:=.slice C (aO+1) D) (λb s=>Y) aT)
  have⟨⟨cr,cs,ct,dF⟩,cu,cv,aA,dG⟩:=kL ae.c;clear L Q bp bq br cp bH aY az bT dm ga gb;go_wp21;go_roundw
  .exact⟨aO+1,C,D,Y,Uv,aI,aJ⟩
  simp[intOf];omega
 obtain rfl:a=ai:=Y;have aZ:=X<|(f.blk (b:=bn) Y Y).T bQ.o;have et:=((f.blk (b:=j) Y Y).T bP.o)
 have cK:=f.c;have⟨⟨gc,gd,ge,gf⟩,hh,hj,hk,hl⟩:=kL et;have⟨⟨bp,bq,br,cp⟩,_⟩:=kL cK;have eu:=S.gt (o:=o) (mn.ok _) (λb s=>Y) aT;rw[Rh<|W cn.o]at eu;have gg:=eu;have cS:=(f.sl mH.ok cQ)
 have gh:=(f.sl nV.ok eP)
 clear et cK;go_wp21;refine Q0 (v:=.agg<|mc O ba bs bb bK bW bL k a l) ?_ rfl ?_;simp[results,Tryz.results11,go_sem,gc,gd,ge,gf];have ds:∀{ev:Type} {dt:Rel ev} {gi:Nat} (_:lh dt gi) {v:Value} {ew:List ev},kz dt (Gt o wr) wr v ew->kz dt (Nw w<|(((wr.setCell j<|tx O).setCell ⟨j,1,none⟩ (ba,bs,bb)).setCell ⟨j,2,none⟩ (bK,bW,bL)).setCell ⟨j,3,none⟩ (k,a,l)) ((((wr.setCell j<|tx O).setCell ⟨j,1,none⟩ (ba,bs,bb)).setCell ⟨j,2,none⟩ (bK,bW,bL)).setCell ⟨j,3,none⟩ (k,a,l)) v ew:=λok _ _ s=>
  have cE:∀b,Gt o wr b->b≠j:=λb d=>W d.1
  ((((s.mE ok cE).mE ok cE).mE ok cE).mE ok cE).M ok (λb d=>⟨W d.1,by simp only[QW];exact d.2⟩)
 refine⟨ba,bb,bK,bL,k,l,Z,?_,?_,?_,?_⟩;rw[cI.1];exact ds mH.ok cS;rw[cI.2.1];exact ds nV.ok gh;rw[cI.2.2];exact ds (mn.ok _) gg;exact kD (kD (kD (kD (nO ay f.g Y) Y) Y) Y) Y
def F9(a d)(e:tH d)(l:0<a.size)(m:a.size<=12)(n:kI.lS (a[0]).toNat=true)(f:kI.pre kI.lT a.data.toList=a.size)(g:kI.tu a.data.toList=false):
  Calls prog 109 #[.string a] d λb c=>b=.returned (.tuple #[.int .u8 1,.int .i64 (a.size:Int)])/\d=c:=by
 have i:=e;have j:=f;have k:=g
 go_enter func109,ntmps109
 go_wp2_with (go_at_call 159;apply(oG _ _).M;rintro b c ⟨rfl,rfl⟩);refine(qW _ _ UA).M ?_;rintro b c ⟨rfl,rfl⟩;rw[j];go_wp21;apply(sI _ _ i).M;rintro b c ⟨rfl,rfl⟩;rw[k];go_wp21
 go_ret2
 exact⟨Z,Z⟩
def Cx(a c)(e:tH c)(f:0<a.size)(g:a.size<=12)(i:kI.lS (a[0]).toNat=true)(j:kI.pre kI.lT a.data.toList=a.size)(k:kI.tu a.data.toList=false):
  Calls prog 118 #[.string a] c λb d=>b=.returned (.bool true)/\c=d:=by
 have l:=e;have m:=j;have n:=k;have p:a.toList≠[]:=by rw[SA];intro b;have q:=RF List.length b;rw[Sz,Rs]at q;have r:a.data.size=a.size:=Z;omega
 have s:a.toList.isEmpty=false:=by cases h:a.toList.isEmpty;rfl;exact absurd (List.isEmpty_iff.1 h) p
 go_enter func118,ntmps118
 go_wp21;apply(F9 a _ l f g i m n).M;rintro b d ⟨rfl,rfl⟩
 go_wp21;go_ret;exact⟨Z,Z⟩
def ox(a)(d:mZ a=true)(b)(f:tH b):Calls prog 118 #[tx a] b λg w'=>g=.returned (.bool true)/\b=w':=by
 unfold mZ at d;simp only[R2,SK,R5,Bool.not_eq_true']at d;have⟨⟨⟨⟨e,i⟩,j⟩,k⟩,l⟩:=d;have c:(⟨a.toArray⟩:ByteArray).size=a.length:=UM
 refine Cx ⟨a.toArray⟩ b f (by rw[c];exact e) (by rw[c];exact i) ?_ (by rw[c];simpa using k) (by simpa using l);rw[<-kI.pD ⟨a.toArray⟩ (by rw[c];exact e)];simpa using j
def yw:Bp 173:=by
 intro D E d o F e G f j q r s I;obtain⟨J,K,rfl,rfl,L⟩:=q.open;have⟨⟨k,M,g,t,l,u,v,w⟩,_⟩:=r;have c:=j 0 _ Z;have m:=j 1 _ Z;rw[Q3]at c;obtain⟨a,n⟩:∃a:Nat,a=e.op.toNat:=⟨_,Z⟩
 have p:e.op=(a:Int):=Y
 rw[<-n]at g;rw[p]at c;have x:1<=a:=Y
 have y:=X g;have z:=D0 c m;have A:=X l;clear t l u v w g n p
 go_enter func173,ntmps173
 go_wp21;apply(sU a k y.o x _ f).M;rintro N B ⟨rfl,b⟩;have i:=b.size;have O:=(Cb d (o+1)<|b.B d s).T z.o.2;have P:d<B:=Y
 clear c m;cases hq:k.2.1
 .go_wp21;go_ret;exact⟨Z,b.alloc i _⟩
 have C:=A.o hq;go_wp21;apply(ox e.name C _<|f.names.kv (b.alloc i _) f.low.1).M;rintro Q R ⟨rfl,rfl⟩;go_wp21;go_ret;exact⟨Z,b.alloc i _⟩
def yx:Bq 121:=by
 intro P n j o ak v al Q e y z f A;have R:=e;have S:=y;have T:=z;obtain⟨am,an,ao,ap,rfl,rfl,U,V,aa⟩:=y.open;have⟨⟨w,aq,x,B,ab,C,ac,ar,au,ad,ae⟩,af,⟨av,aw⟩,_⟩:=z;obtain⟨ax,ay,rfl,az⟩:=U.form;obtain⟨aA,aB,rfl,aC⟩:=V.form;obtain⟨aD,aE,rfl,aF⟩:=aa.form;have p:=e 0 _ Z;have D:=e 1 _ Z;have E:=e 2 _ Z;have F:=e 3 _ Z;have G:=e 4 _ Z;have I:=e 5 _ Z;rw[Q3]at p;obtain⟨k,J⟩:∃k:Nat,k=v.kind.toNat:=⟨_,Z⟩
 have K:v.kind=(k:Int):=Y
 rw[<-J]at x;rw[K]at p;have ag:1<=k:=Y
 have q:=Q;have ah:=X x;have L:=(GO p<|GO D<|GO E<|GO F<|GO G I)
 have l:=(GO R<|GO S T)
 have m:=A;have r:=(GO B C)
 clear B ab C ac ad ae af x J K A
 go_enter func121,ntmps121
 go_wp21;apply(BL k w ah.o ag _ q).M;rintro aG ai ⟨rfl,s⟩;have b:=s.size;have aH:=(Cb j (o+1)<|s.B j f).T L.2.1;have aI:=(Cb j (o+2)<|s.B j f).T L.2.2.1;have aJ:j<ai:=Y
 have c:=s;clear p D E F G I;have M:=λ(a:World) (d:Below n n a)=>xz 173 wu yw P a j o _ v _ (q.to d) (px l f m d).1 (px l f m d).2.1 (px l f m d).2.2.1 (px l f m d).2.2.2.1 (px l f m d).2.2.2.2;have t:=M;have N:=λ(O:List UInt8) (aj:mZ O=true) (a:World) (d:Below n n a)=>ox O aj a<|q.names.kv d q.low.1;have u:=N;clear M N;cases Oe:w.1<;>cases Og:w.2.1
 .go_wp21;apply(t _<|c.alloc b _).M;rintro g a ⟨rfl,i⟩;go_wp21;go_ret;exact⟨Z,(c.alloc b _).T<|i.M Uw⟩
 .go_wp21;apply(u _ (r.2 Og) _<|c.alloc b _).M;rintro g a ⟨rfl,rfl⟩;go_wp21;apply(t _<|c.alloc b _).M;rintro g a ⟨rfl,i⟩;go_wp21;go_ret;exact⟨Z,(c.alloc b _).T<|i.M Uw⟩
 .go_wp21;apply(u _ (r.1 Oe) _<|c.alloc b _).M;rintro g a ⟨rfl,rfl⟩;go_wp21;apply(t _<|c.alloc b _).M;rintro g a ⟨rfl,i⟩;go_wp21;go_ret;exact⟨Z,(c.alloc b _).T<|i.M Uw⟩
 go_wp21;apply(u _ (r.1 Oe) _<|c.alloc b _).M;rintro g a ⟨rfl,rfl⟩;go_wp21;apply(u _ (r.2 Og) _<|c.alloc b _).M;rintro g a ⟨rfl,rfl⟩;go_wp21;apply(t _<|c.alloc b _).M;rintro g a ⟨rfl,i⟩;go_wp21;go_ret;exact⟨Z,(c.alloc b _).T<|i.M Uw⟩
def vG:EZ 117:=by
 intro l a m g n d e f c D E F b x;have O:g<=2:=by rw[<-E.len.1];exact b.Hv
 have P:¬(4:Int)<(g:Int):=Y
 have r:=HM a c m g n d e f;have s:=(λ(i:World) (t:Below a a i)=>F.ku (kR.ok .u8 Ds) λj u=>t.B j<|x j u)
 have v:=(λ(i:World) (t:Below a a i) j (u:l j)=>QR (x j u) t.size)
 have y:=QT a<|.cells (hR c.name m g n d e f) 111;have w:kT Ds c.body<=40:=Q8 b.cnt Y;have Q:=b.cnt;have z:Ds=4:=Z
 go_enter func117,ntmps117
 go_wp21;refine(BM Ds l _ d e f c.body (s _ r) b.C9 b.body w (by rw[z];omega)<|v _ r).M ?_;have A:a<(a.alloc<|.cells (hR c.name m g n d e f) 111).heap.size:=Us
 generalize a.alloc (.cells (hR c.name m g n d e f) 111)=R at*;rintro B i ⟨G,rfl,S,p⟩;have T:¬(40:Int)<(G:Int):=W w
 have q:=(r.T<|p.M Y)
 have U:=p.size;have⟨⟨I,J,K⟩,_⟩:=lf<|(p.B _ A).T y;have L:=((p.B _ A).T y)
 go_wp21;refine(BN Ds l _ d e f c.body (s _ q) b.C9 b.body w (by rw[z];omega)<|v _ q).M ?_;rintro B V ⟨aa,rfl,ab,C⟩
 have k:=(q.T<|C.M q.size)
 have M:a.heap.size<i:=Y
 have⟨⟨I,J,K⟩,_⟩:=lf<|(C.B _ M).T L;go_wp21;apply(sV 169 AK DK Ds l _ d e f c.body (D.to k) (s _ k) b.C9 b.body<|v _ k).M;rintro B ac ⟨rfl,N⟩;go_wp21;go_ret;exact⟨Z,k.T<|N.M k.size⟩
def DL:EZ 119:=by
 intro D a q b r g i j e k w E l t;have x:=w.len;have aa:b<=2:=by rw[<-x.1];exact l.Hv
 have y:=HM a e q b r g i j;have F:=(λ(m:World) (u:Below a a m)=>w.ku kO.ok λd n=>u.B d<|t d n)
 have G:=(λ(m:World) (u:Below a a m)=>E.ku (kR.ok .u8 Ds) λd n=>u.B d<|t d n)
 have I:=x.1;have z:=QT a<|.cells (hR e.name q b r g i j) 111;have J:a<(a.alloc<|.cells (hR e.name q b r g i j) 111).heap.size:=Us
 go_enter func119,ntmps119
 go_wp21;apply(ox _ l.name _<|k.names.kv y k.low.1).M;rintro A m ⟨rfl,rfl⟩;generalize a.alloc (.cells (hR e.name q b r g i j) 111)=B at*;have⟨⟨K,L,M⟩,_⟩:=lf z;go_wp21;go_loopw [3,12] (λN v wr=>∃c:Nat,c<=b/\v=c/\N=.bool true/\Below B B wr) (λ_ v _=>b-(intOf v).toNat)
 .exact⟨0,Q1 _,Z,Z,Below.refl _ _⟩
 obtain⟨c,ab,rfl,rfl,s⟩:=hrel;have p:=(y.T<|s.M Y)
 have ac:=s.size;have O:=((s.B _ J).T z)
 by_cases ad:c<b
 .obtain⟨f,C⟩:∃f,e.params[c]?=some f:=Gx<|W I;obtain⟨ae,af,P,rfl,ag,Q,R⟩:=(F _ p).ll kO.ok c f C;have S:P=[tx f]:=Q;subst S;have T:=R 0 _ Z;rw[Q3,RA]at T;have U:=(ox f (l.params f<|QV C) wr<|k.names.kv p k.low.1)
  obtain⟨ah,ai⟩:=nL c b;go_wp21;apply U.M;rintro A m ⟨rfl,rfl⟩;go_wp2_with fail;go_roundw
  .exact⟨c+1,Y,Uv,Z,s⟩
  simp[intOf];omega
 obtain rfl:c=b:=Y;have⟨⟨K,L,M⟩,_⟩:=lf O;have aj:a.heap.size<wr:=Y;go_wp21;refine(sV 121 wz yx Ds D _ g i j e.body (k.to p) (G _ p) l.C9 l.body λd n=>W<|t d n).M ?_;rintro A ak ⟨rfl,V⟩;go_wp21;go_ret;exact⟨Z,p.T<|V.M Y⟩
def DM(K i s)(t u:Nat)(v)(f w:Nat)(x)(d y:Nat)(m)(aj:lY i)(L:pX K i s t u v f w x d y m)(E:mo m):
  Calls prog 77 #[.agg<|mc m.name s t u v f w x d y] i (kH (.bool true) i):=by
 have U:=L.mj;have M:=L.kF
 have aW:f<=9:=by rw[<-U.len.1];exact E.Hx
 have aX:d<=3:=by rw[<-M.len.1];exact E.c3
 have aY:1<=d:=by rw[<-M.len.1];exact E.c1
 have ak:=X U.len.1;have al:=X M.len.1;have N:Below i i<|i.alloc<|.cells (mc m.name s t u v f w x d y) 52:=Ba _ _;have V:=QT i<|.cells (mc m.name s t u v f w x d y) 52;have aZ:(i.alloc<|.cells (mc m.name s t u v f w x d y) 52).heap.size=i+1:=Us
 have F:=(L.kv N)
 have O:=E;have am:=(aj.to N)
 have aa:=X V;clear V
 go_enter func77,ntmps77
 go_wp21;generalize i.alloc (.cells (mc m.name s t u v f w x d y) 52)=n at*;have ab:i.heap.size<n:=Y
 have G:=F.lJ;have an:=F.mj;have ao:=F.kF;have a:=(Below.refl n n)
 go_loopw [12] (λk wr=>∃r:Nat,r<=f/\k=r/\Below n n wr) (λk _=>f-(intOf k).toNat)
 .exact⟨0,Q1 _,Z,a⟩
 obtain⟨g,ap,rfl,a⟩:=hrel;have aq:=a.size;by_cases ar:g<f
 .obtain⟨b,l⟩:∃B,m.mj[g]?=some B:=Gx<|W ak.o;obtain⟨au,av,I,rfl,ac,C,e⟩:=(an.ku nV.ok λc p=>a.B c<|G c p).ll nV.ok g b l;have P:I=[tx b.a,tx b.b,.int .i64 b.tF]:=C;subst P;have Q:=e 0 _ Z;have ad:=e 1 _ Z;have ae:=e 2 _ Z;rw[Q3]at Q;have R:=QV l;obtain⟨aw,ax⟩:=nL g f;clear e l;have ay:=O.mj b R;have ba:¬b.tF<1:=Y;have bb:¬50<b.tF:=Y;clear ay;have a:=(a.alloc Y<|.cells #[tx b.a,tx b.b,b.tF] 94)
  go_wp2_with fail;go_roundw
  .exact⟨g+1,Y,Uv,a⟩
  simp[intOf];omega
 obtain rfl:f=g:=Y;have⟨⟨az,aA,aB,aC⟩,_⟩:=kL<|(a.B _ ab).T aa.o;go_wp21;go_loopw [28] (λk wr=>∃r:Nat,r<=d/\k=r/\Below n n wr) (λk _=>d-(intOf k).toNat)
 .exact⟨0,Q1 _,Z,a⟩
 obtain⟨g,ap,rfl,a⟩:=hrel;have a:=a;have aq:=a.size;by_cases ar:g<d
 .obtain⟨b,l⟩:∃B,m.kF[g]?=some B:=Gx<|W al.o;obtain⟨au,av,I,rfl,ac,C,e⟩:=(ao.ku (mn.ok .u8) λc p=>a.B c<|G c p).ll (mn.ok .u8) g b l;obtain⟨bc,bd,rfl,S,af⟩:=C;obtain⟨aD,aE,rfl,aF⟩:=S.form;obtain⟨aG,aH,rfl,aI⟩:=af.form;have Q:=e 0 _ Z;have ad:=e 1 _ Z;have ae:=e 2 _ Z;rw[Q3]at Q;have R:=QV l;obtain⟨aw,ax⟩:=nL g d;clear e l;have ag:=O.kF b R;have⟨z,J⟩:=Xq b.vars.length;have⟨aJ,ah⟩:=Xq b.lH.length;rw[<-J]at ad S aF;rw[<-ah]at ae af aI;have be:z<=5:=(by rw[J];exact ag.FO);have aK:=X J.symm;have⟨q,D⟩:=Xq<|wr.alloc<|.cells #[tx b.name,(aD,z,aE),(aG,aJ,aH)] 98;have bf:q.heap.size=wr+1:=(by rw[D];simp);have aL:=(show Below n n q by rw[D];exact a.alloc Y _)
  have aM:wr.grownBy q none:=(by rw[D];exact QX _ _ none);have aN:=(S.ku (og.ok .u8) (w':=q) λc p=>aM.B c (W<|G c p) Us)
  have aO:∀c,K c->c<q:=λc p=>W<|G c p;clear J ah;go_wp21;rw[<-D];clear D;have a:=(Below.refl q q)
  go_loopw [35] (λk wr=>∃r:Nat,r<=z/\k=r/\Below q q wr) (λk _=>z-(intOf k).toNat)
  .exact⟨0,Q1 _,Z,a⟩
  obtain⟨A,bg,rfl,a⟩:=hrel;have a:=a;have bh:=a.size;by_cases bi:A<z
  .obtain⟨j,l⟩:∃B,b.vars[A]?=some B:=Gx<|W aK.o;obtain⟨bj,bk,I,rfl,ac,C,e⟩:=(aN.ku (og.ok .u8) λc p=>a.B c<|aO c p).ll (og.ok .u8) A j l;have P:I=[tx j.name,.int .u8 j.ty,.int .i64 j.init]:=C;subst P;have aP:=e 0 _ Z;have bl:=e 1 _ Z;have bm:=e 2 _ Z;rw[Q3]at aP;have aQ:=QV l;obtain⟨bn,bo⟩:=nL A z;clear e l;have aR:=ag.vars j aQ;have aS:=(yz j aR<|wr.alloc<|.cells #[tx j.name,.int .u8 j.ty,j.init] 101)
   have aT:=(a.alloc Y<|.cells #[tx j.name,.int .u8 j.ty,j.init] 101)
   go_wp21;apply aS.M;rintro aU aV ⟨rfl,T⟩;have a:=(aT.T<|T.M<|by rw[QU];omega)
   go_wp21;go_roundw
   .exact⟨A+1,Y,Uv,a⟩
   simp[intOf];omega
  obtain rfl:z=A:=Y;have a:=(aL.T<|a.M Y)
  go_wp21;go_roundw
  .exact⟨g+1,Y,Uv,a⟩
  simp[intOf];omega
 obtain rfl:d=g:=Y;have⟨⟨az,aA,aB,aC⟩,_⟩:=kL<|(a.B _ ab).T aa.o;go_wp21;have ai:=(N.T<|a.M Y)
 apply(po 123 yy Cy K wr s t u v f w x d y m (am.to a) (F.kv a) O).M;rintro aU aV ⟨rfl,T⟩;go_wp21;go_ret;exact⟨Z,ai.T<|T.M ai.size⟩
def Gc(aa l w)(j x:Nat)(y)(k z:Nat)(A)(i B:Nat)(m)(aJ:lY l)(S:pX aa l w j x y k z A i B m)(L:mo m):
  Calls prog 76 #[.agg<|mc m.name w j x y k z A i B] l (kH (.bool true) l):=by
 have am:=S.kN;have an:=S.mj;have ab:=S.kF;have bc:j<=2:=by rw[<-am.len.1];exact L.Hw
 have bd:k<=9:=by rw[<-an.len.1];exact L.Hx
 have be:i<=3:=by rw[<-ab.len.1];exact L.c3
 have bf:1<=i:=by rw[<-ab.len.1];exact L.c1
 have aK:=X am.len.1;have aL:=X an.len.1;have aM:=X ab.len.1;have ac:Below l l<|l.alloc<|.cells (mc m.name w j x y k z A i B) 52:=Ba _ _;have ao:=QT l<|.cells (mc m.name w j x y k z A i B) 52;have bg:(l.alloc<|.cells (mc m.name w j x y k z A i B) 52).heap.size=l+1:=Us
 have M:=(S.kv ac)
 have N:=L;have n:=(aJ.to ac)
 have T:=X ao;clear ao
 go_enter func76,ntmps76
 go_wp21;apply(ox m.name N.name _ n.names).M;rintro F G ⟨rfl,rfl⟩;generalize l.alloc (.cells (mc m.name w j x y k z A i B) 52)=r at*;have ad:l.heap.size<r:=Y
 have O:=X M.lJ;have aN:=M.kN;have aO:=M.mj;have aP:=M.kF;have a:=(Below.refl r r)
 have⟨⟨ae,af,ag,ah⟩,_⟩:=kL T.o;go_wp21;go_loopw [3,18] (λC f wr=>∃s:Nat,s<=j/\f=s/\C=.bool true/\Below r r wr) (λ_ f _=>j-(intOf f).toNat)
 .exact⟨0,Q1 _,Z,Z,a⟩
 obtain⟨c,ap,rfl,rfl,a⟩:=hrel;have aq:=a.size;by_cases ar:c<j
 .obtain⟨b,g⟩:∃D,m.kN[c]?=some D:=Gx<|W aK.o;obtain⟨au,av,I,rfl,ai,E,e⟩:=(aN.ku mH.ok λd t=>a.B d<|O.o d t).ll mH.ok c b g;have P:I=[tx b.name,.bool b.init]:=E;subst P;have Q:=e 0 _ Z;have aj:=e 1 _ Z;rw[Q3]at Q;have R:=QV g;obtain⟨aw,ax⟩:=nL c j;clear e g;have U:=N.kN b R;have p:=(a.alloc Y<|.cells #[tx b.name,b.init] 93)
  go_wp21;apply(ox b.name U _<|n.names.kv p n.low.1).M;rintro F G ⟨rfl,rfl⟩;have a:=p;go_wp2_with fail;go_roundw
  .exact⟨c+1,Y,Uv,Z,a⟩
  simp[intOf];omega
 obtain rfl:j=c:=Y;have⟨⟨ae,af,ag,ah⟩,_⟩:=kL<|(a.B _ ad).T T.o;go_wp21;go_loopw [3,32] (λC f wr=>∃s:Nat,s<=k/\f=s/\C=.bool true/\Below r r wr) (λ_ f _=>k-(intOf f).toNat)
 .exact⟨0,Q1 _,Z,Z,a⟩
 obtain⟨c,ap,rfl,rfl,a⟩:=hrel;have a:=a;have aq:=a.size;by_cases ar:c<k
 .obtain⟨b,g⟩:∃D,m.mj[c]?=some D:=Gx<|W aL.o;obtain⟨au,av,I,rfl,ai,E,e⟩:=(aO.ku nV.ok λd t=>a.B d<|O.o d t).ll nV.ok c b g;have P:I=[tx b.a,tx b.b,.int .i64 b.tF]:=E;subst P;have Q:=e 0 _ Z;have aj:=e 1 _ Z;have ay:=e 2 _ Z;rw[Q3]at Q;have R:=QV g;obtain⟨aw,ax⟩:=nL c k;clear e g;have U:=N.mj b R;have p:=(a.alloc Y<|.cells #[tx b.a,tx b.b,b.tF] 94)
  have az:=X U;clear U;go_wp21;apply(ox b.a az.o.1 _<|n.names.kv p n.low.1).M;rintro F G ⟨rfl,rfl⟩;go_wp21;apply(ox b.b az.o.2.1 _<|n.names.kv p n.low.1).M;rintro F G ⟨rfl,rfl⟩;have a:=p;go_wp2_with fail;go_roundw
  .exact⟨c+1,Y,Uv,Z,a⟩
  simp[intOf];omega
 obtain rfl:k=c:=Y;have⟨⟨ae,af,ag,ah⟩,_⟩:=kL<|(a.B _ ad).T T.o;go_wp21;go_loopw [3,51] (λC f wr=>∃s:Nat,s<=i/\f=s/\C=.bool true/\Below r r wr) (λ_ f _=>i-(intOf f).toNat)
 .exact⟨0,Q1 _,Z,Z,a⟩
 obtain⟨c,ap,rfl,rfl,a⟩:=hrel;have a:=a;have aq:=a.size;by_cases ar:c<i
 .obtain⟨b,g⟩:∃D,m.kF[c]?=some D:=Gx<|W aM.o;obtain⟨au,av,I,rfl,ai,E,e⟩:=(aP.ku (mn.ok .u8) λd t=>a.B d<|O.o d t).ll (mn.ok .u8) c b g;obtain⟨bh,bi,rfl,ak,aA⟩:=E;obtain⟨aB,aC,rfl,aQ⟩:=ak.form;obtain⟨aD,aE,rfl,aR⟩:=aA.form;have Q:=e 0 _ Z;have aj:=e 1 _ Z;have ay:=e 2 _ Z;rw[Q3]at Q;have R:=QV g;obtain⟨aw,ax⟩:=nL c i;clear e g;have al:=N.kF b R;have⟨v,V⟩:=Xq b.vars.length;have⟨aF,aG⟩:=Xq b.lH.length;rw[<-V]at aj ak aQ;rw[<-aG]at ay aA aR;have bj:v<=5:=(by rw[V];exact al.FO);have aS:=X V.symm;have⟨u,J⟩:=Xq<|wr.alloc<|.cells #[tx b.name,(aB,v,aC),(aD,aF,aE)] 98;have bk:u.heap.size=wr+1:=(by rw[J];simp);have p:=(show Below r r u by rw[J];exact a.alloc Y _)
  have aT:wr.grownBy u none:=(by rw[J];exact QX _ _ none);have aU:=(ak.ku (og.ok .u8) (w':=u) λd t=>aT.B d (W<|O.o d t) Us)
  have aV:=X<|show∀d,aa d->d<u from λd t=>W<|O.o d t;clear V aG;have aW:=al.name;have aH:u.heap[wr.heap.size]?=some (.cells #[tx b.name,(aB,v,aC),(aD,aF,aE)] 98):=(by rw[J];exact QT _ _);go_wp21;rw[<-J];apply(ox b.name aW _<|n.names.kv p n.low.1).M;rintro F G ⟨rfl,rfl⟩;have⟨⟨bl,bm,bn⟩,_⟩:=lf aH;clear J aH;go_wp21;have a:=(Below.refl u u)
  go_loopw [3,64] (λC f wr=>∃s:Nat,s<=v/\f=s/\C=.bool true/\Below u u wr) (λ_ f _=>v-(intOf f).toNat)
  .exact⟨0,Q1 _,Z,Z,a⟩
  obtain⟨K,bo,rfl,rfl,a⟩:=hrel;have a:=a;have bp:=a.size;by_cases bq:K<v
  .obtain⟨q,g⟩:∃D,b.vars[K]?=some D:=Gx<|W aS.o;obtain⟨br,bs,I,rfl,ai,E,e⟩:=(aU.ku (og.ok .u8) λd t=>a.B d<|aV.o d t).ll (og.ok .u8) K q g;have P:I=[tx q.name,.int .u8 q.ty,.int .i64 q.init]:=E;subst P;have aX:=e 0 _ Z;have bt:=e 1 _ Z;have bu:=e 2 _ Z;rw[Q3]at aX;have aY:=QV g;obtain⟨bv,bw⟩:=nL K v;clear e g;have aZ:=(al.vars q aY).name;have p:=(p.T<|(a.alloc Y<|.cells #[tx q.name,.int .u8 q.ty,q.init] 101).M Y)
   have ba:=(a.alloc Y<|.cells #[tx q.name,.int .u8 q.ty,q.init] 101)
   go_wp21;apply(ox q.name aZ _<|n.names.kv p n.low.1).M;rintro F G ⟨rfl,rfl⟩;have a:=ba;go_wp2_with fail;go_roundw
   .exact⟨K+1,Y,Uv,Z,a⟩
   simp[intOf];omega
  obtain rfl:v=K:=Y;have a:=(p.T<|a.M Y)
  go_wp2_with fail;go_roundw
  .exact⟨c+1,Y,Uv,Z,a⟩
  simp[intOf];omega
 obtain rfl:i=c:=Y;have⟨⟨ae,af,ag,ah⟩,_⟩:=kL<|(a.B _ ad).T T.o;go_wp21;have aI:=(ac.T<|a.M Y)
 apply(po 119 AL DL aa wr w j x y k z A i B m (n.to a) (M.kv a) N).M;rintro F G ⟨rfl,bb⟩;go_wp21;go_ret;exact⟨Z,aI.T<|bb.M aI.size⟩
def Gd(ak f x)(p y:Nat)(z)(q A:Nat)(B)(b C:Nat)(r)(az:lY f)(R:pX ak f x p y z q A B b C r)(F:mo r):
  Calls prog 75 #[.agg<|mc r.name x p y z q A B b C] f (kH (.bool true) f):=by
 have bp:= @run_makeMap prog;have aA:=R.kN;have aB:=R.mj;have V:=R.kF;have bq:p<=2:=by rw[<-aA.len.1];exact F.Hw
 have br:q<=9:=by rw[<-aB.len.1];exact F.Hx
 have bs:b<=3:=by rw[<-V.len.1];exact F.c3
 have bt:1<=b:=by rw[<-V.len.1];exact F.c1
 have aC:=X V.len.1;have aa:Below f f<|f.alloc<|.cells (mc r.name x p y z q A B b C) 52:=Ba _ _;have al:=QT f<|.cells (mc r.name x p y z q A B b C) 52;have bu:(f.alloc<|.cells (mc r.name x p y z q A B b C) 52).heap.size=f+1:=Us
 have ab:=(R.kv aa)
 have am:=F;have aD:=(az.to aa)
 have aE:=X al;clear al;have bv:((b:Int)==0)=false:=by rw[QY];omega
 have bw:¬(8:Int)<(b:Int):=Y
 have bx:¬(8:Int)<(p:Int):=Y
 have bz:¬(64:Int)<(q:Int):=Y
 go_enter func75,ntmps75
 go_wp21;generalize f.alloc (.cells (mc r.name x p y z q A B b C) 52)=g at*;have aF:f.heap.size<g:=Y
 have G:=X ab.lJ;have aG:=ab.kF;have a:=(Below.refl g g)
 go_loopw [36] (λj wr=>∃m:Nat,m<=b/\j=m/\Below g g wr) (λj _=>b-(intOf j).toNat)
 .exact⟨0,Q1 _,Z,a⟩
 obtain⟨E,bA,rfl,a⟩:=hrel;have bB:=a.size;by_cases bC:E<b
 .obtain⟨n,k⟩:∃I,r.kF[E]?=some I:=Gx<|W aC.o;obtain⟨bD,bE,an,rfl,ao,J,i⟩:=(aG.ku (mn.ok .u8) λc s=>a.B c<|G.o c s).ll (mn.ok .u8) E n k;obtain⟨ap,aH,rfl,u,K⟩:=J;obtain⟨L,M,rfl,aI⟩:=u.form;obtain⟨N,O,rfl,aJ⟩:=K.form;have aK:=i 0 _ Z;have aL:=i 1 _ Z;have aM:=i 2 _ Z;rw[Q3]at aK;have aN:=QV k;obtain⟨bF,bG⟩:=nL E b;clear i k;have S:=am.kF n aN;have⟨D,ac⟩:=Xq n.vars.length;have⟨d,P⟩:=Xq n.lH.length;rw[<-ac]at aL u aI;rw[<-P]at aM K aJ;have bH:D<=5:=(by rw[ac];exact S.FO);have bI:d<=2:=(by rw[P];exact S.v2);have bJ:1<=d:=(by rw[P];exact S.v1);have aO:=X P.symm;have bK:¬(8:Int)<(D:Int):=Y;have bL:((d:Int)==0)=false:=(by rw[QY];omega);have bM:¬(3:Int)<(d:Int):=Y;have aP:=(K.ku (nu.ok .u8) (w':=g) λc s=>(a.B c<|G.o c s).symm)
  have aQ:=((a.alloc Y<|.cells #[tx n.name,(L,D,M),(N,d,O)] 98).alloc (by rw[QU];omega)<|.map #[] 0)
  have ad:=World.ownsMap_made (wr.alloc<|.cells #[tx n.name,(L,D,M),(N,d,O)] 98) prog 9 RM;rw[QU]at ad;have bN:((wr.alloc<|.cells #[tx n.name,(L,D,M),(N,d,O)] 98).alloc<|.map #[] 0).heap.size=wr+2:=Us;have⟨v,ae⟩:=Xq<|wr.heap.size+1;rw[<-ae]at ad;have aR:Bh ((wr.alloc<|.cells #[tx n.name,(L,D,M),(N,d,O)] 98).alloc<|.map #[] 0) v<|3*0:=⟨_,ad⟩
  have bO:g<=v:=Y;clear ac P;go_wp21;rw[<-ae];generalize(wr.alloc<|.cells #[tx n.name,(L,D,M),(N,d,O)] 98).alloc (.map #[] 0)=bP at*;clear ae;have a:=aQ;go_loopw [59] (λj wr=>∃m:Nat,m<=d/\j=m/\Bh wr v (3*m)/\Below g g wr) (λj _=>d-(intOf j).toNat)
  .exact⟨0,Q1 _,Z,aR,a⟩
  obtain⟨l,bQ,rfl,Q,a⟩:=hrel;have a:=a;have bR:=a.size;by_cases bS:l<d
  .obtain⟨T,k⟩:∃I,n.lH[l]?=some I:=Gx<|W aO.o;obtain⟨bT,bU,an,rfl,ao,J,i⟩:=(aP.ku (nu.ok .u8) λc s=>a.B c<|G.o c s).ll (nu.ok .u8) l T k;obtain⟨ap,rfl,u⟩:=J;obtain⟨af,ag,rfl,aS⟩:=u.form;have aq:=i 0 _ Z;rw[Q3,RA]at aq;have aT:=QV k;obtain⟨bV,bW⟩:=nL l d;clear i k;have U:=S.lH T aT;have⟨t,ah⟩:=Xq T.length;rw[<-ah]at aq u aS U;have bX:t<=3:=U.1;have aU:=X U;have aV:=X ah.symm;have aW:=(u.ku (mv.ok .u8) (w':=g) λc s=>(a.B c<|G.o c s).symm)
   have aX:=(a.alloc Y<|oe af t ag)
   have aY:Bh (wr.alloc<|oe af t ag) v<|3*l+0:=Q.imp λaZ ai=>ai.alloc _;clear U ah;go_wp21;generalize wr.alloc (oe af t ag)=bY at*;have a:=aX;go_loopw [66] (λj wr=>∃m:Nat,m<=t/\j=m/\Bh wr v (3*l+m)/\Below g g wr) (λj _=>t-(intOf j).toNat)
   .exact⟨0,Q1 _,Z,aY,a⟩
   obtain⟨w,bZ,rfl,Q,a⟩:=hrel;have a:=a;have ca:=a.size;by_cases cb:w<t
   .obtain⟨e,k⟩:∃I,T[w]?=some I:=Gx<|W aV.o;obtain⟨cc,cd,an,rfl,ao,J,i⟩:=(aW.ku (mv.ok .u8) λc s=>a.B c<|G.o c s).ll (mv.ok .u8) w e k;obtain⟨ap,aH,rfl,u,K⟩:=J;obtain⟨ar,au,rfl,ce⟩:=u.form;obtain⟨av,aw,rfl,cf⟩:=K.form;have ba:=i 0 _ Z;have cg:=i 1 _ Z;have ch:=i 2 _ Z;rw[Q3]at ba;have bb:=QV k;obtain⟨ci,cj⟩:=nL w t;clear i k;have bc:=aU.o.2 e bb;have bd:=(a.alloc Y<|.cells #[tx e.name,(ar,e.params.length,au),(av,e.body.length,aw)] 111)
    have⟨be,bf⟩:=Q;have bg:=(bf.alloc<|.cells #[tx e.name,(ar,e.params.length,au),(av,e.body.length,aw)] 111)
    have ax:keyOf prog 9 (tx e.name)=some (.string e.name):=Go.WideMaps.keyOf_string_mk underlying9 (by have:=bc.name;unfold mZ at this;simp at this;show e.name.toArray.size<=maxLen;simp;unfold maxLen;omega);have bh:=X ax;clear ax;go_wp2_with (at_mapUpdate;refine wpList_mapUpdate_own _ Z _ _ _ 247 Z 9 4 Mi underlying247 RM v (3*l+w) be Z bg UA (tx e.name) (.bool true) (.string e.name) Z Z bh.o _ [] Z ?_);intro bi bj bk;have bl:Bh bi v<|3*l+(w+1):=⟨_,bj⟩
    have a:=(bd.grown bk (by rw[QU];omega) λck aj=>by injection aj with aj;omega)
    go_wp21;go_roundw
    .exact⟨w+1,Y,Uv,bl,a⟩
    simp[intOf];omega
   obtain rfl:t=w:=Y;have bm:Bh wr v<|3*(l+1):=Q.imp λaZ ai=>ai.M Y;go_wp21;go_roundw
   .exact⟨l+1,Y,Uv,bm,a⟩
   simp[intOf];omega
  obtain rfl:d=l:=Y;have⟨bn,cl,cm⟩:=Q.len;have cn:¬(8:Int)<(bn:Int):=Y;go_wp2_with fail;go_roundw
  .exact⟨E+1,Y,Uv,a⟩
  simp[intOf];omega
 obtain rfl:b=E:=Y;have⟨⟨co,cp,cq,cr⟩,_⟩:=kL<|(a.B _ aF).T aE.o;go_wp21;have ay:=(aa.T<|a.M Y)
 apply(po 117 uf vG ak wr x p y z q A B b C r (aD.to a) (ab.kv a) am).M;rintro aj cs ⟨rfl,bo⟩;go_wp21;go_ret;exact⟨Z,ay.T<|bo.M ay.size⟩
def Gg(q:Nat)(aN:Ao q):Dj<|q+1:=by
 intro ay s l cb t u v w e y z r A B vQ az G ai V ap aa aq aO av e ar ab n aP be;obtain rfl:q=av:=Y
 have⟨aQ,aR,av,aS,aw⟩:=aP.op;obtain rfl:q=av:=Y
 simp only[Ex.op,Ex.args]at aQ aR aw;have aT:aa<=2:=W n.len.1
 have aU:qz (q+1)=2*qz q+1:=Z;have bf:aa*qz q<=2*qz q:=Sj _ aT;have J:=X<|show az.length+aa*qz q+1<=100000/\aa*qz q+1<=qz (q+1) from Y;have aA:=Ba l<|mu G V ai ap aa aq;have aV:=(ar.kv aA)
 have aW:=(nH.kv (cb:=cb) (vQ:=vQ) aA)
 have aX:=X<|QT l<|mu G V ai ap aa aq;have bg:=(QS.1 ar.c).1;have aB:=ar.own.ge;have au:=X<|show l<(l.alloc<|mu G V ai ap aa aq).heap.size/\l≠cb/\some l.heap.size≠vQ.ownBlock from⟨Us,Y,λF=>W<|(aB _ F.symm).2⟩;have aY:=X aw;have aZ:=aN;clear ar aw aB e aS aU
 go_enter func210,ntmps210
 go_wp21;refine(aZ ay s _ cb t u v w e y z r A B vQ az ap aa aq aO aV ab n aY.o (W J.o.1) Y).M ?_;rintro F C ⟨rfl,bh,p,K,ax,L⟩;have⟨aC,ba⟩:=ax.k _ au.o.1 au.o.2.1 au.o.2.2;have⟨S,aD⟩:=Xq l.heap.size;have ac:=X<|aC.T aX.o;have ad:l.heap.size<C:=QR au.o.1 ax.size;rw[<-aD]at ac ad⊢;obtain⟨D,E,rfl⟩:=K.form;have M:=(aW.T ax)
 have N:p.length<=100000:=by have⟨bi,bb,bj,_⟩:=L;rw[bb,Q6];have:=J.o.1;omega
 clear aC ba aD;have⟨⟨ae,af,ag,ah⟩,_⟩:=kL ac.o;have bc:G=1\/G=2\/G=3\/G=4\/G=5\/G=6\/G=7\/G=8\/G=9\/G=10\/G=11\/G=12\/G=13\/G=14\/G=15\/G=16\/G=17\/G=18\/G=19\/G=20\/G=21\/G=22\/G=23:=Y
 rcases bc with rfl|rfl|rfl|rfl|rfl|rfl|rfl|rfl|rfl|rfl|rfl|rfl|rfl|rfl|rfl|rfl|rfl|rfl|rfl|rfl|rfl|rfl|rfl
 .go_wp21;apply(ln s C cb t u v w e y z r A B D _ E p ⟨1,0,0,ai⟩ K N).M;rintro F O ⟨rfl,c,d,f,i,b⟩;have a:=EV f (M.T i)<|L.snoc (m:=qz<|q+1) (x:=⟨1,0,0,ai⟩) Ux b J.o.2;clear b;go_wp21
  go_end0
  exact⟨Z,c,d,a.o.1,a.o.2.1,a.o.2.2⟩
 .go_wp21;apply(ln s C cb t u v w e y z r A B D _ E p ⟨1,0,0,1⟩ K N).M;rintro F O ⟨rfl,c,d,f,i,b⟩;have a:=EV f (M.T i)<|L.snoc (m:=qz<|q+1) (x:=⟨1,0,0,1⟩) Ux b J.o.2;clear b;go_wp21
  go_end0
  exact⟨Z,c,d,a.o.1,a.o.2.1,a.o.2.2⟩
 .go_wp21;apply(ln s C cb t u v w e y z r A B D _ E p ⟨1,0,0,0⟩ K N).M;rintro F O ⟨rfl,c,d,f,i,b⟩;have a:=EV f (M.T i)<|L.snoc (m:=qz<|q+1) (x:=⟨1,0,0,0⟩) Ux b J.o.2;clear b;go_wp21
  go_end0
  exact⟨Z,c,d,a.o.1,a.o.2.1,a.o.2.2⟩
 .go_wp21;apply(ln s C cb t u v w e y z r A B D _ E p ⟨5,0,0,0⟩ K N).M;rintro F O ⟨rfl,c,d,f,i,b⟩;have a:=EV f (M.T i)<|L.snoc (m:=qz<|q+1) (x:=⟨5,0,0,0⟩) Ux b J.o.2;clear b;go_wp21
  go_end0
  exact⟨Z,c,d,a.o.1,a.o.2.1,a.o.2.2⟩
 .go_wp21;apply(Ge ay s C cb t u v w e y z r A B D _ E p V K ab N).M;rintro F O ⟨rfl,c,d,f,i,x,b,bd⟩;have a:=EV f (M.T i)<|L.snoc (m:=qz<|q+1) bd b J.o.2;clear b;go_wp21
  go_end0
  exact⟨Z,c,d,a.o.1,a.o.2.1,a.o.2.2⟩
 .go_wp21;refine tE (λx=>my s cb t u v w e y z r A B (D,p.length,E) p x/\Below C C x) (λQ l=>∃(c:Value) (d:List In) (k:Int),my s cb t u v w e y z r A B c d l/\nH cb (D,p.length,E) C c l/\d=p++[⟨6,k,0,0⟩]) (mU [(·=.pointer cb),(·=.pointer S),(·=.int .u8 6),(·=.pointer cb),(·=.pointer cb),(Pp cb 7),(·=r),(Pp S 1),(·=tx V),Tr,Tr,Tr]) [(9,λQ l=>∃k:Int,Q=k),(10,λQ l=>∃k:Int,Q=.agg #[.int .u8 6,k,.int .i64 0,.int .i64 0])] (⟨K.kv (Below.refl _ _).drew,(Below.refl _ _).drew⟩) ⟨?_,?_,?_,?_,?_,?_,?_,?_,?_,?_,?_,?_,trivial⟩ ?_;exact Pf 0;exact Pf 3;intro R l j P n e I;have aE:=Sv 48 n 1;have⟨⟨ae,af,ag,ah⟩,_⟩:=kL<|(j.2.B S ad).T ac.o;exact .q (g:=⟨Z,j,Qa⟩);exact Pf 0;exact Pv 50 3;exact Pv 51 4;exact Pl 52 5 λ_ j=>kr j.1.c 7;exact Pf 3;intro R l j P n e I;have aF:=Sv 54 n 7;have⟨⟨ae,af,ag,ah⟩,_⟩:=kL<|(j.2.B S ad).T ac.o;exact .q (g:=⟨Z,j,Qa⟩);intro R l j P n e I;have aG:=Sv 53 n 6;have aH:=Sv 55 n 8;clear P n e I;refine .h λaj T=>?_;go_simp;refine⟨Z,?_⟩;refine Calls.M (mX j.1 ab.lJ ab.kZ V) ?_;rintro F ak ⟨k,U,I⟩;subst I;subst U;exact⟨_,Z,T ⟨trivial,j,Qc ⟨k,Z⟩<|Qb<|Qe⟩⟩;intro R l j P n e I;have aI:=Sv 49 n 2;obtain⟨k,al⟩:=lg e 0;have aJ:=Sl 56 al;exact .q (g:=⟨trivial,j,Qb<|Qc ⟨k,Z⟩<|Qa⟩);intro R l j P n e I;have aK:=Sv 47 n 0;obtain⟨k,am⟩:=lg e 1;have aL:=Sl 57 am;clear P n e I;refine .h λaj T=>?_;go_simp;refine⟨Z,?_⟩;refine Calls.M (ln s l cb t u v w e y z r A B D _ E p ⟨6,k,0,0⟩ j.1 N) ?_;rintro F ak ⟨U,c,d,f,i,b⟩;subst U;refine⟨_,Z,?_⟩;exact T<|⟨c,d,k,f,(nH.kv j.2).T i,b⟩;intro aM O an ao;have⟨c,d,k,f,i,b⟩:=ao;have a:=EV f (M.T i)<|L.snoc (m:=qz<|q+1) (x:=⟨6,k,0,0⟩) Ux b J.o.2;clear b an;simp only[nE];go_wp21
  go_end0
  exact⟨Z,c,d,a.o.1,a.o.2.1,a.o.2.2⟩
 .go_wp21;refine tE (λx=>my s cb t u v w e y z r A B (D,p.length,E) p x/\Below C C x) (λQ l=>∃(c:Value) (d:List In) (k:Int),my s cb t u v w e y z r A B c d l/\nH cb (D,p.length,E) C c l/\d=p++[⟨7,k,0,0⟩]) (mU [(·=.pointer cb),(·=.pointer S),(·=.int .u8 7),(·=.pointer cb),(·=.pointer cb),(Pp cb 7),(·=r),(Pp S 1),(·=tx V),Tr,Tr,Tr]) [(9,λQ l=>∃k:Int,Q=k),(10,λQ l=>∃k:Int,Q=.agg #[.int .u8 7,k,.int .i64 0,.int .i64 0])] (⟨K.kv (Below.refl _ _).drew,(Below.refl _ _).drew⟩) ⟨?_,?_,?_,?_,?_,?_,?_,?_,?_,?_,?_,?_,trivial⟩ ?_;exact Pf 0;exact Pf 3;intro R l j P n e I;have aE:=Sv 48 n 1;have⟨⟨ae,af,ag,ah⟩,_⟩:=kL<|(j.2.B S ad).T ac.o;exact .q (g:=⟨Z,j,Qa⟩);exact Pf 0;exact Pv 50 3;exact Pv 51 4;exact Pl 52 5 λ_ j=>kr j.1.c 7;exact Pf 3;intro R l j P n e I;have aF:=Sv 54 n 7;have⟨⟨ae,af,ag,ah⟩,_⟩:=kL<|(j.2.B S ad).T ac.o;exact .q (g:=⟨Z,j,Qa⟩);intro R l j P n e I;have aG:=Sv 53 n 6;have aH:=Sv 55 n 8;clear P n e I;refine .h λaj T=>?_;go_simp;refine⟨Z,?_⟩;refine Calls.M (mX j.1 ab.lJ ab.kZ V) ?_;rintro F ak ⟨k,U,I⟩;subst I;subst U;exact⟨_,Z,T ⟨trivial,j,Qc ⟨k,Z⟩<|Qb<|Qe⟩⟩;intro R l j P n e I;have aI:=Sv 49 n 2;obtain⟨k,al⟩:=lg e 0;have aJ:=Sl 56 al;exact .q (g:=⟨trivial,j,Qb<|Qc ⟨k,Z⟩<|Qa⟩);intro R l j P n e I;have aK:=Sv 47 n 0;obtain⟨k,am⟩:=lg e 1;have aL:=Sl 57 am;clear P n e I;refine .h λaj T=>?_;go_simp;refine⟨Z,?_⟩;refine Calls.M (ln s l cb t u v w e y z r A B D _ E p ⟨7,k,0,0⟩ j.1 N) ?_;rintro F ak ⟨U,c,d,f,i,b⟩;subst U;refine⟨_,Z,?_⟩;exact T<|⟨c,d,k,f,(nH.kv j.2).T i,b⟩;intro aM O an ao;have⟨c,d,k,f,i,b⟩:=ao;have a:=EV f (M.T i)<|L.snoc (m:=qz<|q+1) (x:=⟨7,k,0,0⟩) Ux b J.o.2;clear b an;simp only[nE];go_wp21
  go_end0
  exact⟨Z,c,d,a.o.1,a.o.2.1,a.o.2.2⟩
 .go_wp21;refine tE (λx=>my s cb t u v w e y z r A B (D,p.length,E) p x/\Below C C x) (λQ l=>∃(c:Value) (d:List In) (k:Int),my s cb t u v w e y z r A B c d l/\nH cb (D,p.length,E) C c l/\d=p++[⟨8,k,0,0⟩]) (mU [(·=.pointer cb),(·=.pointer S),(·=.int .u8 8),(·=.pointer cb),(·=.pointer cb),(Pp cb 7),(·=r),(Pp S 1),(·=tx V),Tr,Tr,Tr]) [(9,λQ l=>∃k:Int,Q=k),(10,λQ l=>∃k:Int,Q=.agg #[.int .u8 8,k,.int .i64 0,.int .i64 0])] (⟨K.kv (Below.refl _ _).drew,(Below.refl _ _).drew⟩) ⟨?_,?_,?_,?_,?_,?_,?_,?_,?_,?_,?_,?_,trivial⟩ ?_;exact Pf 0;exact Pf 3;intro R l j P n e I;have aE:=Sv 48 n 1;have⟨⟨ae,af,ag,ah⟩,_⟩:=kL<|(j.2.B S ad).T ac.o;exact .q (g:=⟨Z,j,Qa⟩);exact Pf 0;exact Pv 50 3;exact Pv 51 4;exact Pl 52 5 λ_ j=>kr j.1.c 7;exact Pf 3;intro R l j P n e I;have aF:=Sv 54 n 7;have⟨⟨ae,af,ag,ah⟩,_⟩:=kL<|(j.2.B S ad).T ac.o;exact .q (g:=⟨Z,j,Qa⟩);intro R l j P n e I;have aG:=Sv 53 n 6;have aH:=Sv 55 n 8;clear P n e I;refine .h λaj T=>?_;go_simp;refine⟨Z,?_⟩;refine Calls.M (mX j.1 ab.lJ ab.kZ V) ?_;rintro F ak ⟨k,U,I⟩;subst I;subst U;exact⟨_,Z,T ⟨trivial,j,Qc ⟨k,Z⟩<|Qb<|Qe⟩⟩;intro R l j P n e I;have aI:=Sv 49 n 2;obtain⟨k,al⟩:=lg e 0;have aJ:=Sl 56 al;exact .q (g:=⟨trivial,j,Qb<|Qc ⟨k,Z⟩<|Qa⟩);intro R l j P n e I;have aK:=Sv 47 n 0;obtain⟨k,am⟩:=lg e 1;have aL:=Sl 57 am;clear P n e I;refine .h λaj T=>?_;go_simp;refine⟨Z,?_⟩;refine Calls.M (ln s l cb t u v w e y z r A B D _ E p ⟨8,k,0,0⟩ j.1 N) ?_;rintro F ak ⟨U,c,d,f,i,b⟩;subst U;refine⟨_,Z,?_⟩;exact T<|⟨c,d,k,f,(nH.kv j.2).T i,b⟩;intro aM O an ao;have⟨c,d,k,f,i,b⟩:=ao;have a:=EV f (M.T i)<|L.snoc (m:=qz<|q+1) (x:=⟨8,k,0,0⟩) Ux b J.o.2;clear b an;simp only[nE];go_wp21
  go_end0
  exact⟨Z,c,d,a.o.1,a.o.2.1,a.o.2.2⟩
 .go_wp21;apply(ln s C cb t u v w e y z r A B D _ E p ⟨9,0,0,0⟩ K N).M;rintro F O ⟨rfl,c,d,f,i,b⟩;have a:=EV f (M.T i)<|L.snoc (m:=qz<|q+1) (x:=⟨9,0,0,0⟩) Ux b J.o.2;clear b;go_wp21
  go_end0
  exact⟨Z,c,d,a.o.1,a.o.2.1,a.o.2.2⟩
 .go_wp21;apply(ln s C cb t u v w e y z r A B D _ E p ⟨10,0,0,0⟩ K N).M;rintro F O ⟨rfl,c,d,f,i,b⟩;have a:=EV f (M.T i)<|L.snoc (m:=qz<|q+1) (x:=⟨10,0,0,0⟩) Ux b J.o.2;clear b;go_wp21
  go_end0
  exact⟨Z,c,d,a.o.1,a.o.2.1,a.o.2.2⟩
 .go_wp21;apply(ln s C cb t u v w e y z r A B D _ E p ⟨11,0,0,0⟩ K N).M;rintro F O ⟨rfl,c,d,f,i,b⟩;have a:=EV f (M.T i)<|L.snoc (m:=qz<|q+1) (x:=⟨11,0,0,0⟩) Ux b J.o.2;clear b;go_wp21
  go_end0
  exact⟨Z,c,d,a.o.1,a.o.2.1,a.o.2.2⟩
 .go_wp21;apply(ln s C cb t u v w e y z r A B D _ E p ⟨12,0,0,0⟩ K N).M;rintro F O ⟨rfl,c,d,f,i,b⟩;have a:=EV f (M.T i)<|L.snoc (m:=qz<|q+1) (x:=⟨12,0,0,0⟩) Ux b J.o.2;clear b;go_wp21
  go_end0
  exact⟨Z,c,d,a.o.1,a.o.2.1,a.o.2.2⟩
 .go_wp21;apply(ln s C cb t u v w e y z r A B D _ E p ⟨13,0,0,0⟩ K N).M;rintro F O ⟨rfl,c,d,f,i,b⟩;have a:=EV f (M.T i)<|L.snoc (m:=qz<|q+1) (x:=⟨13,0,0,0⟩) Ux b J.o.2;clear b;go_wp21
  go_end0
  exact⟨Z,c,d,a.o.1,a.o.2.1,a.o.2.2⟩
 .go_wp21;apply(ln s C cb t u v w e y z r A B D _ E p ⟨14,0,0,0⟩ K N).M;rintro F O ⟨rfl,c,d,f,i,b⟩;have a:=EV f (M.T i)<|L.snoc (m:=qz<|q+1) (x:=⟨14,0,0,0⟩) Ux b J.o.2;clear b;go_wp21
  go_end0
  exact⟨Z,c,d,a.o.1,a.o.2.1,a.o.2.2⟩
 .go_wp21;apply(ln s C cb t u v w e y z r A B D _ E p ⟨15,0,0,0⟩ K N).M;rintro F O ⟨rfl,c,d,f,i,b⟩;have a:=EV f (M.T i)<|L.snoc (m:=qz<|q+1) (x:=⟨15,0,0,0⟩) Ux b J.o.2;clear b;go_wp21
  go_end0
  exact⟨Z,c,d,a.o.1,a.o.2.1,a.o.2.2⟩
 .go_wp21;apply(ln s C cb t u v w e y z r A B D _ E p ⟨16,0,0,0⟩ K N).M;rintro F O ⟨rfl,c,d,f,i,b⟩;have a:=EV f (M.T i)<|L.snoc (m:=qz<|q+1) (x:=⟨16,0,0,0⟩) Ux b J.o.2;clear b;go_wp21
  go_end0
  exact⟨Z,c,d,a.o.1,a.o.2.1,a.o.2.2⟩
 .go_wp21;apply(ln s C cb t u v w e y z r A B D _ E p ⟨17,0,0,0⟩ K N).M;rintro F O ⟨rfl,c,d,f,i,b⟩;have a:=EV f (M.T i)<|L.snoc (m:=qz<|q+1) (x:=⟨17,0,0,0⟩) Ux b J.o.2;clear b;go_wp21
  go_end0
  exact⟨Z,c,d,a.o.1,a.o.2.1,a.o.2.2⟩
 .go_wp21;apply(ln s C cb t u v w e y z r A B D _ E p ⟨18,0,0,0⟩ K N).M;rintro F O ⟨rfl,c,d,f,i,b⟩;have a:=EV f (M.T i)<|L.snoc (m:=qz<|q+1) (x:=⟨18,0,0,0⟩) Ux b J.o.2;clear b;go_wp21
  go_end0
  exact⟨Z,c,d,a.o.1,a.o.2.1,a.o.2.2⟩
 .go_wp21;apply(ln s C cb t u v w e y z r A B D _ E p ⟨19,0,0,0⟩ K N).M;rintro F O ⟨rfl,c,d,f,i,b⟩;have a:=EV f (M.T i)<|L.snoc (m:=qz<|q+1) (x:=⟨19,0,0,0⟩) Ux b J.o.2;clear b;go_wp21
  go_end0
  exact⟨Z,c,d,a.o.1,a.o.2.1,a.o.2.2⟩
 .go_wp21;apply(ln s C cb t u v w e y z r A B D _ E p ⟨20,0,0,0⟩ K N).M;rintro F O ⟨rfl,c,d,f,i,b⟩;have a:=EV f (M.T i)<|L.snoc (m:=qz<|q+1) (x:=⟨20,0,0,0⟩) Ux b J.o.2;clear b;go_wp21
  go_end0
  exact⟨Z,c,d,a.o.1,a.o.2.1,a.o.2.2⟩
 .go_wp21;apply(ln s C cb t u v w e y z r A B D _ E p ⟨21,0,0,0⟩ K N).M;rintro F O ⟨rfl,c,d,f,i,b⟩;have a:=EV f (M.T i)<|L.snoc (m:=qz<|q+1) (x:=⟨21,0,0,0⟩) Ux b J.o.2;clear b;go_wp21
  go_end0
  exact⟨Z,c,d,a.o.1,a.o.2.1,a.o.2.2⟩
 .go_wp21;apply(ln s C cb t u v w e y z r A B D _ E p ⟨22,0,0,0⟩ K N).M;rintro F O ⟨rfl,c,d,f,i,b⟩;have a:=EV f (M.T i)<|L.snoc (m:=qz<|q+1) (x:=⟨22,0,0,0⟩) Ux b J.o.2;clear b;go_wp21
  go_end0
  exact⟨Z,c,d,a.o.1,a.o.2.1,a.o.2.2⟩
 go_wp21;apply(ln s C cb t u v w e y z r A B D _ E p ⟨23,0,0,0⟩ K N).M;rintro F O ⟨rfl,c,d,f,i,b⟩;have a:=EV f (M.T i)<|L.snoc (m:=qz<|q+1) (x:=⟨23,0,0,0⟩) Ux b J.o.2;clear b;go_wp21
 go_end0
 exact⟨Z,c,d,a.o.1,a.o.2.1,a.o.2.2⟩
def zb:∀d,Dj d
 |0=>λ_ _ _ _ _ _ _ _ _ _ _ _ _ _ _ _ _ _ _ _ _ _ _ a b=>Y
 |d+1=>Gg d<|xC d<|zb d
def DN(a:Nat):Ao a:=xC a<|zb a
def DU(x f q y)(j k:Nat)(d:Nat)(r s t)(M:ui d r (.slice y j k) s t f)(N:kz mH x f (.slice y j k) q)(O:OJ q)(P:∀a,x a->a<f/\a≠d):
  Calls prog 81 #[.pointer d] f (zZ d r (.slice y j k) s t f):=by
 have Q:=N.len;have aF:j<=2:=W O.len
 have R:=X Q;have aj:=M;have S:=N;have ak:=O;have m:=X P;have⟨al,z⟩:=M;have am:=kr z 1;clear z Q P
 go_enter func81,ntmps81
 go_wp21;clear am;go_loopw [10] (λF wr=>∃c:Nat,c<=j/\F=c/\ui d r (.slice y j k) s t wr/\nZ (λa=>a=d) f wr) (λF _=>j-(intOf F).toNat)
 .exact⟨0,Q1 _,Z,aj,.refl _ _⟩
 obtain⟨c,aG,rfl,u,v⟩:=hrel;have aH:=v.size;by_cases aI:c<j
 .obtain⟨b,G⟩:∃b,q[c]?=some b:=Gx<|W R.o;have T:∀a,x a->wr.heap[a]?=f.heap[a]?:=λa l=>v.B a (m.o a l).1 (m.o a l).2;obtain⟨U,V,an,rfl,aJ,ao,I⟩:=(S.ku mH.ok T).ll mH.ok c b G;have ap:an=[tx b.name,.bool b.init]:=ao;subst ap;have aa:=I 0 _ Z;have aq:=I 1 _ Z;rw[Q3]at aa;have⟨ab,aK⟩:=ak.vH c b G;have ar:=X<|show oX (q.take c) b.name=false from ab;obtain⟨aL,aM⟩:=nL c j;have aN:(c:Int)<=(k:Int):=W R.o.2;clear T ab I G;have ac:=Ba wr<|vl b.name b.init;have au:=(v.T<|.of ac)
  have av:=(u.kv ac u.lt)
  have aw:=X<|QT wr<|vl b.name b.init;have ax:=X<|show(wr.alloc<|vl b.name b.init).heap.size=wr+1 from Us;have aO:=u.lt;go_wp21;apply(uV d r _ s t _ _ av).M;rintro A w ⟨rfl,B,ad,ay⟩;have az:=ax.o;have⟨n,J⟩:=Xq wr.heap.size;have ae:w.heap[n]?=some (vl b.name b.init):=(by rw[J];exact(ad.B _ Y<|by intro A;injection A;omega).T aw.o);rw[<-J];have af:=(au.T<|.grown ad Z)
  have ag:=X ae;have ah:n<w:=Y;have K:=B.lt;have aP:f.heap.size<=w:=Y;clear ay ae az J aa aq u v;go_wp21;refine Ri (λb=>Below w w b) (mU [(·=.pointer d),(·=.pointer d),(·=.pointer d),(·=.pointer d),(Pp d 1),(·=.slice (mw U V) j k),(·=c),(·=.slice (mw U V) c k),(·=.pointer n),(·=tx b.name),(·=.bool false),(·=.bool true),(·=.pointer n),(·=tx b.name),(·=.bool true)]) [] ((Below.refl _ _).drew) ⟨?_,?_,?_,?_,?_,?_,?_,?_,?_,?_,?_,?_,?_,?_,?_,trivial⟩ ?_;exact .f 0;exact .f 0;exact .v 22 1;exact .v 23 2;exact .v 24 3;intro L f e C i D p;have⟨al,z⟩:=B.ku<|e.B d K;exact .l 25 (i 4 _ Z Z) (kr z 1) ⟨Z,e,Qa⟩;exact .f 2;intro L f e C i D p;have aQ:=Sv 26 i 5;have aR:=Sv 27 i 6;exact .q (g:=⟨Z,e,Qa⟩);exact .f 3;exact .l 29 8 λ_ e=>kB ((e.B n ah).T ag.o) 0 _ Z;intro L f e C i D p;have aS:=Sv 28 i 7;have aT:=Sv 30 i 9;refine .c (sx x f _ c k (q.take c) b.name ((S.take c Y).ku mH.ok λa l=>(e.B a<|W<|(m.o a l).1).T<|af.B a (m.o a l).1 (m.o a l).2) Y λa l=>Up ((m.o a l).1) e.size) ?_;rintro A aA ⟨E,aB⟩;rw[ar.o]at E;subst E;exact⟨_,Z,Z,e.T<|aB.M e.size,Qe⟩;exact .v 31 10;exact .f 3;exact .l 33 12 λ_ e=>kB ((e.B n ah).T ag.o) 0 _ Z;intro L f e C i D p;have aU:=Sv 21 i 0;have aV:=Sv 32 i 11;have aW:=Sv 34 i 13;clear C i D p;refine .h λaX aC=>?_;go_simp;refine⟨Z,?_⟩;refine Calls.M (mi d r _ s t f _ _<|B.ku<|e.B d K) ?_;rintro A aA ⟨E,p⟩;subst p;subst E;exact⟨_,Z,aC ⟨Z,e,Qe⟩⟩;intro aY aZ ai aD aE;clear aD aE;simp only[nE];go_wp21;go_roundw
  .exact⟨c+1,Y,Uv,B.ku<|ai.B d K,af.T<|.of ai⟩
  simp[intOf];omega
 obtain rfl:j=c:=Y;go_wp21
 go_end0
 exact⟨Z,u,v⟩
def DV(p i G I)(l q:Nat)(z A)(t B:Nat)(c:Nat)(u v)(ag:ui c u v (.slice I l q) (.slice A t B) i)(ah:kz nV p i (.slice I l q) G)(ai:kz (mn .u8) p i (.slice A t B) z)(aj:OL G z)(bP:z.length<=3)(ak:∀a,p a->a<i/\a≠c):
  Calls prog 82 #[.pointer c] i (zZ c u v (.slice I l q) (.slice A t B) i):=by
 have al:=ah.len;have bQ:l<=90:=W aj.len
 have aO:t<=1000:=W ai.len.1
 have am:=X al;have aP:=ag;have an:=ah;have aQ:=ai;have aR:=aj;have C:=X ak;have⟨ao,r⟩:=ag;have aS:=kr r 2;clear r al ak
 go_enter func82,ntmps82
 go_wp21;clear aS;go_loopw [15] (λs wr=>∃f:Nat,f<=l/\s=f/\ui c u v (.slice I l q) (.slice A t B) wr/\nZ (λa=>a=c) i wr) (λs _=>l-(intOf s).toNat)
 .exact⟨0,Q1 _,Z,aP,.refl _ _⟩
 obtain⟨f,bR,rfl,aT,D⟩:=hrel;have E:=X aT;have bS:=D.size;by_cases bT:f<l
 .obtain⟨b,O⟩:∃b,G[f]?=some b:=Gx<|W am.o;have ap:∀a,p a->wr.heap[a]?=i.heap[a]?:=λa d=>D.B a (C.o a d).1 (C.o a d).2;obtain⟨aq,ar,aU,rfl,bU,aV,J⟩:=(an.ku nV.ok ap).ll nV.ok f b O;have aW:aU=[tx b.a,tx b.b,.int .i64 b.tF]:=aV;subst aW;have au:=J 0 _ Z;have aX:=J 1 _ Z;have aY:=J 2 _ Z;rw[Q3]at au;have⟨bV,bW,aZ,av,aw⟩:=aR.each f b O;have ba:=X av;have bb:=X aw;obtain⟨bX,bY⟩:=nL f l;have bZ:(f:Int)<=(q:Int):=W am.o.2;clear ap J O av aw;have ax:=Ba wr<|yW b.a b.b b.tF;have bc:=X<|D.T<|.of ax;have bd:=(E.o.kv ax E.o.lt)
  have be:=(QT wr<|yW b.a b.b b.tF)
  have bf:=X<|show(wr.alloc<|yW b.a b.b b.tF).heap.size=wr+1 from Us;have ca:=E.o.lt;go_wp21;apply(uV c u v _ _ _ _ bd).M;rintro w j ⟨rfl,ay,az,bg⟩;have bh:=bf.o;have⟨n,P⟩:=Xq wr.heap.size;have aA:j.heap[n]?=some (yW b.a b.b b.tF):=(by rw[P];exact(az.B _ Y<|by intro w;injection w;omega).T be);rw[<-P];have Q:=X ay;have aB:=(bc.o.T<|.grown az Z)
  have bi:n<j:=Y;have R:=ay.lt;have F:=X<|show∀a,p a->a<j from λa d=>W<|(C.o a d).1;have aC:=X<|show∀a,p a->j.heap[a]?=i.heap[a]? from λa d=>aB.B a (C.o a d).1 (C.o a d).2;have⟨⟨bj,bk,bl⟩,_⟩:=lf aA;clear bg bh P au aX aY E D;go_wp21;have S:=X<|Ba j<|.cells #[tx b.a,tx b.b] 9;have aD:=(QT j<|.cells #[tx b.a,tx b.b] 9)
  have aE:(j.alloc<|.cells #[tx b.a,tx b.b] 9).heap.size=j+1:=Us;have⟨T,aF⟩:=Xq j.heap.size;rw[<-aF]at aD aE⊢;have bm:T<(j.alloc<|.cells #[tx b.a,tx b.b] 9).heap.size:=Y;generalize j.alloc (.cells #[tx b.a,tx b.b] 9)=U at*;have bn:j.heap.size<=U:=S.o.size;clear aF aE bj bk bl;go_loopw [36] (λs bo=>∃m:Nat,m<=2/\s=m/\Below U U bo) (λs _=>2-(intOf s).toNat)
  .exact⟨0,Y,Z,Below.refl _ _⟩
  obtain⟨m,cb,rfl,aG⟩:=hrel;have V:=X aG;have bp:=aG.size;have x:=(S.o.T<|V.o.M bn)
  by_cases cc:m<2
  .obtain⟨K,aH,bq⟩:∃K,wr.cell? ⟨T,0+m,none⟩=some (tx K)/\∃br,(z.find? λbs=>bs.name==K)=some br:=by have aI:=(V.o.B T bm).T aD;rcases(show m=0\/m=1 from Y)with rfl|rfl;exact⟨b.a,kr aI 0,aZ⟩;exact⟨b.b,kr aI 1,ba.o⟩
   rw[Re]at aH;have⟨aJ,bt⟩:=bq;have bu:=X<|qX p wr A t B z K (aQ.ku (mn.ok _) λa d=>(x.B a<|F.o a d).T<|aC.o a d) aO λa d=>W<|F.o a d;have⟨ao,r⟩:=Q.o.ku<|x.B c R;have bv:=kr r 3;have cd:(0:Int)<=(m:Int):=Y;have ce:(m:Int)<2:=Y;clear r;go_wp21;apply bu.o.M;rintro w bw ⟨aK,_,bx⟩;obtain⟨cf,rfl,bz⟩:=aK aJ bt;obtain⟨bA,bB,bC,bD,bE,bF,rfl,_⟩:=bz;have aa:=(V.o.T<|bx.M bp)
   have bG:=aa.size;clear aK aH bv;have aL:=(Q.o.ku<|(aa.B c Y).T<|S.o.B c R)
   have aM:=Ba bw<|.cells (hR aJ.name bA bB bC bD bE bF) 98;have bH:=(aL.kv aM aL.lt)
   go_wp21;apply(mi c u v _ _ _ _ _ bH).M;rintro w cg ⟨rfl,rfl⟩;go_wp21;go_roundw
   .exact⟨m+1,Y,Uv,aa.T<|aM.M bG⟩
   simp[intOf];omega
  obtain rfl:m=2:=Y;have ab:=(x.B n bi).T aA;have ac:n<wr:=Y;have L:=X<|Q.o.ku<|x.B c R;have ad:=L.o.lt;skip;go_wp21;refine Ri (λb=>Below wr wr b) (mU [(·=.pointer c),(·=.pointer c),(·=.pointer c),(·=.pointer c),(Pp c 2),(·=.slice (mw aq ar) l q),(·=f),(·=.slice (mw aq ar) f q),(·=.func (.func 133) #[] #[.pointer n]),(·=.bool false),(·=.bool true),(·=.pointer n),(·=tx b.a),(·=.bool true)]) [] ((Below.refl _ _).drew) ⟨?_,?_,?_,?_,?_,?_,?_,?_,?_,?_,?_,?_,?_,?_,trivial⟩ ?_;exact .f 0;exact .f 0;exact .v 57 1;exact .v 58 2;exact .v 59 3;intro ae i e M k N y;have⟨ao,r⟩:=L.o.ku<|e.B c ad;exact .l 60 (k 4 _ Z Z) (kr r 2) ⟨Z,e,Qa⟩;exact .f 2;intro ae i e M k N y;have ch:=Sv 61 k 5;have ci:=Sv 62 k 6;exact .q (g:=⟨Z,e,Qa⟩);exact .f 8;intro ae i e M k N y;have cj:=Sv 63 k 7;have ck:=Sv 64 k 8;refine .c (xX p i _ f q (G.take f) b n ((an.take f Y).ku nV.ok λa d=>(e.B a<|W<|F.o a d).T<|(x.B a<|F.o a d).T<|aC.o a d) Y (λa d=>Up (F.o a d) e.size) (kB ((e.B n ac).T ab) 0 _ Z) (kB ((e.B n ac).T ab) 1 _ Z) (W e.size) bb.o) ?_;rintro w bI ⟨af,bJ⟩;subst af;exact⟨_,Z,Z,e.T<|bJ.M e.size,Qe⟩;exact .v 65 9;exact .f 3;exact .l 67 11 λ_ e=>kB ((e.B n ac).T ab) 0 _ Z;intro ae i e M k N y;have cl:=Sv 56 k 0;have cm:=Sv 66 k 10;have cn:=Sv 68 k 12;clear M k N y;refine .h λco bK=>?_;go_simp;refine⟨Z,?_⟩;refine Calls.M (mi c u v _ _ i _ _<|L.o.ku<|e.B c ad) ?_;rintro w bI ⟨af,y⟩;subst y;subst af;exact⟨_,Z,bK ⟨Z,e,Qe⟩⟩;intro cp cq aN bL bM;have bN:=(x.T<|aN.M Y)
  have bO:=L.o.ku<|aN.B c ad;clear bL bM;simp only[nE];go_wp21;go_roundw
  .exact⟨f+1,Y,Uv,bO,aB.T<|.of bN⟩
  simp[intOf];omega
 obtain rfl:l=f:=Y;go_wp21
 go_end0
 exact⟨Z,E.o,D⟩
def xE(d:Nat)(ap:LU d):E0 d:=by
 intro aq E ar t F G I J p K L M N O P u au av o aw k ax ba e bb l v Q ay;have az:=aw;have w:=k;have aA:=ax;have aB:=v;have aC:=Q;have R:=v.len;have aD:=ay;have aE:=ap;have bc:e<=1000:=Up (C6.len Q) v.len.1
 go_enter func138,ntmps138
 go_wp21;go_loopw [8] (λx wr=>∃(a:Nat) (m:Value) (f:List In),a<=e/\x=a/\my E t F G I J p K L M N O m f wr/\nH t P ar m wr/\na u (400*kT d (l.take a)) f) (λx _=>e-(intOf x).toNat)
 .exact⟨0,P,u,Q1 _,Z,az,.refl _ _ _,by cases d<;>exact na.refl u⟩
 obtain⟨a,m,f,bd,rfl,aF,aG,q⟩:=hrel;have y:=aF;have S:=aG;have z:=q;by_cases be:a<e
 .obtain⟨n,k⟩:∃n,l[a]?=some n:=Gx<|W R;obtain⟨c,g,bf,rfl,T,aH,i⟩:=aB.ll (kR.ok .u8 d) a n k;have aI:=aC n<|QV k;obtain⟨b,bg,bh,bi,p,rfl,A,B,C⟩:=aH.open;subst p;obtain⟨U,V,rfl,_⟩:=A.form;obtain⟨aa,ab,rfl,_⟩:=B.form;obtain⟨ac,ad,rfl,_⟩:=C.form;have j:=y.old (w.lJ c T).1 (w.lJ c T).2;have aJ:=(Cb c (g+a*6+0) j).T<|i 0 _ Z;have bj:=(Cb c (g+a*6+1) j).T<|i 1 _ Z;have bk:=(Cb c (g+a*6+2) j).T<|i 2 _ Z;have aK:=(Cb c (g+a*6+3) j).T<|i 3 _ Z;have aL:=(Cb c (g+a*6+4) j).T<|i 4 _ Z;have aM:=(Cb c (g+a*6+5) j).T<|i 5 _ Z;rw[Q3]at aJ;have bl:=lI.uy (d:=b) k;have bm:=lI.BQ (d:=b+1) l<|a+1;have⟨ae,af,ag,ah,r,s⟩:=n;simp only[St.kind,St.name,St.hd,St.lp,St.th,St.el,J6]at*;have⟨ai,aj⟩:=Xq ah.length;rw[<-aj]at aK A;clear aj;have⟨ak,al⟩:=Xq r.length;rw[<-al]at aL B;clear al;have⟨am,an⟩:=Xq s.length;rw[<-an]at aM C;clear an;have aN:=aI;have aO:=A;have aP:=B;have aQ:=C;obtain⟨bn,bo⟩:=nL a e;have aR:=(show 400*kT (b+1) (l.take a)+400*(1+kT b r+kT b s)<=400*kT (b+1) (l.take<|a+1) from Y)
  have aS:=(show f.length+400*(1+kT b r+kT b s)<=90000 from Up z.len aD)
  have ao:=Ba wr<|mx ae af ag U ai V aa ak ab ac am ad;have aT:=(y.kv ao)
  have aU:=(S.T<|.kv ao)
  go_wp21;apply(aE aq E _ t F G I J p K L M N O m f au av o aT w aA ae af ag ah r s U ai V aa ak ab ac am ad b Z aO aP aQ aN aS).M;rintro bp bq ⟨rfl,aV,aW,aX,aY,aZ⟩;have D:=(GO aX<|GO (aU.T aY)<|z.T aZ aR)
  go_wp21;go_roundw
  .exact⟨a+1,aV,aW,Y,Uv,D.1,D.2.1,D.2.2⟩
  simp[intOf];omega
 obtain rfl:e=a:=Y;go_wp21
 go_end0
 have q:=z;rw[Rh<|W R]at q;exact⟨Z,m,f,y,S,q⟩
def tv.up{a b c}{n m:Nat}(d:tv a b c n)(e:n<=m):tv a b c m:=by have⟨f,g,i⟩:=d;exact⟨f,g,Q8 i e⟩
def rZ.up{b}{c:Nat}{d e f g hd i P j k l m}{n p q:Nat}{r s t:Nat}{u}(a:rZ b c d e f g hd i P j k l m n p q u)(v:n<=r)(w:p<=s)(x:q<=t):rZ b c d e f g hd i P j k l m r s t u:=⟨a.g,a.c,a.r6.up v,a.r7.up w,a.r8.up x,a.d,a.lt⟩
def lI.mP.em{sc q}(r:sc.ints<=3/\sc.params<=2)(u:sc.kN<=2)(s:∀p∈sc.oa,∀e∈p,e<=2)(v:∀B,B<sc.oa.length->∃n∈q,n.name=kV B):∀{d:Nat} {i:St},mP sc d i->C6 q d i
 |0,_,j=>j.elim
 |d+1,i,j=>by
  have C:=j.sub;have l:∀c,lM sc De c->mJ De c:=λc w=>lM.lQ r w;have x:∀c,nz sc De c->mJ De c:=λc w=>nz.lQ r u w;have k:(1<=i.kind/\i.kind<=10)->i.lp.length<=5->(∀c∈i.lp,mJ De c)->(i.kind=6->∃n∈q,n.name=i.name)->C6 q (d+1) i:=λe y D c=>⟨e,y,D,c,λn b=>mP.em r u s v<|C.1 n b,λn b=>mP.em r u s v<|C.2 n b⟩
  rcases j with⟨m,_,_,_,c,b,j⟩|⟨m,_,_,_,_,_,e,y,b,f,z⟩|⟨m,_,_,_,_,_,e,b,f⟩|⟨m,_,_,⟨e,b,f⟩,_,_⟩|⟨m,_,_,_,⟨e,b,f⟩,_⟩|⟨m,_,_,⟨E,p,F,e,t,A,G,_,I⟩,b⟩|⟨m,_,_,_,⟨p,F,e,t,A,_,I⟩,b⟩|⟨m,_,_,_,⟨e,y,b,f,z⟩,_⟩|⟨m,_,_,_,⟨e,b,f⟩,_⟩|⟨m,_,_,_,_,b⟩
  refine k Y (by rw[b];simp) (λg a=>?_) λc=>Y;rw[b]at a;simp at a;subst a;rcases j with⟨_,_,_,j⟩|⟨_,j⟩
  exact l _ j;exact x _ j;exact k Y (by rw[b];simp) (λg a=>by rw[b]at a;simp at a;rcases a with rfl|rfl;exact l _ f;exact l _ z) λc=>Y;exact k Y (by rw[b];simp) (λg a=>by rw[b]at a;simp at a;subst a;exact l _ f) λc=>Y;exact k Y (by rw[b];simp) (λg a=>by rw[b]at a;simp at a;subst a;exact x _ f) λc=>Y;exact k Y (by rw[b];simp) (λg a=>by rw[b]at a;simp at a;subst a;exact x _ f) λc=>Y;exact k Y (W<|s p (List.mem_of_getElem? t) e<|List.mem_of_getElem? A) (λg a=>l _<|b g a) (λ_=>by rw[G];exact v E (List.getElem?_eq_some_iff.1 t).1);exact k Y (W<|s p (List.mem_of_getElem? t) e<|List.mem_of_getElem? A) (λg a=>l _<|b g a) λc=>Y;exact k Y (by rw[b];simp) (λg a=>by rw[b]at a;simp at a;rcases a with rfl|rfl;exact l _ f;exact l _ z) λc=>Y;exact k Y (by rw[b];simp) (λg a=>by rw[b]at a;simp at a;subst a;exact l _ f) λc=>Y;exact k Y (by rw[b];simp) (λg a=>by rw[b]at a;simp at a) λc=>Y
def oH.up{c b d m:Nat}{n:Int}{w}(a:oH c b n d w)(e:d<=m):oH c b n m w:=by have⟨f,a,g⟩:=a;exact⟨f,a,Q8 g<|Sj _ e⟩
def Ih(a b:Nat)(c:b=a+1)(d:a<=1000):IntKind.i64.wrap ((a:Int)+1)=(b:Int)/\IntKind.i64.wrap ((b:Int)-1)=(a:Int):=by subst c;exact Dp a d
