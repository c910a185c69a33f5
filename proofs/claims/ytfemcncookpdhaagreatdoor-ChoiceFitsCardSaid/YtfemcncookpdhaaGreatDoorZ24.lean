import Derived.Test.YtfemcncookpdhaaGreatDoorZ17
import Derived.Test.YtfemcncookpdhaaGreatDoorZ18
import Derived.Test.YtfemcncookpdhaaGreatDoorZ20
set_option maxRecDepth 1000000
set_option maxHeartbeats 32000000
set_option linter.all false
namespace Go.Proofs.YtfemcncookpdhaaGreatDoor
open Go.RowKit lX Go.Proofs.Tryz
theorem EY(x:Int)(w):Calls prog 101 #[.int .u64 x] w (EX w):=by
 have f:(Instr.makeSlice 22 (.int .i64 8) (.int .i64 8)).run prog w=.ok (.slice (some ⟨w,0,none⟩) 8 8) (w.alloc (.cells (madeCells #[.int .u8 0] 8) 5)):=DT 8 8 (NQ _) PJ w;have b:=(Ba w (.cells (madeCells #[.int .u8 0] 8) 5))
 have a:oX (w.alloc (.cells (madeCells #[.int .u8 0] 8) 5)) w 8:=⟨_,NF w _,yM 8,DR 8⟩
 go_enter func101,ntmps101
 go_wp2;generalize w.alloc (.cells (madeCells #[.int .u8 0] 8) 5)=g at*;go_loopw [8] (λi wr=>∃k:Nat,k<=8/\i=k/\oX wr w 8/\Below w w wr) (λi _=>8-(intOf i).toNat);case atStart=>exact⟨0,PJ,rfl,a,b⟩
 case round=>
  obtain⟨k,j,rfl,a,b⟩:=hrel;by_cases c:k<8
  .obtain⟨l,m,n,d⟩:=a.get c;have p:IntKind.i64.wrap (8*(k:Int))=8*(k:Int):=PN;have q:IntKind.i64.wrap (56-8*(k:Int))=56-8*(k:Int):=PN;have r:w.heap.size<wr:=(by obtain⟨s,e,_⟩:=a;exact(NC.1 e).1);go_wp2;go_roundw;case rel=>exact⟨k+1,PJ,PQ,d _,kq b (NQ _)⟩
   case measure=>simp[intOf];omega
  obtain rfl:k=8:=PJ;go_wp2;go_ret;exact⟨rfl,a,b⟩
theorem xk(b n c:Nat)(l w)(h:mH w b)(F:tj w)(q:(1:Nat)≠b)(hs:FB b w l n)(hc:n<=c)(hn:n<=140737488355328):
  Calls prog 60 #[.pointer (some ⟨b,0,none⟩),.slice l n c] w (Kf w b):=by
 have H:=h;have r:=F;have G:=hs
 go_enter func60,ntmps60
 go_wp2_with fail;go_loopw [1] (λp wr=>∃(d:Option Addr) (n' f:Nat),p=.slice d n' f/\n'<=n/\n'<=f/\FB b wr d n'/\mH wr b/\w.grownBy wr (some b)) (λp _=>Me p);case atStart=>exact⟨_,_,_,rfl,NQ _,hc,G,H,lu _ _⟩
 case round=>
  obtain⟨d,n',f,rfl,ac,I,s,g,u⟩:=hrel;have ad:=g.lt;by_cases J:0<n'
  .obtain⟨t,kI,ae,v,af,ag,K,L,_⟩:=g.KR;have ah:(0:Int)<(n':Int):=PJ;have ai:IntKind.i64.wrap (kI:Int)=(kI:Int):=PN;have aj:=C0 b kI v wr;obtain⟨m,hm⟩:=Xq (min n' (64-kI));have M:m<=n':=PJ;have ak:0<m:=PJ;have al:kI+m<=64:=PJ;have N:=NA hm;clear hm;have am:IntKind.u64.wrap (m:Int)=(m:Int):=PN;have an:IntKind.i64.wrap ((kI:Int)+(m:Int))=((kI+m:Nat):Int):=PN;go_upto_region 3 with fail;go_wp2_with (refine xF rfl _ _ rfl b kI n' f (64-kI) d rfl rfl g s v J N.o ?_);intro i x y;obtain⟨ao,O,z⟩:=EZ i d n' f m M I;have P:=NA z;have Q:=(qb u y)
   have R:=(s.grown y)
   obtain⟨j,S,T,A⟩:=x.KS;have U:=NA A;have ap:=x.lt;clear z A K L;have B:=(U.o (IntKind.u64.wrap (j+(m:Int))) (Ke _))
   have k:=(qb Q (kv i b 72 (.int .u64 (IntKind.u64.wrap (j+(m:Int))))))
   have C:=((R.grown (kv i b 72 (.int .u64 (IntKind.u64.wrap (j+(m:Int)))))).low P.o)
   have V:=NA (show∀a,mH a b->w.grownBy a (some b)->Calls prog 100 #[.pointer (some ⟨b,0,none⟩)] a (DV a b)from λa W D=>ID b a W (r.kg (D.B _ r.lt (λe=>q (by injection e))) D.size) q);by_cases aq:kI+m=64
   .have X:((kI:Int)+(m:Int)==64)=true:=(by rw[Pd];omega);go_upto_region 7 with fail;generalize i.setCell ⟨b,72,none⟩ (.int .u64 (IntKind.u64.wrap (j+(m:Int))))=Y at*;clear S T O;go_wp2_with fail;refine(V.o Y B k).M ?_;rintro e ar ⟨rfl,E,Z⟩;have aa:=(qb k E)
    have ab:=(C.grown E)
    go_wp2_with fail;go_roundw;case rel=>exact⟨_,_,_,rfl,PJ,PJ,ab,Z,aa⟩
    case measure=>show n'-m<n';omega
   have X:((kI:Int)+(m:Int)==64)=false:=(by rw[NX];omega);go_wp2_with fail;refine⟨⟨_,_,_,rfl,PJ,PJ,C,B,k⟩,?_⟩;show n'-m<n';omega
  obtain rfl:n'=0:=PJ;go_wp2_with fail
  go_end0
  exact⟨rfl,g,u⟩
theorem xl(w)(fn:Func)(c)(b:Nat)(a)(hr:fn.results=#[ResultVar.cell 2 96])(d:c[2]?=some (.pointer (some ⟨b,0,none⟩)))(hx:w.heap[b]?=some (.cells a 96 (0,0)))(hs:a.size=32):(results fn c).run prog w=.ok (.agg a) w:=by have h:=run_loadVar_mid (P:=prog) w b 0 96 a.toList _ (wP hx) underlying96 rfl (by rw[O8,hs];exact wh);simp[results,hr,d,h,asAddr]
theorem GX(b:Nat)(w)(h:mH w b)(aL:tj w)(ca:(1:Nat)<w):Calls prog 61 #[.pointer (some ⟨b,0,none⟩)] w (Ge w):=by
 obtain⟨ak,hx,_⟩:=id h;obtain⟨al,F⟩:=h.one hx;have Y:=h.lt;have H:=h;have aM:=aL;have S:Below w w (w.alloc (.cells sS 96)):=Ba w _;have D:pB 96 (w.alloc (.cells sS 96)) w 32:=pB.zero (NF _ _);have am:=NA (show(w.alloc (.cells sS 96)).heap[b]?=some (.cells ak 230 (0,0))from(S.B b Y).T hx);have aN:=NA (show(w.alloc (.cells sS 96)).heap.size=w+1 from PK);have T:=NA (And.intro al F);clear h hx al F
 go_enter func61,ntmps61
 go_upto_region 3 with fail;generalize(w.alloc (.cells sS 96))=G at*;obtain⟨f,Z⟩:=Xq w.heap.size;rw[<-Z]at D⊢;have y:=NA Z;clear Z;go_upto_region 4 with(first|(refine wpList_load_mid rfl _ _ rfl b 0 rfl ak.toList _ (wP am.o) underlying230 rfl (by rw[O8,T.o.1];exact yN) ?_)|(refine oU rfl _ _ _ rfl G.heap.size _ _ _ rfl rfl (NF _ _) (by rw[T.o.1];kernel_rfl) (by rw[T.o.1];exact yN) T.o.2 ?_;intro a aa I A))
 obtain⟨j,U⟩:=Xq G.heap.size;rw[NB]at A;rw[<-U]at aa I A⊢;have aO:f<j:=PI aN.o y.o
 have cb:j<a:=PJ
 have cc:b<f:=PH y.o
 have ab:Below j G a:=by rw[U];exact⟨I.os,I.tape,I.output,PJ,λk ac=>(I.B k PO (λe=>by injection e;omega)).T (N6 _ _ ac)⟩
 have an:=((show mH G b from H.kg (S.B b Y)).same am.o aa)
 have aP:=((show mH G b from H.kg (S.B b Y)).kg (ab.B b PJ))
 have aQ:=(D.kg (ab.B f aO))
 have ad:Below f w a:=by rw[y.o];exact S.T (ab.M (PH y.o))
 obtain⟨t,kI,cd,ce,aR,aS,aT,aU,_⟩:=an.KR;have aV:IntKind.i64.wrap (kI:Int)=(kI:Int):=PN
 have aW:IntKind.i64.wrap (56-(kI:Int))=56-(kI:Int):=PN
 have aX:IntKind.i64.wrap (56-(kI:Int)+64)=56-(kI:Int)+64:=PN
 clear aa;have ao:=A;clear A;have cf:=NA U;clear U;have cg:=NA ao;clear ao;go_upto_region 6 with fail;clear aT aU;go_cut [5,23] (λv c ae=>v=.int .i64 (56-(kI:Int))/\c=.bool (decide (56-(kI:Int)<=0))/\ae=a);case first=>go_wp2_with fail;go_meet;exact⟨rfl,rfl,rfl⟩
 case rest=>
  obtain⟨rfl,rfl,rfl⟩:=hcut;obtain⟨a,rfl⟩:=Xq wc;go_step;go_cut [5] (λv ae=>(∃n:Nat,1<=n/\n<=64/\v=n)/\ae=a);case first=>
   by_cases ch:kI<=55
   .have hc:¬(56-(kI:Int)<=0):=PJ;have aY:decide (56-(kI:Int)<=0)=false:=PO;go_wp2_with fail;go_meet;exact⟨⟨56-kI,PJ,PJ,by congr 1;omega⟩,rfl⟩
   have hc:56-(kI:Int)<=0:=PJ;have aY:decide (56-(kI:Int)<=0)=true:=PO;go_wp2_with fail;go_meet;exact⟨⟨120-kI,PJ,PJ,by congr 1;omega⟩,rfl⟩
  case rest=>
   obtain⟨⟨n,ci,cj,rfl⟩,rfl⟩:=hcut;obtain⟨a,rfl⟩:=Xq wc;clear aW aX aV aR aS;obtain⟨m,aZ⟩:=Xq (n+8);have ck:n<=m:=PJ;have cl:m<=72:=PJ;have ba:IntKind.i64.wrap ((n:Int)+8)=(m:Int):=PN;clear aZ;have ap:=DT n m PJ PJ a;obtain⟨g,J⟩:=Xq a.heap.size;rw[<-J]at ap;have V:j<g:=PJ;have K:=NA J;have aq:oX (a.alloc (.cells (madeCells #[.int .u8 0] m) 5)) g m:=⟨_,by rw[J];exact NF _ _,yM _,DR _⟩
   have bb:Below g a (a.alloc (.cells (madeCells #[.int .u8 0] m) 5)):=(by rw[J];exact Ba _ _);have cm:(0:Int)<(n:Int):=PJ;clear J;go_upto_region 9 with fail;generalize a.alloc (.cells (madeCells #[.int .u8 0] m) 5)=ar at*;clear ap ba;have cn:g<ar:=(by obtain⟨_,af,_⟩:=aq;exact(NC.1 af).1);obtain⟨bc,c0,au,av⟩:=aq.get (i:=0) PJ;have aw:=(av 128)
   have E:=(kq (z:=g) (i:=0) (u:=.int .u8 128) bb (NQ _))
   clear av;go_upto_region 10 with fail;generalize ar.setCell ⟨g,0,none⟩ (.int .u8 128)=B at*;clear c0 au;have bd:g=a:=K.o;have co:a.heap.size<=B:=E.size;have cp:g<B:=(by obtain⟨_,af,_⟩:=aw;exact(NC.1 af).1);have be:=aP.kg (E.B b PJ);obtain⟨cq,cr,_,_⟩:=be.KS;have cs:b<B:=PJ;obtain⟨ag,ax,L,bf⟩:=aw;have ay:=oX.ints bf L;have bg:B.ownsRow g 5 1 (.slice (some ⟨g,0,none⟩) n m) n (ag.toList.take n):=⟨by simp[L];omega,.inr ⟨g,m,ag,rfl,NQ _,ax,PJ,PT,PJ,by rw[Og]⟩⟩
   have bh:=NA (show∀u∈ag.toList.take n,∃x:Int,u=.int .u8 x from λu hu=>ay u (OM hu));clear ay ax L;obtain⟨bi,hi,hz0,A,az⟩:=N4 sx;have W:=NA (And.intro hi (And.intro hz0 (And.intro A az)));clear hi hz0 A az;have ct:j<B:=PJ;clear bd;go_wp2_with fail;refine(EY _ B).M ?_;rintro e aA ⟨rfl,aB,l⟩;obtain⟨aC,ah⟩:=Xq B.heap.size;rw[<-ah]at aB l⊢;obtain⟨aD,aE,ai,bj⟩:=aB;have aF:=oX.ints bj ai;have cu:=l.size;have bk:=NA ah;have cv:g<aC:=PJ;have cw:g<=aA:=PJ;have cx:j<aA:=PJ;have bl:=(bg.kept (row:=none) ⟨l.os,l.tape,l.output,l.size,λk ac _=>l.B k PJ⟩ (.inr PS))
   have bm:=NA aE;have bn:aD.toList.length=8:=(by simpa using ai);have aG:=NA aF;clear aE ai aF ah;go_wp2_with (at_builtin;refine Oo _ rfl _ _ 22 rfl g 5 bi (.int .u8 0) 1 1 underlying22 W.o.1 W.o.2.1 W.o.2.2.1 W.o.2.2.2 rfl PM _ _ _ rfl bl ⟨aC,0,none⟩ 8 8 aD.toList rfl (by rw[bn]) ?c1 ?c2 ?c3 ?c4 ?c5 ?_);case c1=>intro bo u bp;rw[kQ,NY];exact kf bm.o bo u (by simpa using bp)
   case c2=>intro u hu;obtain⟨x,rfl⟩:=aG.o u hu;rfl
   case c3=>unfold maxLen;omega
   case c4=>omega
   case c5=>omega
   intro cy aj bq M _;obtain⟨br,c5,rfl,bs,bt⟩:=IE (b:=j) bq (λu hu=>by rcases OI.1 hu with h|h;exact bh.o u h;exact aG.o u h) V PJ;have cz:=M.size;have bu:=K.o;have bv:=bk.o;have X:=NA (show∀q,q<g->aj.heap[q]?=a.heap[q]? from λq N=>(M.B q (PH l.size) PW).T ((l.B q PJ).T (E.B q N)));have O:Below g a aj:=⟨M.os.T (l.os.T E.os),M.tape.T (l.tape.T E.tape),M.output.T (l.output.T E.output),PH l.size,λq N=>X.o q N⟩
   have bw:=(an.kg (X.o j V))
   have bx:=(aM.kg ((X.o _ (PH y.o)).T (ad.B _ (PH y.o))) (PI ad.size O.size))
   have bz:(1:Nat)≠j:=PH y.o;clear bu bv;go_wp2_with fail;refine(xk j (n+8) c5 br aj bw bx bz bt bs PJ).M ?_;rintro e r ⟨rfl,aH,C⟩;have cA:=C.size;have bA:f<r:=PI K.o O.size;have bB:j<r:=aH.lt;have bC:Below f w r:=(ad.T (O.M PJ)).T ⟨C.os,C.tape,C.output,C.size,λq N=>C.B q (PI K.o O.size) (λe=>by injection e;omega)⟩;have bD:=(aQ.kg ((C.B f (PI K.o O.size) (λe=>by injection e;omega)).T (X.o f PJ)))
   obtain⟨d,hd⟩:=Xq r.heap.size;have p:pB 96 (r.alloc (.cells sS 96)) d 32:=pB.zero (by rw[hd];exact NF _ _);have bE:pB 96 (r.alloc (.cells sS 96)) f 32:=bD.kg (N6 _ _ bA);have s:mH (r.alloc (.cells sS 96)) j:=aH.kg (N6 _ _ bB);have bF:Below f w (r.alloc (.cells sS 96)):=bC.alloc PJ _;have cB:f<d:=PJ;have bG:=NA hd;clear hd;go_upto_region 12 with fail;rw[<-bG.o];generalize r.alloc (.cells sS 96)=bH at*;obtain⟨bI,c0⟩:=s.at8 0 PJ;obtain⟨bJ,c1⟩:=s.at8 1 PJ;obtain⟨bK,c2⟩:=s.at8 2 PJ;obtain⟨bL,c3⟩:=s.at8 3 PJ;obtain⟨bM,c4⟩:=s.at8 4 PJ;obtain⟨bN,c5⟩:=s.at8 5 PJ;obtain⟨bO,bP⟩:=s.at8 6 PJ;obtain⟨bQ,bR⟩:=s.at8 7 PJ;have cC:j<bH:=s.lt;go_wp2_with fail;clear c0 c1 c2 c3 c4 c5 bP bR;go_loopw [43] (λi wr=>∃k:Nat,k<=8/\i=k/\pB 96 wr d 32/\pB 96 wr f 32/\Below f w wr) (λi _=>8-(intOf i).toNat);case atStart=>exact⟨0,PJ,rfl,p,bE,bF⟩
   case round=>
    obtain⟨k,ac,rfl,p,D,aI⟩:=hrel;have cD:=p.lt;have cE:=D.lt;by_cases bS:k<8
    .have cF:(0:Int)<=(k:Int):=PJ;have cG:(k:Int)<8:=PJ;obtain⟨cH,cI⟩:=KQ wr k bS bI bJ bK bL bM bN bO bQ;have cJ:IntKind.i64.wrap (4*(k:Int))=((4*k:Nat):Int):=PN;have cK:IntKind.i64.wrap (((4*k:Nat):Int)+1)=((4*k+1:Nat):Int):=PN;have cL:IntKind.i64.wrap (((4*k:Nat):Int)+2)=((4*k+2:Nat):Int):=PN;have cM:IntKind.i64.wrap (((4*k:Nat):Int)+3)=((4*k+3:Nat):Int):=PN;have a0:(0:Int)<=((4*k:Nat):Int):=PJ;have cN:((4*k:Nat):Int)<32:=PJ;obtain⟨bc,cO,au⟩:=p.kI (i:=4*k) PJ;have cP:(0:Int)<=((4*k+1:Nat):Int):=PJ;have cQ:((4*k+1:Nat):Int)<32:=PJ;obtain⟨cR,cS,cT⟩:=p.kI (i:=4*k+1) PJ;have cU:(0:Int)<=((4*k+2:Nat):Int):=PJ;have cV:((4*k+2:Nat):Int)<32:=PJ;obtain⟨cW,cX,cY⟩:=p.kI (i:=4*k+2) PJ;have cZ:(0:Int)<=((4*k+3:Nat):Int):=PJ;have da:((4*k+3:Nat):Int)<32:=PJ;obtain⟨db,dc,dd⟩:=p.kI (i:=4*k+3) PJ;go_wp2_with fail;go_roundw;case rel=>
      refine⟨k+1,PJ,PQ,?_,?_,?_⟩;exact(((p.set (4*k) _).set (4*k+1) _).set (4*k+2) _).set (4*k+3) _;refine D.kg ?_;have bT:f≠d:=PJ;repeat refine(N1 _ _ _ _ bT).T ?_
      rfl;repeat refine kq ?_ PJ
      exact aI
     case measure=>simp[intOf];omega
    obtain rfl:k=8:=PJ;obtain⟨de,rfl⟩:=Xq wr;obtain⟨P,hz,aJ,bU⟩:=id p;have bV:=NA hz;have F:=(p.one hz).2;have bW:=NA F;have Q:=NA (And.intro aJ bU);obtain⟨bX,aK,L,_⟩:=D;have bY:=NA aK;clear hz F aK aJ;go_wp2_with (first|(refine wpList_load_mid rfl _ _ rfl d 0 rfl P.toList _ (wP bV.o) underlying96 rfl (by rw[O8,Q.o.1];exact wh) ?_)|(refine oU rfl _ _ _ rfl f bX P _ rfl rfl bY.o (by rw[L,Q.o.1]) (by rw[Q.o.1];exact wh) bW.o ?_;intro df bZ R dg));have V:=y.o;refine NT (v:=.agg P) (xl _ _ _ f P Tryz.results61 rfl bZ Q.o.1) rfl ⟨⟨P,rfl,Q.o⟩,?_⟩;rw[<-V];exact aI.T ⟨R.os,R.tape,R.output,R.size,λq N=>R.B q PJ (λe=>by injection e;omega)⟩
theorem E0(a:Nat)(f w)(h:uH w a f):Calls prog 36 #[.pointer (some ⟨a,0,none⟩)] w λe w'=>e=.returned (.int .i64 (f.kM.length:Int))/\w'=w:=by
 obtain⟨b,S,c,d,g,i,j,k,l,m,d3,n,c0,c1,c2,c3,c4,hf,_⟩:=h;have hn:=hf.kM.len.1;rw[hn]
 go_enter func36,ntmps36
 go_wp2;go_ret;exact⟨rfl,rfl⟩
end Go.Proofs.YtfemcncookpdhaaGreatDoor
namespace kj
theorem pz.err{l:List lJ}(h:pz l):lW l=0:=by unfold lW;rw[List.all_eq_true.2 h.ok,h.ord.nodup];have:=h.le;simp;omega
theorem pz.set{l:List lJ}(h:pz l):sT l=l:=by unfold sT;rw[if_pos h.err,zQ h.ord]
theorem pZ{x:lJ}(h:si x=true):nC x.ku=true/\(0<=x.t/\x.t<=200)/\(0<=x.d/\x.d<=200):=by unfold si ud mW at h;simp only[Bool.and_eq_true,decide_eq_true_eq]at h;refine⟨h.1.1.1,⟨h.1.1.2.1,?_⟩,⟨?_,?_⟩⟩;have:=h.1.1.2.2;split at this<;>omega;have:=h.1.2.1;unfold xO at this;split at this<;>omega;have:=h.1.2.2;unfold tk at this;split at this;omega;split at this;omega;split at this<;>omega
end kj
namespace Go.Proofs.YtfemcncookpdhaaGreatDoor.C
open Go.RowKit Go.Sort Go.Proofs.Tryz
theorem qi.nil(w)(B:Nat)(a):qi w B a []:=λh=>absurd rfl h
theorem nQ(a:List lM):(kJ a).length=a.length*7:=by
 induction a with
 |nil=>rfl
 |cons p r b=>rw[kJ,List.flatMap_cons,N2,qN,<-kJ,b,OP];omega
theorem vn(c:List lM)(k a:Nat)(p:lM)(b:c[k]?=some p)(e:a<7):(kJ c)[k*7+a]?=(qF p)[a]?:=by
 induction c generalizing k with
 |nil=>simp at b
 |cons q r d=>
  rw[kJ,List.flatMap_cons,<-kJ];cases k with
  |zero=>simp at b;subst b;rw[Ou (by rw[qN];omega)];simp
  |succ k=>rw[OA (by rw[qN];omega),qN,show(k+1)*7+a-7=k*7+a from PJ];exact d k (by simpa using b)
theorem ny.kI{w}{B:Nat}{d}{a:List lM}(h:ny w B d a)(k:Nat)(p:lM)(f:a[k]?=some p):
  ∃b o,d=some ⟨b,o,none⟩/\b<B/\∀c u,p.1.vs[c]?=some u->w.cell? ⟨b,o+k*7+c,none⟩=some u:=by
 have g:kJ a≠[]:=by intro e;have:=nQ a;rw[e]at this;have:k<a.length:=(NW.1 f).1;simp at*;omega
 obtain⟨b,o,e,i,hc⟩:=h.lie g;refine⟨b,o,e,i,λc u hu=>?_⟩;rw[Pk];refine hc _ u ?_;have j:c<7:=by have:=(NW.1 hu).1;simpa[Row.vs]using this
 rw[vn a k c p f j];exact hu
def rR(l:List kj.lJ)(w:World)(e:Ending)(w':World):Prop:=
 ∃(b:Option Addr) (a:List lM) (c:Nat),e=.returned (.tuple #[.slice b a.length c,.int .i64 (kj.lW l)])/\ll a=kj.sT l/\ny w' w' b a/\a.length<=c/\c<=9223372036854775807/\tG w b/\RowKit.Below w w w'
end Go.Proofs.YtfemcncookpdhaaGreatDoor.C
namespace Go.Proofs.YtfemcncookpdhaaGreatDoor.C
open Go.RowKit Go.Proofs.Tryz
theorem mA{P w}(base:Nat)(t)(b:TypeId)(e i)(size:Nat)(a:P.underlying t=some (.slice e))(hi:P.info? e=some i)(v)(n:Nat)(xs)(d:w.ownsRow base e size v n xs)(c:Nat):
  (Builtin.append_ #[t,t] b #[v,.slice none 0 c]).run P w=.ok v w:=by
 rcases d.2 with⟨rfl,rfl⟩|⟨g,j,k,rfl,_,_,f,_⟩
 .simp[Builtin.append_,PB a,sizeOf,typeInfo,hi,Builtin.lenOf,Builtin.firstCells]
 .simp[Builtin.append_,PB a,sizeOf,typeInfo,hi,Builtin.lenOf,Builtin.firstCells,f,storeCells]
theorem qx{P:Program}{w:World}{ops:Array Oper}{rest:List Oper}{o}{a:Act}{Q:Exit->Act->World->Prop}(G:o.guard=none)(s x:Operand)(t:TypeId)
  (I:o.op=.call {callee:=.builtin .append,args:=#[s,x],argTypes:=#[t,t]})
  (base:Nat) (e:TypeId) (i:TypeInfo) (z:Value) (size l:Nat) (D:P.underlying t=some (.slice e)) (hi:P.info? e=some i) (hz:i.zero=some z)
  (J:i.size=size) (L:i.bytes=l) (M:z.cells.size=size) (E:0<size)
  (v:Value) (n:Nat) (xs:List Value) (hs:a.eval s=v) (p:w.ownsRow base e size v n xs)
  (B:Nat) (g:Option Addr) (m c:Nat) (f:List Value) (hx:a.eval x=.slice g m c) (j:mM w B size g m f) (N:∀u∈f,u.oneCell'=true)
  (O:n+m<=maxLen) (R:(n+m)*l<=140737488355328) (S:base<=w.heap.size)
  (h:∀d w',w'.ownsRow base e size d (n+m) (xs++f)->w.grownBy w' v.ownBlock->(d.ownBlock=v.ownBlock\/d.ownBlock=some w.heap.size)->wpList P ops Q rest (a.put o.dst d) w'):wpList P ops Q (o::rest) a w:=by
 have T:∃d w',(Builtin.append_ #[t,t] o.type #[v,.slice g m c]).run P w=.ok d w'/\w'.ownsRow base e size d (n+m) (xs++f)/\w.grownBy w' v.ownBlock/\(d.ownBlock=v.ownBlock\/d.ownBlock=some w.heap.size):=by
  obtain⟨j,F⟩:=j;cases g with
  |none=>
   have hn:f=[]:=by
    cases f with
    |nil=>rfl
    |cons u r=>obtain⟨b,o,e,_⟩:=F PK;cases e
   subst hn;have hm:m=0:=by rcases OL m with q|q;exact q;have:=Nat.mul_pos q E;rw[<-j]at this;exact absurd this PK
   subst hm;exact⟨v,w,mA base t o.type e i size D hi v n xs p c,by simpa using p,World.grownBy.refl w _,.inl rfl⟩
  |some ad=>
   have U:∀k u,f[k]?=some u->w.cell? (ad.add k)=some u:=by intro k u hu;obtain⟨b,o,e,_,hc⟩:=F.kI k u hu;injection e with e;subst e;rw[kQ];exact hc
   obtain⟨d,w',y,A,C,_,V⟩:=run_append_own_at (P:=P) w base t o.type e i z size l D hi hz J L M E v n xs p ad m c f j U N O R S;exact⟨d,w',y,A,C,V⟩
 obtain⟨d,w',y,A,C,W⟩:=T;refine wpList_plain G λK hK=>?_;unfold Oper.wp execOp;simp only[I,resolve,invoke,builtin,Oh,Oi,N8,Oc,Ob,Oe,hs,hx,y];exact hK _ _ (h d w' A C W)
theorem qi.set{w}{B:Nat}{a xs}(h:qi w B a xs)(p u)(d:∀b o,a=some ⟨b,o,none⟩->b≠p.block):qi (w.setCell p u) B a xs:=λhx=>by obtain⟨b,o,e,f,hc⟩:=h hx;refine⟨b,o,e,f,λg v i=>(World.cell?_setCell_other w p _ u (λc=>d b o e ?_)).T (hc g v i)⟩;first|rw[<-c]|rw[c]
def E5(x:kj.lJ)(w:World)(e:Ending)(w':World):Prop:=∃r,e=.returned (pC r)/\mF w' w' r x/\(∀b o,r.p=some ⟨b,o,none⟩->w<=b)/\Below w w w'
theorem uZ(r:Row)(x:kj.lJ)(w)(h:mF w w r x)(hn:x.args.length<=65536):Calls prog 30 #[pC r] w (E5 x w):=by
 obtain⟨l,m,hz0,n,p⟩:=N4 G1;have q:pC r=.agg #[.int .u8 r.ku.kind,r.ku.a,r.ku.b,r.ku.n,r.t,r.d,.slice r.p r.n r.c]:=rfl;rw[q];have f:mM w w 1 r.p r.n (pL x.args):=⟨by simp[pL,h.n],h.lie⟩
 have F:r.n<=65536:=by rw[h.n];exact hn
 have H:=h
 go_enter func30,ntmps30
 go_wp2_with (at_builtin;refine qx rfl _ _ 60 rfl (w.heap.size+2) 2 l _ 1 8 underlying60 m hz0 n p rfl PM (Nl) 0 [] rfl (World.ownsRow_nil _ _ _ _) w r.p r.n r.c (pL x.args) rfl ?c1 (G2 _) ?c3 ?c4 ?c5 ?_);case c1=>exact⟨f.1,f.2.kh ((Ba _ _).alloc PK _) (NQ _)⟩
 case c3=>unfold maxLen;omega
 case c4=>omega
 case c5=>simp
 intro G a g d _;obtain⟨i,c,rfl,s,t,u⟩:=rP g;have y:a.heap[w.heap.size]?=some (.cells #[.int .u8 r.ku.kind,r.ku.a,r.ku.b,r.ku.n,r.t,r.d,.slice r.p r.n r.c] 62 (0,0)):=
  (d.B w PO PS).T ((Ot _ _ _ PK).T (NF w _))
 have z:a.heap[w.heap.size+1]?=some (.cells #[.int .u8 0,.int .i64 0,.int .i64 0,.int .i64 0,.int .i64 0,.int .i64 0,Nl] 62 (0,0)):=by have h:=NF (w.alloc (.cells #[.int .u8 r.ku.kind,r.ku.a,r.ku.b,r.ku.n,r.t,r.d,.slice r.p r.n r.c] 62)) (.cells #[.int .u8 0,.int .i64 0,.int .i64 0,.int .i64 0,.int .i64 0,.int .i64 0,Nl] 62);rw[NB]at h;exact(d.B (w+1) PK PS).T h
 obtain⟨⟨a0,I,J,K,L,M,N⟩,⟨_,_,_,_,_,_,O⟩⟩:=tF y;obtain⟨⟨A,B,C,d3,d4,d5,D⟩,⟨P,Q,R,S,T,U,V⟩⟩:=tF z;have E:Below w w a:=((Ba _ _).alloc PK _).grown d PO (λk e=>by simp[Value.ownBlock]at e);have j:∀b o,i=some ⟨b,o,none⟩->w+2<=b:=λb o e=>mN g b (by rw[e];rfl);have W:w.heap.size+2<=a:=by have:=d.size;simp at this;omega
 go_wp2;refine NT (v:=pC ⟨r.ku,r.t,r.d,i,r.n,c⟩) (by simp[results,Tryz.results30,go_sem,pC,A,B,C,d3,d4,d5,D]) rfl ⟨_,rfl,⟨H.ku,H.t,H.d,H.n,s,t,?_⟩,λb o e=>NR PJ (j b o e),?_⟩;simp only[NM];iterate 8 refine qi.set ?_ _ _ (λb o e=>by have:=j b o e;simp;omega)
 exact u.2;iterate 8 refine Below.setCell ?_ PK _
 exact E
def rD(r:Row):Int:=if kj.ud r.ku r.t r.d r.n=true then 0 else 1
def IL(l:List kj.lJ)(w:World)(e:Ending)(w':World):Prop:=
 ∃(b:Option Addr) (a:List lM) (c:Nat),e=.returned (.tuple #[.agg #[.slice b a.length c],.int .i64 (kj.lW l)])/\ll a=kj.sT l/\ny w' w' b a/\a.length<=c/\c<=9223372036854775807/\Below w w w'
theorem C6(r:Row):rD r=0\/rD r=1:=by unfold rD;split<;>simp
theorem Gg{w}{B:Nat}{r:Row}{x:kj.lJ}(h:mF w B r x)(e:rD r=0):kj.si x=true:=by unfold rD at e;unfold kj.si;rw[<-h.ku,<-h.t,<-h.d,<-h.n];split at e;assumption;exact absurd e PM
theorem Kl{w}{B:Nat}{r:Row}{x:kj.lJ}(h:mF w B r x)(e:rD r=1):kj.si x=false:=by
 unfold rD at e;unfold kj.si;rw[<-h.ku,<-h.t,<-h.d,<-h.n];split at e;exact absurd e PM
 rename_i a;simpa using a
theorem ui{l:List kj.lJ}{n:Int}(h:kj.lW l=n)(hn:n≠0):kj.sT l=[]:=by unfold kj.sT;rw[h,Od hn]
theorem pW(w)(B:Nat)(a):ny w B a []:=⟨qi.nil _ _ _,PK⟩
theorem ny.drewN{w}{B:Nat}{a}{b:List lM}(h:ny w B a b)(n:Nat):ny (w.drewN n) B a b:=
 ⟨h.lie,λp hp=>⟨(h.row p hp).ku,(h.row p hp).t,(h.row p hp).d,(h.row p hp).n,(h.row p hp).c,(h.row p hp).m,(h.row p hp).lie⟩⟩
theorem ny.set{w}{B:Nat}{c}{d:List lM}(h:ny w B c d)(p u)(e:∀b o,c=some ⟨b,o,none⟩->b≠p.block)(f:∀q∈d,∀b o,q.1.p=some ⟨b,o,none⟩->b≠p.block):ny (w.setCell p u) B c d:=
 ⟨h.lie.set p u e,λq a=>⟨(h.row q a).ku,(h.row q a).t,(h.row q a).d,(h.row q a).n,(h.row q a).c,(h.row q a).m,(h.row q a).lie.set p u (f q a)⟩⟩
theorem IM{a b:List lM}{m:Nat}{x c:lM}(hp:(ll b).Perm (ll a))(e:(ll a).all kj.si=true)(hx:b[m]?=some x)(hy:b[m+1]?=some c)(f:x.2.ku=c.2.ku):kj.lW (ll a)=5:=by
 have d:=kj.BC (ll b) m x.2 c.2 (by simp[ll,hx]) (by simp[ll,hy]) f;have g:kj.nj (ll a)=false:=by cases h:kj.nj (ll a);rfl;rw[kj.xn hp.symm h]at d;cases d
 unfold kj.lW;rw[e,g];rfl
theorem IP{c d:List lM}(hp:(ll d).Perm (ll c))(k:(ll c).all kj.si=true)(l:(ll d).Pairwise (λx e=>¬kj.wo e.ku x.ku))
  (m:∀(i:Nat) (x e:lM),d[i]?=some x->d[i+1]?=some e->x.2.ku≠e.2.ku):kj.lW (ll c)=(if 96<c.length then 3 else 0)/\ll d=kj.qo (ll c):=by
 have f:kj.Ord (ll d):=kj.uu _ l (λi a b g j=>by rw[ll,Om,OW]at g j;obtain⟨x,hx,rfl⟩:=g;obtain⟨e,hy,rfl⟩:=j;exact m i x e hx hy)
 have hn:kj.nj (ll c)=true:=kj.xn hp f.nodup;refine⟨?_,kj.GY hn f hp⟩;unfold kj.lW;rw[k,hn];simp[ll]
theorem rj(a:List lM)(n:Nat)(hn:n<=a.length):kJ (a.take n)=(kJ a).take (n*7)/\kJ (a.drop n)=(kJ a).drop (n*7):=by
 have h:=og (a.take n) (a.drop n);rw[Pu]at h;have b:(kJ (a.take n)).length=n*7:=by rw[nQ,N0,Ps hn]
 rw[h];exact⟨(List.take_left' b).symm,(List.drop_left' b).symm⟩
def oq(l:List Nat):List Value:=l.map λ(n:Nat)=>Value.int .u8 (n:Int)
def IX(base n:Nat)(xs:List Value)(l:List Nat)(w:World)(e:Ending)(w':World):Prop:=∃v,e=.returned v/\w'.ownsRow base 5 1 v (n+l.length) (xs++oq l)/\Below base w w'
theorem AX{w:World}{base n:Nat}{v:Value}{xs:List Value}{pre:List Nat}{c:Nat}(h:w.ownsRow base 5 1 v (n+pre.length+1) (xs++(oq pre++[.int .u8 (c:Int)]))):w.ownsRow base 5 1 v (n+(pre++[c]).length) (xs++oq (pre++[c])):=by
 have a:n+(pre++[c]).length=n+pre.length+1:=PO
 have b:xs++oq (pre++[c])=xs++(oq pre++[.int .u8 (c:Int)]):=by simp[oq]
 rw[a,b];exact h
def AY(xs:List Value)(l:List Nat)(w:World)(e:Ending)(w':World):Prop:=∃v,e=.returned v/\w'.ownsRow w 5 1 v (xs.length+l.length) (xs++oq l)/\Below w w w'
end Go.Proofs.YtfemcncookpdhaaGreatDoor.C
namespace Go.Proofs.YtfemcncookpdhaaGreatDoor.C
open Go.RowKit Go.Shelf Go.Sort Go.Proofs.Tryz
def Jg(x a:lM):Int:=kj.B4 x.1.ku a.1.ku
theorem Lt(x a:lM):ltOf Jg x a=true↔kj.wo x.1.ku a.1.ku:=by unfold ltOf Jg;rw[O4];exact kj.DW _ _
theorem vp(x a:lM):ltOf Jg x a=false↔¬kj.wo x.1.ku a.1.ku:=by rw[<-Lt];simp
theorem Mf:SWO (ltOf Jg) where
 irrefl x:=(vp _ _).2 (kj.tP _)
 trans x y z h1 h2:=(Lt _ _).2 (kj.qQ ((Lt _ _).1 h1) ((Lt _ _).1 h2))
 ntrans x y z h1 h2:=by rw[vp]at*;intro h;rcases kj.vg y.1.ku x.1.ku with e|e|e;exact h2 (kj.qQ e h);rw[<-e]at h;exact h2 h;exact h1 e
theorem BI(x a:lM)(w):Calls prog 32 #[.agg (qF x).toArray,.agg (qF a).toArray] w (DY (Jg x a) w):=by
 have c:(qF x).toArray=#[.int .u8 x.1.ku.kind,.int .i64 x.1.ku.a,.int .i64 x.1.ku.b,.int .i64 x.1.ku.n,.int .i64 x.1.t,.int .i64 x.1.d,.slice x.1.p x.1.n x.1.c]:=rfl;have d:(qF a).toArray=#[.int .u8 a.1.ku.kind,.int .i64 a.1.ku.a,.int .i64 a.1.ku.b,.int .i64 a.1.ku.n,.int .i64 a.1.t,.int .i64 a.1.d,.slice a.1.p a.1.n a.1.c]:=rfl;have b:=λW=>BG x.1.ku a.1.ku W;have f:po x.1.ku=.agg #[.int .u8 x.1.ku.kind,x.1.ku.a,x.1.ku.b,x.1.ku.n]:=rfl;have g:po a.1.ku=.agg #[.int .u8 a.1.ku.kind,a.1.ku.a,a.1.ku.b,a.1.ku.n]:=rfl;rw[f,g]at b;rw[c,d];unfold Jg;generalize kj.B4 x.1.ku a.1.ku=n at*
 go_enter func32,ntmps32
 go_wp2_with fail;refine(b _).M ?_;rintro e w' ⟨rfl,i⟩;go_wp2_with fail;go_ret;exact⟨rfl,(((nW.refl _).alloc _).alloc _).T i⟩
theorem IK(blk a size:Nat)(w):CmpLays prog 32 #[] qF 7 Jg blk a size w:=
 λ_ _ _ _ x b=>BI x b _
theorem DZ(b:List lM)(a:Nat)(f:a<b.length*7):(kJ b)[a]?=some ((flatK qF 7 b.toArray)[a]!):=by
 have c:a/7<b.length:=PJ
 have d:=vn b (a/7) (a % 7) b[a/7] (NU c) PJ;rw[show a/7*7+a % 7=a from PJ]at d;rw[d,get_flatK _ _ _ _ (by simpa using f)];have g:b.toArray[a/7]! =b[a/7]:=by simp[c]
 rw[g];have e:a % 7<(qF b[a/7]).length:=by rw[qN];omega
 rw[NU e,List.getElem!_eq_getElem?_getD,NU e];rfl
def Words(w:World)(base:Nat)(v:Value)(xs:List (List UInt8)):Prop:=w.ownsRow base 9 1 v xs.length (strs xs)
theorem yT(w:World)(base:Nat)(xs:List (List UInt8))(a:base<=w)(hm:xs.length<=1000):Words (w.alloc (.cells (strs xs).toArray 9)) base (.slice (some ⟨w,0,none⟩) xs.length xs.length) xs:=by refine⟨by simp[strs],.inr ⟨w,xs.length,(strs xs).toArray,rfl,a,NF w _,NQ _,PT,by simp[strs],by rw[List.toList_toArray,NV (by simp[strs])]⟩⟩
theorem Words.kh{w w'}{base:Nat}{v xs}(h:Words w base v xs)(a:Below w w w'):Words w' base v xs:=sL h a
theorem xp(w)(base:Nat)(v xs)(h:Words w base v xs)(d:0<xs.length)(hm:xs.length<=1000)(f:(Lib.join xs [32]).length<=140737488355328):
  Calls prog 78 #[v,.string ⟨#[32]⟩] w λe w'=>e=.returned (uI (Lib.join xs [32]))/\Below w w w':=by
 obtain⟨g,a,rfl,_,i⟩:=World.ownsRow.form h d;have hc:xs.length<=a:=by
  rcases h.2 with⟨e,_⟩|⟨m,n,p,e,_,_,hc,_⟩
  cases e;injection e with _ _ e;omega
 have b:=Tryz.strings_Join g 0 a (xs.map λl=>⟨l.toArray⟩) ⟨#[32]⟩ w (λj x hx=>by rw[Om,OW]at hx;obtain⟨l,c,rfl⟩:=hx;rw[NY,World.ownsRow.cellAt h j (PH ((NW.1 c).1)),strs,Om,c];rfl) i PO (by simpa using hc)
 have k:(xs.map λl=>(⟨l.toArray⟩:ByteArray)).map (·.data.toList)=xs:=by rw[List.map_map];exact List.map_id'' (λ_=>rfl) xs
 rw[k]at b;simpa using b (by simpa using f)
theorem join_le(B:Nat):∀xs,(∀x∈xs,x.length<=B)->(Lib.join xs [32]).length<=xs.length*(B+1)
 |[],_=>by simp[Lib.join_nil]
 |x::r,h=>by
  rw[Lib.join_length];have:∀ys:List (List UInt8),(∀a∈ys,a.length<=B)->Lib.lens ys<=ys.length*B:=by
   intro ys;induction ys with
   |nil=>intro _;simp[Lib.lens]
   |cons a r b=>intro h;have d:=h a PK;have c:=b (λz hz=>h z (by simp[hz]));simp only[Lib.lens,Ob,List.sum_cons,OP]at*;rw[PF];omega
  have c:=this (x::r) h;simp only[OP,OT]at*;rw[Nat.mul_add];omega
theorem Laid.low{w}(h:Laid w):Low w:=by obtain⟨⟨_,_,a⟩,⟨_,_,b⟩⟩:=h;exact⟨(NC.1 a).1,(NC.1 b).1⟩
theorem Laid.kh{w w'}(h:Laid w)(a:Below w w w'):Laid w':=h.kg h.low a
theorem nY(n:Int)(w)(a:Laid w)(b: -9223372036854775808<=n)(c:n<=9223372036854775807):Calls prog 51 #[.int .i64 n] w (oC (Lib.itoa n) w):=
 Calls.M (Tryz.strconv_Itoa n b c w a.tab) λ_ _ ⟨he,k,os,hw⟩=>⟨he,by rw[hw];exact nW.kh ⟨k,os,rfl⟩ (NQ _)⟩
theorem pc(n:Int)(w)(a:Laid w)(b: -9223372036854775808<=n)(c:n<=9223372036854775807):Calls prog 77 #[.int .i64 n,.int .i64 10] w (oC (Lib.itoa n) w):=
 Calls.M (Tryz.strconv_FormatInt_10 n b c w a.tab) λ_ _ ⟨he,k,os,hw⟩=>⟨he,by rw[hw];exact nW.kh ⟨k,os,rfl⟩ (NQ _)⟩
end Go.Proofs.YtfemcncookpdhaaGreatDoor.C
namespace Go.Proofs.YtfemcncookpdhaaGreatDoor.C
open Go.RowKit Go.Proofs.Tryz
structure Fx(w wx:World)(cs:Array Value)(T:TypeId)(v:Value)(xs:List (List UInt8)):Prop where
 kh:Below w w wx
 laid:Laid wx
 blk:wx.heap[w.heap.size]?=some (.cells cs T (0,0))
 words:Words wx (w+1) v xs
 size:w.heap.size+1<=wx
 low:Low w
theorem Fx.call{w b c d T v xs}(h:Fx w b d T v xs)(a:Below b b c):Fx w c d T v xs:=
 ⟨h.kh.T (a.M h.kh.size),h.laid.kh a,(a.B _ (PH h.size)).T h.blk,h.words.kh a,NR h.size a.size,h.low⟩
theorem Fx.app{w a b d T v e xs ys o}(h:Fx w a d T v xs)(f:(a.alloc o).grownBy b v.ownBlock)(g:b.ownsRow (w+1) 9 1 e (xs.length+ys.length) (strs xs++strs ys)):Fx w b d T e (xs++ys):=by have i:=mN h.words;have j:=f.size;rw[NB]at j;have k:=h.size;have c:Below (w+1) a b:=((Below.refl (w+1) a).alloc k o).grown f PO i;refine⟨h.kh.T (c.M PJ),?_,(c.B _ PJ).T h.blk,?_,PJ,h.low⟩;exact h.laid.kg (h.low.M PJ) c;unfold Words;rw[N2];simpa[strs]using g
theorem qi.grown{w w'}{B:Nat}{a xs row}(h:qi w B a xs)(c:w.grownBy w' row)(i:B<=w)(f:∀b o,a=some ⟨b,o,none⟩->b<B->some b≠row):qi w' w' a xs:=λhx=>by obtain⟨b,o,e,g,hc⟩:=h hx;have:=c.size;exact⟨b,o,e,PJ,λd u hu=>(Cb b (o+d) (c.B b PJ (f b o e g))).T (hc d u hu)⟩
theorem mF.grown{w w'}{B:Nat}{r:Row}{x:kj.lJ}{row}(h:mF w B r x)(a:w.grownBy w' row)(c:B<=w)(d:∀b o,r.p=some ⟨b,o,none⟩->b<B->some b≠row):mF w' w' r x:=
 ⟨h.ku,h.t,h.d,h.n,h.c,h.m,h.lie.grown a c d⟩
theorem yj{P:Program}{w:World}{o:Oper}{a:Act}{K:Act->World->Prop}{Q:Exit->Act->World->Prop}(s x:Operand)(t:TypeId)
  (G:o.op=.call {callee:=.builtin .append,args:=#[s,x],argTypes:=#[t,t]})
  (base:Nat) (e:TypeId) (i:TypeInfo) (z:Value) (size l:Nat) (D:P.underlying t=some (.slice e)) (hi:P.info? e=some i) (hz:i.zero=some z)
  (I:i.size=size) (J:i.bytes=l) (L:z.cells.size=size) (E:0<size)
  (v:Value) (n:Nat) (xs:List Value) (hs:a.eval s=v) (p:w.ownsRow base e size v n xs)
  (B:Nat) (g:Option Addr) (m c:Nat) (f:List Value) (hx:a.eval x=.slice g m c) (j:mM w B size g m f) (M:∀u∈f,u.oneCell'=true)
  (N:n+m<=maxLen) (O:(n+m)*l<=140737488355328) (R:base<=w.heap.size)
  (h:∀d w',w'.ownsRow base e size d (n+m) (xs++f)->w.grownBy w' v.ownBlock->(d.ownBlock=v.ownBlock\/d.ownBlock=some w.heap.size)->K (a.put o.dst d) w'):o.wp P a w K Q:=by
 have S:∃d w',(Builtin.append_ #[t,t] o.type #[v,.slice g m c]).run P w=.ok d w'/\w'.ownsRow base e size d (n+m) (xs++f)/\w.grownBy w' v.ownBlock/\(d.ownBlock=v.ownBlock\/d.ownBlock=some w.heap.size):=by
  obtain⟨j,F⟩:=j;cases g with
  |none=>
   have hn:f=[]:=by
    cases f with
    |nil=>rfl
    |cons u r=>obtain⟨b,o,e,_⟩:=F PK;cases e
   subst hn;have hm:m=0:=by rcases OL m with q|q;exact q;have:=Nat.mul_pos q E;rw[<-j]at this;exact absurd this PK
   subst hm;exact⟨v,w,mA base t o.type e i size D hi v n xs p c,by simpa using p,World.grownBy.refl w _,.inl rfl⟩
  |some ad=>
   have T:∀k u,f[k]?=some u->w.cell? (ad.add k)=some u:=by intro k u hu;obtain⟨b,o,e,_,hc⟩:=F.kI k u hu;injection e with e;subst e;rw[kQ];exact hc
   obtain⟨d,w',y,A,C,_,U⟩:=run_append_own_at (P:=P) w base t o.type e i z size l D hi hz I J L E v n xs p ad m c f j T M N O R;exact⟨d,w',y,A,C,U⟩
 obtain⟨d,w',y,A,C,V⟩:=S;unfold Oper.wp execOp;simp only[G,resolve,invoke,builtin,Oh,Oi,N8,Oc,Ob,Oe,hs,hx,y];exact h d w' A C V
theorem kK{P:Program}{w:World}{ops:Array Oper}{o}{a:Act}{K:Act->World->Prop}{Q:Exit->Act->World->Prop}{j:Prop}(k:o.guard=none)(s x:Operand)(t:TypeId)
  (l:o.op=.call {callee:=.builtin .append,args:=#[s,x],argTypes:=#[t,t]})
  (base:Nat) (e:TypeId) (i:TypeInfo) (z:Value) (size f:Nat) (p:P.underlying t=some (.slice e)) (hi:P.info? e=some i) (hz:i.zero=some z)
  (q:i.size=size) (r:i.bytes=f) (y:z.cells.size=size) (A:0<size)
  (v:Value) (n:Nat) (xs:List Value) (hs:a.eval s=v) (C:w.ownsRow base e size v n xs)
  (B:Nat) (g:Option Addr) (m c:Nat) (b:List Value) (hx:a.eval x=.slice g m c) (D:mM w B size g m b) (E:∀u∈b,u.oneCell'=true)
  (F:n+m<=maxLen) (G:(n+m)*f<=140737488355328) (I:base<=w.heap.size)
  (h:∀d w',w'.ownsRow base e size d (n+m) (xs++b)->w.grownBy w' v.ownBlock->(d.ownBlock=v.ownBlock\/d.ownBlock=some w.heap.size)->K (a.put o.dst d) w'):
  if Region.wanted o (yielded ops a.tmps)=true then Oper.wp P o a w K Q else j:=by
 have hw:Region.wanted o (yielded ops a.tmps)=true:=by simp[Region.wanted,k]
 rw[Oj hw];exact yj s x t l base e i z size f p hi hz q r y A v n xs hs C B g m c b hx D E F G I h
theorem sx:(prog.info? 5).map (λi=>(i.zero,i.size,i.bytes))=some (some (.int .u8 0),1,1):=PL
end Go.Proofs.YtfemcncookpdhaaGreatDoor.C
namespace kj
theorem Gh(l:List lJ)(x:lJ):ins l x=l.take (FK l x.ku)++x::l.drop (FK l x.ku):=by
 induction l with
 |nil=>rfl
 |cons b r a=>
  unfold FK at*;rw[ins,List.takeWhile_cons];split
  rename_i h
  simp only[List.length_cons,List.take_succ_cons,List.drop_succ_cons,List.cons_append];rw[a];simp
theorem Ha(l:List lJ)(k:Key)(i:Nat)(x:lJ)(b:∀(m:Nat) (a:lJ),m<i->l[m]?=some a->BQ a.ku k=false)(hx:l[i]?=some x)(he:BQ x.ku k=true):rq l k=(i:Int):=by
 induction l generalizing i with
 |nil=>simp at hx
 |cons a r c=>
  rw[rq];cases i with
  |zero=>simp at hx;subst hx;rw[if_pos he];rfl
  |succ i=>have d:=b 0 a PJ rfl;have:=c i (λm z hm hz=>b (m+1) z PJ (by simpa using hz)) (by simpa using hx);rw[if_neg (by rw[d];simp),this,if_neg PJ];omega
theorem Da(l:List lJ)(k:Key)(b:∀(m:Nat) (a:lJ),l[m]?=some a->BQ a.ku k=false):rq l k= -1:=by
 induction l with
 |nil=>rfl
 |cons a r c=>have d:=b 0 a rfl;have:=c (λm z hz=>b (m+1) z (by simpa using hz));rw[rq,if_neg (by rw[d];simp),this];rfl
theorem E7(l:List lJ)(k:Key):0<=rq l k↔xQ l k=true:=by
 induction l with
 |nil=>simp[rq,xQ]
 |cons a r b=>
  rw[rq];unfold xQ at*;rw[List.any_cons,Bool.or_eq_true];split
  rename_i h;simp[h]
  rename_i h
  have c:(BQ a.ku k=true\/(r.any λx=>BQ x.ku k)=true)↔0<=rq r k:=by rw[b];exact⟨λe=>e.elim (λe=>absurd e h) id,.inr⟩
  rw[c];split<;>omega
theorem yU(l:List lJ)(k:Key)(m:Nat)(hm:m<=l.length)(b:∀(q:Nat) (a:lJ),q<m->l[q]?=some a->qJ a.ku k=true)(c:∀a,l[m]?=some a->qJ a.ku k=false):FK l k=m:=by
 induction l generalizing m with
 |nil=>simp at hm;subst hm;rfl
 |cons a r d=>
  unfold FK at*;rw[List.takeWhile_cons];cases m with
  |zero=>rw[if_neg (by rw[c a rfl];simp)];rfl
  |succ m=>rw[if_pos (b 0 a PJ rfl),List.length_cons,d m (by simpa using hm) (λq z e hz=>b (q+1) z PJ (by simpa using hz)) (λz hz=>c z (by simpa using hz))]
end kj
namespace Go.Proofs.YtfemcncookpdhaaGreatDoor.C
open Go.RowKit Go.Sort Go.Proofs.Tryz
theorem tG.M{w a c}(h:tG a c)(hs:w.heap.size<=a.heap.size):tG w c:=λb o e=>NR hs (h b o e)
theorem tG.own{w w':World}{base e size n c:Nat}{a:Option Addr}{xs:List Value}(h:w'.ownsRow base e size (.slice a n c) n xs)(d:w<=base):tG w a:=λb o e=>by subst e;exact NR d (mN h b rfl)
theorem mM.grown{W a}{B b size m:Nat}{c row}(h:mM W B size (some ⟨b,0,none⟩) m c)(d:W.grownBy a row)(f:B<=W)(g:some b≠row):mM a a size (some ⟨b,0,none⟩) m c:=
 ⟨h.1,h.2.grown d f (λj k e _=>by injection e with e;injection e with i _;rw[<-i];exact g)⟩
theorem mM.alloc{W}{B size m:Nat}{a b}(h:mM W B size a m b)(c:B<=W)(o):mM (W.alloc o) B size a m b:=
 ⟨h.1,h.2.kh ((RowKit.Below.refl _ _).alloc c o) (NQ _)⟩
theorem mM.drew{W}{B size m:Nat}{a b}(h:mM W B size a m b):mM W.drew B size a m b:=h
theorem wE{W:World}{base e size:Nat}{v:Value}{n:Nat}{xs:List Value}(h:W.ownsRow base e size v n xs){b:Nat}(a:b<base):some b≠v.ownBlock:=λe=>PH (mN h b e.symm)
theorem D2{i}{a:List lM}{r:Row}{x:kj.lJ}{w}{d:World}{e:Value}{m:Nat}(H:ny w w i a)(j:mF w w r x)(hm:m<=a.length)
  (f:d.ownsRow (w+1) 62 7 e (0+m+1+(a.length-m)) ([]++kJ (a.take m)++r.vs++kJ (a.drop m))) (b:RowKit.Below w w d) (k:kj.ins (ll a) x=(ll a).take m++x::(ll a).drop m):
  pX (kj.ins (ll a) x) w (.returned e) d:=by
 obtain⟨l,n,rfl,p,s,t⟩:=rP f;have g:(a.take m++(r,x)::a.drop m).length=0+m+1+(a.length-m):=PO
 have u:kJ (a.take m++(r,x)::a.drop m)=[]++kJ (a.take m)++r.vs++kJ (a.drop m):=by rw[og,List.nil_append,OG];rfl
 refine⟨l,a.take m++(r,x)::a.drop m,n,by rw[g],?_,⟨by rw[u];exact t.2,λq c=>?_⟩,by rw[g];exact p,s,tG.own f PJ,b⟩
 .rw[k,ll,Pw,Ob,List.map_take,List.map_drop];rfl
 .rcases OI.1 c with c|c;exact(H.row q (OM c)).kh b b.size;rcases Oa.1 c with rfl|c;exact j.kh b b.size;exact(H.row q (List.mem_of_mem_drop c)).kh b b.size
theorem Db(Y)(a:List lM)(c:Nat)(r:Row)(x:kj.lJ)(w)(h:ny w w.heap.size Y a)(hn:a.length<=65536)(hc:a.length<=c)(bd:c<=9223372036854775807)(hr:mF w w.heap.size r x):
  Calls prog 104 #[.slice Y a.length c,pC r] w (pX (kj.ins (ll a) x) w):=by
 obtain⟨y,z,hz0,A,B⟩:=N4 uj;have aI:pC r=.agg #[.int .u8 r.ku.kind,r.ku.a,r.ku.b,r.ku.n,r.t,r.d,.slice r.p r.n r.c]:=rfl;rw[aI];have H:=h;have ak:=hr;clear aI
 go_enter func104,ntmps104
 go_wp2_with fail;go_loopw [5] (λi wr=>∃m:Nat,i=m/\m<=a.length/\(∀(q:Nat) (M:kj.lJ),q<m->(ll a)[q]?=some M->kj.qJ M.ku x.ku=true)/\wr.heap[w.heap.size]?=some (.cells #[.int .u8 r.ku.kind,r.ku.a,r.ku.b,r.ku.n,r.t,r.d,.slice r.p r.n r.c] 62 (0,0))/\Below w.heap.size w wr) (λi _=>a.length-(intOf i).toNat);case atStart=>exact⟨0,rfl,NP _,λq M aJ=>absurd aJ PJ,NF w _,Ba _ _⟩
 case round=>
  obtain⟨m,rfl,hm,aK,al,U⟩:=hrel;have am:=NA aK;have V:=NA al;have an:=U.size;obtain⟨⟨a0,ah,ai,aj,ao,ap,aq⟩,_⟩:=tF al;clear aK al;have Z:=ak.ku;have aQ:(m<a.length/\∃p,a[m]?=some p/\kj.qJ p.1.ku r.ku=true)\/(m<a.length/\(∃p,a[m]?=some p/\kj.qJ p.1.ku r.ku=false)/\kj.ins (ll a) x=(ll a).take m++x::(ll a).drop m)\/(¬m<a.length/\kj.ins (ll a) x=(ll a).take m++x::(ll a).drop m):=by
   by_cases N:m<a.length
   .obtain⟨p,D⟩:∃p,a[m]?=some p:=Gx N;have aR:=(H.row p (NH D)).ku;cases J:kj.qJ p.1.ku r.ku
    .refine .inr (.inl ⟨N,⟨p,D,J⟩,?_⟩);rw[kj.Gh,kj.yU (ll a) x.ku m PZ am.o (λM hy=>?_)];simp only[ll,Om,D,Pe,Option.some.injEq]at hy;rw[<-hy,<-aR,<-Z];exact J
    .exact .inl ⟨N,p,D,J⟩
   .refine .inr (.inr ⟨N,?_⟩);rw[kj.Gh,kj.yU (ll a) x.ku m PZ am.o (λM hy=>?_)];have:=(NW.1 hy).1;simp[ll]at this;omega
  have ar:=OE a0;have au:=OE ah;have av:=OE ai;have aw:=OE aj;clear a0 ah ai aj ao ap aq;have aL:∀W:World,Below w.heap.size w W->mM W w.heap.size 7 Y m (kJ (a.take m)):=λW ax=>⟨by rw[nQ,N0,Ps hm],by rw[(rj a m hm).1];exact(H.lie.take _).kh ax (NQ _)⟩
  have aM:∀W:World,Below w.heap.size w W->mM W w.heap.size 7 (if c=m then Y else Option.map (λx=>x.add (m*7)) Y) (a.length-m) (kJ (a.drop m)):=λW ax=>⟨by rw[nQ,List.length_drop],by rw[(rj a m hm).2];exact(H.lie.cut m a.length c (nQ a) hc).kh ax (NQ _)⟩
  have X:=NA aL;have aN:=NA aM;have be:m<=c:=PJ;clear aL aM;rcases aQ with⟨N,p,D,J⟩|⟨N,⟨p,D,J⟩,aa⟩|⟨N,aa⟩
  .obtain⟨b,o,rfl,ay,hc⟩:=H.kI m p D;have E:∀q u,p.1.vs[q]?=some u->wr.cell? ⟨b,o+m*7+q,none⟩=some u:=λq u hu=>(U.cell (p:=⟨b,o+m*7+q,none⟩) ay).T (hc q u hu);have c0:wr.cell? ⟨b,o+m*7,none⟩=some (.int .u8 p.1.ku.kind):=E 0 _ rfl;have az:=OE c0;have aA:=OE (E 1 _ rfl);have aB:=OE (E 2 _ rfl);have d3:=OE (E 3 _ rfl);have ab:∀d os,Calls prog 153 #[.agg #[.int .u8 p.1.ku.kind,p.1.ku.a,p.1.ku.b,p.1.ku.n],.agg #[.int .u8 r.ku.kind,r.ku.a,r.ku.b,r.ku.n]] (grow (redrawn wr d) os) λe aC=>e=.returned (.bool true)/\∃p:Regrown,aC=grow (redrawn wr p.d) p.os:=λd os=>by have h:=vI p.1.ku r.ku (grow (redrawn wr d) os);rw[J]at h;exact Calls.regrown_of h
   have aO:(ll a)[m]?=some p.2:=(by simp[ll,D]);have aP:kj.qJ p.2.ku x.ku=true:=(by rw[<-(H.row p (NH D)).ku,<-Z];exact J);have aS:=NA aO;have aT:=NA aP;have ac:=NA ab;have aU:(0:Int)<=(m:Int):=PJ;have aV:(m:Int)<(a.length:Int):=PJ;clear c0 E hc ab aO aP D J Z;go_wp2_with fail;refine Px PL PL ?_;repeat (first|go_big_quiet_step (exact ac.o _ _)|quiet_step (exact ac.o _ _))
   refine wpQuiet_nil ?_;rintro w' ⟨C,rfl⟩;have L:=below_regrown wr C.d C.os;have v:=(U.T (L.M an))
   have O:=NA ((L.B _ ((NC.1 V.o).1)).T V.o);generalize grow (redrawn wr C.d) C.os=f at*;clear az aA aB d3 ar au av aw;go_wp2_with fail;go_roundw;case rel=>
    refine⟨m+1,PQ,PJ,λq M aJ hy=>?_,O.o,v⟩;by_cases aW:q=m
    .subst aW;rw[aS.o]at hy;cases hy;exact aT.o
    .exact am.o q M PJ hy
   case measure=>simp[intOf];omega
  .obtain⟨b,o,rfl,ay,hc⟩:=H.kI m p D;have E:∀q u,p.1.vs[q]?=some u->wr.cell? ⟨b,o+m*7+q,none⟩=some u:=λq u hu=>(U.cell (p:=⟨b,o+m*7+q,none⟩) ay).T (hc q u hu);have c0:wr.cell? ⟨b,o+m*7,none⟩=some (.int .u8 p.1.ku.kind):=E 0 _ rfl;have az:=OE c0;have aA:=OE (E 1 _ rfl);have aB:=OE (E 2 _ rfl);have d3:=OE (E 3 _ rfl);have ab:∀d os,Calls prog 153 #[.agg #[.int .u8 p.1.ku.kind,p.1.ku.a,p.1.ku.b,p.1.ku.n],.agg #[.int .u8 r.ku.kind,r.ku.a,r.ku.b,r.ku.n]] (grow (redrawn wr d) os) λe aC=>e=.returned (.bool false)/\∃p:Regrown,aC=grow (redrawn wr p.d) p.os:=λd os=>by have h:=vI p.1.ku r.ku (grow (redrawn wr d) os);rw[J]at h;exact Calls.regrown_of h
   have aD:=NA aa;have ac:=NA ab;have aU:(0:Int)<=(m:Int):=PJ;have aV:(m:Int)<(a.length:Int):=PJ;clear c0 E hc ab aa D J Z;go_wp2_with fail;refine Px PL PL ?_;repeat (first|go_big_quiet_step (exact ac.o _ _)|quiet_step (exact ac.o _ _))
   refine wpQuiet_nil ?_;rintro w' ⟨C,rfl⟩;have L:=below_regrown wr C.d C.os;have v:=(U.T (L.M an))
   have O:=NA ((L.B _ ((NC.1 V.o).1)).T V.o);generalize grow (redrawn wr C.d) C.os=f at*;clear az aA aB d3 ar au av aw;go_wp2_with fail;obtain⟨⟨a0,ah,ai,aj,ao,ap,aq⟩,_⟩:=tF O.o;have ad:w.heap.size<f.heap.size:=(NC.1 O.o).1;have aX:(0:Int)<=(m:Int):=PJ;have aY:(m:Int)<=(a.length:Int):=PJ;have aZ:(a.length:Int)<=(c:Int):=PJ;have ba:(m:Int)<=(c:Int):=PJ;have l:w.heap.size<=f.heap.size:=N9 ad;have P:w.heap.size+1<=f.heap.size:=ad;by_cases Q:c=m
   .exfalso;omega
   all_goals
    go_region_held3 (λw'=>w'.cell? ⟨w.heap.size,0,none⟩=some (.int .u8 r.ku.kind)/\w'.cell? ⟨w.heap.size,1,none⟩=some (.int .i64 r.ku.a)/\w'.cell? ⟨w.heap.size,2,none⟩=some (.int .i64 r.ku.b)/\w'.cell? ⟨w.heap.size,3,none⟩=some (.int .i64 r.ku.n)/\w'.cell? ⟨w.heap.size,4,none⟩=some (.int .i64 r.t)/\w'.cell? ⟨w.heap.size,5,none⟩=some (.int .i64 r.d)/\w'.cell? ⟨w.heap.size,6,none⟩=some (.slice r.p r.n r.c))
     (first|go_keep|(go_split_ands;refine⟨?_,?_,?_,?_,?_,?_,?_⟩<;>(rw[j.cell_far _ PO PW];assumption))|(go_split_ands;refine⟨?_,?_,?_,?_,?_,?_,?_⟩<;>(rw[n.cell_far _ (by show w.heap.size<_;first|omega|(rw[NB];omega)) (wE s (by show w.heap.size<_;omega))];assumption))|(go_split_ands;refine⟨?_,?_,?_,?_,?_,?_,?_⟩<;>(rw[ae.cell_far _ (by show w.heap.size<_;omega) (wE F (by show w.heap.size<_;omega))];assumption)))
     (first|(refine kK (by rfl) (.tmp 22) (.tmp 25) _ (by rfl) (w.heap.size+1) 62 y _ 7 72 underlying26 z hz0 A B rfl PM (.slice (some ⟨f.heap.size,0,none⟩) 0 0) 0 [] (by rfl) ?_ w.heap.size _ m _ (kJ (a.take m)) (by rfl) ?_ (mK _) ?_ ?_ ?_ ?_;(exact(tK f _ P).drew);(exact X.o _ ((v.alloc l _).drew));(unfold maxLen;omega);omega;(first|(show w.heap.size+1<=(World.alloc _ _).heap.size;rw[NB];omega)|(show w.heap.size+1<=(World.alloc (World.alloc _ _) _).heap.size;rw[NB,NB];omega)|omega);intro G g s j R;have af:f.heap.size+1<=g.heap.size:=NR (by first|(show _<=(World.alloc _ _).heap.size;rw[NB];omega)|(show _<=(World.alloc (World.alloc _ _) _).heap.size;rw[NB,NB];omega)) j.size;have I:RowKit.Below w.heap.size w g:=RowKit.Below.grown ((v.alloc l _).drew) j (NR l (by first|(show _<=(World.alloc _ _).heap.size;rw[NB];omega)|(show _<=(World.alloc (World.alloc _ _) _).heap.size;rw[NB,NB];omega))) (λk e=>by simp[Value.ownBlock]at e;omega))|(refine kK (by rfl) (.tmp 22) (.tmp 25) _ (by rfl) (w.heap.size+1) 62 y _ 7 72 underlying26 z hz0 A B rfl PM (.slice (some ⟨f.heap.size,0,none⟩) 0 0) 0 [] (by rfl) ?_ w.heap.size _ m _ (kJ (a.take m)) (by rfl) ?_ (mK _) ?_ ?_ ?_ ?_;(exact((tK f _ P).alloc _).drew);(exact X.o _ (((v.alloc l _).alloc (by rw[NB];omega) _).drew));(unfold maxLen;omega);omega;(first|(show w.heap.size+1<=(World.alloc _ _).heap.size;rw[NB];omega)|(show w.heap.size+1<=(World.alloc (World.alloc _ _) _).heap.size;rw[NB,NB];omega)|omega);intro G g s j R;have af:f.heap.size+1<=g.heap.size:=NR (by first|(show _<=(World.alloc _ _).heap.size;rw[NB];omega)|(show _<=(World.alloc (World.alloc _ _) _).heap.size;rw[NB,NB];omega)) j.size;have I:RowKit.Below w.heap.size w g:=RowKit.Below.grown (((v.alloc l _).alloc (by rw[NB];omega) _).drew) j (NR l (by first|(show _<=(World.alloc _ _).heap.size;rw[NB];omega)|(show _<=(World.alloc (World.alloc _ _) _).heap.size;rw[NB,NB];omega))) (λk e=>by simp[Value.ownBlock]at e;omega))|(refine kK (by rfl) (.tmp 22) (.tmp 25) _ (by rfl) (w.heap.size+1) 62 y _ 7 72 underlying26 z hz0 A B rfl PM (.slice (some ⟨f.heap.size+1,0,none⟩) 0 0) 0 [] (by rfl) ?_ w.heap.size _ m _ (kJ (a.take m)) (by rfl) ?_ (mK _) ?_ ?_ ?_ ?_;(exact(Cl f _ _ P).drew);(exact X.o _ (((v.alloc l _).alloc (by rw[NB];omega) _).drew));(unfold maxLen;omega);omega;(first|(show w.heap.size+1<=(World.alloc _ _).heap.size;rw[NB];omega)|(show w.heap.size+1<=(World.alloc (World.alloc _ _) _).heap.size;rw[NB,NB];omega)|omega);intro G g s j R;have af:f.heap.size+1<=g.heap.size:=NR (by first|(show _<=(World.alloc _ _).heap.size;rw[NB];omega)|(show _<=(World.alloc (World.alloc _ _) _).heap.size;rw[NB,NB];omega)) j.size;have I:RowKit.Below w.heap.size w g:=RowKit.Below.grown (((v.alloc l _).alloc (by rw[NB];omega) _).drew) j (NR l (by first|(show _<=(World.alloc _ _).heap.size;rw[NB];omega)|(show _<=(World.alloc (World.alloc _ _) _).heap.size;rw[NB,NB];omega))) (λk e=>by simp[Value.ownBlock]at e;omega))|(refine kK (by rfl) (.tmp 26) (.tmp 28) _ (by rfl) (w.heap.size+1) 62 y _ 7 72 underlying26 z hz0 A B rfl PM G (0+m) ([]++kJ (a.take m)) (by rfl) ?_ (g.heap.size+1) (some ⟨g.heap.size,0,none⟩) 1 1 r.vs (by rfl) ?_ ?_ ?_ ?_ ?_ ?_;(exact s.alloc _);(exact zh g r);(simp[Row.vs,Value.oneCell']);(unfold maxLen;omega);omega;(rw[NB];omega);intro S t F n T;have ag:g.heap.size<=t.heap.size:=NR (by rw[NB];omega) n.size;have K:RowKit.Below w.heap.size w t:=RowKit.Below.grown (I.alloc PJ _) n (by rw[NB];omega) (λk e=>PH (mN s k e)))|(refine kK (by rfl) (.tmp 26) (.tmp 28) _ (by rfl) (w.heap.size+1) 62 y _ 7 72 underlying26 z hz0 A B rfl PM G (0+m) ([]++kJ (a.take m)) (by rfl) ?_ g.heap.size (some ⟨f.heap.size+1,0,none⟩) 1 1 r.vs (by rfl) ?_ ?_ ?_ ?_ ?_ ?_;(exact s);(exact(by have h:=(zh (f.alloc (.cells #[] 62)) r).drew;rw[NB]at h;exact h.grown j (by show _<=(World.alloc (World.alloc _ _) _).heap.size;rw[NB,NB];omega) PS));(simp[Row.vs,Value.oneCell']);(unfold maxLen;omega);omega;omega;intro S t F n T;have ag:g.heap.size<=t.heap.size:=NR (NQ _) n.size;have K:RowKit.Below w.heap.size w t:=RowKit.Below.grown (I) n PJ (λk e=>PH (mN s k e)))|(refine kK (by rfl) (.tmp 26) (.tmp 28) _ (by rfl) (w.heap.size+1) 62 y _ 7 72 underlying26 z hz0 A B rfl PM G (0+m) ([]++kJ (a.take m)) (by rfl) ?_ g.heap.size (some ⟨f.heap.size,0,none⟩) 1 1 r.vs (by rfl) ?_ ?_ ?_ ?_ ?_ ?_;(exact s);(exact(((zh f r).alloc (by rw[NB];omega) _).drew.grown j (by show _<=(World.alloc (World.alloc _ _) _).heap.size;rw[NB,NB];omega) PS));(simp[Row.vs,Value.oneCell']);(unfold maxLen;omega);omega;omega;intro S t F n T;have ag:g.heap.size<=t.heap.size:=NR (NQ _) n.size;have K:RowKit.Below w.heap.size w t:=RowKit.Below.grown (I) n PJ (λk e=>PH (mN s k e)))|(refine kK (by rfl) (.tmp 29) (.tmp 32) _ (by rfl) (w.heap.size+1) 62 y _ 7 72 underlying26 z hz0 A B rfl PM S (0+m+1) ([]++kJ (a.take m)++r.vs) (by rfl) ?_ w.heap.size _ (a.length-m) _ (kJ (a.drop m)) (by rfl) ?_ (mK _) ?_ ?_ ?_ ?_;(exact F);(have h:=aN.o t K;first|(rw[Oj Q]at h;exact h)|(rw[Od Q]at h;exact h)|(rw[Od Q,Pe,kQ]at h;exact h));(unfold maxLen;omega);omega;omega;intro bb bc aE ae aF))
    all_goals
     have aG:=RowKit.Below.grown K ae PJ (λk e=>PH (mN F k e));have aH:=(D2 H ak hm aE aG aD.o)
     clear R T aF;go_wp2_with fail;go_ret;exact aH
  .have aD:=NA aa;have bf:decide ((m:Int)<(a.length:Int))=false:=PO;clear aa Z;go_wp2_with fail;refine Px PL PL ?_;repeat (first|go_big_quiet_step (fail)|quiet_step (fail))
   refine wpQuiet_nil ?_;rintro w' ⟨C,rfl⟩;have L:=below_regrown wr C.d C.os;have v:=(U.T (L.M an))
   have O:=NA ((L.B _ ((NC.1 V.o).1)).T V.o);generalize grow (redrawn wr C.d) C.os=f at*;clear ar au av aw;go_wp2_with fail;obtain⟨⟨a0,ah,ai,aj,ao,ap,aq⟩,_⟩:=tF O.o;have ad:w.heap.size<f.heap.size:=(NC.1 O.o).1;have aX:(0:Int)<=(m:Int):=PJ;have aY:(m:Int)<=(a.length:Int):=PJ;have aZ:(a.length:Int)<=(c:Int):=PJ;have ba:(m:Int)<=(c:Int):=PJ;have l:w.heap.size<=f.heap.size:=N9 ad;have P:w.heap.size+1<=f.heap.size:=ad;by_cases Q:c=m;all_goals
    go_region_held3 (λw'=>w'.cell? ⟨w.heap.size,0,none⟩=some (.int .u8 r.ku.kind)/\w'.cell? ⟨w.heap.size,1,none⟩=some (.int .i64 r.ku.a)/\w'.cell? ⟨w.heap.size,2,none⟩=some (.int .i64 r.ku.b)/\w'.cell? ⟨w.heap.size,3,none⟩=some (.int .i64 r.ku.n)/\w'.cell? ⟨w.heap.size,4,none⟩=some (.int .i64 r.t)/\w'.cell? ⟨w.heap.size,5,none⟩=some (.int .i64 r.d)/\w'.cell? ⟨w.heap.size,6,none⟩=some (.slice r.p r.n r.c))
     (first|go_keep|(go_split_ands;refine⟨?_,?_,?_,?_,?_,?_,?_⟩<;>(rw[j.cell_far _ PO PW];assumption))|(go_split_ands;refine⟨?_,?_,?_,?_,?_,?_,?_⟩<;>(rw[n.cell_far _ (by show w.heap.size<_;first|omega|(rw[NB];omega)) (wE s (by show w.heap.size<_;omega))];assumption))|(go_split_ands;refine⟨?_,?_,?_,?_,?_,?_,?_⟩<;>(rw[ae.cell_far _ (by show w.heap.size<_;omega) (wE F (by show w.heap.size<_;omega))];assumption)))
     (first|(refine kK (by rfl) (.tmp 22) (.tmp 25) _ (by rfl) (w.heap.size+1) 62 y _ 7 72 underlying26 z hz0 A B rfl PM (.slice (some ⟨f.heap.size,0,none⟩) 0 0) 0 [] (by rfl) ?_ w.heap.size _ m _ (kJ (a.take m)) (by rfl) ?_ (mK _) ?_ ?_ ?_ ?_;(exact(tK f _ P).drew);(exact X.o _ ((v.alloc l _).drew));(unfold maxLen;omega);omega;(first|(show w.heap.size+1<=(World.alloc _ _).heap.size;rw[NB];omega)|(show w.heap.size+1<=(World.alloc (World.alloc _ _) _).heap.size;rw[NB,NB];omega)|omega);intro G g s j R;have af:f.heap.size+1<=g.heap.size:=NR (by first|(show _<=(World.alloc _ _).heap.size;rw[NB];omega)|(show _<=(World.alloc (World.alloc _ _) _).heap.size;rw[NB,NB];omega)) j.size;have I:RowKit.Below w.heap.size w g:=RowKit.Below.grown ((v.alloc l _).drew) j (NR l (by first|(show _<=(World.alloc _ _).heap.size;rw[NB];omega)|(show _<=(World.alloc (World.alloc _ _) _).heap.size;rw[NB,NB];omega))) (λk e=>by simp[Value.ownBlock]at e;omega))|(refine kK (by rfl) (.tmp 22) (.tmp 25) _ (by rfl) (w.heap.size+1) 62 y _ 7 72 underlying26 z hz0 A B rfl PM (.slice (some ⟨f.heap.size,0,none⟩) 0 0) 0 [] (by rfl) ?_ w.heap.size _ m _ (kJ (a.take m)) (by rfl) ?_ (mK _) ?_ ?_ ?_ ?_;(exact((tK f _ P).alloc _).drew);(exact X.o _ (((v.alloc l _).alloc (by rw[NB];omega) _).drew));(unfold maxLen;omega);omega;(first|(show w.heap.size+1<=(World.alloc _ _).heap.size;rw[NB];omega)|(show w.heap.size+1<=(World.alloc (World.alloc _ _) _).heap.size;rw[NB,NB];omega)|omega);intro G g s j R;have af:f.heap.size+1<=g.heap.size:=NR (by first|(show _<=(World.alloc _ _).heap.size;rw[NB];omega)|(show _<=(World.alloc (World.alloc _ _) _).heap.size;rw[NB,NB];omega)) j.size;have I:RowKit.Below w.heap.size w g:=RowKit.Below.grown (((v.alloc l _).alloc (by rw[NB];omega) _).drew) j (NR l (by first|(show _<=(World.alloc _ _).heap.size;rw[NB];omega)|(show _<=(World.alloc (World.alloc _ _) _).heap.size;rw[NB,NB];omega))) (λk e=>by simp[Value.ownBlock]at e;omega))|(refine kK (by rfl) (.tmp 22) (.tmp 25) _ (by rfl) (w.heap.size+1) 62 y _ 7 72 underlying26 z hz0 A B rfl PM (.slice (some ⟨f.heap.size+1,0,none⟩) 0 0) 0 [] (by rfl) ?_ w.heap.size _ m _ (kJ (a.take m)) (by rfl) ?_ (mK _) ?_ ?_ ?_ ?_;(exact(Cl f _ _ P).drew);(exact X.o _ (((v.alloc l _).alloc (by rw[NB];omega) _).drew));(unfold maxLen;omega);omega;(first|(show w.heap.size+1<=(World.alloc _ _).heap.size;rw[NB];omega)|(show w.heap.size+1<=(World.alloc (World.alloc _ _) _).heap.size;rw[NB,NB];omega)|omega);intro G g s j R;have af:f.heap.size+1<=g.heap.size:=NR (by first|(show _<=(World.alloc _ _).heap.size;rw[NB];omega)|(show _<=(World.alloc (World.alloc _ _) _).heap.size;rw[NB,NB];omega)) j.size;have I:RowKit.Below w.heap.size w g:=RowKit.Below.grown (((v.alloc l _).alloc (by rw[NB];omega) _).drew) j (NR l (by first|(show _<=(World.alloc _ _).heap.size;rw[NB];omega)|(show _<=(World.alloc (World.alloc _ _) _).heap.size;rw[NB,NB];omega))) (λk e=>by simp[Value.ownBlock]at e;omega))|(refine kK (by rfl) (.tmp 26) (.tmp 28) _ (by rfl) (w.heap.size+1) 62 y _ 7 72 underlying26 z hz0 A B rfl PM G (0+m) ([]++kJ (a.take m)) (by rfl) ?_ (g.heap.size+1) (some ⟨g.heap.size,0,none⟩) 1 1 r.vs (by rfl) ?_ ?_ ?_ ?_ ?_ ?_;(exact s.alloc _);(exact zh g r);(simp[Row.vs,Value.oneCell']);(unfold maxLen;omega);omega;(rw[NB];omega);intro S t F n T;have ag:g.heap.size<=t.heap.size:=NR (by rw[NB];omega) n.size;have K:RowKit.Below w.heap.size w t:=RowKit.Below.grown (I.alloc PJ _) n (by rw[NB];omega) (λk e=>PH (mN s k e)))|(refine kK (by rfl) (.tmp 26) (.tmp 28) _ (by rfl) (w.heap.size+1) 62 y _ 7 72 underlying26 z hz0 A B rfl PM G (0+m) ([]++kJ (a.take m)) (by rfl) ?_ g.heap.size (some ⟨f.heap.size+1,0,none⟩) 1 1 r.vs (by rfl) ?_ ?_ ?_ ?_ ?_ ?_;(exact s);(exact(by have h:=(zh (f.alloc (.cells #[] 62)) r).drew;rw[NB]at h;exact h.grown j (by show _<=(World.alloc (World.alloc _ _) _).heap.size;rw[NB,NB];omega) PS));(simp[Row.vs,Value.oneCell']);(unfold maxLen;omega);omega;omega;intro S t F n T;have ag:g.heap.size<=t.heap.size:=NR (NQ _) n.size;have K:RowKit.Below w.heap.size w t:=RowKit.Below.grown (I) n PJ (λk e=>PH (mN s k e)))|(refine kK (by rfl) (.tmp 26) (.tmp 28) _ (by rfl) (w.heap.size+1) 62 y _ 7 72 underlying26 z hz0 A B rfl PM G (0+m) ([]++kJ (a.take m)) (by rfl) ?_ g.heap.size (some ⟨f.heap.size,0,none⟩) 1 1 r.vs (by rfl) ?_ ?_ ?_ ?_ ?_ ?_;(exact s);(exact(((zh f r).alloc (by rw[NB];omega) _).drew.grown j (by show _<=(World.alloc (World.alloc _ _) _).heap.size;rw[NB,NB];omega) PS));(simp[Row.vs,Value.oneCell']);(unfold maxLen;omega);omega;omega;intro S t F n T;have ag:g.heap.size<=t.heap.size:=NR (NQ _) n.size;have K:RowKit.Below w.heap.size w t:=RowKit.Below.grown (I) n PJ (λk e=>PH (mN s k e)))|(refine kK (by rfl) (.tmp 29) (.tmp 32) _ (by rfl) (w.heap.size+1) 62 y _ 7 72 underlying26 z hz0 A B rfl PM S (0+m+1) ([]++kJ (a.take m)++r.vs) (by rfl) ?_ w.heap.size _ (a.length-m) _ (kJ (a.drop m)) (by rfl) ?_ (mK _) ?_ ?_ ?_ ?_;(exact F);(have h:=aN.o t K;first|(rw[Oj Q]at h;exact h)|(rw[Od Q]at h;exact h)|(rw[Od Q,Pe,kQ]at h;exact h));(unfold maxLen;omega);omega;omega;intro bb bc aE ae aF))
    all_goals
     have aG:=RowKit.Below.grown K ae PJ (λk e=>PH (mN F k e));have aH:=(D2 H ak hm aE aG aD.o)
     clear R T aF;go_wp2_with fail;go_ret;exact aH
theorem ny.take{w}{B:Nat}{b}{a:List lM}(h:ny w B b a)(k:Nat)(c:k<=a.length):ny w B b (a.take k):=
 ⟨by rw[(rj a k c).1];exact h.lie.take _,λp hp=>h.row p (OM hp)⟩
theorem Jh.kh{w0 w w' v}{l:List kj.lJ}(h:Jh w0 w v l)(a:RowKit.Below w w w'):Jh w0 w' v l:=by obtain⟨b,d,c,e,f,g,i,j⟩:=h;exact⟨b,d,c,e,f,g.kh a a.size,i,j⟩
theorem wR{l:List kj.lJ}{w w'}{n:Int}(h:kj.lW l=n)(hn:n≠0)(a:RowKit.Below w.heap.size w w'):rR l w (.returned (.tuple #[Nl,n])) w':=
 ⟨none,[],0,by rw[h];rfl,by rw[ui h hn];rfl,pW _ _ _,NQ _,PJ,tG.none _,a⟩
end Go.Proofs.YtfemcncookpdhaaGreatDoor.C
namespace Go.Proofs.YtfemcncookpdhaaGreatDoor
open Go.RowKit lX Go.Proofs.Tryz
theorem sM{e a b:Nat}{n t d:Int}{p}{m c:Nat}(h:C.rD ⟨⟨(e:Int),(a:Int),(b:Int),n⟩,t,d,p,m,c⟩=0)(i:e≠1/\e≠5/\e≠6/\e≠7):b=0:=by
 unfold C.rD at h;split at h
 rename_i hc
 unfold kj.ud kj.nC at hc;simp only[OD]at hc;have f:=hc.1.1.1.1.2;have g:kj.qm (e:Int)=false:=by unfold kj.qm;simp;omega
 rw[g]at f;unfold kj.mW at f;simp at f;omega;cases h
end Go.Proofs.YtfemcncookpdhaaGreatDoor
namespace Go.Proofs.YtfemcncookpdhaaGreatDoor.C
open Go.RowKit Go.Proofs.Tryz
theorem IY(base n:Nat)(v xs)(x:Nat)(w)(hx:x<18446744073709551616)(a:w.ownsRow base 5 1 v n xs)(hn:n<=1048576)(G:base<=w.heap.size):
  Calls prog 79 #[v,.int .u64 (x:Int)] w (IX base n xs (kj.na x) w):=by
 obtain⟨l,m,hz0,q,r⟩:=N4 sx;have I:=a;have s:=hx
 go_enter func79,ntmps79
 go_wp2_with fail;go_loopw [0,1] (λp e wr=>∃(f:Nat) (z:Nat) (pre:List Nat),e=.int .u64 (z:Int)/\z<128^(f+1)/\Nz z/\f<=10/\pre++kj.xP f z=kj.na x/\wr.ownsRow base 5 1 p (n+pre.length) (xs++oq pre)/\Below base w wr) (λ_ e _=>(intOf e).toNat);case atStart=>exact⟨10,x,[],rfl,PH s,s,PJ,rfl,by simpa[oq]using I,Below.refl _ _⟩
 case round=>
  obtain⟨f,z,pre,rfl,hz,J,hf,i,a,t⟩:=hrel;have d:=a;have u:=t;have y:=NA i;have A:=NR G t.size;have S:pre.length<=11:=by have b:=Oy List.length i;have T:=kj.qM x;rw[N2]at b;omega
  have B:=hz;have K:=J;clear i;by_cases U:128<=z
  .have L:∃g,f=g+1:=by
    cases f with
    |zero=>have:=B;simp at this;omega
    |succ g=>exact⟨g,rfl⟩
   obtain⟨g,rfl⟩:=L;obtain⟨c,C,M⟩:∃c:Nat,c=z % 128+128/\bits .or .u8 ((z:Int) % 256) 128=(c:Int):=⟨_,rfl,K3 z⟩
   have N:=NA C;clear C;go_wp2_with (at_builtin;refine Oo _ rfl _ _ 22 rfl base 5 l _ 1 1 underlying22 m hz0 q r rfl PM _ _ _ rfl (d.alloc _) ⟨wr,0,none⟩ 1 1 [.int .u8 (c:Int)] rfl rfl ?c1 ?c2 ?c3 ?c4 ?c5 ?_);case c1=>exact lU wr [.int .u8 (c:Int)] 5
   case c2=>simp[Value.oneCell']
   case c3=>unfold maxLen;omega
   case c4=>omega
   case c5=>simp;omega
   intro D E a j _;have O:=(AX a)
   have k:=((u.alloc A _).grown j PO (mN d))
   clear M;go_wp2_with fail;refine⟨⟨g,z/128,pre++[c],PQ,?_,?_,PJ,?_,O,k⟩,?_⟩;have b:=B;rw[Nat.pow_succ]at b;exact Nat.div_lt_of_lt_mul (by rw[Nat.mul_comm];exact b);have b:z<18446744073709551616:=K;show z/128<18446744073709551616;omega;rw[<-y.o,kj.xP,Od PJ,N.o];simp;simp[intOf];omega
  have F:kj.xP f z=[z]:=by
   cases f with
   |zero=>rfl
   |succ g=>rw[kj.xP,Oj PJ]
  have P:=NA F;clear F;go_wp2_with (at_builtin;refine Oo _ rfl _ _ 22 rfl base 5 l _ 1 1 underlying22 m hz0 q r rfl PM _ _ _ rfl (d.alloc _) ⟨wr,0,none⟩ 1 1 [.int .u8 (z:Int)] rfl rfl ?c1 ?c2 ?c3 ?c4 ?c5 ?_);case c1=>exact lU wr [.int .u8 (z:Int)] 5
  case c2=>simp[Value.oneCell']
  case c3=>unfold maxLen;omega
  case c4=>omega
  case c5=>simp;omega
  intro D E a j _;have Q:E.ownsRow base 5 1 D (n+(kj.na x).length) (xs++oq (kj.na x)):=by rw[<-y.o,P.o];exact AX a
  have R:=Q;have k:=((u.alloc A _).grown j PO (mN d))
  go_wp2_with fail;go_ret;exact⟨_,rfl,R,k⟩
theorem rY(a)(c:Nat)(xs)(x:Nat)(w)(hx:x<18446744073709551616)(s:qi w w a xs)(d:∀u∈xs,u.oneCell'=true)(hn:xs.length<=1000000):
  Calls prog 42 #[.slice a xs.length c,.int .u64 (x:Int)] w (AY xs (kj.na x) w):=by
 obtain⟨f,g,hz0,i,j⟩:=N4 sx;have t:=hx;have v:=s;have y:=d;clear d
 go_enter func42,ntmps42
 go_wp2_with (first
  |(at_make;refine wpList_make_own _ rfl _ _ 22 rfl w.heap.size 5 f _ 1 underlying22 g hz0 i .i64 .i64 _ (xs.length+10) rfl rfl PK (by rw[j];omega) PT (NQ _) ?_;intro w0 l b;have m:=((Below.refl w w).grown b (NQ _) (λk e=>by cases e));have n:=l;have p:=b.size;clear l b)
  |(at_builtin;refine qx rfl _ _ 22 rfl w.heap.size 5 f _ 1 1 underlying22 g hz0 i j rfl PM _ 0 [] rfl n w a xs.length c xs rfl ?c1 y ?c3 ?c4 p ?_))
 case c1=>exact⟨PK,v.kh m (NQ _)⟩
 case c3=>unfold maxLen;omega
 case c4=>omega
 intro q z A r _;have B:=(m.grown r p (mN n))
 have C:Hid (z.ownsRow w 5 1 q xs.length xs):=NA (by simpa using A);have G:=r.size;go_wp2_with fail;refine(IY w xs.length q xs x _ t C.o PJ PJ).M ?_;rintro e I ⟨J,rfl,D,E⟩;have F:=(B.T E)
 go_wp2_with fail;go_ret;exact⟨_,rfl,D,F⟩
end Go.Proofs.YtfemcncookpdhaaGreatDoor.C
