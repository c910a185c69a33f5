import Derived.Test.YtppncjcpdbhobaaGreatDoorZ10
import Derived.Test.YtppncjcpdbhobaaGreatDoorZ11
import Derived.Test.YtppncjcpdbhobaaGreatDoorZ12
set_option maxRecDepth 1000000
set_option maxHeartbeats 32000000
set_option linter.all false
namespace Go.Proofs.YtppncjcpdbhobaaGreatDoor
open RowKit Go.Proofs.Tryz lI Maps oZ qQ ChangeShapes WideShapes ChangeAt
def sW(m w c)(d e:Nat)(f)(g i:Nat)(j)(k l:Nat)(b)(z:lY w)(A:pX m w c d e f g i j k l b)(B:mo b):
  Calls prog 42 #[.agg<|mc b.name c d e f g i j k l] w (kH (.int .i64 0) w):=by
 have p:Below w w<|w.alloc<|.cells (mc b.name c d e f g i j k l) 52:=Ba _ _;have u:=QT w<|.cells (mc b.name c d e f g i j k l) 52;have J:(w.alloc<|.cells (mc b.name c d e f g i j k l) 52).heap.size=w+1:=Us
 have q:=(A.kv p)
 have r:=B;have s:=(z.to p)
 go_enter func42,ntmps42
 go_wp21;generalize w.alloc (.cells (mc b.name c d e f g i j k l) 52)=v at*;have x:w.heap.size<v:=Y
 apply(Gd m v c d e f g i j k l b s q r).M;rintro y C ⟨rfl,a⟩;generalize C=n at*;have⟨⟨D,E,F,G⟩,_⟩:=kL<|(a.B _ x).T u
 go_wp21;apply(Gc m n c d e f g i j k l b (s.to a) (q.kv a) r).M;rintro y I ⟨rfl,t⟩;have a:=(a.T<|t.M a.size)
 generalize n=K at*;generalize I=n at*;have⟨⟨D,E,F,G⟩,_⟩:=kL<|(a.B _ x).T u
 go_wp21;apply(DM m n c d e f g i j k l b (s.to a) (q.kv a) r).M;rintro y L ⟨rfl,t⟩;have a:=(a.T<|t.M a.size)
 go_wp21;go_ret;exact⟨Z,p.T<|a.M Y⟩
def DX(am w)(V:List UInt8)(aa:Option Addr)(ab ac:Nat)(M)(j N:Nat)(f)(an:kz (nu .u8) am w (.slice M j N) f)(ao:∀d,am d->d<w)(br:j<=4)(ap:∀aO∈f,aO.length<=100):
  Calls prog 45 #[.agg<|hR V aa ab ac M j N] w (mV (lK [] f) w):=by
 have⟨aP,aQ,aR,aS,aT⟩:=Rm rI;have aU:=an;have O:=X ao;have aV:=X ap;have aq:=X an.len;have aW:=Ba w<|.cells (hR V aa ab ac M j N) 98;clear ao ap
 go_enter func45,ntmps45
 go_wp21;generalize w.alloc (.cells (hR V aa ab ac M j N) 98)=bs at*;go_loopw [3,11] (λP m wr=>∃a:Nat,a<=j/\m=a/\kJ kO 9 1 (λ_=>False) wr w P (lK []<|f.take a)/\(lK []<|f.take a).length<=100*a/\Below w w wr) (λ_ m _=>j-(intOf m).toNat)
 .exact⟨0,Q1 _,Z,kJ.nil _ _ _ _ _ _,by simp[lK],aW⟩
 obtain⟨a,bt,rfl,e,aX,g⟩:=hrel;obtain⟨x,y,rfl,ad,aY⟩:=e.form;have ae:=g.size;by_cases bu:a<j
 .obtain⟨k,Q⟩:∃k,f[a]?=some k:=Gx<|W aq.o;obtain⟨bv,bw,aZ,rfl,bx,af,n⟩:=(aU.ku (nu.ok _) λd l=>g.B d<|O.o d l).ll (nu.ok _) a k Q;obtain⟨P,rfl,ag⟩:=af;obtain⟨ar,au,rfl,ba⟩:=ag.form;have p:=n 0 _ Z;rw[Q3,RA]at p;have bb:=aV.o k<|QV Q;have av:=X<|CI [] Q;have⟨s,ah⟩:=Xq<|lK []<|f.take a;rw[<-ah]at e aX av;have⟨q,ai⟩:=Xq k.length;rw[<-ai]at ag p bb ba;have aw:=X ai;have⟨ax,aj⟩:=Xq s.length;have R:=X aj;obtain⟨bz,bA⟩:=nL a j;have ak:=Ba wr<|oe ar q au;have ay:=(g.T<|ak.M ae)
  have bc:=(e.kv kO.ok ak)
  have bd:=(ag.ku (mv.ok .u8) λd l=>ak.B d<|W<|O.o d l)
  rw[<-ah,<-aj];clear n Q ai ah aj;go_wp21;clear p;generalize wr.alloc (oe ar q au)=bB at*;go_loopw [3,18] (λP m wr=>∃(b:Nat),b<=q/\m=b/\kJ kO 9 1 (λ_=>False) wr w P (mW s<|k.take b)/\(mW s<|k.take b).length<=ax+b/\Below w w wr) (λ_ m _=>q-(intOf m).toNat)
  .exact⟨0,Q1 _,Z,by rw[R.o];exact bc,by rw[R.o];simp[mW],ay⟩
  obtain⟨b,bC,rfl,e,r,g⟩:=hrel;obtain⟨x,y,rfl,ad,aY⟩:=e.form;have e:=e;have g:=g;have ae:=g.size;by_cases bD:b<q
  .obtain⟨t,al⟩:∃t,k[b]?=some t:=Gx<|W aw.o;obtain⟨bE,bF,aZ,rfl,bG,af,n⟩:=(bd.ku (mv.ok .u8) λd l=>(g.B d<|O.o d l).T (ay.B d<|O.o d l).symm).ll (mv.ok .u8) b t al;obtain⟨be,bH,rfl,bf,bg⟩:=af;obtain⟨z,A,rfl,_⟩:=bf.form;obtain⟨B,C,rfl,_⟩:=bg.form;have p:=n 0 _ Z;have az:=n 1 _ Z;have aA:=n 2 _ Z;rw[Q3]at p;have u:=X<|CH s al;have⟨i,aB⟩:=Xq<|mW s<|k.take b;rw[<-aB]at e r u ad⊢;have⟨D,S⟩:=Xq i.length;have T:=X S;have bI:D<=ax+b:=W r;have bh:D<=1000:=Up r R.o;rw[<-S]at ad⊢;have⟨E,aC⟩:=Xq t.params.length;have⟨F,aD⟩:=Xq t.body.length;have⟨c,aE⟩:=Xq t.name;rw[<-aC]at az;rw[<-aD]at aA;rw[<-aE]at p u;obtain⟨bJ,bK⟩:=nL b q;have aF:=Ba wr<|.cells (hR c z E A B F C) 111;have aG:=(g.T<|aF.M ae)
   have U:=(show kJ kO 9 1 (λ_=>False) (wr.alloc<|.cells (hR c z E A B F C) 111) w (x,D,y) i by have aH:=e.kv kO.ok aF;rw[<-S]at aH;exact aH)
   have aI:=X<|QT wr<|.cells (hR c z E A B F C) 111;have G:(wr.alloc<|.cells (hR c z E A B F C) 111).heap.size=wr+1:=Us;have bi:=X G;clear n al aB S aC aD aE G e g r;go_upto_region 8 with fail;have G:=bi.o;have⟨bL,aJ⟩:=Xq wr.heap.size;rw[<-aJ]at aI G⊢;generalize wr.alloc (.cells (hR c z E A B F C) 111)=I at*;have bj:w.heap.size<=I:=Y;have bM:=kr aI.o 0;clear G aJ p az aA;have bk:=U.sl kO.ok;go_wp21;refine(pM (λaK=>(False\/w<=aK)/\aK<I) I x D y i c bk bh λd l=>l.2).M ?_;rintro aL bN ⟨rfl,rfl⟩;by_cases v:c∈i
   .have J:decide (c∈i)=true:=(by simpa using v);rw[J];have K:pY i c=i:=(by unfold pY;rw[RG v]);have L:=X K;clear K J v;go_wp21;go_roundw
    .exact⟨b+1,Y,Uv,by rw[u.o,L.o];exact U,by rw[u.o,L.o,<-T.o];omega,aG⟩
    simp[intOf];omega
   have J:decide (c∈i)=false:=(by simpa using v);rw[J];have K:pY i c=i++[c]:=(by unfold pY;rw[Rl v]);have L:=X K;clear K J v;go_wp2_with (at_builtin;(refine kM Z _ _ 62 Z w.heap.size 9 aP _ 1 16 underlying62 aQ aR aS aT Z kO.ok (λ_=>False) (x,D,y) i Z (U.kv kO.ok<|Ba _ _) ⟨I,0,none⟩ [tx c] c Z (mD I [tx c] 9) Z ?c3 ?c4 ?c5 ?_));case c3=>rw[<-T.o];unfold maxLen;omega
   case c4=>rw[<-T.o];omega
   case c5=>simp;omega
   intro be bO bl bm _;have bn:=((aG.alloc bj<|.cells #[tx c] 9).grown bm Uw λbo aL=>(U.ge bo aL).1)
   go_wp21;go_roundw
   .exact⟨b+1,Y,Uv,by rw[u.o,L.o];exact bl,by rw[u.o,L.o,Q6,<-T.o];simp;omega,bn⟩
   simp[intOf];omega
  obtain rfl:b=q:=Y;have aM:mW s (k.take b)=lK [] (f.take<|a+1):=(by rw[Rh<|W aw.o];exact av.o.symm);rw[aM]at e r⊢;clear aM;go_wp21;go_roundw
  .exact⟨a+1,Y,Uv,e,by have:=r;have:=r;have:=R.o;omega,g⟩
  simp[intOf];omega
 obtain rfl:a=j:=Y;go_wp21;go_ret;refine⟨_,Z,?_,g⟩;have aN:=e;have bp:f.take a=f:=Rh<|W aq.o;have bq:kJ kO 9 1 (λ_=>False) wr w (.slice x (lK []<|f.take a).length y)<|lK [] f:=(by rw[bp]at aN⊢;exact aN);exact bq
def yl.put{d t}{cb pb:Nat}{P k l m n p vQ u c}(a:yl d t cb pb P k l m n p vQ u c){e}{f g:Nat}{q}(r:kJ C7 148 3 P c d (.slice e f g) q):Oj d cb pb P k l m n p q f<|c.setCell pb<|.slice e f g:=by have⟨D,E,v⟩:=a.lt;have⟨w,x,y,z,b,A,B,C⟩:=a.c;have i:=r.ge;have F:=a.ws;refine⟨e,g,a.g.T<|nZ.set<|.inr Z,⟨w,x,y,z,b,A,B,(Rf _ _ _ _ v).T C⟩,kt a.p,r.grown C7.ok (kE c pb 0 _) (λj b=>by injection b with b;subst b;exact⟨a.np.2,λb=>W<|(i _ b.symm).1⟩),QZ _,λj s=>⟨(i j s).1,by rw[QW];exact(i j s).2⟩,by rw[QW];exact a.g.size,a.lt,a.np⟩
def D3(t w e)(f i:Nat)(m)(n p:Nat)(j)(c k:Nat)(b)(ay:lY w)(s:pX t w e f i m n p j c k b)(az:mo b)(V:JZ b):
  Calls prog 44 #[.agg<|mc b.name e f i m n p j c k] w (kH (.tuple #[PX,.int .i64 0]) w):=by
 have N:Below w w<|((w.alloc<|.cells (mc b.name e f i m n p j c k) 52).alloc qk).alloc<|pf b.name e f i m n p j c k:=((Ba _ _).alloc Us _).alloc Uw _;have aa:(((w.alloc<|.cells (mc b.name e f i m n p j c k) 52).alloc qk).alloc<|pf b.name e f i m n p j c k).heap.size=w+3:=Us
 have ab:(((w.alloc<|.cells (mc b.name e f i m n p j c k) 52).alloc qk).alloc<|pf b.name e f i m n p j c k).heap[w.heap.size]?=some (.cells (mc b.name e f i m n p j c k) 52):=(R3 _ _ _ Uw).T<|(R3 _ _ _ Us).T<|QT w _;have ac:(((w.alloc<|.cells (mc b.name e f i m n p j c k) 52).alloc qk).alloc<|pf b.name e f i m n p j c k).heap[w.heap.size+1]?=some qk:=(R3 _ _ _ Us).T (by have:=QT (w.alloc<|.cells (mc b.name e f i m n p j c k) 52) qk;rw[QU]at this;exact this);have ad:(((w.alloc<|.cells (mc b.name e f i m n p j c k) 52).alloc qk).alloc<|pf b.name e f i m n p j c k).heap[w.heap.size+2]?=some (pf b.name e f i m n p j c k):=by have:=QT ((w.alloc<|.cells (mc b.name e f i m n p j c k) 52).alloc qk)<|pf b.name e f i m n p j c k;rw[QU,QU]at this;exact this
 have y:=X s;have aA:=X ay;have aB:=X az;have I:=X V;have ae:=V.kF;have bk:c<=3:=W s.kF.len.1
 have aC:=X s.kF.len;have⟨O,A⟩:=Xq<|((w.alloc<|.cells (mc b.name e f i m n p j c k) 52).alloc qk).alloc<|pf b.name e f i m n p j c k;rw[<-A]at N aa ab ac ad;have aD:=X A;have J:=X N;have K:=X ab;have af:=X ac;have P:=X ad;have Q:w.heap.size<=O:=N.size;clear A
 go_enter func44,ntmps44
 go_wp21;have A:=aD.o;rw[<-A];clear A;have⟨d,B⟩:=Xq w.heap.size;rw[<-B];rw[<-B]at K af P aa;have aE:=X B;have aF:∀a,t a->a<d:=λa q=>by rw[B];exact y.o.lJ a q
 have ag:=X aF;clear B;refine Ri (λE=>Below O O E) (mU [(Pp (d+2) 0),(·=.agg (mc b.name e f i m n p j c k)),(·=.int .i64 0),(·=.pointer d),(·=tx b.name),(·=.bool true)]) [] ((Below.refl _ _).drew) ⟨?_,?_,?_,?_,?_,?_,trivial⟩ ?_
 .exact .f 4
 .intro C w l s r D z;have bl:=Sl 1<|s 1 Z;have⟨⟨ah,ai,aj,ak⟩,_⟩:=kL<|(l.B d Y).T K.o;exact .q (g:=⟨Z,l,Qa⟩)
 .intro C w l s r D z;have bm:=Sv 10 r 1;refine .c (sW t w e f i m n p j c k b (aA.o.to<|J.o.T<|l.M Q) (y.o.kv<|J.o.T<|l.M Q) aB.o) ?_;rintro L aG ⟨R,aH⟩;subst R;exact⟨_,Z,Z,l.T<|aH.M l.size,Qe⟩
 .exact .f 1
 .intro C w l s r D z;have bn:=Sv 12 r 3;have⟨⟨ah,ai,aj,ak⟩,_⟩:=kL<|(l.B d Y).T K.o;exact .q (g:=⟨Z,l,Qa⟩)
 .intro C w l s r D z;have bo:=Sv 9 r 0;have bp:=Sv 11 r 2;have bq:=Sv 13 r 4;refine .h λbr aI=>?_;go_simp;refine⟨Z,?_⟩;refine Calls.M (tY (d+2) (tx b.name) _ _ _ w _ ⟨_,(l.B (d+2) Y).T P.o⟩) ?_;rintro L aG ⟨R,z⟩;subst z;subst R;exact⟨_,Z,aI ⟨Z,l,Qe⟩⟩
 intro al F am bs bt;have G:=X am;have bu:=am.size;simp only[nE];have S:=X<|show∀a,t a->F.heap[a]?=w.heap[a]? from λa q=>(G.o.B a<|W<|ag.o a q).T<|J.o.B a<|y.o.lJ a q;have aJ:=X<|show ui (d+2) (tx b.name) (.slice e f i) (.slice m n p) (.slice j c k) F from⟨_,(G.o.B (d+2) Y).T P.o⟩;have u:=X<|show∀a,t a->a<F/\a≠d+2 from λa q=>W<|ag.o a q;go_wp21;apply(DU t F b.kN e f i (d+2) (tx b.name) _ _ aJ.o (y.o.kN.ku mH.ok S.o) I.o.kN u.o).M;rintro L an ⟨rfl,aK,T⟩;have aL:=X aK;have aM:=X T;have bv:=T.size;have ao:=X<|show∀a,t a->an.heap[a]?=w.heap[a]? from λa q=>(T.B a (u.o a q).1 (u.o a q).2).T<|S.o a q;go_wp21;refine(DV t an b.mj m n p b.kF j c k (d+2) (tx b.name) _ aL.o (y.o.mj.ku nV.ok ao.o) (y.o.kF.ku (mn.ok _) ao.o) I.o.mj ae λa q=>⟨W<|(u.o a q).1,(u.o a q).2⟩).M ?_;rintro L bw ⟨rfl,aN,aO⟩;have aP:=X aN;have ap:=X<|aM.o.T aO;have⟨⟨ah,ai,aj,ak⟩,_⟩:=kL<|(ap.o.B d Y Y).T<|(G.o.B d Y).T K.o;go_wp21;go_loopw [22] (λU wr=>∃x:Nat,x<=c/\U=x/\ui (d+2) (tx b.name) (.slice e f i) (.slice m n p) (.slice j c k) wr/\nZ (λa=>a=d+2) F wr) (λU _=>c-(intOf U).toNat);case atStart=>exact⟨0,Q1 _,Z,aP.o,ap.o⟩
 case round=>
 obtain⟨x,bx,rfl,aQ,aq⟩:=hrel;have ar:=X aQ;have M:=X aq;have bz:=aq.size;by_cases bA:x<c
 .obtain⟨au,aR⟩:∃E,b.kF[x]?=some E:=Gx<|W aC.o;have av:=X aR;have aw:=X<|show∀a,t a->wr.heap[a]?=w.heap[a]? from λa q=>(M.o.B a (u.o a q).1 (u.o a q).2).T<|S.o a q;go_wp21;refine(Gj t wr b.kN e f i b.kF j c k (d+2) (tx b.name) _ x au ar.o (y.o.kN.ku mH.ok aw.o) I.o.kN.len (y.o.kF.ku (mn.ok _) aw.o) ae (I.o.each x au av.o) av.o λa q=>⟨W<|(u.o a q).1,(u.o a q).2⟩).M ?_;rintro L bB ⟨rfl,aS,aT⟩;have aU:=X aS;have aV:=X<|M.o.T aT;go_wp21;go_roundw
  .exact⟨x+1,Y,Uv,aU.o,aV.o⟩
  simp[intOf];omega
 .obtain rfl:c=x:=Y;go_wp21;have⟨aW,aX⟩:=ar.o;have aY:=X aX;have aZ:=X<|(M.o.B (d+1) Y Y).T<|(G.o.B (d+1) Y).T af.o;have ba:d+2≠d+1:=Y;refine Ri (λE=>Ok (d+1) (d+2) (mc b.name e f i m n p j c k) aW d wr E) (mU [(Pp (d+2) 0),(Pp (d+2) 0),(Pp (d+2) 5),(·=.agg #[Em,Em,.int .i64 0]),(Pp (d+2) 0),(Pp (d+2) 0),(Pp (d+2) 5),(Pp (d+2) 7),(·=.int .i64 0),Tr,(·=.int .i64 0)]) [] (⟨(Below.refl _ _).drew,aY.o,aZ.o⟩) ⟨?_,?_,?_,?_,?_,?_,?_,?_,?_,?_,?_,trivial⟩ ?_;exact .f 4;exact .v 29 0;exact .v 30 1;intro C w l s r D z;have bC:=Sv 31 r 2;have bb:=kr l.2.1 5;have bc:=kr l.2.1 6;have bd:=kr l.2.1 7;exact .q (g:=⟨Z,l,Qa⟩);exact .f 4;exact .v 33 4;exact .v 34 5;exact .v 35 6;intro C w l s r D z;have bD:=Sv 36 r 7;have bb:=kr l.2.1 5;have bc:=kr l.2.1 6;have bd:=kr l.2.1 7;exact .q (g:=⟨Z,l,Qa⟩);intro C w l s r D z;have bE:=Sl 2<|s 2 Z;have bF:=Sv 32 r 3;have⟨⟨bG,bH,bI⟩,bJ,bK,bL⟩:=lf l.2.2;exact .q (g:=⟨trivial,l.set ba Y,Qe⟩);exact .v 37 8;intro al bM be bf bN;have bg:al 10=.int .i64 0:=bf 10 Ur;have ax:=X be;simp only[nE,bg];have⟨⟨bh,bi,bj⟩,_⟩:=lf ax.o.2.2;go_wp21;have B:=aE.o;refine Q0 (v:=.tuple #[.agg #[Em,Em,.int .i64 0],.int .i64 0]) ?_ rfl ⟨Z,?_⟩;simp[results,Tryz.results44,go_sem,bh,bi,bj];exact((J.o.T<|G.o.M Q).T<|M.o.kv Y λa q=>Y).T (ax.o.1.M Y)
def D4(d e:Nat)(j:Int)(a w)(k:si d e j a w)(f:a≠[]):
  Calls prog 49 #[.pointer e] w λl m=>l=.returned (tx a)/\Below d w m:=by
 have⟨p,D,n,q,i⟩:=k.any;have r:a.length≠0:=by simpa using f
 obtain⟨g,b,c,rfl,s,t,E,u,F,G⟩:∃g b c,n=.slice (sh g) a.length b/\d<=g/\w.heap[g]?=some (.cells c 5 (0,0))/\a.length<=b/\b<=maxLen/\c.size=b*1/\c.toList.take (a.length*1)=Lib.byteCells a:=by
  rcases i.2 with⟨_,v⟩|⟨g,b,c,x,y⟩
  exact absurd v r;exact⟨g,b,c,x,y⟩
 have I:w.drew.cell? ⟨e,1,none⟩=some (.slice (sh g) a.length b):=kB (w:=w.drew) q 1 _ Z;have J:(Builtin.unsafeSliceData_ #[22] 219 #[.slice (sh g) a.length b]).run prog w.drew=.ok (.pointer<|sh g) w.drew:=
  TF _ _ _ _ _ _ Y
 have K:(Builtin.unsafeString_ #[219,3] 9 #[.pointer<|sh g,a.length]).run prog w.drew=.ok (.string ⟨a.toArray⟩) (w.drew.freeze ⟨g,0,none⟩ a.length):=by refine Lib.run_unsafeString_row w.drew 219 3 9 5 Ut Ut g c.size (by have z:w.drew.heap[g]?=some (.cells c 5 (0,0)):=t;simp[World.shape?,z]) a f Y (by unfold maxLen at u;omega) ?_;intro A B C;exact i.cells (g:=g) Z A (.int .u8 B.toNat) (by simp[Lib.byteCells,C])
 go_enter func49,ntmps49
 go_wp2
 go_region
 all_goals (go_wp2;go_ret;exact⟨Z,Lib.below_freeze (Below.drew<|Below.refl d w) (p:=⟨g,0,none⟩) s _⟩)
def qg.up{c b d e:Nat}{n:Int}{w f g}(a:qg c b n d w f g)(i:d<=e):qg c b n e w f g:=⟨a.1,a.2.1.up i,a.2.2⟩
def Gu(g:Nat)(u:Bv g):LC g:=by
 intro v c d e f l m w i x y z n p A B C q M N r
 go_enter func201,ntmps201
 by_cases D:i=0
 .subst D;go_wp21;refine(mK c d e f l [m,⟨#[59]⟩] p Y Y Us<|by intro s a;simp at a;rcases a with rfl|rfl;exact r;decide).M ?_;rintro j t ⟨rfl,k,b⟩;go_wp21
  go_end0
  exact⟨Z,k.up Y,b⟩
 have O:((i:Int)==0)=false:=by rw[QY];omega
 go_wp21;refine(mK c d e f l [m,⟨#[32,101,108,115,101,32,123]⟩] p Y Y Us<|by intro s a;simp at a;rcases a with rfl|rfl;exact r;decide).M ?_;rintro j t ⟨rfl,k,b⟩;go_wp21;apply(u v c d e (f+1) t w i x y (z.wr b n) n k (A.ku (kR.ok .u8 _)<|q.eq b) B C (q.to b) Y Y).M;rintro j E ⟨rfl,F,G⟩;have I:=(b.T G)
 go_wp21;refine(mK c d e (f+1+yi g) E [⟨#[125]⟩] F Y Y Us<|by intro s a;simp at a;subst a;decide).M ?_;rintro j P ⟨rfl,J,K⟩;have L:=(I.T K)
 go_wp21
 go_end0
 exact⟨Z,J.up Y,L⟩
def BW(a w):Calls prog 35 #[.bool a] w<|qf 5 w:=by apply(Tryz.strconv_FormatBool a w).M;rintro c d ⟨b,rfl⟩;exact⟨_,b,by cases a<;>decide,Below.refl _ _⟩
def BX(i:Nat)(a:i<100)(w):Calls prog 15 #[.int .i64 (i:Int)] w<|qf 20 w:=by apply(Tryz.strconv_Itoa_small i a w).M;rintro c d ⟨b,rfl⟩;exact⟨_,b,Aw i a,Below.refl _ _⟩
def KN(a:Int)(d:0<=a)(e:a<100)(w):Calls prog 33 #[.int .i64 a,.int .i64 10] w<|qf 20 w:=by
 obtain⟨b,rfl⟩:∃b:Nat,a=(b:Int):=⟨a.toNat,Y⟩
 apply(Tryz.strconv_FormatInt_10_small b Y w).M;rintro f g ⟨c,rfl⟩;exact⟨_,c,Aw b Y,Below.refl _ _⟩
def mO.cell{c:Type}{d:Rel c}{T k e:Nat}(ok:lh d k){w}{b n:Nat}{f:List c}(a:mO d T k e w b n f){i:Nat}(l:i<n*k):∃u,w.cell? ⟨b,i,none⟩=some u:=by have⟨m,p,g,q,j⟩:=a.ex;have r:=lu.flat (k:=k) (λs t a=>ok.len a) j;exact⟨_,kB g i _<|by rw[Sg];exact Q7<|by rw[Q6];omega⟩
def mO.done{f:Type}{a:Rel f}{l g c:Nat}(ok:lh a g){w}{b n:Nat}{d:List f}(i:mO a l g c w b n d)(m:d.length=n)(p:c<=b)(q:n<=9223372036854775807):kz a (λe=>c<=e/\e<w) w (b,n,n) d:=by have r:=i.lt;have⟨s,z,t,A,u⟩:=i.ex;refine⟨_,n,s,by rw[m],Y,q,λ_=>⟨b,0,Z,⟨p,r⟩,λv x j=>?_⟩,u.imp λB C y=>ok.M y λe k=>⟨k.1,k.2.1⟩⟩;rw[Re];refine kB t v x ?_;rw[Sg,RR (Rg.1 j).1];exact j
def oC{m:Type}{P}{w:World}(g)(v:TypeId)(d i n)(c p:Nat)(x:P.underlying g=some (.slice d))(y:P.info? d=some i)(M:i.zero=some n)
  (N:i.size=c) (O:i.bytes=p) (Q:n.cells.size=c) {e:Rel m} (ok:lh e c) (R:∀{q S:Nat->Prop} {w a:World} {r:List Value} {j:m},e q w r j->e S a r j) {q:Nat->Prop} {b0:Nat} {b:List m} {z:Value}
  {f:Nat} (T:b.length=f) (s:kz e q w z b) (aq:f<=maxLen) (U:f*p<=140737488355328):
  ∃A B a,(Builtin.append_ #[g,g] v #[(b0,0,0),z]).run P w=.ok (.slice A f B) a/\kz e (λC=>w<=C/\C<a) a (.slice A f B) b/\Below w w a:=by
 subst T;by_cases t:b=[]
 .subst t;obtain⟨D,E,u,rfl,_⟩:=s;refine⟨some ⟨b0,0,none⟩,0,w,?_,⟨_,0,[],Z,QZ _,Y,uk.nil _ _ _,trivial⟩,Below.refl _ _⟩;cases D<;>simp[Builtin.append_,Tn x,sizeOf,typeInfo,y,Builtin.lenOf,Builtin.firstCells,storeCells,loadCells,loadCellsFrom]
 .have⟨D,E,V,aa,ar,au,ab,ac⟩:=id s;subst aa;have ad:V.flatten≠[]:=by
   intro d;have:=lu.flat (k:=c) (λr j h=>ok.len h) ac;rw[d]at this;have av:=ok.pos;have:b.length=0:=by have F:b.length*c=0:=(by simpa using this.symm);rcases TX.1 F with h|h;exact h;omega
   exact t<|RP this
  obtain⟨ae,af,rfl,_,_⟩:=ab ad;have⟨u,aw,_,ag,ah,ai,_⟩:=s.cells ok;have ax:0<b.length:=Td.2 t;have⟨ay,a,G,aj,ak⟩:=Tw (P:=P) (w:=w) g v d i n c p x y M N O Q ok.pos ⟨b0,0,none⟩ 0 0 [] Us Us ⟨ae,af,none⟩ b.length E u.flatten ag ai Y Y (by rw[Re];exact U);rcases aj.2 with⟨rfl,F⟩|⟨al,I,az,rfl,am,J,K,an,aA,L⟩
  omega;rw[Re]at G K;refine⟨_,I,a,G,⟨_,I,u,Z,K,by unfold maxLen at an;omega,λ_=>⟨al,0,Z,⟨am,(QS.1 J).1⟩,λaB aC l=>?_⟩,ah.imp λr j ao=>R ao⟩,(Below.refl _ w).grown ak (QZ _) λk ap=>by cases ap⟩;rw[Sa]at L;rw[<-L,Si]at l;split at l;rw[Re];simp only[World.cell?,J];simpa using l;cases l
def KP:(prog.info? 175).map (λa=>(a.zero,a.size,a.bytes))=some (some<|.agg oS,6,112):=Ut
def IW(a:Nat)(i:a<=1000)(b):(Instr.makeSlice 108 (.int .i64 (a:Int))<|.int .i64 (a:Int)).run prog b=.ok (.slice b a a) (b.alloc<|.cells (madeCells oS<|a*6) 175):=by have⟨d,e,f,c,g⟩:=Rm KP;have:=Sw (P:=prog) b 108 175 d _ underlying108 e f .i64 .i64 (a:Int) (a:Int) Y (SH _) (by rw[c];simp;omega) (by rw[g];omega) Y;rw[c,RV]at this;exact this
def KS:(prog.info? 98).map (λa=>(a.zero,a.size,a.bytes))=some (some<|.agg #[Em,Nl,Nl],3,64):=Ut
def IZ(a:Nat)(i:a<=1000)(b):(Instr.makeSlice 50 (.int .i64 (a:Int))<|.int .i64 (a:Int)).run prog b=.ok (.slice b a a) (b.alloc<|Bs a):=by have⟨d,e,f,c,g⟩:=Rm KS;have:=Sw (P:=prog) b 50 98 d _ underlying50 e f .i64 .i64 (a:Int) (a:Int) Y (SH _) (by rw[c];simp;omega) (by rw[g];omega) Y;rw[c,RV]at this;exact this
def lI.tS.sm{c}(g:tS c):∀a∈c.kF,LM a:=by
 intro a i;have⟨z,A,_,B,_,C,D,E,_,F,j⟩:=g.ex;have⟨f,k,l⟩:=List.getElem_of_mem i;have m:c.kF[f]?=some a:=by rw[List.getElem?_eq_getElem k,l]
 have⟨G,I,J,K,L,M,N,n,_,_,O,p,_⟩:=(j f a m).ex;refine⟨λP b=>?_,λq r s t u v=>?_⟩;rw[n]at b;unfold ny at b;simp only[List.mem_append,List.mem_map,List.mem_range,List.mem_singleton]at b;rcases b with(⟨d,e,rfl⟩|rfl)|⟨d,e,rfl⟩
 exact⟨Us,Uw⟩;exact⟨Us,Us⟩;exact⟨Us,Us⟩;have⟨_,_,w⟩:=p q r;have⟨d,e,x⟩:=List.getElem_of_mem t;have⟨Q,R,_,_,y,_⟩:=w d s (by rw[List.getElem?_eq_getElem e,x]);exact(y u v).sm
def KT:(prog.info? 93).map (λi=>(i.zero,i.size,i.bytes))=some (some<|.agg #[Em,false],2,24):=Ut
def KU:(prog.info? 94).map (λi=>(i.zero,i.size,i.bytes))=some (some<|.agg #[Em,Em,.int .i64 0],3,40):=Ut
def zj(a:Nat):(madeCells #[.int .u8 0] a).size=a:=by simp[madeCells]
def GH(a:World)(c:Ending)(b:World):Prop:=c=.returned (a,8,8)/\py b a 8/\Below a a b
def nr.word{c}{a:Nat}(j:nr c a){i:Nat}(k:i<8):∃d:Int,c.cell? ⟨a,i,none⟩=some (.int .u32 d)/\c.frozen? ⟨a,i,none⟩=false/\∀b:Int,nr (c.setCell ⟨a,i,none⟩<|.int .u32 b) a:=by have⟨l,e,m,f,n,p,q,r⟩:=j;have⟨d,g⟩:=f i k;rw[Re]at g;exact⟨d,kB e _ _ g,kx e i,λb=>⟨l.setIfInBounds i<|.int .u32 b,kt e,by simpa using m,f.set i b<|.inr<|.inr Z,n.set i b<|.inl Y,p,by rw[R9 Y];exact q,r⟩⟩
def nr.PZ{c}{b:Nat}(f:nr c b):∃d:Int,0<=d/\c.cell? ⟨b,72,none⟩=some (.int .u64 d)/\c.frozen? ⟨b,72,none⟩=false/\∀a:Int,0<=a->nr (c.setCell ⟨b,72,none⟩<|.int .u64 a) b:=by have⟨g,e,i,j,k,d,l,m⟩:=f;exact⟨d,m,kB e _ _ l,kx e 72,λa n=>⟨g.setIfInBounds 72<|.int .u64 a,kt e,by simpa using i,j.set 72 a<|.inr<|.inl Y,k.set 72 a<|.inr<|.inl Y,a,by rw[SM Y],n⟩⟩
def Fu(a):(sizeOf<|prog.elem 224).run prog a=.ok 1 a:=Ut
def Ec(b a:Nat)(f:a<16)(c):(Instr.sliceAt 224 (.pointer<|some ⟨b,8,none⟩) (some<|.int .i64<|4*(a:Int)) (some<|.int .i64<|4*(a:Int)+4) none).run prog c=.ok (.slice (some ⟨b,8+4*a,none⟩) 4<|64-4*a) c:=by
 have d:(4*(a:Int)).toNat=4*a:=Y
 have e:(4*(a:Int)+4).toNat=4*a+4:=Y
 rw[run_sliceAt_array_lh c 224 ⟨b,8,none⟩ Ii .i64 .i64 _ _ Y Y (by rw[Ab];omega),Fu,Ab,d,e];simp only[Rt,slicedAt];rw[Rl Y];simp[lz]
def Ed(b a:Nat)(d:a<64)(c):(Instr.sliceAt 224 (.pointer<|some ⟨b,8,none⟩) (some<|.int .i64 (a:Int)) none none).run prog c=.ok (.slice (some ⟨b,8+a,none⟩) (64-a)<|64-a) c:=by rw[run_sliceAt_array_l c 224 ⟨b,8,none⟩ Ii .i64 _ Y (by rw[Ab];omega),Fu,Ab,RV];simp only[Rt,slicedAt];rw[Rl Y];simp[lz]
def NF(c)(a:Nat)(d:a<8)(e f g i j k l m:Int):∃b:Int,(Instr.index 223 (.agg<|qn e f g i j k l m)<|.int .i64 a).run prog c=.ok (.int .u32 b) c:=by
 have n:∃b:Int,((qn e f g i j k l m):Array Value)[a]?=some (.int .u32 b):=by
  match a,d with
  |0,_=>exact⟨_,Z⟩
  |1,_=>exact⟨_,Z⟩
  |2,_=>exact⟨_,Z⟩
  |3,_=>exact⟨_,Z⟩
  |4,_=>exact⟨_,Z⟩
  |5,_=>exact⟨_,Z⟩
  |6,_=>exact⟨_,Z⟩
  |7,_=>exact⟨_,Z⟩
 have⟨b,p⟩:=n;exact⟨b,oA c _ 222 8 _ a _ Ut d Ut p Ut⟩
def nr.at8{c}{b:Nat}(d:nr c b)(i:Nat)(e:i<8):∃a:Int,c.cell? ⟨b,i,none⟩=some (.int .u32 a):=by have⟨a,f,_⟩:=d.word e;exact⟨a,f⟩
def mB.at8{e a}{b d:Nat}(f:mB e a b d)(i:Nat)(g:i<d):∃c:Int,a.cell? ⟨b,i,none⟩=some (.int .u32 c)/\a.frozen? ⟨b,i,none⟩=false:=by have⟨c,j,k,_⟩:=f.get g;exact⟨c,j,k⟩
def ME(a:World)(c:Ending)(b:World):Prop:=c=.returned (.pointer a)/\nr b a/\Below a a b
def I4(a):Calls prog 56 #[] a<|ME a:=by
 go_enter func56,ntmps56
 go_wp2;go_ret;exact⟨Z,nr.of<|QT _ _,Ba _ _⟩
def GJ(b d)(c e a:Nat)(j:a<=c)(k:c<=e):∃f:Option Addr,(Instr.sliceAt 22 (.slice d c e) (some<|.int .i64 (a:Int)) none none).run prog b=.ok (f,c-a,e-a) b/\(a<c->f=d.map (·.add a)):=by
 have g:prog.underlying 22=some (.slice<|prog.elem 22):=Ut
 have i:(sizeOf<|prog.elem 22).run prog b=.ok 1 b:=Ut
 refine⟨if e=a then d else d.map (·.add (a*1)),?_,λl=>by rw[Rl Y,RA]⟩;rw[run_sliceAt_slice b _ _ _ _ _ g,run_slice_l b _ d c e g .i64 (a:Int) Y Y,i,RV];simp[sliced]
def nr.NH{c}{b:Nat}(g:nr c b):∃(a:Int) (d:Nat),0<=a/\d<64/\a % 64=(d:Int)/\a.tmod 64=(d:Int)/\c.cell? ⟨b,72,none⟩=some (.int .u64 a)/\c.frozen? ⟨b,72,none⟩=false/\∀e:Int,0<=e->nr (c.setCell ⟨b,72,none⟩<|.int .u64 e) b:=by have⟨a,f,i,j,k⟩:=g.PZ;refine⟨a,(a % 64).toNat,f,Y,Y,?_,i,j,k⟩;rw[Tc f];omega
def nr.NI{a}{b:Nat}(e:nr a b):∃c:Int,a.cell? ⟨b,72,none⟩=some (.int .u64 c)/\a.frozen? ⟨b,72,none⟩=false/\∀d:Int,0<=d->nr (a.setCell ⟨b,72,none⟩<|.int .u64 d) b:=by have⟨c,j,f,g,i⟩:=e.PZ;exact⟨c,f,g,i⟩
def MH{b}(j:b.size=32)(f:pk .u8 b 0 32):∃a:Nat->Int,b=#[.int .u8<|a 0,.int .u8<|a 1,.int .u8<|a 2,.int .u8<|a 3,.int .u8<|a 4,.int .u8<|a 5,.int .u8<|a 6,.int .u8<|a 7,.int .u8<|a 8,.int .u8<|a 9,.int .u8<|a 10,.int .u8<|a 11,.int .u8<|a 12,.int .u8<|a 13,.int .u8<|a 14,.int .u8<|a 15,.int .u8<|a 16,.int .u8<|a 17,.int .u8<|a 18,.int .u8<|a 19,.int .u8<|a 20,.int .u8<|a 21,.int .u8<|a 22,.int .u8<|a 23,.int .u8<|a 24,.int .u8<|a 25,.int .u8<|a 26,.int .u8<|a 27,.int .u8<|a 28,.int .u8<|a 29,.int .u8<|a 30,.int .u8<|a 31]:=by
 refine⟨λc=>L0<|(b[c]?).getD<|.int .u32 0,?_⟩;have g:b.toList=(List.range 32).map (λc=>Value.int .u8<|L0<|(b[c]?).getD<|.int .u32 0):=by apply TJ;intro c;by_cases d:c<32;rw[RT,Uf d];have⟨k,e⟩:=f c d;rw[Re]at e;simp[e,L0];have i:b.toList[c]?=none:=(by rw[TM];simp;omega);rw[i];symm;rw[TM];simp;omega
 exact(Sy (xs:=b)).symm.T (RF List.toArray g)
def nr.one{w}{b:Nat}{d}(i:nr w b)(j:w.heap[b]?=some (.cells d 227 (0,0))):d.size=73/\d.all (·.oneCell')=true:=by
 have⟨r,a,k,l,m,n,p,s⟩:=i;rw[j]at a;injection a with a;injection a with a _ _;subst a;refine⟨k,TK.2 λc t=>?_⟩;by_cases q:c<8;have⟨g,e⟩:=l c q;rw[Re]at e;rw[(QS.1 e).2];rfl;by_cases u:c<72;have⟨g,e⟩:=m (c-8) Y;have f:d[c]?=some (.int .u8 g):=by rw[<-e];congr 1;omega
 rw[(QS.1 f).2];rfl;have f:d[c]?=some (.int .u64 n):=by rw[<-p];congr 1;omega
 rw[(QS.1 f).2];rfl
def pZ.one{d w}{b e:Nat}{c}(g:pZ d w b e)(i:w.heap[b]?=some (.cells c d (0,0))):c.size=e/\c.all (·.oneCell')=true:=by have⟨m,a,j,k⟩:=g;rw[i]at a;injection a with a;injection a with a _ _;subst a;refine⟨j,TK.2 λl n=>?_⟩;have⟨p,f⟩:=k l Y;rw[Re]at f;rw[(QS.1 f).2];rfl
def zk:(prog.info? 227).map (·.size)=some 73:=Ut
def Ij(b:World)(c:Ending)(d:World):Prop:=(∃a:Array Value,c=.returned (.agg a)/\a.size=32/\pk .u8 a 0 32)/\Below b b d
def L1.ku{T:Nat->Prop}{w w':World}{b:Nat}{i:Fl}(h:L1 T w b i)(f:∀q,q<w.heap.size->T q->w'.heap[q]?=w.heap[q]?)(g:w.heap.size<=w'):oo w' b i:=by
 have⟨⟨j,n⟩,k,p,r,s,t,u,v,x,y,z,l,A,B,C,D,E,c,F,⟨m,G⟩,I⟩:=h;have d:∀e,w'.cell? ⟨b,e,none⟩=w.cell? ⟨b,e,none⟩:=λe=>Cb b e<|f b j n;have a:∀q,k q->w'.heap[q]?=w.heap[q]?:=λq a=>f q (c.lJ q a)<|I q a;exact⟨QR j g,k,p,r,s,t,u,v,x,y,z,l,(d 0).T A,(d 1).T B,(d 2).T C,(d 3).T D,(d 37).T E,
  ⟨c.kN.ku mH.ok a,c.mj.ku nV.ok a,c.kF.ku (mn.ok .u8) a,λq h=>QR (c.lJ q h) g⟩,F.ku (λq h=>by rcases h with h|h;exact a q h;rw[h];exact f l m G),QR m g⟩
def MI(d:Fl)(a:World)(e:Ending)(c:World):Prop:=∃b:Nat,e=.returned (.tuple #[.pointer b,.int .i64 0])/\oo c b d/\Below a a c/\a<=b
def CO(a b c):Below a.heap.size a<|Lib.bytesWorld a b c:=by unfold Lib.bytesWorld;exact Lib.below_freeze ((Below.drew<|Below.refl _ _).alloc (QZ _) _) (p:=⟨a,_,none⟩) (QZ _) _
def zl(b:Nat)(c a)(d:oo a b c):Calls prog 30 #[.pointer b] a λe f=>e=.returned (.int .i64 (c.kN.length:Int))/\f=a:=by
 have⟨j,k,l,m,n,p,q,r,s,t,u,v,w,x,y,z,A,g,_⟩:=d;have i:=g.kN.len.1;rw[i]
 go_enter func30,ntmps30
 go_wp2;go_ret;exact⟨Z,Z⟩
def K0(b:List UInt8)(a:World)(c:Ending)(d:World):Prop:=(∃(e:Option Addr) (f g:Nat) (i:Option Addr) (j k:Nat),c=.returned (.agg #[tx b,(e,f,g),(i,j,k)]))/\Below a a d
def E1{a}{b:Nat}{c}(d:(lL a)[b]?=some c):hL (kG a) (b:Int)=c:=by have e:=(Rg.1 d).1;unfold hL;rw[RG<|uw.2 ⟨Y,by simp[lL]at e;omega⟩];simp[kG,d]
def xl:∀{a:List Int} {b:Nat},(∀c x,c<b->a[c]?=some x->x=0)->yG a=yG (a.drop b)
 |[],b,_=>by simp
 |x::a,0,_=>rfl
 |x::a,b+1,h=>by have d:=h 0 x Y Z;subst d;rw[show yG (0::a)=yG a from by simp[yG]];exact xl λc e g f=>h (c+1) e Y (by simpa using f)
def MK(k c:Nat)(d f)(q:d.length=c)(A:c<=1000)(r:∀a b,d[a]?=some b->f.cell? ⟨k,a,none⟩=some (.int .i64 b))(B:k<f.heap.size):
  Calls prog 97 #[(k,c,c)] f λw x=>w=.returned (.int .i64<|yG d)/\x=f:=by
 have y:=X r;have j:=X q;clear r q
 go_enter func97,ntmps97
 go_wp21;go_loopw [8] (λl wr=>∃a:Nat,a<=c/\l=a/\(∀e b,e<a->d[e]?=some b->b=0)/\f=wr) (λl _=>c-(intOf l).toNat)
 .exact⟨0,Q1 _,Z,λe b C=>Y,Z⟩
 obtain⟨a,D,rfl,s,rfl⟩:=hrel;have m:=X s;clear s;by_cases E:a<c
 .obtain⟨b,n⟩:∃b,d[a]?=some b:=Gx<|W j.o;have F:=y.o a b n;have t:=X n;obtain⟨G,I⟩:=nL a c;clear n;by_cases u:b=0
  .subst u;go_wp21;go_roundw
   .exact⟨a+1,Y,Uv,λe z J g=>by rcases SS e a with v|v;exact m.o e z v g;obtain rfl:e=a:=Y;rw[t.o]at g;injection g with g;exact g.symm,trivial⟩
   simp[intOf];omega
  have i:yG d=b:=by rw[xl m.o];have:=t.o;rw[SG<|W j.o];rw[Q7<|W j.o]at this;injection this with this;rw[this];simp[yG,u]
  have p:=X i;clear i;go_wp21;go_ret;exact⟨by rw[p.o];rfl,Z⟩
 obtain rfl:c=a:=Y;have i:yG d=0:=(by rw[xl m.o,S6<|W j.o];rfl);have p:=X i;clear i;go_wp21;go_ret;exact⟨by rw[p.o];rfl,Z⟩
def AU{xs ys:List Int}{k:Nat}{a:Int}(b:xs.take k=ys.take k)(c:xs[k]?=some a)(d:ys[k]?=some a):xs.take (k+1)=ys.take (k+1):=by rw[RB,RB,b,c,d]
def K2{c:World}{d:Nat}{e:List Int}{g:TypeId}{f:Array Value}(i:c.heap[d]?=some (.cells f g (0,0))){b:Nat}{a:Int}(j:e[b]?=some a)(k:f=(e.map λa=>Value.int .i64 a).toArray:=by rfl):c.cell? ⟨d,b,none⟩=some (.int .i64 a):=by subst k;exact kB i b _ (by simp[j])
abbrev me(a b c d e f g h i j k):=(#[.int .i64 a,.int .i64 b,.int .u8 (c:Nat),.int .i64 d,.int .i64 e,.int .i64 f,.int .i64 g,.int .i64 h,.slice i j k]:Array Go.Value)
def oZ.qY{b}:∀{d a:List UInt8},d.all b=true->Om b a=false->(d++a).takeWhile b=d/\(d++a).dropWhile b=a
 |[],[],_,_=>⟨Z,Z⟩
 |[],c::a,_,h=>by have:b c=false:=h;simp[this]
 |x::d,a,ha,h=>by simp only[List.all_cons,Bool.and_eq_true]at ha;have⟨e,f⟩:=qY ha.2 h;rw[List.cons_append,List.takeWhile_cons,List.dropWhile_cons,if_pos ha.1,if_pos ha.1,e,f];exact⟨Z,Z⟩
def oZ.sA{a r}(b:a.all oQ=true)(c:Om oQ r=false):se (a++r)=(a,r):=by have⟨d,e⟩:=qY b c;unfold se;rw[d,e]
def oZ.Ad{a:List<|List UInt8}(f:a.Nodup){b:Nat}{c:List UInt8}(g:a[b]?=some c):a.idxOf? c=some b:=by
 have⟨d,e⟩:=List.getElem?_eq_some_iff.1 g;rw[List.idxOf?,List.findIdx?_eq_some_iff_getElem];refine⟨d,by simp[e],λi l=>?_⟩;intro j;have k:a[i]=a[b]:=by rw[e];simpa using j
 have:=(List.getElem_inj (h₀:=Y) (h₁:=d) f).1 k;omega
def sK:∀(a:List Int),(∀x∈a,rS x)->(Lib.join (a.map Lib.itoa) [44,32]).length<=23*a.length
 |[],_=>by simp[Lib.join]
 |[x],h=>by have:=RZ x (h x Us).1 (h x Us).2;rw[show Lib.join ([x].map Lib.itoa) [44,32]=Lib.itoa x from Lib.join_one _ _];simp;omega
 |x::y::a,h=>by have e:=RZ x (h x Us).1 (h x Us).2;have b:=sK (y::a) (λc d=>h c<|by simp[d]);rw[Ja];simp only[Q6,Rn,Rs]at b⊢;omega
def pT{b a}(e:b.length<=12)(f:a.length<=4)(c:∀d∈a,rS d):(nx b a).length<=110:=by have:=sK a c;unfold nx;simp only[Q6,Rn,Rs];omega
def uj.drew{w:World}{a b:Nat}{c d:Array Value}{x:World}(e:uj w a b c d x):uj w a b c d {x with drawn:=x.drawn+1}:=e.kv (Below.refl _ _).drew
def qQ.wS(a:lj)(b:Nat):Option<|Ex×Nat:=
 if ov a b∈xn then none
 else if Bc a b=3 then(FT a b).map λc=>(.mk 1 [] (c.1:Int) [],c.2)
 else if ov a (b+1)=[91]then none
 else(vH a b).map λc=>(.mk 5 c.1 0 [],c.2)
def qQ.qF(T:lj)(a:Nat):Option<|Ex×Nat:=match wS T a with
 |some (x,q)=>if ov T q∈opers then none else some (x,q)
 |none=>none
def qQ.pF{b:Type}(a:lj)(c:Nat->Option (b×Nat)):Nat->Nat->Option (List b×Nat)
 |0,_=>none
 |k+1,p=>match c p with
  |none=>none
  |some (x,q)=>if ov a q=[44]then
    match pF a c k (q+1)with
    |some (xs,r)=>some (x::xs,r)
    |none=>none
   else if ov a q=[41]then some ([x],q+1)else none
def qQ.tI{c:Type}(a:lj)(d:Nat->Option (c×Nat))(b:Nat):Option<|List c×Nat:=
 if ov a b=[40]then(if ov a (b+1)=[41]then some ([],b+2)else pF a d a.length (b+1))else none
def qQ.wY(b:lj)(a:Nat):Option<|Bool×Nat:=if ov b a=[116,114,117,101]then some (true,a+1)else if ov b a=[102,97,108,115,101]then some (false,a+1)else none
def EF{c:lj}{f:PV}{b}{d:Nat}(e:mh c f b d c.length):Calls prog 41 #[.pointer d] b λg i=>g=.returned (.tuple #[.int .i64 0,.int .i64 0])/\Below b b i:=by
 have⟨j,k,l,a,_⟩:=e.ll;have m:=kr a 0;have n:=kr a 1;have p:=kr a 7;have q:=kr a 8;clear a e
 go_enter func41,ntmps41
 go_wp21;go_quiet (fail);go_wp21;go_quiet (fail);go_wp21
 go_ret2
 exact⟨Z,nb (nb (Below.refl _ _) _) _⟩
def mh.other{T:lj}{c:PV}{w}{d j z i:Nat}{u}(e:mh T c w d j)(E:c.lo<=z):mh T c (w.setCell ⟨z,i,none⟩ u) d j:=by have⟨a,m,n,p,q,r,k,s⟩:=e.ll;have t:=kE w z i u;have f:=e.low;have l:∀b,b<c.lo->(w.setCell ⟨z,i,none⟩ u).heap[b]?=w.heap[b]?:=λb F=>t.B b Y (λv=>by injection v;omega);refine⟨⟨a,m,n,(l d f.1).T p,q,r,k,λx y A=>?_⟩,e.small,f.1,by rw[QW];exact f.2⟩;have⟨B,C,D⟩:=s x y A;have g:=l a k;exact⟨(Cb a _ g).T B,(Cb a _ g).T C,(Cb a _ g).T D⟩
def lN.other{T:lj}{c:PV}{b w}{d e z i:Nat}{u}(a:lN T c b d e w)(g:c.lo<=b)(j:b<=z):lN T c b d e<|w.setCell ⟨z,i,none⟩ u:=
 ⟨a.1.other<|Q8 g j,⟨a.2.os,a.2.tape,a.2.output,by rw[QW];exact a.2.size,λf k l=>(Q5 _ _ _ _<|by show f≠z;omega).T<|a.2.B f k l⟩⟩
def tj{b:lj}{c q:Nat}{x}(a:wS b c=some (x,q)):ov b c∉xn/\((Bc b c=3/\∃v,FT b c=some (v,q)/\x=.mk 1 [] (v:Int) [])\/(Bc b c≠3/\ov b q≠[91]/\∃g,vH b c=some (g,q)/\x=.mk 5 g 0 [])):=by
 unfold wS at a;split at a;cases a
 rename_i i
 refine⟨i,?_⟩;split at a
 rename_i e
 cases hv:FT b c with
 |none=>rw[hv]at a;cases a
 |some y=>rw[hv]at a;injection a with a;injection a with f d;exact .inl ⟨e,y.1,by rw[<-d],f.symm⟩
 rename_i e
 split at a;cases a
 rename_i j
 cases hv:vH b c with
 |none=>rw[hv]at a;cases a
 |some y=>rw[hv]at a;injection a with a;injection a with f d;have⟨_,_,k,_⟩:=ru (x:=y.1) (q:=y.2) hv;exact .inr ⟨e,by rw[<-d,k];exact j,y.1,by rw[<-d],f.symm⟩
def zV{e:lj}{vQ:PV}{b f}{pb g a:Nat}{u0 u1 u2 u3:Value}(i:lN e vQ b pb g f)(c:vQ.lo<=b)(d:b<=a):
 lN e vQ b pb g ((((f.setCell a u0).setCell ⟨a,1,none⟩ u1).setCell ⟨a,2,none⟩ u2).setCell ⟨a,3,none⟩ u3):=(((i.other c d).other c d).other c d).other c d
def oK{b:lj}{c d:Nat}{e}(a:qF b c=some (e,d)):wS b c=some (e,d)/\ov b d∉opers:=by
 unfold qF at a;cases ha:wS b c with
 |none=>rw[ha]at a;cases a
 |some y=>
  rw[ha]at a;have⟨j,k⟩:=y;simp only at a;split at a;cases a
  rename_i f
  injection a with a;injection a with g i;subst g i;exact⟨Z,f⟩
def qQ.Im{c:Type}(b:lj)(f:Nat->Option (c×Nat))(a:Nat)(d:List c)(e:Nat):Prop:=
 (ov b a=[44]/\∃g,pF b f g (a+1)=some (d,e))\/(ov b a=[41]/\d=[]/\e=a+1)
def qQ.rO{p:Type}{c:lj}{d:Nat->Option (p×Nat)}:∀{k f g:Nat} {i:List p},pF c d k f=some (i,g)->∃e b q,d f=some (e,b)/\i=e::q/\Im c d b q g
 |0,_,_,_,a=>by cases a
 |k+1,f,g,i,a=>by
  unfold pF at a;cases hi:d f with
  |none=>rw[hi]at a;cases a
  |some y=>
   have⟨e,b⟩:=y;rw[hi]at a;simp only at a;by_cases j:ov c b=[44];rw[if_pos j]at a;cases hr:pF c d k (b+1)with
   |none=>rw[hr]at a;cases a
   |some z=>have⟨r,s⟩:=z;rw[hr]at a;injection a with a;injection a with l m;subst l m;exact⟨e,b,_,Z,Z,.inl ⟨j,k,hr⟩⟩
   rw[if_neg j]at a;by_cases n:ov c b=[41];rw[if_pos n]at a;injection a with a;injection a with l m;subst l m;exact⟨e,b,[],Z,Z,.inr ⟨n,Z,Z⟩⟩;rw[if_neg n]at a;cases a
def zw{w:World}{g i d e b c:Nat}{f:List Value}(k:w.ownsRow g i d (e,b,c) b f):∃t:List Value,w.heap[e]?=some (.cells (f++t).toArray i (0,0))/\b<=c/\c<=maxLen/\(f++t).length=c*d/\g<=e:=by
 rcases k.2 with⟨a,_⟩|⟨u,v,l,a,m,n,p,q,r,j⟩
 cases a;injection a with a _ s;injection a with a;injection a with a;subst a s;refine⟨l.toList.drop<|b*d,?_,p,q,?_,m⟩;rw[<-j,SE];exact n;rw[<-j,SE];simpa using r
def Jg{b:World}{j k l c e m:Nat}{f:List Value}(n:b.ownsRow j k l (c,e,m) e f)(a:Nat)(d:Value)(g:f[a]?=some d):b.cell? ⟨c,a,none⟩=some d/\b.frozen? ⟨c,a,none⟩=false:=by have⟨p,i,_⟩:=zw n;refine⟨kB i a d ?_,kx i a⟩;rw[Sg,RR (Rg.1 g).1];exact g
def A8(x:Ex):List Value:=[.int .u8 x.op,tx x.name,.int .i64 x.n,Nl]
def tU(a:List Ex):List Value:=a.flatMap A8
def Cc(a):(tU a).length=a.length*4:=by
 induction a with
 |nil=>rfl
 |cons c a b=>simp only[tU,List.flatMap_cons,Q6,Rn]at*;rw[b];simp[A8];omega
def zx(a b):tU (a++[b])=tU a++A8 b:=by simp[tU]
def mh.ku{T:lj}{vQ:PV}{w w'}{pb pos:Nat}(a:mh T vQ w pb pos)(f:w.heap.size<=w'.heap.size)(d:∀q,q<vQ.lo->w'.heap[q]?=w.heap[q]?):mh T vQ w' pb pos:=by have⟨b,g,i,j,k,l,e,m⟩:=a.ll;refine⟨⟨b,g,i,(d pb a.low.1).T j,k,l,e,λn p r=>?_⟩,a.small,a.low.1,Q8 a.low.2 f⟩;have⟨s,t,u⟩:=m n p r;have c:=d b e;exact⟨(Cb b _ c).T s,(Cb b _ c).T t,(Cb b _ c).T u⟩
def FD(b)(a o:Nat)(c d e f):kX b a o [c,d,e,f]=(((b.setCell ⟨a,o,none⟩ c).setCell ⟨a,o+1,none⟩ d).setCell ⟨a,o+2,none⟩ e).setCell ⟨a,o+3,none⟩ f:=rfl
def qQ.G0{T:lj}{c d:Nat}{b:lI.Ex}(a:qF T c=some (b,d)):b.args=[]:=by have⟨_,a⟩:=Go.Proofs.YtppncjcpdbhobaaGreatDoor.tj (Go.Proofs.YtppncjcpdbhobaaGreatDoor.oK a).1;rcases a with⟨_,e,_,rfl⟩|⟨_,_,f,_,rfl⟩<;>rfl
def qQ.Cf{T:lj}{b c:Nat}{d:lI.Ex}(a:qF T b=some (d,c)):b<c:=by
 have⟨_,a⟩:=Go.Proofs.YtppncjcpdbhobaaGreatDoor.tj (Go.Proofs.YtppncjcpdbhobaaGreatDoor.oK a).1;rcases a with⟨_,e,a,_⟩|⟨_,_,f,a,_⟩
 have:=(Go.Proofs.YtppncjcpdbhobaaGreatDoor.Ca a).2.2.2.2.2.1;omega;have:=(Go.Proofs.YtppncjcpdbhobaaGreatDoor.ru a).2.2.1;omega
def bind_some{b c:Type}{o:Option b}{d:b->Option c}{e:c}(f:(o>>=d)=some e):∃a,o=some a/\d a=some e:=by
 cases o with
 |none=>cases f
 |some a=>exact⟨a,Z,f⟩
abbrev An(a b c d e f):=(.cells #[.int .u8 a,tx b,tx c,.slice d e f,Nl,Nl] 175:Go.Obj)
def M7(d:Fl)(a:World)(e:Ending)(c:World):Prop:=∃b:Nat,e=.returned (.tuple #[.pointer b,.int .i64 0,.int .i64 0])/\oo c b d/\Below a a c/\a<=b
def Le:0<(kI.lexB ⟨src.toArray⟩).length:=Uz
def Ag{a b}(c:tx a=tx b):a=b:=by
 have d:(⟨a.toArray⟩:ByteArray)=⟨b.toArray⟩:=by injection c
 simpa using(RF (λe:ByteArray=>e.data.toList) d)
def Ir(c):∀b:List UInt8,(b.takeWhile c).length=b.length->b.all c=true
 |[],_=>rfl
 |a::b,h=>by
  rw[List.takeWhile_cons]at h;split at h
  rename_i d
  rw[List.all_cons,d,Ir c b<|by simpa using h];rfl;simp at h
def vC{a}(b:mZ a=true):a.all oQ=true:=by unfold mZ at b;simp only[R2,R5]at b;have⟨⟨_,e⟩,_⟩:=b;have c:=Ir _ a e;rw[Sb]at c⊢;exact λd f=>A7 d<|c d f
