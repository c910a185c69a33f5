import Derived.Test.YtbdipimmpgijaaaGreatDoorZ14
import Derived.Test.YtbdipimmpgijaaaGreatDoorZ15
import Derived.Test.YtbdipimmpgijaaaGreatDoorZ16
import Derived.Test.YtbdipimmpgijaaaGreatDoorZ17
set_option maxRecDepth 1000000
set_option maxHeartbeats 32000000
set_option linter.all false
namespace Go.Proofs.YtbdipimmpgijaaaGreatDoor
open RowKit Go.Proofs.Tryz lH Maps oa qR ChangeShapes WideShapes ChangeAt
def Fs(u:Nat->Prop)(d:RW)(f:RE)(g i:Nat)(j:RE)(k l:Nat)(m:RE)(n p:Nat)(c:Fl)(J:lX d)(K:pH d)(L:qC d)(ai:pW u d f g i j k l m n p c)(aj:mi c)(ak:K6 c)(al:M9 c)(am:∀an∈c.kH,Lt an):
  Calls prog 11 #[.agg<|lP c.name f g i j k l m n p] d (KI u c d):=by
 have ao:=J.low;have ap:=K.lt;have aq:=L.lt;have s:=Ba d<|.cells (lP c.name f g i j k l m n p) 54;have M:=X s;have B:=X<|QQ d<|.cells (lP c.name f g i j k l m n p) 54;have N:=X<|ai.ku s;have C:=X<|J.ku s ao;have ar:=X<|K.kv (s.B _ ap) s.size;have O:=X<|L.kv (s.B _ aq) s.size;have Q:=X<|show(d.alloc<|.cells (lP c.name f g i j k l m n p) 54).heap.size=d+1 from Uo;have D:=X aj;have au:=X ak;have av:=X al;have aw:=X am
 go_enter func11,ntmps11
 go_upto_region 1 with fail;generalize d.alloc (.cells (lP c.name f g i j k l m n p) 54)=R at*;have⟨q,E⟩:=Xq d.heap.size;rw[<-E]at B Q M⊢;have ax:=X E;have ay:q<R:=W Q.o
 clear E;have⟨⟨S,T,U,V⟩,_⟩:=rG B.o;go_wp21;apply(Cz u R f g i j k l m n p c C.o ar.o N.o D.o au.o av.o).M;rintro F x ⟨az,rfl,v,bh,aA⟩;have aB:=X v;have aC:=X aA;have aD:=v.size;have G:=X<|N.o.ku v;have aE:=X<|C.o.ku v C.o.low;have aa:=X<|O.o.kv (v.B _ O.o.lt) aD;have ab:=X<|(v.B q ay).T B.o;have⟨⟨S,T,U,V⟩,_⟩:=rG ab.o;have aF:q<x:=Y
 go_wp21;apply(Gy u x f g i j k l m n p c aE.o G.o D.o aw.o).M;rintro F ac ⟨r,rfl,bi,w⟩;have ad:=X w;have aG:=w.size;have aH:=X<|G.o.ku w;have ae:=X<|aa.o.kv (w.B _ aa.o.lt) aG;have aI:=X<|(w.B q aF).T ab.o;have⟨⟨S,T,U,V⟩,_⟩:=rG aI.o;have bj:q<ac:=Y
 go_wp21;apply(IU u ac f g i j k l m n p c aH.o D.o).M;rintro F e ⟨aJ,aK,aL,aM,aN,aO,aP,aQ,aR,rfl,aS,I⟩;have af:=X I;have aT:=I.size;have aU:=X aS;have ag:=X<|ae.o.kv (I.B _ ae.o.lt) aT;have bk:=Lib.run_convert_string_bytes (P:=prog) e 9 22 5 r underlying9 underlying22 underlying5;have y:=X<|CE e 5 r;have aV:=X<|show∀z,z<r.size->∃c:Int,(Lib.bytesWorld e 5 r).cell? ⟨e,0+z,none⟩=some (.int .u8 c)from λz aW=>⟨_,by rw[Q7];exact Lib.bytesWorld_cell e 5 r z aW⟩;have aX:=X<|Lib.bytesWorld_size e 5 r;generalize Lib.bytesWorld e 5 r=aY at*;go_wp21;refine(KH (sE e) r.size _ aY (λ_=>⟨_,_,Z,W aX.o,aV.o⟩) (grownCap_ge _ _ _ _) Y<|ag.o.kv (y.o.B _ ag.o.lt) y.o.size).M ?_;rintro F t ⟨⟨bl,rfl,aZ,ba⟩,bb⟩;obtain⟨bm,rfl⟩:=Mr aZ ba;have A:=X<|show Below e e t from y.o.T<|bb.M y.o.size;go_wp21
 go_ret2
 have bn:=A.o.size;have bc:Below q d e:=((M.o.T<|aB.o.M Y).T<|ad.o.M Y).T<|af.o.M Y;have bd:Below q d t:=bc.T<|A.o.M Y;have be:=ax.o;refine⟨t,Z,⟨⟨Uo,.inr Y⟩,λb=>(u b\/q<=b)/\b<t,aJ,aK,aL,aM,aN,aO,aP,aQ,aR,az,kt (QQ _ _) 0,kt (QQ _ _) 1,kt (QQ _ _) 2,kt (QQ _ _) 3,kt (QQ _ _) 37,?_,?_,⟨Us,.inr Y⟩,λb a=>a.1.imp id λbo=>Y⟩,?_,Y⟩
 .have bf:=aU.o.ku A.o;exact(bf.ku<|Ba t _).M (λb a=>⟨.inr<|W a.1,W a.2⟩) (λb a=>Us)
 .have bg:∀(o:Obj) (b:Nat),b<x->(t.alloc o).heap[b]?=x.heap[b]?:=λo b a=>(Q5 t o Y).T<|(A.o.B b Y).T<|(af.o.B b Y).T<|ad.o.B b a;have ah:=G.o.lK;refine(aC.o.kv λb a=>bg _ b<|by rcases a with(a|a)|a;exact ah b a;exact a.2;omega).M (λb a=>?_);rcases a with a|a;exact⟨.inl a,W<|ah b a⟩;exact⟨.inr Y,Y⟩
 .rw[<-be];exact bd.alloc Y _
def Mu(m b c)(d e:Nat)(f)(g i:Nat)(j)(k l:Nat)(a)(n:lX b)(p:pH b)(q:qC b)(r:pW m b c d e f g i j k l a)(s:mi a)(t:K6 a)(u:M9 a)(v:∀w∈a.kH,Lt w):
  Calls prog 11 #[.agg<|lP a.name c d e f g i j k l] b (Mt a b):=
 (Fs m b c d e f g i j k l a n p q r s t u v).M λ_ C ⟨x,y,z,A,B⟩=>⟨x,y,z.kv (λ_ _ _=>Z)<|QX _,A,B⟩
def qR.uY(T:lj):Option Fl:=do
 let b<-tu T [102,108,101,101,116] 0
 let (a,b)<-wh T b
 let b<-tu T [123] b
 let (fs,b)<-py T [102,108,97,103] (wU T) (T.length+1) b
 if ow T b=[108,105,110,107]then none else
 let (cs,b)<-py T [99,111,109,112,111,110,101,110,116] (wT T) (T.length+1) b
 let b<-tu T [125] b
 if b=T.length then some ⟨a,fs,[],cs⟩else none
def qR.BZ{T:lj}{c d:Nat}{e:lH.St}(f:vO T c=some (e,d)):c<d:=by have⟨_,l,m,n,p,q,r,s,g,a,i,j,b,_⟩:=Go.Proofs.YtbdipimmpgijaaaGreatDoor.vB f;have t:=(Go.Proofs.YtbdipimmpgijaaaGreatDoor.rv g).2.2.1;have u:=(Go.Proofs.YtbdipimmpgijaaaGreatDoor.rv i).2.2.1;unfold tu at a b;split at a;split at b;injection a with a;injection b with b;have v:=xq (λc d w k=>BX k) j;omega;cases b;cases a
def ED{T:lj}{t:PV}{n j G:Nat}{u}(e)(p:uX T j=some (u,G))(h:mh T t e n j):Calls prog 201 #[.pointer n] e<|MC T t n G u e:=by
 have⟨ag,ah,ai,aj,ak⟩:=Rj MB;have v:=OK ah ai aj ak;unfold uX at p;by_cases a:ow T j=[123]
 .rw[RB a]at p;have al:=X (show tu T [123] j=some (j+1)from by unfold tu;rw[RB a]);have am:=X p;have an:=X h;have ao:=h.low;have aO:=h.lt
  go_enter func201,ntmps201
  go_wp21;apply(nu an.o _ al.o Un).M;rintro c aP ⟨⟨O,rfl⟩,a⟩;have P:=X a;go_wp21;have aQ:=P.o.1.small
  go_loopg [3] (T.length-(j+1)) (λap O wr=>∃(g I:List St) (k Q:Nat),g++I=u/\qV T Q k=some (I,G)/\g.length<=k/\k+ap=T.length/\lN T t e n k wr/\kJ (kR .u8 Ds) 198 6 (λd=>e<=d) wr e O g)
  .exact⟨[],u,j+1,_,Z,am.o,QZ _,Y,P.o,kJ.nil _ _ _ _ _ _⟩
  have⟨g,I,k,Q,w,aq,aR,aS,x,ar⟩:=hrel;have R:=X w;have S:=X x;have m:=X ar;have⟨aT,aU,aV,au,_⟩:=x.1.ll;have aW:=kt au 8;have aX:=x.2.size;have y:=X<|Ap x.1 [125];rcases EB aq with⟨z,rfl,rfl⟩|⟨z,b,J,av,aw,U,rfl,ax⟩
  .rw[R2.2 z]at y;have ay:=X (show tu T [125] k=some (k+1)from by unfold tu;rw[RB z]);obtain⟨q,r,rfl,V,az⟩:=m.o.form;go_wp2_with (apply y.o.M;rintro c K ⟨rfl,a⟩;have s:=X<|S.o.ku a;have A:=X a;clear a);apply(nu s.o.1 _ ay.o Un).M;rintro c f ⟨⟨aY,rfl⟩,a⟩;have aA:=X<|s.o.T a;have B:=X<|((m.o.ku (kR.ok .u8 _) A.o).grown (kR.ok .u8 _) a.2 λC c=>by injection c with c;subst c;exact⟨Y,λc=>W<|(m.o.ge _ c.symm).1⟩).sl<|kR.ok .u8 _;go_wp21;go_ret;have w:=R.o;rw[Sb]at w;subst w;exact⟨q,r,Z,B.o.M (kR.ok .u8 _) λd a=>⟨by rcases a.1 with h|h<;>exact h,a.2⟩,aA.o⟩
  rw[Tf z]at y;have L:=On U ax;have aZ:=BZ U;go_wp2_with (apply y.o.M;rintro c K ⟨rfl,a⟩;have s:=X<|S.o.ku a;have A:=X a;clear a);obtain⟨q,r,rfl,V,az⟩:=m.o.form;apply(GW K L.o.1 s.o.1).M;rintro c f ⟨i,c3,rfl,aB,a⟩;have ba:=a.2.size;have bb:=A.o.size;have D:=m.o.ge;have B:=X ((m.o.ku (kR.ok .u8 _) A.o).grown (kR.ok .u8 _) a.2 λC c=>by injection c with c;subst c;exact⟨Y,λc=>W<|(D _ c.symm).1⟩);have aC:=X<|s.o.T a;have aD:∀d,K.heap.size<=d->some d≠(Value.slice q g.length r).ownBlock:=λd a c=>W<|(D d c.symm).2;have M:kR .u8 Ds (λd=>e<=d/\d<f/\some d≠(Value.slice q g.length r).ownBlock) f [.int .u8 b.kind,tx b.name,tx b.hd,(i,b.lp.length,c3),Nl,Nl] b:=by obtain⟨_,bc,bd,be,bf,bg,bh,bi,_,_,_,_,_,rfl⟩:=vB L.o.1;exact⟨_,_,_,Z,aB.M (kP.ok .u8 _) λd a=>⟨W a.1,a.2,aD d a.1⟩,kz.nil _ _ _,kz.nil _ _ _⟩
  have⟨aa,N⟩:=Xq g.length;have⟨l,ab⟩:=Xq b.lp.length;rw[<-N]at V B M⊢;rw[<-ab]at M⊢;have ac:=X N;have bj:aa<=20000:=Y;have aE:=X<|QQ f<|DE b.kind b.name b.hd i l c3;have aF:∀(E:Nat) (F:R0),[Value.int .u8 b.kind,tx b.name,tx b.hd,(i,l,c3),Nl,Nl][E]?=some F->(f.alloc<|DE b.kind b.name b.hd i l c3).cell? ((f:Addr).add E)=some F:=λE F aG=>(by rw[addr_add,Q7];exact kA aE.o E F<|by simpa using aG);have aH:=X aF;have ad:f.grownBy (f.alloc<|DE b.kind b.name b.hd i l c3) none:=QV _ _ _;have ae:=X (B.o.grown (kR.ok .u8 _) ad λC c=>by cases c);have aI:=X<|(kR.ok .u8 Ds).M ((kR.ok .u8 Ds).kv M λd a=>ad.B d a.2.1 Uo) (T:=λd=>e<=d/\d<(f.alloc<|DE b.kind b.name b.hd i l c3).heap.size/\some d≠(Value.slice q aa r).ownBlock) λd a=>⟨a.1,Uu,a.2.2⟩;clear ab N;go_wp2_with (at_builtin;refine kO Z _ _ 122 Z e.heap.size 198 ag _ 6 112 underlying122 v.o.1 v.o.2.1 v.o.2.2.1 v.o.2.2.2 Z (kR.ok .u8 Ds) (λd=>e<=d) _ g Z ae.o ⟨f,0,none⟩ [.int .u8 b.kind,tx b.name,tx b.hd,(i,l,c3),Nl,Nl] b Z aH.o aI.o ?c3 ?c4 ?c5 ?_);case c3=>rw[<-ac.o];unfold maxLen;omega
  case c4=>rw[<-ac.o];omega
  case c5=>simp only[QR];omega
  intro bk aJ aK aL bl;have D:=ae.o.ge;have aM:=aC.o.alloc<|DE b.kind b.name b.hd i l c3;have af:Hid<|lN T t e n J aJ:=X<|aM.lK ao.2 aL λC c=>(D C c).1;have aN:=X aK;have bm:=af.o.1.small;go_wp21
  go_roundg (T.length-J)
  case measure=>omega
  case rel=>exact⟨g++[b],av,J,aw,by rw[Ru];exact R.o,L.o.2,by rw[Q3];simp;omega,Y,af.o,aN.o⟩
 rw[Rh a]at p;cases p
def qR.zy{c:lj}:∀{k b d:Nat} {e:List lH.St},qV c k b=some (e,d)->b<d
 |0,_,_,_,a=>by cases a
 |k+1,b,d,e,a=>by
  unfold qV at a;split at a;injection a with a;injection a with _ f;omega;cases hs:vO c b with
  |none=>rw[hs]at a;cases a
  |some y=>
   have⟨i,g⟩:=y;rw[hs]at a;simp only at a;cases hr:qV c k g with
   |none=>rw[hr]at a;cases a
   |some z=>have⟨j,l⟩:=z;rw[hr]at a;injection a with a;injection a with _ f;subst f;have:=BZ hs;have:=zy hr;omega
def qR.zz{T:lj}{b c:Nat}{d:List lH.St}(a:uX T b=some (d,c)):b<c:=by unfold uX at a;split at a;have:=zy a;omega;cases a
def AQ{T:lj}{Q:PV}{n R d:Nat}{J}(w)(K:uF T R=some (J,d))(h:mh T Q w n R):Calls prog 146 #[.pointer n] w<|MG T Q n d J w:=by
 have⟨bv,aN,aO,aP,aQ⟩:=Rj MF;have S:=OK aN aO aP aQ;clear aN aO aP aQ;unfold uF at K;have bw:=X K;have bx:=X h;have aR:=h.low;have bz:=h.lt;have cu:=h.small;clear K h
 go_enter func146,ntmps146
 go_wp21;have⟨p,B⟩:=Xq<|((w.alloc<|sn n).alloc<|.cells #[Nl] 118).alloc<|.cells #[Nl] 118;rw[<-B];have aS:p.heap.size=w+3:=by rw[B];simp
 have am:Below w w p:=by rw[B];exact((Ba _ _).alloc Uo _).alloc Us _
 have⟨e,C⟩:=Xq w.heap.size;have bA:Hid<|p.heap[e]?=some (sn n):=X (by rw[B,C];exact(Q5 _ _ Uu).T ((Q5 _ _ Uu).T<|QQ _ _));have an:Hid<|p.heap[e+1]?=some (.cells #[Nl] 118):=X (by rw[B,C];have:=QQ (w.alloc<|sn n)<|.cells #[Nl] 118;rw[QR]at this;exact(Q5 _ _ Uu).T this);have bB:Hid<|p.heap[e+1+1]?=some (.cells #[Nl] 118):=X (by rw[B,C];have:=QQ ((w.alloc<|sn n).alloc<|.cells #[Nl] 118)<|.cells #[Nl] 118;rw[QR,QR]at this;exact this);clear B;rw[<-C]at aS aR bz⊢;have bC:=X C;have bD:=X<|lN.of bx.o am;have bE:=X am;clear C am
 go_loopg [] (T.length-R) (λbF wr=>∃(k ao:List Hd) (A aT:Nat) (v:R0),k++ao=J/\py T [111,110] (sD T) aT A=some (ao,d)/\k.length<=A/\A+bF=T.length/\mh T Q wr n A/\qx p wr n (e+1+1)/\wr.heap[e+1+1]?=some (.cells #[v] 118)/\kJ (mA .u8) 125 3 (λc=>p<=c) wr p v k)
 .exact⟨[],J,R,_,_,Z,bw.o,QZ _,Y,bD.o.1,qx.refl _ _ _,bB.o,kJ.nil _ _ _ _ _ _⟩
 have⟨k,ao,A,aT,v,L,ap,cv,cw,U,D,aU,aq⟩:=hrel;have aV:=X L;have aW:=X<|lN.refl U;have V:=X aq;have M:=X D;have ar:=X aU;have cx:=D.size;have b:=(D.B e Y Y Y).T bA.o;have aX:=X b;have bG:=kt b 0;have aY:e<wr:=Y;obtain⟨r,s,rfl,bH,cy⟩:=aq.form;clear L U aq D aU b;rcases zA ap with⟨au,rfl,rfl⟩|⟨au,aZ,E,ba,bI,bb,rfl,bc⟩
 .clear ap;have aa:=kt ar.o 0;have bd:=kA ((M.o.B (e+1) Y Y Y).T an.o) 0 _ Z;have be:=kx ((M.o.B (e+1) Y Y Y).T an.o) 0;go_wp21;apply(mF aW.o _ Un au).M;rintro a t ⟨rfl,b⟩;have bf:=(b.2.B (e+1+1) Y λa=>by injection a;omega).T ar.o;have ab:=(b.2.B (e+1) Y λa=>by injection a;omega).T<|(M.o.B (e+1) Y Y Y).T an.o;have bJ:=X ab;have av:=X b;clear aa bd be;have aa:=kt bf 0;have bd:=kt ab 0;have be:=kx ab 0;clear bf ab b;go_wp21;have hF:=one_set (v:=.slice r k.length s) bJ.o;have bK:=kt hF 0;have cz:=bC.o;have bL:=((V.o.grown (mA.ok .u8) av.o.2 λz a=>by injection a with a;subst a;exact⟨Y,λa=>W<|(V.o.ge _ a.symm).1⟩).sl<|mA.ok .u8)
  have bM:=M.o.base (kK (kC bE.o)<|some n) Y;have bN:lN T Q w n d<|t.setCell ⟨e+1,0,none⟩<|.slice r k.length s:=lN.lK ⟨av.o.1,ky bM av.o.2⟩ (W aR.2) (kE _ _ _ _) (λz a=>by injection a with a;omega);have L:=aV.o;rw[Sb]at L;subst L;refine QY (v:=.agg #[.slice r k.length s]) ?_ rfl ⟨r,s,Z,(bL.mH (mA.ok .u8) λc b=>by rcases b.1 with h|h<;>omega).M (mA.ok .u8) λc b=>⟨by rcases b.1 with h|h<;>omega,by rw[QU];exact b.2⟩,bN⟩;simp[results,Tryz.results146,go_sem,bK]
 obtain⟨f,cA,l,cB,c,aw,ax,ay,rfl⟩:=uN bb;have ac:=OK aw ax ay bc;have cC:A+1<E:=(by have:=rL aw;have:=xq (λA d bg K=>rL K) ax;have:=zz ay;omega);clear ap bb aw ax ay bc;go_wp21;apply(sF aW.o _ Un au).M;rintro a cD ⟨rfl,b⟩;have bh:=X b;have bO:=kA ((b.2.B e aY λa=>by injection a;omega).T aX.o) 0 _ Z;clear b bG;go_wp21;apply(oI bh.o.1 ac.o.1).M;rintro a t ⟨rfl,b⟩;have ad:wr.grownBy t<|some n:=ky bh.o.2 b.2;have bP:=ad.size;have bQ:=X b.1;have bR:=X ad;have az:=(ad.B e aY λa=>by injection a;omega).T aX.o;have bS:=kt az 0;have bT:=X az;clear b bO ad az;have bi:=X<|QQ t<|.cells #[tx f,Nl,Nl] 125;have bj:=X<|bQ.o.ku<|Ba t<|.cells #[tx f,Nl,Nl] 125;have bU:=(Q5 t (.cells #[tx f,Nl,Nl] 125)<|show e<t from Y).T bT.o;have bk:=X bU;have bV:e<t:=Y;go_wp21;have⟨F,G⟩:=Xq<|t.alloc<|.cells #[tx f,Nl,Nl] 125;have⟨b,ae⟩:=Xq t.heap.size;rw[<-G,<-ae]at bi;rw[<-G]at bj bk;rw[<-G,<-ae];have cE:F=b+1:=(by rw[G,ae,QR]);have bW:Hid<|wr.grownBy F<|some n:=X (by rw[G];exact ky bR.o<|kK (QV _ _ none) _);have bX:Hid<|Na F n e b f [] Nl F:=X ⟨bk.o,bi.o,SS _ _ _ _,qx.refl _ _ _,Y,Y,Y,Y,Y,QX _⟩;have bl:wr<=b:=Y;clear G ae bV bS bP;refine(zt (wh T) l ac.o.2.1 200 (HK b e) (λ_ _=>Up) (λk w=>JQ F n e b f k w) (λk w cF ⟨v,N⟩ D=>⟨v,N.kv D⟩) (λA E bg aA=>rL aA) (λk A E bg w aA U N O=>GX F w aA U N Y O) _ bj.o ⟨_,bX.o⟩).M ?_;rintro a bY ⟨⟨cG,rfl⟩,bm,v,aB⟩;have bZ:=X bm;have bn:=X aB;have ca:=kt aB.bx 0;clear bm aB;go_wp21;apply(ED bY ac.o.2.2.1 bZ.o).M;rintro a q ⟨g,j,rfl,bo,aC⟩;have af:=X<|bn.o.kv aC.2;have bp:=X aC;have cb:=X bo;have⟨⟨cH,cI,cJ⟩,cK,cL,cM⟩:=lg af.o.ex;have aD:=af.o.g.base bW.o bl;have aE:=(aD.B (e+1+1) Y λa=>by injection a;omega).T ar.o;have aa:=kt aE 0;clear aC bo ca;obtain⟨x,y,rfl⟩:∃r s,v=.slice r l.length s:=by
  rcases af.o.own.2 with⟨rfl,aZ⟩|⟨cN,cO,cP,rfl,_⟩
  exact⟨none,0,by rw[aZ]⟩;exact⟨_,_,Z⟩
 have cQ:=bp.o.2.size;have I:=V.o.ge;have cR:=bn.o.lt.2.2.2.2.2;have aF:wr.grownBy (q.setCell ⟨b,2,none⟩ (g,c.length,j))<|some n:=xa aD (kE _ _ _ _) bl;have cc:=X aF;have aG:=V.o.grown (mA.ok .u8) aF (λz a=>by injection a with a;subst a;exact⟨Y,λa=>W<|(I _ a.symm).1⟩);have ag:∀d,b+1<=d->some d≠(Value.slice r k.length s).ownBlock:=λd m a=>W<|(I d a.symm).2;have aH:mA .u8 (λd=>p<=d/\d<(q.setCell ⟨b,2,none⟩ (g,c.length,j)).heap.size/\some d≠(Value.slice r k.length s).ownBlock) (q.setCell ⟨b,2,none⟩ (g,c.length,j)) [tx f,(x,l.length,y),(g,c.length,j)] ⟨f,l,c⟩:=
  ⟨_,_,Z,((KT af.o.own).mH kM.ok λd m=>W m.1).M kM.ok λd m=>⟨W m.1,by rw[QU];exact m.2,ag d<|W m.1⟩,(cb.o.mH (kR.ok .u8 _) λd m=>W m.1).M (kR.ok .u8 _) λd m=>⟨W m.1,by rw[QU];exact m.2,ag d<|W m.1⟩⟩
 have bq:=bp.o.1.other (z:=b) (i:=2) (u:=.slice g c.length j) Y;have br:=(Q0 q ⟨b,2,none⟩ (g,c.length,j) (e+1+1)<|by show e+1+1≠b;omega).T aE;have cd:=X br;have ce:=X bq;have⟨aI,O⟩:=Xq k.length;rw[<-O]at bH aG aH aa;have aJ:(q.setCell ⟨b,2,none⟩ (g,c.length,j)).grownBy ((q.setCell ⟨b,2,none⟩ (g,c.length,j)).alloc<|.cells (hR f x l.length y g c.length j) 125) none:=QV _ _ _;have cf:=X (aG.grown (mA.ok .u8) aJ λz a=>by cases a);have cg:=X (show∀(ah:Nat) (u:R0),[tx f,Value.slice x l.length y,(g,c.length,j)][ah]?=some u->((q.setCell ⟨b,2,none⟩ (g,c.length,j)).alloc<|.cells (hR f x l.length y g c.length j) 125).cell? ((q:Addr).add ah)=some u from λah u N=>by have:=QQ (q.setCell ⟨b,2,none⟩ (g,c.length,j))<|.cells (hR f x l.length y g c.length j) 125;rw[QU]at this;rw[addr_add,Q7];exact kA this ah u<|by simpa using N)
 have ch:=X<|(mA.ok .u8).M ((mA.ok .u8).kv aH λd m=>aJ.B d m.2.1 Uo) (T:=λd=>p<=d/\d<((q.setCell ⟨b,2,none⟩ (g,c.length,j)).alloc<|.cells (hR f x l.length y g c.length j) 125).heap.size/\some d≠(Value.slice r aI s).ownBlock) λd m=>⟨m.1,Uu,m.2.2⟩;rw[<-O]at ag I;have bs:=λz a=>(I z a).1;have ci:=X bs;have cj:some (e+1+1)≠(Value.slice r aI s).ownBlock:=λa=>W<|(I _ a.symm).1;clear aH aG aJ aF bq br ag I O bs aD aE;go_wp2_with (at_builtin;refine kO Z _ _ 116 Z p.heap.size 125 bv _ 3 64 underlying116 S.o.1 S.o.2.1 S.o.2.2.1 S.o.2.2.2 Z (mA.ok .u8) (λd=>p<=d) _ k Z cf.o ⟨q,0,none⟩ [tx f,(x,l.length,y),(g,c.length,j)] ⟨f,l,c⟩ Z cg.o ch.o ?c3 ?c4 ?c5 ?_);case c3=>unfold maxLen;omega
 case c4=>omega
 case c5=>simp only[QR,QU];omega
 intro cS aK ai P ck;obtain⟨aj,ak,rfl,cl,_⟩:=ai.form;have aL:∀z,(Value.slice r aI s).ownBlock=some z->p<=z:=ci.o;have cm:(e+1+1)<(q.setCell ⟨b,2,none⟩ (g,c.length,j)).heap.size:=(by rw[QU];omega);have al:=(P.B (e+1+1) (by rw[QR];omega) cj).T<|(Q5 (q.setCell ⟨b,2,none⟩ (g,c.length,j)) (.cells (hR f x l.length y g c.length j) 125) cm).T cd.o;have cT:=kt al 0;have cU:=kx al 0;have bt:=ce.o.ku<|(Sf _ _).alloc (QX _)<|.cells (hR f x l.length y g c.length j) 125;have aM:=bt.kv P.size λd m=>P.B d (by rw[QR];omega) λa=>W<|aL d a.symm;have bu:qx p aK n<|e+1+1:=((M.o.grown cc.o).lK (QV (q.setCell ⟨b,2,none⟩ (g,c.length,j)) (.cells (hR f x l.length y g c.length j) 125) none) λz a=>by cases a).lK P λz a=>aL z a;have cn:=X<|aM.other (z:=e+1+1) (i:=0) (u:=.slice aj (k++[(⟨f,l,c⟩:Hd)]).length ak) Y;have co:=X<|bu.wZ<|kE aK (e+1+1) 0<|.slice aj (k++[(⟨f,l,c⟩:Hd)]).length ak;have cp:=X<|one_set (v:=.slice aj (k++[(⟨f,l,c⟩:Hd)]).length ak) al;have cq:=X (ai.grown (mA.ok .u8) (kE aK (e+1+1) 0<|.slice aj (k++[(⟨f,l,c⟩:Hd)]).length ak) λz a=>by injection a with a;subst a;exact⟨Y,λa=>W<|(ai.ge _ a.symm).1⟩);have cV:=aM.small;have cr:=X (show(k++[(⟨f,l,c⟩:Hd)])++ba=J from by rw[Ru];exact aV.o);have cs:=X (show(k++[(⟨f,l,c⟩:Hd)]).length<=E from by rw[Q3];simp;omega);clear ai P ck cl al bt aM bu aL;generalize k++[(⟨f,l,c⟩:Hd)]=ct at*;go_wp21
 go_roundg (T.length-E)
 case measure=>omega
 case rel=>exact⟨ct,ba,E,bI,_,cr.o,ac.o.2.2.2,cs.o,Y,cn.o,co.o,cp.o,by rw[aS];exact cq.o⟩
def GY{T:lj}{l:PV}{pb pos q f:Nat}{J}(w)(R:wU T pos=some (J,q))(j:mh T l w pb pos)(k)(K:kJ mI 107 2 (λ_=>False) w f l.v2 k)(S:l.lo<=f/\f<=w)(aX:k.length<=20000):
  Calls prog 97 #[.pointer pb] w λa w'=>(∃U,a=.returned U)/\MI T l pb q f (k++[J]) w w':=by
 have⟨V,aa,ab,ac,ad⟩:=Rj MH;have p:=OK aa ab ac ad;obtain⟨c,aY,aZ,d,ba,ae,af,ag,ah,rfl⟩:=zC R;have r:=OK ae af ag ah;have y:=j.low;have ai:=j.lt;have aj:=X j;have A:=X K;have⟨ak,al,am,bb,bc⟩:=K.form;have B:=X am;have L:=X<|QQ w vj;have an:=X<|aj.o.ku<|Ba w vj;have ao:=X<|QV w vj none;have ap:(w.alloc vj).heap.size=w+1:=Uo
 go_enter func97,ntmps97
 go_upto_region 1 with fail;generalize w.alloc vj=bd at*;have⟨z,C⟩:=Xq w.heap.size;rw[<-C]at L ap ai y S⊢;have D:=X C;clear C;go_wp21;apply(oI an.o r.o.1).M;rintro a aq ⟨rfl,b⟩;have be:=b.2.size;have E:=(b.2.B z Y λa=>by injection a with a;omega).T L.o;have ar:=X E;have au:=X<|b.1.other (z:=z) (i:=0) (u:=tx c) y.2;have av:=X<|ky (kK ao.o<|some pb) b.2;have aw:=kt E 0;have ax:=kx E 0;go_wp21;apply(nu au.o _ r.o.2.1 Un).M;rintro a bf ⟨⟨v2,rfl⟩,b⟩;have ay:=b.2.size;rw[QU]at ay;have az:=(b.2.B z (by rw[QU];omega) λa=>by injection a with a;omega).T<|kr (i:=0) (u:=tx c) ar.o;have aA:=X az;have aB:=X b.1;have aC:=X<|ky (xa av.o (kE aq z 0<|tx c)<|W D.o) b.2;go_wp21;apply(Eu aB.o r.o.2.2.1).M;rintro a aD ⟨rfl,b⟩;have bg:=b.2.size;have F:=(b.2.B z Y λa=>by injection a with a;omega).T aA.o;have aE:=X F;have aF:=X<|b.1.other (z:=z) (i:=1) (u:=.bool d) y.2;have aG:=X<|ky aC.o b.2;have bh:=kt F 1;have ax:=kx F 1;go_wp21;apply(nu aF.o _ r.o.2.2.2 Un).M;rintro a e ⟨⟨bi,rfl⟩,b⟩;have aH:=b.2.size;rw[QU]at aH;have M:=(b.2.B z (by rw[QU];omega) λa=>by injection a with a;omega).T<|kr (i:=1) (u:=.bool d) aE.o;have aI:=X b.1;have N:=X<|ky (xa aG.o (kE aD z 1<|.bool d)<|W D.o) b.2;have aw:=kt M 0;have bj:=kt M 1;have⟨bk,bl,aJ⟩:=b.1.tree;have aK:=kt aJ 4;have bm:=b.1.lt;have bn:z<e:=Y
 have aL:=X (A.o.grown mI.ok N.o λz a=>by injection a with a;subst a;exact⟨λj=>j,λa=>W<|(A.o.ge _ a.symm).1⟩);have aM:∀q,l.v2.ownBlock=some q->f<=q:=λq a=>(A.o.ge q a).1;have aN:=X aM;have aO:k.length+1<=maxLen:=Uw
 have aP:(k.length+1)*24<=140737488355328:=Y
 have G:=X (aL.o.grown mI.ok (vP e<|ti c d) λz a=>by cases a);rw[B.o]at G;obtain⟨g,s⟩:∃g,k.length=g:=⟨_,Z⟩
 rw[B.o,s]at aK;rw[s]at G;have aQ:=X (show∀(t:Nat) (u:R0),[tx c,Value.bool d][t]?=some u->(e.alloc<|ti c d).drew.cell? ((e:Addr).add t)=some u from λt u aR=>by rw[addr_add,Q7];exact kA (w:=(e.alloc<|ti c d).drew) (QQ e<|ti c d) t u<|by simpa using aR);have aS:=X<|aI.o.grown<|vP e<|ti c d;go_wp21;go_region_law (first|(refine rE (e.alloc<|ti c d).drew (by rfl) (.tmp 18) (.tmp 20) 50 (by rfl) f 107 V _ 2 24 underlying50 p.o.1 p.o.2.1 p.o.2.2.1 p.o.2.2.2 Z mI.ok (λ_=>False) (.slice ak g al) k (by rfl) G.o ⟨e,0,none⟩ [tx c,.bool d] ⟨c,d⟩ (by rfl) aQ.o Z aO aP (by show f<=(e.alloc _).heap.size;rw[QR];omega) g s ?_;intro m n v O x;have I:=aN.o;rw[B.o,s]at I;have P:=aS.o.kv x.size λq bo=>x.B q (by show q<(e.alloc _).heap.size;rw[QR];omega) λa=>W<|I q a.symm;have⟨bp,bq,Q⟩:=P.tree;have br:=kt Q 4;have bs:=kx Q 4));all_goals
  have aT:=P.put (V':={l with v2:=.slice m (g+1) n}) 4 (.slice m (g+1) n) Z λ_ _=>Z;have aU:=O.grown mI.ok (kE v pb 4<|.slice m (g+1) n) (λz a=>by injection a with a;subst a;exact⟨λj=>j,λa=>W<|(O.ge _ a.symm).1⟩);have hF:Fr f pb w<|v.setCell (Iv pb)<|.slice m (g+1) n:=(((Fr.of N.o (W D.o) λz a=>.inr<|by injection a with a;exact a.symm).T<|Fr.of (vP e<|ti c d) Y λz a=>by cases a).T<|Fr.of x (by show f<=(e.alloc _).heap.size;rw[QR];omega) λz a=>.inl<|I z a).T (Fr.of (kE v pb 4<|.slice m (g+1) n) (by have:=x.size;have aV:(e.alloc<|ti c d).heap.size<=v:=this;rw[QR]at aV;omega) λz a=>.inr<|by injection a with a;exact a.symm);have aW:=OF aT aU hF;go_wp21
  go_end0
  exact⟨⟨_,Z⟩,_,aW.o⟩
def yi{T:lj}{l:PV}{pb pos q j:Nat}{ag}(w)(ah:wT T pos=some (ag,q))(C:mh T l w pb pos)(m)(P:kJ (mr .u8) 112 3 (λf=>j<=f) w j l.v4 m)(aK:l.lo<=j/\j<=w)(bJ:m.length<=20000):
  Calls prog 99 #[.pointer pb] w λa w'=>(∃aL,a=.returned aL)/\MK T l pb q j (m++[ag]) w w':=by
 have⟨aM,ai,aj,ak,al⟩:=Rj MJ;have D:=OK ai aj ak al;clear ai aj ak al;obtain⟨d,bK,bL,n,bM,am,an,aN,ao,aO,ap,rfl⟩:=zD ah;have E:=OK am an ao ap;have Q:=C.low;have aP:=C.lt;have aQ:=X C;have aq:=X P;have⟨aR,aS,ar,bN,bO⟩:=P.form;have R:=X ar;clear ah am an ao ap C P ar;have au:=X<|QQ w re;have aT:=X<|aQ.o.ku<|Ba w re;have aU:=X<|QV w re none;have aV:(w.alloc re).heap.size=w+1:=Uo
 go_enter func99,ntmps99
 go_upto_region 1 with fail;generalize w.alloc re=bP at*;have⟨z,S⟩:=Xq w.heap.size;rw[<-S]at au aV aP Q aK⊢;have F:=X S;clear S;go_wp21;apply(oI aT.o E.o.1).M;rintro a aW ⟨rfl,b⟩;have bQ:=b.2.size;have G:=(b.2.B z Y λa=>by injection a with a;omega).T au.o;have aX:=X G;have aY:=X<|b.1.other (z:=z) (i:=0) (u:=tx d) Q.2;have aZ:=X<|ky (kK aU.o<|some pb) b.2;have av:=kt G 0;have U:=kx G 0;clear b G;go_wp21;apply(nu aY.o _ E.o.2.1 Un).M;rintro a ba ⟨⟨bR,rfl⟩,b⟩;have bb:=b.2.size;rw[QU]at bb;have aw:=(b.2.B z (by rw[QU];omega) λa=>by injection a with a;omega).T<|kr (i:=0) (u:=tx d) aX.o;have bc:=X aw;have bd:=X b.1;have be:=X<|ky (xa aZ.o (kE aW z 0<|tx d)<|W F.o) b.2;clear av U aw b;go_wp21;go_loopw [] (λwr=>wr=ba) (λ_=>0)
 .rfl
 subst hrel;go_wp21;apply(mF (lN.refl bd.o) _ Un aN).M;rintro a V ⟨rfl,b⟩;have bS:=b.2.size;have ax:=(b.2.B z Y λa=>by injection a with a;omega).T bc.o;have bf:=X ax;have bg:=X b.1;have bh:=X<|ky be.o b.2;clear b ax;go_wp21;apply(AQ V E.o.2.2.1 bg.o).M;rintro a g ⟨v,x,rfl,ay,b⟩;have bT:=b.2.size;have I:=(b.2.B z Y λa=>by injection a with a;omega).T bf.o;have bi:=X I;have bj:=X b.1;have bk:=X<|ky bh.o b.2;have bl:=X ay;have az:=kt I 2;have U:=kx I 2;have aa:z<g:=Y;clear b I ay;go_wp21;have⟨p,r⟩:=Xq<|((g.setCell (rm z) (g,1,1)).alloc<|oe v n.length x).alloc D0;rw[<-r];have⟨c,s⟩:=Xq g.heap.size;have bU:p=c+2:=(by rw[r,s];simp only[QR,QU]);have y:(g.setCell (rm z) (g,1,1)).grownBy p none:=(by rw[r];exact ky (QV _ _ none)<|QV _ _ none);have bm:Hid<|p.heap[z]?=some (qv d c):=X ((y.B z (by rw[QU];exact aa) Uo).T<|by rw[s];exact kr bi.o);have bn:Hid<|p.heap[c]?=some (oe v n.length x):=X (by rw[r,s];have:=QQ (g.setCell (rm z) (g,1,1))<|oe v n.length x;rw[QU]at this;exact(Q5 _ _<|by simp only[QR,QU];omega).T this);have bo:Hid<|p.heap[c+1]?=some D0:=X (by rw[r,s];have:=QQ ((g.setCell (rm z) (g,1,1)).alloc<|oe v n.length x) D0;simp only[QR,QU]at this;exact this);have bp:=X<|(bj.o.other (z:=z) (i:=2) (u:=.slice g 1 1) Q.2).grown y;have bq:=X<|ky (xa bk.o (kE g z 2 (g,1,1))<|W F.o)<|kK y<|some pb;have aA:=X<|(bl.o.mH (zQ:=z) (i:=2) (u:=.slice g 1 1) (mA.ok .u8) λf b=>W b.1).kv (mA.ok .u8) λf b=>y.B f (by rw[QU];exact b.2) Uo;rw[<-s]at aA⊢;have bV:z<V/\V<=c:=Y;clear r y s az U aa;have br:=kt bo.o 0;go_loopw [25] (λi wr=>i=.int .i64 0/\wr=p) (λ_ _=>0)
 .exact⟨Z,Z⟩
 obtain⟨rfl,rfl⟩:=hrel;go_wp21;apply(mF (lN.refl bp.o) _ Un aO).M;rintro a bW ⟨rfl,b⟩;have bX:=b.2.size;have bs:=X b.1;have bt:=X b.2;clear b br;go_wp21;apply(nu bs.o _ E.o.2.2.2 Un).M;rintro a e ⟨⟨bY,rfl⟩,b⟩;have bZ:=b.2.size;have J:=X<|ky bt.o b.2;have bu:=X b.1;have aB:=X<|ky bq.o J.o;have K:=(J.o.B z Y λa=>by injection a with a;omega).T bm.o;have bv:=X<|(J.o.B c Y λa=>by injection a with a;omega).T bn.o;have bw:=X<|aA.o.kv (mA.ok .u8) λf b=>J.o.B f (W b.2) (λa=>by injection a with a;have:=b.1;omega);have av:=kt K 0;have ca:=kt K 1;have az:=kt K 2;have⟨cb,cc,aC⟩:=b.1.tree;have bx:=kt aC 6;have cd:=b.1.lt;have aa:z<e:=Y;have L:=aq.o.ge;have bz:=X (aq.o.grown (mr.ok .u8) aB.o λz a=>by injection a with a;subst a;exact⟨Y,λa=>W<|(L _ a.symm).1⟩);have aD:∀q,l.v4.ownBlock=some q->j<=q:=λq a=>(L q a).1;have bA:=X aD;have bB:m.length+1<=maxLen:=Uw;have bC:(m.length+1)*64<=140737488355328:=Y;have ab:=X (bz.o.grown (mr.ok .u8) (vP e<|qv d c) λz a=>by cases a);have bD:=F.o;have ac:∀q,z<=q->some q≠l.v4.ownBlock:=λq bE a=>W<|(L q a.symm).2;have aE:mr .u8 (λf=>j<=f/\f<(e.alloc<|qv d c).drew.heap.size/\some f≠l.v4.ownBlock) (e.alloc<|qv d c).drew [tx d,Nl,(c,1,1)] ⟨d,[],[n]⟩:=by refine⟨_,_,Z,kz.nil _ _ _,some ⟨c,0,none⟩,1,[[(v,n.length,x)]],Z,QX _,Un,λ_=>⟨c,0,Z,⟨Y,by show c<(e.alloc<|qv d c).heap.size;rw[QR];omega,ac c Y⟩,λt u ad=>?_⟩,⟨⟨_,Z,(bw.o.kv (w':=(e.alloc<|qv d c).drew) (mA.ok .u8) λf b=>Q5 e (qv d c)<|W b.2).M (mA.ok .u8) λf b=>⟨W b.1,by have:=b.2;show f<(e.alloc<|qv d c).heap.size;rw[QR];omega,ac f<|W b.1⟩⟩,trivial⟩⟩;rw[Q7];exact kA (w:=(e.alloc<|qv d c).drew) ((Q5 e (qv d c) Y).T bv.o) t u (by simpa using ad)
 have ae:=X aE;rw[R.o]at ab ae;obtain⟨k,M⟩:∃k,m.length=k:=⟨_,Z⟩
 rw[R.o,M]at bx;rw[M]at ab ae;have bF:=X (show∀(t:Nat) (u:R0),[tx d,Nl,(c,1,1)][t]?=some u->(e.alloc<|qv d c).drew.cell? ((e:Addr).add t)=some u from λt u ad=>by rw[addr_add,Q7];exact kA (w:=(e.alloc<|qv d c).drew) (QQ e<|qv d c) t u<|by simpa using ad);have bG:=X<|bu.o.grown<|vP e<|qv d c;clear K b aC aD L aE ac bD;go_wp21;go_region_law (first|(refine rE (e.alloc<|qv d c).drew (by rfl) (.tmp 54) (.tmp 56) 52 (by rfl) j 112 aM _ 3 64 underlying52 D.o.1 D.o.2.1 D.o.2.2.1 D.o.2.2.2 Z (mr.ok .u8) (λf=>j<=f) (.slice aR k aS) m (by rfl) ab.o ⟨e,0,none⟩ [tx d,Nl,(c,1,1)] ⟨d,[],[n]⟩ (by rfl) bF.o ae.o bB bC (by show j<=(e.alloc _).heap.size;rw[QR];omega) k M ?_;intro A B N aF O;have af:=bA.o;rw[R.o,M]at af;have aG:=bG.o.kv O.size λq bE=>O.B q (by show q<(e.alloc _).heap.size;rw[QR];omega) λa=>W<|af q a.symm;have⟨ce,cf,aH⟩:=aG.tree;have cg:=kt aH 6;have ch:=kx aH 6));all_goals
  have aI:=aG.put (V':={l with v4:=.slice A (k+1) B}) 6 (.slice A (k+1) B) Z λ_ _=>Z;have aJ:=aF.grown (mr.ok .u8) (kE N pb 6<|.slice A (k+1) B) (λz a=>by injection a with a;subst a;exact⟨Y,λa=>W<|(aF.ge _ a.symm).1⟩);have hF:Fr j pb w<|N.setCell (zc pb)<|.slice A (k+1) B:=(((Fr.of aB.o (W F.o) λz a=>.inr<|by injection a with a;exact a.symm).T<|Fr.of (vP e<|qv d c) Y λz a=>by cases a).T<|Fr.of O (by show j<=(e.alloc _).heap.size;rw[QR];omega) λz a=>.inl<|af z a).T (Fr.of (kE N pb 6<|.slice A (k+1) B) (by have:=O.size;have bH:(e.alloc<|qv d c).heap.size<=N:=this;rw[QR]at bH;omega) λz a=>.inr<|by injection a with a;exact a.symm);have bI:=OF aI aJ hF;clear aI aJ hF;go_wp21
  go_end0
  exact⟨⟨_,Z⟩,_,bI.o⟩
def qR.CQ{d:lj}{a b:Nat}{e:lH.Hd}(c:sD d a=some (e,b)):a<b:=by have⟨j,k,l,m,n,f,g,i,_⟩:=uN c;have:=rL f;have:=xq (λa b p c=>rL c) g;have:=zz i;omega
def qR.Jd{T:lj}{c q:Nat}{d:lH.Co}(e:wT T c=some (d,q)):c<q:=by have⟨j,k,l,m,n,f,a,_,g,_,b,_⟩:=Go.Proofs.YtbdipimmpgijaaaGreatDoor.zD e;have:=rL f;have:=B0 (λc q p i=>CQ i) g;unfold tu at a b;split at a;injection a;split at b;injection b;omega;cases b;cases a
def qR.EE{T:lj}{k:lH.Fl}(a:uY T=some k):∃c d e f g b i j,tu T [102,108,101,101,116] 0=some c/\wh T c=some (d,e)/\tu T [123] e=some f/\py T [102,108,97,103] (wU T) (T.length+1) f=some (g,b)/\ow T b≠[108,105,110,107]/\py T [99,111,109,112,111,110,101,110,116] (wT T) (T.length+1) b=some (i,j)/\tu T [125] j=some T.length/\k=⟨d,g,[],i⟩:=by
 unfold uY at a;have⟨c,l,a⟩:=Go.Proofs.YtbdipimmpgijaaaGreatDoor.bind_some a;have⟨⟨d,e⟩,m,a⟩:=Go.Proofs.YtbdipimmpgijaaaGreatDoor.bind_some a;have⟨f,n,a⟩:=Go.Proofs.YtbdipimmpgijaaaGreatDoor.bind_some a;have⟨⟨g,b⟩,p,a⟩:=Go.Proofs.YtbdipimmpgijaaaGreatDoor.bind_some a;simp only at a;split at a;cases a
 rename_i q
 have⟨⟨i,j⟩,r,a⟩:=Go.Proofs.YtbdipimmpgijaaaGreatDoor.bind_some a;have⟨u,s,a⟩:=Go.Proofs.YtbdipimmpgijaaaGreatDoor.bind_some a;simp only at a;split at a
 rename_i t
 injection a with a;subst a t;exact⟨c,d,e,f,g,b,i,j,l,m,n,p,q,r,s,Z⟩;cases a
def qR.Je:uY (kI.lexB ⟨src.toArray⟩)=some tree:=Up
def tr{a:RW}{b d:Nat}{c:Se}{e:Bool}(f:pB a b d c e)(g:c.size<=281474976710656):Calls prog 15 #[.pointer b] a<|Ig a b d c e:=by
 have i:=X<|zF f g 39 AU EK
 go_enter func15,ntmps15
 go_wp21;apply i.o.M;rintro n p ⟨j,k,rfl,l,m⟩;go_wp21;go_ret;exact⟨j,k,Z,l,m⟩
def zH{u w:RW}{g i:Nat}{d:Fl}{n:Se}{j:Bool}(e:tW u w g i d n j)(b:Int):Calls prog 46 #[.pointer g,b] w<|Ii w g i n j:=by
 have E:=e.is.lt;have F:=kt e.is 0;have v:=(xN i b d w e.yM e.gd)
 have k:=e
 go_enter func46,ntmps46
 go_wp21;apply v.M;rintro a G ⟨⟨I,J,rfl,x⟩,y⟩;have p:=nY.ku (nY.refl k.is) y;have z:(hL (kF d) b).length<=1000:=by
  by_cases A:0<=b/\b<d.kH.length;obtain⟨l,rfl⟩:∃l:Nat,b=(l:Int):=⟨b.toNat,Y⟩
  obtain⟨q,r⟩:∃q,(lI d)[l]?=some q:=Gx (by unfold lI;rw[RN];omega);rw[Lj r];have:=vY k.gd r;omega;rw[Di A];decide
 go_wp21;apply(tr p.is k.sm).M;rintro a K ⟨B,m,rfl,s,_⟩;have c:=(p.T s)
 have C:=(x.kv kM.ok λD t=>s.gr.B D t.2 λa=>by injection a with a;subst a;exact absurd t.1 Y)
 go_wp21;apply(KY C z B).M;rintro a L ⟨⟨f,rfl⟩,rfl⟩;have M:=kt c.is 2;have N:=kx c.is 2;have O:=c.is.lt;cases j with
 |true=>go_wp21;go_ret;exact⟨f,true,m,Z,c.tU true id⟩
 |false=>
  by_cases P:f<0
  .go_wp2_with fail;go_ret;exact⟨f,true,m,Z,c.tU true λ_=>Z⟩
  go_wp21;go_ret;exact⟨f,_,m,Z,c.tU _ λa=>by cases a⟩
def zI{D a:RW}{l r:Nat}{z:Fl}{t:Se}{s:Bool}(A:tW D a l r z t s):Calls prog 48 #[.pointer l] a<|Ii a l r t s:=by
 have u:=X A;clear A
 go_enter func48,ntmps48
 go_upto_region 1 with fail;refine Ri (λE=>∃i,nY a l r t.size s E i s) (mM [(·=.pointer l),(·=.pointer l),(·=.pointer l),(·=.pointer r),(·=.pointer l),Tr,Tr,Tr,Tr,Tr,Tr,Tr]) [(5,λe a=>∃v:Se,e=.string v),(6,λe a=>∃(b:Int) (d:Bool),e=.tuple #[.int .i64 b,d]),(7,λe a=>∃(b:Int) (d:Bool),e=.tuple #[.int .i64 b,d]),(8,λe a=>∃b:Int,e=b),(9,AI),(10,λe a=>∃b:Int,e=b),(11,AI)] (⟨t,nY.ku (nY.refl u.o.is) (Sf _ _).drew⟩) ⟨?_,?_,?_,?_,?_,?_,?_,?_,?_,?_,?_,?_,trivial⟩ ?_;exact .f 0;exact .v 6 0;exact .v 7 1;intro m a c n j f p;have Q:=Sv 8 j 2;have⟨i,k⟩:=c;have g:=kt k.is 0;exact .q (g:=⟨rfl,⟨i,k⟩,Q4<|Q2<|Qb<|Qe⟩);exact .f 0;intro m a c n j f p;have R:=Sv 10 j 4;have⟨i,k⟩:=c;refine .c (tr k.is<|QT k.le u.o.sm) ?_;rintro F G ⟨v,I,rfl,J,_⟩;exact⟨_,rfl,⟨trivial,⟨I,k.T J⟩,Qc ⟨_,rfl⟩<|Q4<|Q2<|Qe⟩⟩;intro m a c n j f p;have S:=Sv 9 j 3;obtain⟨v,K⟩:=kW f 0;have T:=Sl 11 K;have⟨i,k⟩:=c;refine .c (zG r z v _ (u.o.to k).yM u.o.gd) ?_;rintro F G ⟨b,d,rfl,_,w⟩;exact⟨_,rfl,⟨trivial,⟨i,k.ku w⟩,Qb<|Qc ⟨_,_,rfl⟩<|Q4<|Qb<|Qe⟩⟩;intro m a c n j f p;obtain⟨b,d,L⟩:=kW f 1;exact .p (u:=.tuple #[.int .i64 b,d]) 12 L ⟨trivial,c,Q2<|Qc ⟨_,_,rfl⟩<|Qa⟩;intro m a c n j f p;obtain⟨b,d,x⟩:=kW f 2;have y:=Sl 5 x;exact .q (g:=⟨trivial,c,Q2<|Qb<|Qc ⟨_,rfl⟩<|Qa⟩);intro m a c n j f p;obtain⟨b,d,x⟩:=kW f 2;have y:=Sl 5 x;exact .q (g:=⟨trivial,c,Q4<|Qc ⟨_,rfl⟩<|Qa⟩);intro m a c n j f p;obtain⟨b,M⟩:=kW f 3;exact .p (u:=.int .i64 b) 13 M ⟨trivial,c,Q4<|Qb<|Qc ⟨_,rfl⟩<|Qa⟩;intro m a c n j f p;obtain⟨d,N⟩:=kW f 4;exact .p (u:=.bool d) 14 N ⟨trivial,c,Q4<|Q2<|Qc ⟨_,rfl⟩<|Qa⟩;intro U V O P y;have⟨b,B⟩:=y _ (Mm 5 rfl) Lb;have⟨d,w⟩:=y _ (Mm 6 rfl) Lb;have⟨i,C⟩:=O;have q:=X C;clear C P y;simp only[nx,Q7,Nat.reduceAdd];simp only[B,w];clear B w;have aa:=kt q.o.is 2;have ab:=kx q.o.is 2;have ac:=q.o.is.lt;cases s with
 |true=>go_wp21;go_ret;exact⟨b,true,i,rfl,q.o.tU true id⟩
 |false=>
  cases d with
  |false=>go_wp21;go_ret;exact⟨b,true,i,rfl,q.o.tU true λ_=>rfl⟩
  |true=>go_wp21;go_ret;exact⟨b,false,i,rfl,q.o.tU false id⟩
def pU{D:RW}{p:Nat}{w:RW}{m f t:Nat}{E:Fl}{u:Nat}{q:Se}{M:Bool}(S:qy D p w m f t E u q M)(bF:u+q.size<=2000000)(ax:Int):Calls prog 49 #[.pointer m,ax,.pointer f] w<|xb D p m f t E (u+q.size+1) q M:=by
 have T:=(RC S (RC (QX q.size) λa:M=true=>a))
 have⟨aS,aT,aU,aV,aW⟩:=Rj B9;have U:=(RC aT<|RC aU<|RC aV aW)
 go_enter func49,ntmps49
 go_wp21;apply(zH T.1.rc ax).M;rintro a bG ⟨r,ae,aX,rfl,c⟩;have F:=(RC (T.1.to c)<|RC (QT c.le T.2.1) λa=>c.mo<|T.2.2 a)
 have⟨⟨bH,bI⟩,bJ⟩:=F.1.ev.fz 6 Un;have bK:=F.1.ev.lt;go_wp21;have V:=(RC (F.1.put 6 _ u<|F.1.ev.lQ F.1.le.2.1 r) F.2)
 apply(mS V.1.rc.is _).M;rintro a bL ⟨_,G,ay,rfl,c,_⟩;have aa:=(RC (V.1.to c)<|RC (QT c.le V.2.1) λa=>c.mo<|V.2.2 a)
 go_wp21;apply(lZ aa.1.rc.is _).M;rintro a bM ⟨l,az,rfl,c,_⟩;have s:=(RC (aa.1.to c)<|RC (QT c.le aa.2.1) λa=>c.mo<|aa.2.2 a)
 cases l with
 |true=>
  go_wp21
  go_end0
  exact⟨_,az,G,Z,s.1.more Y,s.2.1,s.2.2⟩
 |false=>
  go_wp21
  go_loopg [] (q.size+1) (λaY wr=>∃(v:Nat) (i:Se) (N:Bool),qy D p wr m f t E v i N/\v<=u+q.size+1/\(N=false->v+i.size<=u+q.size/\i.size+1<=aY)/\i.size<=q.size/\(M=true->N=true))
  .exact⟨u,az,G,s.1,Y,λ_=>⟨W s.2.1,W s.2.1⟩,s.2.1,s.2.2⟩
  have⟨v,i,N,n,x,O,aZ,af⟩:=hrel;have I:=(RC x<|RC O<|RC aZ af)
  have bN:=kt n.rc.is 2;have bO:=n.rc.is.lt;cases N with
  |true=>
   go_wp21
   go_end0
   exact⟨_,i,true,Z,n.more I.1,I.2.2.1,λ_=>Z⟩
  |false=>
   have bP:=(I.2.1 Z).1;have bQ:v<=2000000:=Y;go_upto_region 4 with fail;have⟨ag,aA,aB,aC,ah,aD,S,ai,bR,e,aj,ak,J⟩:=n.ev;obtain⟨y,z,rfl,_,_⟩:=ak.form;have aE:oP ag/\oP ah/\oP ai/\(∀b∈e,oP b)/\e.length<=3000000:=⟨J.1,J.2.1,J.2.2.1,J.2.2.2.1,W J.2.2.2.2⟩
   have ba:=ak.ge;have bb:p<=wr:=n.hi;have bc:pY D p wr m f t E i false (me ag aA aB aC ah aD S ai y e.length z) (y,e.length,z) e wr:=⟨⟨i,false,n.rc,QX _,id⟩,aj,ak,QX _,bb,⟨n.lr,n.le.2.1,n.le.2.2,n.le.1⟩,ba⟩
   refine sf (λb=>pY D p wr m f t E i false (me ag aA aB aC ah aD S ai y e.length z) (y,e.length,z) e b) (λr w=>∃(j:Se) (k:Bool),qy D p w m f t E (v+1) j k/\j.size<=i.size/\(false=true->k=true)/\(k=false->j.size<i.size)) (mM [(·=.pointer f),(·=.pointer f),(·=.pointer f),(Pp f 8),(·=.slice y e.length z),(·=.pointer m),Tr,Tr,Tr,(·=.pointer f),(Pp f 8),Tr]) [(6,λr w=>∃b:Int,r=b/\oP b/\∃(j:Se) (k:Bool),pB w m t j k/\j.size<=i.size/\(false=true->k=true)/\(k=false->j.size<i.size)),(7,λr w=>∃(b:Int) (l:Nat),r=.slice l 1 1/\oP b/\wr<=l/\w.heap[l]?=some (.cells #[.int .i64 b] 2)),(8,λr w=>∃(b:Int) (aF:RE) (aG:Nat),r=.slice aF (e.length+1) aG/\oP b/\kJ lL 2 1 (λ_=>False) w p r (e++[b]))] (bc.ku (Sf _ _).drew) ⟨?_,?_,?_,?_,?_,?_,?_,?_,?_,?_,?_,?_,trivial⟩ ?_;exact Pf 2;exact Pf 2;exact Pv 22 1;exact Pv 23 2;exact Pl 24 3 λ_ d=>kt d.c 8;exact Pf 0;intro Q w d al K A am;have bS:=Sv 26 K 5;have⟨aX,ae,aH,an,aI⟩:=d.rd;refine .c (aH.number) ?_;rintro a bd ⟨b,G,ay,rfl,B,ab,be⟩;have bf:=(d.call aH an aI ab)
   exact⟨_,Z,⟨trivial,bf,Qc ⟨b,Z,B,ay,G,ab.is,QT ab.le an,λa=>ab.mo<|aI a,λa=>QO (be a) an⟩<|Q2<|Qe⟩⟩;intro Q w d al K A am;obtain⟨bg,ao,aJ,aK⟩:=kW A 0;have bh:=Sl 27 ao;have aL:=d.s;exact .q (g:=⟨trivial,d.alloc _,Qd (λC ⟨b,a,B,j,k,ap,x⟩=>⟨b,a,B,j,k,sR ap (QV _ _ none) (λa=>by cases a),x⟩)<|Qc ⟨_,_,Z,aJ,aL,QQ _ _⟩<|Qb<|Qe⟩);intro Q w d al K A am;have bi:=Sv 25 K 4;obtain⟨aq,ar,aM,bj,bT,bk⟩:=kW A 1;have bU:=Sl 28 aM;have bl:=d.own;have aN:=d.v;have aL:=d.s;have bV:=d.ls;have bW:=d.b;have bm:∀(ac:Nat) (C:R0),(#[Value.int .i64 aq]).toList[ac]?=some C->w.cell? ((ar:Addr).add ac)=some C:=λac C bn=>(by rw[addr_add,Q7];exact kA bk ac C<|by simpa using bn);have⟨bo,bp,bd,bq,br,bs,au,bX⟩:=kS (P:=prog) (w:=w) p 36 36 2 aS _ 1 8 underlying36 U.1 U.2.1 U.2.2.1 U.2.2.2 Z lL.ok (λ_=>False) (y,e.length,z) e bl ⟨ar,0,none⟩ (#[Value.int .i64 aq]).toList aq bm Z (by have:=aE.2.2.2.2;unfold maxLen;omega) (W aE.2.2.2.2) Y;have ae:Q.eval (.tmp 25)=(.slice y e.length z):=(by simp[Act.eval,bi]);have G:Q.eval (.tmp 28)=.slice ar 1 1:=aM;refine .h λbt av=>?_;simp only[execOp,resolve,invoke,builtin,RD,RF,Ro,Rv,Rq,RG,ae,G,bq];exact av ⟨trivial,d.app au bs,Qd (λC ⟨b,a,B,j,k,ap,x⟩=>⟨b,a,B,j,k,sR ap au λa=>W<|aN m a,x⟩)<|Qd (λC ⟨b,l,a,B,aj,aO⟩=>⟨b,l,a,B,aj,(au.B l (QP.1 aO).1 λbu=>W<|(aN l bu.symm).2).T aO⟩)<|Qc ⟨_,bo,bp,Z,bj,br⟩<|Qe⟩;exact Pv 21 0;exact Pv 30 9;intro Q w d al K A am;have bY:=Sv 31 K 10;obtain⟨bZ,aF,aG,aP,bv,bw⟩:=kW A 2;have ca:=Sl 29 aP;obtain⟨bg,ao,aJ,aK⟩:=kW A 0;have bh:=Sl 27 ao;have cb:=kx d.c 8;have cc:=kt d.c 8;refine .h λbt av=>?_;go_simp;exact av<|aK.elim λj x=>x.elim λk O=>⟨j,k,d.store J O.1 O.2.1 (by have aQ:=bw;rw[aP]at aQ;exact aQ) bv,O.2⟩;intro cd ce cf bx;have⟨cg,aw,af,bz,_,bA⟩:=bx;have R:=(RC af<|RC bz bA)
   simp only[nx];go_wp21;apply(lZ R.1.rc.is _).M;rintro a ch ⟨l,bB,rfl,c,_⟩;have L:=(RC (R.1.to c) c.le)
   have ci:=I.2.1 trivial;have cj:=I.2.2.1;have aR:M=true->False:=λa=>(by have:=I.2.2.2 a;cases this);cases l with
   |true=>
    go_wp21
    go_end0
    exact⟨_,bB,aw,Z,L.1.more Y,Ul R.2.1 L.2,λa=>(aR a).elim⟩
   |false=>
    go_wp21;apply(mS L.1.rc.is _).M;rintro a ck ⟨_,bC,bD,rfl,c,_⟩;have ad:=(RC (L.1.to c)<|RC c.le c.mo)
    go_wp21
    go_roundg (gk-1)
    .exact⟨v+1,bD,bC,ad.1,Y,λa=>by have bE:aw=false:=(by cases aw with|false=>rfl|true=>exact absurd (ad.2.2 Z)<|by rw[a];decide);have:=R.2.2 bE;have:=L.2;have:=ad.2.1;exact⟨Y,Y⟩,by have:=R.2.1;have:=L.2;have:=ad.2.1;omega,λa=>(aR a).elim⟩
    omega
def Jj{Q:RW}{R:Nat}{S:RW}{F G T:Nat}{U:Fl}{I:Nat}{v:Se}{J:Bool}(af:qy Q R S F G T U I v J)(ao:I+v.size<=2000000):Calls prog 50 (HK F G) S<|xb Q R F G T U (I+v.size+2) v J:=by
 have x:=(RC af (RC (QX v.size) λa:J=true=>a))
 go_enter func50,ntmps50
 go_wp21;apply(lZ x.1.rc.is _).M;rintro a ap ⟨l,aq,rfl,b,_⟩;have i:=(RC (x.1.to b)<|RC (QT b.le x.2.1) λa=>b.mo<|x.2.2 a)
 cases l with
 |true=>
  go_wp21;apply(i.1.rc.number).M;rintro a ar ⟨ag,ah,au,rfl,ai,b,_⟩;have c:=(RC (i.1.to b)<|RC (QT b.le i.2.1) λa=>b.mo<|i.2.2 a)
  have⟨⟨V,aa⟩,ab⟩:=c.1.ev.fz 2 Un;have⟨⟨ac,ad⟩,ae⟩:=c.1.ev.fz 4 Un;have j:=c.1.ev.lt;go_wp21;have y:=(RC ((c.1.put 2 _ _<|c.1.ev.oO c.1.le.2.1 4).put 4 _ _<|(c.1.put 2 _ _<|c.1.ev.oO c.1.le.2.1 4).ev.sk (c.1.put 2 _ _<|c.1.ev.oO c.1.le.2.1 4).le.2.1 ag ai) c.2)
  apply(mS y.1.rc.is _).M;rintro a av ⟨_,aw,ax,rfl,b,_⟩;have m:=(RC (y.1.to b)<|RC (QT b.le y.2.1) λa=>b.mo<|y.2.2 a)
  have⟨n,K⟩:=m.1.ev.comp;have j:=m.1.ev.lt;go_wp21;refine(pU m.1 (W m.2.1) n).M ?_;rintro a ay ⟨L,z,A,rfl,p,q,r⟩;have M:=(RC p<|RC (QT q m.2.1) λa=>r<|m.2.2 a)
  go_wp21
  go_end0
  exact⟨_,_,_,Z,M.1.more<|W m.2.1,M.2.1,M.2.2⟩
 |false=>
  go_wp21;apply(lZ i.1.rc.is _).M;rintro a az ⟨l,aA,rfl,b,_⟩;have k:=(RC (i.1.to b)<|RC (QT b.le i.2.1) λa=>b.mo<|i.2.2 a)
  cases l with
  |true=>
   go_wp21;apply(k.1.rc.number).M;rintro a aB ⟨aj,aC,aD,rfl,ak,b,_⟩;have d:=(RC (k.1.to b)<|RC (QT b.le k.2.1) λa=>b.mo<|k.2.2 a)
   have⟨⟨V,aa⟩,ab⟩:=d.1.ev.fz 2 Un;have⟨⟨ac,ad⟩,ae⟩:=d.1.ev.fz 4 Un;have j:=d.1.ev.lt;go_wp21;have B:=(RC ((d.1.put 2 _ _<|d.1.ev.oO d.1.le.2.1 6).put 4 _ _<|(d.1.put 2 _ _<|d.1.ev.oO d.1.le.2.1 6).ev.sk (d.1.put 2 _ _<|d.1.ev.oO d.1.le.2.1 6).le.2.1 aj ak) d.2)
   apply(mS B.1.rc.is _).M;rintro a aE ⟨_,A,z,rfl,b,_⟩;have s:=(RC (B.1.to b)<|RC (QT b.le B.2.1) λa=>b.mo<|B.2.2 a)
   have⟨n,K⟩:=s.1.ev.comp;have j:=s.1.ev.lt;go_wp21;refine(pU s.1 (W s.2.1) n).M ?_;rintro a aF ⟨L,z,A,rfl,p,q,r⟩;have N:=(RC p<|RC (QT q s.2.1) λa=>r<|s.2.2 a)
   go_wp21
   go_end0
   exact⟨_,_,_,Z,N.1.more<|W s.2.1,N.2.1,N.2.2⟩
  |false=>
   go_wp21;apply(lZ k.1.rc.is _).M;rintro a aG ⟨l,aH,rfl,b,_⟩;have g:=(RC (k.1.to b)<|RC (QT b.le k.2.1) λa=>b.mo<|k.2.2 a)
   cases l with
   |true=>
    go_wp21;apply(g.1.rc.number).M;rintro a aI ⟨al,aJ,aK,rfl,am,b,_⟩;have e:=(RC (g.1.to b)<|RC (QT b.le g.2.1) λa=>b.mo<|g.2.2 a)
    have⟨⟨V,aa⟩,ab⟩:=e.1.ev.fz 2 Un;have⟨⟨ac,ad⟩,ae⟩:=e.1.ev.fz 4 Un;have j:=e.1.ev.lt;go_wp21;have C:=(RC ((e.1.put 2 _ _<|e.1.ev.oO e.1.le.2.1 5).put 4 _ _<|(e.1.put 2 _ _<|e.1.ev.oO e.1.le.2.1 5).ev.sk (e.1.put 2 _ _<|e.1.ev.oO e.1.le.2.1 5).le.2.1 al am) e.2)
    apply(mS C.1.rc.is _).M;rintro a aL ⟨_,aM,aN,rfl,b,_⟩;have D:=(RC (C.1.to b)<|RC (QT b.le C.2.1) λa=>b.mo<|C.2.2 a)
    go_wp21;apply(zI D.1.rc).M;rintro a aO ⟨an,aP,aQ,rfl,b⟩;have u:=(RC (D.1.to b)<|RC (QT b.le D.2.1) λa=>b.mo<|D.2.2 a)
    have⟨⟨aR,aS⟩,aT⟩:=u.1.ev.fz 3 Un;have j:=u.1.ev.lt;go_wp21;have E:=(RC (u.1.put 3 _ _<|u.1.ev.FL u.1.le.2.1 an) u.2)
    apply(lZ E.1.rc.is _).M;rintro a aU ⟨l,aV,rfl,b,_⟩;have f:=(RC (E.1.to b)<|RC (QT b.le E.2.1) λa=>b.mo<|E.2.2 a)
    cases l with
    |true=>
     have⟨⟨aW,aX⟩,aY⟩:=f.1.ev.fz 5 Un;have j:=f.1.ev.lt;have⟨n,K⟩:=f.1.ev.comp;go_wp21;have w:=(RC (f.1.put 5 _ _<|f.1.ev.LO f.1.le.2.1 1) f.2)
     refine(pU w.1 (W w.2.1) n).M ?_;rintro a aZ ⟨L,z,A,rfl,p,q,r⟩;have O:=(RC p<|RC (QT q w.2.1) λa=>r<|w.2.2 a)
     go_wp21
     go_end0
     exact⟨_,_,_,Z,O.1.more<|W w.2.1,O.2.1,O.2.2⟩
    |false=>
     go_wp21;apply(mS f.1.rc.is _).M;rintro a ba ⟨_,bb,bc,rfl,b,_⟩;have t:=(RC (f.1.to b)<|RC (QT b.le f.2.1) λa=>b.mo<|f.2.2 a)
     have⟨n,K⟩:=t.1.ev.comp;have j:=t.1.ev.lt;go_wp21;refine(pU t.1 (W t.2.1) n).M ?_;rintro a bd ⟨L,z,A,rfl,p,q,r⟩;have P:=(RC p<|RC (QT q t.2.1) λa=>r<|t.2.2 a)
     go_wp21
     go_end0
     exact⟨_,_,_,Z,P.1.more<|W t.2.1,P.2.1,P.2.2⟩
   |false=>
    have be:=kt g.1.rc.is 2;have ah:=kx g.1.rc.is 2;have j:=g.1.rc.is.lt;go_wp21
    go_end0
    have b:=nY.tU (nY.refl g.1.rc.is) true λ_=>Z;exact⟨_,_,true,Z,(g.1.to b).more Y,g.2.1,λ_=>Z⟩
def EN{ak:RW}{al:Nat}{am:RW}{U V an:Nat}{ao:Fl}{aa:Nat}{E:Se}{ab:Bool}(aq:qy ak al am U V an ao aa E ab)(aM:aa+E.size<=2000000):Calls prog 21 (HK U V) am<|xb ak al U V an ao (aa+E.size+2) E ab:=by
 have G:=OF aq (QX E.size) λa:ab=true=>a
 go_enter func21,ntmps21
 go_wp21;apply(lZ G.o.1.rc.is _).M;rintro a aN ⟨d,aO,rfl,b,_⟩;have m:=OF (G.o.1.to b) (QT b.le G.o.2.1) λa=>b.mo<|G.o.2.2 a;cases d with
 |true=>
  have⟨⟨u,v⟩,w⟩:=m.o.1.ev.fz 2 Un;have k:=m.o.1.ev.lt;go_wp21;have I:=On (m.o.1.put 2 _ _<|m.o.1.ev.oO m.o.1.le.2.1 2) m.o.2;apply(I.o.1.rc.number).M;rintro a aP ⟨ar,aQ,aR,rfl,au,b,_⟩;have x:=OF (I.o.1.to b) (QT b.le I.o.2.1) λa=>b.mo<|I.o.2.2 a;have⟨⟨av,aw⟩,ax⟩:=x.o.1.ev.fz 7 Un;have k:=x.o.1.ev.lt;go_wp21;have J:=On (x.o.1.put 7 _ _<|x.o.1.ev.FO x.o.1.le.2.1 ar au) x.o.2;apply(qL J.o.1).M;rintro a aS ⟨y,z,A,rfl,e,f,g⟩;have ac:=OF e (QT f J.o.2.1) λa=>g<|J.o.2.2 a;go_wp21
  go_end0
  exact⟨_,_,_,Z,ac.o.1.more<|W J.o.2.1,ac.o.2.1,ac.o.2.2⟩
 |false=>
  go_wp21;apply(lZ m.o.1.rc.is _).M;rintro a aT ⟨d,aU,rfl,b,_⟩;have n:=OF (m.o.1.to b) (QT b.le m.o.2.1) λa=>b.mo<|m.o.2.2 a;cases d with
  |true=>
   have⟨⟨u,v⟩,w⟩:=n.o.1.ev.fz 2 Un;have k:=n.o.1.ev.lt;go_wp21;have K:=On (n.o.1.put 2 _ _<|n.o.1.ev.oO n.o.1.le.2.1 3) n.o.2;apply(qL K.o.1).M;rintro a aV ⟨y,z,A,rfl,e,f,g⟩;have ad:=OF e (QT f K.o.2.1) λa=>g<|K.o.2.2 a;go_wp21
   go_end0
   exact⟨_,_,_,Z,ad.o.1.more<|W K.o.2.1,ad.o.2.1,ad.o.2.2⟩
  |false=>
   go_wp21;apply(lZ n.o.1.rc.is _).M;rintro a aW ⟨d,aX,rfl,b,_⟩;have l:=OF (n.o.1.to b) (QT b.le n.o.2.1) λa=>b.mo<|n.o.2.2 a;cases d with
   |true=>
    have⟨⟨u,v⟩,w⟩:=l.o.1.ev.fz 2 Un;have k:=l.o.1.ev.lt;have⟨F,ap⟩:=l.o.1.ev.comp;go_wp21;have L:=On (l.o.1.put 2 _ _<|l.o.1.ev.oO l.o.1.le.2.1 11) l.o.2;apply(zH L.o.1.rc F).M;rintro a aY ⟨ay,aZ,ba,rfl,b⟩;have B:=OF (L.o.1.to b) (QT b.le L.o.2.1) λa=>b.mo<|L.o.2.2 a;have⟨⟨bb,bc⟩,bd⟩:=B.o.1.ev.fz 6 Un;have k:=B.o.1.ev.lt;go_wp21;have ae:=On (B.o.1.put 6 _ _<|B.o.1.ev.lQ B.o.1.le.2.1 ay) B.o.2
    go_end0
    exact⟨_,_,_,Z,ae.o.1.more Y,ae.o.2.1,ae.o.2.2⟩
   |false=>
    go_wp21;apply(lZ l.o.1.rc.is _).M;rintro a be ⟨d,bf,rfl,b,_⟩;have p:=OF (l.o.1.to b) (QT b.le l.o.2.1) λa=>b.mo<|l.o.2.2 a;cases d with
    |true=>
     have⟨⟨u,v⟩,w⟩:=p.o.1.ev.fz 2 Un;have k:=p.o.1.ev.lt;go_wp21;have M:=On (p.o.1.put 2 _ _<|p.o.1.ev.oO p.o.1.le.2.1 10) p.o.2;apply(zJ M.o.1 Y).M;rintro a bg ⟨y,z,A,rfl,e,f,g⟩;have af:=OF e (QT f M.o.2.1) λa=>g<|M.o.2.2 a;go_wp21
     go_end0
     exact⟨_,_,_,Z,af.o.1.more<|W M.o.2.1,af.o.2.1,af.o.2.2⟩
    |false=>
     go_wp21;apply(lZ p.o.1.rc.is _).M;rintro a bh ⟨d,bi,rfl,b,_⟩;have c:=OF (p.o.1.to b) (QT b.le p.o.2.1) λa=>b.mo<|p.o.2.2 a;cases d with
     |true=>
      have⟨⟨u,v⟩,w⟩:=c.o.1.ev.fz 2 Un;have⟨⟨az,aA⟩,aB⟩:=c.o.1.ev.fz 3 Un;have k:=c.o.1.ev.lt;go_wp21;have N:=On ((c.o.1.put 2 _ _<|c.o.1.ev.oO c.o.1.le.2.1 10).put 3 _ _<|(c.o.1.put 2 _ _<|c.o.1.ev.oO c.o.1.le.2.1 10).ev.FL (c.o.1.put 2 _ _<|c.o.1.ev.oO c.o.1.le.2.1 10).le.2.1 1) c.o.2;apply(zJ N.o.1 Y).M;rintro a bj ⟨y,z,A,rfl,e,f,g⟩;have ag:=OF e (QT f N.o.2.1) λa=>g<|N.o.2.2 a;go_wp21
      go_end0
      exact⟨_,_,_,Z,ag.o.1.more<|W N.o.2.1,ag.o.2.1,ag.o.2.2⟩
     |false=>
      go_wp21;apply(lZ c.o.1.rc.is _).M;rintro a bk ⟨d,bl,rfl,b,_⟩;have r:=OF (c.o.1.to b) (QT b.le c.o.2.1) λa=>b.mo<|c.o.2.2 a;cases d with
      |true=>
       go_wp21;apply(r.o.1.rc.number).M;rintro a bm ⟨aC,bn,bo,rfl,aD,b,_⟩;have i:=OF (r.o.1.to b) (QT b.le r.o.2.1) λa=>b.mo<|r.o.2.2 a;have⟨⟨u,v⟩,w⟩:=i.o.1.ev.fz 2 Un;have⟨⟨aE,aF⟩,aG⟩:=i.o.1.ev.fz 4 Un;have k:=i.o.1.ev.lt;go_wp21;have O:=On ((i.o.1.put 2 _ _<|i.o.1.ev.oO i.o.1.le.2.1 8).put 4 _ _<|(i.o.1.put 2 _ _<|i.o.1.ev.oO i.o.1.le.2.1 8).ev.sk (i.o.1.put 2 _ _<|i.o.1.ev.oO i.o.1.le.2.1 8).le.2.1 aC aD) i.o.2;apply(mS O.o.1.rc.is _).M;rintro a bp ⟨_,bq,br,rfl,b,_⟩;have P:=OF (O.o.1.to b) (QT b.le O.o.2.1) λa=>b.mo<|O.o.2.2 a;go_wp21;apply(zI P.o.1.rc).M;rintro a bs ⟨aH,bt,bu,rfl,b⟩;have C:=OF (P.o.1.to b) (QT b.le P.o.2.1) λa=>b.mo<|P.o.2.2 a;have⟨⟨az,aA⟩,aB⟩:=C.o.1.ev.fz 3 Un;have k:=C.o.1.ev.lt;go_wp21;have Q:=On (C.o.1.put 3 _ _<|C.o.1.ev.FL C.o.1.le.2.1 aH) C.o.2;apply(mS Q.o.1.rc.is _).M;rintro a bv ⟨_,bw,bx,rfl,b,_⟩;have s:=OF (Q.o.1.to b) (QT b.le Q.o.2.1) λa=>b.mo<|Q.o.2.2 a;have⟨F,ap⟩:=s.o.1.ev.peer;have k:=s.o.1.ev.lt;go_wp21;refine(pU s.o.1 (W s.o.2.1) F).M ?_;rintro a bz ⟨y,z,A,rfl,e,f,g⟩;have ah:=OF e (QT f s.o.2.1) λa=>g<|s.o.2.2 a;go_wp21
       go_end0
       exact⟨_,_,_,Z,ah.o.1.more<|W s.o.2.1,ah.o.2.1,ah.o.2.2⟩
      |false=>
       go_wp21;apply(lZ r.o.1.rc.is _).M;rintro a bA ⟨d,bB,rfl,b,_⟩;have q:=OF (r.o.1.to b) (QT b.le r.o.2.1) λa=>b.mo<|r.o.2.2 a;cases d with
       |true=>
        go_wp21;apply(q.o.1.rc.number).M;rintro a bC ⟨aI,bD,bE,rfl,aJ,b,_⟩;have j:=OF (q.o.1.to b) (QT b.le q.o.2.1) λa=>b.mo<|q.o.2.2 a;have⟨⟨u,v⟩,w⟩:=j.o.1.ev.fz 2 Un;have⟨⟨aE,aF⟩,aG⟩:=j.o.1.ev.fz 4 Un;have k:=j.o.1.ev.lt;go_wp21;have R:=On ((j.o.1.put 2 _ _<|j.o.1.ev.oO j.o.1.le.2.1 9).put 4 _ _<|(j.o.1.put 2 _ _<|j.o.1.ev.oO j.o.1.le.2.1 9).ev.sk (j.o.1.put 2 _ _<|j.o.1.ev.oO j.o.1.le.2.1 9).le.2.1 aI aJ) j.o.2;apply(mS R.o.1.rc.is _).M;rintro a bF ⟨_,bG,bH,rfl,b,_⟩;have t:=OF (R.o.1.to b) (QT b.le R.o.2.1) λa=>b.mo<|R.o.2.2 a;have⟨F,ap⟩:=t.o.1.ev.comp;have k:=t.o.1.ev.lt;go_wp21;refine(pU t.o.1 (W t.o.2.1) F).M ?_;rintro a bI ⟨y,z,A,rfl,e,f,g⟩;have S:=OF e (QT f t.o.2.1) λa=>g<|t.o.2.2 a;go_wp21;apply(mS S.o.1.rc.is _).M;rintro a bJ ⟨_,bK,bL,rfl,b,_⟩;have T:=OF (S.o.1.to b) (QT b.le S.o.2.1) λa=>b.mo<|S.o.2.2 a;go_wp21;apply(T.o.1.rc.number).M;rintro a bM ⟨aK,bN,bO,rfl,aL,b,_⟩;have D:=OF (T.o.1.to b) (QT b.le T.o.2.1) λa=>b.mo<|T.o.2.2 a;have⟨⟨av,aw⟩,ax⟩:=D.o.1.ev.fz 7 Un;have k:=D.o.1.ev.lt;go_wp21;have ai:=On (D.o.1.put 7 _ _<|D.o.1.ev.FO D.o.1.le.2.1 aK aL) D.o.2
        go_end0
        exact⟨_,_,_,Z,ai.o.1.more<|W t.o.2.1,ai.o.2.1,ai.o.2.2⟩
       |false=>
        go_wp21;refine(Jj q.o.1<|W q.o.2.1).M ?_;rintro a bP ⟨y,z,A,rfl,e,f,g⟩;have aj:=OF e (QT f q.o.2.1) λa=>g<|q.o.2.2 a;go_wp21
        go_end0
        exact⟨_,_,_,Z,aj.o.1.more<|W q.o.2.1,aj.o.2.1,aj.o.2.2⟩
def Jk(P c)(u:Nat)(m)(n p:Nat)(aq q)(r s:Nat)(ar)(ad:∀au,P au->au<c.heap.size)(aY:kz qO P c (.slice m n p) aq)(aZ:kz uk P c (.slice q r s) ar)(ba:lX c)(bb:pH c)(bc:qC c):
  Calls prog 5 #[.agg #[.int .u8 (u:Int),.slice m n p,.slice q r s]] c (MW c):=by
 have bd:=X ad;have av:=X ba;have aw:=X bb;have ax:=X bc;have D:=(Ba c<|qe u m n p q r s).alloc Uo vi;have ae:=X D;have ay:=X<|av.o.ku D av.o.low;have az:=X<|aw.o.kv (D.B _ aw.o.lt) D.size;have aA:=X<|ax.o.kv (D.B _ ax.o.lt) D.size;have aB:=X<|(Q5 (c.alloc<|qe u m n p q r s) vi Uo).T<|QQ c<|qe u m n p q r s;have af:=X (show((c.alloc<|qe u m n p q r s).alloc vi).heap[c.heap.size+1]?=some vi from by have:=QQ (c.alloc<|qe u m n p q r s) vi;rw[QR]at this;exact this);have be:=X<|aY.kv qO.ok λa b=>D.B a<|ad a b;have bf:=X<|aZ.kv uk.ok λa b=>D.B a<|ad a b;have Q:=X<|show((c.alloc<|qe u m n p q r s).alloc vi).heap.size=c+2 from Uo
 go_enter func5,ntmps5
 go_upto_region 1 with fail;generalize((c.alloc<|qe u m n p q r s).alloc vi)=K at*;have⟨aC,ag⟩:=Xq c.heap.size;rw[<-ag]at aB ae Q af⊢;have ah:=X ag;have bR:aC<K:=W Q.o
 clear ag;have⟨e,f⟩:=Xq<|aC+1;rw[<-f]at af⊢;have bg:e<K:=W Q.o
 have aD:=X f;clear f;have⟨⟨R,S,T⟩,_⟩:=lg aB.o;go_wp21;refine(FV P K u m n p aq q r s ar (λa b=>Ul (bd.o a b) ah.o) be.o bf.o).M ?_;rintro U d ⟨bS,w,x,y,i,z,j,A,k,B,g,rfl,bh,aE,f⟩;have⟨bT,bU,bV,E,bi,bj,bk⟩:=bh;injection E with bl E;injection E with bm E;injection E with bn E;injection E with bo E;have bp:=MV bl;subst bm bn bo bp;have L:=X aE;have ai:=X aE.lS;have bq:=X bi;have br:=X bj;have bs:=X bk;have bt:=X f;have bW:=f.size;have aF:=X<|ay.o.ku f ay.o.low;have aG:=X<|az.o.kv (f.B _ az.o.lt) f.size;have aH:=X<|aA.o.kv (f.B _ aA.o.lt) f.size;have bu:=X<|(f.B e bg).T af.o;clear f;have t:=Ba d<|.cells (lP g.name w i z x j A y k B) 32;have aj:=X t;have aI:=X<|aF.o.ku t aF.o.low;have aJ:=X<|aG.o.kv (t.B _ aG.o.lt) t.size;have aK:=X<|aH.o.kv (t.B _ aH.o.lt) t.size;have ak:=X<|QQ d<|.cells (lP g.name w i z x j A y k B) 32;have V:=X<|show(d.alloc<|.cells (lP g.name w i z x j A y k B) 32).heap.size=d+1 from Uo;have bv:=X<|(t.B e Y).T bu.o;have aL:=X<|bq.o.kv mI.ok λa b=>t.B a b.2;have bw:=X<|br.o.kv nT.ok λa b=>t.B a b.2;have aM:=X<|bs.o.kv (mr.ok .i64) λa b=>t.B a b.2;go_upto_region 2 with fail;generalize d.alloc (.cells (lP g.name w i z x j A y k B) 32)=aa at*;have⟨M,al⟩:=Xq d.heap.size;rw[<-al]at ak V⊢;have C:=X al;have bx:M<aa:=W V.o
 clear al;have⟨⟨R,S,T,am⟩,_⟩:=rG ak.o;go_wp21;refine(DA _ aa g.name w i z x j A y k B g aL.o bw.o aM.o L.o.b (λa b=>by have F:a<d:=b.2;have:=C.o;omega)).M ?_;rintro U N ⟨aN,aO,aP,aQ,aR,aS,rfl,aT,aU,aV,l⟩;have an:=X l;have bX:=l.size;have bz:=X<|aI.o.ku l aI.o.low;have bA:=X<|aJ.o.kv (l.B _ aJ.o.lt) l.size;have bB:=X<|aK.o.kv (l.B _ aK.o.lt) l.size;have bC:=X<|(l.B M bx).T ak.o;have bD:=X<|(l.B e<|Ul V.o C.o).T bv.o;have bE:=X<|aL.o.kv mI.ok λa b=>l.B a (by have F:a<d:=b.2;have:=C.o;omega);have bF:=X<|aM.o.kv (mr.ok .i64) λa b=>l.B a (by have F:a<d:=b.2;have:=C.o;omega);have bG:=X<|show pW (Nw aa N) N aN i aO aP j aQ aR k aS g from⟨aT,aU,aV,λa b=>b.2⟩;go_wp21;apply(Fs (Nw aa N) N aN i aO aP j aQ aR k aS g bz.o bA.o bB.o bG.o ai.o (tS.t L.o) (tS.gc L.o ai.o)<|tS.sm L.o).M;rintro U O ⟨aW,rfl,bH,I,bY⟩;have bI:=X bH;have ao:=X I;have bZ:=I.size;have bJ:M<N:=Y
 have bK:=X<|(I.B M bJ).T bC.o;have aX:=X<|(I.B e<|Ul V.o C.o).T bD.o;have bL:=X<|bE.o.kv mI.ok λa b=>I.B a (by have F:a<d:=b.2;have:=C.o;omega);have bM:=X<|bF.o.kv (mr.ok .i64) λa b=>I.B a (by have F:a<d:=b.2;have:=C.o;omega);have bN:=X (show Below c c O from by have bO:=ah.o;have ca:=C.o;rw[bO]at ae;exact ae.o.T<|(bt.o.M Y).T<|(aj.o.M Y).T<|(an.o.M Y).T<|ao.o.M Y);have⟨⟨R,S,T,am⟩,_⟩:=rG bK.o;have cb:M<O:=Y
 have G:=aX.o;have cc:=kt G 0;have aT:=kt G 1;have aU:=kt G 2;have aV:=kt G 3;have cd:=kx G 0;have ce:=kx G 1;have cf:=kx G 2;have cg:=kx G 3
 go_wp21
 go_region
 go_wp21;have⟨ab,J⟩:=Xq<|World.drew<|(((O.setCell e<|tx g.name).setCell (sd e) (w,i,z)).setCell (rm e) (x,j,A)).setCell (sz e) (y,k,B);rw[<-J];have bP:ab.heap[e]?=some (.cells (lP g.name w i z x j A y k B) 32):=by rw[J];exact kr<|kr<|kr<|kr aX.o
 have ap:∀a,a≠e->ab.heap[a]?=O.heap[a]?:=λa b=>by rw[J];exact(Q0 _ _ _ _ b).T ((Q0 _ _ _ _ b).T<|(Q0 _ _ _ _ b).T<|Q0 _ _ _ _ b)
 have ch:ab.heap.size=O:=by rw[J];show(World.setCell _ _ _).heap.size=_;simp only[QU]
 have ac:c<=e:=Ul ah.o aD.o
 have bQ:Below c c ab:=by rw[J];exact Below.drew<|kD (kD (kD (kD bN.o ac) ac) ac) ac
 have ci:e<d:=Ul Q.o aD.o
 have cj:=C.o;clear J;have⟨⟨R,S,T,am⟩,_⟩:=rG bP;exact QY (v:=.tuple #[.pointer aW,.agg<|lP g.name w i z x j A y k B]) (by simp[results,Tryz.results5,go_sem,R,S,T,am]) Z ⟨g,aW,w,i,z,x,j,A,y,k,B,Z,bI.o.kv (λa _ b=>ap a<|by rcases b with b|b;exact(λU=>W b.1);exact(λU=>Y)) Y,ai.o,tS.t L.o,(bL.o.kv mI.ok λa b=>ap a (by have F:K<=a:=b.1;omega)).M mI.ok (λa b=>by have F:a<d:=b.2;have:=aj.o.size;have:=an.o.size;have:=ao.o.size;omega),(bM.o.kv (mr.ok .i64) λa b=>ap a (by have F:K<=a:=b.1;omega)).M (mr.ok .i64) (λa b=>by have F:a<d:=b.2;have:=aj.o.size;have:=an.o.size;have:=ao.o.size;omega),bQ⟩
def NV{a:RK}{b:Se}(c:(⟨a.toArray⟩:Se)=b):(a==b.toList)=true:=by subst c;rw[R3];simp
def narrateParses.both{a b:Bool}(c:a=true)(hb:b=true):(a&&b)=true:=by rw[c,hb];rfl
def narrateParses.closed:joinedFacts Tryz.pinned.checked.prog 3 Tryz.f3 (Rows.OpenSpec.upto Rows.narrateParsesSpec).bare Rows.narrateParsesUptoRow=true:=by unfold joinedFacts;exact(both (both (both (both (both (both (both (both (both (both (both (both (both (both (both (both (both (both (both (both (both (both (both (both (both (both (both (both (both (both (both (by kernel_rfl) Il) MZ) (by kernel_rfl)) (by kernel_rfl)) (by kernel_rfl)) (by kernel_rfl)) (by kernel_rfl)) (by kernel_rfl)) Hc) NX) NY) K0) (by kernel_rfl)) (by kernel_rfl)) (by kernel_rfl)) (by kernel_rfl)) (by kernel_rfl)) (by kernel_rfl)) (by kernel_rfl)) (by kernel_rfl)) (by kernel_rfl)) CT) (by kernel_rfl)) K1) NZ) JB) M0) (by kernel_rfl)) (by kernel_rfl)) (by kernel_rfl)) (by kernel_rfl))
def narrateParses.plain(f:FuncId)(fn:Func)(hf:Tryz.pinned.checked.prog.funcNamed "rootcause/rootcauselaw52.NarrateParses" =some f)(c:Tryz.pinned.checked.prog.funcs[f]?=some fn):
  true=Tryz.pinned.checked.prog.looks []/\∀(b:Nat) t,fn.params[b]?=some t->Tryz.pinned.checked.prog.wantsStandIn t=false:=by
 obtain rfl:f=3:=Option.some.inj ((show prog.funcNamed "rootcause/rootcauselaw52.NarrateParses" =some 3 by kernel_rfl).symm.trans hf)|>.symm;obtain rfl:fn=Tryz.f3:=(Option.some.inj (func3.symm.trans c)).symm;refine⟨K2,λb t a=>?_⟩;rw[params3]at a;have hm:t∈[25,9]:=by simpa using T2 a
 have d:∀t∈[25,9],prog.wantsStandIn t=false:=by have h:([25,9].all λt=>!prog.wantsStandIn t)=true:=(by kernel_rfl);intro t a;simpa using Sg.1 h t a
 exact d t hm
end Go.Proofs.YtbdipimmpgijaaaGreatDoor
namespace Go.Proofs.YtbdipimmpgijaaaGreatDoor
open Go.ChangeShapes Go.WideShapes Go.ChangeAt Go.RowKit lH Go.Proofs.Tryz
def Pg{e:Type}{a:List e}(f:a.length=3):∃b c d,a=[b,c,d]:=by
 match a,f with
 |[b,c,d],_=>exact⟨b,c,d,Z⟩
def LP{f:Type}{a:List f}(g:a.length=4):∃b c d e,a=[b,c,d,e]:=by
 match a,g with
 |[b,c,d,e],_=>exact⟨b,c,d,e,Z⟩
section
variable {H:Type} {enc:TypeId×Value→H} {wQ:World} {base:Nat} {sp:Nat→Bool} {held:Bool}
end
end Go.Proofs.YtbdipimmpgijaaaGreatDoor
namespace Go.Proofs.YtbdipimmpgijaaaGreatDoor
open Go.ChangeShapes Go.WideShapes Go.ChangeAt Go.RowKit lH Go.Proofs.Tryz
def ra{e:Type}{q:TypeId×R0->e}{b:Program}{r:RW}{s:Nat}{t:Nat->Bool}{u:Bool}{f:Nat}{g i:TypeId}{n:Nat}{j:List R0}{zs:List RK}{v:List MemPlace}
  (w:b.underlying g=some (.array n i)) (x:b.underlying i=some .string) (y:b.cellsOf i=1) (z:b.cellsOf g=n)
  (c:DataW.trod q b r s t u f g j=some (.agg<|zs.map λa=>.lit<|.string a,v)):j=zs.map tx:=by
 cases f with
 |zero=>simp[DataW.trod]at c
 |succ f=>
  simp only[DataW.trod,w,y,z,Ry]at c;split at c
  rename_i J
  have⟨k,m,A⟩:=S0.1 c;have p:k.map (·.1)=zs.map λa=>(DataW.lit (.string a):DataW e):=by have:=RH Prod.fst A;simpa using this
  have K:k.length=n:=(by simpa using Lib.mapM_length m);have L:zs.length=n:=by have:=RH List.length p;simp at this;omega
  apply TI;intro d;by_cases B:d<n;have⟨M,C,D⟩:=Lib.mapM_at m d d (by simp[B]);obtain⟨a,E,rfl,_⟩:=Tp x D;have F:j[d]?=some (.string a):=by have:=RH (·[0]?) E;simpa[Sd,SQ]using this
  have l:(k.map (·.1))[d]?=some (DataW.lit (.string a.data.toList):DataW e):=(by simp[C]);rw[p]at l;simp only[RQ,S0,TY,Lit.string.injEq]at l;have⟨N,G,I⟩:=l;rw[F,RQ,G,I];rfl;rw[SB Y,SB Us];cases c
def mz:List<|String×DataW Unit:=[("math/bits.deBruijn32tab",Rows.laid_math_bits_deBruijn32tab),("math/bits.deBruijn64tab",Rows.laid_math_bits_deBruijn64tab),("internal/strconv.uint64pow10",Rows.laid_internal_strconv_uint64pow10),("strconv.ErrRange",Rows.laid_strconv_ErrRange),("strconv.ErrSyntax",Rows.laid_strconv_ErrSyntax),("rootcause/digest.constants",Rows.laid_rootcause_digest_constants),("rootcause/lexer.words",Rows.laid_rootcause_lexer_words),("rootcause/lexer.symbols",Rows.laid_rootcause_lexer_symbols),("rootcause/syntax.shapes",Rows.laid_rootcause_syntax_shapes),("rootcause/syntax.forms",Rows.laid_rootcause_syntax_forms),("rootcause/code.rows",Rows.laid_rootcause_code_rows)]
def oK{d:Program}{e:RW}{n:String}{f:Nat}{g:Array R0}(i:d.globalNamed n=some f)(a:e.var? d n=some g):∃b c,e.heap[f]?=some (.cells g b c):=by
 unfold World.var? at a;rw[i]at a;simp only[Option.bind_some]at a;split at a
 rename_i k b c j
 cases a;exact⟨b,c,j⟩;cases a
def Dp:prog.cellsOf 3=1:=Up
def tY:prog.cellsOf 9=1:=Up
def ug{c:Nat}:∀(d:List<|List R0) (b a:Nat),(∀r∈d,r.length=c)->a<c->d.flatten[b*c+a]?=(d[b]?).bind (·[a]?)
 |[],b,a,_,_=>by simp
 |r::d,0,a,h,hq=>by rw[R5,S5,Q7,RP<|by rw[h r<|by simp];exact hq];rfl
 |r::d,b+1,a,h,hq=>by have e:=h r Uo;rw[R5,RS (by rw[e,SZ];omega),e,show(b+1)*c+a-c=b*c+a by rw[SZ];omega];exact ug d b a (λf g=>h f<|by simp[g]) hq
section
variable {H:Type} {enc:TypeId×Value→H} {wQ:World} {base:Nat} {sp:Nat→Bool} {held:Bool}
def Ph{a c:Nat}{e:List R0}{d:List<|List R0}(k:0<a)(p:e.length=c*a)(q:d.length=c)(l:∀m∈d,m.length=a)(n:∀f,f<c->d[f]?=some ((e.drop<|f*a).take a)):e=d.flatten:=by
 apply TI;intro b;have g:b/a*a+b % a=b:=by rw[Nat.mul_comm];exact Nat.div_add_mod b a
 have i:=Tu b k;have j:=ug d (b/a) (b % a) l i;rw[g]at j;rw[j];rcases SP (b/a) c with hi|hi;rw[n _ hi,Option.bind_some,SX i,SQ,g];have r:c*a<=b:=QT (Sh a hi) Y;rw[SB Y,SB Y];rfl
def tP{e:Type}(xs:List e)(j:e->List R0)(f:e->DataW H){k g:TypeId}{n b:Nat}(u:0<b)(v:∀a,(j a).length=b)(w:prog.underlying k=some (.array n g))(x:prog.cellsOf g=b)(y:prog.cellsOf k=n*b)
  (z:∀{l:Nat} {c:List R0} {q:e} {m:List MemPlace},DataW.trod enc prog wQ base sp held l g c=some (f q,m)->c=j q)
  {l:Nat} {c:List R0} {m:List MemPlace} (A:DataW.trod enc prog wQ base sp held l k c=some (.agg<|xs.map f,m)):c=(xs.map j).flatten:=by
 have⟨p,B,_,C,D,K,E⟩:=TS w A;have r:xs.map f=p.map (·.1):=by have:=RH Prod.fst C;simpa using this
 have F:xs.length=n:=by have:=RH List.length r;simp at this;omega
 refine Ph u (D.T y) (by rw[RN];exact F) (λL G=>by obtain⟨a,_,rfl⟩:=Sj.1 G;exact v a) λd I=>?_;have s:=E d I;rw[x,Q6 Y]at s;obtain⟨a,t⟩:∃a,xs[d]?=some a:=Gx Y;have i:=RH (·[d]?) r;simp only[RQ,t,Tx,Q6<|show d<p.length from Y]at i;have i:=Option.some.inj i;have J:DataW.trod enc prog wQ base sp held B g ((c.drop<|d*b).take b)=some (f a,p[d].2):=by rw[s,i]
 rw[RQ,t,Tx,<-z J]
def Ij:prog.cellsOf 4=1:=Up
def xT:prog.cellsOf 354=4:=Up
def zK:prog.cellsOf 319=6:=Up
def zL:prog.cellsOf 338=4:=Up
def Jl:prog.cellsOf 241=1:=Up
def NW{a:List R0}(i:a.length=6):∃b c d e f g,a=[b,c,d,e,f,g]:=by
 match a,i with
 |[b,c,d,e,f,g],_=>exact⟨b,c,d,e,f,g,Z⟩
def Nv{f:Type}{a:List f}(g:a.length=4):∃b c d e,a=[b,c,d,e]:=by
 match a,g with
 |[b,c,d,e],_=>exact⟨b,c,d,e,Z⟩
def Pj{i:Type}{a:List i}(j:a.length=6):∃b c d e f g,a=[b,c,d,e,f,g]:=by
 match a,j with
 |[b,c,d,e,f,g],_=>exact⟨b,c,d,e,f,g,Z⟩
def Dq(a:Nat×Bool×Nat×RK):DataW H:=.agg [.lit<|.int .i64 (a.1:Int),.lit<|.bool a.2.1,.lit<|.int .i64 (a.2.2.1:Int),.lit<|.string a.2.2.2]
def HP(a:Bool×Bool×Nat×Nat×Bool×Bool):DataW H:=.agg [.lit<|.bool a.1,.lit<|.bool a.2.1,.lit<|.int .i64 (a.2.2.1:Int),.lit<|.int .i64 (a.2.2.2.1:Int),.lit<|.bool a.2.2.2.2.1,.lit<|.bool a.2.2.2.2.2]
def G6{x:Nat}{s:List R0}{g:Nat×Bool×Nat×RK}{y:List MemPlace}(z:DataW.trod enc prog wQ base sp held x 354 s=some (Dq g,y)):s=rr g:=by have⟨A,a,_,B,C,D,b⟩:=SU underlying354 z;obtain⟨c,d,e,f,rfl⟩:=LP<|C.T xT;have E:A.length=4:=D;obtain⟨F,G,I,J,rfl⟩:=Nv E;have i:=DataW.agg.inj (Prod.mk.inj B).1;simp only[Rq,RG,Sn,Tt]at i;have j:DataW.trod enc prog wQ base sp held a 3 (([c,d,e,f].drop 0).take<|prog.cellsOf 3)=some F:=b 0 _ Z;have k:DataW.trod enc prog wQ base sp held a 4 (([c,d,e,f].drop 1).take<|prog.cellsOf 4)=some G:=b 1 _ Z;have l:DataW.trod enc prog wQ base sp held a 3 (([c,d,e,f].drop 2).take<|prog.cellsOf 3)=some I:=b 2 _ Z;have m:DataW.trod enc prog wQ base sp held a 9 (([c,d,e,f].drop 3).take<|prog.cellsOf 9)=some J:=b 3 _ Z;rw[Dp]at j l;rw[Ij]at k;rw[tY]at m;simp only[S6,SL,Sw,S7]at j k l m;have⟨O,t,K,_⟩:=SC underlying3 j;have⟨P,u,L⟩:=Tg underlying4 k;have⟨Q,v,M,_⟩:=SC underlying3 l;have⟨R,w,N,_⟩:=Tp underlying9 m;simp only[Sn,Tt]at t u v w;subst t u v w;rw[K,L,M,N]at i;have⟨n,p,q,r⟩:=i;simp only[TY,Lit.int.injEq,Lit.bool.injEq,Lit.string.injEq,true_and]at n p q r;have⟨S,T,U,V⟩:=g;simp only at n p q r;subst n p q r;rfl
def Jm{F:Nat}{y:List R0}{j:Bool×Bool×Nat×Nat×Bool×Bool}{G:List MemPlace}(I:DataW.trod enc prog wQ base sp held F 319 y=some (HP j,G)):y=sQ j:=by have⟨J,a,_,K,L,M,b⟩:=SU underlying319 I;obtain⟨c,d,e,f,g,i,rfl⟩:=NW<|L.T zK;have N:J.length=6:=M;obtain⟨O,P,Q,R,S,T,rfl⟩:=Pj N;have k:=DataW.agg.inj (Prod.mk.inj K).1;simp only[Rq,RG,Sn,Tt]at k;have l:DataW.trod enc prog wQ base sp held a 4 (([c,d,e,f,g,i].drop 0).take<|prog.cellsOf 4)=some O:=b 0 _ Z;have m:DataW.trod enc prog wQ base sp held a 4 (([c,d,e,f,g,i].drop 1).take<|prog.cellsOf 4)=some P:=b 1 _ Z;have n:DataW.trod enc prog wQ base sp held a 3 (([c,d,e,f,g,i].drop 2).take<|prog.cellsOf 3)=some Q:=b 2 _ Z;have p:DataW.trod enc prog wQ base sp held a 3 (([c,d,e,f,g,i].drop 3).take<|prog.cellsOf 3)=some R:=b 3 _ Z;have q:DataW.trod enc prog wQ base sp held a 4 (([c,d,e,f,g,i].drop 4).take<|prog.cellsOf 4)=some S:=b 4 _ Z;have r:DataW.trod enc prog wQ base sp held a 4 (([c,d,e,f,g,i].drop 5).take<|prog.cellsOf 4)=some T:=b 5 _ Z;rw[Dp]at n p;rw[Ij]at l m q r;simp only[S6,SL,Sw,S7]at l m n p q r;have⟨ae,z,U⟩:=Tg underlying4 l;have⟨af,A,V⟩:=Tg underlying4 m;have⟨ag,B,aa,_⟩:=SC underlying3 n;have⟨ah,C,ab,_⟩:=SC underlying3 p;have⟨ai,D,ac⟩:=Tg underlying4 q;have⟨aj,E,ad⟩:=Tg underlying4 r;simp only[Sn,Tt]at z A B C D E;subst z A B C D E;rw[U,V,aa,ab,ac,ad]at k;have⟨s,t,u,v,w,x⟩:=k;simp only[TY,Lit.int.injEq,Lit.bool.injEq,true_and]at s t u v w x;have⟨ak,al,am,an,ao,ap⟩:=j;simp only at s t u v w x;subst s t u v w x;rfl
def Jn{r:Nat}{l:List R0}{s:DataW H×List MemPlace}(t:DataW.trod enc prog wQ base sp held r 338 l=some s):∃(u v:Se) (w x:Int),l=[.string u,.string v,.int .i64 w,.int .i64 x]:=by have⟨y,a,_,_,z,A,b⟩:=SU underlying338 t;obtain⟨c,d,e,f,rfl⟩:=LP<|z.T zL;have B:y.length=4:=A;obtain⟨C,D,E,F,rfl⟩:=Nv B;have g:DataW.trod enc prog wQ base sp held a 9 (([c,d,e,f].drop 0).take<|prog.cellsOf 9)=some C:=b 0 _ Z;have i:DataW.trod enc prog wQ base sp held a 9 (([c,d,e,f].drop 1).take<|prog.cellsOf 9)=some D:=b 1 _ Z;have j:DataW.trod enc prog wQ base sp held a 3 (([c,d,e,f].drop 2).take<|prog.cellsOf 3)=some E:=b 2 _ Z;have k:DataW.trod enc prog wQ base sp held a 3 (([c,d,e,f].drop 3).take<|prog.cellsOf 3)=some F:=b 3 _ Z;rw[Dp]at j k;rw[tY]at g i;simp only[S6,SL,Sw,S7]at g i j k;have⟨G,m,_⟩:=Tp underlying9 g;have⟨I,n,_⟩:=Tp underlying9 i;have⟨J,p,_⟩:=SC underlying3 j;have⟨K,q,_⟩:=SC underlying3 k;simp only[Sn,Tt]at m n p q;subst m n p q;exact⟨_,_,_,_,Z⟩
end
def JS:prog.globalNamed "rootcause/lexer.words" =some 5:=Up
def Nx:prog.globalNamed "rootcause/syntax.shapes" =some 11:=Up
def Ny:prog.globalNamed "rootcause/syntax.forms" =some 6:=Up
def Nz:prog.globalNamed "rootcause/code.rows" =some 7:=Up
def NA:prog.globalNamed "rootcause/digest.constants" =some 0:=Up
def NB:(prog.globals[5]?).map (·.type)=some 348:=Up
def Pk:(prog.globals[11]?).map (·.type)=some 367:=Up
def Pm:(prog.globals[6]?).map (·.type)=some 350:=Up
def Pn:(prog.globals[7]?).map (·.type)=some 362:=Up
def Po:(prog.globals[0]?).map (·.type)=some 295:=Up
def NC:prog.underlying 348=some (.array 39 9):=Up
def Pq:prog.underlying 367=some (.array 24 354):=Up
def Pr:prog.underlying 350=some (.array 11 319):=Up
def Ps:prog.underlying 362=some (.array 35 338):=Up
def Pu:prog.underlying 295=some (.array 64 241):=Up
def ND:prog.cellsOf 348=39:=Up
def Pw:prog.cellsOf 367=24*4:=Up
def Px:prog.cellsOf 350=11*6:=Up
def Ca:(Rows.laid_rootcause_lexer_words:DataW Unit)=.agg (kI.words.map λa=>.lit<|.string a):=Up
def Jo:(Rows.laid_rootcause_syntax_shapes:DataW Unit)=.agg (shapes.map Dq):=Up
def Jp:(Rows.laid_rootcause_syntax_forms:DataW Unit)=.agg (forms.map HP):=Up
def tQ{a:RW}{b:Nat}{c:Array R0}{e:TypeId}{f:Nat×Nat}(g:a.heap[b]?=some (.cells c e f))(d:Nat):a.cell? (sa b d)=c[d]?:=by simp[World.cell?,g]
def Jq{m:RW}(a:laidMetH prog mz m):lX m:=by have a:laidMet prog mz m:=a;refine⟨?_,?_,?_⟩;have⟨p,b,e,q,r,f,g,i,c⟩:=Lib.laidMet.reads a (n:= "rootcause/lexer.words") (d:=Rows.laid_rootcause_lexer_words) UB;obtain rfl:=Option.some.inj<|JS.symm.T f;obtain rfl:=Option.some.inj<|NB.symm.T g;have⟨b,j,k⟩:=oK JS i;refine⟨b,j,?_⟩;rw[Ca]at c;have l:=ra (zs:=kI.words) NC underlying9 tY ND c;rw[k,show e=pc from by unfold pc;rw[<-Si (xs:=e),l]];have⟨p,b,e,q,r,f,g,i,c⟩:=Lib.laidMet.reads a (n:= "rootcause/syntax.shapes") (d:=Rows.laid_rootcause_syntax_shapes) UB;obtain rfl:=Option.some.inj<|Nx.symm.T f;obtain rfl:=Option.some.inj<|Pk.symm.T g;have⟨b,j,k⟩:=oK Nx i;refine⟨b,j,?_⟩;rw[Jo]at c;have l:=tP shapes rr Dq Un (λ_=>Z) Pq xT Pw (λa=>G6 a) c;rw[k,show e=wG from by unfold wG;rw[<-l]];have⟨p,b,e,q,r,f,g,i,c⟩:=Lib.laidMet.reads a (n:= "rootcause/syntax.forms") (d:=Rows.laid_rootcause_syntax_forms) UB;obtain rfl:=Option.some.inj<|Ny.symm.T f;obtain rfl:=Option.some.inj<|Pm.symm.T g;have⟨b,j,k⟩:=oK Ny i;refine⟨b,j,?_⟩;rw[Jp]at c;have l:=tP forms sQ HP Un (λ_=>Z) Pr zK Px (λa=>Jm a) c;rw[k,show e=zS from by unfold zS;rw[<-l]]
def Jr{a:RW}(e:laidMetH prog mz a):pH a:=by
 have e:laidMet prog mz a:=e;have⟨z,r,A,B,C,s,t,u,v⟩:=Lib.laidMet.reads e (n:= "rootcause/code.rows") (d:=Rows.laid_rootcause_code_rows) UB;obtain rfl:=Option.some.inj<|Nz.symm.T s;obtain rfl:=Option.some.inj<|Pn.symm.T t;have⟨r,D,g⟩:=oK Nz u;have⟨E,F,_,_,G,I,w⟩:=TS Ps v;refine⟨(QP.1 g).1,λi J=>?_⟩;have j:=w i Y;rw[zL,Q6 Y]at j;have⟨k,l,m,p,x⟩:=Jn j;have b:∀c f,([.string k,.string l,.int .i64 m,.int .i64 p]:List R0)[c]?=some f->c<4->a.cell? ⟨7,i*4+c,none⟩=some f:=λc f q y=>by rw[<-x,SX y,SQ]at q;rw[tQ g,<-q,T6]
 exact⟨k,l,m,p,b 0 _ Z Un,b 1 _ Z Un,b 2 _ Z Un,b 3 _ Z Un⟩
def Js{a:RW}(b:laidMetH prog mz a):qC a:=by have b:laidMet prog mz a:=b;have⟨t,i,u,v,w,j,k,l,m⟩:=Lib.laidMet.reads b (n:= "rootcause/digest.constants") (d:=Rows.laid_rootcause_digest_constants) UB;obtain rfl:=Option.some.inj<|NA.symm.T j;obtain rfl:=Option.some.inj<|Po.symm.T k;have⟨i,x,e⟩:=oK NA l;have⟨y,z,_,_,A,B,p⟩:=TS Pu m;refine⟨(QP.1 e).1,λq r=>?_⟩;have f:=p q r;rw[Jl,Q6 Y]at f;have⟨c,s,_⟩:=SC underlying241 f;refine⟨c,?_⟩;have g:([.int .u32 c]:List R0)[0]?=some (.int .u32 c):=Z;rw[<-s,SX Un,SQ]at g;rw[tQ e,<-g,T6,Ry,Q1]
def NF:prog.globalNamed "rootcause/lexer.symbols" =some 4:=Up
def Py:(prog.globals[4]?).map (·.type)=some 310:=Up
def Pz:prog.underlying 310=some (.array 25 9):=Up
def PA:prog.cellsOf 310=25:=Up
def Jt:(Rows.laid_rootcause_lexer_symbols:DataW Unit)=.agg (kI.syms.map λa=>.lit<|.string a):=Up
def Ju{f:RW}(e:laidMetH prog mz f):L.Laid f:=by have e:laidMet prog mz f:=e;constructor;have⟨p,a,b,q,r,g,i,j,c⟩:=Lib.laidMet.reads e (n:= "rootcause/lexer.words") (d:=Rows.laid_rootcause_lexer_words) UB;obtain rfl:=Option.some.inj<|JS.symm.T g;obtain rfl:=Option.some.inj<|NB.symm.T i;have⟨a,k,l⟩:=oK JS j;refine⟨a,k,?_⟩;rw[Ca]at c;have m:=ra (zs:=kI.words) NC underlying9 tY ND c;rw[l,show b=L.pc from by unfold L.pc;rw[<-Si (xs:=b),m]];have⟨p,a,b,q,r,g,i,j,c⟩:=Lib.laidMet.reads e (n:= "rootcause/lexer.symbols") (d:=Rows.laid_rootcause_lexer_symbols) UB;obtain rfl:=Option.some.inj<|NF.symm.T g;obtain rfl:=Option.some.inj<|Py.symm.T i;have⟨a,k,l⟩:=oK NF j;refine⟨a,k,?_⟩;rw[Jt]at c;have m:=ra (zs:=kI.syms) Pz underlying9 tY PA c;rw[l,show b=L.yK from by unfold L.yK;rw[<-Si (xs:=b),m]]
def G7{a:RW}(b:L.Laid a):5+1<=a.heap.size:=by have⟨⟨d,e,c⟩,_⟩:=b;have:=(QP.1 c).1;omega
def PB:(prog.globals[3]?).map (·.type)=some 306:=Up
def MX:prog.cellsOf 244=1:=Up
def Jv:prog.cellsOf 306=20:=Up
def G8:prog.underlying 306=some (.array 20 244):=Up
def Jw:(Rows.laid_internal_strconv_uint64pow10:DataW Unit)=Lib.tabData .u64 Lib.pow10Tab:=Up
def Jx{a:RW}(b:laidMetH prog mz a):qc true a:=by have b:laidMet prog mz a:=b;have⟨m,e,f,p,q,g,i,j,c⟩:=Lib.laidMet.reads b (n:= "internal/strconv.uint64pow10") (d:=Rows.laid_internal_strconv_uint64pow10) UB;obtain rfl:=Option.some.inj<|td.symm.T g;obtain rfl:=Option.some.inj<|PB.symm.T i;have⟨e,r,k⟩:=oK td j;rw[Jw]at c;have l:=Lib.cells_of_tab (zs:=Lib.pow10Tab) G8 underlying244 MX Jv c;intro _;unfold Lib.TabIs World.var?;rw[td];simp only[Option.bind_some,k];rw[<-Si (xs:=f),l]
def own:ownKnob prog.godebug=none:=Up
def putCells(a:Array R0):Obj->Obj
 | .cells _ b c=>.cells a b c
 |o=>o
def Fz:DataW Unit->List R0
 | .lit (.int a b)=>[Value.int a b]
 | .lit (.string c)=>[.string ⟨c.toArray⟩]
 | .lit (.bool d)=>[.bool d]
 |_=>[undef]
def oV:DataW Unit->Array R0
 | .agg a=>(a.flatMap λ| .agg b=>b.flatMap Fz|x=>Fz x).toArray
 |_=> #[]
def PU:prog.globalNamed "strconv.ErrRange" =some 2:=Up
def PW:prog.globalNamed "strconv.ErrSyntax" =some 1:=Up
def QI:(prog.globals[2]?).map (·.type)=some 127:=Up
def QJ:(prog.globals[1]?).map (·.type)=some 127:=Up
def Lp: "*" ++ "errors.errorString" = "*errors.errorString" :=Un
def NH(a:TypeId)(b:prog.typeName? 3 a=some "*errors.errorString"):a=343:=
 typeName_ptr_named (nm:= "errors.errorString") (by rw[Lp];kernel_rfl) Up Un a (by rw[Lp];exact b)
def Ik:prog.cellsOf 345=1:=Up
def Jy{b:RW}(a:laidMetH prog mz b):vR b:=by have a:laidMet prog mz b:=a;refine⟨?_,?_⟩;obtain⟨e,f,c,-,-,-⟩:=laid_sentinel a.tail.tail.tail.tail PW QJ underlying127 NH underlying343 underlying345 Z Z underlying9 Ik tY;exact⟨_,by have d:=World.var?_cell PW c 0;simpa using d,Or.inr ⟨_,_,Z⟩⟩;obtain⟨e,f,c,-,-,-⟩:=laid_sentinel a.tail.tail.tail PU QI underlying127 NH underlying343 underlying345 Z Z underlying9 Ik tY;exact⟨_,by have d:=World.var?_cell PU c 0;simpa using d,Or.inr ⟨_,_,Z⟩⟩
def FA:DataW Unit->Se
 | .iface _ (.ptr<|.agg [.lit<|.string s])=>⟨s.toArray⟩
 |_=>⟨#[]⟩
noncomputable def NI:Nat:=(World.holding prog default ⟨#[],#[],[]⟩).heap.size
noncomputable def rC(b:Os):RW:=
 let a:=World.holding prog b ⟨#[.cells #[.string<|FA Rows.laid_strconv_ErrRange] 345,.cells #[.string<|FA Rows.laid_strconv_ErrSyntax] 345],#[],[]⟩
 {a with heap:=((((((((((a.heap.modify 8<|putCells<|oV Rows.laid_math_bits_deBruijn32tab).modify 9<|putCells<|oV Rows.laid_math_bits_deBruijn64tab).modify 3<|putCells<|oV Rows.laid_internal_strconv_uint64pow10).modify 2<|putCells #[.iface 343<|.pointer NI]).modify 1<|putCells #[.iface 343<|.pointer<|some ⟨NI+1,0,none⟩]).modify 0<|putCells<|oV Rows.laid_rootcause_digest_constants).modify 5<|putCells<|oV Rows.laid_rootcause_lexer_words).modify 4<|putCells<|oV Rows.laid_rootcause_lexer_symbols).modify 11<|putCells<|oV Rows.laid_rootcause_syntax_shapes).modify 6<|putCells<|oV Rows.laid_rootcause_syntax_forms).modify 7<|putCells<|oV Rows.laid_rootcause_code_rows}
end Go.Proofs.YtbdipimmpgijaaaGreatDoor
namespace Go.Proofs.YtbdipimmpgijaaaGreatDoor
open Go.ChangeShapes Go.WideShapes Go.ChangeAt Go.RowKit lH oa Go.Proofs.Tryz
def wa{b:Type}{c:List R0->b->Prop}{d:Nat->List R0}{e:Nat->b}:∀(a:List Nat),(∀i∈a,c (d i)<|e i)->ly c (a.map d) (a.map e)
 |[],_=>trivial
 |i::a,h=>⟨h i Uo,wa a λf g=>h f<|by simp[g]⟩
section
variable {H:Type} {enc:TypeId×Value→H} {wQ:World} {base:Nat} {sp:Nat→Bool} {held:Bool}
abbrev Low(a:RW):Nat->Prop:=λb=>b<a
def rD{α:Type}{i:Rel α}{C t:TypeId}{b:Nat}(ok:lh i b)(M:prog.underlying C=some (.slice t))(N:prog.cellsOf t=b)
  (O:∀{u:Nat} {j:List R0} {v:DataW H×List MemPlace},DataW.trod enc prog wQ base sp held u t j=some v->∃w,i (Low wQ) wQ j w)
  {u:Nat} {j:List R0} {v:DataW H×List MemPlace} (P:DataW.trod enc prog wQ base sp held u C j=some v):
  ∃(D:RE) (x:List α) (E:Nat),j=[.slice D x.length E]/\kz i (Low wQ) wQ (.slice D x.length E) x:=by
 rcases Go.Deep.open_slice M P with⟨rfl,_⟩|⟨f,d,r,Q,n,aj,ak,rfl,al,R,F,S,_,G⟩
 .exact⟨none,[],0,Z,kz.nil _ _ _⟩
 .have am:d<=Q:=(by rw[S];split<;>omega);rw[N]at G;have⟨T,hF⟩:=Go.Deep.choose_lt (α:=Option<|List R0×α) (n:=d) (p:=λa p=>∃c,p=some c/\wQ.cells? base (f.add<|a*b) b=some c.1/\i (Low wQ) wQ c.1 c.2) (λa hi=>by have⟨U,y,g⟩:=G a Y;have⟨w,V⟩:=O g;exact⟨some (U,w),_,Z,y,V⟩)
  rcases Sr d with aa|hp;subst aa;exact⟨some f,[],r,Z,some f,r,[],Z,QZ _,by unfold maxLen at F;omega,uq.nil _ _ _,trivial⟩;have⟨ab,_,_,_⟩:=hF 0 hp;obtain⟨e,k⟩:∃e:Nat->List R0×α,∀a,a<d->wQ.cells? base (f.add<|a*b) b=some (e a).1/\i (Low wQ) wQ (e a).1 (e a).2:=
   ⟨λa=>(T a).getD ab,λa hi=>by have⟨c,z,y,g⟩:=hF a hi;simp only[z,Sz];exact⟨y,g⟩⟩
  have I:((List.range d).map λa=>(e a).2).length=d:=Uo;have J:=ok.pos;have ac:∀K∈(List.range d).map (λa=>(e a).1),K.length=b:=by intro K ad;obtain⟨a,hi,rfl⟩:=Sj.1 ad;exact ok.len (k a<|Tj.1 hi).2
  refine⟨some f,(List.range d).map λa=>(e a).2,r,by rw[I],some f,r,(List.range d).map λa=>(e a).1,Z,by rw[I];exact R,by unfold maxLen at F;omega,λan=>?_,wa _ λa hi=>(k a<|Tj.1 hi).2⟩;have L:∀a,a<d->∀l m,(e a).1[l]?=some m->wQ.cell? ((f.add<|a*b).add l)=some m:=λa hi l m s=>by have⟨_,ao,g⟩:=World.cells?_some (k a hi).1;have ae:l<b:=(by have:=(Q9.1 s).1;rw[ok.len (k a hi).2]at this;exact this);rw[g l ae];exact s
  have af:0<(e 0).1.length:=(by rw[ok.len (k 0 hp).2];exact J);have A:=L 0 hp 0 _<|Q6 af;have⟨ag,B,ah⟩:=f;have ai:ah=none:=(by simpa[Addr.add]using World.cell?_spot A);subst ai;rw[addr_add,addr_add]at A;refine⟨ag,B,Z,block_lt_of_cell A,λc m s=>?_⟩;have z:c/b*b+c % b=c:=(by rw[Nat.mul_comm];exact Nat.div_add_mod c b);have q:=ug _ (c/b) (c % b) ac<|Tu _ J;rw[z,s]at q;rcases SP (c/b) d with hi|hi;rw[RQ,Uc hi]at q;have g:=L (c/b) hi (c % b) m q.symm;rw[addr_add,addr_add,show B+c/b*b+c % b=B+c from Y]at g;exact g;rw[SB<|by simpa using hi]at q;cases q
def vg:prog.cellsOf 5=1:=Up
def FB:prog.cellsOf 22=1:=Up
def Ar:prog.cellsOf 94=2:=Up
def Cc:prog.cellsOf 73=1:=Up
def FC:prog.cellsOf 75=4:=Up
def Jz:prog.cellsOf 23=1:=Up
def G9:prog.cellsOf 25=3:=Up
def PC{d:Type}{a:List d}(e:a.length=2):∃b c,a=[b,c]:=by
 match a,e with
 |[b,c],_=>exact⟨b,c,Z⟩
def zM{c:Nat}{b:List R0}{d:DataW H×List MemPlace}(e:DataW.trod enc prog wQ base sp held c 5 b=some d):∃f,qO (Low wQ) wQ b f:=by
 obtain⟨a,rfl,_,g⟩:=SC underlying5 e;have j:=bounds_u8 g;refine⟨UInt8.ofNat a.toNat,?_⟩;have i:((UInt8.ofNat a.toNat).toNat:Int)=a:=by rw[UInt8.toNat_ofNat'];omega
 show [Value.int .u8 a]=[.int .u8 _];rw[i]
def wM{c:Nat}{a:List R0}{d:DataW H×List MemPlace}(e:DataW.trod enc prog wQ base sp held c 5 a=some d):∃b:Nat,a=[.int .u8 (b:Int)]/\b<=255:=by obtain⟨f,rfl,_,g⟩:=SC underlying5 e;have i:=bounds_u8 g;exact⟨f.toNat,by rw[Int.toNat_of_nonneg i.1],Y⟩
def zN{m:Nat}{e:List R0}{n:DataW H×List MemPlace}(a:DataW.trod enc prog wQ base sp held m 94 e=some n):∃p,qu (Low wQ) wQ e p:=by have⟨b,f,_,_,q,r,g⟩:=SU underlying94 a;obtain⟨i,j,rfl⟩:=PC<|q.T Ar;have v:b.length=2:=r;have c:DataW.trod enc prog wQ base sp held f 5 (([i,j].drop 0).take<|prog.cellsOf 5)=b[0]?:=g 0 _ Z;rw[vg,Q6 Y]at c;have d:DataW.trod enc prog wQ base sp held f 22 (([i,j].drop 1).take<|prog.cellsOf 22)=b[1]?:=g 1 _ Z;rw[FB,Q6 Y]at d;simp only[S6,SL,Sw,S7]at c d;have⟨s,k,_⟩:=wM c;have⟨w,t,x,l,u⟩:=rD qO.ok underlying22 vg (λa=>zM a) d;simp only[Sn,Tt]at k l;subst k l;exact⟨⟨s,t⟩,_,Z,u⟩
def Ha{t:Nat}{n:List R0}{u:DataW H×List MemPlace}(a:DataW.trod enc prog wQ base sp held t 75 n=some u):∃v,uk (Low wQ) wQ n v:=by have⟨b,c,_,_,w,x,d⟩:=SU underlying75 a;obtain⟨e,f,g,i,rfl⟩:=LP<|w.T FC;have E:b.length=4:=x;have j:DataW.trod enc prog wQ base sp held c 5 (([e,f,g,i].drop 0).take<|prog.cellsOf 5)=b[0]?:=d 0 _ Z;rw[vg,Q6 Y]at j;have k:DataW.trod enc prog wQ base sp held c 5 (([e,f,g,i].drop 1).take<|prog.cellsOf 5)=b[1]?:=d 1 _ Z;rw[vg,Q6 Y]at k;have l:DataW.trod enc prog wQ base sp held c 73 (([e,f,g,i].drop 2).take<|prog.cellsOf 73)=b[2]?:=d 2 _ Z;rw[Cc,Q6 Y]at l;have m:DataW.trod enc prog wQ base sp held c 73 (([e,f,g,i].drop 3).take<|prog.cellsOf 73)=b[3]?:=d 3 _ Z;rw[Cc,Q6 Y]at m;simp only[S6,SL,Sw,S7]at j k l m;have⟨y,p,_⟩:=wM j;have⟨z,q,_⟩:=wM k;have⟨F,A,G,r,B⟩:=rD qu.ok underlying73 Ar (λa=>zN a) l;have⟨I,C,J,s,D⟩:=rD qu.ok underlying73 Ar (λa=>zN a) m;simp only[Sn,Tt]at p q r s;subst p q r s;exact⟨⟨y,z,A,C⟩,_,_,Z,B,D⟩
def Hb{A:Reach}{B:Nat}{c:R0}{p:DataW H}{q:List MemPlace}(C:Value.okWide prog wQ A B 25 c)(a:DataW.Trod enc prog wQ base sp held 25 c p q):
  ∃(d:Nat) (r:RE) (e:RK) (s:Nat) (t:RE) (f:List Pt) (u:Nat),c=.agg #[.int .u8 (d:Int),(r,e.length,s),(t,f.length,u)]/\kz qO (Low wQ) wQ (r,e.length,s) e/\kz uk (Low wQ) wQ (t,f.length,u) f:=by
 obtain⟨v,rfl,_⟩:=okWide_struct underlying25 C;have⟨D,E⟩:=a;have F:DataW.trod enc prog wQ base sp held D 25 v.toList=some (p,q):=E;have⟨xs,g,_,_,G,I,b⟩:=SU underlying25 F;have⟨i,j,k,w⟩:=Pg<|G.T G9;rw[w]at b;have R:xs.length=3:=I;have l:DataW.trod enc prog wQ base sp held g 5 (([i,j,k].drop 0).take<|prog.cellsOf 5)=xs[0]?:=b 0 _ Z;rw[vg,Q6 Y]at l;have m:DataW.trod enc prog wQ base sp held g 22 (([i,j,k].drop 1).take<|prog.cellsOf 22)=xs[1]?:=b 1 _ Z;rw[FB,Q6 Y]at m;have n:DataW.trod enc prog wQ base sp held g 23 (([i,j,k].drop 2).take<|prog.cellsOf 23)=xs[2]?:=b 2 _ Z;rw[Jz,Q6 Y]at n;simp only[S6,SL,Sw,S7]at l m n;have⟨d,x,_⟩:=wM l;have⟨J,K,L,y,M⟩:=rD qO.ok underlying22 vg (λa=>zM a) m;have⟨N,O,P,z,Q⟩:=rD uk.ok underlying23 FC (λa=>Ha a) n;simp only[Sn,Tt]at x y z;subst x y z;refine⟨d,J,K,L,N,O,P,?_,M,Q⟩;rw[<-Si (xs:=v),w]
def NJ:Rel Int:=λb c d a=>lL b c d a/\oP a
def NJ.ok:lh NJ 1:=
 ⟨lL.ok.pos,λa=>lL.ok.len a.1,λa=>lL.ok.one a.1,λa b=>⟨lL.ok.M a.1 b,a.2⟩,λa c=>⟨lL.ok.kv a.1 c,a.2⟩⟩
end
end Go.Proofs.YtbdipimmpgijaaaGreatDoor
namespace Go.RowKit
open Go.WideShapes Go.ChangeShapes Go.WideElems
section
variable {H:Type} {enc:TypeId×Value→H} {P:Program}
def rR(P:Program)(a:List TypeId):Bool:=a.all λt=>P.readableRec t&&decide (t<P.types.size)
def tR(e:laidOutB P=true){wQ f:World}{sp:Nat->Bool}:∀{b:List TypeId} {vs:List Value} {c:List (DataW H)} {a:List MemPlace},rR P b=true->
  DataW.TrodAll enc P wQ 0 (λ_=>true) true b vs c a->(∀p∈a,wQ.sameAt f p)->(∀p∈a,sp p.block=true)->DataW.TrodAll enc P f 0 sp true b vs c a
 |[],[],[],_,_,h,_,_=>h
 |t::b,v::vs,d::c,a,hr,h,h1,h2=>by
  obtain⟨p,q,hp,g,rfl⟩:=h;simp only[rR,List.all_cons,Bool.and_eq_true,decide_eq_true_eq]at hr;exact⟨p,q,Trod_stays e hr.1.1 hr.1.2 hp (λx hx=>h1 x (by simp[hx])) (λx hx=>h2 x (by simp[hx])),
   tR e (by simp[rR];simpa using hr.2) g (λx hx=>h1 x (by simp[hx])) (λx hx=>h2 x (by simp[hx])),rfl⟩
 |[],[],_::_,_,_,h,_,_=>h.elim
 |[],_::_,_,_,_,h,_,_=>h.elim
 |_::_,[],_,_,_,h,_,_=>h.elim
 |_::_,_::_,[],_,_,h,_,_=>h.elim
def JC{f:Func}{s:ChangeSpec}{k z A B:Bool}{wQ c:World}{args:Array Value}{a l:List (DataW H)}{d:List MemPlace}{m:TypeId}
  (C:laidOutB P=true) (D:rR P f.params.toList=true) (e:s.vars=[]) (n:f.resultTypes=#[m]) (r:P.underlying m=some .bool)
  (g:DataW.Whole enc P f.params.toList s.vars k wQ args.toList a l d)
  (i:s.fn H (a++l)={results:=[.lit (.bool true)],args:=a}) (hb:Below wQ.heap.size wQ c):
  s.post enc P f k z A B wQ args (.bool true) c:=by
 have E:=g;have j:∀p∈d,p.block<wQ.heap.size:=λp hp=>g.lt p hp;have F:∀p∈d,(λb=>decide (b<wQ.heap.size)) p.block=true:=λp hp=>by simpa using j p hp
 obtain⟨p,q,G,t,rfl,hz,hn⟩:=E;rw[e]at t;obtain⟨rfl,rfl⟩:=trodVars_none t;simp only[List.append_nil]at*;have u:∀(b:Nat) (sp:Nat->Bool) (hd:Bool),DataW.TrodAll enc P c b sp hd f.resultTypes.toList ((Value.bool true).resultList f.resultTypes.size) [.lit (.bool true)] []:=by intro b sp hd;rw[n];exact trodAll_mk1 (shut_bool r true)
 have v:∀sp:Nat->Bool,(∀x∈p,sp x.block=true)->DataW.TrodAll enc P c 0 sp true f.params.toList args.toList a p:=
  λsp h=>tR C D G (λx hx=>hb.same (j x hx)) h
 refine⟨a,[],p,[],p,[],g,?_,?_,?_,World.keptBut_mono (λx hx=>⟨hx,.inr (.inl hx)⟩) (hb.frame (·∈p)),λ_=>?_⟩
 .rw[List.append_nil,i];exact u _ _ _
 .rw[List.append_nil,i];exact v _ F
 .rw[List.append_nil,i,e];rfl
 .refine⟨ok_one n rfl (okWide_bool_mk r true),_,[],([]++p)++[],⟨[]++p,[],trodAll_append (v _ (λ_ _=>rfl)) (u _ _ _),by rw[e];rfl,rfl,?_,?_⟩,?_⟩;intro b w hp;have y:MemPlace.cell b w∈p:=(by simpa using hp);rw[hb.frozen (j _ y)];exact hz b w y;intro I;simpa using hn I;intro x hx _;simpa using hx
end
end Go.RowKit
namespace Go.Proofs.YtbdipimmpgijaaaGreatDoor
open RowKit Go.Proofs.Tryz lH Maps oa qR ChangeShapes WideShapes ChangeAt
def narrateParses.reads(b:Os){H:Type}(enc:TypeId×Value->H):∃a c,DataW.whole enc prog ((rC b).forCall (λ_ _=>0) ⟨#[],#[.agg #[.int .u8 0,.slice none 0 0,.slice none 0 0],.string ⟨#[]⟩],[]⟩).memory Tryz.f3.params.toList Rows.narrateParsesSpec.vars false (#[.agg #[.int .u8 0,.slice none 0 0,.slice none 0 0],.string ⟨#[]⟩]:Array Value).toList 8=some (a,[],c)/\Rows.uptoSmall H (a++[])=true:=by
 have h:(match DataW.whole enc prog ((rC b).forCall (λ_ _=>0) ⟨#[],#[.agg #[.int .u8 0,.slice none 0 0,.slice none 0 0],.string ⟨#[]⟩],[]⟩).memory Tryz.f3.params.toList Rows.narrateParsesSpec.vars false (#[.agg #[.int .u8 0,.slice none 0 0,.slice none 0 0],.string ⟨#[]⟩]:Array Value).toList 8 with|some (a,[],_)=>Rows.uptoSmall H (a++[])|_=>false)=true:=by kernel_rfl
 split at h;exact⟨_,_,by assumption,h⟩;cases h
def narrateParses.JD(a:Os):(((rC a).forCall (λ_ _=>0) ⟨#[],#[.agg #[.int .u8 0,.slice none 0 0,.slice none 0 0],.string ⟨#[]⟩],[]⟩)).variablesB Tryz.checked.prog=true:=by kernel_rfl
