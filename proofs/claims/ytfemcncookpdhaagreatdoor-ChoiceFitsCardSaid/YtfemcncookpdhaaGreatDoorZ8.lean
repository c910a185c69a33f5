import Derived.Test.YtfemcncookpdhaaGreatDoorZ2
import Derived.Test.YtfemcncookpdhaaGreatDoorZ3
import Derived.Test.YtfemcncookpdhaaGreatDoorZ4
set_option maxRecDepth 1000000
set_option maxHeartbeats 32000000
set_option linter.all false
namespace Go.Proofs.YtfemcncookpdhaaGreatDoor
open Go.RowKit lX Go.Proofs.Tryz
theorem mY(c)(n:Nat)(w)(hn:n<=3):Calls prog 20 #[.int .u8 (c.toNat:Int),n] w (mj (oI c n) w):=by
 obtain⟨d,f,hz0,g,j⟩:=N4 qX
 go_enter func20,ntmps20
 go_wp2;go_loopw [5,6] (λv i wr=>∃k:Nat,k<=n/\i=k/\kx kA 9 1 (λ_=>False) wr w v (oI c k)/\Below w w wr) (λ_ i _=>n-(intOf i).toNat);case atStart=>exact⟨0,NP _,rfl,kx.nil _ _ _ _ _ _,Below.refl _ _⟩
 case round=>
  obtain⟨k,x,rfl,a,b⟩:=hrel;obtain⟨y,A,rfl,l,B⟩:=a.form;rw[lr]at a l⊢;have hz:=b.size;by_cases C:k<n
  .have hcv:=HM wr c k PJ;have D:IntKind.u8.wrap (48+(k:Int))=48+(k:Int):=PN;have m:=Gn c k;go_wp2_with (at_builtin;refine kD rfl _ _ 49 rfl w.heap.size 9 d _ 1 16 underlying49 f hz0 g j rfl kA.ok (λ_=>False) _ (oI c k) rfl (a.kh kA.ok ((Ba _ _).alloc PK _)) ⟨wr+1,0,none⟩ [tx (nm c k)] (nm c k) rfl ?c1 rfl ?c3 ?c4 ?c5 ?_);case c1=>have:=lT (wr.alloc (.cells #[.int .u8 (c.toNat:Int),.int .u8 (48+(k:Int))] 5)) [tx (nm c k)] 9;rwa [NB]at this
   case c3=>rw[lr];unfold maxLen;omega
   case c4=>rw[lr];omega
   case c5=>simp;omega
   intro p q r s _;have t:kx kA 9 1 (λ_=>False) q w p (oI c (k+1)):=(by rw[m];exact r);have u:=(((b.alloc hz _).alloc PO _).grown s PO (λz e=>(a.ge z e).1))
   go_wp2;go_roundw;case rel=>exact⟨k+1,PJ,PQ,t,u⟩
   case measure=>simp[intOf];omega
  obtain rfl:k=n:=PJ;go_wp2;go_ret;exact⟨_,rfl,a,b⟩
theorem nS{S}{e:Nat}{sc}{left d:Nat}{w a}{op n:Int}{name:List UInt8}{j:Option Addr}{m c:Nat}{args:List Ex}(k:kH S a e sc left)(l:w.grownBy a (some e))(u:e<w.heap.size)(hS:∀b,S b->b<w.heap.size)
  (p:km (kz .i64 d) (λb=>w.heap.size<b/\b<a) a (.slice j m c) args) (he:lp sc (d+1) (.mk op name n args)) (q r s t:Value):
  mP S e sc left (d+1) w (.returned (.agg #[.int .i64 op,tx name,n,.slice j m c])) ((((a.setCell ⟨w,0,none⟩ q).setCell ⟨w,1,none⟩ r).setCell ⟨w,2,none⟩ s).setCell ⟨w,3,none⟩ t):=by
 have hz:w≠e:=PJ
 have f:∀b,S b->b≠w:=λb g=>PH (hS b g)
 have i:∀b,(w.heap.size<b/\b<a)->b≠w:=λb g=>PJ
 refine⟨op,n,name,j,m,c,.mk op name n args,rfl,⟨_,rfl,?_⟩,he,(((k.mr hz f).mr hz f).mr hz f).mr hz f,mD (mD (mD (mD l)))⟩;refine((((p.mr (kz.ok _ _) i).mr (kz.ok _ _) i).mr (kz.ok _ _) i).mr (kz.ok _ _) i).M (kz.ok _ _) λb g=>⟨PJ,by simp only[NM];exact g.2,PJ⟩
theorem qC{S:Nat->Prop}{e:Nat}{sc:Sc}{left d:Nat}{w a:World}{o:Obj}{op n:Int}{name:List UInt8}{g:Option Addr}{m c:Nat}{args:List Ex}(f:w.heap.size<a)(p:kH S (a.alloc o) e sc left)(q:w.grownBy (a.alloc o) (some e))(r:e<w)(hS:∀b,S b->b<w)
  (s:km (kz .i64 d) (λb=>w<b/\b<(a.alloc o).heap.size) (a.alloc o) (.slice g m c) args) (he:lp sc (d+1) (.mk op name n args)) (i j k l:Value):
  mP S e sc left (d+1) w (.returned (.agg #[.int .i64 op,tx name,n,.slice g m c])) (((((a.setCell ⟨w,0,none⟩ i).setCell ⟨w,1,none⟩ j).setCell ⟨w,2,none⟩ k).setCell ⟨w,3,none⟩ l).alloc o):=by
 have h:=nS p q r hS s he i j k l;rw[Ol o _ _ _ f,Ol o _ _ _ (by rw[NM];exact f),Ol o _ _ _ (by simp only[NM];exact f),Ol o _ _ _ (by simp only[NM];exact f)]at h;exact h
theorem Aa.ng{w0 x v w w'}(c:NG w0 w w')(h:Aa w0 x v w):Aa w0 x v w':=by obtain⟨b,o,e,a,hc⟩:=h;exact⟨b,o,e,⟨a.1,ND a.2 c.1⟩,(Cb b o (c.2 b a)).T hc⟩
theorem Ek{S}{B z:Nat}{w0 q wr}{n:Nat}{D f}{d g:Nat}{i}{nk j:Nat}{x v k E}{c4:Nat}{F}{G I J:Nat}{m:Option Addr}{p:Nat}{s:List Co}(h:Ku S B z w0 q n D f d g i nk j x v k E c4 F G I J)(r:q.grownBy wr (some B))
  (K:kx (mg .i64) 48 3 (λb=>q<=b) wr q (.slice m n p) s) (L:s.length=n) (M:∀y c,s[y]?=some c->xK d k y c):
  pJ w0 (.returned (.agg #[tx mi,.slice f d g,.slice i nk j,.slice m n p])) ((((wr.setCell ⟨z,0,none⟩ (tx mi)).setCell ⟨z,1,none⟩ (.slice f d g)).setCell ⟨z,2,none⟩ (.slice i nk j)).setCell ⟨z,3,none⟩ (.slice m n p)):=by
 have O:=h.zB;have P:=h.len.2.2;have Q:=h.qz.size;have R:=r.size;have w:∀b,b≠z->((((wr.setCell ⟨z,0,none⟩ (tx mi)).setCell ⟨z,1,none⟩ (.slice f d g)).setCell ⟨z,2,none⟩ (.slice i nk j)).setCell ⟨z,3,none⟩ (.slice m n p)).heap[b]?=wr.heap[b]?:=λb a=>
  (NZ _ _ _ _ a).T ((NZ _ _ _ _ a).T ((NZ _ _ _ _ a).T (NZ _ _ _ _ a)))
 have u:((((wr.setCell ⟨z,0,none⟩ (tx mi)).setCell ⟨z,1,none⟩ (.slice f d g)).setCell ⟨z,2,none⟩ (.slice i nk j)).setCell ⟨z,3,none⟩ (.slice m n p)).heap.size=wr:=by simp only[NM]
 have A:∀b,B<b->b<q->((((wr.setCell ⟨z,0,none⟩ (tx mi)).setCell ⟨z,1,none⟩ (.slice f d g)).setCell ⟨z,2,none⟩ (.slice i nk j)).setCell ⟨z,3,none⟩ (.slice m n p)).heap[b]?=q.heap[b]?:=λb T N=>(w b PJ).T (r.B b N (λe=>by injection e with e;omega));refine⟨mi,f,i,m,d,g,nk,j,n,p,⟨mi,x,v,s⟩,rfl,⟨_,_,_,rfl,?_,?_,?_⟩,⟨d,k,rfl,h.f2,h.Hz,?_,?_,?_,?_,?_,M⟩,?_⟩
 .exact(h.KE.kg mR.ok (λb a=>A b a.1 a.2)).M mR.ok (λb a=>⟨PH a.1,by rw[u];have:=a.2;omega⟩)
 .exact(h.LD.kg nI.ok (λb a=>A b a.1 a.2)).M nI.ok (λb a=>⟨PH a.1,by rw[u];have:=a.2;omega⟩)
 .exact((K.sl (mg.ok _)).kg (mg.ok _) (λb a=>w b (by rcases a.1 with h|h<;>omega))).M (mg.ok _) (λb a=>⟨by rcases a.1 with h|h<;>omega,by rw[u];exact a.2⟩)
 .rw[h.len.2.1];exact h.n1
 .rw[h.len.2.1];exact h.n3
 .intro l C;rw[h.LG,Ov]at C;obtain⟨t,_,rfl⟩:=C;have U:=uP t;have V:1<=tZ t/\tZ t<=3:=P3;have W:Ab t<=3:=(by unfold Ab;omega);exact⟨PJ,PJ,B7 t 3⟩
 .show nL k.length (k.length*k.length) v;rw[h.len.2.1];exact h.LF
 .show s.length=k.length;rw[h.len.2.1];exact L
 .refine⟨r.os.T h.qz.os,r.tape.T h.qz.tape,r.output.T h.qz.output,by rw[u];omega,λb a=>?_⟩;exact(w b PJ).T ((r.B b PJ (λe=>by injection e with e;omega)).T (h.qz.B b a))
theorem nx.ng{a:Type}{R:Rel a}{T k:Nat}{P c wr}{o:Nat}{C d V}{xs:List a}{x b}(h:nx R T k P c wr o C d V xs x)(f:x.grownBy b V.ownBlock):NK wr x b:=.kW f (λz e=>(h.v z e).2)
theorem KG.start{a}{o:Nat}{C b}(h:a.heap[o]?=some (.cells C b (0,0))):KG a o C b a:=⟨lu _ _,h,(NC.1 h).1⟩
theorem Bh(s:ByteArray)(w)(d:td w):
  Calls prog 193 #[.string s] w λe w'=>e=.returned (.bool (mh.xL s.data.toList))/\w=w':=by
 obtain⟨f,g,j⟩:=d
 go_enter func193,ntmps193
 go_wp2_with (refine wpList_load_row rfl 343 _ rfl 7 rfl f _ g _ j rU rfl Cy ?_)
 go_loop [4,6] (λ_ i=>∃k:Nat,k<=39/\i=k/\∀a,a<k->(mh.words[a]?.getD []==s.toList)=false) (λ_ i=>39-(intOf i).toNat)
 case atStart=>exact⟨0,NP _,rfl,PJ⟩
 case round=>
  obtain⟨k,m,rfl,b⟩:=hrel;by_cases c:k<39
  .have n:=λw=>Er w k c;cases hq:(mh.words[k]?.getD []==s.toList)
   .go_wp2
    go_round
    case rel=>refine⟨k+1,PJ,PQ,λa l=>?_⟩;by_cases e:a=k;rw[e];exact hq;exact b a PJ
    case measure=>simp[intOf];omega
   go_wp2;go_ret;exact⟨by rw[mh.H8 _ k c (by rw[<-ByteArray.toList_eq];exact hq)];rfl,rfl⟩
  go_wp2;go_ret;exact⟨by rw[mh.Gw _ (λa l=>by rw[<-ByteArray.toList_eq];exact b a PJ)];rfl,rfl⟩
theorem sH(k:Nat)(x)(hx:shapes[k]?=some x)(c:1<=k)(w)(a:lH w):Calls prog 197 #[.int .u8 (k:Int)] w (kU (.tuple #[.agg #[.int .i64 (x.1:Int),.bool x.2.1,.int .i64 (x.2.2.1:Int),tx x.2.2.2],.bool true]) w):=by
 have d:k<24:=by have:=(NW.1 hx).1;rw[wY]at this;exact this
 have b:=qu a k x hx 0 _ rfl;have e:=qu a k x hx 1 _ rfl;have f:=qu a k x hx 2 _ rfl;have g:=qu a k x hx 3 _ rfl;have i:=a.lt.1;rw[NS]at b
 go_enter func197,ntmps197
 go_wp2;refine NT (v:=.tuple #[.agg #[.int .i64 (x.1:Int),.bool x.2.1,.int .i64 (x.2.2.1:Int),tx x.2.2.2],.bool true]) ?_ rfl ⟨rfl,Ba _ _⟩;simp[results,Tryz.results197,go_sem]
theorem se(g:FuncId)(C:ma g)(D:Am g)(d:Nat)(E:∀d',d=d'+1->B8 g d'):B8 g d:=by
 intro S w b o e r y m hr p s f;unfold ma at C;have F:=p.two;have G:=D S w b o d e r y m hr p s f;obtain⟨d',v,rfl,rfl,t⟩:=hr.open;obtain⟨_,I⟩:=p;obtain⟨T,c,rfl,hc⟩:=t.form;obtain⟨n,z⟩:=Xq e.args.length;rw[<-z]at t hc m F;have A:=m 3 _ rfl;have J:=(E d' rfl)
 go_enter func196,ntmps196
 go_wp2_with (refine G.M ?_;rintro e U ⟨rfl,j⟩;have K:=j;have V:=j.size;have W:=(Cb b (o+3) (j.B b s)).T A;clear j);go_loopw [15] (λi wr=>∃k:Nat,k<=n/\i=k/\Below w w wr) (λi _=>n-(intOf i).toNat);case atStart=>exact⟨0,NP _,rfl,K⟩
 case round=>
  obtain⟨k,X,rfl,a⟩:=hrel;have L:=a.size;have Y:=(Cb b (o+3) (a.B b s)).T A;by_cases Z:k<n
  .obtain⟨x,hx⟩:∃x,e.args[k]?=some x:=Gx (PH z);obtain⟨l,B,r,rfl,M,hr,N⟩:=t.kI (kz.ok .u8 d') k x hx;have O:l<w:=f l M;have P:=(J S wr l (B+k*4) x r (y.to a) ((show At w l (B+k*4) r from N).kh a O) ((kz.ok .u8 d').kg hr (λq u=>a.B q (f q u))) (I x (NH hx)) PJ (λq u=>PH (f q u)))
   have aa:(0:Int)<=(k:Int):=PJ;have ab:(k:Int)<(n:Int):=PJ;go_wp2_with fail;refine P.M ?_;rintro e ac ⟨rfl,Q⟩;have R:=(a.T (Q.M L))
   go_wp2_with fail;go_roundw;case rel=>exact⟨k+1,PJ,PQ,R⟩
   case measure=>simp[intOf];omega
  obtain rfl:k=n:=PJ;go_wp2_with fail;go_ret;exact⟨rfl,a⟩
theorem oT(g:FuncId)(an:ma g)(ao:Dw g)(S w y)(n c1:Nat)(z)(p c2:Nat)(A)(c c3:Nat)(f)(ap:lH w)(hf:qV S w y n c1 z p c2 A c c3 f)(G:pj f):
  Calls prog 126 #[.agg #[tx f.name,.slice y n c1,.slice z p c2,.slice A c c3],.func (.func g) #[] #[]] w (kU (.bool true) w):=by
 unfold ma at an;have aq:=ao;have W:=hf.kM;have X:=hf.lN;have O:=hf.ky;have hS:=hf.ln;have aX:n<=2:=by rw[<-W.len.1];exact G.zf
 have aY:p<=9:=by rw[<-X.len.1];exact G.Ee
 have aZ:c<=3:=by rw[<-O.len.1];exact G.c3
 have ba:1<=c:=by rw[<-O.len.1];exact G.c1
 have bb:=W.len.2;have bc:=X.len.2;have bd:=O.len.2;have be:=NA W.len.1;have bf:=NA X.len.1;have ar:=NA O.len.1;have Y:Below w w (w.alloc (.cells #[tx f.name,.slice y n c1,.slice z p c2,.slice A c c3] 42)):=Ba _ _;have ad:=NF w (.cells #[tx f.name,.slice y n c1,.slice z p c2,.slice A c c3] 42);have bg:(w.alloc (.cells #[tx f.name,.slice y n c1,.slice z p c2,.slice A c c3] 42)).heap.size=w+1:=PK
 have P:=(hf.kh Y)
 have au:=G;have av:=(ap.to Y)
 have bh:=NA ad;clear hS ad
 go_enter func126,ntmps126
 go_wp2_with fail;generalize w.alloc (.cells #[tx f.name,.slice y n c1,.slice z p c2,.slice A c c3] 42)=B at*;have bi:w.heap.size<B:=PJ
 have I:=NA P.ln;have bj:=P.kM;have bk:=P.lN;have aw:=P.ky;have a:=(Below.refl B B)
 go_loopw [14] (λi wr=>∃k:Nat,k<=c/\i=k/\Below B B wr) (λi _=>c-(intOf i).toNat);case atStart=>exact⟨0,NP _,rfl,a⟩
 case round=>
  obtain⟨s,bl,rfl,a⟩:=hrel;have bm:=a.size;by_cases bn:s<c
  .obtain⟨E,hx⟩:∃x,f.ky[s]?=some x:=Gx (PH ar.o);obtain⟨ae,o1,r,rfl,J,hr,d⟩:=(aw.kg (mg.ok .u8) (λq b=>a.B q (I.o q b))).kI (mg.ok .u8) s E hx;obtain⟨af,ax,rfl,j,F⟩:=hr;obtain⟨ay,cv,rfl,hcv⟩:=j.form;obtain⟨az,aA,rfl,hce⟩:=F.form;have aB:=d 0 _ rfl;have aC:=d 1 _ rfl;have aD:=d 2 _ rfl;rw[NS]at aB;have bo:ae<wr:=PH (I.o ae J);have aE:=NH hx;have bp:(0:Int)<=(s:Int):=PJ;have bq:(s:Int)<(c:Int):=PJ;clear d hx;have Q:=au.ky E aE;obtain⟨ag,R⟩:=Xq E.vars.length;obtain⟨m,K⟩:=Xq E.kY.length;rw[<-R]at aC j hcv;rw[<-K]at aD F hce;have br:ag<=5:=(by rw[R];exact Q.B0);have bs:m<=2:=(by rw[K];exact Q.v2);have bt:1<=m:=(by rw[K];exact Q.v1);have bu:=NA R.symm;have aF:=NA K.symm;obtain⟨C,L⟩:=Xq (wr.alloc (.cells #[tx E.name,.slice ay ag cv,.slice az m aA] 105));have bv:C.heap.size=wr+1:=(by rw[L];simp);have ah:=(show Below B B C by rw[L];exact a.alloc PJ _)
   have ai:wr.grownBy C none:=(by rw[L];exact NN _ _ none);have bw:=(j.kg (nJ.ok .u8) (w':=C) (λq b=>ai.B q (PH (I.o q b)) PK))
   have aG:=(F.kg (mB.ok .u8) (w':=C) (λq b=>ai.B q (PH (I.o q b)) PK))
   have T:=NA (show∀q,S q->q<C from λq b=>PH (I.o q b));clear R K;have aH:=(av.to ah)
   go_wp2_with fail;rw[<-L];clear L;have a:=(Below.refl C C)
   go_loopw [21] (λi wr=>∃k:Nat,k<=m/\i=k/\Below C C wr) (λi _=>m-(intOf i).toNat);case atStart=>exact⟨0,NP _,rfl,a⟩
   case round=>
    obtain⟨t,bx,rfl,a⟩:=hrel;have a:=a;have bz:=a.size;by_cases bA:t<m
    .obtain⟨U,hx⟩:∃x,E.kY[t]?=some x:=Gx (PH aF.o);obtain⟨aj,o2,r,rfl,J,hr,d⟩:=(aG.kg (mB.ok .u8) (λq b=>a.B q (T.o q b))).kI (mB.ok .u8) t U hx;obtain⟨af,rfl,j⟩:=hr;obtain⟨aI,aJ,rfl,aK⟩:=j.form;have ak:=d 0 _ rfl;rw[NS,Og]at ak;have bB:aj<wr:=PH (T.o aj J);have aL:=NH hx;have bC:(0:Int)<=(t:Int):=PJ;have bD:(t:Int)<(m:Int):=PJ;clear d hx;have V:=Q.kY U aL;obtain⟨u,Z⟩:=Xq U.length;rw[<-Z]at ak j aK V;have bE:u<=3:=V.1;have aM:=NA V;have aN:=NA Z.symm;obtain⟨D,M⟩:=Xq (wr.alloc (.cells #[.slice aI u aJ] 111));have bF:D.heap.size=wr+1:=(by rw[M];simp);have aO:wr.grownBy D none:=(by rw[M];exact NN _ _ none);have al:=(show Below C C D by rw[M];exact a.alloc PJ _)
     have aP:=(j.kg (mo.ok .u8) (w':=D) (λq b=>aO.B q (PH (T.o q b)) PK))
     have N:=NA (show∀q,S q->q<D from λq b=>PH (T.o q b));have aQ:=(aH.to al)
     clear V Z;go_wp2_with fail;rw[<-M];clear M;have a:=(Below.refl D D)
     go_loopw [28] (λi wr=>∃k:Nat,k<=u/\i=k/\Below D D wr) (λi _=>u-(intOf i).toNat);case atStart=>exact⟨0,NP _,rfl,a⟩
     case round=>
      obtain⟨v,bG,rfl,a⟩:=hrel;have a:=a;have bH:=a.size;by_cases bI:v<u
      .obtain⟨l,hx⟩:∃x,U[v]?=some x:=Gx (PH aN.o);obtain⟨am,bJ,r,rfl,J,hr,d⟩:=(aP.kg (mo.ok .u8) (λq b=>a.B q (N.o q b))).kI (mo.ok .u8) v l hx;obtain⟨af,ax,rfl,j,F⟩:=hr;obtain⟨aa,ab,rfl,bK⟩:=j.form;obtain⟨ac,cb,rfl,bL⟩:=F.form;have aR:=d 0 _ rfl;have bM:=d 1 _ rfl;have bN:=d 2 _ rfl;rw[NS]at aR;have bO:am<wr:=PH (N.o am J);have aS:=NH hx;have bP:(0:Int)<=(v:Int):=PJ;have bQ:(v:Int)<(u:Int):=PJ;clear d hx;have aT:=aM.o.2 l aS;have aU:=(aq S (wr.alloc (.cells #[tx l.name,.slice aa l.params.length ab,.slice ac l.body.length cb] 118)) aa _ ab ac _ cb l (aQ.to (a.alloc PJ _)) (j.kg kA.ok (λq b=>N6 _ _ (PH (N.o q b)))) (F.kg (kE.ok .u8 _) (λq b=>N6 _ _ (PH (N.o q b)))) aT (λq b=>by rw[NB];have:=N.o q b;omega))
       have aV:=(a.alloc PJ (.cells #[tx l.name,.slice aa l.params.length ab,.slice ac l.body.length cb] 118))
       go_wp2_with fail;refine aU.M ?_;rintro e bR ⟨rfl,aW⟩;have a:=(aV.T (aW.M (by rw[NB];omega)))
       go_wp2_with fail;go_roundw;case rel=>exact⟨v+1,PJ,PQ,a⟩
       case measure=>simp[intOf];omega
      obtain rfl:u=v:=PJ;have a:=(al.T (a.M PJ))
      go_wp2_with fail;go_roundw;case rel=>exact⟨t+1,PJ,PQ,a⟩
      case measure=>simp[intOf];omega
    obtain rfl:m=t:=PJ;have a:=(ah.T (a.M PJ))
    go_wp2_with fail;go_roundw;case rel=>exact⟨s+1,PJ,PQ,a⟩
    case measure=>simp[intOf];omega
  obtain rfl:c=s:=PJ;go_wp2_with fail;go_ret;exact⟨rfl,Y.T (a.M PJ)⟩
theorem qD(S w y)(n c:Nat)(xs)(name:List UInt8)(A:km (mg .u8) S w (.slice y n c) xs)(ae:n<=1000)(hS:∀q,S q->q<w):
  Calls prog 138 #[.slice y n c,tx name] w (yF (uG S w) MG (xs.find? λx=>x.name==name) w):=by
 have l:=A.len;have hc:=l.2;have af:=mL name;have M:Below w w (w.alloc (.cells #[Em,Nl,Nl] 105)):=Ba _ _;have C:=NF w (.cells #[Em,Nl,Nl] 105);have N:(w.alloc (.cells #[Em,Nl,Nl] 105)).heap.size=w+1:=PK
 have D:=NA l.1;have O:=A;have P:=hS;have E:=NA C;clear hS l C
 go_enter func138,ntmps138
 go_wp2_with fail;obtain⟨z,hz⟩:=Xq w.heap.size;rw[<-hz]at E N⊢;have b:w<=z:=PJ
 generalize w.alloc (.cells #[Em,Nl,Nl] 105)=B at*;have Q:z<B:=PJ
 clear hz;go_loopw [10] (λi wr=>∃k:Nat,k<=n/\i=k/\(xs.take k).find? (λx=>x.name==name)=none/\Below B B wr) (λi _=>n-(intOf i).toNat);case atStart=>exact⟨0,NP _,rfl,PK,Below.refl _ _⟩
 case round=>
  obtain⟨k,ag,rfl,F,d⟩:=hrel;have G:=NA F;have ah:=d.size;obtain⟨⟨m,p,s⟩,⟨R,T,U⟩⟩:=kS ((d.B z Q).T E.o);have V:z<wr:=PJ;have t:=(M.T (d.M PJ))
  clear F;by_cases ai:k<n
  .obtain⟨x,hx⟩:∃x,xs[k]?=some x:=Gx (PH D.o);obtain⟨e,W,r,rfl,X,⟨aj,ak,rfl,I,J⟩,K⟩:=O.kI (mg.ok .u8) k x hx;obtain⟨f,cv,rfl,_⟩:=I.form;obtain⟨g,j,rfl,_⟩:=J.form;have Y:e<w:=P e X;have Z:At w e (W+k*3) [tx x.name,.slice f x.vars.length cv,.slice g x.kY.length j]:=K;have u:=Z.kh t Y;have aa:=u 0 _ rfl;have al:=u 1 _ rfl;have am:=u 2 _ rfl;rw[NS]at aa;have an:e<wr:=PJ;have ao:(0:Int)<=(k:Int):=PJ;have ap:(k:Int)<(n:Int):=PJ;have aq:=mL x.name;have L:=(uS G.o hx)
   have ab:uG S w x (.agg #[tx x.name,.slice f x.vars.length cv,.slice g x.kY.length j]):=⟨_,_,_,_,_,_,rfl,I,J⟩
   have ac:=(d.alloc PJ (.cells #[tx x.name,.slice f x.vars.length cv,.slice g x.kY.length j] 105))
   clear K hx;cases hq:(x.name==name)
   .have hf:=L.2 hq;clear m p s R T U;go_wp2_with fail;go_roundw;case rel=>exact⟨k+1,PJ,PQ,hf,ac⟩
    case measure=>simp[intOf];omega
   have hf:=L.1 hq;go_wp2_with fail;refine NT (v:=.tuple #[.agg #[tx x.name,.slice f x.vars.length cv,.slice g x.kY.length j],.bool true]) ?_ rfl ⟨λad a=>⟨_,rfl,by rw[hf]at a;injection a with a;rw[<-a];exact ab⟩,λhn=>(by rw[hf]at hn;cases hn),(kq (kq (kq t b) b) b).alloc P0 _⟩;simp[results,Tryz.results138,go_sem,m,p,s,V,O5]
  obtain rfl:n=k:=PJ;have hf:=G.o;rw[NV (PH D.o)]at hf;go_wp2_with fail;refine NT (v:=.tuple #[.agg #[Em,Nl,Nl],.bool false]) ?_ rfl ⟨λad a=>by rw[hf]at a;(cases a),λ_=>rfl,kq (kq (kq t b) b) b⟩;simp[results,Tryz.results138,go_sem,m,p,s]
theorem tL(cb:Nat)(a b c d w name)(h:tW cb a b c d w):Calls prog 86 #[.pointer (some ⟨cb,0,none⟩),.int .i64 0,.string name] w λe w'=>e=.returned (.bool true)/\w=w':=by
 obtain⟨f,h⟩:=h;have g:=kf h 7 _ rfl
 go_enter func86,ntmps86
 go_wp2;go_ret;exact⟨rfl,rfl⟩
theorem lG(cb:Nat)(a b c d w)(f:Int)(name)(h:tW cb a b c d w):Calls prog 136 #[.pointer (some ⟨cb,0,none⟩),.bool true,f,.string name] w λe w'=>e=.returned (.bool true)/\w=w':=by
 have H:=(tL cb a b c d w name h)
 go_enter func136,ntmps136
 go_wp2_with fail;refine H.M ?_;rintro e g ⟨rfl,rfl⟩;go_wp2_with fail;go_ret;exact⟨rfl,rfl⟩
theorem nG.set{X w}{q i:Nat}{u}(a:X q):nG X w (w.setCell ⟨q,i,none⟩ u):=⟨rfl,rfl,rfl,by simp[World.setCell],λk b hx=>N1 _ _ _ _ (by intro e;exact hx (e▸a))⟩
theorem nb.set{T w}{b n:Nat}(h:nb T w b n)(i:Nat){u}(hu:u.oneCell'=true):nb T (w.setCell ⟨b,i,none⟩ u) b n:=by obtain⟨a,c,d,e⟩:=h;refine⟨a.setIfInBounds i u,ki c,by simpa using d,λx hx=>?_⟩;rw[Array.toList_setIfInBounds]at hx;rcases List.mem_or_eq_of_mem_set hx with hx|hx;exact e x hx;rw[hx];exact hu
def pg(T:TypeId)(b x:World)(V:Value)(n:Nat):Prop:=∃a:List Unit,kx (xM 1) T 1 (λ_=>False) x b V a/\a.length<=n
theorem pg.up{T a x V}{n m:Nat}(h:pg T a x V n)(hm:n<=m):pg T a x V m:=by obtain⟨b,c,d⟩:=h;exact⟨b,c,NR d hm⟩
end Go.Proofs.YtfemcncookpdhaaGreatDoor
namespace lX
theorem wH(a:Nat)(c:a=1\/a=2)(t:Int):∀(b:List In) (i:Nat) (x:In),b[i]?=some x->((b.map vM).flatten).set (i*4+a) (.int .i64 t)=((b.set i (x.put a t)).map vM).flatten
 |[],i,x,h=>by simp at h
 |y::ys,0,x,h=>by simp only[List.getElem?_cons_zero,Option.some.injEq]at h;subst h;rcases c with rfl|rfl<;>simp[vM,In.put]
 |y::ys,i+1,x,h=>by have d:=wH a c t ys i x (by simpa using h);rw[List.map_cons,List.flatten_cons,List.set_append_right _ _ (by show 4<=_;omega),show(i+1)*4+a-(vM y).length=i*4+a by show(i+1)*4+a-4=_;omega,d];rfl
theorem F7{a:List Co}(g:a.length<=3)(hn:∀i c,a[i]?=some c->c.name=kB i){i:Nat}{c:Co}(hc:a[i]?=some c):(a.find? λx=>x.name==kB i)=some c:=by
 cases hf:a.find? λx=>x.name==kB i with
 |none=>rw[List.find?_eq_none]at hf;exact absurd (by rw[hn i c hc];simp) (hf c (List.mem_of_getElem? hc))
 |some x=>have b:=List.find?_some hf;obtain⟨f,d⟩:=List.getElem?_of_mem (List.mem_of_find?_eq_some hf);rw[hn f x d]at b;simp only[beq_iff_eq]at b;have j:=(List.getElem?_eq_some_iff.1 d).1;have k:=(List.getElem?_eq_some_iff.1 hc).1;have e:=sG PJ PJ b;subst e;rw[d]at hc;exact hc
theorem EI(l)(i:Nat)(x:Int):(px l).setIfInBounds i (.int .i64 x)=px (l.set i x):=by simp[px]
end lX
namespace Go.Proofs.YtfemcncookpdhaaGreatDoor
open Go.RowKit lX Go.Proofs.Tryz
theorem lO.ins{l}{cb:Nat}{n p r s hd own v y z params V}{c:List In}{w}(h:lO l cb n p r s hd own v y z params V c w){i:Nat}{x:In}(hi:c[i]?=some x):
  ∃g f,V=.slice (some ⟨g,0,none⟩) c.length f/\l<=g/\g<w/\(∀(a:Nat) u,(vM x)[a]?=some u->w.cell? ⟨g,i*4+a,none⟩=some u/\w.frozen? ⟨g,i*4+a,none⟩=false)/\
   ∀a,a=1\/a=2->∀t:Int,lO l cb n p r s hd own v y z params V (c.set i (x.put a t)) (w.setCell ⟨g,i*4+a,none⟩ (.int .i64 t))/\mX cb V w V (w.setCell ⟨g,i*4+a,none⟩ (.int .i64 t)):=by
 obtain⟨P,⟨E,j⟩,F⟩:=h.own.own;have hr:=DK F;subst hr;have Q:=(NW.1 hi).1;rcases j with⟨_,R⟩|⟨g,f,A,m,B,k,G,I,J,C⟩
 .omega
 .have K:=(NC.1 k).1;refine⟨g,f,m,B,K,λa u hu=>?_,λa D t=>?_⟩;have d:=H9 c i x hi a u hu;rw[<-C]at d;have L:A[i*4+a]?=some u:=by rw[OJ]at d;split at d;simpa using d;cases d
  exact⟨kf k _ _ L,ko k _⟩;have M:=h.lt;have N:cb≠g:=PJ;refine⟨⟨⟨h.g.os,h.g.tape,h.g.output,by rw[NM];exact h.g.size,λq O hx=>(N1 _ _ _ _ (by show q≠g;omega)).T (h.g.B q O hx)⟩,(N1 _ _ _ _ N).T h.c,⟨(c.set i (x.put a t)).map vM,⟨?_,.inr ⟨g,f,A.setIfInBounds (i*4+a) (.int .i64 t),?_,B,ki k,?_,I,by simpa using J,?_⟩⟩,DL _⟩,M⟩,⟨by rw[NM];exact NQ _,λb S _ j=>⟨N1 _ _ _ _ (λe=>j (by rw[m,e];rfl)),j⟩⟩⟩;rw[<-wH a D t c i x hi,PE,PE];exact E;rw[m,PE];rw[PE];exact G;rw[<-wH a D t c i x hi,PE,Array.toList_setIfInBounds,<-C,List.take_set]
end Go.Proofs.YtfemcncookpdhaaGreatDoor
