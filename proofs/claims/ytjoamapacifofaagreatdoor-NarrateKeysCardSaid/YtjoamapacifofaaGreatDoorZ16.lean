import Derived.Test.YtjoamapacifofaaGreatDoorZ9
import Derived.Test.YtjoamapacifofaaGreatDoorZ10
import Derived.Test.YtjoamapacifofaaGreatDoorZ11
import Derived.Test.YtjoamapacifofaaGreatDoorZ12
set_option maxRecDepth 1000000
set_option maxHeartbeats 32000000
set_option linter.all false
namespace Go.Proofs.YtjoamapacifofaaGreatDoor
open RowKit Go.Proofs.Tryz kT Maps nu pG ChangeShapes WideShapes ChangeAt
def rV(S w b)(c c1:Nat)(d)(g c2:Nat)(i)(j c3:Nat)(f)(hL:ln w)(hf:oY S w b c c1 d g c2 i j c3 f)(hg:mh f):
  Calls prog 44 #[.agg (kb f.name b c c1 d g c2 i j c3)] w (kd (.int .i64 0) w):=by
 have k:Below w w (w.alloc (.cells (kb f.name b c c1 d g c2 i j c3) 60)):=Ba _ _;have p:=O2 w (.cells (kb f.name b c c1 d g c2 i j c3) 60);have y:(w.alloc (.cells (kb f.name b c c1 d g c2 i j c3) 60)).heap.size=w+1:=SG
 have l:=(hf.jQ k)
 have m:=hg;have n:=(hL.to k)
 go_enter func44,ntmps44
 go_wp21;generalize w.alloc (.cells (kb f.name b c c1 d g c2 i j c3) 60)=B at*;have q:w.heap.size<B:=SE
 apply(EH S B b c c1 d g c2 i j c3 f n l m).M;rintro e r ⟨rfl,a⟩;generalize r=wr at*;obtain⟨⟨s,t,u,v⟩,_⟩:=kn ((a.B _ q).T p)
 go_wp21;apply(EG S wr b c c1 d g c2 i j c3 f (n.to a) (l.jQ a) m).M;rintro e x ⟨rfl,hb⟩;have a:=(a.T (hb.M a.size))
 generalize wr=z at*;generalize x=wr at*;obtain⟨⟨s,t,u,v⟩,_⟩:=kn ((a.B _ q).T p)
 go_wp21;apply(CF S wr b c c1 d g c2 i j c3 f (n.to a) (l.jQ a) m).M;rintro e A ⟨rfl,hb⟩;have a:=(a.T (hb.M a.size))
 go_wp21;go_ret;exact⟨rfl,k.T (a.M SE)⟩
def xt.app{f wr}{cb pb:Nat}{P j k l m hd V xs x g}(h:xt f wr cb pb P j k l m hd V xs x)(hg:x.grownBy g V.ownBlock)(n:kf BZ 164 3 P g f V xs):xt f wr cb pb P j k l m hd V xs g:=by
 obtain⟨r,s,t⟩:=h.lt;obtain⟨a,b,c,d,e,p,q,hc⟩:=h.c;have i:∀z,z<f.heap.size->¬some z=V.ownBlock:=λz hz e=>SC ((h.v z e.symm).1)
 exact⟨⟨hg.os.T h.g.os,hg.tape.T h.g.tape,hg.output.T h.g.output,Pj h.g.size hg.size,λz hz hn=>(hg.B z (O1 hz h.g.size) (i z hz)).T (h.g.B z hz hn)⟩,⟨a,b,c,d,e,p,q,(hg.B cb (O3.1 hc).1 (i _ r)).T hc⟩,(hg.B pb (O3.1 h.p).1 (i _ s)).T h.p,n,Pj h.s hg.size,h.v,h.ws,h.lt,h.np⟩
def CT(B b:Nat)(n:Int)(l w)(h:rf B b n l w)(d:l≠[]):
  Calls prog 58 #[.pointer b] w λe w'=>e=.returned (tx l)/\Below B w w':=by
 obtain⟨p,t,v,i,f⟩:=h.any;have j:l.length≠0:=by simpa using d
 obtain⟨g,a,c,rfl,k,hg,u,m,y,z⟩:∃g a c,v=.slice (some ⟨g,0,none⟩) l.length a/\B<=g/\w.heap[g]?=some (.cells c 5 (0,0))/\l.length<=a/\a<=maxLen/\c.size=a*1/\c.toList.take (l.length*1)=Lib.byteCells l:=by
  rcases f.2 with⟨_,hz⟩|⟨g,a,c,hv,r⟩
  exact absurd hz j;exact⟨g,a,c,hv,r⟩
 have c1:w.drew.cell? ⟨b,1,none⟩=some (.slice (some ⟨g,0,none⟩) l.length a):=jU (w:=w.drew) i 1 _ rfl;have A:(Builtin.unsafeSliceData_ #[22] 233 #[.slice (some ⟨g,0,none⟩) l.length a]).run prog w.drew=.ok (.pointer (some ⟨g,0,none⟩)) w.drew:=
  RL _ _ _ _ _ _ SE
 have C:(Builtin.unsafeString_ #[233,3] 9 #[.pointer (some ⟨g,0,none⟩),l.length]).run prog w.drew=.ok (.string ⟨l.toArray⟩) (w.drew.freeze ⟨g,0,none⟩ l.length):=by refine Lib.run_unsafeString_row w.drew 233 3 9 5 SH SH g c.size (by have q:w.drew.heap[g]?=some (.cells c 5 (0,0)):=hg;simp[World.shape?,q]) l d SE (by unfold maxLen at m;omega) ?_;intro s x hx;exact f.cells (g:=g) rfl s (.int .u8 x.toNat) (by simp[Lib.byteCells,hx])
 go_enter func58,ntmps58
 go_wp2
 go_region
 all_goals (go_wp2;go_ret;exact⟨rfl,Lib.below_freeze (Below.drew (Below.refl B w)) (p:=⟨g,0,none⟩) k _⟩)
def nO.ind{B b k:Nat}{n m:Int}{w}(h:nO B b n k w):nO B b m k (w.setCell ⟨b,2,none⟩ (.int .i64 m)):=by
 obtain⟨l,h,d⟩:=h;refine⟨l,?_,d⟩;rcases h with⟨a,v,hb,c⟩|⟨a,v,hb,c⟩
 exact .inl (sw.set a hb rfl c);exact .inr (sw.set a hb rfl c)
def sy.get{w}{b n:Nat}(h:sy w b n){i:Nat}(hi:i<n):(∃s:ByteArray,s.size<=2520/\w.cell? ⟨b,i,none⟩=some (.string s))/\w.frozen? ⟨b,i,none⟩=false:=by obtain⟨c,d,e,a⟩:=h;exact⟨⟨c[i],e _ (Q9 _),jU a i _ (by simp[d,hi])⟩,jS a i⟩
def BB:Ab 0:=by
 intro S B b n k w A m c l hL p a f hg hm hF hn q;have g:l=[]:=by
  cases l with
  |nil=>rfl
  |cons s l=>exact((hg s (Qs ..)).1).elim
 subst g;obtain rfl:0=m:=f.len.1;have d:=a.lt;obtain⟨r,t⟩:=a.cell;obtain⟨u,v⟩:=Ck n SE
 go_enter func149,ntmps149
 go_wp2;go_loopw [15] (λi wr=>i=.int .i64 0/\nO B b ((n+1:Nat):Int) k wr/\kB B b w wr) (λ_ _=>0)
 .exact⟨rfl,a.ind,kB.set d.1⟩
 obtain⟨rfl,e,j⟩:=hrel;obtain⟨x,y⟩:=e.cell;go_wp2
 go_end0
 exact⟨rfl,e.ind,j.T (kB.set d.1)⟩
def BC(d:Nat)(am:JU d):Ab (d+1):=by
 intro S B b n k w A m c l an T z U hg hm u hn ao;have ap:=O0 U.len.1;have V:=z.lt;obtain⟨aq,ar⟩:=z.cell;have au:=O0 hg;obtain⟨aI,aJ⟩:=Ck n SE;obtain⟨P,C⟩:=Xq (3+2*xq d);have W:xq (d+1)=12*P:=by rw[C];rfl
 rw[W]at ao⊢;have X:=O0 C;have aK:m*P<=12*P:=Qn _ hm;clear hg C W
 go_enter func149,ntmps149
 go_wp21;go_loopw [15] (λi wr=>∃a p:Nat,a<=m/\p=k+a*P/\i=a/\nO B b ((n+1:Nat):Int) p wr/\kB B b w wr) (λi _=>m-(intOf i).toNat)
 .exact⟨0,k,Pb _,SG,rfl,z.ind,kB.set V.1⟩
 obtain⟨a,p,aL,Y,rfl,x,y⟩:=hrel;have aM:=y.size;obtain⟨av,aw⟩:=x.cell;have aN:=x.lt;have Z:=O0 Y;clear aq ar Y;by_cases aO:a<m
 .obtain⟨s,hs⟩:∃s,l[a]?=some s:=Gx (SC ap.o);have aa:=u.eq y;obtain⟨aP,aQ,r,rfl,aR,hr,t⟩:=(U.jP (kp.ok .u8 _) aa).kt (kp.ok .u8 _) a s hs;obtain⟨v1,v2,aS,rfl,D,E,F⟩:=hr;obtain⟨G,c1,rfl,_⟩:=D.form;obtain⟨I,c4,rfl,_⟩:=E.form;obtain⟨J,c5,rfl,_⟩:=F.form;have K:=t 0 _ rfl;have ab:=t 1 _ rfl;have ac:=t 2 _ rfl;have ad:=t 3 _ rfl;have ae:=t 4 _ rfl;have af:=t 5 _ rfl;rw[Pc]at K;obtain⟨L,ag⟩:=Xq s.kA.length;obtain⟨M,ah⟩:=Xq s.th.length;obtain⟨N,ai⟩:=Xq s.el.length;rw[<-ag]at D ad;rw[<-ah]at E ae;rw[<-ai]at F af;obtain⟨ax,ay⟩:=au.o s (O5 hs);have O:=O0 (And.intro D (And.intro E F));have aj:=O0 (And.intro ax ay);obtain⟨aT,aU⟩:=mG a m;obtain⟨az,f⟩:=Xq s.kind;obtain⟨aA,g⟩:=Xq s.name;obtain⟨aB,j⟩:=Xq s.hd;rw[<-f]at K;rw[<-g]at ab;rw[<-j]at ac;have aC:=O0 (And.intro f (And.intro g j));have aD:=Ba wr (lk az aA aB G L c1 I M c4 J N c5);have Q:=(y.T (kB.old (b:=b) (show B<=wr from SE) aD))
  have aV:(a+1)*P<=12*P:=Qn _ SE;have ak:p+P=k+(a+1)*P:=(by rw[Z.o,Sx];omega);have aE:=O0 ak;have R:p+P<=90000000:=SE;clear t hs ag ah ai f g j aa av aw ak;go_wp21;obtain⟨f,g,j⟩:=aC.o;rw[f,g,j];refine(am S B b (n+1) p (wr.alloc (lk s.kind s.name s.hd G L c1 I M c4 J N c5)) s G L c1 I M c4 J N c5 (by have:=an.wr Q T;rw[f,g,j]at this;exact this) T (x.jP (Ba _ _)) ?_ ?_ ?_ aj.o.1 aj.o.2 ?_ SE (by rw[<-X.o];exact R)).M ?_;case refine_1=>exact O.o.1.jP (ko.ok .u8 _) (λq v=>P3 _ _ _ (SC (u.lt q v)))
  case refine_2=>exact O.o.2.1.jP (kp.ok .u8 _) (λq v=>P3 _ _ _ (SC (u.lt q v)))
  case refine_3=>exact O.o.2.2.jP (kp.ok .u8 _) (λq v=>P3 _ _ _ (SC (u.lt q v)))
  case refine_4=>have:=u.to Q;rw[f,g,j]at this;exact this
  rintro e aF ⟨rfl,al,aG⟩;rw[<-X.o]at al;have aH:kB B b w aF:=(by have:=Q;rw[f,g,j]at this;exact this.T aG);clear f g j K ab ac ad ae af;go_wp21;go_roundw
  .exact⟨a+1,p+P,SE,aE.o,SJ,al,aH⟩
  simp[intOf];omega
 obtain rfl:m=a:=SE;have R:p<=k+12*P:=(by rw[Z.o];omega);go_wp21
 go_end0
 exact⟨rfl,(x.ind).up R,y.T (kB.set V.1)⟩
def E0(d:Nat)(aU:Ab d)(bu:JT d):JU d:=by
 intro S B b n k w s ao j c1 ae ab c4 T N c5 hL bv aV he aW aX hg hm hF hn ac;obtain⟨⟨x,cx,hx,bw,bx,bz,bA,cy,cz,_,_⟩,bB,⟨cA,cB⟩,bC,bD⟩:=hg;obtain⟨bE,bF,bG⟩:=hm;have aY:∀l:List UInt8,mm l=true->l.length<=12:=λl z=>by unfold mm at z;simp only[Qh,QW]at z;omega
 have ax:(⟨s.name.toArray⟩:ByteArray).size<=12:=by rw[nK];cases Y:x.1 with|true=>exact aY _ (bw Y)|false=>rw[bx Y];simp
 have aQ:(⟨s.hd.toArray⟩:ByteArray).size<=12:=by rw[nK];cases Y:x.2.1 with|true=>exact aY _ (bz Y)|false=>rw[bA Y];simp
 obtain⟨C,bH⟩:∃q:Nat,q=s.kind.toNat:=⟨_,rfl⟩
 have bI:s.kind=(C:Int):=SE
 rw[<-bH]at hx;have ef:1<=C:=SE
 have eg:C<=10:=by have:=(Pm.1 hx).1;rw[um]at this;omega
 have bJ:=he.len;have cC:=aW.len;have cD:=aX.len;have bK:j<=5:=SC (wG x (O5 hx))
 obtain⟨bL,bM⟩:=EZ C x hx;have bN:(C=1\/C=3\/C=4\/C=5\/C=7\/C=9)->1<=j:=λh=>SC (bL h)
 have bO:(C=2\/C=8)->2<=j:=λh=>SC (bM h)
 have bP:ab<=12:=SE
 have aZ:N<=12:=SE
 have eh:=aV.lt;have ba:=O0 hL;have ap:=O0 bv;have bQ:=O0 aV;have bR:=O0 he;have bS:=O0 aW;have bT:=O0 aX;have ay:=O0 hF;have cE:=O0 bJ.1;have ak:=O0 (And.intro bN bO);have cF:=O0 (show∀e∈s.kA,lT De e/\Ic De e from λe h=>⟨bB e h,bE e h⟩);have bU:=O0 (show∀x∈s.th,mV d x/\Ed d x from λe h=>⟨bC e h,bF e h⟩);have bb:=O0 (show∀x∈s.el,mV d x/\Ed d x from λe h=>⟨bD e h,bG e h⟩);have ei:3+2*xq d<=90000000:=SE
 obtain⟨nm,bc⟩:=Xq s.name;obtain⟨hd,bd⟩:=Xq s.hd;rw[bI,<-bc,<-bd];rw[<-bc]at ax;rw[<-bd]at aQ;clear hL bv aV he aW aX hF bB bE bC bF bD bG hx cx bw bx bz bA cy cz cA cB aY bH bI bJ cC cD bL bM bc bd bN bO;have az:=Ba w (ph C nm hd ao j c1 ae ab c4 T N c5);have be:=Below.alloc (Below.refl (w.alloc (ph C nm hd ao j c1 ae ab c4 T N c5)).heap.size (w.alloc (ph C nm hd ao j c1 ae ab c4 T N c5))) (O9 _) (wi j);have bV:(w.alloc (ph C nm hd ao j c1 ae ab c4 T N c5)).heap.size=w+1:=SG
 have bW:=O0 (az.T (be.M SE));have E:=O0 ((be.B w SE).T (O2 w (ph C nm hd ao j c1 ae ab c4 T N c5)));have M:=O0 (show sy ((w.alloc (ph C nm hd ao j c1 ae ab c4 T N c5)).alloc (wi j)) (w+1) j from .made (by have:=O2 (w.alloc (ph C nm hd ao j c1 ae ab c4 T N c5)) (wi j);rw[bV]at this;exact this));clear az be bV;have cG:=EW j SE
 go_enter func191,ntmps191
 go_upto_region 2 with fail;clear cG;generalize(w.alloc (ph C nm hd ao j c1 ae ab c4 T N c5)).alloc (wi j)=ej at*;obtain⟨f,bf⟩:=Xq w.heap.size;rw[<-bf]at E M⊢;have cH:=O0 bf;have ek:b<f:=SE
 have el:B<=f:=SE
 clear bf;have bg:=jN E.o 3;go_wp21;clear bg;go_loopw [14] (λi wr=>∃O:Nat,O<=j/\i=O/\sy wr (f+1) j/\Below w w wr/\wr.heap[f]?=some (ph C nm hd ao j c1 ae ab c4 T N c5)) (λi _=>j-(intOf i).toNat)
 .exact⟨0,Pb _,rfl,M.o,bW.o,E.o⟩
 clear M bW E;obtain⟨O,em,rfl,aq,hb,bX⟩:=hrel;have M:=O0 aq;have aB:=O0 hb;have E:=O0 bX;have af:=aq.lt;have cI:=hb.size;clear aq hb bX;by_cases cJ:O<j
 .obtain⟨e,he⟩:∃e,s.kA[O]?=some e:=Gx (SC cE.o);obtain⟨ar,aR,r,rfl,bY,hr,aC⟩:=bR.o.kt (ko.ok .u8 De) O e he;obtain⟨cK,v,cL,rfl,hv⟩:=hr.open;obtain⟨aD,aE,rfl,_⟩:=hv.form;have cM:=ay.o.lt ar bY;have aF:wr.heap[ar]?=w.heap[ar]?:=aB.o.B ar cM;have bZ:=(Cb ar (aR+O*4+0) aF).T (aC 0 _ rfl);have cN:=(Cb ar (aR+O*4+1) aF).T (aC 1 _ rfl);have cO:=(Cb ar (aR+O*4+2) aF).T (aC 2 _ rfl);have ca:=(Cb ar (aR+O*4+3) aF).T (aC 3 _ rfl);rw[Pc]at bZ;have cb:=O0 (cF.o e (O5 he));have cc:=O0 hv;obtain⟨aG,cd⟩:=Xq e.args.length;rw[<-cd]at cc ca;obtain⟨en,eo⟩:=mG O j;clear aC hr bY he hv aF cL cd;have az:=Ba wr (la e.op e.name e.n aD aG aE);have bh:=O0 (aB.o.T (az.M cI));have bi:=O0 az;have aq:(wr.alloc (la e.op e.name e.n aD aG aE)).heap.size=wr+1:=SG;have ce:=O0 (O2 wr (la e.op e.name e.n aD aG aE));have cf:=O0 aq;clear az aq;go_upto_region 5 with fail;have aq:=cf.o;obtain⟨bj,cg⟩:=Xq wr.heap.size;rw[<-cg]at ce bi aq⊢;generalize wr.alloc (la e.op e.name e.n aD aG aE)=cP at*;obtain⟨⟨Z,cQ,cR,bg⟩,_⟩:=kn ce.o;have cS:f+1<bj/\f<bj:=SE;have ep:w<=bj:=SE;clear bZ cN cO ca cg cf;go_wp21;refine(wb De SF S cP e cK aD aG aE (ba.o.to bh.o) (cc.o.jP (ko.ok .u8 _) (λq Y=>bh.o.B q (ay.o.lt q Y))) cb.o.1 cb.o.2 (λq Y=>SC (ay.o.lt q Y))).M ?_;rintro cT eq ⟨U,rfl,J,D⟩;have aa:=D.size;have cU:U.size<=2520:=Pj J (Ge SF);have ch:=O0 ((M.o.jP (bi.o.B (f+1) cS.1)).jP (D.B (f+1) SE));obtain⟨⟨_,_,er⟩,es⟩:=ch.o.get (i:=O) cJ;have cV:=O0 (bh.o.T (D.M SE));have ci:=O0 ((D.B f SE).T ((bi.o.B f SE).T E.o));clear D J Z cQ cR bg;go_wp21;go_roundw
  .exact⟨O+1,SE,SJ,ch.o.set O cU,cV.o.setCell (p:=⟨f+1,O,none⟩) (by have:=cH.o;show w<=f+1;omega) _,(Po _ _ _ _ (by show f≠f+1;omega)).T ci.o⟩
  simp[intOf];omega
 obtain rfl:j=O:=SE;have al:B<=wr:=SE;have V:=O0 (show kB B b w wr from kB.old SE aB.o);have ag:=O0 (bQ.o.jP aB.o);have aH:=O0 (ba.o.to aB.o);have am:=O0 (ay.o.to V.o);have bk:=ay.o.eq V.o;have cj:=O0 (bS.o.jP (kp.ok .u8 _) bk);have bl:=O0 (bT.o.jP (kp.ok .u8 _) bk);have et:b<wr:=SE;have an:f<wr:=SE;have au:f≠b:=SE;clear bk bR bS bT ay ba bQ;have Z:=jN E.o 0;have cW:C=1\/C=2\/C=3\/C=4\/C=5\/C=6\/C=7\/C=8\/C=9\/C=10:=SE;rcases cW with rfl|rfl|rfl|rfl|rfl|rfl|rfl|rfl|rfl|rfl
 .have av:0<j:=SC (ak.o.1 SE);go_wp21;clear Z;refine Dr 7 (λP=>cond P (λx=>nO B b (n:Int) (k+1) x/\kB B b wr x) (λx=>Below wr wr x)) (mi [(·=.pointer b),(Pp f 1),Tr,(·=.slice (some ⟨f+1,0,none⟩) j j),(Pp (f+1) 0),Tr,Tr,Tr]) [(2,λv w=>∃s:ByteArray,v=.string s/\s.size<=12),(5,λv w=>∃s:ByteArray,v=.string s/\s.size<=2520),(6,λv w=>∃(t:Nat) (A:List ByteArray),v=.slice t 4 4/\Nw wr w t/\A.length=4/\(∀s∈A,s.size<=20000)/\w.heap[t]?=some (.cells (A.map Value.string).toArray 9 (0,0)))] ((Below.refl _ _).drew) ⟨?_,?_,?_,?_,?_,?_,?_,?_,trivial⟩ ?_;exact .f 0;exact .f 3;intro y w c hf hv hd hw;replace c:(λx=>Below wr wr x) w:=c;exact .l 30 (hv 1 _ rfl rfl) (jU ((c.B f an).T E.o) 1 _ rfl) ⟨trivial,c,Qc ⟨_,rfl,ax⟩<|Qa⟩;exact .f 4;intro y w c hf hv hd hw;have eu:=Sv 32 hv 3;replace c:(λx=>Below wr wr x) w:=c;exact .q (g:=⟨rfl,c,Qa⟩);intro y w c hf hv hd hw;have ev:=Sv 33 hv 4;replace c:(λx=>Below wr wr x) w:=c;obtain⟨⟨U,J,g⟩,_⟩:=(M.o.jP (c.B (f+1) af)).get (i:=0) SE;replace c:=Hq c;exact .q (g:=⟨trivial,c.o,Qb<|Qc ⟨_,rfl,J⟩<|Qa⟩);intro y w c hf hv hd hw;obtain⟨cX,cY,ew⟩:=kE hd 0;have ex:=Sl 31 cY;obtain⟨cZ,da,ey⟩:=kE hd 1;have ez:=Sl 34 da;replace c:(λx=>Below wr wr x) w:=c;have L:=c.size;replace c:=Hq c;exact .q (g:=⟨trivial,c.o.alloc c.o.size _,Q2<|Qc ⟨_,[cX,⟨#[32,61,32]⟩,cZ,⟨#[59]⟩],rfl,⟨L,SG⟩,rfl,by intro x hx;simp only[Pz,Ps,PU]at hx;rcases hx with rfl|rfl|rfl|rfl<;>first|omega|decide,O2 _ _⟩<|Qe⟩);intro y w c hf hv hd hw;have eA:=Sv 29 hv 0;obtain⟨t,A,db,ah,ai,aa,aj⟩:=kE hd 2;have eB:=Sl 35 db;replace c:(λx=>Below wr wr x) w:=c;have L:=c.size;replace c:=Hq c;refine .h λK hK=>?_;go_simp;refine⟨rfl,?_⟩;refine Calls.M (po B b n k 4 w t A ai (ag.o.jP c.o) aj (SC ah.1) SE SE SE aa) ?_;rintro e w' ⟨he,z,m⟩;subst he;exact⟨_,rfl,hK ⟨trivial,⟨z,(kB.old al c.o).T m⟩,Q2<|Qd (λu ⟨t,A,e,D,W,ad,ac⟩=>⟨t,A,e,⟨D.1,O1 D.2 m.size⟩,W,ad,m.jP t _ ac (SC D.1) (lC SF)⟩)<|Qe⟩⟩;intro aw F G Q R;have I:=O0 (show nO B b (n:Int) (k+1) F/\kB B b wr F from G);clear G Q R;simp only[mP];go_wp21
  go_end0
  exact⟨rfl,I.o.1.up SE,V.o.T I.o.2⟩
 .have av:0<j:=SC (ak.o.2 SE);have dc:(1:Int)<(j:Int):=SC (ak.o.2 SE);go_wp21;clear Z;refine Dr 10 (λP=>cond P (λx=>nO B b (n:Int) (k+1) x/\kB B b wr x) (λx=>Below wr wr x)) (mi [(·=.pointer b),(Pp f 1),Tr,(·=.slice (some ⟨f+1,0,none⟩) j j),(Pp (f+1) 0),Tr,(·=.slice (some ⟨f+1,0,none⟩) j j),(Pp (f+1) 1),Tr,Tr,Tr]) [(2,λv w=>∃s:ByteArray,v=.string s/\s.size<=12),(5,λv w=>∃s:ByteArray,v=.string s/\s.size<=2520),(8,λv w=>∃s:ByteArray,v=.string s/\s.size<=2520),(9,λv w=>∃(t:Nat) (A:List ByteArray),v=.slice t 6 6/\Nw wr w t/\A.length=6/\(∀s∈A,s.size<=20000)/\w.heap[t]?=some (.cells (A.map Value.string).toArray 9 (0,0)))] ((Below.refl _ _).drew) ⟨?_,?_,?_,?_,?_,?_,?_,?_,?_,?_,?_,trivial⟩ ?_;exact .f 0;exact .f 3;intro y w c hf hv hd hw;replace c:(λx=>Below wr wr x) w:=c;exact .l 40 (hv 1 _ rfl rfl) (jU ((c.B f an).T E.o) 1 _ rfl) ⟨trivial,c,Qc ⟨_,rfl,ax⟩<|Qa⟩;exact .f 4;intro y w c hf hv hd hw;have eC:=Sv 42 hv 3;replace c:(λx=>Below wr wr x) w:=c;exact .q (g:=⟨rfl,c,Qa⟩);intro y w c hf hv hd hw;have eD:=Sv 43 hv 4;replace c:(λx=>Below wr wr x) w:=c;obtain⟨⟨U,J,g⟩,_⟩:=(M.o.jP (c.B (f+1) af)).get (i:=0) SE;replace c:=Hq c;exact .q (g:=⟨trivial,c.o,Qb<|Qc ⟨_,rfl,J⟩<|Qa⟩);exact .f 4;intro y w c hf hv hd hw;have eE:=Sv 45 hv 6;replace c:(λx=>Below wr wr x) w:=c;exact .q (g:=⟨rfl,c,Qa⟩);intro y w c hf hv hd hw;have eF:=Sv 46 hv 7;replace c:(λx=>Below wr wr x) w:=c;obtain⟨⟨U,J,g⟩,_⟩:=(M.o.jP (c.B (f+1) af)).get (i:=1) SE;replace c:=Hq c;exact .q (g:=⟨trivial,c.o,Q2<|Qc ⟨_,rfl,J⟩<|Qa⟩);intro y w c hf hv hd hw;obtain⟨dd,de,eG⟩:=kE hd 0;have eH:=Sl 41 de;obtain⟨df,dg,eI⟩:=kE hd 1;have eJ:=Sl 44 dg;obtain⟨dh,di,eK⟩:=kE hd 2;have eL:=Sl 47 di;replace c:(λx=>Below wr wr x) w:=c;have L:=c.size;replace c:=Hq c;exact .q (g:=⟨trivial,c.o.alloc c.o.size _,Q2<|Qb<|Qc ⟨_,[dd,⟨#[91]⟩,df,⟨#[93,32,61,32]⟩,dh,⟨#[59]⟩],rfl,⟨L,SG⟩,rfl,by intro x hx;simp only[Pz,Ps,PU]at hx;rcases hx with rfl|rfl|rfl|rfl|rfl|rfl<;>first|omega|decide,O2 _ _⟩<|Qe⟩);intro y w c hf hv hd hw;have eM:=Sv 39 hv 0;obtain⟨t,A,dj,ah,ai,aa,aj⟩:=kE hd 3;have eN:=Sl 48 dj;replace c:(λx=>Below wr wr x) w:=c;have L:=c.size;replace c:=Hq c;refine .h λK hK=>?_;go_simp;refine⟨rfl,?_⟩;refine Calls.M (po B b n k 6 w t A ai (ag.o.jP c.o) aj (SC ah.1) SE SE SE aa) ?_;rintro e w' ⟨he,z,m⟩;subst he;exact⟨_,rfl,hK ⟨trivial,⟨z,(kB.old al c.o).T m⟩,Q2<|Qb<|Qd (λu ⟨t,A,e,D,W,ad,ac⟩=>⟨t,A,e,⟨D.1,O1 D.2 m.size⟩,W,ad,m.jP t _ ac (SC D.1) (lC SF)⟩)<|Qe⟩⟩;intro aw F G Q R;have I:=O0 (show nO B b (n:Int) (k+1) F/\kB B b wr F from G);clear G Q R;simp only[mP];go_wp21
  go_end0
  exact⟨rfl,I.o.1.up SE,V.o.T I.o.2⟩
 .have av:0<j:=SC (ak.o.1 SE);go_wp21;clear Z;refine Dr 7 (λP=>cond P (λx=>nO B b (n:Int) (k+1) x/\kB B b wr x) (λx=>Below wr wr x)) (mi [(·=.pointer b),(Pp f 1),Tr,(·=.slice (some ⟨f+1,0,none⟩) j j),(Pp (f+1) 0),Tr,Tr,Tr]) [(2,λv w=>∃s:ByteArray,v=.string s/\s.size<=12),(5,λv w=>∃s:ByteArray,v=.string s/\s.size<=2520),(6,λv w=>∃(t:Nat) (A:List ByteArray),v=.slice t 5 5/\Nw wr w t/\A.length=5/\(∀s∈A,s.size<=20000)/\w.heap[t]?=some (.cells (A.map Value.string).toArray 9 (0,0)))] ((Below.refl _ _).drew) ⟨?_,?_,?_,?_,?_,?_,?_,?_,trivial⟩ ?_;exact .f 0;exact .f 3;intro y w c hf hv hd hw;replace c:(λx=>Below wr wr x) w:=c;exact .l 53 (hv 1 _ rfl rfl) (jU ((c.B f an).T E.o) 1 _ rfl) ⟨trivial,c,Qc ⟨_,rfl,ax⟩<|Qa⟩;exact .f 4;intro y w c hf hv hd hw;have eO:=Sv 55 hv 3;replace c:(λx=>Below wr wr x) w:=c;exact .q (g:=⟨rfl,c,Qa⟩);intro y w c hf hv hd hw;have eP:=Sv 56 hv 4;replace c:(λx=>Below wr wr x) w:=c;obtain⟨⟨U,J,g⟩,_⟩:=(M.o.jP (c.B (f+1) af)).get (i:=0) SE;replace c:=Hq c;exact .q (g:=⟨trivial,c.o,Qb<|Qc ⟨_,rfl,J⟩<|Qa⟩);intro y w c hf hv hd hw;obtain⟨dk,dl,eQ⟩:=kE hd 0;have eR:=Sl 54 dl;obtain⟨dm,dn,eS⟩:=kE hd 1;have eT:=Sl 57 dn;replace c:(λx=>Below wr wr x) w:=c;have L:=c.size;replace c:=Hq c;exact .q (g:=⟨trivial,c.o.alloc c.o.size _,Q2<|Qc ⟨_,[⟨#[100,101,108,101,116,101,32]⟩,dk,⟨#[91]⟩,dm,⟨#[93,59]⟩],rfl,⟨L,SG⟩,rfl,by intro x hx;simp only[Pz,Ps,PU]at hx;rcases hx with rfl|rfl|rfl|rfl|rfl<;>first|omega|decide,O2 _ _⟩<|Qe⟩);intro y w c hf hv hd hw;have eU:=Sv 52 hv 0;obtain⟨t,A,dp,ah,ai,aa,aj⟩:=kE hd 2;have eV:=Sl 58 dp;replace c:(λx=>Below wr wr x) w:=c;have L:=c.size;replace c:=Hq c;refine .h λK hK=>?_;go_simp;refine⟨rfl,?_⟩;refine Calls.M (po B b n k 5 w t A ai (ag.o.jP c.o) aj (SC ah.1) SE SE SE aa) ?_;rintro e w' ⟨he,z,m⟩;subst he;exact⟨_,rfl,hK ⟨trivial,⟨z,(kB.old al c.o).T m⟩,Q2<|Qd (λu ⟨t,A,e,D,W,ad,ac⟩=>⟨t,A,e,⟨D.1,O1 D.2 m.size⟩,W,ad,m.jP t _ ac (SC D.1) (lC SF)⟩)<|Qe⟩⟩;intro aw F G Q R;have I:=O0 (show nO B b (n:Int) (k+1) F/\kB B b wr F from G);clear G Q R;simp only[mP];go_wp21
  go_end0
  exact⟨rfl,I.o.1.up SE,V.o.T I.o.2⟩
 .have av:0<j:=SC (ak.o.1 SE);obtain⟨⟨U,J,g⟩,_⟩:=M.o.get (i:=0) SE;go_wp21;refine(lU B b n (k) wr [⟨#[105,102,32]⟩,U,⟨#[32,123]⟩] ag.o SE SE SG (by intro x hx;simp only[Pz,Ps,PU]at hx;rcases hx with rfl|rfl|rfl<;>first|omega|decide)).M ?_;rintro ck w6 ⟨rfl,z,m⟩;have aI:=O0 z;have X:=O0 (m);have aJ:=O0 (X.o.jP f _ E.o au (lC SF));have aK:=jN aJ.o 4;clear z m;clear g Z;go_wp21;apply(aU S B b n (k+1) w6 ae ab c4 s.th (aH.o.wr X.o ap.o) ap.o aI.o (cj.o.jP (kp.ok .u8 _) (am.o.eq X.o)) bU.o bP (am.o.to X.o) SE SE).M;rintro dq aS ⟨rfl,z,m⟩;have aT:=O0 z;have aA:=O0 (X.o.T m);have aL:=O0 (aA.o.jP f _ E.o au (lC SF));have cl:=jN aL.o 4;have cm:=jN aL.o 5;clear z m;clear aK;by_cases eW:0<N
  .go_wp21;refine(lU B b n (k+1+xq d) aS [⟨#[125,32,101,108,115,101,32,123]⟩] aT.o SE SE SG (by intro x hx;simp only[Pz,Ps,PU]at hx;rcases hx with rfl<;>first|omega|decide)).M ?_;rintro eX dr ⟨rfl,z,m⟩;have ds:=O0 z;have aM:=O0 (aA.o.T m);have dt:=O0 (aM.o.jP f _ E.o au (lC SF));have du:=jN dt.o 5;clear z m;clear cl cm;go_wp21;apply(aU S B b n (k+1+xq d+1) dr T N c5 s.el (aH.o.wr aM.o ap.o) ap.o ds.o (bl.o.jP (kp.ok .u8 _) (am.o.eq aM.o)) bb.o aZ (am.o.to aM.o) SE SE).M;rintro cT dv ⟨rfl,z,m⟩;have dw:=O0 z;have bm:=O0 (aM.o.T m);have aa:=bm.o.size;have ci:=O0 (bm.o.jP f _ E.o au (lC SF));clear z m;clear du;go_wp21;refine(lU B b n (k+1+xq d+1+xq d) dv [⟨#[125]⟩] dw.o SE SE SG (by intro x hx;simp only[Pz,Ps,PU]at hx;rcases hx with rfl<;>first|omega|decide)).M ?_;rintro cn co ⟨rfl,z,m⟩;have aN:=O0 z;have aO:=O0 (bm.o.T m);clear z m;go_wp21
   go_end0
   exact⟨rfl,aN.o.up SE,V.o.T aO.o⟩
  obtain rfl:N=0:=SE;go_wp21;refine(lU B b n (k+1+xq d) aS [⟨#[125]⟩] aT.o SE SE SG (by intro x hx;simp only[Pz,Ps,PU]at hx;rcases hx with rfl<;>first|omega|decide)).M ?_;rintro cn co ⟨rfl,z,m⟩;have aN:=O0 z;have aO:=O0 (aA.o.T m);clear z m;go_wp21
  go_end0
  exact⟨rfl,aN.o.up SE,V.o.T aO.o⟩
 .have av:0<j:=SC (ak.o.1 SE);obtain⟨⟨U,J,g⟩,_⟩:=M.o.get (i:=0) SE;go_wp21;refine(lU B b n (k) wr [⟨#[119,104,105,108,101,32]⟩,U,⟨#[32,123]⟩] ag.o SE SE SG (by intro x hx;simp only[Pz,Ps,PU]at hx;rcases hx with rfl|rfl|rfl<;>first|omega|decide)).M ?_;rintro ck w6 ⟨rfl,z,m⟩;have aI:=O0 z;have X:=O0 (m);have aJ:=O0 (X.o.jP f _ E.o au (lC SF));have aK:=jN aJ.o 4;clear z m;clear g Z;go_wp21;apply(aU S B b n (k+1) w6 ae ab c4 s.th (aH.o.wr X.o ap.o) ap.o aI.o (cj.o.jP (kp.ok .u8 _) (am.o.eq X.o)) bU.o bP (am.o.to X.o) SE SE).M;rintro dq aS ⟨rfl,z,m⟩;have aT:=O0 z;have aA:=O0 (X.o.T m);have aL:=O0 (aA.o.jP f _ E.o au (lC SF));have cl:=jN aL.o 4;have cm:=jN aL.o 5;clear z m;clear aK;go_wp21;refine(lU B b n (k+1+xq d) aS [⟨#[125]⟩] aT.o SE SE SG (by intro x hx;simp only[Pz,Ps,PU]at hx;rcases hx with rfl<;>first|omega|decide)).M ?_;rintro cn co ⟨rfl,z,m⟩;have aN:=O0 z;have aO:=O0 (aA.o.T m);clear z m;go_wp21
  go_end0
  exact⟨rfl,aN.o.up SE,V.o.T aO.o⟩
 .go_wp21;clear Z;refine Dr 8 (λP=>cond P (λx=>nO B b (n:Int) (k+1) x/\kB B b wr x) (λx=>Below wr wr x)) (mi [(·=.pointer b),(Pp f 1),Tr,(Pp f 2),Tr,(·=.slice (some ⟨f+1,0,none⟩) j j),Tr,Tr,Tr]) [(2,λv w=>∃s:ByteArray,v=.string s/\s.size<=12),(4,λv w=>∃s:ByteArray,v=.string s/\s.size<=12),(6,λv w=>∃s:ByteArray,v=.string s/\s.size<=12700),(7,λv w=>∃(t:Nat) (A:List ByteArray),v=.slice t 7 7/\Nw wr w t/\A.length=7/\(∀s∈A,s.size<=20000)/\w.heap[t]?=some (.cells (A.map Value.string).toArray 9 (0,0)))] ((Below.refl _ _).drew) ⟨?_,?_,?_,?_,?_,?_,?_,?_,?_,trivial⟩ ?_;exact .f 0;exact .f 3;intro y w c hf hv hd hw;replace c:(λx=>Below wr wr x) w:=c;exact .l 104 (hv 1 _ rfl rfl) (jU ((c.B f an).T E.o) 1 _ rfl) ⟨trivial,c,Qc ⟨_,rfl,ax⟩<|Qa⟩;exact .f 3;intro y w c hf hv hd hw;replace c:(λx=>Below wr wr x) w:=c;exact .l 106 (hv 3 _ rfl rfl) (jU ((c.B f an).T E.o) 2 _ rfl) ⟨trivial,c,Qb<|Qc ⟨_,rfl,aQ⟩<|Qa⟩;exact .f 4;intro y w c hf hv hd hw;have eY:=Sv 108 hv 5;replace c:(λx=>Below wr wr x) w:=c;replace c:=Hq c;refine .h λK hK=>?_;go_simp;refine⟨rfl,?_⟩;refine Calls.M (EX w (f+1) j (M.o.jP (c.o.B (f+1) af)) bK) ?_;rintro e w' ⟨s,rfl,hz,hb⟩;exact⟨_,rfl,hK ⟨trivial,c.o.T (hb.M c.o.size),Q2<|Qc ⟨_,rfl,hz⟩<|Qb<|Qe⟩⟩;intro y w c hf hv hd hw;obtain⟨dx,dy,eZ⟩:=kE hd 0;have fa:=Sl 105 dy;obtain⟨dz,dA,fb⟩:=kE hd 1;have fc:=Sl 107 dA;obtain⟨dB,dC,fd⟩:=kE hd 2;have fe:=Sl 109 dC;replace c:(λx=>Below wr wr x) w:=c;have L:=c.size;replace c:=Hq c;exact .q (g:=⟨trivial,c.o.alloc c.o.size _,Q2<|Qb<|Qc ⟨_,[⟨#[115,101,110,100,32]⟩,dx,⟨#[46]⟩,dz,⟨#[40]⟩,dB,⟨#[41,59]⟩],rfl,⟨L,SG⟩,rfl,by intro x hx;simp only[Pz,Ps,PU]at hx;rcases hx with rfl|rfl|rfl|rfl|rfl|rfl|rfl<;>first|omega|decide,O2 _ _⟩<|Qe⟩);intro y w c hf hv hd hw;have ff:=Sv 103 hv 0;obtain⟨t,A,dD,ah,ai,aa,aj⟩:=kE hd 3;have fg:=Sl 110 dD;replace c:(λx=>Below wr wr x) w:=c;have L:=c.size;replace c:=Hq c;refine .h λK hK=>?_;go_simp;refine⟨rfl,?_⟩;refine Calls.M (po B b n k 7 w t A ai (ag.o.jP c.o) aj (SC ah.1) SE SE SE aa) ?_;rintro e w' ⟨he,z,m⟩;subst he;exact⟨_,rfl,hK ⟨trivial,⟨z,(kB.old al c.o).T m⟩,Q2<|Qb<|Qd (λu ⟨t,A,e,D,W,ad,ac⟩=>⟨t,A,e,⟨D.1,O1 D.2 m.size⟩,W,ad,m.jP t _ ac (SC D.1) (lC SF)⟩)<|Qe⟩⟩;intro aw F G Q R;have I:=O0 (show nO B b (n:Int) (k+1) F/\kB B b wr F from G);clear G Q R;simp only[mP];go_wp21
  go_end0
  exact⟨rfl,I.o.1.up SE,V.o.T I.o.2⟩
 .have av:0<j:=SC (ak.o.1 SE);by_cases W:j=1
  .have dE:=O0 W;clear W;go_wp21;clear Z;refine Dr 10 (λP=>cond P (λx=>nO B b (n:Int) (k+1) x/\kB B b wr x) (λx=>Below wr wr x)) (mi [(·=.pointer b),(·=.slice (some ⟨f+1,0,none⟩) j j),(Pp (f+1) 0),Tr,(Pp f 2),Tr,(·=.slice (some ⟨f+1,0,none⟩) j j),Tr,Tr,Tr,Tr]) [(3,λv w=>∃s:ByteArray,v=.string s/\s.size<=2520),(5,λv w=>∃s:ByteArray,v=.string s/\s.size<=12),(7,λv w=>∃a:Option Addr,v=.slice a (j-1) (j-1)),(8,λv w=>∃s:ByteArray,v=.string s/\s.size<=12700),(9,λv w=>∃(t:Nat) (A:List ByteArray),v=.slice t 7 7/\Nw wr w t/\A.length=7/\(∀s∈A,s.size<=20000)/\w.heap[t]?=some (.cells (A.map Value.string).toArray 9 (0,0)))] ((Below.refl _ _).drew) ⟨?_,?_,?_,?_,?_,?_,?_,?_,?_,?_,?_,trivial⟩ ?_;exact .f 0;exact .f 4;intro y w c hf hv hd hw;have dF:=Sv 115 hv 1;replace c:(λx=>Below wr wr x) w:=c;exact .q (g:=⟨rfl,c,Qa⟩);intro y w c hf hv hd hw;have dG:=Sv 116 hv 2;replace c:(λx=>Below wr wr x) w:=c;obtain⟨⟨U,J,g⟩,_⟩:=(M.o.jP (c.B (f+1) af)).get (i:=0) SE;replace c:=Hq c;exact .q (g:=⟨trivial,c.o,Qc ⟨_,rfl,J⟩<|Qa⟩);exact .f 3;intro y w c hf hv hd hw;replace c:(λx=>Below wr wr x) w:=c;exact .l 118 (hv 4 _ rfl rfl) (jU ((c.B f an).T E.o) 2 _ rfl) ⟨trivial,c,Qb<|Qc ⟨_,rfl,aQ⟩<|Qa⟩;exact .f 4;intro y w c hf hv hd hw;have dH:=Sv 120 hv 6;replace c:(λx=>Below wr wr x) w:=c;have dI:(1:Int)<=(j:Int):=SE;exact .q (g:=⟨trivial,c,Q2<|Qc ⟨_,rfl⟩<|Qa⟩);intro y w c hf hv hd hw;obtain⟨fh,dJ⟩:=kE hd 2;have dK:=Sl 121 dJ;replace c:(λx=>Below wr wr x) w:=c;replace c:=Hq c;refine .h λK hK=>?_;go_simp;refine⟨rfl,?_⟩;refine Calls.M (CV w _ _ (j-1) (SC dE.o)) ?_;rintro e w' ⟨s,rfl,hz,hb⟩;exact⟨_,rfl,hK ⟨trivial,c.o.T (hb.M c.o.size),Q2<|Qb<|Qc ⟨_,rfl,hz⟩<|Qb<|Qe⟩⟩;intro y w c hf hv hd hw;obtain⟨bn,bo,dL⟩:=kE hd 0;have dM:=Sl 117 bo;obtain⟨bp,bq,dN⟩:=kE hd 1;have dO:=Sl 119 bq;obtain⟨br,bs,dP⟩:=kE hd 3;have dQ:=Sl 122 bs;replace c:(λx=>Below wr wr x) w:=c;have L:=c.size;replace c:=Hq c;exact .q (g:=⟨trivial,c.o.alloc c.o.size _,Q4<|Qc ⟨_,[⟨#[97,102,116,101,114,32]⟩,bn,⟨#[32,100,111,32]⟩,bp,⟨#[40]⟩,br,⟨#[41,59]⟩],rfl,⟨L,SG⟩,rfl,by intro x hx;simp only[Pz,Ps,PU]at hx;rcases hx with rfl|rfl|rfl|rfl|rfl|rfl|rfl<;>first|omega|decide,O2 _ _⟩<|Qe⟩);intro y w c hf hv hd hw;have dR:=Sv 114 hv 0;obtain⟨t,A,bt,ah,ai,aa,aj⟩:=kE hd 4;have dS:=Sl 123 bt;replace c:(λx=>Below wr wr x) w:=c;have L:=c.size;replace c:=Hq c;refine .h λK hK=>?_;go_simp;refine⟨rfl,?_⟩;refine Calls.M (po B b n k 7 w t A ai (ag.o.jP c.o) aj (SC ah.1) SE SE SE aa) ?_;rintro e w' ⟨he,z,m⟩;subst he;exact⟨_,rfl,hK ⟨trivial,⟨z,(kB.old al c.o).T m⟩,Q4<|Qd (λu ⟨t,A,e,D,W,ad,ac⟩=>⟨t,A,e,⟨D.1,O1 D.2 m.size⟩,W,ad,m.jP t _ ac (SC D.1) (lC SF)⟩)<|Qe⟩⟩;intro aw F G Q R;have I:=O0 (show nO B b (n:Int) (k+1) F/\kB B b wr F from G);clear G Q R;simp only[mP];go_wp21
   go_end0
   exact⟨rfl,I.o.1.up SE,V.o.T I.o.2⟩
  have ad:1<j:=SE;go_wp21;clear Z;refine Dr 10 (λP=>cond P (λx=>nO B b (n:Int) (k+1) x/\kB B b wr x) (λx=>Below wr wr x)) (mi [(·=.pointer b),(·=.slice (some ⟨f+1,0,none⟩) j j),(Pp (f+1) 0),Tr,(Pp f 2),Tr,(·=.slice (some ⟨f+1,0,none⟩) j j),(·=.slice (some ⟨f+1,1,none⟩) (j-1) (j-1)),Tr,Tr,Tr]) [(3,λv w=>∃s:ByteArray,v=.string s/\s.size<=2520),(5,λv w=>∃s:ByteArray,v=.string s/\s.size<=12),(8,λv w=>∃s:ByteArray,v=.string s/\s.size<=12700),(9,λv w=>∃(t:Nat) (A:List ByteArray),v=.slice t 7 7/\Nw wr w t/\A.length=7/\(∀s∈A,s.size<=20000)/\w.heap[t]?=some (.cells (A.map Value.string).toArray 9 (0,0)))] ((Below.refl _ _).drew) ⟨?_,?_,?_,?_,?_,?_,?_,?_,?_,?_,?_,trivial⟩ ?_;exact .f 0;exact .f 4;intro y w c hf hv hd hw;have dF:=Sv 115 hv 1;replace c:(λx=>Below wr wr x) w:=c;exact .q (g:=⟨rfl,c,Qa⟩);intro y w c hf hv hd hw;have dG:=Sv 116 hv 2;replace c:(λx=>Below wr wr x) w:=c;obtain⟨⟨U,J,g⟩,_⟩:=(M.o.jP (c.B (f+1) af)).get (i:=0) SE;replace c:=Hq c;exact .q (g:=⟨trivial,c.o,Qc ⟨_,rfl,J⟩<|Qa⟩);exact .f 3;intro y w c hf hv hd hw;replace c:(λx=>Below wr wr x) w:=c;exact .l 118 (hv 4 _ rfl rfl) (jU ((c.B f an).T E.o) 2 _ rfl) ⟨trivial,c,Qb<|Qc ⟨_,rfl,aQ⟩<|Qa⟩;exact .f 4;intro y w c hf hv hd hw;have dH:=Sv 120 hv 6;replace c:(λx=>Below wr wr x) w:=c;have dI:(1:Int)<=(j:Int):=SE;exact .q (g:=⟨rfl,c,Qa⟩);intro y w c hf hv hd hw;have dK:=Sv 121 hv 7;replace c:(λx=>Below wr wr x) w:=c;replace c:=Hq c;refine .h λK hK=>?_;go_simp;refine⟨rfl,?_⟩;refine Calls.M (AG w (f+1) j 1 (M.o.jP (c.o.B (f+1) af)) bK SE) ?_;rintro e w' ⟨s,rfl,hz,hb⟩;exact⟨_,rfl,hK ⟨trivial,c.o.T (hb.M c.o.size),Q2<|Qc ⟨_,rfl,hz⟩<|Qb<|Qe⟩⟩;intro y w c hf hv hd hw;obtain⟨bn,bo,dL⟩:=kE hd 0;have dM:=Sl 117 bo;obtain⟨bp,bq,dN⟩:=kE hd 1;have dO:=Sl 119 bq;obtain⟨br,bs,dP⟩:=kE hd 2;have dQ:=Sl 122 bs;replace c:(λx=>Below wr wr x) w:=c;have L:=c.size;replace c:=Hq c;exact .q (g:=⟨trivial,c.o.alloc c.o.size _,Q2<|Qb<|Qc ⟨_,[⟨#[97,102,116,101,114,32]⟩,bn,⟨#[32,100,111,32]⟩,bp,⟨#[40]⟩,br,⟨#[41,59]⟩],rfl,⟨L,SG⟩,rfl,by intro x hx;simp only[Pz,Ps,PU]at hx;rcases hx with rfl|rfl|rfl|rfl|rfl|rfl|rfl<;>first|omega|decide,O2 _ _⟩<|Qe⟩);intro y w c hf hv hd hw;have dR:=Sv 114 hv 0;obtain⟨t,A,bt,ah,ai,aa,aj⟩:=kE hd 3;have dS:=Sl 123 bt;replace c:(λx=>Below wr wr x) w:=c;have L:=c.size;replace c:=Hq c;refine .h λK hK=>?_;go_simp;refine⟨rfl,?_⟩;refine Calls.M (po B b n k 7 w t A ai (ag.o.jP c.o) aj (SC ah.1) SE SE SE aa) ?_;rintro e w' ⟨he,z,m⟩;subst he;exact⟨_,rfl,hK ⟨trivial,⟨z,(kB.old al c.o).T m⟩,Q2<|Qb<|Qd (λu ⟨t,A,e,D,W,ad,ac⟩=>⟨t,A,e,⟨D.1,O1 D.2 m.size⟩,W,ad,m.jP t _ ac (SC D.1) (lC SF)⟩)<|Qe⟩⟩;intro aw F G Q R;have I:=O0 (show nO B b (n:Int) (k+1) F/\kB B b wr F from G);clear G Q R;simp only[mP];go_wp21
  go_end0
  exact⟨rfl,I.o.1.up SE,V.o.T I.o.2⟩
 .have av:0<j:=SC (ak.o.2 SE);have dc:(1:Int)<(j:Int):=SC (ak.o.2 SE);go_wp21;clear Z;refine Dr 12 (λP=>cond P (λx=>nO B b (n:Int) (k+(3+xq d)) x/\kB B b wr x) (λx=>Below wr wr x)) (mi [(·=.pointer b),(·=.slice (some ⟨f+1,0,none⟩) j j),(Pp (f+1) 0),Tr,Tr,Tr,(·=.slice (some ⟨f+1,0,none⟩) j j),(Pp (f+1) 1),Tr,Tr,(Pp f 5),(·=.slice T N c5),Tr]) [(3,λv w=>∃s:ByteArray,v=.string s/\s.size<=2520),(4,λv w=>∃s:ByteArray,v=.string s/\s.size<=2526),(5,λv w=>∃s:ByteArray,v=.string s/\s.size<=2529),(8,λv w=>∃s:ByteArray,v=.string s/\s.size<=2520),(9,λv w=>∃s:ByteArray,v=.string s/\s.size<=5049)] ((Below.refl _ _).drew) ⟨?_,?_,?_,?_,?_,?_,?_,?_,?_,?_,?_,?_,?_,trivial⟩ ?_;exact .f 0;exact .f 4;intro y w c hf hv hd hw;have fi:=Sv 128 hv 1;replace c:(λx=>Below wr wr x) w:=c;exact .q (g:=⟨rfl,c,Qa⟩);intro y w c hf hv hd hw;have fj:=Sv 129 hv 2;replace c:(λx=>Below wr wr x) w:=c;obtain⟨⟨U,J,g⟩,_⟩:=(M.o.jP (c.B (f+1) af)).get (i:=0) SE;replace c:=Hq c;exact .q (g:=⟨trivial,c.o,Qc ⟨_,rfl,J⟩<|Qa⟩);intro y w c hf hv hd hw;obtain⟨cp,dT,fk⟩:=kE hd 0;have fl:=Sl 130 dT;replace c:(λx=>Below wr wr x) w:=c;have aP:¬(9223372036854775807<6+cp.size):=SE;exact .q (g:=⟨trivial,c,Qb<|Qc ⟨(⟨#[115,116,111,114,101,32]⟩:ByteArray)++cp,rfl,by rw[Pr];(try rw[show((⟨#[115,116,111,114,101,32]⟩:ByteArray)).size=6 from rfl]);omega⟩<|Qa⟩);intro y w c hf hv hd hw;obtain⟨cq,dU,fm⟩:=kE hd 1;have fn:=Sl 131 dU;replace c:(λx=>Below wr wr x) w:=c;have aP:¬(9223372036854775807<cq.size+3):=SE;exact .q (g:=⟨trivial,c,Q2<|Qc ⟨cq++(⟨#[32,61,32]⟩:ByteArray),rfl,by rw[Pr];(try rw[show((⟨#[32,61,32]⟩:ByteArray)).size=3 from rfl]);omega⟩<|Qa⟩);exact .f 4;intro y w c hf hv hd hw;have fo:=Sv 133 hv 6;replace c:(λx=>Below wr wr x) w:=c;exact .q (g:=⟨rfl,c,Qa⟩);intro y w c hf hv hd hw;have fp:=Sv 134 hv 7;replace c:(λx=>Below wr wr x) w:=c;obtain⟨⟨U,J,g⟩,_⟩:=(M.o.jP (c.B (f+1) af)).get (i:=1) SE;replace c:=Hq c;exact .q (g:=⟨trivial,c.o,Q2<|Qb<|Qc ⟨_,rfl,J⟩<|Qa⟩);intro y w c hf hv hd hw;obtain⟨cr,dV,fq⟩:=kE hd 2;have fr:=Sl 132 dV;obtain⟨cs,dW,fs⟩:=kE hd 3;have ft:=Sl 135 dW;replace c:(λx=>Below wr wr x) w:=c;have aP:¬(9223372036854775807<cr.size+cs.size):=SE;exact .q (g:=⟨trivial,c,Q4<|Qc ⟨cr++cs,rfl,by rw[Pr];omega⟩<|Qa⟩);exact .f 3;intro y w c hf hv hd hw;replace c:(λx=>Below wr wr x) w:=c;exact .l 137 (hv 10 _ rfl rfl) (jU ((c.B f an).T E.o) 5 _ rfl) ⟨rfl,c,Qa⟩;intro y w c hf hv hd hw;have fu:=Sv 127 hv 0;obtain⟨dX,dY,fv⟩:=kE hd 4;have fw:=Sl 136 dY;have fx:=Sv 138 hv 11;replace c:(λx=>Below wr wr x) w:=c;have L:=c.size;replace c:=Hq c;refine .h λK hK=>?_;go_simp;refine⟨rfl,?_⟩;refine Calls.M (bu S B b n k w dX T N c5 s.el (aH.o.to c.o) ap.o (ag.o.jP c.o) (bl.o.jP (kp.ok .u8 _) (λq Y=>c.o.B q (am.o.lt q Y))) bb.o aZ (am.o.to (kB.old al c.o)) SE SE SE) ?_;rintro e w' ⟨he,z,m⟩;subst he;exact⟨_,rfl,hK ⟨trivial,⟨z,(kB.old al c.o).T m⟩,Q4<|Qb<|Qe⟩⟩;intro aw F G Q R;have I:=O0 (show nO B b (n:Int) (k+(3+xq d)) F/\kB B b wr F from G);clear G Q R;simp only[mP];go_wp21
  go_end0
  exact⟨rfl,I.o.1.up SE,V.o.T I.o.2⟩
 .have av:0<j:=SC (ak.o.1 SE);go_wp21;clear Z;refine Dr 11 (λP=>cond P (λx=>nO B b (n:Int) (k+(3+xq d)) x/\kB B b wr x) (λx=>Below wr wr x)) (mi [(·=.pointer b),(Pp f 1),Tr,Tr,Tr,(·=.slice (some ⟨f+1,0,none⟩) j j),(Pp (f+1) 0),Tr,Tr,(Pp f 5),(·=.slice T N c5),Tr]) [(2,λv w=>∃s:ByteArray,v=.string s/\s.size<=12),(3,λv w=>∃s:ByteArray,v=.string s/\s.size<=18),(4,λv w=>∃s:ByteArray,v=.string s/\s.size<=21),(7,λv w=>∃s:ByteArray,v=.string s/\s.size<=2520),(8,λv w=>∃s:ByteArray,v=.string s/\s.size<=2541)] ((Below.refl _ _).drew) ⟨?_,?_,?_,?_,?_,?_,?_,?_,?_,?_,?_,?_,trivial⟩ ?_;exact .f 0;exact .f 3;intro y w c hf hv hd hw;replace c:(λx=>Below wr wr x) w:=c;exact .l 143 (hv 1 _ rfl rfl) (jU ((c.B f an).T E.o) 1 _ rfl) ⟨trivial,c,Qc ⟨_,rfl,ax⟩<|Qa⟩;intro y w c hf hv hd hw;obtain⟨ct,dZ,fy⟩:=kE hd 0;have fz:=Sl 144 dZ;replace c:(λx=>Below wr wr x) w:=c;have aP:¬(9223372036854775807<6+ct.size):=SE;exact .q (g:=⟨trivial,c,Qb<|Qc ⟨(⟨#[102,101,116,99,104,32]⟩:ByteArray)++ct,rfl,by rw[Pr];(try rw[show((⟨#[102,101,116,99,104,32]⟩:ByteArray)).size=6 from rfl]);omega⟩<|Qa⟩);intro y w c hf hv hd hw;obtain⟨cu,ea,fA⟩:=kE hd 1;have fB:=Sl 145 ea;replace c:(λx=>Below wr wr x) w:=c;have aP:¬(9223372036854775807<cu.size+3):=SE;exact .q (g:=⟨trivial,c,Q2<|Qc ⟨cu++(⟨#[32,61,32]⟩:ByteArray),rfl,by rw[Pr];(try rw[show((⟨#[32,61,32]⟩:ByteArray)).size=3 from rfl]);omega⟩<|Qa⟩);exact .f 4;intro y w c hf hv hd hw;have fC:=Sv 147 hv 5;replace c:(λx=>Below wr wr x) w:=c;exact .q (g:=⟨rfl,c,Qa⟩);intro y w c hf hv hd hw;have fD:=Sv 148 hv 6;replace c:(λx=>Below wr wr x) w:=c;obtain⟨⟨U,J,g⟩,_⟩:=(M.o.jP (c.B (f+1) af)).get (i:=0) SE;replace c:=Hq c;exact .q (g:=⟨trivial,c.o,Q2<|Qb<|Qc ⟨_,rfl,J⟩<|Qa⟩);intro y w c hf hv hd hw;obtain⟨cv,eb,fE⟩:=kE hd 2;have fF:=Sl 146 eb;obtain⟨cw,ec,fG⟩:=kE hd 3;have fH:=Sl 149 ec;replace c:(λx=>Below wr wr x) w:=c;have aP:¬(9223372036854775807<cv.size+cw.size):=SE;exact .q (g:=⟨trivial,c,Q4<|Qc ⟨cv++cw,rfl,by rw[Pr];omega⟩<|Qa⟩);exact .f 3;intro y w c hf hv hd hw;replace c:(λx=>Below wr wr x) w:=c;exact .l 151 (hv 9 _ rfl rfl) (jU ((c.B f an).T E.o) 5 _ rfl) ⟨rfl,c,Qa⟩;intro y w c hf hv hd hw;have fI:=Sv 142 hv 0;obtain⟨ed,ee,fJ⟩:=kE hd 4;have fK:=Sl 150 ee;have fL:=Sv 152 hv 10;replace c:(λx=>Below wr wr x) w:=c;have L:=c.size;replace c:=Hq c;refine .h λK hK=>?_;go_simp;refine⟨rfl,?_⟩;refine Calls.M (bu S B b n k w ed T N c5 s.el (aH.o.to c.o) ap.o (ag.o.jP c.o) (bl.o.jP (kp.ok .u8 _) (λq Y=>c.o.B q (am.o.lt q Y))) bb.o aZ (am.o.to (kB.old al c.o)) SE SE SE) ?_;rintro e w' ⟨he,z,m⟩;subst he;exact⟨_,rfl,hK ⟨trivial,⟨z,(kB.old al c.o).T m⟩,Q4<|Qb<|Qe⟩⟩;intro aw F G Q R;have I:=O0 (show nO B b (n:Int) (k+(3+xq d)) F/\kB B b wr F from G);clear G Q R;simp only[mP];go_wp21
  go_end0
  exact⟨rfl,I.o.1.up SE,V.o.T I.o.2⟩
 go_wp21;refine(lU B b n (k) wr [⟨#[115,116,111,112,59]⟩] ag.o SE SE SG (by intro x hx;simp only[Pz,Ps,PU]at hx;rcases hx with rfl<;>first|omega|decide)).M ?_;rintro ck w6 ⟨rfl,z,m⟩;have aI:=O0 z;have X:=O0 (m);have aJ:=O0 (X.o.jP f _ E.o au (lC SF));have aK:=jN aJ.o 4;clear z m;clear aK Z;go_wp21
 go_end0
 exact⟨rfl,aI.o.up SE,V.o.T X.o⟩
def AH(q w):Calls prog 49 #[.bool q] w (pk 5 w):=by apply(Tryz.strconv_FormatBool q w).M;rintro e w' ⟨he,rfl⟩;exact⟨_,he,by cases q<;>decide,Below.refl _ _⟩
def Ja(z:Int)(a:0<=z)(b:z<100)(w):Calls prog 48 #[.int .i64 z,.int .i64 10] w (pk 20 w):=by
 obtain⟨i,rfl⟩:∃i:Nat,z=(i:Int):=⟨z.toNat,SE⟩
 apply(Tryz.strconv_FormatInt_10_small i SE w).M;rintro e w' ⟨he,rfl⟩;exact⟨_,he,zj i SE,Below.refl _ _⟩
def nL{c:Type}{P}{w:World}(t)(l:TypeId)(e i z)(size d:Nat)(m:P.underlying t=some (.slice e))(hi:P.info? e=some i)(hz:i.zero=some z)
  (E:i.size=size) (F:i.bytes=d) (G:z.cells.size=size) {R:Rel c} (ok:kF R size) (I:∀{S J:Nat->Prop} {w w':World} {r:List Value} {x:c},R S w r x->R J w' r x) {S:Nat->Prop} {b0:Nat} {ys:List c} {v2:Value}
  {n:Nat} (hn:ys.length=n) (f:jT R S w v2 ys) (ab:n<=maxLen) (K:n*d<=140737488355328):
  ∃p q w',(Builtin.append_ #[t,t] l #[.slice b0 0 0,v2]).run P w=.ok (.slice p n q) w'/\jT R (λb=>w<=b/\b<w') w' (.slice p n q) ys/\Below w w w':=by
 subst hn;by_cases hy:ys=[]
 .subst hy;obtain⟨s,c2,j,rfl,_⟩:=f;refine⟨some ⟨b0,0,none⟩,0,w,?_,⟨_,0,[],rfl,O9 _,SE,tA.nil _ _ _,trivial⟩,Below.refl _ _⟩;cases s<;>simp[Builtin.append_,Rs m,sizeOf,typeInfo,hi,Builtin.lenOf,Builtin.firstCells,storeCells,loadCells,loadCellsFrom]
 .obtain⟨s,c2,L,M,ac,ad,N,O⟩:=id f;subst M;have Q:L.flatten≠[]:=by
   intro e;have:=kJ.flat (k:=size) (λr x h=>ok.len h) O;rw[e]at this;have hp:=ok.pos;have:ys.length=0:=by have v:ys.length*size=0:=(by simpa using this.symm);rcases R6.1 v with h|h;exact h;omega
   exact hy (PT this)
  obtain⟨T,U,rfl,_,_⟩:=N Q;obtain⟨j,ae,_,V,W,X,_⟩:=f.cells ok;have af:0<ys.length:=Rg.2 hy;obtain⟨ag,w',y,Y,hg⟩:=RA (P:=P) (w:=w) t l e i z size d m hi hz E F G ok.pos ⟨b0,0,none⟩ 0 0 [] SG SG ⟨T,U,none⟩ ys.length c2 j.flatten V X SE SE (by rw[Pk];exact K);rcases Y.2 with⟨rfl,v⟩|⟨g,A,ah,rfl,hb,B,C,Z,ai,D⟩
  omega;rw[Pk]at y C;refine⟨_,A,w',y,⟨_,A,j,rfl,C,by unfold maxLen at Z;omega,λ_=>⟨g,0,rfl,⟨hb,(O3.1 B).1⟩,λaj u a=>?_⟩,W.imp λr x hx=>I hx⟩,(Below.refl _ w).grown hg (O9 _) (λk aa=>by cases aa)⟩;rw[QJ]at D;rw[<-D,Ql]at a;split at a;rw[Pk];simp only[World.cell?,B];simpa using a;cases a
def tu{f:Type}{P:Program}{w:World}{ops:Array Oper}{rest:List Oper}{o}{a:Act}{Q:Exit->Act->World->Prop}(j:o.guard=none)(s x:Operand)(t:TypeId)
  (k:o.op=.call {callee:=.builtin .append,args:=#[s,x],argTypes:=#[t,t]})
  (e:TypeId) (i:TypeInfo) (z:Value) (size g:Nat) (l:P.underlying t=some (.slice e)) (hi:P.info? e=some i) (hz:i.zero=some z)
  (m:i.size=size) (p:i.bytes=g) (q:z.cells.size=size)
  {R:Rel f} (ok:kF R size) (u:∀{S v:Nat->Prop} {w w':World} {r:List Value} {x:f},R S w r x->R v w' r x) {S:Nat->Prop} {b0:Nat} {ys:List f} {v2:Value} (hs:a.eval s=.slice b0 0 0) (hx:a.eval x=v2)
  {n:Nat} (hn:ys.length=n) (y:jT R S w v2 ys) (A:n<=maxLen) (B:n*g<=140737488355328)
  (h:∀c d w',jT R (λb=>w.heap.size<=b/\b<w'.heap.size) w' (.slice c n d) ys->Below w.heap.size w w'->wpList P ops Q rest (a.put o.dst (.slice c n d)) w'):wpList P ops Q (o::rest) a w:=by
 obtain⟨c,d,w',C,D,E⟩:=nL (P:=P) (w:=w) t o.type e i z size g l hi hz m p q ok u (b0:=b0) hn y A B;refine Sw j λK hK=>?_;unfold Oper.wp execOp;simp only[k,resolve,invoke,builtin,PQ,PR,PB,PI,PF,PS,hs,hx,C];exact hK _ _ (h c d w' D E)
def Jd:(prog.info? 125).map (λi=>(i.zero,i.size,i.bytes))=some (some (.agg #[Em,Nl,Nl]),3,64):=SH
def G8(n:Nat)(hn:n<=1000)(w):(Instr.makeSlice 116 (.int .i64 (n:Int)) (.int .i64 (n:Int))).run prog w=.ok (.slice w n n) (w.alloc (vl n)):=by obtain⟨b,c,d,a,e⟩:=Pu Jd;have:=Qu (P:=prog) w 116 125 b _ underlying116 c d .i64 .i64 (n:Int) (n:Int) SE (QG _) (by rw[a];simp;omega) (by rw[e];omega) SE;rw[a,PZ]at this;exact this
def CX(S w A)(n c:Nat)(xs)(hv:jT (lF .u8) S w (.slice A n c) xs)(R:n<=1000)(hS:∀q,S q->q<w)(hf:∀x∈xs,∀(j:World) (r:List Value),Below w w j->(lF .u8) S j r x->Calls prog 64 #[.agg r.toArray] j (pZ (lF .u8) x j)):
  Calls prog 63 #[.slice A n c,.func (.func 64) #[] #[]] w (ru (lF .u8) n xs w):=by
 have T:=E3;unfold mg at T;have D:=hv.len;have p:=O0 D.1;have U:=hv;have E:=hS;have V:=hf;have F:=G8 n R w;obtain⟨B,l⟩:=Xq w.heap.size;have a:ma (lF .u8) 125 3 B (w.alloc (vl n)) B n ([]:List (Hd)):=ma.start _ (by rw[l];exact O2 _ _) (by rw[QO]);have d:Below B w (w.alloc (vl n)):=by rw[l];exact Ba _ _
 rw[<-l]at F;have g:=O0 l;clear hS D hf l
 go_enter func63,ntmps63
 go_wp21;generalize w.alloc (vl n)=j at*;go_loopw [13] (λi wr=>∃k:Nat,k<=n/\i=k/\ma (lF .u8) 125 3 B wr B n (xs.take k)/\Below B w wr) (λi _=>n-(intOf i).toNat)
 .exact⟨0,Pb _,rfl,a,d⟩
 clear F;obtain⟨k,aj,rfl,a,d⟩:=hrel;have ak:=a.lt;by_cases al:k<n
 .obtain⟨x,hx⟩:∃x,xs[k]?=some x:=Gx (SC p.o);obtain⟨am,an,r,rfl,ao,G,s⟩:=(U.jP (lF.ok .u8) (λq m=>d.B q (by rw[g.o];exact E q m))).kt (lF.ok .u8) k x hx;obtain⟨t,u,c1,v,y,z,rfl⟩:=G.opn;have I:=s 0 _ rfl;have W:=s 1 _ rfl;have X:=s 2 _ rfl;rw[Pc]at I;obtain⟨ap,aq⟩:=mG k n;have C:=Ba wr (.cells (ka x.name t u c1 v y z) 125);have Y:=(V x (O5 hx) (wr.alloc (.cells (ka x.name t u c1 v y z) 125)) [tx x.name,.slice t u c1,.slice v y z] (by rw[<-g.o];exact d.T (C.M (SC g.o))) ((lF.ok .u8).jP G (λq m=>C.B q (SD (E q m) g.o))))
  have Z:=O0 hx;clear s hx;go_wp21;apply Y.M;rintro e J ⟨r,rfl,K,aa⟩;obtain⟨L,M,c2,N,O,P,rfl⟩:=K.opn;have ar:(wr.alloc (.cells (ka x.name t u c1 v y z) 125)).heap.size=wr+1:=SG;have Q:Below wr wr J:=C.T (aa.M SE);have f:=(a.jP (lF.ok .u8) Q)
  have ab:=(d.T (Q.M SE))
  have ac:=f.frozen (k*3+0);have au:=f.frozen (k*3+1);have av:=f.frozen (k*3+2);rw[Pc]at ac;have aw:k*3+2<n*3:=SE;obtain⟨ax,ay⟩:=f.cell (lF.ok .u8) (i:=k*3) SE;obtain⟨az,aA⟩:=f.cell (lF.ok .u8) (i:=k*3+1) SE;obtain⟨aB,aC⟩:=f.cell (lF.ok .u8) (i:=k*3+2) SE;have ad:=(show ma (lF .u8) 125 3 B (ky J B (k*3) [tx x.name,.slice L M c2,.slice N O P]) B n (xs.take (k+1))from by have e:xs.take (k+1)=xs.take k++[x]:=(by rw[PM,Z.o];rfl);rw[e];have ae:(xs.take k).length=k:=(by rw[Pw];have:=p.o;omega);exact f.put (lF.ok .u8) ((lF.ok .u8).M K (λq m=>by obtain⟨aD,af⟩:=m;have:=g.o;exact⟨SE,af,SE⟩)) SE (by rw[ae]))
  have ag:=(kQ (lo:=B) (b:=B) (O9 _) (r:=[tx x.name,.slice L M c2,.slice N O P]) (o:=(k*3)) ab)
  clear a d I W X;go_wp21;go_roundw
  .exact⟨k+1,SE,SJ,ad,ag⟩
  simp[intOf];omega
 obtain rfl:n=k:=SE;have ah:xs.take n=xs:=Pq (SC p.o);rw[ah]at a;go_wp21;go_ret;have ai:=g.o;subst ai;exact⟨rfl,a.done (lF.ok .u8) (SC p.o) (O9 _) SE,d⟩
def yO.nk{d:Nat}{a}{b:Nat}{c c1 c2 e f g s j k l x}(h:yO d a b c c1 c2 e f g s j k l x)(i:Nat)(u):NK a x (x.setCell ⟨b,i,none⟩ u):=NK.set h.l
def yO.B5{d:Nat}{e}{f:Nat}{g c1 c2 i j k s n l m x}(h:yO d e f g c1 c2 i j k s n l m x){u}(hu:jT (ko .u8 De) (Nw e x) x u s.kA):yO d e f g c1 c2 i j k s true l m (x.setCell ⟨f,3,none⟩ u):=by obtain⟨a,b,c,hx,v,w,p,r,e3,t⟩:=h.r;have hn:=h.nk 3 u;exact⟨h.g.T (nj.set rfl),h.l,u,b,c,jO hx,λh=>by simp at h,λ_=>nA (ko.ok .u8 De) hn hu,p,λq=>nA (kp.ok .u8 d) hn (r q),e3,λq=>nA (kp.ok .u8 d) hn (t q)⟩
def yO.Kf{d:Nat}{e}{f:Nat}{g c1 c2 i j k s l n m x}(h:yO d e f g c1 c2 i j k s l n m x){u}(hu:jT (kp .u8 d) (Nw e x) x u s.th):yO d e f g c1 c2 i j k s l true m (x.setCell ⟨f,4,none⟩ u):=by obtain⟨a,b,c,hx,p,r,v,w,e3,t⟩:=h.r;have hn:=h.nk 4 u;exact⟨h.g.T (nj.set rfl),h.l,a,u,c,jO hx,p,λq=>nA (ko.ok .u8 De) hn (r q),λh=>by simp at h,λ_=>nA (kp.ok .u8 d) hn hu,e3,λq=>nA (kp.ok .u8 d) hn (t q)⟩
def yO.Nu{d:Nat}{e}{f:Nat}{g c1 c2 i j k s l m n x}(h:yO d e f g c1 c2 i j k s l m n x){u}(hu:jT (kp .u8 d) (Nw e x) x u s.el):yO d e f g c1 c2 i j k s l m true (x.setCell ⟨f,5,none⟩ u):=by obtain⟨a,b,c,hx,p,r,t,v,e3,w⟩:=h.r;have hn:=h.nk 5 u;exact⟨h.g.T (nj.set rfl),h.l,a,b,u,jO hx,p,λq=>nA (ko.ok .u8 De) hn (r q),t,λq=>nA (kp.ok .u8 d) hn (v q),λh=>by simp at h,λ_=>nA (kp.ok .u8 d) hn hu⟩
abbrev wv(a b c):=(λ(d:Value) (e:World)=>∃(f:Option Addr),∃(g h:Nat),d=.slice f g h/\jT (kp .u8 a) (Nw b e) e (.slice f g h) c:Go.Value->Go.World->Prop)
def Jg:(prog.info? 107).map (λi=>(i.zero,i.size,i.bytes))=some (some (.agg #[Em,false]),2,24):=SH
def Jh:(prog.info? 108).map (λi=>(i.zero,i.size,i.bytes))=some (some (.agg #[Em,Em,.int .i64 0]),3,40):=SH
def BS.nk{a}{b:Nat}{c d e g f j k x}(h:BS a b c d e g f j k x)(i:Nat)(u):NK a x (x.setCell ⟨b,i,none⟩ u):=NK.set h.l
def BS.B5{c}{d:Nat}{e g i j f l k x}(h:BS c d e g i j f l k x){u}(hu:jT lM (Nw c x) x u f.km):BS c d e g i j f true k (x.setCell ⟨d,1,none⟩ u):=by obtain⟨a,b,hx,p,r,m,n⟩:=h.r;have hn:=h.nk 1 u;exact⟨h.g.T (nj.set rfl),h.l,u,b,jO hx,λh=>by simp at h,λ_=>nA lM.ok hn hu,m,λq=>nA mY.ok hn (n q)⟩
def BS.Kf{c}{d:Nat}{e g i j f k l x}(h:BS c d e g i j f k l x){u}(hu:jT mY (Nw c x) x u f.lB):BS c d e g i j f k true (x.setCell ⟨d,2,none⟩ u):=by obtain⟨a,b,hx,m,n,p,r⟩:=h.r;have hn:=h.nk 2 u;exact⟨h.g.T (nj.set rfl),h.l,a,u,jO hx,m,λq=>nA lM.ok hn (n q),λh=>by simp at h,λ_=>nA mY.ok hn hu⟩
def Hc(f:Fl)(w:World)(e:Ending)(w':World):Prop:=∃(a:Option Addr) (b c:Nat) (d:Option Addr) (g i:Nat) (j:Option Addr) (k d3:Nat),e=.returned (.agg #[tx f.name,.slice a b c,.slice d g i,.slice j k d3])/\oY (Nw w w') w' a b c d g i j k d3 f/\Below w w w'
def DU:(prog.info? 5).map (λi=>(i.zero,i.size,i.bytes))=some (some (.int .u8 0),1,1):=SH
def yl(n:Nat):(madeCells #[.int .u8 0] n).size=n:=by simp[madeCells]
def DW(n m:Nat)(h:n<=m)(hm:m<=1000)(w):(Instr.makeSlice 22 (.int .i64 (n:Int)) (.int .i64 (m:Int))).run prog w=.ok (.slice w n m) (w.alloc (wg m)):=by obtain⟨b,c,d,a,e⟩:=Pu DU;have:=Qu (P:=prog) w 22 5 b (.int .u8 0) underlying22 c d .i64 .i64 (n:Int) (m:Int) SE SE (by rw[a];simp;omega) (by rw[e];omega) SE;rw[a,PG,PZ,PZ]at this;exact this
def ow.get{w}{b n:Nat}(h:ow w b n){i:Nat}(hi:i<n):∃x:Int,w.cell? ⟨b,i,none⟩=some (.int .u8 x)/\w.frozen? ⟨b,i,none⟩=false/\∀a:Int,ow (w.setCell ⟨b,i,none⟩ (.int .u8 a)) b n:=by obtain⟨e,c,f,d⟩:=h;obtain⟨x,hx⟩:=d i hi;rw[Pk]at hx;exact⟨x,jU c i _ hx,jS c i,λa=>⟨e.setIfInBounds i (.int .u8 a),jO c,by simpa using f,d.set i a (.inr (.inr rfl))⟩⟩
def E8(w:World)(e:Ending)(w':World):Prop:=e=.returned (.slice w 8 8)/\ow w' w 8/\Below w w w'
def E9(x:Int)(w):Calls prog 103 #[.int .u64 x] w (E8 w):=by
 have e:(Instr.makeSlice 22 (.int .i64 8) (.int .i64 8)).run prog w=.ok (.slice w 8 8) (w.alloc uc):=DW 8 8 (O9 _) SE w;have a:=(Ba w uc)
 have b:ow (w.alloc uc) w 8:=⟨_,O2 w _,yl 8,DV 8⟩
 go_enter func103,ntmps103
 go_wp2;generalize w.alloc uc=f at*;go_loopw [8] (λi wr=>∃k:Nat,k<=8/\i=k/\ow wr w 8/\Below w w wr) (λi _=>8-(intOf i).toNat)
 .exact⟨0,SE,rfl,b,a⟩
 obtain⟨k,g,rfl,b,a⟩:=hrel;by_cases c:k<8
 .obtain⟨j,l,m,d⟩:=b.get c;have n:IntKind.i64.wrap (8*(k:Int))=8*(k:Int):=SI;have p:IntKind.i64.wrap (56-8*(k:Int))=56-8*(k:Int):=SI;go_wp2;go_roundw
  .exact⟨k+1,SE,SJ,d _,jX a (O9 _)⟩
  simp[intOf];omega
 obtain rfl:k=8:=SE;go_wp2;go_ret;exact⟨rfl,b,a⟩
def lN.get{T w}{b n:Nat}(h:lN T w b n){i:Nat}(hi:i<n):∃x:Int,w.cell? ⟨b,i,none⟩=some (.int .u32 x)/\w.frozen? ⟨b,i,none⟩=false/\∀a:Int,lN T (w.setCell ⟨b,i,none⟩ (.int .u32 a)) b n:=by obtain⟨e,c,f,d⟩:=h;obtain⟨x,hx⟩:=d i hi;rw[Pk]at hx;exact⟨x,jU c i _ hx,jS c i,λa=>⟨e.setIfInBounds i (.int .u32 a),jO c,by simpa using f,d.set i a (.inr (.inr rfl))⟩⟩
def lN.to{T w w'}{b n:Nat}(h:lN T w b n)(hb:Below w w w'):lN T w' b n:=h.jP (hb.B b h.lt)
def lN.set{T w}{b n:Nat}(h:lN T w b n)(i:Nat)(hi:i<n)(x:Int):lN T (w.setCell ⟨b,i,none⟩ (.int .u32 x)) b n:=by obtain⟨_,_,_,hs⟩:=h.get hi;exact hs x
def xn{ops:Array Oper}{rest:List Oper}{o}{a:Act}{Q:Exit->Act->World->Prop}{w:World}(y:o.guard=none)(d s:Operand)
  (z:o.op=.call {callee:=.builtin .copy,args:=#[d,s],argTypes:=#[22,22]}) (b kt n c l:Nat) (A:Option Addr) (hd:a.eval d=.slice (some ⟨b,8+kt,none⟩) (64-kt) l) (hs:a.eval s=.slice A n c)
  (h:my w b) (B:FQ b w A n) (F:kt<64) (hn:0<n) {m:Nat} (hm:m=min n (64-kt))
  (hK:∀w',my w' b->w.grownBy w' (some b)->wpList prog ops Q rest (a.put o.dst (.int .i64 (m:Int))) w'):wpList prog ops Q (o::rest) a w:=by
 obtain⟨C,r,G⟩:=id h;obtain⟨p,q,rfl,hp,I,t⟩:=B hn;obtain⟨i,j⟩:=Xq ((List.range (min n (64-kt))).map λf=>(w.cell? ⟨p,q+f,none⟩).getD (.int .u8 0));have u:i.length=min n (64-kt):=by rw[j];simp
 have hu:∀v∈i,∃x:Int,v=.int .u8 x:=by intro v hv;rw[j,Qo]at hv;obtain⟨f,g,rfl⟩:=hv;rw[Rq]at g;obtain⟨x,hx⟩:=t f SE;exact⟨x,by rw[hx];rfl⟩
 refine wpList_copy_own y d s _ _ z 5 underlying22 SH b (8+kt) (64-kt) l ⟨p,q,none⟩ n c hd hs C _ r i u ?_ SE ?_ ?_
 .intro f v g;rw[j,PX]at g;have D:f<min n (64-kt):=by have:=(Pm.1 (show i[f]?=some v by rw[j,PX];exact g)).1;omega
  obtain⟨x,hx⟩:=t f SE;rw[kM];rw[Pg (by simpa using D)]at g;simp only[List.getElem_range,RD,hx,Ry,Rv]at g;rw[hx,g]
 .intro v hv;obtain⟨x,rfl⟩:=hu v hv;rfl
 .have:=hK _ (h.copy r (kt:=kt) SE hu) ⟨rfl,rfl,rfl,S5,λk J E=>setRow_other _ _ _ _ (λe=>E (by rw[e]))⟩;rw[hm,<-u]at this;exact this
def KW(w:World)(b:Nat)(e:Ending)(w':World):Prop:=e=.returned (.tuple #[])/\my w' b/\w.grownBy w' (some b)
def my.same{w w'}{b c:Nat}{d}(h:my w b)(e:w.heap[b]?=some (.cells d 240 (0,0)))(f:w'.heap[c]?=some (.cells d 240 (0,0))):my w' c:=by obtain⟨i,a,g⟩:=h;rw[e]at a;injection a with a;injection a with a _ _;subst a;exact⟨_,f,g⟩
def oZ.set{T w}{b n:Nat}(h:oZ T w b n)(i:Nat)(x:Int):oZ T (w.setCell ⟨b,i,none⟩ (.int .u8 x)) b n:=by obtain⟨a,c,d,e⟩:=h;exact⟨a.setIfInBounds i (.int .u8 x),jO c,by simpa using d,e.set i x (.inr (.inr rfl))⟩
def KX{a}(hs:a.size=32)(c:oh .u8 a 0 32):∃z:Nat->Int,a=#[.int .u8 (z 0),.int .u8 (z 1),.int .u8 (z 2),.int .u8 (z 3),.int .u8 (z 4),.int .u8 (z 5),.int .u8 (z 6),.int .u8 (z 7),.int .u8 (z 8),.int .u8 (z 9),.int .u8 (z 10),.int .u8 (z 11),.int .u8 (z 12),.int .u8 (z 13),.int .u8 (z 14),.int .u8 (z 15),.int .u8 (z 16),.int .u8 (z 17),.int .u8 (z 18),.int .u8 (z 19),.int .u8 (z 20),.int .u8 (z 21),.int .u8 (z 22),.int .u8 (z 23),.int .u8 (z 24),.int .u8 (z 25),.int .u8 (z 26),.int .u8 (z 27),.int .u8 (z 28),.int .u8 (z 29),.int .u8 (z 30),.int .u8 (z 31)]:=by
 refine⟨λi=>Ki ((a[i]?).getD (.int .u32 0)),?_⟩;have e:a.toList=(List.range 32).map (λi=>Value.int .u8 (Ki ((a[i]?).getD (.int .u32 0)))):=by apply RR;intro i;by_cases b:i<32;rw[PX,Sr b];obtain⟨x,hx⟩:=c i b;rw[Pk]at hx;simp[hx,Ki];have d:a.toList[i]?=none:=(by rw[RV];simp;omega);rw[d];symm;rw[RV];simp;omega
 exact(Qw (xs:=a)).symm.T (PL List.toArray e)
def KY(f:Fl)(w:World)(e:Ending)(w':World):Prop:=∃a:Nat,e=.returned (.tuple #[.pointer a,.int .i64 0])/\pc w' a f/\Below w w w'/\w<=a
def yn(a:Nat)(f w)(h:pc w a f):Calls prog 46 #[.pointer a] w λe w'=>e=.returned (.int .i64 (f.km.length:Int))/\w'=w:=by
 obtain⟨b,S,c,d,g,i,j,k,l,m,d3,pb,n,c1,c2,c3,c4,hf,_⟩:=h;have hn:=hf.km.len.1;rw[hn]
 go_enter func46,ntmps46
 go_wp2;go_ret;exact⟨rfl,rfl⟩
def nu.arr(e:Ev):Nat:=if e.kind=7 then(if e.d=4 then 4 else if e.d=5 then 5 else if e.d=6 then 6 else 7)else e.kind
def nu.base(e:Ev):Ev:=⟨e.tick,e.comp,e.kind,0,e.n,0,e.hd,if e.kind=7 then e.d else 0,e.args⟩
def nu.used(e:Ev):Ev:=
 match arr e with
 |1=>{base e with peer:=e.peer,d:=e.d,hd:=0,args:=[]}
 |2=>{base e with d:=e.d,hd:=0,args:=[]}
 |3=>{base e with hd:=0,args:=[]}
 |5=>{base e with peer:=e.peer,copy:=e.copy}
 |8=>{base e with peer:=e.peer}
 |9=>{base e with d:=e.d}
 |10=>{base e with peer:=e.peer,copy:=e.copy,hd:=0}
 |11=>{base e with n:=0,args:=[]}
 |_=>base e
def nu.Gf(e:Ev):List UInt8:=
 (if e.peer=1 then [102,101,116,99,104,32]else [115,116,111,114,101,32])++(Lib.itoa e.n++([58,32]++(Lib.itoa (e.args[0]?.getD 0)++((if e.args.length=2 then [32,61,32]++Lib.itoa (e.args[1]?.getD 0)else [])++(if e.copy=1 then [32,102,97,105,108,115]else [])))))
def ki(f:Fl):Nm:=⟨f.jZ.map (·.name),f.km.map (·.name),kV f⟩
def pQ{f}{c:Int}:pE (ki f) c=true↔0<=c/\c<f.jZ.length:=by simp[pE,ki]
def rO{f}{c:Int}:zI (ki f) c=true↔0<=c/\c<f.km.length:=by simp[zI,ki]
def BI(w a b):(Instr.field 107 (.agg #[a,b]) 0).run prog w=.ok a w:=SH
def Gg{f}{i:Nat}{x}(hx:(kV f)[i]?=some x):hL (ki f) (i:Int)=x:=by have hi:=(Pm.1 hx).1;unfold hL;rw[PJ (pQ.2 ⟨SE,by simp[kV]at hi;omega⟩)];simp[ki,hx]
def GF{f}{c:Int}(h:¬(0<=c/\c<f.jZ.length)):hL (ki f) c=[]:=by unfold hL;rw[Pn];rw[pQ];exact h
def mD{w:World}{b:Nat}{T:TypeId}{a c d e f g i j k:Value}(h:w.heap[b]?=some (.cells #[a,c,d,e,f,g,i,j,k] T)):
  w.cell? b=some a/\w.cell? ⟨b,1,none⟩=some c/\w.cell? ⟨b,2,none⟩=some d/\w.cell? ⟨b,3,none⟩=some e/\w.cell? ⟨b,4,none⟩=some f/\w.cell? ⟨b,5,none⟩=some g/\w.cell? ⟨b,6,none⟩=some i/\w.cell? ⟨b,7,none⟩=some j/\w.cell? ⟨b,8,none⟩=some k:=
 ⟨jN h 0,jN h 1,jN h 2,jN h 3,jN h 4,jN h 5,jN h 6,jN h 7,jN h 8⟩
def xL:List Int->Int
 |[]=>0
 |x::l=>if x=0 then xL l else x
def AO:∀{l:List Int},xL l=0↔∀x∈l,x=0
 |[]=>by simp[xL]
 |x::l=>by
  unfold xL;split
  rename_i h
  rw[AO];simp[h]
  rename_i h
  simp[h]
def wj:∀{l:List Int} {k:Nat},(∀a x,a<k->l[a]?=some x->x=0)->xL l=xL (l.drop k)
 |[],k,_=>by simp
 |x::l,0,_=>rfl
 |x::l,k+1,h=>by have b:=h 0 x SE rfl;subst b;rw[show xL (0::l)=xL l from by simp[xL]];exact wj λa c d hy=>h (a+1) c SE (by simpa using hy)
def K0(b n:Nat)(l w)(hn:l.length=n)(r:n<=1000)(hc:∀k x,l[k]?=some x->w.cell? ⟨b,k,none⟩=some (.int .i64 x))(hb:b<w.heap.size):
  Calls prog 127 #[.slice b n n] w λe w'=>e=.returned (.int .i64 (xL l))/\w'=w:=by
 have p:=O0 hc;have c:=O0 hn;clear hc hn
 go_enter func127,ntmps127
 go_wp21;go_loopw [8] (λi wr=>∃k:Nat,k<=n/\i=k/\(∀a x,a<k->l[a]?=some x->x=0)/\w=wr) (λi _=>n-(intOf i).toNat)
 .exact⟨0,Pb _,rfl,λa x h=>SE,rfl⟩
 obtain⟨k,s,rfl,hz,rfl⟩:=hrel;have d:=O0 hz;clear hz;by_cases t:k<n
 .obtain⟨x,hx⟩:∃x,l[k]?=some x:=Gx (SC c.o);have u:=p.o k x hx;have g:=O0 hx;obtain⟨v,y⟩:=mG k n;clear hx;by_cases j:x=0
  .subst j;go_wp21;go_roundw
   .exact⟨k+1,SE,SJ,λa q z hy=>by rcases QT a k with m|m;exact d.o a q m hy;obtain rfl:a=k:=SE;rw[g.o]at hy;injection hy with hy;exact hy.symm,trivial⟩
   simp[intOf];omega
  have hr:xL l=x:=by rw[wj d.o];have:=g.o;rw[QF (SC c.o)];rw[Pg (SC c.o)]at this;injection this with this;rw[this];simp[xL,j]
  have f:=O0 hr;clear hr;go_wp21;go_ret;exact⟨by rw[f.o];rfl,rfl⟩
 obtain rfl:n=k:=SE;have hr:xL l=0:=(by rw[wj d.o,Q5 (SC c.o)];rfl);have f:=O0 hr;clear hr;go_wp21;go_ret;exact⟨by rw[f.o];rfl,rfl⟩
def Jp{w:World}{b:Nat}{l:List Int}{T:TypeId}{a:Array Value}(h:w.heap[b]?=some (.cells a T (0,0))){k:Nat}{x:Int}(hx:l[k]?=some x)(hc:a=(l.map λx=>Value.int .i64 x).toArray:=by rfl):w.cell? ⟨b,k,none⟩=some (.int .i64 x):=by subst hc;exact jU h k _ (by simp[hx])
def AQ(a b:Ev):xL [Lib.compareInt a.tick b.tick,Lib.compareInt a.comp b.comp,Lib.compareInt (a.kind:Int) (b.kind:Int),Lib.compareInt a.peer b.peer,Lib.compareInt a.n b.n,Lib.compareInt a.copy b.copy,Lib.compareInt a.hd b.hd,Lib.compareInt a.d b.d,cmpL a.args b.args]=0↔a=b:=by obtain⟨c,d,e,f,g,i,j,k,l⟩:=a;obtain⟨m,n,p,q,r,s,t,u,v⟩:=b;rw[AO];simp only[Pz,Ps,PU,forall_eq_or_imp,forall_eq,qC,yq,Int.natCast_inj,Ev.mk.injEq]
def nu.FN(f:UInt8->Bool):List UInt8->Bool
 |[]=>false
 |c::_=>f c
def AU{B}(n:Int)(hn:zL B n)(w)(a:qs B w):Calls prog 48 #[.int .i64 n,.int .i64 10] w (kd (tx (Lib.itoa n)) w):=by
 cases B with
 |true=>exact(Tryz.strconv_FormatInt_10 n hn.1.1 hn.1.2 w (a rfl)).M λ_ _ ⟨he,k,c,hw⟩=>⟨he,by rw[hw];exact Lib.below_grow _ _ (O9 _) _ _⟩
 |false=>obtain⟨b,d⟩:=hn.2 rfl;obtain⟨i,rfl⟩:=Qx b;exact(Tryz.strconv_FormatInt_10_small i SE w).M λ_ _ ⟨he,hw⟩=>⟨by rw[he,AR],by rw[hw];exact Below.refl _ _⟩
def rF:∀(xs:List Int),(∀x∈xs,xu x)->(Lib.join (xs.map Lib.itoa) [44,32]).length<=23*xs.length
 |[],_=>by simp[Lib.join]
 |[x],h=>by have:=P0 x (h x SG).1 (h x SG).2;rw[show Lib.join ([x].map Lib.itoa) [44,32]=Lib.itoa x from Lib.join_one _ _];simp;omega
 |x::y::xs,h=>by have b:=P0 x (h x SG).1 (h x SG).2;have a:=rF (y::xs) (λz hz=>h z (by simp[hz]));rw[Hm];simp only[Pe,PA,PE]at a⊢;omega
def wk{P:List UInt8->Prop}{l:List (List UInt8)}(a:P [])(h:∀x∈l,P x)(i:Nat):P (l[i]?.getD []):=by
 cases hx:l[i]? with
 |none=>exact a
 |some x=>exact h x (O5 hx)
def BU.set{w:World}{b a:Nat}{c d:Array Value}{x:World}(h:BU w b a c d x)(f:w<=a)(g:b≠a)(i:Nat)(u:Value){e:Array Value}(hc:d.setIfInBounds i u=e:=by rfl):BU w b a c e (x.setCell ⟨a,i,none⟩ u):=
 ⟨jX h.1 f,(Pd _ _ _ _ g).T h.2.1,by rw[<-hc];exact jO h.2.2⟩
def Ff{e:Ev}(hn:xu e.n)(hr:∀x∈e.args,xu x):(Gf e).length<=100:=by
 have a:=P0 e.n hn.1 hn.2;have g:∀i:Nat,(Lib.itoa (e.args[i]?.getD 0)).length<=21:=λi=>by
  cases hx:e.args[i]? with
  |none=>exact P0 _ SF SF
  |some x=>exact P0 _ (hr x (O5 hx)).1 (hr x (O5 hx)).2
 have b:=g 0;have c:=g 1;unfold Gf;simp only[Pe,PA,PE];split<;>split<;>split<;>simp only[Pe,PA,PE]<;>omega
def L.AW(s:ByteArray)(w:World)(hs:s.size<=maxLen):
  Calls prog 110 #[.string s] w λe w'=>e=.returned (.int .i64 (ke.lH false s.data.toList))/\w=w':=by
 unfold maxLen at hs
 go_enter func110,ntmps110
 go_wp21
 go_loop [3] (λi=>∃k:Nat,k<=s.size/\i=k/\k+ke.lH false (s.data.toList.drop k)=ke.lH false s.data.toList) (λi=>s.size-(intOf i).toNat)
 .exact⟨0,Pb _,rfl,SG⟩
 obtain⟨k,j,rfl,d⟩:=hrel;have l:=O0 d;clear d;go_wp21;refine(zz _ _ SR).M ?_;rintro e w' ⟨rfl,rfl⟩;rw[ke.qA];have hb:=ke.uL ke.nx s k j;generalize hx:ke.pre ke.nx (s.data.toList.drop k)=a at*;have m:=O0 hx;have f:=O0 (ke.CA _ _ _ l.o hx);clear hx;go_wp21;apply(Tryz.strings_HasPrefix _ _ _).M;rintro e w' ⟨rfl,rfl⟩;rw[ke.qA];cases hp:ke.pfx (s.data.toList.drop (k+a)) [47,47]
 .have c:=O0 hp;have b:Lib.hasPrefix (s.data.toList.drop (k+a)) ({data:=#[47,47]}:ByteArray).data.toList=false:=hp;clear hp;rw[b];clear b;go_wp21;go_ret;exact⟨by rw[ke.GV _ _ _ f.o m.o c.o];rfl,rfl⟩
 have c:=O0 hp;have b:Lib.hasPrefix (s.data.toList.drop (k+a)) ({data:=#[47,47]}:ByteArray).data.toList=true:=hp;clear hp;rw[b];clear b;go_wp21;refine(zA _ _ SR).M ?_;rintro e w' ⟨rfl,rfl⟩;rw[ke.qA];have n:=ke.uL ke.od s (k+a) hb;generalize hx:ke.pre ke.od (s.data.toList.drop (k+a))=p at*;obtain⟨g,r⟩:=ke.Bl _ _ _ f.o c.o hx;have q:=O0 g;clear hx g;go_wp21
 go_round
 .exact⟨k+a+p,n,SJ,q.o⟩
 simp[intOf];omega
def kZ.set{T:kG}{V:PV}{w w'}{pb pos q:Nat}(h:kZ T V w pb pos w')(a:q<=T.length):kZ T V w pb q (w'.setCell ⟨pb,1,none⟩ (.int .i64 (q:Int))):=⟨h.1.step a,jR h.2 (jY _ _ _ _)⟩
def K5(T:kG)(V:PV)(pb q:Nat)(s:St)(w:World)(e:Ending)(w':World):Prop:=∃(A:Option Addr) (c:Nat),e=.returned (.agg #[.int .u8 s.kind,tx s.name,tx s.hd,.slice A s.kA.length c,Nl,Nl])/\jT (ko .u8 De) (λb=>w<=b/\b<w') w' (.slice A s.kA.length c) s.kA/\kZ T V w pb q w'
def bind_some{a b:Type}{o:Option a}{f:a->Option b}{c:b}(h:(o>>=f)=some c):∃x,o=some x/\f x=some c:=by
 cases o with
 |none=>cases h
 |some x=>exact⟨x,rfl,h⟩
def K7(T:kG)(V:PV)(pb q:Nat)(l:List St)(w:World)(e:Ending)(w':World):Prop:=∃(A:Option Addr) (c:Nat),e=.returned (.slice A l.length c)/\jT (kp .u8 Ds) (λb=>w<=b/\b<w') w' (.slice A l.length c) l/\kZ T V w pb q w'
def Lc(T:kG)(V:PV)(pb q:Nat)(l:List Hd)(w:World)(e:Ending)(w':World):Prop:=∃(A:Option Addr) (c:Nat),e=.returned (.agg #[.slice A l.length c])/\jT (lF .u8) (λb=>w<=b/\b<w') w' (.slice A l.length c) l/\kZ T V w pb q w'
def Jx(f:Fl)(w:World)(e:Ending)(w':World):Prop:=∃(a:Option Addr) (c1:Nat) (c:Option Addr) (c3:Nat),e=.returned (.tuple #[.agg #[tx f.name,.slice a f.km.length c1,Nl,.slice c f.jZ.length c3],.int .i64 0,.int .i64 0])/\
 oY (λb=>w<=b/\b<w') w' a f.km.length c1 none 0 0 c f.jZ.length c3 f/\Below w w w'
def L1{c d b}(k:Nat)(e:c.length<=1000/\d.length<=1000/\b.length<=90)(hp:∀k p,b[k]?=some p->p∉b.take k/\(d.find? λx=>x.name==p)=none/\oa c p=false/\p.length<=12):Il ⟨0,0,0,0,[],k⟩ c d b:=by
 refine⟨e,λname t f=>?_,λh=>absurd (show(0:Nat)=1 from h) SF,λk a=>absurd a SG,λh=>absurd (show 1<=(0:Nat)from h) SF,hp⟩;rcases f with⟨_,⟨k,a,_⟩|⟨k,a,_⟩⟩|⟨_,a,_⟩
 exact absurd a SG;exact absurd a SG;exact absurd (show 1<=(0:Nat)from a) SF
def Lm(f:Fl)(w:World)(e:Ending)(w':World):Prop:=∃a:Nat,e=.returned (.tuple #[.pointer a,.int .i64 0,.int .i64 0])/\pc w' a f/\Below w w w'/\w<=a
def JA:0<(ke.lexB ⟨src.toArray⟩).length:=SM
def Lq{a b}(h:tx a=tx b):a=b:=by
 have c:(⟨a.toArray⟩:ByteArray)=⟨b.toArray⟩:=by injection h
 simpa using(PL (λz:ByteArray=>z.data.toList) c)
def nu.yS(u:Nat):List UInt8:=if u=0 then []else Lib.decDigits u
def nu.yJ{u:Nat}(h:0<u):yS u=yS (u/10)++[UInt8.ofNat (48+u % 10)]:=by
 unfold yS;rw[if_neg SE,Lib.decDigits];split
 rename_i a
 rw[if_pos SE,show u % 10=u from SE];rfl;rw[if_neg SE]
def nu.ql(m:Nm)(a b n:Int):List UInt8:=
 if pE m a&&(pE m b&&decide (0<=n))then [109,101,115,115,97,103,101,32]++(Lib.itoa n++([32,102,114,111,109,32]++(cN m a++([32,116,111,32]++cN m b))))else []
def nu.D7{m:Nm}(hb:∀i,(cN m i).length<=12){a b n:Int}(c: -9223372036854775808<=n)(d:n<=9223372036854775807):(ql m a b n).length<=63:=by unfold ql;split;have:=Lib.itoa_length_le n c d;have:=hb a;have:=hb b;simp only[List.length_append,List.length_cons,List.length_nil];omega;simp
def nu.FU(m:Nm)(k a b n:Int):List UInt8:=if k=1\/k=3\/k=4\/k=8\/k=9 then cN m a else if k=2 then fN m a else if k=5\/k=6\/k=7 then ql m a b n else []
def narrateKeys.both{a b:Bool}(c:a=true)(hb:b=true):(a&&b)=true:=by rw[c,hb];rfl
def narrateKeys.closed:joinedFacts Tryz.pinned.checked.prog 3 Tryz.f3 (OpenSpec.ofChange Rows.narrateKeysSpec).bare Rows.narrateKeysRow=true:=by unfold joinedFacts;exact(both (both (both (both (both (both (both (both (both (both (both (both (both (both (both (both (both (both (both (both (both (both (both (both (both (both (both (both (both (both (both (by kernel_rfl) GM) Lt) (by kernel_rfl)) (by kernel_rfl)) (by kernel_rfl)) (by kernel_rfl)) (by kernel_rfl)) (by kernel_rfl)) FJ) Mq) Mr) JD) (by kernel_rfl)) (by kernel_rfl)) (by kernel_rfl)) (by kernel_rfl)) (by kernel_rfl)) (by kernel_rfl)) (by kernel_rfl)) (by kernel_rfl)) (by kernel_rfl)) BR) (by kernel_rfl)) JE) Mt) H7) Lu) (by kernel_rfl)) (by kernel_rfl)) (by kernel_rfl)) (by kernel_rfl))
end Go.Proofs.YtjoamapacifofaaGreatDoor
namespace Go.Proofs.YtjoamapacifofaaGreatDoor.L
open Go.RowKit Go.Shelf Go.Proofs.Tryz
attribute [local go_sem] Oper.semAt_some
def Kk(x:ke.Tok):Value:=.agg #[.int .u8 (x.kind:Nat),.string x.text,.int .i64 (x.off:Nat)]
def Kp(n₀ a:Nat)(W b:World):Prop:=Below n₀ W b/\b.heap[a]?=W.heap[a]?
def Laid.jQ{n:Nat}{A B:World}(h:Below n A B)(hn:3+1<=n)(a:Laid A):Laid B:=by obtain⟨⟨b,c,d⟩,⟨e,f,g⟩⟩:=a;exact⟨⟨b,c,(h.B _ SE).T d⟩,⟨e,f,(h.B _ SE).T g⟩⟩
def Jr(s:ByteArray)(w:World):
  Calls prog 71 #[.string s] w λe w'=>e=.returned (.func (.func 109) #[] #[.pointer w])/\w.alloc (.cells #[.string s] 9)=w':=by
 go_enter func71,ntmps71
 go_wp2;go_ret;exact⟨rfl,rfl⟩
def Js(n:Nat)(hn:1<=n)(l f n₀:Nat)(s:ByteArray)(hs:s.size<=maxLen)(u:3+1<=n₀)(c k:List ke.Tok->World->Prop)
  (w:∀pre x W,c pre W->pre.length<(ke.lexB s).length->YieldAt Fence.wide (n-1) prog l #[Kk x] W λe b=>
   (e=.returned (.bool true)/\c (pre++[x]) b/\Kp n₀ f W b)\/(e=.returned (.bool false)/\k (pre++[x]) b))
  (W:World) (m:W.heap[f]?=some (.cells #[.string s] 9)) (hL:Laid W) (y:c [] W):
  CallsIn Fence.wide n prog 109 #[.func (.yield l) #[] #[],.pointer f] W λe b=>(∃v,e=.returned v)/\
   ((∃ys,ys=ke.lexB s/\c ys b)\/(∃pre,pre<+:ke.lexB s/\k pre b)):=by
 have hc:=SA m;have z:=w;have A:=hs;unfold maxLen at A;refine callsIn_of_wp func109 rfl trivial ?_ rfl;simp only[ntmps109,Qj,PA,PE,Nat.reduceAdd,Nat.reduceSub,Sn,Sp,List.push_toArray,Ss,QJ,List.cons_append]
 gi_wp2_with (refine⟨trivial,?_⟩;gi_at_call 110;apply(RF.2 (AW _ _ (by assumption))).mono;rintro e w' ⟨rfl,rfl⟩)
 have B:ke.qa s 0<=s.size:=SC (ke.uw s 0 (Pb _))
 have C:ke.lH false s.data.toList=ke.qa s 0:=by unfold ke.qa;simp
 rw[C]
 gi_loopw [3,4,5] (λo _ _ wr=>∃(pre:List ke.Tok) (a:Nat),o=a/\a<=s.size/\pre++ke.nY s a=ke.lexB s/\wr.heap[f]?=some (.cells #[.string s] 9)/\Laid wr/\c pre wr)
  (λo _ _ _=>s.size-(intOf o).toNat)
 .exact⟨[],_,rfl,B,rfl,m,hL,y⟩
 obtain⟨pre,a,rfl,R,g,p,q,r⟩:=hrel;have hc:=SA p;by_cases i:a<s.size
 .have D:=ke.sM s a i;have j:=ke.sN s a i;obtain⟨fn,tmps,assign,body,hy,hR⟩:=z pre (ke.Ad s a) wr r (by rw[<-g,j];simp)
  gi_wp2_with fail
  refine⟨trivial,?_⟩;refine(RF.2 (Hr _ _ q SR SK)).mono ?_;rintro e w' ⟨rfl,rfl⟩;rw[ke.qA];have E:qV (s.data.toList.drop a)=.tuple #[.int .u8 ((ke.nM s a).1:Nat),.int .i64 ((ke.nM s a).2:Nat)]:=rfl;rw[E];have S:Sem.run prog (Instr.yield l #[.agg #[.int .u8 ((ke.nM s a).1:Nat),.string (s.extract a (a+(ke.nM s a).2)),a]]) wr=Result.ok (Next.round l fn tmps assign body) wr:=hy;have F:ke.qI s a=a+(ke.nM s a).2+ke.qa s (a+(ke.nM s a).2):=rfl;generalize(ke.nM s a).1=T at*;generalize(ke.nM s a).2=d at*;obtain⟨U,G⟩:=D
  gi_wp2_with fail
  apply hR.mono;rintro e V (⟨rfl,I,J,K⟩|⟨rfl,L⟩)
  .have t:=K.trans p;have X:=SA t;have M:=(q.jQ J u)
   have N:=ke.uw s (a+d) G;have O:=I
   gi_wp2_with fail
   refine⟨trivial,?_⟩;refine(RF.2 (AW _ _ SR)).mono ?_;rintro e w' ⟨rfl,rfl⟩;rw[ke.qA];have P:ke.lH false (s.data.toList.drop (a+d))=ke.qa s (a+d):=rfl;rw[P];generalize ke.qa s (a+d)=Q at*
   gi_wp2_with fail
   go_roundw
   .exact⟨pre++[ke.Ad s a],a+d+Q,SJ,N,by rw[<-F,Py,Si,<-j,g],t,M,O⟩
   simp[intOf];omega
  gi_wp2_with fail
  refine Pa (results_none rfl _ _ _) rfl ?_;exact⟨⟨_,rfl⟩,.inr ⟨pre++[ke.Ad s a],⟨ke.nY s (ke.qI s a),by rw[Py,Si,<-j,g]⟩,L⟩⟩
 gi_wp2_with fail
 go_end0
 exact⟨⟨_,rfl⟩,.inl ⟨pre,by have:=g;rw[ke.qR s a i]at this;simpa using this,r⟩⟩
def Nx(n₀ a:Nat){A B C:World}(b:Kp n₀ a A B)(c:Kp n₀ a B C):Kp n₀ a A C:=⟨b.1.T c.1,c.2.T b.2⟩
def Ny{n₀ a:Nat}{w:World}(hn:n₀<=w)(f:a<w)(W:World)(l:Nat)(o b:Obj)(h:w<=l)(c:W.heap[l]?=some o)(d:o.isCells=false)(e:o.isWalk=false):Kp n₀ a W (W.putObj l b):=
 ⟨belowK_b hn W l o b h c d e,(belowK_b (n₀:=a+1) (w:=w) SE W l o b h c d e).B a SE⟩
def Db(n:Nat)(hn:1<=n)(a n₀:Nat)(s:ByteArray)(hs:s.size<=maxLen)(b:3+1<=n₀)(w:World)(d:n₀<=w)(e:a<w)
  (f:w.heap[a]?=some (.cells #[.string s] 9)) (hL:Laid w):
  SeqStopsK Fence.wide n prog 109 #[.pointer a] (λx=> #[Kk x]) (Kp n₀ a) (λys=>ys=ke.lexB s) (λpre=>pre<+:ke.lexB s) (ke.lexB s).length w:=λl g i W c _ _ j k=>
 Js n hn l a n₀ s hs b g i j W ((c.B a e).T f) (hL.jQ (c.M d) b) k
end Go.Proofs.YtjoamapacifofaaGreatDoor.L
namespace Go.Proofs.YtjoamapacifofaaGreatDoor
open RowKit Go.Proofs.Tryz kT Maps nu pG ChangeShapes WideShapes ChangeAt
def lz.jQ{T:kG}{V:PV}{w w'}{pb pos:Nat}(h:lz T V w pb pos)(hb:Below w w w'):lz T V w' pb pos:=h.grown (jV hb)
def py{T:kG}{V:PV}{w}{pb pos:Nat}(h:lz T V w pb pos):Calls prog 113 #[.pointer pb] w (Jt T pos w):=by
 have k:=Ba w ts;have i:=O0 k;have l:=h.jQ k;obtain⟨G,I,j,hb,hc,hn,J,m⟩:=l.kt;have K:=jN hb 0;have L:=jN hb 1;have y:=jN hb 2;have c:=O2 w ts
 clear h k hb;by_cases u:pos<T.length
 .obtain⟨x,hx⟩:∃x,T[pos]?=some x:=Gx u;obtain⟨M,c1,c2⟩:=m pos x hx;obtain⟨d,e⟩:=Mk hx;have f:=O0 (And.intro d e);rw[K1]at c1;have N:(0:Int)<=(pos:Int):=SE;have z:(pos:Int)<(T.length:Int):=SE;generalize T.length=n at*;clear m l hx d e y
  go_enter func113,ntmps113
  go_upto_region 1 with fail;generalize w.alloc ts=g at*;obtain⟨a,b⟩:=Xq w.heap.size;rw[<-b]at c i⊢;have p:=O0 b;clear b;go_quiet (fail);go_wp21;obtain⟨⟨A,B,C⟩,⟨D,E,F⟩⟩:=kz c
  go_region
  go_wp21;have hF:((((g.drewN (nq+1)).setCell a (.int .u8 (x.kind:Nat))).setCell ⟨a,1,none⟩ (tx x.text.data.toList)).setCell ⟨a,2,none⟩ (.int .i64 (x.off:Nat))).heap[a]?=some (.cells #[.int .u8 (x.kind:Nat),tx x.text.data.toList,.int .i64 (x.off:Nat)] 203):=jO (jO (jO (w:=g.drewN (nq+1)) c));have q:=jN hF 0;have r:=jN hF 1;have s:=jN hF 2;have t:=p.o;refine Pa (v:=.agg #[.int .u8 (x.kind:Nat),tx x.text.data.toList,.int .i64 (x.off:Nat)]) ?_ rfl ⟨⟨_,by rw[f.o.1,f.o.2]⟩,?_⟩;simp[results,Tryz.results113,go_sem,q,r,s];rw[<-t];exact jX (jX (jX (mo i.o _) (O9 _)) (O9 _)) (O9 _)
 obtain⟨d,e⟩:=Cl (T:=T) u;have z:¬(pos:Int)<(T.length:Int):=SE
 have f:=O0 (And.intro d e);generalize T.length=n at*;clear m l d e
 go_enter func113,ntmps113
 go_upto_region 1 with fail;generalize w.alloc ts=g at*;obtain⟨a,b⟩:=Xq w.heap.size;rw[<-b]at c i⊢;have p:=O0 b;clear b;go_quiet (fail);obtain⟨⟨A,B,C⟩,⟨D,E,F⟩⟩:=kz c;go_wp21;have hF:((((g.drewN nq).setCell a (.int .u8 0)).setCell ⟨a,1,none⟩ (Em)).setCell ⟨a,2,none⟩ (.int .i64 j)).heap[a]?=some (.cells #[.int .u8 0,Em,j] 203):=jO (jO (jO (w:=g.drewN nq) c));have q:=jN hF 0;have r:=jN hF 1;have s:=jN hF 2;have t:=p.o;refine Pa (v:=.agg #[.int .u8 0,Em,j]) ?_ rfl ⟨⟨j,by rw[f.o.1,f.o.2];rfl⟩,?_⟩;simp[results,Tryz.results113,go_sem,q,r,s];rw[<-t];exact jX (jX (jX (mo i.o _) (O9 _)) (O9 _)) (O9 _)
def zl{T:kG}{V:PV}{w}{pb pos:Nat}(h:lz T V w pb pos)(x):Calls prog 112 #[.pointer pb,tx x] w λe w'=>e=.returned (.bool (nD T pos==x))/\Below w w w':=by
 obtain⟨c,d,f,hb,_⟩:=h.kt;have g:=jN hb 8;have H:=h;clear hb
 go_enter func112,ntmps112
 go_wp2_with (apply(py H).M;rintro e w' ⟨⟨a,rfl⟩,hb⟩;have i:=Fk w' (.int .u8 (zM T pos:Nat)) (tx (nD T pos)) (.int .i64 a);have b:=hb;clear hb);go_ret;exact⟨rfl,b⟩
def kZ.of{T:kG}{V:PV}{w w'}{pb pos:Nat}(h:lz T V w pb pos)(hb:Below w w w'):kZ T V w pb pos w':=⟨h.jQ hb,kg (jV hb) _⟩
def tM{T:kG}{V:PV}{w}{pb pos:Nat}(h:lz T V w pb pos)(x)(hx:x≠[]):Calls prog 73 #[.pointer pb,tx x] w (Ju T V pb pos (nD T pos==x) w):=by
 have a:=(zl h x)
 have H:=h;by_cases he:nD T pos=x
 .have c:=JX he hx;rw[P9.2 he]at a⊢;have hs:=h.small.1
  go_enter func73,ntmps73
  go_wp21;apply a.M;rintro e w' ⟨rfl,hb⟩;have b:=(kZ.of H hb)
  obtain⟨d,f,g,hb,_⟩:=b.1.kt;have i:=jN hb 1;have j:=jS hb 1;go_wp21;go_ret;exact⟨rfl,b.set (q:=pos+1) SE⟩
 rw[Rl he]at a⊢
 go_enter func73,ntmps73
 go_wp21;apply a.M;rintro e w' ⟨rfl,hb⟩;have b:=(kZ.of H hb)
 go_wp21;go_ret;exact⟨rfl,b⟩
def nQ{T:kG}{V:PV}{w}{pb pos q:Nat}{x}(h:lz T V w pb pos)(hn:uV T pos=some (x,q)):Calls prog 75 #[.pointer pb] w λe w'=>e=.returned (tx x)/\kZ T V w pb q w':=by
 obtain⟨c,d,rfl,k⟩:=qz hn;have i:=O0 (py h);have H:=O0 h;have f:=O0 (And.intro c d);have hs:=h.small.1;clear h hn c d
 go_enter func75,ntmps75
 go_wp2_with fail;apply i.o.M;rintro e j ⟨⟨l,rfl⟩,hb⟩;rw[f.o.1,f.o.2];have b:=O0 (kZ.of H.o hb);obtain⟨m,n,p,a,_⟩:=b.o.1.kt;have r:=jN a 1;have s:=jS a 1;have t:=jN a 8;have u:=b.o.1.lt;have v:j≠pb:=SE
 clear a hb;go_wp2_with fail;go_ret;have g:=b.o.set (q:=pos+1) SE;exact⟨rfl,g.T (kZ.of g.1 (Ba _ _))⟩
def BN{T:kG}{V:PV}{w}{pb pos q v:Nat}(h:lz T V w pb pos)(hn:El T pos=some (v,q)):Calls prog 115 #[.pointer pb] w λe w'=>e=.returned (.int .i64 (v:Nat))/\kZ T V w pb q w':=by
 obtain⟨d,f,g,i,rfl,rfl,p⟩:=AX hn;have k:=O0 (py h);have H:=O0 h;have l:=O0 d;have m:=O0 (λb w=>Df (nD T pos) b w f g i);have hs:=h.small.1;clear h hn d f g i
 go_enter func115,ntmps115
 go_wp2_with fail;apply k.o.M;rintro e n ⟨⟨b,rfl⟩,hb⟩;rw[l.o];have j:=O0 (kZ.of H.o hb);clear hb;go_wp2_with fail;apply(m.o b n).M;rintro e r ⟨rfl,hb⟩;have c:=O0 (j.o.T (kZ.of j.o.1 hb));obtain⟨s,t,u,a,_⟩:=c.o.1.kt;have x:=jN a 1;have y:=jS a 1;have z:=jN a 8;have A:=c.o.1.lt;clear a hb;go_wp2_with fail;go_ret;exact⟨rfl,c.o.set (q:=pos+1) SE⟩
def lQ{T:kG}{V:PV}{w0 w}{pb pos:Nat}(h:kZ T V w0 pb pos w)(x)(hx:x≠[])(hn:nD T pos≠x):Calls prog 73 #[.pointer pb,tx x] w λe w'=>e=.returned (.bool false)/\kZ T V w0 pb pos w':=by have hc:=tM h.1 x hx;rw[Rl hn]at hc;exact hc.M λe w' ⟨he,hb⟩=>⟨he,h.T hb⟩
def ry{T:kG}{V:PV}{w0 w}{pb pos:Nat}(h:kZ T V w0 pb pos w)(x)(hx:x≠[])(hn:nD T pos=x):Calls prog 73 #[.pointer pb,tx x] w λe w'=>e=.returned (.bool true)/\kZ T V w0 pb (pos+1) w':=by have hc:=tM h.1 x hx;rw[P9.2 hn]at hc;exact hc.M λe w' ⟨he,hb⟩=>⟨he,h.T hb⟩
def kZ.jQ{T:kG}{V:PV}{w0 w w'}{pb pos:Nat}(h:kZ T V w0 pb pos w)(hb:Below w w w'):kZ T V w0 pb pos w':=h.T (kZ.of h.1 hb)
def kZ.alloc{T:kG}{V:PV}{w0 w}{pb pos:Nat}(h:kZ T V w0 pb pos w)(o):kZ T V w0 pb pos (w.alloc o):=h.jQ ((Below.refl _ _).alloc (O9 _) o)
def wo{T:kG}{V:PV}{w}{pb pos:Nat}(h:lz T V w pb pos)(S A)(n c:Nat)(l)(a:jT Ii S w (.slice A n c) l)(hS:∀b,S b->b≠pb/\b<w)(hn:zR T pos l)(z:n<=100):
  Calls prog 224 #[.pointer pb,.slice A n c] w λe w'=>e=.returned (.tuple #[.int .u8 0,false])/\kZ T V w pb pos w':=by
 have H:=O0 (kZ.refl h);have q:=O0 a;have d:=O0 hS;have s:=O0 hn;have t:=O0 a.len.1;clear h a hS hn
 go_enter func224,ntmps224
 go_wp2_with fail;go_loopw [10] (λi wr=>∃k:Nat,k<=n/\i=k/\kZ T V w pb pos wr) (λi _=>n-(intOf i).toNat)
 .exact⟨0,Pb _,rfl,H.o⟩
 obtain⟨k,B,rfl,hp⟩:=hrel;by_cases C:k<n
 .obtain⟨x,hx⟩:∃x,l[k]?=some x:=Gx (SC t.o);obtain⟨b,o,r,rfl,hb,hr,f⟩:=(q.o.jP Ii.ok (λb hb=>hp.2.B b (d.o b hb).2 (λe=>(d.o b hb).1 (by injection e)))).kt Ii.ok k x hx;have u:r=[tx x.1,.int .u8 (x.2:Nat)]:=hr;subst u;have v:=f 0 _ rfl;have D:=f 1 _ rfl;rw[Pc]at v;have E:b<wr:=O1 (d.o b hb).2 hp.2.size;obtain⟨j,m⟩:=s.o x (O5 hx);have p:=O0 (And.intro j m);have g:=O0 (hp.alloc (.cells #[tx x.1,.int .u8 (x.2:Nat)] 359));obtain⟨F,G⟩:=mG k n;clear f hr hx j m hp hb;go_wp2_with fail;apply(lQ g.o _ p.o.1 p.o.2).M;rintro e w' ⟨rfl,hb⟩;have y:=O0 hb;clear hb;go_wp2_with fail;go_roundw
  .exact⟨k+1,SE,SJ,y.o⟩
  simp[intOf];omega
 have g:=O0 hp;clear hp;go_wp2_with fail
 go_ret2
 exact⟨rfl,g.o⟩
def zC{T:kG}{V:PV}{pb pos q:Nat}{x}(hx:vH T pos=some (x,q)):zS T V pb pos q x 233:=by
 intro w h;obtain⟨hn,hc⟩:=sg hx;have L:=h.low.2;have t:=O0 (O2 w kc);have y:=O0 ((kZ.refl h).alloc kc);have H:=O0 (kZ.refl y.o.1);have a:=O0 (show∀s∈wm,nD T pos≠s from λs hs e=>hn (by rw[e];exact hs));have u:w<(w.alloc kc).heap.size:=SG
 have M:pb<w:=h.lt;clear h hx hn;rcases hc with⟨N,v,hv,rfl⟩|⟨N,hb,s,hs,rfl⟩
 .go_enter func233,ntmps233
  go_upto_region 1 with fail;generalize w.alloc kc=Q at*;obtain⟨z,hz⟩:=Xq w.heap.size;rw[<-hz]at t u M L⊢;have b:=O0 hz;clear hz;go_wp2_with fail;apply(lQ H.o _ SF (a.o _ SF)).M;rintro e w0 ⟨rfl,c⟩;have A:=O0 c;clear c;go_wp2_with fail;apply(lQ A.o _ SF (a.o _ SF)).M;rintro e R ⟨rfl,d⟩;have B:=O0 d;clear d;go_wp2_with fail;apply(lQ B.o _ SF (a.o _ SF)).M;rintro e S ⟨rfl,f⟩;have C:=O0 f;clear f;go_wp2_with fail;apply(lQ C.o _ SF (a.o _ SF)).M;rintro e U ⟨rfl,g⟩;have D:=O0 g;clear g;go_wp2_with fail;apply(lQ D.o _ SF (a.o _ SF)).M;rintro e W ⟨rfl,i⟩;have E:=O0 i;clear i;go_wp2_with fail;apply(lQ E.o _ SF (a.o _ SF)).M;rintro e X ⟨rfl,j⟩;have k:=O0 j;clear j;go_wp2_with fail;apply(py k.o.1).M;rintro e w6 ⟨⟨F,rfl⟩,l⟩;have m:=O0 (k.o.jQ l);clear l;rw[N];have ah:=wY w6 (.int .u8 3) (tx (nD T pos)) (.int .i64 F);go_wp2_with fail;apply(BN m.o.1 hv).M;rintro e Y ⟨rfl,n⟩;have p:=O0 (m.o.T n);clear n;have r:=(p.o.2.B z u (λe=>by injection e with e;omega)).T t.o;obtain⟨⟨Z,aa,ab,ac⟩,⟨ad,ae,af,ag⟩⟩:=kn r;go_wp2_with fail;have hF:=yR (u0:=.int .u8 1) (u1:=tx []) (u2:=.int .i64 (v:Nat)) (u3:=Nl) r;have G:=jN hF 0;have I:=jN hF 1;have J:=jN hF 2;have K:=jN hF 3;refine Pa (v:=.agg #[.int .u8 1,tx [],v,Nl]) ?_ rfl ⟨rfl,yQ (y.o.T p.o) (SC b.o) (QB b.o.symm)⟩;simp[results,Tryz.results233,go_sem,G,I,J,K]
 go_enter func233,ntmps233
 go_upto_region 1 with fail;generalize w.alloc kc=Q at*;obtain⟨z,hz⟩:=Xq w.heap.size;rw[<-hz]at t u M L⊢;have b:=O0 hz;clear hz;go_wp2_with fail;apply(lQ H.o _ SF (a.o _ SF)).M;rintro e w0 ⟨rfl,c⟩;have A:=O0 c;clear c;go_wp2_with fail;apply(lQ A.o _ SF (a.o _ SF)).M;rintro e R ⟨rfl,d⟩;have B:=O0 d;clear d;go_wp2_with fail;apply(lQ B.o _ SF (a.o _ SF)).M;rintro e S ⟨rfl,f⟩;have C:=O0 f;clear f;go_wp2_with fail;apply(lQ C.o _ SF (a.o _ SF)).M;rintro e U ⟨rfl,g⟩;have D:=O0 g;clear g;go_wp2_with fail;apply(lQ D.o _ SF (a.o _ SF)).M;rintro e W ⟨rfl,i⟩;have E:=O0 i;clear i;go_wp2_with fail;apply(lQ E.o _ SF (a.o _ SF)).M;rintro e X ⟨rfl,j⟩;have k:=O0 j;clear j;go_wp2_with fail;apply(py k.o.1).M;rintro e w6 ⟨⟨F,rfl⟩,l⟩;have m:=O0 (k.o.jQ l);clear l;have ai:((zM T pos:Nat):Int)≠3:=SE
 have aj:=wY w6 (.int .u8 (zM T pos:Nat)) (tx (nD T pos)) (.int .i64 F);generalize ak:zM T pos=al at*;go_wp2_with fail;apply(nQ m.o.1 hs).M;rintro e Y ⟨rfl,n⟩;have p:=O0 (m.o.T n);clear n;go_wp2_with fail;apply(zl p.o.1 _).M;rintro e am ⟨rfl,O⟩;rw[Rl hb];have P:=O0 (p.o.jQ O);clear O;have r:=(P.o.2.B z u (λe=>by injection e with e;omega)).T t.o;obtain⟨⟨Z,aa,ab,ac⟩,⟨ad,ae,af,ag⟩⟩:=kn r;go_wp2_with fail;have hF:=yR (u0:=.int .u8 5) (u1:=tx s) (u2:=.int .i64 0) (u3:=Nl) r;have G:=jN hF 0;have I:=jN hF 1;have J:=jN hF 2;have K:=jN hF 3;refine Pa (v:=.agg #[.int .u8 5,tx s,.int .i64 0,Nl]) ?_ rfl ⟨rfl,yQ (y.o.T P.o) (SC b.o) (QB b.o.symm)⟩;simp[results,Tryz.results233,go_sem,G,I,J,K]
def si{T:kG}{V:PV}{pb pos q:Nat}{x}(g:FuncId)(X:∀(a:Array Value) (w:World),Sem.run prog (callFunc g a) w=.ok (.enter g a) w)(hF:zS T V pb pos q x g)(S A)(n c:Nat)(l w)(h:lz T V w pb pos)(k:jT Ii S w (.slice A n c) l)(hS:∀b,S b->b≠pb/\b<w)(hn:zR T q l)(E:n<=100):
  Calls prog 219 #[.pointer pb,.func (.func g) #[.pointer pb] #[],.slice A n c] w (GG T V pb q x w):=by
 have F:=h.low.2;have m:=O0 (O2 w kc);have p:=O0 ((kZ.refl h).alloc kc);have G:=O0 (k.jP Ii.ok (λb hb=>Ph w kc (hS b hb).2));have r:w<(w.alloc kc).heap.size:=SG
 have I:pb<w:=h.lt;have J:=O0 hF;have K:=O0 hn;have f:=O0 hS;clear h k hS hn hF
 go_enter func219,ntmps219
 go_upto_region 1 with fail;generalize w.alloc kc=s at*;obtain⟨z,hz⟩:=Xq w.heap.size;rw[<-hz]at m r I F f⊢;have t:=O0 hz;clear hz;go_wp2_with fail;apply(J.o s p.o.1).M;rintro e d ⟨rfl,hb⟩;have L:=O0 hb;have u:=O0 (O2 d (pv x.op x.name x.n));have i:=O0 (hb.alloc (pv x.op x.name x.n));have y:d<(d.alloc (pv x.op x.name x.n)).heap.size:=SG
 have M:pb<d:=hb.1.lt;clear hb;go_wp2_with fail;generalize d.alloc (pv x.op x.name x.n)=N at*;obtain⟨B,j⟩:=Xq d.heap.size;have Y:s<=B:=by rw[j];exact L.o.2.size
 rw[<-j]at u y M⊢;clear j;go_loopw [] (λwr=>wr=N) (λ_=>0)
 .rfl
 subst hrel;have O:=O0 (G.o.jP Ii.ok (λb hb=>i.o.2.B b (SC ((f.o b hb).2)) (λe=>(f.o b hb).1 (by injection e))));go_wp2_with fail;refine(wo i.o.1 S A n c l O.o (λb hb=>⟨(f.o b hb).1,SC ((f.o b hb).2)⟩) K.o E).M ?_;rintro e Z ⟨rfl,hb⟩;have C:=O0 (i.o.T hb);have P:=(hb.2.B B y (λe=>by injection e with e;omega)).T u.o;have D:=(C.o.2.B z r (λe=>by injection e with e;omega)).T m.o;obtain⟨⟨aa,ab,ac,ad⟩,_⟩:=kn P;obtain⟨⟨ae,af,ag,ah⟩,⟨ai,aj,ak,al⟩⟩:=kn D;clear hb;go_wp2_with fail;have hF:=yR (u0:=.int .u8 x.op) (u1:=tx x.name) (u2:=.int .i64 x.n) (u3:=Nl) D;have Q:=jN hF 0;have R:=jN hF 1;have U:=jN hF 2;have W:=jN hF 3;refine Pa (v:=JK x) ?_ rfl ⟨rfl,yQ (p.o.T C.o) (SC t.o) (QB t.o.symm)⟩;simp[results,Tryz.results219,go_sem,Q,R,U,W]
def Dh{T:kG}{V:PV}{pb pos q:Nat}{x}(hx:vH T pos=some (x,q)):zS T V pb pos q x 232:=by
 intro w h;have n:=h.low.2;have c:=O0 (O2 w kc);have d:=O0 ((kZ.refl h).alloc kc);have f:w<(w.alloc kc).heap.size:=SG
 have p:pb<w:=h.lt;have r:=O0 (show zR T pos [([45],9),([110,111,116],10)]from by intro s hs;simp only[Pz,Ps,PU]at hs;rcases hs with rfl|rfl<;>exact⟨SF,λe=>(sg hx).1 (by rw[e];decide)⟩)
 have t:=O0 (zC (V:=V) (pb:=pb) hx);clear h hx
 go_enter func232,ntmps232
 go_upto_region 1 with fail;generalize w.alloc kc=a at*;obtain⟨z,hz⟩:=Xq w.heap.size;rw[<-hz]at c f p n⊢;have g:=O0 hz;clear hz;have i:=O0 (kZ.refl d.o.1);have u:=O0 (ug [([45],9),([110,111,116],10)] 2 (O2 a sC) rfl SF);have j:=O0 (i.o.alloc sC);have E:a<(a.alloc sC).heap.size:=SG
 have F:pb<a:=i.o.1.lt;go_wp2_with fail;refine(wo j.o.1 (λb=>b=a) _ 2 2 [([45],9),([110,111,116],10)] u.o (λb hb=>⟨SE,SE⟩) r.o SF).M ?_;rintro e y ⟨rfl,hb⟩;have k:=O0 (j.o.T hb);clear hb;go_wp2_with fail;apply(t.o y k.o.1).M;rintro e G ⟨rfl,hb⟩;have l:=O0 (k.o.T hb);clear hb;have m:=(l.o.2.B z f (λe=>by injection e with e;omega)).T c.o;obtain⟨⟨I,J,K,L⟩,⟨M,N,O,P⟩⟩:=kn m;go_wp2_with fail;have hF:=yR (u0:=.int .u8 x.op) (u1:=tx x.name) (u2:=.int .i64 x.n) (u3:=Nl) m;have A:=jN hF 0;have B:=jN hF 1;have C:=jN hF 2;have D:=jN hF 3;refine Pa (v:=JK x) ?_ rfl ⟨rfl,yQ (d.o.T l.o) (SC g.o) (QB g.o.symm)⟩;simp[results,Tryz.results232,go_sem,A,B,C,D]
def zD{T:kG}{V:PV}{pb pos q:Nat}{x}(hx:pM T pos=some (x,q)):zS T V pb pos q x 231:=by
 intro w h;have m:=h.low.2;have c:=O0 (O2 w kc);have d:=O0 ((kZ.refl h).alloc kc);have f:w<(w.alloc kc).heap.size:=SG
 have n:pb<w:=h.lt;have p:=O0 (show zR T q [([42],11),([47],12),([37],13)]from by intro s hs;simp only[Pz,Ps,PU]at hs;rcases hs with rfl|rfl|rfl<;>exact⟨SF,λe=>(nR hx).2 (by rw[e];decide)⟩)
 have r:=O0 (Dh (V:=V) (pb:=pb) (nR hx).1);clear h hx
 go_enter func231,ntmps231
 go_upto_region 1 with fail;generalize w.alloc kc=a at*;obtain⟨z,hz⟩:=Xq w.heap.size;rw[<-hz]at c f n m⊢;have g:=O0 hz;clear hz;have i:=O0 (kZ.refl d.o.1);have t:=O0 (ug [([42],11),([47],12),([37],13)] 3 (O2 a sa) rfl SF);have j:=O0 (i.o.alloc sa);have C:a<(a.alloc sa).heap.size:=SG
 have D:pb<a:=i.o.1.lt;go_wp2_with fail;refine(si 232 (λ_ _=>SH) r.o (λb=>b=a) _ 3 3 [([42],11),([47],12),([37],13)] _ j.o.1 t.o (λb hb=>⟨SE,SE⟩) p.o SF).M ?_;rintro e E ⟨rfl,hb⟩;have k:=O0 (j.o.T hb);clear hb;have l:=(k.o.2.B z f (λe=>by injection e with e;omega)).T c.o;obtain⟨⟨F,G,I,J⟩,⟨K,L,M,N⟩⟩:=kn l;go_wp2_with fail;have hF:=yR (u0:=.int .u8 x.op) (u1:=tx x.name) (u2:=.int .i64 x.n) (u3:=Nl) l;have u:=jN hF 0;have y:=jN hF 1;have A:=jN hF 2;have B:=jN hF 3;refine Pa (v:=JK x) ?_ rfl ⟨rfl,yQ (d.o.T k.o) (SC g.o) (QB g.o.symm)⟩;simp[results,Tryz.results231,go_sem,u,y,A,B]
def Hs{T:kG}{V:PV}{pb pos q:Nat}{x}(hx:pM T pos=some (x,q)):zS T V pb pos q x 230:=by
 intro w h;have m:=h.low.2;have c:=O0 (O2 w kc);have d:=O0 ((kZ.refl h).alloc kc);have f:w<(w.alloc kc).heap.size:=SG
 have n:pb<w:=h.lt;have p:=O0 (show zR T q [([43],14),([45],15)]from by intro s hs;simp only[Pz,Ps,PU]at hs;rcases hs with rfl|rfl<;>exact⟨SF,λe=>(nR hx).2 (by rw[e];decide)⟩)
 have r:=O0 (zD (V:=V) (pb:=pb) hx);clear h hx
 go_enter func230,ntmps230
 go_upto_region 1 with fail;generalize w.alloc kc=a at*;obtain⟨z,hz⟩:=Xq w.heap.size;rw[<-hz]at c f n m⊢;have g:=O0 hz;clear hz;have i:=O0 (kZ.refl d.o.1);have t:=O0 (ug [([43],14),([45],15)] 2 (O2 a te) rfl SF);have j:=O0 (i.o.alloc te);have C:a<(a.alloc te).heap.size:=SG
 have D:pb<a:=i.o.1.lt;go_wp2_with fail;refine(si 231 (λ_ _=>SH) r.o (λb=>b=a) _ 2 2 [([43],14),([45],15)] _ j.o.1 t.o (λb hb=>⟨SE,SE⟩) p.o SF).M ?_;rintro e E ⟨rfl,hb⟩;have k:=O0 (j.o.T hb);clear hb;have l:=(k.o.2.B z f (λe=>by injection e with e;omega)).T c.o;obtain⟨⟨F,G,I,J⟩,⟨K,L,M,N⟩⟩:=kn l;go_wp2_with fail;have hF:=yR (u0:=.int .u8 x.op) (u1:=tx x.name) (u2:=.int .i64 x.n) (u3:=Nl) l;have u:=jN hF 0;have y:=jN hF 1;have A:=jN hF 2;have B:=jN hF 3;refine Pa (v:=JK x) ?_ rfl ⟨rfl,yQ (d.o.T k.o) (SC g.o) (QB g.o.symm)⟩;simp[results,Tryz.results230,go_sem,u,y,A,B]
def Fo{T:kG}{V:PV}{pb pos q:Nat}{x}(hx:pM T pos=some (x,q)):zS T V pb pos q x 225:=by
 intro w h;have p:=h.low.2;have c:=O0 (O2 w kc);have d:=O0 ((kZ.refl h).alloc kc);have f:w<(w.alloc kc).heap.size:=SG
 have r:pb<w:=h.lt;have t:=O0 (show zR T q [([61,61],16),([33,61],17),([60],18),([60,61],19),([62],20),([62,61],21)]from by intro s hs;simp only[Pz,Ps,PU]at hs;rcases hs with rfl|rfl|rfl|rfl|rfl|rfl<;>exact⟨SF,λe=>(nR hx).2 (by rw[e];decide)⟩)
 have u:=O0 (Hs (V:=V) (pb:=pb) hx);clear h hx
 go_enter func225,ntmps225
 go_upto_region 1 with fail;generalize w.alloc kc=g at*;obtain⟨z,hz⟩:=Xq w.heap.size;rw[<-hz]at c f r p⊢;have i:=O0 hz;clear hz;go_wp2_with fail;apply(u.o g d.o.1).M;rintro e a ⟨rfl,hb⟩;have K:=O0 hb;have y:=O0 (O2 a (pv x.op x.name x.n));have j:=O0 (hb.alloc (pv x.op x.name x.n));have A:a<(a.alloc (pv x.op x.name x.n)).heap.size:=SG
 have L:pb<a:=hb.1.lt;have M:g.heap.size<=a:=hb.2.size;clear hb;have k:=O0 (ug [([61,61],16),([33,61],17),([60],18),([60,61],19),([62],20),([62,61],21)] 6 (O2 (a.alloc (pv x.op x.name x.n)) mw) rfl SF);have l:=O0 (j.o.alloc mw);have B:(a.alloc (pv x.op x.name x.n)).heap.size<((a.alloc (pv x.op x.name x.n)).alloc mw).heap.size:=SG
 have C:pb<(a.alloc (pv x.op x.name x.n)).heap.size:=j.o.1.lt;have D:(a.alloc (pv x.op x.name x.n)).heap.size=a+1:=SG
 rw[D]at k B C;go_wp2_with fail;refine(wo l.o.1 (λb=>b=a+1) _ 6 6 [([61,61],16),([33,61],17),([60],18),([60,61],19),([62],20),([62,61],21)] k.o (λb hb=>⟨SE,SE⟩) t.o SF).M ?_;rintro e N ⟨rfl,hb⟩;have m:=O0 (l.o.T hb);have E:=(hb.2.B a SE (λe=>by injection e with e;omega)).T ((Ph _ mw A).T y.o);obtain⟨⟨O,P,Q,R⟩,_⟩:=kn E;clear hb;have n:=(m.o.2.B z f (λe=>by injection e with e;omega)).T c.o;obtain⟨⟨S,U,W,X⟩,⟨Y,Z,aa,ab⟩⟩:=kn n;go_wp2_with fail;have hF:=yR (u0:=.int .u8 x.op) (u1:=tx x.name) (u2:=.int .i64 x.n) (u3:=Nl) n;have F:=jN hF 0;have G:=jN hF 1;have I:=jN hF 2;have J:=jN hF 3;refine Pa (v:=JK x) ?_ rfl ⟨rfl,yQ (d.o.T m.o) (SC i.o) (QB i.o.symm)⟩;simp[results,Tryz.results225,go_sem,F,G,I,J]
def Fp{T:kG}{V:PV}{pb pos q:Nat}{x}(hx:pM T pos=some (x,q)):zS T V pb pos q x 220:=by
 intro w h;have m:=h.low.2;have c:=O0 (O2 w kc);have d:=O0 ((kZ.refl h).alloc kc);have f:w<(w.alloc kc).heap.size:=SG
 have n:pb<w:=h.lt;have p:=O0 (show zR T q [([97,110,100],22)]from by intro s hs;simp only[Pz,Ps,PU]at hs;rcases hs with rfl<;>exact⟨SF,λe=>(nR hx).2 (by rw[e];decide)⟩)
 have r:=O0 (Fo (V:=V) (pb:=pb) hx);clear h hx
 go_enter func220,ntmps220
 go_upto_region 1 with fail;generalize w.alloc kc=a at*;obtain⟨z,hz⟩:=Xq w.heap.size;rw[<-hz]at c f n m⊢;have g:=O0 hz;clear hz;have i:=O0 (kZ.refl d.o.1);have t:=O0 (ug [([97,110,100],22)] 1 (O2 a va) rfl SF);have j:=O0 (i.o.alloc va);have C:a<(a.alloc va).heap.size:=SG
 have D:pb<a:=i.o.1.lt;go_wp2_with fail;refine(si 225 (λ_ _=>SH) r.o (λb=>b=a) _ 1 1 [([97,110,100],22)] _ j.o.1 t.o (λb hb=>⟨SE,SE⟩) p.o SF).M ?_;rintro e E ⟨rfl,hb⟩;have k:=O0 (j.o.T hb);clear hb;have l:=(k.o.2.B z f (λe=>by injection e with e;omega)).T c.o;obtain⟨⟨F,G,I,J⟩,⟨K,L,M,N⟩⟩:=kn l;go_wp2_with fail;have hF:=yR (u0:=.int .u8 x.op) (u1:=tx x.name) (u2:=.int .i64 x.n) (u3:=Nl) l;have u:=jN hF 0;have y:=jN hF 1;have A:=jN hF 2;have B:=jN hF 3;refine Pa (v:=JK x) ?_ rfl ⟨rfl,yQ (d.o.T k.o) (SC g.o) (QB g.o.symm)⟩;simp[results,Tryz.results220,go_sem,u,y,A,B]
def Fq{T:kG}{V:PV}{pb pos q:Nat}{x}(hx:pM T pos=some (x,q)):zS T V pb pos q x 210:=by
 intro w h;have m:=h.low.2;have c:=O0 (O2 w kc);have d:=O0 ((kZ.refl h).alloc kc);have f:w<(w.alloc kc).heap.size:=SG
 have n:pb<w:=h.lt;have p:=O0 (show zR T q [([111,114],23)]from by intro s hs;simp only[Pz,Ps,PU]at hs;rcases hs with rfl<;>exact⟨SF,λe=>(nR hx).2 (by rw[e];decide)⟩)
 have r:=O0 (Fp (V:=V) (pb:=pb) hx);clear h hx
 go_enter func210,ntmps210
 go_upto_region 1 with fail;generalize w.alloc kc=a at*;obtain⟨z,hz⟩:=Xq w.heap.size;rw[<-hz]at c f n m⊢;have g:=O0 hz;clear hz;have i:=O0 (kZ.refl d.o.1);have t:=O0 (ug [([111,114],23)] 1 (O2 a vm) rfl SF);have j:=O0 (i.o.alloc vm);have C:a<(a.alloc vm).heap.size:=SG
 have D:pb<a:=i.o.1.lt;go_wp2_with fail;refine(si 220 (λ_ _=>SH) r.o (λb=>b=a) _ 1 1 [([111,114],23)] _ j.o.1 t.o (λb hb=>⟨SE,SE⟩) p.o SF).M ?_;rintro e E ⟨rfl,hb⟩;have k:=O0 (j.o.T hb);clear hb;have l:=(k.o.2.B z f (λe=>by injection e with e;omega)).T c.o;obtain⟨⟨F,G,I,J⟩,⟨K,L,M,N⟩⟩:=kn l;go_wp2_with fail;have hF:=yR (u0:=.int .u8 x.op) (u1:=tx x.name) (u2:=.int .i64 x.n) (u3:=Nl) l;have u:=jN hF 0;have y:=jN hF 1;have A:=jN hF 2;have B:=jN hF 3;refine Pa (v:=JK x) ?_ rfl ⟨rfl,yQ (d.o.T k.o) (SC g.o) (QB g.o.symm)⟩;simp[results,Tryz.results210,go_sem,u,y,A,B]
