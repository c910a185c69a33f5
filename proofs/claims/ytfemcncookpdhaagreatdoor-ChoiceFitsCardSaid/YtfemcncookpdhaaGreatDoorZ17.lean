import Derived.Test.YtfemcncookpdhaaGreatDoorZ13
import Derived.Test.YtfemcncookpdhaaGreatDoorZ14
import Derived.Test.YtfemcncookpdhaaGreatDoorZ15
import Derived.Test.YtfemcncookpdhaaGreatDoorZ16
set_option maxRecDepth 1000000
set_option maxHeartbeats 32000000
set_option linter.all false
namespace Go.Proofs.YtfemcncookpdhaaGreatDoor
open Go.RowKit lX Go.Proofs.Tryz
theorem Gr(S)(f:Nat)(sc)(lK:pd sc)(k D d left:Nat)(w0)(aV:k=11)(aD:0<D)(hd:d+D=3)(aW:left<=12)(aE:0<D->∀(left:Nat) W,left<=12->kH S W f sc left->Calls prog 44 #[.pointer (some ⟨f,0,none⟩),.int .i64 ((d:Int)+1)] W (wz S f sc D left W))(h:kH S w0 f sc left):Calls prog 82 #[.pointer (some ⟨f,0,none⟩),k,d] w0 (qj S f sc D left w0):=by
 have aF:∀(left n:Nat),0<n->n<=1000->∀W,kH S W f sc left->Calls prog 81 #[.pointer (some ⟨f,0,none⟩),n] W (nu S f sc left n W):=λleft n s aX W Q=>nw S f sc left n W Q s aX;have aY:=NA aF;clear aF;have aG:∀(left n:Nat) W,n<=3->kH S W f sc left->Calls prog 124 #[.pointer (some ⟨f,0,none⟩),n] W (uf S f sc left n W):=λleft n W hn Q=>rT S f sc lK left n W Q hn;have aZ:=NA aG;clear aG;have aH:∀(left:Nat) W,kH S W f sc left->Calls prog 125 #[.pointer (some ⟨f,0,none⟩)] W (rS S f sc left W):=λleft W Q=>oy S f sc left W Q lK;have ba:=NA aH;clear aH;have aI:∀(left:Nat) W,kH S W f sc left->Calls prog 123 #[.pointer (some ⟨f,0,none⟩),.int .i64 0] W (mP S f sc left 4 W):=λleft W Q=>mV S f sc lK 3 0 left W rfl Q;have bb:=NA aI;clear aI;have aJ:=NA aE;clear aE;have ao:=(pK.start h 181 #[.int .i64 0,Em,Em,Nl,Nl,Nl])
 obtain⟨bc,bd,be,r,bf,bg⟩:=ao.hm.cells;obtain⟨⟨F,G,I,J,K,L⟩,⟨R,U,V,X,Y,Z⟩⟩:=lL ao.hz;clear h;subst aV
 go_enter func82,ntmps82
 go_wp2_with fail;refine(aY.o left 2 PJ PJ _ ao.hm).M ?_;rintro e bz ⟨v,A,rfl,aa,ab⟩;have ag:=(ao.call aa ab)
 clear bc bd be r bf bg F G I J K L R U V X Y Z;obtain⟨⟨F,G,I,J,K,L⟩,⟨R,U,V,X,Y,Z⟩⟩:=lL ag.hz;by_cases bh:v=0
 .subst bh;go_wp2_with fail;refine(aZ.o left 2 _ PJ ag.hm).M ?_;rintro e ai ⟨bA,xs,rfl,aw,ax,ay,aa,ab⟩;obtain⟨ac,c1,rfl,aK,aL⟩:=aw.form;rw[ax]at aw⊢;have B:=(ag.call aa ab)
  have bi:km (kz .i64 De) (New w0 ai) ai (.slice ac 2 c1) xs:=((aw.sl (kz.ok _ _)).M (kz.ok _ _) λb p=>⟨by have:=ag.lt;rcases p.1 with s|s;exact ND this s.1;exact ND this s,p.2⟩).imp λ_ _ hx=>kz.up .i64 PM hx;obtain⟨aM,aN,rfl⟩:∃a b,xs=[a,b]:=by
   match xs,ax with
   |[a,b],_=>exact⟨a,b,rfl⟩
  have ap:=NA (And.intro (ay aM PK) (ay aN PK));clear ay ax;go_wp2_with fail;refine(aJ.o aD left _ aW B.hm).M ?_;rintro e az ⟨bj,ys,j,rfl,aj,t,N,bk,aO⟩;obtain⟨q,c3,rfl,aK,aL⟩:=aj.form;have ak:=(B.call bk aO)
  have bl:km (kE .i64 D) (New w0 az) az (.slice q ys.length c3) ys:=(aj.sl (kE.ok _ _)).M (kE.ok _ _) λb p=>⟨by have:=B.lt;rcases p.1 with s|s;exact ND this s.1;exact ND this s,p.2⟩
  have bm:=(kL (kz.ok _ _) B.vV (.kW aO) bi)
  have bn:=NA t;clear F G I J K L R U V X Y Z;obtain⟨⟨F,G,I,J,K,L⟩,⟨R,U,V,X,Y,Z⟩⟩:=lL ak.hz;have ah:=ak.lt;clear t;go_wp2_with fail;refine NT (v:=.agg #[.int .i64 8,tx [],tx [],.slice ac 2 c1,Nl,.slice q ys.length c3]) ?_ rfl (yv (D:=D) (left:=left) (kind:=8) (name:=[]) (hd:=[]) ak bm (km.nil _ _ _) bl (.inr (.inr (.inr (.inr (.inr (.inr (.inr (.inl ⟨rfl,rfl,rfl,rfl,⟨aM,aN,rfl,lp.up PM ap.o.1,lp.up PM ap.o.2⟩,bn.o⟩)))))))) (by rw[oB];omega));simp[results,Tryz.results82,go_sem,F,G,I,J,K,L]<;>rfl
 have bB:((v:Int)==0)=false:=by rw[NX];omega
 go_wp2_with fail;refine(ba.o left _ ag.hm).M ?_;rintro e bC ⟨ad,bo,rfl,aa,ab⟩;have aA:=(ag.call aa ab)
 go_wp2_with fail;refine(bb.o left _ aA.hm).M ?_;rintro e ai ⟨o1,aq,ar,ac,au,c1,al,rfl,hx,bp,aa,ab⟩;have B:=(aA.call aa ab)
 have aP:=(mE.new B.lt (kz.up .i64 (by decide:_<=6) (nz (w:=w0) (kz.ok .i64 _) aA.lt hx)))
 have ap:=NA bp;have ak:=(B.alloc (.cells #[.int .i64 o1,tx ar,aq,.slice ac au c1] 187))
 have y:=B.vV;have aB:=NA (show∀b,S b->b<w0/\b≠f from λb p=>⟨B.hS b p,(B.hm.ln b p).1⟩);clear F G I J K L R U V X Y Z;go_wp2_with fail;generalize bq:ai.alloc (.cells #[.int .i64 o1,tx ar,aq,.slice ac au c1] 187)=az at*;obtain⟨br,aQ⟩:=Xq ai.heap.size;rw[<-aQ]at aP⊢;clear bq aQ;have bD:IntKind.i64.wrap ((d:Int)+1)=(d:Int)+1:=OV _ ⟨PJ,PJ⟩;refine Ri (λx=>(∃l,l<=left/\uC S f sc l 181 w0 x)/\mE w0 br 6 o1 aq ar ac au c1 al x/\km (kE .i64 D) (New w0 x) x (Nl) ([]:List St)) (mG [(·=tx (nm 120 ad)),(·=.agg #[.int .i64 o1,tx ar,aq,.slice ac au c1]),Tr,(Pp f 0),(·=d),(·=.int .i64 ((d:Int)+1)),Tr,Tr,Tr]) [(2,λv w=>∃b,v=.slice (some ⟨b,0,none⟩) 1 1/\km (kz .i64 De) (New w0 w) w (.slice (some ⟨b,0,none⟩) 1 1) [al]),(6,λv w=>∃(C:Option Addr) (m c:Nat) (ys:List St) (j:Nat),v=.slice C m c/\km (kE .i64 D) (New w0 w) w (.slice C m c) ys/\(∀am∈ys,mq sc D am)/\kN D ys+j<=left/\kH S w f sc j),(7,λv w=>∃(z:Nat) (q:Option Addr) (r c3:Nat) (ys:List St) (j:Nat),v=.agg #[.int .i64 9,tx (nm 120 ad),tx [],.slice (some ⟨z,0,none⟩) 1 1,(Nl),(.slice q r c3)]/\km (kz .i64 De) (New w0 w) w (.slice (some ⟨z,0,none⟩) 1 1) [al]/\km (kE .i64 D) (New w0 w) w (.slice q r c3) ys/\(∀am∈ys,mq sc D am)/\kN D ys+j<=left/\kH S w f sc j),(8,λv w=>∃(z:Nat) (q:Option Addr) (r c3:Nat) (ys:List St) (j:Nat),pK S f sc j 181 #[.int .i64 9,tx (nm 120 ad),tx [],.slice (some ⟨z,0,none⟩) 1 1,(Nl),(.slice q r c3)] w0 w/\km (kz .i64 De) (New w0 w) w (.slice (some ⟨z,0,none⟩) 1 1) [al]/\km (kE .i64 D) (New w0 w) w (.slice q r c3) ys/\(∀am∈ys,mq sc D am)/\kN D ys+j<=left/\kH S w f sc j)] (⟨⟨left,NQ _,_,_,_,_,_,_,ak.drew⟩,mE.lv y (.pD (kp (Below.refl _ _).drew)) aP,km.nil _ _ _⟩) ⟨?_,?_,?_,?_,?_,?_,?_,?_,?_,trivial⟩ ?_;exact .f 15;intro an w i hf A hd hw;have bE:=Sl 16 (hf 16 rfl);obtain⟨⟨bF,bG,bH,bI⟩,_⟩:=kC i.2.1.2.1;replace i:=Hq i;exact .q (g:=⟨rfl,i.o,Qa⟩);intro an w i hf A hd hw;have bJ:=Sv 205 A 1;have ah:w0.heap.size<w:=by obtain⟨⟨l,_,E⟩,_⟩:=i;exact E.m.2.2.1
 replace i:=Hq i;exact .q (g:=⟨trivial,⟨(i.o.1.elim λl h=>⟨l,h.1,h.2.grow (NN _ _ none)⟩),mE.lv y (.alloc _ _) i.o.2.1,kL (kE.ok _ _) y (.alloc _ _) i.o.2.2⟩,Qc ⟨_,rfl,oV (T:=187) (kz.ok .i64 _) ah i.o.2.1.2.2⟩<|Qd (λu ⟨C,m,c,ys,j,e,hs,hy,hc,hm⟩=>⟨C,m,c,ys,j,e,kL (kE.ok _ _) y (.alloc _ _) hs,hy,hc,hm.kg (NN _ _ none)⟩)<|Q2<|Qe⟩);exact .f 0;exact .f 2;intro an w i hf A hd hw;have bK:=Sv 208 A 4;exact .q (g:=⟨rfl,i,Qa⟩);intro an w i hf A hd hw;have bL:=Sv 207 A 3;have bM:=Sv 209 A 5;have ah:w0.heap.size<w:=by obtain⟨⟨l,_,E⟩,_⟩:=i;exact E.m.2.2.1
 replace i:=Hq i;obtain⟨l,aR,E⟩:=i.o.1;replace E:=Hq E;refine .c (aJ.o aD l _ PJ E.o.m.1) ?_;rintro e w' ⟨bj,ys,j,he,aj,t,N,M,aS⟩;obtain⟨C,c,rfl,aK,aL⟩:=aj.form;subst he;have aC:Good f w0 w w':=.kW aS;have bs:km (kE .i64 D) (New w0 w') w' (.slice C ys.length c) ys:=(aj.sl (kE.ok _ _)).M (kE.ok _ _) λb p=>⟨by rcases p.1 with s|s;exact ND ah s.1;exact ND ah s,p.2⟩
 exact⟨_,rfl,⟨trivial,⟨⟨j,PJ,E.o.call M aS⟩,mE.lv y aC i.o.2.1,kL (kE.ok _ _) y aC i.o.2.2⟩,Qd (λu ⟨b,e,hs⟩=>⟨b,e,kL (kz.ok _ _) y aC hs⟩)<|Qc ⟨_,_,_,ys,j,rfl,bs,t,PJ,M⟩<|Q2<|Qe⟩⟩;intro an w i hf A hd hw;have bN:=Sv 204 A 0;obtain⟨z,bt,ae⟩:=hd _ (Mm 0 rfl) _ rfl rfl;have bO:=Sl 206 bt;obtain⟨q,r,c3,ys,av,bu,af,t,N,M⟩:=hd _ (Mm 1 rfl) _ rfl rfl;have bP:=Sl 210 bu;have O:=NA (And.intro ae (And.intro af (And.intro t (And.intro N M))));clear ae af t N M;exact .q (g:=⟨trivial,i,Q2<|Qc ⟨_,_,_,_,ys,av,rfl,O.o⟩<|Qa⟩);intro an w i hf A hd hw;have bQ:=Sl 6 (hf 6 rfl);obtain⟨z,q,r,c3,ys,av,bv,ae,af,t,N,M⟩:=hd _ (Mm 2 rfl) _ rfl rfl;have bR:=Sl 211 bv;have ah:w0.heap.size<w:=by obtain⟨⟨l,_,E⟩,_⟩:=i;exact E.m.2.2.1
 replace i:=Hq i;obtain⟨l,aR,bS,bT,bU,bV,bW,bX,P⟩:=i.o.1;obtain⟨⟨F,G,I,J,K,L⟩,⟨R,U,V,X,Y,Z⟩⟩:=lL P.hz;replace P:=Hq P;have O:=NA (And.intro ae (And.intro af (And.intro t (And.intro N M))));clear ae af t N M;exact .q (g:=⟨trivial,⟨⟨l,aR,_,_,_,_,_,_,P.o.ly (.int .i64 9) (tx (nm 120 ad)) (tx []) (.slice (some ⟨z,0,none⟩) 1 1) (Nl) (.slice q r c3)⟩,mE.lv y (.ly _ _ _ _ _ _ _) i.o.2.1,kL (kE.ok _ _) y (.ly _ _ _ _ _ _ _) i.o.2.2⟩,Qd (λu ⟨b,e,hs⟩=>⟨b,e,kL (kz.ok _ _) y (.ly _ _ _ _ _ _ _) hs⟩)<|Qd (λu ⟨C,m,c,ys,j,e,hs,hy,hc,hm⟩=>⟨C,m,c,ys,j,e,kL (kE.ok _ _) y (.ly _ _ _ _ _ _ _) hs,hy,hc,hm.ly PJ (λb p=>PH ((aB.o b p).1)) _ _ _ _ _ _⟩)<|Qd (λu ⟨b,C,m,c,ys,j,e,he,hs,hy,hc,hm⟩=>⟨b,C,m,c,ys,j,e,kL (kz.ok _ _) y (.ly _ _ _ _ _ _ _) he,kL (kE.ok _ _) y (.ly _ _ _ _ _ _ _) hs,hy,hc,hm.ly PJ (λb p=>PH ((aB.o b p).1)) _ _ _ _ _ _⟩)<|Qc ⟨z,q,r,c3,ys,av,(P.o.call O.o.2.2.2.2 (lu _ _)).ly (.int .i64 9) (tx (nm 120 ad)) (tx []) (.slice (some ⟨z,0,none⟩) 1 1) (Nl) (.slice q r c3),nD (kz.ok _ _) O.o.1 _ _ _ _ _ _,nD (kE.ok _ _) O.o.2.1 _ _ _ _ _ _,O.o.2.2.1,O.o.2.2.2.1,O.o.2.2.2.2.ly PJ (λb p=>PH ((aB.o b p).1)) _ _ _ _ _ _⟩<|Qe⟩);intro bY bZ aT bw aU;obtain⟨z,q,r,c3,ys,av,P,ae,af,t,N,M⟩:=aU _ (Mm 3 rfl) Lb;have ca:=aT.2.2;obtain⟨⟨F,G,I,J,K,L⟩,⟨R,U,V,X,Y,Z⟩⟩:=lL P.hz;have bx:=(wA (D:=D) (left:=left) P ae (km.nil _ _ _) af (.inr (.inr (.inr (.inr (.inr (.inr (.inr (.inr (.inl ⟨rfl,rfl,rfl,⟨ad,bo,rfl⟩,⟨al,rfl,lp.up PM ap.o⟩,t⟩))))))))) (by rw[oB];omega))
 clear bw aU t aT;simp only[kr,Act.put,NI,NL,NJ];go_wp2_with fail;refine NT (v:=.agg #[.int .i64 9,tx (nm 120 ad),tx [],.slice (some ⟨z,0,none⟩) 1 1,(Nl),(.slice q r c3)]) ?_ rfl bx;simp[results,Tryz.results82,go_sem,F,G,I,J,K,L]
theorem xj(d:Nat)(S w C)(n c:Nat)(xs)(D:km (kz .u8 d) S w (.slice C n c) xs)(P:n<=1000)(hS:∀q,S q->q<w)(hf:∀x∈xs,∀(l:World) (r:List Value),Below w w l->(kz .u8 d) S l r x->Calls prog 148 #[.agg r.toArray] l (qB (kz .u8 d) x l)):
  Calls prog 147 #[.slice C n c,.func (.func 148) #[] #[]] w (rO (kz .u8 d) n xs w):=by
 have Q:=ER;unfold ma at Q;have y:=D.len;have hc:=y.2;have t:=NA y.1;have R:=D;have z:=hS;have T:=hf;have E:=GL n P w;obtain⟨B,m⟩:=Xq w.heap.size;have g:mm (kz .u8 d) 190 4 B (w.alloc (.cells (madeCells #[.int .u8 0,Em,.int .i64 0,Nl] (n*4)) 190)) B n ([]:List (Ex)):=mm.start _ (by rw[m];exact NF _ _) (by rw[Pn]);have f:Below B w (w.alloc (.cells (madeCells #[.int .u8 0,Em,.int .i64 0,Nl] (n*4)) 190)):=by rw[m];exact Ba _ _
 rw[<-m]at E;have j:=NA m;clear hS y hf m
 go_enter func147,ntmps147
 go_wp2_with fail;generalize w.alloc (.cells (madeCells #[.int .u8 0,Em,.int .i64 0,Nl] (n*4)) 190)=l at*;go_loopw [13] (λi wr=>∃k:Nat,k<=n/\i=k/\mm (kz .u8 d) 190 4 B wr B n (xs.take k)/\Below B w wr) (λi _=>n-(intOf i).toNat);case atStart=>exact⟨0,NP _,rfl,g,f⟩
 case round=>
  clear E;obtain⟨k,ai,rfl,g,f⟩:=hrel;have aj:=g.lt;have ak:=f.size;by_cases al:k<n
  .obtain⟨x,hx⟩:∃x,xs[k]?=some x:=Gx (PH t.o);obtain⟨F,am,r,rfl,U,G,p⟩:=(R.kg (kz.ok .u8 d) (λq s=>f.B q (by rw[j.o];exact z q s))).kI (kz.ok .u8 d) k x hx;obtain⟨u,v,c1,rfl⟩:=G.opn;have I:=p 0 _ rfl;have V:=p 1 _ rfl;have W:=p 2 _ rfl;have X:=p 3 _ rfl;rw[NS]at I;have an:F<wr:=PI (z F U) j.o;have ao:(0:Int)<=(k:Int):=PJ;have ap:(k:Int)<(n:Int):=PJ;have A:=Ba wr (.cells #[.int .u8 x.op,tx x.name,x.n,.slice u v c1] 190);have Y:=(T x (NH hx) (wr.alloc (.cells #[.int .u8 x.op,tx x.name,x.n,.slice u v c1] 190)) [.int .u8 x.op,tx x.name,x.n,.slice u v c1] (by rw[<-j.o];exact f.T (A.M (PH j.o))) ((kz.ok .u8 d).kg G (λq s=>A.B q (PI (z q s) j.o))))
   have Z:=NA hx;clear p hx;go_wp2_with fail;refine Y.M ?_;rintro e J ⟨r,rfl,K,L⟩;obtain⟨M,N,c2,rfl⟩:=K.opn;have aq:=L.size;have ar:(wr.alloc (.cells #[.int .u8 x.op,tx x.name,x.n,.slice u v c1] 190)).heap.size=wr+1:=PK;have O:Below wr wr J:=A.T (L.M PJ);have a:=(g.kg (kz.ok .u8 d) O)
   have aa:=(f.T (O.M PJ))
   have au:=a.lt;have ab:=a.frozen (k*4+0);have av:=a.frozen (k*4+1);have aw:=a.frozen (k*4+2);have ax:=a.frozen (k*4+3);rw[NS]at ab;have ay:k*4+3<n*4:=PJ;obtain⟨az,aA⟩:=a.cell (kz.ok .u8 d) (i:=k*4) PJ;obtain⟨aB,aC⟩:=a.cell (kz.ok .u8 d) (i:=k*4+1) PJ;obtain⟨aD,aE⟩:=a.cell (kz.ok .u8 d) (i:=k*4+2) PJ;obtain⟨aF,aG⟩:=a.cell (kz.ok .u8 d) (i:=k*4+3) PJ;have ac:=(show mm (kz .u8 d) 190 4 B (lC J B (k*4) [.int .u8 x.op,tx x.name,x.n,.slice M N c2]) B n (xs.take (k+1))from by have e:xs.take (k+1)=xs.take k++[x]:=(by rw[N5,Z.o];rfl);rw[e];have ad:(xs.take k).length=k:=(by rw[N0];have:=t.o;omega);exact a.put (kz.ok .u8 d) ((kz.ok .u8 d).M K (λq s=>by obtain⟨aH,ae⟩:=s;have:=j.o;exact⟨PJ,ae,PJ⟩)) PJ (by rw[ad]))
   have af:=(lF (lo:=B) (b:=B) (NQ _) (r:=[.int .u8 x.op,tx x.name,.int .i64 x.n,.slice M N c2]) (o:=(k*4)) aa)
   clear g f I V W X;go_wp2_with fail;go_roundw;case rel=>exact⟨k+1,PJ,PQ,ac,af⟩
   case measure=>simp[intOf];omega
  obtain rfl:n=k:=PJ;have ag:xs.take n=xs:=NV (PH t.o);rw[ag]at g;go_wp2_with fail;go_ret;have ah:=j.o;subst ah;exact⟨rfl,g.done (kz.ok .u8 d) (PH t.o) (NQ _) PJ,f⟩
theorem tO(d:Nat)(S w J)(n c:Nat)(xs)(K:km (kE .u8 d) S w (.slice J n c) xs)(ac:n<=1000)(hS:∀q,S q->q<w)(hf:∀x∈xs,∀(m:World) (r:List Value),Below w w m->(kE .u8 d) S m r x->Calls prog 99 #[.agg r.toArray] m (qB (kE .u8 d) x m)):
  Calls prog 98 #[.slice J n c,.func (.func 99) #[] #[]] w (rO (kE .u8 d) n xs w):=by
 have ad:=ES;unfold ma at ad;have F:=K.len;have hc:=F.2;have t:=NA F.1;have ae:=K;have G:=hS;have af:=hf;have L:=GM n ac w;obtain⟨B,p⟩:=Xq w.heap.size;have g:mm (kE .u8 d) 185 6 B (w.alloc (.cells (madeCells #[.int .u8 0,Em,Em,Nl,Nl,Nl] (n*6)) 185)) B n ([]:List (St)):=mm.start _ (by rw[p];exact NF _ _) (by rw[Pn]);have f:Below B w (w.alloc (.cells (madeCells #[.int .u8 0,Em,Em,Nl,Nl,Nl] (n*6)) 185)):=by rw[p];exact Ba _ _
 rw[<-p]at L;have j:=NA p;clear hS F hf p
 go_enter func98,ntmps98
 go_wp2_with fail;generalize w.alloc (.cells (madeCells #[.int .u8 0,Em,Em,Nl,Nl,Nl] (n*6)) 185)=m at*;go_loopw [13] (λi wr=>∃k:Nat,k<=n/\i=k/\mm (kE .u8 d) 185 6 B wr B n (xs.take k)/\Below B w wr) (λi _=>n-(intOf i).toNat);case atStart=>exact⟨0,NP _,rfl,g,f⟩
 case round=>
  clear L;obtain⟨k,ay,rfl,g,f⟩:=hrel;have az:=g.lt;have aA:=f.size;by_cases aB:k<n
  .obtain⟨x,hx⟩:∃x,xs[k]?=some x:=Gx (PH t.o);obtain⟨M,aC,r,rfl,ag,N,l⟩:=(ae.kg (kE.ok .u8 d) (λq s=>f.B q (by rw[j.o];exact G q s))).kI (kE.ok .u8 d) k x hx;obtain⟨u,v,c1,y,z,A,C,D,E,rfl⟩:=N.opn;have O:=l 0 _ rfl;have ah:=l 1 _ rfl;have ai:=l 2 _ rfl;have aj:=l 3 _ rfl;have ak:=l 4 _ rfl;have al:=l 5 _ rfl;rw[NS]at O;have aD:M<wr:=PI (G M ag) j.o;have aE:(0:Int)<=(k:Int):=PJ;have aF:(k:Int)<(n:Int):=PJ;have I:=Ba wr (.cells #[.int .u8 x.kind,tx x.name,tx x.hd,.slice u v c1,.slice y z A,.slice C D E] 185);have am:=(af x (NH hx) (wr.alloc (.cells #[.int .u8 x.kind,tx x.name,tx x.hd,.slice u v c1,.slice y z A,.slice C D E] 185)) [.int .u8 x.kind,tx x.name,tx x.hd,.slice u v c1,.slice y z A,.slice C D E] (by rw[<-j.o];exact f.T (I.M (PH j.o))) ((kE.ok .u8 d).kg N (λq s=>I.B q (PI (G q s) j.o))))
   have an:=NA hx;clear l hx;go_wp2_with fail;refine am.M ?_;rintro e P ⟨r,rfl,Q,R⟩;obtain⟨T,U,c2,V,W,X,Y,Z,aa,rfl⟩:=Q.opn;have aG:=R.size;have aH:(wr.alloc (.cells #[.int .u8 x.kind,tx x.name,tx x.hd,.slice u v c1,.slice y z A,.slice C D E] 185)).heap.size=wr+1:=PK;have ab:Below wr wr P:=I.T (R.M PJ);have a:=(g.kg (kE.ok .u8 d) ab)
   have ao:=(f.T (ab.M PJ))
   have aI:=a.lt;have ap:=a.frozen (k*6+0);have aJ:=a.frozen (k*6+1);have aK:=a.frozen (k*6+2);have aL:=a.frozen (k*6+3);have aM:=a.frozen (k*6+4);have aN:=a.frozen (k*6+5);rw[NS]at ap;have aO:k*6+5<n*6:=PJ;obtain⟨aP,aQ⟩:=a.cell (kE.ok .u8 d) (i:=k*6) PJ;obtain⟨aR,aS⟩:=a.cell (kE.ok .u8 d) (i:=k*6+1) PJ;obtain⟨aT,aU⟩:=a.cell (kE.ok .u8 d) (i:=k*6+2) PJ;obtain⟨aV,aW⟩:=a.cell (kE.ok .u8 d) (i:=k*6+3) PJ;obtain⟨aX,aY⟩:=a.cell (kE.ok .u8 d) (i:=k*6+4) PJ;obtain⟨aZ,ba⟩:=a.cell (kE.ok .u8 d) (i:=k*6+5) PJ;have aq:=(show mm (kE .u8 d) 185 6 B (lC P B (k*6) [.int .u8 x.kind,tx x.name,tx x.hd,.slice T U c2,.slice V W X,.slice Y Z aa]) B n (xs.take (k+1))from by have e:xs.take (k+1)=xs.take k++[x]:=(by rw[N5,an.o];rfl);rw[e];have ar:(xs.take k).length=k:=(by rw[N0];have:=t.o;omega);exact a.put (kE.ok .u8 d) ((kE.ok .u8 d).M Q (λq s=>by obtain⟨bb,au⟩:=s;have:=j.o;exact⟨PJ,au,PJ⟩)) PJ (by rw[ar]))
   have av:=(lF (lo:=B) (b:=B) (NQ _) (r:=[.int .u8 x.kind,tx x.name,tx x.hd,.slice T U c2,.slice V W X,.slice Y Z aa]) (o:=(k*6)) ao)
   clear g f O ah ai aj ak al;go_wp2_with fail;go_roundw;case rel=>exact⟨k+1,PJ,PQ,aq,av⟩
   case measure=>simp[intOf];omega
  obtain rfl:n=k:=PJ;have aw:xs.take n=xs:=NV (PH t.o);rw[aw]at g;go_wp2_with fail;go_ret;have ax:=j.o;subst ax;exact⟨rfl,g.done (kE.ok .u8 d) (PH t.o) (NQ _) PJ,f⟩
theorem CV(S w E)(n c:Nat)(xs)(F:km (mo .u8) S w (.slice E n c) xs)(V:n<=1000)(hS:∀q,S q->q<w)(hf:∀x∈xs,∀(j:World) (r:List Value),Below w w j->(mo .u8) S j r x->Calls prog 58 #[.agg r.toArray] j (qB (mo .u8) x j)):
  Calls prog 57 #[.slice E n c,.func (.func 58) #[] #[]] w (rO (mo .u8) n xs w):=by
 have W:=ET;unfold ma at W;have A:=F.len;have hc:=A.2;have p:=NA A.1;have X:=F;have C:=hS;have Y:=hf;have G:=GN n V w;obtain⟨B,l⟩:=Xq w.heap.size;have f:mm (mo .u8) 118 3 B (w.alloc (.cells (madeCells #[Em,Nl,Nl] (n*3)) 118)) B n ([]:List (Hd)):=mm.start _ (by rw[l];exact NF _ _) (by rw[Pn]);have a:Below B w (w.alloc (.cells (madeCells #[Em,Nl,Nl] (n*3)) 118)):=by rw[l];exact Ba _ _
 rw[<-l]at G;have g:=NA l;clear hS A hf l
 go_enter func57,ntmps57
 go_wp2_with fail;generalize w.alloc (.cells (madeCells #[Em,Nl,Nl] (n*3)) 118)=j at*;go_loopw [13] (λi wr=>∃k:Nat,k<=n/\i=k/\mm (mo .u8) 118 3 B wr B n (xs.take k)/\Below B w wr) (λi _=>n-(intOf i).toNat);case atStart=>exact⟨0,NP _,rfl,f,a⟩
 case round=>
  clear G;obtain⟨k,am,rfl,f,a⟩:=hrel;have an:=f.lt;have ao:=a.size;by_cases ap:k<n
  .obtain⟨x,hx⟩:∃x,xs[k]?=some x:=Gx (PH p.o);obtain⟨I,aq,r,rfl,Z,J,s⟩:=(X.kg (mo.ok .u8) (λq m=>a.B q (by rw[g.o];exact C q m))).kI (mo.ok .u8) k x hx;obtain⟨t,u,c1,v,y,z,rfl⟩:=J.opn;have K:=s 0 _ rfl;have aa:=s 1 _ rfl;have ab:=s 2 _ rfl;rw[NS]at K;have ar:I<wr:=PI (C I Z) g.o;have au:(0:Int)<=(k:Int):=PJ;have av:(k:Int)<(n:Int):=PJ;have D:=Ba wr (.cells #[tx x.name,.slice t u c1,.slice v y z] 118);have ac:=(Y x (NH hx) (wr.alloc (.cells #[tx x.name,.slice t u c1,.slice v y z] 118)) [tx x.name,.slice t u c1,.slice v y z] (by rw[<-g.o];exact a.T (D.M (PH g.o))) ((mo.ok .u8).kg J (λq m=>D.B q (PI (C q m) g.o))))
   have ad:=NA hx;clear s hx;go_wp2_with fail;refine ac.M ?_;rintro e L ⟨r,rfl,M,N⟩;obtain⟨O,P,c2,Q,R,T,rfl⟩:=M.opn;have aw:=N.size;have ax:(wr.alloc (.cells #[tx x.name,.slice t u c1,.slice v y z] 118)).heap.size=wr+1:=PK;have U:Below wr wr L:=D.T (N.M PJ);have d:=(f.kg (mo.ok .u8) U)
   have ae:=(a.T (U.M PJ))
   have ay:=d.lt;have af:=d.frozen (k*3+0);have az:=d.frozen (k*3+1);have aA:=d.frozen (k*3+2);rw[NS]at af;have aB:k*3+2<n*3:=PJ;obtain⟨aC,aD⟩:=d.cell (mo.ok .u8) (i:=k*3) PJ;obtain⟨aE,aF⟩:=d.cell (mo.ok .u8) (i:=k*3+1) PJ;obtain⟨aG,aH⟩:=d.cell (mo.ok .u8) (i:=k*3+2) PJ;have ag:=(show mm (mo .u8) 118 3 B (lC L B (k*3) [tx x.name,.slice O P c2,.slice Q R T]) B n (xs.take (k+1))from by have e:xs.take (k+1)=xs.take k++[x]:=(by rw[N5,ad.o];rfl);rw[e];have ah:(xs.take k).length=k:=(by rw[N0];have:=p.o;omega);exact d.put (mo.ok .u8) ((mo.ok .u8).M M (λq m=>by obtain⟨aI,ai⟩:=m;have:=g.o;exact⟨PJ,ai,PJ⟩)) PJ (by rw[ah]))
   have aj:=(lF (lo:=B) (b:=B) (NQ _) (r:=[tx x.name,.slice O P c2,.slice Q R T]) (o:=(k*3)) ae)
   clear f a K aa ab;go_wp2_with fail;go_roundw;case rel=>exact⟨k+1,PJ,PQ,ag,aj⟩
   case measure=>simp[intOf];omega
  obtain rfl:n=k:=PJ;have ak:xs.take n=xs:=NV (PH p.o);rw[ak]at f;go_wp2_with fail;go_ret;have al:=g.o;subst al;exact⟨rfl,f.done (mo.ok .u8) (PH p.o) (NQ _) PJ,a⟩
theorem GP(n:Nat)(hn:n<=1000)(w):(Instr.makeSlice 103 (.int .i64 (n:Int)) (.int .i64 (n:Int))).run prog w=.ok (.slice (some ⟨w,0,none⟩) n n) (w.alloc (.cells (madeCells #[Nl] n) 111)):=by obtain⟨b,c,d,a,e⟩:=N4 Iy;have:=O9 (P:=prog) w 103 111 b _ underlying103 c d .i64 .i64 (n:Int) (n:Int) PJ (Pb _) (by rw[a];simp;omega) (by rw[e];omega) PJ;rw[a,Og,Oq]at this;exact this
theorem CW(S w z)(n c:Nat)(xs)(A:km (mB .u8) S w (.slice z n c) xs)(O:n<=1000)(hS:∀q,S q->q<w)(hf:∀x∈xs,∀(g:World) (r:List Value),Below w w g->(mB .u8) S g r x->Calls prog 56 #[.agg r.toArray] g (qB (mB .u8) x g)):
  Calls prog 55 #[.slice z n c,.func (.func 56) #[] #[]] w (rO (mB .u8) n xs w):=by
 have P:=yK;unfold ma at P;have u:=A.len;have hc:=u.2;have m:=NA u.1;have Q:=A;have v:=hS;have R:=hf;have C:=GP n O w;obtain⟨B,j⟩:=Xq w.heap.size;have d:mm (mB .u8) 111 1 B (w.alloc (.cells (madeCells #[Nl] n) 111)) B n ([]:List (List Hd)):=mm.start _ (by rw[j];exact NF _ _) (by rw[Pn];simp);have a:Below B w (w.alloc (.cells (madeCells #[Nl] n) 111)):=by rw[j];exact Ba _ _
 rw[<-j]at C;have f:=NA j;clear hS u hf j
 go_enter func55,ntmps55
 go_wp2_with fail;generalize w.alloc (.cells (madeCells #[Nl] n) 111)=g at*;go_loopw [13] (λi wr=>∃k:Nat,k<=n/\i=k/\mm (mB .u8) 111 1 B wr B n (xs.take k)/\Below B w wr) (λi _=>n-(intOf i).toNat);case atStart=>exact⟨0,NP _,rfl,d,a⟩
 case round=>
  clear C;obtain⟨k,ad,rfl,d,a⟩:=hrel;have ae:=d.lt;have af:=a.size;by_cases ag:k<n
  .obtain⟨x,hx⟩:∃x,xs[k]?=some x:=Gx (PH m.o);obtain⟨D,ah,r,rfl,T,E,F⟩:=(Q.kg (mB.ok .u8) (λq l=>a.B q (by rw[f.o];exact v q l))).kI (mB.ok .u8) k x hx;obtain⟨p,s,c1,rfl⟩:=E.opn;have G:=F 0 _ rfl;rw[NS,Og]at G;have ai:D<wr:=PI (v D T) f.o;have aj:(0:Int)<=(k:Int):=PJ;have ak:(k:Int)<(n:Int):=PJ;have y:=Ba wr (.cells #[.slice p s c1] 111);have U:=(R x (NH hx) (wr.alloc (.cells #[.slice p s c1] 111)) [.slice p s c1] (by rw[<-f.o];exact a.T (y.M (PH f.o))) ((mB.ok .u8).kg E (λq l=>y.B q (PI (v q l) f.o))))
   have V:=NA hx;clear F hx;go_wp2_with fail;refine U.M ?_;rintro e I ⟨r,rfl,J,K⟩;obtain⟨L,M,c2,rfl⟩:=J.opn;have al:=K.size;have am:(wr.alloc (.cells #[.slice p s c1] 111)).heap.size=wr+1:=PK;have N:Below wr wr I:=y.T (K.M PJ);have t:=(d.kg (mB.ok .u8) N)
   have W:=(a.T (N.M PJ))
   have an:=t.lt;have ao:=t.frozen k;have ap:k<n*1:=PJ;obtain⟨aq,ar⟩:=t.cell (mB.ok .u8) (i:=k) PJ;have X:=(show mm (mB .u8) 111 1 B (lC I B k [.slice L M c2]) B n (xs.take (k+1))from by have e:xs.take (k+1)=xs.take k++[x]:=(by rw[N5,V.o];rfl);rw[e];have Y:(xs.take k).length=k:=(by rw[N0];have:=m.o;omega);exact t.put (mB.ok .u8) ((mB.ok .u8).M J (λq l=>by obtain⟨au,Z⟩:=l;have:=f.o;exact⟨PJ,Z,PJ⟩)) PJ (by rw[Y];omega))
   have aa:=(lF (lo:=B) (b:=B) (NQ _) (r:=[.slice L M c2]) (o:=k) W)
   clear d a G;go_wp2_with fail;go_roundw;case rel=>exact⟨k+1,PJ,PQ,X,aa⟩
   case measure=>simp[intOf];omega
  obtain rfl:n=k:=PJ;have ab:xs.take n=xs:=NV (PH m.o);rw[ab]at d;go_wp2_with fail;go_ret;have ac:=f.o;subst ac;exact⟨rfl,d.done (mB.ok .u8) (PH m.o) (NQ _) PJ,a⟩
theorem yc(d:Nat)(M:JB d):JB (d+1):=by
 intro S w r x h hS D;obtain⟨v,rfl,n⟩:=h;obtain⟨g,c,rfl,hc⟩:=n.form;have N:=D.args.1;have O:=NA D.args.2;obtain⟨m,hm⟩:=Xq x.args.length;rw[<-hm]at n N hc⊢;have ax:=NA hm;clear hm;have P:=M;have E:=NA hS;have p:=(Ba w (.cells #[.int .u8 x.op,tx x.name,x.n,.slice g m c] 190)|>.alloc PK (.cells #[.int .u8 0,Em,.int .i64 0,Nl] 190))
 have s:=NA ((N6 (w.alloc (.cells #[.int .u8 x.op,tx x.name,x.n,.slice g m c] 190)) (.cells #[.int .u8 0,Em,.int .i64 0,Nl] 190) (r:=w.heap.size) PK).T (NF _ _));have t:=NA (NF (w.alloc (.cells #[.int .u8 x.op,tx x.name,x.n,.slice g m c] 190)) (.cells #[.int .u8 0,Em,.int .i64 0,Nl] 190));have Q:=NA (show((w.alloc (.cells #[.int .u8 x.op,tx x.name,x.n,.slice g m c] 190)).alloc (.cells #[.int .u8 0,Em,.int .i64 0,Nl] 190)).heap.size=w+2 from PK);have R:=(n.kg (kz.ok .u8 d) (λq b=>p.B q (hS q b)))
 rw[NB]at t;clear hS
 go_enter func148,ntmps148
 go_upto_region 1 with fail;generalize(w.alloc (.cells #[.int .u8 x.op,tx x.name,x.n,.slice g m c] 190)).alloc (.cells #[.int .u8 0,Em,.int .i64 0,Nl] 190)=F at*;have G:=Q.o;obtain⟨a,u⟩:=Xq w.heap.size;rw[<-u]at s t p G⊢;have y:=NA u;clear u;obtain⟨⟨z,A,B,C⟩,_⟩:=qg s.o;have T:a<F:=PJ
 go_wp2_with fail;refine(xj d S F g m c x.args R PJ (λq b=>PI (E.o q b) y.o) (λI hy f r U hr=>P S f r I hr (λq b=>by have:=E.o q b;have:=y.o;have:=U.size;omega) (O.o I hy))).M ?_;rintro e f ⟨rfl,V,j⟩;have ay:=j.size;have J:=(j.B a T).T s.o;have k:=(j.B (a+1) PJ).T t.o;have az:=NA k;clear z A B C;obtain⟨⟨z,A,B,C⟩,W,X,Y,Z⟩:=qg J;obtain⟨⟨aa,ab,ac,ad⟩,ae,af,ag,ah⟩:=qg k;have aA:a<f:=PJ
 have aB:a+1<f:=PJ
 have ai:a+1≠a:=PJ
 have K:=(N1 f ⟨a,3,none⟩ (.slice (some ⟨a+2,0,none⟩) m m) (a+1) ai).T k;obtain⟨l,i⟩:=Xq (lC (f.setCell ⟨a,3,none⟩ (.slice (some ⟨a+2,0,none⟩) m m)) (a+1) 0 [.int .u8 x.op,tx x.name,x.n,.slice (some ⟨a+2,0,none⟩) m m]);have aj:=NA (show l.heap[a+1]?=some (.cells #[.int .u8 x.op,tx x.name,x.n,.slice (some ⟨a+2,0,none⟩) m m] 190 (0,0))from by rw[i];exact ot (r:=[.int .u8 x.op,tx x.name,.int .i64 x.n,.slice (some ⟨a+2,0,none⟩) m m]) (m:=[_,_,_,_]) K rfl);have ak:=NA (show∀q,q≠a->q≠a+1->l.heap[q]?=f.heap[q]? from λq al am=>by rw[i];exact(nP am).T (N1 _ _ _ _ al));have an:=NA (show l.heap.size=f from by rw[i];exact nh.T (NM _ _ _));have ao:Below a w l:=by rw[i];exact lF PJ (kq (p.T (j.M PJ)) (NQ _))
 have ap:=NA i;clear J k K i;go_wp2_with fail;change bodyPost _ _ _ _ _ (lC (f.setCell ⟨a,3,none⟩ (.slice (some ⟨a+2,0,none⟩) m m)) (a+1) 0 [.int .u8 x.op,tx x.name,x.n,.slice (some ⟨a+2,0,none⟩) m m]);rw[<-ap.o];have aq:=y.o;subst aq;obtain⟨⟨ar,au,av,aw⟩,_⟩:=qg aj.o;clear z A B C W X Y Z aa ab ac ad ae af ag ah;refine NT (v:=.agg #[.int .u8 x.op,tx x.name,x.n,.slice (some ⟨w+2,0,none⟩) m m]) ?_ rfl ⟨[.int .u8 x.op,tx x.name,x.n,.slice (some ⟨w+2,0,none⟩) m m],rfl,⟨_,rfl,?_⟩,ao⟩;simp[results,Tryz.results148,go_sem,ar,au,av,aw];have L:=V;rw[G]at L;exact(L.kg (kz.ok .u8 d) (λq b=>ak.o q (PH b.1) (PH b.1))).M (kz.ok .u8 d) (λq b=>⟨PH b.1,by rw[an.o];exact b.2⟩)
theorem uq:∀d,JB d
 |0=>λ_ _ _ _ h _ _=>h.elim
 |d+1=>yc d (uq d)
structure uH(w:World)(fb:Nat)(f:Fl):Prop where
 lt:fb<w
 ex:∃(S:Nat->Prop) (B1:Option Addr) (n1 d1:Nat) (B2:Option Addr) (n2 d2:Nat) (B3:Option Addr) (n3 d3 pb:Nat),w.cell? ⟨fb,0,none⟩=some (tx f.name)/\w.cell? ⟨fb,1,none⟩=some (.slice B1 n1 d1)/\w.cell? ⟨fb,2,none⟩=some (.slice B2 n2 d2)/\w.cell? ⟨fb,3,none⟩=some (.slice B3 n3 d3)/\
  w.cell? ⟨fb,37,none⟩=some (.pointer (some ⟨pb,0,none⟩))/\qV S w B1 n1 d1 B2 n2 d2 B3 n3 d3 f/\xN S w pb (lD f)/\pb<w
theorem xN.kg{S w w'}{a:Nat}{b}(h:xN S w a b)(d:∀q,(S q\/q=a)->w'.heap[q]?=w.heap[q]?):xN S w' a b:=by obtain⟨e,n,c,f,g⟩:=h;exact⟨e,n,c,(d a (.inr rfl)).T f,g.kg BW.ok λq i=>d q (.inl i)⟩
theorem xN.M{S T w}{a:Nat}{b}(h:xN S w a b)(d:∀q,S q->T q):xN T w a b:=by obtain⟨e,n,c,f,g⟩:=h;exact⟨e,n,c,f,g.M BW.ok d⟩
theorem qV.M{S T w b}{c c1:Nat}{d}{e c2:Nat}{g}{i c3:Nat}{f}(h:qV S w b c c1 d e c2 g i c3 f)(a:∀q,S q->T q)(hf:∀q,T q->q<w.heap.size):qV T w b c c1 d e c2 g i c3 f:=
 ⟨h.kM.M mR.ok a,h.lN.M nI.ok a,h.ky.M (mg.ok .u8) a,hf⟩
theorem uH.kh{w w'}{a:Nat}{f}(h:uH w a f)(b:Below w w w'):uH w' a f:=by obtain⟨d,S,e,g,j,k,l,m,n,p,d3,r,c0,c1,c2,c3,c4,hf,hp,s⟩:=h;have t:=b.B a d;have hc:∀i,w'.cell? ⟨a,i,none⟩=w.cell? ⟨a,i,none⟩:=λi=>Cb a i t;exact⟨ND d b.size,S,e,g,j,k,l,m,n,p,d3,r,(hc 0).T c0,(hc 1).T c1,(hc 2).T c2,(hc 3).T c3,(hc 37).T c4,hf.kh b,hp.kg (λq c=>b.B q (by rcases c with c|c;exact hf.ln q c;omega)),ND s b.size⟩
theorem uZ(S w p)(n c:Nat)(xs)(h:km kA S w (.slice p n c) xs)(hn:n<=1000)(hx:∀q,S q->q<w):
  Calls prog 117 #[.slice p n c] w λe w'=>(∃(f:Option Addr) (i:Nat),e=.returned (.slice f n i))/\Below w w w':=by
 have B:=h.len;cases p with
 |none=>
  have d:n=0:=by rcases OL n with d|d;exact d;obtain⟨b,o,r,e,_⟩:=h.kI kA.ok 0 xs[0] (NU PJ);cases e
  subst d;refine(Tryz.slices_Clone_string_nil 0 c w).M ?_;rintro e w' ⟨rfl,rfl⟩;exact⟨⟨_,_,rfl⟩,Below.refl _ _⟩
 |some a=>
  have u:∀{j:Value} {w':World} {l:List Value},w'.ownsRow w 9 1 j n l->∃(f:Option Addr) (i:Nat),j=.slice f n i:=by
   intro j w' l k;rcases k.2 with⟨rfl,d⟩|⟨g,C,D,rfl,_⟩
   exact⟨none,0,by rw[d]⟩;exact⟨_,_,rfl⟩
  rcases OL n with d|d;subst d;refine(Tryz.slices_Clone_string_zero a c w).M ?_;rintro e w' ⟨j,rfl,k,_,s⟩;obtain⟨f,i,rfl⟩:=u k;exact⟨⟨_,_,rfl⟩,s⟩;obtain⟨b,o,r,e,_,_,_⟩:=h.kI kA.ok 0 xs[0] (NU PJ);injection e with e;subst e;refine(Tryz.slices_Clone_string b o n c (xs.map λx=>(⟨x.toArray⟩:ByteArray)) w PO PJ (λm y=>?_)).M ?_;have v:m<xs.length:=(by simpa using y);obtain⟨E,o2,z,t,_,hr,hc⟩:=h.kI kA.ok m xs[m] (NU v);injection t with t;injection t with e3 e4;subst e3;subst e4;have A:z=[tx xs[m]]:=hr;subst A;have:=hc 0 _ rfl;rw[NS,Og]at this;rw[this];simp[v];rintro e w' ⟨j,rfl,k,_,s⟩;obtain⟨f,i,rfl⟩:=u k;exact⟨⟨_,_,rfl⟩,s⟩
end Go.Proofs.YtfemcncookpdhaaGreatDoor
namespace Go.Proofs.YtfemcncookpdhaaGreatDoor
open Go.RowKit lX Go.Maps Go.Proofs.Tryz
theorem oL(S w b)(c c1:Nat)(d)(g c2:Nat)(i)(j c3:Nat)(f)(s:lH w)(hf:qV S w b c c1 d g c2 i j c3 f)(t:pj f):
  Calls prog 45 #[.agg #[tx f.name,.slice b c c1,.slice d g c2,.slice i j c3]] w (kU (.int .i64 0) w):=by
 have k:Below w w (w.alloc (.cells #[tx f.name,.slice b c c1,.slice d g c2,.slice i j c3] 42)):=Ba _ _;have q:=NF w (.cells #[tx f.name,.slice b c c1,.slice d g c2,.slice i j c3] 42);have D:(w.alloc (.cells #[tx f.name,.slice b c c1,.slice d g c2,.slice i j c3] 42)).heap.size=w+1:=PK
 have l:=(hf.kh k)
 have m:=t;have n:=(s.to k)
 go_enter func45,ntmps45
 go_wp2_with fail;generalize w.alloc (.cells #[tx f.name,.slice b c c1,.slice d g c2,.slice i j c3] 42)=B at*;have r:w.heap.size<B:=PJ
 refine(Ey S B b c c1 d g c2 i j c3 f n l m).M ?_;rintro e u ⟨rfl,a⟩;generalize u=wr at*;obtain⟨⟨v,x,y,z⟩,_⟩:=kC ((a.B _ r).T q);have A:w.heap.size<wr:=PH a.size
 go_wp2_with fail;refine(Ew S wr b c c1 d g c2 i j c3 f (n.to a) (l.kh a) m).M ?_;rintro e C ⟨rfl,p⟩;have a:=(a.T (p.M a.size))
 generalize wr=E at*;generalize C=wr at*;obtain⟨⟨v,x,y,z⟩,_⟩:=kC ((a.B _ r).T q);have A:w.heap.size<wr:=PH a.size
 go_wp2_with fail;refine(CE S wr b c c1 d g c2 i j c3 f (n.to a) (l.kh a) m).M ?_;rintro e F ⟨rfl,p⟩;have a:=(a.T (p.M a.size))
 go_wp2_with fail;go_ret;exact⟨rfl,k.T (a.M PJ)⟩
end Go.Proofs.YtfemcncookpdhaaGreatDoor
namespace Go.Proofs.YtfemcncookpdhaaGreatDoor
open Go.RowKit lX Go.Proofs.Tryz
theorem CQ(S w j)(l c1:Nat)(n)(p c2:Nat)(m)(d c3:Nat)(f)(aw:lH w)(hf:qV S w j l c1 n p c2 m d c3 f)(ax:pj f)(X:uD f):
  Calls prog 46 #[.agg #[tx f.name,.slice j l c1,.slice n p c2,.slice m d c3]] w (kU (.tuple #[MJ,.int .i64 0]) w):=by
 have y:Below w w (((w.alloc (.cells #[tx f.name,.slice j l c1,.slice n p c2,.slice m d c3] 42)).alloc (.cells #[Em,Em,.int .i64 0] 145)).alloc (.cells #[tx f.name,.slice j l c1,.slice n p c2,.slice m d c3,.string ⟨#[102,108,101,101,116]⟩,Em,Em,.int .i64 0] 211)):=((Ba _ _).alloc PK _).alloc PO _;have I:(((w.alloc (.cells #[tx f.name,.slice j l c1,.slice n p c2,.slice m d c3] 42)).alloc (.cells #[Em,Em,.int .i64 0] 145)).alloc (.cells #[tx f.name,.slice j l c1,.slice n p c2,.slice m d c3,.string ⟨#[102,108,101,101,116]⟩,Em,Em,.int .i64 0] 211)).heap.size=w+3:=PK
 have J:(((w.alloc (.cells #[tx f.name,.slice j l c1,.slice n p c2,.slice m d c3] 42)).alloc (.cells #[Em,Em,.int .i64 0] 145)).alloc (.cells #[tx f.name,.slice j l c1,.slice n p c2,.slice m d c3,.string ⟨#[102,108,101,101,116]⟩,Em,Em,.int .i64 0] 211)).heap[w.heap.size]?=some (.cells #[tx f.name,.slice j l c1,.slice n p c2,.slice m d c3] 42 (0,0)):=(Ot _ _ _ PO).T ((Ot _ _ _ PK).T (NF w _));have L:(((w.alloc (.cells #[tx f.name,.slice j l c1,.slice n p c2,.slice m d c3] 42)).alloc (.cells #[Em,Em,.int .i64 0] 145)).alloc (.cells #[tx f.name,.slice j l c1,.slice n p c2,.slice m d c3,.string ⟨#[102,108,101,101,116]⟩,Em,Em,.int .i64 0] 211)).heap[w.heap.size+1]?=some (.cells #[Em,Em,.int .i64 0] 145 (0,0)):=(Ot _ _ _ PK).T (by have:=NF (w.alloc (.cells #[tx f.name,.slice j l c1,.slice n p c2,.slice m d c3] 42)) (.cells #[Em,Em,.int .i64 0] 145);rw[NB]at this;exact this);have M:(((w.alloc (.cells #[tx f.name,.slice j l c1,.slice n p c2,.slice m d c3] 42)).alloc (.cells #[Em,Em,.int .i64 0] 145)).alloc (.cells #[tx f.name,.slice j l c1,.slice n p c2,.slice m d c3,.string ⟨#[102,108,101,101,116]⟩,Em,Em,.int .i64 0] 211)).heap[w.heap.size+2]?=some (.cells #[tx f.name,.slice j l c1,.slice n p c2,.slice m d c3,.string ⟨#[102,108,101,101,116]⟩,Em,Em,.int .i64 0] 211 (0,0)):=by have:=NF ((w.alloc (.cells #[tx f.name,.slice j l c1,.slice n p c2,.slice m d c3] 42)).alloc (.cells #[Em,Em,.int .i64 0] 145)) (.cells #[tx f.name,.slice j l c1,.slice n p c2,.slice m d c3,.string ⟨#[102,108,101,101,116]⟩,Em,Em,.int .i64 0] 211);rw[NB,NB]at this;exact this
 have u:=hf;have ay:=aw;have az:=ax;obtain⟨Y,Z,aA,aa,ab,be,aB,ac,aC,ad,N⟩:=X.ex;clear aA;have aD:=NA ac;have aE:=NA N;have aF:=X.b;have bf:=aF.lN;have bg:d<=3:=PH hf.ky.len.1
 have aG:=NA hf.ky.len;have aH:=NA (show∀(i:Nat) (c:Co),f.ky[i]?=some c->c.name=kB i from λi c h=>by obtain⟨_,_,_,_,_,_,h,_⟩:=(N i c h).ex;exact h);obtain⟨B,z⟩:=Xq (((w.alloc (.cells #[tx f.name,.slice j l c1,.slice n p c2,.slice m d c3] 42)).alloc (.cells #[Em,Em,.int .i64 0] 145)).alloc (.cells #[tx f.name,.slice j l c1,.slice n p c2,.slice m d c3,.string ⟨#[102,108,101,101,116]⟩,Em,Em,.int .i64 0] 211));rw[<-z]at y I J L M;have aI:=NA z;have G:=NA J;have ae:=NA L;have O:=NA M;have P:w.heap.size<=B:=y.size;clear ac N z J L M
 go_enter func46,ntmps46
 go_wp2_with fail;have z:=aI.o;rw[<-z];clear z;obtain⟨b,A⟩:=Xq w.heap.size;rw[<-A];rw[<-A]at G ae O I;have af:=NA A;have ag:∀q,S q->q<b:=λq r=>by rw[A];exact u.ln q r
 have ah:=NA ag;clear ag A;have bh:B=b+3:=I;refine Ri (λx=>Below B B x) (mG [(Pp (b+2) 0),(·=.agg #[tx f.name,.slice j l c1,.slice n p c2,.slice m d c3]),(·=.int .i64 0),(Pp b 0),(·=tx f.name),(·=.bool true)]) [] ((Below.refl _ _).drew) ⟨?_,?_,?_,?_,?_,?_,trivial⟩ ?_
 .exact .f 4
 .intro C w a hf s hd hw;have bi:=Sl 1 (hf 1 rfl);obtain⟨⟨Q,R,T,U⟩,_⟩:=kC ((a.B b PJ).T G.o);replace a:=Hq a;exact .q (g:=⟨rfl,a.o,Qa⟩)
 .intro C w a hf s hd hw;have bj:=Sv 10 s 1;have bk:=af.o;replace a:=Hq a;refine .c (oL S w j l c1 n p c2 m d c3 f (ay.to (y.T (a.o.M P))) (u.kh (y.T (a.o.M P))) az) ?_;rintro e w' ⟨he,aJ⟩;subst he;exact⟨_,rfl,⟨rfl,a.o.T (aJ.M a.o.size),Qe⟩⟩
 .exact .f 1
 .intro C w a hf s hd hw;have bl:=Sv 12 s 3;obtain⟨⟨Q,R,T,U⟩,_⟩:=kC ((a.B b PJ).T G.o);replace a:=Hq a;exact .q (g:=⟨rfl,a.o,Qa⟩)
 .intro C w a hf s hd hw;have bm:=Sv 9 s 0;have bn:=Sv 11 s 2;have bo:=Sv 13 s 4;clear hf s hd hw;replace a:=Hq a;refine .h λK hK=>?_;go_simp;refine⟨rfl,?_⟩;refine Calls.M (tL (b+2) (tx f.name) _ _ _ w _ ⟨_,(a.o.B (b+2) PJ).T O.o⟩) ?_;rintro e w' ⟨he,hw⟩;subst hw;subst he;exact⟨_,rfl,hK ⟨rfl,a.o,Qe⟩⟩
 intro ai E D aK aL;have bp:=D.size;clear aK aL;simp only[kr,Act.put,NI,NL,NJ];have V:=NA (show∀q,S q->E.heap[q]?=w.heap[q]? from λq r=>(D.B q (PH (ah.o q r))).T (y.B q (u.ln q r)));have aM:tW (b+2) (tx f.name) (.slice j l c1) (.slice n p c2) (.slice m d c3) E:=⟨_,(D.B (b+2) PJ).T O.o⟩
 have t:=NA (show∀q,S q->q<E/\q≠b+2 from λq r=>PH (ah.o q r));go_wp2_with fail;refine(CI S E f.kM j l c1 (b+2) (tx f.name) _ _ Y aM (u.kM.kg mR.ok V.o) ab aa t.o).M ?_;rintro e aj ⟨rfl,aN,W⟩;have bq:=W.size;have ak:=NA (show∀q,S q->aj.heap[q]?=w.heap[q]? from λq r=>(W.B q (t.o q r).1 (t.o q r).2).T (V.o q r));go_wp2_with fail;refine(CJ S aj f.lN n p c2 f.ky m d c3 (b+2) (tx f.name) _ Z.length aN (u.lN.kg nI.ok ak.o) (u.ky.kg (mg.ok _) ak.o) aC PJ aB ad aH.o (λq r=>⟨PH ((t.o q r).1),(t.o q r).2⟩)).M ?_;rintro e br ⟨rfl,aO,al⟩;have am:=(W.T al)
 have bs:=al.size;obtain⟨⟨Q,R,T,U⟩,_⟩:=kC ((am.B b PJ PJ).T ((D.B b PJ).T G.o));go_wp2_with fail;clear Q R T U;go_loopw [22] (λi wr=>∃k:Nat,k<=d/\i=k/\tW (b+2) (tx f.name) (.slice j l c1) (.slice n p c2) (.slice m d c3) wr/\nG (λq=>q=b+2) E wr) (λi _=>d-(intOf i).toNat);case atStart=>exact⟨0,NP _,rfl,aO,am⟩
 case round=>
 obtain⟨k,bt,rfl,an,F⟩:=hrel;have bu:=F.size;by_cases bv:k<d
 .obtain⟨aP,ao⟩:∃x,f.ky[k]?=some x:=Gx (PH aG.o);have aQ:=NA ao;clear ao;have ap:=NA (show∀q,S q->wr.heap[q]?=w.heap[q]? from λq r=>(F.B q (t.o q r).1 (t.o q r).2).T (V.o q r));go_wp2_with fail;refine(EE S wr f.kM j l c1 f.ky m d c3 (b+2) (tx f.name) _ Y Z k aP an (u.kM.kg mR.ok ap.o) ab aa (u.ky.kg (mg.ok _) ap.o) PJ aE.o ad.symm aD.o aQ.o (λq r=>⟨PH ((t.o q r).1),(t.o q r).2⟩)).M ?_;rintro e bw ⟨rfl,aR,aS⟩;have aT:=(F.T aS)
  go_wp2_with fail;go_roundw;case rel=>exact⟨k+1,PJ,PQ,aR,aT⟩
  case measure=>simp[intOf];omega
 .obtain rfl:d=k:=PJ;go_wp2_with fail;obtain⟨aU,aq⟩:=an;have aV:=NA aq;have aW:=NA ((F.B (b+1) PJ PJ).T ((D.B (b+1) PJ).T ae.o));clear aq;have aX:b+2≠b+1:=PJ;refine Ri (λx=>Lr (b+1) (b+2) #[tx f.name,.slice j l c1,.slice n p c2,.slice m d c3] aU b wr x) (mG [(Pp (b+2) 0),(Pp (b+2) 0),(Pp (b+2) 5),(·=.agg #[Em,Em,.int .i64 0]),(Pp (b+2) 0),(Pp (b+2) 0),(Pp (b+2) 5),(Pp (b+2) 7),(·=.int .i64 0),Tr,(·=.int .i64 0)]) [] (⟨(Below.refl _ _).drew,aV.o,aW.o⟩) ⟨?_,?_,?_,?_,?_,?_,?_,?_,?_,?_,?_,trivial⟩ ?_;exact .f 4;exact .v 29 0;exact .v 30 1;intro C w a hf s hd hw;have bx:=Sv 31 s 2;have c5:=kf a.2.1 5 _ rfl;have aY:=kf a.2.1 6 _ rfl;have aZ:=kf a.2.1 7 _ rfl;replace a:=Hq a;exact .q (g:=⟨rfl,a.o,Qa⟩);exact .f 4;exact .v 33 4;exact .v 34 5;exact .v 35 6;intro C w a hf s hd hw;have bz:=Sv 36 s 7;have c5:=kf a.2.1 5 _ rfl;have aY:=kf a.2.1 6 _ rfl;have aZ:=kf a.2.1 7 _ rfl;replace a:=Hq a;exact .q (g:=⟨rfl,a.o,Qa⟩);intro C w a hf s hd hw;have bA:=Sl 2 (hf 2 rfl);have bB:=Sv 32 s 3;obtain⟨⟨bC,bD,bE⟩,⟨bF,bG,bH⟩⟩:=kS a.2.2;replace a:=Hq a;exact .q (g:=⟨trivial,a.o.set aX PJ,Qe⟩);exact .v 37 8;intro ai bI ar au ba;have av:ai 10=.int .i64 0:=au 10 PM;clear au ba;simp only[kr,Act.put,NI,NL,NJ,av];clear av;obtain⟨⟨bb,bc,bd⟩,_⟩:=kS ar.2.2;go_wp2_with fail;have A:=af.o;refine NT (v:=.tuple #[.agg #[Em,Em,.int .i64 0],.int .i64 0]) ?_ rfl ⟨rfl,?_⟩;simp[results,Tryz.results46,go_sem,bb,bc,bd];exact((y.T (D.M P)).T (F.kh PJ (λq r=>PJ))).T (ar.1.M PJ)
end Go.Proofs.YtfemcncookpdhaaGreatDoor
namespace Go.Proofs.YtfemcncookpdhaaGreatDoor.C
open Go.RowKit Go.Proofs.Tryz
theorem yQ(k:Int)(w):Calls prog 65 #[.int .u8 k] w λe w'=>e=.returned (.bool (kj.oA k))/\w=w':=by
 cases h1:(k==1)<;>cases h2:(k==2)<;>cases h3:(k==3)<;>cases h4:(k==4);all_goals
  (go_enter func65,ntmps65;go_wp2;go_ret;exact⟨by simp[kj.oA,h1,h2,h3,h4],rfl⟩)
theorem DX(k:Int)(w):Calls prog 183 #[.int .u8 k] w λe w'=>e=.returned (.bool (kj.qm k))/\w=w':=by
 cases h1:(k==1)<;>cases h2:(k==5)<;>cases h3:(k==6)<;>cases h4:(k==7);all_goals
  (go_enter func183,ntmps183;go_wp2;go_ret;exact⟨by simp[kj.qm,h1,h2,h3,h4],rfl⟩)
def sA(n:Int)(w:World)(e:Ending)(w':World):Prop:=e=.returned (.int .i64 n)/\Below w w w'
def pV(b:Bool)(w:World)(e:Ending)(w':World):Prop:=e=.returned (.bool b)/\Below w w w'
theorem G9(k:Int)(w):Calls prog 119 #[.int .u8 k] w λe w'=>e=.returned (.bool (kj.qm k))/\w=w':=by
 cases h1:(k==1)<;>cases h2:(k==5)<;>cases h3:(k==6)<;>cases h4:(k==7);all_goals
  (go_enter func119,ntmps119;go_wp2;go_ret;exact⟨by simp[kj.qm,h1,h2,h3,h4],rfl⟩)
theorem zV(k:Int)(w):Calls prog 151 #[.int .u8 k] w λe w'=>e=.returned (.bool (decide (k<=4)))/\w=w':=by
 go_enter func151,ntmps151
 go_wp2;go_ret;exact⟨rfl,rfl⟩
theorem pH(k:Int)(w):Calls prog 76 #[.int .u8 k] w λe w'=>e=.returned (.bool (kj.qP k))/\w=w':=by
 cases h1:(k==2)<;>cases h2:(k==3)<;>cases h3:(k==6)<;>cases h4:(k==7)<;>cases h5:(k==9);all_goals
  (go_enter func76,ntmps76;go_wp2;go_ret;exact⟨by simp[kj.qP,h1,h2,h3,h4,h5],rfl⟩)
end Go.Proofs.YtfemcncookpdhaaGreatDoor.C
namespace Go.Proofs.YtfemcncookpdhaaGreatDoor.C
open Go.RowKit Go.Sort Go.Proofs.Tryz
theorem lI{w:World}{b:Nat}{a:Array Value}{t:TypeId}{d:Nat×Nat}(h:w.heap[b]?=some (.cells a t d))(c:Nat)(v:Value)(e:a[c]?=some v):w.cell? ⟨b,c,none⟩=some v:=by simp[World.cell?,h,e]
theorem lU(w:World)(a:List Value)(t:TypeId):∀b u,a[b]?=some u->(w.alloc (.cells a.toArray t)).cell? ((⟨w,0,none⟩:Addr).add b)=some u:=by
 intro b u d;have e:(w.alloc (.cells a.toArray t)).heap[w.heap.size]?=some (.cells a.toArray t (0,0)):=NF w _;have c:=lI e b u (by simpa using d);unfold Addr.add;split
 rename_i h;subst h;exact c
 simpa using c
def qi(w:World)(B:Nat)(c:Option Addr)(xs:List Value):Prop:=
 xs≠[]->∃b o,c=some ⟨b,o,none⟩/\b<B/\∀(a:Nat) (u:Value),xs[a]?=some u->w.cell? ⟨b,o+a,none⟩=some u
theorem qi.kg{w w'}{B B':Nat}{a xs}(h:qi w B a xs)(f:B<=B')(hc:∀b o,b<B->w'.cell? ⟨b,o,none⟩=w.cell? ⟨b,o,none⟩):qi w' B' a xs:=λhx=>by obtain⟨b,o,e,c,h⟩:=h hx;exact⟨b,o,e,PJ,λd u hu=>(hc b _ c).T (h d u hu)⟩
theorem qi.kh{w w'}{B B':Nat}{a xs}(h:qi w B a xs)(c:Below B w w')(d:B<=B'):qi w' B' a xs:=
 h.kg d λb o e=>c.cell (p:=⟨b,o,none⟩) e
theorem qi.kI{w}{B:Nat}{c xs}(h:qi w B c xs)(a:Nat)(u)(hu:xs[a]?=some u):
  ∃b o,c=some ⟨b,o,none⟩/\b<B/\w.cell? ⟨b,o+a,none⟩=some u:=by
 obtain⟨b,o,e,d,h⟩:=h (by rintro rfl;simp at hu);exact⟨b,o,e,d,h a u hu⟩
theorem qi.Gf{w}{base e size n:Nat}{d}{c:Nat}{xs}(h:w.ownsRow base e size (.slice d n c) n xs):qi w w d xs:=λhx=>by
 obtain⟨i,h⟩:=h;rcases h with⟨_,j⟩|⟨g,m,p,b,q,f,hc,_,r,k⟩
 subst j;exact absurd (OQ (by simpa using i)) hx;injection b with b;refine⟨g,0,b,(NC.1 f).1,λl u a=>?_⟩;rw[NY];refine lI f l u ?_;rw[<-k,OJ]at a;split at a;simpa using a;cases a
structure mF(w:World)(B:Nat)(r:Row)(x:kj.lJ):Prop where
 ku:r.ku=x.ku
 t:r.t=x.t
 d:r.d=x.d
 n:r.n=x.args.length
 c:r.n<=r.c
 m:r.c<=9223372036854775807
 lie:qi w B r.p (pL x.args)
theorem mF.kh{w w'}{B B':Nat}{r:Row}{x:kj.lJ}(h:mF w B r x)(a:Below B w w')(b:B<=B'):mF w' B' r x:=
 ⟨h.ku,h.t,h.d,h.n,h.c,h.m,h.lie.kh a b⟩
structure ny(w:World)(B:Nat)(A:Option Addr)(ps:List lM):Prop where
 lie:qi w B A (kJ ps)
 row:∀p∈ps,mF w B p.1 p.2
theorem ny.kh{w w'}{B B':Nat}{a}{b:List lM}(h:ny w B a b)(c:Below B w w')(d:B<=B'):ny w' B' a b:=
 ⟨h.lie.kh c d,λp hp=>(h.row p hp).kh c d⟩
def nW(w w':World):Prop:=∃q os,w'=grow (w.drewN q) os
theorem nW.refl(w):nW w w:=⟨0,#[],by simp[grow,World.drewN]⟩
theorem BF(x a:Int)(w):Calls prog 70 #[.int .u8 x,.int .u8 a] w λe w'=>e=.returned (.int .i64 (kj.rz x a))/\w'=w:=by
 rcases kj.oP x a with⟨h,e⟩|⟨h,e⟩|⟨h,e⟩
 all_goals
  rw[e]
 iterate 2
  .go_enter func70,ntmps70
   go_wp2;go_ret;exact⟨rfl,rfl⟩
 subst h
 go_enter func70,ntmps70
 go_wp2;go_ret;exact⟨rfl,rfl⟩
theorem tS(x a:Int)(w):Calls prog 71 #[.int .i64 x,a] w λe w'=>e=.returned (.int .i64 (kj.rz x a))/\w'=w:=by
 rcases kj.oP x a with⟨h,e⟩|⟨h,e⟩|⟨h,e⟩
 all_goals
  rw[e]
 iterate 2
  .go_enter func71,ntmps71
   go_wp2;go_ret;exact⟨rfl,rfl⟩
 subst h
 go_enter func71,ntmps71
 go_wp2;go_ret;exact⟨rfl,rfl⟩
theorem Kk(b o c:Nat)(l w)(n:l.length<=1000)(hc:∀(d:Nat) (z:Int),l[d]?=some z->w.cell? ⟨b,o+d,none⟩=some (.int .i64 z)):
  Calls prog 69 #[.slice (some ⟨b,o,none⟩) l.length c] w λe w'=>e=.returned (.int .i64 (kj.FC l))/\w=w':=by
 have j:=NA hc;clear hc
 go_enter func69,ntmps69
 go_wp2
 go_loop [5,8] (λ_ i=>∃k:Nat,k<=l.length/\i=k/\kj.FC l=kj.FC (l.drop k)) (λ_ i=>l.length-(intOf i).toNat)
 case atStart=>exact⟨0,NP _,rfl,PK⟩
 case round=>
  obtain⟨k,p,rfl,hx⟩:=hrel;have a:=NA hx;clear hx;by_cases f:k<l.length
  .have q:=j.o k l[k] (NU f);have hs:=G3 l k f;have g:=NA hs;clear hs;generalize l[k]=z at*;by_cases hz:z=0
   .subst hz;go_wp2
    go_round
    case rel=>exact⟨k+1,PJ,PQ,by rw[a.o,g.o,Oj rfl]⟩
    case measure=>simp[intOf];omega
   have m:=NA hz;have r:(z==0)=false:=(by simp[hz]);clear hz;go_wp2;go_ret;exact⟨by rw[a.o,g.o,Od m.o];rfl,rfl⟩
  go_wp2;go_ret;have:l.drop k=[]:=List.drop_eq_nil_of_le PJ;exact⟨by rw[a.o,this];rfl,rfl⟩
theorem nW.drewN{w w'}(h:nW w w')(n:Nat):nW w (w'.drewN n):=by obtain⟨q,os,rfl⟩:=h;exact⟨q+n,os,by simp[grow,World.drewN,Pk]⟩
theorem nW.alloc{w w'}(h:nW w w')(o):nW w (w'.alloc o):=by obtain⟨q,os,rfl⟩:=h;exact⟨q,os++ #[o],by rw[alloc_eq_grow,grow_grow]⟩
theorem nW.T{a b c}(h:nW a b)(k:nW b c):nW a c:=by obtain⟨q,os,rfl⟩:=h;obtain⟨r,d,rfl⟩:=k;exact⟨q+r,os++d,by simp[grow,World.drewN,Pk]⟩
theorem nW.kh{w w'}(h:nW w w'){B:Nat}(a:B<=w):Below B w w':=by obtain⟨q,os,rfl⟩:=h;refine⟨rfl,rfl,rfl,by simp[grow,World.drewN],λk b=>?_⟩;exact heap_grow_old _ _ (by simp[World.drewN];omega)
def DY(n:Int)(w:World)(e:Ending)(w':World):Prop:=e=.returned (.int .i64 n)/\nW w w'
theorem BG(x a:kj.Key)(w):Calls prog 33 #[po x,po a] w (DY (kj.B4 x a) w):=by
 have y:po x=.agg #[.int .u8 x.kind,x.a,x.b,x.n]:=rfl;have A:po a=.agg #[.int .u8 a.kind,a.a,a.b,a.n]:=rfl;have e3:kj.B4 x a=kj.FC [kj.rz x.kind a.kind,kj.rz x.a a.a,kj.rz x.b a.b,kj.rz x.n a.n]:=rfl;rw[y,A,e3];generalize B:kj.rz x.kind a.kind=c0;generalize C:kj.rz x.a a.a=c1;generalize D:kj.rz x.b a.b=c2;generalize hn:kj.rz x.n a.n=c3;have r:=λW=>BF x.kind a.kind W;have s:=λW=>tS x.a a.a W;have t:=λW=>tS x.b a.b W;have v:=λW=>tS x.n a.n W;rw[B]at r;rw[C]at s;rw[D]at t;rw[hn]at v;generalize x.kind=g at*;generalize x.a=i at*;generalize x.b=j at*;generalize x.n=k at*;generalize a.kind=l at*;generalize a.a=m at*;generalize a.b=n at*;generalize a.n=p at*
 go_enter func33,ntmps33
 go_wp2_with fail;generalize q:(w.alloc (Obj.cells #[.int .u8 g,i,j,k] 59)).alloc (Obj.cells #[.int .u8 l,m,n,p] 59)=c;have E:nW w c:=by rw[<-q];exact((nW.refl _).alloc _).alloc _
 have d:∀b u,([.int .u8 g,.int .i64 i,.int .i64 j,.int .i64 k]:List Value)[b]?=some u->c.cell? ⟨w,b,none⟩=some u:=λb u hu=>by rw[<-q,O5 _ _ _ PK];exact lI (NF w _) b u (by simpa using hu)
 have f:∀b u,([.int .u8 l,.int .i64 m,.int .i64 n,.int .i64 p]:List Value)[b]?=some u->c.cell? ⟨w+1,b,none⟩=some u:=λb u hu=>by have:=NF (w.alloc (Obj.cells #[.int .u8 g,i,j,k] 59)) (Obj.cells #[.int .u8 l,m,n,p] 59);rw[q,NB]at this;exact lI this b u (by simpa using hu)
 have J:=d 0 _ rfl;have K:=d 1 _ rfl;have L:=d 2 _ rfl;have M:=d 3 _ rfl;have N:=f 0 _ rfl;have O:=f 1 _ rfl;have P:=f 2 _ rfl;have Q:=f 3 _ rfl;go_still_tail 20,PL
 still_call (r _)
 repeat still_step
 still_call (s _)
 repeat still_step
 still_call (t _)
 repeat still_step
 still_call (v _)
 repeat still_step
 try refine wpStill_nil ?_
 change wpList _ _ _ _ _ c.drew;have F:Hid (nW w c.drew):=(E.drewN 1)
 generalize c.drew=G at*;go_wp2_with fail;refine(Kk _ _ _ [c0,c1,c2,c3] _ PK ?_).M ?_;intro b z I;have:=NF G (Obj.cells #[.int .i64 c0,c1,c2,c3] 3);rw[NY];refine lI this b _ ?_;have:=Oy (Option.map (Value.int .i64)) I;rw[<-Om]at this;simpa using this;rintro e w' ⟨rfl,rfl⟩;go_wp2_with fail;go_ret;exact⟨rfl,F.o.alloc _⟩
def tG(w:World)(a:Option Addr):Prop:=∀b o,a=some ⟨b,o,none⟩->w<=b
theorem tG.none(w:World):tG w none:=λb o e=>(by cases e)
theorem tK(W:World)(base:Nat)(a:base<=W):(W.alloc (.cells #[] 62)).ownsRow base 62 7 (.slice (some ⟨W,0,none⟩) 0 0) 0 []:=
 ⟨rfl,.inr ⟨W,0,#[],rfl,a,NF W _,NQ _,PT,rfl,rfl⟩⟩
theorem Cl(W:World)(o:Obj)(base:Nat)(a:base<=W):((W.alloc o).alloc (.cells #[] 62)).ownsRow base 62 7 (.slice (some ⟨W+1,0,none⟩) 0 0) 0 []:=by have:=tK (W.alloc o) base PO;rwa [NB]at this
end Go.Proofs.YtfemcncookpdhaaGreatDoor.C
namespace Go.Proofs.YtfemcncookpdhaaGreatDoor.C
open Go.RowKit Go.Proofs.Tryz
def mM(w:World)(B:Nat)(size:Nat)(b:Option Addr)(m:Nat)(a:List Value):Prop:=a.length=m*size/\qi w B b a
theorem rP{w}{base e size:Nat}{v}{n:Nat}{xs}(h:w.ownsRow base e size v n xs):∃a c,v=.slice a n c/\n<=c/\c<=9223372036854775807/\mM w w size a n xs:=by
 have b:=h;rcases h.2 with⟨rfl,rfl⟩|⟨g,d,f,rfl,i,j,hc,hm,k,l⟩
 exact⟨none,0,rfl,NQ _,PJ,h.1,qi.Gf b⟩;exact⟨_,d,rfl,hc,by unfold maxLen at hm;omega,h.1,qi.Gf b⟩
theorem sL{W a}{base e size:Nat}{v}{n:Nat}{xs}(h:W.ownsRow base e size v n xs)(b:Below W.heap.size W a):a.ownsRow base e size v n xs:=by
 refine h.kept (yi b) ?_;cases hv:v.ownBlock with
 |none=>exact .inl rfl
 |some g=>exact .inr PK
theorem mN{W:World}{base e size:Nat}{v:Value}{n:Nat}{xs:List Value}(h:W.ownsRow base e size v n xs):∀k,v.ownBlock=some k->base<=k:=by
 rcases h.2 with⟨rfl,_⟩|⟨g,b,c,rfl,a,_⟩
 intro k e;simp[Value.ownBlock]at e;intro k e;obtain rfl:g=k:=by simpa[Value.ownBlock]using e
 exact a
theorem nT{w:World}{b:Nat}{a:Array Value}{t:TypeId}(h:w.heap[b]?=some (.cells a t (0,0)))(c:Nat):w.frozen? ⟨b,c,none⟩=false:=by simp[World.frozen?,h]
theorem tF{w:World}{b:Nat}{a c d e f g i:Value}{t:TypeId}(h:w.heap[b]?=some (.cells #[a,c,d,e,f,g,i] t (0,0))):
  (w.cell? ⟨b,0,none⟩=some a/\w.cell? ⟨b,1,none⟩=some c/\w.cell? ⟨b,2,none⟩=some d/\w.cell? ⟨b,3,none⟩=some e/\w.cell? ⟨b,4,none⟩=some f/\w.cell? ⟨b,5,none⟩=some g/\w.cell? ⟨b,6,none⟩=some i)/\
  (w.frozen? ⟨b,0,none⟩=false/\w.frozen? ⟨b,1,none⟩=false/\w.frozen? ⟨b,2,none⟩=false/\w.frozen? ⟨b,3,none⟩=false/\w.frozen? ⟨b,4,none⟩=false/\w.frozen? ⟨b,5,none⟩=false/\w.frozen? ⟨b,6,none⟩=false):=
 ⟨⟨lI h 0 _ rfl,lI h 1 _ rfl,lI h 2 _ rfl,lI h 3 _ rfl,lI h 4 _ rfl,lI h 5 _ rfl,lI h 6 _ rfl⟩,⟨nT h 0,nT h 1,nT h 2,nT h 3,nT h 4,nT h 5,nT h 6⟩⟩
theorem JG{w a b g i j c d e T}(k:Below (w.alloc (.cells #[b,g,i,j,c,d,e] T)).heap.size (w.alloc (.cells #[b,g,i,j,c,d,e] T)) a):
  Below w.heap.size w a/\a.cell? ⟨w,0,none⟩=some b/\a.cell? ⟨w,4,none⟩=some c/\a.cell? ⟨w,5,none⟩=some d/\a.cell? ⟨w,6,none⟩=some e:=by
 have h:=NF w (.cells #[b,g,i,j,c,d,e] T);rw[NB]at k;have hc:∀f u,#[b,g,i,j,c,d,e][f]?=some u->a.cell? ⟨w,f,none⟩=some u:=λf u hu=>(k.cell (p:=⟨w,f,none⟩) PK).T (lI h f u hu);exact⟨(Ba w _).T (k.M PJ),hc 0 _ rfl,hc 4 _ rfl,hc 5 _ rfl,hc 6 _ rfl⟩
theorem C5:∃a b c d:Field,(prog.fieldsOf 59).toList=[a,b,c,d]/\(a.name= "Kind" /\a.type=57/\a.offset=0)/\(b.name= "A" /\b.type=3/\b.offset=1)/\(c.name= "B" /\c.type=3/\c.offset=2)/\(d.name= "N" /\d.type=3/\d.offset=3):=by have h:=yR.symm.T underlying59;injection h with h;injection h with h;rw[h];exact⟨_,_,_,_,rfl,⟨rfl,rfl,rfl⟩,⟨rfl,rfl,rfl⟩,⟨rfl,rfl,rfl⟩,⟨rfl,rfl,rfl⟩⟩
structure L2(ps:List lM)(base G k:Nat)(wr:World)(qs:List lM):Prop where
 len:qs.length=k
 ll:ll qs=(ll ps).take k
 own:wr.ownsRow base 62 7 (.slice (some ⟨G,0,none⟩) k ps.length) k (kJ qs)
 row:∀q∈qs,mF wr wr q.1 q.2/\∀b o,q.1.p=some ⟨b,o,none⟩->G<b
theorem qg{w:World}{b:Nat}{a c d e:Value}{t:TypeId}(h:w.heap[b]?=some (.cells #[a,c,d,e] t (0,0))):
  w.cell? ⟨b,0,none⟩=some a/\w.cell? ⟨b,1,none⟩=some c/\w.cell? ⟨b,2,none⟩=some d/\w.cell? ⟨b,3,none⟩=some e:=
 ⟨lI h 0 _ rfl,lI h 1 _ rfl,lI h 2 _ rfl,lI h 3 _ rfl⟩
theorem qi.take{w}{B:Nat}{a xs}(h:qi w B a xs)(n:Nat):qi w B a (xs.take n):=λhx=>by obtain⟨b,o,e,c,hc⟩:=h (by rintro rfl;simp at hx);refine⟨b,o,e,c,λd u hu=>hc d u ?_⟩;rw[OJ]at hu;split at hu;exact hu;cases hu
theorem qi.cut{w}{B:Nat}{a xs}(h:qi w B a xs)(pos n c:Nat)(e:xs.length=n*7)(hn:n<=c):qi w B (if c=pos then a else Option.map (λx=>x.add (pos*7)) a) (xs.drop (pos*7)):=λhx=>by
 obtain⟨b,o,rfl,d,hc⟩:=h (by rintro rfl;simp at hx);have f:pos*7<xs.length:=by rcases PG (pos*7) xs.length with h|h;exact h;exact absurd (List.drop_of_length_le h) hx
 rw[Od PJ,Pe,kQ];refine⟨b,o+pos*7,rfl,d,λg u hu=>?_⟩;rw[Pa]at hu;rw[Pk];exact hc _ u hu
def IV(n:Int)(w:World)(e:Ending)(w':World):Prop:=e=.returned (.int .i64 n)/\Below w w w'
end Go.Proofs.YtfemcncookpdhaaGreatDoor.C
namespace Go.Proofs
open Go.Shelf
def Tryz.BH:Go.Shelf.Ren:=⟨fun|6=>31|15=>68|14=>67|28=>113|29=>114|20=>105|21=>106|22=>107|23=>108|24=>109|25=>110|26=>111|27=>112|46=>154|47=>155|48=>156|49=>157|50=>158|57=>184|n=>n,fun|22=>26|24=>62|25=>125|3=>3|39=>198|0=>0|53=>226|55=>138|4=>4|46=>237|45=>236|50=>241|5=>5|9=>9|66=>278|70=>282|76=>317|77=>318|n=>n,fun|n=>n⟩
end Go.Proofs
namespace Go.Proofs.YtfemcncookpdhaaGreatDoor.C
open Go.RowKit Go.Shelf Go.Sort Go.Proofs.Tryz
def Laid(w:World):Prop:=(∃t a,w.heap[0]?=some (.cells pO t a))/\(∃t a,w.heap[2]?=some (.cells JH t a))
theorem Laid.tab{w}(h:Laid w):Lib.TabIs prog w "internal/strconv.uint64pow10" .u64 Lib.pow10Tab:=by obtain⟨_,t,a,e⟩:=h;unfold Lib.TabIs World.var?;rw[JI];simp only[Option.bind_some,e];rfl
theorem Low.M{B B':Nat}(h:Low B)(a:B<=B'):Low B':=⟨ND h.1 a,ND h.2 a⟩
theorem Laid.kg{w w'}{B:Nat}(h:Laid w)(a:Low B)(b:Below B w w'):Laid w':=by obtain⟨⟨c,d,e⟩,⟨f,g,i⟩⟩:=h;exact⟨⟨c,d,(b.B _ a.1).T e⟩,⟨f,g,(b.B _ a.2).T i⟩⟩
def oC(l:List UInt8)(w:World)(e:Ending)(w':World):Prop:=e=.returned (uI l)/\Below w w w'
theorem C8(n:Int)(w)(a:0<=n)(b:n<100):Calls prog 51 #[.int .i64 n] w λe w'=>e=.returned (uI (Lib.itoa n))/\w'=w:=by
 obtain⟨i,rfl⟩:=Int.eq_ofNat_of_zero_le a;have h:=Tryz.strconv_Itoa_small i PJ w;have e:Lib.itoa (i:Int)=Lib.decDigits i:=by unfold Lib.itoa;rw[Od PJ,Oq]
 rw[e];exact h
end Go.Proofs.YtfemcncookpdhaaGreatDoor.C
namespace Go.Proofs.YtfemcncookpdhaaGreatDoor.C
open Go.RowKit Go.Proofs.Tryz
theorem Mg{w a b c d e T}(f:Below (w.alloc (.cells #[b,c,d,e] T)).heap.size (w.alloc (.cells #[b,c,d,e] T)) a):
  Below w.heap.size w a/\w.heap.size+1<=a/\a.heap[w.heap.size]?=some (.cells #[b,c,d,e] T (0,0)):=by
 have h:=NF w (.cells #[b,c,d,e] T);rw[NB]at f;have hs:=f.size;rw[NB]at hs;exact⟨(Ba w _).T (f.M PJ),hs,(f.B _ PJ).T h⟩
end Go.Proofs.YtfemcncookpdhaaGreatDoor.C
namespace kj
def FK(l:List lJ)(k:Key):Nat:=(l.takeWhile λx=>qJ x.ku k).length
def xQ(l:List lJ)(k:Key):Bool:=l.any λx=>BQ x.ku k
def rq:List lJ->Key->Int
 |[],_=> -1
 |x::r,k=>if BQ x.ku k=true then 0 else if rq r k<0 then-1 else rq r k+1
theorem Hb(x a:Key):qJ x a=if x.kind=a.kind then(if x.a=a.a then(if x.b=a.b then decide (x.n<a.n)else decide (x.b<a.b))else decide (x.a<a.a))else decide (x.kind<a.kind):=by rw[Bool.eq_iff_iff,vh];unfold wo;by_cases b:x.kind=a.kind<;>by_cases c:x.a=a.a<;>by_cases d:x.b=a.b<;>simp[b,c,d]<;>omega
theorem ux(l:List lJ):nj l=true↔∀(i:Nat) (x:lJ),l[i]?=some x->xQ (l.take i) x.ku=false:=by
 rw[nodup_iff,List.pairwise_iff_getElem];constructor;intro h i x hx;obtain⟨hi,rfl⟩:=List.getElem?_eq_some_iff.1 hx;rw[xQ,List.any_eq_false];intro g hy e;obtain⟨b,a⟩:=List.getElem?_of_mem hy;rw[List.getElem?_take]at a;split at a
 rename_i c
 obtain⟨d,rfl⟩:=List.getElem?_eq_some_iff.1 a;exact h b i d hi c ((sy _ _).1 e);cases a;intro h i b hi a f e;have:=h b l[b] (List.getElem?_eq_getElem a);rw[xQ,List.any_eq_false]at this;refine this l[i] ?_ ((sy _ _).2 e);exact List.mem_of_getElem? (i:=i) (by rw[List.getElem?_take,if_pos f,List.getElem?_eq_getElem hi])
theorem Dc(l:List lJ)(k:Nat)(x:lJ)(h:l[k]?=some x):qo (l.take (k+1))=ins (qo (l.take k)) x:=by rw[List.take_add_one,h];exact C9 _ _
end kj
namespace Go.Proofs.YtfemcncookpdhaaGreatDoor.C
open Go.RowKit Go.Sort Go.Proofs.Tryz
theorem vI(x a:kj.Key)(w):Calls prog 153 #[po x,po a] w (pV (kj.qJ x a) w):=by
 have l:po x=.agg #[.int .u8 x.kind,x.a,x.b,x.n]:=rfl;have m:po a=.agg #[.int .u8 a.kind,a.a,a.b,a.n]:=rfl;rw[l,m,kj.Hb];generalize x.kind=e;generalize x.a=f;generalize x.b=g;generalize x.n=n;generalize a.kind=i;generalize a.a=j;generalize a.b=k;generalize a.n=p;by_cases b:e=i
 .subst b;by_cases c:f=j
  .subst c;by_cases d:g=k
   .subst d;rw[Oj rfl,Oj rfl,Oj rfl]
    go_enter func153,ntmps153
    go_wp2;go_ret;exact⟨rfl,(Ba _ _).alloc PK _⟩
   rw[Oj rfl,Oj rfl,Od d];have q:(g==k)=false:=by simp[d]
   go_enter func153,ntmps153
   go_wp2;go_ret;exact⟨rfl,(Ba _ _).alloc PK _⟩
  rw[Oj rfl,Od c];have r:(f==j)=false:=by simp[c]
  go_enter func153,ntmps153
  go_wp2;go_ret;exact⟨rfl,(Ba _ _).alloc PK _⟩
 rw[Od b];have s:(e==i)=false:=by simp[b]
 go_enter func153,ntmps153
 go_wp2;go_ret;exact⟨rfl,(Ba _ _).alloc PK _⟩
def pX(l:List kj.lJ)(w:World)(e:Ending)(w':World):Prop:=
 ∃(b:Option Addr) (a:List lM) (c:Nat),e=.returned (.slice b a.length c)/\ll a=l/\ny w' w' b a/\a.length<=c/\c<=9223372036854775807/\tG w b/\Below w w w'
theorem zh(W:World)(r:Row):mM (W.alloc (.cells #[.int .u8 r.ku.kind,r.ku.a,r.ku.b,r.ku.n,r.t,r.d,.slice r.p r.n r.c] 62)) (W+1) 7 (some ⟨W,0,none⟩) 1 r.vs:=
 ⟨rfl,λ_=>⟨W,0,rfl,PJ,λa u hu=>by rw[NY];exact lI (NF W _) a u (by simpa[Row.vs]using hu)⟩⟩
def Jh(w wr:World)(v:Value)(l:List kj.lJ):Prop:=∃(b:Option Addr) (a:List lM) (c:Nat),v=.slice b a.length c/\ll a=l/\ny wr wr b a/\a.length<=c/\c<=9223372036854775807/\tG w b
end Go.Proofs.YtfemcncookpdhaaGreatDoor.C
