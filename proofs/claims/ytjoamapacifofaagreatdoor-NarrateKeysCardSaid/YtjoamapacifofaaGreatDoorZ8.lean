import Derived.Test.YtjoamapacifofaaGreatDoorZ2
import Derived.Test.YtjoamapacifofaaGreatDoorZ4
set_option maxRecDepth 1000000
set_option maxHeartbeats 32000000
set_option linter.all false
namespace Go.Proofs.YtjoamapacifofaaGreatDoor
open RowKit Go.Proofs.Tryz kT Maps nu pG ChangeShapes WideShapes ChangeAt
def kD{q:Type}{P}{w:World}(lo:Nat)(t)(n:TypeId)(e i z)(size p:Nat)(s:P.underlying t=some (.slice e))(hi:P.info? e=some i)(hz:i.zero=some z)
  (I:i.size=size) (J:i.bytes=p) (K:z.cells.size=size) {R:Rel q} (ok:kF R size) (j:Nat->Prop) (v:Value) (xs:List q) (ad:kf R e size j w lo v xs)
  (A:Addr) (r:List Value) (y:q) (B:∀L u,r[L]?=some u->w.cell? (A.add L)=some u) (hR:R (λb=>j b/\b<w/\some b≠v.ownBlock) w r y)
  (M:xs.length+1<=maxLen) (N:(xs.length+1)*p<=140737488355328) (ae:lo<=w):
  ∃c d w',(Builtin.append_ #[t,t] n #[v,.slice (some A) 1 1]).run P w=.ok (.slice c (xs.length+1) d) w'/\kf R e size j w' lo (.slice c (xs.length+1) d) (xs++[y])/\kf R e size j w' lo v xs/\w.grownBy w' v.ownBlock/\
   ((Value.slice c (xs.length+1) d).ownBlock=v.ownBlock\/(Value.slice c (xs.length+1) d).ownBlock=some w.heap.size):=by
 obtain⟨k,f,O⟩:=ad.own;obtain⟨Q,w',C,S,l,_,T⟩:=RP (P:=P) w lo t n e i z size p s hi hz I J K ok.pos v xs.length k.flatten f A 1 1 r (by rw[ok.len hR];omega) B (ok.one hR) M N ae;have af:kf R e size j w' lo Q (xs++[y]):=by
  refine⟨k++[r],?_,?_⟩;rw[Pe];simpa using S;refine(kJ.snoc hR O).imp λr x hx=>ok.M (ok.jP hx λb hb=>l.B b hb.2.1 (λe=>hb.2.2 e)) λb hb=>⟨hb.1,O1 hb.2.1 l.size,λe=>?_⟩
  rcases T with D|D;exact hb.2.2 (e.T D);rw[D]at e;injection e with e;exact absurd hb.2.1 SE
 have ag:∃c d,Q=.slice c (xs.length+1) d:=by
  rcases S.2 with⟨_,U⟩|⟨g,m,a,rfl,_⟩
  omega;exact⟨_,_,rfl⟩
 obtain⟨c,d,rfl⟩:=ag;refine⟨c,d,w',C,af,?_,l,T⟩;have ah:kJ (R (λb=>j b/\b<w'/\some b≠v.ownBlock) w') k xs:=O.imp λr x hx=>ok.M (ok.jP hx λb hb=>l.B b hb.2.1 (λe=>hb.2.2 e)) λb hb=>⟨hb.1,O1 hb.2.1 l.size,hb.2.2⟩
 refine⟨k,?_,ah⟩;rcases f.2 with⟨rfl,U⟩|⟨g,m,a,rfl,V,hg,W,X,Y,Z⟩
 .exact⟨f.1,.inl ⟨rfl,U⟩⟩
 .subst I;by_cases aa:xs.length+1<=m;have ab:r.length=1*i.size:=(by rw[ok.len hR];omega);have E:xs.length*i.size+r.length<=a.size:=(by rw[ab,Y,<-Q1];exact Qn _ aa);have hr:=run_append_room (P:=P) (w:=w) t n e i s hi g xs.length m a hg A 1 1 r ab B (ok.one hR) aa E;rw[C]at hr;injection hr with F G;injection F with F _ e3;subst F G e3;refine⟨f.1,.inr ⟨g,_,_,rfl,V,(Sz w g a (a.toList.take (xs.length*i.size)++r++a.toList.drop (xs.length*i.size+r.length)).toArray e (0,0) hg),W,X,?_,?_⟩⟩;have ai:min (xs.length*i.size) a.size=xs.length*i.size:=Rj (Pj (R1 _ _) E);simp only[Qj,Pe,Pw,R2,Qz,ai];omega;have aj:(a.toList.take (xs.length*i.size)).length=xs.length*i.size:=(by rw[Pw,Qz];exact Rj (Pj (R1 _ _) E));simp only[Py];have:=List.take_left (l₁:=a.toList.take (xs.length*i.size)) (l₂:=r++a.toList.drop (xs.length*i.size+r.length));rw[aj]at this;rw[this];exact Z;obtain⟨v2,al,ac,_,ak⟩:=RA (P:=P) (w:=w) t n e i z i.size p s hi hz rfl J K ok.pos ⟨g,0,none⟩ xs.length m k.flatten f.1 (f.cells (g:=g) rfl) A 1 1 r (by rw[ok.len hR];omega) B SE M N;rw[C]at ac;injection ac with _ G;subst G;refine⟨f.1,.inr ⟨g,m,a,rfl,V,?_,W,X,Y,Z⟩⟩;rw[ak.B g (O3.1 hg).1 SG];exact hg
def zN.ng{w0 x v w w'}(hg:NG w0 w w')(h:zN w0 x v w):zN w0 x v w':=by obtain⟨b,o,e,hb,hc⟩:=h;exact⟨b,o,e,⟨hb.1,O1 hb.2 hg.1⟩,(Cb b o (hg.2 b hb)).T hc⟩
def pK.app{S}{d:Nat}{sc V hs}{f:Nat}{j:Int}{A}{n c:Nat}{w x g}(h:pK S d sc V hs f j A n c w x)(v:d<w)(hS:∀b,S b->b<w)(r:kf (lF .i64) 121 3 (λb=>w<=b/\b≠d) g w V hs)(hg:x.grownBy g V.ownBlock):pK S d sc V hs f j A n c w g:=by obtain⟨a,s,k,t,l,p,left,hm⟩:=h;have i:=s.ge;refine⟨⟨hg.os.T a.os,hg.tape.T a.tape,hg.output.T a.output,Pj a.size hg.size,λq m u=>(hg.B q (O1 m a.size) (λe=>SC ((i q e.symm).1))).T (a.B q m u)⟩,r,(hg.B f (O3.1 k).1 (λe=>l e)).T k,t,l,p,left,?_⟩;exact hm.rp hg (λe=>SC ((i d e.symm).1)) (λb hb e=>by have y:=(i b e.symm).1;have:=hS b hb;omega)
def Er(S p w D E)(g c1 j c2:Nat)(hS:∀b,S b->b<w.heap.size)(N:jT pD S w (.slice D g c1) p.hs)(O:jT pD S w (.slice E j c2) p.ss):
  Calls prog 28 #[.agg #[.int .u8 (p.ints:Int),.int .u8 (p.kC:Int),.slice D g c1,.slice E j c2]] w (Ko (ra p 3) w):=by
 obtain⟨G,P,hz0,Q,R⟩:=Pu IC;have a:=O0 (And.intro P (And.intro hz0 (And.intro Q R)));clear P hz0 Q R;have T:=O0 hS;have U:g=p.hs.length:=by obtain⟨_,_,_,e,_⟩:=N;injection e
 have V:j=p.ss.length:=by obtain⟨_,_,_,e,_⟩:=O;injection e
 have d:=O0 (And.intro U V);have ab:=N;have ac:=O;obtain⟨ad,W⟩:=Xq (w.alloc (rm p.ints p.kC D g c1 E j c2));have r:=O0 W;clear hS U V W
 go_enter func28,ntmps28
 go_wp21;go_loopw [3,4] (λv i wr=>∃k:Nat,k<=3/\i=k/\kf lS 3 1 (λ_=>False) wr (w+1) v (ra p k)/\Below (w+1) ad wr) (λ_ i _=>3-(intOf i).toNat)
 .exact⟨0,SE,rfl,kf.nil _ _ _ _ _ _,by rw[r.o];exact Below.refl _ _⟩
 obtain⟨k,am,rfl,I,hb⟩:=hrel;obtain⟨A,X,rfl,ae,an⟩:=I.form;have af:=DF p k;obtain⟨m,hm⟩:=Xq ((ra p k).length);rw[<-hm]at I ae af⊢;have ag:=hb.size;rw[r.o,O4]at ag;have Y:wr.heap[w.heap.size]?=some (rm p.ints p.kC D g c1 E j c2):=(hb.B _ SE).T (by rw[r.o];exact O2 w _);obtain⟨⟨ao,ap,aq,ar⟩,_⟩:=kn Y;have J:∀b,S b->wr.heap[b]?=w.heap[b]?:=λb Z=>(hb.B b (SC (T.o b Z))).T (by rw[r.o];exact Ph w _ (T.o b Z));have ah:=(ab.jP pD.ok J)
 have ai:=(ac.jP pD.ok J)
 have f:=I;have s:=hb;have n:=O0 hm;clear hm Y J;have aa:∀(q:Nat) (F:Value) (w':World),zK p k=[q]->kf lS 3 1 (λ_=>False) w' (w+1) F (ra p k++[q])->wr.grownBy w' (Value.slice A m X).ownBlock\/True->kf lS 3 1 (λ_=>False) w' (w+1) F (ra p (k+1)):=λq F w' c h _=>by show kf lS 3 1 _ w' _ F (ra p k++zK p k);rw[c];exact h
 have K:=O0 aa;clear aa;by_cases au:k<3
 .by_cases av:k<g
  .obtain⟨b,o,rfl,hb,L⟩:=pD.xU ah (show k<p.hs.length from SC d.o.1);obtain⟨q,c⟩:∃q:Nat,q=(p.hs.getD k default).params:=⟨_,rfl⟩
   rw[<-c]at L;have t:=O0 (show zK p k=[q % 3]by unfold zK;rw[PJ (SC d.o.1),c]);obtain⟨aj,ak⟩:=mG k g;have al:(0:Int)<=(q:Int):=SE;clear c;have u:=O0 (lI wr [.int .i64 ((q % 3:Nat):Int)] 3);go_wp2_with (at_builtin;refine kj rfl _ _ 83 rfl (w.heap.size+1) 3 G _ 1 8 underlying83 a.o.1 a.o.2.1 a.o.2.2.1 a.o.2.2.2 rfl lS.ok (λ_=>False) _ (ra p k) rfl (f.jQ lS.ok (Ba _ _)) ⟨wr,0,none⟩ [.int .i64 ((q % 3:Nat):Int)] (q % 3) rfl u.o rfl ?c3 ?c4 ?c5 ?_);case c3=>rw[<-n.o];unfold maxLen;omega
   case c4=>rw[<-n.o];omega
   case c5=>first|omega|(simp;omega)
   intro v1 x y B _;have l:=(K.o _ v1 x t.o y (.inr trivial))
   have C:=((s.alloc SE _).grown B SK (λz e=>(f.ge z e).1))
   go_wp21;go_roundw
   .exact⟨k+1,SE,SJ,l,C⟩
   simp[intOf];omega
  by_cases M:k=0
  .subst M;have t:=O0 (show zK p 0=[1]by unfold zK;rw[Pn (SC d.o.1),PJ rfl]);have u:=O0 (lI wr [.int .i64 1] 3);go_wp2_with (at_builtin;refine kj rfl _ _ 83 rfl (w.heap.size+1) 3 G _ 1 8 underlying83 a.o.1 a.o.2.1 a.o.2.2.1 a.o.2.2.2 rfl lS.ok (λ_=>False) _ (ra p 0) rfl (f.jQ lS.ok (Ba _ _)) ⟨wr,0,none⟩ [.int .i64 1] 1 rfl u.o rfl ?d3 ?d4 ?d5 ?_);case d3=>rw[<-n.o];unfold maxLen;omega
   case d4=>rw[<-n.o];omega
   case d5=>first|omega|(simp;omega)
   intro v1 x y B _;have l:=(K.o _ v1 x t.o y (.inr trivial))
   have C:=((s.alloc SE _).grown B SK (λz e=>(f.ge z e).1))
   go_wp21;go_roundw
   .exact⟨1,SE,rfl,l,C⟩
   simp[intOf]
  have aw:((k:Int)==0)=false:=(by rw[O8];omega);by_cases ax:k<j
  .obtain⟨b,o,rfl,hb,L⟩:=pD.xU ai (show k<p.ss.length from SC d.o.2);obtain⟨q,c⟩:∃q:Nat,q=(p.ss.getD k default).params:=⟨_,rfl⟩
   rw[<-c]at L;have t:=O0 (show zK p k=[q % 3]by unfold zK;rw[Pn (SC d.o.1),Pn M,PJ (SC d.o.2),c]);obtain⟨aj,ak⟩:=mG k j;have al:(0:Int)<=(q:Int):=SE;clear c;have u:=O0 (lI wr [.int .i64 ((q % 3:Nat):Int)] 3);go_wp2_with (at_builtin;refine kj rfl _ _ 83 rfl (w.heap.size+1) 3 G _ 1 8 underlying83 a.o.1 a.o.2.1 a.o.2.2.1 a.o.2.2.2 rfl lS.ok (λ_=>False) _ (ra p k) rfl (f.jQ lS.ok (Ba _ _)) ⟨wr,0,none⟩ [.int .i64 ((q % 3:Nat):Int)] (q % 3) rfl u.o rfl ?e3 ?e4 ?e5 ?_);case e3=>rw[<-n.o];unfold maxLen;omega
   case e4=>rw[<-n.o];omega
   case e5=>first|omega|(simp;omega)
   intro v1 x y B _;have l:=(K.o _ v1 x t.o y (.inr trivial))
   have C:=((s.alloc SE _).grown B SK (λz e=>(f.ge z e).1))
   go_wp21;go_roundw
   .exact⟨k+1,SE,SJ,l,C⟩
   simp[intOf];omega
  have l:=(show kf lS 3 1 (λ_=>False) wr (w+1) (.slice A m X) (ra p (k+1))by
   have e:ra p (k+1)=ra p k:=by show ra p k++zK p k=_;unfold zK;rw[Pn (SC d.o.1),Pn M,Pn (SC d.o.2),QI]
   rw[e];exact f)
  go_wp2_with fail;go_roundw
  .exact⟨k+1,SE,SJ,l,s⟩
  simp[intOf];omega
 obtain rfl:k=3:=SE;go_wp21;go_ret;refine⟨_,rfl,?_,?_⟩;exact f.base SE;have:=s;rw[r.o]at this;exact(Ba _ _).T (this.M SE)
def mS.app{f:Type}{R:Rel f}{T k:Nat}{P a wr}{o:Nat}{C g V}{xs:List f}{x c}(h:mS R T k P a wr o C g V xs x)(hg:x.grownBy c V.ownBlock)(j:kf R T k P c a V xs):mS R T k P a wr o C g V xs c:=
 have hx:o<x:=(O3.1 h.c).1
 ⟨⟨hg.os.T h.g.os,hg.tape.T h.g.tape,hg.output.T h.g.output,Pj h.g.size hg.size,λb hb d=>(hg.B b (O1 hb h.g.size) (λe=>SC ((h.v b e.symm).1))).T (h.g.B b hb d)⟩,(hg.B o hx (λe=>SD ((h.v o e.symm).1) h.lt)).T h.c,j,Pj h.s hg.size,h.v,h.lt,h.ws,λb hb d i=>(hg.B b (O1 hb h.s) i).T (h.k b hb d i)⟩
def mS.ng{a:Type}{R:Rel a}{T k:Nat}{P c wr}{o:Nat}{C d V}{xs:List a}{x b}(h:mS R T k P c wr o C d V xs x)(hg:x.grownBy b V.ownBlock):NK wr x b:=.kN hg (λz e=>(h.v z e).2)
def kH(j w)(cb:Nat)(r m n s hd own t y B params A)(k c:Nat)(l:List In)(x:In)(h:lJ j cb r m n s hd own t y B params (.slice A k c) l w)(M:k<=100000):
  Calls prog 202 #[.pointer cb,.agg #[.int .u8 x.op,x.a,x.b,x.n]] w (ub j cb r m n s hd own t y B params (.slice A k c) w (.int .i64 (k:Int)) (λal=>al=l++[x])):=by
 obtain⟨am,V,p,q,W⟩:=Pu IG;have G:=O0 (And.intro V (And.intro p (And.intro q W)));clear V p q W;have X:l.length=k:=(h.own.sl xr.ok).len.1;have I:=O0 (And.intro X M);have Y:=h.own.ge;have an:=O0 Y;have aL:=(O3.1 h.c).1;have Z:=h.lt;have N:=Ba w (ti x.op x.a x.b x.n);have H:=(h.jQ N)
 have O:=O0 (O2 w (ti x.op x.a x.b x.n));have ao:=O0 (show(w.alloc (ti x.op x.a x.b x.n)).heap.size=w+1 from SG);clear h Y X
 go_enter func202,ntmps202
 go_wp21;have aa:=ao.o;obtain⟨C,ab⟩:=Xq w.heap.size;have ap:C≠cb:=SE
 have aq:some C≠(Value.slice A k c).ownBlock:=λe=>SC ((an.o C e.symm).2)
 rw[<-ab]at O⊢;obtain⟨wr,ac⟩:=Xq (w.alloc (ti x.op x.a x.b x.n));rw[<-ac]at H O N aa⊢;have ar:C<wr:=SE
 have aM:w.heap.size<=wr:=SE
 clear ac ab aa;have au:=(mS.start H.g H.c H.own Z)
 refine sB (λx=>mS xr 323 4 (λ_=>False) j wr cb #[r,m,n,s,hd,own,t,y,B,params,(.slice A k c)] 156 (.slice A k c) l x) (λv w=>∃(f:Option Addr) (i:Nat),j.grownBy w (some cb)/\w.heap[cb]?=some (.cells #[r,m,n,s,hd,own,t,y,B,params,(.slice f (k+1) i)] 156)/\kf xr 323 4 (λ_=>False) w j (.slice f (k+1) i) (l++[x])/\((Value.slice f (k+1) i).ownBlock=(Value.slice A k c).ownBlock\/∃z,(Value.slice f (k+1) i).ownBlock=some z/\wr<=z)/\wr.heap.size<=w/\∀b,b<wr.heap.size->b≠cb->some b≠(Value.slice A k c).ownBlock->w.heap[b]?=wr.heap[b]?) (mi [(·=.pointer cb),(·=.pointer cb),(·=.pointer cb),(Pp cb 10),(·=.slice A k c),(·=.agg #[.int .u8 x.op,x.a,x.b,x.n]),Tr,Tr,(·=.pointer cb),(Pp cb 10),Tr]) [(6,λv w=>∃(b:Nat),v=.slice b 1 1/\Nw wr w b/\w.heap[b]?=some (ti x.op x.a x.b x.n)),(7,λv w=>∃(f:Option Addr) (i:Nat),v=.slice f (k+1) i/\kf xr 323 4 (λ_=>False) w j v (l++[x])/\(v.ownBlock=(Value.slice A k c).ownBlock\/∃z,v.ownBlock=some z/\wr<=z))] (au.drew xr.ok) ⟨?_,?_,?_,?_,?_,?_,?_,?_,?_,?_,?_,trivial⟩ ?_;iterate 2
  .exact Pf 0
 .exact Pv 6 1
 .exact Pv 7 2
 .exact Pl 8 3 λ_ a=>jN a.c 10
 .intro D w a hf hv hd hw;have e3:=Sl 3 (hf 3 rfl);obtain⟨⟨aN,aO,aP,aQ⟩,_⟩:=kn ((a.k C ar ap aq).T O.o);replace a:=Hq a;exact .q (g:=⟨rfl,a.o,Qa⟩)
 .intro D w a hf hv hd hw;have aR:=Sv 10 hv 5;have ad:=a.s;replace a:=Hq a;exact .q (g:=⟨trivial,a.o.alloc xr.ok _,Qc ⟨_,rfl,⟨ad,SG⟩,O2 _ _⟩<|Qb<|Qe⟩)
 .intro D w a hf hv hd hw;have av:=Sv 9 hv 4;obtain⟨Q,aw,aS,ax⟩:=kE hd 0;have ay:=a.own;have ad:=a.s;have aT:=a.ws;replace a:=Hq a;have ae:∀(J:Nat) (u:Value),(#[.int .u8 x.op,.int .i64 x.a,.int .i64 x.b,.int .i64 x.n]).toList[J]?=some u->w.cell? ((Q:Addr).add J)=some u:=λJ u az=>(by rw[kM,Pk];exact jU ax J u (by simpa using az));obtain⟨aA,aB,w',af,ag,aC,L,ah⟩:=kD (P:=prog) (w:=w) j 154 154 323 am _ 4 32 underlying154 G.o.1 G.o.2.1 G.o.2.2.1 G.o.2.2.2 rfl xr.ok (λ_=>False) ((.slice A k c)) (l) ay ⟨Q,0,none⟩ (#[.int .u8 x.op,.int .i64 x.a,.int .i64 x.b,.int .i64 x.n]).toList x ae ((by unfold xr;rfl)) (by have:=I.o;unfold maxLen;omega) (SC I.o) SE;have m:D.eval (.tmp 9)=(.slice A k c):=(by simp[Act.eval,av]);have n:D.eval (.tmp 11)=.slice Q 1 1:=aw;have aD:=I.o.1;rw[aD]at af ag ah;clear ae;refine .h λK hK=>?_;simp only[execOp,resolve,invoke,builtin,PQ,PR,PB,PI,PF,PS,m,n,af];exact hK ⟨trivial,a.o.app L aC,Qd (λu ⟨b,e,R,M⟩=>⟨b,e,⟨R.1,O1 R.2 ((a.o.ng L)).1⟩,(((a.o.ng L)).2 b R).T M⟩)<|Qc ⟨aA,aB,rfl,ag,ah.imp id (λh=>⟨_,h,SC L.size⟩)⟩<|Qe⟩
 .exact Pv 5 0
 .exact Pv 13 8
 .intro D w a hf hv hd hw;have aU:=Sv 14 hv 9;obtain⟨f,i,E,F,aE⟩:=kE hd 1;have aV:=Sl 12 E;replace F:=Hq F;have S:=a.c;have aW:=jS S 10;have hce:=jN S 10;clear S;replace a:=Hq a;refine .h λK hK=>?_;go_simp;exact hK (⟨f,i,(a.o.set xr.ok (λ_ h=>h.elim) (by have d:=F.o;rw[E]at d;exact d) 10 _ rfl).1,(a.o.set xr.ok (λ_ h=>h.elim) (by have d:=F.o;rw[E]at d;exact d) 10 _ rfl).2.1,(a.o.set xr.ok (λ_ h=>h.elim) (by have d:=F.o;rw[E]at d;exact d) 10 _ rfl).2.2,(by have d:=aE;rw[E]at d;exact d),(by rw[O6];exact a.o.s),(λb hb p q=>(Pd _ _ _ _ p).T (a.o.k b hb p q))⟩)
 intro aX ai aF aG;obtain⟨f,i,aH,T,aI,aj,aY,ak⟩:=aG;have aJ:lJ j cb r m n s hd own t y B params (.slice f (k+1) i) (l++[x]) ai:=⟨aH,T,aI,Z⟩
 have aK:mJ cb (.slice A k c) w (.slice f (k+1) i) ai:=⟨SE,λb hb p q=>⟨(ak b SE p q).T (N.B b hb),λe=>by rcases aj with U|⟨z,U,d⟩;(rw[U]at e;exact q e);(rw[U]at e;injection e with e;omega)⟩⟩
 have aZ:IntKind.i64.wrap ((k:Int)+1-1)=(k:Int):=by have:=I.o.2;simp[IntKind.wrap,IntKind.bits,IntKind.signed];omega
 have ba:=jN T 10;clear aF T aj ak;simp only[mP];go_wp21;go_ret;exact⟨rfl,_,_,aJ,aK,rfl⟩
def oo(g:FuncId)(ad:mg g)(ae:Dy g)(S w y)(z c1:Nat)(A)(E c2:Nat)(F)(c c3:Nat)(f)(hL:ln w)(hf:oY S w y z c1 A E c2 F c c3 f)(hg:mh f):
  Calls prog 118 #[.agg (kb f.name y z c1 A E c2 F c c3),.func (.func g) #[] #[]] w (kd (.bool true) w):=by
 unfold mg at ad;have af:=ae;have N:=hf.jZ
 have aN:c<=3:=by rw[<-N.len.1];exact hg.c3
 have aO:1<=c:=by rw[<-N.len.1];exact hg.c1
 have ag:=O0 N.len.1;have O:Below w w (w.alloc (.cells (kb f.name y z c1 A E c2 F c c3) 60)):=Ba _ _;have aP:(w.alloc (.cells (kb f.name y z c1 A E c2 F c c3) 60)).heap.size=w+1:=SG
 have X:=(hf.jQ O)
 have ah:=hg;have ai:=(hL.to O)
 go_enter func118,ntmps118
 go_wp21;generalize w.alloc (.cells (kb f.name y z c1 A E c2 F c c3) 60)=B at*
 have P:=O0 X.kX;have aj:=X.jZ;have a:=(Below.refl B B)
 go_loopw [14] (λi wr=>∃k:Nat,k<=c/\i=k/\Below B B wr) (λi _=>c-(intOf i).toNat)
 .exact⟨0,Pb _,rfl,a⟩
 obtain⟨p,aQ,rfl,a⟩:=hrel;have aR:=a.size;by_cases aS:p<c
 .obtain⟨s,hx⟩:∃x,f.jZ[p]?=some x:=Gx (SC ag.o);obtain⟨aT,aU,r,rfl,Y,hr,d⟩:=(aj.jP (lv.ok .u8) (λq b=>a.B q (P.o q b))).kt (lv.ok .u8) p s hx;obtain⟨v1,v2,rfl,j,t⟩:=hr;obtain⟨ak,cv,rfl,hcv⟩:=j.form;obtain⟨al,am,rfl,hce⟩:=t.form;have an:=d 0 _ rfl;have ao:=d 1 _ rfl;have ap:=d 2 _ rfl;rw[Pc]at an;have aq:=O5 hx;obtain⟨aV,aW⟩:=mG p c;clear d hx;have Q:=ah.jZ s aq;obtain⟨ar,Z⟩:=Xq s.vars.length;obtain⟨m,G⟩:=Xq s.kS.length;rw[<-Z]at ao j hcv;rw[<-G]at ap t hce;have aX:m<=2:=(by rw[G];exact Q.v2);have aY:1<=m:=(by rw[G];exact Q.v1);have au:=O0 G.symm;obtain⟨C,I⟩:=Xq (wr.alloc (.cells #[tx s.name,.slice ak ar cv,.slice al m am] 112));have aZ:C.heap.size=wr+1:=(by rw[I];simp);have aa:=(show Below B B C by rw[I];exact a.alloc SE _)
  have av:wr.grownBy C none:=(by rw[I];exact O7 _ _ none)
  have aw:=(t.jP (mr.ok .u8) (w':=C) (λq b=>av.B q (SC (P.o q b)) SG))
  have R:=O0 (show∀q,S q->q<C from λq b=>SC (P.o q b));clear Z G;have ax:=(ai.to aa)
  go_wp21;rw[<-I];clear I;have a:=(Below.refl C C)
  go_loopw [21] (λi wr=>∃k:Nat,k<=m/\i=k/\Below C C wr) (λi _=>m-(intOf i).toNat)
  .exact⟨0,Pb _,rfl,a⟩
  obtain⟨u,ba,rfl,a⟩:=hrel;have a:=a;have bb:=a.size;by_cases bc:u<m
  .obtain⟨K,hx⟩:∃x,s.kS[u]?=some x:=Gx (SC au.o);obtain⟨bd,be,r,rfl,Y,hr,d⟩:=(aw.jP (mr.ok .u8) (λq b=>a.B q (R.o q b))).kt (mr.ok .u8) u K hx;obtain⟨v1,rfl,j⟩:=hr;obtain⟨ay,az,rfl,aA⟩:=j.form;have ab:=d 0 _ rfl;rw[Pc,PG]at ab;have aB:=O5 hx;obtain⟨bf,bg⟩:=mG u m;clear d hx;have L:=Q.kS K aB;obtain⟨n,T⟩:=Xq K.length;rw[<-T]at ab j aA L;have bh:n<=3:=L.1;have aC:=O0 L;have aD:=O0 T.symm;obtain⟨D,J⟩:=Xq (wr.alloc (mc ay n az));have bi:D.heap.size=wr+1:=(by rw[J];simp);have aE:wr.grownBy D none:=(by rw[J];exact O7 _ _ none);have ac:=(show Below C C D by rw[J];exact a.alloc SE _)
   have aF:=(j.jP (lF.ok .u8) (w':=D) (λq b=>aE.B q (SC (R.o q b)) SG))
   have M:=O0 (show∀q,S q->q<D from λq b=>SC (R.o q b));have aG:=(ax.to ac)
   clear L T;go_wp21;rw[<-J];clear J;have a:=(Below.refl D D)
   go_loopw [28] (λi wr=>∃k:Nat,k<=n/\i=k/\Below D D wr) (λi _=>n-(intOf i).toNat)
   .exact⟨0,Pb _,rfl,a⟩
   obtain⟨v,bj,rfl,a⟩:=hrel;have a:=a;have bk:=a.size;by_cases bl:v<n
   .obtain⟨l,hx⟩:∃x,K[v]?=some x:=Gx (SC aD.o);obtain⟨bm,bn,r,rfl,Y,hr,d⟩:=(aF.jP (lF.ok .u8) (λq b=>a.B q (M.o q b))).kt (lF.ok .u8) v l hx;obtain⟨v1,v2,rfl,j,t⟩:=hr;obtain⟨U,V,rfl,bo⟩:=j.form;obtain⟨W,cb,rfl,bp⟩:=t.form;have aH:=d 0 _ rfl;have bq:=d 1 _ rfl;have br:=d 2 _ rfl;rw[Pc]at aH;have aI:=O5 hx;obtain⟨bs,bt⟩:=mG v n;clear d hx;have aJ:=aC.o.2 l aI;have aK:=(af S (wr.alloc (.cells #[tx l.name,.slice U l.params.length V,.slice W l.body.length cb] 125)) U _ V W _ cb l (aG.to (a.alloc SE _)) (j.jP kh.ok (λq b=>Ph _ _ (SC (M.o q b)))) (t.jP (kp.ok .u8 _) (λq b=>Ph _ _ (SC (M.o q b)))) aJ (λq b=>by rw[O4];have:=M.o q b;omega))
    have aL:=(a.alloc SE (.cells #[tx l.name,.slice U l.params.length V,.slice W l.body.length cb] 125))
    go_wp21;apply aK.M;rintro e bu ⟨rfl,aM⟩;have a:=(aL.T (aM.M (by rw[O4];omega)))
    go_wp21;go_roundw
    .exact⟨v+1,SE,SJ,a⟩
    simp[intOf];omega
   obtain rfl:n=v:=SE;have a:=(ac.T (a.M SE))
   go_wp21;go_roundw
   .exact⟨u+1,SE,SJ,a⟩
   simp[intOf];omega
  obtain rfl:m=u:=SE;have a:=(aa.T (a.M SE))
  go_wp21;go_roundw
  .exact⟨p+1,SE,SJ,a⟩
  simp[intOf];omega
 obtain rfl:c=p:=SE;go_wp21;go_ret;exact⟨rfl,O.T (a.M SE)⟩
def EI(S b w)(cb:Nat)(j l m n hd own d f g params A)(k c:Nat)(p:List In)(name:List UInt8)(h:lJ b cb j l m n hd own d f g params (.slice A k c) p w)(hx:yP S b cb d f g params)(u:k<=100000):
  Calls prog 223 #[.pointer cb,tx name] w (ub b cb j l m n hd own d f g params (.slice A k c) w (.tuple #[]) (λt=>∃x,t=p++[x]/\lK x)):=by
 have H:=h;have i:=hx;have C:=jN h.c 6;have D:=jN h.c 8;have E:=jN h.c 9
 go_enter func223,ntmps223
 go_wp21;apply(mj H i.kX i.params name).M;rintro e v ⟨r,rfl,rfl⟩;by_cases hr:0<=r
 .go_wp21;apply(kH b w cb j l m n hd own d f g params A k c p ⟨3,r,0,0⟩ H u).M;rintro e y ⟨rfl,V',t,q,s,rfl⟩;have a:=(And.intro q s)
  go_wp21
  go_end0
  exact⟨rfl,V',_,a.1,a.2,_,rfl,SL⟩
 .go_wp21;apply(mj H i.kX i.vars name).M;rintro e v ⟨z,rfl,rfl⟩;by_cases F:0<=z
  .go_wp21;apply(kH b w cb j l m n hd own d f g params A k c p ⟨2,z,0,0⟩ H u).M;rintro e y ⟨rfl,V',t,q,s,rfl⟩;have a:=(And.intro q s)
   go_wp21
   go_end0
   exact⟨rfl,V',_,a.1,a.2,_,rfl,SL⟩
  go_wp21;apply(mj H i.kX i.km name).M;rintro e v ⟨B,rfl,rfl⟩;go_wp21;apply(kH b w cb j l m n hd own d f g params A k c p ⟨4,B,0,0⟩ H u).M;rintro e y ⟨rfl,V',t,q,s,rfl⟩;have a:=(And.intro q s)
  go_wp21
  go_end0
  exact⟨rfl,V',_,a.1,a.2,_,rfl,SL⟩
def EK(d:Nat)(ay:zf d):Cf (d+1):=by
 intro S u w cb y z B C hd own D t E params V ai op n name ae Q c1 args d' hd h R q hg aL;obtain rfl:d=d':=SE
 obtain⟨az,aA,d',hd',ag⟩:=hg.op;obtain rfl:d=d':=SE
 simp only[Ex.op,Ex.args]at az aA ag;have aB:Q<=2:=SC q.len.1
 have hz:pI (d+1)=2*pI d+1:=rfl;have aM:Q*pI d<=2*pI d:=Qn _ aB;have G:=O0 (show ai.length+Q*pI d+1<=100000/\Q*pI d+1<=pI (d+1) from SE);have aj:=Ba w (la op name n ae Q c1);have aC:=(h.jQ aj)
 have aD:=(mJ.jQ (cb:=cb) (V:=V) aj)
 have aE:=O0 (O2 w (la op name n ae Q c1));have aN:=(O3.1 h.c).1;have ak:=h.own.ge;have af:=O0 (show w<(w.alloc (la op name n ae Q c1)).heap.size/\w≠cb/\some w.heap.size≠V.ownBlock from⟨SG,SE,λe=>SC ((ak _ e.symm).2)⟩);have aF:=O0 ag;have aG:=ay;clear h ag ak hd hd' hz
 go_enter func217,ntmps217
 go_wp21;refine(aG S u _ cb y z B C hd own D t E params V ai ae Q c1 args aC R q aF.o (SC G.o.1) SE).M ?_;rintro e F ⟨rfl,aO,s,I,ah,J⟩;obtain⟨al,aH⟩:=ah.k _ af.o.1 af.o.2.1 af.o.2.2;obtain⟨P,am⟩:=Xq w.heap.size;have T:=O0 (al.T aE.o);have U:w.heap.size<F:=O1 af.o.1 ah.size;rw[<-am]at T U⊢;obtain⟨A,c,rfl⟩:=I.form;have L:=(aD.T ah)
 have M:s.length<=100000:=by obtain⟨l,aI,aP,_⟩:=J;rw[aI,Pe];have:=G.o.1;omega
 clear al aH am;obtain⟨⟨W,X,Y,Z⟩,_⟩:=kn T.o;have aJ:op=1\/op=2\/op=3\/op=4\/op=5\/op=6\/op=7\/op=8\/op=9\/op=10\/op=11\/op=12\/op=13\/op=14\/op=15\/op=16\/op=17\/op=18\/op=19\/op=20\/op=21\/op=22\/op=23:=SE
 rcases aJ with rfl|rfl|rfl|rfl|rfl|rfl|rfl|rfl|rfl|rfl|rfl|rfl|rfl|rfl|rfl|rfl|rfl|rfl|rfl|rfl|rfl|rfl|rfl
 .go_wp21;apply(kH u F cb y z B C hd own D t E params A _ c s ⟨1,0,0,n⟩ I M).M;rintro e N ⟨rfl,i,j,k,p,b⟩;have a:=O0 (And.intro k (And.intro (L.T p) (J.snoc (m:=pI (d+1)) (x:=⟨1,0,0,n⟩) SL b G.o.2)));clear b;go_wp21
  go_end0
  exact⟨rfl,i,j,a.o.1,a.o.2.1,a.o.2.2⟩
 .go_wp21;apply(kH u F cb y z B C hd own D t E params A _ c s ⟨1,0,0,1⟩ I M).M;rintro e N ⟨rfl,i,j,k,p,b⟩;have a:=O0 (And.intro k (And.intro (L.T p) (J.snoc (m:=pI (d+1)) (x:=⟨1,0,0,1⟩) SL b G.o.2)));clear b;go_wp21
  go_end0
  exact⟨rfl,i,j,a.o.1,a.o.2.1,a.o.2.2⟩
 .go_wp21;apply(kH u F cb y z B C hd own D t E params A _ c s ⟨1,0,0,0⟩ I M).M;rintro e N ⟨rfl,i,j,k,p,b⟩;have a:=O0 (And.intro k (And.intro (L.T p) (J.snoc (m:=pI (d+1)) (x:=⟨1,0,0,0⟩) SL b G.o.2)));clear b;go_wp21
  go_end0
  exact⟨rfl,i,j,a.o.1,a.o.2.1,a.o.2.2⟩
 .go_wp21;apply(kH u F cb y z B C hd own D t E params A _ c s ⟨5,0,0,0⟩ I M).M;rintro e N ⟨rfl,i,j,k,p,b⟩;have a:=O0 (And.intro k (And.intro (L.T p) (J.snoc (m:=pI (d+1)) (x:=⟨5,0,0,0⟩) SL b G.o.2)));clear b;go_wp21
  go_end0
  exact⟨rfl,i,j,a.o.1,a.o.2.1,a.o.2.2⟩
 .go_wp21;apply(EI S u F cb y z B C hd own D t E params A _ c s name I R M).M;rintro e N ⟨rfl,i,j,k,p,x,b,aK⟩;have a:=O0 (And.intro k (And.intro (L.T p) (J.snoc (m:=pI (d+1)) aK b G.o.2)));clear b;go_wp21
  go_end0
  exact⟨rfl,i,j,a.o.1,a.o.2.1,a.o.2.2⟩
 .go_wp21;refine sB (λx=>lJ u cb y z B C hd own D t E params (.slice A s.length c) s x/\Below F F x) (λv w=>∃(i:Value) (j:List In) (r:Int),lJ u cb y z B C hd own D t E params i j w/\mJ cb (.slice A s.length c) F i w/\j=s++[⟨6,r,0,0⟩]) (mi [(·=.pointer cb),(·=.pointer P),(·=.int .u8 6),(·=.pointer cb),(·=.pointer cb),(Pp cb 7),(·=t),(Pp P 1),(·=tx name),Tr,Tr,Tr]) [(9,λv w=>∃r:Int,v=r),(10,λv w=>∃r:Int,v=.agg #[.int .u8 6,r,.int .i64 0,.int .i64 0])] (⟨I.jQ (Below.refl _ _).drew,(Below.refl _ _).drew⟩) ⟨?_,?_,?_,?_,?_,?_,?_,?_,?_,?_,?_,?_,trivial⟩ ?_;exact Pf 0;exact Pf 3;intro O w f hf q hd hw;have an:=Sv 48 q 1;obtain⟨⟨W,X,Y,Z⟩,_⟩:=kn ((f.2.B P U).T T.o);replace f:=Hq f;exact .q (g:=⟨rfl,f.o,Qa⟩);exact Pf 0;exact Pv 50 3;exact Pv 51 4;exact Pl 52 5 λ_ f=>jN f.1.c 7;exact Pf 3;intro O w f hf q hd hw;have ao:=Sv 54 q 7;obtain⟨⟨W,X,Y,Z⟩,_⟩:=kn ((f.2.B P U).T T.o);replace f:=Hq f;exact .q (g:=⟨rfl,f.o,Qa⟩);intro O w f hf q hd hw;have ap:=Sv 53 q 6;have aq:=Sv 55 q 8;clear hf q hd hw;replace f:=Hq f;refine .h λK hK=>?_;go_simp;refine⟨rfl,?_⟩;refine Calls.M (mj f.o.1 R.kX R.kC name) ?_;rintro e w' ⟨r,he,hw⟩;subst hw;subst he;exact⟨_,rfl,hK ⟨trivial,f.o,Qc ⟨r,rfl⟩<|Qb<|Qe⟩⟩;intro O w f hf q hd hw;have ar:=Sv 49 q 2;obtain⟨r,aa⟩:=kE hd 0;have au:=Sl 56 aa;exact .q (g:=⟨trivial,f,Qb<|Qc ⟨r,rfl⟩<|Qa⟩);intro O w f hf q hd hw;have av:=Sv 47 q 0;obtain⟨r,ab⟩:=kE hd 1;have aw:=Sl 57 ab;clear hf q hd hw;replace f:=Hq f;refine .h λK hK=>?_;go_simp;refine⟨rfl,?_⟩;refine Calls.M (kH u w cb y z B C hd own D t E params A _ c s ⟨6,r,0,0⟩ f.o.1 M) ?_;rintro e w' ⟨he,i,j,k,p,b⟩;subst he;refine⟨_,rfl,?_⟩;exact hK (⟨i,j,r,k,(mJ.jQ f.o.2).T p,b⟩);intro ax N ac ad;obtain⟨i,j,r,k,p,b⟩:=ad;have a:=O0 (And.intro k (And.intro (L.T p) (J.snoc (m:=pI (d+1)) (x:=⟨6,r,0,0⟩) SL b G.o.2)));clear b ac;simp only[mP];go_wp21
  go_end0
  exact⟨rfl,i,j,a.o.1,a.o.2.1,a.o.2.2⟩
 .go_wp21;refine sB (λx=>lJ u cb y z B C hd own D t E params (.slice A s.length c) s x/\Below F F x) (λv w=>∃(i:Value) (j:List In) (r:Int),lJ u cb y z B C hd own D t E params i j w/\mJ cb (.slice A s.length c) F i w/\j=s++[⟨7,r,0,0⟩]) (mi [(·=.pointer cb),(·=.pointer P),(·=.int .u8 7),(·=.pointer cb),(·=.pointer cb),(Pp cb 7),(·=t),(Pp P 1),(·=tx name),Tr,Tr,Tr]) [(9,λv w=>∃r:Int,v=r),(10,λv w=>∃r:Int,v=.agg #[.int .u8 7,r,.int .i64 0,.int .i64 0])] (⟨I.jQ (Below.refl _ _).drew,(Below.refl _ _).drew⟩) ⟨?_,?_,?_,?_,?_,?_,?_,?_,?_,?_,?_,?_,trivial⟩ ?_;exact Pf 0;exact Pf 3;intro O w f hf q hd hw;have an:=Sv 48 q 1;obtain⟨⟨W,X,Y,Z⟩,_⟩:=kn ((f.2.B P U).T T.o);replace f:=Hq f;exact .q (g:=⟨rfl,f.o,Qa⟩);exact Pf 0;exact Pv 50 3;exact Pv 51 4;exact Pl 52 5 λ_ f=>jN f.1.c 7;exact Pf 3;intro O w f hf q hd hw;have ao:=Sv 54 q 7;obtain⟨⟨W,X,Y,Z⟩,_⟩:=kn ((f.2.B P U).T T.o);replace f:=Hq f;exact .q (g:=⟨rfl,f.o,Qa⟩);intro O w f hf q hd hw;have ap:=Sv 53 q 6;have aq:=Sv 55 q 8;clear hf q hd hw;replace f:=Hq f;refine .h λK hK=>?_;go_simp;refine⟨rfl,?_⟩;refine Calls.M (mj f.o.1 R.kX R.kC name) ?_;rintro e w' ⟨r,he,hw⟩;subst hw;subst he;exact⟨_,rfl,hK ⟨trivial,f.o,Qc ⟨r,rfl⟩<|Qb<|Qe⟩⟩;intro O w f hf q hd hw;have ar:=Sv 49 q 2;obtain⟨r,aa⟩:=kE hd 0;have au:=Sl 56 aa;exact .q (g:=⟨trivial,f,Qb<|Qc ⟨r,rfl⟩<|Qa⟩);intro O w f hf q hd hw;have av:=Sv 47 q 0;obtain⟨r,ab⟩:=kE hd 1;have aw:=Sl 57 ab;clear hf q hd hw;replace f:=Hq f;refine .h λK hK=>?_;go_simp;refine⟨rfl,?_⟩;refine Calls.M (kH u w cb y z B C hd own D t E params A _ c s ⟨7,r,0,0⟩ f.o.1 M) ?_;rintro e w' ⟨he,i,j,k,p,b⟩;subst he;refine⟨_,rfl,?_⟩;exact hK (⟨i,j,r,k,(mJ.jQ f.o.2).T p,b⟩);intro ax N ac ad;obtain⟨i,j,r,k,p,b⟩:=ad;have a:=O0 (And.intro k (And.intro (L.T p) (J.snoc (m:=pI (d+1)) (x:=⟨7,r,0,0⟩) SL b G.o.2)));clear b ac;simp only[mP];go_wp21
  go_end0
  exact⟨rfl,i,j,a.o.1,a.o.2.1,a.o.2.2⟩
 .go_wp21;refine sB (λx=>lJ u cb y z B C hd own D t E params (.slice A s.length c) s x/\Below F F x) (λv w=>∃(i:Value) (j:List In) (r:Int),lJ u cb y z B C hd own D t E params i j w/\mJ cb (.slice A s.length c) F i w/\j=s++[⟨8,r,0,0⟩]) (mi [(·=.pointer cb),(·=.pointer P),(·=.int .u8 8),(·=.pointer cb),(·=.pointer cb),(Pp cb 7),(·=t),(Pp P 1),(·=tx name),Tr,Tr,Tr]) [(9,λv w=>∃r:Int,v=r),(10,λv w=>∃r:Int,v=.agg #[.int .u8 8,r,.int .i64 0,.int .i64 0])] (⟨I.jQ (Below.refl _ _).drew,(Below.refl _ _).drew⟩) ⟨?_,?_,?_,?_,?_,?_,?_,?_,?_,?_,?_,?_,trivial⟩ ?_;exact Pf 0;exact Pf 3;intro O w f hf q hd hw;have an:=Sv 48 q 1;obtain⟨⟨W,X,Y,Z⟩,_⟩:=kn ((f.2.B P U).T T.o);replace f:=Hq f;exact .q (g:=⟨rfl,f.o,Qa⟩);exact Pf 0;exact Pv 50 3;exact Pv 51 4;exact Pl 52 5 λ_ f=>jN f.1.c 7;exact Pf 3;intro O w f hf q hd hw;have ao:=Sv 54 q 7;obtain⟨⟨W,X,Y,Z⟩,_⟩:=kn ((f.2.B P U).T T.o);replace f:=Hq f;exact .q (g:=⟨rfl,f.o,Qa⟩);intro O w f hf q hd hw;have ap:=Sv 53 q 6;have aq:=Sv 55 q 8;clear hf q hd hw;replace f:=Hq f;refine .h λK hK=>?_;go_simp;refine⟨rfl,?_⟩;refine Calls.M (mj f.o.1 R.kX R.kC name) ?_;rintro e w' ⟨r,he,hw⟩;subst hw;subst he;exact⟨_,rfl,hK ⟨trivial,f.o,Qc ⟨r,rfl⟩<|Qb<|Qe⟩⟩;intro O w f hf q hd hw;have ar:=Sv 49 q 2;obtain⟨r,aa⟩:=kE hd 0;have au:=Sl 56 aa;exact .q (g:=⟨trivial,f,Qb<|Qc ⟨r,rfl⟩<|Qa⟩);intro O w f hf q hd hw;have av:=Sv 47 q 0;obtain⟨r,ab⟩:=kE hd 1;have aw:=Sl 57 ab;clear hf q hd hw;replace f:=Hq f;refine .h λK hK=>?_;go_simp;refine⟨rfl,?_⟩;refine Calls.M (kH u w cb y z B C hd own D t E params A _ c s ⟨8,r,0,0⟩ f.o.1 M) ?_;rintro e w' ⟨he,i,j,k,p,b⟩;subst he;refine⟨_,rfl,?_⟩;exact hK (⟨i,j,r,k,(mJ.jQ f.o.2).T p,b⟩);intro ax N ac ad;obtain⟨i,j,r,k,p,b⟩:=ad;have a:=O0 (And.intro k (And.intro (L.T p) (J.snoc (m:=pI (d+1)) (x:=⟨8,r,0,0⟩) SL b G.o.2)));clear b ac;simp only[mP];go_wp21
  go_end0
  exact⟨rfl,i,j,a.o.1,a.o.2.1,a.o.2.2⟩
 .go_wp21;apply(kH u F cb y z B C hd own D t E params A _ c s ⟨9,0,0,0⟩ I M).M;rintro e N ⟨rfl,i,j,k,p,b⟩;have a:=O0 (And.intro k (And.intro (L.T p) (J.snoc (m:=pI (d+1)) (x:=⟨9,0,0,0⟩) SL b G.o.2)));clear b;go_wp21
  go_end0
  exact⟨rfl,i,j,a.o.1,a.o.2.1,a.o.2.2⟩
 .go_wp21;apply(kH u F cb y z B C hd own D t E params A _ c s ⟨10,0,0,0⟩ I M).M;rintro e N ⟨rfl,i,j,k,p,b⟩;have a:=O0 (And.intro k (And.intro (L.T p) (J.snoc (m:=pI (d+1)) (x:=⟨10,0,0,0⟩) SL b G.o.2)));clear b;go_wp21
  go_end0
  exact⟨rfl,i,j,a.o.1,a.o.2.1,a.o.2.2⟩
 .go_wp21;apply(kH u F cb y z B C hd own D t E params A _ c s ⟨11,0,0,0⟩ I M).M;rintro e N ⟨rfl,i,j,k,p,b⟩;have a:=O0 (And.intro k (And.intro (L.T p) (J.snoc (m:=pI (d+1)) (x:=⟨11,0,0,0⟩) SL b G.o.2)));clear b;go_wp21
  go_end0
  exact⟨rfl,i,j,a.o.1,a.o.2.1,a.o.2.2⟩
 .go_wp21;apply(kH u F cb y z B C hd own D t E params A _ c s ⟨12,0,0,0⟩ I M).M;rintro e N ⟨rfl,i,j,k,p,b⟩;have a:=O0 (And.intro k (And.intro (L.T p) (J.snoc (m:=pI (d+1)) (x:=⟨12,0,0,0⟩) SL b G.o.2)));clear b;go_wp21
  go_end0
  exact⟨rfl,i,j,a.o.1,a.o.2.1,a.o.2.2⟩
 .go_wp21;apply(kH u F cb y z B C hd own D t E params A _ c s ⟨13,0,0,0⟩ I M).M;rintro e N ⟨rfl,i,j,k,p,b⟩;have a:=O0 (And.intro k (And.intro (L.T p) (J.snoc (m:=pI (d+1)) (x:=⟨13,0,0,0⟩) SL b G.o.2)));clear b;go_wp21
  go_end0
  exact⟨rfl,i,j,a.o.1,a.o.2.1,a.o.2.2⟩
 .go_wp21;apply(kH u F cb y z B C hd own D t E params A _ c s ⟨14,0,0,0⟩ I M).M;rintro e N ⟨rfl,i,j,k,p,b⟩;have a:=O0 (And.intro k (And.intro (L.T p) (J.snoc (m:=pI (d+1)) (x:=⟨14,0,0,0⟩) SL b G.o.2)));clear b;go_wp21
  go_end0
  exact⟨rfl,i,j,a.o.1,a.o.2.1,a.o.2.2⟩
 .go_wp21;apply(kH u F cb y z B C hd own D t E params A _ c s ⟨15,0,0,0⟩ I M).M;rintro e N ⟨rfl,i,j,k,p,b⟩;have a:=O0 (And.intro k (And.intro (L.T p) (J.snoc (m:=pI (d+1)) (x:=⟨15,0,0,0⟩) SL b G.o.2)));clear b;go_wp21
  go_end0
  exact⟨rfl,i,j,a.o.1,a.o.2.1,a.o.2.2⟩
 .go_wp21;apply(kH u F cb y z B C hd own D t E params A _ c s ⟨16,0,0,0⟩ I M).M;rintro e N ⟨rfl,i,j,k,p,b⟩;have a:=O0 (And.intro k (And.intro (L.T p) (J.snoc (m:=pI (d+1)) (x:=⟨16,0,0,0⟩) SL b G.o.2)));clear b;go_wp21
  go_end0
  exact⟨rfl,i,j,a.o.1,a.o.2.1,a.o.2.2⟩
 .go_wp21;apply(kH u F cb y z B C hd own D t E params A _ c s ⟨17,0,0,0⟩ I M).M;rintro e N ⟨rfl,i,j,k,p,b⟩;have a:=O0 (And.intro k (And.intro (L.T p) (J.snoc (m:=pI (d+1)) (x:=⟨17,0,0,0⟩) SL b G.o.2)));clear b;go_wp21
  go_end0
  exact⟨rfl,i,j,a.o.1,a.o.2.1,a.o.2.2⟩
 .go_wp21;apply(kH u F cb y z B C hd own D t E params A _ c s ⟨18,0,0,0⟩ I M).M;rintro e N ⟨rfl,i,j,k,p,b⟩;have a:=O0 (And.intro k (And.intro (L.T p) (J.snoc (m:=pI (d+1)) (x:=⟨18,0,0,0⟩) SL b G.o.2)));clear b;go_wp21
  go_end0
  exact⟨rfl,i,j,a.o.1,a.o.2.1,a.o.2.2⟩
 .go_wp21;apply(kH u F cb y z B C hd own D t E params A _ c s ⟨19,0,0,0⟩ I M).M;rintro e N ⟨rfl,i,j,k,p,b⟩;have a:=O0 (And.intro k (And.intro (L.T p) (J.snoc (m:=pI (d+1)) (x:=⟨19,0,0,0⟩) SL b G.o.2)));clear b;go_wp21
  go_end0
  exact⟨rfl,i,j,a.o.1,a.o.2.1,a.o.2.2⟩
 .go_wp21;apply(kH u F cb y z B C hd own D t E params A _ c s ⟨20,0,0,0⟩ I M).M;rintro e N ⟨rfl,i,j,k,p,b⟩;have a:=O0 (And.intro k (And.intro (L.T p) (J.snoc (m:=pI (d+1)) (x:=⟨20,0,0,0⟩) SL b G.o.2)));clear b;go_wp21
  go_end0
  exact⟨rfl,i,j,a.o.1,a.o.2.1,a.o.2.2⟩
 .go_wp21;apply(kH u F cb y z B C hd own D t E params A _ c s ⟨21,0,0,0⟩ I M).M;rintro e N ⟨rfl,i,j,k,p,b⟩;have a:=O0 (And.intro k (And.intro (L.T p) (J.snoc (m:=pI (d+1)) (x:=⟨21,0,0,0⟩) SL b G.o.2)));clear b;go_wp21
  go_end0
  exact⟨rfl,i,j,a.o.1,a.o.2.1,a.o.2.2⟩
 .go_wp21;apply(kH u F cb y z B C hd own D t E params A _ c s ⟨22,0,0,0⟩ I M).M;rintro e N ⟨rfl,i,j,k,p,b⟩;have a:=O0 (And.intro k (And.intro (L.T p) (J.snoc (m:=pI (d+1)) (x:=⟨22,0,0,0⟩) SL b G.o.2)));clear b;go_wp21
  go_end0
  exact⟨rfl,i,j,a.o.1,a.o.2.1,a.o.2.2⟩
 go_wp21;apply(kH u F cb y z B C hd own D t E params A _ c s ⟨23,0,0,0⟩ I M).M;rintro e N ⟨rfl,i,j,k,p,b⟩;have a:=O0 (And.intro k (And.intro (L.T p) (J.snoc (m:=pI (d+1)) (x:=⟨23,0,0,0⟩) SL b G.o.2)));clear b;go_wp21
 go_end0
 exact⟨rfl,i,j,a.o.1,a.o.2.1,a.o.2.2⟩
