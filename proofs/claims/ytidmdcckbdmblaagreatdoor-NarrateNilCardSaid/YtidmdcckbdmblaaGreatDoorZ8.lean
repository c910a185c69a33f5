import Derived.Test.YtidmdcckbdmblaaGreatDoorZ4
import Derived.Test.YtidmdcckbdmblaaGreatDoorZ5
set_option maxRecDepth 1000000
set_option maxHeartbeats 32000000
set_option linter.all false
namespace Go.Proofs.YtidmdcckbdmblaaGreatDoor
open Go.RowKit jJ Go.Proofs.Tryz
theorem wM(w:World)(a:List Value)(t:TypeId):∀b u,a[b]?=some u->(w.alloc (.cells a.toArray t)).cell? ((⟨w,0,none⟩:Addr).add b)=some u:=by
 intro b u d;have e:(w.alloc (.cells a.toArray t)).heap[w.heap.size]?=some (.cells a.toArray t (0,0)):=JK w _;have c:=iT e b u (by simpa using d);unfold Addr.add;split
 rename_i h;subst h;exact c
 simpa using c
def A8(l:List (List UInt8))(w:World)(e:Ending)(w':World):Prop:=∃v,e=.returned v/\jx jk 9 1 (λ_=>False) w' w v l/\Below w w w'
theorem mg.wk{d w}{c:Nat}{sc}{left:Nat}(h:mg d w c sc left){Z i:Nat}{u}(hz:Z≠c)(hS:∀b,d b->b≠Z):mg d (w.setCell ⟨Z,i,none⟩ u) c sc left:=by obtain⟨g,j,k,a,l,hy⟩:=h.jr;have f:∀b,b≠Z->(w.setCell ⟨Z,i,none⟩ u).heap[b]?=w.heap[b]?:=λb a=>J8 _ _ _ _ a;exact⟨⟨g,j,k,(f c (λe=>hz e.symm)).T a,l.iV Fp.ok (λb a=>f b (hS b a)),hy.iV Cq.ok (λb a=>f b (hS b a))⟩,λb a=>⟨(h.jY b a).1,by rw[JQ];exact(h.jY b a).2⟩⟩
theorem vK{a b:World}{row:Option Nat}(h:a.grownBy b row){i:Nat}{u:Value}:a.grownBy (b.setCell ⟨a,i,none⟩ u) row:=
 ⟨h.os,h.tape,h.output,by rw[JQ];exact h.size,λq c d=>(J8 _ _ _ _ (by show q≠a;omega)).T (h.B q c d)⟩
theorem jc.wk{c:Type}{R:Rel c}{k:Nat}(ok:jI R k){a w v}{xs:List c}(h:jc R a w v xs){Z i:Nat}{u}(hS:∀b,a b->b≠Z):jc R a (w.setCell ⟨Z,i,none⟩ u) v xs:=
 h.iV ok λb d=>J8 _ _ _ _ (hS b d)
theorem ue.wk{a}{c:Nat}{sc}{left:Nat}{T d w e}(h:ue a c sc left T d w e)(i:Nat)(u):ue a c sc left T (d.setIfInBounds i u) w (e.setCell ⟨w,i,none⟩ u):=
 ⟨iW h.hz,h.hm.wk (LA h.G6) (λb f=>LA (h.hS b f)),vK h.hg,h.G6,h.hS⟩
theorem Good.wk{a z:Nat}(w)(i:Nat)(u):Good a z w (w.setCell ⟨z,i,none⟩ u):=⟨by rw[JQ];exact JS _,λb _ _ h=>J8 _ _ _ _ h⟩
theorem jx.base{a:Type}{R:Rel a}{T k:Nat}{P w}{lo b:Nat}{v}{xs:List a}(h:jx R T k P w lo v xs)(d:b<=lo):jx R T k P w b v xs:=by
 obtain⟨f,c,i⟩:=h.own;refine⟨f,⟨c.1,?_⟩,i⟩;rcases c.2 with h|⟨g,j,l,e,m,h⟩
 exact .inl h;exact .inr ⟨g,j,l,e,J9 d m,h⟩
theorem yn{a:Type}{R:Rel a}{k:Nat}(ok:jI R k){c d w v}{xs:List a}(hs:c.heap.size<=d.heap.size)(h:jc R (Nw d w) w v xs):jc R (Nw c w) w v xs:=h.M ok λb e=>⟨J9 hs e.1,e.2⟩
theorem lr(l)(h:lf l=true)(w)(hL:pE w):Calls prog 199 #[tx l] w λe w'=>e=.returned (.bool true)/\w=w':=by
 unfold lf at h;simp only[KO,Lp,K0,Bool.not_eq_true']at h;obtain⟨⟨⟨⟨b,c⟩,d⟩,f⟩,g⟩:=h;have a:(⟨l.toArray⟩:ByteArray).size=l.length:=by simp[ByteArray.size]
 refine xw ⟨l.toArray⟩ w hL (by rw[a];exact b) (by rw[a];exact c) ?_ (by rw[a];simpa using f) (by simpa using g);rw[<-jg.ml ⟨l.toArray⟩ (by rw[a];exact b)];simpa using d
theorem tU:wD 276:=by
 intro F w b o d e r f i hr p q hS;obtain⟨d',v,rfl,rfl,G⟩:=hr.open;obtain⟨⟨x,I,hx,s,j,t,u,y⟩,_⟩:=p;have c:=i 0 _ rfl;have l:=i 1 _ rfl;rw[JT]at c;obtain⟨k,m⟩:∃k:Nat,k=e.op.toNat:=⟨_,rfl⟩
 have n:e.op=(k:Int):=LC
 rw[<-m]at hx;rw[n]at c;have z:1<=k:=LC
 have A:=JH hx;have B:=JH (And.intro c l);have C:=JH j;clear s j t u y hx m n
 go_enter func276,ntmps276
 go_wp2_with fail;refine(pc k x A.o z _ f).M ?_;rintro J D ⟨rfl,a⟩;have g:=a.size;have K:=(Cb b (o+1) (a.B b q)).T B.o.2;have L:b<D:=LC
 clear c l;cases hq:x.2.1
 .go_wp2_with fail;go_ret;exact⟨rfl,a.alloc g _⟩
 have E:=C.o hq;go_wp2_with fail;refine(lr e.name E _ (f.names.iU (a.alloc g _) f.low.1)).M ?_;rintro M N ⟨rfl,rfl⟩;go_wp2_with fail;go_ret;exact⟨rfl,a.alloc g _⟩
theorem tz:wD 277:=by
 intro P w b o d e r C f hr D g hS;obtain⟨d',v,rfl,rfl,E⟩:=hr.open;obtain⟨⟨x,Q,hx,p,F,q,l,m⟩,_⟩:=D;obtain⟨R,c,rfl,hc⟩:=E.form;have i:=f 0 _ rfl;have s:=f 1 _ rfl;have t:=f 2 _ rfl;have n:=f 3 _ rfl;rw[JT]at i;rw[p]at n;obtain⟨k,u⟩:∃k:Nat,k=e.op.toNat:=⟨_,rfl⟩
 have y:e.op=(k:Int):=LC
 rw[<-u]at hx;rw[y]at i l m;have G:1<=k:=LC
 have I:=JH hx;have j:=JH (And.intro i (And.intro s (And.intro t n)));have J:=JH q;have z:=JH (And.intro l m);clear p F q l m hx u y
 go_enter func277,ntmps277
 go_wp2_with fail;refine(pc k x I.o G _ C).M ?_;rintro S K ⟨rfl,a⟩;have L:=a.size;have T:=(Cb b o (a.B b g)).T j.o.1;have M:=(Cb b (o+1) (a.B b g)).T j.o.2.1;have N:=(Cb b (o+2) (a.B b g)).T j.o.2.2.1;have U:=(Cb b (o+3) (a.B b g)).T j.o.2.2.2;have V:b<K:=LC
 clear i s t n;have A:((k:Int)==1)=true->decide ((0:Int)<=e.n)=true:=λh=>by rw[decide_eq_true_iff];exact z.o.1 (by rw[K0]at h;exact h)
 have B:((k:Int)==1)=false->e.n=0:=λh=>z.o.2 (by rw[JX]at h;exact h);cases Je:((k:Int)==1)<;>cases hq:x.2.1;all_goals
  first|have hd:=A Je|have hz:=B Je
  first|have O:=J.o hq|skip
  first|rw[O]at M|skip
  first|rw[hz]at N|skip
  clear A B;go_wp2_with fail;go_quiet (fail);go_wp2_with fail;go_ret;exact⟨rfl,kF (a.alloc L _) _⟩
theorem rB:kv 276:=λ_ _=>LF
theorem qV:kv 277:=λ_ _=>LF
theorem pH(g:FuncId)(a:kv g)(b:wD g):∀d,yv g d
 |0=>oT g a b 0 λd' e=>by omega
 |d+1=>oT g a b (d+1) λd' e=>by obtain rfl:d=d':=LC;exact pH g a b d
def wE(g:FuncId):Prop:=∀(a:Nat->Prop) (w:World) (b o d:Nat) (s:St) (r:List Value),jV w->At w b o r->jH .u8 d a w r s->lK d s->b<w->(∀q,a q->q<w)->Calls prog g #[.pointer (some ⟨b,o,none⟩)] w (jf (.bool true) w)
theorem sK(g:FuncId)(z:kv g)(A:wD g)(j w)(b o d:Nat)(s r)(hL:jV w)(t:At w b o r)(hr:jH .u8 d j w r s)(u:lK d s)(B:b<w)(hS:∀q,j q->q<w):
  Calls prog 275 #[.pointer (some ⟨b,o,none⟩),.func (.func g) #[] #[]] w (jf (.bool true) w):=by
 have C:=u.five;obtain⟨d',v1,v2,P,rfl,rfl,l,_,_⟩:=hr.open;obtain⟨_,D,_⟩:=u;obtain⟨Q,c,rfl,hc⟩:=l.form;obtain⟨n,v⟩:=Xq s.jy.length;rw[<-v]at l hc t C;have E:=t 3 _ rfl;have m:=hS;have F:=hL;have G:=(pH g z A De)
 go_enter func275,ntmps275
 go_wp2_with fail;go_loopw [11] (λi wr=>∃k:Nat,k<=n/\i=k/\Below w w wr) (λi _=>n-(intOf i).toNat);case atStart=>exact⟨0,JV _,rfl,Below.refl _ _⟩
 case round=>
  obtain⟨k,R,rfl,a⟩:=hrel;have I:=a.size;have S:=(Cb b (o+3) (a.B b B)).T E;by_cases T:k<n
  .obtain⟨x,hx⟩:∃x,s.jy[k]?=some x:=Gx (LA v);obtain⟨f,y,r,rfl,J,hr,K⟩:=l.jr (ki.ok .u8 De) k x hx;have L:f<w:=m f J;have M:=(G j wr f (y+k*4) x r (F.to a) ((show At w f (y+k*4) r from K).iU a L) ((ki.ok .u8 De).iV hr (λq p=>a.B q (m q p))) (D x (JM hx)) LC (λq p=>LA (m q p)))
   have U:(0:Int)<=(k:Int):=LC;have V:(k:Int)<(n:Int):=LC;go_wp2_with fail;refine M.M ?_;rintro e W ⟨rfl,N⟩;have O:=(a.T (N.M I))
   go_wp2_with fail;go_roundw;case rel=>exact⟨k+1,LC,LI,O⟩
   case measure=>simp[intOf];omega
  obtain rfl:k=n:=LC;go_wp2_with fail;go_ret;exact⟨rfl,a⟩
theorem lY{a w w'}{b o d:Nat}{s r}(h:At w b o r/\jH .u8 d a w r s/\lK d s)(f:b<w)(hS:∀q,a q->q<w)(c:Below w w w'):At w' b o r/\jH .u8 d a w' r s/\lK d s/\b<w'/\∀q,a q->q<w':=
 ⟨h.1.iU c f,(jH.ok .u8 d).iV h.2.1 (λq e=>c.B q (hS q e)),h.2.2,JI f c.size,λq e=>JI (hS q e) c.size⟩
theorem tV:wE 221:=by
 intro O w b o d s r hL j hr B f hS;have P:=j;have Q:=hr;have R:=B;obtain⟨d',v1,v2,ad,rfl,rfl,S,T,U⟩:=hr.open;obtain⟨⟨x,ae,hx,C,V,D,W,af,ag,X,Y⟩,Z,⟨ah,ai⟩,_⟩:=B;obtain⟨aj,c1,rfl,ak⟩:=S.form;obtain⟨al,c2,rfl,am⟩:=T.form;obtain⟨an,c3,rfl,ao⟩:=U.form;have u:=j 0 _ rfl;have E:=j 1 _ rfl;have F:=j 2 _ rfl;have G:=j 3 _ rfl;have I:=j 4 _ rfl;have J:=j 5 _ rfl;rw[JT]at u;obtain⟨k,K⟩:∃k:Nat,k=s.kind.toNat:=⟨_,rfl⟩
 have L:s.kind=(k:Int):=LC
 rw[<-K]at hx;rw[L]at u;have aa:1<=k:=LC
 have v:=hL;have ab:=JH hx;have p:=(And.intro u (And.intro E (And.intro F (And.intro G (And.intro I J)))))
 have q:=(And.intro P (And.intro Q R))
 have t:=hS;have y:=(And.intro C D)
 clear C V D W X Y Z hx K L hS
 go_enter func221,ntmps221
 go_wp2_with fail;refine(wR k x ab.o aa _ v).M ?_;rintro ap ac ⟨rfl,g⟩;have c:=g.size;have aq:=(Cb b o (g.B b f)).T p.1;have ar:=(Cb b (o+1) (g.B b f)).T p.2.1;have au:=(Cb b (o+2) (g.B b f)).T p.2.2.1;have av:=(Cb b (o+3) (g.B b f)).T p.2.2.2.1;have aw:=(Cb b (o+4) (g.B b f)).T p.2.2.2.2.1;have ax:=(Cb b (o+5) (g.B b f)).T p.2.2.2.2.2;have ay:b<ac:=LC
 have e:=g;clear u E F G I J;have M:=λ(a:World) (i:Below w w a)=>sK 276 rB tU O a b o _ s _ (v.to i) (lY q f t i).1 (lY q f t i).2.1 (lY q f t i).2.2.1 (lY q f t i).2.2.2.1 (lY q f t i).2.2.2.2;have z:=M;have N:=λ(l:List UInt8) (h:lf l=true) (a:World) (i:Below w w a)=>lr l h a (v.names.iU i v.low.1);have A:=N;clear M N;cases HT:x.1<;>cases HV:x.2.1
 .go_wp2_with fail;refine(z _ (e.alloc c _)).M ?_;rintro m a ⟨rfl,n⟩;go_wp2_with fail;go_ret;exact⟨rfl,(e.alloc c _).T (n.M LJ)⟩
 .go_wp2_with fail;refine(A _ (y.2 HV) _ (e.alloc c _)).M ?_;rintro m a ⟨rfl,rfl⟩;go_wp2_with fail;refine(z _ (e.alloc c _)).M ?_;rintro m a ⟨rfl,n⟩;go_wp2_with fail;go_ret;exact⟨rfl,(e.alloc c _).T (n.M LJ)⟩
 .go_wp2_with fail;refine(A _ (y.1 HT) _ (e.alloc c _)).M ?_;rintro m a ⟨rfl,rfl⟩;go_wp2_with fail;refine(z _ (e.alloc c _)).M ?_;rintro m a ⟨rfl,n⟩;go_wp2_with fail;go_ret;exact⟨rfl,(e.alloc c _).T (n.M LJ)⟩
 go_wp2_with fail;refine(A _ (y.1 HT) _ (e.alloc c _)).M ?_;rintro m a ⟨rfl,rfl⟩;go_wp2_with fail;refine(A _ (y.2 HV) _ (e.alloc c _)).M ?_;rintro m a ⟨rfl,rfl⟩;go_wp2_with fail;refine(z _ (e.alloc c _)).M ?_;rintro m a ⟨rfl,n⟩;go_wp2_with fail;go_ret;exact⟨rfl,(e.alloc c _).T (n.M LJ)⟩
theorem tA:wE 224:=by
 intro M w b o d s r hL e hr p a hS;have N:=e;have O:=hr;have P:=p;obtain⟨d',v1,v2,al,rfl,rfl,Q,R,S⟩:=hr.open;obtain⟨⟨x,am,hx,T,q,U,t,an,ao,u,v⟩,V,⟨ap,aq⟩,_⟩:=p;obtain⟨ar,c1,rfl,au⟩:=Q.form;obtain⟨av,c2,rfl,aw⟩:=R.form;obtain⟨ax,c3,rfl,ay⟩:=S.form;have l:=e 0 _ rfl;have y:=e 1 _ rfl;have z:=e 2 _ rfl;have A:=e 3 _ rfl;have B:=e 4 _ rfl;have C:=e 5 _ rfl;rw[JT]at l;obtain⟨k,D⟩:∃k:Nat,k=s.kind.toNat:=⟨_,rfl⟩
 have E:s.kind=(k:Int):=LC
 rw[<-D]at hx;rw[E]at l;have W:1<=k:=LC
 have F:=hL;have X:=JH hx;have f:=(And.intro l (And.intro y (And.intro z (And.intro A (And.intro B C)))))
 have i:=(And.intro N (And.intro O P))
 have j:=hS;have G:=(And.intro q t)
 have I:=(And.intro u v)
 obtain⟨n,hn⟩:=Xq s.jy.length;have az:¬(n:Int)<(x.2.2.1:Int):=LC
 have aA:¬(x.2.2.2.1:Int)<(n:Int):=LC
 have Y:=JH hn;clear T q U t u v V hx D E hS hn
 go_enter func224,ntmps224
 go_wp2_with fail;refine(wR k x X.o W _ F).M ?_;rintro aB Z ⟨rfl,c⟩;have J:=c.size;have aC:=(Cb b o (c.B b a)).T f.1;have aa:=(Cb b (o+1) (c.B b a)).T f.2.1;have ab:=(Cb b (o+2) (c.B b a)).T f.2.2.1;have ac:=(Cb b (o+3) (c.B b a)).T f.2.2.2.1;have ad:=(Cb b (o+4) (c.B b a)).T f.2.2.2.2.1;have ae:=(Cb b (o+5) (c.B b a)).T f.2.2.2.2.2;have aD:b<Z:=LC
 have K:=c;rw[<-Y.o]at ac;clear l y z A B C;have L:=λ(m:World) (g:Below w w m)=>sK 277 qV tz M m b o _ s _ (F.to g) (lY i a j g).1 (lY i a j g).2.1 (lY i a j g).2.2.1 (lY i a j g).2.2.2.1 (lY i a j g).2.2.2.2;have af:=L;clear L;cases HT:x.1<;>cases HV:x.2.1<;>cases Ju:x.2.2.2.2.1<;>cases Jv:x.2.2.2.2.2;all_goals
  first|(have ag:=G.1 HT;rw[ag]at aa)|skip
  first|(have ah:=G.2 HV;rw[ah]at ab)|skip
  first|(have ai:=I.1 Ju;rw[ai,Kc]at ad)|skip
  first|(have aj:=I.2 Jv;rw[aj,Kc]at ae)|skip
  go_wp2_with fail;refine(af _ (K.alloc J _)).M ?_;rintro aE m ⟨rfl,ak⟩;go_wp2_with fail;go_ret;exact⟨rfl,(K.alloc J _).T (ak.M LJ)⟩
def yw(g:FuncId)(d:Nat):Prop:=∀(a:Nat->Prop) (w:World) (b:Option Addr) (n c:Nat) (l:List St),jV w->jc (jH .u8 d) a w (.slice b n c) l->l.length<=12->(∀s∈l,lK d s)->(∀q,a q->q<w)->Calls prog 220 #[.slice b n c,.func (.func g) #[] #[]] w (jf (.bool true) w)
theorem sL(g:FuncId)(N:kv g)(O:wE g)(d:Nat)(P:∀d',d=d'+1->yw g d'):yw g d:=by
 intro v w ag n c l y E ah Q f;unfold kv at N;have F:=E.len;have ai:n<=12:=LC
 have hc:=F.2;have R:=F.1;have G:=P;have S:=O
 go_enter func220,ntmps220
 go_wp2_with fail;go_loopw [9] (λi wr=>∃k:Nat,k<=n/\i=k/\Below w w wr) (λi _=>n-(intOf i).toNat);case atStart=>exact⟨0,JV _,rfl,Below.refl _ _⟩
 case round=>
  obtain⟨k,aj,rfl,m⟩:=hrel;have T:=m.size;by_cases ak:k<n
  .obtain⟨x,hx⟩:∃x,l[k]?=some x:=Gx (LA R);obtain⟨b,t,r,rfl,U,hr,V⟩:=E.jr (jH.ok .u8 d) k x hx;have z:b<w:=f b U;have I:=Q x (JM hx);have A:At w b (t+k*6) r:=V;have W:=(S v wr b (t+k*6) d x r (y.to m) (A.iU m z) ((jH.ok .u8 d).iV hr (λq a=>m.B q (f q a))) I LC (λq a=>LA (f q a)))
   obtain⟨d',v1,v2,al,rfl,rfl,_,J,K⟩:=hr.open;obtain⟨_,_,⟨X,Y⟩,Z,aa⟩:=I;obtain⟨ab,c2,rfl,_⟩:=J.form;obtain⟨ac,c3,rfl,_⟩:=K.form;have B:=A 4 _ rfl;have L:=A 5 _ rfl;have ad:=(λ(p:World) (j:Below w w p)=>G d' rfl v p ab _ c2 x.th (y.to j) (J.iV (jH.ok .u8 _) (λq a=>j.B q (f q a))) X Z (λq a=>JI (f q a) j.size))
   have ae:=(λ(p:World) (j:Below w w p)=>G d' rfl v p ac _ c3 x.el (y.to j) (K.iV (jH.ok .u8 _) (λq a=>j.B q (f q a))) Y aa (λq a=>JI (f q a) j.size))
   have M:=(And.intro B L)
   have am:(0:Int)<=(k:Int):=LC;have an:(k:Int)<(n:Int):=LC;clear B;go_wp2_with (refine W.M ?_;rintro e p ⟨rfl,s⟩;have C:=m.T (s.M T);have D:=C;have B:=(Cb b (t+k*6+4) (C.B b z)).T M.1;clear s C);refine(ad _ D).M ?_;rintro e ao ⟨rfl,s⟩;have u:=D.T (s.M D.size);have L:=(Cb b (t+k*6+5) (u.B b z)).T M.2;go_wp2_with fail;refine(ae _ u).M ?_;rintro e ap ⟨rfl,s⟩;have af:=(u.T (s.M u.size))
   go_wp2_with fail;go_roundw;case rel=>exact⟨k+1,LC,LI,af⟩
   case measure=>simp[intOf];omega
  obtain rfl:k=n:=LC;go_wp2_with fail;go_ret;exact⟨rfl,m⟩
theorem pd(g:FuncId)(a:kv g)(b:wE g):∀d,yw g d
 |0=>sL g a b 0 λd' e=>by omega
 |d+1=>sL g a b (d+1) λd' e=>by obtain rfl:d=d':=LC;exact pd g a b d
theorem rC:kv 221:=λ_ _=>LF
theorem sM:∀d,yx d
 |0=>ri 0 λd' e=>by omega
 |d+1=>ri (d+1) λd' e=>by obtain rfl:d=d':=LC;exact sM d
theorem wS:∀d,FL d
 |0=>uw 0 λd' e=>LC
 |d+1=>uw (d+1) λd' e=>(Nat.succ.inj e)▸wS d
theorem ux(d:Nat)(R:∀d',d=d'+1->FM d'):FM d:=by
 intro S w aB n c l b aC T ag aD hS;have F:=b.len;have aE:n<=12:=LC
 have hc:=F.2;have U:=JH F.1;have A:=hS;have ah:=b;have V:=T;have W:=R;clear T hS F R;by_cases aF:n=0
 .have hz:((n:Int)==0)=true:=by rw[K0];omega
  go_enter func272,ntmps272
  go_wp2_with fail;go_ret;exact⟨0,rfl,JV _,Below.refl _ _⟩
 have hz:((n:Int)==0)=false:=by rw[JX];omega
 obtain⟨d',rfl⟩:∃d',d=d'+1:=by
  obtain⟨x,hx⟩:∃x,l[0]?=some x:=Gx (LA U.o);have:=V x (JM hx);cases d with
  |zero=>exact this.elim
  |succ d=>exact⟨d,rfl⟩
 go_enter func272,ntmps272
 go_wp2_with fail;go_loopw [3,10] (λv i wr=>∃k r:Nat,k<=n/\i=k/\v=r/\r<=d'/\Below w w wr) (λ_ i _=>n-(intOf i).toNat);case atStart=>exact⟨0,0,JV _,rfl,rfl,JV _,Below.refl _ _⟩
 case round=>
  obtain⟨k,r,aG,rfl,rfl,hr,G⟩:=hrel;have z:=G;have B:=G.size;have I:=hr;by_cases aH:k<n
  .obtain⟨x,hx⟩:∃x,l[k]?=some x:=Gx (LA U.o);obtain⟨f,p,m,rfl,ai,aj,J⟩:=ah.jr (jH.ok .u8 _) k x hx;have X:f<w:=A f ai;have G:f<wr:=LC;have ak:=V x (JM hx);have hmx:=JM hx;obtain⟨al,v1,v2,aI,aJ,rfl,_,Y,Z⟩:=aj.open;obtain rfl:d'=al:=LC;obtain⟨_,_,⟨am,an⟩,aa,ab⟩:=ak;obtain⟨ac,c2,rfl,_⟩:=Y.form;obtain⟨ad,c3,rfl,_⟩:=Z.form;have L:=(And.intro (J 4 _ rfl) (J 5 _ rfl))
   have M:=Aq ag hmx;have ae:=(λ(C:World) (D:Below w w C)=>W d' rfl S C ac _ c2 x.th (Y.iV (jH.ok .u8 _) (λq y=>D.B q (A q y))) am aa M.1 LC (λq y=>JI (A q y) D.size))
   have af:=(λ(C:World) (D:Below w w C)=>W d' rfl S C ad _ c3 x.el (Z.iV (jH.ok .u8 _) (λq y=>D.B q (A q y))) an ab M.2 LC (λq y=>JI (A q y) D.size))
   have aK:(0:Int)<=(k:Int):=LC;have aL:(k:Int)<(n:Int):=LC;obtain⟨ao,N⟩:=Xq x.th.length;obtain⟨em,O⟩:=Xq x.el.length;rw[<-N,<-O]at L;rw[<-N]at ae;rw[<-O]at af;clear J hx aa ab M N O;go_wp2_with fail;refine rr (λx=>Below wr wr x) (λv w=>∃j:Nat,v=j/\j<=d'/\Below wr wr w) (kN [(·=r),(·=.slice (some ⟨f,p,none⟩) n c),(·=k),(Pp f (p+k*6)),(Pp f (p+k*6+4)),(·=.slice ac ao c2),Tr,(·=.slice (some ⟨f,p,none⟩) n c),(·=k),(Pp f (p+k*6)),(Pp f (p+k*6+5)),(·=.slice ad em c3),Tr,Tr,Tr]) [(6,λv w=>∃(s:Nat),v=s/\s<=d'),(12,λv w=>∃(m:Nat),v=m/\m<=d'),(13,λv w=>∃j:Nat,v=j/\j<=d')] ((Below.refl _ _).drew) ⟨?_,?_,?_,?_,?_,?_,?_,?_,?_,?_,?_,?_,?_,?_,?_,trivial⟩ ?_;intro t w a hf b hd hw;have aM:=Sl 3 (hw 14 _ 3 rfl rfl rfl);clear hf b hd hw;exact .q (g:=⟨rfl,a,Qa⟩);exact Pf 0;exact Pf 4;intro t w a hf b hd hw;have aN:=Sv 14 b 1;have aO:=Sv 15 b 2;exact .q (g:=⟨rfl,a,Qa⟩);exact Pv 16 3;intro t w a hf b hd hw;have g:=(Cb f (p+k*6+4) ((z.T (a.M B)).B f X)).T L.1;exact .l 17 (b 4 _ rfl rfl) g ⟨rfl,a,Qa⟩;intro t w a hf b hd hw;have aP:=Sv 18 b 5;have ap:=a.size;replace a:=Hq a;refine .c (ae w (z.T (a.o.M B))) ?_;rintro e w' ⟨s,rfl,hr,P⟩;exact⟨_,rfl,⟨trivial,a.o.T (P.M a.o.size),Qc ⟨s,rfl,hr⟩<|Qd (λu ⟨m,e,hr⟩=>⟨m,e,hr⟩)<|Qb<|Qe⟩⟩;exact Pf 0;exact Pf 4;intro t w a hf b hd hw;have aQ:=Sv 20 b 7;have aR:=Sv 21 b 8;exact .q (g:=⟨rfl,a,Qa⟩);exact Pv 22 9;intro t w a hf b hd hw;have g:=(Cb f (p+k*6+5) ((z.T (a.M B)).B f X)).T L.2;exact .l 23 (b 10 _ rfl rfl) g ⟨rfl,a,Qa⟩;intro t w a hf b hd hw;have aS:=Sv 24 b 11;have ap:=a.size;replace a:=Hq a;refine .c (af w (z.T (a.o.M B))) ?_;rintro e w' ⟨m,rfl,hr,P⟩;exact⟨_,rfl,⟨trivial,a.o.T (P.M a.o.size),Qd (λu ⟨s,e,hr⟩=>⟨s,e,hr⟩)<|Qc ⟨m,rfl,hr⟩<|Qb<|Qe⟩⟩;intro t w a hf b hd hw;have aT:=Sv 13 b 0;obtain⟨s,aq,aU⟩:=hd _ (Mm 0 rfl) _ rfl rfl;have aV:=Sl 19 aq;obtain⟨m,ar,aW⟩:=hd _ (Mm 1 rfl) _ rfl rfl;have aX:=Sl 25 ar;exact .q (g:=⟨trivial,a,Q2<|Qc ⟨max (max r s) m,by show Value.int IntKind.i64 _=Value.int IntKind.i64 _;congr 1;(repeat' split)<;>omega,LA I⟩<|Qa⟩);intro t w a hf b hd hw;obtain⟨j,au,Q⟩:=hd _ (Mm 2 rfl) _ rfl rfl;have aY:=Sl 26 au;refine .h λK hK=>?_;go_simp;exact hK (⟨j,rfl,Q,a⟩);intro av aZ aw ax;obtain⟨j,E,Q,ay⟩:=ax;replace E:av 14=.int .i64 (j:Int):=E;simp only[je,Act.put,JL,JP,JO,E];have az:=(z.T (ay.M B))
   clear aw E;go_wp2_with fail;go_roundw;case rel=>exact⟨k+1,j,LC,LI,rfl,Q,az⟩
   case measure=>simp[intOf];omega
  obtain rfl:k=n:=LC;have aA:IntKind.i64.wrap ((r:Int)+1)=((r+1:Nat):Int):=(by have:=I;simp[IntKind.wrap,IntKind.bits,IntKind.signed];omega);go_wp2_with fail;go_ret;exact⟨r+1,by first|rfl|simp[aA],LA I,z⟩
theorem wT:∀d,FM d
 |0=>ux 0 λd' e=>LC
 |d+1=>ux (d+1) λd' e=>(Nat.succ.inj e)▸wT d
theorem yM:wE 273:=by
 intro D w b o d s r hL z hr A S j;have E:=A.five;obtain⟨d',v1,v2,T,rfl,rfl,f,_,_⟩:=hr.open;obtain⟨_,F,_⟩:=A;obtain⟨U,c,rfl,hc⟩:=f.form;obtain⟨n,B⟩:=Xq s.jy.length;rw[<-B]at f hc z E;have V:=z 3 _ rfl
 go_enter func273,ntmps273
 go_wp2_with fail;go_loopw [10] (λi wr=>∃k:Nat,k<=n/\i=k/\Below w w wr) (λi _=>n-(intOf i).toNat);case atStart=>exact⟨0,JV _,rfl,Below.refl _ _⟩
 case round=>
  obtain⟨k,W,rfl,l⟩:=hrel;have X:=l.size;by_cases Y:k<n
  .obtain⟨x,hx⟩:∃x,s.jy[k]?=some x:=Gx (LA B);obtain⟨C,Z,r,rfl,G,hr,m⟩:=(f.iV (ki.ok .u8 De) (λq g=>l.B q (j q g))).jr (ki.ok .u8 De) k x hx;have aa:C<wr:=LA (j C G);have t:=F x (JM hx);have I:=t.two;have ab:De=6:=rfl;obtain⟨p,v,J,rfl,f⟩:=hr.open;obtain⟨u,y,rfl,_⟩:=f.form;have K:=m 0 _ rfl;have ac:=m 1 _ rfl;have ad:=m 2 _ rfl;have ae:=m 3 _ rfl;rw[JT]at K;have L:∀a∈x.args,kB p a:=(by rw[J]at t;exact t.2);have M:=f.iV (ki.ok .u8 p) (w':=wr.alloc (.cells #[.int .u8 x.op,tx x.name,x.n,.slice u x.args.length y] 275)) (λq g=>JY _ _ (LA (j q g)));have N:=(sM p D _ x.op x.n x.name u _ y x.args M I L LC (λq g=>by rw[JN];have:=j q g;omega))
   have O:=(l.alloc LC (.cells #[.int .u8 x.op,tx x.name,x.n,.slice u x.args.length y] 275))
   have af:(0:Int)<=(k:Int):=LC;have ag:(k:Int)<(n:Int):=LC;have ah:p<=5:=LC;go_wp2_with fail;refine N.M ?_;rintro e ai ⟨P,rfl,aj,Q⟩;have R:=(O.T (Q.M (by rw[JN];omega)))
   have ak:¬(8:Int)<(P:Int):=LC;go_wp2_with fail;go_roundw;case rel=>exact⟨k+1,LC,LI,R⟩
   case measure=>simp[intOf];omega
  obtain rfl:k=n:=LC;go_wp2_with fail;go_ret;exact⟨rfl,l⟩
theorem vM:kv 273:=λ_ _=>LF
theorem CD(w:World)(h:Hd)(a:Option Addr)(b c1:Nat)(c:Option Addr)(d c2:Nat):Below w w (w.alloc (.cells #[tx h.name,.slice a b c1,.slice c d c2] 189)):=Ba _ _
theorem qX:Ag 218:=by
 intro i w j d c1 b c c2 h A B C a hS;have L:d<=2:=by rw[<-B.len.1];exact a.Cx
 have M:¬(4:Int)<(d:Int):=LC
 have m:=CD w h j d c1 b c c2;have n:=(λ(f:World) (p:Below w w f)=>C.iV (jH.ok .u8 Ds) (λq s=>p.B q (hS q s)))
 have t:=(λ(f:World) (p:Below w w f) q (s:i q)=>JI (hS q s) p.size)
 have y:=JK w (.cells #[tx h.name,.slice j d c1,.slice b c c2] 189);have u:jw Ds h.body<=40:=J9 a.cnt LC;have N:=a.cnt;have v:Ds=4:=rfl
 go_enter func218,ntmps218
 go_wp2_with fail;refine(wS Ds i _ b c c2 h.body (n _ m) a.yo a.body u (by rw[v];omega) (t _ m)).M ?_;have z:w<(w.alloc (.cells #[tx h.name,.slice j d c1,.slice b c c2] 189)).heap.size:=LG
 generalize w.alloc (.cells #[tx h.name,.slice j d c1,.slice b c c2] 189)=O at*;rintro e f ⟨r,rfl,hr,k⟩;have P:¬(40:Int)<(r:Int):=LA u
 have l:=(m.T (k.M LC))
 have Q:=k.size;obtain⟨⟨D,E,F⟩,_⟩:=jz ((k.B _ z).T y);have G:=((k.B _ z).T y)
 go_wp2_with fail;refine(wT Ds i _ b c c2 h.body (n _ l) a.yo a.body u (by rw[v];omega) (t _ l)).M ?_;rintro e R ⟨I,rfl,S,x⟩;have T:¬(8:Int)<(I:Int):=LA v
 have g:=(l.T (x.M l.size))
 have J:w.heap.size<f:=LC
 have U:=x.size;obtain⟨⟨D,E,F⟩,_⟩:=jz ((x.B _ J).T G);go_wp2_with fail;refine(pd 273 vM yM Ds i _ b c c2 h.body (A.to g) (n _ g) a.yo a.body (t _ g)).M ?_;rintro e V ⟨rfl,K⟩;go_wp2_with fail;go_ret;exact⟨rfl,g.T (K.M g.size)⟩
theorem yN:Ag 219:=by
 intro C w m a c1 b c c2 h d u D f n;have s:=u.len;have T:a<=2:=by rw[<-s.1];exact f.Cx
 have U:=s.2;have y:=CD w h m a c1 b c c2;have E:=(λ(g:World) (t:Below w w g)=>u.iV jk.ok (λq j=>t.B q (n q j)))
 have F:=(λ(g:World) (t:Below w w g)=>D.iV (jH.ok .u8 Ds) (λq j=>t.B q (n q j)))
 have G:=s.1;have z:=JK w (.cells #[tx h.name,.slice m a c1,.slice b c c2] 189);have I:w<(w.alloc (.cells #[tx h.name,.slice m a c1,.slice b c c2] 189)).heap.size:=LG
 go_enter func219,ntmps219
 go_wp2_with fail;refine(lr _ f.name _ (d.names.iU y d.low.1)).M ?_;rintro e g ⟨rfl,rfl⟩;generalize w.alloc (.cells #[tx h.name,.slice m a c1,.slice b c c2] 189)=A at*;obtain⟨⟨J,K,L⟩,_⟩:=jz z;go_wp2_with fail;go_loopw [3,12] (λv i wr=>∃k:Nat,k<=a/\i=k/\v=.bool true/\Below A A wr) (λ_ i _=>a-(intOf i).toNat);case atStart=>exact⟨0,JV _,rfl,rfl,Below.refl _ _⟩
 case round=>
  obtain⟨k,V,rfl,rfl,p⟩:=hrel;have l:=(y.T (p.M LC))
  have W:=p.size;have M:=((p.B _ I).T z)
  by_cases X:k<a
  .obtain⟨x,hx⟩:∃x,h.params[k]?=some x:=Gx (LA G);obtain⟨B,Y,r,rfl,N,hr,O⟩:=(E _ l).jr jk.ok k x hx;have P:r=[tx x]:=hr;subst P;have Z:B<wr:=LA (n B N);have Q:=O 0 _ rfl;rw[JT,Kk]at Q;have R:=(lr x (f.params x (JM hx)) wr (d.names.iU l d.low.1))
   have aa:(0:Int)<=(k:Int):=LC;have ab:(k:Int)<(a:Int):=LC;go_wp2_with fail;refine R.M ?_;rintro e g ⟨rfl,rfl⟩;go_wp2_with fail;go_roundw;case rel=>exact⟨k+1,LC,LI,rfl,p⟩
   case measure=>simp[intOf];omega
  obtain rfl:k=a:=LC;obtain⟨⟨J,K,L⟩,_⟩:=jz M;have ac:w.heap.size<wr:=LC;go_wp2_with fail;refine(pd 221 rC tV Ds C _ b c c2 h.body (d.to l) (F _ l) f.yo f.body (λq j=>LA (n q j))).M ?_;rintro e ad ⟨rfl,S⟩;go_wp2_with fail;go_ret;exact⟨rfl,l.T (S.M LC)⟩
theorem rO.inc{b w d f g sc i}{j k:Nat}{l}{m cv:Nat}{n}{p q:Nat}{a cb:Nat}{r s t u v x y z}{A:Nat}(h:rO b w d f g sc i j k l m cv n p q a cb r s t u v x y z A){c:Nat}:rO b (w.setCell ⟨a,8,none⟩ (.int .i64 ((c:Int)+1))) d f g sc i j k l m cv n p q a cb r s t u v x y z (c+1):=
 h.but (.set (.inl rfl)) (h.yj.iV (J0 _ _ _ _ (λe=>h.ne e.symm))) ⟨iW h.bd.jr⟩
theorem EE(x a:Lk)(c:Nat)(w:World)(e:w.cell? ⟨c,0,none⟩=some (tx a.a))(f:w.cell? ⟨c,1,none⟩=some (tx a.b))(g:c<w)(d:(x.a,x.b)≠(a.a,a.b)):
  Calls prog 233 #[.agg #[tx x.a,tx x.b,x.tL],.pointer (some ⟨c,0,none⟩)] w (jf (.bool false) w):=by
 have i:=kP x.a;have j:=kP x.b;have k:=kP a.a;have l:=kP a.b;by_cases b:x.a=a.a
 .have m:(x.b==a.b)=false:=by rw[Bool.eq_false_iff];intro h;exact d (by rw[b,eq_of_beq h])
  have b:(x.a==a.a)=true:=by simp[b]
  go_enter func233,ntmps233
  go_wp2;go_ret;exact⟨rfl,Ba _ _⟩
 .have b:(x.a==a.a)=false:=by rw[Bool.eq_false_iff];intro h;exact b (eq_of_beq h)
  go_enter func233,ntmps233
  go_wp2;go_ret;exact⟨rfl,Ba _ _⟩
theorem xF(p w s)(n c:Nat)(xs name)(b:Nat)(t:jc (kL .u8) p w (.slice s n c) xs)(U:n<=1000)(hS:∀q,p q->q<w)(hn:w.cell? ⟨b,1,none⟩=some (tx name))(J:b<w)(hex:∃x∈xs,x.name=name):
  Calls prog 299 #[.slice s n c,.func (.func 300) #[] #[.pointer (some ⟨b,0,none⟩)]] w λe w'=>∃r:Nat,r<n/\e=.returned (.int .i64 (r:Int))/\Below w w w':=by
 have K:=Bv;unfold kv at K;have u:=t.len;have hc:=u.2;have v:=u.1;have L:=t;have y:=hS;have M:=hn;have N:=hex
 go_enter func299,ntmps299
 go_wp2;go_loopw [8] (λi wr=>∃k:Nat,k<=n/\i=k/\(∀a x,a<k->xs[a]?=some x->x.name≠name)/\Below w w wr) (λi _=>n-(intOf i).toNat);case atStart=>exact⟨0,JV _,rfl,λa x j=>LC,Below.refl _ _⟩
 case round=>
  obtain⟨k,V,rfl,z,f⟩:=hrel;have A:=f.size;have O:=((Cb b 1 (f.B b J)).T M)
  by_cases P:k<n
  .obtain⟨x,B⟩:∃x,xs[k]?=some x:=Gx (LA v);obtain⟨C,W,r,rfl,Q,hr,l⟩:=(L.iV (kL.ok _) (λq d=>f.B q (y q d))).jr (kL.ok _) k x B;obtain⟨D,E,c1,F,G,c2,rfl,_,_⟩:=hr.nH;have R:=l 0 _ rfl;have X:=l 1 _ rfl;have Y:=l 2 _ rfl;rw[JT]at R;have Z:C<wr:=LA (y C Q);have I:=(EI x.name name (.slice D E c1) (.slice F G c2) rfl rfl D E c1 F G c2 rfl rfl b wr O LC)
   cases d:(x.name==name)
   .go_wp2_with (refine I.M ?_;rw[d];rintro e S ⟨rfl,g⟩;have m:=(f.T (g.M A));clear g);go_roundw;case rel=>refine⟨k+1,LC,LI,λa T j hy=>?_,m⟩;by_cases e:a=k;rw[e,B]at hy;injection hy with hy;rw[<-hy];intro h;rw[h]at d;simp at d;exact z a T LC hy
    case measure=>simp[intOf];omega
   go_wp2_with (refine I.M ?_;rw[d];rintro e S ⟨rfl,g⟩;have m:=(f.T (g.M A));clear g);go_ret;exact⟨k,P,rfl,m⟩
  obtain⟨x,hx,e⟩:=N;obtain⟨a,j⟩:=List.getElem?_of_mem hx;exact absurd e (z a x (LB ((J6.1 j).1) v) j)
theorem oA.get{c a n:Nat}{w}(h:oA c a n w){i:Nat}(hi:i<n):∃x:Int,w.cell? ⟨a,i,none⟩=some (.int .i64 x)/\w.frozen? ⟨a,i,none⟩=false/\∀b:Int,oA c a n (w.setCell ⟨a,i,none⟩ (.int .i64 b)):=by obtain⟨l,d,hr⟩:=h.row;obtain⟨x,hx⟩:∃x,l[i]?=some x:=Gx LC;refine⟨x,iT hr i _ (Df hx),iY hr i,λb=>⟨(J0 _ _ _ _ h.ne).T h.var,⟨l.set i b,by simpa using d,?_⟩,h.ne⟩⟩;rw[<-Bz];exact iW hr
theorem qs(a b n i:Nat)(v:Int)(w)(h:oA a b n w)(hi:i<n)(hn:n<=1000000):
  Calls prog 283 #[.int .i64 (i:Int),v,.pointer (some ⟨a,0,none⟩)] w (Gc a b n w):=by
 obtain⟨x,d,e,hs⟩:=h.get hi;have f:=iT h.var 0 _ rfl;have g:=(JJ.1 h.var).1;have j:b<w:=by obtain⟨l,_,hr⟩:=h.row;exact(JJ.1 hr).1
 have c:=(hs v)
 by_cases hx:x<0;iterate 2
  .go_enter func283,ntmps283
   go_wp2;go_ret;exact⟨_,rfl,c,jb _ _ _ _⟩
theorem kT.get{T w}{b n:Nat}(h:kT T w b n){i:Nat}(hi:i<n):(∃u,w.cell? ⟨b,i,none⟩=some u)/\w.frozen? ⟨b,i,none⟩=false:=by obtain⟨c,a,d,_⟩:=h;exact⟨⟨_,iT a i _ (KW LC)⟩,iY a i⟩
theorem EL:(prog.info? 248).map (λi=>(i.zero,i.size,i.bytes))=some (some (.agg #[Nl,Nl,Nl]),3,72):=LF
theorem Gj:(prog.info? 126).map (λi=>(i.zero,i.size,i.bytes))=some (some (Nl),1,24):=LF
def Jh:Value:=.agg #[Em,Em,.int .i64 0]
theorem BK:kv 119:=λ_ _=>LF
theorem uE:kv 117:=λ_ _=>LF
theorem uF:kv 115:=λ_ _=>LF
theorem AA(n:Nat):lT .u8 (madeCells #[.int .u8 0] n) 0 n:=λi hi=>⟨0,by simp[madeCells,hi,Nat.mod_one]⟩
theorem vz:prog.arrayLen 328=64:=LF
theorem CV:prog.underlying 328=some (.array (prog.arrayLen 328) (prog.elem 328)):=LF
theorem Gp(x:Int):0<=IntKind.u64.wrap x:=LH
def IG:Value->Nat
 | .slice _ n _=>n
 |_=>0
def FX:Value->Int
 | .int _ x=>x
 |_=>0
end Go.Proofs.YtidmdcckbdmblaaGreatDoor
namespace jJ
theorem xI(l:List (List UInt8)){hs:List Hd}{a:Nat}{x:Hd}(h:hs[a]?=some x):kH l (hs.take (a+1))=nu (kH l (hs.take a)) x.name:=by rw[List.take_add_one,h];simp[kH,List.foldl_append]
theorem xJ(l:List (List UInt8)){vs:List (List Hd)}{a:Nat}{x:List Hd}(h:vs[a]?=some x):jL l (vs.take (a+1))=kH (jL l (vs.take a)) x:=by rw[List.take_add_one,h];simp[jL,List.foldl_append]
end jJ
namespace Go.Proofs.YtidmdcckbdmblaaGreatDoor
open Go.RowKit jJ mX Go.Proofs.Tryz
def cmpL:List Int->List Int->Int
 |[],[]=>0
 |[],_::_=> -1
 |_::_,[]=>1
 |x::xs,y::ys=>if Lib.compareInt x y=0 then cmpL xs ys else Lib.compareInt x y
theorem nR{x a:Int}:Lib.compareInt x a=0↔x=a:=by unfold Lib.compareInt;split;simp;omega;split;simp;omega;simp;omega
theorem uL:∀{xs ys:List Int},cmpL xs ys=0↔xs=ys
 |[],[]=>by simp[cmpL]
 |[],_::_=>by simp[cmpL]
 |_::_,[]=>by simp[cmpL]
 |x::xs,y::ys=>by
  unfold cmpL;split
  rename_i h
  rw[uL,nR.1 h];simp
  rename_i h
  simp only[h,KX,false_iff,not_and];exact λe=>absurd (nR.2 e) h
theorem uM:∀{xs ys:List Int} {k:Nat},k<=xs.length->xs.take k=ys.take k->cmpL xs ys=cmpL (xs.drop k) (ys.drop k)
 |xs,ys,0,_,_=>by simp
 |[],_,k+1,h,_=>by simp at h
 |x::xs,[],k+1,_,h=>by simp at h
 |x::xs,y::ys,k+1,h,he=>by simp only[K3,KX]at he;obtain⟨rfl,he⟩:=he;rw[show cmpL (x::xs) (x::ys)=cmpL xs ys from by rw[cmpL,Kn (nR.2 rfl)]];exact uM (by simpa using h) he
theorem vT{xs ys:List Int}{k:Nat}{x:Int}(h:xs.take k=ys.take k)(hx:xs[k]?=some x)(hy:ys[k]?=some x):xs.take (k+1)=ys.take (k+1):=by rw[KL,KL,h,hx,hy]
theorem xg(i:Nat):Lib.itoa (i:Int)=Lib.decDigits i:=by unfold Lib.itoa;rw[Ka LC,Kw]
theorem jm(a b:List UInt8):(⟨a.toArray⟩:ByteArray)++⟨b.toArray⟩=⟨(a++b).toArray⟩:=by apply ByteArray.ext;simp[ByteArray.data_append]
theorem DC(x a:Int)(xs:List Int):Lib.join ((x::a::xs).map Lib.itoa) [44,32]=Lib.itoa x++([44,32]++Lib.join ((a::xs).map Lib.itoa) [44,32]):=by rw[Ks,Lib.join_cons,Ks,Lib.join_cons];simp[Lib.joinTail]
end Go.Proofs.YtidmdcckbdmblaaGreatDoor
namespace nw
open jJ
def src:List UInt8:=[102,108,101,101,116,32,102,32,123,32,102,108,97,103,32,115,108,111,119,32,61,32,102,97,108,115,101,59,32,99,111,109,112,111,110,101,110,116,32,102,114,111,110,116,32,123,32,111,110,32,104,40,41,32,123,32,115,101,110,100,32,98,97,99,107,46,103,101,116,40,49,44,32,55,41,59,32,125,32,125,32,99,111,109,112,111,110,101,110,116,32,98,97,99,107,32,123,32,111,110,32,103,101,116,40,105,44,32,106,41,32,123,32,125,32,125,32,125]
end nw
namespace Go.Proofs.YtidmdcckbdmblaaGreatDoor
open jJ nw Go.Proofs.Tryz
def Fu:Hd:=⟨[103,101,116],[[105],[106]],[]⟩
def nc:Co:=⟨[98,97,99,107],[],[[Fu]]⟩
end Go.Proofs.YtidmdcckbdmblaaGreatDoor
namespace Go.Proofs.YtidmdcckbdmblaaGreatDoor
open Go.RowKit jJ mX nw Go.Proofs.Tryz
def CJ:List UInt8:=[116,52,32,98,97,99,107,58,32,109,101,115,115,97,103,101,32,48,32,102,114,111,109,32,102,114,111,110,116,32,103,101,116,40,49,44,32,55,41]
def Aj:List UInt8:=[116,52,32,111,112,101,114,97,116,111,114,58,32,102,108,97,103,32,115,108,111,119,32,61,32,116,114,117,101,32,40,99,104,111,105,99,101,32,48,41]
end Go.Proofs.YtidmdcckbdmblaaGreatDoor
namespace Go.Proofs.YtidmdcckbdmblaaGreatDoor.narrateNil
open Go.ChangeShapes Go.WideShapes Go.ChangeAt Go.RowKit Go.Proofs.Tryz
theorem C3:laidOutB Tryz.pinned.checked.prog=true:=by kernel_rfl
theorem GX:mapsRowed Tryz.pinned.checked.prog=true:=by kernel_rfl
theorem Cm:(Rows.narrateNilRow.inPlace==Tryz.pinned.checked.prog.inPlace 7)=true:=by kernel_rfl
theorem HN:(Rows.narrateNilRow.unfollowed==Tryz.pinned.checked.prog.unfollowed 7)=true:=by kernel_rfl
theorem HP:(Rows.narrateNilRow.recurses==Tryz.pinned.checked.prog.recurses 7)=true:=by kernel_rfl
theorem Fh:(Rows.narrateNilRow.named==Tryz.pinned.checked.prog.varsNamed 7)=true:=by kernel_rfl
theorem yf:(Rows.narrateNilRow.plainKeys==Tryz.pinned.checked.prog.plainKeys)=true:=by kernel_rfl
theorem Fi:Tryz.pinned.checked.prog.stopsHeard=true:=by kernel_rfl
theorem HQ:Tryz.pinned.checked.prog.mayEnter=true:=by kernel_rfl
theorem Eb:(Rows.narrateNilRow.lifted==Tryz.pinned.checked.prog.liftsFinal)=true:=by kernel_rfl
theorem GY:(Tryz.pinned.checked.prog.make==some Rows.narrateNilRow.make)=true:=by kernel_rfl
theorem Fj:true=Tryz.pinned.checked.prog.looks []:=by kernel_rfl
end Go.Proofs.YtidmdcckbdmblaaGreatDoor.narrateNil
