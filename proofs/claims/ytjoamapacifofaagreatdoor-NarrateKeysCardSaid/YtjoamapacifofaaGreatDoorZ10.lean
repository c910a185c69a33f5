import Derived.Test.YtjoamapacifofaaGreatDoorZ5
import Derived.Test.YtjoamapacifofaaGreatDoorZ6
import Derived.Test.YtjoamapacifofaaGreatDoorZ7
import Derived.Test.YtjoamapacifofaaGreatDoorZ8
set_option maxRecDepth 1000000
set_option maxHeartbeats 32000000
set_option linter.all false
namespace Go.Proofs.YtjoamapacifofaaGreatDoor
open RowKit Go.Proofs.Tryz kT Maps nu pG ChangeShapes WideShapes ChangeAt
def Bi(S)(c:Nat)(sc)(lD:nW sc)(d left:Nat)(w)(hd:d+0=3)(h:kr S w c sc left):Calls prog 134 #[.pointer c,d] w (mE S c sc left (0+1) w):=by
 have y:=h.lt;have hS:∀b,S b->b<w:=λb hb=>(h.kX b hb).2;have aB:=lD.params;have aC:=lD.kC;have F:∀n:Nat,0<n->n<=1000->∀W,kr S W c sc left->Calls prog 86 #[.pointer c,n] W (mW S c sc left n W):=λn X Y W Z=>mX S c sc left n W Z X Y;have aa:=h.jQ (Ba w (.cells qn 193));have ab:=O7 w (.cells qn 193) (some c)
 go_enter func134,ntmps134
 go_wp2_with fail;apply(F 12 SE SE _ aa).M;rintro e q ⟨k,aD,rfl,s,M⟩;have z:q.heap[w.heap.size]?=some (.cells qn 193):=(M.B w SG (λe=>by injection e with e;omega)).T (O2 w _);have A:=jR ab M;have ac:=M.size;rw[O4]at ac;have N:w.heap.size<q:=SE
 obtain⟨⟨g,i,j,l⟩,⟨G,I,J,K⟩⟩:=kn z;obtain⟨aE,aF,aG,aH,ad,aI⟩:=s.cells;obtain rfl:d=3:=SE
 by_cases c1:k<2
 .go_wp2_with fail;apply(F 9 SE SE _ s).M;rintro e t ⟨v,hv,rfl,u,a⟩;have x:=(a.B w SE (λe=>by injection e with e;omega)).T z;obtain⟨⟨g,i,j,l⟩,⟨G,I,J,K⟩⟩:=kn x;have m:=jR A a;have O:=a.size;have B:w.heap.size<t:=SE;go_wp2_with fail;refine Pa (v:=.agg #[.int .i64 (1),tx [],.int .i64 ((v:Int)),Nl]) ?_ rfl (nB (op:=1) (name:=[]) (n:=(v:Int)) (args:=[]) u m y hS (jT.nil _ _ _) (.inl ⟨rfl,rfl,Rn _,(show(v:Int)<=8 from SE),rfl⟩) _ _ _ _);simp[results,Tryz.results134,go_sem,g,i,j,l]<;>rfl
 by_cases c2:5<k
 .go_wp2_with fail;apply(F 9 SE SE _ s).M;rintro e t ⟨v,hv,rfl,u,a⟩;have x:=(a.B w SE (λe=>by injection e with e;omega)).T z;obtain⟨⟨g,i,j,l⟩,⟨G,I,J,K⟩⟩:=kn x;have m:=jR A a;have O:=a.size;have B:w.heap.size<t:=SE;go_wp2_with fail;refine Pa (v:=.agg #[.int .i64 (1),tx [],.int .i64 ((v:Int)),Nl]) ?_ rfl (nB (op:=1) (name:=[]) (n:=(v:Int)) (args:=[]) u m y hS (jT.nil _ _ _) (.inl ⟨rfl,rfl,Rn _,(show(v:Int)<=8 from SE),rfl⟩) _ _ _ _);simp[results,Tryz.results134,go_sem,g,i,j,l]<;>rfl
 by_cases c3:k<4
 .go_wp2_with fail;apply(nT S c sc left _ s lD).M;rintro e t ⟨v,hv,rfl,u,a⟩;have x:=(a.B w SE (λe=>by injection e with e;omega)).T z;obtain⟨⟨g,i,j,l⟩,⟨G,I,J,K⟩⟩:=kn x;have m:=jR A a;have O:=a.size;have B:w.heap.size<t:=SE;go_wp2_with fail;refine Pa (v:=.agg #[.int .i64 (5),tx (nm 120 v),.int .i64 (0),Nl]) ?_ rfl (nB (op:=5) (name:=(nm 120 v)) (n:=0) (args:=[]) u m y hS (jT.nil _ _ _) (.inr (.inr (.inl ⟨rfl,.inl ⟨v,hv,rfl⟩,rfl,rfl⟩))) _ _ _ _);simp[results,Tryz.results134,go_sem,g,i,j,l]<;>rfl
 by_cases c4:k=4
 .subst c4;by_cases hp:sc.params=0
  .have ae:((sc.params:Int)==0)=true:=(by rw[P9];omega);go_wp2_with fail;apply(nT S c sc left _ s lD).M;rintro e t ⟨v,hv,rfl,u,a⟩;have x:=(a.B w SE (λe=>by injection e with e;omega)).T z;obtain⟨⟨g,i,j,l⟩,⟨G,I,J,K⟩⟩:=kn x;have m:=jR A a;have O:=a.size;have B:w.heap.size<t:=SE;go_wp2_with fail;refine Pa (v:=.agg #[.int .i64 (5),tx (nm 120 v),.int .i64 (0),Nl]) ?_ rfl (nB (op:=5) (name:=(nm 120 v)) (n:=0) (args:=[]) u m y hS (jT.nil _ _ _) (.inr (.inr (.inl ⟨rfl,.inl ⟨v,hv,rfl⟩,rfl,rfl⟩))) _ _ _ _);simp[results,Tryz.results134,go_sem,g,i,j,l]<;>rfl
  have af:0<sc.params:=SE;have ae:((sc.params:Int)==0)=false:=(by rw[O8];omega);have ag:∀W,Calls prog 27 #[.int .u8 112,.int .i64 2] W (lY (pW 112 2) W):=λW=>mM 112 2 W SE;have ah:=F;have ai:kr S q.drew c sc left:=s.jQ (Below.refl q q).drew;have aj:c<q:=SE;go_wp2_with fail;go_region_with (first|(go_at_call 27;refine Calls.M (ag _) ?_;rintro e ak ⟨vN,he,P,C⟩;have al:=(ai.jQ C);obtain⟨L,Q,cN,R,am,an,ao,aJ,T⟩:=P.ny (by rw[ld];omega);rw[ld]at R ao;subst R he;have ap:=T;have D:=(jV C);have aK:=(C.cell (p:=⟨c,5,none⟩) aj).T ad;have aL:q<=L:=am;have aq:=((C.B w N).T z);have U:=O1 N C.size;clear P T)|(go_at_call 86;refine Calls.M (ah sc.params af SE _ al) ?_;rintro e ar ⟨f,au,rfl,V,E⟩;have aM:(0:Int)<=(f:Int):=SE;have aN:(f:Int)<2:=SE;have hx:ar.cell? ⟨L,Q+f,none⟩=some (tx (nm 112 f)):=(Cb L (Q+f) (E.B L an (λe=>by injection e with e;omega))).T (ap f (nm 112 f) (oc 112 2 f SE));have r:=(E.B w U (λe=>by injection e with e;omega)).T aq;have av:=jN r 0;have aw:=jN r 1;have ax:=jN r 2;have ay:=jN r 3;have aO:=jS r 0;have aP:=jS r 1;have aQ:=jS r 2;have aR:=jS r 3;have az:=E;have aA:=V;have B:=O1 U E.size;clear E V));all_goals
   have m:=(jR (jR A (kg (show q.grownBy ak none from⟨D.os,D.tape,D.output,D.size,D.B⟩) _)) az)
   go_wp2_with fail;refine Pa (v:=.agg #[.int .i64 5,tx (nm 112 f),.int .i64 0,Nl]) ?_ rfl (nB (op:=5) (name:=nm 112 f) (n:=0) (args:=[]) aA m y hS (jT.nil _ _ _) (.inr (.inr (.inl ⟨rfl,.inr ⟨f,au,rfl⟩,rfl,rfl⟩))) _ _ _ _);simp[results,Tryz.results134,go_sem,av,aw,ax,ay]
 obtain rfl:k=5:=SE
 go_wp2_with fail;have B:=N;refine Pa (v:=.agg #[.int .i64 (4),tx [],.int .i64 (0),Nl]) ?_ rfl (nB (op:=4) (name:=[]) (n:=0) (args:=[]) s A y hS (jT.nil _ _ _) (.inr (.inl ⟨rfl,rfl,rfl,rfl⟩)) _ _ _ _);simp[results,Tryz.results134,go_sem,g,i,j,l]<;>rfl
def pR{S}{j:Nat}{sc}{D left left':Nat}{T l m n p q r}{o:Obj}{kind:Int}{name hd:List UInt8}{c d e:Option Addr}{f c1 g c2 i c3:Nat}{w a}{kA:List Ex}{th el:List St}(k:oX S j sc left' T #[l,m,n,p,q,r] w a)
  (s:jT (ko .i64 De) (New w (a.alloc o)) (a.alloc o) (.slice c f c1) kA) (t:jT (kp .i64 D) (New w (a.alloc o)) (a.alloc o) (.slice d g c2) th) (u:jT (kp .i64 D) (New w (a.alloc o)) (a.alloc o) (.slice e i c3) el) (he:mf sc (D+1) (.mk kind name hd kA th el)) (v:ku D th+ku D el+left'<=left):
  pJ S j sc D left w (.returned (.agg (pe kind name hd c f c1 d g c2 e i c3))) ((lh a w (.int .i64 kind) (tx name) (tx hd) (.slice c f c1) (.slice d g c2) (.slice e i c3)).alloc o):=by
 have b:=k.lt;have h:=vG (left:=left) ((k.alloc o).lh (.int .i64 kind) (tx name) (tx hd) (.slice c f c1) (.slice d g c2) (.slice e i c3)) (nd (ko.ok _ _) s _ _ _ _ _ _) (nd (kp.ok _ _) t _ _ _ _ _ _) (nd (kp.ok _ _) u _ _ _ _ _ _) he v;unfold lh at h⊢;rw[PO o _ _ _ b,PO o _ _ _ (by simp only[O6];exact b),PO o _ _ _ (by simp only[O6];exact b),PO o _ _ _ (by simp only[O6];exact b),PO o _ _ _ (by simp only[O6];exact b),PO o _ _ _ (by simp only[O6];exact b)]at h;exact h
structure pg(hh m b8 b9:Nat)(op a b n:Int)(t u:ByteArray)(q:Int)(w x:World):Prop where
 ht:qY (hh+1) hh (m+1) x
 ins:x.heap[b8]?=some (.cells #[.int .u8 op,a,b,n] 323)
 row:∃p:Int,x.heap[b9]?=some (.cells #[.string t,.string u,p,q] 325)
 jQ:Below hh w x
 kX:hh+1<b8
 Io:b8<b9
def qY.other{hb a n z i:Nat}{u w}(h:qY hb a n w)(b:hb≠z)(c:a≠z):qY hb a n (w.setCell ⟨z,i,none⟩ u):=by obtain⟨l,d,hr⟩:=h.row;exact⟨(Po _ _ _ _ b).T h.var,⟨l,d,(Po _ _ _ _ c).T hr⟩,h.ne⟩
def pg.Ni{e m d c:Nat}{op a b n:Int}{t u}{q:Int}{w x}(h:pg e m d c op a b n t u q w x)(f:Int):pg e m d c op a b n t u q w (x.setCell ⟨c,2,none⟩ (.int .i64 f)):=by obtain⟨p,hp⟩:=h.row;have g:=h.kX;have i:=h.Io;exact⟨h.ht.other SE SE,(Po _ _ _ _ (show d≠c from SE)).T h.ins,⟨f,jO hp⟩,jX (z:=c) h.jQ SE,g,i⟩
def pg.to{c m d e:Nat}{op a b n:Int}{t u}{q:Int}{w x f}(h:pg c m d e op a b n t u q w x)(hb:Below x x f):pg c m d e op a b n t u q w f:=by obtain⟨p,hp⟩:=h.row;exact⟨h.ht.jQ hb,(hb.B _ (O3.1 h.ins).1).T h.ins,⟨p,(hb.B _ (O3.1 hp).1).T hp⟩,⟨hb.os.T h.jQ.os,hb.tape.T h.jQ.tape,hb.output.T h.jQ.output,Pj h.jQ.size hb.size,λz hz=>(hb.B z (SC ((O3.1 h.ht.var).1))).T (h.jQ.B z hz)⟩,h.kX,h.Io⟩
def pg.grown{c m g i:Nat}{op a b n:Int}{t u}{q:Int}{w x d}(h:pg c m g i op a b n t u q w x)(j:qY (c+1) c (m+1) d)(hg:x.grownBy d (some c)):pg c m g i op a b n t u q w d:=by obtain⟨p,hp⟩:=h.row;have k:=h.kX;have l:=h.Io;have f:∀z,z≠c->¬some z=some c:=λz hz e=>hz (by injection e);exact⟨j,(hg.B _ (O3.1 h.ins).1 (f _ SE)).T h.ins,⟨p,(hg.B _ (O3.1 hp).1 (f _ SE)).T hp⟩,⟨hg.os.T h.jQ.os,hg.tape.T h.jQ.tape,hg.output.T h.jQ.output,Pj h.jQ.size hg.size,λz hz=>(hg.B z (SC ((O3.1 h.ht.var).1)) (f _ SE)).T (h.jQ.B z hz)⟩,h.kX,h.Io⟩
def yP.jP{S w w'}{cb:Nat}{b c d params}(h:yP S w cb b c d params)(a:∀q,S q->w'.heap[q]?=w.heap[q]?)(hs:w.heap.size<=w'.heap.size):yP S w' cb b c d params:=
 ⟨h.vars.jP a,h.kC.jP a,h.km.jP a,h.params.jP a,λq e=>⟨O1 (h.kX q e).1 hs,(h.kX q e).2⟩⟩
def Ej.jP{S w w' a hd own b c}{o:Nat}(h:Ej S w a hd own b c o)(d:∀q,S q->w'.heap[q]?=w.heap[q]?):Ej S w' a hd own b c o:=by obtain⟨⟨e,c3,f,g⟩,i,⟨j,k,l,m⟩,n,p⟩:=h;exact⟨⟨e,c3,f,g.jP (lv.ok .u8) d⟩,i,⟨j,k,l,m.jP oK.ok d⟩,n,p⟩
def mQ.jP{T w w'}{b n:Nat}(h:mQ T w b n)(a:w'.heap[b]?=w.heap[b]?):mQ T w' b n:=by obtain⟨c,d,e⟩:=h;exact⟨c,a.T d,e⟩
def xj(b n:Nat)(w)(h:mQ 223 w b (n*3))(hn:n<=1000):Calls prog 95 #[.slice b n n] w (Gy w):=by
 obtain⟨i,hi,hz0,j,m⟩:=Pu AD;have z:∀w a n c n' d,(binOp .eql 219 (.slice a n c) (.slice none n' d)).run prog w=.ok (.bool a.isNone) w:=λw a n c n' d=>Sh w _ _ a n c n' d underlying219;obtain⟨l,A,p,q⟩:=h.cells;have r:=h.lt
 go_enter func95,ntmps95
 go_wp2_with (at_builtin;refine Ru _ rfl _ _ 219 rfl w.heap.size 223 i _ 3 40 underlying219 hi hz0 j m rfl SF _ _ _ rfl (RJ w #[] 0 (O9 _) (Pb _) rfl) ⟨b,0,none⟩ n n l rfl ?M0 ?M3 ?M4 ?M5 ?M6 ?M7 ?_);case M0=>omega
 case M3=>intro e u s;rw[kM,Pk];exact(Cb b e (P3 _ _ _ r)).T (q e u s)
 case M4=>exact p
 case M5=>unfold maxLen;omega
 case M6=>omega
 case M7=>simp
 intro t B v x C;obtain⟨f,d,rfl⟩:∃f d,t=.slice f n d:=by
  rcases v.2 with⟨hv,D⟩|⟨g,E,F,hv,_⟩
  exact⟨none,0,by rw[hv];congr 1;omega⟩;exact⟨_,_,by rw[hv]⟩
 go_wp2;go_ret;exact⟨_,_,_,rfl,((Below.refl _ w).alloc (O9 _) _).grown x SG (by intro k y;simp[Value.ownBlock]at y;omega)⟩
def xk(b n:Nat)(w)(h:mQ 4 w b n)(hn:n<=1000):Calls prog 96 #[.slice b n n] w (Gy w):=by
 obtain⟨i,hi,hz0,j,m⟩:=Pu AE;have z:∀w a n c n' d,(binOp .eql 220 (.slice a n c) (.slice none n' d)).run prog w=.ok (.bool a.isNone) w:=λw a n c n' d=>Sh w _ _ a n c n' d underlying220;obtain⟨l,A,p,q⟩:=h.cells;have r:=h.lt
 go_enter func96,ntmps96
 go_wp2_with (at_builtin;refine Ru _ rfl _ _ 220 rfl w.heap.size 4 i _ 1 1 underlying220 hi hz0 j m rfl SF _ _ _ rfl (RJ w #[] 0 (O9 _) (Pb _) rfl) ⟨b,0,none⟩ n n l rfl ?M0 ?M3 ?M4 ?M5 ?M6 ?M7 ?_);case M0=>omega
 case M3=>intro e u s;rw[kM,Pk];exact(Cb b e (P3 _ _ _ r)).T (q e u s)
 case M4=>exact p
 case M5=>unfold maxLen;omega
 case M6=>omega
 case M7=>simp
 intro t B v x C;obtain⟨f,d,rfl⟩:∃f d,t=.slice f n d:=by
  rcases v.2 with⟨hv,D⟩|⟨g,E,F,hv,_⟩
  exact⟨none,0,by rw[hv];congr 1;omega⟩;exact⟨_,_,by rw[hv]⟩
 go_wp2;go_ret;exact⟨_,_,_,rfl,((Below.refl _ w).alloc (O9 _) _).grown x SG (by intro k y;simp[Value.ownBlock]at y;omega)⟩
def kf.turn{a:Type}{R:Rel a}{T k:Nat}(ok:kF R k){P w w'}{lo:Nat}{v}{xs:List a}(h:kf R T k P w lo v xs)(hv:∀z,v.ownBlock=some z->w'.heap[z]?=w.heap[z]?)(e:∀b,P b->b<w->w'.heap[b]?=w.heap[b]?)(hs:w.heap.size<=w'.heap.size):kf R T k P w' lo v xs:=by
 obtain⟨f,c,i⟩:=h.own;refine⟨f,?_,i.imp λr x hx=>ok.M (ok.jP hx λb hb=>e b hb.1 hb.2.1) λb hb=>⟨hb.1,O1 hb.2.1 hs,hb.2.2⟩⟩;refine⟨c.1,?_⟩;rcases c.2 with h|⟨g,j,l,d,hb,hg,h⟩
 exact .inl h;refine .inr ⟨g,j,l,d,hb,(hv g (by rw[d];rfl)).T hg,h⟩
def oy.turn{T a x b V}{n:Nat}(h:oy T a x V n)(hv:∀z,V.ownBlock=some z->a<=z->z<x->b.heap[z]?=x.heap[z]?)(hs:x.heap.size<=b.heap.size):oy T a b V n:=by obtain⟨d,c,e⟩:=h;exact⟨d,c.turn qp (λz hz=>hv z hz (c.ge z hz).1 (c.ge z hz).2) (λ_ h=>h.elim) hs,e⟩
structure pF(w3:World)(cb bu bf bx nn:Nat)(f0 f1 f2 f3 hd own V6 V7 V8 nm:Value)(n:Nat)(x:World):Prop where
 g:nj (λq=>q=cb\/q=bu\/q=bf\/q=bx) w3 x
 c:∃P V:Value,x.heap[cb]?=some (.cells #[f0,f1,f2,f3,hd,own,V6,V7,V8,P,V] 156)
 u:mQ 223 x bu (nn*3)
 f:mQ 4 x bf nn
 r:∃Vu Vf:Value,x.heap[bx]?=some (.cells #[nm,Vu,Vf] 164)/\oy 219 w3 x Vu n/\oy 220 w3 x Vf n
 l:cb<w3/\bu<w3/\bf<w3/\bx<w3
 ne:bu≠cb/\bf≠cb/\bx≠cb/\bu≠bx/\bf≠bx/\bu≠bf
def pF.to{r}{cb b c e d:Nat}{f g i j hd own k l m nm}{n:Nat}{x a}(h:pF r cb b c e d f g i j hd own k l m nm n x)(hb:nj (λq=>q=cb\/q=b\/q=c) x a)(hc:∃P V:Value,a.heap[cb]?=some (.cells #[f,g,i,j,hd,own,k,l,m,P,V] 156))(hu:mQ 223 a b (d*3))(hf:mQ 4 a c d):pF r cb b c e d f g i j hd own k l m nm n a:=by obtain⟨y,A,B,C⟩:=h.l;obtain⟨D,E,F,G,I,J⟩:=h.ne;have hs:=h.g.size;obtain⟨s,t,hx,u,v⟩:=h.r;exact⟨h.g.T (hb.M λq w=>by rcases w with h|h|h;exact .inl h;exact .inr (.inl h);exact .inr (.inr (.inl h))),hc,hu,hf,⟨s,t,(hb.B e SE SE).T hx,u.turn (λz _ hz p=>hb.B z p SE) hb.size,v.turn (λz _ hz p=>hb.B z p SE) hb.size⟩,h.l,h.ne⟩
def pF.jQ{a}{cb b c d e:Nat}{f g i j hd own k l m nm}{n:Nat}{x p}(h:pF a cb b c d e f g i j hd own k l m nm n x)(hb:Below x x p):pF a cb b c d e f g i j hd own k l m nm n p:=by obtain⟨P,V,hc⟩:=h.c;exact h.to (nj.of hb) ⟨P,V,(hb.B cb (O3.1 hc).1).T hc⟩ (h.u.jP (hb.B _ h.u.lt)) (h.f.jP (hb.B _ h.f.lt))
def pF.unit{k}{cb l m p q:Nat}{a b c d hd own f g i nm}{n:Nat}{x j}(h:pF k cb l m p q a b c d hd own f g i nm n x)(hg:x.grownBy j (some cb))(hc:∃P V:Value,j.heap[cb]?=some (.cells #[a,b,c,d,hd,own,f,g,i,P,V] 156)):pF k cb l m p q a b c d hd own f g i nm n j:=by obtain⟨s,t,u,v,w,y⟩:=h.ne;have r:∀z,z≠cb->¬some z=some cb:=λz hz e=>hz (by injection e);exact h.to (nj.grown hg (.inl rfl)) hc (h.u.jP (hg.B _ h.u.lt (r _ s))) (h.f.jP (hg.B _ h.f.lt (r _ t)))
def pF.F2{b}{cb a c d e:Nat}{f g j k hd own l m p nm}{n:Nat}{x}(h:pF b cb a c d e f g j k hd own l m p nm n x)(i:Nat){u}(hu:u.oneCell'=true):pF b cb a c d e f g j k hd own l m p nm n (x.setCell ⟨a,i,none⟩ u):=by obtain⟨P,V,hc⟩:=h.c;obtain⟨q,s,t,v,w,r⟩:=h.ne;exact h.to (nj.set (.inr (.inl rfl))) ⟨P,V,(Po _ _ _ _ (Q7 q)).T hc⟩ (h.u.set i hu) (h.f.jP (Po _ _ _ _ (Q7 r)))
def pF.Kd{b}{cb c a d e:Nat}{f g j k hd own l m p nm}{n:Nat}{x}(h:pF b cb c a d e f g j k hd own l m p nm n x)(i:Nat){u}(hu:u.oneCell'=true):pF b cb c a d e f g j k hd own l m p nm n (x.setCell ⟨a,i,none⟩ u):=by obtain⟨P,V,hc⟩:=h.c;obtain⟨s,q,t,v,w,r⟩:=h.ne;exact h.to (nj.set (.inr (.inr rfl))) ⟨P,V,(Po _ _ _ _ (Q7 q)).T hc⟩ (h.u.jP (Po _ _ _ _ r)) (h.f.set i hu)
structure sF(w3:World)(cb bu bf bx nn:Nat)(f0 f1 f2 f3 hd own V6 V7 V8 nm:Value)(wr:World)(Vu Vf:Value)(us fs:List Unit)(n:Nat)(b1 b2:Bool)(x:World):Prop where
 g:nj (λq=>q=cb\/q=bu\/q=bf\/q=bx) w3 x
 c:∃P V:Value,x.heap[cb]?=some (.cells #[f0,f1,f2,f3,hd,own,V6,V7,V8,P,V] 156)
 u:mQ 223 x bu (nn*3)
 f:mQ 4 x bf nn
 r:∃a b:Value,x.heap[bx]?=some (.cells #[nm,a,b] 164)/\(b1=false->a=Vu)/\(b2=false->b=Vf)/\oy 219 w3 x a (n+1)/\oy 220 w3 x b (n+1)
 ou:kf (xw 1) 219 1 (λ_=>False) x w3 Vu us
 FP:kf (xw 1) 220 1 (λ_=>False) x w3 Vf fs
 s:wr.heap.size<=x
 ws:w3.heap.size<=wr
 vu:∀z,Vu.ownBlock=some z->w3<=z/\z<wr
 vf:∀z,Vf.ownBlock=some z->w3<=z/\z<wr
 l:cb<w3/\bu<w3/\bf<w3/\bx<w3
 ne:bu≠cb/\bf≠cb/\bx≠cb/\bu≠bx/\bf≠bx/\bu≠bf
def sF.start{g}{cb i j k l:Nat}{m p q r hd own s t u nm}{n:Nat}{x}(h:pF g cb i j k l m p q r hd own s t u nm n x):∃(c d:Value) (a b:List Unit),a.length<=n/\b.length<=n/\sF g cb i j k l m p q r hd own s t u nm x c d a b n false false x:=by obtain⟨c,d,hx,⟨a,e,v⟩,⟨b,f,w⟩⟩:=h.r;exact⟨c,d,a,b,v,w,h.g,h.c,h.u,h.f,⟨c,d,hx,λ_=>rfl,λ_=>rfl,⟨a,e,SE⟩,⟨b,f,SE⟩⟩,e,f,O9 _,h.g.size,e.ge,f.ge,h.l,h.ne⟩
def sF.done{c}{cb d e f g:Nat}{i j k l hd own m p q nm wr r s}{t u:List Unit}{n:Nat}{v w x}(h:sF c cb d e f g i j k l hd own m p q nm wr r s t u n v w x):pF c cb d e f g i j k l hd own m p q nm (n+1) x:=by obtain⟨a,b,hx,_,_,y,z⟩:=h.r;exact⟨h.g,h.c,h.u,h.f,⟨a,b,hx,y,z⟩,h.l,h.ne⟩
def sF.jQ{e}{cb f g c i:Nat}{j k l m hd own p q r nm wr s t}{u v:List Unit}{n:Nat}{w y x A}(h:sF e cb f g c i j k l m hd own p q r nm wr s t u v n w y x)(hb:Below x x A):sF e cb f g c i j k l m hd own p q r nm wr s t u v n w y A:=by obtain⟨P,V,hc⟩:=h.c;obtain⟨a,b,hx,B,C,D,E⟩:=h.r;exact⟨h.g.T (nj.of hb),⟨P,V,(hb.B cb (O3.1 hc).1).T hc⟩,h.u.jP (hb.B _ h.u.lt),h.f.jP (hb.B _ h.f.lt),⟨a,b,(hb.B c (O3.1 hx).1).T hx,B,C,D.turn (λz _ _ d=>hb.B z d) hb.size,E.turn (λz _ _ d=>hb.B z d) hb.size⟩,h.ou.jQ qp hb,h.FP.jQ qp hb,Pj h.s hb.size,h.ws,h.vu,h.vf,h.l,h.ne⟩
def sF.alloc{a}{cb b c d e:Nat}{f g i j hd own k l m nm wr p q}{r s:List Unit}{n:Nat}{t u x}(h:sF a cb b c d e f g i j hd own k l m nm wr p q r s n t u x)(v):sF a cb b c d e f g i j hd own k l m nm wr p q r s n t u (x.alloc v):=h.jQ (Ba _ _)
def sF.drew{a}{cb b c d e:Nat}{f g i j hd own k l m nm wr p q}{r s:List Unit}{n:Nat}{t u x}(h:sF a cb b c d e f g i j hd own k l m nm wr p q r s n t u x):sF a cb b c d e f g i j hd own k l m nm wr p q r s n t u {x with drawn:=x.drawn+1}:=h.jQ (Below.refl _ _).drew
def sF.Nj{i}{cb m p q r:Nat}{s t u v hd own w y A nm wr d B}{f C:List Unit}{n:Nat}{k D x j}(h:sF i cb m p q r s t u v hd own w y A nm wr d B f C n k D x)(G:k=false)(S:f.length<=n)(hg:x.grownBy j d.ownBlock)(E:kf (xw 1) 219 1 (λ_=>False) j i d f):sF i cb m p q r s t u v hd own w y A nm wr d B f C n k D j:=by
 obtain⟨P,V,hc⟩:=h.c;obtain⟨I,J,K,L⟩:=h.l;have g:∀z,z<i.heap.size->¬some z=d.ownBlock:=λz hz e=>SC ((h.vu z e.symm).1)
 have M:=vO h.ou h.FP xM;obtain⟨a,b,hx,F,N,T,O,l,Q⟩:=h.r;have R:=vO h.ou l xM;have c:∀{z:Nat},z<x->¬some z=d.ownBlock->j.heap[z]?=x.heap[z]?:=λhz hn=>hg.B _ hz hn;exact⟨⟨hg.os.T h.g.os,hg.tape.T h.g.tape,hg.output.T h.g.output,Pj h.g.size hg.size,λz hz hn=>(c (O1 hz h.g.size) (g z hz)).T (h.g.B z hz hn)⟩,⟨P,V,(c (O3.1 hc).1 (g _ I)).T hc⟩,h.u.jP (c h.u.lt (g _ J)),h.f.jP (c h.f.lt (g _ K)),⟨a,b,(c (O3.1 hx).1 (g _ L)).T hx,F,N,by rw[F G];exact⟨f,E,SE⟩,⟨O,l.turn qp (λz hz=>c (l.ge z hz).2 (λe=>R z e.symm hz)) (λ_ h=>h.elim) hg.size,Q⟩⟩,E,h.FP.turn qp (λz hz=>c (h.FP.ge z hz).2 (λe=>M z e.symm hz)) (λ_ h=>h.elim) hg.size,Pj h.s hg.size,h.ws,h.vu,h.vf,h.l,h.ne⟩
def sF.Nk{i}{cb m p q r:Nat}{s t u v hd own w y A nm wr B d}{C f:List Unit}{n:Nat}{D k x j}(h:sF i cb m p q r s t u v hd own w y A nm wr B d C f n D k x)(G:k=false)(S:f.length<=n)(hg:x.grownBy j d.ownBlock)(E:kf (xw 1) 220 1 (λ_=>False) j i d f):sF i cb m p q r s t u v hd own w y A nm wr B d C f n D k j:=by
 obtain⟨P,V,hc⟩:=h.c;obtain⟨I,J,K,L⟩:=h.l;have g:∀z,z<i.heap.size->¬some z=d.ownBlock:=λz hz e=>SC ((h.vf z e.symm).1)
 have M:=vO h.FP h.ou (Q7 xM);obtain⟨a,b,hx,N,F,⟨O,l,Q⟩,T⟩:=h.r;have R:=vO h.FP l (Q7 xM);have c:∀{z:Nat},z<x->¬some z=d.ownBlock->j.heap[z]?=x.heap[z]?:=λhz hn=>hg.B _ hz hn;exact⟨⟨hg.os.T h.g.os,hg.tape.T h.g.tape,hg.output.T h.g.output,Pj h.g.size hg.size,λz hz hn=>(c (O1 hz h.g.size) (g z hz)).T (h.g.B z hz hn)⟩,⟨P,V,(c (O3.1 hc).1 (g _ I)).T hc⟩,h.u.jP (c h.u.lt (g _ J)),h.f.jP (c h.f.lt (g _ K)),⟨a,b,(c (O3.1 hx).1 (g _ L)).T hx,N,F,⟨O,l.turn qp (λz hz=>c (l.ge z hz).2 (λe=>R z e.symm hz)) (λ_ h=>h.elim) hg.size,Q⟩,by rw[F G];exact⟨f,E,SE⟩⟩,h.ou.turn qp (λz hz=>c (h.ou.ge z hz).2 (λe=>M z e.symm hz)) (λ_ h=>h.elim) hg.size,E,Pj h.s hg.size,h.ws,h.vu,h.vf,h.l,h.ne⟩
def sF.F2{f}{cb g i d j:Nat}{k l m p hd own q r s nm wr t u}{w y:List Unit}{n:Nat}{B A x}(h:sF f cb g i d j k l m p hd own q r s nm wr t u w y n B A x){v}(hv:oy 219 f x v (n+1)):sF f cb g i d j k l m p hd own q r s nm wr t u w y n true A (x.setCell ⟨d,1,none⟩ v):=by
 obtain⟨P,V,hc⟩:=h.c;obtain⟨I,J,K,L⟩:=h.l;obtain⟨M,N,C,D,E,O⟩:=h.ne;obtain⟨a,b,hx,Q,F,R,G⟩:=h.r;have c:∀{z:Nat},z≠d->(x.setCell ⟨d,1,none⟩ v).heap[z]?=x.heap[z]?:=λhz=>Po _ _ _ _ hz;have hs:x<=(x.setCell ⟨d,1,none⟩ v).heap.size:=by rw[O6];exact O9 _
 exact⟨h.g.T (nj.set (.inr (.inr (.inr rfl)))),⟨P,V,(c (Q7 C)).T hc⟩,h.u.jP (c D),h.f.jP (c E),⟨v,b,jO hx,λe=>(by cases e),F,hv.turn (λz _ hz _=>c SE) hs,G.turn (λz _ hz _=>c SE) hs⟩,h.ou.turn qp (λz hz=>c (SC ((h.vu z hz).1))) (λ_ h=>h.elim) hs,h.FP.turn qp (λz hz=>c (SC ((h.vf z hz).1))) (λ_ h=>h.elim) hs,by rw[O6];exact h.s,h.ws,h.vu,h.vf,h.l,h.ne⟩
def sF.Kd{f}{cb g i d j:Nat}{k l m p hd own q r s nm wr t u}{w y:List Unit}{n:Nat}{A B x}(h:sF f cb g i d j k l m p hd own q r s nm wr t u w y n A B x){v}(hv:oy 220 f x v (n+1)):sF f cb g i d j k l m p hd own q r s nm wr t u w y n A true (x.setCell ⟨d,2,none⟩ v):=by
 obtain⟨P,V,hc⟩:=h.c;obtain⟨I,J,K,L⟩:=h.l;obtain⟨M,N,C,D,E,O⟩:=h.ne;obtain⟨a,b,hx,F,Q,G,R⟩:=h.r;have c:∀{z:Nat},z≠d->(x.setCell ⟨d,2,none⟩ v).heap[z]?=x.heap[z]?:=λhz=>Po _ _ _ _ hz;have hs:x<=(x.setCell ⟨d,2,none⟩ v).heap.size:=by rw[O6];exact O9 _
 exact⟨h.g.T (nj.set (.inr (.inr (.inr rfl)))),⟨P,V,(c (Q7 C)).T hc⟩,h.u.jP (c D),h.f.jP (c E),⟨a,v,jO hx,F,λe=>(by cases e),G.turn (λz _ hz _=>c SE) hs,hv.turn (λz _ hz _=>c SE) hs⟩,h.ou.turn qp (λz hz=>c (SC ((h.vu z hz).1))) (λ_ h=>h.elim) hs,h.FP.turn qp (λz hz=>c (SC ((h.vf z hz).1))) (λ_ h=>h.elim) hs,by rw[O6];exact h.s,h.ws,h.vu,h.vf,h.l,h.ne⟩
def sF.MC{d}{cb f g i j:Nat}{k l m p hd own q r s nm wr c t}{u v:List Unit}{n:Nat}{w y x a}(h:sF d cb f g i j k l m p hd own q r s nm wr c t u v n w y x)(hg:x.grownBy a c.ownBlock):x.heap.size<=a/\∀b,Nw wr x b->a.heap[b]?=x.heap[b]?:=
 ⟨hg.size,λb hb=>hg.B b hb.2 (λe=>SD ((h.vu b e.symm).2) hb.1)⟩
def sF.MD{d}{cb f g i j:Nat}{k l m p hd own q r s nm wr t c}{u v:List Unit}{n:Nat}{w y x a}(h:sF d cb f g i j k l m p hd own q r s nm wr t c u v n w y x)(hg:x.grownBy a c.ownBlock):x.heap.size<=a/\∀b,Nw wr x b->a.heap[b]?=x.heap[b]?:=
 ⟨hg.size,λb hb=>hg.B b hb.2 (λe=>SD ((h.vf b e.symm).2) hb.1)⟩
def NK.set{wr w}{a i:Nat}{u}(hb:a<wr.heap.size):w.heap.size<=(w.setCell ⟨a,i,none⟩ u).heap.size/\∀b,Nw wr w b->(w.setCell ⟨a,i,none⟩ u).heap[b]?=w.heap[b]?:=
 ⟨by rw[O6];exact O9 _,λb c=>Po _ _ _ _ (by have:=c.1;show b≠a;omega)⟩
def su.turn{a x c:World}{V W:Value}{n cb:Nat}(h:su a x V n)(i:cb<a)(hs:x.heap.size<=c)(e:∀b,b<x.heap.size->b≠cb->some b≠W.ownBlock->c.heap[b]?=x.heap[b]?)(hd:∀z,V.ownBlock=some z->some z≠W.ownBlock):su a c V n:=by have d:=h.lt;obtain⟨xs,f,g⟩:=h;exact⟨xs,f.turn kh.ok (λz hz=>e z (d z hz).2 (SC ((d z hz).1)) (hd z hz)) (λ_ h=>h.elim) hs,g⟩
def su.jQ{a x b V}{n:Nat}(h:su a x V n)(hb:Below x x b):su a b V n:=by obtain⟨xs,c,d⟩:=h;exact⟨xs,c.jQ kh.ok hb,d⟩
def Ci{a c b:Value}{x:World}{lo:Nat}(h:tE a b)(hw:c.ownBlock=a.ownBlock\/∃z,c.ownBlock=some z/\x<=z)(hb:∀z,b.ownBlock=some z->lo<=z/\z<x):tE c b:=λz hz e=>by
 rcases hw with hw|⟨q,d,hs⟩
 exact h z (hw▸hz) e;rw[d]at hz;injection hz with hz;have:=(hb z e).2;omega
def Cj{a b c:Value}{x:World}{lo:Nat}(h:tE a b)(hw:c.ownBlock=b.ownBlock\/∃z,c.ownBlock=some z/\x<=z)(d:∀z,a.ownBlock=some z->lo<=z/\z<x):tE a c:=λz hz e=>by
 rcases hw with hw|⟨q,f,hs⟩
 exact h z hz (hw▸e);rw[f]at e;injection e with e;have:=(d z hz).2;omega
structure qZ(w1:World)(cb:Nat)(f0 f1 f2 f3 hd own P V V6 V7 V8:Value)(n6 n7 n8:Nat)(x:World):Prop where
 g:w1.grownBy x (some cb)
 c:x.heap[cb]?=some (.cells #[f0,f1,f2,f3,hd,own,V6,V7,V8,P,V] 156)
 r6:su w1 x V6 n6
 r7:su w1 x V7 n7
 r8:su w1 x V8 n8
 d:tE V6 V7/\tE V6 V8/\tE V7 V8
 lt:cb<w1
def qZ.jQ{a}{cb:Nat}{b c d e hd own P V f g i}{j k l:Nat}{x m}(h:qZ a cb b c d e hd own P V f g i j k l x)(hb:Below x x m):qZ a cb b c d e hd own P V f g i j k l m:=
 ⟨jR h.g (kg (jV hb) _),(hb.B cb (O3.1 h.c).1).T h.c,h.r6.jQ hb,h.r7.jQ hb,h.r8.jQ hb,h.d,h.lt⟩
def su.up{a x V}{n m:Nat}(h:su a x V n)(hm:n<=m):su a x V m:=by obtain⟨xs,b,c⟩:=h;exact⟨xs,b,Pj c hm⟩
def qZ.up{a}{cb:Nat}{b c d e hd own P V f g i}{j k l:Nat}{m n p:Nat}{x}(h:qZ a cb b c d e hd own P V f g i j k l x)(q:j<=m)(r:k<=n)(s:l<=p):qZ a cb b c d e hd own P V f g i m n p x:=⟨h.g,h.c,h.r6.up q,h.r7.up r,h.r8.up s,h.d,h.lt⟩
def qZ.Nn{c}{cb:Nat}{d e f g hd own P V i j k}{q m n:Nat}{V'}{n':Nat}{l x a}(h:qZ c cb d e f g hd own P V i j k q m n x)(hg:c.grownBy a (some cb))(hc:a.heap[cb]?=some (.cells #[d,e,f,g,hd,own,V',j,k,P,V] 156))(r:kf kh 9 1 (λ_=>False) a c V' l)(s:l.length<=n')(hw:V'.ownBlock=i.ownBlock\/∃z,V'.ownBlock=some z/\x<=z)(hs:x.heap.size<=a)(p:∀b,b<x.heap.size->b≠cb->some b≠i.ownBlock->a.heap[b]?=x.heap[b]?):qZ c cb d e f g hd own P V V' j k n' m n a:=
 ⟨hg,hc,⟨l,r,s⟩,h.r7.turn h.lt hs p (zi (h.d.1)),h.r8.turn h.lt hs p (zi (h.d.2.1)),⟨Ci h.d.1 hw (h.r7.lt),Ci h.d.2.1 hw (h.r8.lt),h.d.2.2⟩,h.lt⟩
def qZ.Np{c}{cb:Nat}{d e f g hd own P V i j k}{m q n:Nat}{V'}{n':Nat}{l x a}(h:qZ c cb d e f g hd own P V i j k m q n x)(hg:c.grownBy a (some cb))(hc:a.heap[cb]?=some (.cells #[d,e,f,g,hd,own,i,V',k,P,V] 156))(r:kf kh 9 1 (λ_=>False) a c V' l)(s:l.length<=n')(hw:V'.ownBlock=j.ownBlock\/∃z,V'.ownBlock=some z/\x<=z)(hs:x.heap.size<=a)(p:∀b,b<x.heap.size->b≠cb->some b≠j.ownBlock->a.heap[b]?=x.heap[b]?):qZ c cb d e f g hd own P V i V' k m n' n a:=
 ⟨hg,hc,h.r6.turn h.lt hs p (Ch (h.d.1)),⟨l,r,s⟩,h.r8.turn h.lt hs p (zi (h.d.2.2)),⟨Cj h.d.1 hw (h.r6.lt),h.d.2.1,Ci h.d.2.2 hw (h.r8.lt)⟩,h.lt⟩
def qZ.Nq{c}{cb:Nat}{d e f g hd own P V i j k}{m n q:Nat}{V'}{n':Nat}{l x a}(h:qZ c cb d e f g hd own P V i j k m n q x)(hg:c.grownBy a (some cb))(hc:a.heap[cb]?=some (.cells #[d,e,f,g,hd,own,i,j,V',P,V] 156))(r:kf kh 9 1 (λ_=>False) a c V' l)(s:l.length<=n')(hw:V'.ownBlock=k.ownBlock\/∃z,V'.ownBlock=some z/\x<=z)(hs:x.heap.size<=a)(p:∀b,b<x.heap.size->b≠cb->some b≠k.ownBlock->a.heap[b]?=x.heap[b]?):qZ c cb d e f g hd own P V i j V' m n n' a:=
 ⟨hg,hc,h.r6.turn h.lt hs p (Ch (h.d.2.1)),h.r7.turn h.lt hs p (Ch (h.d.2.2)),⟨l,r,s⟩,⟨h.d.1,Cj h.d.2.1 hw (h.r6.lt),Cj h.d.2.2 hw (h.r7.lt)⟩,h.lt⟩
structure F3(S:Nat->Prop)(w:World)(cb:Nat)(A1:Option Addr)(n1 c1:Nat)(A3:Option Addr)(m3 c3:Nat)(Ah:Option Addr)(ch:Nat)(tU:List Fg)(jZ:List Co)(nl:List (List (List UInt8))):Prop where
 h1:jT lM S w (.slice A1 n1 c1) tU
 Nr:n1<=50
 h3:jT (lv .u8) S w (.slice A3 m3 c3) jZ
 Ns:m3<=3
 hh:jT oK S w (.slice Ah m3 ch) nl
 Nt:∀(i:Nat) (x:Co),jZ[i]?=some x->nl[i]?=some (kL [] x.kS)
 kX:∀q,S q->q<w/\q≠cb
 rows:oJ w
 ne:(5:Nat)≠cb
 gc:∀x∈jZ,x.vars.length<=50/\x.kS.length<=4/\∀hs∈x.kS,hs.length<=100/\∀h∈hs,h.params.length<=1000/\ku Ds h.body<=12/\∀s∈h.body,BX jZ Ds s
def KO(S:Nat->Prop)(w:World)(cb:Nat)(g i j k hd:Value)(l:List (List UInt8))(e:Ending)(w':World):Prop:=
 ∃v1 v2 f:Value,e=.returned (.agg #[v1,v2,f])/\jT kh S w v1 l/\v2.oneCell'=true/\f.oneCell'=true/\w.grownBy w' (some cb)/\∃a b c d P V:Value,w'.heap[cb]?=some (.cells #[g,i,j,k,hd,a,b,c,d,P,V] 156)
def nC.M{S T w v}(h:nC S w v)(a:∀q,S q->T q):nC T w v:=by obtain⟨A,n,c,xs,e,hs,hn⟩:=h;exact⟨A,n,c,xs,e,hs.M kh.ok a,hn⟩
def su.strs{a x V}{n:Nat}(h:su a x V n)(hn:n<=1000):nC (λq=>a<=q/\q<x) x V:=by obtain⟨xs,b,e⟩:=h;obtain⟨A,c,rfl,_⟩:=b.form;exact⟨A,_,c,xs,rfl,(b.sl kh.ok).M kh.ok (λq d=>⟨by rcases d.1 with h|h;exact h.elim;exact h,d.2⟩),SE⟩
structure zQ(S2:Nat->Prop)(w3:World)(cb bu bf bx:Nat)(f3 hd own V6 V7 V8 nm:Value)(jZ:List Co)(nl:List (List (List UInt8)))(o:Nat)(ns:List (List UInt8))(ve:Value)(kS:List (List Hd)):Prop where
 s6:nC S2 w3 V6
 s7:nC S2 w3 V7
 s8:nC S2 w3 V8
 kX:∀q,S2 q->q<w3/\q≠cb/\q≠bu/\q≠bf/\q≠bx
 fx:Ej S2 w3 f3 hd own jZ nl o
 rows:oJ w3
 M8:(5:Nat)≠cb/\(5:Nat)≠bu/\(5:Nat)≠bf/\(5:Nat)≠bx
 pW:jT kh S2 w3 nm ns
 vs:jT (mr .u8) S2 w3 ve kS
def zQ.to{c d x}{cb e f g v n:Nat}{w y z i hd own j k l nm m p r}{o:Nat}{s t}(h:zQ c d cb e f g i hd own j k l nm p r o s m t)(u:pF d cb e f g v w y z i hd own j k l nm n x):zQ c x cb e f g i hd own j k l nm p r o s m t:=by have a:∀q,c q->x.heap[q]?=d.heap[q]?:=λq b=>u.g.B q (h.kX q b).1 (SC (h.kX q b));exact⟨h.s6.jP a,h.s7.jP a,h.s8.jP a,λq b=>⟨O1 (h.kX q b).1 u.g.size,(h.kX q b).2⟩,h.fx.jP a,h.rows.jP (u.g.B _ h.rows.lt (SC h.M8)) u.g.size,h.M8,h.pW.jP kh.ok a,h.vs.jP (mr.ok .u8) a⟩
def zQ.eq{b a x}{cb c d e l n:Nat}{m p r f hd own g i j nm s t v}{o:Nat}{w y}(h:zQ b a cb c d e f hd own g i j nm t v o w s y)(u:pF a cb c d e l m p r f hd own g i j nm n x):∀q,b q->x.heap[q]?=a.heap[q]?:=λq k=>u.g.B q (h.kX q k).1 (SC (h.kX q k))
def oy.jQ{T a x b V}{n:Nat}(h:oy T a x V n)(hb:Below x x b):oy T a b V n:=h.turn (λz _ _ c=>hb.B z c) hb.size
def oy.app{T b a x c V d}{n:Nat}{g:List Unit}(h:oy T a x V n)(i:kf (xw 1) b 1 (λ_=>False) x a d g)(j:T≠b)(hg:x.grownBy c d.ownBlock):oy T a c V n:=by obtain⟨k,f,l⟩:=h;exact oy.turn ⟨k,f,l⟩ (λz hz _ m=>hg.B z m (λe=>(vO f i j) z hz e.symm)) hg.size
def oy.set{T a x V u}{n b i:Nat}(h:oy T a x V n)(hb:b<a):oy T a (x.setCell ⟨b,i,none⟩ u) V n:=
 h.turn (λz _ hz _=>Po _ _ _ _ (by show z≠b;omega)) (by rw[O6];exact O9 _)
def zQ.cm{a b}{cb g i j:Nat}{k hd own c d e nm l m n}{o:Nat}{r s}(h:zQ a b cb g i j k hd own c d e nm m n o r l s){p}(hp:nC a b p):yP a b cb c d e p:=⟨h.s6,h.s7,h.s8,hp,λq f=>⟨(h.kX q f).1,(h.kX q f).2.1⟩⟩
abbrev yW(a b c):=(.cells #[.slice a b c,Nl,Nl] 164:Go.Obj)
def kT.mf.em{sc n}(lD:sc.ints<=3/\sc.params<=2)(hf:sc.km<=2)(p:∀l∈sc.nr,∀a∈l,a<=2)(u:∀i,i<sc.nr.length->∃x∈n,x.name=kx i):∀{d:Nat} {s:St},mf sc d s->BX n d s
 |0,_,h=>h.elim
 |d+1,s,h=>by
  have y:=h.sub;have m:∀e,kY sc De e->lT De e:=λe he=>kY.lf lD he;have v:∀e,mC sc De e->lT De e:=λe he=>mC.lf lD hf he;have j:(1<=s.kind/\s.kind<=10)->s.kA.length<=5->(∀e∈s.kA,lT De e)->(s.kind=6->∃x∈n,x.name=s.name)->BX n (d+1) s:=λa b c e=>⟨a,b,c,e,λx hx=>mf.em lD hf p u (y.1 x hx),λx hx=>mf.em lD hf p u (y.2 x hx)⟩
  rcases h with⟨k,_,_,_,e,hx,h⟩|⟨k,_,_,_,_,_,a,b,hx,f,hb⟩|⟨k,_,_,_,_,_,a,hx,f⟩|⟨k,_,_,⟨a,hx,f⟩,_,_⟩|⟨k,_,_,_,⟨a,hx,f⟩,_⟩|⟨k,_,_,⟨t,l,q,a,r,w,hn,_,z⟩,hx⟩|⟨k,_,_,_,⟨l,q,a,r,w,_,z⟩,hx⟩|⟨k,_,_,_,⟨a,b,hx,f,hb⟩,_⟩|⟨k,_,_,_,⟨a,hx,f⟩,_⟩|⟨k,_,_,_,_,hx⟩
  refine j SE (by rw[hx];simp) (λg hy=>?_) (λe=>SE);rw[hx]at hy;simp at hy;subst hy;rcases h with⟨_,_,_,h⟩|⟨_,h⟩
  exact m _ h;exact v _ h;exact j SE (by rw[hx];simp) (λg hy=>by rw[hx]at hy;simp at hy;rcases hy with rfl|rfl;exact m _ f;exact m _ hb) (λe=>SE);exact j SE (by rw[hx];simp) (λg hy=>by rw[hx]at hy;simp at hy;subst hy;exact m _ f) (λe=>SE);exact j SE (by rw[hx];simp) (λg hy=>by rw[hx]at hy;simp at hy;subst hy;exact v _ f) (λe=>SE);exact j SE (by rw[hx];simp) (λg hy=>by rw[hx]at hy;simp at hy;subst hy;exact v _ f) (λe=>SE);exact j SE (SC (p l (List.mem_of_getElem? r) a (List.mem_of_getElem? w))) (λg hy=>m _ (hx g hy)) (λ_=>by rw[hn];exact u t (List.getElem?_eq_some_iff.1 r).1);exact j SE (SC (p l (List.mem_of_getElem? r) a (List.mem_of_getElem? w))) (λg hy=>m _ (hx g hy)) (λe=>SE);exact j SE (by rw[hx];simp) (λg hy=>by rw[hx]at hy;simp at hy;rcases hy with rfl|rfl;exact m _ f;exact m _ hb) (λe=>SE);exact j SE (by rw[hx];simp) (λg hy=>by rw[hx]at hy;simp at hy;subst hy;exact m _ f) (λe=>SE);exact j SE (by rw[hx];simp) (λg hy=>by rw[hx]at hy;simp at hy) (λe=>SE)
def BZ:Rel (List (List UInt8)):=λS w r l=>∃v1 v2 a:Value,r=[v1,v2,a]/\jT kh S w v1 l/\v2.oneCell'=true/\a.oneCell'=true
def BZ.ok:kF BZ 3:=
 ⟨SE,λ⟨_,_,_,h,_⟩=>by rw[h];rfl,λ⟨v1,v2,d,h,a,b,c⟩ u hu=>by rw[h]at hu;simp at hu;rcases hu with rfl|rfl|rfl;exact a.one;exact b;exact c,λ⟨v1,v2,d,h,a,b,c⟩ e=>⟨v1,v2,d,h,a.M kh.ok e,b,c⟩,λ⟨v1,v2,d,h,a,b,c⟩ f=>⟨v1,v2,d,h,a.jP kh.ok f,b,c⟩⟩
def xx(S:Nat->Prop)(w:World)(pb:Nat)(a:List (List (List UInt8))):Prop:=∃(A:Option Addr) (n c:Nat),w.heap[pb]?=some (.cells #[.slice A n c] 160)/\jT BZ S w (.slice A n c) a
structure xt(w5 wr:World)(cb pb:Nat)(P:Nat->Prop)(f0 f1 f2 f3 hd V:Value)(xs:List (List (List UInt8)))(x:World):Prop where
 g:nj (λq=>q=cb\/q=pb) w5 x
 c:∃a b c d e p q:Value,x.heap[cb]?=some (.cells #[f0,f1,f2,f3,hd,a,b,c,d,p,q] 156)
 p:x.heap[pb]?=some (.cells #[V] 160)
 own:kf BZ 164 3 P x w5 V xs
 s:wr.heap.size<=x
 v:∀z,V.ownBlock=some z->w5<=z/\z<wr
 ws:w5.heap.size<=wr
 lt:cb<w5/\pb<w5/\cb≠pb
 np:¬P cb/\¬P pb
def xt.grown{l wr}{cb pb:Nat}{P f g i j hd V xs x k}(h:xt l wr cb pb P f g i j hd V xs x)(hg:x.grownBy k (some cb))(hc:∃a b c d e p q:Value,k.heap[cb]?=some (.cells #[f,g,i,j,hd,a,b,c,d,p,q] 156)):xt l wr cb pb P f g i j hd V xs k:=by obtain⟨r,s,m⟩:=h.lt;have hs:=h.ws;have n:∀z,z≠cb->¬some z=some cb:=λz hz e=>hz (by injection e);exact⟨h.g.T (nj.grown hg (.inl rfl)),hc,(hg.B pb (O3.1 h.p).1 (n _ (Q7 m))).T h.p,h.own.grown BZ.ok hg (λz e=>by injection e with e;subst e;exact⟨h.np.1,λe=>SC ((h.v _ e.symm).1)⟩),Pj h.s hg.size,h.v,h.ws,h.lt,h.np⟩
def xt.jQ{f wr}{cb pb:Nat}{P g i j k hd V xs x l}(h:xt f wr cb pb P g i j k hd V xs x)(hb:Below x x l):xt f wr cb pb P g i j k hd V xs l:=by obtain⟨a,b,c,d,e,p,q,hc⟩:=h.c;exact h.grown (kg (jV hb) _) ⟨a,b,c,d,e,p,q,(hb.B cb (O3.1 hc).1).T hc⟩
def xt.drew{a wr}{cb pb:Nat}{P b c d e hd V xs x}(h:xt a wr cb pb P b c d e hd V xs x):xt a wr cb pb P b c d e hd V xs {x with drawn:=x.drawn+1}:=h.jQ (Below.refl _ _).drew
def xt.alloc{a wr}{cb pb:Nat}{P b c d e hd V xs x}(h:xt a wr cb pb P b c d e hd V xs x)(f):xt a wr cb pb P b c d e hd V xs (x.alloc f):=h.jQ (Ba _ _)
def ME(a:World)(cb pb:Nat)(P:Nat->Prop)(b d e f hd:Value)(xs:List (List (List UInt8)))(n:Nat)(x:World):Prop:=∃(A:Option Addr) (c:Nat),xt a x cb pb P b d e f hd (.slice A n c) xs x
def xt.put{f wr}{cb pb:Nat}{P i j k l hd V xs x}(h:xt f wr cb pb P i j k l hd V xs x){A}{n c:Nat}{ys}(m:kf BZ 164 3 P x f (.slice A n c) ys):ME f cb pb P i j k l hd ys n (x.setCell pb (.slice A n c)):=by obtain⟨t,u,r⟩:=h.lt;obtain⟨a,b,s,d,e,p,q,hc⟩:=h.c;have g:=m.ge;have hs:=h.ws;refine⟨A,c,h.g.T (nj.set (.inr rfl)),⟨a,b,s,d,e,p,q,(Po _ _ _ _ r).T hc⟩,jO h.p,m.grown BZ.ok (jY x pb 0 _) (λz e=>by injection e with e;subst e;exact⟨h.np.2,λe=>SC ((g _ e.symm).1)⟩),O9 _,λz hz=>⟨(g z hz).1,by rw[O6];exact(g z hz).2⟩,by rw[O6];exact h.g.size,h.lt,h.np⟩
def F3.jP{S w w'}{cb:Nat}{c}{d c1:Nat}{e}{f c3:Nat}{g}{i:Nat}{j k l}(h:F3 S w cb c d c1 e f c3 g i j k l)(b:∀q,(S q\/q=(5:Nat))->w'.heap[q]?=w.heap[q]?)(hs:w.heap.size<=w'.heap.size):F3 S w' cb c d c1 e f c3 g i j k l:=
 ⟨h.h1.jP lM.ok λq a=>b q (.inl a),h.Nr,h.h3.jP (lv.ok .u8) λq a=>b q (.inl a),h.Ns,h.hh.jP oK.ok λq a=>b q (.inl a),h.Nt,λq a=>⟨O1 (h.kX q a).1 hs,(h.kX q a).2⟩,h.rows.jP (b _ (.inr rfl)) hs,h.ne,h.gc⟩
def kT.kV(f:Fl):List (List (List UInt8)):=f.jZ.map λc=>kL [] c.kS
def KR{w:World}{q:Nat}{T:TypeId}{a b c:Value}(h:w.heap[q]?=some (.cells #[a,b,c] T)):(((w.setCell q a).setCell ⟨q,1,none⟩ b).setCell ⟨q,2,none⟩ c).heap[q]?=some (.cells #[a,b,c] T):=jO (jO (jO h))
def MF.set{a cb B:Nat}{C d wr x}(h:MF a cb C d B wr x)(b:cb≠a)(c:B<=a):MF a cb C d B wr (((x.setCell a (Em)).setCell ⟨a,1,none⟩ (Em)).setCell ⟨a,2,none⟩ (.int .i64 0)):=
 ⟨jX (jX (jX h.1 c) c) c,(Po _ _ _ _ b).T ((Po _ _ _ _ b).T ((Po _ _ _ _ b).T h.2.1)),KR h.2.2⟩
structure JJ(f:Fl):Prop where
 km:MX f.km
 lB:MZ f.lB f.jZ
 jZ:f.jZ.length<=3
 each:∀k c,f.jZ[k]?=some c->LK f.km f.jZ k c
def sR.t{f:Fl}(h:sR f):JJ f:=by
 obtain⟨p,q,r,a,b,s,g,j,l,d,e⟩:=h.ex;have m:∀(i:Nat) (c:Co),f.jZ[i]?=some c->c.name=kx i:=λi c h=>by obtain⟨_,_,_,_,_,_,h,_⟩:=(e i c h).ex;exact h
 exact⟨b.t a,mU.t l (SC h.b.lB) g d m,SE,λk c n=>LK.of b a SE e d.symm j n⟩
def sw(B b:Nat)(p:Value)(n:Int)(l:List UInt8)(w:World):Prop:=
 B<=b/\∃v,w.heap[b]?=some (.cells #[p,v,n] 171)/\w.ownsRow B 5 1 v l.length (Lib.byteCells l)
def rf(B b:Nat)(n:Int)(l:List UInt8)(w:World):Prop:=sw B b (.pointer none) n l w\/sw B b (.pointer b) n l w
structure kB(B b:Nat)(w w':World):Prop where
 jQ:Below B w w'
 jP:∀z o,w.heap[z]?=some o->z≠b->vv o->w'.heap[z]?=some o
def kB.refl(B b:Nat)(w):kB B b w w:=⟨Below.refl _ _,λ_ _ h _ _=>h⟩
def kB.T{B b:Nat}{w w' a}(h:kB B b w w')(k:kB B b w' a):kB B b w a:=⟨h.jQ.T k.jQ,λz o hz hb hn=>k.jP z o (h.jP z o hz hb hn) hb hn⟩
def kB.size{B b:Nat}{w w'}(h:kB B b w w'):w.heap.size<=w':=h.jQ.size
def kB.old{B b:Nat}{w w'}(a:B<=w.heap.size)(h:Below w.heap.size w w'):kB B b w w':=⟨h.M a,λz o hz _ _=>(h.B z (O3.1 hz).1).T hz⟩
def kB.drew{B b:Nat}{w w'}(h:kB B b w w'):kB B b w w'.drew:=⟨h.jQ.drew,h.jP⟩
def vw{w:World}{B b:Nat}{v:Value}{n:Nat}{xs:List Value}{o:Obj}(a:w.ownsRow B 5 1 v n xs)(hb:w.heap[b]?=some o)(hn:vv o):v.ownBlock≠some b:=by
 rcases a.2 with⟨rfl,_⟩|⟨g,c,d,rfl,_,hg,_⟩
 simp[Value.ownBlock];intro e;simp only[Value.ownBlock,Rv]at e;subst e;rw[hg]at hb;injection hb with hb;exact hn _ _ hb.symm
def sw.lt{B b:Nat}{p}{n:Int}{l w}(h:sw B b p n l w):b<w:=by obtain⟨_,v,h,_⟩:=h;exact(O3.1 h).1
def rf.lt{B b:Nat}{n:Int}{l w}(h:rf B b n l w):b<w:=by rcases h with h|h;exact h.lt;exact h.lt
def sw.set{B b:Nat}{p a:Value}{n:Int}{l:List UInt8}{w:World}{i:Nat}{u:Value}{c:Array Value}(f:B<=b)(hb:w.heap[b]?=some (.cells c 171 (0,0)))(hc:c.setIfInBounds i u=#[p,a,.int .i64 n])(d:w.ownsRow B 5 1 a l.length (Lib.byteCells l)):sw B b p n l (w.setCell ⟨b,i,none⟩ u):=by refine⟨f,a,?_,?_⟩;have:=jO (i:=i) (u:=u) hb;rw[hc]at this;exact this;exact d.kept (row:=some b) ⟨rfl,rfl,rfl,by simp[World.setCell],λk _ g=>Po _ _ _ _ (λe=>g (by simp[e]))⟩ (Or.inr (vw d hb (lC Gd)))
def kB.set{B b i:Nat}{w u}(a:B<=b):kB B b w (w.setCell ⟨b,i,none⟩ u):=
 ⟨(Below.refl B w).setCell (p:=⟨b,i,none⟩) a _,λz o hz c _=>(Po _ _ _ _ c).T hz⟩
def sw.jP{B b:Nat}{p}{n:Int}{l w w'}(h:sw B b p n l w)(hb:Below w w w'):sw B b p n l w':=by have a:=h.lt;obtain⟨c,v,d,e⟩:=h;exact⟨c,v,(hb.B b a).T d,e.kept (row:=none) ⟨hb.os,hb.tape,hb.output,hb.size,λk f _=>hb.B k f⟩ (by rcases hv:v.ownBlock with _|q;exact .inl rfl;exact .inr SG)⟩
def rf.jP{B b:Nat}{n:Int}{l w w'}(h:rf B b n l w)(hb:Below w w w'):rf B b n l w':=by rcases h with h|h;exact .inl (h.jP hb);exact .inr (h.jP hb)
def rf.any{B b:Nat}{n:Int}{l w}(h:rf B b n l w):∃p,sw B b p n l w:=by rcases h with h|h;exact⟨_,h⟩;exact⟨_,h⟩
def sizeBuilder:(prog.info? 169).map (·.size)=some 2:=SH
def infoByte:(prog.info? 5).map (λi=>(i.zero,i.size,i.bytes))=some (some (.int .u8 0),1,1):=SH
def xm(b:Nat)(w)(c:w.cell? b=some (.pointer b)):
  Calls prog 148 #[.pointer b] w λe w'=>e=.returned (.tuple #[])/\w'=w:=by
 obtain⟨d,a,_⟩:=Q3.1 sizeBuilder
 go_enter func148,ntmps148
 go_wp2;rw[Lib.run_neq_ptr_same w _ tj a];go_wp2
 go_end0
 exact⟨rfl,rfl⟩
def vn(b:Nat)(w)(g:w.cell? b=some (.pointer none))(a:w.shape? b=some (171,3))(i:w.frozen? ⟨b,0,none⟩=false):
  Calls prog 148 #[.pointer b] w λe w'=>e=.returned (.tuple #[])/\w'=w.setCell b (.pointer b):=by
 obtain⟨j,c,d⟩:=Q3.1 sizeBuilder
 go_enter func148,ntmps148
 go_wp2;rw[Lib.run_to_unsafe w ⟨b,0,none⟩ tj SH c (by rw[d];decide) a (by show 0<3;decide)];simp only[Result.andThen];rw[R8];go_wp2;rw[run_callFunc_extern (f:=190) (fn:=Tryz.f190) SH SH SH SH (e:=Extern.AbiNoEscape.same) SH];rw[Lib.run_noEscape];simp only[Result.andThen];rw[R8];go_wp2;rw[Lib.run_from_unsafe w ⟨b,0,none⟩ SH tj c a liesBuilder];simp only[Result.andThen];rw[R8];go_wp2
 go_end0
 exact⟨rfl,rfl⟩
def sK(B b:Nat)(n:Int)(l w)(h:rf B b n l w):Calls prog 148 #[.pointer b] w λe w'=>e=.returned (.tuple #[])/\sw B b (.pointer b) n l w'/\kB B b w w':=by rcases h with⟨a,v,hb,c⟩|h;apply(vn b w (jN hb 0) (by simp[World.shape?,hb]) (jS hb 0)).M;rintro e w' ⟨rfl,rfl⟩;exact⟨rfl,sw.set a hb rfl c,kB.set a⟩;obtain⟨a,v,hb,c⟩:=h;apply(xm b w (jN hb 0)).M;rintro e w' ⟨rfl,rfl⟩;exact⟨rfl,⟨a,v,hb,c⟩,kB.refl _ _ _⟩
def kB.grown{B b:Nat}{w w' v}{n:Nat}{xs}(a:w.ownsRow B 5 1 v n xs)(hg:w.grownBy w' v.ownBlock)(c:B<=w.heap.size):kB B b w w':=
 ⟨(Below.refl B w).grown hg c (λk d=>(a.lt k d).1),λz o hz _ hn=>(hg.B z (O3.1 hz).1 (λe=>vw a hz hn e.symm)).T hz⟩
def qW(B b:Nat)(n:Int)(l s w)(h:rf B b n l w)(J:l.length+s.length<=140737488355328)(K:B<=w):
  Calls prog 97 #[.pointer b,tx s] w λe w'=>∃r,e=.returned r/\(∃q,r=.tuple #[q,.nilIface])/\rf B b n (l++s) w'/\kB B b w w':=by
 obtain⟨x,hi,hz0,y,z⟩:=Pu infoByte
 go_enter func97,ntmps97
 go_wp21;apply(sK B b n l w h).M;rintro e A ⟨rfl,C,i⟩;obtain⟨j,v,a,c⟩:=C;have k:(⟨s.toArray⟩:ByteArray).size=s.length:=S3
 have c1:=jN a 1;have D:=vw c a (lC Gd);have L:=i.size;go_wp2_with (at_builtin;refine Lib.wpList_append_own_string _ rfl _ _ 22 9 rfl B 5 x underlying22 underlying9 hi hz0 y z _ _ _ rfl c ⟨s.toArray⟩ rfl ?c3 ?c4 ?c5 ?_);case c3=>rw[k];unfold maxLen;omega
 case c4=>rw[k];omega
 case c5=>omega
 intro m E p t _;have F:=kB.grown (b:=b) c t SE;have G:b<A:=(O3.1 a).1;have d:=(t.B b G (λe=>D e.symm)).T a;have M:=jN d 1;have N:=jS d 1;have I:E.ownsRow B 5 1 m (l++s).length (Lib.byteCells (l++s)):=by rw[Sm,Pe];exact p
 obtain⟨u,n',f,rfl⟩:∃u n' f,m=.slice u n' f:=by
  rcases p.2 with⟨hv,_⟩|⟨g,f,O,hv,_⟩
  exact⟨_,_,_,hv⟩;exact⟨_,_,_,hv⟩
 go_wp2
 go_ret2
 exact⟨_,rfl,⟨_,rfl⟩,.inr (sw.set j d rfl I),(i.T F).T (kB.set j)⟩
def xH(B b:Nat)(n:Int)(l)(c:UInt8)(w)(h:rf B b n l w)(I:l.length+1<=140737488355328)(J:B<=w):
  Calls prog 98 #[.pointer b,.int .u8 (c.toNat:Int)] w λe w'=>e=.returned .nilIface/\rf B b n (l++[c]) w'/\kB B b w w':=by
 obtain⟨t,hi,hz0,x,y⟩:=Pu infoByte
 go_enter func98,ntmps98
 go_wp21;apply(sK B b n l w h).M;rintro e a ⟨rfl,z,m⟩;obtain⟨p,v,d,j⟩:=z;have c1:=jN d 1;have A:=vw j d (lC Gd);have K:=m.size;have L:=Lib.byteCells_length l;go_wp2_with (at_builtin;refine Ru _ rfl _ _ 22 rfl B 5 t (.int .u8 0) 1 1 underlying22 hi hz0 x y rfl SF _ _ _ rfl (j.alloc _) ⟨a,0,none⟩ 1 1 [.int .u8 (c.toNat:Int)] rfl rfl ?c1 ?c2 ?c3 ?c4 ?c5 ?_);case c1=>
  intro C u f
  match C,f with
  |0,f=>simp at f;subst f;simp[Addr.add]
 case c2=>intro u hu;simp at hu;subst hu;rfl
 case c3=>unfold maxLen;omega
 case c4=>omega
 case c5=>simp;omega
 intro q D r s _;have E:b<a:=(O3.1 d).1;have k:=(s.B b SK (λe=>A e.symm)).T ((Lib.alloc_old a _ b E).T d);have F:=(kB.old (b:=b) (show B<=a from SE) (Ba a (.cells #[.int .u8 (c.toNat:Int)] 5))).T (kB.grown (b:=b) (j.alloc _) s SK);have M:=jN k 1;have N:=jS k 1;have G:D.ownsRow B 5 1 q (l++[c]).length (Lib.byteCells (l++[c])):=by rw[Sm,Pe];exact r
 obtain⟨g,i,rfl⟩:∃g i,q=.slice (some ⟨g,0,none⟩) (l.length+1) i:=by
  rcases r.2 with⟨_,O⟩|⟨g,i,P,hv,_⟩
  omega;exact⟨g,i,hv⟩
 go_wp2;go_ret;exact⟨rfl,.inr (sw.set p k rfl G),(m.T F).T (kB.set p)⟩
def nO(B b:Nat)(n:Int)(k:Nat)(w:World):Prop:=∃l:List UInt8,rf B b n l w/\l.length<=k*200000
def Du.eq{S}{B b:Nat}{w w'}(h:Du S B b w)(k:kB B b w w'):∀q,S q->w'.heap[q]?=w.heap[q]?:=λq c=>by obtain⟨_,d,a|⟨o,a,e⟩⟩:=h q c;exact k.jQ.B q a;rw[k.jP q o a d e,a]
def Du.to{S}{B b:Nat}{w w'}(h:Du S B b w)(k:kB B b w w'):Du S B b w':=λq e=>by obtain⟨f,c,a⟩:=h q e;refine⟨O1 f k.size,c,a.imp id λ⟨o,a,d⟩=>⟨o,k.jP q o a c d,d⟩⟩
def Du.lt{S}{B b:Nat}{w}(h:Du S B b w):∀q,S q->q<w:=λq a=>(h q a).1
def nO.lt{B b k:Nat}{n:Int}{w}(h:nO B b n k w):B<=b/\b<w:=by obtain⟨l,h,_⟩:=h;obtain⟨p,hp⟩:=h.any;exact⟨hp.1,hp.lt⟩
def nO.cell{B b k:Nat}{n:Int}{w}(h:nO B b n k w):w.cell? ⟨b,2,none⟩=some (.int .i64 n)/\w.frozen? ⟨b,2,none⟩=false:=by obtain⟨l,h,_⟩:=h;obtain⟨p,_,v,hb,_⟩:=h.any;exact⟨jN hb 2,jS hb 2⟩
def nO.jP{B b k:Nat}{n:Int}{w w'}(h:nO B b n k w)(hb:Below w w w'):nO B b n k w':=by obtain⟨l,h,a⟩:=h;exact⟨l,h.jP hb,a⟩
def nO.up{B b k m:Nat}{n:Int}{w}(h:nO B b n k w)(hm:k<=m):nO B b n m w:=by obtain⟨l,h,a⟩:=h;exact⟨l,h,Pj a (Qn _ hm)⟩
def G5(S)(B b n k:Nat)(w0 A)(m c:Nat)(xs)(w:nO B b (n:Int) k w0)(hx:jT kh S w0 (.slice A m c) xs)(hS:Du S B b w0)(hn:n<=100)(Y:k<=100000000)(hm:m<=9)(D:∀x∈xs,x.length<=20000):
  Calls prog 56 #[.pointer b,.slice A m c] w0 λe w'=>e=.returned (.tuple #[])/\nO B b (n:Int) (k+1) w'/\kB B b w0 w':=by
 have Z:=w.lt;have L:=w.cell.1;have M:=O0 hx.len;have N:=O0 hx;have E:=O0 hS;have O:=O0 D;obtain⟨l,hw,aa⟩:=w;have P:=O0 hw;clear hw hx hS D
 go_enter func56,ntmps56
 go_wp21;go_loopw [10] (λi wr=>∃(a:Nat) (d:List UInt8),a<=n/\i=a/\rf B b (n:Int) d wr/\d.length=l.length+2*a/\kB B b w0 wr) (λi _=>n-(intOf i).toNat)
 .exact⟨0,l,Pb _,rfl,P.o,rfl,kB.refl _ _ _⟩
 clear L;obtain⟨a,d,ab,rfl,F,ac,y⟩:=hrel;have G:=O0 F;have u:=O0 y;have ad:=y.size;clear F y;by_cases ae:a<n
 .obtain⟨Q,R⟩:=mG a n;go_wp21;refine(qW B b (n:Int) d [32,32] wr G.o SK SE).M ?_;rintro e I ⟨r,rfl,⟨q,rfl⟩,g,f⟩;have v:=O0 g;have j:=O0 f;clear g f;go_wp21;go_roundw
  .exact⟨a+1,_,SE,SJ,v.o,SK,u.o.T j.o⟩
  simp[intOf];omega
 obtain rfl:n=a:=SE;go_wp21;have T:=O0 (E.o.to u.o);have U:=O0 (N.o.jP kh.ok (E.o.eq u.o));obtain⟨V,rfl⟩:=Xq wr;go_loopw [19] (λi wr=>∃(a:Nat) (p:List UInt8),a<=m/\i=a/\rf B b (n:Int) p wr/\p.length<=d.length+20000*a/\kB B b V wr) (λi _=>m-(intOf i).toNat)
 .exact⟨0,d,Pb _,rfl,G.o,O9 _,kB.refl _ _ _⟩
 obtain⟨a,p,af,rfl,g,ag,f⟩:=hrel;have v:=O0 g;have j:=O0 f;have ah:=f.size;clear g f;by_cases ai:a<m
 .obtain⟨x,hx⟩:∃x,xs[a]?=some x:=Gx (SC M.o.1);obtain⟨aj,ak,r,rfl,W,hr,J⟩:=(U.o.jP kh.ok (T.o.eq j.o)).kt kh.ok a x hx;have X:r=[tx x]:=hr;subst X;have K:=J 0 _ rfl;rw[Pc,PG]at K;have al:=O.o x (O5 hx);obtain⟨Q,R⟩:=mG a m;clear hr J W hx;go_wp21;apply(qW B b (n:Int) p x wr v.o SE SE).M;rintro e I ⟨r,rfl,⟨q,rfl⟩,s,t⟩;have z:=O0 s;have C:=O0 t;clear s t K;go_wp21;go_roundw
  .exact⟨a+1,_,SE,SJ,z.o,by rw[Pe];omega,j.o.T C.o⟩
  simp[intOf];omega
 obtain rfl:m=a:=SE;go_wp21;apply(xH B b (n:Int) p 10 wr v.o SE SE).M;rintro e I ⟨rfl,s,t⟩;have z:=O0 s;have C:=O0 t;clear s t;go_wp21
 go_end0
 exact⟨rfl,⟨_,z.o,by rw[Pe];simp;omega⟩,u.o.T (j.o.T C.o)⟩
def kT.Ic:Nat->Ex->Prop
 |0,_=>False
 |d+1,e=>(e.op=1->0<=e.n/\e.n<100)/\∀a∈e.args,Ic d a
def kT.TB:Nat->Nat
 |0=>0
 |d+1=>2*TB d+40
def kT.DT:∀{d d':Nat},d<=d'->TB d<=TB d'
 |0,_,_=>Nat.zero_le _
 |d+1,0,h=>by omega
 |d+1,d'+1,h=>by have:=DT (d:=d) (d':=d') SE;unfold TB;omega
def kT.Ge{d:Nat}(h:d<=6):TB d<=2520:=DT h
def pk(B:Nat)(w:World)(e:Ending)(w':World):Prop:=∃s:ByteArray,e=.returned (.string s)/\s.size<=B/\Below w w w'
def MG(d:Nat):Prop:=∀(S:Nat->Prop) (w:World) (e:Ex) (D:Nat) (A:Option Addr) (m c:Nat),ln w->jT (ko .u8 D) S w (.slice A m c) e.args->lT d e->Ic d e->(∀q,S q->q<w)->
 Calls prog 207 #[.agg #[.int .u8 e.op,tx e.name,e.n,.slice A m c]] w (pk (TB d) w)
def N5(d:Nat):Prop:=∀(S:Nat->Prop) (w:World) (e:Ex) (D:Nat) (A:Option Addr) (m c:Nat) (z:Int),ln w->jT (ko .u8 D) S w (.slice A m c) e.args->lT d e->Ic d e->(∀q,S q->q<w)->
 Calls prog 218 #[.agg #[.int .u8 e.op,tx e.name,e.n,.slice A m c],z] w (pk (TB d+2) w)
def zj(i:Nat)(h:i<100):(⟨(Lib.decDigits i).toArray⟩:ByteArray).size<=20:=by
 have a:∀i:Fin 100,(Lib.decDigits i.val).length<=20:=SM
 have:=a ⟨i,h⟩;simpa[ByteArray.size]using this
def nK(l:List UInt8):(⟨l.toArray⟩:ByteArray).size=l.length:=S3
def sx(c):(⟨#[c]⟩:ByteArray).size=1:=rfl
def yX{S w}{D d:Nat}{A}{m c:Nat}{args}(h:jT (ko .u8 D) S w (.slice A m c) args)(hg:∀a∈args,lT d a)(hs:∀a∈args,Ic d a){i:Nat}(hi:i<args.length):
  ∃b o e j f k g,A=some ⟨b,o,none⟩/\S b/\jT (ko .u8 j) S w (.slice f k g) e.args/\lT d e/\Ic d e/\
   w.cell? ⟨b,o+i*4,none⟩=some (.int .u8 e.op)/\w.cell? ⟨b,o+i*4+1,none⟩=some (tx e.name)/\w.cell? ⟨b,o+i*4+2,none⟩=some (.int .i64 e.n)/\w.cell? ⟨b,o+i*4+3,none⟩=some (.slice f k g):=by
 obtain⟨b,o,r,l,hb,hr,hc⟩:=h.kt (ko.ok .u8 D) i args[i] (Pg hi);obtain⟨j,v,rfl,rfl,hv⟩:=hr.open;obtain⟨f,g,rfl,_⟩:=hv.form;exact⟨b,o,args[i],j,f,_,g,l,hb,hv,hg _ (Q9 hi),hs _ (Q9 hi),hc 0 _ rfl,hc 1 _ rfl,hc 2 _ rfl,hc 3 _ rfl⟩
def yi(d:Nat)(dt:d<=6)(bL:∀d',d=d'+1->N5 d'/\MG d'):MG d:=by
 intro S w e D A m c hL hv hg hm hS;obtain⟨d',rfl⟩:∃d',d=d'+1:=by cases d with|zero=>exact hg.elim|succ d'=>exact⟨d',rfl⟩
 obtain⟨ch,ci⟩:=bL d' rfl;obtain⟨⟨x,du,hx,bf,bM,bN,_,_⟩,bO⟩:=hg;obtain⟨bg,bP⟩:=hm;have bQ:e.name.length<=12:=by cases l:x.2.1 with|true=>have aR:=bM l;unfold mm at aR;simp only[Qh,QW]at aR;omega|false=>rw[bN l];simp
 have bR:=zw x (O5 hx);obtain⟨k,bS⟩:∃k:Nat,k=e.op.toNat:=⟨_,rfl⟩
 have bT:e.op=(k:Int):=SE
 rw[<-bS]at hx;have cj:1<=k:=SE
 obtain⟨bh,bi⟩:=CU k x hx;have bj:m=x.1:=SC hv.len.1
 have bU:=hL;have ck:=O0 hx;have cl:=hv;have bV:=hS;have aS:=bO;have aT:=bP;have an:=ch;have bW:=ci;have bX:k=1->∃i:Nat,i<100/\e.n=(i:Int):=λh=>by obtain⟨bY,dv⟩:=bg SE;exact⟨e.n.toNat,SE,SE⟩
 have cm:=O0 bf;obtain⟨nm,bk⟩:=Xq e.name;obtain⟨aU,bl⟩:=Xq e.n;rw[bT,<-bk,<-bl];rw[<-bk]at bQ;rw[<-bl]at bX;obtain⟨ao,aV,E,ap⟩:=x;simp only at bf bR bj bh bi;have bZ:TB (d'+1)=2*TB d'+40:=rfl;have aa:=O0 bZ;have dw:TB d'<=2520:=Ge SE;have aj:(⟨ap.toArray⟩:ByteArray).size<=10:=by rw[nK];exact bR
 have ca:(⟨nm.toArray⟩:ByteArray).size<=12:=by rw[nK];exact bQ
 have bm:=(And.intro bh bi)
 have aW:=O0 bj;clear hS bO bP bL bM bN hx bS bT bg bk bl bf bZ bh bi bj;have aX:=Ba w (.cells #[.int .u8 (k:Int),tx nm,aU,.slice A m c] 196);have bn:=aX;have aY:=O0 (O2 w (.cells #[.int .u8 (k:Int),tx nm,aU,.slice A m c] 196));have av:(w.alloc (.cells #[.int .u8 (k:Int),tx nm,aU,.slice A m c] 196)).heap.size=w+1:=SG
 have cn:=O0 av;clear av
 go_enter func207,ntmps207
 go_upto_region 1 with fail;have av:=cn.o;generalize w.alloc (.cells #[.int .u8 (k:Int),tx nm,aU,.slice A m c] 196)=co at*;obtain⟨t,ad⟩:=Xq w.heap.size;rw[<-ad]at aY bn av⊢;have bo:=O0 ad;clear ad;have z:=jN aY.o 0;go_wp21;apply(rT k _ ck.o cj _ (bU.to (bo.o▸bn))).M;rintro ak al ⟨rfl,ad⟩;have cp:=ad.size;have cq:=ad;have cr:t<al:=SE
 obtain⟨⟨z,F,G,I⟩,_⟩:=kn ((ad.B t SE).T aY.o);have cs:=O0 ((ad.B t SE).T aY.o);go_upto_region 2 with fail;have R:=O0 (O2 al (.cells #[.int .i64 (ao:Int),aV,E,.string ⟨ap.toArray⟩] 337));have aX:=Ba al (.cells #[.int .i64 (ao:Int),aV,E,.string ⟨ap.toArray⟩] 337);have cb:(al.alloc (.cells #[.int .i64 (ao:Int),aV,E,.string ⟨ap.toArray⟩] 337)).heap.size=al+1:=SG
 have T:=((bo.o▸bn:Below w w co).T ((cq.T (aX.M cp)).M (SC bo.o)))
 have V:=O0 ((aX.B t cr).T cs.o);obtain⟨u,cc⟩:=Xq al.heap.size;rw[<-cc]at R cb⊢
 generalize al.alloc (.cells #[.int .i64 (ao:Int),aV,E,.string ⟨ap.toArray⟩] 337)=p at*;obtain⟨dx,cd⟩:∃q:ByteArray,q=⟨ap.toArray⟩:=⟨_,rfl⟩
 rw[<-cd]at R aj;have ab:t<p:=SE
 have ac:u<p:=SE
 have ae:=(bU.to T)
 have aZ:=(cl.jP (ko.ok .u8 _) (λq l=>T.B q (bV q l)))
 have aq:=T.size;have y:∀q,S q->q<p:=λq l=>SC (bV q l)
 clear z F G I cc cd cb av;obtain⟨⟨z,F,G,I⟩,_⟩:=kn V.o;obtain⟨⟨ar,ak,au,e3⟩,_⟩:=kn R.o;have ba:=O0 cm.o;by_cases bY:k=1
 .subst bY;obtain⟨i,hi,rfl⟩:=bX rfl;go_wp21;apply(Tryz.strconv_FormatInt_10_small i hi _).M;rintro dy dz ⟨rfl,rfl⟩;go_wp21;go_ret;exact⟨_,rfl,SD (zj i hi) aa.o,T⟩
 by_cases ct:k=5\/k=8
 .rcases ct with rfl|rfl
  .go_wp21;go_ret;exact⟨_,rfl,by rw[Pr];have:=aa.o;omega,T⟩
  go_wp21;go_ret;exact⟨_,rfl,by rw[Pr];have:=aa.o;omega,T⟩
 by_cases cu:k=6\/k=7
 .have aw:ao=1:=bm.1 SE;obtain⟨b,j,a0,af,N,O,P,ax,ay,az,aA,aB,J,K,L,M⟩:=yX aZ aS aT (i:=0) (SC ba.o);subst ax;have n:=y _ ay;have ag:=az;have Q:=(And.intro aA aB)
  rw[Ro,Pc]at J K L M;have r:=(And.intro J (And.intro K (And.intro L M)))
  clear J K L M;have ce:0<m:=SC aW.o;rcases cu with rfl|rfl
  .go_wp21;clear z F G I ar ak au e3;refine Ri (λx=>Below p p x) (mi [(Pp u 3),Tr,(Pp t 1),Tr,Tr,Tr,(Pp t 3),(·=.slice (some ⟨b,j,none⟩) m c),(Pp b j),(·=.agg #[.int .u8 a0.op,tx a0.name,a0.n,.slice N O P]),Tr,Tr,Tr,Tr]) [(1,λv w=>∃s:ByteArray,v=.string s/\s.size<=10),(3,λv w=>∃s:ByteArray,v=.string s/\s.size<=12),(4,λv w=>∃s:ByteArray,v=.string s/\s.size<=22),(5,λv w=>∃s:ByteArray,v=.string s/\s.size<=23),(10,λv w=>∃s:ByteArray,v=.string s/\s.size<=(TB d')),(11,λv w=>∃s:ByteArray,v=.string s/\s.size<=(TB d'+23)),(12,λv w=>∃s:ByteArray,v=.string s/\s.size<=(TB d'+24)),(13,λv w=>∃s:ByteArray,v=.string s/\s.size<=(TB d'+24))] ((Below.refl _ _).drew) ⟨?_,?_,?_,?_,?_,?_,?_,?_,?_,?_,?_,?_,?_,?_,trivial⟩ ?_;exact .f 3;intro f w a hf hv hd hw;exact .l 30 (hv 0 _ rfl rfl) (jU ((a.B u ac).T R.o) 3 _ rfl) ⟨trivial,a,Qc ⟨_,rfl,aj⟩<|Qa⟩;exact .f 1;intro f w a hf hv hd hw;exact .l 32 (hv 2 _ rfl rfl) (jU ((a.B t ab).T V.o) 1 _ rfl) ⟨trivial,a,Qb<|Qc ⟨_,rfl,ca⟩<|Qa⟩;intro f w a hf hv hd hw;obtain⟨aC,bp,cv⟩:=kE hd 0;have cw:=Sl 31 bp;obtain⟨aD,bq,cx⟩:=kE hd 1;have cy:=Sl 33 bq;have U:¬(9223372036854775807<aC.size+aD.size):=SE;exact .q (g:=⟨trivial,a,Q2<|Qc ⟨aC++aD,rfl,by first|omega|(rw[Pr];(try simp only[sx]);omega)⟩<|Qa⟩);intro f w a hf hv hd hw;obtain⟨aE,br,cz⟩:=kE hd 2;have cA:=Sl 34 br;have U:¬(9223372036854775807<aE.size+1):=SE;exact .q (g:=⟨trivial,a,Q2<|Qb<|Qc ⟨aE++⟨#[91]⟩,rfl,by first|omega|(rw[Pr];(try simp only[sx]);omega)⟩<|Qa⟩);exact .f 1;exact .l 36 6 λ_ a=>jU ((a.B t ab).T V.o) 3 _ rfl;intro f w a hf hv hd hw;have cB:=Sv 37 hv 7;exact .q (g:=⟨rfl,a,Qa⟩);intro f w a hf hv hd hw;have cC:=Sv 38 hv 8;have z:=(Cb b j (a.B b n)).T r.1;have F:=(Cb b (j+1) (a.B b n)).T r.2.1;have G:=(Cb b (j+2) (a.B b n)).T r.2.2.1;have I:=(Cb b (j+3) (a.B b n)).T r.2.2.2;replace a:=Hq a;exact .q (g:=⟨rfl,a.o,Qa⟩);intro f w a hf hv hd hw;have cD:=Sv 39 hv 9;have hSw:∀q,S q->q<w:=λq l=>SD (y q l) a.size;replace a:=Hq a;refine .c (bW S w a0 af N O P (ae.to a.o) (ag.jP (ko.ok .u8 _) (λq l=>a.o.B q (y q l))) Q.1 Q.2 hSw) ?_;rintro e w' ⟨s,rfl,hz,hb⟩;exact⟨_,rfl,⟨trivial,a.o.T (hb.M a.o.size),Q4<|Qc ⟨_,rfl,hz⟩<|Q2<|Qb<|Qe⟩⟩;intro f w a hf hv hd hw;obtain⟨aF,bs,cE⟩:=kE hd 3;have cF:=Sl 35 bs;obtain⟨aG,bt,cG⟩:=kE hd 4;have cH:=Sl 40 bt;have U:¬(9223372036854775807<aF.size+aG.size):=SE;exact .q (g:=⟨trivial,a,Q4<|Qb<|Qc ⟨aF++aG,rfl,by first|omega|(rw[Pr];(try simp only[sx]);omega)⟩<|Qa⟩);intro f w a hf hv hd hw;obtain⟨aH,bu,cI⟩:=kE hd 5;have cJ:=Sl 41 bu;have U:¬(9223372036854775807<aH.size+1):=SE;exact .q (g:=⟨trivial,a,Q4<|Q2<|Qc ⟨aH++⟨#[93]⟩,rfl,by first|omega|(rw[Pr];(try simp only[sx]);omega)⟩<|Qa⟩);intro f w a hf hv hd hw;obtain⟨cK,bv,bw⟩:=kE hd 6;exact .p 42 bv ⟨trivial,a,Q4<|Q2<|Qb<|Qc ⟨_,rfl,bw⟩<|Qa⟩;intro aI W X Y B;obtain⟨aJ,C,aK⟩:=B _ (Mm 7 rfl) Lb;have Z:Below p p W:=X;clear Y B;simp only[mP,C];clear C;go_wp21;go_ret;exact⟨_,rfl,SC aa.o,T.T (Z.M aq)⟩
  go_wp21;clear z F G I ar ak au e3;refine Ri (λx=>Below p p x) (mi [(Pp u 3),Tr,(Pp t 1),Tr,Tr,Tr,(Pp t 3),(·=.slice (some ⟨b,j,none⟩) m c),(Pp b j),(·=.agg #[.int .u8 a0.op,tx a0.name,a0.n,.slice N O P]),Tr,Tr,Tr,Tr]) [(1,λv w=>∃s:ByteArray,v=.string s/\s.size<=10),(3,λv w=>∃s:ByteArray,v=.string s/\s.size<=12),(4,λv w=>∃s:ByteArray,v=.string s/\s.size<=22),(5,λv w=>∃s:ByteArray,v=.string s/\s.size<=23),(10,λv w=>∃s:ByteArray,v=.string s/\s.size<=(TB d')),(11,λv w=>∃s:ByteArray,v=.string s/\s.size<=(TB d'+23)),(12,λv w=>∃s:ByteArray,v=.string s/\s.size<=(TB d'+24)),(13,λv w=>∃s:ByteArray,v=.string s/\s.size<=(TB d'+24))] ((Below.refl _ _).drew) ⟨?_,?_,?_,?_,?_,?_,?_,?_,?_,?_,?_,?_,?_,?_,trivial⟩ ?_;exact .f 3;intro f w a hf hv hd hw;exact .l 30 (hv 0 _ rfl rfl) (jU ((a.B u ac).T R.o) 3 _ rfl) ⟨trivial,a,Qc ⟨_,rfl,aj⟩<|Qa⟩;exact .f 1;intro f w a hf hv hd hw;exact .l 32 (hv 2 _ rfl rfl) (jU ((a.B t ab).T V.o) 1 _ rfl) ⟨trivial,a,Qb<|Qc ⟨_,rfl,ca⟩<|Qa⟩;intro f w a hf hv hd hw;obtain⟨aC,bp,cv⟩:=kE hd 0;have cw:=Sl 31 bp;obtain⟨aD,bq,cx⟩:=kE hd 1;have cy:=Sl 33 bq;have U:¬(9223372036854775807<aC.size+aD.size):=SE;exact .q (g:=⟨trivial,a,Q2<|Qc ⟨aC++aD,rfl,by first|omega|(rw[Pr];(try simp only[sx]);omega)⟩<|Qa⟩);intro f w a hf hv hd hw;obtain⟨aE,br,cz⟩:=kE hd 2;have cA:=Sl 34 br;have U:¬(9223372036854775807<aE.size+1):=SE;exact .q (g:=⟨trivial,a,Q2<|Qb<|Qc ⟨aE++⟨#[91]⟩,rfl,by first|omega|(rw[Pr];(try simp only[sx]);omega)⟩<|Qa⟩);exact .f 1;exact .l 36 6 λ_ a=>jU ((a.B t ab).T V.o) 3 _ rfl;intro f w a hf hv hd hw;have cB:=Sv 37 hv 7;exact .q (g:=⟨rfl,a,Qa⟩);intro f w a hf hv hd hw;have cC:=Sv 38 hv 8;have z:=(Cb b j (a.B b n)).T r.1;have F:=(Cb b (j+1) (a.B b n)).T r.2.1;have G:=(Cb b (j+2) (a.B b n)).T r.2.2.1;have I:=(Cb b (j+3) (a.B b n)).T r.2.2.2;replace a:=Hq a;exact .q (g:=⟨rfl,a.o,Qa⟩);intro f w a hf hv hd hw;have cD:=Sv 39 hv 9;have hSw:∀q,S q->q<w:=λq l=>SD (y q l) a.size;replace a:=Hq a;refine .c (bW S w a0 af N O P (ae.to a.o) (ag.jP (ko.ok .u8 _) (λq l=>a.o.B q (y q l))) Q.1 Q.2 hSw) ?_;rintro e w' ⟨s,rfl,hz,hb⟩;exact⟨_,rfl,⟨trivial,a.o.T (hb.M a.o.size),Q4<|Qc ⟨_,rfl,hz⟩<|Q2<|Qb<|Qe⟩⟩;intro f w a hf hv hd hw;obtain⟨aF,bs,cE⟩:=kE hd 3;have cF:=Sl 35 bs;obtain⟨aG,bt,cG⟩:=kE hd 4;have cH:=Sl 40 bt;have U:¬(9223372036854775807<aF.size+aG.size):=SE;exact .q (g:=⟨trivial,a,Q4<|Qb<|Qc ⟨aF++aG,rfl,by first|omega|(rw[Pr];(try simp only[sx]);omega)⟩<|Qa⟩);intro f w a hf hv hd hw;obtain⟨aH,bu,cI⟩:=kE hd 5;have cJ:=Sl 41 bu;have U:¬(9223372036854775807<aH.size+1):=SE;exact .q (g:=⟨trivial,a,Q4<|Q2<|Qc ⟨aH++⟨#[93]⟩,rfl,by first|omega|(rw[Pr];(try simp only[sx]);omega)⟩<|Qa⟩);intro f w a hf hv hd hw;obtain⟨cK,bv,bw⟩:=kE hd 6;exact .p 42 bv ⟨trivial,a,Q4<|Q2<|Qb<|Qc ⟨_,rfl,bw⟩<|Qa⟩;intro aI W X Y B;obtain⟨aJ,C,aK⟩:=B _ (Mm 7 rfl) Lb;have Z:Below p p W:=X;clear Y B;simp only[mP,C];clear C;go_wp21;go_ret;exact⟨_,rfl,SC aa.o,T.T (Z.M aq)⟩
 by_cases aR:k=9\/k=10
 .have aw:ao=1:=bm.1 SE;obtain⟨b,j,a0,af,N,O,P,ax,ay,az,aA,aB,J,K,L,M⟩:=yX aZ aS aT (i:=0) (SC ba.o);subst ax;have n:=y _ ay;have ag:=az;have Q:=(And.intro aA aB)
  rw[Ro,Pc]at J K L M;have r:=(And.intro J (And.intro K (And.intro L M)))
  clear J K L M;have ce:0<m:=SC aW.o;rcases aR with rfl|rfl
  .go_wp21;clear z F G I ar ak au e3;refine Ri (λx=>Below p p x) (mi [(Pp u 3),Tr,(Pp t 3),(·=.slice (some ⟨b,j,none⟩) m c),(Pp b j),(·=.agg #[.int .u8 a0.op,tx a0.name,a0.n,.slice N O P]),(Pp u 2),(·=E),Tr,Tr,Tr]) [(1,λv w=>∃s:ByteArray,v=.string s/\s.size<=10),(8,λv w=>∃s:ByteArray,v=.string s/\s.size<=(TB d'+2)),(9,λv w=>∃s:ByteArray,v=.string s/\s.size<=(TB d'+12)),(10,λv w=>∃s:ByteArray,v=.string s/\s.size<=(TB d'+12))] ((Below.refl _ _).drew) ⟨?_,?_,?_,?_,?_,?_,?_,?_,?_,?_,?_,trivial⟩ ?_;exact .f 3;intro f w a hf hv hd hw;exact .l 46 (hv 0 _ rfl rfl) (jU ((a.B u ac).T R.o) 3 _ rfl) ⟨trivial,a,Qc ⟨_,rfl,aj⟩<|Qa⟩;exact .f 1;exact .l 48 2 λ_ a=>jU ((a.B t ab).T V.o) 3 _ rfl;intro f w a hf hv hd hw;have cL:=Sv 49 hv 3;exact .q (g:=⟨rfl,a,Qa⟩);intro f w a hf hv hd hw;have cM:=Sv 50 hv 4;have z:=(Cb b j (a.B b n)).T r.1;have F:=(Cb b (j+1) (a.B b n)).T r.2.1;have G:=(Cb b (j+2) (a.B b n)).T r.2.2.1;have I:=(Cb b (j+3) (a.B b n)).T r.2.2.2;replace a:=Hq a;exact .q (g:=⟨rfl,a.o,Qa⟩);exact .f 3;exact .l 52 6 λ_ a=>jU ((a.B u ac).T R.o) 2 _ rfl;intro f w a hf hv hd hw;have cN:=Sv 51 hv 5;have cO:=Sv 53 hv 7;have hSw:∀q,S q->q<w:=λq l=>SD (y q l) a.size;replace a:=Hq a;refine .c (an S w a0 af N O P (E:Int) (ae.to a.o) (ag.jP (ko.ok .u8 _) (λq l=>a.o.B q (y q l))) Q.1 Q.2 hSw) ?_;rintro e w' ⟨s,rfl,hz,hb⟩;exact⟨_,rfl,⟨trivial,a.o.T (hb.M a.o.size),Qb<|Qc ⟨_,rfl,hz⟩<|Q2<|Qe⟩⟩;intro f w a hf hv hd hw;obtain⟨aL,bx,cP⟩:=kE hd 0;have cQ:=Sl 47 bx;obtain⟨aM,bz,cR⟩:=kE hd 1;have cS:=Sl 54 bz;have U:¬(9223372036854775807<aL.size+aM.size):=SE;exact .q (g:=⟨trivial,a,Q2<|Qc ⟨aL++aM,rfl,by first|omega|(rw[Pr];(try simp only[sx]);omega)⟩<|Qa⟩);intro f w a hf hv hd hw;obtain⟨cT,bA,bB⟩:=kE hd 2;exact .p 55 bA ⟨trivial,a,Q2<|Qb<|Qc ⟨_,rfl,bB⟩<|Qa⟩;intro aI W X Y B;obtain⟨aJ,C,aK⟩:=B _ (Mm 3 rfl) Lb;have Z:Below p p W:=X;clear Y B;simp only[mP,C];clear C;go_wp21;go_ret;exact⟨_,rfl,SC aa.o,T.T (Z.M aq)⟩
  go_wp21;clear z F G I ar ak au e3;refine Ri (λx=>Below p p x) (mi [(Pp u 3),Tr,(Pp t 3),(·=.slice (some ⟨b,j,none⟩) m c),(Pp b j),(·=.agg #[.int .u8 a0.op,tx a0.name,a0.n,.slice N O P]),(Pp u 2),(·=E),Tr,Tr,Tr]) [(1,λv w=>∃s:ByteArray,v=.string s/\s.size<=10),(8,λv w=>∃s:ByteArray,v=.string s/\s.size<=(TB d'+2)),(9,λv w=>∃s:ByteArray,v=.string s/\s.size<=(TB d'+12)),(10,λv w=>∃s:ByteArray,v=.string s/\s.size<=(TB d'+12))] ((Below.refl _ _).drew) ⟨?_,?_,?_,?_,?_,?_,?_,?_,?_,?_,?_,trivial⟩ ?_;exact .f 3;intro f w a hf hv hd hw;exact .l 46 (hv 0 _ rfl rfl) (jU ((a.B u ac).T R.o) 3 _ rfl) ⟨trivial,a,Qc ⟨_,rfl,aj⟩<|Qa⟩;exact .f 1;exact .l 48 2 λ_ a=>jU ((a.B t ab).T V.o) 3 _ rfl;intro f w a hf hv hd hw;have cL:=Sv 49 hv 3;exact .q (g:=⟨rfl,a,Qa⟩);intro f w a hf hv hd hw;have cM:=Sv 50 hv 4;have z:=(Cb b j (a.B b n)).T r.1;have F:=(Cb b (j+1) (a.B b n)).T r.2.1;have G:=(Cb b (j+2) (a.B b n)).T r.2.2.1;have I:=(Cb b (j+3) (a.B b n)).T r.2.2.2;replace a:=Hq a;exact .q (g:=⟨rfl,a.o,Qa⟩);exact .f 3;exact .l 52 6 λ_ a=>jU ((a.B u ac).T R.o) 2 _ rfl;intro f w a hf hv hd hw;have cN:=Sv 51 hv 5;have cO:=Sv 53 hv 7;have hSw:∀q,S q->q<w:=λq l=>SD (y q l) a.size;replace a:=Hq a;refine .c (an S w a0 af N O P (E:Int) (ae.to a.o) (ag.jP (ko.ok .u8 _) (λq l=>a.o.B q (y q l))) Q.1 Q.2 hSw) ?_;rintro e w' ⟨s,rfl,hz,hb⟩;exact⟨_,rfl,⟨trivial,a.o.T (hb.M a.o.size),Qb<|Qc ⟨_,rfl,hz⟩<|Q2<|Qe⟩⟩;intro f w a hf hv hd hw;obtain⟨aL,bx,cP⟩:=kE hd 0;have cQ:=Sl 47 bx;obtain⟨aM,bz,cR⟩:=kE hd 1;have cS:=Sl 54 bz;have U:¬(9223372036854775807<aL.size+aM.size):=SE;exact .q (g:=⟨trivial,a,Q2<|Qc ⟨aL++aM,rfl,by first|omega|(rw[Pr];(try simp only[sx]);omega)⟩<|Qa⟩);intro f w a hf hv hd hw;obtain⟨cT,bA,bB⟩:=kE hd 2;exact .p 55 bA ⟨trivial,a,Q2<|Qb<|Qc ⟨_,rfl,bB⟩<|Qa⟩;intro aI W X Y B;obtain⟨aJ,C,aK⟩:=B _ (Mm 3 rfl) Lb;have Z:Below p p W:=X;clear Y B;simp only[mP,C];clear C;go_wp21;go_ret;exact⟨_,rfl,SC aa.o,T.T (Z.M aq)⟩
 have dA:((k:Int)==1)=false:=by rw[O8];omega
 have dB:((k:Int)==5)=false:=by rw[O8];omega
 have dC:((k:Int)==6)=false:=by rw[O8];omega
 have dD:((k:Int)==7)=false:=by rw[O8];omega
 have dE:((k:Int)==8)=false:=by rw[O8];omega
 have dF:((k:Int)==9)=false:=by rw[O8];omega
 have dG:((k:Int)==10)=false:=by rw[O8];omega
 rcases bm.2 ⟨SE,SE,SE,SE,SE,SE,SE⟩with aw|aw
 .subst aw;go_wp21;go_ret;exact⟨_,rfl,SC aa.o,T⟩
 obtain⟨b,j,a0,af,N,O,P,ax,ay,az,aA,aB,J,K,L,M⟩:=yX aZ aS aT (i:=0) (SC ba.o);subst ax;have n:=y _ ay;have ag:=az;have Q:=(And.intro aA aB)
 rw[Ro,Pc]at J K L M;have r:=(And.intro J (And.intro K (And.intro L M)))
 clear J K L M;obtain⟨dH,dI,ah,cf,bb,bc,bd,bC,dJ,cU,cV,cW,J,K,L,M⟩:=yX aZ aS aT (i:=1) (SC ba.o);injection bC with bC;injection bC with cX cY;subst cX;subst cY;have cg:=cU;have be:=(And.intro cV cW)
 rw[Nat.one_mul]at J K L M;have ai:=(And.intro J (And.intro K (And.intro L M)))
 clear J K L M;subst aw;have ce:0<m:=SC aW.o
 have bg:(1:Int)<(m:Int):=SC aW.o
 by_cases bD:E=3
 .have cZ:((E:Int)==3)=true:=(by rw[bD];rfl);have dK:IntKind.i64.wrap ((E:Int)+1)=4:=(by rw[bD];rfl);clear bD;go_wp21;clear z F G I ar ak au e3;refine Ri (λx=>Below p p x) (mi [(Pp t 3),(·=.slice (some ⟨b,j,none⟩) m c),(Pp b j),(·=.agg #[.int .u8 a0.op,tx a0.name,a0.n,.slice N O P]),(·=.int .i64 4),Tr,(Pp u 3),Tr,Tr,(Pp t 3),(·=.slice (some ⟨b,j,none⟩) m c),(Pp b (j+4)),(·=.agg #[.int .u8 ah.op,tx ah.name,ah.n,.slice bb bc bd]),(Pp u 2),(·=E),Tr,Tr,Tr,Tr]) [(5,λv w=>∃s:ByteArray,v=.string s/\s.size<=(TB d'+2)),(7,λv w=>∃s:ByteArray,v=.string s/\s.size<=10),(8,λv w=>∃s:ByteArray,v=.string s/\s.size<=(TB d'+12)),(15,λv w=>∃am:Int,v=am),(16,λv w=>∃s:ByteArray,v=.string s/\s.size<=(TB d'+2)),(17,λv w=>∃s:ByteArray,v=.string s/\s.size<=(2*TB d'+14)),(18,λv w=>∃s:ByteArray,v=.string s/\s.size<=(2*TB d'+14))] ((Below.refl _ _).drew) ⟨?_,?_,?_,?_,?_,?_,?_,?_,?_,?_,?_,?_,?_,?_,?_,?_,?_,?_,?_,trivial⟩ ?_;exact .f 1;exact .l 67 0 λ_ a=>jU ((a.B t ab).T V.o) 3 _ rfl;intro f w a hf hv hd hw;have da:=Sv 68 hv 1;exact .q (g:=⟨rfl,a,Qa⟩);intro f w a hf hv hd hw;have db:=Sv 69 hv 2;have z:=(Cb b j (a.B b n)).T r.1;have F:=(Cb b (j+1) (a.B b n)).T r.2.1;have G:=(Cb b (j+2) (a.B b n)).T r.2.2.1;have I:=(Cb b (j+3) (a.B b n)).T r.2.2.2;replace a:=Hq a;exact .q (g:=⟨rfl,a.o,Qa⟩);exact .f 5;intro f w a hf hv hd hw;have dc:=Sv 70 hv 3;have dd:=Sv 71 hv 4;have hSw:∀q,S q->q<w:=λq l=>SD (y q l) a.size;replace a:=Hq a;refine .c (an S w a0 af N O P 4 (ae.to a.o) (ag.jP (ko.ok .u8 _) (λq l=>a.o.B q (y q l))) Q.1 Q.2 hSw) ?_;rintro e w' ⟨s,rfl,hz,hb⟩;exact⟨_,rfl,⟨trivial,a.o.T (hb.M a.o.size),Qc ⟨_,rfl,hz⟩<|Q4<|Q2<|Qe⟩⟩;exact .f 3;intro f w a hf hv hd hw;exact .l 73 (hv 6 _ rfl rfl) (jU ((a.B u ac).T R.o) 3 _ rfl) ⟨trivial,a,Qb<|Qc ⟨_,rfl,aj⟩<|Qa⟩;intro f w a hf hv hd hw;obtain⟨aN,bE,de⟩:=kE hd 0;have df:=Sl 72 bE;obtain⟨aO,bF,dg⟩:=kE hd 1;have dh:=Sl 74 bF;have U:¬(9223372036854775807<aN.size+aO.size):=SE;exact .q (g:=⟨trivial,a,Q2<|Qc ⟨aN++aO,rfl,by first|omega|(rw[Pr];(try simp only[sx]);omega)⟩<|Qa⟩);exact .f 1;exact .l 76 9 λ_ a=>jU ((a.B t ab).T V.o) 3 _ rfl;intro f w a hf hv hd hw;have di:=Sv 77 hv 10;exact .q (g:=⟨rfl,a,Qa⟩);intro f w a hf hv hd hw;have dj:=Sv 78 hv 11;have z:=(Cb b (j+4) (a.B b n)).T ai.1;have F:=(Cb b (j+4+1) (a.B b n)).T ai.2.1;have G:=(Cb b (j+4+2) (a.B b n)).T ai.2.2.1;have I:=(Cb b (j+4+3) (a.B b n)).T ai.2.2.2;replace a:=Hq a;exact .q (g:=⟨rfl,a.o,Qa⟩);exact .f 3;exact .l 80 13 λ_ a=>jU ((a.B u ac).T R.o) 2 _ rfl;intro f w a hf hv hd hw;have dk:=Sv 81 hv 14;exact .q (g:=⟨trivial,a,Q2<|Qb<|Qc ⟨_,rfl⟩<|Qa⟩);intro f w a hf hv hd hw;have dl:=Sv 79 hv 12;obtain⟨am,bG⟩:=kE hd 3;have dm:=Sl 82 bG;have hSw:∀q,S q->q<w:=λq l=>SD (y q l) a.size;replace a:=Hq a;refine .c (an S w ah cf bb bc bd am (ae.to a.o) (cg.jP (ko.ok .u8 _) (λq l=>a.o.B q (y q l))) be.1 be.2 hSw) ?_;rintro e w' ⟨s,rfl,hz,hb⟩;exact⟨_,rfl,⟨trivial,a.o.T (hb.M a.o.size),Q4<|Qc ⟨_,rfl,hz⟩<|Q2<|Qe⟩⟩;intro f w a hf hv hd hw;obtain⟨aP,bH,dn⟩:=kE hd 2;have dp:=Sl 75 bH;obtain⟨aQ,bI,dq⟩:=kE hd 4;have dr:=Sl 83 bI;have U:¬(9223372036854775807<aP.size+aQ.size):=SE;exact .q (g:=⟨trivial,a,Q4<|Qb<|Qc ⟨aP++aQ,rfl,by first|omega|(rw[Pr];(try simp only[sx]);omega)⟩<|Qa⟩);intro f w a hf hv hd hw;obtain⟨ds,bJ,bK⟩:=kE hd 5;exact .p 84 bJ ⟨trivial,a,Q4<|Q2<|Qc ⟨_,rfl,bK⟩<|Qa⟩;intro aI W X Y B;obtain⟨aJ,C,aK⟩:=B _ (Mm 6 rfl) Lb;have Z:Below p p W:=X;clear Y B;simp only[mP,C];clear C;go_wp21;go_ret;exact⟨_,rfl,SC aa.o,T.T (Z.M aq)⟩
 have cZ:((E:Int)==3)=false:=by rw[O8];omega
 go_wp21;clear z F G I ar ak au e3;refine Ri (λx=>Below p p x) (mi [(Pp t 3),(·=.slice (some ⟨b,j,none⟩) m c),(Pp b j),(·=.agg #[.int .u8 a0.op,tx a0.name,a0.n,.slice N O P]),(·=E),Tr,(Pp u 3),Tr,Tr,(Pp t 3),(·=.slice (some ⟨b,j,none⟩) m c),(Pp b (j+4)),(·=.agg #[.int .u8 ah.op,tx ah.name,ah.n,.slice bb bc bd]),(Pp u 2),(·=E),Tr,Tr,Tr,Tr]) [(5,λv w=>∃s:ByteArray,v=.string s/\s.size<=(TB d'+2)),(7,λv w=>∃s:ByteArray,v=.string s/\s.size<=10),(8,λv w=>∃s:ByteArray,v=.string s/\s.size<=(TB d'+12)),(15,λv w=>∃am:Int,v=am),(16,λv w=>∃s:ByteArray,v=.string s/\s.size<=(TB d'+2)),(17,λv w=>∃s:ByteArray,v=.string s/\s.size<=(2*TB d'+14)),(18,λv w=>∃s:ByteArray,v=.string s/\s.size<=(2*TB d'+14))] ((Below.refl _ _).drew) ⟨?_,?_,?_,?_,?_,?_,?_,?_,?_,?_,?_,?_,?_,?_,?_,?_,?_,?_,?_,trivial⟩ ?_;exact .f 1;exact .l 67 0 λ_ a=>jU ((a.B t ab).T V.o) 3 _ rfl;intro f w a hf hv hd hw;have da:=Sv 68 hv 1;exact .q (g:=⟨rfl,a,Qa⟩);intro f w a hf hv hd hw;have db:=Sv 69 hv 2;have z:=(Cb b j (a.B b n)).T r.1;have F:=(Cb b (j+1) (a.B b n)).T r.2.1;have G:=(Cb b (j+2) (a.B b n)).T r.2.2.1;have I:=(Cb b (j+3) (a.B b n)).T r.2.2.2;replace a:=Hq a;exact .q (g:=⟨rfl,a.o,Qa⟩);exact .f 5;intro f w a hf hv hd hw;have dc:=Sv 70 hv 3;have dd:=Sv 71 hv 4;have hSw:∀q,S q->q<w:=λq l=>SD (y q l) a.size
 replace a:=Hq a;refine .c (an S w a0 af N O P (E:Int) (ae.to a.o) (ag.jP (ko.ok .u8 _) (λq l=>a.o.B q (y q l))) Q.1 Q.2 hSw) ?_;rintro e w' ⟨s,rfl,hz,hb⟩;exact⟨_,rfl,⟨trivial,a.o.T (hb.M a.o.size),Qc ⟨_,rfl,hz⟩<|Q4<|Q2<|Qe⟩⟩;exact .f 3;intro f w a hf hv hd hw;exact .l 73 (hv 6 _ rfl rfl) (jU ((a.B u ac).T R.o) 3 _ rfl) ⟨trivial,a,Qb<|Qc ⟨_,rfl,aj⟩<|Qa⟩;intro f w a hf hv hd hw;obtain⟨aN,bE,de⟩:=kE hd 0;have df:=Sl 72 bE;obtain⟨aO,bF,dg⟩:=kE hd 1;have dh:=Sl 74 bF;have U:¬(9223372036854775807<aN.size+aO.size):=SE
 exact .q (g:=⟨trivial,a,Q2<|Qc ⟨aN++aO,rfl,by first|omega|(rw[Pr];(try simp only[sx]);omega)⟩<|Qa⟩);exact .f 1;exact .l 76 9 λ_ a=>jU ((a.B t ab).T V.o) 3 _ rfl;intro f w a hf hv hd hw;have di:=Sv 77 hv 10;exact .q (g:=⟨rfl,a,Qa⟩);intro f w a hf hv hd hw;have dj:=Sv 78 hv 11;have z:=(Cb b (j+4) (a.B b n)).T ai.1;have F:=(Cb b (j+4+1) (a.B b n)).T ai.2.1;have G:=(Cb b (j+4+2) (a.B b n)).T ai.2.2.1;have I:=(Cb b (j+4+3) (a.B b n)).T ai.2.2.2;replace a:=Hq a;exact .q (g:=⟨rfl,a.o,Qa⟩);exact .f 3;exact .l 80 13 λ_ a=>jU ((a.B u ac).T R.o) 2 _ rfl;intro f w a hf hv hd hw;have dk:=Sv 81 hv 14;exact .q (g:=⟨trivial,a,Q2<|Qb<|Qc ⟨_,rfl⟩<|Qa⟩);intro f w a hf hv hd hw;have dl:=Sv 79 hv 12;obtain⟨am,bG⟩:=kE hd 3;have dm:=Sl 82 bG;have hSw:∀q,S q->q<w:=λq l=>SD (y q l) a.size
 replace a:=Hq a;refine .c (an S w ah cf bb bc bd am (ae.to a.o) (cg.jP (ko.ok .u8 _) (λq l=>a.o.B q (y q l))) be.1 be.2 hSw) ?_;rintro e w' ⟨s,rfl,hz,hb⟩;exact⟨_,rfl,⟨trivial,a.o.T (hb.M a.o.size),Q4<|Qc ⟨_,rfl,hz⟩<|Q2<|Qe⟩⟩;intro f w a hf hv hd hw;obtain⟨aP,bH,dn⟩:=kE hd 2;have dp:=Sl 75 bH;obtain⟨aQ,bI,dq⟩:=kE hd 4;have dr:=Sl 83 bI;have U:¬(9223372036854775807<aP.size+aQ.size):=SE
 exact .q (g:=⟨trivial,a,Q4<|Qb<|Qc ⟨aP++aQ,rfl,by first|omega|(rw[Pr];(try simp only[sx]);omega)⟩<|Qa⟩);intro f w a hf hv hd hw;obtain⟨ds,bJ,bK⟩:=kE hd 5;exact .p 84 bJ ⟨trivial,a,Q4<|Q2<|Qc ⟨_,rfl,bK⟩<|Qa⟩;intro aI W X Y B;obtain⟨aJ,C,aK⟩:=B _ (Mm 6 rfl) Lb;have Z:Below p p W:=X;clear Y B;simp only[mP,C];clear C;go_wp21;go_ret;exact⟨_,rfl,SC aa.o,T.T (Z.M aq)⟩
abbrev yp(a b c d e f):=(.cells #[.int .u8 (a:Int),tx b,c,.slice d e f] 196:Go.Obj)
def zx(d:Nat)(P:d<=6)(Q:MG d):N5 d:=by
 intro S w e D A m c z G hv hg hm hS;have I:=(λ(w':World) (hb:Below w w w')=>Q S w' e D A m c (G.to hb) (hv.jP (ko.ok .u8 _) (λq l=>hb.B q (hS q l))) hg hm (λq l=>O1 (hS q l) hb.size))
 obtain⟨k,x,hx,R,n⟩:∃(k:Nat) (x:Nat×Bool×Nat×List UInt8),shapes[k]?=some x/\1<=k/\e.op=(k:Int):=by
  cases d with
  |zero=>exact hg.elim
  |succ d=>obtain⟨⟨x,T,hx,_⟩,_⟩:=hg;exact⟨e.op.toNat,x,hx,SE,SE⟩
 have U:=O0 hx;obtain⟨nm,p⟩:=Xq e.name;obtain⟨i,r⟩:=Xq e.n;rw[n,<-p,<-r];rw[n,<-p,<-r]at I;obtain⟨t,u,j,v⟩:=x;have af:TB d<=2520:=Ge P;clear hS hx n p r;have y:=Ba w (yp k nm i A m c);have B:=O0 (O2 w (yp k nm i A m c));have b:(w.alloc (yp k nm i A m c)).heap.size=w+1:=SG
 have V:=O0 b;clear b
 go_enter func218,ntmps218
 go_upto_region 1 with fail;have b:=V.o;generalize w.alloc (yp k nm i A m c)=W at*;obtain⟨C,a⟩:=Xq w.heap.size;rw[<-a]at B y b⊢;have E:=O0 a;clear a;have J:=jN B.o 0;go_wp21;apply(rT k _ U.o R _ (G.to (E.o▸y))).M;rintro X f ⟨rfl,a⟩;have ag:=a.size;have Y:C<f:=SE
 have Z:=O0 ((a.B C SE).T B.o);have K:=((E.o▸y:Below w w W).T (a.M (SC E.o)))
 clear J;go_upto_region 2 with fail;have L:=O0 (O2 f (.cells #[.int .i64 (t:Int),u,j,.string ⟨v.toArray⟩] 337));have M:=Ba f (.cells #[.int .i64 (t:Int),u,j,.string ⟨v.toArray⟩] 337)
 have g:=(K.T (M.M (SC K.size)))
 have aa:=O0 ((M.B C Y).T Z.o);obtain⟨ah,N⟩:=Xq f.heap.size;rw[<-N]at L⊢;generalize f.alloc (.cells #[.int .i64 (t:Int),u,j,.string ⟨v.toArray⟩] 337)=ab at*
 clear N b;obtain⟨⟨J,ai,aj,ak⟩,_⟩:=kn aa.o;obtain⟨⟨al,X,am,e3⟩,_⟩:=kn L.o;have O:=(I ab g)
 by_cases hz:(j:Int)<z
 .go_wp21;apply O.M;rintro ac ad ⟨s,rfl,ae,F⟩;have T:¬(9223372036854775807<1+s.size):=SE;have an:((⟨#[40]⟩:ByteArray)++s).size=1+s.size:=(by rw[Pr,sx]);have ao:¬(9223372036854775807<((⟨#[40]⟩:ByteArray)++s).size+1):=SE;go_wp21;go_ret;refine⟨_,rfl,?_,g.T (F.M g.size)⟩;simp only[Pr,sx];omega
 go_wp21;apply O.M;rintro ac ad ⟨s,rfl,ae,F⟩;go_wp21;go_ret;exact⟨_,rfl,SE,g.T (F.M g.size)⟩
def wb:∀d,d<=6->MG d
 |0,h=>yi 0 h λd' e=>by omega
 |d+1,h=>yi (d+1) h λd' e=>by obtain rfl:d=d':=SE;exact⟨zx d SE (wb d SE),wb d SE⟩
def kT.Ed:Nat->St->Prop
 |0,_=>False
 |d+1,s=>(∀e∈s.kA,Ic De e)/\(∀x∈s.th,Ed d x)/\∀x∈s.el,Ed d x
def kT.xq:Nat->Nat
 |0=>0
 |d+1=>12*(3+2*xq d)
def pn(B b:Nat)(n:Int)(k:Nat)(w:World)(e:Ending)(w':World):Prop:=e=.returned (.tuple #[])/\nO B b n k w'/\kB B b w w'
def ln.wr{B b:Nat}{w w'}(h:ln w)(hb:kB B b w w')(a:J4 B):ln w':=h.jQ hb.jQ a
def sy(w:World)(b n:Nat):Prop:=∃a:List ByteArray,a.length=n/\(∀s∈a,s.size<=2520)/\w.heap[b]?=some (.cells (a.map Value.string).toArray 9 (0,0))
def sy.lt{w}{b n:Nat}(h:sy w b n):b<w:=by obtain⟨_,_,_,h⟩:=h;exact(O3.1 h).1
def sy.jP{w w'}{b n:Nat}(h:sy w b n)(a:w'.heap[b]?=w.heap[b]?):sy w' b n:=by obtain⟨c,d,e,f⟩:=h;exact⟨c,d,e,a.T f⟩
def sy.set{w}{b n:Nat}(h:sy w b n)(i:Nat){s}(hs:s.size<=2520):sy (w.setCell ⟨b,i,none⟩ (.string s)) b n:=by obtain⟨a,c,d,e⟩:=h;refine⟨a.set i s,by simpa using c,λx hx=>?_,?_⟩;rcases RT hx with h|h;exact d x h;rw[h];exact hs;have:=jO (i:=i) (u:=.string s) e;rw[this];simp[List.map_set]
def EW(n:Nat)(hn:n<=1000)(w):(Instr.makeSlice 78 (.int .i64 (n:Int)) (.int .i64 (n:Int))).run prog w=.ok (.slice w n n) (w.alloc (wi n)):=by obtain⟨b,c,d,a,e⟩:=Pu pO;have:=Qu (P:=prog) w 78 9 b _ underlying78 c d .i64 .i64 (n:Int) (n:Int) SE (QG _) (by rw[a];simp;omega) (by rw[e];omega) SE;rw[a,PG,PZ]at this;exact this
def sy.made{w}{b n:Nat}(h:w.heap[b]?=some (.cells (madeCells #[Em] n) 9 (0,0))):sy w b n:=by
 refine⟨List.replicate n ⟨#[]⟩,SG,λs hs=>by rw[List.eq_of_mem_replicate hs];decide,?_⟩;rw[h];have e:madeCells #[Value.string ⟨#[]⟩] n=((List.replicate n (⟨#[]⟩:ByteArray)).map Value.string).toArray:=by apply Array.ext';rw[List.map_replicate];refine List.eq_replicate_iff.2 ⟨by rw[Qz,QO],λu hu=>?_⟩;have:=wa _ n SG u hu;simpa using this
 rw[e]
def JS{a b:Type}(f:a->b):∀l:List a,(l.map λx=>[f x]).flatten=l.map f
 |[]=>rfl
 |_::l=>by simp[JS f l]
def KS{w:World}{b:Nat}{a:List ByteArray}(h:w.heap[b]?=some (.cells (a.map Value.string).toArray 9 (0,0)))(hn:a.length<=9):jT kh (λq=>q=b) w (.slice b a.length a.length) (a.map λs=>s.data.toList):=by
 refine⟨some ⟨b,0,none⟩,a.length,a.map λs=>[Value.string s],by rw[PY],by rw[PY];exact O9 _,SE,λ_=>⟨b,0,rfl,rfl,λc u hu=>?_⟩,?_⟩;rw[Pk];refine jU h c u ?_;rw[JS]at hu;simpa using hu;clear h hn;induction a with
 |nil=>exact trivial
 |cons s a d=>exact⟨rfl,d⟩
def yj(B b n k:Nat)(w:World)(c:Nat)(a:List ByteArray)(d:nO B b (n:Int) k w)(h:w.heap[c]?=some (.cells (a.map Value.string).toArray 9 (0,0)))(hb:c≠b)(hn:n<=100)(e:k<=100000000)(hm:a.length<=9)(hs:∀s∈a,s.size<=20000):
  Calls prog 56 #[.pointer b,.slice c a.length a.length] w (pn B b (n:Int) (k+1) w):=
 G5 (λq=>q=c) B b n k w _ _ _ _ d (KS h hm) (λq f=>by subst f;exact⟨(O3.1 h).1,hb,.inr ⟨_,h,lC SF⟩⟩) hn e hm (λx hx=>by obtain⟨s,g,rfl⟩:=Qo.1 hx;exact hs s g)
def kB.alloc{B b:Nat}{w}(a:B<=w.heap.size)(o):kB B b w (w.alloc o):=.old a (Ba _ _)
def lU(B b n k:Nat)(w:World)(a:List ByteArray)(c:nO B b (n:Int) k w)(hn:n<=100)(d:k<=100000000)(hm:a.length<=9)(hs:∀s∈a,s.size<=20000):
  Calls prog 56 #[.pointer b,.slice w a.length a.length] (w.alloc (.cells (a.map Value.string).toArray 9)) (pn B b (n:Int) (k+1) w):=
 (yj B b n k _ w a (c.jP (Ba _ _)) (O2 _ _) (SC c.lt) hn d hm hs).M λe w' h=>⟨h.1,h.2.1,(kB.alloc (SC c.lt) _).T h.2.2⟩
def I9(l)(m:Nat)(h:∀x∈l,x.length<=m):Lib.lens l<=m*l.length:=by
 induction l with
 |nil=>simp[Lib.lens]
 |cons x l a=>have b:=a λc hy=>h c (QY _ hy);have d:=h x (Qs ..);simp only[Lib.lens,PF,Sq,PA]at b⊢;rw[Nat.mul_succ];omega
def join_le(l)(h:∀x∈l,x.length<=2520)(a:l.length<=5):(Lib.join l [44,32]).length<=12700:=by
 cases l with
 |nil=>simp[Lib.join_nil]
 |cons x l=>rw[Lib.join_length];have b:=I9 (x::l) 2520 h;simp only[PA,PE]at*;omega
def AG(w)(b n o:Nat)(h:sy w b n)(hn:n<=5)(l:o<n):Calls prog 85 #[.slice (some ⟨b,o,none⟩) (n-o) (n-o),.string ⟨#[44,32]⟩] w (pk 12700 w):=by
 have d:=h.lt;obtain⟨a,f,g,i⟩:=h;have j:(Lib.join ((a.drop o).map (·.data.toList)) (⟨#[44,32]⟩:ByteArray).data.toList).length<=12700:=join_le _ (λx hx=>by obtain⟨s,hs,rfl⟩:=Qo.1 hx;exact g s (List.mem_of_mem_drop hs)) SK
 have:=Tryz.strings_Join b o (n-o) (a.drop o) ⟨#[44,32]⟩ w (λk x c=>jU i (o+k) _ (by rw[QU]at c;simp[c])) d SK SK SE;rw[R2,f]at this;apply this.M;rintro e w' ⟨he,hb⟩;exact⟨_,he,by simpa[ByteArray.size]using j,hb⟩
def join_none(w a)(c:Nat):Calls prog 85 #[.slice a 0 c,.string ⟨#[44,32]⟩] w (pk 12700 w):=by apply(Tryz.strings_Join_none a c _ w).M;rintro e w' ⟨he,rfl⟩;exact⟨_,he,SF,Below.refl _ _⟩
def EX(w)(b n:Nat)(h:sy w b n)(hn:n<=5):Calls prog 85 #[.slice b n n,.string ⟨#[44,32]⟩] w (pk 12700 w):=by rcases Qt n with rfl|a;exact join_none w _ _;exact AG w b n 0 h hn a
def Ab(d:Nat):Prop:=∀(S:Nat->Prop) (B b n k:Nat) (w:World) (A:Option Addr) (m c:Nat) (l:List St),ln w->J4 B->nO B b (n:Int) k w->jT (kp .u8 d) S w (.slice A m c) l->(∀s∈l,mV d s/\Ed d s)->m<=12->Du S B b w->n+2*d<=90->k+xq d<=90000000->
 Calls prog 149 #[.pointer b,.slice A m c] w (pn B b (n:Int) (k+xq d) w)
def JT(d:Nat):Prop:=∀(S:Nat->Prop) (B b n k:Nat) (w:World) (s:ByteArray) (A:Option Addr) (m c:Nat) (l:List St),ln w->J4 B->nO B b (n:Int) k w->jT (kp .u8 d) S w (.slice A m c) l->(∀s∈l,mV d s/\Ed d s)->m<=12->Du S B b w->n+2*d<=90->k+(3+xq d)<=90000000->s.size<=20000->
 Calls prog 208 #[.pointer b,.string s,.slice A m c] w (pn B b (n:Int) (k+(3+xq d)) w)
def JU(d:Nat):Prop:=∀(S:Nat->Prop) (B b n k:Nat) (w:World) (s:St) (a:Option Addr) (c c1:Nat) (e:Option Addr) (f c4:Nat) (g:Option Addr) (i c5:Nat),ln w->J4 B->nO B b (n:Int) k w->jT (ko .u8 De) S w (.slice a c c1) s.kA->jT (kp .u8 d) S w (.slice e f c4) s.th->jT (kp .u8 d) S w (.slice g i c5) s.el->mV (d+1) s->Ed (d+1) s->Du S B b w->n+2*d<=90->k+(3+2*xq d)<=90000000->
 Calls prog 191 #[.pointer b,.agg #[.int .u8 s.kind,tx s.name,tx s.hd,.slice a c c1,.slice e f c4,.slice g i c5]] w (pn B b (n:Int) (k+(3+2*xq d)) w)
def pn.up{B b k k':Nat}{n:Int}{w e w'}(h:pn B b n k w e w')(a:k<=k'):pn B b n k' w e w':=⟨h.1,h.2.1.up a,h.2.2⟩
def CV(w a)(c m:Nat)(hm:m=0):Calls prog 85 #[.slice a m c,.string ⟨#[44,32]⟩] w (pk 12700 w):=by subst hm;exact join_none w a c
def po(B b n k m:Nat)(w:World)(a:Nat)(c:List ByteArray)(d:c.length=m)(e:nO B b (n:Int) k w)(h:w.heap[a]?=some (.cells (c.map Value.string).toArray 9 (0,0)))(hb:a≠b)(hn:n<=100)(f:k<=100000000)(hm:m<=9)(hs:∀s∈c,s.size<=20000):
  Calls prog 56 #[.pointer b,.slice a m m] w (pn B b (n:Int) (k+1) w):=by
 subst d;exact yj B b n k w a c e h hb hn f hm hs
abbrev ph(a b c d e f g h i j k l):=(.cells #[.int .u8 (a:Int),tx b,tx c,.slice d e f,.slice g h i,.slice j k l] 191:Go.Obj)
structure J5(c:Co):Prop where
 vars:∀v∈c.vars,0<=v.init/\v.init<100
 kS:∀hs∈c.kS,∀h∈hs,∀s∈h.body,Ed Ds s
def ky(w:World)(b:Nat):Nat->List Value->World
 |_,[]=>w
 |o,u::us=>ky (w.setCell ⟨b,o,none⟩ u) b (o+1) us
def pU{b:Nat}{T t}:∀{r m l:List Value} {w:World},m.length=r.length->w.heap[b]?=some (.cells (l++(m++t)).toArray T (0,0))->(ky w b l.length r).heap[b]?=some (.cells (l++(r++t)).toArray T (0,0))
 |[],[],_,_,_,h=>h
 |[],_::_,_,_,h,_=>by simp at h
 |_::_,[],_,_,h,_=>by simp at h
 |u::r,v::m,l,w,hl,h=>by
  have a:=jO (i:=l.length) (u:=u) h;have e:((l++(v::m++t)).toArray.setIfInBounds l.length u)=((l++[u])++(m++t)).toArray:=by rw[Px,List.set_append_right _ _ (O9 _)];simp
  rw[e]at a;have:=pU (r:=r) (m:=m) (l:=l++[u]) (by simpa using hl) a;rw[Pe]at this;simp only[ky];rw[show l.length+1=l.length+[u].length from rfl,this];simp
def ml{b q:Nat}(a:q≠b):∀{r:List Value} {o:Nat} {w:World},(ky w b o r).heap[q]?=w.heap[q]?
 |[],_,_=>rfl
 |u::r,o,w=>(ml a (r:=r)).T (Po _ _ _ _ a)
def lu{b:Nat}:∀{r:List Value} {o:Nat} {w:World},(ky w b o r).heap.size=w
 |[],_,_=>rfl
 |u::r,o,w=>(lu (r:=r)).T (O6 _ _ _)
def kQ{lo b:Nat}(hb:lo<=b){w0}:∀{r:List Value} {o:Nat} {w:World},Below lo w0 w->Below lo w0 (ky w b o r)
 |[],_,_,h=>h
 |u::r,o,w,h=>kQ hb (r:=r) (h.setCell (p:=⟨b,o,none⟩) hb _)
structure ma{α:Type}(R:Rel α)(T k:Nat)(B:Nat)(w:World)(b n:Nat)(xs:List α):Prop where
 ex:∃(rows:List (List Value)) (cs:List Value),w.heap[b]?=some (.cells (rows.flatten++cs).toArray T (0,0))/\xs.length*k+cs.length=n*k/\kJ (R (λq=>B<=q/\q<w/\q≠b) w) rows xs
def ma.start{c:Type}(R:Rel c){T k B:Nat}{w}{b n:Nat}{a}(h:w.heap[b]?=some (.cells a T (0,0)))(hs:a.size=n*k):ma R T k B w b n []:=⟨[],a.toList,by simpa using h,by simpa using hs,trivial⟩
def ma.lt{a:Type}{R:Rel a}{T k B:Nat}{w}{b n:Nat}{xs:List a}(h:ma R T k B w b n xs):b<w:=by obtain⟨d,e,c,_⟩:=h.ex;exact(O3.1 c).1
def ma.jP{c:Type}{R:Rel c}{T k B:Nat}(ok:kF R k){w w'}{b n:Nat}{xs:List c}(h:ma R T k B w b n xs)(hb:Below w w w'):ma R T k B w' b n xs:=by obtain⟨d,e,f,g,i⟩:=h.ex;have hs:=hb.size;exact⟨d,e,(hb.B b h.lt).T f,g,i.imp λr x hx=>ok.M (ok.jP hx λq a=>hb.B q a.2.1) λq a=>⟨a.1,SE,a.2.2⟩⟩
def ma.frozen{a:Type}{R:Rel a}{T k B:Nat}{w}{b n:Nat}{xs:List a}(h:ma R T k B w b n xs)(i:Nat):w.frozen? ⟨b,i,none⟩=false:=by obtain⟨d,e,c,f,g⟩:=h.ex;exact jS c i
def ma.cell{a:Type}{R:Rel a}{T k B:Nat}(ok:kF R k){w}{b n:Nat}{xs:List a}(h:ma R T k B w b n xs){i:Nat}(hi:i<n*k):∃u,w.cell? ⟨b,i,none⟩=some u:=by obtain⟨e,f,c,g,d⟩:=h.ex;have j:=kJ.flat (k:=k) (λr x h=>ok.len h) d;exact⟨_,jU c i _ (by rw[Qk];exact Pg (by rw[Pe];omega))⟩
def ma.put{c:Type}{R:Rel c}{T k B:Nat}(ok:kF R k){w}{b n:Nat}{xs:List c}(h:ma R T k B w b n xs){r}{x:c}(hx:R (λq=>B<=q/\q<w/\q≠b) w r x)(hn:xs.length<n){o:Nat}(g:o=xs.length*k):ma R T k B (ky w b o r) b n (xs++[x]):=by obtain⟨e,d,i,p,f⟩:=h.ex;have j:=kJ.flat (k:=k) (λr x h=>ok.len h) f;have hr:=ok.len hx;have hm:=Qn k hn;rw[Sx]at hm;subst g;refine⟨e++[r],d.drop k,?_,?_,?_⟩;rw[<-j];have:=pU (r:=r) (m:=d.take k) (t:=d.drop k) (l:=e.flatten) (by rw[Pw];omega) (by rw[QD];exact i);rw[this];simp;rw[Pe,R2,Q1];simp only[PA,PE];omega;refine(kJ.snoc hx f).imp λr x hx=>ok.M (ok.jP hx λq a=>ml a.2.2) λq a=>⟨a.1,by rw[lu];exact a.2.1,a.2.2⟩
def ma.done{a:Type}{R:Rel a}{T k B:Nat}(ok:kF R k){w}{b n:Nat}{xs:List a}(h:ma R T k B w b n xs)(hn:xs.length=n)(d:B<=b)(e:n<=9223372036854775807):jT R (λq=>B<=q/\q<w) w (.slice b n n) xs:=by have f:=h.lt;obtain⟨g,m,i,p,j⟩:=h.ex;refine⟨_,n,g,by rw[hn],SE,e,λ_=>⟨b,0,rfl,⟨d,f⟩,λl u hu=>?_⟩,j.imp λr x hx=>ok.M hx λq c=>⟨c.1,c.2.1⟩⟩;rw[Pk];refine jU i l u ?_;rw[Qk,PW (Pm.1 hu).1];exact hu
def pZ{a:Type}(R:Rel a)(x:a)(w:World)(e:Ending)(w':World):Prop:=∃r:List Value,e=.returned (.agg r.toArray)/\R (Nw w w') w' r x/\Below w w w'
def ko.opn{d:Nat}{S w r x}(h:ko .u8 d S w r x):∃a b c1,r=[.int .u8 x.op,tx x.name,.int .i64 x.n,.slice a b c1]:=by
 cases d with
 |zero=>exact h.elim
 |succ d=>obtain⟨v,rfl,hv⟩:=h;obtain⟨A,c,rfl,_⟩:=hv.form;exact⟨_,_,_,rfl⟩
def kp.opn{d:Nat}{S w r x}(h:kp .u8 d S w r x):∃a b c1 e f g i u1 j,r=[.int .u8 x.kind,tx x.name,tx x.hd,.slice a b c1,.slice e f g,.slice i u1 j]:=by
 cases d with
 |zero=>exact h.elim
 |succ d=>obtain⟨v1,v2,n,rfl,k,l,m⟩:=h;obtain⟨A,c,rfl,_⟩:=k.form;obtain⟨A,c,rfl,_⟩:=l.form;obtain⟨A,c,rfl,_⟩:=m.form;exact⟨_,_,_,_,_,_,_,_,_,rfl⟩
def lF.opn{S w r x}(h:lF .u8 S w r x):∃a b c1 c d e,r=[tx x.name,.slice a b c1,.slice c d e]:=by obtain⟨a,b,c1,f,g,c2,h,_⟩:=h.qo;exact⟨a,b,c1,f,g,c2,h⟩
def mr.opn{S w r x}(h:mr .u8 S w r x):∃a b c1,r=[.slice a b c1]:=by obtain⟨a,b,c1,h,_⟩:=h.qo;exact⟨a,b,c1,h⟩
def lv.opn{S w r x}(h:lv .u8 S w r x):∃a b c1 c d e,r=[tx x.name,.slice a b c1,.slice c d e]:=by obtain⟨a,b,c1,f,g,c2,h,_⟩:=h.qo;exact⟨a,b,c1,f,g,c2,h⟩
def Jb:(prog.info? 196).map (λi=>(i.zero,i.size,i.bytes))=some (some (.agg kl),4,56):=SH
def G6(n:Nat)(hn:n<=1000)(w):(Instr.makeSlice 189 (.int .i64 (n:Int)) (.int .i64 (n:Int))).run prog w=.ok (.slice w n n) (w.alloc (.cells (madeCells kl (n*4)) 196)):=by obtain⟨b,c,d,a,e⟩:=Pu Jb;have:=Qu (P:=prog) w 189 196 b _ underlying189 c d .i64 .i64 (n:Int) (n:Int) SE (QG _) (by rw[a];simp;omega) (by rw[e];omega) SE;rw[a,PZ]at this;exact this
def wR(d:Nat)(S w A)(n c:Nat)(xs)(hv:jT (ko .u8 d) S w (.slice A n c) xs)(M:n<=1000)(hS:∀q,S q->q<w)(hf:∀x∈xs,∀(l:World) (r:List Value),Below w w l->(ko .u8 d) S l r x->Calls prog 151 #[.agg r.toArray] l (pZ (ko .u8 d) x l)):
  Calls prog 150 #[.slice A n c,.func (.func 151) #[] #[]] w (ru (ko .u8 d) n xs w):=by
 have N:=E1;unfold mg at N;have z:=hv.len;have t:=O0 z.1;have O:=hv;have C:=hS;have P:=hf;have D:=G6 n M w;obtain⟨B,m⟩:=Xq w.heap.size;have f:ma (ko .u8 d) 196 4 B (w.alloc (.cells (madeCells kl (n*4)) 196)) B n ([]:List (Ex)):=ma.start _ (by rw[m];exact O2 _ _) (by rw[QO]);have g:Below B w (w.alloc (.cells (madeCells kl (n*4)) 196)):=by rw[m];exact Ba _ _
 rw[<-m]at D;have j:=O0 m;clear hS z hf m
 go_enter func150,ntmps150
 go_wp21;generalize w.alloc (.cells (madeCells kl (n*4)) 196)=l at*;go_loopw [13] (λi wr=>∃k:Nat,k<=n/\i=k/\ma (ko .u8 d) 196 4 B wr B n (xs.take k)/\Below B w wr) (λi _=>n-(intOf i).toNat)
 .exact⟨0,Pb _,rfl,f,g⟩
 clear D;obtain⟨k,af,rfl,f,g⟩:=hrel;have ag:=f.lt;by_cases ah:k<n
 .obtain⟨x,hx⟩:∃x,xs[k]?=some x:=Gx (SC t.o);obtain⟨ai,aj,r,rfl,ak,E,p⟩:=(O.jP (ko.ok .u8 d) (λq s=>g.B q (by rw[j.o];exact C q s))).kt (ko.ok .u8 d) k x hx;obtain⟨u,v,c1,rfl⟩:=E.opn;have F:=p 0 _ rfl;have Q:=p 1 _ rfl;have R:=p 2 _ rfl;have T:=p 3 _ rfl;rw[Pc]at F;obtain⟨al,am⟩:=mG k n;have y:=Ba wr (la x.op x.name x.n u v c1);have U:=(P x (O5 hx) (wr.alloc (la x.op x.name x.n u v c1)) [.int .u8 x.op,tx x.name,x.n,.slice u v c1] (by rw[<-j.o];exact g.T (y.M (SC j.o))) ((ko.ok .u8 d).jP E (λq s=>y.B q (SD (C q s) j.o))))
  have V:=O0 hx;clear p hx;go_wp21;apply U.M;rintro e G ⟨r,rfl,I,W⟩;obtain⟨J,K,c2,rfl⟩:=I.opn;have an:(wr.alloc (la x.op x.name x.n u v c1)).heap.size=wr+1:=SG;have L:Below wr wr G:=y.T (W.M SE);have a:=(f.jP (ko.ok .u8 d) L)
  have X:=(g.T (L.M SE))
  have Y:=a.frozen (k*4+0);have ao:=a.frozen (k*4+1);have ap:=a.frozen (k*4+2);have aq:=a.frozen (k*4+3);rw[Pc]at Y;have ar:k*4+3<n*4:=SE;obtain⟨au,av⟩:=a.cell (ko.ok .u8 d) (i:=k*4) SE;obtain⟨aw,ax⟩:=a.cell (ko.ok .u8 d) (i:=k*4+1) SE;obtain⟨ay,az⟩:=a.cell (ko.ok .u8 d) (i:=k*4+2) SE;obtain⟨aA,aB⟩:=a.cell (ko.ok .u8 d) (i:=k*4+3) SE;have Z:=(show ma (ko .u8 d) 196 4 B (ky G B (k*4) [.int .u8 x.op,tx x.name,x.n,.slice J K c2]) B n (xs.take (k+1))from by have e:xs.take (k+1)=xs.take k++[x]:=(by rw[PM,V.o];rfl);rw[e];have aa:(xs.take k).length=k:=(by rw[Pw];have:=t.o;omega);exact a.put (ko.ok .u8 d) ((ko.ok .u8 d).M I (λq s=>by obtain⟨aC,ab⟩:=s;have:=j.o;exact⟨SE,ab,SE⟩)) SE (by rw[aa]))
  have ac:=(kQ (lo:=B) (b:=B) (O9 _) (r:=[.int .u8 x.op,tx x.name,.int .i64 x.n,.slice J K c2]) (o:=(k*4)) X)
  clear f g F Q R T;go_wp21;go_roundw
  .exact⟨k+1,SE,SJ,Z,ac⟩
  simp[intOf];omega
 obtain rfl:n=k:=SE;have ad:xs.take n=xs:=Pq (SC t.o);rw[ad]at f;go_wp21;go_ret;have ae:=j.o;subst ae;exact⟨rfl,f.done (ko.ok .u8 d) (SC t.o) (O9 _) SE,g⟩
def Jc:(prog.info? 191).map (λi=>(i.zero,i.size,i.bytes))=some (some (.agg mx),6,112):=SH
def G7(n:Nat)(hn:n<=1000)(w):(Instr.makeSlice 122 (.int .i64 (n:Int)) (.int .i64 (n:Int))).run prog w=.ok (.slice w n n) (w.alloc (.cells (madeCells mx (n*6)) 191)):=by obtain⟨b,c,d,a,e⟩:=Pu Jc;have:=Qu (P:=prog) w 122 191 b _ underlying122 c d .i64 .i64 (n:Int) (n:Int) SE (QG _) (by rw[a];simp;omega) (by rw[e];omega) SE;rw[a,PZ]at this;exact this
def tk(d:Nat)(S w A)(n c:Nat)(xs)(hv:jT (kp .u8 d) S w (.slice A n c) xs)(X:n<=1000)(hS:∀q,S q->q<w)(hf:∀x∈xs,∀(m:World) (r:List Value),Below w w m->(kp .u8 d) S m r x->Calls prog 101 #[.agg r.toArray] m (pZ (kp .u8 d) x m)):
  Calls prog 100 #[.slice A n c,.func (.func 101) #[] #[]] w (ru (kp .u8 d) n xs w):=by
 have Y:=E2;unfold mg at Y;have G:=hv.len;have t:=O0 G.1;have Z:=hv;have I:=hS;have aa:=hf;have J:=G7 n X w;obtain⟨B,p⟩:=Xq w.heap.size;have f:ma (kp .u8 d) 191 6 B (w.alloc (.cells (madeCells mx (n*6)) 191)) B n ([]:List (St)):=ma.start _ (by rw[p];exact O2 _ _) (by rw[QO]);have g:Below B w (w.alloc (.cells (madeCells mx (n*6)) 191)):=by rw[p];exact Ba _ _
 rw[<-p]at J;have l:=O0 p;clear hS G hf p
 go_enter func100,ntmps100
 go_wp21;generalize w.alloc (.cells (madeCells mx (n*6)) 191)=m at*;go_loopw [13] (λi wr=>∃k:Nat,k<=n/\i=k/\ma (kp .u8 d) 191 6 B wr B n (xs.take k)/\Below B w wr) (λi _=>n-(intOf i).toNat)
 .exact⟨0,Pb _,rfl,f,g⟩
 clear J;obtain⟨k,ar,rfl,f,g⟩:=hrel;have au:=f.lt;by_cases av:k<n
 .obtain⟨x,hx⟩:∃x,xs[k]?=some x:=Gx (SC t.o);obtain⟨aw,ax,r,rfl,ay,K,j⟩:=(Z.jP (kp.ok .u8 d) (λq s=>g.B q (by rw[l.o];exact I q s))).kt (kp.ok .u8 d) k x hx;obtain⟨u,v,c1,y,z,C,D,u1,E,rfl⟩:=K.opn;have L:=j 0 _ rfl;have ab:=j 1 _ rfl;have ac:=j 2 _ rfl;have ad:=j 3 _ rfl;have ae:=j 4 _ rfl;have af:=j 5 _ rfl;rw[Pc]at L;obtain⟨az,aA⟩:=mG k n;have F:=Ba wr (lk x.kind x.name x.hd u v c1 y z C D u1 E);have ag:=(aa x (O5 hx) (wr.alloc (lk x.kind x.name x.hd u v c1 y z C D u1 E)) [.int .u8 x.kind,tx x.name,tx x.hd,.slice u v c1,.slice y z C,.slice D u1 E] (by rw[<-l.o];exact g.T (F.M (SC l.o))) ((kp.ok .u8 d).jP K (λq s=>F.B q (SD (I q s) l.o))))
  have ah:=O0 hx;clear j hx;go_wp21;apply ag.M;rintro e M ⟨r,rfl,N,ai⟩;obtain⟨O,P,c2,Q,R,T,U,u2,V,rfl⟩:=N.opn;have aB:(wr.alloc (lk x.kind x.name x.hd u v c1 y z C D u1 E)).heap.size=wr+1:=SG;have W:Below wr wr M:=F.T (ai.M SE);have a:=(f.jP (kp.ok .u8 d) W)
  have aj:=(g.T (W.M SE))
  have ak:=a.frozen (k*6+0);have aC:=a.frozen (k*6+1);have aD:=a.frozen (k*6+2);have aE:=a.frozen (k*6+3);have aF:=a.frozen (k*6+4);have aG:=a.frozen (k*6+5);rw[Pc]at ak;have aH:k*6+5<n*6:=SE;obtain⟨aI,aJ⟩:=a.cell (kp.ok .u8 d) (i:=k*6) SE;obtain⟨aK,aL⟩:=a.cell (kp.ok .u8 d) (i:=k*6+1) SE;obtain⟨aM,aN⟩:=a.cell (kp.ok .u8 d) (i:=k*6+2) SE;obtain⟨aO,aP⟩:=a.cell (kp.ok .u8 d) (i:=k*6+3) SE;obtain⟨aQ,aR⟩:=a.cell (kp.ok .u8 d) (i:=k*6+4) SE;obtain⟨aS,aT⟩:=a.cell (kp.ok .u8 d) (i:=k*6+5) SE;have al:=(show ma (kp .u8 d) 191 6 B (ky M B (k*6) [.int .u8 x.kind,tx x.name,tx x.hd,.slice O P c2,.slice Q R T,.slice U u2 V]) B n (xs.take (k+1))from by have e:xs.take (k+1)=xs.take k++[x]:=(by rw[PM,ah.o];rfl);rw[e];have am:(xs.take k).length=k:=(by rw[Pw];have:=t.o;omega);exact a.put (kp.ok .u8 d) ((kp.ok .u8 d).M N (λq s=>by obtain⟨aU,an⟩:=s;have:=l.o;exact⟨SE,an,SE⟩)) SE (by rw[am]))
  have ao:=(kQ (lo:=B) (b:=B) (O9 _) (r:=[.int .u8 x.kind,tx x.name,tx x.hd,.slice O P c2,.slice Q R T,.slice U u2 V]) (o:=(k*6)) aj)
  clear f g L ab ac ad ae af;go_wp21;go_roundw
  .exact⟨k+1,SE,SJ,al,ao⟩
  simp[intOf];omega
 obtain rfl:n=k:=SE;have ap:xs.take n=xs:=Pq (SC t.o);rw[ap]at f;go_wp21;go_ret;have aq:=l.o;subst aq;exact⟨rfl,f.done (kp.ok .u8 d) (SC t.o) (O9 _) SE,g⟩
def lT.args{d:Nat}{e}(h:lT (d+1) e):e.args.length<=2/\∀a∈e.args,lT d a:=by
 obtain⟨⟨x,_,hx,b,_⟩,c⟩:=h;refine⟨?_,c⟩;rw[b];have:∀x∈shapes,x.1<=2:=SF
 exact this x (O5 hx)
structure yO(d:Nat)(w1:World)(b1:Nat)(c0 c1 c2 o3 o4 o5:Value)(s:St)(l1 l2 l3:Bool)(x:World):Prop where
 g:nj (λq=>q=b1) w1 x
 l:b1<w1
 r:∃a b c:Value,x.heap[b1]?=some (.cells #[c0,c1,c2,a,b,c] 191)/\(l1=false->a=o3)/\(l1=true->jT (ko .u8 De) (Nw w1 x) x a s.kA)/\(l2=false->b=o4)/\(l2=true->jT (kp .u8 d) (Nw w1 x) x b s.th)/\(l3=false->c=o5)/\(l3=true->jT (kp .u8 d) (Nw w1 x) x c s.el)
def yO.jQ{d:Nat}{e}{f:Nat}{i c1 c2 j k l s m n p x g}(h:yO d e f i c1 c2 j k l s m n p x)(hb:Below x x g):yO d e f i c1 c2 j k l s m n p g:=by obtain⟨a,b,c,hx,r,t,u,v,e3,w⟩:=h.r;have hn:NK e x g:=.jQ hb;exact⟨h.g.T (nj.of hb),h.l,a,b,c,(hb.B f (O3.1 hx).1).T hx,r,λq=>nA (ko.ok .u8 De) hn (t q),u,λq=>nA (kp.ok .u8 d) hn (v q),e3,λq=>nA (kp.ok .u8 d) hn (w q)⟩
def yO.kX{d:Nat}{a:World}{b:Nat}{f c1 c2 g i j:Value}{s:St}{k l m:Bool}{x:World}(h:yO d a b f c1 c2 g i j s k l m x){S:Nat->Prop}(hS:∀q,S q->q<b):∀q,S q->x.heap[q]?=a.heap[q]?:=
 λq c=>h.g.B q (Sy (hS q c) h.l) (λe=>SC (hS q c))
structure BS(w1:World)(b1:Nat)(c0 o1 o2 o3:Value)(f:Fl)(l1 l2:Bool)(x:World):Prop where
 g:nj (λq=>q=b1) w1 x
 l:b1<w1
 r:∃a b:Value,x.heap[b1]?=some (.cells #[c0,a,b,o3] 60)/\(l1=false->a=o1)/\(l1=true->jT lM (Nw w1 x) x a f.km)/\(l2=false->b=o2)/\(l2=true->jT mY (Nw w1 x) x b f.lB)
def BS.jQ{c}{d:Nat}{g i j k f l m x e}(h:BS c d g i j k f l m x)(hb:Below x x e):BS c d g i j k f l m e:=by obtain⟨a,b,hx,n,p,r,s⟩:=h.r;have hn:NK c x e:=.jQ hb;exact⟨h.g.T (nj.of hb),h.l,a,b,(hb.B d (O3.1 hx).1).T hx,n,λq=>nA lM.ok hn (p q),r,λq=>nA mY.ok hn (s q)⟩
def BS.kX{a:World}{b:Nat}{d g i j:Value}{f:Fl}{k l:Bool}{x:World}(h:BS a b d g i j f k l x){S:Nat->Prop}(hS:∀q,S q->q<b):∀q,S q->x.heap[q]?=a.heap[q]?:=
 λq c=>h.g.B q (Sy (hS q c) h.l) (λe=>SC (hS q c))
def oh.set{k b:IntKind}{c}{o n:Nat}(h:oh k c o n)(a:Nat)(x:Int)(d:a<o\/o+n<=a\/b=k):oh k (c.setIfInBounds a (.int b x)) o n:=λi hi=>by
 obtain⟨f,hy⟩:=h i hi;by_cases e:o+i=a;obtain rfl:b=k:=by rcases d with h|h|h;omega;omega;exact h
 subst e;exact⟨x,by rw[QL (O3.1 hy).1]⟩;exact⟨f,by rw[P8 (Q7 e)];exact hy⟩
def ow(w:World)(b n:Nat):Prop:=∃a:Array Value,w.heap[b]?=some (.cells a 5 (0,0))/\a.size=n/\oh .u8 a 0 n
def lN(T:TypeId)(w:World)(b n:Nat):Prop:=∃a:Array Value,w.heap[b]?=some (.cells a T (0,0))/\a.size=n/\oh .u32 a 0 n
def lN.jP{T w w'}{b n:Nat}(h:lN T w b n)(a:w'.heap[b]?=w.heap[b]?):lN T w' b n:=by obtain⟨c,d,e⟩:=h;exact⟨c,a.T d,e⟩
def lN.lt{T w}{b n:Nat}(h:lN T w b n):b<w:=by obtain⟨c,a,d⟩:=h;exact(O3.1 a).1
def my(w:World)(b:Nat):Prop:=∃a:Array Value,w.heap[b]?=some (.cells a 240 (0,0))/\a.size=73/\oh .u32 a 0 8/\oh .u8 a 8 64/\∃t:Int,a[72]?=some (.int .u64 t)/\0<=t
def my.jP{w w'}{b:Nat}(h:my w b)(a:w'.heap[b]?=w.heap[b]?):my w' b:=by obtain⟨c,d,e⟩:=h;exact⟨c,a.T d,e⟩
def my.lt{w}{b:Nat}(h:my w b):b<w:=by obtain⟨c,a,d⟩:=h;exact(O3.1 a).1
structure pL(w:World):Prop where
 lt:0<w.heap.size
 kt:∀k:Nat,k<64->∃x:Int,w.cell? ⟨0,k,none⟩=some (.int .u32 x)
def pL.jP{w w'}(h:pL w)(hb:w'.heap[(0:Nat)]?=w.heap[(0:Nat)]?)(hs:w.heap.size<=w'.heap.size):pL w':=
 ⟨O1 h.lt hs,λk a=>by obtain⟨x,b⟩:=h.kt k a;exact⟨x,(Cb 0 k hb).T b⟩⟩
abbrev lP(a b c d e f g h):=(#[.int .u32 a,.int .u32 b,.int .u32 c,.int .u32 d,.int .u32 e,.int .u32 f,.int .u32 g,.int .u32 h,.int .u8 0,.int .u8 0,.int .u8 0,.int .u8 0,.int .u8 0,.int .u8 0,.int .u8 0,.int .u8 0,.int .u8 0,.int .u8 0,.int .u8 0,.int .u8 0,.int .u8 0,.int .u8 0,.int .u8 0,.int .u8 0,.int .u8 0,.int .u8 0,.int .u8 0,.int .u8 0,.int .u8 0,.int .u8 0,.int .u8 0,.int .u8 0,.int .u8 0,.int .u8 0,.int .u8 0,.int .u8 0,.int .u8 0,.int .u8 0,.int .u8 0,.int .u8 0,.int .u8 0,.int .u8 0,.int .u8 0,.int .u8 0,.int .u8 0,.int .u8 0,.int .u8 0,.int .u8 0,.int .u8 0,.int .u8 0,.int .u8 0,.int .u8 0,.int .u8 0,.int .u8 0,.int .u8 0,.int .u8 0,.int .u8 0,.int .u8 0,.int .u8 0,.int .u8 0,.int .u8 0,.int .u8 0,.int .u8 0,.int .u8 0,.int .u8 0,.int .u8 0,.int .u8 0,.int .u8 0,.int .u8 0,.int .u8 0,.int .u8 0,.int .u8 0,.int .u64 0]:Array Go.Value)
def my.of{w}{b:Nat}{a c d f g j k l:Int}(h:w.heap[b]?=some (.cells (lP a c d f g j k l) 240)):my w b:=by
 have e:((lP a c d f g j k l):Array Value)=([Value.int .u32 a,Value.int .u32 c,Value.int .u32 d,Value.int .u32 f,Value.int .u32 g,Value.int .u32 j,Value.int .u32 k,Value.int .u32 l]++(List.replicate 64 (Value.int .u8 0)++[Value.int .u64 0])).toArray:=SH
 rw[e]at h;refine⟨_,h,SG,λi hi=>?_,λi hi=>?_,0,SG,SE⟩;rw[Pk,Qk,PW (by simpa using hi)]
 match i,hi with
 |0,_=>exact⟨_,rfl⟩
 |1,_=>exact⟨_,rfl⟩
 |2,_=>exact⟨_,rfl⟩
 |3,_=>exact⟨_,rfl⟩
 |4,_=>exact⟨_,rfl⟩
 |5,_=>exact⟨_,rfl⟩
 |6,_=>exact⟨_,rfl⟩
 |7,_=>exact⟨_,rfl⟩
 refine⟨0,?_⟩;rw[Qk,P1 SG];simp only[PA,PE];rw[show 8+i-(0+1+1+1+1+1+1+1+1)=i from SE,PW (by rw[List.length_replicate];exact hi),List.getElem?_replicate,PJ hi]
def my.copy{w}{b:Nat}{c}(h:my w b)(hc:w.heap[b]?=some (.cells c 240 (0,0))){kt:Nat}{a}(n:kt+a.length<=64)(hu:∀v∈a,∃x:Int,v=.int .u8 x):
  my (w.setRow b (c.toList.take (8+kt)++(a++c.toList.drop (8+kt+a.length))).toArray) b:=by
 obtain⟨p,d,hs,k,j,t,l,m⟩:=h;rw[hc]at d;injection d with d;injection d with d _ _;subst d;have q:c.toList.length=73:=by simpa using hs
 have g:∀i,(c.toList.take (8+kt)++(a++c.toList.drop (8+kt+a.length)))[i]?=if i<8+kt then c[i]? else if i<8+kt+a.length then a[i-(8+kt)]? else c[i]?:=by intro i;by_cases e:i<8+kt;rw[PJ e,PW (by rw[Pw];omega),QZ e];simp;rw[Pn e,P1 (by rw[Pw];omega),Pw,Rj SE];by_cases f:i<8+kt+a.length;rw[PJ f,PW SE];rw[Pn f,P1 SE,QU];rw[show 8+kt+a.length+(i-(8+kt)-a.length)=i from SE];simp
 refine⟨_,Sz w b _ _ _ _ hc,SK,λi hi=>?_,λi hi=>?_,t,?_,m⟩
 .rw[Qk,g,PJ SE];exact k i hi
 .rw[Qk,g];by_cases e:8+i<8+kt;rw[PJ e];exact j i hi;rw[Pn e];by_cases f:8+i<8+kt+a.length;rw[PJ f];obtain⟨x,hx⟩:=hu _ (Q9 (show 8+i-(8+kt)<a.length from SE));exact⟨x,by rw[Pg SE,hx]⟩;rw[Pn f];exact j i hi
 .rw[Qk,g,Pn SE,Pn SE];exact l
def FQ(b:Nat)(w:World)(A:Option Addr)(n:Nat):Prop:=0<n->∃p o,A=some ⟨p,o,none⟩/\p≠b/\p<w/\∀a,a<n->∃x:Int,w.cell? ⟨p,o+a,none⟩=some (.int .u8 x)
def FQ.grown{b:Nat}{w w' A}{n:Nat}(h:FQ b w A n)(hg:w.grownBy w' (some b)):FQ b w' A n:=λhn=>by obtain⟨p,o,e,hp,a,hc⟩:=h hn;refine⟨p,o,e,hp,O1 a hg.size,λc d=>?_⟩;obtain⟨x,hx⟩:=hc c d;exact⟨x,(Cb p (o+c) (hg.B p a (λe=>hp (by injection e)))).T hx⟩
def FQ.low{b:Nat}{w A a}{n m:Nat}(h:FQ b w A n)(c:m<n->a=A.map (·.add m)):FQ b w a (n-m):=λhn=>by obtain⟨p,o,rfl,hp,d,hc⟩:=h SE;refine⟨p,o+m,by rw[c SE];simp[kM],hp,d,λe f=>?_⟩;rw[Rx];exact hc (m+e) SE
def oZ(T:TypeId)(w:World)(b n:Nat):Prop:=∃a:Array Value,w.heap[b]?=some (.cells a T (0,0))/\a.size=n/\oh .u8 a 0 n
def oZ.lt{T w}{b n:Nat}(h:oZ T w b n):b<w:=by obtain⟨c,a,d⟩:=h;exact(O3.1 a).1
def oZ.kt{T w}{b n:Nat}(h:oZ T w b n){i:Nat}(hi:i<n):∃x:Int,w.cell? ⟨b,i,none⟩=some (.int .u8 x)/\w.frozen? ⟨b,i,none⟩=false:=by obtain⟨d,a,e,c⟩:=h;obtain⟨x,hx⟩:=c i hi;rw[Pk]at hx;exact⟨x,jU a i _ hx,jS a i⟩
def oZ.jP{T w w'}{b n:Nat}(h:oZ T w b n)(a:w'.heap[b]?=w.heap[b]?):oZ T w' b n:=by obtain⟨c,d,e⟩:=h;exact⟨c,a.T d,e⟩
def oZ.zero{T w}{b:Nat}(h:w.heap[b]?=some (.cells sA T (0,0))):oZ T w b 32:=by rw[zero32]at h;exact⟨_,h,SG,λi hi=>⟨0,by simp[hi]⟩⟩
structure pc(w:World)(fb:Nat)(f:Fl):Prop where
 lt:fb<w
 ex:∃(S:Nat->Prop) (B1:Option Addr) (n1 d1:Nat) (B2:Option Addr) (n2 d2:Nat) (B3:Option Addr) (n3 d3 pb:Nat),w.cell? fb=some (tx f.name)/\w.cell? ⟨fb,1,none⟩=some (.slice B1 n1 d1)/\w.cell? ⟨fb,2,none⟩=some (.slice B2 n2 d2)/\w.cell? ⟨fb,3,none⟩=some (.slice B3 n3 d3)/\
  w.cell? ⟨fb,37,none⟩=some (.pointer pb)/\oY S w B1 n1 d1 B2 n2 d2 B3 n3 d3 f/\xx S w pb (kV f)/\pb<w
def xx.jP{S w w'}{pb:Nat}{a}(h:xx S w pb a)(b:∀q,(S q\/q=pb)->w'.heap[q]?=w.heap[q]?):xx S w' pb a:=by obtain⟨A,n,c,d,e⟩:=h;exact⟨A,n,c,(b pb (.inr rfl)).T d,e.jP BZ.ok λq f=>b q (.inl f)⟩
def xx.M{S T w}{pb:Nat}{a}(h:xx S w pb a)(b:∀q,S q->T q):xx T w pb a:=by obtain⟨A,n,c,d,e⟩:=h;exact⟨A,n,c,d,e.M BZ.ok b⟩
def oY.M{S T w b}{c c1:Nat}{d}{e c2:Nat}{g}{i c3:Nat}{f}(h:oY S w b c c1 d e c2 g i c3 f)(a:∀q,S q->T q)(hf:∀q,T q->q<w.heap.size):oY T w b c c1 d e c2 g i c3 f:=
 ⟨h.km.M lM.ok a,h.lB.M mY.ok a,h.jZ.M (lv.ok .u8) a,hf⟩
def pc.jQ{w w'}{a:Nat}{f}(h:pc w a f)(hb:Below w w w'):pc w' a f:=by obtain⟨c,S,d,e,g,j,k,l,m,n,d3,pb,p,c1,c2,c3,c4,hf,hp,r⟩:=h;have hc:∀i,w'.cell? ⟨a,i,none⟩=w.cell? ⟨a,i,none⟩:=λi=>Cb a i (hb.B a c);exact⟨O1 c hb.size,S,d,e,g,j,k,l,m,n,d3,pb,(hc 0).T p,(hc 1).T c1,(hc 2).T c2,(hc 3).T c3,(hc 37).T c4,hf.jQ hb,hp.jP (λq b=>hb.B q (by rcases b with b|b;exact hf.kX q b;omega)),O1 r hb.size⟩
def Kj(T:Nat->Prop)(w:World)(a:Nat)(f:Fl):Prop:=(a<w/\T a)/\∃(S:Nat->Prop) (b:Option Addr) (c d:Nat) (e:Option Addr) (g i:Nat) (j:Option Addr) (k d3 pb:Nat),w.cell? a=some (tx f.name)/\w.cell? ⟨a,1,none⟩=some (.slice b c d)/\w.cell? ⟨a,2,none⟩=some (.slice e g i)/\w.cell? ⟨a,3,none⟩=some (.slice j k d3)/\
 w.cell? ⟨a,37,none⟩=some (.pointer pb)/\oY S w b c d e g i j k d3 f/\xx S w pb (kV f)/\(pb<w/\T pb)/\∀q,S q->T q
def Kj.jP{T:Nat->Prop}{w w':World}{b:Nat}{f:Fl}(h:Kj T w b f)(c:∀q,q<w.heap.size->T q->w'.heap[q]?=w.heap[q]?)(hs:w.heap.size<=w'):pc w' b f:=by
 obtain⟨⟨d,g⟩,S,j,k,l,m,n,p,r,s,d3,pb,t,c1,c2,c3,c4,hf,hp,⟨e,u⟩,v⟩:=h;have hc:∀i,w'.cell? ⟨b,i,none⟩=w.cell? ⟨b,i,none⟩:=λi=>Cb b i (c b d g);have a:∀q,S q->w'.heap[q]?=w.heap[q]?:=λq a=>c q (hf.kX q a) (v q a);exact⟨O1 d hs,S,j,k,l,m,n,p,r,s,d3,pb,(hc 0).T t,(hc 1).T c1,(hc 2).T c2,(hc 3).T c3,(hc 37).T c4,
  ⟨hf.km.jP lM.ok a,hf.lB.jP mY.ok a,hf.jZ.jP (lv.ok .u8) a,λq h=>O1 (hf.kX q h) hs⟩,hp.jP (λq h=>by rcases h with h|h;exact a q h;rw[h];exact c pb e u),O1 e hs⟩
structure nu.Ev where
 tick:Int
 comp:Int
 kind:Nat
 peer:Int
 n:Int
 copy:Int
 hd:Int
 d:Int
 args:List Int
structure nu.Nm where
 jZ:List (List UInt8)
 km:List (List UInt8)
 hs:List (List (List UInt8))
def nu.pE(m:Nm)(c:Int):Bool:=decide (0<=c)&&decide (c<m.jZ.length)
def nu.cN(m:Nm)(c:Int):List UInt8:=if pE m c then m.jZ[c.toNat]?.getD []else []
def nu.zI(m:Nm)(c:Int):Bool:=decide (0<=c)&&decide (c<m.km.length)
def nu.fN(m:Nm)(c:Int):List UInt8:=if zI m c then m.km[c.toNat]?.getD []else []
def nu.hL(m:Nm)(c:Int):List (List UInt8):=if pE m c then m.hs[c.toNat]?.getD []else []
def nu.sj(m:Nm)(c h:Int):Bool:=pE m c&&(decide (0<=h)&&decide (h<(hL m c).length))
def nu.hN(m:Nm)(c h:Int):List UInt8:=if sj m c h then(hL m c)[h.toNat]?.getD []else []
def ox(xs:List (List UInt8))(w:World)(e:Ending)(w':World):Prop:=(∃(a:Option Addr) (c:Nat),e=.returned (.slice a xs.length c)/\jT kh (λb=>w<=b/\b<w') w' (.slice a xs.length c) xs)/\Below w w w'
def ox.of{xs w w' v}(h:kf kh 9 1 (λ_=>False) w' w.heap.size v xs)(hb:Below w.heap.size w w'):ox xs w (.returned v) w':=by obtain⟨A,c,rfl,_⟩:=h.form;exact⟨⟨A,c,rfl,(h.sl kh.ok).M kh.ok λq a=>⟨a.1.resolve_left (λh=>h),a.2⟩⟩,hb⟩
def nw:Rel Int:=λ_ _ r x=>r=[.int .i64 x]
def nw.ok:kF nw 1:=
 ⟨SE,λh=>by rw[h];rfl,λh u hu=>by rw[h]at hu;simp at hu;subst hu;rfl,λh _=>h,λh _=>h⟩
def nu.xu(v:Int):Prop:= -9223372036854775808<=v/\v<=9223372036854775807
def nu.Gh(c:UInt8):Bool:=c==95||((decide (48<=c)&&decide (c<=57))||((decide (97<=c)&&decide (c<=122))||(decide (65<=c)&&decide (c<=90))))
structure nu.JV(m:Nm):Prop where
 jZ:∀s∈m.jZ,s.all Gh=true
 km:∀s∈m.km,s.all Gh=true
 hs:∀l∈m.hs,∀s∈l,s.all Gh=true
 nc:m.jZ.Nodup
 nf:m.km.Nodup
 nh:∀l∈m.hs,l.Nodup
def qs(B:Bool)(w:World):Prop:=B=true->Lib.TabIs prog w "internal/strconv.uint64pow10" .u64 Lib.pow10Tab
def zL(B:Bool)(x:Int):Prop:=xu x/\(B=false->0<=x/\x<100)
def zL.all{B:Bool}{xs:List Int}(h:∀x∈xs,zL B x):∀x∈xs,xu x:=λx hx=>(h x hx).1
def qs.jQ{B w w'}(h:qs B w)(hb:Below w w w'):qs B w':=by
 intro b;have h:=h b;unfold Lib.TabIs World.var? at h⊢;rw[se]at h⊢;simp only[Option.bind_some]at h⊢;have c:(1:Nat)<w:=by rcases QT (1:Nat) w with a|a;exact a;rw[Sa a]at h;cases h
 rw[hb.B _ c];exact h
structure N7(m:Nm):Prop where
 c:∀i,(cN m i).length<=12
 f:∀i,(fN m i).length<=12
 h:∀i j,(hN m i j).length<=12
def BU(w:World)(a b:Nat)(c d:Array Value)(x:World):Prop:=Below w w x/\x.heap[a]?=some (.cells c 52 (0,0))/\x.heap[b]?=some (.cells d 52 (0,0))
def BU.lt{w:World}{a b:Nat}{c d:Array Value}{x:World}(h:BU w a b c d x):a<x/\b<x:=⟨(O3.1 h.2.1).1,(O3.1 h.2.2).1⟩
def BU.jQ{w:World}{a b:Nat}{c d:Array Value}{x e:World}(h:BU w a b c d x)(hb:Below x x e):BU w a b c d e:=⟨h.1.T (hb.M h.1.size),(hb.B a h.lt.1).T h.2.1,(hb.B b h.lt.2).T h.2.2⟩
structure ke.Tok where
 kind:Nat
 text:ByteArray
 off:Nat
def ke.nM(s:ByteArray)(a:Nat):Nat×Nat:=nE (s.data.toList.drop a)
def ke.qa(s:ByteArray)(a:Nat):Nat:=lH false (s.data.toList.drop a)
def ke.Ad(s:ByteArray)(a:Nat):Tok:=⟨(nM s a).1,s.extract a (a+(nM s a).2),a⟩
def ke.qI(s:ByteArray)(a:Nat):Nat:=a+(nM s a).2+qa s (a+(nM s a).2)
def ke.uY(s:ByteArray):Nat->Nat->List Tok
 |0,_=>[]
 |f+1,off=>if off<s.size then Ad s off::uY s f (qI s off)else []
def ke.nY(s:ByteArray)(a:Nat):List Tok:=uY s (s.size+1-a) a
def ke.lexB(s:ByteArray):List Tok:=nY s (qa s 0)
def ke.Jq(l p:List UInt8)(h:pfx l p=true):p.length<=l.length:=by unfold pfx at h;rw[List.isPrefixOf_iff_prefix]at h;exact h.length_le
def ke.D1(p:Int->Bool)(l:List UInt8)(h:l≠[])(hp:p (l.headD 0).toNat=true):1<=pre p l:=by
 match l,h with
 |c::t,_=>rw[mL,if_pos (by simpa using hp)];omega
def ke.BK(l:List UInt8)(h:l≠[]):1<=(nE l).2/\(nE l).2<=l.length:=by
 have c:1<=l.length:=by cases l with|nil=>exact absurd rfl h|cons=>simp
 unfold nE;split
 rename_i hc
 have a:=D1 lr l h (by unfold lr;rw[hc];rfl);have b:=vL lr l;split;exact⟨a,b⟩;split;exact⟨a,b⟩;exact⟨c,Nat.le_refl _⟩;split
 rename_i hc
 have a:=D1 lX l h hc;have b:=vL lX l;split;exact⟨a,b⟩;exact⟨c,Nat.le_refl _⟩;split
 rename_i x hx
 unfold qw at hx;exact⟨(Ho x (List.mem_of_find?_eq_some hx)).1,Jq _ _ (List.find?_some hx)⟩;exact⟨c,Nat.le_refl _⟩
def ke.sM(s:ByteArray)(a:Nat)(h:a<s.size):1<=(nM s a).2/\a+(nM s a).2<=s.size:=by
 have b:(s.data.toList.drop a).length=s.size-a:=SG
 have:=BK (s.data.toList.drop a) (by intro e;rw[e]at b;simp at b;omega);unfold nM;omega
def ke.uw(s:ByteArray)(a:Nat)(h:a<=s.size):a+qa s a<=s.size:=by have:=rq false (s.data.toList.drop a);unfold qa;simp at this;omega
def ke.qg(s:ByteArray)(a:Nat)(h:a<s.size):a<qI s a/\qI s a<=s.size:=by have b:=sM s a h;have c:=uw s _ b.2;unfold qI;omega
def ke.yv(s:ByteArray):∀(f g a:Nat),s.size+1-a<=f->s.size+1-a<=g->uY s f a=uY s g a
 |0,g,a,h1,h2=>by
  cases g with
  |zero=>rfl
  |succ g=>rw[uY,uY,if_neg (by omega)]
 |f+1,0,a,h1,h2=>by rw[uY,uY,if_neg (by omega)]
 |f+1,g+1,a,h1,h2=>by
  rw[uY,uY];split
  rename_i h
  have:=qg s a h;rw[yv s f g _ SE SE];rfl
def ke.qR(s:ByteArray)(a:Nat)(h:¬a<s.size):nY s a=[]:=by
 unfold nY;cases hf:s.size+1-a with
 |zero=>rfl
 |succ f=>rw[uY,if_neg h]
def ke.sN(s:ByteArray)(a:Nat)(h:a<s.size):nY s a=Ad s a::nY s (qI s a):=by have hb:=qg s a h;unfold nY;rw[show s.size+1-a=(s.size-a)+1 from SE,uY,if_pos h,yv s (s.size-a) (s.size+1-qI s a) _ SE SE]
abbrev L.Ek(l:List UInt8):Value:=.string ⟨l.toArray⟩
def L.og:Array Value:=(ke.words.map Ek).toArray
def L.xN:Array Value:=(ke.syms.map Ek).toArray
def L.Laid(w:World):Prop:=
 (∃t a,w.heap[3]?=some (.cells og t a))/\(∃t a,w.heap[2]?=some (.cells xN t a))
def L.nJ{P:Program}(w:World)(t e:TypeId)(n:Nat)(a:Array Value)(k:Nat)(v:Value)(h:P.underlying t=some (.array n e))(b:k<n)
  (c:(isAgg e).run P w=.ok false w) (hv:a[k]?=some v) (hs:(sizeOf e).run P w=.ok 1 w):
  (Instr.index t (.agg a) (.int .i64 k)).run P w=.ok v w:=by
 simp[Instr.index,Rs h,asIntOf,b,hs,c,hv,go_sem]
def L.uk(w:World)(k:Nat)(a:k<39):(Instr.index 331 (.agg og) (.int .i64 k)).run prog w=.ok (Ek (ke.words.getD k [])) w:=
 nJ w _ 9 39 _ k _ SH a SH
  (by have b:k<ke.words.length:=a;simp[og,Ek,b]) SH
def L.Hp(w:World)(k:Nat)(a:k<25):(Instr.index 295 (.agg xN) (.int .i64 k)).run prog w=.ok (Ek (ke.syms.getD k [])) w:=
 nJ w _ 9 25 _ k _ SH a SH
  (by have b:k<ke.syms.length:=a;simp[xN,Ek,b]) SH
def L.sX:(prog.info? 331).map (·.size)=some og.size:=SH
def L.Fh:(prog.info? 295).map (·.size)=some xN.size:=SH
def L.nN(n:Int)(w:World):Calls prog 162 #[.int .u8 n] w λe w'=>e=.returned (.bool (ke.lp n))/\w=w':=by
 by_cases a:97<=n<;>by_cases b:n<=122<;>by_cases c:65<=n<;>by_cases d:n<=90;all_goals
  first
  |omega
  |(go_enter func162,ntmps162;go_wp2;go_ret;exact⟨by simp[ke.lp,a,b,c,d],rfl⟩)
def L.oU(n:Int)(w:World):Calls prog 165 #[.int .u8 n] w λe w'=>e=.returned (.bool (ke.lX n))/\w=w':=by
 by_cases a:48<=n<;>by_cases b:n<=57;all_goals
  first
  |omega
  |(go_enter func165,ntmps165;go_wp2;go_ret;exact⟨by simp[ke.lX,a,b],rfl⟩)
def L.Fi(n:Int)(w:World):Calls prog 159 #[.int .u8 n] w λe w'=>e=.returned (.bool (ke.nx n))/\w=w':=by
 cases h1:(n==32)<;>cases h2:(n==9)<;>cases h3:(n==10)<;>cases h4:(n==13);all_goals
  (go_enter func159,ntmps159;go_wp2;go_ret;exact⟨by simp[ke.nx,h1,h2,h3,h4],rfl⟩)
def L.Fj(n:Int)(w:World):Calls prog 161 #[.int .u8 n] w λe w'=>e=.returned (.bool (ke.od n))/\w=w':=by
 go_enter func161,ntmps161
 go_wp2;go_ret;exact⟨by simp[ke.od],rfl⟩
def L.sY(n:Int)(w:World):Calls prog 163 #[.int .u8 n] w λe w'=>e=.returned (.bool (ke.lr n))/\w=w':=by
 cases h1:ke.lp n<;>cases h2:ke.lX n<;>cases h3:(n==95);all_goals
  (go_enter func163,ntmps163;go_wp2_with (first|(go_at_call 162;apply(nN _ _).M;rintro e w' ⟨rfl,rfl⟩)|(go_at_call 165;apply(oU _ _).M;rintro e w' ⟨rfl,rfl⟩));go_ret;exact⟨by simp[ke.lr,h1,h2,h3],rfl⟩)
def L.nV(f:FuncId)(p:Int->Bool)(j:∀(a:Array Value) (w:World),Sem.run prog (callFunc f a) w=.ok (.enter f a) w)(hp:∀n w,Calls prog f #[.int .u8 n] w λe w'=>e=.returned (.bool (p n))/\w=w')(s:ByteArray)(w:World)(hs:s.size<=maxLen):
  Calls prog 158 #[.string s,.func (.func f) #[] #[]] w λe w'=>e=.returned (.int .i64 (ke.pre p s.data.toList))/\w=w':=by
 unfold maxLen at hs;have H:=O0 hp;clear hp
 go_enter func158,ntmps158
 go_wp2
 go_loop [5] (λi=>∃k:Nat,k<=s.size/\i=k/\k<=ke.pre p s.data.toList) (λi=>s.size-(intOf i).toNat)
 .exact⟨0,Pb _,rfl,Pb _⟩
 obtain⟨k,l,rfl,g⟩:=hrel;have c:=O0 g;clear g;by_cases d:k<s.size
 .cases hq:p (s[k].toNat:Int)
  .have b:=O0 (ke.xY p s k d c.o hq);go_wp2_with (apply(H.o _ _).M;rintro e w' ⟨rfl,rfl⟩);go_ret;exact⟨by rw[b.o];rfl,rfl⟩
  have b:=O0 (ke.xX p s k d c.o hq);go_wp2_with (apply(H.o _ _).M;rintro e w' ⟨rfl,rfl⟩)
  go_round
  .exact⟨k+1,SE,SJ,b.o⟩
  simp[intOf];omega
 have b:=O0 (ke.Ap p s k d c.o);go_wp21;go_ret;exact⟨by rw[b.o];rfl,rfl⟩
def L.zz(s:ByteArray)(w:World)(hs:s.size<=maxLen):
  Calls prog 158 #[.string s,.func (.func 159) #[] #[]] w λe w'=>e=.returned (.int .i64 (ke.pre ke.nx s.data.toList))/\w=w':=
 nV _ _ (λ_ _=>SH) Fi s w hs
def L.zA(s:ByteArray)(w:World)(hs:s.size<=maxLen):
  Calls prog 158 #[.string s,.func (.func 161) #[] #[]] w λe w'=>e=.returned (.int .i64 (ke.pre ke.od s.data.toList))/\w=w':=
 nV _ _ (λ_ _=>SH) Fj s w hs
def L.qd(s:ByteArray)(w:World)(hs:s.size<=maxLen):
  Calls prog 158 #[.string s,.func (.func 163) #[] #[]] w λe w'=>e=.returned (.int .i64 (ke.pre ke.lr s.data.toList))/\w=w':=
 nV _ _ (λ_ _=>SH) sY s w hs
def L.tS(s:ByteArray)(w:World)(hs:s.size<=maxLen):
  Calls prog 158 #[.string s,.func (.func 165) #[] #[]] w λe w'=>e=.returned (.int .i64 (ke.pre ke.lX s.data.toList))/\w=w':=
 nV _ _ (λ_ _=>SH) oU s w hs
def L.rC(s:ByteArray)(w:World)(hL:Laid w):
  Calls prog 164 #[.string s] w λe w'=>e=.returned (.bool (ke.sr s.data.toList))/\w=w':=by
 obtain⟨⟨d,f,g⟩,_⟩:=hL
 go_enter func164,ntmps164
 go_wp2_with (refine R7 rfl 331 _ rfl 3 rfl d _ f _ g rB rfl sX ?_)
 go_loop [4,6] (λ_ i=>∃k:Nat,k<=39/\i=k/\∀a,a<k->(ke.words[a]?.getD []==s.toList)=false) (λ_ i=>39-(intOf i).toNat)
 .exact⟨0,Pb _,rfl,SE⟩
 obtain⟨k,l,rfl,b⟩:=hrel;by_cases c:k<39
 .have m:=λw=>uk w k c;cases hq:(ke.words[k]?.getD []==s.toList)
  .go_wp2
   go_round
   .refine⟨k+1,SE,SJ,λa j=>?_⟩;by_cases e:a=k;rw[e];exact hq;exact b a SE
   simp[intOf];omega
  go_wp2;go_ret;exact⟨by rw[ke.DJ _ k c (by rw[<-QA];exact hq)];rfl,rfl⟩
 go_wp2;go_ret;exact⟨by rw[ke.Ar _ (λa j=>by rw[<-QA];exact b a SE)];rfl,rfl⟩
def L.qV(l:List UInt8):Value:=.tuple #[.int .u8 ((ke.nE l).1:Nat),.int .i64 ((ke.nE l).2:Nat)]
def L.px{l:List UInt8}{a b:Nat}(h:ke.nE l=(a,b)):qV l=.tuple #[.int .u8 (a:Nat),b]:=by unfold qV;rw[h]
def L.BL(p:Int->Bool)(s:ByteArray):ke.pre p s.data.toList<=s.size:=by have:=ke.vL p s.data.toList;simpa using this
def L.BM(s:ByteArray)(w:World)(hL:Laid w)(hs:s.size<=maxLen)(d:0<s.size)(g:ke.lp (s[0]).toNat=true):
  Calls prog 111 #[.string s] w λe w'=>e=.returned (qV s.data.toList)/\w=w':=by
 have i:=O0 hL;clear hL;have f:=O0 g;unfold maxLen at hs
 go_enter func111,ntmps111
 go_wp2_with (go_at_call 162;apply(nN _ _).M;rintro e w' ⟨rfl,rfl⟩);refine(qd _ _ SR).M ?_;rintro e w' ⟨rfl,rfl⟩;have hb:=BL ke.lr s;generalize hx:ke.pre ke.lr s.data.toList=n at*;have a:=O0 hx;clear hx;go_wp21;apply(rC _ _ i.o).M;rintro e w' ⟨rfl,rfl⟩;rw[ke.Ew];cases hk:ke.sr (s.data.toList.take n)
 .have c:=O0 hk;clear hk;by_cases hn:n<=12
  .have b:Hid (qV s.data.toList=.tuple #[.int .u8 (1:Nat),n]):=O0 (px (by rw[ke.Ey s d f.o (by rw[a.o];exact c.o) (by rw[a.o];exact hn),a.o]));go_wp21
   go_ret2
   exact⟨by rw[b.o];rfl,rfl⟩
  have b:Hid (qV s.data.toList=.tuple #[.int .u8 (5:Nat),.int .i64 (s.size:Nat)]):=O0 (px (by rw[ke.Ez s d f.o (by rw[a.o];exact c.o) (by rw[a.o];exact hn)]));go_wp21
  go_ret2
  exact⟨by rw[b.o];rfl,rfl⟩
 .have c:=O0 hk;clear hk;have b:Hid (qV s.data.toList=.tuple #[.int .u8 (2:Nat),n]):=O0 (px (by rw[ke.IU s d f.o (by rw[a.o];exact c.o),a.o]));go_wp21
  go_ret2
  exact⟨by rw[b.o];rfl,rfl⟩
def L.C9(s:ByteArray)(w:World)(hs:s.size<=maxLen)(c:0<s.size)(g:ke.lp (s[0]).toNat=false)(hd:ke.lX (s[0]).toNat=true):
  Calls prog 111 #[.string s] w λe w'=>e=.returned (qV s.data.toList)/\w=w':=by
 have d:=g;have f:=hd;unfold maxLen at hs
 go_enter func111,ntmps111
 go_wp2_with (first|(go_at_call 162;apply(nN _ _).M;rintro e w' ⟨rfl,rfl⟩)|(go_at_call 165;apply(oU _ _).M;rintro e w' ⟨rfl,rfl⟩));refine(tS _ _ SR).M ?_;rintro e w' ⟨rfl,rfl⟩;generalize hx:ke.pre ke.lX s.data.toList=n at*;have a:=hx;cases h1:((n:Int)==1)<;>cases hc:(((s[0]).toNat:Int) !=48)
 .have b:Hid (qV s.data.toList=.tuple #[.int .u8 (5:Nat),.int .i64 (s.size:Nat)]):=(px (by rw[ke.EA s c d f (by rw[a];rw[O8]at h1;omega) hc]))
  go_wp2
  go_ret2
  exact⟨by rw[b.o];rfl,rfl⟩
 all_goals
  have b:Hid (qV s.data.toList=.tuple #[.int .u8 (3:Nat),n]):=(px (by rw[ke.GW s c d f (by rw[a];first|exact .inr hc|(left;rw[P9]at h1;omega)),a]))
  go_wp2
  go_ret2
  exact⟨by rw[b.o];rfl,rfl⟩
def L.Da(s:ByteArray)(w:World)(hL:Laid w)(f:0<s.size)(n:ke.lp (s[0]).toNat=false)(hd:ke.lX (s[0]).toNat=false):
  Calls prog 111 #[.string s] w λe w'=>e=.returned (qV s.data.toList)/\w=w':=by
 obtain⟨_,p,q,hg⟩:=hL;have r:=O0 hg;clear hg;have g:=O0 n;have j:=O0 hd
 go_enter func111,ntmps111
 go_wp2_with (first|(go_at_call 162;apply(nN _ _).M;rintro e w' ⟨rfl,rfl⟩)|(go_at_call 165;apply(oU _ _).M;rintro e w' ⟨rfl,rfl⟩)|refine R7 rfl 295 _ rfl 2 rfl p _ q _ r.o C8 rfl Fh ?_)
 go_loop [8,12] (λ_ i=>∃k:Nat,k<=25/\i=k/\∀a,a<k->ke.pfx s.data.toList (ke.syms[a]?.getD [])=false) (λ_ i=>25-(intOf i).toNat)
 .exact⟨0,Pb _,rfl,SE⟩
 obtain⟨k,v,rfl,l⟩:=hrel;have c:=O0 l;clear l;by_cases m:k<25
 .have x:=λw=>Hp w k m;go_wp21;apply(Tryz.strings_HasPrefix _ _ _).M;rintro e w' ⟨rfl,rfl⟩;cases hp:ke.pfx s.data.toList (ke.syms[k]?.getD [])
  .have t:=O0 hp;have b:Lib.hasPrefix s.data.toList ({data:=(ke.syms[k]?.getD []).toArray}:ByteArray).data.toList=false:=hp;clear hp;rw[b];clear b;go_wp21
   go_round
   .refine⟨k+1,SE,SJ,λa u=>?_⟩;by_cases e:a=k;rw[e];exact t.o;exact c.o a SE
   simp[intOf];omega
  have d:=O0 (px (ke.GX s f g.o j.o k m c.o hp));have b:Lib.hasPrefix s.data.toList ({data:=(ke.syms[k]?.getD []).toArray}:ByteArray).data.toList=true:=hp;clear hp;rw[b];clear b;go_wp21
  go_ret2
  exact⟨by rw[d.o];rfl,rfl⟩
 have d:=O0 (px (ke.EB s f g.o j.o (λa u=>c.o a SE)));go_wp21
 go_ret2
 exact⟨by rw[d.o];rfl,rfl⟩
def L.Hr(s:ByteArray)(w:World)(hL:Laid w)(hs:s.size<=maxLen)(a:0<s.size):
  Calls prog 111 #[.string s] w λe w'=>e=.returned (qV s.data.toList)/\w=w':=by
 cases hl:ke.lp (s[0]).toNat
 .cases hd:ke.lX (s[0]).toNat;exact Da s w hL a hl hd;exact C9 s w hs a hl hd
 .exact BM s w hL hs a hl
abbrev pG.kG:=List ke.Tok
def pG.zM(T:kG)(p:Nat):Nat:=match T[p]? with|some t=>t.kind|none=>0
def pG.nD(T:kG)(p:Nat):List UInt8:=match T[p]? with|some t=>t.text.data.toList|none=>[]
def pG.uV(T:kG)(p:Nat):Option (List UInt8×Nat):=if zM T p=1 then some (nD T p,p+1)else none
def pG.uZ(l:List UInt8):Nat:=l.foldl (λv c=>10*v+(c.toNat-48)) 0
def pG.El(T:kG)(p:Nat):Option (Nat×Nat):=if zM T p=3/\(nD T p).all (λc=>decide (48<=c)&&decide (c<=57))=true/\nD T p≠[]/\(nD T p).length<=18 then some (uZ (nD T p),p+1)else none
def pG.vH(T:kG)(p:Nat):Option (Ex×Nat):=
 if nD T p∈wm then none
 else if zM T p=3 then(El T p).map λx=>(.mk 1 [] (x.1:Int) [],x.2)
 else if nD T (p+1)=[91]then none
 else(uV T p).map λx=>(.mk 5 x.1 0 [],x.2)
def pG.pM(T:kG)(p:Nat):Option (Ex×Nat):=match vH T p with
 |some (x,q)=>if nD T q∈opers then none else some (x,q)
 |none=>none
structure lz(T:kG)(V:PV)(w:World)(pb pos:Nat):Prop where
 kt:∃(tb cap:Nat) (en:Int),w.heap[pb]?=some (.cells #[.slice tb T.length cap,pos,en,V.v1,V.v2,V.v3,V.v4,.int .i64 0,.int .i64 0] 139)/\T.length<=cap/\tb≠pb/\tb<V.lo/\
  ∀(k:Nat) (x:ke.Tok),T[k]?=some x->w.cell? ⟨tb,k*3,none⟩=some (.int .u8 (x.kind:Nat))/\w.cell? ⟨tb,k*3+1,none⟩=some (.string x.text)/\w.cell? ⟨tb,k*3+2,none⟩=some (.int .i64 (x.off:Nat))
 small:T.length<=20000/\pos<=T.length
 low:pb<V.lo/\V.lo<=w
def lz.lt{T:kG}{V:PV}{w}{pb pos:Nat}(h:lz T V w pb pos):pb<w:=by obtain⟨_,_,_,hb,_⟩:=h.kt;exact(O3.1 hb).1
def lz.grown{T:kG}{V:PV}{w w'}{pb pos:Nat}(h:lz T V w pb pos)(hg:w.grownBy w' none):lz T V w' pb pos:=by obtain⟨a,d,e,hb,hc,hn,c,f⟩:=h.kt;exact⟨⟨a,d,e,(hg.B pb h.lt SG).T hb,hc,hn,c,λk x hx=>by obtain⟨g,i,j⟩:=f k x hx;have b:=hg.B a (O1 c h.low.2) SG;exact⟨(Cb a _ b).T g,(Cb a _ b).T i,(Cb a _ b).T j⟩⟩,h.small,h.low.1,Pj h.low.2 hg.size⟩
def lz.step{T:kG}{V:PV}{w}{pb pos q:Nat}(h:lz T V w pb pos)(d:q<=T.length):lz T V (w.setCell ⟨pb,1,none⟩ (.int .i64 (q:Int))) pb q:=by obtain⟨a,f,g,hb,hc,hn,c,i⟩:=h.kt;refine⟨⟨a,f,g,jO hb,hc,hn,c,λk x hx=>?_⟩,⟨h.small.1,d⟩,h.low.1,by rw[O6];exact h.low.2⟩;obtain⟨j,l,m⟩:=i k x hx;have b:=(jY w pb 1 (.int .i64 (q:Int))).B a (O1 c h.low.2) (λe=>hn (by injection e));exact⟨(Cb a _ b).T j,(Cb a _ b).T l,(Cb a _ b).T m⟩
def kZ(T:kG)(V:PV)(w:World)(pb q:Nat)(w':World):Prop:=lz T V w' pb q/\w.grownBy w' (some pb)
def K1(x:ke.Tok):Value.string x.text=tx x.text.data.toList:=by show Value.string x.text=.string ⟨x.text.data.toList.toArray⟩;rw[Qw]
def Mk{T:kG}{p:Nat}{x:ke.Tok}(h:T[p]?=some x):zM T p=x.kind/\nD T p=x.text.data.toList:=by unfold zM nD;rw[h];exact⟨rfl,rfl⟩
def Cl{T:kG}{p:Nat}(h:¬p<T.length):zM T p=0/\nD T p=[]:=by unfold zM nD;rw[QE SE];exact⟨rfl,rfl⟩
def Jt(T:kG)(pos:Nat)(w:World)(e:Ending)(w':World):Prop:=(∃a:Int,e=.returned (.agg #[.int .u8 (zM T pos:Nat),tx (nD T pos),a]))/\Below w w w'
def Fk(w a b c):(Instr.field 203 (.agg #[a,b,c]) 1).run prog w=.ok b w:=SH
def wY(w a b c):(Instr.field 203 (.agg #[a,b,c]) 0).run prog w=.ok a w:=SH
def Ju(T:kG)(V:PV)(pb pos:Nat)(b:Bool)(w:World)(e:Ending)(w':World):Prop:=e=.returned (.bool b)/\kZ T V w pb (if b then pos+1 else pos) w'
def kZ.T{T:kG}{V:PV}{w w' a}{pb p q:Nat}(h:kZ T V w pb p w')(k:kZ T V w' pb q a):kZ T V w pb q a:=⟨k.1,jR h.2 k.2⟩
def JX{T:kG}{p:Nat}{x}(h:nD T p=x)(hx:x≠[]):p<T.length:=by by_cases a:p<T.length;exact a;exact absurd ((Cl a).2.symm.T h).symm hx
def qz{T:kG}{p q:Nat}{x}(h:uV T p=some (x,q)):zM T p=1/\nD T p=x/\q=p+1/\p<T.length:=by unfold uV at h;by_cases a:zM T p=1;rw[PJ a]at h;injection h with h;injection h with c d;refine⟨a,c,d.symm,?_⟩;by_cases b:p<T.length;exact b;rw[(Cl b).1]at a;cases a;rw[Pn a]at h;cases h
def AX{T:kG}{p q v:Nat}(h:El T p=some (v,q)):zM T p=3/\(nD T p).all (λc=>decide (48<=c)&&decide (c<=57))=true/\nD T p≠[]/\(nD T p).length<=18/\v=uZ (nD T p)/\q=p+1/\p<T.length:=by
 unfold El at h;split at h
 rename_i hc
 injection h with h;injection h with a b;exact⟨hc.1,hc.2.1,hc.2.2.1,hc.2.2.2,a.symm,b.symm,JX rfl hc.2.2.1⟩;cases h
def pG.yw(l c):uZ (l++[c])=10*uZ l+(c.toNat-48):=by simp[uZ]
def pG.D2:∀(n:Nat) (l:List UInt8),l.length=n->l.all (λc=>decide (48<=c)&&decide (c<=57))=true->uZ l<10^n
 |0,l,h,_=>by obtain rfl:=List.eq_nil_of_length_eq_zero h;decide
 |n+1,l,h,ha=>by
  obtain⟨m,c,rfl⟩:∃m c,l=m++[c]:=⟨l.dropLast,l.getLast (by intro e;rw[e]at h;cases h),(List.dropLast_concat_getLast _).symm⟩
  rw[List.all_append,Bool.and_eq_true]at ha;have a:=D2 n m (by simpa using h) ha.1;have hc:c<=57:=(by have:=ha.2;simp at this;exact this.2);have b:c.toNat<=57:=hc;rw[yw,Nat.pow_succ];omega
def pG.Fm{l:List UInt8}(k:Nat)(h:k<l.length):uZ (l.take (k+1))=10*uZ (l.take k)+((l[k]).toNat-48):=by rw[List.take_add_one,List.getElem?_eq_getElem h];exact yw _ _
def pG.K2{l:List UInt8}(a:l.all (λc=>decide (48<=c)&&decide (c<=57))=true)(k:Nat)(h:k<l.length):48<=(l[k]).toNat/\(l[k]).toNat<=57:=by have:=List.all_eq_true.1 a _ (List.getElem_mem h);simp at this;exact this
def pG.wZ:∀{l:List UInt8},l.all (λc=>decide (48<=c)&&decide (c<=57))=true->ke.pre ke.lX l=l.length
 |[],_=>rfl
 |c::l,h=>by
  rw[List.all_cons,Bool.and_eq_true]at h;have hc:48<=c.toNat/\c.toNat<=57:=by have:=h.1;simp at this;exact this
  rw[ke.mL,if_pos (by unfold ke.lX;simp;omega),wZ h.2,List.length_cons]
def Dd{P:Program}{f:FuncId}{args:Array Value}{w:World}{n:Nat}{v:Value}
  (h:Calls P f args (w.drewN n) λe w'=>e=.returned v/\w.drewN n=w'):Calls P f args (w.drewN n) λe a=>e=.returned v/\∃m,a=w.drewN m:=
 h.M λ_ _ ⟨he,hm⟩=>⟨he,n,hm.symm⟩
def Df(l)(m:Int)(w:World)(d:l.all (λc=>decide (48<=c)&&decide (c<=57))=true)(n:l≠[])(z:l.length<=18):
  Calls prog 166 #[.agg #[.int .u8 3,tx l,m]] w λe w'=>e=.returned (.tuple #[.int .i64 (uZ l:Nat),.int .i64 0])/\Below w w w':=by
 obtain⟨s,hs⟩:∃s:ByteArray,s=⟨l.toArray⟩:=⟨_,rfl⟩
 have f:s.size=l.length:=by rw[hs];exact Qj ..
 have M9:s.data.toList=l:=by rw[hs]
 have g:=λ(W:World)=>L.tS s W SP;rw[M9,wZ d,<-f]at g;have A:=O0 g;have b:=O0 (And.intro d (And.intro f M9));have B:s.toList≠[]:=by rw[hs,QA];exact n
 have he:s.toList.isEmpty=false:=by
  cases e:s.toList with
  |nil=>exact absurd e B
  |cons=>rfl
 have E:s.size<=18:=SE
 rw[show tx l=.string s from by rw[hs]];clear g hs M9 d n z f
 go_enter func166,ntmps166
 go_wp2_with fail;go_quiet ((go_at_call 158;exact Dd (A.o _)));go_wp2_with fail;go_loopw [4,5,6,27] (λa _ _ i wr=>∃k:Nat,k<=s.size/\i=k/\a=.int .i64 (uZ (l.take k):Nat)/\wr=(w.alloc (Obj.cells #[Value.int IntKind.u8 3,Value.string s,Value.int IntKind.i64 m] 203)).drewN nq) (λ_ _ _ i _=>s.size-(intOf i).toNat)
 .exact⟨0,Pb _,rfl,rfl,rfl⟩
 obtain⟨k,F,rfl,rfl,rfl⟩:=hrel;have p:=D2 k (l.take k) (by rw[Pw];have:=b.o.2.1;omega) (by have:=b.o.1;rw[Qm]at this⊢;exact λx hx=>this x (QK hx));by_cases C:k<s.size
 .have hp:10^k<=10^17:=Nat.pow_le_pow_right SF SE;have j:k<l.length:=SC b.o.2.1;have D:=K2 b.o.1 k j;have q:=O0 (Fm k j);have r:s[k]=l[k]:=by have t:s.data.toList[k]?=some s[k]:=(by rw[Pg (by simpa using C)];rfl);rw[b.o.2.2,Pg j]at t;exact(Option.some.inj t).symm
  have u:(s[k]).toNat=(l[k]).toNat:=(by rw[r]);have G:uZ (l.take k)<100000000000000000:=SE;generalize uZ (l.take k)=v at*;generalize hc:(s[k]).toNat=c at*;rw[<-u]at D q;clear u r p hp;go_wp2_with fail;go_roundw
  .exact⟨k+1,SE,SJ,by rw[q.o];go_num,trivial⟩
  simp[intOf];omega
 have y:l.take k=l:=Pq (SC b.o.2.1);rw[y];have y:k=s.size:=SE;clear p;go_wp2_with fail
 go_ret2
 exact⟨rfl,mo (Ba _ _) _⟩
def kZ.refl{T:kG}{V:PV}{w}{pb pos:Nat}(h:lz T V w pb pos):kZ T V w pb pos w:=⟨h,kP _ _⟩
def Ii:Rel (List UInt8×Nat):=λ_ _ r x=>r=[tx x.1,.int .u8 (x.2:Nat)]
def Ii.ok:kF Ii 2:=⟨SE,λh=>by rw[h];rfl,λh u hu=>by rw[h]at hu;simp at hu;rcases hu with rfl|rfl<;>rfl,λh _=>h,λh _=>h⟩
def zR(T:kG)(pos:Nat)(l:List (List UInt8×Nat)):Prop:=∀s∈l,s.1≠[]/\nD T pos≠s.1
abbrev JK(x:Ex):Value:=.agg #[.int .u8 x.op,tx x.name,x.n,Nl]
def GG(T:kG)(V:PV)(pb q:Nat)(x:Ex)(w:World)(e:Ending)(w':World):Prop:=e=.returned (JK x)/\kZ T V w pb q w'
def zS(T:kG)(V:PV)(pb pos q:Nat)(x:Ex)(f:FuncId):Prop:=∀w,lz T V w pb pos->Calls prog f #[.pointer pb] w (GG T V pb q x w)
def lz.other{T:kG}{V:PV}{w}{pb pos z i:Nat}{u}(h:lz T V w pb pos)(hz:V.lo<=z):lz T V (w.setCell ⟨z,i,none⟩ u) pb pos:=by obtain⟨a,g,j,hb,hc,hn,d,l⟩:=h.kt;have hg:=jY w z i u;have b:=h.low;have f:∀q,q<V.lo->(w.setCell ⟨z,i,none⟩ u).heap[q]?=w.heap[q]?:=λq r=>hg.B q SE (λe=>by injection e;omega);refine⟨⟨a,g,j,(f pb b.1).T hb,hc,hn,d,λk x hx=>?_⟩,h.small,b.1,by rw[O6];exact b.2⟩;obtain⟨m,n,p⟩:=l k x hx;have c:=f a d;exact⟨(Cb a _ c).T m,(Cb a _ c).T n,(Cb a _ c).T p⟩
def kZ.other{T:kG}{V:PV}{w0 w}{pb pos z i:Nat}{u}(h:kZ T V w0 pb pos w)(a:V.lo<=w0)(hz:w0<=z):kZ T V w0 pb pos (w.setCell ⟨z,i,none⟩ u):=
 ⟨h.1.other (Pj a hz),⟨h.2.os,h.2.tape,h.2.output,by rw[O6];exact h.2.size,λq b c=>(Pd _ _ _ _ (by show q≠z;omega)).T (h.2.B q b c)⟩⟩
def sg{T:kG}{p q:Nat}{x}(h:vH T p=some (x,q)):nD T p∉wm/\((zM T p=3/\∃v,El T p=some (v,q)/\x=.mk 1 [] (v:Int) [])\/(zM T p≠3/\nD T q≠[91]/\∃s,uV T p=some (s,q)/\x=.mk 5 s 0 [])):=by
 unfold vH at h;split at h;cases h
 rename_i hn
 refine⟨hn,?_⟩;split at h
 rename_i b
 cases hv:El T p with
 |none=>rw[hv]at h;cases h
 |some y=>rw[hv]at h;injection h with h;injection h with c a;exact .inl ⟨b,y.1,by rw[<-a],c.symm⟩
 rename_i b
 split at h;cases h
 rename_i hb
 cases hv:uV T p with
 |none=>rw[hv]at h;cases h
 |some y=>rw[hv]at h;injection h with h;injection h with c a;obtain⟨_,_,d,_⟩:=qz (x:=y.1) (q:=y.2) hv;exact .inr ⟨b,by rw[<-a,d];exact hb,y.1,by rw[<-a],c.symm⟩
def yQ{T:kG}{V:PV}{w0 w}{pb pos z:Nat}{u0 u1 u2 u3:Value}(h:kZ T V w0 pb pos w)(a:V.lo<=w0)(hz:w0<=z):
 kZ T V w0 pb pos ((((w.setCell z u0).setCell ⟨z,1,none⟩ u1).setCell ⟨z,2,none⟩ u2).setCell ⟨z,3,none⟩ u3):=(((h.other a hz).other a hz).other a hz).other a hz
def yR{w:World}{z:Nat}{a c1 c2 c3 u0 u1 u2 u3:Value}{t:TypeId}(h:w.heap[z]?=some (.cells #[a,c1,c2,c3] t)):
 ((((w.setCell z u0).setCell ⟨z,1,none⟩ u1).setCell ⟨z,2,none⟩ u2).setCell ⟨z,3,none⟩ u3).heap[z]?=some (.cells #[u0,u1,u2,u3] t):=jO (jO (jO (jO h)))
def JY(l:List (List UInt8×Nat)):List Value:=(l.map λx=>[tx x.1,.int .u8 (x.2:Nat)]).flatten
def ug{w}{b:Nat}{t a}(l)(n:Nat)(h:w.heap[b]?=some (.cells (JY l).toArray t a))(hn:l.length=n)(c:n<=100):jT Ii (λq=>q=b) w (.slice b n n) l:=by
 subst hn;refine⟨_,_,l.map λx=>[tx x.1,.int .u8 (x.2:Nat)],rfl,O9 _,SE,λ_=>⟨b,0,rfl,rfl,λe u hu=>?_⟩,?_⟩;rw[Pk];simp only[World.cell?,h];simpa[JY]using hu;clear h c;induction l with
 |nil=>trivial
 |cons x l d=>exact⟨rfl,d⟩
def nR{T:kG}{p q:Nat}{x}(h:pM T p=some (x,q)):vH T p=some (x,q)/\nD T q∉opers:=by
 unfold pM at h;cases ha:vH T p with
 |none=>rw[ha]at h;cases h
 |some y=>
  rw[ha]at h;obtain⟨c,d⟩:=y;simp only at h;split at h;cases h
  rename_i hn
  injection h with h;injection h with a b;subst a b;exact⟨rfl,hn⟩
