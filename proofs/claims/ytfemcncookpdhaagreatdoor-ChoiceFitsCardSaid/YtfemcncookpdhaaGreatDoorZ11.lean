import Derived.Test.YtfemcncookpdhaaGreatDoorZ5
import Derived.Test.YtfemcncookpdhaaGreatDoorZ6
import Derived.Test.YtfemcncookpdhaaGreatDoorZ7
import Derived.Test.YtfemcncookpdhaaGreatDoorZ8
set_option maxRecDepth 1000000
set_option maxHeartbeats 32000000
set_option linter.all false
namespace Go.Proofs.YtfemcncookpdhaaGreatDoor
open Go.RowKit lX Go.Proofs.Tryz
theorem oy(S)(b:Nat)(sc)(left:Nat)(w)(h:kH S w b sc left)(lK:pd sc):Calls prog 125 #[.pointer (some ⟨b,0,none⟩)] w (rS S b sc left w):=by
 have n:=lK.Ai;have E:=lK.yo;have q:∀W,Calls prog 20 #[.int .u8 120,.int .i64 3] W (mj (oI 120 3) W):=λW=>mY 120 3 W PJ;have H:kH S w.drew b sc left:=h.kh (Below.refl w w).drew;have r:b<w:=h.lt;obtain⟨s,_⟩:=h.cells;have F:=lK
 go_enter func125,ntmps125
 go_wp2;go_region_with (first|(go_at_call 20;refine Calls.M (q _) ?_;rintro e t ⟨G,he,i,f⟩;have u:=(H.kh f);obtain⟨d,j,I,k,v,x,y,J,l⟩:=i.nM (by rw[lr];omega);rw[lr]at k y;subst k he;have z:=l;have c:=(kp f);have K:=(f.cell (p:=⟨b,0,none⟩) r).T s;have L:w<=d:=v;clear i l)|(go_at_call 81;refine Calls.M (nw S b sc left sc.ints _ u n PJ) ?_;rintro e A ⟨a,B,rfl,m,g⟩;have M:(0:Int)<=(a:Int):=PJ;have N:(a:Int)<3:=PJ;have hx:A.cell? ⟨d,j+a,none⟩=some (tx (nm 120 a)):=(Cb d (j+a) (g.B d x (λe=>by injection e with e;omega))).T (z a (nm 120 a) (oJ 120 3 a PJ));have C:=g;have D:=m;clear g m));all_goals
  go_wp2;go_ret;exact⟨a,B,rfl,D,kn (kG (show w.grownBy t none from⟨c.os,c.tape,c.output,c.size,c.B⟩) _) C⟩
theorem Bc(S)(c:Nat)(sc)(lK:pd sc)(d left:Nat)(w)(hd:d+0=3)(h:kH S w c sc left):Calls prog 123 #[.pointer (some ⟨c,0,none⟩),d] w (mP S c sc left (0+1) w):=by
 have y:=h.lt;have hS:∀b,S b->b<w:=λb Y=>(h.ln b Y).2;have aD:=lK.params;have aE:=lK.kF;have G:∀n:Nat,0<n->n<=1000->∀W,kH S W c sc left->Calls prog 81 #[.pointer (some ⟨c,0,none⟩),n] W (nu S c sc left n W):=λn Z aa W ab=>nw S c sc left n W ab Z aa;have ac:=h.kh (Ba w (.cells #[.int .i64 0,Em,.int .i64 0,Nl] 187));have ad:=NN w (.cells #[.int .i64 0,Em,.int .i64 0,Nl] 187) (some c)
 go_enter func123,ntmps123
 go_wp2_with fail;refine(G 12 PJ PJ _ ac).M ?_;rintro e q ⟨k,aF,rfl,s,N⟩;have z:q.heap[w.heap.size]?=some (.cells #[.int .i64 0,Em,.int .i64 0,Nl] 187 (0,0)):=(N.B w PK (λe=>by injection e with e;omega)).T (NF w _);have A:=kn ad N;have ae:=N.size;rw[NB]at ae;have O:w.heap.size<q:=PJ
 obtain⟨⟨g,i,j,l⟩,⟨I,J,K,L⟩⟩:=kC z;obtain⟨aG,aH,aI,aJ,af,aK⟩:=s.cells;obtain rfl:d=3:=PJ
 by_cases c1:k<2
 .go_wp2_with fail;refine(G 9 PJ PJ _ s).M ?_;rintro e t ⟨v,B,rfl,u,a⟩;have x:=(a.B w PJ (λe=>by injection e with e;omega)).T z;obtain⟨⟨g,i,j,l⟩,⟨I,J,K,L⟩⟩:=kC x;have m:=kn A a;have P:=a.size;have C:w.heap.size<t:=PJ;go_wp2_with fail;refine NT (v:=.agg #[.int .i64 (1),tx [],.int .i64 ((v:Int)),Nl]) ?_ rfl (nS (op:=1) (name:=[]) (n:=(v:Int)) (args:=[]) u m y hS (km.nil _ _ _) (.inl ⟨rfl,rfl,Int.natCast_nonneg _,(show(v:Int)<=8 from PJ),rfl⟩) _ _ _ _);simp[results,Tryz.results123,go_sem,g,i,j,l]<;>rfl
 by_cases c2:5<k
 .go_wp2_with fail;refine(G 9 PJ PJ _ s).M ?_;rintro e t ⟨v,B,rfl,u,a⟩;have x:=(a.B w PJ (λe=>by injection e with e;omega)).T z;obtain⟨⟨g,i,j,l⟩,⟨I,J,K,L⟩⟩:=kC x;have m:=kn A a;have P:=a.size;have C:w.heap.size<t:=PJ;go_wp2_with fail;refine NT (v:=.agg #[.int .i64 (1),tx [],.int .i64 ((v:Int)),Nl]) ?_ rfl (nS (op:=1) (name:=[]) (n:=(v:Int)) (args:=[]) u m y hS (km.nil _ _ _) (.inl ⟨rfl,rfl,Int.natCast_nonneg _,(show(v:Int)<=8 from PJ),rfl⟩) _ _ _ _);simp[results,Tryz.results123,go_sem,g,i,j,l]<;>rfl
 by_cases c3:k<4
 .go_wp2_with fail;refine(oy S c sc left _ s lK).M ?_;rintro e t ⟨v,B,rfl,u,a⟩;have x:=(a.B w PJ (λe=>by injection e with e;omega)).T z;obtain⟨⟨g,i,j,l⟩,⟨I,J,K,L⟩⟩:=kC x;have m:=kn A a;have P:=a.size;have C:w.heap.size<t:=PJ;go_wp2_with fail;refine NT (v:=.agg #[.int .i64 (5),tx (nm 120 v),.int .i64 (0),Nl]) ?_ rfl (nS (op:=5) (name:=(nm 120 v)) (n:=0) (args:=[]) u m y hS (km.nil _ _ _) (.inr (.inr (.inl ⟨rfl,.inl ⟨v,B,rfl⟩,rfl,rfl⟩))) _ _ _ _);simp[results,Tryz.results123,go_sem,g,i,j,l]<;>rfl
 by_cases c4:k=4
 .subst c4;by_cases hp:sc.params=0
  .have ag:((sc.params:Int)==0)=true:=(by rw[Pd];omega);go_wp2_with fail;refine(oy S c sc left _ s lK).M ?_;rintro e t ⟨v,B,rfl,u,a⟩;have x:=(a.B w PJ (λe=>by injection e with e;omega)).T z;obtain⟨⟨g,i,j,l⟩,⟨I,J,K,L⟩⟩:=kC x;have m:=kn A a;have P:=a.size;have C:w.heap.size<t:=PJ;go_wp2_with fail;refine NT (v:=.agg #[.int .i64 (5),tx (nm 120 v),.int .i64 (0),Nl]) ?_ rfl (nS (op:=5) (name:=(nm 120 v)) (n:=0) (args:=[]) u m y hS (km.nil _ _ _) (.inr (.inr (.inl ⟨rfl,.inl ⟨v,B,rfl⟩,rfl,rfl⟩))) _ _ _ _);simp[results,Tryz.results123,go_sem,g,i,j,l]<;>rfl
  have ah:0<sc.params:=PJ;have ag:((sc.params:Int)==0)=false:=(by rw[NX];omega);have ai:∀W,Calls prog 20 #[.int .u8 112,.int .i64 2] W (mj (oI 112 2) W):=λW=>mY 112 2 W PJ;have aj:=G;have ak:kH S q.drew c sc left:=s.kh (Below.refl q q).drew;have al:c<q:=PJ;go_wp2_with fail;go_region_with (first|(go_at_call 20;refine Calls.M (ai _) ?_;rintro e am ⟨aL,he,Q,D⟩;have an:=(ak.kh D);obtain⟨M,R,aM,T,ao,ap,aq,aN,U⟩:=Q.nM (by rw[lr];omega);rw[lr]at T aq;subst T he;have ar:=U;have E:=(kp D);have aO:=(D.cell (p:=⟨c,5,none⟩) al).T af;have aP:q<=M:=ao;have au:=((D.B w O).T z);have V:=ND O D.size;clear Q U)|(go_at_call 81;refine Calls.M (aj sc.params ah PJ _ an) ?_;rintro e av ⟨f,aw,rfl,X,F⟩;have aQ:(0:Int)<=(f:Int):=PJ;have aR:(f:Int)<2:=PJ;have hx:av.cell? ⟨M,R+f,none⟩=some (tx (nm 112 f)):=(Cb M (R+f) (F.B M ap (λe=>by injection e with e;omega))).T (ar f (nm 112 f) (oJ 112 2 f PJ));have r:=(F.B w V (λe=>by injection e with e;omega)).T au;have ax:=kf r 0 _ rfl;have ay:=kf r 1 _ rfl;have az:=kf r 2 _ rfl;have aA:=kf r 3 _ rfl;have aS:=ko r 0;have aT:=ko r 1;have aU:=ko r 2;have aV:=ko r 3;have aB:=F;have aC:=X;have C:=ND V F.size;clear F X));all_goals
   have m:=(kn (kn A (kG (show q.grownBy am none from⟨E.os,E.tape,E.output,E.size,E.B⟩) _)) aB)
   go_wp2_with fail;refine NT (v:=.agg #[.int .i64 5,tx (nm 112 f),.int .i64 0,Nl]) ?_ rfl (nS (op:=5) (name:=nm 112 f) (n:=0) (args:=[]) aC m y hS (km.nil _ _ _) (.inr (.inr (.inl ⟨rfl,.inr ⟨f,aw,rfl⟩,rfl,rfl⟩))) _ _ _ _);simp[results,Tryz.results123,go_sem,ax,ay,az,aA]
 obtain rfl:k=5:=PJ
 go_wp2_with fail;have C:=O;refine NT (v:=.agg #[.int .i64 (4),tx [],.int .i64 (0),Nl]) ?_ rfl (nS (op:=4) (name:=[]) (n:=0) (args:=[]) s A y hS (km.nil _ _ _) (.inr (.inl ⟨rfl,rfl,rfl,rfl⟩)) _ _ _ _);simp[results,Tryz.results123,go_sem,g,i,j,l]<;>rfl
theorem lO.Ap{d}{cb:Nat}{f j k l hd own m p q params}{g n b:Nat}{c:List In}{w}(h:lO d cb f j k l hd own m p q params (.slice (some ⟨g,0,none⟩) n b) c w){i:Nat}{x:In}(hi:c[i]?=some x):
  (∀(a:Nat) u,(vM x)[a]?=some u->w.cell? ⟨g,i*4+a,none⟩=some u/\w.frozen? ⟨g,i*4+a,none⟩=false)/\
   ∀a,a=1\/a=2->∀t:Int,lO d cb f j k l hd own m p q params (.slice (some ⟨g,0,none⟩) n b) (c.set i (x.put a t)) (w.setCell ⟨g,i*4+a,none⟩ (.int .i64 t))/\mX cb (.slice (some ⟨g,0,none⟩) n b) w (.slice (some ⟨g,0,none⟩) n b) (w.setCell ⟨g,i*4+a,none⟩ (.int .i64 t)):=by
 obtain⟨v,y,e,_,_,r,s⟩:=h.ins hi;injection e with e _ _;injection e with e;injection e with e;subst e;exact⟨r,s⟩
theorem lO.Ar{c}{cb:Nat}{d f j k hd own l m n params V}{a:List In}{w}(h:lO c cb d f j k hd own l m n params V a w)(hc:0<a.length):∃g b,V=.slice (some ⟨g,0,none⟩) a.length b:=by obtain⟨g,b,e,_⟩:=h.ins (i:=0) (x:=a[0]) (NU hc);exact⟨g,b,e⟩
structure pN(hh m b8 b9:Nat)(op a b n:Int)(t u:ByteArray)(q:Int)(w x:World):Prop where
 ht:rv (hh+1) hh (m+1) x
 ins:x.heap[b8]?=some (.cells #[.int .u8 op,a,b,n] 312 (0,0))
 row:∃p:Int,x.heap[b9]?=some (.cells #[.string t,.string u,p,q] 314 (0,0))
 kh:Below hh w x
 ln:hh+1<b8
 HI:b8<b9
theorem rv.other{a b n z i:Nat}{u w}(h:rv a b n w)(c:a≠z)(d:b≠z):rv a b n (w.setCell ⟨z,i,none⟩ u):=by obtain⟨l,e,hr⟩:=h.row;exact⟨(N1 _ _ _ _ c).T h.var,⟨l,e,(N1 _ _ _ _ d).T hr⟩,h.ne⟩
theorem pN.L4{e m d c:Nat}{op a b n:Int}{t u}{q:Int}{w x}(h:pN e m d c op a b n t u q w x)(f:Int):pN e m d c op a b n t u q w (x.setCell ⟨c,2,none⟩ (.int .i64 f)):=by obtain⟨p,hp⟩:=h.row;have g:=h.ln;have i:=h.HI;exact⟨h.ht.other PJ PJ,(N1 _ _ _ _ (show d≠c from PJ)).T h.ins,⟨f,ki hp⟩,kq (z:=c) h.kh PJ,g,i⟩
theorem pN.to{d m e f:Nat}{op a b n:Int}{t u}{q:Int}{w x g}(h:pN d m e f op a b n t u q w x)(c:Below x x g):pN d m e f op a b n t u q w g:=by obtain⟨p,hp⟩:=h.row;exact⟨h.ht.kh c,(c.B _ (NC.1 h.ins).1).T h.ins,⟨p,(c.B _ (NC.1 hp).1).T hp⟩,⟨c.os.T h.kh.os,c.tape.T h.kh.tape,c.output.T h.kh.output,NR h.kh.size c.size,λz hz=>(c.B z (PH ((NC.1 h.ht.var).1))).T (h.kh.B z hz)⟩,h.ln,h.HI⟩
theorem pN.grown{c m i j:Nat}{op a b n:Int}{t u}{q:Int}{w x f}(h:pN c m i j op a b n t u q w x)(k:rv (c+1) c (m+1) f)(d:x.grownBy f (some c)):pN c m i j op a b n t u q w f:=by obtain⟨p,hp⟩:=h.row;have l:=h.ln;have r:=h.HI;have g:∀z,z≠c->¬some z=some c:=λz hz e=>hz (by injection e);exact⟨k,(d.B _ (NC.1 h.ins).1 (g _ PJ)).T h.ins,⟨p,(d.B _ (NC.1 hp).1 (g _ PJ)).T hp⟩,⟨d.os.T h.kh.os,d.tape.T h.kh.tape,d.output.T h.kh.output,NR h.kh.size d.size,λz hz=>(d.B z (PH ((NC.1 h.ht.var).1)) (g _ PJ)).T (h.kh.B z hz)⟩,h.ln,h.HI⟩
theorem zg.kg{S w w'}{cb:Nat}{b c d params}(h:zg S w cb b c d params)(a:∀q,S q->w'.heap[q]?=w.heap[q]?)(hs:w.heap.size<=w'.heap.size):zg S w' cb b c d params:=
 ⟨h.vars.kg a,h.kF.kg a,h.kM.kg a,h.params.kg a,λq e=>⟨ND (h.ln q e).1 hs,(h.ln q e).2⟩⟩
theorem Ef.kg{S w w' a hd own b c}{o:Nat}(h:Ef S w a hd own b c o)(d:∀q,S q->w'.heap[q]?=w.heap[q]?):Ef S w' a hd own b c o:=by obtain⟨⟨e,c3,f,g⟩,i,⟨j,k,l,m⟩,n,p⟩:=h;exact⟨⟨e,c3,f,g.kg (mg.ok .u8) d⟩,i,⟨j,k,l,m.kg pA.ok d⟩,n,p⟩
theorem nb.kg{T w w'}{b n:Nat}(h:nb T w b n)(a:w'.heap[b]?=w.heap[b]?):nb T w' b n:=by obtain⟨c,d,e⟩:=h;exact⟨c,a.T d,e⟩
theorem kx.turn{c:Type}{R:Rel c}{T k:Nat}(ok:kT R k){P w w'}{lo:Nat}{v}{xs:List c}(h:kx R T k P w lo v xs)(f:∀z,v.ownBlock=some z->w'.heap[z]?=w.heap[z]?)(i:∀b,P b->b<w->w'.heap[b]?=w.heap[b]?)(hs:w.heap.size<=w'.heap.size):kx R T k P w' lo v xs:=by
 obtain⟨j,d,l⟩:=h.own;refine⟨j,?_,l.imp λr x hx=>ok.M (ok.kg hx λb a=>i b a.1 a.2.1) λb a=>⟨a.1,ND a.2.1 hs,a.2.2⟩⟩;refine⟨d.1,?_⟩;rcases d.2 with h|⟨g,m,n,e,a,p,h⟩
 exact .inl h;refine .inr ⟨g,m,n,e,a,(f g (by rw[e];rfl)).T p,h⟩
theorem pg.turn{T a x b V}{n:Nat}(h:pg T a x V n)(d:∀z,V.ownBlock=some z->a<=z->z<x->b.heap[z]?=x.heap[z]?)(hs:x.heap.size<=b.heap.size):pg T a b V n:=by obtain⟨e,c,f⟩:=h;exact⟨e,c.turn qI (λz hz=>d z hz (c.ge z hz).1 (c.ge z hz).2) (λ_ h=>h.elim) hs,f⟩
structure qf(w3:World)(cb bu bf bx nn:Nat)(f0 f1 f2 f3 hd own V6 V7 V8 nm:Value)(n:Nat)(x:World):Prop where
 g:nG (λq=>q=cb\/q=bu\/q=bf\/q=bx) w3 x
 c:∃P V:Value,x.heap[cb]?=some (.cells #[f0,f1,f2,f3,hd,own,V6,V7,V8,P,V] 152 (0,0))
 u:nb 219 x bu (nn*3)
 f:nb 4 x bf nn
 r:∃Vu Vf:Value,x.heap[bx]?=some (.cells #[nm,Vu,Vf] 160 (0,0))/\pg 215 w3 x Vu n/\pg 216 w3 x Vf n
 l:cb<w3/\bu<w3/\bf<w3/\bx<w3
 ne:bu≠cb/\bf≠cb/\bx≠cb/\bu≠bx/\bf≠bx/\bu≠bf
theorem qf.to{s}{cb c d f e:Nat}{g i j k hd own l m p nm}{n:Nat}{x b}(h:qf s cb c d f e g i j k hd own l m p nm n x)(a:nG (λq=>q=cb\/q=c\/q=d) x b)(hc:∃P V:Value,b.heap[cb]?=some (.cells #[g,i,j,k,hd,own,l,m,p,P,V] 152 (0,0)))(hu:nb 219 b c (e*3))(hf:nb 4 b d e):qf s cb c d f e g i j k hd own l m p nm n b:=by obtain⟨A,B,C,D⟩:=h.l;obtain⟨E,F,G,I,J,K⟩:=h.ne;have hs:=h.g.size;obtain⟨t,u,hx,v,w⟩:=h.r;exact⟨h.g.T (a.M λq y=>by rcases y with h|h|h;exact .inl h;exact .inr (.inl h);exact .inr (.inr (.inl h))),hc,hu,hf,⟨t,u,(a.B f PJ PJ).T hx,v.turn (λz _ hz r=>a.B z r PJ) a.size,w.turn (λz _ hz r=>a.B z r PJ) a.size⟩,h.l,h.ne⟩
theorem qf.kh{b}{cb c d e f:Nat}{g i j k hd own l m p nm}{n:Nat}{x q}(h:qf b cb c d e f g i j k hd own l m p nm n x)(a:Below x x q):qf b cb c d e f g i j k hd own l m p nm n q:=by obtain⟨P,V,hc⟩:=h.c;exact h.to (nG.of a) ⟨P,V,(a.B cb (NC.1 hc).1).T hc⟩ (h.u.kg (a.B _ h.u.lt)) (h.f.kg (a.B _ h.f.lt))
structure sY(w3:World)(cb bu bf bx nn:Nat)(f0 f1 f2 f3 hd own V6 V7 V8 nm:Value)(wr:World)(Vu Vf:Value)(us fs:List Unit)(n:Nat)(b1 b2:Bool)(x:World):Prop where
 g:nG (λq=>q=cb\/q=bu\/q=bf\/q=bx) w3 x
 c:∃P V:Value,x.heap[cb]?=some (.cells #[f0,f1,f2,f3,hd,own,V6,V7,V8,P,V] 152 (0,0))
 u:nb 219 x bu (nn*3)
 f:nb 4 x bf nn
 r:∃a b:Value,x.heap[bx]?=some (.cells #[nm,a,b] 160 (0,0))/\(b1=false->a=Vu)/\(b2=false->b=Vf)/\pg 215 w3 x a (n+1)/\pg 216 w3 x b (n+1)
 ou:kx (xM 1) 215 1 (λ_=>False) x w3 Vu us
 FA:kx (xM 1) 216 1 (λ_=>False) x w3 Vf fs
 s:wr.heap.size<=x
 ws:w3.heap.size<=wr
 vu:∀z,Vu.ownBlock=some z->w3<=z/\z<wr
 vf:∀z,Vf.ownBlock=some z->w3<=z/\z<wr
 l:cb<w3/\bu<w3/\bf<w3/\bx<w3
 ne:bu≠cb/\bf≠cb/\bx≠cb/\bu≠bx/\bf≠bx/\bu≠bf
theorem sY.kh{f}{cb g i d j:Nat}{k l m p hd own q r s nm wr t u}{v w:List Unit}{n:Nat}{y A x B}(h:sY f cb g i d j k l m p hd own q r s nm wr t u v w n y A x)(c:Below x x B):sY f cb g i d j k l m p hd own q r s nm wr t u v w n y A B:=by obtain⟨P,V,hc⟩:=h.c;obtain⟨a,b,hx,C,D,E,F⟩:=h.r;exact⟨h.g.T (nG.of c),⟨P,V,(c.B cb (NC.1 hc).1).T hc⟩,h.u.kg (c.B _ h.u.lt),h.f.kg (c.B _ h.f.lt),⟨a,b,(c.B d (NC.1 hx).1).T hx,C,D,E.turn (λz _ _ e=>c.B z e) c.size,F.turn (λz _ _ e=>c.B z e) c.size⟩,h.ou.kh qI c,h.FA.kh qI c,NR h.s c.size,h.ws,h.vu,h.vf,h.l,h.ne⟩
theorem sY.alloc{a}{cb b c d e:Nat}{f g i j hd own k l m nm wr p q}{r s:List Unit}{n:Nat}{t u x}(h:sY a cb b c d e f g i j hd own k l m nm wr p q r s n t u x)(v):sY a cb b c d e f g i j hd own k l m nm wr p q r s n t u (x.alloc v):=h.kh (Ba _ _)
theorem sY.drew{a}{cb b c d e:Nat}{f g i j hd own k l m nm wr p q}{r s:List Unit}{n:Nat}{t u x}(h:sY a cb b c d e f g i j hd own k l m nm wr p q r s n t u x):sY a cb b c d e f g i j hd own k l m nm wr p q r s n t u {x with drawn:=x.drawn+1}:=h.kh (Below.refl _ _).drew
theorem NK.set{wr w}{a i:Nat}{u}(d:a<wr.heap.size):w.heap.size<=(w.setCell ⟨a,i,none⟩ u).heap.size/\∀b,Nw wr w b->(w.setCell ⟨a,i,none⟩ u).heap[b]?=w.heap[b]?:=
 ⟨by rw[NM];exact NQ _,λb c=>N1 _ _ _ _ (by have:=c.1;show b≠a;omega)⟩
theorem sO.turn{a x c:World}{V W:Value}{n cb:Nat}(h:sO a x V n)(i:cb<a)(hs:x.heap.size<=c)(e:∀b,b<x.heap.size->b≠cb->some b≠W.ownBlock->c.heap[b]?=x.heap[b]?)(hd:∀z,V.ownBlock=some z->some z≠W.ownBlock):sO a c V n:=by have d:=h.lt;obtain⟨xs,f,g⟩:=h;exact⟨xs,f.turn kA.ok (λz hz=>e z (d z hz).2 (PH ((d z hz).1)) (hd z hz)) (λ_ h=>h.elim) hs,g⟩
theorem sO.kh{a x b V}{n:Nat}(h:sO a x V n)(c:Below x x b):sO a b V n:=by obtain⟨xs,d,e⟩:=h;exact⟨xs,d.kh kA.ok c,e⟩
structure ry(w1:World)(cb:Nat)(f0 f1 f2 f3 hd own P V V6 V7 V8:Value)(n6 n7 n8:Nat)(x:World):Prop where
 g:w1.grownBy x (some cb)
 c:x.heap[cb]?=some (.cells #[f0,f1,f2,f3,hd,own,V6,V7,V8,P,V] 152 (0,0))
 r6:sO w1 x V6 n6
 r7:sO w1 x V7 n7
 r8:sO w1 x V8 n8
 d:ub V6 V7/\ub V6 V8/\ub V7 V8
 lt:cb<w1
theorem ry.kh{b}{cb:Nat}{c d e f hd own P V g i j}{k l m:Nat}{x n}(h:ry b cb c d e f hd own P V g i j k l m x)(a:Below x x n):ry b cb c d e f hd own P V g i j k l m n:=
 ⟨kn h.g (kG (kp a) _),(a.B cb (NC.1 h.c).1).T h.c,h.r6.kh a,h.r7.kh a,h.r8.kh a,h.d,h.lt⟩
structure FJ(S:Nat->Prop)(w:World)(cb:Nat)(A1:Option Addr)(n1 c1:Nat)(A3:Option Addr)(m3 c3:Nat)(Ah:Option Addr)(ch:Nat)(BS:List Fg)(ky:List Co)(nl:List (List (List UInt8))):Prop where
 h1:km mR S w (.slice A1 n1 c1) BS
 Ma:n1<=50
 h3:km (mg .u8) S w (.slice A3 m3 c3) ky
 Mb:m3<=3
 hh:km pA S w (.slice Ah m3 ch) nl
 Mc:∀(i:Nat) (x:Co),ky[i]?=some x->nl[i]?=some (kX [] x.kY)
 ln:∀q,S q->q<w/\q≠cb
 rows:rp w
 ne:(5:Nat)≠cb
 gc:∀x∈ky,x.vars.length<=50/\x.kY.length<=4/\∀hs∈x.kY,hs.length<=100/\∀h∈hs,h.params.length<=1000/\kN Ds h.body<=12/\∀s∈h.body,Dq ky Ds s
theorem nU.M{S T w v}(h:nU S w v)(a:∀q,S q->T q):nU T w v:=by obtain⟨b,n,c,xs,e,hs,hn⟩:=h;exact⟨b,n,c,xs,e,hs.M kA.ok a,hn⟩
structure Ae(S2:Nat->Prop)(w3:World)(cb bu bf bx:Nat)(f3 hd own V6 V7 V8 nm:Value)(ky:List Co)(nl:List (List (List UInt8)))(o:Nat)(ns:List (List UInt8))(ve:Value)(kY:List (List Hd)):Prop where
 s6:nU S2 w3 V6
 s7:nU S2 w3 V7
 s8:nU S2 w3 V8
 ln:∀q,S2 q->q<w3/\q≠cb/\q≠bu/\q≠bf/\q≠bx
 fx:Ef S2 w3 f3 hd own ky nl o
 rows:rp w3
 LW:(5:Nat)≠cb/\(5:Nat)≠bu/\(5:Nat)≠bf/\(5:Nat)≠bx
 oI:km kA S2 w3 nm ns
 vs:km (mB .u8) S2 w3 ve kY
theorem Ae.to{c d x}{cb e f g v n:Nat}{w y z i hd own j k l nm m p r}{o:Nat}{s t}(h:Ae c d cb e f g i hd own j k l nm p r o s m t)(u:qf d cb e f g v w y z i hd own j k l nm n x):Ae c x cb e f g i hd own j k l nm p r o s m t:=by have a:∀q,c q->x.heap[q]?=d.heap[q]?:=λq b=>u.g.B q (h.ln q b).1 (PH (h.ln q b));exact⟨h.s6.kg a,h.s7.kg a,h.s8.kg a,λq b=>⟨ND (h.ln q b).1 u.g.size,(h.ln q b).2⟩,h.fx.kg a,h.rows.kg (u.g.B _ h.rows.lt (PH h.LW)) u.g.size,h.LW,h.oI.kg kA.ok a,h.vs.kg (mB.ok .u8) a⟩
theorem Ae.eq{b a x}{cb c d e l n:Nat}{m p r f hd own g i j nm s t v}{o:Nat}{w y}(h:Ae b a cb c d e f hd own g i j nm t v o w s y)(u:qf a cb c d e l m p r f hd own g i j nm n x):∀q,b q->x.heap[q]?=a.heap[q]?:=λq k=>u.g.B q (h.ln q k).1 (PH (h.ln q k))
theorem pg.kh{T a x b V}{n:Nat}(h:pg T a x V n)(c:Below x x b):pg T a b V n:=h.turn (λz _ _ d=>c.B z d) c.size
theorem pg.set{T a x V u}{n b i:Nat}(h:pg T a x V n)(c:b<a):pg T a (x.setCell ⟨b,i,none⟩ u) V n:=
 h.turn (λz _ hz _=>N1 _ _ _ _ (by show z≠b;omega)) (by rw[NM];exact NQ _)
theorem Ae.cm{a b}{cb g i j:Nat}{k hd own c d e nm l m n}{o:Nat}{r s}(h:Ae a b cb g i j k hd own c d e nm m n o r l s){p}(hp:nU a b p):zg a b cb c d e p:=⟨h.s6,h.s7,h.s8,hp,λq f=>⟨(h.ln q f).1,(h.ln q f).2.1⟩⟩
def BW:Rel (List (List UInt8)):=λS w r l=>∃a b c:Value,r=[a,b,c]/\km kA S w a l/\b.oneCell'=true/\c.oneCell'=true
theorem BW.ok:kT BW 3:=
 ⟨PJ,λ⟨_,_,_,h,_⟩=>by rw[h];rfl,λ⟨d,e,f,h,a,b,c⟩ u hu=>by rw[h]at hu;simp at hu;rcases hu with rfl|rfl|rfl;exact a.one;exact b;exact c,λ⟨d,e,f,h,a,b,c⟩ g=>⟨d,e,f,h,a.M kA.ok g,b,c⟩,λ⟨d,e,f,h,a,b,c⟩ i=>⟨d,e,f,h,a.kg kA.ok i,b,c⟩⟩
structure xJ(w5 wr:World)(cb pb:Nat)(P:Nat->Prop)(f0 f1 f2 f3 hd V:Value)(xs:List (List (List UInt8)))(x:World):Prop where
 g:nG (λq=>q=cb\/q=pb) w5 x
 c:∃a b c d e p q:Value,x.heap[cb]?=some (.cells #[f0,f1,f2,f3,hd,a,b,c,d,p,q] 152 (0,0))
 p:x.heap[pb]?=some (.cells #[V] 156 (0,0))
 own:kx BW 160 3 P x w5 V xs
 s:wr.heap.size<=x
 v:∀z,V.ownBlock=some z->w5<=z/\z<wr
 ws:w5.heap.size<=wr
 lt:cb<w5/\pb<w5/\cb≠pb
 np:¬P cb/\¬P pb
theorem xJ.grown{n wr}{cb g:Nat}{P i j k l hd V xs x m}(h:xJ n wr cb g P i j k l hd V xs x)(f:x.grownBy m (some cb))(hc:∃a b c d e p q:Value,m.heap[cb]?=some (.cells #[i,j,k,l,hd,a,b,c,d,p,q] 152 (0,0))):xJ n wr cb g P i j k l hd V xs m:=by obtain⟨t,u,r⟩:=h.lt;have hs:=h.ws;have s:∀z,z≠cb->¬some z=some cb:=λz hz e=>hz (by injection e);exact⟨h.g.T (nG.grown f (.inl rfl)),hc,(f.B g (NC.1 h.p).1 (s _ (PD r))).T h.p,h.own.grown BW.ok f (λz e=>by injection e with e;subst e;exact⟨h.np.1,λe=>PH ((h.v _ e.symm).1)⟩),NR h.s f.size,h.v,h.ws,h.lt,h.np⟩
theorem xJ.kh{f wr}{cb g:Nat}{P i j k l hd V xs x m}(h:xJ f wr cb g P i j k l hd V xs x)(n:Below x x m):xJ f wr cb g P i j k l hd V xs m:=by obtain⟨a,b,c,d,e,p,q,hc⟩:=h.c;exact h.grown (kG (kp n) _) ⟨a,b,c,d,e,p,q,(n.B cb (NC.1 hc).1).T hc⟩
theorem xJ.drew{a wr}{cb b:Nat}{P c d e f hd V xs x}(h:xJ a wr cb b P c d e f hd V xs x):xJ a wr cb b P c d e f hd V xs {x with drawn:=x.drawn+1}:=h.kh (Below.refl _ _).drew
theorem xJ.alloc{a wr}{cb b:Nat}{P c d e f hd V xs x}(h:xJ a wr cb b P c d e f hd V xs x)(g):xJ a wr cb b P c d e f hd V xs (x.alloc g):=h.kh (Ba _ _)
def Lq(a:World)(cb b:Nat)(P:Nat->Prop)(d e f g hd:Value)(xs:List (List (List UInt8)))(n:Nat)(x:World):Prop:=∃(i:Option Addr) (c:Nat),xJ a x cb b P d e f g hd (.slice i n c) xs x
theorem xJ.put{g wr}{cb f:Nat}{P k l m r hd V xs x}(h:xJ g wr cb f P k l m r hd V xs x){i}{n c:Nat}{ys}(s:kx BW 160 3 P x g (.slice i n c) ys):Lq g cb f P k l m r hd ys n (x.setCell ⟨f,0,none⟩ (.slice i n c)):=by obtain⟨v,w,t⟩:=h.lt;obtain⟨a,b,u,d,e,p,q,hc⟩:=h.c;have j:=s.ge;have hs:=h.ws;refine⟨i,c,h.g.T (nG.set (.inr rfl)),⟨a,b,u,d,e,p,q,(N1 _ _ _ _ t).T hc⟩,ki h.p,s.grown BW.ok (kv x f 0 _) (λz e=>by injection e with e;subst e;exact⟨h.np.2,λe=>PH ((j _ e.symm).1)⟩),NQ _,λz hz=>⟨(j z hz).1,by rw[NM];exact(j z hz).2⟩,by rw[NM];exact h.g.size,h.lt,h.np⟩
theorem FJ.kg{S w w'}{cb:Nat}{c}{d c1:Nat}{e}{f c3:Nat}{g}{i:Nat}{j k l}(h:FJ S w cb c d c1 e f c3 g i j k l)(b:∀q,(S q\/q=(5:Nat))->w'.heap[q]?=w.heap[q]?)(hs:w.heap.size<=w'.heap.size):FJ S w' cb c d c1 e f c3 g i j k l:=
 ⟨h.h1.kg mR.ok λq a=>b q (.inl a),h.Ma,h.h3.kg (mg.ok .u8) λq a=>b q (.inl a),h.Mb,h.hh.kg pA.ok λq a=>b q (.inl a),h.Mc,λq a=>⟨ND (h.ln q a).1 hs,(h.ln q a).2⟩,h.rows.kg (b _ (.inr rfl)) hs,h.ne,h.gc⟩
theorem Ka{w:World}{q:Nat}{T:TypeId}{a b c:Value}(h:w.heap[q]?=some (.cells #[a,b,c] T (0,0))):(((w.setCell ⟨q,0,none⟩ a).setCell ⟨q,1,none⟩ b).setCell ⟨q,2,none⟩ c).heap[q]?=some (.cells #[a,b,c] T (0,0)):=ki (ki (ki h))
theorem Lr.set{a cb B:Nat}{C d wr x}(h:Lr a cb C d B wr x)(b:cb≠a)(c:B<=a):Lr a cb C d B wr (((x.setCell ⟨a,0,none⟩ (Em)).setCell ⟨a,1,none⟩ (Em)).setCell ⟨a,2,none⟩ (.int .i64 0)):=
 ⟨kq (kq (kq h.1 c) c) c,(N1 _ _ _ _ b).T ((N1 _ _ _ _ b).T ((N1 _ _ _ _ b).T h.2.1)),Ka h.2.2⟩
def sP(B b:Nat)(p:Value)(n:Int)(l:List UInt8)(w:World):Prop:=
 B<=b/\∃v,w.heap[b]?=some (.cells #[p,v,n] 164 (0,0))/\w.ownsRow B 5 1 v l.length (Lib.byteCells l)
def rC(B b:Nat)(n:Int)(l:List UInt8)(w:World):Prop:=sP B b (.pointer none) n l w\/sP B b (.pointer (some ⟨b,0,none⟩)) n l w
structure kO(B b:Nat)(w w':World):Prop where
 kh:Below B w w'
 kg:∀z o,w.heap[z]?=some o->z≠b->wa o->w'.heap[z]?=some o
theorem kO.refl(B b:Nat)(w):kO B b w w:=⟨Below.refl _ _,λ_ _ h _ _=>h⟩
theorem kO.T{B b:Nat}{w w' a}(h:kO B b w w')(k:kO B b w' a):kO B b w a:=⟨h.kh.T k.kh,λz o hz c hn=>k.kg z o (h.kg z o hz c hn) c hn⟩
theorem kO.size{B b:Nat}{w w'}(h:kO B b w w'):w.heap.size<=w':=h.kh.size
theorem kO.old{B b:Nat}{w w'}(a:B<=w.heap.size)(h:Below w.heap.size w w'):kO B b w w':=⟨h.M a,λz o hz _ _=>(h.B z (NC.1 hz).1).T hz⟩
theorem kO.drew{B b:Nat}{w w'}(h:kO B b w w'):kO B b w w'.drew:=⟨h.kh.drew,h.kg⟩
theorem wb{w:World}{B b:Nat}{v:Value}{n:Nat}{xs:List Value}{o:Obj}(c:w.ownsRow B 5 1 v n xs)(a:w.heap[b]?=some o)(hn:wa o):v.ownBlock≠some b:=by
 rcases c.2 with⟨rfl,_⟩|⟨g,f,i,rfl,_,d,_⟩
 simp[Value.ownBlock];intro e;simp only[Value.ownBlock,Option.some.injEq]at e;subst e;rw[d]at a;injection a with a;exact hn _ _ a.symm
theorem sP.lt{B b:Nat}{p}{n:Int}{l w}(h:sP B b p n l w):b<w:=by obtain⟨_,v,h,_⟩:=h;exact(NC.1 h).1
theorem rC.lt{B b:Nat}{n:Int}{l w}(h:rC B b n l w):b<w:=by rcases h with h|h;exact h.lt;exact h.lt
theorem sP.set{B b:Nat}{p a:Value}{n:Int}{l:List UInt8}{w:World}{i:Nat}{u:Value}{c:Array Value}(g:B<=b)(d:w.heap[b]?=some (.cells c 164 (0,0)))(hc:c.setIfInBounds i u=#[p,a,.int .i64 n])(f:w.ownsRow B 5 1 a l.length (Lib.byteCells l)):sP B b p n l (w.setCell ⟨b,i,none⟩ u):=by refine⟨g,a,?_,?_⟩;have:=ki (i:=i) (u:=u) d;rw[hc]at this;exact this;exact f.kept (row:=some b) ⟨rfl,rfl,rfl,by simp[World.setCell],λk _ j=>N1 _ _ _ _ (λe=>j (by simp[e]))⟩ (Or.inr (wb f d (lA FT)))
theorem kO.set{B b i:Nat}{w u}(a:B<=b):kO B b w (w.setCell ⟨b,i,none⟩ u):=
 ⟨(Below.refl B w).setCell (p:=⟨b,i,none⟩) a _,λz o hz c _=>(N1 _ _ _ _ c).T hz⟩
theorem sP.kg{B b:Nat}{p}{n:Int}{l w w'}(h:sP B b p n l w)(a:Below w w w'):sP B b p n l w':=by have c:=h.lt;obtain⟨d,v,e,f⟩:=h;exact⟨d,v,(a.B b c).T e,f.kept (row:=none) ⟨a.os,a.tape,a.output,a.size,λk g _=>a.B k g⟩ (by rcases hv:v.ownBlock with _|q;exact .inl rfl;exact .inr PK)⟩
theorem rC.kg{B b:Nat}{n:Int}{l w w'}(h:rC B b n l w)(a:Below w w w'):rC B b n l w':=by rcases h with h|h;exact .inl (h.kg a);exact .inr (h.kg a)
theorem rC.any{B b:Nat}{n:Int}{l w}(h:rC B b n l w):∃p,sP B b p n l w:=by rcases h with h|h;exact⟨_,h⟩;exact⟨_,h⟩
theorem sizeBuilder:(prog.info? 130).map (·.size)=some 2:=PL
theorem infoByte:(prog.info? 5).map (λi=>(i.zero,i.size,i.bytes))=some (some (.int .u8 0),1,1):=PL
theorem xE(b:Nat)(w)(c:w.cell? ⟨b,0,none⟩=some (.pointer (some ⟨b,0,none⟩))):
  Calls prog 74 #[.pointer (some ⟨b,0,none⟩)] w λe w'=>e=.returned (.tuple #[])/\w'=w:=by
 obtain⟨d,a,_⟩:=OW.1 sizeBuilder
 go_enter func74,ntmps74
 go_wp2;rw[Lib.run_neq_ptr_same w _ tN a];go_wp2
 go_end0
 exact⟨rfl,rfl⟩
theorem vQ(b:Nat)(w)(g:w.cell? ⟨b,0,none⟩=some (.pointer none))(a:w.shape? b=some (164,3))(i:w.frozen? ⟨b,0,none⟩=false):
  Calls prog 74 #[.pointer (some ⟨b,0,none⟩)] w λe w'=>e=.returned (.tuple #[])/\w'=w.setCell ⟨b,0,none⟩ (.pointer (some ⟨b,0,none⟩)):=by
 obtain⟨j,c,d⟩:=OW.1 sizeBuilder
 go_enter func74,ntmps74
 go_wp2;rw[Lib.run_to_unsafe w ⟨b,0,none⟩ tN PL c (by rw[d];decide) a (by show 0<3;decide)];simp only[Result.andThen];rw[Oper.upon_value];go_wp2;rw[run_callFunc_extern (f:=118) (fn:=Tryz.f118) PL PL PL PL (e:=Extern.AbiNoEscape.same) PL];rw[Lib.run_noEscape];simp only[Result.andThen];rw[Oper.upon_value];go_wp2;rw[Lib.run_from_unsafe w ⟨b,0,none⟩ PL tN c a liesBuilder];simp only[Result.andThen];rw[Oper.upon_value];go_wp2
 go_end0
 exact⟨rfl,rfl⟩
theorem tu(B b:Nat)(n:Int)(l w)(h:rC B b n l w):Calls prog 74 #[.pointer (some ⟨b,0,none⟩)] w λe w'=>e=.returned (.tuple #[])/\sP B b (.pointer (some ⟨b,0,none⟩)) n l w'/\kO B b w w':=by rcases h with⟨c,v,a,d⟩|h;refine(vQ b w (kf a 0 _ rfl) (by simp[World.shape?,a]) (ko a 0)).M ?_;rintro e w' ⟨rfl,rfl⟩;exact⟨rfl,sP.set c a rfl d,kO.set c⟩;obtain⟨c,v,a,d⟩:=h;refine(xE b w (kf a 0 _ rfl)).M ?_;rintro e w' ⟨rfl,rfl⟩;exact⟨rfl,⟨c,v,a,d⟩,kO.refl _ _ _⟩
theorem kO.grown{B b:Nat}{w w' v}{n:Nat}{xs}(a:w.ownsRow B 5 1 v n xs)(c:w.grownBy w' v.ownBlock)(d:B<=w.heap.size):kO B b w w':=
 ⟨(Below.refl B w).grown c d (λk f=>(a.lt k f).1),λz o hz _ hn=>(c.B z (NC.1 hz).1 (λe=>wb a hz hn e.symm)).T hz⟩
theorem rr(B b:Nat)(n:Int)(l s w)(h:rC B b n l w)(K:l.length+s.length<=140737488355328)(L:B<=w):
  Calls prog 38 #[.pointer (some ⟨b,0,none⟩),tx s] w λe w'=>∃r,e=.returned r/\(∃q,r=.tuple #[q,.nilIface])/\rC B b n (l++s) w'/\kO B b w w':=by
 obtain⟨y,hi,hz0,z,A⟩:=N4 infoByte
 go_enter func38,ntmps38
 go_wp2_with fail;refine(tu B b n l w h).M ?_;rintro e C ⟨rfl,D,j⟩;obtain⟨k,v,a,d⟩:=D;have m:(⟨s.toArray⟩:ByteArray).size=s.length:=P1
 have c0:=kf a 0 _ rfl;have c1:=kf a 1 _ rfl;have E:=wb d a (lA FT);have M:=j.size;go_wp2_with (at_builtin;refine Lib.wpList_append_own_string _ rfl _ _ 22 9 rfl B 5 y underlying22 underlying9 hi hz0 z A _ _ _ rfl d ⟨s.toArray⟩ rfl ?c3 ?c4 ?c5 ?_);case c3=>rw[m];unfold maxLen;omega
 case c4=>rw[m];omega
 case c5=>omega
 intro p F t u _;have G:=kO.grown (b:=b) d u PJ;have I:b<C:=(NC.1 a).1;have c:=(u.B b I (λe=>E e.symm)).T a;have N:=kf c 0 _ rfl;have O:=kf c 1 _ rfl;have P:=ko c 1;have J:F.ownsRow B 5 1 p (l++s).length (Lib.byteCells (l++s)):=by rw[Lib.byteCells_append,N2];exact t
 obtain⟨x,n',f,rfl⟩:∃x n' f,p=.slice x n' f:=by
  rcases t.2 with⟨i,_⟩|⟨g,f,Q,i,_⟩
  exact⟨_,_,_,i⟩;exact⟨_,_,_,i⟩
 go_wp2
 go_ret2
 exact⟨_,rfl,⟨_,rfl⟩,.inr (sP.set k c rfl J),(j.T G).T (kO.set k)⟩
theorem yb(B b:Nat)(n:Int)(l)(c:UInt8)(w)(h:rC B b n l w)(J:l.length+1<=140737488355328)(K:B<=w):
  Calls prog 40 #[.pointer (some ⟨b,0,none⟩),.int .u8 (c.toNat:Int)] w λe w'=>e=.returned .nilIface/\rC B b n (l++[c]) w'/\kO B b w w':=by
 obtain⟨t,hi,hz0,x,y⟩:=N4 infoByte
 go_enter func40,ntmps40
 go_wp2_with fail;refine(tu B b n l w h).M ?_;rintro e a ⟨rfl,z,m⟩;obtain⟨p,v,d,k⟩:=z;have c0:=kf d 0 _ rfl;have c1:=kf d 1 _ rfl;have A:=wb k d (lA FT);have L:=m.size;have M:=Lib.byteCells_length l;go_wp2_with (at_builtin;refine Oo _ rfl _ _ 22 rfl B 5 t (.int .u8 0) 1 1 underlying22 hi hz0 x y rfl PM _ _ _ rfl (k.alloc _) ⟨a,0,none⟩ 1 1 [.int .u8 (c.toNat:Int)] rfl rfl ?c1 ?c2 ?c3 ?c4 ?c5 ?_);case c1=>
  intro C u f
  match C,f with
  |0,f=>simp at f;subst f;simp[Addr.add]
 case c2=>intro u hu;simp at hu;subst hu;rfl
 case c3=>unfold maxLen;omega
 case c4=>omega
 case c5=>simp;omega
 intro q D r s _;have E:b<a:=(NC.1 d).1;have i:=(s.B b PO (λe=>A e.symm)).T ((Lib.alloc_old a _ b E).T d);have F:=(kO.old (b:=b) (show B<=a from PJ) (Ba a (.cells #[.int .u8 (c.toNat:Int)] 5))).T (kO.grown (b:=b) (k.alloc _) s PO);have N:=kf i 0 _ rfl;have O:=kf i 1 _ rfl;have P:=ko i 1;have G:D.ownsRow B 5 1 q (l++[c]).length (Lib.byteCells (l++[c])):=by rw[Lib.byteCells_append,N2];exact r
 obtain⟨g,j,rfl⟩:∃g j,q=.slice (some ⟨g,0,none⟩) (l.length+1) j:=by
  rcases r.2 with⟨_,Q⟩|⟨g,j,R,I,_⟩
  omega;exact⟨g,j,I⟩
 go_wp2;go_ret;exact⟨rfl,.inr (sP.set p i rfl G),(m.T F).T (kO.set p)⟩
def ov(B b:Nat)(n:Int)(k:Nat)(w:World):Prop:=∃l:List UInt8,rC B b n l w/\l.length<=k*200000
theorem Dr.eq{S}{B b:Nat}{w w'}(h:Dr S B b w)(k:kO B b w w'):∀q,S q->w'.heap[q]?=w.heap[q]?:=λq c=>by obtain⟨_,d,a|⟨o,a,e⟩⟩:=h q c;exact k.kh.B q a;rw[k.kg q o a d e,a]
theorem Dr.to{S}{B b:Nat}{w w'}(h:Dr S B b w)(k:kO B b w w'):Dr S B b w':=λq e=>by obtain⟨f,c,a⟩:=h q e;refine⟨ND f k.size,c,a.imp id λ⟨o,a,d⟩=>⟨o,k.kg q o a c d,d⟩⟩
theorem Dr.lt{S}{B b:Nat}{w}(h:Dr S B b w):∀q,S q->q<w:=λq a=>(h q a).1
theorem ov.lt{B b k:Nat}{n:Int}{w}(h:ov B b n k w):B<=b/\b<w:=by obtain⟨l,h,_⟩:=h;obtain⟨p,hp⟩:=h.any;exact⟨hp.1,hp.lt⟩
theorem ov.cell{B b k:Nat}{n:Int}{w}(h:ov B b n k w):w.cell? ⟨b,2,none⟩=some (.int .i64 n)/\w.frozen? ⟨b,2,none⟩=false:=by obtain⟨l,h,_⟩:=h;obtain⟨p,_,v,a,_⟩:=h.any;exact⟨kf a 2 _ rfl,ko a 2⟩
theorem ov.kg{B b k:Nat}{n:Int}{w w'}(h:ov B b n k w)(a:Below w w w'):ov B b n k w':=by obtain⟨l,h,c⟩:=h;exact⟨l,h.kg a,c⟩
theorem wO(S)(B b n k:Nat)(w0 C)(m c:Nat)(xs)(w:ov B b (n:Int) k w0)(hx:km kA S w0 (.slice C m c) xs)(hS:Dr S B b w0)(hn:n<=100)(Y:k<=100000000)(hm:m<=9)(D:∀x∈xs,x.length<=20000):
  Calls prog 49 #[.pointer (some ⟨b,0,none⟩),.slice C m c] w0 λe w'=>e=.returned (.tuple #[])/\ov B b (n:Int) (k+1) w'/\kO B b w0 w':=by
 have Z:=w.lt;have L:=w.cell.1;have M:=NA hx.len;have aa:=hx.len.2;have N:=NA hx;have E:=NA hS;have O:=NA D;obtain⟨l,hw,ab⟩:=w;have P:=NA hw;clear hw hx hS D
 go_enter func49,ntmps49
 go_wp2_with fail;go_loopw [10] (λi wr=>∃(a:Nat) (d:List UInt8),a<=n/\i=a/\rC B b (n:Int) d wr/\d.length=l.length+2*a/\kO B b w0 wr) (λi _=>n-(intOf i).toNat);case atStart=>exact⟨0,l,NP _,rfl,P.o,rfl,kO.refl _ _ _⟩
 case round=>
  clear L;obtain⟨a,d,ac,rfl,F,ad,y⟩:=hrel;have G:=NA F;have u:=NA y;have ae:=y.size;clear F y;by_cases af:a<n
  .have Q:(0:Int)<=(a:Int):=PJ;have R:(a:Int)<(n:Int):=PJ;go_wp2_with fail;refine(rr B b (n:Int) d [32,32] wr G.o PO PJ).M ?_;rintro e I ⟨r,rfl,⟨q,rfl⟩,g,f⟩;have v:=NA g;have j:=NA f;clear g f;go_wp2_with fail;go_roundw;case rel=>exact⟨a+1,_,PJ,PQ,v.o,PO,u.o.T j.o⟩
   case measure=>simp[intOf];omega
  obtain rfl:n=a:=PJ;go_wp2_with fail;have T:=NA (E.o.to u.o);have U:=NA (N.o.kg kA.ok (E.o.eq u.o));obtain⟨V,rfl⟩:=Xq wr;go_loopw [19] (λi wr=>∃(a:Nat) (p:List UInt8),a<=m/\i=a/\rC B b (n:Int) p wr/\p.length<=d.length+20000*a/\kO B b V wr) (λi _=>m-(intOf i).toNat);case atStart=>exact⟨0,d,NP _,rfl,G.o,NQ _,kO.refl _ _ _⟩
  case round=>
   obtain⟨a,p,ag,rfl,g,ah,f⟩:=hrel;have v:=NA g;have j:=NA f;have ai:=f.size;clear g f;by_cases aj:a<m
   .obtain⟨x,hx⟩:∃x,xs[a]?=some x:=Gx (PH M.o.1);obtain⟨ak,al,r,rfl,W,hr,J⟩:=(U.o.kg kA.ok (T.o.eq j.o)).kI kA.ok a x hx;have X:r=[tx x]:=hr;subst X;have K:=J 0 _ rfl;rw[NS,Og]at K;have am:=O.o x (NH hx);have Q:(0:Int)<=(a:Int):=PJ;have R:(a:Int)<(m:Int):=PJ;clear hr J W hx;go_wp2_with fail;refine(rr B b (n:Int) p x wr v.o PJ PJ).M ?_;rintro e I ⟨r,rfl,⟨q,rfl⟩,s,t⟩;have z:=NA s;have A:=NA t;clear s t K;go_wp2_with fail;go_roundw;case rel=>exact⟨a+1,_,PJ,PQ,z.o,by rw[N2];omega,j.o.T A.o⟩
    case measure=>simp[intOf];omega
   obtain rfl:m=a:=PJ;go_wp2_with fail;refine(yb B b (n:Int) p 10 wr v.o PJ PJ).M ?_;rintro e I ⟨rfl,s,t⟩;have z:=NA s;have A:=NA t;clear s t;go_wp2_with fail
   go_end0
   exact⟨rfl,⟨_,z.o,by rw[N2];simp;omega⟩,u.o.T (j.o.T A.o)⟩
def pQ(B:Nat)(w:World)(e:Ending)(w':World):Prop:=∃s:ByteArray,e=.returned (.string s)/\s.size<=B/\Below w w w'
theorem CS:∀k x,shapes[k]?=some x->((k=6\/k=7\/k=9\/k=10)->x.1=1)/\((k≠1/\k≠5/\k≠6/\k≠7/\k≠8/\k≠9/\k≠10)->x.1=0\/x.1=2):=by
 intro k x h;have a:=(NW.1 h).1;rw[wY]at a;have b:∀k:Fin 24,∀x,shapes[k.val]?=some x->((k.val=6\/k.val=7\/k.val=9\/k.val=10)->x.1=1)/\((k.val≠1/\k.val≠5/\k.val≠6/\k.val≠7/\k.val≠8/\k.val≠9/\k.val≠10)->x.1=0\/x.1=2):=by intro k x hx;have c:∀k:Fin 24,((k.val=6\/k.val=7\/k.val=9\/k.val=10)->(shapes[k.val]?.map (·.1))=some 1)/\((k.val≠1/\k.val≠5/\k.val≠6/\k.val≠7/\k.val≠8/\k.val≠9/\k.val≠10)->(shapes[k.val]?.map (·.1))=some 0\/(shapes[k.val]?.map (·.1))=some 2):=PM;have:=c k;rw[hx]at this;simpa using this
 exact b ⟨k,a⟩ x h
theorem zC(i:Nat)(h:i<100):(⟨(Lib.decDigits i).toArray⟩:ByteArray).size<=20:=by
 have a:∀i:Fin 100,(Lib.decDigits i.val).length<=20:=PV
 have:=a ⟨i,h⟩;simpa[ByteArray.size]using this
theorem oh(l:List UInt8):(⟨l.toArray⟩:ByteArray).size=l.length:=P1
theorem sQ(c):(⟨#[c]⟩:ByteArray).size=1:=rfl
end Go.Proofs.YtfemcncookpdhaaGreatDoor
namespace lX
def HA:Nat->Ex->Prop
 |0,_=>False
 |d+1,e=>(e.op=1->0<=e.n/\e.n<100)/\∀a∈e.args,HA d a
def TB:Nat->Nat
 |0=>0
 |d+1=>2*TB d+40
theorem DO:∀{d d':Nat},d<=d'->TB d<=TB d'
 |0,_,_=>Nat.zero_le _
 |d+1,0,h=>by omega
 |d+1,d'+1,h=>by have:=DO (d:=d) (d':=d') PJ;unfold TB;omega
theorem FU{d:Nat}(h:d<=6):TB d<=2520:=DO h
end lX
namespace Go.Proofs.YtfemcncookpdhaaGreatDoor
open Go.RowKit lX Go.Proofs.Tryz
def Ls(d:Nat):Prop:=∀(S:Nat->Prop) (w:World) (e:Ex) (D:Nat) (a:Option Addr) (m c:Nat),lH w->km (kz .u8 D) S w (.slice a m c) e.args->ml d e->HA d e->(∀q,S q->q<w)->
 Calls prog 205 #[.agg #[.int .u8 e.op,tx e.name,e.n,.slice a m c]] w (pQ (TB d) w)
def MK(d:Nat):Prop:=∀(S:Nat->Prop) (w:World) (e:Ex) (D:Nat) (a:Option Addr) (m c:Nat) (z:Int),lH w->km (kz .u8 D) S w (.slice a m c) e.args->ml d e->HA d e->(∀q,S q->q<w)->
 Calls prog 214 #[.agg #[.int .u8 e.op,tx e.name,e.n,.slice a m c],z] w (pQ (TB d+2) w)
theorem zl{S w}{D d:Nat}{k}{m c:Nat}{args}(h:km (kz .u8 D) S w (.slice k m c) args)(p:∀a∈args,ml d a)(hs:∀a∈args,HA d a){i:Nat}(hi:i<args.length):
  ∃b o e j f l g,k=some ⟨b,o,none⟩/\S b/\km (kz .u8 j) S w (.slice f l g) e.args/\ml d e/\HA d e/\
   w.cell? ⟨b,o+i*4,none⟩=some (.int .u8 e.op)/\w.cell? ⟨b,o+i*4+1,none⟩=some (tx e.name)/\w.cell? ⟨b,o+i*4+2,none⟩=some (.int .i64 e.n)/\w.cell? ⟨b,o+i*4+3,none⟩=some (.slice f l g):=by
 obtain⟨b,o,r,q,s,hr,hc⟩:=h.kI (kz.ok .u8 D) i args[i] (NU hi);obtain⟨j,v,rfl,rfl,n⟩:=hr.open;obtain⟨f,g,rfl,_⟩:=n.form;exact⟨b,o,args[i],j,f,_,g,q,s,n,p _ (List.getElem_mem hi),hs _ (List.getElem_mem hi),hc 0 _ rfl,hc 1 _ rfl,hc 2 _ rfl,hc 3 _ rfl⟩
theorem yI(d:Nat)(dB:d<=6)(bN:∀d',d=d'+1->MK d'/\Ls d'):Ls d:=by
 intro S w e D aS m c ck b bO hm hS;obtain⟨d',rfl⟩:∃d',d=d'+1:=by cases d with|zero=>exact bO.elim|succ d'=>exact⟨d',rfl⟩
 obtain⟨cl,cm⟩:=bN d' rfl;obtain⟨⟨x,dC,hx,bh,bP,bQ,_,_⟩,bR⟩:=bO;obtain⟨bi,bS⟩:=hm;have bT:e.name.length<=12:=by cases n:x.2.1 with|true=>have aT:=bP n;unfold mI at aT;simp only[OD,Pg]at aT;omega|false=>rw[bQ n];simp
 have bU:=zN x (NH hx);obtain⟨k,bV⟩:∃k:Nat,k=e.op.toNat:=⟨_,rfl⟩
 have bW:e.op=(k:Int):=PJ
 rw[<-bV]at hx;have cn:1<=k:=PJ
 obtain⟨bj,bk⟩:=CS k x hx;have bl:m=x.1:=PH b.len.1
 have bX:=ck;have co:=NA hx;have cp:=b;have bY:=hS;have aU:=bR;have aV:=bS;have ao:=cl;have bZ:=cm;have ca:k=1->∃i:Nat,i<100/\e.n=(i:Int):=λh=>by obtain⟨cb,dD⟩:=bi PJ;exact⟨e.n.toNat,PJ,PJ⟩
 have cq:=NA bh;obtain⟨nm,bm⟩:=Xq e.name;obtain⟨aW,bn⟩:=Xq e.n;rw[bW,<-bm,<-bn];rw[<-bm]at bT;rw[<-bn]at ca;obtain⟨ap,aX,E,aq⟩:=x;simp only at bh bU bl bj bk;have cc:TB (d'+1)=2*TB d'+40:=rfl;have ab:=NA cc;have dE:TB d'<=2520:=FU PJ;have ak:(⟨aq.toArray⟩:ByteArray).size<=10:=by rw[oh];exact bU
 have cd:(⟨nm.toArray⟩:ByteArray).size<=12:=by rw[oh];exact bT
 have bo:=(And.intro bj bk)
 have aY:=NA bl;clear hS bR bS bN bP bQ hx bV bW bi bm bn bh cc bj bk bl;have aZ:=Ba w (.cells #[.int .u8 (k:Int),tx nm,aW,.slice aS m c] 190);have bp:=aZ;have ba:=NA (NF w (.cells #[.int .u8 (k:Int),tx nm,aW,.slice aS m c] 190));have aw:(w.alloc (.cells #[.int .u8 (k:Int),tx nm,aW,.slice aS m c] 190)).heap.size=w+1:=PK
 have cr:=NA aw;clear aw
 go_enter func205,ntmps205
 go_upto_region 1 with fail;have aw:=cr.o;generalize w.alloc (.cells #[.int .u8 (k:Int),tx nm,aW,.slice aS m c] 190)=cs at*;obtain⟨t,ae⟩:=Xq w.heap.size;rw[<-ae]at ba bp aw⊢;have bq:=NA ae;clear ae;have A:=kf ba.o 0 _ rfl;go_wp2_with fail;refine(sH k _ co.o cn _ (bX.to (bq.o▸bp))).M ?_;rintro al am ⟨rfl,ae⟩;have ct:=ae.size;have cu:=ae;have cv:t<am:=PJ
 obtain⟨⟨A,F,G,I⟩,_⟩:=kC ((ae.B t PJ).T ba.o);have cw:=NA ((ae.B t PJ).T ba.o);go_upto_region 2 with fail;have T:=NA (NF am (.cells #[.int .i64 (ap:Int),.bool aX,E,.string ⟨aq.toArray⟩] 332));have aZ:=Ba am (.cells #[.int .i64 (ap:Int),.bool aX,E,.string ⟨aq.toArray⟩] 332);have ce:(am.alloc (.cells #[.int .i64 (ap:Int),.bool aX,E,.string ⟨aq.toArray⟩] 332)).heap.size=am+1:=PK
 have U:=((bq.o▸bp:Below w w cs).T ((cu.T (aZ.M ct)).M (PH bq.o)))
 have W:=NA ((aZ.B t cv).T cw.o);obtain⟨y,cf⟩:=Xq am.heap.size;rw[<-cf]at T ce⊢;have dF:t<y:=PJ
 generalize am.alloc (.cells #[.int .i64 (ap:Int),.bool aX,E,.string ⟨aq.toArray⟩] 332)=r at*;obtain⟨dG,cg⟩:∃q:ByteArray,q=⟨aq.toArray⟩:=⟨_,rfl⟩
 rw[<-cg]at T ak;have ac:t<r:=PJ
 have ad:y<r:=PJ
 have af:=(bX.to U)
 have bb:=(cp.kg (kz.ok .u8 _) (λq n=>U.B q (bY q n)))
 have ar:=U.size;have z:∀q,S q->q<r:=λq n=>PH (bY q n)
 clear A F G I cf cg ce aw;obtain⟨⟨A,F,G,I⟩,_⟩:=kC W.o;obtain⟨⟨au,al,av,e3⟩,_⟩:=kC T.o;have bc:=NA cq.o;by_cases cb:k=1
 .subst cb;obtain⟨i,hi,rfl⟩:=ca rfl;go_wp2_with fail;refine(Tryz.strconv_FormatInt_10_small i hi _).M ?_;rintro dH dI ⟨rfl,rfl⟩;go_wp2_with fail;go_ret;exact⟨_,rfl,PI (zC i hi) ab.o,U⟩
 by_cases cx:k=5\/k=8
 .rcases cx with rfl|rfl
  .go_wp2_with fail;go_ret;exact⟨_,rfl,by rw[N3];have:=ab.o;omega,U⟩
  go_wp2_with fail;go_ret;exact⟨_,rfl,by rw[N3];have:=ab.o;omega,U⟩
 by_cases cy:k=6\/k=7
 .have ax:ap=1:=bo.1 PJ;obtain⟨f,l,a0,ag,O,P,Q,ay,az,aA,aB,aC,M,J,K,L⟩:=zl bb aU aV (i:=0) (PH bc.o);subst ay;have p:=z _ az;have ah:=aA;have R:=(And.intro aB aC)
  rw[Nat.zero_mul,NS]at M J K L;have u:=(And.intro M (And.intro J (And.intro K L)))
  clear M J K L;have ch:0<m:=PH aY.o;rcases cy with rfl|rfl
  .go_wp2_with fail;clear A F G I au al av e3;refine Ri (λx=>Below r r x) (mG [(Pp y 3),Tr,(Pp t 1),Tr,Tr,Tr,(Pp t 3),(·=.slice (some ⟨f,l,none⟩) m c),(Pp f l),(·=.agg #[.int .u8 a0.op,tx a0.name,a0.n,.slice O P Q]),Tr,Tr,Tr,Tr]) [(1,λv w=>∃s:ByteArray,v=.string s/\s.size<=10),(3,λv w=>∃s:ByteArray,v=.string s/\s.size<=12),(4,λv w=>∃s:ByteArray,v=.string s/\s.size<=22),(5,λv w=>∃s:ByteArray,v=.string s/\s.size<=23),(10,λv w=>∃s:ByteArray,v=.string s/\s.size<=(TB d')),(11,λv w=>∃s:ByteArray,v=.string s/\s.size<=(TB d'+23)),(12,λv w=>∃s:ByteArray,v=.string s/\s.size<=(TB d'+24)),(13,λv w=>∃s:ByteArray,v=.string s/\s.size<=(TB d'+24))] ((Below.refl _ _).drew) ⟨?_,?_,?_,?_,?_,?_,?_,?_,?_,?_,?_,?_,?_,?_,trivial⟩ ?_;exact .f 3;intro j w a hf b hd hw;exact .l 30 (b 0 _ rfl rfl) (kf ((a.B y ad).T T.o) 3 _ rfl) ⟨trivial,a,Qc ⟨_,rfl,ak⟩<|Qa⟩;exact .f 1;intro j w a hf b hd hw;exact .l 32 (b 2 _ rfl rfl) (kf ((a.B t ac).T W.o) 1 _ rfl) ⟨trivial,a,Qb<|Qc ⟨_,rfl,cd⟩<|Qa⟩;intro j w a hf b hd hw;obtain⟨aD,br,cz⟩:=hd _ (Mm 0 rfl) _ rfl rfl;have cA:=Sl 31 br;obtain⟨aE,bs,cB⟩:=hd _ (Mm 1 rfl) _ rfl rfl;have cC:=Sl 33 bs;have V:¬(9223372036854775807<aD.size+aE.size):=PJ;exact .q (g:=⟨trivial,a,Q2<|Qc ⟨aD++aE,rfl,by first|omega|(rw[N3];(try simp only[sQ]);omega)⟩<|Qa⟩);intro j w a hf b hd hw;obtain⟨aF,bt,cD⟩:=hd _ (Mm 2 rfl) _ rfl rfl;have cE:=Sl 34 bt;have V:¬(9223372036854775807<aF.size+1):=PJ;exact .q (g:=⟨trivial,a,Q2<|Qb<|Qc ⟨aF++⟨#[91]⟩,rfl,by first|omega|(rw[N3];(try simp only[sQ]);omega)⟩<|Qa⟩);exact .f 1;intro j w a hf b hd hw;exact .l 36 (b 6 _ rfl rfl) (kf ((a.B t ac).T W.o) 3 _ rfl) ⟨rfl,a,Qa⟩;intro j w a hf b hd hw;have cF:=Sv 37 b 7;exact .q (g:=⟨rfl,a,Qa⟩);intro j w a hf b hd hw;have cG:=Sv 38 b 8;have A:=(Cb f l (a.B f p)).T u.1;have F:=(Cb f (l+1) (a.B f p)).T u.2.1;have G:=(Cb f (l+2) (a.B f p)).T u.2.2.1;have I:=(Cb f (l+3) (a.B f p)).T u.2.2.2;replace a:=Hq a;exact .q (g:=⟨rfl,a.o,Qa⟩);intro j w a hf b hd hw;have cH:=Sv 39 b 9;have hSw:∀q,S q->q<w:=λq n=>PI (z q n) a.size;replace a:=Hq a;refine .c (bZ S w a0 ag O P Q (af.to a.o) (ah.kg (kz.ok .u8 _) (λq n=>a.o.B q (z q n))) R.1 R.2 hSw) ?_;rintro e w' ⟨s,rfl,hz,N⟩;exact⟨_,rfl,⟨trivial,a.o.T (N.M a.o.size),Q4<|Qc ⟨_,rfl,hz⟩<|Q2<|Qb<|Qe⟩⟩;intro j w a hf b hd hw;obtain⟨aG,bu,cI⟩:=hd _ (Mm 3 rfl) _ rfl rfl;have cJ:=Sl 35 bu;obtain⟨aH,bv,cK⟩:=hd _ (Mm 4 rfl) _ rfl rfl;have cL:=Sl 40 bv;have V:¬(9223372036854775807<aG.size+aH.size):=PJ;exact .q (g:=⟨trivial,a,Q4<|Qb<|Qc ⟨aG++aH,rfl,by first|omega|(rw[N3];(try simp only[sQ]);omega)⟩<|Qa⟩);intro j w a hf b hd hw;obtain⟨aI,bw,cM⟩:=hd _ (Mm 5 rfl) _ rfl rfl;have cN:=Sl 41 bw;have V:¬(9223372036854775807<aI.size+1):=PJ;exact .q (g:=⟨trivial,a,Q4<|Q2<|Qc ⟨aI++⟨#[93]⟩,rfl,by first|omega|(rw[N3];(try simp only[sQ]);omega)⟩<|Qa⟩);intro j w a hf b hd hw;obtain⟨cO,bx,bz⟩:=hd _ (Mm 6 rfl) _ rfl rfl;exact .p 42 bx ⟨trivial,a,Q4<|Q2<|Qb<|Qc ⟨_,rfl,bz⟩<|Qa⟩;intro aJ X Y Z B;obtain⟨aK,C,aL⟩:=B _ (Mm 7 rfl) Lb;have aa:Below r r X:=Y;clear Z B;simp only[kr,Act.put,NI,NL,NJ,C];clear C;go_wp2_with fail;go_ret;exact⟨_,rfl,PH ab.o,U.T (aa.M ar)⟩
  go_wp2_with fail;clear A F G I au al av e3;refine Ri (λx=>Below r r x) (mG [(Pp y 3),Tr,(Pp t 1),Tr,Tr,Tr,(Pp t 3),(·=.slice (some ⟨f,l,none⟩) m c),(Pp f l),(·=.agg #[.int .u8 a0.op,tx a0.name,a0.n,.slice O P Q]),Tr,Tr,Tr,Tr]) [(1,λv w=>∃s:ByteArray,v=.string s/\s.size<=10),(3,λv w=>∃s:ByteArray,v=.string s/\s.size<=12),(4,λv w=>∃s:ByteArray,v=.string s/\s.size<=22),(5,λv w=>∃s:ByteArray,v=.string s/\s.size<=23),(10,λv w=>∃s:ByteArray,v=.string s/\s.size<=(TB d')),(11,λv w=>∃s:ByteArray,v=.string s/\s.size<=(TB d'+23)),(12,λv w=>∃s:ByteArray,v=.string s/\s.size<=(TB d'+24)),(13,λv w=>∃s:ByteArray,v=.string s/\s.size<=(TB d'+24))] ((Below.refl _ _).drew) ⟨?_,?_,?_,?_,?_,?_,?_,?_,?_,?_,?_,?_,?_,?_,trivial⟩ ?_;exact .f 3;intro j w a hf b hd hw;exact .l 30 (b 0 _ rfl rfl) (kf ((a.B y ad).T T.o) 3 _ rfl) ⟨trivial,a,Qc ⟨_,rfl,ak⟩<|Qa⟩;exact .f 1;intro j w a hf b hd hw;exact .l 32 (b 2 _ rfl rfl) (kf ((a.B t ac).T W.o) 1 _ rfl) ⟨trivial,a,Qb<|Qc ⟨_,rfl,cd⟩<|Qa⟩;intro j w a hf b hd hw;obtain⟨aD,br,cz⟩:=hd _ (Mm 0 rfl) _ rfl rfl;have cA:=Sl 31 br;obtain⟨aE,bs,cB⟩:=hd _ (Mm 1 rfl) _ rfl rfl;have cC:=Sl 33 bs;have V:¬(9223372036854775807<aD.size+aE.size):=PJ;exact .q (g:=⟨trivial,a,Q2<|Qc ⟨aD++aE,rfl,by first|omega|(rw[N3];(try simp only[sQ]);omega)⟩<|Qa⟩);intro j w a hf b hd hw;obtain⟨aF,bt,cD⟩:=hd _ (Mm 2 rfl) _ rfl rfl;have cE:=Sl 34 bt;have V:¬(9223372036854775807<aF.size+1):=PJ;exact .q (g:=⟨trivial,a,Q2<|Qb<|Qc ⟨aF++⟨#[91]⟩,rfl,by first|omega|(rw[N3];(try simp only[sQ]);omega)⟩<|Qa⟩);exact .f 1;intro j w a hf b hd hw;exact .l 36 (b 6 _ rfl rfl) (kf ((a.B t ac).T W.o) 3 _ rfl) ⟨rfl,a,Qa⟩;intro j w a hf b hd hw;have cF:=Sv 37 b 7;exact .q (g:=⟨rfl,a,Qa⟩);intro j w a hf b hd hw;have cG:=Sv 38 b 8;have A:=(Cb f l (a.B f p)).T u.1;have F:=(Cb f (l+1) (a.B f p)).T u.2.1;have G:=(Cb f (l+2) (a.B f p)).T u.2.2.1;have I:=(Cb f (l+3) (a.B f p)).T u.2.2.2;replace a:=Hq a;exact .q (g:=⟨rfl,a.o,Qa⟩);intro j w a hf b hd hw;have cH:=Sv 39 b 9;have hSw:∀q,S q->q<w:=λq n=>PI (z q n) a.size;replace a:=Hq a;refine .c (bZ S w a0 ag O P Q (af.to a.o) (ah.kg (kz.ok .u8 _) (λq n=>a.o.B q (z q n))) R.1 R.2 hSw) ?_;rintro e w' ⟨s,rfl,hz,N⟩;exact⟨_,rfl,⟨trivial,a.o.T (N.M a.o.size),Q4<|Qc ⟨_,rfl,hz⟩<|Q2<|Qb<|Qe⟩⟩;intro j w a hf b hd hw;obtain⟨aG,bu,cI⟩:=hd _ (Mm 3 rfl) _ rfl rfl;have cJ:=Sl 35 bu;obtain⟨aH,bv,cK⟩:=hd _ (Mm 4 rfl) _ rfl rfl;have cL:=Sl 40 bv;have V:¬(9223372036854775807<aG.size+aH.size):=PJ;exact .q (g:=⟨trivial,a,Q4<|Qb<|Qc ⟨aG++aH,rfl,by first|omega|(rw[N3];(try simp only[sQ]);omega)⟩<|Qa⟩);intro j w a hf b hd hw;obtain⟨aI,bw,cM⟩:=hd _ (Mm 5 rfl) _ rfl rfl;have cN:=Sl 41 bw;have V:¬(9223372036854775807<aI.size+1):=PJ;exact .q (g:=⟨trivial,a,Q4<|Q2<|Qc ⟨aI++⟨#[93]⟩,rfl,by first|omega|(rw[N3];(try simp only[sQ]);omega)⟩<|Qa⟩);intro j w a hf b hd hw;obtain⟨cO,bx,bz⟩:=hd _ (Mm 6 rfl) _ rfl rfl;exact .p 42 bx ⟨trivial,a,Q4<|Q2<|Qb<|Qc ⟨_,rfl,bz⟩<|Qa⟩;intro aJ X Y Z B;obtain⟨aK,C,aL⟩:=B _ (Mm 7 rfl) Lb;have aa:Below r r X:=Y;clear Z B;simp only[kr,Act.put,NI,NL,NJ,C];clear C;go_wp2_with fail;go_ret;exact⟨_,rfl,PH ab.o,U.T (aa.M ar)⟩
 by_cases aT:k=9\/k=10
 .have ax:ap=1:=bo.1 PJ;obtain⟨f,l,a0,ag,O,P,Q,ay,az,aA,aB,aC,M,J,K,L⟩:=zl bb aU aV (i:=0) (PH bc.o);subst ay;have p:=z _ az;have ah:=aA;have R:=(And.intro aB aC)
  rw[Nat.zero_mul,NS]at M J K L;have u:=(And.intro M (And.intro J (And.intro K L)))
  clear M J K L;have ch:0<m:=PH aY.o;rcases aT with rfl|rfl
  .go_wp2_with fail;clear A F G I au al av e3;refine Ri (λx=>Below r r x) (mG [(Pp y 3),Tr,(Pp t 3),(·=.slice (some ⟨f,l,none⟩) m c),(Pp f l),(·=.agg #[.int .u8 a0.op,tx a0.name,a0.n,.slice O P Q]),(Pp y 2),(·=E),Tr,Tr,Tr]) [(1,λv w=>∃s:ByteArray,v=.string s/\s.size<=10),(8,λv w=>∃s:ByteArray,v=.string s/\s.size<=(TB d'+2)),(9,λv w=>∃s:ByteArray,v=.string s/\s.size<=(TB d'+12)),(10,λv w=>∃s:ByteArray,v=.string s/\s.size<=(TB d'+12))] ((Below.refl _ _).drew) ⟨?_,?_,?_,?_,?_,?_,?_,?_,?_,?_,?_,trivial⟩ ?_;exact .f 3;intro j w a hf b hd hw;exact .l 46 (b 0 _ rfl rfl) (kf ((a.B y ad).T T.o) 3 _ rfl) ⟨trivial,a,Qc ⟨_,rfl,ak⟩<|Qa⟩;exact .f 1;intro j w a hf b hd hw;exact .l 48 (b 2 _ rfl rfl) (kf ((a.B t ac).T W.o) 3 _ rfl) ⟨rfl,a,Qa⟩;intro j w a hf b hd hw;have cP:=Sv 49 b 3;exact .q (g:=⟨rfl,a,Qa⟩);intro j w a hf b hd hw;have cQ:=Sv 50 b 4;have A:=(Cb f l (a.B f p)).T u.1;have F:=(Cb f (l+1) (a.B f p)).T u.2.1;have G:=(Cb f (l+2) (a.B f p)).T u.2.2.1;have I:=(Cb f (l+3) (a.B f p)).T u.2.2.2;replace a:=Hq a;exact .q (g:=⟨rfl,a.o,Qa⟩);exact .f 3;intro j w a hf b hd hw;exact .l 52 (b 6 _ rfl rfl) (kf ((a.B y ad).T T.o) 2 _ rfl) ⟨rfl,a,Qa⟩;intro j w a hf b hd hw;have cR:=Sv 51 b 5;have cS:=Sv 53 b 7;have hSw:∀q,S q->q<w:=λq n=>PI (z q n) a.size;replace a:=Hq a;refine .c (ao S w a0 ag O P Q (E:Int) (af.to a.o) (ah.kg (kz.ok .u8 _) (λq n=>a.o.B q (z q n))) R.1 R.2 hSw) ?_;rintro e w' ⟨s,rfl,hz,N⟩;exact⟨_,rfl,⟨trivial,a.o.T (N.M a.o.size),Qb<|Qc ⟨_,rfl,hz⟩<|Q2<|Qe⟩⟩;intro j w a hf b hd hw;obtain⟨aM,bA,cT⟩:=hd _ (Mm 0 rfl) _ rfl rfl;have cU:=Sl 47 bA;obtain⟨aN,bB,cV⟩:=hd _ (Mm 1 rfl) _ rfl rfl;have cW:=Sl 54 bB;have V:¬(9223372036854775807<aM.size+aN.size):=PJ;exact .q (g:=⟨trivial,a,Q2<|Qc ⟨aM++aN,rfl,by first|omega|(rw[N3];(try simp only[sQ]);omega)⟩<|Qa⟩);intro j w a hf b hd hw;obtain⟨cX,bC,bD⟩:=hd _ (Mm 2 rfl) _ rfl rfl;exact .p 55 bC ⟨trivial,a,Q2<|Qb<|Qc ⟨_,rfl,bD⟩<|Qa⟩;intro aJ X Y Z B;obtain⟨aK,C,aL⟩:=B _ (Mm 3 rfl) Lb;have aa:Below r r X:=Y;clear Z B;simp only[kr,Act.put,NI,NL,NJ,C];clear C;go_wp2_with fail;go_ret;exact⟨_,rfl,PH ab.o,U.T (aa.M ar)⟩
  go_wp2_with fail;clear A F G I au al av e3;refine Ri (λx=>Below r r x) (mG [(Pp y 3),Tr,(Pp t 3),(·=.slice (some ⟨f,l,none⟩) m c),(Pp f l),(·=.agg #[.int .u8 a0.op,tx a0.name,a0.n,.slice O P Q]),(Pp y 2),(·=E),Tr,Tr,Tr]) [(1,λv w=>∃s:ByteArray,v=.string s/\s.size<=10),(8,λv w=>∃s:ByteArray,v=.string s/\s.size<=(TB d'+2)),(9,λv w=>∃s:ByteArray,v=.string s/\s.size<=(TB d'+12)),(10,λv w=>∃s:ByteArray,v=.string s/\s.size<=(TB d'+12))] ((Below.refl _ _).drew) ⟨?_,?_,?_,?_,?_,?_,?_,?_,?_,?_,?_,trivial⟩ ?_;exact .f 3;intro j w a hf b hd hw;exact .l 46 (b 0 _ rfl rfl) (kf ((a.B y ad).T T.o) 3 _ rfl) ⟨trivial,a,Qc ⟨_,rfl,ak⟩<|Qa⟩;exact .f 1;intro j w a hf b hd hw;exact .l 48 (b 2 _ rfl rfl) (kf ((a.B t ac).T W.o) 3 _ rfl) ⟨rfl,a,Qa⟩;intro j w a hf b hd hw;have cP:=Sv 49 b 3;exact .q (g:=⟨rfl,a,Qa⟩);intro j w a hf b hd hw;have cQ:=Sv 50 b 4;have A:=(Cb f l (a.B f p)).T u.1;have F:=(Cb f (l+1) (a.B f p)).T u.2.1;have G:=(Cb f (l+2) (a.B f p)).T u.2.2.1;have I:=(Cb f (l+3) (a.B f p)).T u.2.2.2;replace a:=Hq a;exact .q (g:=⟨rfl,a.o,Qa⟩);exact .f 3;intro j w a hf b hd hw;exact .l 52 (b 6 _ rfl rfl) (kf ((a.B y ad).T T.o) 2 _ rfl) ⟨rfl,a,Qa⟩;intro j w a hf b hd hw;have cR:=Sv 51 b 5;have cS:=Sv 53 b 7;have hSw:∀q,S q->q<w:=λq n=>PI (z q n) a.size;replace a:=Hq a;refine .c (ao S w a0 ag O P Q (E:Int) (af.to a.o) (ah.kg (kz.ok .u8 _) (λq n=>a.o.B q (z q n))) R.1 R.2 hSw) ?_;rintro e w' ⟨s,rfl,hz,N⟩;exact⟨_,rfl,⟨trivial,a.o.T (N.M a.o.size),Qb<|Qc ⟨_,rfl,hz⟩<|Q2<|Qe⟩⟩;intro j w a hf b hd hw;obtain⟨aM,bA,cT⟩:=hd _ (Mm 0 rfl) _ rfl rfl;have cU:=Sl 47 bA;obtain⟨aN,bB,cV⟩:=hd _ (Mm 1 rfl) _ rfl rfl;have cW:=Sl 54 bB;have V:¬(9223372036854775807<aM.size+aN.size):=PJ;exact .q (g:=⟨trivial,a,Q2<|Qc ⟨aM++aN,rfl,by first|omega|(rw[N3];(try simp only[sQ]);omega)⟩<|Qa⟩);intro j w a hf b hd hw;obtain⟨cX,bC,bD⟩:=hd _ (Mm 2 rfl) _ rfl rfl;exact .p 55 bC ⟨trivial,a,Q2<|Qb<|Qc ⟨_,rfl,bD⟩<|Qa⟩;intro aJ X Y Z B;obtain⟨aK,C,aL⟩:=B _ (Mm 3 rfl) Lb;have aa:Below r r X:=Y;clear Z B;simp only[kr,Act.put,NI,NL,NJ,C];clear C;go_wp2_with fail;go_ret;exact⟨_,rfl,PH ab.o,U.T (aa.M ar)⟩
 have dJ:((k:Int)==1)=false:=by rw[NX];omega
 have dK:((k:Int)==5)=false:=by rw[NX];omega
 have dL:((k:Int)==6)=false:=by rw[NX];omega
 have dM:((k:Int)==7)=false:=by rw[NX];omega
 have dN:((k:Int)==8)=false:=by rw[NX];omega
 have dO:((k:Int)==9)=false:=by rw[NX];omega
 have dP:((k:Int)==10)=false:=by rw[NX];omega
 rcases bo.2 ⟨PJ,PJ,PJ,PJ,PJ,PJ,PJ⟩with ax|ax
 .subst ax;go_wp2_with fail;go_ret;exact⟨_,rfl,PH ab.o,U⟩
 obtain⟨f,l,a0,ag,O,P,Q,ay,az,aA,aB,aC,M,J,K,L⟩:=zl bb aU aV (i:=0) (PH bc.o);subst ay;have p:=z _ az;have ah:=aA;have R:=(And.intro aB aC)
 rw[Nat.zero_mul,NS]at M J K L;have u:=(And.intro M (And.intro J (And.intro K L)))
 clear M J K L;obtain⟨dQ,dR,ai,ci,bd,be,bf,bE,cY,cZ,da,db,M,J,K,L⟩:=zl bb aU aV (i:=1) (PH bc.o);injection bE with bE;injection bE with dc dd;subst dc;subst dd;have dS:=z _ cY;have cj:=cZ;have bg:=(And.intro da db)
 rw[Nat.one_mul]at M J K L;have de:=J;have df:=K;have dg:=L;have aj:=(And.intro M (And.intro J (And.intro K L)))
 clear M J K L de df dg;subst ax;have ch:0<m:=PH aY.o
 have bi:(1:Int)<(m:Int):=PH aY.o
 by_cases bF:E=3
 .have dh:((E:Int)==3)=true:=(by rw[bF];rfl);have dT:IntKind.i64.wrap ((E:Int)+1)=4:=(by rw[bF];rfl);clear bF;go_wp2_with fail;clear A F G I au al av e3;refine Ri (λx=>Below r r x) (mG [(Pp t 3),(·=.slice (some ⟨f,l,none⟩) m c),(Pp f l),(·=.agg #[.int .u8 a0.op,tx a0.name,a0.n,.slice O P Q]),(·=.int .i64 4),Tr,(Pp y 3),Tr,Tr,(Pp t 3),(·=.slice (some ⟨f,l,none⟩) m c),(Pp f (l+4)),(·=.agg #[.int .u8 ai.op,tx ai.name,ai.n,.slice bd be bf]),(Pp y 2),(·=E),Tr,Tr,Tr,Tr]) [(5,λv w=>∃s:ByteArray,v=.string s/\s.size<=(TB d'+2)),(7,λv w=>∃s:ByteArray,v=.string s/\s.size<=10),(8,λv w=>∃s:ByteArray,v=.string s/\s.size<=(TB d'+12)),(15,λv w=>∃an:Int,v=an),(16,λv w=>∃s:ByteArray,v=.string s/\s.size<=(TB d'+2)),(17,λv w=>∃s:ByteArray,v=.string s/\s.size<=(2*TB d'+14)),(18,λv w=>∃s:ByteArray,v=.string s/\s.size<=(2*TB d'+14))] ((Below.refl _ _).drew) ⟨?_,?_,?_,?_,?_,?_,?_,?_,?_,?_,?_,?_,?_,?_,?_,?_,?_,?_,?_,trivial⟩ ?_;exact .f 1;intro j w a hf b hd hw;exact .l 67 (b 0 _ rfl rfl) (kf ((a.B t ac).T W.o) 3 _ rfl) ⟨rfl,a,Qa⟩;intro j w a hf b hd hw;have di:=Sv 68 b 1;exact .q (g:=⟨rfl,a,Qa⟩);intro j w a hf b hd hw;have dj:=Sv 69 b 2;have A:=(Cb f l (a.B f p)).T u.1;have F:=(Cb f (l+1) (a.B f p)).T u.2.1;have G:=(Cb f (l+2) (a.B f p)).T u.2.2.1;have I:=(Cb f (l+3) (a.B f p)).T u.2.2.2;replace a:=Hq a;exact .q (g:=⟨rfl,a.o,Qa⟩);exact .f 5;intro j w a hf b hd hw;have dk:=Sv 70 b 3;have dl:=Sv 71 b 4;have hSw:∀q,S q->q<w:=λq n=>PI (z q n) a.size;replace a:=Hq a;refine .c (ao S w a0 ag O P Q 4 (af.to a.o) (ah.kg (kz.ok .u8 _) (λq n=>a.o.B q (z q n))) R.1 R.2 hSw) ?_;rintro e w' ⟨s,rfl,hz,N⟩;exact⟨_,rfl,⟨trivial,a.o.T (N.M a.o.size),Qc ⟨_,rfl,hz⟩<|Q4<|Q2<|Qe⟩⟩;exact .f 3;intro j w a hf b hd hw;exact .l 73 (b 6 _ rfl rfl) (kf ((a.B y ad).T T.o) 3 _ rfl) ⟨trivial,a,Qb<|Qc ⟨_,rfl,ak⟩<|Qa⟩;intro j w a hf b hd hw;obtain⟨aO,bG,dm⟩:=hd _ (Mm 0 rfl) _ rfl rfl;have dn:=Sl 72 bG;obtain⟨aP,bH,dp⟩:=hd _ (Mm 1 rfl) _ rfl rfl;have dq:=Sl 74 bH;have V:¬(9223372036854775807<aO.size+aP.size):=PJ;exact .q (g:=⟨trivial,a,Q2<|Qc ⟨aO++aP,rfl,by first|omega|(rw[N3];(try simp only[sQ]);omega)⟩<|Qa⟩);exact .f 1;intro j w a hf b hd hw;exact .l 76 (b 9 _ rfl rfl) (kf ((a.B t ac).T W.o) 3 _ rfl) ⟨rfl,a,Qa⟩;intro j w a hf b hd hw;have dr:=Sv 77 b 10;exact .q (g:=⟨rfl,a,Qa⟩);intro j w a hf b hd hw;have ds:=Sv 78 b 11;have A:=(Cb f (l+4) (a.B f p)).T aj.1;have F:=(Cb f (l+4+1) (a.B f p)).T aj.2.1;have G:=(Cb f (l+4+2) (a.B f p)).T aj.2.2.1;have I:=(Cb f (l+4+3) (a.B f p)).T aj.2.2.2;replace a:=Hq a;exact .q (g:=⟨rfl,a.o,Qa⟩);exact .f 3;intro j w a hf b hd hw;exact .l 80 (b 13 _ rfl rfl) (kf ((a.B y ad).T T.o) 2 _ rfl) ⟨rfl,a,Qa⟩;intro j w a hf b hd hw;have dt:=Sv 81 b 14;exact .q (g:=⟨trivial,a,Q2<|Qb<|Qc ⟨_,rfl⟩<|Qa⟩);intro j w a hf b hd hw;have du:=Sv 79 b 12;obtain⟨an,bI⟩:=hd _ (Mm 3 rfl) _ rfl rfl;have dv:=Sl 82 bI;have hSw:∀q,S q->q<w:=λq n=>PI (z q n) a.size;replace a:=Hq a;refine .c (ao S w ai ci bd be bf an (af.to a.o) (cj.kg (kz.ok .u8 _) (λq n=>a.o.B q (z q n))) bg.1 bg.2 hSw) ?_;rintro e w' ⟨s,rfl,hz,N⟩;exact⟨_,rfl,⟨trivial,a.o.T (N.M a.o.size),Q4<|Qc ⟨_,rfl,hz⟩<|Q2<|Qe⟩⟩;intro j w a hf b hd hw;obtain⟨aQ,bJ,dw⟩:=hd _ (Mm 2 rfl) _ rfl rfl;have dx:=Sl 75 bJ;obtain⟨aR,bK,dy⟩:=hd _ (Mm 4 rfl) _ rfl rfl;have dz:=Sl 83 bK;have V:¬(9223372036854775807<aQ.size+aR.size):=PJ;exact .q (g:=⟨trivial,a,Q4<|Qb<|Qc ⟨aQ++aR,rfl,by first|omega|(rw[N3];(try simp only[sQ]);omega)⟩<|Qa⟩);intro j w a hf b hd hw;obtain⟨dA,bL,bM⟩:=hd _ (Mm 5 rfl) _ rfl rfl;exact .p 84 bL ⟨trivial,a,Q4<|Q2<|Qc ⟨_,rfl,bM⟩<|Qa⟩;intro aJ X Y Z B;obtain⟨aK,C,aL⟩:=B _ (Mm 6 rfl) Lb;have aa:Below r r X:=Y;clear Z B;simp only[kr,Act.put,NI,NL,NJ,C];clear C;go_wp2_with fail;go_ret;exact⟨_,rfl,PH ab.o,U.T (aa.M ar)⟩
 have dh:((E:Int)==3)=false:=by rw[NX];omega
 go_wp2_with fail;clear A F G I au al av e3;refine Ri (λx=>Below r r x) (mG [(Pp t 3),(·=.slice (some ⟨f,l,none⟩) m c),(Pp f l),(·=.agg #[.int .u8 a0.op,tx a0.name,a0.n,.slice O P Q]),(·=E),Tr,(Pp y 3),Tr,Tr,(Pp t 3),(·=.slice (some ⟨f,l,none⟩) m c),(Pp f (l+4)),(·=.agg #[.int .u8 ai.op,tx ai.name,ai.n,.slice bd be bf]),(Pp y 2),(·=E),Tr,Tr,Tr,Tr]) [(5,λv w=>∃s:ByteArray,v=.string s/\s.size<=(TB d'+2)),(7,λv w=>∃s:ByteArray,v=.string s/\s.size<=10),(8,λv w=>∃s:ByteArray,v=.string s/\s.size<=(TB d'+12)),(15,λv w=>∃an:Int,v=an),(16,λv w=>∃s:ByteArray,v=.string s/\s.size<=(TB d'+2)),(17,λv w=>∃s:ByteArray,v=.string s/\s.size<=(2*TB d'+14)),(18,λv w=>∃s:ByteArray,v=.string s/\s.size<=(2*TB d'+14))] ((Below.refl _ _).drew) ⟨?_,?_,?_,?_,?_,?_,?_,?_,?_,?_,?_,?_,?_,?_,?_,?_,?_,?_,?_,trivial⟩ ?_;exact .f 1;intro j w a hf b hd hw;exact .l 67 (b 0 _ rfl rfl) (kf ((a.B t ac).T W.o) 3 _ rfl) ⟨rfl,a,Qa⟩;intro j w a hf b hd hw;have di:=Sv 68 b 1;exact .q (g:=⟨rfl,a,Qa⟩);intro j w a hf b hd hw;have dj:=Sv 69 b 2;have A:=(Cb f l (a.B f p)).T u.1;have F:=(Cb f (l+1) (a.B f p)).T u.2.1;have G:=(Cb f (l+2) (a.B f p)).T u.2.2.1;have I:=(Cb f (l+3) (a.B f p)).T u.2.2.2;replace a:=Hq a;exact .q (g:=⟨rfl,a.o,Qa⟩);exact .f 5;intro j w a hf b hd hw;have dk:=Sv 70 b 3;have dl:=Sv 71 b 4;have hSw:∀q,S q->q<w:=λq n=>PI (z q n) a.size
 replace a:=Hq a;refine .c (ao S w a0 ag O P Q (E:Int) (af.to a.o) (ah.kg (kz.ok .u8 _) (λq n=>a.o.B q (z q n))) R.1 R.2 hSw) ?_;rintro e w' ⟨s,rfl,hz,N⟩;exact⟨_,rfl,⟨trivial,a.o.T (N.M a.o.size),Qc ⟨_,rfl,hz⟩<|Q4<|Q2<|Qe⟩⟩;exact .f 3;intro j w a hf b hd hw;exact .l 73 (b 6 _ rfl rfl) (kf ((a.B y ad).T T.o) 3 _ rfl) ⟨trivial,a,Qb<|Qc ⟨_,rfl,ak⟩<|Qa⟩;intro j w a hf b hd hw;obtain⟨aO,bG,dm⟩:=hd _ (Mm 0 rfl) _ rfl rfl;have dn:=Sl 72 bG;obtain⟨aP,bH,dp⟩:=hd _ (Mm 1 rfl) _ rfl rfl;have dq:=Sl 74 bH;have V:¬(9223372036854775807<aO.size+aP.size):=PJ
 exact .q (g:=⟨trivial,a,Q2<|Qc ⟨aO++aP,rfl,by first|omega|(rw[N3];(try simp only[sQ]);omega)⟩<|Qa⟩);exact .f 1;intro j w a hf b hd hw;exact .l 76 (b 9 _ rfl rfl) (kf ((a.B t ac).T W.o) 3 _ rfl) ⟨rfl,a,Qa⟩;intro j w a hf b hd hw;have dr:=Sv 77 b 10;exact .q (g:=⟨rfl,a,Qa⟩);intro j w a hf b hd hw;have ds:=Sv 78 b 11;have A:=(Cb f (l+4) (a.B f p)).T aj.1;have F:=(Cb f (l+4+1) (a.B f p)).T aj.2.1;have G:=(Cb f (l+4+2) (a.B f p)).T aj.2.2.1;have I:=(Cb f (l+4+3) (a.B f p)).T aj.2.2.2;replace a:=Hq a;exact .q (g:=⟨rfl,a.o,Qa⟩);exact .f 3;intro j w a hf b hd hw;exact .l 80 (b 13 _ rfl rfl) (kf ((a.B y ad).T T.o) 2 _ rfl) ⟨rfl,a,Qa⟩;intro j w a hf b hd hw;have dt:=Sv 81 b 14;exact .q (g:=⟨trivial,a,Q2<|Qb<|Qc ⟨_,rfl⟩<|Qa⟩);intro j w a hf b hd hw;have du:=Sv 79 b 12;obtain⟨an,bI⟩:=hd _ (Mm 3 rfl) _ rfl rfl;have dv:=Sl 82 bI;have hSw:∀q,S q->q<w:=λq n=>PI (z q n) a.size
 replace a:=Hq a;refine .c (ao S w ai ci bd be bf an (af.to a.o) (cj.kg (kz.ok .u8 _) (λq n=>a.o.B q (z q n))) bg.1 bg.2 hSw) ?_;rintro e w' ⟨s,rfl,hz,N⟩;exact⟨_,rfl,⟨trivial,a.o.T (N.M a.o.size),Q4<|Qc ⟨_,rfl,hz⟩<|Q2<|Qe⟩⟩;intro j w a hf b hd hw;obtain⟨aQ,bJ,dw⟩:=hd _ (Mm 2 rfl) _ rfl rfl;have dx:=Sl 75 bJ;obtain⟨aR,bK,dy⟩:=hd _ (Mm 4 rfl) _ rfl rfl;have dz:=Sl 83 bK;have V:¬(9223372036854775807<aQ.size+aR.size):=PJ
 exact .q (g:=⟨trivial,a,Q4<|Qb<|Qc ⟨aQ++aR,rfl,by first|omega|(rw[N3];(try simp only[sQ]);omega)⟩<|Qa⟩);intro j w a hf b hd hw;obtain⟨dA,bL,bM⟩:=hd _ (Mm 5 rfl) _ rfl rfl;exact .p 84 bL ⟨trivial,a,Q4<|Q2<|Qc ⟨_,rfl,bM⟩<|Qa⟩;intro aJ X Y Z B;obtain⟨aK,C,aL⟩:=B _ (Mm 6 rfl) Lb;have aa:Below r r X:=Y;clear Z B;simp only[kr,Act.put,NI,NL,NJ,C];clear C;go_wp2_with fail;go_ret;exact⟨_,rfl,PH ab.o,U.T (aa.M ar)⟩
theorem zO(d:Nat)(U:d<=6)(V:Ls d):MK d:=by
 intro S w e D f m c z J W u hm hS;have K:=(λ(w':World) (v:Below w w w')=>V S w' e D f m c (J.to v) (W.kg (kz.ok .u8 _) (λq y=>v.B q (hS q y))) u hm (λq y=>ND (hS q y) v.size))
 obtain⟨k,x,hx,X,A⟩:∃(k:Nat) (x:Nat×Bool×Nat×List UInt8),shapes[k]?=some x/\1<=k/\e.op=(k:Int):=by
  cases d with
  |zero=>exact u.elim
  |succ d=>obtain⟨⟨x,Y,hx,_⟩,_⟩:=u;exact⟨e.op.toNat,x,hx,PJ,PJ⟩
 have Z:=NA hx;obtain⟨nm,B⟩:=Xq e.name;obtain⟨l,C⟩:=Xq e.n;rw[A,<-B,<-C];rw[A,<-B,<-C]at K;obtain⟨n,p,g,r⟩:=x;have aj:TB d<=2520:=FU U;clear hS hx A B C;have E:=Ba w (.cells #[.int .u8 (k:Int),tx nm,l,.slice f m c] 190);have F:=NA (NF w (.cells #[.int .u8 (k:Int),tx nm,l,.slice f m c] 190));have i:(w.alloc (.cells #[.int .u8 (k:Int),tx nm,l,.slice f m c] 190)).heap.size=w+1:=PK
 have aa:=NA i;clear i
 go_enter func214,ntmps214
 go_upto_region 1 with fail;have i:=aa.o;generalize w.alloc (.cells #[.int .u8 (k:Int),tx nm,l,.slice f m c] 190)=ab at*;obtain⟨t,a⟩:=Xq w.heap.size;rw[<-a]at F E i⊢;have G:=NA a;clear a;have L:=kf F.o 0 _ rfl;go_wp2_with fail;refine(sH k _ Z.o X _ (J.to (G.o▸E))).M ?_;rintro ac b ⟨rfl,a⟩;have ak:=a.size;have ad:t<b:=PJ
 have ae:=NA ((a.B t PJ).T F.o);have M:=((G.o▸E:Below w w ab).T (a.M (PH G.o)))
 clear L;go_upto_region 2 with fail;have N:=NA (NF b (.cells #[.int .i64 (n:Int),.bool p,g,.string ⟨r.toArray⟩] 332));have O:=Ba b (.cells #[.int .i64 (n:Int),.bool p,g,.string ⟨r.toArray⟩] 332);have P:(b.alloc (.cells #[.int .i64 (n:Int),.bool p,g,.string ⟨r.toArray⟩] 332)).heap.size=b+1:=PK
 have j:=(M.T (O.M (PH M.size)))
 have af:=NA ((O.B t ad).T ae.o);obtain⟨al,Q⟩:=Xq b.heap.size;rw[<-Q]at N P⊢;generalize b.alloc (.cells #[.int .i64 (n:Int),.bool p,g,.string ⟨r.toArray⟩] 332)=R at*;have am:t<R:=PJ
 clear Q P i;obtain⟨⟨L,an,ao,ap⟩,_⟩:=kC af.o;obtain⟨⟨aq,ac,ar,e3⟩,_⟩:=kC N.o;have T:=(K R j)
 by_cases hz:(g:Int)<z
 .go_wp2_with fail;refine T.M ?_;rintro ag ah ⟨s,rfl,ai,I⟩;have Y:¬(9223372036854775807<1+s.size):=PJ;have au:((⟨#[40]⟩:ByteArray)++s).size=1+s.size:=(by rw[N3,sQ]);have av:¬(9223372036854775807<((⟨#[40]⟩:ByteArray)++s).size+1):=PJ;go_wp2_with fail;go_ret;refine⟨_,rfl,?_,j.T (I.M j.size)⟩;simp only[N3,sQ];omega
 go_wp2_with fail;refine T.M ?_;rintro ag ah ⟨s,rfl,ai,I⟩;go_wp2_with fail;go_ret;exact⟨_,rfl,PJ,j.T (I.M j.size)⟩
end Go.Proofs.YtfemcncookpdhaaGreatDoor
