import Derived.Test.YtidmdcckbdmblaaGreatDoorZ4
import Derived.Test.YtidmdcckbdmblaaGreatDoorZ5
set_option maxRecDepth 1000000
set_option maxHeartbeats 32000000
set_option linter.all false
namespace Go.Proofs.YtidmdcckbdmblaaGreatDoor
open Go.RowKit jJ Go.Proofs.Tryz
theorem kn.ins{l}{cb:Nat}{n p r s hd own v y z params V}{c:List In}{w}(h:kn l cb n p r s hd own v y z params V c w){i:Nat}{x:In}(hi:c[i]?=some x):
  ∃g f,V=.slice (some ⟨g,0,none⟩) c.length f/\l<=g/\g<w/\(∀(a:Nat) u,(rv x)[a]?=some u->w.cell? ⟨g,i*4+a,none⟩=some u/\w.frozen? ⟨g,i*4+a,none⟩=false)/\
   ∀a,a=1\/a=2->∀t:Int,kn l cb n p r s hd own v y z params V (c.set i (x.put a t)) (w.setCell ⟨g,i*4+a,none⟩ (.int .i64 t))/\kQ cb V w V (w.setCell ⟨g,i*4+a,none⟩ (.int .i64 t)):=by
 obtain⟨P,⟨E,j⟩,F⟩:=h.own.own;have hr:=Ar F;subst hr;have Q:=(J6.1 hi).1;rcases j with⟨_,R⟩|⟨g,f,A,m,B,k,G,I,J,C⟩
 .omega
 .have K:=(JJ.1 k).1;refine⟨g,f,m,B,K,λa u hu=>?_,λa D t=>?_⟩;have d:=Ey c i x hi a u hu;rw[<-C]at d;have L:A[i*4+a]?=some u:=by rw[K5]at d;split at d;simpa using d;cases d
  exact⟨iT k _ _ L,iY k _⟩;have M:=h.lt;have N:cb≠g:=LC;refine⟨⟨⟨h.g.os,h.g.tape,h.g.output,by rw[JQ];exact h.g.size,λq O hx=>(J0 _ _ _ _ (by show q≠g;omega)).T (h.g.B q O hx)⟩,(J0 _ _ _ _ N).T h.c,⟨(c.set i (x.put a t)).map rv,⟨?_,.inr ⟨g,f,A.setIfInBounds (i*4+a) (.int .i64 t),?_,B,iW k,?_,I,by simpa using J,?_⟩⟩,Au _⟩,M⟩,⟨by rw[JQ];exact JS _,λb S _ j=>⟨J0 _ _ _ _ (λe=>j (by rw[m,e];rfl)),j⟩⟩⟩;rw[<-sj a D t c i x hi,Lt,Lt];exact E;rw[m,Lt];rw[Lt];exact G;rw[<-sj a D t c i x hi,Lt,Array.toList_setIfInBounds,<-C,List.take_set]
theorem kn.wG{d}{cb:Nat}{f j k l hd own m p q params}{g n b:Nat}{c:List In}{w}(h:kn d cb f j k l hd own m p q params (.slice (some ⟨g,0,none⟩) n b) c w){i:Nat}{x:In}(hi:c[i]?=some x):
  (∀(a:Nat) u,(rv x)[a]?=some u->w.cell? ⟨g,i*4+a,none⟩=some u/\w.frozen? ⟨g,i*4+a,none⟩=false)/\
   ∀a,a=1\/a=2->∀t:Int,kn d cb f j k l hd own m p q params (.slice (some ⟨g,0,none⟩) n b) (c.set i (x.put a t)) (w.setCell ⟨g,i*4+a,none⟩ (.int .i64 t))/\kQ cb (.slice (some ⟨g,0,none⟩) n b) w (.slice (some ⟨g,0,none⟩) n b) (w.setCell ⟨g,i*4+a,none⟩ (.int .i64 t)):=by
 obtain⟨v,y,e,_,_,r,s⟩:=h.ins hi;injection e with e _ _;injection e with e;injection e with e;subst e;exact⟨r,s⟩
theorem kn.wH{c}{cb:Nat}{d f j k hd own l m n params V}{a:List In}{w}(h:kn c cb d f j k hd own l m n params V a w)(hc:0<a.length):∃g b,V=.slice (some ⟨g,0,none⟩) a.length b:=by obtain⟨g,b,e,_⟩:=h.ins (i:=0) (x:=a[0]) (JW hc);exact⟨g,b,e⟩
structure mK(hh m b8 b9:Nat)(op a b n:Int)(t u:ByteArray)(q:Int)(w x:World):Prop where
 ht:oA (hh+1) hh (m+1) x
 ins:x.heap[b8]?=some (.cells #[.int .u8 op,a,b,n] 429 (0,0))
 row:∃p:Int,x.heap[b9]?=some (.cells #[.string t,.string u,p,q] 431 (0,0))
 iU:Below hh w x
 jY:hh+1<b8
 Eo:b8<b9
theorem oA.other{a b n z i:Nat}{u w}(h:oA a b n w)(c:a≠z)(d:b≠z):oA a b n (w.setCell ⟨z,i,none⟩ u):=by obtain⟨l,e,hr⟩:=h.row;exact⟨(J0 _ _ _ _ c).T h.var,⟨l,e,(J0 _ _ _ _ d).T hr⟩,h.ne⟩
theorem mK.Iu{e m d c:Nat}{op a b n:Int}{t u}{q:Int}{w x}(h:mK e m d c op a b n t u q w x)(f:Int):mK e m d c op a b n t u q w (x.setCell ⟨c,2,none⟩ (.int .i64 f)):=by obtain⟨p,hp⟩:=h.row;have g:=h.jY;have i:=h.Eo;exact⟨h.ht.other LC LC,(J0 _ _ _ _ (show d≠c from LC)).T h.ins,⟨f,iW hp⟩,ja (z:=c) h.iU LC,g,i⟩
theorem mK.to{d m e f:Nat}{op a b n:Int}{t u}{q:Int}{w x g}(h:mK d m e f op a b n t u q w x)(c:Below x x g):mK d m e f op a b n t u q w g:=by obtain⟨p,hp⟩:=h.row;exact⟨h.ht.iU c,(c.B _ (JJ.1 h.ins).1).T h.ins,⟨p,(c.B _ (JJ.1 hp).1).T hp⟩,⟨c.os.T h.iU.os,c.tape.T h.iU.tape,c.output.T h.iU.output,J9 h.iU.size c.size,λz hz=>(c.B z (LA ((JJ.1 h.ht.var).1))).T (h.iU.B z hz)⟩,h.jY,h.Eo⟩
theorem mK.grown{c m i j:Nat}{op a b n:Int}{t u}{q:Int}{w x f}(h:mK c m i j op a b n t u q w x)(k:oA (c+1) c (m+1) f)(d:x.grownBy f (some c)):mK c m i j op a b n t u q w f:=by obtain⟨p,hp⟩:=h.row;have l:=h.jY;have r:=h.Eo;have g:∀z,z≠c->¬some z=some c:=λz hz e=>hz (by injection e);exact⟨k,(d.B _ (JJ.1 h.ins).1 (g _ LC)).T h.ins,⟨p,(d.B _ (JJ.1 hp).1 (g _ LC)).T hp⟩,⟨d.os.T h.iU.os,d.tape.T h.iU.tape,d.output.T h.iU.output,J9 h.iU.size d.size,λz hz=>(d.B z (LA ((JJ.1 h.ht.var).1)) (g _ LC)).T (h.iU.B z hz)⟩,h.jY,h.Eo⟩
theorem vp.iV{b w w'}{cb:Nat}{c d e params}(h:vp b w cb c d e params)(a:∀q,b q->w'.heap[q]?=w.heap[q]?)(hs:w.heap.size<=w'.heap.size):vp b w' cb c d e params:=
 ⟨h.vars.iV a,h.kg.iV a,h.jl.iV a,h.params.iV a,λq f=>⟨JI (h.jY q f).1 hs,(h.jY q f).2⟩⟩
theorem A0.iV{a w w' b hd own c d}{o:Nat}(h:A0 a w b hd own c d o)(e:∀q,a q->w'.heap[q]?=w.heap[q]?):A0 a w' b hd own c d o:=by obtain⟨⟨f,c3,g,i⟩,j,⟨k,l,m,n⟩,p,r⟩:=h;exact⟨⟨f,c3,g,i.iV (kL.ok .u8) e⟩,j,⟨k,l,m,n.iV mB.ok e⟩,p,r⟩
theorem kT.iV{T w w'}{b n:Nat}(h:kT T w b n)(a:w'.heap[b]?=w.heap[b]?):kT T w' b n:=by obtain⟨c,d,e⟩:=h;exact⟨c,a.T d,e⟩
theorem jx.turn{c:Type}{R:Rel c}{T k:Nat}(ok:jI R k){P w w'}{lo:Nat}{v}{xs:List c}(h:jx R T k P w lo v xs)(f:∀z,v.ownBlock=some z->w'.heap[z]?=w.heap[z]?)(i:∀b,P b->b<w->w'.heap[b]?=w.heap[b]?)(hs:w.heap.size<=w'.heap.size):jx R T k P w' lo v xs:=by
 obtain⟨j,d,l⟩:=h.own;refine⟨j,?_,l.imp λr x hx=>ok.M (ok.iV hx λb a=>i b a.1 a.2.1) λb a=>⟨a.1,JI a.2.1 hs,a.2.2⟩⟩;refine⟨d.1,?_⟩;rcases d.2 with h|⟨g,m,n,e,a,p,h⟩
 exact .inl h;refine .inr ⟨g,m,n,e,a,(f g (by rw[e];rfl)).T p,h⟩
theorem mh.turn{T a x b V}{n:Nat}(h:mh T a x V n)(d:∀z,V.ownBlock=some z->a<=z->z<x->b.heap[z]?=x.heap[z]?)(hs:x.heap.size<=b.heap.size):mh T a b V n:=by obtain⟨e,c,f⟩:=h;exact⟨e,c.turn nI (λz hz=>d z hz (c.ge z hz).1 (c.ge z hz).2) (λ_ h=>h.elim) hs,f⟩
structure mW(w3:World)(cb bu bf bx nn:Nat)(f0 f1 f2 f3 hd own V6 V7 V8 nm:Value)(n:Nat)(x:World):Prop where
 g:ld (λq=>q=cb\/q=bu\/q=bf\/q=bx) w3 x
 c:∃P V:Value,x.heap[cb]?=some (.cells #[f0,f1,f2,f3,hd,own,V6,V7,V8,P,V] 240 (0,0))
 u:kT 318 x bu (nn*3)
 f:kT 4 x bf nn
 r:∃Vu Vf:Value,x.heap[bx]?=some (.cells #[nm,Vu,Vf] 248 (0,0))/\mh 315 w3 x Vu n/\mh 316 w3 x Vf n
 l:cb<w3/\bu<w3/\bf<w3/\bx<w3
 ne:bu≠cb/\bf≠cb/\bx≠cb/\bu≠bx/\bf≠bx/\bu≠bf
theorem mW.to{s}{cb c d f e:Nat}{g i j k hd own l m p nm}{n:Nat}{x b}(h:mW s cb c d f e g i j k hd own l m p nm n x)(a:ld (λq=>q=cb\/q=c\/q=d) x b)(hc:∃P V:Value,b.heap[cb]?=some (.cells #[g,i,j,k,hd,own,l,m,p,P,V] 240 (0,0)))(hu:kT 318 b c (e*3))(hf:kT 4 b d e):mW s cb c d f e g i j k hd own l m p nm n b:=by obtain⟨A,B,C,D⟩:=h.l;obtain⟨E,F,G,I,J,K⟩:=h.ne;have hs:=h.g.size;obtain⟨t,u,hx,v,w⟩:=h.r;exact⟨h.g.T (a.M λq y=>by rcases y with h|h|h;exact .inl h;exact .inr (.inl h);exact .inr (.inr (.inl h))),hc,hu,hf,⟨t,u,(a.B f LC LC).T hx,v.turn (λz _ hz r=>a.B z r LC) a.size,w.turn (λz _ hz r=>a.B z r LC) a.size⟩,h.l,h.ne⟩
theorem mW.iU{b}{cb c d e f:Nat}{g i j k hd own l m p nm}{n:Nat}{x q}(h:mW b cb c d e f g i j k hd own l m p nm n x)(a:Below x x q):mW b cb c d e f g i j k hd own l m p nm n q:=by obtain⟨P,V,hc⟩:=h.c;exact h.to (ld.of a) ⟨P,V,(a.B cb (JJ.1 hc).1).T hc⟩ (h.u.iV (a.B _ h.u.lt)) (h.f.iV (a.B _ h.f.lt))
structure pD(w3:World)(cb bu bf bx nn:Nat)(f0 f1 f2 f3 hd own V6 V7 V8 nm:Value)(wr:World)(Vu Vf:Value)(us fs:List Unit)(n:Nat)(b1 b2:Bool)(x:World):Prop where
 g:ld (λq=>q=cb\/q=bu\/q=bf\/q=bx) w3 x
 c:∃P V:Value,x.heap[cb]?=some (.cells #[f0,f1,f2,f3,hd,own,V6,V7,V8,P,V] 240 (0,0))
 u:kT 318 x bu (nn*3)
 f:kT 4 x bf nn
 r:∃a b:Value,x.heap[bx]?=some (.cells #[nm,a,b] 248 (0,0))/\(b1=false->a=Vu)/\(b2=false->b=Vf)/\mh 315 w3 x a (n+1)/\mh 316 w3 x b (n+1)
 ou:jx (tQ 1) 315 1 (λ_=>False) x w3 Vu us
 Cr:jx (tQ 1) 316 1 (λ_=>False) x w3 Vf fs
 s:wr.heap.size<=x
 ws:w3.heap.size<=wr
 vu:∀z,Vu.ownBlock=some z->w3<=z/\z<wr
 vf:∀z,Vf.ownBlock=some z->w3<=z/\z<wr
 l:cb<w3/\bu<w3/\bf<w3/\bx<w3
 ne:bu≠cb/\bf≠cb/\bx≠cb/\bu≠bx/\bf≠bx/\bu≠bf
theorem pD.iU{f}{cb g i d j:Nat}{k l m p hd own q r s nm wr t u}{v w:List Unit}{n:Nat}{y A x B}(h:pD f cb g i d j k l m p hd own q r s nm wr t u v w n y A x)(c:Below x x B):pD f cb g i d j k l m p hd own q r s nm wr t u v w n y A B:=by obtain⟨P,V,hc⟩:=h.c;obtain⟨a,b,hx,C,D,E,F⟩:=h.r;exact⟨h.g.T (ld.of c),⟨P,V,(c.B cb (JJ.1 hc).1).T hc⟩,h.u.iV (c.B _ h.u.lt),h.f.iV (c.B _ h.f.lt),⟨a,b,(c.B d (JJ.1 hx).1).T hx,C,D,E.turn (λz _ _ e=>c.B z e) c.size,F.turn (λz _ _ e=>c.B z e) c.size⟩,h.ou.iU nI c,h.Cr.iU nI c,J9 h.s c.size,h.ws,h.vu,h.vf,h.l,h.ne⟩
theorem pD.alloc{a}{cb b c d e:Nat}{f g i j hd own k l m nm wr p q}{r s:List Unit}{n:Nat}{t u x}(h:pD a cb b c d e f g i j hd own k l m nm wr p q r s n t u x)(v):pD a cb b c d e f g i j hd own k l m nm wr p q r s n t u (x.alloc v):=h.iU (Ba _ _)
theorem pD.drew{a}{cb b c d e:Nat}{f g i j hd own k l m nm wr p q}{r s:List Unit}{n:Nat}{t u x}(h:pD a cb b c d e f g i j hd own k l m nm wr p q r s n t u x):pD a cb b c d e f g i j hd own k l m nm wr p q r s n t u {x with drawn:=x.drawn+1}:=h.iU (Below.refl _ _).drew
theorem NK.set{wr w}{a i:Nat}{u}(d:a<wr.heap.size):w.heap.size<=(w.setCell ⟨a,i,none⟩ u).heap.size/\∀b,Nw wr w b->(w.setCell ⟨a,i,none⟩ u).heap[b]?=w.heap[b]?:=
 ⟨by rw[JQ];exact JS _,λb c=>J0 _ _ _ _ (by have:=c.1;show b≠a;omega)⟩
theorem py.turn{a x c:World}{V W:Value}{n cb:Nat}(h:py a x V n)(i:cb<a)(hs:x.heap.size<=c)(e:∀b,b<x.heap.size->b≠cb->some b≠W.ownBlock->c.heap[b]?=x.heap[b]?)(hd:∀z,V.ownBlock=some z->some z≠W.ownBlock):py a c V n:=by have d:=h.lt;obtain⟨xs,f,g⟩:=h;exact⟨xs,f.turn jk.ok (λz hz=>e z (d z hz).2 (LA ((d z hz).1)) (hd z hz)) (λ_ h=>h.elim) hs,g⟩
theorem py.iU{a x b V}{n:Nat}(h:py a x V n)(c:Below x x b):py a b V n:=by obtain⟨xs,d,e⟩:=h;exact⟨xs,d.iU jk.ok c,e⟩
structure oB(w1:World)(cb:Nat)(f0 f1 f2 f3 hd own P V V6 V7 V8:Value)(n6 n7 n8:Nat)(x:World):Prop where
 g:w1.grownBy x (some cb)
 c:x.heap[cb]?=some (.cells #[f0,f1,f2,f3,hd,own,V6,V7,V8,P,V] 240 (0,0))
 r6:py w1 x V6 n6
 r7:py w1 x V7 n7
 r8:py w1 x V8 n8
 d:qh V6 V7/\qh V6 V8/\qh V7 V8
 lt:cb<w1
theorem oB.iU{b}{cb:Nat}{c d e f hd own P V g i j}{k l m:Nat}{x n}(h:oB b cb c d e f hd own P V g i j k l m x)(a:Below x x n):oB b cb c d e f hd own P V g i j k l m n:=
 ⟨jd h.g (jv (jo a) _),(a.B cb (JJ.1 h.c).1).T h.c,h.r6.iU a,h.r7.iU a,h.r8.iU a,h.d,h.lt⟩
theorem py.up{a x V}{n m:Nat}(h:py a x V n)(hm:n<=m):py a x V m:=by obtain⟨xs,b,c⟩:=h;exact⟨xs,b,J9 c hm⟩
theorem oB.up{a}{cb:Nat}{b c d e hd own P V f g i}{j k l:Nat}{m n p:Nat}{x}(h:oB a cb b c d e hd own P V f g i j k l x)(q:j<=m)(r:k<=n)(s:l<=p):oB a cb b c d e hd own P V f g i m n p x:=⟨h.g,h.c,h.r6.up q,h.r7.up r,h.r8.up s,h.d,h.lt⟩
structure CA(S:Nat->Prop)(w:World)(cb:Nat)(A1:Option Addr)(n1 c1:Nat)(A3:Option Addr)(m3 c3:Nat)(Ah:Option Addr)(ch:Nat)(tM:List Fg)(jh:List Co)(nl:List (List (List UInt8))):Prop where
 h1:jc kY S w (.slice A1 n1 c1) tM
 IB:n1<=50
 h3:jc (kL .u8) S w (.slice A3 m3 c3) jh
 IC:m3<=3
 hh:jc mB S w (.slice Ah m3 ch) nl
 ID:∀(i:Nat) (x:Co),jh[i]?=some x->nl[i]?=some (jL [] x.jG)
 jY:∀q,S q->q<w/\q≠cb
 rows:na w
 ne:(11:Nat)≠cb
 gc:∀x∈jh,x.vars.length<=50/\x.jG.length<=4/\∀hs∈x.jG,hs.length<=100/\∀h∈hs,h.params.length<=1000/\jw Ds h.body<=12/\∀s∈h.body,yl jh Ds s
theorem ll.M{a T w v}(h:ll a w v)(b:∀q,a q->T q):ll T w v:=by obtain⟨d,n,c,xs,e,hs,hn⟩:=h;exact⟨d,n,c,xs,e,hs.M jk.ok b,hn⟩
structure wq(S2:Nat->Prop)(w3:World)(cb bu bf bx:Nat)(f3 hd own V6 V7 V8 nm:Value)(jh:List Co)(nl:List (List (List UInt8)))(o:Nat)(ns:List (List UInt8))(ve:Value)(jG:List (List Hd)):Prop where
 s6:ll S2 w3 V6
 s7:ll S2 w3 V7
 s8:ll S2 w3 V8
 jY:∀q,S2 q->q<w3/\q≠cb/\q≠bu/\q≠bf/\q≠bx
 fx:A0 S2 w3 f3 hd own jh nl o
 rows:na w3
 Ii:(11:Nat)≠cb/\(11:Nat)≠bu/\(11:Nat)≠bf/\(11:Nat)≠bx
 wh:jc jk S2 w3 nm ns
 vs:jc (ly .u8) S2 w3 ve jG
theorem wq.to{c d x}{cb e f g v n:Nat}{w y z i hd own j k l nm m p r}{o:Nat}{s t}(h:wq c d cb e f g i hd own j k l nm p r o s m t)(u:mW d cb e f g v w y z i hd own j k l nm n x):wq c x cb e f g i hd own j k l nm p r o s m t:=by have a:∀q,c q->x.heap[q]?=d.heap[q]?:=λq b=>u.g.B q (h.jY q b).1 (LA (h.jY q b));exact⟨h.s6.iV a,h.s7.iV a,h.s8.iV a,λq b=>⟨JI (h.jY q b).1 u.g.size,(h.jY q b).2⟩,h.fx.iV a,h.rows.iV (u.g.B _ h.rows.lt (LA h.Ii)) u.g.size,h.Ii,h.wh.iV jk.ok a,h.vs.iV (ly.ok .u8) a⟩
theorem wq.eq{b a x}{cb c d e l n:Nat}{m p r f hd own g i j nm s t v}{o:Nat}{w y}(h:wq b a cb c d e f hd own g i j nm t v o w s y)(u:mW a cb c d e l m p r f hd own g i j nm n x):∀q,b q->x.heap[q]?=a.heap[q]?:=λq k=>u.g.B q (h.jY q k).1 (LA (h.jY q k))
theorem mh.iU{T a x b V}{n:Nat}(h:mh T a x V n)(c:Below x x b):mh T a b V n:=h.turn (λz _ _ d=>c.B z d) c.size
theorem mh.set{T a x V u}{n b i:Nat}(h:mh T a x V n)(c:b<a):mh T a (x.setCell ⟨b,i,none⟩ u) V n:=
 h.turn (λz _ hz _=>J0 _ _ _ _ (by show z≠b;omega)) (by rw[JQ];exact JS _)
theorem wq.cm{a b}{cb g i j:Nat}{k hd own c d e nm l m n}{o:Nat}{r s}(h:wq a b cb g i j k hd own c d e nm m n o r l s){p}(hp:ll a b p):vp a b cb c d e p:=⟨h.s6,h.s7,h.s8,hp,λq f=>⟨(h.jY q f).1,(h.jY q f).2.1⟩⟩
def ym:Rel (List (List UInt8)):=λb w r l=>∃v1 v2 a:Value,r=[v1,v2,a]/\jc jk b w v1 l/\v2.oneCell'=true/\a.oneCell'=true
theorem ym.ok:jI ym 3:=
 ⟨LC,λ⟨_,_,_,h,_⟩=>by rw[h];rfl,λ⟨v1,v2,d,h,a,b,c⟩ u hu=>by rw[h]at hu;simp at hu;rcases hu with rfl|rfl|rfl;exact a.one;exact b;exact c,λ⟨v1,v2,d,h,a,b,c⟩ e=>⟨v1,v2,d,h,a.M jk.ok e,b,c⟩,λ⟨v1,v2,d,h,a,b,c⟩ f=>⟨v1,v2,d,h,a.iV jk.ok f,b,c⟩⟩
def vq(b:Nat->Prop)(w:World)(pb:Nat)(d:List (List (List UInt8))):Prop:=∃(a:Option Addr) (n c:Nat),w.heap[pb]?=some (.cells #[.slice a n c] 244 (0,0))/\jc ym b w (.slice a n c) d
structure tO(w5 wr:World)(cb pb:Nat)(P:Nat->Prop)(f0 f1 f2 f3 hd V:Value)(xs:List (List (List UInt8)))(x:World):Prop where
 g:ld (λq=>q=cb\/q=pb) w5 x
 c:∃a b c d e p q:Value,x.heap[cb]?=some (.cells #[f0,f1,f2,f3,hd,a,b,c,d,p,q] 240 (0,0))
 p:x.heap[pb]?=some (.cells #[V] 244 (0,0))
 own:jx ym 248 3 P x w5 V xs
 s:wr.heap.size<=x
 v:∀z,V.ownBlock=some z->w5<=z/\z<wr
 ws:w5.heap.size<=wr
 lt:cb<w5/\pb<w5/\cb≠pb
 np:¬P cb/\¬P pb
theorem tO.grown{m wr}{cb pb:Nat}{P g i j k hd V xs x l}(h:tO m wr cb pb P g i j k hd V xs x)(f:x.grownBy l (some cb))(hc:∃a b c d e p q:Value,l.heap[cb]?=some (.cells #[g,i,j,k,hd,a,b,c,d,p,q] 240 (0,0))):tO m wr cb pb P g i j k hd V xs l:=by obtain⟨s,t,n⟩:=h.lt;have hs:=h.ws;have r:∀z,z≠cb->¬some z=some cb:=λz hz e=>hz (by injection e);exact⟨h.g.T (ld.grown f (.inl rfl)),hc,(f.B pb (JJ.1 h.p).1 (r _ (Lx n))).T h.p,h.own.grown ym.ok f (λz e=>by injection e with e;subst e;exact⟨h.np.1,λe=>LA ((h.v _ e.symm).1)⟩),J9 h.s f.size,h.v,h.ws,h.lt,h.np⟩
theorem tO.iU{f wr}{cb pb:Nat}{P g i j k hd V xs x l}(h:tO f wr cb pb P g i j k hd V xs x)(m:Below x x l):tO f wr cb pb P g i j k hd V xs l:=by obtain⟨a,b,c,d,e,p,q,hc⟩:=h.c;exact h.grown (jv (jo m) _) ⟨a,b,c,d,e,p,q,(m.B cb (JJ.1 hc).1).T hc⟩
theorem tO.drew{a wr}{cb pb:Nat}{P b c d e hd V xs x}(h:tO a wr cb pb P b c d e hd V xs x):tO a wr cb pb P b c d e hd V xs {x with drawn:=x.drawn+1}:=h.iU (Below.refl _ _).drew
theorem tO.alloc{a wr}{cb pb:Nat}{P b c d e hd V xs x}(h:tO a wr cb pb P b c d e hd V xs x)(f):tO a wr cb pb P b c d e hd V xs (x.alloc f):=h.iU (Ba _ _)
def HZ(a:World)(cb pb:Nat)(P:Nat->Prop)(b d e f hd:Value)(xs:List (List (List UInt8)))(n:Nat)(x:World):Prop:=∃(g:Option Addr) (c:Nat),tO a x cb pb P b d e f hd (.slice g n c) xs x
theorem tO.put{f wr}{cb pb:Nat}{P j k l m hd V xs x}(h:tO f wr cb pb P j k l m hd V xs x){g}{n c:Nat}{ys}(r:jx ym 248 3 P x f (.slice g n c) ys):HZ f cb pb P j k l m hd ys n (x.setCell ⟨pb,0,none⟩ (.slice g n c)):=by obtain⟨u,v,s⟩:=h.lt;obtain⟨a,b,t,d,e,p,q,hc⟩:=h.c;have i:=r.ge;have hs:=h.ws;refine⟨g,c,h.g.T (ld.set (.inr rfl)),⟨a,b,t,d,e,p,q,(J0 _ _ _ _ s).T hc⟩,iW h.p,r.grown ym.ok (jb x pb 0 _) (λz e=>by injection e with e;subst e;exact⟨h.np.2,λe=>LA ((i _ e.symm).1)⟩),JS _,λz hz=>⟨(i z hz).1,by rw[JQ];exact(i z hz).2⟩,by rw[JQ];exact h.g.size,h.lt,h.np⟩
theorem CA.iV{c w w'}{cb:Nat}{d}{e c1:Nat}{f}{g c3:Nat}{i}{j:Nat}{k l m}(h:CA c w cb d e c1 f g c3 i j k l m)(b:∀q,(c q\/q=(11:Nat))->w'.heap[q]?=w.heap[q]?)(hs:w.heap.size<=w'.heap.size):CA c w' cb d e c1 f g c3 i j k l m:=
 ⟨h.h1.iV kY.ok λq a=>b q (.inl a),h.IB,h.h3.iV (kL.ok .u8) λq a=>b q (.inl a),h.IC,h.hh.iV mB.ok λq a=>b q (.inl a),h.ID,λq a=>⟨JI (h.jY q a).1 hs,(h.jY q a).2⟩,h.rows.iV (b _ (.inr rfl)) hs,h.ne,h.gc⟩
theorem Gk{w:World}{q:Nat}{T:TypeId}{a b c:Value}(h:w.heap[q]?=some (.cells #[a,b,c] T (0,0))):(((w.setCell ⟨q,0,none⟩ a).setCell ⟨q,1,none⟩ b).setCell ⟨q,2,none⟩ c).heap[q]?=some (.cells #[a,b,c] T (0,0)):=iW (iW (iW h))
theorem H0.set{a cb B:Nat}{C d wr x}(h:H0 a cb C d B wr x)(b:cb≠a)(c:B<=a):H0 a cb C d B wr (((x.setCell ⟨a,0,none⟩ (Em)).setCell ⟨a,1,none⟩ (Em)).setCell ⟨a,2,none⟩ (.int .i64 0)):=
 ⟨ja (ja (ja h.1 c) c) c,(J0 _ _ _ _ b).T ((J0 _ _ _ _ b).T ((J0 _ _ _ _ b).T h.2.1)),Gk h.2.2⟩
structure G4(f:Fl):Prop where
 jl:H8 f.jl
 kj:H9 f.kj f.jh
 jh:f.jh.length<=3
 each:∀k c,f.jh[k]?=some c->G9 f.jl f.jh k c
theorem AY.t{f:Fl}(h:AY f):G4 f:=by
 have g:=h.b;obtain⟨q,r,s,a,b,t,j,l,m,d,e⟩:=h.ex;have n:∀(i:Nat) (c:Co),f.jh[i]?=some c->c.name=kW i:=λi c h=>by obtain⟨_,_,_,_,_,_,h,_⟩:=(e i c h).ex;exact h
 exact⟨b.t a,lQ.t m (LA g.kj) j d n,LC,λk c p=>G9.of b a LC e d.symm l p⟩
def pz(B b:Nat)(p:Value)(n:Int)(l:List UInt8)(w:World):Prop:=
 B<=b/\∃v,w.heap[b]?=some (.cells #[p,v,n] 252 (0,0))/\w.ownsRow B 5 1 v l.length (Lib.byteCells l)
def oD(B b:Nat)(n:Int)(l:List UInt8)(w:World):Prop:=pz B b (.pointer none) n l w\/pz B b (.pointer (some ⟨b,0,none⟩)) n l w
structure jq(B b:Nat)(w w':World):Prop where
 iU:Below B w w'
 iV:∀z o,w.heap[z]?=some o->z≠b->rJ o->w'.heap[z]?=some o
theorem jq.refl(B b:Nat)(w):jq B b w w:=⟨Below.refl _ _,λ_ _ h _ _=>h⟩
theorem jq.T{B b:Nat}{w w' a}(h:jq B b w w')(k:jq B b w' a):jq B b w a:=⟨h.iU.T k.iU,λz o hz c hn=>k.iV z o (h.iV z o hz c hn) c hn⟩
theorem jq.size{B b:Nat}{w w'}(h:jq B b w w'):w.heap.size<=w':=h.iU.size
theorem jq.old{B b:Nat}{w w'}(a:B<=w.heap.size)(h:Below w.heap.size w w'):jq B b w w':=⟨h.M a,λz o hz _ _=>(h.B z (JJ.1 hz).1).T hz⟩
theorem jq.drew{B b:Nat}{w w'}(h:jq B b w w'):jq B b w w'.drew:=⟨h.iU.drew,h.iV⟩
theorem rK{w:World}{B b:Nat}{v:Value}{n:Nat}{xs:List Value}{o:Obj}(c:w.ownsRow B 5 1 v n xs)(a:w.heap[b]?=some o)(hn:rJ o):v.ownBlock≠some b:=by
 rcases c.2 with⟨rfl,_⟩|⟨g,f,i,rfl,_,d,_⟩
 simp[Value.ownBlock];intro e;simp only[Value.ownBlock,Option.some.injEq]at e;subst e;rw[d]at a;injection a with a;exact hn _ _ a.symm
theorem pz.lt{B b:Nat}{p}{n:Int}{l w}(h:pz B b p n l w):b<w:=by obtain⟨_,v,h,_⟩:=h;exact(JJ.1 h).1
theorem oD.lt{B b:Nat}{n:Int}{l w}(h:oD B b n l w):b<w:=by rcases h with h|h;exact h.lt;exact h.lt
theorem pz.set{B b:Nat}{p a:Value}{n:Int}{l:List UInt8}{w:World}{i:Nat}{u:Value}{c:Array Value}(g:B<=b)(d:w.heap[b]?=some (.cells c 252 (0,0)))(hc:c.setIfInBounds i u=#[p,a,.int .i64 n])(f:w.ownsRow B 5 1 a l.length (Lib.byteCells l)):pz B b p n l (w.setCell ⟨b,i,none⟩ u):=by refine⟨g,a,?_,?_⟩;have:=iW (i:=i) (u:=u) d;rw[hc]at this;exact this;exact f.kept (row:=some b) ⟨rfl,rfl,rfl,by simp[World.setCell],λk _ j=>J0 _ _ _ _ (λe=>j (by simp[e]))⟩ (Or.inr (rK f d (jT CG)))
theorem jq.set{B b i:Nat}{w u}(a:B<=b):jq B b w (w.setCell ⟨b,i,none⟩ u):=
 ⟨(Below.refl B w).setCell (p:=⟨b,i,none⟩) a _,λz o hz c _=>(J0 _ _ _ _ c).T hz⟩
theorem pz.iV{B b:Nat}{p}{n:Int}{l w w'}(h:pz B b p n l w)(a:Below w w w'):pz B b p n l w':=by have c:=h.lt;obtain⟨d,v,e,f⟩:=h;exact⟨d,v,(a.B b c).T e,f.kept (row:=none) ⟨a.os,a.tape,a.output,a.size,λk g _=>a.B k g⟩ (by rcases hv:v.ownBlock with _|q;exact .inl rfl;exact .inr LG)⟩
theorem oD.iV{B b:Nat}{n:Int}{l w w'}(h:oD B b n l w)(a:Below w w w'):oD B b n l w':=by rcases h with h|h;exact .inl (h.iV a);exact .inr (h.iV a)
theorem oD.any{B b:Nat}{n:Int}{l w}(h:oD B b n l w):∃p,pz B b p n l w:=by rcases h with h|h;exact⟨_,h⟩;exact⟨_,h⟩
theorem sizeBuilder:(prog.info? 111).map (·.size)=some 2:=LF
theorem infoByte:(prog.info? 5).map (λi=>(i.zero,i.size,i.bytes))=some (some (.int .u8 0),1,1):=LF
theorem tH(b:Nat)(w)(c:w.cell? ⟨b,0,none⟩=some (.pointer (some ⟨b,0,none⟩))):
  Calls prog 92 #[.pointer (some ⟨b,0,none⟩)] w λe w'=>e=.returned (.tuple #[])/\w'=w:=by
 obtain⟨d,a,_⟩:=Option.map_eq_some_iff.1 sizeBuilder
 go_enter func92,ntmps92
 go_wp2;rw[Lib.run_neq_ptr_same w _ pX a];go_wp2
 go_end0
 exact⟨rfl,rfl⟩
theorem rD(b:Nat)(w)(g:w.cell? ⟨b,0,none⟩=some (.pointer none))(a:w.shape? b=some (252,3))(i:w.frozen? ⟨b,0,none⟩=false):
  Calls prog 92 #[.pointer (some ⟨b,0,none⟩)] w λe w'=>e=.returned (.tuple #[])/\w'=w.setCell ⟨b,0,none⟩ (.pointer (some ⟨b,0,none⟩)):=by
 obtain⟨j,c,d⟩:=Option.map_eq_some_iff.1 sizeBuilder
 go_enter func92,ntmps92
 go_wp2;rw[Lib.run_to_unsafe w ⟨b,0,none⟩ pX LF c (by rw[d];decide) a (by show 0<3;decide)];simp only[Result.andThen];rw[Oper.upon_value];go_wp2;rw[run_callFunc_extern (f:=135) (fn:=Tryz.f135) LF LF LF LF (e:=Extern.AbiNoEscape.same) LF];rw[Lib.run_noEscape];simp only[Result.andThen];rw[Oper.upon_value];go_wp2;rw[Lib.run_from_unsafe w ⟨b,0,none⟩ LF pX c a liesBuilder];simp only[Result.andThen];rw[Oper.upon_value];go_wp2
 go_end0
 exact⟨rfl,rfl⟩
theorem pI(B b:Nat)(n:Int)(l w)(h:oD B b n l w):Calls prog 92 #[.pointer (some ⟨b,0,none⟩)] w λe w'=>e=.returned (.tuple #[])/\pz B b (.pointer (some ⟨b,0,none⟩)) n l w'/\jq B b w w':=by rcases h with⟨c,v,a,d⟩|h;refine(rD b w (iT a 0 _ rfl) (by simp[World.shape?,a]) (iY a 0)).M ?_;rintro e w' ⟨rfl,rfl⟩;exact⟨rfl,pz.set c a rfl d,jq.set c⟩;obtain⟨c,v,a,d⟩:=h;refine(tH b w (iT a 0 _ rfl)).M ?_;rintro e w' ⟨rfl,rfl⟩;exact⟨rfl,⟨c,v,a,d⟩,jq.refl _ _ _⟩
theorem jq.grown{B b:Nat}{w w' v}{n:Nat}{xs}(a:w.ownsRow B 5 1 v n xs)(c:w.grownBy w' v.ownBlock)(d:B<=w.heap.size):jq B b w w':=
 ⟨(Below.refl B w).grown c d (λk f=>(a.lt k f).1),λz o hz _ hn=>(c.B z (JJ.1 hz).1 (λe=>rK a hz hn e.symm)).T hz⟩
theorem oy(B b:Nat)(n:Int)(l s w)(h:oD B b n l w)(K:l.length+s.length<=140737488355328)(L:B<=w):
  Calls prog 44 #[.pointer (some ⟨b,0,none⟩),tx s] w λe w'=>∃r,e=.returned r/\(∃q,r=.tuple #[q,.nilIface])/\oD B b n (l++s) w'/\jq B b w w':=by
 obtain⟨y,hi,hz0,z,A⟩:=Kl infoByte
 go_enter func44,ntmps44
 go_wp2_with fail;refine(pI B b n l w h).M ?_;rintro e C ⟨rfl,D,j⟩;obtain⟨k,v,a,d⟩:=D;have m:(⟨s.toArray⟩:ByteArray).size=s.length:=by simp[ByteArray.size]
 have M:=iT a 0 _ rfl;have c1:=iT a 1 _ rfl;have E:=rK d a (jT CG);have N:=j.size;go_wp2_with (at_builtin;refine Lib.wpList_append_own_string _ rfl _ _ 22 9 rfl B 5 y underlying22 underlying9 hi hz0 z A _ _ _ rfl d ⟨s.toArray⟩ rfl ?c3 ?c4 ?c5 ?_);case c3=>rw[m];unfold maxLen;omega
 case c4=>rw[m];omega
 case c5=>omega
 intro p F t u _;have G:=jq.grown (b:=b) d u LC;have I:b<C:=(JJ.1 a).1;have c:=(u.B b I (λe=>E e.symm)).T a;have O:=iT c 0 _ rfl;have P:=iT c 1 _ rfl;have Q:=iY c 1;have J:F.ownsRow B 5 1 p (l++s).length (Lib.byteCells (l++s)):=by rw[Lib.byteCells_append,JU];exact t
 obtain⟨x,n',f,rfl⟩:∃x n' f,p=.slice x n' f:=by
  rcases t.2 with⟨i,_⟩|⟨g,f,R,i,_⟩
  exact⟨_,_,_,i⟩;exact⟨_,_,_,i⟩
 go_wp2
 go_ret2
 exact⟨_,rfl,⟨_,rfl⟩,.inr (pz.set k c rfl J),(j.T G).T (jq.set k)⟩
theorem ua(B b:Nat)(n:Int)(l)(c:UInt8)(w)(h:oD B b n l w)(J:l.length+1<=140737488355328)(K:B<=w):
  Calls prog 174 #[.pointer (some ⟨b,0,none⟩),.int .u8 (c.toNat:Int)] w λe w'=>e=.returned .nilIface/\oD B b n (l++[c]) w'/\jq B b w w':=by
 obtain⟨t,hi,hz0,x,y⟩:=Kl infoByte
 go_enter func174,ntmps174
 go_wp2_with fail;refine(pI B b n l w h).M ?_;rintro e a ⟨rfl,z,m⟩;obtain⟨p,v,d,k⟩:=z;have L:=iT d 0 _ rfl;have c1:=iT d 1 _ rfl;have A:=rK k d (jT CG);have M:=m.size;have N:=Lib.byteCells_length l;go_wp2_with (at_builtin;refine wpList_append_own _ rfl _ _ 22 rfl B 5 t (.int .u8 0) 1 1 underlying22 hi hz0 x y rfl LD _ _ _ rfl (k.alloc _) ⟨a,0,none⟩ 1 1 [.int .u8 (c.toNat:Int)] rfl rfl ?c1 ?c2 ?c3 ?c4 ?c5 ?_);case c1=>
  intro C u f
  match C,f with
  |0,f=>simp at f;subst f;simp[Addr.add]
 case c2=>intro u hu;simp at hu;subst hu;rfl
 case c3=>unfold maxLen;omega
 case c4=>omega
 case c5=>simp;omega
 intro q D r s _;have E:b<a:=(JJ.1 d).1;have i:=(s.B b LJ (λe=>A e.symm)).T ((Lib.alloc_old a _ b E).T d);have F:=(jq.old (b:=b) (show B<=a from LC) (Ba a (.cells #[.int .u8 (c.toNat:Int)] 5))).T (jq.grown (b:=b) (k.alloc _) s LJ);have O:=iT i 0 _ rfl;have P:=iT i 1 _ rfl;have Q:=iY i 1;have G:D.ownsRow B 5 1 q (l++[c]).length (Lib.byteCells (l++[c])):=by rw[Lib.byteCells_append,JU];exact r
 obtain⟨g,j,rfl⟩:∃g j,q=.slice (some ⟨g,0,none⟩) (l.length+1) j:=by
  rcases r.2 with⟨_,R⟩|⟨g,j,S,I,_⟩
  omega;exact⟨g,j,I⟩
 go_wp2;go_ret;exact⟨rfl,.inr (pz.set p i rfl G),(m.T F).T (jq.set p)⟩
def lF(B b:Nat)(n:Int)(k:Nat)(w:World):Prop:=∃l:List UInt8,oD B b n l w/\l.length<=k*200000
theorem Ad.eq{c}{B b:Nat}{w w'}(h:Ad c B b w)(k:jq B b w w'):∀q,c q->w'.heap[q]?=w.heap[q]?:=λq d=>by obtain⟨_,e,a|⟨o,a,f⟩⟩:=h q d;exact k.iU.B q a;rw[k.iV q o a e f,a]
theorem Ad.to{c}{B b:Nat}{w w'}(h:Ad c B b w)(k:jq B b w w'):Ad c B b w':=λq f=>by obtain⟨g,d,a⟩:=h q f;refine⟨JI g k.size,d,a.imp id λ⟨o,a,e⟩=>⟨o,k.iV q o a d e,e⟩⟩
theorem Ad.lt{a}{B b:Nat}{w}(h:Ad a B b w):∀q,a q->q<w:=λq c=>(h q c).1
theorem lF.lt{B b k:Nat}{n:Int}{w}(h:lF B b n k w):B<=b/\b<w:=by obtain⟨l,h,_⟩:=h;obtain⟨p,hp⟩:=h.any;exact⟨hp.1,hp.lt⟩
theorem lF.cell{B b k:Nat}{n:Int}{w}(h:lF B b n k w):w.cell? ⟨b,2,none⟩=some (.int .i64 n)/\w.frozen? ⟨b,2,none⟩=false:=by obtain⟨l,h,_⟩:=h;obtain⟨p,_,v,a,_⟩:=h.any;exact⟨iT a 2 _ rfl,iY a 2⟩
theorem lF.iV{B b k:Nat}{n:Int}{w w'}(h:lF B b n k w)(a:Below w w w'):lF B b n k w':=by obtain⟨l,h,c⟩:=h;exact⟨l,h.iV a,c⟩
theorem lF.up{B b k m:Nat}{n:Int}{w}(h:lF B b n k w)(hm:k<=m):lF B b n m w:=by obtain⟨l,h,a⟩:=h;exact⟨l,h,J9 a (KU _ hm)⟩
theorem Dk(C)(B b n k:Nat)(w0 D)(m c:Nat)(xs)(w:lF B b (n:Int) k w0)(hx:jc jk C w0 (.slice D m c) xs)(hS:Ad C B b w0)(hn:n<=100)(Y:k<=100000000)(hm:m<=9)(E:∀x∈xs,x.length<=20000):
  Calls prog 112 #[.pointer (some ⟨b,0,none⟩),.slice D m c] w0 λe w'=>e=.returned (.tuple #[])/\lF B b (n:Int) (k+1) w'/\jq B b w0 w':=by
 have Z:=w.lt;have M:=w.cell.1;have N:=JH hx.len;have aa:=hx.len.2;have O:=JH hx;have F:=JH hS;have P:=JH E;obtain⟨l,hw,ab⟩:=w;have Q:=JH hw;clear hw hx hS E
 go_enter func112,ntmps112
 go_wp2_with fail;go_loopw [10] (λi wr=>∃(a:Nat) (d:List UInt8),a<=n/\i=a/\oD B b (n:Int) d wr/\d.length=l.length+2*a/\jq B b w0 wr) (λi _=>n-(intOf i).toNat);case atStart=>exact⟨0,l,JV _,rfl,Q.o,rfl,jq.refl _ _ _⟩
 case round=>
  clear M;obtain⟨a,d,ac,rfl,G,ad,y⟩:=hrel;have I:=JH G;have u:=JH y;have ae:=y.size;clear G y;by_cases af:a<n
  .have R:(0:Int)<=(a:Int):=LC;have S:(a:Int)<(n:Int):=LC;go_wp2_with fail;refine(oy B b (n:Int) d [32,32] wr I.o LJ LC).M ?_;rintro e J ⟨r,rfl,⟨q,rfl⟩,g,f⟩;have v:=JH g;have j:=JH f;clear g f;go_wp2_with fail;go_roundw;case rel=>exact⟨a+1,_,LC,LI,v.o,LJ,u.o.T j.o⟩
   case measure=>simp[intOf];omega
  obtain rfl:n=a:=LC;go_wp2_with fail;have T:=JH (F.o.to u.o);have U:=JH (O.o.iV jk.ok (F.o.eq u.o));obtain⟨V,rfl⟩:=Xq wr;go_loopw [19] (λi wr=>∃(a:Nat) (p:List UInt8),a<=m/\i=a/\oD B b (n:Int) p wr/\p.length<=d.length+20000*a/\jq B b V wr) (λi _=>m-(intOf i).toNat);case atStart=>exact⟨0,d,JV _,rfl,I.o,JS _,jq.refl _ _ _⟩
  case round=>
   obtain⟨a,p,ag,rfl,g,ah,f⟩:=hrel;have v:=JH g;have j:=JH f;have ai:=f.size;clear g f;by_cases aj:a<m
   .obtain⟨x,hx⟩:∃x,xs[a]?=some x:=Gx (LA N.o.1);obtain⟨ak,al,r,rfl,W,hr,K⟩:=(U.o.iV jk.ok (T.o.eq j.o)).jr jk.ok a x hx;have X:r=[tx x]:=hr;subst X;have L:=K 0 _ rfl;rw[JT,Kk]at L;have am:=P.o x (JM hx);have R:(0:Int)<=(a:Int):=LC;have S:(a:Int)<(m:Int):=LC;clear hr K W hx;go_wp2_with fail;refine(oy B b (n:Int) p x wr v.o LC LC).M ?_;rintro e J ⟨r,rfl,⟨q,rfl⟩,s,t⟩;have z:=JH s;have A:=JH t;clear s t L;go_wp2_with fail;go_roundw;case rel=>exact⟨a+1,_,LC,LI,z.o,by rw[JU];omega,j.o.T A.o⟩
    case measure=>simp[intOf];omega
   obtain rfl:m=a:=LC;go_wp2_with fail;refine(ua B b (n:Int) p 10 wr v.o LC LC).M ?_;rintro e J ⟨rfl,s,t⟩;have z:=JH s;have A:=JH t;clear s t;go_wp2_with fail
   go_end0
   exact⟨rfl,⟨_,z.o,by rw[JU];simp;omega⟩,u.o.T (j.o.T A.o)⟩
def mN(B:Nat)(w:World)(e:Ending)(w':World):Prop:=∃s:ByteArray,e=.returned (.string s)/\s.size<=B/\Below w w w'
theorem zg:∀k x,shapes[k]?=some x->((k=6\/k=7\/k=9\/k=10)->x.1=1)/\((k≠1/\k≠5/\k≠6/\k≠7/\k≠8/\k≠9/\k≠10)->x.1=0\/x.1=2):=by
 intro k x h;have a:=(J6.1 h).1;rw[sI]at a;have b:∀k:Fin 24,∀x,shapes[k.val]?=some x->((k.val=6\/k.val=7\/k.val=9\/k.val=10)->x.1=1)/\((k.val≠1/\k.val≠5/\k.val≠6/\k.val≠7/\k.val≠8/\k.val≠9/\k.val≠10)->x.1=0\/x.1=2):=by intro k x hx;have c:∀k:Fin 24,((k.val=6\/k.val=7\/k.val=9\/k.val=10)->(shapes[k.val]?.map (·.1))=some 1)/\((k.val≠1/\k.val≠5/\k.val≠6/\k.val≠7/\k.val≠8/\k.val≠9/\k.val≠10)->(shapes[k.val]?.map (·.1))=some 0\/(shapes[k.val]?.map (·.1))=some 2):=LD;have:=c k;rw[hx]at this;simpa using this
 exact b ⟨k,a⟩ x h
theorem vG(i:Nat)(h:i<100):(⟨(Lib.decDigits i).toArray⟩:ByteArray).size<=20:=by
 have a:∀i:Fin 100,(Lib.decDigits i.val).length<=20:=LM
 have:=a ⟨i,h⟩;simpa[ByteArray.size]using this
theorem lz(l:List UInt8):(⟨l.toArray⟩:ByteArray).size=l.length:=by simp[ByteArray.size]
theorem pA(c):(⟨#[c]⟩:ByteArray).size=1:=rfl
def mO(B b:Nat)(n:Int)(k:Nat)(w:World)(e:Ending)(w':World):Prop:=e=.returned (.tuple #[])/\lF B b n k w'/\jq B b w w'
theorem jV.wr{B b:Nat}{w w'}(h:jV w)(a:jq B b w w')(c:FH B):jV w':=h.iU a.iU c
def pB(w:World)(b n:Nat):Prop:=∃a:List ByteArray,a.length=n/\(∀s∈a,s.size<=2520)/\w.heap[b]?=some (.cells (a.map Value.string).toArray 9 (0,0))
theorem pB.lt{w}{b n:Nat}(h:pB w b n):b<w:=by obtain⟨_,_,_,h⟩:=h;exact(JJ.1 h).1
theorem pB.iV{w w'}{b n:Nat}(h:pB w b n)(a:w'.heap[b]?=w.heap[b]?):pB w' b n:=by obtain⟨c,d,e,f⟩:=h;exact⟨c,d,e,a.T f⟩
theorem pB.set{w}{b n:Nat}(h:pB w b n)(i:Nat){s}(hs:s.size<=2520):pB (w.setCell ⟨b,i,none⟩ (.string s)) b n:=by obtain⟨a,c,d,e⟩:=h;refine⟨a.set i s,by simpa using c,λx hx=>?_,?_⟩;rcases List.mem_or_eq_of_mem_set hx with h|h;exact d x h;rw[h];exact hs;have:=iW (i:=i) (u:=.string s) e;rw[this];simp[List.map_set]
theorem BC(n:Nat)(hn:n<=1000)(w):(Instr.makeSlice 126 (.int .i64 (n:Int)) (.int .i64 (n:Int))).run prog w=.ok (.slice (some ⟨w,0,none⟩) n n) (w.alloc (.cells (madeCells #[Em] n) 9)):=by obtain⟨b,c,d,a,e⟩:=Kl qi;have:=KZ (P:=prog) w 126 9 b _ underlying126 c d .i64 .i64 (n:Int) (n:Int) LC (K9 _) (by rw[a];simp;omega) (by rw[e];omega) LC;rw[a,Kk,Kw]at this;exact this
theorem pB.made{w}{b n:Nat}(h:w.heap[b]?=some (.cells (madeCells #[Em] n) 9 (0,0))):pB w b n:=by
 refine⟨List.replicate n ⟨#[]⟩,LG,λs hs=>by rw[List.eq_of_mem_replicate hs];decide,?_⟩;rw[h];have e:madeCells #[Value.string ⟨#[]⟩] n=((List.replicate n (⟨#[]⟩:ByteArray)).map Value.string).toArray:=by apply Array.ext';rw[List.map_replicate];refine List.eq_replicate_iff.2 ⟨by rw[K1,Lj],λu hu=>?_⟩;have:=sr _ n LG u hu;simpa using this
 rw[e]
theorem Fx{a b:Type}(f:a->b):∀l:List a,(l.map λx=>[f x]).flatten=l.map f
 |[]=>rfl
 |_::l=>by simp[Fx f l]
theorem Gl{w:World}{b:Nat}{a:List ByteArray}(h:w.heap[b]?=some (.cells (a.map Value.string).toArray 9 (0,0)))(hn:a.length<=9):jc jk (λq=>q=b) w (.slice (some ⟨b,0,none⟩) a.length a.length) (a.map λs=>s.data.toList):=by
 refine⟨some ⟨b,0,none⟩,a.length,a.map λs=>[Value.string s],by rw[Kt],by rw[Kt];exact JS _,LC,λ_=>⟨b,0,rfl,rfl,λc u hu=>?_⟩,?_⟩;rw[J4];refine iT h c u ?_;rw[Fx]at hu;simpa using hu;clear h hn;induction a with
 |nil=>exact trivial
 |cons s a d=>exact⟨rfl,d⟩
theorem uD(B b n k:Nat)(w:World)(c:Nat)(a:List ByteArray)(d:lF B b (n:Int) k w)(h:w.heap[c]?=some (.cells (a.map Value.string).toArray 9 (0,0)))(e:c≠b)(hn:n<=100)(f:k<=100000000)(hm:a.length<=9)(hs:∀s∈a,s.size<=20000):
  Calls prog 112 #[.pointer (some ⟨b,0,none⟩),.slice (some ⟨c,0,none⟩) a.length a.length] w (mO B b (n:Int) (k+1) w):=
 Dk (λq=>q=c) B b n k w _ _ _ _ d (Gl h hm) (λq g=>by subst g;exact⟨(JJ.1 h).1,e,.inr ⟨_,h,jT LD⟩⟩) hn f hm (λx hx=>by obtain⟨s,i,rfl⟩:=Ld.1 hx;exact hs s i)
theorem jq.alloc{B b:Nat}{w}(a:B<=w.heap.size)(o):jq B b w (w.alloc o):=.old a (Ba _ _)
theorem kx(B b n k:Nat)(w:World)(a:List ByteArray)(c:lF B b (n:Int) k w)(hn:n<=100)(d:k<=100000000)(hm:a.length<=9)(hs:∀s∈a,s.size<=20000):
  Calls prog 112 #[.pointer (some ⟨b,0,none⟩),.slice (some ⟨w,0,none⟩) a.length a.length] (w.alloc (.cells (a.map Value.string).toArray 9)) (mO B b (n:Int) (k+1) w):=
 (uD B b n k _ w a (c.iV (Ba _ _)) (JK _ _) (LA c.lt) hn d hm hs).M λe w' h=>⟨h.1,h.2.1,(jq.alloc (LA c.lt) _).T h.2.2⟩
theorem EM(l)(m:Nat)(h:∀x∈l,x.length<=m):Lib.lens l<=m*l.length:=by
 induction l with
 |nil=>simp[Lib.lens]
 |cons x l a=>have b:=a λc hy=>h c (Lr _ hy);have d:=h x (KY ..);simp only[Lib.lens,Ks,List.sum_cons,Kb]at b⊢;rw[Nat.mul_succ];omega
theorem join_le(l)(h:∀x∈l,x.length<=2520)(a:l.length<=5):(Lib.join l [44,32]).length<=12700:=by
 cases l with
 |nil=>simp[Lib.join_nil]
 |cons x l=>rw[Lib.join_length];have b:=EM (x::l) 2520 h;simp only[Kb,Kc]at*;omega
theorem wZ(w)(b n o:Nat)(h:pB w b n)(hn:n<=5)(m:o<n):Calls prog 54 #[.slice (some ⟨b,o,none⟩) (n-o) (n-o),.string ⟨#[44,32]⟩] w (mN 12700 w):=by
 have d:=h.lt;obtain⟨a,f,g,i⟩:=h;have j:(Lib.join ((a.drop o).map (·.data.toList)) (⟨#[44,32]⟩:ByteArray).data.toList).length<=12700:=join_le _ (λx hx=>by obtain⟨s,hs,rfl⟩:=Ld.1 hx;exact g s (List.mem_of_mem_drop hs)) LJ
 have:=Tryz.strings_Join b o (n-o) (a.drop o) ⟨#[44,32]⟩ w (λk x c=>iT i (o+k) _ (by rw[Lm]at c;simp[c])) d LJ LJ LC;rw[List.length_drop,f]at this;refine this.M ?_;rintro e w' ⟨he,l⟩;exact⟨_,he,by simpa[ByteArray.size]using j,l⟩
theorem join_none(w a)(c:Nat):Calls prog 54 #[.slice a 0 c,.string ⟨#[44,32]⟩] w (mN 12700 w):=by refine(Tryz.strings_Join_none a c _ w).M ?_;rintro e w' ⟨he,rfl⟩;exact⟨_,he,LD,Below.refl _ _⟩
theorem BD(w)(b n:Nat)(h:pB w b n)(hn:n<=5):Calls prog 54 #[.slice (some ⟨b,0,none⟩) n n,.string ⟨#[44,32]⟩] w (mN 12700 w):=by rcases K7 n with rfl|a;exact join_none w _ _;exact wZ w b n 0 h hn a
theorem mO.up{B b k k':Nat}{n:Int}{w e w'}(h:mO B b n k w e w')(a:k<=k'):mO B b n k' w e w':=⟨h.1,h.2.1.up a,h.2.2⟩
theorem zh(w a)(c m:Nat)(hm:m=0):Calls prog 54 #[.slice a m c,.string ⟨#[44,32]⟩] w (mN 12700 w):=by subst hm;exact join_none w a c
theorem mP(B b n k m:Nat)(w:World)(a:Nat)(c:List ByteArray)(d:c.length=m)(e:lF B b (n:Int) k w)(h:w.heap[a]?=some (.cells (c.map Value.string).toArray 9 (0,0)))(f:a≠b)(hn:n<=100)(g:k<=100000000)(hm:m<=9)(hs:∀s∈c,s.size<=20000):
  Calls prog 112 #[.pointer (some ⟨b,0,none⟩),.slice (some ⟨a,0,none⟩) m m] w (mO B b (n:Int) (k+1) w):=by
 subst d;exact uD B b n k w a c e h f hn g hm hs
theorem kB.args{d:Nat}{e}(h:kB (d+1) e):e.args.length<=2/\∀a∈e.args,kB d a:=by
 obtain⟨⟨x,_,hx,b,_⟩,c⟩:=h;refine⟨?_,c⟩;rw[b];have:∀x∈shapes,x.1<=2:=LD
 exact this x (JM hx)
structure vn(d:Nat)(w1:World)(b1:Nat)(c0 c1 c2 o3 o4 o5:Value)(s:St)(l1 l2 l3:Bool)(x:World):Prop where
 g:ld (λq=>q=b1) w1 x
 l:b1<w1
 r:∃a b c:Value,x.heap[b1]?=some (.cells #[c0,c1,c2,a,b,c] 270 (0,0))/\(l1=false->a=o3)/\(l1=true->jc (ki .u8 De) (Nw w1 x) x a s.jy)/\(l2=false->b=o4)/\(l2=true->jc (jH .u8 d) (Nw w1 x) x b s.th)/\(l3=false->c=o5)/\(l3=true->jc (jH .u8 d) (Nw w1 x) x c s.el)
theorem vn.iU{d:Nat}{e}{f:Nat}{j c1 c2 k l m s n p r x g}(h:vn d e f j c1 c2 k l m s n p r x)(i:Below x x g):vn d e f j c1 c2 k l m s n p r g:=by obtain⟨a,b,c,hx,t,u,v,w,y,z⟩:=h.r;have hn:NK e x g:=.iU i;exact⟨h.g.T (ld.of i),h.l,a,b,c,(i.B f (JJ.1 hx).1).T hx,t,λq=>mF (ki.ok .u8 De) hn (u q),v,λq=>mF (jH.ok .u8 d) hn (w q),y,λq=>mF (jH.ok .u8 d) hn (z q)⟩
theorem vn.jY{d:Nat}{a:World}{b:Nat}{g c1 c2 i j k:Value}{s:St}{l m n:Bool}{x:World}(h:vn d a b g c1 c2 i j k s l m n x){c:Nat->Prop}(hS:∀q,c q->q<b):∀q,c q->x.heap[q]?=a.heap[q]?:=
 λq f=>h.g.B q (Nat.lt_trans (hS q f) h.l) (λe=>LA (hS q f))
structure yg(w1:World)(b1:Nat)(c0 o1 o2 o3:Value)(f:Fl)(l1 l2:Bool)(x:World):Prop where
 g:ld (λq=>q=b1) w1 x
 l:b1<w1
 r:∃a b:Value,x.heap[b1]?=some (.cells #[c0,a,b,o3] 84 (0,0))/\(l1=false->a=o1)/\(l1=true->jc kY (Nw w1 x) x a f.jl)/\(l2=false->b=o2)/\(l2=true->jc nr (Nw w1 x) x b f.kj)
theorem yg.iU{c}{d:Nat}{i j k l f m n x e}(h:yg c d i j k l f m n x)(g:Below x x e):yg c d i j k l f m n e:=by obtain⟨a,b,hx,p,r,s,t⟩:=h.r;have hn:NK c x e:=.iU g;exact⟨h.g.T (ld.of g),h.l,a,b,(g.B d (JJ.1 hx).1).T hx,p,λq=>mF kY.ok hn (r q),s,λq=>mF nr.ok hn (t q)⟩
theorem yg.jY{a:World}{b:Nat}{g i j k:Value}{f:Fl}{l m:Bool}{x:World}(h:yg a b g i j k f l m x){c:Nat->Prop}(hS:∀q,c q->q<b):∀q,c q->x.heap[q]?=a.heap[q]?:=
 λq d=>h.g.B q (Nat.lt_trans (hS q d) h.l) (λe=>LA (hS q d))
def kp(T:TypeId)(w:World)(b n:Nat):Prop:=∃a:Array Value,w.heap[b]?=some (.cells a T (0,0))/\a.size=n/\lT .u32 a 0 n
def kI(w:World)(b:Nat):Prop:=∃a:Array Value,w.heap[b]?=some (.cells a 330 (0,0))/\a.size=73/\lT .u32 a 0 8/\lT .u8 a 8 64/\∃t:Int,a[72]?=some (.int .u64 t)/\0<=t
def mC(T:TypeId)(w:World)(b n:Nat):Prop:=∃a:Array Value,w.heap[b]?=some (.cells a T (0,0))/\a.size=n/\lT .u8 a 0 n
theorem mC.zero{T w}{b:Nat}(h:w.heap[b]?=some (.cells pC T (0,0))):mC T w b 32:=by rw[zero32]at h;exact⟨_,h,LG,λi hi=>⟨0,by simp[hi]⟩⟩
end Go.Proofs.YtidmdcckbdmblaaGreatDoor
namespace jJ
open Go.Proofs.YtidmdcckbdmblaaGreatDoor
theorem mo.em{sc n}(uf:sc.ints<=3/\sc.params<=2)(hf:sc.jl<=2)(p:∀l∈sc.pP,∀a∈l,a<=2)(u:∀i,i<sc.pP.length->∃x∈n,x.name=kW i):∀{d:Nat} {s:St},mo sc d s->yl n d s
 |0,_,h=>h.elim
 |d+1,s,h=>by
  have z:=h.sub;have m:∀e,kG sc De e->kB De e:=λe he=>kG.pw uf he;have v:∀e,mf sc De e->kB De e:=λe he=>mf.pw uf hf he;have j:(1<=s.kind/\s.kind<=10)->s.jy.length<=5->(∀e∈s.jy,kB De e)->(s.kind=6->∃x∈n,x.name=s.name)->yl n (d+1) s:=λa b c e=>⟨a,b,c,e,λx hx=>mo.em uf hf p u (z.1 x hx),λx hx=>mo.em uf hf p u (z.2 x hx)⟩
  rcases h with⟨k,_,_,_,e,hx,h⟩|⟨k,_,_,_,_,_,a,b,hx,f,w⟩|⟨k,_,_,_,_,_,a,hx,f⟩|⟨k,_,_,⟨a,hx,f⟩,_,_⟩|⟨k,_,_,_,⟨a,hx,f⟩,_⟩|⟨k,_,_,⟨t,l,q,a,r,y,hn,_,A⟩,hx⟩|⟨k,_,_,_,⟨l,q,a,r,y,_,A⟩,hx⟩|⟨k,_,_,_,⟨a,b,hx,f,w⟩,_⟩|⟨k,_,_,_,⟨a,hx,f⟩,_⟩|⟨k,_,_,_,_,hx⟩
  refine j LC (by rw[hx];simp) (λg hy=>?_) (λe=>LC);rw[hx]at hy;simp at hy;subst hy;rcases h with⟨_,_,_,h⟩|⟨_,h⟩
  exact m _ h;exact v _ h;exact j LC (by rw[hx];simp) (λg hy=>by rw[hx]at hy;simp at hy;rcases hy with rfl|rfl;exact m _ f;exact m _ w) (λe=>LC);exact j LC (by rw[hx];simp) (λg hy=>by rw[hx]at hy;simp at hy;subst hy;exact m _ f) (λe=>LC);exact j LC (by rw[hx];simp) (λg hy=>by rw[hx]at hy;simp at hy;subst hy;exact v _ f) (λe=>LC);exact j LC (by rw[hx];simp) (λg hy=>by rw[hx]at hy;simp at hy;subst hy;exact v _ f) (λe=>LC);exact j LC (LA (p l (List.mem_of_getElem? r) a (List.mem_of_getElem? y))) (λg hy=>m _ (hx g hy)) (λ_=>by rw[hn];exact u t (List.getElem?_eq_some_iff.1 r).1);exact j LC (LA (p l (List.mem_of_getElem? r) a (List.mem_of_getElem? y))) (λg hy=>m _ (hx g hy)) (λe=>LC);exact j LC (by rw[hx];simp) (λg hy=>by rw[hx]at hy;simp at hy;rcases hy with rfl|rfl;exact m _ f;exact m _ w) (λe=>LC);exact j LC (by rw[hx];simp) (λg hy=>by rw[hx]at hy;simp at hy;subst hy;exact m _ f) (λe=>LC);exact j LC (by rw[hx];simp) (λg hy=>by rw[hx]at hy;simp at hy) (λe=>LC)
def jM(f:Fl):List (List (List UInt8)):=f.jh.map λc=>jL [] c.jG
abbrev Ha(f:Fl):Prop:=∀x∈f.jh,x.vars.length<=50/\x.jG.length<=4/\∀hs∈x.jG,hs.length<=100/\∀h∈hs,h.params.length<=1000/\jw Ds h.body<=12/\∀s∈h.body,yl f.jh Ds s
theorem AY.gc{f}(h:AY f)(q:kr f):Ha f:=by
 intro x hx;have b:=q.jh x hx;refine⟨LA b.yq,LA b.v2,λhs c=>⟨LA ((b.jG hs c).1),λg hy=>?_⟩⟩;have j:=(b.jG hs c).2 g hy;refine⟨LA j.Cx,j.cnt,λs r=>?_⟩;obtain⟨t,m,_,u,_,N,O,n,_,P,p⟩:=h.ex;obtain⟨i,hi,e⟩:=List.getElem_of_mem hx;have v:f.jh[i]?=some x:=by rw[List.getElem?_eq_getElem hi,e]
 obtain⟨ints,w,y,Q,A,R,hn,_,_,_,B,C,_⟩:=(p i x v).ex;obtain⟨_,_,D⟩:=C hs c;obtain⟨k,E,F⟩:=List.getElem_of_mem hy;obtain⟨a,G,_,_,I,_⟩:=D k g (by rw[List.getElem?_eq_getElem E,F]);have J:a<=2:=(n y (List.mem_of_getElem? B)).2.2 a (List.mem_of_getElem? G);exact mo.em (sc:={Hh t ints w m i with params:=a}) ⟨A,J⟩ u (λl K=>(n l K).2.2) (λd L=>by obtain⟨z,hz⟩:∃z,f.jh[d]?=some z:=Gx (by have:d<m.length:=L;omega);obtain⟨_,_,_,_,_,_,M,_⟩:=(p d z hz).ex;exact⟨z,List.mem_of_getElem? hz,M⟩) (I s r)
end jJ
namespace jJ
def FE:Nat->Ex->Prop
 |0,_=>False
 |d+1,e=>(e.op=1->0<=e.n/\e.n<100)/\∀a∈e.args,FE d a
def TB:Nat->Nat
 |0=>0
 |d+1=>2*TB d+40
theorem Ay:∀{d d':Nat},d<=d'->TB d<=TB d'
 |0,_,_=>Nat.zero_le _
 |d+1,0,h=>by omega
 |d+1,d'+1,h=>by have:=Ay (d:=d) (d':=d') LC;unfold TB;omega
theorem CH{d:Nat}(h:d<=6):TB d<=2520:=Ay h
def Cs:Nat->St->Prop
 |0,_=>False
 |d+1,s=>(∀e∈s.jy,FE De e)/\(∀x∈s.th,Cs d x)/\∀x∈s.el,Cs d x
def tK:Nat->Nat
 |0=>0
 |d+1=>12*(3+2*tK d)
end jJ
namespace Go.Proofs.YtidmdcckbdmblaaGreatDoor
open Go.RowKit jJ Go.Proofs.Tryz
def H2(d:Nat):Prop:=∀(a:Nat->Prop) (w:World) (e:Ex) (f:Nat) (b:Option Addr) (m c:Nat),jV w->jc (ki .u8 f) a w (.slice b m c) e.args->kB d e->FE d e->(∀q,a q->q<w)->
 Calls prog 301 #[.agg #[.int .u8 e.op,tx e.name,e.n,.slice b m c]] w (mN (TB d) w)
def Ji(d:Nat):Prop:=∀(a:Nat->Prop) (w:World) (e:Ex) (f:Nat) (b:Option Addr) (m c:Nat) (z:Int),jV w->jc (ki .u8 f) a w (.slice b m c) e.args->kB d e->FE d e->(∀q,a q->q<w)->
 Calls prog 313 #[.agg #[.int .u8 e.op,tx e.name,e.n,.slice b m c],z] w (mN (TB d+2) w)
theorem vy{j w}{l d:Nat}{n}{m c:Nat}{args}(h:jc (ki .u8 l) j w (.slice n m c) args)(s:∀a∈args,kB d a)(hs:∀a∈args,FE d a){i:Nat}(hi:i<args.length):
  ∃b o e k f p g,n=some ⟨b,o,none⟩/\j b/\jc (ki .u8 k) j w (.slice f p g) e.args/\kB d e/\FE d e/\
   w.cell? ⟨b,o+i*4,none⟩=some (.int .u8 e.op)/\w.cell? ⟨b,o+i*4+1,none⟩=some (tx e.name)/\w.cell? ⟨b,o+i*4+2,none⟩=some (.int .i64 e.n)/\w.cell? ⟨b,o+i*4+3,none⟩=some (.slice f p g):=by
 obtain⟨b,o,r,t,u,hr,hc⟩:=h.jr (ki.ok .u8 l) i args[i] (JW hi);obtain⟨k,v,rfl,rfl,q⟩:=hr.open;obtain⟨f,g,rfl,_⟩:=q.form;exact⟨b,o,args[i],k,f,_,g,t,u,q,s _ (List.getElem_mem hi),hs _ (List.getElem_mem hi),hc 0 _ rfl,hc 1 _ rfl,hc 2 _ rfl,hc 3 _ rfl⟩
theorem uC(d:Nat)(dA:d<=6)(bN:∀d',d=d'+1->Ji d'/\H2 d'):H2 d:=by
 intro A w e dB aS m c hL b bO hm hS;obtain⟨d',rfl⟩:∃d',d=d'+1:=by cases d with|zero=>exact bO.elim|succ d'=>exact⟨d',rfl⟩
 obtain⟨ck,cl⟩:=bN d' rfl;obtain⟨⟨x,dC,hx,bh,bP,bQ,_,_⟩,bR⟩:=bO;obtain⟨bi,bS⟩:=hm;have bT:e.name.length<=12:=by cases n:x.2.1 with|true=>have aT:=bP n;unfold lf at aT;simp only[KO,Lp]at aT;omega|false=>rw[bQ n];simp
 have bU:=vR x (JM hx);obtain⟨k,bV⟩:∃k:Nat,k=e.op.toNat:=⟨_,rfl⟩
 have bW:e.op=(k:Int):=LC
 rw[<-bV]at hx;have cm:1<=k:=LC
 obtain⟨bj,bk⟩:=zg k x hx;have bl:m=x.1:=LA b.len.1
 have bX:=hL;have cn:=JH hx;have co:=b;have bY:=hS;have aU:=bR;have aV:=bS;have an:=ck;have bZ:=cl;have ca:k=1->∃i:Nat,i<100/\e.n=(i:Int):=λh=>by obtain⟨cb,dD⟩:=bi LC;exact⟨e.n.toNat,LC,LC⟩
 have cp:=JH bh;obtain⟨nm,bm⟩:=Xq e.name;obtain⟨aW,bn⟩:=Xq e.n;rw[bW,<-bm,<-bn];rw[<-bm]at bT;rw[<-bn]at ca;obtain⟨ao,aX,E,ap⟩:=x;simp only at bh bU bl bj bk;have cc:TB (d'+1)=2*TB d'+40:=rfl;have aa:=JH cc;have dE:TB d'<=2520:=CH LC;have aj:(⟨ap.toArray⟩:ByteArray).size<=10:=by rw[lz];exact bU
 have cd:(⟨nm.toArray⟩:ByteArray).size<=12:=by rw[lz];exact bT
 have bo:=(And.intro bj bk)
 have aY:=JH bl;clear hS bR bS bN bP bQ hx bV bW bi bm bn bh cc bj bk bl;have aZ:=Ba w (.cells #[.int .u8 (k:Int),tx nm,aW,.slice aS m c] 275);have bp:=aZ;have ba:=JH (JK w (.cells #[.int .u8 (k:Int),tx nm,aW,.slice aS m c] 275));have aw:(w.alloc (.cells #[.int .u8 (k:Int),tx nm,aW,.slice aS m c] 275)).heap.size=w+1:=LG
 have cq:=JH aw;clear aw
 go_enter func301,ntmps301
 go_upto_region 1 with fail;have aw:=cq.o;generalize w.alloc (.cells #[.int .u8 (k:Int),tx nm,aW,.slice aS m c] 275)=cr at*;obtain⟨t,ad⟩:=Xq w.heap.size;rw[<-ad]at ba bp aw⊢;have bq:=JH ad;clear ad;have B:=iT ba.o 0 _ rfl;go_wp2_with fail;refine(pc k _ cn.o cm _ (bX.to (bq.o▸bp))).M ?_;rintro ak al ⟨rfl,ad⟩;have cs:=ad.size;have ct:=ad;have cu:t<al:=LC
 obtain⟨⟨B,F,G,I⟩,_⟩:=jA ((ad.B t LC).T ba.o);have cv:=JH ((ad.B t LC).T ba.o);go_upto_region 2 with fail;have S:=JH (JK al (.cells #[.int .i64 (ao:Int),.bool aX,E,.string ⟨ap.toArray⟩] 445));have aZ:=Ba al (.cells #[.int .i64 (ao:Int),.bool aX,E,.string ⟨ap.toArray⟩] 445);have ce:(al.alloc (.cells #[.int .i64 (ao:Int),.bool aX,E,.string ⟨ap.toArray⟩] 445)).heap.size=al+1:=LG
 have T:=((bq.o▸bp:Below w w cr).T ((ct.T (aZ.M cs)).M (LA bq.o)))
 have V:=JH ((aZ.B t cu).T cv.o);obtain⟨y,cf⟩:=Xq al.heap.size;rw[<-cf]at S ce⊢;have dF:t<y:=LC
 generalize al.alloc (.cells #[.int .i64 (ao:Int),.bool aX,E,.string ⟨ap.toArray⟩] 445)=r at*;obtain⟨dG,cg⟩:∃q:ByteArray,q=⟨ap.toArray⟩:=⟨_,rfl⟩
 rw[<-cg]at S aj;have ab:t<r:=LC
 have ac:y<r:=LC
 have ae:=(bX.to T)
 have bb:=(co.iV (ki.ok .u8 _) (λq n=>T.B q (bY q n)))
 have aq:=T.size;have z:∀q,A q->q<r:=λq n=>LA (bY q n)
 clear B F G I cf cg ce aw;obtain⟨⟨B,F,G,I⟩,_⟩:=jA V.o;obtain⟨⟨ar,ak,au,av⟩,_⟩:=jA S.o;have bc:=JH cp.o;by_cases cb:k=1
 .subst cb;obtain⟨i,hi,rfl⟩:=ca rfl;go_wp2_with fail;refine(Tryz.strconv_FormatInt_10_small i hi _).M ?_;rintro dH dI ⟨rfl,rfl⟩;go_wp2_with fail;go_ret;exact⟨_,rfl,LB (vG i hi) aa.o,T⟩
 by_cases cw:k=5\/k=8
 .rcases cw with rfl|rfl
  .go_wp2_with fail;go_ret;exact⟨_,rfl,by rw[J5];have:=aa.o;omega,T⟩
  go_wp2_with fail;go_ret;exact⟨_,rfl,by rw[J5];have:=aa.o;omega,T⟩
 by_cases cx:k=6\/k=7
 .have ax:ao=1:=bo.1 LC;obtain⟨f,l,a0,af,O,P,Q,ay,az,aA,aB,aC,M,J,K,L⟩:=vy bb aU aV (i:=0) (LA bc.o);subst ay;have p:=z _ az;have ag:=aA;have R:=(And.intro aB aC)
  rw[Lz,JT]at M J K L;have u:=(And.intro M (And.intro J (And.intro K L)))
  clear M J K L;have ch:0<m:=LA aY.o;rcases cx with rfl|rfl
  .go_wp2_with fail;clear B F G I ar ak au av;refine Ri (λx=>Below r r x) (kN [(Pp y 3),Tr,(Pp t 1),Tr,Tr,Tr,(Pp t 3),(·=.slice (some ⟨f,l,none⟩) m c),(Pp f l),(·=.agg #[.int .u8 a0.op,tx a0.name,a0.n,.slice O P Q]),Tr,Tr,Tr,Tr]) [(1,λv w=>∃s:ByteArray,v=.string s/\s.size<=10),(3,λv w=>∃s:ByteArray,v=.string s/\s.size<=12),(4,λv w=>∃s:ByteArray,v=.string s/\s.size<=22),(5,λv w=>∃s:ByteArray,v=.string s/\s.size<=23),(10,λv w=>∃s:ByteArray,v=.string s/\s.size<=(TB d')),(11,λv w=>∃s:ByteArray,v=.string s/\s.size<=(TB d'+23)),(12,λv w=>∃s:ByteArray,v=.string s/\s.size<=(TB d'+24)),(13,λv w=>∃s:ByteArray,v=.string s/\s.size<=(TB d'+24))] ((Below.refl _ _).drew) ⟨?_,?_,?_,?_,?_,?_,?_,?_,?_,?_,?_,?_,?_,?_,trivial⟩ ?_;exact .f 3;intro j w a hf b hd hw;exact .l 30 (b 0 _ rfl rfl) (iT ((a.B y ac).T S.o) 3 _ rfl) ⟨trivial,a,Qc ⟨_,rfl,aj⟩<|Qa⟩;exact .f 1;intro j w a hf b hd hw;exact .l 32 (b 2 _ rfl rfl) (iT ((a.B t ab).T V.o) 1 _ rfl) ⟨trivial,a,Qb<|Qc ⟨_,rfl,cd⟩<|Qa⟩;intro j w a hf b hd hw;obtain⟨aD,br,cy⟩:=hd _ (Mm 0 rfl) _ rfl rfl;have cz:=Sl 31 br;obtain⟨aE,bs,cA⟩:=hd _ (Mm 1 rfl) _ rfl rfl;have cB:=Sl 33 bs;have U:¬(9223372036854775807<aD.size+aE.size):=LC;exact .q (g:=⟨trivial,a,Q2<|Qc ⟨aD++aE,rfl,by first|omega|(rw[J5];(try simp only[pA]);omega)⟩<|Qa⟩);intro j w a hf b hd hw;obtain⟨aF,bt,cC⟩:=hd _ (Mm 2 rfl) _ rfl rfl;have cD:=Sl 34 bt;have U:¬(9223372036854775807<aF.size+1):=LC;exact .q (g:=⟨trivial,a,Q2<|Qb<|Qc ⟨aF++⟨#[91]⟩,rfl,by first|omega|(rw[J5];(try simp only[pA]);omega)⟩<|Qa⟩);exact .f 1;intro j w a hf b hd hw;exact .l 36 (b 6 _ rfl rfl) (iT ((a.B t ab).T V.o) 3 _ rfl) ⟨rfl,a,Qa⟩;intro j w a hf b hd hw;have cE:=Sv 37 b 7;exact .q (g:=⟨rfl,a,Qa⟩);intro j w a hf b hd hw;have cF:=Sv 38 b 8;have B:=(Cb f l (a.B f p)).T u.1;have F:=(Cb f (l+1) (a.B f p)).T u.2.1;have G:=(Cb f (l+2) (a.B f p)).T u.2.2.1;have I:=(Cb f (l+3) (a.B f p)).T u.2.2.2;replace a:=Hq a;exact .q (g:=⟨rfl,a.o,Qa⟩);intro j w a hf b hd hw;have cG:=Sv 39 b 9;have hSw:∀q,A q->q<w:=λq n=>LB (z q n) a.size;replace a:=Hq a;refine .c (bZ A w a0 af O P Q (ae.to a.o) (ag.iV (ki.ok .u8 _) (λq n=>a.o.B q (z q n))) R.1 R.2 hSw) ?_;rintro e w' ⟨s,rfl,hz,N⟩;exact⟨_,rfl,⟨trivial,a.o.T (N.M a.o.size),Q4<|Qc ⟨_,rfl,hz⟩<|Q2<|Qb<|Qe⟩⟩;intro j w a hf b hd hw;obtain⟨aG,bu,cH⟩:=hd _ (Mm 3 rfl) _ rfl rfl;have cI:=Sl 35 bu;obtain⟨aH,bv,cJ⟩:=hd _ (Mm 4 rfl) _ rfl rfl;have cK:=Sl 40 bv;have U:¬(9223372036854775807<aG.size+aH.size):=LC;exact .q (g:=⟨trivial,a,Q4<|Qb<|Qc ⟨aG++aH,rfl,by first|omega|(rw[J5];(try simp only[pA]);omega)⟩<|Qa⟩);intro j w a hf b hd hw;obtain⟨aI,bw,cL⟩:=hd _ (Mm 5 rfl) _ rfl rfl;have cM:=Sl 41 bw;have U:¬(9223372036854775807<aI.size+1):=LC;exact .q (g:=⟨trivial,a,Q4<|Q2<|Qc ⟨aI++⟨#[93]⟩,rfl,by first|omega|(rw[J5];(try simp only[pA]);omega)⟩<|Qa⟩);intro j w a hf b hd hw;obtain⟨cN,bx,bz⟩:=hd _ (Mm 6 rfl) _ rfl rfl;exact .p 42 bx ⟨trivial,a,Q4<|Q2<|Qb<|Qc ⟨_,rfl,bz⟩<|Qa⟩;intro aJ W X Y C;obtain⟨aK,D,aL⟩:=C _ (Mm 7 rfl) Lb;have Z:Below r r W:=X;clear Y C;simp only[je,Act.put,JL,JP,JO,D];clear D;go_wp2_with fail;go_ret;exact⟨_,rfl,LA aa.o,T.T (Z.M aq)⟩
  go_wp2_with fail;clear B F G I ar ak au av;refine Ri (λx=>Below r r x) (kN [(Pp y 3),Tr,(Pp t 1),Tr,Tr,Tr,(Pp t 3),(·=.slice (some ⟨f,l,none⟩) m c),(Pp f l),(·=.agg #[.int .u8 a0.op,tx a0.name,a0.n,.slice O P Q]),Tr,Tr,Tr,Tr]) [(1,λv w=>∃s:ByteArray,v=.string s/\s.size<=10),(3,λv w=>∃s:ByteArray,v=.string s/\s.size<=12),(4,λv w=>∃s:ByteArray,v=.string s/\s.size<=22),(5,λv w=>∃s:ByteArray,v=.string s/\s.size<=23),(10,λv w=>∃s:ByteArray,v=.string s/\s.size<=(TB d')),(11,λv w=>∃s:ByteArray,v=.string s/\s.size<=(TB d'+23)),(12,λv w=>∃s:ByteArray,v=.string s/\s.size<=(TB d'+24)),(13,λv w=>∃s:ByteArray,v=.string s/\s.size<=(TB d'+24))] ((Below.refl _ _).drew) ⟨?_,?_,?_,?_,?_,?_,?_,?_,?_,?_,?_,?_,?_,?_,trivial⟩ ?_;exact .f 3;intro j w a hf b hd hw;exact .l 30 (b 0 _ rfl rfl) (iT ((a.B y ac).T S.o) 3 _ rfl) ⟨trivial,a,Qc ⟨_,rfl,aj⟩<|Qa⟩;exact .f 1;intro j w a hf b hd hw;exact .l 32 (b 2 _ rfl rfl) (iT ((a.B t ab).T V.o) 1 _ rfl) ⟨trivial,a,Qb<|Qc ⟨_,rfl,cd⟩<|Qa⟩;intro j w a hf b hd hw;obtain⟨aD,br,cy⟩:=hd _ (Mm 0 rfl) _ rfl rfl;have cz:=Sl 31 br;obtain⟨aE,bs,cA⟩:=hd _ (Mm 1 rfl) _ rfl rfl;have cB:=Sl 33 bs;have U:¬(9223372036854775807<aD.size+aE.size):=LC;exact .q (g:=⟨trivial,a,Q2<|Qc ⟨aD++aE,rfl,by first|omega|(rw[J5];(try simp only[pA]);omega)⟩<|Qa⟩);intro j w a hf b hd hw;obtain⟨aF,bt,cC⟩:=hd _ (Mm 2 rfl) _ rfl rfl;have cD:=Sl 34 bt;have U:¬(9223372036854775807<aF.size+1):=LC;exact .q (g:=⟨trivial,a,Q2<|Qb<|Qc ⟨aF++⟨#[91]⟩,rfl,by first|omega|(rw[J5];(try simp only[pA]);omega)⟩<|Qa⟩);exact .f 1;intro j w a hf b hd hw;exact .l 36 (b 6 _ rfl rfl) (iT ((a.B t ab).T V.o) 3 _ rfl) ⟨rfl,a,Qa⟩;intro j w a hf b hd hw;have cE:=Sv 37 b 7;exact .q (g:=⟨rfl,a,Qa⟩);intro j w a hf b hd hw;have cF:=Sv 38 b 8;have B:=(Cb f l (a.B f p)).T u.1;have F:=(Cb f (l+1) (a.B f p)).T u.2.1;have G:=(Cb f (l+2) (a.B f p)).T u.2.2.1;have I:=(Cb f (l+3) (a.B f p)).T u.2.2.2;replace a:=Hq a;exact .q (g:=⟨rfl,a.o,Qa⟩);intro j w a hf b hd hw;have cG:=Sv 39 b 9;have hSw:∀q,A q->q<w:=λq n=>LB (z q n) a.size;replace a:=Hq a;refine .c (bZ A w a0 af O P Q (ae.to a.o) (ag.iV (ki.ok .u8 _) (λq n=>a.o.B q (z q n))) R.1 R.2 hSw) ?_;rintro e w' ⟨s,rfl,hz,N⟩;exact⟨_,rfl,⟨trivial,a.o.T (N.M a.o.size),Q4<|Qc ⟨_,rfl,hz⟩<|Q2<|Qb<|Qe⟩⟩;intro j w a hf b hd hw;obtain⟨aG,bu,cH⟩:=hd _ (Mm 3 rfl) _ rfl rfl;have cI:=Sl 35 bu;obtain⟨aH,bv,cJ⟩:=hd _ (Mm 4 rfl) _ rfl rfl;have cK:=Sl 40 bv;have U:¬(9223372036854775807<aG.size+aH.size):=LC;exact .q (g:=⟨trivial,a,Q4<|Qb<|Qc ⟨aG++aH,rfl,by first|omega|(rw[J5];(try simp only[pA]);omega)⟩<|Qa⟩);intro j w a hf b hd hw;obtain⟨aI,bw,cL⟩:=hd _ (Mm 5 rfl) _ rfl rfl;have cM:=Sl 41 bw;have U:¬(9223372036854775807<aI.size+1):=LC;exact .q (g:=⟨trivial,a,Q4<|Q2<|Qc ⟨aI++⟨#[93]⟩,rfl,by first|omega|(rw[J5];(try simp only[pA]);omega)⟩<|Qa⟩);intro j w a hf b hd hw;obtain⟨cN,bx,bz⟩:=hd _ (Mm 6 rfl) _ rfl rfl;exact .p 42 bx ⟨trivial,a,Q4<|Q2<|Qb<|Qc ⟨_,rfl,bz⟩<|Qa⟩;intro aJ W X Y C;obtain⟨aK,D,aL⟩:=C _ (Mm 7 rfl) Lb;have Z:Below r r W:=X;clear Y C;simp only[je,Act.put,JL,JP,JO,D];clear D;go_wp2_with fail;go_ret;exact⟨_,rfl,LA aa.o,T.T (Z.M aq)⟩
 by_cases aT:k=9\/k=10
 .have ax:ao=1:=bo.1 LC;obtain⟨f,l,a0,af,O,P,Q,ay,az,aA,aB,aC,M,J,K,L⟩:=vy bb aU aV (i:=0) (LA bc.o);subst ay;have p:=z _ az;have ag:=aA;have R:=(And.intro aB aC)
  rw[Lz,JT]at M J K L;have u:=(And.intro M (And.intro J (And.intro K L)))
  clear M J K L;have ch:0<m:=LA aY.o;rcases aT with rfl|rfl
  .go_wp2_with fail;clear B F G I ar ak au av;refine Ri (λx=>Below r r x) (kN [(Pp y 3),Tr,(Pp t 3),(·=.slice (some ⟨f,l,none⟩) m c),(Pp f l),(·=.agg #[.int .u8 a0.op,tx a0.name,a0.n,.slice O P Q]),(Pp y 2),(·=E),Tr,Tr,Tr]) [(1,λv w=>∃s:ByteArray,v=.string s/\s.size<=10),(8,λv w=>∃s:ByteArray,v=.string s/\s.size<=(TB d'+2)),(9,λv w=>∃s:ByteArray,v=.string s/\s.size<=(TB d'+12)),(10,λv w=>∃s:ByteArray,v=.string s/\s.size<=(TB d'+12))] ((Below.refl _ _).drew) ⟨?_,?_,?_,?_,?_,?_,?_,?_,?_,?_,?_,trivial⟩ ?_;exact .f 3;intro j w a hf b hd hw;exact .l 46 (b 0 _ rfl rfl) (iT ((a.B y ac).T S.o) 3 _ rfl) ⟨trivial,a,Qc ⟨_,rfl,aj⟩<|Qa⟩;exact .f 1;intro j w a hf b hd hw;exact .l 48 (b 2 _ rfl rfl) (iT ((a.B t ab).T V.o) 3 _ rfl) ⟨rfl,a,Qa⟩;intro j w a hf b hd hw;have cO:=Sv 49 b 3;exact .q (g:=⟨rfl,a,Qa⟩);intro j w a hf b hd hw;have cP:=Sv 50 b 4;have B:=(Cb f l (a.B f p)).T u.1;have F:=(Cb f (l+1) (a.B f p)).T u.2.1;have G:=(Cb f (l+2) (a.B f p)).T u.2.2.1;have I:=(Cb f (l+3) (a.B f p)).T u.2.2.2;replace a:=Hq a;exact .q (g:=⟨rfl,a.o,Qa⟩);exact .f 3;intro j w a hf b hd hw;exact .l 52 (b 6 _ rfl rfl) (iT ((a.B y ac).T S.o) 2 _ rfl) ⟨rfl,a,Qa⟩;intro j w a hf b hd hw;have cQ:=Sv 51 b 5;have cR:=Sv 53 b 7;have hSw:∀q,A q->q<w:=λq n=>LB (z q n) a.size;replace a:=Hq a;refine .c (an A w a0 af O P Q (E:Int) (ae.to a.o) (ag.iV (ki.ok .u8 _) (λq n=>a.o.B q (z q n))) R.1 R.2 hSw) ?_;rintro e w' ⟨s,rfl,hz,N⟩;exact⟨_,rfl,⟨trivial,a.o.T (N.M a.o.size),Qb<|Qc ⟨_,rfl,hz⟩<|Q2<|Qe⟩⟩;intro j w a hf b hd hw;obtain⟨aM,bA,cS⟩:=hd _ (Mm 0 rfl) _ rfl rfl;have cT:=Sl 47 bA;obtain⟨aN,bB,cU⟩:=hd _ (Mm 1 rfl) _ rfl rfl;have cV:=Sl 54 bB;have U:¬(9223372036854775807<aM.size+aN.size):=LC;exact .q (g:=⟨trivial,a,Q2<|Qc ⟨aM++aN,rfl,by first|omega|(rw[J5];(try simp only[pA]);omega)⟩<|Qa⟩);intro j w a hf b hd hw;obtain⟨cW,bC,bD⟩:=hd _ (Mm 2 rfl) _ rfl rfl;exact .p 55 bC ⟨trivial,a,Q2<|Qb<|Qc ⟨_,rfl,bD⟩<|Qa⟩;intro aJ W X Y C;obtain⟨aK,D,aL⟩:=C _ (Mm 3 rfl) Lb;have Z:Below r r W:=X;clear Y C;simp only[je,Act.put,JL,JP,JO,D];clear D;go_wp2_with fail;go_ret;exact⟨_,rfl,LA aa.o,T.T (Z.M aq)⟩
  go_wp2_with fail;clear B F G I ar ak au av;refine Ri (λx=>Below r r x) (kN [(Pp y 3),Tr,(Pp t 3),(·=.slice (some ⟨f,l,none⟩) m c),(Pp f l),(·=.agg #[.int .u8 a0.op,tx a0.name,a0.n,.slice O P Q]),(Pp y 2),(·=E),Tr,Tr,Tr]) [(1,λv w=>∃s:ByteArray,v=.string s/\s.size<=10),(8,λv w=>∃s:ByteArray,v=.string s/\s.size<=(TB d'+2)),(9,λv w=>∃s:ByteArray,v=.string s/\s.size<=(TB d'+12)),(10,λv w=>∃s:ByteArray,v=.string s/\s.size<=(TB d'+12))] ((Below.refl _ _).drew) ⟨?_,?_,?_,?_,?_,?_,?_,?_,?_,?_,?_,trivial⟩ ?_;exact .f 3;intro j w a hf b hd hw;exact .l 46 (b 0 _ rfl rfl) (iT ((a.B y ac).T S.o) 3 _ rfl) ⟨trivial,a,Qc ⟨_,rfl,aj⟩<|Qa⟩;exact .f 1;intro j w a hf b hd hw;exact .l 48 (b 2 _ rfl rfl) (iT ((a.B t ab).T V.o) 3 _ rfl) ⟨rfl,a,Qa⟩;intro j w a hf b hd hw;have cO:=Sv 49 b 3;exact .q (g:=⟨rfl,a,Qa⟩);intro j w a hf b hd hw;have cP:=Sv 50 b 4;have B:=(Cb f l (a.B f p)).T u.1;have F:=(Cb f (l+1) (a.B f p)).T u.2.1;have G:=(Cb f (l+2) (a.B f p)).T u.2.2.1;have I:=(Cb f (l+3) (a.B f p)).T u.2.2.2;replace a:=Hq a;exact .q (g:=⟨rfl,a.o,Qa⟩);exact .f 3;intro j w a hf b hd hw;exact .l 52 (b 6 _ rfl rfl) (iT ((a.B y ac).T S.o) 2 _ rfl) ⟨rfl,a,Qa⟩;intro j w a hf b hd hw;have cQ:=Sv 51 b 5;have cR:=Sv 53 b 7;have hSw:∀q,A q->q<w:=λq n=>LB (z q n) a.size;replace a:=Hq a;refine .c (an A w a0 af O P Q (E:Int) (ae.to a.o) (ag.iV (ki.ok .u8 _) (λq n=>a.o.B q (z q n))) R.1 R.2 hSw) ?_;rintro e w' ⟨s,rfl,hz,N⟩;exact⟨_,rfl,⟨trivial,a.o.T (N.M a.o.size),Qb<|Qc ⟨_,rfl,hz⟩<|Q2<|Qe⟩⟩;intro j w a hf b hd hw;obtain⟨aM,bA,cS⟩:=hd _ (Mm 0 rfl) _ rfl rfl;have cT:=Sl 47 bA;obtain⟨aN,bB,cU⟩:=hd _ (Mm 1 rfl) _ rfl rfl;have cV:=Sl 54 bB;have U:¬(9223372036854775807<aM.size+aN.size):=LC;exact .q (g:=⟨trivial,a,Q2<|Qc ⟨aM++aN,rfl,by first|omega|(rw[J5];(try simp only[pA]);omega)⟩<|Qa⟩);intro j w a hf b hd hw;obtain⟨cW,bC,bD⟩:=hd _ (Mm 2 rfl) _ rfl rfl;exact .p 55 bC ⟨trivial,a,Q2<|Qb<|Qc ⟨_,rfl,bD⟩<|Qa⟩;intro aJ W X Y C;obtain⟨aK,D,aL⟩:=C _ (Mm 3 rfl) Lb;have Z:Below r r W:=X;clear Y C;simp only[je,Act.put,JL,JP,JO,D];clear D;go_wp2_with fail;go_ret;exact⟨_,rfl,LA aa.o,T.T (Z.M aq)⟩
 have dJ:((k:Int)==1)=false:=by rw[JX];omega
 have dK:((k:Int)==5)=false:=by rw[JX];omega
 have dL:((k:Int)==6)=false:=by rw[JX];omega
 have dM:((k:Int)==7)=false:=by rw[JX];omega
 have dN:((k:Int)==8)=false:=by rw[JX];omega
 have dO:((k:Int)==9)=false:=by rw[JX];omega
 have dP:((k:Int)==10)=false:=by rw[JX];omega
 rcases bo.2 ⟨LC,LC,LC,LC,LC,LC,LC⟩with ax|ax
 .subst ax;go_wp2_with fail;go_ret;exact⟨_,rfl,LA aa.o,T⟩
 obtain⟨f,l,a0,af,O,P,Q,ay,az,aA,aB,aC,M,J,K,L⟩:=vy bb aU aV (i:=0) (LA bc.o);subst ay;have p:=z _ az;have ag:=aA;have R:=(And.intro aB aC)
 rw[Lz,JT]at M J K L;have u:=(And.intro M (And.intro J (And.intro K L)))
 clear M J K L;obtain⟨dQ,dR,ah,ci,bd,be,bf,bE,cX,cY,cZ,da,M,J,K,L⟩:=vy bb aU aV (i:=1) (LA bc.o);injection bE with bE;injection bE with db dc;subst db;subst dc;have dS:=z _ cX;have cj:=cY;have bg:=(And.intro cZ da)
 rw[Nat.one_mul]at M J K L;have dd:=J;have de:=K;have df:=L;have ai:=(And.intro M (And.intro J (And.intro K L)))
 clear M J K L dd de df;subst ax;have ch:0<m:=LA aY.o
 have bi:(1:Int)<(m:Int):=LA aY.o
 by_cases bF:E=3
 .have dg:((E:Int)==3)=true:=(by rw[bF];rfl);have dT:IntKind.i64.wrap ((E:Int)+1)=4:=(by rw[bF];rfl);clear bF;go_wp2_with fail;clear B F G I ar ak au av;refine Ri (λx=>Below r r x) (kN [(Pp t 3),(·=.slice (some ⟨f,l,none⟩) m c),(Pp f l),(·=.agg #[.int .u8 a0.op,tx a0.name,a0.n,.slice O P Q]),(·=.int .i64 4),Tr,(Pp y 3),Tr,Tr,(Pp t 3),(·=.slice (some ⟨f,l,none⟩) m c),(Pp f (l+4)),(·=.agg #[.int .u8 ah.op,tx ah.name,ah.n,.slice bd be bf]),(Pp y 2),(·=E),Tr,Tr,Tr,Tr]) [(5,λv w=>∃s:ByteArray,v=.string s/\s.size<=(TB d'+2)),(7,λv w=>∃s:ByteArray,v=.string s/\s.size<=10),(8,λv w=>∃s:ByteArray,v=.string s/\s.size<=(TB d'+12)),(15,λv w=>∃am:Int,v=am),(16,λv w=>∃s:ByteArray,v=.string s/\s.size<=(TB d'+2)),(17,λv w=>∃s:ByteArray,v=.string s/\s.size<=(2*TB d'+14)),(18,λv w=>∃s:ByteArray,v=.string s/\s.size<=(2*TB d'+14))] ((Below.refl _ _).drew) ⟨?_,?_,?_,?_,?_,?_,?_,?_,?_,?_,?_,?_,?_,?_,?_,?_,?_,?_,?_,trivial⟩ ?_;exact .f 1;intro j w a hf b hd hw;exact .l 67 (b 0 _ rfl rfl) (iT ((a.B t ab).T V.o) 3 _ rfl) ⟨rfl,a,Qa⟩;intro j w a hf b hd hw;have dh:=Sv 68 b 1;exact .q (g:=⟨rfl,a,Qa⟩);intro j w a hf b hd hw;have di:=Sv 69 b 2;have B:=(Cb f l (a.B f p)).T u.1;have F:=(Cb f (l+1) (a.B f p)).T u.2.1;have G:=(Cb f (l+2) (a.B f p)).T u.2.2.1;have I:=(Cb f (l+3) (a.B f p)).T u.2.2.2;replace a:=Hq a;exact .q (g:=⟨rfl,a.o,Qa⟩);exact .f 5;intro j w a hf b hd hw;have dj:=Sv 70 b 3;have dk:=Sv 71 b 4;have hSw:∀q,A q->q<w:=λq n=>LB (z q n) a.size;replace a:=Hq a;refine .c (an A w a0 af O P Q 4 (ae.to a.o) (ag.iV (ki.ok .u8 _) (λq n=>a.o.B q (z q n))) R.1 R.2 hSw) ?_;rintro e w' ⟨s,rfl,hz,N⟩;exact⟨_,rfl,⟨trivial,a.o.T (N.M a.o.size),Qc ⟨_,rfl,hz⟩<|Q4<|Q2<|Qe⟩⟩;exact .f 3;intro j w a hf b hd hw;exact .l 73 (b 6 _ rfl rfl) (iT ((a.B y ac).T S.o) 3 _ rfl) ⟨trivial,a,Qb<|Qc ⟨_,rfl,aj⟩<|Qa⟩;intro j w a hf b hd hw;obtain⟨aO,bG,dl⟩:=hd _ (Mm 0 rfl) _ rfl rfl;have dm:=Sl 72 bG;obtain⟨aP,bH,dn⟩:=hd _ (Mm 1 rfl) _ rfl rfl;have dp:=Sl 74 bH;have U:¬(9223372036854775807<aO.size+aP.size):=LC;exact .q (g:=⟨trivial,a,Q2<|Qc ⟨aO++aP,rfl,by first|omega|(rw[J5];(try simp only[pA]);omega)⟩<|Qa⟩);exact .f 1;intro j w a hf b hd hw;exact .l 76 (b 9 _ rfl rfl) (iT ((a.B t ab).T V.o) 3 _ rfl) ⟨rfl,a,Qa⟩;intro j w a hf b hd hw;have dq:=Sv 77 b 10;exact .q (g:=⟨rfl,a,Qa⟩);intro j w a hf b hd hw;have dr:=Sv 78 b 11;have B:=(Cb f (l+4) (a.B f p)).T ai.1;have F:=(Cb f (l+4+1) (a.B f p)).T ai.2.1;have G:=(Cb f (l+4+2) (a.B f p)).T ai.2.2.1;have I:=(Cb f (l+4+3) (a.B f p)).T ai.2.2.2;replace a:=Hq a;exact .q (g:=⟨rfl,a.o,Qa⟩);exact .f 3;intro j w a hf b hd hw;exact .l 80 (b 13 _ rfl rfl) (iT ((a.B y ac).T S.o) 2 _ rfl) ⟨rfl,a,Qa⟩;intro j w a hf b hd hw;have ds:=Sv 81 b 14;exact .q (g:=⟨trivial,a,Q2<|Qb<|Qc ⟨_,rfl⟩<|Qa⟩);intro j w a hf b hd hw;have dt:=Sv 79 b 12;obtain⟨am,bI⟩:=hd _ (Mm 3 rfl) _ rfl rfl;have du:=Sl 82 bI;have hSw:∀q,A q->q<w:=λq n=>LB (z q n) a.size;replace a:=Hq a;refine .c (an A w ah ci bd be bf am (ae.to a.o) (cj.iV (ki.ok .u8 _) (λq n=>a.o.B q (z q n))) bg.1 bg.2 hSw) ?_;rintro e w' ⟨s,rfl,hz,N⟩;exact⟨_,rfl,⟨trivial,a.o.T (N.M a.o.size),Q4<|Qc ⟨_,rfl,hz⟩<|Q2<|Qe⟩⟩;intro j w a hf b hd hw;obtain⟨aQ,bJ,dv⟩:=hd _ (Mm 2 rfl) _ rfl rfl;have dw:=Sl 75 bJ;obtain⟨aR,bK,dx⟩:=hd _ (Mm 4 rfl) _ rfl rfl;have dy:=Sl 83 bK;have U:¬(9223372036854775807<aQ.size+aR.size):=LC;exact .q (g:=⟨trivial,a,Q4<|Qb<|Qc ⟨aQ++aR,rfl,by first|omega|(rw[J5];(try simp only[pA]);omega)⟩<|Qa⟩);intro j w a hf b hd hw;obtain⟨dz,bL,bM⟩:=hd _ (Mm 5 rfl) _ rfl rfl;exact .p 84 bL ⟨trivial,a,Q4<|Q2<|Qc ⟨_,rfl,bM⟩<|Qa⟩;intro aJ W X Y C;obtain⟨aK,D,aL⟩:=C _ (Mm 6 rfl) Lb;have Z:Below r r W:=X;clear Y C;simp only[je,Act.put,JL,JP,JO,D];clear D;go_wp2_with fail;go_ret;exact⟨_,rfl,LA aa.o,T.T (Z.M aq)⟩
 have dg:((E:Int)==3)=false:=by rw[JX];omega
 go_wp2_with fail;clear B F G I ar ak au av;refine Ri (λx=>Below r r x) (kN [(Pp t 3),(·=.slice (some ⟨f,l,none⟩) m c),(Pp f l),(·=.agg #[.int .u8 a0.op,tx a0.name,a0.n,.slice O P Q]),(·=E),Tr,(Pp y 3),Tr,Tr,(Pp t 3),(·=.slice (some ⟨f,l,none⟩) m c),(Pp f (l+4)),(·=.agg #[.int .u8 ah.op,tx ah.name,ah.n,.slice bd be bf]),(Pp y 2),(·=E),Tr,Tr,Tr,Tr]) [(5,λv w=>∃s:ByteArray,v=.string s/\s.size<=(TB d'+2)),(7,λv w=>∃s:ByteArray,v=.string s/\s.size<=10),(8,λv w=>∃s:ByteArray,v=.string s/\s.size<=(TB d'+12)),(15,λv w=>∃am:Int,v=am),(16,λv w=>∃s:ByteArray,v=.string s/\s.size<=(TB d'+2)),(17,λv w=>∃s:ByteArray,v=.string s/\s.size<=(2*TB d'+14)),(18,λv w=>∃s:ByteArray,v=.string s/\s.size<=(2*TB d'+14))] ((Below.refl _ _).drew) ⟨?_,?_,?_,?_,?_,?_,?_,?_,?_,?_,?_,?_,?_,?_,?_,?_,?_,?_,?_,trivial⟩ ?_;exact .f 1;intro j w a hf b hd hw;exact .l 67 (b 0 _ rfl rfl) (iT ((a.B t ab).T V.o) 3 _ rfl) ⟨rfl,a,Qa⟩;intro j w a hf b hd hw;have dh:=Sv 68 b 1;exact .q (g:=⟨rfl,a,Qa⟩);intro j w a hf b hd hw;have di:=Sv 69 b 2;have B:=(Cb f l (a.B f p)).T u.1;have F:=(Cb f (l+1) (a.B f p)).T u.2.1;have G:=(Cb f (l+2) (a.B f p)).T u.2.2.1;have I:=(Cb f (l+3) (a.B f p)).T u.2.2.2;replace a:=Hq a;exact .q (g:=⟨rfl,a.o,Qa⟩);exact .f 5;intro j w a hf b hd hw;have dj:=Sv 70 b 3;have dk:=Sv 71 b 4;have hSw:∀q,A q->q<w:=λq n=>LB (z q n) a.size
 replace a:=Hq a;refine .c (an A w a0 af O P Q (E:Int) (ae.to a.o) (ag.iV (ki.ok .u8 _) (λq n=>a.o.B q (z q n))) R.1 R.2 hSw) ?_;rintro e w' ⟨s,rfl,hz,N⟩;exact⟨_,rfl,⟨trivial,a.o.T (N.M a.o.size),Qc ⟨_,rfl,hz⟩<|Q4<|Q2<|Qe⟩⟩;exact .f 3;intro j w a hf b hd hw;exact .l 73 (b 6 _ rfl rfl) (iT ((a.B y ac).T S.o) 3 _ rfl) ⟨trivial,a,Qb<|Qc ⟨_,rfl,aj⟩<|Qa⟩;intro j w a hf b hd hw;obtain⟨aO,bG,dl⟩:=hd _ (Mm 0 rfl) _ rfl rfl;have dm:=Sl 72 bG;obtain⟨aP,bH,dn⟩:=hd _ (Mm 1 rfl) _ rfl rfl;have dp:=Sl 74 bH;have U:¬(9223372036854775807<aO.size+aP.size):=LC
 exact .q (g:=⟨trivial,a,Q2<|Qc ⟨aO++aP,rfl,by first|omega|(rw[J5];(try simp only[pA]);omega)⟩<|Qa⟩);exact .f 1;intro j w a hf b hd hw;exact .l 76 (b 9 _ rfl rfl) (iT ((a.B t ab).T V.o) 3 _ rfl) ⟨rfl,a,Qa⟩;intro j w a hf b hd hw;have dq:=Sv 77 b 10;exact .q (g:=⟨rfl,a,Qa⟩);intro j w a hf b hd hw;have dr:=Sv 78 b 11;have B:=(Cb f (l+4) (a.B f p)).T ai.1;have F:=(Cb f (l+4+1) (a.B f p)).T ai.2.1;have G:=(Cb f (l+4+2) (a.B f p)).T ai.2.2.1;have I:=(Cb f (l+4+3) (a.B f p)).T ai.2.2.2;replace a:=Hq a;exact .q (g:=⟨rfl,a.o,Qa⟩);exact .f 3;intro j w a hf b hd hw;exact .l 80 (b 13 _ rfl rfl) (iT ((a.B y ac).T S.o) 2 _ rfl) ⟨rfl,a,Qa⟩;intro j w a hf b hd hw;have ds:=Sv 81 b 14;exact .q (g:=⟨trivial,a,Q2<|Qb<|Qc ⟨_,rfl⟩<|Qa⟩);intro j w a hf b hd hw;have dt:=Sv 79 b 12;obtain⟨am,bI⟩:=hd _ (Mm 3 rfl) _ rfl rfl;have du:=Sl 82 bI;have hSw:∀q,A q->q<w:=λq n=>LB (z q n) a.size
 replace a:=Hq a;refine .c (an A w ah ci bd be bf am (ae.to a.o) (cj.iV (ki.ok .u8 _) (λq n=>a.o.B q (z q n))) bg.1 bg.2 hSw) ?_;rintro e w' ⟨s,rfl,hz,N⟩;exact⟨_,rfl,⟨trivial,a.o.T (N.M a.o.size),Q4<|Qc ⟨_,rfl,hz⟩<|Q2<|Qe⟩⟩;intro j w a hf b hd hw;obtain⟨aQ,bJ,dv⟩:=hd _ (Mm 2 rfl) _ rfl rfl;have dw:=Sl 75 bJ;obtain⟨aR,bK,dx⟩:=hd _ (Mm 4 rfl) _ rfl rfl;have dy:=Sl 83 bK;have U:¬(9223372036854775807<aQ.size+aR.size):=LC
 exact .q (g:=⟨trivial,a,Q4<|Qb<|Qc ⟨aQ++aR,rfl,by first|omega|(rw[J5];(try simp only[pA]);omega)⟩<|Qa⟩);intro j w a hf b hd hw;obtain⟨dz,bL,bM⟩:=hd _ (Mm 5 rfl) _ rfl rfl;exact .p 84 bL ⟨trivial,a,Q4<|Q2<|Qc ⟨_,rfl,bM⟩<|Qa⟩;intro aJ W X Y C;obtain⟨aK,D,aL⟩:=C _ (Mm 6 rfl) Lb;have Z:Below r r W:=X;clear Y C;simp only[je,Act.put,JL,JP,JO,D];clear D;go_wp2_with fail;go_ret;exact⟨_,rfl,LA aa.o,T.T (Z.M aq)⟩
theorem vS(d:Nat)(S:d<=6)(T:H2 d):Ji d:=by
 intro U w e V f m c z I W u hm hS;have J:=(λ(w':World) (v:Below w w w')=>T U w' e V f m c (I.to v) (W.iV (ki.ok .u8 _) (λq y=>v.B q (hS q y))) u hm (λq y=>JI (hS q y) v.size))
 obtain⟨k,x,hx,X,A⟩:∃(k:Nat) (x:Nat×Bool×Nat×List UInt8),shapes[k]?=some x/\1<=k/\e.op=(k:Int):=by
  cases d with
  |zero=>exact u.elim
  |succ d=>obtain⟨⟨x,Y,hx,_⟩,_⟩:=u;exact⟨e.op.toNat,x,hx,LC,LC⟩
 have Z:=JH hx;obtain⟨nm,B⟩:=Xq e.name;obtain⟨l,C⟩:=Xq e.n;rw[A,<-B,<-C];rw[A,<-B,<-C]at J;obtain⟨n,p,g,r⟩:=x;have aj:TB d<=2520:=CH S;clear hS hx A B C;have D:=Ba w (.cells #[.int .u8 (k:Int),tx nm,l,.slice f m c] 275);have E:=JH (JK w (.cells #[.int .u8 (k:Int),tx nm,l,.slice f m c] 275));have i:(w.alloc (.cells #[.int .u8 (k:Int),tx nm,l,.slice f m c] 275)).heap.size=w+1:=LG
 have aa:=JH i;clear i
 go_enter func313,ntmps313
 go_upto_region 1 with fail;have i:=aa.o;generalize w.alloc (.cells #[.int .u8 (k:Int),tx nm,l,.slice f m c] 275)=ab at*;obtain⟨t,a⟩:=Xq w.heap.size;rw[<-a]at E D i⊢;have F:=JH a;clear a;have K:=iT E.o 0 _ rfl;go_wp2_with fail;refine(pc k _ Z.o X _ (I.to (F.o▸D))).M ?_;rintro ac b ⟨rfl,a⟩;have ak:=a.size;have ad:t<b:=LC
 have ae:=JH ((a.B t LC).T E.o);have L:=((F.o▸D:Below w w ab).T (a.M (LA F.o)))
 clear K;go_upto_region 2 with fail;have M:=JH (JK b (.cells #[.int .i64 (n:Int),.bool p,g,.string ⟨r.toArray⟩] 445));have N:=Ba b (.cells #[.int .i64 (n:Int),.bool p,g,.string ⟨r.toArray⟩] 445);have O:(b.alloc (.cells #[.int .i64 (n:Int),.bool p,g,.string ⟨r.toArray⟩] 445)).heap.size=b+1:=LG
 have j:=(L.T (N.M (LA L.size)))
 have af:=JH ((N.B t ad).T ae.o);obtain⟨al,P⟩:=Xq b.heap.size;rw[<-P]at M O⊢;generalize b.alloc (.cells #[.int .i64 (n:Int),.bool p,g,.string ⟨r.toArray⟩] 445)=Q at*;have am:t<Q:=LC
 clear P O i;obtain⟨⟨K,an,ao,ap⟩,_⟩:=jA af.o;obtain⟨⟨aq,ac,ar,au⟩,_⟩:=jA M.o;have R:=(J Q j)
 by_cases hz:(g:Int)<z
 .go_wp2_with fail;refine R.M ?_;rintro ag ah ⟨s,rfl,ai,G⟩;have Y:¬(9223372036854775807<1+s.size):=LC;have av:((⟨#[40]⟩:ByteArray)++s).size=1+s.size:=(by rw[J5,pA]);have aw:¬(9223372036854775807<((⟨#[40]⟩:ByteArray)++s).size+1):=LC;go_wp2_with fail;go_ret;refine⟨_,rfl,?_,j.T (G.M j.size)⟩;simp only[J5,pA];omega
 go_wp2_with fail;refine R.M ?_;rintro ag ah ⟨s,rfl,ai,G⟩;go_wp2_with fail;go_ret;exact⟨_,rfl,LC,j.T (G.M j.size)⟩
theorem su:∀d,d<=6->H2 d
 |0,h=>uC 0 h λd' e=>by omega
 |d+1,h=>uC (d+1) h λd' e=>by obtain rfl:d=d':=LC;exact⟨vS d LC (su d LC),su d LC⟩
def wI(d:Nat):Prop:=∀(a:Nat->Prop) (B b n k:Nat) (w:World) (e:Option Addr) (m c:Nat) (l:List St),jV w->FH B->lF B b (n:Int) k w->jc (jH .u8 d) a w (.slice e m c) l->(∀s∈l,lK d s/\Cs d s)->m<=12->Ad a B b w->n+2*d<=90->k+tK d<=90000000->
 Calls prog 240 #[.pointer (some ⟨b,0,none⟩),.slice e m c] w (mO B b (n:Int) (k+tK d) w)
def Fy(d:Nat):Prop:=∀(a:Nat->Prop) (B b n k:Nat) (w:World) (s:ByteArray) (e:Option Addr) (m c:Nat) (l:List St),jV w->FH B->lF B b (n:Int) k w->jc (jH .u8 d) a w (.slice e m c) l->(∀s∈l,lK d s/\Cs d s)->m<=12->Ad a B b w->n+2*d<=90->k+(3+tK d)<=90000000->s.size<=20000->
 Calls prog 302 #[.pointer (some ⟨b,0,none⟩),.string s,.slice e m c] w (mO B b (n:Int) (k+(3+tK d)) w)
def Fz(d:Nat):Prop:=∀(a:Nat->Prop) (B b n k:Nat) (w:World) (s:St) (c:Option Addr) (e c1:Nat) (f:Option Addr) (g c4:Nat) (i:Option Addr) (j c5:Nat),jV w->FH B->lF B b (n:Int) k w->jc (ki .u8 De) a w (.slice c e c1) s.jy->jc (jH .u8 d) a w (.slice f g c4) s.th->jc (jH .u8 d) a w (.slice i j c5) s.el->lK (d+1) s->Cs (d+1) s->Ad a B b w->n+2*d<=90->k+(3+2*tK d)<=90000000->
 Calls prog 286 #[.pointer (some ⟨b,0,none⟩),.agg #[.int .u8 s.kind,tx s.name,tx s.hd,.slice c e c1,.slice f g c4,.slice i j c5]] w (mO B b (n:Int) (k+(3+2*tK d)) w)
end Go.Proofs.YtidmdcckbdmblaaGreatDoor
namespace Go.Proofs.YtidmdcckbdmblaaGreatDoor
open Go.RowKit Go.Proofs.Tryz
structure kz{α:Type}(R:Rel α)(T k:Nat)(B:Nat)(w:World)(b n:Nat)(xs:List α):Prop where
 ex:∃(rows:List (List Value)) (cs:List Value),w.heap[b]?=some (.cells (rows.flatten++cs).toArray T (0,0))/\xs.length*k+cs.length=n*k/\jD (R (λq=>B<=q/\q<w/\q≠b) w) rows xs
theorem kz.lt{a:Type}{R:Rel a}{T k B:Nat}{w}{b n:Nat}{xs:List a}(h:kz R T k B w b n xs):b<w:=by obtain⟨d,e,c,_⟩:=h.ex;exact(JJ.1 c).1
theorem kz.iV{d:Type}{R:Rel d}{T k B:Nat}(ok:jI R k){w w'}{b n:Nat}{xs:List d}(h:kz R T k B w b n xs)(c:Below w w w'):kz R T k B w' b n xs:=by obtain⟨e,f,g,i,j⟩:=h.ex;have hs:=c.size;exact⟨e,f,(c.B b h.lt).T g,i,j.imp λr x hx=>ok.M (ok.iV hx λq a=>c.B q a.2.1) λq a=>⟨a.1,LC,a.2.2⟩⟩
end Go.Proofs.YtidmdcckbdmblaaGreatDoor
namespace Go.Proofs.YtidmdcckbdmblaaGreatDoor
open Go.RowKit jJ Go.Proofs.Tryz
theorem kp.iV{T w w'}{b n:Nat}(h:kp T w b n)(a:w'.heap[b]?=w.heap[b]?):kp T w' b n:=by obtain⟨c,d,e⟩:=h;exact⟨c,a.T d,e⟩
theorem kp.lt{T w}{b n:Nat}(h:kp T w b n):b<w:=by obtain⟨c,a,d⟩:=h;exact(JJ.1 a).1
theorem kI.iV{w w'}{b:Nat}(h:kI w b)(a:w'.heap[b]?=w.heap[b]?):kI w' b:=by obtain⟨c,d,e⟩:=h;exact⟨c,a.T d,e⟩
theorem kI.lt{w}{b:Nat}(h:kI w b):b<w:=by obtain⟨c,a,d⟩:=h;exact(JJ.1 a).1
structure ov(w:World):Prop where
 lt:3<w.heap.size
 jr:∀k:Nat,k<64->∃x:Int,w.cell? ⟨3,k,none⟩=some (.int .u32 x)
theorem ov.iV{w w'}(h:ov w)(a:w'.heap[(3:Nat)]?=w.heap[(3:Nat)]?)(hs:w.heap.size<=w'.heap.size):ov w':=
 ⟨JI h.lt hs,λk b=>by obtain⟨x,c⟩:=h.jr k b;exact⟨x,(Cb 3 k a).T c⟩⟩
theorem kI.copy{w}{b:Nat}{c}(h:kI w b)(hc:w.heap[b]?=some (.cells c 330 (0,0))){jr:Nat}{a}(n:jr+a.length<=64)(hu:∀v∈a,∃x:Int,v=.int .u8 x):
  kI (w.setRow b (c.toList.take (8+jr)++(a++c.toList.drop (8+jr+a.length))).toArray) b:=by
 obtain⟨p,d,hs,k,j,t,l,m⟩:=h;rw[hc]at d;injection d with d;injection d with d _ _;subst d;have q:c.toList.length=73:=by simpa using hs
 have g:∀i,(c.toList.take (8+jr)++(a++c.toList.drop (8+jr+a.length)))[i]?=if i<8+jr then c[i]? else if i<8+jr+a.length then a[i-(8+jr)]? else c[i]?:=by intro i;by_cases e:i<8+jr;rw[Kn e,Ku (by rw[Kv];omega),List.getElem?_take_of_lt e];simp;rw[Ka e,KF (by rw[Kv];omega),Kv,Nat.min_eq_left LC];by_cases f:i<8+jr+a.length;rw[Kn f,Ku LC];rw[Ka f,KF LC,Lm];rw[show 8+jr+a.length+(i-(8+jr)-a.length)=i from LC];simp
 refine⟨_,setRow_heap w b _ _ _ _ hc,LJ,λi hi=>?_,λi hi=>?_,t,?_,m⟩
 .rw[KR,g,Kn LC];exact k i hi
 .rw[KR,g];by_cases e:8+i<8+jr;rw[Kn e];exact j i hi;rw[Ka e];by_cases f:8+i<8+jr+a.length;rw[Kn f];obtain⟨x,hx⟩:=hu _ (List.getElem_mem (show 8+i-(8+jr)<a.length from LC));exact⟨x,by rw[JW LC,hx]⟩;rw[Ka f];exact j i hi
 .rw[KR,g,Ka LC,Ka LC];exact l
theorem mC.lt{T w}{b n:Nat}(h:mC T w b n):b<w:=by obtain⟨c,a,d⟩:=h;exact(JJ.1 a).1
theorem mC.iV{T w w'}{b n:Nat}(h:mC T w b n)(a:w'.heap[b]?=w.heap[b]?):mC T w' b n:=by obtain⟨c,d,e⟩:=h;exact⟨c,a.T d,e⟩
structure lp(w:World)(fb:Nat)(f:Fl):Prop where
 lt:fb<w
 ex:∃(S:Nat->Prop) (B1:Option Addr) (n1 d1:Nat) (B2:Option Addr) (n2 d2:Nat) (B3:Option Addr) (n3 d3 pb:Nat),w.cell? ⟨fb,0,none⟩=some (tx f.name)/\w.cell? ⟨fb,1,none⟩=some (.slice B1 n1 d1)/\w.cell? ⟨fb,2,none⟩=some (.slice B2 n2 d2)/\w.cell? ⟨fb,3,none⟩=some (.slice B3 n3 d3)/\
  w.cell? ⟨fb,37,none⟩=some (.pointer (some ⟨pb,0,none⟩))/\nE S w B1 n1 d1 B2 n2 d2 B3 n3 d3 f/\vq S w pb (jM f)/\pb<w
theorem vq.iV{a w w'}{pb:Nat}{b}(h:vq a w pb b)(d:∀q,(a q\/q=pb)->w'.heap[q]?=w.heap[q]?):vq a w' pb b:=by obtain⟨e,n,c,f,g⟩:=h;exact⟨e,n,c,(d pb (.inr rfl)).T f,g.iV ym.ok λq i=>d q (.inl i)⟩
theorem vq.M{a T w}{pb:Nat}{b}(h:vq a w pb b)(d:∀q,a q->T q):vq T w pb b:=by obtain⟨e,n,c,f,g⟩:=h;exact⟨e,n,c,f,g.M ym.ok d⟩
theorem nE.M{b T w c}{d c1:Nat}{e}{g c2:Nat}{i}{j c3:Nat}{f}(h:nE b w c d c1 e g c2 i j c3 f)(a:∀q,b q->T q)(hf:∀q,T q->q<w.heap.size):nE T w c d c1 e g c2 i j c3 f:=
 ⟨h.jl.M kY.ok a,h.kj.M nr.ok a,h.jh.M (kL.ok .u8) a,hf⟩
theorem lp.iU{w w'}{a:Nat}{f}(h:lp w a f)(b:Below w w w'):lp w' a f:=by obtain⟨d,e,g,j,k,l,m,n,p,r,s,pb,t,c1,c2,c3,c4,hf,hp,u⟩:=h;have v:=b.B a d;have hc:∀i,w'.cell? ⟨a,i,none⟩=w.cell? ⟨a,i,none⟩:=λi=>Cb a i v;exact⟨JI d b.size,e,g,j,k,l,m,n,p,r,s,pb,(hc 0).T t,(hc 1).T c1,(hc 2).T c2,(hc 3).T c3,(hc 37).T c4,hf.iU b,hp.iV (λq c=>b.B q (by rcases c with c|c;exact hf.jY q c;omega)),JI u b.size⟩
end Go.Proofs.YtidmdcckbdmblaaGreatDoor
namespace mX
open Go
structure Ev where
 tick:Int
 comp:Int
 kind:Nat
 peer:Int
 n:Int
 copy:Int
 hd:Int
 d:Int
 args:List Int
structure Nm where
 jh:List (List UInt8)
 jl:List (List UInt8)
 hs:List (List (List UInt8))
def kM(m:Nm)(c:Int):Bool:=decide (0<=c)&&decide (c<m.jh.length)
def cN(m:Nm)(c:Int):List UInt8:=if kM m c then m.jh[c.toNat]?.getD []else []
def rH(m:Nm)(c:Int):Bool:=decide (0<=c)&&decide (c<m.jl.length)
def fN(m:Nm)(c:Int):List UInt8:=if rH m c then m.jl[c.toNat]?.getD []else []
def hL(m:Nm)(c:Int):List (List UInt8):=if kM m c then m.hs[c.toNat]?.getD []else []
def lJ(m:Nm)(c h:Int):Bool:=kM m c&&(decide (0<=h)&&decide (h<(hL m c).length))
def hN(m:Nm)(c h:Int):List UInt8:=if lJ m c h then(hL m c)[h.toNat]?.getD []else []
end mX
namespace Go.Proofs.YtidmdcckbdmblaaGreatDoor
open Go.RowKit jJ mX Go.Proofs.Tryz
def jO:Rel Int:=λ_ _ r x=>r=[.int .i64 x]
theorem jO.ok:jI jO 1:=
 ⟨LC,λh=>by rw[h];rfl,λh u hu=>by rw[h]at hu;simp at hu;subst hu;rfl,λh _=>h,λh _=>h⟩
def ow(B:Bool)(w:World):Prop:=B=true->Lib.TabIs prog w "internal/strconv.uint64pow10" .u64 Lib.pow10Tab
theorem ow.iU{B:Bool}{w w':World}(h:ow B w)(b:Below w w w'):ow B w':=by
 intro c;have h:=h c;unfold Lib.TabIs World.var? at h⊢;rw[BS]at h⊢;simp only[Option.bind_some]at h⊢;have d:(4:Nat)<w:=by rcases Lv (4:Nat) w with a|a;exact a;rw[Array.getElem?_eq_none a]at h;cases h
 rw[b.B _ d];exact h
structure Jk(m:Nm):Prop where
 c:∀i,(cN m i).length<=12
 f:∀i,(fN m i).length<=12
 h:∀i j,(hN m i j).length<=12
end Go.Proofs.YtidmdcckbdmblaaGreatDoor
namespace jg
structure Tok where
 kind:Nat
 text:ByteArray
 off:Nat
def lC(s:ByteArray)(a:Nat):Nat×Nat:=lq (s.data.toList.drop a)
def ny(s:ByteArray)(a:Nat):Nat:=km false (s.data.toList.drop a)
def wJ(s:ByteArray)(a:Nat):Tok:=⟨(lC s a).1,s.extract a (a+(lC s a).2),a⟩
def nW(s:ByteArray)(a:Nat):Nat:=a+(lC s a).2+ny s (a+(lC s a).2)
def rz(s:ByteArray):Nat->Nat->List Tok
 |0,_=>[]
 |f+1,off=>if off<s.size then wJ s off::rz s f (nW s off)else []
theorem E4(l p:List UInt8)(h:pfx l p=true):p.length<=l.length:=by unfold pfx at h;rw[List.isPrefixOf_iff_prefix]at h;exact h.length_le
theorem AG(p:Int->Bool)(l:List UInt8)(h:l≠[])(hp:p (l.headD 0).toNat=true):1<=pre p l:=by
 match l,h with
 |c::t,_=>rw[kR,if_pos (by simpa using hp)];omega
theorem xY(l:List UInt8)(h:l≠[]):1<=(lq l).2/\(lq l).2<=l.length:=by
 have c:1<=l.length:=by cases l with|nil=>exact absurd rfl h|cons=>simp
 unfold lq;split
 rename_i hc
 have a:=AG jU l h (by unfold jU;rw[hc];rfl);have b:=rV jU l;split;exact⟨a,b⟩;split;exact⟨a,b⟩;exact⟨c,Nat.le_refl _⟩;split
 rename_i hc
 have a:=AG kt l h hc;have b:=rV kt l;split;exact⟨a,b⟩;exact⟨c,Nat.le_refl _⟩;split
 rename_i x hx
 unfold nL at hx;have hm:=List.mem_of_find?_eq_some hx;have hp:=List.find?_some hx;exact⟨(DF x hm).1,E4 _ _ hp⟩;exact⟨c,Nat.le_refl _⟩
theorem pK(s:ByteArray)(a:Nat)(h:a<s.size):1<=(lC s a).2/\a+(lC s a).2<=s.size:=by
 have b:(s.data.toList.drop a).length=s.size-a:=LG
 have:=xY (s.data.toList.drop a) (by intro e;rw[e]at b;simp at b;omega);unfold lC;omega
theorem qQ(s:ByteArray)(a:Nat)(h:a<=s.size):a+ny s a<=s.size:=by have:=oI false (s.data.toList.drop a);unfold ny;simp at this;omega
theorem nC(s:ByteArray)(a:Nat)(h:a<s.size):a<nW s a/\nW s a<=s.size:=by have b:=pK s a h;have c:=qQ s _ b.2;unfold nW;omega
theorem uO(s:ByteArray):∀(f g a:Nat),s.size+1-a<=f->s.size+1-a<=g->rz s f a=rz s g a
 |0,g,a,h1,h2=>by
  cases g with
  |zero=>rfl
  |succ g=>rw[rz,rz,if_neg (by omega)]
 |f+1,0,a,h1,h2=>by rw[rz,rz,if_neg (by omega)]
 |f+1,g+1,a,h1,h2=>by
  rw[rz,rz];split
  rename_i h
  have:=nC s a h;rw[uO s f g _ LC LC];rfl
end jg
namespace Go.Proofs.YtidmdcckbdmblaaGreatDoor.L
open Go.RowKit Go.Proofs.Tryz
abbrev A5(l:List UInt8):Value:=.string ⟨l.toArray⟩
def lS:Array Value:=(jg.words.map A5).toArray
def uj:Array Value:=(jg.syms.map A5).toArray
def Laid(w:World):Prop:=
 (∃t a,w.heap[9]?=some (.cells lS t a))/\(∃t a,w.heap[8]?=some (.cells uj t a))
theorem lv{P:Program}(w:World)(t e:TypeId)(n:Nat)(a:Array Value)(k:Nat)(v:Value)(h:P.underlying t=some (.array n e))(b:k<n)
  (c:(isAgg e).run P w=.ok false w) (d:a[k]?=some v) (hs:(sizeOf e).run P w=.ok 1 w):
  (Instr.index t (.agg a) (.int .i64 k)).run P w=.ok v w:=by
 simp[Instr.index,run_underlying h,asIntOf,b,hs,c,d,go_sem]
theorem qI(w:World)(k:Nat)(a:k<39):(Instr.index 439 (.agg lS) (.int .i64 k)).run prog w=.ok (A5 (jg.words.getD k [])) w:=
 lv w _ 9 39 _ k _ LF a LF
  (by have b:k<jg.words.length:=a;simp[lS,A5,b]) LF
theorem DG(w:World)(k:Nat)(a:k<25):(Instr.index 404 (.agg uj) (.int .i64 k)).run prog w=.ok (A5 (jg.syms.getD k [])) w:=
 lv w _ 9 25 _ k _ LF a LF
  (by have b:k<jg.syms.length:=a;simp[uj,A5,b]) LF
theorem pT:(prog.info? 439).map (·.size)=some lS.size:=LF
theorem BZ:(prog.info? 404).map (·.size)=some uj.size:=LF
theorem lD(n:Int)(w:World):Calls prog 263 #[.int .u8 n] w λe w'=>e=.returned (.bool (jg.jS n))/\w=w':=by
 by_cases a:97<=n<;>by_cases b:n<=122<;>by_cases c:65<=n<;>by_cases d:n<=90;all_goals
  first
  |omega
  |(go_enter func263,ntmps263;go_wp2;go_ret;exact⟨by simp[jg.jS,a,b,c,d],rfl⟩)
theorem mG(n:Int)(w:World):Calls prog 266 #[.int .u8 n] w λe w'=>e=.returned (.bool (jg.kt n))/\w=w':=by
 by_cases a:48<=n<;>by_cases b:n<=57;all_goals
  first
  |omega
  |(go_enter func266,ntmps266;go_wp2;go_ret;exact⟨by simp[jg.kt,a,b],rfl⟩)
theorem B0(n:Int)(w:World):Calls prog 260 #[.int .u8 n] w λe w'=>e=.returned (.bool (jg.lg n))/\w=w':=by
 cases h1:(n==32)<;>cases h2:(n==9)<;>cases h3:(n==10)<;>cases h4:(n==13);all_goals
  (go_enter func260,ntmps260;go_wp2;go_ret;exact⟨by simp[jg.lg,h1,h2,h3,h4],rfl⟩)
theorem B4(n:Int)(w:World):Calls prog 262 #[.int .u8 n] w λe w'=>e=.returned (.bool (jg.lR n))/\w=w':=by
 go_enter func262,ntmps262
 go_wp2;go_ret;exact⟨by simp[jg.lR],rfl⟩
theorem pU(n:Int)(w:World):Calls prog 264 #[.int .u8 n] w λe w'=>e=.returned (.bool (jg.jU n))/\w=w':=by
 cases h1:jg.jS n<;>cases h2:jg.kt n<;>cases h3:(n==95);all_goals
  (go_enter func264,ntmps264;go_wp2_with (first|(go_at_call 263;refine(lD _ _).M ?_;rintro e w' ⟨rfl,rfl⟩)|(go_at_call 266;refine(mG _ _).M ?_;rintro e w' ⟨rfl,rfl⟩));go_ret;exact⟨by simp[jg.jU,h1,h2,h3],rfl⟩)
theorem lI(f:FuncId)(p:Int->Bool)(j:∀(a:Array Value) (w:World),Sem.run prog (callFunc f a) w=.ok (.enter f a) w)(hp:∀n w,Calls prog f #[.int .u8 n] w λe w'=>e=.returned (.bool (p n))/\w=w')(s:ByteArray)(w:World)(hs:s.size<=maxLen):
  Calls prog 259 #[.string s,.func (.func f) #[] #[]] w λe w'=>e=.returned (.int .i64 (jg.pre p s.data.toList))/\w=w':=by
 unfold maxLen at hs;have H:=JH hp;clear hp
 go_enter func259,ntmps259
 go_wp2
 go_loop [5] (λi=>∃k:Nat,k<=s.size/\i=k/\k<=jg.pre p s.data.toList) (λi=>s.size-(intOf i).toNat)
 case atStart=>exact⟨0,JV _,rfl,JV _⟩
 case round=>
  obtain⟨k,l,rfl,g⟩:=hrel;have c:=JH g;clear g;by_cases d:k<s.size
  .cases hq:p (s[k].toNat:Int)
   .have b:=JH (jg.ur p s k d c.o hq);go_wp2_with (refine(H.o _ _).M ?_;rintro e w' ⟨rfl,rfl⟩);go_ret;exact⟨by rw[b.o];rfl,rfl⟩
   have b:=JH (jg.uq p s k d c.o hq);go_wp2_with (refine(H.o _ _).M ?_;rintro e w' ⟨rfl,rfl⟩)
   go_round
   case rel=>exact⟨k+1,LC,LI,b.o⟩
   case measure=>simp[intOf];omega
  have b:=JH (jg.wP p s k d c.o);go_wp2_with fail;go_ret;exact⟨by rw[b.o];rfl,rfl⟩
theorem vU(s:ByteArray)(w:World)(hs:s.size<=maxLen):
  Calls prog 259 #[.string s,.func (.func 260) #[] #[]] w λe w'=>e=.returned (.int .i64 (jg.pre jg.lg s.data.toList))/\w=w':=
 lI _ _ (λ_ _=>LF) B0 s w hs
theorem vV(s:ByteArray)(w:World)(hs:s.size<=maxLen):
  Calls prog 259 #[.string s,.func (.func 262) #[] #[]] w λe w'=>e=.returned (.int .i64 (jg.pre jg.lR s.data.toList))/\w=w':=
 lI _ _ (λ_ _=>LF) B4 s w hs
theorem nA(s:ByteArray)(w:World)(hs:s.size<=maxLen):
  Calls prog 259 #[.string s,.func (.func 264) #[] #[]] w λe w'=>e=.returned (.int .i64 (jg.pre jg.jU s.data.toList))/\w=w':=
 lI _ _ (λ_ _=>LF) pU s w hs
theorem qx(s:ByteArray)(w:World)(hs:s.size<=maxLen):
  Calls prog 259 #[.string s,.func (.func 266) #[] #[]] w λe w'=>e=.returned (.int .i64 (jg.pre jg.kt s.data.toList))/\w=w':=
 lI _ _ (λ_ _=>LF) mG s w hs
theorem oO(s:ByteArray)(w:World)(hL:Laid w):
  Calls prog 265 #[.string s] w λe w'=>e=.returned (.bool (jg.px s.data.toList))/\w=w':=by
 obtain⟨⟨g,j,b⟩,_⟩:=hL;have l:=JH b;clear b
 go_enter func265,ntmps265
 go_wp2_with (refine wpList_load_row rfl 439 _ rfl 9 rfl g _ j _ l.o oN rfl pT ?_)
 go_loop [4,6] (λ_ i=>∃k:Nat,k<=39/\i=k/\∀a,a<k->(jg.words[a]?.getD []==s.toList)=false) (λ_ i=>39-(intOf i).toNat)
 case atStart=>exact⟨0,JV _,rfl,LC⟩
 case round=>
  obtain⟨k,n,rfl,c⟩:=hrel;have d:=JH c;clear c;by_cases f:k<39
  .have p:=λw=>qI w k f;cases hq:(jg.words[k]?.getD []==s.toList)
   .go_wp2_with fail
    go_round
    case rel=>refine⟨k+1,LC,LI,λa m=>?_⟩;by_cases e:a=k;rw[e];exact hq;exact d.o a LC
    case measure=>simp[intOf];omega
   go_wp2_with fail;go_ret;exact⟨by rw[jg.Ao _ k f (by rw[<-K2];exact hq)];rfl,rfl⟩
  go_wp2_with fail;go_ret;exact⟨by rw[jg.wQ _ (λa m=>by rw[<-K2];exact d.o a LC)];rfl,rfl⟩
theorem xh(s:ByteArray)(w:World)(hs:s.size<=maxLen):
  Calls prog 209 #[.string s] w λe w'=>e=.returned (.int .i64 (jg.km false s.data.toList))/\w=w':=by
 unfold maxLen at hs
 go_enter func209,ntmps209
 go_wp2_with fail
 go_loop [3] (λi=>∃k:Nat,k<=s.size/\i=k/\k+jg.km false (s.data.toList.drop k)=jg.km false s.data.toList) (λi=>s.size-(intOf i).toNat)
 case atStart=>exact⟨0,JV _,rfl,LG⟩
 case round=>
  obtain⟨k,j,rfl,d⟩:=hrel;have l:=JH d;clear d;go_wp2_with fail;refine(vU _ _ LQ).M ?_;rintro e w' ⟨rfl,rfl⟩;rw[jg.nP];have m:=jg.rh jg.lg s k j;generalize hx:jg.pre jg.lg (s.data.toList.drop k)=a at*;have n:=JH hx;have f:=JH (jg.yK _ _ _ l.o hx);clear hx;go_wp2_with fail;refine(Tryz.strings_HasPrefix _ _ _).M ?_;rintro e w' ⟨rfl,rfl⟩;rw[jg.nP];cases hp:jg.pfx (s.data.toList.drop (k+a)) [47,47]
  .have c:=JH hp;have b:Lib.hasPrefix (s.data.toList.drop (k+a)) ({data:=#[47,47]}:ByteArray).data.toList=false:=hp;clear hp;rw[b];clear b;go_wp2_with fail;go_ret;exact⟨by rw[jg.C7 _ _ _ f.o n.o c.o];rfl,rfl⟩
  have c:=JH hp;have b:Lib.hasPrefix (s.data.toList.drop (k+a)) ({data:=#[47,47]}:ByteArray).data.toList=true:=hp;clear hp;rw[b];clear b;go_wp2_with fail;refine(vV _ _ LQ).M ?_;rintro e w' ⟨rfl,rfl⟩;rw[jg.nP];have p:=jg.rh jg.lR s (k+a) m;generalize hx:jg.pre jg.lR (s.data.toList.drop (k+a))=q at*;obtain⟨g,t⟩:=jg.xu _ _ _ f.o c.o hx;have r:=JH g;clear hx g;go_wp2_with fail
  go_round
  case rel=>exact⟨k+a+q,p,LI,r.o⟩
  case measure=>simp[intOf];omega
def ox(l:List UInt8):Value:=.tuple #[.int .u8 ((jg.lq l).1:Nat),.int .i64 ((jg.lq l).2:Nat)]
theorem mQ{l:List UInt8}{a b:Nat}(h:jg.lq l=(a,b)):ox l=.tuple #[.int .u8 (a:Nat),b]:=by unfold ox;rw[h]
theorem rq(p:Int->Bool)(s:ByteArray):jg.pre p s.data.toList<=s.size:=by have:=jg.rV p s.data.toList;simpa using this
theorem xZ(s:ByteArray)(w:World)(hL:Laid w)(hs:s.size<=maxLen)(d:0<s.size)(g:jg.jS (s[0]).toNat=true):
  Calls prog 210 #[.string s] w λe w'=>e=.returned (ox s.data.toList)/\w=w':=by
 have i:=JH hL;clear hL;have f:=JH g;unfold maxLen at hs
 go_enter func210,ntmps210
 go_wp2_with (go_at_call 263;refine(lD _ _).M ?_;rintro e w' ⟨rfl,rfl⟩);refine(nA _ _ LQ).M ?_;rintro e w' ⟨rfl,rfl⟩;have j:=rq jg.jU s;generalize hx:jg.pre jg.jU s.data.toList=n at*;have a:=JH hx;clear hx;go_wp2_with fail;refine(oO _ _ i.o).M ?_;rintro e w' ⟨rfl,rfl⟩;rw[jg.Bc];cases hk:jg.px (s.data.toList.take n)
 .have c:=JH hk;clear hk;by_cases hn:n<=12
  .have b:Hid (ox s.data.toList=.tuple #[.int .u8 (1:Nat),n]):=JH (mQ (by rw[jg.Be s d f.o (by rw[a.o];exact c.o) (by rw[a.o];exact hn),a.o]));go_wp2_with fail
   go_ret2
   exact⟨by rw[b.o];rfl,rfl⟩
  have b:Hid (ox s.data.toList=.tuple #[.int .u8 (5:Nat),.int .i64 (s.size:Nat)]):=JH (mQ (by rw[jg.Bf s d f.o (by rw[a.o];exact c.o) (by rw[a.o];exact hn)]));go_wp2_with fail
  go_ret2
  exact⟨by rw[b.o];rfl,rfl⟩
 .have c:=JH hk;clear hk;have b:Hid (ox s.data.toList=.tuple #[.int .u8 (2:Nat),n]):=JH (mQ (by rw[jg.Ew s d f.o (by rw[a.o];exact c.o),a.o]));go_wp2_with fail
  go_ret2
  exact⟨by rw[b.o];rfl,rfl⟩
theorem zI(s:ByteArray)(w:World)(hs:s.size<=maxLen)(c:0<s.size)(g:jg.jS (s[0]).toNat=false)(hd:jg.kt (s[0]).toNat=true):
  Calls prog 210 #[.string s] w λe w'=>e=.returned (ox s.data.toList)/\w=w':=by
 have d:=JH g;have f:=JH hd;unfold maxLen at hs
 go_enter func210,ntmps210
 go_wp2_with (first|(go_at_call 263;refine(lD _ _).M ?_;rintro e w' ⟨rfl,rfl⟩)|(go_at_call 266;refine(mG _ _).M ?_;rintro e w' ⟨rfl,rfl⟩));refine(qx _ _ LQ).M ?_;rintro e w' ⟨rfl,rfl⟩;have i:=rq jg.kt s;generalize hx:jg.pre jg.kt s.data.toList=n at*;have a:=JH hx;clear hx;cases h1:((n:Int)==1)<;>cases hc:(((s[0]).toNat:Int) !=48)
 .have b:Hid (ox s.data.toList=.tuple #[.int .u8 (5:Nat),.int .i64 (s.size:Nat)]):=JH (mQ (by rw[jg.Bg s c d.o f.o (by rw[a.o];rw[JX]at h1;omega) hc]));go_wp2_with fail
  go_ret2
  exact⟨by rw[b.o];rfl,rfl⟩
 all_goals
  have b:Hid (ox s.data.toList=.tuple #[.int .u8 (3:Nat),n]):=JH (mQ (by rw[jg.C8 s c d.o f.o (by rw[a.o];first|exact .inr hc|(left;rw[K0]at h1;omega)),a.o]));go_wp2_with fail
  go_ret2
  exact⟨by rw[b.o];rfl,rfl⟩
theorem zJ(s:ByteArray)(w:World)(hL:Laid w)(f:0<s.size)(p:jg.jS (s[0]).toNat=false)(hd:jg.kt (s[0]).toNat=false):
  Calls prog 210 #[.string s] w λe w'=>e=.returned (ox s.data.toList)/\w=w':=by
 obtain⟨_,q,r,g⟩:=hL;have t:=JH g;clear g;have j:=JH p;have l:=JH hd
 go_enter func210,ntmps210
 go_wp2_with (first|(go_at_call 263;refine(lD _ _).M ?_;rintro e w' ⟨rfl,rfl⟩)|(go_at_call 266;refine(mG _ _).M ?_;rintro e w' ⟨rfl,rfl⟩)|refine wpList_load_row rfl 404 _ rfl 8 rfl q _ r _ t.o zH rfl BZ ?_)
 go_loop [8,12] (λ_ i=>∃k:Nat,k<=25/\i=k/\∀a,a<k->jg.pfx s.data.toList (jg.syms[a]?.getD [])=false) (λ_ i=>25-(intOf i).toNat)
 case atStart=>exact⟨0,JV _,rfl,LC⟩
 case round=>
  obtain⟨k,x,rfl,m⟩:=hrel;have c:=JH m;clear m;by_cases n:k<25
  .have y:=λw=>DG w k n;go_wp2_with fail;refine(Tryz.strings_HasPrefix _ _ _).M ?_;rintro e w' ⟨rfl,rfl⟩;cases hp:jg.pfx s.data.toList (jg.syms[k]?.getD [])
   .have u:=JH hp;have b:Lib.hasPrefix s.data.toList ({data:=(jg.syms[k]?.getD []).toArray}:ByteArray).data.toList=false:=hp;clear hp;rw[b];clear b;go_wp2_with fail
    go_round
    case rel=>refine⟨k+1,LC,LI,λa v=>?_⟩;by_cases e:a=k;rw[e];exact u.o;exact c.o a LC
    case measure=>simp[intOf];omega
   have d:=JH (mQ (jg.C9 s f j.o l.o k n c.o hp));have b:Lib.hasPrefix s.data.toList ({data:=(jg.syms[k]?.getD []).toArray}:ByteArray).data.toList=true:=hp;clear hp;rw[b];clear b;go_wp2_with fail
   go_ret2
   exact⟨by rw[d.o];rfl,rfl⟩
  have d:=JH (mQ (jg.Bh s f j.o l.o (λa v=>c.o a LC)));go_wp2_with fail
  go_ret2
  exact⟨by rw[d.o];rfl,rfl⟩
end Go.Proofs.YtidmdcckbdmblaaGreatDoor.L
