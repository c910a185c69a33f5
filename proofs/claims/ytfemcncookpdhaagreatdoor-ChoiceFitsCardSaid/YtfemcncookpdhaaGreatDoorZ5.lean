import Derived.Test.YtfemcncookpdhaaGreatDoorZ2
import Derived.Test.YtfemcncookpdhaaGreatDoorZ3
import Derived.Test.YtfemcncookpdhaaGreatDoorZ4
set_option maxRecDepth 1000000
set_option maxHeartbeats 32000000
set_option linter.all false
namespace Go.Proofs.YtfemcncookpdhaaGreatDoor
open Go.RowKit lX Go.Proofs.Tryz
theorem vx{P:Ex->Prop}{S}{j:Nat}{sc}{left d:Nat}{T l w e}{op n:Int}{name:List UInt8}{k:Option Addr}{m c:Nat}{args:List Ex}(f:pK S j sc left T l w e)
  (p:km (kz .i64 d) (New w e) e (.slice k m c) args) (he:P (.mk op name n args)) (q r s t:Value):
  EPost P S j sc left (d+1) w (.returned (.agg #[.int .i64 op,tx name,n,.slice k m c])) ((((e.setCell ⟨w,0,none⟩ q).setCell ⟨w,1,none⟩ r).setCell ⟨w,2,none⟩ s).setCell ⟨w,3,none⟩ t):=by
 have hz:w≠j:=PH f.vV
 have g:∀b,S b->b≠w:=λb a=>PH (f.hS b a)
 have i:∀b,New w e b->b≠w:=λb a=>PH a.1
 refine⟨op,n,name,k,m,c,.mk op name n args,rfl,⟨_,rfl,?_⟩,he,(((f.hm.mr hz g).mr hz g).mr hz g).mr hz g,mD (mD (mD (mD f.hg)))⟩;refine((((p.mr (kz.ok _ _) i).mr (kz.ok _ _) i).mr (kz.ok _ _) i).mr (kz.ok _ _) i).M (kz.ok _ _) λb a=>⟨PH a.1,by simp only[NM];exact a.2,PI a.1 f.vV⟩
theorem oz{P:Ex->Prop}{S}{e:Nat}{sc}{left d:Nat}{T p w a}{o:Obj}{op n:Int}{name:List UInt8}{f:Option Addr}{m c:Nat}{args:List Ex}(g:pK S e sc left T p w a)
  (q:km (kz .i64 d) (New w (a.alloc o)) (a.alloc o) (.slice f m c) args) (he:P (.mk op name n args)) (i j k l:Value):
  EPost P S e sc left (d+1) w (.returned (.agg #[.int .i64 op,tx name,n,.slice f m c])) (((((a.setCell ⟨w,0,none⟩ i).setCell ⟨w,1,none⟩ j).setCell ⟨w,2,none⟩ k).setCell ⟨w,3,none⟩ l).alloc o):=by
 have b:=g.lt;have h:=vx (g.alloc o) q he i j k l;rw[Ol o _ _ _ b,Ol o _ _ _ (by rw[NM];exact b),Ol o _ _ _ (by simp only[NM];exact b),Ol o _ _ _ (by simp only[NM];exact b)]at h;exact h
theorem pK.mr{S}{a:Nat}{sc}{left:Nat}{T c w d}(h:pK S a sc left T c w d)(i:Nat)(u):pK S a sc left T (c.setIfInBounds i u) w (d.setCell ⟨w,i,none⟩ u):=
 ⟨ki h.hz,h.hm.mr (PH h.vV) (λb e=>PH (h.hS b e)),mD h.hg,h.vV,h.hS⟩
theorem su{d:Type}{R:Rel d}{k:Nat}(ok:kT R k){w a v}{xs:List d}(h:km R (New w a) a v xs)(i:Nat)(u):km R (New w (a.setCell ⟨w,i,none⟩ u)) (a.setCell ⟨w,i,none⟩ u) v xs:=
 (h.mr ok λb c=>PH c.1).M ok λb c=>⟨c.1,by rw[NM];exact c.2⟩
theorem pK.ly{S:Nat->Prop}{g:Nat}{sc:Sc}{left:Nat}{T:TypeId}{j k l m n p:Value}{w i:World}(h:pK S g sc left T #[j,k,l,m,n,p] w i)(a b c d e f:Value):pK S g sc left T #[a,b,c,d,e,f] w (ly i w.heap.size a b c d e f):=
 (((((h.mr 0 a).mr 1 b).mr 2 c).mr 3 d).mr 4 e).mr 5 f
theorem nD{b:Type}{R:Rel b}{k:Nat}(ok:kT R k){w a v}{xs:List b}(h:km R (New w a) a v xs)(c d e f g i):km R (New w (ly a w c d e f g i)) (ly a w c d e f g i) v xs:=
 su ok (su ok (su ok (su ok (su ok (su ok h _ _) _ _) _ _) _ _) _ _) _ _
theorem qq{S}{j:Nat}{sc}{D left left':Nat}{T l m n p q r}{o:Obj}{kind:Int}{name hd:List UInt8}{c d e:Option Addr}{f c1 g c2 i c3:Nat}{w a}{kV:List Ex}{th el:List St}(k:pK S j sc left' T #[l,m,n,p,q,r] w a)
  (s:km (kz .i64 De) (New w (a.alloc o)) (a.alloc o) (.slice c f c1) kV) (t:km (kE .i64 D) (New w (a.alloc o)) (a.alloc o) (.slice d g c2) th) (u:km (kE .i64 D) (New w (a.alloc o)) (a.alloc o) (.slice e i c3) el) (he:mq sc (D+1) (.mk kind name hd kV th el)) (v:kN D th+kN D el+left'<=left):
  qj S j sc D left w (.returned (.agg #[.int .i64 kind,tx name,tx hd,.slice c f c1,.slice d g c2,.slice e i c3])) ((ly a w (.int .i64 kind) (tx name) (tx hd) (.slice c f c1) (.slice d g c2) (.slice e i c3)).alloc o):=by
 have b:=k.lt;have h:=wA (left:=left) ((k.alloc o).ly (.int .i64 kind) (tx name) (tx hd) (.slice c f c1) (.slice d g c2) (.slice e i c3)) (nD (kz.ok _ _) s _ _ _ _ _ _) (nD (kE.ok _ _) t _ _ _ _ _ _) (nD (kE.ok _ _) u _ _ _ _ _ _) he v;unfold ly at h⊢;rw[Ol o _ _ _ b,Ol o _ _ _ (by simp only[NM];exact b),Ol o _ _ _ (by simp only[NM];exact b),Ol o _ _ _ (by simp only[NM];exact b),Ol o _ _ _ (by simp only[NM];exact b),Ol o _ _ _ (by simp only[NM];exact b)]at h;exact h
theorem yv{S}{i:Nat}{sc}{D left left':Nat}{T j k l m n p}{kind:Int}{name hd:List UInt8}{b c d:Option Addr}{e c1 f c2 g c3:Nat}{w a}{kV:List Ex}{th el:List St}(q:pK S i sc left' T #[j,k,l,m,n,p] w a)
  (r:km (kz .i64 De) (New w a) a (.slice b e c1) kV) (s:km (kE .i64 D) (New w a) a (.slice c f c2) th) (t:km (kE .i64 D) (New w a) a (.slice d g c3) el) (he:mq sc (D+1) (.mk kind name hd kV th el)) (u:kN D th+kN D el+left'<=left):
  qj S i sc D left w (.returned (.agg #[.int .i64 kind,tx name,tx hd,.slice b e c1,.slice c f c2,.slice d g c3])) (ly a w (.int .i64 kind) (tx name) (tx hd) (.slice b e c1) (.slice c f c2) (.slice d g c3)):=
 wA (left:=left) (q.ly (.int .i64 kind) (tx name) (tx hd) (.slice b e c1) (.slice c f c2) (.slice d g c3)) (nD (kz.ok _ _) r _ _ _ _ _ _) (nD (kE.ok _ _) s _ _ _ _ _ _) (nD (kE.ok _ _) t _ _ _ _ _ _) he u
theorem Good.mr{a z:Nat}(w)(i:Nat)(u):Good a z w (w.setCell ⟨z,i,none⟩ u):=⟨by rw[NM];exact NQ _,λb _ _ h=>NZ _ _ _ _ h⟩
theorem Good.ly{g z:Nat}(w:World)(a b c d e f:Value):Good g z w (ly w z a b c d e f):=
 ((((((Good.mr w 0 a).T (Good.mr _ 1 b)).T (Good.mr _ 2 c)).T (Good.mr _ 3 d)).T (Good.mr _ 4 e)).T (Good.mr _ 5 f))
theorem lR.lv{w0}{c:Nat}{S}(g:c<w0.heap.size)(hS:∀b,S b->b<w0.heap.size/\b≠c){x v w w'}(d:Good c w0.heap.size w w')(h:lR w0 S x v w):lR w0 S x v w':=by
 obtain⟨b,o,e,a,hc⟩:=h;have f:b<w/\b≠c/\b≠w0:=by rcases a with a|a;exact⟨a.2,PH a.1,PH a.1⟩;have:=hS b a.1;exact⟨a.2,this.2,PJ⟩
 refine⟨b,o,e,?_,(Cb b o (d.2 b f.1 f.2.1 f.2.2)).T hc⟩;rcases a with a|a;exact .inl ⟨a.1,ND a.2 d.1⟩;exact .inr ⟨a.1,ND a.2 d.1⟩
theorem mE.lv{e:Nat}{w0 w w'}{a d:Nat}{o n:Int}{name f}{m c:Nat}{x}(g:e<w0.heap.size)(b:Good e w0.heap.size w w')(h:mE w0 a d o n name f m c x w):mE w0 a d o n name f m c x w':=
 ⟨⟨h.1.1,ND h.1.2 b.1⟩,(b.2 a h.1.2 (PH h.1.1) (PH h.1.1)).T h.2.1,Gp g b h.2.2⟩
theorem kH.ly{S:Nat->Prop}{w:World}{a:Nat}{sc:Sc}{left:Nat}(h:kH S w a sc left){z:Nat}(hz:z≠a)(hS:∀b,S b->b≠z)(c d e f g i:Value):kH S (ly w z c d e f g i) a sc left:=
 (((((h.mr hz hS).mr hz hS).mr hz hS).mr hz hS).mr hz hS).mr hz hS
theorem vL.ly{z w0 w}{o:Nat}{c d e f g i}(j:w.heap[o]?=some z){a:Type}{R:Rel a}{k:Nat}(ok:kT R k){v}{xs:List a}(h:km R (vL z w (Nw w0 w)) w v xs):km R (λb=>Nw w0 w b/\b≠o) ((((((w.setCell ⟨o,0,none⟩ c).setCell ⟨o,1,none⟩ d).setCell ⟨o,2,none⟩ e).setCell ⟨o,3,none⟩ f).setCell ⟨o,4,none⟩ g).setCell ⟨o,5,none⟩ i) v xs:=
 have hs:∀b,(Nw w0 w b/\b≠o)->b≠o:=λ_ h=>h.2
 (((((vL.set j ok h).mr ok hs).mr ok hs).mr ok hs).mr ok hs).mr ok hs
theorem lp.lv{sc}(lK:sc.ints<=3/\sc.params<=2):∀{d:Nat} {e:Ex},lp sc d e->ml d e
 |0,_,h=>h.elim
 |d+1,e,h=>by
  rcases h with⟨f,i,g,_,c⟩|⟨f,i,g,c⟩|⟨f,hn,g,c⟩|⟨f,_,i,g,a,c,j⟩|⟨f,_,i,g,c⟩|⟨f,i,g,a,c,j⟩|⟨f,i,g,a,b,c,j,n⟩
  exact lB (k:=1) f (by omega) rfl (by rw[c];rfl) (λh=>by simp at h) (λ_=>i) (λ_=>g) (λh=>absurd rfl h) (by rw[c];simp);exact lB (k:=4) f (by omega) rfl (by rw[c];rfl) (λh=>by simp at h) (λ_=>i) (λh=>by omega) (λ_=>g) (by rw[c];simp);exact lB (k:=5) f (by omega) rfl (by rw[c];rfl) (λ_=>by rcases hn with⟨k,p,e⟩|⟨k,p,e⟩<;>rw[e];exact mQ letters.1 (by omega);exact mQ letters.2.1 (by omega)) (λh=>by simp at h) (λh=>by omega) (λ_=>g) (by rw[c];simp);exact lB (k:=6) f (by omega) rfl (by rw[c];rfl) (λ_=>by rw[i];exact mQ letters.2.2.1 (by omega)) (λh=>by simp at h) (λh=>by omega) (λ_=>g) (by rw[c];simpa using lp.lv lK j);exact lB (k:=8) f (by omega) rfl (by rw[c];rfl) (λ_=>by rw[i];exact mQ letters.2.2.1 (by omega)) (λh=>by simp at h) (λh=>by omega) (λ_=>g) (by rw[c];simp);exact lB (k:=9) f (by omega) rfl (by rw[c];rfl) (λh=>by simp at h) (λ_=>i) (λh=>by omega) (λ_=>g) (by rw[c];simpa using lp.lv lK j);have l:∀m∈e.args,ml d m:=(by rw[c];intro m hy;simp at hy;rcases hy with rfl|rfl;exact lp.lv lK j;exact lp.lv lK n);have q:e.op=11\/e.op=12\/e.op=13\/e.op=14\/e.op=15:=PJ;rcases q with f|f|f|f|f;exact lB (k:=11) f PJ rfl (by rw[c];rfl) (λh=>by simp at h) (λ_=>i) (λh=>PJ) (λ_=>g) l;exact lB (k:=12) f PJ rfl (by rw[c];rfl) (λh=>by simp at h) (λ_=>i) (λh=>PJ) (λ_=>g) l;exact lB (k:=13) f PJ rfl (by rw[c];rfl) (λh=>by simp at h) (λ_=>i) (λh=>PJ) (λ_=>g) l;exact lB (k:=14) f PJ rfl (by rw[c];rfl) (λh=>by simp at h) (λ_=>i) (λh=>PJ) (λ_=>g) l;exact lB (k:=15) f PJ rfl (by rw[c];rfl) (λh=>by simp at h) (λ_=>i) (λh=>PJ) (λ_=>g) l
theorem mO.lv{sc}(lK:sc.ints<=3/\sc.params<=2)(hf:sc.kM<=2):∀{d:Nat} {e:Ex},mO sc d e->ml d e
 |0,_,h=>h.elim
 |d+1,e,h=>by
  rcases h with⟨c,i,g,f⟩|⟨c,hn,g,f⟩|⟨c,_,i,g,a,f,l⟩|⟨c,i,g,a,f,l⟩|⟨c,i,g,a,b,f,l,n⟩|⟨c,i,g,a,b,f,l,n⟩
  rcases c with c|c;exact lB (k:=2) c (by omega) rfl (by rw[f];rfl) (λh=>by simp at h) (λ_=>i) (λh=>by omega) (λ_=>g) (by rw[f];simp);exact lB (k:=3) c (by omega) rfl (by rw[f];rfl) (λh=>by simp at h) (λ_=>i) (λh=>by omega) (λ_=>g) (by rw[f];simp);exact lB (k:=5) c (by omega) rfl (by rw[f];rfl) (λ_=>by rcases hn with e|⟨k,q,e⟩<;>rw[e];exact mQ letters.2.2.2.1 (by omega);exact mQ letters.2.2.2.2.1 (by omega)) (λh=>by simp at h) (λh=>by omega) (λ_=>g) (by rw[f];simp);exact lB (k:=7) c (by omega) rfl (by rw[f];rfl) (λ_=>by rw[i];exact mQ letters.2.2.1 (by omega)) (λh=>by simp at h) (λh=>by omega) (λ_=>g) (by rw[f];simpa using lp.lv lK l);exact lB (k:=10) c (by omega) rfl (by rw[f];rfl) (λh=>by simp at h) (λ_=>i) (λh=>by omega) (λ_=>g) (by rw[f];simpa using mO.lv lK hf l);have j:∀m∈e.args,ml d m:=(by rw[f];intro m hy;simp at hy;rcases hy with rfl|rfl;exact mO.lv lK hf l;exact mO.lv lK hf n);rcases c with c|c;exact lB (k:=22) c PJ rfl (by rw[f];rfl) (λh=>by simp at h) (λ_=>i) (λh=>PJ) (λ_=>g) j;exact lB (k:=23) c PJ rfl (by rw[f];rfl) (λh=>by simp at h) (λ_=>i) (λh=>PJ) (λ_=>g) j;have j:∀m∈e.args,ml d m:=(by rw[f];intro m hy;simp at hy;rcases hy with rfl|rfl;exact lp.lv lK l;exact lp.lv lK n);have p:e.op=16\/e.op=17\/e.op=18\/e.op=19\/e.op=20\/e.op=21:=PJ;rcases p with c|c|c|c|c|c;exact lB (k:=16) c PJ rfl (by rw[f];rfl) (λh=>by simp at h) (λ_=>i) (λh=>PJ) (λ_=>g) j;exact lB (k:=17) c PJ rfl (by rw[f];rfl) (λh=>by simp at h) (λ_=>i) (λh=>PJ) (λ_=>g) j;exact lB (k:=18) c PJ rfl (by rw[f];rfl) (λh=>by simp at h) (λ_=>i) (λh=>PJ) (λ_=>g) j;exact lB (k:=19) c PJ rfl (by rw[f];rfl) (λh=>by simp at h) (λ_=>i) (λh=>PJ) (λ_=>g) j;exact lB (k:=20) c PJ rfl (by rw[f];rfl) (λh=>by simp at h) (λ_=>i) (λh=>PJ) (λ_=>g) j;exact lB (k:=21) c PJ rfl (by rw[f];rfl) (λh=>by simp at h) (λ_=>i) (λh=>PJ) (λ_=>g) j
def Cc(d:Nat):Prop:=∀(S:Nat->Prop) (a w:World) (cb:Nat) (g i j k hd own b c e params V:Value) (f:List In) (op n:Int) (name:List UInt8) (l:Option Addr) (m c1:Nat) (args:List Ex) (d':Nat),d=d'+1->lO a cb g i j k hd own b c e params V f w->zg S a cb b c e params->km (kz .u8 d') S a (.slice l m c1) args->ml d (.mk op name n args)->f.length+qh d<=100000->
 Calls prog 213 #[.pointer (some ⟨cb,0,none⟩),.agg #[.int .u8 op,tx name,n,.slice l m c1]] w (uL a cb g i j k hd own b c e params V w (.tuple #[]) (rk f (qh d)))
theorem CG(S w p sc a)(b c:Nat)(d)(f cv:Nat)(g)(i j:Nat)(name)(t:Int)(h:rB S w p sc a b c d f cv g i j)(v:Cg sc name t):
  Calls prog 219 #[.agg #[.slice a b c,.slice d f cv,.slice g i j],tx name] w (kU (.tuple #[.int .u8 t,.int .i64 0]) w):=by
 have J:=h.lens;have q:Below w w (w.alloc (.cells #[.slice a b c,.slice d f cv,.slice g i j] 305)):=Ba _ _;have r:=NF w (.cells #[.slice a b c,.slice d f cv,.slice g i j] 305);have K:(w.alloc (.cells #[.slice a b c,.slice d f cv,.slice g i j] 305)).heap.size=w+1:=PK
 have H:=(h.kh q)
 have s:=v
 go_enter func219,ntmps219
 go_wp2_with fail;generalize w.alloc (.cells #[.slice a b c,.slice d f cv,.slice g i j] 305)=B at*;have y:w.heap.size<B:=PJ
 refine(pF S B g i j _ name H.params PJ H.ln).M ?_;rintro e L ⟨rfl,rfl⟩;obtain⟨⟨z,A,C⟩,_⟩:=kS r;have l:=H.ok;by_cases hm:name∈oI 112 sc.params
 .have hd:decide (name∈oI 112 sc.params)=true:=(by simp[hm]);have D:t=1:=by
   rcases s with⟨h,_⟩|⟨_,h⟩
   exact h;rcases h with rfl|⟨k,_,rfl⟩
   exact absurd hm (ow PM);exact absurd hm (ow PM)
  subst D;first|rw[hd]|skip
  go_wp2_with fail
  go_ret2
  exact⟨rfl,q⟩
 .have hd:decide (name∈oI 112 sc.params)=false:=(by simp[hm]);first|rw[hd]|skip
  go_wp2_with fail;refine(pG S B d f cv _ name H.vars PJ H.ln).M ?_;rintro e E ⟨rfl,m⟩;have u:=(q.T (m.M PJ))
  have M:=m.size;have F:(∃x,((lV sc.ints sc.kF).find? λx=>x.name==name)=some x/\x.ty=t/\t≠3)\/(((lV sc.ints sc.kF).find? λx=>x.name==name)=none/\pM p name=true/\t=2):=by
   rcases s with⟨rfl,⟨k,n,rfl⟩|⟨k,n,rfl⟩⟩|⟨rfl,rfl|⟨k,n,rfl⟩⟩
   exact .inl ⟨_,Ce l.yo l.kF n,rfl,PM⟩;exact absurd (KZ n) hm;exact .inl ⟨_,F5 l.Ai l.yo l.kF,rfl,PM⟩;exact .inr ⟨DM (.inl rfl),K0 H.Hz n,rfl⟩
  rcases F with⟨x,hx,rfl,G⟩|⟨hx,hf,rfl⟩
  .rw[hx];have N:(x.ty==3)=false:=(by rw[NX];exact G);simp only[pP];go_wp2_with fail
   go_ret2
   exact⟨rfl,u.alloc PJ _⟩
  rw[hx];simp only[pP];obtain⟨⟨z,A,C⟩,_⟩:=kS ((m.B _ y).T r);have O:w.heap.size<E:=PJ;go_wp2_with fail;refine(rM S _ a b c p name ((H.kh m).kh (Ba _ _)).kM PJ ((H.kh m).kh (Ba _ _)).ln).M ?_;rw[hf];rintro e P ⟨rfl,I⟩;go_wp2_with fail
  go_ret2
  exact⟨rfl,(u.alloc PJ _).T (I.M (by rw[NB];omega))⟩
structure wm(S:Nat->Prop)(w:World)(BS:List Fg)(sc:Sc)(AF:Option Addr)(nf cf:Nat)(AV:Option Addr)(nv cv:Nat)(AP:Option Addr)(np cp:Nat)(bb cb:Nat)(f0 f1 f2 f3 o0 o1 o2:Value)(pl:ByteArray)(cnt:Nat):Prop where
 sc:rB S w BS sc AF nf cf AV nv cv AP np cp
 BV:tW cb f0 f1 f2 f3 w
 bd:Bd bb cb AF nf cf AV nv cv AP np cp o0 o1 o2 pl cnt w
 ne:bb≠cb
 ln:∀q,S q->q≠bb/\q≠cb
theorem wm.kh{S w c sc d}{e f:Nat}{g}{i cv:Nat}{j}{k l:Nat}{a cb:Nat}{m n p q r o1 o2 s}{t:Nat}(h:wm S w c sc d e f g i cv j k l a cb m n p q r o1 o2 s t){w'}(b:Below w w w'):wm S w' c sc d e f g i cv j k l a cb m n p q r o1 o2 s t:=
 ⟨h.sc.kh b,h.BV.kh b h.BV.lt,⟨(b.B a (NC.1 h.bd.kI).1).T h.bd.kI⟩,h.ne,h.ln⟩
structure ua(S:Nat->Prop)(w:World)(sc:Sc)(ky:List Co)(A3:Option Addr)(m3 c3:Nat)(o0 o1 o2:Value):Prop where
 cs:km (mg .u8) S w (.slice A3 m3 c3) ky
 len:ky.length<=3
 MH:∀(i:Nat) (c:Co),ky[i]?=some c->c.name=kB i
 hd:∀(i:Nat) (c:Co) (al:List Nat),ky[i]?=some c->sc.nK[i]?=some al->al.length<=3/\(∀hs∈c.kY,∀(k:Nat) (h:Hd),hs[k]?=some h->∃a,al[k]?=some a/\h.name=nm 104 k/\h.params=oI 112 a)/\(∃hs∈c.kY,hs.length=al.length)/\c.kY.length<=1000/\∀l∈c.kY,l.length<=1000
 MI:ky.length=sc.nK.length
 own:∃c,ky[sc.own]?=some c/\uG S w c (.agg #[o0,o1,o2])
theorem ua.kg{S w w' sc a b}{d c3:Nat}{e o1 o2}(h:ua S w sc a b d c3 e o1 o2)(f:∀q,S q->w'.heap[q]?=w.heap[q]?):ua S w' sc a b d c3 e o1 o2:=by obtain⟨c,g,i⟩:=h.own;exact⟨h.cs.kg (mg.ok _) f,h.len,h.MH,h.hd,h.MI,c,g,i.kg f⟩
theorem nG.kh{X w w'}{B:Nat}(h:nG X w w')(a:B<=w)(b:∀k,X k->B<=k):Below B w w':=⟨h.os,h.tape,h.output,h.size,λk c=>h.B k (ND c a) λhx=>PH (b k hx)⟩
theorem wm.but{S w r sc b}{c d:Nat}{e}{f cv:Nat}{g}{i j:Nat}{a cb:Nat}{k l m n p o1 o2 x}{y:Nat}{s}{t:Nat}(h:wm S w r sc b c d e f cv g i j a cb k l m n p o1 o2 x y){w'}(u:nG (Bb a cb) w w')(hc:tW cb k l m n w')(hd:Bd a cb b c d e f cv g i j p o1 o2 s t w'):wm S w' r sc b c d e f cv g i j a cb k l m n p o1 o2 s t:=
 ⟨h.sc.kg (λq v=>u.B q (h.sc.ln q v) (λhx=>by have:=h.ln q v;rcases hx with hx|hx;exact this.1 hx;exact this.2 hx)) u.size,hc,hd,h.ne,h.ln⟩
theorem wm.blk{S w c sc d}{e f:Nat}{g}{i cv:Nat}{j}{k l:Nat}{a cb:Nat}{m n p r s o1 o2 t}{u:Nat}(h:wm S w c sc d e f g i cv j k l a cb m n p r s o1 o2 t u){w'}(v:nG (Bb a cb) w w'):∀q,S q->w'.heap[q]?=w.heap[q]?:=
 λq b=>v.B q (h.sc.ln q b) (λhx=>by have:=h.ln q b;rcases hx with hx|hx;exact this.1 hx;exact this.2 hx)
theorem wm.kI{S w g sc i}{j k:Nat}{l}{m cv:Nat}{n}{p q:Nat}{a cb:Nat}{b c d f r o1 o2 s}{t:Nat}(h:wm S w g sc i j k l m cv n p q a cb b c d f r o1 o2 s t){w'}(hc:tW cb b c d f w')(u:w.grownBy w' (some cb)):wm S w' g sc i j k l m cv n p q a cb b c d f r o1 o2 s t:=
 h.but (.grown u (.inr rfl)) hc ⟨(u.B a (NC.1 h.bd.kI).1 (by intro e;injection e with e;exact h.ne e)).T h.bd.kI⟩
def Ig(S:Nat->Prop)(b:List Fg)(sc:Sc)(c:Option Addr)(d f:Nat)(g:Option Addr)(i cv:Nat)(j:Option Addr)(k l:Nat)(a cb:Nat)(m n p q r o1 o2:Value)(s:ByteArray)(t:Nat)(w0:World)(e:Ending)(w':World):Prop:=e=.returned (.tuple #[])/\wm S w' b sc c d f g i cv j k l a cb m n p q r o1 o2 s t/\nG (Bb a cb) w0 w'
def JY(d:Nat):Prop:=∀(S:Nat->Prop) (w:World) (i:List Fg) (sc:Sc) (j:Option Addr) (k n:Nat) (p:Option Addr) (q cv:Nat) (r:Option Addr) (t u:Nat) (a cb:Nat) (v x y b e o1 o2:Value) (f:ByteArray) (g:Nat) (C:List Co) (z:Option Addr) (A c3:Nat) (B:Option Addr) (m c:Nat) (l:List St),wm S w i sc j k n p q cv r t u a cb v x y b e o1 o2 f g->ua S w sc C z A c3 e o1 o2->b=.slice z A c3->km (kE .u8 d) S w (.slice B m c) l->(∀s∈l,mq sc d s)->g+kN d l<=90->f.size<=100000000->
 Calls prog 176 #[.pointer (some ⟨a,0,none⟩),.slice B m c] w (Ig S i sc j k n p q cv r t u a cb v x y b e o1 o2 f (g+kN d l) w)
theorem ua.of{S w b g}{j c3 q k:Nat}{d f o1 o2}(sc)(r:sc.nK=d)(s:sc.own=k)(t:km (mg .u8) S w (.slice g j c3) b)(u:b.length<=3)(m:∀i c,b[i]?=some c->xK q d i c)(v:d.length=b.length)(x:∀l∈d,1<=l.length/\l.length<=3/\∀a∈l,a<=2)(y:b[k]?=some f)(z:uG S w f (.agg #[tx (kB k),o1,o2])):ua S w sc b g j c3 (tx (kB k)) o1 o2:=by subst r s;refine⟨t,u,λi c h=>?_,λi c A hc n=>?_,v.symm,f,y,z⟩;obtain⟨_,_,_,_,_,_,h,_⟩:=(m i c h).ex;exact h;obtain⟨ints,K,L,_,_,_,_,_,M,N,e,p,B⟩:=(m i c hc).ex;rw[n]at e;injection e with e;subst e;have C:=(x A (NH n)).2.1;refine⟨C,λhs hm D h E=>?_,B,PJ,λl F=>PH ((p l F).2.1)⟩;obtain⟨a,G,I,J,_⟩:=(p hs hm).2.2 D h E;exact⟨a,G,I,J⟩
theorem Br(S w p)(n c:Nat)(xs name)(b:Nat)(s:km (mg .u8) S w (.slice p n c) xs)(U:n<=1000)(hS:∀q,S q->q<w)(hn:w.cell? ⟨b,1,none⟩=some (tx name))(I:b<w)(hex:∃x∈xs,x.name=name):
  Calls prog 203 #[.slice p n c,.func (.func 204) #[] #[.pointer (some ⟨b,0,none⟩)]] w λe w'=>∃r:Nat,r<n/\e=.returned (.int .i64 (r:Int))/\Below w w w':=by
 have J:=EF;unfold ma at J;have t:=s.len;have hc:=t.2;have u:=t.1;have K:=s;have v:=hS;have L:=hn;have M:=hex
 go_enter func203,ntmps203
 go_wp2;go_loopw [8] (λi wr=>∃k:Nat,k<=n/\i=k/\(∀a x,a<k->xs[a]?=some x->x.name≠name)/\Below w w wr) (λi _=>n-(intOf i).toNat);case atStart=>exact⟨0,NP _,rfl,λa x j=>PJ,Below.refl _ _⟩
 case round=>
  obtain⟨k,V,rfl,y,f⟩:=hrel;have z:=f.size;have N:=((Cb b 1 (f.B b I)).T L)
  by_cases O:k<n
  .obtain⟨x,A⟩:∃x,xs[k]?=some x:=Gx (PH u);obtain⟨B,W,r,rfl,P,hr,l⟩:=(K.kg (mg.ok _) (λq d=>f.B q (v q d))).kI (mg.ok _) k x A;obtain⟨C,D,c1,E,F,c2,rfl,_,_⟩:=hr.qH;have Q:=l 0 _ rfl;have X:=l 1 _ rfl;have Y:=l 2 _ rfl;rw[NS]at Q;have Z:B<wr:=PH (v B P);have G:=(Il x.name name (.slice C D c1) (.slice E F c2) rfl rfl C D c1 E F c2 rfl rfl b wr N PJ)
   cases d:(x.name==name)
   .go_wp2_with (refine G.M ?_;rw[d];rintro e R ⟨rfl,g⟩;have m:=(f.T (g.M z));clear g);go_roundw;case rel=>refine⟨k+1,PJ,PQ,λa T j hy=>?_,m⟩;by_cases e:a=k;rw[e,A]at hy;injection hy with hy;rw[<-hy];intro h;rw[h]at d;simp at d;exact y a T PJ hy
    case measure=>simp[intOf];omega
   go_wp2_with (refine G.M ?_;rw[d];rintro e R ⟨rfl,g⟩;have m:=(f.T (g.M z));clear g);go_ret;exact⟨k,O,rfl,m⟩
  obtain⟨x,hx,e⟩:=M;obtain⟨a,j⟩:=Pz hx;exact absurd e (y a x (PI ((NW.1 j).1) u) j)
theorem pA.ok:kT pA 1:=
 ⟨PJ,λ⟨v,h,_⟩=>by rw[h];rfl,λ⟨v,h,a⟩ u hu=>by rw[h]at hu;simp at hu;subst hu;exact a.one,λ⟨v,h,a⟩ b=>⟨v,h,a.M kA.ok b⟩,λ⟨v,h,a⟩ c=>⟨v,h,a.kg kA.ok c⟩⟩
structure rp(w:World):Prop where
 lt:5<w.heap.size
 kI:∀k:Nat,k<=34->∃(t u:ByteArray) (p q:Int),w.cell? ⟨5,k*4,none⟩=some (.string t)/\w.cell? ⟨5,k*4+1,none⟩=some (.string u)/\w.cell? ⟨5,k*4+2,none⟩=some (.int .i64 p)/\w.cell? ⟨5,k*4+3,none⟩=some (.int .i64 q)
theorem rp.kg{w w'}(h:rp w)(a:w'.heap[(5:Nat)]?=w.heap[(5:Nat)]?)(hs:w.heap.size<=w'.heap.size):rp w':=
 ⟨ND h.lt hs,λk b=>by obtain⟨t,u,p,q,c,d,e,f⟩:=h.kI k b;exact⟨t,u,p,q,(Cb 5 (k*4) a).T c,(Cb 5 (k*4+1) a).T d,(Cb 5 (k*4+2) a).T e,(Cb 5 (k*4+3) a).T f⟩⟩
theorem Io(k:Nat)(a:k<=34)(w)(h:rp w):
  Calls prog 179 #[.int .u8 (k:Int)] w (Im w):=by
 obtain⟨t,u,p,q,b,c,d,e⟩:=h.kI k a;have f:=h.lt
 go_enter func179,ntmps179
 go_wp2;refine NT (v:=.agg #[.string t,.string u,p,q]) ?_ rfl ⟨t,u,p,q,rfl,?_⟩
 .simp[results,Tryz.results179,go_sem]
 .exact Ba _ _
structure rv(hb hh n:Nat)(w:World):Prop where
 var:w.heap[hb]?=some (.cells #[.slice (some ⟨hh,0,none⟩) n n] 44 (0,0))
 row:∃l:List Int,l.length=n/\w.heap[hh]?=some (.cells (px l) 3 (0,0))
 ne:hb≠hh
def J2(c a n:Nat)(w:World)(e:Ending)(w':World):Prop:=∃b:Bool,e=.returned (.bool b)/\rv c a n w'/\w.grownBy w' (some a)
theorem EK(n:Nat)(hn:n<=100001)(w):(Instr.makeSlice 44 (.int .i64 (n:Int)) (.int .i64 (n:Int))).run prog w=.ok (.slice (some ⟨w,0,none⟩) n n) (w.alloc (.cells (px (List.replicate n 0)) 3)):=by obtain⟨b,c,d,a,e⟩:=N4 GG;have:=O9 (P:=prog) w 44 3 b (.int .i64 0) underlying44 c d .i64 .i64 (n:Int) (n:Int) PJ (Pb _) (by rw[a];simp;omega) (by rw[e];omega) PJ;rw[a,Og,Oq]at this;rw[this,<-EJ];rfl
theorem rv.kh{a b n:Nat}{w w'}(h:rv a b n w)(c:Below w w w'):rv a b n w':=by obtain⟨l,d,hr⟩:=h.row;exact⟨(c.B _ (NC.1 h.var).1).T h.var,⟨l,d,(c.B _ (NC.1 hr).1).T hr⟩,h.ne⟩
theorem nU.kg{S w w' v}(h:nU S w v)(a:∀q,S q->w'.heap[q]?=w.heap[q]?):nU S w' v:=by obtain⟨b,n,c,xs,e,hs,hn⟩:=h;exact⟨b,n,c,xs,e,hs.kg kA.ok a,hn⟩
theorem xM.ok(k:Nat)(a:0<k):kT (xM k) k:=⟨a,λh=>h.1,λh=>h.2,λh _=>h,λh _=>h⟩
theorem nb.lt{T w}{b n:Nat}(h:nb T w b n):b<w:=by obtain⟨c,a,_⟩:=h;exact(NC.1 a).1
theorem CM(n:Nat)(hn:n<=1000)(w):(Instr.makeSlice 215 (.int .i64 (n:Int)) (.int .i64 (n:Int))).run prog w=.ok (.slice (some ⟨w,0,none⟩) n n) (w.alloc (.cells (madeCells #[.int .i64 0,.int .i64 0,Nl] (n*3)) 219)):=by obtain⟨b,c,d,a,e⟩:=N4 AJ;have:=O9 (P:=prog) w 215 219 b _ underlying215 c d .i64 .i64 (n:Int) (n:Int) PJ (Pb _) (by rw[a];simp;omega) (by rw[e];omega) PJ;rw[a,Oq]at this;exact this
theorem CN(n:Nat)(hn:n<=1000)(w):(Instr.makeSlice 216 (.int .i64 (n:Int)) (.int .i64 (n:Int))).run prog w=.ok (.slice (some ⟨w,0,none⟩) n n) (w.alloc (.cells (madeCells #[.bool false] n) 4)):=by obtain⟨b,c,d,a,e⟩:=N4 AK;have:=O9 (P:=prog) w 216 4 b _ underlying216 c d .i64 .i64 (n:Int) (n:Int) PJ (Pb _) (by rw[a];simp;omega) (by rw[e];omega) PJ;rw[a,Og,Oq]at this;exact this
theorem qI:kT (xM 1) 1:=xM.ok 1 PJ
theorem sO.lt{a x V}{n:Nat}(h:sO a x V n):∀z,V.ownBlock=some z->a<=z/\z<x:=by obtain⟨xs,b,_⟩:=h;exact b.ge
end Go.Proofs.YtfemcncookpdhaaGreatDoor
namespace Go.Proofs.YtfemcncookpdhaaGreatDoor
open Go.RowKit Go.Proofs.Tryz
theorem vN{m:Type}{P}{w:World}(t)(p:TypeId)(e i z)(size f:Nat)(q:P.underlying t=some (.slice e))(hi:P.info? e=some i)(hz:i.zero=some z)
  (J:i.size=size) (K:i.bytes=f) (L:z.cells.size=size) {R:Rel m} (ok:kT R size) {S:Nat->Prop} (hS:∀b,S b->b<w) {c:Addr} {n:Nat} {xs ys:List m} {s:Value}
  (v:km R S w (.slice (some c) n n) xs) (j:km R S w s ys) (M:n+ys.length<=maxLen) (N:(n+ys.length)*f<=140737488355328):
  ∃y A B w',(Builtin.append_ #[t,t] p #[.slice (some c) n n,s]).run P w=.ok (.slice y A B) w'/\km R (λb=>S b\/(w<=b/\b<w')) w' (.slice y A B) (xs++ys)/\w.grownBy w' none:=by
 by_cases hy:ys=[]
 .subst hy;obtain⟨C,c2,l,rfl,_⟩:=j;refine⟨some c,n,n,w,?_,by rw[List.append_nil];exact v.M ok λb a=>.inl a,World.grownBy.refl w none⟩;cases C<;>simp[Builtin.append_,PB q,sizeOf,typeInfo,hi,Builtin.lenOf,Builtin.firstCells,storeCells,loadCells,loadCellsFrom]
 .obtain⟨D,E,_,O,Q,T,_⟩:=v.cells ok;obtain⟨C,c2,U,V,aj,ak,W,X⟩:=id j;subst V;have Y:U.flatten≠[]:=by
   intro e;have:=kZ.flat (k:=size) (λr x h=>ok.len h) X;rw[e]at this;have hp:=ok.pos;have:ys.length=0:=by have F:ys.length*size=0:=(by simpa using this.symm);rcases Nat.mul_eq_zero.1 F with h|h;exact h;omega
   exact hy (OQ this)
  obtain⟨Z,o2,rfl,_,_⟩:=W Y;obtain⟨l,al,_,aa,ab,ac,_⟩:=j.cells ok;have am:0<ys.length:=List.length_pos_iff.2 hy;obtain⟨an,w',ad,ae,G⟩:=run_append_arg_grows (P:=P) (w:=w) t p e i z size f q hi hz J K L ok.pos c n n D.flatten O T ⟨Z,o2,none⟩ ys.length c2 l.flatten aa ac PJ M N;rcases ae.2 with⟨rfl,F⟩|⟨g,af,ao,rfl,a,I,ag,ah,ap,ai⟩
  omega;refine⟨_,_,_,w',ad,⟨_,af,D++l,by rw[N2,E],by rw[N2,E];exact ag,by unfold maxLen at ah;omega,λ_=>⟨g,0,rfl,.inr ⟨a,(NC.1 I).1⟩,λaq u d=>?_⟩,?_⟩,G⟩;rw[List.flatten_append,<-ai,OJ]at d;split at d;rw[NY];simp only[World.cell?,I];simpa using d;cases d;exact(kZ.app ab Q).imp λr x hx=>ok.M (ok.kg hx λb a=>G.B b (hS b a) PK) λb a=>.inl a
end Go.Proofs.YtfemcncookpdhaaGreatDoor
namespace lX
theorem mq.sub{sc}{d:Nat}{s}(h:mq sc (d+1) s):(∀x∈s.th,mq sc d x)/\∀x∈s.el,mq sc d x:=by
 rcases h with⟨_,_,a,b,_⟩|⟨_,_,_,_,a,b,_⟩|⟨_,_,_,_,a,b,_⟩|⟨_,_,_,_,a,b⟩|⟨_,_,_,b,_,a⟩|⟨_,a,b,_⟩|⟨_,_,a,b,_⟩|⟨_,_,_,a,_,b⟩|⟨_,_,a,_,_,b⟩|⟨_,_,_,a,b,_⟩
 all_goals (constructor<;>first|exact a|exact b|(rw[a];intro x hx;simp at hx)|(rw[b];intro x hx;simp at hx))
theorem vZ{sc}:∀{d:Nat} {l:List St},(∀s∈l,mq sc d s)->l.length<=kN d l
 |0,l,h=>by cases l with|nil=>simp|cons s l=>exact(h s (List.mem_cons_self ..)).elim
 |d+1,[],_=>by simp
 |d+1,s::l,h=>by have:=vZ (d:=d+1) (l:=l) λx hx=>h x (List.mem_cons_of_mem _ hx);simp only[kN,List.map_cons,List.sum_cons,List.length_cons]at this⊢;omega
theorem K2{sc f hs}(l:f.length<=3)(g:sN sc f hs){c:Nat}{x}(hx:hs[c]?=some x):((([hs.take c]:List (List Hd)).flatten).find? λd=>d.name==x.name)=none:=by
 rw[List.find?_eq_none];intro d hy e;rw[List.flatten_cons,List.flatten_nil,List.append_nil]at hy;obtain⟨q,b⟩:=List.getElem?_of_mem hy;rw[List.getElem?_take]at b;split at b;case isFalse=>simp at b
 case isTrue m=>obtain⟨a,i,hn,_⟩:=g q d b;obtain⟨n,j,k,_⟩:=g c x hx;have p:=(List.getElem?_eq_some_iff.1 i).1;have r:=(List.getElem?_eq_some_iff.1 j).1;rw[hn,k,beq_iff_eq]at e;have:=F8 PJ PJ e;omega
theorem Ik{sc:Sc}{g:List Nat}{d:List (List Hd)}(w:g.length<=3)(i:∀hs∈d,sN sc g hs){hs:List Hd}{j v:Nat}{x f:Hd}(m:hs∈d)(hx:hs[j]?=some x)(hf:((d.take v).flatten.find? λz=>z.name==x.name)=some f):f.params.length=x.params.length:=by obtain⟨l,n,hy⟩:=List.mem_flatten.1 (List.mem_of_find?_eq_some hf);have hn:=List.find?_some hf;obtain⟨q,p⟩:=List.getElem?_of_mem hy;obtain⟨a,k,r,s,_⟩:=i l (List.mem_of_mem_take n) q f p;obtain⟨b,c,t,u,_⟩:=i hs m j x hx;have y:=(List.getElem?_eq_some_iff.1 k).1;have A:=(List.getElem?_eq_some_iff.1 c).1;rw[r,t,beq_iff_eq]at hn;have e:=F8 PJ PJ hn;subst e;rw[k]at c;injection c with c;rw[s,u,c]
theorem Dq.len{a}:∀{d:Nat} {l:List St},(∀s∈l,Dq a d s)->l.length<=kN d l
 |0,l,h=>by cases l with|nil=>simp|cons s l=>exact(h s (List.mem_cons_self ..)).elim
 |d+1,[],_=>by simp
 |d+1,s::l,h=>by have:=Dq.len (d:=d+1) (l:=l) λx hx=>h x (List.mem_cons_of_mem _ hx);simp only[kN,List.map_cons,List.sum_cons,List.length_cons]at this⊢;omega
end lX
namespace Go.Proofs.YtfemcncookpdhaaGreatDoor
open Go.RowKit lX Go.Proofs.Tryz
structure Ef(S:Nat->Prop)(w3:World)(f3 hd own:Value)(ky:List Co)(nl:List (List (List UInt8)))(o:Nat):Prop where
 cs:∃(A3:Option Addr) (c3:Nat),f3=.slice A3 ky.length c3/\km (mg .u8) S w3 f3 ky
 len:ky.length<=3
 ns:∃(Ah:Option Addr) (ch:Nat),hd=.slice Ah ky.length ch/\km pA S w3 hd nl
 KP:∀l∈nl,l.length<=1000
 own:own=o/\o<ky.length
def J0(c:World)(cb:Nat)(d f g i hd own j k l params:Value)(V:Value)(w:World)(Q:List In->Nat->Prop)(e:Ending)(w':World):Prop:=∃r:Nat,e=.returned (.int .i64 (r:Int))/\∃a b,lO c cb d f g i hd own j k l params a b w'/\mX cb V w a w'/\Q b r
abbrev FR(P:(Nat->Prop)->World->World->Nat->Value->Value->Value->Value->Value->Value->Value->Value->Value->Value->Value->List In->List Co->Prop):Prop:=
 ∀(S:Nat->Prop) (a w:World) (cb:Nat) (f g i b hd own c d e params V:Value) (j:List In) (k:List Co) (l:List (List (List UInt8))) (o:Nat),lO a cb f g i b hd own c d e params V j w->zg S a cb c d e params->Ef S a b hd own k l o->P S a w cb f g i b hd own c d e params V j k
def Dx(d:Nat):Prop:=FR λS a w cb f g i j hd own k n p params V b q=>∀(e:Option Addr) (m c:Nat) (l:List St),km (kE .u8 d) S a (.slice e m c) l->(∀s∈l,Dq q d s)->b.length+400*kN d l<=90000->
 Calls prog 144 #[.pointer (some ⟨cb,0,none⟩),.slice e m c] w (uL a cb f g i j hd own k n p params V w (.tuple #[]) (mC b (400*kN d l)))
def F9(d:Nat):Prop:=FR λS a w cb g i j k hd own n p q params V b t=>∀(e:Option Addr) (m c:Nat) (l:List St),km (kE .u8 d) S a (.slice e m c) l->(∀s∈l,Dq t d s)->b.length+400*kN d l+1<=90000->
 Calls prog 202 #[.pointer (some ⟨cb,0,none⟩),.slice e m c] w (J0 a cb g i j k hd own n p q params V w (λf r=>mC b (400*kN d l+1) f/\r<=f.length))
def Jy(d:Nat):Prop:=FR λS a w cb n p q r hd own s t u params V b v=>∀(c:Int) (name e:List UInt8) (f:List Ex) (th el:List St) (g:Option Addr) (i c1:Nat) (j:Option Addr) (k c4:Nat) (l:Option Addr) (m c5:Nat) (d':Nat),d=d'+1->km (kz .u8 De) S a (.slice g i c1) f->km (kE .u8 d') S a (.slice j k c4) th->km (kE .u8 d') S a (.slice l m c5) el->Dq v d (.mk c name e f th el)->b.length+400*(1+kN d' th+kN d' el)<=90000->
 Calls prog 177 #[.pointer (some ⟨cb,0,none⟩),.agg #[.int .u8 c,tx name,tx e,.slice g i c1,.slice j k c4,.slice l m c5]] w (uL a cb n p q r hd own s t u params V w (.tuple #[]) (mC b (400*(1+kN d' th+kN d' el))))
theorem EH:Jy 0:=λ_ _ _ _ _ _ _ _ _ _ _ _ _ _ _ _ _ _ _ _ _ _ _ _ _ _ _ _ _ _ _ _ _ _ _ _ _ _ d' hd=>absurd hd PJ
def J4(w:World)(cb a:Nat)(b c d f hd own g i j:Value)(e:Ending)(w':World):Prop:=
 ∃(t:Int) (k:Option Addr) (n' l:Nat),e=.returned (.agg #[.int .i64 (a:Int),t,.slice k n' l])/\w.grownBy w' (some cb)/\∃P' m:Value,w'.heap[cb]?=some (.cells #[b,c,d,f,hd,own,g,i,j,P',m] 152 (0,0))
theorem wD{T b w}{lo i:Nat}{P P'}{k j:Nat}{V c}{d f:Type}{R:Rel d}{l:Rel f}{m:List d}{n:List f}(h:kx R T k P w lo V m)(p:kx l b j P' w i c n)(q:T≠b):∀z,V.ownBlock=some z->c.ownBlock≠some z:=by
 intro z hz e;obtain⟨_,r,_⟩:=h.own;obtain⟨_,s,_⟩:=p.own;rcases r.2 with⟨rfl,_⟩|⟨g,u,v,rfl,_,t,_⟩
 simp[Value.ownBlock]at hz;rcases s.2 with⟨rfl,_⟩|⟨x,y,A,rfl,_,a,_⟩
 simp[Value.ownBlock]at e;simp only[Value.ownBlock,Option.some.injEq]at hz e;subst hz;subst e;rw[t]at a;injection a with a;injection a with _ a _;exact q a
end Go.Proofs.YtfemcncookpdhaaGreatDoor
