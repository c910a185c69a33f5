import Derived.Test.YtfemcncookpdhaaGreatDoorZ1
set_option maxRecDepth 1000000
set_option maxHeartbeats 32000000
set_option linter.all false
namespace Go.Proofs.YtfemcncookpdhaaGreatDoor
open Go.RowKit lX Go.Proofs.Tryz
theorem km.imp{a:Type}{R b:Rel a}{S w v}{xs:List a}(h:km R S w v xs)(hi:∀r x,R S w r x->b S w r x):km b S w v xs:=by obtain⟨d,c,e,f,g,i,j,k⟩:=h;exact⟨d,c,e,f,g,i,j,k.imp hi⟩
theorem kz.up(q:IntKind):∀{d d':Nat} {S:Nat->Prop} {w:World} {r:List Value} {e:Ex},d<=d'->kz q d S w r e->kz q d' S w r e
 |0,_,_,_,_,_,_,h=>h.elim
 |d+1,0,_,_,_,_,hd,_=>PJ
 |d+1,d'+1,_,_,_,_,hd,⟨v,h,hs⟩=>⟨v,h,hs.imp λ_ _ hx=>kz.up q PJ hx⟩
theorem kE.up(q:IntKind):∀{d d':Nat} {S:Nat->Prop} {w:World} {r:List Value} {e:St},d<=d'->kE q d S w r e->kE q d' S w r e
 |0,_,_,_,_,_,_,h=>h.elim
 |d+1,0,_,_,_,_,hd,_=>PJ
 |d+1,d'+1,_,_,_,_,hd,⟨v1,v2,v3,h,h1,h2,h3⟩=>⟨v1,v2,v3,h,h1,h2.imp λ_ _ hx=>kE.up q PJ hx,h3.imp λ_ _ hx=>kE.up q PJ hx⟩
theorem lT(w:World)(a:List Value)(t:TypeId):∀b u,a[b]?=some u->(w.alloc (.cells a.toArray t)).cell? ((⟨w,0,none⟩:Addr).add b)=some u:=by
 intro b u d;have e:(w.alloc (.cells a.toArray t)).heap[w.heap.size]?=some (.cells a.toArray t (0,0)):=NF w _;have c:=kf e b u (by simpa using d);unfold Addr.add;split
 rename_i h;subst h;exact c
 simpa using c
def mj(l:List (List UInt8))(w:World)(e:Ending)(w':World):Prop:=∃v,e=.returned v/\kx kA 9 1 (λ_=>False) w' w v l/\Below w w w'
theorem km.tail{f:Type}{R:Rel f}(ok:kT R 1){S w g}{c:Nat}{x:f}{xs:List f}(h:km R S w (.slice g (xs.length+1) c) (x::xs)):
  km R S w (.slice (if c=1 then g else Option.map (λx=>x.add 1) g) xs.length (c-1)) xs:=by
 obtain⟨v,y,m,a,n,z,p,d⟩:=h;injection a with a _ q;subst a q;cases m with
 |nil=>exact d.elim
 |cons r l=>
  have i:=ok.len d.1;have A:xs.length+1<=c:=(by simpa using n);refine⟨_,c-1,l,rfl,PJ,PJ,λs=>?_,d.2⟩;have B:0<xs.length:=by have C:=kZ.flat (k:=1) (λr x h=>ok.len h) d.2;have:0<l.flatten.length:=List.length_pos_iff.2 s;omega
  obtain⟨b,o,rfl,t,hc⟩:=p (by rw[OS];intro e;have:=Oy List.length e;rw[N2,i]at this;simp at this);refine⟨b,o+1,?_,t,λj u hu=>?_⟩;rw[Od PJ];have a:(⟨b,o,none⟩:Addr).add 1=⟨b,o+1,none⟩:=rfl;simp[a];rw[show o+1+j=o+(j+1) from PJ];refine hc (j+1) u ?_;rw[OS,OA (by rw[i];omega),i,Nat.add_sub_cancel];exact hu
theorem ki{w:World}{b i:Nat}{a:Array Value}{t:TypeId}{u:Value}(h:w.heap[b]?=some (.cells a t (0,0))):(w.setCell ⟨b,i,none⟩ u).heap[b]?=some (.cells (a.setIfInBounds i u) t (0,0)):=by simp[World.setCell,Array.getElem?_modify,h]
theorem kv(w:World)(R i:Nat)(v:Value):w.grownBy (w.setCell ⟨R,i,none⟩ v) (some R):=
 ⟨rfl,rfl,rfl,by rw[NM];exact NQ _,λk _ a=>NZ _ _ _ _ (λe=>a (by rw[e]))⟩
theorem lu(w:World)(row:Option Nat):w.grownBy w row:=World.grownBy.refl w row
theorem km.JJ{S w}{b o n c:Nat}{l}(h:km kA S w (.slice (some ⟨b,o,none⟩) n c) l)(k:Nat)(x)(hx:l[k]?=some x):S b/\w.cell? ⟨b,o+k,none⟩=some (tx x):=by obtain⟨i,j,r,e,a,hr,hc⟩:=h.kI kA.ok k x hx;injection e with e;injection e with d f;subst d f;have g:r=[tx x]:=hr;have:=hc 0 (tx x) (by rw[g];rfl);exact⟨a,by simpa using this⟩
def rS(S:Nat->Prop)(a:Nat)(sc:Sc)(left:Nat)(w:World)(e:Ending)(w':World):Prop:=∃k:Nat,k<sc.ints/\e=.returned (tx (nm 120 k))/\kH S w' a sc left/\w.grownBy w' (some a)
def Eb(w w':World)(a:Nat):Nat->Prop:=λb=>w<=b/\b<w'/\b≠a
def mP(S:Nat->Prop)(a:Nat)(sc:Sc)(left d:Nat)(w:World)(e:Ending)(w':World):Prop:=
 ∃(op n:Int) (name:List UInt8) (b:Option Addr) (m c:Nat) (x:Ex),e=.returned (.agg #[.int .i64 op,tx name,n,.slice b m c])/\kz .i64 d (Eb w w' a) w' [.int .i64 op,tx name,n,.slice b m c] x/\lp sc d x/\kH S w' a sc left/\w.grownBy w' (some a)
theorem mD{a b:World}{row:Option Nat}(h:a.grownBy b row){i:Nat}{u:Value}:a.grownBy (b.setCell ⟨a,i,none⟩ u) row:=
 ⟨h.os,h.tape,h.output,by rw[NM];exact h.size,λq c d=>(NZ _ _ _ _ (by show q≠a;omega)).T (h.B q c d)⟩
theorem kC{w:World}{b:Nat}{a c d e:Value}{t:TypeId}(h:w.heap[b]?=some (.cells #[a,c,d,e] t (0,0))):
  (w.cell? ⟨b,0,none⟩=some a/\w.cell? ⟨b,1,none⟩=some c/\w.cell? ⟨b,2,none⟩=some d/\w.cell? ⟨b,3,none⟩=some e)/\(w.frozen? ⟨b,0,none⟩=false/\w.frozen? ⟨b,1,none⟩=false/\w.frozen? ⟨b,2,none⟩=false/\w.frozen? ⟨b,3,none⟩=false):=
 ⟨⟨kf h 0 _ rfl,kf h 1 _ rfl,kf h 2 _ rfl,kf h 3 _ rfl⟩,⟨ko h 0,ko h 1,ko h 2,ko h 3⟩⟩
def uK:Code->Option Nat
 | .region n _ _=>some n
 | .seq a _=>uK a
 | .block _ c=>uK c
 | .scope c=>uK c
 |_=>none
def vw(n:Nat):Code->Option Code
 | .seq a b=>if uK a=some n then some (.seq a b)else match vw n a with|some c=>some c|none=>vw n b
 | .block i c=>if uK c=some n then some (.block i c)else vw n c
 | .scope c=>if uK c=some n then some (.scope c)else vw n c
 | .cond _ a b=>match vw n a with|some c=>some c|none=>vw n b
 | .loop c=>vw n c
 | .region k o d=>if k=n then some (.region k o d)else none
 |_=>none
noncomputable def tJ(fn:Func)(n:Nat):Code:=(fn.body.bind (vw n)).getD .skip
theorem kH.rL{S w w'}{c:Nat}{sc}{left:Nat}{row}(h:kH S w c sc left)(d:w.grownBy w' row)(hm:some c≠row)(hS:∀b,S b->some b≠row):kH S w' c sc left:=by obtain⟨f,g,i,a,j,hy⟩:=h.kI;have e:∀b,S b->w'.heap[b]?=w.heap[b]?:=λb a=>d.B b (h.ln b a).2 (hS b a);exact⟨⟨f,g,i,(d.B c h.lt hm).T a,j.kg qc.ok e,hy.kg qE.ok e⟩,λb a=>⟨(h.ln b a).1,ND (h.ln b a).2 d.size⟩⟩
theorem nz{c:Type}{R:Rel c}{k:Nat}(ok:kT R k){f:Nat}{w d a r}{x:c}(g:w.heap.size<d.heap.size)(h:R (Eb d a f) a r x):R (New w a) a r x:=
 ok.M h λb e=>⟨PH e.1,e.2.1⟩
def EPost(P:Ex->Prop)(S:Nat->Prop)(a:Nat)(sc:Sc)(left d:Nat)(w:World)(e:Ending)(w':World):Prop:=
 ∃(op n:Int) (name:List UInt8) (b:Option Addr) (m c:Nat) (x:Ex),e=.returned (.agg #[.int .i64 op,tx name,n,.slice b m c])/\kz .i64 d (Eb w w' a) w' [.int .i64 op,tx name,n,.slice b m c] x/\P x/\kH S w' a sc left/\w.grownBy w' (some a)
def qj(S:Nat->Prop)(a:Nat)(sc:Sc)(D left:Nat)(w:World)(e:Ending)(w':World):Prop:=
 ∃(kind:Int) (name hd:List UInt8) (b c d:Option Addr) (f c1 g c2 i c3:Nat) (x:St) (j:Nat),e=.returned (.agg #[.int .i64 kind,tx name,tx hd,.slice b f c1,.slice c g c2,.slice d i c3])/\
  kE .i64 (D+1) (Eb w w' a) w' [.int .i64 kind,tx name,tx hd,.slice b f c1,.slice c g c2,.slice d i c3] x/\mq sc (D+1) x/\kN D x.th+kN D x.el+j<=left/\kH S w' a sc j/\w.grownBy w' (some a)
theorem wA{S}{j:Nat}{sc}{D left left':Nat}{T}{kind:Int}{name hd c d e}{f c1 g c2 i c3:Nat}{w a}{kV:List Ex}{th el:List St}(k:pK S j sc left' T #[.int .i64 kind,tx name,tx hd,.slice c f c1,.slice d g c2,.slice e i c3] w a)
  (n:km (kz .i64 De) (New w a) a (.slice c f c1) kV) (p:km (kE .i64 D) (New w a) a (.slice d g c2) th) (q:km (kE .i64 D) (New w a) a (.slice e i c3) el) (he:mq sc (D+1) (.mk kind name hd kV th el)) (r:kN D th+kN D el+left'<=left):
  qj S j sc D left w (.returned (.agg #[.int .i64 kind,tx name,tx hd,.slice c f c1,.slice d g c2,.slice e i c3])) a:=by
 have l:∀b,New w a b->Eb w a j b:=λb m=>⟨PH m.1,m.2,PI m.1 k.vV⟩
 exact⟨kind,name,hd,c,d,e,f,c1,g,c2,i,c3,.mk kind name hd kV th el,left',rfl,⟨_,_,_,rfl,n.M (kz.ok _ _) l,p.M (kE.ok _ _) l,q.M (kE.ok _ _) l⟩,he,r,k.hm,k.hg⟩
def nA(w0:World)(f:Nat->Value)(n:Nat)(v:Value)(w:World):Prop:=∃b o c,v=.slice (some ⟨b,o,none⟩) n c/\New w0 w b/\∀a,a<n->w.cell? ⟨b,o+a,none⟩=some (f a)
theorem nA.lv{w0}{d:Nat}(k:d<w0.heap.size){f}{n:Nat}{v w w'}(g:Good d w0.heap.size w w')(h:nA w0 f n v w):nA w0 f n v w':=by obtain⟨b,o,c,e,a,hc⟩:=h;exact⟨b,o,c,e,⟨a.1,ND a.2 g.1⟩,λi j=>(Cb b (o+i) (g.2 b a.2 (PH a.1) (PH a.1))).T (hc i j)⟩
theorem kH.zx{S w}{c:Nat}{sc}{left:Nat}(h:kH S w c sc left)(l:Nat):kH S (w.setCell ⟨c,7,none⟩ (.int .i64 (l:Int))) c sc l:=by obtain⟨e,f,g,a,i,hy⟩:=h.kI;have d:∀b,b≠c->(w.setCell ⟨c,7,none⟩ (.int .i64 (l:Int))).heap[b]?=w.heap[b]?:=λb a=>NZ _ _ _ _ a;exact⟨⟨e,f,g,ki a,i.kg qc.ok (λb a=>d b (h.ln b a).1),hy.kg qE.ok (λb a=>d b (h.ln b a).1)⟩,λb a=>⟨(h.ln b a).1,by rw[NM];exact(h.ln b a).2⟩⟩
theorem DC(D:Nat):∀xs:List St,xs.length<=kN (D+1) xs
 |[]=>NP _
 |x::xs=>by have a:=DC D xs;unfold kN at a⊢;simp only[OP,Ob,List.sum_cons];omega
theorem ug(D:Nat)(xs x):kN (D+1) (xs++[x])=kN (D+1) xs+(1+kN D x.th+kN D x.el):=by simp[kN]
theorem kH.yx{S w}{d:Nat}{sc}{left:Nat}(h:kH S w d sc left)(a:Nat):kH S (w.setCell ⟨d,5,none⟩ (.int .i64 (a:Int))) d {sc with params:=a} left:=by obtain⟨f,g,i,c,j,hy⟩:=h.kI;have e:∀b,b≠d->(w.setCell ⟨d,5,none⟩ (.int .i64 (a:Int))).heap[b]?=w.heap[b]?:=λ_ c=>NZ _ _ _ _ c;exact⟨⟨f,g,i,ki c,j.kg qc.ok (λb c=>e b (h.ln b c).1),hy.kg qE.ok (λb c=>e b (h.ln b c).1)⟩,λb c=>⟨(h.ln b c).1,by rw[NM];exact(h.ln b c).2⟩⟩
theorem kH.setBytes{S w}{c:Nat}{sc}{left:Nat}(h:kH S w c sc left){v d}(f:km qE S w v d):kH S (w.setCell ⟨c,6,none⟩ v) c sc left:=by obtain⟨g,j,k,a,i,hy⟩:=h.kI;have e:∀b,b≠c->(w.setCell ⟨c,6,none⟩ v).heap[b]?=w.heap[b]?:=λ_ a=>NZ _ _ _ _ a;exact⟨⟨g,v,d,ki a,i.kg qc.ok (λb a=>e b (h.ln b a).1),f.kg qE.ok (λb a=>e b (h.ln b a).1)⟩,λb a=>⟨(h.ln b a).1,by rw[NM];exact(h.ln b a).2⟩⟩
theorem nA.ng{w0 f}{n:Nat}{v w w'}(d:NG w0 w w')(h:nA w0 f n v w):nA w0 f n v w':=by obtain⟨b,o,c,e,a,hc⟩:=h;exact⟨b,o,c,e,⟨a.1,ND a.2 d.1⟩,λg i=>(Cb b (o+g) (d.2 b a)).T (hc g i)⟩
theorem rJ{c:Type}{R:Rel c}{k:Nat}(ok:kT R k){w0 w w' v}{xs:List c}(d:NG w0 w w')(h:km R (New w0 w) w v xs):km R (New w0 w') w' v xs:=
 (h.kg ok λb a=>d.2 b a).M ok λb a=>⟨a.1,ND a.2 d.1⟩
theorem DF:(prog.info? 3).map (λi=>(i.zero,i.size,i.bytes))=some (some (.int .i64 0),1,8):=PL
def pJ(w:World)(e:Ending)(w':World):Prop:=
 ∃(nm:List UInt8) (a c d:Option Addr) (g c1 i c2 j c3:Nat) (f:Fl),e=.returned (.agg #[tx nm,.slice a g c1,.slice c i c2,.slice d j c3])/\LB .i64 (λb=>w<=b/\b<w') w' [tx nm,.slice a g c1,.slice c i c2,.slice d j c3] f/\uD f/\Below w w w'
theorem kx.tight{c:Type}{R:Rel c}{T k:Nat}(ok:kT R k){P w}{lo:Nat}{v}{xs:List c}(h:kx R T k P w lo v xs):kx R T k (λb=>P b/\b<w) w lo v xs:=by obtain⟨d,e,f⟩:=h.own;exact⟨d,e,f.imp λr x hx=>ok.M hx λb a=>⟨⟨a.1,a.2.1⟩,a.2⟩⟩
theorem kx.weaken{a:Type}{R:Rel a}{T k:Nat}(ok:kT R k){P P' w}{lo:Nat}{v}{xs:List a}(h:kx R T k P w lo v xs)(hp:∀b,P b->P' b):kx R T k P' w lo v xs:=by obtain⟨d,e,f⟩:=h.own;exact⟨d,e,f.imp λr x hx=>ok.M hx λb c=>⟨hp b c.1,c.2⟩⟩
theorem kx.blocks{c:Type}{R:Rel c}{T k:Nat}(ok:kT R k){P w w'}{lo:Nat}{v}{xs:List c}(h:kx R T k P w lo v xs)(hs:w.heap.size<=w'.heap.size)(d:∀b,b<w.heap.size->P b\/v.ownBlock=some b->w'.heap[b]?=w.heap[b]?):kx R T k P w' lo v xs:=by
 obtain⟨j,f,l⟩:=h.own;refine⟨j,⟨f.1,?_⟩,l.imp λr x hx=>ok.M (ok.kg hx λb a=>d b a.2.1 (.inl a.1)) λb a=>⟨a.1,ND a.2.1 hs,a.2.2⟩⟩;rcases f.2 with h|⟨g,m,n,e,a,i,h⟩
 exact .inl h;refine .inr ⟨g,m,n,e,a,?_,h⟩;rw[d g (NC.1 i).1 (.inr (by rw[e];rfl))];exact i
theorem F3:(prog.info? 88).map (λi=>(i.zero,i.size,i.bytes))=some (some (Nl),1,24):=PL
theorem HV{d:Nat}{f b}{k:Nat}{c}(h:∀a x,b[a]?=some x->xK d f a x)(i:b.length=k)(hc:xK d f k c):∀a x,(b++[c])[a]?=some x->xK d f a x:=λa x hx=>by
 rcases PG a b.length with g|g;rw[Ou g]at hx;exact h a x hx;rw[OA g]at hx;have j:a-b.length<1:=by have:=(NW.1 hx).1;simpa using this
 have e:a=k:=PJ
 subst e;rw[i,Nat.sub_self]at hx;simp at hx;rw[<-hx];exact hc
theorem nR{c:Type}{R:Rel c}{k:Nat}(ok:kT R k){w0 w w' v}{xs:List c}(d:NK w0 w w')(h:km R (Nw w0 w) w v xs):km R (Nw w0 w') w' v xs:=
 (h.kg ok λb a=>d.2 b a).M ok λb a=>⟨a.1,ND a.2 d.1⟩
theorem nx.set{c:Type}{R:Rel c}{T k:Nat}{P a wr}{o:Nat}{C C' d V f}{xs g:List c}{x}(h:nx R T k P a wr o C d V xs x)(ok:kT R k)(l:∀b,P b->a<=b)(j:kx R T k P x a f g)(i:Nat)(u)(hc:C.setIfInBounds i u=C'):
  a.grownBy (x.setCell ⟨o,i,none⟩ u) (some o)/\(x.setCell ⟨o,i,none⟩ u).heap[o]?=some (.cells C' d (0,0))/\kx R T k P (x.setCell ⟨o,i,none⟩ u) a f g:=by
 have q:=h.lt;have m:=j.ge;refine⟨kn h.g (kv x o i u),by rw[<-hc];exact ki h.c,j.grown ok (kv x o i u) (λz e=>?_)⟩;injection e with e;subst e;exact⟨λn=>PH (l _ n),λp=>PH ((m _ p.symm).1)⟩
def Dv:Obj->Prop
 | .cells a _ _=>∀q n,(.int q n:Value)∈a->n=0
 |_=>False
theorem uh{g:Type}{R i:Rel g}{z}(hz:Dv z){S w v}{xs:List g}(h:km R S w v xs)(hR:∀r x,x∈xs->R S w r x->i (vL z w S) w r x/\∃q n f,r=.int q n::f/\n≠0):km i (vL z w S) w v xs:=by
 obtain⟨p,c,a,s,u,y,A,B⟩:=h;have C:∀{a:List (List Value)} {d:List g},(∀x∈d,x∈xs)->kZ (R S w) a d->kZ (i (vL z w S) w) a d/\(a.flatten≠[]->∃q n f,a.flatten=.int q n::f/\n≠0):=by
  intro a;induction a with
  |nil=>intro d _ h;cases d with
   |nil=>exact⟨trivial,λh=>by simp at h⟩
   |cons x d=>exact h.elim
  |cons r a D=>intro d hm h;cases d with
   |nil=>exact h.elim
   |cons x d=>obtain⟨j,q,n,f,k,E⟩:=hR r x (hm x PK) h.1;exact⟨⟨j,(D (λF hy=>hm F (by simp[hy])) h.2).1⟩,λ_=>⟨q,n,f++a.flatten,by rw[OS,k];rfl,E⟩⟩
 obtain⟨j,k⟩:=C (λx hx=>hx) B;refine⟨p,c,a,s,u,y,λl=>?_,j⟩;obtain⟨b,o,e,G,hc⟩:=A l;obtain⟨q,n,f,I,hn⟩:=k l;refine⟨b,o,e,⟨G,λJ=>?_⟩,hc⟩;have m:=hc 0 (.int q n) (by rw[I];rfl);cases z with
 |cells K t M=>simp only[World.cell?,J]at m;have L:K[o]?=some (.int q n):=(by simpa using m);exact hn (hz q n (Array.mem_of_getElem? L))
 |_=>exact hz.elim
theorem km.KN{q:IntKind}{z}(hz:Dv z){S w}:∀{d:Nat} {v:Value} {xs:List Ex},(∀x∈xs,BX d x)->km (kz q d) S w v xs->km (kz q d) (vL z w S) w v xs
 |0,_,_,_,h=>uh hz h λ_ _ _ hr=>hr.elim
 |d+1,v,xs,ho,h=>uh hz h λr x hx ⟨a,hr,hs⟩=>by obtain⟨o1,o2,c,b⟩:=ho x hx;exact⟨⟨a,hr,km.KN hz b hs⟩,_,_,_,hr,PJ⟩
theorem km.HE{q:IntKind}{z}(hz:Dv z){S w}:∀{d:Nat} {v:Value} {xs:List St},(∀x∈xs,uE d x)->km (kE q d) S w v xs->km (kE q d) (vL z w S) w v xs
 |0,_,_,_,h=>uh hz h λ_ _ _ hr=>hr.elim
 |d+1,v,xs,ho,h=>uh hz h λr x hx ⟨a,b,c,hr,e,f,g⟩=>by obtain⟨o1,o2,l,m,n,i,j,k⟩:=ho x hx;exact⟨⟨a,b,c,hr,km.KN hz i e,km.HE hz j f,km.HE hz k g⟩,_,_,_,hr,PJ⟩
theorem vL.set{z w0 w}{o i:Nat}{u}(c:w.heap[o]?=some z){d:Type}{R:Rel d}{k:Nat}(ok:kT R k){v}{xs:List d}(h:km R (vL z w (Nw w0 w)) w v xs):km R (λb=>Nw w0 w b/\b≠o) (w.setCell ⟨o,i,none⟩ u) v xs:=
 (h.kg ok λb a=>NZ _ _ _ _ (λe=>a.2 (by rw[e];exact c))).M ok λb a=>⟨a.1,λe=>a.2 (by rw[e];exact c)⟩
theorem nd{lo o:Nat}{w c w'}(h:Below lo w c)(a:c.grownBy w' (some o))(f:lo<=o)(g:lo<=w:=by omega):Below lo w w':=
 ⟨a.os.T h.os,a.tape.T h.tape,a.output.T h.output,NR h.size a.size,λb d=>(a.B b (PH h.size) (λe=>by injection e with e;omega)).T (h.B b d)⟩
theorem DG:(prog.info? 190).map (λi=>(i.zero,i.size,i.bytes))=some (some (.agg #[.int .u8 0,Em,.int .i64 0,Nl]),4,56):=PL
theorem lO.old{a}{cb:Nat}{c d f g hd own i j k params V}{l:List In}{w}(h:lO a cb c d f g hd own i j k params V l w){b:Nat}(m:b<a)(hc:b≠cb):w.heap[b]?=a.heap[b]?:=h.g.B b m (by intro e;injection e with e;exact hc e)
def uL(c:World)(cb:Nat)(d f g i hd own j k l params:Value)(V:Value)(w:World)(m:Value)(Q:List In->Prop)(e:Ending)(w':World):Prop:=e=.returned m/\∃a b,lO c cb d f g i hd own j k l params a b w'/\mX cb V w a w'/\Q b
theorem DI:Dv (.cells #[.int .u8 0,Em,Em,Nl,Nl,Nl] 185 (0,0)):=by intro q n h;simp at h;exact h.2
theorem run_append_nil{j:Type}{P}{w:World}(t)(l:TypeId)(e i z)(size c:Nat)(m:P.underlying t=some (.slice e))(hi:P.info? e=some i)(hz:i.zero=some z)
  (C:i.size=size) (D:i.bytes=c) (E:z.cells.size=size) {R:Rel j} (ok:kT R size) {S:Nat->Prop} {ys:List j} {n:Value}
  (d:km R S w n ys) (F:∀w' r a,w.grownBy w' none->R S w r a->R (Nw w w') w' r a) (ac:ys.length<=maxLen) (G:ys.length*c<=140737488355328):
  ∃p q w',(Builtin.append_ #[t,t] l #[Nl,n]).run P w=.ok (.slice p ys.length q) w'/\km R (Nw w w') w' (.slice p ys.length q) ys/\w.grownBy w' none:=by
 by_cases hy:ys=[]
 .subst hy;obtain⟨s,c2,f,rfl,_⟩:=d;refine⟨none,0,w,?_,km.nil _ _ _,World.grownBy.refl w none⟩;cases s<;>simp[Builtin.append_,PB m,sizeOf,typeInfo,hi,Builtin.lenOf,Builtin.firstCells,loadCells,loadCellsFrom]
 .obtain⟨s,c2,I,J,ad,ae,K,L⟩:=id d;subst J;have M:I.flatten≠[]:=by
   intro e;have:=kZ.flat (k:=size) (λr x h=>ok.len h) L;rw[e]at this;have hp:=ok.pos;have:ys.length=0:=by have v:ys.length*size=0:=(by simpa using this.symm);rcases Nat.mul_eq_zero.1 v with h|h;exact h;omega
   exact hy (OQ this)
  obtain⟨N,o2,rfl,_,_⟩:=K M;obtain⟨f,af,_,O,Q,T,U⟩:=d.cells ok;have ag:0<ys.length:=List.length_pos_iff.2 hy;obtain⟨ah,w',V,y,W,_,_⟩:=run_append_own_at (P:=P) (w:=w) w t l e i z size c m hi hz C D E ok.pos (Nl) 0 [] (World.ownsRow_nil _ _ _ _) ⟨N,o2,none⟩ ys.length c2 f.flatten O T U PJ (by rw[NY];exact G) (NQ _);have A:w.grownBy w' none:=W;rw[NY,List.nil_append]at y;rcases y.2 with⟨rfl,v⟩|⟨g,X,ai,rfl,Y,B,Z,aa,aj,ab⟩
  omega;refine⟨_,_,w',V,⟨_,X,f,rfl,Z,aa,λ_=>⟨g,0,rfl,⟨Y,(NC.1 B).1⟩,λak u b=>?_⟩,Q.imp λr a hr=>F w' r a A hr⟩,A⟩;rw[<-ab,OJ]at b;split at b;rw[NY];simp only[World.cell?,B];simpa using b;cases b
theorem KG.set{a}{o:Nat}{C C' b x}(h:KG a o C b x)(i:Nat)(u)(hc:C.setIfInBounds i u=C'):KG a o C' b (x.setCell ⟨o,i,none⟩ u):=
 ⟨kn h.g (kv x o i u),by rw[<-hc];exact ki h.c,h.lt⟩
theorem KG.blk{a}{o:Nat}{C c x}(h:KG a o C c x){b:Nat}(d:b<a)(hn:b≠o):x.heap[b]?=a.heap[b]?:=h.g.B b d (λe=>hn (by injection e))
theorem kx.FE{a:Type}{R:Rel a}{T k:Nat}(ok:kT R k){P w}{lo:Nat}{v}{xs:List a}(h:kx R T k P w lo v xs){o i:Nat}{u}(c:∀b,P b->b≠o)(j:o<lo):kx R T k P (w.setCell ⟨o,i,none⟩ u) lo v xs:=by have d:=h.ge;exact h.grown ok (kv w o i u) (λz e=>by injection e with e;subst e;exact⟨λf=>c _ f rfl,λg=>PH ((d _ g.symm).1)⟩)
theorem qZ{k:Nat}(a:k<3):mI (kB k)=true:=by
 have h:k=0\/k=1\/k=2:=PJ
 rcases h with rfl|rfl|rfl<;>decide+kernel
theorem CA:mI mi=true:=PV
theorem lH.low{w}(h:lH w):7<w.heap.size/\8<w.heap.size/\4<w.heap.size:=⟨h.names.lt,h.lt.1,h.lt.2⟩
theorem lH.to{w w'}(h:lH w)(a:Below w w w'):lH w':=h.kh a h.low
theorem wY:shapes.length=24:=PM
theorem uQ:forms.length=11:=PM
theorem lg{B:Nat}{a w}(h:Below B a w)(n:Nat):Below B a (w.drewN n):=⟨h.os,h.tape,h.output,h.size,h.B⟩
theorem oW{S w w'}{b o d:Nat}{s r}(h:At w b o r/\kE .u8 d S w r s/\nB d s)(e:b<w)(hS:∀q,S q->q<w)(a:Below w w w'):At w' b o r/\kE .u8 d S w' r s/\nB d s/\b<w'/\∀q,S q->q<w':=
 ⟨h.1.kh a e,(kE.ok .u8 d).kg h.2.1 (λq c=>a.B q (hS q c)),h.2.2,ND e a.size,λq c=>ND (hS q c) a.size⟩
theorem vP:ma 131:=λ_ _=>PL
def Ju(d:Nat):Prop:=∀(S:Nat->Prop) (w:World) (a:Option Addr) (n c:Nat) (l:List St),km (kE .u8 d) S w (.slice a n c) l->l.length<=12->(∀s∈l,nB d s)->kN d l<=40->d<=6->(∀q,S q->q<w)->
 Calls prog 165 #[.slice a n c] w (λe w'=>∃r:Nat,e=.returned (.int .i64 (r:Int))/\r<=d/\Below w w w')
theorem mz{S b w}{cb:Nat}{d f g i hd own j k l params V}{m:List In}(h:lO b cb d f g i hd own j k l params V m w)(hf:∀q,S q->q<b.heap.size/\q≠cb){v}(p:nU S b v)(s:List UInt8):
  Calls prog 91 #[v,tx s] w λe w'=>∃r:Int,e=.returned (.int .i64 r)/\w=w':=by
 obtain⟨t,n,c,xs,rfl,hs,hn⟩:=p;refine(uR S w t n c xs s (hs.kg kA.ok λq a=>h.old (hf q a).1 (hf q a).2) hn λq a=>ND (hf q a).1 h.g.size).M ?_;rintro e w' ⟨r,he,_,hw⟩;exact⟨r,he,hw⟩
def KO(S:Nat->Prop)(w:World)(h:Hd)(v:Value):Prop:=∃(a:Option Addr) (b c:Nat) (d:Option Addr) (e cb:Nat),v=.agg #[tx h.name,.slice a b c,.slice d e cb]/\km kA S w (.slice a b c) h.params/\km (kE .u8 Ds) S w (.slice d e cb) h.body
theorem K0{b k:Nat}{a}(h:ru b a)(c:k<b):pM a (nm 102 k)=true:=by obtain⟨x,hx⟩:∃x,a[k]?=some x:=Gx (by rw[h.1];exact c);exact sJ.2 ⟨x,NH hx,h.2 k x hx⟩
theorem sK(a b c)(t:Int)(name w):Calls prog 220 #[.agg #[a,b,c],.int .u8 t,tx name,.int .i64 0] w (kU (.tuple #[.int .u8 t,Em,.int .i64 0]) w):=by
 go_enter func220,ntmps220
 go_wp2;refine NT (v:=.tuple #[.int .u8 t,Em,.int .i64 0]) ?_ rfl ⟨rfl,Ba _ _⟩;simp[results,Tryz.results220,go_sem]
structure Bd(bb cb:Nat)(AF:Option Addr)(nf cf:Nat)(AV:Option Addr)(nv cv:Nat)(AP:Option Addr)(np cp:Nat)(o0 o1 o2:Value)(pl:ByteArray)(cnt:Nat)(w:World):Prop where
 kI:w.heap[bb]?=some (.cells #[.pointer (some ⟨cb,0,none⟩),.slice AF nf cf,.slice AV nv cv,.slice AP np cp,o0,o1,o2,.string pl,cnt] 307 (0,0))
def zz(w:World)(e:Ending)(w':World):Prop:=e=.returned (.tuple #[])/\Below w w w'
theorem mU{w:World}{q:Nat}{T:TypeId}(h:∃c0 c1 c2:Value,w.heap[q]?=some (.cells #[c0,c1,c2] T (0,0)))(o i:Nat)(u:Value)(hi:i<3):∃c0 c1 c2:Value,(w.setCell ⟨o,i,none⟩ u).heap[q]?=some (.cells #[c0,c1,c2] T (0,0)):=by
 obtain⟨c0,c1,c2,h⟩:=h;by_cases e:q=o;subst e;have a:=ki (i:=i) (u:=u) h;have b:i=0\/i=1\/i=2:=PJ
 rcases b with rfl|rfl|rfl;exact⟨_,_,_,a⟩;exact⟨_,_,_,a⟩;exact⟨_,_,_,a⟩;exact⟨c0,c1,c2,(NZ _ _ _ _ e).T h⟩
def Im(w:World)(e:Ending)(w':World):Prop:=∃(t u:ByteArray) (p q:Int),e=.returned (.agg #[.string t,.string u,p,q])/\Below w w w'
theorem xA:ma 178:=λ_ _=>PL
def J3(w:World)(e:Ending)(w':World):Prop:=∃(t:Int) (b:Bool),e=.returned (.tuple #[.int .i64 t,.bool b])/\Below w w w'
def Ga(w:World)(e:Ending)(w':World):Prop:=∃(a:Option Addr) (n c:Nat),e=.returned (.slice a n c)/\Below w w w'
theorem FT:(164:TypeId)≠5:=PM
theorem tN:prog.underlying 128=some (.pointer 130):=PL
theorem zN:∀x∈shapes,x.2.2.2.length<=10:=PM
theorem EO:∀k x,forms[k]?=some x->((k=1\/k=3\/k=4\/k=5\/k=7\/k=9)->1<=x.2.2.1)/\((k=2\/k=8)->2<=x.2.2.1):=by
 intro k x h;have a:=(NW.1 h).1;rw[uQ]at a;have b:∀k:Fin 11,((k.val=1\/k.val=3\/k.val=4\/k.val=5\/k.val=7\/k.val=9)->((forms[k.val]?.map (·.2.2.1)).getD 0>=1))/\((k.val=2\/k.val=8)->((forms[k.val]?.map (·.2.2.1)).getD 0>=2)):=PM
 have:=b ⟨k,a⟩;simp only[h,Pe,Option.getD_some]at this;exact this
theorem yL:ma 54:=λ_ _=>PL
def JF(k:Int):Nat:=(bits BinOp.and IntKind.u64 (IntKind.u64.wrap (IntKind.i64.wrap (-k))) 31).toNat
def oK(k:IntKind)(a:Array Value)(o n:Nat):Prop:=∀i,i<n->∃x:Int,a[o+i]?=some (.int k x)
theorem DR(n:Nat):oK .u8 (madeCells #[.int .u8 0] n) 0 n:=λi hi=>⟨0,by simp[madeCells,hi,Nat.mod_one]⟩
theorem IC(n:Nat):oK .u32 (Array.replicate n (.int .u32 0)) 0 n:=λi hi=>⟨0,by simp[hi]⟩
abbrev HJ:Array Value:=#[.int .u32 0,.int .u32 0,.int .u32 0,.int .u32 0,.int .u32 0,.int .u32 0,.int .u32 0,.int .u32 0,.int .u32 0,.int .u32 0,.int .u32 0,.int .u32 0,.int .u32 0,.int .u32 0,.int .u32 0,.int .u32 0,.int .u32 0,.int .u32 0,.int .u32 0,.int .u32 0,.int .u32 0,.int .u32 0,.int .u32 0,.int .u32 0,.int .u32 0,.int .u32 0,.int .u32 0,.int .u32 0,.int .u32 0,.int .u32 0,.int .u32 0,.int .u32 0,.int .u32 0,.int .u32 0,.int .u32 0,.int .u32 0,.int .u32 0,.int .u32 0,.int .u32 0,.int .u32 0,.int .u32 0,.int .u32 0,.int .u32 0,.int .u32 0,.int .u32 0,.int .u32 0,.int .u32 0,.int .u32 0,.int .u32 0,.int .u32 0,.int .u32 0,.int .u32 0,.int .u32 0,.int .u32 0,.int .u32 0,.int .u32 0,.int .u32 0,.int .u32 0,.int .u32 0,.int .u32 0,.int .u32 0,.int .u32 0,.int .u32 0,.int .u32 0]
theorem zero64:(HJ:Array Value)=Array.replicate 64 (.int .u32 0):=PL
theorem Ke(x:Int):0<=IntKind.u64.wrap x:=PN
def Me:Value->Nat
 | .slice _ n _=>n
 |_=>0
abbrev sS:Array Value:=#[.int .u8 0,.int .u8 0,.int .u8 0,.int .u8 0,.int .u8 0,.int .u8 0,.int .u8 0,.int .u8 0,.int .u8 0,.int .u8 0,.int .u8 0,.int .u8 0,.int .u8 0,.int .u8 0,.int .u8 0,.int .u8 0,.int .u8 0,.int .u8 0,.int .u8 0,.int .u8 0,.int .u8 0,.int .u8 0,.int .u8 0,.int .u8 0,.int .u8 0,.int .u8 0,.int .u8 0,.int .u8 0,.int .u8 0,.int .u8 0,.int .u8 0,.int .u8 0]
theorem zero32:(sS:Array Value)=Array.replicate 32 (.int .u8 0):=PL
end Go.Proofs.YtfemcncookpdhaaGreatDoor
namespace lX
theorem Gn(c)(n:Nat):oI c (n+1)=oI c n++[nm c n]:=by simp[oI,List.range_succ]
theorem oJ(c)(n k:Nat)(h:k<n):(oI c n)[k]?=some (nm c k):=by simp[oI,h]
theorem lp.up{sc}:∀{d d':Nat} {e:Ex},d<=d'->lp sc d e->lp sc d' e
 |0,_,_,_,h=>h.elim
 |d+1,0,_,hd,_=>by omega
 |d+1,d'+1,e,hd,h=>by
  have up:∀{x:Ex},lp sc d x->lp sc d' x:=λhx=>lp.up PJ hx;rcases h with h|h|h|⟨c,f,g,k,a,i,j⟩|h|⟨c,f,g,a,i,j⟩|⟨c,f,g,a,b,i,j,l⟩
  exact .inl h;exact .inr (.inl h);exact .inr (.inr (.inl h));exact .inr (.inr (.inr (.inl ⟨c,f,g,k,a,i,up j⟩)));exact .inr (.inr (.inr (.inr (.inl h))));exact .inr (.inr (.inr (.inr (.inr (.inl ⟨c,f,g,a,i,up j⟩)))));exact .inr (.inr (.inr (.inr (.inr (.inr ⟨c,f,g,a,b,i,up j,up l⟩)))))
theorem mO.up{sc}:∀{d d':Nat} {e:Ex},d<=d'->mO sc d e->mO sc d' e
 |0,_,_,_,h=>h.elim
 |d+1,0,_,hd,_=>by omega
 |d+1,d'+1,e,hd,h=>by
  have up:∀{x:Ex},mO sc d x->mO sc d' x:=λhx=>mO.up PJ hx;have k:∀{x:Ex},lp sc d x->lp sc d' x:=λhx=>lp.up PJ hx;rcases h with h|h|⟨c,f,g,m,a,i,j⟩|⟨c,f,g,a,i,j⟩|⟨c,f,g,a,b,i,j,l⟩|⟨c,f,g,a,b,i,j,l⟩
  exact .inl h;exact .inr (.inl h);exact .inr (.inr (.inl ⟨c,f,g,m,a,i,k j⟩));exact .inr (.inr (.inr (.inl ⟨c,f,g,a,i,up j⟩)));exact .inr (.inr (.inr (.inr (.inl ⟨c,f,g,a,b,i,up j,up l⟩))));exact .inr (.inr (.inr (.inr (.inr ⟨c,f,g,a,b,i,k j,k l⟩))))
theorem pd.withParams{sc}(h:pd sc){a:Nat}(b:a<=2):pd {sc with params:=a}:=⟨h.Ai,h.yo,h.kF,h.kM,b,h.own,h.len,h.each⟩
theorem nL.up{n m a:Nat}{b}(h:nL n m b)(hm:m<=a):nL n a b:=⟨λx hx=>by obtain⟨k,c,h⟩:=h.1 x hx;exact⟨k,PJ,h⟩,h.2⟩
theorem JO(p)(c:Nat):∀a∈zZ p c,a<=2:=by unfold zZ;intro a b;split at b;simp at b;omega;split at b;simp at b;omega;split at b;simp at b;omega;simp at b
theorem B7(p):∀k,∀a∈rA p k,a<=2
 |0,a,h=>by simp[rA]at h
 |k+1,a,h=>by rcases List.mem_append.1 h with h|h;exact B7 p k a h;exact JO p k a h
def In.put(x:In)(c:Nat)(t:Int):In:=if c=1 then{x with a:=t}else{x with b:=t}
theorem pw.LZ{x:In}{n m:Nat}(h:pw n x)(hm:n<=m){t:Int}(a:0<=t)(b:t<=m):pw m (x.put 1 t):=by refine⟨h.1,h.2.1,λ_=>⟨a,b⟩,λk=>?_⟩;have:=h.2.2.2 k;show 0<=x.b/\x.b<=m;omega
theorem pw.L0{x:In}{n m:Nat}(h:pw n x)(hm:n<=m){t:Int}(a:0<=t)(b:t<=m):pw m (x.put 2 t):=by refine⟨h.1,h.2.1,λk=>?_,λ_=>⟨a,b⟩⟩;have:=h.2.2.1 k;show 0<=x.a/\x.a<=m;omega
theorem mC.put{a b:List In}{n i c:Nat}(h:mC a n b){x:In}(hi:b[i]?=some x)(hc:a.length<=i)(e:c=1\/c=2){t:Int}(d:0<=t)(f:t<=b.length):mC a n (b.set i (x.put c t)):=by obtain⟨l,rfl,g,hp⟩:=h;refine⟨l.set (i-a.length) (x.put c t),by rw[List.set_append_right _ _ hc],by simpa using g,λj hy=>?_⟩;rw[List.length_set];rw[List.length_append]at f;rw[List.getElem?_append_right hc]at hi;have hx:=hp x (List.mem_of_getElem? hi);rcases List.mem_or_eq_of_mem_set hy with hy|hy;exact hp j hy;subst hy;rcases e with rfl|rfl;exact hx.LZ (Nat.le_refl _) d PJ;exact hx.L0 (Nat.le_refl _) d PJ
theorem Ce{i t k:Nat}(hi:i<=3)(d:t<=1)(e:k<i):((lV i t).find? λx=>x.name==nm 120 k)=some ⟨nm 120 k,1,k⟩:=by
 have a:i=1\/i=2\/i=3:=PJ
 have b:t=0\/t=1:=PJ
 have c:k=0\/k=1\/k=2:=PJ
 rcases a with rfl|rfl|rfl<;>rcases b with rfl|rfl<;>rcases c with rfl|rfl|rfl<;>first|omega|rfl
theorem F5{i t:Nat}(c:1<=i)(hi:i<=3)(d:t<=1):((lV i t).find? λx=>x.name==nm 98 0)=some ⟨nm 98 0,2,0⟩:=by
 have a:i=1\/i=2\/i=3:=PJ
 have b:t=0\/t=1:=PJ
 rcases a with rfl|rfl|rfl<;>rcases b with rfl|rfl<;>rfl
theorem Cf{i t:Nat}(c:1<=i)(hi:i<=3)(a:t=1):((lV i t).find? λx=>x.name==nm 116 0)=some ⟨nm 116 0,3,0⟩:=by
 have b:i=1\/i=2\/i=3:=PJ
 rcases b with rfl|rfl|rfl<;>subst a<;>rfl
theorem ow{n k:Nat}{c}(hc:c≠112):nm c k∉oI 112 n:=by simp only[oI,List.mem_map,not_exists,not_and];intro q _ h;injection h with h _;exact hc h.symm
theorem AH{d:Nat}:∀l k,kN d (l.take k)<=kN d l
 |l,k=>by
  cases d with
  |zero=>simp[kN]
  |succ d=>have e:=congrArg (kN (d+1)) (List.take_append_drop k l);have:∀a b:List St,kN (d+1) (a++b)=kN (d+1) a+kN (d+1) b:=(by intro a b;simp[kN]);rw[this]at e;omega
theorem zM{n k:Nat}(hn:n<=100)(h:k<n):nm 112 k∉(oI 112 n).take k:=by
 intro hm;obtain⟨c,a⟩:=List.getElem?_of_mem hm;rw[List.getElem?_take]at a;split at a;case isTrue d=>have b:=(List.getElem?_eq_some_iff.1 a).1;rw[lr]at b;rw[oJ _ _ _ b]at a;unfold nm at a;injection a with a;injection a with _ a;injection a with a _;have:=congrArg UInt8.toNat a;simp at this;omega
 case isFalse=>simp at a
theorem K1{n m k:Nat}{b}(h:nL n m b){x}(hx:b[k]?=some x):∀c∈b.take k,(c.a,c.b)≠(x.a,x.b):=by
 intro c hy e;obtain⟨f,a⟩:=List.getElem?_of_mem hy;rw[List.getElem?_take]at a;split at a;case isFalse=>simp at a
 case isTrue g=>have i:=(List.getElem?_eq_some_iff.1 hx).1;have j:=h.2;have d:=List.pairwise_iff_getElem.1 j f k (by rw[List.length_map];omega) (by rw[List.length_map];exact i) g;obtain⟨l,a⟩:=List.getElem?_eq_some_iff.1 a;obtain⟨_,hx⟩:=List.getElem?_eq_some_iff.1 hx;rw[List.getElem_map,List.getElem_map,a,hx]at d;exact d e
theorem mC.le{a b:List In}{n m:Nat}(h:mC a n b)(hm:n<=m):mC a m b:=by obtain⟨l,c,e,d⟩:=h;exact⟨l,c,PJ,d⟩
def qA(l:List (List UInt8))(x:List UInt8):List (List UInt8):=if x∈l then l else l++[x]
theorem GI(l x):(qA l x).length<=l.length+1:=by unfold qA;split<;>simp
theorem GJ(l x):x∈qA l x:=by unfold qA;split;assumption;simp
theorem GK{l x a}(h:a∈l):a∈qA l x:=by unfold qA;split;exact h;exact List.mem_append_left _ h
end lX
namespace mh
theorem pre_nil(p):pre p []=0:=rfl
theorem qK(p c l):pre p (c::l)=if p c.toNat then pre p l+1 else 0:=by unfold pre;rw[List.takeWhile_cons];split<;>simp
theorem Az(p):∀l k (h:k<l.length),k<=pre p l->p (l[k]).toNat=true->k+1<=pre p l
 |[],_,h,_,_=>absurd h (by simp)
 |c::l,0,_,_,hp=>by rw[qK,if_pos (by simpa using hp)];omega
 |c::l,k+1,h,hk,hp=>by
  rw[qK]at hk⊢;split at hk
  rename_i hc
  rw[if_pos hc];have:=Az p l k (by simpa using h) PJ (by simpa using hp);omega;omega
theorem AA(p):∀l k (h:k<l.length),k<=pre p l->p (l[k]).toNat=false->pre p l=k
 |[],_,h,_,_=>absurd h PK
 |c::l,0,_,_,hp=>by rw[qK,if_neg (by simpa using hp)]
 |c::l,k+1,h,hk,hp=>by
  rw[qK]at hk⊢;split at hk
  rename_i hc
  rw[if_pos hc,AA p l k (by simpa using h) PJ (by simpa using hp)];omega
theorem Eo(p:Int->Bool)(s:ByteArray)(k:Nat)(h:k<s.size)(a:k<=pre p s.data.toList)(hp:p (s[k]).toNat=true):k+1<=pre p s.data.toList:=
 Az p _ k (by simpa using h) a (by simpa[ByteArray.getElem_eq_getElem_data]using hp)
theorem Ep(p:Int->Bool)(s:ByteArray)(k:Nat)(h:k<s.size)(a:k<=pre p s.data.toList)(hp:p (s[k]).toNat=false):pre p s.data.toList=k:=
 AA p _ k (by simpa using h) a (by simpa[ByteArray.getElem_eq_getElem_data]using hp)
theorem Gy(s:ByteArray)(h:0<s.size):s.data.toList.headD 0=s[0]:=by
 have a:0<s.data.toList.length:=by simpa using h
 rw[List.headD_eq_head?_getD,List.head?_eq_getElem?,List.getElem?_eq_getElem a,Option.getD_some];rfl
end mh
namespace Go.Proofs.YtfemcncookpdhaaGreatDoor
open Go.RowKit lX Go.Proofs.Tryz
theorem mQ{c}(hc:mh.nE c.toNat=true){k:Nat}(f:k<10):mI (nm c k)=true:=by
 have b:mh.xL (nm c k)=false:=by unfold mh.xL;rw[Bool.eq_false_iff];intro h;rw[List.contains_iff_mem]at h;have a:∀x∈mh.words,x.length=2->(x[1]?.getD 0).toNat>=97:=PV;have d:=a _ h (by simp[nm]);simp[nm]at d;omega
 have e:(UInt8.ofNat (48+k)).toNat=48+k:=PO
 have a:mh.pre mh.pE (nm c k)=2:=by unfold nm;rw[mh.qK,Oj (by unfold mh.pE;rw[hc];rfl),mh.qK,Oj (by unfold mh.pE mh.wC;rw[e];simp;omega),mh.pre_nil]
 unfold mI;rw[b,a];simp[nm,hc]
end Go.Proofs.YtfemcncookpdhaaGreatDoor
namespace Go.Proofs.YtfemcncookpdhaaGreatDoor
open Go.RowKit lX Go.Maps Go.Proofs.Tryz
theorem JV:Keyed prog 9:=Keyed.of_law (Go.WideMaps.string_law underlying9)
end Go.Proofs.YtfemcncookpdhaaGreatDoor
namespace kj
def qP(k:Int):Bool:=(k==2)||(k==3)||(k==6)||(k==7)||(k==9)
end kj
namespace kj
open Go
def ze(x:Int):Nat:=if x<0 then(2*(-(x+1))+1).toNat else(2*x).toNat
end kj
namespace Go.Proofs.YtfemcncookpdhaaGreatDoor.C
open Go.RowKit Go.Proofs.Tryz
theorem yS:prog.eqGuardType prog.depth 59=false:=PL
def Gj:List UInt8:=[114,101,113,117,101,115,116,32,48,32,50,32,53,32,97,116,32,51,32,49,55,32,45,52,10,100,114,111,112,32,49,32,48,32,55,10]
end Go.Proofs.YtfemcncookpdhaaGreatDoor.C
namespace Go.Proofs.YtfemcncookpdhaaGreatDoor.C
open Go.RowKit Go.Shelf Go.Sort Go.Proofs.Tryz
def JH:Array Value:=(Lib.pow10Tab.map λz=>Value.int .u64 z).toArray
end Go.Proofs.YtfemcncookpdhaaGreatDoor.C
namespace Go.Proofs.YtfemcncookpdhaaGreatDoor.C
open Go.ChangeShapes Go.WideShapes Go.ChangeAt Go.RowKit Go.Proofs.Tryz
def mJ:List (String×DataW Unit):=[("math/bits.deBruijn32tab",Rows.laid_math_bits_deBruijn32tab),("math/bits.deBruijn64tab",Rows.laid_math_bits_deBruijn64tab),("internal/strconv.uint64pow10",Rows.laid_internal_strconv_uint64pow10),("rootcause/digest.constants",Rows.laid_rootcause_digest_constants),("rootcause/lexer.words",Rows.laid_rootcause_lexer_words),("rootcause/syntax.shapes",Rows.laid_rootcause_syntax_shapes),("rootcause/syntax.forms",Rows.laid_rootcause_syntax_forms),("rootcause/code.rows",Rows.laid_rootcause_code_rows),("rootcause/choice.words",Rows.laid_rootcause_choice_words)]
end Go.Proofs.YtfemcncookpdhaaGreatDoor.C
