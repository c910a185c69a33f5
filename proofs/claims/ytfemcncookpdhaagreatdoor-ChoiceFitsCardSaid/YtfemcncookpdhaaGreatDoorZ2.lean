import Derived.Test.YtfemcncookpdhaaGreatDoorZ1
set_option maxRecDepth 1000000
set_option maxHeartbeats 32000000
set_option linter.all false
namespace Go.Proofs.YtfemcncookpdhaaGreatDoor
open Go.RowKit Go.Proofs.Tryz
theorem kZ.app{a:Type}{R:List Value->a->Prop}{b}{c:List a}(d:kZ R b c):∀{e:List (List Value)} {xs:List a},kZ R e xs->kZ R (e++b) (xs++c)
 |[],[],_=>d
 |_::_,_::_,⟨h1,h⟩=>⟨h1,kZ.app d h⟩
 |[],_::_,h=>h.elim
 |_::_,[],h=>h.elim
theorem kx.sl{d:Type}{R:Rel d}{T k:Nat}(ok:kT R k){P w}{lo:Nat}{v}{xs:List d}(h:kx R T k P w lo v xs):km R (λb=>(P b\/lo<=b)/\b<w) w v xs:=by
 obtain⟨e,f,m⟩:=h.own;have i:=m.imp λr x hx=>ok.M hx (T:=λb=>(P b\/lo<=b)/\b<w) λb a=>⟨.inl a.1,a.2.1⟩
 rcases f.2 with⟨rfl,j⟩|⟨g,n,s,rfl,a,l,hc,hm,t,p⟩
 refine⟨none,0,e,by rw[j],PJ,PJ,λq=>?_,i⟩;have:=f.1;rw[j,Nat.zero_mul]at this;exact absurd (OQ this) q;refine⟨_,n,e,rfl,hc,hm,λ_=>⟨g,0,rfl,⟨.inr a,(NC.1 l).1⟩,λy u c=>?_⟩,i⟩;rw[NY];rw[<-p,OJ]at c;split at c;simp only[World.cell?,l];simpa using c;cases c
end Go.Proofs.YtfemcncookpdhaaGreatDoor
namespace Go.Proofs.YtfemcncookpdhaaGreatDoor
open Go.RowKit lX Go.Proofs.Tryz
theorem qX:(prog.info? 9).map (λi=>(i.zero,i.size,i.bytes))=some (some (Em),1,16):=PL
theorem sD(a b:Int)(w):Calls prog 19 #[.int .i64 a,b] w λe w'=>e=.returned (.int .i64 (if a<b then a else b))/\w=w':=by
 by_cases h:a<b;all_goals
  go_enter func19,ntmps19
  go_wp2;go_ret;first|(rw[Oj h];exact⟨rfl,rfl⟩)|(rw[Od h];exact⟨rfl,rfl⟩)|simp
theorem HM(W:World)(c:UInt8)(k:Nat)(g:k<10):(convert 22 9 (.slice (some ⟨W,0,none⟩) 2 2)).run prog (W.alloc (.cells #[.int .u8 (c.toNat:Int),.int .u8 (48+(k:Int))] 5))=.ok (tx (nm c k)) (W.alloc (.cells #[.int .u8 (c.toNat:Int),.int .u8 (48+(k:Int))] 5)):=by
 have:=run_convert_bytes_back (P:=prog) (W.alloc (.cells #[.int .u8 (c.toNat:Int),.int .u8 (48+(k:Int))] 5)) 22 9 5 ⟨W,0,none⟩ 2 (nm c k) underlying22 underlying5 underlying9 (λa b=>by
  have d:a=0\/a=1:=by have:a<2:=b;omega
  have e:((UInt8.ofNat (48+k)).toNat:Int)=48+(k:Int):=PO
  rcases d with rfl|rfl;exact kf (NF W _) 0 _ rfl;have f:(⟨W,0,none⟩:Addr).add 1=⟨W,1,none⟩:=rfl;rw[f];refine kf (NF W _) 1 _ ?_;show some (Value.int .u8 (48+(k:Int)))=some (Value.int .u8 ((UInt8.ofNat (48+k)).toNat:Int));rw[e])
 exact this
theorem km.KL{c:Type}{R:Rel c}{k:Nat}(ok:kT R k){S w r q}{x d:c}{T}(h:R S w r x)(e:R S w q d)(hS:∀b,S b->b<w):km R (λb=>S b\/b=w) (w.alloc (.cells (r++q).toArray T)) (.slice (some ⟨w,0,none⟩) 2 2) [x,d]:=by refine⟨_,2,[r,q],rfl,NQ _,PJ,λ_=>⟨w,0,rfl,.inr rfl,λf u g=>?_⟩,⟨ok.M (ok.kg h λb a=>N6 w _ (hS b a)) λb a=>.inl a,ok.M (ok.kg e λb a=>N6 w _ (hS b a)) λb a=>.inl a,trivial⟩⟩;rw[NY];exact kf (NF w _) f u (by simpa using g)
theorem pK.start{S}{a:Nat}{sc}{left:Nat}{w}(h:kH S w a sc left)(T c):pK S a sc left T c w (w.alloc (.cells c T)):=
 ⟨NF w _,h.kh (Ba w _),NN w _ (some a),h.lt,λb d=>(h.ln b d).2⟩
theorem vW{d:Type}{R:Rel d}{k:Nat}(ok:kT R k){w a r q}{x e:d}{T}(g:w.heap.size<a.heap.size)(h:R (New w a) a r x)(f:R (New w a) a q e):km R (New w (a.alloc (.cells (r++q).toArray T))) (a.alloc (.cells (r++q).toArray T)) (.slice (some ⟨a,0,none⟩) 2 2) [x,e]:=
 (km.KL ok h f (λb c=>c.2)).M ok λb c=>by unfold New;rw[NB];rcases c with c|c;exact⟨c.1,PH c.2⟩;exact⟨PJ,PJ⟩
def wz(S:Nat->Prop)(a:Nat)(sc:Sc)(D left:Nat)(w:World)(e:Ending)(w':World):Prop:=
 ∃(v:Value) (xs:List St) (c:Nat),e=.returned v/\kx (kE .i64 D) 181 6 (λb=>w<=b/\b≠a) w' w v xs/\(∀x∈xs,mq sc D x)/\kN D xs+c<=left/\kH S w' a sc c/\w.grownBy w' (some a)
def ly(a:World)(b:Nat)(c d e f g i:Value):World:=(((((a.setCell ⟨b,0,none⟩ c).setCell ⟨b,1,none⟩ d).setCell ⟨b,2,none⟩ e).setCell ⟨b,3,none⟩ f).setCell ⟨b,4,none⟩ g).setCell ⟨b,5,none⟩ i
theorem lj{c:Type}{R:Rel c}{k:Nat}(ok:kT R k){d z:Nat}{S w w'}(hS:∀b,S b->b<z/\b≠d)(hz:z<=w.heap.size){v}{xs:List c}(e:Good d z w w')(h:km R S w v xs):km R S w' v xs:=
 h.kg ok λb a=>e.2 b (PH (hS b a)) (hS b a).2 (PH (hS b a))
def mE(w0:World)(a:Nat)(d:Nat)(o n:Int)(name:List UInt8)(b:Option Addr)(m c:Nat)(x:Ex)(w:World):Prop:=
 New w0 w a/\w.heap[a]?=some (.cells #[.int .i64 o,tx name,n,.slice b m c] 187 (0,0))/\kz .i64 d (New w0 w) w [.int .i64 o,tx name,n,.slice b m c] x
theorem Gp{c d:Nat}{w0 w w'}(f:c<w0.heap.size){r x}(e:Good c w0.heap.size w w')(h:kz .i64 d (New w0 w) w r x):kz .i64 d (New w0 w') w' r x:=
 (kz.ok _ _).M ((kz.ok _ _).kg h λb a=>e.2 b a.2 (PH a.1) (PH a.1)) λb a=>⟨a.1,ND a.2 e.1⟩
theorem mE.new{w0 w}{d:Nat}{o n:Int}{name e}{m c:Nat}{x}(f:w0.heap.size<w.heap.size)(h:kz .i64 d (New w0 w) w [.int .i64 o,tx name,n,.slice e m c] x):
  mE w0 w d o n name e m c x (w.alloc (.cells #[.int .i64 o,tx name,n,.slice e m c] 187)):=
 ⟨⟨f,by rw[NB];omega⟩,NF w _,(kz.ok _ _).M ((kz.ok _ _).kg h λb a=>N6 w _ a.2) λb a=>⟨a.1,by rw[NB];have:=a.2;omega⟩⟩
theorem B5{S w d}{n c i a:Nat}{l}(h:km lY S w (.slice d n c) l)(f:l[i]?=some a):∃b o,d=some ⟨b,o,none⟩/\S b/\w.cell? ⟨b,o+i,none⟩=some (.int .i64 (a:Int)):=by obtain⟨b,o,r,e,g,hr,hc⟩:=h.kI lY.ok i a f;have j:r=[.int .i64 (a:Int)]:=hr;have:=hc 0 (.int .i64 (a:Int)) (by rw[j];rfl);exact⟨b,o,e,g,by simpa using this⟩
theorem JK:(prog.info? 181).map (λi=>(i.zero,i.size,i.bytes))=some (some (.agg #[.int .i64 0,Em,Em,Nl,Nl,Nl]),6,112):=PL
theorem kH.Dp{S w}{a:Nat}{sc}{left:Nat}(h:kH S w a sc left):(∃b n c,w.cell? ⟨a,6,none⟩=some (.slice b n c))/\w.cell? ⟨a,7,none⟩=some (.int .i64 (left:Int))/\w.frozen? ⟨a,7,none⟩=false:=by obtain⟨e,f,g,d,i,b,c,j,rfl,_⟩:=h.kI;exact⟨⟨b,_,c,kf d 6 _ rfl⟩,kf d 7 _ rfl,ko d 7⟩
def F0(S:Nat->Prop)(a:Nat)(sc:Sc)(c:List Nat)(n:Nat)(w:World)(e:Ending)(w':World):Prop:=
 ∃(v:Value) (hs:List Hd),e=.returned v/\kx (mo .i64) 114 3 (λb=>w<=b/\b≠a) w' w v hs/\hs.length=n/\sN sc c hs/\(∃p left,kH S w' a {sc with params:=p} left)/\w.grownBy w' (some a)
theorem JL:(prog.info? 114).map (λi=>(i.zero,i.size,i.bytes))=some (some (.agg #[Em,Nl,Nl]),3,64):=PL
def Aa(w0:World)(x:Value)(v:Value)(w:World):Prop:=∃b o,v=.pointer (some ⟨b,o,none⟩)/\New w0 w b/\w.cell? ⟨b,o,none⟩=some x
theorem Du{c:Type}{R:Rel c}{k:Nat}(ok:kT R k){w0 w w' r}{x:c}(d:NG w0 w w')(h:R (New w0 w) w r x):R (New w0 w') w' r x:=
 ok.M (ok.kg h λb a=>d.2 b a) λb a=>⟨a.1,ND a.2 d.1⟩
theorem qd.yy{S w a}{n c i:Nat}{l}(h:km qd S w (.slice a n c) l)(hi:i<l.length):
  ∃b o,a=some ⟨b,o,none⟩/\S b/\w.cell? ⟨b,o+i*2,none⟩=some (.int .u8 ((l.getD i default).params:Int)):=by
 obtain⟨b,o,g,j,e,d,f,_⟩:=qd.kI h (NU hi);refine⟨b,o,e,d,?_⟩;rw[f,List.getD_eq_getElem?_getD,NU hi];rfl
def JM(l:List Nat)(w:World)(e:Ending)(w':World):Prop:=∃v,e=.returned v/\kx lY 3 1 (λ_=>False) w' w v l/\Below w w w'
theorem JP:(prog.info? 83).map (λi=>(i.zero,i.size,i.bytes))=some (some (.agg #[Em,.int .i64 0,.int .i64 0]),3,32):=PL
theorem JS:(prog.info? 44).map (λi=>(i.zero,i.size,i.bytes))=some (some (Nl),1,24):=PL
theorem wu{a:Type}{R:Rel a}{k:Nat}(ok:kT R k){c d w v}{xs:List a}(hs:c.heap.size<=d.heap.size)(h:km R (Nw d w) w v xs):km R (Nw c w) w v xs:=h.M ok λb e=>⟨NR hs e.1,e.2⟩
theorem nx.start{b:Type}{R:Rel b}{T k:Nat}{P a wr}{o:Nat}{C d V}{xs:List b}(g:a.grownBy wr (some o))(c:wr.heap[o]?=some (.cells C d (0,0)))(own:kx R T k P wr a.heap.size V xs)(lt:o<a.heap.size):nx R T k P a wr o C d V xs wr:=
 ⟨g,c,own,NQ _,own.ge,lt,g.size,λ_ _ _ _=>rfl⟩
theorem kz.open{q:IntKind}{d:Nat}{S w r e}(h:kz q d S w r e):∃d' v,d=d'+1/\r=[.int q e.op,tx e.name,.int .i64 e.n,v]/\km (kz q d') S w v e.args:=by
 cases d with
 |zero=>exact h.elim
 |succ d=>obtain⟨v,a,b⟩:=h;exact⟨d,v,rfl,a,b⟩
theorem kE.open{q:IntKind}{d:Nat}{S w r s}(h:kE q d S w r s):∃d' a b c,d=d'+1/\r=[.int q s.kind,tx s.name,tx s.hd,a,b,c]/\km (kz q De) S w a s.kV/\km (kE q d') S w b s.th/\km (kE q d') S w c s.el:=by
 cases d with
 |zero=>exact h.elim
 |succ d=>obtain⟨a,b,c,e,f⟩:=h;exact⟨d,a,b,c,rfl,e,f⟩
def HX(d:Nat)(op n:Int)(name:List UInt8)(args:List Ex)(w:World)(e:Ending)(w':World):Prop:=
 ∃(a:Option Addr) (b:Nat),e=.returned (.agg #[.int .u8 op,tx name,n,.slice a args.length b])/\km (kz .u8 d) (Nw w w') w' (.slice a args.length b) args/\Below w w w'
def FN(d:Nat):Prop:=∀(S:Nat->Prop) (w:World) (op n:Int) (name:List UInt8) (e:Option Addr) (m c:Nat) (args:List Ex),km (kz .i64 d) S w (.slice e m c) args->(1<=op/\op<=255/\args.length<=2/\∀a∈args,BX d a)->(∀b,S b->b<w)->
 Calls prog 62 #[.agg #[.int .i64 op,tx name,n,.slice e m c]] w (HX d op n name args w)
theorem HY:(prog.info? 312).map (λi=>(i.zero,i.size,i.bytes))=some (some (.agg #[.int .u8 0,.int .i64 0,.int .i64 0,.int .i64 0]),4,32):=PL
def JT(d:Nat)(l:List St)(w:World)(e:Ending)(w':World):Prop:=
 ∃(a:Option Addr) (b:Nat),e=.returned (.slice a l.length b)/\km (kE .u8 d) (Nw w w') w' (.slice a l.length b) l/\Below w w w'
def Js(d:Nat):Prop:=∀(S:Nat->Prop) (w:World) (a:Option Addr) (n c:Nat) (l:List St),km (kE .i64 d) S w (.slice a n c) l->l.length<=12->(∀s∈l,uE d s)->(∀b,S b->b<w)->
 Calls prog 27 #[.slice a n c] w (JT d l w)
theorem H0:(prog.info? 100).map (λi=>(i.zero,i.size,i.bytes))=some (some (.agg #[Em,.bool false]),2,24):=PL
theorem H3:(prog.info? 108).map (λi=>(i.zero,i.size,i.bytes))=some (some (.agg #[Em,.int .u8 0,.int .i64 0]),3,32):=PL
theorem H6:(prog.info? 118).map (λi=>(i.zero,i.size,i.bytes))=some (some (.agg #[Em,Nl,Nl]),3,64):=PL
theorem KG.Jk{a b d}{o c:Nat}{C g f i}(h:KG a o C f b)(j:KG b c g i d)(hc:a<=c):KG a o C f d:=
 h.grow j.g (λz e=>by injection e with e;omega)
def H7(w:World)(name:List UInt8)(f:Fl)(a b c:Nat)(e:Ending)(w':World):Prop:=
 ∃(d:Option Addr) (c1:Nat) (g:Option Addr) (c2:Nat) (i:Option Addr) (c3:Nat),e=.returned (.agg #[tx name,.slice d a c1,.slice g b c2,.slice i c c3])/\km mR (Nw w w') w' (.slice d a c1) f.kM/\km nI (Nw w w') w' (.slice g b c2) f.lN/\km (mg .u8) (Nw w w') w' (.slice i c c3) f.ky/\Below w w w'
theorem Cy:(prog.info? 343).map (·.size)=some pO.size:=PL
theorem rU:prog.underlying 343=some (.array 39 9):=PL
theorem wX(n:Int)(w):Calls prog 190 #[.int .u8 n] w λe w'=>e=.returned (.bool (mh.nE n))/\w=w':=by
 by_cases a:97<=n<;>by_cases b:n<=122<;>by_cases c:65<=n<;>by_cases d:n<=90;all_goals
  first
  |omega
  |(go_enter func190,ntmps190;go_wp2;go_ret;exact⟨by simp[mh.nE,a,b,c,d],rfl⟩)
theorem qu{w}(h:lH w)(k:Nat)(x)(hx:shapes[k]?=some x):∀a u,(qL x)[a]?=some u->w.cell? ⟨8,k*4+a,none⟩=some u:=by obtain⟨_,⟨t,b,h⟩,_⟩:=h;intro a u hu;obtain⟨r,hr,hc⟩:=kZ.kI (k:=4) (R:=λr x=>r=qL x) (λr x h=>by rw[h];rfl) k x (kZ.map qL shapes) hx;have:=hc a u (by rw[hr];exact hu);simp only[World.cell?,h];simpa[vX]using this
theorem oN{w}(h:lH w)(k:Nat)(x)(hx:forms[k]?=some x):∀a u,(sw x)[a]?=some u->w.cell? ⟨4,k*6+a,none⟩=some u:=by obtain⟨_,_,⟨t,b,h⟩⟩:=h;intro a u hu;obtain⟨r,hr,hc⟩:=kZ.kI (k:=6) (R:=λr x=>r=sw x) (λr x h=>by rw[h];rfl) k x (kZ.map sw forms) hx;have:=hc a u (by rw[hr];exact hu);simp only[World.cell?,h];simpa[zj]using this
theorem vq:ma 172:=λ_ _=>PL
def B8(g:FuncId)(d:Nat):Prop:=∀(S:Nat->Prop) (w:World) (b o:Nat) (e:Ex) (r:List Value),lH w->At w b o r->kz .u8 d S w r e->ml d e->b<w->(∀q,S q->q<w)->Calls prog 196 #[.pointer (some ⟨b,o,none⟩),.func (.func g) #[] #[]] w (kU (.bool true) w)
def Ao(g:FuncId):Prop:=∀(S:Nat->Prop) (w:World) (b o d:Nat) (s:St) (r:List Value),lH w->At w b o r->kE .u8 d S w r s->nB d s->b<w->(∀q,S q->q<w)->Calls prog g #[.pointer (some ⟨b,o,none⟩)] w (kU (.bool true) w)
theorem tU:ma 127:=λ_ _=>PL
theorem zJ:ma 129:=λ_ _=>PL
theorem xY(v)(b:Jl v)(w):Calls prog 132 #[.agg #[tx v.name,.int .u8 v.ty,v.init]] w (kU (.bool true) w):=by
 have a:Below w w (w.alloc (.cells #[tx v.name,.int .u8 v.ty,v.init] 108)):=Ba _ _;have hf:=b.form;obtain⟨name,d,c⟩:=v;simp only at*;rcases hf with⟨rfl,hi⟩|⟨rfl,hi⟩|⟨rfl,rfl⟩
 .have hd:(c != -9223372036854775808)=true:=by simpa using hi
  go_enter func132,ntmps132
  go_wp2;go_ret;exact⟨PK,a⟩
 .rcases hi with rfl|rfl
  .go_enter func132,ntmps132
   go_wp2;go_ret;exact⟨rfl,a⟩
  go_enter func132,ntmps132
  go_wp2;go_ret;exact⟨rfl,a⟩
 go_enter func132,ntmps132
 go_wp2;go_ret;exact⟨rfl,a⟩
theorem rk.Nt{a b:List In}{n:Nat}(h:rk a n b):mC a n b:=by obtain⟨l,c,d,e⟩:=h;exact⟨l,c,d,λx hx=>(e x hx).ok _⟩
def MG:Value:=.agg #[Em,Nl,Nl]
def yF{a:Type}(At:a->Value->Prop)(z:Value)(o:Option a)(w:World)(e:Ending)(w':World):Prop:=(∀c,o=some c->∃v,e=.returned (.tuple #[v,.bool true])/\At c v)/\(o=none->e=.returned (.tuple #[z,.bool false]))/\Below w w w'
theorem rB.kh{S w w' a sc b}{c d:Nat}{e}{f cv:Nat}{g}{i j:Nat}(h:rB S w a sc b c d e f cv g i j)(k:Below w w w'):rB S w' a sc b c d e f cv g i j:=h.kg (λq l=>k.B q (h.ln q l)) k.size
theorem sf(S w t sc g)(i j:Nat)(a)(b cv:Nat)(c)(d f:Nat)(name:List UInt8)(h:rB S w t sc g i j a b cv c d f):
  Calls prog 215 #[.agg #[.slice g i j,.slice a b cv,.slice c d f],tx name] w (kU (if name∈oI 112 sc.params then pP none else pP ((lV sc.ints sc.kF).find? λx=>x.name==name)) w):=by
 have D:=h.lens;have n:Below w w ((w.alloc (.cells #[.slice g i j,.slice a b cv,.slice c d f] 305)).alloc (.cells #[Em,.int .u8 0,.int .i64 0] 108)):=(Ba _ _).alloc PK _;have u:((w.alloc (.cells #[.slice g i j,.slice a b cv,.slice c d f] 305)).alloc (.cells #[Em,.int .u8 0,.int .i64 0] 108)).heap[w.heap.size]?=some (.cells #[.slice g i j,.slice a b cv,.slice c d f] 305 (0,0)):=(N6 _ _ PK).T (NF _ _);have q:((w.alloc (.cells #[.slice g i j,.slice a b cv,.slice c d f] 305)).alloc (.cells #[Em,.int .u8 0,.int .i64 0] 108)).heap[w.heap.size+1]?=some (.cells #[Em,.int .u8 0,.int .i64 0] 108 (0,0)):=by have:=NF (w.alloc (.cells #[.slice g i j,.slice a b cv,.slice c d f] 305)) (.cells #[Em,.int .u8 0,.int .i64 0] 108);rwa [NB]at this
 have E:((w.alloc (.cells #[.slice g i j,.slice a b cv,.slice c d f] 305)).alloc (.cells #[Em,.int .u8 0,.int .i64 0] 108)).heap.size=w+2:=PK
 have H:=(h.kh n)
 go_enter func215,ntmps215
 go_wp2_with fail;generalize(w.alloc (.cells #[.slice g i j,.slice a b cv,.slice c d f] 305)).alloc (.cells #[Em,.int .u8 0,.int .i64 0] 108)=B at*;have r:w.heap.size+1<B:=PJ
 have F:w.heap.size<B:=PJ
 refine(pF S B c d f _ name H.params PJ H.ln).M ?_;rintro e G ⟨rfl,rfl⟩;obtain⟨⟨I,J,K⟩,_⟩:=kS u;by_cases hm:name∈oI 112 sc.params
 .have hd:decide (name∈oI 112 sc.params)=true:=(by simp[hm]);obtain⟨⟨k,l,m⟩,⟨y,z,A⟩⟩:=kS q;rw[hd];go_wp2_with fail;refine NT (v:=.tuple #[.agg #[Em,.int .u8 0,.int .i64 0],.bool false]) ?_ rfl ⟨by first|rfl|(rw[Oj hm];rfl),kq (kq (kq n PJ) PJ) PJ⟩;simp[results,Tryz.results215,go_sem,k,l,m]
 .have hd:decide (name∈oI 112 sc.params)=false:=(by simp[hm]);rw[hd];go_wp2_with fail;refine(pG S B a b cv _ name H.vars PJ H.ln).M ?_;rintro e C ⟨rfl,p⟩;have s:=n.T (p.M PJ);obtain⟨⟨k,l,m⟩,⟨y,z,A⟩⟩:=kS ((p.B _ r).T q);have L:w.heap.size+1<C:=ND r p.size;cases Jq:(lV sc.ints sc.kF).find? λx=>x.name==name with
  |none=>simp only[pP];go_wp2_with fail;refine NT (v:=.tuple #[.agg #[Em,.int .u8 0,.int .i64 0],.bool false]) ?_ rfl ⟨by first|rfl|(rw[Od hm,Jq];rfl),kq (kq (kq s PJ) PJ) PJ⟩;simp[results,Tryz.results215,go_sem,k,l,m]
  |some x=>simp only[pP];go_wp2_with fail;refine NT (v:=.tuple #[.agg #[tx x.name,.int .u8 x.ty,x.init],.bool true]) ?_ rfl ⟨by first|rfl|(rw[Od hm,Jq];rfl),kq (kq (kq s PJ) PJ) PJ⟩;simp[results,Tryz.results215,go_sem,k,l,m]
def tW(cb:Nat)(a b c d:Value)(w:World):Prop:=∃e:ByteArray,w.heap[cb]?=some (.cells #[a,b,c,d,.string e,Em,Em,.int .i64 0] 211 (0,0))
theorem tW.lt{cb:Nat}{a b c d w}(h:tW cb a b c d w):cb<w:=by obtain⟨e,h⟩:=h;exact(NC.1 h).1
theorem tW.kg{cb:Nat}{a b c d w w'}(h:tW cb a b c d w)(e:w'.heap[cb]?=w.heap[cb]?):tW cb a b c d w':=by obtain⟨f,h⟩:=h;exact⟨f,e.T h⟩
theorem tW.kh{cb B:Nat}{a b c d w w'}(h:tW cb a b c d w)(e:Below B w w')(f:cb<B):tW cb a b c d w':=h.kg (e.B cb f)
theorem tE{w:World}{b:Nat}{a c d e f g i j k:Value}{t:TypeId}(h:w.heap[b]?=some (.cells #[a,c,d,e,f,g,i,j,k] t (0,0))):
  w.cell? ⟨b,0,none⟩=some a/\w.cell? ⟨b,1,none⟩=some c/\w.cell? ⟨b,2,none⟩=some d/\w.cell? ⟨b,3,none⟩=some e/\w.cell? ⟨b,4,none⟩=some f/\w.cell? ⟨b,5,none⟩=some g/\w.cell? ⟨b,6,none⟩=some i/\w.cell? ⟨b,7,none⟩=some j/\w.cell? ⟨b,8,none⟩=some k:=
 ⟨kf h 0 _ rfl,kf h 1 _ rfl,kf h 2 _ rfl,kf h 3 _ rfl,kf h 4 _ rfl,kf h 5 _ rfl,kf h 6 _ rfl,kf h 7 _ rfl,kf h 8 _ rfl⟩
def Bb(a cb:Nat):Nat->Prop:=λq=>q=a\/q=cb
theorem ED:ma 139:=λ_ _=>PL
theorem EF:ma 204:=λ_ _=>PL
def pA:Rel (List (List UInt8)):=λS w r l=>∃v,r=[v]/\km kA S w v l
def J1(n:Nat)(w:World)(e:Ending)(w':World):Prop:=∃(t:Int) (a:Bool),e=.returned (.tuple #[.int .i64 t,.bool a])/\Below w w w'/\(a=true->0<=t/\t<=n)
theorem CK(x:In)(n:Nat)(w:World)(h:pw n x):
  Calls prog 180 #[.agg #[.int .u8 x.op,x.a,x.b,x.n]] w (J1 n w):=by
 obtain⟨_,_,c,d⟩:=h;obtain⟨op,a,b,m⟩:=x;simp only at c d⊢;by_cases e:op=27
 .subst e
  go_enter func180,ntmps180
  go_wp2;refine NT (v:=.tuple #[.int .i64 a,.bool true]) ?_ rfl ⟨a,true,rfl,Ba _ _,λ_=>c PK⟩;simp[results,Tryz.results180,go_sem]
 by_cases f:op=28
 .subst f
  go_enter func180,ntmps180
  go_wp2;refine NT (v:=.tuple #[.int .i64 a,.bool true]) ?_ rfl ⟨a,true,rfl,Ba _ _,λ_=>c PK⟩;simp[results,Tryz.results180,go_sem]
 by_cases g:op=32
 .subst g
  go_enter func180,ntmps180
  go_wp2;refine NT (v:=.tuple #[.int .i64 b,.bool true]) ?_ rfl ⟨b,true,rfl,Ba _ _,λ_=>d PK⟩;simp[results,Tryz.results180,go_sem]
 by_cases i:op=33
 .subst i
  go_enter func180,ntmps180
  go_wp2;refine NT (v:=.tuple #[.int .i64 b,.bool true]) ?_ rfl ⟨b,true,rfl,Ba _ _,λ_=>d PK⟩;simp[results,Tryz.results180,go_sem]
 have j:(op==27)=false:=by simpa using e
 have k:(op==28)=false:=by simpa using f
 have l:(op==32)=false:=by simpa using g
 have p:(op==33)=false:=by simpa using i
 go_enter func180,ntmps180
 go_wp2;refine NT (v:=.tuple #[.int .i64 0,.bool false]) ?_ rfl ⟨0,false,rfl,Ba _ _,λh=>by cases h⟩;simp[results,Tryz.results180,go_sem]
def xM(k:Nat):Rel Unit:=λ_ _ r _=>r.length=k/\∀u∈r,u.oneCell'=true
theorem yr:(215:TypeId)≠216:=PM
def ub(a b:Value):Prop:=∀z,a.ownBlock=some z->b.ownBlock≠some z
def sO(a x:World)(V:Value)(n:Nat):Prop:=∃xs,kx kA 9 1 (λ_=>False) x a V xs/\xs.length<=n
theorem Ch{a b}(h:ub a b):∀z,a.ownBlock=some z->some z≠b.ownBlock:=λz hz e=>h z hz e.symm
theorem zA{a b}(h:ub a b):∀z,b.ownBlock=some z->some z≠a.ownBlock:=λz hz e=>h z e.symm hz
theorem ER:ma 148:=λ_ _=>PL
theorem ES:ma 99:=λ_ _=>PL
def pL:Value->Int
 | .int _ x=>x
 |_=>0
end Go.Proofs.YtfemcncookpdhaaGreatDoor
namespace lX
theorem HT(p)(a:Nat):(zZ p a).length<=1:=by unfold zZ;split<;>(try split)<;>(try split)<;>simp
theorem DD(p):∀k,(rA p k).length<=k
 |0=>Nat.le_refl _
 |k+1=>by have a:=DD p k;have b:=HT p k;simp only[rA,List.length_append];omega
def qG(a:Nat):List Va:=(List.range a).map λk=>⟨nm 120 k,1,k⟩
def rG(a b:Nat):List Va:=qG a++[⟨nm 98 0,2,0⟩]++(List.range b).map λk=>⟨nm 116 k,3,0⟩
theorem pI(a:Nat):(qG a).length=a:=by simp[qG]
theorem Ct(a:Nat):qG (a+1)=qG a++[⟨nm 120 a,1,a⟩]:=by simp[qG,List.range_succ]
theorem uO(a b:Nat):(rG a b).length=a+1+b:=by simp[rG,qG];omega
theorem Cu(b a:Nat):rG b (a+1)=rG b a++[⟨nm 116 a,3,0⟩]:=by simp[rG,List.range_succ]
theorem Cv(a:Nat):rG a 0=qG a++[⟨nm 98 0,2,0⟩]:=by simp[rG]
theorem sG{i a:Nat}(hi:i<26)(b:a<26)(h:kB i=kB a):i=a:=by unfold kB at h;injection h with h;have:=congrArg UInt8.toNat h;simp at this;omega
theorem JN{n m:Nat}(hn:0<n)(z:n<=3)(hm:m<n*n){b}(h:nL n m b){x}(c:x.a=kB (m/n))(d:x.b=kB (m % n))(j:1<=x.sW)(l:x.sW<=3):nL n (m+1) (b++[x]):=by refine⟨λa hy=>?_,?_⟩;rcases List.mem_append.1 hy with hy|hy;obtain⟨k,r,h⟩:=h.1 a hy;exact⟨k,PJ,h⟩;simp at hy;subst hy;exact⟨m,PJ,hm,c,d,j,l⟩;rw[List.map_append,List.nodup_append];refine⟨h.2,PK,λp hp q f e=>?_⟩;simp only[List.map_cons,List.map_nil,List.mem_singleton]at f;rw[List.mem_map]at hp;obtain⟨a,hy,rfl⟩:=hp;obtain⟨k,r,s,t,u,_⟩:=h.1 a hy;rw[f]at e;injection e with g i;rw[c,t]at g;rw[d,u]at i;have A:k/n<n:=Nat.div_lt_of_lt_mul s;have B:m/n<n:=Nat.div_lt_of_lt_mul hm;have C:k % n<n:=Nat.mod_lt _ hn;have D:m % n<n:=Nat.mod_lt _ hn;have v:=sG PJ PJ g;have w:=sG PJ PJ i;have y:=Nat.div_add_mod k n;have E:=Nat.div_add_mod m n;rw[v,w]at y;omega
def tZ(p:Pt):Nat:=if p.hs.length=0 then 1 else min p.hs.length 3
def Ab(p:Pt):Nat:=min p.ss.length 3
theorem FM(p)(a:Nat):(zZ p a).length=if a<p.hs.length\/a=0\/a<p.ss.length then 1 else 0:=by unfold zZ;by_cases b:a<p.hs.length;rw[if_pos b,if_pos (.inl b)];rfl;rw[if_neg b];by_cases c:a=0;rw[if_pos c,if_pos (.inr (.inl c))];rfl;rw[if_neg c];by_cases d:a<p.ss.length;rw[if_pos d,if_pos (.inr (.inr d))];rfl;rw[if_neg d,if_neg PJ];rfl
theorem uP(p):(rA p 3).length=max (tZ p) (Ab p):=by have a:=FM p 0;have b:=FM p 1;have c:=FM p 2;rw[if_pos PJ]at a;simp only[rA,List.length_append,List.length_nil,a,b,c,tZ,Ab];split<;>split<;>split<;>omega
def uF(d:Nat)(l:List St)(k:Nat):Nat:=l.length+((l.take k).map λs=>kN d s.th+kN d s.el).sum
theorem Eu(d:Nat)(l):uF d l 0=l.length:=by simp[uF]
theorem yB(d:Nat){l}{k:Nat}{x}(h:l[k]?=some x):uF d l (k+1)=uF d l k+(kN d x.th+kN d x.el):=by simp only[uF,List.take_add_one,h,Option.toList_some,List.map_append,List.sum_append,List.map_cons,List.map_nil,List.sum_cons,List.sum_nil];omega
theorem wG(d:Nat):∀l,uF d l l.length=kN (d+1) l
 |[]=>rfl
 |x::l=>by have:=wG d l;simp only[uF,List.take_length]at this⊢;simp only[List.length_cons,List.map_cons,List.sum_cons,kN]at this⊢;omega
theorem Ev(d:Nat)(l):∀(k a:Nat),k<=a->uF d l k<=uF d l a
 |k,a,h=>by
  induction a with
  |zero=>obtain rfl:k=0:=PJ;exact Nat.le_refl _
  |succ a b=>
   by_cases e:k=a+1;rw[e];exact Nat.le_refl _;refine Nat.le_trans (b PJ) ?_;cases hx:l[a]? with
   |none=>have:l.length<=a:=(by rw[List.getElem?_eq_none_iff]at hx;exact hx);simp only[uF,List.take_of_length_le this,List.take_of_length_le (Nat.le_succ_of_le this)];exact Nat.le_refl _
   |some x=>rw[yB d hx];omega
def qh:Nat->Nat|0=>0|d+1=>2*qh d+1
def vM(x:In):List Go.Value:=[.int .u8 x.op,.int .i64 x.a,.int .i64 x.b,.int .i64 x.n]
theorem H9(b:List In)(i:Nat)(x:In)(h:b[i]?=some x)(a:Nat)(u:Go.Value)(hu:(vM x)[a]?=some u):((b.map vM).flatten)[i*4+a]?=some u:=by
 induction b generalizing i with
 |nil=>simp at h
 |cons c ys d=>
  have e:a<4:=(List.getElem?_eq_some_iff.1 hu).1;cases i with
  |zero=>simp only[List.getElem?_cons_zero,Option.some.injEq]at h;subst h;rw[List.map_cons,List.flatten_cons,List.getElem?_append_left (by show 0*4+a<4;omega)];simpa using hu
  |succ i=>rw[List.map_cons,List.flatten_cons,List.getElem?_append_right (by show 4<=_;omega),show(i+1)*4+a-(vM c).length=i*4+a by show(i+1)*4+a-4=_;omega];exact d i (by simpa using h)
theorem F8{c}{a b:Nat}(d:a<90)(e:b<90)(h:nm c a=nm c b):a=b:=by unfold nm at h;injection h with _ h;injection h with h _;have:=congrArg UInt8.toNat h;simp at this;omega
def px(l:List Int):Array Go.Value:=(l.map λx=>Go.Value.int .i64 x).toArray
theorem GF{l}{i:Nat}{x:Int}(h:l[i]?=some x):(px l)[i]?=some (.int .i64 x):=by simp[px,h]
end lX
namespace mh
theorem JU(p l):pre p l<=l.length:=by unfold pre;exact(List.takeWhile_sublist _).length_le
theorem Gv(p:Int->Bool)(s:ByteArray)(k:Nat)(h:¬k<s.size)(a:k<=pre p s.data.toList):pre p s.data.toList=k:=by have:=JU p s.data.toList;simp at this;omega
theorem Gw(l)(h:∀a,a<39->(words[a]?.getD []==l)=false):xL l=false:=by unfold xL;rw[Bool.eq_false_iff];intro hc;rw[List.contains_iff_mem]at hc;obtain⟨a,b,e⟩:=List.getElem_of_mem hc;have:=h a b;rw[List.getElem?_eq_getElem b,Option.getD_some,e]at this;simp at this
end mh
namespace Go.Proofs.YtfemcncookpdhaaGreatDoor
open Go.RowKit lX Go.Proofs.Tryz
theorem DK{w S}:∀{a:List (List Value)} {b:List In},kZ (sX S w) a b->a=b.map vM
 |[],[],_=>rfl
 |r::rs,x::xs,⟨h1,h2⟩=>by rw[Ob,<-DK h2];exact Oy (·::rs) h1
 |[],_::_,h=>h.elim
 |_::_,[],h=>h.elim
theorem DL{w S}:∀(a:List In),kZ (sX S w) (a.map vM) a
 |[]=>trivial
 |_::xs=>⟨rfl,DL xs⟩
theorem Nx:qh De=63:=rfl
theorem EJ(n:Nat):madeCells #[.int .i64 0] n=px (List.replicate n 0):=by apply Array.ext_getElem?;intro i;by_cases h:i<n;simp[madeCells,px,h,Nat.mod_one];simp[madeCells,px,h]
end Go.Proofs.YtfemcncookpdhaaGreatDoor
namespace kj
structure Key where
 kind:Int
 a:Int
 b:Int
 n:Int
def qm(k:Int):Bool:=(k==1)||(k==5)||(k==6)||(k==7)
def oA(k:Int):Bool:=(k==1)||(k==2)||(k==3)||(k==4)
def tk(k:Int):Int:=if k==2 then 1 else if k==3 then 3 else if(k==6)||(k==7)||(k==9)then 200 else 0
def rz(x a:Int):Int:=if x<a then-1 else if a<x then 1 else 0
def wo(x a:Key):Prop:=x.kind<a.kind\/(x.kind=a.kind/\(x.a<a.a\/(x.a=a.a/\(x.b<a.b\/(x.b=a.b/\x.n<a.n)))))
theorem oP(x a:Int):(x<a/\rz x a= -1)\/(a<x/\rz x a=1)\/(x=a/\rz x a=0):=by unfold rz;by_cases h:x<a;simp[h];by_cases b:a<x;simp[h,b];refine .inr (.inr ⟨PJ,by simp[h,b]⟩)
theorem tP(x:Key):¬wo x x:=by unfold wo;omega
def BQ(x a:Key):Bool:=(x.kind==a.kind)&&(x.a==a.a)&&(x.b==a.b)&&(x.n==a.n)
end kj
namespace kj
open Go
def words:List (List UInt8):=[[],[114,101,113,117,101,115,116],[102,108,105,112],[100,101,112,108,111,121],[99,114,97,115,104],[100,114,111,112],[100,101,108,97,121],[116,119,105,99,101],[100,105,115,107],[106,105,116,116,101,114]]
def oa(k:Key):List (List UInt8):=[words.getD k.kind.toNat [],Lib.itoa k.a]++(if qm k.kind=true then [Lib.itoa k.b]else [])++[Lib.itoa k.n]
def oY(k:Key):List UInt8:=Lib.join (oa k) [32]
end kj
namespace Go.Proofs.YtfemcncookpdhaaGreatDoor.C
open Go.RowKit Go.Proofs.Tryz
def po(k:kj.Key):Value:=.agg #[.int .u8 k.kind,k.a,k.b,k.n]
theorem kQ(b o a:Nat):(⟨b,o,none⟩:Addr).add a=⟨b,o+a,none⟩:=by
 unfold Addr.add;split
 rename_i h;subst h;rfl
 rfl
theorem Fe:∀a:Fin 256,a.val|||128=a.val % 128+128:=PV
theorem K3(z:Nat):bits .or .u8 ((z:Int) % 256) 128=((z % 128+128:Nat):Int):=by have h:=Fe ⟨z % 256,PJ⟩;simp only at h;rw[show((z:Int) % 256)=((z % 256:Nat):Int) from PJ,show(128:Int)=((128:Nat):Int)from rfl,u8_or_nat _ _ PJ PJ,h,Nat.mod_mod_of_dvd _ PM]
theorem IZ(a:Nat)(h:a<18446744073709551616):bits .xor .u64 IntKind.u64.max (a:Int)=((18446744073709551615-a:Nat):Int):=by
 rw[show IntKind.u64.max=((18446744073709551615:Nat):Int)from PV,u64_xor_nat _ _ PJ h];congr 1;have b:(BitVec.allOnes 64^^^BitVec.ofNat 64 a).toNat=18446744073709551615-a:=by rw[BitVec.xor_comm,BitVec.xor_allOnes,BitVec.toNat_not,BitVec.toNat_ofNat,Nat.mod_eq_of_lt PJ]
 rw[<-b,BitVec.toNat_xor,BitVec.toNat_ofNat,Nat.mod_eq_of_lt PJ];rfl
theorem tz(a b):Lib.byteCells (a++b)=Lib.byteCells a++Lib.byteCells b:=by simp[Lib.byteCells]
def zq:kj.Key:=⟨5,1,0,7⟩
def zr:kj.Key:=⟨1,0,2,5⟩
end Go.Proofs.YtfemcncookpdhaaGreatDoor.C
namespace kj
theorem G8(k:Nat):(words.getD k []).length<=21:=by
 by_cases h:k<words.length;have:∀x∈words,x.length<=21:=PM
 exact this _ (by rw[List.getD_eq_getElem?_getD,List.getElem?_eq_getElem h];exact List.getElem_mem h);rw[List.getD_eq_getElem?_getD,List.getElem?_eq_none PJ];simp
theorem uw(k:Key):(oa k).length<=4/\3<=(oa k).length:=by unfold oa;split<;>simp
end kj
namespace Go.Proofs.YtfemcncookpdhaaGreatDoor.C
open Go.ChangeShapes Go.WideShapes Go.ChangeAt Go.RowKit Go.Proofs.Tryz
theorem rU:prog.underlying 249=some (.array 10 9):=PL
end Go.Proofs.YtfemcncookpdhaaGreatDoor.C
