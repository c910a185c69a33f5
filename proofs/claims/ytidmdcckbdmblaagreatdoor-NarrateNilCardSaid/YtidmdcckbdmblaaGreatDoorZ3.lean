import Derived.Test.YtidmdcckbdmblaaGreatDoorZ1
set_option maxRecDepth 1000000
set_option maxHeartbeats 32000000
set_option linter.all false
namespace Go.Proofs.YtidmdcckbdmblaaGreatDoor
open Go.RowKit Go.Proofs.Tryz
theorem jD.app{a:Type}{R:List Value->a->Prop}{b}{c:List a}(d:jD R b c):∀{e:List (List Value)} {xs:List a},jD R e xs->jD R (e++b) (xs++c)
 |[],[],_=>d
 |_::_,_::_,⟨h1,h⟩=>⟨h1,jD.app d h⟩
 |[],_::_,h=>h.elim
 |_::_,[],h=>h.elim
end Go.Proofs.YtidmdcckbdmblaaGreatDoor
namespace Go.Proofs.YtidmdcckbdmblaaGreatDoor
open Go.RowKit jJ Go.Proofs.Tryz
theorem jc.imp{b:Type}{R d:Rel b}{a w v}{xs:List b}(h:jc R a w v xs)(hi:∀r x,R a w r x->d a w r x):jc d a w v xs:=by obtain⟨e,c,f,g,i,j,k,l⟩:=h;exact⟨e,c,f,g,i,j,k,l.imp hi⟩
theorem ki.up(q:IntKind):∀{d d':Nat} {a:Nat->Prop} {w:World} {r:List Value} {e:Ex},d<=d'->ki q d a w r e->ki q d' a w r e
 |0,_,_,_,_,_,_,h=>h.elim
 |d+1,0,_,_,_,_,hd,_=>LC
 |d+1,d'+1,_,_,_,_,hd,⟨v,h,hs⟩=>⟨v,h,hs.imp λ_ _ hx=>ki.up q LC hx⟩
theorem jH.up(q:IntKind):∀{d d':Nat} {a:Nat->Prop} {w:World} {r:List Value} {e:St},d<=d'->jH q d a w r e->jH q d' a w r e
 |0,_,_,_,_,_,_,h=>h.elim
 |d+1,0,_,_,_,_,hd,_=>LC
 |d+1,d'+1,_,_,_,_,hd,⟨v1,v2,v3,h,h1,h2,h3⟩=>⟨v1,v2,v3,h,h1,h2.imp λ_ _ hx=>jH.up q LC hx,h3.imp λ_ _ hx=>jH.up q LC hx⟩
theorem qi:(prog.info? 9).map (λi=>(i.zero,i.size,i.bytes))=some (some (Em),1,16):=LF
theorem iW{w:World}{b i:Nat}{a:Array Value}{t:TypeId}{u:Value}(h:w.heap[b]?=some (.cells a t (0,0))):(w.setCell ⟨b,i,none⟩ u).heap[b]?=some (.cells (a.setIfInBounds i u) t (0,0)):=by simp[World.setCell,Array.getElem?_modify,h]
theorem jb(w:World)(R i:Nat)(v:Value):w.grownBy (w.setCell ⟨R,i,none⟩ v) (some R):=
 ⟨rfl,rfl,rfl,by rw[JQ];exact JS _,λk _ a=>J8 _ _ _ _ (λe=>a (by rw[e]))⟩
theorem mg.C4{c w w'}{d:Nat}{sc}{left:Nat}{row}(h:mg c w d sc left)(e:w.grownBy w' row)(hm:some d≠row)(hS:∀b,c b->some b≠row):mg c w' d sc left:=by obtain⟨g,i,j,a,k,hy⟩:=h.jr;have f:∀b,c b->w'.heap[b]?=w.heap[b]?:=λb a=>e.B b (h.jY b a).2 (hS b a);exact⟨⟨g,i,j,(e.B d h.lt hm).T a,k.iV Fp.ok f,hy.iV Cq.ok f⟩,λb a=>⟨(h.jY b a).1,JI (h.jY b a).2 e.size⟩⟩
theorem ue.drew{b}{c:Nat}{sc}{left:Nat}{T d w a}(h:ue b c sc left T d w a):ue b c sc left T d w a.drew:=h.grow (jo (Below.refl a a).drew)
def CC(w0:World)(a:Nat->Prop)(x:Value)(v:Value)(w:World):Prop:=∃b o,v=.pointer (some ⟨b,o,none⟩)/\(New w0 w b\/(a b/\b<w))/\w.cell? ⟨b,o,none⟩=some x
def wC(w0:World)(a:Nat)(d:Nat)(o n:Int)(name:List UInt8)(b:Option Addr)(m c:Nat)(x:Ex)(w:World):Prop:=
 New w0 w a/\w.heap[a]?=some (.cells #[.int .i64 o,tx name,n,.slice b m c] 272 (0,0))/\ki .i64 d (New w0 w) w [.int .i64 o,tx name,n,.slice b m c] x
theorem C5{c d:Nat}{w0 w w'}(f:c<w0.heap.size){r x}(e:Good c w0.heap.size w w')(h:ki .i64 d (New w0 w) w r x):ki .i64 d (New w0 w') w' r x:=
 (ki.ok _ _).M ((ki.ok _ _).iV h λb a=>e.2 b a.2 (LA a.1) (LA a.1)) λb a=>⟨a.1,JI a.2 e.1⟩
theorem wC.new{w0 w}{d:Nat}{o n:Int}{name e}{m c:Nat}{x}(f:w0.heap.size<w.heap.size)(h:ki .i64 d (New w0 w) w [.int .i64 o,tx name,n,.slice e m c] x):
  wC w0 w d o n name e m c x (w.alloc (.cells #[.int .i64 o,tx name,n,.slice e m c] 272)):=
 ⟨⟨f,by rw[JN];omega⟩,JK w _,(ki.ok _ _).M ((ki.ok _ _).iV h λb a=>JY w _ a.2) λb a=>⟨a.1,by rw[JN];have:=a.2;omega⟩⟩
theorem sf(a:Nat)(xs x):jw (a+1) (xs++[x])=jw (a+1) xs+(1+jw a x.th+jw a x.el):=by simp[jw]
def FJ(w0:World)(x:Value)(v:Value)(w:World):Prop:=∃b o,v=.pointer (some ⟨b,o,none⟩)/\New w0 w b/\w.cell? ⟨b,o,none⟩=some x
theorem qf.app{g}{f:Nat}{sc V hs}{i:Nat}{l:Int}{m}{n c:Nat}{w x j}(h:qf g f sc V hs i l m n c w x)(B:f<w)(hS:∀b,g b->b<w)(u:jx (kZ .i64) 185 3 (λb=>w<=b/\b≠f) j w V hs)(a:x.grownBy j V.ownBlock):qf g f sc V hs i l m n c w j:=by obtain⟨d,v,r,y,s,p,left,hm⟩:=h;have k:=v.ge;refine⟨⟨a.os.T d.os,a.tape.T d.tape,a.output.T d.output,J9 d.size a.size,λq t z=>(a.B q (JI t d.size) (λe=>LA ((k q e.symm).1))).T (d.B q t z)⟩,u,(a.B i (JJ.1 r).1 (λe=>s e)).T r,y,s,p,left,?_⟩;exact hm.C4 a (λe=>LA ((k f e.symm).1)) (λb A e=>by have C:=(k b e.symm).1;have:=hS b A;omega)
theorem lj.app{i:Type}{R:Rel i}{T k:Nat}{P d wr}{o:Nat}{C j V}{xs:List i}{x f}(h:lj R T k P d wr o C j V xs x)(a:x.grownBy f V.ownBlock)(m:jx R T k P f d V xs):lj R T k P d wr o C j V xs f:=
 have hx:o<x:=(JJ.1 h.c).1
 ⟨⟨a.os.T h.g.os,a.tape.T h.g.tape,a.output.T h.g.output,J9 h.g.size a.size,λb c g=>(a.B b (JI c h.g.size) (λe=>LA ((h.v b e.symm).1))).T (h.g.B b c g)⟩,(a.B o hx (λe=>LB ((h.v o e.symm).1) h.lt)).T h.c,m,J9 h.s a.size,h.v,h.lt,h.ws,λb c g l=>(a.B b (JI c h.s) l).T (h.k b c g l)⟩
theorem lj.drew{a:Type}{R:Rel a}{T k:Nat}{P b wr}{o:Nat}{C c V}{xs:List a}{x}(h:lj R T k P b wr o C c V xs x)(ok:jI R k):lj R T k P b wr o C c V xs {x with drawn:=x.drawn+1}:=h.grow ok (jo (Below.refl _ _).drew)
theorem lj.set{c:Type}{R:Rel c}{T k:Nat}{P a wr}{o:Nat}{C d f V V'}{xs g:List c}{x}(h:lj R T k P a wr o C f V xs x)(ok:jI R k)(l:∀b,P b->a<=b)(j:jx R T k P x a V' g)(i:Nat)(u)(hc:C.setIfInBounds i u=d):
  a.grownBy (x.setCell ⟨o,i,none⟩ u) (some o)/\(x.setCell ⟨o,i,none⟩ u).heap[o]?=some (.cells d f (0,0))/\jx R T k P (x.setCell ⟨o,i,none⟩ u) a V' g:=by
 have q:=h.lt;have m:=j.ge;refine⟨jd h.g (jb x o i u),by rw[<-hc];exact iW h.c,j.grown ok (jb x o i u) (λz e=>?_)⟩;injection e with e;subst e;exact⟨λn=>LA (l _ n),λp=>LA ((m _ p.symm).1)⟩
theorem G7.set{z w0 w}{o i:Nat}{u}(c:w.heap[o]?=some z){d:Type}{R:Rel d}{k:Nat}(ok:jI R k){v}{xs:List d}(h:jc R (G7 z w (Nw w0 w)) w v xs):jc R (λb=>Nw w0 w b/\b≠o) (w.setCell ⟨o,i,none⟩ u) v xs:=
 (h.iV ok λb a=>J8 _ _ _ _ (λe=>a.2 (by rw[e];exact c))).M ok λb a=>⟨a.1,λe=>a.2 (by rw[e];exact c)⟩
theorem Eu:(prog.info? 429).map (λi=>(i.zero,i.size,i.bytes))=some (some (.agg #[.int .u8 0,.int .i64 0,.int .i64 0,.int .i64 0]),4,32):=LF
theorem kn.old{a}{cb:Nat}{c d f g hd own i j k params V}{l:List In}{w}(h:kn a cb c d f g hd own i j k params V l w){b:Nat}(m:b<a)(hc:b≠cb):w.heap[b]?=a.heap[b]?:=h.g.B b m (by intro e;injection e with e;exact hc e)
def qD(b:World)(cb:Nat)(c d f g hd own i j k params:Value)(V:Value)(w:World)(l:Value)(Q:List In->Prop)(e:Ending)(w':World):Prop:=e=.returned l/\∃V' a,kn b cb c d f g hd own i j k params V' a w'/\kQ cb V w V' w'/\Q a
theorem KG.set{a}{o:Nat}{C b c x}(h:KG a o C c x)(i:Nat)(u)(hc:C.setIfInBounds i u=b):KG a o b c (x.setCell ⟨o,i,none⟩ u):=
 ⟨jd h.g (jb x o i u),by rw[<-hc];exact iW h.c,h.lt⟩
theorem KG.blk{a}{o:Nat}{C c x}(h:KG a o C c x){b:Nat}(d:b<a)(hn:b≠o):x.heap[b]?=a.heap[b]?:=h.g.B b d (λe=>hn (by injection e))
def Gt(o:Nat)(w:World):Nat->Prop:=λb=>o<b/\b<w
theorem lv{P}(w:World)(t e)(n:Nat)(a:Array Value)(k:Nat)(v:Value)(h:P.underlying t=some (.array n e))(b:k<n)
  (c:(isAgg e).run P w=.ok false w) (d:a[k]?=some v) (hs:(sizeOf e).run P w=.ok 1 w):
  (Instr.index t (.agg a) (.int .i64 k)).run P w=.ok v w:=by
 simp[Instr.index,run_underlying h,asIntOf,b,hs,c,d,go_sem]
theorem qI(w)(k:Nat)(a:k<39):(Instr.index 439 (.agg lS) (.int .i64 k)).run prog w=.ok (tx (jg.words.getD k [])) w:=
 lv w _ 9 39 _ k _ LF a LF
  (by have b:k<jg.words.length:=a;simp[lS,tx,b]) LF
theorem mG(n:Int)(w):Calls prog 266 #[.int .u8 n] w λe w'=>e=.returned (.bool (jg.kt n))/\w=w':=by
 by_cases a:48<=n<;>by_cases b:n<=57;all_goals
  first
  |omega
  |(go_enter func266,ntmps266;go_wp2;go_ret;exact⟨by simp[jg.kt,a,b],rfl⟩)
theorem jV.low{w}(h:jV w):9<w.heap.size/\14<w.heap.size/\10<w.heap.size:=⟨h.names.lt,h.lt.1,h.lt.2⟩
theorem jV.to{w w'}(h:jV w)(a:Below w w w'):jV w':=h.iU a h.low
theorem sI:shapes.length=24:=LD
theorem qJ:forms.length=11:=LD
theorem nd{w}(h:jV w)(k:Nat)(x)(hx:shapes[k]?=some x):∀a u,(nM x)[a]?=some u->w.cell? ⟨14,k*4+a,none⟩=some u:=by obtain⟨_,⟨t,b,h⟩,_⟩:=h;intro a u hu;obtain⟨r,hr,hc⟩:=jD.jr (k:=4) (R:=λr x=>r=nM x) (λr x h=>by rw[h];rfl) k x (jD.map nM shapes) hx;have:=hc a u (by rw[hr];exact hu);simp only[World.cell?,h];simpa[rI]using this
theorem pc(k:Nat)(x)(hx:shapes[k]?=some x)(b:1<=k)(w)(hL:jV w):Calls prog 293 #[.int .u8 (k:Int)] w (jf (.tuple #[.agg #[.int .i64 (x.1:Int),.bool x.2.1,.int .i64 (x.2.2.1:Int),tx x.2.2.2],.bool true]) w):=by
 have c:k<24:=by have:=(J6.1 hx).1;rw[sI]at this;exact this
 have a:=nd hL k x hx 0 _ rfl;have d:=nd hL k x hx 1 _ rfl;have e:=nd hL k x hx 2 _ rfl;have f:=nd hL k x hx 3 _ rfl;have g:=hL.lt.1;rw[JT]at a
 go_enter func293,ntmps293
 go_wp2;refine JZ (v:=.tuple #[.agg #[.int .i64 (x.1:Int),.bool x.2.1,.int .i64 (x.2.2.1:Int),tx x.2.2.2],.bool true]) ?_ rfl ⟨rfl,Ba _ _⟩;simp[results,Tryz.results293,go_sem]
theorem letters:jg.jS (120:UInt8).toNat=true/\jg.jS (112:UInt8).toNat=true/\jg.jS (116:UInt8).toNat=true/\jg.jS (98:UInt8).toNat=true/\jg.jS (102:UInt8).toNat=true/\jg.jS (104:UInt8).toNat=true:=LM
theorem jN{d:Nat}{e}{k:Nat}{x}(b:e.op=(k:Int))(m:1<=k)(hx:shapes[k]?=some x)(c:e.args.length=x.1)(f:x.2.1=true->lf e.name=true)(g:x.2.1=false->e.name=[])(i:k=1->0<=e.n)(j:k≠1->e.n=0)(l:∀a∈e.args,kB d a):kB (d+1) e:=
 ⟨⟨x,LC,by rw[b];simpa using hx,c,f,g,λh=>i LC,λh=>j LC⟩,l⟩
theorem kF{B:Nat}{a w}(h:Below B a w)(n:Nat):Below B a (w.drewN n):=⟨h.os,h.tape,h.output,h.size,h.B⟩
def yv(g:FuncId)(d:Nat):Prop:=∀(a:Nat->Prop) (w:World) (b o:Nat) (e:Ex) (r:List Value),jV w->At w b o r->ki .u8 d a w r e->kB d e->b<w->(∀q,a q->q<w)->Calls prog 292 #[.pointer (some ⟨b,o,none⟩),.func (.func g) #[] #[]] w (jf (.bool true) w)
theorem yL:∀x∈shapes,x.1<=2:=LD
theorem kB.two{d:Nat}{e}(h:kB d e):e.args.length<=2:=by
 cases d with
 |zero=>exact h.elim
 |succ d=>obtain⟨⟨x,_,hx,a,_⟩,_⟩:=h;rw[a];exact yL x (JM hx)
theorem sJ:∀x∈forms,x.2.2.2.1<=5:=LD
def FL(d:Nat):Prop:=∀(a:Nat->Prop) (w:World) (b:Option Addr) (n c:Nat) (l:List St),jc (jH .u8 d) a w (.slice b n c) l->l.length<=12->(∀s∈l,lK d s)->jw d l<=40->d<=6->(∀q,a q->q<w)->
 Calls prog 271 #[.slice b n c] w (λe w'=>∃r:Nat,e=.returned (.int .i64 (r:Int))/\r<=jw d l/\Below w w w')
def Ag(g:FuncId):Prop:=∀(a:Nat->Prop) (w:World) (b:Option Addr) (c c1:Nat) (d:Option Addr) (e c2:Nat) (h:Hd),jV w->jc jk a w (.slice b c c1) h.params->jc (jH .u8 Ds) a w (.slice d e c2) h.body->qZ h->(∀q,a q->q<w)->Calls prog g #[.agg #[tx h.name,.slice b c c1,.slice d e c2]] w (jf (.bool true) w)
theorem kC{b d w}{cb:Nat}{f g i j hd own k l m params V}{p:List In}(h:kn d cb f g i j hd own k l m params V p w)(hf:∀q,b q->q<d.heap.size/\q≠cb){v}(t:ll b d v)(s:List UInt8):
  Calls prog 134 #[v,tx s] w λe w'=>∃r:Int,e=.returned (.int .i64 r)/\w=w':=by
 obtain⟨u,n,c,xs,rfl,hs,hn⟩:=t;refine(qK b w u n c xs s (hs.iV jk.ok λq a=>h.old (hf q a).1 (hf q a).2) hn λq a=>JI (hf q a).1 h.g.size).M ?_;rintro e w' ⟨r,he,_,hw⟩;exact⟨r,he,hw⟩
theorem kn.form{d}{cb:Nat}{e f g i hd own j k l params V}{b:List In}{w}(h:kn d cb e f g i hd own j k l params V b w):∃a c,V=.slice a b.length c:=by obtain⟨a,c,m,_⟩:=h.own.form;exact⟨a,c,m⟩
theorem ot.Jw{a b:List In}{n:Nat}(h:ot a n b):kE a n b:=by obtain⟨l,c,d,e⟩:=h;exact⟨l,c,d,λx hx=>(e x hx).ok _⟩
def Jf:Value:=.agg #[Em,Nl,Nl]
def uz{a:Type}(At:a->Value->Prop)(z:Value)(o:Option a)(w:World)(e:Ending)(w':World):Prop:=(∀c,o=some c->∃v,e=.returned (.tuple #[v,.bool true])/\At c v)/\(o=none->e=.returned (.tuple #[z,.bool false]))/\Below w w w'
theorem nB(d w A)(n c:Nat)(xs)(name:List UInt8)(C:jc (kL .u8) d w (.slice A n c) xs)(ae:n<=1000)(hS:∀q,d q->q<w):
  Calls prog 232 #[.slice A n c,tx name] w (uz (ry d w) Jf (xs.find? λx=>x.name==name) w):=by
 have m:=C.len;have hc:=m.2;have af:=kP name;have N:Below w w (w.alloc (.cells #[Em,Nl,Nl] 176)):=Ba _ _;have D:=JK w (.cells #[Em,Nl,Nl] 176);have O:(w.alloc (.cells #[Em,Nl,Nl] 176)).heap.size=w+1:=LG
 have E:=JH m.1;have P:=C;have Q:=hS;have F:=JH D;clear hS m D
 go_enter func232,ntmps232
 go_wp2_with fail;obtain⟨z,hz⟩:=Xq w.heap.size;rw[<-hz]at F O⊢;have b:w<=z:=LC
 generalize w.alloc (.cells #[Em,Nl,Nl] 176)=B at*;have R:z<B:=LC
 clear hz;go_loopw [10] (λi wr=>∃k:Nat,k<=n/\i=k/\(xs.take k).find? (λx=>x.name==name)=none/\Below B B wr) (λi _=>n-(intOf i).toNat);case atStart=>exact⟨0,JV _,rfl,LG,Below.refl _ _⟩
 case round=>
  obtain⟨k,ag,rfl,G,e⟩:=hrel;have I:=JH G;have ah:=e.size;obtain⟨⟨p,s,t⟩,⟨S,T,U⟩⟩:=jz ((e.B z R).T F.o);have V:z<wr:=LC;have u:=(N.T (e.M LC))
  clear G;by_cases ai:k<n
  .obtain⟨x,hx⟩:∃x,xs[k]?=some x:=Gx (LA E.o);obtain⟨f,W,r,rfl,X,⟨v1,v2,rfl,J,K⟩,L⟩:=P.jr (kL.ok .u8) k x hx;obtain⟨g,cv,rfl,_⟩:=J.form;obtain⟨j,l,rfl,_⟩:=K.form;have Y:f<w:=Q f X;have Z:At w f (W+k*3) [tx x.name,.slice g x.vars.length cv,.slice j x.jG.length l]:=L;have y:=Z.iU u Y;have aa:=y 0 _ rfl;have aj:=y 1 _ rfl;have ak:=y 2 _ rfl;rw[JT]at aa;have al:f<wr:=LC;have am:(0:Int)<=(k:Int):=LC;have an:(k:Int)<(n:Int):=LC;have ao:=kP x.name;have M:=(qL I.o hx)
   have ab:ry d w x (.agg #[tx x.name,.slice g x.vars.length cv,.slice j x.jG.length l]):=⟨_,_,_,_,_,_,rfl,J,K⟩
   have ac:=(e.alloc LC (.cells #[tx x.name,.slice g x.vars.length cv,.slice j x.jG.length l] 176))
   clear L hx;cases hq:(x.name==name)
   .have hf:=M.2 hq;clear p s t S T U;go_wp2_with fail;go_roundw;case rel=>exact⟨k+1,LC,LI,hf,ac⟩
    case measure=>simp[intOf];omega
   have hf:=M.1 hq;go_wp2_with fail;refine JZ (v:=.tuple #[.agg #[tx x.name,.slice g x.vars.length cv,.slice j x.jG.length l],.bool true]) ?_ rfl ⟨λad a=>⟨_,rfl,by rw[hf]at a;injection a with a;rw[<-a];exact ab⟩,λhn=>(by rw[hf]at hn;cases hn),(ja (ja (ja u b) b) b).alloc LV _⟩;simp[results,Tryz.results232,go_sem,p,s,t,V,World.cell?_alloc_lt]
  obtain rfl:n=k:=LC;have hf:=I.o;rw[Kj (LA E.o)]at hf;go_wp2_with fail;refine JZ (v:=.tuple #[.agg #[Em,Nl,Nl],.bool false]) ?_ rfl ⟨λad a=>by rw[hf]at a;(cases a),λ_=>rfl,ja (ja (ja u b) b) b⟩;simp[results,Tryz.results232,go_sem,p,s,t]
def Hi(a:Nat->Prop)(w:World)(h:Hd)(v:Value):Prop:=∃(b:Option Addr) (c d:Nat) (e:Option Addr) (f cb:Nat),v=.agg #[tx h.name,.slice b c d,.slice e f cb]/\jc jk a w (.slice b c d) h.params/\jc (jH .u8 Ds) a w (.slice e f cb) h.body
theorem nh(u w S)(n c:Nat)(xs)(name:List UInt8)(T:jc (ly .u8) u w (.slice S n c) xs)(aB:n<=1000)(U:∀l∈xs,l.length<=1000)(hS:∀q,u q->q<w):
  Calls prog 236 #[.slice S n c,tx name] w (uz (Hi u w) Jf (xs.flatten.find? λx=>x.name==name) w):=by
 have J:=T.len;have hc:=J.2;have aC:=kP name;have K:Below w w (w.alloc (.cells #[Em,Nl,Nl] 189)):=Ba _ _;have V:=JK w (.cells #[Em,Nl,Nl] 189);have aj:(w.alloc (.cells #[Em,Nl,Nl] 189)).heap.size=w+1:=LG
 have W:=JH J.1;have ak:=T;have X:=hS;have L:=JH V;have al:=U;clear hS J V U
 go_enter func236,ntmps236
 go_wp2_with fail;obtain⟨z,hz⟩:=Xq w.heap.size;rw[<-hz]at L aj⊢;have f:w<=z:=LC
 generalize w.alloc (.cells #[Em,Nl,Nl] 189)=B at*;have Y:z<B:=LC
 clear hz;go_loopw [12] (λi wr=>∃k:Nat,k<=n/\i=k/\(xs.take k).flatten.find? (λx=>x.name==name)=none/\Below B B wr) (λi _=>n-(intOf i).toNat);case atStart=>exact⟨0,JV _,rfl,LG,Below.refl _ _⟩
 case round=>
  obtain⟨k,aD,rfl,Z,a⟩:=hrel;have M:=JH Z;have aE:=a.size;clear Z;by_cases aF:k<n
  .obtain⟨hs,hx⟩:∃x,xs[k]?=some x:=Gx (LA W.o);obtain⟨y,am,r,rfl,an,⟨v1,rfl,g⟩,j⟩:=ak.jr (ly.ok .u8) k hs hx;obtain⟨aa,ab,rfl,ao⟩:=g.form;have ap:y<w:=X y an;have N:At w y (am+k*1) [.slice aa hs.length ab]:=j;have A:=N.iU (K.T (a.M LC)) ap 0 _ rfl;rw[JT,Kk]at A;have aG:y<wr:=LC;have aH:(0:Int)<=(k:Int):=LC;have aI:(k:Int)<(n:Int):=LC;obtain⟨d,C⟩:=Xq hs.length;have aJ:d<=1000:=(by rw[C];exact al hs (JM hx));rw[<-C]at g A ao;have ac:=JH C.symm;have ad:=JH hx;have aq:=(a.alloc LC (.cells #[.slice aa d ab] 182))
   clear j hx C;go_wp2_with fail;go_loopw [19] (λi wr=>∃b:Nat,b<=d/\i=b/\(hs.take b).find? (λx=>x.name==name)=none/\Below B B wr) (λi _=>d-(intOf i).toNat);case atStart=>exact⟨0,JV _,rfl,LG,aq⟩
   case round=>
    obtain⟨b,aK,rfl,ae,a⟩:=hrel;have af:=JH ae;have a:=a;have aL:=a.size;obtain⟨⟨m,p,s⟩,⟨O,P,Q⟩⟩:=jz ((a.B z Y).T L.o);have ag:z<wr:=LC;have D:=(K.T (a.M LC))
    clear ae;by_cases aM:b<d
    .obtain⟨x,hx⟩:∃x,hs[b]?=some x:=Gx (LA ac.o);obtain⟨E,ar,r,rfl,au,⟨v1,v2,rfl,g,ah⟩,j⟩:=g.jr (kZ.ok .u8) b x hx;obtain⟨F,G,rfl,_⟩:=g.form;obtain⟨I,cb,rfl,_⟩:=ah.form;have av:E<w:=X E au;have N:At w E (ar+b*3) [tx x.name,.slice F x.params.length G,.slice I x.body.length cb]:=j;have R:=N.iU D av;have A:=R 0 _ rfl;have aN:=R 1 _ rfl;have aO:=R 2 _ rfl;rw[JT]at A;have aP:E<wr:=LC;have aQ:(0:Int)<=(b:Int):=LC;have aR:(b:Int)<(d:Int):=LC;have aS:=kP x.name;have ai:=(qL af.o hx)
     have aw:Hi u w x (.agg #[tx x.name,.slice F x.params.length G,.slice I x.body.length cb]):=⟨_,_,_,_,_,_,rfl,g,ah⟩
     have ax:=(a.alloc LC (.cells #[tx x.name,.slice F x.params.length G,.slice I x.body.length cb] 189))
     clear j hx;cases hq:(x.name==name)
     .have hf:=ai.2 hq;clear m p s O P Q;go_wp2_with fail;go_roundw;case rel=>exact⟨b+1,LC,LI,hf,ax⟩
      case measure=>simp[intOf];omega
     have hf:xs.flatten.find? (λx=>x.name==name)=some x:=by
      have ay:xs=xs.take k++(hs::xs.drop (k+1)):=by
       have t:=(J6.1 ad.o)
       obtain⟨t,az⟩:=t;rw[<-az,List.getElem_cons_drop,K6]
      rw[ay,List.flatten_append,KP,List.find?_append,M.o,List.find?_append,ai.1 hq];rfl
     go_wp2_with fail;refine JZ (v:=.tuple #[.agg #[tx x.name,.slice F x.params.length G,.slice I x.body.length cb],.bool true]) ?_ rfl ⟨λaA e=>⟨_,rfl,by rw[hf]at e;injection e with e;rw[<-e];exact aw⟩,λhn=>(by rw[hf]at hn;cases hn),(ja (ja (ja D f) f) f).alloc LV _⟩;simp[results,Tryz.results236,go_sem,m,p,s,ag,World.cell?_alloc_lt]
    obtain rfl:d=b:=LC;have hf:(xs.take (k+1)).flatten.find? (λx=>x.name==name)=none:=by have t:=af.o;rw[Kj (LA ac.o)]at t;rw[KL,ad.o,List.flatten_append,List.find?_append,M.o];simpa using t
    clear m p s O P Q;go_wp2_with fail;go_roundw;case rel=>exact⟨k+1,LC,LI,hf,a⟩
    case measure=>simp[intOf];omega
  obtain rfl:n=k:=LC;have hf:=M.o;rw[Kj (LA W.o)]at hf;obtain⟨⟨m,p,s⟩,⟨O,P,Q⟩⟩:=jz ((a.B z Y).T L.o);have D:=(K.T (a.M LC))
  have ag:z<wr:=LC;go_wp2_with fail;refine JZ (v:=.tuple #[.agg #[Em,Nl,Nl],.bool false]) ?_ rfl ⟨λaA e=>by rw[hf]at e;(cases e),λ_=>rfl,ja (ja (ja D f) f) f⟩;simp[results,Tryz.results236,go_sem,m,p,s]
theorem Hz{b k:Nat}{a}(h:qc b a)(c:k<b):lN a (nm 102 k)=true:=by obtain⟨x,hx⟩:∃x,a[k]?=some x:=Gx (by rw[h.1];exact c);exact pj.2 ⟨x,JM hx,h.2 k x hx⟩
theorem F5{b k:Nat}{a c}(hc:c≠102)(h:qc b a):lN a (nm c k)=false:=by cases hq:lN a (nm c k);rfl;obtain⟨x,hx,e⟩:=pj.1 hq;obtain⟨d,f⟩:=List.getElem?_of_mem hx;have:=(h.2 d x f).symm.T e;injection this with this _;exact absurd this.symm hc
structure Bd(bb cb:Nat)(AF:Option Addr)(nf cf:Nat)(AV:Option Addr)(nv cv:Nat)(AP:Option Addr)(np cp:Nat)(o0 o1 o2:Value)(pl:ByteArray)(cnt:Nat)(w:World):Prop where
 jr:w.heap[bb]?=some (.cells #[.pointer (some ⟨cb,0,none⟩),.slice AF nf cf,.slice AV nv cv,.slice AP np cp,o0,o1,o2,.string pl,cnt] 424 (0,0))
theorem kO{w:World}{q:Nat}{T:TypeId}(h:∃a c1 c2:Value,w.heap[q]?=some (.cells #[a,c1,c2] T (0,0)))(o i:Nat)(u:Value)(hi:i<3):∃a c1 c2:Value,(w.setCell ⟨o,i,none⟩ u).heap[q]?=some (.cells #[a,c1,c2] T (0,0)):=by
 obtain⟨a,c1,c2,h⟩:=h;by_cases e:q=o;subst e;have b:=iW (i:=i) (u:=u) h;have c:i=0\/i=1\/i=2:=LC
 rcases c with rfl|rfl|rfl;exact⟨_,_,_,b⟩;exact⟨_,_,_,b⟩;exact⟨_,_,_,b⟩;exact⟨a,c1,c2,(J8 _ _ _ _ e).T h⟩
def Bb(a cb:Nat):Nat->Prop:=λq=>q=a\/q=cb
theorem six(i:Nat)(hi:i<100):(Lib.decDigits i).length<=20:=by by_cases h:i<10;rw[Lib.decDigits_one h];simp;rw[Lib.decDigits_two h hi];simp
theorem Bv:kv 300:=λ_ _=>LF
def mB:Rel (List (List UInt8)):=λa w r l=>∃v,r=[v]/\jc jk a w v l
theorem tD:kv 283:=λ_ _=>LF
def tQ(k:Nat):Rel Unit:=λ_ _ r _=>r.length=k/\∀u∈r,u.oneCell'=true
def qh(a b:Value):Prop:=∀z,a.ownBlock=some z->b.ownBlock≠some z
def py(a x:World)(V:Value)(n:Nat):Prop:=∃xs,jx jk 9 1 (λ_=>False) x a V xs/\xs.length<=n
theorem yA{a b}(h:qh a b):∀z,a.ownBlock=some z->some z≠b.ownBlock:=λz hz e=>h z hz e.symm
theorem vF{a b}(h:qh a b):∀z,b.ownBlock=some z->some z≠a.ownBlock:=λz hz e=>h z e.symm hz
theorem CG:(252:TypeId)≠5:=LD
theorem liesBuilder:liesAt prog prog.depth 252 (3/prog.cellsOf 252) 0 111 1=true:=LF
theorem pX:prog.underlying 109=some (.pointer 111):=LF
theorem vR:∀x∈shapes,x.2.2.2.length<=10:=LD
theorem BG:∀k x,forms[k]?=some x->((k=1\/k=3\/k=4\/k=5\/k=7\/k=9)->1<=x.2.2.1)/\((k=2\/k=8)->2<=x.2.2.1):=by
 intro k x h;have a:=(J6.1 h).1;rw[qJ]at a;have b:∀k:Fin 11,((k.val=1\/k.val=3\/k.val=4\/k.val=5\/k.val=7\/k.val=9)->((forms[k.val]?.map (·.2.2.1)).getD 0>=1))/\((k.val=2\/k.val=8)->((forms[k.val]?.map (·.2.2.1)).getD 0>=2)):=LD
 have:=b ⟨k,a⟩;simp only[h,Option.map_some,Li]at this;exact this
theorem BI:kv 242:=λ_ _=>LF
def lT(k:IntKind)(a:Array Value)(o n:Nat):Prop:=∀i,i<n->∃x:Int,a[o+i]?=some (.int k x)
end Go.Proofs.YtidmdcckbdmblaaGreatDoor
namespace jJ
theorem CL(c)(n k:Nat)(h:k<n):(wh c n)[k]?=some (nm c k):=by simp[wh,h]
theorem kG.up{sc}:∀{d d':Nat} {e:Ex},d<=d'->kG sc d e->kG sc d' e
 |0,_,_,_,h=>h.elim
 |d+1,0,_,hd,_=>by omega
 |d+1,d'+1,e,hd,h=>by
  have up:∀{x:Ex},kG sc d x->kG sc d' x:=λhx=>kG.up LC hx;rcases h with h|h|h|⟨c,f,g,k,a,i,j⟩|h|⟨c,f,g,a,i,j⟩|⟨c,f,g,a,b,i,j,l⟩
  exact .inl h;exact .inr (.inl h);exact .inr (.inr (.inl h));exact .inr (.inr (.inr (.inl ⟨c,f,g,k,a,i,up j⟩)));exact .inr (.inr (.inr (.inr (.inl h))));exact .inr (.inr (.inr (.inr (.inr (.inl ⟨c,f,g,a,i,up j⟩)))));exact .inr (.inr (.inr (.inr (.inr (.inr ⟨c,f,g,a,b,i,up j,up l⟩)))))
theorem mf.up{sc}:∀{d d':Nat} {e:Ex},d<=d'->mf sc d e->mf sc d' e
 |0,_,_,_,h=>h.elim
 |d+1,0,_,hd,_=>by omega
 |d+1,d'+1,e,hd,h=>by
  have up:∀{x:Ex},mf sc d x->mf sc d' x:=λhx=>mf.up LC hx;have k:∀{x:Ex},kG sc d x->kG sc d' x:=λhx=>kG.up LC hx;rcases h with h|h|⟨c,f,g,m,a,i,j⟩|⟨c,f,g,a,i,j⟩|⟨c,f,g,a,b,i,j,l⟩|⟨c,f,g,a,b,i,j,l⟩
  exact .inl h;exact .inr (.inl h);exact .inr (.inr (.inl ⟨c,f,g,m,a,i,k j⟩));exact .inr (.inr (.inr (.inl ⟨c,f,g,a,i,up j⟩)));exact .inr (.inr (.inr (.inr (.inl ⟨c,f,g,a,b,i,up j,up l⟩))));exact .inr (.inr (.inr (.inr (.inr ⟨c,f,g,a,b,i,k j,k l⟩))))
theorem lQ.up{n m a:Nat}{b}(h:lQ n m b)(hm:m<=a):lQ n a b:=⟨λx hx=>by obtain⟨k,c,h⟩:=h.1 x hx;exact⟨k,LC,h⟩,h.2⟩
theorem Aq{d:Nat}{l}{n:Nat}(h:jw (d+1) l<=n){x}(hx:x∈l):jw d x.th<=n/\jw d x.el<=n:=(nK h).2 x hx
def rv(x:In):List Go.Value:=[.int .u8 x.op,.int .i64 x.a,.int .i64 x.b,.int .i64 x.n]
theorem Ey(b:List In)(i:Nat)(x:In)(h:b[i]?=some x)(a:Nat)(u:Go.Value)(hu:(rv x)[a]?=some u):((b.map rv).flatten)[i*4+a]?=some u:=by
 induction b generalizing i with
 |nil=>simp at h
 |cons c ys d=>
  have e:a<4:=(List.getElem?_eq_some_iff.1 hu).1;cases i with
  |zero=>simp only[List.getElem?_cons_zero,Option.some.injEq]at h;subst h;rw[List.map_cons,List.flatten_cons,List.getElem?_append_left (by show 0*4+a<4;omega)];simpa using hu
  |succ i=>rw[List.map_cons,List.flatten_cons,List.getElem?_append_right (by show 4<=_;omega),show(i+1)*4+a-(rv c).length=i*4+a by show(i+1)*4+a-4=_;omega];exact d i (by simpa using h)
theorem kE.one{a b:List In}{x:In}(h:b=a++[x])(hx:mz (a.length+1) x):kE a 1 b:=⟨[x],h,LG,λc hy=>by simp at hy;subst hy;exact hx⟩
theorem CM{i t k:Nat}(hi:i<=3)(d:t<=1)(e:k<i):((lB i t).find? λx=>x.name==nm 120 k)=some ⟨nm 120 k,1,k⟩:=by
 have a:i=1\/i=2\/i=3:=LC
 have b:t=0\/t=1:=LC
 have c:k=0\/k=1\/k=2:=LC
 rcases a with rfl|rfl|rfl<;>rcases b with rfl|rfl<;>rcases c with rfl|rfl|rfl<;>first|omega|rfl
theorem CN{i t:Nat}(c:1<=i)(hi:i<=3)(d:t<=1):((lB i t).find? λx=>x.name==nm 98 0)=some ⟨nm 98 0,2,0⟩:=by
 have a:i=1\/i=2\/i=3:=LC
 have b:t=0\/t=1:=LC
 rcases a with rfl|rfl|rfl<;>rcases b with rfl|rfl<;>rfl
theorem F3{i t:Nat}(c:1<=i)(hi:i<=3)(a:t=1):((lB i t).find? λx=>x.name==nm 116 0)=some ⟨nm 116 0,3,0⟩:=by
 have b:i=1\/i=2\/i=3:=LC
 rcases b with rfl|rfl|rfl<;>subst a<;>rfl
theorem Av{i t k:Nat}{c}(hc:c=102\/c=112):((lB i t).find? λx=>x.name==nm c k)=none:=by
 rw[List.find?_eq_none];intro x hx;have b:∃a k',x.name=nm a k'/\a≠102/\a≠112:=by
  simp only[lB,List.mem_append,List.mem_map,List.mem_singleton]at hx;rcases hx with(⟨q,_,rfl⟩|rfl)|⟨q,_,rfl⟩
  exact⟨120,q,rfl,LD,LD⟩;exact⟨98,0,rfl,LD,LD⟩;exact⟨116,q,rfl,LD,LD⟩
 obtain⟨a,k',e,d,f⟩:=b;rw[e];simp only[beq_iff_eq];intro h;injection h with h _;rcases hc with hc|hc;exact d (h.T hc);exact f (h.T hc)
theorem Hy{n k:Nat}(h:k<n):nm 112 k∈wh 112 n:=by simp[wh];exact⟨k,h,rfl⟩
theorem vO{n k:Nat}(hn:n<=100)(h:k<n):nm 112 k∉(wh 112 n).take k:=by
 intro hm;obtain⟨c,a⟩:=List.getElem?_of_mem hm;rw[List.getElem?_take]at a;split at a;case isTrue d=>have b:=(List.getElem?_eq_some_iff.1 a).1;rw[oY]at b;rw[CL _ _ _ b]at a;unfold nm at a;injection a with a;injection a with _ a;injection a with a _;have:=congrArg UInt8.toNat a;simp at this;omega
 case isFalse=>simp at a
theorem nQ{n k:Nat}{c}(hc:c≠112):nm c k∉wh 112 n:=by simp only[wh,List.mem_map,not_exists,not_and];intro q _ h;injection h with h _;exact hc h.symm
def En(d:Nat)(s:St):Nat:=1+jw d s.th+jw d s.el
theorem sf{d k:Nat}{l:List St}{s:St}(h:l[k]?=some s):jw (d+1) (l.take (k+1))=jw (d+1) (l.take k)+En d s:=by rw[List.take_add_one,h];simp[jw,En]
theorem wV{d:Nat}:∀l k,jw d (l.take k)<=jw d l
 |l,k=>by
  cases d with
  |zero=>simp[jw]
  |succ d=>have e:=congrArg (jw (d+1)) (List.take_append_drop k l);have:∀a b:List St,jw (d+1) (a++b)=jw (d+1) a+jw (d+1) b:=(by intro a b;simp[jw]);rw[this]at e;omega
theorem HA{n m k:Nat}{b}(h:lQ n m b){x}(hx:b[k]?=some x):∀c∈b.take k,(c.a,c.b)≠(x.a,x.b):=by
 intro c hy e;obtain⟨f,a⟩:=List.getElem?_of_mem hy;rw[List.getElem?_take]at a;split at a;case isFalse=>simp at a
 case isTrue g=>have i:=(List.getElem?_eq_some_iff.1 hx).1;have j:=h.2;have d:=List.pairwise_iff_getElem.1 j f k (by rw[List.length_map];omega) (by rw[List.length_map];exact i) g;obtain⟨l,a⟩:=List.getElem?_eq_some_iff.1 a;obtain⟨_,hx⟩:=List.getElem?_eq_some_iff.1 hx;rw[List.getElem_map,List.getElem_map,a,hx]at d;exact d e
theorem CQ{c}{a b:Nat}(d:a<90)(e:b<90)(h:nm c a=nm c b):a=b:=by unfold nm at h;injection h with _ h;injection h with h _;have:=congrArg UInt8.toNat h;simp at this;omega
theorem kE.le{a b:List In}{n m:Nat}(h:kE a n b)(hm:n<=m):kE a m b:=by obtain⟨l,c,e,d⟩:=h;exact⟨l,c,LC,d⟩
def mA(l:List Int):Array Go.Value:=(l.map λx=>Go.Value.int .i64 x).toArray
theorem Df{l}{i:Nat}{x:Int}(h:l[i]?=some x):(mA l)[i]?=some (.int .i64 x):=by simp[mA,h]
def nu(l:List (List UInt8))(x:List UInt8):List (List UInt8):=if x∈l then l else l++[x]
theorem Di(l x):(nu l x).length<=l.length+1:=by unfold nu;split<;>simp
theorem sq(l x):x∈nu l x:=by unfold nu;split;assumption;simp
theorem Dj{l x a}(h:a∈l):a∈nu l x:=by unfold nu;split;exact h;exact List.mem_append_left _ h
end jJ
namespace jg
def lg(n:Int):Bool:=(n==32)||(n==9)||(n==10)||(n==13)
def lR(n:Int):Bool:=(n !=10)
theorem rV(p l):pre p l<=l.length:=by unfold pre;exact(List.takeWhile_sublist _).length_le
theorem pre_nil(p):pre p []=0:=rfl
theorem kR(p c l):pre p (c::l)=if p c.toNat then pre p l+1 else 0:=by unfold pre;rw[List.takeWhile_cons];split<;>simp
theorem wN(p):∀l k (h:k<l.length),k<=pre p l->p (l[k]).toNat=true->k+1<=pre p l
 |[],_,h,_,_=>absurd h (by simp)
 |c::l,0,_,_,hp=>by rw[kR,if_pos (by simpa using hp)];omega
 |c::l,k+1,h,hk,hp=>by
  rw[kR]at hk⊢;split at hk
  rename_i hc
  rw[if_pos hc];have:=wN p l k (by simpa using h) LC (by simpa using hp);omega;omega
theorem wO(p):∀l k (h:k<l.length),k<=pre p l->p (l[k]).toNat=false->pre p l=k
 |[],_,h,_,_=>absurd h LG
 |c::l,0,_,_,hp=>by rw[kR,if_neg (by simpa using hp)]
 |c::l,k+1,h,hk,hp=>by
  rw[kR]at hk⊢;split at hk
  rename_i hc
  rw[if_pos hc,wO p l k (by simpa using h) LC (by simpa using hp)];omega
theorem uq(p:Int->Bool)(s:ByteArray)(k:Nat)(h:k<s.size)(a:k<=pre p s.data.toList)(hp:p (s[k]).toNat=true):k+1<=pre p s.data.toList:=
 wN p _ k (by simpa using h) a (by simpa[ByteArray.getElem_eq_getElem_data]using hp)
theorem ur(p:Int->Bool)(s:ByteArray)(k:Nat)(h:k<s.size)(a:k<=pre p s.data.toList)(hp:p (s[k]).toNat=false):pre p s.data.toList=k:=
 wO p _ k (by simpa using h) a (by simpa[ByteArray.getElem_eq_getElem_data]using hp)
theorem wP(p:Int->Bool)(s:ByteArray)(k:Nat)(h:¬k<s.size)(a:k<=pre p s.data.toList):pre p s.data.toList=k:=by have:=rV p s.data.toList;simp at this;omega
theorem Ao(l)(k:Nat)(a:k<39)(h:(words[k]?.getD []==l)=true):px l=true:=by have b:k<words.length:=a;rw[List.getElem?_eq_getElem b,Option.getD_some]at h;have:=eq_of_beq h;unfold px;rw[List.contains_iff_mem,<-this];exact List.getElem_mem _
theorem wQ(l)(h:∀a,a<39->(words[a]?.getD []==l)=false):px l=false:=by unfold px;rw[Bool.eq_false_iff];intro hc;rw[List.contains_iff_mem]at hc;obtain⟨a,b,e⟩:=List.getElem_of_mem hc;have:=h a b;rw[List.getElem?_eq_getElem b,Option.getD_some,e]at this;simp at this
def pfx(l p:List UInt8):Bool:=p.isPrefixOf l
def km:Bool->List UInt8->Nat
 |_,[]=>0
 |false,c::t=>if lg c.toNat then km false t+1 else if pfx (c::t) [47,47]then km true t+1 else 0
 |true,c::t=>if c==10 then km false t+1 else km true t+1
theorem oI:∀b l,km b l<=l.length
 |true,[]=>by simp[km]
 |false,[]=>by simp[km]
 |false,c::t=>by have a:=oI false t;have d:=oI true t;simp only[km,List.length_cons];split;omega;split<;>omega
 |true,c::t=>by have a:=oI false t;have d:=oI true t;simp only[km,List.length_cons];split<;>omega
theorem sH:∀l,km false l=pre lg l+km false (l.drop (pre lg l))
 |[]=>by simp[pre_nil,km]
 |c::t=>by
  rw[kR];split
  rename_i h
  have:=sH t;rw[List.drop_succ_cons,km,if_pos h];omega;simp
theorem uu:∀l,km true l=pre lR l+km false (l.drop (pre lR l))
 |[]=>by simp[pre_nil,km]
 |c::t=>by
  rw[kR];split
  rename_i h
  have:=uu t;have hc:(c==10)=false:=by rw[beq_eq_false_iff_ne];rintro rfl;simp[lR]at h
  rw[List.drop_succ_cons,km,hc];simp only[Bool.false_eq_true,if_false];omega
  rename_i h
  have hc:c=10:=by have a:(c.toNat:Int)=10:=(by simpa[lR]using h);apply UInt8.toNat.inj;exact Int.ofNat.inj a
  subst hc;simp[km,lg]
theorem Ap(l)(h:pfx l [47,47]=true):∃t,l=47::47::t:=by
 unfold pfx at h
 match l,h with
 |[],h=>simp at h
 |[c],h=>simp[List.isPrefixOf]at h
 |c::d::t,h=>simp[List.isPrefixOf]at h;exact⟨t,by rw[<-h.1,<-h.2]⟩
theorem vL(l)(h:pfx l [47,47]=true):km false l=pre lR l+km false (l.drop (pre lR l)):=by obtain⟨t,rfl⟩:=Ap l h;rw[<-uu];simp[km,lg,h]
theorem yJ(l)(h:pfx l [47,47]=true):2<=pre lR l:=by obtain⟨t,rfl⟩:=Ap l h;rw[kR,if_pos LD,kR,if_pos LD];omega
theorem skip_none(l:List UInt8)(h:pfx (l.drop (pre lg l)) [47,47]=false):km false (l.drop (pre lg l))=0:=by
 have hd:∀(l:List UInt8) c t,l.drop (pre lg l)=c::t->lg c.toNat=false:=by
  intro l;induction l with
  |nil=>intro c t h;simp[pre_nil]at h
  |cons a l b=>
   intro c t h;rw[kR]at h;split at h;exact b c t (by simpa using h)
   rename_i hn
   simp at h;rw[<-h.1];simpa using hn
 match hl:l.drop (pre lg l)with
 |[]=>simp[km]
 |c::t=>rw[hl]at h;rw[km,if_neg (by rw[hd l c t hl];simp),if_neg (by rw[h];simp)]
theorem rh(p:Int->Bool)(s:ByteArray)(k:Nat)(h:k<=s.size):k+pre p (s.data.toList.drop k)<=s.size:=by have:=rV p (s.data.toList.drop k);simp only[List.length_drop,Array.length_toList,ByteArray.size_data]at this;omega
theorem yK(l)(k a:Nat)(h:k+km false (l.drop k)=km false l)(b:pre lg (l.drop k)=a):
  k+a+km false (l.drop (k+a))=km false l:=by
 rw[sH,b,List.drop_drop]at h;omega
theorem xu(l)(k a:Nat)(h:k+km false (l.drop k)=km false l)(hp:pfx (l.drop k) [47,47]=true)(b:pre lR (l.drop k)=a):
  k+a+km false (l.drop (k+a))=km false l/\2<=a:=by
 have c:=yJ _ hp;rw[vL _ hp,b,List.drop_drop]at h;omega
theorem C7(l)(k a:Nat)(h:k+a+km false (l.drop (k+a))=km false l)(b:pre lg (l.drop k)=a)(hp:pfx (l.drop (k+a)) [47,47]=false):
  km false l=k+a:=by
 have:=skip_none (l.drop k);rw[b,List.drop_drop]at this;rw[this hp]at h;omega
end jg
namespace Go.Proofs.YtidmdcckbdmblaaGreatDoor
open Go.RowKit jJ Go.Proofs.Tryz
theorem lI(f:FuncId)(p)(g:∀a w,Sem.run prog (callFunc f a) w=.ok (.enter f a) w)(hp:∀n w,Calls prog f #[.int .u8 n] w λe w'=>e=.returned (.bool (p n))/\w=w')(s w)(hs:s.size<=maxLen):
  Calls prog 259 #[.string s,.func (.func f) #[] #[]] w λe w'=>e=.returned (.int .i64 (jg.pre p s.data.toList))/\w=w':=by
 unfold maxLen at hs;have H:=JH hp
 go_enter func259,ntmps259
 go_wp2
 go_loop [5] (λi=>∃k:Nat,k<=s.size/\i=k/\k<=jg.pre p s.data.toList) (λi=>s.size-(intOf i).toNat)
 case atStart=>exact⟨0,JV _,rfl,JV _⟩
 case round=>
  obtain⟨k,j,rfl,c⟩:=hrel;by_cases d:k<s.size
  .cases hq:p (s[k].toNat:Int)
   .have b:=JH (jg.ur p s k d c hq);go_wp2_with (refine(H.o _ _).M ?_;rintro e w' ⟨rfl,rfl⟩);go_ret;exact⟨by rw[b.o];rfl,rfl⟩
   have b:=JH (jg.uq p s k d c hq);go_wp2_with (refine(H.o _ _).M ?_;rintro e w' ⟨rfl,rfl⟩)
   go_round
   case rel=>exact⟨k+1,LC,LI,b.o⟩
   case measure=>simp[intOf];omega
  have b:=JH (jg.wP p s k d c);go_wp2;go_ret;exact⟨by rw[b.o];rfl,rfl⟩
theorem nY{c}(hc:jg.jS c.toNat=true){k:Nat}(f:k<10):lf (nm c k)=true:=by
 have b:jg.px (nm c k)=false:=by unfold jg.px;rw[Bool.eq_false_iff];intro h;rw[List.contains_iff_mem]at h;have a:∀x∈jg.words,x.length=2->(x[1]?.getD 0).toNat>=97:=LM;have d:=a _ h (by simp[nm]);simp[nm]at d;omega
 have e:(UInt8.ofNat (48+k)).toNat=48+k:=LJ
 have a:jg.pre jg.jU (nm c k)=2:=by unfold nm;rw[jg.kR,Kn (by unfold jg.jU;rw[hc];rfl),jg.kR,Kn (by unfold jg.jU jg.kt;rw[e];simp;omega),jg.pre_nil]
 unfold lf;rw[b,a];simp[nm,hc]
theorem Ar{w c}:∀{a:List (List Value)} {b:List In},jD (tN c w) a b->a=b.map rv
 |[],[],_=>rfl
 |r::rs,x::xs,⟨h1,h2⟩=>by rw[Ks,<-Ar h2];exact Km (·::rs) h1
 |[],_::_,h=>h.elim
 |_::_,[],h=>h.elim
theorem Au{w b}:∀(a:List In),jD (tN b w) (a.map rv) a
 |[]=>trivial
 |_::xs=>⟨rfl,Au xs⟩
theorem Ej.Ef{sc:Sc}{i:List Fg}(l:Ej sc)(g:qc sc.jl i):El sc i (lB sc.ints sc.kg) (wh 112 sc.params):=by
 obtain⟨a,b,c,d,e,_⟩:=id l;refine⟨⟨by rw[g.1];omega,by rw[oa];omega,by rw[oY];omega⟩,λname t j=>⟨λhm=>?_,λhm=>?_⟩,λh=>⟨nQ LD,F3 a b h⟩,λk f=>⟨nQ LD,CM b c f⟩,λ_=>⟨nQ LD,CN a b c⟩,λk p hp=>?_⟩;rcases j with⟨h,_⟩|⟨_,_,h⟩
 exact h;rcases h with rfl|⟨k,_,rfl⟩
 exact absurd hm (nQ LD);exact absurd hm (nQ LD);rcases j with⟨rfl,⟨k,f,rfl⟩|⟨k,f,rfl⟩⟩|⟨rfl,_,rfl|⟨k,f,rfl⟩⟩
 exact .inl ⟨_,CM b c f,rfl,LD⟩;exact absurd (Hy f) hm;exact .inl ⟨_,CN a b c,rfl,LD⟩;exact .inr ⟨Av (.inl rfl),Hz g f,rfl⟩;have f:=(J6.1 hp).1;rw[oY]at f;rw[CL _ _ _ f]at hp;injection hp with hp;subst hp;exact⟨vO LC f,Av (.inr rfl),F5 LD g,by simp[nm]⟩
theorem oP(k w l m n sc a)(b c:Nat)(d)(f cv:Nat)(g)(i j:Nat)(h:oC k w l m n sc a b c d f cv g i j)(s:sc.kg=1):
  Calls prog 329 #[.agg #[.slice a b c,.slice d f cv,.slice g i j],tx (nm 116 0)] w (jf (.int .i64 0) w):=by
 have p:Below w w (w.alloc (.cells #[.slice a b c,.slice d f cv,.slice g i j] 422)):=Ba _ _;have q:=(oU k _ l m n sc a b c d f cv g i j (nm 116 0) (h.iU p))
 obtain⟨hm,hf⟩:=h.Ef.table s;rw[Ka hm,hf]at q
 go_enter func329,ntmps329
 go_wp2_with fail;refine q.M ?_;rintro e u ⟨rfl,t⟩;have r:=(p.T (t.M LG))
 simp only[mM];go_wp2_with fail;go_ret;exact⟨rfl,r.alloc r.size _⟩
theorem BA(n:Nat):madeCells #[.int .i64 0] n=mA (List.replicate n 0):=by apply Array.ext_getElem?;intro i;by_cases h:i<n;simp[madeCells,mA,h,Nat.mod_one];simp[madeCells,mA,h]
end Go.Proofs.YtidmdcckbdmblaaGreatDoor
