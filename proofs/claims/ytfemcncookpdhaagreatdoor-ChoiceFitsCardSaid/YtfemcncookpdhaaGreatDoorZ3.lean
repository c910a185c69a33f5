import Derived.Test.YtfemcncookpdhaaGreatDoorZ1
set_option maxRecDepth 1000000
set_option maxHeartbeats 32000000
set_option linter.all false
namespace Go.Proofs.YtfemcncookpdhaaGreatDoor
open Go.RowKit Go.Proofs.Tryz
theorem kZ.snoc{a:Type}{R:List Value->a->Prop}{r}{x:a}(hr:R r x):∀{b:List (List Value)} {xs:List a},kZ R b xs->kZ R (b++[r]) (xs++[x])
 |[],[],_=>⟨hr,trivial⟩
 |_::_,_::_,⟨h1,h2⟩=>⟨h1,kZ.snoc hr h2⟩
 |[],_::_,h=>h.elim
 |_::_,[],h=>h.elim
theorem kx.snoc{f:Type}{R:Rel f}{T k:Nat}(ok:kT R k){P:Nat->Prop}{w g:World}{lo:Nat}{v d:Value}{xs:List f}{i:List (List Value)}{r:List Value}{x:f}{o:Obj}
  (l:kZ (R (λb=>P b/\b<w/\some b≠v.ownBlock) w) i xs) (hx:R (λb=>P b/\b<w/\some b≠v.ownBlock) w r x)
  (m:g.ownsRow lo T k d (xs.length+1) (i.flatten++r)) (j:(w.alloc o).grownBy g v.ownBlock) (a:d.ownBlock=v.ownBlock\/d.ownBlock=some (w.heap.size+1)):kx R T k P g lo d (xs++[x]):=by
 have n:=j.size;rw[NB]at n;refine⟨i++[r],?_,?_⟩
 .rw[N2];simpa using m
 .refine(kZ.snoc hx l).imp λr x hx=>ok.M (ok.kg hx λb c=>?_) λb c=>⟨c.1,PJ,λe=>?_⟩
  exact(j.B b (by rw[NB];omega) (λe=>c.2.2 e)).T (N6 w o c.2.1);rcases a with a|a;exact c.2.2 (e.T a);rw[a]at e;injection e with e;omega
theorem kD{g:Type}{P:Program}{w:World}{ops:Array Oper}{rest:List Oper}{o}{a:Act}{Q:Exit->Act->World->Prop}(A:o.guard=none)(s x:Operand)(t:TypeId)
  (B:o.op=.call {callee:=.builtin .append,args:=#[s,x],argTypes:=#[t,t]})
  (lo:Nat) (e:TypeId) (i:TypeInfo) (z:Value) (size j:Nat) (C:P.underlying t=some (.slice e)) (hi:P.info? e=some i) (hz:i.zero=some z)
  (D:i.size=size) (E:i.bytes=j) (F:z.cells.size=size)
  {R:Rel g} (ok:kT R size) (f:Nat->Prop) (v:Value) (xs:List g) (hs:a.eval s=v) (G:kx R e size f w lo v xs)
  (k:Addr) (r:List Value) (l:g) (hx:a.eval x=.slice (some k) 1 1) (I:∀p u,r[p]?=some u->w.cell? (k.add p)=some u)
  (hR:R (λb=>f b/\b<w/\some b≠v.ownBlock) w r l)
  (J:xs.length+1<=maxLen) (L:(xs.length+1)*j<=140737488355328) (M:lo<=w)
  (h:∀c w',kx R e size f w' lo c (xs++[l])->w.grownBy w' v.ownBlock->(c.ownBlock=v.ownBlock\/c.ownBlock=some w.heap.size)->wpList P ops Q rest (a.put o.dst c) w'):wpList P ops Q (o::rest) a w:=by
 obtain⟨q,N,O⟩:=G.own;obtain⟨c,w',S,T,m,_,y⟩:=run_append_own_at (P:=P) w lo t o.type e i z size j C hi hz D E F ok.pos v xs.length q.flatten N k 1 1 r (by rw[ok.len hR];omega) I (ok.one hR) J L M;have U:kx R e size f w' lo c (xs++[l]):=by
  refine⟨q++[r],?_,?_⟩;rw[N2];simpa using T;refine(kZ.snoc hR O).imp λr x hx=>ok.M (ok.kg hx λb d=>m.B b d.2.1 (λe=>d.2.2 e)) λb d=>⟨d.1,ND d.2.1 m.size,λe=>?_⟩
  rcases y with n|n;exact d.2.2 (e.T n);rw[n]at e;injection e with e;exact absurd d.2.1 PJ
 refine wpList_plain A λK hK=>?_;unfold Oper.wp execOp;simp only[B,resolve,invoke,builtin,Oh,Oi,N8,Oc,Ob,Oe,hs,hx,S];exact hK _ _ (h c w' U m y)
end Go.Proofs.YtfemcncookpdhaaGreatDoor
namespace Go.Proofs.YtfemcncookpdhaaGreatDoor
open Go.RowKit lX Go.Proofs.Tryz
def nu(S:Nat->Prop)(a:Nat)(sc:Sc)(left n:Nat)(w:World)(e:Ending)(w':World):Prop:=∃v:Nat,v<n/\e=.returned (.int .i64 (v:Int))/\kH S w' a sc left/\w.grownBy w' (some a)
theorem kH.mr{S w}{c:Nat}{sc}{left:Nat}(h:kH S w c sc left){Z i:Nat}{u}(hz:Z≠c)(hS:∀b,S b->b≠Z):kH S (w.setCell ⟨Z,i,none⟩ u) c sc left:=by obtain⟨f,g,j,a,k,hy⟩:=h.kI;have d:∀b,b≠Z->(w.setCell ⟨Z,i,none⟩ u).heap[b]?=w.heap[b]?:=λb a=>NZ _ _ _ _ a;exact⟨⟨f,g,j,(d c (λe=>hz e.symm)).T a,k.kg qc.ok (λb a=>d b (hS b a)),hy.kg qE.ok (λb a=>d b (hS b a))⟩,λb a=>⟨(h.ln b a).1,by rw[NM];exact(h.ln b a).2⟩⟩
theorem km.mr{a:Type}{R:Rel a}{k:Nat}(ok:kT R k){S w v}{xs:List a}(h:km R S w v xs){Z i:Nat}{u}(hS:∀b,S b->b≠Z):km R S (w.setCell ⟨Z,i,none⟩ u) v xs:=
 h.kg ok λb c=>NZ _ _ _ _ (hS b c)
theorem km.Ec{c:Type}{R:Rel c}{k:Nat}(ok:kT R k){S w r}{x:c}{T}(h:R S w r x)(hS:∀b,S b->b<w):km R (λb=>S b\/b=w) (w.alloc (.cells r.toArray T)) (.slice (some ⟨w,0,none⟩) 1 1) [x]:=by refine⟨_,1,[r],rfl,NQ _,PJ,λ_=>⟨w,0,rfl,.inr rfl,λd u e=>?_⟩,⟨ok.M (ok.kg h λb a=>N6 w _ (hS b a)) λb a=>.inl a,trivial⟩⟩;rw[NY];exact kf (NF w _) d u (by simpa using e)
theorem FZ:(prog.info? 187).map (λi=>(i.zero,i.size,i.bytes))=some (some (.agg #[.int .i64 0,Em,.int .i64 0,Nl]),4,56):=PL
def uf(S:Nat->Prop)(a:Nat)(sc:Sc)(left n:Nat)(w:World)(e:Ending)(w':World):Prop:=
 ∃(v:Value) (xs:List Ex),e=.returned v/\kx (kz .i64 3) 187 4 (λb=>w<=b/\b≠a) w' w v xs/\xs.length=n/\(∀x∈xs,lp sc 3 x)/\kH S w' a sc left/\w.grownBy w' (some a)
theorem pK.drew{S}{b:Nat}{sc}{left:Nat}{T c w a}(h:pK S b sc left T c w a):pK S b sc left T c w a.drew:=h.grow (kp (Below.refl a a).drew)
theorem pT{f:Type}{R:Rel f}{k:Nat}(ok:kT R k){g:Nat}{w c d r}{x:f}(h:R (New w c) c r x)(j:g<w)(i:c.grownBy d (some g)):R (New w d) d r x:=
 ok.M (ok.kg h λb a=>i.B b a.2 (λe=>by injection e with e;have:=a.1;omega)) λb a=>⟨a.1,ND a.2 i.size⟩
theorem oV{d:Type}{R:Rel d}{k:Nat}(ok:kT R k){w c r}{x:d}{T}(e:w.heap.size<c.heap.size)(h:R (New w c) c r x):km R (New w (c.alloc (.cells r.toArray T))) (c.alloc (.cells r.toArray T)) (.slice (some ⟨c,0,none⟩) 1 1) [x]:=
 (km.Ec ok h (λb a=>a.2)).M ok λb a=>by unfold New;rw[NB];rcases a with a|a;exact⟨a.1,PH a.2⟩;exact⟨PJ,PJ⟩
theorem oB(D:Nat):kN D []=0:=by cases D<;>rfl
theorem lL{w:World}{b:Nat}{a c d e f g:Value}{t:TypeId}(h:w.heap[b]?=some (.cells #[a,c,d,e,f,g] t (0,0))):
  (w.cell? ⟨b,0,none⟩=some a/\w.cell? ⟨b,1,none⟩=some c/\w.cell? ⟨b,2,none⟩=some d/\w.cell? ⟨b,3,none⟩=some e/\w.cell? ⟨b,4,none⟩=some f/\w.cell? ⟨b,5,none⟩=some g)/\(w.frozen? ⟨b,0,none⟩=false/\w.frozen? ⟨b,1,none⟩=false/\w.frozen? ⟨b,2,none⟩=false/\w.frozen? ⟨b,3,none⟩=false/\w.frozen? ⟨b,4,none⟩=false/\w.frozen? ⟨b,5,none⟩=false):=
 ⟨⟨kf h 0 _ rfl,kf h 1 _ rfl,kf h 2 _ rfl,kf h 3 _ rfl,kf h 4 _ rfl,kf h 5 _ rfl⟩,⟨ko h 0,ko h 1,ko h 2,ko h 3,ko h 4,ko h 5⟩⟩
def lR(w0:World)(S:Nat->Prop)(x:Value)(v:Value)(w:World):Prop:=∃b o,v=.pointer (some ⟨b,o,none⟩)/\(New w0 w b\/(S b/\b<w))/\w.cell? ⟨b,o,none⟩=some x
theorem kL{c:Type}{R:Rel c}{k:Nat}(ok:kT R k){d:Nat}{w0 w w'}(f:d<w0.heap.size){v}{xs:List c}(e:Good d w0.heap.size w w')(h:km R (New w0 w) w v xs):km R (New w0 w') w' v xs:=
 (h.kg ok λb a=>e.2 b a.2 (PH a.1) (PH a.1)).M ok λb a=>⟨a.1,ND a.2 e.1⟩
theorem kH.ar{S w}{b:Nat}{sc}{left:Nat}(h:kH S w b sc left):∃a c,w.cell? ⟨b,4,none⟩=some (.slice a sc.nK.length c)/\km qc S w (.slice a sc.nK.length c) sc.nK:=by obtain⟨f,g,i,e,d,hy⟩:=h.kI;obtain⟨a,c,j,rfl,k⟩:=id d;exact⟨a,c,kf e 4 _ rfl,d⟩
theorem Aj{S w f}{n c i:Nat}{g l}(h:km qc S w (.slice f n c) g)(k:g[i]?=some l):∃b o a d,f=some ⟨b,o,none⟩/\S b/\w.cell? ⟨b,o+i,none⟩=some (.slice a l.length d)/\km lY S w (.slice a l.length d) l:=by obtain⟨b,o,r,e,m,⟨v,hr,j⟩,hc⟩:=h.kI qc.ok i l k;obtain⟨a,d,p,rfl,_⟩:=id j;have:=hc 0 _ (by rw[hr];rfl);exact⟨b,o,a,d,e,m,by simpa using this,j⟩
theorem kx.base{a:Type}{R:Rel a}{T k:Nat}{P w}{lo b:Nat}{v}{xs:List a}(h:kx R T k P w lo v xs)(d:b<=lo):kx R T k P w b v xs:=by
 obtain⟨f,c,i⟩:=h.own;refine⟨f,⟨c.1,?_⟩,i⟩;rcases c.2 with h|⟨g,j,l,e,m,h⟩
 exact .inl h;exact .inr ⟨g,j,l,e,NR d m,h⟩
theorem Kp.Ji{a cb:Nat}(w)(i:Nat)(u):Kp a cb w (w.setCell ⟨cb,i,none⟩ u):=⟨rfl,rfl,rfl,by rw[NM];exact NQ _,λ_ _ _ h=>NZ _ _ _ _ h⟩
def Yn(a w:World):Nat->Prop:=λb=>a<=b/\b<w
theorem Lf.next{S}{B z:Nat}{w0 e w}{n:Nat}{f j}{k l:Nat}{m}{nk q:Nat}{r s t}{c4 g i:Nat}(h:Lf S B z w0 e n f j k l m nk q r s t c4 g i)(d:Below e e w){u:Option Addr}{c:Nat}
  (x:km qc (λb=>e<=b/\b<w) w (.slice u n c) (f.map λp=>rA p 3)):Ku S B z w0 w n f j k l m nk q r s (f.map λp=>rA p 3) t c4 u c g i:=by
 have y:B<e:=(NC.1 h.hF).1;have C:=h.zB;have hs:=d.size;exact⟨(d.B z PJ).T h.hz,(d.B B y).T h.hF,h.zB,h.qz.T (d.M PJ),h.Hy.kg tX.ok (λb a=>d.B b (PH ((h.hS b a).1))),h.hS,h.n1,h.n3,
  (h.KE.kg mR.ok (λb a=>d.B b a.2)).M mR.ok (λb a=>⟨a.1,ND a.2 hs⟩),h.Hz,h.f2,(h.LD.kg nI.ok (λb a=>d.B b a.2)).M nI.ok (λb a=>⟨a.1,ND a.2 hs⟩),h.LF,
  x.M qc.ok (λb a=>⟨PH a.1,a.2⟩),rfl,λv A=>(d.cell (p:=⟨g,i+v,none⟩) h.b8.2).T (h.h8 v A),⟨h.b8.1,ND h.b8.2 hs⟩⟩
theorem qp{d:Type}{R:Rel d}{k:Nat}(ok:kT R k){c w w' row v}{xs:List d}(h:km R (Yn c w) w v xs)(f:w.grownBy w' row)(hr:∀z,row=some z->z<c):km R (Yn c w') w' v xs:=
 (h.kg ok λb a=>f.B b a.2 λe=>PI (hr b e.symm) a.1).M ok λb a=>⟨a.1,ND a.2 f.size⟩
theorem F2:(prog.info? 48).map (λi=>(i.zero,i.size,i.bytes))=some (some (.agg #[Em,Nl,Nl]),3,64):=PL
theorem JQ:(prog.info? 77).map (λi=>(i.zero,i.size,i.bytes))=some (some (.agg #[Em,.bool false]),2,24):=PL
theorem JR:(prog.info? 79).map (λi=>(i.zero,i.size,i.bytes))=some (some (.agg #[Em,Em,.int .i64 0]),3,40):=PL
def Jj(a:World)(B k:Nat)(f:Option Addr)(d g:Nat)(i:Option Addr)(nk j:Nat)(l:List Co)(m:List (List Nat))(w':World):Prop:=∃(e:Value) (c:Co),a.grownBy w' (some B)/\w'.heap[B]?=some (.cells #[tx mi,.slice f d g,.slice i nk j,e] 32 (0,0))/\kx (mg .i64) 48 3 (λb=>a<=b) w' a e (l++[c])/\xK d m k c
theorem nx.drew{a:Type}{R:Rel a}{T k:Nat}{P b wr}{o:Nat}{C c V}{xs:List a}{x}(h:nx R T k P b wr o C c V xs x)(ok:kT R k):nx R T k P b wr o C c V xs {x with drawn:=x.drawn+1}:=h.grow ok (kp (Below.refl _ _).drew)
theorem HZ:(prog.info? 185).map (λi=>(i.zero,i.size,i.bytes))=some (some (.agg #[.int .u8 0,Em,Em,Nl,Nl,Nl]),6,112):=PL
theorem H2:(prog.info? 101).map (λi=>(i.zero,i.size,i.bytes))=some (some (.agg #[Em,Em,.int .i64 0]),3,40):=PL
theorem H4:(prog.info? 105).map (λi=>(i.zero,i.size,i.bytes))=some (some (.agg #[Em,Nl,Nl]),3,64):=PL
theorem H5:(prog.info? 111).map (λi=>(i.zero,i.size,i.bytes))=some (some (.agg #[Nl]),1,24):=PL
def Gt(o:Nat)(w:World):Nat->Prop:=λb=>o<b/\b<w
theorem oZ{P}(w:World)(t e)(n:Nat)(a:Array Value)(k:Nat)(v:Value)(h:P.underlying t=some (.array n e))(b:k<n)
  (c:(isAgg e).run P w=.ok false w) (d:a[k]?=some v) (hs:(sizeOf e).run P w=.ok 1 w):
  (Instr.index t (.agg a) (.int .i64 k)).run P w=.ok v w:=by
 simp[Instr.index,PB h,asIntOf,b,hs,c,d,go_sem]
theorem Er(w)(k:Nat)(a:k<39):(Instr.index 343 (.agg pO) (.int .i64 k)).run prog w=.ok (tx (mh.words.getD k [])) w:=
 oZ w _ 9 39 _ k _ PL a PL
  (by have b:k<mh.words.length:=a;simp[pO,tx,b]) PL
theorem Es(n:Int)(w):Calls prog 194 #[.int .u8 n] w λe w'=>e=.returned (.bool (mh.wC n))/\w=w':=by
 by_cases a:48<=n<;>by_cases b:n<=57;all_goals
  first
  |omega
  |(go_enter func194,ntmps194;go_wp2;go_ret;exact⟨by simp[mh.wC,a,b],rfl⟩)
theorem letters:mh.nE (120:UInt8).toNat=true/\mh.nE (112:UInt8).toNat=true/\mh.nE (116:UInt8).toNat=true/\mh.nE (98:UInt8).toNat=true/\mh.nE (102:UInt8).toNat=true/\mh.nE (104:UInt8).toNat=true:=PV
theorem lB{d:Nat}{e}{k:Nat}{x}(b:e.op=(k:Int))(m:1<=k)(hx:shapes[k]?=some x)(c:e.args.length=x.1)(f:x.2.1=true->mI e.name=true)(g:x.2.1=false->e.name=[])(i:k=1->0<=e.n)(j:k≠1->e.n=0)(l:∀a∈e.args,ml d a):ml (d+1) e:=
 ⟨⟨x,PJ,by rw[b];simpa using hx,c,f,g,λh=>i PJ,λh=>j PJ⟩,l⟩
def Am(g:FuncId):Prop:=∀(S:Nat->Prop) (w:World) (b o d:Nat) (e:Ex) (r:List Value),lH w->At w b o r->kz .u8 d S w r e->ml d e->b<w->(∀q,S q->q<w)->Calls prog g #[.pointer (some ⟨b,o,none⟩)] w (kU (.bool true) w)
theorem vO:ma 171:=λ_ _=>PL
theorem CB:∀x∈shapes,x.1<=2:=PM
theorem ml.two{d:Nat}{e}(h:ml d e):e.args.length<=2:=by
 cases d with
 |zero=>exact h.elim
 |succ d=>obtain⟨⟨x,_,hx,a,_⟩,_⟩:=h;rw[a];exact CB x (NH hx)
theorem wZ:∀x∈forms,x.2.2.2.1<=5:=PM
theorem nB.five{d:Nat}{s}(h:nB d s):s.kV.length<=5:=by
 cases d with
 |zero=>exact h.elim
 |succ d=>obtain⟨⟨x,_,hx,_,_,_,_,_,a,_⟩,_⟩:=h;exact NR a (wZ x (NH hx))
def B9(g:FuncId)(d:Nat):Prop:=∀(S:Nat->Prop) (w:World) (a:Option Addr) (n c:Nat) (l:List St),lH w->km (kE .u8 d) S w (.slice a n c) l->l.length<=12->(∀s∈l,nB d s)->(∀q,S q->q<w)->Calls prog 130 #[.slice a n c,.func (.func g) #[] #[]] w (kU (.bool true) w)
theorem vr:ma 134:=λ_ _=>PL
def Ca(d:Nat):Prop:=∀(S:Nat->Prop) (w:World) (op n:Int) (name:List UInt8) (b:Option Addr) (m c:Nat) (args:List Ex),km (kz .u8 d) S w (.slice b m c) args->m<=2->(∀a∈args,ml d a)->d<=6->(∀q,S q->q<w)->
 Calls prog 167 #[.agg #[.int .u8 op,tx name,n,.slice b m c]] w (λe w'=>∃r:Nat,e=.returned (.int .i64 (r:Int))/\r<=d+1/\Below w w w')
def Jt(d:Nat):Prop:=∀(S:Nat->Prop) (w:World) (a:Option Addr) (n c:Nat) (l:List St),km (kE .u8 d) S w (.slice a n c) l->l.length<=12->(∀s∈l,nB d s)->kN d l<=40->d<=6->(∀q,S q->q<w)->
 Calls prog 164 #[.slice a n c] w (λe w'=>∃r:Nat,e=.returned (.int .i64 (r:Int))/\r<=kN d l/\Below w w w')
theorem zI:ma 166:=λ_ _=>PL
def Dw(g:FuncId):Prop:=∀(S:Nat->Prop) (w:World) (a:Option Addr) (b c1:Nat) (c:Option Addr) (d c2:Nat) (h:Hd),lH w->km kA S w (.slice a b c1) h.params->km (kE .u8 Ds) S w (.slice c d c2) h.body->yq h->(∀q,S q->q<w)->Calls prog g #[.agg #[tx h.name,.slice a b c1,.slice c d c2]] w (kU (.bool true) w)
theorem FO(w:World)(h:Hd)(a:Option Addr)(b c1:Nat)(c:Option Addr)(d c2:Nat):Below w w (w.alloc (.cells #[tx h.name,.slice a b c1,.slice c d c2] 118)):=Ba _ _
theorem xX:ma 133:=λ_ _=>PL
theorem lO.form{d}{cb:Nat}{e f g i hd own j k l params V}{b:List In}{w}(h:lO d cb e f g i hd own j k l params V b w):∃a c,V=.slice a b.length c:=by obtain⟨a,c,m,_⟩:=h.own.form;exact⟨a,c,m⟩
theorem JW{b k:Nat}{a c}(hc:c≠102)(h:ru b a):pM a (nm c k)=false:=by cases hq:pM a (nm c k);rfl;obtain⟨x,hx,e⟩:=sJ.1 hq;obtain⟨d,f⟩:=Pz hx;have:=(h.2 d x f).symm.T e;injection this with this _;exact absurd this.symm hc
def Cg(sc:Sc)(name:List UInt8)(t:Int):Prop:=(t=1/\((∃k,k<sc.ints/\name=nm 120 k)\/∃k,k<sc.params/\name=nm 112 k))\/(t=2/\(name=nm 98 0\/∃k,k<sc.kM/\name=nm 102 k))
def BU(n:Nat)(u:Int):Int:=if n=0 then 0 else u
theorem six(i:Nat)(hi:i<100):(Lib.decDigits i).length<=20:=by by_cases h:i<10;rw[Lib.decDigits_one h];simp;rw[Lib.decDigits_two h hi];simp
theorem Ih(x a:Lk)(c:Nat)(w:World)(e:w.cell? ⟨c,0,none⟩=some (tx a.a))(f:w.cell? ⟨c,1,none⟩=some (tx a.b))(g:c<w)(d:(x.a,x.b)≠(a.a,a.b)):
  Calls prog 139 #[.agg #[tx x.a,tx x.b,x.sW],.pointer (some ⟨c,0,none⟩)] w (kU (.bool false) w):=by
 have i:=mL x.a;have j:=mL x.b;have k:=mL a.a;have l:=mL a.b;by_cases b:x.a=a.a
 .have m:(x.b==a.b)=false:=by rw[Bool.eq_false_iff];intro h;exact d (by rw[b,eq_of_beq h])
  have b:(x.a==a.a)=true:=by simp[b]
  go_enter func139,ntmps139
  go_wp2;go_ret;exact⟨rfl,Ba _ _⟩
 .have b:(x.a==a.a)=false:=by rw[Bool.eq_false_iff];intro h;exact b (eq_of_beq h)
  go_enter func139,ntmps139
  go_wp2;go_ret;exact⟨rfl,Ba _ _⟩
def MJ:Value:=.agg #[Em,Em,.int .i64 0]
theorem liesBuilder:liesAt prog prog.depth 164 (3/prog.cellsOf 164) 0 130 1=true:=PL
theorem Ck(n:Nat)(h:n<=1000):IntKind.i64.wrap ((n:Int)+1)=((n+1:Nat):Int)/\IntKind.i64.wrap (((n+1:Nat):Int)-1)=(n:Int):=by constructor<;>simp[IntKind.wrap,IntKind.bits,IntKind.signed]<;>omega
def rO{a:Type}(R:Rel a)(n:Nat)(xs:List a)(w:World)(e:Ending)(w':World):Prop:=e=.returned (.slice (some ⟨w,0,none⟩) n n)/\km R (Nw w w') w' (.slice (some ⟨w,0,none⟩) n n) xs/\Below w w w'
theorem ET:ma 58:=λ_ _=>PL
theorem yK:ma 56:=λ_ _=>PL
theorem zm:prog.arrayLen 228=64:=PL
theorem Gd:prog.underlying 228=some (.array (prog.arrayLen 228) (prog.elem 228)):=PL
end Go.Proofs.YtfemcncookpdhaaGreatDoor
namespace lX
theorem sN.snoc{sc a hs h}(c:sN sc a hs)(d:Ed sc a hs.length h):sN sc a (hs++[h]):=λk x hx=>by
 rcases Nat.lt_or_ge k hs.length with b|b;rw[List.getElem?_append_left b]at hx;exact c k x hx;rw[List.getElem?_append_right b]at hx;obtain⟨rfl⟩:k=hs.length:=by rcases Nat.lt_or_ge (k-hs.length) 1 with h|h;omega;rw[List.getElem?_eq_none (by simpa using h)]at hx;cases hx
 rw[Nat.sub_self]at hx;simp at hx;rw[<-hx];exact d
theorem nL.skip{n m:Nat}{a}(h:nL n m a):nL n (m+1) a:=⟨λx hx=>by obtain⟨k,b,h⟩:=h.1 x hx;exact⟨k,PJ,h⟩,h.2⟩
theorem DJ{d:Nat}{l}{n:Nat}(h:kN (d+1) l<=n){x}(hx:x∈l):kN d x.th<=n/\kN d x.el<=n:=(pU h).2 x hx
theorem mC.one{a b:List In}{x:In}(h:b=a++[x])(hx:pw (a.length+1) x):mC a 1 b:=⟨[x],h,PK,λc hy=>by simp at hy;subst hy;exact hx⟩
theorem DM{i t k:Nat}{c}(hc:c=102\/c=112):((lV i t).find? λx=>x.name==nm c k)=none:=by
 rw[List.find?_eq_none];intro x hx;have d:∃a b,x.name=nm a b/\a≠102/\a≠112:=by
  simp only[lV,List.mem_append,List.mem_map,List.mem_singleton]at hx;rcases hx with(⟨q,_,rfl⟩|rfl)|⟨q,_,rfl⟩
  exact⟨120,q,rfl,PM,PM⟩;exact⟨98,0,rfl,PM,PM⟩;exact⟨116,q,rfl,PM,PM⟩
 obtain⟨a,b,e,f,g⟩:=d;rw[e];simp only[beq_iff_eq];intro h;injection h with h _;rcases hc with hc|hc;exact f (h.T hc);exact g (h.T hc)
theorem KZ{n k:Nat}(h:k<n):nm 112 k∈oI 112 n:=by simp[oI];exact⟨k,h,rfl⟩
def uB(sc:Sc)(d:Nat)(e:Ex)(t:Int):Prop:=(t=1/\lp sc d e)\/(t=2/\mO sc d e)
theorem uB.num{sc}{d:Nat}{e}(h:lp sc d e):uB sc d e 1:=.inl ⟨rfl,h⟩
theorem uB.HB{sc}{d:Nat}{e}(h:mO sc d e):uB sc d e 2:=.inr ⟨rfl,h⟩
def FQ:List (Int×Int×Int):=[(9,1,1),(10,2,2),(11,1,1),(12,1,1),(13,1,1),(14,1,1),(15,1,1),(16,1,2),(17,1,2),(18,1,2),(19,1,2),(20,1,2),(21,1,2),(22,2,2),(23,2,2)]
def HF(d:Nat)(s:St):Nat:=1+kN d s.th+kN d s.el
end lX
namespace Go.Proofs.YtfemcncookpdhaaGreatDoor
open Go.RowKit lX Go.Proofs.Tryz
theorem ru.snoc{k:Nat}{a}(h:ru k a)(q):ru (k+1) (a++[⟨nm 102 k,q⟩]):=by
 refine⟨by simp[h.1],λb x hx=>?_⟩;rcases PG b a.length with c|c;rw[Ou c]at hx;exact h.2 b x hx;have d:=(NW.1 hx).1;simp at d;have e:b=a.length:=PJ
 subst e;rw[OA (NQ _),Nat.sub_self]at hx;simp at hx;rw[<-hx,h.1]
theorem rk.snoc{a b c:List In}{n m:Nat}(h:rk a n b){x:In}(hx:lQ x)(d:c=b++[x])(hm:n+1<=m):rk a m c:=by obtain⟨l,rfl,f,hp⟩:=h;refine⟨l++[x],by rw[d,OG],PO,λe hy=>?_⟩;rcases OI.1 hy with hy|hy;exact hp e hy;simp at hy;subst hy;exact hx
inductive LO (sc:Sc) (d:Nat) (e:Ex) (t:Int):Prop where
 |num (h:e.op=1\/e.op=4) (ht:t=1) (ha:e.args=[])
 |HB (h:e.op=2\/e.op=3) (ht:t=2) (ha:e.args=[])
 |name (h:e.op=5) (hn:Cg sc e.name t) (ha:e.args=[])
 |size (h:e.op=8) (ht:t=1) (hs:sc.kF=1) (hn:e.name=nm 116 0) (ha:e.args=[])
 |get (h:(e.op=6/\t=1)\/(e.op=7/\t=2)) (hs:sc.kF=1) (hn:e.name=nm 116 0) (hl:0<e.args.length) (h2:e.args.length<=2) (ha:∀a∈e.args,uB sc d a 1)
 |ops (u:Int) (h:(e.op,u,t)∈FQ) (hl:0<e.args.length) (h2:e.args.length<=2) (ha:∀a∈e.args,uB sc d a u)
theorem LO.of{sc}{d:Nat}{e}{t:Int}(h:uB sc (d+1) e t):LO sc d e t:=by
 have two:∀{a b:Ex} {u:Int},e.args=[a,b]->uB sc d a u->uB sc d b u->0<e.args.length/\e.args.length<=2/\∀x∈e.args,uB sc d x u:=λhe j l=>by rw[he];refine⟨PK,PK,λx hx=>?_⟩;simp at hx;rcases hx with rfl|rfl;exact j;exact l
 have one:∀{a:Ex} {u:Int},e.args=[a]->uB sc d a u->0<e.args.length/\e.args.length<=2/\∀x∈e.args,uB sc d x u:=λhe j=>by rw[he];refine⟨PK,PK,λx hx=>?_⟩;simp at hx;rw[hx];exact j
 rcases h with⟨rfl,h⟩|⟨rfl,h⟩
 rcases h with⟨f,_,_,_,c⟩|⟨f,_,_,c⟩|⟨f,hn,_,c⟩|⟨f,hs,hn,_,a,c,g⟩|⟨f,hs,hn,_,c⟩|⟨f,_,_,a,c,g⟩|⟨f,_,_,a,b,c,g,i⟩
 exact .num (.inl f) rfl c;exact .num (.inr f) rfl c;exact .name f (.inl ⟨rfl,hn⟩) c;have:=one c (.num g);exact .get (.inl ⟨f,rfl⟩) hs hn this.1 this.2.1 this.2.2;exact .size f rfl hs hn c;have:=one c (.num g);exact .ops 1 (by rw[f];decide) this.1 this.2.1 this.2.2;have:=two c (.num g) (.num i);have k:e.op=11\/e.op=12\/e.op=13\/e.op=14\/e.op=15:=PJ
 exact .ops 1 (by rcases k with h|h|h|h|h<;>rw[h]<;>decide) this.1 this.2.1 this.2.2;rcases h with⟨f,_,_,c⟩|⟨f,hn,_,c⟩|⟨f,hs,hn,_,a,c,g⟩|⟨f,_,_,a,c,g⟩|⟨f,_,_,a,b,c,g,i⟩|⟨f,_,_,a,b,c,g,i⟩
 exact .HB f rfl c;exact .name f (.inr ⟨rfl,hn⟩) c;have:=one c (.num g);exact .get (.inr ⟨f,rfl⟩) hs hn this.1 this.2.1 this.2.2;have:=one c (.HB g);exact .ops 2 (by rw[f];decide) this.1 this.2.1 this.2.2;have:=two c (.HB g) (.HB i);exact .ops 2 (by rcases f with h|h<;>rw[h]<;>decide) this.1 this.2.1 this.2.2;have:=two c (.num g) (.num i);have k:e.op=16\/e.op=17\/e.op=18\/e.op=19\/e.op=20\/e.op=21:=PJ
 exact .ops 1 (by rcases k with h|h|h|h|h|h<;>rw[h]<;>decide) this.1 this.2.1 this.2.2
def Jv(d:Nat):Prop:=∀(S:Nat->Prop) (w:World) (p:List Fg) (sc:Sc) (b:Option Addr) (e f:Nat) (g:Option Addr) (i cv:Nat) (j:Option Addr) (k l:Nat) (n:Option Addr) (m c:Nat) (args:List Ex) (u:Int),rB S w p sc b e f g i cv j k l->km (kz .u8 d) S w (.slice n m c) args->m<=2->(∀a∈args,uB sc d a u)->
 Calls prog 218 #[.agg #[.slice b e f,.slice g i cv,.slice j k l],.slice n m c] w (kU (.tuple #[.int .u8 (BU m u),Em,.int .i64 0]) w)
def Jw(d:Nat):Prop:=∀(S:Nat->Prop) (w:World) (p:List Fg) (sc:Sc) (a:Option Addr) (b e:Nat) (f:Option Addr) (g cv:Nat) (i:Option Addr) (j k:Nat) (l:Option Addr) (m c:Nat) (op n:Int) (name:List UInt8) (args:List Ex) (t:Int),rB S w p sc a b e f g cv i j k->km (kz .u8 d) S w (.slice l m c) args->uB sc (d+1) (.mk op name n args) t->
 Calls prog 216 #[.agg #[.slice a b e,.slice f g cv,.slice i j k],.agg #[.int .u8 op,tx name,n,.slice l m c]] w (kU (.tuple #[.int .u8 t,Em,.int .i64 0]) w)
structure nG(X:Nat->Prop)(w w':World):Prop where
 os:w'.os=w.os
 tape:w'.tape=w.tape
 output:w'.output=w.output
 size:w.heap.size<=w'
 B:∀k,k<w.heap.size->¬X k->w'.heap[k]?=w.heap[k]?
theorem nG.refl(X w):nG X w w:=⟨rfl,rfl,rfl,NQ _,λ_ _ _=>rfl⟩
theorem nG.T{X a b c}(h:nG X a b)(k:nG X b c):nG X a c:=
 ⟨k.os.T h.os,k.tape.T h.tape,k.output.T h.output,NR h.size k.size,λi hi hx=>(k.B i (ND hi h.size) hx).T (h.B i hi hx)⟩
theorem nG.of{X w w'}(h:Below w.heap.size w w'):nG X w w':=⟨h.os,h.tape,h.output,h.size,λk a _=>h.B k a⟩
theorem nG.drew{X a w}(h:nG X a w):nG X a w.drew:=⟨h.os,h.tape,h.output,h.size,h.B⟩
theorem nG.grown{X w w'}{q:Nat}(h:w.grownBy w' (some q))(a:X q):nG X w w':=⟨h.os,h.tape,h.output,h.size,λk b hx=>h.B k b (by intro e;injection e with e;exact hx (e▸a))⟩
theorem nG.M{X a w w'}(h:nG X w w')(hx:∀k,X k->a k):nG a w w':=⟨h.os,h.tape,h.output,h.size,λk b hy=>h.B k b λc=>hy (hx k c)⟩
theorem mg.qH{S w r c}(h:mg .u8 S w r c):∃a d c1 b e c2,r=[tx c.name,.slice a d c1,.slice b e c2]/\km (nJ .u8) S w (.slice a d c1) c.vars/\km (mB .u8) S w (.slice b e c2) c.kY:=by obtain⟨i,j,rfl,f,g⟩:=h;obtain⟨a,c1,rfl,_⟩:=f.form;obtain⟨b,c2,rfl,_⟩:=g.form;exact⟨_,_,_,_,_,_,rfl,f,g⟩
theorem mo.qH{S w r c}(h:mo .u8 S w r c):∃a d c1 b e c2,r=[tx c.name,.slice a d c1,.slice b e c2]/\km kA S w (.slice a d c1) c.params/\km (kE .u8 Ds) S w (.slice b e c2) c.body:=by obtain⟨i,j,rfl,f,g⟩:=h;obtain⟨a,c1,rfl,_⟩:=f.form;obtain⟨b,c2,rfl,_⟩:=g.form;exact⟨_,_,_,_,_,_,rfl,f,g⟩
theorem wM{w:World}{b o i:Nat}{v u:Value}{T c:TypeId}(h:w.heap[b]?=some (.cells #[v] T (0,0)))(a:∃c1 c2 c3:Value,w.heap[o]?=some (.cells #[c1,c2,c3] c (0,0))):(w.setCell ⟨o,i,none⟩ u).heap[b]?=some (.cells #[v] T (0,0)):=by refine(N1 _ _ _ _ ?_).T h;intro e;obtain⟨c1,c2,c3,a⟩:=a;have d:b=o:=e;rw[<-d,h]at a;injection a with a;injection a with a;have:=Oy Array.size a;simp at this
theorem km.solo{a:Type}{R:Rel a}{k:Nat}(ok:kT R k){S w}{b:Nat}{v T}{x:a}(d:w.heap[b]?=some (.cells #[v] T (0,0)))(hr:R S w [v] x):km R (λq=>S q\/q=b) w (.slice (some ⟨b,0,none⟩) 1 1) [x]:=by
 refine⟨some ⟨b,0,none⟩,1,[[v]],rfl,PK,PJ,λ_=>⟨b,0,rfl,.inr rfl,λc u hu=>?_⟩,⟨ok.M hr λq e=>.inl e,trivial⟩⟩;have f: #[v][c]?=some u:=by simpa using hu
 rw[NY];exact kf d c u f
theorem mB.qH{S w r l}(h:mB .u8 S w r l):∃a b c1,r=[.slice a b c1]/\km (mo .u8) S w (.slice a b c1) l:=by obtain⟨d,rfl,c⟩:=h;obtain⟨a,c1,rfl,_⟩:=c.form;exact⟨_,_,_,rfl,c⟩
theorem Il(n:List UInt8)(name a b)(k:a.oneCell'=true)(l:b.oneCell'=true)(d)(e c1:Nat)(f)(g c2:Nat)(i:a=.slice d e c1)(j:b=.slice f g c2)(c:Nat)(w)(hn:w.cell? ⟨c,1,none⟩=some (tx name))(m:c<w.heap.size):
  Calls prog 204 #[.agg #[tx n,a,b],.pointer (some ⟨c,0,none⟩)] w (kU (.bool (n==name)) w):=by
 subst i j;have p:=mL n;have q:=mL name
 go_enter func204,ntmps204
 go_wp2;go_ret;exact⟨rfl,Ba _ _⟩
theorem GG:(prog.info? 3).map (λi=>(i.zero,i.size,i.bytes))=some (some (.int .i64 0),1,8):=PL
def nb(T:TypeId)(w:World)(b n:Nat):Prop:=∃a:Array Value,w.heap[b]?=some (.cells a T (0,0))/\a.size=n/\∀u∈a.toList,u.oneCell'=true
theorem nb.cells{T w}{b n:Nat}(h:nb T w b n):∃l:List Value,l.length=n/\(∀u∈l,u.oneCell'=true)/\∀a u,l[a]?=some u->w.cell? ⟨b,a,none⟩=some u:=by obtain⟨c,d,e,f⟩:=h;exact⟨c.toList,by simpa using e,f,λa u hu=>kf d a u (by simpa using hu)⟩
theorem AJ:(prog.info? 219).map (λi=>(i.zero,i.size,i.bytes))=some (some (.agg #[.int .i64 0,.int .i64 0,Nl]),3,40):=PL
theorem AK:(prog.info? 4).map (λi=>(i.zero,i.size,i.bytes))=some (some (.bool false),1,1):=PL
theorem J5:(prog.info? 215).map (λi=>(i.zero,i.size,i.bytes))=some (some (Nl),1,24):=PL
theorem J6:(prog.info? 216).map (λi=>(i.zero,i.size,i.bytes))=some (some (Nl),1,24):=PL
theorem wN(z)(n:Nat)(hz:0<z.size):∀u∈(madeCells z n).toList,u∈z.toList:=by intro u hu;simp only[madeCells,Array.toList_map,Ov]at hu;obtain⟨i,_,rfl⟩:=hu;have a:i % z.size<z.size:=Nat.mod_lt _ hz;rw[getElem!_pos z (i % z.size) a];simp
theorem CO{w}{b n:Nat}(h:w.heap[b]?=some (.cells (madeCells #[.int .i64 0,.int .i64 0,Nl] (n*3)) 219 (0,0))):nb 219 w b (n*3):=⟨_,h,Pn _ _,λu hu=>by have:=wN _ _ PM u hu;simp at this;rcases this with rfl|rfl<;>rfl⟩
theorem CP{w}{b n:Nat}(h:w.heap[b]?=some (.cells (madeCells #[.bool false] n) 4 (0,0))):nb 4 w b n:=⟨_,h,Pn _ _,λu hu=>by have:=wN _ _ PM u hu;simp at this;subst this;rfl⟩
theorem Ip:(prog.info? 160).map (λi=>(i.zero,i.size,i.bytes))=some (some (.agg #[Nl,Nl,Nl]),3,72):=PL
theorem J9:(prog.info? 49).map (λi=>(i.zero,i.size,i.bytes))=some (some (Nl),1,24):=PL
def Lr(a cb:Nat)(C:Array Value)(b:ByteArray)(B:Nat)(wr x:World):Prop:=
 Below B wr x/\x.heap[cb]?=some (.cells (C++ #[.string b,Em,Em,.int .i64 0]) 211 (0,0))/\x.heap[a]?=some (.cells #[Em,Em,.int .i64 0] 145 (0,0))
def wa(o:Obj):Prop:=∀a b,o≠.cells a 5 b
theorem lA{a T b}(h:T≠5):wa (.cells a T b):=λ_ _ e=>by injection e with _ e _;exact h e
def Dr(S:Nat->Prop)(B b:Nat)(w:World):Prop:=∀q,S q->q<w/\q≠b/\(q<B\/∃o,w.heap[q]?=some o/\wa o)
def Jr(B:Nat):Prop:=7<B/\8<B/\4<B
end Go.Proofs.YtfemcncookpdhaaGreatDoor
namespace mh
theorem H8(l)(k:Nat)(a:k<39)(h:(words[k]?.getD []==l)=true):xL l=true:=by have b:k<words.length:=a;rw[List.getElem?_eq_getElem b,Option.getD_some]at h;have:=eq_of_beq h;unfold xL;rw[List.contains_iff_mem,<-this];exact List.getElem_mem _
end mh
namespace lX
theorem F6{d:List Nat}{f:List (List Hd)}(g:∀hs∈f,∀k h,hs[k]?=some h->∃a,d[k]?=some a/\h.name=nm 104 k/\h.params=oI 112 a)(v:d.length<=3)(hex:∃hs∈f,hs.length=d.length){k a:Nat}(i:d[k]?=some a):
  ∃h,(f.flatten.find? λx=>x.name==nm 104 k)=some h/\h.params=oI 112 a:=by
 obtain⟨hs,hm,w⟩:=hex;have y:=(List.getElem?_eq_some_iff.1 i).1;obtain⟨j,l⟩:∃x,hs[k]?=some x:=Gx PJ;obtain⟨_,_,n,_⟩:=g hs hm k j l;cases hf:f.flatten.find? λx=>x.name==nm 104 k with
 |none=>rw[List.find?_eq_none]at hf;exact absurd (by rw[n];simp) (hf j (List.mem_flatten.2 ⟨hs,hm,List.mem_of_getElem? l⟩))
 |some h=>
  refine⟨h,rfl,?_⟩;have b:=List.find?_some hf;obtain⟨p,q,r⟩:=List.mem_flatten.1 (List.mem_of_find?_eq_some hf);obtain⟨m,s⟩:=List.getElem?_of_mem r;obtain⟨z,c,t,u⟩:=g p q m h s;rw[t]at b;simp only[beq_iff_eq]at b;have A:=(List.getElem?_eq_some_iff.1 c).1;have e:m=k:=by unfold nm at b;injection b with _ b;injection b with b _;have:=congrArg UInt8.toNat b;simp at this;omega
  subst e;rw[i]at c;injection c with c;rw[u,c]
def qW(a:List Fg)(name:List UInt8):Bool:=a.any λx=>x.name==name
theorem JZ{c k:Nat}{a}(hn:c<=90)(h:ru c a){x}(hx:a[k]?=some x):qW (a.take k) x.name=false:=by
 cases hq:qW (a.take k) x.name with
 |false=>rfl
 |true=>
  unfold qW at hq;rw[List.any_eq_true]at hq;obtain⟨d,hy,e⟩:=hq;obtain⟨f,b⟩:=List.getElem?_of_mem hy;rw[List.getElem?_take]at b;split at b;case isFalse=>simp at b
  case isTrue j=>have g:=h.2 f d b;have i:=h.2 k x hx;have l:=(List.getElem?_eq_some_iff.1 hx).1;have m:=h.1;rw[g,i]at e;simp only[beq_iff_eq]at e;unfold nm at e;injection e with _ e;injection e with e _;have:=congrArg UInt8.toNat e;simp at this;omega
theorem Ii{b k:Nat}{a}(h:ru b a):qW a (kB k)=false:=by
 cases hq:qW a (kB k)with
 |false=>rfl
 |true=>unfold qW at hq;rw[List.any_eq_true]at hq;obtain⟨c,hy,e⟩:=hq;obtain⟨d,f⟩:=List.getElem?_of_mem hy;rw[h.2 d c f]at e;simp[nm,kB]at e
theorem GD(i t:Nat)(c:1<=i)(d:i<=3)(e:t<=1):((List.range 6).all λa=>match (lV i t)[a]? with|none=>true|some x=>(((lV i t).take a).find? λb=>b.name==x.name).isNone&&x.name.head? !=some 102&&x.name.length==2)=true:=by rcases(show i=1\/i=2\/i=3 from PJ)with rfl|rfl|rfl<;>rcases(show t=0\/t=1 from PJ)with rfl|rfl<;>decide
theorem Ij{i t b:Nat}{x}{f:Nat}{c}(hf:ru f c)(g:1<=i)(j:i<=3)(k:t<=1)(hx:(lV i t)[b]?=some x):(((lV i t).take b).find? λd=>d.name==x.name)=none/\qW c x.name=false/\x.name.length=2:=by
 have l:=(List.getElem?_eq_some_iff.1 hx).1;rw[qY]at l;have h:=List.all_eq_true.1 (GD i t g j k) b (List.mem_range.2 PJ);rw[hx]at h;simp only[Bool.and_eq_true,Option.isNone_iff_eq_none,beq_iff_eq,bne_iff_ne]at h;refine⟨h.1.1,?_,h.2⟩;cases a:qW c x.name with
 |false=>rfl
 |true=>unfold qW at a;rw[List.any_eq_true]at a;obtain⟨d,hy,e⟩:=a;obtain⟨q,a⟩:=List.getElem?_of_mem hy;rw[hf.2 q d a]at e;rw[beq_iff_eq]at e;rw[<-e]at h;exact absurd rfl h.1.2
def Dq(a:List Co):Nat->St->Prop
 |0,_=>False
 |d+1,s=>(1<=s.kind/\s.kind<=10)/\s.kV.length<=5/\(∀e∈s.kV,Go.Proofs.YtfemcncookpdhaaGreatDoor.ml De e)/\(s.kind=6->∃x∈a,x.name=s.name)/\(∀x∈s.th,Dq a d x)/\∀x∈s.el,Dq a d x
theorem mC.snoc{b a c:List In}{n m:Nat}(h:mC b n a){x:In}(d:c=a++[x])(hx:pw (a.length+1) x)(hm:n+1<=m):mC b m c:=h.T (mC.one d hx) hm
end lX
namespace kj
def xO(k:Int):Int:=if(k==3)||(k==6)||(k==9)then 1 else 0
end kj
namespace Go.Proofs.YtfemcncookpdhaaGreatDoor.C
open Go.RowKit Go.Proofs.Tryz
theorem yR:prog.underlying 59=some (.struct (prog.fieldsOf 59)):=PL
theorem E6:prog.stoodInHeld 59=false:=PL
def Nz(z:Nat):Prop:=z<18446744073709551616
def sB:List Nat:=[2,1,0,2,5,3,0,2,34,7,5,1,0,7,0,0,0]
theorem I2:Lib.itoa 17=[49,55]:=by unfold Lib.itoa;rw[Od PM,show(17:Int).toNat=17 from rfl,Lib.decDigits,dif_neg PM,show 17/10=1 from rfl,Lib.decDigits,dif_pos PM];rfl
theorem I3:Lib.itoa (-4)=[45,52]:=by unfold Lib.itoa;rw[Oj PM,show(-4:Int).natAbs=4 from rfl,Lib.decDigits,dif_pos PM];rfl
end Go.Proofs.YtfemcncookpdhaaGreatDoor.C
namespace Go.Proofs.YtfemcncookpdhaaGreatDoor.C
open Go.RowKit Go.Shelf Go.Sort Go.Proofs.Tryz
theorem JI:prog.globalNamed "internal/strconv.uint64pow10" =some 2:=PL
def Low(B:Nat):Prop:=0<B/\2<B
end Go.Proofs.YtfemcncookpdhaaGreatDoor.C
namespace Go.Proofs.YtfemcncookpdhaaGreatDoor.C
open Go.ChangeShapes Go.WideShapes Go.ChangeAt Go.RowKit Go.Proofs.Tryz
theorem Gl:prog.globalNamed "rootcause/choice.words" =some 0:=PL
theorem Kq:(prog.globals[0]?).map (·.type)=some 249:=PL
theorem Mi:(prog.globals[2]?).map (·.type)=some 321:=PL
theorem zv:prog.cellsOf 9=1:=PL
theorem Kr:prog.cellsOf 138=1:=PL
theorem Dl:prog.cellsOf 249=10:=PL
theorem Hj:prog.cellsOf 321=20:=PL
theorem Fk:prog.underlying 321=some (.array 20 138):=PL
theorem Hk:(Rows.laid_internal_strconv_uint64pow10:DataW Unit)=Lib.tabData .u64 Lib.pow10Tab:=PL
end Go.Proofs.YtfemcncookpdhaaGreatDoor.C
namespace Go.Proofs.YtfemcncookpdhaaGreatDoor.choiceFits
open Go.ChangeShapes Go.WideShapes Go.ChangeAt Go.RowKit Go.Clock C Go.Proofs.Tryz
theorem laidOut:laidOutB prog=true:=by kernel_rfl
end Go.Proofs.YtfemcncookpdhaaGreatDoor.choiceFits
