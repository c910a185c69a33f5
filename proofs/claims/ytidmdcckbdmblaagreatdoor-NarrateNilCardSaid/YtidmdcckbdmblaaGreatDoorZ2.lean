import Derived.Test.YtidmdcckbdmblaaGreatDoorZ1
set_option maxRecDepth 1000000
set_option maxHeartbeats 32000000
set_option linter.all false
namespace Go.Proofs.YtidmdcckbdmblaaGreatDoor
open Go.RowKit Go.Proofs.Tryz
theorem jD.snoc{a:Type}{R:List Value->a->Prop}{r}{x:a}(hr:R r x):∀{b:List (List Value)} {xs:List a},jD R b xs->jD R (b++[r]) (xs++[x])
 |[],[],_=>⟨hr,trivial⟩
 |_::_,_::_,⟨h1,h2⟩=>⟨h1,jD.snoc hr h2⟩
 |[],_::_,h=>h.elim
 |_::_,[],h=>h.elim
theorem jx.sl{d:Type}{R:Rel d}{T k:Nat}(ok:jI R k){P w}{lo:Nat}{v}{xs:List d}(h:jx R T k P w lo v xs):jc R (λb=>(P b\/lo<=b)/\b<w) w v xs:=by
 obtain⟨e,f,m⟩:=h.own;have i:=m.imp λr x hx=>ok.M hx (T:=λb=>(P b\/lo<=b)/\b<w) λb a=>⟨.inl a.1,a.2.1⟩
 rcases f.2 with⟨rfl,j⟩|⟨g,n,s,rfl,a,l,hc,hm,t,p⟩
 refine⟨none,0,e,by rw[j],LC,LC,λq=>?_,i⟩;have:=f.1;rw[j,Lz]at this;exact absurd (KA this) q;refine⟨_,n,e,rfl,hc,hm,λ_=>⟨g,0,rfl,⟨.inr a,(JJ.1 l).1⟩,λy u c=>?_⟩,i⟩;rw[J4];rw[<-p,K5]at c;split at c;simp only[World.cell?,l];simpa using c;cases c
theorem jx.snoc{f:Type}{R:Rel f}{T k:Nat}(ok:jI R k){P:Nat->Prop}{w g:World}{lo:Nat}{v d:Value}{xs:List f}{i:List (List Value)}{r:List Value}{x:f}{o:Obj}
  (l:jD (R (λb=>P b/\b<w/\some b≠v.ownBlock) w) i xs) (hx:R (λb=>P b/\b<w/\some b≠v.ownBlock) w r x)
  (m:g.ownsRow lo T k d (xs.length+1) (i.flatten++r)) (j:(w.alloc o).grownBy g v.ownBlock) (a:d.ownBlock=v.ownBlock\/d.ownBlock=some (w.heap.size+1)):jx R T k P g lo d (xs++[x]):=by
 have n:=j.size;rw[JN]at n;refine⟨i++[r],?_,?_⟩
 .rw[JU];simpa using m
 .refine(jD.snoc hx l).imp λr x hx=>ok.M (ok.iV hx λb c=>?_) λb c=>⟨c.1,LC,λe=>?_⟩
  exact(j.B b (by rw[JN];omega) (λe=>c.2.2 e)).T (JY w o c.2.1);rcases a with a|a;exact c.2.2 (e.T a);rw[a]at e;injection e with e;omega
end Go.Proofs.YtidmdcckbdmblaaGreatDoor
namespace Go.Proofs.YtidmdcckbdmblaaGreatDoor
open Go.RowKit jJ Go.Proofs.Tryz
theorem jc.tail{f:Type}{R:Rel f}(ok:jI R 1){l w g}{c:Nat}{x:f}{xs:List f}(h:jc R l w (.slice g (xs.length+1) c) (x::xs)):
  jc R l w (.slice (if c=1 then g else Option.map (λx=>x.add 1) g) xs.length (c-1)) xs:=by
 obtain⟨y,z,n,a,p,A,q,d⟩:=h;injection a with a _ s;subst a s;cases n with
 |nil=>exact d.elim
 |cons r m=>
  have i:=ok.len d.1;have B:xs.length+1<=c:=(by simpa using p);refine⟨_,c-1,m,rfl,LC,LC,λt=>?_,d.2⟩;have C:0<xs.length:=by have D:=jD.flat (k:=1) (λr x h=>ok.len h) d.2;have:0<m.flatten.length:=List.length_pos_iff.2 t;omega
  obtain⟨b,o,rfl,v,hc⟩:=q (by rw[KP];intro e;have:=Km List.length e;rw[JU,i]at this;simp at this);refine⟨b,o+1,?_,v,λj u hu=>?_⟩;rw[Ka LC];have a:(⟨b,o,none⟩:Addr).add 1=⟨b,o+1,none⟩:=rfl;simp[a];rw[show o+1+j=o+(j+1) from LC];refine hc (j+1) u ?_;rw[KP,KF (by rw[i];omega),i,Nat.add_sub_cancel];exact hu
theorem lM(w:World)(row:Option Nat):w.grownBy w row:=World.grownBy.refl w row
theorem jA{w:World}{b:Nat}{a v1 v2 c:Value}{t:TypeId}(h:w.heap[b]?=some (.cells #[a,v1,v2,c] t (0,0))):
  (w.cell? ⟨b,0,none⟩=some a/\w.cell? ⟨b,1,none⟩=some v1/\w.cell? ⟨b,2,none⟩=some v2/\w.cell? ⟨b,3,none⟩=some c)/\(w.frozen? ⟨b,0,none⟩=false/\w.frozen? ⟨b,1,none⟩=false/\w.frozen? ⟨b,2,none⟩=false/\w.frozen? ⟨b,3,none⟩=false):=
 ⟨⟨iT h 0 _ rfl,iT h 1 _ rfl,iT h 2 _ rfl,iT h 3 _ rfl⟩,⟨iY h 0,iY h 1,iY h 2,iY h 3⟩⟩
theorem ue.start{c}{a:Nat}{sc}{left:Nat}{w}(h:mg c w a sc left)(T d):ue c a sc left T d w (w.alloc (.cells d T)):=
 ⟨JK w _,h.iU (Ba w _),Kd w _ (some a),h.lt,λb e=>(h.jY b e).2⟩
theorem kU{w:World}{b:Nat}{a v1 v2 c v4 d:Value}{t:TypeId}(h:w.heap[b]?=some (.cells #[a,v1,v2,c,v4,d] t (0,0))):
  (w.cell? ⟨b,0,none⟩=some a/\w.cell? ⟨b,1,none⟩=some v1/\w.cell? ⟨b,2,none⟩=some v2/\w.cell? ⟨b,3,none⟩=some c/\w.cell? ⟨b,4,none⟩=some v4/\w.cell? ⟨b,5,none⟩=some d)/\(w.frozen? ⟨b,0,none⟩=false/\w.frozen? ⟨b,1,none⟩=false/\w.frozen? ⟨b,2,none⟩=false/\w.frozen? ⟨b,3,none⟩=false/\w.frozen? ⟨b,4,none⟩=false/\w.frozen? ⟨b,5,none⟩=false):=
 ⟨⟨iT h 0 _ rfl,iT h 1 _ rfl,iT h 2 _ rfl,iT h 3 _ rfl,iT h 4 _ rfl,iT h 5 _ rfl⟩,⟨iY h 0,iY h 1,iY h 2,iY h 3,iY h 4,iY h 5⟩⟩
def uh(w0:World)(f:Nat->Value)(n:Nat)(v:Value)(w:World):Prop:=∃b o c,v=.slice (some ⟨b,o,none⟩) n c/\New w0 w b/\∀a,a<n->w.cell? ⟨b,o+a,none⟩=some (f a)
theorem uh.pw{w0}{d:Nat}(k:d<w0.heap.size){f}{n:Nat}{v w w'}(g:Good d w0.heap.size w w')(h:uh w0 f n v w):uh w0 f n v w':=by obtain⟨b,o,c,e,a,hc⟩:=h;exact⟨b,o,c,e,⟨a.1,JI a.2 g.1⟩,λi j=>(Cb b (o+i) (g.2 b a.2 (LA a.1) (LA a.1))).T (hc i j)⟩
theorem uh.ng{w0 f}{n:Nat}{v w w'}(d:NG w0 w w')(h:uh w0 f n v w):uh w0 f n v w':=by obtain⟨b,o,c,e,a,hc⟩:=h;exact⟨b,o,c,e,⟨a.1,JI a.2 d.1⟩,λg i=>(Cb b (o+g) (d.2 b a)).T (hc g i)⟩
theorem mF{c:Type}{R:Rel c}{k:Nat}(ok:jI R k){w0 w w' v}{xs:List c}(d:NK w0 w w')(h:jc R (Nw w0 w) w v xs):jc R (Nw w0 w') w' v xs:=
 (h.iV ok λb a=>d.2 b a).M ok λb a=>⟨a.1,JI a.2 d.1⟩
theorem lj.start{b:Type}{R:Rel b}{T k:Nat}{P a wr}{o:Nat}{C d V}{xs:List b}(g:a.grownBy wr (some o))(c:wr.heap[o]?=some (.cells C d (0,0)))(own:jx R T k P wr a.heap.size V xs)(lt:o<a.heap.size):lj R T k P a wr o C d V xs wr:=
 ⟨g,c,own,JS _,own.ge,lt,g.size,λ_ _ _ _=>rfl⟩
theorem ki.open{q:IntKind}{d:Nat}{a w r e}(h:ki q d a w r e):∃d' v,d=d'+1/\r=[.int q e.op,tx e.name,.int .i64 e.n,v]/\jc (ki q d') a w v e.args:=by
 cases d with
 |zero=>exact h.elim
 |succ d=>obtain⟨v,b,c⟩:=h;exact⟨d,v,rfl,b,c⟩
theorem jH.open{q:IntKind}{d:Nat}{a w r s}(h:jH q d a w r s):∃d' v1 v2 b,d=d'+1/\r=[.int q s.kind,tx s.name,tx s.hd,v1,v2,b]/\jc (ki q De) a w v1 s.jy/\jc (jH q d') a w v2 s.th/\jc (jH q d') a w b s.el:=by
 cases d with
 |zero=>exact h.elim
 |succ d=>obtain⟨v1,v2,b,c,e⟩:=h;exact⟨d,v1,v2,b,rfl,c,e⟩
theorem KG.start{a}{o:Nat}{C b}(h:a.heap[o]?=some (.cells C b (0,0))):KG a o C b a:=⟨lM _ _,h,(JJ.1 h).1⟩
theorem pT:(prog.info? 439).map (·.size)=some lS.size:=LF
theorem oN:prog.underlying 439=some (.array 39 9):=LF
theorem lD(n:Int)(w):Calls prog 263 #[.int .u8 n] w λe w'=>e=.returned (.bool (jg.jS n))/\w=w':=by
 by_cases a:97<=n<;>by_cases b:n<=122<;>by_cases c:65<=n<;>by_cases d:n<=90;all_goals
  first
  |omega
  |(go_enter func263,ntmps263;go_wp2;go_ret;exact⟨by simp[jg.jS,a,b,c,d],rfl⟩)
def wD(g:FuncId):Prop:=∀(a:Nat->Prop) (w:World) (b o d:Nat) (e:Ex) (r:List Value),jV w->At w b o r->ki .u8 d a w r e->kB d e->b<w->(∀q,a q->q<w)->Calls prog g #[.pointer (some ⟨b,o,none⟩)] w (jf (.bool true) w)
theorem oJ(d w b)(n c:Nat)(xs)(name:List UInt8)(j:jc kY d w (.slice b n c) xs)(k:n<=1000)(hS:∀q,d q->q<w):
  Calls prog 231 #[.slice b n c,tx name] w (jf (.bool (lN xs name)) w):=by
 have x:∀(fn:Fn) (first cap:Array Value) (w:World),(Instr.makeFunc fn first cap).run prog w=.ok (.func fn first cap) w:=λ_ _ _ _=>rfl;have g:Below w w (w.alloc (.cells #[tx name] 9)):=Ba _ _;have l:=j.iV kY.ok (λq a=>g.B q (hS q a));have m:=JK w (.cells #[tx name] 9);have y:(w.alloc (.cells #[tx name] 9)).heap.size=w+1:=LG
 have p:=(xz d _ b n c xs name w l k (λq a=>LA (hS q a)) (iT m 0 _ rfl) LC)
 have s:Calls prog 278 #[.slice b n c,.func (.func 279) #[] #[.pointer (some ⟨w,0,none⟩)]] (w.alloc (.cells #[tx name] 9)) (jf (.bool (lN xs name)) w):=by
  go_enter func278,ntmps278
  go_wp2_with fail;refine p.M ?_;rintro e t ⟨r,rfl,u,v,f⟩;have i:=(g.T (f.M LC))
  cases a:lN xs name
  .have hr:=v a;subst hr;go_wp2_with fail;go_ret;exact⟨by rw[a];rfl,i⟩
  have hr:=u a;have hd:decide ((0:Int)<=r)=true:=(by rw[decide_eq_true_iff];exact hr);go_wp2_with fail;go_ret;exact⟨by rw[a];rfl,i⟩
 go_enter func231,ntmps231
 go_wp2_with fail;refine s.M ?_;rintro e t ⟨rfl,f⟩;go_wp2_with fail;go_ret;exact⟨rfl,f⟩
theorem pk(a b c)(t:Int)(name w):Calls prog 328 #[.agg #[a,b,c],.int .u8 t,tx name,.int .i64 0] w (jf (.tuple #[.int .u8 t,Em,.int .i64 0]) w):=by
 go_enter func328,ntmps328
 go_wp2;refine JZ (v:=.tuple #[.int .u8 t,Em,.int .i64 0]) ?_ rfl ⟨rfl,Ba _ _⟩;simp[results,Tryz.results328,go_sem]
def yi(n:Nat)(u:Int):Int:=if n=0 then 0 else u
def qb(cb:Nat)(a b c d:Value)(w:World):Prop:=∃e:ByteArray,w.heap[cb]?=some (.cells #[a,b,c,d,.string e,Em,Em,.int .i64 0] 312 (0,0))
theorem qb.lt{cb:Nat}{a b c d w}(h:qb cb a b c d w):cb<w:=by obtain⟨e,h⟩:=h;exact(JJ.1 h).1
theorem qb.iV{cb:Nat}{a b c d w w'}(h:qb cb a b c d w)(e:w'.heap[cb]?=w.heap[cb]?):qb cb a b c d w':=by obtain⟨f,h⟩:=h;exact⟨f,e.T h⟩
theorem qb.iU{cb B:Nat}{a b c d w w'}(h:qb cb a b c d w)(e:Below B w w')(f:cb<B):qb cb a b c d w':=h.iV (e.B cb f)
theorem pQ{w:World}{b:Nat}{a v1 v2 c v4 d e f g:Value}{t:TypeId}(h:w.heap[b]?=some (.cells #[a,v1,v2,c,v4,d,e,f,g] t (0,0))):
  w.cell? ⟨b,0,none⟩=some a/\w.cell? ⟨b,1,none⟩=some v1/\w.cell? ⟨b,2,none⟩=some v2/\w.cell? ⟨b,3,none⟩=some c/\w.cell? ⟨b,4,none⟩=some v4/\w.cell? ⟨b,5,none⟩=some d/\w.cell? ⟨b,6,none⟩=some e/\w.cell? ⟨b,7,none⟩=some f/\w.cell? ⟨b,8,none⟩=some g:=
 ⟨iT h 0 _ rfl,iT h 1 _ rfl,iT h 2 _ rfl,iT h 3 _ rfl,iT h 4 _ rfl,iT h 5 _ rfl,iT h 6 _ rfl,iT h 7 _ rfl,iT h 8 _ rfl⟩
def vE(w:World)(e:Ending)(w':World):Prop:=e=.returned (.tuple #[])/\Below w w w'
def CS(w:World)(e:Ending)(w':World):Prop:=∃(a:Option Addr) (n c:Nat),e=.returned (.slice a n c)/\Below w w w'
theorem ui:(315:TypeId)≠316:=LD
def oK{a:Type}(R:Rel a)(n:Nat)(xs:List a)(w:World)(e:Ending)(w':World):Prop:=e=.returned (.slice (some ⟨w,0,none⟩) n n)/\jc R (Nw w w') w' (.slice (some ⟨w,0,none⟩) n n) xs/\Below w w w'
theorem BJ:kv 177:=λ_ _=>LF
abbrev pC:Array Value:=#[.int .u8 0,.int .u8 0,.int .u8 0,.int .u8 0,.int .u8 0,.int .u8 0,.int .u8 0,.int .u8 0,.int .u8 0,.int .u8 0,.int .u8 0,.int .u8 0,.int .u8 0,.int .u8 0,.int .u8 0,.int .u8 0,.int .u8 0,.int .u8 0,.int .u8 0,.int .u8 0,.int .u8 0,.int .u8 0,.int .u8 0,.int .u8 0,.int .u8 0,.int .u8 0,.int .u8 0,.int .u8 0,.int .u8 0,.int .u8 0,.int .u8 0,.int .u8 0]
theorem zero32:(pC:Array Value)=Array.replicate 32 (.int .u8 0):=LF
end Go.Proofs.YtidmdcckbdmblaaGreatDoor
namespace jJ
theorem AX.snoc{sc a hs h}(c:AX sc a hs)(d:Ek sc a hs.length h):AX sc a (hs++[h]):=λk x hx=>by
 rcases Nat.lt_or_ge k hs.length with b|b;rw[List.getElem?_append_left b]at hx;exact c k x hx;rw[List.getElem?_append_right b]at hx;obtain⟨rfl⟩:k=hs.length:=by rcases Nat.lt_or_ge (k-hs.length) 1 with h|h;omega;rw[List.getElem?_eq_none (by simpa using h)]at hx;cases hx
 rw[Nat.sub_self]at hx;simp at hx;rw[<-hx];exact d
theorem uo{i a:Nat}(hi:i<26)(b:a<26)(h:kW i=kW a):i=a:=by unfold kW at h;injection h with h;have:=congrArg UInt8.toNat h;simp at this;omega
theorem lQ.skip{n m:Nat}{a}(h:lQ n m a):lQ n (m+1) a:=⟨λx hx=>by obtain⟨k,b,h⟩:=h.1 x hx;exact⟨k,LC,h⟩,h.2⟩
def qB(d:Nat)(l:List St)(k:Nat):Nat:=l.length+((l.take k).map λs=>jw d s.th+jw d s.el).sum
theorem uv(d:Nat){l}{k:Nat}{x}(h:l[k]?=some x):qB d l (k+1)=qB d l k+(jw d x.th+jw d x.el):=by simp only[qB,List.take_add_one,h,Option.toList_some,List.map_append,List.sum_append,List.map_cons,List.map_nil,List.sum_cons,List.sum_nil];omega
theorem Bk(d:Nat)(l):∀(k a:Nat),k<=a->qB d l k<=qB d l a
 |k,a,h=>by
  induction a with
  |zero=>obtain rfl:k=0:=LC;exact Nat.le_refl _
  |succ a b=>
   by_cases e:k=a+1;rw[e];exact Nat.le_refl _;refine Nat.le_trans (b LC) ?_;cases hx:l[a]? with
   |none=>have:l.length<=a:=(by rw[List.getElem?_eq_none_iff]at hx;exact hx);simp only[qB,List.take_of_length_le this,List.take_of_length_le (Nat.le_succ_of_le this)];exact Nat.le_refl _
   |some x=>rw[uv d hx];omega
def mZ:Nat->Nat|0=>0|d+1=>2*mZ d+1
def In.put(x:In)(c:Nat)(t:Int):In:=if c=1 then{x with a:=t}else{x with b:=t}
theorem mz.Im{x:In}{n m:Nat}(h:mz n x)(hm:n<=m){t:Int}(a:0<=t)(b:t<=m):mz m (x.put 1 t):=by refine⟨h.1,h.2.1,λ_=>⟨a,b⟩,λk=>?_⟩;have:=h.2.2.2 k;show 0<=x.b/\x.b<=m;omega
theorem mz.Io{x:In}{n m:Nat}(h:mz n x)(hm:n<=m){t:Int}(a:0<=t)(b:t<=m):mz m (x.put 2 t):=by refine⟨h.1,h.2.1,λk=>?_,λ_=>⟨a,b⟩⟩;have:=h.2.2.1 k;show 0<=x.a/\x.a<=m;omega
def qz(sc:Sc)(d:Nat)(e:Ex)(t:Int):Prop:=(t=1/\kG sc d e)\/(t=2/\1<=sc.ints/\mf sc d e)
theorem qz.num{sc}{d:Nat}{e}(h:kG sc d e):qz sc d e 1:=.inl ⟨rfl,h⟩
theorem qz.Eg{sc}{d:Nat}{e}(hi:1<=sc.ints)(h:mf sc d e):qz sc d e 2:=.inr ⟨rfl,hi,h⟩
def CE:List (Int×Int×Int):=[(9,1,1),(10,2,2),(11,1,1),(12,1,1),(13,1,1),(14,1,1),(15,1,1),(16,1,2),(17,1,2),(18,1,2),(19,1,2),(20,1,2),(21,1,2),(22,2,2),(23,2,2)]
end jJ
namespace Go.Proofs.YtidmdcckbdmblaaGreatDoor
open Go.RowKit jJ Go.Proofs.Tryz
theorem qc.snoc{k:Nat}{a}(h:qc k a)(q):qc (k+1) (a++[⟨nm 102 k,q⟩]):=by
 refine⟨by simp[h.1],λb x hx=>?_⟩;rcases Lv b a.length with c|c;rw[Ku c]at hx;exact h.2 b x hx;have d:=(J6.1 hx).1;simp at d;have e:b=a.length:=LC
 subst e;rw[KF (JS _),Nat.sub_self]at hx;simp at hx;rw[<-hx,h.1]
theorem ot.snoc{a b c:List In}{n m:Nat}(h:ot a n b){x:In}(hx:ko x)(d:c=b++[x])(hm:n+1<=m):ot a m c:=by obtain⟨l,rfl,f,hp⟩:=h;refine⟨l++[x],by rw[d,Kh],LJ,λe hy=>?_⟩;rcases List.mem_append.1 hy with hy|hy;exact hp e hy;simp at hy;subst hy;exact hx
inductive H7 (sc:Sc) (d:Nat) (e:Ex) (t:Int):Prop where
 |num (h:e.op=1\/e.op=4) (ht:t=1) (ha:e.args=[])
 |Eg (h:e.op=2\/e.op=3) (ht:t=2) (ha:e.args=[])
 |name (h:e.op=5) (hn:vw sc e.name t) (ha:e.args=[])
 |size (h:e.op=8) (ht:t=1) (hs:sc.kg=1) (hn:e.name=nm 116 0) (ha:e.args=[])
 |get (h:(e.op=6/\t=1)\/(e.op=7/\t=2)) (hs:sc.kg=1) (hn:e.name=nm 116 0) (hl:0<e.args.length) (h2:e.args.length<=2) (ha:∀a∈e.args,qz sc d a 1)
 |ops (u:Int) (h:(e.op,u,t)∈CE) (hl:0<e.args.length) (h2:e.args.length<=2) (ha:∀a∈e.args,qz sc d a u)
def FN(d:Nat):Prop:=∀(b:Nat->Prop) (w:World) (q:List Fg) (r:List Va) (s:List (List UInt8)) (sc:Sc) (e:Option Addr) (f g:Nat) (i:Option Addr) (j cv:Nat) (k:Option Addr) (l n:Nat) (p:Option Addr) (m c:Nat) (args:List Ex) (u:Int),oC b w q r s sc e f g i j cv k l n->jc (ki .u8 d) b w (.slice p m c) args->m<=2->(∀a∈args,qz sc d a u)->
 Calls prog 326 #[.agg #[.slice e f g,.slice i j cv,.slice k l n],.slice p m c] w (jf (.tuple #[.int .u8 (yi m u),Em,.int .i64 0]) w)
def FO(d:Nat):Prop:=∀(a:Nat->Prop) (w:World) (q:List Fg) (r:List Va) (s:List (List UInt8)) (sc:Sc) (b:Option Addr) (e f:Nat) (g:Option Addr) (i cv:Nat) (j:Option Addr) (k l:Nat) (p:Option Addr) (m c:Nat) (op n:Int) (name:List UInt8) (args:List Ex) (t:Int),oC a w q r s sc b e f g i cv j k l->jc (ki .u8 d) a w (.slice p m c) args->qz sc (d+1) (.mk op name n args) t->
 Calls prog 318 #[.agg #[.slice b e f,.slice g i cv,.slice j k l],.agg #[.int .u8 op,tx name,n,.slice p m c]] w (jf (.tuple #[.int .u8 t,Em,.int .i64 0]) w)
theorem pV(cb:Nat)(a b c d w name)(h:qb cb a b c d w):Calls prog 166 #[.pointer (some ⟨cb,0,none⟩),.int .i64 0,.string name] w λe w'=>e=.returned (.bool true)/\w=w':=by
 obtain⟨f,h⟩:=h;have g:=iT h 7 _ rfl
 go_enter func166,ntmps166
 go_wp2;go_ret;exact⟨rfl,rfl⟩
theorem ke(cb:Nat)(a b c d w)(f:Int)(name)(h:qb cb a b c d w):Calls prog 230 #[.pointer (some ⟨cb,0,none⟩),.bool true,f,.string name] w λe w'=>e=.returned (.bool true)/\w=w':=by
 have H:=(pV cb a b c d w name h)
 go_enter func230,ntmps230
 go_wp2_with fail;refine H.M ?_;rintro e g ⟨rfl,rfl⟩;go_wp2_with fail;go_ret;exact⟨rfl,rfl⟩
structure ld(X:Nat->Prop)(w w':World):Prop where
 os:w'.os=w.os
 tape:w'.tape=w.tape
 output:w'.output=w.output
 size:w.heap.size<=w'
 B:∀k,k<w.heap.size->¬X k->w'.heap[k]?=w.heap[k]?
theorem ld.refl(X w):ld X w w:=⟨rfl,rfl,rfl,JS _,λ_ _ _=>rfl⟩
theorem ld.T{X a b c}(h:ld X a b)(k:ld X b c):ld X a c:=
 ⟨k.os.T h.os,k.tape.T h.tape,k.output.T h.output,J9 h.size k.size,λi hi hx=>(k.B i (JI hi h.size) hx).T (h.B i hi hx)⟩
theorem ld.grown{X w w'}{q:Nat}(h:w.grownBy w' (some q))(a:X q):ld X w w':=⟨h.os,h.tape,h.output,h.size,λk b hx=>h.B k b (by intro e;injection e with e;exact hx (e▸a))⟩
theorem ld.M{X a w w'}(h:ld X w w')(hx:∀k,X k->a k):ld a w w':=⟨h.os,h.tape,h.output,h.size,λk b hy=>h.B k b λc=>hy (hx k c)⟩
def vx(cb:Nat)(a b c d:Value)(w:World)(e:Ending)(w':World):Prop:=e=.returned (.tuple #[])/\qb cb a b c d w'/\ld (λq=>q=cb) w w'
theorem sk{w:World}{b o i:Nat}{v u:Value}{T c:TypeId}(h:w.heap[b]?=some (.cells #[v] T (0,0)))(a:∃c1 c2 c3:Value,w.heap[o]?=some (.cells #[c1,c2,c3] c (0,0))):(w.setCell ⟨o,i,none⟩ u).heap[b]?=some (.cells #[v] T (0,0)):=by refine(J0 _ _ _ _ ?_).T h;intro e;obtain⟨c1,c2,c3,a⟩:=a;have d:b=o:=e;rw[<-d,h]at a;injection a with a;injection a with a;have:=Km Array.size a;simp at this
theorem jc.solo{a:Type}{R:Rel a}{k:Nat}(ok:jI R k){c w}{b:Nat}{v T}{x:a}(e:w.heap[b]?=some (.cells #[v] T (0,0)))(hr:R c w [v] x):jc R (λq=>c q\/q=b) w (.slice (some ⟨b,0,none⟩) 1 1) [x]:=by
 refine⟨some ⟨b,0,none⟩,1,[[v]],rfl,LG,LC,λ_=>⟨b,0,rfl,.inr rfl,λd u hu=>?_⟩,⟨ok.M hr λq f=>.inl f,trivial⟩⟩;have g: #[v][d]?=some u:=by simpa using hu
 rw[J4];exact iT e d u g
theorem EI(n:List UInt8)(name v1 v2)(i:v1.oneCell'=true)(j:v2.oneCell'=true)(b)(c c1:Nat)(d)(e c2:Nat)(f:v1=.slice b c c1)(g:v2=.slice d e c2)(a:Nat)(w)(hn:w.cell? ⟨a,1,none⟩=some (tx name))(k:a<w.heap.size):
  Calls prog 300 #[.agg #[tx n,v1,v2],.pointer (some ⟨a,0,none⟩)] w (jf (.bool (n==name)) w):=by
 subst f g;have l:=kP n;have m:=kP name
 go_enter func300,ntmps300
 go_wp2;go_ret;exact⟨rfl,Ba _ _⟩
theorem JA:mZ De=63:=rfl
def kT(T:TypeId)(w:World)(b n:Nat):Prop:=∃a:Array Value,w.heap[b]?=some (.cells a T (0,0))/\a.size=n/\∀u∈a.toList,u.oneCell'=true
theorem kT.cells{T w}{b n:Nat}(h:kT T w b n):∃l:List Value,l.length=n/\(∀u∈l,u.oneCell'=true)/\∀a u,l[a]?=some u->w.cell? ⟨b,a,none⟩=some u:=by obtain⟨c,d,e,f⟩:=h;exact⟨c.toList,by simpa using e,f,λa u hu=>iT d a u (by simpa using hu)⟩
theorem sr(z)(n:Nat)(hz:0<z.size):∀u∈(madeCells z n).toList,u∈z.toList:=by intro u hu;simp only[madeCells,Array.toList_map,Ld]at hu;obtain⟨i,_,rfl⟩:=hu;have a:i % z.size<z.size:=Nat.mod_lt _ hz;rw[getElem!_pos z (i % z.size) a];simp
theorem za{w}{b n:Nat}(h:w.heap[b]?=some (.cells (madeCells #[.int .i64 0,.int .i64 0,Nl] (n*3)) 318 (0,0))):kT 318 w b (n*3):=⟨_,h,Lj _ _,λu hu=>by have:=sr _ _ LD u hu;simp at this;rcases this with rfl|rfl<;>rfl⟩
theorem zb{w}{b n:Nat}(h:w.heap[b]?=some (.cells (madeCells #[.bool false] n) 4 (0,0))):kT 4 w b n:=⟨_,h,Lj _ _,λu hu=>by have:=sr _ _ LD u hu;simp at this;subst this;rfl⟩
def H0(a cb:Nat)(C:Array Value)(b:ByteArray)(B:Nat)(wr x:World):Prop:=
 Below B wr x/\x.heap[cb]?=some (.cells (C++ #[.string b,Em,Em,.int .i64 0]) 312 (0,0))/\x.heap[a]?=some (.cells #[Em,Em,.int .i64 0] 233 (0,0))
def rJ(o:Obj):Prop:=∀a b,o≠.cells a 5 b
theorem jT{a T b}(h:T≠5):rJ (.cells a T b):=λ_ _ e=>by injection e with _ e _;exact h e
def Ad(a:Nat->Prop)(B b:Nat)(w:World):Prop:=∀q,a q->q<w/\q≠b/\(q<B\/∃o,w.heap[q]?=some o/\rJ o)
def FH(B:Nat):Prop:=9<B/\14<B/\10<B
end Go.Proofs.YtidmdcckbdmblaaGreatDoor
namespace jg
def syms:List (List UInt8):=[[46,46],[61,61],[33,61],[60,61],[62,61],[45,62],[123],[125],[40],[41],[91],[93],[44],[59],[58],[46],[61],[60],[62],[43],[45],[42],[47],[37],[95]]
theorem nP(s:ByteArray)(k:Nat):(s.extract k s.size).data.toList=s.data.toList.drop k:=by rw[ByteArray.data_extract,Array.toList_extract,List.extract_eq_take_drop];apply List.take_of_length_le;simp
theorem Bc(s:ByteArray)(k:Nat):(s.extract 0 k).data.toList=s.data.toList.take k:=by rw[ByteArray.data_extract,Array.toList_extract,List.extract_eq_take_drop];simp
theorem ml(s:ByteArray)(h:0<s.size):s.data.toList.headD 0=s[0]:=by
 have a:0<s.data.toList.length:=by simpa using h
 rw[List.headD_eq_head?_getD,List.head?_eq_getElem?,List.getElem?_eq_getElem a,Option.getD_some];rfl
theorem DF:∀x∈syms,1<=x.length/\x.length<=2:=LD
end jg
namespace Go.Proofs
open Go.Shelf
open Go.RowKit in
open Go.RowKit in
open Go.RowKit in
def Tryz.rk:Go.Shelf.Ren:=⟨fun|156=>54|165=>103|166=>44|169=>46|240=>92|241=>151|276=>135|277=>207|n=>n,fun|31=>126|9=>9|3=>3|4=>4|0=>0|20=>20|72=>111|76=>114|70=>109|37=>22|75=>113|127=>212|164=>281|5=>5|80=>102|n=>n,fun|n=>n⟩
theorem Tryz.Aw:Go.Proofs.Lays.n156 Tryz.prog Tryz.rk:={
 mixed:=by kernel_rfl
 f156:=Tryz.func54.trans (congrArg some (by kernel_rfl))
 f165:=Tryz.func103.trans (congrArg some (by kernel_rfl))
 f166:=Tryz.func44.trans (congrArg some (by kernel_rfl))
 f169:=Tryz.func46.trans (congrArg some (by kernel_rfl))
 f240:=Tryz.func92.trans (congrArg some (by kernel_rfl))
 f241:=Tryz.func151.trans (congrArg some (by kernel_rfl))
 f276:=Tryz.func135.trans (congrArg some (by kernel_rfl))
 f277:=Tryz.func207.trans (congrArg some (by kernel_rfl))
 t0:=Tryz.underlying0
 a0:=Tryz.isAgg0
 z0:=Tryz.sizeOf0
 v0:=Tryz.zeroValue0
 t3:=Tryz.underlying3
 a3:=Tryz.isAgg3
 z3:=Tryz.sizeOf3
 v3:=Tryz.zeroValue3
 t4:=Tryz.underlying4
 a4:=Tryz.isAgg4
 z4:=Tryz.sizeOf4
 v4:=Tryz.zeroValue4
 t9:=Tryz.underlying9
 a9:=Tryz.isAgg9
 z9:=Tryz.sizeOf9
 v9:=Tryz.zeroValue9
 t20:=Tryz.underlying20
 a20:=Tryz.isAgg20
 z20:=Tryz.sizeOf20
 v20:=Tryz.zeroValue20
 t31:=Tryz.underlying126
 a31:=Tryz.isAgg126
 z31:=Tryz.sizeOf126
 v31:=Tryz.zeroValue126
 t37:=Tryz.underlying22
 a37:=Tryz.isAgg22
 z37:=Tryz.sizeOf22
 v37:=Tryz.zeroValue22
 t70:=Tryz.underlying109
 a70:=Tryz.isAgg109
 z70:=Tryz.sizeOf109
 v70:=Tryz.zeroValue109
 t72:=Tryz.underlying111
 a72:=Tryz.isAgg111
 z72:=Tryz.sizeOf111
 v72:=Tryz.zeroValue111
 t75:=Tryz.underlying113
 a75:=Tryz.isAgg113
 z75:=Tryz.sizeOf113
 v75:=Tryz.zeroValue113
 t76:=Tryz.underlying114
 a76:=Tryz.isAgg114
 z76:=Tryz.sizeOf114
 v76:=Tryz.zeroValue114
 t127:=Tryz.underlying212
 a127:=Tryz.isAgg212
 z127:=Tryz.sizeOf212
 v127:=Tryz.zeroValue212
 t164:=Tryz.underlying281
 a164:=Tryz.isAgg281
 z164:=Tryz.sizeOf281
 v164:=Tryz.zeroValue281}
theorem Tryz.nj:Builder.Extra Tryz.prog Tryz.rk:={
 sizeBuilder:=by kernel_rfl
 liesBuilder:=by kernel_rfl
 t5:=Tryz.underlying5
 a5:=Tryz.isAgg5
 z5:=Tryz.sizeOf5
 v5:=Tryz.zeroValue5
 infoByte:=by kernel_rfl
 cellsByte:=by kernel_rfl
 sizeByte:=by kernel_rfl
 neB5:=by decide}
open Go.RowKit in
theorem Tryz.strings_Join_none(a:Option Addr)(c:Nat)(sep:ByteArray)(w:World):
 Calls Tryz.prog 54 #[.slice a 0 c,.string sep] w fun e w'=>e=.returned (.string ⟨#[]⟩)∧w'=w:=Any.strings_Join_none Tryz.Aw Tryz.nj a c sep w
open Go.RowKit in
theorem Tryz.strings_Join(bk o c:Nat)(xs:List ByteArray)(sep:ByteArray)(w:World)(F6:∀(j:Nat) x,xs[j]?=some x→w.cell? ⟨bk,o+j,none⟩=some (.string x))(Jx:bk<w.heap.size)(hN:xs.length≤140737488355328)(Iq:xs.length≤c)(hlen:(Lib.join (xs.map (·.data.toList)) sep.data.toList).length≤140737488355328):
 Calls Tryz.prog 54 #[.slice (some ⟨bk,o,none⟩) xs.length c,.string sep] w fun e w'=>e=.returned (.string ⟨(Lib.join (xs.map (·.data.toList)) sep.data.toList).toArray⟩)∧Below w.heap.size w w':=Any.strings_Join Tryz.Aw Tryz.nj bk o c xs sep w F6 Jx hN Iq hlen
def Tryz.xA:Go.Shelf.Ren:=⟨fun|121=>70|214=>126|n=>n,fun|4=>4|9=>9|n=>n,fun|n=>n⟩
theorem Tryz.Ez:Go.Proofs.Lays.n121 Tryz.prog Tryz.xA:={
 mixed:=by kernel_rfl
 f121:=Tryz.func70.trans (congrArg some (by kernel_rfl))
 f214:=Tryz.func126.trans (congrArg some (by kernel_rfl))
 t4:=Tryz.underlying4
 a4:=Tryz.isAgg4
 z4:=Tryz.sizeOf4
 v4:=Tryz.zeroValue4
 t9:=Tryz.underlying9
 a9:=Tryz.isAgg9
 z9:=Tryz.sizeOf9
 v9:=Tryz.zeroValue9}
open Go.RowKit in
theorem Tryz.strconv_FormatBool(b:Bool)(w:World):
 Calls Tryz.prog 70 #[.bool b] w fun e w'=>e=.returned (.string ⟨(Lib.formatBool b).toArray⟩)∧w'=w:=Any.strconv_FormatBool Tryz.Ez b w
def Tryz.xB:Go.Shelf.Ren:=⟨fun|122=>181|215=>244|n=>n,fun|3=>3|4=>4|n=>n,fun|n=>n⟩
theorem Tryz.EA:Go.Proofs.Lays.n122 Tryz.prog Tryz.xB:={
 mixed:=by kernel_rfl
 f122:=Tryz.func181.trans (congrArg some (by kernel_rfl))
 f215:=Tryz.func244.trans (congrArg some (by kernel_rfl))
 t3:=Tryz.underlying3
 a3:=Tryz.isAgg3
 z3:=Tryz.sizeOf3
 v3:=Tryz.zeroValue3
 t4:=Tryz.underlying4
 a4:=Tryz.isAgg4
 z4:=Tryz.sizeOf4
 v4:=Tryz.zeroValue4}
open Go.RowKit in
theorem Tryz.cmp_Compare_int(x y:Int)(w:World):
 Calls Tryz.prog 181 #[.int .i64 x,.int .i64 y] w fun e w'=>e=.returned (.int .i64 (Lib.compareInt x y))∧w'=w:=Any.cmp_Compare_int Tryz.EA x y w
def Tryz.vP:Go.Shelf.Ren:=⟨fun|171=>27|243=>73|246=>125|283=>185|284=>186|285=>187|286=>188|129=>248|317=>247|318=>249|319=>250|320=>251|337=>288|338=>289|n=>n,fun|3=>3|9=>9|2=>2|4=>4|171=>337|0=>0|53=>198|37=>22|5=>5|173=>340|212=>391|51=>326|20=>20|213=>392|46=>332|232=>166|233=>328|n=>n,fun|17=>4|18=>12|19=>13|n=>n⟩
theorem Tryz.Da:Go.Proofs.LaysM.n171 Tryz.prog Tryz.vP:={
 mixed:=by kernel_rfl
 f129:=Tryz.func248.trans (congrArg some (by kernel_rfl))
 f171:=Tryz.func27.trans (congrArg some (by kernel_rfl))
 f243:=Tryz.func73.trans (congrArg some (by kernel_rfl))
 f246:=Tryz.func125.trans (congrArg some (by kernel_rfl))
 f283:=Tryz.func185.trans (congrArg some (by kernel_rfl))
 f284:=Tryz.func186.trans (congrArg some (by kernel_rfl))
 f285:=Tryz.func187.trans (congrArg some (by kernel_rfl))
 f286:=Tryz.func188.trans (congrArg some (by kernel_rfl))
 f317:=Tryz.func247.trans (congrArg some (by kernel_rfl))
 f318:=Tryz.func249.trans (congrArg some (by kernel_rfl))
 f319:=Tryz.func250.trans (congrArg some (by kernel_rfl))
 f320:=Tryz.func251.trans (congrArg some (by kernel_rfl))
 f337:=Tryz.func288.trans (congrArg some (by kernel_rfl))
 f338:=Tryz.func289.trans (congrArg some (by kernel_rfl))
 t0:=Tryz.underlying0
 a0:=Tryz.isAgg0
 z0:=Tryz.sizeOf0
 v0:=Tryz.zeroValue0
 t2:=Tryz.underlying2
 a2:=Tryz.isAgg2
 z2:=Tryz.sizeOf2
 v2:=Tryz.zeroValue2
 t3:=Tryz.underlying3
 a3:=Tryz.isAgg3
 z3:=Tryz.sizeOf3
 v3:=Tryz.zeroValue3
 t4:=Tryz.underlying4
 a4:=Tryz.isAgg4
 z4:=Tryz.sizeOf4
 v4:=Tryz.zeroValue4
 t5:=Tryz.underlying5
 a5:=Tryz.isAgg5
 z5:=Tryz.sizeOf5
 v5:=Tryz.zeroValue5
 t9:=Tryz.underlying9
 a9:=Tryz.isAgg9
 z9:=Tryz.sizeOf9
 v9:=Tryz.zeroValue9
 t20:=Tryz.underlying20
 a20:=Tryz.isAgg20
 z20:=Tryz.sizeOf20
 v20:=Tryz.zeroValue20
 t37:=Tryz.underlying22
 a37:=Tryz.isAgg22
 z37:=Tryz.sizeOf22
 v37:=Tryz.zeroValue22
 t46:=Tryz.underlying332
 a46:=Tryz.isAgg332
 z46:=Tryz.sizeOf332
 v46:=Tryz.zeroValue332
 t51:=Tryz.underlying326
 a51:=Tryz.isAgg326
 z51:=Tryz.sizeOf326
 v51:=Tryz.zeroValue326
 t53:=Tryz.underlying198
 a53:=Tryz.isAgg198
 z53:=Tryz.sizeOf198
 v53:=Tryz.zeroValue198
 t171:=Tryz.underlying337
 a171:=Tryz.isAgg337
 z171:=Tryz.sizeOf337
 v171:=Tryz.zeroValue337
 t173:=Tryz.underlying340
 a173:=Tryz.isAgg340
 z173:=Tryz.sizeOf340
 v173:=Tryz.zeroValue340
 t212:=Tryz.underlying391
 a212:=Tryz.isAgg391
 z212:=Tryz.sizeOf391
 v212:=Tryz.zeroValue391
 t213:=Tryz.underlying392
 a213:=Tryz.isAgg392
 z213:=Tryz.sizeOf392
 t232:=Tryz.underlying166
 a232:=Tryz.isAgg166
 z232:=Tryz.sizeOf166
 v232:=Tryz.zeroValue166
 t233:=Tryz.underlying328
 a233:=Tryz.isAgg328
 z233:=Tryz.sizeOf328
 v233:=Tryz.zeroValue328
 g17:=by kernel_rfl
 g18:=by kernel_rfl
 g19:=by kernel_rfl
 i0:=by kernel_rfl
 i2:=by kernel_rfl
 i3:=by kernel_rfl
 i4:=by kernel_rfl
 i5:=by kernel_rfl
 i9:=by kernel_rfl
 i20:=by kernel_rfl
 i37:=by kernel_rfl
 i46:=by kernel_rfl
 i51:=by kernel_rfl
 i53:=by kernel_rfl
 i171:=by kernel_rfl
 i173:=by kernel_rfl
 i212:=by kernel_rfl
 i232:=by kernel_rfl
 i233:=by kernel_rfl
 m17:=by kernel_rfl
 m18:=by kernel_rfl
 m19:=by kernel_rfl}
open Go.RowKit Go.Sort Go.Lib in
theorem Tryz.strconv_Itoa(n:Int)(h0: -9223372036854775808≤n)(h1:n≤9223372036854775807)(w:World)(FP:Lib.TabIs Tryz.prog w "internal/strconv.uint64pow10" .u64 Lib.pow10Tab):
 Calls Tryz.prog 27 #[.int .i64 n] w fun e w'=>e=.returned (.string ⟨(Lib.itoa n).toArray⟩)∧∃k os,w'=grow (w.drewN k) os:=Any.strconv_Itoa Tryz.Da n h0 h1 w FP
def Tryz.xC:Go.Shelf.Ren:=⟨fun|171=>27|243=>73|246=>125|283=>185|284=>186|285=>187|286=>188|129=>248|317=>247|318=>249|319=>250|320=>251|337=>288|338=>289|n=>n,fun|3=>3|9=>9|2=>2|4=>4|171=>337|0=>0|53=>198|37=>22|5=>5|173=>340|212=>391|51=>326|20=>20|213=>392|46=>332|232=>166|233=>328|n=>n,fun|17=>4|18=>12|19=>13|n=>n⟩
theorem Tryz.EB:Go.Proofs.Lays.n171 Tryz.prog Tryz.xC:={
 mixed:=by kernel_rfl
 f129:=Tryz.func248.trans (congrArg some (by kernel_rfl))
 f171:=Tryz.func27.trans (congrArg some (by kernel_rfl))
 f243:=Tryz.func73.trans (congrArg some (by kernel_rfl))
 f246:=Tryz.func125.trans (congrArg some (by kernel_rfl))
 f283:=Tryz.func185.trans (congrArg some (by kernel_rfl))
 f284:=Tryz.func186.trans (congrArg some (by kernel_rfl))
 f285:=Tryz.func187.trans (congrArg some (by kernel_rfl))
 f286:=Tryz.func188.trans (congrArg some (by kernel_rfl))
 f317:=Tryz.func247.trans (congrArg some (by kernel_rfl))
 f318:=Tryz.func249.trans (congrArg some (by kernel_rfl))
 f319:=Tryz.func250.trans (congrArg some (by kernel_rfl))
 f320:=Tryz.func251.trans (congrArg some (by kernel_rfl))
 f337:=Tryz.func288.trans (congrArg some (by kernel_rfl))
 f338:=Tryz.func289.trans (congrArg some (by kernel_rfl))
 t0:=Tryz.underlying0
 a0:=Tryz.isAgg0
 z0:=Tryz.sizeOf0
 v0:=Tryz.zeroValue0
 t2:=Tryz.underlying2
 a2:=Tryz.isAgg2
 z2:=Tryz.sizeOf2
 v2:=Tryz.zeroValue2
 t3:=Tryz.underlying3
 a3:=Tryz.isAgg3
 z3:=Tryz.sizeOf3
 v3:=Tryz.zeroValue3
 t4:=Tryz.underlying4
 a4:=Tryz.isAgg4
 z4:=Tryz.sizeOf4
 v4:=Tryz.zeroValue4
 t5:=Tryz.underlying5
 a5:=Tryz.isAgg5
 z5:=Tryz.sizeOf5
 v5:=Tryz.zeroValue5
 t9:=Tryz.underlying9
 a9:=Tryz.isAgg9
 z9:=Tryz.sizeOf9
 v9:=Tryz.zeroValue9
 t20:=Tryz.underlying20
 a20:=Tryz.isAgg20
 z20:=Tryz.sizeOf20
 v20:=Tryz.zeroValue20
 t37:=Tryz.underlying22
 a37:=Tryz.isAgg22
 z37:=Tryz.sizeOf22
 v37:=Tryz.zeroValue22
 t46:=Tryz.underlying332
 a46:=Tryz.isAgg332
 z46:=Tryz.sizeOf332
 v46:=Tryz.zeroValue332
 t51:=Tryz.underlying326
 a51:=Tryz.isAgg326
 z51:=Tryz.sizeOf326
 v51:=Tryz.zeroValue326
 t53:=Tryz.underlying198
 a53:=Tryz.isAgg198
 z53:=Tryz.sizeOf198
 v53:=Tryz.zeroValue198
 t171:=Tryz.underlying337
 a171:=Tryz.isAgg337
 z171:=Tryz.sizeOf337
 v171:=Tryz.zeroValue337
 t173:=Tryz.underlying340
 a173:=Tryz.isAgg340
 z173:=Tryz.sizeOf340
 v173:=Tryz.zeroValue340
 t212:=Tryz.underlying391
 a212:=Tryz.isAgg391
 z212:=Tryz.sizeOf391
 v212:=Tryz.zeroValue391
 t213:=Tryz.underlying392
 a213:=Tryz.isAgg392
 z213:=Tryz.sizeOf392
 t232:=Tryz.underlying166
 a232:=Tryz.isAgg166
 z232:=Tryz.sizeOf166
 v232:=Tryz.zeroValue166
 t233:=Tryz.underlying328
 a233:=Tryz.isAgg328
 z233:=Tryz.sizeOf328
 v233:=Tryz.zeroValue328
 g17:=by kernel_rfl
 g18:=by kernel_rfl
 g19:=by kernel_rfl}
open Go.RowKit Go.Sort Go.Lib in
theorem Tryz.strconv_Itoa_small(i:Nat)(hi:i<100)(w:World):
 Calls Tryz.prog 27 #[.int .i64 i] w fun e w'=>e=.returned (.string ⟨(Lib.decDigits i).toArray⟩)∧w'=w:=Any.strconv_Itoa_small Tryz.EB i hi w
def Tryz.vQ:Go.Shelf.Ren:=⟨fun|173=>69|246=>125|283=>185|284=>186|285=>187|286=>188|129=>248|317=>247|318=>249|319=>250|320=>251|337=>288|338=>289|n=>n,fun|2=>2|3=>3|9=>9|4=>4|171=>337|0=>0|53=>198|37=>22|5=>5|173=>340|212=>391|51=>326|20=>20|213=>392|46=>332|232=>166|233=>328|n=>n,fun|17=>4|18=>12|19=>13|n=>n⟩
theorem Tryz.Db:Go.Proofs.LaysM.n173 Tryz.prog Tryz.vQ:={
 mixed:=by kernel_rfl
 f129:=Tryz.func248.trans (congrArg some (by kernel_rfl))
 f173:=Tryz.func69.trans (congrArg some (by kernel_rfl))
 f246:=Tryz.func125.trans (congrArg some (by kernel_rfl))
 f283:=Tryz.func185.trans (congrArg some (by kernel_rfl))
 f284:=Tryz.func186.trans (congrArg some (by kernel_rfl))
 f285:=Tryz.func187.trans (congrArg some (by kernel_rfl))
 f286:=Tryz.func188.trans (congrArg some (by kernel_rfl))
 f317:=Tryz.func247.trans (congrArg some (by kernel_rfl))
 f318:=Tryz.func249.trans (congrArg some (by kernel_rfl))
 f319:=Tryz.func250.trans (congrArg some (by kernel_rfl))
 f320:=Tryz.func251.trans (congrArg some (by kernel_rfl))
 f337:=Tryz.func288.trans (congrArg some (by kernel_rfl))
 f338:=Tryz.func289.trans (congrArg some (by kernel_rfl))
 t0:=Tryz.underlying0
 a0:=Tryz.isAgg0
 z0:=Tryz.sizeOf0
 v0:=Tryz.zeroValue0
 t2:=Tryz.underlying2
 a2:=Tryz.isAgg2
 z2:=Tryz.sizeOf2
 v2:=Tryz.zeroValue2
 t3:=Tryz.underlying3
 a3:=Tryz.isAgg3
 z3:=Tryz.sizeOf3
 v3:=Tryz.zeroValue3
 t4:=Tryz.underlying4
 a4:=Tryz.isAgg4
 z4:=Tryz.sizeOf4
 v4:=Tryz.zeroValue4
 t5:=Tryz.underlying5
 a5:=Tryz.isAgg5
 z5:=Tryz.sizeOf5
 v5:=Tryz.zeroValue5
 t9:=Tryz.underlying9
 a9:=Tryz.isAgg9
 z9:=Tryz.sizeOf9
 v9:=Tryz.zeroValue9
 t20:=Tryz.underlying20
 a20:=Tryz.isAgg20
 z20:=Tryz.sizeOf20
 v20:=Tryz.zeroValue20
 t37:=Tryz.underlying22
 a37:=Tryz.isAgg22
 z37:=Tryz.sizeOf22
 v37:=Tryz.zeroValue22
 t46:=Tryz.underlying332
 a46:=Tryz.isAgg332
 z46:=Tryz.sizeOf332
 v46:=Tryz.zeroValue332
 t51:=Tryz.underlying326
 a51:=Tryz.isAgg326
 z51:=Tryz.sizeOf326
 v51:=Tryz.zeroValue326
 t53:=Tryz.underlying198
 a53:=Tryz.isAgg198
 z53:=Tryz.sizeOf198
 v53:=Tryz.zeroValue198
 t171:=Tryz.underlying337
 a171:=Tryz.isAgg337
 z171:=Tryz.sizeOf337
 v171:=Tryz.zeroValue337
 t173:=Tryz.underlying340
 a173:=Tryz.isAgg340
 z173:=Tryz.sizeOf340
 v173:=Tryz.zeroValue340
 t212:=Tryz.underlying391
 a212:=Tryz.isAgg391
 z212:=Tryz.sizeOf391
 v212:=Tryz.zeroValue391
 t213:=Tryz.underlying392
 a213:=Tryz.isAgg392
 z213:=Tryz.sizeOf392
 t232:=Tryz.underlying166
 a232:=Tryz.isAgg166
 z232:=Tryz.sizeOf166
 v232:=Tryz.zeroValue166
 t233:=Tryz.underlying328
 a233:=Tryz.isAgg328
 z233:=Tryz.sizeOf328
 v233:=Tryz.zeroValue328
 g17:=by kernel_rfl
 g18:=by kernel_rfl
 g19:=by kernel_rfl
 i0:=by kernel_rfl
 i2:=by kernel_rfl
 i3:=by kernel_rfl
 i4:=by kernel_rfl
 i5:=by kernel_rfl
 i9:=by kernel_rfl
 i20:=by kernel_rfl
 i37:=by kernel_rfl
 i46:=by kernel_rfl
 i51:=by kernel_rfl
 i53:=by kernel_rfl
 i171:=by kernel_rfl
 i173:=by kernel_rfl
 i212:=by kernel_rfl
 i232:=by kernel_rfl
 i233:=by kernel_rfl
 m17:=by kernel_rfl
 m18:=by kernel_rfl
 m19:=by kernel_rfl}
open Go.RowKit Go.Sort Go.Lib in
theorem Tryz.strconv_FormatInt_10(n:Int)(h0: -9223372036854775808≤n)(h1:n≤9223372036854775807)(w:World)(FP:Lib.TabIs Tryz.prog w "internal/strconv.uint64pow10" .u64 Lib.pow10Tab):
 Calls Tryz.prog 69 #[.int .i64 n,.int .i64 10] w fun e w'=>e=.returned (.string ⟨(Lib.itoa n).toArray⟩)∧∃k os,w'=grow (w.drewN k) os:=Any.strconv_FormatInt_10 Tryz.Db n h0 h1 w FP
def Tryz.xD:Go.Shelf.Ren:=⟨fun|173=>69|246=>125|283=>185|284=>186|285=>187|286=>188|129=>248|317=>247|318=>249|319=>250|320=>251|337=>288|338=>289|n=>n,fun|2=>2|3=>3|9=>9|4=>4|171=>337|0=>0|53=>198|37=>22|5=>5|173=>340|212=>391|51=>326|20=>20|213=>392|46=>332|232=>166|233=>328|n=>n,fun|17=>4|18=>12|19=>13|n=>n⟩
theorem Tryz.EC:Go.Proofs.Lays.n173 Tryz.prog Tryz.xD:={
 mixed:=by kernel_rfl
 f129:=Tryz.func248.trans (congrArg some (by kernel_rfl))
 f173:=Tryz.func69.trans (congrArg some (by kernel_rfl))
 f246:=Tryz.func125.trans (congrArg some (by kernel_rfl))
 f283:=Tryz.func185.trans (congrArg some (by kernel_rfl))
 f284:=Tryz.func186.trans (congrArg some (by kernel_rfl))
 f285:=Tryz.func187.trans (congrArg some (by kernel_rfl))
 f286:=Tryz.func188.trans (congrArg some (by kernel_rfl))
 f317:=Tryz.func247.trans (congrArg some (by kernel_rfl))
 f318:=Tryz.func249.trans (congrArg some (by kernel_rfl))
 f319:=Tryz.func250.trans (congrArg some (by kernel_rfl))
 f320:=Tryz.func251.trans (congrArg some (by kernel_rfl))
 f337:=Tryz.func288.trans (congrArg some (by kernel_rfl))
 f338:=Tryz.func289.trans (congrArg some (by kernel_rfl))
 t0:=Tryz.underlying0
 a0:=Tryz.isAgg0
 z0:=Tryz.sizeOf0
 v0:=Tryz.zeroValue0
 t2:=Tryz.underlying2
 a2:=Tryz.isAgg2
 z2:=Tryz.sizeOf2
 v2:=Tryz.zeroValue2
 t3:=Tryz.underlying3
 a3:=Tryz.isAgg3
 z3:=Tryz.sizeOf3
 v3:=Tryz.zeroValue3
 t4:=Tryz.underlying4
 a4:=Tryz.isAgg4
 z4:=Tryz.sizeOf4
 v4:=Tryz.zeroValue4
 t5:=Tryz.underlying5
 a5:=Tryz.isAgg5
 z5:=Tryz.sizeOf5
 v5:=Tryz.zeroValue5
 t9:=Tryz.underlying9
 a9:=Tryz.isAgg9
 z9:=Tryz.sizeOf9
 v9:=Tryz.zeroValue9
 t20:=Tryz.underlying20
 a20:=Tryz.isAgg20
 z20:=Tryz.sizeOf20
 v20:=Tryz.zeroValue20
 t37:=Tryz.underlying22
 a37:=Tryz.isAgg22
 z37:=Tryz.sizeOf22
 v37:=Tryz.zeroValue22
 t46:=Tryz.underlying332
 a46:=Tryz.isAgg332
 z46:=Tryz.sizeOf332
 v46:=Tryz.zeroValue332
 t51:=Tryz.underlying326
 a51:=Tryz.isAgg326
 z51:=Tryz.sizeOf326
 v51:=Tryz.zeroValue326
 t53:=Tryz.underlying198
 a53:=Tryz.isAgg198
 z53:=Tryz.sizeOf198
 v53:=Tryz.zeroValue198
 t171:=Tryz.underlying337
 a171:=Tryz.isAgg337
 z171:=Tryz.sizeOf337
 v171:=Tryz.zeroValue337
 t173:=Tryz.underlying340
 a173:=Tryz.isAgg340
 z173:=Tryz.sizeOf340
 v173:=Tryz.zeroValue340
 t212:=Tryz.underlying391
 a212:=Tryz.isAgg391
 z212:=Tryz.sizeOf391
 v212:=Tryz.zeroValue391
 t213:=Tryz.underlying392
 a213:=Tryz.isAgg392
 z213:=Tryz.sizeOf392
 t232:=Tryz.underlying166
 a232:=Tryz.isAgg166
 z232:=Tryz.sizeOf166
 v232:=Tryz.zeroValue166
 t233:=Tryz.underlying328
 a233:=Tryz.isAgg328
 z233:=Tryz.sizeOf328
 v233:=Tryz.zeroValue328
 g17:=by kernel_rfl
 g18:=by kernel_rfl
 g19:=by kernel_rfl}
open Go.RowKit Go.Sort Go.Lib in
theorem Tryz.strconv_FormatInt_10_small(i:Nat)(hi:i<100)(w:World):
 Calls Tryz.prog 69 #[.int .i64 i,.int .i64 10] w fun e w'=>e=.returned (.string ⟨(Lib.decDigits i).toArray⟩)∧w'=w:=Any.strconv_FormatInt_10_small Tryz.EC i hi w
def Tryz.yS:Go.Shelf.Ren:=⟨fun|99=>261|206=>195|n=>n,fun|9=>9|4=>4|3=>3|n=>n,fun|n=>n⟩
theorem Tryz.F7:Go.Proofs.Lays.n99 Tryz.prog Tryz.yS:={
 mixed:=by kernel_rfl
 f99:=Tryz.func261.trans (congrArg some (by kernel_rfl))
 f206:=Tryz.func195.trans (congrArg some (by kernel_rfl))
 t3:=Tryz.underlying3
 a3:=Tryz.isAgg3
 z3:=Tryz.sizeOf3
 v3:=Tryz.zeroValue3
 t4:=Tryz.underlying4
 a4:=Tryz.isAgg4
 z4:=Tryz.sizeOf4
 v4:=Tryz.zeroValue4
 t9:=Tryz.underlying9
 a9:=Tryz.isAgg9
 z9:=Tryz.sizeOf9
 v9:=Tryz.zeroValue9}
open Go.RowKit Go.Lib in
theorem Tryz.strings_HasPrefix(s p:ByteArray)(w:World):
 Calls Tryz.prog 261 #[.string s,.string p] w fun e w'=>e=.returned (.bool (Lib.hasPrefix s.data.toList p.data.toList))∧w'=w:=Any.strings_HasPrefix Tryz.F7 s p w
open Go.Lib in
open Go.Lib in
open Go.Lib in
open Go.Lib in
def Tryz.tY:Go.Shelf.Ren:=⟨fun|16=>189|n=>n,fun|24=>126|9=>9|4=>4|n=>n,fun|n=>n⟩
theorem Tryz.qM:Go.Proofs.Lays2.n16 Tryz.prog Tryz.tY:={
 mixed:=by kernel_rfl
 f16:=Tryz.func189.trans (congrArg some (by kernel_rfl))
 t4:=Tryz.underlying4
 a4:=Tryz.isAgg4
 z4:=Tryz.sizeOf4
 v4:=Tryz.zeroValue4
 t9:=Tryz.underlying9
 a9:=Tryz.isAgg9
 z9:=Tryz.sizeOf9
 v9:=Tryz.zeroValue9
 t24:=Tryz.underlying126
 a24:=Tryz.isAgg126
 z24:=Tryz.sizeOf126
 v24:=Tryz.zeroValue126
 i9:=by kernel_rfl}
open Go.RowKit Go.Lib in
theorem Tryz.slices_Clone_string(b off n c:Nat)(zs:List ByteArray)(w:World)(hz:n≤zs.length)(Ir:n*16≤140737488355328)(hc:∀j,j<zs.length→w.cell? ⟨b,off+j,none⟩=some (.string (zs.getD j ByteArray.empty))):
 Calls Tryz.prog 189 #[.slice (some ⟨b,off,none⟩) n c] w fun e w'=>∃v',e=.returned v'∧w'.ownsRow w.heap.size 9 1 v' n ((zs.take n).map (Value.string))∧v'≠.slice none 0 0∧Below w.heap.size w w':=Any.slices_Clone_string Tryz.qM b off n c zs w hz Ir hc
open Go.RowKit Go.Lib in
theorem Tryz.slices_Clone_string_nil(n c:Nat)(w:World):
 Calls Tryz.prog 189 #[.slice none n c] w fun e w'=>e=.returned (.slice none 0 0)∧w'=w:=Any.slices_Clone_string_nil Tryz.qM n c w
open Go.RowKit Go.Lib in
theorem Tryz.slices_Clone_string_zero(a:Addr)(c:Nat)(w:World):
 Calls Tryz.prog 189 #[.slice (some a) 0 c] w fun e w'=>∃v',e=.returned v'∧w'.ownsRow w.heap.size 9 1 v' 0 []∧v'≠.slice none 0 0∧Below w.heap.size w w':=Any.slices_Clone_string_zero Tryz.qM a c w
end Go.Proofs
namespace jJ
theorem CO{d:List Nat}{f:List (List Hd)}(g:∀hs∈f,∀k h,hs[k]?=some h->∃a,d[k]?=some a/\h.name=nm 104 k/\h.params=wh 112 a)(v:d.length<=3)(hex:∃hs∈f,hs.length=d.length){k a:Nat}(i:d[k]?=some a):
  ∃h,(f.flatten.find? λx=>x.name==nm 104 k)=some h/\h.params=wh 112 a:=by
 obtain⟨hs,hm,w⟩:=hex;have y:=(List.getElem?_eq_some_iff.1 i).1;obtain⟨j,l⟩:∃x,hs[k]?=some x:=Gx LC;obtain⟨_,_,n,_⟩:=g hs hm k j l;cases hf:f.flatten.find? λx=>x.name==nm 104 k with
 |none=>rw[List.find?_eq_none]at hf;exact absurd (by rw[n];simp) (hf j (List.mem_flatten.2 ⟨hs,hm,List.mem_of_getElem? l⟩))
 |some h=>
  refine⟨h,rfl,?_⟩;have b:=List.find?_some hf;obtain⟨p,q,r⟩:=List.mem_flatten.1 (List.mem_of_find?_eq_some hf);obtain⟨m,s⟩:=List.getElem?_of_mem r;obtain⟨z,c,t,u⟩:=g p q m h s;rw[t]at b;simp only[beq_iff_eq]at b;have A:=(List.getElem?_eq_some_iff.1 c).1;have e:m=k:=by unfold nm at b;injection b with _ b;injection b with b _;have:=congrArg UInt8.toNat b;simp at this;omega
  subst e;rw[i]at c;injection c with c;rw[u,c]
theorem CP{a:List Co}(g:a.length<=3)(hn:∀i c,a[i]?=some c->c.name=kW i){i:Nat}{c:Co}(hc:a[i]?=some c):(a.find? λx=>x.name==kW i)=some c:=by
 cases hf:a.find? λx=>x.name==kW i with
 |none=>rw[List.find?_eq_none]at hf;exact absurd (by rw[hn i c hc];simp) (hf c (List.mem_of_getElem? hc))
 |some x=>have b:=List.find?_some hf;obtain⟨f,d⟩:=List.getElem?_of_mem (List.mem_of_find?_eq_some hf);rw[hn f x d]at b;simp only[beq_iff_eq]at b;have j:=(List.getElem?_eq_some_iff.1 d).1;have k:=(List.getElem?_eq_some_iff.1 hc).1;have e:=uo LC LC b;subst e;rw[d]at hc;exact hc
def mq(a:List Fg)(name:List UInt8):Bool:=a.any λx=>x.name==name
theorem F9{c k:Nat}{a}(hn:c<=90)(h:qc c a){x}(hx:a[k]?=some x):mq (a.take k) x.name=false:=by
 cases hq:mq (a.take k) x.name with
 |false=>rfl
 |true=>
  unfold mq at hq;rw[List.any_eq_true]at hq;obtain⟨d,hy,e⟩:=hq;obtain⟨f,b⟩:=List.getElem?_of_mem hy;rw[List.getElem?_take]at b;split at b;case isFalse=>simp at b
  case isTrue j=>have g:=h.2 f d b;have i:=h.2 k x hx;have l:=(List.getElem?_eq_some_iff.1 hx).1;have m:=h.1;rw[g,i]at e;simp only[beq_iff_eq]at e;unfold nm at e;injection e with _ e;injection e with e _;have:=congrArg UInt8.toNat e;simp at this;omega
theorem Dc{a:List Co}{k:Nat}(g:a.length<=3)(j:k<a.length)(hn:∀i c,a[i]?=some c->c.name=kW i):((a.take k).find? λx=>x.name==kW k)=none:=by
 rw[List.find?_eq_none];intro d hy e;obtain⟨f,b⟩:=List.getElem?_of_mem hy;rw[List.getElem?_take]at b;split at b;case isFalse=>simp at b
 case isTrue l=>rw[hn f d b]at e;simp only[beq_iff_eq]at e;have:=uo LC LC e;omega
theorem EF{b k:Nat}{a}(h:qc b a):mq a (kW k)=false:=by
 cases hq:mq a (kW k)with
 |false=>rfl
 |true=>unfold mq at hq;rw[List.any_eq_true]at hq;obtain⟨c,hy,e⟩:=hq;obtain⟨d,f⟩:=List.getElem?_of_mem hy;rw[h.2 d c f]at e;simp[nm,kW]at e
def yl(a:List Co):Nat->St->Prop
 |0,_=>False
 |d+1,s=>(1<=s.kind/\s.kind<=10)/\s.jy.length<=5/\(∀e∈s.jy,Go.Proofs.YtidmdcckbdmblaaGreatDoor.kB De e)/\(s.kind=6->∃x∈a,x.name=s.name)/\(∀x∈s.th,yl a d x)/\∀x∈s.el,yl a d x
end jJ
namespace Go.Proofs.YtidmdcckbdmblaaGreatDoor
open Go.RowKit jJ mX Go.Proofs.Tryz
theorem BS:prog.globalNamed "internal/strconv.uint64pow10" =some 4:=LF
end Go.Proofs.YtidmdcckbdmblaaGreatDoor
namespace Go.Proofs.YtidmdcckbdmblaaGreatDoor.L
open Go.RowKit Go.Proofs.Tryz
theorem oN:prog.underlying 439=some (.array 39 9):=LF
theorem zH:prog.underlying 404=some (.array 25 9):=LF
end Go.Proofs.YtidmdcckbdmblaaGreatDoor.L
namespace nw
open jJ
def sA:List (List UInt8):=[[45],[110,111,116],[116,114,117,101],[102,97,108,115,101],[110,111,119],[115,105,122,101],[104,97,115],[40]]
def opers:List (List UInt8):=[[111,114],[97,110,100],[61,61],[33,61],[60],[60,61],[62],[62,61],[43],[45],[42],[47],[37]]
end nw
namespace Go.Proofs.YtidmdcckbdmblaaGreatDoor
open Go.RowKit jJ nw Go.Proofs.Tryz
structure PV where
 v1:Value
 v2:Value
 v3:Value
 v4:Value
 lo:Nat
end Go.Proofs.YtidmdcckbdmblaaGreatDoor
