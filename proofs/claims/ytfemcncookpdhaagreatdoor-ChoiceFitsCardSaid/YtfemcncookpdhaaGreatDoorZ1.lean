import Derived.Test.YtfemcncookpdhaaGreatDoorZ0
set_option maxRecDepth 1000000
set_option maxHeartbeats 32000000
set_option linter.all false
namespace Go.Proofs.YtfemcncookpdhaaGreatDoor
open Go Go.Proofs.Tryz
def rH(P:Program)(w:World)(K:Value->World->Prop):Result Next->Prop
 | .ok (.value u) w'=>K u w'
 | .ok .skip w'=>K undef w'
 | .ok (.enter f args) w'=>w'=w/\Calls P f args w λe a=>∃v,e=.returned v/\K v a
 |_=>False
def kt(P:Program)(a:Act)(o:Oper)(w:World)(K:Value->World->Prop):Prop:=rH P w K ((execOp a.eval o).run P w)
theorem kt.wp{P:Program}{a:Act}{o:Oper}{w:World}{K:Value->World->Prop}{c:Act->World->Prop}{Q:Exit->Act->World->Prop}(h:kt P a o w K)(b:∀v w',K v w'->c (a.put o.dst v) w'):o.wp P a w c Q:=by
 unfold kt at h;unfold Oper.wp;generalize(execOp a.eval o).run P w=r at*;cases r with
 |ok n w'=>
  cases n<;>simp only[rH]at h<;>simp only[Oper.upon];case value u=>exact b _ _ h
  case skip=>exact b _ _ h
  case enter f args=>obtain⟨rfl,hc⟩:=h;exact hc.mono λe g ⟨v,he,d⟩=>by subst he;exact b _ _ d
 |halt x w'=>simp only[rH]at h
def lZ(a:Act)(o:Oper):Value:=match o.dst with|some d=>a.eval (.tmp d)|none=>undef
def lf(ops:List Oper):List Nat:=ops.filterMap (·.dst)
def lh(o:Oper)(a:Nat):Bool:=o.after.toList.any λe=>Region.binds .any e&&e.on==a
def sZ(ops:List Oper):Bool:=ops.all (λo=>o.guard.isNone)&&ops.zipIdx.all (λp=>p.1.after.all λe=>!Region.binds .any e||decide (e.on<p.2))&&decide ((lf ops).Nodup)
def vd(o:Oper)(v:Value):Value:=match o.dst with|some _=>v|none=>undef
abbrev nV:=List (Nat×(Value->World->Prop))
def lz(ops:List Oper):Nat->Nat->Nat->Bool
 |0,_,_=>false
 |f+1,j,i=>match ops[j]? with
  |none=>false
  |some o=>o.after.toList.any λe=>Region.binds .any e&&(e.on==i||lz ops f e.on i)
def Jd(P:Program)(ops:List Oper)(a0:Act)(G:World->Prop)(VP:Nat->Value->Prop)(D:nV)(i:Nat)(o:Oper):Prop:=
 ∀(a:Act) (w:World),G w->(∀t,(lf ops).contains t=false->a.eval (.tmp t)=a0.eval (.tmp t))->
  (∀c b,ops[c]?=some b->lh o c=true->VP c (lZ a b))->(∀e∈D,∀b,ops[e.1]?=some b->lh o e.1=true->e.2 (lZ a b) w)->
  (∀c b d,ops[c]?=some b->b.dst=some d->lz ops ops.length c i=true->a.eval (.tmp d)=a0.eval (.tmp d))->
  kt P a o w λv w'=>VP i (vd o v)/\G w'/\∀e∈D,(e.1=i->e.2 (vd o v) w')/\(e.1≠i->lz ops ops.length e.1 i=false->∀u,e.2 u w->e.2 u w')
def tI(P:Program)(ops:List Oper)(a0:Act)(G:World->Prop)(VP:Nat->Value->Prop)(D:nV):Nat->List Oper->Prop
 |_,[]=>True
 |i,o::rest=>Jd P ops a0 G VP D i o/\tI P ops a0 G VP D (i+1) rest
theorem tI.kI{P:Program}{ops:List Oper}{a0:Act}{G:World->Prop}{VP:Nat->Value->Prop}{D:nV}:∀{l:List Oper} {i:Nat},tI P ops a0 G VP D i l->∀(k:Nat) (o:Oper),l[k]?=some o->Jd P ops a0 G VP D (i+k) o
 |o::rest,i,⟨h,_⟩,0,o',ho=>by simp at ho;subst ho;exact h
 |o::rest,i,⟨_,h⟩,k+1,o',ho=>by have:=tI.kI h k o' (by simpa using ho);rwa [show i+1+k=i+(k+1)by omega]at this
 |[],_,_,k,_,ho=>by simp at ho
def kr(a:Act):List Oper->(Nat->Value)->Nat->Act
 |[],_,_=>a
 |o::rest,val,k=>kr (a.put o.dst (val k)) rest val (k+1)
theorem Aw(a:Act)(d:Option Nat)(v:Value):(a.put d v).tmps.size=a.tmps.size:=by cases d<;>simp[Act.put]
theorem put_defers(a:Act)(d:Option Nat)(v:Value):(a.put d v).defers=a.defers:=by cases d<;>rfl
theorem tq:∀(ops:List Oper) (a:Act) (b:Nat->Value) (k:Nat),(kr a ops b k).defers=a.defers
 |[],_,_,_=>rfl
 |o::rest,a,b,k=>by rw[kr,tq rest,put_defers]
theorem rb:∀(ops:List Oper) (a:Act) (b:Nat->Value) (k t:Nat),t∉lf ops->(kr a ops b k).tmps[t]?=a.tmps[t]?
 |[],_,_,_,_,_=>rfl
 |o::rest,a,b,k,t,h=>by
  have c:t∉lf rest:=λhm=>h (by unfold lf at*;rw[Pr]at*;obtain⟨x,hx,e⟩:=hm;exact⟨x,List.mem_cons_of_mem _ hx,e⟩);rw[kr,rb rest _ _ _ _ c];cases hd:o.dst with
  |none=>rfl
  |some d=>have f:d≠t:=λe=>h (by unfold lf;rw[Pr];exact⟨o,List.mem_cons_self,by rw[hd,e]⟩);simp[Act.put,OH f]
theorem yt:∀(ops:List Oper) (a:Act) (c:Nat->Value) (k b:Nat) (o:Oper) (d:Nat),(lf ops).Nodup->ops[b]?=some o->o.dst=some d->d<a.tmps.size->(kr a ops c k).tmps[d]?=some (c (k+b))
 |[],_,_,_,b,_,_,_,h,_,_=>by simp at h
 |o::rest,a,c,k,0,o',d,hn,h,hd,Lx=>by simp at h;subst h;have e:(lf (o::rest))=d::lf rest:=(by unfold lf;rw[OX,hd]);rw[e,Pc]at hn;rw[kr,rb rest _ _ _ _ hn.1,hd];simp[Act.put,Lx]
 |o::rest,a,c,k,b+1,o',d,hn,h,hd,Lx=>by
  have e:(lf rest).Nodup:=by
   unfold lf at*;rw[OX]at hn;cases hx:o.dst with
   |none=>rw[hx]at hn;exact hn
   |some x=>rw[hx]at hn;exact(Pc.1 hn).2
  rw[kr,yt rest _ c (k+1) b o' d e (by simpa using h) hd (by rw[Aw];exact Lx),show k+1+b=k+(b+1)by omega]
def Ks(a:Array Bool):Nat:=(a.toList.filter (λb=>!b)).length
theorem Dz{a:Array Bool}{i:Nat}(h:a.getD i true=false):Ks (a.setIfInBounds i true)+1=Ks a:=by
 obtain⟨l⟩:=a;unfold Ks;simp only[NI];have c:l[i]?=some false:=by
  rw[OB]at h;simp at h;cases hx:l[i]? with
  |none=>rw[hx]at h;simp at h
  |some b=>rw[hx]at h;simp at h;rw[h]
 clear h;induction l generalizing i with
 |nil=>simp at c
 |cons b l d=>
  cases i with
  |zero=>simp at c;subst c;simp
  |succ i=>have:=d (i:=i) (by simpa using c);simp only[NJ,List.filter_cons];cases b<;>simp<;>omega
theorem wT{ops:List Oper}{b:Array Bool}(hc:∀a c,ops[a]?=some c->b.getD a false=true->∀e∈c.after,Region.binds .any e=true->b.getD e.on false=true):∀(f a i:Nat),lz ops f a i=true->b.getD a false=true->b.getD i false=true
 |0,_,_,h,_=>by cases h
 |f+1,a,i,h,hl=>by
  unfold lz at h;cases ho:ops[a]? with
  |none=>rw[ho]at h;cases h
  |some o=>rw[ho]at h;simp only[List.any_eq_true,OD,Bool.or_eq_true,Pd]at h;obtain⟨e,he,g,h⟩:=h;have d:=hc a o ho hl e (by simpa using he) g;rcases h with h|h;rw[<-h];exact d;exact wT hc f e.on i h d
theorem DA:∀{ops:List Oper} (_:(lf ops).Nodup) {i a:Nat} {b d:Oper} {c:Nat},ops[i]?=some b->ops[a]?=some d->b.dst=some c->d.dst=some c->i=a
 |[],_,_,_,_,_,_,h,_,_,_=>by simp at h
 |o::rest,hn,i,a,b,d,c,hi,hj,Je,Kt=>by
  have e:∀{k:Nat} {x:Oper},rest[k]?=some x->x.dst=some c->c∈lf rest:=λf hx=>by unfold lf;rw[Pr];exact⟨_,NH f,hx⟩
  cases i with
  |zero=>
   cases a with
   |zero=>rfl
   |succ a=>simp at hi hj;subst hi;unfold lf at hn;rw[OX,Je]at hn;exact absurd (e hj Kt) (Pc.1 hn).1
  |succ i=>
   cases a with
   |zero=>simp at hi hj;subst hj;unfold lf at hn;rw[OX,Kt]at hn;exact absurd (e hi Je) (Pc.1 hn).1
   |succ a=>
    simp at hi hj;have g:(lf rest).Nodup:=by
     unfold lf at*;rw[OX]at hn;cases hx:o.dst with
     |none=>rw[hx]at hn;exact hn
     |some x=>rw[hx]at hn;exact(Pc.1 hn).2
    rw[DA g hi hj Je Kt]
theorem Eg{ops:List Oper}(hn:(lf ops).Nodup){i b:Nat}{j g:Oper}(hi:ops[i]?=some j)(f:ops[b]?=some g)(l:i≠b)(a:Act)(v:Value):lZ (a.put j.dst v) g=lZ a g:=by
 unfold lZ;cases Kt:g.dst with
 |none=>rfl
 |some d=>
  cases Je:j.dst with
  |none=>rfl
  |some c=>
   have n:c≠d:=by
    intro e;subst e;apply l;clear l;induction ops generalizing i b with
    |nil=>simp at hi
    |cons o rest p=>
     have m:∀{k:Nat} {x:Oper},rest[k]?=some x->x.dst=some c->c∈lf rest:=λq hx=>by unfold lf;rw[Pr];exact⟨_,NH q,hx⟩
     cases i with
     |zero=>
      cases b with
      |zero=>rfl
      |succ b=>simp at hi f;subst hi;unfold lf at hn;rw[OX,Je]at hn;exact absurd (m f Kt) (Pc.1 hn).1
     |succ i=>
      cases b with
      |zero=>simp at hi f;subst f;unfold lf at hn;rw[OX,Kt]at hn;exact absurd (m hi Je) (Pc.1 hn).1
      |succ b=>
       simp at hi f;have r:(lf rest).Nodup:=by
        unfold lf at*;rw[OX]at hn;cases hx:o.dst with
        |none=>rw[hx]at hn;exact hn
        |some x=>rw[hx]at hn;exact(Pc.1 hn).2
       rw[p r hi f]
   simp[Act.eval,Act.put,OH n]
theorem Cp{b:Oper}(a:Act)(v:Value)(h:∀d,b.dst=some d->d<a.tmps.size):lZ (a.put b.dst v) b=vd b v:=by
 unfold lZ vd;cases hd:b.dst with
 |none=>rfl
 |some d=>simp[Act.eval,Act.put,h d hd]
theorem wU{ops:List Oper}(d:∀i o,ops[i]?=some o->∀e∈o.after,Region.binds .any e=true->e.on<i){b:Array Bool}(hs:b.size=ops.length)(h:Region.ready .any ops.toArray b=[]):∀a,a<ops.length->b.getD a false=true:=by
 intro a;induction a using Nat.strongRecOn with
 |_ a f=>
  intro c;cases hx:b.getD a false with
  |true=>rfl
  |false=>
   exfalso;have g:ops.toArray[a]?=some ops[a]:=(by simp[c]);have hm:a∈Region.ready .any ops.toArray b:=by rw[mem_ready];refine⟨?_,ops[a],g,λe he j=>?_⟩;rw[OB]at hx⊢;rw[O1 (by omega)]at hx⊢;simpa using hx;have k:=d a ops[a] (by simp[c]) e he j;exact f e.on k (by omega)
   rw[h]at hm;cases hm
def zi(ops:List Oper):Bool:=(List.range (ops.length-1)).all λa=>lz ops ops.length (ops.length-1) a
def vo(ops:List Oper)(a:Act):Nat->Value:=λb=>if b<ops.length-1 then(match ops[b]? with|some o=>lZ a o|none=>undef)else undef
def sj(P:Program)(b:List Oper)(a0:Act)(G:World->Prop)(g:(Nat->Value)->Value->World->Prop)(VP:Nat->Value->Prop)(D:nV):Nat->List Oper->Prop
 |_,[]=>True
 |i,o::rest=>(∀(a:Act) (w:World),G w->(∀t,(lf b).contains t=false->a.eval (.tmp t)=a0.eval (.tmp t))->
  (∀f c,b[f]?=some c->lh o f=true->VP f (lZ a c))->(∀e∈D,∀c,b[e.1]?=some c->lh o e.1=true->e.2 (lZ a c) w)->
  (∀f c d,b[f]?=some c->c.dst=some d->lz b b.length f i=true->a.eval (.tmp d)=a0.eval (.tmp d))->
  match rest with
  |[]=>kt P a o w λv w'=>g (vo b a) (vd o v) w'
  |_=>kt P a o w λv w'=>VP i (vd o v)/\G w'/\∀e∈D,(e.1=i->e.2 (vd o v) w')/\(e.1≠i->lz b b.length e.1 i=false->∀u,e.2 u w->e.2 u w'))/\sj P b a0 G g VP D (i+1) rest
theorem sj.kI{P:Program}{b:List Oper}{a0:Act}{G:World->Prop}{r:(Nat->Value)->Value->World->Prop}{VP:Nat->Value->Prop}{D:nV}:∀{l:List Oper} {i:Nat},sj P b a0 G r VP D i l->∀(k:Nat) (o:Oper),l[k]?=some o->(∀(a:Act) (w:World),G w->(∀t,(lf b).contains t=false->a.eval (.tmp t)=a0.eval (.tmp t))->
  (∀f c,b[f]?=some c->lh o f=true->VP f (lZ a c))->(∀e∈D,∀c,b[e.1]?=some c->lh o e.1=true->e.2 (lZ a c) w)->
  (∀f c d,b[f]?=some c->c.dst=some d->lz b b.length f (i+k)=true->a.eval (.tmp d)=a0.eval (.tmp d))->
  (k+1=l.length->kt P a o w λv w'=>r (vo b a) (vd o v) w')/\
  (k+1<l.length->kt P a o w λv w'=>VP (i+k) (vd o v)/\G w'/\∀e∈D,(e.1=i+k->e.2 (vd o v) w')/\(e.1≠i+k->lz b b.length e.1 (i+k)=false->∀u,e.2 u w->e.2 u w')))
 |o::rest,i,⟨h,_⟩,0,o',ho=>by
  simp at ho;subst ho;intro a w j m n p q;have:=h a w j m n p q;refine⟨λg=>?_,λg=>?_⟩;cases rest with
  |nil=>exact this
  |cons x l=>simp at g
  cases rest with
  |nil=>simp at g
  |cons x l=>exact this
 |o::rest,i,⟨_,h⟩,k+1,o',ho=>by intro a w j m n p q;have e:i+1+k=i+(k+1):=(by omega);have:=sj.kI h k o' (by simpa using ho) a w j m n p (λf c d s hd y=>q f c d s hd (by rw[<-e];exact y));rw[e]at this;exact⟨λg=>this.1 (by simpa using g),λg=>this.2 (by simpa using g)⟩
 |[],_,_,k,_,ho=>by simp at ho
abbrev DB(P:Program)(a:List Oper)(a0:Act)(G:World->Prop)(b:Value->World->Prop)(VP:Nat->Value->Prop)(D:nV):Nat->List Oper->Prop:=sj P a a0 G (λ_=>b) VP D
abbrev wq:=List (Nat×Nat×(Value->Value->World->Prop))
def rI(ops:List Oper):Bool:=ops.zipIdx.all (λp=>p.1.after.all λe=>!Region.binds .any e||decide (e.on<p.2))&&decide ((lf ops).Nodup)
def vv(ops:List Oper)(VP:Nat->Value->Prop):List Oper->Prop
 |[]=>True
 |o::rest=>(match o.guard with
  |none=>True
  |some (g,b)=>lh o g=true/\((ops[g]?).bind (·.dst)).isSome=true/\∀v,VP g v->v=.bool b)/\vv ops VP rest
theorem vv.kI{ops:List Oper}{VP:Nat->Value->Prop}:∀{l:List Oper},vv ops VP l->∀o∈l,∀g b,o.guard=some (g,b)->lh o g=true/\((ops[g]?).bind (·.dst)).isSome=true/\∀v,VP g v->v=.bool b
 |o::rest,⟨h,hr⟩,o',a,g,b,hg=>by rcases Oa.1 a with rfl|a;rw[hg]at h;exact h;exact vv.kI hr o' a g b hg
 |[],_,o',a,_,_,_=>by simp at a
def D9(P:Program)(ops:List Oper)(a0:Act)(G:World->Prop)(VP:Nat->Value->Prop)(D:wq)(i:Nat)(o:Oper):Prop:=
 ∀(a:Act) (w:World),G w->(∀t,(lf ops).contains t=false->a.eval (.tmp t)=a0.eval (.tmp t))->
  (∀c b,ops[c]?=some b->lh o c=true->VP c (lZ a b))->(∀e∈D,∀b ok,ops[e.1]?=some b->ops[e.2.1]?=some ok->lh o e.1=true->e.2.2 (lZ a b) (lZ a ok) w)->
  (∀c b d,ops[c]?=some b->b.dst=some d->lz ops ops.length c i=true->a.eval (.tmp d)=a0.eval (.tmp d))->
  kt P a o w λv w'=>VP i (vd o v)/\G w'/\∀e∈D,(e.1=i->∀ok,ops[e.2.1]?=some ok->e.2.2 (vd o v) (if e.2.1=i then vd o v else lZ a ok) w')/\(e.1≠i->lz ops ops.length e.1 i=false->∀u f,e.2.2 u f w->e.2.2 u f w')
def sk(P:Program)(ops:List Oper)(a0:Act)(G:World->Prop)(VP:Nat->Value->Prop)(D:wq):Nat->List Oper->Prop
 |_,[]=>True
 |i,o::rest=>D9 P ops a0 G VP D i o/\sk P ops a0 G VP D (i+1) rest
theorem sk.kI{P:Program}{ops:List Oper}{a0:Act}{G:World->Prop}{VP:Nat->Value->Prop}{D:wq}:∀{l:List Oper} {i:Nat},sk P ops a0 G VP D i l->∀(k:Nat) (o:Oper),l[k]?=some o->D9 P ops a0 G VP D (i+k) o
 |o::rest,i,⟨h,_⟩,0,o',ho=>by simp at ho;subst ho;exact h
 |o::rest,i,⟨_,h⟩,k+1,o',ho=>by have:=sk.kI h k o' (by simpa using ho);rwa [show i+1+k=i+(k+1)by omega]at this
 |[],_,_,k,_,ho=>by simp at ho
theorem vz{ops:List Oper}(h:rI ops=true):(∀i o,ops[i]?=some o->∀e∈o.after,Region.binds .any e=true->e.on<i)/\(lf ops).Nodup:=by unfold rI at h;simp only[OD,OO,Pg]at h;obtain⟨b,c⟩:=h;refine⟨λi o d e he f=>?_,c⟩;have:=b (o,i) (List.mem_zipIdx_iff_getElem?.2 (by simpa using d));rw[Array.all_eq_true_iff_forall_mem]at this;have a:=this e he;rw[f]at a;simpa using a
def FL(ops:List Oper)(p:Nat):Bool:=decide (p<ops.length)&&(List.range ops.length).all λa=>(if a<p then lz ops ops.length p a else true)&&(if p<a then(match ops[a]? with|some o=>lh o p|none=>true)else true)
def Ea(P:Program)(ops:List Oper)(a0:Act)(G:Bool->World->Prop)(p:Nat)(VP:Nat->Value->Prop)(D:nV)(i:Nat)(o:Oper):Prop:=
 ∀(a:Act) (w:World),G (decide (p<i)) w->(∀t,(lf ops).contains t=false->a.eval (.tmp t)=a0.eval (.tmp t))->
  (∀c b,ops[c]?=some b->lh o c=true->VP c (lZ a b))->(∀e∈D,∀b,ops[e.1]?=some b->lh o e.1=true->e.2 (lZ a b) w)->
  (∀c b d,ops[c]?=some b->b.dst=some d->lz ops ops.length c i=true->a.eval (.tmp d)=a0.eval (.tmp d))->
  kt P a o w λv w'=>VP i (vd o v)/\G (decide (p<=i)) w'/\∀e∈D,(e.1=i->e.2 (vd o v) w')/\(e.1≠i->lz ops ops.length e.1 i=false->∀u,e.2 u w->e.2 u w')
def sq(P:Program)(ops:List Oper)(a0:Act)(G:Bool->World->Prop)(p:Nat)(VP:Nat->Value->Prop)(D:nV):Nat->List Oper->Prop
 |_,[]=>True
 |i,o::rest=>Ea P ops a0 G p VP D i o/\sq P ops a0 G p VP D (i+1) rest
theorem sq.kI{P:Program}{ops:List Oper}{a0:Act}{G:Bool->World->Prop}{p:Nat}{VP:Nat->Value->Prop}{D:nV}:∀{l:List Oper} {i:Nat},sq P ops a0 G p VP D i l->∀(k:Nat) (o:Oper),l[k]?=some o->Ea P ops a0 G p VP D (i+k) o
 |o::rest,i,⟨h,_⟩,0,o',ho=>by simp at ho;subst ho;exact h
 |o::rest,i,⟨_,h⟩,k+1,o',ho=>by have:=sq.kI h k o' (by simpa using ho);rwa [show i+1+k=i+(k+1)by omega]at this
 |[],_,_,k,_,ho=>by simp at ho
def KH(P:Program)(ops:List Oper)(a0:Act)(G:(Nat->Bool)->World->Prop)(VP:Nat->Value->Prop)(D:nV)(i:Nat)(o:Oper):Prop:=
 ∀(f:Nat->Bool) (a:Act) (w:World),f i=false->(∀b,lh o b=true->f b=true)->(∀b,lz ops ops.length b i=true->f b=false)->G f w->(∀t,(lf ops).contains t=false->a.eval (.tmp t)=a0.eval (.tmp t))->
  (∀b c,ops[b]?=some c->lh o b=true->VP b (lZ a c))->(∀e∈D,∀c,ops[e.1]?=some c->lh o e.1=true->e.2 (lZ a c) w)->
  (∀b c d,ops[b]?=some c->c.dst=some d->lz ops ops.length b i=true->a.eval (.tmp d)=a0.eval (.tmp d))->
  kt P a o w λv w'=>VP i (vd o v)/\G (λb=>if b=i then true else f b) w'/\∀e∈D,(e.1=i->e.2 (vd o v) w')/\(e.1≠i->lz ops ops.length e.1 i=false->∀u,e.2 u w->e.2 u w')
def sr(P:Program)(ops:List Oper)(a0:Act)(G:(Nat->Bool)->World->Prop)(VP:Nat->Value->Prop)(D:nV):Nat->List Oper->Prop
 |_,[]=>True
 |i,o::rest=>KH P ops a0 G VP D i o/\sr P ops a0 G VP D (i+1) rest
theorem sr.kI{P:Program}{ops:List Oper}{a0:Act}{G:(Nat->Bool)->World->Prop}{VP:Nat->Value->Prop}{D:nV}:∀{l:List Oper} {i:Nat},sr P ops a0 G VP D i l->∀(k:Nat) (o:Oper),l[k]?=some o->KH P ops a0 G VP D (i+k) o
 |o::rest,i,⟨h,_⟩,0,o',ho=>by simp at ho;subst ho;exact h
 |o::rest,i,⟨_,h⟩,k+1,o',ho=>by have:=sr.kI h k o' (by simpa using ho);rwa [show i+1+k=i+(k+1)by omega]at this
 |[],_,_,k,_,ho=>by simp at ho
def sv(ops:List Oper)(a:Act):Nat->Value:=λb=>match ops[b]? with|some o=>lZ a o|none=>undef
def up{a:Type}(f:Nat->a)(i:Nat)(x:a):Nat->a:=λb=>if b=i then x else f b
theorem rF{ops:List Oper}{a:Act}{b:Nat}{o:Oper}(h:ops[b]?=some o):sv ops a b=lZ a o:=by simp[sv,h]
section
variable {P:Program} {ops:List Oper} {a0:Act} {Q:Exit→Act→World→Prop}
theorem kt.imp{a:Act}{o:Oper}{w:World}{K c:Value->World->Prop}(h:kt P a o w K)(b:∀v w',K v w'->c v w'):kt P a o w c:=by
 unfold kt at*;generalize(execOp a.eval o).run P w=r at*;cases r with
 |ok n w'=>
  cases n<;>simp only[rH]at h⊢;case value u=>exact b _ _ h
  case skip=>exact b _ _ h
  case enter f args=>exact⟨h.1,h.2.mono λe g ⟨v,he,d⟩=>⟨v,he,b _ _ d⟩⟩
 |halt x w'=>simp only[rH]at h
structure RU(ops:List Oper)(a0:Act)(J:(Nat->Bool)->(Nat->Value)->World->Prop)(listed:Array Bool)(a:Act)(w:World):Prop where
 size:listed.size=ops.length
 defers:a.defers=a0.defers
 Dt:a.tmps.size=a0.tmps.size
 fix:∀t,(lf ops).contains t=false->a.tmps[t]?=a0.tmps[t]?
 KI:∀j oj d,ops[j]?=some oj->oj.dst=some d->listed.getD j false=false->a.tmps[d]?=a0.tmps[d]?
 closed:∀j oj,ops[j]?=some oj->listed.getD j false=true->∀e∈oj.after,Region.binds .any e=true->listed.getD e.on false=true
 j:J (λj=>listed.getD j false) (sv ops a) w
def Lz(P:Program)(ops:List Oper)(a0:Act)(f:(Nat->Bool)->(Nat->Value)->World->Prop)(i:Nat)(o:Oper):Prop:=
 ∀(e:Nat->Bool) (a:Act) (w:World),e i=false->(∀c,lh o c=true->e c=true)->(∀k c,e k=true->lz ops ops.length k c=true->e c=true)->(∀t,(lf ops).contains t=false->a.eval (.tmp t)=a0.eval (.tmp t))->
  (∀c j d,ops[c]?=some j->j.dst=some d->e c=false->a.eval (.tmp d)=a0.eval (.tmp d))->f e (sv ops a) w->
  (∀g b,o.guard=some (g,b)->((ops[g]?).bind (·.dst)).isSome=true/\sv ops a g=.bool b)/\kt P a o w λv w'=>f (up e i true) (up (sv ops a) i (vd o v)) w'
theorem RU.final{j:(Nat->Bool)->(Nat->Value)->World->Prop}(hn:(lf ops).Nodup)(k:∀o∈ops,∀d,o.dst=some d->d<a0.tmps.size){l:Array Bool}{a:Act}{w:World}(h:RU ops a0 j l a w)
  (v:∀c,c<ops.length->l.getD c false=true) (x:∀(m:Nat->Bool) (n:Nat->Value) (w:World),(∀c,c<ops.length->m c=true)->j m n w->Q .normal (kr a0 ops n 0) w):Q .normal a w:=by
 have:=x _ _ w v h.j;have he:kr a0 ops (sv ops a) 0=a:=by
  have p:(kr a0 ops (sv ops a) 0).tmps=a.tmps:=by apply Array.ext_getElem?;intro t;by_cases f:t∈lf ops;have g:=f;unfold lf at g;rw[Pr]at g;obtain⟨o,i,hd⟩:=g;obtain⟨c,y,e⟩:=List.getElem_of_mem i;have q:ops[c]?=some o:=(by simp[y,e]);rw[yt ops a0 _ 0 c o t hn q hd (k o i t hd),NY,rF q];have z:t<a.tmps.size:=(by rw[h.Dt];exact k o i t hd);simp[lZ,hd,Act.eval,O1 z];rw[rb ops a0 _ 0 t f];exact(h.fix t (by simpa using f)).symm
  have r:=tq ops a0 (sv ops a) 0;have u:=h.defers;generalize sv ops a=s at*;obtain⟨A,B⟩:=a;generalize kr a0 ops s 0=b at*;obtain⟨C,D⟩:=b;simp only at p r u;rw[p,r,u]
 rw[he]at this;exact this
theorem RU.step{x:(Nat->Bool)->(Nat->Value)->World->Prop}(hn:(lf ops).Nodup)(D:∀o∈ops,∀d,o.dst=some d->d<a0.tmps.size)(R:∀i o,ops[i]?=some o->Lz P ops a0 x i o){m:Array Bool}{a:Act}{w:World}(h:RU ops a0 x m a w){i:Nat}(hi:i∈Region.ready .any ops.toArray m)
  {K:Act->World->Prop} (hK:∀a w,RU ops a0 x (m.setIfInBounds i true) a w->K a w):wpOp P ops.toArray Q i K a w:=by
 rw[mem_ready]at hi;obtain⟨r,o,E,F⟩:=hi;have n:ops[i]?=some o:=by simpa using E
 have S:∀f,lh o f=true->m.getD f false=true:=λf j=>by unfold lh at j;rw[List.any_eq_true]at j;obtain⟨k,y,j⟩:=j;simp only[OD,Pd]at j;have:=F k (by simpa using y) j.1;rwa [j.2]at this
 have G:∀{t:Nat},a.tmps[t]?=a0.tmps[t]? ->a.eval (.tmp t)=a0.eval (.tmp t):=λh=>by simp only[Act.eval,OB,h]
 have I:i<m.size:=by rcases PG i m.size with z|z;exact z;rw[OB,Array.getElem?_eq_none z]at r;simp at r
 have T:m.getD i false=false:=by rw[OB]at r⊢;rw[O1 I]at r⊢;simpa using r
 obtain⟨U,hp⟩:=R i o n (λf=>m.getD f false) a w T S (λk f y hd=>wT h.closed _ k f hd y) (λt u=>G (h.fix t u)) (λf q d j hd hx=>G (h.KI f q d j hd hx)) h.j;unfold wpOp;simp only[E];have V:Region.wanted o (yielded ops.toArray a.tmps)=true:=by
  unfold Region.wanted;cases hg:o.guard with
  |none=>rfl
  |some gb=>
   obtain⟨g,b⟩:=gb;obtain⟨J,p⟩:=U g b hg;rw[Option.isSome_iff_exists]at J;obtain⟨d,hd⟩:=J;rw[Option.bind_eq_some_iff]at hd;obtain⟨L,A,hd⟩:=hd;rw[rF A]at p;have M:d<a.tmps.size:=(by rw[h.Dt];exact D L (NH A) d hd);have W:a.tmps[d]?=some (.bool b):=by unfold lZ at p;rw[hd]at p;simp only[Act.eval,OB,O1 M,Option.getD_some]at p;rw[O1 M,p]
   have X:ops.toArray[g]?=some L:=(by simpa using A);simp[yielded,X,hd,W]
 rw[Oj V];refine .inl (hp.wp λv w' p=>hK _ _ ?_);have Y:∀d,o.dst=some d->d<a.tmps.size:=λd hd=>by rw[h.Dt];exact D o (NH n) d hd
 have B:∀f,f≠i->(m.setIfInBounds i true).getD f false=m.getD f false:=λf j=>getD_set_ne false (PD j);have N:(m.setIfInBounds i true).getD i false=true:=by rw[OB,Array.getElem?_setIfInBounds_self_of_lt I];rfl
 refine⟨by simpa using h.size,by rw[put_defers];exact h.defers,by rw[Aw];exact h.Dt,λt u=>?_,λf q d j hd s=>?_,λf q j s e he O=>?_,?_⟩
 .rw[<-h.fix t u];cases hd:o.dst with
  |none=>rfl
  |some d=>
   have C:d≠t:=λe=>by have:t∈lf ops:=(by unfold lf;rw[Pr];exact⟨o,NH n,by rw[hd,e]⟩);rw[<-List.contains_iff_mem,u]at this;cases this
   simp[Act.put,OH C]
 .have l:f≠i:=λe=>by subst e;rw[N]at s;cases s
  rw[<-h.KI f q d j hd (by rw[<-B f l];exact s)];cases Je:o.dst with
  |none=>rfl
  |some c=>
   have C:c≠d:=λe=>by subst e;exact l (DA hn j n hd Je)
   simp[Act.put,OH C]
 .by_cases l:f=i;subst l;rw[n]at j;injection j with j;subst j;exact getD_set_true (F e he O);exact getD_set_true (h.closed f q j (by rw[<-B f l];exact s) e he O)
 .have Z:(λf=>(m.setIfInBounds i true).getD f false)=up (λf=>m.getD f false) i true:=by funext f;unfold up;by_cases l:f=i;rw[Oj l,l,N];rw[Od l,B f l]
  have aa:sv ops (a.put o.dst v)=up (sv ops a) i (vd o v):=by
   funext f;unfold up;by_cases l:f=i;rw[Oj l,l,rF n,Cp a v Y];rw[Od l];cases j:ops[f]? with
   |none=>simp[sv,j]
   |some q=>rw[rF j,rF j,Eg hn n j (PD l)]
  rw[Z,aa];exact p
theorem RU.any{g:(Nat->Bool)->(Nat->Value)->World->Prop}(j:∀i o,ops[i]?=some o->∀e∈o.after,Region.binds .any e=true->e.on<i)(hn:(lf ops).Nodup)(c:∀o∈ops,∀d,o.dst=some d->d<a0.tmps.size)(l:∀i o,ops[i]?=some o->Lz P ops a0 g i o)
  (k:∀(m:Nat->Bool) (n:Nat->Value) (w:World),(∀p,p<ops.length->m p=true)->g m n w->Q .normal (kr a0 ops n 0) w):
  ∀(f:Nat) (b:Array Bool) (a:Act) (w:World),Ks b=f->RU ops a0 g b a w->wpAny P .any ops.toArray Q f b a w
 |0,b,a,w,hu,h=>by
  have hr:Region.ready .any ops.toArray b=[]:=by
   cases hx:Region.ready .any ops.toArray b with
   |nil=>rfl
   |cons i t=>have:i∈Region.ready .any ops.toArray b:=(by rw[hx];exact List.mem_cons_self);rw[mem_ready]at this;have:=Dz this.1;omega
  exact⟨hr,h.final hn c (wU j h.size hr) k⟩
 |f+1,b,a,w,hu,h=>by refine⟨λhr=>h.final hn c (wU j h.size hr) k,λi hi=>h.step hn c l hi λr w' s=>?_⟩;have q:=hi;rw[mem_ready]at q;have:=Dz q.1;exact RU.any j hn c l k f _ r w' (by omega) s
theorem vA{id:Nat}{w0:World}(c:(Nat->Bool)->(Nat->Value)->World->Prop)(hm:P.follows .mixedOrders=true)(k:rI ops=true)(l:(ops.all λo=>match o.dst with|some d=>decide (d<a0.tmps.size)|none=>true)=true)
  (m:∀b,c (λ_=>false) b {w0 with drawn:=w0.drawn+1}) (n:∀i o,ops[i]?=some o->Lz P ops a0 c i o)
  (p:∀(f:Nat->Bool) (b:Nat->Value) (w:World),(∀a,a<ops.length->f a=true)->c f b w->Q .normal (kr a0 ops b 0) w):(Code.region id ops.toArray true).wp P Q a0 w0:=by
 obtain⟨q,hn⟩:=vz k;refine wp_region_any hm ?_;have r:∀o∈ops,∀d,o.dst=some d->d<a0.tmps.size:=λo s d hd=>by have:=OO.1 l o s;rw[hd]at this;simpa using this
 have g:∀a,(Array.replicate ops.toArray.size false).getD a false=false:=λa=>by rw[OB,Array.getElem?_replicate];split<;>rfl
 have hu:Ks (Array.replicate ops.toArray.size false)=ops.toArray.size:=by simp[Ks]
 refine RU.any q hn r n p _ _ _ _ hu ⟨by simp,rfl,rfl,λ_ _=>rfl,λ_ _ _ _ _ _=>rfl,λa t u j=>?_,?_⟩
 .rw[g a]at j;cases j
 .have e:(λa=>(Array.replicate ops.toArray.size false).getD a false)=λ_=>false:=funext g;rw[e];exact m _
abbrev KJ:=List (Nat×Nat×((Nat->Bool)->Value->Value->World->Prop))
def LX(P:Program)(ops:List Oper)(a0:Act)(G:(Nat->Bool)->World->Prop)(VP:Nat->Value->Prop)(D:KJ)(i:Nat)(o:Oper):Prop:=
 ∀(c:Nat->Bool) (a:Act) (w:World),c i=false->(∀b,lh o b=true->c b=true)->(∀b,lz ops ops.length b i=true->c b=false)->G c w->(∀t,(lf ops).contains t=false->a.eval (.tmp t)=a0.eval (.tmp t))->
  (∀b f,ops[b]?=some f->lh o b=true->VP b (lZ a f))->(∀e∈D,∀f ok,ops[e.1]?=some f->ops[e.2.1]?=some ok->lh o e.1=true->e.2.2 c (lZ a f) (lZ a ok) w)->
  (∀b f d,ops[b]?=some f->f.dst=some d->lz ops ops.length b i=true->a.eval (.tmp d)=a0.eval (.tmp d))->
  kt P a o w λv w'=>VP i (vd o v)/\G (up c i true) w'/\∀e∈D,(e.1=i->∀ok,ops[e.2.1]?=some ok->e.2.2 (up c i true) (vd o v) (if e.2.1=i then vd o v else lZ a ok) w')/\(e.1≠i->lz ops ops.length e.1 i=false->∀u g,e.2.2 c u g w->e.2.2 (up c i true) u g w')
theorem qa{id:Nat}{w0:World}(G:(Nat->Bool)->World->Prop)(VP:Nat->Value->Prop)(D:KJ)(hm:P.follows .mixedOrders=true)(N:rI ops=true)(O:∀e∈D,e.2.1=e.1\/lz ops ops.length e.1 e.2.1=true)(R:vv ops VP ops)(n:Nat)(hn:a0.tmps.size=n)(S:(ops.all λo=>match o.dst with|some d=>decide (d<n)|none=>true)=true)(T:G (λ_=>false) {w0 with drawn:=w0.drawn+1})(U:∀i o,ops[i]?=some o->LX P ops a0 G VP D i o)
  (V:∀(f:Nat->Bool) (l:Nat->Value) (w:World),(∀c,c<ops.length->f c=true)->G f w->(∀c,c<ops.length->VP c (l c))->(∀e∈D,e.1<ops.length->e.2.1<ops.length->e.2.2 f (l e.1) (l e.2.1) w)->Q .normal (kr a0 ops l 0) w):(Code.region id ops.toArray true).wp P Q a0 w0:=by
 subst hn;have s:∀{c:Nat} {o:Oper},ops[c]?=some o->c<ops.length:=λh=>(NW.1 h).1;refine vA (λf l w=>G f w/\(∀c,c<ops.length->f c=true->VP c (l c))/\∀e∈D,e.1<ops.length->e.2.1<ops.length->f e.1=true->e.2.2 f (l e.1) (l e.2.1) w) hm N S (λ_=>⟨T,λ_ _ h=>Bool.noConfusion h,λ_ _ _ _ h=>Bool.noConfusion h⟩) (λi o hi f a w z t hc hf hw ⟨g,q,hd⟩=>⟨λA b W=>?_,?_⟩) (λf l w k ⟨g,q,hd⟩=>V f l w k g (λc j=>q c j (k c j)) λe he u B=>hd e he u B (k _ u))
 .obtain⟨X,C,Y⟩:=R.kI o (NH hi) A b W;refine⟨C,?_⟩;rw[Option.isSome_iff_exists]at C;obtain⟨d,hd⟩:=C;rw[Option.bind_eq_some_iff]at hd;obtain⟨ac,Z,_⟩:=hd;exact Y _ (q A (s Z) (t A X))
 .have E:∀c,lz ops ops.length c i=true->f c=false:=λc j=>by
   cases hx:f c with
   |false=>rfl
   |true=>have:=hc c i hx j;rw[z]at this;cases this
  refine(U i o hi f a w z t E g hf (λc F j I=>rF j▸q c (s j) (t c I)) (λe he F ok j r I=>rF j▸rF r▸hd e he (s j) (s r) (t _ I)) λc F d j aa hx=>hw c F d j aa (E c hx)).imp λv w' ⟨u,B,K⟩=>⟨B,λc j k=>?_,λe he ab L k=>?_⟩
  unfold up at k⊢;by_cases m:c=i;rw[Oj m,m];exact u;rw[Od m]at k⊢;exact q c j k;have r:ops[e.2.1]?=some ops[e.2.1]:=(by simp[L]);by_cases m:e.1=i;have x:=(K e he).1 m _ r;rw[show up (sv ops a) i (vd o v) e.1=vd o v by unfold up;rw[Oj m]];by_cases p:e.2.1=i;rw[Oj p]at x;rw[show up (sv ops a) i (vd o v) e.2.1=vd o v by unfold up;rw[Oj p]];exact x;rw[Od p]at x;rw[show up (sv ops a) i (vd o v) e.2.1=lZ a ops[e.2.1]by unfold up;rw[Od p,rF r]];exact x;have J:f e.1=true:=(by unfold up at k;rw[Od m]at k;exact k);have p:e.2.1≠i:=λM=>by rcases O e he with y|y;exact m (y.symm.trans M);rw[M]at y;have:=hc _ _ J y;rw[z]at this;cases this
  rw[show up (sv ops a) i (vd o v) e.1=sv ops a e.1 by unfold up;rw[Od m],show up (sv ops a) i (vd o v) e.2.1=sv ops a e.2.1 by unfold up;rw[Od p]];refine(K e he).2 m ?_ _ _ (hd e he ab L J);cases hx:lz ops ops.length e.1 i with
  |false=>rfl
  |true=>have:=E _ hx;rw[J]at this;cases this
theorem zw{VP:Nat->Value->Prop}:∀{l:List Oper},(∀o∈l,o.guard=none)->vv ops VP l
 |[],_=>trivial
 |o::l,h=>⟨by rw[h o (by simp)];trivial,zw λo a=>h o (by simp[a])⟩
theorem LA(h:sZ ops=true):rI ops=true/\∀o∈ops,o.guard=none:=by unfold sZ at h;unfold rI;simp only[OD]at h⊢;exact⟨⟨h.1.2,h.2⟩,λo a=>by simpa using OO.1 h.1.1 o a⟩
theorem xt{id:Nat}{w0:World}(G:World->Prop)(VP:Nat->Value->Prop)(D:wq)(hm:P.follows .mixedOrders=true)(j:rI ops=true)(k:(D.all λe=>e.2.1==e.1||lz ops ops.length e.1 e.2.1)=true)(l:vv ops VP ops)(n:Nat)(hn:a0.tmps.size=n)(m:(ops.all λo=>match o.dst with|some d=>decide (d<n)|none=>true)=true)(p:G {w0 with drawn:=w0.drawn+1})(q:sk P ops a0 G VP D 0 ops)
  (r:∀(b:Nat->Value) (w:World),G w->(∀c,c<ops.length->VP c (b c))->(∀e∈D,e.1<ops.length->e.2.1<ops.length->e.2.2 (b e.1) (b e.2.1) w)->Q .normal (kr a0 ops b 0) w):(Code.region id ops.toArray true).wp P Q a0 w0:=by
 refine qa (λ_=>G) VP (D.map λe=>(e.1,e.2.1,λ_=>e.2.2)) hm j ?_ l n hn m p (λi o hi x a w _ _ _ g hf f hd hw=>?_) λ_ b w _ g f hd=>r b w g f λe he=>hd _ (OY he)
 .rw[Pl];exact λe he=>by simpa using OO.1 k e he
 .have:=q.kI i o hi;rw[NY]at this;refine(this a w g hf f (λe he=>hd _ (OY he)) hw).imp λv w' ⟨s,t,u⟩=>⟨s,t,?_⟩
  rw[Pl];exact u
theorem oG{id:Nat}{w0:World}(G:(Nat->Bool)->World->Prop)(VP:Nat->Value->Prop)(D:nV)(hm:P.follows .mixedOrders=true)(r:sZ ops=true)(n:Nat)(hn:a0.tmps.size=n)(s:(ops.all λo=>match o.dst with|some d=>decide (d<n)|none=>true)=true)(t:G (λ_=>false) {w0 with drawn:=w0.drawn+1})(x:sr P ops a0 G VP D 0 ops)
  (y:∀(b:Nat->Bool) (f:Nat->Value) (w:World),(∀c,c<ops.length->b c=true)->G b w->(∀c,c<ops.length->VP c (f c))->(∀e∈D,e.1<ops.length->e.2 (f e.1) w)->Q .normal (kr a0 ops f 0) w):(Code.region id ops.toArray true).wp P Q a0 w0:=by
 obtain⟨z,A⟩:=LA r;refine qa G VP (D.map λe=>(e.1,e.1,λ_ v _ w=>e.2 v w)) hm z ?_ (zw A) n hn s t (λi o hi b a w k B hx g hf l hd hw=>?_) λb f w k g l hd=>y b f w k g l λe he j=>hd _ (OY he) j j
 .rw[Pl];exact λ_ _=>.inl rfl
 .have:=x.kI i o hi;rw[NY]at this;refine(this b a w k B hx g hf l (λe he m p=>hd _ (OY he) m m p p) hw).imp λv w' ⟨j,C,q⟩=>⟨j,C,?_⟩
  rw[Pl];exact λe he=>⟨λh _ _=>(q e he).1 h,λh hd u _=>(q e he).2 h hd u⟩
theorem xT{id:Nat}{w0:World}(G:World->Prop)(VP:Nat->Value->Prop)(D:nV)(hm:P.follows .mixedOrders=true)(f:sZ ops=true)(n:Nat)(hn:a0.tmps.size=n)(j:(ops.all λo=>match o.dst with|some d=>decide (d<n)|none=>true)=true)(k:G {w0 with drawn:=w0.drawn+1})(m:tI P ops a0 G VP D 0 ops)
  (p:∀(b:Nat->Value) (w:World),G w->(∀c,c<ops.length->VP c (b c))->(∀e∈D,e.1<ops.length->e.2 (b e.1) w)->Q .normal (kr a0 ops b 0) w):(Code.region id ops.toArray true).wp P Q a0 w0:=by
 refine oG (λ_=>G) VP D hm f n hn j k ?_ λ_ b w _ g q hd=>p b w g q hd;have:∀{l:List Oper} {i:Nat},tI P ops a0 G VP D i l->sr P ops a0 (λ_=>G) VP D i l:=λ{l}=>by
  induction l with
  |nil=>exact λ_=>trivial
  |cons o l r=>exact λh=>⟨λ_ a w _ _ _=>h.1 a w,r h.2⟩
 exact this m
theorem xu{id:Nat}{w0:World}(p:Nat)(G:Bool->World->Prop)(VP:Nat->Value->Prop)(D:nV)(hm:P.follows .mixedOrders=true)(x:sZ ops=true)(f:FL ops p=true)(n:Nat)(hn:a0.tmps.size=n)(y:(ops.all λo=>match o.dst with|some d=>decide (d<n)|none=>true)=true)(z:G false {w0 with drawn:=w0.drawn+1})(A:sq P ops a0 G p VP D 0 ops)
  (B:∀(j:Nat->Value) (w:World),G true w->(∀k,k<ops.length->VP k (j k))->(∀e∈D,e.1<ops.length->e.2 (j e.1) w)->Q .normal (kr a0 ops j 0) w):(Code.region id ops.toArray true).wp P Q a0 w0:=by
 obtain⟨C,E⟩:=LA x;unfold FL at f;simp only[OD,Pg,OO,PA]at f;obtain⟨hp,f⟩:=f;refine qa (λc=>G (c p)) VP (D.map λe=>(e.1,e.1,λ_ v _ w=>e.2 v w)) hm C ?_ (zw E) n hn y z (λi o hi c a w l F hx g hf m hd hw=>?_) λc j w l g m hd=>B j w (l p hp▸g) m λe he b=>hd _ (OY he) b b
 .rw[Pl];exact λ_ _=>.inl rfl
 .have:=A.kI i o hi;rw[NY]at this;have I:i<ops.length:=(NW.1 hi).1;have b:=f i I;rw[hi]at b;have q:c p=decide (p<i):=by rcases Nat.lt_trichotomy i p with h|h|h;rw[Oj h]at b;rw[hx p b.1];simp;omega;rw[<-h,l];simp;rw[Oj h]at b;rw[F p b.2];simp[h]
  have J:up c i true p=decide (p<=i):=by unfold up;by_cases h:p=i;rw[Oj h,h];simp;rw[Od h,q];simp;omega
  refine(this a w (q▸g) hf m (λe he r s=>hd _ (OY he) r r s s) hw).imp λv w' ⟨b,K,t⟩=>⟨b,by show G (up c i true p) w';rw[J];exact K,?_⟩
  rw[Pl];exact λe he=>⟨λh _ _=>(t e he).1 h,λh hd u _=>(t e he).2 h hd u⟩
theorem rZ{id:Nat}{w0:World}(G:World->Prop)(r:(Nat->Value)->Value->World->Prop)(VP:Nat->Value->Prop)(D:nV)(hm:P.follows .mixedOrders=true)(I:sZ ops=true)(u:zi ops=true)(W:0<ops.length)(n:Nat)(hn:a0.tmps.size=n)(J:(ops.all λo=>match o.dst with|some d=>decide (d<n)|none=>true)=true)(K:G {w0 with drawn:=w0.drawn+1})(L:sj P ops a0 G r VP D 0 ops)
  (M:∀(k:Nat->Value) (w:World),(∀c,c<ops.length-1->VP c (k c))->r (λc=>if c<ops.length-1 then k c else undef) (k (ops.length-1)) w->Q .normal (kr a0 ops k 0) w):(Code.region id ops.toArray true).wp P Q a0 w0:=by
 obtain⟨x,N⟩:=LA I;subst hn;have y:∀{c:Nat} {o:Oper},ops[c]?=some o->c<ops.length:=λh=>(NW.1 h).1;have O:∀c,c<ops.length-1->lz ops ops.length (ops.length-1) c=true:=λc f=>by unfold zi at u;exact OO.1 u c (PA.2 f)
 refine vA (λl k w=>(∀c,c<ops.length-1->l c=true->VP c (k c))/\(l (ops.length-1)=false->G w/\∀e∈D,e.1<ops.length->l e.1=true->e.2 (k e.1) w)/\(l (ops.length-1)=true->r (λc=>if c<ops.length-1 then k c else undef) (k (ops.length-1)) w)) hm x J (λ_=>⟨λ_ _ h=>by(cases h),λ_=>⟨K,λ_ _ _ h=>by cases h⟩,λh=>by cases h⟩) (λi o hi l a w z A hc hf hw ⟨p,hd,hF⟩=>⟨λX b B=>?_,?_⟩) λl k w j ⟨p,_,hF⟩=>M k w (λc f=>p c f (j c (by omega))) (hF (j _ (by omega)))
 .rw[N o (NH hi)]at B;cases B
 .have s:∀c,lz ops ops.length c i=true->l c=false:=λc f=>by
   cases hx:l c with
   |false=>rfl
   |true=>have:=hc c i hx f;rw[z]at this;cases this
  have Y:=y hi;have C:l (ops.length-1)=false:=by rcases PG i (ops.length-1)with h|h;exact s _ (O i h);rw[show ops.length-1=i by omega];exact z
  obtain⟨g,hd⟩:=hd C;have R:∀{c:Nat},lh o c=true->c<ops.length-1:=λ{c} f=>by unfold lh at f;rw[List.any_eq_true]at f;obtain⟨e,he,f⟩:=f;simp only[OD,Pd]at f;have:=(vz x).1 i o hi e (by simpa using he) f.1;omega
  obtain⟨o1,o2⟩:=L.kI i o hi a w g hf (λc t f q=>rF f▸p c (R q) (A c q)) (λe he t f q=>rF f▸hd e he (y f) (A _ q)) λc t d f S hx=>hw c t d f S (s c (by rw[NY]at hx;exact hx));by_cases T:i+1=ops.length;refine(o1 T).imp λv w' h=>⟨λc f j=>?_,λj=>?_,λ_=>?_⟩
  unfold up at j⊢;rw[Od (by omega)]at j⊢;exact p c f j;unfold up at j;rw[Oj (by omega)]at j;cases j;have e:(λc=>if c<ops.length-1 then up (sv ops a) i (vd o v) c else undef)=vo ops a:=by funext c;unfold vo up;by_cases f:c<ops.length-1;rw[Oj f,Oj f,Od (by omega)];rfl;rw[Od f,Od f]
  rw[e,show up (sv ops a) i (vd o v) (ops.length-1)=vd o v by unfold up;rw[Oj (by omega)]];exact h;refine(o2 (by omega)).imp λv w' ⟨E,U,F⟩=>⟨λc f j=>?_,λj=>⟨U,λe he V j=>?_⟩,λj=>?_⟩
  unfold up at j⊢;by_cases m:c=i;rw[Oj m,m];rw[NY]at E;exact E;rw[Od m]at j⊢;exact p c f j;unfold up at j⊢;by_cases m:e.1=i;rw[Oj m];exact(F e he).1 (by rw[NY];exact m);rw[Od m]at j⊢;refine(F e he).2 (by rw[NY];exact m) ?_ _ (hd e he V j);rw[NY];cases hx:lz ops ops.length e.1 i with
  |false=>rfl
  |true=>have:=s _ hx;rw[j]at this;cases this
  unfold up at j;rw[Od (by omega),C]at j;cases j
theorem xv{id:Nat}{w0:World}(G:World->Prop)(a:Value->World->Prop)(VP:Nat->Value->Prop)(D:nV)(hm:P.follows .mixedOrders=true)(e:sZ ops=true)(f:zi ops=true)(g:0<ops.length)(n:Nat)(hn:a0.tmps.size=n)(i:(ops.all λo=>match o.dst with|some d=>decide (d<n)|none=>true)=true)(j:G {w0 with drawn:=w0.drawn+1})(k:DB P ops a0 G a VP D 0 ops)
  (l:∀(b:Nat->Value) (w:World),(∀c,c<ops.length-1->VP c (b c))->a (b (ops.length-1)) w->Q .normal (kr a0 ops b 0) w):(Code.region id ops.toArray true).wp P Q a0 w0:=
 rZ G (λ_=>a) VP D hm e f g n hn i j k l
end
def mG(l:List (Value->Prop))(a:Nat)(v:Value):Prop:=(l[a]?.getD λ_=>True) v
theorem mn{a:Act}{t:Nat}{v:Value}(h:a.eval (.tmp t)=v):a.tmps[t]?.getD undef=v:=by rw[<-h];simp[Act.eval]
theorem kt.mS{P:Program}{a:Act}{o:Oper}{w:World}{b:Value->World->Prop}(h:∀K:Value->World->Prop,(∀v w',b v w'->K v w')->kt P a o w K):kt P a o w b:=h _ λ_ _ h=>h
end Go.Proofs.YtfemcncookpdhaaGreatDoor
universe u
theorem Xq{b:Sort u}(a:b):∃q,q=a:=⟨a,rfl⟩
theorem Gx{a:Type}{l:List a}{k:Nat}(h:k<l.length):∃x,l[k]?=some x:=⟨_,List.getElem?_eq_getElem h⟩
namespace Go.Proofs.YtfemcncookpdhaaGreatDoor
open Go Go.Proofs.Tryz
theorem Sl{a:Act}(t:Nat){v:Value}(h:a.eval (.tmp t)=v):a.tmps[t]?.getD undef=v:=mn h
theorem Ba(w:World)(a:Obj):RowKit.Below w.heap.size w (w.alloc a):=(RowKit.Below.refl w.heap.size w).alloc (NQ _) a
theorem Cb{w w':World}(b o:Nat)(h:w'.heap[b]?=w.heap[b]?):w'.cell? ⟨b,o,none⟩=w.cell? ⟨b,o,none⟩:=World.cell?_of_block (a:=⟨b,o,none⟩) h
theorem Hq{p:Prop}(h:p):RowKit.Hid p:=h
theorem Lb{a b:Nat}(h:Nat.ble (a+1) b=true:=by rfl):a<b:=Nat.le_of_ble_eq_true h
theorem Mm{a:Type}{l:List a}{x:a}(k:Nat)(h:l[k]?=some x):x∈l:=NH h
abbrev Tr:Value->Prop:=λ_=>True
def cv(v:Value):Operand->Value
 | .const c=>c
 |_=>v
section
variable {P:Program} {a:Act} {o:Oper} {w:World} {K:Value→World→Prop}
theorem kt.p(t:Nat){v u:Value}(e:a.eval (.tmp t)=v)(b:K u w)(hx:execOp a.eval o=execOp (cv (a.eval (.tmp t))) o:=by rfl)(hr:(execOp (cv v) o).run P w=.ok (.value u) w:=by kernel_rfl):kt P a o w K:=by unfold kt;rw[hx,e,hr];exact b
theorem kt.h{b:Value->World->Prop}(h:∀K:Value->World->Prop,(∀{v w'},b v w'->K v w')->rH P w K ((execOp a.eval o).run P w)):kt P a o w b:=h _ λh=>h
theorem kt.q{b:Value->World->Prop}{v:Value}{w':World}(e:∀K:Value->World->Prop,K v w'->rH P w K ((execOp a.eval o).run P w):=by intro K k;go_simp;exact k)(g:b v w'):kt P a o w b:=kt.h λK hK=>e K (hK g)
theorem kt.l(x:Nat){t:TypeId}{p:Addr}{u:Value}(e:a.eval (.tmp x)=.pointer (some p))(c:w.cell? p=some u)(b:K u w)(d:o.op=.load t (.tmp x):=by rfl)(f:(isAgg t).run P w=.ok false w:=by kernel_rfl):kt P a o w K:=by unfold kt execOp;simp only[d,e,Instr.loadAt,Instr.sureAddr,Oh,Oi,N8,loadVar,f,Bool.false_eq_true,if_false,run_load,c,rH];exact b
end
section
variable {ops:List Oper} {i:Nat} {v:Value} {w w':World}
theorem Qa{D:nV}(h:(D.all λe=>!(e.1==i))=true:=by rfl):∀e∈D,(e.1=i->e.2 v w)/\(e.1≠i->lz ops ops.length e.1 i=false->∀u,e.2 u w->e.2 u w):=λe he=>by have:=OO.1 h e he;simp at this;exact⟨λh=>absurd h this,λ_ _ _ hu=>hu⟩
theorem Qb{D:nV}{e:Nat×(Value->World->Prop)}(t:∀e∈D,(e.1=i->e.2 v w')/\(e.1≠i->lz ops ops.length e.1 i=false->∀u,e.2 u w->e.2 u w'))(h:(e.1==i)=false:=by rfl)(k:lz ops ops.length e.1 i=false->∀u,e.2 u w->e.2 u w':=by first|exact λ_ _ h=>h|exact λh=>Bool.noConfusion (show true=false from h)):∀x∈e::D,(x.1=i->x.2 v w')/\(x.1≠i->lz ops ops.length x.1 i=false->∀u,x.2 u w->x.2 u w'):=
 List.forall_mem_cons.2 ⟨⟨λe=>by rw[e]at h;simp at h,λ_=>k⟩,t⟩
theorem Q2{D:nV}{a b:Nat×(Value->World->Prop)}(t:∀e∈D,(e.1=i->e.2 v w')/\(e.1≠i->lz ops ops.length e.1 i=false->∀u,e.2 u w->e.2 u w'))(c:(a.1==i)=false:=by rfl)(d:lz ops ops.length a.1 i=false->∀u,a.2 u w->a.2 u w':=by first|exact λ_ _ h=>h|exact λh=>Bool.noConfusion (show true=false from h))(f:(b.1==i)=false:=by rfl)(g:lz ops ops.length b.1 i=false->∀u,b.2 u w->b.2 u w':=by first|exact λ_ _ h=>h|exact λh=>Bool.noConfusion (show true=false from h)):∀x∈a::b::D,(x.1=i->x.2 v w')/\(x.1≠i->lz ops ops.length x.1 i=false->∀u,x.2 u w->x.2 u w'):=
 Qb (Qb t f g) c d
theorem Q4{D:nV}{a b e3 e4:Nat×(Value->World->Prop)}(t:∀e∈D,(e.1=i->e.2 v w')/\(e.1≠i->lz ops ops.length e.1 i=false->∀u,e.2 u w->e.2 u w'))(c:(a.1==i)=false:=by rfl)(d:lz ops ops.length a.1 i=false->∀u,a.2 u w->a.2 u w':=by first|exact λ_ _ h=>h|exact λh=>Bool.noConfusion (show true=false from h))(f:(b.1==i)=false:=by rfl)(g:lz ops ops.length b.1 i=false->∀u,b.2 u w->b.2 u w':=by first|exact λ_ _ h=>h|exact λh=>Bool.noConfusion (show true=false from h))(j:(e3.1==i)=false:=by rfl)(k:lz ops ops.length e3.1 i=false->∀u,e3.2 u w->e3.2 u w':=by first|exact λ_ _ h=>h|exact λh=>Bool.noConfusion (show true=false from h))(l:(e4.1==i)=false:=by rfl)(m:lz ops ops.length e4.1 i=false->∀u,e4.2 u w->e4.2 u w':=by first|exact λ_ _ h=>h|exact λh=>Bool.noConfusion (show true=false from h)):∀x∈a::b::e3::e4::D,(x.1=i->x.2 v w')/\(x.1≠i->lz ops ops.length x.1 i=false->∀u,x.2 u w->x.2 u w'):=
 Q2 (Q2 t j k l m) c d f g
theorem Qd{D:nV}{e:Nat×(Value->World->Prop)}(k:∀u,e.2 u w->e.2 u w')(t:∀e∈D,(e.1=i->e.2 v w')/\(e.1≠i->lz ops ops.length e.1 i=false->∀u,e.2 u w->e.2 u w'))(h:(e.1==i)=false:=by rfl):∀x∈e::D,(x.1=i->x.2 v w')/\(x.1≠i->lz ops ops.length x.1 i=false->∀u,x.2 u w->x.2 u w'):=
 Qb t h λ_=>k
theorem Qc{D:nV}{e:Nat×(Value->World->Prop)}(k:e.2 v w')(t:∀e∈D,(e.1=i->e.2 v w')/\(e.1≠i->lz ops ops.length e.1 i=false->∀u,e.2 u w->e.2 u w'))(h:(e.1==i)=true:=by rfl):∀x∈e::D,(x.1=i->x.2 v w')/\(x.1≠i->lz ops ops.length x.1 i=false->∀u,x.2 u w->x.2 u w'):=
 List.forall_mem_cons.2 ⟨⟨λ_=>k,λn=>absurd (by simpa using h) n⟩,t⟩
theorem Qe{a:Type}{D:List a}{p:a->Prop}(h:D=[]:=by rfl):∀e∈D,p e:=by subst h;simp
end
section
variable {ops:List Oper} {i:Nat} {o:Oper} {a:Act} {v:Value} {w w':World}
abbrev F4(ops:List Oper)(i:Nat)(o:Oper)(a:Act)(v:Value)(w w':World)(e:Nat×Nat×(Value->Value->World->Prop)):Prop:=
 (e.1=i->∀ok,ops[e.2.1]?=some ok->e.2.2 (vd o v) (if e.2.1=i then vd o v else lZ a ok) w')/\(e.1≠i->lz ops ops.length e.1 i=false->∀u b,e.2.2 u b w->e.2.2 u b w')
theorem Ra{D:wq}(h:(D.all λe=>!(e.1==i))=true:=by rfl):∀e∈D,F4 ops i o a v w w e:=λe he=>by have:=OO.1 h e he;simp at this;exact⟨λh=>absurd h this,λ_ _ _ _ hu=>hu⟩
theorem Rb{D:wq}{e:Nat×Nat×(Value->Value->World->Prop)}(t:∀e∈D,F4 ops i o a v w w' e)(h:(e.1==i)=false:=by rfl)(k:lz ops ops.length e.1 i=false->∀u b,e.2.2 u b w->e.2.2 u b w':=by first|exact λ_ _ _ h=>h|exact λh=>Bool.noConfusion (show true=false from h)):∀x∈e::D,F4 ops i o a v w w' x:=
 List.forall_mem_cons.2 ⟨⟨λe=>by rw[e]at h;simp at h,λ_=>k⟩,t⟩
theorem Rd{D:wq}{e:Nat×Nat×(Value->Value->World->Prop)}(k:∀u b,e.2.2 u b w->e.2.2 u b w')(t:∀e∈D,F4 ops i o a v w w' e)(h:(e.1==i)=false:=by rfl):∀x∈e::D,F4 ops i o a v w w' x:=
 Rb t h λ_=>k
theorem Rc{D:wq}{e:Nat×Nat×(Value->Value->World->Prop)}(k:∀ok,ops[e.2.1]?=some ok->e.2.2 (vd o v) (if e.2.1=i then vd o v else lZ a ok) w')(t:∀e∈D,F4 ops i o a v w w' e)(h:(e.1==i)=true:=by rfl):∀x∈e::D,F4 ops i o a v w w' x:=
 List.forall_mem_cons.2 ⟨⟨λ_=>k,λn=>absurd (by simpa using h) n⟩,t⟩
end
theorem Sv{a:Act}(t:Nat){VP:Nat->Value->Prop}{ops:List Oper}{o:Oper}(d:∀b c,ops[b]?=some c->lh o b=true->VP b (lZ a c))(b:Nat){c:Oper}{v:Value}(e:ops[b]?=some c:=by rfl)(f:lh o b=true:=by rfl)(he:VP b (lZ a c)->a.eval (.tmp t)=v:=by exact λh=>h):a.tmps[t]?.getD undef=v:=mn (he (d b c e f))
section
variable {P:Program} {ops:List Oper} {a0:Act} {G:World→Prop} {VP:Nat→Value→Prop} {i:Nat} {o:Oper}
theorem Jd.f{D:nV}(t:Nat){u:Value}(b:(lf ops).contains t=false:=by rfl)(hu:VP i (vd o u):=by exact rfl)(hx:∀a:Act,execOp a.eval o=execOp (cv (a.eval (.tmp t))) o:=by intro a;rfl)(hr:∀w,(execOp (cv (a0.eval (.tmp t))) o).run P w=.ok (.value u) w:=by intro w;kernel_rfl)(c:(D.all λe=>!(e.1==i))=true:=by rfl):Jd P ops a0 G VP D i o:=
 λa w d hf _ _ _=>.p t (hf t b) ⟨hu,d,Qa c⟩ (hx a) (hr w)
theorem Jd.v{D:nV}(t b:Nat){c:Oper}{v u:Value}(d:ops[b]?=some c:=by rfl)(f:lh o b=true:=by rfl)(he:∀a:Act,VP b (lZ a c)->a.eval (.tmp t)=v:=by exact λ_ h=>h)(hu:VP i (vd o u):=by exact rfl)(hx:∀a:Act,execOp a.eval o=execOp (cv (a.eval (.tmp t))) o:=by intro a;rfl)(hr:∀w,(execOp (cv v) o).run P w=.ok (.value u) w:=by intro w;kernel_rfl)(g:(D.all λe=>!(e.1==i))=true:=by rfl):Jd P ops a0 G VP D i o:=
 λa w j _ k _ _=>.p t (he a (k b c d f)) ⟨hu,j,Qa g⟩ (hx a) (hr w)
theorem D9.f{D:wq}(t:Nat){u:Value}(b:(lf ops).contains t=false:=by rfl)(hu:VP i (vd o u):=by exact rfl)(hx:∀a:Act,execOp a.eval o=execOp (cv (a.eval (.tmp t))) o:=by intro a;rfl)(hr:∀w,(execOp (cv (a0.eval (.tmp t))) o).run P w=.ok (.value u) w:=by intro w;kernel_rfl)(c:(D.all λe=>!(e.1==i))=true:=by rfl):D9 P ops a0 G VP D i o:=
 λa w d hf _ _ _=>.p t (hf t b) ⟨hu,d,Ra c⟩ (hx a) (hr w)
theorem D9.v{D:wq}(t b:Nat){c:Oper}{v u:Value}(d:ops[b]?=some c:=by rfl)(f:lh o b=true:=by rfl)(he:∀a:Act,VP b (lZ a c)->a.eval (.tmp t)=v:=by exact λ_ h=>h)(hu:VP i (vd o u):=by exact rfl)(hx:∀a:Act,execOp a.eval o=execOp (cv (a.eval (.tmp t))) o:=by intro a;rfl)(hr:∀w,(execOp (cv v) o).run P w=.ok (.value u) w:=by intro w;kernel_rfl)(g:(D.all λe=>!(e.1==i))=true:=by rfl):D9 P ops a0 G VP D i o:=
 λa w j _ k _ _=>.p t (he a (k b c d f)) ⟨hu,j,Ra g⟩ (hx a) (hr w)
theorem Pf{D:nV}(t:Nat){u:Value}(b:(lf ops).contains t=false:=by rfl)(hu:VP i (vd o u):=by exact rfl)(hx:∀a:Act,execOp a.eval o=execOp (cv (a.eval (.tmp t))) o:=by intro a;rfl)(hr:∀w,(execOp (cv (a0.eval (.tmp t))) o).run P w=.ok (.value u) w:=by intro w;kernel_rfl)(c:(D.all λe=>!(e.1==i))=true:=by rfl):Jd P ops a0 G VP D i o:=
 λa w d hf _ _ _=>.p t (hf t b) ⟨hu,d,Qa c⟩ (hx a) (hr w)
theorem Pv{D:nV}(t b:Nat){c:Oper}{v u:Value}(d:ops[b]?=some c:=by rfl)(f:lh o b=true:=by rfl)(he:∀a:Act,VP b (lZ a c)->a.eval (.tmp t)=v:=by exact λ_ h=>h)(hu:VP i (vd o u):=by exact rfl)(hx:∀a:Act,execOp a.eval o=execOp (cv (a.eval (.tmp t))) o:=by intro a;rfl)(hr:∀w,(execOp (cv v) o).run P w=.ok (.value u) w:=by intro w;kernel_rfl)(g:(D.all λe=>!(e.1==i))=true:=by rfl):Jd P ops a0 G VP D i o:=
 λa w j _ k _ _=>.p t (he a (k b c d f)) ⟨hu,j,Qa g⟩ (hx a) (hr w)
theorem Ea.f{G:Bool->World->Prop}{p:Nat}{D:nV}(t:Nat){u:Value}(b:decide (p<i)=decide (p<=i):=by rfl)(c:(lf ops).contains t=false:=by rfl)(hu:VP i (vd o u):=by exact rfl)(hx:∀a:Act,execOp a.eval o=execOp (cv (a.eval (.tmp t))) o:=by intro a;rfl)(hr:∀w,(execOp (cv (a0.eval (.tmp t))) o).run P w=.ok (.value u) w:=by intro w;kernel_rfl)(d:(D.all λe=>!(e.1==i))=true:=by rfl):Ea P ops a0 G p VP D i o:=
 λa w f hf _ _ _=>.p t (hf t c) ⟨hu,b▸f,Qa d⟩ (hx a) (hr w)
theorem Ea.v{G:Bool->World->Prop}{p:Nat}{D:nV}(t b:Nat){c:Oper}{v u:Value}(d:decide (p<i)=decide (p<=i):=by rfl)(f:ops[b]?=some c:=by rfl)(g:lh o b=true:=by rfl)(he:∀a:Act,VP b (lZ a c)->a.eval (.tmp t)=v:=by exact λ_ h=>h)(hu:VP i (vd o u):=by exact rfl)(hx:∀a:Act,execOp a.eval o=execOp (cv (a.eval (.tmp t))) o:=by intro a;rfl)(hr:∀w,(execOp (cv v) o).run P w=.ok (.value u) w:=by intro w;kernel_rfl)(j:(D.all λe=>!(e.1==i))=true:=by rfl):Ea P ops a0 G p VP D i o:=
 λa w k _ l _ _=>.p t (he a (l b c f g)) ⟨hu,d▸k,Qa j⟩ (hx a) (hr w)
end
section
variable {P:Program} {ops:List Oper} {a0:Act} {Q:Exit→Act→World→Prop} {id:Nat} {w0:World}
theorem Ri(G:World->Prop)(VP:Nat->Value->Prop)(D:nV)(c:G {w0 with drawn:=w0.drawn+1})(f:tI P ops a0 G VP D 0 ops)
  (g:∀(a:Nat->Value) (w:World),G w->(∀b,b<ops.length->VP b (a b))->(∀e∈D,e.1<ops.length->e.2 (a e.1) w)->Q .normal (kr a0 ops a 0) w)
  (hm:P.follows .mixedOrders=true:=by kernel_rfl) (i:sZ ops=true:=by kernel_rfl) (j:(ops.all λo=>match o.dst with|some d=>decide (d<a0.tmps.size)|none=>true)=true:=by kernel_rfl):(Code.region id ops.toArray true).wp P Q a0 w0:=
 xT G VP D hm i _ rfl j c f g
theorem Fz(G:World->Prop)(VP:Nat->Value->Prop)(D:wq)(c:G {w0 with drawn:=w0.drawn+1})(f:sk P ops a0 G VP D 0 ops)
  (g:∀(a:Nat->Value) (w:World),G w->(∀b,b<ops.length->VP b (a b))->(∀e∈D,e.1<ops.length->e.2.1<ops.length->e.2.2 (a e.1) (a e.2.1) w)->Q .normal (kr a0 ops a 0) w)
  (hm:P.follows .mixedOrders=true:=by kernel_rfl) (i:rI ops=true:=by kernel_rfl) (j:(D.all λe=>e.2.1==e.1||lz ops ops.length e.1 e.2.1)=true:=by kernel_rfl) (k:vv ops VP ops:=by repeat' (first|exact trivial|exact⟨by kernel_rfl,by kernel_rfl,λ_ h=>h⟩|refine And.intro ?_ ?_)) (l:(ops.all λo=>match o.dst with|some d=>decide (d<a0.tmps.size)|none=>true)=true:=by kernel_rfl):(Code.region id ops.toArray true).wp P Q a0 w0:=
 xt G VP D hm i j k _ rfl l c f g
theorem sV(G:World->Prop)(a:Value->World->Prop)(VP:Nat->Value->Prop)(D:nV)(e:G {w0 with drawn:=w0.drawn+1})(f:DB P ops a0 G a VP D 0 ops)
  (g:∀(b:Nat->Value) (w:World),(∀c,c<ops.length-1->VP c (b c))->a (b (ops.length-1)) w->Q .normal (kr a0 ops b 0) w)
  (hm:P.follows .mixedOrders=true:=by kernel_rfl) (i:sZ ops=true:=by kernel_rfl) (j:zi ops=true:=by kernel_rfl) (k:0<ops.length:=by decide) (l:(ops.all λo=>match o.dst with|some d=>decide (d<a0.tmps.size)|none=>true)=true:=by kernel_rfl):(Code.region id ops.toArray true).wp P Q a0 w0:=
 xv G a VP D hm i j k _ rfl l e f g
theorem Dn(p:Nat)(G:Bool->World->Prop)(VP:Nat->Value->Prop)(D:nV)(c:G false {w0 with drawn:=w0.drawn+1})(f:sq P ops a0 G p VP D 0 ops)
  (g:∀(a:Nat->Value) (w:World),G true w->(∀b,b<ops.length->VP b (a b))->(∀e∈D,e.1<ops.length->e.2 (a e.1) w)->Q .normal (kr a0 ops a 0) w)
  (hm:P.follows .mixedOrders=true:=by kernel_rfl) (i:sZ ops=true:=by kernel_rfl) (j:FL ops p=true:=by kernel_rfl) (k:(ops.all λo=>match o.dst with|some d=>decide (d<a0.tmps.size)|none=>true)=true:=by kernel_rfl):(Code.region id ops.toArray true).wp P Q a0 w0:=
 xu p G VP D hm i j _ rfl k c f g
end
end Go.Proofs.YtfemcncookpdhaaGreatDoor
namespace Go.Proofs.YtfemcncookpdhaaGreatDoor
open Go Go.RowKit Go.Proofs.Tryz
theorem Al(w:World)(a:Obj):Below w.heap.size w (w.alloc a)/\(w.alloc a).heap[w.heap.size]?=some a/\(w.alloc a).heap.size=w.heap.size+1:=
 ⟨Ba w a,NF w a,NB w a⟩
theorem kt.c{P:Program}{a:Act}{o:Oper}{w:World}{K:Value->World->Prop}{f:FuncId}{args:Array Value}{R:Ending->World->Prop}(hc:Calls P f args w R)(b:∀e w',R e w'->∃v,e=.returned v/\K v w')(hr:(execOp a.eval o).run P w=.ok (.enter f args) w:=by go_simp):kt P a o w K:=by unfold kt;rw[hr];exact⟨rfl,hc.mono b⟩
end Go.Proofs.YtfemcncookpdhaaGreatDoor
namespace Go.Proofs.YtfemcncookpdhaaGreatDoor
open Go.RowKit Go.Proofs.Tryz
def tY(S:Nat->Prop)(w:World)(c:Option Addr)(xs:List Value):Prop:=
 xs≠[]->∃b o,c=some ⟨b,o,none⟩/\S b/\∀(a:Nat) (u:Value),xs[a]?=some u->w.cell? ⟨b,o+a,none⟩=some u
theorem tY.nil(S w a):tY S w a []:=λh=>absurd rfl h
theorem tY.M{S T w a xs}(h:tY S w a xs)(c:∀b,S b->T b):tY T w a xs:=λhx=>by obtain⟨b,o,e,d,hc⟩:=h hx;exact⟨b,o,e,c b d,hc⟩
theorem tY.kg{S w w' a xs}(h:tY S w a xs)(f:∀b,S b->w'.heap[b]?=w.heap[b]?):tY S w' a xs:=λhx=>by obtain⟨b,o,e,c,hc⟩:=h hx;exact⟨b,o,e,c,λd u hu=>(Cb b (o+d) (f b c)).T (hc d u hu)⟩
theorem tY.kI{S w c xs}(h:tY S w c xs)(a:Nat)(u)(hu:xs[a]?=some u):
  ∃b o,c=some ⟨b,o,none⟩/\S b/\w.cell? ⟨b,o+a,none⟩=some u:=by
 obtain⟨b,o,e,d,h⟩:=h (by rintro rfl;simp at hu);exact⟨b,o,e,d,h a u hu⟩
abbrev Rel(a:Type):=(Nat->Prop)->World->List Value->a->Prop
structure kT{α:Type}(R:Rel α)(k:Nat):Prop where
 pos:0<k
 len:∀{S w r x},R S w r x->r.length=k
 one:∀{S w r x},R S w r x->∀u∈r,u.oneCell'=true
 M:∀{S T w r x},R S w r x->(∀b,S b->T b)->R T w r x
 kg:∀{S w w' r x},R S w r x->(∀b,S b->w'.heap[b]?=w.heap[b]?)->R S w' r x
def kZ{a:Type}(R:List Value->a->Prop):List (List Value)->List a->Prop
 |[],[]=>True
 |r::rs,x::xs=>R r x/\kZ R rs xs
 |_,_=>False
theorem kZ.imp{a:Type}{R b:List Value->a->Prop}(h:∀r x,R r x->b r x):∀{c:List (List Value)} {xs:List a},kZ R c xs->kZ b c xs
 |[],[],_=>trivial
 |_::_,_::_,⟨h1,h2⟩=>⟨h _ _ h1,kZ.imp h h2⟩
 |[],_::_,h=>h.elim
 |_::_,[],h=>h.elim
theorem kZ.length{a:Type}{R:List Value->a->Prop}:∀{b:List (List Value)} {xs:List a},kZ R b xs->b.length=xs.length
 |[],[],_=>rfl
 |_::_,_::_,⟨_,h2⟩=>by simp[kZ.length h2]
 |[],_::_,h=>h.elim
 |_::_,[],h=>h.elim
theorem kZ.flat{b:Type}{R:List Value->b->Prop}{k:Nat}(c:∀r x,R r x->r.length=k):∀{a:List (List Value)} {xs:List b},kZ R a xs->a.flatten.length=xs.length*k
 |[],[],_=>PK
 |r::a,x::xs,⟨h1,h2⟩=>by rw[OS,N2,c _ _ h1,kZ.flat c h2,OP,PF];omega
 |[],_::_,h=>h.elim
 |_::_,[],h=>h.elim
theorem kZ.kI{c:Type}{R:List Value->c->Prop}{k:Nat}(d:∀r x,R r x->r.length=k):∀{b:List (List Value)} {xs:List c} (i:Nat) (x:c),kZ R b xs->xs[i]?=some x->
  ∃r,R r x/\∀a u,r[a]?=some u->b.flatten[i*k+a]?=some u
 |r::b,y::xs,0,x,⟨h1,_⟩,hx=>by simp at hx;subst hx;refine⟨r,h1,λa u hu=>?_⟩;rw[OS,Nat.zero_mul,NY,Ou (NW.1 hu).1];exact hu
 |r::b,y::xs,i+1,x,⟨h1,h2⟩,hx=>by obtain⟨q,f,hc⟩:=kZ.kI d i x h2 (by simpa using hx);refine⟨q,f,λa u hu=>?_⟩;have e:=d _ _ h1;rw[OS,OA (by rw[e,PF];omega),e,show(i+1)*k+a-k=i*k+a by rw[PF];omega];exact hc a u hu
 |[],[],_,_,_,hx=>by simp at hx
 |[],_::_,_,_,h,_=>h.elim
 |_::_,[],_,_,h,_=>h.elim
theorem kZ.one{b:Type}{R:List Value->b->Prop}(c:∀r x,R r x->∀u∈r,u.oneCell'=true):∀{a:List (List Value)} {xs:List b},kZ R a xs->∀u∈a.flatten,u.oneCell'=true
 |[],[],_=>PK
 |r::a,x::xs,⟨h1,h2⟩=>by intro u hu;rw[OS,OI]at hu;rcases hu with hu|hu;exact c _ _ h1 u hu;exact kZ.one c h2 u hu
 |[],_::_,h=>h.elim
 |_::_,[],h=>h.elim
def km{a:Type}(R:Rel a)(S:Nat->Prop)(w:World)(v:Value)(xs:List a):Prop:=
 ∃(b:Option Addr) (c:Nat) (d:List (List Value)),v=.slice b xs.length c/\xs.length<=c/\c<=9223372036854775807/\tY S w b d.flatten/\kZ (R S w) d xs
theorem km.M{a:Type}{R:Rel a}{k:Nat}(ok:kT R k){S T w v}{xs:List a}(h:km R S w v xs)(d:∀b,S b->T b):km R T w v xs:=by obtain⟨e,c,f,g,i,j,l,m⟩:=h;exact⟨e,c,f,g,i,j,l.M d,m.imp λr x hr=>ok.M hr d⟩
theorem km.kg{a:Type}{R:Rel a}{k:Nat}(ok:kT R k){S w w' v}{xs:List a}(h:km R S w v xs)(d:∀b,S b->w'.heap[b]?=w.heap[b]?):km R S w' v xs:=by obtain⟨e,c,f,g,i,j,l,m⟩:=h;exact⟨e,c,f,g,i,j,l.kg d,m.imp λr x hr=>ok.kg hr d⟩
theorem km.nil{a:Type}(R:Rel a)(S w):km R S w (Nl) []:=⟨none,0,[],rfl,NQ _,PJ,tY.nil _ _ _,trivial⟩
theorem km.one{a:Type}{R:Rel a}{S w v}{xs:List a}(h:km R S w v xs):v.oneCell'=true:=by obtain⟨b,c,d,rfl,_⟩:=h;rfl
theorem km.kI{d:Type}{R:Rel d}{k:Nat}(ok:kT R k){S w g}{n c:Nat}{xs:List d}(h:km R S w (.slice g n c) xs)(i:Nat)(x:d)(hx:xs[i]?=some x):
  ∃b o r,g=some ⟨b,o,none⟩/\S b/\R S w r x/\∀a u,r[a]?=some u->w.cell? ⟨b,o+i*k+a,none⟩=some u:=by
 obtain⟨v,y,z,f,A,B,j,l⟩:=h;injection f with f;subst f;obtain⟨r,hr,hc⟩:=kZ.kI (k:=k) (λr x h=>ok.len h) i x l hx;have m:∃u,r[0]?=some u:=Gx (by rw[ok.len hr];exact ok.pos);obtain⟨p,q⟩:=m;obtain⟨b,o,e,s,t⟩:=j (by intro e;have:=hc 0 p q;rw[e]at this;simp at this);refine⟨b,o,r,e,s,hr,λa u hu=>?_⟩;rw[Pk];exact t _ u (hc a u hu)
structure kx{α:Type}(R:Rel α)(T k:Nat)(P:Nat->Prop)(w:World)(lo:Nat)(v:Value)(xs:List α):Prop where
 own:∃rows,w.ownsRow lo T k v xs.length rows.flatten/\kZ (R (λb=>P b/\b<w/\some b≠v.ownBlock) w) rows xs
theorem kx.nil{a:Type}(R:Rel a)(T k:Nat)(P w)(lo:Nat):kx R T k P w lo (Nl) []:=⟨[],World.ownsRow_nil _ _ _ _,trivial⟩
theorem kx.grown{d:Type}{R:Rel d}{T k:Nat}(ok:kT R k){P w w'}{lo:Nat}{v}{xs:List d}{row}(h:kx R T k P w lo v xs)(c:w.grownBy w' row)(hr:∀z,row=some z->¬P z/\some z≠v.ownBlock):kx R T k P w' lo v xs:=by
 obtain⟨f,g,i⟩:=h.own;refine⟨f,g.kept c ?_,i.imp λr x hx=>ok.M (ok.kg hx λb a=>c.B b a.2.1 λe=>(hr b e.symm).1 a.1) λb a=>⟨a.1,ND a.2.1 c.size,a.2.2⟩⟩;cases hv:v.ownBlock with
 |none=>exact .inl rfl
 |some q=>exact .inr (λe=>(hr q e.symm).2 hv.symm)
theorem kp{w w'}(h:Below w.heap.size w w'):w.grownBy w' none:=⟨h.os,h.tape,h.output,h.size,λk a _=>h.B k a⟩
theorem kx.kh{a:Type}{R:Rel a}{T k:Nat}(ok:kT R k){P w w'}{lo:Nat}{v}{xs:List a}(h:kx R T k P w lo v xs)(b:Below w w w'):kx R T k P w' lo v xs:=
 h.grown ok (kp b) (λz e=>by cases e)
theorem kx.form{a:Type}{R:Rel a}{T k:Nat}{P w}{lo:Nat}{v}{xs:List a}(h:kx R T k P w lo v xs):∃d c,v=.slice d xs.length c/\xs.length<=c/\c<=9223372036854775807:=by
 obtain⟨i,e,_⟩:=h.own;rcases e.2 with⟨rfl,b⟩|⟨g,f,j,rfl,l,m,hc,hm,n,p⟩
 exact⟨none,0,by rw[b],by rw[b];exact NQ _,PJ⟩;exact⟨_,f,rfl,hc,hm⟩
theorem kx.ge{a:Type}{R:Rel a}{T k:Nat}{P w}{lo:Nat}{v}{xs:List a}(h:kx R T k P w lo v xs):∀z,v.ownBlock=some z->lo<=z/\z<w:=by
 obtain⟨f,b,_⟩:=h.own;rcases b.2 with⟨rfl,i⟩|⟨g,j,l,rfl,c,d,hc,hm,m,n⟩
 intro z e;simp[Value.ownBlock]at e;intro z e;obtain rfl:g=z:=by simpa[Value.ownBlock]using e
 exact⟨c,(NC.1 d).1⟩
end Go.Proofs.YtfemcncookpdhaaGreatDoor
namespace lX
inductive Ex where
 |mk (op:Int) (name:List UInt8) (n:Int) (args:List Ex)
instance:Inhabited Ex:=⟨.mk 0 [] 0 []⟩
def Ex.op:Ex->Int| .mk o _ _ _=>o
def Ex.name:Ex->List UInt8| .mk _ s _ _=>s
def Ex.n:Ex->Int| .mk _ _ n _=>n
def Ex.args:Ex->List Ex| .mk _ _ _ a=>a
inductive St where
 |mk (kind:Int) (name hd:List UInt8) (kV:List Ex) (th el:List St)
instance:Inhabited St:=⟨.mk 0 [] [] [] [] []⟩
def St.kind:St->Int| .mk k _ _ _ _ _=>k
def St.name:St->List UInt8| .mk _ s _ _ _ _=>s
def St.hd:St->List UInt8| .mk _ _ h _ _ _=>h
def St.kV:St->List Ex| .mk _ _ _ e _ _=>e
def St.th:St->List St| .mk _ _ _ _ t _=>t
def St.el:St->List St| .mk _ _ _ _ _ e=>e
structure Hd where
 name:List UInt8
 params:List (List UInt8)
 body:List St
instance:Inhabited Hd:=⟨⟨[],[],[]⟩⟩
structure Va where
 name:List UInt8
 ty:Int
 init:Int
instance:Inhabited Va:=⟨⟨[],0,0⟩⟩
structure Co where
 name:List UInt8
 vars:List Va
 kY:List (List Hd)
instance:Inhabited Co:=⟨⟨[],[],[]⟩⟩
structure Fg where
 name:List UInt8
 init:Bool
instance:Inhabited Fg:=⟨⟨[],false⟩⟩
structure Lk where
 a:List UInt8
 b:List UInt8
 sW:Int
instance:Inhabited Lk:=⟨⟨[],[],0⟩⟩
structure Fl where
 name:List UInt8
 kM:List Fg
 lN:List Lk
 ky:List Co
def De:Nat:=6
def Ds:Nat:=4
def nm(c:UInt8)(k:Nat):List UInt8:=[c,UInt8.ofNat (48+k)]
def oI(c:UInt8)(n:Nat):List (List UInt8):=(List.range n).map (nm c)
theorem lr(c)(n:Nat):(oI c n).length=n:=by simp[oI]
structure Sc where
 ints:Nat
 kF:Nat
 kM:Nat
 params:Nat
 nK:List (List Nat)
 own:Nat
structure pd(sc:Sc):Prop where
 Ai:1<=sc.ints
 yo:sc.ints<=3
 kF:sc.kF<=1
 kM:sc.kM<=2
 params:sc.params<=2
 own:sc.own<sc.nK.length
 len:sc.nK.length<=3
 each:∀l∈sc.nK,1<=l.length/\l.length<=3/\∀a∈l,a<=2
def lp(sc:Sc):Nat->Ex->Prop
 |0,_=>False
 |d+1,e=>
  (e.op=1/\e.name=[]/\0<=e.n/\e.n<=8/\e.args=[])\/
  (e.op=4/\e.name=[]/\e.n=0/\e.args=[])\/
  (e.op=5/\((∃k,k<sc.ints/\e.name=nm 120 k)\/(∃k,k<sc.params/\e.name=nm 112 k))/\e.n=0/\e.args=[])\/
  (e.op=6/\sc.kF=1/\e.name=nm 116 0/\e.n=0/\∃a,e.args=[a]/\lp sc d a)\/
  (e.op=8/\sc.kF=1/\e.name=nm 116 0/\e.n=0/\e.args=[])\/
  (e.op=9/\e.name=[]/\e.n=0/\∃a,e.args=[a]/\lp sc d a)\/
  ((11<=e.op/\e.op<=15)/\e.name=[]/\e.n=0/\∃a b,e.args=[a,b]/\lp sc d a/\lp sc d b)
def mO(sc:Sc):Nat->Ex->Prop
 |0,_=>False
 |d+1,e=>
  ((e.op=2\/e.op=3)/\e.name=[]/\e.n=0/\e.args=[])\/
  (e.op=5/\(e.name=nm 98 0\/(∃k,k<sc.kM/\e.name=nm 102 k))/\e.n=0/\e.args=[])\/
  (e.op=7/\sc.kF=1/\e.name=nm 116 0/\e.n=0/\∃a,e.args=[a]/\lp sc d a)\/
  (e.op=10/\e.name=[]/\e.n=0/\∃a,e.args=[a]/\mO sc d a)\/
  ((e.op=22\/e.op=23)/\e.name=[]/\e.n=0/\∃a b,e.args=[a,b]/\mO sc d a/\mO sc d b)\/
  ((16<=e.op/\e.op<=21)/\e.name=[]/\e.n=0/\∃a b,e.args=[a,b]/\lp sc d a/\lp sc d b)
def kB(k:Nat):List UInt8:=[UInt8.ofNat (97+k)]
def mq(sc:Sc):Nat->St->Prop
 |0,_=>False
 |d+1,s=>
  (s.kind=1/\s.hd=[]/\s.th=[]/\s.el=[]/\(∃e,s.kV=[e]/\((∃k,k<sc.ints/\s.name=nm 120 k/\lp sc De e)\/(s.name=nm 98 0/\mO sc De e))))\/
  (s.kind=2/\sc.kF=1/\s.name=nm 116 0/\s.hd=[]/\s.th=[]/\s.el=[]/\(∃a b,s.kV=[a,b]/\lp sc De a/\lp sc De b))\/
  (s.kind=3/\sc.kF=1/\s.name=nm 116 0/\s.hd=[]/\s.th=[]/\s.el=[]/\(∃a,s.kV=[a]/\lp sc De a))\/
  (s.kind=4/\s.name=[]/\s.hd=[]/\(∃a,s.kV=[a]/\mO sc De a)/\(∀x∈s.th,mq sc d x)/\(∀x∈s.el,mq sc d x))\/
  (s.kind=5/\s.name=[]/\s.hd=[]/\s.el=[]/\(∃a,s.kV=[a]/\mO sc De a)/\(∀x∈s.th,mq sc d x))\/
  (s.kind=6/\s.th=[]/\s.el=[]/\(∃c l h a,sc.nK[c]?=some l/\l[h]?=some a/\s.name=kB c/\s.hd=nm 104 h/\s.kV.length=a)/\(∀e∈s.kV,lp sc De e))\/
  (s.kind=7/\s.name=[]/\s.th=[]/\s.el=[]/\(∃l h a,sc.nK[sc.own]?=some l/\l[h]?=some a/\s.hd=nm 104 h/\s.kV.length=a+1)/\(∀e∈s.kV,lp sc De e))\/
  (s.kind=8/\s.name=[]/\s.hd=[]/\s.th=[]/\(∃a b,s.kV=[a,b]/\lp sc De a/\lp sc De b)/\(∀x∈s.el,mq sc d x))\/
  (s.kind=9/\s.hd=[]/\s.th=[]/\(∃k,k<sc.ints/\s.name=nm 120 k)/\(∃a,s.kV=[a]/\lp sc De a)/\(∀x∈s.el,mq sc d x))\/
  (s.kind=10/\s.name=[]/\s.hd=[]/\s.th=[]/\s.el=[]/\s.kV=[])
def kN:Nat->List St->Nat
 |0,_=>0
 |d+1,l=>(l.map λs=>1+kN d s.th+kN d s.el).sum
structure Cd where
 params:Nat
 bytes:List UInt8
instance:Inhabited Cd:=⟨⟨0,[]⟩⟩
def Ed(sc:Sc)(b:List Nat)(k:Nat)(h:Hd):Prop:=∃a,b[k]?=some a/\h.name=nm 104 k/\h.params=oI 112 a/\(∀s∈h.body,mq {sc with params:=a} Ds s)/\kN Ds h.body<=12
def sN(sc:Sc)(a:List Nat)(hs:List Hd):Prop:=∀k h,hs[k]?=some h->Ed sc a k h
structure Pt where
 ints:Nat
 kF:Nat
 hs:List Cd
 ss:List Cd
instance:Inhabited Pt:=⟨⟨0,0,[],[]⟩⟩
def zZ(p:Pt)(a:Nat):List Nat:=if a<p.hs.length then [(p.hs.getD a default).params % 3]else if a=0 then [1]else if a<p.ss.length then [(p.ss.getD a default).params % 3]else []
def rA(p:Pt):Nat->List Nat
 |0=>[]
 |k+1=>rA p k++zZ p k
def ru(b:Nat)(a:List Fg):Prop:=a.length=b/\∀k x,a[k]?=some x->x.name=nm 102 k
def lV(ints a:Nat):List Va:=(List.range ints).map (λk=>⟨nm 120 k,1,k⟩)++[⟨nm 98 0,2,0⟩]++(List.range a).map (λk=>⟨nm 116 k,3,0⟩)
def qy(a ints b:Nat)(c:List (List Nat))(i:Nat):Sc:=⟨ints,b,a,0,c,i⟩
def KM(sc:Sc)(a:List Nat)(hs:List Hd):Prop:=1<=hs.length/\hs.length<=a.length/\sN sc a hs
structure xK(nf:Nat)(nK:List (List Nat))(i:Nat)(c:Co):Prop where
 ex:∃ints kF al,1<=ints/\ints<=3/\kF<=1/\c.name=kB i/\c.vars=lV ints kF/\1<=c.kY.length/\c.kY.length<=2/\nK[i]?=some al/\(∀hs∈c.kY,KM (qy nf ints kF nK i) al hs)/\(∃hs∈c.kY,hs.length=al.length)
def BX:Nat->Ex->Prop
 |0,_=>False
 |d+1,e=>1<=e.op/\e.op<=255/\e.args.length<=2/\∀a∈e.args,BX d a
def uE:Nat->St->Prop
 |0,_=>False
 |d+1,s=>1<=s.kind/\s.kind<=255/\s.kV.length<=3/\s.th.length<=12/\s.el.length<=12/\(∀e∈s.kV,BX De e)/\(∀x∈s.th,uE d x)/\∀x∈s.el,uE d x
theorem lp.ops{sc}:∀{d:Nat} {e:Ex},lp sc d e->BX d e
 |0,_,h=>h.elim
 |d+1,e,h=>by
  rcases h with⟨f,_,_,_,c⟩|⟨f,_,_,c⟩|⟨f,_,_,c⟩|⟨f,_,_,_,a,c,g⟩|⟨f,_,_,_,c⟩|⟨f,_,_,a,c,g⟩|⟨f,_,_,a,b,c,g,i⟩
  all_goals
   refine⟨PJ,PJ,by rw[c];simp,λx hx=>?_⟩;rw[c]at hx;simp at hx
  rw[hx];exact lp.ops g;rw[hx];exact lp.ops g;rcases hx with rfl|rfl;exact lp.ops g;exact lp.ops i
theorem mO.ops{sc}:∀{d:Nat} {e:Ex},mO sc d e->BX d e
 |0,_,h=>h.elim
 |d+1,e,h=>by
  rcases h with⟨g,_,_,c⟩|⟨g,_,_,c⟩|⟨g,_,_,_,a,c,f⟩|⟨g,_,_,a,c,f⟩|⟨g,_,_,a,b,c,f,i⟩|⟨g,_,_,a,b,c,f,i⟩
  all_goals
   refine⟨PJ,PJ,by rw[c];simp,λx hx=>?_⟩;rw[c]at hx;simp at hx
  rw[hx];exact lp.ops f;rw[hx];exact mO.ops f;rcases hx with rfl|rfl;exact mO.ops f;exact mO.ops i;rcases hx with rfl|rfl;exact lp.ops f;exact lp.ops i
theorem pU{d:Nat}:∀{l:List St} {n:Nat},kN (d+1) l<=n->l.length<=n/\∀s∈l,kN d s.th<=n/\kN d s.el<=n
 |[],n,_=>⟨by simp,λs hs=>by simp at hs⟩
 |s::l,n,h=>by have b:1+kN d s.th+kN d s.el+kN (d+1) l<=n:=(by simpa[kN]using h);obtain⟨c,a⟩:=pU (d:=d) (l:=l) (n:=n-1) PJ;refine⟨PO,λx hx=>?_⟩;rcases List.mem_cons.1 hx with rfl|hx;omega;have:=a x hx;omega
theorem wF{d:Nat}{l}{n:Nat}{sc}(h:kN d l<=n)(hs:∀x∈l,mq sc d x):l.length<=n:=by
 cases d with
 |zero=>
  cases l with
  |nil=>simp
  |cons x l=>exact(hs x PK).elim
 |succ d=>exact(pU h).1
structure In where
 op:Int
 a:Int
 b:Int
 n:Int
theorem qY(i t:Nat):(lV i t).length=i+1+t:=by simp[lV];omega
def shapes:List (Nat×Bool×Nat×List UInt8):=[(0,false,0,[]),(0,false,7,[]),(0,false,7,[116,114,117,101]),(0,false,7,[102,97,108,115,101]),(0,false,7,[110,111,119]),(0,true,7,[]),(1,true,7,[]),(1,true,7,[104,97,115,32]),(0,true,7,[115,105,122,101,32]),(1,false,6,[45]),(1,false,6,[110,111,116,32]),(2,false,5,[32,42,32]),(2,false,5,[32,47,32]),(2,false,5,[32,37,32]),(2,false,4,[32,43,32]),(2,false,4,[32,45,32]),(2,false,3,[32,61,61,32]),(2,false,3,[32,33,61,32]),(2,false,3,[32,60,32]),(2,false,3,[32,60,61,32]),(2,false,3,[32,62,32]),(2,false,3,[32,62,61,32]),(2,false,2,[32,97,110,100,32]),(2,false,1,[32,111,114,32])]
def forms:List (Bool×Bool×Nat×Nat×Bool×Bool):=[(false,false,0,0,false,false),(true,false,1,1,false,false),(true,false,2,2,false,false),(true,false,1,1,false,false),(false,false,1,1,true,true),(false,false,1,1,true,false),(true,true,0,4,false,false),(false,true,1,5,false,false),(false,false,2,2,false,true),(true,false,1,1,false,true),(false,false,0,0,false,false)]
def lQ(x:In):Prop:=1<=x.op/\x.op<=34/\x.op≠27/\x.op≠28/\x.op≠32/\x.op≠33
end lX
namespace Go.Proofs.YtfemcncookpdhaaGreatDoor
open Go.RowKit lX Go.Proofs.Tryz
abbrev tx(l:List UInt8):Value:=.string ⟨l.toArray⟩
def kA:Rel (List UInt8):=λ_ _ r x=>r=[tx x]
theorem kA.ok:kT kA 1:=⟨PJ,λh=>by rw[h];rfl,λh u hu=>by rw[h]at hu;simp at hu;rw[hu];rfl,λh _=>h,λh _=>h⟩
def mR:Rel Fg:=λ_ _ r x=>r=[tx x.name,.bool x.init]
theorem mR.ok:kT mR 2:=⟨PJ,λh=>by rw[h];rfl,λh u hu=>by rw[h]at hu;simp at hu;rcases hu with rfl|rfl<;>rfl,λh _=>h,λh _=>h⟩
def nI:Rel Lk:=λ_ _ r x=>r=[tx x.a,tx x.b,.int .i64 x.sW]
theorem nI.ok:kT nI 3:=⟨PJ,λh=>by rw[h];rfl,λh u hu=>by rw[h]at hu;simp at hu;rcases hu with rfl|rfl|rfl<;>rfl,λh _=>h,λh _=>h⟩
def nJ(q:IntKind):Rel Va:=λ_ _ r x=>r=[tx x.name,.int q x.ty,.int .i64 x.init]
theorem nJ.ok(q:IntKind):kT (nJ q) 3:=⟨PJ,λh=>by rw[h];rfl,λh u hu=>by rw[h]at hu;simp at hu;rcases hu with rfl|rfl|rfl<;>rfl,λh _=>h,λh _=>h⟩
def kz(q:IntKind):Nat->Rel Ex
 |0=>λ_ _ _ _=>False
 |d+1=>λS w r e=>∃v,r=[.int q e.op,tx e.name,.int .i64 e.n,v]/\km (kz q d) S w v e.args
theorem kz.ok(q:IntKind):∀d,kT (kz q d) 4
 |0=>⟨PJ,λh=>h.elim,λh=>h.elim,λh=>h.elim,λh=>h.elim⟩
 |d+1=>⟨PJ,λ⟨v,h,_⟩=>by rw[h];rfl,λ⟨v,h,hs⟩ u hu=>by rw[h]at hu;simp at hu;rcases hu with rfl|rfl|rfl|rfl;rfl;rfl;rfl;exact hs.one,λ⟨v,h,hs⟩ a=>⟨v,h,hs.M (kz.ok q d) a⟩,λ⟨v,h,hs⟩ b=>⟨v,h,hs.kg (kz.ok q d) b⟩⟩
def kE(q:IntKind):Nat->Rel St
 |0=>λ_ _ _ _=>False
 |d+1=>λS w r s=>∃a b c,r=[.int q s.kind,tx s.name,tx s.hd,a,b,c]/\km (kz q De) S w a s.kV/\km (kE q d) S w b s.th/\km (kE q d) S w c s.el
theorem kE.ok(q:IntKind):∀d,kT (kE q d) 6
 |0=>⟨PJ,λh=>h.elim,λh=>h.elim,λh=>h.elim,λh=>h.elim⟩
 |d+1=>⟨PJ,λ⟨a,b,c,h,_⟩=>by rw[h];rfl,λ⟨a,b,c,h,e,f,g⟩ u hu=>by
  rw[h]at hu;simp at hu;rcases hu with rfl|rfl|rfl|rfl|rfl|rfl;rfl;rfl;rfl;exact e.one;exact f.one;exact g.one,λ⟨a,b,c,h,e,f,g⟩ i=>⟨a,b,c,h,e.M (kz.ok q _) i,f.M (kE.ok q d) i,g.M (kE.ok q d) i⟩,
  λ⟨a,b,c,h,e,f,g⟩ j=>⟨a,b,c,h,e.kg (kz.ok q _) j,f.kg (kE.ok q d) j,g.kg (kE.ok q d) j⟩⟩
def mo(q:IntKind):Rel Hd:=λS w r h=>∃a b,r=[tx h.name,a,b]/\km kA S w a h.params/\km (kE q Ds) S w b h.body
theorem mo.ok(q:IntKind):kT (mo q) 3:=
 ⟨PJ,λ⟨a,b,h,_⟩=>by rw[h];rfl,λ⟨a,b,h,c,d⟩ u hu=>by rw[h]at hu;simp at hu;rcases hu with rfl|rfl|rfl;rfl;exact c.one;exact d.one,λ⟨a,b,h,c,d⟩ e=>⟨a,b,h,c.M kA.ok e,d.M (kE.ok q _) e⟩,λ⟨a,b,h,c,d⟩ f=>⟨a,b,h,c.kg kA.ok f,d.kg (kE.ok q _) f⟩⟩
def mB(q:IntKind):Rel (List Hd):=λS w r l=>∃v,r=[v]/\km (mo q) S w v l
theorem mB.ok(q:IntKind):kT (mB q) 1:=
 ⟨PJ,λ⟨v,h,_⟩=>by rw[h];rfl,λ⟨v,h,a⟩ u hu=>by rw[h]at hu;simp at hu;rw[hu];exact a.one,λ⟨v,h,a⟩ b=>⟨v,h,a.M (mo.ok q) b⟩,λ⟨v,h,a⟩ c=>⟨v,h,a.kg (mo.ok q) c⟩⟩
def mg(q:IntKind):Rel Co:=λS w r c=>∃a b,r=[tx c.name,a,b]/\km (nJ q) S w a c.vars/\km (mB q) S w b c.kY
theorem mg.ok(q:IntKind):kT (mg q) 3:=
 ⟨PJ,λ⟨a,b,h,_⟩=>by rw[h];rfl,λ⟨a,b,h,c,d⟩ u hu=>by rw[h]at hu;simp at hu;rcases hu with rfl|rfl|rfl;rfl;exact c.one;exact d.one,λ⟨a,b,h,c,d⟩ e=>⟨a,b,h,c.M (nJ.ok q) e,d.M (mB.ok q) e⟩,λ⟨a,b,h,c,d⟩ f=>⟨a,b,h,c.kg (nJ.ok q) f,d.kg (mB.ok q) f⟩⟩
def LB(q:IntKind):Rel Fl:=λS w r f=>∃a b c,r=[tx f.name,a,b,c]/\km mR S w a f.kM/\km nI S w b f.lN/\km (mg q) S w c f.ky
theorem LB.ok(q:IntKind):kT (LB q) 4:=
 ⟨PJ,λ⟨a,b,c,h,_⟩=>by rw[h];rfl,λ⟨a,b,c,h,d,e,f⟩ u hu=>by rw[h]at hu;simp at hu;rcases hu with rfl|rfl|rfl|rfl;rfl;exact d.one;exact e.one;exact f.one,λ⟨a,b,c,h,d,e,f⟩ g=>⟨a,b,c,h,d.M mR.ok g,e.M nI.ok g,f.M (mg.ok q) g⟩,λ⟨a,b,c,h,d,e,f⟩ i=>⟨a,b,c,h,d.kg mR.ok i,e.kg nI.ok i,f.kg (mg.ok q) i⟩⟩
theorem kf{w:World}{b:Nat}{a:Array Value}{t:TypeId}{d:Nat×Nat}(h:w.heap[b]?=some (.cells a t d))(c:Nat)(v:Value)(e:a[c]?=some v):w.cell? ⟨b,c,none⟩=some v:=by simp[World.cell?,h,e]
theorem ko{w:World}{b:Nat}{a:Array Value}{t:TypeId}(h:w.heap[b]?=some (.cells a t (0,0)))(c:Nat):w.frozen? ⟨b,c,none⟩=false:=by simp[World.frozen?,h]
def lY:Rel Nat:=λ_ _ r x=>r=[.int .i64 (x:Int)]
theorem lY.ok:kT lY 1:=⟨PJ,λh=>by rw[h];rfl,λh u hu=>by rw[h]at hu;simp at hu;rw[hu];rfl,λh _=>h,λh _=>h⟩
def qc:Rel (List Nat):=λS w r l=>∃v,r=[v]/\km lY S w v l
theorem qc.ok:kT qc 1:=
 ⟨PJ,λ⟨v,h,_⟩=>by rw[h];rfl,λ⟨v,h,a⟩ u hu=>by rw[h]at hu;simp at hu;rw[hu];exact a.one,λ⟨v,h,a⟩ b=>⟨v,h,a.M lY.ok b⟩,λ⟨v,h,a⟩ c=>⟨v,h,a.kg lY.ok c⟩⟩
def qE:Rel UInt8:=λ_ _ r x=>r=[.int .u8 (x.toNat:Int)]
theorem qE.ok:kT qE 1:=⟨PJ,λh=>by rw[h];rfl,λh u hu=>by rw[h]at hu;simp at hu;rw[hu];rfl,λh _=>h,λh _=>h⟩
structure kH(S:Nat->Prop)(w:World)(mb:Nat)(sc:Sc)(left:Nat):Prop where
 kI:∃(Mz MA:Value) (bs:List UInt8),w.heap[mb]?=some (.cells #[.int .i64 sc.ints,sc.kF,sc.kM,sc.own,Mz,sc.params,MA,left] 85 (0,0))/\km qc S w Mz sc.nK/\km qE S w MA bs
 ln:∀b,S b->b≠mb/\b<w
theorem kH.lt{S w}{a:Nat}{sc}{left:Nat}(h:kH S w a sc left):a<w:=by obtain⟨_,_,_,b,_⟩:=h.kI;exact(NC.1 b).1
theorem kH.kg{S w w'}{a:Nat}{sc}{left:Nat}(h:kH S w a sc left)(c:w.grownBy w' none):kH S w' a sc left:=by obtain⟨e,f,g,i,j,hy⟩:=h.kI;have d:∀b,S b->w'.heap[b]?=w.heap[b]?:=λb hS=>c.B b (h.ln b hS).2 PK;exact⟨⟨e,f,g,(c.B a h.lt PK).T i,j.kg qc.ok d,hy.kg qE.ok d⟩,λb hS=>⟨(h.ln b hS).1,ND (h.ln b hS).2 c.size⟩⟩
theorem kH.kh{S w w'}{a:Nat}{sc}{left:Nat}(h:kH S w a sc left)(b:Below w w w'):kH S w' a sc left:=h.kg (kp b)
theorem kH.cells{S w}{a:Nat}{sc}{left:Nat}(h:kH S w a sc left):w.cell? ⟨a,0,none⟩=some (.int .i64 sc.ints)/\w.cell? ⟨a,1,none⟩=some (.int .i64 sc.kF)/\w.cell? ⟨a,2,none⟩=some (.int .i64 sc.kM)/\w.cell? ⟨a,3,none⟩=some (.int .i64 sc.own)/\w.cell? ⟨a,5,none⟩=some (.int .i64 sc.params)/\w.cell? ⟨a,7,none⟩=some (.int .i64 left):=by obtain⟨c,d,e,b,_⟩:=h.kI;exact⟨kf b 0 _ rfl,kf b 1 _ rfl,kf b 2 _ rfl,kf b 3 _ rfl,kf b 5 _ rfl,kf b 7 _ rfl⟩
theorem kn{a b c:World}{row:Option Nat}(h:a.grownBy b row)(k:b.grownBy c row):a.grownBy c row:=
 ⟨k.os.T h.os,k.tape.T h.tape,k.output.T h.output,NR h.size k.size,λq d e=>(k.B q (ND d h.size) e).T (h.B q d e)⟩
theorem kG{a b:World}(h:a.grownBy b none)(row:Option Nat):a.grownBy b row:=⟨h.os,h.tape,h.output,h.size,λk c _=>h.B k c PK⟩
def New(w a:World):Nat->Prop:=λb=>w<b/\b<a
structure pK(S:Nat->Prop)(mb:Nat)(sc:Sc)(left:Nat)(T:TypeId)(cs:Array Value)(w wx:World):Prop where
 hz:wx.heap[w.heap.size]?=some (.cells cs T (0,0))
 hm:kH S wx mb sc left
 hg:w.grownBy wx (some mb)
 vV:mb<w
 hS:∀b,S b->b<w
theorem pK.lt{S}{b:Nat}{sc}{left:Nat}{T c w a}(h:pK S b sc left T c w a):w.heap.size<a:=(NC.1 h.hz).1
theorem pK.call{S}{a:Nat}{sc}{left left':Nat}{T c w d b}(h:pK S a sc left T c w d)(hm:kH S b a sc left')(f:d.grownBy b (some a)):pK S a sc left' T c w b:=
 ⟨(f.B w h.lt (λe=>by injection e with e;have:=h.vV;omega)).T h.hz,hm,kn h.hg f,h.vV,h.hS⟩
theorem pK.grow{S}{a:Nat}{sc}{left:Nat}{T b w c d}(h:pK S a sc left T b w c)(e:c.grownBy d none):pK S a sc left T b w d:=
 h.call (h.hm.kg e) (kG e _)
theorem pK.alloc{S}{b:Nat}{sc}{left:Nat}{T c w a}(h:pK S b sc left T c w a)(o):pK S b sc left T c w (a.alloc o):=h.grow (NN a o none)
def Good(a z:Nat)(w w':World):Prop:=w.heap.size<=w'/\∀b,b<w.heap.size->b≠a->b≠z->w'.heap[b]?=w.heap[b]?
theorem Good.kW{a z:Nat}{w w'}(h:w.grownBy w' (some a)):Good a z w w':=⟨h.size,λb c d _=>h.B b c (λe=>d (by injection e))⟩
theorem Good.pD{a z:Nat}{w w'}(h:w.grownBy w' none):Good a z w w':=⟨h.size,λb c _ _=>h.B b c PK⟩
theorem Good.alloc{a z:Nat}(w o):Good a z w (w.alloc o):=.pD (NN w o none)
theorem Good.T{d z:Nat}{a b c}(h:Good d z a b)(k:Good d z b c):Good d z a c:=⟨NR h.1 k.1,λq e f g=>(k.2 q (ND e h.1) f g).T (h.2 q e f g)⟩
def uC(S:Nat->Prop)(a:Nat)(sc:Sc)(left:Nat)(T:TypeId)(w0 w:World):Prop:=∃b c d e f g,pK S a sc left T #[b,c,d,e,f,g] w0 w
theorem uC.grow{S}{a:Nat}{sc}{left:Nat}{T w0 w w'}(h:uC S a sc left T w0 w)(b:w.grownBy w' none):uC S a sc left T w0 w':=by obtain⟨c,d,e,f,g,i,h⟩:=h;exact⟨c,d,e,f,g,i,h.grow b⟩
theorem uC.call{S}{a:Nat}{sc}{left left':Nat}{T w0 w w'}(h:uC S a sc left T w0 w)(hm:kH S w' a sc left')(b:w.grownBy w' (some a)):uC S a sc left' T w0 w':=by obtain⟨c,d,e,f,g,i,h⟩:=h;exact⟨c,d,e,f,g,i,h.call hm b⟩
theorem uC.m{S}{a:Nat}{sc}{left:Nat}{T w0 w}(h:uC S a sc left T w0 w):kH S w a sc left/\a<w0/\w0.heap.size<w/\(∀b,S b->b<w0/\b≠a):=by obtain⟨d,e,f,g,i,j,h⟩:=h;exact⟨h.hm,h.vV,h.lt,λb c=>⟨h.hS b c,(h.hm.ln b c).1⟩⟩
def qd:Rel Cd:=λS w r c=>∃v,r=[.int .u8 (c.params:Int),v]/\km qE S w v c.bytes
theorem qd.ok:kT qd 2:=
 ⟨PJ,λ⟨v,h,_⟩=>by rw[h];rfl,λ⟨v,h,a⟩ u hu=>by rw[h]at hu;simp at hu;rcases hu with rfl|rfl;rfl;exact a.one,λ⟨v,h,a⟩ b=>⟨v,h,a.M qE.ok b⟩,λ⟨v,h,a⟩ c=>⟨v,h,a.kg qE.ok c⟩⟩
theorem kZ.take{a:Type}{R:List Value->a->Prop}:∀{b:List (List Value)} {xs:List a} (h:Nat),kZ R b xs->kZ R (b.take h) (xs.take h)
 |[],[],h,_=>by simp;trivial
 |_::_,_::_,0,_=>trivial
 |_::_,_::_,h+1,⟨h1,h2⟩=>⟨h1,kZ.take h h2⟩
 |[],_::_,_,h=>h.elim
 |_::_,[],_,h=>h.elim
theorem km.take{f:Type}{R:Rel f}{S w d}{n c:Nat}{xs:List f}(h:km R S w (.slice d n c) xs)(m:Nat)(hm:m<=n):km R S w (.slice d m c) (xs.take m):=by
 obtain⟨t,v,a,e,x,i,j,k⟩:=h;injection e with l p e3;subst l p e3;refine⟨d,c,a.take m,by rw[N0,Ps hm],by rw[N0,Ps hm];omega,i,λq=>?_,kZ.take m k⟩;have g:a.flatten=(a.take m).flatten++(a.drop m).flatten:=by rw[<-List.flatten_append,Pu]
 obtain⟨b,o,e,r,hc⟩:=j (by rw[g];intro e;exact q (List.append_eq_nil_iff.1 e).1);refine⟨b,o,e,r,λs u hu=>hc s u ?_⟩;rw[g,Ou (NW.1 hu).1];exact hu
theorem qd.kI{S w f}{n c i:Nat}{l x}(h:km qd S w (.slice f n c) l)(j:l[i]?=some x):
  ∃b o a d,f=some ⟨b,o,none⟩/\S b/\w.cell? ⟨b,o+i*2,none⟩=some (.int .u8 (x.params:Int))/\w.cell? ⟨b,o+i*2+1,none⟩=some (.slice a x.bytes.length d)/\km qE S w (.slice a x.bytes.length d) x.bytes:=by
 obtain⟨b,o,r,e,k,⟨v,hr,g⟩,hc⟩:=h.kI qd.ok i x j;obtain⟨a,d,m,rfl,_⟩:=id g;subst hr;exact⟨b,o,a,d,e,k,by simpa using hc 0 _ rfl,hc 1 _ rfl,g⟩
def NG(w0 w w':World):Prop:=w.heap.size<=w'/\∀b,New w0 w b->w'.heap[b]?=w.heap[b]?
theorem NG.kW{w0 w w' row}(h:w.grownBy w' row)(hr:∀z,row=some z->z<=w0.heap.size):NG w0 w w':=⟨h.size,λb a=>h.B b a.2 λe=>PI (hr b e.symm) a.1⟩
theorem NG.alloc(w0 w o):NG w0 w (w.alloc o):=.kW (NN w o none) (λz e=>by cases e)
def tX:Rel Pt:=λS w r p=>∃a b,r=[.int .u8 (p.ints:Int),.int .u8 (p.kF:Int),a,b]/\km qd S w a p.hs/\km qd S w b p.ss
theorem tX.ok:kT tX 4:=
 ⟨PJ,λ⟨a,b,h,_⟩=>by rw[h];rfl,λ⟨a,b,h,c,d⟩ u hu=>by rw[h]at hu;simp at hu;rcases hu with rfl|rfl|rfl|rfl;rfl;rfl;exact c.one;exact d.one,λ⟨a,b,h,c,d⟩ e=>⟨a,b,h,c.M qd.ok e,d.M qd.ok e⟩,λ⟨a,b,h,c,d⟩ f=>⟨a,b,h,c.kg qd.ok f,d.kg qd.ok f⟩⟩
def Jf(B n:Nat):Nat->Prop:=λb=>B<b/\b<n
theorem tX.kI{S w f}{n c i:Nat}{l x}(h:km tX S w (.slice f n c) l)(p:l[i]?=some x):
  ∃b o a g c1 d j c2,f=some ⟨b,o,none⟩/\S b/\w.cell? ⟨b,o+i*4,none⟩=some (.int .u8 (x.ints:Int))/\w.cell? ⟨b,o+i*4+1,none⟩=some (.int .u8 (x.kF:Int))/\w.cell? ⟨b,o+i*4+2,none⟩=some (.slice a g c1)/\w.cell? ⟨b,o+i*4+3,none⟩=some (.slice d j c2)/\
   km qd S w (.slice a g c1) x.hs/\km qd S w (.slice d j c2) x.ss:=by
 obtain⟨b,o,r,e,q,⟨s,t,hr,k,m⟩,hc⟩:=h.kI tX.ok i x p;obtain⟨a,c1,_,rfl,_⟩:=id k;obtain⟨d,c2,_,rfl,_⟩:=id m;subst hr;exact⟨b,o,a,_,c1,d,_,c2,e,q,by simpa using hc 0 _ rfl,hc 1 _ rfl,hc 2 _ rfl,hc 3 _ rfl,k,m⟩
theorem kH.M{S a w}{c:Nat}{sc}{left:Nat}(h:kH S w c sc left)(hS:∀b,S b->a b)(hf:∀b,a b->b≠c/\b<w):kH a w c sc left:=by obtain⟨d,e,f,g,i,hy⟩:=h.kI;exact⟨⟨d,e,f,g,i.M qc.ok hS,hy.M qE.ok hS⟩,hf⟩
theorem km.len{a:Type}{R:Rel a}{S w b}{n c:Nat}{xs:List a}(h:km R S w (.slice b n c) xs):xs.length=n/\n<=c:=by obtain⟨i,j,k,e,d,_⟩:=h;injection e with _ f g;subst f g;exact⟨rfl,d⟩
structure Kp(mb cb:Nat)(w w':World):Prop where
 os:w'.os=w.os
 tape:w'.tape=w.tape
 output:w'.output=w.output
 size:w.heap.size<=w'
 B:∀b,b<w.heap.size->b≠mb->b≠cb->w'.heap[b]?=w.heap[b]?
theorem Kp.refl(a cb:Nat)(w):Kp a cb w w:=⟨rfl,rfl,rfl,NQ _,λ_ _ _ _=>rfl⟩
theorem Kp.T{d cb:Nat}{a b c}(h:Kp d cb a b)(k:Kp d cb b c):Kp d cb a c:=⟨k.os.T h.os,k.tape.T h.tape,k.output.T h.output,NR h.size k.size,λq e f g=>(k.B q (ND e h.size) f g).T (h.B q e f g)⟩
theorem Kp.kW{a cb:Nat}{w w'}(h:w.grownBy w' (some a)):Kp a cb w w':=⟨h.os,h.tape,h.output,h.size,λb c d _=>h.B b c (λe=>d (by injection e))⟩
abbrev mi:List UInt8:=[102,108,101,101,116,49]
def Nw(w0 w:World):Nat->Prop:=λb=>w0<=b/\b<w
def NK(w0 w w':World):Prop:=w.heap.size<=w'/\∀b,Nw w0 w b->w'.heap[b]?=w.heap[b]?
theorem NK.kW{w0 w w' row}(h:w.grownBy w' row)(hr:∀z,row=some z->z<w0.heap.size):NK w0 w w':=⟨h.size,λb a=>h.B b a.2 λe=>PI (hr b e.symm) a.1⟩
theorem NK.alloc(w0 w o):NK w0 w (w.alloc o):=.kW (NN w o none) (λz e=>by cases e)
theorem NK.kh{w0 w w'}(h:Below w.heap.size w w'):NK w0 w w':=.kW (kp h) (λz e=>by cases e)
def vL(z:Obj)(w:World)(S:Nat->Prop):Nat->Prop:=λb=>S b/\w.heap[b]? ≠some z
def sX:Rel In:=λ_ _ r x=>r=[.int .u8 x.op,.int .i64 x.a,.int .i64 x.b,.int .i64 x.n]
theorem sX.ok:kT sX 4:=
 ⟨PJ,λh=>by rw[h];rfl,λh u hu=>by rw[h]at hu;simp at hu;rcases hu with rfl|rfl|rfl|rfl<;>rfl,λh _=>h,λh _=>h⟩
theorem kZ.map{a:Type}(f:a->List Value):∀(l:List a),kZ (λr x=>r=f x) (l.map f) l
 |[]=>trivial
 |_::l=>⟨rfl,kZ.map f l⟩
def qL(x:Nat×Bool×Nat×List UInt8):List Value:=[.int .i64 (x.1:Int),.bool x.2.1,.int .i64 (x.2.2.1:Int),tx x.2.2.2]
def sw(x:Bool×Bool×Nat×Nat×Bool×Bool):List Value:=[.bool x.1,.bool x.2.1,.int .i64 (x.2.2.1:Int),.int .i64 (x.2.2.2.1:Int),.bool x.2.2.2.2.1,.bool x.2.2.2.2.2]
def vX:Array Value:=(shapes.map qL).flatten.toArray
def zj:Array Value:=(forms.map sw).flatten.toArray
theorem mL(l):(⟨l.toArray⟩:ByteArray).toList=l:=by rw[ByteArray.toList_eq]
end Go.Proofs.YtfemcncookpdhaaGreatDoor
namespace Go.Proofs.YtfemcncookpdhaaGreatDoor
open Go.RowKit Go.Proofs.Tryz
theorem kQ(b o a:Nat):(⟨b,o,none⟩:Addr).add a=⟨b,o+a,none⟩:=by
 unfold Addr.add;split
 rename_i h;subst h;rfl
 rfl
theorem km.cells{i:Type}{R:Rel i}{k:Nat}(ok:kT R k){S w j}{n c:Nat}{xs:List i}(h:km R S w (.slice (some j) n c) xs):
  ∃a:List (List Value),xs.length=n/\n<=c/\a.flatten.length=n*k/\kZ (R S w) a xs/\(∀d u,a.flatten[d]?=some u->w.cell? (j.add d)=some u)/\(∀u∈a.flatten,u.oneCell'=true):=by
 obtain⟨s,t,a,e,l,v,m,f⟩:=h;injection e with p q e3;subst p q e3;refine⟨a,rfl,l,kZ.flat (λr x h=>ok.len h) f,f,λd u g=>?_,kZ.one (λr x h=>ok.one h) f⟩;obtain⟨b,o,e,_,hc⟩:=m (by intro e;rw[e]at g;simp at g);injection e with e;subst e;rw[kQ];exact hc d u g
end Go.Proofs.YtfemcncookpdhaaGreatDoor
namespace Go.Proofs.YtfemcncookpdhaaGreatDoor
open Go.RowKit lX Go.Proofs.Tryz
def ql(S:Nat->Prop)(a:Nat)(sc:Sc)(V:Value)(hs:List Hd)(d:Nat)(e:Int)(f:Option Addr)(n c:Nat)(w x:World):Prop:=
 w.grownBy x (some a)/\kx (mo .i64) 114 3 (λb=>w<=b/\b≠a) x w V hs/\x.heap[d]?=some (.cells #[.int .u8 e,.slice f n c] 87 (0,0))/\d≠a/\some d≠V.ownBlock/\(∃p left,kH S x a {sc with params:=p} left)
theorem ql.call{S}{a:Nat}{sc V hs}{b:Nat}{g:Int}{i}{n c:Nat}{w x d}(h:ql S a sc V hs b g i n c w x)(t:a<w){p left:Nat}(hm:kH S d a {sc with params:=p} left)(f:x.grownBy d (some a)):ql S a sc V hs b g i n c w d:=by
 obtain⟨m,j,k,l,q,_⟩:=h;have r:=j.ge;exact⟨kn m f,j.grown (mo.ok _) f (λz e=>by injection e with e;subst e;exact⟨λh=>h.2 rfl,λs=>PH (r a s.symm)⟩),
  (f.B b (NC.1 k).1 (λe=>l (by injection e))).T k,l,q,p,left,hm⟩
theorem ql.grow{S}{a:Nat}{sc V hs}{b:Nat}{d:Int}{e}{n c:Nat}{w x f}(h:ql S a sc V hs b d e n c w x)(i:a<w)(g:x.grownBy f none):ql S a sc V hs b d e n c w f:=by obtain⟨p,left,hm⟩:=h.2.2.2.2.2;exact h.call i (hm.kg g) (kG g _)
theorem kS{w:World}{b:Nat}{a c d:Value}{t:TypeId}(h:w.heap[b]?=some (.cells #[a,c,d] t (0,0))):
  (w.cell? ⟨b,0,none⟩=some a/\w.cell? ⟨b,1,none⟩=some c/\w.cell? ⟨b,2,none⟩=some d)/\(w.frozen? ⟨b,0,none⟩=false/\w.frozen? ⟨b,1,none⟩=false/\w.frozen? ⟨b,2,none⟩=false):=
 ⟨⟨kf h 0 _ rfl,kf h 1 _ rfl,kf h 2 _ rfl⟩,⟨ko h 0,ko h 1,ko h 2⟩⟩
structure nx{α:Type}(R:Rel α)(T k:Nat)(P:Nat->Prop)(w3 wr:World)(o:Nat)(C:Array Value)(TO:TypeId)(V:Value)(xs:List α)(x:World):Prop where
 g:w3.grownBy x (some o)
 c:x.heap[o]?=some (.cells C TO (0,0))
 own:kx R T k P x w3 V xs
 s:wr.heap.size<=x
 v:∀z,V.ownBlock=some z->w3<=z/\z<wr
 lt:o<w3
 ws:w3.heap.size<=wr
 k:∀b,b<wr.heap.size->b≠o->some b≠V.ownBlock->x.heap[b]?=wr.heap[b]?
theorem nx.grow{c:Type}{R:Rel c}{T k:Nat}{P d wr}{o:Nat}{C f V}{xs:List c}{x g}(h:nx R T k P d wr o C f V xs x)(ok:kT R k)(a:x.grownBy g none):nx R T k P d wr o C f V xs g:=
 have hx:o<x:=(NC.1 h.c).1
 ⟨kn h.g (kG a _),(a.B o hx PK).T h.c,h.own.grown ok a (λz e=>by cases e),NR h.s a.size,h.v,h.lt,h.ws,λb i j l=>(a.B b (ND i h.s) PK).T (h.k b i j l)⟩
theorem nx.kh{a:Type}{R:Rel a}{T k:Nat}{P b wr}{o:Nat}{C c V}{xs:List a}{x d}(h:nx R T k P b wr o C c V xs x)(ok:kT R k)(e:Below x x d):nx R T k P b wr o C c V xs d:=h.grow ok (kp e)
theorem nx.alloc{a:Type}{R:Rel a}{T k:Nat}{P b wr}{o:Nat}{C c V}{xs:List a}{x}(h:nx R T k P b wr o C c V xs x)(ok:kT R k)(d):nx R T k P b wr o C c V xs (x.alloc d):=h.grow ok (NN _ _ none)
theorem km.form{b:Type}{R:Rel b}{S w v}{xs:List b}(h:km R S w v xs):∃a c,v=.slice a xs.length c/\xs.length<=c:=by obtain⟨a,c,f,d,e,_⟩:=h;exact⟨a,c,d,e⟩
theorem vL.kg{z w0 w w'}(c:NK w0 w w'){d:Type}{R:Rel d}{k:Nat}(ok:kT R k){v}{xs:List d}(h:km R (vL z w (Nw w0 w)) w v xs):km R (vL z w' (Nw w0 w')) w' v xs:=
 (h.kg ok λb a=>c.2 b a.1).M ok λb a=>⟨⟨a.1.1,ND a.1.2 c.1⟩,by rw[c.2 b a.1];exact a.2⟩
structure mX(cb:Nat)(V:Value)(w:World)(V':Value)(w':World):Prop where
 size:w.heap.size<=w'
 k:∀b,b<w.heap.size->b≠cb->some b≠V.ownBlock->w'.heap[b]?=w.heap[b]? /\some b≠V'.ownBlock
theorem mX.refl(cb:Nat)(V w):mX cb V w V w:=⟨NQ _,λ_ _ _ h=>⟨rfl,h⟩⟩
def kU(v:Value)(w:World)(e:Ending)(w':World):Prop:=e=.returned v/\Below w w w'
end Go.Proofs.YtfemcncookpdhaaGreatDoor
namespace lX
def nL(n m:Nat)(a:List Lk):Prop:=(∀x∈a,∃k,k<m/\k<n*n/\x.a=kB (k/n)/\x.b=kB (k % n)/\1<=x.sW/\x.sW<=3)/\(a.map λx=>(x.a,x.b)).Nodup
structure uD(f:Fl):Prop where
 ex:∃nf nK,f.name=[102,108,101,101,116,49]/\nf<=2/\ru nf f.kM/\1<=nK.length/\nK.length<=3/\(∀l∈nK,1<=l.length/\l.length<=3/\∀a∈l,a<=2)/\nL nK.length (nK.length*nK.length) f.lN/\f.ky.length=nK.length/\∀i c,f.ky[i]?=some c->xK nf nK i c
theorem mq.ops{sc}:∀{d:Nat} {s:St},mq sc d s->(kN (d-1) s.th<=12/\kN (d-1) s.el<=12)->sc.nK.length<=3->(∀l∈sc.nK,∀a∈l,a<=2)->uE d s
 |0,_,h,_,_,_=>h.elim
 |d+1,s,h,hc,h3,h2=>by
  have z:(∀x∈s.th,mq sc d x)->s.th.length<=12/\∀x∈s.th,uE d x:=λg=>by
   refine⟨wF hc.1 g,λx hx=>mq.ops (g x hx) ?_ h3 h2⟩;cases d with
   |zero=>exact(g x hx).elim
   |succ d=>exact(pU hc.1).2 x hx
  have r:(∀x∈s.el,mq sc d x)->s.el.length<=12/\∀x∈s.el,uE d x:=λg=>by
   refine⟨wF hc.2 g,λx hx=>mq.ops (g x hx) ?_ h3 h2⟩;cases d with
   |zero=>exact(g x hx).elim
   |succ d=>exact(pU hc.2).2 x hx
  have n:s.th=[]->s.th.length<=12/\∀x∈s.th,uE d x:=λe=>(by rw[e];simp);have p:s.el=[]->s.el.length<=12/\∀x∈s.el,uE d x:=λe=>(by rw[e];simp);have m:1<=s.kind->s.kind<=255->s.kV.length<=3->(∀e∈s.kV,BX De e)->(s.th.length<=12/\∀x∈s.th,uE d x)->(s.el.length<=12/\∀x∈s.el,uE d x)->uE (d+1) s:=λa b c e t f=>⟨a,b,c,t.1,f.1,e,t.2,f.2⟩
  rcases h with⟨k,_,g,he,e,hx,h⟩|⟨k,_,_,_,g,he,a,b,hx,i,u⟩|⟨k,_,_,_,g,he,a,hx,i⟩|⟨k,_,_,⟨a,hx,i⟩,g,he⟩|⟨k,_,_,he,⟨a,hx,i⟩,g⟩|⟨k,g,he,⟨t,l,q,a,v,w,_,_,y⟩,hx⟩|⟨k,_,g,he,⟨l,q,a,v,w,_,y⟩,hx⟩|⟨k,_,_,g,⟨a,b,hx,i,u⟩,he⟩|⟨k,_,g,_,⟨a,hx,i⟩,he⟩|⟨k,_,_,g,he,hx⟩
  exact m PJ PJ (by rw[hx];simp) (λj hy=>by rw[hx]at hy;simp at hy;subst hy;rcases h with⟨_,_,_,h⟩|⟨_,h⟩;exact h.ops;exact h.ops) (n g) (p he);exact m PJ PJ (by rw[hx];simp) (λj hy=>by rw[hx]at hy;simp at hy;rcases hy with rfl|rfl;exact i.ops;exact u.ops) (n g) (p he);exact m PJ PJ (by rw[hx];simp) (λj hy=>by rw[hx]at hy;simp at hy;subst hy;exact i.ops) (n g) (p he);exact m PJ PJ (by rw[hx];simp) (λj hy=>by rw[hx]at hy;simp at hy;subst hy;exact i.ops) (z g) (r he);exact m PJ PJ (by rw[hx];simp) (λj hy=>by rw[hx]at hy;simp at hy;subst hy;exact i.ops) (z g) (p he);exact m PJ PJ (by rw[y];have:=h2 l (List.mem_of_getElem? v) a (List.mem_of_getElem? w);omega) (λj hy=>(hx j hy).ops) (n g) (p he);exact m PJ PJ (by rw[y];have:=h2 l (List.mem_of_getElem? v) a (List.mem_of_getElem? w);omega) (λj hy=>(hx j hy).ops) (n g) (p he);exact m PJ PJ (by rw[hx];simp) (λj hy=>by rw[hx]at hy;simp at hy;rcases hy with rfl|rfl;exact i.ops;exact u.ops) (n g) (r he);exact m PJ PJ (by rw[hx];simp) (λj hy=>by rw[hx]at hy;simp at hy;subst hy;exact i.ops) (n g) (r he);exact m PJ PJ (by rw[hx];simp) (λj hy=>by rw[hx]at hy;simp at hy) (n g) (p he)
structure MD(h:Hd):Prop where
 params:h.params.length<=2
 body:h.body.length<=12
 ops:∀s∈h.body,uE Ds s
end lX
namespace Go.Proofs.YtfemcncookpdhaaGreatDoor
open Go.RowKit lX Go.Proofs.Tryz
structure Ku(S:Nat->Prop)(B z:Nat)(w0 wx:World)(n:Nat)(parts:List Pt)(Af:Option Addr)(nf cf:Nat)(Ak:Option Addr)(nk ck:Nat)(BS:List Fg)(KD:List Lk)(nK:List (List Nat))(A4:Option Addr)(c4:Nat)(MP:Option Addr)(c10 b8 o8:Nat):Prop where
 hz:wx.heap[z]?=some (.cells #[Em,Nl,Nl,Nl] 32 (0,0))
 hF:wx.heap[B]?=some (.cells #[tx mi,.slice Af nf cf,.slice Ak nk ck,Nl] 32 (0,0))
 zB:w0<=z/\z<B
 qz:Below w0 w0 wx
 Hy:km tX S wx (.slice A4 n c4) parts
 hS:∀b,S b->b<B/\b≠z
 n1:1<=n
 n3:n<=3
 KE:km mR (Jf B wx) wx (.slice Af nf cf) BS
 Hz:ru nf BS
 f2:nf<=2
 LD:km nI (Jf B wx) wx (.slice Ak nk ck) KD
 LF:nL n (n*n) KD
 MB:km qc (Jf B wx) wx (.slice MP n c10) nK
 LG:nK=parts.map λp=>rA p 3
 h8:∀j,j<3->wx.cell? ⟨b8,o8+j,none⟩=some (tx (kB j))
 b8:B<b8/\b8<wx
theorem Ku.len{S}{B z:Nat}{w0 a}{n:Nat}{b d}{e f:Nat}{g}{nk i:Nat}{j k c l}{c4:Nat}{m}{p q r:Nat}(h:Ku S B z w0 a n b d e f g nk i j k c l c4 m p q r):b.length=n/\c.length=n/\B<a:=
 ⟨h.Hy.len.1,h.MB.len.1,(NC.1 h.hF).1⟩
structure Lf(S:Nat->Prop)(B z:Nat)(w0 wx:World)(n:Nat)(parts:List Pt)(Af:Option Addr)(nf cf:Nat)(Ak:Option Addr)(nk ck:Nat)(BS:List Fg)(KD:List Lk)(A4:Option Addr)(c4 b8 o8:Nat):Prop where
 hz:wx.heap[z]?=some (.cells #[Em,Nl,Nl,Nl] 32 (0,0))
 hF:wx.heap[B]?=some (.cells #[tx mi,.slice Af nf cf,.slice Ak nk ck,Nl] 32 (0,0))
 zB:w0<=z/\z<B
 qz:Below w0 w0 wx
 Hy:km tX S wx (.slice A4 n c4) parts
 hS:∀b,S b->b<B/\b≠z
 n1:1<=n
 n3:n<=3
 KE:km mR (Jf B wx) wx (.slice Af nf cf) BS
 Hz:ru nf BS
 f2:nf<=2
 LD:km nI (Jf B wx) wx (.slice Ak nk ck) KD
 LF:nL n (n*n) KD
 h8:∀j,j<3->wx.cell? ⟨b8,o8+j,none⟩=some (tx (kB j))
 b8:B<b8/\b8<wx
structure MC(S:Nat->Prop)(B bx cb mb:Nat)(wx wy:World)(k:Nat)(pi pt:Nat)(A1:Option Addr)(n1 c1:Nat)(A2:Option Addr)(n2 c2:Nat)(Af:Option Addr)(nf cf:Nat)(Ak:Option Addr)(nk ck:Nat)(A:Option Addr)(cp:Nat)(cs:List Co)(Av:Option Addr)(nv cv ni nt:Nat)(nK:List (List Nat))(Aq:Option Addr)(nq cq:Nat)(lq ss:List Cd)(al:List Nat):Prop where
 Kv:wy.heap[bx]?=some (.cells #[.int .u8 (pi:Int),.int .u8 (pt:Int),.slice A1 n1 c1,.slice A2 n2 c2] 74 (0,0))
 MQ:wy.heap[cb]?=some (.cells #[tx (kB k),.slice Av nv cv,Nl] 48 (0,0))
 hF:wy.heap[B]?=some (.cells #[tx mi,.slice Af nf cf,.slice Ak nk ck,.slice A k cp] 32 (0,0))
 ord:B<wx/\wx<=bx/\bx<cb/\cb<mb/\mb<wy
 hg:wx.grownBy wy (some B)
 ho:kx (mg .i64) 48 3 (λb=>wx<=b/\b<bx) wy wx (.slice A k cp) cs
 MR:cs.length=k
 hk:k<3
 LH:∀z,(Value.slice A k cp).ownBlock=some z->z<bx
 LI:kH S wy mb (qy nf ni nt nK k) 0
 lK:pd (qy nf ni nt nK k)
 LJ:nK[k]?=some al
 hq:km qd S wy (.slice Aq nq cq) lq
 q1:1<=nq
 q2:nq<=al.length
 Lg:km qd S wy (.slice A2 n2 c2) ss
 s2:min n2 3<=al.length
 hm:nq=al.length\/min n2 3=al.length
 hv:km (nJ .i64) (λb=>cb<b/\b<wy/\b≠mb) wy (.slice Av nv cv) (lV ni nt)
 LY:∀b,S b->b≠cb
structure Lh(S:Nat->Prop)(B z bp:Nat)(w0 wx:World)(n:Nat)(parts:List Pt)(fb:Nat)(Al:Option Addr)(nl cl:Nat)(LN:List UInt8)(Ac:Option Addr)(nc cc:Nat)(Af:Option Addr)(nf cf:Nat)(BS:List Fg)(A4:Option Addr)(c4 b8 o8:Nat):Prop where
 hz:wx.heap[z]?=some (.cells #[Em,Nl,Nl,Nl] 32 (0,0))
 hF:wx.heap[B]?=some (.cells #[tx mi,.slice Af nf cf,Nl,Nl] 32 (0,0))
 Kw:wx.heap[bp]?=some (.cells #[.int .u8 (fb:Int),.slice Al nl cl,.slice Ac nc cc] 25 (0,0))
 Li:bp<z
 zB:w0<=z/\z<B
 qz:Below w0 w0 wx
 Hy:km tX S wx (.slice A4 n c4) parts
 Lj:km qE S wx (.slice Al nl cl) LN
 hS:∀b,S b->b<B/\b≠z
 n1:1<=n
 n3:n<=3
 KE:km mR (Jf B wx) wx (.slice Af nf cf) BS
 Hz:ru nf BS
 f2:nf<=2
 h8:∀j,j<3->wx.cell? ⟨b8,o8+j,none⟩=some (tx (kB j))
 b8:B<b8/\b8<wx
structure B6(S:Nat->Prop)(B z bp:Nat)(w0 wx:World)(n:Nat)(parts:List Pt)(fb:Nat)(Al:Option Addr)(nl cl:Nat)(LN:List UInt8)(Ac:Option Addr)(nc cc:Nat)(A4:Option Addr)(c4:Nat):Prop where
 hz:wx.heap[z]?=some (.cells #[Em,Nl,Nl,Nl] 32 (0,0))
 hF:wx.heap[B]?=some (.cells #[tx mi,Nl,Nl,Nl] 32 (0,0))
 Kw:wx.heap[bp]?=some (.cells #[.int .u8 (fb:Int),.slice Al nl cl,.slice Ac nc cc] 25 (0,0))
 Li:bp<z
 zB:w0<=z/\z<B
 qz:Below w0 w0 wx
 Hy:km tX S wx (.slice A4 n c4) parts
 Lj:km qE S wx (.slice Al nl cl) LN
 hS:∀b,S b->b<B/\b≠z
 n1:1<=n
 n3:n<=3
theorem kq{lo:Nat}{w w'}(h:Below lo w w'){z i:Nat}{u}(hz:lo<=z):Below lo w (w'.setCell ⟨z,i,none⟩ u):=
 ⟨h.os,h.tape,h.output,by rw[NM];exact h.size,λb a=>(NZ _ _ _ _ (by show b≠z;omega)).T (h.B b a)⟩
structure lO(w3:World)(cb:Nat)(f0 f1 f2 f3 hd own vars kF kM params:Value)(V:Value)(code:List In)(w:World):Prop where
 g:w3.grownBy w (some cb)
 c:w.heap[cb]?=some (.cells #[f0,f1,f2,f3,hd,own,vars,kF,kM,params,V] 152 (0,0))
 own:kx sX 312 4 (λ_=>False) w w3 V code
 lt:cb<w3
theorem mX.T{cb:Nat}{V a c w w' d}(h:mX cb V w a w')(k:mX cb a w' c d):mX cb V w c d:=
 ⟨NR h.size k.size,λb e hc f=>by obtain⟨g,i⟩:=h.k b e hc f;obtain⟨j,l⟩:=k.k b (ND e h.size) hc i;exact⟨j.T g,l⟩⟩
theorem mX.kh{cb:Nat}{V w w'}(h:Below w.heap.size w w'):mX cb V w V w':=⟨h.size,λb a _ c=>⟨h.B b a,c⟩⟩
theorem lO.kh{b}{cb:Nat}{c d e f hd own g i j params V}{k:List In}{w w'}(h:lO b cb c d e f hd own g i j params V k w)(a:Below w w w'):lO b cb c d e f hd own g i j params V k w':=
 ⟨kn h.g (kG (kp a) _),(a.B cb (NC.1 h.c).1).T h.c,h.own.kh sX.ok a,h.lt⟩
structure KG(w3:World)(o:Nat)(C:Array Value)(TO:TypeId)(x:World):Prop where
 g:w3.grownBy x (some o)
 c:x.heap[o]?=some (.cells C TO (0,0))
 lt:o<w3
def ma(g:FuncId):Prop:=∀(a:Array Value) (w:World),Sem.run prog (callFunc g a) w=.ok (.enter g a) w
def nU(S:Nat->Prop)(w:World)(v:Value):Prop:=∃(a:Option Addr) (n c:Nat) (xs:List (List UInt8)),v=.slice a n c/\km kA S w (.slice a n c) xs/\n<=1000
theorem Bk:ma 174:=λ_ _=>PL
end Go.Proofs.YtfemcncookpdhaaGreatDoor
namespace lX
structure M7(c:Co):Prop where
 vars:c.vars.length<=5
 ty:∀v∈c.vars,0<=v.ty/\v.ty<=3
 kY:c.kY.length<=2
 hs:∀l∈c.kY,l.length<=3/\∀h∈l,MD h
structure ME(f:Fl):Prop where
 kM:f.kM.length<=2
 lN:f.lN.length<=9
 ky:f.ky.length<=3
 co:∀c∈f.ky,M7 c
theorem En(i t:Nat):∀v∈lV i t,1<=v.ty/\v.ty<=3:=by intro v a;simp only[lV,List.mem_append,List.mem_map,List.mem_singleton]at a;rcases a with(⟨k,_,rfl⟩|rfl)|⟨k,_,rfl⟩<;>simp
theorem Gu{n:Nat}(hn:n<=3){a}(h:nL n (n*n) a):a.length<=9:=by
 have b:(a.map λx=>(x.a,x.b)).length<=((List.range (n*n)).map λk=>(kB (k/n),kB (k % n))).length:=by refine List.Nodup.length_le_of_subset h.2 ?_;intro p hp;rw[List.mem_map]at hp;obtain⟨x,hx,rfl⟩:=hp;obtain⟨k,c,_,d,e,_⟩:=h.1 x hx;rw[List.mem_map];exact⟨k,List.mem_range.2 c,by rw[d,e]⟩
 simp at b;have:n*n<=3*3:=Nat.mul_le_mul hn hn;omega
theorem Ed.b{sc}(e:sc.nK.length<=3)(f:∀l∈sc.nK,∀a∈l,a<=2){b}(g:∀a∈b,a<=2){k:Nat}{h}(i:Ed sc b k h):MD h:=by obtain⟨a,j,_,hp,c,hc⟩:=i;have m:=g a (List.mem_of_getElem? j);refine⟨by rw[hp,lr];exact m,wF hc c,λs hs=>?_⟩;refine(c s hs).ops ?_ e f;exact(pU (d:=3) hc).2 s hs
theorem uD.b{f}(h:uD f):ME f:=by obtain⟨z,A,_,j,m,B,b,d,n,C,p⟩:=h.ex;refine⟨by rw[m.1];exact j,Gu b n,PJ,λc hc=>?_⟩;obtain⟨i,hi⟩:=List.getElem?_of_mem hc;obtain⟨ints,D,q,E,F,G,_,e,I,r,s,t,_⟩:=(p i c hi).ex;have u:=d q (List.mem_of_getElem? s);refine⟨by rw[e,qY];omega,λv g=>?_,r,λl a=>?_⟩;rw[e]at g;have:=En _ _ v g;omega;obtain⟨J,K,w⟩:=t l a;refine⟨PJ,λh x=>?_⟩;obtain⟨k,y⟩:=List.getElem?_of_mem x;exact(w k h y).b b (λl a=>(d l a).2.2) u.2.2
end lX
namespace Go.Proofs.YtfemcncookpdhaaGreatDoor
open Go.RowKit lX Go.Proofs.Tryz
theorem KG.s{a}{o:Nat}{C b x}(h:KG a o C b x):a.heap.size<=x:=h.g.size
theorem KG.lx{a}{o:Nat}{C b x}(h:KG a o C b x):o<x:=(NC.1 h.c).1
theorem KG.grow{c}{o:Nat}{C d x f row}(h:KG c o C d x)(a:x.grownBy f row)(hr:∀z,row=some z->c<=z):KG c o C d f:=
 ⟨⟨a.os.T h.g.os,a.tape.T h.g.tape,a.output.T h.g.output,NR h.g.size a.size,λb g i=>(a.B b (ND g h.g.size) (λe=>PH (hr b e.symm))).T (h.g.B b g i)⟩,(a.B o h.lx (λe=>PI (hr o e.symm) h.lt)).T h.c,h.lt⟩
theorem KG.alloc{a}{o:Nat}{C b x}(h:KG a o C b x)(c):KG a o C b (x.alloc c):=h.grow (NN _ _ none) (λz e=>by cases e)
def At(w:World)(b o:Nat)(r:List Value):Prop:=∀(a:Nat) (u:Value),r[a]?=some u->w.cell? ⟨b,o+a,none⟩=some u
def KF(xs:List (List UInt8))(s:List UInt8)(r:Int):Prop:=(r= -1/\s∉xs)\/∃i:Nat,r=(i:Int)/\xs[i]?=some s/\∀a,a<i->xs[a]? ≠some s
theorem KF.neg{xs s}{r:Int}(h:KF xs s r)(hs:s∉xs):r= -1:=by
 rcases h with h|⟨i,_,h,_⟩
 exact h.1;exact absurd (NH h) hs
theorem KF.pos{xs s}{r:Int}(h:KF xs s r)(hs:s∈xs):∃i:Nat,r=(i:Int)/\i<xs.length/\xs[i]?=some s:=by
 rcases h with h|⟨i,b,a,_⟩
 exact absurd hs h.2;exact⟨i,b,(NW.1 a).1,a⟩
def rk(a:List In)(n:Nat)(b:List In):Prop:=∃l,b=a++l/\l.length<=n/\∀x∈l,lQ x
theorem rk.T{a b c:List In}{n m q:Nat}(h:rk a n b)(e:rk b m c)(i:n+m<=q):rk a q c:=by obtain⟨l,rfl,j,hp⟩:=h;obtain⟨f,rfl,k,g⟩:=e;refine⟨l++f,by rw[OG],PO,λd hy=>?_⟩;rcases OI.1 hy with hy|hy;exact hp d hy;exact g d hy
theorem uS{a:Type}{xs:List a}{p:a->Bool}{k:Nat}(b:(xs.take k).find? p=none){x:a}(hx:xs[k]?=some x):(p x=true->xs.find? p=some x)/\(p x=false->(xs.take (k+1)).find? p=none):=by
 have c:xs.take (k+1)=xs.take k++[x]:=by rw[N5,hx];rfl
 refine⟨λh=>?_,λh=>?_⟩;have d:xs=xs.take (k+1)++xs.drop (k+1):=(Pu _ _).symm;rw[d,c,OG,List.find?_append,b];simp[h];rw[c,List.find?_append,b];simp[h]
end Go.Proofs.YtfemcncookpdhaaGreatDoor
namespace mh
def nE(n:Int):Bool:=(decide (97<=n)&&decide (n<=122))||(decide (65<=n)&&decide (n<=90))
def wC(n:Int):Bool:=decide (48<=n)&&decide (n<=57)
def pE(n:Int):Bool:=nE n||wC n||(n==95)
def pre(p:Int->Bool)(l:List UInt8):Nat:=(l.takeWhile λc=>p c.toNat).length
def words:List (List UInt8):=[[97,102,116,101,114],[97,108,119,97,121,115],[97,110,100],[97,114,114,105,118,101,115],[98,111,111,108],[99,111,109,112,111,110,101,110,116],[99,111,117,110,116],[100,101,108,101,116,101],[100,111],[101,108,115,101],[101,120,105,115,116,115],[102,97,108,115,101],[102,101,116,99,104],[102,108,97,103],[102,108,101,101,116],[102,111,114,97,108,108],[104,97,115],[105,102],[105,109,112,108,105,101,115],[105,110],[105,110,116],[108,97,116,101,110,99,121],[108,105,110,107],[110,111,116],[110,111,119],[111,110],[111,110,99,101],[111,114],[112,114,101,118,105,111,117,115],[115,101,110,100],[115,105,110,99,101],[115,105,122,101],[115,116,111,112],[115,116,111,114,101],[116,97,98,108,101],[116,114,117,101],[118,97,114],[118,101,114,115,105,111,110],[119,104,105,108,101]]
def xL(l:List UInt8):Bool:=words.contains l
end mh
namespace Go.Proofs.YtfemcncookpdhaaGreatDoor
open Go.RowKit lX Go.Proofs.Tryz
def pO:Array Value:=(mh.words.map tx).toArray
def td(w:World):Prop:=∃t a,w.heap[7]?=some (.cells pO t a)
def mI(l:List UInt8):Bool:=decide (0<l.length)&&decide (l.length<=12)&&mh.nE (l.headD 0).toNat&&(mh.pre mh.pE l==l.length)&& !mh.xL l
structure lH(w:World):Prop where
 names:td w
 shapes:∃t fr,w.heap[8]?=some (.cells vX t fr)
 forms:∃t fr,w.heap[4]?=some (.cells zj t fr)
theorem td.kh{w w'}{B:Nat}(h:td w)(a:Below B w w')(b:7<B):td w':=by obtain⟨t,c,h⟩:=h;exact⟨t,c,(a.B _ b).T h⟩
theorem td.lt{w}(h:td w):7<w.heap.size:=by obtain⟨t,a,h⟩:=h;exact(NC.1 h).1
theorem lH.lt{w}(h:lH w):8<w.heap.size/\4<w.heap.size:=by obtain⟨_,⟨_,_,a⟩,⟨_,_,b⟩⟩:=h;exact⟨(NC.1 a).1,(NC.1 b).1⟩
theorem lH.kg{w w'}(h:lH w)(a:∀b,b<w.heap.size->(b=7\/b=8\/b=4)->w'.heap[b]?=w.heap[b]?):lH w':=by have c:=h.lt;have hn:=h.names.lt;obtain⟨⟨t,d,e⟩,⟨f,g,i⟩,⟨j,k,l⟩⟩:=h;exact⟨⟨t,d,(a _ hn (.inl rfl)).T e⟩,⟨f,g,(a _ c.1 (.inr (.inl rfl))).T i⟩,⟨j,k,(a _ c.2 (.inr (.inr rfl))).T l⟩⟩
theorem lH.kh{w w'}{B:Nat}(h:lH w)(c:Below B w w')(a:7<B/\8<B/\4<B):lH w':=
 h.kg λb _ h=>c.B b (by rcases h with rfl|rfl|rfl;exact a.1;exact a.2.1;exact a.2.2)
def ml:Nat->Ex->Prop
 |0,_=>False
 |d+1,e=>(∃x,1<=e.op/\shapes[e.op.toNat]?=some x/\e.args.length=x.1/\(x.2.1=true->mI e.name=true)/\(x.2.1=false->e.name=[])/\(e.op=1->0<=e.n)/\(e.op≠1->e.n=0))/\∀a∈e.args,ml d a
theorem At.kh{w w'}{B b o:Nat}{r}(h:At w b o r)(c:Below B w w')(d:b<B):At w' b o r:=λa u hu=>(Cb b (o+a) (c.B b d)).T (h a u hu)
def nB:Nat->St->Prop
 |0,_=>False
 |d+1,s=>(∃x,1<=s.kind/\forms[s.kind.toNat]?=some x/\(x.1=true->mI s.name=true)/\(x.1=false->s.name=[])/\(x.2.1=true->mI s.hd=true)/\(x.2.1=false->s.hd=[])/\x.2.2.1<=s.kV.length/\s.kV.length<=x.2.2.2.1/\(x.2.2.2.2.1=false->s.th=[])/\(x.2.2.2.2.2=false->s.el=[]))/\
  (∀e∈s.kV,ml De e)/\(s.th.length<=12/\s.el.length<=12)/\(∀x∈s.th,nB d x)/\∀x∈s.el,nB d x
structure yq(h:Hd):Prop where
 name:mI h.name=true
 FH:h.params.length<=2
 params:∀p∈h.params,mI p=true
 BZ:h.body.length<=12
 body:∀s∈h.body,nB Ds s
 cnt:kN Ds h.body<=12
structure Jl(v:Va):Prop where
 name:mI v.name=true
 form:(v.ty=1/\v.init≠ -9223372036854775808)\/(v.ty=2/\(v.init=0\/v.init=1))\/(v.ty=3/\v.init=0)
structure FP(c:Co):Prop where
 name:mI c.name=true
 B0:c.vars.length<=5
 vars:∀v∈c.vars,Jl v
 v1:1<=c.kY.length
 v2:c.kY.length<=2
 kY:∀l∈c.kY,l.length<=3/\∀h∈l,yq h
structure pj(f:Fl):Prop where
 name:mI f.name=true
 zf:f.kM.length<=2
 kM:∀x∈f.kM,mI x.name=true
 Ee:f.lN.length<=9
 lN:∀x∈f.lN,mI x.a=true/\mI x.b=true/\1<=x.sW/\x.sW<=50
 c1:1<=f.ky.length
 c3:f.ky.length<=3
 ky:∀c∈f.ky,FP c
structure qV(S:Nat->Prop)(w:World)(A1:Option Addr)(m1 c1:Nat)(A2:Option Addr)(m2 c2:Nat)(A3:Option Addr)(m3 c3:Nat)(f:Fl):Prop where
 kM:km mR S w (.slice A1 m1 c1) f.kM
 lN:km nI S w (.slice A2 m2 c2) f.lN
 ky:km (mg .u8) S w (.slice A3 m3 c3) f.ky
 ln:∀q,S q->q<w
theorem qV.kh{S w w' c}{d c1:Nat}{e}{g c2:Nat}{i}{j c3:Nat}{f}(h:qV S w c d c1 e g c2 i j c3 f)(b:Below w w w'):qV S w' c d c1 e g c2 i j c3 f:=
 ⟨h.kM.kg mR.ok λq a=>b.B q (h.ln q a),h.lN.kg nI.ok λq a=>b.B q (h.ln q a),h.ky.kg (mg.ok _) λq a=>b.B q (h.ln q a),λq a=>ND (h.ln q a) b.size⟩
structure zg(S:Nat->Prop)(w3:World)(cb:Nat)(vars kF kM params:Value):Prop where
 vars:nU S w3 vars
 kF:nU S w3 kF
 kM:nU S w3 kM
 params:nU S w3 params
 ln:∀q,S q->q<w3/\q≠cb
def pM(a:List Fg)(name:List UInt8):Bool:=a.any λx=>x.name==name
theorem sJ{a name}:pM a name=true↔∃x∈a,x.name=name:=by simp[pM]
theorem EC(n:List UInt8)(name)(i:Bool)(a:Nat)(w)(hn:w.cell? ⟨a,0,none⟩=some (tx name))(b:a<w.heap.size):
  Calls prog 174 #[.agg #[tx n,.bool i],.pointer (some ⟨a,0,none⟩)] w (kU (.bool (n==name)) w):=by
 have c:=mL n;have d:=mL name
 go_enter func174,ntmps174
 go_wp2;go_ret;exact⟨rfl,Ba _ _⟩
def pP:Option Va->Value
 |some x=>.tuple #[.agg #[tx x.name,.int .u8 x.ty,x.init],.bool true]
 |none=>.tuple #[.agg #[Em,.int .u8 0,.int .i64 0],.bool false]
def uG(S:Nat->Prop)(w:World)(c:Co)(v:Value):Prop:=∃(a:Option Addr) (b cv:Nat) (d:Option Addr) (e f:Nat),v=.agg #[tx c.name,.slice a b cv,.slice d e f]/\km (nJ .u8) S w (.slice a b cv) c.vars/\km (mB .u8) S w (.slice d e f) c.kY
end Go.Proofs.YtfemcncookpdhaaGreatDoor
namespace Go.Proofs.YtfemcncookpdhaaGreatDoor
open Go.RowKit lX Go.Maps Go.Proofs.Tryz
def RM:Value->Option (DataW Unit×List MemPlace):=λ_=>some (.lit (.bool true),[])
def Ad(w:World)(b n:Nat):Prop:=∃D:DataW Unit,w.ownsMap prog 9 RM b n D
theorem Ad.len{w}{b n:Nat}(h:Ad w b n):∃m:Nat,m<=n/\(Builtin.len_ #[252] 3 #[.map (some b)]).run prog w=.ok (.int .i64 (m:Int)) w:=by obtain⟨D,h⟩:=h;exact⟨_,h.size_le,h.len underlying252 _⟩
end Go.Proofs.YtfemcncookpdhaaGreatDoor
namespace Go.Proofs.YtfemcncookpdhaaGreatDoor
open Go.RowKit lX Go.Proofs.Tryz
theorem uR(S w g)(n c:Nat)(xs)(s:List UInt8)(j:km kA S w (.slice g n c) xs)(y:n<=1000)(hS:∀q,S q->q<w):
  Calls prog 91 #[.slice g n c,tx s] w λe w'=>∃r:Int,e=.returned (.int .i64 r)/\KF xs s r/\w=w':=by
 have l:=j.len;have hc:=l.2;have m:=l.1;have p:=j;have z:=hS;have A:=mL s
 go_enter func91,ntmps91
 go_wp2
 go_loop [8] (λi=>∃k:Nat,k<=n/\i=k/\∀a,a<k->xs[a]? ≠some s) (λi=>n-(intOf i).toNat)
 case atStart=>exact⟨0,NP _,rfl,λa b=>PJ⟩
 case round=>
  obtain⟨k,B,rfl,d⟩:=hrel;by_cases C:k<n
  .obtain⟨x,f⟩:∃x,xs[k]?=some x:=Gx (PH m);obtain⟨D,E,r,rfl,F,hr,t⟩:=p.kI kA.ok k x f;have u:r=[tx x]:=hr;subst u;have v:=t 0 _ rfl;rw[NS,Og]at v;have G:=mL x;cases hq:(s==x)
   .go_wp2
    go_round
    case rel=>refine⟨k+1,PJ,PQ,λa b=>?_⟩;by_cases e:a=k;rw[e,f];intro h;injection h with h;rw[h]at hq;simp at hq;exact d a PJ
    case measure=>simp[intOf];omega
   go_wp2;go_ret;exact⟨_,rfl,.inr ⟨k,rfl,by rw[f];rw[Pd]at hq;rw[hq],d⟩,rfl⟩
  obtain rfl:n=k:=PJ;go_wp2;go_ret;refine⟨_,rfl,.inl ⟨rfl,λhm=>?_⟩,rfl⟩;obtain⟨a,b⟩:=Pz hm;exact d a (PI ((NW.1 b).1) m) b
theorem pF(S w a)(n c:Nat)(xs)(s:List UInt8)(b:km kA S w (.slice a n c) xs)(d:n<=1000)(hS:∀q,S q->q<w):
  Calls prog 90 #[.slice a n c,tx s] w λe w'=>e=.returned (.bool (decide (s∈xs)))/\w=w':=by
 have f:=(uR S w a n c xs s b d hS)
 go_enter func90,ntmps90
 go_wp2_with fail;refine f.M ?_;rintro e g ⟨r,rfl,hr,rfl⟩;by_cases hm:s∈xs
 .obtain⟨i,rfl,_,_⟩:=hr.pos hm;have j:decide ((0:Int)<=(i:Int))=true:=(by rw[O4];omega);go_wp2_with fail;go_ret;exact⟨by simp[hm],rfl⟩
 .obtain rfl:=hr.neg hm;go_wp2_with fail;go_ret;exact⟨by simp[hm],rfl⟩
end Go.Proofs.YtfemcncookpdhaaGreatDoor
namespace lX
theorem EA{k:Nat}{x}(h:shapes[k]?=some x):k<24/\x.1<=2:=by
 have a:=(List.getElem?_eq_some_iff.1 h).1;have b:∀x∈shapes,x.1<=2:=PM
 exact⟨a,b x (List.mem_of_getElem? h)⟩
end lX
namespace Go.Proofs.YtfemcncookpdhaaGreatDoor
open Go.RowKit lX Go.Proofs.Tryz
theorem ml.op{d:Nat}{e}(h:ml d e):(1<=e.op/\e.op<=23)/\e.args.length<=2/\∃d',d=d'+1/\∀a∈e.args,ml d' a:=by
 cases d with
 |zero=>exact h.elim
 |succ d=>obtain⟨⟨x,b,hx,f,_⟩,c⟩:=h;obtain⟨g,i⟩:=EA hx;exact⟨⟨b,PJ⟩,PJ,d,rfl,c⟩
end Go.Proofs.YtfemcncookpdhaaGreatDoor
namespace lX
def pw(n:Nat)(x:In):Prop:=1<=x.op/\x.op<=34/\(x.op=27\/x.op=28->0<=x.a/\x.a<=n)/\(x.op=32\/x.op=33->0<=x.b/\x.b<=n)
theorem lQ.ok{x:In}(h:lQ x)(n:Nat):pw n x:=⟨h.1,h.2.1,λa=>PH h.2.2,λa=>PH h.2.2⟩
theorem pw.M{x:In}{n m:Nat}(h:pw n x)(hm:n<=m):pw m x:=⟨h.1,h.2.1,λk=>PH (h.2.2.1 k),λk=>PH (h.2.2.2 k)⟩
def mC(a:List In)(n:Nat)(b:List In):Prop:=∃l,b=a++l/\l.length<=n/\∀x∈l,pw (a.length+l.length) x
theorem mC.refl(a:List In):mC a 0 a:=⟨[],PK,PK,PK⟩
theorem mC.T{a b c:List In}{n m q:Nat}(h:mC a n b)(e:mC b m c)(i:n+m<=q):mC a q c:=by obtain⟨l,rfl,j,hp⟩:=h;obtain⟨f,rfl,k,g⟩:=e;refine⟨l++f,by rw[List.append_assoc],PO,λd hy=>?_⟩;rcases List.mem_append.1 hy with hy|hy;exact(hp d hy).M (by simp only[List.length_append];omega);exact(g d hy).M (by simp only[List.length_append];omega)
theorem mC.len{a b:List In}{n:Nat}(h:mC a n b):a.length<=b.length/\b.length<=a.length+n:=by obtain⟨l,rfl,c,_⟩:=h;simp;omega
theorem mC.kI{a b:List In}{n i:Nat}(h:mC a n b){x:In}(hi:a[i]?=some x):b[i]?=some x:=by obtain⟨l,rfl,_⟩:=h;rw[List.getElem?_append_left (List.getElem?_eq_some_iff.1 hi).1];exact hi
end lX
namespace Go.Proofs.YtfemcncookpdhaaGreatDoor
open Go.RowKit lX Go.Proofs.Tryz
theorem Bl(S w p)(n c:Nat)(xs name)(d:Nat)(s:km mR S w (.slice p n c) xs)(O:n<=1000)(hS:∀q,S q->q<w)(hn:w.cell? ⟨d,0,none⟩=some (tx name))(D:d<w):
  Calls prog 198 #[.slice p n c,.func (.func 174) #[] #[.pointer (some ⟨d,0,none⟩)]] w λe w'=>∃r:Int,e=.returned (.int .i64 r)/\(pM xs name=true->0<=r)/\(pM xs name=false->r= -1)/\Below w w w':=by
 have E:=Bk;unfold ma at E;have t:=s.len;have hc:=t.2;have u:=t.1;have F:=s;have v:=hS;have G:=hn
 go_enter func198,ntmps198
 go_wp2;go_loopw [8] (λi wr=>∃k:Nat,k<=n/\i=k/\(∀a x,a<k->xs[a]?=some x->x.name≠name)/\Below w w wr) (λi _=>n-(intOf i).toNat);case atStart=>exact⟨0,NP _,rfl,λa x j=>PJ,Below.refl _ _⟩
 case round=>
  obtain⟨k,P,rfl,y,f⟩:=hrel;have z:=f.size;have I:=((Cb d 0 (f.B d D)).T G)
  by_cases Q:k<n
  .obtain⟨x,l⟩:∃x,xs[k]?=some x:=Gx (PH u);obtain⟨A,R,r,rfl,J,hr,B⟩:=(F.kg mR.ok (λq b=>f.B q (v q b))).kI mR.ok k x l;have K:r=[tx x.name,.bool x.init]:=hr;subst K;have L:=B 0 _ rfl;have T:=B 1 _ rfl;rw[NS]at L;have U:A<wr:=PH (v A J);have C:=(EC x.name name x.init d wr I PJ)
   cases b:(x.name==name)
   .go_wp2_with (refine C.M ?_;rw[b];rintro e M ⟨rfl,g⟩;have m:=(f.T (g.M z));clear g);go_roundw;case rel=>refine⟨k+1,PJ,PQ,λa N j hy=>?_,m⟩;by_cases e:a=k;rw[e,l]at hy;injection hy with hy;rw[<-hy];intro h;rw[h]at b;simp at b;exact y a N PJ hy
    case measure=>simp[intOf];omega
   go_wp2_with (refine C.M ?_;rw[b];rintro e M ⟨rfl,g⟩;have m:=(f.T (g.M z));clear g);go_ret;refine⟨_,rfl,λ_=>PJ,λh=>?_,m⟩;have:pM xs name=true:=sJ.2 ⟨x,NH l,by simpa using b⟩;rw[this]at h;cases h
  obtain rfl:n=k:=PJ;go_wp2;go_ret;refine⟨_,rfl,λh=>?_,λ_=>rfl,f⟩;obtain⟨x,hx,e⟩:=sJ.1 h;obtain⟨a,j⟩:=Pz hx;exact absurd e (y a x (PI ((NW.1 j).1) u) j)
theorem rM(S w b)(n c:Nat)(xs)(name:List UInt8)(i:km mR S w (.slice b n c) xs)(j:n<=1000)(hS:∀q,S q->q<w):
  Calls prog 137 #[.slice b n c,tx name] w (kU (.bool (pM xs name)) w):=by
 have v:∀(fn:Fn) (first cap:Array Value) (w:World),(Instr.makeFunc fn first cap).run prog w=.ok (.func fn first cap) w:=λ_ _ _ _=>rfl;have f:Below w w (w.alloc (.cells #[tx name] 9)):=Ba _ _;have k:=i.kg mR.ok (λq a=>f.B q (hS q a));have l:=NF w (.cells #[tx name] 9);have x:(w.alloc (.cells #[tx name] 9)).heap.size=w+1:=PK
 have m:=(Bl S _ b n c xs name w k j (λq a=>PH (hS q a)) (kf l 0 _ rfl) PJ)
 have p:Calls prog 173 #[.slice b n c,.func (.func 174) #[] #[.pointer (some ⟨w,0,none⟩)]] (w.alloc (.cells #[tx name] 9)) (kU (.bool (pM xs name)) w):=by
  go_enter func173,ntmps173
  go_wp2_with fail;refine m.M ?_;rintro e s ⟨r,rfl,t,u,d⟩;have g:=(f.T (d.M PJ))
  cases a:pM xs name
  .have hr:=u a;subst hr;go_wp2_with fail;go_ret;exact⟨by rw[a];rfl,g⟩
  have hr:=t a;have hd:decide ((0:Int)<=r)=true:=(by rw[O4];exact hr);go_wp2_with fail;go_ret;exact⟨by rw[a];rfl,g⟩
 go_enter func137,ntmps137
 go_wp2_with fail;refine p.M ?_;rintro e s ⟨rfl,d⟩;go_wp2_with fail;go_ret;exact⟨rfl,d⟩
theorem pG(S w m)(n c:Nat)(xs)(name:List UInt8)(p:km (nJ .u8) S w (.slice m n c) xs)(U:n<=1000)(hS:∀q,S q->q<w):
  Calls prog 141 #[.slice m n c,tx name] w (kU (pP (xs.find? λx=>x.name==name)) w):=by
 have f:=p.len;have hc:=f.2;have V:=mL name;have s:Below w w (w.alloc (.cells #[Em,.int .u8 0,.int .i64 0] 108)):=Ba _ _;have t:=NF w (.cells #[Em,.int .u8 0,.int .i64 0] 108);have I:(w.alloc (.cells #[Em,.int .u8 0,.int .i64 0] 108)).heap.size=w+1:=PK
 have u:=NA f.1;have J:=(p.kg (nJ.ok .u8) (λq a=>s.B q (hS q a)))
 have y:∀q,S q->q<(w.alloc (.cells #[Em,.int .u8 0,.int .i64 0] 108)).heap.size:=λq a=>PH (hS q a)
 have A:=NA t;clear hS f t
 go_enter func141,ntmps141
 go_wp2_with fail;obtain⟨z,hz⟩:=Xq w.heap.size;rw[<-hz]at A I⊢;have b:w<=z:=PJ
 generalize w.alloc (.cells #[Em,.int .u8 0,.int .i64 0] 108)=B at*;have K:z<B:=PJ
 clear hz;go_loopw [10] (λi wr=>∃k:Nat,k<=n/\i=k/\(xs.take k).find? (λx=>x.name==name)=none/\Below B B wr) (λi _=>n-(intOf i).toNat);case atStart=>exact⟨0,NP _,rfl,PK,Below.refl _ _⟩
 case round=>
  obtain⟨k,W,rfl,C,d⟩:=hrel;have D:=NA C;have X:=d.size;obtain⟨⟨g,j,l⟩,⟨L,M,N⟩⟩:=kS ((d.B z K).T A.o);have O:z<wr:=PJ;have E:=(s.T (d.M PJ))
  clear C;by_cases Y:k<n
  .obtain⟨x,hx⟩:∃x,xs[k]?=some x:=Gx (PH u.o);obtain⟨F,Z,r,rfl,P,hr,e⟩:=(J.kg (nJ.ok .u8) (λq a=>d.B q (y q a))).kI (nJ.ok .u8) k x hx;have Q:r=[tx x.name,.int .u8 x.ty,.int .i64 x.init]:=hr;subst Q;have R:=e 0 _ rfl;have aa:=e 1 _ rfl;have ab:=e 2 _ rfl;rw[NS]at R;have ac:F<wr:=PH (y F P);have ad:(0:Int)<=(k:Int):=PJ;have ae:(k:Int)<(n:Int):=PJ;have af:=mL x.name;have G:=(uS D.o hx)
   have T:=(d.alloc PJ (.cells #[tx x.name,.int .u8 x.ty,x.init] 108))
   clear e hx;cases a:(x.name==name)
   .have hf:=G.2 a;clear g j l L M N;go_wp2_with fail;go_roundw;case rel=>exact⟨k+1,PJ,PQ,hf,T⟩
    case measure=>simp[intOf];omega
   have hf:=G.1 a;go_wp2_with fail;refine NT (v:=.tuple #[.agg #[tx x.name,.int .u8 x.ty,x.init],.bool true]) ?_ rfl ⟨by rw[hf];rfl,(kq (kq (kq E b) b) b).alloc P0 _⟩;simp[results,Tryz.results141,go_sem,g,j,l,O,O5]
  obtain rfl:n=k:=PJ;have hf:=D.o;rw[NV (PH u.o)]at hf;go_wp2_with fail;refine NT (v:=.tuple #[.agg #[Em,.int .u8 0,.int .i64 0],.bool false]) ?_ rfl ⟨by rw[hf];rfl,kq (kq (kq E b) b) b⟩;simp[results,Tryz.results141,go_sem,g,j,l]
theorem uG.kg{S w w' c v}(h:uG S w c v)(a:∀q,S q->w'.heap[q]?=w.heap[q]?):uG S w' c v:=by obtain⟨b,d,cv,f,g,i,e,j,k⟩:=h;exact⟨b,d,cv,f,g,i,e,j.kg (nJ.ok _) a,k.kg (mB.ok _) a⟩
structure rB(S:Nat->Prop)(w:World)(BS:List Fg)(sc:Sc)(AF:Option Addr)(nf cf:Nat)(AV:Option Addr)(nv cv:Nat)(AP:Option Addr)(np cp:Nat):Prop where
 kM:km mR S w (.slice AF nf cf) BS
 Hz:ru sc.kM BS
 vars:km (nJ .u8) S w (.slice AV nv cv) (lV sc.ints sc.kF)
 params:km kA S w (.slice AP np cp) (oI 112 sc.params)
 ok:pd sc
 ln:∀q,S q->q<w
theorem rB.kg{S w w' b sc c}{d e:Nat}{f}{g cv:Nat}{i}{j k:Nat}(h:rB S w b sc c d e f g cv i j k)(a:∀q,S q->w'.heap[q]?=w.heap[q]?)(hs:w.heap.size<=w'.heap.size):rB S w' b sc c d e f g cv i j k:=
 ⟨h.kM.kg mR.ok a,h.Hz,h.vars.kg (nJ.ok _) a,h.params.kg kA.ok a,h.ok,λq l=>ND (h.ln q l) hs⟩
theorem rB.lens{S w j sc k}{f l:Nat}{m}{g cv:Nat}{n}{i p:Nat}(h:rB S w j sc k f l m g cv n i p):f<=1000/\g<=1000/\i<=1000:=by have s:=h.kM.len.1;have q:=h.vars.len.1;have r:=h.params.len.1;have t:=h.Hz.1;rw[qY]at q;rw[lr]at r;obtain⟨a,b,c,d,e,_⟩:=h.ok;omega
end Go.Proofs.YtfemcncookpdhaaGreatDoor
