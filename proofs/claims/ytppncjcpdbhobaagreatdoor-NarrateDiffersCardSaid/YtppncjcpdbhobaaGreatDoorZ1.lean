import Derived.Test.YtppncjcpdbhobaaGreatDoorZ0
set_option maxRecDepth 1000000
set_option maxHeartbeats 32000000
set_option linter.all false
namespace Go.Proofs.YtppncjcpdbhobaaGreatDoor
open Go Go.Proofs.Tryz
def sq(P:Program)(w:World)(K:Value->World->Prop):Result Next->Prop
 | .ok (.value u) w'=>K u w'
 | .ok .skip w'=>K undef w'
 | .ok (.enter f args) w'=>w'=w/\Calls P f args w λe a=>∃v,e=.returned v/\K v a
 |_=>False
def kA(P:Program)(a:Act)(o:Oper)(w:World)(K:Value->World->Prop):Prop:=sq P w K ((execOp a.eval o).run P w)
def kA.wp{P:Program}{a:Act}{o:Oper}{w:World}{K:Value->World->Prop}{c:Act->World->Prop}{Q:Exit->Act->World->Prop}(h:kA P a o w K)(b:∀v w',K v w'->c (a.put o.dst v) w'):o.wp P a w c Q:=by
 unfold kA at h;unfold Oper.wp;generalize(execOp a.eval o).run P w=r at*;cases r with
 |ok n w'=>
  cases n<;>simp only[sq]at h<;>simp only[Oper.upon];case value u=>exact b _ _ h
  case skip=>exact b _ _ h
  case enter f args=>obtain⟨rfl,hc⟩:=h;exact hc.mono λe d ⟨v,he,hv⟩=>by subst he;exact b _ _ hv
 |halt x w'=>simp only[sq]at h
def mq(a:Act)(o:Oper):Value:=match o.dst with|some d=>a.eval (.tmp d)|none=>undef
def lB(ops:List Oper):List Nat:=ops.filterMap (·.dst)
def lv(o:Oper)(a:Nat):Bool:=o.after.toList.any λe=>Region.binds .any e&&e.on==a
def rT(ops:List Oper):Bool:=ops.all (λo=>o.guard.isNone)&&ops.zipIdx.all (λp=>p.1.after.all λe=>!Region.binds .any e||decide (e.on<p.2))&&decide ((lB ops).Nodup)
def vd(o:Oper)(v:Value):Value:=match o.dst with|some _=>v|none=>undef
abbrev om:=List (Nat×(Value->World->Prop))
def lW(ops:List Oper):Nat->Nat->Nat->Bool
 |0,_,_=>false
 |f+1,j,i=>match ops[j]? with
  |none=>false
  |some o=>o.after.toList.any λe=>Region.binds .any e&&(e.on==i||lW ops f e.on i)
def Hl(P:Program)(ops:List Oper)(a0:Act)(G:World->Prop)(VP:Nat->Value->Prop)(D:om)(i:Nat)(o:Oper):Prop:=
 ∀(a:Act) (w:World),G w->(∀t,(lB ops).contains t=false->a.eval (.tmp t)=a0.eval (.tmp t))->
  (∀c b,ops[c]?=some b->lv o c=true->VP c (mq a b))->(∀e∈D,∀b,ops[e.1]?=some b->lv o e.1=true->e.2 (mq a b) w)->
  (∀c b d,ops[c]?=some b->b.dst=some d->lW ops ops.length c i=true->a.eval (.tmp d)=a0.eval (.tmp d))->
  kA P a o w λv w'=>VP i (vd o v)/\G w'/\∀e∈D,(e.1=i->e.2 (vd o v) w')/\(e.1≠i->lW ops ops.length e.1 i=false->∀u,e.2 u w->e.2 u w')
def Be(p:Nat->Oper->Prop):Nat->List Oper->Prop
 |_,[]=>True
 |i,o::rest=>p i o/\Be p (i+1) rest
def Be.ll{p:Nat->Oper->Prop}:∀{l:List Oper} {i:Nat},Be p i l->∀(k:Nat) (o:Oper),l[k]?=some o->p (i+k) o
 |o::rest,i,⟨h,_⟩,0,o',ho=>by simp at ho;subst ho;exact h
 |o::rest,i,⟨_,h⟩,k+1,o',ho=>by have:=Be.ll h k o' (by simpa using ho);rwa [show i+1+k=i+(k+1)by omega]at this
 |[],_,_,k,_,ho=>by simp at ho
abbrev Dc(P:Program)(ops:List Oper)(a0:Act)(G:World->Prop)(VP:Nat->Value->Prop)(D:om):=Be (Hl P ops a0 G VP D)
def ly(a:Act):List Oper->(Nat->Value)->Nat->Act
 |[],_,_=>a
 |o::rest,val,k=>ly (a.put o.dst (val k)) rest val (k+1)
def BC(a:Act)(d:Option Nat)(v:Value):(a.put d v).tmps.size=a.tmps.size:=by cases d<;>simp[Act.put]
def put_defers(a:Act)(d:Option Nat)(v:Value):(a.put d v).defers=a.defers:=by cases d<;>rfl
def tJ:∀(ops:List Oper) (a:Act) (b:Nat->Value) (k:Nat),(ly a ops b k).defers=a.defers
 |[],_,_,_=>rfl
 |o::rest,a,b,k=>by rw[ly,tJ rest,put_defers]
def rQ:∀(ops:List Oper) (a:Act) (b:Nat->Value) (k t:Nat),t∉lB ops->(ly a ops b k).tmps[t]?=a.tmps[t]?
 |[],_,_,_,_,_=>rfl
 |o::rest,a,b,k,t,h=>by
  have c:t∉lB rest:=λhm=>h (by unfold lB at*;rw[SR]at*;obtain⟨x,hx,e⟩:=hm;exact⟨x,SY _ hx,e⟩);rw[ly,rQ rest _ _ _ _ c];cases hd:o.dst with
  |none=>rfl
  |some d=>have f:d≠t:=λe=>h (by unfold lB;rw[SR];exact⟨o,Ss,by rw[hd,e]⟩);simp[Act.put,R9 f]
def yM:∀(ops:List Oper) (a:Act) (c:Nat->Value) (k b:Nat) (o:Oper) (d:Nat),(lB ops).Nodup->ops[b]?=some o->o.dst=some d->d<a.tmps.size->(ly a ops c k).tmps[d]?=some (c (k+b))
 |[],_,_,_,b,_,_,_,h,_,_=>by simp at h
 |o::rest,a,c,k,0,o',d,hn,h,hd,Oq=>by simp at h;subst h;have e:(lB (o::rest))=d::lB rest:=(by unfold lB;rw[Sm,hd]);rw[e,SI]at hn;rw[ly,rQ rest _ _ _ _ hn.1,hd];simp[Act.put,Oq]
 |o::rest,a,c,k,b+1,o',d,hn,h,hd,Oq=>by
  have e:(lB rest).Nodup:=by
   unfold lB at*;rw[Sm]at hn;cases hx:o.dst with
   |none=>rw[hx]at hn;exact hn
   |some x=>rw[hx]at hn;exact(SI.1 hn).2
  rw[ly,yM rest _ c (k+1) b o' d e (by simpa using h) hd (by rw[BC];exact Oq),show k+1+b=k+(b+1)by omega]
def Ng(a:Array Bool):Nat:=(a.toList.filter (λb=>!b)).length
def E4{a:Array Bool}{i:Nat}(h:a.getD i true=false):Ng (a.setIfInBounds i true)+1=Ng a:=by
 obtain⟨l⟩:=a;unfold Ng;simp only[Rp];have c:l[i]?=some false:=by
  rw[R4]at h;simp at h;cases hx:l[i]? with
  |none=>rw[hx]at h;simp at h
  |some b=>rw[hx]at h;simp at h;rw[h]
 clear h;induction l generalizing i with
 |nil=>simp at c
 |cons b l d=>
  cases i with
  |zero=>simp at c;subst c;simp
  |succ i=>have:=d (i:=i) (by simpa using c);simp only[RD,List.filter_cons];cases b<;>simp<;>omega
def xr{ops:List Oper}{b:Array Bool}(hc:∀a c,ops[a]?=some c->b.getD a false=true->∀e∈c.after,Region.binds .any e=true->b.getD e.on false=true):∀(f a i:Nat),lW ops f a i=true->b.getD a false=true->b.getD i false=true
 |0,_,_,h,_=>by cases h
 |f+1,a,i,h,hl=>by
  unfold lW at h;cases ho:ops[a]? with
  |none=>rw[ho]at h;cases h
  |some o=>rw[ho]at h;simp only[TP,R2,Bool.or_eq_true,R5]at h;obtain⟨e,he,hb,h⟩:=h;have d:=hc a o ho hl e (by simpa using he) hb;rcases h with h|h;rw[<-h];exact d;exact xr hc f e.on i h d
def E5:∀{ops:List Oper} (_:(lB ops).Nodup) {i a:Nat} {b d:Oper} {c:Nat},ops[i]?=some b->ops[a]?=some d->b.dst=some c->d.dst=some c->i=a
 |[],_,_,_,_,_,_,h,_,_,_=>by simp at h
 |o::rest,hn,i,a,b,d,c,hi,hj,Lp,Nh=>by
  have e:∀{k:Nat} {x:Oper},rest[k]?=some x->x.dst=some c->c∈lB rest:=λf hx=>by unfold lB;rw[SR];exact⟨_,QV f,hx⟩
  cases i with
  |zero=>
   cases a with
   |zero=>rfl
   |succ a=>simp at hi hj;subst hi;unfold lB at hn;rw[Sm,Lp]at hn;exact absurd (e hj Nh) (SI.1 hn).1
  |succ i=>
   cases a with
   |zero=>simp at hi hj;subst hj;unfold lB at hn;rw[Sm,Nh]at hn;exact absurd (e hi Lp) (SI.1 hn).1
   |succ a=>
    simp at hi hj;have g:(lB rest).Nodup:=by
     unfold lB at*;rw[Sm]at hn;cases hx:o.dst with
     |none=>rw[hx]at hn;exact hn
     |some x=>rw[hx]at hn;exact(SI.1 hn).2
    rw[E5 g hi hj Lp Nh]
def FV{ops:List Oper}(hn:(lB ops).Nodup){i b:Nat}{j g:Oper}(hi:ops[i]?=some j)(f:ops[b]?=some g)(l:i≠b)(a:Act)(v:Value):mq (a.put j.dst v) g=mq a g:=by
 unfold mq;cases Nh:g.dst with
 |none=>rfl
 |some d=>
  cases Lp:j.dst with
  |none=>rfl
  |some c=>
   have n:c≠d:=by
    intro e;subst e;apply l;clear l;induction ops generalizing i b with
    |nil=>simp at hi
    |cons o rest p=>
     have m:∀{k:Nat} {x:Oper},rest[k]?=some x->x.dst=some c->c∈lB rest:=λq hx=>by unfold lB;rw[SR];exact⟨_,QV q,hx⟩
     cases i with
     |zero=>
      cases b with
      |zero=>rfl
      |succ b=>simp at hi f;subst hi;unfold lB at hn;rw[Sm,Lp]at hn;exact absurd (m f Nh) (SI.1 hn).1
     |succ i=>
      cases b with
      |zero=>simp at hi f;subst f;unfold lB at hn;rw[Sm,Nh]at hn;exact absurd (m hi Lp) (SI.1 hn).1
      |succ b=>
       simp at hi f;have r:(lB rest).Nodup:=by
        unfold lB at*;rw[Sm]at hn;cases hx:o.dst with
        |none=>rw[hx]at hn;exact hn
        |some x=>rw[hx]at hn;exact(SI.1 hn).2
       rw[p r hi f]
   simp[Act.eval,Act.put,R9 n]
def Dv{b:Oper}(a:Act)(v:Value)(h:∀d,b.dst=some d->d<a.tmps.size):mq (a.put b.dst v) b=vd b v:=by
 unfold mq vd;cases hd:b.dst with
 |none=>rfl
 |some d=>simp[Act.eval,Act.put,h d hd]
def xt{ops:List Oper}(d:∀i o,ops[i]?=some o->∀e∈o.after,Region.binds .any e=true->e.on<i){b:Array Bool}(hs:b.size=ops.length)(h:Region.ready .any ops.toArray b=[]):∀a,a<ops.length->b.getD a false=true:=by
 intro a;induction a using Nat.strongRecOn with
 |_ a f=>
  intro c;cases hx:b.getD a false with
  |true=>rfl
  |false=>
   exfalso;have g:ops.toArray[a]?=some ops[a]:=(by simp[c]);have hm:a∈Region.ready .any ops.toArray b:=by rw[Ui];refine⟨?_,ops[a],g,λe he hb=>?_⟩;rw[R4]at hx⊢;rw[Sp (by omega)]at hx⊢;simpa using hx;have j:=d a ops[a] (by simp[c]) e he hb;exact f e.on j (by omega)
   rw[h]at hm;cases hm
def uS(ops:List Oper):Bool:=(List.range (ops.length-1)).all λa=>lW ops ops.length (ops.length-1) a
def vo(ops:List Oper)(a:Act):Nat->Value:=λb=>if b<ops.length-1 then(match ops[b]? with|some o=>mq a o|none=>undef)else undef
def rH(P:Program)(all:List Oper)(a0:Act)(G:World->Prop)(f:(Nat->Value)->Value->World->Prop)(VP:Nat->Value->Prop)(D:om):Nat->List Oper->Prop
 |_,[]=>True
 |i,o::rest=>(∀(a:Act) (w:World),G w->(∀t,(lB all).contains t=false->a.eval (.tmp t)=a0.eval (.tmp t))->
  (∀c b,all[c]?=some b->lv o c=true->VP c (mq a b))->(∀e∈D,∀b,all[e.1]?=some b->lv o e.1=true->e.2 (mq a b) w)->
  (∀c b d,all[c]?=some b->b.dst=some d->lW all all.length c i=true->a.eval (.tmp d)=a0.eval (.tmp d))->
  match rest with
  |[]=>kA P a o w λv w'=>f (vo all a) (vd o v) w'
  |_=>kA P a o w λv w'=>VP i (vd o v)/\G w'/\∀e∈D,(e.1=i->e.2 (vd o v) w')/\(e.1≠i->lW all all.length e.1 i=false->∀u,e.2 u w->e.2 u w'))/\rH P all a0 G f VP D (i+1) rest
def rH.ll{P:Program}{all:List Oper}{a0:Act}{G:World->Prop}{q:(Nat->Value)->Value->World->Prop}{VP:Nat->Value->Prop}{D:om}:∀{l:List Oper} {i:Nat},rH P all a0 G q VP D i l->∀(k:Nat) (o:Oper),l[k]?=some o->(∀(a:Act) (w:World),G w->(∀t,(lB all).contains t=false->a.eval (.tmp t)=a0.eval (.tmp t))->
  (∀c b,all[c]?=some b->lv o c=true->VP c (mq a b))->(∀e∈D,∀b,all[e.1]?=some b->lv o e.1=true->e.2 (mq a b) w)->
  (∀c b d,all[c]?=some b->b.dst=some d->lW all all.length c (i+k)=true->a.eval (.tmp d)=a0.eval (.tmp d))->
  (k+1=l.length->kA P a o w λv w'=>q (vo all a) (vd o v) w')/\
  (k+1<l.length->kA P a o w λv w'=>VP (i+k) (vd o v)/\G w'/\∀e∈D,(e.1=i+k->e.2 (vd o v) w')/\(e.1≠i+k->lW all all.length e.1 (i+k)=false->∀u,e.2 u w->e.2 u w')))
 |o::rest,i,⟨h,_⟩,0,o',ho=>by
  simp at ho;subst ho;intro a w g j m n p;have:=h a w g j m n p;refine⟨λf=>?_,λf=>?_⟩;cases rest with
  |nil=>exact this
  |cons x l=>simp at f
  cases rest with
  |nil=>simp at f
  |cons x l=>exact this
 |o::rest,i,⟨_,h⟩,k+1,o',ho=>by intro a w g j m n p;have e:i+1+k=i+(k+1):=(by omega);have:=rH.ll h k o' (by simpa using ho) a w g j m n (λc b d r hd s=>p c b d r hd (by rw[<-e];exact s));rw[e]at this;exact⟨λf=>this.1 (by simpa using f),λf=>this.2 (by simpa using f)⟩
 |[],_,_,k,_,ho=>by simp at ho
abbrev Ai(P:Program)(all:List Oper)(a0:Act)(G:World->Prop)(a:Value->World->Prop)(VP:Nat->Value->Prop)(D:om):Nat->List Oper->Prop:=rH P all a0 G (λ_=>a) VP D
abbrev yn:=List (Nat×Nat×(Value->Value->World->Prop))
def rF(ops:List Oper):Bool:=ops.zipIdx.all (λp=>p.1.after.all λe=>!Region.binds .any e||decide (e.on<p.2))&&decide ((lB ops).Nodup)
def vI(ops:List Oper)(VP:Nat->Value->Prop):List Oper->Prop
 |[]=>True
 |o::rest=>(match o.guard with
  |none=>True
  |some (g,b)=>lv o g=true/\((ops[g]?).bind (·.dst)).isSome=true/\∀v,VP g v->v=.bool b)/\vI ops VP rest
def vI.ll{ops:List Oper}{VP:Nat->Value->Prop}:∀{l:List Oper},vI ops VP l->∀o∈l,∀g b,o.guard=some (g,b)->lv o g=true/\((ops[g]?).bind (·.dst)).isSome=true/\∀v,VP g v->v=.bool b
 |o::rest,⟨h,hr⟩,o',a,g,b,hg=>by rcases Rq.1 a with rfl|a;rw[hg]at h;exact h;exact vI.ll hr o' a g b hg
 |[],_,o',a,_,_,_=>by simp at a
def Hr(P:Program)(ops:List Oper)(a0:Act)(G:World->Prop)(VP:Nat->Value->Prop)(D:yn)(i:Nat)(o:Oper):Prop:=
 ∀(a:Act) (w:World),G w->(∀t,(lB ops).contains t=false->a.eval (.tmp t)=a0.eval (.tmp t))->
  (∀c b,ops[c]?=some b->lv o c=true->VP c (mq a b))->(∀e∈D,∀b ok,ops[e.1]?=some b->ops[e.2.1]?=some ok->lv o e.1=true->e.2.2 (mq a b) (mq a ok) w)->
  (∀c b d,ops[c]?=some b->b.dst=some d->lW ops ops.length c i=true->a.eval (.tmp d)=a0.eval (.tmp d))->
  kA P a o w λv w'=>VP i (vd o v)/\G w'/\∀e∈D,(e.1=i->∀ok,ops[e.2.1]?=some ok->e.2.2 (vd o v) (if e.2.1=i then vd o v else mq a ok) w')/\(e.1≠i->lW ops ops.length e.1 i=false->∀u u2,e.2.2 u u2 w->e.2.2 u u2 w')
abbrev E6(P:Program)(ops:List Oper)(a0:Act)(G:World->Prop)(VP:Nat->Value->Prop)(D:yn):=Be (Hr P ops a0 G VP D)
def vR{ops:List Oper}(h:rF ops=true):(∀i o,ops[i]?=some o->∀e∈o.after,Region.binds .any e=true->e.on<i)/\(lB ops).Nodup:=by unfold rF at h;simp only[R2,Sb,SK]at h;obtain⟨b,c⟩:=h;refine⟨λi o d e he hb=>?_,c⟩;have:=b (o,i) (List.mem_zipIdx_iff_getElem?.2 (by simpa using d));rw[Array.all_eq_true_iff_forall_mem]at this;have a:=this e he;rw[hb]at a;simpa using a
def HE(ops:List Oper)(p:Nat):Bool:=decide (p<ops.length)&&(List.range ops.length).all λa=>(if a<p then lW ops ops.length p a else true)&&(if p<a then(match ops[a]? with|some o=>lv o p|none=>true)else true)
def Hs(P:Program)(ops:List Oper)(a0:Act)(G:Bool->World->Prop)(p:Nat)(VP:Nat->Value->Prop)(D:om)(i:Nat)(o:Oper):Prop:=
 ∀(a:Act) (w:World),G (decide (p<i)) w->(∀t,(lB ops).contains t=false->a.eval (.tmp t)=a0.eval (.tmp t))->
  (∀c b,ops[c]?=some b->lv o c=true->VP c (mq a b))->(∀e∈D,∀b,ops[e.1]?=some b->lv o e.1=true->e.2 (mq a b) w)->
  (∀c b d,ops[c]?=some b->b.dst=some d->lW ops ops.length c i=true->a.eval (.tmp d)=a0.eval (.tmp d))->
  kA P a o w λv w'=>VP i (vd o v)/\G (decide (p<=i)) w'/\∀e∈D,(e.1=i->e.2 (vd o v) w')/\(e.1≠i->lW ops ops.length e.1 i=false->∀u,e.2 u w->e.2 u w')
abbrev E7(P:Program)(ops:List Oper)(a0:Act)(G:Bool->World->Prop)(p:Nat)(VP:Nat->Value->Prop)(D:om):=Be (Hs P ops a0 G p VP D)
def OY(P:Program)(ops:List Oper)(a0:Act)(G:(Nat->Bool)->World->Prop)(VP:Nat->Value->Prop)(D:om)(i:Nat)(o:Oper):Prop:=
 ∀(L:Nat->Bool) (a:Act) (w:World),L i=false->(∀b,lv o b=true->L b=true)->(∀b,lW ops ops.length b i=true->L b=false)->G L w->(∀t,(lB ops).contains t=false->a.eval (.tmp t)=a0.eval (.tmp t))->
  (∀b c,ops[b]?=some c->lv o b=true->VP b (mq a c))->(∀e∈D,∀c,ops[e.1]?=some c->lv o e.1=true->e.2 (mq a c) w)->
  (∀b c d,ops[b]?=some c->c.dst=some d->lW ops ops.length b i=true->a.eval (.tmp d)=a0.eval (.tmp d))->
  kA P a o w λv w'=>VP i (vd o v)/\G (λb=>if b=i then true else L b) w'/\∀e∈D,(e.1=i->e.2 (vd o v) w')/\(e.1≠i->lW ops ops.length e.1 i=false->∀u,e.2 u w->e.2 u w')
abbrev E8(P:Program)(ops:List Oper)(a0:Act)(G:(Nat->Bool)->World->Prop)(VP:Nat->Value->Prop)(D:om):=Be (OY P ops a0 G VP D)
def sv(ops:List Oper)(a:Act):Nat->Value:=λb=>match ops[b]? with|some o=>mq a o|none=>undef
def up{a:Type}(f:Nat->a)(i:Nat)(x:a):Nat->a:=λb=>if b=i then x else f b
def sj{ops:List Oper}{a:Act}{b:Nat}{o:Oper}(h:ops[b]?=some o):sv ops a b=mq a o:=by simp[sv,h]
section
variable {P:Program} {ops:List Oper} {a0:Act} {Q:Exit→Act→World→Prop}
def kA.imp{a:Act}{o:Oper}{w:World}{K c:Value->World->Prop}(h:kA P a o w K)(b:∀v w',K v w'->c v w'):kA P a o w c:=by
 unfold kA at*;generalize(execOp a.eval o).run P w=r at*;cases r with
 |ok n w'=>
  cases n<;>simp only[sq]at h⊢;case value u=>exact b _ _ h
  case skip=>exact b _ _ h
  case enter f args=>exact⟨h.1,h.2.mono λe d ⟨v,he,hv⟩=>⟨v,he,b _ _ hv⟩⟩
 |halt x w'=>simp only[sq]at h
structure RU(ops:List Oper)(a0:Act)(J:(Nat->Bool)->(Nat->Value)->World->Prop)(listed:Array Bool)(a:Act)(w:World):Prop where
 size:listed.size=ops.length
 defers:a.defers=a0.defers
 EW:a.tmps.size=a0.tmps.size
 fix:∀t,(lB ops).contains t=false->a.tmps[t]?=a0.tmps[t]?
 Nx:∀j oj d,ops[j]?=some oj->oj.dst=some d->listed.getD j false=false->a.tmps[d]?=a0.tmps[d]?
 closed:∀j oj,ops[j]?=some oj->listed.getD j false=true->∀e∈oj.after,Region.binds .any e=true->listed.getD e.on false=true
 j:J (λj=>listed.getD j false) (sv ops a) w
def N8(P:Program)(ops:List Oper)(a0:Act)(e:(Nat->Bool)->(Nat->Value)->World->Prop)(i:Nat)(o:Oper):Prop:=
 ∀(L:Nat->Bool) (a:Act) (w:World),L i=false->(∀c,lv o c=true->L c=true)->(∀k c,L k=true->lW ops ops.length k c=true->L c=true)->(∀t,(lB ops).contains t=false->a.eval (.tmp t)=a0.eval (.tmp t))->
  (∀c f d,ops[c]?=some f->f.dst=some d->L c=false->a.eval (.tmp d)=a0.eval (.tmp d))->e L (sv ops a) w->
  (∀g b,o.guard=some (g,b)->((ops[g]?).bind (·.dst)).isSome=true/\sv ops a g=.bool b)/\kA P a o w λv w'=>e (up L i true) (up (sv ops a) i (vd o v)) w'
def RU.final{j:(Nat->Bool)->(Nat->Value)->World->Prop}(hn:(lB ops).Nodup)(k:∀o∈ops,∀d,o.dst=some d->d<a0.tmps.size){l:Array Bool}{a:Act}{w:World}(h:RU ops a0 j l a w)
  (u:∀c,c<ops.length->l.getD c false=true) (v:∀(L:Nat->Bool) (m:Nat->Value) (w:World),(∀c,c<ops.length->L c=true)->j L m w->Q .normal (ly a0 ops m 0) w):Q .normal a w:=by
 have:=v _ _ w u h.j;have he:ly a0 ops (sv ops a) 0=a:=by
  have n:(ly a0 ops (sv ops a) 0).tmps=a.tmps:=by apply Array.ext_getElem?;intro t;by_cases f:t∈lB ops;have g:=f;unfold lB at g;rw[SR]at g;obtain⟨o,i,hd⟩:=g;obtain⟨c,x,e⟩:=TA i;have p:ops[c]?=some o:=(by simp[x,e]);rw[yM ops a0 _ 0 c o t hn p hd (k o i t hd),Re,sj p];have y:t<a.tmps.size:=(by rw[h.EW];exact k o i t hd);simp[mq,hd,Act.eval,Sp y];rw[rQ ops a0 _ 0 t f];exact(h.fix t (by simpa using f)).symm
  have q:=tJ ops a0 (sv ops a) 0;have r:=h.defers;generalize sv ops a=s at*;obtain⟨z,A⟩:=a;generalize ly a0 ops s 0=b at*;obtain⟨B,C⟩:=b;simp only at n q r;rw[n,q,r]
 rw[he]at this;exact this
def RU.step{u:(Nat->Bool)->(Nat->Value)->World->Prop}(hn:(lB ops).Nodup)(C:∀o∈ops,∀d,o.dst=some d->d<a0.tmps.size)(N:∀i o,ops[i]?=some o->N8 P ops a0 u i o){m:Array Bool}{a:Act}{w:World}(h:RU ops a0 u m a w){i:Nat}(hi:i∈Region.ready .any ops.toArray m)
  {K:Act->World->Prop} (hK:∀a w,RU ops a0 u (m.setIfInBounds i true) a w->K a w):wpOp P ops.toArray Q i K a w:=by
 rw[Ui]at hi;obtain⟨q,o,D,E⟩:=hi;have n:ops[i]?=some o:=by simpa using D
 have O:∀f,lv o f=true->m.getD f false=true:=λf j=>by unfold lv at j;rw[TP]at j;obtain⟨k,x,j⟩:=j;simp only[R2,R5]at j;have:=E k (by simpa using x) j.1;rwa [j.2]at this
 have F:∀{t:Nat},a.tmps[t]?=a0.tmps[t]? ->a.eval (.tmp t)=a0.eval (.tmp t):=λh=>by simp only[Act.eval,R4,h]
 have G:i<m.size:=by rcases SS i m.size with y|y;exact y;rw[R4,T2 y]at q;simp at q
 have R:m.getD i false=false:=by rw[R4]at q⊢;rw[Sp G]at q⊢;simpa using q
 obtain⟨S,hp⟩:=N i o n (λf=>m.getD f false) a w R O (λk f x hd=>xr h.closed _ k f hd x) (λt s=>F (h.fix t s)) (λf p d j hd hx=>F (h.Nx f p d j hd hx)) h.j;unfold wpOp;simp only[D];have T:Region.wanted o (yielded ops.toArray a.tmps)=true:=by
  unfold Region.wanted;cases hg:o.guard with
  |none=>rfl
  |some gb=>
   obtain⟨g,b⟩:=gb;obtain⟨I,hv⟩:=S g b hg;rw[TQ]at I;obtain⟨d,hd⟩:=I;rw[TV]at hd;obtain⟨J,z,hd⟩:=hd;rw[sj z]at hv;have L:d<a.tmps.size:=(by rw[h.EW];exact C J (QV z) d hd);have U:a.tmps[d]?=some (.bool b):=by unfold mq at hv;rw[hd]at hv;simp only[Act.eval,R4,Sp L,SD]at hv;rw[Sp L,hv]
   have V:ops.toArray[g]?=some J:=(by simpa using z);simp[yielded,V,hd,U]
 rw[RG T];refine .inl (hp.wp λv w' hv=>hK _ _ ?_);have aa:∀d,o.dst=some d->d<a.tmps.size:=λd hd=>by rw[h.EW];exact C o (QV n) d hd
 have A:∀f,f≠i->(m.setIfInBounds i true).getD f false=m.getD f false:=λf j=>getD_set_ne false (S8 j);have M:(m.setIfInBounds i true).getD i false=true:=by rw[R4,SM G];rfl
 refine⟨by simpa using h.size,by rw[put_defers];exact h.defers,by rw[BC];exact h.EW,λt s=>?_,λf p d j hd r=>?_,λf p j r e he hb=>?_,?_⟩
 .rw[<-h.fix t s];cases hd:o.dst with
  |none=>rfl
  |some d=>
   have B:d≠t:=λe=>by have:t∈lB ops:=(by unfold lB;rw[SR];exact⟨o,QV n,by rw[hd,e]⟩);rw[<-T3,s]at this;cases this
   simp[Act.put,R9 B]
 .have l:f≠i:=λe=>by subst e;rw[M]at r;cases r
  rw[<-h.Nx f p d j hd (by rw[<-A f l];exact r)];cases Lp:o.dst with
  |none=>rfl
  |some c=>
   have B:c≠d:=λe=>by subst e;exact l (E5 hn j n hd Lp)
   simp[Act.put,R9 B]
 .by_cases l:f=i;subst l;rw[n]at j;injection j with j;subst j;exact getD_set_true (E e he hb);exact getD_set_true (h.closed f p j (by rw[<-A f l];exact r) e he hb)
 .have ab:(λf=>(m.setIfInBounds i true).getD f false)=up (λf=>m.getD f false) i true:=by funext f;unfold up;by_cases l:f=i;rw[RG l,l,M];rw[Rl l,A f l]
  have ac:sv ops (a.put o.dst v)=up (sv ops a) i (vd o v):=by
   funext f;unfold up;by_cases l:f=i;rw[RG l,l,sj n,Dv a v aa];rw[Rl l];cases j:ops[f]? with
   |none=>simp[sv,j]
   |some p=>rw[sj j,sj j,FV hn n j (S8 l)]
  rw[ab,ac];exact hv
def RU.any{g:(Nat->Bool)->(Nat->Value)->World->Prop}(j:∀i o,ops[i]?=some o->∀e∈o.after,Region.binds .any e=true->e.on<i)(hn:(lB ops).Nodup)(c:∀o∈ops,∀d,o.dst=some d->d<a0.tmps.size)(l:∀i o,ops[i]?=some o->N8 P ops a0 g i o)
  (k:∀(L:Nat->Bool) (m:Nat->Value) (w:World),(∀n,n<ops.length->L n=true)->g L m w->Q .normal (ly a0 ops m 0) w):
  ∀(f:Nat) (b:Array Bool) (a:Act) (w:World),Ng b=f->RU ops a0 g b a w->wpAny P .any ops.toArray Q f b a w
 |0,b,a,w,hu,h=>by
  have hr:Region.ready .any ops.toArray b=[]:=by
   cases hx:Region.ready .any ops.toArray b with
   |nil=>rfl
   |cons i s=>have:i∈Region.ready .any ops.toArray b:=(by rw[hx];exact Ss);rw[Ui]at this;have:=E4 this.1;omega
  exact⟨hr,h.final hn c (xt j h.size hr) k⟩
 |f+1,b,a,w,hu,h=>by refine⟨λhr=>h.final hn c (xt j h.size hr) k,λi hi=>h.step hn c l hi λq w' r=>?_⟩;have p:=hi;rw[Ui]at p;have:=E4 p.1;exact RU.any j hn c l k f _ q w' (by omega) r
def Lu{w0:World}(c:(Nat->Bool)->(Nat->Value)->World->Prop)(j:rF ops=true)(k:(ops.all λo=>match o.dst with|some d=>decide (d<a0.tmps.size)|none=>true)=true)
  (l:∀b,c (λ_=>false) b {w0 with drawn:=w0.drawn+1}) (m:∀i o,ops[i]?=some o->N8 P ops a0 c i o)
  (n:∀(L:Nat->Bool) (b:Nat->Value) (w:World),(∀a,a<ops.length->L a=true)->c L b w->Q .normal (ly a0 ops b 0) w):wpAny P .any ops.toArray Q ops.toArray.size (Array.replicate ops.toArray.size false) a0 {w0 with drawn:=w0.drawn+1}:=by
 obtain⟨p,hn⟩:=vR j;have q:∀o∈ops,∀d,o.dst=some d->d<a0.tmps.size:=λo r d hd=>by have:=Sb.1 k o r;rw[hd]at this;simpa using this
 have f:∀a,(Array.replicate ops.toArray.size false).getD a false=false:=λa=>by rw[R4,Array.getElem?_replicate];split<;>rfl
 have hu:Ng (Array.replicate ops.toArray.size false)=ops.toArray.size:=by simp[Ng]
 refine RU.any p hn q m n _ _ _ _ hu ⟨by simp,rfl,rfl,λ_ _=>rfl,λ_ _ _ _ _ _=>rfl,λa s t g=>?_,?_⟩
 .rw[f a]at g;cases g
 .have e:(λa=>(Array.replicate ops.toArray.size false).getD a false)=λ_=>false:=funext f;rw[e];exact l _
def Cr{id:Nat}{w0:World}(a:(Nat->Bool)->(Nat->Value)->World->Prop)(hm:P.follows .mixedOrders=true)(e:rF ops=true)(f:(ops.all λo=>match o.dst with|some d=>decide (d<a0.tmps.size)|none=>true)=true)
  (g:∀b,a (λ_=>false) b {w0 with drawn:=w0.drawn+1}) (j:∀i o,ops[i]?=some o->N8 P ops a0 a i o)
  (k:∀(L:Nat->Bool) (b:Nat->Value) (w:World),(∀c,c<ops.length->L c=true)->a L b w->Q .normal (ly a0 ops b 0) w):(Code.region id ops.toArray true).wp P Q a0 w0:=
 wp_region_any hm (Lu a e f g j k)
abbrev Ny:=List (Nat×Nat×((Nat->Bool)->Value->Value->World->Prop))
def OZ(P:Program)(ops:List Oper)(a0:Act)(G:(Nat->Bool)->World->Prop)(VP:Nat->Value->Prop)(D:Ny)(i:Nat)(o:Oper):Prop:=
 ∀(L:Nat->Bool) (a:Act) (w:World),L i=false->(∀b,lv o b=true->L b=true)->(∀b,lW ops ops.length b i=true->L b=false)->G L w->(∀t,(lB ops).contains t=false->a.eval (.tmp t)=a0.eval (.tmp t))->
  (∀b c,ops[b]?=some c->lv o b=true->VP b (mq a c))->(∀e∈D,∀c ok,ops[e.1]?=some c->ops[e.2.1]?=some ok->lv o e.1=true->e.2.2 L (mq a c) (mq a ok) w)->
  (∀b c d,ops[b]?=some c->c.dst=some d->lW ops ops.length b i=true->a.eval (.tmp d)=a0.eval (.tmp d))->
  kA P a o w λv w'=>VP i (vd o v)/\G (up L i true) w'/\∀e∈D,(e.1=i->∀ok,ops[e.2.1]?=some ok->e.2.2 (up L i true) (vd o v) (if e.2.1=i then vd o v else mq a ok) w')/\(e.1≠i->lW ops ops.length e.1 i=false->∀u u2,e.2.2 L u u2 w->e.2.2 (up L i true) u u2 w')
def qo{id:Nat}{w0:World}(G:(Nat->Bool)->World->Prop)(VP:Nat->Value->Prop)(D:Ny)(hm:P.follows .mixedOrders=true)(J:rF ops=true)(K:∀e∈D,e.2.1=e.1\/lW ops ops.length e.1 e.2.1=true)(M:vI ops VP ops)(n:Nat)(hn:a0.tmps.size=n)(N:(ops.all λo=>match o.dst with|some d=>decide (d<n)|none=>true)=true)(O:G (λ_=>false) {w0 with drawn:=w0.drawn+1})(R:∀i o,ops[i]?=some o->OZ P ops a0 G VP D i o)
  (S:∀(L:Nat->Bool) (j:Nat->Value) (w:World),(∀c,c<ops.length->L c=true)->G L w->(∀c,c<ops.length->VP c (j c))->(∀e∈D,e.1<ops.length->e.2.1<ops.length->e.2.2 L (j e.1) (j e.2.1) w)->Q .normal (ly a0 ops j 0) w):(Code.region id ops.toArray true).wp P Q a0 w0:=by
 subst hn;have p:∀{c:Nat} {o:Oper},ops[c]?=some o->c<ops.length:=λh=>(Rg.1 h).1;refine Cr (λL j w=>G L w/\(∀c,c<ops.length->L c=true->VP c (j c))/\∀e∈D,e.1<ops.length->e.2.1<ops.length->L e.1=true->e.2.2 L (j e.1) (j e.2.1) w) hm J N (λ_=>⟨O,λ_ _ h=>Bool.noConfusion h,λ_ _ _ _ h=>Bool.noConfusion h⟩) (λi o hi L a w t hb hc hf hw ⟨g,hv,hd⟩=>⟨λu b T=>?_,?_⟩) (λL j w hL ⟨g,hv,hd⟩=>S L j w hL g (λc f=>hv c f (hL c f)) λe he q x=>hd e he q x (hL _ q))
 .obtain⟨U,y,V⟩:=M.ll o (QV hi) u b T;refine⟨y,?_⟩;rw[TQ]at y;obtain⟨d,hd⟩:=y;rw[TV]at hd;obtain⟨ac,aa,_⟩:=hd;exact V _ (hv u (p aa) (hb u U))
 .have z:∀c,lW ops ops.length c i=true->L c=false:=λc f=>by
   cases hx:L c with
   |false=>rfl
   |true=>have:=hc c i hx f;rw[t]at this;cases this
  refine(R i o hi L a w t hb z g hf (λc A f B=>sj f▸hv c (p f) (hb c B)) (λe he A ok f m B=>sj f▸sj m▸hd e he (p f) (p m) (hb _ B)) λc A d f hd' hx=>hw c A d f hd' (z c hx)).imp λv w' ⟨q,x,E⟩=>⟨x,λc f hL=>?_,λe he ab F hL=>?_⟩
  unfold up at hL⊢;by_cases k:c=i;rw[RG k,k];exact q;rw[Rl k]at hL⊢;exact hv c f hL;have m:ops[e.2.1]?=some ops[e.2.1]:=(by simp[F]);by_cases k:e.1=i;have r:=(E e he).1 k _ m;rw[show up (sv ops a) i (vd o v) e.1=vd o v by unfold up;rw[RG k]];by_cases l:e.2.1=i;rw[RG l]at r;rw[show up (sv ops a) i (vd o v) e.2.1=vd o v by unfold up;rw[RG l]];exact r;rw[Rl l]at r;rw[show up (sv ops a) i (vd o v) e.2.1=mq a ops[e.2.1]by unfold up;rw[Rl l,sj m]];exact r;have C:L e.1=true:=(by unfold up at hL;rw[Rl k]at hL;exact hL);have l:e.2.1≠i:=λI=>by rcases K e he with s|s;exact k (s.symm.trans I);rw[I]at s;have:=hc _ _ C s;rw[t]at this;cases this
  rw[show up (sv ops a) i (vd o v) e.1=sv ops a e.1 by unfold up;rw[Rl k],show up (sv ops a) i (vd o v) e.2.1=sv ops a e.2.1 by unfold up;rw[Rl l]];refine(E e he).2 k ?_ _ _ (hd e he ab F C);cases hx:lW ops ops.length e.1 i with
  |false=>rfl
  |true=>have:=z _ hx;rw[C]at this;cases this
def Aj{VP:Nat->Value->Prop}:∀{l:List Oper},(∀o∈l,o.guard=none)->vI ops VP l
 |[],_=>trivial
 |o::l,h=>⟨by rw[h o (by simp)];trivial,Aj λo a=>h o (by simp[a])⟩
def Ot(h:rT ops=true):rF ops=true/\∀o∈ops,o.guard=none:=by unfold rT at h;unfold rF;simp only[R2]at h⊢;exact⟨⟨h.1.2,h.2⟩,λo a=>by simpa using Sb.1 h.1.1 o a⟩
def xR{id:Nat}{w0:World}(G:World->Prop)(VP:Nat->Value->Prop)(D:yn)(hm:P.follows .mixedOrders=true)(f:rF ops=true)(j:(D.all λe=>e.2.1==e.1||lW ops ops.length e.1 e.2.1)=true)(k:vI ops VP ops)(n:Nat)(hn:a0.tmps.size=n)(l:(ops.all λo=>match o.dst with|some d=>decide (d<n)|none=>true)=true)(m:G {w0 with drawn:=w0.drawn+1})(p:E6 P ops a0 G VP D 0 ops)
  (q:∀(b:Nat->Value) (w:World),G w->(∀c,c<ops.length->VP c (b c))->(∀e∈D,e.1<ops.length->e.2.1<ops.length->e.2.2 (b e.1) (b e.2.1) w)->Q .normal (ly a0 ops b 0) w):(Code.region id ops.toArray true).wp P Q a0 w0:=by
 refine qo (λ_=>G) VP (D.map λe=>(e.1,e.2.1,λ_=>e.2.2)) hm f ?_ k n hn l m (λi o hi L a w _ _ _ g hf hv hd hw=>?_) λ_ b w _ g hv hd=>q b w g hv λe he=>hd _ (SN he)
 .rw[SP];exact λe he=>by simpa using Sb.1 j e he
 .have:=p.ll i o hi;rw[Re]at this;refine(this a w g hf hv (λe he=>hd _ (SN he)) hw).imp λv w' ⟨r,s,t⟩=>⟨r,s,?_⟩
  rw[SP];exact t
def mS{id:Nat}{w0:World}(G:(Nat->Bool)->World->Prop)(VP:Nat->Value->Prop)(D:om)(hm:P.follows .mixedOrders=true)(m:rT ops=true)(n:Nat)(hn:a0.tmps.size=n)(p:(ops.all λo=>match o.dst with|some d=>decide (d<n)|none=>true)=true)(q:G (λ_=>false) {w0 with drawn:=w0.drawn+1})(r:E8 P ops a0 G VP D 0 ops)
  (s:∀(L:Nat->Bool) (c:Nat->Value) (w:World),(∀b,b<ops.length->L b=true)->G L w->(∀b,b<ops.length->VP b (c b))->(∀e∈D,e.1<ops.length->e.2 (c e.1) w)->Q .normal (ly a0 ops c 0) w):(Code.region id ops.toArray true).wp P Q a0 w0:=by
 obtain⟨t,hg⟩:=Ot m;refine qo G VP (D.map λe=>(e.1,e.1,λ_ v _ w=>e.2 v w)) hm t ?_ (Aj hg) n hn p q (λi o hi L a w hL hb hx g hf hv hd hw=>?_) λL c w hL g hv hd=>s L c w hL g hv λe he f=>hd _ (SN he) f f
 .rw[SP];exact λ_ _=>.inl rfl
 .have:=r.ll i o hi;rw[Re]at this;refine(this L a w hL hb hx g hf hv (λe he j k=>hd _ (SN he) j j k k) hw).imp λv w' ⟨f,x,l⟩=>⟨f,x,?_⟩
  rw[SP];exact λe he=>⟨λh _ _=>(l e he).1 h,λh hd u _=>(l e he).2 h hd u⟩
def yu{id:Nat}{w0:World}(G:World->Prop)(VP:Nat->Value->Prop)(D:om)(hm:P.follows .mixedOrders=true)(f:rT ops=true)(n:Nat)(hn:a0.tmps.size=n)(j:(ops.all λo=>match o.dst with|some d=>decide (d<n)|none=>true)=true)(k:G {w0 with drawn:=w0.drawn+1})(m:Dc P ops a0 G VP D 0 ops)
  (p:∀(b:Nat->Value) (w:World),G w->(∀c,c<ops.length->VP c (b c))->(∀e∈D,e.1<ops.length->e.2 (b e.1) w)->Q .normal (ly a0 ops b 0) w):(Code.region id ops.toArray true).wp P Q a0 w0:=by
 refine mS (λ_=>G) VP D hm f n hn j k ?_ λ_ b w _ g hv hd=>p b w g hv hd;have:∀{l:List Oper} {i:Nat},Dc P ops a0 G VP D i l->E8 P ops a0 (λ_=>G) VP D i l:=λ{l}=>by
  induction l with
  |nil=>exact λ_=>trivial
  |cons o l q=>exact λh=>⟨λ_ a w _ _ _=>h.1 a w,q h.2⟩
 exact this m
def xS{id:Nat}{w0:World}(p:Nat)(G:Bool->World->Prop)(VP:Nat->Value->Prop)(D:om)(hm:P.follows .mixedOrders=true)(r:rT ops=true)(c:HE ops p=true)(n:Nat)(hn:a0.tmps.size=n)(s:(ops.all λo=>match o.dst with|some d=>decide (d<n)|none=>true)=true)(t:G false {w0 with drawn:=w0.drawn+1})(x:E7 P ops a0 G p VP D 0 ops)
  (y:∀(f:Nat->Value) (w:World),G true w->(∀j,j<ops.length->VP j (f j))->(∀e∈D,e.1<ops.length->e.2 (f e.1) w)->Q .normal (ly a0 ops f 0) w):(Code.region id ops.toArray true).wp P Q a0 w0:=by
 obtain⟨z,hg⟩:=Ot r;unfold HE at c;simp only[R2,SK,Sb,Tm]at c;obtain⟨hp,c⟩:=c;refine qo (λL=>G (L p)) VP (D.map λe=>(e.1,e.1,λ_ v _ w=>e.2 v w)) hm z ?_ (Aj hg) n hn s t (λi o hi L a w hL hb hx g hf hv hd hw=>?_) λL f w hL g hv hd=>y f w (hL p hp▸g) hv λe he b=>hd _ (SN he) b b
 .rw[SP];exact λ_ _=>.inl rfl
 .have:=x.ll i o hi;rw[Re]at this;have A:i<ops.length:=(Rg.1 hi).1;have b:=c i A;rw[hi]at b;have k:L p=decide (p<i):=by rcases Nat.lt_trichotomy i p with h|h|h;rw[RG h]at b;rw[hx p b.1];simp;omega;rw[<-h,hL];simp;rw[RG h]at b;rw[hb p b.2];simp[h]
  have B:up L i true p=decide (p<=i):=by unfold up;by_cases h:p=i;rw[RG h,h];simp;rw[Rl h,k];simp;omega
  refine(this a w (k▸g) hf hv (λe he l m=>hd _ (SN he) l l m m) hw).imp λv w' ⟨b,C,q⟩=>⟨b,by show G (up L i true p) w';rw[B];exact C,?_⟩
  rw[SP];exact λe he=>⟨λh _ _=>(q e he).1 h,λh hd u _=>(q e he).2 h hd u⟩
def BD{w0:World}(G:World->Prop)(m:(Nat->Value)->Value->World->Prop)(VP:Nat->Value->Prop)(D:om)(B:rT ops=true)(r:uS ops=true)(T:0<ops.length)(n:Nat)(hn:a0.tmps.size=n)(C:(ops.all λo=>match o.dst with|some d=>decide (d<n)|none=>true)=true)(E:G {w0 with drawn:=w0.drawn+1})(F:rH P ops a0 G m VP D 0 ops)
  (I:∀(j:Nat->Value) (w:World),(∀c,c<ops.length-1->VP c (j c))->m (λc=>if c<ops.length-1 then j c else undef) (j (ops.length-1)) w->Q .normal (ly a0 ops j 0) w):wpAny P .any ops.toArray Q ops.toArray.size (Array.replicate ops.toArray.size false) a0 {w0 with drawn:=w0.drawn+1}:=by
 obtain⟨s,hg⟩:=Ot B;subst hn;have t:∀{c:Nat} {o:Oper},ops[c]?=some o->c<ops.length:=λh=>(Rg.1 h).1;have J:∀c,c<ops.length-1->lW ops ops.length (ops.length-1) c=true:=λc f=>by unfold uS at r;exact Sb.1 r c (Tm.2 f)
 refine Lu (λL j w=>(∀c,c<ops.length-1->L c=true->VP c (j c))/\(L (ops.length-1)=false->G w/\∀e∈D,e.1<ops.length->L e.1=true->e.2 (j e.1) w)/\(L (ops.length-1)=true->m (λc=>if c<ops.length-1 then j c else undef) (j (ops.length-1)) w)) s C (λ_=>⟨λ_ _ h=>by(cases h),λ_=>⟨E,λ_ _ _ h=>by cases h⟩,λh=>by cases h⟩) (λi o hi L a w u hb hc hf hw ⟨hv,hd,hF⟩=>⟨λU b x=>?_,?_⟩) λL j w hL ⟨hv,_,hF⟩=>I j w (λc f=>hv c f (hL c (by omega))) (hF (hL _ (by omega)))
 .rw[hg o (QV hi)]at x;cases x
 .have p:∀c,lW ops ops.length c i=true->L c=false:=λc f=>by
   cases hx:L c with
   |false=>rfl
   |true=>have:=hc c i hx f;rw[u]at this;cases this
  have V:=t hi;have y:L (ops.length-1)=false:=by rcases SS i (ops.length-1)with h|h;exact p _ (J i h);rw[show ops.length-1=i by omega];exact u
  obtain⟨g,hd⟩:=hd y;have K:∀{c:Nat},lv o c=true->c<ops.length-1:=λ{c} f=>by unfold lv at f;rw[TP]at f;obtain⟨e,he,f⟩:=f;simp only[R2,R5]at f;have:=(vR s).1 i o hi e (by simpa using he) f.1;omega
  obtain⟨M,N⟩:=F.ll i o hi a w g hf (λc q f l=>sj f▸hv c (K l) (hb c l)) (λe he q f l=>sj f▸hd e he (t f) (hb _ l)) λc q d f hd' hx=>hw c q d f hd' (p c (by rw[Re]at hx;exact hx));by_cases O:i+1=ops.length;refine(M O).imp λv w' h=>⟨λc f hL=>?_,λhL=>?_,λ_=>?_⟩
  unfold up at hL⊢;rw[Rl (by omega)]at hL⊢;exact hv c f hL;unfold up at hL;rw[RG (by omega)]at hL;cases hL;have e:(λc=>if c<ops.length-1 then up (sv ops a) i (vd o v) c else undef)=vo ops a:=by funext c;unfold vo up;by_cases f:c<ops.length-1;rw[RG f,RG f,Rl (by omega)];rfl;rw[Rl f,Rl f]
  rw[e,show up (sv ops a) i (vd o v) (ops.length-1)=vd o v by unfold up;rw[RG (by omega)]];exact h;refine(N (by omega)).imp λv w' ⟨z,R,A⟩=>⟨λc f hL=>?_,λhL=>⟨R,λe he S hL=>?_⟩,λhL=>?_⟩
  unfold up at hL⊢;by_cases k:c=i;rw[RG k,k];rw[Re]at z;exact z;rw[Rl k]at hL⊢;exact hv c f hL;unfold up at hL⊢;by_cases k:e.1=i;rw[RG k];exact(A e he).1 (by rw[Re];exact k);rw[Rl k]at hL⊢;refine(A e he).2 (by rw[Re];exact k) ?_ _ (hd e he S hL);rw[Re];cases hx:lW ops ops.length e.1 i with
  |false=>rfl
  |true=>have:=p _ hx;rw[hL]at this;cases this
  unfold up at hL;rw[Rl (by omega),y]at hL;cases hL
def sM{id:Nat}{w0:World}(G:World->Prop)(c:(Nat->Value)->Value->World->Prop)(VP:Nat->Value->Prop)(D:om)(hm:P.follows .mixedOrders=true)(e:rT ops=true)(f:uS ops=true)(g:0<ops.length)(n:Nat)(hn:a0.tmps.size=n)(i:(ops.all λo=>match o.dst with|some d=>decide (d<n)|none=>true)=true)(j:G {w0 with drawn:=w0.drawn+1})(k:rH P ops a0 G c VP D 0 ops)
  (l:∀(b:Nat->Value) (w:World),(∀a,a<ops.length-1->VP a (b a))->c (λa=>if a<ops.length-1 then b a else undef) (b (ops.length-1)) w->Q .normal (ly a0 ops b 0) w):(Code.region id ops.toArray true).wp P Q a0 w0:=
 wp_region_any hm (BD G c VP D e f g n hn i j k l)
def xT{id:Nat}{w0:World}(G:World->Prop)(a:Value->World->Prop)(VP:Nat->Value->Prop)(D:om)(hm:P.follows .mixedOrders=true)(e:rT ops=true)(f:uS ops=true)(g:0<ops.length)(n:Nat)(hn:a0.tmps.size=n)(i:(ops.all λo=>match o.dst with|some d=>decide (d<n)|none=>true)=true)(j:G {w0 with drawn:=w0.drawn+1})(k:Ai P ops a0 G a VP D 0 ops)
  (l:∀(b:Nat->Value) (w:World),(∀c,c<ops.length-1->VP c (b c))->a (b (ops.length-1)) w->Q .normal (ly a0 ops b 0) w):(Code.region id ops.toArray true).wp P Q a0 w0:=
 sM G (λ_=>a) VP D hm e f g n hn i j k l
end
def mU(l:List (Value->Prop))(a:Nat)(v:Value):Prop:=(l[a]?.getD λ_=>True) v
def lr{a:Act}{t:Nat}{v:Value}(h:a.eval (.tmp t)=v):a.tmps[t]?.getD undef=v:=by rw[<-h];simp[Act.eval]
def kA.lF{P:Program}{a:Act}{o:Oper}{w:World}{b:Value->World->Prop}(h:∀K:Value->World->Prop,(∀v w',b v w'->K v w')->kA P a o w K):kA P a o w b:=h _ λ_ _ h=>h
end Go.Proofs.YtppncjcpdbhobaaGreatDoor
universe u
def Xq{b:Sort u}(a:b):∃q,q=a:=⟨a,rfl⟩
def Gx{a:Type}{l:List a}{k:Nat}(h:k<l.length):∃x,l[k]?=some x:=⟨_,List.getElem?_eq_getElem h⟩
def Ms{p:Prop}(h:p:=by simp[Go.RowKit.intOf];omega):p:=h
namespace Go.Proofs.YtppncjcpdbhobaaGreatDoor
open Go Go.Proofs.Tryz
def Sl{a:Act}(t:Nat){v:Value}(h:a.eval (.tmp t)=v):a.tmps[t]?.getD undef=v:=lr h
def Ba(w:World)(a:Obj):RowKit.Below w.heap.size w (w.alloc a):=(RowKit.Below.refl w.heap.size w).alloc (QZ _) a
def Cb{w w':World}(b o:Nat)(h:w'.heap[b]?=w.heap[b]?):w'.cell? ⟨b,o,none⟩=w.cell? ⟨b,o,none⟩:=World.cell?_of_block (a:=⟨b,o,none⟩) h
def Lb{a b:Nat}(h:Nat.ble (a+1) b=true:=by rfl):a<b:=Nat.le_of_ble_eq_true h
def Mm{a:Type}{l:List a}{x:a}(k:Nat)(h:l[k]?=some x):x∈l:=QV h
abbrev Tr:Value->Prop:=λ_=>True
def cv(v:Value):Operand->Value
 | .const c=>c
 |_=>v
section
variable {P:Program} {a:Act} {o:Oper} {w:World} {K:Value→World→Prop}
def kA.p(t:Nat){v u:Value}(e:a.eval (.tmp t)=v)(b:K u w)(hx:execOp a.eval o=execOp (cv (a.eval (.tmp t))) o:=by rfl)(hr:(execOp (cv v) o).run P w=.ok (.value u) w:=by kernel_rfl):kA P a o w K:=by unfold kA;rw[hx,e,hr];exact b
def kA.h{b:Value->World->Prop}(h:∀K:Value->World->Prop,(∀{v w'},b v w'->K v w')->sq P w K ((execOp a.eval o).run P w)):kA P a o w b:=h _ λh=>h
def kA.q{b:Value->World->Prop}{v:Value}{w':World}(e:∀K:Value->World->Prop,K v w'->sq P w K ((execOp a.eval o).run P w):=by intro K k;go_simp;exact k)(g:b v w'):kA P a o w b:=kA.h λK hK=>e K (hK g)
def kA.l(x:Nat){t:TypeId}{p:Addr}{u:Value}(e:a.eval (.tmp x)=.pointer (some p))(c:w.cell? p=some u)(b:K u w)(d:o.op=.load t (.tmp x):=by rfl)(f:(isAgg t).run P w=.ok false w:=by kernel_rfl):kA P a o w K:=by unfold kA execOp;simp only[d,e,Instr.loadAt,Instr.sureAddr,RL,RN,Rt,loadVar,f,Bool.false_eq_true,if_false,run_load,c,sq];exact b
end
section
variable {ops:List Oper} {i:Nat} {v:Value} {w w':World}
def Qa{D:om}(h:(D.all λe=>!(e.1==i))=true:=by rfl):∀e∈D,(e.1=i->e.2 v w)/\(e.1≠i->lW ops ops.length e.1 i=false->∀u,e.2 u w->e.2 u w):=λe he=>by have:=Sb.1 h e he;simp at this;exact⟨λh=>absurd h this,λ_ _ _ hu=>hu⟩
def Qb{D:om}{e:Nat×(Value->World->Prop)}(t:∀e∈D,(e.1=i->e.2 v w')/\(e.1≠i->lW ops ops.length e.1 i=false->∀u,e.2 u w->e.2 u w'))(h:(e.1==i)=false:=by rfl)(k:lW ops ops.length e.1 i=false->∀u,e.2 u w->e.2 u w':=by first|exact λ_ _ h=>h|exact λh=>Bool.noConfusion (show true=false from h)):∀x∈e::D,(x.1=i->x.2 v w')/\(x.1≠i->lW ops ops.length x.1 i=false->∀u,x.2 u w->x.2 u w'):=
 Ru.2 ⟨⟨λe=>by rw[e]at h;simp at h,λ_=>k⟩,t⟩
def Q2{D:om}{a b:Nat×(Value->World->Prop)}(t:∀e∈D,(e.1=i->e.2 v w')/\(e.1≠i->lW ops ops.length e.1 i=false->∀u,e.2 u w->e.2 u w'))(c:(a.1==i)=false:=by rfl)(d:lW ops ops.length a.1 i=false->∀u,a.2 u w->a.2 u w':=by first|exact λ_ _ h=>h|exact λh=>Bool.noConfusion (show true=false from h))(f:(b.1==i)=false:=by rfl)(g:lW ops ops.length b.1 i=false->∀u,b.2 u w->b.2 u w':=by first|exact λ_ _ h=>h|exact λh=>Bool.noConfusion (show true=false from h)):∀x∈a::b::D,(x.1=i->x.2 v w')/\(x.1≠i->lW ops ops.length x.1 i=false->∀u,x.2 u w->x.2 u w'):=
 Qb (Qb t f g) c d
def Q4{D:om}{a b e3 e4:Nat×(Value->World->Prop)}(t:∀e∈D,(e.1=i->e.2 v w')/\(e.1≠i->lW ops ops.length e.1 i=false->∀u,e.2 u w->e.2 u w'))(c:(a.1==i)=false:=by rfl)(d:lW ops ops.length a.1 i=false->∀u,a.2 u w->a.2 u w':=by first|exact λ_ _ h=>h|exact λh=>Bool.noConfusion (show true=false from h))(f:(b.1==i)=false:=by rfl)(g:lW ops ops.length b.1 i=false->∀u,b.2 u w->b.2 u w':=by first|exact λ_ _ h=>h|exact λh=>Bool.noConfusion (show true=false from h))(j:(e3.1==i)=false:=by rfl)(k:lW ops ops.length e3.1 i=false->∀u,e3.2 u w->e3.2 u w':=by first|exact λ_ _ h=>h|exact λh=>Bool.noConfusion (show true=false from h))(l:(e4.1==i)=false:=by rfl)(m:lW ops ops.length e4.1 i=false->∀u,e4.2 u w->e4.2 u w':=by first|exact λ_ _ h=>h|exact λh=>Bool.noConfusion (show true=false from h)):∀x∈a::b::e3::e4::D,(x.1=i->x.2 v w')/\(x.1≠i->lW ops ops.length x.1 i=false->∀u,x.2 u w->x.2 u w'):=
 Q2 (Q2 t j k l m) c d f g
def Qd{D:om}{e:Nat×(Value->World->Prop)}(k:∀u,e.2 u w->e.2 u w')(t:∀e∈D,(e.1=i->e.2 v w')/\(e.1≠i->lW ops ops.length e.1 i=false->∀u,e.2 u w->e.2 u w'))(h:(e.1==i)=false:=by rfl):∀x∈e::D,(x.1=i->x.2 v w')/\(x.1≠i->lW ops ops.length x.1 i=false->∀u,x.2 u w->x.2 u w'):=
 Qb t h λ_=>k
def Qc{D:om}{e:Nat×(Value->World->Prop)}(k:e.2 v w')(t:∀e∈D,(e.1=i->e.2 v w')/\(e.1≠i->lW ops ops.length e.1 i=false->∀u,e.2 u w->e.2 u w'))(h:(e.1==i)=true:=by rfl):∀x∈e::D,(x.1=i->x.2 v w')/\(x.1≠i->lW ops ops.length x.1 i=false->∀u,x.2 u w->x.2 u w'):=
 Ru.2 ⟨⟨λ_=>k,λn=>absurd (by simpa using h) n⟩,t⟩
def Qe{a:Type}{D:List a}{p:a->Prop}(h:D=[]:=by rfl):∀e∈D,p e:=by subst h;simp
end
section
variable {ops:List Oper} {i:Nat} {o:Oper} {a:Act} {v:Value} {w w':World}
abbrev F4(ops:List Oper)(i:Nat)(o:Oper)(a:Act)(v:Value)(w w':World)(e:Nat×Nat×(Value->Value->World->Prop)):Prop:=
 (e.1=i->∀ok,ops[e.2.1]?=some ok->e.2.2 (vd o v) (if e.2.1=i then vd o v else mq a ok) w')/\(e.1≠i->lW ops ops.length e.1 i=false->∀u u2,e.2.2 u u2 w->e.2.2 u u2 w')
def Ra{D:yn}(h:(D.all λe=>!(e.1==i))=true:=by rfl):∀e∈D,F4 ops i o a v w w e:=λe he=>by have:=Sb.1 h e he;simp at this;exact⟨λh=>absurd h this,λ_ _ _ _ hu=>hu⟩
def Rb{D:yn}{e:Nat×Nat×(Value->Value->World->Prop)}(t:∀e∈D,F4 ops i o a v w w' e)(h:(e.1==i)=false:=by rfl)(k:lW ops ops.length e.1 i=false->∀u u2,e.2.2 u u2 w->e.2.2 u u2 w':=by first|exact λ_ _ _ h=>h|exact λh=>Bool.noConfusion (show true=false from h)):∀x∈e::D,F4 ops i o a v w w' x:=
 Ru.2 ⟨⟨λe=>by rw[e]at h;simp at h,λ_=>k⟩,t⟩
def Rd{D:yn}{e:Nat×Nat×(Value->Value->World->Prop)}(k:∀u u2,e.2.2 u u2 w->e.2.2 u u2 w')(t:∀e∈D,F4 ops i o a v w w' e)(h:(e.1==i)=false:=by rfl):∀x∈e::D,F4 ops i o a v w w' x:=
 Rb t h λ_=>k
def Rc{D:yn}{e:Nat×Nat×(Value->Value->World->Prop)}(k:∀ok,ops[e.2.1]?=some ok->e.2.2 (vd o v) (if e.2.1=i then vd o v else mq a ok) w')(t:∀e∈D,F4 ops i o a v w w' e)(h:(e.1==i)=true:=by rfl):∀x∈e::D,F4 ops i o a v w w' x:=
 Ru.2 ⟨⟨λ_=>k,λn=>absurd (by simpa using h) n⟩,t⟩
end
def nL(k n:Nat)(h:k<n:=by omega):(0:Int)<=(k:Int)/\(k:Int)<(n:Int):=⟨Tj k,Int.ofNat_lt.2 h⟩
def nE:=And.intro @ly.eq_1 (And.intro @ly.eq_2 (And.intro @Act.put.eq_1 (And.intro @List.setIfInBounds_toArray.{0} (And.intro @List.set_cons_zero.{0} @List.set_cons_succ.{0}))))
def lg{D:om}{ops:List Oper}{o:Oper}{a:Act}{w:World}(hd:∀e∈D,∀b,ops[e.1]?=some b->lv o e.1=true->e.2 (mq a b) w)(k:Nat){e:Nat×(Value->World->Prop)}{b:Oper}(c:D[k]?=some e:=by rfl)(d:ops[e.1]?=some b:=by rfl)(f:lv o e.1=true:=by rfl):e.2 (mq a b) w:=hd e (Mm k c) b d f
def Sv{a:Act}(t:Nat){VP:Nat->Value->Prop}{ops:List Oper}{o:Oper}(hv:∀b c,ops[b]?=some c->lv o b=true->VP b (mq a c))(b:Nat){c:Oper}{v:Value}(d:ops[b]?=some c:=by rfl)(e:lv o b=true:=by rfl)(he:VP b (mq a c)->a.eval (.tmp t)=v:=by exact λh=>h):a.tmps[t]?.getD undef=v:=lr (he (hv b c d e))
section
variable {P:Program} {ops:List Oper} {a0:Act} {G:World→Prop} {VP:Nat→Value→Prop} {i:Nat} {o:Oper}
def Hl.f{D:om}(t:Nat){u:Value}(b:(lB ops).contains t=false:=by rfl)(hu:VP i (vd o u):=by exact rfl)(hx:∀a:Act,execOp a.eval o=execOp (cv (a.eval (.tmp t))) o:=by intro a;rfl)(hr:∀w,(execOp (cv (a0.eval (.tmp t))) o).run P w=.ok (.value u) w:=by intro w;kernel_rfl)(c:(D.all λe=>!(e.1==i))=true:=by rfl):Hl P ops a0 G VP D i o:=
 λa w d hf _ _ _=>.p t (hf t b) ⟨hu,d,Qa c⟩ (hx a) (hr w)
def Hl.v{D:om}(t b:Nat){c:Oper}{v u:Value}(d:ops[b]?=some c:=by rfl)(f:lv o b=true:=by rfl)(he:∀a:Act,VP b (mq a c)->a.eval (.tmp t)=v:=by exact λ_ h=>h)(hu:VP i (vd o u):=by exact rfl)(hx:∀a:Act,execOp a.eval o=execOp (cv (a.eval (.tmp t))) o:=by intro a;rfl)(hr:∀w,(execOp (cv v) o).run P w=.ok (.value u) w:=by intro w;kernel_rfl)(g:(D.all λe=>!(e.1==i))=true:=by rfl):Hl P ops a0 G VP D i o:=
 λa w j _ hv _ _=>.p t (he a (hv b c d f)) ⟨hu,j,Qa g⟩ (hx a) (hr w)
def Hr.f{D:yn}(t:Nat){u:Value}(b:(lB ops).contains t=false:=by rfl)(hu:VP i (vd o u):=by exact rfl)(hx:∀a:Act,execOp a.eval o=execOp (cv (a.eval (.tmp t))) o:=by intro a;rfl)(hr:∀w,(execOp (cv (a0.eval (.tmp t))) o).run P w=.ok (.value u) w:=by intro w;kernel_rfl)(c:(D.all λe=>!(e.1==i))=true:=by rfl):Hr P ops a0 G VP D i o:=
 λa w d hf _ _ _=>.p t (hf t b) ⟨hu,d,Ra c⟩ (hx a) (hr w)
def Hr.v{D:yn}(t b:Nat){c:Oper}{v u:Value}(d:ops[b]?=some c:=by rfl)(f:lv o b=true:=by rfl)(he:∀a:Act,VP b (mq a c)->a.eval (.tmp t)=v:=by exact λ_ h=>h)(hu:VP i (vd o u):=by exact rfl)(hx:∀a:Act,execOp a.eval o=execOp (cv (a.eval (.tmp t))) o:=by intro a;rfl)(hr:∀w,(execOp (cv v) o).run P w=.ok (.value u) w:=by intro w;kernel_rfl)(g:(D.all λe=>!(e.1==i))=true:=by rfl):Hr P ops a0 G VP D i o:=
 λa w j _ hv _ _=>.p t (he a (hv b c d f)) ⟨hu,j,Ra g⟩ (hx a) (hr w)
def Pf{D:om}(t:Nat){u:Value}(b:(lB ops).contains t=false:=by rfl)(hu:VP i (vd o u):=by exact rfl)(hx:∀a:Act,execOp a.eval o=execOp (cv (a.eval (.tmp t))) o:=by intro a;rfl)(hr:∀w,(execOp (cv (a0.eval (.tmp t))) o).run P w=.ok (.value u) w:=by intro w;kernel_rfl)(c:(D.all λe=>!(e.1==i))=true:=by rfl):Hl P ops a0 G VP D i o:=
 λa w d hf _ _ _=>.p t (hf t b) ⟨hu,d,Qa c⟩ (hx a) (hr w)
def Pv{D:om}(t b:Nat){c:Oper}{v u:Value}(d:ops[b]?=some c:=by rfl)(f:lv o b=true:=by rfl)(he:∀a:Act,VP b (mq a c)->a.eval (.tmp t)=v:=by exact λ_ h=>h)(hu:VP i (vd o u):=by exact rfl)(hx:∀a:Act,execOp a.eval o=execOp (cv (a.eval (.tmp t))) o:=by intro a;rfl)(hr:∀w,(execOp (cv v) o).run P w=.ok (.value u) w:=by intro w;kernel_rfl)(g:(D.all λe=>!(e.1==i))=true:=by rfl):Hl P ops a0 G VP D i o:=
 λa w j _ hv _ _=>.p t (he a (hv b c d f)) ⟨hu,j,Qa g⟩ (hx a) (hr w)
def Hl.l{D:om}(x b:Nat){d:Oper}{t:TypeId}{p:Addr}{u:Value}(c:∀w,G w->w.cell? p=some u)(g:ops[b]?=some d:=by rfl)(j:lv o b=true:=by rfl)(he:∀a:Act,VP b (mq a d)->a.eval (.tmp x)=.pointer (some p):=by exact λ_ h=>h)(hu:VP i (vd o u):=by exact rfl)(k:o.op=.load t (.tmp x):=by rfl)(l:∀w,(isAgg t).run P w=.ok false w:=by intro w;kernel_rfl)(m:(D.all λe=>!(e.1==i))=true:=by rfl):Hl P ops a0 G VP D i o:=
 λa w f _ hv _ _=>.l x (he a (hv b d g j)) (c w f) ⟨hu,f,Qa m⟩ k (l w)
def Pl{D:om}(x b:Nat){d:Oper}{t:TypeId}{p:Addr}{u:Value}(c:∀w,G w->w.cell? p=some u)(f:ops[b]?=some d:=by rfl)(g:lv o b=true:=by rfl)(he:∀a:Act,VP b (mq a d)->a.eval (.tmp x)=.pointer (some p):=by exact λ_ h=>h)(hu:VP i (vd o u):=by exact rfl)(j:o.op=.load t (.tmp x):=by rfl)(k:∀w,(isAgg t).run P w=.ok false w:=by intro w;kernel_rfl)(l:(D.all λe=>!(e.1==i))=true:=by rfl):Hl P ops a0 G VP D i o:=
 Hl.l x b c f g he hu j k l
def Hs.f{G:Bool->World->Prop}{p:Nat}{D:om}(t:Nat){u:Value}(hg:decide (p<i)=decide (p<=i):=by rfl)(b:(lB ops).contains t=false:=by rfl)(hu:VP i (vd o u):=by exact rfl)(hx:∀a:Act,execOp a.eval o=execOp (cv (a.eval (.tmp t))) o:=by intro a;rfl)(hr:∀w,(execOp (cv (a0.eval (.tmp t))) o).run P w=.ok (.value u) w:=by intro w;kernel_rfl)(c:(D.all λe=>!(e.1==i))=true:=by rfl):Hs P ops a0 G p VP D i o:=
 λa w d hf _ _ _=>.p t (hf t b) ⟨hu,hg▸d,Qa c⟩ (hx a) (hr w)
def Hs.v{G:Bool->World->Prop}{p:Nat}{D:om}(t b:Nat){c:Oper}{v u:Value}(hg:decide (p<i)=decide (p<=i):=by rfl)(d:ops[b]?=some c:=by rfl)(f:lv o b=true:=by rfl)(he:∀a:Act,VP b (mq a c)->a.eval (.tmp t)=v:=by exact λ_ h=>h)(hu:VP i (vd o u):=by exact rfl)(hx:∀a:Act,execOp a.eval o=execOp (cv (a.eval (.tmp t))) o:=by intro a;rfl)(hr:∀w,(execOp (cv v) o).run P w=.ok (.value u) w:=by intro w;kernel_rfl)(g:(D.all λe=>!(e.1==i))=true:=by rfl):Hs P ops a0 G p VP D i o:=
 λa w j _ hv _ _=>.p t (he a (hv b c d f)) ⟨hu,hg▸j,Qa g⟩ (hx a) (hr w)
end
section
variable {P:Program} {ops:List Oper} {a0:Act} {Q:Exit→Act→World→Prop} {id:Nat} {w0:World}
def Ri(G:World->Prop)(VP:Nat->Value->Prop)(D:om)(c:G {w0 with drawn:=w0.drawn+1})(f:Dc P ops a0 G VP D 0 ops)
  (g:∀(a:Nat->Value) (w:World),G w->(∀b,b<ops.length->VP b (a b))->(∀e∈D,e.1<ops.length->e.2 (a e.1) w)->Q .normal (ly a0 ops a 0) w)
  (hm:P.follows .mixedOrders=true:=by kernel_rfl) (i:rT ops=true:=by kernel_rfl) (j:(ops.all λo=>match o.dst with|some d=>decide (d<a0.tmps.size)|none=>true)=true:=by kernel_rfl):(Code.region id ops.toArray true).wp P Q a0 w0:=
 yu G VP D hm i _ rfl j c f g
def JV(G:World->Prop)(VP:Nat->Value->Prop)(D:yn)(c:G {w0 with drawn:=w0.drawn+1})(f:E6 P ops a0 G VP D 0 ops)
  (g:∀(a:Nat->Value) (w:World),G w->(∀b,b<ops.length->VP b (a b))->(∀e∈D,e.1<ops.length->e.2.1<ops.length->e.2.2 (a e.1) (a e.2.1) w)->Q .normal (ly a0 ops a 0) w)
  (hm:P.follows .mixedOrders=true:=by kernel_rfl) (i:rF ops=true:=by kernel_rfl) (j:(D.all λe=>e.2.1==e.1||lW ops ops.length e.1 e.2.1)=true:=by kernel_rfl) (k:vI ops VP ops:=by repeat' (first|exact trivial|exact⟨by kernel_rfl,by kernel_rfl,λ_ h=>h⟩|refine And.intro ?_ ?_)) (l:(ops.all λo=>match o.dst with|some d=>decide (d<a0.tmps.size)|none=>true)=true:=by kernel_rfl):(Code.region id ops.toArray true).wp P Q a0 w0:=
 xR G VP D hm i j k _ rfl l c f g
def tE(G:World->Prop)(a:Value->World->Prop)(VP:Nat->Value->Prop)(D:om)(e:G {w0 with drawn:=w0.drawn+1})(f:Ai P ops a0 G a VP D 0 ops)
  (g:∀(b:Nat->Value) (w:World),(∀c,c<ops.length-1->VP c (b c))->a (b (ops.length-1)) w->Q .normal (ly a0 ops b 0) w)
  (hm:P.follows .mixedOrders=true:=by kernel_rfl) (i:rT ops=true:=by kernel_rfl) (j:uS ops=true:=by kernel_rfl) (k:0<ops.length:=by decide) (l:(ops.all λo=>match o.dst with|some d=>decide (d<a0.tmps.size)|none=>true)=true:=by kernel_rfl):(Code.region id ops.toArray true).wp P Q a0 w0:=
 xT G a VP D hm i j k _ rfl l e f g
def ET(p:Nat)(G:Bool->World->Prop)(VP:Nat->Value->Prop)(D:om)(c:G false {w0 with drawn:=w0.drawn+1})(f:E7 P ops a0 G p VP D 0 ops)
  (g:∀(a:Nat->Value) (w:World),G true w->(∀b,b<ops.length->VP b (a b))->(∀e∈D,e.1<ops.length->e.2 (a e.1) w)->Q .normal (ly a0 ops a 0) w)
  (hm:P.follows .mixedOrders=true:=by kernel_rfl) (i:rT ops=true:=by kernel_rfl) (j:HE ops p=true:=by kernel_rfl) (k:(ops.all λo=>match o.dst with|some d=>decide (d<a0.tmps.size)|none=>true)=true:=by kernel_rfl):(Code.region id ops.toArray true).wp P Q a0 w0:=
 xS p G VP D hm i j _ rfl k c f g
end
end Go.Proofs.YtppncjcpdbhobaaGreatDoor
namespace Go.Proofs.YtppncjcpdbhobaaGreatDoor
open RowKit Go.Proofs.Tryz lI Maps oZ qQ ChangeShapes WideShapes ChangeAt
def Al(w:World)(a:Obj):Below w.heap.size w (w.alloc a)/\(w.alloc a).heap[w.heap.size]?=some a/\(w.alloc a).heap.size=w.heap.size+1:=
 ⟨Ba w a,QT w a,QU w a⟩
def kA.c{P:Program}{a:Act}{o:Oper}{w:World}{K:Value->World->Prop}{f:FuncId}{args:Array Value}{R:Ending->World->Prop}(hc:Calls P f args w R)(b:∀e w',R e w'->∃v,e=.returned v/\K v w')(hr:(execOp a.eval o).run P w=.ok (.enter f args) w:=by go_simp):kA P a o w K:=by unfold kA;rw[hr];exact⟨rfl,hc.mono b⟩
def uk(e:Nat->Prop)(w:World)(f:Option Addr)(b:List Value):Prop:=
 b≠[]->∃a o,f=some ⟨a,o,none⟩/\e a/\∀(c:Nat) (d:Value),b[c]?=some d->w.cell? ⟨a,o+c,none⟩=some d
def uk.nil(S w a):uk S w a []:=λb=>absurd Z b
def uk.M{S T w a xs}(c:uk S w a xs)(d:∀b,S b->T b):uk T w a xs:=λe=>by have⟨b,o,f,g,i⟩:=c e;exact⟨b,o,f,d b g,i⟩
def uk.ku{S w w' a c}(f:uk S w a c)(g:∀b,S b->w'.heap[b]?=w.heap[b]?):uk S w' a c:=λi=>by have⟨b,o,j,d,k⟩:=f i;exact⟨b,o,j,d,λe l m=>(Cb b (o+e)<|g b d).T<|k e l m⟩
def uk.ll{S w d xs}(a:uk S w d xs)(c:Nat)(u)(e:xs[c]?=some u):
  ∃b o,d=some ⟨b,o,none⟩/\S b/\w.cell? ⟨b,o+c,none⟩=some u:=by
 have⟨b,o,f,g,a⟩:=a (by rintro rfl;simp at e);exact⟨b,o,f,g,a c u e⟩
abbrev Rel(a:Type):=(Nat->Prop)->World->List Value->a->Prop
structure lh{α:Type}(R:Rel α)(k:Nat):Prop where
 pos:0<k
 len:∀{S w r x},R S w r x->r.length=k
 one:∀{S w r x},R S w r x->∀u∈r,u.oneCell'=true
 M:∀{S T w r x},R S w r x->(∀b,S b->T b)->R T w r x
 ku:∀{S w w' r x},R S w r x->(∀b,S b->w'.heap[b]?=w.heap[b]?)->R S w' r x
def lu{a:Type}(R:List Value->a->Prop):List (List Value)->List a->Prop
 |[],[]=>True
 |r::rs,x::xs=>R r x/\lu R rs xs
 |_,_=>False
def lu.imp{b:Type}{c d:List Value->b->Prop}(a:∀r e,c r e->d r e):∀{f:List<|List Value} {g:List b},lu c f g->lu d f g
 |[],[],_=>trivial
 |_::_,_::_,⟨h1,h2⟩=>⟨a _ _ h1,lu.imp a h2⟩
 |[],_::_,a=>a.elim
 |_::_,[],a=>a.elim
def lu.length{a:Type}{c:List Value->a->Prop}:∀{b:List<|List Value} {xs:List a},lu c b xs->b.length=xs.length
 |[],[],_=>rfl
 |_::_,_::_,⟨_,h2⟩=>by simp[lu.length h2]
 |[],_::_,h=>h.elim
 |_::_,[],h=>h.elim
def lu.flat{c:Type}{d:List Value->c->Prop}{k:Nat}(e:∀r f,d r f->r.length=k):∀{a:List<|List Value} {b:List c},lu d a b->a.flatten.length=b.length*k
 |[],[],_=>Us
 |r::a,f::b,⟨h1,h2⟩=>by rw[R8,Q6,e _ _ h1,lu.flat e h2,Rn,S4];omega
 |[],_::_,h=>h.elim
 |_::_,[],h=>h.elim
def lu.ll{e:Type}{R:List Value->e->Prop}{k:Nat}(f:∀r a,R r a->r.length=k):∀{c:List<|List Value} {xs:List e} (i:Nat) (a:e),lu R c xs->xs[i]?=some a->
  ∃r,R r a/\∀b u,r[b]?=some u->c.flatten[i*k+b]?=some u
 |r::c,y::xs,0,a,⟨h1,_⟩,hx=>by simp at hx;subst hx;refine⟨r,h1,λb u d=>?_⟩;rw[R8,S9,Re,RR (Rg.1 d).1];exact d
 |r::c,y::xs,i+1,a,⟨h1,h2⟩,hx=>by have⟨q,j,l⟩:=lu.ll f i a h2 (by simpa using hx);refine⟨q,j,λb u d=>?_⟩;have g:=f _ _ h1;rw[R8,RY (by rw[g,S4];omega),g,show(i+1)*k+b-k=i*k+b by rw[S4];omega];exact l b u d
 |[],[],_,_,_,hx=>by simp at hx
 |[],_::_,_,_,h,_=>h.elim
 |_::_,[],_,_,h,_=>h.elim
def lu.one{b:Type}{c:List Value->b->Prop}(d:∀r e,c r e->∀u∈r,u.oneCell'=true):∀{a:List<|List Value} {f:List b},lu c a f->∀u∈a.flatten,u.oneCell'=true
 |[],[],_=>Us
 |r::a,e::f,⟨h1,h2⟩=>by intro u hu;rw[R8,SV]at hu;rcases hu with hu|hu;exact d _ _ h1 u hu;exact lu.one d h2 u hu
 |[],_::_,h=>h.elim
 |_::_,[],h=>h.elim
def kz{b:Type}(e:Rel b)(S:Nat->Prop)(w:World)(v:Value)(xs:List b):Prop:=
 ∃(c:Option Addr) (a:Nat) (d:List<|List Value),v=.slice c xs.length a/\xs.length<=a/\a<=9223372036854775807/\uk S w c d.flatten/\lu (e S w) d xs
def kz.M{c:Type}{a:Rel c}{k:Nat}(ok:lh a k){S T w v}{xs:List c}(e:kz a S w v xs)(d:∀b,S b->T b):kz a T w v xs:=by have⟨f,g,i,j,l,m,n,p⟩:=e;exact⟨f,g,i,j,l,m,n.M d,p.imp λr s q=>ok.M q d⟩
def kz.ku{c:Type}{a:Rel c}{k:Nat}(ok:lh a k){S w w' v}{d:List c}(f:kz a S w v d)(e:∀b,S b->w'.heap[b]?=w.heap[b]?):kz a S w' v d:=by have⟨g,i,j,l,m,n,p,q⟩:=f;exact⟨g,i,j,l,m,n,p.ku e,q.imp λs t r=>ok.ku r e⟩
def kz.nil{a:Type}(b:Rel a)(S w):kz b S w Nl []:=⟨none,0,[],Z,QZ _,Y,uk.nil _ _ _,trivial⟩
def kz.one{a:Type}{b:Rel a}{c w v}{d:List a}(e:kz b c w v d):v.oneCell'=true:=by obtain⟨f,g,i,rfl,_⟩:=e;rfl
def kz.ll{d:Type}{R:Rel d}{k:Nat}(ok:lh R k){S w j}{n p:Nat}{xs:List d}(e:kz R S w (.slice j n p) xs)(i:Nat)(a:d)(q:xs[i]?=some a):
  ∃b o r,j=some ⟨b,o,none⟩/\S b/\R S w r a/\∀c u,r[c]?=some u->w.cell? ⟨b,o+i*k+c,none⟩=some u:=by
 have⟨C,D,E,f,F,G,s,t⟩:=e;injection f with f;subst f;have⟨r,l,m⟩:=lu.ll (k:=k) (λr a e=>ok.len e) i a t q;have v:∃u,r[0]?=some u:=Gx (by rw[ok.len l];exact ok.pos);have⟨x,y⟩:=v;have⟨b,o,g,z,A⟩:=s (by intro g;have:=m 0 x y;rw[g]at this;simp at this);refine⟨b,o,r,g,z,l,λc u B=>?_⟩;rw[Tu];exact A _ u<|m c u B
structure kJ{α:Type}(R:Rel α)(T k:Nat)(P:Nat->Prop)(w:World)(lo:Nat)(v:Value)(xs:List α):Prop where
 own:∃rows,w.ownsRow lo T k v xs.length rows.flatten/\lu (R (λb=>P b/\b<w/\some b≠v.ownBlock) w) rows xs
def kJ.nil{a:Type}(b:Rel a)(T k:Nat)(P w)(c:Nat):kJ b T k P w c Nl []:=⟨[],SX _ _ _ _,trivial⟩
def kJ.grown{f:Type}{b:Rel f}{T k:Nat}(ok:lh b k){P w w'}{g:Nat}{v}{i:List f}{j}(m:kJ b T k P w g v i)(c:w.grownBy w' j)(l:∀z,j=some z->¬P z/\some z≠v.ownBlock):kJ b T k P w' g v i:=by
 have⟨n,p,r⟩:=m.own;refine⟨n,p.kept c ?_,r.imp λt u s=>ok.M (ok.ku s λd a=>c.B d a.2.1 λe=>(l d e.symm).1 a.1) λd a=>⟨a.1,QR a.2.1 c.size,a.2.2⟩⟩;cases hv:v.ownBlock with
 |none=>exact .inl Z
 |some q=>exact .inr λe=>(l q e.symm).2 hv.symm
def kC{w w'}(a:Below w.heap.size w w'):w.grownBy w' none:=⟨a.os,a.tape,a.output,a.size,λb c _=>a.B b c⟩
def kJ.kv{b:Type}{a:Rel b}{T k:Nat}(ok:lh a k){P w w'}{c:Nat}{v}{d:List b}(e:kJ a T k P w c v d)(f:Below w w w'):kJ a T k P w' c v d:=
 e.grown ok (kC f) (λi g=>by cases g)
def kJ.form{c:Type}{e:Rel c}{T f:Nat}{P w}{g:Nat}{v}{a:List c}(i:kJ e T f P w g v a):∃j b,v=.slice j a.length b/\a.length<=b/\b<=9223372036854775807:=by
 have⟨p,k,_⟩:=i.own;rcases k.2 with⟨rfl,d⟩|⟨q,l,r,rfl,s,t,m,n,u,x⟩
 exact⟨none,0,by rw[d],by rw[d];exact QZ _,Y⟩;exact⟨_,l,Z,m,n⟩
def kJ.ge{b:Type}{d:Rel b}{T k:Nat}{P w}{c:Nat}{v}{e:List b}(f:kJ d T k P w c v e):∀z,v.ownBlock=some z->c<=z/\z<w:=by
 have⟨m,g,_⟩:=f.own;rcases g.2 with⟨rfl,n⟩|⟨i,p,q,rfl,j,l,r,s,t,u⟩
 intro z a;simp[Value.ownBlock]at a;intro z a;obtain rfl:i=z:=by simpa[Value.ownBlock]using a
 exact⟨j,(QS.1 l).1⟩
inductive lI.Ex where
 |mk (op:Int) (name:List UInt8) (n:Int) (args:List Ex)
instance:Inhabited Ex:=⟨.mk 0 [] 0 []⟩
def lI.Ex.op:Ex->Int| .mk o _ _ _=>o
def lI.Ex.name:Ex->List UInt8| .mk _ a _ _=>a
def lI.Ex.n:Ex->Int| .mk _ _ n _=>n
def lI.Ex.args:Ex->List Ex| .mk _ _ _ a=>a
inductive lI.St where
 |mk (kind:Int) (name hd:List UInt8) (lp:List Ex) (th el:List St)
instance:Inhabited St:=⟨.mk 0 [] [] [] [] []⟩
def lI.St.kind:St->Int| .mk a _ _ _ _ _=>a
def lI.St.name:St->List UInt8| .mk _ a _ _ _ _=>a
def lI.St.hd:St->List UInt8| .mk _ _ a _ _ _=>a
def lI.St.lp:St->List Ex| .mk _ _ _ a _ _=>a
def lI.St.th:St->List St| .mk _ _ _ _ a _=>a
def lI.St.el:St->List St| .mk _ _ _ _ _ a=>a
structure lI.Hd where
 name:List UInt8
 params:List<|List UInt8
 body:List St
instance:Inhabited Hd:=⟨⟨[],[],[]⟩⟩
structure lI.Va where
 name:List UInt8
 ty:Int
 init:Int
instance:Inhabited Va:=⟨⟨[],0,0⟩⟩
structure lI.Co where
 name:List UInt8
 vars:List Va
 lH:List<|List Hd
instance:Inhabited Co:=⟨⟨[],[],[]⟩⟩
structure lI.Fg where
 name:List UInt8
 init:Bool
instance:Inhabited Fg:=⟨⟨[],false⟩⟩
structure lI.Lk where
 a:List UInt8
 b:List UInt8
 tF:Int
instance:Inhabited Lk:=⟨⟨[],[],0⟩⟩
structure lI.Fl where
 name:List UInt8
 kN:List Fg
 mj:List Lk
 kF:List Co
def lI.De:Nat:=6
def lI.Ds:Nat:=4
abbrev tx(a:List UInt8):Value:=.string ⟨a.toArray⟩
def kO:Rel<|List UInt8:=λ_ _ a b=>a=[tx b]
def kO.ok:lh kO 1:=⟨Y,λa=>by rw[a];rfl,λa c b=>by rw[a]at b;simp at b;rw[b];rfl,λa _=>a,λa _=>a⟩
def mH:Rel Fg:=λ_ _ b a=>b=[tx a.name,.bool a.init]
def mH.ok:lh mH 2:=⟨Y,λa=>by rw[a];rfl,λa c b=>by rw[a]at b;simp at b;rcases b with rfl|rfl<;>rfl,λa _=>a,λa _=>a⟩
def nV:Rel Lk:=λ_ _ b a=>b=[tx a.a,tx a.b,.int .i64 a.tF]
def nV.ok:lh nV 3:=⟨Y,λa=>by rw[a];rfl,λa c b=>by rw[a]at b;simp at b;rcases b with rfl|rfl|rfl<;>rfl,λa _=>a,λa _=>a⟩
def og(b:IntKind):Rel Va:=λ_ _ c a=>c=[tx a.name,.int b a.ty,.int .i64 a.init]
def og.ok(q:IntKind):lh (og q) 3:=⟨Y,λa=>by rw[a];rfl,λa c b=>by rw[a]at b;simp at b;rcases b with rfl|rfl|rfl<;>rfl,λa _=>a,λa _=>a⟩
def kP(b:IntKind):Nat->Rel Ex
 |0=>λ_ _ _ _=>False
 |d+1=>λS w r a=>∃v,r=[.int b a.op,tx a.name,.int .i64 a.n,v]/\kz (kP b d) S w v a.args
def kP.ok(q:IntKind):∀d,lh (kP q d) 4
 |0=>⟨Y,λa=>a.elim,λa=>a.elim,λa=>a.elim,λa=>a.elim⟩
 |d+1=>⟨Y,λ⟨v,a,_⟩=>by rw[a];rfl,λ⟨v,a,b⟩ u c=>by rw[a]at c;simp at c;rcases c with rfl|rfl|rfl|rfl;rfl;rfl;rfl;exact b.one,λ⟨v,a,b⟩ e=>⟨v,a,b.M (kP.ok q d) e⟩,λ⟨v,a,b⟩ f=>⟨v,a,b.ku (kP.ok q d) f⟩⟩
def kR(b:IntKind):Nat->Rel St
 |0=>λ_ _ _ _=>False
 |d+1=>λc w r a=>∃e f g,r=[.int b a.kind,tx a.name,tx a.hd,e,f,g]/\kz (kP b De) c w e a.lp/\kz (kR b d) c w f a.th/\kz (kR b d) c w g a.el
def kR.ok(q:IntKind):∀d,lh (kR q d) 6
 |0=>⟨Y,λa=>a.elim,λa=>a.elim,λa=>a.elim,λa=>a.elim⟩
 |d+1=>⟨Y,λ⟨b,c,e,a,_⟩=>by rw[a];rfl,λ⟨b,c,e,a,f,g,i⟩ u j=>by
  rw[a]at j;simp at j;rcases j with rfl|rfl|rfl|rfl|rfl|rfl;rfl;rfl;rfl;exact f.one;exact g.one;exact i.one,λ⟨b,c,e,a,f,g,i⟩ k=>⟨b,c,e,a,f.M (kP.ok q _) k,g.M (kR.ok q d) k,i.M (kR.ok q d) k⟩,
  λ⟨b,c,e,a,f,g,i⟩ l=>⟨b,c,e,a,f.ku (kP.ok q _) l,g.ku (kR.ok q d) l,i.ku (kR.ok q d) l⟩⟩
def mv(f:IntKind):Rel Hd:=λb c g a=>∃d e,g=[tx a.name,d,e]/\kz kO b c d a.params/\kz (kR f Ds) b c e a.body
def mv.ok(q:IntKind):lh (mv q) 3:=
 ⟨Y,λ⟨b,c,a,_⟩=>by rw[a];rfl,λ⟨b,c,a,d,e⟩ j f=>by rw[a]at f;simp at f;rcases f with rfl|rfl|rfl;rfl;exact d.one;exact e.one,λ⟨b,c,a,d,e⟩ g=>⟨b,c,a,d.M kO.ok g,e.M (kR.ok q _) g⟩,λ⟨b,c,a,d,e⟩ i=>⟨b,c,a,d.ku kO.ok i,e.ku (kR.ok q _) i⟩⟩
def nu(b:IntKind):Rel<|List Hd:=λc d e f=>∃a,e=[a]/\kz (mv b) c d a f
def nu.ok(q:IntKind):lh (nu q) 1:=
 ⟨Y,λ⟨b,a,_⟩=>by rw[a];rfl,λ⟨b,a,c⟩ g d=>by rw[a]at d;simp at d;rw[d];exact c.one,λ⟨b,a,c⟩ e=>⟨b,a,c.M (mv.ok q) e⟩,λ⟨b,a,c⟩ f=>⟨b,a,c.ku (mv.ok q) f⟩⟩
def mn(q:IntKind):Rel Co:=λb c f a=>∃d e,f=[tx a.name,d,e]/\kz (og q) b c d a.vars/\kz (nu q) b c e a.lH
def mn.ok(q:IntKind):lh (mn q) 3:=
 ⟨Y,λ⟨b,c,a,_⟩=>by rw[a];rfl,λ⟨b,c,a,d,e⟩ j f=>by rw[a]at f;simp at f;rcases f with rfl|rfl|rfl;rfl;exact d.one;exact e.one,λ⟨b,c,a,d,e⟩ g=>⟨b,c,a,d.M (og.ok q) g,e.M (nu.ok q) g⟩,λ⟨b,c,a,d,e⟩ i=>⟨b,c,a,d.ku (og.ok q) i,e.ku (nu.ok q) i⟩⟩
def Ou(g:IntKind):Rel Fl:=λb c i a=>∃d e f,i=[tx a.name,d,e,f]/\kz mH b c d a.kN/\kz nV b c e a.mj/\kz (mn g) b c f a.kF
def Ou.ok(q:IntKind):lh (Ou q) 4:=
 ⟨Y,λ⟨b,c,d,a,_⟩=>by rw[a];rfl,λ⟨b,c,d,a,e,f,g⟩ l i=>by rw[a]at i;simp at i;rcases i with rfl|rfl|rfl|rfl;rfl;exact e.one;exact f.one;exact g.one,λ⟨b,c,d,a,e,f,g⟩ j=>⟨b,c,d,a,e.M mH.ok j,f.M nV.ok j,g.M (mn.ok q) j⟩,λ⟨b,c,d,a,e,f,g⟩ k=>⟨b,c,d,a,e.ku mH.ok k,f.ku nV.ok k,g.ku (mn.ok q) k⟩⟩
def lI.nm(a:UInt8)(k:Nat):List UInt8:=[a,UInt8.ofNat<|48+k]
def lI.qN(a:UInt8)(n:Nat):List<|List UInt8:=(List.range n).map<|nm a
def lI.lO(a)(n:Nat):(qN a n).length=n:=by simp[qN]
def lI.pc(b)(n a:Nat)(c:a<n):(qN b n)[a]?=some (nm b a):=by simp[qN,c]
structure lI.Sc where
 ints:Nat
 kZ:Nat
 kN:Nat
 params:Nat
 oa:List<|List Nat
 own:Nat
structure lI.oP(sc:Sc):Prop where
 HF:1<=sc.ints
 HI:sc.ints<=3
 kZ:sc.kZ<=1
 kN:sc.kN<=2
 params:sc.params<=2
 own:sc.own<sc.oa.length
 len:sc.oa.length<=3
 each:∀l∈sc.oa,1<=l.length/\l.length<=3/\∀a∈l,a<=2
def lI.lM(a:Sc):Nat->Ex->Prop
 |0,_=>False
 |d+1,e=>
  (e.op=1/\e.name=[]/\0<=e.n/\e.n<=8/\e.args=[])\/
  (e.op=4/\e.name=[]/\e.n=0/\e.args=[])\/
  (e.op=5/\((∃k,k<a.ints/\e.name=nm 120 k)\/(∃k,k<a.params/\e.name=nm 112 k))/\e.n=0/\e.args=[])\/
  (e.op=6/\a.kZ=1/\e.name=nm 116 0/\e.n=0/\∃b,e.args=[b]/\lM a d b)\/
  (e.op=8/\a.kZ=1/\e.name=nm 116 0/\e.n=0/\e.args=[])\/
  (e.op=9/\e.name=[]/\e.n=0/\∃b,e.args=[b]/\lM a d b)\/
  ((11<=e.op/\e.op<=15)/\e.name=[]/\e.n=0/\∃b c,e.args=[b,c]/\lM a d b/\lM a d c)
def lI.nz(b:Sc):Nat->Ex->Prop
 |0,_=>False
 |d+1,e=>
  ((e.op=2\/e.op=3)/\e.name=[]/\e.n=0/\e.args=[])\/
  (e.op=5/\(e.name=nm 98 0\/(∃k,k<b.kN/\e.name=nm 102 k))/\e.n=0/\e.args=[])\/
  (e.op=7/\b.kZ=1/\e.name=nm 116 0/\e.n=0/\∃a,e.args=[a]/\lM b d a)\/
  (e.op=10/\e.name=[]/\e.n=0/\∃a,e.args=[a]/\nz b d a)\/
  ((e.op=22\/e.op=23)/\e.name=[]/\e.n=0/\∃a c,e.args=[a,c]/\nz b d a/\nz b d c)\/
  ((16<=e.op/\e.op<=21)/\e.name=[]/\e.n=0/\∃a c,e.args=[a,c]/\lM b d a/\lM b d c)
def lI.kV(a:Nat):List UInt8:=[UInt8.ofNat<|97+a]
def lI.mP(sc:Sc):Nat->St->Prop
 |0,_=>False
 |d+1,s=>
  (s.kind=1/\s.hd=[]/\s.th=[]/\s.el=[]/\(∃c,s.lp=[c]/\((∃k,k<sc.ints/\s.name=nm 120 k/\lM sc De c)\/(s.name=nm 98 0/\nz sc De c))))\/
  (s.kind=2/\sc.kZ=1/\s.name=nm 116 0/\s.hd=[]/\s.th=[]/\s.el=[]/\(∃a e,s.lp=[a,e]/\lM sc De a/\lM sc De e))\/
  (s.kind=3/\sc.kZ=1/\s.name=nm 116 0/\s.hd=[]/\s.th=[]/\s.el=[]/\(∃a,s.lp=[a]/\lM sc De a))\/
  (s.kind=4/\s.name=[]/\s.hd=[]/\(∃a,s.lp=[a]/\nz sc De a)/\(∀b∈s.th,mP sc d b)/\(∀b∈s.el,mP sc d b))\/
  (s.kind=5/\s.name=[]/\s.hd=[]/\s.el=[]/\(∃a,s.lp=[a]/\nz sc De a)/\(∀b∈s.th,mP sc d b))\/
  (s.kind=6/\s.th=[]/\s.el=[]/\(∃g l f a,sc.oa[g]?=some l/\l[f]?=some a/\s.name=kV g/\s.hd=nm 104 f/\s.lp.length=a)/\(∀c∈s.lp,lM sc De c))\/
  (s.kind=7/\s.name=[]/\s.th=[]/\s.el=[]/\(∃l f a,sc.oa[sc.own]?=some l/\l[f]?=some a/\s.hd=nm 104 f/\s.lp.length=a+1)/\(∀c∈s.lp,lM sc De c))\/
  (s.kind=8/\s.name=[]/\s.hd=[]/\s.th=[]/\(∃a e,s.lp=[a,e]/\lM sc De a/\lM sc De e)/\(∀b∈s.el,mP sc d b))\/
  (s.kind=9/\s.hd=[]/\s.th=[]/\(∃k,k<sc.ints/\s.name=nm 120 k)/\(∃a,s.lp=[a]/\lM sc De a)/\(∀b∈s.el,mP sc d b))\/
  (s.kind=10/\s.name=[]/\s.hd=[]/\s.th=[]/\s.el=[]/\s.lp=[])
def lI.kT:Nat->List St->Nat
 |0,_=>0
 |d+1,l=>(l.map λa=>1+kT d a.th+kT d a.el).sum
def kB{w:World}{b:Nat}{a:Array Value}{d:TypeId}{e:Nat×Nat}(f:w.heap[b]?=some (.cells a d e))(c:Nat)(v:Value)(g:a[c]?=some v):w.cell? ⟨b,c,none⟩=some v:=by simp[World.cell?,f,g]
def kr{w:World}{b:Nat}{c:Array Value}{d:TypeId}{e:Nat×Nat}(f:w.heap[b]?=some (.cells c d e))(a:Nat){v:Value}(g:c[a]?=some v:=by rfl):w.cell? ⟨b,a,none⟩=some v:=kB f a v g
def kx{w:World}{b:Nat}{a:Array Value}{c:TypeId}(d:w.heap[b]?=some (.cells a c (0,0)))(e:Nat):w.frozen? ⟨b,e,none⟩=false:=by simp[World.frozen?,d]
def mI:Rel Nat:=λ_ _ a b=>a=[.int .i64 (b:Int)]
def mI.ok:lh mI 1:=⟨Y,λa=>by rw[a];rfl,λa c b=>by rw[a]at b;simp at b;rw[b];rfl,λa _=>a,λa _=>a⟩
def qs:Rel<|List Nat:=λb c d e=>∃a,d=[a]/\kz mI b c a e
def qs.ok:lh qs 1:=
 ⟨Y,λ⟨b,a,_⟩=>by rw[a];rfl,λ⟨b,a,c⟩ g d=>by rw[a]at d;simp at d;rw[d];exact c.one,λ⟨b,a,c⟩ e=>⟨b,a,c.M mI.ok e⟩,λ⟨b,a,c⟩ f=>⟨b,a,c.ku mI.ok f⟩⟩
def qO:Rel UInt8:=λ_ _ a b=>a=[.int .u8 (b.toNat:Int)]
def qO.ok:lh qO 1:=⟨Y,λa=>by rw[a];rfl,λa c b=>by rw[a]at b;simp at b;rw[b];rfl,λa _=>a,λa _=>a⟩
structure kS(S:Nat->Prop)(w:World)(mb:Nat)(sc:Sc)(left:Nat):Prop where
 ll:∃(PM PN:Value) (bs:List UInt8),w.heap[mb]?=some (.cells #[.int .i64 sc.ints,sc.kZ,sc.kN,sc.own,PM,sc.params,PN,left] 78)/\kz qs S w PM sc.oa/\kz qO S w PN bs
 lJ:∀b,S b->b≠mb/\b<w
def kS.lt{S w}{a:Nat}{b}{left:Nat}(c:kS S w a b left):a<w:=by have⟨_,_,_,d,_⟩:=c.ll;exact(QS.1 d).1
def kS.ku{S w w'}{d:Nat}{f}{left:Nat}(b:kS S w d f left)(e:w.grownBy w' none):kS S w' d f left:=by have⟨i,j,k,l,m,n⟩:=b.ll;have g:∀a,S a->w'.heap[a]?=w.heap[a]?:=λa c=>e.B a (b.lJ a c).2 Us;exact⟨⟨i,j,k,(e.B d b.lt Us).T l,m.ku qs.ok g,n.ku qO.ok g⟩,λa c=>⟨(b.lJ a c).1,QR (b.lJ a c).2 e.size⟩⟩
def kS.kv{S w w'}{a:Nat}{b}{left:Nat}(c:kS S w a b left)(d:Below w w w'):kS S w' a b left:=c.ku<|kC d
def kz.tail{f:Type}{g:Rel f}(ok:lh g 1){p w i}{c:Nat}{d:f}{a:List f}(j:kz g p w (.slice i (a.length+1) c) (d::a)):
  kz g p w (.slice (if c=1 then i else Option.map (λd=>d.add 1) i) a.length<|c-1) a:=by
 have⟨C,D,r,b,E,F,s,e⟩:=j;injection b with b _ t;subst b t;cases r with
 |nil=>exact e.elim
 |cons u q=>
  have l:=ok.len e.1;refine⟨_,c-1,q,Z,Y,Y,λv=>?_,e.2⟩;have G:0<a.length:=by have I:=lu.flat (k:=1) (λu d j=>ok.len j) e.2;have:0<q.flatten.length:=Td.2 v;omega
  obtain⟨m,o,rfl,x,y⟩:=s (by rw[R8];intro z;have:=RF List.length z;rw[Q6,l]at this;simp at this);refine⟨m,o+1,?_,x,λn A B=>?_⟩;rw[Rl Y];have b:(⟨m,o,none⟩:Addr).add 1=⟨m,o+1,none⟩:=Z;simp[b];rw[show o+1+n=o+(n+1) from Y];refine y (n+1) A ?_;rw[R8,RY (by rw[l];omega),l,Tk];exact B
def kt{w:World}{a i:Nat}{b:Array Value}{c:TypeId}{u:Value}(d:w.heap[a]?=some (.cells b c (0,0))):(w.setCell ⟨a,i,none⟩ u).heap[a]?=some (.cells (b.setIfInBounds i u) c (0,0)):=by simp[World.setCell,Array.getElem?_modify,d]
def kE(w:World)(a i:Nat)(v:Value):w.grownBy (w.setCell ⟨a,i,none⟩ v)<|some a:=
 ⟨Z,Z,Z,by rw[QW];exact QZ _,λd _ b=>Q5 _ _ _ _ λc=>b<|by rw[c]⟩
def lC(w:World)(a:Option Nat):w.grownBy w a:=World.grownBy.refl w a
def nT(S:Nat->Prop)(a:Nat)(d:Sc)(left n:Nat)(w:World)(e:Ending)(b:World):Prop:=∃c:Nat,c<n/\e=.returned (.int .i64 (c:Int))/\kS S b a d left/\w.grownBy b (some a)
abbrev mw(a b):=(some ⟨a,b,none⟩:Option Go.Addr)
def nU(S)(d:Nat)(k)(left n:Nat)(w)(q:kS S w d k left)(r:0<n)(P:n<=1000):Calls prog 78 #[.pointer d,n] w<|nT S d k left n w:=by
 have⟨A,Q,B,l,C,s⟩:=q.ll;obtain⟨R,t,T,rfl,D,U,V,aa⟩:=id s;have ab:=kr l 6;have ac:=kx l 6;have i:=q;have u:=s;have E:=X l;have F:=C;cases B with
 |nil=>
  go_enter func78,ntmps78
  go_wp2;go_ret;exact⟨0,r,Z,i,lC _ _⟩
 |cons c b=>
  obtain⟨a,o,ad,rfl,ae,G,I⟩:=u.ll qO.ok 0 c Z;have af:w.cell? ⟨a,o,none⟩=some (.int .u8 (c.toNat:Int)):=by have:=I 0 (.int .u8 (c.toNat:Int)) (by rw[G];rfl);simpa using this
  have e:=u.tail qO.ok;have v:=e;have ag:c.toNat<256:=UInt8.toNat_lt c;have ah:b.length+1<=t:=(by simpa using D);have J:c.toNat % n<n:=Tv _ r;have K:∀f g,kz qO S w (.slice f b.length g) b->nT S d k left n w (.returned<|.int .i64<|(c.toNat:Int) % (n:Int)) (w.setCell ⟨d,6,none⟩<|.slice f b.length g):=λf g L=>by have x:=kE w d 6<|.slice f b.length g;have y:∀a,S a->(w.setCell ⟨d,6,none⟩<|.slice f b.length g).heap[a]?=w.heap[a]?:=λa j=>x.B a (i.lJ a j).2 (λM=>(i.lJ a j).1<|by injection M);exact⟨c.toNat % n,J,by rw[Int.natCast_emod],⟨⟨A,.slice f b.length g,b,kt E.o,F.ku qs.ok y,L.ku qO.ok y⟩,λa j=>⟨(i.lJ a j).1,by rw[QW];exact(i.lJ a j).2⟩⟩,x⟩
  have z:=K;by_cases m:t=1
  .have e:=v;rw[RG m]at e;have p:=e;subst m;obtain rfl:b=[]:=RP Y;have N:kz qO S w (.slice (mw a o) 0 0) []:=p;have O:=N
   go_enter func78,ntmps78
   go_wp2;go_ret;exact z _ _ O
  have e:=v;rw[Rl m]at e;have p:=e
  go_enter func78,ntmps78
  go_wp2;go_ret;exact z _ _ p
def kS.cells{S w}{a:Nat}{b}{left:Nat}(d:kS S w a b left):w.cell? a=some (.int .i64 b.ints)/\w.cell? ⟨a,1,none⟩=some (.int .i64 b.kZ)/\w.cell? ⟨a,2,none⟩=some (.int .i64 b.kN)/\w.cell? ⟨a,3,none⟩=some (.int .i64 b.own)/\w.cell? ⟨a,5,none⟩=some (.int .i64 b.params)/\w.cell? ⟨a,7,none⟩=some (.int .i64 left):=by have⟨e,f,g,c,_⟩:=d.ll;exact⟨kr c 0,kr c 1,kr c 2,kr c 3,kr c 5,kr c 7⟩
def ky{d b e:World}{c:Option Nat}(a:d.grownBy b c)(k:b.grownBy e c):d.grownBy e c:=
 ⟨k.os.T a.os,k.tape.T a.tape,k.output.T a.output,Q8 a.size k.size,λf g i=>(k.B f (QR g a.size) i).T<|a.B f g i⟩
def kK{c b:World}(a:c.grownBy b none)(d:Option Nat):c.grownBy b d:=⟨a.os,a.tape,a.output,a.size,λe f _=>a.B e f Us⟩
def FM(b c:World)(d:Nat):Nat->Prop:=λa=>b<=a/\a<c/\a≠d
def nA(S:Nat->Prop)(b:Nat)(c:Sc)(left d:Nat)(w:World)(m:Ending)(a:World):Prop:=
 ∃(e f:Int) (g:List UInt8) (i:Option Addr) (j k:Nat) (l:Ex),m=.returned (.agg #[.int .i64 e,tx g,f,(i,j,k)])/\kP .i64 d (FM w a b) a [.int .i64 e,tx g,f,(i,j,k)] l/\lM c d l/\kS S a b c left/\w.grownBy a (some b)
def kS.mE{d w}{c:Nat}{g}{left:Nat}(e:kS d w c g left){zQ i:Nat}{u}(k:zQ≠c)(j:∀b,d b->b≠zQ):kS d (w.setCell ⟨zQ,i,none⟩ u) c g left:=by have⟨l,m,n,a,p,q⟩:=e.ll;have f:∀b,b≠zQ->(w.setCell ⟨zQ,i,none⟩ u).heap[b]?=w.heap[b]?:=λb a=>Q5 _ _ _ _ a;exact⟨⟨l,m,n,(f c λr=>k r.symm).T a,p.ku qs.ok λb a=>f b<|j b a,q.ku qO.ok λb a=>f b<|j b a⟩,λb a=>⟨(e.lJ b a).1,by rw[QW];exact(e.lJ b a).2⟩⟩
def nd{b c:World}{d:Option Nat}(a:b.grownBy c d){f:Nat}{g:Value}:b.grownBy (c.setCell ⟨b,f,none⟩ g) d:=
 ⟨a.os,a.tape,a.output,by rw[QW];exact a.size,λe i j=>(Q5 _ _ _ _<|by show e≠b;omega).T<|a.B e i j⟩
def kz.mE{d:Type}{a:Rel d}{f:Nat}(ok:lh a f){c w v}{e:List d}(g:kz a c w v e){zQ i:Nat}{u}(j:∀b,c b->b≠zQ):kz a c (w.setCell ⟨zQ,i,none⟩ u) v e:=
 g.ku ok λb k=>Q5 _ _ _ _<|j b k
abbrev mT(a b c d e f):=(#[.int .i64 a,tx b,c,.slice d e f]:Array Go.Value)
def oq{f}{e:Nat}{l}{left d:Nat}{b c}{op n:Int}{name:List UInt8}{m:Option Addr}{p q:Nat}{args:List Ex}(r:kS f c e l left)(s:b.grownBy c<|some e)(A:e<b.heap.size)(t:∀a,f a->a<b.heap.size)
  (u:kz (kP .i64 d) (λa=>b.heap.size<a/\a<c) c (.slice m p q) args) (v:lM l (d+1)<|.mk op name n args) (w x y z:Value):
  nA f e l left (d+1) b (.returned<|.agg<|mT op name n m p q) ((((c.setCell b w).setCell ⟨b,1,none⟩ x).setCell ⟨b,2,none⟩ y).setCell ⟨b,3,none⟩ z):=by
 have g:b≠e:=Y
 have i:∀a,f a->a≠b:=λa j=>W<|t a j
 have k:∀a,(b.heap.size<a/\a<c)->a≠b:=λa j=>Y
 refine⟨op,n,name,m,p,q,.mk op name n args,Z,⟨_,Z,?_⟩,v,(((r.mE g i).mE g i).mE g i).mE g i,nd<|nd<|nd<|nd s⟩;refine((((u.mE (kP.ok _ _) k).mE (kP.ok _ _) k).mE (kP.ok _ _) k).mE (kP.ok _ _) k).M (kP.ok _ _) λa j=>⟨Y,by simp only[QW];exact j.2,Y⟩
def qV{g:Nat->Prop}{e:Nat}{i:Sc}{left d:Nat}{a b:World}{o:Obj}{op n:Int}{name:List UInt8}{j:Option Addr}{k l:Nat}{args:List Ex}(f:a.heap.size<b)(t:kS g (b.alloc o) e i left)(u:a.grownBy (b.alloc o)<|some e)(v:e<a)(w:∀c,g c->c<a)
  (x:kz (kP .i64 d) (λc=>a<c/\c<(b.alloc o).heap.size) (b.alloc o) (.slice j k l) args) (y:lM i (d+1)<|.mk op name n args) (m p q r:Value):
  nA g e i left (d+1) a (.returned<|.agg<|mT op name n j k l) (((((b.setCell a m).setCell ⟨a,1,none⟩ p).setCell ⟨a,2,none⟩ q).setCell ⟨a,3,none⟩ r).alloc o):=by
 have s:=oq t u v w x y m p q r;rw[RI o _ _ _ f,RI o _ _ _ (by rw[QW];exact f),RI o _ _ _ (by simp only[QW];exact f),RI o _ _ _<|by simp only[QW];exact f]at s;exact s
def kL{w:World}{b:Nat}{c d e f:Value}{g:TypeId}(a:w.heap[b]?=some (.cells #[c,d,e,f] g)):
  (w.cell? b=some c/\w.cell? ⟨b,1,none⟩=some d/\w.cell? ⟨b,2,none⟩=some e/\w.cell? ⟨b,3,none⟩=some f)/\(w.frozen? ⟨b,0,none⟩=false/\w.frozen? ⟨b,1,none⟩=false/\w.frozen? ⟨b,2,none⟩=false/\w.frozen? ⟨b,3,none⟩=false):=
 ⟨⟨kr a 0,kr a 1,kr a 2,kr a 3⟩,kx a 0,kx a 1,kx a 2,kx a 3⟩
def New(w b:World):Nat->Prop:=λa=>w<a/\a<b
structure pW(S:Nat->Prop)(mb:Nat)(sc:Sc)(left:Nat)(T:TypeId)(cs:Array Value)(w wx:World):Prop where
 hz:wx.heap[w.heap.size]?=some (.cells cs T (0,0))
 hm:kS S wx mb sc left
 hg:w.grownBy wx<|some mb
 yh:mb<w
 hS:∀b,S b->b<w
def pW.lt{S}{b:Nat}{c}{left:Nat}{T d w a}(e:pW S b c left T d w a):w.heap.size<a:=(QS.1 e.hz).1
def pW.call{S}{b:Nat}{c}{left left':Nat}{T e w f d}(a:pW S b c left T e w f)(j:kS S d b c left')(g:f.grownBy d<|some b):pW S b c left' T e w d:=
 ⟨(g.B w a.lt (λi=>by injection i with i;have:=a.yh;omega)).T a.hz,j,ky a.hg g,a.yh,a.hS⟩
def pW.grow{S}{a:Nat}{b}{left:Nat}{T c w d e}(f:pW S a b left T c w d)(g:d.grownBy e none):pW S a b left T c w e:=
 f.call (f.hm.ku g) (kK g _)
def pW.alloc{S}{b:Nat}{c}{left:Nat}{T d w a}(e:pW S b c left T d w a)(o):pW S b c left T d w (a.alloc o):=e.grow<|QX a o none
def pW.drew{S}{b:Nat}{c}{left:Nat}{T d w a}(e:pW S b c left T d w a):pW S b c left T d w a.drew:=e.grow<|kC (Below.refl a a).drew
def lz(b o a:Nat):(⟨b,o,none⟩:Addr).add a=⟨b,o+a,none⟩:=by
 unfold Addr.add;split
 rename_i c;subst c;rfl
 rfl
def kz.cells{j:Type}{e:Rel j}{k:Nat}(ok:lh e k){S w l}{n m:Nat}{f:List j}(c:kz e S w (.slice (some l) n m) f):
  ∃b:List<|List Value,f.length=n/\n<=m/\b.flatten.length=n*k/\lu (e S w) b f/\(∀d u,b.flatten[d]?=some u->w.cell? (l.add d)=some u)/\(∀u∈b.flatten,u.oneCell'=true):=by
 have⟨z,A,b,a,p,B,q,g⟩:=c;injection a with r s t;subst r s t;refine⟨b,Z,p,lu.flat (λv x c=>ok.len c) g,g,λd u i=>?_,lu.one (λv x c=>ok.one c) g⟩;have⟨C,o,a,_,y⟩:=q (by intro a;rw[a]at i;simp at i);injection a with a;subst a;rw[lz];exact y d u i
def Good(c d:Nat)(w b:World):Prop:=w.heap.size<=b/\∀a,a<w.heap.size->a≠c->a≠d->b.heap[a]?=w.heap[a]?
def Good.lA{a c:Nat}{w w'}(b:w.grownBy w'<|some a):Good a c w w':=⟨b.size,λd e f _=>b.B d e λg=>f<|by injection g⟩
def Good.pL{c d:Nat}{w a}(b:w.grownBy a none):Good c d w a:=⟨b.size,λe f _ _=>b.B e f Us⟩
def Good.alloc{a z:Nat}(w o):Good a z w<|w.alloc o:=.pL<|QX w o none
def Good.T{c z:Nat}{a b e}(d:Good c z a b)(k:Good c z b e):Good c z a e:=⟨Q8 d.1 k.1,λf g i j=>(k.2 f (QR g d.1) i j).T<|d.2 f g i j⟩
def uP(S:Nat->Prop)(a:Nat)(b:Sc)(left:Nat)(T:TypeId)(c w:World):Prop:=∃d e f g i j,pW S a b left T #[d,e,f,g,i,j] c w
def uP.grow{S}{b:Nat}{c}{left:Nat}{T w0 w d}(a:uP S b c left T w0 w)(e:w.grownBy d none):uP S b c left T w0 d:=by have⟨f,g,i,j,k,l,a⟩:=a;exact⟨f,g,i,j,k,l,a.grow e⟩
def uP.call{S}{a:Nat}{b}{left left':Nat}{T w0 w c}(d:uP S a b left T w0 w)(e:kS S c a b left')(f:w.grownBy c<|some a):uP S a b left' T w0 c:=by have⟨g,i,j,k,l,m,d⟩:=d;exact⟨g,i,j,k,l,m,d.call e f⟩
def uP.m{S}{c:Nat}{d}{left:Nat}{T w0 w}(a:uP S c d left T w0 w):kS S w c d left/\c<w0/\w0.heap.size<w/\(∀b,S b->b<w0/\b≠c):=by have⟨f,g,i,j,k,l,a⟩:=a;exact⟨a.hm,a.yh,a.lt,λb e=>⟨a.hS b e,(a.hm.lJ b e).1⟩⟩
structure lI.Cd where
 params:Nat
 bytes:List UInt8
instance:Inhabited Cd:=⟨⟨0,[]⟩⟩
def lI.FN(d:Sc)(e:List Nat)(c:Nat)(a:Hd):Prop:=∃b,e[c]?=some b/\a.name=nm 104 c/\a.params=qN 112 b/\(∀f∈a.body,mP {d with params:=b} Ds f)/\kT Ds a.body<=12
def lI.tr(c:Sc)(d:List Nat)(e:List Hd):Prop:=∀a b,e[a]?=some b->FN c d a b
def qu:Rel Cd:=λc d e a=>∃b,e=[.int .u8 (a.params:Int),b]/\kz qO c d b a.bytes
def qu.ok:lh qu 2:=
 ⟨Y,λ⟨b,a,_⟩=>by rw[a];rfl,λ⟨b,a,c⟩ g d=>by rw[a]at d;simp at d;rcases d with rfl|rfl;rfl;exact c.one,λ⟨b,a,c⟩ e=>⟨b,a,c.M qO.ok e⟩,λ⟨b,a,c⟩ f=>⟨b,a,c.ku qO.ok f⟩⟩
def lu.take{b:Type}{c:List Value->b->Prop}:∀{d:List<|List Value} {xs:List b} (a:Nat),lu c d xs->lu c (d.take a) (xs.take a)
 |[],[],a,_=>by simp;trivial
 |_::_,_::_,0,_=>trivial
 |_::_,_::_,a+1,⟨h1,h2⟩=>⟨h1,lu.take a h2⟩
 |[],_::_,_,a=>a.elim
 |_::_,[],_,a=>a.elim
def kz.take{e:Type}{f:Rel e}{S w c}{g d:Nat}{xs:List e}(l:kz f S w (.slice c g d) xs)(m:Nat)(i:m<=g):kz f S w (.slice c m d)<|xs.take m:=by
 have⟨B,C,b,a,D,n,p,q⟩:=l;injection a with r s t;subst r s t;refine⟨c,d,b.take m,by rw[Ro,Tf i],by rw[Ro,Tf i];omega,n,λu=>?_,lu.take m q⟩;have j:b.flatten=(b.take m).flatten++(b.drop m).flatten:=by rw[<-Te,SE]
 have⟨v,o,a,x,y⟩:=p (by rw[j];intro a;exact u (List.append_eq_nil_iff.1 a).1);refine⟨v,o,a,x,λz A k=>y z A ?_⟩;rw[j,RR (Rg.1 k).1];exact k
def qu.ll{S w e}{j k i:Nat}{l a}(m:kz qu S w (.slice e j k) l)(n:l[i]?=some a):
  ∃b o c d,e=some ⟨b,o,none⟩/\S b/\w.cell? ⟨b,o+i*2,none⟩=some (.int .u8 (a.params:Int))/\w.cell? ⟨b,o+i*2+1,none⟩=some (.slice c a.bytes.length d)/\kz qO S w (.slice c a.bytes.length d) a.bytes:=by
 have⟨b,o,s,p,q,⟨t,r,f⟩,g⟩:=m.ll qu.ok i a n;obtain⟨c,d,u,rfl,_⟩:=id f;subst r;exact⟨b,o,c,d,p,q,by simpa using g 0 _ Z,g 1 _ Z,f⟩
def NG(w0 w b:World):Prop:=w.heap.size<=b/\∀a,New w0 w a->b.heap[a]?=w.heap[a]?
def NG.lA{w0 w w' a}(b:w.grownBy w' a)(f:∀c,a=some c->c<=w0.heap.size):NG w0 w w':=⟨b.size,λd e=>b.B d e.2 λg=>Up (f d g.symm) e.1⟩
def NG.alloc(w0 w o):NG w0 w<|w.alloc o:=.lA (QX w o none) (λb a=>by cases a)
def qB(f:Nat->Prop)(a:Nat)(g:Sc)(d:Value)(i:List Hd)(c:Nat)(j:Int)(k:Option Addr)(l m:Nat)(w b:World):Prop:=
 w.grownBy b (some a)/\kJ (mv .i64) 107 3 (λe=>w<=e/\e≠a) b w d i/\b.heap[c]?=some (.cells #[.int .u8 j,(k,l,m)] 80)/\c≠a/\some c≠d.ownBlock/\(∃n left,kS f b a {g with params:=n} left)
def qB.call{S}{a:Nat}{c i j}{d:Nat}{k:Int}{l}{n m:Nat}{w q e}(f:qB S a c i j d k l n m w q)(A:a<w){p left:Nat}(u:kS S e a {c with params:=p} left)(g:q.grownBy e<|some a):qB S a c i j d k l n m w e:=by
 have⟨v,r,s,t,x,_⟩:=f;have y:=r.ge;exact⟨ky v g,r.grown (mv.ok _) g (λB b=>by injection b with b;subst b;exact⟨λf=>f.2 Z,λz=>W<|y a z.symm⟩),
  (g.B d (QS.1 s).1 λb=>t<|by injection b).T s,t,x,p,left,u⟩
def qB.grow{S}{a:Nat}{b c d}{e:Nat}{f:Int}{g}{n i:Nat}{w j k}(l:qB S a b c d e f g n i w j)(p:a<w)(m:j.grownBy k none):qB S a b c d e f g n i w k:=by have⟨r,left,q⟩:=l.2.2.2.2.2;exact l.call p (q.ku m)<|kK m _
structure lI.Pt where
 ints:Nat
 kZ:Nat
 hs:List Cd
 ss:List Cd
instance:Inhabited Pt:=⟨⟨0,0,[],[]⟩⟩
def lI.A9(b:Pt)(a:Nat):List Nat:=if a<b.hs.length then [(b.hs.getD a default).params % 3]else if a=0 then [1]else if a<b.ss.length then [(b.ss.getD a default).params % 3]else []
def lI.sf(p:Pt):Nat->List Nat
 |0=>[]
 |k+1=>sf p k++A9 p k
def uh:Rel Pt:=λb c f a=>∃d e,f=[.int .u8 (a.ints:Int),.int .u8 (a.kZ:Int),d,e]/\kz qu b c d a.hs/\kz qu b c e a.ss
def uh.ok:lh uh 4:=
 ⟨Y,λ⟨b,c,a,_⟩=>by rw[a];rfl,λ⟨b,c,a,d,e⟩ j f=>by rw[a]at f;simp at f;rcases f with rfl|rfl|rfl|rfl;rfl;rfl;exact d.one;exact e.one,λ⟨b,c,a,d,e⟩ g=>⟨b,c,a,d.M qu.ok g,e.M qu.ok g⟩,λ⟨b,c,a,d,e⟩ i=>⟨b,c,a,d.ku qu.ok i,e.ku qu.ok i⟩⟩
def lI.rD(d:Nat)(a:List Fg):Prop:=a.length=d/\∀b c,a[b]?=some c->c.name=nm 102 b
def lI.nQ(b e:Nat)(d:List Lk):Prop:=(∀a∈d,∃c,c<e/\c<b*b/\a.a=kV (c/b)/\a.b=kV (c % b)/\1<=a.tF/\a.tF<=3)/\(d.map λa=>(a.a,a.b)).Nodup
def lI.ny(b c:Nat):List Va:=(List.range b).map (λa=>⟨nm 120 a,1,a⟩)++[⟨nm 98 0,2,0⟩]++(List.range c).map (λa=>⟨nm 116 a,3,0⟩)
def lI.qP(a b c:Nat)(d:List<|List Nat)(i:Nat):Sc:=⟨b,c,a,0,d,i⟩
def lI.NA(c:Sc)(b:List Nat)(a:List Hd):Prop:=1<=a.length/\a.length<=b.length/\tr c b a
structure lI.yo(nf:Nat)(oa:List<|List Nat)(i:Nat)(c:Co):Prop where
 ex:∃ints kZ al,1<=ints/\ints<=3/\kZ<=1/\c.name=kV i/\c.vars=ny ints kZ/\1<=c.lH.length/\c.lH.length<=2/\oa[i]?=some al/\(∀hs∈c.lH,NA (qP nf ints kZ oa i) al hs)/\(∃hs∈c.lH,hs.length=al.length)
structure lI.tS(f:Fl):Prop where
 ex:∃nf oa,f.name=[102,108,101,101,116,49]/\nf<=2/\rD nf f.kN/\1<=oa.length/\oa.length<=3/\(∀l∈oa,1<=l.length/\l.length<=3/\∀a∈l,a<=2)/\nQ oa.length (oa.length*oa.length) f.mj/\f.kF.length=oa.length/\∀i c,f.kF[i]?=some c->yo nf oa i c
def lI.nQ.skip{b m:Nat}{c}(a:nQ b m c):nQ b (m+1) c:=⟨λd e=>by have⟨f,g,a⟩:=a.1 d e;exact⟨f,Y,a⟩,a.2⟩
def Lq(b c:Nat):Nat->Prop:=λa=>b<a/\a<c
def uh.ll{S w j}{q r i:Nat}{l a}(s:kz uh S w (.slice j q r) l)(t:l[i]?=some a):
  ∃b o c k d e m f,j=some ⟨b,o,none⟩/\S b/\w.cell? ⟨b,o+i*4,none⟩=some (.int .u8 (a.ints:Int))/\w.cell? ⟨b,o+i*4+1,none⟩=some (.int .u8 (a.kZ:Int))/\w.cell? ⟨b,o+i*4+2,none⟩=some (.slice c k d)/\w.cell? ⟨b,o+i*4+3,none⟩=some (.slice e m f)/\
   kz qu S w (.slice c k d) a.hs/\kz qu S w (.slice e m f) a.ss:=by
 have⟨b,o,y,u,v,⟨z,A,x,n,p⟩,g⟩:=s.ll uh.ok i a t;obtain⟨c,d,_,rfl,_⟩:=id n;obtain⟨e,f,_,rfl,_⟩:=id p;subst x;exact⟨b,o,c,_,d,e,_,f,u,v,by simpa using g 0 _ Z,g 1 _ Z,g 2 _ Z,g 3 _ Z,n,p⟩
def kS.M{S a w}{c:Nat}{d}{left:Nat}(f:kS S w c d left)(e:∀b,S b->a b)(g:∀b,a b->b≠c/\b<w):kS a w c d left:=by have⟨i,j,k,l,m,n⟩:=f.ll;exact⟨⟨i,j,k,l,m.M qs.ok e,n.M qO.ok e⟩,g⟩
def kz.len{a:Type}{c:Rel a}{S w d}{n b:Nat}{xs:List a}(e:kz c S w (.slice d n b) xs):xs.length=n/\n<=b:=by have⟨k,l,m,f,g,_⟩:=e;injection f with _ i j;subst i j;exact⟨Z,g⟩
structure Kp(mb cb:Nat)(w w':World):Prop where
 os:w'.os=w.os
 tape:w'.tape=w.tape
 output:w'.output=w.output
 size:w.heap.size<=w'
 B:∀b,b<w.heap.size->b≠mb->b≠cb->w'.heap[b]?=w.heap[b]?
def Kp.refl(a cb:Nat)(w):Kp a cb w w:=⟨Z,Z,Z,QZ _,λ_ _ _ _=>Z⟩
def Kp.T{d cb:Nat}{a b e}(c:Kp d cb a b)(k:Kp d cb b e):Kp d cb a e:=⟨k.os.T c.os,k.tape.T c.tape,k.output.T c.output,Q8 c.size k.size,λf g i j=>(k.B f (QR g c.size) i j).T<|c.B f g i j⟩
def Kp.lA{b c:Nat}{w w'}(a:w.grownBy w'<|some b):Kp b c w w':=⟨a.os,a.tape,a.output,a.size,λd e f _=>a.B d e λg=>f<|by injection g⟩
abbrev mM:List UInt8:=[102,108,101,101,116,49]
structure Ni(S:Nat->Prop)(B z:Nat)(w0 wx:World)(n:Nat)(parts:List Pt)(Af:Option Addr)(nf cf:Nat)(Ak:Option Addr)(nk ck:Nat)(uN:List Fg)(JW:List Lk)(oa:List<|List Nat)(A4:Option Addr)(c4:Nat)(P4:Option Addr)(c10 b8 o8:Nat):Prop where
 hz:wx.heap[z]?=some (.cells #[Em,Nl,Nl,Nl] 36)
 hF:wx.heap[B]?=some (.cells #[tx mM,(Af,nf,cf),(Ak,nk,ck),Nl] 36)
 zB:w0<=z/\z<B
 rb:Below w0 w0 wx
 JT:kz uh S wx (A4,n,c4) parts
 hS:∀b,S b->b<B/\b≠z
 n1:1<=n
 n3:n<=3
 Nr:kz mH (Lq B wx) wx (Af,nf,cf) uN
 Ns:rD nf uN
 f2:nf<=2
 Ox:kz nV (Lq B wx) wx (Ak,nk,ck) JW
 Oy:nQ n (n*n) JW
 PO:kz qs (Lq B wx) wx (P4,n,c10) oa
 Oz:oa=parts.map λp=>sf p 3
 h8:∀j,j<3->wx.cell? ⟨b8,o8+j,none⟩=some (tx<|kV j)
 b8:B<b8/\b8<wx
def Ni.len{S}{B e:Nat}{w0 b}{n:Nat}{c f}{g i:Nat}{j}{k l:Nat}{m p d q}{r:Nat}{s}{t u v:Nat}(a:Ni S B e w0 b n c f g i j k l m p d q r s t u v):c.length=n/\d.length=n/\B<b:=
 ⟨a.JT.len.1,a.PO.len.1,(QS.1 a.hF).1⟩
structure N9(S:Nat->Prop)(B z:Nat)(w0 wx:World)(n:Nat)(parts:List Pt)(Af:Option Addr)(nf cf:Nat)(Ak:Option Addr)(nk ck:Nat)(uN:List Fg)(JW:List Lk)(A4:Option Addr)(c4 b8 o8:Nat):Prop where
 hz:wx.heap[z]?=some (.cells #[Em,Nl,Nl,Nl] 36)
 hF:wx.heap[B]?=some (.cells #[tx mM,(Af,nf,cf),(Ak,nk,ck),Nl] 36)
 zB:w0<=z/\z<B
 rb:Below w0 w0 wx
 JT:kz uh S wx (A4,n,c4) parts
 hS:∀b,S b->b<B/\b≠z
 n1:1<=n
 n3:n<=3
 Nr:kz mH (Lq B wx) wx (Af,nf,cf) uN
 Ns:rD nf uN
 f2:nf<=2
 Ox:kz nV (Lq B wx) wx (Ak,nk,ck) JW
 Oy:nQ n (n*n) JW
 h8:∀j,j<3->wx.cell? ⟨b8,o8+j,none⟩=some (tx<|kV j)
 b8:B<b8/\b8<wx
structure PQ(S:Nat->Prop)(B bx cb mb:Nat)(wx wy:World)(k:Nat)(pi pt:Nat)(A1:Option Addr)(n1 c1:Nat)(A2:Option Addr)(n2 c2:Nat)(Af:Option Addr)(nf cf:Nat)(Ak:Option Addr)(nk ck:Nat)(A:Option Addr)(cp:Nat)(cs:List Co)(Av:Option Addr)(nv cv ni nt:Nat)(oa:List<|List Nat)(Aq:Option Addr)(nq cq:Nat)(lq ss:List Cd)(al:List Nat):Prop where
 Nj:wy.heap[bx]?=some (.cells #[.int .u8 (pi:Int),.int .u8 (pt:Int),(A1,n1,c1),(A2,n2,c2)] 61)
 P5:wy.heap[cb]?=some (.cells #[tx<|kV k,(Av,nv,cv),Nl] 74)
 hF:wy.heap[B]?=some (.cells #[tx mM,.slice Af nf cf,(Ak,nk,ck),.slice A k cp] 36)
 ord:B<wx/\wx<=bx/\bx<cb/\cb<mb/\mb<wy
 hg:wx.grownBy wy<|some B
 ho:kJ (mn .i64) 74 3 (λb=>wx<=b/\b<bx) wy wx (.slice A k cp) cs
 P6:cs.length=k
 hk:k<3
 OA:∀z,(Value.slice A k cp).ownBlock=some z->z<bx
 OB:kS S wy mb (qP nf ni nt oa k) 0
 LJ:oP<|qP nf ni nt oa k
 OC:oa[k]?=some al
 hq:kz qu S wy (Aq,nq,cq) lq
 q1:1<=nq
 q2:nq<=al.length
 Oa:kz qu S wy (A2,n2,c2) ss
 s2:min n2 3<=al.length
 hm:nq=al.length\/min n2 3=al.length
 hv:kz (og .i64) (λb=>cb<b/\b<wy/\b≠mb) wy (Av,nv,cv)<|ny ni nt
 O0:∀b,S b->b≠cb
def lf{w:World}{b:Nat}{c d e:Value}{f:TypeId}(a:w.heap[b]?=some (.cells #[c,d,e] f)):
  (w.cell? b=some c/\w.cell? ⟨b,1,none⟩=some d/\w.cell? ⟨b,2,none⟩=some e)/\(w.frozen? ⟨b,0,none⟩=false/\w.frozen? ⟨b,1,none⟩=false/\w.frozen? ⟨b,2,none⟩=false):=
 ⟨⟨kr a 0,kr a 1,kr a 2⟩,kx a 0,kx a 1,kx a 2⟩
structure Ob(S:Nat->Prop)(B z bp:Nat)(w0 wx:World)(n:Nat)(parts:List Pt)(fb:Nat)(Al:Option Addr)(nl cl:Nat)(OH:List UInt8)(Ac:Option Addr)(nc cc:Nat)(Af:Option Addr)(nf cf:Nat)(uN:List Fg)(A4:Option Addr)(c4 b8 o8:Nat):Prop where
 hz:wx.heap[z]?=some (.cells #[Em,Nl,Nl,Nl] 36)
 hF:wx.heap[B]?=some (.cells #[tx mM,(Af,nf,cf),Nl,Nl] 36)
 Nk:wx.heap[bp]?=some (.cells #[.int .u8 (fb:Int),(Al,nl,cl),(Ac,nc,cc)] 25)
 Oc:bp<z
 zB:w0<=z/\z<B
 rb:Below w0 w0 wx
 JT:kz uh S wx (A4,n,c4) parts
 Od:kz qO S wx (Al,nl,cl) OH
 hS:∀b,S b->b<B/\b≠z
 n1:1<=n
 n3:n<=3
 Nr:kz mH (Lq B wx) wx (Af,nf,cf) uN
 Ns:rD nf uN
 f2:nf<=2
 h8:∀j,j<3->wx.cell? ⟨b8,o8+j,none⟩=some (tx<|kV j)
 b8:B<b8/\b8<wx
structure B6(S:Nat->Prop)(B z bp:Nat)(w0 wx:World)(n:Nat)(parts:List Pt)(fb:Nat)(Al:Option Addr)(nl cl:Nat)(OH:List UInt8)(Ac:Option Addr)(nc cc:Nat)(A4:Option Addr)(c4:Nat):Prop where
 hz:wx.heap[z]?=some (.cells #[Em,Nl,Nl,Nl] 36)
 hF:wx.heap[B]?=some (.cells #[tx mM,Nl,Nl,Nl] 36)
 Nk:wx.heap[bp]?=some (.cells #[.int .u8 (fb:Int),(Al,nl,cl),(Ac,nc,cc)] 25)
 Oc:bp<z
 zB:w0<=z/\z<B
 rb:Below w0 w0 wx
 JT:kz uh S wx (A4,n,c4) parts
 Od:kz qO S wx (Al,nl,cl) OH
 hS:∀b,S b->b<B/\b≠z
 n1:1<=n
 n3:n<=3
def lI.C8:Nat->Ex->Prop
 |0,_=>False
 |d+1,e=>1<=e.op/\e.op<=255/\e.args.length<=2/\∀a∈e.args,C8 d a
def lI.uQ:Nat->St->Prop
 |0,_=>False
 |d+1,s=>1<=s.kind/\s.kind<=255/\s.lp.length<=3/\s.th.length<=12/\s.el.length<=12/\(∀b∈s.lp,C8 De b)/\(∀a∈s.th,uQ d a)/\∀a∈s.el,uQ d a
def lI.lM.ops{j}:∀{d:Nat} {g:Ex},lM j d g->C8 d g
 |0,_,h=>h.elim
 |d+1,g,h=>by
  rcases h with⟨c,_,_,_,a⟩|⟨c,_,_,a⟩|⟨c,_,_,a⟩|⟨c,_,_,_,i,a,e⟩|⟨c,_,_,_,a⟩|⟨c,_,_,i,a,e⟩|⟨c,_,_,i,b,a,e,k⟩
  all_goals
   refine⟨Y,Y,by rw[a];simp,λl f=>?_⟩;rw[a]at f;simp at f
  rw[f];exact lM.ops e;rw[f];exact lM.ops e;rcases f with rfl|rfl;exact lM.ops e;exact lM.ops k
def lI.nz.ops{k}:∀{d:Nat} {g:Ex},nz k d g->C8 d g
 |0,_,h=>h.elim
 |d+1,g,h=>by
  rcases h with⟨f,_,_,a⟩|⟨f,_,_,a⟩|⟨f,_,_,_,i,a,c⟩|⟨f,_,_,i,a,c⟩|⟨f,_,_,i,b,a,c,j⟩|⟨f,_,_,i,b,a,c,j⟩
  all_goals
   refine⟨Y,Y,by rw[a];simp,λl e=>?_⟩;rw[a]at e;simp at e
  rw[e];exact lM.ops c;rw[e];exact nz.ops c;rcases e with rfl|rfl;exact nz.ops c;exact nz.ops j;rcases e with rfl|rfl;exact lM.ops c;exact lM.ops j
def lI.qj{d:Nat}:∀{l:List St} {n:Nat},kT (d+1) l<=n->l.length<=n/\∀s∈l,kT d s.th<=n/\kT d s.el<=n
 |[],n,_=>⟨by simp,λs a=>by simp at a⟩
 |s::l,n,h=>by have e:1+kT d s.th+kT d s.el+kT (d+1) l<=n:=(by simpa[kT]using h);have⟨f,b⟩:=qj (d:=d) (l:=l) (n:=n-1) Y;refine⟨Uw,λc hx=>?_⟩;rcases List.mem_cons.1 hx with rfl|hx;omega;have:=b c hx;omega
def lI.xc{d:Nat}{a}{c:Nat}{e}(f:kT d a<=c)(g:∀b∈a,mP e d b):a.length<=c:=by
 cases d with
 |zero=>
  cases a with
  |nil=>simp
  |cons b a=>exact(g b Us).elim
 |succ d=>exact(qj f).1
def lI.mP.ops{s}:∀{d:Nat} {e:St},mP s d e->(kT (d-1) e.th<=12/\kT (d-1) e.el<=12)->s.oa.length<=3->(∀t∈s.oa,∀i∈t,i<=2)->uQ d e
 |0,_,m,_,_,_=>m.elim
 |d+1,e,m,hc,h3,h2=>by
  have B:(∀f∈e.th,mP s d f)->e.th.length<=12/\∀f∈e.th,uQ d f:=λc=>by
   refine⟨xc hc.1 c,λf a=>mP.ops (c f a) ?_ h3 h2⟩;cases d with
   |zero=>exact(c f a).elim
   |succ d=>exact(qj hc.1).2 f a
  have u:(∀f∈e.el,mP s d f)->e.el.length<=12/\∀f∈e.el,uQ d f:=λc=>by
   refine⟨xc hc.2 c,λf a=>mP.ops (c f a) ?_ h3 h2⟩;cases d with
   |zero=>exact(c f a).elim
   |succ d=>exact(qj hc.2).2 f a
  have p:e.th=[]->e.th.length<=12/\∀f∈e.th,uQ d f:=λq=>(by rw[q];simp);have r:e.el=[]->e.el.length<=12/\∀f∈e.el,uQ d f:=λq=>(by rw[q];simp);have l:1<=e.kind->e.kind<=255->e.lp.length<=3->(∀q∈e.lp,C8 De q)->(e.th.length<=12/\∀f∈e.th,uQ d f)->(e.el.length<=12/\∀f∈e.el,uQ d f)->uQ (d+1) e:=λi v D q w C=>⟨i,v,D,w.1,C.1,q,w.2,C.2⟩
  rcases m with⟨n,_,c,g,q,a,m⟩|⟨n,_,_,_,c,g,i,v,a,j,x⟩|⟨n,_,_,_,c,g,i,a,j⟩|⟨n,_,_,⟨i,a,j⟩,c,g⟩|⟨n,_,_,g,⟨i,a,j⟩,c⟩|⟨n,c,g,⟨w,t,E,i,y,z,_,_,A⟩,a⟩|⟨n,_,c,g,⟨t,E,i,y,z,_,A⟩,a⟩|⟨n,_,_,c,⟨i,v,a,j,x⟩,g⟩|⟨n,_,c,_,⟨i,a,j⟩,g⟩|⟨n,_,_,c,g,a⟩
  exact l Y Y (by rw[a];simp) (λk b=>by rw[a]at b;simp at b;subst b;rcases m with⟨_,_,_,m⟩|⟨_,m⟩;exact m.ops;exact m.ops) (p c)<|r g;exact l Y Y (by rw[a];simp) (λk b=>by rw[a]at b;simp at b;rcases b with rfl|rfl;exact j.ops;exact x.ops) (p c)<|r g;exact l Y Y (by rw[a];simp) (λk b=>by rw[a]at b;simp at b;subst b;exact j.ops) (p c)<|r g;exact l Y Y (by rw[a];simp) (λk b=>by rw[a]at b;simp at b;subst b;exact j.ops) (B c)<|u g;exact l Y Y (by rw[a];simp) (λk b=>by rw[a]at b;simp at b;subst b;exact j.ops) (B c)<|r g;exact l Y Y (by rw[A];have:=h2 t (List.mem_of_getElem? y) i<|List.mem_of_getElem? z;omega) (λk b=>(a k b).ops) (p c)<|r g;exact l Y Y (by rw[A];have:=h2 t (List.mem_of_getElem? y) i<|List.mem_of_getElem? z;omega) (λk b=>(a k b).ops) (p c)<|r g;exact l Y Y (by rw[a];simp) (λk b=>by rw[a]at b;simp at b;rcases b with rfl|rfl;exact j.ops;exact x.ops) (p c)<|u g;exact l Y Y (by rw[a];simp) (λk b=>by rw[a]at b;simp at b;subst b;exact j.ops) (p c)<|u g;exact l Y Y (by rw[a];simp) (λk b=>by rw[a]at b;simp at b) (p c)<|r g
def Nw(w0 w:World):Nat->Prop:=λa=>w0<=a/\a<w
def NK(w0 w w':World):Prop:=w.heap.size<=w'/\∀a,Nw w0 w a->w'.heap[a]?=w.heap[a]?
def NK.lA{w0 w w' a}(b:w.grownBy w' a)(f:∀c,a=some c->c<w0.heap.size):NK w0 w w':=⟨b.size,λd e=>b.B d e.2 λg=>Up (f d g.symm) e.1⟩
def NK.alloc(w0 w o):NK w0 w<|w.alloc o:=.lA (QX w o none) (λb a=>by cases a)
def NK.kv{w0 w w'}(a:Below w.heap.size w w'):NK w0 w w':=.lA (kC a) (λc b=>by cases b)
structure nP{α:Type}(R:Rel α)(T k:Nat)(P:Nat->Prop)(w3 wr:World)(o:Nat)(C:Array Value)(TO:TypeId)(vQ:Value)(xs:List α)(x:World):Prop where
 g:w3.grownBy x<|some o
 c:x.heap[o]?=some (.cells C TO (0,0))
 own:kJ R T k P x w3 vQ xs
 s:wr.heap.size<=x
 v:∀z,vQ.ownBlock=some z->w3<=z/\z<wr
 lt:o<w3
 ws:w3.heap.size<=wr
 k:∀b,b<wr.heap.size->b≠o->some b≠vQ.ownBlock->x.heap[b]?=wr.heap[b]?
def nP.grow{f:Type}{c:Rel f}{T d:Nat}{P g i}{o:Nat}{j k l}{m:List f}{e n}(a:nP c T d P g i o j k l m e)(ok:lh c d)(b:e.grownBy n none):nP c T d P g i o j k l m n:=
 have r:o<e:=(QS.1 a.c).1
 ⟨ky a.g<|kK b _,(b.B o r Us).T a.c,a.own.grown ok b (λv s=>by cases s),Q8 a.s b.size,a.v,a.lt,a.ws,λp q t u=>(b.B p (QR q a.s) Us).T<|a.k p q t u⟩
def nP.kv{b:Type}{a:Rel b}{T k:Nat}{P c d}{o:Nat}{e f vQ}{g:List b}{x i}(j:nP a T k P c d o e f vQ g x)(ok:lh a k)(l:Below x x i):nP a T k P c d o e f vQ g i:=j.grow ok<|kC l
def nP.alloc{b:Type}{a:Rel b}{T k:Nat}{P c d}{o:Nat}{e f vQ}{g:List b}{x}(i:nP a T k P c d o e f vQ g x)(ok:lh a k)(j):nP a T k P c d o e f vQ g<|x.alloc j:=i.grow ok<|QX _ _ none
def kz.form{d:Type}{e:Rel d}{S w v}{b:List d}(f:kz e S w v b):∃c a,v=.slice c b.length a/\b.length<=a:=by have⟨c,a,j,g,i,_⟩:=f;exact⟨c,a,g,i⟩
def wa(b:Obj)(w:World)(c:Nat->Prop):Nat->Prop:=λa=>c a/\w.heap[a]? ≠some b
def wa.ku{z w0 w w'}(b:NK w0 w w'){e:Type}{c:Rel e}{k:Nat}(ok:lh c k){v}{f:List e}(g:kz c (wa z w<|Nw w0 w) w v f):kz c (wa z w'<|Nw w0 w') w' v f:=
 (g.ku ok λd a=>b.2 d a.1).M ok λd a=>⟨⟨a.1.1,QR a.1.2 b.1⟩,by rw[b.2 d a.1];exact a.2⟩
def kD{b:Nat}{w w'}(a:Below b w w'){z i:Nat}{u}(e:b<=z):Below b w<|w'.setCell ⟨z,i,none⟩ u:=
 ⟨a.os,a.tape,a.output,by rw[QW];exact a.size,λc d=>(Q5 _ _ _ _<|by show c≠z;omega).T<|a.B c d⟩
structure lI.In where
 op:Int
 a:Int
 b:Int
 n:Int
def yj:Rel In:=λ_ _ b a=>b=[.int .u8 a.op,.int .i64 a.a,.int .i64 a.b,.int .i64 a.n]
def yj.ok:lh yj 4:=
 ⟨Y,λa=>by rw[a];rfl,λa c b=>by rw[a]at b;simp at b;rcases b with rfl|rfl|rfl|rfl<;>rfl,λa _=>a,λa _=>a⟩
structure my(w3:World)(cb:Nat)(f0 f1 f2 f3 hd own vars kZ kN params:Value)(vQ:Value)(code:List In)(w:World):Prop where
 g:w3.grownBy w<|some cb
 c:w.heap[cb]?=some (.cells #[f0,f1,f2,f3,hd,own,vars,kZ,kN,params,vQ] 140)
 own:kJ yj 310 4 (λ_=>False) w w3 vQ code
 lt:cb<w3
structure nH(cb:Nat)(vQ:Value)(w:World)(V':Value)(w':World):Prop where
 size:w.heap.size<=w'
 k:∀b,b<w.heap.size->b≠cb->some b≠vQ.ownBlock->w'.heap[b]?=w.heap[b]? /\some b≠V'.ownBlock
def nH.refl(cb:Nat)(vQ w):nH cb vQ w vQ w:=⟨QZ _,λ_ _ _ a=>⟨Z,a⟩⟩
def nH.T{cb:Nat}{vQ V' b w w' c}(a:nH cb vQ w V' w')(k:nH cb V' w' b c):nH cb vQ w b c:=
 ⟨Q8 a.size k.size,λd e f g=>by have⟨i,j⟩:=a.k d e f g;have⟨l,m⟩:=k.k d (QR e a.size) f j;exact⟨l.T i,m⟩⟩
def nH.kv{cb:Nat}{vQ w w'}(a:Below w.heap.size w w'):nH cb vQ w vQ w':=⟨a.size,λb c _ d=>⟨a.B b c,d⟩⟩
def my.kv{c}{cb:Nat}{d e f g i j k l m n vQ}{p:List In}{w w'}(a:my c cb d e f g i j k l m n vQ p w)(b:Below w w w'):my c cb d e f g i j k l m n vQ p w':=
 ⟨ky a.g<|kK (kC b) _,(b.B cb (QS.1 a.c).1).T a.c,a.own.kv yj.ok b,a.lt⟩
structure lI.PR(h:Hd):Prop where
 params:h.params.length<=2
 body:h.body.length<=12
 ops:∀s∈h.body,uQ Ds s
structure lI.Qp(c:Co):Prop where
 vars:c.vars.length<=5
 ty:∀v∈c.vars,0<=v.ty/\v.ty<=3
 lH:c.lH.length<=2
 hs:∀l∈c.lH,l.length<=3/\∀h∈l,PR h
structure lI.PS(f:Fl):Prop where
 kN:f.kN.length<=2
 mj:f.mj.length<=9
 kF:f.kF.length<=3
 co:∀c∈f.kF,Qp c
def lI.rK(a b:Nat):(ny a b).length=a+1+b:=by simp[ny];omega
def lI.F2(c d:Nat):∀a∈ny c d,1<=a.ty/\a.ty<=3:=by intro a b;simp only[ny,List.mem_append,List.mem_map,List.mem_singleton]at b;rcases b with(⟨k,_,rfl⟩|rfl)|⟨k,_,rfl⟩<;>simp
def lI.ID{a:Nat}(e:a<=3){d}(f:nQ a (a*a) d):d.length<=9:=by
 have i:(d.map λb=>(b.a,b.b)).length<=((List.range<|a*a).map λc=>(kV<|c/a,kV<|c % a)).length:=by refine List.Nodup.length_le_of_subset f.2 ?_;intro n g;rw[List.mem_map]at g;obtain⟨b,j,rfl⟩:=g;have⟨c,k,_,l,m,_⟩:=f.1 b j;rw[List.mem_map];exact⟨c,List.mem_range.2 k,by rw[l,m]⟩
 simp at i;have:a*a<=3*3:=Nat.mul_le_mul e e;omega
def lI.FN.b{b}(m:b.oa.length<=3)(n:∀l∈b.oa,∀a∈l,a<=2){c}(p:∀a∈c,a<=2){k:Nat}{e}(q:FN b c k e):PR e:=by have⟨a,r,_,s,f,g⟩:=q;have t:=p a<|List.mem_of_getElem? r;refine⟨by rw[s,lO];exact t,xc g f,λi j=>?_⟩;refine(f i j).ops ?_ m n;exact(qj (d:=3) g).2 i j
def lI.tS.b{f}(a:tS f):PS f:=by have⟨C,D,_,j,k,E,d,e,l,F,m⟩:=a.ex;refine⟨by rw[k.1];exact j,ID d l,Y,λn p=>?_⟩;have⟨q,r⟩:=List.getElem?_of_mem p;have⟨G,I,s,J,K,L,_,g,M,t,u,v,_⟩:=(m q n r).ex;have w:=e s<|List.mem_of_getElem? u;refine⟨by rw[g,rK];omega,λx i=>?_,t,λb c=>?_⟩;rw[g]at i;have:=F2 _ _ x i;omega;have⟨N,O,y⟩:=v b c;refine⟨Y,λa z=>?_⟩;have⟨A,B⟩:=List.getElem?_of_mem z;exact(y A a B).b d (λb c=>(e b c).2.2) w.2.2
structure KG(w3:World)(o:Nat)(C:Array Value)(TO:TypeId)(x:World):Prop where
 g:w3.grownBy x<|some o
 c:x.heap[o]?=some (.cells C TO (0,0))
 lt:o<w3
def KG.s{a}{o:Nat}{C b x}(c:KG a o C b x):a.heap.size<=x:=c.g.size
def KG.lx{b}{o:Nat}{c d a}(e:KG b o c d a):o<a:=(QS.1 e.c).1
def KG.grow{c}{o:Nat}{f g i j k}(a:KG c o f g i)(b:i.grownBy j k)(l:∀m,k=some m->c<=m):KG c o f g j:=
 ⟨⟨b.os.T a.g.os,b.tape.T a.g.tape,b.output.T a.g.output,Q8 a.g.size b.size,λd n p=>(b.B d (QR n a.g.size) λe=>W<|l d e.symm).T<|a.g.B d n p⟩,(b.B o a.lx λe=>Up (l o e.symm) a.lt).T a.c,a.lt⟩
def KG.alloc{a}{o:Nat}{b c x}(d:KG a o b c x)(e):KG a o b c<|x.alloc e:=d.grow (QX _ _ none) (λg f=>by cases f)
abbrev pv:=(#[Em,.int .u8 0,.int .i64 0]:Array Go.Value)
abbrev tf(a b c):=(.cells #[tx a,.int .u8 b,c] 101:Go.Obj)
def kI.lS(a:Int):Bool:=(decide (97<=a)&&decide (a<=122))||(decide (65<=a)&&decide (a<=90))
def kI.mF(a:Int):Bool:=decide (48<=a)&&decide (a<=57)
def kI.lT(a:Int):Bool:=lS a||mF a||(a==95)
def kI.pre(a:Int->Bool)(b:List UInt8):Nat:=(b.takeWhile λc=>a c.toNat).length
def kI.words:List<|List UInt8:=[[97,102,116,101,114],[97,108,119,97,121,115],[97,110,100],[97,114,114,105,118,101,115],[98,111,111,108],[99,111,109,112,111,110,101,110,116],[99,111,117,110,116],[100,101,108,101,116,101],[100,111],[101,108,115,101],[101,120,105,115,116,115],[102,97,108,115,101],[102,101,116,99,104],[102,108,97,103],[102,108,101,101,116],[102,111,114,97,108,108],[104,97,115],[105,102],[105,109,112,108,105,101,115],[105,110],[105,110,116],[108,97,116,101,110,99,121],[108,105,110,107],[110,111,116],[110,111,119],[111,110],[111,110,99,101],[111,114],[112,114,101,118,105,111,117,115],[115,101,110,100],[115,105,110,99,101],[115,105,122,101],[115,116,111,112],[115,116,111,114,101],[116,97,98,108,101],[116,114,117,101],[118,97,114],[118,101,114,115,105,111,110],[119,104,105,108,101]]
def kI.tu(a:List UInt8):Bool:=words.contains a
def pg:Array Value:=(kI.words.map tx).toArray
def tH(a:World):Prop:=∃b c,a.heap[3]?=some (.cells pg b c)
def mZ(a:List UInt8):Bool:=decide (0<a.length)&&decide (a.length<=12)&&kI.lS (a.headD 0).toNat&&(kI.pre kI.lT a==a.length)&& !kI.tu a
def lI.shapes:List<|Nat×Bool×Nat×List UInt8:=[(0,false,0,[]),(0,false,7,[]),(0,false,7,[116,114,117,101]),(0,false,7,[102,97,108,115,101]),(0,false,7,[110,111,119]),(0,true,7,[]),(1,true,7,[]),(1,true,7,[104,97,115,32]),(0,true,7,[115,105,122,101,32]),(1,false,6,[45]),(1,false,6,[110,111,116,32]),(2,false,5,[32,42,32]),(2,false,5,[32,47,32]),(2,false,5,[32,37,32]),(2,false,4,[32,43,32]),(2,false,4,[32,45,32]),(2,false,3,[32,61,61,32]),(2,false,3,[32,33,61,32]),(2,false,3,[32,60,32]),(2,false,3,[32,60,61,32]),(2,false,3,[32,62,32]),(2,false,3,[32,62,61,32]),(2,false,2,[32,97,110,100,32]),(2,false,1,[32,111,114,32])]
def lI.forms:List<|Bool×Bool×Nat×Nat×Bool×Bool:=[(false,false,0,0,false,false),(true,false,1,1,false,false),(true,false,2,2,false,false),(true,false,1,1,false,false),(false,false,1,1,true,true),(false,false,1,1,true,false),(true,true,0,4,false,false),(false,true,1,5,false,false),(false,false,2,2,false,true),(true,false,1,1,false,true),(false,false,0,0,false,false)]
def lu.map{b:Type}(f:b->List Value):∀(a:List b),lu (λr x=>r=f x) (a.map f) a
 |[]=>trivial
 |_::a=>⟨Z,lu.map f a⟩
def rq(a:Nat×Bool×Nat×List UInt8):List Value:=[.int .i64 (a.1:Int),.bool a.2.1,.int .i64 (a.2.2.1:Int),tx a.2.2.2]
def sQ(a:Bool×Bool×Nat×Nat×Bool×Bool):List Value:=[.bool a.1,.bool a.2.1,.int .i64 (a.2.2.1:Int),.int .i64 (a.2.2.2.1:Int),.bool a.2.2.2.2.1,.bool a.2.2.2.2.2]
def wF:Array Value:=(shapes.map rq).flatten.toArray
def zX:Array Value:=(forms.map sQ).flatten.toArray
structure lY(w:World):Prop where
 names:tH w
 shapes:∃t fr,w.heap[9]?=some (.cells wF t fr)
 forms:∃t fr,w.heap[4]?=some (.cells zX t fr)
def tH.kv{w w'}{B:Nat}(a:tH w)(b:Below B w w')(c:3<B):tH w':=by have⟨d,e,a⟩:=a;exact⟨d,e,(b.B _ c).T a⟩
def tH.lt{w}(a:tH w):3<w.heap.size:=by have⟨b,c,a⟩:=a;exact(QS.1 a).1
def lY.lt{w}(a:lY w):9<w.heap.size/\4<w.heap.size:=by have⟨_,⟨_,_,b⟩,_,_,c⟩:=a;exact⟨(QS.1 b).1,(QS.1 c).1⟩
def lY.ku{w w'}(a:lY w)(c:∀b,b<w.heap.size->(b=3\/b=9\/b=4)->w'.heap[b]?=w.heap[b]?):lY w':=by have d:=a.lt;have e:=a.names.lt;have⟨⟨f,g,i⟩,⟨j,k,l⟩,m,n,p⟩:=a;exact⟨⟨f,g,(c _ e<|.inl Z).T i⟩,⟨j,k,(c _ d.1<|.inr<|.inl Z).T l⟩,m,n,(c _ d.2<|.inr<|.inr Z).T p⟩
def lY.kv{w w'}{B:Nat}(a:lY w)(c:Below B w w')(b:3<B/\9<B/\4<B):lY w':=
 a.ku λd _ a=>c.B d (by rcases a with rfl|rfl|rfl;exact b.1;exact b.2.1;exact b.2.2)
def kH(v:Value)(a:World)(b:Ending)(w':World):Prop:=b=.returned v/\Below a a w'
def mJ:Nat->Ex->Prop
 |0,_=>False
 |d+1,e=>(∃a,1<=e.op/\shapes[e.op.toNat]?=some a/\e.args.length=a.1/\(a.2.1=true->mZ e.name=true)/\(a.2.1=false->e.name=[])/\(e.op=1->0<=e.n)/\(e.op≠1->e.n=0))/\∀b∈e.args,mJ d b
def At(w:World)(c o:Nat)(d:List Value):Prop:=∀(a:Nat) (b:Value),d[a]?=some b->w.cell? ⟨c,o+a,none⟩=some b
def At.kv{w w'}{B b o:Nat}{r}(c:At w b o r)(d:Below B w w')(e:b<B):At w' b o r:=λa f g=>(Cb b (o+a)<|d.B b e).T<|c a f g
def mQ(g:FuncId):Prop:=∀(a:Array Value) (b:World),Sem.run prog (callFunc g a) b=.ok (.enter g a) b
def nS:Nat->St->Prop
 |0,_=>False
 |d+1,s=>(∃a,1<=s.kind/\forms[s.kind.toNat]?=some a/\(a.1=true->mZ s.name=true)/\(a.1=false->s.name=[])/\(a.2.1=true->mZ s.hd=true)/\(a.2.1=false->s.hd=[])/\a.2.2.1<=s.lp.length/\s.lp.length<=a.2.2.2.1/\(a.2.2.2.2.1=false->s.th=[])/\(a.2.2.2.2.2=false->s.el=[]))/\
  (∀b∈s.lp,mJ De b)/\(s.th.length<=12/\s.el.length<=12)/\(∀a∈s.th,nS d a)/\∀a∈s.el,nS d a
structure vL(h:Hd):Prop where
 name:mZ h.name=true
 Hv:h.params.length<=2
 params:∀p∈h.params,mZ p=true
 C9:h.body.length<=12
 body:∀s∈h.body,nS Ds s
 cnt:kT Ds h.body<=12
structure LA(v:Va):Prop where
 name:mZ v.name=true
 form:(v.ty=1/\v.init≠ -9223372036854775808)\/(v.ty=2/\(v.init=0\/v.init=1))\/(v.ty=3/\v.init=0)
structure Br(c:Co):Prop where
 name:mZ c.name=true
 FO:c.vars.length<=5
 vars:∀v∈c.vars,LA v
 v1:1<=c.lH.length
 v2:c.lH.length<=2
 lH:∀l∈c.lH,l.length<=3/\∀h∈l,vL h
structure mo(f:Fl):Prop where
 name:mZ f.name=true
 Hw:f.kN.length<=2
 kN:∀x∈f.kN,mZ x.name=true
 Hx:f.mj.length<=9
 mj:∀x∈f.mj,mZ x.a=true/\mZ x.b=true/\1<=x.tF/\x.tF<=50
 c1:1<=f.kF.length
 c3:f.kF.length<=3
 kF:∀c∈f.kF,Br c
structure pX(S:Nat->Prop)(w:World)(A1:Option Addr)(m1 c1:Nat)(A2:Option Addr)(m2 c2:Nat)(A3:Option Addr)(m3 c3:Nat)(f:Fl):Prop where
 kN:kz mH S w (A1,m1,c1) f.kN
 mj:kz nV S w (A2,m2,c2) f.mj
 kF:kz (mn .u8) S w (A3,m3,c3) f.kF
 lJ:∀q,S q->q<w
def pX.kv{S w w' e}{f g:Nat}{i}{j k:Nat}{l}{m n:Nat}{p}(b:pX S w e f g i j k l m n p)(d:Below w w w'):pX S w' e f g i j k l m n p:=
 ⟨b.kN.ku mH.ok λa c=>d.B a<|b.lJ a c,b.mj.ku nV.ok λa c=>d.B a<|b.lJ a c,b.kF.ku (mn.ok _) λa c=>d.B a<|b.lJ a c,λa c=>QR (b.lJ a c) d.size⟩
def RM:Value->Option (DataW Unit×List MemPlace):=λ_=>some (.lit<|.bool true,[])
def Bh(a:World)(b c:Nat):Prop:=∃d:DataW Unit,a.ownsMap prog 9 RM b c d
def Bh.len{w}{b n:Nat}(a:Bh w b n):∃m:Nat,m<=n/\(Builtin.len_ #[247] 3 #[.map<|some b]).run prog w=.ok (.int .i64 (m:Int)) w:=by have⟨c,a⟩:=a;exact⟨_,a.size_le,a.len underlying247 _⟩
def nG(a):(⟨a.toArray⟩:ByteArray).toList=a:=by rw[SA]
def Nt(a:List<|List UInt8)(b:List UInt8)(d:Int):Prop:=(d= -1/\b∉a)\/∃c:Nat,d=(c:Int)/\a[c]?=some b/\∀e,e<c->a[e]? ≠some b
def Nt.neg{b c}{d:Int}(a:Nt b c d)(e:c∉b):d= -1:=by
 rcases a with a|⟨f,_,a,_⟩
 exact a.1;exact absurd (QV a) e
def Nt.pos{a b}{r:Int}(c:Nt a b r)(e:b∈a):∃i:Nat,r=(i:Int)/\i<a.length/\a[i]?=some b:=by
 rcases c with c|⟨i,f,d,_⟩
 exact absurd e c.2;exact⟨i,f,(Rg.1 d).1,d⟩
def vp(p w q)(c r:Nat)(f)(e:List UInt8)(s:kz kO p w (.slice q c r) f)(E:c<=1000)(F:∀t,p t->t<w):
  Calls prog 85 #[.slice q c r,tx e] w λj v=>∃g:Int,j=.returned (.int .i64 g)/\Nt f e g/\w=v:=by
 have x:=s.len;have u:=x.1;have y:=s;have G:=nG e
 go_enter func85,ntmps85
 go_wp2
 go_loop [8] (λk=>∃a:Nat,a<=c/\k=a/\∀b,b<a->f[b]? ≠some e) (λk=>c-(intOf k).toNat)
 .exact⟨0,Q1 _,Z,λb i=>Y⟩
 obtain⟨a,I,rfl,l⟩:=hrel;by_cases J:a<c
 .obtain⟨d,m⟩:∃d,f[a]?=some d:=Gx<|W u;obtain⟨K,L,g,rfl,M,z,A⟩:=y.ll kO.ok a d m;have B:g=[tx d]:=z;subst B;have C:=A 0 _ Z;rw[Q3,RA]at C;have N:=nG d;cases hq:(e==d)
  .go_wp2
   go_round
   .refine⟨a+1,Y,Uv,λb i=>?_⟩;by_cases j:b=a;rw[j,m];intro n;injection n with n;rw[n]at hq;simp at hq;exact l b Y
   simp[intOf];omega
  go_wp2;go_ret;exact⟨_,Z,.inr ⟨a,Z,by rw[m];rw[R5]at hq;rw[hq],l⟩,Z⟩
 obtain rfl:c=a:=Y;go_wp2;go_ret;refine⟨_,Z,.inl ⟨Z,λD=>?_⟩,Z⟩;have⟨b,i⟩:=Ta D;exact l b (Up ((Rg.1 i).1) u) i
def pM(f a g)(b i:Nat)(c)(d:List UInt8)(m:kz kO f a (.slice g b i) c)(n:b<=1000)(p:∀j,f j->j<a):
  Calls prog 84 #[.slice g b i,tx d] a λk q=>k=.returned (.bool<|decide (d∈c))/\a=q:=by
 have r:=(vp f a g b i c d m n p)
 go_enter func84,ntmps84
 go_wp21;apply r.M;rintro k s ⟨t,rfl,l,rfl⟩;by_cases e:d∈c
 .obtain⟨u,rfl,_,_⟩:=l.pos e;go_wp21;go_ret;exact⟨by simp[e],Z⟩
 .obtain rfl:=l.neg e;go_wp21;go_ret;exact⟨by simp[e],Z⟩
def lI.mz(x:In):Prop:=1<=x.op/\x.op<=34/\x.op≠27/\x.op≠28/\x.op≠32/\x.op≠33
def ot(d:Nat->Prop)(e:World)(f:Value):Prop:=∃(b:Option Addr) (a c:Nat) (g:List<|List UInt8),f=.slice b a c/\kz kO d e (b,a,c) g/\a<=1000
structure zU(S:Nat->Prop)(w3:World)(cb:Nat)(vars kZ kN params:Value):Prop where
 vars:ot S w3 vars
 kZ:ot S w3 kZ
 kN:ot S w3 kN
 params:ot S w3 params
 lJ:∀q,S q->q<w3/\q≠cb
def lI.Gf{b:Nat}{a}(c:shapes[b]?=some a):b<24/\a.1<=2:=by
 have d:∀a∈shapes,a.1<=2:=Ur
 exact⟨((List.getElem?_eq_some_iff.1 c).1),d a<|List.mem_of_getElem? c⟩
def mJ.op{a:Nat}{b}(c:mJ a b):(1<=b.op/\b.op<=23)/\b.args.length<=2/\∃d,a=d+1/\∀e∈b.args,mJ d e:=by
 cases a with
 |zero=>exact c.elim
 |succ a=>have⟨⟨j,f,g,k,_⟩,i⟩:=c;have⟨l,m⟩:=Gf g;exact⟨⟨f,Y⟩,Y,a,Z,i⟩
def rU(b:List In)(c:Nat)(d:List In):Prop:=∃a,d=b++a/\a.length<=c/\∀e∈a,mz e
def rU.T{a b c:List In}{n m q:Nat}(e:rU a n b)(f:rU b m c)(l:n+m<=q):rU a q c:=by obtain⟨g,rfl,p,i⟩:=e;obtain⟨j,rfl,r,k⟩:=f;refine⟨g++j,by rw[Rv],Uw,λd hy=>?_⟩;rcases SV.1 hy with hy|hy;exact i d hy;exact k d hy
def lI.pI(b:Nat)(a:In):Prop:=1<=a.op/\a.op<=34/\(a.op=27\/a.op=28->0<=a.a/\a.a<=b)/\(a.op=32\/a.op=33->0<=a.b/\a.b<=b)
def lI.mz.ok{x:In}(a:mz x)(n:Nat):pI n x:=⟨a.1,a.2.1,λb=>W a.2.2,λb=>W a.2.2⟩
def lI.pI.M{x:In}{n m:Nat}(a:pI n x)(c:n<=m):pI m x:=⟨a.1,a.2.1,λb=>W<|a.2.2.1 b,λb=>W<|a.2.2.2 b⟩
def lI.na(b:List In)(c:Nat)(d:List In):Prop:=∃a,d=b++a/\a.length<=c/\∀e∈a,pI (b.length+a.length) e
def lI.na.refl(a:List In):na a 0 a:=⟨[],Us,Us,Us⟩
def lI.na.T{a b c:List In}{n m q:Nat}(e:na a n b)(f:na b m c)(l:n+m<=q):na a q c:=by obtain⟨g,rfl,p,i⟩:=e;obtain⟨j,rfl,r,k⟩:=f;refine⟨g++j,by rw[List.append_assoc],Uw,λd hy=>?_⟩;rcases List.mem_append.1 hy with hy|hy;exact(i d hy).M UI;exact(k d hy).M UI
def lI.na.len{a b:List In}{n:Nat}(c:na a n b):a.length<=b.length/\b.length<=a.length+n:=by obtain⟨d,rfl,e,_⟩:=c;simp;omega
def lI.na.ll{a b:List In}{e i:Nat}(f:na a e b){c:In}(d:a[i]?=some c):b[i]?=some c:=by obtain⟨g,rfl,_⟩:=f;rw[List.getElem?_append_left (List.getElem?_eq_some_iff.1 d).1];exact d
def oX(a:List Fg)(b:List UInt8):Bool:=a.any λc=>c.name==b
def sX{a b}:oX a b=true↔∃c∈a,c.name=b:=by simp[oX]
def Gh(b:List UInt8)(c)(e:Bool)(d:Nat)(a)(f:a.cell? d=some (tx c))(g:d<a.heap.size):
  Calls prog 176 #[.agg #[tx b,e],.pointer d] a (kH (.bool<|b==c) a):=by
 have i:=nG b;have j:=nG c
 go_enter func176,ntmps176
 go_wp2;go_ret;exact⟨Z,Ba _ _⟩
def Cz:mQ 176:=λ_ _=>Ut
def CA(w c x)(e y:Nat)(j f)(k:Nat)(z:kz mH w c (.slice x e y) j)(aa:e<=1000)(E:∀n,w n->n<c)(F:c.cell? k=some (tx f))(G:k<c):
  Calls prog 193 #[.slice x e y,.func (.func 176) #[] #[.pointer k]] c λg I=>∃p:Int,g=.returned (.int .i64 p)/\(oX j f=true->0<=p)/\(oX j f=false->p= -1)/\Below c c I:=by
 have J:=Cz;unfold mQ at J;have K:=z.len;have A:=K.1;have L:=z;have M:=E;have N:=F
 go_enter func193,ntmps193
 go_wp2;go_loopw [8] (λt wr=>∃b:Nat,b<=e/\t=b/\(∀d a,d<b->j[d]?=some a->a.name≠f)/\Below c c wr) (λt _=>e-(intOf t).toNat)
 .exact⟨0,Q1 _,Z,λd a s=>Y,Below.refl _ _⟩
 obtain⟨b,ab,rfl,B,l⟩:=hrel;have C:=l.size;have O:=((Cb k 0<|l.B k G).T N)
 by_cases ac:b<e
 .obtain⟨a,u⟩:∃a,j[b]?=some a:=Gx<|W A;obtain⟨ad,ae,p,rfl,af,P,Q⟩:=(L.ku mH.ok λn i=>l.B n<|M n i).ll mH.ok b a u;have R:p=[tx a.name,.bool a.init]:=P;subst R;have S:=Q 0 _ Z;rw[Q3]at S;have D:=(Gh a.name f a.init k wr O Y)
  cases i:(a.name==f)
  .go_wp2_with (apply D.M;rw[i];rintro g T ⟨rfl,q⟩;have v:=(l.T<|q.M C);clear q);go_roundw
   .refine⟨b+1,Y,Uv,λd U s r=>?_,v⟩;by_cases g:d=b;rw[g,u]at r;injection r with r;rw[<-r];intro m;rw[m]at i;simp at i;exact B d U Y r
   simp[intOf];omega
  go_wp2_with (apply D.M;rw[i];rintro g T ⟨rfl,q⟩;have v:=(l.T<|q.M C);clear q);go_ret;refine⟨_,Z,λ_=>Y,λm=>?_,v⟩;have:oX j f=true:=sX.2 ⟨a,QV u,by simpa using i⟩;rw[this]at m;cases m
 obtain rfl:e=b:=Y;go_wp2;go_ret;refine⟨_,Z,λm=>?_,λ_=>Z,l⟩;have⟨a,V,g⟩:=sX.1 m;have⟨d,s⟩:=Ta V;exact absurd g<|B d a (Up ((Rg.1 s).1) A) s
def sx(j a g)(e i:Nat)(f)(b:List UInt8)(q:kz mH j a (.slice g e i) f)(r:e<=1000)(l:∀d,j d->d<a):
  Calls prog 131 #[.slice g e i,tx b] a (kH (.bool<|oX f b) a):=by
 have m:Below a a<|a.alloc<|.cells #[tx b] 9:=Ba _ _;have s:=q.ku mH.ok λd c=>m.B d<|l d c;have t:=QT a<|.cells #[tx b] 9;have A:(a.alloc<|.cells #[tx b] 9).heap.size=a+1:=Us
 have u:=(CA j _ g e i f b a s r (λd c=>W<|l d c) (kr t 0) Y)
 have v:Calls prog 175 #[.slice g e i,.func (.func 176) #[] #[.pointer a]] (a.alloc<|.cells #[tx b] 9)<|kH (.bool<|oX f b) a:=by
  go_enter func175,ntmps175
  go_wp21;apply u.M;rintro w x ⟨B,rfl,y,z,k⟩;have n:=(m.T<|k.M Y)
  cases c:oX f b
  .have p:=z c;subst p;go_wp21;go_ret;exact⟨by rw[c];rfl,n⟩
  have p:=y c;go_wp21;go_ret;exact⟨by rw[c];rfl,n⟩
 go_enter func131,ntmps131
 go_wp21;apply v.M;rintro w x ⟨rfl,k⟩;go_wp21;go_ret;exact⟨Z,k⟩
def vq{e:Type}{a:List e}{c:e->Bool}{b:Nat}(g:(a.take b).find? c=none){d:e}(j:a[b]?=some d):(c d=true->a.find? c=some d)/\(c d=false->(a.take<|b+1).find? c=none):=by
 have i:a.take (b+1)=a.take b++[d]:=by rw[RB,j];rfl
 refine⟨λf=>?_,λf=>?_⟩;have k:a=a.take (b+1)++a.drop (b+1):=(SE _ _).symm;rw[k,i,Rv,S7,g];simp[f];rw[i,S7,g];simp[f]
def qd:Option Va->Value
 |some x=>.tuple #[.agg #[tx x.name,.int .u8 x.ty,x.init],true]
 |none=>.tuple #[.agg #[Em,.int .u8 0,.int .i64 0],false]
def pN(p b y)(e z:Nat)(l)(j:List UInt8)(A:kz (og .u8) p b (.slice y e z) l)(ad:e<=1000)(q:∀c,p c->c<b):
  Calls prog 135 #[.slice y e z,tx j] b (kH (qd<|l.find? λa=>a.name==j) b):=by
 have B:=A.len;have ae:=nG j;have C:Below b b<|b.alloc<|.cells pv 101:=Ba _ _;have D:=QT b<|.cells pv 101;have M:(b.alloc<|.cells pv 101).heap.size=b+1:=Us
 have E:=X B.1;have N:=(A.ku (og.ok .u8) λc f=>C.B c<|q c f)
 have O:∀c,p c->c<(b.alloc<|.cells pv 101).heap.size:=λc f=>W<|q c f
 have F:=X D;clear q B D
 go_enter func135,ntmps135
 go_wp21;have⟨m,G⟩:=Xq b.heap.size;rw[<-G]at F M⊢;have g:b<=m:=Y
 generalize b.alloc (.cells pv 101)=r at*;have P:m<r:=Y
 clear G;go_loopw [10] (λs wr=>∃d:Nat,d<=e/\s=d/\(l.take d).find? (λa=>a.name==j)=none/\Below r r wr) (λs _=>e-(intOf s).toNat)
 .exact⟨0,Q1 _,Z,Us,Below.refl _ _⟩
 obtain⟨d,af,rfl,I,k⟩:=hrel;have J:=X I;have ag:=k.size;have⟨⟨t,u,w⟩,Q,R,S⟩:=lf<|(k.B m P).T F.o;have T:m<wr:=Y;have K:=(C.T<|k.M Y)
 clear I;by_cases ah:d<e
 .obtain⟨a,x⟩:∃a,l[d]?=some a:=Gx<|W E.o;obtain⟨ai,aj,U,rfl,ak,V,n⟩:=(N.ku (og.ok .u8) λc f=>k.B c<|O c f).ll (og.ok .u8) d a x;have aa:U=[tx a.name,.int .u8 a.ty,.int .i64 a.init]:=V;subst aa;have ab:=n 0 _ Z;have al:=n 1 _ Z;have am:=n 2 _ Z;rw[Q3]at ab;obtain⟨an,ao⟩:=nL d e;have ap:=nG a.name;have L:=(vq J.o x)
  have ac:=(k.alloc Y<|tf a.name a.ty a.init)
  clear n x;cases f:(a.name==j)
  .have i:=L.2 f;clear t u w Q R S;go_wp21;go_roundw
   .exact⟨d+1,Y,Uv,i,ac⟩
   simp[intOf];omega
  have i:=L.1 f;go_wp21;refine Q0 (v:=.tuple #[.agg #[tx a.name,.int .u8 a.ty,a.init],true]) ?_ rfl ⟨by rw[i];rfl,(kD (kD (kD K g) g) g).alloc UG _⟩;simp[results,Tryz.results135,go_sem,t,u,w,T,Tx]
 obtain rfl:e=d:=Y;have i:=J.o;rw[Rh<|W E.o]at i;go_wp21;refine Q0 (v:=.tuple #[.agg pv,false]) ?_ rfl ⟨by rw[i];rfl,kD (kD (kD K g) g) g⟩;simp[results,Tryz.results135,go_sem,t,u,w]
def wj(b:Nat->Prop)(c:World)(a:Co)(v:Value):Prop:=∃(d:Option Addr) (e f:Nat) (g:Option Addr) (i j:Nat),v=.agg #[tx a.name,(d,e,f),(g,i,j)]/\kz (og .u8) b c (d,e,f) a.vars/\kz (nu .u8) b c (g,i,j) a.lH
def wj.ku{S w w' a v}(c:wj S w a v)(b:∀q,S q->w'.heap[q]?=w.heap[q]?):wj S w' a v:=by have⟨d,e,f,g,i,j,k,l,m⟩:=c;exact⟨d,e,f,g,i,j,k,l.ku (og.ok _) b,m.ku (nu.ok _) b⟩
def lI.H7{b c a:Nat}(i:b<=3)(j:c<=1)(k:a<b):((ny b c).find? λd=>d.name==nm 120 a)=some ⟨nm 120 a,1,a⟩:=by
 have e:b=1\/b=2\/b=3:=Y
 have f:c=0\/c=1:=Y
 have g:a=0\/a=1\/a=2:=Y
 rcases e with rfl|rfl|rfl<;>rcases f with rfl|rfl<;>rcases g with rfl|rfl|rfl<;>first|omega|rfl
def lI.H8{a b:Nat}(f:1<=a)(g:a<=3)(i:b<=1):((ny a b).find? λc=>c.name==nm 98 0)=some ⟨nm 98 0,2,0⟩:=by
 have d:a=1\/a=2\/a=3:=Y
 have e:b=0\/b=1:=Y
 rcases d with rfl|rfl|rfl<;>rcases e with rfl|rfl<;>rfl
def lI.Mj{a b:Nat}(f:1<=a)(g:a<=3)(c:b=1):((ny a b).find? λd=>d.name==nm 116 0)=some ⟨nm 116 0,3,0⟩:=by
 have e:a=1\/a=2\/a=3:=Y
 rcases e with rfl|rfl|rfl<;>subst c<;>rfl
def lI.Fk{g i j:Nat}{c}(hc:c=102\/c=112):((ny g i).find? λd=>d.name==nm c j)=none:=by
 rw[List.find?_eq_none];intro d e;have k:∃a f,d.name=nm a f/\a≠102/\a≠112:=by
  simp only[ny,List.mem_append,List.mem_map,List.mem_singleton]at e;rcases e with(⟨q,_,rfl⟩|rfl)|⟨q,_,rfl⟩
  exact⟨120,q,Z,Ur,Ur⟩;exact⟨98,0,Z,Ur,Ur⟩;exact⟨116,q,Z,Ur,Ur⟩
 have⟨a,f,l,m,n⟩:=k;rw[l];simp only[beq_iff_eq];intro b;injection b with b _;rcases hc with hc|hc;exact m<|b.T hc;exact n<|b.T hc
def lI.NV{b a:Nat}(c:a<b):nm 112 a∈qN 112 b:=by simp[qN];exact⟨a,c,Z⟩
def lI.AO{b c:Nat}(f:b<=100)(g:c<b):nm 112 c∉(qN 112 b).take c:=by
 intro e;have⟨i,a⟩:=List.getElem?_of_mem e;rw[List.getElem?_take]at a;split at a;case isTrue j=>have d:=(List.getElem?_eq_some_iff.1 a).1;rw[lO]at d;rw[pc _ _ _ d]at a;unfold nm at a;injection a with a;injection a with _ a;injection a with a _;have:=congrArg UInt8.toNat a;simp at this;omega
 case isFalse=>simp at a
def lI.ry{c d:Nat}{b}(e:b≠112):nm b d∉qN 112 c:=by simp only[qN,List.mem_map,not_exists,not_and];intro f _ a;injection a with a _;exact e a.symm
def NW{d a:Nat}{c}(e:rD d c)(g:a<d):oX c (nm 102 a)=true:=by obtain⟨b,f⟩:∃b,c[a]?=some b:=Gx (by rw[e.1];exact g);exact sX.2 ⟨b,QV f,e.2 a b f⟩
def Mk{d c:Nat}{a b}(e:b≠102)(f:rD d a):oX a (nm b c)=false:=by cases hq:oX a<|nm b c;rfl;have⟨g,i,j⟩:=sX.1 hq;have⟨k,l⟩:=Ta i;have:=(f.2 k g l).symm.T j;injection this with this _;exact absurd this.symm e
def zY(b:Sc)(c:List UInt8)(d:Int):Prop:=(d=1/\((∃a,a<b.ints/\c=nm 120 a)\/∃a,a<b.params/\c=nm 112 a))\/(d=2/\1<=b.ints/\(c=nm 98 0\/∃a,a<b.kN/\c=nm 102 a))
structure J5(sc:Sc)(uN:List Fg)(Hj:List Va)(FK:List<|List UInt8):Prop where
 lens:uN.length<=1000/\Hj.length<=1000/\FK.length<=90
 name:∀name t,zY sc name t->(name∈FK->t=1)/\(name∉FK->(∃x,(Hj.find? λx=>x.name==name)=some x/\x.ty=t/\t≠3)\/((Hj.find? λx=>x.name==name)=none/\oX uN name=true/\t=2))
 table:sc.kZ=1->nm 116 0∉FK/\(Hj.find? λx=>x.name==nm 116 0)=some ⟨nm 116 0,3,0⟩
 int:∀k,k<sc.ints->nm 120 k∉FK/\(Hj.find? λx=>x.name==nm 120 k)=some ⟨nm 120 k,1,k⟩
 PW:1<=sc.ints->nm 98 0∉FK/\(Hj.find? λx=>x.name==nm 98 0)=some ⟨nm 98 0,2,0⟩
 O3:∀k p,FK[k]?=some p->p∉FK.take k/\(Hj.find? λx=>x.name==p)=none/\oX uN p=false/\p.length<=12
structure sg(S:Nat->Prop)(w:World)(uN:List Fg)(Hj:List Va)(FK:List<|List UInt8)(sc:Sc)(AF:Option Addr)(nf cf:Nat)(AV:Option Addr)(nv cv:Nat)(AP:Option Addr)(np cp:Nat):Prop where
 kN:kz mH S w (AF,nf,cf) uN
 vars:kz (og .u8) S w (AV,nv,cv) Hj
 params:kz kO S w (AP,np,cp) FK
 JX:J5 sc uN Hj FK
 lJ:∀q,S q->q<w
def sg.ku{S w w' c d e f g}{i j:Nat}{k}{l m:Nat}{n}{p r:Nat}(a:sg S w c d e f g i j k l m n p r)(b:∀q,S q->w'.heap[q]?=w.heap[q]?)(s:w.heap.size<=w'.heap.size):sg S w' c d e f g i j k l m n p r:=
 ⟨a.kN.ku mH.ok b,a.vars.ku (og.ok _) b,a.params.ku kO.ok b,a.JX,λq t=>QR (a.lJ q t) s⟩
def sg.kv{S w w' a b c d e}{f g:Nat}{i}{j k:Nat}{l}{m n:Nat}(p:sg S w a b c d e f g i j k l m n)(q:Below w w w'):sg S w' a b c d e f g i j k l m n:=p.ku (λr s=>q.B r<|p.lJ r s) q.size
def sg.lens{e f g i j k l}{b m:Nat}{n}{c p:Nat}{q}{d r:Nat}(a:sg e f g i j k l b m n c p q d r):b<=1000/\c<=1000/\d<=1000:=by have s:=a.kN.len.1;have t:=a.vars.len.1;have u:=a.params.len.1;have⟨v,w,x⟩:=a.JX.lens;omega
def oP.JX{b:Sc}{l:List Fg}(n:oP b)(j:rD b.kN l):J5 b l (ny b.ints b.kZ)<|qN 112 b.params:=by
 obtain⟨k,c,g,p,q,_⟩:=id n;refine⟨⟨by rw[j.1];omega,by rw[rK];omega,by rw[lO];omega⟩,λr s m=>⟨λi=>?_,λi=>?_⟩,λd=>⟨ry Ur,Mj k c d⟩,λe a=>⟨ry Ur,H7 c g a⟩,λ_=>⟨ry Ur,H8 k c g⟩,λe t f=>?_⟩;rcases m with⟨d,_⟩|⟨_,_,d⟩
 exact d;rcases d with rfl|⟨e,_,rfl⟩
 exact absurd i<|ry Ur;exact absurd i<|ry Ur;rcases m with⟨rfl,⟨e,a,rfl⟩|⟨e,a,rfl⟩⟩|⟨rfl,_,rfl|⟨e,a,rfl⟩⟩
 exact .inl ⟨_,H7 c g a,Z,Ur⟩;exact absurd (NV a) i;exact .inl ⟨_,H8 k c g,Z,Ur⟩;exact .inr ⟨Fk<|.inl Z,NW j a,Z⟩;have a:=(Rg.1 f).1;rw[lO]at a;rw[pc _ _ _ a]at f;injection f with f;subst f;exact⟨AO Y a,Fk<|.inr Z,Mk Ur j,by simp[nm]⟩
abbrev DS(a):=(#[.int .u8 a,Em,.int .i64 0]:Array Go.Value)
def sY(c d e)(a:Int)(f b):Calls prog 221 #[.agg #[c,d,e],.int .u8 a,tx f,.int .i64 0] b<|kH (.tuple<|DS a) b:=by
 go_enter func221,ntmps221
 go_wp2;refine Q0 (v:=.tuple<|DS a) ?_ rfl ⟨Z,Ba _ _⟩;simp[results,Tryz.results221,go_sem]
abbrev pa(a b c d e f g h i):=(.cells #[.slice a b c,.slice d e f,.slice g h i] 303:Go.Obj)
abbrev ph(a b c d e f g h i):=(#[.slice a b c,.slice d e f,.slice g h i]:Array Go.Value)
def sO(u a E w n F i)(j k:Nat)(b)(c d:Nat)(e)(f g:Nat)(l:List UInt8)(A:sg u a E w n F i j k b c d e f g):
  Calls prog 214 #[.agg<|ph i j k b c d e f g,tx l] a (kH (if l∈n then qd none else qd<|w.find? λm=>m.name==l) a):=by
 have N:=A.lens;have x:Below a a<|(a.alloc<|pa i j k b c d e f g).alloc<|.cells pv 101:=(Ba _ _).alloc Us _;have G:((a.alloc<|pa i j k b c d e f g).alloc<|.cells pv 101).heap[a.heap.size]?=some (pa i j k b c d e f g):=(Q9 _ _ Us).T<|QT _ _;have B:((a.alloc<|pa i j k b c d e f g).alloc<|.cells pv 101).heap[a.heap.size+1]?=some (.cells pv 101):=by have:=QT (a.alloc<|pa i j k b c d e f g)<|.cells pv 101;rwa [QU]at this
 have O:((a.alloc<|pa i j k b c d e f g).alloc<|.cells pv 101).heap.size=a+2:=Us
 have q:=(A.kv x)
 go_enter func214,ntmps214
 go_wp21;generalize(a.alloc<|pa i j k b c d e f g).alloc (.cells pv 101)=y at*;have I:a.heap.size+1<y:=Y
 apply(pM u y e f g _ l q.params Y q.lJ).M;rintro J P ⟨rfl,rfl⟩;have⟨⟨Q,R,S⟩,_⟩:=lf G;by_cases p:l∈n
 .have z:decide (l∈n)=true:=(by simp[p]);have⟨⟨r,s,t⟩,K,L,M⟩:=lf B;rw[z];go_wp2_with fail;refine Q0 (v:=.tuple #[.agg pv,false]) ?_ rfl ⟨by first|rfl|(rw[RG p];rfl),kD (kD (kD x Y) Y) Y⟩;simp[results,Tryz.results214,go_sem,r,s,t]
 .have z:decide (l∈n)=false:=(by simp[p]);rw[z];go_wp21;apply(pN u y b c d _ l q.vars Y q.lJ).M;rintro J T ⟨rfl,C⟩;have D:=x.T<|C.M Y;have⟨⟨r,s,t⟩,K,L,M⟩:=lf<|(C.B _ I).T B;cases LK:w.find? λm=>m.name==l with
  |none=>simp only[qd];go_wp2_with fail;refine Q0 (v:=.tuple #[.agg pv,false]) ?_ rfl ⟨by first|rfl|(rw[Rl p,LK];rfl),kD (kD (kD D Y) Y) Y⟩;simp[results,Tryz.results214,go_sem,r,s,t]
  |some m=>simp only[qd];go_wp2_with fail;refine Q0 (v:=.tuple #[.agg #[tx m.name,.int .u8 m.ty,m.init],true]) ?_ rfl ⟨by first|rfl|(rw[Rl p,LK];rfl),kD (kD (kD D Y) Y) Y⟩;simp[results,Tryz.results214,go_sem,r,s,t]
def DO(r a u v s A e)(f g:Nat)(i)(j k:Nat)(l)(m n:Nat)(b)(p:Int)(B:sg r a u v s A e f g i j k l m n)(G:zY A b p):
  Calls prog 220 #[.agg<|ph e f g i j k l m n,tx b] a (kH (.tuple #[.int .u8 p,.int .i64 0]) a):=by
 have S:=B.lens;have w:Below a a<|a.alloc<|pa e f g i j k l m n:=Ba _ _;have C:=QT a<|pa e f g i j k l m n;have T:(a.alloc<|pa e f g i j k l m n).heap.size=a+1:=Us
 have c:=(B.kv w)
 have D:=G
 go_enter func220,ntmps220
 go_wp21;generalize a.alloc (pa e f g i j k l m n)=x at*;have I:a.heap.size<x:=Y
 apply(pM r x l m n _ b c.params Y c.lJ).M;rintro E U ⟨rfl,rfl⟩;have⟨⟨J,K,L⟩,_⟩:=lf C;by_cases t:b∈s
 .have y:decide (b∈s)=true:=(by simp[t]);have M:p=1:=(c.JX.name _ _ D).1 t;subst M;first|rw[y]|skip
  go_wp21
  go_ret2
  exact⟨Z,w⟩
 .have y:decide (b∈s)=false:=(by simp[t]);first|rw[y]|skip
  go_wp21;apply(pN r x i j k _ b c.vars Y c.lJ).M;rintro E N ⟨rfl,q⟩;have F:=(w.T<|q.M Y)
  have V:=q.size;have O:(∃d,(v.find? λd=>d.name==b)=some d/\d.ty=p/\p≠3)\/((v.find? λd=>d.name==b)=none/\oX u b=true/\p=2):=(c.JX.name _ _ D).2 t;rcases O with⟨d,z,rfl,P⟩|⟨z,Q,rfl⟩
  .rw[z];have aa:(d.ty==3)=false:=(by rw[QY];exact P);simp only[qd];go_wp21
   go_ret2
   exact⟨Z,F.alloc Y _⟩
  rw[z];simp only[qd];have⟨⟨J,K,L⟩,_⟩:=lf<|(q.B _ I).T C;have ab:a.heap.size<N:=Y;go_wp21;apply(sx r _ e f g u b ((c.kv q).kv<|Ba _ _).kN Y ((c.kv q).kv<|Ba _ _).lJ).M;rw[Q];rintro E ac ⟨rfl,R⟩;go_wp21
  go_ret2
  exact⟨Z,(F.alloc Y _).T<|R.M<|by rw[QU];omega⟩
def sJ(m a n p q l b)(c d:Nat)(e)(f g:Nat)(i)(j k:Nat)(r:sg m a n p q l b c d e f g i j k)(v:l.kZ=1):
  Calls prog 222 #[.agg<|ph b c d e f g i j k,tx<|nm 116 0] a (kH (.int .i64 0) a):=by
 have s:Below a a<|a.alloc<|pa b c d e f g i j k:=Ba _ _;have t:=(sO m _ n p q l b c d e f g i j k (nm 116 0)<|r.kv s)
 have⟨w,x⟩:=r.JX.table v;rw[Rl w,x]at t
 go_enter func222,ntmps222
 go_wp21;apply t.M;rintro z A ⟨rfl,y⟩;have u:=(s.T<|y.M Us)
 simp only[qd];go_wp21;go_ret;exact⟨Z,u.alloc u.size _⟩
def lI.uO(a:Sc)(b:Nat)(c:Ex)(d:Int):Prop:=(d=1/\lM a b c)\/(d=2/\1<=a.ints/\nz a b c)
def lI.uO.num{a}{b:Nat}{c}(d:lM a b c):uO a b c 1:=.inl ⟨Z,d⟩
def lI.uO.JY{a}{b:Nat}{c}(d:1<=a.ints)(e:nz a b c):uO a b c 2:=.inr ⟨Z,d,e⟩
def lI.HN:List<|Int×Int×Int:=[(9,1,1),(10,2,2),(11,1,1),(12,1,1),(13,1,1),(14,1,1),(15,1,1),(16,1,2),(17,1,2),(18,1,2),(19,1,2),(20,1,2),(21,1,2),(22,2,2),(23,2,2)]
inductive OI (sc:Sc) (d:Nat) (e:Ex) (t:Int):Prop where
 |num (h:e.op=1\/e.op=4) (ht:t=1) (ha:e.args=[])
 |JY (h:e.op=2\/e.op=3) (ht:t=2) (ha:e.args=[])
 |name (h:e.op=5) (hn:zY sc e.name t) (ha:e.args=[])
 |size (h:e.op=8) (ht:t=1) (hs:sc.kZ=1) (hn:e.name=nm 116 0) (ha:e.args=[])
 |get (h:(e.op=6/\t=1)\/(e.op=7/\t=2)) (hs:sc.kZ=1) (hn:e.name=nm 116 0) (hl:0<e.args.length) (h2:e.args.length<=2) (ha:∀a∈e.args,uO sc d a 1)
 |ops (u:Int) (h:(e.op,u,t)∈HN) (hl:0<e.args.length) (h2:e.args.length<=2) (ha:∀a∈e.args,uO sc d a u)
def OI.of{i}{d:Nat}{c}{w:Int}(h:uO i (d+1) c w):OI i d c w:=by
 have s:∀{f k:Ex} {j:Int},c.args=[f,k]->uO i d f j->uO i d k j->0<c.args.length/\c.args.length<=2/\∀l∈c.args,uO i d l j:=λt u x=>by rw[t];refine⟨Us,Us,λl m=>?_⟩;simp at m;rcases m with rfl|rfl;exact u;exact x
 have q:∀{f:Ex} {j:Int},c.args=[f]->uO i d f j->0<c.args.length/\c.args.length<=2/\∀l∈c.args,uO i d l j:=λt u=>by rw[t];refine⟨Us,Us,λl m=>?_⟩;simp at m;rw[m];exact u
 rcases h with⟨rfl,h⟩|⟨rfl,r,h⟩
 rcases h with⟨b,_,_,_,a⟩|⟨b,_,_,a⟩|⟨b,g,_,a⟩|⟨b,n,g,_,f,a,e⟩|⟨b,n,g,_,a⟩|⟨b,_,_,f,a,e⟩|⟨b,_,_,f,k,a,e,p⟩
 exact .num (.inl b) Z a;exact .num (.inr b) Z a;exact .name b (.inl ⟨Z,g⟩) a;have:=q a<|.num e;exact .get (.inl ⟨b,Z⟩) n g this.1 this.2.1 this.2.2;exact .size b Z n g a;have:=q a<|.num e;exact .ops 1 (by rw[b];decide) this.1 this.2.1 this.2.2;have:=s a (.num e)<|.num p;have v:c.op=11\/c.op=12\/c.op=13\/c.op=14\/c.op=15:=Y
 exact .ops 1 (by rcases v with h|h|h|h|h<;>rw[h]<;>decide) this.1 this.2.1 this.2.2;rcases h with⟨b,_,_,a⟩|⟨b,g,_,a⟩|⟨b,n,g,_,f,a,e⟩|⟨b,_,_,f,a,e⟩|⟨b,_,_,f,k,a,e,p⟩|⟨b,_,_,f,k,a,e,p⟩
 exact .JY b Z a;exact .name b (.inr ⟨Z,r,g⟩) a;have:=q a<|.num e;exact .get (.inr ⟨b,Z⟩) n g this.1 this.2.1 this.2.2;have:=q a<|.JY r e;exact .ops 2 (by rw[b];decide) this.1 this.2.1 this.2.2;have:=s a (.JY r e)<|.JY r p;exact .ops 2 (by rcases b with h|h<;>rw[h]<;>decide) this.1 this.2.1 this.2.2;have:=s a (.num e)<|.num p;have v:c.op=16\/c.op=17\/c.op=18\/c.op=19\/c.op=20\/c.op=21:=Y
 exact .ops 1 (by rcases v with h|h|h|h|h|h<;>rw[h]<;>decide) this.1 this.2.1 this.2.2
def C4(a:Nat)(b:Int):Int:=if a=0 then 0 else b
def LQ(c:Nat):Prop:=∀(d:Nat->Prop) (a:World) (u:List Fg) (v:List Va) (w:List<|List UInt8) (e:Sc) (f:Option Addr) (g i:Nat) (j:Option Addr) (k l:Nat) (m:Option Addr) (n p:Nat) (q:Option Addr) (b r:Nat) (s:List Ex) (t:Int),sg d a u v w e f g i j k l m n p->kz (kP .u8 c) d a (q,b,r) s->b<=2->(∀x∈s,uO e c x t)->
 Calls prog 219 #[.agg #[(f,g,i),(j,k,l),(m,n,p)],(q,b,r)] a (kH (.tuple #[.int .u8<|C4 b t,Em,.int .i64 0]) a)
def LR(b:Nat):Prop:=∀(c:Nat->Prop) (a:World) (x:List Fg) (y:List Va) (z:List<|List UInt8) (d:Sc) (e:Option Addr) (f g:Nat) (i:Option Addr) (j k:Nat) (l:Option Addr) (m n:Nat) (p:Option Addr) (q r:Nat) (s t:Int) (u:List UInt8) (v:List Ex) (w:Int),sg c a x y z d e f g i j k l m n->kz (kP .u8 b) c a (p,q,r) v->uO d (b+1) (.mk s u t v) w->
 Calls prog 215 #[.agg #[(e,f,g),(i,j,k),(l,m,n)],.agg #[.int .u8 s,tx u,t,(p,q,r)]] a (kH (.tuple #[.int .u8 w,Em,.int .i64 0]) a)
