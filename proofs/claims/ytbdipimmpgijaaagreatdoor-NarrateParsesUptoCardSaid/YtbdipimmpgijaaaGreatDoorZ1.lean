import Derived.Test.YtbdipimmpgijaaaGreatDoorZ0
set_option maxRecDepth 1000000
set_option maxHeartbeats 32000000
set_option linter.all false
namespace Go.Proofs.YtbdipimmpgijaaaGreatDoor
open Go Go.Proofs.Tryz
def su(P:Program)(w:World)(K:Value->World->Prop):Result Next->Prop
 | .ok (.value u) w'=>K u w'
 | .ok .skip w'=>K undef w'
 | .ok (.enter f args) w'=>w'=w/\Calls P f args w λe a=>∃v,e=.returned v/\K v a
 |_=>False
def kB(P:Program)(a:Act)(o:Oper)(w:World)(K:Value->World->Prop):Prop:=su P w K ((execOp a.eval o).run P w)
def kB.wp{P:Program}{a:Act}{o:Oper}{w:World}{K:Value->World->Prop}{c:Act->World->Prop}{Q:Exit->Act->World->Prop}(h:kB P a o w K)(b:∀v w',K v w'->c (a.put o.dst v) w'):o.wp P a w c Q:=by
 unfold kB at h;unfold Oper.wp;generalize(execOp a.eval o).run P w=r at*;cases r with
 |ok n w'=>
  cases n<;>simp only[su]at h<;>simp only[Oper.upon];case value u=>exact b _ _ h
  case skip=>exact b _ _ h
  case enter f args=>obtain⟨rfl,hc⟩:=h;exact hc.mono λe d ⟨v,he,hv⟩=>by subst he;exact b _ _ hv
 |halt x w'=>simp only[su]at h
def mv(a:Act)(o:Oper):Value:=match o.dst with|some d=>a.eval (.tmp d)|none=>undef
def lB(ops:List Oper):List Nat:=ops.filterMap (·.dst)
def lv(o:Oper)(a:Nat):Bool:=o.after.toList.any λe=>Region.binds .any e&&e.on==a
def rU(ops:List Oper):Bool:=ops.all (λo=>o.guard.isNone)&&ops.zipIdx.all (λp=>p.1.after.all λe=>!Region.binds .any e||decide (e.on<p.2))&&decide ((lB ops).Nodup)
def vd(o:Oper)(v:Value):Value:=match o.dst with|some _=>v|none=>undef
abbrev oo:=List (Nat×(Value->World->Prop))
def lV(ops:List Oper):Nat->Nat->Nat->Bool
 |0,_,_=>false
 |f+1,j,i=>match ops[j]? with
  |none=>false
  |some o=>o.after.toList.any λe=>Region.binds .any e&&(e.on==i||lV ops f e.on i)
def Hg(P:Program)(ops:List Oper)(a0:Act)(G:World->Prop)(VP:Nat->Value->Prop)(D:oo)(i:Nat)(o:Oper):Prop:=
 ∀(a:Act) (w:World),G w->(∀t,(lB ops).contains t=false->a.eval (.tmp t)=a0.eval (.tmp t))->
  (∀c b,ops[c]?=some b->lv o c=true->VP c (mv a b))->(∀e∈D,∀b,ops[e.1]?=some b->lv o e.1=true->e.2 (mv a b) w)->
  (∀c b d,ops[c]?=some b->b.dst=some d->lV ops ops.length c i=true->a.eval (.tmp d)=a0.eval (.tmp d))->
  kB P a o w λv w'=>VP i (vd o v)/\G w'/\∀e∈D,(e.1=i->e.2 (vd o v) w')/\(e.1≠i->lV ops ops.length e.1 i=false->∀u,e.2 u w->e.2 u w')
def A5(p:Nat->Oper->Prop):Nat->List Oper->Prop
 |_,[]=>True
 |i,o::rest=>p i o/\A5 p (i+1) rest
def A5.ll{p:Nat->Oper->Prop}:∀{l:List Oper} {i:Nat},A5 p i l->∀(k:Nat) (o:Oper),l[k]?=some o->p (i+k) o
 |o::rest,i,⟨h,_⟩,0,o',ho=>by simp at ho;subst ho;exact h
 |o::rest,i,⟨_,h⟩,k+1,o',ho=>by have:=A5.ll h k o' (by simpa using ho);rwa [show i+1+k=i+(k+1)by omega]at this
 |[],_,_,k,_,ho=>by simp at ho
abbrev C5(P:Program)(ops:List Oper)(a0:Act)(G:World->Prop)(VP:Nat->Value->Prop)(D:oo):=A5 (Hg P ops a0 G VP D)
def lz(a:Act):List Oper->(Nat->Value)->Nat->Act
 |[],_,_=>a
 |o::rest,val,k=>lz (a.put o.dst (val k)) rest val (k+1)
def Bq(a:Act)(d:Option Nat)(v:Value):(a.put d v).tmps.size=a.tmps.size:=by cases d<;>simp[Act.put]
def put_defers(a:Act)(d:Option Nat)(v:Value):(a.put d v).defers=a.defers:=by cases d<;>rfl
def tJ:∀(ops:List Oper) (a:Act) (b:Nat->Value) (k:Nat),(lz a ops b k).defers=a.defers
 |[],_,_,_=>rfl
 |o::rest,a,b,k=>by rw[lz,tJ rest,put_defers]
def rS:∀(ops:List Oper) (a:Act) (b:Nat->Value) (k t:Nat),t∉lB ops->(lz a ops b k).tmps[t]?=a.tmps[t]?
 |[],_,_,_,_,_=>rfl
 |o::rest,a,b,k,t,h=>by
  have c:t∉lB rest:=λhm=>h (by unfold lB at*;rw[SN]at*;obtain⟨x,hx,e⟩:=hm;exact⟨x,SV _ hx,e⟩);rw[lz,rS rest _ _ _ _ c];cases hd:o.dst with
  |none=>rfl
  |some d=>have f:d≠t:=λe=>h (by unfold lB;rw[SN];exact⟨o,Sq,by rw[hd,e]⟩);simp[Act.put,R7 f]
def yN:∀(ops:List Oper) (a:Act) (c:Nat->Value) (k b:Nat) (o:Oper) (d:Nat),(lB ops).Nodup->ops[b]?=some o->o.dst=some d->d<a.tmps.size->(lz a ops c k).tmps[d]?=some (c (k+b))
 |[],_,_,_,b,_,_,_,h,_,_=>by simp at h
 |o::rest,a,c,k,0,o',d,hn,h,hd,Og=>by simp at h;subst h;have e:(lB (o::rest))=d::lB rest:=(by unfold lB;rw[Sm,hd]);rw[e,SF]at hn;rw[lz,rS rest _ _ _ _ hn.1,hd];simp[Act.put,Og]
 |o::rest,a,c,k,b+1,o',d,hn,h,hd,Og=>by
  have e:(lB rest).Nodup:=by
   unfold lB at*;rw[Sm]at hn;cases hx:o.dst with
   |none=>rw[hx]at hn;exact hn
   |some x=>rw[hx]at hn;exact(SF.1 hn).2
  rw[lz,yN rest _ c (k+1) b o' d e (by simpa using h) hd (by rw[Bq];exact Og),show k+1+b=k+(b+1)by omega]
def M4(a:Array Bool):Nat:=(a.toList.filter (λb=>!b)).length
def EZ{a:Array Bool}{i:Nat}(h:a.getD i true=false):M4 (a.setIfInBounds i true)+1=M4 a:=by
 obtain⟨l⟩:=a;unfold M4;simp only[Rk];have c:l[i]?=some false:=by
  rw[RZ]at h;simp at h;cases hx:l[i]? with
  |none=>rw[hx]at h;simp at h
  |some b=>rw[hx]at h;simp at h;rw[h]
 clear h;induction l generalizing i with
 |nil=>simp at c
 |cons b l d=>
  cases i with
  |zero=>simp at c;subst c;simp
  |succ i=>have:=d (i:=i) (by simpa using c);simp only[Rx,List.filter_cons];cases b<;>simp<;>omega
def xr{ops:List Oper}{b:Array Bool}(hc:∀a c,ops[a]?=some c->b.getD a false=true->∀e∈c.after,Region.binds .any e=true->b.getD e.on false=true):∀(f a i:Nat),lV ops f a i=true->b.getD a false=true->b.getD i false=true
 |0,_,_,h,_=>by cases h
 |f+1,a,i,h,hl=>by
  unfold lV at h;cases ho:ops[a]? with
  |none=>rw[ho]at h;cases h
  |some o=>rw[ho]at h;simp only[TN,R1,Bool.or_eq_true,R2]at h;obtain⟨e,he,hb,h⟩:=h;have d:=hc a o ho hl e (by simpa using he) hb;rcases h with h|h;rw[<-h];exact d;exact xr hc f e.on i h d
def E0:∀{ops:List Oper} (_:(lB ops).Nodup) {i a:Nat} {b d:Oper} {c:Nat},ops[i]?=some b->ops[a]?=some d->b.dst=some c->d.dst=some c->i=a
 |[],_,_,_,_,_,_,h,_,_,_=>by simp at h
 |o::rest,hn,i,a,b,d,c,hi,hj,K4,M5=>by
  have e:∀{k:Nat} {x:Oper},rest[k]?=some x->x.dst=some c->c∈lB rest:=λf hx=>by unfold lB;rw[SN];exact⟨_,QS f,hx⟩
  cases i with
  |zero=>
   cases a with
   |zero=>rfl
   |succ a=>simp at hi hj;subst hi;unfold lB at hn;rw[Sm,K4]at hn;exact absurd (e hj M5) (SF.1 hn).1
  |succ i=>
   cases a with
   |zero=>simp at hi hj;subst hj;unfold lB at hn;rw[Sm,M5]at hn;exact absurd (e hi K4) (SF.1 hn).1
   |succ a=>
    simp at hi hj;have g:(lB rest).Nodup:=by
     unfold lB at*;rw[Sm]at hn;cases hx:o.dst with
     |none=>rw[hx]at hn;exact hn
     |some x=>rw[hx]at hn;exact(SF.1 hn).2
    rw[E0 g hi hj K4 M5]
def FP{ops:List Oper}(hn:(lB ops).Nodup){i b:Nat}{j g:Oper}(hi:ops[i]?=some j)(f:ops[b]?=some g)(l:i≠b)(a:Act)(v:Value):mv (a.put j.dst v) g=mv a g:=by
 unfold mv;cases M5:g.dst with
 |none=>rfl
 |some d=>
  cases K4:j.dst with
  |none=>rfl
  |some c=>
   have n:c≠d:=by
    intro e;subst e;apply l;clear l;induction ops generalizing i b with
    |nil=>simp at hi
    |cons o rest p=>
     have m:∀{k:Nat} {x:Oper},rest[k]?=some x->x.dst=some c->c∈lB rest:=λq hx=>by unfold lB;rw[SN];exact⟨_,QS q,hx⟩
     cases i with
     |zero=>
      cases b with
      |zero=>rfl
      |succ b=>simp at hi f;subst hi;unfold lB at hn;rw[Sm,K4]at hn;exact absurd (m f M5) (SF.1 hn).1
     |succ i=>
      cases b with
      |zero=>simp at hi f;subst f;unfold lB at hn;rw[Sm,M5]at hn;exact absurd (m hi K4) (SF.1 hn).1
      |succ b=>
       simp at hi f;have r:(lB rest).Nodup:=by
        unfold lB at*;rw[Sm]at hn;cases hx:o.dst with
        |none=>rw[hx]at hn;exact hn
        |some x=>rw[hx]at hn;exact(SF.1 hn).2
       rw[p r hi f]
   simp[Act.eval,Act.put,R7 n]
def Dr{b:Oper}(a:Act)(v:Value)(h:∀d,b.dst=some d->d<a.tmps.size):mv (a.put b.dst v) b=vd b v:=by
 unfold mv vd;cases hd:b.dst with
 |none=>rfl
 |some d=>simp[Act.eval,Act.put,h d hd]
def xt{ops:List Oper}(d:∀i o,ops[i]?=some o->∀e∈o.after,Region.binds .any e=true->e.on<i){b:Array Bool}(hs:b.size=ops.length)(h:Region.ready .any ops.toArray b=[]):∀a,a<ops.length->b.getD a false=true:=by
 intro a;induction a using Nat.strongRecOn with
 |_ a f=>
  intro c;cases hx:b.getD a false with
  |true=>rfl
  |false=>
   exfalso;have g:ops.toArray[a]?=some ops[a]:=(by simp[c]);have hm:a∈Region.ready .any ops.toArray b:=by rw[Ue];refine⟨?_,ops[a],g,λe he hb=>?_⟩;rw[RZ]at hx⊢;rw[R9 (by omega)]at hx⊢;simpa using hx;have j:=d a ops[a] (by simp[c]) e he hb;exact f e.on j (by omega)
   rw[h]at hm;cases hm
def uT(ops:List Oper):Bool:=(List.range (ops.length-1)).all λa=>lV ops ops.length (ops.length-1) a
def vo(ops:List Oper)(a:Act):Nat->Value:=λb=>if b<ops.length-1 then(match ops[b]? with|some o=>mv a o|none=>undef)else undef
def rJ(P:Program)(all:List Oper)(a0:Act)(G:World->Prop)(f:(Nat->Value)->Value->World->Prop)(VP:Nat->Value->Prop)(D:oo):Nat->List Oper->Prop
 |_,[]=>True
 |i,o::rest=>(∀(a:Act) (w:World),G w->(∀t,(lB all).contains t=false->a.eval (.tmp t)=a0.eval (.tmp t))->
  (∀c b,all[c]?=some b->lv o c=true->VP c (mv a b))->(∀e∈D,∀b,all[e.1]?=some b->lv o e.1=true->e.2 (mv a b) w)->
  (∀c b d,all[c]?=some b->b.dst=some d->lV all all.length c i=true->a.eval (.tmp d)=a0.eval (.tmp d))->
  match rest with
  |[]=>kB P a o w λv w'=>f (vo all a) (vd o v) w'
  |_=>kB P a o w λv w'=>VP i (vd o v)/\G w'/\∀e∈D,(e.1=i->e.2 (vd o v) w')/\(e.1≠i->lV all all.length e.1 i=false->∀u,e.2 u w->e.2 u w'))/\rJ P all a0 G f VP D (i+1) rest
def rJ.ll{P:Program}{all:List Oper}{a0:Act}{G:World->Prop}{q:(Nat->Value)->Value->World->Prop}{VP:Nat->Value->Prop}{D:oo}:∀{l:List Oper} {i:Nat},rJ P all a0 G q VP D i l->∀(k:Nat) (o:Oper),l[k]?=some o->(∀(a:Act) (w:World),G w->(∀t,(lB all).contains t=false->a.eval (.tmp t)=a0.eval (.tmp t))->
  (∀c b,all[c]?=some b->lv o c=true->VP c (mv a b))->(∀e∈D,∀b,all[e.1]?=some b->lv o e.1=true->e.2 (mv a b) w)->
  (∀c b d,all[c]?=some b->b.dst=some d->lV all all.length c (i+k)=true->a.eval (.tmp d)=a0.eval (.tmp d))->
  (k+1=l.length->kB P a o w λv w'=>q (vo all a) (vd o v) w')/\
  (k+1<l.length->kB P a o w λv w'=>VP (i+k) (vd o v)/\G w'/\∀e∈D,(e.1=i+k->e.2 (vd o v) w')/\(e.1≠i+k->lV all all.length e.1 (i+k)=false->∀u,e.2 u w->e.2 u w')))
 |o::rest,i,⟨h,_⟩,0,o',ho=>by
  simp at ho;subst ho;intro a w g j m n p;have:=h a w g j m n p;refine⟨λf=>?_,λf=>?_⟩;cases rest with
  |nil=>exact this
  |cons x l=>simp at f
  cases rest with
  |nil=>simp at f
  |cons x l=>exact this
 |o::rest,i,⟨_,h⟩,k+1,o',ho=>by intro a w g j m n p;have e:i+1+k=i+(k+1):=(by omega);have:=rJ.ll h k o' (by simpa using ho) a w g j m n (λc b d r hd s=>p c b d r hd (by rw[<-e];exact s));rw[e]at this;exact⟨λf=>this.1 (by simpa using f),λf=>this.2 (by simpa using f)⟩
 |[],_,_,k,_,ho=>by simp at ho
abbrev zZ(P:Program)(all:List Oper)(a0:Act)(G:World->Prop)(a:Value->World->Prop)(VP:Nat->Value->Prop)(D:oo):Nat->List Oper->Prop:=rJ P all a0 G (λ_=>a) VP D
abbrev yq:=List (Nat×Nat×(Value->Value->World->Prop))
def rH(ops:List Oper):Bool:=ops.zipIdx.all (λp=>p.1.after.all λe=>!Region.binds .any e||decide (e.on<p.2))&&decide ((lB ops).Nodup)
def vI(ops:List Oper)(VP:Nat->Value->Prop):List Oper->Prop
 |[]=>True
 |o::rest=>(match o.guard with
  |none=>True
  |some (g,b)=>lv o g=true/\((ops[g]?).bind (·.dst)).isSome=true/\∀v,VP g v->v=.bool b)/\vI ops VP rest
def vI.ll{ops:List Oper}{VP:Nat->Value->Prop}:∀{l:List Oper},vI ops VP l->∀o∈l,∀g b,o.guard=some (g,b)->lv o g=true/\((ops[g]?).bind (·.dst)).isSome=true/\∀v,VP g v->v=.bool b
 |o::rest,⟨h,hr⟩,o',a,g,b,hg=>by rcases Rn.1 a with rfl|a;rw[hg]at h;exact h;exact vI.ll hr o' a g b hg
 |[],_,o',a,_,_,_=>by simp at a
def Hm(P:Program)(ops:List Oper)(a0:Act)(G:World->Prop)(VP:Nat->Value->Prop)(D:yq)(i:Nat)(o:Oper):Prop:=
 ∀(a:Act) (w:World),G w->(∀t,(lB ops).contains t=false->a.eval (.tmp t)=a0.eval (.tmp t))->
  (∀c b,ops[c]?=some b->lv o c=true->VP c (mv a b))->(∀e∈D,∀b ok,ops[e.1]?=some b->ops[e.2.1]?=some ok->lv o e.1=true->e.2.2 (mv a b) (mv a ok) w)->
  (∀c b d,ops[c]?=some b->b.dst=some d->lV ops ops.length c i=true->a.eval (.tmp d)=a0.eval (.tmp d))->
  kB P a o w λv w'=>VP i (vd o v)/\G w'/\∀e∈D,(e.1=i->∀ok,ops[e.2.1]?=some ok->e.2.2 (vd o v) (if e.2.1=i then vd o v else mv a ok) w')/\(e.1≠i->lV ops ops.length e.1 i=false->∀u u2,e.2.2 u u2 w->e.2.2 u u2 w')
abbrev E1(P:Program)(ops:List Oper)(a0:Act)(G:World->Prop)(VP:Nat->Value->Prop)(D:yq):=A5 (Hm P ops a0 G VP D)
def vS{ops:List Oper}(h:rH ops=true):(∀i o,ops[i]?=some o->∀e∈o.after,Region.binds .any e=true->e.on<i)/\(lB ops).Nodup:=by unfold rH at h;simp only[R1,Sg,SR]at h;obtain⟨b,c⟩:=h;refine⟨λi o d e he hb=>?_,c⟩;have:=b (o,i) (List.mem_zipIdx_iff_getElem?.2 (by simpa using d));rw[Array.all_eq_true_iff_forall_mem]at this;have a:=this e he;rw[hb]at a;simpa using a
def Hw(ops:List Oper)(p:Nat):Bool:=decide (p<ops.length)&&(List.range ops.length).all λa=>(if a<p then lV ops ops.length p a else true)&&(if p<a then(match ops[a]? with|some o=>lv o p|none=>true)else true)
def Hn(P:Program)(ops:List Oper)(a0:Act)(G:Bool->World->Prop)(p:Nat)(VP:Nat->Value->Prop)(D:oo)(i:Nat)(o:Oper):Prop:=
 ∀(a:Act) (w:World),G (decide (p<i)) w->(∀t,(lB ops).contains t=false->a.eval (.tmp t)=a0.eval (.tmp t))->
  (∀c b,ops[c]?=some b->lv o c=true->VP c (mv a b))->(∀e∈D,∀b,ops[e.1]?=some b->lv o e.1=true->e.2 (mv a b) w)->
  (∀c b d,ops[c]?=some b->b.dst=some d->lV ops ops.length c i=true->a.eval (.tmp d)=a0.eval (.tmp d))->
  kB P a o w λv w'=>VP i (vd o v)/\G (decide (p<=i)) w'/\∀e∈D,(e.1=i->e.2 (vd o v) w')/\(e.1≠i->lV ops ops.length e.1 i=false->∀u,e.2 u w->e.2 u w')
abbrev E2(P:Program)(ops:List Oper)(a0:Act)(G:Bool->World->Prop)(p:Nat)(VP:Nat->Value->Prop)(D:oo):=A5 (Hn P ops a0 G p VP D)
def OQ(P:Program)(ops:List Oper)(a0:Act)(G:(Nat->Bool)->World->Prop)(VP:Nat->Value->Prop)(D:oo)(i:Nat)(o:Oper):Prop:=
 ∀(L:Nat->Bool) (a:Act) (w:World),L i=false->(∀b,lv o b=true->L b=true)->(∀b,lV ops ops.length b i=true->L b=false)->G L w->(∀t,(lB ops).contains t=false->a.eval (.tmp t)=a0.eval (.tmp t))->
  (∀b c,ops[b]?=some c->lv o b=true->VP b (mv a c))->(∀e∈D,∀c,ops[e.1]?=some c->lv o e.1=true->e.2 (mv a c) w)->
  (∀b c d,ops[b]?=some c->c.dst=some d->lV ops ops.length b i=true->a.eval (.tmp d)=a0.eval (.tmp d))->
  kB P a o w λv w'=>VP i (vd o v)/\G (λb=>if b=i then true else L b) w'/\∀e∈D,(e.1=i->e.2 (vd o v) w')/\(e.1≠i->lV ops ops.length e.1 i=false->∀u,e.2 u w->e.2 u w')
abbrev E3(P:Program)(ops:List Oper)(a0:Act)(G:(Nat->Bool)->World->Prop)(VP:Nat->Value->Prop)(D:oo):=A5 (OQ P ops a0 G VP D)
def sv(ops:List Oper)(a:Act):Nat->Value:=λb=>match ops[b]? with|some o=>mv a o|none=>undef
def up{a:Type}(f:Nat->a)(i:Nat)(x:a):Nat->a:=λb=>if b=i then x else f b
def sq{ops:List Oper}{a:Act}{b:Nat}{o:Oper}(h:ops[b]?=some o):sv ops a b=mv a o:=by simp[sv,h]
section
variable {P:Program} {ops:List Oper} {a0:Act} {Q:Exit→Act→World→Prop}
def kB.imp{a:Act}{o:Oper}{w:World}{K c:Value->World->Prop}(h:kB P a o w K)(b:∀v w',K v w'->c v w'):kB P a o w c:=by
 unfold kB at*;generalize(execOp a.eval o).run P w=r at*;cases r with
 |ok n w'=>
  cases n<;>simp only[su]at h⊢;case value u=>exact b _ _ h
  case skip=>exact b _ _ h
  case enter f args=>exact⟨h.1,h.2.mono λe d ⟨v,he,hv⟩=>⟨v,he,b _ _ hv⟩⟩
 |halt x w'=>simp only[su]at h
structure RU(ops:List Oper)(a0:Act)(J:(Nat->Bool)->(Nat->Value)->World->Prop)(listed:Array Bool)(a:Act)(w:World):Prop where
 size:listed.size=ops.length
 defers:a.defers=a0.defers
 ES:a.tmps.size=a0.tmps.size
 fix:∀t,(lB ops).contains t=false->a.tmps[t]?=a0.tmps[t]?
 Nh:∀j oj d,ops[j]?=some oj->oj.dst=some d->listed.getD j false=false->a.tmps[d]?=a0.tmps[d]?
 closed:∀j oj,ops[j]?=some oj->listed.getD j false=true->∀e∈oj.after,Region.binds .any e=true->listed.getD e.on false=true
 j:J (λj=>listed.getD j false) (sv ops a) w
def N0(P:Program)(ops:List Oper)(a0:Act)(e:(Nat->Bool)->(Nat->Value)->World->Prop)(i:Nat)(o:Oper):Prop:=
 ∀(L:Nat->Bool) (a:Act) (w:World),L i=false->(∀c,lv o c=true->L c=true)->(∀k c,L k=true->lV ops ops.length k c=true->L c=true)->(∀t,(lB ops).contains t=false->a.eval (.tmp t)=a0.eval (.tmp t))->
  (∀c f d,ops[c]?=some f->f.dst=some d->L c=false->a.eval (.tmp d)=a0.eval (.tmp d))->e L (sv ops a) w->
  (∀g b,o.guard=some (g,b)->((ops[g]?).bind (·.dst)).isSome=true/\sv ops a g=.bool b)/\kB P a o w λv w'=>e (up L i true) (up (sv ops a) i (vd o v)) w'
def RU.final{j:(Nat->Bool)->(Nat->Value)->World->Prop}(hn:(lB ops).Nodup)(k:∀o∈ops,∀d,o.dst=some d->d<a0.tmps.size){l:Array Bool}{a:Act}{w:World}(h:RU ops a0 j l a w)
  (u:∀c,c<ops.length->l.getD c false=true) (v:∀(L:Nat->Bool) (m:Nat->Value) (w:World),(∀c,c<ops.length->L c=true)->j L m w->Q .normal (lz a0 ops m 0) w):Q .normal a w:=by
 have:=v _ _ w u h.j;have he:lz a0 ops (sv ops a) 0=a:=by
  have n:(lz a0 ops (sv ops a) 0).tmps=a.tmps:=by apply Array.ext_getElem?;intro t;by_cases f:t∈lB ops;have g:=f;unfold lB at g;rw[SN]at g;obtain⟨o,i,hd⟩:=g;obtain⟨c,x,e⟩:=Tz i;have p:ops[c]?=some o:=(by simp[x,e]);rw[yN ops a0 _ 0 c o t hn p hd (k o i t hd),Q7,sq p];have y:t<a.tmps.size:=(by rw[h.ES];exact k o i t hd);simp[mv,hd,Act.eval,R9 y];rw[rS ops a0 _ 0 t f];exact(h.fix t (by simpa using f)).symm
  have q:=tJ ops a0 (sv ops a) 0;have r:=h.defers;generalize sv ops a=s at*;obtain⟨z,A⟩:=a;generalize lz a0 ops s 0=b at*;obtain⟨B,C⟩:=b;simp only at n q r;rw[n,q,r]
 rw[he]at this;exact this
def RU.step{u:(Nat->Bool)->(Nat->Value)->World->Prop}(hn:(lB ops).Nodup)(C:∀o∈ops,∀d,o.dst=some d->d<a0.tmps.size)(N:∀i o,ops[i]?=some o->N0 P ops a0 u i o){m:Array Bool}{a:Act}{w:World}(h:RU ops a0 u m a w){i:Nat}(hi:i∈Region.ready .any ops.toArray m)
  {K:Act->World->Prop} (hK:∀a w,RU ops a0 u (m.setIfInBounds i true) a w->K a w):wpOp P ops.toArray Q i K a w:=by
 rw[Ue]at hi;obtain⟨q,o,D,E⟩:=hi;have n:ops[i]?=some o:=by simpa using D
 have O:∀f,lv o f=true->m.getD f false=true:=λf j=>by unfold lv at j;rw[TN]at j;obtain⟨k,x,j⟩:=j;simp only[R1,R2]at j;have:=E k (by simpa using x) j.1;rwa [j.2]at this
 have F:∀{t:Nat},a.tmps[t]?=a0.tmps[t]? ->a.eval (.tmp t)=a0.eval (.tmp t):=λh=>by simp only[Act.eval,RZ,h]
 have G:i<m.size:=by rcases SP i m.size with y|y;exact y;rw[RZ,TZ y]at q;simp at q
 have R:m.getD i false=false:=by rw[RZ]at q⊢;rw[R9 G]at q⊢;simpa using q
 obtain⟨S,hp⟩:=N i o n (λf=>m.getD f false) a w R O (λk f x hd=>xr h.closed _ k f hd x) (λt s=>F (h.fix t s)) (λf p d j hd hx=>F (h.Nh f p d j hd hx)) h.j;unfold wpOp;simp only[D];have T:Region.wanted o (yielded ops.toArray a.tmps)=true:=by
  unfold Region.wanted;cases hg:o.guard with
  |none=>rfl
  |some gb=>
   obtain⟨g,b⟩:=gb;obtain⟨I,hv⟩:=S g b hg;rw[TP]at I;obtain⟨d,hd⟩:=I;rw[TT]at hd;obtain⟨J,z,hd⟩:=hd;rw[sq z]at hv;have L:d<a.tmps.size:=(by rw[h.ES];exact C J (QS z) d hd);have U:a.tmps[d]?=some (.bool b):=by unfold mv at hv;rw[hd]at hv;simp only[Act.eval,RZ,R9 L,Sz]at hv;rw[R9 L,hv]
   have V:ops.toArray[g]?=some J:=(by simpa using z);simp[yielded,V,hd,U]
 rw[RB T];refine .inl (hp.wp λv w' hv=>hK _ _ ?_);have aa:∀d,o.dst=some d->d<a.tmps.size:=λd hd=>by rw[h.ES];exact C o (QS n) d hd
 have A:∀f,f≠i->(m.setIfInBounds i true).getD f false=m.getD f false:=λf j=>getD_set_ne false (S4 j);have M:(m.setIfInBounds i true).getD i false=true:=by rw[RZ,SI G];rfl
 refine⟨by simpa using h.size,by rw[put_defers];exact h.defers,by rw[Bq];exact h.ES,λt s=>?_,λf p d j hd r=>?_,λf p j r e he hb=>?_,?_⟩
 .rw[<-h.fix t s];cases hd:o.dst with
  |none=>rfl
  |some d=>
   have B:d≠t:=λe=>by have:t∈lB ops:=(by unfold lB;rw[SN];exact⟨o,QS n,by rw[hd,e]⟩);rw[<-T1,s]at this;cases this
   simp[Act.put,R7 B]
 .have l:f≠i:=λe=>by subst e;rw[M]at r;cases r
  rw[<-h.Nh f p d j hd (by rw[<-A f l];exact r)];cases K4:o.dst with
  |none=>rfl
  |some c=>
   have B:c≠d:=λe=>by subst e;exact l (E0 hn j n hd K4)
   simp[Act.put,R7 B]
 .by_cases l:f=i;subst l;rw[n]at j;injection j with j;subst j;exact getD_set_true (E e he hb);exact getD_set_true (h.closed f p j (by rw[<-A f l];exact r) e he hb)
 .have ab:(λf=>(m.setIfInBounds i true).getD f false)=up (λf=>m.getD f false) i true:=by funext f;unfold up;by_cases l:f=i;rw[RB l,l,M];rw[Rh l,A f l]
  have ac:sv ops (a.put o.dst v)=up (sv ops a) i (vd o v):=by
   funext f;unfold up;by_cases l:f=i;rw[RB l,l,sq n,Dr a v aa];rw[Rh l];cases j:ops[f]? with
   |none=>simp[sv,j]
   |some p=>rw[sq j,sq j,FP hn n j (S4 l)]
  rw[ab,ac];exact hv
def RU.any{g:(Nat->Bool)->(Nat->Value)->World->Prop}(j:∀i o,ops[i]?=some o->∀e∈o.after,Region.binds .any e=true->e.on<i)(hn:(lB ops).Nodup)(c:∀o∈ops,∀d,o.dst=some d->d<a0.tmps.size)(l:∀i o,ops[i]?=some o->N0 P ops a0 g i o)
  (k:∀(L:Nat->Bool) (m:Nat->Value) (w:World),(∀n,n<ops.length->L n=true)->g L m w->Q .normal (lz a0 ops m 0) w):
  ∀(f:Nat) (b:Array Bool) (a:Act) (w:World),M4 b=f->RU ops a0 g b a w->wpAny P .any ops.toArray Q f b a w
 |0,b,a,w,hu,h=>by
  have hr:Region.ready .any ops.toArray b=[]:=by
   cases hx:Region.ready .any ops.toArray b with
   |nil=>rfl
   |cons i s=>have:i∈Region.ready .any ops.toArray b:=(by rw[hx];exact Sq);rw[Ue]at this;have:=EZ this.1;omega
  exact⟨hr,h.final hn c (xt j h.size hr) k⟩
 |f+1,b,a,w,hu,h=>by refine⟨λhr=>h.final hn c (xt j h.size hr) k,λi hi=>h.step hn c l hi λq w' r=>?_⟩;have p:=hi;rw[Ue]at p;have:=EZ p.1;exact RU.any j hn c l k f _ q w' (by omega) r
def La{w0:World}(c:(Nat->Bool)->(Nat->Value)->World->Prop)(j:rH ops=true)(k:(ops.all λo=>match o.dst with|some d=>decide (d<a0.tmps.size)|none=>true)=true)
  (l:∀b,c (λ_=>false) b {w0 with drawn:=w0.drawn+1}) (m:∀i o,ops[i]?=some o->N0 P ops a0 c i o)
  (n:∀(L:Nat->Bool) (b:Nat->Value) (w:World),(∀a,a<ops.length->L a=true)->c L b w->Q .normal (lz a0 ops b 0) w):wpAny P .any ops.toArray Q ops.toArray.size (Array.replicate ops.toArray.size false) a0 {w0 with drawn:=w0.drawn+1}:=by
 obtain⟨p,hn⟩:=vS j;have q:∀o∈ops,∀d,o.dst=some d->d<a0.tmps.size:=λo r d hd=>by have:=Sg.1 k o r;rw[hd]at this;simpa using this
 have f:∀a,(Array.replicate ops.toArray.size false).getD a false=false:=λa=>by rw[RZ,Array.getElem?_replicate];split<;>rfl
 have hu:M4 (Array.replicate ops.toArray.size false)=ops.toArray.size:=by simp[M4]
 refine RU.any p hn q m n _ _ _ _ hu ⟨by simp,rfl,rfl,λ_ _=>rfl,λ_ _ _ _ _ _=>rfl,λa s t g=>?_,?_⟩
 .rw[f a]at g;cases g
 .have e:(λa=>(Array.replicate ops.toArray.size false).getD a false)=λ_=>false:=funext f;rw[e];exact l _
def Ce{id:Nat}{w0:World}(a:(Nat->Bool)->(Nat->Value)->World->Prop)(hm:P.follows .mixedOrders=true)(e:rH ops=true)(f:(ops.all λo=>match o.dst with|some d=>decide (d<a0.tmps.size)|none=>true)=true)
  (g:∀b,a (λ_=>false) b {w0 with drawn:=w0.drawn+1}) (j:∀i o,ops[i]?=some o->N0 P ops a0 a i o)
  (k:∀(L:Nat->Bool) (b:Nat->Value) (w:World),(∀c,c<ops.length->L c=true)->a L b w->Q .normal (lz a0 ops b 0) w):(Code.region id ops.toArray true).wp P Q a0 w0:=
 wp_region_any hm (La a e f g j k)
abbrev Ni:=List (Nat×Nat×((Nat->Bool)->Value->Value->World->Prop))
def OS(P:Program)(ops:List Oper)(a0:Act)(G:(Nat->Bool)->World->Prop)(VP:Nat->Value->Prop)(D:Ni)(i:Nat)(o:Oper):Prop:=
 ∀(L:Nat->Bool) (a:Act) (w:World),L i=false->(∀b,lv o b=true->L b=true)->(∀b,lV ops ops.length b i=true->L b=false)->G L w->(∀t,(lB ops).contains t=false->a.eval (.tmp t)=a0.eval (.tmp t))->
  (∀b c,ops[b]?=some c->lv o b=true->VP b (mv a c))->(∀e∈D,∀c ok,ops[e.1]?=some c->ops[e.2.1]?=some ok->lv o e.1=true->e.2.2 L (mv a c) (mv a ok) w)->
  (∀b c d,ops[b]?=some c->c.dst=some d->lV ops ops.length b i=true->a.eval (.tmp d)=a0.eval (.tmp d))->
  kB P a o w λv w'=>VP i (vd o v)/\G (up L i true) w'/\∀e∈D,(e.1=i->∀ok,ops[e.2.1]?=some ok->e.2.2 (up L i true) (vd o v) (if e.2.1=i then vd o v else mv a ok) w')/\(e.1≠i->lV ops ops.length e.1 i=false->∀u u2,e.2.2 L u u2 w->e.2.2 (up L i true) u u2 w')
def qo{id:Nat}{w0:World}(G:(Nat->Bool)->World->Prop)(VP:Nat->Value->Prop)(D:Ni)(hm:P.follows .mixedOrders=true)(J:rH ops=true)(K:∀e∈D,e.2.1=e.1\/lV ops ops.length e.1 e.2.1=true)(M:vI ops VP ops)(n:Nat)(hn:a0.tmps.size=n)(N:(ops.all λo=>match o.dst with|some d=>decide (d<n)|none=>true)=true)(O:G (λ_=>false) {w0 with drawn:=w0.drawn+1})(R:∀i o,ops[i]?=some o->OS P ops a0 G VP D i o)
  (S:∀(L:Nat->Bool) (j:Nat->Value) (w:World),(∀c,c<ops.length->L c=true)->G L w->(∀c,c<ops.length->VP c (j c))->(∀e∈D,e.1<ops.length->e.2.1<ops.length->e.2.2 L (j e.1) (j e.2.1) w)->Q .normal (lz a0 ops j 0) w):(Code.region id ops.toArray true).wp P Q a0 w0:=by
 subst hn;have p:∀{c:Nat} {o:Oper},ops[c]?=some o->c<ops.length:=λh=>(Q9.1 h).1;refine Ce (λL j w=>G L w/\(∀c,c<ops.length->L c=true->VP c (j c))/\∀e∈D,e.1<ops.length->e.2.1<ops.length->L e.1=true->e.2.2 L (j e.1) (j e.2.1) w) hm J N (λ_=>⟨O,λ_ _ h=>Bool.noConfusion h,λ_ _ _ _ h=>Bool.noConfusion h⟩) (λi o hi L a w t hb hc hf hw ⟨g,hv,hd⟩=>⟨λu b T=>?_,?_⟩) (λL j w hL ⟨g,hv,hd⟩=>S L j w hL g (λc f=>hv c f (hL c f)) λe he q x=>hd e he q x (hL _ q))
 .obtain⟨U,y,V⟩:=M.ll o (QS hi) u b T;refine⟨y,?_⟩;rw[TP]at y;obtain⟨d,hd⟩:=y;rw[TT]at hd;obtain⟨ac,aa,_⟩:=hd;exact V _ (hv u (p aa) (hb u U))
 .have z:∀c,lV ops ops.length c i=true->L c=false:=λc f=>by
   cases hx:L c with
   |false=>rfl
   |true=>have:=hc c i hx f;rw[t]at this;cases this
  refine(R i o hi L a w t hb z g hf (λc A f B=>sq f▸hv c (p f) (hb c B)) (λe he A ok f m B=>sq f▸sq m▸hd e he (p f) (p m) (hb _ B)) λc A d f hd' hx=>hw c A d f hd' (z c hx)).imp λv w' ⟨q,x,E⟩=>⟨x,λc f hL=>?_,λe he ab F hL=>?_⟩
  unfold up at hL⊢;by_cases k:c=i;rw[RB k,k];exact q;rw[Rh k]at hL⊢;exact hv c f hL;have m:ops[e.2.1]?=some ops[e.2.1]:=(by simp[F]);by_cases k:e.1=i;have r:=(E e he).1 k _ m;rw[show up (sv ops a) i (vd o v) e.1=vd o v by unfold up;rw[RB k]];by_cases l:e.2.1=i;rw[RB l]at r;rw[show up (sv ops a) i (vd o v) e.2.1=vd o v by unfold up;rw[RB l]];exact r;rw[Rh l]at r;rw[show up (sv ops a) i (vd o v) e.2.1=mv a ops[e.2.1]by unfold up;rw[Rh l,sq m]];exact r;have C:L e.1=true:=(by unfold up at hL;rw[Rh k]at hL;exact hL);have l:e.2.1≠i:=λI=>by rcases K e he with s|s;exact k (s.symm.trans I);rw[I]at s;have:=hc _ _ C s;rw[t]at this;cases this
  rw[show up (sv ops a) i (vd o v) e.1=sv ops a e.1 by unfold up;rw[Rh k],show up (sv ops a) i (vd o v) e.2.1=sv ops a e.2.1 by unfold up;rw[Rh l]];refine(E e he).2 k ?_ _ _ (hd e he ab F C);cases hx:lV ops ops.length e.1 i with
  |false=>rfl
  |true=>have:=z _ hx;rw[C]at this;cases this
def Aa{VP:Nat->Value->Prop}:∀{l:List Oper},(∀o∈l,o.guard=none)->vI ops VP l
 |[],_=>trivial
 |o::l,h=>⟨by rw[h o (by simp)];trivial,Aa λo a=>h o (by simp[a])⟩
def Oh(h:rU ops=true):rH ops=true/\∀o∈ops,o.guard=none:=by unfold rU at h;unfold rH;simp only[R1]at h⊢;exact⟨⟨h.1.2,h.2⟩,λo a=>by simpa using Sg.1 h.1.1 o a⟩
def xU{id:Nat}{w0:World}(G:World->Prop)(VP:Nat->Value->Prop)(D:yq)(hm:P.follows .mixedOrders=true)(f:rH ops=true)(j:(D.all λe=>e.2.1==e.1||lV ops ops.length e.1 e.2.1)=true)(k:vI ops VP ops)(n:Nat)(hn:a0.tmps.size=n)(l:(ops.all λo=>match o.dst with|some d=>decide (d<n)|none=>true)=true)(m:G {w0 with drawn:=w0.drawn+1})(p:E1 P ops a0 G VP D 0 ops)
  (q:∀(b:Nat->Value) (w:World),G w->(∀c,c<ops.length->VP c (b c))->(∀e∈D,e.1<ops.length->e.2.1<ops.length->e.2.2 (b e.1) (b e.2.1) w)->Q .normal (lz a0 ops b 0) w):(Code.region id ops.toArray true).wp P Q a0 w0:=by
 refine qo (λ_=>G) VP (D.map λe=>(e.1,e.2.1,λ_=>e.2.2)) hm f ?_ k n hn l m (λi o hi L a w _ _ _ g hf hv hd hw=>?_) λ_ b w _ g hv hd=>q b w g hv λe he=>hd _ (SJ he)
 .rw[SK];exact λe he=>by simpa using Sg.1 j e he
 .have:=p.ll i o hi;rw[Q7]at this;refine(this a w g hf hv (λe he=>hd _ (SJ he)) hw).imp λv w' ⟨r,s,t⟩=>⟨r,s,?_⟩
  rw[SK];exact t
def mU{id:Nat}{w0:World}(G:(Nat->Bool)->World->Prop)(VP:Nat->Value->Prop)(D:oo)(hm:P.follows .mixedOrders=true)(m:rU ops=true)(n:Nat)(hn:a0.tmps.size=n)(p:(ops.all λo=>match o.dst with|some d=>decide (d<n)|none=>true)=true)(q:G (λ_=>false) {w0 with drawn:=w0.drawn+1})(r:E3 P ops a0 G VP D 0 ops)
  (s:∀(L:Nat->Bool) (c:Nat->Value) (w:World),(∀b,b<ops.length->L b=true)->G L w->(∀b,b<ops.length->VP b (c b))->(∀e∈D,e.1<ops.length->e.2 (c e.1) w)->Q .normal (lz a0 ops c 0) w):(Code.region id ops.toArray true).wp P Q a0 w0:=by
 obtain⟨t,x⟩:=Oh m;refine qo G VP (D.map λe=>(e.1,e.1,λ_ v _ w=>e.2 v w)) hm t ?_ (Aa x) n hn p q (λi o hi L a w hL hb hx g hf hv hd hw=>?_) λL c w hL g hv hd=>s L c w hL g hv λe he f=>hd _ (SJ he) f f
 .rw[SK];exact λ_ _=>.inl rfl
 .have:=r.ll i o hi;rw[Q7]at this;refine(this L a w hL hb hx g hf hv (λe he j k=>hd _ (SJ he) j j k k) hw).imp λv w' ⟨f,y,l⟩=>⟨f,y,?_⟩
  rw[SK];exact λe he=>⟨λh _ _=>(l e he).1 h,λh hd u _=>(l e he).2 h hd u⟩
def yx{id:Nat}{w0:World}(G:World->Prop)(VP:Nat->Value->Prop)(D:oo)(hm:P.follows .mixedOrders=true)(f:rU ops=true)(n:Nat)(hn:a0.tmps.size=n)(j:(ops.all λo=>match o.dst with|some d=>decide (d<n)|none=>true)=true)(k:G {w0 with drawn:=w0.drawn+1})(m:C5 P ops a0 G VP D 0 ops)
  (p:∀(b:Nat->Value) (w:World),G w->(∀c,c<ops.length->VP c (b c))->(∀e∈D,e.1<ops.length->e.2 (b e.1) w)->Q .normal (lz a0 ops b 0) w):(Code.region id ops.toArray true).wp P Q a0 w0:=by
 refine mU (λ_=>G) VP D hm f n hn j k ?_ λ_ b w _ g hv hd=>p b w g hv hd;have:∀{l:List Oper} {i:Nat},C5 P ops a0 G VP D i l->E3 P ops a0 (λ_=>G) VP D i l:=λ{l}=>by
  induction l with
  |nil=>exact λ_=>trivial
  |cons o l q=>exact λh=>⟨λ_ a w _ _ _=>h.1 a w,q h.2⟩
 exact this m
def xV{id:Nat}{w0:World}(p:Nat)(G:Bool->World->Prop)(VP:Nat->Value->Prop)(D:oo)(hm:P.follows .mixedOrders=true)(r:rU ops=true)(c:Hw ops p=true)(n:Nat)(hn:a0.tmps.size=n)(s:(ops.all λo=>match o.dst with|some d=>decide (d<n)|none=>true)=true)(t:G false {w0 with drawn:=w0.drawn+1})(x:E2 P ops a0 G p VP D 0 ops)
  (y:∀(f:Nat->Value) (w:World),G true w->(∀j,j<ops.length->VP j (f j))->(∀e∈D,e.1<ops.length->e.2 (f e.1) w)->Q .normal (lz a0 ops f 0) w):(Code.region id ops.toArray true).wp P Q a0 w0:=by
 obtain⟨z,A⟩:=Oh r;unfold Hw at c;simp only[R1,SR,Sg,Tj]at c;obtain⟨hp,c⟩:=c;refine qo (λL=>G (L p)) VP (D.map λe=>(e.1,e.1,λ_ v _ w=>e.2 v w)) hm z ?_ (Aa A) n hn s t (λi o hi L a w hL hb hx g hf hv hd hw=>?_) λL f w hL g hv hd=>y f w (hL p hp▸g) hv λe he b=>hd _ (SJ he) b b
 .rw[SK];exact λ_ _=>.inl rfl
 .have:=x.ll i o hi;rw[Q7]at this;have B:i<ops.length:=(Q9.1 hi).1;have b:=c i B;rw[hi]at b;have k:L p=decide (p<i):=by rcases Nat.lt_trichotomy i p with h|h|h;rw[RB h]at b;rw[hx p b.1];simp;omega;rw[<-h,hL];simp;rw[RB h]at b;rw[hb p b.2];simp[h]
  have C:up L i true p=decide (p<=i):=by unfold up;by_cases h:p=i;rw[RB h,h];simp;rw[Rh h,k];simp;omega
  refine(this a w (k▸g) hf hv (λe he l m=>hd _ (SJ he) l l m m) hw).imp λv w' ⟨b,E,q⟩=>⟨b,by show G (up L i true p) w';rw[C];exact E,?_⟩
  rw[SK];exact λe he=>⟨λh _ _=>(q e he).1 h,λh hd u _=>(q e he).2 h hd u⟩
def Br{w0:World}(G:World->Prop)(m:(Nat->Value)->Value->World->Prop)(VP:Nat->Value->Prop)(D:oo)(B:rU ops=true)(r:uT ops=true)(U:0<ops.length)(n:Nat)(hn:a0.tmps.size=n)(C:(ops.all λo=>match o.dst with|some d=>decide (d<n)|none=>true)=true)(E:G {w0 with drawn:=w0.drawn+1})(F:rJ P ops a0 G m VP D 0 ops)
  (I:∀(j:Nat->Value) (w:World),(∀c,c<ops.length-1->VP c (j c))->m (λc=>if c<ops.length-1 then j c else undef) (j (ops.length-1)) w->Q .normal (lz a0 ops j 0) w):wpAny P .any ops.toArray Q ops.toArray.size (Array.replicate ops.toArray.size false) a0 {w0 with drawn:=w0.drawn+1}:=by
 obtain⟨s,J⟩:=Oh B;subst hn;have t:∀{c:Nat} {o:Oper},ops[c]?=some o->c<ops.length:=λh=>(Q9.1 h).1;have K:∀c,c<ops.length-1->lV ops ops.length (ops.length-1) c=true:=λc f=>by unfold uT at r;exact Sg.1 r c (Tj.2 f)
 refine La (λL j w=>(∀c,c<ops.length-1->L c=true->VP c (j c))/\(L (ops.length-1)=false->G w/\∀e∈D,e.1<ops.length->L e.1=true->e.2 (j e.1) w)/\(L (ops.length-1)=true->m (λc=>if c<ops.length-1 then j c else undef) (j (ops.length-1)) w)) s C (λ_=>⟨λ_ _ h=>by(cases h),λ_=>⟨E,λ_ _ _ h=>by cases h⟩,λh=>by cases h⟩) (λi o hi L a w u hb hc hf hw ⟨hv,hd,hF⟩=>⟨λV b x=>?_,?_⟩) λL j w hL ⟨hv,_,hF⟩=>I j w (λc f=>hv c f (hL c (by omega))) (hF (hL _ (by omega)))
 .rw[J o (QS hi)]at x;cases x
 .have p:∀c,lV ops ops.length c i=true->L c=false:=λc f=>by
   cases hx:L c with
   |false=>rfl
   |true=>have:=hc c i hx f;rw[u]at this;cases this
  have aa:=t hi;have y:L (ops.length-1)=false:=by rcases SP i (ops.length-1)with h|h;exact p _ (K i h);rw[show ops.length-1=i by omega];exact u
  obtain⟨g,hd⟩:=hd y;have M:∀{c:Nat},lv o c=true->c<ops.length-1:=λ{c} f=>by unfold lv at f;rw[TN]at f;obtain⟨e,he,f⟩:=f;simp only[R1,R2]at f;have:=(vS s).1 i o hi e (by simpa using he) f.1;omega
  obtain⟨N,O⟩:=F.ll i o hi a w g hf (λc q f l=>sq f▸hv c (M l) (hb c l)) (λe he q f l=>sq f▸hd e he (t f) (hb _ l)) λc q d f hd' hx=>hw c q d f hd' (p c (by rw[Q7]at hx;exact hx));by_cases R:i+1=ops.length;refine(N R).imp λv w' h=>⟨λc f hL=>?_,λhL=>?_,λ_=>?_⟩
  unfold up at hL⊢;rw[Rh (by omega)]at hL⊢;exact hv c f hL;unfold up at hL;rw[RB (by omega)]at hL;cases hL;have e:(λc=>if c<ops.length-1 then up (sv ops a) i (vd o v) c else undef)=vo ops a:=by funext c;unfold vo up;by_cases f:c<ops.length-1;rw[RB f,RB f,Rh (by omega)];rfl;rw[Rh f,Rh f]
  rw[e,show up (sv ops a) i (vd o v) (ops.length-1)=vd o v by unfold up;rw[RB (by omega)]];exact h;refine(O (by omega)).imp λv w' ⟨z,S,A⟩=>⟨λc f hL=>?_,λhL=>⟨S,λe he T hL=>?_⟩,λhL=>?_⟩
  unfold up at hL⊢;by_cases k:c=i;rw[RB k,k];rw[Q7]at z;exact z;rw[Rh k]at hL⊢;exact hv c f hL;unfold up at hL⊢;by_cases k:e.1=i;rw[RB k];exact(A e he).1 (by rw[Q7];exact k);rw[Rh k]at hL⊢;refine(A e he).2 (by rw[Q7];exact k) ?_ _ (hd e he T hL);rw[Q7];cases hx:lV ops ops.length e.1 i with
  |false=>rfl
  |true=>have:=p _ hx;rw[hL]at this;cases this
  unfold up at hL;rw[Rh (by omega),y]at hL;cases hL
def sM{id:Nat}{w0:World}(G:World->Prop)(c:(Nat->Value)->Value->World->Prop)(VP:Nat->Value->Prop)(D:oo)(hm:P.follows .mixedOrders=true)(e:rU ops=true)(f:uT ops=true)(g:0<ops.length)(n:Nat)(hn:a0.tmps.size=n)(i:(ops.all λo=>match o.dst with|some d=>decide (d<n)|none=>true)=true)(j:G {w0 with drawn:=w0.drawn+1})(k:rJ P ops a0 G c VP D 0 ops)
  (l:∀(b:Nat->Value) (w:World),(∀a,a<ops.length-1->VP a (b a))->c (λa=>if a<ops.length-1 then b a else undef) (b (ops.length-1)) w->Q .normal (lz a0 ops b 0) w):(Code.region id ops.toArray true).wp P Q a0 w0:=
 wp_region_any hm (Br G c VP D e f g n hn i j k l)
def xW{id:Nat}{w0:World}(G:World->Prop)(a:Value->World->Prop)(VP:Nat->Value->Prop)(D:oo)(hm:P.follows .mixedOrders=true)(e:rU ops=true)(f:uT ops=true)(g:0<ops.length)(n:Nat)(hn:a0.tmps.size=n)(i:(ops.all λo=>match o.dst with|some d=>decide (d<n)|none=>true)=true)(j:G {w0 with drawn:=w0.drawn+1})(k:zZ P ops a0 G a VP D 0 ops)
  (l:∀(b:Nat->Value) (w:World),(∀c,c<ops.length-1->VP c (b c))->a (b (ops.length-1)) w->Q .normal (lz a0 ops b 0) w):(Code.region id ops.toArray true).wp P Q a0 w0:=
 sM G (λ_=>a) VP D hm e f g n hn i j k l
end
def mM(l:List (Value->Prop))(a:Nat)(v:Value):Prop:=(l[a]?.getD λ_=>True) v
def lu{a:Act}{t:Nat}{v:Value}(h:a.eval (.tmp t)=v):a.tmps[t]?.getD undef=v:=by rw[<-h];simp[Act.eval]
def kB.lF{P:Program}{a:Act}{o:Oper}{w:World}{b:Value->World->Prop}(h:∀K:Value->World->Prop,(∀v w',b v w'->K v w')->kB P a o w K):kB P a o w b:=h _ λ_ _ h=>h
end Go.Proofs.YtbdipimmpgijaaaGreatDoor
universe u
def Xq{b:Sort u}(a:b):∃q,q=a:=⟨a,rfl⟩
def Gx{a:Type}{l:List a}{k:Nat}(h:k<l.length):∃x,l[k]?=some x:=⟨_,List.getElem?_eq_getElem h⟩
def Ms{p:Prop}(h:p:=by simp[Go.RowKit.intOf];omega):p:=h
namespace Go.Proofs.YtbdipimmpgijaaaGreatDoor
open Go Go.Proofs.Tryz
def Sl{a:Act}(t:Nat){v:Value}(h:a.eval (.tmp t)=v):a.tmps[t]?.getD undef=v:=lu h
def Ba(w:World)(a:Obj):RowKit.Below w.heap.size w (w.alloc a):=(RowKit.Below.refl w.heap.size w).alloc (QX _) a
def Cb{w w':World}(b o:Nat)(h:w'.heap[b]?=w.heap[b]?):w'.cell? ⟨b,o,none⟩=w.cell? ⟨b,o,none⟩:=World.cell?_of_block (a:=⟨b,o,none⟩) h
def Lb{a b:Nat}(h:Nat.ble (a+1) b=true:=by rfl):a<b:=Nat.le_of_ble_eq_true h
def Mm{a:Type}{l:List a}{x:a}(k:Nat)(h:l[k]?=some x):x∈l:=QS h
abbrev Tr:Value->Prop:=λ_=>True
def cv(v:Value):Operand->Value
 | .const c=>c
 |_=>v
section
variable {P:Program} {a:Act} {o:Oper} {w:World} {K:Value→World→Prop}
def kB.p(t:Nat){v u:Value}(e:a.eval (.tmp t)=v)(b:K u w)(hx:execOp a.eval o=execOp (cv (a.eval (.tmp t))) o:=by rfl)(hr:(execOp (cv v) o).run P w=.ok (.value u) w:=by kernel_rfl):kB P a o w K:=by unfold kB;rw[hx,e,hr];exact b
def kB.h{b:Value->World->Prop}(h:∀K:Value->World->Prop,(∀{v w'},b v w'->K v w')->su P w K ((execOp a.eval o).run P w)):kB P a o w b:=h _ λh=>h
def kB.q{b:Value->World->Prop}{v:Value}{w':World}(e:∀K:Value->World->Prop,K v w'->su P w K ((execOp a.eval o).run P w):=by intro K k;go_simp;exact k)(g:b v w'):kB P a o w b:=kB.h λK hK=>e K (hK g)
def kB.l(x:Nat){t:TypeId}{p:Addr}{u:Value}(e:a.eval (.tmp x)=.pointer (some p))(c:w.cell? p=some u)(b:K u w)(d:o.op=.load t (.tmp x):=by rfl)(f:(isAgg t).run P w=.ok false w:=by kernel_rfl):kB P a o w K:=by unfold kB execOp;simp only[d,e,Instr.loadAt,Instr.sureAddr,RD,RF,Ro,loadVar,f,Bool.false_eq_true,if_false,run_load,c,su];exact b
end
section
variable {ops:List Oper} {i:Nat} {v:Value} {w w':World}
def Qa{D:oo}(h:(D.all λe=>!(e.1==i))=true:=by rfl):∀e∈D,(e.1=i->e.2 v w)/\(e.1≠i->lV ops ops.length e.1 i=false->∀u,e.2 u w->e.2 u w):=λe he=>by have:=Sg.1 h e he;simp at this;exact⟨λh=>absurd h this,λ_ _ _ hu=>hu⟩
def Qb{D:oo}{e:Nat×(Value->World->Prop)}(t:∀e∈D,(e.1=i->e.2 v w')/\(e.1≠i->lV ops ops.length e.1 i=false->∀u,e.2 u w->e.2 u w'))(h:(e.1==i)=false:=by rfl)(k:lV ops ops.length e.1 i=false->∀u,e.2 u w->e.2 u w':=by first|exact λ_ _ h=>h|exact λh=>Bool.noConfusion (show true=false from h)):∀x∈e::D,(x.1=i->x.2 v w')/\(x.1≠i->lV ops ops.length x.1 i=false->∀u,x.2 u w->x.2 u w'):=
 Rs.2 ⟨⟨λe=>by rw[e]at h;simp at h,λ_=>k⟩,t⟩
def Q2{D:oo}{a b:Nat×(Value->World->Prop)}(t:∀e∈D,(e.1=i->e.2 v w')/\(e.1≠i->lV ops ops.length e.1 i=false->∀u,e.2 u w->e.2 u w'))(c:(a.1==i)=false:=by rfl)(d:lV ops ops.length a.1 i=false->∀u,a.2 u w->a.2 u w':=by first|exact λ_ _ h=>h|exact λh=>Bool.noConfusion (show true=false from h))(f:(b.1==i)=false:=by rfl)(g:lV ops ops.length b.1 i=false->∀u,b.2 u w->b.2 u w':=by first|exact λ_ _ h=>h|exact λh=>Bool.noConfusion (show true=false from h)):∀x∈a::b::D,(x.1=i->x.2 v w')/\(x.1≠i->lV ops ops.length x.1 i=false->∀u,x.2 u w->x.2 u w'):=
 Qb (Qb t f g) c d
def Q4{D:oo}{a b e3 e4:Nat×(Value->World->Prop)}(t:∀e∈D,(e.1=i->e.2 v w')/\(e.1≠i->lV ops ops.length e.1 i=false->∀u,e.2 u w->e.2 u w'))(c:(a.1==i)=false:=by rfl)(d:lV ops ops.length a.1 i=false->∀u,a.2 u w->a.2 u w':=by first|exact λ_ _ h=>h|exact λh=>Bool.noConfusion (show true=false from h))(f:(b.1==i)=false:=by rfl)(g:lV ops ops.length b.1 i=false->∀u,b.2 u w->b.2 u w':=by first|exact λ_ _ h=>h|exact λh=>Bool.noConfusion (show true=false from h))(j:(e3.1==i)=false:=by rfl)(k:lV ops ops.length e3.1 i=false->∀u,e3.2 u w->e3.2 u w':=by first|exact λ_ _ h=>h|exact λh=>Bool.noConfusion (show true=false from h))(l:(e4.1==i)=false:=by rfl)(m:lV ops ops.length e4.1 i=false->∀u,e4.2 u w->e4.2 u w':=by first|exact λ_ _ h=>h|exact λh=>Bool.noConfusion (show true=false from h)):∀x∈a::b::e3::e4::D,(x.1=i->x.2 v w')/\(x.1≠i->lV ops ops.length x.1 i=false->∀u,x.2 u w->x.2 u w'):=
 Q2 (Q2 t j k l m) c d f g
def Qd{D:oo}{e:Nat×(Value->World->Prop)}(k:∀u,e.2 u w->e.2 u w')(t:∀e∈D,(e.1=i->e.2 v w')/\(e.1≠i->lV ops ops.length e.1 i=false->∀u,e.2 u w->e.2 u w'))(h:(e.1==i)=false:=by rfl):∀x∈e::D,(x.1=i->x.2 v w')/\(x.1≠i->lV ops ops.length x.1 i=false->∀u,x.2 u w->x.2 u w'):=
 Qb t h λ_=>k
def Qc{D:oo}{e:Nat×(Value->World->Prop)}(k:e.2 v w')(t:∀e∈D,(e.1=i->e.2 v w')/\(e.1≠i->lV ops ops.length e.1 i=false->∀u,e.2 u w->e.2 u w'))(h:(e.1==i)=true:=by rfl):∀x∈e::D,(x.1=i->x.2 v w')/\(x.1≠i->lV ops ops.length x.1 i=false->∀u,x.2 u w->x.2 u w'):=
 Rs.2 ⟨⟨λ_=>k,λn=>absurd (by simpa using h) n⟩,t⟩
def Qe{a:Type}{D:List a}{p:a->Prop}(h:D=[]:=by rfl):∀e∈D,p e:=by subst h;simp
end
section
variable {ops:List Oper} {i:Nat} {o:Oper} {a:Act} {v:Value} {w w':World}
abbrev F4(ops:List Oper)(i:Nat)(o:Oper)(a:Act)(v:Value)(w w':World)(e:Nat×Nat×(Value->Value->World->Prop)):Prop:=
 (e.1=i->∀ok,ops[e.2.1]?=some ok->e.2.2 (vd o v) (if e.2.1=i then vd o v else mv a ok) w')/\(e.1≠i->lV ops ops.length e.1 i=false->∀u u2,e.2.2 u u2 w->e.2.2 u u2 w')
def Ra{D:yq}(h:(D.all λe=>!(e.1==i))=true:=by rfl):∀e∈D,F4 ops i o a v w w e:=λe he=>by have:=Sg.1 h e he;simp at this;exact⟨λh=>absurd h this,λ_ _ _ _ hu=>hu⟩
def Rb{D:yq}{e:Nat×Nat×(Value->Value->World->Prop)}(t:∀e∈D,F4 ops i o a v w w' e)(h:(e.1==i)=false:=by rfl)(k:lV ops ops.length e.1 i=false->∀u u2,e.2.2 u u2 w->e.2.2 u u2 w':=by first|exact λ_ _ _ h=>h|exact λh=>Bool.noConfusion (show true=false from h)):∀x∈e::D,F4 ops i o a v w w' x:=
 Rs.2 ⟨⟨λe=>by rw[e]at h;simp at h,λ_=>k⟩,t⟩
def Rd{D:yq}{e:Nat×Nat×(Value->Value->World->Prop)}(k:∀u u2,e.2.2 u u2 w->e.2.2 u u2 w')(t:∀e∈D,F4 ops i o a v w w' e)(h:(e.1==i)=false:=by rfl):∀x∈e::D,F4 ops i o a v w w' x:=
 Rb t h λ_=>k
def Rc{D:yq}{e:Nat×Nat×(Value->Value->World->Prop)}(k:∀ok,ops[e.2.1]?=some ok->e.2.2 (vd o v) (if e.2.1=i then vd o v else mv a ok) w')(t:∀e∈D,F4 ops i o a v w w' e)(h:(e.1==i)=true:=by rfl):∀x∈e::D,F4 ops i o a v w w' x:=
 Rs.2 ⟨⟨λ_=>k,λn=>absurd (by simpa using h) n⟩,t⟩
end
def nL(k n:Nat)(h:k<n:=by omega):(0:Int)<=(k:Int)/\(k:Int)<(n:Int):=⟨Th k,Int.ofNat_lt.2 h⟩
def nx:=And.intro @lz.eq_1 (And.intro @lz.eq_2 (And.intro @Act.put.eq_1 (And.intro @List.setIfInBounds_toArray.{0} (And.intro @List.set_cons_zero.{0} @List.set_cons_succ.{0}))))
def kW{D:oo}{ops:List Oper}{o:Oper}{a:Act}{w:World}(hd:∀e∈D,∀b,ops[e.1]?=some b->lv o e.1=true->e.2 (mv a b) w)(k:Nat){e:Nat×(Value->World->Prop)}{b:Oper}(c:D[k]?=some e:=by rfl)(d:ops[e.1]?=some b:=by rfl)(f:lv o e.1=true:=by rfl):e.2 (mv a b) w:=hd e (Mm k c) b d f
def Sv{a:Act}(t:Nat){VP:Nat->Value->Prop}{ops:List Oper}{o:Oper}(hv:∀b c,ops[b]?=some c->lv o b=true->VP b (mv a c))(b:Nat){c:Oper}{v:Value}(d:ops[b]?=some c:=by rfl)(e:lv o b=true:=by rfl)(he:VP b (mv a c)->a.eval (.tmp t)=v:=by exact λh=>h):a.tmps[t]?.getD undef=v:=lu (he (hv b c d e))
section
variable {P:Program} {ops:List Oper} {a0:Act} {G:World→Prop} {VP:Nat→Value→Prop} {i:Nat} {o:Oper}
def Hg.f{D:oo}(t:Nat){u:Value}(b:(lB ops).contains t=false:=by rfl)(hu:VP i (vd o u):=by exact rfl)(hx:∀a:Act,execOp a.eval o=execOp (cv (a.eval (.tmp t))) o:=by intro a;rfl)(hr:∀w,(execOp (cv (a0.eval (.tmp t))) o).run P w=.ok (.value u) w:=by intro w;kernel_rfl)(c:(D.all λe=>!(e.1==i))=true:=by rfl):Hg P ops a0 G VP D i o:=
 λa w d hf _ _ _=>.p t (hf t b) ⟨hu,d,Qa c⟩ (hx a) (hr w)
def Hg.v{D:oo}(t b:Nat){c:Oper}{v u:Value}(d:ops[b]?=some c:=by rfl)(f:lv o b=true:=by rfl)(he:∀a:Act,VP b (mv a c)->a.eval (.tmp t)=v:=by exact λ_ h=>h)(hu:VP i (vd o u):=by exact rfl)(hx:∀a:Act,execOp a.eval o=execOp (cv (a.eval (.tmp t))) o:=by intro a;rfl)(hr:∀w,(execOp (cv v) o).run P w=.ok (.value u) w:=by intro w;kernel_rfl)(g:(D.all λe=>!(e.1==i))=true:=by rfl):Hg P ops a0 G VP D i o:=
 λa w j _ hv _ _=>.p t (he a (hv b c d f)) ⟨hu,j,Qa g⟩ (hx a) (hr w)
def Hm.f{D:yq}(t:Nat){u:Value}(b:(lB ops).contains t=false:=by rfl)(hu:VP i (vd o u):=by exact rfl)(hx:∀a:Act,execOp a.eval o=execOp (cv (a.eval (.tmp t))) o:=by intro a;rfl)(hr:∀w,(execOp (cv (a0.eval (.tmp t))) o).run P w=.ok (.value u) w:=by intro w;kernel_rfl)(c:(D.all λe=>!(e.1==i))=true:=by rfl):Hm P ops a0 G VP D i o:=
 λa w d hf _ _ _=>.p t (hf t b) ⟨hu,d,Ra c⟩ (hx a) (hr w)
def Hm.v{D:yq}(t b:Nat){c:Oper}{v u:Value}(d:ops[b]?=some c:=by rfl)(f:lv o b=true:=by rfl)(he:∀a:Act,VP b (mv a c)->a.eval (.tmp t)=v:=by exact λ_ h=>h)(hu:VP i (vd o u):=by exact rfl)(hx:∀a:Act,execOp a.eval o=execOp (cv (a.eval (.tmp t))) o:=by intro a;rfl)(hr:∀w,(execOp (cv v) o).run P w=.ok (.value u) w:=by intro w;kernel_rfl)(g:(D.all λe=>!(e.1==i))=true:=by rfl):Hm P ops a0 G VP D i o:=
 λa w j _ hv _ _=>.p t (he a (hv b c d f)) ⟨hu,j,Ra g⟩ (hx a) (hr w)
def Pf{D:oo}(t:Nat){u:Value}(b:(lB ops).contains t=false:=by rfl)(hu:VP i (vd o u):=by exact rfl)(hx:∀a:Act,execOp a.eval o=execOp (cv (a.eval (.tmp t))) o:=by intro a;rfl)(hr:∀w,(execOp (cv (a0.eval (.tmp t))) o).run P w=.ok (.value u) w:=by intro w;kernel_rfl)(c:(D.all λe=>!(e.1==i))=true:=by rfl):Hg P ops a0 G VP D i o:=
 λa w d hf _ _ _=>.p t (hf t b) ⟨hu,d,Qa c⟩ (hx a) (hr w)
def Pv{D:oo}(t b:Nat){c:Oper}{v u:Value}(d:ops[b]?=some c:=by rfl)(f:lv o b=true:=by rfl)(he:∀a:Act,VP b (mv a c)->a.eval (.tmp t)=v:=by exact λ_ h=>h)(hu:VP i (vd o u):=by exact rfl)(hx:∀a:Act,execOp a.eval o=execOp (cv (a.eval (.tmp t))) o:=by intro a;rfl)(hr:∀w,(execOp (cv v) o).run P w=.ok (.value u) w:=by intro w;kernel_rfl)(g:(D.all λe=>!(e.1==i))=true:=by rfl):Hg P ops a0 G VP D i o:=
 λa w j _ hv _ _=>.p t (he a (hv b c d f)) ⟨hu,j,Qa g⟩ (hx a) (hr w)
def Hg.l{D:oo}(x b:Nat){d:Oper}{t:TypeId}{p:Addr}{u:Value}(c:∀w,G w->w.cell? p=some u)(g:ops[b]?=some d:=by rfl)(j:lv o b=true:=by rfl)(he:∀a:Act,VP b (mv a d)->a.eval (.tmp x)=.pointer (some p):=by exact λ_ h=>h)(hu:VP i (vd o u):=by exact rfl)(k:o.op=.load t (.tmp x):=by rfl)(l:∀w,(isAgg t).run P w=.ok false w:=by intro w;kernel_rfl)(m:(D.all λe=>!(e.1==i))=true:=by rfl):Hg P ops a0 G VP D i o:=
 λa w f _ hv _ _=>.l x (he a (hv b d g j)) (c w f) ⟨hu,f,Qa m⟩ k (l w)
def Pl{D:oo}(x b:Nat){d:Oper}{t:TypeId}{p:Addr}{u:Value}(c:∀w,G w->w.cell? p=some u)(f:ops[b]?=some d:=by rfl)(g:lv o b=true:=by rfl)(he:∀a:Act,VP b (mv a d)->a.eval (.tmp x)=.pointer (some p):=by exact λ_ h=>h)(hu:VP i (vd o u):=by exact rfl)(j:o.op=.load t (.tmp x):=by rfl)(k:∀w,(isAgg t).run P w=.ok false w:=by intro w;kernel_rfl)(l:(D.all λe=>!(e.1==i))=true:=by rfl):Hg P ops a0 G VP D i o:=
 Hg.l x b c f g he hu j k l
def Hn.f{G:Bool->World->Prop}{p:Nat}{D:oo}(t:Nat){u:Value}(b:decide (p<i)=decide (p<=i):=by rfl)(c:(lB ops).contains t=false:=by rfl)(hu:VP i (vd o u):=by exact rfl)(hx:∀a:Act,execOp a.eval o=execOp (cv (a.eval (.tmp t))) o:=by intro a;rfl)(hr:∀w,(execOp (cv (a0.eval (.tmp t))) o).run P w=.ok (.value u) w:=by intro w;kernel_rfl)(d:(D.all λe=>!(e.1==i))=true:=by rfl):Hn P ops a0 G p VP D i o:=
 λa w f hf _ _ _=>.p t (hf t c) ⟨hu,b▸f,Qa d⟩ (hx a) (hr w)
def Hn.v{G:Bool->World->Prop}{p:Nat}{D:oo}(t b:Nat){c:Oper}{v u:Value}(d:decide (p<i)=decide (p<=i):=by rfl)(f:ops[b]?=some c:=by rfl)(g:lv o b=true:=by rfl)(he:∀a:Act,VP b (mv a c)->a.eval (.tmp t)=v:=by exact λ_ h=>h)(hu:VP i (vd o u):=by exact rfl)(hx:∀a:Act,execOp a.eval o=execOp (cv (a.eval (.tmp t))) o:=by intro a;rfl)(hr:∀w,(execOp (cv v) o).run P w=.ok (.value u) w:=by intro w;kernel_rfl)(j:(D.all λe=>!(e.1==i))=true:=by rfl):Hn P ops a0 G p VP D i o:=
 λa w k _ hv _ _=>.p t (he a (hv b c f g)) ⟨hu,d▸k,Qa j⟩ (hx a) (hr w)
end
section
variable {P:Program} {ops:List Oper} {a0:Act} {Q:Exit→Act→World→Prop} {id:Nat} {w0:World}
def Ri(G:World->Prop)(VP:Nat->Value->Prop)(D:oo)(c:G {w0 with drawn:=w0.drawn+1})(f:C5 P ops a0 G VP D 0 ops)
  (g:∀(a:Nat->Value) (w:World),G w->(∀b,b<ops.length->VP b (a b))->(∀e∈D,e.1<ops.length->e.2 (a e.1) w)->Q .normal (lz a0 ops a 0) w)
  (hm:P.follows .mixedOrders=true:=by kernel_rfl) (i:rU ops=true:=by kernel_rfl) (j:(ops.all λo=>match o.dst with|some d=>decide (d<a0.tmps.size)|none=>true)=true:=by kernel_rfl):(Code.region id ops.toArray true).wp P Q a0 w0:=
 yx G VP D hm i _ rfl j c f g
def JG(G:World->Prop)(VP:Nat->Value->Prop)(D:yq)(c:G {w0 with drawn:=w0.drawn+1})(f:E1 P ops a0 G VP D 0 ops)
  (g:∀(a:Nat->Value) (w:World),G w->(∀b,b<ops.length->VP b (a b))->(∀e∈D,e.1<ops.length->e.2.1<ops.length->e.2.2 (a e.1) (a e.2.1) w)->Q .normal (lz a0 ops a 0) w)
  (hm:P.follows .mixedOrders=true:=by kernel_rfl) (i:rH ops=true:=by kernel_rfl) (j:(D.all λe=>e.2.1==e.1||lV ops ops.length e.1 e.2.1)=true:=by kernel_rfl) (k:vI ops VP ops:=by repeat' (first|exact trivial|exact⟨by kernel_rfl,by kernel_rfl,λ_ h=>h⟩|refine And.intro ?_ ?_)) (l:(ops.all λo=>match o.dst with|some d=>decide (d<a0.tmps.size)|none=>true)=true:=by kernel_rfl):(Code.region id ops.toArray true).wp P Q a0 w0:=
 xU G VP D hm i j k _ rfl l c f g
def sf(G:World->Prop)(a:Value->World->Prop)(VP:Nat->Value->Prop)(D:oo)(e:G {w0 with drawn:=w0.drawn+1})(f:zZ P ops a0 G a VP D 0 ops)
  (g:∀(b:Nat->Value) (w:World),(∀c,c<ops.length-1->VP c (b c))->a (b (ops.length-1)) w->Q .normal (lz a0 ops b 0) w)
  (hm:P.follows .mixedOrders=true:=by kernel_rfl) (i:rU ops=true:=by kernel_rfl) (j:uT ops=true:=by kernel_rfl) (k:0<ops.length:=by decide) (l:(ops.all λo=>match o.dst with|some d=>decide (d<a0.tmps.size)|none=>true)=true:=by kernel_rfl):(Code.region id ops.toArray true).wp P Q a0 w0:=
 xW G a VP D hm i j k _ rfl l e f g
def EP(p:Nat)(G:Bool->World->Prop)(VP:Nat->Value->Prop)(D:oo)(c:G false {w0 with drawn:=w0.drawn+1})(f:E2 P ops a0 G p VP D 0 ops)
  (g:∀(a:Nat->Value) (w:World),G true w->(∀b,b<ops.length->VP b (a b))->(∀e∈D,e.1<ops.length->e.2 (a e.1) w)->Q .normal (lz a0 ops a 0) w)
  (hm:P.follows .mixedOrders=true:=by kernel_rfl) (i:rU ops=true:=by kernel_rfl) (j:Hw ops p=true:=by kernel_rfl) (k:(ops.all λo=>match o.dst with|some d=>decide (d<a0.tmps.size)|none=>true)=true:=by kernel_rfl):(Code.region id ops.toArray true).wp P Q a0 w0:=
 xV p G VP D hm i j _ rfl k c f g
end
end Go.Proofs.YtbdipimmpgijaaaGreatDoor
namespace Go.Proofs.YtbdipimmpgijaaaGreatDoor
open RowKit Go.Proofs.Tryz lH Maps oa qR ChangeShapes WideShapes ChangeAt
def Al(w:World)(a:Obj):Below w.heap.size w (w.alloc a)/\(w.alloc a).heap[w.heap.size]?=some a/\(w.alloc a).heap.size=w.heap.size+1:=
 ⟨Ba w a,QQ w a,QR w a⟩
def kB.c{P:Program}{a:Act}{o:Oper}{w:World}{K:Value->World->Prop}{f:FuncId}{args:Array Value}{R:Ending->World->Prop}(hc:Calls P f args w R)(b:∀e w',R e w'->∃v,e=.returned v/\K v w')(hr:(execOp a.eval o).run P w=.ok (.enter f args) w:=by go_simp):kB P a o w K:=by unfold kB;rw[hr];exact⟨rfl,hc.mono b⟩
def uq(e:Nat->Prop)(w:RW)(f:RE)(b:List R0):Prop:=
 b≠[]->∃a o,f=some ⟨a,o,none⟩/\e a/\∀(c:Nat) (d:R0),b[c]?=some d->w.cell? ⟨a,o+c,none⟩=some d
def uq.nil(S w a):uq S w a []:=λb=>absurd Z b
def uq.M{S T w a xs}(c:uq S w a xs)(d:∀b,S b->T b):uq T w a xs:=λe=>by have⟨b,o,f,g,i⟩:=c e;exact⟨b,o,f,d b g,i⟩
def uq.kv{S w w' a c}(f:uq S w a c)(g:∀b,S b->w'.heap[b]?=w.heap[b]?):uq S w' a c:=λi=>by have⟨b,o,j,d,k⟩:=f i;exact⟨b,o,j,d,λe l m=>(Cb b (o+e)<|g b d).T<|k e l m⟩
def uq.ll{S w d xs}(a:uq S w d xs)(c:Nat)(u)(e:xs[c]?=some u):
  ∃b o,d=some ⟨b,o,none⟩/\S b/\w.cell? ⟨b,o+c,none⟩=some u:=by
 have⟨b,o,f,g,a⟩:=a (by rintro rfl;simp at e);exact⟨b,o,f,g,a c u e⟩
abbrev Rel(a:Type):=(Nat->Prop)->RW->List R0->a->Prop
structure lh{α:Type}(R:Rel α)(k:Nat):Prop where
 pos:0<k
 len:∀{S w r x},R S w r x->r.length=k
 one:∀{S w r x},R S w r x->∀u∈r,u.oneCell'=true
 M:∀{S T w r x},R S w r x->(∀b,S b->T b)->R T w r x
 kv:∀{S w w' r x},R S w r x->(∀b,S b->w'.heap[b]?=w.heap[b]?)->R S w' r x
def ly{a:Type}(R:List R0->a->Prop):List (List R0)->List a->Prop
 |[],[]=>True
 |r::rs,x::xs=>R r x/\ly R rs xs
 |_,_=>False
def ly.imp{b:Type}{c d:List R0->b->Prop}(a:∀r e,c r e->d r e):∀{f:List<|List R0} {g:List b},ly c f g->ly d f g
 |[],[],_=>trivial
 |_::_,_::_,⟨h1,h2⟩=>⟨a _ _ h1,ly.imp a h2⟩
 |[],_::_,a=>a.elim
 |_::_,[],a=>a.elim
def ly.length{a:Type}{c:List R0->a->Prop}:∀{b:List<|List R0} {xs:List a},ly c b xs->b.length=xs.length
 |[],[],_=>rfl
 |_::_,_::_,⟨_,h2⟩=>by simp[ly.length h2]
 |[],_::_,h=>h.elim
 |_::_,[],h=>h.elim
def ly.flat{c:Type}{d:List R0->c->Prop}{k:Nat}(e:∀r f,d r f->r.length=k):∀{a:List<|List R0} {b:List c},ly d a b->a.flatten.length=b.length*k
 |[],[],_=>Uo
 |r::a,f::b,⟨h1,h2⟩=>by rw[R5,Q3,e _ _ h1,ly.flat e h2,Rl,SZ];omega
 |[],_::_,h=>h.elim
 |_::_,[],h=>h.elim
def ly.ll{e:Type}{R:List R0->e->Prop}{k:Nat}(f:∀r a,R r a->r.length=k):∀{c:List<|List R0} {xs:List e} (i:Nat) (a:e),ly R c xs->xs[i]?=some a->
  ∃r,R r a/\∀b u,r[b]?=some u->c.flatten[i*k+b]?=some u
 |r::c,y::xs,0,a,⟨h1,_⟩,hx=>by simp at hx;subst hx;refine⟨r,h1,λb u d=>?_⟩;rw[R5,S5,Q7,RP (Q9.1 d).1];exact d
 |r::c,y::xs,i+1,a,⟨h1,h2⟩,hx=>by have⟨q,j,l⟩:=ly.ll f i a h2 (by simpa using hx);refine⟨q,j,λb u d=>?_⟩;have g:=f _ _ h1;rw[R5,RS (by rw[g,SZ];omega),g,show(i+1)*k+b-k=i*k+b by rw[SZ];omega];exact l b u d
 |[],[],_,_,_,hx=>by simp at hx
 |[],_::_,_,_,h,_=>h.elim
 |_::_,[],_,_,h,_=>h.elim
def ly.one{b:Type}{c:List R0->b->Prop}(d:∀r e,c r e->∀u∈r,u.oneCell'=true):∀{a:List<|List R0} {f:List b},ly c a f->∀u∈a.flatten,u.oneCell'=true
 |[],[],_=>Uo
 |r::a,e::f,⟨h1,h2⟩=>by intro u hu;rw[R5,SG]at hu;rcases hu with hu|hu;exact d _ _ h1 u hu;exact ly.one d h2 u hu
 |[],_::_,h=>h.elim
 |_::_,[],h=>h.elim
def kz{b:Type}(e:Rel b)(S:Nat->Prop)(w:RW)(v:R0)(xs:List b):Prop:=
 ∃(c:RE) (a:Nat) (d:List<|List R0),v=.slice c xs.length a/\xs.length<=a/\a<=9223372036854775807/\uq S w c d.flatten/\ly (e S w) d xs
def kz.M{c:Type}{a:Rel c}{k:Nat}(ok:lh a k){S T w v}{xs:List c}(e:kz a S w v xs)(d:∀b,S b->T b):kz a T w v xs:=by have⟨f,g,i,j,l,m,n,p⟩:=e;exact⟨f,g,i,j,l,m,n.M d,p.imp λr s q=>ok.M q d⟩
def kz.kv{c:Type}{a:Rel c}{k:Nat}(ok:lh a k){S w w' v}{d:List c}(f:kz a S w v d)(e:∀b,S b->w'.heap[b]?=w.heap[b]?):kz a S w' v d:=by have⟨g,i,j,l,m,n,p,q⟩:=f;exact⟨g,i,j,l,m,n,p.kv e,q.imp λs t r=>ok.kv r e⟩
def kz.nil{a:Type}(b:Rel a)(S w):kz b S w Nl []:=⟨none,0,[],Z,QX _,Y,uq.nil _ _ _,trivial⟩
def kz.one{a:Type}{b:Rel a}{c w v}{d:List a}(e:kz b c w v d):v.oneCell'=true:=by obtain⟨f,g,i,rfl,_⟩:=e;rfl
def kz.ll{d:Type}{R:Rel d}{k:Nat}(ok:lh R k){S w j}{n p:Nat}{xs:List d}(e:kz R S w (.slice j n p) xs)(i:Nat)(a:d)(q:xs[i]?=some a):
  ∃b o r,j=some ⟨b,o,none⟩/\S b/\R S w r a/\∀c u,r[c]?=some u->w.cell? ⟨b,o+i*k+c,none⟩=some u:=by
 have⟨C,D,E,f,F,G,s,t⟩:=e;injection f with f;subst f;have⟨r,l,m⟩:=ly.ll (k:=k) (λr a e=>ok.len e) i a t q;have v:∃u,r[0]?=some u:=Gx (by rw[ok.len l];exact ok.pos);have⟨x,y⟩:=v;have⟨b,o,g,z,A⟩:=s (by intro g;have:=m 0 x y;rw[g]at this;simp at this);refine⟨b,o,r,g,z,l,λc u B=>?_⟩;rw[Tq];exact A _ u<|m c u B
structure kJ{α:Type}(R:Rel α)(T k:Nat)(P:Nat->Prop)(w:RW)(lo:Nat)(v:R0)(xs:List α):Prop where
 own:∃rows,w.ownsRow lo T k v xs.length rows.flatten/\ly (R (λb=>P b/\b<w/\some b≠v.ownBlock) w) rows xs
def kJ.nil{a:Type}(b:Rel a)(T k:Nat)(P w)(c:Nat):kJ b T k P w c Nl []:=⟨[],SS _ _ _ _,trivial⟩
def kJ.grown{f:Type}{b:Rel f}{T k:Nat}(ok:lh b k){P w w'}{g:Nat}{v}{i:List f}{j}(m:kJ b T k P w g v i)(c:w.grownBy w' j)(l:∀z,j=some z->¬P z/\some z≠v.ownBlock):kJ b T k P w' g v i:=by
 have⟨n,p,r⟩:=m.own;refine⟨n,p.kept c ?_,r.imp λt u s=>ok.M (ok.kv s λd a=>c.B d a.2.1 λe=>(l d e.symm).1 a.1) λd a=>⟨a.1,QO a.2.1 c.size,a.2.2⟩⟩;cases hv:v.ownBlock with
 |none=>exact .inl Z
 |some q=>exact .inr λe=>(l q e.symm).2 hv.symm
def kC{w w'}(a:Below w.heap.size w w'):w.grownBy w' none:=⟨a.os,a.tape,a.output,a.size,λb c _=>a.B b c⟩
def kJ.ku{b:Type}{a:Rel b}{T k:Nat}(ok:lh a k){P w w'}{c:Nat}{v}{d:List b}(e:kJ a T k P w c v d)(f:Below w w w'):kJ a T k P w' c v d:=
 e.grown ok (kC f) (λi g=>by cases g)
def kJ.form{c:Type}{e:Rel c}{T f:Nat}{P w}{g:Nat}{v}{a:List c}(i:kJ e T f P w g v a):∃j b,v=.slice j a.length b/\a.length<=b/\b<=9223372036854775807:=by
 have⟨p,k,_⟩:=i.own;rcases k.2 with⟨rfl,d⟩|⟨q,l,r,rfl,s,t,m,n,u,x⟩
 exact⟨none,0,by rw[d],by rw[d];exact QX _,Y⟩;exact⟨_,l,Z,m,n⟩
def kJ.ge{b:Type}{d:Rel b}{T k:Nat}{P w}{c:Nat}{v}{e:List b}(f:kJ d T k P w c v e):∀z,v.ownBlock=some z->c<=z/\z<w:=by
 have⟨m,g,_⟩:=f.own;rcases g.2 with⟨rfl,n⟩|⟨i,p,q,rfl,j,l,r,s,t,u⟩
 intro z a;simp[Value.ownBlock]at a;intro z a;obtain rfl:i=z:=by simpa[Value.ownBlock]using a
 exact⟨j,(QP.1 l).1⟩
inductive lH.Ex where
 |mk (op:Int) (name:RK) (n:Int) (args:List Ex)
instance:Inhabited Ex:=⟨.mk 0 [] 0 []⟩
def lH.Ex.op:Ex->Int| .mk o _ _ _=>o
def lH.Ex.name:Ex->RK| .mk _ a _ _=>a
def lH.Ex.n:Ex->Int| .mk _ _ n _=>n
def lH.Ex.args:Ex->List Ex| .mk _ _ _ a=>a
inductive lH.St where
 |mk (kind:Int) (name hd:RK) (lp:List Ex) (th el:List St)
instance:Inhabited St:=⟨.mk 0 [] [] [] [] []⟩
def lH.St.kind:St->Int| .mk a _ _ _ _ _=>a
def lH.St.name:St->RK| .mk _ a _ _ _ _=>a
def lH.St.hd:St->RK| .mk _ _ a _ _ _=>a
def lH.St.lp:St->List Ex| .mk _ _ _ a _ _=>a
def lH.St.th:St->List St| .mk _ _ _ _ a _=>a
def lH.St.el:St->List St| .mk _ _ _ _ _ a=>a
structure lH.Hd where
 name:RK
 params:List RK
 body:List St
instance:Inhabited Hd:=⟨⟨[],[],[]⟩⟩
structure lH.Va where
 name:RK
 ty:Int
 init:Int
instance:Inhabited Va:=⟨⟨[],0,0⟩⟩
structure lH.Co where
 name:RK
 vars:List Va
 lJ:List<|List Hd
instance:Inhabited Co:=⟨⟨[],[],[]⟩⟩
structure lH.Fg where
 name:RK
 init:Bool
instance:Inhabited Fg:=⟨⟨[],false⟩⟩
structure lH.Lk where
 a:RK
 b:RK
 tF:Int
instance:Inhabited Lk:=⟨⟨[],[],0⟩⟩
structure lH.Fl where
 name:RK
 kQ:List Fg
 ml:List Lk
 kH:List Co
def lH.De:Nat:=6
def lH.Ds:Nat:=4
abbrev tx(a:RK):R0:=.string ⟨a.toArray⟩
def kM:Rel RK:=λ_ _ a b=>a=[tx b]
def kM.ok:lh kM 1:=⟨Y,λa=>by rw[a];rfl,λa c b=>by rw[a]at b;simp at b;rw[b];rfl,λa _=>a,λa _=>a⟩
def mI:Rel Fg:=λ_ _ b a=>b=[tx a.name,.bool a.init]
def mI.ok:lh mI 2:=⟨Y,λa=>by rw[a];rfl,λa c b=>by rw[a]at b;simp at b;rcases b with rfl|rfl<;>rfl,λa _=>a,λa _=>a⟩
def nT:Rel Lk:=λ_ _ b a=>b=[tx a.a,tx a.b,.int .i64 a.tF]
def nT.ok:lh nT 3:=⟨Y,λa=>by rw[a];rfl,λa c b=>by rw[a]at b;simp at b;rcases b with rfl|rfl|rfl<;>rfl,λa _=>a,λa _=>a⟩
def oh(b:IntKind):Rel Va:=λ_ _ c a=>c=[tx a.name,.int b a.ty,.int .i64 a.init]
def oh.ok(q:IntKind):lh (oh q) 3:=⟨Y,λa=>by rw[a];rfl,λa c b=>by rw[a]at b;simp at b;rcases b with rfl|rfl|rfl<;>rfl,λa _=>a,λa _=>a⟩
def kP(b:IntKind):Nat->Rel Ex
 |0=>λ_ _ _ _=>False
 |d+1=>λS w r a=>∃v,r=[.int b a.op,tx a.name,.int .i64 a.n,v]/\kz (kP b d) S w v a.args
def kP.ok(q:IntKind):∀d,lh (kP q d) 4
 |0=>⟨Y,λa=>a.elim,λa=>a.elim,λa=>a.elim,λa=>a.elim⟩
 |d+1=>⟨Y,λ⟨v,a,_⟩=>by rw[a];rfl,λ⟨v,a,b⟩ u c=>by rw[a]at c;simp at c;rcases c with rfl|rfl|rfl|rfl;rfl;rfl;rfl;exact b.one,λ⟨v,a,b⟩ e=>⟨v,a,b.M (kP.ok q d) e⟩,λ⟨v,a,b⟩ f=>⟨v,a,b.kv (kP.ok q d) f⟩⟩
def kR(b:IntKind):Nat->Rel St
 |0=>λ_ _ _ _=>False
 |d+1=>λc w r a=>∃e f g,r=[.int b a.kind,tx a.name,tx a.hd,e,f,g]/\kz (kP b De) c w e a.lp/\kz (kR b d) c w f a.th/\kz (kR b d) c w g a.el
def kR.ok(q:IntKind):∀d,lh (kR q d) 6
 |0=>⟨Y,λa=>a.elim,λa=>a.elim,λa=>a.elim,λa=>a.elim⟩
 |d+1=>⟨Y,λ⟨b,c,e,a,_⟩=>by rw[a];rfl,λ⟨b,c,e,a,f,g,i⟩ u j=>by
  rw[a]at j;simp at j;rcases j with rfl|rfl|rfl|rfl|rfl|rfl;rfl;rfl;rfl;exact f.one;exact g.one;exact i.one,λ⟨b,c,e,a,f,g,i⟩ k=>⟨b,c,e,a,f.M (kP.ok q _) k,g.M (kR.ok q d) k,i.M (kR.ok q d) k⟩,
  λ⟨b,c,e,a,f,g,i⟩ l=>⟨b,c,e,a,f.kv (kP.ok q _) l,g.kv (kR.ok q d) l,i.kv (kR.ok q d) l⟩⟩
def mA(f:IntKind):Rel Hd:=λb c g a=>∃d e,g=[tx a.name,d,e]/\kz kM b c d a.params/\kz (kR f Ds) b c e a.body
def mA.ok(q:IntKind):lh (mA q) 3:=
 ⟨Y,λ⟨b,c,a,_⟩=>by rw[a];rfl,λ⟨b,c,a,d,e⟩ j f=>by rw[a]at f;simp at f;rcases f with rfl|rfl|rfl;rfl;exact d.one;exact e.one,λ⟨b,c,a,d,e⟩ g=>⟨b,c,a,d.M kM.ok g,e.M (kR.ok q _) g⟩,λ⟨b,c,a,d,e⟩ i=>⟨b,c,a,d.kv kM.ok i,e.kv (kR.ok q _) i⟩⟩
def nj(b:IntKind):Rel<|List Hd:=λc d e f=>∃a,e=[a]/\kz (mA b) c d a f
def nj.ok(q:IntKind):lh (nj q) 1:=
 ⟨Y,λ⟨b,a,_⟩=>by rw[a];rfl,λ⟨b,a,c⟩ g d=>by rw[a]at d;simp at d;rw[d];exact c.one,λ⟨b,a,c⟩ e=>⟨b,a,c.M (mA.ok q) e⟩,λ⟨b,a,c⟩ f=>⟨b,a,c.kv (mA.ok q) f⟩⟩
def mr(q:IntKind):Rel Co:=λb c f a=>∃d e,f=[tx a.name,d,e]/\kz (oh q) b c d a.vars/\kz (nj q) b c e a.lJ
def mr.ok(q:IntKind):lh (mr q) 3:=
 ⟨Y,λ⟨b,c,a,_⟩=>by rw[a];rfl,λ⟨b,c,a,d,e⟩ j f=>by rw[a]at f;simp at f;rcases f with rfl|rfl|rfl;rfl;exact d.one;exact e.one,λ⟨b,c,a,d,e⟩ g=>⟨b,c,a,d.M (oh.ok q) g,e.M (nj.ok q) g⟩,λ⟨b,c,a,d,e⟩ i=>⟨b,c,a,d.kv (oh.ok q) i,e.kv (nj.ok q) i⟩⟩
def Oi(g:IntKind):Rel Fl:=λb c i a=>∃d e f,i=[tx a.name,d,e,f]/\kz mI b c d a.kQ/\kz nT b c e a.ml/\kz (mr g) b c f a.kH
def Oi.ok(q:IntKind):lh (Oi q) 4:=
 ⟨Y,λ⟨b,c,d,a,_⟩=>by rw[a];rfl,λ⟨b,c,d,a,e,f,g⟩ l i=>by rw[a]at i;simp at i;rcases i with rfl|rfl|rfl|rfl;rfl;exact e.one;exact f.one;exact g.one,λ⟨b,c,d,a,e,f,g⟩ j=>⟨b,c,d,a,e.M mI.ok j,f.M nT.ok j,g.M (mr.ok q) j⟩,λ⟨b,c,d,a,e,f,g⟩ k=>⟨b,c,d,a,e.kv mI.ok k,f.kv nT.ok k,g.kv (mr.ok q) k⟩⟩
def lH.nm(a:UInt8)(k:Nat):RK:=[a,UInt8.ofNat<|48+k]
def lH.qN(a:UInt8)(n:Nat):List RK:=(List.range n).map<|nm a
def lH.lR(a)(n:Nat):(qN a n).length=n:=by simp[qN]
def lH.oY(b)(n a:Nat)(c:a<n):(qN b n)[a]?=some (nm b a):=by simp[qN,c]
structure lH.Sc where
 ints:Nat
 lf:Nat
 kQ:Nat
 params:Nat
 nZ:List<|List Nat
 own:Nat
structure lH.oQ(sc:Sc):Prop where
 Hx:1<=sc.ints
 Hy:sc.ints<=3
 lf:sc.lf<=1
 kQ:sc.kQ<=2
 params:sc.params<=2
 own:sc.own<sc.nZ.length
 len:sc.nZ.length<=3
 each:∀l∈sc.nZ,1<=l.length/\l.length<=3/\∀a∈l,a<=2
def lH.lM(a:Sc):Nat->Ex->Prop
 |0,_=>False
 |d+1,e=>
  (e.op=1/\e.name=[]/\0<=e.n/\e.n<=8/\e.args=[])\/
  (e.op=4/\e.name=[]/\e.n=0/\e.args=[])\/
  (e.op=5/\((∃k,k<a.ints/\e.name=nm 120 k)\/(∃k,k<a.params/\e.name=nm 112 k))/\e.n=0/\e.args=[])\/
  (e.op=6/\a.lf=1/\e.name=nm 116 0/\e.n=0/\∃b,e.args=[b]/\lM a d b)\/
  (e.op=8/\a.lf=1/\e.name=nm 116 0/\e.n=0/\e.args=[])\/
  (e.op=9/\e.name=[]/\e.n=0/\∃b,e.args=[b]/\lM a d b)\/
  ((11<=e.op/\e.op<=15)/\e.name=[]/\e.n=0/\∃b c,e.args=[b,c]/\lM a d b/\lM a d c)
def lH.ny(b:Sc):Nat->Ex->Prop
 |0,_=>False
 |d+1,e=>
  ((e.op=2\/e.op=3)/\e.name=[]/\e.n=0/\e.args=[])\/
  (e.op=5/\(e.name=nm 98 0\/(∃k,k<b.kQ/\e.name=nm 102 k))/\e.n=0/\e.args=[])\/
  (e.op=7/\b.lf=1/\e.name=nm 116 0/\e.n=0/\∃a,e.args=[a]/\lM b d a)\/
  (e.op=10/\e.name=[]/\e.n=0/\∃a,e.args=[a]/\ny b d a)\/
  ((e.op=22\/e.op=23)/\e.name=[]/\e.n=0/\∃a c,e.args=[a,c]/\ny b d a/\ny b d c)\/
  ((16<=e.op/\e.op<=21)/\e.name=[]/\e.n=0/\∃a c,e.args=[a,c]/\lM b d a/\lM b d c)
def lH.kX(a:Nat):RK:=[UInt8.ofNat<|97+a]
def lH.mR(sc:Sc):Nat->St->Prop
 |0,_=>False
 |d+1,s=>
  (s.kind=1/\s.hd=[]/\s.th=[]/\s.el=[]/\(∃c,s.lp=[c]/\((∃k,k<sc.ints/\s.name=nm 120 k/\lM sc De c)\/(s.name=nm 98 0/\ny sc De c))))\/
  (s.kind=2/\sc.lf=1/\s.name=nm 116 0/\s.hd=[]/\s.th=[]/\s.el=[]/\(∃a e,s.lp=[a,e]/\lM sc De a/\lM sc De e))\/
  (s.kind=3/\sc.lf=1/\s.name=nm 116 0/\s.hd=[]/\s.th=[]/\s.el=[]/\(∃a,s.lp=[a]/\lM sc De a))\/
  (s.kind=4/\s.name=[]/\s.hd=[]/\(∃a,s.lp=[a]/\ny sc De a)/\(∀b∈s.th,mR sc d b)/\(∀b∈s.el,mR sc d b))\/
  (s.kind=5/\s.name=[]/\s.hd=[]/\s.el=[]/\(∃a,s.lp=[a]/\ny sc De a)/\(∀b∈s.th,mR sc d b))\/
  (s.kind=6/\s.th=[]/\s.el=[]/\(∃g l f a,sc.nZ[g]?=some l/\l[f]?=some a/\s.name=kX g/\s.hd=nm 104 f/\s.lp.length=a)/\(∀c∈s.lp,lM sc De c))\/
  (s.kind=7/\s.name=[]/\s.th=[]/\s.el=[]/\(∃l f a,sc.nZ[sc.own]?=some l/\l[f]?=some a/\s.hd=nm 104 f/\s.lp.length=a+1)/\(∀c∈s.lp,lM sc De c))\/
  (s.kind=8/\s.name=[]/\s.hd=[]/\s.th=[]/\(∃a e,s.lp=[a,e]/\lM sc De a/\lM sc De e)/\(∀b∈s.el,mR sc d b))\/
  (s.kind=9/\s.hd=[]/\s.th=[]/\(∃k,k<sc.ints/\s.name=nm 120 k)/\(∃a,s.lp=[a]/\lM sc De a)/\(∀b∈s.el,mR sc d b))\/
  (s.kind=10/\s.name=[]/\s.hd=[]/\s.th=[]/\s.el=[]/\s.lp=[])
def lH.kU:Nat->List St->Nat
 |0,_=>0
 |d+1,l=>(l.map λa=>1+kU d a.th+kU d a.el).sum
abbrev sa(a b):=(⟨a,b,none⟩:Go.Addr)
def kA{w:RW}{b:Nat}{a:Array R0}{d:TypeId}{e:Nat×Nat}(f:w.heap[b]?=some (.cells a d e))(c:Nat)(v:R0)(g:a[c]?=some v):w.cell? (sa b c)=some v:=by simp[World.cell?,f,g]
def kt{w:RW}{b:Nat}{c:Array R0}{d:TypeId}{e:Nat×Nat}(f:w.heap[b]?=some (.cells c d e))(a:Nat){v:R0}(g:c[a]?=some v:=by rfl):w.cell? (sa b a)=some v:=kA f a v g
def kx{w:RW}{b:Nat}{a:Array R0}{c:TypeId}(d:w.heap[b]?=some (.cells a c (0,0)))(e:Nat):w.frozen? ⟨b,e,none⟩=false:=by simp[World.frozen?,d]
def mJ:Rel Nat:=λ_ _ a b=>a=[.int .i64 (b:Int)]
def mJ.ok:lh mJ 1:=⟨Y,λa=>by rw[a];rfl,λa c b=>by rw[a]at b;simp at b;rw[b];rfl,λa _=>a,λa _=>a⟩
def qq:Rel<|List Nat:=λb c d e=>∃a,d=[a]/\kz mJ b c a e
def qq.ok:lh qq 1:=
 ⟨Y,λ⟨b,a,_⟩=>by rw[a];rfl,λ⟨b,a,c⟩ g d=>by rw[a]at d;simp at d;rw[d];exact c.one,λ⟨b,a,c⟩ e=>⟨b,a,c.M mJ.ok e⟩,λ⟨b,a,c⟩ f=>⟨b,a,c.kv mJ.ok f⟩⟩
def qO:Rel UInt8:=λ_ _ a b=>a=[.int .u8 (b.toNat:Int)]
def qO.ok:lh qO 1:=⟨Y,λa=>by rw[a];rfl,λa c b=>by rw[a]at b;simp at b;rw[b];rfl,λa _=>a,λa _=>a⟩
structure kT(S:Nat->Prop)(w:RW)(mb:Nat)(sc:Sc)(left:Nat):Prop where
 ll:∃(PD PE:R0) (bs:RK),w.heap[mb]?=some (.cells #[.int .i64 sc.ints,sc.lf,sc.kQ,sc.own,PD,sc.params,PE,left] 92)/\kz qq S w PD sc.nZ/\kz qO S w PE bs
 lK:∀b,S b->b≠mb/\b<w
def kT.lt{S w}{a:Nat}{b}{left:Nat}(c:kT S w a b left):a<w:=by have⟨_,_,_,d,_⟩:=c.ll;exact(QP.1 d).1
def kT.kv{S w w'}{d:Nat}{f}{left:Nat}(b:kT S w d f left)(e:w.grownBy w' none):kT S w' d f left:=by have⟨i,j,k,l,m,n⟩:=b.ll;have g:∀a,S a->w'.heap[a]?=w.heap[a]?:=λa c=>e.B a (b.lK a c).2 Uo;exact⟨⟨i,j,k,(e.B d b.lt Uo).T l,m.kv qq.ok g,n.kv qO.ok g⟩,λa c=>⟨(b.lK a c).1,QO (b.lK a c).2 e.size⟩⟩
def kT.ku{S w w'}{a:Nat}{b}{left:Nat}(c:kT S w a b left)(d:Below w w w'):kT S w' a b left:=c.kv<|kC d
def kz.tail{f:Type}{g:Rel f}(ok:lh g 1){p w i}{c:Nat}{d:f}{a:List f}(j:kz g p w (.slice i (a.length+1) c) (d::a)):
  kz g p w (.slice (if c=1 then i else Option.map (λd=>d.add 1) i) a.length<|c-1) a:=by
 have⟨C,D,r,b,E,F,s,e⟩:=j;injection b with b _ t;subst b t;cases r with
 |nil=>exact e.elim
 |cons u q=>
  have l:=ok.len e.1;refine⟨_,c-1,q,Z,Y,Y,λv=>?_,e.2⟩;have G:0<a.length:=by have I:=ly.flat (k:=1) (λu d j=>ok.len j) e.2;have:0<q.flatten.length:=Tb.2 v;omega
  obtain⟨m,o,rfl,x,y⟩:=s (by rw[R5];intro z;have:=RH List.length z;rw[Q3,l]at this;simp at this);refine⟨m,o+1,?_,x,λn A B=>?_⟩;rw[Rh Y];have b:(⟨m,o,none⟩:Addr).add 1=⟨m,o+1,none⟩:=Z;simp[b];rw[show o+1+n=o+(n+1) from Y];refine y (n+1) A ?_;rw[R5,RS (by rw[l];omega),l,Ti];exact B
def kr{w:RW}{a i:Nat}{b:Array R0}{c:TypeId}{u:R0}(d:w.heap[a]?=some (.cells b c (0,0))):(w.setCell (sa a i) u).heap[a]?=some (.cells (b.setIfInBounds i u) c (0,0)):=by simp[World.setCell,Array.getElem?_modify,d]
def kE(w:RW)(a i:Nat)(v:R0):w.grownBy (w.setCell (sa a i) v)<|some a:=
 ⟨Z,Z,Z,by rw[QU];exact QX _,λd _ b=>Q0 _ _ _ _ λc=>b<|by rw[c]⟩
def lC(w:RW)(a:Option Nat):w.grownBy w a:=World.grownBy.refl w a
def nR(S:Nat->Prop)(a:Nat)(d:Sc)(left n:Nat)(w:RW)(e:Ending)(b:RW):Prop:=∃c:Nat,c<n/\e=.returned (.int .i64 (c:Int))/\kT S b a d left/\w.grownBy b (some a)
abbrev mw(a b):=(some ⟨a,b,none⟩:Option Go.Addr)
abbrev zc(a):=(⟨a,6,none⟩:Go.Addr)
def nS(S)(d:Nat)(k)(left n:Nat)(w)(q:kT S w d k left)(r:0<n)(P:n<=1000):Calls prog 104 #[.pointer d,n] w<|nR S d k left n w:=by
 have⟨A,Q,B,l,C,s⟩:=q.ll;obtain⟨R,t,T,rfl,D,U,V,aa⟩:=id s;have ab:=kt l 6;have ac:=kx l 6;have i:=q;have u:=s;have E:=X l;have F:=C;cases B with
 |nil=>
  go_enter func104,ntmps104
  go_wp2;go_ret;exact⟨0,r,Z,i,lC _ _⟩
 |cons c b=>
  obtain⟨a,o,ad,rfl,ae,G,I⟩:=u.ll qO.ok 0 c Z;have af:w.cell? (sa a o)=some (.int .u8 (c.toNat:Int)):=by have:=I 0 (.int .u8 (c.toNat:Int)) (by rw[G];rfl);simpa using this
  have e:=u.tail qO.ok;have v:=e;have ag:c.toNat<256:=UInt8.toNat_lt c;have ah:b.length+1<=t:=(by simpa using D);have J:c.toNat % n<n:=Tu _ r;have K:∀f g,kz qO S w (.slice f b.length g) b->nR S d k left n w (.returned<|.int .i64<|(c.toNat:Int) % (n:Int)) (w.setCell (zc d)<|.slice f b.length g):=λf g L=>by have x:=kE w d 6<|.slice f b.length g;have y:∀a,S a->(w.setCell (zc d)<|.slice f b.length g).heap[a]?=w.heap[a]?:=λa j=>x.B a (i.lK a j).2 (λM=>(i.lK a j).1<|by injection M);exact⟨c.toNat % n,J,by rw[Int.natCast_emod],⟨⟨A,.slice f b.length g,b,kr E.o,F.kv qq.ok y,L.kv qO.ok y⟩,λa j=>⟨(i.lK a j).1,by rw[QU];exact(i.lK a j).2⟩⟩,x⟩
  have z:=K;by_cases m:t=1
  .have e:=v;rw[RB m]at e;have p:=e;subst m;obtain rfl:b=[]:=RI Y;have N:kz qO S w (.slice (mw a o) 0 0) []:=p;have O:=N
   go_enter func104,ntmps104
   go_wp2;go_ret;exact z _ _ O
  have e:=v;rw[Rh m]at e;have p:=e
  go_enter func104,ntmps104
  go_wp2;go_ret;exact z _ _ p
abbrev rm(a):=(⟨a,2,none⟩:Go.Addr)
abbrev sd(a):=(⟨a,1,none⟩:Go.Addr)
abbrev sz(a):=(⟨a,3,none⟩:Go.Addr)
abbrev uc(a):=(⟨a,7,none⟩:Go.Addr)
abbrev An(a):=(⟨a,5,none⟩:Go.Addr)
def kT.cells{S w}{a:Nat}{b}{left:Nat}(d:kT S w a b left):w.cell? a=some (.int .i64 b.ints)/\w.cell? (sd a)=some (.int .i64 b.lf)/\w.cell? (rm a)=some (.int .i64 b.kQ)/\w.cell? (sz a)=some (.int .i64 b.own)/\w.cell? (An a)=some (.int .i64 b.params)/\w.cell? (uc a)=some (.int .i64 left):=by have⟨e,f,g,c,_⟩:=d.ll;exact⟨kt c 0,kt c 1,kt c 2,kt c 3,kt c 5,kt c 7⟩
def ky{d b e:RW}{c:Option Nat}(a:d.grownBy b c)(k:b.grownBy e c):d.grownBy e c:=
 ⟨k.os.T a.os,k.tape.T a.tape,k.output.T a.output,QT a.size k.size,λf g i=>(k.B f (QO g a.size) i).T<|a.B f g i⟩
def kK{c b:RW}(a:c.grownBy b none)(d:Option Nat):c.grownBy b d:=⟨a.os,a.tape,a.output,a.size,λe f _=>a.B e f Uo⟩
def FH(b c:RW)(d:Nat):Nat->Prop:=λa=>b<=a/\a<c/\a≠d
def nz(S:Nat->Prop)(b:Nat)(c:Sc)(left d:Nat)(w:RW)(m:Ending)(a:RW):Prop:=
 ∃(e f:Int) (g:RK) (i:RE) (j k:Nat) (l:Ex),m=.returned (.agg #[.int .i64 e,tx g,f,(i,j,k)])/\kP .i64 d (FH w a b) a [.int .i64 e,tx g,f,(i,j,k)] l/\lM c d l/\kT S a b c left/\w.grownBy a (some b)
def kT.mH{d w}{c:Nat}{g}{left:Nat}(e:kT d w c g left){zQ i:Nat}{u}(k:zQ≠c)(j:∀b,d b->b≠zQ):kT d (w.setCell (sa zQ i) u) c g left:=by have⟨l,m,n,a,p,q⟩:=e.ll;have f:∀b,b≠zQ->(w.setCell (sa zQ i) u).heap[b]?=w.heap[b]?:=λb a=>Q0 _ _ _ _ a;exact⟨⟨l,m,n,(f c λr=>k r.symm).T a,p.kv qq.ok λb a=>f b<|j b a,q.kv qO.ok λb a=>f b<|j b a⟩,λb a=>⟨(e.lK b a).1,by rw[QU];exact(e.lK b a).2⟩⟩
def nb{b c:RW}{d:Option Nat}(a:b.grownBy c d){f:Nat}{g:R0}:b.grownBy (c.setCell (sa b f) g) d:=
 ⟨a.os,a.tape,a.output,by rw[QU];exact a.size,λe i j=>(Q0 _ _ _ _<|by show e≠b;omega).T<|a.B e i j⟩
def kz.mH{d:Type}{a:Rel d}{f:Nat}(ok:lh a f){c w v}{e:List d}(g:kz a c w v e){zQ i:Nat}{u}(j:∀b,c b->b≠zQ):kz a c (w.setCell (sa zQ i) u) v e:=
 g.kv ok λb k=>Q0 _ _ _ _<|j b k
abbrev mT(a b c d e f):=(#[.int .i64 a,tx b,c,.slice d e f]:Array Go.Value)
def oq{f}{e:Nat}{l}{left d:Nat}{b c}{op n:Int}{name:RK}{m:RE}{p q:Nat}{args:List Ex}(r:kT f c e l left)(s:b.grownBy c<|some e)(A:e<b.heap.size)(t:∀a,f a->a<b.heap.size)
  (u:kz (kP .i64 d) (λa=>b.heap.size<a/\a<c) c (.slice m p q) args) (v:lM l (d+1)<|.mk op name n args) (w x y z:R0):
  nz f e l left (d+1) b (.returned<|.agg<|mT op name n m p q) ((((c.setCell b w).setCell (sd b) x).setCell (rm b) y).setCell (sz b) z):=by
 have g:b≠e:=Y
 have i:∀a,f a->a≠b:=λa j=>W<|t a j
 have k:∀a,(b.heap.size<a/\a<c)->a≠b:=λa j=>Y
 refine⟨op,n,name,m,p,q,.mk op name n args,Z,⟨_,Z,?_⟩,v,(((r.mH g i).mH g i).mH g i).mH g i,nb<|nb<|nb<|nb s⟩;refine((((u.mH (kP.ok _ _) k).mH (kP.ok _ _) k).mH (kP.ok _ _) k).mH (kP.ok _ _) k).M (kP.ok _ _) λa j=>⟨Y,by simp only[QU];exact j.2,Y⟩
def qW{g:Nat->Prop}{e:Nat}{i:Sc}{left d:Nat}{a b:RW}{o:Obj}{op n:Int}{name:RK}{j:RE}{k l:Nat}{args:List Ex}(f:a.heap.size<b)(t:kT g (b.alloc o) e i left)(u:a.grownBy (b.alloc o)<|some e)(v:e<a)(w:∀c,g c->c<a)
  (x:kz (kP .i64 d) (λc=>a<c/\c<(b.alloc o).heap.size) (b.alloc o) (.slice j k l) args) (y:lM i (d+1)<|.mk op name n args) (m p q r:R0):
  nz g e i left (d+1) a (.returned<|.agg<|mT op name n j k l) (((((b.setCell a m).setCell (sd a) p).setCell (rm a) q).setCell (sz a) r).alloc o):=by
 have s:=oq t u v w x y m p q r;rw[RJ o _ _ _ f,RJ o _ _ _ (by rw[QU];exact f),RJ o _ _ _ (by simp only[QU];exact f),RJ o _ _ _<|by simp only[QU];exact f]at s;exact s
def kz.Nj{i:Type}{d:Rel i}{m:Nat}(ok:lh d m){e b f g}{j k:i}{T}(n:d e b f j)(p:d e b g k)(l:∀a,e a->a<b):kz d (λa=>e a\/a=b) (b.alloc<|.cells (f++g).toArray T) (.slice b 2 2) [j,k]:=by refine⟨_,2,[f,g],Z,QX _,Y,λ_=>⟨b,0,Z,.inr Z,λq r s=>?_⟩,⟨ok.M (ok.kv n λa c=>Q5 b _<|l a c) λa c=>.inl c,ok.M (ok.kv p λa c=>Q5 b _<|l a c) λa c=>.inl c,trivial⟩⟩;rw[Q7];exact kA (QQ b _) q r (by simpa using s)
def kN{w:RW}{b:Nat}{c d e f:R0}{g:TypeId}(a:w.heap[b]?=some (.cells #[c,d,e,f] g)):
  (w.cell? b=some c/\w.cell? (sd b)=some d/\w.cell? (rm b)=some e/\w.cell? (sz b)=some f)/\(w.frozen? ⟨b,0,none⟩=false/\w.frozen? ⟨b,1,none⟩=false/\w.frozen? ⟨b,2,none⟩=false/\w.frozen? ⟨b,3,none⟩=false):=
 ⟨⟨kt a 0,kt a 1,kt a 2,kt a 3⟩,kx a 0,kx a 1,kx a 2,kx a 3⟩
def uU:Code->Option Nat
 | .region b _ _=>some b
 | .seq c _=>uU c
 | .block _ a=>uU a
 | .scope a=>uU a
 |_=>none
def vJ(b:Nat):Code->Option Code
 | .seq c d=>if uU c=some b then some (.seq c d)else match vJ b c with|some a=>some a|none=>vJ b d
 | .block f a=>if uU a=some b then some (.block f a)else vJ b a
 | .scope a=>if uU a=some b then some (.scope a)else vJ b a
 | .cond _ c d=>match vJ b c with|some a=>some a|none=>vJ b d
 | .loop a=>vJ b a
 | .region e o g=>if e=b then some (.region e o g)else none
 |_=>none
def New(w b:RW):Nat->Prop:=λa=>w<a/\a<b
structure pV(S:Nat->Prop)(mb:Nat)(sc:Sc)(left:Nat)(T:TypeId)(cs:Array R0)(w wx:RW):Prop where
 hz:wx.heap[w.heap.size]?=some (.cells cs T (0,0))
 hm:kT S wx mb sc left
 hg:w.grownBy wx<|some mb
 yj:mb<w
 hS:∀b,S b->b<w
def pV.lt{S}{b:Nat}{c}{left:Nat}{T d w a}(e:pV S b c left T d w a):w.heap.size<a:=(QP.1 e.hz).1
def pV.call{S}{b:Nat}{c}{left left':Nat}{T e w f d}(a:pV S b c left T e w f)(j:kT S d b c left')(g:f.grownBy d<|some b):pV S b c left' T e w d:=
 ⟨(g.B w a.lt (λi=>by injection i with i;have:=a.yj;omega)).T a.hz,j,ky a.hg g,a.yj,a.hS⟩
def pV.grow{S}{a:Nat}{b}{left:Nat}{T c w d e}(f:pV S a b left T c w d)(g:d.grownBy e none):pV S a b left T c w e:=
 f.call (f.hm.kv g) (kK g _)
def pV.alloc{S}{b:Nat}{c}{left:Nat}{T d w a}(e:pV S b c left T d w a)(o):pV S b c left T d w (a.alloc o):=e.grow<|QV a o none
def pV.drew{S}{b:Nat}{c}{left:Nat}{T d w a}(e:pV S b c left T d w a):pV S b c left T d w a.drew:=e.grow<|kC (Sf a a).drew
def addr_add(b o a:Nat):(⟨b,o,none⟩:Addr).add a=⟨b,o+a,none⟩:=by
 unfold Addr.add;split
 rename_i c;subst c;rfl
 rfl
def kz.cells{j:Type}{e:Rel j}{k:Nat}(ok:lh e k){S w l}{n m:Nat}{f:List j}(c:kz e S w (.slice (some l) n m) f):
  ∃b:List<|List R0,f.length=n/\n<=m/\b.flatten.length=n*k/\ly (e S w) b f/\(∀d u,b.flatten[d]?=some u->w.cell? (l.add d)=some u)/\(∀u∈b.flatten,u.oneCell'=true):=by
 have⟨z,A,b,a,p,B,q,g⟩:=c;injection a with r s t;subst r s t;refine⟨b,Z,p,ly.flat (λv x c=>ok.len c) g,g,λd u i=>?_,ly.one (λv x c=>ok.one c) g⟩;have⟨C,o,a,_,y⟩:=q (by intro a;rw[a]at i;simp at i);injection a with a;subst a;rw[addr_add];exact y d u i
abbrev Iv(a):=(⟨a,4,none⟩:Go.Addr)
def Good(c d:Nat)(w b:RW):Prop:=w.heap.size<=b/\∀a,a<w.heap.size->a≠c->a≠d->b.heap[a]?=w.heap[a]?
def Good.lA{a c:Nat}{w w'}(b:w.grownBy w'<|some a):Good a c w w':=⟨b.size,λd e f _=>b.B d e λg=>f<|by injection g⟩
def Good.pJ{c d:Nat}{w a}(b:w.grownBy a none):Good c d w a:=⟨b.size,λe f _ _=>b.B e f Uo⟩
def Good.alloc{a z:Nat}(w o):Good a z w<|w.alloc o:=.pJ<|QV w o none
def Good.T{a z:Nat}{d b e}(c:Good a z d b)(k:Good a z b e):Good a z d e:=⟨QT c.1 k.1,λf g i j=>(k.2 f (QO g c.1) i j).T<|c.2 f g i j⟩
def uQ(S:Nat->Prop)(a:Nat)(b:Sc)(left:Nat)(T:TypeId)(c w:RW):Prop:=∃d e f g i j,pV S a b left T #[d,e,f,g,i,j] c w
def uQ.grow{S}{b:Nat}{c}{left:Nat}{T w0 w d}(a:uQ S b c left T w0 w)(e:w.grownBy d none):uQ S b c left T w0 d:=by have⟨f,g,i,j,k,l,a⟩:=a;exact⟨f,g,i,j,k,l,a.grow e⟩
def uQ.call{S}{a:Nat}{b}{left left':Nat}{T w0 w c}(d:uQ S a b left T w0 w)(e:kT S c a b left')(f:w.grownBy c<|some a):uQ S a b left' T w0 c:=by have⟨g,i,j,k,l,m,d⟩:=d;exact⟨g,i,j,k,l,m,d.call e f⟩
def uQ.m{S}{c:Nat}{d}{left:Nat}{T w0 w}(a:uQ S c d left T w0 w):kT S w c d left/\c<w0/\w0.heap.size<w/\(∀b,S b->b<w0/\b≠c):=by have⟨f,g,i,j,k,l,a⟩:=a;exact⟨a.hm,a.yj,a.lt,λb e=>⟨a.hS b e,(a.hm.lK b e).1⟩⟩
def kT.ar{S w}{d:Nat}{a}{left:Nat}(f:kT S w d a left):∃b c,w.cell? (Iv d)=some (.slice b a.nZ.length c)/\kz qq S w (.slice b a.nZ.length c) a.nZ:=by have⟨i,j,k,g,e,l⟩:=f.ll;obtain⟨b,c,m,rfl,n⟩:=id e;exact⟨b,c,kt g 4,e⟩
structure lH.Cd where
 params:Nat
 bytes:RK
instance:Inhabited Cd:=⟨⟨0,[]⟩⟩
def lH.FI(d:Sc)(e:List Nat)(c:Nat)(a:Hd):Prop:=∃b,e[c]?=some b/\a.name=nm 104 c/\a.params=qN 112 b/\(∀f∈a.body,mR {d with params:=b} Ds f)/\kU Ds a.body<=12
def lH.tv(c:Sc)(d:List Nat)(e:List Hd):Prop:=∀a b,e[a]?=some b->FI c d a b
def qu:Rel Cd:=λc d e a=>∃b,e=[.int .u8 (a.params:Int),b]/\kz qO c d b a.bytes
def qu.ok:lh qu 2:=
 ⟨Y,λ⟨b,a,_⟩=>by rw[a];rfl,λ⟨b,a,c⟩ g d=>by rw[a]at d;simp at d;rcases d with rfl|rfl;rfl;exact c.one,λ⟨b,a,c⟩ e=>⟨b,a,c.M qO.ok e⟩,λ⟨b,a,c⟩ f=>⟨b,a,c.kv qO.ok f⟩⟩
def ly.take{b:Type}{c:List R0->b->Prop}:∀{d:List<|List R0} {xs:List b} (a:Nat),ly c d xs->ly c (d.take a) (xs.take a)
 |[],[],a,_=>by simp;trivial
 |_::_,_::_,0,_=>trivial
 |_::_,_::_,a+1,⟨h1,h2⟩=>⟨h1,ly.take a h2⟩
 |[],_::_,_,a=>a.elim
 |_::_,[],_,a=>a.elim
def kz.take{e:Type}{f:Rel e}{S w c}{g d:Nat}{xs:List e}(l:kz f S w (.slice c g d) xs)(m:Nat)(i:m<=g):kz f S w (.slice c m d)<|xs.take m:=by
 have⟨B,C,b,a,D,n,p,q⟩:=l;injection a with r s t;subst r s t;refine⟨c,d,b.take m,by rw[Rm,Td i],by rw[Rm,Td i];omega,n,λu=>?_,ly.take m q⟩;have j:b.flatten=(b.take m).flatten++(b.drop m).flatten:=by rw[<-Tc,SA]
 have⟨v,o,a,x,y⟩:=p (by rw[j];intro a;exact u (List.append_eq_nil_iff.1 a).1);refine⟨v,o,a,x,λz A k=>y z A ?_⟩;rw[j,RP (Q9.1 k).1];exact k
def qu.ll{S w e}{j k i:Nat}{l a}(m:kz qu S w (.slice e j k) l)(n:l[i]?=some a):
  ∃b o c d,e=some ⟨b,o,none⟩/\S b/\w.cell? ⟨b,o+i*2,none⟩=some (.int .u8 (a.params:Int))/\w.cell? ⟨b,o+i*2+1,none⟩=some (.slice c a.bytes.length d)/\kz qO S w (.slice c a.bytes.length d) a.bytes:=by
 have⟨b,o,s,p,q,⟨t,r,f⟩,g⟩:=m.ll qu.ok i a n;obtain⟨c,d,u,rfl,_⟩:=id f;subst r;exact⟨b,o,c,d,p,q,by simpa using g 0 _ Z,g 1 _ Z,f⟩
def NG(w0 w b:RW):Prop:=w.heap.size<=b/\∀a,New w0 w a->b.heap[a]?=w.heap[a]?
def NG.lA{w0 w w' a}(b:w.grownBy w' a)(f:∀c,a=some c->c<=w0.heap.size):NG w0 w w':=⟨b.size,λd e=>b.B d e.2 λg=>Ul (f d g.symm) e.1⟩
def NG.alloc(w0 w o):NG w0 w<|w.alloc o:=.lA (QV w o none) (λb a=>by cases a)
def qB(f:Nat->Prop)(a:Nat)(g:Sc)(d:R0)(i:List Hd)(c:Nat)(j:Int)(k:RE)(l m:Nat)(w b:RW):Prop:=
 w.grownBy b (some a)/\kJ (mA .i64) 121 3 (λe=>w<=e/\e≠a) b w d i/\b.heap[c]?=some (.cells #[.int .u8 j,(k,l,m)] 94)/\c≠a/\some c≠d.ownBlock/\(∃n left,kT f b a {g with params:=n} left)
def qB.call{S}{a:Nat}{c i j}{d:Nat}{k:Int}{l}{n m:Nat}{w q e}(f:qB S a c i j d k l n m w q)(A:a<w){p left:Nat}(u:kT S e a {c with params:=p} left)(g:q.grownBy e<|some a):qB S a c i j d k l n m w e:=by
 have⟨v,r,s,t,x,_⟩:=f;have y:=r.ge;exact⟨ky v g,r.grown (mA.ok _) g (λB b=>by injection b with b;subst b;exact⟨λf=>f.2 Z,λz=>W<|y a z.symm⟩),
  (g.B d (QP.1 s).1 λb=>t<|by injection b).T s,t,x,p,left,u⟩
def qB.grow{S}{a:Nat}{b c d}{e:Nat}{f:Int}{g}{n i:Nat}{w j k}(l:qB S a b c d e f g n i w j)(p:a<w)(m:j.grownBy k none):qB S a b c d e f g n i w k:=by have⟨r,left,q⟩:=l.2.2.2.2.2;exact l.call p (q.kv m)<|kK m _
structure lH.Pt where
 ints:Nat
 lf:Nat
 hs:List Cd
 ss:List Cd
instance:Inhabited Pt:=⟨⟨0,0,[],[]⟩⟩
def lH.AZ(b:Pt)(a:Nat):List Nat:=if a<b.hs.length then [(b.hs.getD a default).params % 3]else if a=0 then [1]else if a<b.ss.length then [(b.ss.getD a default).params % 3]else []
def lH.sg(p:Pt):Nat->List Nat
 |0=>[]
 |k+1=>sg p k++AZ p k
def uk:Rel Pt:=λb c f a=>∃d e,f=[.int .u8 (a.ints:Int),.int .u8 (a.lf:Int),d,e]/\kz qu b c d a.hs/\kz qu b c e a.ss
def uk.ok:lh uk 4:=
 ⟨Y,λ⟨b,c,a,_⟩=>by rw[a];rfl,λ⟨b,c,a,d,e⟩ j f=>by rw[a]at f;simp at f;rcases f with rfl|rfl|rfl|rfl;rfl;rfl;exact d.one;exact e.one,λ⟨b,c,a,d,e⟩ g=>⟨b,c,a,d.M qu.ok g,e.M qu.ok g⟩,λ⟨b,c,a,d,e⟩ i=>⟨b,c,a,d.kv qu.ok i,e.kv qu.ok i⟩⟩
def lH.rF(d:Nat)(a:List Fg):Prop:=a.length=d/\∀b c,a[b]?=some c->c.name=nm 102 b
def lH.nP(b e:Nat)(d:List Lk):Prop:=(∀a∈d,∃c,c<e/\c<b*b/\a.a=kX (c/b)/\a.b=kX (c % b)/\1<=a.tF/\a.tF<=3)/\(d.map λa=>(a.a,a.b)).Nodup
def lH.nw(b c:Nat):List Va:=(List.range b).map (λa=>⟨nm 120 a,1,a⟩)++[⟨nm 98 0,2,0⟩]++(List.range c).map (λa=>⟨nm 116 a,3,0⟩)
def lH.qP(a b c:Nat)(d:List<|List Nat)(i:Nat):Sc:=⟨b,c,a,0,d,i⟩
def lH.Nk(c:Sc)(b:List Nat)(a:List Hd):Prop:=1<=a.length/\a.length<=b.length/\tv c b a
structure lH.yr(nf:Nat)(nZ:List<|List Nat)(i:Nat)(c:Co):Prop where
 ex:∃ints lf al,1<=ints/\ints<=3/\lf<=1/\c.name=kX i/\c.vars=nw ints lf/\1<=c.lJ.length/\c.lJ.length<=2/\nZ[i]?=some al/\(∀hs∈c.lJ,Nk (qP nf ints lf nZ i) al hs)/\(∃hs∈c.lJ,hs.length=al.length)
structure lH.tS(f:Fl):Prop where
 ex:∃nf nZ,f.name=[102,108,101,101,116,49]/\nf<=2/\rF nf f.kQ/\1<=nZ.length/\nZ.length<=3/\(∀l∈nZ,1<=l.length/\l.length<=3/\∀a∈l,a<=2)/\nP nZ.length (nZ.length*nZ.length) f.ml/\f.kH.length=nZ.length/\∀i c,f.kH[i]?=some c->yr nf nZ i c
def lH.nP.skip{b m:Nat}{c}(a:nP b m c):nP b (m+1) c:=⟨λd e=>by have⟨f,g,a⟩:=a.1 d e;exact⟨f,Y,a⟩,a.2⟩
def K5(b c:Nat):Nat->Prop:=λa=>b<a/\a<c
def uk.ll{S w j}{q r i:Nat}{l a}(s:kz uk S w (.slice j q r) l)(t:l[i]?=some a):
  ∃b o c k d e m f,j=some ⟨b,o,none⟩/\S b/\w.cell? ⟨b,o+i*4,none⟩=some (.int .u8 (a.ints:Int))/\w.cell? ⟨b,o+i*4+1,none⟩=some (.int .u8 (a.lf:Int))/\w.cell? ⟨b,o+i*4+2,none⟩=some (.slice c k d)/\w.cell? ⟨b,o+i*4+3,none⟩=some (.slice e m f)/\
   kz qu S w (.slice c k d) a.hs/\kz qu S w (.slice e m f) a.ss:=by
 have⟨b,o,y,u,v,⟨z,A,x,n,p⟩,g⟩:=s.ll uk.ok i a t;obtain⟨c,d,_,rfl,_⟩:=id n;obtain⟨e,f,_,rfl,_⟩:=id p;subst x;exact⟨b,o,c,_,d,e,_,f,u,v,by simpa using g 0 _ Z,g 1 _ Z,g 2 _ Z,g 3 _ Z,n,p⟩
def kT.M{S a w}{c:Nat}{d}{left:Nat}(f:kT S w c d left)(e:∀b,S b->a b)(g:∀b,a b->b≠c/\b<w):kT a w c d left:=by have⟨i,j,k,l,m,n⟩:=f.ll;exact⟨⟨i,j,k,l,m.M qq.ok e,n.M qO.ok e⟩,g⟩
def kz.len{a:Type}{c:Rel a}{S w d}{n b:Nat}{xs:List a}(e:kz c S w (.slice d n b) xs):xs.length=n/\n<=b:=by have⟨k,l,m,f,g,_⟩:=e;injection f with _ i j;subst i j;exact⟨Z,g⟩
structure Kp(mb cb:Nat)(w w':RW):Prop where
 os:w'.os=w.os
 tape:w'.tape=w.tape
 output:w'.output=w.output
 size:w.heap.size<=w'
 B:∀b,b<w.heap.size->b≠mb->b≠cb->w'.heap[b]?=w.heap[b]?
def Kp.T{c cb:Nat}{d b e}(a:Kp c cb d b)(k:Kp c cb b e):Kp c cb d e:=⟨k.os.T a.os,k.tape.T a.tape,k.output.T a.output,QT a.size k.size,λf g i j=>(k.B f (QO g a.size) i j).T<|a.B f g i j⟩
def Kp.lA{b c:Nat}{w w'}(a:w.grownBy w'<|some b):Kp b c w w':=⟨a.os,a.tape,a.output,a.size,λd e f _=>a.B d e λg=>f<|by injection g⟩
abbrev mN:RK:=[102,108,101,101,116,49]
structure M6(S:Nat->Prop)(B z:Nat)(w0 wx:RW)(n:Nat)(parts:List Pt)(Af:RE)(nf cf:Nat)(Ak:RE)(nk ck:Nat)(uO:List Fg)(JH:List Lk)(nZ:List<|List Nat)(A4:RE)(c4:Nat)(PX:RE)(c10 b8 o8:Nat):Prop where
 hz:wx.heap[z]?=some (.cells #[Em,Nl,Nl,Nl] 32)
 hF:wx.heap[B]?=some (.cells #[tx mN,(Af,nf,cf),(Ak,nk,ck),Nl] 32)
 zB:w0<=z/\z<B
 rf:Below w0 w0 wx
 JE:kz uk S wx (A4,n,c4) parts
 hS:∀b,S b->b<B/\b≠z
 n1:1<=n
 n3:n<=3
 Nb:kz mI (K5 B wx) wx (Af,nf,cf) uO
 Nc:rF nf uO
 f2:nf<=2
 Ol:kz nT (K5 B wx) wx (Ak,nk,ck) JH
 Om:nP n (n*n) JH
 PF:kz qq (K5 B wx) wx (PX,n,c10) nZ
 Oo:nZ=parts.map λp=>sg p 3
 h8:∀j,j<3->wx.cell? ⟨b8,o8+j,none⟩=some (tx<|kX j)
 b8:B<b8/\b8<wx
def M6.len{S}{B e:Nat}{w0 b}{n:Nat}{c f}{g i:Nat}{j}{k l:Nat}{m p d q}{r:Nat}{s}{t u v:Nat}(a:M6 S B e w0 b n c f g i j k l m p d q r s t u v):c.length=n/\d.length=n/\B<b:=
 ⟨a.JE.len.1,a.PF.len.1,(QP.1 a.hF).1⟩
structure N1(S:Nat->Prop)(B z:Nat)(w0 wx:RW)(n:Nat)(parts:List Pt)(Af:RE)(nf cf:Nat)(Ak:RE)(nk ck:Nat)(uO:List Fg)(JH:List Lk)(A4:RE)(c4 b8 o8:Nat):Prop where
 hz:wx.heap[z]?=some (.cells #[Em,Nl,Nl,Nl] 32)
 hF:wx.heap[B]?=some (.cells #[tx mN,(Af,nf,cf),(Ak,nk,ck),Nl] 32)
 zB:w0<=z/\z<B
 rf:Below w0 w0 wx
 JE:kz uk S wx (A4,n,c4) parts
 hS:∀b,S b->b<B/\b≠z
 n1:1<=n
 n3:n<=3
 Nb:kz mI (K5 B wx) wx (Af,nf,cf) uO
 Nc:rF nf uO
 f2:nf<=2
 Ol:kz nT (K5 B wx) wx (Ak,nk,ck) JH
 Om:nP n (n*n) JH
 h8:∀j,j<3->wx.cell? ⟨b8,o8+j,none⟩=some (tx<|kX j)
 b8:B<b8/\b8<wx
structure PG(S:Nat->Prop)(B bx cb mb:Nat)(wx wy:RW)(k:Nat)(pi pt:Nat)(A1:RE)(n1 c1:Nat)(A2:RE)(n2 c2:Nat)(Af:RE)(nf cf:Nat)(Ak:RE)(nk ck:Nat)(A:RE)(cp:Nat)(cs:List Co)(Av:RE)(nv cv ni nt:Nat)(nZ:List<|List Nat)(Aq:RE)(nq cq:Nat)(lq ss:List Cd)(al:List Nat):Prop where
 M7:wy.heap[bx]?=some (.cells #[.int .u8 (pi:Int),.int .u8 (pt:Int),(A1,n1,c1),(A2,n2,c2)] 75)
 PY:wy.heap[cb]?=some (.cells #[tx<|kX k,(Av,nv,cv),Nl] 88)
 hF:wy.heap[B]?=some (.cells #[tx mN,.slice Af nf cf,(Ak,nk,ck),.slice A k cp] 32)
 ord:B<wx/\wx<=bx/\bx<cb/\cb<mb/\mb<wy
 hg:wx.grownBy wy<|some B
 ho:kJ (mr .i64) 88 3 (λb=>wx<=b/\b<bx) wy wx (.slice A k cp) cs
 PZ:cs.length=k
 hk:k<3
 Oq:∀z,(Value.slice A k cp).ownBlock=some z->z<bx
 Ot:kT S wy mb (qP nf ni nt nZ k) 0
 Lq:oQ<|qP nf ni nt nZ k
 Ou:nZ[k]?=some al
 hq:kz qu S wy (Aq,nq,cq) lq
 q1:1<=nq
 q2:nq<=al.length
 N2:kz qu S wy (A2,n2,c2) ss
 s2:min n2 3<=al.length
 hm:nq=al.length\/min n2 3=al.length
 hv:kz (oh .i64) (λb=>cb<b/\b<wy/\b≠mb) wy (Av,nv,cv)<|nw ni nt
 OT:∀b,S b->b≠cb
def lg{w:RW}{b:Nat}{c d e:R0}{f:TypeId}(a:w.heap[b]?=some (.cells #[c,d,e] f)):
  (w.cell? b=some c/\w.cell? (sd b)=some d/\w.cell? (rm b)=some e)/\(w.frozen? ⟨b,0,none⟩=false/\w.frozen? ⟨b,1,none⟩=false/\w.frozen? ⟨b,2,none⟩=false):=
 ⟨⟨kt a 0,kt a 1,kt a 2⟩,kx a 0,kx a 1,kx a 2⟩
structure N3(S:Nat->Prop)(B z bp:Nat)(w0 wx:RW)(n:Nat)(parts:List Pt)(fb:Nat)(Al:RE)(nl cl:Nat)(Oy:RK)(Ac:RE)(nc cc:Nat)(Af:RE)(nf cf:Nat)(uO:List Fg)(A4:RE)(c4 b8 o8:Nat):Prop where
 hz:wx.heap[z]?=some (.cells #[Em,Nl,Nl,Nl] 32)
 hF:wx.heap[B]?=some (.cells #[tx mN,(Af,nf,cf),Nl,Nl] 32)
 M8:wx.heap[bp]?=some (.cells #[.int .u8 (fb:Int),(Al,nl,cl),(Ac,nc,cc)] 25)
 N4:bp<z
 zB:w0<=z/\z<B
 rf:Below w0 w0 wx
 JE:kz uk S wx (A4,n,c4) parts
 N5:kz qO S wx (Al,nl,cl) Oy
 hS:∀b,S b->b<B/\b≠z
 n1:1<=n
 n3:n<=3
 Nb:kz mI (K5 B wx) wx (Af,nf,cf) uO
 Nc:rF nf uO
 f2:nf<=2
 h8:∀j,j<3->wx.cell? ⟨b8,o8+j,none⟩=some (tx<|kX j)
 b8:B<b8/\b8<wx
structure B6(S:Nat->Prop)(B z bp:Nat)(w0 wx:RW)(n:Nat)(parts:List Pt)(fb:Nat)(Al:RE)(nl cl:Nat)(Oy:RK)(Ac:RE)(nc cc:Nat)(A4:RE)(c4:Nat):Prop where
 hz:wx.heap[z]?=some (.cells #[Em,Nl,Nl,Nl] 32)
 hF:wx.heap[B]?=some (.cells #[tx mN,Nl,Nl,Nl] 32)
 M8:wx.heap[bp]?=some (.cells #[.int .u8 (fb:Int),(Al,nl,cl),(Ac,nc,cc)] 25)
 N4:bp<z
 zB:w0<=z/\z<B
 rf:Below w0 w0 wx
 JE:kz uk S wx (A4,n,c4) parts
 N5:kz qO S wx (Al,nl,cl) Oy
 hS:∀b,S b->b<B/\b≠z
 n1:1<=n
 n3:n<=3
def lH.C1:Nat->Ex->Prop
 |0,_=>False
 |d+1,e=>1<=e.op/\e.op<=255/\e.args.length<=2/\∀a∈e.args,C1 d a
def lH.uR:Nat->St->Prop
 |0,_=>False
 |d+1,s=>1<=s.kind/\s.kind<=255/\s.lp.length<=3/\s.th.length<=12/\s.el.length<=12/\(∀b∈s.lp,C1 De b)/\(∀a∈s.th,uR d a)/\∀a∈s.el,uR d a
def lH.lM.ops{j}:∀{d:Nat} {g:Ex},lM j d g->C1 d g
 |0,_,h=>h.elim
 |d+1,g,h=>by
  rcases h with⟨c,_,_,_,a⟩|⟨c,_,_,a⟩|⟨c,_,_,a⟩|⟨c,_,_,_,i,a,e⟩|⟨c,_,_,_,a⟩|⟨c,_,_,i,a,e⟩|⟨c,_,_,i,b,a,e,k⟩
  all_goals
   refine⟨Y,Y,by rw[a];simp,λl f=>?_⟩;rw[a]at f;simp at f
  rw[f];exact lM.ops e;rw[f];exact lM.ops e;rcases f with rfl|rfl;exact lM.ops e;exact lM.ops k
def lH.ny.ops{k}:∀{d:Nat} {g:Ex},ny k d g->C1 d g
 |0,_,h=>h.elim
 |d+1,g,h=>by
  rcases h with⟨f,_,_,a⟩|⟨f,_,_,a⟩|⟨f,_,_,_,i,a,c⟩|⟨f,_,_,i,a,c⟩|⟨f,_,_,i,b,a,c,j⟩|⟨f,_,_,i,b,a,c,j⟩
  all_goals
   refine⟨Y,Y,by rw[a];simp,λl e=>?_⟩;rw[a]at e;simp at e
  rw[e];exact lM.ops c;rw[e];exact ny.ops c;rcases e with rfl|rfl;exact ny.ops c;exact ny.ops j;rcases e with rfl|rfl;exact lM.ops c;exact lM.ops j
def lH.qj{d:Nat}:∀{l:List St} {n:Nat},kU (d+1) l<=n->l.length<=n/\∀s∈l,kU d s.th<=n/\kU d s.el<=n
 |[],n,_=>⟨by simp,λs a=>by simp at a⟩
 |s::l,n,h=>by have e:1+kU d s.th+kU d s.el+kU (d+1) l<=n:=(by simpa[kU]using h);have⟨f,b⟩:=qj (d:=d) (l:=l) (n:=n-1) Y;refine⟨Us,λc hx=>?_⟩;rcases List.mem_cons.1 hx with rfl|hx;omega;have:=b c hx;omega
def lH.xc{d:Nat}{a}{c:Nat}{e}(f:kU d a<=c)(g:∀b∈a,mR e d b):a.length<=c:=by
 cases d with
 |zero=>
  cases a with
  |nil=>simp
  |cons b a=>exact(g b Uo).elim
 |succ d=>exact(qj f).1
def lH.mR.ops{s}:∀{d:Nat} {e:St},mR s d e->(kU (d-1) e.th<=12/\kU (d-1) e.el<=12)->s.nZ.length<=3->(∀t∈s.nZ,∀i∈t,i<=2)->uR d e
 |0,_,m,_,_,_=>m.elim
 |d+1,e,m,hc,h3,h2=>by
  have B:(∀f∈e.th,mR s d f)->e.th.length<=12/\∀f∈e.th,uR d f:=λc=>by
   refine⟨xc hc.1 c,λf a=>mR.ops (c f a) ?_ h3 h2⟩;cases d with
   |zero=>exact(c f a).elim
   |succ d=>exact(qj hc.1).2 f a
  have u:(∀f∈e.el,mR s d f)->e.el.length<=12/\∀f∈e.el,uR d f:=λc=>by
   refine⟨xc hc.2 c,λf a=>mR.ops (c f a) ?_ h3 h2⟩;cases d with
   |zero=>exact(c f a).elim
   |succ d=>exact(qj hc.2).2 f a
  have p:e.th=[]->e.th.length<=12/\∀f∈e.th,uR d f:=λq=>(by rw[q];simp);have r:e.el=[]->e.el.length<=12/\∀f∈e.el,uR d f:=λq=>(by rw[q];simp);have l:1<=e.kind->e.kind<=255->e.lp.length<=3->(∀q∈e.lp,C1 De q)->(e.th.length<=12/\∀f∈e.th,uR d f)->(e.el.length<=12/\∀f∈e.el,uR d f)->uR (d+1) e:=λi v D q w C=>⟨i,v,D,w.1,C.1,q,w.2,C.2⟩
  rcases m with⟨n,_,c,g,q,a,m⟩|⟨n,_,_,_,c,g,i,v,a,j,x⟩|⟨n,_,_,_,c,g,i,a,j⟩|⟨n,_,_,⟨i,a,j⟩,c,g⟩|⟨n,_,_,g,⟨i,a,j⟩,c⟩|⟨n,c,g,⟨w,t,E,i,y,z,_,_,A⟩,a⟩|⟨n,_,c,g,⟨t,E,i,y,z,_,A⟩,a⟩|⟨n,_,_,c,⟨i,v,a,j,x⟩,g⟩|⟨n,_,c,_,⟨i,a,j⟩,g⟩|⟨n,_,_,c,g,a⟩
  exact l Y Y (by rw[a];simp) (λk b=>by rw[a]at b;simp at b;subst b;rcases m with⟨_,_,_,m⟩|⟨_,m⟩;exact m.ops;exact m.ops) (p c)<|r g;exact l Y Y (by rw[a];simp) (λk b=>by rw[a]at b;simp at b;rcases b with rfl|rfl;exact j.ops;exact x.ops) (p c)<|r g;exact l Y Y (by rw[a];simp) (λk b=>by rw[a]at b;simp at b;subst b;exact j.ops) (p c)<|r g;exact l Y Y (by rw[a];simp) (λk b=>by rw[a]at b;simp at b;subst b;exact j.ops) (B c)<|u g;exact l Y Y (by rw[a];simp) (λk b=>by rw[a]at b;simp at b;subst b;exact j.ops) (B c)<|r g;exact l Y Y (by rw[A];have:=h2 t (List.mem_of_getElem? y) i<|List.mem_of_getElem? z;omega) (λk b=>(a k b).ops) (p c)<|r g;exact l Y Y (by rw[A];have:=h2 t (List.mem_of_getElem? y) i<|List.mem_of_getElem? z;omega) (λk b=>(a k b).ops) (p c)<|r g;exact l Y Y (by rw[a];simp) (λk b=>by rw[a]at b;simp at b;rcases b with rfl|rfl;exact j.ops;exact x.ops) (p c)<|u g;exact l Y Y (by rw[a];simp) (λk b=>by rw[a]at b;simp at b;subst b;exact j.ops) (p c)<|u g;exact l Y Y (by rw[a];simp) (λk b=>by rw[a]at b;simp at b) (p c)<|r g
def Nw(w0 w:RW):Nat->Prop:=λa=>w0<=a/\a<w
def NK(w0 w w':RW):Prop:=w.heap.size<=w'/\∀a,Nw w0 w a->w'.heap[a]?=w.heap[a]?
def NK.lA{w0 w w' a}(b:w.grownBy w' a)(f:∀c,a=some c->c<w0.heap.size):NK w0 w w':=⟨b.size,λd e=>b.B d e.2 λg=>Ul (f d g.symm) e.1⟩
def NK.alloc(w0 w o):NK w0 w<|w.alloc o:=.lA (QV w o none) (λb a=>by cases a)
def NK.ku{w0 w w'}(a:Below w.heap.size w w'):NK w0 w w':=.lA (kC a) (λc b=>by cases b)
structure nO{α:Type}(R:Rel α)(T k:Nat)(P:Nat->Prop)(w3 wr:RW)(o:Nat)(C:Array R0)(TO:TypeId)(vQ:R0)(xs:List α)(x:RW):Prop where
 g:w3.grownBy x<|some o
 c:x.heap[o]?=some (.cells C TO (0,0))
 own:kJ R T k P x w3 vQ xs
 s:wr.heap.size<=x
 v:∀z,vQ.ownBlock=some z->w3<=z/\z<wr
 lt:o<w3
 ws:w3.heap.size<=wr
 k:∀b,b<wr.heap.size->b≠o->some b≠vQ.ownBlock->x.heap[b]?=wr.heap[b]?
def nO.grow{f:Type}{c:Rel f}{T d:Nat}{P g i}{o:Nat}{j k l}{m:List f}{e n}(a:nO c T d P g i o j k l m e)(ok:lh c d)(b:e.grownBy n none):nO c T d P g i o j k l m n:=
 have r:o<e:=(QP.1 a.c).1
 ⟨ky a.g<|kK b _,(b.B o r Uo).T a.c,a.own.grown ok b (λv s=>by cases s),QT a.s b.size,a.v,a.lt,a.ws,λp q t u=>(b.B p (QO q a.s) Uo).T<|a.k p q t u⟩
def nO.ku{b:Type}{a:Rel b}{T k:Nat}{P c d}{o:Nat}{e f vQ}{g:List b}{x i}(j:nO a T k P c d o e f vQ g x)(ok:lh a k)(l:Below x x i):nO a T k P c d o e f vQ g i:=j.grow ok<|kC l
def nO.alloc{b:Type}{a:Rel b}{T k:Nat}{P c d}{o:Nat}{e f vQ}{g:List b}{x}(i:nO a T k P c d o e f vQ g x)(ok:lh a k)(j):nO a T k P c d o e f vQ g<|x.alloc j:=i.grow ok<|QV _ _ none
def nO.drew{c:Type}{a:Rel c}{T b:Nat}{P d e}{o:Nat}{f g vQ}{i:List c}{x}(j:nO a T b P d e o f g vQ i x)(ok:lh a b):nO a T b P d e o f g vQ i {x with drawn:=x.drawn+1}:=j.grow ok<|kC (Sf _ _).drew
def kz.form{d:Type}{e:Rel d}{S w v}{b:List d}(f:kz e S w v b):∃c a,v=.slice c b.length a/\b.length<=a:=by have⟨c,a,j,g,i,_⟩:=f;exact⟨c,a,g,i⟩
def wb(b:Obj)(w:RW)(c:Nat->Prop):Nat->Prop:=λa=>c a/\w.heap[a]? ≠some b
def wb.kv{z w0 w w'}(b:NK w0 w w'){e:Type}{c:Rel e}{k:Nat}(ok:lh c k){v}{f:List e}(g:kz c (wb z w<|Nw w0 w) w v f):kz c (wb z w'<|Nw w0 w') w' v f:=
 (g.kv ok λd a=>b.2 d a.1).M ok λd a=>⟨⟨a.1.1,QO a.1.2 b.1⟩,by rw[b.2 d a.1];exact a.2⟩
def kD{b:Nat}{w w'}(a:Below b w w'){z i:Nat}{u}(e:b<=z):Below b w<|w'.setCell (sa z i) u:=
 ⟨a.os,a.tape,a.output,by rw[QU];exact a.size,λc d=>(Q0 _ _ _ _<|by show c≠z;omega).T<|a.B c d⟩
structure lH.In where
 op:Int
 a:Int
 b:Int
 n:Int
def ym:Rel In:=λ_ _ b a=>b=[.int .u8 a.op,.int .i64 a.a,.int .i64 a.b,.int .i64 a.n]
def ym.ok:lh ym 4:=
 ⟨Y,λa=>by rw[a];rfl,λa c b=>by rw[a]at b;simp at b;rcases b with rfl|rfl|rfl|rfl<;>rfl,λa _=>a,λa _=>a⟩
structure mB(w3:RW)(cb:Nat)(f0 f1 f2 f3 hd own vars lf kQ params:R0)(vQ:R0)(code:List In)(w:RW):Prop where
 g:w3.grownBy w<|some cb
 c:w.heap[cb]?=some (.cells #[f0,f1,f2,f3,hd,own,vars,lf,kQ,params,vQ] 164)
 own:kJ ym 336 4 (λ_=>False) w w3 vQ code
 lt:cb<w3
structure nG(cb:Nat)(vQ:R0)(w:RW)(V':R0)(w':RW):Prop where
 size:w.heap.size<=w'
 k:∀b,b<w.heap.size->b≠cb->some b≠vQ.ownBlock->w'.heap[b]?=w.heap[b]? /\some b≠V'.ownBlock
def nG.T{cb:Nat}{vQ V' b w w' c}(a:nG cb vQ w V' w')(k:nG cb V' w' b c):nG cb vQ w b c:=
 ⟨QT a.size k.size,λd e f g=>by have⟨i,j⟩:=a.k d e f g;have⟨l,m⟩:=k.k d (QO e a.size) f j;exact⟨l.T i,m⟩⟩
def nG.ku{cb:Nat}{vQ w w'}(a:Below w.heap.size w w'):nG cb vQ w vQ w':=⟨a.size,λb c _ d=>⟨a.B b c,d⟩⟩
def mB.ku{c}{cb:Nat}{d e f g i j k l m n vQ}{p:List In}{w w'}(a:mB c cb d e f g i j k l m n vQ p w)(b:Below w w w'):mB c cb d e f g i j k l m n vQ p w':=
 ⟨ky a.g<|kK (kC b) _,(b.B cb (QP.1 a.c).1).T a.c,a.own.ku ym.ok b,a.lt⟩
structure lH.PH(h:Hd):Prop where
 params:h.params.length<=2
 body:h.body.length<=12
 ops:∀s∈h.body,uR Ds s
structure lH.Qi(c:Co):Prop where
 vars:c.vars.length<=5
 ty:∀v∈c.vars,0<=v.ty/\v.ty<=3
 lJ:c.lJ.length<=2
 hs:∀l∈c.lJ,l.length<=3/\∀h∈l,PH h
structure lH.PI(f:Fl):Prop where
 kQ:f.kQ.length<=2
 ml:f.ml.length<=9
 kH:f.kH.length<=3
 co:∀c∈f.kH,Qi c
def lH.rM(a b:Nat):(nw a b).length=a+1+b:=by simp[nw];omega
def lH.FW(c d:Nat):∀a∈nw c d,1<=a.ty/\a.ty<=3:=by intro a b;simp only[nw,List.mem_append,List.mem_map,List.mem_singleton]at b;rcases b with(⟨k,_,rfl⟩|rfl)|⟨k,_,rfl⟩<;>simp
def lH.Iu{a:Nat}(e:a<=3){d}(f:nP a (a*a) d):d.length<=9:=by
 have i:(d.map λb=>(b.a,b.b)).length<=((List.range<|a*a).map λc=>(kX<|c/a,kX<|c % a)).length:=by refine List.Nodup.length_le_of_subset f.2 ?_;intro n g;rw[List.mem_map]at g;obtain⟨b,j,rfl⟩:=g;have⟨c,k,_,l,m,_⟩:=f.1 b j;rw[List.mem_map];exact⟨c,List.mem_range.2 k,by rw[l,m]⟩
 simp at i;have:a*a<=3*3:=Nat.mul_le_mul e e;omega
def lH.FI.b{b}(m:b.nZ.length<=3)(n:∀l∈b.nZ,∀a∈l,a<=2){c}(p:∀a∈c,a<=2){k:Nat}{e}(q:FI b c k e):PH e:=by have⟨a,r,_,s,f,g⟩:=q;have t:=p a<|List.mem_of_getElem? r;refine⟨by rw[s,lR];exact t,xc g f,λi j=>?_⟩;refine(f i j).ops ?_ m n;exact(qj (d:=3) g).2 i j
def lH.tS.b{f}(a:tS f):PI f:=by have⟨C,D,_,j,k,E,d,e,l,F,m⟩:=a.ex;refine⟨by rw[k.1];exact j,Iu d l,Y,λn p=>?_⟩;have⟨q,r⟩:=List.getElem?_of_mem p;have⟨G,I,s,J,K,L,_,g,M,t,u,v,_⟩:=(m q n r).ex;have w:=e s<|List.mem_of_getElem? u;refine⟨by rw[g,rM];omega,λx i=>?_,t,λb c=>?_⟩;rw[g]at i;have:=FW _ _ x i;omega;have⟨N,O,y⟩:=v b c;refine⟨Y,λa z=>?_⟩;have⟨A,B⟩:=List.getElem?_of_mem z;exact(y A a B).b d (λb c=>(e b c).2.2) w.2.2
structure KG(w3:RW)(o:Nat)(C:Array R0)(TO:TypeId)(x:RW):Prop where
 g:w3.grownBy x<|some o
 c:x.heap[o]?=some (.cells C TO (0,0))
 lt:o<w3
def KG.s{a}{o:Nat}{C b x}(c:KG a o C b x):a.heap.size<=x:=c.g.size
def KG.lx{b}{o:Nat}{c d a}(e:KG b o c d a):o<a:=(QP.1 e.c).1
def KG.grow{c}{o:Nat}{f g i j k}(a:KG c o f g i)(b:i.grownBy j k)(l:∀m,k=some m->c<=m):KG c o f g j:=
 ⟨⟨b.os.T a.g.os,b.tape.T a.g.tape,b.output.T a.g.output,QT a.g.size b.size,λd n p=>(b.B d (QO n a.g.size) λe=>W<|l d e.symm).T<|a.g.B d n p⟩,(b.B o a.lx λe=>Ul (l o e.symm) a.lt).T a.c,a.lt⟩
def KG.alloc{a}{o:Nat}{b c x}(d:KG a o b c x)(e):KG a o b c<|x.alloc e:=d.grow (QV _ _ none) (λg f=>by cases f)
abbrev pv:=(#[Em,.int .u8 0,.int .i64 0]:Array Go.Value)
abbrev tw(a b c):=(.cells #[tx a,.int .u8 b,c] 115:Go.Obj)
def kI.lY(a:Int):Bool:=(decide (97<=a)&&decide (a<=122))||(decide (65<=a)&&decide (a<=90))
def kI.mO(a:Int):Bool:=decide (48<=a)&&decide (a<=57)
def kI.ma(a:Int):Bool:=lY a||mO a||(a==95)
def kI.pre(a:Int->Bool)(b:RK):Nat:=(b.takeWhile λc=>a c.toNat).length
def kI.words:List RK:=[[97,102,116,101,114],[97,108,119,97,121,115],[97,110,100],[97,114,114,105,118,101,115],[98,111,111,108],[99,111,109,112,111,110,101,110,116],[99,111,117,110,116],[100,101,108,101,116,101],[100,111],[101,108,115,101],[101,120,105,115,116,115],[102,97,108,115,101],[102,101,116,99,104],[102,108,97,103],[102,108,101,101,116],[102,111,114,97,108,108],[104,97,115],[105,102],[105,109,112,108,105,101,115],[105,110],[105,110,116],[108,97,116,101,110,99,121],[108,105,110,107],[110,111,116],[110,111,119],[111,110],[111,110,99,101],[111,114],[112,114,101,118,105,111,117,115],[115,101,110,100],[115,105,110,99,101],[115,105,122,101],[115,116,111,112],[115,116,111,114,101],[116,97,98,108,101],[116,114,117,101],[118,97,114],[118,101,114,115,105,111,110],[119,104,105,108,101]]
def kI.tz(a:RK):Bool:=words.contains a
def pc:Array R0:=(kI.words.map tx).toArray
def tH(a:RW):Prop:=∃b c,a.heap[5]?=some (.cells pc b c)
def nr(a:RK):Bool:=decide (0<a.length)&&decide (a.length<=12)&&kI.lY (a.headD 0).toNat&&(kI.pre kI.ma a==a.length)&& !kI.tz a
def lH.shapes:List<|Nat×Bool×Nat×RK:=[(0,false,0,[]),(0,false,7,[]),(0,false,7,[116,114,117,101]),(0,false,7,[102,97,108,115,101]),(0,false,7,[110,111,119]),(0,true,7,[]),(1,true,7,[]),(1,true,7,[104,97,115,32]),(0,true,7,[115,105,122,101,32]),(1,false,6,[45]),(1,false,6,[110,111,116,32]),(2,false,5,[32,42,32]),(2,false,5,[32,47,32]),(2,false,5,[32,37,32]),(2,false,4,[32,43,32]),(2,false,4,[32,45,32]),(2,false,3,[32,61,61,32]),(2,false,3,[32,33,61,32]),(2,false,3,[32,60,32]),(2,false,3,[32,60,61,32]),(2,false,3,[32,62,32]),(2,false,3,[32,62,61,32]),(2,false,2,[32,97,110,100,32]),(2,false,1,[32,111,114,32])]
def lH.forms:List<|Bool×Bool×Nat×Nat×Bool×Bool:=[(false,false,0,0,false,false),(true,false,1,1,false,false),(true,false,2,2,false,false),(true,false,1,1,false,false),(false,false,1,1,true,true),(false,false,1,1,true,false),(true,true,0,4,false,false),(false,true,1,5,false,false),(false,false,2,2,false,true),(true,false,1,1,false,true),(false,false,0,0,false,false)]
def ly.map{c:Type}(b:c->List R0):∀(a:List c),ly (λd x=>d=b x) (a.map b) a
 |[]=>trivial
 |_::a=>⟨Z,ly.map b a⟩
def rr(a:Nat×Bool×Nat×RK):List R0:=[.int .i64 (a.1:Int),.bool a.2.1,.int .i64 (a.2.2.1:Int),tx a.2.2.2]
def sQ(a:Bool×Bool×Nat×Nat×Bool×Bool):List R0:=[.bool a.1,.bool a.2.1,.int .i64 (a.2.2.1:Int),.int .i64 (a.2.2.2.1:Int),.bool a.2.2.2.2.1,.bool a.2.2.2.2.2]
def wG:Array R0:=(shapes.map rr).flatten.toArray
def zS:Array R0:=(forms.map sQ).flatten.toArray
structure lX(w:RW):Prop where
 names:tH w
 shapes:∃t fr,w.heap[11]?=some (.cells wG t fr)
 forms:∃t fr,w.heap[6]?=some (.cells zS t fr)
def tH.ku{w w'}{B:Nat}(a:tH w)(b:Below B w w')(c:5<B):tH w':=by have⟨d,e,a⟩:=a;exact⟨d,e,(b.B _ c).T a⟩
def tH.lt{w}(a:tH w):5<w.heap.size:=by have⟨b,c,a⟩:=a;exact(QP.1 a).1
def lX.lt{w}(a:lX w):11<w.heap.size/\6<w.heap.size:=by have⟨_,⟨_,_,b⟩,_,_,c⟩:=a;exact⟨(QP.1 b).1,(QP.1 c).1⟩
def lX.kv{w w'}(a:lX w)(c:∀b,b<w.heap.size->(b=5\/b=11\/b=6)->w'.heap[b]?=w.heap[b]?):lX w':=by have d:=a.lt;have e:=a.names.lt;have⟨⟨f,g,i⟩,⟨j,k,l⟩,m,n,p⟩:=a;exact⟨⟨f,g,(c _ e<|.inl Z).T i⟩,⟨j,k,(c _ d.1<|.inr<|.inl Z).T l⟩,m,n,(c _ d.2<|.inr<|.inr Z).T p⟩
def lX.ku{w w'}{B:Nat}(a:lX w)(c:Below B w w')(b:5<B/\11<B/\6<B):lX w':=
 a.kv λd _ a=>c.B d (by rcases a with rfl|rfl|rfl;exact b.1;exact b.2.1;exact b.2.2)
def kG(v:R0)(a:RW)(b:Ending)(w':RW):Prop:=b=.returned v/\Below a a w'
def mK:Nat->Ex->Prop
 |0,_=>False
 |d+1,e=>(∃a,1<=e.op/\shapes[e.op.toNat]?=some a/\e.args.length=a.1/\(a.2.1=true->nr e.name=true)/\(a.2.1=false->e.name=[])/\(e.op=1->0<=e.n)/\(e.op≠1->e.n=0))/\∀b∈e.args,mK d b
def At(w:RW)(c o:Nat)(d:List R0):Prop:=∀(a:Nat) (b:R0),d[a]?=some b->w.cell? ⟨c,o+a,none⟩=some b
def At.ku{w w'}{B b o:Nat}{r}(c:At w b o r)(d:Below B w w')(e:b<B):At w' b o r:=λa f g=>(Cb b (o+a)<|d.B b e).T<|c a f g
def mq(g:FuncId):Prop:=∀(a:Array R0) (b:RW),Sem.run prog (callFunc g a) b=.ok (.enter g a) b
def nQ:Nat->St->Prop
 |0,_=>False
 |d+1,s=>(∃a,1<=s.kind/\forms[s.kind.toNat]?=some a/\(a.1=true->nr s.name=true)/\(a.1=false->s.name=[])/\(a.2.1=true->nr s.hd=true)/\(a.2.1=false->s.hd=[])/\a.2.2.1<=s.lp.length/\s.lp.length<=a.2.2.2.1/\(a.2.2.2.2.1=false->s.th=[])/\(a.2.2.2.2.2=false->s.el=[]))/\
  (∀b∈s.lp,mK De b)/\(s.th.length<=12/\s.el.length<=12)/\(∀a∈s.th,nQ d a)/\∀a∈s.el,nQ d a
structure vL(h:Hd):Prop where
 name:nr h.name=true
 Hq:h.params.length<=2
 params:∀p∈h.params,nr p=true
 C2:h.body.length<=12
 body:∀s∈h.body,nQ Ds s
 cnt:kU Ds h.body<=12
structure Lf(v:Va):Prop where
 name:nr v.name=true
 form:(v.ty=1/\v.init≠ -9223372036854775808)\/(v.ty=2/\(v.init=0\/v.init=1))\/(v.ty=3/\v.init=0)
structure Bk(c:Co):Prop where
 name:nr c.name=true
 FJ:c.vars.length<=5
 vars:∀v∈c.vars,Lf v
 v1:1<=c.lJ.length
 v2:c.lJ.length<=2
 lJ:∀l∈c.lJ,l.length<=3/\∀h∈l,vL h
structure mi(f:Fl):Prop where
 name:nr f.name=true
 C3:f.kQ.length<=2
 kQ:∀x∈f.kQ,nr x.name=true
 Hr:f.ml.length<=9
 ml:∀x∈f.ml,nr x.a=true/\nr x.b=true/\1<=x.tF/\x.tF<=50
 c1:1<=f.kH.length
 c3:f.kH.length<=3
 kH:∀c∈f.kH,Bk c
structure pW(S:Nat->Prop)(w:RW)(A1:RE)(m1 c1:Nat)(A2:RE)(m2 c2:Nat)(A3:RE)(m3 c3:Nat)(f:Fl):Prop where
 kQ:kz mI S w (A1,m1,c1) f.kQ
 ml:kz nT S w (A2,m2,c2) f.ml
 kH:kz (mr .u8) S w (A3,m3,c3) f.kH
 lK:∀q,S q->q<w
def pW.ku{S w w' e}{f g:Nat}{i}{j k:Nat}{l}{m n:Nat}{p}(b:pW S w e f g i j k l m n p)(d:Below w w w'):pW S w' e f g i j k l m n p:=
 ⟨b.kQ.kv mI.ok λa c=>d.B a<|b.lK a c,b.ml.kv nT.ok λa c=>d.B a<|b.lK a c,b.kH.kv (mr.ok _) λa c=>d.B a<|b.lK a c,λa c=>QO (b.lK a c) d.size⟩
def RM:R0->Option (DataW Unit×List MemPlace):=λ_=>some (.lit<|.bool true,[])
def A8(a:RW)(b c:Nat):Prop:=∃d:DataW Unit,a.ownsMap prog 9 RM b c d
def A8.len{w}{b n:Nat}(a:A8 w b n):∃m:Nat,m<=n/\(Builtin.len_ #[272] 3 #[.map<|some b]).run prog w=.ok (.int .i64 (m:Int)) w:=by have⟨c,a⟩:=a;exact⟨_,a.size_le,a.len underlying272 _⟩
def nE(a):(⟨a.toArray⟩:Se).toList=a:=by rw[R3]
def Nd(a:List RK)(b:RK)(d:Int):Prop:=(d= -1/\b∉a)\/∃c:Nat,d=(c:Int)/\a[c]?=some b/\∀e,e<c->a[e]? ≠some b
def Nd.neg{b c}{d:Int}(a:Nd b c d)(e:c∉b):d= -1:=by
 rcases a with a|⟨f,_,a,_⟩
 exact a.1;exact absurd (QS a) e
def Nd.pos{a b}{r:Int}(c:Nd a b r)(e:b∈a):∃i:Nat,r=(i:Int)/\i<a.length/\a[i]?=some b:=by
 rcases c with c|⟨i,f,d,_⟩
 exact absurd e c.2;exact⟨i,f,(Q9.1 d).1,d⟩
def vq(p w q)(c r:Nat)(f)(e:RK)(s:kz kM p w (.slice q c r) f)(E:c<=1000)(F:∀t,p t->t<w):
  Calls prog 86 #[.slice q c r,tx e] w λj v=>∃g:Int,j=.returned (.int .i64 g)/\Nd f e g/\w=v:=by
 have x:=s.len;have u:=x.1;have y:=s;have G:=nE e
 go_enter func86,ntmps86
 go_wp2
 go_loop [8] (λk=>∃a:Nat,a<=c/\k=a/\∀b,b<a->f[b]? ≠some e) (λk=>c-(intOf k).toNat)
 .exact⟨0,QZ _,Z,λb i=>Y⟩
 obtain⟨a,I,rfl,l⟩:=hrel;by_cases J:a<c
 .obtain⟨d,m⟩:∃d,f[a]?=some d:=Gx<|W u;obtain⟨K,L,g,rfl,M,z,A⟩:=y.ll kM.ok a d m;have B:g=[tx d]:=z;subst B;have C:=A 0 _ Z;rw[Q1,Ry]at C;have N:=nE d;cases hq:(e==d)
  .go_wp2
   go_round
   .refine⟨a+1,Y,Ur,λb i=>?_⟩;by_cases j:b=a;rw[j,m];intro n;injection n with n;rw[n]at hq;simp at hq;exact l b Y
   simp[intOf];omega
  go_wp2;go_ret;exact⟨_,Z,.inr ⟨a,Z,by rw[m];rw[R2]at hq;rw[hq],l⟩,Z⟩
 obtain rfl:c=a:=Y;go_wp2;go_ret;refine⟨_,Z,.inl ⟨Z,λD=>?_⟩,Z⟩;have⟨b,i⟩:=S8 D;exact l b (Ul ((Q9.1 i).1) u) i
def pL(f a g)(b i:Nat)(c)(d:RK)(m:kz kM f a (.slice g b i) c)(n:b<=1000)(p:∀j,f j->j<a):
  Calls prog 110 #[.slice g b i,tx d] a λk q=>k=.returned (.bool<|decide (d∈c))/\a=q:=by
 have r:=(vq f a g b i c d m n p)
 go_enter func110,ntmps110
 go_wp21;apply r.M;rintro k s ⟨t,rfl,l,rfl⟩;by_cases e:d∈c
 .obtain⟨u,rfl,_,_⟩:=l.pos e;go_wp21;go_ret;exact⟨by simp[e],Z⟩
 .obtain rfl:=l.neg e;go_wp21;go_ret;exact⟨by simp[e],Z⟩
def lH.mC(x:In):Prop:=1<=x.op/\x.op<=34/\x.op≠27/\x.op≠28/\x.op≠32/\x.op≠33
def ov(d:Nat->Prop)(e:RW)(f:R0):Prop:=∃(b:RE) (a c:Nat) (g:List RK),f=.slice b a c/\kz kM d e (b,a,c) g/\a<=1000
structure zP(S:Nat->Prop)(w3:RW)(cb:Nat)(vars lf kQ params:R0):Prop where
 vars:ov S w3 vars
 lf:ov S w3 lf
 kQ:ov S w3 kQ
 params:ov S w3 params
 lK:∀q,S q->q<w3/\q≠cb
def lH.Ga{b:Nat}{a}(c:shapes[b]?=some a):b<24/\a.1<=2:=by
 have d:∀a∈shapes,a.1<=2:=Un
 exact⟨((List.getElem?_eq_some_iff.1 c).1),d a<|List.mem_of_getElem? c⟩
def mK.op{a:Nat}{b}(c:mK a b):(1<=b.op/\b.op<=23)/\b.args.length<=2/\∃d,a=d+1/\∀e∈b.args,mK d e:=by
 cases a with
 |zero=>exact c.elim
 |succ a=>have⟨⟨j,f,g,k,_⟩,i⟩:=c;have⟨l,m⟩:=Ga g;exact⟨⟨f,Y⟩,Y,a,Z,i⟩
def rV(b:List In)(c:Nat)(d:List In):Prop:=∃a,d=b++a/\a.length<=c/\∀e∈a,mC e
def rV.T{a b c:List In}{n m q:Nat}(e:rV a n b)(f:rV b m c)(l:n+m<=q):rV a q c:=by obtain⟨g,rfl,p,i⟩:=e;obtain⟨j,rfl,r,k⟩:=f;refine⟨g++j,by rw[Ru],Us,λd hy=>?_⟩;rcases SG.1 hy with hy|hy;exact i d hy;exact k d hy
def lH.pG(b:Nat)(a:In):Prop:=1<=a.op/\a.op<=34/\(a.op=27\/a.op=28->0<=a.a/\a.a<=b)/\(a.op=32\/a.op=33->0<=a.b/\a.b<=b)
def lH.mC.ok{x:In}(a:mC x)(n:Nat):pG n x:=⟨a.1,a.2.1,λb=>W a.2.2,λb=>W a.2.2⟩
def lH.pG.M{x:In}{n m:Nat}(a:pG n x)(c:n<=m):pG m x:=⟨a.1,a.2.1,λb=>W<|a.2.2.1 b,λb=>W<|a.2.2.2 b⟩
def lH.mY(b:List In)(c:Nat)(d:List In):Prop:=∃a,d=b++a/\a.length<=c/\∀e∈a,pG (b.length+a.length) e
def lH.mY.T{a b c:List In}{n m q:Nat}(e:mY a n b)(f:mY b m c)(l:n+m<=q):mY a q c:=by obtain⟨g,rfl,p,i⟩:=e;obtain⟨j,rfl,r,k⟩:=f;refine⟨g++j,by rw[List.append_assoc],Us,λd hy=>?_⟩;rcases List.mem_append.1 hy with hy|hy;exact(i d hy).M UE;exact(k d hy).M UE
def lH.mY.len{a b:List In}{n:Nat}(c:mY a n b):a.length<=b.length/\b.length<=a.length+n:=by obtain⟨d,rfl,e,_⟩:=c;simp;omega
def lH.mY.ll{a b:List In}{e i:Nat}(f:mY a e b){c:In}(d:a[i]?=some c):b[i]?=some c:=by obtain⟨g,rfl,_⟩:=f;rw[List.getElem?_append_left (List.getElem?_eq_some_iff.1 d).1];exact d
def oW(a:List Fg)(b:RK):Bool:=a.any λc=>c.name==b
def sY{a b}:oW a b=true↔∃c∈a,c.name=b:=by simp[oW]
def Gc(b:RK)(c)(e:Bool)(d:Nat)(a)(f:a.cell? d=some (tx c))(g:d<a.heap.size):
  Calls prog 211 #[.agg #[tx b,e],.pointer d] a (kG (.bool<|b==c) a):=by
 have i:=nE b;have j:=nE c
 go_enter func211,ntmps211
 go_wp2;go_ret;exact⟨Z,Ba _ _⟩
def Cm:mq 211:=λ_ _=>Up
def Cn(w c x)(e y:Nat)(j f)(k:Nat)(z:kz mI w c (.slice x e y) j)(aa:e<=1000)(E:∀n,w n->n<c)(F:c.cell? k=some (tx f))(G:k<c):
  Calls prog 227 #[.slice x e y,.func (.func 211) #[] #[.pointer k]] c λg I=>∃p:Int,g=.returned (.int .i64 p)/\(oW j f=true->0<=p)/\(oW j f=false->p= -1)/\Below c c I:=by
 have J:=Cm;unfold mq at J;have K:=z.len;have A:=K.1;have L:=z;have M:=E;have N:=F
 go_enter func227,ntmps227
 go_wp2;go_loopw [8] (λt wr=>∃b:Nat,b<=e/\t=b/\(∀d a,d<b->j[d]?=some a->a.name≠f)/\Below c c wr) (λt _=>e-(intOf t).toNat)
 .exact⟨0,QZ _,Z,λd a s=>Y,Sf _ _⟩
 obtain⟨b,ab,rfl,B,l⟩:=hrel;have C:=l.size;have O:=((Cb k 0<|l.B k G).T N)
 by_cases ac:b<e
 .obtain⟨a,u⟩:∃a,j[b]?=some a:=Gx<|W A;obtain⟨ad,ae,p,rfl,af,P,Q⟩:=(L.kv mI.ok λn i=>l.B n<|M n i).ll mI.ok b a u;have R:p=[tx a.name,.bool a.init]:=P;subst R;have S:=Q 0 _ Z;rw[Q1]at S;have D:=(Gc a.name f a.init k wr O Y)
  cases i:(a.name==f)
  .go_wp2_with (apply D.M;rw[i];rintro g T ⟨rfl,q⟩;have v:=(l.T<|q.M C);clear q);go_roundw
   .refine⟨b+1,Y,Ur,λd U s r=>?_,v⟩;by_cases g:d=b;rw[g,u]at r;injection r with r;rw[<-r];intro m;rw[m]at i;simp at i;exact B d U Y r
   simp[intOf];omega
  go_wp2_with (apply D.M;rw[i];rintro g T ⟨rfl,q⟩;have v:=(l.T<|q.M C);clear q);go_ret;refine⟨_,Z,λ_=>Y,λm=>?_,v⟩;have:oW j f=true:=sY.2 ⟨a,QS u,by simpa using i⟩;rw[this]at m;cases m
 obtain rfl:e=b:=Y;go_wp2;go_ret;refine⟨_,Z,λm=>?_,λ_=>Z,l⟩;have⟨a,V,g⟩:=sY.1 m;have⟨d,s⟩:=S8 V;exact absurd g<|B d a (Ul ((Q9.1 s).1) A) s
def sA(j a g)(e i:Nat)(f)(b:RK)(q:kz mI j a (.slice g e i) f)(r:e<=1000)(l:∀d,j d->d<a):
  Calls prog 162 #[.slice g e i,tx b] a (kG (.bool<|oW f b) a):=by
 have m:Below a a<|a.alloc<|.cells #[tx b] 9:=Ba _ _;have s:=q.kv mI.ok λd c=>m.B d<|l d c;have t:=QQ a<|.cells #[tx b] 9;have A:(a.alloc<|.cells #[tx b] 9).heap.size=a+1:=Uo
 have u:=(Cn j _ g e i f b a s r (λd c=>W<|l d c) (kt t 0) Y)
 have v:Calls prog 210 #[.slice g e i,.func (.func 211) #[] #[.pointer a]] (a.alloc<|.cells #[tx b] 9)<|kG (.bool<|oW f b) a:=by
  go_enter func210,ntmps210
  go_wp21;apply u.M;rintro w x ⟨B,rfl,y,z,k⟩;have n:=(m.T<|k.M Y)
  cases c:oW f b
  .have p:=z c;subst p;go_wp21;go_ret;exact⟨by rw[c];rfl,n⟩
  have p:=y c;go_wp21;go_ret;exact⟨by rw[c];rfl,n⟩
 go_enter func162,ntmps162
 go_wp21;apply v.M;rintro w x ⟨rfl,k⟩;go_wp21;go_ret;exact⟨Z,k⟩
def vr{e:Type}{a:List e}{c:e->Bool}{b:Nat}(g:(a.take b).find? c=none){d:e}(j:a[b]?=some d):(c d=true->a.find? c=some d)/\(c d=false->(a.take<|b+1).find? c=none):=by
 have i:a.take (b+1)=a.take b++[d]:=by rw[Rz,j];rfl
 refine⟨λf=>?_,λf=>?_⟩;have k:a=a.take (b+1)++a.drop (b+1):=(SA _ _).symm;rw[k,i,Ru,S3,g];simp[f];rw[i,S3,g];simp[f]
def qd:Option Va->R0
 |some x=>.tuple #[.agg #[tx x.name,.int .u8 x.ty,x.init],true]
 |none=>.tuple #[.agg #[Em,.int .u8 0,.int .i64 0],false]
def pM(p b y)(e z:Nat)(l)(j:RK)(A:kz (oh .u8) p b (.slice y e z) l)(ad:e<=1000)(q:∀c,p c->c<b):
  Calls prog 166 #[.slice y e z,tx j] b (kG (qd<|l.find? λa=>a.name==j) b):=by
 have B:=A.len;have ae:=nE j;have C:Below b b<|b.alloc<|.cells pv 115:=Ba _ _;have D:=QQ b<|.cells pv 115;have M:(b.alloc<|.cells pv 115).heap.size=b+1:=Uo
 have E:=X B.1;have N:=(A.kv (oh.ok .u8) λc f=>C.B c<|q c f)
 have O:∀c,p c->c<(b.alloc<|.cells pv 115).heap.size:=λc f=>W<|q c f
 have F:=X D;clear q B D
 go_enter func166,ntmps166
 go_wp21;have⟨m,G⟩:=Xq b.heap.size;rw[<-G]at F M⊢;have g:b<=m:=Y
 generalize b.alloc (.cells pv 115)=r at*;have P:m<r:=Y
 clear G;go_loopw [10] (λs wr=>∃d:Nat,d<=e/\s=d/\(l.take d).find? (λa=>a.name==j)=none/\Below r r wr) (λs _=>e-(intOf s).toNat)
 .exact⟨0,QZ _,Z,Uo,Sf _ _⟩
 obtain⟨d,af,rfl,I,k⟩:=hrel;have J:=X I;have ag:=k.size;have⟨⟨t,u,w⟩,Q,R,S⟩:=lg<|(k.B m P).T F.o;have T:m<wr:=Y;have K:=(C.T<|k.M Y)
 clear I;by_cases ah:d<e
 .obtain⟨a,x⟩:∃a,l[d]?=some a:=Gx<|W E.o;obtain⟨ai,aj,U,rfl,ak,V,n⟩:=(N.kv (oh.ok .u8) λc f=>k.B c<|O c f).ll (oh.ok .u8) d a x;have aa:U=[tx a.name,.int .u8 a.ty,.int .i64 a.init]:=V;subst aa;have ab:=n 0 _ Z;have al:=n 1 _ Z;have am:=n 2 _ Z;rw[Q1]at ab;obtain⟨an,ao⟩:=nL d e;have ap:=nE a.name;have L:=(vr J.o x)
  have ac:=(k.alloc Y<|tw a.name a.ty a.init)
  clear n x;cases f:(a.name==j)
  .have i:=L.2 f;clear t u w Q R S;go_wp21;go_roundw
   .exact⟨d+1,Y,Ur,i,ac⟩
   simp[intOf];omega
  have i:=L.1 f;go_wp21;refine QY (v:=.tuple #[.agg #[tx a.name,.int .u8 a.ty,a.init],true]) ?_ rfl ⟨by rw[i];rfl,(kD (kD (kD K g) g) g).alloc UC _⟩;simp[results,Tryz.results166,go_sem,t,u,w,T,Tw]
 obtain rfl:e=d:=Y;have i:=J.o;rw[Re<|W E.o]at i;go_wp21;refine QY (v:=.tuple #[.agg pv,false]) ?_ rfl ⟨by rw[i];rfl,kD (kD (kD K g) g) g⟩;simp[results,Tryz.results166,go_sem,t,u,w]
def wk(b:Nat->Prop)(c:RW)(a:Co)(v:R0):Prop:=∃(d:RE) (e f:Nat) (g:RE) (i j:Nat),v=.agg #[tx a.name,(d,e,f),(g,i,j)]/\kz (oh .u8) b c (d,e,f) a.vars/\kz (nj .u8) b c (g,i,j) a.lJ
def wk.kv{S w w' a v}(c:wk S w a v)(b:∀q,S q->w'.heap[q]?=w.heap[q]?):wk S w' a v:=by have⟨d,e,f,g,i,j,k,l,m⟩:=c;exact⟨d,e,f,g,i,j,k,l.kv (oh.ok _) b,m.kv (nj.ok _) b⟩
def lH.HY{b c a:Nat}(i:b<=3)(j:c<=1)(k:a<b):((nw b c).find? λd=>d.name==nm 120 a)=some ⟨nm 120 a,1,a⟩:=by
 have e:b=1\/b=2\/b=3:=Y
 have f:c=0\/c=1:=Y
 have g:a=0\/a=1\/a=2:=Y
 rcases e with rfl|rfl|rfl<;>rcases f with rfl|rfl<;>rcases g with rfl|rfl|rfl<;>first|omega|rfl
def lH.HZ{a b:Nat}(f:1<=a)(g:a<=3)(i:b<=1):((nw a b).find? λc=>c.name==nm 98 0)=some ⟨nm 98 0,2,0⟩:=by
 have d:a=1\/a=2\/a=3:=Y
 have e:b=0\/b=1:=Y
 rcases d with rfl|rfl|rfl<;>rcases e with rfl|rfl<;>rfl
def lH.L3{a b:Nat}(f:1<=a)(g:a<=3)(c:b=1):((nw a b).find? λd=>d.name==nm 116 0)=some ⟨nm 116 0,3,0⟩:=by
 have e:a=1\/a=2\/a=3:=Y
 rcases e with rfl|rfl|rfl<;>subst c<;>rfl
def lH.Fe{g i j:Nat}{c}(hc:c=102\/c=112):((nw g i).find? λd=>d.name==nm c j)=none:=by
 rw[List.find?_eq_none];intro d e;have k:∃a f,d.name=nm a f/\a≠102/\a≠112:=by
  simp only[nw,List.mem_append,List.mem_map,List.mem_singleton]at e;rcases e with(⟨q,_,rfl⟩|rfl)|⟨q,_,rfl⟩
  exact⟨120,q,Z,Un,Un⟩;exact⟨98,0,Z,Un,Un⟩;exact⟨116,q,Z,Un,Un⟩
 have⟨a,f,l,m,n⟩:=k;rw[l];simp only[beq_iff_eq];intro b;injection b with b _;rcases hc with hc|hc;exact m<|b.T hc;exact n<|b.T hc
def lH.NL{b a:Nat}(c:a<b):nm 112 a∈qN 112 b:=by simp[qN];exact⟨a,c,Z⟩
def lH.AB{b c:Nat}(f:b<=100)(g:c<b):nm 112 c∉(qN 112 b).take c:=by
 intro e;have⟨i,a⟩:=List.getElem?_of_mem e;rw[List.getElem?_take]at a;split at a;case isTrue j=>have d:=(List.getElem?_eq_some_iff.1 a).1;rw[lR]at d;rw[oY _ _ _ d]at a;unfold nm at a;injection a with a;injection a with _ a;injection a with a _;have:=congrArg UInt8.toNat a;simp at this;omega
 case isFalse=>simp at a
def lH.rz{c d:Nat}{b}(e:b≠112):nm b d∉qN 112 c:=by simp only[qN,List.mem_map,not_exists,not_and];intro f _ a;injection a with a _;exact e a.symm
def NM{d a:Nat}{c}(e:rF d c)(g:a<d):oW c (nm 102 a)=true:=by obtain⟨b,f⟩:∃b,c[a]?=some b:=Gx (by rw[e.1];exact g);exact sY.2 ⟨b,QS f,e.2 a b f⟩
def L4{d c:Nat}{a b}(e:b≠102)(f:rF d a):oW a (nm b c)=false:=by cases hq:oW a<|nm b c;rfl;have⟨g,i,j⟩:=sY.1 hq;have⟨k,l⟩:=S8 i;have:=(f.2 k g l).symm.T j;injection this with this _;exact absurd this.symm e
def zT(b:Sc)(c:RK)(d:Int):Prop:=(d=1/\((∃a,a<b.ints/\c=nm 120 a)\/∃a,a<b.params/\c=nm 112 a))\/(d=2/\1<=b.ints/\(c=nm 98 0\/∃a,a<b.kQ/\c=nm 102 a))
structure JM(sc:Sc)(uO:List Fg)(He:List Va)(FD:List RK):Prop where
 lens:uO.length<=1000/\He.length<=1000/\FD.length<=90
 name:∀name t,zT sc name t->(name∈FD->t=1)/\(name∉FD->(∃x,(He.find? λx=>x.name==name)=some x/\x.ty=t/\t≠3)\/((He.find? λx=>x.name==name)=none/\oW uO name=true/\t=2))
 table:sc.lf=1->nm 116 0∉FD/\(He.find? λx=>x.name==nm 116 0)=some ⟨nm 116 0,3,0⟩
 int:∀k,k<sc.ints->nm 120 k∉FD/\(He.find? λx=>x.name==nm 120 k)=some ⟨nm 120 k,1,k⟩
 PL:1<=sc.ints->nm 98 0∉FD/\(He.find? λx=>x.name==nm 98 0)=some ⟨nm 98 0,2,0⟩
 OW:∀k p,FD[k]?=some p->p∉FD.take k/\(He.find? λx=>x.name==p)=none/\oW uO p=false/\p.length<=12
structure si(S:Nat->Prop)(w:RW)(uO:List Fg)(He:List Va)(FD:List RK)(sc:Sc)(AF:RE)(nf cf:Nat)(AV:RE)(nv cv:Nat)(AP:RE)(np cp:Nat):Prop where
 kQ:kz mI S w (AF,nf,cf) uO
 vars:kz (oh .u8) S w (AV,nv,cv) He
 params:kz kM S w (AP,np,cp) FD
 JI:JM sc uO He FD
 lK:∀q,S q->q<w
def si.kv{S w w' c d e f g}{i j:Nat}{k}{l m:Nat}{n}{p r:Nat}(a:si S w c d e f g i j k l m n p r)(b:∀q,S q->w'.heap[q]?=w.heap[q]?)(s:w.heap.size<=w'.heap.size):si S w' c d e f g i j k l m n p r:=
 ⟨a.kQ.kv mI.ok b,a.vars.kv (oh.ok _) b,a.params.kv kM.ok b,a.JI,λq t=>QO (a.lK q t) s⟩
def si.ku{S w w' a b c d e}{f g:Nat}{i}{j k:Nat}{l}{m n:Nat}(p:si S w a b c d e f g i j k l m n)(q:Below w w w'):si S w' a b c d e f g i j k l m n:=p.kv (λr s=>q.B r<|p.lK r s) q.size
def si.lens{e f g i j k l}{b m:Nat}{n}{c p:Nat}{q}{d r:Nat}(a:si e f g i j k l b m n c p q d r):b<=1000/\c<=1000/\d<=1000:=by have s:=a.kQ.len.1;have t:=a.vars.len.1;have u:=a.params.len.1;have⟨v,w,x⟩:=a.JI.lens;omega
def oQ.JI{b:Sc}{l:List Fg}(n:oQ b)(j:rF b.kQ l):JM b l (nw b.ints b.lf)<|qN 112 b.params:=by
 obtain⟨k,c,g,p,q,_⟩:=id n;refine⟨⟨by rw[j.1];omega,by rw[rM];omega,by rw[lR];omega⟩,λr s m=>⟨λi=>?_,λi=>?_⟩,λd=>⟨rz Un,L3 k c d⟩,λe a=>⟨rz Un,HY c g a⟩,λ_=>⟨rz Un,HZ k c g⟩,λe t f=>?_⟩;rcases m with⟨d,_⟩|⟨_,_,d⟩
 exact d;rcases d with rfl|⟨e,_,rfl⟩
 exact absurd i<|rz Un;exact absurd i<|rz Un;rcases m with⟨rfl,⟨e,a,rfl⟩|⟨e,a,rfl⟩⟩|⟨rfl,_,rfl|⟨e,a,rfl⟩⟩
 exact .inl ⟨_,HY c g a,Z,Un⟩;exact absurd (NL a) i;exact .inl ⟨_,HZ k c g,Z,Un⟩;exact .inr ⟨Fe<|.inl Z,NM j a,Z⟩;have a:=(Q9.1 f).1;rw[lR]at a;rw[oY _ _ _ a]at f;injection f with f;subst f;exact⟨AB Y a,Fe<|.inr Z,L4 Un j,by simp[nm]⟩
abbrev HO(a):=(#[.int .u8 a,Em,.int .i64 0]:Array Go.Value)
def sZ(c d e)(a:Int)(f b):Calls prog 255 #[.agg #[c,d,e],.int .u8 a,tx f,.int .i64 0] b<|kG (.tuple<|HO a) b:=by
 go_enter func255,ntmps255
 go_wp2;refine QY (v:=.tuple<|HO a) ?_ rfl ⟨Z,Ba _ _⟩;simp[results,Tryz.results255,go_sem]
abbrev oS(a b c d e f g h i):=(.cells #[.slice a b c,.slice d e f,.slice g h i] 329:Go.Obj)
abbrev ph(a b c d e f g h i):=(#[.slice a b c,.slice d e f,.slice g h i]:Array Go.Value)
def sO(u a E w n F i)(j k:Nat)(b)(c d:Nat)(e)(f g:Nat)(l:RK)(A:si u a E w n F i j k b c d e f g):
  Calls prog 248 #[.agg<|ph i j k b c d e f g,tx l] a (kG (if l∈n then qd none else qd<|w.find? λm=>m.name==l) a):=by
 have N:=A.lens;have x:Below a a<|(a.alloc<|oS i j k b c d e f g).alloc<|.cells pv 115:=(Ba _ _).alloc Uo _;have G:((a.alloc<|oS i j k b c d e f g).alloc<|.cells pv 115).heap[a.heap.size]?=some (oS i j k b c d e f g):=(Q5 _ _ Uo).T<|QQ _ _;have B:((a.alloc<|oS i j k b c d e f g).alloc<|.cells pv 115).heap[a.heap.size+1]?=some (.cells pv 115):=by have:=QQ (a.alloc<|oS i j k b c d e f g)<|.cells pv 115;rwa [QR]at this
 have O:((a.alloc<|oS i j k b c d e f g).alloc<|.cells pv 115).heap.size=a+2:=Uo
 have q:=(A.ku x)
 go_enter func248,ntmps248
 go_wp21;generalize(a.alloc<|oS i j k b c d e f g).alloc (.cells pv 115)=y at*;have I:a.heap.size+1<y:=Y
 apply(pL u y e f g _ l q.params Y q.lK).M;rintro J P ⟨rfl,rfl⟩;have⟨⟨Q,R,S⟩,_⟩:=lg G;by_cases p:l∈n
 .have z:decide (l∈n)=true:=(by simp[p]);have⟨⟨r,s,t⟩,K,L,M⟩:=lg B;rw[z];go_wp2_with fail;refine QY (v:=.tuple #[.agg pv,false]) ?_ rfl ⟨by first|rfl|(rw[RB p];rfl),kD (kD (kD x Y) Y) Y⟩;simp[results,Tryz.results248,go_sem,r,s,t]
 .have z:decide (l∈n)=false:=(by simp[p]);rw[z];go_wp21;apply(pM u y b c d _ l q.vars Y q.lK).M;rintro J T ⟨rfl,C⟩;have D:=x.T<|C.M Y;have⟨⟨r,s,t⟩,K,L,M⟩:=lg<|(C.B _ I).T B;cases Lr:w.find? λm=>m.name==l with
  |none=>simp only[qd];go_wp2_with fail;refine QY (v:=.tuple #[.agg pv,false]) ?_ rfl ⟨by first|rfl|(rw[Rh p,Lr];rfl),kD (kD (kD D Y) Y) Y⟩;simp[results,Tryz.results248,go_sem,r,s,t]
  |some m=>simp only[qd];go_wp2_with fail;refine QY (v:=.tuple #[.agg #[tx m.name,.int .u8 m.ty,m.init],true]) ?_ rfl ⟨by first|rfl|(rw[Rh p,Lr];rfl),kD (kD (kD D Y) Y) Y⟩;simp[results,Tryz.results248,go_sem,r,s,t]
def DL(r a u v s A e)(f g:Nat)(i)(j k:Nat)(l)(m n:Nat)(b)(p:Int)(B:si r a u v s A e f g i j k l m n)(G:zT A b p):
  Calls prog 254 #[.agg<|ph e f g i j k l m n,tx b] a (kG (.tuple #[.int .u8 p,.int .i64 0]) a):=by
 have S:=B.lens;have w:Below a a<|a.alloc<|oS e f g i j k l m n:=Ba _ _;have C:=QQ a<|oS e f g i j k l m n;have T:(a.alloc<|oS e f g i j k l m n).heap.size=a+1:=Uo
 have c:=(B.ku w)
 have D:=G
 go_enter func254,ntmps254
 go_wp21;generalize a.alloc (oS e f g i j k l m n)=x at*;have I:a.heap.size<x:=Y
 apply(pL r x l m n _ b c.params Y c.lK).M;rintro E U ⟨rfl,rfl⟩;have⟨⟨J,K,L⟩,_⟩:=lg C;by_cases t:b∈s
 .have y:decide (b∈s)=true:=(by simp[t]);have M:p=1:=(c.JI.name _ _ D).1 t;subst M;first|rw[y]|skip
  go_wp21
  go_ret2
  exact⟨Z,w⟩
 .have y:decide (b∈s)=false:=(by simp[t]);first|rw[y]|skip
  go_wp21;apply(pM r x i j k _ b c.vars Y c.lK).M;rintro E N ⟨rfl,q⟩;have F:=(w.T<|q.M Y)
  have V:=q.size;have O:(∃d,(v.find? λd=>d.name==b)=some d/\d.ty=p/\p≠3)\/((v.find? λd=>d.name==b)=none/\oW u b=true/\p=2):=(c.JI.name _ _ D).2 t;rcases O with⟨d,z,rfl,P⟩|⟨z,Q,rfl⟩
  .rw[z];have aa:(d.ty==3)=false:=(by rw[QW];exact P);simp only[qd];go_wp21
   go_ret2
   exact⟨Z,F.alloc Y _⟩
  rw[z];simp only[qd];have⟨⟨J,K,L⟩,_⟩:=lg<|(q.B _ I).T C;have ab:a.heap.size<N:=Y;go_wp21;apply(sA r _ e f g u b ((c.ku q).ku<|Ba _ _).kQ Y ((c.ku q).ku<|Ba _ _).lK).M;rw[Q];rintro E ac ⟨rfl,R⟩;go_wp21
  go_ret2
  exact⟨Z,(F.alloc Y _).T<|R.M<|by rw[QR];omega⟩
def sK(m a n p q l b)(c d:Nat)(e)(f g:Nat)(i)(j k:Nat)(r:si m a n p q l b c d e f g i j k)(v:l.lf=1):
  Calls prog 256 #[.agg<|ph b c d e f g i j k,tx<|nm 116 0] a (kG (.int .i64 0) a):=by
 have s:Below a a<|a.alloc<|oS b c d e f g i j k:=Ba _ _;have t:=(sO m _ n p q l b c d e f g i j k (nm 116 0)<|r.ku s)
 have⟨w,x⟩:=r.JI.table v;rw[Rh w,x]at t
 go_enter func256,ntmps256
 go_wp21;apply t.M;rintro z A ⟨rfl,y⟩;have u:=(s.T<|y.M Uo)
 simp only[qd];go_wp21;go_ret;exact⟨Z,u.alloc u.size _⟩
def lH.uP(a:Sc)(b:Nat)(c:Ex)(d:Int):Prop:=(d=1/\lM a b c)\/(d=2/\1<=a.ints/\ny a b c)
def lH.uP.num{a}{b:Nat}{c}(d:lM a b c):uP a b c 1:=.inl ⟨Z,d⟩
def lH.uP.JJ{a}{b:Nat}{c}(d:1<=a.ints)(e:ny a b c):uP a b c 2:=.inr ⟨Z,d,e⟩
def lH.HE:List<|Int×Int×Int:=[(9,1,1),(10,2,2),(11,1,1),(12,1,1),(13,1,1),(14,1,1),(15,1,1),(16,1,2),(17,1,2),(18,1,2),(19,1,2),(20,1,2),(21,1,2),(22,2,2),(23,2,2)]
inductive Oz (sc:Sc) (d:Nat) (e:Ex) (t:Int):Prop where
 |num (h:e.op=1\/e.op=4) (ht:t=1) (ha:e.args=[])
 |JJ (h:e.op=2\/e.op=3) (ht:t=2) (ha:e.args=[])
 |name (h:e.op=5) (hn:zT sc e.name t) (ha:e.args=[])
 |size (h:e.op=8) (ht:t=1) (hs:sc.lf=1) (hn:e.name=nm 116 0) (ha:e.args=[])
 |get (h:(e.op=6/\t=1)\/(e.op=7/\t=2)) (hs:sc.lf=1) (hn:e.name=nm 116 0) (hl:0<e.args.length) (h2:e.args.length<=2) (ha:∀a∈e.args,uP sc d a 1)
 |ops (u:Int) (h:(e.op,u,t)∈HE) (hl:0<e.args.length) (h2:e.args.length<=2) (ha:∀a∈e.args,uP sc d a u)
def Oz.of{i}{d:Nat}{c}{w:Int}(h:uP i (d+1) c w):Oz i d c w:=by
 have s:∀{f k:Ex} {j:Int},c.args=[f,k]->uP i d f j->uP i d k j->0<c.args.length/\c.args.length<=2/\∀l∈c.args,uP i d l j:=λt u x=>by rw[t];refine⟨Uo,Uo,λl m=>?_⟩;simp at m;rcases m with rfl|rfl;exact u;exact x
 have q:∀{f:Ex} {j:Int},c.args=[f]->uP i d f j->0<c.args.length/\c.args.length<=2/\∀l∈c.args,uP i d l j:=λt u=>by rw[t];refine⟨Uo,Uo,λl m=>?_⟩;simp at m;rw[m];exact u
 rcases h with⟨rfl,h⟩|⟨rfl,r,h⟩
 rcases h with⟨b,_,_,_,a⟩|⟨b,_,_,a⟩|⟨b,g,_,a⟩|⟨b,n,g,_,f,a,e⟩|⟨b,n,g,_,a⟩|⟨b,_,_,f,a,e⟩|⟨b,_,_,f,k,a,e,p⟩
 exact .num (.inl b) Z a;exact .num (.inr b) Z a;exact .name b (.inl ⟨Z,g⟩) a;have:=q a<|.num e;exact .get (.inl ⟨b,Z⟩) n g this.1 this.2.1 this.2.2;exact .size b Z n g a;have:=q a<|.num e;exact .ops 1 (by rw[b];decide) this.1 this.2.1 this.2.2;have:=s a (.num e)<|.num p;have v:c.op=11\/c.op=12\/c.op=13\/c.op=14\/c.op=15:=Y
 exact .ops 1 (by rcases v with h|h|h|h|h<;>rw[h]<;>decide) this.1 this.2.1 this.2.2;rcases h with⟨b,_,_,a⟩|⟨b,g,_,a⟩|⟨b,n,g,_,f,a,e⟩|⟨b,_,_,f,a,e⟩|⟨b,_,_,f,k,a,e,p⟩|⟨b,_,_,f,k,a,e,p⟩
 exact .JJ b Z a;exact .name b (.inr ⟨Z,r,g⟩) a;have:=q a<|.num e;exact .get (.inr ⟨b,Z⟩) n g this.1 this.2.1 this.2.2;have:=q a<|.JJ r e;exact .ops 2 (by rw[b];decide) this.1 this.2.1 this.2.2;have:=s a (.JJ r e)<|.JJ r p;exact .ops 2 (by rcases b with h|h<;>rw[h]<;>decide) this.1 this.2.1 this.2.2;have:=s a (.num e)<|.num p;have v:c.op=16\/c.op=17\/c.op=18\/c.op=19\/c.op=20\/c.op=21:=Y
 exact .ops 1 (by rcases v with h|h|h|h|h|h<;>rw[h]<;>decide) this.1 this.2.1 this.2.2
def CX(a:Nat)(b:Int):Int:=if a=0 then 0 else b
def LA(c:Nat):Prop:=∀(d:Nat->Prop) (a:RW) (u:List Fg) (v:List Va) (w:List RK) (e:Sc) (f:RE) (g i:Nat) (j:RE) (k l:Nat) (m:RE) (n p:Nat) (q:RE) (b r:Nat) (s:List Ex) (t:Int),si d a u v w e f g i j k l m n p->kz (kP .u8 c) d a (q,b,r) s->b<=2->(∀x∈s,uP e c x t)->
 Calls prog 253 #[.agg #[(f,g,i),(j,k,l),(m,n,p)],(q,b,r)] a (kG (.tuple #[.int .u8<|CX b t,Em,.int .i64 0]) a)
def LB(b:Nat):Prop:=∀(c:Nat->Prop) (a:RW) (x:List Fg) (y:List Va) (z:List RK) (d:Sc) (e:RE) (f g:Nat) (i:RE) (j k:Nat) (l:RE) (m n:Nat) (p:RE) (q r:Nat) (s t:Int) (u:RK) (v:List Ex) (w:Int),si c a x y z d e f g i j k l m n->kz (kP .u8 b) c a (p,q,r) v->uP d (b+1) (.mk s u t v) w->
 Calls prog 249 #[.agg #[(e,f,g),(i,j,k),(l,m,n)],.agg #[.int .u8 s,tx u,t,(p,q,r)]] a (kG (.tuple #[.int .u8 w,Em,.int .i64 0]) a)
