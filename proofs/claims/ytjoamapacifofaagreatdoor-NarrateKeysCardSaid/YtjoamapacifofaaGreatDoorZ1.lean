import Derived.Test.YtjoamapacifofaaGreatDoorZ0
set_option maxRecDepth 1000000
set_option maxHeartbeats 32000000
set_option linter.all false
namespace Go.Proofs.YtjoamapacifofaaGreatDoor
open Go Go.Proofs.Tryz
def rj(P:Program)(w:World)(K:Value->World->Prop):Result Next->Prop
 | .ok (.value u) w'=>K u w'
 | .ok .skip w'=>K undef w'
 | .ok (.enter f args) w'=>w'=w/\Calls P f args w λe a=>∃v,e=.returned v/\K v a
 |_=>False
def jW(P:Program)(a:Act)(o:Oper)(w:World)(K:Value->World->Prop):Prop:=rj P w K ((execOp a.eval o).run P w)
def jW.wp{P:Program}{a:Act}{o:Oper}{w:World}{K:Value->World->Prop}{c:Act->World->Prop}{Q:Exit->Act->World->Prop}(h:jW P a o w K)(b:∀v w',K v w'->c (a.put o.dst v) w'):o.wp P a w c Q:=by
 unfold jW at h;unfold Oper.wp;generalize(execOp a.eval o).run P w=r at*;cases r with
 |ok n w'=>
  cases n<;>simp only[rj]at h<;>simp only[Oper.upon];case value u=>exact b _ _ h
  case skip=>exact b _ _ h
  case enter f args=>obtain⟨rfl,hc⟩:=h;exact hc.mono λe d ⟨v,he,hv⟩=>by subst he;exact b _ _ hv
 |halt x w'=>simp only[rj]at h
def lG(a:Act)(o:Oper):Value:=match o.dst with|some d=>a.eval (.tmp d)|none=>undef
def kO(ops:List Oper):List Nat:=ops.filterMap (·.dst)
def kI(o:Oper)(a:Nat):Bool:=o.after.toList.any λe=>Region.binds .any e&&e.on==a
def qT(ops:List Oper):Bool:=ops.all (λo=>o.guard.isNone)&&ops.zipIdx.all (λp=>p.1.after.all λe=>!Region.binds .any e||decide (e.on<p.2))&&decide ((kO ops).Nodup)
def vd(o:Oper)(v:Value):Value:=match o.dst with|some _=>v|none=>undef
abbrev mZ:=List (Nat×(Value->World->Prop))
def lj(ops:List Oper):Nat->Nat->Nat->Bool
 |0,_,_=>false
 |f+1,j,i=>match ops[j]? with
  |none=>false
  |some o=>o.after.toList.any λe=>Region.binds .any e&&(e.on==i||lj ops f e.on i)
def FK(P:Program)(ops:List Oper)(a0:Act)(G:World->Prop)(VP:Nat->Value->Prop)(D:mZ)(i:Nat)(o:Oper):Prop:=
 ∀(a:Act) (w:World),G w->(∀t,(kO ops).contains t=false->a.eval (.tmp t)=a0.eval (.tmp t))->
  (∀c b,ops[c]?=some b->kI o c=true->VP c (lG a b))->(∀e∈D,∀b,ops[e.1]?=some b->kI o e.1=true->e.2 (lG a b) w)->
  (∀c b d,ops[c]?=some b->b.dst=some d->lj ops ops.length c i=true->a.eval (.tmp d)=a0.eval (.tmp d))->
  jW P a o w λv w'=>VP i (vd o v)/\G w'/\∀e∈D,(e.1=i->e.2 (vd o v) w')/\(e.1≠i->lj ops ops.length e.1 i=false->∀u,e.2 u w->e.2 u w')
def sV(P:Program)(ops:List Oper)(a0:Act)(G:World->Prop)(VP:Nat->Value->Prop)(D:mZ):Nat->List Oper->Prop
 |_,[]=>True
 |i,o::rest=>FK P ops a0 G VP D i o/\sV P ops a0 G VP D (i+1) rest
def sV.kt{P:Program}{ops:List Oper}{a0:Act}{G:World->Prop}{VP:Nat->Value->Prop}{D:mZ}:∀{l:List Oper} {i:Nat},sV P ops a0 G VP D i l->∀(k:Nat) (o:Oper),l[k]?=some o->FK P ops a0 G VP D (i+k) o
 |o::rest,i,⟨h,_⟩,0,o',ho=>by simp at ho;subst ho;exact h
 |o::rest,i,⟨_,h⟩,k+1,o',ho=>by have:=sV.kt h k o' (by simpa using ho);rwa [show i+1+k=i+(k+1)by omega]at this
 |[],_,_,k,_,ho=>by simp at ho
def kK(a:Act):List Oper->(Nat->Value)->Nat->Act
 |[],_,_=>a
 |o::rest,val,k=>kK (a.put o.dst (val k)) rest val (k+1)
def Ae(a:Act)(d:Option Nat)(v:Value):(a.put d v).tmps.size=a.tmps.size:=by cases d<;>simp[Act.put]
def put_defers(a:Act)(d:Option Nat)(v:Value):(a.put d v).defers=a.defers:=by cases d<;>rfl
def sI:∀(ops:List Oper) (a:Act) (b:Nat->Value) (k:Nat),(kK a ops b k).defers=a.defers
 |[],_,_,_=>rfl
 |o::rest,a,b,k=>by rw[kK,sI rest,put_defers]
def qQ:∀(ops:List Oper) (a:Act) (b:Nat->Value) (k t:Nat),t∉kO ops->(kK a ops b k).tmps[t]?=a.tmps[t]?
 |[],_,_,_,_,_=>rfl
 |o::rest,a,b,k,t,h=>by
  have c:t∉kO rest:=λhm=>h (by unfold kO at*;rw[QS]at*;obtain⟨x,hx,e⟩:=hm;exact⟨x,QY _ hx,e⟩);rw[kK,qQ rest _ _ _ _ c];cases hd:o.dst with
  |none=>rfl
  |some d=>have f:d≠t:=λe=>h (by unfold kO;rw[QS];exact⟨o,Qs,by rw[hd,e]⟩);simp[Act.put,P8 f]
def xP:∀(ops:List Oper) (a:Act) (c:Nat->Value) (k b:Nat) (o:Oper) (d:Nat),(kO ops).Nodup->ops[b]?=some o->o.dst=some d->d<a.tmps.size->(kK a ops c k).tmps[d]?=some (c (k+b))
 |[],_,_,_,b,_,_,_,h,_,_=>by simp at h
 |o::rest,a,c,k,0,o',d,hn,h,hd,MI=>by simp at h;subst h;have e:(kO (o::rest))=d::kO rest:=(by unfold kO;rw[Qp,hd]);rw[e,QH]at hn;rw[kK,qQ rest _ _ _ _ hn.1,hd];simp[Act.put,MI]
 |o::rest,a,c,k,b+1,o',d,hn,h,hd,MI=>by
  have e:(kO rest).Nodup:=by
   unfold kO at*;rw[Qp]at hn;cases hx:o.dst with
   |none=>rw[hx]at hn;exact hn
   |some x=>rw[hx]at hn;exact(QH.1 hn).2
  rw[kK,xP rest _ c (k+1) b o' d e (by simpa using h) hd (by rw[Ae];exact MI),show k+1+b=k+(b+1)by omega]
def Lx(a:Array Bool):Nat:=(a.toList.filter (λb=>!b)).length
def DB{a:Array Bool}{i:Nat}(h:a.getD i true=false):Lx (a.setIfInBounds i true)+1=Lx a:=by
 obtain⟨l⟩:=a;unfold Lx;simp only[Px];have c:l[i]?=some false:=by
  rw[P5]at h;simp at h;cases hx:l[i]? with
  |none=>rw[hx]at h;simp at h
  |some b=>rw[hx]at h;simp at h;rw[h]
 clear h;induction l generalizing i with
 |nil=>simp at c
 |cons b l d=>
  cases i with
  |zero=>simp at c;subst c;simp
  |succ i=>have:=d (i:=i) (by simpa using c);simp only[PK,List.filter_cons];cases b<;>simp<;>omega
def wz{ops:List Oper}{b:Array Bool}(hc:∀a c,ops[a]?=some c->b.getD a false=true->∀e∈c.after,Region.binds .any e=true->b.getD e.on false=true):∀(f a i:Nat),lj ops f a i=true->b.getD a false=true->b.getD i false=true
 |0,_,_,h,_=>by cases h
 |f+1,a,i,h,hl=>by
  unfold lj at h;cases ho:ops[a]? with
  |none=>rw[ho]at h;cases h
  |some o=>rw[ho]at h;simp only[RY,Qh,Bool.or_eq_true,P9]at h;obtain⟨e,he,hb,h⟩:=h;have d:=hc a o ho hl e (by simpa using he) hb;rcases h with h|h;rw[<-h];exact d;exact wz hc f e.on i h d
def DC:∀{ops:List Oper} (_:(kO ops).Nodup) {i a:Nat} {b d:Oper} {c:Nat},ops[i]?=some b->ops[a]?=some d->b.dst=some c->d.dst=some c->i=a
 |[],_,_,_,_,_,_,h,_,_,_=>by simp at h
 |o::rest,hn,i,a,b,d,c,hi,hj,JH,Lz=>by
  have e:∀{k:Nat} {x:Oper},rest[k]?=some x->x.dst=some c->c∈kO rest:=λf hx=>by unfold kO;rw[QS];exact⟨_,O5 f,hx⟩
  cases i with
  |zero=>
   cases a with
   |zero=>rfl
   |succ a=>simp at hi hj;subst hi;unfold kO at hn;rw[Qp,JH]at hn;exact absurd (e hj Lz) (QH.1 hn).1
  |succ i=>
   cases a with
   |zero=>simp at hi hj;subst hj;unfold kO at hn;rw[Qp,Lz]at hn;exact absurd (e hi JH) (QH.1 hn).1
   |succ a=>
    simp at hi hj;have g:(kO rest).Nodup:=by
     unfold kO at*;rw[Qp]at hn;cases hx:o.dst with
     |none=>rw[hx]at hn;exact hn
     |some x=>rw[hx]at hn;exact(QH.1 hn).2
    rw[DC g hi hj JH Lz]
def En{ops:List Oper}(hn:(kO ops).Nodup){i b:Nat}{j g:Oper}(hi:ops[i]?=some j)(f:ops[b]?=some g)(l:i≠b)(a:Act)(v:Value):lG (a.put j.dst v) g=lG a g:=by
 unfold lG;cases Lz:g.dst with
 |none=>rfl
 |some d=>
  cases JH:j.dst with
  |none=>rfl
  |some c=>
   have n:c≠d:=by
    intro e;subst e;apply l;clear l;induction ops generalizing i b with
    |nil=>simp at hi
    |cons o rest p=>
     have m:∀{k:Nat} {x:Oper},rest[k]?=some x->x.dst=some c->c∈kO rest:=λq hx=>by unfold kO;rw[QS];exact⟨_,O5 q,hx⟩
     cases i with
     |zero=>
      cases b with
      |zero=>rfl
      |succ b=>simp at hi f;subst hi;unfold kO at hn;rw[Qp,JH]at hn;exact absurd (m f Lz) (QH.1 hn).1
     |succ i=>
      cases b with
      |zero=>simp at hi f;subst f;unfold kO at hn;rw[Qp,Lz]at hn;exact absurd (m hi JH) (QH.1 hn).1
      |succ b=>
       simp at hi f;have r:(kO rest).Nodup:=by
        unfold kO at*;rw[Qp]at hn;cases hx:o.dst with
        |none=>rw[hx]at hn;exact hn
        |some x=>rw[hx]at hn;exact(QH.1 hn).2
       rw[p r hi f]
   simp[Act.eval,Act.put,P8 n]
def Cq{b:Oper}(a:Act)(v:Value)(h:∀d,b.dst=some d->d<a.tmps.size):lG (a.put b.dst v) b=vd b v:=by
 unfold lG vd;cases hd:b.dst with
 |none=>rfl
 |some d=>simp[Act.eval,Act.put,h d hd]
def wB{ops:List Oper}(d:∀i o,ops[i]?=some o->∀e∈o.after,Region.binds .any e=true->e.on<i){b:Array Bool}(hs:b.size=ops.length)(h:Region.ready .any ops.toArray b=[]):∀a,a<ops.length->b.getD a false=true:=by
 intro a;induction a using Nat.strongRecOn with
 |_ a f=>
  intro c;cases hx:b.getD a false with
  |true=>rfl
  |false=>
   exfalso;have g:ops.toArray[a]?=some ops[a]:=(by simp[c]);have hm:a∈Region.ready .any ops.toArray b:=by rw[Su];refine⟨?_,ops[a],g,λe he hb=>?_⟩;rw[P5]at hx⊢;rw[Qr (by omega)]at hx⊢;simpa using hx;have j:=d a ops[a] (by simp[c]) e he hb;exact f e.on j (by omega)
   rw[h]at hm;cases hm
def tZ(ops:List Oper):Bool:=(List.range (ops.length-1)).all λa=>lj ops ops.length (ops.length-1) a
def vo(ops:List Oper)(a:Act):Nat->Value:=λb=>if b<ops.length-1 then(match ops[b]? with|some o=>lG a o|none=>undef)else undef
def qJ(P:Program)(all:List Oper)(a0:Act)(G:World->Prop)(f:(Nat->Value)->Value->World->Prop)(VP:Nat->Value->Prop)(D:mZ):Nat->List Oper->Prop
 |_,[]=>True
 |i,o::rest=>(∀(a:Act) (w:World),G w->(∀t,(kO all).contains t=false->a.eval (.tmp t)=a0.eval (.tmp t))->
  (∀c b,all[c]?=some b->kI o c=true->VP c (lG a b))->(∀e∈D,∀b,all[e.1]?=some b->kI o e.1=true->e.2 (lG a b) w)->
  (∀c b d,all[c]?=some b->b.dst=some d->lj all all.length c i=true->a.eval (.tmp d)=a0.eval (.tmp d))->
  match rest with
  |[]=>jW P a o w λv w'=>f (vo all a) (vd o v) w'
  |_=>jW P a o w λv w'=>VP i (vd o v)/\G w'/\∀e∈D,(e.1=i->e.2 (vd o v) w')/\(e.1≠i->lj all all.length e.1 i=false->∀u,e.2 u w->e.2 u w'))/\qJ P all a0 G f VP D (i+1) rest
def qJ.kt{P:Program}{all:List Oper}{a0:Act}{G:World->Prop}{q:(Nat->Value)->Value->World->Prop}{VP:Nat->Value->Prop}{D:mZ}:∀{l:List Oper} {i:Nat},qJ P all a0 G q VP D i l->∀(k:Nat) (o:Oper),l[k]?=some o->(∀(a:Act) (w:World),G w->(∀t,(kO all).contains t=false->a.eval (.tmp t)=a0.eval (.tmp t))->
  (∀c b,all[c]?=some b->kI o c=true->VP c (lG a b))->(∀e∈D,∀b,all[e.1]?=some b->kI o e.1=true->e.2 (lG a b) w)->
  (∀c b d,all[c]?=some b->b.dst=some d->lj all all.length c (i+k)=true->a.eval (.tmp d)=a0.eval (.tmp d))->
  (k+1=l.length->jW P a o w λv w'=>q (vo all a) (vd o v) w')/\
  (k+1<l.length->jW P a o w λv w'=>VP (i+k) (vd o v)/\G w'/\∀e∈D,(e.1=i+k->e.2 (vd o v) w')/\(e.1≠i+k->lj all all.length e.1 (i+k)=false->∀u,e.2 u w->e.2 u w')))
 |o::rest,i,⟨h,_⟩,0,o',ho=>by
  simp at ho;subst ho;intro a w g j m n p;have:=h a w g j m n p;refine⟨λf=>?_,λf=>?_⟩;cases rest with
  |nil=>exact this
  |cons x l=>simp at f
  cases rest with
  |nil=>simp at f
  |cons x l=>exact this
 |o::rest,i,⟨_,h⟩,k+1,o',ho=>by intro a w g j m n p;have e:i+1+k=i+(k+1):=(by omega);have:=qJ.kt h k o' (by simpa using ho) a w g j m n (λc b d r hd s=>p c b d r hd (by rw[<-e];exact s));rw[e]at this;exact⟨λf=>this.1 (by simpa using f),λf=>this.2 (by simpa using f)⟩
 |[],_,_,k,_,ho=>by simp at ho
abbrev za(P:Program)(all:List Oper)(a0:Act)(G:World->Prop)(a:Value->World->Prop)(VP:Nat->Value->Prop)(D:mZ):Nat->List Oper->Prop:=qJ P all a0 G (λ_=>a) VP D
abbrev vC:=List (Nat×Nat×(Value->Value->World->Prop))
def qH(ops:List Oper):Bool:=ops.zipIdx.all (λp=>p.1.after.all λe=>!Region.binds .any e||decide (e.on<p.2))&&decide ((kO ops).Nodup)
def uE(ops:List Oper)(VP:Nat->Value->Prop):List Oper->Prop
 |[]=>True
 |o::rest=>(match o.guard with
  |none=>True
  |some (g,b)=>kI o g=true/\((ops[g]?).bind (·.dst)).isSome=true/\∀v,VP g v->v=.bool b)/\uE ops VP rest
def uE.kt{ops:List Oper}{VP:Nat->Value->Prop}:∀{l:List Oper},uE ops VP l->∀o∈l,∀g b,o.guard=some (g,b)->kI o g=true/\((ops[g]?).bind (·.dst)).isSome=true/\∀v,VP g v->v=.bool b
 |o::rest,⟨h,hr⟩,o',a,g,b,hg=>by rcases Pz.1 a with rfl|a;rw[hg]at h;exact h;exact uE.kt hr o' a g b hg
 |[],_,o',a,_,_,_=>by simp at a
def Ee(P:Program)(ops:List Oper)(a0:Act)(G:World->Prop)(VP:Nat->Value->Prop)(D:vC)(i:Nat)(o:Oper):Prop:=
 ∀(a:Act) (w:World),G w->(∀t,(kO ops).contains t=false->a.eval (.tmp t)=a0.eval (.tmp t))->
  (∀c b,ops[c]?=some b->kI o c=true->VP c (lG a b))->(∀e∈D,∀b ok,ops[e.1]?=some b->ops[e.2.1]?=some ok->kI o e.1=true->e.2.2 (lG a b) (lG a ok) w)->
  (∀c b d,ops[c]?=some b->b.dst=some d->lj ops ops.length c i=true->a.eval (.tmp d)=a0.eval (.tmp d))->
  jW P a o w λv w'=>VP i (vd o v)/\G w'/\∀e∈D,(e.1=i->∀ok,ops[e.2.1]?=some ok->e.2.2 (vd o v) (if e.2.1=i then vd o v else lG a ok) w')/\(e.1≠i->lj ops ops.length e.1 i=false->∀u u2,e.2.2 u u2 w->e.2.2 u u2 w')
def rJ(P:Program)(ops:List Oper)(a0:Act)(G:World->Prop)(VP:Nat->Value->Prop)(D:vC):Nat->List Oper->Prop
 |_,[]=>True
 |i,o::rest=>Ee P ops a0 G VP D i o/\rJ P ops a0 G VP D (i+1) rest
def rJ.kt{P:Program}{ops:List Oper}{a0:Act}{G:World->Prop}{VP:Nat->Value->Prop}{D:vC}:∀{l:List Oper} {i:Nat},rJ P ops a0 G VP D i l->∀(k:Nat) (o:Oper),l[k]?=some o->Ee P ops a0 G VP D (i+k) o
 |o::rest,i,⟨h,_⟩,0,o',ho=>by simp at ho;subst ho;exact h
 |o::rest,i,⟨_,h⟩,k+1,o',ho=>by have:=rJ.kt h k o' (by simpa using ho);rwa [show i+1+k=i+(k+1)by omega]at this
 |[],_,_,k,_,ho=>by simp at ho
def uK{ops:List Oper}(h:qH ops=true):(∀i o,ops[i]?=some o->∀e∈o.after,Region.binds .any e=true->e.on<i)/\(kO ops).Nodup:=by unfold qH at h;simp only[Qh,Qm,QW]at h;obtain⟨b,c⟩:=h;refine⟨λi o d e he hb=>?_,c⟩;have:=b (o,i) (List.mem_zipIdx_iff_getElem?.2 (by simpa using d));rw[Array.all_eq_true_iff_forall_mem]at this;have a:=this e he;rw[hb]at a;simpa using a
def F5(ops:List Oper)(p:Nat):Bool:=decide (p<ops.length)&&(List.range ops.length).all λa=>(if a<p then lj ops ops.length p a else true)&&(if p<a then(match ops[a]? with|some o=>kI o p|none=>true)else true)
def Ef(P:Program)(ops:List Oper)(a0:Act)(G:Bool->World->Prop)(p:Nat)(VP:Nat->Value->Prop)(D:mZ)(i:Nat)(o:Oper):Prop:=
 ∀(a:Act) (w:World),G (decide (p<i)) w->(∀t,(kO ops).contains t=false->a.eval (.tmp t)=a0.eval (.tmp t))->
  (∀c b,ops[c]?=some b->kI o c=true->VP c (lG a b))->(∀e∈D,∀b,ops[e.1]?=some b->kI o e.1=true->e.2 (lG a b) w)->
  (∀c b d,ops[c]?=some b->b.dst=some d->lj ops ops.length c i=true->a.eval (.tmp d)=a0.eval (.tmp d))->
  jW P a o w λv w'=>VP i (vd o v)/\G (decide (p<=i)) w'/\∀e∈D,(e.1=i->e.2 (vd o v) w')/\(e.1≠i->lj ops ops.length e.1 i=false->∀u,e.2 u w->e.2 u w')
def rK(P:Program)(ops:List Oper)(a0:Act)(G:Bool->World->Prop)(p:Nat)(VP:Nat->Value->Prop)(D:mZ):Nat->List Oper->Prop
 |_,[]=>True
 |i,o::rest=>Ef P ops a0 G p VP D i o/\rK P ops a0 G p VP D (i+1) rest
def rK.kt{P:Program}{ops:List Oper}{a0:Act}{G:Bool->World->Prop}{p:Nat}{VP:Nat->Value->Prop}{D:mZ}:∀{l:List Oper} {i:Nat},rK P ops a0 G p VP D i l->∀(k:Nat) (o:Oper),l[k]?=some o->Ef P ops a0 G p VP D (i+k) o
 |o::rest,i,⟨h,_⟩,0,o',ho=>by simp at ho;subst ho;exact h
 |o::rest,i,⟨_,h⟩,k+1,o',ho=>by have:=rK.kt h k o' (by simpa using ho);rwa [show i+1+k=i+(k+1)by omega]at this
 |[],_,_,k,_,ho=>by simp at ho
def LN(P:Program)(ops:List Oper)(a0:Act)(G:(Nat->Bool)->World->Prop)(VP:Nat->Value->Prop)(D:mZ)(i:Nat)(o:Oper):Prop:=
 ∀(L:Nat->Bool) (a:Act) (w:World),L i=false->(∀b,kI o b=true->L b=true)->(∀b,lj ops ops.length b i=true->L b=false)->G L w->(∀t,(kO ops).contains t=false->a.eval (.tmp t)=a0.eval (.tmp t))->
  (∀b c,ops[b]?=some c->kI o b=true->VP b (lG a c))->(∀e∈D,∀c,ops[e.1]?=some c->kI o e.1=true->e.2 (lG a c) w)->
  (∀b c d,ops[b]?=some c->c.dst=some d->lj ops ops.length b i=true->a.eval (.tmp d)=a0.eval (.tmp d))->
  jW P a o w λv w'=>VP i (vd o v)/\G (λb=>if b=i then true else L b) w'/\∀e∈D,(e.1=i->e.2 (vd o v) w')/\(e.1≠i->lj ops ops.length e.1 i=false->∀u,e.2 u w->e.2 u w')
def rL(P:Program)(ops:List Oper)(a0:Act)(G:(Nat->Bool)->World->Prop)(VP:Nat->Value->Prop)(D:mZ):Nat->List Oper->Prop
 |_,[]=>True
 |i,o::rest=>LN P ops a0 G VP D i o/\rL P ops a0 G VP D (i+1) rest
def rL.kt{P:Program}{ops:List Oper}{a0:Act}{G:(Nat->Bool)->World->Prop}{VP:Nat->Value->Prop}{D:mZ}:∀{l:List Oper} {i:Nat},rL P ops a0 G VP D i l->∀(k:Nat) (o:Oper),l[k]?=some o->LN P ops a0 G VP D (i+k) o
 |o::rest,i,⟨h,_⟩,0,o',ho=>by simp at ho;subst ho;exact h
 |o::rest,i,⟨_,h⟩,k+1,o',ho=>by have:=rL.kt h k o' (by simpa using ho);rwa [show i+1+k=i+(k+1)by omega]at this
 |[],_,_,k,_,ho=>by simp at ho
def sv(ops:List Oper)(a:Act):Nat->Value:=λb=>match ops[b]? with|some o=>lG a o|none=>undef
def up{a:Type}(f:Nat->a)(i:Nat)(x:a):Nat->a:=λb=>if b=i then x else f b
def rh{ops:List Oper}{a:Act}{b:Nat}{o:Oper}(h:ops[b]?=some o):sv ops a b=lG a o:=by simp[sv,h]
section
variable {P:Program} {ops:List Oper} {a0:Act} {Q:Exit→Act→World→Prop}
def jW.imp{a:Act}{o:Oper}{w:World}{K c:Value->World->Prop}(h:jW P a o w K)(b:∀v w',K v w'->c v w'):jW P a o w c:=by
 unfold jW at*;generalize(execOp a.eval o).run P w=r at*;cases r with
 |ok n w'=>
  cases n<;>simp only[rj]at h⊢;case value u=>exact b _ _ h
  case skip=>exact b _ _ h
  case enter f args=>exact⟨h.1,h.2.mono λe d ⟨v,he,hv⟩=>⟨v,he,b _ _ hv⟩⟩
 |halt x w'=>simp only[rj]at h
structure RU(ops:List Oper)(a0:Act)(J:(Nat->Bool)->(Nat->Value)->World->Prop)(listed:Array Bool)(a:Act)(w:World):Prop where
 size:listed.size=ops.length
 defers:a.defers=a0.defers
 Dv:a.tmps.size=a0.tmps.size
 fix:∀t,(kO ops).contains t=false->a.tmps[t]?=a0.tmps[t]?
 LO:∀j oj d,ops[j]?=some oj->oj.dst=some d->listed.getD j false=false->a.tmps[d]?=a0.tmps[d]?
 closed:∀j oj,ops[j]?=some oj->listed.getD j false=true->∀e∈oj.after,Region.binds .any e=true->listed.getD e.on false=true
 j:J (λj=>listed.getD j false) (sv ops a) w
def Mu(P:Program)(ops:List Oper)(a0:Act)(e:(Nat->Bool)->(Nat->Value)->World->Prop)(i:Nat)(o:Oper):Prop:=
 ∀(L:Nat->Bool) (a:Act) (w:World),L i=false->(∀c,kI o c=true->L c=true)->(∀k c,L k=true->lj ops ops.length k c=true->L c=true)->(∀t,(kO ops).contains t=false->a.eval (.tmp t)=a0.eval (.tmp t))->
  (∀c f d,ops[c]?=some f->f.dst=some d->L c=false->a.eval (.tmp d)=a0.eval (.tmp d))->e L (sv ops a) w->
  (∀g b,o.guard=some (g,b)->((ops[g]?).bind (·.dst)).isSome=true/\sv ops a g=.bool b)/\jW P a o w λv w'=>e (up L i true) (up (sv ops a) i (vd o v)) w'
def RU.final{j:(Nat->Bool)->(Nat->Value)->World->Prop}(hn:(kO ops).Nodup)(k:∀o∈ops,∀d,o.dst=some d->d<a0.tmps.size){l:Array Bool}{a:Act}{w:World}(h:RU ops a0 j l a w)
  (u:∀c,c<ops.length->l.getD c false=true) (v:∀(L:Nat->Bool) (m:Nat->Value) (w:World),(∀c,c<ops.length->L c=true)->j L m w->Q .normal (kK a0 ops m 0) w):Q .normal a w:=by
 have:=v _ _ w u h.j;have he:kK a0 ops (sv ops a) 0=a:=by
  have n:(kK a0 ops (sv ops a) 0).tmps=a.tmps:=by apply Array.ext_getElem?;intro t;by_cases f:t∈kO ops;have g:=f;unfold kO at g;rw[QS]at g;obtain⟨o,i,hd⟩:=g;obtain⟨c,x,e⟩:=RG i;have p:ops[c]?=some o:=(by simp[x,e]);rw[xP ops a0 _ 0 c o t hn p hd (k o i t hd),Pk,rh p];have y:t<a.tmps.size:=(by rw[h.Dv];exact k o i t hd);simp[lG,hd,Act.eval,Qr y];rw[qQ ops a0 _ 0 t f];exact(h.fix t (by simpa using f)).symm
  have q:=sI ops a0 (sv ops a) 0;have r:=h.defers;generalize sv ops a=s at*;obtain⟨z,A⟩:=a;generalize kK a0 ops s 0=b at*;obtain⟨B,C⟩:=b;simp only at n q r;rw[n,q,r]
 rw[he]at this;exact this
def RU.step{u:(Nat->Bool)->(Nat->Value)->World->Prop}(hn:(kO ops).Nodup)(C:∀o∈ops,∀d,o.dst=some d->d<a0.tmps.size)(N:∀i o,ops[i]?=some o->Mu P ops a0 u i o){m:Array Bool}{a:Act}{w:World}(h:RU ops a0 u m a w){i:Nat}(hi:i∈Region.ready .any ops.toArray m)
  {K:Act->World->Prop} (hK:∀a w,RU ops a0 u (m.setIfInBounds i true) a w->K a w):wpOp P ops.toArray Q i K a w:=by
 rw[Su]at hi;obtain⟨q,o,D,E⟩:=hi;have n:ops[i]?=some o:=by simpa using D
 have O:∀f,kI o f=true->m.getD f false=true:=λf j=>by unfold kI at j;rw[RY]at j;obtain⟨k,x,j⟩:=j;simp only[Qh,P9]at j;have:=E k (by simpa using x) j.1;rwa [j.2]at this
 have F:∀{t:Nat},a.tmps[t]?=a0.tmps[t]? ->a.eval (.tmp t)=a0.eval (.tmp t):=λh=>by simp only[Act.eval,P5,h]
 have G:i<m.size:=by rcases QT i m.size with y|y;exact y;rw[P5,Sa y]at q;simp at q
 have R:m.getD i false=false:=by rw[P5]at q⊢;rw[Qr G]at q⊢;simpa using q
 obtain⟨S,hp⟩:=N i o n (λf=>m.getD f false) a w R O (λk f x hd=>wz h.closed _ k f hd x) (λt s=>F (h.fix t s)) (λf p d j hd hx=>F (h.LO f p d j hd hx)) h.j;unfold wpOp;simp only[D];have T:Region.wanted o (yielded ops.toArray a.tmps)=true:=by
  unfold Region.wanted;cases hg:o.guard with
  |none=>rfl
  |some gb=>
   obtain⟨g,b⟩:=gb;obtain⟨I,hv⟩:=S g b hg;rw[RZ]at I;obtain⟨d,hd⟩:=I;rw[R5]at hd;obtain⟨J,z,hd⟩:=hd;rw[rh z]at hv;have L:d<a.tmps.size:=(by rw[h.Dv];exact C J (O5 z) d hd);have U:a.tmps[d]?=some (.bool b):=by unfold lG at hv;rw[hd]at hv;simp only[Act.eval,P5,Qr L,Ry]at hv;rw[Qr L,hv]
   have V:ops.toArray[g]?=some J:=(by simpa using z);simp[yielded,V,hd,U]
 rw[PJ T];refine .inl (hp.wp λv w' hv=>hK _ _ ?_);have W:∀d,o.dst=some d->d<a.tmps.size:=λd hd=>by rw[h.Dv];exact C o (O5 n) d hd
 have A:∀f,f≠i->(m.setIfInBounds i true).getD f false=m.getD f false:=λf j=>getD_set_ne false (Q7 j);have M:(m.setIfInBounds i true).getD i false=true:=by rw[P5,QL G];rfl
 refine⟨by simpa using h.size,by rw[put_defers];exact h.defers,by rw[Ae];exact h.Dv,λt s=>?_,λf p d j hd r=>?_,λf p j r e he hb=>?_,?_⟩
 .rw[<-h.fix t s];cases hd:o.dst with
  |none=>rfl
  |some d=>
   have B:d≠t:=λe=>by have:t∈kO ops:=(by unfold kO;rw[QS];exact⟨o,O5 n,by rw[hd,e]⟩);rw[<-Sd,s]at this;cases this
   simp[Act.put,P8 B]
 .have l:f≠i:=λe=>by subst e;rw[M]at r;cases r
  rw[<-h.LO f p d j hd (by rw[<-A f l];exact r)];cases JH:o.dst with
  |none=>rfl
  |some c=>
   have B:c≠d:=λe=>by subst e;exact l (DC hn j n hd JH)
   simp[Act.put,P8 B]
 .by_cases l:f=i;subst l;rw[n]at j;injection j with j;subst j;exact getD_set_true (E e he hb);exact getD_set_true (h.closed f p j (by rw[<-A f l];exact r) e he hb)
 .have X:(λf=>(m.setIfInBounds i true).getD f false)=up (λf=>m.getD f false) i true:=by funext f;unfold up;by_cases l:f=i;rw[PJ l,l,M];rw[Pn l,A f l]
  have Y:sv ops (a.put o.dst v)=up (sv ops a) i (vd o v):=by
   funext f;unfold up;by_cases l:f=i;rw[PJ l,l,rh n,Cq a v W];rw[Pn l];cases j:ops[f]? with
   |none=>simp[sv,j]
   |some p=>rw[rh j,rh j,En hn n j (Q7 l)]
  rw[X,Y];exact hv
def RU.any{g:(Nat->Bool)->(Nat->Value)->World->Prop}(j:∀i o,ops[i]?=some o->∀e∈o.after,Region.binds .any e=true->e.on<i)(hn:(kO ops).Nodup)(c:∀o∈ops,∀d,o.dst=some d->d<a0.tmps.size)(l:∀i o,ops[i]?=some o->Mu P ops a0 g i o)
  (k:∀(L:Nat->Bool) (m:Nat->Value) (w:World),(∀n,n<ops.length->L n=true)->g L m w->Q .normal (kK a0 ops m 0) w):
  ∀(f:Nat) (b:Array Bool) (a:Act) (w:World),Lx b=f->RU ops a0 g b a w->wpAny P .any ops.toArray Q f b a w
 |0,b,a,w,hu,h=>by
  have hr:Region.ready .any ops.toArray b=[]:=by
   cases hx:Region.ready .any ops.toArray b with
   |nil=>rfl
   |cons i s=>have:i∈Region.ready .any ops.toArray b:=(by rw[hx];exact Qs);rw[Su]at this;have:=DB this.1;omega
  exact⟨hr,h.final hn c (wB j h.size hr) k⟩
 |f+1,b,a,w,hu,h=>by refine⟨λhr=>h.final hn c (wB j h.size hr) k,λi hi=>h.step hn c l hi λq w' r=>?_⟩;have p:=hi;rw[Su]at p;have:=DB p.1;exact RU.any j hn c l k f _ q w' (by omega) r
def JN{w0:World}(c:(Nat->Bool)->(Nat->Value)->World->Prop)(j:qH ops=true)(k:(ops.all λo=>match o.dst with|some d=>decide (d<a0.tmps.size)|none=>true)=true)
  (l:∀b,c (λ_=>false) b {w0 with drawn:=w0.drawn+1}) (m:∀i o,ops[i]?=some o->Mu P ops a0 c i o)
  (n:∀(L:Nat->Bool) (b:Nat->Value) (w:World),(∀a,a<ops.length->L a=true)->c L b w->Q .normal (kK a0 ops b 0) w):wpAny P .any ops.toArray Q ops.toArray.size (Array.replicate ops.toArray.size false) a0 {w0 with drawn:=w0.drawn+1}:=by
 obtain⟨p,hn⟩:=uK j;have q:∀o∈ops,∀d,o.dst=some d->d<a0.tmps.size:=λo r d hd=>by have:=Qm.1 k o r;rw[hd]at this;simpa using this
 have f:∀a,(Array.replicate ops.toArray.size false).getD a false=false:=λa=>by rw[P5,Array.getElem?_replicate];split<;>rfl
 have hu:Lx (Array.replicate ops.toArray.size false)=ops.toArray.size:=by simp[Lx]
 refine RU.any p hn q m n _ _ _ _ hu ⟨by simp,rfl,rfl,λ_ _=>rfl,λ_ _ _ _ _ _=>rfl,λa s t g=>?_,?_⟩
 .rw[f a]at g;cases g
 .have e:(λa=>(Array.replicate ops.toArray.size false).getD a false)=λ_=>false:=funext f;rw[e];exact l _
def Bh{id:Nat}{w0:World}(a:(Nat->Bool)->(Nat->Value)->World->Prop)(hm:P.follows .mixedOrders=true)(e:qH ops=true)(f:(ops.all λo=>match o.dst with|some d=>decide (d<a0.tmps.size)|none=>true)=true)
  (g:∀b,a (λ_=>false) b {w0 with drawn:=w0.drawn+1}) (j:∀i o,ops[i]?=some o->Mu P ops a0 a i o)
  (k:∀(L:Nat->Bool) (b:Nat->Value) (w:World),(∀c,c<ops.length->L c=true)->a L b w->Q .normal (kK a0 ops b 0) w):(Code.region id ops.toArray true).wp P Q a0 w0:=
 wp_region_any hm (JN a e f g j k)
abbrev LP:=List (Nat×Nat×((Nat->Bool)->Value->Value->World->Prop))
def Na(P:Program)(ops:List Oper)(a0:Act)(G:(Nat->Bool)->World->Prop)(VP:Nat->Value->Prop)(D:LP)(i:Nat)(o:Oper):Prop:=
 ∀(L:Nat->Bool) (a:Act) (w:World),L i=false->(∀b,kI o b=true->L b=true)->(∀b,lj ops ops.length b i=true->L b=false)->G L w->(∀t,(kO ops).contains t=false->a.eval (.tmp t)=a0.eval (.tmp t))->
  (∀b c,ops[b]?=some c->kI o b=true->VP b (lG a c))->(∀e∈D,∀c ok,ops[e.1]?=some c->ops[e.2.1]?=some ok->kI o e.1=true->e.2.2 L (lG a c) (lG a ok) w)->
  (∀b c d,ops[b]?=some c->c.dst=some d->lj ops ops.length b i=true->a.eval (.tmp d)=a0.eval (.tmp d))->
  jW P a o w λv w'=>VP i (vd o v)/\G (up L i true) w'/\∀e∈D,(e.1=i->∀ok,ops[e.2.1]?=some ok->e.2.2 (up L i true) (vd o v) (if e.2.1=i then vd o v else lG a ok) w')/\(e.1≠i->lj ops ops.length e.1 i=false->∀u u2,e.2.2 L u u2 w->e.2.2 (up L i true) u u2 w')
def pz{id:Nat}{w0:World}(G:(Nat->Bool)->World->Prop)(VP:Nat->Value->Prop)(D:LP)(hm:P.follows .mixedOrders=true)(J:qH ops=true)(K:∀e∈D,e.2.1=e.1\/lj ops ops.length e.1 e.2.1=true)(M:uE ops VP ops)(n:Nat)(hn:a0.tmps.size=n)(N:(ops.all λo=>match o.dst with|some d=>decide (d<n)|none=>true)=true)(O:G (λ_=>false) {w0 with drawn:=w0.drawn+1})(R:∀i o,ops[i]?=some o->Na P ops a0 G VP D i o)
  (S:∀(L:Nat->Bool) (j:Nat->Value) (w:World),(∀c,c<ops.length->L c=true)->G L w->(∀c,c<ops.length->VP c (j c))->(∀e∈D,e.1<ops.length->e.2.1<ops.length->e.2.2 L (j e.1) (j e.2.1) w)->Q .normal (kK a0 ops j 0) w):(Code.region id ops.toArray true).wp P Q a0 w0:=by
 subst hn;have p:∀{c:Nat} {o:Oper},ops[c]?=some o->c<ops.length:=λh=>(Pm.1 h).1;refine Bh (λL j w=>G L w/\(∀c,c<ops.length->L c=true->VP c (j c))/\∀e∈D,e.1<ops.length->e.2.1<ops.length->L e.1=true->e.2.2 L (j e.1) (j e.2.1) w) hm J N (λ_=>⟨O,λ_ _ h=>Bool.noConfusion h,λ_ _ _ _ h=>Bool.noConfusion h⟩) (λi o hi L a w t hb hc hf hw ⟨g,hv,hd⟩=>⟨λu b T=>?_,?_⟩) (λL j w hL ⟨g,hv,hd⟩=>S L j w hL g (λc f=>hv c f (hL c f)) λe he q x=>hd e he q x (hL _ q))
 .obtain⟨U,y,V⟩:=M.kt o (O5 hi) u b T;refine⟨y,?_⟩;rw[RZ]at y;obtain⟨d,hd⟩:=y;rw[R5]at hd;obtain⟨Y,W,_⟩:=hd;exact V _ (hv u (p W) (hb u U))
 .have z:∀c,lj ops ops.length c i=true->L c=false:=λc f=>by
   cases hx:L c with
   |false=>rfl
   |true=>have:=hc c i hx f;rw[t]at this;cases this
  refine(R i o hi L a w t hb z g hf (λc A f B=>rh f▸hv c (p f) (hb c B)) (λe he A ok f m B=>rh f▸rh m▸hd e he (p f) (p m) (hb _ B)) λc A d f hd' hx=>hw c A d f hd' (z c hx)).imp λv w' ⟨q,x,E⟩=>⟨x,λc f hL=>?_,λe he X F hL=>?_⟩
  unfold up at hL⊢;by_cases k:c=i;rw[PJ k,k];exact q;rw[Pn k]at hL⊢;exact hv c f hL;have m:ops[e.2.1]?=some ops[e.2.1]:=(by simp[F]);by_cases k:e.1=i;have r:=(E e he).1 k _ m;rw[show up (sv ops a) i (vd o v) e.1=vd o v by unfold up;rw[PJ k]];by_cases l:e.2.1=i;rw[PJ l]at r;rw[show up (sv ops a) i (vd o v) e.2.1=vd o v by unfold up;rw[PJ l]];exact r;rw[Pn l]at r;rw[show up (sv ops a) i (vd o v) e.2.1=lG a ops[e.2.1]by unfold up;rw[Pn l,rh m]];exact r;have C:L e.1=true:=(by unfold up at hL;rw[Pn k]at hL;exact hL);have l:e.2.1≠i:=λI=>by rcases K e he with s|s;exact k (s.symm.trans I);rw[I]at s;have:=hc _ _ C s;rw[t]at this;cases this
  rw[show up (sv ops a) i (vd o v) e.1=sv ops a e.1 by unfold up;rw[Pn k],show up (sv ops a) i (vd o v) e.2.1=sv ops a e.2.1 by unfold up;rw[Pn l]];refine(E e he).2 k ?_ _ _ (hd e he X F C);cases hx:lj ops ops.length e.1 i with
  |false=>rfl
  |true=>have:=z _ hx;rw[C]at this;cases this
def zb{VP:Nat->Value->Prop}:∀{l:List Oper},(∀o∈l,o.guard=none)->uE ops VP l
 |[],_=>trivial
 |o::l,h=>⟨by rw[h o (by simp)];trivial,zb λo a=>h o (by simp[a])⟩
def MJ(h:qT ops=true):qH ops=true/\∀o∈ops,o.guard=none:=by unfold qT at h;unfold qH;simp only[Qh]at h⊢;exact⟨⟨h.1.2,h.2⟩,λo a=>by simpa using Qm.1 h.1.1 o a⟩
def xb{id:Nat}{w0:World}(G:World->Prop)(VP:Nat->Value->Prop)(D:vC)(hm:P.follows .mixedOrders=true)(f:qH ops=true)(j:(D.all λe=>e.2.1==e.1||lj ops ops.length e.1 e.2.1)=true)(k:uE ops VP ops)(n:Nat)(hn:a0.tmps.size=n)(l:(ops.all λo=>match o.dst with|some d=>decide (d<n)|none=>true)=true)(m:G {w0 with drawn:=w0.drawn+1})(p:rJ P ops a0 G VP D 0 ops)
  (q:∀(b:Nat->Value) (w:World),G w->(∀c,c<ops.length->VP c (b c))->(∀e∈D,e.1<ops.length->e.2.1<ops.length->e.2.2 (b e.1) (b e.2.1) w)->Q .normal (kK a0 ops b 0) w):(Code.region id ops.toArray true).wp P Q a0 w0:=by
 refine pz (λ_=>G) VP (D.map λe=>(e.1,e.2.1,λ_=>e.2.2)) hm f ?_ k n hn l m (λi o hi L a w _ _ _ g hf hv hd hw=>?_) λ_ b w _ g hv hd=>q b w g hv λe he=>hd _ (QM he)
 .rw[QN];exact λe he=>by simpa using Qm.1 j e he
 .have:=p.kt i o hi;rw[Pk]at this;refine(this a w g hf hv (λe he=>hd _ (QM he)) hw).imp λv w' ⟨r,s,t⟩=>⟨r,s,?_⟩
  rw[QN];exact t
def mO{id:Nat}{w0:World}(G:(Nat->Bool)->World->Prop)(VP:Nat->Value->Prop)(D:mZ)(hm:P.follows .mixedOrders=true)(m:qT ops=true)(n:Nat)(hn:a0.tmps.size=n)(p:(ops.all λo=>match o.dst with|some d=>decide (d<n)|none=>true)=true)(q:G (λ_=>false) {w0 with drawn:=w0.drawn+1})(r:rL P ops a0 G VP D 0 ops)
  (s:∀(L:Nat->Bool) (c:Nat->Value) (w:World),(∀b,b<ops.length->L b=true)->G L w->(∀b,b<ops.length->VP b (c b))->(∀e∈D,e.1<ops.length->e.2 (c e.1) w)->Q .normal (kK a0 ops c 0) w):(Code.region id ops.toArray true).wp P Q a0 w0:=by
 obtain⟨t,hg⟩:=MJ m;refine pz G VP (D.map λe=>(e.1,e.1,λ_ v _ w=>e.2 v w)) hm t ?_ (zb hg) n hn p q (λi o hi L a w hL hb hx g hf hv hd hw=>?_) λL c w hL g hv hd=>s L c w hL g hv λe he f=>hd _ (QM he) f f
 .rw[QN];exact λ_ _=>.inl rfl
 .have:=r.kt i o hi;rw[Pk]at this;refine(this L a w hL hb hx g hf hv (λe he j k=>hd _ (QM he) j j k k) hw).imp λv w' ⟨f,x,l⟩=>⟨f,x,?_⟩
  rw[QN];exact λe he=>⟨λh _ _=>(l e he).1 h,λh hd u _=>(l e he).2 h hd u⟩
def xz{id:Nat}{w0:World}(G:World->Prop)(VP:Nat->Value->Prop)(D:mZ)(hm:P.follows .mixedOrders=true)(f:qT ops=true)(n:Nat)(hn:a0.tmps.size=n)(j:(ops.all λo=>match o.dst with|some d=>decide (d<n)|none=>true)=true)(k:G {w0 with drawn:=w0.drawn+1})(m:sV P ops a0 G VP D 0 ops)
  (p:∀(b:Nat->Value) (w:World),G w->(∀c,c<ops.length->VP c (b c))->(∀e∈D,e.1<ops.length->e.2 (b e.1) w)->Q .normal (kK a0 ops b 0) w):(Code.region id ops.toArray true).wp P Q a0 w0:=by
 refine mO (λ_=>G) VP D hm f n hn j k ?_ λ_ b w _ g hv hd=>p b w g hv hd;have:∀{l:List Oper} {i:Nat},sV P ops a0 G VP D i l->rL P ops a0 (λ_=>G) VP D i l:=λ{l}=>by
  induction l with
  |nil=>exact λ_=>trivial
  |cons o l q=>exact λh=>⟨λ_ a w _ _ _=>h.1 a w,q h.2⟩
 exact this m
def xc{id:Nat}{w0:World}(p:Nat)(G:Bool->World->Prop)(VP:Nat->Value->Prop)(D:mZ)(hm:P.follows .mixedOrders=true)(r:qT ops=true)(c:F5 ops p=true)(n:Nat)(hn:a0.tmps.size=n)(s:(ops.all λo=>match o.dst with|some d=>decide (d<n)|none=>true)=true)(t:G false {w0 with drawn:=w0.drawn+1})(x:rK P ops a0 G p VP D 0 ops)
  (y:∀(f:Nat->Value) (w:World),G true w->(∀j,j<ops.length->VP j (f j))->(∀e∈D,e.1<ops.length->e.2 (f e.1) w)->Q .normal (kK a0 ops f 0) w):(Code.region id ops.toArray true).wp P Q a0 w0:=by
 obtain⟨z,hg⟩:=MJ r;unfold F5 at c;simp only[Qh,QW,Qm,Rq]at c;obtain⟨hp,c⟩:=c;refine pz (λL=>G (L p)) VP (D.map λe=>(e.1,e.1,λ_ v _ w=>e.2 v w)) hm z ?_ (zb hg) n hn s t (λi o hi L a w hL hb hx g hf hv hd hw=>?_) λL f w hL g hv hd=>y f w (hL p hp▸g) hv λe he b=>hd _ (QM he) b b
 .rw[QN];exact λ_ _=>.inl rfl
 .have:=x.kt i o hi;rw[Pk]at this;have A:i<ops.length:=(Pm.1 hi).1;have b:=c i A;rw[hi]at b;have k:L p=decide (p<i):=by rcases Nat.lt_trichotomy i p with h|h|h;rw[PJ h]at b;rw[hx p b.1];simp;omega;rw[<-h,hL];simp;rw[PJ h]at b;rw[hb p b.2];simp[h]
  have B:up L i true p=decide (p<=i):=by unfold up;by_cases h:p=i;rw[PJ h,h];simp;rw[Pn h,k];simp;omega
  refine(this a w (k▸g) hf hv (λe he l m=>hd _ (QM he) l l m m) hw).imp λv w' ⟨b,C,q⟩=>⟨b,by show G (up L i true p) w';rw[B];exact C,?_⟩
  rw[QN];exact λe he=>⟨λh _ _=>(q e he).1 h,λh hd u _=>(q e he).2 h hd u⟩
def Ag{w0:World}(G:World->Prop)(m:(Nat->Value)->Value->World->Prop)(VP:Nat->Value->Prop)(D:mZ)(B:qT ops=true)(r:tZ ops=true)(T:0<ops.length)(n:Nat)(hn:a0.tmps.size=n)(C:(ops.all λo=>match o.dst with|some d=>decide (d<n)|none=>true)=true)(E:G {w0 with drawn:=w0.drawn+1})(F:qJ P ops a0 G m VP D 0 ops)
  (I:∀(j:Nat->Value) (w:World),(∀c,c<ops.length-1->VP c (j c))->m (λc=>if c<ops.length-1 then j c else undef) (j (ops.length-1)) w->Q .normal (kK a0 ops j 0) w):wpAny P .any ops.toArray Q ops.toArray.size (Array.replicate ops.toArray.size false) a0 {w0 with drawn:=w0.drawn+1}:=by
 obtain⟨s,hg⟩:=MJ B;subst hn;have t:∀{c:Nat} {o:Oper},ops[c]?=some o->c<ops.length:=λh=>(Pm.1 h).1;have J:∀c,c<ops.length-1->lj ops ops.length (ops.length-1) c=true:=λc f=>by unfold tZ at r;exact Qm.1 r c (Rq.2 f)
 refine JN (λL j w=>(∀c,c<ops.length-1->L c=true->VP c (j c))/\(L (ops.length-1)=false->G w/\∀e∈D,e.1<ops.length->L e.1=true->e.2 (j e.1) w)/\(L (ops.length-1)=true->m (λc=>if c<ops.length-1 then j c else undef) (j (ops.length-1)) w)) s C (λ_=>⟨λ_ _ h=>by(cases h),λ_=>⟨E,λ_ _ _ h=>by cases h⟩,λh=>by cases h⟩) (λi o hi L a w u hb hc hf hw ⟨hv,hd,hF⟩=>⟨λU b x=>?_,?_⟩) λL j w hL ⟨hv,_,hF⟩=>I j w (λc f=>hv c f (hL c (by omega))) (hF (hL _ (by omega)))
 .rw[hg o (O5 hi)]at x;cases x
 .have p:∀c,lj ops ops.length c i=true->L c=false:=λc f=>by
   cases hx:L c with
   |false=>rfl
   |true=>have:=hc c i hx f;rw[u]at this;cases this
  have V:=t hi;have y:L (ops.length-1)=false:=by rcases QT i (ops.length-1)with h|h;exact p _ (J i h);rw[show ops.length-1=i by omega];exact u
  obtain⟨g,hd⟩:=hd y;have K:∀{c:Nat},kI o c=true->c<ops.length-1:=λ{c} f=>by unfold kI at f;rw[RY]at f;obtain⟨e,he,f⟩:=f;simp only[Qh,P9]at f;have:=(uK s).1 i o hi e (by simpa using he) f.1;omega
  obtain⟨M,N⟩:=F.kt i o hi a w g hf (λc q f l=>rh f▸hv c (K l) (hb c l)) (λe he q f l=>rh f▸hd e he (t f) (hb _ l)) λc q d f hd' hx=>hw c q d f hd' (p c (by rw[Pk]at hx;exact hx));by_cases O:i+1=ops.length;refine(M O).imp λv w' h=>⟨λc f hL=>?_,λhL=>?_,λ_=>?_⟩
  unfold up at hL⊢;rw[Pn (by omega)]at hL⊢;exact hv c f hL;unfold up at hL;rw[PJ (by omega)]at hL;cases hL;have e:(λc=>if c<ops.length-1 then up (sv ops a) i (vd o v) c else undef)=vo ops a:=by funext c;unfold vo up;by_cases f:c<ops.length-1;rw[PJ f,PJ f,Pn (by omega)];rfl;rw[Pn f,Pn f]
  rw[e,show up (sv ops a) i (vd o v) (ops.length-1)=vd o v by unfold up;rw[PJ (by omega)]];exact h;refine(N (by omega)).imp λv w' ⟨z,R,A⟩=>⟨λc f hL=>?_,λhL=>⟨R,λe he S hL=>?_⟩,λhL=>?_⟩
  unfold up at hL⊢;by_cases k:c=i;rw[PJ k,k];rw[Pk]at z;exact z;rw[Pn k]at hL⊢;exact hv c f hL;unfold up at hL⊢;by_cases k:e.1=i;rw[PJ k];exact(A e he).1 (by rw[Pk];exact k);rw[Pn k]at hL⊢;refine(A e he).2 (by rw[Pk];exact k) ?_ _ (hd e he S hL);rw[Pk];cases hx:lj ops ops.length e.1 i with
  |false=>rfl
  |true=>have:=p _ hx;rw[hL]at this;cases this
  unfold up at hL;rw[Pn (by omega),y]at hL;cases hL
def rG{id:Nat}{w0:World}(G:World->Prop)(c:(Nat->Value)->Value->World->Prop)(VP:Nat->Value->Prop)(D:mZ)(hm:P.follows .mixedOrders=true)(e:qT ops=true)(f:tZ ops=true)(g:0<ops.length)(n:Nat)(hn:a0.tmps.size=n)(i:(ops.all λo=>match o.dst with|some d=>decide (d<n)|none=>true)=true)(j:G {w0 with drawn:=w0.drawn+1})(k:qJ P ops a0 G c VP D 0 ops)
  (l:∀(b:Nat->Value) (w:World),(∀a,a<ops.length-1->VP a (b a))->c (λa=>if a<ops.length-1 then b a else undef) (b (ops.length-1)) w->Q .normal (kK a0 ops b 0) w):(Code.region id ops.toArray true).wp P Q a0 w0:=
 wp_region_any hm (Ag G c VP D e f g n hn i j k l)
def xd{id:Nat}{w0:World}(G:World->Prop)(a:Value->World->Prop)(VP:Nat->Value->Prop)(D:mZ)(hm:P.follows .mixedOrders=true)(e:qT ops=true)(f:tZ ops=true)(g:0<ops.length)(n:Nat)(hn:a0.tmps.size=n)(i:(ops.all λo=>match o.dst with|some d=>decide (d<n)|none=>true)=true)(j:G {w0 with drawn:=w0.drawn+1})(k:za P ops a0 G a VP D 0 ops)
  (l:∀(b:Nat->Value) (w:World),(∀c,c<ops.length-1->VP c (b c))->a (b (ops.length-1)) w->Q .normal (kK a0 ops b 0) w):(Code.region id ops.toArray true).wp P Q a0 w0:=
 rG G (λ_=>a) VP D hm e f g n hn i j k l
end
def mi(l:List (Value->Prop))(a:Nat)(v:Value):Prop:=(l[a]?.getD λ_=>True) v
def kU{a:Act}{t:Nat}{v:Value}(h:a.eval (.tmp t)=v):a.tmps[t]?.getD undef=v:=by rw[<-h];simp[Act.eval]
def jW.ll{P:Program}{a:Act}{o:Oper}{w:World}{b:Value->World->Prop}(h:∀K:Value->World->Prop,(∀v w',b v w'->K v w')->jW P a o w K):jW P a o w b:=h _ λ_ _ h=>h
end Go.Proofs.YtjoamapacifofaaGreatDoor
universe u
def Xq{b:Sort u}(a:b):∃q,q=a:=⟨a,rfl⟩
def Gx{a:Type}{l:List a}{k:Nat}(h:k<l.length):∃x,l[k]?=some x:=⟨_,List.getElem?_eq_getElem h⟩
def Ms{p:Prop}(h:p:=by simp[Go.RowKit.intOf];omega):p:=h
namespace Go.Proofs.YtjoamapacifofaaGreatDoor
open Go Go.Proofs.Tryz
def Sl{a:Act}(t:Nat){v:Value}(h:a.eval (.tmp t)=v):a.tmps[t]?.getD undef=v:=kU h
def Ba(w:World)(a:Obj):RowKit.Below w.heap.size w (w.alloc a):=(RowKit.Below.refl w.heap.size w).alloc (O9 _) a
def Cb{w w':World}(b o:Nat)(h:w'.heap[b]?=w.heap[b]?):w'.cell? ⟨b,o,none⟩=w.cell? ⟨b,o,none⟩:=World.cell?_of_block (a:=⟨b,o,none⟩) h
def Hq{p:Prop}(h:p):RowKit.Hid p:=h
def Lb{a b:Nat}(h:Nat.ble (a+1) b=true:=by rfl):a<b:=Nat.le_of_ble_eq_true h
def Mm{a:Type}{l:List a}{x:a}(k:Nat)(h:l[k]?=some x):x∈l:=O5 h
abbrev Tr:Value->Prop:=λ_=>True
def cv(v:Value):Operand->Value
 | .const c=>c
 |_=>v
section
variable {P:Program} {a:Act} {o:Oper} {w:World} {K:Value→World→Prop}
def jW.p(t:Nat){v u:Value}(e:a.eval (.tmp t)=v)(b:K u w)(hx:execOp a.eval o=execOp (cv (a.eval (.tmp t))) o:=by rfl)(hr:(execOp (cv v) o).run P w=.ok (.value u) w:=by kernel_rfl):jW P a o w K:=by unfold jW;rw[hx,e,hr];exact b
def jW.h{b:Value->World->Prop}(h:∀K:Value->World->Prop,(∀{v w'},b v w'->K v w')->rj P w K ((execOp a.eval o).run P w)):jW P a o w b:=h _ λh=>h
def jW.q{b:Value->World->Prop}{v:Value}{w':World}(e:∀K:Value->World->Prop,K v w'->rj P w K ((execOp a.eval o).run P w):=by intro K k;go_simp;exact k)(g:b v w'):jW P a o w b:=jW.h λK hK=>e K (hK g)
def jW.l(x:Nat){t:TypeId}{p:Addr}{u:Value}(e:a.eval (.tmp x)=.pointer (some p))(c:w.cell? p=some u)(b:K u w)(d:o.op=.load t (.tmp x):=by rfl)(f:(isAgg t).run P w=.ok false w:=by kernel_rfl):jW P a o w K:=by unfold jW execOp;simp only[d,e,Instr.loadAt,Instr.sureAddr,PQ,PR,PB,loadVar,f,Bool.false_eq_true,if_false,run_load,c,rj];exact b
end
section
variable {ops:List Oper} {i:Nat} {v:Value} {w w':World}
def Qa{D:mZ}(h:(D.all λe=>!(e.1==i))=true:=by rfl):∀e∈D,(e.1=i->e.2 v w)/\(e.1≠i->lj ops ops.length e.1 i=false->∀u,e.2 u w->e.2 u w):=λe he=>by have:=Qm.1 h e he;simp at this;exact⟨λh=>absurd h this,λ_ _ _ hu=>hu⟩
def Qb{D:mZ}{e:Nat×(Value->World->Prop)}(t:∀e∈D,(e.1=i->e.2 v w')/\(e.1≠i->lj ops ops.length e.1 i=false->∀u,e.2 u w->e.2 u w'))(h:(e.1==i)=false:=by rfl)(k:lj ops ops.length e.1 i=false->∀u,e.2 u w->e.2 u w':=by first|exact λ_ _ h=>h|exact λh=>Bool.noConfusion (show true=false from h)):∀x∈e::D,(x.1=i->x.2 v w')/\(x.1≠i->lj ops ops.length x.1 i=false->∀u,x.2 u w->x.2 u w'):=
 PC.2 ⟨⟨λe=>by rw[e]at h;simp at h,λ_=>k⟩,t⟩
def Q2{D:mZ}{a b:Nat×(Value->World->Prop)}(t:∀e∈D,(e.1=i->e.2 v w')/\(e.1≠i->lj ops ops.length e.1 i=false->∀u,e.2 u w->e.2 u w'))(c:(a.1==i)=false:=by rfl)(d:lj ops ops.length a.1 i=false->∀u,a.2 u w->a.2 u w':=by first|exact λ_ _ h=>h|exact λh=>Bool.noConfusion (show true=false from h))(f:(b.1==i)=false:=by rfl)(g:lj ops ops.length b.1 i=false->∀u,b.2 u w->b.2 u w':=by first|exact λ_ _ h=>h|exact λh=>Bool.noConfusion (show true=false from h)):∀x∈a::b::D,(x.1=i->x.2 v w')/\(x.1≠i->lj ops ops.length x.1 i=false->∀u,x.2 u w->x.2 u w'):=
 Qb (Qb t f g) c d
def Q4{D:mZ}{a b e3 e4:Nat×(Value->World->Prop)}(t:∀e∈D,(e.1=i->e.2 v w')/\(e.1≠i->lj ops ops.length e.1 i=false->∀u,e.2 u w->e.2 u w'))(c:(a.1==i)=false:=by rfl)(d:lj ops ops.length a.1 i=false->∀u,a.2 u w->a.2 u w':=by first|exact λ_ _ h=>h|exact λh=>Bool.noConfusion (show true=false from h))(f:(b.1==i)=false:=by rfl)(g:lj ops ops.length b.1 i=false->∀u,b.2 u w->b.2 u w':=by first|exact λ_ _ h=>h|exact λh=>Bool.noConfusion (show true=false from h))(j:(e3.1==i)=false:=by rfl)(k:lj ops ops.length e3.1 i=false->∀u,e3.2 u w->e3.2 u w':=by first|exact λ_ _ h=>h|exact λh=>Bool.noConfusion (show true=false from h))(l:(e4.1==i)=false:=by rfl)(m:lj ops ops.length e4.1 i=false->∀u,e4.2 u w->e4.2 u w':=by first|exact λ_ _ h=>h|exact λh=>Bool.noConfusion (show true=false from h)):∀x∈a::b::e3::e4::D,(x.1=i->x.2 v w')/\(x.1≠i->lj ops ops.length x.1 i=false->∀u,x.2 u w->x.2 u w'):=
 Q2 (Q2 t j k l m) c d f g
def Qd{D:mZ}{e:Nat×(Value->World->Prop)}(k:∀u,e.2 u w->e.2 u w')(t:∀e∈D,(e.1=i->e.2 v w')/\(e.1≠i->lj ops ops.length e.1 i=false->∀u,e.2 u w->e.2 u w'))(h:(e.1==i)=false:=by rfl):∀x∈e::D,(x.1=i->x.2 v w')/\(x.1≠i->lj ops ops.length x.1 i=false->∀u,x.2 u w->x.2 u w'):=
 Qb t h λ_=>k
def Qc{D:mZ}{e:Nat×(Value->World->Prop)}(k:e.2 v w')(t:∀e∈D,(e.1=i->e.2 v w')/\(e.1≠i->lj ops ops.length e.1 i=false->∀u,e.2 u w->e.2 u w'))(h:(e.1==i)=true:=by rfl):∀x∈e::D,(x.1=i->x.2 v w')/\(x.1≠i->lj ops ops.length x.1 i=false->∀u,x.2 u w->x.2 u w'):=
 PC.2 ⟨⟨λ_=>k,λn=>absurd (by simpa using h) n⟩,t⟩
def Qe{a:Type}{D:List a}{p:a->Prop}(h:D=[]:=by rfl):∀e∈D,p e:=by subst h;simp
end
section
variable {ops:List Oper} {i:Nat} {o:Oper} {a:Act} {v:Value} {w w':World}
abbrev F4(ops:List Oper)(i:Nat)(o:Oper)(a:Act)(v:Value)(w w':World)(e:Nat×Nat×(Value->Value->World->Prop)):Prop:=
 (e.1=i->∀ok,ops[e.2.1]?=some ok->e.2.2 (vd o v) (if e.2.1=i then vd o v else lG a ok) w')/\(e.1≠i->lj ops ops.length e.1 i=false->∀u u2,e.2.2 u u2 w->e.2.2 u u2 w')
def Ra{D:vC}(h:(D.all λe=>!(e.1==i))=true:=by rfl):∀e∈D,F4 ops i o a v w w e:=λe he=>by have:=Qm.1 h e he;simp at this;exact⟨λh=>absurd h this,λ_ _ _ _ hu=>hu⟩
def Rb{D:vC}{e:Nat×Nat×(Value->Value->World->Prop)}(t:∀e∈D,F4 ops i o a v w w' e)(h:(e.1==i)=false:=by rfl)(k:lj ops ops.length e.1 i=false->∀u u2,e.2.2 u u2 w->e.2.2 u u2 w':=by first|exact λ_ _ _ h=>h|exact λh=>Bool.noConfusion (show true=false from h)):∀x∈e::D,F4 ops i o a v w w' x:=
 PC.2 ⟨⟨λe=>by rw[e]at h;simp at h,λ_=>k⟩,t⟩
def Rd{D:vC}{e:Nat×Nat×(Value->Value->World->Prop)}(k:∀u u2,e.2.2 u u2 w->e.2.2 u u2 w')(t:∀e∈D,F4 ops i o a v w w' e)(h:(e.1==i)=false:=by rfl):∀x∈e::D,F4 ops i o a v w w' x:=
 Rb t h λ_=>k
def Rc{D:vC}{e:Nat×Nat×(Value->Value->World->Prop)}(k:∀ok,ops[e.2.1]?=some ok->e.2.2 (vd o v) (if e.2.1=i then vd o v else lG a ok) w')(t:∀e∈D,F4 ops i o a v w w' e)(h:(e.1==i)=true:=by rfl):∀x∈e::D,F4 ops i o a v w w' x:=
 PC.2 ⟨⟨λ_=>k,λn=>absurd (by simpa using h) n⟩,t⟩
end
def mG(k n:Nat)(h:k<n:=by omega):(0:Int)<=(k:Int)/\(k:Int)<(n:Int):=⟨Rn k,Int.ofNat_lt.2 h⟩
def mP:=And.intro @kK.eq_1 (And.intro @kK.eq_2 (And.intro @Act.put.eq_1 (And.intro @List.setIfInBounds_toArray.{0} (And.intro @List.set_cons_zero.{0} @List.set_cons_succ.{0}))))
def kE{D:mZ}{ops:List Oper}{o:Oper}{a:Act}{w:World}(hd:∀e∈D,∀b,ops[e.1]?=some b->kI o e.1=true->e.2 (lG a b) w)(k:Nat){e:Nat×(Value->World->Prop)}{b:Oper}(c:D[k]?=some e:=by rfl)(d:ops[e.1]?=some b:=by rfl)(f:kI o e.1=true:=by rfl):e.2 (lG a b) w:=hd e (Mm k c) b d f
def Sv{a:Act}(t:Nat){VP:Nat->Value->Prop}{ops:List Oper}{o:Oper}(hv:∀b c,ops[b]?=some c->kI o b=true->VP b (lG a c))(b:Nat){c:Oper}{v:Value}(d:ops[b]?=some c:=by rfl)(e:kI o b=true:=by rfl)(he:VP b (lG a c)->a.eval (.tmp t)=v:=by exact λh=>h):a.tmps[t]?.getD undef=v:=kU (he (hv b c d e))
section
variable {P:Program} {ops:List Oper} {a0:Act} {G:World→Prop} {VP:Nat→Value→Prop} {i:Nat} {o:Oper}
def FK.f{D:mZ}(t:Nat){u:Value}(b:(kO ops).contains t=false:=by rfl)(hu:VP i (vd o u):=by exact rfl)(hx:∀a:Act,execOp a.eval o=execOp (cv (a.eval (.tmp t))) o:=by intro a;rfl)(hr:∀w,(execOp (cv (a0.eval (.tmp t))) o).run P w=.ok (.value u) w:=by intro w;kernel_rfl)(c:(D.all λe=>!(e.1==i))=true:=by rfl):FK P ops a0 G VP D i o:=
 λa w d hf _ _ _=>.p t (hf t b) ⟨hu,d,Qa c⟩ (hx a) (hr w)
def FK.v{D:mZ}(t b:Nat){c:Oper}{v u:Value}(d:ops[b]?=some c:=by rfl)(f:kI o b=true:=by rfl)(he:∀a:Act,VP b (lG a c)->a.eval (.tmp t)=v:=by exact λ_ h=>h)(hu:VP i (vd o u):=by exact rfl)(hx:∀a:Act,execOp a.eval o=execOp (cv (a.eval (.tmp t))) o:=by intro a;rfl)(hr:∀w,(execOp (cv v) o).run P w=.ok (.value u) w:=by intro w;kernel_rfl)(g:(D.all λe=>!(e.1==i))=true:=by rfl):FK P ops a0 G VP D i o:=
 λa w j _ hv _ _=>.p t (he a (hv b c d f)) ⟨hu,j,Qa g⟩ (hx a) (hr w)
def Ee.f{D:vC}(t:Nat){u:Value}(b:(kO ops).contains t=false:=by rfl)(hu:VP i (vd o u):=by exact rfl)(hx:∀a:Act,execOp a.eval o=execOp (cv (a.eval (.tmp t))) o:=by intro a;rfl)(hr:∀w,(execOp (cv (a0.eval (.tmp t))) o).run P w=.ok (.value u) w:=by intro w;kernel_rfl)(c:(D.all λe=>!(e.1==i))=true:=by rfl):Ee P ops a0 G VP D i o:=
 λa w d hf _ _ _=>.p t (hf t b) ⟨hu,d,Ra c⟩ (hx a) (hr w)
def Ee.v{D:vC}(t b:Nat){c:Oper}{v u:Value}(d:ops[b]?=some c:=by rfl)(f:kI o b=true:=by rfl)(he:∀a:Act,VP b (lG a c)->a.eval (.tmp t)=v:=by exact λ_ h=>h)(hu:VP i (vd o u):=by exact rfl)(hx:∀a:Act,execOp a.eval o=execOp (cv (a.eval (.tmp t))) o:=by intro a;rfl)(hr:∀w,(execOp (cv v) o).run P w=.ok (.value u) w:=by intro w;kernel_rfl)(g:(D.all λe=>!(e.1==i))=true:=by rfl):Ee P ops a0 G VP D i o:=
 λa w j _ hv _ _=>.p t (he a (hv b c d f)) ⟨hu,j,Ra g⟩ (hx a) (hr w)
def Pf{D:mZ}(t:Nat){u:Value}(b:(kO ops).contains t=false:=by rfl)(hu:VP i (vd o u):=by exact rfl)(hx:∀a:Act,execOp a.eval o=execOp (cv (a.eval (.tmp t))) o:=by intro a;rfl)(hr:∀w,(execOp (cv (a0.eval (.tmp t))) o).run P w=.ok (.value u) w:=by intro w;kernel_rfl)(c:(D.all λe=>!(e.1==i))=true:=by rfl):FK P ops a0 G VP D i o:=
 λa w d hf _ _ _=>.p t (hf t b) ⟨hu,d,Qa c⟩ (hx a) (hr w)
def Pv{D:mZ}(t b:Nat){c:Oper}{v u:Value}(d:ops[b]?=some c:=by rfl)(f:kI o b=true:=by rfl)(he:∀a:Act,VP b (lG a c)->a.eval (.tmp t)=v:=by exact λ_ h=>h)(hu:VP i (vd o u):=by exact rfl)(hx:∀a:Act,execOp a.eval o=execOp (cv (a.eval (.tmp t))) o:=by intro a;rfl)(hr:∀w,(execOp (cv v) o).run P w=.ok (.value u) w:=by intro w;kernel_rfl)(g:(D.all λe=>!(e.1==i))=true:=by rfl):FK P ops a0 G VP D i o:=
 λa w j _ hv _ _=>.p t (he a (hv b c d f)) ⟨hu,j,Qa g⟩ (hx a) (hr w)
def FK.l{D:mZ}(x b:Nat){d:Oper}{t:TypeId}{p:Addr}{u:Value}(c:∀w,G w->w.cell? p=some u)(g:ops[b]?=some d:=by rfl)(j:kI o b=true:=by rfl)(he:∀a:Act,VP b (lG a d)->a.eval (.tmp x)=.pointer (some p):=by exact λ_ h=>h)(hu:VP i (vd o u):=by exact rfl)(k:o.op=.load t (.tmp x):=by rfl)(l:∀w,(isAgg t).run P w=.ok false w:=by intro w;kernel_rfl)(m:(D.all λe=>!(e.1==i))=true:=by rfl):FK P ops a0 G VP D i o:=
 λa w f _ hv _ _=>.l x (he a (hv b d g j)) (c w f) ⟨hu,f,Qa m⟩ k (l w)
def Pl{D:mZ}(x b:Nat){d:Oper}{t:TypeId}{p:Addr}{u:Value}(c:∀w,G w->w.cell? p=some u)(f:ops[b]?=some d:=by rfl)(g:kI o b=true:=by rfl)(he:∀a:Act,VP b (lG a d)->a.eval (.tmp x)=.pointer (some p):=by exact λ_ h=>h)(hu:VP i (vd o u):=by exact rfl)(j:o.op=.load t (.tmp x):=by rfl)(k:∀w,(isAgg t).run P w=.ok false w:=by intro w;kernel_rfl)(l:(D.all λe=>!(e.1==i))=true:=by rfl):FK P ops a0 G VP D i o:=
 FK.l x b c f g he hu j k l
def Ef.f{G:Bool->World->Prop}{p:Nat}{D:mZ}(t:Nat){u:Value}(hg:decide (p<i)=decide (p<=i):=by rfl)(b:(kO ops).contains t=false:=by rfl)(hu:VP i (vd o u):=by exact rfl)(hx:∀a:Act,execOp a.eval o=execOp (cv (a.eval (.tmp t))) o:=by intro a;rfl)(hr:∀w,(execOp (cv (a0.eval (.tmp t))) o).run P w=.ok (.value u) w:=by intro w;kernel_rfl)(c:(D.all λe=>!(e.1==i))=true:=by rfl):Ef P ops a0 G p VP D i o:=
 λa w d hf _ _ _=>.p t (hf t b) ⟨hu,hg▸d,Qa c⟩ (hx a) (hr w)
def Ef.v{G:Bool->World->Prop}{p:Nat}{D:mZ}(t b:Nat){c:Oper}{v u:Value}(hg:decide (p<i)=decide (p<=i):=by rfl)(d:ops[b]?=some c:=by rfl)(f:kI o b=true:=by rfl)(he:∀a:Act,VP b (lG a c)->a.eval (.tmp t)=v:=by exact λ_ h=>h)(hu:VP i (vd o u):=by exact rfl)(hx:∀a:Act,execOp a.eval o=execOp (cv (a.eval (.tmp t))) o:=by intro a;rfl)(hr:∀w,(execOp (cv v) o).run P w=.ok (.value u) w:=by intro w;kernel_rfl)(g:(D.all λe=>!(e.1==i))=true:=by rfl):Ef P ops a0 G p VP D i o:=
 λa w j _ hv _ _=>.p t (he a (hv b c d f)) ⟨hu,hg▸j,Qa g⟩ (hx a) (hr w)
end
section
variable {P:Program} {ops:List Oper} {a0:Act} {Q:Exit→Act→World→Prop} {id:Nat} {w0:World}
def Ri(G:World->Prop)(VP:Nat->Value->Prop)(D:mZ)(c:G {w0 with drawn:=w0.drawn+1})(f:sV P ops a0 G VP D 0 ops)
  (g:∀(a:Nat->Value) (w:World),G w->(∀b,b<ops.length->VP b (a b))->(∀e∈D,e.1<ops.length->e.2 (a e.1) w)->Q .normal (kK a0 ops a 0) w)
  (hm:P.follows .mixedOrders=true:=by kernel_rfl) (i:qT ops=true:=by kernel_rfl) (j:(ops.all λo=>match o.dst with|some d=>decide (d<a0.tmps.size)|none=>true)=true:=by kernel_rfl):(Code.region id ops.toArray true).wp P Q a0 w0:=
 xz G VP D hm i _ rfl j c f g
def Ia(G:World->Prop)(VP:Nat->Value->Prop)(D:vC)(c:G {w0 with drawn:=w0.drawn+1})(f:rJ P ops a0 G VP D 0 ops)
  (g:∀(a:Nat->Value) (w:World),G w->(∀b,b<ops.length->VP b (a b))->(∀e∈D,e.1<ops.length->e.2.1<ops.length->e.2.2 (a e.1) (a e.2.1) w)->Q .normal (kK a0 ops a 0) w)
  (hm:P.follows .mixedOrders=true:=by kernel_rfl) (i:qH ops=true:=by kernel_rfl) (j:(D.all λe=>e.2.1==e.1||lj ops ops.length e.1 e.2.1)=true:=by kernel_rfl) (k:uE ops VP ops:=by repeat' (first|exact trivial|exact⟨by kernel_rfl,by kernel_rfl,λ_ h=>h⟩|refine And.intro ?_ ?_)) (l:(ops.all λo=>match o.dst with|some d=>decide (d<a0.tmps.size)|none=>true)=true:=by kernel_rfl):(Code.region id ops.toArray true).wp P Q a0 w0:=
 xb G VP D hm i j k _ rfl l c f g
def sB(G:World->Prop)(a:Value->World->Prop)(VP:Nat->Value->Prop)(D:mZ)(e:G {w0 with drawn:=w0.drawn+1})(f:za P ops a0 G a VP D 0 ops)
  (g:∀(b:Nat->Value) (w:World),(∀c,c<ops.length-1->VP c (b c))->a (b (ops.length-1)) w->Q .normal (kK a0 ops b 0) w)
  (hm:P.follows .mixedOrders=true:=by kernel_rfl) (i:qT ops=true:=by kernel_rfl) (j:tZ ops=true:=by kernel_rfl) (k:0<ops.length:=by decide) (l:(ops.all λo=>match o.dst with|some d=>decide (d<a0.tmps.size)|none=>true)=true:=by kernel_rfl):(Code.region id ops.toArray true).wp P Q a0 w0:=
 xd G a VP D hm i j k _ rfl l e f g
def Dr(p:Nat)(G:Bool->World->Prop)(VP:Nat->Value->Prop)(D:mZ)(c:G false {w0 with drawn:=w0.drawn+1})(f:rK P ops a0 G p VP D 0 ops)
  (g:∀(a:Nat->Value) (w:World),G true w->(∀b,b<ops.length->VP b (a b))->(∀e∈D,e.1<ops.length->e.2 (a e.1) w)->Q .normal (kK a0 ops a 0) w)
  (hm:P.follows .mixedOrders=true:=by kernel_rfl) (i:qT ops=true:=by kernel_rfl) (j:F5 ops p=true:=by kernel_rfl) (k:(ops.all λo=>match o.dst with|some d=>decide (d<a0.tmps.size)|none=>true)=true:=by kernel_rfl):(Code.region id ops.toArray true).wp P Q a0 w0:=
 xc p G VP D hm i j _ rfl k c f g
end
end Go.Proofs.YtjoamapacifofaaGreatDoor
namespace Go.Proofs.YtjoamapacifofaaGreatDoor
open RowKit Go.Proofs.Tryz kT Maps nu pG ChangeShapes WideShapes ChangeAt
def Al(w:World)(a:Obj):Below w.heap.size w (w.alloc a)/\(w.alloc a).heap[w.heap.size]?=some a/\(w.alloc a).heap.size=w.heap.size+1:=
 ⟨Ba w a,O2 w a,O4 w a⟩
def jW.c{P:Program}{a:Act}{o:Oper}{w:World}{K:Value->World->Prop}{f:FuncId}{args:Array Value}{R:Ending->World->Prop}(hc:Calls P f args w R)(b:∀e w',R e w'->∃v,e=.returned v/\K v w')(hr:(execOp a.eval o).run P w=.ok (.enter f args) w:=by go_simp):jW P a o w K:=by unfold jW;rw[hr];exact⟨rfl,hc.mono b⟩
def tA(S:Nat->Prop)(w:World)(A:Option Addr)(xs:List Value):Prop:=
 xs≠[]->∃b o,A=some ⟨b,o,none⟩/\S b/\∀(a:Nat) (u:Value),xs[a]?=some u->w.cell? ⟨b,o+a,none⟩=some u
def tA.nil(S w A):tA S w A []:=λh=>absurd rfl h
def tA.M{S T w A xs}(h:tA S w A xs)(a:∀b,S b->T b):tA T w A xs:=λhx=>by obtain⟨b,o,e,hb,hc⟩:=h hx;exact⟨b,o,e,a b hb,hc⟩
def tA.jP{S w w' A xs}(h:tA S w A xs)(c:∀b,S b->w'.heap[b]?=w.heap[b]?):tA S w' A xs:=λhx=>by obtain⟨b,o,e,hb,hc⟩:=h hx;exact⟨b,o,e,hb,λa u hu=>(Cb b (o+a) (c b hb)).T (hc a u hu)⟩
def tA.kt{S w A xs}(h:tA S w A xs)(a:Nat)(u)(hu:xs[a]?=some u):
  ∃b o,A=some ⟨b,o,none⟩/\S b/\w.cell? ⟨b,o+a,none⟩=some u:=by
 obtain⟨b,o,e,hb,h⟩:=h (by rintro rfl;simp at hu);exact⟨b,o,e,hb,h a u hu⟩
abbrev Rel(a:Type):=(Nat->Prop)->World->List Value->a->Prop
structure kF{α:Type}(R:Rel α)(k:Nat):Prop where
 pos:0<k
 len:∀{S w r x},R S w r x->r.length=k
 one:∀{S w r x},R S w r x->∀u∈r,u.oneCell'=true
 M:∀{S T w r x},R S w r x->(∀b,S b->T b)->R T w r x
 jP:∀{S w w' r x},R S w r x->(∀b,S b->w'.heap[b]?=w.heap[b]?)->R S w' r x
def kJ{a:Type}(R:List Value->a->Prop):List (List Value)->List a->Prop
 |[],[]=>True
 |r::rs,x::xs=>R r x/\kJ R rs xs
 |_,_=>False
def kJ.imp{a:Type}{R b:List Value->a->Prop}(h:∀r x,R r x->b r x):∀{c:List (List Value)} {xs:List a},kJ R c xs->kJ b c xs
 |[],[],_=>trivial
 |_::_,_::_,⟨h1,h2⟩=>⟨h _ _ h1,kJ.imp h h2⟩
 |[],_::_,h=>h.elim
 |_::_,[],h=>h.elim
def kJ.length{a:Type}{R:List Value->a->Prop}:∀{b:List (List Value)} {xs:List a},kJ R b xs->b.length=xs.length
 |[],[],_=>rfl
 |_::_,_::_,⟨_,h2⟩=>by simp[kJ.length h2]
 |[],_::_,h=>h.elim
 |_::_,[],h=>h.elim
def kJ.flat{b:Type}{R:List Value->b->Prop}{k:Nat}(c:∀r x,R r x->r.length=k):∀{a:List (List Value)} {xs:List b},kJ R a xs->a.flatten.length=xs.length*k
 |[],[],_=>SG
 |r::a,x::xs,⟨h1,h2⟩=>by rw[P7,Pe,c _ _ h1,kJ.flat c h2,PA,Q1];omega
 |[],_::_,h=>h.elim
 |_::_,[],h=>h.elim
def kJ.kt{c:Type}{R:List Value->c->Prop}{k:Nat}(d:∀r x,R r x->r.length=k):∀{b:List (List Value)} {xs:List c} (i:Nat) (x:c),kJ R b xs->xs[i]?=some x->
  ∃r,R r x/\∀a u,r[a]?=some u->b.flatten[i*k+a]?=some u
 |r::b,y::xs,0,x,⟨h1,_⟩,hx=>by simp at hx;subst hx;refine⟨r,h1,λa u hu=>?_⟩;rw[P7,Ro,Pk,PW (Pm.1 hu).1];exact hu
 |r::b,y::xs,i+1,x,⟨h1,h2⟩,hx=>by obtain⟨q,f,hc⟩:=kJ.kt d i x h2 (by simpa using hx);refine⟨q,f,λa u hu=>?_⟩;have e:=d _ _ h1;rw[P7,P1 (by rw[e,Q1];omega),e,show(i+1)*k+a-k=i*k+a by rw[Q1];omega];exact hc a u hu
 |[],[],_,_,_,hx=>by simp at hx
 |[],_::_,_,_,h,_=>h.elim
 |_::_,[],_,_,h,_=>h.elim
def kJ.one{b:Type}{R:List Value->b->Prop}(c:∀r x,R r x->∀u∈r,u.oneCell'=true):∀{a:List (List Value)} {xs:List b},kJ R a xs->∀u∈a.flatten,u.oneCell'=true
 |[],[],_=>SG
 |r::a,x::xs,⟨h1,h2⟩=>by intro u hu;rw[P7,QV]at hu;rcases hu with hu|hu;exact c _ _ h1 u hu;exact kJ.one c h2 u hu
 |[],_::_,h=>h.elim
 |_::_,[],h=>h.elim
def jT{a:Type}(R:Rel a)(S:Nat->Prop)(w:World)(v:Value)(xs:List a):Prop:=
 ∃(A:Option Addr) (c:Nat) (b:List (List Value)),v=.slice A xs.length c/\xs.length<=c/\c<=9223372036854775807/\tA S w A b.flatten/\kJ (R S w) b xs
def jT.M{a:Type}{R:Rel a}{k:Nat}(ok:kF R k){S T w v}{xs:List a}(h:jT R S w v xs)(d:∀b,S b->T b):jT R T w v xs:=by obtain⟨A,c,e,f,g,i,j,l⟩:=h;exact⟨A,c,e,f,g,i,j.M d,l.imp λr x hr=>ok.M hr d⟩
def jT.jP{a:Type}{R:Rel a}{k:Nat}(ok:kF R k){S w w' v}{xs:List a}(h:jT R S w v xs)(d:∀b,S b->w'.heap[b]?=w.heap[b]?):jT R S w' v xs:=by obtain⟨A,c,e,f,g,i,j,l⟩:=h;exact⟨A,c,e,f,g,i,j.jP d,l.imp λr x hr=>ok.jP hr d⟩
def jT.nil{a:Type}(R:Rel a)(S w):jT R S w (Nl) []:=⟨none,0,[],rfl,O9 _,SE,tA.nil _ _ _,trivial⟩
def jT.one{a:Type}{R:Rel a}{S w v}{xs:List a}(h:jT R S w v xs):v.oneCell'=true:=by obtain⟨A,c,b,rfl,_⟩:=h;rfl
def jT.kt{d:Type}{R:Rel d}{k:Nat}(ok:kF R k){S w A}{n c:Nat}{xs:List d}(h:jT R S w (.slice A n c) xs)(i:Nat)(x:d)(hx:xs[i]?=some x):
  ∃b o r,A=some ⟨b,o,none⟩/\S b/\R S w r x/\∀a u,r[a]?=some u->w.cell? ⟨b,o+i*k+a,none⟩=some u:=by
 obtain⟨q,s,t,f,v,y,g,j⟩:=h;injection f with f;subst f;obtain⟨r,hr,hc⟩:=kJ.kt (k:=k) (λr x h=>ok.len h) i x j hx;have l:∃u,r[0]?=some u:=Gx (by rw[ok.len hr];exact ok.pos);obtain⟨u0,m⟩:=l;obtain⟨b,o,e,hb,p⟩:=g (by intro e;have:=hc 0 u0 m;rw[e]at this;simp at this);refine⟨b,o,r,e,hb,hr,λa u hu=>?_⟩;rw[Rx];exact p _ u (hc a u hu)
structure kf{α:Type}(R:Rel α)(T k:Nat)(P:Nat->Prop)(w:World)(lo:Nat)(v:Value)(xs:List α):Prop where
 own:∃rows,w.ownsRow lo T k v xs.length rows.flatten/\kJ (R (λb=>P b/\b<w/\some b≠v.ownBlock) w) rows xs
def kf.nil{a:Type}(R:Rel a)(T k:Nat)(P w)(lo:Nat):kf R T k P w lo (Nl) []:=⟨[],QX _ _ _ _,trivial⟩
def kf.grown{a:Type}{R:Rel a}{T k:Nat}(ok:kF R k){P w w'}{lo:Nat}{v}{xs:List a}{row}(h:kf R T k P w lo v xs)(hg:w.grownBy w' row)(hr:∀z,row=some z->¬P z/\some z≠v.ownBlock):kf R T k P w' lo v xs:=by
 obtain⟨c,d,f⟩:=h.own;refine⟨c,d.kept hg ?_,f.imp λr x hx=>ok.M (ok.jP hx λb hb=>hg.B b hb.2.1 λe=>(hr b e.symm).1 hb.1) λb hb=>⟨hb.1,O1 hb.2.1 hg.size,hb.2.2⟩⟩;cases hv:v.ownBlock with
 |none=>exact .inl rfl
 |some q=>exact .inr (λe=>(hr q e.symm).2 hv.symm)
def jV{w w'}(h:Below w.heap.size w w'):w.grownBy w' none:=⟨h.os,h.tape,h.output,h.size,λk a _=>h.B k a⟩
def kf.jQ{a:Type}{R:Rel a}{T k:Nat}(ok:kF R k){P w w'}{lo:Nat}{v}{xs:List a}(h:kf R T k P w lo v xs)(hb:Below w w w'):kf R T k P w' lo v xs:=
 h.grown ok (jV hb) (λz e=>by cases e)
def kf.form{a:Type}{R:Rel a}{T k:Nat}{P w}{lo:Nat}{v}{xs:List a}(h:kf R T k P w lo v xs):∃A c,v=.slice A xs.length c/\xs.length<=c/\c<=9223372036854775807:=by
 obtain⟨f,d,_⟩:=h.own;rcases d.2 with⟨rfl,b⟩|⟨g,e,i,rfl,hb,hg,hc,hm,j,l⟩
 exact⟨none,0,by rw[b],by rw[b];exact O9 _,SE⟩;exact⟨_,e,rfl,hc,hm⟩
def kf.ge{a:Type}{R:Rel a}{T k:Nat}{P w}{lo:Nat}{v}{xs:List a}(h:kf R T k P w lo v xs):∀z,v.ownBlock=some z->lo<=z/\z<w:=by
 obtain⟨c,b,_⟩:=h.own;rcases b.2 with⟨rfl,d⟩|⟨g,f,i,rfl,hb,hg,hc,hm,j,l⟩
 intro z e;simp[Value.ownBlock]at e;intro z e;obtain rfl:g=z:=by simpa[Value.ownBlock]using e
 exact⟨hb,(O3.1 hg).1⟩
inductive kT.Ex where
 |mk (op:Int) (name:List UInt8) (n:Int) (args:List Ex)
instance:Inhabited Ex:=⟨.mk 0 [] 0 []⟩
def kT.Ex.op:Ex->Int| .mk o _ _ _=>o
def kT.Ex.name:Ex->List UInt8| .mk _ s _ _=>s
def kT.Ex.n:Ex->Int| .mk _ _ n _=>n
def kT.Ex.args:Ex->List Ex| .mk _ _ _ a=>a
inductive kT.St where
 |mk (kind:Int) (name hd:List UInt8) (kA:List Ex) (th el:List St)
instance:Inhabited St:=⟨.mk 0 [] [] [] [] []⟩
def kT.St.kind:St->Int| .mk k _ _ _ _ _=>k
def kT.St.name:St->List UInt8| .mk _ s _ _ _ _=>s
def kT.St.hd:St->List UInt8| .mk _ _ h _ _ _=>h
def kT.St.kA:St->List Ex| .mk _ _ _ e _ _=>e
def kT.St.th:St->List St| .mk _ _ _ _ t _=>t
def kT.St.el:St->List St| .mk _ _ _ _ _ e=>e
structure kT.Hd where
 name:List UInt8
 params:List (List UInt8)
 body:List St
instance:Inhabited Hd:=⟨⟨[],[],[]⟩⟩
structure kT.Va where
 name:List UInt8
 ty:Int
 init:Int
instance:Inhabited Va:=⟨⟨[],0,0⟩⟩
structure kT.Co where
 name:List UInt8
 vars:List Va
 kS:List (List Hd)
instance:Inhabited Co:=⟨⟨[],[],[]⟩⟩
structure kT.Fg where
 name:List UInt8
 init:Bool
instance:Inhabited Fg:=⟨⟨[],false⟩⟩
structure kT.Lk where
 a:List UInt8
 b:List UInt8
 sD:Int
instance:Inhabited Lk:=⟨⟨[],[],0⟩⟩
structure kT.Fl where
 name:List UInt8
 km:List Fg
 lB:List Lk
 jZ:List Co
def kT.De:Nat:=6
def kT.Ds:Nat:=4
abbrev tx(l:List UInt8):Value:=.string ⟨l.toArray⟩
def kh:Rel (List UInt8):=λ_ _ r x=>r=[tx x]
def kh.ok:kF kh 1:=⟨SE,λh=>by rw[h];rfl,λh u hu=>by rw[h]at hu;simp at hu;rw[hu];rfl,λh _=>h,λh _=>h⟩
def lM:Rel Fg:=λ_ _ r x=>r=[tx x.name,.bool x.init]
def lM.ok:kF lM 2:=⟨SE,λh=>by rw[h];rfl,λh u hu=>by rw[h]at hu;simp at hu;rcases hu with rfl|rfl<;>rfl,λh _=>h,λh _=>h⟩
def mY:Rel Lk:=λ_ _ r x=>r=[tx x.a,tx x.b,.int .i64 x.sD]
def mY.ok:kF mY 3:=⟨SE,λh=>by rw[h];rfl,λh u hu=>by rw[h]at hu;simp at hu;rcases hu with rfl|rfl|rfl<;>rfl,λh _=>h,λh _=>h⟩
def nz(q:IntKind):Rel Va:=λ_ _ r x=>r=[tx x.name,.int q x.ty,.int .i64 x.init]
def nz.ok(q:IntKind):kF (nz q) 3:=⟨SE,λh=>by rw[h];rfl,λh u hu=>by rw[h]at hu;simp at hu;rcases hu with rfl|rfl|rfl<;>rfl,λh _=>h,λh _=>h⟩
def ko(q:IntKind):Nat->Rel Ex
 |0=>λ_ _ _ _=>False
 |d+1=>λS w r e=>∃v,r=[.int q e.op,tx e.name,.int .i64 e.n,v]/\jT (ko q d) S w v e.args
def ko.ok(q:IntKind):∀d,kF (ko q d) 4
 |0=>⟨SE,λh=>h.elim,λh=>h.elim,λh=>h.elim,λh=>h.elim⟩
 |d+1=>⟨SE,λ⟨v,h,_⟩=>by rw[h];rfl,λ⟨v,h,hs⟩ u hu=>by rw[h]at hu;simp at hu;rcases hu with rfl|rfl|rfl|rfl;rfl;rfl;rfl;exact hs.one,λ⟨v,h,hs⟩ a=>⟨v,h,hs.M (ko.ok q d) a⟩,λ⟨v,h,hs⟩ b=>⟨v,h,hs.jP (ko.ok q d) b⟩⟩
def kp(q:IntKind):Nat->Rel St
 |0=>λ_ _ _ _=>False
 |d+1=>λS w r s=>∃v1 v2 a,r=[.int q s.kind,tx s.name,tx s.hd,v1,v2,a]/\jT (ko q De) S w v1 s.kA/\jT (kp q d) S w v2 s.th/\jT (kp q d) S w a s.el
def kp.ok(q:IntKind):∀d,kF (kp q d) 6
 |0=>⟨SE,λh=>h.elim,λh=>h.elim,λh=>h.elim,λh=>h.elim⟩
 |d+1=>⟨SE,λ⟨v1,v2,a,h,_⟩=>by rw[h];rfl,λ⟨v1,v2,a,h,b,c,e⟩ u hu=>by
  rw[h]at hu;simp at hu;rcases hu with rfl|rfl|rfl|rfl|rfl|rfl;rfl;rfl;rfl;exact b.one;exact c.one;exact e.one,λ⟨v1,v2,a,h,b,c,e⟩ f=>⟨v1,v2,a,h,b.M (ko.ok q _) f,c.M (kp.ok q d) f,e.M (kp.ok q d) f⟩,
  λ⟨v1,v2,a,h,b,c,e⟩ g=>⟨v1,v2,a,h,b.jP (ko.ok q _) g,c.jP (kp.ok q d) g,e.jP (kp.ok q d) g⟩⟩
def lF(q:IntKind):Rel Hd:=λS w r h=>∃v1 v2,r=[tx h.name,v1,v2]/\jT kh S w v1 h.params/\jT (kp q Ds) S w v2 h.body
def lF.ok(q:IntKind):kF (lF q) 3:=
 ⟨SE,λ⟨v1,v2,h,_⟩=>by rw[h];rfl,λ⟨v1,v2,h,a,b⟩ u hu=>by rw[h]at hu;simp at hu;rcases hu with rfl|rfl|rfl;rfl;exact a.one;exact b.one,λ⟨v1,v2,h,a,b⟩ c=>⟨v1,v2,h,a.M kh.ok c,b.M (kp.ok q _) c⟩,λ⟨v1,v2,h,a,b⟩ d=>⟨v1,v2,h,a.jP kh.ok d,b.jP (kp.ok q _) d⟩⟩
def mr(q:IntKind):Rel (List Hd):=λS w r l=>∃v,r=[v]/\jT (lF q) S w v l
def mr.ok(q:IntKind):kF (mr q) 1:=
 ⟨SE,λ⟨v,h,_⟩=>by rw[h];rfl,λ⟨v,h,a⟩ u hu=>by rw[h]at hu;simp at hu;rw[hu];exact a.one,λ⟨v,h,a⟩ b=>⟨v,h,a.M (lF.ok q) b⟩,λ⟨v,h,a⟩ c=>⟨v,h,a.jP (lF.ok q) c⟩⟩
def lv(q:IntKind):Rel Co:=λS w r c=>∃v1 v2,r=[tx c.name,v1,v2]/\jT (nz q) S w v1 c.vars/\jT (mr q) S w v2 c.kS
def lv.ok(q:IntKind):kF (lv q) 3:=
 ⟨SE,λ⟨v1,v2,h,_⟩=>by rw[h];rfl,λ⟨v1,v2,h,a,b⟩ u hu=>by rw[h]at hu;simp at hu;rcases hu with rfl|rfl|rfl;rfl;exact a.one;exact b.one,λ⟨v1,v2,h,a,b⟩ c=>⟨v1,v2,h,a.M (nz.ok q) c,b.M (mr.ok q) c⟩,λ⟨v1,v2,h,a,b⟩ d=>⟨v1,v2,h,a.jP (nz.ok q) d,b.jP (mr.ok q) d⟩⟩
def MK(q:IntKind):Rel Fl:=λS w r f=>∃v1 v2 a,r=[tx f.name,v1,v2,a]/\jT lM S w v1 f.km/\jT mY S w v2 f.lB/\jT (lv q) S w a f.jZ
def MK.ok(q:IntKind):kF (MK q) 4:=
 ⟨SE,λ⟨v1,v2,a,h,_⟩=>by rw[h];rfl,λ⟨v1,v2,a,h,b,c,d⟩ u hu=>by rw[h]at hu;simp at hu;rcases hu with rfl|rfl|rfl|rfl;rfl;exact b.one;exact c.one;exact d.one,λ⟨v1,v2,a,h,b,c,d⟩ e=>⟨v1,v2,a,h,b.M lM.ok e,c.M mY.ok e,d.M (lv.ok q) e⟩,λ⟨v1,v2,a,h,b,c,d⟩ f=>⟨v1,v2,a,h,b.jP lM.ok f,c.jP mY.ok f,d.jP (lv.ok q) f⟩⟩
def kT.nm(c:UInt8)(k:Nat):List UInt8:=[c,UInt8.ofNat (48+k)]
def kT.pW(c:UInt8)(n:Nat):List (List UInt8):=(List.range n).map (nm c)
def kT.ld(c)(n:Nat):(pW c n).length=n:=by simp[pW]
def kT.oc(c)(n k:Nat)(h:k<n):(pW c n)[k]?=some (nm c k):=by simp[pW,h]
structure kT.Sc where
 ints:Nat
 kC:Nat
 km:Nat
 params:Nat
 nr:List (List Nat)
 own:Nat
structure kT.nW(sc:Sc):Prop where
 F6:1<=sc.ints
 F7:sc.ints<=3
 kC:sc.kC<=1
 km:sc.km<=2
 params:sc.params<=2
 own:sc.own<sc.nr.length
 len:sc.nr.length<=3
 each:∀l∈sc.nr,1<=l.length/\l.length<=3/\∀a∈l,a<=2
def kT.kY(sc:Sc):Nat->Ex->Prop
 |0,_=>False
 |d+1,e=>
  (e.op=1/\e.name=[]/\0<=e.n/\e.n<=8/\e.args=[])\/
  (e.op=4/\e.name=[]/\e.n=0/\e.args=[])\/
  (e.op=5/\((∃k,k<sc.ints/\e.name=nm 120 k)\/(∃k,k<sc.params/\e.name=nm 112 k))/\e.n=0/\e.args=[])\/
  (e.op=6/\sc.kC=1/\e.name=nm 116 0/\e.n=0/\∃a,e.args=[a]/\kY sc d a)\/
  (e.op=8/\sc.kC=1/\e.name=nm 116 0/\e.n=0/\e.args=[])\/
  (e.op=9/\e.name=[]/\e.n=0/\∃a,e.args=[a]/\kY sc d a)\/
  ((11<=e.op/\e.op<=15)/\e.name=[]/\e.n=0/\∃a b,e.args=[a,b]/\kY sc d a/\kY sc d b)
def kT.mC(sc:Sc):Nat->Ex->Prop
 |0,_=>False
 |d+1,e=>
  ((e.op=2\/e.op=3)/\e.name=[]/\e.n=0/\e.args=[])\/
  (e.op=5/\(e.name=nm 98 0\/(∃k,k<sc.km/\e.name=nm 102 k))/\e.n=0/\e.args=[])\/
  (e.op=7/\sc.kC=1/\e.name=nm 116 0/\e.n=0/\∃a,e.args=[a]/\kY sc d a)\/
  (e.op=10/\e.name=[]/\e.n=0/\∃a,e.args=[a]/\mC sc d a)\/
  ((e.op=22\/e.op=23)/\e.name=[]/\e.n=0/\∃a b,e.args=[a,b]/\mC sc d a/\mC sc d b)\/
  ((16<=e.op/\e.op<=21)/\e.name=[]/\e.n=0/\∃a b,e.args=[a,b]/\kY sc d a/\kY sc d b)
def kT.kx(k:Nat):List UInt8:=[UInt8.ofNat (97+k)]
def kT.mf(sc:Sc):Nat->St->Prop
 |0,_=>False
 |d+1,s=>
  (s.kind=1/\s.hd=[]/\s.th=[]/\s.el=[]/\(∃e,s.kA=[e]/\((∃k,k<sc.ints/\s.name=nm 120 k/\kY sc De e)\/(s.name=nm 98 0/\mC sc De e))))\/
  (s.kind=2/\sc.kC=1/\s.name=nm 116 0/\s.hd=[]/\s.th=[]/\s.el=[]/\(∃a b,s.kA=[a,b]/\kY sc De a/\kY sc De b))\/
  (s.kind=3/\sc.kC=1/\s.name=nm 116 0/\s.hd=[]/\s.th=[]/\s.el=[]/\(∃a,s.kA=[a]/\kY sc De a))\/
  (s.kind=4/\s.name=[]/\s.hd=[]/\(∃a,s.kA=[a]/\mC sc De a)/\(∀x∈s.th,mf sc d x)/\(∀x∈s.el,mf sc d x))\/
  (s.kind=5/\s.name=[]/\s.hd=[]/\s.el=[]/\(∃a,s.kA=[a]/\mC sc De a)/\(∀x∈s.th,mf sc d x))\/
  (s.kind=6/\s.th=[]/\s.el=[]/\(∃c l h a,sc.nr[c]?=some l/\l[h]?=some a/\s.name=kx c/\s.hd=nm 104 h/\s.kA.length=a)/\(∀e∈s.kA,kY sc De e))\/
  (s.kind=7/\s.name=[]/\s.th=[]/\s.el=[]/\(∃l h a,sc.nr[sc.own]?=some l/\l[h]?=some a/\s.hd=nm 104 h/\s.kA.length=a+1)/\(∀e∈s.kA,kY sc De e))\/
  (s.kind=8/\s.name=[]/\s.hd=[]/\s.th=[]/\(∃a b,s.kA=[a,b]/\kY sc De a/\kY sc De b)/\(∀x∈s.el,mf sc d x))\/
  (s.kind=9/\s.hd=[]/\s.th=[]/\(∃k,k<sc.ints/\s.name=nm 120 k)/\(∃a,s.kA=[a]/\kY sc De a)/\(∀x∈s.el,mf sc d x))\/
  (s.kind=10/\s.name=[]/\s.hd=[]/\s.th=[]/\s.el=[]/\s.kA=[])
def kT.ku:Nat->List St->Nat
 |0,_=>0
 |d+1,l=>(l.map λs=>1+ku d s.th+ku d s.el).sum
def jU{w:World}{b:Nat}{a:Array Value}{t:TypeId}{d:Nat×Nat}(h:w.heap[b]?=some (.cells a t d))(c:Nat)(v:Value)(hv:a[c]?=some v):w.cell? ⟨b,c,none⟩=some v:=by simp[World.cell?,h,hv]
def jN{w:World}{b:Nat}{c:Array Value}{t:TypeId}{d:Nat×Nat}(h:w.heap[b]?=some (.cells c t d))(a:Nat){v:Value}(hv:c[a]?=some v:=by rfl):w.cell? ⟨b,a,none⟩=some v:=jU h a v hv
def jS{w:World}{b:Nat}{a:Array Value}{t:TypeId}(h:w.heap[b]?=some (.cells a t (0,0)))(c:Nat):w.frozen? ⟨b,c,none⟩=false:=by simp[World.frozen?,h]
def lS:Rel Nat:=λ_ _ r x=>r=[.int .i64 (x:Int)]
def lS.ok:kF lS 1:=⟨SE,λh=>by rw[h];rfl,λh u hu=>by rw[h]at hu;simp at hu;rw[hu];rfl,λh _=>h,λh _=>h⟩
def pC:Rel (List Nat):=λS w r l=>∃v,r=[v]/\jT lS S w v l
def pC.ok:kF pC 1:=
 ⟨SE,λ⟨v,h,_⟩=>by rw[h];rfl,λ⟨v,h,a⟩ u hu=>by rw[h]at hu;simp at hu;rw[hu];exact a.one,λ⟨v,h,a⟩ b=>⟨v,h,a.M lS.ok b⟩,λ⟨v,h,a⟩ c=>⟨v,h,a.jP lS.ok c⟩⟩
def pX:Rel UInt8:=λ_ _ r x=>r=[.int .u8 (x.toNat:Int)]
def pX.ok:kF pX 1:=⟨SE,λh=>by rw[h];rfl,λh u hu=>by rw[h]at hu;simp at hu;rw[hu];rfl,λh _=>h,λh _=>h⟩
structure kr(S:Nat->Prop)(w:World)(mb:Nat)(sc:Sc)(left:Nat):Prop where
 kt:∃(NV NW:Value) (bs:List UInt8),w.heap[mb]?=some (.cells #[.int .i64 sc.ints,sc.kC,sc.km,sc.own,NV,sc.params,NW,left] 92)/\jT pC S w NV sc.nr/\jT pX S w NW bs
 kX:∀b,S b->b≠mb/\b<w
def kr.lt{S w}{a:Nat}{sc}{left:Nat}(h:kr S w a sc left):a<w:=by obtain⟨_,_,_,hb,_⟩:=h.kt;exact(O3.1 hb).1
def kr.jP{S w w'}{a:Nat}{sc}{left:Nat}(h:kr S w a sc left)(hg:w.grownBy w' none):kr S w' a sc left:=by obtain⟨d,e,f,hb,g,hy⟩:=h.kt;have c:∀b,S b->w'.heap[b]?=w.heap[b]?:=λb hS=>hg.B b (h.kX b hS).2 SG;exact⟨⟨d,e,f,(hg.B a h.lt SG).T hb,g.jP pC.ok c,hy.jP pX.ok c⟩,λb hS=>⟨(h.kX b hS).1,O1 (h.kX b hS).2 hg.size⟩⟩
def kr.jQ{S w w'}{a:Nat}{sc}{left:Nat}(h:kr S w a sc left)(hb:Below w w w'):kr S w' a sc left:=h.jP (jV hb)
def jT.tail{f:Type}{R:Rel f}(ok:kF R 1){S w A}{c:Nat}{x:f}{xs:List f}(h:jT R S w (.slice A (xs.length+1) c) (x::xs)):
  jT R S w (.slice (if c=1 then A else Option.map (λx=>x.add 1) A) xs.length (c-1)) xs:=by
 obtain⟨q,s,l,a,t,v,m,d⟩:=h;injection a with a _ n;subst a n;cases l with
 |nil=>exact d.elim
 |cons r j=>
  have g:=ok.len d.1;refine⟨_,c-1,j,rfl,SE,SE,λp=>?_,d.2⟩;have y:0<xs.length:=by have z:=kJ.flat (k:=1) (λr x h=>ok.len h) d.2;have:0<j.flatten.length:=Rg.2 p;omega
  obtain⟨b,o,rfl,hb,hc⟩:=m (by rw[P7];intro e;have:=PL List.length e;rw[Pe,g]at this;simp at this);refine⟨b,o+1,?_,hb,λi u hu=>?_⟩;rw[Pn SE];have a:(⟨b,o,none⟩:Addr).add 1=⟨b,o+1,none⟩:=rfl;simp[a];rw[show o+1+i=o+(i+1) from SE];refine hc (i+1) u ?_;rw[P7,P1 (by rw[g];omega),g,Rp];exact hu
def jO{w:World}{b i:Nat}{a:Array Value}{t:TypeId}{u:Value}(h:w.heap[b]?=some (.cells a t (0,0))):(w.setCell ⟨b,i,none⟩ u).heap[b]?=some (.cells (a.setIfInBounds i u) t (0,0)):=by simp[World.setCell,Array.getElem?_modify,h]
def jY(w:World)(R i:Nat)(v:Value):w.grownBy (w.setCell ⟨R,i,none⟩ v) (some R):=
 ⟨rfl,rfl,rfl,by rw[O6];exact O9 _,λk _ a=>Pd _ _ _ _ (λe=>a (by rw[e]))⟩
def kP(w:World)(row:Option Nat):w.grownBy w row:=World.grownBy.refl w row
def mW(S:Nat->Prop)(a:Nat)(sc:Sc)(left n:Nat)(w:World)(e:Ending)(w':World):Prop:=∃v:Nat,v<n/\e=.returned (.int .i64 (v:Int))/\kr S w' a sc left/\w.grownBy w' (some a)
def mX(S)(a:Nat)(sc)(left n:Nat)(w)(h:kr S w a sc left)(hn:0<n)(G:n<=1000):Calls prog 86 #[.pointer a,n] w (mW S a sc left n w):=by
 obtain⟨m,I,p,hb,s,hy⟩:=h.kt;obtain⟨A,c,J,rfl,t,K,L,hr⟩:=id hy;have M:=jN hb 6;have N:=jS hb 6;have H:=h;have i:=hy;have u:=O0 hb;have v:=s;cases p with
 |nil=>
  go_enter func86,ntmps86
  go_wp2;go_ret;exact⟨0,hn,rfl,H,kP _ _⟩
 |cons x r=>
  obtain⟨b,o,q,rfl,O,y,z⟩:=i.kt pX.ok 0 x rfl;have hx:w.cell? ⟨b,o,none⟩=some (.int .u8 (x.toNat:Int)):=by have:=z 0 (.int .u8 (x.toNat:Int)) (by rw[y];rfl);simpa using this
  have d:=i.tail pX.ok;have j:=d;have P:x.toNat<256:=UInt8.toNat_lt x;have Q:r.length+1<=c:=(by simpa using t);have B:x.toNat % n<n:=Rz _ hn;have C:∀f c2,jT pX S w (.slice f r.length c2) r->mW S a sc left n w (.returned (.int .i64 ((x.toNat:Int) % (n:Int)))) (w.setCell ⟨a,6,none⟩ (.slice f r.length c2)):=λf c2 D=>by have hg:=jY w a 6 (.slice f r.length c2);have k:∀b,S b->(w.setCell ⟨a,6,none⟩ (.slice f r.length c2)).heap[b]?=w.heap[b]?:=λb hS=>hg.B b (H.kX b hS).2 (λe=>(H.kX b hS).1 (by injection e));exact⟨x.toNat % n,B,by rw[Int.natCast_emod],⟨⟨m,.slice f r.length c2,r,jO u.o,v.jP pC.ok k,D.jP pX.ok k⟩,λb hS=>⟨(H.kX b hS).1,by rw[O6];exact(H.kX b hS).2⟩⟩,hg⟩
  have l:=C;by_cases hc:c=1
  .have d:=j;rw[PJ hc]at d;have g:=d;subst hc;obtain rfl:r=[]:=PT SE;have E:jT pX S w (.slice (some ⟨b,o,none⟩) 0 0) []:=g;have F:=E
   go_enter func86,ntmps86
   go_wp2;go_ret;exact l _ _ F
  have d:=j;rw[Pn hc]at d;have g:=d
  go_enter func86,ntmps86
  go_wp2;go_ret;exact l _ _ g
def kr.cells{S w}{a:Nat}{sc}{left:Nat}(h:kr S w a sc left):w.cell? a=some (.int .i64 sc.ints)/\w.cell? ⟨a,1,none⟩=some (.int .i64 sc.kC)/\w.cell? ⟨a,2,none⟩=some (.int .i64 sc.km)/\w.cell? ⟨a,3,none⟩=some (.int .i64 sc.own)/\w.cell? ⟨a,5,none⟩=some (.int .i64 sc.params)/\w.cell? ⟨a,7,none⟩=some (.int .i64 left):=by obtain⟨b,c,d,hb,_⟩:=h.kt;exact⟨jN hb 0,jN hb 1,jN hb 2,jN hb 3,jN hb 5,jN hb 7⟩
def jR{a b c:World}{row:Option Nat}(h:a.grownBy b row)(k:b.grownBy c row):a.grownBy c row:=
 ⟨k.os.T h.os,k.tape.T h.tape,k.output.T h.output,Pj h.size k.size,λq d e=>(k.B q (O1 d h.size) e).T (h.B q d e)⟩
def kg{a b:World}(h:a.grownBy b none)(row:Option Nat):a.grownBy b row:=⟨h.os,h.tape,h.output,h.size,λk c _=>h.B k c SG⟩
def kn{w:World}{b:Nat}{a v1 v2 c:Value}{t:TypeId}(h:w.heap[b]?=some (.cells #[a,v1,v2,c] t)):
  (w.cell? b=some a/\w.cell? ⟨b,1,none⟩=some v1/\w.cell? ⟨b,2,none⟩=some v2/\w.cell? ⟨b,3,none⟩=some c)/\(w.frozen? ⟨b,0,none⟩=false/\w.frozen? ⟨b,1,none⟩=false/\w.frozen? ⟨b,2,none⟩=false/\w.frozen? ⟨b,3,none⟩=false):=
 ⟨⟨jN h 0,jN h 1,jN h 2,jN h 3⟩,⟨jS h 0,jS h 1,jS h 2,jS h 3⟩⟩
def New(w a:World):Nat->Prop:=λb=>w<b/\b<a
structure oX(S:Nat->Prop)(mb:Nat)(sc:Sc)(left:Nat)(T:TypeId)(cs:Array Value)(w wx:World):Prop where
 hz:wx.heap[w.heap.size]?=some (.cells cs T (0,0))
 hm:kr S wx mb sc left
 hg:w.grownBy wx (some mb)
 xp:mb<w
 hS:∀b,S b->b<w
def oX.lt{S}{b:Nat}{sc}{left:Nat}{T c w a}(h:oX S b sc left T c w a):w.heap.size<a:=(O3.1 h.hz).1
def oX.call{S}{a:Nat}{sc}{left left':Nat}{T c w d b}(h:oX S a sc left T c w d)(hm:kr S b a sc left')(hg:d.grownBy b (some a)):oX S a sc left' T c w b:=
 ⟨(hg.B w h.lt (λe=>by injection e with e;have:=h.xp;omega)).T h.hz,hm,jR h.hg hg,h.xp,h.hS⟩
def oX.grow{S}{a:Nat}{sc}{left:Nat}{T b w c d}(h:oX S a sc left T b w c)(hg:c.grownBy d none):oX S a sc left T b w d:=
 h.call (h.hm.jP hg) (kg hg _)
def oX.alloc{S}{b:Nat}{sc}{left:Nat}{T c w a}(h:oX S b sc left T c w a)(o):oX S b sc left T c w (a.alloc o):=h.grow (O7 a o none)
def oX.drew{S}{b:Nat}{sc}{left:Nat}{T c w a}(h:oX S b sc left T c w a):oX S b sc left T c w a.drew:=h.grow (jV (Below.refl a a).drew)
def kM(b o a:Nat):(⟨b,o,none⟩:Addr).add a=⟨b,o+a,none⟩:=by
 unfold Addr.add;split
 rename_i h;subst h;rfl
 rfl
def jT.cells{i:Type}{R:Rel i}{k:Nat}(ok:kF R k){S w A}{n c:Nat}{xs:List i}(h:jT R S w (.slice (some A) n c) xs):
  ∃a:List (List Value),xs.length=n/\n<=c/\a.flatten.length=n*k/\kJ (R S w) a xs/\(∀d u,a.flatten[d]?=some u->w.cell? (A.add d)=some u)/\(∀u∈a.flatten,u.oneCell'=true):=by
 obtain⟨q,s,a,e,j,t,l,f⟩:=h;injection e with m p e3;subst m p e3;refine⟨a,rfl,j,kJ.flat (λr x h=>ok.len h) f,f,λd u g=>?_,kJ.one (λr x h=>ok.one h) f⟩;obtain⟨b,o,e,_,hc⟩:=l (by intro e;rw[e]at g;simp at g);injection e with e;subst e;rw[kM];exact hc d u g
def Good(a z:Nat)(w w':World):Prop:=w.heap.size<=w'/\∀b,b<w.heap.size->b≠a->b≠z->w'.heap[b]?=w.heap[b]?
def Good.kN{a z:Nat}{w w'}(h:w.grownBy w' (some a)):Good a z w w':=⟨h.size,λb hb c _=>h.B b hb (λe=>c (by injection e))⟩
def Good.oL{a z:Nat}{w w'}(h:w.grownBy w' none):Good a z w w':=⟨h.size,λb hb _ _=>h.B b hb SG⟩
def Good.alloc{a z:Nat}(w o):Good a z w (w.alloc o):=.oL (O7 w o none)
def Good.T{d z:Nat}{a b c}(h:Good d z a b)(k:Good d z b c):Good d z a c:=⟨Pj h.1 k.1,λq e f g=>(k.2 q (O1 e h.1) f g).T (h.2 q e f g)⟩
def tW(S:Nat->Prop)(a:Nat)(sc:Sc)(left:Nat)(T:TypeId)(w0 w:World):Prop:=∃u0 u1 u2 u3 b c,oX S a sc left T #[u0,u1,u2,u3,b,c] w0 w
def tW.grow{S}{a:Nat}{sc}{left:Nat}{T w0 w w'}(h:tW S a sc left T w0 w)(hg:w.grownBy w' none):tW S a sc left T w0 w':=by obtain⟨u0,u1,u2,u3,b,c,h⟩:=h;exact⟨u0,u1,u2,u3,b,c,h.grow hg⟩
def tW.call{S}{a:Nat}{sc}{left left':Nat}{T w0 w w'}(h:tW S a sc left T w0 w)(hm:kr S w' a sc left')(hg:w.grownBy w' (some a)):tW S a sc left' T w0 w':=by obtain⟨u0,u1,u2,u3,b,c,h⟩:=h;exact⟨u0,u1,u2,u3,b,c,h.call hm hg⟩
def tW.m{S}{a:Nat}{sc}{left:Nat}{T w0 w}(h:tW S a sc left T w0 w):kr S w a sc left/\a<w0/\w0.heap.size<w/\(∀b,S b->b<w0/\b≠a):=by obtain⟨u0,u1,u2,u3,c,d,h⟩:=h;exact⟨h.hm,h.xp,h.lt,λb hb=>⟨h.hS b hb,(h.hm.kX b hb).1⟩⟩
def kr.ar{S w}{a:Nat}{sc}{left:Nat}(h:kr S w a sc left):∃A c,w.cell? ⟨a,4,none⟩=some (.slice A sc.nr.length c)/\jT pC S w (.slice A sc.nr.length c) sc.nr:=by obtain⟨d,e,f,hb,b,hy⟩:=h.kt;obtain⟨A,c,g,rfl,i⟩:=id b;exact⟨A,c,jN hb 4,b⟩
structure kT.Cd where
 params:Nat
 bytes:List UInt8
instance:Inhabited Cd:=⟨⟨0,[]⟩⟩
def kT.Eh(sc:Sc)(b:List Nat)(k:Nat)(h:Hd):Prop:=∃a,b[k]?=some a/\h.name=nm 104 k/\h.params=pW 112 a/\(∀s∈h.body,mf {sc with params:=a} Ds s)/\ku Ds h.body<=12
def kT.sq(sc:Sc)(a:List Nat)(hs:List Hd):Prop:=∀k h,hs[k]?=some h->Eh sc a k h
def pD:Rel Cd:=λS w r c=>∃v,r=[.int .u8 (c.params:Int),v]/\jT pX S w v c.bytes
def pD.ok:kF pD 2:=
 ⟨SE,λ⟨v,h,_⟩=>by rw[h];rfl,λ⟨v,h,a⟩ u hu=>by rw[h]at hu;simp at hu;rcases hu with rfl|rfl;rfl;exact a.one,λ⟨v,h,a⟩ b=>⟨v,h,a.M pX.ok b⟩,λ⟨v,h,a⟩ c=>⟨v,h,a.jP pX.ok c⟩⟩
def kJ.take{a:Type}{R:List Value->a->Prop}:∀{b:List (List Value)} {xs:List a} (h:Nat),kJ R b xs->kJ R (b.take h) (xs.take h)
 |[],[],h,_=>by simp;trivial
 |_::_,_::_,0,_=>trivial
 |_::_,_::_,h+1,⟨h1,h2⟩=>⟨h1,kJ.take h h2⟩
 |[],_::_,_,h=>h.elim
 |_::_,[],_,h=>h.elim
def jT.take{d:Type}{R:Rel d}{S w A}{n c:Nat}{xs:List d}(h:jT R S w (.slice A n c) xs)(m:Nat)(hm:m<=n):jT R S w (.slice A m c) (xs.take m):=by
 obtain⟨r,s,a,e,t,g,i,j⟩:=h;injection e with k l e3;subst k l e3;refine⟨A,c,a.take m,by rw[Pw,Rj hm],by rw[Pw,Rj hm];omega,g,λp=>?_,kJ.take m j⟩;have f:a.flatten=(a.take m).flatten++(a.drop m).flatten:=by rw[<-Rh,QD]
 obtain⟨b,o,e,hb,hc⟩:=i (by rw[f];intro e;exact p (List.append_eq_nil_iff.1 e).1);refine⟨b,o,e,hb,λq u hu=>hc q u ?_⟩;rw[f,PW (Pm.1 hu).1];exact hu
def pD.kt{S w A}{n c i:Nat}{l x}(h:jT pD S w (.slice A n c) l)(f:l[i]?=some x):
  ∃b o a d,A=some ⟨b,o,none⟩/\S b/\w.cell? ⟨b,o+i*2,none⟩=some (.int .u8 (x.params:Int))/\w.cell? ⟨b,o+i*2+1,none⟩=some (.slice a x.bytes.length d)/\jT pX S w (.slice a x.bytes.length d) x.bytes:=by
 obtain⟨b,o,r,e,hb,⟨v,hr,hv⟩,hc⟩:=h.kt pD.ok i x f;obtain⟨a,d,g,rfl,_⟩:=id hv;subst hr;exact⟨b,o,a,d,e,hb,by simpa using hc 0 _ rfl,hc 1 _ rfl,hv⟩
def NG(w0 w w':World):Prop:=w.heap.size<=w'/\∀b,New w0 w b->w'.heap[b]?=w.heap[b]?
def NG.kN{w0 w w' row}(h:w.grownBy w' row)(hr:∀z,row=some z->z<=w0.heap.size):NG w0 w w':=⟨h.size,λb hb=>h.B b hb.2 λe=>SD (hr b e.symm) hb.1⟩
def NG.alloc(w0 w o):NG w0 w (w.alloc o):=.kN (O7 w o none) (λz e=>by cases e)
def pK(S:Nat->Prop)(a:Nat)(sc:Sc)(V:Value)(hs:List Hd)(d:Nat)(e:Int)(A:Option Addr)(n c:Nat)(w x:World):Prop:=
 w.grownBy x (some a)/\kf (lF .i64) 121 3 (λb=>w<=b/\b≠a) x w V hs/\x.heap[d]?=some (.cells #[.int .u8 e,.slice A n c] 94)/\d≠a/\some d≠V.ownBlock/\(∃p left,kr S x a {sc with params:=p} left)
def pK.call{S}{a:Nat}{sc V hs}{b:Nat}{f:Int}{A}{n c:Nat}{w x d}(h:pK S a sc V hs b f A n c w x)(r:a<w){p left:Nat}(hm:kr S d a {sc with params:=p} left)(hg:x.grownBy d (some a)):pK S a sc V hs b f A n c w d:=by
 obtain⟨k,g,i,j,l,_⟩:=h;have m:=g.ge;exact⟨jR k hg,g.grown (lF.ok _) hg (λz e=>by injection e with e;subst e;exact⟨λh=>h.2 rfl,λq=>SC (m a q.symm)⟩),
  (hg.B b (O3.1 i).1 (λe=>j (by injection e))).T i,j,l,p,left,hm⟩
def pK.grow{S}{a:Nat}{sc V hs}{b:Nat}{d:Int}{A}{n c:Nat}{w x e}(h:pK S a sc V hs b d A n c w x)(f:a<w)(hg:x.grownBy e none):pK S a sc V hs b d A n c w e:=by obtain⟨p,left,hm⟩:=h.2.2.2.2.2;exact h.call f (hm.jP hg) (kg hg _)
structure kT.Pt where
 ints:Nat
 kC:Nat
 hs:List Cd
 ss:List Cd
instance:Inhabited Pt:=⟨⟨0,0,[],[]⟩⟩
def kT.zK(p:Pt)(a:Nat):List Nat:=if a<p.hs.length then [(p.hs.getD a default).params % 3]else if a=0 then [1]else if a<p.ss.length then [(p.ss.getD a default).params % 3]else []
def kT.ra(p:Pt):Nat->List Nat
 |0=>[]
 |k+1=>ra p k++zK p k
def tv:Rel Pt:=λS w r p=>∃v1 v2,r=[.int .u8 (p.ints:Int),.int .u8 (p.kC:Int),v1,v2]/\jT pD S w v1 p.hs/\jT pD S w v2 p.ss
def tv.ok:kF tv 4:=
 ⟨SE,λ⟨v1,v2,h,_⟩=>by rw[h];rfl,λ⟨v1,v2,h,a,b⟩ u hu=>by rw[h]at hu;simp at hu;rcases hu with rfl|rfl|rfl|rfl;rfl;rfl;exact a.one;exact b.one,λ⟨v1,v2,h,a,b⟩ c=>⟨v1,v2,h,a.M pD.ok c,b.M pD.ok c⟩,λ⟨v1,v2,h,a,b⟩ d=>⟨v1,v2,h,a.jP pD.ok d,b.jP pD.ok d⟩⟩
def kT.qG(b:Nat)(a:List Fg):Prop:=a.length=b/\∀k x,a[k]?=some x->x.name=nm 102 k
def kT.mU(n m:Nat)(a:List Lk):Prop:=(∀x∈a,∃k,k<m/\k<n*n/\x.a=kx (k/n)/\x.b=kx (k % n)/\1<=x.sD/\x.sD<=3)/\(a.map λx=>(x.a,x.b)).Nodup
def kT.mB(ints a:Nat):List Va:=(List.range ints).map (λk=>⟨nm 120 k,1,k⟩)++[⟨nm 98 0,2,0⟩]++(List.range a).map (λk=>⟨nm 116 k,3,0⟩)
def kT.pY(a ints b:Nat)(c:List (List Nat))(i:Nat):Sc:=⟨ints,b,a,0,c,i⟩
def kT.LR(sc:Sc)(a:List Nat)(hs:List Hd):Prop:=1<=hs.length/\hs.length<=a.length/\sq sc a hs
structure kT.xv(nf:Nat)(nr:List (List Nat))(i:Nat)(c:Co):Prop where
 ex:∃ints kC al,1<=ints/\ints<=3/\kC<=1/\c.name=kx i/\c.vars=mB ints kC/\1<=c.kS.length/\c.kS.length<=2/\nr[i]?=some al/\(∀hs∈c.kS,LR (pY nf ints kC nr i) al hs)/\(∃hs∈c.kS,hs.length=al.length)
structure kT.sR(f:Fl):Prop where
 ex:∃nf nr,f.name=[102,108,101,101,116,49]/\nf<=2/\qG nf f.km/\1<=nr.length/\nr.length<=3/\(∀l∈nr,1<=l.length/\l.length<=3/\∀a∈l,a<=2)/\mU nr.length (nr.length*nr.length) f.lB/\f.jZ.length=nr.length/\∀i c,f.jZ[i]?=some c->xv nf nr i c
def kT.mU.skip{n m:Nat}{a}(h:mU n m a):mU n (m+1) a:=⟨λx hx=>by obtain⟨k,b,h⟩:=h.1 x hx;exact⟨k,SE,h⟩,h.2⟩
def JI(B n:Nat):Nat->Prop:=λb=>B<b/\b<n
def tv.kt{S w A}{n c i:Nat}{l x}(h:jT tv S w (.slice A n c) l)(m:l[i]?=some x):
  ∃b o a f c1 d g c2,A=some ⟨b,o,none⟩/\S b/\w.cell? ⟨b,o+i*4,none⟩=some (.int .u8 (x.ints:Int))/\w.cell? ⟨b,o+i*4+1,none⟩=some (.int .u8 (x.kC:Int))/\w.cell? ⟨b,o+i*4+2,none⟩=some (.slice a f c1)/\w.cell? ⟨b,o+i*4+3,none⟩=some (.slice d g c2)/\
   jT pD S w (.slice a f c1) x.hs/\jT pD S w (.slice d g c2) x.ss:=by
 obtain⟨b,o,r,e,hb,⟨v1,v2,hr,j,k⟩,hc⟩:=h.kt tv.ok i x m;obtain⟨a,c1,_,rfl,_⟩:=id j;obtain⟨d,c2,_,rfl,_⟩:=id k;subst hr;exact⟨b,o,a,_,c1,d,_,c2,e,hb,by simpa using hc 0 _ rfl,hc 1 _ rfl,hc 2 _ rfl,hc 3 _ rfl,j,k⟩
def kr.M{S a w}{c:Nat}{sc}{left:Nat}(h:kr S w c sc left)(hS:∀b,S b->a b)(hf:∀b,a b->b≠c/\b<w):kr a w c sc left:=by obtain⟨d,e,f,hb,g,hy⟩:=h.kt;exact⟨⟨d,e,f,hb,g.M pC.ok hS,hy.M pX.ok hS⟩,hf⟩
def jT.len{a:Type}{R:Rel a}{S w A}{n c:Nat}{xs:List a}(h:jT R S w (.slice A n c) xs):xs.length=n/\n<=c:=by obtain⟨g,i,j,e,b,_⟩:=h;injection e with _ d f;subst d f;exact⟨rfl,b⟩
structure Kp(mb cb:Nat)(w w':World):Prop where
 os:w'.os=w.os
 tape:w'.tape=w.tape
 output:w'.output=w.output
 size:w.heap.size<=w'
 B:∀b,b<w.heap.size->b≠mb->b≠cb->w'.heap[b]?=w.heap[b]?
def Kp.refl(a cb:Nat)(w):Kp a cb w w:=⟨rfl,rfl,rfl,O9 _,λ_ _ _ _=>rfl⟩
def Kp.T{d cb:Nat}{a b c}(h:Kp d cb a b)(k:Kp d cb b c):Kp d cb a c:=⟨k.os.T h.os,k.tape.T h.tape,k.output.T h.output,Pj h.size k.size,λq e f g=>(k.B q (O1 e h.size) f g).T (h.B q e f g)⟩
def Kp.kN{a cb:Nat}{w w'}(h:w.grownBy w' (some a)):Kp a cb w w':=⟨h.os,h.tape,h.output,h.size,λb hb c _=>h.B b hb (λe=>c (by injection e))⟩
abbrev lW:List UInt8:=[102,108,101,101,116,49]
structure LA(S:Nat->Prop)(B z:Nat)(w0 wx:World)(n:Nat)(parts:List Pt)(Af:Option Addr)(nf cf:Nat)(Ak:Option Addr)(nk ck:Nat)(tU:List Fg)(Ie:List Lk)(nr:List (List Nat))(A4:Option Addr)(c4:Nat)(Oa:Option Addr)(c10 b8 o8:Nat):Prop where
 hz:wx.heap[z]?=some (.cells #[Em,Nl,Nl,Nl] 37)
 hF:wx.heap[B]?=some (.cells #[tx lW,.slice Af nf cf,.slice Ak nk ck,Nl] 37)
 zB:w0<=z/\z<B
 qi:Below w0 w0 wx
 Ib:jT tv S wx (.slice A4 n c4) parts
 hS:∀b,S b->b<B/\b≠z
 n1:1<=n
 n3:n<=3
 LH:jT lM (JI B wx) wx (.slice Af nf cf) tU
 LI:qG nf tU
 f2:nf<=2
 MM:jT mY (JI B wx) wx (.slice Ak nk ck) Ie
 MN:mU n (n*n) Ie
 NX:jT pC (JI B wx) wx (.slice Oa n c10) nr
 MO:nr=parts.map λp=>ra p 3
 h8:∀j,j<3->wx.cell? ⟨b8,o8+j,none⟩=some (tx (kx j))
 b8:B<b8/\b8<wx
def LA.len{S}{B z:Nat}{w0 a}{n:Nat}{b d}{e f:Nat}{g}{nk i:Nat}{j k c l}{c4:Nat}{m}{p q r:Nat}(h:LA S B z w0 a n b d e f g nk i j k c l c4 m p q r):b.length=n/\c.length=n/\B<a:=
 ⟨h.Ib.len.1,h.NX.len.1,(O3.1 h.hF).1⟩
structure Mv(S:Nat->Prop)(B z:Nat)(w0 wx:World)(n:Nat)(parts:List Pt)(Af:Option Addr)(nf cf:Nat)(Ak:Option Addr)(nk ck:Nat)(tU:List Fg)(Ie:List Lk)(A4:Option Addr)(c4 b8 o8:Nat):Prop where
 hz:wx.heap[z]?=some (.cells #[Em,Nl,Nl,Nl] 37)
 hF:wx.heap[B]?=some (.cells #[tx lW,.slice Af nf cf,.slice Ak nk ck,Nl] 37)
 zB:w0<=z/\z<B
 qi:Below w0 w0 wx
 Ib:jT tv S wx (.slice A4 n c4) parts
 hS:∀b,S b->b<B/\b≠z
 n1:1<=n
 n3:n<=3
 LH:jT lM (JI B wx) wx (.slice Af nf cf) tU
 LI:qG nf tU
 f2:nf<=2
 MM:jT mY (JI B wx) wx (.slice Ak nk ck) Ie
 MN:mU n (n*n) Ie
 h8:∀j,j<3->wx.cell? ⟨b8,o8+j,none⟩=some (tx (kx j))
 b8:B<b8/\b8<wx
structure NY(S:Nat->Prop)(B bx cb mb:Nat)(wx wy:World)(k:Nat)(pi pt:Nat)(A1:Option Addr)(n1 c1:Nat)(A2:Option Addr)(n2 c2:Nat)(Af:Option Addr)(nf cf:Nat)(Ak:Option Addr)(nk ck:Nat)(A:Option Addr)(cp:Nat)(cs:List Co)(Av:Option Addr)(nv cv ni nt:Nat)(nr:List (List Nat))(Aq:Option Addr)(nq cq:Nat)(lq ss:List Cd)(al:List Nat):Prop where
 LB:wy.heap[bx]?=some (.cells #[.int .u8 (pi:Int),.int .u8 (pt:Int),.slice A1 n1 c1,.slice A2 n2 c2] 77)
 Ob:wy.heap[cb]?=some (.cells #[tx (kx k),.slice Av nv cv,Nl] 88)
 hF:wy.heap[B]?=some (.cells #[tx lW,.slice Af nf cf,.slice Ak nk ck,.slice A k cp] 37)
 ord:B<wx/\wx<=bx/\bx<cb/\cb<mb/\mb<wy
 hg:wx.grownBy wy (some B)
 ho:kf (lv .i64) 88 3 (λb=>wx<=b/\b<bx) wy wx (.slice A k cp) cs
 Oc:cs.length=k
 hk:k<3
 MP:∀z,(Value.slice A k cp).ownBlock=some z->z<bx
 MQ:kr S wy mb (pY nf ni nt nr k) 0
 lD:nW (pY nf ni nt nr k)
 MR:nr[k]?=some al
 hq:jT pD S wy (.slice Aq nq cq) lq
 q1:1<=nq
 q2:nq<=al.length
 Mw:jT pD S wy (.slice A2 n2 c2) ss
 s2:min n2 3<=al.length
 hm:nq=al.length\/min n2 3=al.length
 hv:jT (nz .i64) (λb=>cb<b/\b<wy/\b≠mb) wy (.slice Av nv cv) (mB ni nt)
 Nb:∀b,S b->b≠cb
def kz{w:World}{b:Nat}{a v1 v2:Value}{t:TypeId}(h:w.heap[b]?=some (.cells #[a,v1,v2] t)):
  (w.cell? b=some a/\w.cell? ⟨b,1,none⟩=some v1/\w.cell? ⟨b,2,none⟩=some v2)/\(w.frozen? ⟨b,0,none⟩=false/\w.frozen? ⟨b,1,none⟩=false/\w.frozen? ⟨b,2,none⟩=false):=
 ⟨⟨jN h 0,jN h 1,jN h 2⟩,⟨jS h 0,jS h 1,jS h 2⟩⟩
structure Mx(S:Nat->Prop)(B z bp:Nat)(w0 wx:World)(n:Nat)(parts:List Pt)(fb:Nat)(Al:Option Addr)(nl cl:Nat)(MV:List UInt8)(Ac:Option Addr)(nc cc:Nat)(Af:Option Addr)(nf cf:Nat)(tU:List Fg)(A4:Option Addr)(c4 b8 o8:Nat):Prop where
 hz:wx.heap[z]?=some (.cells #[Em,Nl,Nl,Nl] 37)
 hF:wx.heap[B]?=some (.cells #[tx lW,.slice Af nf cf,Nl,Nl] 37)
 LC:wx.heap[bp]?=some (.cells #[.int .u8 (fb:Int),.slice Al nl cl,.slice Ac nc cc] 25)
 My:bp<z
 zB:w0<=z/\z<B
 qi:Below w0 w0 wx
 Ib:jT tv S wx (.slice A4 n c4) parts
 Mz:jT pX S wx (.slice Al nl cl) MV
 hS:∀b,S b->b<B/\b≠z
 n1:1<=n
 n3:n<=3
 LH:jT lM (JI B wx) wx (.slice Af nf cf) tU
 LI:qG nf tU
 f2:nf<=2
 h8:∀j,j<3->wx.cell? ⟨b8,o8+j,none⟩=some (tx (kx j))
 b8:B<b8/\b8<wx
structure B6(S:Nat->Prop)(B z bp:Nat)(w0 wx:World)(n:Nat)(parts:List Pt)(fb:Nat)(Al:Option Addr)(nl cl:Nat)(MV:List UInt8)(Ac:Option Addr)(nc cc:Nat)(A4:Option Addr)(c4:Nat):Prop where
 hz:wx.heap[z]?=some (.cells #[Em,Nl,Nl,Nl] 37)
 hF:wx.heap[B]?=some (.cells #[tx lW,Nl,Nl,Nl] 37)
 LC:wx.heap[bp]?=some (.cells #[.int .u8 (fb:Int),.slice Al nl cl,.slice Ac nc cc] 25)
 My:bp<z
 zB:w0<=z/\z<B
 qi:Below w0 w0 wx
 Ib:jT tv S wx (.slice A4 n c4) parts
 Mz:jT pX S wx (.slice Al nl cl) MV
 hS:∀b,S b->b<B/\b≠z
 n1:1<=n
 n3:n<=3
def kT.B0:Nat->Ex->Prop
 |0,_=>False
 |d+1,e=>1<=e.op/\e.op<=255/\e.args.length<=2/\∀a∈e.args,B0 d a
def kT.tX:Nat->St->Prop
 |0,_=>False
 |d+1,s=>1<=s.kind/\s.kind<=255/\s.kA.length<=3/\s.th.length<=12/\s.el.length<=12/\(∀e∈s.kA,B0 De e)/\(∀x∈s.th,tX d x)/\∀x∈s.el,tX d x
def kT.kY.ops{sc}:∀{d:Nat} {e:Ex},kY sc d e->B0 d e
 |0,_,h=>h.elim
 |d+1,e,h=>by
  rcases h with⟨f,_,_,_,c⟩|⟨f,_,_,c⟩|⟨f,_,_,c⟩|⟨f,_,_,_,a,c,g⟩|⟨f,_,_,_,c⟩|⟨f,_,_,a,c,g⟩|⟨f,_,_,a,b,c,g,i⟩
  all_goals
   refine⟨SE,SE,by rw[c];simp,λx hx=>?_⟩;rw[c]at hx;simp at hx
  rw[hx];exact kY.ops g;rw[hx];exact kY.ops g;rcases hx with rfl|rfl;exact kY.ops g;exact kY.ops i
def kT.mC.ops{sc}:∀{d:Nat} {e:Ex},mC sc d e->B0 d e
 |0,_,h=>h.elim
 |d+1,e,h=>by
  rcases h with⟨g,_,_,c⟩|⟨g,_,_,c⟩|⟨g,_,_,_,a,c,f⟩|⟨g,_,_,a,c,f⟩|⟨g,_,_,a,b,c,f,i⟩|⟨g,_,_,a,b,c,f,i⟩
  all_goals
   refine⟨SE,SE,by rw[c];simp,λx hx=>?_⟩;rw[c]at hx;simp at hx
  rw[hx];exact kY.ops f;rw[hx];exact mC.ops f;rcases hx with rfl|rfl;exact mC.ops f;exact mC.ops i;rcases hx with rfl|rfl;exact kY.ops f;exact kY.ops i
def kT.pw{d:Nat}:∀{l:List St} {n:Nat},ku (d+1) l<=n->l.length<=n/\∀s∈l,ku d s.th<=n/\ku d s.el<=n
 |[],n,_=>⟨by simp,λs hs=>by simp at hs⟩
 |s::l,n,h=>by have b:1+ku d s.th+ku d s.el+ku (d+1) l<=n:=(by simpa[ku]using h);obtain⟨c,a⟩:=pw (d:=d) (l:=l) (n:=n-1) SE;refine⟨SK,λx hx=>?_⟩;rcases List.mem_cons.1 hx with rfl|hx;omega;have:=a x hx;omega
def kT.vU{d:Nat}{l}{n:Nat}{sc}(h:ku d l<=n)(hs:∀x∈l,mf sc d x):l.length<=n:=by
 cases d with
 |zero=>
  cases l with
  |nil=>simp
  |cons x l=>exact(hs x SG).elim
 |succ d=>exact(pw h).1
def kT.mf.ops{sc}:∀{d:Nat} {s:St},mf sc d s->(ku (d-1) s.th<=12/\ku (d-1) s.el<=12)->sc.nr.length<=3->(∀l∈sc.nr,∀a∈l,a<=2)->tX d s
 |0,_,h,_,_,_=>h.elim
 |d+1,s,h,hc,h3,h2=>by
  have y:(∀x∈s.th,mf sc d x)->s.th.length<=12/\∀x∈s.th,tX d x:=λg=>by
   refine⟨vU hc.1 g,λx hx=>mf.ops (g x hx) ?_ h3 h2⟩;cases d with
   |zero=>exact(g x hx).elim
   |succ d=>exact(pw hc.1).2 x hx
  have r:(∀x∈s.el,mf sc d x)->s.el.length<=12/\∀x∈s.el,tX d x:=λg=>by
   refine⟨vU hc.2 g,λx hx=>mf.ops (g x hx) ?_ h3 h2⟩;cases d with
   |zero=>exact(g x hx).elim
   |succ d=>exact(pw hc.2).2 x hx
  have n:s.th=[]->s.th.length<=12/\∀x∈s.th,tX d x:=λe=>(by rw[e];simp);have p:s.el=[]->s.el.length<=12/\∀x∈s.el,tX d x:=λe=>(by rw[e];simp);have m:1<=s.kind->s.kind<=255->s.kA.length<=3->(∀e∈s.kA,B0 De e)->(s.th.length<=12/\∀x∈s.th,tX d x)->(s.el.length<=12/\∀x∈s.el,tX d x)->tX (d+1) s:=λa b c e t f=>⟨a,b,c,t.1,f.1,e,t.2,f.2⟩
  rcases h with⟨k,_,g,he,e,hx,h⟩|⟨k,_,_,_,g,he,a,b,hx,i,hb⟩|⟨k,_,_,_,g,he,a,hx,i⟩|⟨k,_,_,⟨a,hx,i⟩,g,he⟩|⟨k,_,_,he,⟨a,hx,i⟩,g⟩|⟨k,g,he,⟨t,l,q,a,u,v,_,_,w⟩,hx⟩|⟨k,_,g,he,⟨l,q,a,u,v,_,w⟩,hx⟩|⟨k,_,_,g,⟨a,b,hx,i,hb⟩,he⟩|⟨k,_,g,_,⟨a,hx,i⟩,he⟩|⟨k,_,_,g,he,hx⟩
  exact m SE SE (by rw[hx];simp) (λj hy=>by rw[hx]at hy;simp at hy;subst hy;rcases h with⟨_,_,_,h⟩|⟨_,h⟩;exact h.ops;exact h.ops) (n g) (p he);exact m SE SE (by rw[hx];simp) (λj hy=>by rw[hx]at hy;simp at hy;rcases hy with rfl|rfl;exact i.ops;exact hb.ops) (n g) (p he);exact m SE SE (by rw[hx];simp) (λj hy=>by rw[hx]at hy;simp at hy;subst hy;exact i.ops) (n g) (p he);exact m SE SE (by rw[hx];simp) (λj hy=>by rw[hx]at hy;simp at hy;subst hy;exact i.ops) (y g) (r he);exact m SE SE (by rw[hx];simp) (λj hy=>by rw[hx]at hy;simp at hy;subst hy;exact i.ops) (y g) (p he);exact m SE SE (by rw[w];have:=h2 l (List.mem_of_getElem? u) a (List.mem_of_getElem? v);omega) (λj hy=>(hx j hy).ops) (n g) (p he);exact m SE SE (by rw[w];have:=h2 l (List.mem_of_getElem? u) a (List.mem_of_getElem? v);omega) (λj hy=>(hx j hy).ops) (n g) (p he);exact m SE SE (by rw[hx];simp) (λj hy=>by rw[hx]at hy;simp at hy;rcases hy with rfl|rfl;exact i.ops;exact hb.ops) (n g) (r he);exact m SE SE (by rw[hx];simp) (λj hy=>by rw[hx]at hy;simp at hy;subst hy;exact i.ops) (n g) (r he);exact m SE SE (by rw[hx];simp) (λj hy=>by rw[hx]at hy;simp at hy) (n g) (p he)
def Nw(w0 w:World):Nat->Prop:=λb=>w0<=b/\b<w
def NK(w0 w w':World):Prop:=w.heap.size<=w'/\∀b,Nw w0 w b->w'.heap[b]?=w.heap[b]?
def NK.kN{w0 w w' row}(h:w.grownBy w' row)(hr:∀z,row=some z->z<w0.heap.size):NK w0 w w':=⟨h.size,λb hb=>h.B b hb.2 λe=>SD (hr b e.symm) hb.1⟩
def NK.alloc(w0 w o):NK w0 w (w.alloc o):=.kN (O7 w o none) (λz e=>by cases e)
def NK.jQ{w0 w w'}(h:Below w.heap.size w w'):NK w0 w w':=.kN (jV h) (λz e=>by cases e)
structure mS{α:Type}(R:Rel α)(T k:Nat)(P:Nat->Prop)(w3 wr:World)(o:Nat)(C:Array Value)(TO:TypeId)(V:Value)(xs:List α)(x:World):Prop where
 g:w3.grownBy x (some o)
 c:x.heap[o]?=some (.cells C TO (0,0))
 own:kf R T k P x w3 V xs
 s:wr.heap.size<=x
 v:∀z,V.ownBlock=some z->w3<=z/\z<wr
 lt:o<w3
 ws:w3.heap.size<=wr
 k:∀b,b<wr.heap.size->b≠o->some b≠V.ownBlock->x.heap[b]?=wr.heap[b]?
def mS.grow{a:Type}{R:Rel a}{T k:Nat}{P c wr}{o:Nat}{C d V}{xs:List a}{x f}(h:mS R T k P c wr o C d V xs x)(ok:kF R k)(hg:x.grownBy f none):mS R T k P c wr o C d V xs f:=
 have hx:o<x:=(O3.1 h.c).1
 ⟨jR h.g (kg hg _),(hg.B o hx SG).T h.c,h.own.grown ok hg (λz e=>by cases e),Pj h.s hg.size,h.v,h.lt,h.ws,λb hb g i=>(hg.B b (O1 hb h.s) SG).T (h.k b hb g i)⟩
def mS.jQ{a:Type}{R:Rel a}{T k:Nat}{P b wr}{o:Nat}{C c V}{xs:List a}{x d}(h:mS R T k P b wr o C c V xs x)(ok:kF R k)(hb:Below x x d):mS R T k P b wr o C c V xs d:=h.grow ok (jV hb)
def mS.alloc{a:Type}{R:Rel a}{T k:Nat}{P b wr}{o:Nat}{C c V}{xs:List a}{x}(h:mS R T k P b wr o C c V xs x)(ok:kF R k)(d):mS R T k P b wr o C c V xs (x.alloc d):=h.grow ok (O7 _ _ none)
def jT.form{a:Type}{R:Rel a}{S w v}{xs:List a}(h:jT R S w v xs):∃A c,v=.slice A xs.length c/\xs.length<=c:=by obtain⟨A,c,e,b,d,_⟩:=h;exact⟨A,c,b,d⟩
def uU(z:Obj)(w:World)(S:Nat->Prop):Nat->Prop:=λb=>S b/\w.heap[b]? ≠some z
def uU.jP{z w0 w w'}(hg:NK w0 w w'){a:Type}{R:Rel a}{k:Nat}(ok:kF R k){v}{xs:List a}(h:jT R (uU z w (Nw w0 w)) w v xs):jT R (uU z w' (Nw w0 w')) w' v xs:=
 (h.jP ok λb hb=>hg.2 b hb.1).M ok λb hb=>⟨⟨hb.1.1,O1 hb.1.2 hg.1⟩,by rw[hg.2 b hb.1];exact hb.2⟩
def jX{lo:Nat}{w w'}(h:Below lo w w'){z i:Nat}{u}(hz:lo<=z):Below lo w (w'.setCell ⟨z,i,none⟩ u):=
 ⟨h.os,h.tape,h.output,by rw[O6];exact h.size,λb hb=>(Pd _ _ _ _ (by show b≠z;omega)).T (h.B b hb)⟩
structure kT.In where
 op:Int
 a:Int
 b:Int
 n:Int
def xr:Rel In:=λ_ _ r x=>r=[.int .u8 x.op,.int .i64 x.a,.int .i64 x.b,.int .i64 x.n]
def xr.ok:kF xr 4:=
 ⟨SE,λh=>by rw[h];rfl,λh u hu=>by rw[h]at hu;simp at hu;rcases hu with rfl|rfl|rfl|rfl<;>rfl,λh _=>h,λh _=>h⟩
structure lJ(w3:World)(cb:Nat)(f0 f1 f2 f3 hd own vars kC km params:Value)(V:Value)(code:List In)(w:World):Prop where
 g:w3.grownBy w (some cb)
 c:w.heap[cb]?=some (.cells #[f0,f1,f2,f3,hd,own,vars,kC,km,params,V] 156)
 own:kf xr 323 4 (λ_=>False) w w3 V code
 lt:cb<w3
structure mJ(cb:Nat)(V:Value)(w:World)(V':Value)(w':World):Prop where
 size:w.heap.size<=w'
 k:∀b,b<w.heap.size->b≠cb->some b≠V.ownBlock->w'.heap[b]?=w.heap[b]? /\some b≠V'.ownBlock
def mJ.refl(cb:Nat)(V w):mJ cb V w V w:=⟨O9 _,λ_ _ _ h=>⟨rfl,h⟩⟩
def mJ.T{cb:Nat}{V V' a w w' c}(h:mJ cb V w V' w')(k:mJ cb V' w' a c):mJ cb V w a c:=
 ⟨Pj h.size k.size,λb hb hc hv=>by obtain⟨d,e⟩:=h.k b hb hc hv;obtain⟨f,g⟩:=k.k b (O1 hb h.size) hc e;exact⟨f.T d,g⟩⟩
def mJ.jQ{cb:Nat}{V w w'}(h:Below w.heap.size w w'):mJ cb V w V w':=⟨h.size,λb hb _ hv=>⟨h.B b hb,hv⟩⟩
def lJ.jQ{a}{cb:Nat}{b c d e hd own f g i params V}{j:List In}{w w'}(h:lJ a cb b c d e hd own f g i params V j w)(hb:Below w w w'):lJ a cb b c d e hd own f g i params V j w':=
 ⟨jR h.g (kg (jV hb) _),(hb.B cb (O3.1 h.c).1).T h.c,h.own.jQ xr.ok hb,h.lt⟩
structure kT.NZ(h:Hd):Prop where
 params:h.params.length<=2
 body:h.body.length<=12
 ops:∀s∈h.body,tX Ds s
structure kT.Ov(c:Co):Prop where
 vars:c.vars.length<=5
 ty:∀v∈c.vars,0<=v.ty/\v.ty<=3
 kS:c.kS.length<=2
 hs:∀l∈c.kS,l.length<=3/\∀h∈l,NZ h
structure kT.N0(f:Fl):Prop where
 km:f.km.length<=2
 lB:f.lB.length<=9
 jZ:f.jZ.length<=3
 co:∀c∈f.jZ,Ov c
def kT.qL(i t:Nat):(mB i t).length=i+1+t:=by simp[mB];omega
def kT.Eu(i t:Nat):∀v∈mB i t,1<=v.ty/\v.ty<=3:=by intro v hv;simp only[mB,List.mem_append,List.mem_map,List.mem_singleton]at hv;rcases hv with(⟨k,_,rfl⟩|rfl)|⟨k,_,rfl⟩<;>simp
def kT.GU{n:Nat}(hn:n<=3){a}(h:mU n (n*n) a):a.length<=9:=by
 have b:(a.map λx=>(x.a,x.b)).length<=((List.range (n*n)).map λk=>(kx (k/n),kx (k % n))).length:=by refine List.Nodup.length_le_of_subset h.2 ?_;intro p hp;rw[List.mem_map]at hp;obtain⟨x,hx,rfl⟩:=hp;obtain⟨k,c,_,d,hb,_⟩:=h.1 x hx;rw[List.mem_map];exact⟨k,List.mem_range.2 c,by rw[d,hb]⟩
 simp at b;have:n*n<=3*3:=Nat.mul_le_mul hn hn;omega
def kT.Eh.b{sc}(c:sc.nr.length<=3)(e:∀l∈sc.nr,∀a∈l,a<=2){b}(f:∀a∈b,a<=2){k:Nat}{h}(g:Eh sc b k h):NZ h:=by obtain⟨a,i,_,hp,hb,hc⟩:=g;have j:=f a (List.mem_of_getElem? i);refine⟨by rw[hp,ld];exact j,vU hc hb,λs hs=>?_⟩;refine(hb s hs).ops ?_ c e;exact(pw (d:=3) hc).2 s hs
def kT.sR.b{f}(h:sR f):N0 f:=by obtain⟨y,z,_,g,j,A,b,d,m,B,n⟩:=h.ex;refine⟨by rw[j.1];exact g,GU b m,SE,λc hc=>?_⟩;obtain⟨i,hi⟩:=List.getElem?_of_mem hc;obtain⟨ints,C,p,D,E,F,_,hv,G,q,r,s,_⟩:=(n i c hi).ex;have t:=d p (List.mem_of_getElem? r);refine⟨by rw[hv,qL];omega,λv e=>?_,q,λl a=>?_⟩;rw[hv]at e;have:=Eu _ _ v e;omega;obtain⟨I,J,u⟩:=s l a;refine⟨SE,λh w=>?_⟩;obtain⟨k,x⟩:=List.getElem?_of_mem w;exact(u k h x).b b (λl a=>(d l a).2.2) t.2.2
structure KG(w3:World)(o:Nat)(C:Array Value)(TO:TypeId)(x:World):Prop where
 g:w3.grownBy x (some o)
 c:x.heap[o]?=some (.cells C TO (0,0))
 lt:o<w3
def KG.s{a}{o:Nat}{C b x}(h:KG a o C b x):a.heap.size<=x:=h.g.size
def KG.lx{a}{o:Nat}{C b x}(h:KG a o C b x):o<x:=(O3.1 h.c).1
def KG.grow{a}{o:Nat}{C c x d row}(h:KG a o C c x)(hg:x.grownBy d row)(hr:∀z,row=some z->a<=z):KG a o C c d:=
 ⟨⟨hg.os.T h.g.os,hg.tape.T h.g.tape,hg.output.T h.g.output,Pj h.g.size hg.size,λb hb f=>(hg.B b (O1 hb h.g.size) (λe=>SC (hr b e.symm))).T (h.g.B b hb f)⟩,(hg.B o h.lx (λe=>SD (hr o e.symm) h.lt)).T h.c,h.lt⟩
def KG.alloc{a}{o:Nat}{C b x}(h:KG a o C b x)(c):KG a o C b (x.alloc c):=h.grow (O7 _ _ none) (λz e=>by cases e)
abbrev oe:=(#[Em,.int .u8 0,.int .i64 0]:Array Go.Value)
abbrev sd(a b c):=(.cells #[tx a,.int .u8 b,c] 115:Go.Obj)
def ke.lp(n:Int):Bool:=(decide (97<=n)&&decide (n<=122))||(decide (65<=n)&&decide (n<=90))
def ke.lX(n:Int):Bool:=decide (48<=n)&&decide (n<=57)
def ke.lr(n:Int):Bool:=lp n||lX n||(n==95)
def ke.pre(p:Int->Bool)(l:List UInt8):Nat:=(l.takeWhile λc=>p c.toNat).length
def ke.words:List (List UInt8):=[[97,102,116,101,114],[97,108,119,97,121,115],[97,110,100],[97,114,114,105,118,101,115],[98,111,111,108],[99,111,109,112,111,110,101,110,116],[99,111,117,110,116],[100,101,108,101,116,101],[100,111],[101,108,115,101],[101,120,105,115,116,115],[102,97,108,115,101],[102,101,116,99,104],[102,108,97,103],[102,108,101,101,116],[102,111,114,97,108,108],[104,97,115],[105,102],[105,109,112,108,105,101,115],[105,110],[105,110,116],[108,97,116,101,110,99,121],[108,105,110,107],[110,111,116],[110,111,119],[111,110],[111,110,99,101],[111,114],[112,114,101,118,105,111,117,115],[115,101,110,100],[115,105,110,99,101],[115,105,122,101],[115,116,111,112],[115,116,111,114,101],[116,97,98,108,101],[116,114,117,101],[118,97,114],[118,101,114,115,105,111,110],[119,104,105,108,101]]
def ke.sr(l:List UInt8):Bool:=words.contains l
def og:Array Value:=(ke.words.map tx).toArray
def sG(w:World):Prop:=∃t a,w.heap[3]?=some (.cells og t a)
def mm(l:List UInt8):Bool:=decide (0<l.length)&&decide (l.length<=12)&&ke.lp (l.headD 0).toNat&&(ke.pre ke.lr l==l.length)&& !ke.sr l
def kT.shapes:List (Nat×Bool×Nat×List UInt8):=[(0,false,0,[]),(0,false,7,[]),(0,false,7,[116,114,117,101]),(0,false,7,[102,97,108,115,101]),(0,false,7,[110,111,119]),(0,true,7,[]),(1,true,7,[]),(1,true,7,[104,97,115,32]),(0,true,7,[115,105,122,101,32]),(1,false,6,[45]),(1,false,6,[110,111,116,32]),(2,false,5,[32,42,32]),(2,false,5,[32,47,32]),(2,false,5,[32,37,32]),(2,false,4,[32,43,32]),(2,false,4,[32,45,32]),(2,false,3,[32,61,61,32]),(2,false,3,[32,33,61,32]),(2,false,3,[32,60,32]),(2,false,3,[32,60,61,32]),(2,false,3,[32,62,32]),(2,false,3,[32,62,61,32]),(2,false,2,[32,97,110,100,32]),(2,false,1,[32,111,114,32])]
def kT.forms:List (Bool×Bool×Nat×Nat×Bool×Bool):=[(false,false,0,0,false,false),(true,false,1,1,false,false),(true,false,2,2,false,false),(true,false,1,1,false,false),(false,false,1,1,true,true),(false,false,1,1,true,false),(true,true,0,4,false,false),(false,true,1,5,false,false),(false,false,2,2,false,true),(true,false,1,1,false,true),(false,false,0,0,false,false)]
def kJ.map{a:Type}(f:a->List Value):∀(l:List a),kJ (λr x=>r=f x) (l.map f) l
 |[]=>trivial
 |_::l=>⟨rfl,kJ.map f l⟩
def qx(x:Nat×Bool×Nat×List UInt8):List Value:=[.int .i64 (x.1:Int),.bool x.2.1,.int .i64 (x.2.2.1:Int),tx x.2.2.2]
def rN(x:Bool×Bool×Nat×Nat×Bool×Bool):List Value:=[.bool x.1,.bool x.2.1,.int .i64 (x.2.2.1:Int),.int .i64 (x.2.2.2.1:Int),.bool x.2.2.2.2.1,.bool x.2.2.2.2.2]
def vt:Array Value:=(shapes.map qx).flatten.toArray
def yT:Array Value:=(forms.map rN).flatten.toArray
structure ln(w:World):Prop where
 names:sG w
 shapes:∃t fr,w.heap[8]?=some (.cells vt t fr)
 forms:∃t fr,w.heap[4]?=some (.cells yT t fr)
def sG.jQ{w w'}{B:Nat}(h:sG w)(hb:Below B w w')(a:3<B):sG w':=by obtain⟨t,b,h⟩:=h;exact⟨t,b,(hb.B _ a).T h⟩
def sG.lt{w}(h:sG w):3<w.heap.size:=by obtain⟨t,a,h⟩:=h;exact(O3.1 h).1
def ln.lt{w}(h:ln w):8<w.heap.size/\4<w.heap.size:=by obtain⟨_,⟨_,_,a⟩,⟨_,_,b⟩⟩:=h;exact⟨(O3.1 a).1,(O3.1 b).1⟩
def ln.jP{w w'}(h:ln w)(hb:∀b,b<w.heap.size->(b=3\/b=8\/b=4)->w'.heap[b]?=w.heap[b]?):ln w':=by have a:=h.lt;have hn:=h.names.lt;obtain⟨⟨t,c,d⟩,⟨e,f,g⟩,⟨i,j,k⟩⟩:=h;exact⟨⟨t,c,(hb _ hn (.inl rfl)).T d⟩,⟨e,f,(hb _ a.1 (.inr (.inl rfl))).T g⟩,⟨i,j,(hb _ a.2 (.inr (.inr rfl))).T k⟩⟩
def ln.jQ{w w'}{B:Nat}(h:ln w)(hb:Below B w w')(a:3<B/\8<B/\4<B):ln w':=
 h.jP λb _ h=>hb.B b (by rcases h with rfl|rfl|rfl;exact a.1;exact a.2.1;exact a.2.2)
def kd(v:Value)(w:World)(e:Ending)(w':World):Prop:=e=.returned v/\Below w w w'
def lT:Nat->Ex->Prop
 |0,_=>False
 |d+1,e=>(∃x,1<=e.op/\shapes[e.op.toNat]?=some x/\e.args.length=x.1/\(x.2.1=true->mm e.name=true)/\(x.2.1=false->e.name=[])/\(e.op=1->0<=e.n)/\(e.op≠1->e.n=0))/\∀a∈e.args,lT d a
def At(w:World)(b o:Nat)(r:List Value):Prop:=∀(a:Nat) (u:Value),r[a]?=some u->w.cell? ⟨b,o+a,none⟩=some u
def At.jQ{w w'}{B b o:Nat}{r}(h:At w b o r)(hb:Below B w w')(c:b<B):At w' b o r:=λa u hu=>(Cb b (o+a) (hb.B b c)).T (h a u hu)
def mg(g:FuncId):Prop:=∀(a:Array Value) (w:World),Sem.run prog (callFunc g a) w=.ok (.enter g a) w
def CC:∀x∈shapes,x.1<=2:=SF
def lT.two{d:Nat}{e}(h:lT d e):e.args.length<=2:=by
 cases d with
 |zero=>exact h.elim
 |succ d=>obtain⟨⟨x,_,hx,a,_⟩,_⟩:=h;rw[a];exact CC x (O5 hx)
def mV:Nat->St->Prop
 |0,_=>False
 |d+1,s=>(∃x,1<=s.kind/\forms[s.kind.toNat]?=some x/\(x.1=true->mm s.name=true)/\(x.1=false->s.name=[])/\(x.2.1=true->mm s.hd=true)/\(x.2.1=false->s.hd=[])/\x.2.2.1<=s.kA.length/\s.kA.length<=x.2.2.2.1/\(x.2.2.2.2.1=false->s.th=[])/\(x.2.2.2.2.2=false->s.el=[]))/\
  (∀e∈s.kA,lT De e)/\(s.th.length<=12/\s.el.length<=12)/\(∀x∈s.th,mV d x)/\∀x∈s.el,mV d x
structure uH(h:Hd):Prop where
 name:mm h.name=true
 FX:h.params.length<=2
 params:∀p∈h.params,mm p=true
 B4:h.body.length<=12
 body:∀s∈h.body,mV Ds s
 cnt:ku Ds h.body<=12
structure JR(v:Va):Prop where
 name:mm v.name=true
 form:(v.ty=1/\v.init≠ -9223372036854775808)\/(v.ty=2/\(v.init=0\/v.init=1))\/(v.ty=3/\v.init=0)
structure zY(c:Co):Prop where
 name:mm c.name=true
 Ei:c.vars.length<=5
 vars:∀v∈c.vars,JR v
 v1:1<=c.kS.length
 v2:c.kS.length<=2
 kS:∀l∈c.kS,l.length<=3/\∀h∈l,uH h
structure mh(f:Fl):Prop where
 name:mm f.name=true
 FY:f.km.length<=2
 km:∀x∈f.km,mm x.name=true
 FZ:f.lB.length<=9
 lB:∀x∈f.lB,mm x.a=true/\mm x.b=true/\1<=x.sD/\x.sD<=50
 c1:1<=f.jZ.length
 c3:f.jZ.length<=3
 jZ:∀c∈f.jZ,zY c
structure oY(S:Nat->Prop)(w:World)(A1:Option Addr)(m1 c1:Nat)(A2:Option Addr)(m2 c2:Nat)(A3:Option Addr)(m3 c3:Nat)(f:Fl):Prop where
 km:jT lM S w (.slice A1 m1 c1) f.km
 lB:jT mY S w (.slice A2 m2 c2) f.lB
 jZ:jT (lv .u8) S w (.slice A3 m3 c3) f.jZ
 kX:∀q,S q->q<w
def oY.jQ{S w w' b}{c c1:Nat}{d}{e c2:Nat}{g}{i c3:Nat}{f}(h:oY S w b c c1 d e c2 g i c3 f)(hb:Below w w w'):oY S w' b c c1 d e c2 g i c3 f:=
 ⟨h.km.jP lM.ok λq a=>hb.B q (h.kX q a),h.lB.jP mY.ok λq a=>hb.B q (h.kX q a),h.jZ.jP (lv.ok _) λq a=>hb.B q (h.kX q a),λq a=>O1 (h.kX q a) hb.size⟩
def RM:Value->Option (DataW Unit×List MemPlace):=λ_=>some (.lit (.bool true),[])
def zP(w:World)(b n:Nat):Prop:=∃D:DataW Unit,w.ownsMap prog 9 RM b n D
def zP.len{w}{b n:Nat}(h:zP w b n):∃m:Nat,m<=n/\(Builtin.len_ #[257] 3 #[.map (some b)]).run prog w=.ok (.int .i64 (m:Int)) w:=by obtain⟨D,h⟩:=h;exact⟨_,h.size_le,h.len underlying257 _⟩
def mA(l):(⟨l.toArray⟩:ByteArray).toList=l:=by rw[QA]
def LJ(xs:List (List UInt8))(s:List UInt8)(r:Int):Prop:=(r= -1/\s∉xs)\/∃i:Nat,r=(i:Int)/\xs[i]?=some s/\∀a,a<i->xs[a]? ≠some s
def LJ.neg{xs s}{r:Int}(h:LJ xs s r)(hs:s∉xs):r= -1:=by
 rcases h with h|⟨i,_,h,_⟩
 exact h.1;exact absurd (O5 h) hs
def LJ.pos{xs s}{r:Int}(h:LJ xs s r)(hs:s∈xs):∃i:Nat,r=(i:Int)/\i<xs.length/\xs[i]?=some s:=by
 rcases h with h|⟨i,b,a,_⟩
 exact absurd hs h.2;exact⟨i,b,(Pm.1 a).1,a⟩
def uo(S w A)(n c:Nat)(xs)(s:List UInt8)(hv:jT kh S w (.slice A n c) xs)(u:n<=1000)(hS:∀q,S q->q<w):
  Calls prog 93 #[.slice A n c,tx s] w λe w'=>∃r:Int,e=.returned (.int .i64 r)/\LJ xs s r/\w=w':=by
 have j:=hv.len;have g:=j.1;have l:=hv;have v:=mA s
 go_enter func93,ntmps93
 go_wp2
 go_loop [8] (λi=>∃k:Nat,k<=n/\i=k/\∀a,a<k->xs[a]? ≠some s) (λi=>n-(intOf i).toNat)
 .exact⟨0,Pb _,rfl,λa b=>SE⟩
 obtain⟨k,y,rfl,d⟩:=hrel;by_cases z:k<n
 .obtain⟨x,f⟩:∃x,xs[k]?=some x:=Gx (SC g);obtain⟨B,C,r,rfl,D,hr,m⟩:=l.kt kh.ok k x f;have p:r=[tx x]:=hr;subst p;have t:=m 0 _ rfl;rw[Pc,PG]at t;have E:=mA x;cases hq:(s==x)
  .go_wp2
   go_round
   .refine⟨k+1,SE,SJ,λa b=>?_⟩;by_cases e:a=k;rw[e,f];intro h;injection h with h;rw[h]at hq;simp at hq;exact d a SE
   simp[intOf];omega
  go_wp2;go_ret;exact⟨_,rfl,.inr ⟨k,rfl,by rw[f];rw[P9]at hq;rw[hq],d⟩,rfl⟩
 obtain rfl:n=k:=SE;go_wp2;go_ret;refine⟨_,rfl,.inl ⟨rfl,λhm=>?_⟩,rfl⟩;obtain⟨a,b⟩:=Q8 hm;exact d a (SD ((Pm.1 b).1) g) b
def oN(S w A)(n c:Nat)(xs)(s:List UInt8)(hv:jT kh S w (.slice A n c) xs)(a:n<=1000)(hS:∀q,S q->q<w):
  Calls prog 92 #[.slice A n c,tx s] w λe w'=>e=.returned (.bool (decide (s∈xs)))/\w=w':=by
 have b:=(uo S w A n c xs s hv a hS)
 go_enter func92,ntmps92
 go_wp21;apply b.M;rintro e d ⟨r,rfl,hr,rfl⟩;by_cases hm:s∈xs
 .obtain⟨i,rfl,_,_⟩:=hr.pos hm;go_wp21;go_ret;exact⟨by simp[hm],rfl⟩
 .obtain rfl:=hr.neg hm;go_wp21;go_ret;exact⟨by simp[hm],rfl⟩
def kT.lK(x:In):Prop:=1<=x.op/\x.op<=34/\x.op≠27/\x.op≠28/\x.op≠32/\x.op≠33
def nC(S:Nat->Prop)(w:World)(v:Value):Prop:=∃(A:Option Addr) (n c:Nat) (xs:List (List UInt8)),v=.slice A n c/\jT kh S w (.slice A n c) xs/\n<=1000
structure yP(S:Nat->Prop)(w3:World)(cb:Nat)(vars kC km params:Value):Prop where
 vars:nC S w3 vars
 kC:nC S w3 kC
 km:nC S w3 km
 params:nC S w3 params
 kX:∀q,S q->q<w3/\q≠cb
def kT.EJ{k:Nat}{x}(h:shapes[k]?=some x):k<24/\x.1<=2:=by
 have a:∀x∈shapes,x.1<=2:=SF
 exact⟨((List.getElem?_eq_some_iff.1 h).1),a x (List.mem_of_getElem? h)⟩
def lT.op{d:Nat}{e}(h:lT d e):(1<=e.op/\e.op<=23)/\e.args.length<=2/\∃d',d=d'+1/\∀a∈e.args,lT d' a:=by
 cases d with
 |zero=>exact h.elim
 |succ d=>obtain⟨⟨x,b,hx,f,_⟩,c⟩:=h;obtain⟨g,i⟩:=EJ hx;exact⟨⟨b,SE⟩,SE,d,rfl,c⟩
def qU(a:List In)(n:Nat)(b:List In):Prop:=∃l,b=a++l/\l.length<=n/\∀x∈l,lK x
def qU.T{a b c:List In}{n m q:Nat}(h:qU a n b)(e:qU b m c)(i:n+m<=q):qU a q c:=by obtain⟨l,rfl,j,hp⟩:=h;obtain⟨f,rfl,k,g⟩:=e;refine⟨l++f,by rw[Py],SK,λd hy=>?_⟩;rcases QV.1 hy with hy|hy;exact hp d hy;exact g d hy
def kT.oI(n:Nat)(x:In):Prop:=1<=x.op/\x.op<=34/\(x.op=27\/x.op=28->0<=x.a/\x.a<=n)/\(x.op=32\/x.op=33->0<=x.b/\x.b<=n)
def kT.lK.ok{x:In}(h:lK x)(n:Nat):oI n x:=⟨h.1,h.2.1,λa=>SC h.2.2,λa=>SC h.2.2⟩
def kT.oI.M{x:In}{n m:Nat}(h:oI n x)(hm:n<=m):oI m x:=⟨h.1,h.2.1,λk=>SC (h.2.2.1 k),λk=>SC (h.2.2.2 k)⟩
def kT.mn(a:List In)(n:Nat)(b:List In):Prop:=∃l,b=a++l/\l.length<=n/\∀x∈l,oI (a.length+l.length) x
def kT.mn.refl(a:List In):mn a 0 a:=⟨[],SG,SG,SG⟩
def kT.mn.T{a b c:List In}{n m q:Nat}(h:mn a n b)(e:mn b m c)(i:n+m<=q):mn a q c:=by obtain⟨l,rfl,j,hp⟩:=h;obtain⟨f,rfl,k,g⟩:=e;refine⟨l++f,by rw[List.append_assoc],SK,λd hy=>?_⟩;rcases List.mem_append.1 hy with hy|hy;exact(hp d hy).M SZ;exact(g d hy).M SZ
def kT.mn.one{a b:List In}{x:In}(h:b=a++[x])(hx:oI (a.length+1) x):mn a 1 b:=⟨[x],h,SG,λc hy=>by simp at hy;subst hy;exact hx⟩
def kT.mn.len{a b:List In}{n:Nat}(h:mn a n b):a.length<=b.length/\b.length<=a.length+n:=by obtain⟨l,rfl,c,_⟩:=h;simp;omega
def kT.mn.kt{a b:List In}{n i:Nat}(h:mn a n b){x:In}(hi:a[i]?=some x):b[i]?=some x:=by obtain⟨l,rfl,_⟩:=h;rw[List.getElem?_append_left (List.getElem?_eq_some_iff.1 hi).1];exact hi
def oa(a:List Fg)(name:List UInt8):Bool:=a.any λx=>x.name==name
def rW{a name}:oa a name=true↔∃x∈a,x.name=name:=by simp[oa]
def EL(n:List UInt8)(name)(i:Bool)(a:Nat)(w)(hn:w.cell? a=some (tx name))(hb:a<w.heap.size):
  Calls prog 183 #[.agg #[tx n,i],.pointer a] w (kd (.bool (n==name)) w):=by
 have b:=mA n;have c:=mA name
 go_enter func183,ntmps183
 go_wp2;go_ret;exact⟨rfl,Ba _ _⟩
def Bq:mg 183:=λ_ _=>SH
def Br(S w A)(n c:Nat)(xs name)(d:Nat)(hv:jT lM S w (.slice A n c) xs)(K:n<=1000)(hS:∀q,S q->q<w)(hn:w.cell? d=some (tx name))(hb:d<w):
  Calls prog 200 #[.slice A n c,.func (.func 183) #[] #[.pointer d]] w λe w'=>∃r:Int,e=.returned (.int .i64 r)/\(oa xs name=true->0<=r)/\(oa xs name=false->r= -1)/\Below w w w':=by
 have v:=Bq;unfold mg at v;have y:=hv.len;have p:=y.1;have z:=hv;have B:=hS;have C:=hn
 go_enter func200,ntmps200
 go_wp2;go_loopw [8] (λi wr=>∃k:Nat,k<=n/\i=k/\(∀a x,a<k->xs[a]?=some x->x.name≠name)/\Below w w wr) (λi _=>n-(intOf i).toNat)
 .exact⟨0,Pb _,rfl,λa x j=>SE,Below.refl _ _⟩
 obtain⟨k,L,rfl,s,f⟩:=hrel;have t:=f.size;have D:=((Cb d 0 (f.B d hb)).T C)
 by_cases M:k<n
 .obtain⟨x,l⟩:∃x,xs[k]?=some x:=Gx (SC p);obtain⟨N,O,r,rfl,P,hr,E⟩:=(z.jP lM.ok (λq b=>f.B q (B q b))).kt lM.ok k x l;have F:r=[tx x.name,.bool x.init]:=hr;subst F;have G:=E 0 _ rfl;rw[Pc]at G;have u:=(EL x.name name x.init d wr D SE)
  cases b:(x.name==name)
  .go_wp2_with (apply u.M;rw[b];rintro e I ⟨rfl,g⟩;have m:=(f.T (g.M t));clear g);go_roundw
   .refine⟨k+1,SE,SJ,λa J j hy=>?_,m⟩;by_cases e:a=k;rw[e,l]at hy;injection hy with hy;rw[<-hy];intro h;rw[h]at b;simp at b;exact s a J SE hy
   simp[intOf];omega
  go_wp2_with (apply u.M;rw[b];rintro e I ⟨rfl,g⟩;have m:=(f.T (g.M t));clear g);go_ret;refine⟨_,rfl,λ_=>SE,λh=>?_,m⟩;have:oa xs name=true:=rW.2 ⟨x,O5 l,by simpa using b⟩;rw[this]at h;cases h
 obtain rfl:n=k:=SE;go_wp2;go_ret;refine⟨_,rfl,λh=>?_,λ_=>rfl,f⟩;obtain⟨x,hx,e⟩:=rW.1 h;obtain⟨a,j⟩:=Q8 hx;exact absurd e (s a x (SD ((Pm.1 j).1) p) j)
def rr(S w A)(n c:Nat)(xs)(name:List UInt8)(hv:jT lM S w (.slice A n c) xs)(g:n<=1000)(hS:∀q,S q->q<w):
  Calls prog 139 #[.slice A n c,tx name] w (kd (.bool (oa xs name)) w):=by
 have d:Below w w (w.alloc (.cells #[tx name] 9)):=Ba _ _;have i:=hv.jP lM.ok (λq a=>d.B q (hS q a));have j:=O2 w (.cells #[tx name] 9);have t:(w.alloc (.cells #[tx name] 9)).heap.size=w+1:=SG
 have k:=(Br S _ A n c xs name w i g (λq a=>SC (hS q a)) (jN j 0) SE)
 have l:Calls prog 182 #[.slice A n c,.func (.func 183) #[] #[.pointer w]] (w.alloc (.cells #[tx name] 9)) (kd (.bool (oa xs name)) w):=by
  go_enter func182,ntmps182
  go_wp21;apply k.M;rintro e m ⟨r,rfl,p,s,b⟩;have f:=(d.T (b.M SE))
  cases a:oa xs name
  .have hr:=s a;subst hr;go_wp21;go_ret;exact⟨by rw[a];rfl,f⟩
  have hr:=p a;go_wp21;go_ret;exact⟨by rw[a];rfl,f⟩
 go_enter func139,ntmps139
 go_wp21;apply l.M;rintro e m ⟨rfl,b⟩;go_wp21;go_ret;exact⟨rfl,b⟩
def uq{a:Type}{xs:List a}{p:a->Bool}{k:Nat}(b:(xs.take k).find? p=none){x:a}(hx:xs[k]?=some x):(p x=true->xs.find? p=some x)/\(p x=false->(xs.take (k+1)).find? p=none):=by
 have c:xs.take (k+1)=xs.take k++[x]:=by rw[PM,hx];rfl
 refine⟨λh=>?_,λh=>?_⟩;have d:xs=xs.take (k+1)++xs.drop (k+1):=(QD _ _).symm;rw[d,c,Py,Q6,b];simp[h];rw[c,Q6,b];simp[h]
def pj:Option Va->Value
 |some x=>.tuple #[.agg #[tx x.name,.int .u8 x.ty,x.init],true]
 |none=>.tuple #[.agg #[Em,.int .u8 0,.int .i64 0],false]
def oO(S w A)(n c:Nat)(xs)(name:List UInt8)(hv:jT (nz .u8) S w (.slice A n c) xs)(Q:n<=1000)(hS:∀q,S q->q<w):
  Calls prog 143 #[.slice A n c,tx name] w (kd (pj (xs.find? λx=>x.name==name)) w):=by
 have l:=hv.len;have R:=mA name;have m:Below w w (w.alloc (.cells oe 115)):=Ba _ _;have p:=O2 w (.cells oe 115);have E:(w.alloc (.cells oe 115)).heap.size=w+1:=SG
 have s:=O0 l.1;have F:=(hv.jP (nz.ok .u8) (λq a=>m.B q (hS q a)))
 have G:∀q,S q->q<(w.alloc (.cells oe 115)).heap.size:=λq a=>SC (hS q a)
 have t:=O0 p;clear hS l p
 go_enter func143,ntmps143
 go_wp21;obtain⟨z,hz⟩:=Xq w.heap.size;rw[<-hz]at t E⊢;have b:w<=z:=SE
 generalize w.alloc (.cells oe 115)=B at*;have I:z<B:=SE
 clear hz;go_loopw [10] (λi wr=>∃k:Nat,k<=n/\i=k/\(xs.take k).find? (λx=>x.name==name)=none/\Below B B wr) (λi _=>n-(intOf i).toNat)
 .exact⟨0,Pb _,rfl,SG,Below.refl _ _⟩
 obtain⟨k,T,rfl,u,d⟩:=hrel;have y:=O0 u;have U:=d.size;obtain⟨⟨f,g,j⟩,⟨J,K,L⟩⟩:=kz ((d.B z I).T t.o);have M:z<wr:=SE;have C:=(m.T (d.M SE))
 clear u;by_cases V:k<n
 .obtain⟨x,hx⟩:∃x,xs[k]?=some x:=Gx (SC s.o);obtain⟨W,X,r,rfl,Y,hr,e⟩:=(F.jP (nz.ok .u8) (λq a=>d.B q (G q a))).kt (nz.ok .u8) k x hx;have N:r=[tx x.name,.int .u8 x.ty,.int .i64 x.init]:=hr;subst N;have O:=e 0 _ rfl;have Z:=e 1 _ rfl;have aa:=e 2 _ rfl;rw[Pc]at O;obtain⟨ab,ac⟩:=mG k n;have ad:=mA x.name;have D:=(uq y.o hx)
  have P:=(d.alloc SE (sd x.name x.ty x.init))
  clear e hx;cases a:(x.name==name)
  .have hf:=D.2 a;clear f g j J K L;go_wp21;go_roundw
   .exact⟨k+1,SE,SJ,hf,P⟩
   simp[intOf];omega
  have hf:=D.1 a;go_wp21;refine Pa (v:=.tuple #[.agg #[tx x.name,.int .u8 x.ty,x.init],true]) ?_ rfl ⟨by rw[hf];rfl,(jX (jX (jX C b) b) b).alloc SX _⟩;simp[results,Tryz.results143,go_sem,f,g,j,M,RB]
 obtain rfl:n=k:=SE;have hf:=y.o;rw[Pq (SC s.o)]at hf;go_wp21;refine Pa (v:=.tuple #[.agg oe,false]) ?_ rfl ⟨by rw[hf];rfl,jX (jX (jX C b) b) b⟩;simp[results,Tryz.results143,go_sem,f,g,j]
def uX(S:Nat->Prop)(w:World)(c:Co)(v:Value):Prop:=∃(a:Option Addr) (b cv:Nat) (d:Option Addr) (e f:Nat),v=.agg #[tx c.name,.slice a b cv,.slice d e f]/\jT (nz .u8) S w (.slice a b cv) c.vars/\jT (mr .u8) S w (.slice d e f) c.kS
def uX.jP{S w w' c v}(h:uX S w c v)(hb:∀q,S q->w'.heap[q]?=w.heap[q]?):uX S w' c v:=by obtain⟨a,b,cv,d,f,g,e,i,j⟩:=h;exact⟨a,b,cv,d,f,g,e,i.jP (nz.ok _) hb,j.jP (mr.ok _) hb⟩
def kT.Gq{i t k:Nat}(hi:i<=3)(d:t<=1)(e:k<i):((mB i t).find? λx=>x.name==nm 120 k)=some ⟨nm 120 k,1,k⟩:=by
 have a:i=1\/i=2\/i=3:=SE
 have b:t=0\/t=1:=SE
 have c:k=0\/k=1\/k=2:=SE
 rcases a with rfl|rfl|rfl<;>rcases b with rfl|rfl<;>rcases c with rfl|rfl|rfl<;>first|omega|rfl
def kT.Gr{i t:Nat}(c:1<=i)(hi:i<=3)(d:t<=1):((mB i t).find? λx=>x.name==nm 98 0)=some ⟨nm 98 0,2,0⟩:=by
 have a:i=1\/i=2\/i=3:=SE
 have b:t=0\/t=1:=SE
 rcases a with rfl|rfl|rfl<;>rcases b with rfl|rfl<;>rfl
def kT.Kz{i t:Nat}(c:1<=i)(hi:i<=3)(a:t=1):((mB i t).find? λx=>x.name==nm 116 0)=some ⟨nm 116 0,3,0⟩:=by
 have b:i=1\/i=2\/i=3:=SE
 rcases b with rfl|rfl|rfl<;>subst a<;>rfl
def kT.DO{i t k:Nat}{c}(hc:c=102\/c=112):((mB i t).find? λx=>x.name==nm c k)=none:=by
 rw[List.find?_eq_none];intro x hx;have b:∃a k',x.name=nm a k'/\a≠102/\a≠112:=by
  simp only[mB,List.mem_append,List.mem_map,List.mem_singleton]at hx;rcases hx with(⟨q,_,rfl⟩|rfl)|⟨q,_,rfl⟩
  exact⟨120,q,rfl,SF,SF⟩;exact⟨98,0,rfl,SF,SF⟩;exact⟨116,q,rfl,SF,SF⟩
 obtain⟨a,k',e,d,f⟩:=b;rw[e];simp only[beq_iff_eq];intro h;injection h with h _;rcases hc with hc|hc;exact d (h.T hc);exact f (h.T hc)
def kT.Mf{n k:Nat}(h:k<n):nm 112 k∈pW 112 n:=by simp[pW];exact⟨k,h,rfl⟩
def kT.zv{n k:Nat}(hn:n<=100)(h:k<n):nm 112 k∉(pW 112 n).take k:=by
 intro hm;obtain⟨c,a⟩:=List.getElem?_of_mem hm;rw[List.getElem?_take]at a;split at a;case isTrue d=>have b:=(List.getElem?_eq_some_iff.1 a).1;rw[ld]at b;rw[oc _ _ _ b]at a;unfold nm at a;injection a with a;injection a with _ a;injection a with a _;have:=congrArg UInt8.toNat a;simp at this;omega
 case isFalse=>simp at a
def kT.qB{n k:Nat}{c}(hc:c≠112):nm c k∉pW 112 n:=by simp only[pW,List.mem_map,not_exists,not_and];intro q _ h;injection h with h _;exact hc h.symm
def Mg{b k:Nat}{a}(h:qG b a)(c:k<b):oa a (nm 102 k)=true:=by obtain⟨x,hx⟩:∃x,a[k]?=some x:=Gx (by rw[h.1];exact c);exact rW.2 ⟨x,O5 hx,h.2 k x hx⟩
def KA{b k:Nat}{a c}(hc:c≠102)(h:qG b a):oa a (nm c k)=false:=by cases hq:oa a (nm c k);rfl;obtain⟨x,hx,e⟩:=rW.1 hq;obtain⟨d,f⟩:=Q8 hx;have:=(h.2 d x f).symm.T e;injection this with this _;exact absurd this.symm hc
def yU(sc:Sc)(name:List UInt8)(t:Int):Prop:=(t=1/\((∃k,k<sc.ints/\name=nm 120 k)\/∃k,k<sc.params/\name=nm 112 k))\/(t=2/\1<=sc.ints/\(name=nm 98 0\/∃k,k<sc.km/\name=nm 102 k))
structure Il(sc:Sc)(tU:List Fg)(FL:List Va)(Ec:List (List UInt8)):Prop where
 lens:tU.length<=1000/\FL.length<=1000/\Ec.length<=90
 name:∀name t,yU sc name t->(name∈Ec->t=1)/\(name∉Ec->(∃x,(FL.find? λx=>x.name==name)=some x/\x.ty=t/\t≠3)\/((FL.find? λx=>x.name==name)=none/\oa tU name=true/\t=2))
 table:sc.kC=1->nm 116 0∉Ec/\(FL.find? λx=>x.name==nm 116 0)=some ⟨nm 116 0,3,0⟩
 int:∀k,k<sc.ints->nm 120 k∉Ec/\(FL.find? λx=>x.name==nm 120 k)=some ⟨nm 120 k,1,k⟩
 N3:1<=sc.ints->nm 98 0∉Ec/\(FL.find? λx=>x.name==nm 98 0)=some ⟨nm 98 0,2,0⟩
 Nf:∀k p,Ec[k]?=some p->p∉Ec.take k/\(FL.find? λx=>x.name==p)=none/\oa tU p=false/\p.length<=12
structure rb(S:Nat->Prop)(w:World)(tU:List Fg)(FL:List Va)(Ec:List (List UInt8))(sc:Sc)(AF:Option Addr)(nf cf:Nat)(AV:Option Addr)(nv cv:Nat)(AP:Option Addr)(np cp:Nat):Prop where
 km:jT lM S w (.slice AF nf cf) tU
 vars:jT (nz .u8) S w (.slice AV nv cv) FL
 params:jT kh S w (.slice AP np cp) Ec
 Ig:Il sc tU FL Ec
 kX:∀q,S q->q<w
def rb.jP{S w w' a b c sc d}{e f:Nat}{g}{i cv:Nat}{j}{k l:Nat}(h:rb S w a b c sc d e f g i cv j k l)(hb:∀q,S q->w'.heap[q]?=w.heap[q]?)(hs:w.heap.size<=w'.heap.size):rb S w' a b c sc d e f g i cv j k l:=
 ⟨h.km.jP lM.ok hb,h.vars.jP (nz.ok _) hb,h.params.jP kh.ok hb,h.Ig,λq m=>O1 (h.kX q m) hs⟩
def rb.jQ{S w w' a b c sc d}{e f:Nat}{g}{i cv:Nat}{j}{k l:Nat}(h:rb S w a b c sc d e f g i cv j k l)(hb:Below w w w'):rb S w' a b c sc d e f g i cv j k l:=h.jP (λq m=>hb.B q (h.kX q m)) hb.size
def rb.lens{S w d e f sc g}{a i:Nat}{j}{b cv:Nat}{k}{c l:Nat}(h:rb S w d e f sc g a i j b cv k c l):a<=1000/\b<=1000/\c<=1000:=by have m:=h.km.len.1;have n:=h.vars.len.1;have p:=h.params.len.1;obtain⟨q,r,s⟩:=h.Ig.lens;omega
def nW.Ig{sc:Sc}{i:List Fg}(l:nW sc)(g:qG sc.km i):Il sc i (mB sc.ints sc.kC) (pW 112 sc.params):=by
 obtain⟨a,b,c,d,e,_⟩:=id l;refine⟨⟨by rw[g.1];omega,by rw[qL];omega,by rw[ld];omega⟩,λname t j=>⟨λhm=>?_,λhm=>?_⟩,λh=>⟨qB SF,Kz a b h⟩,λk f=>⟨qB SF,Gq b c f⟩,λ_=>⟨qB SF,Gr a b c⟩,λk p hp=>?_⟩;rcases j with⟨h,_⟩|⟨_,_,h⟩
 exact h;rcases h with rfl|⟨k,_,rfl⟩
 exact absurd hm (qB SF);exact absurd hm (qB SF);rcases j with⟨rfl,⟨k,f,rfl⟩|⟨k,f,rfl⟩⟩|⟨rfl,_,rfl|⟨k,f,rfl⟩⟩
 exact .inl ⟨_,Gq b c f,rfl,SF⟩;exact absurd (Mf f) hm;exact .inl ⟨_,Gr a b c,rfl,SF⟩;exact .inr ⟨DO (.inl rfl),Mg g f,rfl⟩;have f:=(Pm.1 hp).1;rw[ld]at f;rw[oc _ _ _ f]at hp;injection hp with hp;subst hp;exact⟨zv SE f,DO (.inr rfl),KA SF g,by simp[nm]⟩
abbrev zc(a):=(#[.int .u8 a,Em,.int .i64 0]:Array Go.Value)
def rX(a b c)(t:Int)(name w):Calls prog 228 #[.agg #[a,b,c],.int .u8 t,tx name,.int .i64 0] w (kd (.tuple (zc t)) w):=by
 go_enter func228,ntmps228
 go_wp2;refine Pa (v:=.tuple (zc t)) ?_ rfl ⟨rfl,Ba _ _⟩;simp[results,Tryz.results228,go_sem]
abbrev mT(a b c d e f g h i):=(.cells #[.slice a b c,.slice d e f,.slice g h i] 316:Go.Obj)
abbrev ob(a b c d e f g h i):=(#[.slice a b c,.slice d e f,.slice g h i]:Array Go.Value)
def rI(S w u p k sc g)(i j:Nat)(a)(b cv:Nat)(c)(d f:Nat)(name:List UInt8)(h:rb S w u p k sc g i j a b cv c d f):
  Calls prog 221 #[.agg (ob g i j a b cv c d f),tx name] w (kd (if name∈k then pj none else pj (p.find? λx=>x.name==name)) w):=by
 have E:=h.lens;have q:Below w w ((w.alloc (mT g i j a b cv c d f)).alloc (.cells oe 115)):=(Ba _ _).alloc SG _;have y:((w.alloc (mT g i j a b cv c d f)).alloc (.cells oe 115)).heap[w.heap.size]?=some (mT g i j a b cv c d f):=(Ph _ _ SG).T (O2 _ _);have r:((w.alloc (mT g i j a b cv c d f)).alloc (.cells oe 115)).heap[w.heap.size+1]?=some (.cells oe 115):=by have:=O2 (w.alloc (mT g i j a b cv c d f)) (.cells oe 115);rwa [O4]at this
 have F:((w.alloc (mT g i j a b cv c d f)).alloc (.cells oe 115)).heap.size=w+2:=SG
 have H:=(h.jQ q)
 go_enter func221,ntmps221
 go_wp21;generalize(w.alloc (mT g i j a b cv c d f)).alloc (.cells oe 115)=B at*;have z:w.heap.size+1<B:=SE
 apply(oN S B c d f _ name H.params SE H.kX).M;rintro e G ⟨rfl,rfl⟩;obtain⟨⟨I,J,K⟩,_⟩:=kz y;by_cases hm:name∈k
 .have hd:decide (name∈k)=true:=(by simp[hm]);obtain⟨⟨l,m,n⟩,⟨A,C,D⟩⟩:=kz r;rw[hd];go_wp2_with fail;refine Pa (v:=.tuple #[.agg oe,false]) ?_ rfl ⟨by first|rfl|(rw[PJ hm];rfl),jX (jX (jX q SE) SE) SE⟩;simp[results,Tryz.results221,go_sem,l,m,n]
 .have hd:decide (name∈k)=false:=(by simp[hm]);rw[hd];go_wp21;apply(oO S B a b cv _ name H.vars SE H.kX).M;rintro e L ⟨rfl,s⟩;have t:=q.T (s.M SE);obtain⟨⟨l,m,n⟩,⟨A,C,D⟩⟩:=kz ((s.B _ z).T r);cases J2:p.find? λx=>x.name==name with
  |none=>simp only[pj];go_wp2_with fail;refine Pa (v:=.tuple #[.agg oe,false]) ?_ rfl ⟨by first|rfl|(rw[Pn hm,J2];rfl),jX (jX (jX t SE) SE) SE⟩;simp[results,Tryz.results221,go_sem,l,m,n]
  |some x=>simp only[pj];go_wp2_with fail;refine Pa (v:=.tuple #[.agg #[tx x.name,.int .u8 x.ty,x.init],true]) ?_ rfl ⟨by first|rfl|(rw[Pn hm,J2];rfl),jX (jX (jX t SE) SE) SE⟩;simp[results,Tryz.results221,go_sem,l,m,n]
def CH(S w m n l sc a)(b c:Nat)(d)(f cv:Nat)(g)(i j:Nat)(name)(t:Int)(h:rb S w m n l sc a b c d f cv g i j)(u:yU sc name t):
  Calls prog 227 #[.agg (ob a b c d f cv g i j),tx name] w (kd (.tuple #[.int .u8 t,.int .i64 0]) w):=by
 have I:=h.lens;have p:Below w w (w.alloc (mT a b c d f cv g i j)):=Ba _ _;have q:=O2 w (mT a b c d f cv g i j);have J:(w.alloc (mT a b c d f cv g i j)).heap.size=w+1:=SG
 have H:=(h.jQ p)
 have r:=u
 go_enter func227,ntmps227
 go_wp21;generalize w.alloc (mT a b c d f cv g i j)=B at*;have v:w.heap.size<B:=SE
 apply(oN S B g i j _ name H.params SE H.kX).M;rintro e K ⟨rfl,rfl⟩;obtain⟨⟨y,z,A⟩,_⟩:=kz q;by_cases hm:name∈l
 .have hd:decide (name∈l)=true:=(by simp[hm]);have C:t=1:=(H.Ig.name _ _ r).1 hm;subst C;first|rw[hd]|skip
  go_wp21
  go_ret2
  exact⟨rfl,p⟩
 .have hd:decide (name∈l)=false:=(by simp[hm]);first|rw[hd]|skip
  go_wp21;apply(oO S B d f cv _ name H.vars SE H.kX).M;rintro e D ⟨rfl,k⟩;have s:=(p.T (k.M SE))
  have L:=k.size;have E:(∃x,(n.find? λx=>x.name==name)=some x/\x.ty=t/\t≠3)\/((n.find? λx=>x.name==name)=none/\oa m name=true/\t=2):=(H.Ig.name _ _ r).2 hm;rcases E with⟨x,hx,rfl,F⟩|⟨hx,hf,rfl⟩
  .rw[hx];have M:(x.ty==3)=false:=(by rw[O8];exact F);simp only[pj];go_wp21
   go_ret2
   exact⟨rfl,s.alloc SE _⟩
  rw[hx];simp only[pj];obtain⟨⟨y,z,A⟩,_⟩:=kz ((k.B _ v).T q);have N:w.heap.size<D:=SE;go_wp21;apply(rr S _ a b c m name ((H.jQ k).jQ (Ba _ _)).km SE ((H.jQ k).jQ (Ba _ _)).kX).M;rw[hf];rintro e O ⟨rfl,G⟩;go_wp21
  go_ret2
  exact⟨rfl,(s.alloc SE _).T (G.M (by rw[O4];omega))⟩
def rD(S w k l m sc a)(b c:Nat)(d)(f cv:Nat)(g)(i j:Nat)(h:rb S w k l m sc a b c d f cv g i j)(r:sc.kC=1):
  Calls prog 229 #[.agg (ob a b c d f cv g i j),tx (nm 116 0)] w (kd (.int .i64 0) w):=by
 have n:Below w w (w.alloc (mT a b c d f cv g i j)):=Ba _ _;have p:=(rI S _ k l m sc a b c d f cv g i j (nm 116 0) (h.jQ n))
 obtain⟨hm,hf⟩:=h.Ig.table r;rw[Pn hm,hf]at p
 go_enter func229,ntmps229
 go_wp21;apply p.M;rintro e t ⟨rfl,s⟩;have q:=(n.T (s.M SG))
 simp only[pj];go_wp21;go_ret;exact⟨rfl,q.alloc q.size _⟩
def kT.tV(sc:Sc)(d:Nat)(e:Ex)(t:Int):Prop:=(t=1/\kY sc d e)\/(t=2/\1<=sc.ints/\mC sc d e)
def kT.tV.num{sc}{d:Nat}{e}(h:kY sc d e):tV sc d e 1:=.inl ⟨rfl,h⟩
def kT.tV.Ih{sc}{d:Nat}{e}(hi:1<=sc.ints)(h:mC sc d e):tV sc d e 2:=.inr ⟨rfl,hi,h⟩
def kT.Gb:List (Int×Int×Int):=[(9,1,1),(10,2,2),(11,1,1),(12,1,1),(13,1,1),(14,1,1),(15,1,1),(16,1,2),(17,1,2),(18,1,2),(19,1,2),(20,1,2),(21,1,2),(22,2,2),(23,2,2)]
inductive MW (sc:Sc) (d:Nat) (e:Ex) (t:Int):Prop where
 |num (h:e.op=1\/e.op=4) (ht:t=1) (ha:e.args=[])
 |Ih (h:e.op=2\/e.op=3) (ht:t=2) (ha:e.args=[])
 |name (h:e.op=5) (hn:yU sc e.name t) (ha:e.args=[])
 |size (h:e.op=8) (ht:t=1) (hs:sc.kC=1) (hn:e.name=nm 116 0) (ha:e.args=[])
 |get (h:(e.op=6/\t=1)\/(e.op=7/\t=2)) (hs:sc.kC=1) (hn:e.name=nm 116 0) (hl:0<e.args.length) (h2:e.args.length<=2) (ha:∀a∈e.args,tV sc d a 1)
 |ops (u:Int) (h:(e.op,u,t)∈Gb) (hl:0<e.args.length) (h2:e.args.length<=2) (ha:∀a∈e.args,tV sc d a u)
def MW.of{sc}{d:Nat}{e}{t:Int}(h:tV sc (d+1) e t):MW sc d e t:=by
 have two:∀{a b:Ex} {u:Int},e.args=[a,b]->tV sc d a u->tV sc d b u->0<e.args.length/\e.args.length<=2/\∀x∈e.args,tV sc d x u:=λhe j hb=>by rw[he];refine⟨SG,SG,λx hx=>?_⟩;simp at hx;rcases hx with rfl|rfl;exact j;exact hb
 have one:∀{a:Ex} {u:Int},e.args=[a]->tV sc d a u->0<e.args.length/\e.args.length<=2/\∀x∈e.args,tV sc d x u:=λhe j=>by rw[he];refine⟨SG,SG,λx hx=>?_⟩;simp at hx;rw[hx];exact j
 rcases h with⟨rfl,h⟩|⟨rfl,hi,h⟩
 rcases h with⟨f,_,_,_,c⟩|⟨f,_,_,c⟩|⟨f,hn,_,c⟩|⟨f,hs,hn,_,a,c,g⟩|⟨f,hs,hn,_,c⟩|⟨f,_,_,a,c,g⟩|⟨f,_,_,a,b,c,g,i⟩
 exact .num (.inl f) rfl c;exact .num (.inr f) rfl c;exact .name f (.inl ⟨rfl,hn⟩) c;have:=one c (.num g);exact .get (.inl ⟨f,rfl⟩) hs hn this.1 this.2.1 this.2.2;exact .size f rfl hs hn c;have:=one c (.num g);exact .ops 1 (by rw[f];decide) this.1 this.2.1 this.2.2;have:=two c (.num g) (.num i);have k:e.op=11\/e.op=12\/e.op=13\/e.op=14\/e.op=15:=SE
 exact .ops 1 (by rcases k with h|h|h|h|h<;>rw[h]<;>decide) this.1 this.2.1 this.2.2;rcases h with⟨f,_,_,c⟩|⟨f,hn,_,c⟩|⟨f,hs,hn,_,a,c,g⟩|⟨f,_,_,a,c,g⟩|⟨f,_,_,a,b,c,g,i⟩|⟨f,_,_,a,b,c,g,i⟩
 exact .Ih f rfl c;exact .name f (.inr ⟨rfl,hi,hn⟩) c;have:=one c (.num g);exact .get (.inr ⟨f,rfl⟩) hs hn this.1 this.2.1 this.2.2;have:=one c (.Ih hi g);exact .ops 2 (by rw[f];decide) this.1 this.2.1 this.2.2;have:=two c (.Ih hi g) (.Ih hi i);exact .ops 2 (by rcases f with h|h<;>rw[h]<;>decide) this.1 this.2.1 this.2.2;have:=two c (.num g) (.num i);have k:e.op=16\/e.op=17\/e.op=18\/e.op=19\/e.op=20\/e.op=21:=SE
 exact .ops 1 (by rcases k with h|h|h|h|h|h<;>rw[h]<;>decide) this.1 this.2.1 this.2.2
def BV(n:Nat)(u:Int):Int:=if n=0 then 0 else u
def J9(d:Nat):Prop:=∀(S:Nat->Prop) (w:World) (n:List Fg) (p:List Va) (q:List (List UInt8)) (sc:Sc) (b:Option Addr) (e f:Nat) (g:Option Addr) (i cv:Nat) (j:Option Addr) (k l:Nat) (A:Option Addr) (m c:Nat) (args:List Ex) (u:Int),rb S w n p q sc b e f g i cv j k l->jT (ko .u8 d) S w (.slice A m c) args->m<=2->(∀a∈args,tV sc d a u)->
 Calls prog 226 #[.agg #[.slice b e f,.slice g i cv,.slice j k l],.slice A m c] w (kd (.tuple #[.int .u8 (BV m u),Em,.int .i64 0]) w)
def Ka(d:Nat):Prop:=∀(S:Nat->Prop) (w:World) (l:List Fg) (p:List Va) (q:List (List UInt8)) (sc:Sc) (a:Option Addr) (b e:Nat) (f:Option Addr) (g cv:Nat) (i:Option Addr) (j k:Nat) (A:Option Addr) (m c:Nat) (op n:Int) (name:List UInt8) (args:List Ex) (t:Int),rb S w l p q sc a b e f g cv i j k->jT (ko .u8 d) S w (.slice A m c) args->tV sc (d+1) (.mk op name n args) t->
 Calls prog 222 #[.agg #[.slice a b e,.slice f g cv,.slice i j k],.agg #[.int .u8 op,tx name,n,.slice A m c]] w (kd (.tuple #[.int .u8 t,Em,.int .i64 0]) w)
