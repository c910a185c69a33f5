import Derived.Test.YtidmdcckbdmblaaGreatDoorZ0
set_option maxRecDepth 1000000
set_option maxHeartbeats 32000000
set_option linter.all false
namespace Go.Proofs.YtidmdcckbdmblaaGreatDoor
open Go Go.Proofs.Tryz
def oH(P:Program)(w:World)(K:Value->World->Prop):Result Next->Prop
 | .ok (.value u) w'=>K u w'
 | .ok .skip w'=>K undef w'
 | .ok (.enter f args) w'=>w'=w/\Calls P f args w λe a=>∃v,e=.returned v/\K v a
 |_=>False
def iX(P:Program)(a:Act)(o:Oper)(w:World)(K:Value->World->Prop):Prop:=oH P w K ((execOp a.eval o).run P w)
theorem iX.wp{P:Program}{a:Act}{o:Oper}{w:World}{K:Value->World->Prop}{c:Act->World->Prop}{Q:Exit->Act->World->Prop}(h:iX P a o w K)(b:∀v w',K v w'->c (a.put o.dst v) w'):o.wp P a w c Q:=by
 unfold iX at h;unfold Oper.wp;generalize(execOp a.eval o).run P w=r at*;cases r with
 |ok n w'=>
  cases n<;>simp only[oH]at h<;>simp only[Oper.upon];case value u=>exact b _ _ h
  case skip=>exact b _ _ h
  case enter f args=>obtain⟨rfl,hc⟩:=h;exact hc.mono λe g ⟨v,he,d⟩=>by subst he;exact b _ _ d
 |halt x w'=>simp only[oH]at h
def ku(a:Act)(o:Oper):Value:=match o.dst with|some d=>a.eval (.tmp d)|none=>undef
def jB(ops:List Oper):List Nat:=ops.filterMap (·.dst)
def jF(o:Oper)(a:Nat):Bool:=o.after.toList.any λe=>Region.binds .any e&&e.on==a
def oq(ops:List Oper):Bool:=ops.all (λo=>o.guard.isNone)&&ops.zipIdx.all (λp=>p.1.after.all λe=>!Region.binds .any e||decide (e.on<p.2))&&decide ((jB ops).Nodup)
def vd(o:Oper)(v:Value):Value:=match o.dst with|some _=>v|none=>undef
abbrev lh:=List (Nat×(Value->World->Prop))
def jQ(ops:List Oper):Nat->Nat->Nat->Bool
 |0,_,_=>false
 |f+1,j,i=>match ops[j]? with
  |none=>false
  |some o=>o.after.toList.any λe=>Region.binds .any e&&(e.on==i||jQ ops f e.on i)
def Fm(P:Program)(ops:List Oper)(a0:Act)(G:World->Prop)(VP:Nat->Value->Prop)(f:lh)(i:Nat)(o:Oper):Prop:=
 ∀(a:Act) (w:World),G w->(∀t,(jB ops).contains t=false->a.eval (.tmp t)=a0.eval (.tmp t))->
  (∀c b,ops[c]?=some b->jF o c=true->VP c (ku a b))->(∀e∈f,∀b,ops[e.1]?=some b->jF o e.1=true->e.2 (ku a b) w)->
  (∀c b d,ops[c]?=some b->b.dst=some d->jQ ops ops.length c i=true->a.eval (.tmp d)=a0.eval (.tmp d))->
  iX P a o w λv w'=>VP i (vd o v)/\G w'/\∀e∈f,(e.1=i->e.2 (vd o v) w')/\(e.1≠i->jQ ops ops.length e.1 i=false->∀u,e.2 u w->e.2 u w')
def pS(P:Program)(ops:List Oper)(a0:Act)(G:World->Prop)(VP:Nat->Value->Prop)(a:lh):Nat->List Oper->Prop
 |_,[]=>True
 |i,o::rest=>Fm P ops a0 G VP a i o/\pS P ops a0 G VP a (i+1) rest
theorem pS.jr{P:Program}{ops:List Oper}{a0:Act}{G:World->Prop}{VP:Nat->Value->Prop}{a:lh}:∀{l:List Oper} {i:Nat},pS P ops a0 G VP a i l->∀(k:Nat) (o:Oper),l[k]?=some o->Fm P ops a0 G VP a (i+k) o
 |o::rest,i,⟨h,_⟩,0,o',ho=>by simp at ho;subst ho;exact h
 |o::rest,i,⟨_,h⟩,k+1,o',ho=>by have:=pS.jr h k o' (by simpa using ho);rwa [show i+1+k=i+(k+1)by omega]at this
 |[],_,_,k,_,ho=>by simp at ho
def je(a:Act):List Oper->(Nat->Value)->Nat->Act
 |[],_,_=>a
 |o::rest,val,k=>je (a.put o.dst (val k)) rest val (k+1)
theorem wK(a:Act)(d:Option Nat)(v:Value):(a.put d v).tmps.size=a.tmps.size:=by cases d<;>simp[Act.put]
theorem put_defers(a:Act)(d:Option Nat)(v:Value):(a.put d v).defers=a.defers:=by cases d<;>rfl
theorem pG:∀(ops:List Oper) (a:Act) (b:Nat->Value) (k:Nat),(je a ops b k).defers=a.defers
 |[],_,_,_=>rfl
 |o::rest,a,b,k=>by rw[je,pG rest,put_defers]
theorem om:∀(ops:List Oper) (a:Act) (b:Nat->Value) (k t:Nat),t∉jB ops->(je a ops b k).tmps[t]?=a.tmps[t]?
 |[],_,_,_,_,_=>rfl
 |o::rest,a,b,k,t,h=>by
  have c:t∉jB rest:=λhm=>h (by unfold jB at*;rw[Ll]at*;obtain⟨x,hx,e⟩:=hm;exact⟨x,Lr _ hx,e⟩);rw[je,om rest _ _ _ _ c];cases hd:o.dst with
  |none=>rfl
  |some d=>have f:d≠t:=λe=>h (by unfold jB;rw[Ll];exact⟨o,KY,by rw[hd,e]⟩);simp[Act.put,KN f]
theorem um:∀(ops:List Oper) (a:Act) (c:Nat->Value) (k b:Nat) (o:Oper) (d:Nat),(jB ops).Nodup->ops[b]?=some o->o.dst=some d->d<a.tmps.size->(je a ops c k).tmps[d]?=some (c (k+b))
 |[],_,_,_,b,_,_,_,h,_,_=>by simp at h
 |o::rest,a,c,k,0,o',d,hn,h,hd,H4=>by simp at h;subst h;have e:(jB (o::rest))=d::jB rest:=(by unfold jB;rw[KV,hd]);rw[e,La]at hn;rw[je,om rest _ _ _ _ hn.1,hd];simp[Act.put,H4]
 |o::rest,a,c,k,b+1,o',d,hn,h,hd,H4=>by
  have e:(jB rest).Nodup:=by
   unfold jB at*;rw[KV]at hn;cases hx:o.dst with
   |none=>rw[hx]at hn;exact hn
   |some x=>rw[hx]at hn;exact(La.1 hn).2
  rw[je,um rest _ c (k+1) b o' d e (by simpa using h) hd (by rw[wK];exact H4),show k+1+b=k+(b+1)by omega]
def G0(a:Array Bool):Nat:=(a.toList.filter (λb=>!b)).length
theorem Al{a:Array Bool}{i:Nat}(h:a.getD i true=false):G0 (a.setIfInBounds i true)+1=G0 a:=by
 obtain⟨l⟩:=a;unfold G0;simp only[JL];have c:l[i]?=some false:=by
  rw[KE]at h;simp at h;cases hx:l[i]? with
  |none=>rw[hx]at h;simp at h
  |some b=>rw[hx]at h;simp at h;rw[h]
 clear h;induction l generalizing i with
 |nil=>simp at c
 |cons b l d=>
  cases i with
  |zero=>simp at c;subst c;simp
  |succ i=>have:=d (i:=i) (by simpa using c);simp only[JO,List.filter_cons];cases b<;>simp<;>omega
theorem sF{ops:List Oper}{b:Array Bool}(hc:∀a c,ops[a]?=some c->b.getD a false=true->∀e∈c.after,Region.binds .any e=true->b.getD e.on false=true):∀(f a i:Nat),jQ ops f a i=true->b.getD a false=true->b.getD i false=true
 |0,_,_,h,_=>by cases h
 |f+1,a,i,h,hl=>by
  unfold jQ at h;cases ho:ops[a]? with
  |none=>rw[ho]at h;cases h
  |some o=>rw[ho]at h;simp only[List.any_eq_true,KO,Bool.or_eq_true,K0]at h;obtain⟨e,he,g,h⟩:=h;have d:=hc a o ho hl e (by simpa using he) g;rcases h with h|h;rw[<-h];exact d;exact sF hc f e.on i h d
theorem Am:∀{ops:List Oper} (_:(jB ops).Nodup) {i a:Nat} {b d:Oper} {c:Nat},ops[i]?=some b->ops[a]?=some d->b.dst=some c->d.dst=some c->i=a
 |[],_,_,_,_,_,_,h,_,_,_=>by simp at h
 |o::rest,hn,i,a,b,d,c,hi,hj,Fo,G1=>by
  have e:∀{k:Nat} {x:Oper},rest[k]?=some x->x.dst=some c->c∈jB rest:=λf hx=>by unfold jB;rw[Ll];exact⟨_,JM f,hx⟩
  cases i with
  |zero=>
   cases a with
   |zero=>rfl
   |succ a=>simp at hi hj;subst hi;unfold jB at hn;rw[KV,Fo]at hn;exact absurd (e hj G1) (La.1 hn).1
  |succ i=>
   cases a with
   |zero=>simp at hi hj;subst hj;unfold jB at hn;rw[KV,G1]at hn;exact absurd (e hi Fo) (La.1 hn).1
   |succ a=>
    simp at hi hj;have g:(jB rest).Nodup:=by
     unfold jB at*;rw[KV]at hn;cases hx:o.dst with
     |none=>rw[hx]at hn;exact hn
     |some x=>rw[hx]at hn;exact(La.1 hn).2
    rw[Am g hi hj Fo G1]
theorem A7{ops:List Oper}(hn:(jB ops).Nodup){i b:Nat}{j g:Oper}(hi:ops[i]?=some j)(f:ops[b]?=some g)(l:i≠b)(a:Act)(v:Value):ku (a.put j.dst v) g=ku a g:=by
 unfold ku;cases G1:g.dst with
 |none=>rfl
 |some d=>
  cases Fo:j.dst with
  |none=>rfl
  |some c=>
   have n:c≠d:=by
    intro e;subst e;apply l;clear l;induction ops generalizing i b with
    |nil=>simp at hi
    |cons o rest p=>
     have m:∀{k:Nat} {x:Oper},rest[k]?=some x->x.dst=some c->c∈jB rest:=λq hx=>by unfold jB;rw[Ll];exact⟨_,JM q,hx⟩
     cases i with
     |zero=>
      cases b with
      |zero=>rfl
      |succ b=>simp at hi f;subst hi;unfold jB at hn;rw[KV,Fo]at hn;exact absurd (m f G1) (La.1 hn).1
     |succ i=>
      cases b with
      |zero=>simp at hi f;subst f;unfold jB at hn;rw[KV,G1]at hn;exact absurd (m hi Fo) (La.1 hn).1
      |succ b=>
       simp at hi f;have r:(jB rest).Nodup:=by
        unfold jB at*;rw[KV]at hn;cases hx:o.dst with
        |none=>rw[hx]at hn;exact hn
        |some x=>rw[hx]at hn;exact(La.1 hn).2
       rw[p r hi f]
   simp[Act.eval,Act.put,KN n]
theorem yI{b:Oper}(a:Act)(v:Value)(h:∀d,b.dst=some d->d<a.tmps.size):ku (a.put b.dst v) b=vd b v:=by
 unfold ku vd;cases hd:b.dst with
 |none=>rfl
 |some d=>simp[Act.eval,Act.put,h d hd]
theorem sG{ops:List Oper}(d:∀i o,ops[i]?=some o->∀e∈o.after,Region.binds .any e=true->e.on<i){b:Array Bool}(hs:b.size=ops.length)(h:Region.ready .any ops.toArray b=[]):∀a,a<ops.length->b.getD a false=true:=by
 intro a;induction a using Nat.strongRecOn with
 |_ a f=>
  intro c;cases hx:b.getD a false with
  |true=>rfl
  |false=>
   exfalso;have g:ops.toArray[a]?=some ops[a]:=(by simp[c]);have hm:a∈Region.ready .any ops.toArray b:=by rw[mem_ready];refine⟨?_,ops[a],g,λe he j=>?_⟩;rw[KE]at hx⊢;rw[KW (by omega)]at hx⊢;simpa using hx;have k:=d a ops[a] (by simp[c]) e he j;exact f e.on k (by omega)
   rw[h]at hm;cases hm
def qC(ops:List Oper):Bool:=(List.range (ops.length-1)).all λa=>jQ ops ops.length (ops.length-1) a
def vo(ops:List Oper)(a:Act):Nat->Value:=λb=>if b<ops.length-1 then(match ops[b]? with|some o=>ku a o|none=>undef)else undef
def nX(P:Program)(all:List Oper)(a0:Act)(G:World->Prop)(g:(Nat->Value)->Value->World->Prop)(VP:Nat->Value->Prop)(f:lh):Nat->List Oper->Prop
 |_,[]=>True
 |i,o::rest=>(∀(a:Act) (w:World),G w->(∀t,(jB all).contains t=false->a.eval (.tmp t)=a0.eval (.tmp t))->
  (∀c b,all[c]?=some b->jF o c=true->VP c (ku a b))->(∀e∈f,∀b,all[e.1]?=some b->jF o e.1=true->e.2 (ku a b) w)->
  (∀c b d,all[c]?=some b->b.dst=some d->jQ all all.length c i=true->a.eval (.tmp d)=a0.eval (.tmp d))->
  match rest with
  |[]=>iX P a o w λv w'=>g (vo all a) (vd o v) w'
  |_=>iX P a o w λv w'=>VP i (vd o v)/\G w'/\∀e∈f,(e.1=i->e.2 (vd o v) w')/\(e.1≠i->jQ all all.length e.1 i=false->∀u,e.2 u w->e.2 u w'))/\nX P all a0 G g VP f (i+1) rest
theorem nX.jr{P:Program}{all:List Oper}{a0:Act}{G:World->Prop}{r:(Nat->Value)->Value->World->Prop}{VP:Nat->Value->Prop}{g:lh}:∀{l:List Oper} {i:Nat},nX P all a0 G r VP g i l->∀(k:Nat) (o:Oper),l[k]?=some o->(∀(a:Act) (w:World),G w->(∀t,(jB all).contains t=false->a.eval (.tmp t)=a0.eval (.tmp t))->
  (∀c b,all[c]?=some b->jF o c=true->VP c (ku a b))->(∀e∈g,∀b,all[e.1]?=some b->jF o e.1=true->e.2 (ku a b) w)->
  (∀c b d,all[c]?=some b->b.dst=some d->jQ all all.length c (i+k)=true->a.eval (.tmp d)=a0.eval (.tmp d))->
  (k+1=l.length->iX P a o w λv w'=>r (vo all a) (vd o v) w')/\
  (k+1<l.length->iX P a o w λv w'=>VP (i+k) (vd o v)/\G w'/\∀e∈g,(e.1=i+k->e.2 (vd o v) w')/\(e.1≠i+k->jQ all all.length e.1 (i+k)=false->∀u,e.2 u w->e.2 u w')))
 |o::rest,i,⟨h,_⟩,0,o',ho=>by
  simp at ho;subst ho;intro a w j m n p q;have:=h a w j m n p q;refine⟨λf=>?_,λf=>?_⟩;cases rest with
  |nil=>exact this
  |cons x l=>simp at f
  cases rest with
  |nil=>simp at f
  |cons x l=>exact this
 |o::rest,i,⟨_,h⟩,k+1,o',ho=>by intro a w j m n p q;have e:i+1+k=i+(k+1):=(by omega);have:=nX.jr h k o' (by simpa using ho) a w j m n p (λc b d s hd y=>q c b d s hd (by rw[<-e];exact y));rw[e]at this;exact⟨λf=>this.1 (by simpa using f),λf=>this.2 (by simpa using f)⟩
 |[],_,_,k,_,ho=>by simp at ho
abbrev vB(P:Program)(all:List Oper)(a0:Act)(G:World->Prop)(a:Value->World->Prop)(VP:Nat->Value->Prop)(b:lh):Nat->List Oper->Prop:=nX P all a0 G (λ_=>a) VP b
abbrev rP:=List (Nat×Nat×(Value->Value->World->Prop))
def nV(ops:List Oper):Bool:=ops.zipIdx.all (λp=>p.1.after.all λe=>!Region.binds .any e||decide (e.on<p.2))&&decide ((jB ops).Nodup)
def qY(ops:List Oper)(VP:Nat->Value->Prop):List Oper->Prop
 |[]=>True
 |o::rest=>(match o.guard with
  |none=>True
  |some (g,b)=>jF o g=true/\((ops[g]?).bind (·.dst)).isSome=true/\∀v,VP g v->v=.bool b)/\qY ops VP rest
theorem qY.jr{ops:List Oper}{VP:Nat->Value->Prop}:∀{l:List Oper},qY ops VP l->∀o∈l,∀g b,o.guard=some (g,b)->jF o g=true/\((ops[g]?).bind (·.dst)).isSome=true/\∀v,VP g v->v=.bool b
 |o::rest,⟨h,hr⟩,o',a,g,b,hg=>by rcases Kf.1 a with rfl|a;rw[hg]at h;exact h;exact qY.jr hr o' a g b hg
 |[],_,o',a,_,_,_=>by simp at a
def AU(P:Program)(ops:List Oper)(a0:Act)(G:World->Prop)(VP:Nat->Value->Prop)(f:rP)(i:Nat)(o:Oper):Prop:=
 ∀(a:Act) (w:World),G w->(∀t,(jB ops).contains t=false->a.eval (.tmp t)=a0.eval (.tmp t))->
  (∀c b,ops[c]?=some b->jF o c=true->VP c (ku a b))->(∀e∈f,∀b ok,ops[e.1]?=some b->ops[e.2.1]?=some ok->jF o e.1=true->e.2.2 (ku a b) (ku a ok) w)->
  (∀c b d,ops[c]?=some b->b.dst=some d->jQ ops ops.length c i=true->a.eval (.tmp d)=a0.eval (.tmp d))->
  iX P a o w λv w'=>VP i (vd o v)/\G w'/\∀e∈f,(e.1=i->∀ok,ops[e.2.1]?=some ok->e.2.2 (vd o v) (if e.2.1=i then vd o v else ku a ok) w')/\(e.1≠i->jQ ops ops.length e.1 i=false->∀u u2,e.2.2 u u2 w->e.2.2 u u2 w')
def oV(P:Program)(ops:List Oper)(a0:Act)(G:World->Prop)(VP:Nat->Value->Prop)(a:rP):Nat->List Oper->Prop
 |_,[]=>True
 |i,o::rest=>AU P ops a0 G VP a i o/\oV P ops a0 G VP a (i+1) rest
theorem oV.jr{P:Program}{ops:List Oper}{a0:Act}{G:World->Prop}{VP:Nat->Value->Prop}{a:rP}:∀{l:List Oper} {i:Nat},oV P ops a0 G VP a i l->∀(k:Nat) (o:Oper),l[k]?=some o->AU P ops a0 G VP a (i+k) o
 |o::rest,i,⟨h,_⟩,0,o',ho=>by simp at ho;subst ho;exact h
 |o::rest,i,⟨_,h⟩,k+1,o',ho=>by have:=oV.jr h k o' (by simpa using ho);rwa [show i+1+k=i+(k+1)by omega]at this
 |[],_,_,k,_,ho=>by simp at ho
theorem rf{ops:List Oper}(h:nV ops=true):(∀i o,ops[i]?=some o->∀e∈o.after,Region.binds .any e=true->e.on<i)/\(jB ops).Nodup:=by unfold nV at h;simp only[KO,KT,Lp]at h;obtain⟨b,c⟩:=h;refine⟨λi o d e he f=>?_,c⟩;have:=b (o,i) (List.mem_zipIdx_iff_getElem?.2 (by simpa using d));rw[Array.all_eq_true_iff_forall_mem]at this;have a:=this e he;rw[f]at a;simpa using a
def CB(ops:List Oper)(p:Nat):Bool:=decide (p<ops.length)&&(List.range ops.length).all λa=>(if a<p then jQ ops ops.length p a else true)&&(if p<a then(match ops[a]? with|some o=>jF o p|none=>true)else true)
def AW(P:Program)(ops:List Oper)(a0:Act)(G:Bool->World->Prop)(p:Nat)(VP:Nat->Value->Prop)(f:lh)(i:Nat)(o:Oper):Prop:=
 ∀(a:Act) (w:World),G (decide (p<i)) w->(∀t,(jB ops).contains t=false->a.eval (.tmp t)=a0.eval (.tmp t))->
  (∀c b,ops[c]?=some b->jF o c=true->VP c (ku a b))->(∀e∈f,∀b,ops[e.1]?=some b->jF o e.1=true->e.2 (ku a b) w)->
  (∀c b d,ops[c]?=some b->b.dst=some d->jQ ops ops.length c i=true->a.eval (.tmp d)=a0.eval (.tmp d))->
  iX P a o w λv w'=>VP i (vd o v)/\G (decide (p<=i)) w'/\∀e∈f,(e.1=i->e.2 (vd o v) w')/\(e.1≠i->jQ ops ops.length e.1 i=false->∀u,e.2 u w->e.2 u w')
def oW(P:Program)(ops:List Oper)(a0:Act)(G:Bool->World->Prop)(p:Nat)(VP:Nat->Value->Prop)(a:lh):Nat->List Oper->Prop
 |_,[]=>True
 |i,o::rest=>AW P ops a0 G p VP a i o/\oW P ops a0 G p VP a (i+1) rest
theorem oW.jr{P:Program}{ops:List Oper}{a0:Act}{G:Bool->World->Prop}{p:Nat}{VP:Nat->Value->Prop}{a:lh}:∀{l:List Oper} {i:Nat},oW P ops a0 G p VP a i l->∀(k:Nat) (o:Oper),l[k]?=some o->AW P ops a0 G p VP a (i+k) o
 |o::rest,i,⟨h,_⟩,0,o',ho=>by simp at ho;subst ho;exact h
 |o::rest,i,⟨_,h⟩,k+1,o',ho=>by have:=oW.jr h k o' (by simpa using ho);rwa [show i+1+k=i+(k+1)by omega]at this
 |[],_,_,k,_,ho=>by simp at ho
def He(P:Program)(ops:List Oper)(a0:Act)(G:(Nat->Bool)->World->Prop)(VP:Nat->Value->Prop)(f:lh)(i:Nat)(o:Oper):Prop:=
 ∀(L:Nat->Bool) (a:Act) (w:World),L i=false->(∀b,jF o b=true->L b=true)->(∀b,jQ ops ops.length b i=true->L b=false)->G L w->(∀t,(jB ops).contains t=false->a.eval (.tmp t)=a0.eval (.tmp t))->
  (∀b c,ops[b]?=some c->jF o b=true->VP b (ku a c))->(∀e∈f,∀c,ops[e.1]?=some c->jF o e.1=true->e.2 (ku a c) w)->
  (∀b c d,ops[b]?=some c->c.dst=some d->jQ ops ops.length b i=true->a.eval (.tmp d)=a0.eval (.tmp d))->
  iX P a o w λv w'=>VP i (vd o v)/\G (λb=>if b=i then true else L b) w'/\∀e∈f,(e.1=i->e.2 (vd o v) w')/\(e.1≠i->jQ ops ops.length e.1 i=false->∀u,e.2 u w->e.2 u w')
def oX(P:Program)(ops:List Oper)(a0:Act)(G:(Nat->Bool)->World->Prop)(VP:Nat->Value->Prop)(a:lh):Nat->List Oper->Prop
 |_,[]=>True
 |i,o::rest=>He P ops a0 G VP a i o/\oX P ops a0 G VP a (i+1) rest
theorem oX.jr{P:Program}{ops:List Oper}{a0:Act}{G:(Nat->Bool)->World->Prop}{VP:Nat->Value->Prop}{a:lh}:∀{l:List Oper} {i:Nat},oX P ops a0 G VP a i l->∀(k:Nat) (o:Oper),l[k]?=some o->He P ops a0 G VP a (i+k) o
 |o::rest,i,⟨h,_⟩,0,o',ho=>by simp at ho;subst ho;exact h
 |o::rest,i,⟨_,h⟩,k+1,o',ho=>by have:=oX.jr h k o' (by simpa using ho);rwa [show i+1+k=i+(k+1)by omega]at this
 |[],_,_,k,_,ho=>by simp at ho
def sv(ops:List Oper)(a:Act):Nat->Value:=λb=>match ops[b]? with|some o=>ku a o|none=>undef
def up{a:Type}(f:Nat->a)(i:Nat)(x:a):Nat->a:=λb=>if b=i then x else f b
theorem oG{ops:List Oper}{a:Act}{b:Nat}{o:Oper}(h:ops[b]?=some o):sv ops a b=ku a o:=by simp[sv,h]
section
variable {P:Program} {ops:List Oper} {a0:Act} {Q:Exit→Act→World→Prop}
theorem iX.imp{a:Act}{o:Oper}{w:World}{K c:Value->World->Prop}(h:iX P a o w K)(b:∀v w',K v w'->c v w'):iX P a o w c:=by
 unfold iX at*;generalize(execOp a.eval o).run P w=r at*;cases r with
 |ok n w'=>
  cases n<;>simp only[oH]at h⊢;case value u=>exact b _ _ h
  case skip=>exact b _ _ h
  case enter f args=>exact⟨h.1,h.2.mono λe g ⟨v,he,d⟩=>⟨v,he,b _ _ d⟩⟩
 |halt x w'=>simp only[oH]at h
structure RU(ops:List Oper)(a0:Act)(J:(Nat->Bool)->(Nat->Value)->World->Prop)(listed:Array Bool)(a:Act)(w:World):Prop where
 size:listed.size=ops.length
 defers:a.defers=a0.defers
 Ae:a.tmps.size=a0.tmps.size
 fix:∀t,(jB ops).contains t=false->a.tmps[t]?=a0.tmps[t]?
 Hf:∀j oj d,ops[j]?=some oj->oj.dst=some d->listed.getD j false=false->a.tmps[d]?=a0.tmps[d]?
 closed:∀j oj,ops[j]?=some oj->listed.getD j false=true->∀e∈oj.after,Region.binds .any e=true->listed.getD e.on false=true
 j:J (λj=>listed.getD j false) (sv ops a) w
def HR(P:Program)(ops:List Oper)(a0:Act)(e:(Nat->Bool)->(Nat->Value)->World->Prop)(i:Nat)(o:Oper):Prop:=
 ∀(L:Nat->Bool) (a:Act) (w:World),L i=false->(∀c,jF o c=true->L c=true)->(∀k c,L k=true->jQ ops ops.length k c=true->L c=true)->(∀t,(jB ops).contains t=false->a.eval (.tmp t)=a0.eval (.tmp t))->
  (∀c f d,ops[c]?=some f->f.dst=some d->L c=false->a.eval (.tmp d)=a0.eval (.tmp d))->e L (sv ops a) w->
  (∀g b,o.guard=some (g,b)->((ops[g]?).bind (·.dst)).isSome=true/\sv ops a g=.bool b)/\iX P a o w λv w'=>e (up L i true) (up (sv ops a) i (vd o v)) w'
theorem RU.final{j:(Nat->Bool)->(Nat->Value)->World->Prop}(hn:(jB ops).Nodup)(k:∀o∈ops,∀d,o.dst=some d->d<a0.tmps.size){l:Array Bool}{a:Act}{w:World}(h:RU ops a0 j l a w)
  (u:∀c,c<ops.length->l.getD c false=true) (v:∀(L:Nat->Bool) (m:Nat->Value) (w:World),(∀c,c<ops.length->L c=true)->j L m w->Q .normal (je a0 ops m 0) w):Q .normal a w:=by
 have:=v _ _ w u h.j;have he:je a0 ops (sv ops a) 0=a:=by
  have n:(je a0 ops (sv ops a) 0).tmps=a.tmps:=by apply Array.ext_getElem?;intro t;by_cases f:t∈jB ops;have g:=f;unfold jB at g;rw[Ll]at g;obtain⟨o,i,hd⟩:=g;obtain⟨c,x,e⟩:=List.getElem_of_mem i;have p:ops[c]?=some o:=(by simp[x,e]);rw[um ops a0 _ 0 c o t hn p hd (k o i t hd),J4,oG p];have y:t<a.tmps.size:=(by rw[h.Ae];exact k o i t hd);simp[ku,hd,Act.eval,KW y];rw[om ops a0 _ 0 t f];exact(h.fix t (by simpa using f)).symm
  have q:=pG ops a0 (sv ops a) 0;have r:=h.defers;generalize sv ops a=s at*;obtain⟨z,A⟩:=a;generalize je a0 ops s 0=b at*;obtain⟨B,C⟩:=b;simp only at n q r;rw[n,q,r]
 rw[he]at this;exact this
theorem RU.step{x:(Nat->Bool)->(Nat->Value)->World->Prop}(hn:(jB ops).Nodup)(D:∀o∈ops,∀d,o.dst=some d->d<a0.tmps.size)(R:∀i o,ops[i]?=some o->HR P ops a0 x i o){m:Array Bool}{a:Act}{w:World}(h:RU ops a0 x m a w){i:Nat}(hi:i∈Region.ready .any ops.toArray m)
  {K:Act->World->Prop} (hK:∀a w,RU ops a0 x (m.setIfInBounds i true) a w->K a w):wpOp P ops.toArray Q i K a w:=by
 rw[mem_ready]at hi;obtain⟨r,o,E,F⟩:=hi;have n:ops[i]?=some o:=by simpa using E
 have S:∀f,jF o f=true->m.getD f false=true:=λf j=>by unfold jF at j;rw[List.any_eq_true]at j;obtain⟨k,y,j⟩:=j;simp only[KO,K0]at j;have:=F k (by simpa using y) j.1;rwa [j.2]at this
 have G:∀{t:Nat},a.tmps[t]?=a0.tmps[t]? ->a.eval (.tmp t)=a0.eval (.tmp t):=λh=>by simp only[Act.eval,KE,h]
 have I:i<m.size:=by rcases Lv i m.size with z|z;exact z;rw[KE,Array.getElem?_eq_none z]at r;simp at r
 have T:m.getD i false=false:=by rw[KE]at r⊢;rw[KW I]at r⊢;simpa using r
 obtain⟨U,hp⟩:=R i o n (λf=>m.getD f false) a w T S (λk f y hd=>sF h.closed _ k f hd y) (λt u=>G (h.fix t u)) (λf q d j hd hx=>G (h.Hf f q d j hd hx)) h.j;unfold wpOp;simp only[E];have V:Region.wanted o (yielded ops.toArray a.tmps)=true:=by
  unfold Region.wanted;cases hg:o.guard with
  |none=>rfl
  |some gb=>
   obtain⟨g,b⟩:=gb;obtain⟨J,p⟩:=U g b hg;rw[Option.isSome_iff_exists]at J;obtain⟨d,hd⟩:=J;rw[Option.bind_eq_some_iff]at hd;obtain⟨L,A,hd⟩:=hd;rw[oG A]at p;have M:d<a.tmps.size:=(by rw[h.Ae];exact D L (JM A) d hd);have W:a.tmps[d]?=some (.bool b):=by unfold ku at p;rw[hd]at p;simp only[Act.eval,KE,KW M,Li]at p;rw[KW M,p]
   have X:ops.toArray[g]?=some L:=(by simpa using A);simp[yielded,X,hd,W]
 rw[Kn V];refine .inl (hp.wp λv w' p=>hK _ _ ?_);have Y:∀d,o.dst=some d->d<a.tmps.size:=λd hd=>by rw[h.Ae];exact D o (JM n) d hd
 have B:∀f,f≠i->(m.setIfInBounds i true).getD f false=m.getD f false:=λf j=>getD_set_ne false (Lx j);have N:(m.setIfInBounds i true).getD i false=true:=by rw[KE,Array.getElem?_setIfInBounds_self_of_lt I];rfl
 refine⟨by simpa using h.size,by rw[put_defers];exact h.defers,by rw[wK];exact h.Ae,λt u=>?_,λf q d j hd s=>?_,λf q j s e he O=>?_,?_⟩
 .rw[<-h.fix t u];cases hd:o.dst with
  |none=>rfl
  |some d=>
   have C:d≠t:=λe=>by have:t∈jB ops:=(by unfold jB;rw[Ll];exact⟨o,JM n,by rw[hd,e]⟩);rw[<-List.contains_iff_mem,u]at this;cases this
   simp[Act.put,KN C]
 .have l:f≠i:=λe=>by subst e;rw[N]at s;cases s
  rw[<-h.Hf f q d j hd (by rw[<-B f l];exact s)];cases Fo:o.dst with
  |none=>rfl
  |some c=>
   have C:c≠d:=λe=>by subst e;exact l (Am hn j n hd Fo)
   simp[Act.put,KN C]
 .by_cases l:f=i;subst l;rw[n]at j;injection j with j;subst j;exact getD_set_true (F e he O);exact getD_set_true (h.closed f q j (by rw[<-B f l];exact s) e he O)
 .have Z:(λf=>(m.setIfInBounds i true).getD f false)=up (λf=>m.getD f false) i true:=by funext f;unfold up;by_cases l:f=i;rw[Kn l,l,N];rw[Ka l,B f l]
  have aa:sv ops (a.put o.dst v)=up (sv ops a) i (vd o v):=by
   funext f;unfold up;by_cases l:f=i;rw[Kn l,l,oG n,yI a v Y];rw[Ka l];cases j:ops[f]? with
   |none=>simp[sv,j]
   |some q=>rw[oG j,oG j,A7 hn n j (Lx l)]
  rw[Z,aa];exact p
theorem RU.any{g:(Nat->Bool)->(Nat->Value)->World->Prop}(j:∀i o,ops[i]?=some o->∀e∈o.after,Region.binds .any e=true->e.on<i)(hn:(jB ops).Nodup)(c:∀o∈ops,∀d,o.dst=some d->d<a0.tmps.size)(l:∀i o,ops[i]?=some o->HR P ops a0 g i o)
  (k:∀(L:Nat->Bool) (m:Nat->Value) (w:World),(∀n,n<ops.length->L n=true)->g L m w->Q .normal (je a0 ops m 0) w):
  ∀(f:Nat) (b:Array Bool) (a:Act) (w:World),G0 b=f->RU ops a0 g b a w->wpAny P .any ops.toArray Q f b a w
 |0,b,a,w,hu,h=>by
  have hr:Region.ready .any ops.toArray b=[]:=by
   cases hx:Region.ready .any ops.toArray b with
   |nil=>rfl
   |cons i s=>have:i∈Region.ready .any ops.toArray b:=(by rw[hx];exact KY);rw[mem_ready]at this;have:=Al this.1;omega
  exact⟨hr,h.final hn c (sG j h.size hr) k⟩
 |f+1,b,a,w,hu,h=>by refine⟨λhr=>h.final hn c (sG j h.size hr) k,λi hi=>h.step hn c l hi λq w' r=>?_⟩;have p:=hi;rw[mem_ready]at p;have:=Al p.1;exact RU.any j hn c l k f _ q w' (by omega) r
theorem Fv{w0:World}(c:(Nat->Bool)->(Nat->Value)->World->Prop)(j:nV ops=true)(k:(ops.all λo=>match o.dst with|some d=>decide (d<a0.tmps.size)|none=>true)=true)
  (l:∀b,c (λ_=>false) b {w0 with drawn:=w0.drawn+1}) (m:∀i o,ops[i]?=some o->HR P ops a0 c i o)
  (n:∀(L:Nat->Bool) (b:Nat->Value) (w:World),(∀a,a<ops.length->L a=true)->c L b w->Q .normal (je a0 ops b 0) w):wpAny P .any ops.toArray Q ops.toArray.size (Array.replicate ops.toArray.size false) a0 {w0 with drawn:=w0.drawn+1}:=by
 obtain⟨p,hn⟩:=rf j;have q:∀o∈ops,∀d,o.dst=some d->d<a0.tmps.size:=λo r d hd=>by have:=KT.1 k o r;rw[hd]at this;simpa using this
 have f:∀a,(Array.replicate ops.toArray.size false).getD a false=false:=λa=>by rw[KE,Array.getElem?_replicate];split<;>rfl
 have hu:G0 (Array.replicate ops.toArray.size false)=ops.toArray.size:=by simp[G0]
 refine RU.any p hn q m n _ _ _ _ hu ⟨by simp,rfl,rfl,λ_ _=>rfl,λ_ _ _ _ _ _=>rfl,λa s t g=>?_,?_⟩
 .rw[f a]at g;cases g
 .have e:(λa=>(Array.replicate ops.toArray.size false).getD a false)=λ_=>false:=funext f;rw[e];exact l _
theorem xt{id:Nat}{w0:World}(a:(Nat->Bool)->(Nat->Value)->World->Prop)(hm:P.follows .mixedOrders=true)(e:nV ops=true)(f:(ops.all λo=>match o.dst with|some d=>decide (d<a0.tmps.size)|none=>true)=true)
  (g:∀b,a (λ_=>false) b {w0 with drawn:=w0.drawn+1}) (j:∀i o,ops[i]?=some o->HR P ops a0 a i o)
  (k:∀(L:Nat->Bool) (b:Nat->Value) (w:World),(∀c,c<ops.length->L c=true)->a L b w->Q .normal (je a0 ops b 0) w):(Code.region id ops.toArray true).wp P Q a0 w0:=
 wp_region_any hm (Fv a e f g j k)
abbrev Hg:=List (Nat×Nat×((Nat->Bool)->Value->Value->World->Prop))
def Ik(P:Program)(ops:List Oper)(a0:Act)(G:(Nat->Bool)->World->Prop)(VP:Nat->Value->Prop)(f:Hg)(i:Nat)(o:Oper):Prop:=
 ∀(L:Nat->Bool) (a:Act) (w:World),L i=false->(∀b,jF o b=true->L b=true)->(∀b,jQ ops ops.length b i=true->L b=false)->G L w->(∀t,(jB ops).contains t=false->a.eval (.tmp t)=a0.eval (.tmp t))->
  (∀b c,ops[b]?=some c->jF o b=true->VP b (ku a c))->(∀e∈f,∀c ok,ops[e.1]?=some c->ops[e.2.1]?=some ok->jF o e.1=true->e.2.2 L (ku a c) (ku a ok) w)->
  (∀b c d,ops[b]?=some c->c.dst=some d->jQ ops ops.length b i=true->a.eval (.tmp d)=a0.eval (.tmp d))->
  iX P a o w λv w'=>VP i (vd o v)/\G (up L i true) w'/\∀e∈f,(e.1=i->∀ok,ops[e.2.1]?=some ok->e.2.2 (up L i true) (vd o v) (if e.2.1=i then vd o v else ku a ok) w')/\(e.1≠i->jQ ops ops.length e.1 i=false->∀u u2,e.2.2 L u u2 w->e.2.2 (up L i true) u u2 w')
theorem mS{id:Nat}{w0:World}(G:(Nat->Bool)->World->Prop)(VP:Nat->Value->Prop)(q:Hg)(hm:P.follows .mixedOrders=true)(M:nV ops=true)(N:∀e∈q,e.2.1=e.1\/jQ ops ops.length e.1 e.2.1=true)(O:qY ops VP ops)(n:Nat)(hn:a0.tmps.size=n)(R:(ops.all λo=>match o.dst with|some d=>decide (d<n)|none=>true)=true)(S:G (λ_=>false) {w0 with drawn:=w0.drawn+1})(T:∀i o,ops[i]?=some o->Ik P ops a0 G VP q i o)
  (U:∀(L:Nat->Bool) (j:Nat->Value) (w:World),(∀c,c<ops.length->L c=true)->G L w->(∀c,c<ops.length->VP c (j c))->(∀e∈q,e.1<ops.length->e.2.1<ops.length->e.2.2 L (j e.1) (j e.2.1) w)->Q .normal (je a0 ops j 0) w):(Code.region id ops.toArray true).wp P Q a0 w0:=by
 subst hn;have r:∀{c:Nat} {o:Oper},ops[c]?=some o->c<ops.length:=λh=>(J6.1 h).1;refine xt (λL j w=>G L w/\(∀c,c<ops.length->L c=true->VP c (j c))/\∀e∈q,e.1<ops.length->e.2.1<ops.length->L e.1=true->e.2.2 L (j e.1) (j e.2.1) w) hm M R (λ_=>⟨S,λ_ _ h=>Bool.noConfusion h,λ_ _ _ _ h=>Bool.noConfusion h⟩) (λi o hi L a w y s hc hf hw ⟨g,m,hd⟩=>⟨λz b V=>?_,?_⟩) (λL j w hL ⟨g,m,hd⟩=>U L j w hL g (λc f=>m c f (hL c f)) λe he t A=>hd e he t A (hL _ t))
 .obtain⟨W,B,X⟩:=O.jr o (JM hi) z b V;refine⟨B,?_⟩;rw[Option.isSome_iff_exists]at B;obtain⟨d,hd⟩:=B;rw[Option.bind_eq_some_iff]at hd;obtain⟨aa,Y,_⟩:=hd;exact X _ (m z (r Y) (s z W))
 .have C:∀c,jQ ops ops.length c i=true->L c=false:=λc f=>by
   cases hx:L c with
   |false=>rfl
   |true=>have:=hc c i hx f;rw[y]at this;cases this
  refine(T i o hi L a w y s C g hf (λc D f E=>oG f▸m c (r f) (s c E)) (λe he D ok f p E=>oG f▸oG p▸hd e he (r f) (r p) (s _ E)) λc D d f hd' hx=>hw c D d f hd' (C c hx)).imp λv w' ⟨t,A,I⟩=>⟨A,λc f hL=>?_,λe he Z J hL=>?_⟩
  unfold up at hL⊢;by_cases k:c=i;rw[Kn k,k];exact t;rw[Ka k]at hL⊢;exact m c f hL;have p:ops[e.2.1]?=some ops[e.2.1]:=(by simp[J]);by_cases k:e.1=i;have u:=(I e he).1 k _ p;rw[show up (sv ops a) i (vd o v) e.1=vd o v by unfold up;rw[Kn k]];by_cases l:e.2.1=i;rw[Kn l]at u;rw[show up (sv ops a) i (vd o v) e.2.1=vd o v by unfold up;rw[Kn l]];exact u;rw[Ka l]at u;rw[show up (sv ops a) i (vd o v) e.2.1=ku a ops[e.2.1]by unfold up;rw[Ka l,oG p]];exact u;have F:L e.1=true:=(by unfold up at hL;rw[Ka k]at hL;exact hL);have l:e.2.1≠i:=λK=>by rcases N e he with x|x;exact k (x.symm.trans K);rw[K]at x;have:=hc _ _ F x;rw[y]at this;cases this
  rw[show up (sv ops a) i (vd o v) e.1=sv ops a e.1 by unfold up;rw[Ka k],show up (sv ops a) i (vd o v) e.2.1=sv ops a e.2.1 by unfold up;rw[Ka l]];refine(I e he).2 k ?_ _ _ (hd e he Z J F);cases hx:jQ ops ops.length e.1 i with
  |false=>rfl
  |true=>have:=C _ hx;rw[F]at this;cases this
theorem vC{VP:Nat->Value->Prop}:∀{l:List Oper},(∀o∈l,o.guard=none)->qY ops VP l
 |[],_=>trivial
 |o::l,h=>⟨by rw[h o (by simp)];trivial,vC λo a=>h o (by simp[a])⟩
theorem H5(h:oq ops=true):nV ops=true/\∀o∈ops,o.guard=none:=by unfold oq at h;unfold nV;simp only[KO]at h⊢;exact⟨⟨h.1.2,h.2⟩,λo a=>by simpa using KT.1 h.1.1 o a⟩
theorem tq{id:Nat}{w0:World}(G:World->Prop)(VP:Nat->Value->Prop)(c:rP)(hm:P.follows .mixedOrders=true)(k:nV ops=true)(l:(c.all λe=>e.2.1==e.1||jQ ops ops.length e.1 e.2.1)=true)(m:qY ops VP ops)(n:Nat)(hn:a0.tmps.size=n)(p:(ops.all λo=>match o.dst with|some d=>decide (d<n)|none=>true)=true)(q:G {w0 with drawn:=w0.drawn+1})(r:oV P ops a0 G VP c 0 ops)
  (s:∀(b:Nat->Value) (w:World),G w->(∀f,f<ops.length->VP f (b f))->(∀e∈c,e.1<ops.length->e.2.1<ops.length->e.2.2 (b e.1) (b e.2.1) w)->Q .normal (je a0 ops b 0) w):(Code.region id ops.toArray true).wp P Q a0 w0:=by
 refine mS (λ_=>G) VP (c.map λe=>(e.1,e.2.1,λ_=>e.2.2)) hm k ?_ m n hn p q (λi o hi L a w _ _ _ g hf j hd hw=>?_) λ_ b w _ g j hd=>s b w g j λe he=>hd _ (Lf he)
 .rw[Lg];exact λe he=>by simpa using KT.1 l e he
 .have:=r.jr i o hi;rw[J4]at this;refine(this a w g hf j (λe he=>hd _ (Lf he)) hw).imp λv w' ⟨t,u,x⟩=>⟨t,u,?_⟩
  rw[Lg];exact x
theorem kA{id:Nat}{w0:World}(G:(Nat->Bool)->World->Prop)(VP:Nat->Value->Prop)(j:lh)(hm:P.follows .mixedOrders=true)(q:oq ops=true)(n:Nat)(hn:a0.tmps.size=n)(r:(ops.all λo=>match o.dst with|some d=>decide (d<n)|none=>true)=true)(s:G (λ_=>false) {w0 with drawn:=w0.drawn+1})(t:oX P ops a0 G VP j 0 ops)
  (x:∀(L:Nat->Bool) (c:Nat->Value) (w:World),(∀b,b<ops.length->L b=true)->G L w->(∀b,b<ops.length->VP b (c b))->(∀e∈j,e.1<ops.length->e.2 (c e.1) w)->Q .normal (je a0 ops c 0) w):(Code.region id ops.toArray true).wp P Q a0 w0:=by
 obtain⟨y,z⟩:=H5 q;refine mS G VP (j.map λe=>(e.1,e.1,λ_ v _ w=>e.2 v w)) hm y ?_ (vC z) n hn r s (λi o hi L a w hL A hx g hf k hd hw=>?_) λL c w hL g k hd=>x L c w hL g k λe he f=>hd _ (Lf he) f f
 .rw[Lg];exact λ_ _=>.inl rfl
 .have:=t.jr i o hi;rw[J4]at this;refine(this L a w hL A hx g hf k (λe he l m=>hd _ (Lf he) l l m m) hw).imp λv w' ⟨f,B,p⟩=>⟨f,B,?_⟩
  rw[Lg];exact λe he=>⟨λh _ _=>(p e he).1 h,λh hd u _=>(p e he).2 h hd u⟩
theorem tS{id:Nat}{w0:World}(G:World->Prop)(VP:Nat->Value->Prop)(b:lh)(hm:P.follows .mixedOrders=true)(j:oq ops=true)(n:Nat)(hn:a0.tmps.size=n)(k:(ops.all λo=>match o.dst with|some d=>decide (d<n)|none=>true)=true)(m:G {w0 with drawn:=w0.drawn+1})(p:pS P ops a0 G VP b 0 ops)
  (q:∀(c:Nat->Value) (w:World),G w->(∀f,f<ops.length->VP f (c f))->(∀e∈b,e.1<ops.length->e.2 (c e.1) w)->Q .normal (je a0 ops c 0) w):(Code.region id ops.toArray true).wp P Q a0 w0:=by
 refine kA (λ_=>G) VP b hm j n hn k m ?_ λ_ c w _ g r hd=>q c w g r hd;have:∀{l:List Oper} {i:Nat},pS P ops a0 G VP b i l->oX P ops a0 (λ_=>G) VP b i l:=λ{l}=>by
  induction l with
  |nil=>exact λ_=>trivial
  |cons o l s=>exact λh=>⟨λ_ a w _ _ _=>h.1 a w,s h.2⟩
 exact this p
theorem tr{id:Nat}{w0:World}(p:Nat)(G:Bool->World->Prop)(VP:Nat->Value->Prop)(j:lh)(hm:P.follows .mixedOrders=true)(t:oq ops=true)(c:CB ops p=true)(n:Nat)(hn:a0.tmps.size=n)(x:(ops.all λo=>match o.dst with|some d=>decide (d<n)|none=>true)=true)(y:G false {w0 with drawn:=w0.drawn+1})(z:oW P ops a0 G p VP j 0 ops)
  (A:∀(f:Nat->Value) (w:World),G true w->(∀k,k<ops.length->VP k (f k))->(∀e∈j,e.1<ops.length->e.2 (f e.1) w)->Q .normal (je a0 ops f 0) w):(Code.region id ops.toArray true).wp P Q a0 w0:=by
 obtain⟨B,C⟩:=H5 t;unfold CB at c;simp only[KO,Lp,KT,List.mem_range]at c;obtain⟨hp,c⟩:=c;refine mS (λL=>G (L p)) VP (j.map λe=>(e.1,e.1,λ_ v _ w=>e.2 v w)) hm B ?_ (vC C) n hn x y (λi o hi L a w hL D hx g hf l hd hw=>?_) λL f w hL g l hd=>A f w (hL p hp▸g) l λe he b=>hd _ (Lf he) b b
 .rw[Lg];exact λ_ _=>.inl rfl
 .have:=z.jr i o hi;rw[J4]at this;have E:i<ops.length:=(J6.1 hi).1;have b:=c i E;rw[hi]at b;have m:L p=decide (p<i):=by rcases Nat.lt_trichotomy i p with h|h|h;rw[Kn h]at b;rw[hx p b.1];simp;omega;rw[<-h,hL];simp;rw[Kn h]at b;rw[D p b.2];simp[h]
  have F:up L i true p=decide (p<=i):=by unfold up;by_cases h:p=i;rw[Kn h,h];simp;rw[Ka h,m];simp;omega
  refine(this a w (m▸g) hf l (λe he q r=>hd _ (Lf he) q q r r) hw).imp λv w' ⟨b,I,s⟩=>⟨b,by show G (up L i true p) w';rw[F];exact I,?_⟩
  rw[Lg];exact λe he=>⟨λh _ _=>(s e he).1 h,λh hd u _=>(s e he).2 h hd u⟩
theorem wL{w0:World}(G:World->Prop)(p:(Nat->Value)->Value->World->Prop)(VP:Nat->Value->Prop)(s:lh)(E:oq ops=true)(t:qC ops=true)(W:0<ops.length)(n:Nat)(hn:a0.tmps.size=n)(F:(ops.all λo=>match o.dst with|some d=>decide (d<n)|none=>true)=true)(I:G {w0 with drawn:=w0.drawn+1})(J:nX P ops a0 G p VP s 0 ops)
  (K:∀(j:Nat->Value) (w:World),(∀c,c<ops.length-1->VP c (j c))->p (λc=>if c<ops.length-1 then j c else undef) (j (ops.length-1)) w->Q .normal (je a0 ops j 0) w):wpAny P .any ops.toArray Q ops.toArray.size (Array.replicate ops.toArray.size false) a0 {w0 with drawn:=w0.drawn+1}:=by
 obtain⟨u,M⟩:=H5 E;subst hn;have x:∀{c:Nat} {o:Oper},ops[c]?=some o->c<ops.length:=λh=>(J6.1 h).1;have N:∀c,c<ops.length-1->jQ ops ops.length (ops.length-1) c=true:=λc f=>by unfold qC at t;exact KT.1 t c (List.mem_range.2 f)
 refine Fv (λL j w=>(∀c,c<ops.length-1->L c=true->VP c (j c))/\(L (ops.length-1)=false->G w/\∀e∈s,e.1<ops.length->L e.1=true->e.2 (j e.1) w)/\(L (ops.length-1)=true->p (λc=>if c<ops.length-1 then j c else undef) (j (ops.length-1)) w)) u F (λ_=>⟨λ_ _ h=>by(cases h),λ_=>⟨I,λ_ _ _ h=>by cases h⟩,λh=>by cases h⟩) (λi o hi L a w y z hc hf hw ⟨l,hd,hF⟩=>⟨λX b A=>?_,?_⟩) λL j w hL ⟨l,_,hF⟩=>K j w (λc f=>l c f (hL c (by omega))) (hF (hL _ (by omega)))
 .rw[M o (JM hi)]at A;cases A
 .have q:∀c,jQ ops ops.length c i=true->L c=false:=λc f=>by
   cases hx:L c with
   |false=>rfl
   |true=>have:=hc c i hx f;rw[y]at this;cases this
  have Y:=x hi;have B:L (ops.length-1)=false:=by rcases Lv i (ops.length-1)with h|h;exact q _ (N i h);rw[show ops.length-1=i by omega];exact y
  obtain⟨g,hd⟩:=hd B;have O:∀{c:Nat},jF o c=true->c<ops.length-1:=λ{c} f=>by unfold jF at f;rw[List.any_eq_true]at f;obtain⟨e,he,f⟩:=f;simp only[KO,K0]at f;have:=(rf u).1 i o hi e (by simpa using he) f.1;omega
  obtain⟨R,S⟩:=J.jr i o hi a w g hf (λc r f m=>oG f▸l c (O m) (z c m)) (λe he r f m=>oG f▸hd e he (x f) (z _ m)) λc r d f hd' hx=>hw c r d f hd' (q c (by rw[J4]at hx;exact hx));by_cases T:i+1=ops.length;refine(R T).imp λv w' h=>⟨λc f hL=>?_,λhL=>?_,λ_=>?_⟩
  unfold up at hL⊢;rw[Ka (by omega)]at hL⊢;exact l c f hL;unfold up at hL;rw[Kn (by omega)]at hL;cases hL;have e:(λc=>if c<ops.length-1 then up (sv ops a) i (vd o v) c else undef)=vo ops a:=by funext c;unfold vo up;by_cases f:c<ops.length-1;rw[Kn f,Kn f,Ka (by omega)];rfl;rw[Ka f,Ka f]
  rw[e,show up (sv ops a) i (vd o v) (ops.length-1)=vd o v by unfold up;rw[Kn (by omega)]];exact h;refine(S (by omega)).imp λv w' ⟨C,U,D⟩=>⟨λc f hL=>?_,λhL=>⟨U,λe he V hL=>?_⟩,λhL=>?_⟩
  unfold up at hL⊢;by_cases k:c=i;rw[Kn k,k];rw[J4]at C;exact C;rw[Ka k]at hL⊢;exact l c f hL;unfold up at hL⊢;by_cases k:e.1=i;rw[Kn k];exact(D e he).1 (by rw[J4];exact k);rw[Ka k]at hL⊢;refine(D e he).2 (by rw[J4];exact k) ?_ _ (hd e he V hL);rw[J4];cases hx:jQ ops ops.length e.1 i with
  |false=>rfl
  |true=>have:=q _ hx;rw[hL]at this;cases this
  unfold up at hL;rw[Ka (by omega),B]at hL;cases hL
theorem tu{id:Nat}{w0:World}(G:World->Prop)(c:(Nat->Value)->Value->World->Prop)(VP:Nat->Value->Prop)(e:lh)(hm:P.follows .mixedOrders=true)(f:oq ops=true)(g:qC ops=true)(i:0<ops.length)(n:Nat)(hn:a0.tmps.size=n)(j:(ops.all λo=>match o.dst with|some d=>decide (d<n)|none=>true)=true)(k:G {w0 with drawn:=w0.drawn+1})(l:nX P ops a0 G c VP e 0 ops)
  (m:∀(b:Nat->Value) (w:World),(∀a,a<ops.length-1->VP a (b a))->c (λa=>if a<ops.length-1 then b a else undef) (b (ops.length-1)) w->Q .normal (je a0 ops b 0) w):(Code.region id ops.toArray true).wp P Q a0 w0:=
 wp_region_any hm (wL G c VP e f g i n hn j k l m)
theorem tv{id:Nat}{w0:World}(G:World->Prop)(a:Value->World->Prop)(VP:Nat->Value->Prop)(e:lh)(hm:P.follows .mixedOrders=true)(f:oq ops=true)(g:qC ops=true)(i:0<ops.length)(n:Nat)(hn:a0.tmps.size=n)(j:(ops.all λo=>match o.dst with|some d=>decide (d<n)|none=>true)=true)(k:G {w0 with drawn:=w0.drawn+1})(l:vB P ops a0 G a VP e 0 ops)
  (m:∀(b:Nat->Value) (w:World),(∀c,c<ops.length-1->VP c (b c))->a (b (ops.length-1)) w->Q .normal (je a0 ops b 0) w):(Code.region id ops.toArray true).wp P Q a0 w0:=
 tu G (λ_=>a) VP e hm f g i n hn j k l m
end
def kN(l:List (Value->Prop))(a:Nat)(v:Value):Prop:=(l[a]?.getD λ_=>True) v
theorem ju{a:Act}{t:Nat}{v:Value}(h:a.eval (.tmp t)=v):a.tmps[t]?.getD undef=v:=by rw[<-h];simp[Act.eval]
theorem iX.jE{P:Program}{a:Act}{o:Oper}{w:World}{b:Value->World->Prop}(h:∀K:Value->World->Prop,(∀v w',b v w'->K v w')->iX P a o w K):iX P a o w b:=h _ λ_ _ h=>h
end Go.Proofs.YtidmdcckbdmblaaGreatDoor
universe u
theorem Xq{b:Sort u}(a:b):∃q,q=a:=⟨a,rfl⟩
theorem Gx{a:Type}{l:List a}{k:Nat}(h:k<l.length):∃x,l[k]?=some x:=⟨_,List.getElem?_eq_getElem h⟩
namespace Go.Proofs.YtidmdcckbdmblaaGreatDoor
open Go Go.Proofs.Tryz
theorem Sl{a:Act}(t:Nat){v:Value}(h:a.eval (.tmp t)=v):a.tmps[t]?.getD undef=v:=ju h
theorem Ba(w:World)(a:Obj):RowKit.Below w.heap.size w (w.alloc a):=(RowKit.Below.refl w.heap.size w).alloc (JS _) a
theorem Cb{w w':World}(b o:Nat)(h:w'.heap[b]?=w.heap[b]?):w'.cell? ⟨b,o,none⟩=w.cell? ⟨b,o,none⟩:=World.cell?_of_block (a:=⟨b,o,none⟩) h
theorem Hq{p:Prop}(h:p):RowKit.Hid p:=h
theorem Lb{a b:Nat}(h:Nat.ble (a+1) b=true:=by rfl):a<b:=Nat.le_of_ble_eq_true h
theorem Mm{a:Type}{l:List a}{x:a}(k:Nat)(h:l[k]?=some x):x∈l:=JM h
abbrev Tr:Value->Prop:=λ_=>True
def cv(v:Value):Operand->Value
 | .const c=>c
 |_=>v
section
variable {P:Program} {a:Act} {o:Oper} {w:World} {K:Value→World→Prop}
theorem iX.p(t:Nat){v u:Value}(e:a.eval (.tmp t)=v)(b:K u w)(hx:execOp a.eval o=execOp (cv (a.eval (.tmp t))) o:=by rfl)(hr:(execOp (cv v) o).run P w=.ok (.value u) w:=by kernel_rfl):iX P a o w K:=by unfold iX;rw[hx,e,hr];exact b
theorem iX.h{b:Value->World->Prop}(h:∀K:Value->World->Prop,(∀{v w'},b v w'->K v w')->oH P w K ((execOp a.eval o).run P w)):iX P a o w b:=h _ λh=>h
theorem iX.q{b:Value->World->Prop}{v:Value}{w':World}(e:∀K:Value->World->Prop,K v w'->oH P w K ((execOp a.eval o).run P w):=by intro K k;go_simp;exact k)(g:b v w'):iX P a o w b:=iX.h λK hK=>e K (hK g)
theorem iX.l(x:Nat){t:TypeId}{p:Addr}{u:Value}(e:a.eval (.tmp x)=.pointer (some p))(c:w.cell? p=some u)(b:K u w)(d:o.op=.load t (.tmp x):=by rfl)(f:(isAgg t).run P w=.ok false w:=by kernel_rfl):iX P a o w K:=by unfold iX execOp;simp only[d,e,Instr.loadAt,Instr.sureAddr,KH,KI,Ko,loadVar,f,Bool.false_eq_true,if_false,run_load,c,oH];exact b
end
section
variable {ops:List Oper} {i:Nat} {v:Value} {w w':World}
theorem Qa{a:lh}(h:(a.all λe=>!(e.1==i))=true:=by rfl):∀e∈a,(e.1=i->e.2 v w)/\(e.1≠i->jQ ops ops.length e.1 i=false->∀u,e.2 u w->e.2 u w):=λe he=>by have:=KT.1 h e he;simp at this;exact⟨λh=>absurd h this,λ_ _ _ hu=>hu⟩
theorem Qb{a:lh}{e:Nat×(Value->World->Prop)}(t:∀e∈a,(e.1=i->e.2 v w')/\(e.1≠i->jQ ops ops.length e.1 i=false->∀u,e.2 u w->e.2 u w'))(h:(e.1==i)=false:=by rfl)(k:jQ ops ops.length e.1 i=false->∀u,e.2 u w->e.2 u w':=by first|exact λ_ _ h=>h|exact λh=>Bool.noConfusion (show true=false from h)):∀x∈e::a,(x.1=i->x.2 v w')/\(x.1≠i->jQ ops ops.length x.1 i=false->∀u,x.2 u w->x.2 u w'):=
 Kg.2 ⟨⟨λe=>by rw[e]at h;simp at h,λ_=>k⟩,t⟩
theorem Q2{c:lh}{a b:Nat×(Value->World->Prop)}(t:∀e∈c,(e.1=i->e.2 v w')/\(e.1≠i->jQ ops ops.length e.1 i=false->∀u,e.2 u w->e.2 u w'))(d:(a.1==i)=false:=by rfl)(f:jQ ops ops.length a.1 i=false->∀u,a.2 u w->a.2 u w':=by first|exact λ_ _ h=>h|exact λh=>Bool.noConfusion (show true=false from h))(g:(b.1==i)=false:=by rfl)(j:jQ ops ops.length b.1 i=false->∀u,b.2 u w->b.2 u w':=by first|exact λ_ _ h=>h|exact λh=>Bool.noConfusion (show true=false from h)):∀x∈a::b::c,(x.1=i->x.2 v w')/\(x.1≠i->jQ ops ops.length x.1 i=false->∀u,x.2 u w->x.2 u w'):=
 Qb (Qb t g j) d f
theorem Q4{f:lh}{a b c d:Nat×(Value->World->Prop)}(t:∀e∈f,(e.1=i->e.2 v w')/\(e.1≠i->jQ ops ops.length e.1 i=false->∀u,e.2 u w->e.2 u w'))(g:(a.1==i)=false:=by rfl)(j:jQ ops ops.length a.1 i=false->∀u,a.2 u w->a.2 u w':=by first|exact λ_ _ h=>h|exact λh=>Bool.noConfusion (show true=false from h))(k:(b.1==i)=false:=by rfl)(l:jQ ops ops.length b.1 i=false->∀u,b.2 u w->b.2 u w':=by first|exact λ_ _ h=>h|exact λh=>Bool.noConfusion (show true=false from h))(m:(c.1==i)=false:=by rfl)(n:jQ ops ops.length c.1 i=false->∀u,c.2 u w->c.2 u w':=by first|exact λ_ _ h=>h|exact λh=>Bool.noConfusion (show true=false from h))(p:(d.1==i)=false:=by rfl)(q:jQ ops ops.length d.1 i=false->∀u,d.2 u w->d.2 u w':=by first|exact λ_ _ h=>h|exact λh=>Bool.noConfusion (show true=false from h)):∀x∈a::b::c::d::f,(x.1=i->x.2 v w')/\(x.1≠i->jQ ops ops.length x.1 i=false->∀u,x.2 u w->x.2 u w'):=
 Q2 (Q2 t m n p q) g j k l
theorem Qd{a:lh}{e:Nat×(Value->World->Prop)}(k:∀u,e.2 u w->e.2 u w')(t:∀e∈a,(e.1=i->e.2 v w')/\(e.1≠i->jQ ops ops.length e.1 i=false->∀u,e.2 u w->e.2 u w'))(h:(e.1==i)=false:=by rfl):∀x∈e::a,(x.1=i->x.2 v w')/\(x.1≠i->jQ ops ops.length x.1 i=false->∀u,x.2 u w->x.2 u w'):=
 Qb t h λ_=>k
theorem Qc{a:lh}{e:Nat×(Value->World->Prop)}(k:e.2 v w')(t:∀e∈a,(e.1=i->e.2 v w')/\(e.1≠i->jQ ops ops.length e.1 i=false->∀u,e.2 u w->e.2 u w'))(h:(e.1==i)=true:=by rfl):∀x∈e::a,(x.1=i->x.2 v w')/\(x.1≠i->jQ ops ops.length x.1 i=false->∀u,x.2 u w->x.2 u w'):=
 Kg.2 ⟨⟨λ_=>k,λn=>absurd (by simpa using h) n⟩,t⟩
theorem Qe{a:Type}{b:List a}{p:a->Prop}(h:b=[]:=by rfl):∀e∈b,p e:=by subst h;simp
end
section
variable {ops:List Oper} {i:Nat} {o:Oper} {a:Act} {v:Value} {w w':World}
abbrev F4(ops:List Oper)(i:Nat)(o:Oper)(a:Act)(v:Value)(w w':World)(e:Nat×Nat×(Value->Value->World->Prop)):Prop:=
 (e.1=i->∀ok,ops[e.2.1]?=some ok->e.2.2 (vd o v) (if e.2.1=i then vd o v else ku a ok) w')/\(e.1≠i->jQ ops ops.length e.1 i=false->∀u u2,e.2.2 u u2 w->e.2.2 u u2 w')
theorem Ra{b:rP}(h:(b.all λe=>!(e.1==i))=true:=by rfl):∀e∈b,F4 ops i o a v w w e:=λe he=>by have:=KT.1 h e he;simp at this;exact⟨λh=>absurd h this,λ_ _ _ _ hu=>hu⟩
theorem Rb{b:rP}{e:Nat×Nat×(Value->Value->World->Prop)}(t:∀e∈b,F4 ops i o a v w w' e)(h:(e.1==i)=false:=by rfl)(k:jQ ops ops.length e.1 i=false->∀u u2,e.2.2 u u2 w->e.2.2 u u2 w':=by first|exact λ_ _ _ h=>h|exact λh=>Bool.noConfusion (show true=false from h)):∀x∈e::b,F4 ops i o a v w w' x:=
 Kg.2 ⟨⟨λe=>by rw[e]at h;simp at h,λ_=>k⟩,t⟩
theorem Rd{b:rP}{e:Nat×Nat×(Value->Value->World->Prop)}(k:∀u u2,e.2.2 u u2 w->e.2.2 u u2 w')(t:∀e∈b,F4 ops i o a v w w' e)(h:(e.1==i)=false:=by rfl):∀x∈e::b,F4 ops i o a v w w' x:=
 Rb t h λ_=>k
theorem Rc{b:rP}{e:Nat×Nat×(Value->Value->World->Prop)}(k:∀ok,ops[e.2.1]?=some ok->e.2.2 (vd o v) (if e.2.1=i then vd o v else ku a ok) w')(t:∀e∈b,F4 ops i o a v w w' e)(h:(e.1==i)=true:=by rfl):∀x∈e::b,F4 ops i o a v w w' x:=
 Kg.2 ⟨⟨λ_=>k,λn=>absurd (by simpa using h) n⟩,t⟩
end
theorem Sv{a:Act}(t:Nat){VP:Nat->Value->Prop}{ops:List Oper}{o:Oper}(d:∀b c,ops[b]?=some c->jF o b=true->VP b (ku a c))(b:Nat){c:Oper}{v:Value}(e:ops[b]?=some c:=by rfl)(f:jF o b=true:=by rfl)(he:VP b (ku a c)->a.eval (.tmp t)=v:=by exact λh=>h):a.tmps[t]?.getD undef=v:=ju (he (d b c e f))
section
variable {P:Program} {ops:List Oper} {a0:Act} {G:World→Prop} {VP:Nat→Value→Prop} {i:Nat} {o:Oper}
theorem Fm.f{b:lh}(t:Nat){u:Value}(c:(jB ops).contains t=false:=by rfl)(hu:VP i (vd o u):=by exact rfl)(hx:∀a:Act,execOp a.eval o=execOp (cv (a.eval (.tmp t))) o:=by intro a;rfl)(hr:∀w,(execOp (cv (a0.eval (.tmp t))) o).run P w=.ok (.value u) w:=by intro w;kernel_rfl)(d:(b.all λe=>!(e.1==i))=true:=by rfl):Fm P ops a0 G VP b i o:=
 λa w f hf _ _ _=>.p t (hf t c) ⟨hu,f,Qa d⟩ (hx a) (hr w)
theorem Fm.v{d:lh}(t b:Nat){c:Oper}{v u:Value}(f:ops[b]?=some c:=by rfl)(g:jF o b=true:=by rfl)(he:∀a:Act,VP b (ku a c)->a.eval (.tmp t)=v:=by exact λ_ h=>h)(hu:VP i (vd o u):=by exact rfl)(hx:∀a:Act,execOp a.eval o=execOp (cv (a.eval (.tmp t))) o:=by intro a;rfl)(hr:∀w,(execOp (cv v) o).run P w=.ok (.value u) w:=by intro w;kernel_rfl)(j:(d.all λe=>!(e.1==i))=true:=by rfl):Fm P ops a0 G VP d i o:=
 λa w k _ l _ _=>.p t (he a (l b c f g)) ⟨hu,k,Qa j⟩ (hx a) (hr w)
theorem AU.f{b:rP}(t:Nat){u:Value}(c:(jB ops).contains t=false:=by rfl)(hu:VP i (vd o u):=by exact rfl)(hx:∀a:Act,execOp a.eval o=execOp (cv (a.eval (.tmp t))) o:=by intro a;rfl)(hr:∀w,(execOp (cv (a0.eval (.tmp t))) o).run P w=.ok (.value u) w:=by intro w;kernel_rfl)(d:(b.all λe=>!(e.1==i))=true:=by rfl):AU P ops a0 G VP b i o:=
 λa w f hf _ _ _=>.p t (hf t c) ⟨hu,f,Ra d⟩ (hx a) (hr w)
theorem AU.v{d:rP}(t b:Nat){c:Oper}{v u:Value}(f:ops[b]?=some c:=by rfl)(g:jF o b=true:=by rfl)(he:∀a:Act,VP b (ku a c)->a.eval (.tmp t)=v:=by exact λ_ h=>h)(hu:VP i (vd o u):=by exact rfl)(hx:∀a:Act,execOp a.eval o=execOp (cv (a.eval (.tmp t))) o:=by intro a;rfl)(hr:∀w,(execOp (cv v) o).run P w=.ok (.value u) w:=by intro w;kernel_rfl)(j:(d.all λe=>!(e.1==i))=true:=by rfl):AU P ops a0 G VP d i o:=
 λa w k _ l _ _=>.p t (he a (l b c f g)) ⟨hu,k,Ra j⟩ (hx a) (hr w)
theorem Pf{b:lh}(t:Nat){u:Value}(c:(jB ops).contains t=false:=by rfl)(hu:VP i (vd o u):=by exact rfl)(hx:∀a:Act,execOp a.eval o=execOp (cv (a.eval (.tmp t))) o:=by intro a;rfl)(hr:∀w,(execOp (cv (a0.eval (.tmp t))) o).run P w=.ok (.value u) w:=by intro w;kernel_rfl)(d:(b.all λe=>!(e.1==i))=true:=by rfl):Fm P ops a0 G VP b i o:=
 λa w f hf _ _ _=>.p t (hf t c) ⟨hu,f,Qa d⟩ (hx a) (hr w)
theorem Pv{d:lh}(t b:Nat){c:Oper}{v u:Value}(f:ops[b]?=some c:=by rfl)(g:jF o b=true:=by rfl)(he:∀a:Act,VP b (ku a c)->a.eval (.tmp t)=v:=by exact λ_ h=>h)(hu:VP i (vd o u):=by exact rfl)(hx:∀a:Act,execOp a.eval o=execOp (cv (a.eval (.tmp t))) o:=by intro a;rfl)(hr:∀w,(execOp (cv v) o).run P w=.ok (.value u) w:=by intro w;kernel_rfl)(j:(d.all λe=>!(e.1==i))=true:=by rfl):Fm P ops a0 G VP d i o:=
 λa w k _ l _ _=>.p t (he a (l b c f g)) ⟨hu,k,Qa j⟩ (hx a) (hr w)
theorem AW.f{G:Bool->World->Prop}{p:Nat}{b:lh}(t:Nat){u:Value}(c:decide (p<i)=decide (p<=i):=by rfl)(d:(jB ops).contains t=false:=by rfl)(hu:VP i (vd o u):=by exact rfl)(hx:∀a:Act,execOp a.eval o=execOp (cv (a.eval (.tmp t))) o:=by intro a;rfl)(hr:∀w,(execOp (cv (a0.eval (.tmp t))) o).run P w=.ok (.value u) w:=by intro w;kernel_rfl)(f:(b.all λe=>!(e.1==i))=true:=by rfl):AW P ops a0 G p VP b i o:=
 λa w g hf _ _ _=>.p t (hf t d) ⟨hu,c▸g,Qa f⟩ (hx a) (hr w)
theorem AW.v{G:Bool->World->Prop}{p:Nat}{d:lh}(t b:Nat){c:Oper}{v u:Value}(f:decide (p<i)=decide (p<=i):=by rfl)(g:ops[b]?=some c:=by rfl)(j:jF o b=true:=by rfl)(he:∀a:Act,VP b (ku a c)->a.eval (.tmp t)=v:=by exact λ_ h=>h)(hu:VP i (vd o u):=by exact rfl)(hx:∀a:Act,execOp a.eval o=execOp (cv (a.eval (.tmp t))) o:=by intro a;rfl)(hr:∀w,(execOp (cv v) o).run P w=.ok (.value u) w:=by intro w;kernel_rfl)(k:(d.all λe=>!(e.1==i))=true:=by rfl):AW P ops a0 G p VP d i o:=
 λa w l _ m _ _=>.p t (he a (m b c g j)) ⟨hu,f▸l,Qa k⟩ (hx a) (hr w)
end
section
variable {P:Program} {ops:List Oper} {a0:Act} {Q:Exit→Act→World→Prop} {id:Nat} {w0:World}
theorem Ri(G:World->Prop)(VP:Nat->Value->Prop)(a:lh)(f:G {w0 with drawn:=w0.drawn+1})(g:pS P ops a0 G VP a 0 ops)
  (i:∀(b:Nat->Value) (w:World),G w->(∀c,c<ops.length->VP c (b c))->(∀e∈a,e.1<ops.length->e.2 (b e.1) w)->Q .normal (je a0 ops b 0) w)
  (hm:P.follows .mixedOrders=true:=by kernel_rfl) (j:oq ops=true:=by kernel_rfl) (k:(ops.all λo=>match o.dst with|some d=>decide (d<a0.tmps.size)|none=>true)=true:=by kernel_rfl):(Code.region id ops.toArray true).wp P Q a0 w0:=
 tS G VP a hm j _ rfl k f g i
theorem Ee(G:World->Prop)(VP:Nat->Value->Prop)(a:rP)(f:G {w0 with drawn:=w0.drawn+1})(g:oV P ops a0 G VP a 0 ops)
  (i:∀(b:Nat->Value) (w:World),G w->(∀c,c<ops.length->VP c (b c))->(∀e∈a,e.1<ops.length->e.2.1<ops.length->e.2.2 (b e.1) (b e.2.1) w)->Q .normal (je a0 ops b 0) w)
  (hm:P.follows .mixedOrders=true:=by kernel_rfl) (j:nV ops=true:=by kernel_rfl) (k:(a.all λe=>e.2.1==e.1||jQ ops ops.length e.1 e.2.1)=true:=by kernel_rfl) (l:qY ops VP ops:=by repeat' (first|exact trivial|exact⟨by kernel_rfl,by kernel_rfl,λ_ h=>h⟩|refine And.intro ?_ ?_)) (m:(ops.all λo=>match o.dst with|some d=>decide (d<a0.tmps.size)|none=>true)=true:=by kernel_rfl):(Code.region id ops.toArray true).wp P Q a0 w0:=
 tq G VP a hm j k l _ rfl m f g i
theorem rr(G:World->Prop)(a:Value->World->Prop)(VP:Nat->Value->Prop)(e:lh)(f:G {w0 with drawn:=w0.drawn+1})(g:vB P ops a0 G a VP e 0 ops)
  (i:∀(b:Nat->Value) (w:World),(∀c,c<ops.length-1->VP c (b c))->a (b (ops.length-1)) w->Q .normal (je a0 ops b 0) w)
  (hm:P.follows .mixedOrders=true:=by kernel_rfl) (j:oq ops=true:=by kernel_rfl) (k:qC ops=true:=by kernel_rfl) (l:0<ops.length:=by decide) (m:(ops.all λo=>match o.dst with|some d=>decide (d<a0.tmps.size)|none=>true)=true:=by kernel_rfl):(Code.region id ops.toArray true).wp P Q a0 w0:=
 tv G a VP e hm j k l _ rfl m f g i
theorem Ac(p:Nat)(G:Bool->World->Prop)(VP:Nat->Value->Prop)(a:lh)(f:G false {w0 with drawn:=w0.drawn+1})(g:oW P ops a0 G p VP a 0 ops)
  (i:∀(b:Nat->Value) (w:World),G true w->(∀c,c<ops.length->VP c (b c))->(∀e∈a,e.1<ops.length->e.2 (b e.1) w)->Q .normal (je a0 ops b 0) w)
  (hm:P.follows .mixedOrders=true:=by kernel_rfl) (j:oq ops=true:=by kernel_rfl) (k:CB ops p=true:=by kernel_rfl) (l:(ops.all λo=>match o.dst with|some d=>decide (d<a0.tmps.size)|none=>true)=true:=by kernel_rfl):(Code.region id ops.toArray true).wp P Q a0 w0:=
 tr p G VP a hm j k _ rfl l f g i
end
end Go.Proofs.YtidmdcckbdmblaaGreatDoor
namespace Go.Proofs.YtidmdcckbdmblaaGreatDoor
open Go Go.RowKit Go.Proofs.Tryz
theorem iX.c{P:Program}{a:Act}{o:Oper}{w:World}{K:Value->World->Prop}{f:FuncId}{args:Array Value}{R:Ending->World->Prop}(hc:Calls P f args w R)(b:∀e w',R e w'->∃v,e=.returned v/\K v w')(hr:(execOp a.eval o).run P w=.ok (.enter f args) w:=by go_simp):iX P a o w K:=by unfold iX;rw[hr];exact⟨rfl,hc.mono b⟩
end Go.Proofs.YtidmdcckbdmblaaGreatDoor
namespace Go.Proofs.YtidmdcckbdmblaaGreatDoor
open Go.RowKit Go.Proofs.Tryz
def qA(c:Nat->Prop)(w:World)(d:Option Addr)(xs:List Value):Prop:=
 xs≠[]->∃b o,d=some ⟨b,o,none⟩/\c b/\∀(a:Nat) (u:Value),xs[a]?=some u->w.cell? ⟨b,o+a,none⟩=some u
theorem qA.nil(a w b):qA a w b []:=λh=>absurd rfl h
theorem qA.M{a T w c xs}(h:qA a w c xs)(d:∀b,a b->T b):qA T w c xs:=λhx=>by obtain⟨b,o,e,f,hc⟩:=h hx;exact⟨b,o,e,d b f,hc⟩
theorem qA.iV{a w w' c xs}(h:qA a w c xs)(g:∀b,a b->w'.heap[b]?=w.heap[b]?):qA a w' c xs:=λhx=>by obtain⟨b,o,e,d,hc⟩:=h hx;exact⟨b,o,e,d,λf u hu=>(Cb b (o+f) (g b d)).T (hc f u hu)⟩
theorem qA.jr{c w d xs}(h:qA c w d xs)(a:Nat)(u)(hu:xs[a]?=some u):
  ∃b o,d=some ⟨b,o,none⟩/\c b/\w.cell? ⟨b,o+a,none⟩=some u:=by
 obtain⟨b,o,e,f,h⟩:=h (by rintro rfl;simp at hu);exact⟨b,o,e,f,h a u hu⟩
abbrev Rel(a:Type):=(Nat->Prop)->World->List Value->a->Prop
structure jI{α:Type}(R:Rel α)(k:Nat):Prop where
 pos:0<k
 len:∀{S w r x},R S w r x->r.length=k
 one:∀{S w r x},R S w r x->∀u∈r,u.oneCell'=true
 M:∀{S T w r x},R S w r x->(∀b,S b->T b)->R T w r x
 iV:∀{S w w' r x},R S w r x->(∀b,S b->w'.heap[b]?=w.heap[b]?)->R S w' r x
def jD{a:Type}(R:List Value->a->Prop):List (List Value)->List a->Prop
 |[],[]=>True
 |r::rs,x::xs=>R r x/\jD R rs xs
 |_,_=>False
theorem jD.imp{a:Type}{R b:List Value->a->Prop}(h:∀r x,R r x->b r x):∀{c:List (List Value)} {xs:List a},jD R c xs->jD b c xs
 |[],[],_=>trivial
 |_::_,_::_,⟨h1,h2⟩=>⟨h _ _ h1,jD.imp h h2⟩
 |[],_::_,h=>h.elim
 |_::_,[],h=>h.elim
theorem jD.length{a:Type}{R:List Value->a->Prop}:∀{b:List (List Value)} {xs:List a},jD R b xs->b.length=xs.length
 |[],[],_=>rfl
 |_::_,_::_,⟨_,h2⟩=>by simp[jD.length h2]
 |[],_::_,h=>h.elim
 |_::_,[],h=>h.elim
theorem jD.flat{b:Type}{R:List Value->b->Prop}{k:Nat}(c:∀r x,R r x->r.length=k):∀{a:List (List Value)} {xs:List b},jD R a xs->a.flatten.length=xs.length*k
 |[],[],_=>LG
 |r::a,x::xs,⟨h1,h2⟩=>by rw[KP,JU,c _ _ h1,jD.flat c h2,Kb,Lu];omega
 |[],_::_,h=>h.elim
 |_::_,[],h=>h.elim
theorem jD.jr{c:Type}{R:List Value->c->Prop}{k:Nat}(d:∀r x,R r x->r.length=k):∀{b:List (List Value)} {xs:List c} (i:Nat) (x:c),jD R b xs->xs[i]?=some x->
  ∃r,R r x/\∀a u,r[a]?=some u->b.flatten[i*k+a]?=some u
 |r::b,y::xs,0,x,⟨h1,_⟩,hx=>by simp at hx;subst hx;refine⟨r,h1,λa u hu=>?_⟩;rw[KP,Lz,J4,Ku (J6.1 hu).1];exact hu
 |r::b,y::xs,i+1,x,⟨h1,h2⟩,hx=>by obtain⟨q,f,hc⟩:=jD.jr d i x h2 (by simpa using hx);refine⟨q,f,λa u hu=>?_⟩;have e:=d _ _ h1;rw[KP,KF (by rw[e,Lu];omega),e,show(i+1)*k+a-k=i*k+a by rw[Lu];omega];exact hc a u hu
 |[],[],_,_,_,hx=>by simp at hx
 |[],_::_,_,_,h,_=>h.elim
 |_::_,[],_,_,h,_=>h.elim
theorem jD.one{b:Type}{R:List Value->b->Prop}(c:∀r x,R r x->∀u∈r,u.oneCell'=true):∀{a:List (List Value)} {xs:List b},jD R a xs->∀u∈a.flatten,u.oneCell'=true
 |[],[],_=>LG
 |r::a,x::xs,⟨h1,h2⟩=>by intro u hu;rw[KP,List.mem_append]at hu;rcases hu with hu|hu;exact c _ _ h1 u hu;exact jD.one c h2 u hu
 |[],_::_,h=>h.elim
 |_::_,[],h=>h.elim
def jc{a:Type}(R:Rel a)(b:Nat->Prop)(w:World)(v:Value)(xs:List a):Prop:=
 ∃(d:Option Addr) (c:Nat) (e:List (List Value)),v=.slice d xs.length c/\xs.length<=c/\c<=9223372036854775807/\qA b w d e.flatten/\jD (R b w) e xs
theorem jc.M{a:Type}{R:Rel a}{k:Nat}(ok:jI R k){d T w v}{xs:List a}(h:jc R d w v xs)(e:∀b,d b->T b):jc R T w v xs:=by obtain⟨f,c,g,i,j,l,m,n⟩:=h;exact⟨f,c,g,i,j,l,m.M e,n.imp λr x hr=>ok.M hr e⟩
theorem jc.iV{d:Type}{R:Rel d}{k:Nat}(ok:jI R k){a w w' v}{xs:List d}(h:jc R a w v xs)(e:∀b,a b->w'.heap[b]?=w.heap[b]?):jc R a w' v xs:=by obtain⟨f,c,g,i,j,l,m,n⟩:=h;exact⟨f,c,g,i,j,l,m.iV e,n.imp λr x hr=>ok.iV hr e⟩
theorem jc.nil{a:Type}(R:Rel a)(b w):jc R b w (Nl) []:=⟨none,0,[],rfl,JS _,LC,qA.nil _ _ _,trivial⟩
theorem jc.one{a:Type}{R:Rel a}{b w v}{xs:List a}(h:jc R b w v xs):v.oneCell'=true:=by obtain⟨d,c,e,rfl,_⟩:=h;rfl
theorem jc.jr{d:Type}{R:Rel d}{k:Nat}(ok:jI R k){f w j}{n c:Nat}{xs:List d}(h:jc R f w (.slice j n c) xs)(i:Nat)(x:d)(hx:xs[i]?=some x):
  ∃b o r,j=some ⟨b,o,none⟩/\f b/\R f w r x/\∀a u,r[a]?=some u->w.cell? ⟨b,o+i*k+a,none⟩=some u:=by
 obtain⟨v,y,z,g,A,B,l,m⟩:=h;injection g with g;subst g;obtain⟨r,hr,hc⟩:=jD.jr (k:=k) (λr x h=>ok.len h) i x m hx;have p:∃u,r[0]?=some u:=Gx (by rw[ok.len hr];exact ok.pos);obtain⟨u0,q⟩:=p;obtain⟨b,o,e,s,t⟩:=l (by intro e;have:=hc 0 u0 q;rw[e]at this;simp at this);refine⟨b,o,r,e,s,hr,λa u hu=>?_⟩;rw[Nat.add_assoc];exact t _ u (hc a u hu)
structure jx{α:Type}(R:Rel α)(T k:Nat)(P:Nat->Prop)(w:World)(lo:Nat)(v:Value)(xs:List α):Prop where
 own:∃rows,w.ownsRow lo T k v xs.length rows.flatten/\jD (R (λb=>P b/\b<w/\some b≠v.ownBlock) w) rows xs
theorem jx.nil{a:Type}(R:Rel a)(T k:Nat)(P w)(lo:Nat):jx R T k P w lo (Nl) []:=⟨[],World.ownsRow_nil _ _ _ _,trivial⟩
theorem jx.grown{d:Type}{R:Rel d}{T k:Nat}(ok:jI R k){P w w'}{lo:Nat}{v}{xs:List d}{row}(h:jx R T k P w lo v xs)(c:w.grownBy w' row)(hr:∀z,row=some z->¬P z/\some z≠v.ownBlock):jx R T k P w' lo v xs:=by
 obtain⟨f,g,i⟩:=h.own;refine⟨f,g.kept c ?_,i.imp λr x hx=>ok.M (ok.iV hx λb a=>c.B b a.2.1 λe=>(hr b e.symm).1 a.1) λb a=>⟨a.1,JI a.2.1 c.size,a.2.2⟩⟩;cases hv:v.ownBlock with
 |none=>exact .inl rfl
 |some q=>exact .inr (λe=>(hr q e.symm).2 hv.symm)
theorem jo{w w'}(h:Below w.heap.size w w'):w.grownBy w' none:=⟨h.os,h.tape,h.output,h.size,λk a _=>h.B k a⟩
theorem jx.iU{a:Type}{R:Rel a}{T k:Nat}(ok:jI R k){P w w'}{lo:Nat}{v}{xs:List a}(h:jx R T k P w lo v xs)(b:Below w w w'):jx R T k P w' lo v xs:=
 h.grown ok (jo b) (λz e=>by cases e)
theorem jx.form{a:Type}{R:Rel a}{T k:Nat}{P w}{lo:Nat}{v}{xs:List a}(h:jx R T k P w lo v xs):∃d c,v=.slice d xs.length c/\xs.length<=c/\c<=9223372036854775807:=by
 obtain⟨i,e,_⟩:=h.own;rcases e.2 with⟨rfl,b⟩|⟨g,f,j,rfl,l,m,hc,hm,n,p⟩
 exact⟨none,0,by rw[b],by rw[b];exact JS _,LC⟩;exact⟨_,f,rfl,hc,hm⟩
theorem jx.ge{a:Type}{R:Rel a}{T k:Nat}{P w}{lo:Nat}{v}{xs:List a}(h:jx R T k P w lo v xs):∀z,v.ownBlock=some z->lo<=z/\z<w:=by
 obtain⟨f,b,_⟩:=h.own;rcases b.2 with⟨rfl,i⟩|⟨g,j,l,rfl,c,d,hc,hm,m,n⟩
 intro z e;simp[Value.ownBlock]at e;intro z e;obtain rfl:g=z:=by simpa[Value.ownBlock]using e
 exact⟨c,(JJ.1 d).1⟩
end Go.Proofs.YtidmdcckbdmblaaGreatDoor
namespace jJ
inductive Ex where
 |mk (op:Int) (name:List UInt8) (n:Int) (args:List Ex)
instance:Inhabited Ex:=⟨.mk 0 [] 0 []⟩
def Ex.op:Ex->Int| .mk o _ _ _=>o
def Ex.name:Ex->List UInt8| .mk _ s _ _=>s
def Ex.n:Ex->Int| .mk _ _ n _=>n
def Ex.args:Ex->List Ex| .mk _ _ _ a=>a
inductive St where
 |mk (kind:Int) (name hd:List UInt8) (jy:List Ex) (th el:List St)
instance:Inhabited St:=⟨.mk 0 [] [] [] [] []⟩
def St.kind:St->Int| .mk k _ _ _ _ _=>k
def St.name:St->List UInt8| .mk _ s _ _ _ _=>s
def St.hd:St->List UInt8| .mk _ _ h _ _ _=>h
def St.jy:St->List Ex| .mk _ _ _ e _ _=>e
def St.th:St->List St| .mk _ _ _ _ t _=>t
def St.el:St->List St| .mk _ _ _ _ _ e=>e
structure Hd where
 name:List UInt8
 params:List (List UInt8)
 body:List St
instance:Inhabited Hd:=⟨⟨[],[],[]⟩⟩
structure Va where
 name:List UInt8
 ty:Int
 init:Int
instance:Inhabited Va:=⟨⟨[],0,0⟩⟩
structure Co where
 name:List UInt8
 vars:List Va
 jG:List (List Hd)
instance:Inhabited Co:=⟨⟨[],[],[]⟩⟩
structure Fg where
 name:List UInt8
 init:Bool
instance:Inhabited Fg:=⟨⟨[],false⟩⟩
structure Lk where
 a:List UInt8
 b:List UInt8
 tL:Int
instance:Inhabited Lk:=⟨⟨[],[],0⟩⟩
structure Fl where
 name:List UInt8
 jl:List Fg
 kj:List Lk
 jh:List Co
def De:Nat:=6
def Ds:Nat:=4
def nm(c:UInt8)(k:Nat):List UInt8:=[c,UInt8.ofNat (48+k)]
def wh(c:UInt8)(n:Nat):List (List UInt8):=(List.range n).map (nm c)
theorem oY(c)(n:Nat):(wh c n).length=n:=by simp[wh]
structure Sc where
 ints:Nat
 kg:Nat
 jl:Nat
 params:Nat
 pP:List (List Nat)
 own:Nat
structure Ej(sc:Sc):Prop where
 Jm:1<=sc.ints
 Jn:sc.ints<=3
 kg:sc.kg<=1
 jl:sc.jl<=2
 params:sc.params<=2
 own:sc.own<sc.pP.length
 len:sc.pP.length<=3
 each:∀l∈sc.pP,1<=l.length/\l.length<=3/\∀a∈l,a<=2
def kG(sc:Sc):Nat->Ex->Prop
 |0,_=>False
 |d+1,e=>
  (e.op=1/\e.name=[]/\0<=e.n/\e.n<=8/\e.args=[])\/
  (e.op=4/\e.name=[]/\e.n=0/\e.args=[])\/
  (e.op=5/\((∃k,k<sc.ints/\e.name=nm 120 k)\/(∃k,k<sc.params/\e.name=nm 112 k))/\e.n=0/\e.args=[])\/
  (e.op=6/\sc.kg=1/\e.name=nm 116 0/\e.n=0/\∃a,e.args=[a]/\kG sc d a)\/
  (e.op=8/\sc.kg=1/\e.name=nm 116 0/\e.n=0/\e.args=[])\/
  (e.op=9/\e.name=[]/\e.n=0/\∃a,e.args=[a]/\kG sc d a)\/
  ((11<=e.op/\e.op<=15)/\e.name=[]/\e.n=0/\∃a b,e.args=[a,b]/\kG sc d a/\kG sc d b)
def mf(sc:Sc):Nat->Ex->Prop
 |0,_=>False
 |d+1,e=>
  ((e.op=2\/e.op=3)/\e.name=[]/\e.n=0/\e.args=[])\/
  (e.op=5/\(e.name=nm 98 0\/(∃k,k<sc.jl/\e.name=nm 102 k))/\e.n=0/\e.args=[])\/
  (e.op=7/\sc.kg=1/\e.name=nm 116 0/\e.n=0/\∃a,e.args=[a]/\kG sc d a)\/
  (e.op=10/\e.name=[]/\e.n=0/\∃a,e.args=[a]/\mf sc d a)\/
  ((e.op=22\/e.op=23)/\e.name=[]/\e.n=0/\∃a b,e.args=[a,b]/\mf sc d a/\mf sc d b)\/
  ((16<=e.op/\e.op<=21)/\e.name=[]/\e.n=0/\∃a b,e.args=[a,b]/\kG sc d a/\kG sc d b)
def kW(k:Nat):List UInt8:=[UInt8.ofNat (97+k)]
def mo(sc:Sc):Nat->St->Prop
 |0,_=>False
 |d+1,s=>
  (s.kind=1/\s.hd=[]/\s.th=[]/\s.el=[]/\(∃e,s.jy=[e]/\((∃k,k<sc.ints/\s.name=nm 120 k/\kG sc De e)\/(s.name=nm 98 0/\mf sc De e))))\/
  (s.kind=2/\sc.kg=1/\s.name=nm 116 0/\s.hd=[]/\s.th=[]/\s.el=[]/\(∃a b,s.jy=[a,b]/\kG sc De a/\kG sc De b))\/
  (s.kind=3/\sc.kg=1/\s.name=nm 116 0/\s.hd=[]/\s.th=[]/\s.el=[]/\(∃a,s.jy=[a]/\kG sc De a))\/
  (s.kind=4/\s.name=[]/\s.hd=[]/\(∃a,s.jy=[a]/\mf sc De a)/\(∀x∈s.th,mo sc d x)/\(∀x∈s.el,mo sc d x))\/
  (s.kind=5/\s.name=[]/\s.hd=[]/\s.el=[]/\(∃a,s.jy=[a]/\mf sc De a)/\(∀x∈s.th,mo sc d x))\/
  (s.kind=6/\s.th=[]/\s.el=[]/\(∃c l h a,sc.pP[c]?=some l/\l[h]?=some a/\s.name=kW c/\s.hd=nm 104 h/\s.jy.length=a)/\(∀e∈s.jy,kG sc De e))\/
  (s.kind=7/\s.name=[]/\s.th=[]/\s.el=[]/\(∃l h a,sc.pP[sc.own]?=some l/\l[h]?=some a/\s.hd=nm 104 h/\s.jy.length=a+1)/\(∀e∈s.jy,kG sc De e))\/
  (s.kind=8/\s.name=[]/\s.hd=[]/\s.th=[]/\(∃a b,s.jy=[a,b]/\kG sc De a/\kG sc De b)/\(∀x∈s.el,mo sc d x))\/
  (s.kind=9/\s.hd=[]/\s.th=[]/\(∃k,k<sc.ints/\s.name=nm 120 k)/\(∃a,s.jy=[a]/\kG sc De a)/\(∀x∈s.el,mo sc d x))\/
  (s.kind=10/\s.name=[]/\s.hd=[]/\s.th=[]/\s.el=[]/\s.jy=[])
def jw:Nat->List St->Nat
 |0,_=>0
 |d+1,l=>(l.map λs=>1+jw d s.th+jw d s.el).sum
structure Cd where
 params:Nat
 bytes:List UInt8
instance:Inhabited Cd:=⟨⟨0,[]⟩⟩
def Ek(sc:Sc)(b:List Nat)(k:Nat)(h:Hd):Prop:=∃a,b[k]?=some a/\h.name=nm 104 k/\h.params=wh 112 a/\(∀s∈h.body,mo {sc with params:=a} Ds s)/\jw Ds h.body<=12
def AX(sc:Sc)(a:List Nat)(hs:List Hd):Prop:=∀k h,hs[k]?=some h->Ek sc a k h
structure Pt where
 ints:Nat
 kg:Nat
 hs:List Cd
 ss:List Cd
instance:Inhabited Pt:=⟨⟨0,0,[],[]⟩⟩
def Jo(p:Pt)(a:Nat):List Nat:=if a<p.hs.length then [(p.hs.getD a default).params % 3]else if a=0 then [1]else if a<p.ss.length then [(p.ss.getD a default).params % 3]else []
def Jb(p:Pt):Nat->List Nat
 |0=>[]
 |k+1=>Jb p k++Jo p k
def qc(b:Nat)(a:List Fg):Prop:=a.length=b/\∀k x,a[k]?=some x->x.name=nm 102 k
def lB(ints a:Nat):List Va:=(List.range ints).map (λk=>⟨nm 120 k,1,k⟩)++[⟨nm 98 0,2,0⟩]++(List.range a).map (λk=>⟨nm 116 k,3,0⟩)
def Hh(a ints b:Nat)(c:List (List Nat))(i:Nat):Sc:=⟨ints,b,a,0,c,i⟩
def Il(sc:Sc)(a:List Nat)(hs:List Hd):Prop:=1<=hs.length/\hs.length<=a.length/\AX sc a hs
structure FK(nf:Nat)(pP:List (List Nat))(i:Nat)(c:Co):Prop where
 ex:∃ints kg al,1<=ints/\ints<=3/\kg<=1/\c.name=kW i/\c.vars=lB ints kg/\1<=c.jG.length/\c.jG.length<=2/\pP[i]?=some al/\(∀hs∈c.jG,Il (Hh nf ints kg pP i) al hs)/\(∃hs∈c.jG,hs.length=al.length)
def Cw:Nat->Ex->Prop
 |0,_=>False
 |d+1,e=>1<=e.op/\e.op<=255/\e.args.length<=2/\∀a∈e.args,Cw d a
def rQ:Nat->St->Prop
 |0,_=>False
 |d+1,s=>1<=s.kind/\s.kind<=255/\s.jy.length<=3/\s.th.length<=12/\s.el.length<=12/\(∀e∈s.jy,Cw De e)/\(∀x∈s.th,rQ d x)/\∀x∈s.el,rQ d x
theorem kG.ops{sc}:∀{d:Nat} {e:Ex},kG sc d e->Cw d e
 |0,_,h=>h.elim
 |d+1,e,h=>by
  rcases h with⟨f,_,_,_,c⟩|⟨f,_,_,c⟩|⟨f,_,_,c⟩|⟨f,_,_,_,a,c,g⟩|⟨f,_,_,_,c⟩|⟨f,_,_,a,c,g⟩|⟨f,_,_,a,b,c,g,i⟩
  all_goals
   refine⟨LC,LC,by rw[c];simp,λx hx=>?_⟩;rw[c]at hx;simp at hx
  rw[hx];exact kG.ops g;rw[hx];exact kG.ops g;rcases hx with rfl|rfl;exact kG.ops g;exact kG.ops i
theorem mf.ops{sc}:∀{d:Nat} {e:Ex},mf sc d e->Cw d e
 |0,_,h=>h.elim
 |d+1,e,h=>by
  rcases h with⟨g,_,_,c⟩|⟨g,_,_,c⟩|⟨g,_,_,_,a,c,f⟩|⟨g,_,_,a,c,f⟩|⟨g,_,_,a,b,c,f,i⟩|⟨g,_,_,a,b,c,f,i⟩
  all_goals
   refine⟨LC,LC,by rw[c];simp,λx hx=>?_⟩;rw[c]at hx;simp at hx
  rw[hx];exact kG.ops f;rw[hx];exact mf.ops f;rcases hx with rfl|rfl;exact mf.ops f;exact mf.ops i;rcases hx with rfl|rfl;exact kG.ops f;exact kG.ops i
theorem nK{d:Nat}:∀{l:List St} {n:Nat},jw (d+1) l<=n->l.length<=n/\∀s∈l,jw d s.th<=n/\jw d s.el<=n
 |[],n,_=>⟨by simp,λs hs=>by simp at hs⟩
 |s::l,n,h=>by have b:1+jw d s.th+jw d s.el+jw (d+1) l<=n:=(by simpa[jw]using h);obtain⟨c,a⟩:=nK (d:=d) (l:=l) (n:=n-1) LC;refine⟨LJ,λx hx=>?_⟩;rcases List.mem_cons.1 hx with rfl|hx;omega;have:=a x hx;omega
theorem sg{d:Nat}{l}{n:Nat}{sc}(h:jw d l<=n)(hs:∀x∈l,mo sc d x):l.length<=n:=by
 cases d with
 |zero=>
  cases l with
  |nil=>simp
  |cons x l=>exact(hs x LG).elim
 |succ d=>exact(nK h).1
structure In where
 op:Int
 a:Int
 b:Int
 n:Int
theorem oa(i t:Nat):(lB i t).length=i+1+t:=by simp[lB];omega
def shapes:List (Nat×Bool×Nat×List UInt8):=[(0,false,0,[]),(0,false,7,[]),(0,false,7,[116,114,117,101]),(0,false,7,[102,97,108,115,101]),(0,false,7,[110,111,119]),(0,true,7,[]),(1,true,7,[]),(1,true,7,[104,97,115,32]),(0,true,7,[115,105,122,101,32]),(1,false,6,[45]),(1,false,6,[110,111,116,32]),(2,false,5,[32,42,32]),(2,false,5,[32,47,32]),(2,false,5,[32,37,32]),(2,false,4,[32,43,32]),(2,false,4,[32,45,32]),(2,false,3,[32,61,61,32]),(2,false,3,[32,33,61,32]),(2,false,3,[32,60,32]),(2,false,3,[32,60,61,32]),(2,false,3,[32,62,32]),(2,false,3,[32,62,61,32]),(2,false,2,[32,97,110,100,32]),(2,false,1,[32,111,114,32])]
def forms:List (Bool×Bool×Nat×Nat×Bool×Bool):=[(false,false,0,0,false,false),(true,false,1,1,false,false),(true,false,2,2,false,false),(true,false,1,1,false,false),(false,false,1,1,true,true),(false,false,1,1,true,false),(true,true,0,4,false,false),(false,true,1,5,false,false),(false,false,2,2,false,true),(true,false,1,1,false,true),(false,false,0,0,false,false)]
def ko(x:In):Prop:=1<=x.op/\x.op<=34/\x.op≠27/\x.op≠28/\x.op≠32/\x.op≠33
end jJ
namespace Go.Proofs.YtidmdcckbdmblaaGreatDoor
open Go.RowKit jJ Go.Proofs.Tryz
abbrev tx(l:List UInt8):Value:=.string ⟨l.toArray⟩
def jk:Rel (List UInt8):=λ_ _ r x=>r=[tx x]
theorem jk.ok:jI jk 1:=⟨LC,λh=>by rw[h];rfl,λh u hu=>by rw[h]at hu;simp at hu;rw[hu];rfl,λh _=>h,λh _=>h⟩
def kY:Rel Fg:=λ_ _ r x=>r=[tx x.name,.bool x.init]
theorem kY.ok:jI kY 2:=⟨LC,λh=>by rw[h];rfl,λh u hu=>by rw[h]at hu;simp at hu;rcases hu with rfl|rfl<;>rfl,λh _=>h,λh _=>h⟩
def nr:Rel Lk:=λ_ _ r x=>r=[tx x.a,tx x.b,.int .i64 x.tL]
theorem nr.ok:jI nr 3:=⟨LC,λh=>by rw[h];rfl,λh u hu=>by rw[h]at hu;simp at hu;rcases hu with rfl|rfl|rfl<;>rfl,λh _=>h,λh _=>h⟩
def nU(q:IntKind):Rel Va:=λ_ _ r x=>r=[tx x.name,.int q x.ty,.int .i64 x.init]
theorem nU.ok(q:IntKind):jI (nU q) 3:=⟨LC,λh=>by rw[h];rfl,λh u hu=>by rw[h]at hu;simp at hu;rcases hu with rfl|rfl|rfl<;>rfl,λh _=>h,λh _=>h⟩
def ki(q:IntKind):Nat->Rel Ex
 |0=>λ_ _ _ _=>False
 |d+1=>λa w r e=>∃v,r=[.int q e.op,tx e.name,.int .i64 e.n,v]/\jc (ki q d) a w v e.args
theorem ki.ok(q:IntKind):∀d,jI (ki q d) 4
 |0=>⟨LC,λh=>h.elim,λh=>h.elim,λh=>h.elim,λh=>h.elim⟩
 |d+1=>⟨LC,λ⟨v,h,_⟩=>by rw[h];rfl,λ⟨v,h,hs⟩ u hu=>by rw[h]at hu;simp at hu;rcases hu with rfl|rfl|rfl|rfl;rfl;rfl;rfl;exact hs.one,λ⟨v,h,hs⟩ a=>⟨v,h,hs.M (ki.ok q d) a⟩,λ⟨v,h,hs⟩ b=>⟨v,h,hs.iV (ki.ok q d) b⟩⟩
def jH(q:IntKind):Nat->Rel St
 |0=>λ_ _ _ _=>False
 |d+1=>λa w r s=>∃v1 v2 b,r=[.int q s.kind,tx s.name,tx s.hd,v1,v2,b]/\jc (ki q De) a w v1 s.jy/\jc (jH q d) a w v2 s.th/\jc (jH q d) a w b s.el
theorem jH.ok(q:IntKind):∀d,jI (jH q d) 6
 |0=>⟨LC,λh=>h.elim,λh=>h.elim,λh=>h.elim,λh=>h.elim⟩
 |d+1=>⟨LC,λ⟨v1,v2,a,h,_⟩=>by rw[h];rfl,λ⟨v1,v2,a,h,b,c,e⟩ u hu=>by
  rw[h]at hu;simp at hu;rcases hu with rfl|rfl|rfl|rfl|rfl|rfl;rfl;rfl;rfl;exact b.one;exact c.one;exact e.one,λ⟨v1,v2,a,h,b,c,e⟩ f=>⟨v1,v2,a,h,b.M (ki.ok q _) f,c.M (jH.ok q d) f,e.M (jH.ok q d) f⟩,
  λ⟨v1,v2,a,h,b,c,e⟩ g=>⟨v1,v2,a,h,b.iV (ki.ok q _) g,c.iV (jH.ok q d) g,e.iV (jH.ok q d) g⟩⟩
def kZ(q:IntKind):Rel Hd:=λa w r h=>∃v1 v2,r=[tx h.name,v1,v2]/\jc jk a w v1 h.params/\jc (jH q Ds) a w v2 h.body
theorem kZ.ok(q:IntKind):jI (kZ q) 3:=
 ⟨LC,λ⟨v1,v2,h,_⟩=>by rw[h];rfl,λ⟨v1,v2,h,a,b⟩ u hu=>by rw[h]at hu;simp at hu;rcases hu with rfl|rfl|rfl;rfl;exact a.one;exact b.one,λ⟨v1,v2,h,a,b⟩ c=>⟨v1,v2,h,a.M jk.ok c,b.M (jH.ok q _) c⟩,λ⟨v1,v2,h,a,b⟩ d=>⟨v1,v2,h,a.iV jk.ok d,b.iV (jH.ok q _) d⟩⟩
def ly(q:IntKind):Rel (List Hd):=λa w r l=>∃v,r=[v]/\jc (kZ q) a w v l
theorem ly.ok(q:IntKind):jI (ly q) 1:=
 ⟨LC,λ⟨v,h,_⟩=>by rw[h];rfl,λ⟨v,h,a⟩ u hu=>by rw[h]at hu;simp at hu;rw[hu];exact a.one,λ⟨v,h,a⟩ b=>⟨v,h,a.M (kZ.ok q) b⟩,λ⟨v,h,a⟩ c=>⟨v,h,a.iV (kZ.ok q) c⟩⟩
def kL(q:IntKind):Rel Co:=λa w r c=>∃v1 v2,r=[tx c.name,v1,v2]/\jc (nU q) a w v1 c.vars/\jc (ly q) a w v2 c.jG
theorem kL.ok(q:IntKind):jI (kL q) 3:=
 ⟨LC,λ⟨v1,v2,h,_⟩=>by rw[h];rfl,λ⟨v1,v2,h,a,b⟩ u hu=>by rw[h]at hu;simp at hu;rcases hu with rfl|rfl|rfl;rfl;exact a.one;exact b.one,λ⟨v1,v2,h,a,b⟩ c=>⟨v1,v2,h,a.M (nU.ok q) c,b.M (ly.ok q) c⟩,λ⟨v1,v2,h,a,b⟩ d=>⟨v1,v2,h,a.iV (nU.ok q) d,b.iV (ly.ok q) d⟩⟩
def I8(q:IntKind):Rel Fl:=λa w r f=>∃v1 v2 b,r=[tx f.name,v1,v2,b]/\jc kY a w v1 f.jl/\jc nr a w v2 f.kj/\jc (kL q) a w b f.jh
theorem I8.ok(q:IntKind):jI (I8 q) 4:=
 ⟨LC,λ⟨v1,v2,a,h,_⟩=>by rw[h];rfl,λ⟨v1,v2,a,h,b,c,d⟩ u hu=>by rw[h]at hu;simp at hu;rcases hu with rfl|rfl|rfl|rfl;rfl;exact b.one;exact c.one;exact d.one,λ⟨v1,v2,a,h,b,c,d⟩ e=>⟨v1,v2,a,h,b.M kY.ok e,c.M nr.ok e,d.M (kL.ok q) e⟩,λ⟨v1,v2,a,h,b,c,d⟩ f=>⟨v1,v2,a,h,b.iV kY.ok f,c.iV nr.ok f,d.iV (kL.ok q) f⟩⟩
theorem iT{w:World}{b:Nat}{a:Array Value}{t:TypeId}{d:Nat×Nat}(h:w.heap[b]?=some (.cells a t d))(c:Nat)(v:Value)(e:a[c]?=some v):w.cell? ⟨b,c,none⟩=some v:=by simp[World.cell?,h,e]
theorem iY{w:World}{b:Nat}{a:Array Value}{t:TypeId}(h:w.heap[b]?=some (.cells a t (0,0)))(c:Nat):w.frozen? ⟨b,c,none⟩=false:=by simp[World.frozen?,h]
def Cv:Rel Nat:=λ_ _ r x=>r=[.int .i64 (x:Int)]
theorem Cv.ok:jI Cv 1:=⟨LC,λh=>by rw[h];rfl,λh u hu=>by rw[h]at hu;simp at hu;rw[hu];rfl,λh _=>h,λh _=>h⟩
def Fp:Rel (List Nat):=λa w r l=>∃v,r=[v]/\jc Cv a w v l
theorem Fp.ok:jI Fp 1:=
 ⟨LC,λ⟨v,h,_⟩=>by rw[h];rfl,λ⟨v,h,a⟩ u hu=>by rw[h]at hu;simp at hu;rw[hu];exact a.one,λ⟨v,h,a⟩ b=>⟨v,h,a.M Cv.ok b⟩,λ⟨v,h,a⟩ c=>⟨v,h,a.iV Cv.ok c⟩⟩
def Cq:Rel UInt8:=λ_ _ r x=>r=[.int .u8 (x.toNat:Int)]
theorem Cq.ok:jI Cq 1:=⟨LC,λh=>by rw[h];rfl,λh u hu=>by rw[h]at hu;simp at hu;rw[hu];rfl,λh _=>h,λh _=>h⟩
structure mg(S:Nat->Prop)(w:World)(mb:Nat)(sc:Sc)(left:Nat):Prop where
 jr:∃(I9 Ja:Value) (bs:List UInt8),w.heap[mb]?=some (.cells #[.int .i64 sc.ints,sc.kg,sc.jl,sc.own,I9,sc.params,Ja,left] 156 (0,0))/\jc Fp S w I9 sc.pP/\jc Cq S w Ja bs
 jY:∀b,S b->b≠mb/\b<w
theorem mg.lt{b w}{a:Nat}{sc}{left:Nat}(h:mg b w a sc left):a<w:=by obtain⟨_,_,_,c,_⟩:=h.jr;exact(JJ.1 c).1
theorem mg.iV{a w w'}{c:Nat}{sc}{left:Nat}(h:mg a w c sc left)(d:w.grownBy w' none):mg a w' c sc left:=by obtain⟨f,g,i,j,k,hy⟩:=h.jr;have e:∀b,a b->w'.heap[b]?=w.heap[b]?:=λb hS=>d.B b (h.jY b hS).2 LG;exact⟨⟨f,g,i,(d.B c h.lt LG).T j,k.iV Fp.ok e,hy.iV Cq.ok e⟩,λb hS=>⟨(h.jY b hS).1,JI (h.jY b hS).2 d.size⟩⟩
theorem mg.iU{a w w'}{b:Nat}{sc}{left:Nat}(h:mg a w b sc left)(c:Below w w w'):mg a w' b sc left:=h.iV (jo c)
theorem mg.cells{c w}{a:Nat}{sc}{left:Nat}(h:mg c w a sc left):w.cell? ⟨a,0,none⟩=some (.int .i64 sc.ints)/\w.cell? ⟨a,1,none⟩=some (.int .i64 sc.kg)/\w.cell? ⟨a,2,none⟩=some (.int .i64 sc.jl)/\w.cell? ⟨a,3,none⟩=some (.int .i64 sc.own)/\w.cell? ⟨a,5,none⟩=some (.int .i64 sc.params)/\w.cell? ⟨a,7,none⟩=some (.int .i64 left):=by obtain⟨d,e,f,b,_⟩:=h.jr;exact⟨iT b 0 _ rfl,iT b 1 _ rfl,iT b 2 _ rfl,iT b 3 _ rfl,iT b 5 _ rfl,iT b 7 _ rfl⟩
theorem jd{a b c:World}{row:Option Nat}(h:a.grownBy b row)(k:b.grownBy c row):a.grownBy c row:=
 ⟨k.os.T h.os,k.tape.T h.tape,k.output.T h.output,J9 h.size k.size,λq d e=>(k.B q (JI d h.size) e).T (h.B q d e)⟩
theorem jv{a b:World}(h:a.grownBy b none)(row:Option Nat):a.grownBy b row:=⟨h.os,h.tape,h.output,h.size,λk c _=>h.B k c LG⟩
def New(w a:World):Nat->Prop:=λb=>w<b/\b<a
structure ue(S:Nat->Prop)(mb:Nat)(sc:Sc)(left:Nat)(T:TypeId)(cs:Array Value)(w wx:World):Prop where
 hz:wx.heap[w.heap.size]?=some (.cells cs T (0,0))
 hm:mg S wx mb sc left
 hg:w.grownBy wx (some mb)
 G6:mb<w
 hS:∀b,S b->b<w
theorem ue.lt{b}{c:Nat}{sc}{left:Nat}{T d w a}(h:ue b c sc left T d w a):w.heap.size<a:=(JJ.1 h.hz).1
theorem ue.call{b}{a:Nat}{sc}{left left':Nat}{T d w f c}(h:ue b a sc left T d w f)(hm:mg b c a sc left')(g:f.grownBy c (some a)):ue b a sc left' T d w c:=
 ⟨(g.B w h.lt (λe=>by injection e with e;have:=h.G6;omega)).T h.hz,hm,jd h.hg g,h.G6,h.hS⟩
theorem ue.grow{a}{b:Nat}{sc}{left:Nat}{T c w d e}(h:ue a b sc left T c w d)(f:d.grownBy e none):ue a b sc left T c w e:=
 h.call (h.hm.iV f) (jv f _)
theorem ue.alloc{b}{c:Nat}{sc}{left:Nat}{T d w a}(h:ue b c sc left T d w a)(o):ue b c sc left T d w (a.alloc o):=h.grow (Kd a o none)
def Good(a z:Nat)(w w':World):Prop:=w.heap.size<=w'/\∀b,b<w.heap.size->b≠a->b≠z->w'.heap[b]?=w.heap[b]?
theorem Good.mj{a z:Nat}{w w'}(h:w.grownBy w' (some a)):Good a z w w':=⟨h.size,λb c d _=>h.B b c (λe=>d (by injection e))⟩
theorem Good.Et{a z:Nat}{w w'}(h:w.grownBy w' none):Good a z w w':=⟨h.size,λb c _ _=>h.B b c LG⟩
theorem Good.alloc{a z:Nat}(w o):Good a z w (w.alloc o):=.Et (Kd w o none)
theorem Good.T{d z:Nat}{a b c}(h:Good d z a b)(k:Good d z b c):Good d z a c:=⟨J9 h.1 k.1,λq e f g=>(k.2 q (JI e h.1) f g).T (h.2 q e f g)⟩
def wm(a:Nat->Prop)(b:Nat)(sc:Sc)(left:Nat)(T:TypeId)(w0 w:World):Prop:=∃u0 u1 u2 u3 c d,ue a b sc left T #[u0,u1,u2,u3,c,d] w0 w
theorem wm.grow{a}{b:Nat}{sc}{left:Nat}{T w0 w w'}(h:wm a b sc left T w0 w)(c:w.grownBy w' none):wm a b sc left T w0 w':=by obtain⟨u0,u1,u2,u3,d,e,h⟩:=h;exact⟨u0,u1,u2,u3,d,e,h.grow c⟩
theorem wm.call{b}{a:Nat}{sc}{left left':Nat}{T w0 w w'}(h:wm b a sc left T w0 w)(hm:mg b w' a sc left')(c:w.grownBy w' (some a)):wm b a sc left' T w0 w':=by obtain⟨u0,u1,u2,u3,d,e,h⟩:=h;exact⟨u0,u1,u2,u3,d,e,h.call hm c⟩
theorem wm.m{c}{a:Nat}{sc}{left:Nat}{T w0 w}(h:wm c a sc left T w0 w):mg c w a sc left/\a<w0/\w0.heap.size<w/\(∀b,c b->b<w0/\b≠a):=by obtain⟨u0,u1,u2,u3,e,f,h⟩:=h;exact⟨h.hm,h.G6,h.lt,λb d=>⟨h.hS b d,(h.hm.jY b d).1⟩⟩
def AQ:Rel Cd:=λa w r c=>∃v,r=[.int .u8 (c.params:Int),v]/\jc Cq a w v c.bytes
theorem AQ.ok:jI AQ 2:=
 ⟨LC,λ⟨v,h,_⟩=>by rw[h];rfl,λ⟨v,h,a⟩ u hu=>by rw[h]at hu;simp at hu;rcases hu with rfl|rfl;rfl;exact a.one,λ⟨v,h,a⟩ b=>⟨v,h,a.M Cq.ok b⟩,λ⟨v,h,a⟩ c=>⟨v,h,a.iV Cq.ok c⟩⟩
theorem jD.take{a:Type}{R:List Value->a->Prop}:∀{b:List (List Value)} {xs:List a} (h:Nat),jD R b xs->jD R (b.take h) (xs.take h)
 |[],[],h,_=>by simp;trivial
 |_::_,_::_,0,_=>trivial
 |_::_,_::_,h+1,⟨h1,h2⟩=>⟨h1,jD.take h h2⟩
 |[],_::_,_,h=>h.elim
 |_::_,[],_,h=>h.elim
theorem jc.take{f:Type}{R:Rel f}{g w d}{n c:Nat}{xs:List f}(h:jc R g w (.slice d n c) xs)(m:Nat)(hm:m<=n):jc R g w (.slice d m c) (xs.take m):=by
 obtain⟨x,y,a,e,z,j,k,l⟩:=h;injection e with p q r;subst p q r;refine⟨d,c,a.take m,by rw[Kv,Nat.min_eq_left hm],by rw[Kv,Nat.min_eq_left hm];omega,j,λs=>?_,jD.take m l⟩;have i:a.flatten=(a.take m).flatten++(a.drop m).flatten:=by rw[<-List.flatten_append,K6]
 obtain⟨b,o,e,t,hc⟩:=k (by rw[i];intro e;exact s (List.append_eq_nil_iff.1 e).1);refine⟨b,o,e,t,λv u hu=>hc v u ?_⟩;rw[i,Ku (J6.1 hu).1];exact hu
theorem AQ.jr{f w g}{n c i:Nat}{l x}(h:jc AQ f w (.slice g n c) l)(k:l[i]?=some x):
  ∃b o a d,g=some ⟨b,o,none⟩/\f b/\w.cell? ⟨b,o+i*2,none⟩=some (.int .u8 (x.params:Int))/\w.cell? ⟨b,o+i*2+1,none⟩=some (.slice a x.bytes.length d)/\jc Cq f w (.slice a x.bytes.length d) x.bytes:=by
 obtain⟨b,o,r,e,m,⟨v,hr,j⟩,hc⟩:=h.jr AQ.ok i x k;obtain⟨a,d,p,rfl,_⟩:=id j;subst hr;exact⟨b,o,a,d,e,m,by simpa using hc 0 _ rfl,hc 1 _ rfl,j⟩
def NG(w0 w w':World):Prop:=w.heap.size<=w'/\∀b,New w0 w b->w'.heap[b]?=w.heap[b]?
theorem NG.mj{w0 w w' row}(h:w.grownBy w' row)(hr:∀z,row=some z->z<=w0.heap.size):NG w0 w w':=⟨h.size,λb a=>h.B b a.2 λe=>LB (hr b e.symm) a.1⟩
theorem NG.alloc(w0 w o):NG w0 w (w.alloc o):=.mj (Kd w o none) (λz e=>by cases e)
def G2:Rel Pt:=λa w r p=>∃v1 v2,r=[.int .u8 (p.ints:Int),.int .u8 (p.kg:Int),v1,v2]/\jc AQ a w v1 p.hs/\jc AQ a w v2 p.ss
theorem G2.ok:jI G2 4:=
 ⟨LC,λ⟨v1,v2,h,_⟩=>by rw[h];rfl,λ⟨v1,v2,h,a,b⟩ u hu=>by rw[h]at hu;simp at hu;rcases hu with rfl|rfl|rfl|rfl;rfl;rfl;exact a.one;exact b.one,λ⟨v1,v2,h,a,b⟩ c=>⟨v1,v2,h,a.M AQ.ok c,b.M AQ.ok c⟩,λ⟨v1,v2,h,a,b⟩ d=>⟨v1,v2,h,a.iV AQ.ok d,b.iV AQ.ok d⟩⟩
def H6(B n:Nat):Nat->Prop:=λb=>B<b/\b<n
theorem G2.jr{a w g}{n c i:Nat}{l x}(h:jc G2 a w (.slice g n c) l)(q:l[i]?=some x):
  ∃b o d j c1 f k c2,g=some ⟨b,o,none⟩/\a b/\w.cell? ⟨b,o+i*4,none⟩=some (.int .u8 (x.ints:Int))/\w.cell? ⟨b,o+i*4+1,none⟩=some (.int .u8 (x.kg:Int))/\w.cell? ⟨b,o+i*4+2,none⟩=some (.slice d j c1)/\w.cell? ⟨b,o+i*4+3,none⟩=some (.slice f k c2)/\
   jc AQ a w (.slice d j c1) x.hs/\jc AQ a w (.slice f k c2) x.ss:=by
 obtain⟨b,o,r,e,s,⟨v1,v2,hr,m,p⟩,hc⟩:=h.jr G2.ok i x q;obtain⟨d,c1,_,rfl,_⟩:=id m;obtain⟨f,c2,_,rfl,_⟩:=id p;subst hr;exact⟨b,o,d,_,c1,f,_,c2,e,s,by simpa using hc 0 _ rfl,hc 1 _ rfl,hc 2 _ rfl,hc 3 _ rfl,m,p⟩
theorem mg.M{d a w}{c:Nat}{sc}{left:Nat}(h:mg d w c sc left)(hS:∀b,d b->a b)(hf:∀b,a b->b≠c/\b<w):mg a w c sc left:=by obtain⟨e,f,g,i,j,hy⟩:=h.jr;exact⟨⟨e,f,g,i,j.M Fp.ok hS,hy.M Cq.ok hS⟩,hf⟩
theorem jc.len{a:Type}{R:Rel a}{b w d}{n c:Nat}{xs:List a}(h:jc R b w (.slice d n c) xs):xs.length=n/\n<=c:=by obtain⟨j,k,l,e,f,_⟩:=h;injection e with _ g i;subst g i;exact⟨rfl,f⟩
structure Kp(mb cb:Nat)(w w':World):Prop where
 os:w'.os=w.os
 tape:w'.tape=w.tape
 output:w'.output=w.output
 size:w.heap.size<=w'
 B:∀b,b<w.heap.size->b≠mb->b≠cb->w'.heap[b]?=w.heap[b]?
theorem Kp.refl(a cb:Nat)(w):Kp a cb w w:=⟨rfl,rfl,rfl,JS _,λ_ _ _ _=>rfl⟩
theorem Kp.T{d cb:Nat}{a b c}(h:Kp d cb a b)(k:Kp d cb b c):Kp d cb a c:=⟨k.os.T h.os,k.tape.T h.tape,k.output.T h.output,J9 h.size k.size,λq e f g=>(k.B q (JI e h.size) f g).T (h.B q e f g)⟩
theorem Kp.mj{a cb:Nat}{w w'}(h:w.grownBy w' (some a)):Kp a cb w w':=⟨h.os,h.tape,h.output,h.size,λb c d _=>h.B b c (λe=>d (by injection e))⟩
abbrev F0:List UInt8:=[102,108,101,101,116,49]
def Nw(w0 w:World):Nat->Prop:=λb=>w0<=b/\b<w
def NK(w0 w w':World):Prop:=w.heap.size<=w'/\∀b,Nw w0 w b->w'.heap[b]?=w.heap[b]?
theorem NK.mj{w0 w w' row}(h:w.grownBy w' row)(hr:∀z,row=some z->z<w0.heap.size):NK w0 w w':=⟨h.size,λb a=>h.B b a.2 λe=>LB (hr b e.symm) a.1⟩
theorem NK.alloc(w0 w o):NK w0 w (w.alloc o):=.mj (Kd w o none) (λz e=>by cases e)
theorem NK.iU{w0 w w'}(h:Below w.heap.size w w'):NK w0 w w':=.mj (jo h) (λz e=>by cases e)
def G7(z:Obj)(w:World)(a:Nat->Prop):Nat->Prop:=λb=>a b/\w.heap[b]? ≠some z
def tN:Rel In:=λ_ _ r x=>r=[.int .u8 x.op,.int .i64 x.a,.int .i64 x.b,.int .i64 x.n]
theorem tN.ok:jI tN 4:=
 ⟨LC,λh=>by rw[h];rfl,λh u hu=>by rw[h]at hu;simp at hu;rcases hu with rfl|rfl|rfl|rfl<;>rfl,λh _=>h,λh _=>h⟩
theorem jD.map{a:Type}(f:a->List Value):∀(l:List a),jD (λr x=>r=f x) (l.map f) l
 |[]=>trivial
 |_::l=>⟨rfl,jD.map f l⟩
def nM(x:Nat×Bool×Nat×List UInt8):List Value:=[.int .i64 (x.1:Int),.bool x.2.1,.int .i64 (x.2.2.1:Int),tx x.2.2.2]
def oZ(x:Bool×Bool×Nat×Nat×Bool×Bool):List Value:=[.bool x.1,.bool x.2.1,.int .i64 (x.2.2.1:Int),.int .i64 (x.2.2.2.1:Int),.bool x.2.2.2.2.1,.bool x.2.2.2.2.2]
def rI:Array Value:=(shapes.map nM).flatten.toArray
def vv:Array Value:=(forms.map oZ).flatten.toArray
theorem kP(l):(⟨l.toArray⟩:ByteArray).toList=l:=by rw[K2]
end Go.Proofs.YtidmdcckbdmblaaGreatDoor
namespace Go.Proofs.YtidmdcckbdmblaaGreatDoor
open Go.RowKit Go.Proofs.Tryz
theorem kh(b o a:Nat):(⟨b,o,none⟩:Addr).add a=⟨b,o+a,none⟩:=by
 unfold Addr.add;split
 rename_i h;subst h;rfl
 rfl
theorem jc.cells{i:Type}{R:Rel i}{k:Nat}(ok:jI R k){j w l}{n c:Nat}{xs:List i}(h:jc R j w (.slice (some l) n c) xs):
  ∃a:List (List Value),xs.length=n/\n<=c/\a.flatten.length=n*k/\jD (R j w) a xs/\(∀d u,a.flatten[d]?=some u->w.cell? (l.add d)=some u)/\(∀u∈a.flatten,u.oneCell'=true):=by
 obtain⟨v,y,a,e,m,z,p,f⟩:=h;injection e with q s t;subst q s t;refine⟨a,rfl,m,jD.flat (λr x h=>ok.len h) f,f,λd u g=>?_,jD.one (λr x h=>ok.one h) f⟩;obtain⟨b,o,e,_,hc⟩:=p (by intro e;rw[e]at g;simp at g);injection e with e;subst e;rw[kh];exact hc d u g
end Go.Proofs.YtidmdcckbdmblaaGreatDoor
namespace Go.Proofs.YtidmdcckbdmblaaGreatDoor
open Go.RowKit jJ Go.Proofs.Tryz
def qf(e:Nat->Prop)(a:Nat)(sc:Sc)(V:Value)(hs:List Hd)(d:Nat)(f:Int)(g:Option Addr)(n c:Nat)(w x:World):Prop:=
 w.grownBy x (some a)/\jx (kZ .i64) 185 3 (λb=>w<=b/\b≠a) x w V hs/\x.heap[d]?=some (.cells #[.int .u8 f,.slice g n c] 158 (0,0))/\d≠a/\some d≠V.ownBlock/\(∃p left,mg e x a {sc with params:=p} left)
theorem qf.call{b}{a:Nat}{sc V hs}{d:Nat}{i:Int}{j}{n c:Nat}{w x f}(h:qf b a sc V hs d i j n c w x)(u:a<w){p left:Nat}(hm:mg b f a {sc with params:=p} left)(g:x.grownBy f (some a)):qf b a sc V hs d i j n c w f:=by
 obtain⟨q,k,l,m,r,_⟩:=h;have s:=k.ge;exact⟨jd q g,k.grown (kZ.ok _) g (λz e=>by injection e with e;subst e;exact⟨λh=>h.2 rfl,λt=>LA (s a t.symm)⟩),
  (g.B d (JJ.1 l).1 (λe=>m (by injection e))).T l,m,r,p,left,hm⟩
theorem qf.grow{b}{a:Nat}{sc V hs}{d:Nat}{e:Int}{f}{n c:Nat}{w x g}(h:qf b a sc V hs d e f n c w x)(j:a<w)(i:x.grownBy g none):qf b a sc V hs d e f n c w g:=by obtain⟨p,left,hm⟩:=h.2.2.2.2.2;exact h.call j (hm.iV i) (jv i _)
theorem jz{w:World}{b:Nat}{a v1 v2:Value}{t:TypeId}(h:w.heap[b]?=some (.cells #[a,v1,v2] t (0,0))):
  (w.cell? ⟨b,0,none⟩=some a/\w.cell? ⟨b,1,none⟩=some v1/\w.cell? ⟨b,2,none⟩=some v2)/\(w.frozen? ⟨b,0,none⟩=false/\w.frozen? ⟨b,1,none⟩=false/\w.frozen? ⟨b,2,none⟩=false):=
 ⟨⟨iT h 0 _ rfl,iT h 1 _ rfl,iT h 2 _ rfl⟩,⟨iY h 0,iY h 1,iY h 2⟩⟩
structure lj{α:Type}(R:Rel α)(T k:Nat)(P:Nat->Prop)(w3 wr:World)(o:Nat)(C:Array Value)(TO:TypeId)(V:Value)(xs:List α)(x:World):Prop where
 g:w3.grownBy x (some o)
 c:x.heap[o]?=some (.cells C TO (0,0))
 own:jx R T k P x w3 V xs
 s:wr.heap.size<=x
 v:∀z,V.ownBlock=some z->w3<=z/\z<wr
 lt:o<w3
 ws:w3.heap.size<=wr
 k:∀b,b<wr.heap.size->b≠o->some b≠V.ownBlock->x.heap[b]?=wr.heap[b]?
theorem lj.grow{c:Type}{R:Rel c}{T k:Nat}{P d wr}{o:Nat}{C f V}{xs:List c}{x g}(h:lj R T k P d wr o C f V xs x)(ok:jI R k)(a:x.grownBy g none):lj R T k P d wr o C f V xs g:=
 have hx:o<x:=(JJ.1 h.c).1
 ⟨jd h.g (jv a _),(a.B o hx LG).T h.c,h.own.grown ok a (λz e=>by cases e),J9 h.s a.size,h.v,h.lt,h.ws,λb i j l=>(a.B b (JI i h.s) LG).T (h.k b i j l)⟩
theorem lj.iU{a:Type}{R:Rel a}{T k:Nat}{P b wr}{o:Nat}{C c V}{xs:List a}{x d}(h:lj R T k P b wr o C c V xs x)(ok:jI R k)(e:Below x x d):lj R T k P b wr o C c V xs d:=h.grow ok (jo e)
theorem lj.alloc{a:Type}{R:Rel a}{T k:Nat}{P b wr}{o:Nat}{C c V}{xs:List a}{x}(h:lj R T k P b wr o C c V xs x)(ok:jI R k)(d):lj R T k P b wr o C c V xs (x.alloc d):=h.grow ok (Kd _ _ none)
theorem jc.form{b:Type}{R:Rel b}{d w v}{xs:List b}(h:jc R d w v xs):∃a c,v=.slice a xs.length c/\xs.length<=c:=by obtain⟨a,c,g,e,f,_⟩:=h;exact⟨a,c,e,f⟩
theorem G7.iV{z w0 w w'}(c:NK w0 w w'){d:Type}{R:Rel d}{k:Nat}(ok:jI R k){v}{xs:List d}(h:jc R (G7 z w (Nw w0 w)) w v xs):jc R (G7 z w' (Nw w0 w')) w' v xs:=
 (h.iV ok λb a=>c.2 b a.1).M ok λb a=>⟨⟨a.1.1,JI a.1.2 c.1⟩,by rw[c.2 b a.1];exact a.2⟩
structure kQ(cb:Nat)(V:Value)(w:World)(V':Value)(w':World):Prop where
 size:w.heap.size<=w'
 k:∀b,b<w.heap.size->b≠cb->some b≠V.ownBlock->w'.heap[b]?=w.heap[b]? /\some b≠V'.ownBlock
theorem kQ.refl(cb:Nat)(V w):kQ cb V w V w:=⟨JS _,λ_ _ _ h=>⟨rfl,h⟩⟩
def jf(v:Value)(w:World)(e:Ending)(w':World):Prop:=e=.returned v/\Below w w w'
end Go.Proofs.YtidmdcckbdmblaaGreatDoor
namespace jJ
def lQ(n m:Nat)(a:List Lk):Prop:=(∀x∈a,∃k,k<m/\k<n*n/\x.a=kW (k/n)/\x.b=kW (k % n)/\1<=x.tL/\x.tL<=3)/\(a.map λx=>(x.a,x.b)).Nodup
structure AY(f:Fl):Prop where
 ex:∃nf pP,f.name=[102,108,101,101,116,49]/\nf<=2/\qc nf f.jl/\1<=pP.length/\pP.length<=3/\(∀l∈pP,1<=l.length/\l.length<=3/\∀a∈l,a<=2)/\lQ pP.length (pP.length*pP.length) f.kj/\f.jh.length=pP.length/\∀i c,f.jh[i]?=some c->FK nf pP i c
theorem mo.ops{sc}:∀{d:Nat} {s:St},mo sc d s->(jw (d-1) s.th<=12/\jw (d-1) s.el<=12)->sc.pP.length<=3->(∀l∈sc.pP,∀a∈l,a<=2)->rQ d s
 |0,_,h,_,_,_=>h.elim
 |d+1,s,h,hc,h3,h2=>by
  have z:(∀x∈s.th,mo sc d x)->s.th.length<=12/\∀x∈s.th,rQ d x:=λg=>by
   refine⟨sg hc.1 g,λx hx=>mo.ops (g x hx) ?_ h3 h2⟩;cases d with
   |zero=>exact(g x hx).elim
   |succ d=>exact(nK hc.1).2 x hx
  have r:(∀x∈s.el,mo sc d x)->s.el.length<=12/\∀x∈s.el,rQ d x:=λg=>by
   refine⟨sg hc.2 g,λx hx=>mo.ops (g x hx) ?_ h3 h2⟩;cases d with
   |zero=>exact(g x hx).elim
   |succ d=>exact(nK hc.2).2 x hx
  have n:s.th=[]->s.th.length<=12/\∀x∈s.th,rQ d x:=λe=>(by rw[e];simp);have p:s.el=[]->s.el.length<=12/\∀x∈s.el,rQ d x:=λe=>(by rw[e];simp);have m:1<=s.kind->s.kind<=255->s.jy.length<=3->(∀e∈s.jy,Cw De e)->(s.th.length<=12/\∀x∈s.th,rQ d x)->(s.el.length<=12/\∀x∈s.el,rQ d x)->rQ (d+1) s:=λa b c e t f=>⟨a,b,c,t.1,f.1,e,t.2,f.2⟩
  rcases h with⟨k,_,g,he,e,hx,h⟩|⟨k,_,_,_,g,he,a,b,hx,i,u⟩|⟨k,_,_,_,g,he,a,hx,i⟩|⟨k,_,_,⟨a,hx,i⟩,g,he⟩|⟨k,_,_,he,⟨a,hx,i⟩,g⟩|⟨k,g,he,⟨t,l,q,a,v,w,_,_,y⟩,hx⟩|⟨k,_,g,he,⟨l,q,a,v,w,_,y⟩,hx⟩|⟨k,_,_,g,⟨a,b,hx,i,u⟩,he⟩|⟨k,_,g,_,⟨a,hx,i⟩,he⟩|⟨k,_,_,g,he,hx⟩
  exact m LC LC (by rw[hx];simp) (λj hy=>by rw[hx]at hy;simp at hy;subst hy;rcases h with⟨_,_,_,h⟩|⟨_,h⟩;exact h.ops;exact h.ops) (n g) (p he);exact m LC LC (by rw[hx];simp) (λj hy=>by rw[hx]at hy;simp at hy;rcases hy with rfl|rfl;exact i.ops;exact u.ops) (n g) (p he);exact m LC LC (by rw[hx];simp) (λj hy=>by rw[hx]at hy;simp at hy;subst hy;exact i.ops) (n g) (p he);exact m LC LC (by rw[hx];simp) (λj hy=>by rw[hx]at hy;simp at hy;subst hy;exact i.ops) (z g) (r he);exact m LC LC (by rw[hx];simp) (λj hy=>by rw[hx]at hy;simp at hy;subst hy;exact i.ops) (z g) (p he);exact m LC LC (by rw[y];have:=h2 l (List.mem_of_getElem? v) a (List.mem_of_getElem? w);omega) (λj hy=>(hx j hy).ops) (n g) (p he);exact m LC LC (by rw[y];have:=h2 l (List.mem_of_getElem? v) a (List.mem_of_getElem? w);omega) (λj hy=>(hx j hy).ops) (n g) (p he);exact m LC LC (by rw[hx];simp) (λj hy=>by rw[hx]at hy;simp at hy;rcases hy with rfl|rfl;exact i.ops;exact u.ops) (n g) (r he);exact m LC LC (by rw[hx];simp) (λj hy=>by rw[hx]at hy;simp at hy;subst hy;exact i.ops) (n g) (r he);exact m LC LC (by rw[hx];simp) (λj hy=>by rw[hx]at hy;simp at hy) (n g) (p he)
structure Jd(h:Hd):Prop where
 params:h.params.length<=2
 body:h.body.length<=12
 ops:∀s∈h.body,rQ Ds s
end jJ
namespace Go.Proofs.YtidmdcckbdmblaaGreatDoor
open Go.RowKit jJ Go.Proofs.Tryz
structure Jc(S:Nat->Prop)(B z:Nat)(w0 wx:World)(n:Nat)(parts:List Pt)(Af:Option Addr)(nf cf:Nat)(Ak:Option Addr)(nk ck:Nat)(tM:List Fg)(G3:List Lk)(pP:List (List Nat))(A4:Option Addr)(c4:Nat)(Jp:Option Addr)(c10 b8 o8:Nat):Prop where
 hz:wx.heap[z]?=some (.cells #[Em,Nl,Nl,Nl] 36 (0,0))
 hF:wx.heap[B]?=some (.cells #[tx F0,.slice Af nf cf,.slice Ak nk ck,Nl] 36 (0,0))
 zB:w0<=z/\z<B
 JB:Below w0 w0 wx
 Jq:jc G2 S wx (.slice A4 n c4) parts
 hS:∀b,S b->b<B/\b≠z
 n1:1<=n
 n3:n<=3
 JC:jc kY (H6 B wx) wx (.slice Af nf cf) tM
 JD:qc nf tM
 f2:nf<=2
 JE:jc nr (H6 B wx) wx (.slice Ak nk ck) G3
 JF:lQ n (n*n) G3
 Jr:jc Fp (H6 B wx) wx (.slice Jp n c10) pP
 JG:pP=parts.map λp=>Jb p 3
 h8:∀j,j<3->wx.cell? ⟨b8,o8+j,none⟩=some (tx (kW j))
 b8:B<b8/\b8<wx
theorem Jc.len{d}{B z:Nat}{w0 a}{n:Nat}{b e}{f g:Nat}{i}{nk j:Nat}{k l c m}{c4:Nat}{p}{q r s:Nat}(h:Jc d B z w0 a n b e f g i nk j k l c m c4 p q r s):b.length=n/\c.length=n/\B<a:=
 ⟨h.Jq.len.1,h.Jr.len.1,(JJ.1 h.hF).1⟩
theorem ja{lo:Nat}{w w'}(h:Below lo w w'){z i:Nat}{u}(hz:lo<=z):Below lo w (w'.setCell ⟨z,i,none⟩ u):=
 ⟨h.os,h.tape,h.output,by rw[JQ];exact h.size,λb a=>(J8 _ _ _ _ (by show b≠z;omega)).T (h.B b a)⟩
structure kn(w3:World)(cb:Nat)(f0 f1 f2 f3 hd own vars kg jl params:Value)(V:Value)(code:List In)(w:World):Prop where
 g:w3.grownBy w (some cb)
 c:w.heap[cb]?=some (.cells #[f0,f1,f2,f3,hd,own,vars,kg,jl,params,V] 240 (0,0))
 own:jx tN 429 4 (λ_=>False) w w3 V code
 lt:cb<w3
theorem kQ.T{cb:Nat}{V V' a w w' c}(h:kQ cb V w V' w')(k:kQ cb V' w' a c):kQ cb V w a c:=
 ⟨J9 h.size k.size,λb d hc e=>by obtain⟨f,g⟩:=h.k b d hc e;obtain⟨i,j⟩:=k.k b (JI d h.size) hc g;exact⟨i.T f,j⟩⟩
theorem kQ.iU{cb:Nat}{V w w'}(h:Below w.heap.size w w'):kQ cb V w V w':=⟨h.size,λb a _ c=>⟨h.B b a,c⟩⟩
theorem kn.iU{b}{cb:Nat}{c d e f hd own g i j params V}{k:List In}{w w'}(h:kn b cb c d e f hd own g i j params V k w)(a:Below w w w'):kn b cb c d e f hd own g i j params V k w':=
 ⟨jd h.g (jv (jo a) _),(a.B cb (JJ.1 h.c).1).T h.c,h.own.iU tN.ok a,h.lt⟩
structure KG(w3:World)(o:Nat)(C:Array Value)(TO:TypeId)(x:World):Prop where
 g:w3.grownBy x (some o)
 c:x.heap[o]?=some (.cells C TO (0,0))
 lt:o<w3
def kv(g:FuncId):Prop:=∀(a:Array Value) (w:World),Sem.run prog (callFunc g a) w=.ok (.enter g a) w
theorem xy:kv 279:=λ_ _=>LF
end Go.Proofs.YtidmdcckbdmblaaGreatDoor
namespace jJ
structure Js(c:Co):Prop where
 vars:c.vars.length<=5
 ty:∀v∈c.vars,0<=v.ty/\v.ty<=3
 jG:c.jG.length<=2
 hs:∀l∈c.jG,l.length<=3/\∀h∈l,Jd h
structure Jt(f:Fl):Prop where
 jl:f.jl.length<=2
 kj:f.kj.length<=9
 jh:f.jh.length<=3
 co:∀c∈f.jh,Js c
theorem A9(i t:Nat):∀v∈lB i t,1<=v.ty/\v.ty<=3:=by intro v a;simp only[lB,List.mem_append,List.mem_map,List.mem_singleton]at a;rcases a with(⟨k,_,rfl⟩|rfl)|⟨k,_,rfl⟩<;>simp
theorem C6{n:Nat}(hn:n<=3){a}(h:lQ n (n*n) a):a.length<=9:=by
 have b:(a.map λx=>(x.a,x.b)).length<=((List.range (n*n)).map λk=>(kW (k/n),kW (k % n))).length:=by refine List.Nodup.length_le_of_subset h.2 ?_;intro p hp;rw[List.mem_map]at hp;obtain⟨x,hx,rfl⟩:=hp;obtain⟨k,c,_,d,e,_⟩:=h.1 x hx;rw[List.mem_map];exact⟨k,List.mem_range.2 c,by rw[d,e]⟩
 simp at b;have:n*n<=3*3:=Nat.mul_le_mul hn hn;omega
theorem Ek.b{sc}(e:sc.pP.length<=3)(f:∀l∈sc.pP,∀a∈l,a<=2){b}(g:∀a∈b,a<=2){k:Nat}{h}(i:Ek sc b k h):Jd h:=by obtain⟨a,j,_,hp,c,hc⟩:=i;have m:=g a (List.mem_of_getElem? j);refine⟨by rw[hp,oY];exact m,sg hc c,λs hs=>?_⟩;refine(c s hs).ops ?_ e f;exact(nK (d:=3) hc).2 s hs
theorem AY.b{f}(h:AY f):Jt f:=by obtain⟨z,A,_,j,m,B,b,d,n,C,p⟩:=h.ex;refine⟨by rw[m.1];exact j,C6 b n,LC,λc hc=>?_⟩;obtain⟨i,hi⟩:=List.getElem?_of_mem hc;obtain⟨ints,D,q,E,F,G,_,e,I,r,s,t,_⟩:=(p i c hi).ex;have u:=d q (List.mem_of_getElem? s);refine⟨by rw[e,oa];omega,λv g=>?_,r,λl a=>?_⟩;rw[e]at g;have:=A9 _ _ v g;omega;obtain⟨J,K,w⟩:=t l a;refine⟨LC,λh x=>?_⟩;obtain⟨k,y⟩:=List.getElem?_of_mem x;exact(w k h y).b b (λl a=>(d l a).2.2) u.2.2
end jJ
namespace Go.Proofs.YtidmdcckbdmblaaGreatDoor
open Go.RowKit jJ Go.Proofs.Tryz
theorem KG.s{a}{o:Nat}{C b x}(h:KG a o C b x):a.heap.size<=x:=h.g.size
theorem KG.lx{a}{o:Nat}{C b x}(h:KG a o C b x):o<x:=(JJ.1 h.c).1
theorem KG.grow{c}{o:Nat}{C d x f row}(h:KG c o C d x)(a:x.grownBy f row)(hr:∀z,row=some z->c<=z):KG c o C d f:=
 ⟨⟨a.os.T h.g.os,a.tape.T h.g.tape,a.output.T h.g.output,J9 h.g.size a.size,λb g i=>(a.B b (JI g h.g.size) (λe=>LA (hr b e.symm))).T (h.g.B b g i)⟩,(a.B o h.lx (λe=>LB (hr o e.symm) h.lt)).T h.c,h.lt⟩
theorem KG.alloc{a}{o:Nat}{C b x}(h:KG a o C b x)(c):KG a o C b (x.alloc c):=h.grow (Kd _ _ none) (λz e=>by cases e)
def At(w:World)(b o:Nat)(r:List Value):Prop:=∀(a:Nat) (u:Value),r[a]?=some u->w.cell? ⟨b,o+a,none⟩=some u
def G8(xs:List (List UInt8))(s:List UInt8)(r:Int):Prop:=(r= -1/\s∉xs)\/∃i:Nat,r=(i:Int)/\xs[i]?=some s/\∀a,a<i->xs[a]? ≠some s
theorem G8.neg{xs s}{r:Int}(h:G8 xs s r)(hs:s∉xs):r= -1:=by
 rcases h with h|⟨i,_,h,_⟩
 exact h.1;exact absurd (JM h) hs
theorem G8.pos{xs s}{r:Int}(h:G8 xs s r)(hs:s∈xs):∃i:Nat,r=(i:Int)/\i<xs.length/\xs[i]?=some s:=by
 rcases h with h|⟨i,b,a,_⟩
 exact absurd hs h.2;exact⟨i,b,(J6.1 a).1,a⟩
def ll(b:Nat->Prop)(w:World)(v:Value):Prop:=∃(a:Option Addr) (n c:Nat) (xs:List (List UInt8)),v=.slice a n c/\jc jk b w (.slice a n c) xs/\n<=1000
def ot(a:List In)(n:Nat)(b:List In):Prop:=∃l,b=a++l/\l.length<=n/\∀x∈l,ko x
theorem ot.T{a b c:List In}{n m q:Nat}(h:ot a n b)(e:ot b m c)(i:n+m<=q):ot a q c:=by obtain⟨l,rfl,j,hp⟩:=h;obtain⟨f,rfl,k,g⟩:=e;refine⟨l++f,by rw[Kh],LJ,λd hy=>?_⟩;rcases List.mem_append.1 hy with hy|hy;exact hp d hy;exact g d hy
theorem qL{a:Type}{xs:List a}{p:a->Bool}{k:Nat}(b:(xs.take k).find? p=none){x:a}(hx:xs[k]?=some x):(p x=true->xs.find? p=some x)/\(p x=false->(xs.take (k+1)).find? p=none):=by
 have c:xs.take (k+1)=xs.take k++[x]:=by rw[KL,hx];rfl
 refine⟨λh=>?_,λh=>?_⟩;have d:xs=xs.take (k+1)++xs.drop (k+1):=(K6 _ _).symm;rw[d,c,Kh,List.find?_append,b];simp[h];rw[c,List.find?_append,b];simp[h]
end Go.Proofs.YtidmdcckbdmblaaGreatDoor
namespace jg
def jS(n:Int):Bool:=(decide (97<=n)&&decide (n<=122))||(decide (65<=n)&&decide (n<=90))
def kt(n:Int):Bool:=decide (48<=n)&&decide (n<=57)
def jU(n:Int):Bool:=jS n||kt n||(n==95)
def pre(p:Int->Bool)(l:List UInt8):Nat:=(l.takeWhile λc=>p c.toNat).length
def words:List (List UInt8):=[[97,102,116,101,114],[97,108,119,97,121,115],[97,110,100],[97,114,114,105,118,101,115],[98,111,111,108],[99,111,109,112,111,110,101,110,116],[99,111,117,110,116],[100,101,108,101,116,101],[100,111],[101,108,115,101],[101,120,105,115,116,115],[102,97,108,115,101],[102,101,116,99,104],[102,108,97,103],[102,108,101,101,116],[102,111,114,97,108,108],[104,97,115],[105,102],[105,109,112,108,105,101,115],[105,110],[105,110,116],[108,97,116,101,110,99,121],[108,105,110,107],[110,111,116],[110,111,119],[111,110],[111,110,99,101],[111,114],[112,114,101,118,105,111,117,115],[115,101,110,100],[115,105,110,99,101],[115,105,122,101],[115,116,111,112],[115,116,111,114,101],[116,97,98,108,101],[116,114,117,101],[118,97,114],[118,101,114,115,105,111,110],[119,104,105,108,101]]
def px(l:List UInt8):Bool:=words.contains l
end jg
namespace Go.Proofs.YtidmdcckbdmblaaGreatDoor
open Go.RowKit jJ Go.Proofs.Tryz
def lS:Array Value:=(jg.words.map tx).toArray
def pE(w:World):Prop:=∃t a,w.heap[9]?=some (.cells lS t a)
def lf(l:List UInt8):Bool:=decide (0<l.length)&&decide (l.length<=12)&&jg.jS (l.headD 0).toNat&&(jg.pre jg.jU l==l.length)&& !jg.px l
structure jV(w:World):Prop where
 names:pE w
 shapes:∃t fr,w.heap[14]?=some (.cells rI t fr)
 forms:∃t fr,w.heap[10]?=some (.cells vv t fr)
theorem pE.iU{w w'}{B:Nat}(h:pE w)(a:Below B w w')(b:9<B):pE w':=by obtain⟨t,c,h⟩:=h;exact⟨t,c,(a.B _ b).T h⟩
theorem pE.lt{w}(h:pE w):9<w.heap.size:=by obtain⟨t,a,h⟩:=h;exact(JJ.1 h).1
theorem jV.lt{w}(h:jV w):14<w.heap.size/\10<w.heap.size:=by obtain⟨_,⟨_,_,a⟩,⟨_,_,b⟩⟩:=h;exact⟨(JJ.1 a).1,(JJ.1 b).1⟩
theorem jV.iV{w w'}(h:jV w)(a:∀b,b<w.heap.size->(b=9\/b=14\/b=10)->w'.heap[b]?=w.heap[b]?):jV w':=by have c:=h.lt;have hn:=h.names.lt;obtain⟨⟨t,d,e⟩,⟨f,g,i⟩,⟨j,k,l⟩⟩:=h;exact⟨⟨t,d,(a _ hn (.inl rfl)).T e⟩,⟨f,g,(a _ c.1 (.inr (.inl rfl))).T i⟩,⟨j,k,(a _ c.2 (.inr (.inr rfl))).T l⟩⟩
theorem jV.iU{w w'}{B:Nat}(h:jV w)(c:Below B w w')(a:9<B/\14<B/\10<B):jV w':=
 h.iV λb _ h=>c.B b (by rcases h with rfl|rfl|rfl;exact a.1;exact a.2.1;exact a.2.2)
def kB:Nat->Ex->Prop
 |0,_=>False
 |d+1,e=>(∃x,1<=e.op/\shapes[e.op.toNat]?=some x/\e.args.length=x.1/\(x.2.1=true->lf e.name=true)/\(x.2.1=false->e.name=[])/\(e.op=1->0<=e.n)/\(e.op≠1->e.n=0))/\∀a∈e.args,kB d a
theorem At.iU{w w'}{B b o:Nat}{r}(h:At w b o r)(c:Below B w w')(d:b<B):At w' b o r:=λa u hu=>(Cb b (o+a) (c.B b d)).T (h a u hu)
def lK:Nat->St->Prop
 |0,_=>False
 |d+1,s=>(∃x,1<=s.kind/\forms[s.kind.toNat]?=some x/\(x.1=true->lf s.name=true)/\(x.1=false->s.name=[])/\(x.2.1=true->lf s.hd=true)/\(x.2.1=false->s.hd=[])/\x.2.2.1<=s.jy.length/\s.jy.length<=x.2.2.2.1/\(x.2.2.2.2.1=false->s.th=[])/\(x.2.2.2.2.2=false->s.el=[]))/\
  (∀e∈s.jy,kB De e)/\(s.th.length<=12/\s.el.length<=12)/\(∀x∈s.th,lK d x)/\∀x∈s.el,lK d x
structure qZ(h:Hd):Prop where
 name:lf h.name=true
 Cx:h.params.length<=2
 params:∀p∈h.params,lf p=true
 yo:h.body.length<=12
 body:∀s∈h.body,lK Ds s
 cnt:jw Ds h.body<=12
structure Fw(v:Va):Prop where
 name:lf v.name=true
 form:(v.ty=1/\v.init≠ -9223372036854775808)\/(v.ty=2/\(v.init=0\/v.init=1))\/(v.ty=3/\v.init=0)
structure wF(c:Co):Prop where
 name:lf c.name=true
 yq:c.vars.length<=5
 vars:∀v∈c.vars,Fw v
 v1:1<=c.jG.length
 v2:c.jG.length<=2
 jG:∀l∈c.jG,l.length<=3/\∀h∈l,qZ h
structure kr(f:Fl):Prop where
 name:lf f.name=true
 yr:f.jl.length<=2
 jl:∀x∈f.jl,lf x.name=true
 AZ:f.kj.length<=9
 kj:∀x∈f.kj,lf x.a=true/\lf x.b=true/\1<=x.tL/\x.tL<=50
 c1:1<=f.jh.length
 c3:f.jh.length<=3
 jh:∀c∈f.jh,wF c
structure nE(S:Nat->Prop)(w:World)(A1:Option Addr)(m1 c1:Nat)(A2:Option Addr)(m2 c2:Nat)(A3:Option Addr)(m3 c3:Nat)(f:Fl):Prop where
 jl:jc kY S w (.slice A1 m1 c1) f.jl
 kj:jc nr S w (.slice A2 m2 c2) f.kj
 jh:jc (kL .u8) S w (.slice A3 m3 c3) f.jh
 jY:∀q,S q->q<w
theorem nE.iU{c w w' d}{e c1:Nat}{g}{i c2:Nat}{j}{k c3:Nat}{f}(h:nE c w d e c1 g i c2 j k c3 f)(b:Below w w w'):nE c w' d e c1 g i c2 j k c3 f:=
 ⟨h.jl.iV kY.ok λq a=>b.B q (h.jY q a),h.kj.iV nr.ok λq a=>b.B q (h.jY q a),h.jh.iV (kL.ok _) λq a=>b.B q (h.jY q a),λq a=>JI (h.jY q a) b.size⟩
structure vp(S:Nat->Prop)(w3:World)(cb:Nat)(vars kg jl params:Value):Prop where
 vars:ll S w3 vars
 kg:ll S w3 kg
 jl:ll S w3 jl
 params:ll S w3 params
 jY:∀q,S q->q<w3/\q≠cb
def lN(a:List Fg)(name:List UInt8):Bool:=a.any λx=>x.name==name
theorem pj{a name}:lN a name=true↔∃x∈a,x.name=name:=by simp[lN]
theorem Br(n:List UInt8)(name)(i:Bool)(a:Nat)(w)(hn:w.cell? ⟨a,0,none⟩=some (tx name))(b:a<w.heap.size):
  Calls prog 279 #[.agg #[tx n,.bool i],.pointer (some ⟨a,0,none⟩)] w (jf (.bool (n==name)) w):=by
 have c:=kP n;have d:=kP name
 go_enter func279,ntmps279
 go_wp2;go_ret;exact⟨rfl,Ba _ _⟩
def mM:Option Va->Value
 |some x=>.tuple #[.agg #[tx x.name,.int .u8 x.ty,x.init],.bool true]
 |none=>.tuple #[.agg #[Em,.int .u8 0,.int .i64 0],.bool false]
def ry(a:Nat->Prop)(w:World)(c:Co)(v:Value):Prop:=∃(b:Option Addr) (d cv:Nat) (e:Option Addr) (f g:Nat),v=.agg #[tx c.name,.slice b d cv,.slice e f g]/\jc (nU .u8) a w (.slice b d cv) c.vars/\jc (ly .u8) a w (.slice e f g) c.jG
def vw(sc:Sc)(name:List UInt8)(t:Int):Prop:=(t=1/\((∃k,k<sc.ints/\name=nm 120 k)\/∃k,k<sc.params/\name=nm 112 k))\/(t=2/\1<=sc.ints/\(name=nm 98 0\/∃k,k<sc.jl/\name=nm 102 k))
structure El(sc:Sc)(tM:List Fg)(Cn:List Va)(AR:List (List UInt8)):Prop where
 lens:tM.length<=1000/\Cn.length<=1000/\AR.length<=90
 name:∀name t,vw sc name t->(name∈AR->t=1)/\(name∉AR->(∃x,(Cn.find? λx=>x.name==name)=some x/\x.ty=t/\t≠3)\/((Cn.find? λx=>x.name==name)=none/\lN tM name=true/\t=2))
 table:sc.kg=1->nm 116 0∉AR/\(Cn.find? λx=>x.name==nm 116 0)=some ⟨nm 116 0,3,0⟩
 int:∀k,k<sc.ints->nm 120 k∉AR/\(Cn.find? λx=>x.name==nm 120 k)=some ⟨nm 120 k,1,k⟩
 Jg:1<=sc.ints->nm 98 0∉AR/\(Cn.find? λx=>x.name==nm 98 0)=some ⟨nm 98 0,2,0⟩
 Ip:∀k p,AR[k]?=some p->p∉AR.take k/\(Cn.find? λx=>x.name==p)=none/\lN tM p=false/\p.length<=12
structure oC(S:Nat->Prop)(w:World)(tM:List Fg)(Cn:List Va)(AR:List (List UInt8))(sc:Sc)(AF:Option Addr)(nf cf:Nat)(AV:Option Addr)(nv cv:Nat)(AP:Option Addr)(np cp:Nat):Prop where
 jl:jc kY S w (.slice AF nf cf) tM
 vars:jc (nU .u8) S w (.slice AV nv cv) Cn
 params:jc jk S w (.slice AP np cp) AR
 Ef:El sc tM Cn AR
 jY:∀q,S q->q<w
end Go.Proofs.YtidmdcckbdmblaaGreatDoor
namespace Go.Proofs.YtidmdcckbdmblaaGreatDoor
open Go.RowKit jJ Go.Maps Go.Proofs.Tryz
def RM:Value->Option (DataW Unit×List MemPlace):=λ_=>some (.lit (.bool true),[])
def wo(w:World)(b n:Nat):Prop:=∃a:DataW Unit,w.ownsMap prog 9 RM b n a
theorem wo.len{w}{b n:Nat}(h:wo w b n):∃m:Nat,m<=n/\(Builtin.len_ #[364] 3 #[.map (some b)]).run prog w=.ok (.int .i64 (m:Int)) w:=by obtain⟨a,h⟩:=h;exact⟨_,h.size_le,h.len underlying364 _⟩
end Go.Proofs.YtidmdcckbdmblaaGreatDoor
namespace Go.Proofs.YtidmdcckbdmblaaGreatDoor
open Go.RowKit jJ Go.Proofs.Tryz
theorem qK(g w j)(n c:Nat)(xs)(s:List UInt8)(l:jc jk g w (.slice j n c) xs)(z:n<=1000)(hS:∀q,g q->q<w):
  Calls prog 134 #[.slice j n c,tx s] w λe w'=>∃r:Int,e=.returned (.int .i64 r)/\G8 xs s r/\w=w':=by
 have m:=l.len;have hc:=m.2;have p:=m.1;have t:=l;have A:=hS;have B:=kP s
 go_enter func134,ntmps134
 go_wp2
 go_loop [8] (λi=>∃k:Nat,k<=n/\i=k/\∀a,a<k->xs[a]? ≠some s) (λi=>n-(intOf i).toNat)
 case atStart=>exact⟨0,JV _,rfl,λa b=>LC⟩
 case round=>
  obtain⟨k,C,rfl,d⟩:=hrel;by_cases D:k<n
  .obtain⟨x,f⟩:∃x,xs[k]?=some x:=Gx (LA p);obtain⟨E,F,r,rfl,G,hr,u⟩:=t.jr jk.ok k x f;have v:r=[tx x]:=hr;subst v;have y:=u 0 _ rfl;rw[JT,Kk]at y;have I:=kP x;cases hq:(s==x)
   .go_wp2
    go_round
    case rel=>refine⟨k+1,LC,LI,λa b=>?_⟩;by_cases e:a=k;rw[e,f];intro h;injection h with h;rw[h]at hq;simp at hq;exact d a LC
    case measure=>simp[intOf];omega
   go_wp2;go_ret;exact⟨_,rfl,.inr ⟨k,rfl,by rw[f];rw[K0]at hq;rw[hq],d⟩,rfl⟩
  obtain rfl:n=k:=LC;go_wp2;go_ret;refine⟨_,rfl,.inl ⟨rfl,λhm=>?_⟩,rfl⟩;obtain⟨a,b⟩:=List.getElem?_of_mem hm;exact d a (LB ((J6.1 b).1) p) b
theorem mD(a w b)(n c:Nat)(xs)(s:List UInt8)(d:jc jk a w (.slice b n c) xs)(f:n<=1000)(hS:∀q,a q->q<w):
  Calls prog 170 #[.slice b n c,tx s] w λe w'=>e=.returned (.bool (decide (s∈xs)))/\w=w':=by
 have g:=(qK a w b n c xs s d f hS)
 go_enter func170,ntmps170
 go_wp2_with fail;refine g.M ?_;rintro e j ⟨r,rfl,hr,rfl⟩;by_cases hm:s∈xs
 .obtain⟨i,rfl,_,_⟩:=hr.pos hm;have k:decide ((0:Int)<=(i:Int))=true:=(by rw[decide_eq_true_iff];omega);go_wp2_with fail;go_ret;exact⟨by simp[hm],rfl⟩
 .obtain rfl:=hr.neg hm;go_wp2_with fail;go_ret;exact⟨by simp[hm],rfl⟩
end Go.Proofs.YtidmdcckbdmblaaGreatDoor
namespace jJ
theorem Bp{k:Nat}{x}(h:shapes[k]?=some x):k<24/\x.1<=2:=by
 have a:=(List.getElem?_eq_some_iff.1 h).1;have b:∀x∈shapes,x.1<=2:=LD
 exact⟨a,b x (List.mem_of_getElem? h)⟩
end jJ
namespace Go.Proofs.YtidmdcckbdmblaaGreatDoor
open Go.RowKit jJ Go.Proofs.Tryz
theorem kB.op{d:Nat}{e}(h:kB d e):(1<=e.op/\e.op<=23)/\e.args.length<=2/\∃d',d=d'+1/\∀a∈e.args,kB d' a:=by
 cases d with
 |zero=>exact h.elim
 |succ d=>obtain⟨⟨x,b,hx,f,_⟩,c⟩:=h;obtain⟨g,i⟩:=Bp hx;exact⟨⟨b,LC⟩,LC,d,rfl,c⟩
end Go.Proofs.YtidmdcckbdmblaaGreatDoor
namespace jJ
def mz(n:Nat)(x:In):Prop:=1<=x.op/\x.op<=34/\(x.op=27\/x.op=28->0<=x.a/\x.a<=n)/\(x.op=32\/x.op=33->0<=x.b/\x.b<=n)
theorem ko.ok{x:In}(h:ko x)(n:Nat):mz n x:=⟨h.1,h.2.1,λa=>LA h.2.2,λa=>LA h.2.2⟩
theorem mz.M{x:In}{n m:Nat}(h:mz n x)(hm:n<=m):mz m x:=⟨h.1,h.2.1,λk=>LA (h.2.2.1 k),λk=>LA (h.2.2.2 k)⟩
def kE(a:List In)(n:Nat)(b:List In):Prop:=∃l,b=a++l/\l.length<=n/\∀x∈l,mz (a.length+l.length) x
theorem kE.refl(a:List In):kE a 0 a:=⟨[],LG,LG,LG⟩
theorem kE.T{a b c:List In}{n m q:Nat}(h:kE a n b)(e:kE b m c)(i:n+m<=q):kE a q c:=by obtain⟨l,rfl,j,hp⟩:=h;obtain⟨f,rfl,k,g⟩:=e;refine⟨l++f,by rw[List.append_assoc],LJ,λd hy=>?_⟩;rcases List.mem_append.1 hy with hy|hy;exact(hp d hy).M (by simp only[List.length_append];omega);exact(g d hy).M (by simp only[List.length_append];omega)
theorem kE.len{a b:List In}{n:Nat}(h:kE a n b):a.length<=b.length/\b.length<=a.length+n:=by obtain⟨l,rfl,c,_⟩:=h;simp;omega
theorem kE.jr{a b:List In}{n i:Nat}(h:kE a n b){x:In}(hi:a[i]?=some x):b[i]?=some x:=by obtain⟨l,rfl,_⟩:=h;rw[List.getElem?_append_left (List.getElem?_eq_some_iff.1 hi).1];exact hi
end jJ
namespace Go.Proofs.YtidmdcckbdmblaaGreatDoor
open Go.RowKit jJ Go.Proofs.Tryz
theorem xz(p w s)(n c:Nat)(xs name)(d:Nat)(t:jc kY p w (.slice s n c) xs)(P:n<=1000)(hS:∀q,p q->q<w)(hn:w.cell? ⟨d,0,none⟩=some (tx name))(E:d<w):
  Calls prog 294 #[.slice s n c,.func (.func 279) #[] #[.pointer (some ⟨d,0,none⟩)]] w λe w'=>∃r:Int,e=.returned (.int .i64 r)/\(lN xs name=true->0<=r)/\(lN xs name=false->r= -1)/\Below w w w':=by
 have F:=xy;unfold kv at F;have u:=t.len;have hc:=u.2;have v:=u.1;have G:=t;have y:=hS;have I:=hn
 go_enter func294,ntmps294
 go_wp2;go_loopw [8] (λi wr=>∃k:Nat,k<=n/\i=k/\(∀a x,a<k->xs[a]?=some x->x.name≠name)/\Below w w wr) (λi _=>n-(intOf i).toNat);case atStart=>exact⟨0,JV _,rfl,λa x j=>LC,Below.refl _ _⟩
 case round=>
  obtain⟨k,Q,rfl,z,f⟩:=hrel;have A:=f.size;have J:=((Cb d 0 (f.B d E)).T I)
  by_cases R:k<n
  .obtain⟨x,l⟩:∃x,xs[k]?=some x:=Gx (LA v);obtain⟨B,S,r,rfl,K,hr,C⟩:=(G.iV kY.ok (λq b=>f.B q (y q b))).jr kY.ok k x l;have L:r=[tx x.name,.bool x.init]:=hr;subst L;have M:=C 0 _ rfl;have T:=C 1 _ rfl;rw[JT]at M;have U:B<wr:=LA (y B K);have D:=(Br x.name name x.init d wr J LC)
   cases b:(x.name==name)
   .go_wp2_with (refine D.M ?_;rw[b];rintro e N ⟨rfl,g⟩;have m:=(f.T (g.M A));clear g);go_roundw;case rel=>refine⟨k+1,LC,LI,λa O j hy=>?_,m⟩;by_cases e:a=k;rw[e,l]at hy;injection hy with hy;rw[<-hy];intro h;rw[h]at b;simp at b;exact z a O LC hy
    case measure=>simp[intOf];omega
   go_wp2_with (refine D.M ?_;rw[b];rintro e N ⟨rfl,g⟩;have m:=(f.T (g.M A));clear g);go_ret;refine⟨_,rfl,λ_=>LC,λh=>?_,m⟩;have:lN xs name=true:=pj.2 ⟨x,JM l,by simpa using b⟩;rw[this]at h;cases h
  obtain rfl:n=k:=LC;go_wp2;go_ret;refine⟨_,rfl,λh=>?_,λ_=>rfl,f⟩;obtain⟨x,hx,e⟩:=pj.1 h;obtain⟨a,j⟩:=List.getElem?_of_mem hx;exact absurd e (z a x (LB ((J6.1 j).1) v) j)
theorem mE(f w p)(n c:Nat)(xs)(name:List UInt8)(s:jc (nU .u8) f w (.slice p n c) xs)(U:n<=1000)(hS:∀q,f q->q<w):
  Calls prog 235 #[.slice p n c,tx name] w (jf (mM (xs.find? λx=>x.name==name)) w):=by
 have g:=s.len;have hc:=g.2;have V:=kP name;have t:Below w w (w.alloc (.cells #[Em,.int .u8 0,.int .i64 0] 179)):=Ba _ _;have u:=JK w (.cells #[Em,.int .u8 0,.int .i64 0] 179);have J:(w.alloc (.cells #[Em,.int .u8 0,.int .i64 0] 179)).heap.size=w+1:=LG
 have y:=JH g.1;have K:=(s.iV (nU.ok .u8) (λq a=>t.B q (hS q a)))
 have A:∀q,f q->q<(w.alloc (.cells #[Em,.int .u8 0,.int .i64 0] 179)).heap.size:=λq a=>LA (hS q a)
 have C:=JH u;clear hS g u
 go_enter func235,ntmps235
 go_wp2_with fail;obtain⟨z,hz⟩:=Xq w.heap.size;rw[<-hz]at C J⊢;have b:w<=z:=LC
 generalize w.alloc (.cells #[Em,.int .u8 0,.int .i64 0] 179)=B at*;have L:z<B:=LC
 clear hz;go_loopw [10] (λi wr=>∃k:Nat,k<=n/\i=k/\(xs.take k).find? (λx=>x.name==name)=none/\Below B B wr) (λi _=>n-(intOf i).toNat);case atStart=>exact⟨0,JV _,rfl,LG,Below.refl _ _⟩
 case round=>
  obtain⟨k,W,rfl,D,d⟩:=hrel;have E:=JH D;have X:=d.size;obtain⟨⟨j,l,m⟩,⟨M,N,O⟩⟩:=jz ((d.B z L).T C.o);have P:z<wr:=LC;have F:=(t.T (d.M LC))
  clear D;by_cases Y:k<n
  .obtain⟨x,hx⟩:∃x,xs[k]?=some x:=Gx (LA y.o);obtain⟨G,Z,r,rfl,Q,hr,e⟩:=(K.iV (nU.ok .u8) (λq a=>d.B q (A q a))).jr (nU.ok .u8) k x hx;have R:r=[tx x.name,.int .u8 x.ty,.int .i64 x.init]:=hr;subst R;have S:=e 0 _ rfl;have aa:=e 1 _ rfl;have ab:=e 2 _ rfl;rw[JT]at S;have ac:G<wr:=LA (A G Q);have ad:(0:Int)<=(k:Int):=LC;have ae:(k:Int)<(n:Int):=LC;have af:=kP x.name;have I:=(qL E.o hx)
   have T:=(d.alloc LC (.cells #[tx x.name,.int .u8 x.ty,x.init] 179))
   clear e hx;cases a:(x.name==name)
   .have hf:=I.2 a;clear j l m M N O;go_wp2_with fail;go_roundw;case rel=>exact⟨k+1,LC,LI,hf,T⟩
    case measure=>simp[intOf];omega
   have hf:=I.1 a;go_wp2_with fail;refine JZ (v:=.tuple #[.agg #[tx x.name,.int .u8 x.ty,x.init],.bool true]) ?_ rfl ⟨by rw[hf];rfl,(ja (ja (ja F b) b) b).alloc LV _⟩;simp[results,Tryz.results235,go_sem,j,l,m,P,World.cell?_alloc_lt]
  obtain rfl:n=k:=LC;have hf:=E.o;rw[Kj (LA y.o)]at hf;go_wp2_with fail;refine JZ (v:=.tuple #[.agg #[Em,.int .u8 0,.int .i64 0],.bool false]) ?_ rfl ⟨by rw[hf];rfl,ja (ja (ja F b) b) b⟩;simp[results,Tryz.results235,go_sem,j,l,m]
theorem ry.iV{a w w' c v}(h:ry a w c v)(b:∀q,a q->w'.heap[q]?=w.heap[q]?):ry a w' c v:=by obtain⟨d,f,cv,g,i,j,e,k,l⟩:=h;exact⟨d,f,cv,g,i,j,e,k.iV (nU.ok _) b,l.iV (ly.ok _) b⟩
theorem oC.iV{a w w' c d e sc f}{g i:Nat}{j}{k cv:Nat}{l}{m n:Nat}(h:oC a w c d e sc f g i j k cv l m n)(b:∀q,a q->w'.heap[q]?=w.heap[q]?)(hs:w.heap.size<=w'.heap.size):oC a w' c d e sc f g i j k cv l m n:=
 ⟨h.jl.iV kY.ok b,h.vars.iV (nU.ok _) b,h.params.iV jk.ok b,h.Ef,λq p=>JI (h.jY q p) hs⟩
theorem oC.iU{a w w' b c d sc e}{f g:Nat}{i}{j cv:Nat}{k}{l m:Nat}(h:oC a w b c d sc e f g i j cv k l m)(n:Below w w w'):oC a w' b c d sc e f g i j cv k l m:=h.iV (λq p=>n.B q (h.jY q p)) n.size
theorem oC.lens{d w e f g sc i}{a j:Nat}{k}{b cv:Nat}{l}{c m:Nat}(h:oC d w e f g sc i a j k b cv l c m):a<=1000/\b<=1000/\c<=1000:=by have n:=h.jl.len.1;have p:=h.vars.len.1;have q:=h.params.len.1;obtain⟨r,s,t⟩:=h.Ef.lens;omega
theorem oU(p w z q k sc g)(i j:Nat)(a)(b cv:Nat)(c)(d f:Nat)(name:List UInt8)(h:oC p w z q k sc g i j a b cv c d f):
  Calls prog 317 #[.agg #[.slice g i j,.slice a b cv,.slice c d f],tx name] w (jf (if name∈k then mM none else mM (q.find? λx=>x.name==name)) w):=by
 have G:=h.lens;have r:Below w w ((w.alloc (.cells #[.slice g i j,.slice a b cv,.slice c d f] 422)).alloc (.cells #[Em,.int .u8 0,.int .i64 0] 179)):=(Ba _ _).alloc LG _;have A:((w.alloc (.cells #[.slice g i j,.slice a b cv,.slice c d f] 422)).alloc (.cells #[Em,.int .u8 0,.int .i64 0] 179)).heap[w.heap.size]?=some (.cells #[.slice g i j,.slice a b cv,.slice c d f] 422 (0,0)):=(JY _ _ LG).T (JK _ _);have t:((w.alloc (.cells #[.slice g i j,.slice a b cv,.slice c d f] 422)).alloc (.cells #[Em,.int .u8 0,.int .i64 0] 179)).heap[w.heap.size+1]?=some (.cells #[Em,.int .u8 0,.int .i64 0] 179 (0,0)):=by have:=JK (w.alloc (.cells #[.slice g i j,.slice a b cv,.slice c d f] 422)) (.cells #[Em,.int .u8 0,.int .i64 0] 179);rwa [JN]at this
 have I:((w.alloc (.cells #[.slice g i j,.slice a b cv,.slice c d f] 422)).alloc (.cells #[Em,.int .u8 0,.int .i64 0] 179)).heap.size=w+2:=LG
 have H:=(h.iU r)
 go_enter func317,ntmps317
 go_wp2_with fail;generalize(w.alloc (.cells #[.slice g i j,.slice a b cv,.slice c d f] 422)).alloc (.cells #[Em,.int .u8 0,.int .i64 0] 179)=B at*;have u:w.heap.size+1<B:=LC
 have J:w.heap.size<B:=LC
 refine(mD p B c d f _ name H.params LC H.jY).M ?_;rintro e K ⟨rfl,rfl⟩;obtain⟨⟨L,M,N⟩,_⟩:=jz A;by_cases hm:name∈k
 .have hd:decide (name∈k)=true:=(by simp[hm]);obtain⟨⟨l,m,n⟩,⟨C,D,E⟩⟩:=jz t;rw[hd];go_wp2_with fail;refine JZ (v:=.tuple #[.agg #[Em,.int .u8 0,.int .i64 0],.bool false]) ?_ rfl ⟨by first|rfl|(rw[Kn hm];rfl),ja (ja (ja r LC) LC) LC⟩;simp[results,Tryz.results317,go_sem,l,m,n]
 .have hd:decide (name∈k)=false:=(by simp[hm]);rw[hd];go_wp2_with fail;refine(mE p B a b cv _ name H.vars LC H.jY).M ?_;rintro e F ⟨rfl,s⟩;have y:=r.T (s.M LC);obtain⟨⟨l,m,n⟩,⟨C,D,E⟩⟩:=jz ((s.B _ u).T t);have O:w.heap.size+1<F:=JI u s.size;cases FD:q.find? λx=>x.name==name with
  |none=>simp only[mM];go_wp2_with fail;refine JZ (v:=.tuple #[.agg #[Em,.int .u8 0,.int .i64 0],.bool false]) ?_ rfl ⟨by first|rfl|(rw[Ka hm,FD];rfl),ja (ja (ja y LC) LC) LC⟩;simp[results,Tryz.results317,go_sem,l,m,n]
  |some x=>simp only[mM];go_wp2_with fail;refine JZ (v:=.tuple #[.agg #[tx x.name,.int .u8 x.ty,x.init],.bool true]) ?_ rfl ⟨by first|rfl|(rw[Ka hm,FD];rfl),ja (ja (ja y LC) LC) LC⟩;simp[results,Tryz.results317,go_sem,l,m,n]
end Go.Proofs.YtidmdcckbdmblaaGreatDoor
