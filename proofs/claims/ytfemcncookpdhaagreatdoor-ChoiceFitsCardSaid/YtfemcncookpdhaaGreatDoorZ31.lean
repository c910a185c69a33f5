import Derived.Test.YtfemcncookpdhaaGreatDoorZ26
import Derived.Test.YtfemcncookpdhaaGreatDoorZ27
import Derived.Test.YtfemcncookpdhaaGreatDoorZ28
set_option maxRecDepth 1000000
set_option maxHeartbeats 32000000
set_option linter.all false
namespace Go.Proofs.YtfemcncookpdhaaGreatDoor
open Go.RowKit lX Go.Proofs.Tryz
theorem Fa(S w)(g a b l:Nat)(n t d:Int)(p:Option Addr)(m c:Nat)(F)(z G:Nat)(I)(e cv:Nat)(hs vs)(A:km pq S w (.slice F z G) hs)(B:km pq S w (.slice I e cv) vs)(L:vs.length=hs.length)(hS:∀q,S q->q<w)(U:1<=g)(V:g<=9)(W:z<=1000)(X:l<=1000)(Y:a<8)(Z:b<8):
  Calls prog 12 #[.agg #[.int .u8 (g:Int),a,b,n,t,d,.slice p m c],l,.slice F z G,.slice I e cv] w (kU (.int .i64 (nH l hs vs g a b d)) w):=by
 have J:=A.len.1;have M:=B.len.1;have aa:=A.len.2;have ab:=B.len.2;have N:=A;have O:=B;have K:=hS;have ac:(0:Int)<=(a:Int):=PJ
 have P:g=1\/g=2\/g=3\/g=4\/g=5\/g=6\/g=7\/g=8\/g=9:=PJ
 obtain rfl:e=z:=PJ
 have i:=NA J;clear hS J M L;rcases P with rfl|rfl|rfl|rfl|rfl|rfl|rfl|rfl|rfl
 .by_cases hx:a<e
  .have u:(a:Int)<(e:Int):=PJ;have j:decide ((a:Int)<(e:Int))=true:=PO;obtain⟨C,Q,rfl,D,E⟩:=Gi N hx;have R:=K C D;obtain⟨k,r⟩:=Xq (hs.getD a 0);rw[<-r]at E;have v:=NA r;clear r;by_cases hy:b<k
   .have T:(b:Int)<(k:Int):=PJ;have x:decide ((b:Int)<(k:Int))=true:=by simp;omega
    go_enter func12,ntmps12
    go_upto_region 6 with fail;go_quiet (fail);go_wp2_with fail;have s:=v.o;subst s;have f:=i.o;go_ret;refine⟨by(simp[nH,oo,f,hx,hy];try simpa[f,hx]using hy),?_⟩;first|exact lg ((Ba _ _).alloc PK _) _|exact(Ba _ _).alloc PK _
   have fn:¬(b:Int)<(k:Int):=PJ;have x:decide ((b:Int)<(k:Int))=false:=PO
   go_enter func12,ntmps12
   go_upto_region 6 with fail;go_quiet (fail);go_wp2_with fail;have s:=v.o;subst s;have f:=i.o;go_ret;refine⟨by(simp[nH,oo,f,hx,hy];try simpa[f,hx]using hy),?_⟩;first|exact lg ((Ba _ _).alloc PK _) _|exact(Ba _ _).alloc PK _
  have y:¬(a:Int)<(e:Int):=PJ;have j:decide ((a:Int)<(e:Int))=false:=PO
  go_enter func12,ntmps12
  go_upto_region 6 with fail;go_quiet (fail);go_wp2_with fail;have f:=i.o;go_ret;refine⟨by simp[nH,oo,f,hx],?_⟩;first|exact lg ((Ba _ _).alloc PK _) _|exact(Ba _ _).alloc PK _
 .by_cases hx:a<l
  .have u:(a:Int)<(l:Int):=PJ;have j:decide ((a:Int)<(l:Int))=true:=by simp;omega
   go_enter func12,ntmps12
   go_wp2_with fail;go_ret;refine⟨by simp[nH,oo,hx],?_⟩;first|exact lg ((Ba _ _).alloc PK _) _|exact(Ba _ _).alloc PK _
  have y:¬(a:Int)<(l:Int):=PJ;have j:decide ((a:Int)<(l:Int))=false:=PO
  go_enter func12,ntmps12
  go_wp2_with fail;go_ret;refine⟨by simp[nH,oo,hx],?_⟩;first|exact lg ((Ba _ _).alloc PK _) _|exact(Ba _ _).alloc PK _
 .by_cases hx:a<e
  .have u:(a:Int)<(e:Int):=PJ;have j:decide ((a:Int)<(e:Int))=true:=PO;obtain⟨C,Q,rfl,D,E⟩:=Gi O hx;have R:=K C D;obtain⟨k,r⟩:=Xq (vs.getD a 0);rw[<-r]at E;have v:=NA r;clear r;by_cases hy:d<=(k:Int)
   .have x:decide (d<=(k:Int))=true:=by simp;omega
    go_enter func12,ntmps12
    go_upto_region 10 with fail;go_quiet (fail);go_wp2_with fail;have s:=v.o;subst s;have f:=i.o;go_ret;refine⟨by(simp[nH,oo,f,hx,hy];try simpa[f,hx]using hy),?_⟩;first|exact lg ((Ba _ _).alloc PK _) _|exact(Ba _ _).alloc PK _
   have x:decide (d<=(k:Int))=false:=PO
   go_enter func12,ntmps12
   go_upto_region 10 with fail;go_quiet (fail);go_wp2_with fail;have s:=v.o;subst s;have f:=i.o;go_ret;refine⟨by(simp[nH,oo,f,hx,hy];try simpa[f,hx]using hy),?_⟩;first|exact lg ((Ba _ _).alloc PK _) _|exact(Ba _ _).alloc PK _
  have y:¬(a:Int)<(e:Int):=PJ;have j:decide ((a:Int)<(e:Int))=false:=PO
  go_enter func12,ntmps12
  go_upto_region 10 with fail;go_quiet (fail);go_wp2_with fail;have f:=i.o;go_ret;refine⟨by simp[nH,oo,f,hx],?_⟩;first|exact lg ((Ba _ _).alloc PK _) _|exact(Ba _ _).alloc PK _
 .by_cases hx:a<e
  .have u:(a:Int)<(e:Int):=PJ;have j:decide ((a:Int)<(e:Int))=true:=by simp;omega
   go_enter func12,ntmps12
   go_wp2_with fail;have f:=i.o;go_ret;refine⟨by simp[nH,oo,f,hx],?_⟩;first|exact lg ((Ba _ _).alloc PK _) _|exact(Ba _ _).alloc PK _
  have y:¬(a:Int)<(e:Int):=PJ;have j:decide ((a:Int)<(e:Int))=false:=PO
  go_enter func12,ntmps12
  go_wp2_with fail;have f:=i.o;go_ret;refine⟨by simp[nH,oo,f,hx],?_⟩;first|exact lg ((Ba _ _).alloc PK _) _|exact(Ba _ _).alloc PK _
 iterate 3
  .by_cases hx:a<e
   .have u:(a:Int)<(e:Int):=PJ;have j:decide ((a:Int)<(e:Int))=true:=PO;by_cases hy:b<e
    .have T:(b:Int)<(e:Int):=PJ;have x:decide ((b:Int)<(e:Int))=true:=by simp;omega
     go_enter func12,ntmps12
     go_wp2_with fail;have f:=i.o;go_ret;refine⟨by(simp[nH,oo,f,hx,hy];try simpa[f,hx]using hy),?_⟩;first|exact lg ((Ba _ _).alloc PK _) _|exact(Ba _ _).alloc PK _
    have fn:¬(b:Int)<(e:Int):=PJ;have x:decide ((b:Int)<(e:Int))=false:=PO
    go_enter func12,ntmps12
    go_wp2_with fail;have f:=i.o;go_ret;refine⟨by(simp[nH,oo,f,hx,hy];try simpa[f,hx]using hy),?_⟩;first|exact lg ((Ba _ _).alloc PK _) _|exact(Ba _ _).alloc PK _
   have y:¬(a:Int)<(e:Int):=PJ;have j:decide ((a:Int)<(e:Int))=false:=PO
   go_enter func12,ntmps12
   go_wp2_with fail;have f:=i.o;go_ret;refine⟨by simp[nH,oo,f,hx],?_⟩;first|exact lg ((Ba _ _).alloc PK _) _|exact(Ba _ _).alloc PK _
 iterate 2
  .by_cases hx:a<e
   .have u:(a:Int)<(e:Int):=PJ;have j:decide ((a:Int)<(e:Int))=true:=by simp;omega
    go_enter func12,ntmps12
    go_wp2_with fail;have f:=i.o;go_ret;refine⟨by simp[nH,oo,f,hx],?_⟩;first|exact lg ((Ba _ _).alloc PK _) _|exact(Ba _ _).alloc PK _
   have y:¬(a:Int)<(e:Int):=PJ;have j:decide ((a:Int)<(e:Int))=false:=PO
   go_enter func12,ntmps12
   go_wp2_with fail;have f:=i.o;go_ret;refine⟨by simp[nH,oo,f,hx],?_⟩;first|exact lg ((Ba _ _).alloc PK _) _|exact(Ba _ _).alloc PK _
end Go.Proofs.YtfemcncookpdhaaGreatDoor
namespace lX
open Go.Proofs.YtfemcncookpdhaaGreatDoor
theorem mq.FV{sc}(lK:MO sc):∀{d:Nat} {l:List St},(∀s∈l,mq sc d s)->kN d l<=12->∀s∈l,nB d s
 |0,_,h,_,s,hs=>(h s hs).elim
 |d+1,l,h0,hc,s,hs=>by
  have h:=h0 s hs;have u:=h.sub;have N:=(pU hc).2 s hs;have gt:∀x∈s.th,nB d x:=mq.FV lK u.1 PJ;have ge:∀x∈s.el,nB d x:=mq.FV lK u.2 PJ;have lt:=vZ u.1;have le:=vZ u.2;have n:∀e,lp sc De e->ml De e:=λe he=>lp.lv ⟨lK.ints,lK.params⟩ he;have v:∀e,mO sc De e->ml De e:=λe he=>mO.lv ⟨lK.ints,lK.params⟩ lK.kM he;have m:s.th.length<=12/\s.el.length<=12:=⟨PJ,PJ⟩
  have B:∀{k:Nat},k<3->mI (nm 120 k)=true:=λE=>mQ letters.1 PJ;have C:∀{k:Nat},k<3->mI (nm 104 k)=true:=λE=>mQ letters.2.2.2.2.2 PJ;have D:mI (nm 116 0)=true:=mQ letters.2.2.1 PJ;have F:mI (nm 98 0)=true:=mQ letters.2.2.2.1 PJ;have hi:=lK.ints;rcases h with⟨k,c,f,e3,e,hx,h⟩|⟨k,_,g,c,f,e3,a,b,hx,i,w⟩|⟨k,_,g,c,f,e3,a,hx,i⟩|⟨k,g,c,⟨a,hx,i⟩,_,_⟩|⟨k,g,c,e3,⟨a,hx,i⟩,_⟩|⟨k,f,e3,⟨t,q,G,a,p,r,hn,y,z⟩,hx⟩|⟨k,g,f,e3,⟨q,G,a,p,r,y,z⟩,hx⟩|⟨k,g,c,f,⟨a,b,hx,i,w⟩,_⟩|⟨k,c,f,⟨I,J,g⟩,⟨a,hx,i⟩,_⟩|⟨k,g,c,f,e3,hx⟩
  refine od (k:=1) k PJ rfl ⟨λ_=>?_,λh=>by simp at h⟩ ⟨λh=>by simp at h,λ_=>c⟩ (by rw[hx];simp) (λ_=>f) (λ_=>e3) (λj hy=>?_) m gt ge;rcases h with⟨I,J,A,_⟩|⟨A,_⟩
  rw[A];exact B PJ;rw[A];exact F;rw[hx]at hy;simp at hy;subst hy;rcases h with⟨_,_,_,h⟩|⟨_,h⟩
  exact n _ h;exact v _ h;exact od (k:=2) k PJ rfl ⟨λ_=>by rw[g];exact D,λh=>by simp at h⟩ ⟨λh=>by simp at h,λ_=>c⟩ (by rw[hx];simp) (λ_=>f) (λ_=>e3) (λj hy=>by rw[hx]at hy;simp at hy;rcases hy with rfl|rfl;exact n _ i;exact n _ w) m gt ge;exact od (k:=3) k PJ rfl ⟨λ_=>by rw[g];exact D,λh=>by simp at h⟩ ⟨λh=>by simp at h,λ_=>c⟩ (by rw[hx];simp) (λ_=>f) (λ_=>e3) (λj hy=>by rw[hx]at hy;simp at hy;subst hy;exact n _ i) m gt ge;exact od (k:=4) k PJ rfl ⟨λh=>by simp at h,λ_=>g⟩ ⟨λh=>by simp at h,λ_=>c⟩ (by rw[hx];simp) (λh=>by simp at h) (λh=>by simp at h) (λj hy=>by rw[hx]at hy;simp at hy;subst hy;exact v _ i) m gt ge;exact od (k:=5) k PJ rfl ⟨λh=>by simp at h,λ_=>g⟩ ⟨λh=>by simp at h,λ_=>c⟩ (by rw[hx];simp) (λh=>by simp at h) (λ_=>e3) (λj hy=>by rw[hx]at hy;simp at hy;subst hy;exact v _ i) m gt ge;have O:=(List.getElem?_eq_some_iff.1 p).1;have P:=lK.len;have K:=lK.hs q (List.mem_of_getElem? p);have L:=lK.nK q (List.mem_of_getElem? p) a (List.mem_of_getElem? r);have M:=(List.getElem?_eq_some_iff.1 r).1;exact od (k:=6) k PJ rfl ⟨λ_=>by rw[hn];exact qZ PJ,λh=>by simp at h⟩ ⟨λ_=>by rw[y];exact C PJ,λh=>by simp at h⟩ (by rw[z];simp;omega) (λ_=>f) (λ_=>e3) (λj hy=>n _ (hx j hy)) m gt ge;have K:=lK.hs q (List.mem_of_getElem? p);have L:=lK.nK q (List.mem_of_getElem? p) a (List.mem_of_getElem? r);have M:=(List.getElem?_eq_some_iff.1 r).1;exact od (k:=7) k PJ rfl ⟨λh=>by simp at h,λ_=>g⟩ ⟨λ_=>by rw[y];exact C PJ,λh=>by simp at h⟩ (by rw[z];simp;omega) (λ_=>f) (λ_=>e3) (λj hy=>n _ (hx j hy)) m gt ge;exact od (k:=8) k PJ rfl ⟨λh=>by simp at h,λ_=>g⟩ ⟨λh=>by simp at h,λ_=>c⟩ (by rw[hx];simp) (λ_=>f) (λh=>by simp at h) (λj hy=>by rw[hx]at hy;simp at hy;rcases hy with rfl|rfl;exact n _ i;exact n _ w) m gt ge;exact od (k:=9) k PJ rfl ⟨λ_=>by rw[g];exact B PJ,λh=>by simp at h⟩ ⟨λh=>by simp at h,λ_=>c⟩ (by rw[hx];simp) (λ_=>f) (λh=>by simp at h) (λj hy=>by rw[hx]at hy;simp at hy;subst hy;exact n _ i) m gt ge;exact od (k:=10) k PJ rfl ⟨λh=>by simp at h,λ_=>g⟩ ⟨λh=>by simp at h,λ_=>c⟩ (by rw[hx];simp) (λ_=>f) (λ_=>e3) (λj hy=>by rw[hx]at hy;simp at hy) m gt ge
theorem uD.lv{f}(h:uD f):pj f:=by
 have e:=h.b;obtain⟨w,g,y,z,r,X,A,m,B,Y,C⟩:=h.ex;refine⟨by rw[y];exact CA,e.kM,λx hx=>?_,e.lN,λx hx=>?_,PJ,e.ky,λc hc=>?_⟩;obtain⟨k,b⟩:=List.getElem?_of_mem hx;have D:=(List.getElem?_eq_some_iff.1 b).1;rw[r.2 k x b];exact mQ letters.2.2.2.2.1 (PH r.1);obtain⟨k,_,E,n,F,G,Z⟩:=B.1 x hx;have hd:k/g.length<g.length:=Nat.div_lt_of_lt_mul E;have hm:k % g.length<g.length:=Nat.mod_lt _ PJ;exact⟨by rw[n];exact qZ PJ,by rw[F];exact qZ PJ,G,PJ⟩;obtain⟨i,hi⟩:=List.getElem?_of_mem hc;have aa:=(List.getElem?_eq_some_iff.1 hi).1;obtain⟨ints,I,J,ab,K,ac,hn,L,M,N,O,P,_⟩:=(C i c hi).ex;have Q:=m J (List.mem_of_getElem? O);refine⟨by rw[hn];exact qZ PJ,(e.co c hc).vars,λv j=>?_,M,N,λl d=>?_⟩;rw[L]at j;unfold lV at j;simp only[List.mem_append,List.mem_map,List.mem_range,List.mem_singleton]at j;rcases j with(⟨k,b,rfl⟩|rfl)|⟨k,b,rfl⟩
 exact⟨mQ letters.1 PJ,.inl ⟨rfl,PK⟩⟩;exact⟨mQ letters.2.2.2.1 PJ,.inr (.inl ⟨rfl,.inl rfl⟩)⟩;exact⟨mQ letters.2.2.1 PJ,.inr (.inr ⟨rfl,rfl⟩)⟩;obtain⟨ad,ae,R⟩:=P l d;refine⟨PJ,λh s=>?_⟩;obtain⟨k,b⟩:=List.getElem?_of_mem s;have D:=(List.getElem?_eq_some_iff.1 b).1;have t:=(e.co c hc).hs l d|>.2 h s;obtain⟨a,n,S,hp,T,u⟩:=R k h b;have U:=Q.2.2 a (List.mem_of_getElem? n);have V:MO {qy w ints I g i with params:=a}:=⟨K,U,z,A,λl d=>(m l d).2.1,λl d=>(m l d).2.2⟩
 refine⟨by rw[S];exact mQ letters.2.2.2.2.2 PJ,t.params,λp q=>?_,t.body,mq.FV V T u,u⟩;rw[hp]at q;unfold oI at q;obtain⟨af,W,rfl⟩:=List.mem_map.1 q;exact mQ letters.2.1 (PH (List.mem_range.1 W))
end lX
