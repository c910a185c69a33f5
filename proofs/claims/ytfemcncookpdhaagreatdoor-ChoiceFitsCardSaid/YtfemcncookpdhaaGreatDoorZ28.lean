import Derived.Test.YtfemcncookpdhaaGreatDoorZ22
import Derived.Test.YtfemcncookpdhaaGreatDoorZ23
import Derived.Test.YtfemcncookpdhaaGreatDoorZ24
set_option maxRecDepth 1000000
set_option maxHeartbeats 32000000
set_option linter.all false
namespace Go.Proofs.YtfemcncookpdhaaGreatDoor
open Go.RowKit lX Go.Proofs.Tryz
def Kh(f:Fl)(w:World)(e:Ending)(w':World):Prop:=∃a:Nat,e=.returned (.tuple #[.pointer (some ⟨a,0,none⟩),.int .i64 0])/\uH w' a f/\Below w w w'/\w<=a
theorem ym(a i:Nat)(f w)(h:uH w a f)(hi:f.ky.length<=i)(b:i<1000):Calls prog 35 #[.pointer (some ⟨a,0,none⟩),i] w (wj 0 w):=by
 obtain⟨j,S,k,l,m,n,p,q,r,s,d3,c,c0,c1,c2,c3,c4,hf,hp,t⟩:=h;have d:=(yl w S c i (lD f) hp (by rw[xm];exact hi) b)
 go_enter func35,ntmps35
 go_wp2_with fail;refine d.M ?_;rintro e w' ⟨⟨u,v,rfl⟩,g⟩;go_wp2_with fail;go_ret;exact⟨⟨_,_,rfl⟩,g⟩
theorem yn(S w)(name:List UInt8)(Y:Option Addr)(Z c1:Nat)(P)(j c2:Nat)(f)(ag:km (mB .i64) S w (.slice P j c2) f)(hS:∀q,S q->q<w)(bj:j<=4)(ah:∀hs∈f,hs.length<=100):
  Calls prog 8 #[.agg #[tx name,.slice Y Z c1,.slice P j c2]] w (mj (kX [] f) w):=by
 obtain⟨aG,aH,hz0,aI,aJ⟩:=N4 qX;have aK:=ag;have C:=hS;have aL:=ah;have ai:=ag.len;have aM:=Ba w (.cells #[tx name,.slice Y Z c1,.slice P j c2] 48);clear hS ah
 go_enter func8,ntmps8
 go_wp2_with fail;generalize w.alloc (.cells #[tx name,.slice Y Z c1,.slice P j c2] 48)=w0 at*;go_loopw [3,14] (λv i wr=>∃k:Nat,k<=j/\i=k/\kx kA 9 1 (λ_=>False) wr w v (kX [] (f.take k))/\(kX [] (f.take k)).length<=100*k/\Below w w wr) (λ_ i _=>j-(intOf i).toNat);case atStart=>exact⟨0,NP _,rfl,kx.nil _ _ _ _ _ _,by simp[kX],aM⟩
 case round=>
  obtain⟨k,bk,rfl,d,aN,g⟩:=hrel;obtain⟨Q,R,rfl,aa,aO⟩:=d.form;have hz:=g.size;by_cases bl:k<j
  .obtain⟨x,hx⟩:∃x,f[k]?=some x:=Gx (PH ai);obtain⟨aj,bm,r,rfl,aP,hr,l⟩:=(aK.kg (mB.ok _) (λq T=>g.B q (C q T))).kI (mB.ok _) k x hx;obtain⟨v,rfl,ab⟩:=hr;obtain⟨bn,bo,rfl,aQ⟩:=ab.form;have p:=l 0 _ rfl;rw[NS,Og]at p;have aR:aj<wr:=PH (C aj aP);have aS:=aL x (NH hx);have ak:=NA (vF [] hx);obtain⟨t,ac⟩:=Xq (kX [] (f.take k));rw[<-ac]at d aN ak;obtain⟨D,ad⟩:=Xq x.length;rw[<-ad]at ab p aS aQ;have al:=NA ad;obtain⟨am,ae⟩:=Xq t.length;have U:=NA ae;have bp:(0:Int)<=(k:Int):=PJ;have bq:(k:Int)<(j:Int):=PJ;have an:=g;have aT:=d;rw[<-ac,<-ae];clear l hx ad ac ae;go_wp2_with fail;clear p;obtain⟨br,rfl⟩:=Xq wr;go_loopw [3,20] (λv i wr=>∃(c:Nat),c<=D/\i=c/\kx kA 9 1 (λ_=>False) wr w v (my t (x.take c))/\(my t (x.take c)).length<=am+c/\Below w w wr) (λ_ i _=>D-(intOf i).toNat);case atStart=>exact⟨0,NP _,rfl,by rw[U.o];exact aT,by rw[U.o];simp[my],an⟩
   case round=>
    obtain⟨c,bs,rfl,d,s,g⟩:=hrel;obtain⟨Q,R,rfl,aa,aO⟩:=d.form;have d:=d;have g:=g;have hz:=g.size;by_cases bt:c<D
    .obtain⟨u,hy⟩:∃u,x[c]?=some u:=Gx (PH al.o);obtain⟨ao,bu,r,rfl,aU,hr,l⟩:=(ab.kg (mo.ok .i64) (λq T=>(g.B q (C q T)).T (an.B q (C q T)).symm)).kI (mo.ok .i64) c u hy;obtain⟨aV,bv,rfl,aW,aX⟩:=hr;obtain⟨E,F,rfl,_⟩:=aW.form;obtain⟨G,cb,rfl,_⟩:=aX.form;have p:=l 0 _ rfl;have ap:=l 1 _ rfl;have aq:=l 2 _ rfl;rw[NS]at p;have aR:ao<wr:=PH (C ao aU);have y:=NA (vE t hy);obtain⟨b,ar⟩:=Xq (my t (x.take c));rw[<-ar]at d s y aa⊢;obtain⟨n,V⟩:=Xq b.length;have A:=NA V;have bw:n<=am+c:=PH s;have bx:n<=1000:=PI s U.o;rw[<-V]at aa⊢;obtain⟨I,au⟩:=Xq u.params.length;obtain⟨J,av⟩:=Xq u.body.length;obtain⟨a,aw⟩:=Xq u.name;rw[<-au]at ap;rw[<-av]at aq;rw[<-aw]at p y;have bz:(0:Int)<=(c:Int):=PJ;have bA:(c:Int)<(D:Int):=PJ;have ax:=Ba wr (.cells #[tx a,.slice E I F,.slice G J cb] 114);have ay:=(g.T (ax.M hz))
     have W:=(show kx kA 9 1 (λ_=>False) (wr.alloc (.cells #[tx a,.slice E I F,.slice G J cb] 114)) w (.slice Q n R) b by have h:=d.kh kA.ok ax;rw[<-V]at h;exact h)
     have az:=NA (NF wr (.cells #[tx a,.slice E I F,.slice G J cb] 114));have K:(wr.alloc (.cells #[tx a,.slice E I F,.slice G J cb] 114)).heap.size=wr+1:=PK;have aY:=NA K;clear l hy ar V au av aw K d g s;go_upto_region 8 with fail;have K:=aY.o;obtain⟨aZ,aA⟩:=Xq wr.heap.size;rw[<-aA]at az K⊢;generalize wr.alloc (.cells #[tx a,.slice E I F,.slice G J cb] 114)=B at*;have bB:aZ<B:=PJ;have ba:w.heap.size<=B:=PJ;have bC:=kf az.o 0 _ rfl;clear K aA p ap aq;have aB:=W.sl kA.ok;have bD:=NA aB.len.1;go_wp2_with fail;go_loopw [8,26] (λo i wr=>∃m:Nat,m<=n/\i=m/\o=.bool (decide (a∈b.take m))/\wr=B) (λ_ i _=>n-(intOf i).toNat);case atStart=>exact⟨0,NP _,rfl,PK,rfl⟩
     case round=>
      obtain⟨m,hm,rfl,rfl,rfl⟩:=hrel;by_cases bE:m<n
      .obtain⟨L,af⟩:∃x,b[m]?=some x:=Gx (PH A.o);obtain⟨bF,bG,r,rfl,aC,hr,l⟩:=aB.kI kA.ok m L af;have bb:r=[tx L]:=hr;subst bb;have bc:=l 0 _ rfl;rw[NS,Og]at bc;have bH:=aC.2;have bI:(0:Int)<=(m:Int):=PJ;have bJ:(m:Int)<(n:Int):=PJ;have bK:=mL L;have bL:=mL a;have M:b.take (m+1)=b.take m++[L]:=(by rw[N5,af];rfl);have aD:=NA M;clear l M af aC;by_cases X:a∈b.take m
       .have hd:decide (a∈b.take m)=true:=(by simpa using X);rw[hd];go_wp2_with fail;go_roundw;case rel=>exact⟨m+1,PJ,PQ,by rw[aD.o];simp[X],trivial⟩
        case measure=>simp[intOf];omega
       have hd:decide (a∈b.take m)=false:=(by simpa using X);rw[hd];have bd:=NA (show(L==a)=decide (a∈b.take (m+1))from by rw[aD.o];rw[Bool.eq_iff_iff];simp[X];exact eq_comm);go_wp2_with fail;go_roundw;case rel=>exact⟨m+1,PJ,PQ,by rw[<-bd.o],trivial⟩
       case measure=>simp[intOf];omega
      obtain rfl:n=m:=PJ;obtain⟨B,rfl⟩:=Xq wr;have M:b.take n=b:=NV (PH A.o);rw[M];clear M;by_cases hm:a∈b
      .have hd:decide (a∈b)=true:=(by simpa using hm);rw[hd];have N:qA b a=b:=(by unfold qA;rw[Oj hm]);have O:=NA N;clear N hd hm;go_wp2_with fail;go_roundw;case rel=>exact⟨c+1,PJ,PQ,by rw[y.o,O.o];exact W,by rw[y.o,O.o,<-A.o];omega,ay⟩
       case measure=>simp[intOf];omega
      have hd:decide (a∈b)=false:=(by simpa using hm);rw[hd];have N:qA b a=b++[a]:=(by unfold qA;rw[Od hm]);have O:=NA N;clear N hd hm;go_wp2_with (at_builtin;(refine kD rfl _ _ 49 rfl w.heap.size 9 aG _ 1 16 underlying49 aH hz0 aI aJ rfl kA.ok (λ_=>False) (.slice Q n R) b rfl (W.kh kA.ok (Ba _ _)) ⟨B,0,none⟩ [tx a] a rfl (lT B [tx a] 9) rfl ?c3 ?c4 ?c5 ?_));case c3=>rw[<-A.o];unfold maxLen;omega
      case c4=>rw[<-A.o];omega
      case c5=>simp;omega
      intro aV bM be bf _;have bg:=((ay.alloc ba (.cells #[tx a] 9)).grown bf PO (λz e=>(W.ge z e).1))
      go_wp2_with fail;go_roundw;case rel=>exact⟨c+1,PJ,PQ,by rw[y.o,O.o];exact be,by rw[y.o,O.o,N2,<-A.o];simp;omega,bg⟩
      case measure=>simp[intOf];omega
    obtain rfl:c=D:=PJ;have aE:my t (x.take c)=kX [] (f.take (k+1)):=(by rw[NV (PH al.o)];exact ak.o.symm);rw[aE]at d s⊢;clear aE;go_wp2_with fail;go_roundw;case rel=>exact⟨k+1,PJ,PQ,d,by have:=s;have:=s;have:=U.o;omega,g⟩
    case measure=>simp[intOf];omega
  obtain rfl:k=j:=PJ;go_wp2_with fail;go_ret;refine⟨_,rfl,?_,g⟩;have aF:=d;have bh:f.take k=f:=NV (PH ai);have bi:kx kA 9 1 (λ_=>False) wr w (.slice Q (kX [] (f.take k)).length R) (kX [] f):=(by rw[bh]at aF⊢;exact aF);exact bi
end Go.Proofs.YtfemcncookpdhaaGreatDoor
namespace Go.Proofs.YtfemcncookpdhaaGreatDoor.C
open Go.RowKit Go.Proofs.Tryz
theorem oL(r:Row)(w)(hn:r.n<=9223372036854775807):Calls prog 29 #[pC r] w (sA (rD r) w):=by
 have D:pC r=.agg #[.int .u8 r.ku.kind,r.ku.a,r.ku.b,r.ku.n,r.t,r.d,.slice r.p r.n r.c]:=rfl;rw[D];have j:=λW=>uv r.ku W;have E:po r.ku=.agg #[.int .u8 r.ku.kind,r.ku.a,r.ku.b,r.ku.n]:=rfl;rw[E]at j;have k:rD r=if(kj.nC r.ku&&kj.mW r.t 0 (if kj.oA r.ku.kind then 200 else 0)&&kj.mW r.d (kj.xO r.ku.kind) (kj.tk r.ku.kind)&&decide (r.n<=if r.ku.kind==1 then 4 else 0))=true then 0 else 1:=rfl
 rw[k];cases hK:kj.nC r.ku
 .have:Ag r.ku=1:=(by unfold Ag;rw[hK];rfl);rw[this]at j;clear this;have F:(if(false&&kj.mW r.t 0 (if kj.oA r.ku.kind then 200 else 0)&&kj.mW r.d (kj.xO r.ku.kind) (kj.tk r.ku.kind)&&decide (r.n<=if r.ku.kind==1 then 4 else 0))=true then(0:Int)else 1)=1:=PK;rw[F];have l:=j;generalize r.ku.kind=i at*;generalize r.ku.a=q at*;generalize r.ku.b=s at*;generalize r.ku.n=t at*
  go_enter func29,ntmps29
  go_wp2_with fail;refine(l _).M ?_;rintro e w' ⟨rfl,u⟩;go_wp2_with fail;go_ret;have:=u;simp only[NB]at this;exact⟨rfl,(Ba w _).T (this.M PJ)⟩
 have:Ag r.ku=0:=by unfold Ag;rw[hK];rfl
 rw[this]at j;have G:r.ku.kind=1\/r.ku.kind=2\/r.ku.kind=3\/r.ku.kind=4\/r.ku.kind=5\/r.ku.kind=6\/r.ku.kind=7\/r.ku.kind=8\/r.ku.kind=9:=by apply kj.kinds;unfold kj.nC at hK;cases h:kj.mW r.ku.kind 1 9;rw[h]at hK;simp at hK;rfl
 have l:=j;generalize r.ku.kind=i at*;generalize r.ku.a=q at*;generalize r.ku.b=s at*;generalize r.ku.n=t at*;generalize r.t=a at*;generalize r.d=b at*;generalize r.n=n at*;generalize r.c=c at*;generalize r.p=p at*;obtain⟨T,v⟩:∃T:Int,(if kj.oA i=true then(200:Int)else 0)=T:=⟨_,rfl⟩
 obtain⟨lo,x⟩:∃T:Int,kj.xO i=T:=⟨_,rfl⟩
 obtain⟨hi,y⟩:∃T:Int,kj.tk i=T:=⟨_,rfl⟩
 obtain⟨m,hm⟩:∃T:Nat,(if(i==1)=true then 4 else 0)=T:=⟨_,rfl⟩
 rw[v,x,y,hm];have I:∀(d:Int),(if(true&&kj.mW a 0 T&&kj.mW b lo hi&&decide (n<=m))=true then(0:Int)else 1)=d->Calls prog 29 #[.agg #[.int .u8 i,q,s,t,a,b,.slice p n c]] w (sA d w)->Calls prog 29 #[.agg #[.int .u8 i,q,s,t,a,b,.slice p n c]] w (sA (if(true&&kj.mW a 0 T&&kj.mW b lo hi&&decide (n<=m))=true then(0:Int)else 1) w):=λd f g=>by rw[f];exact g
 have z:(kj.mW a 0 T=false)\/(kj.mW a 0 T=true/\kj.mW b lo hi=false)\/(kj.mW a 0 T=true/\kj.mW b lo hi=true/\m<n)\/(kj.mW a 0 T=true/\kj.mW b lo hi=true/\n<=m):=by cases kj.mW a 0 T<;>cases kj.mW b lo hi<;>simp;omega
 obtain⟨d,k,z⟩:∃d:Int,(if(true&&kj.mW a 0 T&&kj.mW b lo hi&&decide (n<=m))=true then(0:Int)else 1)=d/\((d=1/\kj.mW a 0 T=false)\/(d=1/\kj.mW a 0 T=true/\kj.mW b lo hi=false)\/(d=1/\kj.mW a 0 T=true/\kj.mW b lo hi=true/\m<n)\/(d=0/\kj.mW a 0 T=true/\kj.mW b lo hi=true/\n<=m)):=by
  rcases z with h|⟨f,g⟩|⟨f,g,A⟩|⟨f,g,A⟩
  exact⟨1,by simp[h],.inl ⟨rfl,h⟩⟩;exact⟨1,by simp[f,g],.inr (.inl ⟨rfl,f,g⟩)⟩;exact⟨1,by simp[f,g];omega,.inr (.inr (.inl ⟨rfl,f,g,A⟩))⟩;exact⟨0,by simp[f,g];omega,.inr (.inr (.inr ⟨rfl,f,g,A⟩))⟩
 refine I d k ?_;rcases G with rfl|rfl|rfl|rfl|rfl|rfl|rfl|rfl|rfl;all_goals
  simp[kj.oA]at v;simp[kj.xO]at x;simp[kj.tk]at y;simp at hm;subst v x y hm;rcases z with⟨rfl,B⟩|⟨rfl,B,C⟩|⟨rfl,B,C,J⟩|⟨rfl,B,C,J⟩
 all_goals
  go_enter func29,ntmps29
  go_wp2_with fail;refine(l _).M ?_;rintro e L ⟨rfl,K⟩;obtain⟨u,c0,c4,c5,M⟩:=JG K;go_wp2_with (first|(go_at_call 65;refine(yQ _ _).M ?_;rintro e w' ⟨rfl,rfl⟩)|(go_at_call 66;refine(oO _ _ _ _).M ?_;rintro e w' ⟨rfl,rfl⟩));go_ret;exact⟨rfl,u⟩
theorem BL(v)(a:List lM)(c:Nat)(k:kj.Key)(w)(h:ny w w v a)(hn:a.length<=65536):
  Calls prog 103 #[.slice v a.length c,po k] w (IV (kj.rq (ll a) k) w):=by
 have r:po k=.agg #[.int .u8 k.kind,k.a,k.b,k.n]:=rfl;rw[r];have H:=h;clear r
 go_enter func103,ntmps103
 go_wp2_with fail;go_loopw [9] (λi wr=>∃m:Nat,i=m/\m<=a.length/\(∀(q:Nat) (e:kj.lJ),q<m->(ll a)[q]?=some e->kj.BQ e.ku k=false)/\wr.heap[w.heap.size]?=some (.cells #[.int .u8 k.kind,k.a,k.b,k.n] 59 (0,0))/\Below w w wr) (λi _=>a.length-(intOf i).toNat);case atStart=>exact⟨0,rfl,NP _,λq e x=>absurd x PJ,NF w _,Ba _ _⟩
 case round=>
  obtain⟨m,rfl,hm,y,g,f⟩:=hrel;have s:=NA y;have F:=NA g;obtain⟨K,L,r,M⟩:=qg g;have z:=f.size;have G:w.heap.size<wr:=(NC.1 g).1;clear y g;by_cases N:m<a.length
  .obtain⟨p,j⟩:∃p,a[m]?=some p:=Gx PJ;obtain⟨b,o,rfl,I,hc⟩:=H.kI m p j;have d:∀q u,p.1.vs[q]?=some u->wr.cell? ⟨b,o+m*7+q,none⟩=some u:=λq u hu=>(f.cell (p:=⟨b,o+m*7+q,none⟩) I).T (hc q u hu);have c0:wr.cell? ⟨b,o+m*7,none⟩=some (.int .u8 p.1.ku.kind):=d 0 _ rfl;have c1:=d 1 _ rfl;have c2:=d 2 _ rfl;have c3:=d 3 _ rfl;have c4:=d 4 _ rfl;have c5:=d 5 _ rfl;have O:=d 6 _ rfl;have A:=(H.row p (NH j)).ku;have B:(ll a)[m]?=some p.2:=(by simp[ll,j]);have C:=λW=>vG p.1.ku.kind p.1.ku.a p.1.ku.b p.1.ku.n k.kind k.a k.b k.n W;obtain⟨l,n⟩:∃l:Bool,kj.BQ p.1.ku k=l:=⟨_,rfl⟩
   have P:∀W:World,(Op.equalIn 10000 59 (.agg #[.int .u8 p.1.ku.kind,p.1.ku.a,p.1.ku.b,p.1.ku.n]) (.agg #[.int .u8 k.kind,k.a,k.b,k.n])).run prog W=.ok l W:=λW=>(by rw[<-n];exact C W);have Q:=yS;rw[A]at n;have D:=NA n;have E:=NA B;clear d hc C n B A j;cases l
   .go_wp2_with fail;go_roundw;case rel=>refine⟨m+1,PQ,PJ,λq e x hy=>?_,(Ot _ _ _ G).T F.o,f.alloc z _⟩;by_cases J:q=m;subst J;rw[E.o]at hy;cases hy;exact D.o;exact s.o q e PJ hy
    case measure=>simp[intOf];omega
   have hf:=kj.Ha (ll a) k m p.2 s.o E.o D.o;have t:=NA hf;clear hf;go_wp2_with fail;go_ret;exact⟨by rw[t.o];rfl,f.alloc z _⟩
  have hf:=kj.Da (ll a) k (λq e hy=>s.o q e (by have:=(NW.1 hy).1;simp[ll]at this;omega) hy);have t:=NA hf;clear hf;go_wp2_with fail;go_ret;exact⟨by rw[t.o];rfl,f⟩
theorem Gk:kj.lW [Fy,D8]=0:=PV
theorem Kn:kj.sT [Fy,D8]=[D8,Fy]:=by unfold kj.sT;rw[Oj Gk];rfl
end Go.Proofs.YtfemcncookpdhaaGreatDoor.C
namespace Go.Proofs.YtfemcncookpdhaaGreatDoor.C
open Go.RowKit Go.Sort Go.Proofs.Tryz
theorem mF.cut{w}{B:Nat}{r:Row}{x:kj.lJ}(h:mF w B r x)(m:Nat)(hm:m<=r.n):mF w B ⟨r.ku,r.t,r.d,r.p,m,r.c⟩ ⟨x.ku,x.t,x.d,x.args.take m⟩:=by
 refine⟨h.ku,h.t,h.d,?_,?_,h.m,?_⟩;have:=h.n;rw[N0];show m=_;omega;have:=h.c;show m<=r.c;omega;have e:pL (x.args.take m)=(pL x.args).take m:=by simp[pL,List.map_take]
 show qi w B r.p (pL (x.args.take m));rw[e];exact h.lie.take m
end Go.Proofs.YtfemcncookpdhaaGreatDoor.C
namespace kj
theorem Df{n:Nat}{a:List lJ}{c:lJ}(h:a.length≠n)(he:lW (a++[c])=0):py n a c=sT (a++[c]):=by unfold py;rw[if_neg h,if_pos he]
end kj
namespace lX
def nH(c:Nat)(hs vs:List Nat)(k a b:Nat)(d:Int):Int:=if oo c hs vs k a b d then 0 else 9
end lX
namespace lX
open Go.Proofs.YtfemcncookpdhaaGreatDoor
def rE(f:Fl):List Nat:=f.ky.map λc=>(kX [] c.kY).length
def sU(f:Fl):List Nat:=f.ky.map λc=>c.kY.length
theorem D3{f}{a:Nat}{x}(h:f.ky[a]?=some x):(rE f).getD a 0=(kX [] x.kY).length:=by simp[rE,h]
theorem D4{f}{a:Nat}{x}(h:f.ky[a]?=some x):(sU f).getD a 0=x.kY.length:=by simp[sU,h]
theorem mv(f):(rE f).length=f.ky.length:=by simp[rE]
def tH(f:Fl)(x:kj.lJ):Int:=nH f.kM.length (rE f) (sU f) x.ku.kind.toNat x.ku.a.toNat x.ku.b.toNat x.d
def xR(f:Fl)(l:List kj.lJ):Int:=if l.any (λx=>tH f x !=0)then 9 else 0
theorem AU(f)(x:kj.lJ):tH f x=0\/tH f x=9:=by unfold tH nH;split<;>simp
end lX
namespace Go.Proofs.YtfemcncookpdhaaGreatDoor
open Go.RowKit lX Go.Proofs.Tryz
theorem BN(w)(G:Nat)(f)(l a b:Nat)(n t d:Int)(p)(m c:Nat)(hF:uH w G f)(aa:pj f)(ae:C.rD ⟨⟨(l:Int),(a:Int),(b:Int),n⟩,t,d,p,m,c⟩=0)(hm:m<=9223372036854775807)(aI:1<=l)(aJ:l<=9)(aK:a<8)(af:b<8):
  Calls prog 13 #[.agg #[.int .u8 (l:Int),.int .i64 (a:Int),.int .i64 (b:Int),.int .i64 n,.int .i64 t,.int .i64 d,.slice p m c],.pointer (some ⟨G,0,none⟩)] w (kU (.int .i64 (nH f.kM.length (rE f) (sU f) l a b d)) w):=by
 have r:=Ba w (.cells #[.int .u8 (l:Int),.int .i64 (a:Int),.int .i64 (b:Int),.int .i64 n,.int .i64 t,.int .i64 d,.slice p m c] 62);have D:=NA (NF w (.cells #[.int .u8 (l:Int),.int .i64 (a:Int),.int .i64 (b:Int),.int .i64 n,.int .i64 t,.int .i64 d,.slice p m c] 62));have ao:=(hF.kh r)
 have ab:=NA aa;have aL:=hF.lt;have ap:=(λw'=>C.oL ⟨⟨(l:Int),(a:Int),(b:Int),n⟩,t,d,p,m,c⟩ w' hm)
 have T:=NA ae;have aq:l=1\/l=2\/l=3\/l=4\/l=5\/l=6\/l=7\/l=8\/l=9:=PJ
 have aM:=aa.c3;have aN:=aa.zf;clear ae
 go_enter func13,ntmps13
 go_upto_region 1 with fail;generalize w.alloc (.cells #[.int .u8 (l:Int),.int .i64 (a:Int),.int .i64 (b:Int),.int .i64 n,.int .i64 t,.int .i64 d,.slice p m c] 62)=ag at*;obtain⟨u,ac⟩:=Xq w.heap.size;rw[<-ac]at D r⊢;have v:=NA ac;have ar:u<ag:=(NC.1 D.o).1;clear ac;have J:=kf D.o 0 _ rfl;have K:=kf D.o 1 _ rfl;have L:=kf D.o 2 _ rfl;have M:=kf D.o 3 _ rfl;have N:=kf D.o 4 _ rfl;have O:=kf D.o 5 _ rfl;have P:=kf D.o 6 _ rfl;go_wp2_with fail;refine(ap ag).M ?_;rw[T.o];rintro e ah ⟨rfl,q⟩;have U:=(ao.kh (q.M (NQ _)))
 have z:=NA ((q.B u ar).T D.o);have V:=q.size;clear J K L M N O P;obtain⟨i,ai⟩:=Xq f.ky.length;have k:=NA ai;have aO:i<=3:=PJ
 obtain⟨Q,aj⟩:=Xq f.kM.length;have X:=NA aj;have aP:Q<=2:=PJ
 clear ai aj;have J:=kf z.o 0 _ rfl;have K:=kf z.o 1 _ rfl;have L:=kf z.o 2 _ rfl;have M:=kf z.o 3 _ rfl;have N:=kf z.o 4 _ rfl;have O:=kf z.o 5 _ rfl;have P:=kf z.o 6 _ rfl;have W:u<ah:=PJ
 go_wp2_with fail;refine(sg G f ah U).M ?_;rintro e Y ⟨rfl,au⟩;subst au;rw[<-k.o,<-X.o];rcases aq with rfl|rfl|rfl|rfl|rfl|rfl|rfl|rfl|rfl
 .by_cases hx:a<i
  .obtain⟨x,E⟩:∃x,f.ky[a]?=some x:=Gx (by rw[<-k.o];exact hx);have F:=NA E;clear E;have aQ:(a:Int)<(i:Int):=PJ;go_wp2_with fail;refine(yg G a f x _ U ab.o F.o).M ?_;rintro e Z ⟨⟨av,aw,rfl⟩,I⟩;have y:=NA ((I.B u W).T z.o);have ax:=I.size;clear J K L M N O P;obtain⟨R,E⟩:=Xq ((kX [] x.kY).length);rw[<-E];have ak:=NA E;have aR:R<=9223372036854775807:=(by have ay:=pY x.kY [] (λhs az=>PH (((ab.o.ky x (NH F.o)).kY hs az).1));have aS:=(ab.o.ky x (NH F.o)).v2;simp at ay;omega);clear E;have J:=kf y.o 0 _ rfl;have K:=kf y.o 1 _ rfl;have L:=kf y.o 2 _ rfl;have M:=kf y.o 3 _ rfl;have N:=kf y.o 4 _ rfl;have O:=kf y.o 5 _ rfl;have P:=kf y.o 6 _ rfl;have aA:u<Z:=PJ;have A:¬(i:Int)<=(a:Int):=PJ;have B:decide ((i:Int)<=(a:Int))=false:=PO;by_cases hy:b<R
   .have fn:¬(R:Int)<=(b:Int):=PJ;have ad:decide ((R:Int)<=(b:Int))=false:=PO;go_upto_region 15 with fail;go_quiet (fail);go_wp2_with fail;go_ret;refine⟨by(simp[nH,oo,mv,<-k.o,hx,-List.getD_eq_getElem?_getD,D3 F.o,<-ak.o,hy]),?_⟩;rw[<-v.o];exact r.T (((q.T (I.M V)).T (lg (Below.refl _ _) _)).M PJ)
   have fn:(R:Int)<=(b:Int):=PJ;have ad:decide ((R:Int)<=(b:Int))=true:=PO;go_wp2_with fail;go_ret;refine⟨by(simp[nH,oo,mv,<-k.o,hx,-List.getD_eq_getElem?_getD,D3 F.o,<-ak.o,hy]),?_⟩;rw[<-v.o];exact r.T ((q.T (I.M V)).M PJ)
  go_wp2_with fail;refine(ym G a f _ U (by rw[<-k.o];omega) PJ).M ?_;rintro e Z ⟨⟨av,aw,rfl⟩,I⟩;have y:=NA ((I.B u W).T z.o);have ax:=I.size;clear J K L M N O P;have J:=kf y.o 0 _ rfl;have K:=kf y.o 1 _ rfl;have L:=kf y.o 2 _ rfl;have M:=kf y.o 3 _ rfl;have N:=kf y.o 4 _ rfl;have O:=kf y.o 5 _ rfl;have P:=kf y.o 6 _ rfl;have aA:u<Z:=PJ;have A:(i:Int)<=(a:Int):=PJ;have B:decide ((i:Int)<=(a:Int))=true:=PO;go_wp2_with fail;go_ret;refine⟨by(simp[nH,oo,mv,<-k.o,hx]),?_⟩;rw[<-v.o];exact r.T ((q.T (I.M V)).M PJ)
 .obtain rfl:b=0:=sM T.o PJ;go_wp2_with fail;refine(E0 G f _ U).M ?_;rintro e Z ⟨rfl,aB⟩;subst aB;rw[<-X.o];by_cases hx:a<Q
  .have A:¬(Q:Int)<=(a:Int):=PJ;have B:decide ((Q:Int)<=(a:Int))=false:=PO;go_upto_region 15 with fail;go_quiet (fail);go_wp2_with fail;go_ret;refine⟨by(simp[nH,oo,mv,<-k.o,hx,<-X.o]),?_⟩;rw[<-v.o];exact r.T ((q.T (lg (Below.refl _ _) _)).M PJ)
  have A:(Q:Int)<=(a:Int):=PJ;have B:decide ((Q:Int)<=(a:Int))=true:=PO;go_wp2_with fail;go_ret;refine⟨by(simp[nH,oo,mv,<-k.o,hx,<-X.o]),?_⟩;rw[<-v.o];exact r.T (q.M PJ)
 .obtain rfl:b=0:=sM T.o PJ;by_cases hx:a<i
  .obtain⟨x,E⟩:∃x,f.ky[a]?=some x:=Gx (by rw[<-k.o];exact hx);have F:=NA E;clear E;have A:¬(i:Int)<=(a:Int):=PJ;have B:decide ((i:Int)<=(a:Int))=false:=PO;go_upto_region 15 with fail;refine Fz (λx=>Below Y Y x) (mG [(·=.pointer (some ⟨u,0,none⟩)),(·=.pointer (some ⟨u,0,none⟩)),(·=.int .u8 3),(·=.bool true),(·=.bool true),(·=.pointer (some ⟨u,5,none⟩)),(·=.int .i64 d),(·=.pointer (some ⟨G,0,none⟩)),(·=.pointer (some ⟨u,0,none⟩)),(·=.pointer (some ⟨u,1,none⟩)),(·=.int .i64 (a:Int)),(·=.int .i64 (x.kY.length:Int)),(·=.bool (decide ((x.kY.length:Int)<d))),(·=.bool (decide ((x.kY.length:Int)<d)))]) [] ((Below.refl _ _).drew) ⟨?_,?_,?_,?_,?_,?_,?_,?_,?_,?_,?_,?_,?_,?_,trivial⟩ ?_;exact .f 2;exact .v 48 0;intro S w j hf s hd hw;exact .l 49 (s 1 _ rfl rfl) (kf ((j.B u W).T z.o) 0 _ rfl) ⟨rfl,j,Ra⟩;intro S w j hf s hd hw;have aT:=Sv 50 s 2;exact .q (g:=⟨rfl,j,Ra⟩);exact .v 51 3;exact .f 2;intro S w j hf s hd hw;exact .l 53 (s 5 _ rfl rfl) (kf ((j.B u W).T z.o) 5 _ rfl) ⟨rfl,j,Ra⟩;exact .f 1;exact .f 2;exact .v 56 8;intro S w j hf s hd hw;exact .l 57 (s 9 _ rfl rfl) (kf ((j.B u W).T z.o) 1 _ rfl) ⟨rfl,j,Ra⟩;intro S w j hf s hd hw;have aU:=Sv 55 s 7;have aV:=Sv 58 s 10;replace j:=Hq j;refine .c (zP G a f x w (U.kh j.o) F.o) ?_;rintro e w' ⟨he,af⟩;subst he;exact⟨_,rfl,⟨rfl,j.o.T (af.M j.o.size),Qe⟩⟩;intro S w j hf s hd hw;have aW:=Sv 54 s 6;have aX:=Sv 59 s 11;exact .q (g:=⟨rfl,j,Ra⟩);intro S w j hf s hd hw;have aY:=Sv 52 s 4;have aZ:=Sv 60 s 12;exact .q (g:=⟨rfl,j,Ra⟩);intro aC aD aE al aF;have am:aC 13=.bool (decide ((x.kY.length:Int)<d)):=al 13 PM;have an:Below Y Y aD:=aE;clear al aF;simp only[kr,Act.put,NI,NL,NJ,NY,Nat.reduceAdd];simp only[am];clear am;by_cases hy:d<=(x.kY.length:Int)
   .have aG:¬(x.kY.length:Int)<d:=PJ;have aH:decide ((x.kY.length:Int)<d)=false:=PO;go_wp2_with fail;go_ret;refine⟨by(simp[nH,oo,mv,<-k.o,hx,D4 F.o,-List.getD_eq_getElem?_getD,hy]),?_⟩;rw[<-v.o];exact r.T ((q.T (an.M V)).M PJ)
   have aG:(x.kY.length:Int)<d:=PJ;have aH:decide ((x.kY.length:Int)<d)=true:=PO;go_wp2_with fail;go_ret;refine⟨by(simp[nH,oo,mv,<-k.o,hx,D4 F.o,-List.getD_eq_getElem?_getD,hy]),?_⟩;rw[<-v.o];exact r.T ((q.T (an.M V)).M PJ)
  have A:(i:Int)<=(a:Int):=PJ;have B:decide ((i:Int)<=(a:Int))=true:=PO;go_wp2_with fail;go_ret;refine⟨by(simp[nH,oo,mv,<-k.o,hx]),?_⟩;rw[<-v.o];exact r.T (q.M PJ)
 .obtain rfl:b=0:=sM T.o PJ;by_cases hx:a<i
  .have A:¬(i:Int)<=(a:Int):=PJ;have B:decide ((i:Int)<=(a:Int))=false:=PO;go_upto_region 15 with fail;go_quiet (fail);go_wp2_with fail;go_ret;refine⟨by(simp[nH,oo,mv,<-k.o,hx]),?_⟩;rw[<-v.o];exact r.T ((q.T (lg (Below.refl _ _) _)).M PJ)
  have A:(i:Int)<=(a:Int):=PJ;have B:decide ((i:Int)<=(a:Int))=true:=PO;go_wp2_with fail;go_ret;refine⟨by(simp[nH,oo,mv,<-k.o,hx]),?_⟩;rw[<-v.o];exact r.T (q.M PJ)
 iterate 3
  .by_cases hx:a<i
   .have A:¬(i:Int)<=(a:Int):=PJ;have B:decide ((i:Int)<=(a:Int))=false:=PO;by_cases hy:b<i
    .have fn:¬(i:Int)<=(b:Int):=PJ;have ad:decide ((i:Int)<=(b:Int))=false:=PO;go_upto_region 15 with fail;go_quiet (fail);go_wp2_with fail;go_ret;refine⟨by(simp[nH,oo,mv,<-k.o,hx,hy]),?_⟩;rw[<-v.o];exact r.T ((q.T (lg (Below.refl _ _) _)).M PJ)
    have fn:(i:Int)<=(b:Int):=PJ;have ad:decide ((i:Int)<=(b:Int))=true:=PO;go_wp2_with fail;go_ret;refine⟨by(simp[nH,oo,mv,<-k.o,hx,hy]),?_⟩;rw[<-v.o];exact r.T (q.M PJ)
   have A:(i:Int)<=(a:Int):=PJ;have B:decide ((i:Int)<=(a:Int))=true:=PO;go_wp2_with fail;go_ret;refine⟨by(simp[nH,oo,mv,<-k.o,hx]),?_⟩;rw[<-v.o];exact r.T (q.M PJ)
 iterate 2
  .obtain rfl:b=0:=sM T.o PJ;by_cases hx:a<i
   .have A:¬(i:Int)<=(a:Int):=PJ;have B:decide ((i:Int)<=(a:Int))=false:=PO;go_upto_region 15 with fail;go_quiet (fail);go_wp2_with fail;go_ret;refine⟨by(simp[nH,oo,mv,<-k.o,hx]),?_⟩;rw[<-v.o];exact r.T ((q.T (lg (Below.refl _ _) _)).M PJ)
   have A:(i:Int)<=(a:Int):=PJ;have B:decide ((i:Int)<=(a:Int))=true:=PO;go_wp2_with fail;go_ret;refine⟨by(simp[nH,oo,mv,<-k.o,hx]),?_⟩;rw[<-v.o];exact r.T (q.M PJ)
theorem uz(w)(j:Nat)(f)(B:Nat)(r:C.Row)(x:kj.lJ)(hF:uH w j f)(v:pj f)(hr:C.mF w B r x)(s:kj.si x=true):Calls prog 13 #[C.pC r,.pointer (some ⟨j,0,none⟩)] w (kU (.int .i64 (tH f x)) w):=by
 obtain⟨⟨k,l,m,n⟩,p,d,t,g,i⟩:=r;have q:(⟨k,l,m,n⟩:kj.Key)=x.ku:=hr.ku;have y:p=x.t:=hr.t;have hd:d=x.d:=hr.d;have hn:g=x.args.length:=hr.n;have hc:g<=i:=hr.c;have hm:i<=9223372036854775807:=hr.m;have u:=kj.oF (kj.pZ s).1;rw[<-q]at u;obtain⟨⟨z,A⟩,⟨D,E⟩,⟨F,G⟩,_⟩:=u;simp only at z A D E F G;obtain⟨c,rfl⟩:∃c:Nat,k=(c:Int):=⟨k.toNat,PJ⟩
 obtain⟨a,rfl⟩:∃a:Nat,l=(a:Int):=⟨l.toNat,PJ⟩
 obtain⟨b,rfl⟩:∃b:Nat,m=(b:Int):=⟨m.toNat,PJ⟩
 have he:C.rD ⟨⟨(c:Int),(a:Int),(b:Int),n⟩,p,d,t,g,i⟩=0:=by unfold C.rD;have I:kj.ud x.ku x.t x.d x.args.length=true:=s;simp only[q,y,hd,hn,I,if_true]
 have:=BN w j f c a b n p d t g i hF v he PJ PJ PJ PJ PJ;have e:tH f x=nH f.kM.length (rE f) (sU f) c a b d:=by unfold tH;rw[<-q,<-hd];simp
 rw[e];exact this
theorem Fb{f}{b:List C.lM}(h:∀(a:Nat) (p:C.lM),b[a]?=some p->tH f p.2=0):xR f (C.ll b)=0:=by unfold xR;rw[Od];simp only[List.any_eq_true,not_exists,not_and];intro x hx;obtain⟨p,hp,rfl⟩:=Ov.1 hx;obtain⟨a,c⟩:=Pz hp;simp[h a p c]
theorem Fc{f}{a:List C.lM}{b:Nat}{p:C.lM}(h:a[b]?=some p)(c:tH f p.2=9):xR f (C.ll a)=9:=by unfold xR;rw[Oj];simp only[List.any_eq_true];exact⟨p.2,Ov.2 ⟨p,NH h,rfl⟩,by simp[c]⟩
theorem He(w)(t:Nat)(f j)(a:List C.lM)(c:Nat)(hF:uH w t f)(K:pj f)(L:C.ny w w j a)(B:∀p∈a,kj.si p.2=true)(hn:a.length<=1000)(hc:a.length<=c):
  Calls prog 14 #[.agg #[.slice j a.length c],.pointer (some ⟨t,0,none⟩)] w (kU (.int .i64 (xR f (C.ll a))) w):=by
 have u:=Ba w (.cells #[.slice j a.length c] 54);have M:=hF;have N:=K;have D:=L;have O:=NA B;have r:=NA (NF w (.cells #[.slice j a.length c] 54));obtain⟨n,v⟩:=Xq a.length;rw[<-v]at u r hn hc⊢;have E:=NA v;clear B v
 go_enter func14,ntmps14
 go_upto_region 1 with fail;generalize w.alloc (.cells #[.slice j n c] 54)=P at*;obtain⟨F,x⟩:=Xq w.heap.size;rw[<-x]at r u⊢;have l:=NA x;have Q:=kf r.o 0 _ rfl;have V:F<P:=(NC.1 r.o).1;clear x;go_wp2_with fail;clear Q;go_loopw [13] (λi wr=>∃k:Nat,k<=n/\i=k/\(∀b p,b<k->a[b]?=some p->tH f p.2=0)/\Below F w wr) (λi _=>n-(intOf i).toNat);case atStart=>exact⟨0,NP _,rfl,λb p R=>PJ,u⟩
 case round=>
  obtain⟨k,W,rfl,G,m⟩:=hrel;have I:=NA G;have y:=m.size;clear G;have z:Below w w wr:=(by rw[<-l.o];exact m);by_cases X:k<n
  .obtain⟨p,hp⟩:∃p,a[k]?=some p:=Gx (PH E.o);obtain⟨Y,Z,rfl,aa,d⟩:=(D.kh z y).kI k p hp;have S:=d 0 _ rfl;have ab:=d 1 _ rfl;have ac:=d 2 _ rfl;have ad:=d 3 _ rfl;have ae:=d 4 _ rfl;have af:=d 5 _ rfl;have ag:=d 6 _ rfl;rw[NS]at S;have ah:(0:Int)<=(k:Int):=PJ;have ai:(k:Int)<(n:Int):=PJ;have g:=Ba wr (.cells #[.int .u8 p.1.ku.kind,p.1.ku.a,p.1.ku.b,p.1.ku.n,p.1.t,p.1.d,.slice p.1.p p.1.n p.1.c] 62);have s:=(uz _ t f _ p.1 p.2 (M.kh (z.T (g.M y))) N (((D.kh z y).row p (NH hp)).kh g g.size) (O.o p (NH hp)))
   have J:=NA hp;clear d hp;rcases AU f p.2 with hx|hx
   .rw[hx]at s;go_wp2_with (refine s.M ?_;rintro e T ⟨rfl,q⟩;have A:=(m.T ((g.T (q.M g.size)).M (PH l.o)));clear q);go_roundw;case rel=>refine⟨k+1,PJ,PQ,λb U R hy=>?_,A⟩;by_cases e:b=k;rw[e,J.o]at hy;injection hy with hy;rw[<-hy];exact hx;exact I.o b U PJ hy
    case measure=>simp[intOf];omega
   rw[hx]at s;go_wp2_with (refine s.M ?_;rintro e T ⟨rfl,q⟩;have A:=(m.T ((g.T (q.M g.size)).M (PH l.o)));clear q);go_ret;exact⟨by rw[Fc J.o hx];rfl,by rw[<-l.o];exact A⟩
  obtain rfl:n=k:=PJ;go_wp2_with fail;go_ret;exact⟨by rw[Fb (λb p hp=>I.o b p (PI E.o ((NW.1 hp).1)) hp)];rfl,by rw[<-l.o];exact m⟩
theorem zX(w)(a:Nat)(f:a<w.heap.size):Calls prog 13 #[.agg #[.int .u8 0,.int .i64 0,.int .i64 0,.int .i64 0,.int .i64 0,.int .i64 0,Nl],.pointer (some ⟨a,0,none⟩)] w (kU (.int .i64 1) w):=by
 have b:=(λw'=>C.oL ⟨⟨0,0,0,0⟩,0,0,none,0,0⟩ w' PK)
 have e:C.rD ⟨⟨0,0,0,0⟩,0,0,none,0,0⟩=1:=PM
 rw[e]at b
 go_enter func13,ntmps13
 go_wp2_with (refine(b _).M ?_;rintro e g ⟨rfl,c⟩;have d:=c;clear c);go_ret;exact⟨rfl,(Ba _ _).T (d.M PK)⟩
theorem yV(f)(l:List kj.lJ)(x:kj.lJ):xR f (l++[x])=if tH f x=0 then xR f l else 9:=by unfold xR;rw[List.any_append];by_cases h:tH f x=0<;>simp[h]
end Go.Proofs.YtfemcncookpdhaaGreatDoor
