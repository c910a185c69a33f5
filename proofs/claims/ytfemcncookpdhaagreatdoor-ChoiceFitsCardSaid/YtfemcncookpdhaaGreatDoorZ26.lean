import Derived.Test.YtfemcncookpdhaaGreatDoorZ22
import Derived.Test.YtfemcncookpdhaaGreatDoorZ24
set_option maxRecDepth 1000000
set_option maxHeartbeats 32000000
set_option linter.all false
namespace Go.Proofs.YtfemcncookpdhaaGreatDoor
open Go.RowKit lX Go.Proofs.Tryz
theorem GW(w):Calls prog 59 #[] w (Kd w):=by
 go_enter func59,ntmps59
 go_wp2;go_ret;exact⟨rfl,mH.of (NF _ _),Ba _ _⟩
theorem IG(m)(n c:Nat)(w)(hp:0<n->∃p o,m=some ⟨p,o,none⟩/\p<w.heap.size/\∀f,f<n->∃x:Int,w.cell? ⟨p,o+f,none⟩=some (.int .u8 x))(hc:n<=c)(hn:n<=140737488355328)(y:tj w):
  Calls prog 26 #[.slice m n c] w (Ge w):=by
 have V:=NA y;have W:=y.lt;have X:=NA hp;have r:=NA (show Below w w (w.alloc (.cells sS 96))from Ba w _);have F:=NA (show pB 96 (w.alloc (.cells sS 96)) w 32 from pB.zero (NF _ _));have G:=NA (show(w.alloc (.cells sS 96)).heap.size=w+1 from PK);clear y hp
 go_enter func26,ntmps26
 go_upto_region 1 with fail;generalize(w.alloc (.cells sS 96))=I at*;obtain⟨a,z⟩:=Xq w.heap.size;rw[<-z]at F W⊢;have s:=NA z;clear z;go_wp2_with fail;refine(GW I).M ?_;rintro e J ⟨rfl,t,b⟩;have hz:=G.o;have A:=s.o;obtain⟨g,K⟩:=Xq I.heap.size;rw[<-K]at t b⊢;have Y:a<g:=PJ
 have Z:=NA t;have B:=NA b;have ao:=t.lt;have C:=NA (V.o.kg ((b.B _ PJ).T (r.o.B _ PJ)) (PI r.o.size b.size));have aa:=NA (show FB g J m n from λab=>by obtain⟨p,o,e,ap,ac⟩:=X.o ab;refine⟨p,o,e,PJ,PJ,λf ad=>?_⟩;obtain⟨x,hx⟩:=ac f ad;exact⟨x,(Cb p (o+f) ((b.B p PJ).T (r.o.B p PJ))).T hx⟩)
 clear t b K hz A;go_wp2_with fail;refine(xk g n c m J Z.o C.o PJ aa.o hc hn).M ?_;rintro e D ⟨rfl,L,j⟩;have ae:=NA L;have d:=NA j;have aq:=j.size;have M:=NA (C.o.kg (j.B _ C.o.lt (λe=>by injection e;omega)) j.size);clear L j;have af:(1:Nat)<D:=M.o.lt;go_wp2_with fail;refine(GX g D ae.o M.o af).M ?_;rintro e N ⟨⟨k,rfl,O,E⟩,P⟩;have Q:=NA P;have u:=NA (And.intro O E);have R:=NA (show Below a w N from by have A:=s.o;have hz:=G.o;have ag:=r.o.T (B.o.M (show w<=g from PJ));have S:Below w w D:=ag.T ⟨d.o.os,d.o.tape,d.o.output,d.o.size,λq ah=>d.o.B q (PH B.o.size) (λe=>by injection e;omega)⟩;rw[A];exact S.T (Q.o.M (PH S.size)))
 have T:=NA (F.o.kg ((Q.o.B a PJ).T ((d.o.B a PJ (λe=>by injection e;omega)).T (B.o.B a Y))));obtain⟨ai,U,aj,_⟩:=T.o;have ak:=NA U;have al:pB 96 N a 32:=T.o;have am:=NA (show k.all (·.oneCell')=true from Array.all_eq_true.2 λi hi=>by obtain⟨x,hx⟩:=E i PJ;rw[NY]at hx;rw[(NC.1 hx).2];rfl)
 clear P U al O E;go_wp2_with (refine oU rfl _ _ _ rfl a ai k _ rfl rfl ak.o (by rw[aj,u.o.1]) (by rw[u.o.1];exact wh) am.o ?_;intro ar an l au);refine NT (v:=.agg k) (xl _ _ _ a k Tryz.results26 rfl an u.o.1) rfl ⟨⟨k,rfl,u.o⟩,?_⟩;rw[<-s.o];exact R.o.T ⟨l.os,l.tape,l.output,l.size,λq ah=>l.B q (PI R.o.size s.o) (λe=>by injection e;omega)⟩
theorem BB(w e s):Below w.heap.size w (Lib.bytesWorld w e s):=by unfold Lib.bytesWorld;exact Lib.below_freeze ((Below.drew (Below.refl _ _)).alloc (NQ _) _) (p:=⟨w,_,none⟩) (NQ _) _
theorem Gi{S w d}{n c a:Nat}{l}(h:km pq S w (.slice d n c) l)(j:a<n):∃(b o:Nat),d=some ⟨b,o,none⟩/\S b/\w.cell? ⟨b,o+a,none⟩=some (.int .i64 (l.getD a 0:Nat)):=by
 have k:=h.len.1;obtain⟨b,o,r,e,f,hr,hc⟩:=h.kI pq.ok a l[a] (NU PJ);have g:r=[.int .i64 (l[a]:Int)]:=hr;subst g;have:=hc 0 _ rfl;rw[NS,Og]at this;refine⟨b,o,e,f,?_⟩;rw[this];have i:a<l.length:=PJ
 simp[i]
theorem Hf(w a)(n c:Nat):Calls prog 14 #[.agg #[.slice a n c],.pointer none] w (kU (.int .i64 1) w):=by
 go_enter func14,ntmps14
 go_wp2;go_ret;exact⟨rfl,Ba _ _⟩
theorem Ko{a b}(h:tx a=tx b):a=b:=by
 have c:(⟨a.toArray⟩:ByteArray)=⟨b.toArray⟩:=by injection h
 have d:=Oy (λz:ByteArray=>z.data.toList) c;simpa using d
end Go.Proofs.YtfemcncookpdhaaGreatDoor
namespace kj
theorem C2(l:List lJ):pz (sT l):=by
 unfold sT;split
 rename_i h
 unfold lW at h;split at h;cases h
 rename_i a
 split at h;cases h
 rename_i b
 split at h;cases h
 rename_i d
 refine⟨vk _ (by simpa using b),λx hx=>?_,by rw[(oQ l).length_eq];omega⟩;have c:l.all si=true:=by simpa using a
 exact List.all_eq_true.1 c x ((oQ l).mem_iff.1 hx);exact pz.nil
theorem BD{n:Nat}{a:List lJ}(h:pz a)(c:lJ):pz (py n a c):=by unfold py;split;exact h;split;exact C2 _;exact h
theorem tR(n:Nat):∀(l a:List lJ),pz a->a.length<=n->pz (l.foldl (py n) a)/\(l.foldl (py n) a).length<=n
 |[],_,h,h2=>⟨h,h2⟩
 |c::r,a,h,h2=>by rw[List.foldl_cons];exact tR n r _ (BD h c) (G0 h2 c)
theorem zR(l:List lJ)(n:Nat):pz (nr l n):=(tR n l [] pz.nil PK).1
theorem yO(l:List lJ)(n:Nat):(nr l n).length<=n:=(tR n l [] pz.nil PK).2
theorem E8{n:Nat}{a:List lJ}{c:lJ}(h:a.length≠n)(he:lW (a++[c])≠0):py n a c=a:=by unfold py;rw[if_neg h,if_neg he]
def six(x:lJ):List Nat:=[x.ku.a.toNat,x.ku.b.toNat,x.ku.n.toNat,x.t.toNat,x.d.toNat,x.args.length]
theorem vJ(x:lJ):nN x=[x.ku.kind.toNat]++(six x).flatMap na++x.args.flatMap (λv=>na (ze v)):=by simp[nN,six]
theorem ue{a:Type}(f:a->List Nat)(B:Nat)(l:List a)(h:∀x∈l,(f x).length<=B):(l.flatMap f).length<=l.length*B:=by
 induction l with
 |nil=>simp
 |cons x r b=>have d:=h x PK;have e:=b (λc hy=>h c (by simp[hy]));rw[List.flatMap_cons,List.length_append,List.length_cons,Nat.add_mul];omega
theorem BO(x:lJ)(h:x.args.length<=4):(nN x).length<=111:=by
 rw[vJ];have a:=ue na 11 (six x) (λv _=>qM v);have b:=ue (λv=>na (ze v)) 11 x.args (λv _=>qM _);simp only[List.length_append,List.length_cons,List.length_nil,six]at*;have:x.args.length*11<=44:=PJ
 omega
end kj
namespace Go.Proofs.YtfemcncookpdhaaGreatDoor.C
open Go.RowKit Go.Shelf Go.Sort Go.Proofs.Tryz
theorem G5(base g c:Nat)(a:List lM)(w)(r:w.ownsRow base 62 7 (.slice (some ⟨g,0,none⟩) a.length c) a.length (kJ a))(E:a.length<=65536):
  Calls prog 31 #[.slice (some ⟨g,0,none⟩) a.length c,.func (.func 32) #[] #[]] w (G4 a g w):=by
 have k:g<w:=zn r g rfl;have A:∀args w,(callFunc 32 args).run prog w=.ok (.enter 32 args) w:=enters_of func32 PL rfl;have t:HoldsK qF 7 w g 0 a.toArray:=by intro d f;rw[size_flatK]at f;have l:d<a.length*7:=(by simpa using f);rw[NY];exact⟨(r.cellAt d l).T (DZ a d l),r.frozenAt d⟩
 have y:=AnyQ.slices_SortFunc Tryz.IJ 7 Tryz.isAgg62 Tryz.sizeOf62 qF qN (λx v z=>by simp[qF,Row.vs]at z;rcases z with rfl|rfl|rfl|rfl|rfl|rfl|rfl<;>rfl) Jg Mf 32 #[] g 0 c a.toArray w A (IK g 0 a.toArray.size w) t k PO;rw[Ph]at y;refine Calls.M y λe w' ⟨he,d',n,os,hp,hs,hw⟩=>⟨he,?_⟩
 obtain⟨m,_,s⟩:=hp;have m:d'.size=a.length:=by simpa using m
 have hx:(d'.extract 0 a.length).toList=d'.toList:=by rw[<-m];simp
 have hy:(a.toArray.extract 0 a.length).toList=a:=PK
 rw[hx,hy]at s;have F:d'.toList.length=a.length:=s.length_eq;have hK':HoldsK qF 7 w' g 0 d':=by rw[hw];unfold sortWorldK;refine holdsK_grow _ _ _ _ _ _ _ ?_ (holdsK_putRowK _ _ _ _ _ a.toArray _ (holdsK_ahead _ _ _ _ _ _ _ t) (by rw[Ph];exact m));unfold putRowK;rw[size_putRow];exact k
 refine⟨d'.toList,s,?_,?_,?_,?_,?_⟩
 .rw[List.pairwise_iff_getElem];intro i d hi f B;have:=hs i d (NP _) B PJ;rw[vp]at this;have C:i<d'.size:=(by simpa using hi);have l:d<d'.size:=(by simpa using f);rw[getElem!_pos d' i C,getElem!_pos d' d l]at this;simpa using this
 .intro _;refine⟨g,0,rfl,?_,λd u hu=>?_⟩;rw[hw];unfold sortWorldK putRowK;rw[size_grow,size_putRow];exact ND k (PC _ _);have f:d<d'.toList.length*7:=by have:=(NW.1 hu).1;rwa [nQ]at this
  have j:=hK' d (by rw[size_flatK];simpa using f);have p:=DZ d'.toList d f;rw[hu,Array.toArray_toList]at p;injection p with p;rw[p];exact j.1
 .rw[hw];unfold sortWorldK putRowK;have j:Below g w (putRow id (Sort.ahead w n) g 0 (flatK qF 7 d')):=Lib.below_putRow (Below.refl g w) (NQ _);refine⟨j.os,j.tape,j.output,?_,λb q=>?_⟩;rw[size_grow];exact NR j.size (PC _ _);rw[heap_grow_old _ _ (by rw[size_putRow];exact Nat.lt_trans q k)];exact j.B b q
 .intro b q D;rw[hw];unfold sortWorldK putRowK;rw[heap_grow_old _ _ (by rw[size_putRow];exact q)];unfold putRow mapBlock;simp[Sort.ahead,Array.getElem?_modify,PD D]
 .rw[hw];unfold sortWorldK putRowK;rw[size_grow,size_putRow];exact PC _ _
end Go.Proofs.YtfemcncookpdhaaGreatDoor.C
namespace Go.Proofs.YtfemcncookpdhaaGreatDoor.C
open Go.RowKit Go.Proofs.Tryz
theorem zU(k:kj.Key)(w):Calls prog 150 #[po k] w (pV (kj.nC k) w):=by
 have l:po k=.agg #[.int .u8 k.kind,k.a,k.b,k.n]:=rfl;rw[l];have hK:kj.nC k=(kj.mW k.kind 1 9&&kj.mW k.a 0 7&&kj.mW k.b 0 (if kj.qm k.kind then 7 else 0)&&kj.mW k.n 0 65535):=rfl;have m:kj.mW k.kind 1 9=(decide (¬k.kind<1)&&decide (¬9<k.kind)):=by unfold kj.mW;congr 1<;>simp
 have n:kj.mW k.b 0 0=(k.b==0):=by unfold kj.mW;rw[Bool.eq_iff_iff];simp;omega
 rw[m]at hK;generalize kj.nC k=R at*;generalize k.kind=c at*;generalize k.a=g at*;generalize k.b=d at*;generalize k.n=i at*;have a:∀b:Bool,R=b->Calls prog 150 #[.agg #[.int .u8 c,g,d,i]] w (pV b w)->Calls prog 150 #[.agg #[.int .u8 c,g,d,i]] w (pV R w):=λb e h=>by rw[e];exact h
 by_cases f:c<1
 .refine a false (by rw[hK];simp[f]) ?_
  go_enter func150,ntmps150
  go_wp2;go_ret;exact⟨rfl,Ba _ _⟩
 by_cases j:9<c
 .refine a false (by rw[hK];simp[f,j]) ?_
  go_enter func150,ntmps150
  go_wp2;go_ret;exact⟨rfl,Ba _ _⟩
 cases hN:kj.mW i 0 65535
 .refine a false (by rw[hK,hN];simp) ?_
  go_enter func150,ntmps150
  go_wp2_with (go_at_call 152;refine(qR _ _ _ _).M ?_;rintro e w' ⟨rfl,rfl⟩);go_ret;exact⟨rfl,Ba _ _⟩
 cases hA:kj.mW g 0 7
 .refine a false (by rw[hK,hA];simp) ?_
  go_enter func150,ntmps150
  go_wp2_with (go_at_call 152;refine(qR _ _ _ _).M ?_;rintro e w' ⟨rfl,rfl⟩);go_ret;exact⟨rfl,Ba _ _⟩
 cases hP:kj.qm c
 .refine a (d==0) (by rw[hK,hN,hA,hP,<-n];simp[f,j]) ?_
  go_enter func150,ntmps150
  go_wp2_with (first|(go_at_call 152;refine(qR _ _ _ _).M ?_;rintro e w' ⟨rfl,rfl⟩)|(go_at_call 183;refine(DX _ _).M ?_;rintro e w' ⟨rfl,rfl⟩));go_ret;exact⟨rfl,Ba _ _⟩
 refine a (kj.mW d 0 7) (by rw[hK,hN,hA,hP];simp[f,j]) ?_
 go_enter func150,ntmps150
 go_wp2_with (first|(go_at_call 152;refine(qR _ _ _ _).M ?_;rintro e w' ⟨rfl,rfl⟩)|(go_at_call 183;refine(DX _ _).M ?_;rintro e w' ⟨rfl,rfl⟩));go_ret;exact⟨rfl,Ba _ _⟩
theorem zW(r:Row)(w)(hn:r.n<=9223372036854775807):Calls prog 102 #[pC r] w (pV (kj.ud r.ku r.t r.d r.n) w):=by
 have A:pC r=.agg #[.int .u8 r.ku.kind,r.ku.a,r.ku.b,r.ku.n,r.t,r.d,.slice r.p r.n r.c]:=rfl;rw[A];clear A;have d:=λW=>zU r.ku W;have B:po r.ku=.agg #[.int .u8 r.ku.kind,r.ku.a,r.ku.b,r.ku.n]:=rfl;rw[B]at d;clear B;have i:kj.ud r.ku r.t r.d r.n=(kj.nC r.ku&&kj.mW r.t 0 (if kj.oA r.ku.kind then 200 else 0)&&kj.mW r.d (kj.xO r.ku.kind) (kj.tk r.ku.kind)&&decide (r.n<=if r.ku.kind==1 then 4 else 0)):=rfl;rw[i];clear i;cases hK:kj.nC r.ku
 .rw[hK]at d;have C:(false&&kj.mW r.t 0 (if kj.oA r.ku.kind then 200 else 0)&&kj.mW r.d (kj.xO r.ku.kind) (kj.tk r.ku.kind)&&decide (r.n<=if r.ku.kind==1 then 4 else 0))=false:=PK;rw[C];clear C hK;have q:=NA d;clear d;generalize r.ku.kind=f at*;generalize r.ku.a=s at*;generalize r.ku.b=t at*;generalize r.ku.n=u at*
  go_enter func102,ntmps102
  go_wp2_with fail;refine(q.o _).M ?_;rintro e F ⟨rfl,j⟩;obtain⟨k,c0,c4,c5,G⟩:=JG j;have l:=NA k;clear j k;go_wp2_with fail;go_ret;exact⟨rfl,l.o⟩
 rw[hK]at d;have I:r.ku.kind=1\/r.ku.kind=2\/r.ku.kind=3\/r.ku.kind=4\/r.ku.kind=5\/r.ku.kind=6\/r.ku.kind=7\/r.ku.kind=8\/r.ku.kind=9:=by apply kj.kinds;unfold kj.nC at hK;cases h:kj.mW r.ku.kind 1 9;rw[h]at hK;simp at hK;rfl
 clear hK;have q:=NA d;clear d;generalize r.ku.kind=f at*;generalize r.ku.a=s at*;generalize r.ku.b=t at*;generalize r.ku.n=u at*;generalize r.t=b at*;generalize r.d=g at*;generalize r.n=n at*;generalize r.c=c at*;generalize r.p=p at*;obtain⟨T,v⟩:∃T:Int,(if kj.oA f=true then(200:Int)else 0)=T:=⟨_,rfl⟩
 obtain⟨lo,x⟩:∃T:Int,kj.xO f=T:=⟨_,rfl⟩
 obtain⟨hi,y⟩:∃T:Int,kj.tk f=T:=⟨_,rfl⟩
 obtain⟨m,hm⟩:∃T:Nat,(if(f==1)=true then 4 else 0)=T:=⟨_,rfl⟩
 rw[v,x,y,hm];have J:m<=4:=by rw[<-hm];split<;>omega
 obtain⟨a,i,K⟩:∃a:Bool,(true&&kj.mW b 0 T&&kj.mW g lo hi&&decide (n<=m))=a/\((a=false/\4<n)\/(a=false/\m<n/\n<=4)\/(a=false/\n<=m/\kj.mW b 0 T=false)\/(a=kj.mW g lo hi/\n<=m/\kj.mW b 0 T=true)):=by by_cases h:n<=m;cases ht:kj.mW b 0 T;exact⟨false,PK,.inr (.inr (.inl ⟨rfl,h,rfl⟩))⟩;exact⟨kj.mW g lo hi,by simp[h],.inr (.inr (.inr ⟨rfl,h,rfl⟩))⟩;by_cases L:4<n;exact⟨false,by simp[h],.inl ⟨rfl,L⟩⟩;exact⟨false,by simp[h],.inr (.inl ⟨rfl,PJ,PJ⟩)⟩
 have D:∀(a:Bool),(true&&kj.mW b 0 T&&kj.mW g lo hi&&decide (n<=m))=a->Calls prog 102 #[.agg #[.int .u8 f,s,t,u,b,g,.slice p n c]] w (pV a w)->Calls prog 102 #[.agg #[.int .u8 f,s,t,u,b,g,.slice p n c]] w (pV (true&&kj.mW b 0 T&&kj.mW g lo hi&&decide (n<=m)) w):=λa M N=>by rw[M];exact N
 refine D a i ?_;clear D i J;rcases I with rfl|rfl|rfl|rfl|rfl|rfl|rfl|rfl|rfl;all_goals
  simp[kj.oA]at v;simp[kj.xO]at x;simp[kj.tk]at y;simp at hm;subst v x y hm;rcases K with⟨rfl,z⟩|⟨rfl,z,O⟩|⟨rfl,z,E⟩|⟨rfl,z,E⟩
 all_goals first
 |(exfalso;omega)
 |(try rw[kj.Jp]at E
   go_enter func102,ntmps102
   go_wp2_with fail;refine(q.o _).M ?_;rintro e F ⟨rfl,j⟩;obtain⟨k,c0,c4,c5,G⟩:=JG j;have l:=NA k;clear j k;go_wp2_with (first|(go_at_call 151;refine(zV _ _).M ?_;rintro e w' ⟨rfl,rfl⟩)|(go_at_call 152;refine(qR _ _ _ _).M ?_;rintro e w' ⟨rfl,rfl⟩));go_ret;first|exact⟨rfl,l.o⟩|(rw[kj.Jp];exact⟨rfl,l.o⟩))
theorem AW(l):∀u∈oq l,u.oneCell'=true:=by intro u hu;simp only[oq,Ov]at hu;obtain⟨z,_,rfl⟩:=hu;rfl
theorem Dh(a)(c:Nat)(xs)(x:Int)(w)(b: -9223372036854775808<=x)(d:x<=9223372036854775807)(f:qi w w a xs)(g:∀u∈xs,u.oneCell'=true)(hn:xs.length<=1000000):
  Calls prog 43 #[.slice a xs.length c,x] w (AY xs (kj.na (kj.ze x)) w):=by
 have i:=rY a c xs (kj.ze x) w (Km x b d) f g hn;have j:=(Dg x w b d)
 go_enter func43,ntmps43
 go_wp2_with fail;refine j.M ?_;rintro e w' ⟨rfl,rfl⟩;go_wp2_with fail;refine i.M ?_;rintro e m ⟨v,rfl,k,l⟩;go_wp2_with fail;go_ret;exact⟨_,rfl,k,l⟩
structure FD(w wr:World)(v:Value)(l:List Nat):Prop where
 own:wr.ownsRow w 5 1 v l.length (oq l)
 kh:Below w w wr
def Fh(l:List Nat)(w:World)(e:Ending)(w':World):Prop:=∃v,e=.returned v/\FD w w' v l
theorem A0{w:World}{b c e size n:Nat}{v:Value}{xs:List Value}(h:w.ownsRow b e size v n xs)(k:c<=b):w.ownsRow c e size v n xs:=by
 obtain⟨d,a⟩:=h;refine⟨d,?_⟩;rcases a with a|⟨g,f,i,j,l,e3⟩
 exact .inl a;exact .inr ⟨g,f,i,j,PJ,e3⟩
theorem uk(l):(oq l).length=l.length:=by simp[oq]
theorem FD.put{w wr a v b l m}(h:FD w wr v l)(c:a.ownsRow wr 5 1 b ((oq l).length+m.length) (oq l++oq m))(d:Below wr wr a):FD w a b (l++m):=by
 refine⟨?_,h.kh.T (d.M h.kh.size)⟩;have e:oq (l++m)=oq l++oq m:=by simp[oq]
 rw[e,N2];rw[uk]at c;exact A0 c h.kh.size
theorem FD.slice{w wr v l}(h:FD w wr v l):∃a c,v=.slice a (oq l).length c/\qi wr wr a (oq l):=by obtain⟨a,c,rfl,_,_,b⟩:=rP h.own;exact⟨a,c,by rw[uk],b.2⟩
def Cm(b:Bool)(w:World)(e:Ending)(w':World):Prop:=e=.returned (.bool b)/\∃q,w'=w.drewN q
theorem Cm.kh{b w w' e}(h:Cm b w e w'):e=.returned (.bool b)/\Below w w w':=by obtain⟨a,q,rfl⟩:=h;exact⟨a,⟨rfl,rfl,rfl,NQ _,λ_ _=>rfl⟩⟩
theorem Dj{l m:List Int}{k:Nat}(h:l.take k=m.take k){x:Int}(hx:l[k]?=some x)(hy:m[k]?=some x):l.take (k+1)=m.take (k+1):=by rw[N5,N5,h,hx,hy]
theorem Hg(p B:Option Addr)(c d:Nat)(l m:List Int)(w:World)(v:qi w w p (l.map (Value.int .u8)))(y:qi w w B (m.map (Value.int .u8)))(G:l.length<=9223372036854775806)(hm:m.length<=9223372036854775806):
  Calls prog 17 #[.slice p l.length c,.slice B m.length d] w (Cm (decide (l=m)) w):=by
 by_cases a:l.length=m.length
 .have I:((l.length:Int)==(m.length:Int))=true:=(by simp[a]);have z:=v;have A:=y;have r:=a;rw[<-a]
  go_enter func17,ntmps17
  go_wp2;go_loopw [13] (λi wr=>∃k q:Nat,k<=l.length/\i=k/\l.take k=m.take k/\wr=w.drewN q) (λi _=>l.length-(intOf i).toNat);case atStart=>exact⟨0,0,NP _,rfl,rfl,rfl⟩
  case round=>
   obtain⟨k,g,J,rfl,s,rfl⟩:=hrel;by_cases t:k<l.length
   .obtain⟨x,j⟩:∃x,l[k]?=some x:=Gx t;obtain⟨b,n⟩:∃b,m[k]?=some b:=Gx (by rw[<-r];exact t);obtain⟨K,o1,rfl,_,c1⟩:=z.kI k (.int .u8 x) (by simp[j]);obtain⟨L,o2,rfl,_,c2⟩:=A.kI k (.int .u8 b) (by simp[n]);by_cases f:x=b
    .subst f;have C:(x !=x)=false:=PK;have u:(x==x)=true:=PK;go_wp2;go_quiet (fail);go_wp2;go_roundw;case rel=>exact⟨k+1,g+nq,PJ,PQ,Dj s j n,rfl⟩
     case measure=>simp[intOf];omega
    have C:(x !=b)=true:=(by simp[f]);have u:(x==b)=false:=(by simp[f]);have D:decide (l=m)=false:=by rw[OU];intro e;subst e;have:=j.symm.T n;injection this with this;exact f this
    go_wp2;go_quiet (fail);go_wp2;go_ret;exact⟨by rw[D];rfl,g+nq,by rw[World.drewN_drewN]⟩
   have E:decide (l=m)=true:=by have:=s;rw[NV PJ,NV (PH r)]at this;simpa using this
   go_wp2;go_ret;exact⟨by rw[E];rfl,g,rfl⟩
 .have F:decide (l=m)=false:=by rw[OU];rintro rfl;exact a rfl
  rw[F];have M:((l.length:Int)==(m.length:Int))=false:=PO;have u:(l.length==m.length)=false:=(by simpa using a);have N:decide (l.length=m.length)=false:=by simpa using a
  go_enter func17,ntmps17
  go_wp2;go_ret;exact⟨rfl,0,rfl⟩
theorem qO(n:Nat)(h:n<10):Lib.itoa (n:Int)=[UInt8.ofNat (48+n)]:=by unfold Lib.itoa;rw[Od PJ,Oq,Lib.decDigits,dif_pos h]
theorem I4:kj.om [D8,Fy]=Gj:=by have a:Lib.itoa 0=[48]:=qO 0 PM;have b:Lib.itoa 1=[49]:=qO 1 PM;have c:Lib.itoa 2=[50]:=qO 2 PM;have d:Lib.itoa 3=[51]:=qO 3 PM;have e:Lib.itoa 5=[53]:=qO 5 PM;have f:Lib.itoa 7=[55]:=qO 7 PM;simp only[kj.om,kj.oc,kj.mZ,kj.oY,kj.oa,Fy,D8,zq,zr,List.flatMap_cons,List.flatMap_nil,Ob,Oe,a,b,c,d,e,f,I2,I3];rfl
def zt:Row:=⟨zq,0,0,none,0,0⟩
def zu(w:World):Row:=⟨zr,3,0,some ⟨w,0,none⟩,2,2⟩
theorem I5(l):oq l=(l.map λ(n:Nat)=>(n:Int)).map (Value.int .u8):=by simp[oq]
theorem K5(w):ny ((w.alloc (.cells #[.int .i64 17,.int .i64 (-4)] 2)).alloc (.cells #[.int .u8 5,.int .i64 1,.int .i64 0,.int .i64 7,.int .i64 0,.int .i64 0,Nl,.int .u8 1,.int .i64 0,.int .i64 2,.int .i64 5,.int .i64 3,.int .i64 0,.slice (some ⟨w.heap.size,0,none⟩) 2 2] 62)) (w.heap.size+2) (some ⟨w.heap.size+1,0,none⟩) [(zt,Fy),(zu w,D8)]:=by have c:=NF w (.cells #[.int .i64 17,.int .i64 (-4)] 2);have b:=NF (w.alloc (.cells #[.int .i64 17,.int .i64 (-4)] 2)) (.cells #[.int .u8 5,.int .i64 1,.int .i64 0,.int .i64 7,.int .i64 0,.int .i64 0,Nl,.int .u8 1,.int .i64 0,.int .i64 2,.int .i64 5,.int .i64 3,.int .i64 0,.slice (some ⟨w,0,none⟩) 2 2] 62);rw[NB]at b;refine⟨λ_=>⟨_,_,rfl,PJ,λa u hu=>?_⟩,λp hp=>?_⟩;rw[NY];exact lI b a u (by simpa[kJ,qF,Row.vs,zt,zu,zq,zr]using hu);simp only[Oa,N7,Ow]at hp;rcases hp with rfl|rfl;exact⟨rfl,rfl,rfl,rfl,NQ _,PM,λh=>absurd rfl h⟩;refine⟨rfl,rfl,rfl,rfl,NQ _,by show(2:Nat)<=_;decide,λ_=>⟨w,0,rfl,PJ,λa u hu=>?_⟩⟩;rw[NY];exact(O5 _ _ _ PK).T (lI c a u (by simpa[pL,D8]using hu))
end Go.Proofs.YtfemcncookpdhaaGreatDoor.C
namespace Go.Proofs.YtfemcncookpdhaaGreatDoor.C
open Go.RowKit Go.Sort Go.Proofs.Tryz
theorem wS{l}{a:List lM}{r:Row}{x:kj.lJ}{w}{d:World}{g:Value}(H:ny w w l a)(m:mF w w r x)
  (i:d.ownsRow (w+1) 62 7 g (0+a.length+1) ([]++kJ a++r.vs)) (e:RowKit.Below w w d):
  ∃f c,g=.slice f (a.length+1) c/\a.length+1<=c/\c<=9223372036854775807/\ny d d f (a++[(r,x)]):=by
 have n:0+a.length+1=(a++[(r,x)]).length:=PK
 have p:[]++kJ a++r.vs=kJ (a++[(r,x)]):=by rw[og,List.nil_append];simp[kJ,qF]
 rw[n,p]at i;obtain⟨f,c,rfl,j,s,t⟩:=rP i;have k:(a++[(r,x)]).length=a.length+1:=PK
 rw[k]at j;refine⟨f,c,by rw[k],j,s,t.2,λq b=>?_⟩;rcases OI.1 b with b|b
 .exact(H.row q b).kh e e.size
 .simp at b;rw[b];exact m.kh e e.size
def HL(x:kj.lJ):kj.lJ:=⟨x.ku,x.t,x.d,x.args.take 6⟩
def uJ(p:lM):lM:=(⟨p.1.ku,p.1.t,p.1.d,p.1.p,(min (p.1.n:Int) 6).toNat,p.1.c⟩,HL p.2)
end Go.Proofs.YtfemcncookpdhaaGreatDoor.C
namespace lX
open Go.Proofs.YtfemcncookpdhaaGreatDoor
structure MO(sc:Sc):Prop where
 ints:sc.ints<=3
 params:sc.params<=2
 kM:sc.kM<=2
 len:sc.nK.length<=3
 hs:∀l∈sc.nK,l.length<=3
 nK:∀l∈sc.nK,∀a∈l,a<=2
end lX
namespace Go.Proofs.YtfemcncookpdhaaGreatDoor.C
open Go.RowKit Go.Proofs.Tryz
theorem oZ{P}(w:World)(t e)(n:Nat)(a:Array Value)(k:Nat)(v:Value)(h:P.underlying t=some (.array n e))(b:k<n)
  (c:(isAgg e).run P w=.ok false w) (d:a[k]?=some v) (hs:(sizeOf e).run P w=.ok 1 w):
  (Instr.index t (.agg a) (.int .i64 k)).run P w=.ok v w:=by
 simp[Instr.index,PB h,asIntOf,b,hs,c,d,go_sem]
theorem I1(w:World)(l:List Nat)(k z:Nat)(a:l.length=6)(hz:l[k]?=some z):(Instr.index 139 (.agg (l.map λ(n:Nat)=>Value.int .i64 (n:Int)).toArray) (.int .i64 k)).run prog w=.ok (.int .i64 (z:Int)) w:=
 oZ w _ 3 6 _ k _ PL (PH ((NW.1 hz).1)) PL (by simp[hz]) PL
theorem Fi(N)(d:List lM)(c:Nat)(w)(h:ny w w.heap.size N d)(ae:∀p∈d,kj.si p.2=true/\kj.sX p.2)(hn:d.length<=1000):Calls prog 18 #[.agg #[.slice N d.length c]] w (Fh (kj.setBytes (ll d)) w):=by
 obtain⟨aC,aD,hz0,aE,aF⟩:=N4 sx;have H:=NA h;have af:=NA ae;clear h ae
 go_enter func18,ntmps18
 go_wp2_with fail;refine(rY none 0 [] d.length _ PJ (qi.nil _ _ _) PK PK).M ?_;rintro e ag ⟨aG,rfl,r,m⟩;rw[NB]at r m;have f:Hid (FD w ag aG (kj.na d.length)):=NA ⟨by simpa using A0 r PJ,(Ba w _).T (m.M PJ)⟩;have aH:ag.cell? ⟨w.heap.size,0,none⟩=some (.slice N d.length c):=(m.cell (p:=⟨w.heap.size,0,none⟩) PK).T (lI (NF w _) 0 _ rfl);clear r m;go_wp2_with fail;clear aH;go_loopw [3,18] (λv i wr=>∃k:Nat,k<=d.length/\i=k/\FD w wr v (kj.na d.length++((ll d).take k).flatMap kj.nN)) (λ_ i _=>d.length-(intOf i).toNat);case atStart=>exact⟨0,NP _,rfl,by simpa using f.o⟩
 case round=>
  clear f;obtain⟨k,bn,rfl,hs⟩:=hrel;have bo:(kj.na d.length++((ll d).take k).flatMap kj.nN).length<=11+k*111:=by
   have y:=kj.qM d.length;have E:=kj.ue kj.nN 111 ((ll d).take k) (λx hx=>by obtain⟨p,hp,rfl⟩:=Ov.1 (OM hx);exact kj.BO _ (rQ (af.o p hp).1))
   have ah:((ll d).take k).length*111<=k*111:=Oz _ (by rw[N0];exact Nat.min_le_left _ _);rw[N2];omega
  by_cases aI:k<d.length
  .obtain⟨p,A⟩:∃p,d[k]?=some p:=Gx aI;have t:=H.o.row p (NH A);have F:=af.o p (NH A);have ai:(ll d)[k]?=some p.2:=(by simp[ll,A]);have aj:kj.na d.length++((ll d).take (k+1)).flatMap kj.nN=(kj.na d.length++((ll d).take k).flatMap kj.nN)++kj.nN p.2:=(by rw[N5,ai];simp);generalize kj.na d.length++((ll d).take k).flatMap kj.nN=l at*;obtain⟨ak,⟨aJ,bp⟩,⟨aK,bq⟩⟩:=kj.pZ F.1;obtain⟨⟨br,bs⟩,⟨aL,bt⟩,⟨aM,bu⟩,aN,bv⟩:=kj.oF ak;have bw:=rQ F.1;obtain⟨b,o,rfl,aO,hc⟩:=H.o.kI k p A;have q:∀a u,p.1.vs[a]?=some u->wr.cell? ⟨b,o+k*7+a,none⟩=some u:=λa u hu=>(hs.kh.cell (p:=⟨b,o+k*7+a,none⟩) aO).T (hc a u hu);have c0:wr.cell? ⟨b,o+k*7,none⟩=some (.int .u8 p.1.ku.kind):=q 0 _ rfl;have c1:=q 1 _ rfl;have c2:=q 2 _ rfl;have c3:=q 3 _ rfl;have c4:=q 4 _ rfl;have c5:=q 5 _ rfl;have al:=q 6 _ rfl;rw[t.ku]at c0 c1 c2 c3;rw[t.t]at c4;rw[t.d]at c5;rw[t.n]at al;have aP:=NA t.lie;have am:∀v∈p.2.args,-9223372036854775808<=v/\v<=9223372036854775807:=F.2;have aQ:=NA am;clear am;have hce:=kj.vJ p.2;have an:(kj.six p.2).map (λ(n:Nat)=>Value.int .i64 (n:Int))=[.int .i64 p.2.ku.a,.int .i64 p.2.ku.b,.int .i64 p.2.ku.n,.int .i64 p.2.t,.int .i64 p.2.d,.int .i64 (p.2.args.length:Int)]:=by simp only[kj.six,Ob,Oe];rw[Pm aL,Pm aM,Pm aN,Pm aJ,Pm aK]
   have ao:(kj.six p.2).length=6:=rfl;have ap:∀z∈kj.six p.2,z<=65535:=by intro z hz;simp only[kj.six,Oa,N7,Ow]at hz;omega
   generalize kj.six p.2=j at*;generalize p.2.args=ar at*;generalize p.2.t=G at*;generalize p.2.d=I at*;generalize p.2.ku.a=J at*;generalize p.2.ku.b=K at*;generalize p.2.ku.n=L at*;obtain⟨g,aq⟩:=Int.eq_ofNat_of_zero_le (show 0<=p.2.ku.kind from PJ);rw[aq]at c0 hce;rw[Oq]at hce;generalize p.1.p=O at*;generalize p.1.c=P at*;have aR:=NA aj;have aS:=NA hce;have aT:=NA an;have M:=NA ao;have aU:=NA ap;have f:=NA hs;have aV:=hs.kh.size;clear aj hce an ao ap hs t F aq q hc A ai ak;go_wp2_with (at_builtin;refine Oo _ rfl _ _ 22 rfl w.heap.size 5 aC _ 1 1 underlying22 aD hz0 aE aF rfl PM _ _ _ rfl ((f.o.own.alloc _).alloc _) ⟨wr.heap.size+1,0,none⟩ 1 1 [.int .u8 (g:Int)] rfl rfl ?c1 ?c2 ?c3 ?c4 ?c5 ?_);case c1=>have:=lU (wr.alloc (.cells #[.int .u8 (g:Int),J,K,L,G,I,.slice O ar.length P] 62)) [.int .u8 (g:Int)] 5;rwa [NB]at this
   case c2=>simp[Value.oneCell']
   case c3=>unfold maxLen;omega
   case c4=>omega
   case c5=>simp;omega
   intro aW au av Q _;have aw:FD w au aW (l++[g]):=by refine⟨?_,(((f.o.kh.alloc aV _).alloc PO _).grown Q PO (mN f.o.own))⟩;have aX:oq (l++[g])=oq l++[.int .u8 (g:Int)]:=(by simp[oq]);have aY:(l++[g]).length=l.length+1:=PK;rw[aX,aY];exact av
   have s:au.heap[wr.heap.size]?=some (.cells #[.int .u8 (g:Int),J,K,L,G,I,.slice O ar.length P] 62 (0,0)):=
    (Q.B wr.heap.size PO (λe=>PH (zn f.o.own _ e.symm))).T ((Ot _ _ _ PK).T (NF wr _))
   have ax:=NA aw;have B:=NA s;obtain⟨⟨a0,R,S,T,U,V,X⟩,_⟩:=tF s;clear av Q aw s f c0 c1 c2 c3 c4 c5 al;generalize wr.heap.size=ay at*;have az:∀(W:World) (a z:Nat),j[a]?=some z->(Instr.index 139 (.agg #[.int .i64 J,K,L,G,I,.int .i64 (ar.length:Int)]) (.int .i64 a)).run prog W=.ok (.int .i64 (z:Int)) W:=λW a z hz=>by have y:=I1 W j a z M.o hz;rw[aT.o]at y;exact y
   have aZ:=NA az;clear az;go_wp2_with fail;clear a0 R S T U V X;go_loopw [3,45] (λv i wr=>∃a:Nat,a<=6/\i=a/\FD w wr v (l++[g]++(j.take a).flatMap kj.na)/\wr.heap[ay]?=some (.cells #[.int .u8 (g:Int),J,K,L,G,I,.slice O ar.length P] 62 (0,0))) (λ_ i _=>6-(intOf i).toNat);case atStart=>exact⟨0,NP _,rfl,by simpa using ax.o,B.o⟩
   case round=>
    clear ax B;obtain⟨a,ba,rfl,hs,s⟩:=hrel;have bb:(l++[g]++(j.take a).flatMap kj.na).length<=l.length+1+66:=by have y:=kj.ue kj.na 11 (j.take a) (λv _=>kj.qM v);have E:(j.take a).length<=6:=(by rw[N0];have:=M.o;omega);have ah:=Oz 11 E;simp only[N2,OP,OT]at*;omega
    by_cases Y:a<6
    .obtain⟨z,hz⟩:∃z,j[a]?=some z:=Gx (by rw[M.o];exact Y);have bx:=aU.o z (NH hz);have bc:=λW=>aZ.o W a z hz;have C:l++[g]++(j.take (a+1)).flatMap kj.na=(l++[g]++(j.take a).flatMap kj.na)++kj.na z:=(by rw[N5,hz];simp);generalize l++[g]++(j.take a).flatMap kj.na=bd at*;obtain⟨Z,aa,rfl,D⟩:=hs.slice;have ab:=NA C;have f:=NA hs;have ac:=NA D;have B:=NA s;clear C hs D s hz;go_wp2_with fail;refine(rY Z aa (oq bd) z _ PJ ac.o (AW _) (by rw[uk];omega)).M ?_;rintro e be ⟨bf,rfl,r,m⟩;have ad:=NA (f.o.put r m);have bg:=NA ((m.B ay ((NC.1 B.o).1)).T B.o);clear r m bc;go_wp2_with fail;go_roundw;case rel=>exact⟨a+1,PJ,PQ,by rw[ab.o];exact ad.o,bg.o⟩
     case measure=>simp[intOf];omega
    obtain rfl:a=6:=PJ;have aA:j.take 6=j:=NV (by rw[M.o];omega);rw[aA]at hs bb;generalize aB:l++[g]++j.flatMap kj.na=L2 at*;have bh:=NA aB;have f:=NA hs;obtain⟨⟨a0,R,S,T,U,V,X⟩,_⟩:=tF s;clear hs s aA aB a0 R S T U V;go_wp2_with fail;clear X;go_loopw [3,56] (λv i wr=>∃a:Nat,a<=ar.length/\i=a/\FD w wr v (L2++(ar.take a).flatMap (λv=>kj.na (kj.ze v)))) (λ_ i _=>ar.length-(intOf i).toNat);case atStart=>exact⟨0,NP _,rfl,by simpa using f.o⟩
    case round=>
     clear f;obtain⟨a,ba,rfl,hs⟩:=hrel;have bz:(L2++(ar.take a).flatMap (λv=>kj.na (kj.ze v))).length<=L2.length+44:=by have y:=kj.ue (λv=>kj.na (kj.ze v)) 11 (ar.take a) (λv _=>kj.qM _);have E:(ar.take a).length<=4:=(by rw[N0];omega);have ah:=Oz 11 E;simp only[N2]at*;omega
     by_cases Y:a<ar.length
     .obtain⟨z,hz⟩:∃z,ar[a]?=some z:=Gx Y;obtain⟨bi,bj⟩:=aQ.o z (NH hz);have C:L2++(ar.take (a+1)).flatMap (λv=>kj.na (kj.ze v))=(L2++(ar.take a).flatMap (λv=>kj.na (kj.ze v)))++kj.na (kj.ze z):=(by rw[N5,hz];simp);generalize L2++(ar.take a).flatMap (λv=>kj.na (kj.ze v))=bk at*;obtain⟨b,o,rfl,bl,hc⟩:=aP.o.kI a (.int .i64 z) (by simp[pL,hz]);have q:wr.cell? ⟨b,o+a,none⟩=some (.int .i64 z):=(hs.kh.cell (p:=⟨b,o+a,none⟩) bl).T hc;obtain⟨Z,aa,rfl,D⟩:=hs.slice;have ab:=NA C;have f:=NA hs;have ac:=NA D;clear C hs D hz hc;go_wp2_with fail;refine(Dh Z aa (oq bk) z _ bi bj ac.o (AW _) (by rw[uk];omega)).M ?_;rintro e be ⟨bf,rfl,r,m⟩;have ad:=NA (f.o.put r m);clear r m q;go_wp2_with fail;go_roundw;case rel=>(repeat apply Exists.intro);exact⟨⟨a+1,PJ,PQ,by rw[ab.o];exact ad.o⟩,rfl⟩
      case measure=>simp[intOf];omega
     obtain rfl:a=ar.length:=PJ;rw[List.take_length]at hs;have f:=NA hs;clear hs;go_wp2_with fail;go_roundw;case rel=>exact⟨k+1,PJ,PQ,by rw[aR.o,aS.o,<-OG,<-OG,bh.o];exact f.o⟩
     case measure=>simp[intOf];omega
  go_wp2_with fail;go_ret;have bm:(ll d).take k=ll d:=NV PZ;rw[bm]at hs;exact⟨_,rfl,by have e:(ll d).length=d.length:=(by simp[ll]);rw[kj.setBytes,e];exact hs⟩
end Go.Proofs.YtfemcncookpdhaaGreatDoor.C
namespace Go.Proofs.YtfemcncookpdhaaGreatDoor.C
open Go.ChangeShapes Go.WideShapes Go.ChangeAt Go.RowKit Go.Proofs.Tryz
theorem own:ownKnob prog.godebug=none:=PL
end Go.Proofs.YtfemcncookpdhaaGreatDoor.C
