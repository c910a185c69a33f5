import Derived.Test.YtbdipimmpgijaaaGreatDoorZ10
import Derived.Test.YtbdipimmpgijaaaGreatDoorZ11
import Derived.Test.YtbdipimmpgijaaaGreatDoorZ12
import Derived.Test.YtbdipimmpgijaaaGreatDoorZ13
set_option maxRecDepth 1000000
set_option maxHeartbeats 32000000
set_option linter.all false
namespace Go.Proofs.YtbdipimmpgijaaaGreatDoor
open RowKit Go.Proofs.Tryz lH Maps oa qR ChangeShapes WideShapes ChangeAt
def oa.used(a:Ev):Ev:=
 match arr a with
 |1=>{base a with peer:=a.peer,d:=a.d,hd:=0,args:=[]}
 |2=>{base a with d:=a.d,hd:=0,args:=[]}
 |3=>{base a with hd:=0,args:=[]}
 |5=>{base a with peer:=a.peer,copy:=a.copy}
 |8=>{base a with peer:=a.peer}
 |9=>{base a with d:=a.d}
 |10=>{base a with peer:=a.peer,copy:=a.copy,hd:=0}
 |11=>{base a with n:=0,args:=[]}
 |_=>base a
def oa.valid(b:Nm)(a:Ev):Bool:=fits b a&&(decide (0<=a.tick)&&(decide (0<=a.n)&&qD a (used a)))
def oa.line(b:Nm)(a:Ev):RK:=
 if valid b a then [116]++(Lib.itoa a.tick++([32]++((if a.kind=1 then [111,112,101,114,97,116,111,114]else cN b a.comp)++([58,32]++((if a.kind=7 then [100,105,115,99,97,114,100,115,32]else [])++told b a)))))else []
def GF(F:Nat)(g:Int)(e d)(aa:nH d F e):Calls prog 55 #[.pointer F,g] d<|KJ (cN (kF e) g) d:=by
 have L:=Ba d re;have E:=X L;have M:=X<|aa.ku L;have j:=X<|QQ d re
 go_enter func55,ntmps55
 go_upto_region 1 with fail;generalize d.alloc re=G at*;have⟨b,I⟩:=Xq d.heap.size;rw[<-I]at j E⊢;have J:=X I;have N:=X<|og F e G M.o;clear I;by_cases ag:g<0
 .have k:cN (kF e) g=[]:=(by unfold cN;rw[Rh];rw[uA];omega);have w:=X k;have⟨⟨O,P,Q⟩,R,S,T⟩:=lg j.o;have⟨i,a⟩:=Xq<|kZ G b 0 [Em,Nl,Nl];have x:=X (show i.heap[b]?=some re from by rw[a];exact mP (r:=[Em,Nl,Nl]) (m:=[_,_,_]) j.o Z);have y:=X (show Below b d i from by rw[a];exact lD (QX _) E.o);have z:=X a;clear a;go_wp21;change bodyPost _ _ _ _ _ (kZ G b 0 [Em,Nl,Nl]);rw[<-z.o];have c:=x.o;have A:=kt c 0;have B:=kt c 1;have C:=kt c 2;refine QY (v:=.agg #[Em,Nl,Nl]) ?_ rfl ⟨⟨none,0,0,none,0,0,by rw[w.o]⟩,by rw[<-J.o];exact y.o⟩;simp[results,Tryz.results55,go_sem,A,B,C]
 by_cases ah:(e.kH.length:Int)<=g
 .have k:cN (kF e) g=[]:=(by unfold cN;rw[Rh];rw[uA];omega);have w:=X k;go_wp21;apply N.o.M;rintro ab D ⟨rfl,rfl⟩;have⟨⟨O,P,Q⟩,R,S,T⟩:=lg j.o;have⟨i,a⟩:=Xq<|kZ D b 0 [Em,Nl,Nl];have x:=X (show i.heap[b]?=some re from by rw[a];exact mP (r:=[Em,Nl,Nl]) (m:=[_,_,_]) j.o Z);have y:=X (show Below b d i from by rw[a];exact lD (QX _) E.o);have z:=X a;clear a;go_wp21;change bodyPost _ _ _ _ _ (kZ D b 0 [Em,Nl,Nl]);rw[<-z.o];have c:=x.o;have A:=kt c 0;have B:=kt c 1;have C:=kt c 2;refine QY (v:=.agg #[Em,Nl,Nl]) ?_ rfl ⟨⟨none,0,0,none,0,0,by rw[w.o]⟩,by rw[<-J.o];exact y.o⟩;simp[results,Tryz.results55,go_sem,A,B,C]
 obtain⟨l,rfl⟩:∃l:Nat,g=(l:Int):=⟨g.toNat,Y⟩
 obtain⟨f,U⟩:∃f,e.kH[l]?=some f:=Gx Y;have k:cN (kF e) (l:Int)=f.name:=by unfold cN;rw[RB<|uA.2 ⟨Y,Y⟩];simp[kF,U]
 have w:=X k;have ac:=X U;have ai:(l:Int)<(e.kH.length:Int):=Y
 have aj:(0:Int)<=(l:Int):=Y
 go_wp21;apply N.o.M;rintro ab D ⟨rfl,rfl⟩;have⟨ak,al,am,an,ao,ap,aq,ar,au,av,aw,ax,ay,az,aA,ad,aB,V,_⟩:=M.o;have k:=V.kH.len.1;obtain⟨aC,aD,r,rfl,aE,ae,K⟩:=V.kH.ll (mr.ok .u8) l f ac.o;obtain⟨n,p,q,s,t,u,rfl,_,aF⟩:=ae.rj;have af:=K 0 _ Z;have aG:=K 1 _ Z;have aH:=K 2 _ Z;rw[Q1]at af;rw[<-k]at ad;have⟨⟨O,P,Q⟩,R,S,T⟩:=lg j.o;have⟨i,a⟩:=Xq<|kZ D b 0 [tx f.name,(n,p,q),(s,t,u)];have x:=X (show i.heap[b]?=some (.cells (hR f.name n p q s t u) 112)from by rw[a];exact mP (r:=[tx f.name,(n,p,q),(s,t,u)]) (m:=[_,_,_]) j.o Z);have y:=X (show Below b d i from by rw[a];exact lD (QX _) E.o);have z:=X a;clear a;go_wp21;change bodyPost _ _ _ _ _ (kZ D b 0 [tx f.name,(n,p,q),(s,t,u)]);rw[<-z.o];have c:=x.o;have A:=kt c 0;have B:=kt c 1;have C:=kt c 2;refine QY (v:=.agg<|hR f.name n p q s t u) ?_ rfl ⟨⟨n,p,q,s,t,u,by rw[w.o]⟩,by rw[<-J.o];exact y.o⟩;simp[results,Tryz.results55,go_sem,A,B,C]
def vx(b:Nat)(c:Int)(d a)(e:nH a b d):Calls prog 23 #[.pointer b,c] a<|kG (tx<|cN (kF d) c) a:=by
 have f:=(GF b c d a e)
 have i:=CF
 go_enter func23,ntmps23
 go_wp21;apply f.M;rintro j k ⟨⟨l,m,n,p,q,r,rfl⟩,g⟩;go_wp21;go_ret;exact⟨Z,g⟩
def GG(y:Nat)(g:Int)(f e)(N:nH e y f):Calls prog 85 #[.pointer y,g] e<|KL (fN (kF f) g) e:=by
 have C:=Ba e vj;have x:=X C;have D:=X<|N.ku C;have b:=X<|QQ e vj
 go_enter func85,ntmps85
 go_upto_region 1 with fail;generalize e.alloc vj=z at*;have⟨d,A⟩:=Xq e.heap.size;rw[<-A]at b x⊢;have B:=X A;have E:=X<|vw y f z D.o;clear A;by_cases U:g<0
 .have k:fN (kF f) g=[]:=(by unfold fN;rw[Rh];rw[Ao];omega);have n:=X k;have F:=kt b.o 0;have G:=kt b.o 1;have I:=kx b.o 0;have J:=kx b.o 1;have⟨i,c⟩:=Xq<|kZ z d 0 [Em,.bool false];have p:=X (show i.heap[d]?=some vj from by rw[c];exact mP (r:=[Em,.bool false]) (m:=[_,_]) b.o Z);have q:=X (show Below d e i from by rw[c];exact lD (QX _) x.o);have s:=X c;clear c;go_wp21;change bodyPost _ _ _ _ _ (kZ z d 0 [Em,.bool false]);rw[<-s.o];have j:=p.o;have t:=kt j 0;have u:=kt j 1;refine QY (v:=.agg #[Em,false]) ?_ rfl ⟨⟨false,by rw[n.o]⟩,by rw[<-B.o];exact q.o⟩;simp[results,Tryz.results85,go_sem,t,u]
 by_cases V:(f.kQ.length:Int)<=g
 .have k:fN (kF f) g=[]:=(by unfold fN;rw[Rh];rw[Ao];omega);have n:=X k;go_wp21;apply E.o.M;rintro O w ⟨rfl,rfl⟩;have F:=kt b.o 0;have G:=kt b.o 1;have I:=kx b.o 0;have J:=kx b.o 1;have⟨i,c⟩:=Xq<|kZ w d 0 [Em,.bool false];have p:=X (show i.heap[d]?=some vj from by rw[c];exact mP (r:=[Em,.bool false]) (m:=[_,_]) b.o Z);have q:=X (show Below d e i from by rw[c];exact lD (QX _) x.o);have s:=X c;clear c;go_wp21;change bodyPost _ _ _ _ _ (kZ w d 0 [Em,.bool false]);rw[<-s.o];have j:=p.o;have t:=kt j 0;have u:=kt j 1;refine QY (v:=.agg #[Em,false]) ?_ rfl ⟨⟨false,by rw[n.o]⟩,by rw[<-B.o];exact q.o⟩;simp[results,Tryz.results85,go_sem,t,u]
 obtain⟨l,rfl⟩:∃l:Nat,g=(l:Int):=⟨g.toNat,Y⟩
 obtain⟨a,K⟩:∃a,f.kQ[l]?=some a:=Gx Y;have k:fN (kF f) (l:Int)=a.name:=by unfold fN;rw[RB<|Ao.2 ⟨Y,Y⟩];simp[kF,K]
 have n:=X k;have P:=X K;have aa:(l:Int)<(f.kQ.length:Int):=Y
 have ab:(0:Int)<=(l:Int):=Y
 go_wp21;apply E.o.M;rintro O w ⟨rfl,rfl⟩;have⟨ac,ad,ae,af,ag,ah,ai,aj,ak,al,am,an,ao,Q,ap,aq,ar,L,_⟩:=D.o;have k:=L.kQ.len.1;obtain⟨au,av,r,rfl,aw,R,M⟩:=L.kQ.ll mI.ok l a P.o;have S:r=[tx a.name,.bool a.init]:=R;subst S;have T:=M 0 _ Z;have ax:=M 1 _ Z;rw[Q1]at T;rw[<-k]at Q;have F:=kt b.o 0;have G:=kt b.o 1;have I:=kx b.o 0;have J:=kx b.o 1;have⟨i,c⟩:=Xq<|kZ w d 0 [tx a.name,.bool a.init];have p:=X (show i.heap[d]?=some (ti a.name a.init)from by rw[c];exact mP (r:=[tx a.name,.bool a.init]) (m:=[_,_]) b.o Z);have q:=X (show Below d e i from by rw[c];exact lD (QX _) x.o);have s:=X c;clear c;go_wp21;change bodyPost _ _ _ _ _ (kZ w d 0 [tx a.name,.bool a.init]);rw[<-s.o];have j:=p.o;have t:=kt j 0;have u:=kt j 1;refine QY (v:=.agg #[tx a.name,a.init]) ?_ rfl ⟨⟨a.init,by rw[n.o]⟩,by rw[<-B.o];exact q.o⟩;simp[results,Tryz.results85,go_sem,t,u]
def xM(b:Nat)(c:Int)(d a)(e:nH a b d):Calls prog 44 #[.pointer b,c] a<|kG (tx<|fN (kF d) c) a:=by
 have f:=(GG b c d a e)
 have i:=CG
 go_enter func44,ntmps44
 go_wp21;apply f.M;rintro j k ⟨⟨l,rfl⟩,g⟩;go_wp21;go_ret;exact⟨Z,g⟩
def lW(d:Ev)(n)(p q:Nat)(e):Calls prog 53 #[.agg<|Hk d n p q] e<|kG (.int .u8 (arr d:Nat)) e:=by
 have⟨f,g,c,i,j,k,l,a,r⟩:=d;have b:=Ba e<|.cells (me f g c i j k l a n p q) 38;by_cases s:c=7
 .subst s;by_cases t:a=4
  .subst t
   go_enter func53,ntmps53
   go_wp2;go_ret;exact⟨Z,b⟩
  by_cases u:a=5
  .subst u
   go_enter func53,ntmps53
   go_wp2;go_ret;exact⟨Z,b⟩
  by_cases v:a=6
  .subst v
   go_enter func53,ntmps53
   go_wp2;go_ret;exact⟨Z,b⟩
  have m:arr ⟨f,g,7,i,j,k,l,a,r⟩=7:=(by simp[arr,t,u,v]);rw[m]
  go_enter func53,ntmps53
  go_wp2;go_ret;exact⟨Z,b⟩
 have m:arr ⟨f,g,c,i,j,k,l,a,r⟩=c:=by simp[arr,s]
 rw[m]
 go_enter func53,ntmps53
 go_wp2;go_ret;exact⟨Z,b⟩
def I1(ac ad b)(l m:Int)(n:Nat)(p q r s t:Int)(P)(u v:Int)(w:Nat)(x y z A B:Int)(Q F)(D G:Nat)(I)(E J:Nat)(ak:kz lL ac b (.slice F D G) P)(al:kz lL ad b (.slice I E J) Q)(am:∀e,ac e->e<b)(an:∀e,ad e->e<b)(ao:D<=9223372036854775807)(ap:E<=9223372036854775807):
  Calls prog 88 #[.agg<|mc l m n p q r s t F D G,.agg<|mc u v w x y z A B I E J] b (kG (.int .i64<|yI [So (l:Int) (u:Int),So (m:Int) (v:Int),So (n:Int) (w:Int),So (p:Int) (x:Int),So (q:Int) (y:Int),So (r:Int) (z:Int),So (s:Int) (A:Int),So (t:Int) (B:Int),cmpL P Q]) b):=by
 have ab:Below b b<|(b.alloc<|.cells (mc l m n p q r s t F D G) 38).alloc<|.cells (mc u v w x y z A B I E J) 38:=(Ba _ _).alloc Uo _;have M:((b.alloc<|.cells (mc l m n p q r s t F D G) 38).alloc<|.cells (mc u v w x y z A B I E J) 38).heap[b.heap.size]?=some (.cells (mc l m n p q r s t F D G) 38):=(Q5 _ _ Uo).T<|QQ _ _;have K:((b.alloc<|.cells (mc l m n p q r s t F D G) 38).alloc<|.cells (mc u v w x y z A B I E J) 38).heap[b.heap.size+1]?=some (.cells (mc u v w x y z A B I E J) 38):=by have:=QQ (b.alloc<|.cells (mc l m n p q r s t F D G) 38)<|.cells (mc u v w x y z A B I E J) 38;rw[QR]at this;exact this
 have aq:((b.alloc<|.cells (mc l m n p q r s t F D G) 38).alloc<|.cells (mc u v w x y z A B I E J) 38).heap.size=b+2:=Uo
 have ar:=ak;have au:=al;have af:=am;have ag:=an;have av:=ao;have aw:=ap
 go_enter func88,ntmps88
 go_upto_region 1 with fail;generalize(b.alloc<|.cells (mc l m n p q r s t F D G) 38).alloc (.cells (mc u v w x y z A B I E J) 38)=aa at*;have ah:∀e,ac e->e<aa:=λe C=>QO (af e C) ab.size;have ai:∀e,ad e->e<aa:=λe C=>QO (ag e C) ab.size;have⟨f,ax⟩:=Xq b.heap.size;have⟨i,ay⟩:=Xq<|f+1;rw[<-ax]at M K aq⊢;rw[<-ay]at K⊢;have R:f<aa:=Y
 have S:i<aa:=Y
 refine Ri (λaj=>Below aa aa aj) (mM [(·=.pointer f),(·=.int .i64 l),(·=.pointer i),(·=.int .i64 u),(·=.int .i64 (So (l:Int) (u:Int))),(·=.pointer (M1 f)),(·=.int .i64 m),(·=.pointer (M1 i)),(·=.int .i64 v),(·=.int .i64 (So (m:Int) (v:Int))),(·=.pointer (No f)),(·=.int .u8 (n:Nat)),(·=.pointer (No i)),(·=.int .u8 (w:Nat)),(·=.int .i64 (So (n:Int) (w:Int))),(·=.pointer (BE f)),(·=.int .i64 p),(·=.pointer (BE i)),(·=.int .i64 x),(·=.int .i64 (So (p:Int) (x:Int))),(·=.pointer (some ⟨f,4,none⟩)),(·=.int .i64 q),(·=.pointer (some ⟨i,4,none⟩)),(·=.int .i64 y),(·=.int .i64 (So (q:Int) (y:Int))),(·=.pointer (BT f)),(·=.int .i64 r),(·=.pointer (BT i)),(·=.int .i64 z),(·=.int .i64 (So (r:Int) (z:Int))),(·=.pointer (some ⟨f,6,none⟩)),(·=.int .i64 s),(·=.pointer (some ⟨i,6,none⟩)),(·=.int .i64 A),(·=.int .i64 (So (s:Int) (A:Int))),(·=.pointer (some ⟨f,7,none⟩)),(·=.int .i64 t),(·=.pointer (some ⟨i,7,none⟩)),(·=.int .i64 B),(·=.int .i64 (So (t:Int) (B:Int))),(·=.pointer (some ⟨f,8,none⟩)),(·=.slice F D G),(·=.pointer (some ⟨i,8,none⟩)),(·=.slice I E J),(·=.int .i64 (cmpL P Q)),Tr,(·=.int .i64 (yI [So (l:Int) (u:Int),So (m:Int) (v:Int),So (n:Int) (w:Int),So (p:Int) (x:Int),So (q:Int) (y:Int),So (r:Int) (z:Int),So (s:Int) (A:Int),So (t:Int) (B:Int),cmpL P Q])),(·=.int .i64 (yI [So (l:Int) (u:Int),So (m:Int) (v:Int),So (n:Int) (w:Int),So (p:Int) (x:Int),So (q:Int) (y:Int),So (r:Int) (z:Int),So (s:Int) (A:Int),So (t:Int) (B:Int),cmpL P Q]))]) [(45,λaz b=>∃(ae:Nat),az=.slice ae 9 9/\ae<b/\aa<=ae/\b.heap[ae]?=some (.cells #[.int .i64<|So (l:Int) (u:Int),.int .i64<|So (m:Int) (v:Int),.int .i64<|So (n:Int) (w:Int),.int .i64<|So (p:Int) (x:Int),.int .i64<|So (q:Int) (y:Int),.int .i64<|So (r:Int) (z:Int),.int .i64<|So (s:Int) (A:Int),.int .i64<|So (t:Int) (B:Int),.int .i64<|cmpL P Q] 3))] ((Sf _ _).drew) ⟨?_,?_,?_,?_,?_,?_,?_,?_,?_,?_,?_,?_,?_,?_,?_,?_,?_,?_,?_,?_,?_,?_,?_,?_,?_,?_,?_,?_,?_,?_,?_,?_,?_,?_,?_,?_,?_,?_,?_,?_,?_,?_,?_,?_,?_,?_,?_,?_,trivial⟩ ?_
 .exact .f 2
 .exact .l 5 0 λ_ a=>kA ((a.B f R).T M) 0 _ Z
 .exact .f 3
 .exact .l 7 2 λ_ a=>kA ((a.B i S).T K) 0 _ Z
 .intro N b a O c L d;have aK:=Sv 6 c 1;have aL:=Sv 8 c 3;refine .h λT j=>?_;go_simp;refine⟨Z,?_⟩;refine Calls.M (Tryz.cmp_Compare_int l u b) ?_;rintro U V ⟨k,d⟩;subst d;subst k;exact⟨_,Z,j ⟨Z,a,Qb<|Qe⟩⟩
 .exact .f 2
 .exact .l 10 5 λ_ a=>kA ((a.B f R).T M) 1 _ Z
 .exact .f 3
 .exact .l 12 7 λ_ a=>kA ((a.B i S).T K) 1 _ Z
 .intro N b a O c L d;have aM:=Sv 11 c 6;have aN:=Sv 13 c 8;refine .h λT j=>?_;go_simp;refine⟨Z,?_⟩;refine Calls.M (Tryz.cmp_Compare_int m v b) ?_;rintro U V ⟨k,d⟩;subst d;subst k;exact⟨_,Z,j ⟨Z,a,Qb<|Qe⟩⟩
 .exact .f 2
 .exact .l 15 10 λ_ a=>kA ((a.B f R).T M) 2 _ Z
 .exact .f 3
 .exact .l 17 12 λ_ a=>kA ((a.B i S).T K) 2 _ Z
 .intro N b a O c L d;have aO:=Sv 16 c 11;have aP:=Sv 18 c 13;refine .h λT j=>?_;go_simp;refine⟨Z,?_⟩;refine Calls.M (IZ n w b) ?_;rintro U V ⟨k,d⟩;subst d;subst k;exact⟨_,Z,j ⟨Z,a,Qb<|Qe⟩⟩
 .exact .f 2
 .exact .l 20 15 λ_ a=>kA ((a.B f R).T M) 3 _ Z
 .exact .f 3
 .exact .l 22 17 λ_ a=>kA ((a.B i S).T K) 3 _ Z
 .intro N b a O c L d;have aQ:=Sv 21 c 16;have aR:=Sv 23 c 18;refine .h λT j=>?_;go_simp;refine⟨Z,?_⟩;refine Calls.M (Tryz.cmp_Compare_int p x b) ?_;rintro U V ⟨k,d⟩;subst d;subst k;exact⟨_,Z,j ⟨Z,a,Qb<|Qe⟩⟩
 .exact .f 2
 .exact .l 25 20 λ_ a=>kA ((a.B f R).T M) 4 _ Z
 .exact .f 3
 .exact .l 27 22 λ_ a=>kA ((a.B i S).T K) 4 _ Z
 .intro N b a O c L d;have aS:=Sv 26 c 21;have aT:=Sv 28 c 23;refine .h λT j=>?_;go_simp;refine⟨Z,?_⟩;refine Calls.M (Tryz.cmp_Compare_int q y b) ?_;rintro U V ⟨k,d⟩;subst d;subst k;exact⟨_,Z,j ⟨Z,a,Qb<|Qe⟩⟩
 .exact .f 2
 .exact .l 30 25 λ_ a=>kA ((a.B f R).T M) 5 _ Z
 .exact .f 3
 .exact .l 32 27 λ_ a=>kA ((a.B i S).T K) 5 _ Z
 .intro N b a O c L d;have aU:=Sv 31 c 26;have aV:=Sv 33 c 28;refine .h λT j=>?_;go_simp;refine⟨Z,?_⟩;refine Calls.M (Tryz.cmp_Compare_int r z b) ?_;rintro U V ⟨k,d⟩;subst d;subst k;exact⟨_,Z,j ⟨Z,a,Qb<|Qe⟩⟩
 .exact .f 2
 .exact .l 35 30 λ_ a=>kA ((a.B f R).T M) 6 _ Z
 .exact .f 3
 .exact .l 37 32 λ_ a=>kA ((a.B i S).T K) 6 _ Z
 .intro N b a O c L d;have aW:=Sv 36 c 31;have aX:=Sv 38 c 33;refine .h λT j=>?_;go_simp;refine⟨Z,?_⟩;refine Calls.M (Tryz.cmp_Compare_int s A b) ?_;rintro U V ⟨k,d⟩;subst d;subst k;exact⟨_,Z,j ⟨Z,a,Qb<|Qe⟩⟩
 .exact .f 2
 .exact .l 40 35 λ_ a=>kA ((a.B f R).T M) 7 _ Z
 .exact .f 3
 .exact .l 42 37 λ_ a=>kA ((a.B i S).T K) 7 _ Z
 .intro N b a O c L d;have aY:=Sv 41 c 36;have aZ:=Sv 43 c 38;refine .h λT j=>?_;go_simp;refine⟨Z,?_⟩;refine Calls.M (vy t B b) ?_;rintro U V ⟨k,d⟩;subst d;subst k;exact⟨_,Z,j ⟨Z,a,Qb<|Qe⟩⟩
 .exact .f 2
 .exact .l 45 40 λ_ a=>kA ((a.B f R).T M) 8 _ Z
 .exact .f 3
 .exact .l 47 42 λ_ a=>kA ((a.B i S).T K) 8 _ Z
 .intro N b a O c L d;have ba:=Sv 46 c 41;have bb:=Sv 48 c 43;refine .h λT j=>?_;go_simp;refine⟨Z,?_⟩;refine Calls.M (I0 ac ad b F D G I E J P Q (ar.kv lL.ok λe C=>(a.B e<|ah e C).T<|ab.B e<|af e C) (au.kv lL.ok λe C=>(a.B e<|ai e C).T<|ab.B e<|ag e C) (λe C=>QO (ah e C) a.size) (λe C=>QO (ai e C) a.size) av aw) ?_;rintro U V ⟨k,d⟩;subst d;subst k;exact⟨_,Z,j ⟨Z,a,Qb<|Qe⟩⟩
 .intro N b a O c L d;have bc:=Sv 9 c 4;have bd:=Sv 14 c 9;have be:=Sv 19 c 14;have bf:=Sv 24 c 19;have bg:=Sv 29 c 24;have bh:=Sv 34 c 29;have bi:=Sv 39 c 34;have bj:=Sv 44 c 39;have bk:=Sv 49 c 44;have aA:=a.size;exact .q (g:=⟨trivial,a.alloc a.size _,Qc ⟨_,Z,Uo,aA,QQ _ _⟩<|Qe⟩)
 .intro N b a O c L d;obtain⟨aB,aC,aD,bl,aE⟩:=kW L 0;have bm:=Sl 50 aC;refine .h λT j=>?_;go_simp;refine⟨Z,?_⟩;refine Calls.M (Mv aB 9 [So (l:Int) (u:Int),So (m:Int) (v:Int),So (n:Int) (w:Int),So (p:Int) (x:Int),So (q:Int) (y:Int),So (r:Int) (z:Int),So (s:Int) (A:Int),So (t:Int) (B:Int),cmpL P Q] b Z Y (λbn aj aF=>KM aE aF) aD) ?_;rintro U V ⟨k,d⟩;subst d;subst k;exact⟨_,Z,j ⟨Z,a,Qb<|Qe⟩⟩
 .exact .v 51 46
 intro aG bo aH aI bp;have aJ:aG 47=.int .i64 (yI [So (l:Int) (u:Int),So (m:Int) (v:Int),So (n:Int) (w:Int),So (p:Int) (x:Int),So (q:Int) (y:Int),So (r:Int) (z:Int),So (s:Int) (A:Int),So (t:Int) (B:Int),cmpL P Q]):=aI 47 Un;simp only[nx,aJ];go_wp2;go_ret;exact⟨Z,ab.T<|aH.M ab.size⟩
def GI{U}(aW b)(n p:Int)(q:Nat)(j d r s t:Int)(aX)(k x:Nat)(f)(c:kz lL aW b (.slice aX k x) f)(ay:∀ai,aW ai->ai<b)(bK:1<=k)(bL:k<=4)(az:∀z∈f,yo U z)(aA:yo U d)(F:qc U b):
  Calls prog 59 #[.agg<|me n p q j d r s t aX k x] b (kG (tx<|qb ⟨n,p,q,j,d,r,s,t,f⟩) b):=by
 have aB:=c.len;obtain⟨u,aj⟩:∃z,f[0]?=some z:=Gx Y;obtain⟨e,v,br,rfl,aY,aZ,ba⟩:=c.ll lL.ok 0 u aj;have bs:br=[.int .i64 u]:=aZ;subst bs;have aC:=ba 0 _ Z;rw[S5,Q1]at aC;have aD:=az u<|QS aj;have bb:=ay e aY;have ak:=Ba b<|.cells #[.int .i64 n,p,.int .u8 (q:Nat),j,d,r,s,t,.slice (mw e v) k x] 38;have aE:=X ak;have aF:=X<|QQ b<|.cells #[.int .i64 n,p,.int .u8 (q:Nat),j,d,r,s,t,.slice (mw e v) k x] 38;have bt:=X<|(Cb e v<|ak.B e bb).T aC;have aG:=X<|F.ku ak;have bu:=X c;have bM:=X ay;have bv:=X az;have al:=X aj;have V:=X aB;have bN:=aB.2;clear ba aZ aY aj c ay az F ak aC aB
 go_enter func59,ntmps59
 go_upto_region 1 with fail;have bw:(b.alloc<|.cells #[.int .i64 n,p,.int .u8 (q:Nat),j,d,r,s,t,.slice (mw e v) k x] 38).heap.size=b+1:=Uo
 generalize b.alloc (.cells #[.int .i64 n,p,.int .u8 (q:Nat),j,d,r,s,t,.slice (mw e v) k x] 38)=aa at*;have⟨g,bc⟩:=Xq b.heap.size;rw[<-bc]at aF⊢;have ab:g<aa:=Y
 have bd:e<aa:=Y
 have ac:=X aF.o;have⟨G,I,J,K,L,M,N,O,P⟩:=kL aF.o;obtain⟨ad,aH⟩:∃ai:RK,ai=if j=1 then [102,101,116,99,104,32]else [115,116,111,114,101,32]:=⟨_,Z⟩
 have bO:ad.length<=6:=by rw[aH];split<;>simp
 have Q:=X aH;clear bc bw aH;(iterate 8 go_step);go_cut [3] (λbx bz=>bx=tx ad/\aa=bz)
 .by_cases hp:j=1
  .subst hp;go_wp21;go_meet;exact⟨by rw[Q.o,RB trivial],Z⟩
  go_wp21;go_meet;exact⟨by rw[Q.o,Rh hp],Z⟩
 obtain⟨rfl,rfl⟩:=hcut;have be:=X<|show∀i:RW,qc U i->Calls prog 25 #[.int .i64 d] i (kG (tx<|Lib.itoa d) i)from λi F=>vz d aA i F;have bf:=X<|show∀i:RW,qc U i->Calls prog 56 #[.int .i64 u,.int .i64 10] i (kG (tx<|Lib.itoa u) i)from λi F=>uE u aD i F;have⟨am,an⟩:=Xq<|Lib.itoa d;have⟨ao,ap⟩:=Xq<|Lib.itoa u;have bP:am.length<=21:=(by rw[an];exact RT d aA.1.1 aA.1.2);have bQ:ao.length<=21:=(by rw[ap];exact RT u aD.1.1 aD.1.2);rw[<-an]at be;rw[<-ap]at bf;have aq:=X an;have ar:=X ap;clear an ap G I J K L M N O P;go_upto_region 4 with fail;have⟨au,aI⟩:=Xq<|am++[58,32];have bR:au.length<=23:=(by rw[aI,Q3];first|omega|(simp only[Rl,Rp];omega));have ae:=X aI;clear aI;have⟨av,aJ⟩:=Xq<|au++ao;have bS:av.length<=44:=(by rw[aJ,Q3];first|omega|(simp only[Rl,Rp];omega));have af:=X aJ;clear aJ;have⟨l,aK⟩:=Xq<|ad++av;have bT:l.length<=50:=(by rw[aK,Q3];first|omega|(simp only[Rl,Rp];omega));have ag:=X aK;clear aK;refine Ri (λz=>Below aa aa z) (mM [(·=tx ad),(Pp g 4),(·=d),(·=tx am),(·=tx au),(Pp g 8),(·=.slice (mw e v) k x),(Pp e v),(·=u),(·=tx ao),(·=tx av),(·=tx l),(·=tx l)]) [] ((Sf _ _).drew) ⟨?_,?_,?_,?_,?_,?_,?_,?_,?_,?_,?_,?_,?_,trivial⟩ ?_;exact λ_ b a A c B y=>.p 3 (y 12 _ 3 Z Z Z) ⟨Z,a,Qa⟩;exact .f 1;exact .l 8 1 λ_ a=>kA ((a.B g ab).T ac.o) 4 _ Z;intro R b a A c B y;have bU:=Sv 9 c 2;refine .c (be.o b<|aG.o.ku a) ?_;rintro m i ⟨aL,aM⟩;subst aL;exact⟨_,Z,Z,a.T<|aM.M a.size,Qe⟩;intro R b a A c B y;have bV:=Sv 10 c 3;refine .h λaN C=>?_;go_simp;rw[Rh Y];exact C ⟨(by rw[ae.o];exact RH Value.string<|kY am<|[58,32]),a,Qe⟩;exact .f 1;exact .l 12 5 λ_ a=>kA ((a.B g ab).T ac.o) 8 _ Z;intro R b a A c B y;have bW:=Sv 13 c 6;refine .h λaN C=>?_;go_simp;rw[RB Y];exact C ⟨Z,a,Qe⟩;intro R b a A c B y;have bA:=(Cb e v<|a.B e bd).T bt.o;exact .l 14 (c 7 _ Z Z) bA ⟨Z,a,Qa⟩;intro R b a A c B y;have bX:=Sv 15 c 8;refine .c (bf.o b<|aG.o.ku a) ?_;rintro m i ⟨aL,aM⟩;subst aL;exact⟨_,Z,Z,a.T<|aM.M a.size,Qe⟩;intro R b a A c B y;have bY:=Sv 11 c 4;have bZ:=Sv 16 c 9;refine .h λaN C=>?_;go_simp;rw[Rh Y];exact C ⟨(by rw[af.o];exact RH Value.string<|kY au ao),a,Qe⟩;intro R b a A c B y;have ca:=Sv 7 c 0;have cb:=Sv 17 c 10;refine .h λaN C=>?_;go_simp;rw[Rh Y];exact C ⟨(by rw[ag.o];exact RH Value.string<|kY ad av),a,Qe⟩;exact .v 18 11;intro bB bg bh bi bC;have bj:bB 12=tx l:=bi 12 Un;have D:=X bh;clear bi bC bh;simp only[nx,bj];clear bj;have S:=X<|aE.o.T<|D.o.M aE.o.size;have cc:=D.o.size;have bk:=aG.o.ku D.o;have bl:g<bg:=Y;have⟨G,I,J,K,L,M,N,O,P⟩:=kL<|(D.o.B g ab).T ac.o;by_cases aO:k=2
 .subst aO;obtain⟨T,aw⟩:∃z,f[1]?=some z:=Gx<|W V.o.1;have⟨cd,ce,bD,aP,bE,bm,bn⟩:=bu.o.ll lL.ok 1 T aw;injection aP with aP;injection aP with bF bG;subst bF bG;have bH:bD=[.int .i64 T]:=bm;subst bH;have aQ:=bn 0 _ Z;rw[Nat.one_mul,Q1]at aQ;have bo:=(Cb e (v+1)<|((D.o.B e bd).T<|aE.o.B e bb)).T aQ;have aR:=bv.o T<|QS aw;have aS:=X<|uE T aR bg bk;have bI:=RT T aR.1.1 aR.1.2;have bp:=X aw;have cf:(2:Int)<=(x:Int):=Y;clear bm bn bE aw aQ bk;have⟨ax,aT⟩:=Xq<|Lib.itoa T;rw[<-aT]at aS bI;have bq:=X aT;clear aT;by_cases ah:r=1
  .subst ah;go_wp21;apply aS.o.M;rintro m aU ⟨rfl,w⟩;have aV:=X w;have bJ:g<aU:=W w.size;clear G I J K L M N O P bo;have⟨G,I,J,K,L,M,N,O,P⟩:=kL<|(w.B g bl).T<|(D.o.B g ab).T ac.o;clear w;go_wp21;go_ret;refine⟨?_,S.o.T<|aV.o.M S.o.size⟩;have m:=(show qb ⟨n,p,q,j,d,1,s,t,f⟩=(l++([32,61,32]++ax))++[32,102,97,105,108,115]by have E:f.length=2:=V.o.1;unfold qb;simp only[al.o,Sz,RB E,T4,bp.o];rw[<-Q.o,<-aq.o,<-ar.o,<-bq.o];simp only[ag.o,af.o,ae.o,Ru,Sb,R8])
   rw[m];show Ending.returned (.string<|(⟨l.toArray⟩:Se)++(⟨[32,61,32].toArray⟩++⟨ax.toArray⟩)++⟨[32,102,97,105,108,115].toArray⟩)=_;rw[kY,kY,kY]
  go_wp21;apply aS.o.M;rintro m aU ⟨rfl,w⟩;have aV:=X w;have bJ:g<aU:=W w.size;clear G I J K L M N O P bo;have⟨G,I,J,K,L,M,N,O,P⟩:=kL<|(w.B g bl).T<|(D.o.B g ab).T ac.o;clear w;go_wp21;go_ret;refine⟨?_,S.o.T<|aV.o.M S.o.size⟩;have m:=(show qb ⟨n,p,q,j,d,r,s,t,f⟩=l++([32,61,32]++ax)by have E:f.length=2:=V.o.1;unfold qb;simp only[al.o,Sz,RB E,Rh ah,bp.o];rw[<-Q.o,<-aq.o,<-ar.o,<-bq.o];simp only[ag.o,af.o,ae.o,Ru,Sb,R8])
  rw[m];show Ending.returned (.string<|(⟨l.toArray⟩:Se)++(⟨[32,61,32].toArray⟩++⟨ax.toArray⟩))=_;rw[kY,kY]
 have cg:¬(k:Int)=2:=Y;by_cases ah:r=1
 .subst ah;go_wp21;go_ret;refine⟨?_,S.o⟩;have m:=(show qb ⟨n,p,q,j,d,1,s,t,f⟩=l++[32,102,97,105,108,115]by have E:¬f.length=2:=(by rw[V.o.1];exact aO);unfold qb;simp only[al.o,Sz,Rh E,T4];rw[<-Q.o,<-aq.o,<-ar.o];simp only[ag.o,af.o,ae.o,Ru,Sb,R8])
  rw[m];show Ending.returned (.string<|(⟨l.toArray⟩:Se)++⟨[32,102,97,105,108,115].toArray⟩)=_;rw[kY]
 go_wp21;go_ret;refine⟨?_,S.o⟩;have m:=(show qb ⟨n,p,q,j,d,r,s,t,f⟩=l by have E:¬f.length=2:=(by rw[V.o.1];exact aO);unfold qb;simp only[al.o,Sz,Rh E,Rh ah];rw[<-Q.o,<-aq.o,<-ar.o];simp only[ag.o,af.o,ae.o,Ru,Sb,R8])
 rw[m];rfl
def mi.PR{e}(i:mi e):PQ<|kF e:=by
 refine⟨λf=>?_,λf=>?_,λf q=>?_⟩;unfold cN;split;refine xn (P:=λa=>a.length<=12) Uo (λa b=>?_) _;obtain⟨c,d,rfl⟩:=Sj.1 b;exact nK (i.kH c d).name;simp;unfold fN;split;refine xn (P:=λa=>a.length<=12) Uo (λa b=>?_) _;obtain⟨c,d,rfl⟩:=Sj.1 b;exact nK<|i.kQ c d;simp;unfold hN;split;refine xn (P:=λa=>a.length<=12) Uo (λa b=>?_) _;unfold hL at b;split at b;have g:a∈((lI e)[f.toNat]?.getD []):=b;cases hn:(lI e)[f.toNat]? with
 |none=>rw[hn]at g;simp at g
 |some l=>rw[hn]at g;obtain⟨c,d,rfl⟩:=Sj.1<|QS hn;have j:=i.kH c d;exact xP (P:=λa=>a.length<=12) Uo (λk m n p=>nK ((j.lJ k m).2 n p).name) a g
 simp at b;simp
def GJ{aO}(aP c)(y s:Int)(z:Nat)(e m u j k:Int)(F)(A l:Nat)(p)(K:Nat)(q)(aQ:nH c K q)(br:mi q)(d:kz lL aP c (.slice F A l) p)(ay:∀L,aP L->L<c)(aR:∀ao∈p,yo aO ao)(aS:yo aO m)(bs:yo aO k)(cf:fits (kF q) ⟨y,s,z,e,m,u,j,k,p⟩=true)(aC:qc aO c):
  Calls prog 24 #[.agg<|me y s z e m u j k F A l,.pointer K] c (kG (tx<|told (kF q) ⟨y,s,z,e,m,u,j,k,p⟩) c):=by
 have de:=X d;have df:=X ay;have aD:=X aR;have ap:=X d.len.1;have aE:=X br.PR;have cg:=X<|rP cf;have ch:=X<|show∀(a:RW) (l:Int),Below c c a->Calls prog 23 #[.pointer K,l] a (kG (tx<|cN (kF q) l) a)from λa l f=>vx K l q a<|aQ.ku f;have cQ:=X<|show∀(a:RW) (l:Int),Below c c a->Calls prog 44 #[.pointer K,l] a (kG (tx<|fN (kF q) l) a)from λa l f=>xM K l q a<|aQ.ku f;have ci:=X<|show∀(a:RW) (l j:Int),Below c c a->Calls prog 52 #[.pointer K,l,j] a (kG (.tuple #[tx<|hN (kF q) l j,.bool<|qs (kF q) l j]) a)from λa l j f=>mn K l j q a (aQ.ku f) br;have aF:=X<|show∀(a:RW) (aG:RK),A<=4->aG.length<=12->Below c c a->Calls prog 58 #[tx aG,.slice F A l] a (kG (tx<|oX aG p) a)from λa aG B dg f=>GH aP a aG F A l p (d.kv lL.ok λL aq=>f.B L<|ay L aq) (λL aq=>QO (ay L aq) f.size) B aR Y<|aC.ku f;have cR:=X<|show∀(a:RW),1<=A->A<=4->Below c c a->Calls prog 59 #[.agg<|me y s z e m u j k F A l] a (kG (tx<|qb ⟨y,s,z,e,m,u,j,k,p⟩) a)from λa cS B f=>GI aP a y s z e m u j k F A l p (d.kv lL.ok λL aq=>f.B L<|ay L aq) (λL aq=>QO (ay L aq) f.size) cS B aR aS<|aC.ku f;have cj:=X<|show∀a:RW,Below c c a->Calls prog 25 #[.int .i64 m] a (kG (tx<|Lib.itoa m) a)from λa f=>vz m aS a<|aC.ku f;have ck:=X<|show∀a:RW,Below c c a->Calls prog 56 #[.int .i64 k,.int .i64 10] a (kG (tx<|Lib.itoa k) a)from λa f=>uE k bs a<|aC.ku f;have cT:=RT m aS.1.1 aS.1.2;have cU:=RT k bs.1.1 bs.1.2;have cl:=Ba c<|.cells (me y s z e m u j k F A l) 38;have bt:=X cl;have bu:=X<|QQ c<|.cells (me y s z e m u j k F A l) 38;have⟨C,bv⟩:=Xq<|Lib.itoa m;have⟨aT,bw⟩:=Xq<|Lib.itoa k;rw[<-bv]at cj cT;rw[<-bw]at ck cU;have ag:=X bv;have az:=X bw;have⟨cV,aU⟩:=Xq<|arr ⟨y,s,z,e,m,u,j,k,p⟩;have ae:=X aU;rw[<-aU]at cg;have cW:=X (show∀a:RW,Calls prog 53 #[.agg<|me y s z e m u j k F A l] a (kG (.int .u8 (cV:Nat)) a)from λa=>by rw[aU];exact lW ⟨y,s,z,e,m,u,j,k,p⟩ F A l a);clear cl bv bw aU d ay aR aC aQ br cf
 go_enter func24,ntmps24
 go_upto_region 1 with fail;have cX:(c.alloc<|.cells (me y s z e m u j k F A l) 38).heap.size=c+1:=Uo
 generalize c.alloc (.cells (me y s z e m u j k F A l) 38)=cm at*;have⟨t,cn⟩:=Xq c.heap.size;rw[<-cn]at bu⊢;have ar:t<cm:=Y
 have ak:=X bu.o;clear cn cX bu;have⟨O,P,Q,R,S,T,U,V,aa⟩:=kL ak.o;go_wp21;apply(cj.o cm bt.o).M;rintro M co ⟨rfl,bx⟩;have aV:=X bx;have bz:=X<|bt.o.T<|bx.M bt.o.size;clear O P Q R S T U V aa;clear bx;have⟨O,P,Q,R,S,T,U,V,aa⟩:=kL<|(aV.o.B t ar).T ak.o;have dh:t<co:=W aV.o.size
 go_wp21;apply(ck.o co bz.o).M;rintro M cp ⟨rfl,bA⟩;have aW:=X<|aV.o.T<|bA.M aV.o.size;have bB:=X<|bz.o.T<|bA.M bz.o.size;clear O P Q R S T U V aa;clear bA;have⟨O,P,Q,R,S,T,U,V,aa⟩:=kL<|(aW.o.B t ar).T ak.o;have di:t<cp:=W aW.o.size
 go_wp21;apply(ci.o cp s j bB.o).M;rintro M cq ⟨rfl,bC⟩;have aX:=X<|aW.o.T<|bC.M aW.o.size;have cr:=X<|bB.o.T<|bC.M bB.o.size;clear O P Q R S T U V aa;clear bC;have ah:=aE.o.h s j;have⟨N,bD⟩:=Xq<|hN (kF q) s j;rw[<-bD]at ah⊢;have au:=X bD;clear bD;have⟨O,P,Q,R,S,T,U,V,aa⟩:=kL<|(aX.o.B t ar).T ak.o;have dj:t<cq:=W aX.o.size
 go_wp21;apply(cW.o cq).M;rintro M ab ⟨rfl,bE⟩;have aA:=X<|aX.o.T<|bE.M aX.o.size;have n:=X<|cr.o.T<|bE.M cr.o.size;clear O P Q R S T U V aa;clear bE;have⟨O,P,Q,R,S,T,U,V,aa⟩:=kL<|(aA.o.B t ar).T ak.o;have aY:t<ab:=W aA.o.size
 rcases cg.o with rfl|rfl|rfl|⟨rfl,B⟩|⟨rfl,B⟩|⟨rfl,B⟩|⟨rfl,B⟩|⟨rfl,B⟩|⟨rfl,B⟩|rfl
 .have cs:=X<|show∀a:RW,Below c c a->Calls prog 44 #[.pointer K,e] a (kG (tx<|fN (kF q) e) a)from λa f=>cQ.o a e f;have cY:=aE.o.f e;have⟨bF,bG⟩:=Xq<|fN (kF q) e;rw[<-bG]at cY cs;have cZ:=X bG;have⟨aZ,bH⟩:=Xq<|Lib.formatBool<|k==1;have dk:aZ.length<=5:=(by rw[bH];cases(k==1)<;>decide);have ct:=X bH;clear bG bH;have aH:=X<|(aA.o.B t ar).T ak.o;clear O P Q R S T U V aa;go_upto_region 6 with fail;have⟨ba,bI⟩:=Xq<|[102,108,97,103,32]++bF;have dl:ba.length<=17:=(by rw[bI,Q3];first|omega|(simp only[Rl,Rp];omega));have cu:=X bI;clear bI;have⟨bb,bJ⟩:=Xq<|ba++[32,61,32];have dm:bb.length<=20:=(by rw[bJ,Q3];first|omega|(simp only[Rl,Rp];omega));have cv:=X bJ;clear bJ;have⟨bc,bK⟩:=Xq<|bb++aZ;have dn:bc.length<=25:=(by rw[bK,Q3];first|omega|(simp only[Rl,Rp];omega));have cw:=X bK;clear bK;have⟨bd,bL⟩:=Xq<|bc++[32,40,99,104,111,105,99,101,32];have dp:bd.length<=34:=(by rw[bL,Q3];first|omega|(simp only[Rl,Rp];omega));have cx:=X bL;clear bL;have⟨be,bM⟩:=Xq<|bd++C;have dq:be.length<=55:=(by rw[bM,Q3];first|omega|(simp only[Rl,Rp];omega));have cy:=X bM;clear bM;have⟨bf,bN⟩:=Xq<|be++[41];have dr:bf.length<=56:=(by rw[bN,Q3];first|omega|(simp only[Rl,Rp];omega));have cz:=X bN;clear bN;refine Ri (λao=>Below ab ab ao) (mM [(·=.pointer K),(Pp t 3),(·=e),(·=tx bF),(·=tx ba),(·=tx bb),(Pp t 7),(·=k),(·=.bool (k==1)),(·=tx aZ),(·=tx bc),(·=tx bd),(·=tx C),(·=tx be),(·=tx bf),(·=tx bf)]) [] ((Sf _ _).drew) ⟨?_,?_,?_,?_,?_,?_,?_,?_,?_,?_,?_,?_,?_,?_,?_,?_,trivial⟩ ?_;exact .f 1;exact .f 2;exact .l 30 1 λ_ b=>kA ((b.B t aY).T aH.o) 3 _ Z;intro x c b v d w r;have ds:=Sv 29 d 0;have dt:=Sv 31 d 2;refine .c (cs.o c<|n.o.T<|b.M n.o.size) ?_;rintro M a ⟨ac,f⟩;subst ac;exact⟨_,Z,Z,b.T<|f.M b.size,Qe⟩;intro x c b v d w r;have du:=Sv 32 d 3;refine .h λE i=>?_;go_simp;rw[Rh Y];exact i ⟨(by rw[cu.o];exact RH Value.string<|kY ([102,108,97,103,32]) bF),b,Qe⟩;intro x c b v d w r;have dv:=Sv 33 d 4;refine .h λE i=>?_;go_simp;rw[Rh Y];exact i ⟨(by rw[cv.o];exact RH Value.string<|kY ba<|[32,61,32]),b,Qe⟩;exact .f 2;exact .l 35 6 λ_ b=>kA ((b.B t aY).T aH.o) 7 _ Z;intro x c b v d w r;have dw:=Sv 36 d 7;exact .q (g:=⟨Z,b,Qa⟩);intro x c b v d w r;have dx:=Sv 37 d 8;clear v d w r;refine .h λE i=>?_;go_simp;refine⟨Z,?_⟩;refine Calls.M (Tryz.strconv_FormatBool (k==1) c) ?_;rintro M a ⟨ac,r⟩;subst r;subst ac;rw[<-ct.o];exact⟨_,Z,i ⟨Z,b,Qe⟩⟩;intro x c b v d w r;have dy:=Sv 34 d 5;have dz:=Sv 38 d 9;refine .h λE i=>?_;go_simp;rw[Rh Y];exact i ⟨(by rw[cw.o];exact RH Value.string<|kY bb aZ),b,Qe⟩;intro x c b v d w r;have dA:=Sv 39 d 10;refine .h λE i=>?_;go_simp;rw[Rh Y];exact i ⟨(by rw[cx.o];exact RH Value.string<|kY bc<|[32,40,99,104,111,105,99,101,32]),b,Qe⟩;exact .f 5;intro x c b v d w r;have dB:=Sv 40 d 11;have dC:=Sv 41 d 12;refine .h λE i=>?_;go_simp;rw[Rh Y];exact i ⟨(by rw[cy.o];exact RH Value.string<|kY bd C),b,Qe⟩;intro x c b v d w r;have dD:=Sv 42 d 13;refine .h λE i=>?_;go_simp;rw[Rh Y];exact i ⟨(by rw[cz.o];exact RH Value.string<|kY be<|[41]),b,Qe⟩;exact .v 43 14;intro aI cA al am aJ;have an:aI 15=tx bf:=am 15 Un;have aK:=X al;clear am aJ al;simp only[nx,an];clear an;go_wp21;go_ret;refine⟨?_,n.o.T<|aK.o.M n.o.size⟩;exact RH Ending.returned (HL<|by unfold told;rw[<-ae.o];simp only[cz.o,cy.o,cx.o,cw.o,cv.o,cu.o,ct.o,cZ.o,ag.o,NQ,Ru])
 .go_wp2_with fail;go_ret;refine⟨?_,n.o⟩;have ad:told (kF q) ⟨y,s,z,e,m,u,j,k,p⟩=[100,101,112,108,111,121,32,118,101,114,115,105,111,110,32]++(aT++([32,40,99,104,111,105,99,101,32]++(C++[41]))):=(by unfold told;rw[<-ae.o];simp only[<-au.o,<-ag.o,<-az.o]);rw[ad];show Ending.returned (.string<|(⟨[100,101,112,108,111,121,32,118,101,114,115,105,111,110,32].toArray⟩:Se)++⟨aT.toArray⟩++⟨[32,40,99,104,111,105,99,101,32].toArray⟩++⟨C.toArray⟩++⟨[41].toArray⟩)=_;rw[kY,kY,kY,kY];simp only[Ru]
 .go_wp2_with fail;go_ret;refine⟨?_,n.o⟩;have ad:told (kF q) ⟨y,s,z,e,m,u,j,k,p⟩=[99,114,97,115,104,32,40,99,104,111,105,99,101,32]++(C++[41]):=(by unfold told;rw[<-ae.o];simp only[<-au.o,<-ag.o,<-az.o]);rw[ad];show Ending.returned (.string<|(⟨[99,114,97,115,104,32,40,99,104,111,105,99,101,32].toArray⟩:Se)++⟨C.toArray⟩++⟨[41].toArray⟩)=_;rw[kY,kY];simp only[Ru]
 .have G:=X<|aF.o ab N (by rw[<-ap.o];exact B) ah n.o;have ai:=pS ah B<|yo.all aD.o;have⟨I,D⟩:=Xq<|oX N p;rw[<-D]at G ai;have aj:=X D;clear D;go_wp21;apply G.o.M;rintro M av ⟨rfl,J⟩;have af:=X J;clear J;go_wp21;go_ret;refine⟨?_,n.o.T<|af.o.M n.o.size⟩;have ad:told (kF q) ⟨y,s,z,e,m,u,j,k,p⟩=[114,101,113,117,101,115,116,32]++(C++([32]++I)):=(by unfold told;rw[<-ae.o];simp only[<-au.o,<-ag.o,<-az.o,<-aj.o]);rw[ad];show Ending.returned (.string<|(⟨[114,101,113,117,101,115,116,32].toArray⟩:Se)++⟨C.toArray⟩++⟨[32].toArray⟩++⟨I.toArray⟩)=_;rw[kY,kY,kY];simp only[Ru]
 .have aL:=X<|show∀a:RW,Below c c a->Calls prog 23 #[.pointer K,e] a (kG (tx<|cN (kF q) e) a)from λa f=>ch.o a e f;have bO:=aE.o.c e;have⟨aw,ax⟩:=Xq<|cN (kF q) e;rw[<-ax]at bO aL;have bP:=X ax;clear ax;have G:=X<|show∀a:RW,Below c c a->Calls prog 58 #[tx N,.slice F A l] a (kG (tx<|oX N p) a)from λa f=>aF.o a N (by rw[<-ap.o];exact B) ah f;have ai:=pS ah B<|yo.all aD.o;have⟨I,D⟩:=Xq<|oX N p;rw[<-D]at G ai;have aj:=X D;clear D;obtain⟨aM,bQ⟩:∃L:RK,L=if u=1 then [97,103,97,105,110,32]else []:=⟨_,Z⟩
  have dE:aM.length<=6:=(by rw[bQ];split<;>simp);have bR:=X bQ;clear bQ;have aH:=X<|(aA.o.B t ar).T ak.o;go_upto_region 14 with fail;(iterate 8 go_step);go_cut [9] (λda db=>da=tx aM/\ab=db)
  .by_cases PS:u=1
   .subst PS;go_wp21;go_meet;exact⟨by rw[bR.o,RB trivial],Z⟩
   go_wp21;go_meet;exact⟨by rw[bR.o,Rh PS],Z⟩
  obtain⟨rfl,rfl⟩:=hcut;clear O P Q R S T U V aa;go_upto_region 17 with fail;have⟨bg,bS⟩:=Xq<|[109,101,115,115,97,103,101,32]++C;have dF:bg.length<=29:=(by rw[bS,Q3];first|omega|(simp only[Rl,Rp];omega));have cB:=X bS;clear bS;have⟨bh,bT⟩:=Xq<|bg++[32,102,114,111,109,32];have dG:bh.length<=35:=(by rw[bT,Q3];first|omega|(simp only[Rl,Rp];omega));have cC:=X bT;clear bT;have⟨bi,bU⟩:=Xq<|bh++aw;have dH:bi.length<=47:=(by rw[bU,Q3];first|omega|(simp only[Rl,Rp];omega));have cD:=X bU;clear bU;have⟨bj,bV⟩:=Xq<|bi++[32];have dI:bj.length<=48:=(by rw[bV,Q3];first|omega|(simp only[Rl,Rp];omega));have cE:=X bV;clear bV;have⟨bk,bW⟩:=Xq<|bj++aM;have dJ:bk.length<=54:=(by rw[bW,Q3];first|omega|(simp only[Rl,Rp];omega));have cF:=X bW;clear bW;have⟨bl,bX⟩:=Xq<|bk++I;have dK:bl.length<=164:=(by rw[bX,Q3];first|omega|(simp only[Rl,Rp];omega));have cG:=X bX;clear bX;refine Ri (λao=>Below ab ab ao) (mM [(·=tx C),(·=tx bg),(·=tx bh),(·=.pointer K),(Pp t 3),(·=e),(·=tx aw),(·=tx bi),(·=tx bj),(·=tx aM),(·=tx bk),(·=tx N),(Pp t 8),(·=.slice F A l),(·=tx I),(·=tx bl),(·=tx bl)]) [] ((Sf _ _).drew) ⟨?_,?_,?_,?_,?_,?_,?_,?_,?_,?_,?_,?_,?_,?_,?_,?_,?_,trivial⟩ ?_;exact .f 5;intro x c b v d w r;have dL:=Sv 72 d 0;refine .h λE i=>?_;go_simp;rw[Rh Y];exact i ⟨(by rw[cB.o];exact RH Value.string<|kY ([109,101,115,115,97,103,101,32]) C),b,Qe⟩;intro x c b v d w r;have dM:=Sv 73 d 1;refine .h λE i=>?_;go_simp;rw[Rh Y];exact i ⟨(by rw[cC.o];exact RH Value.string<|kY bg<|[32,102,114,111,109,32]),b,Qe⟩;exact .f 1;exact .f 2;exact .l 76 4 λ_ b=>kA ((b.B t aY).T aH.o) 3 _ Z;intro x c b v d w r;have dN:=Sv 75 d 3;have dO:=Sv 77 d 5;refine .c (aL.o c<|n.o.T<|b.M n.o.size) ?_;rintro M a ⟨ac,f⟩;subst ac;exact⟨_,Z,Z,b.T<|f.M b.size,Qe⟩;intro x c b v d w r;have dP:=Sv 74 d 2;have dQ:=Sv 78 d 6;refine .h λE i=>?_;go_simp;rw[Rh Y];exact i ⟨(by rw[cD.o];exact RH Value.string<|kY bh aw),b,Qe⟩;intro x c b v d w r;have dR:=Sv 79 d 7;refine .h λE i=>?_;go_simp;rw[Rh Y];exact i ⟨(by rw[cE.o];exact RH Value.string<|kY bi<|[32]),b,Qe⟩;exact .f 9;intro x c b v d w r;have dS:=Sv 80 d 8;have dT:=Sv 81 d 9;refine .h λE i=>?_;go_simp;rw[Rh Y];exact i ⟨(by rw[cF.o];exact RH Value.string<|kY bj aM),b,Qe⟩;exact .f 7;exact .f 2;exact .l 84 12 λ_ b=>kA ((b.B t aY).T aH.o) 8 _ Z;intro x c b v d w r;have dU:=Sv 83 d 11;have dV:=Sv 85 d 13;refine .c (G.o c<|n.o.T<|b.M n.o.size) ?_;rintro M a ⟨ac,f⟩;subst ac;exact⟨_,Z,Z,b.T<|f.M b.size,Qe⟩;intro x c b v d w r;have dW:=Sv 82 d 10;have dX:=Sv 86 d 14;refine .h λE i=>?_;go_simp;rw[Rh Y];exact i ⟨(by rw[cG.o];exact RH Value.string<|kY bk I),b,Qe⟩;exact .v 87 15;intro aI cA al am aJ;have an:aI 16=tx bl:=am 16 Un;have aK:=X al;clear am aJ al;simp only[nx,an];clear an;go_wp21;go_ret;refine⟨?_,n.o.T<|aK.o.M n.o.size⟩;exact RH Ending.returned (HL<|by unfold told;rw[<-ae.o];simp only[cG.o,cF.o,cE.o,cD.o,cC.o,cB.o,bR.o,aj.o,bP.o,au.o,ag.o,Ru])
 .have G:=X<|aF.o ab N (by rw[<-ap.o];exact B) ah n.o;have ai:=pS ah B<|yo.all aD.o;have⟨I,D⟩:=Xq<|oX N p;rw[<-D]at G ai;have aj:=X D;clear D;go_wp21;apply G.o.M;rintro M av ⟨rfl,J⟩;have af:=X J;clear J;go_wp21;go_ret;refine⟨?_,n.o.T<|af.o.M n.o.size⟩;have ad:told (kF q) ⟨y,s,z,e,m,u,j,k,p⟩=[116,105,109,101,114,32]++(C++([32]++I)):=(by unfold told;rw[<-ae.o];simp only[<-au.o,<-ag.o,<-az.o,<-aj.o]);rw[ad];show Ending.returned (.string<|(⟨[116,105,109,101,114,32].toArray⟩:Se)++⟨C.toArray⟩++⟨[32].toArray⟩++⟨I.toArray⟩)=_;rw[kY,kY,kY];simp only[Ru]
 .have aL:=X<|show∀a:RW,Below c c a->Calls prog 23 #[.pointer K,e] a (kG (tx<|cN (kF q) e) a)from λa f=>ch.o a e f;have bO:=aE.o.c e;have⟨aw,ax⟩:=Xq<|cN (kF q) e;rw[<-ax]at bO aL;have bP:=X ax;clear ax;go_wp21;apply(ci.o ab e j n.o).M;rintro M av ⟨rfl,J⟩;have af:=X<|aA.o.T<|J.M aA.o.size;have aB:=X<|n.o.T<|J.M n.o.size;clear O P Q R S T U V aa;clear J;have cH:t<av:=W af.o.size;have cI:=X<|(af.o.B t ar).T ak.o;have bY:=aE.o.h e j;have⟨aN,bZ⟩:=Xq<|hN (kF q) e j;rw[<-bZ]at bY⊢;have dc:=X bZ;clear bZ;have G:=X<|show∀a:RW,Below c c a->Calls prog 58 #[tx aN,.slice F A l] a (kG (tx<|oX aN p) a)from λa f=>aF.o a aN (by rw[<-ap.o];exact B) bY f;have ai:=pS bY B<|yo.all aD.o;have⟨I,D⟩:=Xq<|oX aN p;rw[<-D]at G ai;have aj:=X D;clear D;go_upto_region 22 with fail;have⟨bm,ca⟩:=Xq<|[115,101,110,100,115,32,109,101,115,115,97,103,101,32]++C;have dY:bm.length<=35:=(by rw[ca,Q3];first|omega|(simp only[Rl,Rp];omega));have cJ:=X ca;clear ca;have⟨bn,cb⟩:=Xq<|bm++[32,116,111,32];have dZ:bn.length<=39:=(by rw[cb,Q3];first|omega|(simp only[Rl,Rp];omega));have cK:=X cb;clear cb;have⟨bo,cc⟩:=Xq<|bn++aw;have ea:bo.length<=51:=(by rw[cc,Q3];first|omega|(simp only[Rl,Rp];omega));have cL:=X cc;clear cc;have⟨bp,cd⟩:=Xq<|bo++[32];have eb:bp.length<=52:=(by rw[cd,Q3];first|omega|(simp only[Rl,Rp];omega));have cM:=X cd;clear cd;have⟨bq,ce⟩:=Xq<|bp++I;have ec:bq.length<=162:=(by rw[ce,Q3];first|omega|(simp only[Rl,Rp];omega));have cO:=X ce;clear ce;refine Ri (λao=>Below av av ao) (mM [(·=tx C),(·=tx bm),(·=tx bn),(·=.pointer K),(Pp t 3),(·=e),(·=tx aw),(·=tx bo),(·=tx bp),(·=tx aN),(Pp t 8),(·=.slice F A l),(·=tx I),(·=tx bq),(·=tx bq)]) [] ((Sf _ _).drew) ⟨?_,?_,?_,?_,?_,?_,?_,?_,?_,?_,?_,?_,?_,?_,?_,trivial⟩ ?_;exact .f 5;intro x c b v d w r;have ed:=Sv 109 d 0;refine .h λE i=>?_;go_simp;rw[Rh Y];exact i ⟨(by rw[cJ.o];exact RH Value.string<|kY ([115,101,110,100,115,32,109,101,115,115,97,103,101,32]) C),b,Qe⟩;intro x c b v d w r;have ee:=Sv 110 d 1;refine .h λE i=>?_;go_simp;rw[Rh Y];exact i ⟨(by rw[cK.o];exact RH Value.string<|kY bm<|[32,116,111,32]),b,Qe⟩;exact .f 1;exact .f 2;exact .l 113 4 λ_ b=>kA ((b.B t cH).T cI.o) 3 _ Z;intro x c b v d w r;have ef:=Sv 112 d 3;have eg:=Sv 114 d 5;refine .c (aL.o c<|aB.o.T<|b.M aB.o.size) ?_;rintro M a ⟨ac,f⟩;subst ac;exact⟨_,Z,Z,b.T<|f.M b.size,Qe⟩;intro x c b v d w r;have eh:=Sv 111 d 2;have ei:=Sv 115 d 6;refine .h λE i=>?_;go_simp;rw[Rh Y];exact i ⟨(by rw[cL.o];exact RH Value.string<|kY bn aw),b,Qe⟩;intro x c b v d w r;have ej:=Sv 116 d 7;refine .h λE i=>?_;go_simp;rw[Rh Y];exact i ⟨(by rw[cM.o];exact RH Value.string<|kY bo<|[32]),b,Qe⟩;exact .f 7;exact .f 2;exact .l 119 10 λ_ b=>kA ((b.B t cH).T cI.o) 8 _ Z;intro x c b v d w r;have ek:=Sv 118 d 9;have el:=Sv 120 d 11;refine .c (G.o c<|aB.o.T<|b.M aB.o.size) ?_;rintro M a ⟨ac,f⟩;subst ac;exact⟨_,Z,Z,b.T<|f.M b.size,Qe⟩;intro x c b v d w r;have em:=Sv 117 d 8;have en:=Sv 121 d 12;refine .h λE i=>?_;go_simp;rw[Rh Y];exact i ⟨(by rw[cO.o];exact RH Value.string<|kY bp I),b,Qe⟩;exact .v 122 13;intro aI cA al am aJ;have an:aI 14=tx bq:=am 14 Un;have aK:=X al;clear am aJ al;simp only[nx,an];clear an;go_wp21;go_ret;refine⟨?_,aB.o.T<|aK.o.M aB.o.size⟩;exact RH Ending.returned (HL<|by unfold told;rw[<-ae.o];simp only[cO.o,cM.o,cL.o,cK.o,cJ.o,aj.o,bP.o,dc.o,ag.o,Ru])
 .have G:=X<|aF.o ab N (by rw[<-ap.o];exact B) ah n.o;have ai:=pS ah B<|yo.all aD.o;have⟨I,D⟩:=Xq<|oX N p;rw[<-D]at G ai;have aj:=X D;clear D;go_wp21;apply G.o.M;rintro M av ⟨rfl,J⟩;have af:=X J;clear J;go_wp21;go_ret;refine⟨?_,n.o.T<|af.o.M n.o.size⟩;have ad:told (kF q) ⟨y,s,z,e,m,u,j,k,p⟩=[115,101,116,115,32,116,105,109,101,114,32]++(C++([32]++(I++([32,100,117,101,32,97,116,32,116]++aT)))):=(by unfold told;rw[<-ae.o];simp only[<-au.o,<-ag.o,<-az.o,<-aj.o]);rw[ad];show Ending.returned (.string<|(⟨[115,101,116,115,32,116,105,109,101,114,32].toArray⟩:Se)++⟨C.toArray⟩++⟨[32].toArray⟩++⟨I.toArray⟩++⟨[32,100,117,101,32,97,116,32,116].toArray⟩++⟨aT.toArray⟩)=_;rw[kY,kY,kY,kY,kY];simp only[Ru]
 .have G:=X<|cR.o ab (by rw[<-ap.o];omega) (by rw[<-ap.o];omega) n.o;have cP:told (kF q) ⟨y,s,z,e,m,u,j,k,p⟩=qb ⟨y,s,z,e,m,u,j,k,p⟩:=(by unfold told;rw[<-ae.o];rfl);have dd:=X cP;clear cP;generalize qb ⟨y,s,z,e,m,u,j,k,p⟩=eo at*;go_wp21;apply G.o.M;rintro M av ⟨rfl,J⟩;have af:=X J;clear J;go_wp21;go_ret;exact⟨by rw[dd.o];rfl,n.o.T<|af.o.M n.o.size⟩
 .go_wp2_with fail;go_ret;refine⟨?_,n.o⟩;have ad:told (kF q) ⟨y,s,z,e,m,u,j,k,p⟩=[102,97,117,108,116,32,105,110,32]++N:=(by unfold told;rw[<-ae.o];simp only[<-au.o,<-ag.o,<-az.o]);rw[ad];show Ending.returned (.string<|(⟨[102,97,117,108,116,32,105,110,32].toArray⟩:Se)++⟨N.toArray⟩)=_;rw[kY]
def I3{d:Nm}{a:Ev}(c:PQ d)(k:fits d a=true)(e:oP a.n)(g:oP a.d)(i:∀l∈a.args,oP l):(told d a).length<=300:=by
 have p:=RT a.n e.1 e.2;have q:=RT a.d g.1 g.2;have r:=c.f a.peer;have s:=c.c a.peer;have m:=c.h a.comp a.hd;have n:=c.h a.peer a.hd;have t:=GK e i;have j:∀f:RK,f.length<=12->a.args.length<=4->(oX f a.args).length<=110:=λf h b=>pS h b i;rcases rP k with h|h|h|⟨h,b⟩|⟨h,b⟩|⟨h,b⟩|⟨h,b⟩|⟨h,b⟩|⟨h,b⟩|h;all_goals
  unfold told;rw[h];try have u:=j _ m b
  try have v:=j _ n b
  simp only[Q3,Rl,Rp];first|omega|(split<;>simp only[Q3,Rl,Rp]<;>omega)
def qR.wU(T:lj)(c:Nat):Option<|Fg×Nat:=do
 let (a,c)<-wh T c
 let c<-tu T [61] c
 let (b,c)<-wY T c
 let c<-tu T [59] c
 some (⟨a,b⟩,c)
def zC{b:lj}{i j:Nat}{k}(a:wU b i=some (k,j)):∃c d e f g,wh b i=some (c,d)/\tu b [61] d=some e/\wY b e=some (f,g)/\tu b [59] g=some j/\k=⟨c,f⟩:=by unfold wU at a;have⟨⟨c,d⟩,l,a⟩:=bind_some a;have⟨e,m,a⟩:=bind_some a;have⟨⟨f,g⟩,n,a⟩:=bind_some a;have⟨s,p,a⟩:=bind_some a;injection a with a;injection a with q r;subst q r;exact⟨c,d,e,f,g,l,m,n,p,Z⟩
def vC{T:lj}{pb pos q bp k:Nat}{j:Type}(l:Nat->Option (j×Nat))(m)(x:m≠[])(n:List j)(J:py T m l k pos=some (n,q))(p:FuncId)(ab:∀(y:Array R0) (b:RW),Sem.run prog (callFunc p y) b=.ok (.enter p y) b)(e:List j->Nat->RW->Prop)
  (z:∀c a b,e c a b->b.cell? bp=some (.pointer pb)/\∃V',mh T V' b pb a/\∀d w',lN T V' b pb d w'->e c d w')
  (A:∀a d f,l a=some (f,d)->a<d)
  (K:∀c a d f b,l a=some (f,d)->e c a b->c.length<=20000->Calls prog p #[.pointer pb] b λg w'=>(∃s,g=.returned s)/\e (c++[f]) d w')
  (b:RW) (B:e [] pos b):
  Calls prog 93 #[tx m,.func (.func p) #[.pointer pb] #[],.pointer bp] b λg w'=>(∃s,g=.returned s)/\e n q w':=by
 have r:=(RC z<|RC A K)
 have L:=B;have M:=J;have⟨_,ac,N,_⟩:=z _ _ _ B;have ad:=N.small
 go_enter func93,ntmps93
 go_wp21
 go_loopg [] (T.length-pos) (λO wr=>∃(c t:List j) (a k:Nat),c++t=n/\py T m l k a=some (t,q)/\c.length<=a/\a+O=T.length/\e c a wr)
 .exact⟨[],n,pos,_,Z,M,QZ _,Y,L⟩
 have⟨c,t,a,ae,i,P,af,ag,Q⟩:=hrel;have⟨ah,V',R,C⟩:=r.1 _ _ _ Q;have D:=(lN.refl R)
 rcases zA P with⟨u,rfl,rfl⟩|⟨u,f,d,S,U,E,rfl,V⟩
 .go_wp21;apply(mF D _ x u).M;rintro g F ⟨rfl,v⟩;have w:=(C _ _ v)
  go_wp21
  go_end0
  have i:=i;rw[Sb]at i;subst i;exact⟨⟨_,Z⟩,w⟩
 have G:=(RC E V)
 have A:=r.2.1 _ _ _ E;go_wp21;apply(sF D _ x u).M;rintro g F ⟨rfl,v⟩;have w:=(C _ _ v)
 go_wp21;apply(r.2.2 c _ _ f F G.1 w Y).M;rintro g ai ⟨⟨aj,rfl⟩,I⟩;have⟨_,ak,aa,_⟩:=r.1 _ _ _ I;have al:=aa.small;go_wp21
 go_roundg (T.length-d)
 case measure=>omega
 case rel=>exact⟨c++[f],S,d,U,by rw[Ru];exact i,G.2,by rw[Q3];simp;omega,Y,I⟩
def qR.Jc{T:lj}{d q:Nat}{e:lH.Fg}(f:wU T d=some (e,q)):d<q:=by have⟨i,j,k,l,m,g,b,a,c,_⟩:=Go.Proofs.YtbdipimmpgijaaaGreatDoor.zC f;have:=rL g;unfold tu at b c;unfold wY at a;split at b;injection b;split at c;injection c;split at a;injection a with a;injection a;omega;split at a;injection a with a;injection a;omega;cases a;cases c;cases b
def MQ:line (kF tree) ⟨4,1,5,0,0,0,0,0,[1,7]⟩=HM:=Up
def MR:line (kF tree) ⟨4,2,1,0,0,0,0,1,[]⟩=EY:=Up
def pB.lt{w:RW}{a b:Nat}{c:Se}{d:Bool}(e:pB w a b c d):a<w:=(QP.1 e).1
def pB.kv{w w':RW}{a b:Nat}{l:Se}{c:Bool}(d:pB w a b l c)(e:Below w w w'):pB w' a b l c:=(e.B a d.lt).T d
structure nY(w:RW)(rb fb n:Nat)(fl:Bool)(w':RW)(l':Se)(Ng:Bool):Prop where
 is:pB w' rb fb l' Ng
 gr:w.grownBy w'<|some rb
 le:l'.size<=n
 mo:fl=true->Ng=true
def nY.refl{w:RW}{c d:Nat}{a:Se}{b:Bool}(e:pB w c d a b):nY w c d a.size b w a b:=⟨e,World.grownBy.refl _ _,QX _,id⟩
def nY.T{w w' d:RW}{a b n:Nat}{e f g:Bool}{i j:Se}(c:nY w a b n e w' i f)(k:nY w' a b i.size f d j g):nY w a b n e d j g:=
 ⟨k.is,ky c.gr k.gr,QT k.le c.le,λl=>k.mo<|c.mo l⟩
def nY.ku{w w' b:RW}{c d n:Nat}{e f:Bool}{g:Se}(a:nY w c d n e w' g f)(i:Below w' w' b):nY w c d n e b g f:=
 ⟨a.is.kv i,ky a.gr<|kK (kC i) _,a.le,a.mo⟩
def nY.LN{d e:RW}{c f g:Nat}{i j:Bool}{k:Se}(a:nY d c f g i e k j)(b:Se)(l:b.size<=k.size):nY d c f g i (e.setCell (sd c)<|.string b) b j:=
 ⟨a.is.rest b,ky a.gr<|kE _ _ _ _,QT l a.le,a.mo⟩
def nY.tU{w d:RW}{c e f:Nat}{g i:Bool}{j:Se}(a:nY w c e f g d j i)(b:Bool)(k:i=true->b=true):nY w c e f g (d.setCell (rm c)<|.bool b) j b:=
 ⟨a.is.fail b,ky a.gr<|kE _ _ _ _,a.le,λl=>k<|a.mo l⟩
def MS(e:RW)(f g:Nat)(a i:Se)(b:Bool)(j:Ending)(k:RW):Prop:=∃c d,j=.returned (.bool c)/\nY e f g a.size b k d b/\(c=true->d.size+i.size=a.size)
def lZ{w:RW}{e f:Nat}{a:Se}{g:Bool}(c:pB w e f a g)(b:Se):Calls prog 16 #[.pointer e,.string b] w<|MS w e f a b g:=by
 have p:=kt c 1;have q:=kx c 1;have r:=c.lt;have l:=X<|Tryz.strings_CutPrefix a b w;have d:=X<|Ji a b;have m:=X<|nY.refl c
 go_enter func16,ntmps16
 go_wp21;apply l.o.M;rintro s t ⟨rfl,rfl⟩;have⟨i,j⟩:=Xq (⟨(Lib.trimPrefix a.data.toList b.data.toList).toArray⟩:Se);rw[<-j]at d⊢;clear j;have⟨n,k⟩:=Xq<|Lib.hasPrefix a.data.toList b.data.toList;rw[<-k]at d⊢;clear k;go_wp21;go_ret;exact⟨n,i,Z,m.o.LN i d.o.1,d.o.2⟩
def MT(d:RW)(e f:Nat)(a g:Se)(i:Bool)(j:Ending)(k:RW):Prop:=∃l b c,j=.returned l/\nY d e f a.size i k c b/\(b=false->c.size+g.size=a.size)
def mS{w:RW}{c f:Nat}{g:Se}{a:Bool}(k:pB w c f g a)(d:Se):Calls prog 13 #[.pointer c,.string d] w<|MT w c f g d a:=by
 have l:=X<|lZ k d
 go_enter func13,ntmps13
 go_wp21;apply l.o.M;rintro i p ⟨m,j,rfl,b,n⟩;have q:=kt b.is 2;have r:=kx b.is 2;have s:=b.is.lt;have e:=On b n;cases m with
 |false=>
  go_wp21
  go_end0
  exact⟨_,true,j,Z,e.o.1.tU true λ_=>Z,λi=>by cases i⟩
 |true=>
  go_wp21
  go_end0
  exact⟨_,a,j,Z,e.o.1.tU a id,λ_=>e.o.2 trivial⟩
def Ig(e:RW)(f g:Nat)(a:Se)(b:Bool)(i:Ending)(j:RW):Prop:=∃c d,i=.returned (.string c)/\nY e f g a.size b j d b/\c.size+d.size=a.size
def zF{c:RW}{e i:Nat}{a:Se}{j:Bool}(d:pB c e i a j)(m:a.size<=281474976710656)(f:FuncId)(n:mq f)(hF:∀(p:Int) (k:RW),Calls prog f #[.int .u8 p] k<|Dl k):
  Calls prog 37 #[.pointer e,.func (.func f) #[] #[]] c (Ig c e i a j):=by
 have t:=kt d 1;have u:=kx d 1;have v:=d.lt;have q:=X hF;have l:=X<|nY.refl d;have w:=X m;have x:a.size<9223372036854775807:=Y
 unfold mq at n
 go_enter func37,ntmps37
 go_wp21;go_loopw [5] (λg wr=>∃b:Nat,b<=a.size/\g=b/\c=wr) (λg _=>a.size-(intOf g).toNat)
 .exact⟨0,QZ _,Z,Z⟩
 obtain⟨b,y,rfl,rfl⟩:=hrel;have z:(0:Int)<=(b:Int):=Y;by_cases A:b<a.size
 .have r:(b:Int)<(a.size:Int):=Y;go_wp21;apply(q.o _ c).M;rintro B C ⟨⟨s,rfl⟩,rfl⟩;cases s with
  |true=>
   go_wp21;go_roundw
   .exact⟨b+1,Y,Ur,trivial⟩
   simp[intOf];omega
  |false=>go_wp21;go_ret;exact⟨_,_,Z,l.o.LN _ (by rw[Sy];omega),by rw[Sy,Sy];omega⟩
 have r:¬(b:Int)<(a.size:Int):=Y;go_wp21;go_ret;exact⟨_,_,Z,l.o.LN _ (by rw[Sy];omega),by rw[Sy,Sy];omega⟩
def Ih(e:RW)(f g:Nat)(a:Se)(i:Bool)(j:Ending)(k:RW):Prop:=∃b c d,j=.returned (.int .i64 b)/\oP b/\nY e f g a.size i k d c/\(c=false->d.size<a.size)
def vR.ku{w w':RW}{B:Nat}(c:vR w)(a:Below B w w')(b:2<B/\1<B):vR w':=by have⟨⟨d,e,f⟩,g,i,j⟩:=c;exact⟨⟨d,(Cb 1 0<|a.B _ b.2).T e,f⟩,g,(Cb 2 0<|a.B _ b.1).T i,j⟩
structure tW(wQ w:RW)(rb fb:Nat)(f:Fl)(l:Se)(fl:Bool):Prop where
 is:pB w rb fb l fl
 CW:Below wQ wQ w
 ge:wQ<=rb
 ft:nH wQ fb f
 gd:mi f
 er:vR wQ
 lo:2<wQ.heap.size/\1<wQ.heap.size
 sm:l.size<=281474976710656
def zY{b d e:RW}{f:Nat}(a:Below b b d)(c:d.grownBy e<|some f)(k:b<=f):Below b b e:=
 ⟨c.os.T a.os,c.tape.T a.tape,c.output.T a.output,QT a.size c.size,λg i=>(c.B g (QO i a.size) λj=>by injection j with j;omega).T<|a.B g i⟩
def tW.to{e w w':RW}{b c:Nat}{f:Fl}{g i:Se}{j k:Bool}(a:tW e w b c f g j)(d:nY w b c g.size j w' i k):tW e w' b c f i k:=
 ⟨d.is,zY a.CW d.gr a.ge,a.ge,a.ft,a.gd,a.er,a.lo,QT d.le a.sm⟩
def tW.yM{e a:RW}{f b:Nat}{c:Fl}{g:Se}{i:Bool}(d:tW e a f b c g i):nH a b c:=d.ft.ku d.CW
def B8(b:Nat)(q:b<=1000)(g:FuncId)(m:mq g)(j k:R0)(c:RW)(hF:∀(d:Int) (i:RW),Below c c i->Calls prog g #[.int .i64 d,j,k] i (Dn i)):
  Calls prog 41 #[.int .i64 (b:Int),.func (.func g) #[] #[j,k]] c (Dm c):=by
 have n:=X hF;unfold mq at m
 go_enter func41,ntmps41
 go_wp21;go_loopw [8] (λd wr=>∃a:Nat,a<=b/\d=a/\Below c c wr) (λd _=>b-(intOf d).toNat)
 .exact⟨0,QZ _,Z,Sf _ _⟩
 obtain⟨a,r,rfl,e⟩:=hrel;have f:=X e;by_cases s:a<b
 .have p:(a:Int)<(b:Int):=Y;go_wp2_with (apply(n.o _ wr f.o).M;rintro t u ⟨⟨v,rfl⟩,e⟩;have l:=X<|f.o.T<|e.M f.o.size;clear e)
  .go_ret2
   exact⟨a,true,Z,⟨Y,Y⟩,l.o⟩
  exact⟨⟨a+1,Y,Ur,l.o⟩,by simp[intOf];omega⟩
 have p:¬(a:Int)<(b:Int):=Y;go_wp21
 go_ret2
 exact⟨0,false,Z,⟨Un,Un⟩,f.o⟩
def EL(e:Int)(i j k:Nat)(n:Fl)(u:Se)(a:RW)(v:nH a k n)(w:a.cell? i=some (.pointer k))(x:a.cell? j=some (.string u))(y:i<a)(z:j<a):
  Calls prog 45 #[.int .i64 e,.pointer i,.pointer j] a (Dn a):=by
 have A:=X<|show∀d:RW,Below a a d->Calls prog 23 #[.pointer k,e] d (kG (tx<|cN (kF n) e) d)from λd E=>vx k e n d<|v.ku E;have p:=OK w x y z;clear v w x y z;have⟨F,B⟩:=Xq<|cN (kF n) e;rw[<-B]at A;clear B
 go_enter func45,ntmps45
 go_upto_region 1 with fail;refine Ri (λd=>Below a a d) (mM [(·=.pointer k),(·=e),(·=tx F),(·=.string u),Tr,Tr]) [(4,AI),(5,AI)] ((Sf _ _).drew) ⟨?_,?_,?_,?_,?_,?_,trivial⟩ ?_
 .intro q a b f c m r;have g:=(Cb i 0<|b.B i p.o.2.2.1).T p.o.1;exact .l 1 (f 1 rfl) g ⟨rfl,b,Qa⟩
 .exact .f 0
 .intro q a b f c m r;have L:=Sv 5 c 0;have M:=Sv 6 c 1;refine .c (A.o _ b) ?_;rintro N O ⟨rfl,s⟩;exact⟨_,rfl,⟨rfl,(b.T<|s.M b.size),Q2<|Qe⟩⟩
 .intro q a b f c m r;have g:=(Cb j 0<|b.B j p.o.2.2.2).T p.o.2.1;exact .l 2 (f 2 rfl) g ⟨rfl,b,Qa⟩
 .intro q a b f c m r;have P:=Sv 7 c 2;have Q:=Sv 8 c 3;exact .q (g:=⟨trivial,b,Qc ⟨_,rfl⟩<|Qa⟩)
 .intro q a b f c m r;obtain⟨R,G⟩:=kW m 0;exact .p (u:=.bool R) 9 G ⟨trivial,b,Qb<|Qc ⟨_,rfl⟩<|Qa⟩
 intro S I C J D;have⟨l,s⟩:=D _ (Mm 1 rfl) Lb;have K:=X<|show Below a a I from C;clear C J D;simp only[nx,Q7,Nat.reduceAdd];simp only[s];clear s;go_wp21;go_ret;exact⟨⟨l,rfl⟩,K.o⟩
def EM(e:Int)(i j k:Nat)(n:Fl)(u:Se)(a:RW)(v:nH a k n)(w:a.cell? i=some (.pointer k))(x:a.cell? j=some (.string u))(y:i<a)(z:j<a):
  Calls prog 43 #[.int .i64 e,.pointer i,.pointer j] a (Dn a):=by
 have A:=X<|show∀d:RW,Below a a d->Calls prog 44 #[.pointer k,e] d (kG (tx<|fN (kF n) e) d)from λd E=>xM k e n d<|v.ku E;have p:=OK w x y z;clear v w x y z;have⟨F,B⟩:=Xq<|fN (kF n) e;rw[<-B]at A;clear B
 go_enter func43,ntmps43
 go_upto_region 1 with fail;refine Ri (λd=>Below a a d) (mM [(·=.pointer k),(·=e),(·=tx F),(·=.string u),Tr,Tr]) [(4,AI),(5,AI)] ((Sf _ _).drew) ⟨?_,?_,?_,?_,?_,?_,trivial⟩ ?_
 .intro q a b f c m r;have g:=(Cb i 0<|b.B i p.o.2.2.1).T p.o.1;exact .l 1 (f 1 rfl) g ⟨rfl,b,Qa⟩
 .exact .f 0
 .intro q a b f c m r;have L:=Sv 5 c 0;have M:=Sv 6 c 1;refine .c (A.o _ b) ?_;rintro N O ⟨rfl,s⟩;exact⟨_,rfl,⟨rfl,(b.T<|s.M b.size),Q2<|Qe⟩⟩
 .intro q a b f c m r;have g:=(Cb j 0<|b.B j p.o.2.2.2).T p.o.2.1;exact .l 2 (f 2 rfl) g ⟨rfl,b,Qa⟩
 .intro q a b f c m r;have P:=Sv 7 c 2;have Q:=Sv 8 c 3;exact .q (g:=⟨trivial,b,Qc ⟨_,rfl⟩<|Qa⟩)
 .intro q a b f c m r;obtain⟨R,G⟩:=kW m 0;exact .p (u:=.bool R) 9 G ⟨trivial,b,Qb<|Qc ⟨_,rfl⟩<|Qa⟩
 intro S I C J D;have⟨l,s⟩:=D _ (Mm 1 rfl) Lb;have K:=X<|show Below a a I from C;clear C J D;simp only[nx,Q7,Nat.reduceAdd];simp only[s];clear s;go_wp21;go_ret;exact⟨⟨l,rfl⟩,K.o⟩
def Ii(a:RW)(b c:Nat)(d:Se)(e:Bool)(f:Ending)(g:RW):Prop:=∃i j k,f=.returned (.int .i64 i)/\nY a b c d.size e g k j
def nD.lt{lo:Nat}{w:RW}{a b:Nat}(c:nD lo w a b):a<w:=by have⟨_,_,_,_,_,_,_,_,_,_,d,_⟩:=c;exact(QP.1 d).1
def nD.le{a:Nat}{w:RW}{b c d:Nat}(e:nD a w b c)(f:c<=d):nD a w b d:=by have⟨g,i,j,k,l,m,n,p,q,r,s,t,u,v,x,y,z⟩:=e;exact⟨g,i,j,k,l,m,n,p,q,r,s,t,u,v,x,y,QT z f⟩
structure qy(wQ:RW)(lo:Nat)(w:RW)(rb eb fb:Nat)(f:Fl)(M:Nat)(l:Se)(fl:Bool):Prop where
 rc:tW wQ w rb fb f l fl
 ev:nD lo w eb M
 lr:rb<lo
 le:wQ<=eb/\eb<lo/\rb≠eb
 hi:lo<=w
def qy.put{e:RW}{lo:Nat}{w:RW}{c b f:Nat}{g:Fl}{n:Nat}{l:Se}{j:Bool}(a:qy e lo w c b f g n l j)(i:Nat)(u:R0)(m:Nat)(k:nD lo (w.setCell (sa b i) u) b m):qy e lo (w.setCell (sa b i) u) c b f g m l j:=
 ⟨⟨((kE w b i u).B c a.rc.is.lt λd=>by injection d with d;exact a.le.2.2 d).T a.rc.is,zY a.rc.CW (kE _ _ _ _) a.le.1,a.rc.ge,a.rc.ft,a.rc.gd,a.rc.er,a.rc.lo,a.rc.sm⟩,k,a.lr,a.le,QT a.hi (kE _ _ _ _).size⟩
def qy.more{b:RW}{c:Nat}{w:RW}{d e f:Nat}{g:Fl}{i j:Nat}{k:Se}{l:Bool}(a:qy b c w d e f g i k l)(m:i<=j):qy b c w d e f g j k l:=⟨a.rc,a.ev.le m,a.lr,a.le,a.hi⟩
def xb(c:RW)(d e f g:Nat)(i:Fl)(j:Nat)(k:Se)(l:Bool)(m:Ending)(n:RW):Prop:=∃p a b,m=.returned p/\qy c d n e f g i j a b/\a.size<=k.size/\(l=true->b=true)
structure pY(wQ:RW)(lo:Nat)(wr:RW)(rb eb fb:Nat)(f:Fl)(l:Se)(fl:Bool)(C:Array R0)(vQ:R0)(xs:List Int)(x:RW):Prop where
 rd:∃l' Ng,tW wQ x rb fb f l' Ng/\l'.size<=l.size/\(fl=true->Ng=true)
 c:x.heap[eb]?=some (.cells C 38 (0,0))
 own:kJ lL 2 1 (λ_=>False) x lo vQ xs
 s:wr.heap.size<=x
 ls:lo<=wr
 b:rb<lo/\eb<lo/\rb≠eb/\wQ<=eb
 v:∀z,vQ.ownBlock=some z->lo<=z/\z<wr
def tW.kv{d w w':RW}{c g:Nat}{i:Fl}{l:Se}{j:Bool}{row:Option Nat}(a:tW d w c g i l j)(b:w.grownBy w' row)(k:∀z,row=some z->z≠c/\d<=z):tW d w' c g i l j:=
 ⟨(b.B c a.is.lt λe=>(k c e.symm).1 Z).T a.is,⟨b.os.T a.CW.os,b.tape.T a.CW.tape,b.output.T a.CW.output,QT a.CW.size b.size,λf m=>(b.B f (QO m a.CW.size) λe=>W<|(k f e.symm).2).T<|a.CW.B f m⟩,a.ge,a.ft,a.gd,a.er,a.lo,a.sm⟩
def pY.grow{m:RW}{d:Nat}{n:RW}{p b q:Nat}{r:Fl}{s:Se}{t:Bool}{u:Array R0}{f:R0}{g:List Int}{i j:RW}{v:Option Nat}(a:pY m d n p b q r s t u f g i)(k:i.grownBy j v)(l:∀c,v=some c->d<=c)(w:kJ lL 2 1 (λ_=>False) j d f g):pY m d n p b q r s t u f g j:=by have⟨x,y,z,A⟩:=a.rd;have C:=a.b;have B:b<i:=(QP.1 a.c).1;exact⟨⟨x,y,z.kv k λc e=>⟨W<|l c e,W<|l c e⟩,A⟩,(k.B b B λe=>W<|l b e.symm).T a.c,w,QT a.s k.size,a.ls,a.b,a.v⟩
def pY.app{e:RW}{b:Nat}{f:RW}{g i j:Nat}{k:Fl}{l:Se}{m:Bool}{n:Array R0}{a:R0}{c:List Int}{p d:RW}(q:pY e b f g i j k l m n a c p)(r:p.grownBy d a.ownBlock)(s:kJ lL 2 1 (λ_=>False) d b a c):pY e b f g i j k l m n a c d:=q.grow r (λt u=>(q.v t u).1) s
def sR{w b:RW}{a c:Nat}{d:Se}{e:Bool}{f:Option Nat}(g:pB w a c d e)(i:w.grownBy b f)(j:f≠some a):pB b a c d e:=(i.B a g.lt λk=>j k.symm).T g
def nD.comp{c:Nat}{a:RW}{b d:Nat}(e:nD c a b d):∃f:Int,a.cell? (sd b)=some (.int .i64 f):=by have⟨_,_,_,_,_,_,_,_,_,_,g,_⟩:=e;exact⟨_,kt g 1⟩
def nD.peer{c:Nat}{a:RW}{b d:Nat}(e:nD c a b d):∃f:Int,a.cell? (sz b)=some (.int .i64 f):=by have⟨_,_,_,_,_,_,_,_,_,_,g,_⟩:=e;exact⟨_,kt g 3⟩
def nD.kind{lo:Nat}{w:RW}{a b:Nat}(c:nD lo w a b):∃d:Nat,w.cell? (rm a)=some (.int .u8 (d:Int)):=by have⟨_,_,_,_,_,_,_,_,_,_,e,_⟩:=c;exact⟨_,kt e 2⟩
def NU(a b:Nat)(d:RW)(g:b≠a)(i j k l m n p q r:R0):(((((((((d.setCell a i).setCell (sd a) j).setCell (rm a) k).setCell (sz a) l).setCell (Iv a) m).setCell (An a) n).setCell (zc a) p).setCell (uc a) q).setCell (AS a) r).heap[b]?=d.heap[b]?:=by have s:∀(c:RW) (e:Nat) (f:R0),(c.setCell (sa a e) f).heap[b]?=c.heap[b]?:=λc e f=>Q0 _ _ _ _ g;simp only[s]
def Oe{a:Nat}{b:RW}{d:Array R0}{T:TypeId}(c:b.heap[a]?=some (.cells d T (0,0))):b.frozen? ⟨a,0,none⟩=false/\b.frozen? ⟨a,1,none⟩=false/\b.frozen? ⟨a,2,none⟩=false/\b.frozen? ⟨a,3,none⟩=false/\b.frozen? ⟨a,4,none⟩=false/\b.frozen? ⟨a,5,none⟩=false/\b.frozen? ⟨a,6,none⟩=false/\b.frozen? ⟨a,7,none⟩=false/\b.frozen? ⟨a,8,none⟩=false:=
 ⟨kx c 0,kx c 1,kx c 2,kx c 3,kx c 4,kx c 5,kx c 6,kx c 7,kx c 8⟩
def JR{a:Nat}{n b:RW}{T:TypeId}{q r s t v w x y z:R0}(A:b.heap[a]?=some (.cells #[q,r,s,t,v,w,x,y,z] T))(B:Below a n b)(c d e f g j k l m:R0):
  (((((((((b.setCell a c).setCell (sd a) d).setCell (rm a) e).setCell (sz a) f).setCell (Iv a) g).setCell (An a) j).setCell (zc a) k).setCell (uc a) l).setCell (AS a) m).heap[a]?=some (.cells #[c,d,e,f,g,j,k,l,m] T)/\Below a n (((((((((b.setCell a c).setCell (sd a) d).setCell (rm a) e).setCell (sz a) f).setCell (Iv a) g).setCell (An a) j).setCell (zc a) k).setCell (uc a) l).setCell (AS a) m):=by
 refine⟨?_,(kD (kD (kD (kD (kD (kD (kD (kD (kD B<|QX _)<|QX _)<|QX _)<|QX _)<|QX _)<|QX _)<|QX _)<|QX _)<|QX _)⟩;have C:=kr (i:=0) (u:=c) A;have D:=kr (i:=1) (u:=d) C;have E:=kr (i:=2) (u:=e) D;have F:=kr (i:=3) (u:=f) E;have G:=kr (i:=4) (u:=g) F;have I:=kr (i:=5) (u:=j) G;have J:=kr (i:=6) (u:=k) I;have K:=kr (i:=7) (u:=l) J;have p:=kr (i:=8) (u:=m) K;simp only[Rk,RA,Rx]at p;exact p
def MU(a:RW)(t:Fl)(i:Se)(j:Ending)(b:RW):Prop:=
 (j=.returned (.tuple #[.agg #[.int .i64 0,.int .i64 0,.int .u8 0,.int .i64 0,.int .i64 0,.int .i64 0,.int .i64 0,.int .i64 0,Nl],.int .i64 6])\/∃(c k:Int) (l:Nat) (m d n p e:Int) (q:RE) (f r:Nat) (g:List Int),j=.returned (.tuple #[.agg #[.int .i64 c,k,.int .u8 (l:Nat),m,d,n,p,e,(q,f,r)],.int .i64 0])/\
  kz lL (λs=>a<=s/\s<b) b (q,f,r) g/\f<=9223372036854775807/\oP c/\oP d/\oP e/\(∀u∈g,oP u)/\(⟨(line (kF t) ⟨c,k,l,m,d,n,p,e,g⟩).toArray⟩:Se)=i/\0<i.size)/\Below a a b
abbrev vl(a b):=(.cells #[.pointer a,.string b,false] 58:Go.Obj)
def lH.oA{c:Nat}{a}{k:Nat}{b}(g:a.kind=(k:Int))(s:1<=k)(i:forms[k]?=some b)(d:(b.1=true->nr a.name=true)/\(b.1=false->a.name=[]))(e:(b.2.1=true->nr a.hd=true)/\(b.2.1=false->a.hd=[]))(f:b.2.2.1<=a.lp.length/\a.lp.length<=b.2.2.2.1)(j:b.2.2.2.2.1=false->a.th=[])(l:b.2.2.2.2.2=false->a.el=[])
  (m:∀n∈a.lp,mK De n) (p:a.th.length<=12/\a.el.length<=12) (q:∀b∈a.th,nQ c b) (r:∀b∈a.el,nQ c b):nQ (c+1) a:=
 ⟨⟨b,Y,by rw[g];simpa using i,d.1,d.2,e.1,e.2,f.1,f.2,j,l⟩,m,p,q,r⟩
def lH.mR.HN{y}(i:PT y):∀{d:Nat} {z:List St},(∀l∈z,mR y d l)->kU d z<=12->∀l∈z,nQ d l
 |0,_,a,_,l,hs=>(a l hs).elim
 |d+1,z,h0,hc,l,hs=>by
  have a:=h0 l hs;have A:=a.sub;have aa:=(qj hc).2 l hs;have p:∀B∈l.th,nQ d B:=mR.HN i A.1 Y;have q:∀B∈l.el,nQ d B:=mR.HN i A.2 Y;have ab:=Ag A.1;have ac:=Ag A.2;have s:∀u,lM y De u->mK De u:=λu C=>lM.lS ⟨i.ints,i.params⟩ C;have D:∀u,ny y De u->mK De u:=λu C=>ny.lS ⟨i.ints,i.params⟩ i.kQ C;have r:l.th.length<=12/\l.el.length<=12:=⟨Y,Y⟩
  have J:∀{k:Nat},k<3->nr (nm 120 k)=true:=λM=>nA letters.1 Y;have K:∀{k:Nat},k<3->nr (nm 104 k)=true:=λM=>nA letters.2.2.2.2.2 Y;have L:nr (nm 116 0)=true:=nA letters.2.2.1 Y;have N:nr (nm 98 0)=true:=nA letters.2.2.2.1 Y;have ad:=i.ints;rcases a with⟨k,e,f,j,u,c,a⟩|⟨k,_,g,e,f,j,t,O,c,m,E⟩|⟨k,_,g,e,f,j,t,c,m⟩|⟨k,g,e,⟨t,c,m⟩,_,_⟩|⟨k,g,e,j,⟨t,c,m⟩,_⟩|⟨k,f,j,⟨ae,w,P,t,v,x,Q,F,G⟩,c⟩|⟨k,g,f,j,⟨w,P,t,v,x,F,G⟩,c⟩|⟨k,g,e,f,⟨t,O,c,m,E⟩,_⟩|⟨k,e,f,⟨R,S,g⟩,⟨t,c,m⟩,_⟩|⟨k,g,e,f,j,c⟩
  refine oA (k:=1) k Y Z ⟨λ_=>?_,λa=>by simp at a⟩ ⟨λa=>by simp at a,λ_=>e⟩ (by rw[c];simp) (λ_=>f) (λ_=>j) (λn b=>?_) r p q;rcases a with⟨R,S,I,_⟩|⟨I,_⟩
  rw[I];exact J Y;rw[I];exact N;rw[c]at b;simp at b;subst b;rcases a with⟨_,_,_,a⟩|⟨_,a⟩
  exact s _ a;exact D _ a;exact oA (k:=2) k Y Z ⟨λ_=>by rw[g];exact L,λa=>by simp at a⟩ ⟨λa=>by simp at a,λ_=>e⟩ (by rw[c];simp) (λ_=>f) (λ_=>j) (λn b=>by rw[c]at b;simp at b;rcases b with rfl|rfl;exact s _ m;exact s _ E) r p q;exact oA (k:=3) k Y Z ⟨λ_=>by rw[g];exact L,λa=>by simp at a⟩ ⟨λa=>by simp at a,λ_=>e⟩ (by rw[c];simp) (λ_=>f) (λ_=>j) (λn b=>by rw[c]at b;simp at b;subst b;exact s _ m) r p q;exact oA (k:=4) k Y Z ⟨λa=>by simp at a,λ_=>g⟩ ⟨λa=>by simp at a,λ_=>e⟩ (by rw[c];simp) (λa=>by simp at a) (λa=>by simp at a) (λn b=>by rw[c]at b;simp at b;subst b;exact D _ m) r p q;exact oA (k:=5) k Y Z ⟨λa=>by simp at a,λ_=>g⟩ ⟨λa=>by simp at a,λ_=>e⟩ (by rw[c];simp) (λa=>by simp at a) (λ_=>j) (λn b=>by rw[c]at b;simp at b;subst b;exact D _ m) r p q;have af:=(List.getElem?_eq_some_iff.1 v).1;have ag:=i.len;have T:=i.hs w<|List.mem_of_getElem? v;have U:=i.nZ w (List.mem_of_getElem? v) t<|List.mem_of_getElem? x;have V:=(List.getElem?_eq_some_iff.1 x).1;exact oA (k:=6) k Y Z ⟨λ_=>by rw[Q];exact rN Y,λa=>by simp at a⟩ ⟨λ_=>by rw[F];exact K Y,λa=>by simp at a⟩ (by rw[G];simp;omega) (λ_=>f) (λ_=>j) (λn b=>s _<|c n b) r p q;have T:=i.hs w<|List.mem_of_getElem? v;have U:=i.nZ w (List.mem_of_getElem? v) t<|List.mem_of_getElem? x;have V:=(List.getElem?_eq_some_iff.1 x).1;exact oA (k:=7) k Y Z ⟨λa=>by simp at a,λ_=>g⟩ ⟨λ_=>by rw[F];exact K Y,λa=>by simp at a⟩ (by rw[G];simp;omega) (λ_=>f) (λ_=>j) (λn b=>s _<|c n b) r p q;exact oA (k:=8) k Y Z ⟨λa=>by simp at a,λ_=>g⟩ ⟨λa=>by simp at a,λ_=>e⟩ (by rw[c];simp) (λ_=>f) (λa=>by simp at a) (λn b=>by rw[c]at b;simp at b;rcases b with rfl|rfl;exact s _ m;exact s _ E) r p q;exact oA (k:=9) k Y Z ⟨λ_=>by rw[g];exact J Y,λa=>by simp at a⟩ ⟨λa=>by simp at a,λ_=>e⟩ (by rw[c];simp) (λ_=>f) (λa=>by simp at a) (λn b=>by rw[c]at b;simp at b;subst b;exact s _ m) r p q;exact oA (k:=10) k Y Z ⟨λa=>by simp at a,λ_=>g⟩ ⟨λa=>by simp at a,λ_=>e⟩ (by rw[c];simp) (λ_=>f) (λ_=>j) (λn b=>by rw[c]at b;simp at b) r p q
def lH.tS.lS{r}(e:tS r):mi r:=by
 have f:=e.b;have⟨z,g,A,B,s,ag,C,j,D,ah,E⟩:=e.ex;refine⟨by rw[A];exact DD,f.kQ,λk l=>?_,f.ml,λk l=>?_,Y,f.kH,λm n=>?_⟩;have⟨a,b⟩:=List.getElem?_of_mem l;have F:=(List.getElem?_eq_some_iff.1 b).1;rw[s.2 a k b];exact nA letters.2.2.2.2.1<|W s.1;have⟨a,_,G,p,I,J,ai⟩:=D.1 k l;have aj:a/g.length<g.length:=Nat.div_lt_of_lt_mul G;have ak:a % g.length<g.length:=Nat.mod_lt _ Y;exact⟨by rw[p];exact rN Y,by rw[I];exact rN Y,J,Y⟩;have⟨t,u⟩:=List.getElem?_of_mem n;have al:=(List.getElem?_eq_some_iff.1 u).1;have⟨K,L,M,am,N,an,O,P,Q,R,S,T,_⟩:=(E t m u).ex;have U:=j M<|List.mem_of_getElem? S;refine⟨by rw[O];exact rN Y,(f.co m n).vars,λao i=>?_,Q,R,λc d=>?_⟩;rw[P]at i;unfold nw at i;simp only[List.mem_append,List.mem_map,List.mem_range,List.mem_singleton]at i;rcases i with(⟨a,b,rfl⟩|rfl)|⟨a,b,rfl⟩
 exact⟨nA letters.1 Y,.inl ⟨Z,Uo⟩⟩;exact⟨nA letters.2.2.2.1 Y,.inr<|.inl ⟨Z,.inl Z⟩⟩;exact⟨nA letters.2.2.1 Y,.inr<|.inr ⟨Z,Z⟩⟩;have⟨ap,aq,V⟩:=T c d;refine⟨Y,λe v=>?_⟩;have⟨a,b⟩:=List.getElem?_of_mem v;have F:=(List.getElem?_eq_some_iff.1 b).1;have w:=(f.co m n).hs c d|>.2 e v;have⟨x,p,aa,ab,ac,y⟩:=V a e b;have ad:=U.2.2 x<|List.mem_of_getElem? p;have ae:PT {qP z K L g t with params:=x}:=⟨N,ad,B,C,λc d=>(j c d).2.1,λc d=>(j c d).2.2⟩
 refine⟨by rw[aa];exact nA letters.2.2.2.2.2 Y,w.params,λar q=>?_,w.body,mR.HN ae ac y,y⟩;rw[ab]at q;unfold qN at q;obtain⟨au,af,rfl⟩:=List.mem_map.1 q;exact nA letters.2.1<|W<|List.mem_range.1 af
def MV{a b}(c:tx a=tx b):a=b:=by
 have d:(⟨a.toArray⟩:Se)=⟨b.toArray⟩:=by injection c
 simpa using(RH (λe:Se=>e.data.toList) d)
def MW(d:RW)(m:Ending)(a:RW):Prop:=
 ∃(b:Fl) (e:Nat) (f:RE) (g i:Nat) (n:RE) (p q:Nat) (j:RE) (k l:Nat),m=.returned (.tuple #[.pointer e,.agg #[tx b.name,(f,g,i),(n,p,q),(j,k,l)]])/\nH a e b/\mi b/\K6 b/\kz mI (λc=>c<a) a (f,g,i) b.kQ/\kz (mr .i64) (λc=>c<a) a (j,k,l) b.kH/\Below d d a
def G5{a:Se}(d:0<a.size):¬a.toList=[]:=by
 intro c;have b:a.toList.length=a.size:=by rw[R3];exact RV ..
 rw[c]at b;simp at b;omega
end Go.Proofs.YtbdipimmpgijaaaGreatDoor
namespace Go.Proofs.YtbdipimmpgijaaaGreatDoor
open Go.RowKit Go.Shelf lH qR Go.Proofs.Tryz
attribute [local go_sem] Oper.semAt_some
def yw(a:kI.Tok):List R0:=[.int .u8 (a.kind:Nat),.string a.text,.int .i64 (a.off:Nat)]
def Bf(a:List kI.Tok):List R0:=a.flatMap yw
def ML:(prog.info? 216).map (λa=>(a.zero,a.size,a.bytes))=some (some<|.agg #[.int .u8 0,Em,.int .i64 0],3,32):=Up
def rh:Rel kI.Tok:=λ_ _ a b=>a=yw b
def rh.ok:lh rh 3:=
 ⟨Y,λa=>by rw[a];rfl,λa c b=>by rw[a]at b;simp[yw]at b;rcases b with rfl|rfl|rfl<;>rfl,λa _=>a,λa _=>a⟩
def B4{b:Nat->Prop}{c:RW}:∀(a:List kI.Tok),ly (rh b c) (a.map yw) a
 |[]=>trivial
 |_::a=>⟨Z,B4 a⟩
def B5(a:List kI.Tok):(a.map yw).flatten=Bf a:=by simp[Bf,List.flatMap]
def B7{c:Nat->Prop}{d:RW}:∀{a:List<|List R0} {b:List kI.Tok},ly (rh c d) a b->a=b.map yw
 |[],[],_=>rfl
 |_::_,_::_,⟨h1,h2⟩=>by rw[show _=yw _ from h1,B7 h2];rfl
 |[],_::_,h=>h.elim
 |_::_,[],h=>h.elim
def Dk{w:RW}{b:Nat}{c:R0}{a:List kI.Tok}(d:w.ownsRow b 216 3 c a.length<|Bf a):kJ rh 216 3 (λ_=>False) w b c a:=⟨a.map yw,by rw[B5];exact d,B4 a⟩
def uH{w:RW}{b:Nat}{c:R0}{a:List kI.Tok}(e:kJ rh 216 3 (λ_=>False) w b c a):w.ownsRow b 216 3 c a.length<|Bf a:=by have⟨g,d,f⟩:=e.own;rw[B7 f,B5]at d;exact d
def GZ{w:RW}{e:Nat}{b:R0}{f:List kI.Tok}(g:kJ rh 216 3 (λ_=>False) w e b f)(a:Nat)(c:b.ownBlock=some a):∃d,w.heap[a]?=some d/\d.isCells=true:=by
 rcases(uH g).2 with⟨rfl,_⟩|⟨i,k,l,rfl,_,j,_⟩
 simp[Value.ownBlock]at c;obtain rfl:i=a:=by simpa[Value.ownBlock]using c
 exact⟨_,j,Z⟩
def wE{w c:RW}(a:Below w w c)(e:w.heap.size+1<=c)(f:Obj):(w.alloc f).grownBy c<|some w.heap.size:=
 ⟨a.os,a.tape,a.output,by rw[QR];exact e,λb g i=>by
  rw[QR]at g;have d:b<w:=by rcases SP b w with h|h;exact h;exact absurd (by rw[show b=w.heap.size from Y]) i
  exact(a.B b d).T (Q5 _ _ d).symm⟩
def uv(a:RW)(b:Nat)(c:Int)(d:R0):Prop:=a.heap[b]?=some (.cells #[d,.int .i64 0,c,Em,Nl,Nl,Nl,.int .i64 0,.int .i64 0] 153)
def uv.inj{b:RW}{c:Nat}{d:Int}{e f:R0}(g:uv b c d e)(a:uv b c d f):e=f:=by unfold uv at g a;rw[g]at a;injection a with a;injection a with a;injection a with a;injection a
def uv.kept{b c:RW}{row:Option Nat}{a:Nat}{d:Int}{v:R0}(e:uv b a d v)(f:b.grownBy c row)(g:some a≠row):uv c a d v:=(f.B a (QP.1 e).1 g).T e
def MM(m c:Nat)(n:Int):Own λ(f:List kI.Tok) g=>∃b,uv g c n b/\g.ownsRow m 216 3 b f.length (Bf f):=by
 rintro s p t u ⟨b,i,j⟩ k l;refine⟨b,i.kept k λd=>?_,j.kept k ?_⟩;have⟨o,a,e⟩:=l c d.symm;rw[show p.heap[c]?=_ from i]at a;cases a;cases e;rcases j.2 with⟨rfl,_⟩|⟨q,v,w,rfl,_,r,_⟩
 exact .inl Z;refine .inr λd=>?_;have⟨o,a,e⟩:=l q (by simpa[Value.ownBlock]using d.symm);rw[r]at a;cases a;cases e
def MN(a:Se)(w:RW)(d:Ending)(b:RW):Prop:=
 ∃c,d=.returned (.pointer w)/\uv b w a.size c/\b.ownsRow (w+1) 216 3 c (kI.lexB a).length (Bf<|kI.lexB a)/\Below w w b
abbrev rl(a):=(#[.slice none 0 0,.int .i64 0,.int .i64 (a:Nat),.string ⟨#[]⟩,.slice none 0 0,.slice none 0 0,.slice none 0 0,.int .i64 0,.int .i64 0]:Array Go.Value)
abbrev tm(a):=(.cells #[.string a] 9:Go.Obj)
abbrev ts(a b c):=(#[.int .u8 (a:Nat),.string b,.int .i64 (c:Nat)]:Array Go.Value)
def EI(g:Se)(ad:g.size<=20000)(w:RW)(aQ:L.Laid w)(B:5+1<=w.heap.size):Calls prog 61 #[.string g] w<|MN g w:=by
 have⟨bn,aR,aS,aT,aU⟩:=Rj ML;have bo:=kI.vZ g;refine(Ty (n:=3)).1 ?_;have aV:Fence.wide.round=none:=Z;refine callsIn_of_wp_marks func61 Z trivial ?_ aV;simp only[ntmps61,R6,Rl,Rp,Nat.reduceAdd,Nat.reduceSub,T9,Ua,List.push_toArray,Ud,R8,List.cons_append]
 gi_wp2_with (refine⟨trivial,?_⟩;gi_at_call 92;apply(Ty.2<|L.KO _ _).mono;rintro r bp ⟨rfl,rfl⟩)
 obtain⟨Q,T⟩:∃Q,(((w.alloc<|.cells (rl g.size) 153).alloc<|sn w.heap.size).alloc<|tm g)=Q:=⟨_,Z⟩
 have ay:Q.heap.size=w.heap.size+3:=by rw[<-T];simp
 have az:Below w.heap.size w Q:=by rw[<-T];exact(((Sf _ w).alloc (QX _) _).alloc Uo _).alloc Us _
 have aW:uv Q w.heap.size g.size<|.slice none 0 0:=by rw[<-T];exact(Q5 _ _ Uu).trans ((Q5 _ _ Uu).trans<|QQ _ _)
 have ae:Boxed Q (w.heap.size+1) 146<|.pointer w.heap.size:=by rw[<-T];have:=QQ (w.alloc<|.cells (rl g.size) 153)<|sn w.heap.size;rw[QR]at this;exact(Q5 _ _ Uu).trans this
 have aA:Boxed Q (w.heap.size+1+1) 9<|.string g:=by rw[<-T];have:=QQ ((w.alloc<|.cells (rl g.size) 153).alloc<|sn w.heap.size)<|tm g;rw[QR,QR]at this;exact this
 rw[T];clear T;refine wpIn_rangeFunc_ownH aV Y (gf:=138) (lb:=#[.pointer<|some ⟨w.heap.size+1+1,0,none⟩]) Z trivial (enters_of func138 Up Z)
  (L.Et (3-1) Y (w.heap.size+1+1) w.heap.size g Uw B Q Y Y aA<|aQ.ku az B) (L.O9 _ _) (L.Pa Y Y) (Sf _ _) (λ_=>Z)
  (λC s=>(((∃b,uv s w.heap.size g.size b/\s.ownsRow (w.heap.size+1) 216 3 b C.length (Bf C))/\Boxed s (w.heap.size+1) 146 (.pointer w.heap.size))/\Boxed s (w.heap.size+1+1) 9 (.string g))/\Below w.heap.size w s)
  (λ_ _ _=>False)
  (Uj (Uj (Uj (Own.from (MM _ _ _) _)<|Own.from (boxed_own _ _ _) _)<|Own.from (boxed_own _ _ _) _)<|ownFrom_below (QX _) Y)
  (λ_ _ _ _ _ ad _ _=>ad)
  ⟨⟨⟨⟨_,aW,SS _ _ _ _⟩,ae⟩,aA⟩,az⟩
  (λd aB s=>∃b R,uv s w.heap.size g.size b/\some R≠b.ownBlock/\w.heap.size+2<R/\s.heap[R]?=some (.cells (ts d.kind d.text d.off) 216)/\aB={tmps:=#[.string g,undef,.pointer none,.pointer<|some ⟨w.heap.size+1,0,none⟩,.pointer<|some ⟨R,0,none⟩,.string g,.int .i64 (g.size:Nat),.agg<|rl g.size,.pointer w.heap.size,.string g,.int .i64 (g.size:Nat),.bool<|decide ((20000:Int)<(g.size:Nat)),undef,undef,undef,undef,.string g,.func (.func 138) #[] #[.pointer<|some ⟨w.heap.size+1+1,0,none⟩],.agg<|ts d.kind d.text d.off,undef,undef,undef,undef,undef,undef,undef,undef,undef,undef,undef],defers:=[]})
  (λd aB _ bq ca cb ad aX aY=>by have⟨b,R,aZ,br,U,B,bs⟩:=ad;refine⟨b,R,aZ.kept aX λr=>?_,br,U,?_,bs⟩;have⟨_,o,I,ab⟩:=aY _ r.symm;rw[show bq.heap[w.heap.size]?=_ from aZ]at I;cases I;cases ab;refine(aX.block R (QP.1 B).1 λr=>?_).trans B;have⟨_,o,I,ab⟩:=aY R r.symm;rw[B]at I;cases I;cases ab)
  ?assign ?body ?done ?stop
 case assign=>
  rintro bt C d s J ⟨⟨⟨⟨b,K,V⟩,M⟩,D⟩,S⟩ f;simp only[L.LM]
  gi_wp2
  have ba:=S.size;refine f _ _ ((KeepsOthers.alloc _ _).from _) ⟨(Sf _ s).alloc ba _,RY s _ _ D.lt⟩ ⟨⟨⟨⟨b,K.kept (QV s _ none) Uo,V.alloc _⟩,M.alloc _⟩,D.alloc _⟩,S.alloc ba _⟩ ⟨b,s.heap.size,K.kept (QV s _ none) Uo,λr=>?_,D.lt,World.alloc_heap_new s _,Z⟩;have:=(Dk V).ge _ r.symm;omega
 case body=>
  rintro bt C d aB t bu-⟨⟨⟨⟨b,K,V⟩,M⟩,D⟩,S⟩ ⟨cc,af,bb,aC,al,ae,rfl⟩ bv;obtain rfl:=uv.inj bb K;have E:=Dk V;obtain⟨y,x,rfl,-⟩:=E.form;obtain⟨i,ag⟩:∃i,i=C.length:=⟨_,Z⟩
  rw[<-ag]at K E aC;obtain⟨z,am⟩:∃z:RW,z=w.alloc (.cells #[] 216):=⟨_,Z⟩
  have aa:z.heap.size=w.heap.size+1:=(by rw[am];simp);have aD:z.grownBy t<|some w.heap.size:=(by rw[am];exact wE S (W M.lt) _);have an:=X<|show C.length=i/\i<=20000 from⟨ag.symm,Y⟩;have ao:=OK aR aS aT aU;have ap:=X S;have aE:=X (show z.os=w.os/\z.tape=w.tape/\z.output=w.output by rw[am];exact⟨Z,Z,Z⟩);obtain⟨o,I⟩:∃o,o=w.heap.size:=⟨_,Z⟩
  obtain⟨A,aq⟩:∃A,A=o+1:=⟨_,Z⟩
  obtain⟨O,ar⟩:∃O,O=A+1:=⟨_,Z⟩
  obtain⟨au,ah⟩:∃au:Int,au=(g.size:Nat):=⟨_,Z⟩
  rw[<-I]at K al M D aD aa E⊢;rw[<-aq]at M D aa E⊢;rw[<-ar]at D⊢;rw[<-ah]at K;rw[<-aa]at E;have aF:=X<|show t.heap[A]?=some (.cells #[.pointer<|some ⟨o,0,none⟩] 146)from M;have bw:=X<|show t.heap[O]?=some (tm g)from D;have bx:=X ae;have bz:af<t.heap.size:=(QP.1 ae).1;have aG:A<t.heap.size:=M.lt;have bA:O<t.heap.size:=D.lt;have bB:af≠o:=Y;have aH:A≠o:=Y;have bC:O≠o:=Y;have bD:some af≠(Value.slice y i x).ownBlock:=aC;have aI:some A≠(Value.slice y i x).ownBlock:=M.not_row Un<|uH E;have bE:some O≠(Value.slice y i x).ownBlock:=D.not_row Un<|uH E;have bc:=X<|show∀v,(Value.slice y i x).ownBlock=some v->A<=v/\v<t.heap.size/\∃ai,t.heap[v]?=some ai/\ai.isCells=true from λv r=>⟨W<|(E.ge v r).1,(E.ge v r).2,GZ E v r⟩;have bF:=X<|nO.start aD K E Y;have bG:=ON I aq ar aa ah;have bH:=On ay al;clear aQ az aW ae aA K bb V M D S E aC al bu bv ag am aa aD aR aS aT aU bo ad B ah;clear I;clear aq ar ay
  gi_upto_region 7 with fail
  refine EG Up (λ⟨_,_,a⟩=>a.elim) (λd=>nO rh 216 3 (λ_=>False) z t o #[(.slice y i x),.int .i64 0,.int .i64 au,.string ⟨#[]⟩,.slice none 0 0,.slice none 0 0,.slice none 0 0,.int .i64 0,.int .i64 0] 153 (.slice y i x) C d) (λb w=>∃(F:RE) (G:Nat),z.grownBy w (some o)/\w.heap[o]?=some (.cells #[(.slice F (i+1) G),.int .i64 0,.int .i64 au,.string ⟨#[]⟩,.slice none 0 0,.slice none 0 0,.slice none 0 0,.int .i64 0,.int .i64 0] 153)/\kJ rh 216 3 (λ_=>False) w z.heap.size (.slice F (i+1) G) (C++[d])/\((Value.slice F (i+1) G).ownBlock=(Value.slice y i x).ownBlock\/∃v,(Value.slice F (i+1) G).ownBlock=some v/\t.heap.size<=v)/\t.heap.size<=w.heap.size/\∀p,p<t.heap.size->p≠o->some p≠(Value.slice y i x).ownBlock->w.heap[p]?=t.heap[p]?) (mM [λb=>b=.pointer (some ⟨o,0,none⟩),λb=>b=.pointer (some ⟨o,0,none⟩),λb=>b=.pointer (some ⟨o,0,none⟩),λb=>b=.pointer (some ⟨o,0,none⟩),λb=>b=.slice y i x,λb=>b=.agg (ts d.kind d.text d.off),λb=>True,λb=>True,λb=>b=.pointer (some ⟨o,0,none⟩),λb=>b=.pointer (some ⟨o,0,none⟩),λb=>True]) [(6,λb w=>∃(p:Nat),b=.slice p 1 1/\Nw t w p/\w.heap[p]?=some (.cells (ts d.kind d.text d.off) 216)),(7,λb w=>∃(F:RE) (G:Nat),b=.slice F (i+1) G/\kJ rh 216 3 (λ_=>False) w z.heap.size b (C++[d])/\(b.ownBlock=(Value.slice y i x).ownBlock\/∃v,b.ownBlock=some v/\t.heap.size<=v))] Up Up Up Un 30 Z Up (bF.o.drew rh.ok) ⟨?_,?_,?_,?_,?_,?_,?_,?_,?_,?_,?_,trivial⟩ ?_;intro j w c k e l q;have bI:=lu<|show j.eval (.tmp 3)=.pointer (some ⟨A,0,none⟩)from k 3 Z;clear k e l q;have bd:=kA ((c.k A aG aH aI).trans aF.o) 0 _ Z;have u:=X c;clear c;refine kB.lF λJ f=>?_;unfold kB;go_simp;exact f _ _ ⟨Z,u.o,Rs.2 ⟨⟨λa=>absurd (show 6=0 from a) Un,λ_ _=>λ_ m=>m⟩,Rs.2 ⟨⟨λa=>absurd (show 7=0 from a) Un,λ_ _=>λ_ m=>m⟩,R4 _⟩⟩⟩;intro j w c k e l q;have bI:=lu<|show j.eval (.tmp 3)=.pointer (some ⟨A,0,none⟩)from k 3 Z;clear k e l q;have bd:=kA ((c.k A aG aH aI).trans aF.o) 0 _ Z;have u:=X c;clear c;refine kB.lF λJ f=>?_;unfold kB;go_simp;exact f _ _ ⟨Z,u.o,Rs.2 ⟨⟨λa=>absurd (show 6=1 from a) Un,λ_ _=>λ_ m=>m⟩,Rs.2 ⟨⟨λa=>absurd (show 7=1 from a) Un,λ_ a=>nomatch (show true=false from a)⟩,R4 _⟩⟩⟩;intro j w c k e l q;have cd:=lu<|show j.eval (.tmp 20)=.pointer (some ⟨o,0,none⟩)from e 1 _ Z Z;clear k e l q;refine kB.lF λJ f=>?_;unfold kB;go_simp;exact f _ _ ⟨Z,c,Rs.2 ⟨⟨λa=>absurd (show 6=2 from a) Un,λ_ _=>λ_ m=>m⟩,Rs.2 ⟨⟨λa=>absurd (show 7=2 from a) Un,λ_ _=>λ_ m=>m⟩,R4 _⟩⟩⟩;intro j w c k e l q;have ce:=lu<|show j.eval (.tmp 21)=.pointer (some ⟨o,0,none⟩)from e 2 _ Z Z;clear k e l q;refine kB.lF λJ f=>?_;unfold kB;go_simp;exact f _ _ ⟨Z,c,Rs.2 ⟨⟨λa=>absurd (show 6=3 from a) Un,λ_ _=>λ_ m=>m⟩,Rs.2 ⟨⟨λa=>absurd (show 7=3 from a) Un,λ_ _=>λ_ m=>m⟩,R4 _⟩⟩⟩;intro j w c k e l q;have cf:=lu<|show j.eval (.tmp 22)=.pointer (some ⟨o,0,none⟩)from e 3 _ Z Z;clear k e l q;have bd:=kt c.c 0;have u:=X c;clear c;refine kB.lF λJ f=>?_;unfold kB;go_simp;exact f _ _ ⟨Z,u.o,Rs.2 ⟨⟨λa=>absurd (show 6=4 from a) Un,λ_ _=>λ_ m=>m⟩,Rs.2 ⟨⟨λa=>absurd (show 7=4 from a) Un,λ_ a=>nomatch (show true=false from a)⟩,R4 _⟩⟩⟩;intro j w c k e l q;have cg:=lu<|show j.eval (.tmp 4)=.pointer af from k 4 Z;clear k e l q;have⟨⟨ch,ci,cj⟩,_⟩:=lg<|(c.k af bz bB bD).trans bx.o;have u:=X c;clear c;refine kB.lF λJ f=>?_;unfold kB;go_simp;exact f _ _ ⟨Z,u.o,Rs.2 ⟨⟨λa=>absurd (show 6=5 from a) Un,λ_ a=>nomatch (show true=false from a)⟩,Rs.2 ⟨⟨λa=>absurd (show 7=5 from a) Un,λ_ a=>nomatch (show true=false from a)⟩,R4 _⟩⟩⟩;intro j w c k e l q;have ck:=lu<|show j.eval (.tmp 24)=.agg (ts d.kind d.text d.off)from e 5 _ Z Z;clear k e l q;have be:=c.s;have u:=X c;clear c;refine kB.lF λJ f=>?_;unfold kB;go_simp;exact f _ _ ⟨trivial,u.o.alloc rh.ok _,Rs.2 ⟨⟨λ_=>⟨_,Z,⟨be,Uo⟩,QQ _ _⟩,λa=>absurd Z a⟩,Rs.2 ⟨⟨λa=>absurd (show 7=6 from a) Un,λ_ a=>nomatch (show true=false from a)⟩,R4 _⟩⟩⟩;intro j w c k e l q;have bJ:=lu<|show j.eval (.tmp 23)=.slice y i x from e 4 _ Z Z;have bK:=(show(λ(b:R0) (w:RW)=>∃(p:Nat),b=.slice p 1 1/\Nw t w p/\w.heap[p]?=some (.cells (ts d.kind d.text d.off) 216)) (j.eval<|.tmp 25) w from l _ (List.Mem.head _) _ Z Z)
  have⟨aJ,bL,cl,bM⟩:=bK;clear k e l q;have bN:=c.own;have be:=c.s;have cm:=c.ws;have u:=X c;clear c;have bf:∀(av:Nat) (aj:R0),(ts d.kind d.text d.off).toList[av]?=some aj->w.cell? ((aJ:Addr).add av)=some aj:=λav aj bO=>(by rw[addr_add,Q7];exact kA bM av aj<|by simpa using bO);have⟨bP,bQ,bp,bg,bh,bR,aw,bi⟩:=kS (P:=prog) (w:=w) z.heap.size 151 151 216 bn _ 3 32 underlying151 ao.o.1 ao.o.2.1 ao.o.2.2.1 ao.o.2.2.2 Z rh.ok (λ_=>False) ((.slice y i x)) C bN ⟨aJ,0,none⟩ (ts d.kind d.text d.off).toList d bf ((by unfold rh yw;rfl)) (by have:=an.o;unfold maxLen;omega) (W an.o) Y;have bS:j.eval (.tmp 23)=(.slice y i x):=(by simp[Act.eval,bJ]);have bT:j.eval (.tmp 25)=.slice aJ 1 1:=bL;have bU:=an.o.1;rw[bU]at bg bh bi;clear bf;refine kB.lF λJ f=>?_;unfold kB;simp only[execOp,resolve,invoke,builtin,RD,RF,Ro,Rv,Rq,RG,bS,bT,bg];exact f _ _ ⟨trivial,u.o.app aw bR,Rs.2 ⟨⟨λa=>absurd (show 6=7 from a) Un,λ_ _=>λaj ⟨p,r,aK,ag⟩=>⟨p,r,⟨aK.1,QO aK.2 ((u.o.ng aw)).1⟩,(((u.o.ng aw)).2 p aK).trans ag⟩⟩,Rs.2 ⟨⟨λ_=>⟨bP,bQ,Z,bh,bi.imp id λa=>⟨_,a,W aw.size⟩⟩,λa=>absurd Z a⟩,R4 _⟩⟩⟩;intro j w c k e l q;have cn:=lu<|show j.eval (.tmp 19)=.pointer (some ⟨o,0,none⟩)from e 0 _ Z Z;clear k e l q;refine kB.lF λJ f=>?_;unfold kB;go_simp;exact f _ _ ⟨Z,c,Rs.2 ⟨⟨λa=>absurd (show 6=8 from a) Un,λ_ _=>λ_ m=>m⟩,Rs.2 ⟨⟨λa=>absurd (show 7=8 from a) Un,λ_ _=>λ_ m=>m⟩,R4 _⟩⟩⟩;intro j w c k e l q;have co:=lu<|show j.eval (.tmp 27)=.pointer (some ⟨o,0,none⟩)from e 8 _ Z Z;clear k e l q;refine kB.lF λJ f=>?_;unfold kB;go_simp;exact f _ _ ⟨Z,c,Rs.2 ⟨⟨λa=>absurd (show 6=9 from a) Un,λ_ _=>λ_ m=>m⟩,Rs.2 ⟨⟨λa=>absurd (show 7=9 from a) Un,λ_ _=>λ_ m=>m⟩,R4 _⟩⟩⟩;intro j w c k e l q;have cp:=lu<|show j.eval (.tmp 28)=.pointer (some ⟨o,0,none⟩)from e 9 _ Z Z;have bV:=(show(λ(b:R0) (w:RW)=>∃(F:RE) (G:Nat),b=.slice F (i+1) G/\kJ rh 216 3 (λ_=>False) w z.heap.size b (C++[d])/\(b.ownBlock=(Value.slice y i x).ownBlock\/∃v,b.ownBlock=some v/\t.heap.size<=v)) (j.eval<|.tmp 26) w from l _ (List.Mem.tail _<|List.Mem.head _) _ Z Z)
  have⟨F,G,ak,bj,bW⟩:=bV;have cq:=lu ak;clear k e l q;have aL:=X bj;clear bj;have aM:=c.c;have cr:=kx aM 0;have cs:=kt aM 0;clear aM;have u:=X c;clear c;refine kB.lF λJ f=>?_;unfold kB;go_simp;exact f _ _<|⟨F,G,(u.o.set rh.ok (λ_ a=>a.elim) (by have N:=aL.o;rw[ak]at N;exact N) 0 _ Z).1,(u.o.set rh.ok (λ_ a=>a.elim) (by have N:=aL.o;rw[ak]at N;exact N) 0 _ Z).2.1,(u.o.set rh.ok (λ_ a=>a.elim) (by have N:=aL.o;rw[ak]at N;exact N) 0 _ Z).2.2,(by have N:=bW;rw[ak]at N;exact N),(by rw[QU];exact u.o.s),(λp ac U B=>(Q0 _ _ _ _ U).trans<|u.o.k p ac U B)⟩;intro ct bk cu bX;have⟨F,G,aN,bY,bZ,cv,bl,ax⟩:=bX;have⟨I,aq,ar,aa,ah⟩:=bG.o;have⟨ay,al⟩:=bH.o;have aO:Below o t bk:=⟨aN.os.trans<|aE.o.1.trans ap.o.os.symm,aN.tape.trans<|aE.o.2.1.trans ap.o.tape.symm,aN.output.trans<|aE.o.2.2.trans ap.o.output.symm,bl,λp ac=>ax p Y Y λr=>W<|(bc.o p r.symm).1⟩
  have bm:bk.heap[O]?=t.heap[O]?:=ax O bA bC bE;refine⟨⟨bl,λai cw cx ac ab=>(ax ai (QP.1 ac).1 Y λr=>?_).trans ac⟩,⟨aO,bm⟩,⟨⟨⟨.slice F (i+1) G,?_,?_⟩,?_⟩,?_⟩,?_⟩;have⟨_,_,cy,U,B⟩:=bc.o ai r.symm;rw[ac]at U;cases U;rw[ab]at B;cases B;rw[<-ah];exact bY;have:=uH bZ;rw[aa]at this;simpa[an.o.1]using this;exact(ax A aG aH aI).trans aF.o;exact bm.trans bw.o;rw[I]at aO⊢;exact ap.o.trans aO
 case done=>
  rintro aP cz s cA rfl ⟨⟨⟨⟨b,K,V⟩,M⟩,D⟩,S⟩ f;have ab:=M.cell
  gi_wp2
  refine⟨Uo,.inl ⟨_,_,Z,run_takeDeferred f,?_⟩⟩;exact⟨_,results_tmp Z _ _ _,b,Z,K.kept (grownBy_putObj' s aP _) (λr=>by injection r with r;omega),ownsRow_putObj V _ f Z,S.trans<|belowK_b (w:=w) (QX _) s aP _ _ Y f Z Z⟩
 case stop=>rintro aP x C s _ _ a _;exact a.elim
end Go.Proofs.YtbdipimmpgijaaaGreatDoor
namespace Go.Proofs.YtbdipimmpgijaaaGreatDoor
open RowKit Go.Proofs.Tryz lH Maps oa qR ChangeShapes WideShapes ChangeAt
def NT{a c}{k g:Nat}{v}(l:uv c g a.size v)(m:c.ownsRow k 216 3 v (kI.lexB a).length<|Bf<|kI.lexB a)(K:g<k)(r:(kI.lexB a).length<=20000)(s:0<(kI.lexB a).length):
  mh (kI.lexB a) ⟨Em,Nl,Nl,Nl,c⟩ c g 0:=by
 have i:=Dk m;obtain⟨t,u,rfl,w,L⟩:=i.form;have x:=i.sl rh.ok;have y:=i.ge;obtain⟨M,N⟩:∃d,(kI.lexB a)[0]?=some d:=Gx s;have z:∃e,t=some ⟨e,0,none⟩:=by
  rcases m.2 with⟨b,_⟩|⟨A,O,P,b,_⟩
  injection b with b B;omega;injection b with b B;exact⟨A,b⟩
 obtain⟨e,rfl⟩:=z;have C:=y e Z;refine⟨⟨e,u,a.size,l,w,Y,C.2,λD d E=>?_⟩,⟨r,QZ _⟩,(QP.1 l).1,QX _⟩;have⟨Q,o,F,j,_,G,f⟩:=x.ll rh.ok D d E;injection j with j;injection j with I J;subst I J;rw[show F=yw d from G]at f;have n:=f 0 _ Z;have p:=f 1 _ Z;have q:=f 2 _ Z;rw[Q7]at n p q;exact⟨n,p,q⟩
def Pc(a):Sem.run prog (binOp BinOp.eql 9 (tx HM)<|.string ⟨#[116,52,32,98,97,99,107,58,32,109,101,115,115,97,103,101,32,48,32,102,114,111,109,32,102,114,111,110,116,32,103,101,116,40,49,44,32,55,41]⟩) a=.ok (.bool true) a:=Up
def Pd(a):Sem.run prog (binOp BinOp.eql 9 (tx EY)<|.string ⟨#[116,52,32,111,112,101,114,97,116,111,114,58,32,102,108,97,103,32,115,108,111,119,32,61,32,116,114,117,101,32,40,99,104,111,105,99,101,32,48,41]⟩) a=.ok (.bool true) a:=Up
def CS{i:RW}{j t:Nat}{l:Se}{m:Bool}(z:pB i j t l m)(A:l.size<=281474976710656)(B:∀u,i.grownBy u (some j)->vR u):Calls prog 14 #[.pointer j] i<|Ih i j t l m:=by
 have C:=X<|zF z A 38 CR G2;have D:=X B
 go_enter func14,ntmps14
 go_wp21;apply C.o.M;rintro a e ⟨b,n,rfl,v,c⟩;have w:=D.o e v.gr;have x:b.size<=281474976710656:=Y
 have k:=On v c;cases hp:Lib.parseIntB 64 b.data.toList with
 |ok d=>
  have y:=Lib.parseIntB_bounds hp;have E: -9223372036854775808<=d:=(by have:=y.1;simp at this;omega);have F:d<=9223372036854775807:=(by have:=y.2;simp at this;omega);have P:0<b.size:=by by_cases a:b.size=0;have G:b.data.toList=[]:=RI<|(RV ..).T a;rw[G]at hp;cases hp;omega
  have f:=X<|Tryz.strconv_ParseInt_10_at64_ok b Y d hp e;go_wp21;apply f.o.M;rintro a p ⟨rfl,I⟩;have g:Below e e p:=by
   rcases I with rfl|⟨Q,rfl⟩
   exact Sf _ _;exact Lib.bytesWorld_below _ _ _
  have J:=X g;go_wp21;go_ret;exact⟨d,m,n,Z,⟨E,F⟩,k.o.1.ku J.o,λ_=>W k.o.2⟩
 |range=>have⟨q,r,s⟩:=w.ran;have f:=X<|Tryz.strconv_ParseInt_10_at64_range b x hp q e r s;generalize Lib.intSat 64 b.data.toList=R at*;go_wp21;apply f.o.M;rintro a p ⟨K,rfl,_,_,g⟩;have c:=X<|k.o.1.ku g;have L:=kt c.o.is 2;have M:=kx c.o.is 2;have N:=c.o.is.lt;go_wp21;go_ret;exact⟨0,true,n,Z,⟨Un,Un⟩,c.o.tU true λ_=>Z,λa=>by cases a⟩
 |_=>
  have⟨q,r,s⟩:=w.QH;have O:(∀d,Lib.parseIntB 64 b.data.toList≠.ok d)/\Lib.parseIntB 64 b.data.toList≠.range:=by rw[hp];exact⟨λd a=>(by cases a),λa=>(by cases a)⟩
  have f:=X<|Tryz.strconv_ParseInt_10_at64_syntax b x O q e r s;go_wp21;apply f.o.M;rintro a p ⟨K,rfl,_,_,g⟩;have c:=X<|k.o.1.ku g;have L:=kt c.o.is 2;have M:=kx c.o.is 2;have N:=c.o.is.lt;go_wp21;go_ret;exact⟨0,true,n,Z,⟨Un,Un⟩,c.o.tU true λ_=>Z,λa=>by cases a⟩
def tW.number{f w:RW}{b c:Nat}{g:Fl}{d:Se}{e:Bool}(a:tW f w b c g d e):Calls prog 14 #[.pointer b] w<|Ih w b c d e:=
 CS a.is a.sm λ_ i=>a.er.ku (zY a.CW i a.ge) a.lo
def zG(b:Nat)(d:Fl)(c:Se)(a:RW)(w:nH a b d)(m:mi d):Calls prog 20 #[.pointer b,.string c] a<|Dm a:=by
 have n:=(Ba a<|tn b).alloc Uo<|tm c;have j:((a.alloc<|tn b).alloc<|tm c).heap[a.heap.size]?=some (tn b):=(Q5 _ _ Uo).T<|QQ _ _;have k:((a.alloc<|tn b).alloc<|tm c).heap[a.heap.size+1]?=some (tm c):=by have:=QQ (a.alloc<|tn b)<|tm c;rw[QR]at this;exact this
 have p:((a.alloc<|tn b).alloc<|tm c).heap.size=a+2:=Uo
 have x:d.kH.length<=1000:=Ul m.c3 m.C3
 have q:=X<|w.ku n;have r:=X n;have l:=OF j k p
 go_enter func20,ntmps20
 go_upto_region 1 with fail;generalize((a.alloc<|tn b).alloc<|tm c)=i at*;have⟨e,s⟩:=Xq a.heap.size;rw[<-s]at l⊢;have⟨f,t⟩:=Xq<|e+1;rw[<-t]at l⊢;have⟨j,k,p⟩:=l.o;have u:e<i:=Y
 have v:f<i:=Y
 have y:=kt j 0;have z:=kt k 0;have A:=X<|B8 d.kH.length x 45 AW (.pointer e) (.pointer f) i λB C g=>EL B e f b d c C (q.o.ku g) ((Cb e 0<|g.B e u).T y) ((Cb f 0<|g.B f v).T z) (QO u g.size)<|QO v g.size;clear s t;go_wp21;apply(og b d i q.o).M;rintro D E ⟨rfl,rfl⟩;go_wp21;apply A.o.M;rintro D E ⟨F,G,rfl,I,J⟩;have K:=X<|r.o.T<|J.M r.o.size;go_wp21
 go_ret2
 exact⟨F,G,Z,I,K.o⟩
def G3(b:Nat)(d:Fl)(c:Se)(a:RW)(w:nH a b d)(m:mi d):Calls prog 18 #[.pointer b,.string c] a<|Dm a:=by
 have n:=(Ba a<|tn b).alloc Uo<|tm c;have j:((a.alloc<|tn b).alloc<|tm c).heap[a.heap.size]?=some (tn b):=(Q5 _ _ Uo).T<|QQ _ _;have k:((a.alloc<|tn b).alloc<|tm c).heap[a.heap.size+1]?=some (tm c):=by have:=QQ (a.alloc<|tn b)<|tm c;rw[QR]at this;exact this
 have p:((a.alloc<|tn b).alloc<|tm c).heap.size=a+2:=Uo
 have x:d.kQ.length<=1000:=Ul m.c3 m.C3
 have q:=X<|w.ku n;have r:=X n;have l:=OF j k p
 go_enter func18,ntmps18
 go_upto_region 1 with fail;generalize((a.alloc<|tn b).alloc<|tm c)=i at*;have⟨e,s⟩:=Xq a.heap.size;rw[<-s]at l⊢;have⟨f,t⟩:=Xq<|e+1;rw[<-t]at l⊢;have⟨j,k,p⟩:=l.o;have u:e<i:=Y
 have v:f<i:=Y
 have y:=kt j 0;have z:=kt k 0;have A:=X<|B8 d.kQ.length x 43 AX (.pointer e) (.pointer f) i λB C g=>EM B e f b d c C (q.o.ku g) ((Cb e 0<|g.B e u).T y) ((Cb f 0<|g.B f v).T z) (QO u g.size)<|QO v g.size;clear s t;go_wp21;apply(vw b d i q.o).M;rintro D E ⟨rfl,rfl⟩;go_wp21;apply A.o.M;rintro D E ⟨F,G,rfl,I,J⟩;have K:=X<|r.o.T<|J.M r.o.size;go_wp21
 go_ret2
 exact⟨F,G,Z,I,K.o⟩
def KY{n:Nat->Prop}{a:RW}{d:RE}{b c:Nat}{m:List RK}(e:kz kM n a (d,b,c) m)(u:b<=1000)(f:Se):
  Calls prog 86 #[(d,b,c),.string f] a λg i=>(∃p:Int,g=.returned (.int .i64 p))/\i=a:=by
 have v:=e.len.1;by_cases q:b=0
 .subst q;exact(Tryz.slices_Index_string_empty d c f a).M λg i ⟨j,k⟩=>⟨⟨_,j⟩,k⟩
 .obtain⟨r,o,w,rfl,_⟩:=e.ll kM.ok 0 _<|Q6 Y;refine(Tryz.slices_Index_string r o b c (m.map λs=>⟨s.toArray⟩) f a (by rw[RN];omega) Y λt l=>?_).M λg i ⟨j,k⟩=>⟨⟨_,j⟩,k⟩
  rw[RN]at l;rw[(e.HQ t _<|Q6 l).2];simp[List.getD,l,tx]
def nD.grown{b:Nat}{w w':RW}{a d:Nat}{e:Option Nat}(f:nD b w a d)(g:w.grownBy w' e)(i:∀z,e=some z->z≠a/\z<b):nD b w' a d:=by have k:=f.lt;have⟨l,m,n,p,q,r,s,t,u,v,x,j,y⟩:=f;exact⟨l,m,n,p,q,r,s,t,u,v,(g.B a k λc=>(i a c.symm).1 Z).T x,j.grown lL.ok g λz c=>⟨id,λA=>Ul ((j.ge z A.symm).1)<|(i z c).2⟩,y⟩
def pK{a:Nat}{b:RW}{c:Nat}{d:R0}{e:List Int}(f:Nat)(g:R0)(i:kJ lL 2 1 (λ_=>False) b a d e)(m:c<a):kJ lL 2 1 (λ_=>False) (b.setCell (sa c f) g) a d e:=
 i.grown lL.ok (kE b c f g) (λk j=>⟨id,λl=>by injection j with j;have:=(i.ge k l.symm).1;omega⟩)
def nD.Pe{b:Nat}{d:RW}{a e:Nat}(f:nD b d a e)(g:a<b)(c:Int)(i:oP c):nD b (d.setCell a<|.int .i64 c) a e:=by have⟨y,j,k,l,m,n,p,q,r,s,t,u,z,v,w,x⟩:=f;exact⟨c,j,k,l,m,n,p,q,r,s,kr t,pK _ _ u g,i,v,w,x⟩
def nD.yv{b:Nat}{w:RW}{a c:Nat}(e:nD b w a c)(f:a<b)(d:Int):nD b (w.setCell (sd a)<|.int .i64 d) a c:=by have⟨g,y,i,j,k,l,m,n,p,q,r,s,t,u,v,x⟩:=e;exact⟨g,d,i,j,k,l,m,n,p,q,kr r,pK _ _ s f,t,u,v,x⟩
def nD.oO{b:Nat}{w:RW}{a c:Nat}(e:nD b w a c)(f:a<b)(d:Nat):nD b (w.setCell (rm a)<|.int .u8 ((d:Nat):Int)) a c:=by have⟨g,i,y,j,k,l,m,n,p,q,r,s,t,u,v,x⟩:=e;exact⟨g,i,d,j,k,l,m,n,p,q,kr r,pK _ _ s f,t,u,v,x⟩
def nD.FL{b:Nat}{c:RW}{a d:Nat}(f:nD b c a d)(g:a<b)(e:Int):nD b (c.setCell (sz a)<|.int .i64 e) a d:=by have⟨i,j,k,y,l,m,n,p,q,r,s,t,u,v,w,x⟩:=f;exact⟨i,j,k,e,l,m,n,p,q,r,kr s,pK _ _ t g,u,v,w,x⟩
def nD.sk{b:Nat}{w:RW}{a d:Nat}(e:nD b w a d)(f:a<b)(c:Int)(g:oP c):nD b (w.setCell (Iv a)<|.int .i64 c) a d:=by have⟨i,j,k,l,y,m,n,p,q,r,s,t,u,z,v,x⟩:=e;exact⟨i,j,k,l,c,m,n,p,q,r,kr s,pK _ _ t f,u,g,v,x⟩
def nD.LO{b:Nat}{w:RW}{a c:Nat}(e:nD b w a c)(f:a<b)(d:Int):nD b (w.setCell (An a)<|.int .i64 d) a c:=by have⟨g,i,j,k,l,y,m,n,p,q,r,s,t,u,v,x⟩:=e;exact⟨g,i,j,k,l,d,m,n,p,q,kr r,pK _ _ s f,t,u,v,x⟩
def nD.lQ{b:Nat}{w:RW}{a c:Nat}(e:nD b w a c)(f:a<b)(d:Int):nD b (w.setCell (zc a)<|.int .i64 d) a c:=by have⟨g,i,j,k,l,m,y,n,p,q,r,s,t,u,v,x⟩:=e;exact⟨g,i,j,k,l,m,d,n,p,q,kr r,pK _ _ s f,t,u,v,x⟩
def nD.FO{b:Nat}{d:RW}{a e:Nat}(f:nD b d a e)(g:a<b)(c:Int)(i:oP c):nD b (d.setCell (uc a)<|.int .i64 c) a e:=by have⟨j,k,l,m,n,p,q,y,r,s,t,u,v,w,z,x⟩:=f;exact⟨j,k,l,m,n,p,q,c,r,s,kr t,pK _ _ u g,v,w,i,x⟩
def qy.to{f:RW}{g:Nat}{w w':RW}{b i c:Nat}{j:Fl}{k:Nat}{l m:Se}{n p:Bool}(a:qy f g w b i c j k l n)(d:nY w b c l.size n w' m p):qy f g w' b i c j k m p:=
 ⟨a.rc.to d,a.ev.grown d.gr (λq e=>by injection e with e;subst e;exact⟨a.le.2.2,a.lr⟩),a.lr,a.le,QT a.hi d.gr.size⟩
def qL{k:RW}{l:Nat}{m:RW}{d e n:Nat}{p:Fl}{f:Nat}{q:Se}{r:Bool}(v:qy k l m d e n p f q r):Calls prog 19 (HK d e) m<|xb k l d e n p f q r:=by
 have s:=v
 go_enter func19,ntmps19
 go_wp21;apply(mS s.rc.is _).M;rintro b z ⟨_,A,B,rfl,g,_⟩;have c:=(RC (s.to g)<|RC g.le g.mo)
 go_wp21;apply(c.1.rc.number).M;rintro b C ⟨t,D,E,rfl,w,i,_⟩;have a:=(RC (c.1.to i)<|RC (QT i.le c.2.1) λb=>i.mo<|c.2.2 b)
 have⟨⟨F,G⟩,I⟩:=a.1.ev.fz 4 Un;have J:=a.1.ev.lt;go_wp21;have u:=(a.1.put 4 (.int .i64 t) f<|a.1.ev.sk a.1.le.2.1 t w)
 apply(mS u.rc.is _).M;rintro b K ⟨_,x,y,rfl,j,_⟩;go_wp21
 go_end0
 exact⟨_,y,x,Z,u.to j,QT j.le a.2.1,λb=>j.mo<|a.2.2 b⟩
def pY.alloc{b:RW}{lo:Nat}{c:RW}{d e f:Nat}{g:Fl}{i:Se}{j:Bool}{k:Array R0}{vQ:R0}{l:List Int}{x:RW}(m:pY b lo c d e f g i j k vQ l x)(o:Obj):pY b lo c d e f g i j k vQ l<|x.alloc o:=m.grow (QV _ _ none) (λn a=>by cases a) (m.own.grown lL.ok (QV _ _ none) λn a=>by cases a)
def pY.ku{b:RW}{c:Nat}{d:RW}{e f g:Nat}{i:Fl}{j:Se}{k:Bool}{l:Array R0}{vQ:R0}{m:List Int}{x n:RW}(p:pY b c d e f g i j k l vQ m x)(q:Below x x n):pY b c d e f g i j k l vQ m n:=p.grow (kC q) (λr a=>by cases a) (p.own.grown lL.ok (kC q) λr a=>by cases a)
def pY.call{i:RW}{p:Nat}{q:RW}{d e f:Nat}{j:Fl}{k:Se}{l:Bool}{r:Array R0}{s:R0}{t:List Int}{g u:RW}{m v:Se}{n w:Bool}(a:pY i p q d e f j k l r s t g)(x:tW i g d f j m n)(y:m.size<=k.size)(z:l=true->n=true)(c:nY g d f m.size n u v w):pY i p q d e f j k l r s t u:=by have A:=a.b;have B:e<g:=(QP.1 a.c).1;exact⟨⟨v,w,x.to c,QT c.le y,λb=>c.mo<|z b⟩,(c.gr.B e B λb=>by injection b with b;exact A.2.2.1 b.symm).T a.c,a.own.grown lL.ok c.gr λC b=>⟨id,λD=>by injection b with b;have:=(a.v C D.symm).1;omega⟩,QT a.s c.gr.size,a.ls,a.b,a.v⟩
def pY.store{v:RW}{l:Nat}{K:RW}{f i m:Nat}{w:Fl}{x:Se}{L:Bool}{n y:Int}{z:Nat}{A p B C q:Int}{D j:R0}{c:List Int}{b:RW}{E:Nat}{d:Se}{F:Bool}{r:Int}(g:pY v l K f i m w x L #[.int .i64 n,y,.int .u8 (z:Nat),A,p,B,C,q,D] D c b)(k:oP n/\oP p/\oP q/\(∀b∈c,oP b)/\c.length<=E)(s:pB b f m d F)(T:d.size<=x.size)(M:kJ lL 2 1 (λ_=>False) b l j<|c++[r])(N:oP r):qy v l (b.setCell (AS i) j) f i m w (E+1) d F:=by
 have⟨O,U,a,V,_⟩:=g.rd;have⟨P,G,I,J⟩:=g.b;have Q:d.size<=281474976710656:=by
  have e:=s.symm.T a.is;injection e with e;injection e with e;have t:Value.string d=.string O:=by have:=RH (λR:Array R0=>R[1]?) e;simpa using this
  injection t with t;rw[t];exact a.sm
 refine⟨⟨((kE b i 8 j).B f s.lt λu=>by injection u with u;exact I u).T s,zY a.CW (kE _ _ _ _) J,a.ge,a.ft,a.gd,a.er,a.lo,Q⟩,⟨n,y,z,A,p,B,C,q,j,c++[r],kr g.c,pK _ _ M G,k.1,k.2.1,k.2.2.1,λS hy=>?_,by rw[Q3,List.length_singleton];omega⟩,P,⟨J,G,I⟩,QT (QT g.ls g.s) (kE _ _ _ _).size⟩;rcases SG.1 hy with hy|hy;exact k.2.2.2.1 S hy;rw[Rw.1 hy];exact N
def zJ{E:RW}{x:Nat}{w:RW}{n i B:Nat}{F:Fl}{ag:Nat}{aH:Se}{aI:Bool}(I:qy E x w n i B F ag aH aI)(bX:ag<=2000000):Calls prog 47 (HK n i) w<|xb E x n i B F (ag+2) aH aI:=by
 have aC:=(RC I (RC (QX aH.size) λa:aI=true=>a))
 have⟨bj,bw,bx,bz,bA⟩:=Rj B9;have G:=(RC bw<|RC bx<|RC bz bA)
 go_enter func47,ntmps47
 go_wp21;apply(aC.1.rc.number).M;rintro a bY ⟨m,ah,bk,rfl,p,l,_⟩;have ai:=(RC (aC.1.to l)<|RC (QT l.le aC.2.1) λa=>l.mo<|aC.2.2 a)
 have⟨⟨bZ,bl⟩,bm⟩:=ai.1.ev.fz 4 Un;have bn:=ai.1.ev.lt;go_wp21;have aD:=(RC (ai.1.put 4 _ ag<|ai.1.ev.sk ai.1.le.2.1 m p) ai.2)
 apply(mS aD.1.rc.is _).M;rintro a aj ⟨_,ak,J,rfl,l,_⟩;have aJ:=(RC (aD.1.to l)<|RC (QT l.le aD.2.1) λa=>l.mo<|aD.2.2 a)
 have K:=aJ.1;go_upto_region 2 with fail;have⟨L,al,am,an,M,ao,I,N,bB,d,O,Q,q⟩:=K.ev;obtain⟨r,s,rfl,_,_⟩:=Q.form;have ap:oP L/\oP M/\oP N/\(∀b∈d,oP b)/\d.length<=3000000:=⟨q.1,q.2.1,q.2.2.1,q.2.2.2.1,W q.2.2.2.2⟩
 have aK:=Q.ge;have aL:x<=aj:=K.hi;have aM:pY E x aj n i B F J ak (me L al am an M ao I N r d.length s) (r,d.length,s) d aj:=⟨⟨J,ak,K.rc,QX _,id⟩,O,Q,QX _,aL,⟨K.lr,K.le.2.1,K.le.2.2,K.le.1⟩,aK⟩
 refine sf (λb=>pY E x aj n i B F J ak (me L al am an M ao I N r d.length s) (r,d.length,s) d b) (λm w=>∃(e:Se) (f:Bool),qy E x w n i B F (ag+1) e f/\e.size<=J.size/\(ak=true->f=true)/\(f=false->e.size<J.size)) (mM [(·=.pointer i),(·=.pointer i),(·=.pointer i),(Pp i 8),(·=.slice r d.length s),(·=.pointer n),Tr,Tr,Tr,(·=.pointer i),(Pp i 8),Tr]) [(6,λm w=>∃b:Int,m=b/\oP b/\∃(e:Se) (f:Bool),pB w n B e f/\e.size<=J.size/\(ak=true->f=true)/\(f=false->e.size<J.size)),(7,λm w=>∃(b:Int) (j:Nat),m=.slice j 1 1/\oP b/\aj<=j/\w.heap[j]?=some (.cells #[.int .i64 b] 2)),(8,λm w=>∃(b:Int) (aq:RE) (ar:Nat),m=.slice aq (d.length+1) ar/\oP b/\kJ lL 2 1 (λ_=>False) w x m (d++[b]))] (aM.ku (Sf _ _).drew) ⟨?_,?_,?_,?_,?_,?_,?_,?_,?_,?_,?_,?_,trivial⟩ ?_;exact Pf 1;exact Pf 1;exact Pv 12 1;exact Pv 13 2;exact Pl 14 3 λ_ c=>kt c.c 8;exact Pf 0;intro z w c R p t S;have ca:=Sv 16 p 5;have⟨bk,ah,au,T,av⟩:=c.rd;refine .c (au.number) ?_;rintro a aN ⟨b,y,aE,rfl,u,C,aO⟩;have aP:=(c.call au T av C)
 exact⟨_,Z,⟨trivial,aP,Qc ⟨b,Z,u,aE,y,C.is,QT C.le T,λa=>C.mo<|av a,λa=>QO (aO a) T⟩<|Q2<|Qe⟩⟩;intro z w c R p t S;obtain⟨bC,aQ,bo,bp⟩:=kW t 0;have bD:=Sl 17 aQ;have aw:=c.s;exact .q (g:=⟨trivial,c.alloc _,Qd (λv ⟨b,a,u,e,f,U,A⟩=>⟨b,a,u,e,f,sR U (QV _ _ none) (λa=>by cases a),A⟩)<|Qc ⟨_,_,Z,bo,aw,QQ _ _⟩<|Qb<|Qe⟩);intro z w c R p t S;have bE:=Sv 15 p 4;obtain⟨aR,V,bq,bF,bG,aS⟩:=kW t 1;have cb:=Sl 18 bq;have aT:=c.own;have ax:=c.v;have aw:=c.s;have bH:=c.ls;have bI:=c.b;have aU:∀(D:Nat) (v:R0),(#[Value.int .i64 aR]).toList[D]?=some v->w.cell? ((V:Addr).add D)=some v:=λD v aV=>by rw[addr_add,Q7];exact kA aS D v (by simpa using aV)
 have⟨aW,aX,aN,aY,aZ,ba,aa,bJ⟩:=kS (P:=prog) (w:=w) x 36 36 2 bj _ 1 8 underlying36 G.1 G.2.1 G.2.2.1 G.2.2.2 Z lL.ok (λ_=>False) (r,d.length,s) d aT ⟨V,0,none⟩ (#[Value.int .i64 aR]).toList aR aU Z (by have:=ap.2.2.2.2;unfold maxLen;omega) (W ap.2.2.2.2) Y;have ah:z.eval (.tmp 15)=(.slice r d.length s):=by simp[Act.eval,bE]
 have y:z.eval (.tmp 18)=.slice V 1 1:=bq;refine .h λbb ab=>?_;simp only[execOp,resolve,invoke,builtin,RD,RF,Ro,Rv,Rq,RG,ah,y,aY];exact ab ⟨trivial,c.app aa ba,Qd (λv ⟨b,a,u,e,f,U,A⟩=>⟨b,a,u,e,f,sR U aa λa=>W<|ax n a,A⟩)<|Qd (λv ⟨b,j,a,u,O,ay⟩=>⟨b,j,a,u,O,(aa.B j (QP.1 ay).1 λbc=>W<|(ax j bc.symm).2).T ay⟩)<|Qc ⟨_,aW,aX,Z,bF,aZ⟩<|Qe⟩;exact Pv 11 0;exact Pv 20 9;intro z w c R p t S;have cc:=Sv 21 p 10;obtain⟨cd,aq,ar,br,bK,bd⟩:=kW t 2;have ce:=Sl 19 br;obtain⟨bC,aQ,bo,bp⟩:=kW t 0;have bD:=Sl 17 aQ;have bL:=kx c.c 8;have bM:=kt c.c 8;refine .h λbb ab=>?_;go_simp;exact ab<|bp.elim λe A=>A.elim λf ac=>⟨e,f,c.store q ac.1 ac.2.1 (by have az:=bd;rw[br]at az;exact az) bK,ac.2⟩;intro bN cf cg bO;have⟨aE,y,be,bf,bg,_⟩:=bO;have aF:=(RC be<|RC (QT bf aJ.2.1) λa=>bg<|aJ.2.2 a)
 simp only[nx];go_wp21;apply(lZ aF.1.rc.is _).M;rintro a aA ⟨j,ad,rfl,l,_⟩;have ae:=(RC (aF.1.to l)<|RC (QT l.le aF.2.1) λa=>l.mo<|aF.2.2 a)
 cases j with
 |false=>
  go_wp21;apply(lZ ae.1.rc.is _).M;rintro a bP ⟨j,aB,rfl,l,_⟩;have k:=(RC (ae.1.to l)<|RC (QT l.le ae.2.1) λa=>l.mo<|ae.2.2 a)
  cases j with
  |false=>
   go_wp21
   go_end0
   exact⟨_,aB,_,Z,k.1.more Y,k.2.1,k.2.2⟩
  |true=>
   have⟨⟨bQ,bl⟩,bm⟩:=k.1.ev.fz 5 Un;have bn:=k.1.ev.lt;go_wp21
   go_end0
   exact⟨_,aB,_,Z,(k.1.put 5 _ _<|k.1.ev.LO k.1.le.2.1 1).more Y,k.2.1,k.2.2⟩
 |true=>
  have af:=ae.1;go_upto_region 4 with fail;have⟨L,al,am,an,M,ao,I,N,bB,d,O,Q,q⟩:=af.ev;obtain⟨r,s,rfl,_,_⟩:=Q.form;have q:=q;have ap:oP L/\oP M/\oP N/\(∀b∈d,oP b)/\d.length<=3000000:=⟨q.1,q.2.1,q.2.2.1,q.2.2.2.1,W q.2.2.2.2⟩
  have aK:=Q.ge;have aL:x<=aA:=af.hi;have aM:pY E x aA n i B F ad y (me L al am an M ao I N r d.length s) (r,d.length,s) d aA:=⟨⟨ad,y,af.rc,QX _,id⟩,O,Q,QX _,aL,⟨af.lr,af.le.2.1,af.le.2.2,af.le.1⟩,aK⟩
  refine sf (λb=>pY E x aA n i B F ad y (me L al am an M ao I N r d.length s) (r,d.length,s) d b) (λm w=>∃(e:Se) (f:Bool),qy E x w n i B F ((ag+1)+1) e f/\e.size<=ad.size/\(y=true->f=true)/\(f=false->e.size<ad.size)) (mM [(·=.pointer i),(·=.pointer i),(·=.pointer i),(Pp i 8),(·=.slice r d.length s),(·=.pointer n),Tr,Tr,Tr,(·=.pointer i),(Pp i 8),Tr]) [(6,λm w=>∃b:Int,m=b/\oP b/\∃(e:Se) (f:Bool),pB w n B e f/\e.size<=ad.size/\(y=true->f=true)/\(f=false->e.size<ad.size)),(7,λm w=>∃(b:Int) (j:Nat),m=.slice j 1 1/\oP b/\aA<=j/\w.heap[j]?=some (.cells #[.int .i64 b] 2)),(8,λm w=>∃(b:Int) (aq:RE) (ar:Nat),m=.slice aq (d.length+1) ar/\oP b/\kJ lL 2 1 (λ_=>False) w x m (d++[b]))] (aM.ku (Sf _ _).drew) ⟨?_,?_,?_,?_,?_,?_,?_,?_,?_,?_,?_,?_,trivial⟩ ?_;exact Pf 1;exact Pf 1;exact Pv 25 1;exact Pv 26 2;exact Pl 27 3 λ_ c=>kt c.c 8;exact Pf 0;intro z w c R p t S;have ch:=Sv 29 p 5;have⟨bk,ah,au,T,av⟩:=c.rd;refine .c (au.number) ?_;rintro a aN ⟨b,y,aE,rfl,u,C,aO⟩;have aP:=(c.call au T av C)
  exact⟨_,Z,⟨trivial,aP,Qc ⟨b,Z,u,aE,y,C.is,QT C.le T,λa=>C.mo<|av a,λa=>QO (aO a) T⟩<|Q2<|Qe⟩⟩;intro z w c R p t S;obtain⟨bR,bh,bs,bt⟩:=kW t 0;have bS:=Sl 30 bh;have aw:=c.s;exact .q (g:=⟨trivial,c.alloc _,Qd (λv ⟨b,a,u,e,f,U,A⟩=>⟨b,a,u,e,f,sR U (QV _ _ none) (λa=>by cases a),A⟩)<|Qc ⟨_,_,Z,bs,aw,QQ _ _⟩<|Qb<|Qe⟩);intro z w c R p t S;have bT:=Sv 28 p 4;obtain⟨bi,V,bu,bU,bG,aS⟩:=kW t 1;have ci:=Sl 31 bu;have aT:=c.own;have ax:=c.v;have aw:=c.s;have bH:=c.ls;have bI:=c.b;have aU:∀(D:Nat) (v:R0),(#[Value.int .i64 bi]).toList[D]?=some v->w.cell? ((V:Addr).add D)=some v:=λD v aV=>(by rw[addr_add,Q7];exact kA aS D v<|by simpa using aV);have⟨aW,aX,aN,aY,aZ,ba,aa,bJ⟩:=kS (P:=prog) (w:=w) x 36 36 2 bj _ 1 8 underlying36 G.1 G.2.1 G.2.2.1 G.2.2.2 Z lL.ok (λ_=>False) (r,d.length,s) d aT ⟨V,0,none⟩ (#[Value.int .i64 bi]).toList bi aU Z (by have:=ap.2.2.2.2;unfold maxLen;omega) (W ap.2.2.2.2) Y;have ah:z.eval (.tmp 28)=(.slice r d.length s):=(by simp[Act.eval,bT]);have y:z.eval (.tmp 31)=.slice V 1 1:=bu;refine .h λbb ab=>?_;simp only[execOp,resolve,invoke,builtin,RD,RF,Ro,Rv,Rq,RG,ah,y,aY];exact ab ⟨trivial,c.app aa ba,Qd (λv ⟨b,a,u,e,f,U,A⟩=>⟨b,a,u,e,f,sR U aa λa=>W<|ax n a,A⟩)<|Qd (λv ⟨b,j,a,u,O,ay⟩=>⟨b,j,a,u,O,(aa.B j (QP.1 ay).1 λbc=>W<|(ax j bc.symm).2).T ay⟩)<|Qc ⟨_,aW,aX,Z,bU,aZ⟩<|Qe⟩;exact Pv 24 0;exact Pv 33 9;intro z w c R p t S;have cj:=Sv 34 p 10;obtain⟨ck,aq,ar,bv,bV,bd⟩:=kW t 2;have cl:=Sl 32 bv;obtain⟨bR,bh,bs,bt⟩:=kW t 0;have bS:=Sl 30 bh;have bL:=kx c.c 8;have bM:=kt c.c 8;refine .h λbb ab=>?_;go_simp;exact ab<|bt.elim λe A=>A.elim λf ac=>⟨e,f,c.store q ac.1 ac.2.1 (by have az:=bd;rw[bv]at az;exact az) bV,ac.2⟩;intro bN cm cn bW;have⟨co,cp,be,bf,bg,_⟩:=bW;have aG:=(RC be<|RC (QT bf ae.2.1) λa=>bg<|ae.2.2 a)
  simp only[nx];go_wp21;apply(lZ aG.1.rc.is _).M;rintro a bP ⟨j,aB,rfl,l,_⟩;have k:=(RC (aG.1.to l)<|RC (QT l.le aG.2.1) λa=>l.mo<|aG.2.2 a)
  cases j with
  |false=>
   go_wp21
   go_end0
   exact⟨_,aB,_,Z,k.1.more Y,k.2.1,k.2.2⟩
  |true=>
   have⟨⟨bQ,bl⟩,bm⟩:=k.1.ev.fz 5 Un;have bn:=k.1.ev.lt;go_wp21
   go_end0
   exact⟨_,aB,_,Z,(k.1.put 5 _ _<|k.1.ev.LO k.1.le.2.1 1).more Y,k.2.1,k.2.2⟩
def G4(ao ap b)(d e:Int)(f:Nat)(g i j k l:Int)(C)(m n:Int)(p:Nat)(q r s t u:Int)(D x)(a y:Nat)(z)(c A:Nat)(aq:kz lL ao b (.slice x a y) C)(ar:kz lL ap b (.slice z c A) D)(aM:∀w,ao w->w<b)(aN:∀w,ap w->w<b)(aO:a<=9223372036854775807)(aP:c<=9223372036854775807):
  Calls prog 7 #[.agg<|me d e f g i j k l x a y,.agg<|me m n p q r s t u z c A] b (kG (.bool<|qD ⟨d,e,f,g,i,j,k,l,C⟩ ⟨m,n,p,q,r,s,t,u,D⟩) b):=by
 have aQ:=X aq;have aR:=X ar;have au:=On aM aN;have aS:=On aO aP;have K:=On aq.len ar.len;have Q:Below b b<|(b.alloc<|.cells (me d e f g i j k l x a y) 38).alloc<|.cells (me m n p q r s t u z c A) 38:=(Ba _ _).alloc Uo _;have L:((b.alloc<|.cells (me d e f g i j k l x a y) 38).alloc<|.cells (me m n p q r s t u z c A) 38).heap[b.heap.size]?=some (.cells (me d e f g i j k l x a y) 38):=(Q5 _ _ Uo).T<|QQ _ _;have E:((b.alloc<|.cells (me d e f g i j k l x a y) 38).alloc<|.cells (me m n p q r s t u z c A) 38).heap[b.heap.size+1]?=some (.cells (me m n p q r s t u z c A) 38):=by have:=QQ (b.alloc<|.cells (me d e f g i j k l x a y) 38)<|.cells (me m n p q r s t u z c A) 38;rw[QR]at this;exact this
 have R:((b.alloc<|.cells (me d e f g i j k l x a y) 38).alloc<|.cells (me m n p q r s t u z c A) 38).heap.size=b+2:=Uo
 have aT:=OK Q L E R;have⟨ai,aj⟩:=Xq<|qD ⟨d,e,f,g,i,j,k,l,C⟩ ⟨m,n,p,q,r,s,t,u,D⟩;rw[<-aj];have ak:=X aj;clear aj
 go_enter func7,ntmps7
 go_upto_region 1 with fail;have⟨Q,L,E,R⟩:=aT.o;have⟨N,av⟩:=Xq<|(b.alloc<|.cells (me d e f g i j k l x a y) 38).alloc<|.cells (me m n p q r s t u z c A) 38;rw[<-av]at Q L E R⊢;clear av;have⟨S,aw⟩:=Xq b.heap.size;have⟨al,ax⟩:=Xq<|S+1;rw[<-aw]at L E R⊢;rw[<-ax]at E⊢;have aU:S<N:=Y
 have aV:al<N:=Y
 have F:=X Q;have aW:=X L;have aX:=X E;have⟨bJ,bK,bL,bM,bN,bO,bP,bQ,aY⟩:=kL L;have⟨bR,bS,bT,bU,bV,bW,bX,bY,aZ⟩:=kL E;clear aw ax;go_cut [68] (λba bb=>ba=.bool (!(d==m&&(e==n&&(f==p&&(g==q&&(i==r&&(j==s&&(k==t&&(l==u&&a==c)))))))))/\N=bb)
 .by_cases c0:d=m
  .subst c0;by_cases ay:e=n
   .subst ay;by_cases az:f=p
    .subst az;by_cases aA:g=q
     .subst aA;by_cases aB:i=r
      .subst aB;by_cases aC:j=s
       .subst aC;by_cases aD:k=t
        .subst aD;by_cases aE:l=u
         .subst aE;by_cases aF:a=c
          .subst aF;go_wp21;go_meet;exact⟨Uo,rfl⟩
          have bc:¬((a:Int)=(c:Int)):=Y;have bd:=X (show(a==c)=false by rw[QW];exact aF);go_wp21;go_meet;exact⟨by rw[bd.o];simp[bc],rfl⟩
         have be:¬(l=u):=Y;have bf:=X (show(l==u)=false by rw[QW];exact aE);go_wp21;go_meet;exact⟨by rw[bf.o];simp[be],rfl⟩
        have bg:¬(k=t):=Y;have bh:=X (show(k==t)=false by rw[QW];exact aD);go_wp21;go_meet;exact⟨by rw[bh.o];simp[bg],rfl⟩
       have bi:¬(j=s):=Y;have bj:=X (show(j==s)=false by rw[QW];exact aC);go_wp21;go_meet;exact⟨by rw[bj.o];simp[bi],rfl⟩
      have bk:¬(i=r):=Y;have bl:=X (show(i==r)=false by rw[QW];exact aB);go_wp21;go_meet;exact⟨by rw[bl.o];simp[bk],rfl⟩
     have bm:¬(g=q):=Y;have bn:=X (show(g==q)=false by rw[QW];exact aA);go_wp21;go_meet;exact⟨by rw[bn.o];simp[bm],rfl⟩
    have bo:¬((f:Int)=(p:Int)):=Y;have bp:=X (show(f==p)=false by rw[QW];exact az);go_wp21;go_meet;exact⟨by rw[bp.o];simp[bo],rfl⟩
   have bq:¬(e=n):=Y;have br:=X (show(e==n)=false by rw[QW];exact ay);go_wp21;go_meet;exact⟨by rw[br.o];simp[bq],rfl⟩
  have bs:¬(d=m):=Y;have bt:=X (show(d==m)=false by rw[QW];exact c0);go_wp21;go_meet;exact⟨by rw[bt.o];simp[bs],rfl⟩
 obtain⟨rfl,rfl⟩:=hcut;cases OP:(d==m&&(e==n&&(f==p&&(g==q&&(i==r&&(j==s&&(k==t&&(l==u&&a==c))))))))with
 |false=>
  have O:ai=false:=by
   rw[ak.o];cases G:qD ⟨d,e,f,g,i,j,k,l,C⟩ ⟨m,n,p,q,r,s,t,u,D⟩with
   |false=>rfl
   |true=>have M:=(rA _ _).1 G;injection M with T U V aa ab ac ad ae af;have bu:a=c:=(by rw[<-K.o.1.1,<-K.o.2.1];exact RH List.length af);rw[T,U,V,aa,ab,ac,ad,ae,bu]at OP;simp at OP
  go_wp21;go_ret;refine⟨?_,F.o⟩;rw[O];rfl
 |true=>
  have aG:=X OP;go_wp21;go_loopw [72] (λam wr=>∃v:Nat,v<=a/\am=v/\C.take v=D.take v/\Below N N wr) (λam _=>a-(intOf am).toNat)
  .exact⟨0,QZ _,rfl,rfl,Sf _ _⟩
  obtain⟨v,bZ,rfl,bv,bw⟩:=hrel;have aH:=X bv;have B:=X bw;have ca:a=c:=(by have:=aG.o;simp at this;exact this.2.2.2.2.2.2.2.2);have aY:=(kL<|(B.o.B S aU).T aW.o).2.2.2.2.2.2.2.2;have aZ:=(kL<|(B.o.B al aV).T aX.o).2.2.2.2.2.2.2.2;have cb:S<wr:=W B.o.size;have cc:al<wr:=W B.o.size;by_cases cd:v<a
  .have aI:=F.o.T<|B.o.M F.o.size;obtain⟨I,P⟩:∃I,C[v]?=some I:=Gx<|W K.o.1.1;obtain⟨J,aJ⟩:∃J,D[v]?=some J:=Gx<|W K.o.2.1;obtain⟨ce,cf,bx,rfl,cg,bz,bA⟩:=(aQ.o.kv lL.ok λw G=>aI.B w<|au.o.1 w G).ll lL.ok v I P;obtain⟨ch,ci,bB,rfl,cj,bC,bD⟩:=(aR.o.kv lL.ok λw G=>aI.B w<|au.o.2 w G).ll lL.ok v J aJ;have bE:bx=[.int .i64 I]:=bz;have bF:bB=[.int .i64 J]:=bC;subst bE bF;have bG:=bA 0 _ rfl;have bH:=bD 0 _ rfl;rw[Q1,Ry]at bG bH;obtain⟨ck,cl⟩:=nL v a;have cm:(v:Int)<(c:Int):=Y;have cn:=aS.o;have aK:=X P;have aL:=X aJ;by_cases ag:I=J
   .have bI:(I==J)=true:=(by rw[ag];simp);have an:=X ag;go_wp21;go_quiet (fail);go_wp21;go_roundw
    .exact⟨v+1,Y,Ur,by rw[Rz,Rz,aH.o,aK.o,aL.o,an.o],B.o.T<|show Below _ wr (wr.drewN nq)from⟨rfl,rfl,rfl,QX _,λ_ _=>rfl⟩⟩
    simp[intOf];omega
   have bI:(I==J)=false:=(by rw[QW];exact ag);have an:=X ag;go_wp21;go_quiet (fail);go_wp21;go_ret;refine⟨?_,F.o.T<|(B.o.T<|show Below _ wr (wr.drewN nq)from⟨rfl,rfl,rfl,QX _,λ_ _=>rfl⟩).M F.o.size⟩;have O:ai=false:=by
    rw[ak.o];cases G:qD ⟨d,e,f,g,i,j,k,l,C⟩ ⟨m,n,p,q,r,s,t,u,D⟩with
    |false=>rfl
    |true=>have M:=(rA _ _).1 G;injection M with T U V aa ab ac ad ae af;have ah:=aK.o;rw[af,aL.o]at ah;injection ah with ah;exact absurd ah.symm an.o
   rw[O];rfl
  obtain rfl:a=v:=Y;go_wp21;go_ret;refine⟨?_,F.o.T<|B.o.M F.o.size⟩;have O:ai=true:=by rw[ak.o,rA];have M:=aG.o;simp only[R1,R2]at M;have⟨T,U,V,aa,ab,ac,ad,ae,af⟩:=M;have P:=aH.o;rw[Re<|W K.o.1.1,Re<|W K.o.2.1]at P;rw[T,U,V,aa,ab,ac,ad,ae,P]
  rw[O];rfl
