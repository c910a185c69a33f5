import Derived.Test.YtidmdcckbdmblaaGreatDoorZ4
import Derived.Test.YtidmdcckbdmblaaGreatDoorZ5
set_option maxRecDepth 1000000
set_option maxHeartbeats 32000000
set_option linter.all false
namespace Go.Proofs.YtidmdcckbdmblaaGreatDoor
open Go.RowKit Go.Proofs.Tryz
theorem kV{g:Type}{P:Program}{w:World}{ops:Array Oper}{rest:List Oper}{o}{a:Act}{Q:Exit->Act->World->Prop}(A:o.guard=none)(s x:Operand)(t:TypeId)
  (B:o.op=.call {callee:=.builtin .append,args:=#[s,x],argTypes:=#[t,t]})
  (lo:Nat) (e:TypeId) (i:TypeInfo) (z:Value) (size j:Nat) (C:P.underlying t=some (.slice e)) (hi:P.info? e=some i) (hz:i.zero=some z)
  (D:i.size=size) (E:i.bytes=j) (F:z.cells.size=size)
  {R:Rel g} (ok:jI R size) (f:Nat->Prop) (v:Value) (xs:List g) (hs:a.eval s=v) (G:jx R e size f w lo v xs)
  (k:Addr) (r:List Value) (l:g) (hx:a.eval x=.slice (some k) 1 1) (I:∀p u,r[p]?=some u->w.cell? (k.add p)=some u)
  (hR:R (λb=>f b/\b<w/\some b≠v.ownBlock) w r l)
  (J:xs.length+1<=maxLen) (L:(xs.length+1)*j<=140737488355328) (M:lo<=w)
  (h:∀c w',jx R e size f w' lo c (xs++[l])->w.grownBy w' v.ownBlock->(c.ownBlock=v.ownBlock\/c.ownBlock=some w.heap.size)->wpList P ops Q rest (a.put o.dst c) w'):wpList P ops Q (o::rest) a w:=by
 obtain⟨q,N,O⟩:=G.own;obtain⟨c,w',S,T,m,_,y⟩:=run_append_own_at (P:=P) w lo t o.type e i z size j C hi hz D E F ok.pos v xs.length q.flatten N k 1 1 r (by rw[ok.len hR];omega) I (ok.one hR) J L M;have U:jx R e size f w' lo c (xs++[l]):=by
  refine⟨q++[r],?_,?_⟩;rw[JU];simpa using T;refine(jD.snoc hR O).imp λr x hx=>ok.M (ok.iV hx λb d=>m.B b d.2.1 (λe=>d.2.2 e)) λb d=>⟨d.1,JI d.2.1 m.size,λe=>?_⟩
  rcases y with n|n;exact d.2.2 (e.T n);rw[n]at e;injection e with e;exact absurd d.2.1 LC
 refine wpList_plain A λK hK=>?_;unfold Oper.wp execOp;simp only[B,resolve,invoke,builtin,KH,KI,Ko,Ky,Ks,KJ,hs,hx,S];exact hK _ _ (h c w' U m y)
end Go.Proofs.YtidmdcckbdmblaaGreatDoor
namespace Go.Proofs.YtidmdcckbdmblaaGreatDoor
open Go.RowKit jJ Go.Proofs.Tryz
theorem jt(l w)(cb:Nat)(y p q A hd own B C D params d)(k c:Nat)(m:List In)(x:In)(h:kn l cb y p q A hd own B C D params (.slice d k c) m w)(N:k<=100000):
  Calls prog 296 #[.pointer (some ⟨cb,0,none⟩),.agg #[.int .u8 x.op,x.a,x.b,x.n]] w (qD l cb y p q A hd own B C D params (.slice d k c) w (.int .i64 (k:Int)) (λao=>ao=m++[x])):=by
 obtain⟨ap,X,r,s,Y⟩:=Kl Eu;have I:=JH (And.intro X (And.intro r (And.intro s Y)));clear X r s Y;have Z:m.length=k:=(h.own.sl tN.ok).len.1;have J:=JH (And.intro Z N);have aa:=h.own.ge;have aq:=JH aa;have aN:=(JJ.1 h.c).1;have ab:=h.lt;have aO:=h.g.size;have O:=Ba w (.cells #[.int .u8 x.op,x.a,x.b,x.n] 429);have H:=(h.iU O)
 have Q:=JH (JK w (.cells #[.int .u8 x.op,x.a,x.b,x.n] 429));have ar:=JH (show(w.alloc (.cells #[.int .u8 x.op,x.a,x.b,x.n] 429)).heap.size=w+1 from LG);clear h aa Z
 go_enter func296,ntmps296
 go_wp2_with fail;have ac:=ar.o;obtain⟨E,ad⟩:=Xq w.heap.size;have au:E≠cb:=LC
 have av:some E≠(Value.slice d k c).ownBlock:=λe=>LA ((aq.o E e.symm).2)
 rw[<-ad]at Q⊢;obtain⟨wr,ae⟩:=Xq (w.alloc (.cells #[.int .u8 x.op,x.a,x.b,x.n] 429));rw[<-ae]at H Q O ac⊢;have aw:E<wr:=LC
 have aP:w.heap.size<=wr:=LC
 clear ae ad ac;have ax:=(lj.start H.g H.c H.own ab)
 refine rr (λx=>lj tN 429 4 (λ_=>False) l wr cb #[y,p,q,A,hd,own,B,C,D,params,(.slice d k c)] 240 (.slice d k c) m x) (λv w=>∃(i:Option Addr) (j:Nat),l.grownBy w (some cb)/\w.heap[cb]?=some (.cells #[y,p,q,A,hd,own,B,C,D,params,(.slice i (k+1) j)] 240 (0,0))/\jx tN 429 4 (λ_=>False) w l (.slice i (k+1) j) (m++[x])/\((Value.slice i (k+1) j).ownBlock=(Value.slice d k c).ownBlock\/∃z,(Value.slice i (k+1) j).ownBlock=some z/\wr<=z)/\wr.heap.size<=w/\∀b,b<wr.heap.size->b≠cb->some b≠(Value.slice d k c).ownBlock->w.heap[b]?=wr.heap[b]?) (kN [(Pp cb 0),(Pp cb 0),(Pp cb 0),(Pp cb 10),(·=.slice d k c),(·=.agg #[.int .u8 x.op,x.a,x.b,x.n]),Tr,Tr,(Pp cb 0),(Pp cb 10),Tr]) [(6,λv w=>∃(b:Nat),v=.slice (some ⟨b,0,none⟩) 1 1/\Nw wr w b/\w.heap[b]?=some (.cells #[.int .u8 x.op,x.a,x.b,x.n] 429 (0,0))),(7,λv w=>∃(i:Option Addr) (j:Nat),v=.slice i (k+1) j/\jx tN 429 4 (λ_=>False) w l v (m++[x])/\(v.ownBlock=(Value.slice d k c).ownBlock\/∃z,v.ownBlock=some z/\wr<=z))] (ax.drew tN.ok) ⟨?_,?_,?_,?_,?_,?_,?_,?_,?_,?_,?_,trivial⟩ ?_;iterate 2
  .exact Pf 0
 .exact Pv 6 1
 .exact Pv 7 2
 .intro t w a hf n hd hw;exact .l 8 (n 3 _ rfl rfl) (iT a.c 10 _ rfl) ⟨rfl,a,Qa⟩
 .intro t w a hf n hd hw;have aQ:=Sl 3 (hf 3 rfl);obtain⟨⟨aR,aS,aT,aU⟩,_⟩:=jA ((a.k E aw au av).T Q.o);replace a:=Hq a;exact .q (g:=⟨rfl,a.o,Qa⟩)
 .intro t w a hf n hd hw;have aV:=Sv 10 n 5;have af:=a.s;replace a:=Hq a;exact .q (g:=⟨trivial,a.o.alloc tN.ok _,Qc ⟨_,rfl,⟨af,LG⟩,JK _ _⟩<|Qb<|Qe⟩)
 .intro t w a hf n hd hw;have ay:=Sv 9 n 4;obtain⟨R,ag,aW,az⟩:=hd _ (Mm 0 rfl) _ rfl rfl;have aX:=Sl 11 ag;have aA:=a.own;have af:=a.s;have aY:=a.ws;have aZ:=a.v;replace a:=Hq a;have ah:∀(L:Nat) (u:Value),(#[.int .u8 x.op,.int .i64 x.a,.int .i64 x.b,.int .i64 x.n]).toList[L]?=some u->w.cell? ((⟨R,0,none⟩:Addr).add L)=some u:=λL u aB=>(by rw[kh,J4];exact iT az L u (by simpa using aB));obtain⟨aC,aD,w',ai,aj,aE,M,ak⟩:=jX (P:=prog) (w:=w) l 238 238 429 ap _ 4 32 underlying238 I.o.1 I.o.2.1 I.o.2.2.1 I.o.2.2.2 rfl tN.ok (λ_=>False) ((.slice d k c)) (m) aA ⟨R,0,none⟩ (#[.int .u8 x.op,.int .i64 x.a,.int .i64 x.b,.int .i64 x.n]).toList x ah ((by unfold tN;rfl)) (by have:=J.o;unfold maxLen;omega) (LA J.o) LC;have p:t.eval (.tmp 9)=(.slice d k c):=(by simp[Act.eval,ay]);have q:t.eval (.tmp 11)=.slice (some ⟨R,0,none⟩) 1 1:=ag;have aF:=J.o.1;rw[aF]at ai aj ak;clear ah;refine .h λK hK=>?_;simp only[execOp,resolve,invoke,builtin,KH,KI,Ko,Ky,Ks,KJ,p,q,ai];exact hK ⟨trivial,a.o.app M aE,Qd (λu ⟨b,e,S,N⟩=>⟨b,e,⟨S.1,JI S.2 ((a.o.ng M)).1⟩,(((a.o.ng M)).2 b S).T N⟩)<|Qc ⟨aC,aD,rfl,aj,ak.imp id (λh=>⟨_,h,LA M.size⟩)⟩<|Qe⟩
 .exact Pv 5 0
 .exact Pv 13 8
 .intro t w a hf n hd hw;have ba:=Sv 14 n 9;obtain⟨i,j,F,G,aG⟩:=hd _ (Mm 1 rfl) _ rfl rfl;have bb:=Sl 12 F;have bc:=JH a.c;replace G:=Hq G;have T:=a.c;have bd:=iY T 10;have hce:=iT T 10 _ rfl;clear T;replace a:=Hq a;refine .h λK hK=>?_;go_simp;exact hK (⟨i,j,(a.o.set tN.ok (λ_ h=>h.elim) (by have f:=G.o;rw[F]at f;exact f) 10 _ rfl).1,(a.o.set tN.ok (λ_ h=>h.elim) (by have f:=G.o;rw[F]at f;exact f) 10 _ rfl).2.1,(a.o.set tN.ok (λ_ h=>h.elim) (by have f:=G.o;rw[F]at f;exact f) 10 _ rfl).2.2,(by have f:=aG;rw[F]at f;exact f),(by rw[JQ];exact a.o.s),(λb U r s=>(J8 _ _ _ _ r).T (a.o.k b U r s))⟩)
 intro be al aH aI;obtain⟨i,j,aJ,V,aK,am,bf,an⟩:=aI;have aL:kn l cb y p q A hd own B C D params (.slice i (k+1) j) (m++[x]) al:=⟨aJ,V,aK,ab⟩
 have aM:kQ cb (.slice d k c) w (.slice i (k+1) j) al:=⟨LC,λb U r s=>⟨(an b LC r s).T (O.B b U),λe=>by rcases am with W|⟨z,W,f⟩;(rw[W]at e;exact s e);(rw[W]at e;injection e with e;omega)⟩⟩
 have bg:IntKind.i64.wrap ((k:Int)+1-1)=(k:Int):=by have:=J.o.2;simp[IntKind.wrap,IntKind.bits,IntKind.signed];omega
 have bh:=iT V 10 _ rfl;clear aH V am an;simp only[je,Act.put,JL,JP,JO];go_wp2_with fail;go_ret;exact⟨rfl,_,_,aL,aM,rfl⟩
theorem qW:kv 224:=λ_ _=>LF
theorem pZ:kv 218:=λ_ _=>LF
theorem vN:kv 219:=λ_ _=>LF
theorem tW:kv 223:=λ_ _=>LF
theorem tX(v)(b:Fw v)(w):Calls prog 222 #[.agg #[tx v.name,.int .u8 v.ty,v.init]] w (jf (.bool true) w):=by
 have a:Below w w (w.alloc (.cells #[tx v.name,.int .u8 v.ty,v.init] 179)):=Ba _ _;have hf:=b.form;obtain⟨name,d,c⟩:=v;simp only at*;rcases hf with⟨rfl,hi⟩|⟨rfl,hi⟩|⟨rfl,rfl⟩
 .have hd:(c != -9223372036854775808)=true:=by simpa using hi
  go_enter func222,ntmps222
  go_wp2;go_ret;exact⟨LG,a⟩
 .rcases hi with rfl|rfl
  .go_enter func222,ntmps222
   go_wp2;go_ret;exact⟨rfl,a⟩
  go_enter func222,ntmps222
  go_wp2;go_ret;exact⟨rfl,a⟩
 go_enter func222,ntmps222
 go_wp2;go_ret;exact⟨rfl,a⟩
theorem Bo(B b w)(cb:Nat)(j l m n hd own d f g params p)(k c:Nat)(q:List In)(name:List UInt8)(h:kn b cb j l m n hd own d f g params (.slice p k c) q w)(hx:vp B b cb d f g params)(v:k<=100000):
  Calls prog 319 #[.pointer (some ⟨cb,0,none⟩),tx name] w (qD b cb j l m n hd own d f g params (.slice p k c) w (.tuple #[]) (λu=>∃x,u=q++[x]/\ko x)):=by
 have H:=h;have i:=hx;have D:=iT h.c 6 _ rfl;have E:=iT h.c 8 _ rfl;have F:=iT h.c 9 _ rfl
 go_enter func319,ntmps319
 go_wp2_with fail;refine(kC H i.jY i.params name).M ?_;rintro e y ⟨r,rfl,rfl⟩;by_cases hr:0<=r
 .go_wp2_with fail;refine(jt b w cb j l m n hd own d f g params p k c q ⟨3,r,0,0⟩ H v).M ?_;rintro e z ⟨rfl,V',u,s,t,rfl⟩;have a:=(And.intro s t)
  go_wp2_with fail
  go_end0
  exact⟨rfl,V',_,a.1,a.2,_,rfl,LK⟩
 .go_wp2_with fail;refine(kC H i.jY i.vars name).M ?_;rintro e y ⟨A,rfl,rfl⟩;by_cases G:0<=A
  .go_wp2_with fail;refine(jt b w cb j l m n hd own d f g params p k c q ⟨2,A,0,0⟩ H v).M ?_;rintro e z ⟨rfl,V',u,s,t,rfl⟩;have a:=(And.intro s t)
   go_wp2_with fail
   go_end0
   exact⟨rfl,V',_,a.1,a.2,_,rfl,LK⟩
  go_wp2_with fail;refine(kC H i.jY i.jl name).M ?_;rintro e y ⟨C,rfl,rfl⟩;go_wp2_with fail;refine(jt b w cb j l m n hd own d f g params p k c q ⟨4,C,0,0⟩ H v).M ?_;rintro e z ⟨rfl,V',u,s,t,rfl⟩;have a:=(And.intro s t)
  go_wp2_with fail
  go_end0
  exact⟨rfl,V',_,a.1,a.2,_,rfl,LK⟩
theorem Bq(d:Nat)(ay:vD d):yy (d+1):=by
 intro ah u w cb y z A B hd own C t D params V ai op n name ad Q c1 args d' hd h R q az aM;obtain rfl:d=d':=LC
 obtain⟨aA,aB,d',hd',af⟩:=az.op;obtain rfl:d=d':=LC
 simp only[Ex.op,Ex.args]at aA aB af;have aC:Q<=2:=LA q.len.1
 have hz:mZ (d+1)=2*mZ d+1:=rfl;have aN:Q*mZ d<=2*mZ d:=KU _ aC;have G:=JH (show ai.length+Q*mZ d+1<=100000/\Q*mZ d+1<=mZ (d+1) from LC);have aj:=Ba w (.cells #[.int .u8 op,tx name,n,.slice ad Q c1] 275);have aD:=(h.iU aj)
 have aE:=(kQ.iU (cb:=cb) (V:=V) aj)
 have aF:=JH (JK w (.cells #[.int .u8 op,tx name,n,.slice ad Q c1] 275));have aO:=(JJ.1 h.c).1;have ak:=h.own.ge;have ae:=JH (show w<(w.alloc (.cells #[.int .u8 op,tx name,n,.slice ad Q c1] 275)).heap.size/\w≠cb/\some w.heap.size≠V.ownBlock from⟨LG,LC,λe=>LA ((ak _ e.symm).2)⟩);have aG:=JH af;have aH:=ay;clear h af ak hd hd' hz
 go_enter func312,ntmps312
 go_wp2_with fail;refine(aH ah u _ cb y z A B hd own C t D params V ai ad Q c1 args aD R q aG.o (LA G.o.1) LC).M ?_;rintro e E ⟨rfl,aP,s,I,ag,J⟩;obtain⟨al,aI⟩:=ag.k _ ae.o.1 ae.o.2.1 ae.o.2.2;obtain⟨P,am⟩:=Xq w.heap.size;have S:=JH (al.T aF.o);have T:w.heap.size<E:=JI ae.o.1 ag.size;rw[<-am]at S T⊢;obtain⟨F,c,rfl⟩:=I.form;have L:=(aE.T ag)
 have M:s.length<=100000:=by obtain⟨l,aJ,aQ,_⟩:=J;rw[aJ,JU];have:=G.o.1;omega
 clear al aI am;obtain⟨⟨U,W,X,Y⟩,_⟩:=jA S.o;have aK:op=1\/op=2\/op=3\/op=4\/op=5\/op=6\/op=7\/op=8\/op=9\/op=10\/op=11\/op=12\/op=13\/op=14\/op=15\/op=16\/op=17\/op=18\/op=19\/op=20\/op=21\/op=22\/op=23:=LC
 rcases aK with rfl|rfl|rfl|rfl|rfl|rfl|rfl|rfl|rfl|rfl|rfl|rfl|rfl|rfl|rfl|rfl|rfl|rfl|rfl|rfl|rfl|rfl|rfl
 .go_wp2_with fail;refine(jt u E cb y z A B hd own C t D params F _ c s ⟨1,0,0,n⟩ I M).M ?_;rintro e N ⟨rfl,i,j,k,p,b⟩;have a:=JH (And.intro k (And.intro (L.T p) (J.snoc (m:=mZ (d+1)) (x:=⟨1,0,0,n⟩) LK b G.o.2)));clear b;go_wp2_with fail
  go_end0
  exact⟨rfl,i,j,a.o.1,a.o.2.1,a.o.2.2⟩
 .go_wp2_with fail;refine(jt u E cb y z A B hd own C t D params F _ c s ⟨1,0,0,1⟩ I M).M ?_;rintro e N ⟨rfl,i,j,k,p,b⟩;have a:=JH (And.intro k (And.intro (L.T p) (J.snoc (m:=mZ (d+1)) (x:=⟨1,0,0,1⟩) LK b G.o.2)));clear b;go_wp2_with fail
  go_end0
  exact⟨rfl,i,j,a.o.1,a.o.2.1,a.o.2.2⟩
 .go_wp2_with fail;refine(jt u E cb y z A B hd own C t D params F _ c s ⟨1,0,0,0⟩ I M).M ?_;rintro e N ⟨rfl,i,j,k,p,b⟩;have a:=JH (And.intro k (And.intro (L.T p) (J.snoc (m:=mZ (d+1)) (x:=⟨1,0,0,0⟩) LK b G.o.2)));clear b;go_wp2_with fail
  go_end0
  exact⟨rfl,i,j,a.o.1,a.o.2.1,a.o.2.2⟩
 .go_wp2_with fail;refine(jt u E cb y z A B hd own C t D params F _ c s ⟨5,0,0,0⟩ I M).M ?_;rintro e N ⟨rfl,i,j,k,p,b⟩;have a:=JH (And.intro k (And.intro (L.T p) (J.snoc (m:=mZ (d+1)) (x:=⟨5,0,0,0⟩) LK b G.o.2)));clear b;go_wp2_with fail
  go_end0
  exact⟨rfl,i,j,a.o.1,a.o.2.1,a.o.2.2⟩
 .go_wp2_with fail;refine(Bo ah u E cb y z A B hd own C t D params F _ c s name I R M).M ?_;rintro e N ⟨rfl,i,j,k,p,x,b,aL⟩;have a:=JH (And.intro k (And.intro (L.T p) (J.snoc (m:=mZ (d+1)) aL b G.o.2)));clear b;go_wp2_with fail
  go_end0
  exact⟨rfl,i,j,a.o.1,a.o.2.1,a.o.2.2⟩
 .go_wp2_with fail;refine rr (λx=>kn u cb y z A B hd own C t D params (.slice F s.length c) s x/\Below E E x) (λv w=>∃(i:Value) (j:List In) (r:Int),kn u cb y z A B hd own C t D params i j w/\kQ cb (.slice F s.length c) E i w/\j=s++[⟨6,r,0,0⟩]) (kN [(Pp cb 0),(Pp P 0),(·=.int .u8 6),(Pp cb 0),(Pp cb 0),(Pp cb 7),(·=t),(Pp P 1),(·=tx name),Tr,Tr,Tr]) [(9,λv w=>∃r:Int,v=r),(10,λv w=>∃r:Int,v=.agg #[.int .u8 6,r,.int .i64 0,.int .i64 0])] (⟨I.iU (Below.refl _ _).drew,(Below.refl _ _).drew⟩) ⟨?_,?_,?_,?_,?_,?_,?_,?_,?_,?_,?_,?_,trivial⟩ ?_;exact Pf 0;exact Pf 3;intro O w f hf q hd hw;have an:=Sv 48 q 1;obtain⟨⟨U,W,X,Y⟩,_⟩:=jA ((f.2.B P T).T S.o);replace f:=Hq f;exact .q (g:=⟨rfl,f.o,Qa⟩);exact Pf 0;exact Pv 50 3;exact Pv 51 4;intro O w f hf q hd hw;exact .l 52 (q 5 _ rfl rfl) (iT f.1.c 7 _ rfl) ⟨rfl,f,Qa⟩;exact Pf 3;intro O w f hf q hd hw;have ao:=Sv 54 q 7;obtain⟨⟨U,W,X,Y⟩,_⟩:=jA ((f.2.B P T).T S.o);replace f:=Hq f;exact .q (g:=⟨rfl,f.o,Qa⟩);intro O w f hf q hd hw;have ap:=Sv 53 q 6;have aq:=Sv 55 q 8;clear hf q hd hw;replace f:=Hq f;refine .h λK hK=>?_;go_simp;refine⟨rfl,?_⟩;refine Calls.M (kC f.o.1 R.jY R.kg name) ?_;rintro e w' ⟨r,he,hw⟩;subst hw;subst he;exact⟨_,rfl,hK ⟨trivial,f.o,Qc ⟨r,rfl⟩<|Qb<|Qe⟩⟩;intro O w f hf q hd hw;have ar:=Sv 49 q 2;obtain⟨r,Z⟩:=hd _ (Mm 0 rfl) _ rfl rfl;have au:=Sl 56 Z;exact .q (g:=⟨trivial,f,Qb<|Qc ⟨r,rfl⟩<|Qa⟩);intro O w f hf q hd hw;have av:=Sv 47 q 0;obtain⟨r,aa⟩:=hd _ (Mm 1 rfl) _ rfl rfl;have aw:=Sl 57 aa;clear hf q hd hw;replace f:=Hq f;refine .h λK hK=>?_;go_simp;refine⟨rfl,?_⟩;refine Calls.M (jt u w cb y z A B hd own C t D params F _ c s ⟨6,r,0,0⟩ f.o.1 M) ?_;rintro e w' ⟨he,i,j,k,p,b⟩;subst he;refine⟨_,rfl,?_⟩;exact hK (⟨i,j,r,k,(kQ.iU f.o.2).T p,b⟩);intro ax N ab ac;obtain⟨i,j,r,k,p,b⟩:=ac;have a:=JH (And.intro k (And.intro (L.T p) (J.snoc (m:=mZ (d+1)) (x:=⟨6,r,0,0⟩) LK b G.o.2)));clear b ab;simp only[je,Act.put,JL,JP,JO];go_wp2_with fail
  go_end0
  exact⟨rfl,i,j,a.o.1,a.o.2.1,a.o.2.2⟩
 .go_wp2_with fail;refine rr (λx=>kn u cb y z A B hd own C t D params (.slice F s.length c) s x/\Below E E x) (λv w=>∃(i:Value) (j:List In) (r:Int),kn u cb y z A B hd own C t D params i j w/\kQ cb (.slice F s.length c) E i w/\j=s++[⟨7,r,0,0⟩]) (kN [(Pp cb 0),(Pp P 0),(·=.int .u8 7),(Pp cb 0),(Pp cb 0),(Pp cb 7),(·=t),(Pp P 1),(·=tx name),Tr,Tr,Tr]) [(9,λv w=>∃r:Int,v=r),(10,λv w=>∃r:Int,v=.agg #[.int .u8 7,r,.int .i64 0,.int .i64 0])] (⟨I.iU (Below.refl _ _).drew,(Below.refl _ _).drew⟩) ⟨?_,?_,?_,?_,?_,?_,?_,?_,?_,?_,?_,?_,trivial⟩ ?_;exact Pf 0;exact Pf 3;intro O w f hf q hd hw;have an:=Sv 48 q 1;obtain⟨⟨U,W,X,Y⟩,_⟩:=jA ((f.2.B P T).T S.o);replace f:=Hq f;exact .q (g:=⟨rfl,f.o,Qa⟩);exact Pf 0;exact Pv 50 3;exact Pv 51 4;intro O w f hf q hd hw;exact .l 52 (q 5 _ rfl rfl) (iT f.1.c 7 _ rfl) ⟨rfl,f,Qa⟩;exact Pf 3;intro O w f hf q hd hw;have ao:=Sv 54 q 7;obtain⟨⟨U,W,X,Y⟩,_⟩:=jA ((f.2.B P T).T S.o);replace f:=Hq f;exact .q (g:=⟨rfl,f.o,Qa⟩);intro O w f hf q hd hw;have ap:=Sv 53 q 6;have aq:=Sv 55 q 8;clear hf q hd hw;replace f:=Hq f;refine .h λK hK=>?_;go_simp;refine⟨rfl,?_⟩;refine Calls.M (kC f.o.1 R.jY R.kg name) ?_;rintro e w' ⟨r,he,hw⟩;subst hw;subst he;exact⟨_,rfl,hK ⟨trivial,f.o,Qc ⟨r,rfl⟩<|Qb<|Qe⟩⟩;intro O w f hf q hd hw;have ar:=Sv 49 q 2;obtain⟨r,Z⟩:=hd _ (Mm 0 rfl) _ rfl rfl;have au:=Sl 56 Z;exact .q (g:=⟨trivial,f,Qb<|Qc ⟨r,rfl⟩<|Qa⟩);intro O w f hf q hd hw;have av:=Sv 47 q 0;obtain⟨r,aa⟩:=hd _ (Mm 1 rfl) _ rfl rfl;have aw:=Sl 57 aa;clear hf q hd hw;replace f:=Hq f;refine .h λK hK=>?_;go_simp;refine⟨rfl,?_⟩;refine Calls.M (jt u w cb y z A B hd own C t D params F _ c s ⟨7,r,0,0⟩ f.o.1 M) ?_;rintro e w' ⟨he,i,j,k,p,b⟩;subst he;refine⟨_,rfl,?_⟩;exact hK (⟨i,j,r,k,(kQ.iU f.o.2).T p,b⟩);intro ax N ab ac;obtain⟨i,j,r,k,p,b⟩:=ac;have a:=JH (And.intro k (And.intro (L.T p) (J.snoc (m:=mZ (d+1)) (x:=⟨7,r,0,0⟩) LK b G.o.2)));clear b ab;simp only[je,Act.put,JL,JP,JO];go_wp2_with fail
  go_end0
  exact⟨rfl,i,j,a.o.1,a.o.2.1,a.o.2.2⟩
 .go_wp2_with fail;refine rr (λx=>kn u cb y z A B hd own C t D params (.slice F s.length c) s x/\Below E E x) (λv w=>∃(i:Value) (j:List In) (r:Int),kn u cb y z A B hd own C t D params i j w/\kQ cb (.slice F s.length c) E i w/\j=s++[⟨8,r,0,0⟩]) (kN [(Pp cb 0),(Pp P 0),(·=.int .u8 8),(Pp cb 0),(Pp cb 0),(Pp cb 7),(·=t),(Pp P 1),(·=tx name),Tr,Tr,Tr]) [(9,λv w=>∃r:Int,v=r),(10,λv w=>∃r:Int,v=.agg #[.int .u8 8,r,.int .i64 0,.int .i64 0])] (⟨I.iU (Below.refl _ _).drew,(Below.refl _ _).drew⟩) ⟨?_,?_,?_,?_,?_,?_,?_,?_,?_,?_,?_,?_,trivial⟩ ?_;exact Pf 0;exact Pf 3;intro O w f hf q hd hw;have an:=Sv 48 q 1;obtain⟨⟨U,W,X,Y⟩,_⟩:=jA ((f.2.B P T).T S.o);replace f:=Hq f;exact .q (g:=⟨rfl,f.o,Qa⟩);exact Pf 0;exact Pv 50 3;exact Pv 51 4;intro O w f hf q hd hw;exact .l 52 (q 5 _ rfl rfl) (iT f.1.c 7 _ rfl) ⟨rfl,f,Qa⟩;exact Pf 3;intro O w f hf q hd hw;have ao:=Sv 54 q 7;obtain⟨⟨U,W,X,Y⟩,_⟩:=jA ((f.2.B P T).T S.o);replace f:=Hq f;exact .q (g:=⟨rfl,f.o,Qa⟩);intro O w f hf q hd hw;have ap:=Sv 53 q 6;have aq:=Sv 55 q 8;clear hf q hd hw;replace f:=Hq f;refine .h λK hK=>?_;go_simp;refine⟨rfl,?_⟩;refine Calls.M (kC f.o.1 R.jY R.kg name) ?_;rintro e w' ⟨r,he,hw⟩;subst hw;subst he;exact⟨_,rfl,hK ⟨trivial,f.o,Qc ⟨r,rfl⟩<|Qb<|Qe⟩⟩;intro O w f hf q hd hw;have ar:=Sv 49 q 2;obtain⟨r,Z⟩:=hd _ (Mm 0 rfl) _ rfl rfl;have au:=Sl 56 Z;exact .q (g:=⟨trivial,f,Qb<|Qc ⟨r,rfl⟩<|Qa⟩);intro O w f hf q hd hw;have av:=Sv 47 q 0;obtain⟨r,aa⟩:=hd _ (Mm 1 rfl) _ rfl rfl;have aw:=Sl 57 aa;clear hf q hd hw;replace f:=Hq f;refine .h λK hK=>?_;go_simp;refine⟨rfl,?_⟩;refine Calls.M (jt u w cb y z A B hd own C t D params F _ c s ⟨8,r,0,0⟩ f.o.1 M) ?_;rintro e w' ⟨he,i,j,k,p,b⟩;subst he;refine⟨_,rfl,?_⟩;exact hK (⟨i,j,r,k,(kQ.iU f.o.2).T p,b⟩);intro ax N ab ac;obtain⟨i,j,r,k,p,b⟩:=ac;have a:=JH (And.intro k (And.intro (L.T p) (J.snoc (m:=mZ (d+1)) (x:=⟨8,r,0,0⟩) LK b G.o.2)));clear b ab;simp only[je,Act.put,JL,JP,JO];go_wp2_with fail
  go_end0
  exact⟨rfl,i,j,a.o.1,a.o.2.1,a.o.2.2⟩
 .go_wp2_with fail;refine(jt u E cb y z A B hd own C t D params F _ c s ⟨9,0,0,0⟩ I M).M ?_;rintro e N ⟨rfl,i,j,k,p,b⟩;have a:=JH (And.intro k (And.intro (L.T p) (J.snoc (m:=mZ (d+1)) (x:=⟨9,0,0,0⟩) LK b G.o.2)));clear b;go_wp2_with fail
  go_end0
  exact⟨rfl,i,j,a.o.1,a.o.2.1,a.o.2.2⟩
 .go_wp2_with fail;refine(jt u E cb y z A B hd own C t D params F _ c s ⟨10,0,0,0⟩ I M).M ?_;rintro e N ⟨rfl,i,j,k,p,b⟩;have a:=JH (And.intro k (And.intro (L.T p) (J.snoc (m:=mZ (d+1)) (x:=⟨10,0,0,0⟩) LK b G.o.2)));clear b;go_wp2_with fail
  go_end0
  exact⟨rfl,i,j,a.o.1,a.o.2.1,a.o.2.2⟩
 .go_wp2_with fail;refine(jt u E cb y z A B hd own C t D params F _ c s ⟨11,0,0,0⟩ I M).M ?_;rintro e N ⟨rfl,i,j,k,p,b⟩;have a:=JH (And.intro k (And.intro (L.T p) (J.snoc (m:=mZ (d+1)) (x:=⟨11,0,0,0⟩) LK b G.o.2)));clear b;go_wp2_with fail
  go_end0
  exact⟨rfl,i,j,a.o.1,a.o.2.1,a.o.2.2⟩
 .go_wp2_with fail;refine(jt u E cb y z A B hd own C t D params F _ c s ⟨12,0,0,0⟩ I M).M ?_;rintro e N ⟨rfl,i,j,k,p,b⟩;have a:=JH (And.intro k (And.intro (L.T p) (J.snoc (m:=mZ (d+1)) (x:=⟨12,0,0,0⟩) LK b G.o.2)));clear b;go_wp2_with fail
  go_end0
  exact⟨rfl,i,j,a.o.1,a.o.2.1,a.o.2.2⟩
 .go_wp2_with fail;refine(jt u E cb y z A B hd own C t D params F _ c s ⟨13,0,0,0⟩ I M).M ?_;rintro e N ⟨rfl,i,j,k,p,b⟩;have a:=JH (And.intro k (And.intro (L.T p) (J.snoc (m:=mZ (d+1)) (x:=⟨13,0,0,0⟩) LK b G.o.2)));clear b;go_wp2_with fail
  go_end0
  exact⟨rfl,i,j,a.o.1,a.o.2.1,a.o.2.2⟩
 .go_wp2_with fail;refine(jt u E cb y z A B hd own C t D params F _ c s ⟨14,0,0,0⟩ I M).M ?_;rintro e N ⟨rfl,i,j,k,p,b⟩;have a:=JH (And.intro k (And.intro (L.T p) (J.snoc (m:=mZ (d+1)) (x:=⟨14,0,0,0⟩) LK b G.o.2)));clear b;go_wp2_with fail
  go_end0
  exact⟨rfl,i,j,a.o.1,a.o.2.1,a.o.2.2⟩
 .go_wp2_with fail;refine(jt u E cb y z A B hd own C t D params F _ c s ⟨15,0,0,0⟩ I M).M ?_;rintro e N ⟨rfl,i,j,k,p,b⟩;have a:=JH (And.intro k (And.intro (L.T p) (J.snoc (m:=mZ (d+1)) (x:=⟨15,0,0,0⟩) LK b G.o.2)));clear b;go_wp2_with fail
  go_end0
  exact⟨rfl,i,j,a.o.1,a.o.2.1,a.o.2.2⟩
 .go_wp2_with fail;refine(jt u E cb y z A B hd own C t D params F _ c s ⟨16,0,0,0⟩ I M).M ?_;rintro e N ⟨rfl,i,j,k,p,b⟩;have a:=JH (And.intro k (And.intro (L.T p) (J.snoc (m:=mZ (d+1)) (x:=⟨16,0,0,0⟩) LK b G.o.2)));clear b;go_wp2_with fail
  go_end0
  exact⟨rfl,i,j,a.o.1,a.o.2.1,a.o.2.2⟩
 .go_wp2_with fail;refine(jt u E cb y z A B hd own C t D params F _ c s ⟨17,0,0,0⟩ I M).M ?_;rintro e N ⟨rfl,i,j,k,p,b⟩;have a:=JH (And.intro k (And.intro (L.T p) (J.snoc (m:=mZ (d+1)) (x:=⟨17,0,0,0⟩) LK b G.o.2)));clear b;go_wp2_with fail
  go_end0
  exact⟨rfl,i,j,a.o.1,a.o.2.1,a.o.2.2⟩
 .go_wp2_with fail;refine(jt u E cb y z A B hd own C t D params F _ c s ⟨18,0,0,0⟩ I M).M ?_;rintro e N ⟨rfl,i,j,k,p,b⟩;have a:=JH (And.intro k (And.intro (L.T p) (J.snoc (m:=mZ (d+1)) (x:=⟨18,0,0,0⟩) LK b G.o.2)));clear b;go_wp2_with fail
  go_end0
  exact⟨rfl,i,j,a.o.1,a.o.2.1,a.o.2.2⟩
 .go_wp2_with fail;refine(jt u E cb y z A B hd own C t D params F _ c s ⟨19,0,0,0⟩ I M).M ?_;rintro e N ⟨rfl,i,j,k,p,b⟩;have a:=JH (And.intro k (And.intro (L.T p) (J.snoc (m:=mZ (d+1)) (x:=⟨19,0,0,0⟩) LK b G.o.2)));clear b;go_wp2_with fail
  go_end0
  exact⟨rfl,i,j,a.o.1,a.o.2.1,a.o.2.2⟩
 .go_wp2_with fail;refine(jt u E cb y z A B hd own C t D params F _ c s ⟨20,0,0,0⟩ I M).M ?_;rintro e N ⟨rfl,i,j,k,p,b⟩;have a:=JH (And.intro k (And.intro (L.T p) (J.snoc (m:=mZ (d+1)) (x:=⟨20,0,0,0⟩) LK b G.o.2)));clear b;go_wp2_with fail
  go_end0
  exact⟨rfl,i,j,a.o.1,a.o.2.1,a.o.2.2⟩
 .go_wp2_with fail;refine(jt u E cb y z A B hd own C t D params F _ c s ⟨21,0,0,0⟩ I M).M ?_;rintro e N ⟨rfl,i,j,k,p,b⟩;have a:=JH (And.intro k (And.intro (L.T p) (J.snoc (m:=mZ (d+1)) (x:=⟨21,0,0,0⟩) LK b G.o.2)));clear b;go_wp2_with fail
  go_end0
  exact⟨rfl,i,j,a.o.1,a.o.2.1,a.o.2.2⟩
 .go_wp2_with fail;refine(jt u E cb y z A B hd own C t D params F _ c s ⟨22,0,0,0⟩ I M).M ?_;rintro e N ⟨rfl,i,j,k,p,b⟩;have a:=JH (And.intro k (And.intro (L.T p) (J.snoc (m:=mZ (d+1)) (x:=⟨22,0,0,0⟩) LK b G.o.2)));clear b;go_wp2_with fail
  go_end0
  exact⟨rfl,i,j,a.o.1,a.o.2.1,a.o.2.2⟩
 go_wp2_with fail;refine(jt u E cb y z A B hd own C t D params F _ c s ⟨23,0,0,0⟩ I M).M ?_;rintro e N ⟨rfl,i,j,k,p,b⟩;have a:=JH (And.intro k (And.intro (L.T p) (J.snoc (m:=mZ (d+1)) (x:=⟨23,0,0,0⟩) LK b G.o.2)));clear b;go_wp2_with fail
 go_end0
 exact⟨rfl,i,j,a.o.1,a.o.2.1,a.o.2.2⟩
theorem uy:∀d,yy d
 |0=>λ_ _ _ _ _ _ _ _ _ _ _ _ _ _ _ _ _ _ _ _ _ _ _ d' hd=>LC
 |d+1=>Bq d (sN d (uy d))
theorem yP(d:Nat):vD d:=sN d (uy d)
theorem yT(z w m A)(c d:Nat)(cb:Nat)(n p s)(E:qb cb n (.slice A c d) p s w)(L:jc kY z w (.slice A c d) m)(M:H8 m)(hS:∀q,z q->q<w/\q≠cb):
  Calls prog 167 #[.pointer (some ⟨cb,0,none⟩)] w (vx cb n (.slice A c d) p s w):=by
 have N:=L.len;have aq:c<=2:=LA M.len
 have O:=JH N;have aa:=E;have P:=L;have ab:=M;have j:=JH hS;have ar:=E.lt;obtain⟨ac,B⟩:=E;have c1:=iT B 1 _ rfl;clear B N hS
 go_enter func167,ntmps167
 go_wp2_with fail;clear c1;go_loopw [10] (λi wr=>∃k:Nat,k<=c/\i=k/\qb cb n (.slice A c d) p s wr/\ld (λq=>q=cb) w wr) (λi _=>c-(intOf i).toNat);case atStart=>exact⟨0,JV _,rfl,aa,.refl _ _⟩
 case round=>
  obtain⟨k,au,rfl,t,u⟩:=hrel;have av:=u.size;by_cases aw:k<c
  .obtain⟨x,hx⟩:∃x,m[k]?=some x:=Gx (LA O.o);have F:∀q,z q->wr.heap[q]?=w.heap[q]?:=λq f=>u.B q (j.o q f).1 (j.o q f).2;obtain⟨C,Q,r,rfl,ad,hr,G⟩:=(P.iV kY.ok F).jr kY.ok k x hx;have ae:r=[tx x.name,.bool x.init]:=hr;subst ae;have R:=G 0 _ rfl;have af:=G 1 _ rfl;rw[JT]at R;obtain⟨S,ax⟩:=ab.ru k x hx;have ag:=JH (show lN (m.take k) x.name=false from S);have ay:=JH F;have az:(0:Int)<=(k:Int):=LC;have aA:(k:Int)<(c:Int):=LC;have aB:(k:Int)<=(d:Int):=LA O.o.2;have aC:C<wr:=LA ((j.o C ad).1);clear F S G hx;have T:=Ba wr (.cells #[tx x.name,.bool x.init] 171);have ah:=(u.T (.of T))
   have ai:=(t.iU T t.lt)
   have aj:=JH (JK wr (.cells #[tx x.name,.bool x.init] 171));have ak:=JH (show(wr.alloc (.cells #[tx x.name,.bool x.init] 171)).heap.size=wr+1 from LG);have aD:=t.lt;go_wp2_with fail;refine(qE cb n _ p s _ _ ai).M ?_;rintro e v ⟨rfl,D,U,al⟩;have am:=ak.o;obtain⟨l,I⟩:=Xq wr.heap.size;have V:v.heap[l]?=some (.cells #[tx x.name,.bool x.init] 171 (0,0)):=(by rw[I];exact(U.B _ LC LS).T aj.o);rw[<-I];have W:=(ah.T (.grown U rfl))
   have X:=JH V;have Y:l<v:=LC;have J:=D.lt;have aE:w.heap.size<=v:=LC;clear al V am I R af t u;go_wp2_with fail;refine Ri (λx=>Below v v x) (kN [(Pp cb 0),(Pp cb 0),(Pp cb 0),(Pp cb 0),(Pp cb 1),(·=.slice (some ⟨C,Q,none⟩) c d),(·=k),(·=.slice (some ⟨C,Q,none⟩) k d),(Pp l 0),(·=tx x.name),(·=.bool false),(·=.bool true),(Pp l 0),(·=tx x.name),(·=.bool true)]) [] ((Below.refl _ _).drew) ⟨?_,?_,?_,?_,?_,?_,?_,?_,?_,?_,?_,?_,?_,?_,?_,trivial⟩ ?_;exact .f 0;exact .f 0;exact .v 22 1;exact .v 23 2;exact .v 24 3;intro y w a hf b hd hw;obtain⟨ac,B⟩:=D.iV (a.B cb J);exact .l 25 (b 4 _ rfl rfl) (iT B 1 _ rfl) ⟨rfl,a,Qa⟩;exact .f 2;intro y w a hf b hd hw;have aF:=Sv 26 b 5;have aG:=Sv 27 b 6;exact .q (g:=⟨rfl,a,Qa⟩);exact .f 3;intro y w a hf b hd hw;exact .l 29 (b 8 _ rfl rfl) (iT ((a.B l Y).T X.o) 0 _ rfl) ⟨rfl,a,Qa⟩;intro y w a hf b hd hw;have aH:=Sv 28 b 7;have aI:=Sv 30 b 9;replace a:=Hq a;refine .c (oJ z w _ k d (m.take k) x.name ((P.take k LC).iV kY.ok (λq f=>(a.o.B q (LA ((j.o q f).1))).T (W.B q (j.o q f).1 (j.o q f).2))) LC (λq f=>LB ((j.o q f).1) a.o.size)) ?_;rintro e w' ⟨he,an⟩;rw[ag.o]at he;subst he;exact⟨_,rfl,⟨rfl,a.o.T (an.M a.o.size),Qe⟩⟩;exact .v 31 10;exact .f 3;intro y w a hf b hd hw;exact .l 33 (b 12 _ rfl rfl) (iT ((a.B l Y).T X.o) 0 _ rfl) ⟨rfl,a,Qa⟩;intro y w a hf b hd hw;have aJ:=Sv 21 b 0;have aK:=Sv 32 b 11;have aL:=Sv 34 b 13;clear hf b hd hw;replace a:=Hq a;refine .h λK hK=>?_;go_simp;refine⟨rfl,?_⟩;refine Calls.M (ke cb n _ p s w _ _ (D.iV (a.o.B cb J))) ?_;rintro e w' ⟨he,hw⟩;subst hw;subst he;exact⟨_,rfl,hK ⟨rfl,a.o,Qe⟩⟩;intro aM aN Z ao ap;clear ao ap;simp only[je,Act.put,JL,JP,JO];go_wp2_with fail;go_roundw;case rel=>exact⟨k+1,LC,LI,D.iV (Z.B cb J),W.T (.of Z)⟩
   case measure=>simp[intOf];omega
  obtain rfl:c=k:=LC;go_wp2_with fail
  go_end0
  exact⟨rfl,t,u⟩
theorem Bt:kv 233:=λ_ _=>LF
def FW(k:Int):Nat:=(bits BinOp.and IntKind.u64 (IntKind.u64.wrap (IntKind.i64.wrap (-k))) 31).toNat
theorem EX(n:Nat):lT .u32 (Array.replicate n (.int .u32 0)) 0 n:=λi hi=>⟨0,by simp[hi]⟩
abbrev Ep:Array Value:=#[.int .u32 0,.int .u32 0,.int .u32 0,.int .u32 0,.int .u32 0,.int .u32 0,.int .u32 0,.int .u32 0,.int .u32 0,.int .u32 0,.int .u32 0,.int .u32 0,.int .u32 0,.int .u32 0,.int .u32 0,.int .u32 0,.int .u32 0,.int .u32 0,.int .u32 0,.int .u32 0,.int .u32 0,.int .u32 0,.int .u32 0,.int .u32 0,.int .u32 0,.int .u32 0,.int .u32 0,.int .u32 0,.int .u32 0,.int .u32 0,.int .u32 0,.int .u32 0,.int .u32 0,.int .u32 0,.int .u32 0,.int .u32 0,.int .u32 0,.int .u32 0,.int .u32 0,.int .u32 0,.int .u32 0,.int .u32 0,.int .u32 0,.int .u32 0,.int .u32 0,.int .u32 0,.int .u32 0,.int .u32 0,.int .u32 0,.int .u32 0,.int .u32 0,.int .u32 0,.int .u32 0,.int .u32 0,.int .u32 0,.int .u32 0,.int .u32 0,.int .u32 0,.int .u32 0,.int .u32 0,.int .u32 0,.int .u32 0,.int .u32 0,.int .u32 0]
theorem zero64:(Ep:Array Value)=Array.replicate 64 (.int .u32 0):=LF
end Go.Proofs.YtidmdcckbdmblaaGreatDoor
namespace Go.Proofs.YtidmdcckbdmblaaGreatDoor
open Go.RowKit jJ Go.Maps Go.Proofs.Tryz
theorem F2:Keyed prog 9:=Keyed.of_law (Go.WideMaps.string_law underlying9)
end Go.Proofs.YtidmdcckbdmblaaGreatDoor
