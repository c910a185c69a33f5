import Derived.Test.YtfemcncookpdhaaGreatDoorZ5
import Derived.Test.YtfemcncookpdhaaGreatDoorZ6
import Derived.Test.YtfemcncookpdhaaGreatDoorZ7
import Derived.Test.YtfemcncookpdhaaGreatDoorZ8
set_option maxRecDepth 1000000
set_option maxHeartbeats 32000000
set_option linter.all false
namespace Go.Proofs.YtfemcncookpdhaaGreatDoor
open Go.RowKit lX Go.Proofs.Tryz
theorem kR(l w)(cb:Nat)(y p q A hd own B C D params d)(k c:Nat)(m:List In)(x:In)(h:lO l cb y p q A hd own B C D params (.slice d k c) m w)(N:k<=100000):
  Calls prog 200 #[.pointer (some ⟨cb,0,none⟩),.agg #[.int .u8 x.op,x.a,x.b,x.n]] w (uL l cb y p q A hd own B C D params (.slice d k c) w (.int .i64 (k:Int)) (λao=>ao=m++[x])):=by
 obtain⟨ap,X,r,s,Y⟩:=N4 HY;have I:=NA (And.intro X (And.intro r (And.intro s Y)));clear X r s Y;have Z:m.length=k:=(h.own.sl sX.ok).len.1;have J:=NA (And.intro Z N);have aa:=h.own.ge;have aq:=NA aa;have aN:=(NC.1 h.c).1;have ab:=h.lt;have aO:=h.g.size;have O:=Ba w (.cells #[.int .u8 x.op,x.a,x.b,x.n] 312);have H:=(h.kh O)
 have Q:=NA (NF w (.cells #[.int .u8 x.op,x.a,x.b,x.n] 312));have ar:=NA (show(w.alloc (.cells #[.int .u8 x.op,x.a,x.b,x.n] 312)).heap.size=w+1 from PK);clear h aa Z
 go_enter func200,ntmps200
 go_wp2_with fail;have ac:=ar.o;obtain⟨E,ad⟩:=Xq w.heap.size;have au:E≠cb:=PJ
 have av:some E≠(Value.slice d k c).ownBlock:=λe=>PH ((aq.o E e.symm).2)
 rw[<-ad]at Q⊢;obtain⟨wr,ae⟩:=Xq (w.alloc (.cells #[.int .u8 x.op,x.a,x.b,x.n] 312));rw[<-ae]at H Q O ac⊢;have aw:E<wr:=PJ
 have aP:w.heap.size<=wr:=PJ
 clear ae ad ac;have ax:=(nx.start H.g H.c H.own ab)
 refine sV (λx=>nx sX 312 4 (λ_=>False) l wr cb #[y,p,q,A,hd,own,B,C,D,params,(.slice d k c)] 152 (.slice d k c) m x) (λv w=>∃(i:Option Addr) (j:Nat),l.grownBy w (some cb)/\w.heap[cb]?=some (.cells #[y,p,q,A,hd,own,B,C,D,params,(.slice i (k+1) j)] 152 (0,0))/\kx sX 312 4 (λ_=>False) w l (.slice i (k+1) j) (m++[x])/\((Value.slice i (k+1) j).ownBlock=(Value.slice d k c).ownBlock\/∃z,(Value.slice i (k+1) j).ownBlock=some z/\wr<=z)/\wr.heap.size<=w/\∀b,b<wr.heap.size->b≠cb->some b≠(Value.slice d k c).ownBlock->w.heap[b]?=wr.heap[b]?) (mG [(Pp cb 0),(Pp cb 0),(Pp cb 0),(Pp cb 10),(·=.slice d k c),(·=.agg #[.int .u8 x.op,x.a,x.b,x.n]),Tr,Tr,(Pp cb 0),(Pp cb 10),Tr]) [(6,λv w=>∃(b:Nat),v=.slice (some ⟨b,0,none⟩) 1 1/\Nw wr w b/\w.heap[b]?=some (.cells #[.int .u8 x.op,x.a,x.b,x.n] 312 (0,0))),(7,λv w=>∃(i:Option Addr) (j:Nat),v=.slice i (k+1) j/\kx sX 312 4 (λ_=>False) w l v (m++[x])/\(v.ownBlock=(Value.slice d k c).ownBlock\/∃z,v.ownBlock=some z/\wr<=z))] (ax.drew sX.ok) ⟨?_,?_,?_,?_,?_,?_,?_,?_,?_,?_,?_,trivial⟩ ?_;iterate 2
  .exact Pf 0
 .exact Pv 6 1
 .exact Pv 7 2
 .intro t w a hf n hd hw;exact .l 8 (n 3 _ rfl rfl) (kf a.c 10 _ rfl) ⟨rfl,a,Qa⟩
 .intro t w a hf n hd hw;have e3:=Sl 3 (hf 3 rfl);obtain⟨⟨aQ,aR,aS,aT⟩,_⟩:=kC ((a.k E aw au av).T Q.o);replace a:=Hq a;exact .q (g:=⟨rfl,a.o,Qa⟩)
 .intro t w a hf n hd hw;have aU:=Sv 10 n 5;have af:=a.s;replace a:=Hq a;exact .q (g:=⟨trivial,a.o.alloc sX.ok _,Qc ⟨_,rfl,⟨af,PK⟩,NF _ _⟩<|Qb<|Qe⟩)
 .intro t w a hf n hd hw;have ay:=Sv 9 n 4;obtain⟨R,ag,aV,az⟩:=hd _ (Mm 0 rfl) _ rfl rfl;have aW:=Sl 11 ag;have aA:=a.own;have af:=a.s;have aX:=a.ws;have aY:=a.v;replace a:=Hq a;have ah:∀(L:Nat) (u:Value),(#[.int .u8 x.op,.int .i64 x.a,.int .i64 x.b,.int .i64 x.n]).toList[L]?=some u->w.cell? ((⟨R,0,none⟩:Addr).add L)=some u:=λL u aB=>(by rw[kQ,NY];exact kf az L u (by simpa using aB));obtain⟨aC,aD,w',ai,aj,aE,M,ak⟩:=kP (P:=prog) (w:=w) l 150 150 312 ap _ 4 32 underlying150 I.o.1 I.o.2.1 I.o.2.2.1 I.o.2.2.2 rfl sX.ok (λ_=>False) ((.slice d k c)) (m) aA ⟨R,0,none⟩ (#[.int .u8 x.op,.int .i64 x.a,.int .i64 x.b,.int .i64 x.n]).toList x ah ((by unfold sX;rfl)) (by have:=J.o;unfold maxLen;omega) (PH J.o) PJ;have p:t.eval (.tmp 9)=(.slice d k c):=(by simp[Act.eval,ay]);have q:t.eval (.tmp 11)=.slice (some ⟨R,0,none⟩) 1 1:=ag;have aF:=J.o.1;rw[aF]at ai aj ak;clear ah;refine .h λK hK=>?_;simp only[execOp,resolve,invoke,builtin,Oh,Oi,N8,Oc,Ob,Oe,p,q,ai];exact hK ⟨trivial,a.o.app M aE,Qd (λu ⟨b,e,S,N⟩=>⟨b,e,⟨S.1,ND S.2 ((a.o.ng M)).1⟩,(((a.o.ng M)).2 b S).T N⟩)<|Qc ⟨aC,aD,rfl,aj,ak.imp id (λh=>⟨_,h,PH M.size⟩)⟩<|Qe⟩
 .exact Pv 5 0
 .exact Pv 13 8
 .intro t w a hf n hd hw;have aZ:=Sv 14 n 9;obtain⟨i,j,F,G,aG⟩:=hd _ (Mm 1 rfl) _ rfl rfl;have ba:=Sl 12 F;have bb:=NA a.c;replace G:=Hq G;have T:=a.c;have bc:=ko T 10;have hce:=kf T 10 _ rfl;clear T;replace a:=Hq a;refine .h λK hK=>?_;go_simp;exact hK (⟨i,j,(a.o.set sX.ok (λ_ h=>h.elim) (by have f:=G.o;rw[F]at f;exact f) 10 _ rfl).1,(a.o.set sX.ok (λ_ h=>h.elim) (by have f:=G.o;rw[F]at f;exact f) 10 _ rfl).2.1,(a.o.set sX.ok (λ_ h=>h.elim) (by have f:=G.o;rw[F]at f;exact f) 10 _ rfl).2.2,(by have f:=aG;rw[F]at f;exact f),(by rw[NM];exact a.o.s),(λb U r s=>(NZ _ _ _ _ r).T (a.o.k b U r s))⟩)
 intro bd al aH aI;obtain⟨i,j,aJ,V,aK,am,be,an⟩:=aI;have aL:lO l cb y p q A hd own B C D params (.slice i (k+1) j) (m++[x]) al:=⟨aJ,V,aK,ab⟩
 have aM:mX cb (.slice d k c) w (.slice i (k+1) j) al:=⟨PJ,λb U r s=>⟨(an b PJ r s).T (O.B b U),λe=>by rcases am with W|⟨z,W,f⟩;(rw[W]at e;exact s e);(rw[W]at e;injection e with e;omega)⟩⟩
 have bf:IntKind.i64.wrap ((k:Int)+1-1)=(k:Int):=by have:=J.o.2;simp[IntKind.wrap,IntKind.bits,IntKind.signed];omega
 have bg:=kf V 10 _ rfl;clear aH V am an;simp only[kr,Act.put,NI,NL,NJ];go_wp2_with fail;go_ret;exact⟨rfl,_,_,aL,aM,rfl⟩
theorem Et(s w)(a:td w)(g:0<s.size)(hs:s.size<=12)(i:mh.nE (s[0]).toNat=true)(hp:mh.pre mh.pE s.data.toList=s.size)(b:mh.xL s.data.toList=false):
  Calls prog 168 #[.string s] w λe w'=>e=.returned (.tuple #[.int .u8 1,.int .i64 (s.size:Int)])/\w=w':=by
 have c:=a;have d:=hp;have f:=b
 go_enter func168,ntmps168
 go_wp2_with (go_at_call 190;refine(wX _ _).M ?_;rintro e w' ⟨rfl,rfl⟩);refine(xU _ _ PT).M ?_;rintro e w' ⟨rfl,rfl⟩;rw[d];go_wp2_with fail;refine(Bh _ _ c).M ?_;rintro e w' ⟨rfl,rfl⟩;rw[f];go_wp2_with fail
 go_ret2
 exact⟨rfl,rfl⟩
theorem Bi(s w)(a:td w)(b:0<s.size)(hs:s.size<=12)(c:mh.nE (s[0]).toNat=true)(hp:mh.pre mh.pE s.data.toList=s.size)(d:mh.xL s.data.toList=false):
  Calls prog 128 #[.string s] w λe w'=>e=.returned (.bool true)/\w=w':=by
 have f:=a;have g:=hp;have i:=d;have j:s.toList≠[]:=by rw[ByteArray.toList_eq];intro e;have k:=Oy List.length e;rw[O8,OT]at k;have l:s.data.size=s.size:=rfl;omega
 have he:s.toList.isEmpty=false:=by cases h:s.toList.isEmpty;rfl;exact absurd (List.isEmpty_iff.1 h) j
 go_enter func128,ntmps128
 go_wp2_with fail;refine(Et s _ f b hs c g i).M ?_;rintro e w' ⟨rfl,rfl⟩;have m:((s.size:Int)==(s.size:Int))=true:=PK
 go_wp2_with fail;go_ret;exact⟨rfl,rfl⟩
theorem nX(l)(h:mI l=true)(w)(c:td w):Calls prog 128 #[tx l] w λe w'=>e=.returned (.bool true)/\w=w':=by
 unfold mI at h;simp only[OD,Pg,Pd,Bool.not_eq_true']at h;obtain⟨⟨⟨⟨b,d⟩,f⟩,g⟩,i⟩:=h;have a:(⟨l.toArray⟩:ByteArray).size=l.length:=P1
 refine Bi ⟨l.toArray⟩ w c (by rw[a];exact b) (by rw[a];exact d) ?_ (by rw[a];simpa using g) (by simpa using i);rw[<-mh.Gy ⟨l.toArray⟩ (by rw[a];exact b)];simpa using f
theorem AB(k:Nat)(x)(hx:forms[k]?=some x)(c:1<=k)(w)(a:lH w):Calls prog 169 #[.int .u8 (k:Int)] w (kU (.tuple #[.agg #[.bool x.1,.bool x.2.1,.int .i64 (x.2.2.1:Int),.int .i64 (x.2.2.2.1:Int),.bool x.2.2.2.2.1,.bool x.2.2.2.2.2],.bool true]) w):=by
 have d:k<11:=by have:=(NW.1 hx).1;rw[uQ]at this;exact this
 have b:=oN a k x hx 0 _ rfl;have e:=oN a k x hx 1 _ rfl;have f:=oN a k x hx 2 _ rfl;have g:=oN a k x hx 3 _ rfl;have i:=oN a k x hx 4 _ rfl;have j:=oN a k x hx 5 _ rfl;have l:=a.lt.2;rw[NS]at b
 go_enter func169,ntmps169
 go_wp2;refine NT (v:=.tuple #[.agg #[.bool x.1,.bool x.2.1,.int .i64 (x.2.2.1:Int),.int .i64 (x.2.2.2.1:Int),.bool x.2.2.2.2.1,.bool x.2.2.2.2.2],.bool true]) ?_ rfl ⟨rfl,Ba _ _⟩;simp[results,Tryz.results169,go_sem]
theorem xV:Am 171:=by
 intro S w b o d e r f i hr p q hS;obtain⟨d',v,rfl,rfl,F⟩:=hr.open;obtain⟨⟨x,G,hx,s,j,t,u,y⟩,_⟩:=p;have c:=i 0 _ rfl;have l:=i 1 _ rfl;rw[NS]at c;obtain⟨k,m⟩:∃k:Nat,k=e.op.toNat:=⟨_,rfl⟩
 have n:e.op=(k:Int):=PJ
 rw[<-m]at hx;rw[n]at c;have z:1<=k:=PJ
 have A:=NA hx;have B:=NA (And.intro c l);have C:=NA j;clear s j t u y hx m n
 go_enter func171,ntmps171
 go_wp2_with fail;refine(sH k x A.o z _ f).M ?_;rintro I D ⟨rfl,a⟩;have g:=a.size;have J:=(Cb b (o+1) (a.B b q)).T B.o.2;have K:b<D:=PJ
 clear c l;cases hq:x.2.1
 .go_wp2_with fail;go_ret;exact⟨rfl,a.alloc g _⟩
 have E:=C.o hq;go_wp2_with fail;refine(nX e.name E _ (f.names.kh (a.alloc g _) f.low.1)).M ?_;rintro L M ⟨rfl,rfl⟩;go_wp2_with fail;go_ret;exact⟨rfl,a.alloc g _⟩
theorem xw:Am 172:=by
 intro S w b o d e r C f hr D g hS;obtain⟨d',v,rfl,rfl,E⟩:=hr.open;obtain⟨⟨x,P,hx,p,F,q,l,m⟩,_⟩:=D;obtain⟨Q,c,rfl,hc⟩:=E.form;have i:=f 0 _ rfl;have s:=f 1 _ rfl;have t:=f 2 _ rfl;have n:=f 3 _ rfl;rw[NS]at i;rw[p]at n;obtain⟨k,u⟩:∃k:Nat,k=e.op.toNat:=⟨_,rfl⟩
 have y:e.op=(k:Int):=PJ
 rw[<-u]at hx;rw[y]at i l m;have G:1<=k:=PJ
 have I:=NA hx;have j:=NA (And.intro i (And.intro s (And.intro t n)));have J:=NA q;have z:=NA (And.intro l m);clear p F q l m hx u y
 go_enter func172,ntmps172
 go_wp2_with fail;refine(sH k x I.o G _ C).M ?_;rintro R K ⟨rfl,a⟩;have L:=a.size;have T:=(Cb b o (a.B b g)).T j.o.1;have M:=(Cb b (o+1) (a.B b g)).T j.o.2.1;have N:=(Cb b (o+2) (a.B b g)).T j.o.2.2.1;have U:=(Cb b (o+3) (a.B b g)).T j.o.2.2.2;have V:b<K:=PJ
 clear i s t n;have A:((k:Int)==1)=true->decide ((0:Int)<=e.n)=true:=λh=>by rw[O4];exact z.o.1 (by rw[Pd]at h;exact h)
 have B:((k:Int)==1)=false->e.n=0:=λh=>z.o.2 (by rw[NX]at h;exact h);cases MF:((k:Int)==1)<;>cases hq:x.2.1;all_goals
  first|have hd:=A MF|have hz:=B MF
  first|have O:=J.o hq|skip
  first|rw[O]at M|skip
  first|rw[hz]at N|skip
  clear A B;go_wp2_with fail;go_quiet (fail);go_wp2_with fail;go_ret;exact⟨rfl,lg (a.alloc L _) _⟩
theorem tr(g:FuncId)(a:ma g)(b:Am g):∀d,B8 g d
 |0=>se g a b 0 λd' e=>by omega
 |d+1=>se g a b (d+1) λd' e=>by obtain rfl:d=d':=PJ;exact tr g a b d
theorem oO(g:FuncId)(y:ma g)(z:Am g)(S w)(b o d:Nat)(s r)(A:lH w)(p:At w b o r)(hr:kE .u8 d S w r s)(t:nB d s)(B:b<w)(hS:∀q,S q->q<w):
  Calls prog 170 #[.pointer (some ⟨b,o,none⟩),.func (.func g) #[] #[]] w (kU (.bool true) w):=by
 have C:=t.five;obtain⟨d',P,Q,R,rfl,rfl,j,_,_⟩:=hr.open;obtain⟨_,D,_⟩:=t;obtain⟨T,c,rfl,hc⟩:=j.form;obtain⟨n,u⟩:=Xq s.kV.length;rw[<-u]at j hc p C;have E:=p 3 _ rfl;have l:=hS;have F:=A;have G:=(tr g y z De)
 go_enter func170,ntmps170
 go_wp2_with fail;go_loopw [11] (λi wr=>∃k:Nat,k<=n/\i=k/\Below w w wr) (λi _=>n-(intOf i).toNat);case atStart=>exact⟨0,NP _,rfl,Below.refl _ _⟩
 case round=>
  obtain⟨k,U,rfl,a⟩:=hrel;have I:=a.size;have V:=(Cb b (o+3) (a.B b B)).T E;by_cases W:k<n
  .obtain⟨x,hx⟩:∃x,s.kV[k]?=some x:=Gx (PH u);obtain⟨f,v,r,rfl,J,hr,K⟩:=j.kI (kz.ok .u8 De) k x hx;have L:f<w:=l f J;have M:=(G S wr f (v+k*4) x r (F.to a) ((show At w f (v+k*4) r from K).kh a L) ((kz.ok .u8 De).kg hr (λq m=>a.B q (l q m))) (D x (NH hx)) PJ (λq m=>PH (l q m)))
   have X:(0:Int)<=(k:Int):=PJ;have Y:(k:Int)<(n:Int):=PJ;go_wp2_with fail;refine M.M ?_;rintro e Z ⟨rfl,N⟩;have O:=(a.T (N.M I))
   go_wp2_with fail;go_roundw;case rel=>exact⟨k+1,PJ,PQ,O⟩
   case measure=>simp[intOf];omega
  obtain rfl:k=n:=PJ;go_wp2_with fail;go_ret;exact⟨rfl,a⟩
theorem xW:Ao 131:=by
 intro S w b o d s r O j hr B f hS;have P:=j;have Q:=hr;have R:=B;obtain⟨d',ae,af,ag,rfl,rfl,T,U,V⟩:=hr.open;obtain⟨⟨x,ah,hx,C,W,D,X,ai,aj,Y,Z⟩,aa,⟨ak,al⟩,_⟩:=B;obtain⟨am,c1,rfl,an⟩:=T.form;obtain⟨ao,c2,rfl,ap⟩:=U.form;obtain⟨aq,c3,rfl,ar⟩:=V.form;have u:=j 0 _ rfl;have E:=j 1 _ rfl;have F:=j 2 _ rfl;have G:=j 3 _ rfl;have I:=j 4 _ rfl;have J:=j 5 _ rfl;rw[NS]at u;obtain⟨k,K⟩:∃k:Nat,k=s.kind.toNat:=⟨_,rfl⟩
 have L:s.kind=(k:Int):=PJ
 rw[<-K]at hx;rw[L]at u;have ab:1<=k:=PJ
 have v:=O;have ac:=NA hx;have p:=(And.intro u (And.intro E (And.intro F (And.intro G (And.intro I J)))))
 have q:=(And.intro P (And.intro Q R))
 have t:=hS;have y:=(And.intro C D)
 clear C W D X Y Z aa hx K L hS
 go_enter func131,ntmps131
 go_wp2_with fail;refine(AB k x ac.o ab _ v).M ?_;rintro au ad ⟨rfl,g⟩;have c:=g.size;have av:=(Cb b o (g.B b f)).T p.1;have aw:=(Cb b (o+1) (g.B b f)).T p.2.1;have ax:=(Cb b (o+2) (g.B b f)).T p.2.2.1;have ay:=(Cb b (o+3) (g.B b f)).T p.2.2.2.1;have az:=(Cb b (o+4) (g.B b f)).T p.2.2.2.2.1;have aA:=(Cb b (o+5) (g.B b f)).T p.2.2.2.2.2;have aB:b<ad:=PJ
 have e:=g;clear u E F G I J;have M:=λ(a:World) (i:Below w w a)=>oO 171 vO xV S a b o _ s _ (v.to i) (oW q f t i).1 (oW q f t i).2.1 (oW q f t i).2.2.1 (oW q f t i).2.2.2.1 (oW q f t i).2.2.2.2;have z:=M;have N:=λ(l:List UInt8) (h:mI l=true) (a:World) (i:Below w w a)=>nX l h a (v.names.kh i v.low.1);have A:=N;clear M N;cases Ll:x.1<;>cases Lm:x.2.1
 .go_wp2_with fail;refine(z _ (e.alloc c _)).M ?_;rintro m a ⟨rfl,n⟩;go_wp2_with fail;go_ret;exact⟨rfl,(e.alloc c _).T (n.M PO)⟩
 .go_wp2_with fail;refine(A _ (y.2 Lm) _ (e.alloc c _)).M ?_;rintro m a ⟨rfl,rfl⟩;go_wp2_with fail;refine(z _ (e.alloc c _)).M ?_;rintro m a ⟨rfl,n⟩;go_wp2_with fail;go_ret;exact⟨rfl,(e.alloc c _).T (n.M PO)⟩
 .go_wp2_with fail;refine(A _ (y.1 Ll) _ (e.alloc c _)).M ?_;rintro m a ⟨rfl,rfl⟩;go_wp2_with fail;refine(z _ (e.alloc c _)).M ?_;rintro m a ⟨rfl,n⟩;go_wp2_with fail;go_ret;exact⟨rfl,(e.alloc c _).T (n.M PO)⟩
 go_wp2_with fail;refine(A _ (y.1 Ll) _ (e.alloc c _)).M ?_;rintro m a ⟨rfl,rfl⟩;go_wp2_with fail;refine(A _ (y.2 Lm) _ (e.alloc c _)).M ?_;rintro m a ⟨rfl,rfl⟩;go_wp2_with fail;refine(z _ (e.alloc c _)).M ?_;rintro m a ⟨rfl,n⟩;go_wp2_with fail;go_ret;exact⟨rfl,(e.alloc c _).T (n.M PO)⟩
theorem xx:Ao 134:=by
 intro S w b o d s r M e hr p a hS;have N:=e;have O:=hr;have P:=p;obtain⟨d',am,an,ao,rfl,rfl,Q,R,T⟩:=hr.open;obtain⟨⟨x,ap,hx,U,q,V,t,aq,ar,u,v⟩,W,⟨au,av⟩,_⟩:=p;obtain⟨aw,c1,rfl,ax⟩:=Q.form;obtain⟨ay,c2,rfl,az⟩:=R.form;obtain⟨aA,c3,rfl,aB⟩:=T.form;have l:=e 0 _ rfl;have y:=e 1 _ rfl;have z:=e 2 _ rfl;have A:=e 3 _ rfl;have B:=e 4 _ rfl;have C:=e 5 _ rfl;rw[NS]at l;obtain⟨k,D⟩:∃k:Nat,k=s.kind.toNat:=⟨_,rfl⟩
 have E:s.kind=(k:Int):=PJ
 rw[<-D]at hx;rw[E]at l;have X:1<=k:=PJ
 have F:=M;have Y:=NA hx;have f:=(And.intro l (And.intro y (And.intro z (And.intro A (And.intro B C)))))
 have i:=(And.intro N (And.intro O P))
 have j:=hS;have G:=(And.intro q t)
 have I:=(And.intro u v)
 obtain⟨n,hn⟩:=Xq s.kV.length;have aC:¬(n:Int)<(x.2.2.1:Int):=PJ
 have aD:¬(x.2.2.2.1:Int)<(n:Int):=PJ
 have Z:=NA hn;clear U q V t u v W hx D E hS hn
 go_enter func134,ntmps134
 go_wp2_with fail;refine(AB k x Y.o X _ F).M ?_;rintro aE aa ⟨rfl,c⟩;have J:=c.size;have aF:=(Cb b o (c.B b a)).T f.1;have ab:=(Cb b (o+1) (c.B b a)).T f.2.1;have ac:=(Cb b (o+2) (c.B b a)).T f.2.2.1;have ad:=(Cb b (o+3) (c.B b a)).T f.2.2.2.1;have ae:=(Cb b (o+4) (c.B b a)).T f.2.2.2.2.1;have af:=(Cb b (o+5) (c.B b a)).T f.2.2.2.2.2;have aG:b<aa:=PJ
 have K:=c;rw[<-Z.o]at ad;clear l y z A B C;have L:=λ(m:World) (g:Below w w m)=>oO 172 vq xw S m b o _ s _ (F.to g) (oW i a j g).1 (oW i a j g).2.1 (oW i a j g).2.2.1 (oW i a j g).2.2.2.1 (oW i a j g).2.2.2.2;have ag:=L;clear L;cases Ll:x.1<;>cases Lm:x.2.1<;>cases Nr:x.2.2.2.2.1<;>cases Ns:x.2.2.2.2.2;all_goals
  first|(have ah:=G.1 Ll;rw[ah]at ab)|skip
  first|(have ai:=G.2 Lm;rw[ai]at ac)|skip
  first|(have aj:=I.1 Nr;rw[aj,OT]at ae)|skip
  first|(have ak:=I.2 Ns;rw[ak,OT]at af)|skip
  go_wp2_with fail;refine(ag _ (K.alloc J _)).M ?_;rintro aH m ⟨rfl,al⟩;go_wp2_with fail;go_ret;exact⟨rfl,(K.alloc J _).T (al.M PO)⟩
theorem xa(g:FuncId)(M:ma g)(N:Ao g)(d:Nat)(O:∀d',d=d'+1->B9 g d'):B9 g d:=by
 intro S w ag n c l v D ah P f;unfold ma at M;have E:=D.len;have ai:n<=12:=PJ
 have hc:=E.2;have Q:=E.1;have F:=O;have R:=N
 go_enter func130,ntmps130
 go_wp2_with fail;go_loopw [9] (λi wr=>∃k:Nat,k<=n/\i=k/\Below w w wr) (λi _=>n-(intOf i).toNat);case atStart=>exact⟨0,NP _,rfl,Below.refl _ _⟩
 case round=>
  obtain⟨k,aj,rfl,m⟩:=hrel;have T:=m.size;by_cases ak:k<n
  .obtain⟨x,hx⟩:∃x,l[k]?=some x:=Gx (PH Q);obtain⟨b,t,r,rfl,U,hr,V⟩:=D.kI (kE.ok .u8 d) k x hx;have y:b<w:=f b U;have G:=P x (NH hx);have z:At w b (t+k*6) r:=V;have W:=(R S wr b (t+k*6) d x r (v.to m) (z.kh m y) ((kE.ok .u8 d).kg hr (λq a=>m.B q (f q a))) G PJ (λq a=>PH (f q a)))
   obtain⟨d',al,am,an,rfl,rfl,_,I,J⟩:=hr.open;obtain⟨_,_,⟨X,Y⟩,Z,aa⟩:=G;obtain⟨ab,c2,rfl,_⟩:=I.form;obtain⟨ac,c3,rfl,_⟩:=J.form;have A:=z 4 _ rfl;have K:=z 5 _ rfl;have ad:=(λ(p:World) (j:Below w w p)=>F d' rfl S p ab _ c2 x.th (v.to j) (I.kg (kE.ok .u8 _) (λq a=>j.B q (f q a))) X Z (λq a=>ND (f q a) j.size))
   have ae:=(λ(p:World) (j:Below w w p)=>F d' rfl S p ac _ c3 x.el (v.to j) (J.kg (kE.ok .u8 _) (λq a=>j.B q (f q a))) Y aa (λq a=>ND (f q a) j.size))
   have L:=(And.intro A K)
   have ao:(0:Int)<=(k:Int):=PJ;have ap:(k:Int)<(n:Int):=PJ;clear A;go_wp2_with (refine W.M ?_;rintro e p ⟨rfl,s⟩;have B:=m.T (s.M T);have C:=B;have A:=(Cb b (t+k*6+4) (B.B b y)).T L.1;clear s B);refine(ad _ C).M ?_;rintro e aq ⟨rfl,s⟩;have u:=C.T (s.M C.size);have K:=(Cb b (t+k*6+5) (u.B b y)).T L.2;go_wp2_with fail;refine(ae _ u).M ?_;rintro e ar ⟨rfl,s⟩;have af:=(u.T (s.M u.size))
   go_wp2_with fail;go_roundw;case rel=>exact⟨k+1,PJ,PQ,af⟩
   case measure=>simp[intOf];omega
  obtain rfl:k=n:=PJ;go_wp2_with fail;go_ret;exact⟨rfl,m⟩
theorem sI(g:FuncId)(a:ma g)(b:Ao g):∀d,B9 g d
 |0=>xa g a b 0 λd' e=>by omega
 |d+1=>xa g a b (d+1) λd' e=>by obtain rfl:d=d':=PJ;exact sI g a b d
theorem vB(d:Nat)(y:∀d',d=d'+1->Ca d'):Ca d:=by
 intro S w op n name f m c args a hm z Y hS;have l:=a.len;have hc:=l.2;have E:=NA l.1;have p:=NA hS;have F:=NA z;have G:=NA y;clear z hS l y
 go_enter func167,ntmps167
 go_wp2_with fail;have I:Below w w (w.alloc (.cells #[.int .u8 op,tx name,n,.slice f m c] 190)):=Ba _ _;have s:=NF w (.cells #[.int .u8 op,tx name,n,.slice f m c] 190);have J:(w.alloc (.cells #[.int .u8 op,tx name,n,.slice f m c] 190)).heap.size=w+1:=PK
 obtain⟨g,A⟩:=Xq w.heap.size;rw[<-A]at s J⊢;generalize w.alloc (.cells #[.int .u8 op,tx name,n,.slice f m c] 190)=t at*;have K:g<t:=PJ
 have Z:w<=g:=PJ
 have L:=NA s;clear A s;go_loopw [3,8] (λv i wr=>∃k r:Nat,k<=m/\i=k/\v=r/\r<=d/\Below t t wr) (λ_ i _=>m-(intOf i).toNat);case atStart=>exact⟨0,0,NP _,rfl,rfl,NP _,Below.refl _ _⟩
 case round=>
  obtain⟨k,r,aa,rfl,rfl,hr,j⟩:=hrel;have B:=(I.T (j.M PJ))
  have M:=j.size;obtain⟨⟨ab,ac,ad,ae⟩,_⟩:=kC ((j.B g K).T L.o);have af:g<wr:=PJ;by_cases ag:k<m
  .obtain⟨x,hx⟩:∃x,args[k]?=some x:=Gx (PH E.o);obtain⟨C,ah,ai,rfl,N,O,b⟩:=(a.kg (kz.ok .u8 d) (λq u=>B.B q (p.o q u))).kI (kz.ok .u8 d) k x hx;have aj:C<wr:=PH (p.o C N);have D:=F.o x (NH hx);have P:=D.two;obtain⟨d',v,rfl,rfl,a⟩:=O.open;obtain⟨Q,R,rfl,ak⟩:=a.form;have T:=b 0 _ rfl;have al:=b 1 _ rfl;have am:=b 2 _ rfl;have an:=b 3 _ rfl;rw[NS]at T;have U:=(G.o d' rfl S wr x.op x.n x.name Q _ R x.args a P D.2 PJ (λq u=>PH (p.o q u)))
   have ao:(0:Int)<=(k:Int):=PJ;have ap:(k:Int)<(m:Int):=PJ;clear b hx;go_wp2_with fail;refine U.M ?_;rintro e aq ⟨V,rfl,ar,W⟩;have X:=(j.T (W.M M))
   go_wp2_with fail;go_roundw;case rel=>exact⟨k+1,max r V,PJ,PQ,by first|rfl|(congr 1;omega)|(simp;omega),PJ,X⟩
   case measure=>simp[intOf];omega
  obtain rfl:k=m:=PJ;have hw:IntKind.i64.wrap ((r:Int)+1)=((r+1:Nat):Int):=PN;go_wp2_with fail;go_ret;exact⟨r+1,by first|rfl|simp[hw],PJ,B⟩
theorem xb:∀d,Ca d
 |0=>vB 0 λd' e=>by omega
 |d+1=>vB (d+1) λd' e=>by obtain rfl:d=d':=PJ;exact xb d
theorem AD:∀d,Jt d
 |0=>yC 0 λd' e=>PJ
 |d+1=>yC (d+1) λd' e=>(Nat.succ.inj e)▸AD d
theorem AE:∀d,Ju d
 |0=>yD 0 λd' e=>PJ
 |d+1=>yD (d+1) λd' e=>(Nat.succ.inj e)▸AE d
theorem CC:Ao 166:=by
 intro S w b o d s r R z hr A T j;have D:=A.five;obtain⟨d',U,V,W,rfl,rfl,f,_,_⟩:=hr.open;obtain⟨_,E,_⟩:=A;obtain⟨X,c,rfl,hc⟩:=f.form;obtain⟨n,B⟩:=Xq s.kV.length;rw[<-B]at f hc z D;have Y:=z 3 _ rfl
 go_enter func166,ntmps166
 go_wp2_with fail;go_loopw [10] (λi wr=>∃k:Nat,k<=n/\i=k/\Below w w wr) (λi _=>n-(intOf i).toNat);case atStart=>exact⟨0,NP _,rfl,Below.refl _ _⟩
 case round=>
  obtain⟨k,Z,rfl,l⟩:=hrel;have aa:=l.size;by_cases ab:k<n
  .obtain⟨x,hx⟩:∃x,s.kV[k]?=some x:=Gx (PH B);obtain⟨C,ac,r,rfl,F,hr,m⟩:=(f.kg (kz.ok .u8 De) (λq g=>l.B q (j q g))).kI (kz.ok .u8 De) k x hx;have ad:C<wr:=PH (j C F);have t:=E x (NH hx);have G:=t.two;have ae:De=6:=rfl;obtain⟨p,v,I,rfl,f⟩:=hr.open;obtain⟨u,y,rfl,_⟩:=f.form;have J:=m 0 _ rfl;have af:=m 1 _ rfl;have ag:=m 2 _ rfl;have ah:=m 3 _ rfl;rw[NS]at J;have K:∀a∈x.args,ml p a:=(by rw[I]at t;exact t.2);have L:=f.kg (kz.ok .u8 p) (w':=wr.alloc (.cells #[.int .u8 x.op,tx x.name,x.n,.slice u x.args.length y] 190)) (λq g=>N6 _ _ (PH (j q g)));have M:=(xb p S _ x.op x.n x.name u _ y x.args L G K PJ (λq g=>by rw[NB];have:=j q g;omega))
   have N:=(l.alloc PJ (.cells #[.int .u8 x.op,tx x.name,x.n,.slice u x.args.length y] 190))
   have ai:(0:Int)<=(k:Int):=PJ;have aj:(k:Int)<(n:Int):=PJ;have ak:p<=5:=PJ;go_wp2_with fail;refine M.M ?_;rintro e al ⟨O,rfl,am,P⟩;have Q:=(N.T (P.M (by rw[NB];omega)))
   have an:¬(8:Int)<(O:Int):=PJ;go_wp2_with fail;go_roundw;case rel=>exact⟨k+1,PJ,PQ,Q⟩
   case measure=>simp[intOf];omega
  obtain rfl:k=n:=PJ;go_wp2_with fail;go_ret;exact⟨rfl,l⟩
theorem vt:Dw 127:=by
 intro S w i d c1 b c c2 h z A B a hS;have K:d<=2:=by rw[<-A.len.1];exact a.FH
 have L:¬(4:Int)<(d:Int):=PJ
 have l:=FO w h i d c1 b c c2;have m:=(λ(f:World) (n:Below w w f)=>B.kg (kE.ok .u8 Ds) (λq p=>n.B q (hS q p)))
 have s:=(λ(f:World) (n:Below w w f) q (p:S q)=>ND (hS q p) n.size)
 have x:=NF w (.cells #[tx h.name,.slice i d c1,.slice b c c2] 118);have t:kN Ds h.body<=40:=NR a.cnt PJ;have M:=a.cnt;have u:Ds=4:=rfl
 go_enter func127,ntmps127
 go_wp2_with fail;refine(AD Ds S _ b c c2 h.body (m _ l) a.BZ a.body t (by rw[u];omega) (s _ l)).M ?_;have y:w<(w.alloc (.cells #[tx h.name,.slice i d c1,.slice b c c2] 118)).heap.size:=PK
 generalize w.alloc (.cells #[tx h.name,.slice i d c1,.slice b c c2] 118)=N at*;rintro e f ⟨r,rfl,hr,j⟩;have O:¬(40:Int)<(r:Int):=PH t
 have k:=(l.T (j.M PJ))
 have P:=j.size;obtain⟨⟨C,D,E⟩,_⟩:=kS ((j.B _ y).T x);have F:=((j.B _ y).T x)
 go_wp2_with fail;refine(AE Ds S _ b c c2 h.body (m _ k) a.BZ a.body t (by rw[u];omega) (s _ k)).M ?_;rintro e Q ⟨G,rfl,R,v⟩;have T:¬(8:Int)<(G:Int):=PH u
 have g:=(k.T (v.M k.size))
 have I:w.heap.size<f:=PJ
 have U:=v.size;obtain⟨⟨C,D,E⟩,_⟩:=kS ((v.B _ I).T F);go_wp2_with fail;refine(sI 166 zI CC Ds S _ b c c2 h.body (z.to g) (m _ g) a.BZ a.body (s _ g)).M ?_;rintro e V ⟨rfl,J⟩;go_wp2_with fail;go_ret;exact⟨rfl,g.T (J.M g.size)⟩
theorem CD:Dw 129:=by
 intro S w m a c1 b c c2 h d u C f n;have s:=u.len;have T:a<=2:=by rw[<-s.1];exact f.FH
 have U:=s.2;have y:=FO w h m a c1 b c c2;have D:=(λ(g:World) (t:Below w w g)=>u.kg kA.ok (λq j=>t.B q (n q j)))
 have E:=(λ(g:World) (t:Below w w g)=>C.kg (kE.ok .u8 Ds) (λq j=>t.B q (n q j)))
 have F:=s.1;have z:=NF w (.cells #[tx h.name,.slice m a c1,.slice b c c2] 118);have G:w<(w.alloc (.cells #[tx h.name,.slice m a c1,.slice b c c2] 118)).heap.size:=PK
 go_enter func129,ntmps129
 go_wp2_with fail;refine(nX _ f.name _ (d.names.kh y d.low.1)).M ?_;rintro e g ⟨rfl,rfl⟩;generalize w.alloc (.cells #[tx h.name,.slice m a c1,.slice b c c2] 118)=A at*;obtain⟨⟨I,J,K⟩,_⟩:=kS z;go_wp2_with fail;go_loopw [3,12] (λv i wr=>∃k:Nat,k<=a/\i=k/\v=.bool true/\Below A A wr) (λ_ i _=>a-(intOf i).toNat);case atStart=>exact⟨0,NP _,rfl,rfl,Below.refl _ _⟩
 case round=>
  obtain⟨k,V,rfl,rfl,p⟩:=hrel;have l:=(y.T (p.M PJ))
  have W:=p.size;have L:=((p.B _ G).T z)
  by_cases X:k<a
  .obtain⟨x,hx⟩:∃x,h.params[k]?=some x:=Gx (PH F);obtain⟨B,Y,r,rfl,M,hr,N⟩:=(D _ l).kI kA.ok k x hx;have O:r=[tx x]:=hr;subst O;have Z:B<wr:=PH (n B M);have P:=N 0 _ rfl;rw[NS,Og]at P;have Q:=(nX x (f.params x (NH hx)) wr (d.names.kh l d.low.1))
   have aa:(0:Int)<=(k:Int):=PJ;have ab:(k:Int)<(a:Int):=PJ;go_wp2_with fail;refine Q.M ?_;rintro e g ⟨rfl,rfl⟩;go_wp2_with fail;go_roundw;case rel=>exact⟨k+1,PJ,PQ,rfl,p⟩
   case measure=>simp[intOf];omega
  obtain rfl:k=a:=PJ;obtain⟨⟨I,J,K⟩,_⟩:=kS L;have ac:w.heap.size<wr:=PJ;go_wp2_with fail;refine(sI 131 vP xW Ds S _ b c c2 h.body (d.to l) (E _ l) f.BZ f.body (λq j=>PH (n q j))).M ?_;rintro e ad ⟨rfl,R⟩;go_wp2_with fail;go_ret;exact⟨rfl,l.T (R.M PJ)⟩
theorem Ew(S w z)(j c1:Nat)(A)(l c2:Nat)(D)(g c3:Nat)(f)(aC:lH w)(hf:qV S w z j c1 A l c2 D g c3 f)(J:pj f):
  Calls prog 84 #[.agg #[tx f.name,.slice z j c1,.slice A l c2,.slice D g c3]] w (kU (.bool true) w):=by
 have X:=hf.kM;have Y:=hf.lN;have R:=hf.ky;have hS:=hf.ln;have aR:j<=2:=by rw[<-X.len.1];exact J.zf
 have aS:l<=9:=by rw[<-Y.len.1];exact J.Ee
 have aT:g<=3:=by rw[<-R.len.1];exact J.c3
 have aU:1<=g:=by rw[<-R.len.1];exact J.c1
 have aV:=X.len.2;have aW:=Y.len.2;have aX:=R.len.2;have aD:=NA X.len.1;have aE:=NA Y.len.1;have aF:=NA R.len.1;have Z:Below w w (w.alloc (.cells #[tx f.name,.slice z j c1,.slice A l c2,.slice D g c3] 42)):=Ba _ _;have ai:=NF w (.cells #[tx f.name,.slice z j c1,.slice A l c2,.slice D g c3] 42);have aY:(w.alloc (.cells #[tx f.name,.slice z j c1,.slice A l c2,.slice D g c3] 42)).heap.size=w+1:=PK
 have K:=(hf.kh Z)
 have L:=J;have n:=(aC.to Z)
 have T:=NA ai;clear hS ai
 go_enter func84,ntmps84
 go_wp2_with fail;refine(nX f.name L.name _ n.names).M ?_;rintro e G ⟨rfl,rfl⟩;generalize w.alloc (.cells #[tx f.name,.slice z j c1,.slice A l c2,.slice D g c3] 42)=B at*;have aa:w.heap.size<B:=PJ
 have t:=NA K.ln;have aG:=K.kM;have aH:=K.lN;have aI:=K.ky;have a:=(Below.refl B B)
 obtain⟨⟨ab,ac,ad,ae⟩,_⟩:=kC T.o;go_wp2_with fail;go_loopw [3,18] (λv i wr=>∃k:Nat,k<=j/\i=k/\v=.bool true/\Below B B wr) (λ_ i _=>j-(intOf i).toNat);case atStart=>exact⟨0,NP _,rfl,rfl,a⟩
 case round=>
  obtain⟨c,aj,rfl,rfl,a⟩:=hrel;have ak:=a.size;by_cases al:c<j
  .obtain⟨b,hx⟩:∃x,f.kM[c]?=some x:=Gx (PH aD.o);obtain⟨u,o1,r,rfl,E,hr,d⟩:=(aG.kg mR.ok (λq m=>a.B q (t.o q m))).kI mR.ok c b hx;have M:r=[tx b.name,.bool b.init]:=hr;subst M;have N:=d 0 _ rfl;have af:=d 1 _ rfl;rw[NS]at N;have am:u<wr:=PH (t.o u E);have O:=NH hx;have an:(0:Int)<=(c:Int):=PJ;have ao:(c:Int)<(j:Int):=PJ;clear d hx;have U:=L.kM b O;have p:=(a.alloc PJ (.cells #[tx b.name,.bool b.init] 100))
   go_wp2_with fail;refine(nX b.name U _ (n.names.kh p n.low.1)).M ?_;rintro e G ⟨rfl,rfl⟩;have a:=p;go_wp2_with fail;go_roundw;case rel=>exact⟨c+1,PJ,PQ,rfl,a⟩
   case measure=>simp[intOf];omega
  obtain rfl:j=c:=PJ;obtain⟨⟨ab,ac,ad,ae⟩,_⟩:=kC ((a.B _ aa).T T.o);have ap:w.heap.size<wr:=PH a.size;go_wp2_with fail;go_loopw [3,32] (λv i wr=>∃k:Nat,k<=l/\i=k/\v=.bool true/\Below B B wr) (λ_ i _=>l-(intOf i).toNat);case atStart=>exact⟨0,NP _,rfl,rfl,a⟩
  case round=>
   obtain⟨c,aj,rfl,rfl,a⟩:=hrel;have a:=a;have ak:=a.size;by_cases al:c<l
   .obtain⟨b,hx⟩:∃x,f.lN[c]?=some x:=Gx (PH aE.o);obtain⟨u,o1,r,rfl,E,hr,d⟩:=(aH.kg nI.ok (λq m=>a.B q (t.o q m))).kI nI.ok c b hx;have M:r=[tx b.a,tx b.b,.int .i64 b.sW]:=hr;subst M;have N:=d 0 _ rfl;have af:=d 1 _ rfl;have aq:=d 2 _ rfl;rw[NS]at N;have am:u<wr:=PH (t.o u E);have O:=NH hx;have an:(0:Int)<=(c:Int):=PJ;have ao:(c:Int)<(l:Int):=PJ;clear d hx;have U:=L.lN b O;have p:=(a.alloc PJ (.cells #[tx b.a,tx b.b,b.sW] 101))
    have ar:=NA U;clear U;go_wp2_with fail;refine(nX b.a ar.o.1 _ (n.names.kh p n.low.1)).M ?_;rintro e G ⟨rfl,rfl⟩;go_wp2_with fail;refine(nX b.b ar.o.2.1 _ (n.names.kh p n.low.1)).M ?_;rintro e G ⟨rfl,rfl⟩;have a:=p;go_wp2_with fail;go_roundw;case rel=>exact⟨c+1,PJ,PQ,rfl,a⟩
    case measure=>simp[intOf];omega
   obtain rfl:l=c:=PJ;obtain⟨⟨ab,ac,ad,ae⟩,_⟩:=kC ((a.B _ aa).T T.o);have ap:w.heap.size<wr:=PH a.size;go_wp2_with fail;go_loopw [3,51] (λv i wr=>∃k:Nat,k<=g/\i=k/\v=.bool true/\Below B B wr) (λ_ i _=>g-(intOf i).toNat);case atStart=>exact⟨0,NP _,rfl,rfl,a⟩
   case round=>
    obtain⟨c,aj,rfl,rfl,a⟩:=hrel;have a:=a;have ak:=a.size;by_cases al:c<g
    .obtain⟨b,hx⟩:∃x,f.ky[c]?=some x:=Gx (PH aF.o);obtain⟨u,o1,r,rfl,E,hr,d⟩:=(aI.kg (mg.ok .u8) (λq m=>a.B q (t.o q m))).kI (mg.ok .u8) c b hx;obtain⟨aZ,ba,rfl,ag,ah⟩:=hr;obtain⟨au,cv,rfl,hcv⟩:=ag.form;obtain⟨av,aw,rfl,hce⟩:=ah.form;have N:=d 0 _ rfl;have af:=d 1 _ rfl;have aq:=d 2 _ rfl;rw[NS]at N;have am:u<wr:=PH (t.o u E);have O:=NH hx;have an:(0:Int)<=(c:Int):=PJ;have ao:(c:Int)<(g:Int):=PJ;clear d hx;have P:=L.ky b O;obtain⟨y,V⟩:=Xq b.vars.length;obtain⟨W,Q⟩:=Xq b.kY.length;rw[<-V]at af ag hcv;rw[<-Q]at aq ah hce;have bb:y<=5:=(by rw[V];exact P.B0);have bc:W<=2:=(by rw[Q];exact P.v2);have bd:1<=W:=(by rw[Q];exact P.v1);have aJ:=NA V.symm;have be:=NA Q.symm;obtain⟨C,I⟩:=Xq (wr.alloc (.cells #[tx b.name,.slice au y cv,.slice av W aw] 105));have bf:C.heap.size=wr+1:=(by rw[I];simp);have p:=(show Below B B C by rw[I];exact a.alloc PJ _)
     have ax:wr.grownBy C none:=(by rw[I];exact NN _ _ none);have aK:=(ag.kg (nJ.ok .u8) (w':=C) (λq m=>ax.B q (PH (t.o q m)) PK))
     have bg:=(ah.kg (mB.ok .u8) (w':=C) (λq m=>ax.B q (PH (t.o q m)) PK))
     have ay:=NA (show∀q,S q->q<C from λq m=>PH (t.o q m));clear V Q;have aL:=P.name;have az:C.heap[wr.heap.size]?=some (.cells #[tx b.name,.slice au y cv,.slice av W aw] 105 (0,0)):=(by rw[I];exact NF _ _);have bh:wr.heap.size<C:=PJ;go_wp2_with fail;rw[<-I];refine(nX b.name aL _ (n.names.kh p n.low.1)).M ?_;rintro e G ⟨rfl,rfl⟩;obtain⟨⟨bi,bj,bk⟩,_⟩:=kS az;clear I az;go_wp2_with fail;have a:=(Below.refl C C)
     go_loopw [3,64] (λv i wr=>∃k:Nat,k<=y/\i=k/\v=.bool true/\Below C C wr) (λ_ i _=>y-(intOf i).toNat);case atStart=>exact⟨0,NP _,rfl,rfl,a⟩
     case round=>
      obtain⟨F,bl,rfl,rfl,a⟩:=hrel;have a:=a;have bm:=a.size;by_cases bn:F<y
      .obtain⟨s,hx⟩:∃x,b.vars[F]?=some x:=Gx (PH aJ.o);obtain⟨aA,o2,r,rfl,E,hr,d⟩:=(aK.kg (nJ.ok .u8) (λq m=>a.B q (ay.o q m))).kI (nJ.ok .u8) F s hx;have M:r=[tx s.name,.int .u8 s.ty,.int .i64 s.init]:=hr;subst M;have aM:=d 0 _ rfl;have bo:=d 1 _ rfl;have bp:=d 2 _ rfl;rw[NS]at aM;have bq:aA<wr:=PH (ay.o aA E);have aN:=NH hx;have br:(0:Int)<=(F:Int):=PJ;have bs:(F:Int)<(y:Int):=PJ;clear d hx;have aO:=(P.vars s aN).name;have p:=(p.T ((a.alloc PJ (.cells #[tx s.name,.int .u8 s.ty,s.init] 108)).M PJ))
       have aP:=(a.alloc PJ (.cells #[tx s.name,.int .u8 s.ty,s.init] 108))
       go_wp2_with fail;refine(nX s.name aO _ (n.names.kh p n.low.1)).M ?_;rintro e G ⟨rfl,rfl⟩;have a:=aP;go_wp2_with fail;go_roundw;case rel=>exact⟨F+1,PJ,PQ,rfl,a⟩
       case measure=>simp[intOf];omega
      obtain rfl:y=F:=PJ;have a:=(p.T (a.M PJ))
      go_wp2_with fail;go_roundw;case rel=>exact⟨c+1,PJ,PQ,rfl,a⟩
      case measure=>simp[intOf];omega
    obtain rfl:g=c:=PJ;obtain⟨⟨ab,ac,ad,ae⟩,_⟩:=kC ((a.B _ aa).T T.o);have ap:w.heap.size<wr:=PH a.size;go_wp2_with fail;have aB:=(Z.T (a.M PJ))
    refine(oT 129 zJ CD S wr z j c1 A l c2 D g c3 f (n.to a) (K.kh a) L).M ?_;rintro e G ⟨rfl,aQ⟩;go_wp2_with fail;go_ret;exact⟨rfl,aB.T (aQ.M aB.size)⟩
theorem Ez(S b w)(cb:Nat)(j l m n hd own d f g params p)(k c:Nat)(q:List In)(name:List UInt8)(h:lO b cb j l m n hd own d f g params (.slice p k c) q w)(hx:zg S b cb d f g params)(y:k<=100000):
  Calls prog 217 #[.pointer (some ⟨cb,0,none⟩),tx name] w (uL b cb j l m n hd own d f g params (.slice p k c) w (.tuple #[]) (λv=>∃x,v=q++[x]/\lQ x)):=by
 have H:=h;have i:=hx;have D:=kf h.c 6 _ rfl;have E:=kf h.c 8 _ rfl;have F:=kf h.c 9 _ rfl
 go_enter func217,ntmps217
 go_wp2_with fail;refine(mz H i.ln i.params name).M ?_;rintro e z ⟨r,rfl,rfl⟩;by_cases hr:0<=r
 .go_wp2_with fail;refine(kR b w cb j l m n hd own d f g params p k c q ⟨3,r,0,0⟩ H y).M ?_;rintro e A ⟨rfl,s,v,t,u,rfl⟩;have a:=(And.intro t u)
  go_wp2_with fail
  go_end0
  exact⟨rfl,s,_,a.1,a.2,_,rfl,PR⟩
 .go_wp2_with fail;refine(mz H i.ln i.vars name).M ?_;rintro e z ⟨B,rfl,rfl⟩;by_cases G:0<=B
  .go_wp2_with fail;refine(kR b w cb j l m n hd own d f g params p k c q ⟨2,B,0,0⟩ H y).M ?_;rintro e A ⟨rfl,s,v,t,u,rfl⟩;have a:=(And.intro t u)
   go_wp2_with fail
   go_end0
   exact⟨rfl,s,_,a.1,a.2,_,rfl,PR⟩
  go_wp2_with fail;refine(mz H i.ln i.kM name).M ?_;rintro e z ⟨C,rfl,rfl⟩;go_wp2_with fail;refine(kR b w cb j l m n hd own d f g params p k c q ⟨4,C,0,0⟩ H y).M ?_;rintro e A ⟨rfl,s,v,t,u,rfl⟩;have a:=(And.intro t u)
  go_wp2_with fail
  go_end0
  exact⟨rfl,s,_,a.1,a.2,_,rfl,PR⟩
theorem EB(d:Nat)(ay:zy d):Cc (d+1):=by
 intro S u w cb y z A B hd own C t D params V ai op n name ae Q c1 args d' hd h R q az aN;obtain rfl:d=d':=PJ
 obtain⟨aA,aB,d',aC,ag⟩:=az.op;obtain rfl:d=d':=PJ
 simp only[Ex.op,Ex.args]at aA aB ag;have aD:Q<=2:=PH q.len.1
 have hz:qh (d+1)=2*qh d+1:=rfl;have aO:Q*qh d<=2*qh d:=Oz _ aD;have G:=NA (show ai.length+Q*qh d+1<=100000/\Q*qh d+1<=qh (d+1) from PJ);have aj:=Ba w (.cells #[.int .u8 op,tx name,n,.slice ae Q c1] 190);have aE:=(h.kh aj)
 have aF:=(mX.kh (cb:=cb) (V:=V) aj)
 have aG:=NA (NF w (.cells #[.int .u8 op,tx name,n,.slice ae Q c1] 190));have aP:=(NC.1 h.c).1;have ak:=h.own.ge;have af:=NA (show w<(w.alloc (.cells #[.int .u8 op,tx name,n,.slice ae Q c1] 190)).heap.size/\w≠cb/\some w.heap.size≠V.ownBlock from⟨PK,PJ,λe=>PH ((ak _ e.symm).2)⟩);have aH:=NA ag;have aI:=ay;clear h ag ak hd aC hz
 go_enter func213,ntmps213
 go_wp2_with fail;refine(aI S u _ cb y z A B hd own C t D params V ai ae Q c1 args aE R q aH.o (PH G.o.1) PJ).M ?_;rintro e E ⟨rfl,aQ,s,I,ah,J⟩;obtain⟨al,aJ⟩:=ah.k _ af.o.1 af.o.2.1 af.o.2.2;obtain⟨P,am⟩:=Xq w.heap.size;have T:=NA (al.T aG.o);have U:w.heap.size<E:=ND af.o.1 ah.size;rw[<-am]at T U⊢;obtain⟨F,c,rfl⟩:=I.form;have L:=(aF.T ah)
 have M:s.length<=100000:=by obtain⟨l,aK,aR,_⟩:=J;rw[aK,N2];have:=G.o.1;omega
 clear al aJ am;obtain⟨⟨W,X,Y,Z⟩,_⟩:=kC T.o;have aL:op=1\/op=2\/op=3\/op=4\/op=5\/op=6\/op=7\/op=8\/op=9\/op=10\/op=11\/op=12\/op=13\/op=14\/op=15\/op=16\/op=17\/op=18\/op=19\/op=20\/op=21\/op=22\/op=23:=PJ
 rcases aL with rfl|rfl|rfl|rfl|rfl|rfl|rfl|rfl|rfl|rfl|rfl|rfl|rfl|rfl|rfl|rfl|rfl|rfl|rfl|rfl|rfl|rfl|rfl
 .go_wp2_with fail;refine(kR u E cb y z A B hd own C t D params F _ c s ⟨1,0,0,n⟩ I M).M ?_;rintro e N ⟨rfl,i,j,k,p,b⟩;have a:=NA (And.intro k (And.intro (L.T p) (J.snoc (m:=qh (d+1)) (x:=⟨1,0,0,n⟩) PR b G.o.2)));clear b;go_wp2_with fail
  go_end0
  exact⟨rfl,i,j,a.o.1,a.o.2.1,a.o.2.2⟩
 .go_wp2_with fail;refine(kR u E cb y z A B hd own C t D params F _ c s ⟨1,0,0,1⟩ I M).M ?_;rintro e N ⟨rfl,i,j,k,p,b⟩;have a:=NA (And.intro k (And.intro (L.T p) (J.snoc (m:=qh (d+1)) (x:=⟨1,0,0,1⟩) PR b G.o.2)));clear b;go_wp2_with fail
  go_end0
  exact⟨rfl,i,j,a.o.1,a.o.2.1,a.o.2.2⟩
 .go_wp2_with fail;refine(kR u E cb y z A B hd own C t D params F _ c s ⟨1,0,0,0⟩ I M).M ?_;rintro e N ⟨rfl,i,j,k,p,b⟩;have a:=NA (And.intro k (And.intro (L.T p) (J.snoc (m:=qh (d+1)) (x:=⟨1,0,0,0⟩) PR b G.o.2)));clear b;go_wp2_with fail
  go_end0
  exact⟨rfl,i,j,a.o.1,a.o.2.1,a.o.2.2⟩
 .go_wp2_with fail;refine(kR u E cb y z A B hd own C t D params F _ c s ⟨5,0,0,0⟩ I M).M ?_;rintro e N ⟨rfl,i,j,k,p,b⟩;have a:=NA (And.intro k (And.intro (L.T p) (J.snoc (m:=qh (d+1)) (x:=⟨5,0,0,0⟩) PR b G.o.2)));clear b;go_wp2_with fail
  go_end0
  exact⟨rfl,i,j,a.o.1,a.o.2.1,a.o.2.2⟩
 .go_wp2_with fail;refine(Ez S u E cb y z A B hd own C t D params F _ c s name I R M).M ?_;rintro e N ⟨rfl,i,j,k,p,x,b,aM⟩;have a:=NA (And.intro k (And.intro (L.T p) (J.snoc (m:=qh (d+1)) aM b G.o.2)));clear b;go_wp2_with fail
  go_end0
  exact⟨rfl,i,j,a.o.1,a.o.2.1,a.o.2.2⟩
 .go_wp2_with fail;refine sV (λx=>lO u cb y z A B hd own C t D params (.slice F s.length c) s x/\Below E E x) (λv w=>∃(i:Value) (j:List In) (r:Int),lO u cb y z A B hd own C t D params i j w/\mX cb (.slice F s.length c) E i w/\j=s++[⟨6,r,0,0⟩]) (mG [(Pp cb 0),(Pp P 0),(·=.int .u8 6),(Pp cb 0),(Pp cb 0),(Pp cb 7),(·=t),(Pp P 1),(·=tx name),Tr,Tr,Tr]) [(9,λv w=>∃r:Int,v=r),(10,λv w=>∃r:Int,v=.agg #[.int .u8 6,r,.int .i64 0,.int .i64 0])] (⟨I.kh (Below.refl _ _).drew,(Below.refl _ _).drew⟩) ⟨?_,?_,?_,?_,?_,?_,?_,?_,?_,?_,?_,?_,trivial⟩ ?_;exact Pf 0;exact Pf 3;intro O w f hf q hd hw;have an:=Sv 48 q 1;obtain⟨⟨W,X,Y,Z⟩,_⟩:=kC ((f.2.B P U).T T.o);replace f:=Hq f;exact .q (g:=⟨rfl,f.o,Qa⟩);exact Pf 0;exact Pv 50 3;exact Pv 51 4;intro O w f hf q hd hw;exact .l 52 (q 5 _ rfl rfl) (kf f.1.c 7 _ rfl) ⟨rfl,f,Qa⟩;exact Pf 3;intro O w f hf q hd hw;have ao:=Sv 54 q 7;obtain⟨⟨W,X,Y,Z⟩,_⟩:=kC ((f.2.B P U).T T.o);replace f:=Hq f;exact .q (g:=⟨rfl,f.o,Qa⟩);intro O w f hf q hd hw;have ap:=Sv 53 q 6;have aq:=Sv 55 q 8;clear hf q hd hw;replace f:=Hq f;refine .h λK hK=>?_;go_simp;refine⟨rfl,?_⟩;refine Calls.M (mz f.o.1 R.ln R.kF name) ?_;rintro e w' ⟨r,he,hw⟩;subst hw;subst he;exact⟨_,rfl,hK ⟨trivial,f.o,Qc ⟨r,rfl⟩<|Qb<|Qe⟩⟩;intro O w f hf q hd hw;have ar:=Sv 49 q 2;obtain⟨r,aa⟩:=hd _ (Mm 0 rfl) _ rfl rfl;have au:=Sl 56 aa;exact .q (g:=⟨trivial,f,Qb<|Qc ⟨r,rfl⟩<|Qa⟩);intro O w f hf q hd hw;have av:=Sv 47 q 0;obtain⟨r,ab⟩:=hd _ (Mm 1 rfl) _ rfl rfl;have aw:=Sl 57 ab;clear hf q hd hw;replace f:=Hq f;refine .h λK hK=>?_;go_simp;refine⟨rfl,?_⟩;refine Calls.M (kR u w cb y z A B hd own C t D params F _ c s ⟨6,r,0,0⟩ f.o.1 M) ?_;rintro e w' ⟨he,i,j,k,p,b⟩;subst he;refine⟨_,rfl,?_⟩;exact hK (⟨i,j,r,k,(mX.kh f.o.2).T p,b⟩);intro ax N ac ad;obtain⟨i,j,r,k,p,b⟩:=ad;have a:=NA (And.intro k (And.intro (L.T p) (J.snoc (m:=qh (d+1)) (x:=⟨6,r,0,0⟩) PR b G.o.2)));clear b ac;simp only[kr,Act.put,NI,NL,NJ];go_wp2_with fail
  go_end0
  exact⟨rfl,i,j,a.o.1,a.o.2.1,a.o.2.2⟩
 .go_wp2_with fail;refine sV (λx=>lO u cb y z A B hd own C t D params (.slice F s.length c) s x/\Below E E x) (λv w=>∃(i:Value) (j:List In) (r:Int),lO u cb y z A B hd own C t D params i j w/\mX cb (.slice F s.length c) E i w/\j=s++[⟨7,r,0,0⟩]) (mG [(Pp cb 0),(Pp P 0),(·=.int .u8 7),(Pp cb 0),(Pp cb 0),(Pp cb 7),(·=t),(Pp P 1),(·=tx name),Tr,Tr,Tr]) [(9,λv w=>∃r:Int,v=r),(10,λv w=>∃r:Int,v=.agg #[.int .u8 7,r,.int .i64 0,.int .i64 0])] (⟨I.kh (Below.refl _ _).drew,(Below.refl _ _).drew⟩) ⟨?_,?_,?_,?_,?_,?_,?_,?_,?_,?_,?_,?_,trivial⟩ ?_;exact Pf 0;exact Pf 3;intro O w f hf q hd hw;have an:=Sv 48 q 1;obtain⟨⟨W,X,Y,Z⟩,_⟩:=kC ((f.2.B P U).T T.o);replace f:=Hq f;exact .q (g:=⟨rfl,f.o,Qa⟩);exact Pf 0;exact Pv 50 3;exact Pv 51 4;intro O w f hf q hd hw;exact .l 52 (q 5 _ rfl rfl) (kf f.1.c 7 _ rfl) ⟨rfl,f,Qa⟩;exact Pf 3;intro O w f hf q hd hw;have ao:=Sv 54 q 7;obtain⟨⟨W,X,Y,Z⟩,_⟩:=kC ((f.2.B P U).T T.o);replace f:=Hq f;exact .q (g:=⟨rfl,f.o,Qa⟩);intro O w f hf q hd hw;have ap:=Sv 53 q 6;have aq:=Sv 55 q 8;clear hf q hd hw;replace f:=Hq f;refine .h λK hK=>?_;go_simp;refine⟨rfl,?_⟩;refine Calls.M (mz f.o.1 R.ln R.kF name) ?_;rintro e w' ⟨r,he,hw⟩;subst hw;subst he;exact⟨_,rfl,hK ⟨trivial,f.o,Qc ⟨r,rfl⟩<|Qb<|Qe⟩⟩;intro O w f hf q hd hw;have ar:=Sv 49 q 2;obtain⟨r,aa⟩:=hd _ (Mm 0 rfl) _ rfl rfl;have au:=Sl 56 aa;exact .q (g:=⟨trivial,f,Qb<|Qc ⟨r,rfl⟩<|Qa⟩);intro O w f hf q hd hw;have av:=Sv 47 q 0;obtain⟨r,ab⟩:=hd _ (Mm 1 rfl) _ rfl rfl;have aw:=Sl 57 ab;clear hf q hd hw;replace f:=Hq f;refine .h λK hK=>?_;go_simp;refine⟨rfl,?_⟩;refine Calls.M (kR u w cb y z A B hd own C t D params F _ c s ⟨7,r,0,0⟩ f.o.1 M) ?_;rintro e w' ⟨he,i,j,k,p,b⟩;subst he;refine⟨_,rfl,?_⟩;exact hK (⟨i,j,r,k,(mX.kh f.o.2).T p,b⟩);intro ax N ac ad;obtain⟨i,j,r,k,p,b⟩:=ad;have a:=NA (And.intro k (And.intro (L.T p) (J.snoc (m:=qh (d+1)) (x:=⟨7,r,0,0⟩) PR b G.o.2)));clear b ac;simp only[kr,Act.put,NI,NL,NJ];go_wp2_with fail
  go_end0
  exact⟨rfl,i,j,a.o.1,a.o.2.1,a.o.2.2⟩
 .go_wp2_with fail;refine sV (λx=>lO u cb y z A B hd own C t D params (.slice F s.length c) s x/\Below E E x) (λv w=>∃(i:Value) (j:List In) (r:Int),lO u cb y z A B hd own C t D params i j w/\mX cb (.slice F s.length c) E i w/\j=s++[⟨8,r,0,0⟩]) (mG [(Pp cb 0),(Pp P 0),(·=.int .u8 8),(Pp cb 0),(Pp cb 0),(Pp cb 7),(·=t),(Pp P 1),(·=tx name),Tr,Tr,Tr]) [(9,λv w=>∃r:Int,v=r),(10,λv w=>∃r:Int,v=.agg #[.int .u8 8,r,.int .i64 0,.int .i64 0])] (⟨I.kh (Below.refl _ _).drew,(Below.refl _ _).drew⟩) ⟨?_,?_,?_,?_,?_,?_,?_,?_,?_,?_,?_,?_,trivial⟩ ?_;exact Pf 0;exact Pf 3;intro O w f hf q hd hw;have an:=Sv 48 q 1;obtain⟨⟨W,X,Y,Z⟩,_⟩:=kC ((f.2.B P U).T T.o);replace f:=Hq f;exact .q (g:=⟨rfl,f.o,Qa⟩);exact Pf 0;exact Pv 50 3;exact Pv 51 4;intro O w f hf q hd hw;exact .l 52 (q 5 _ rfl rfl) (kf f.1.c 7 _ rfl) ⟨rfl,f,Qa⟩;exact Pf 3;intro O w f hf q hd hw;have ao:=Sv 54 q 7;obtain⟨⟨W,X,Y,Z⟩,_⟩:=kC ((f.2.B P U).T T.o);replace f:=Hq f;exact .q (g:=⟨rfl,f.o,Qa⟩);intro O w f hf q hd hw;have ap:=Sv 53 q 6;have aq:=Sv 55 q 8;clear hf q hd hw;replace f:=Hq f;refine .h λK hK=>?_;go_simp;refine⟨rfl,?_⟩;refine Calls.M (mz f.o.1 R.ln R.kF name) ?_;rintro e w' ⟨r,he,hw⟩;subst hw;subst he;exact⟨_,rfl,hK ⟨trivial,f.o,Qc ⟨r,rfl⟩<|Qb<|Qe⟩⟩;intro O w f hf q hd hw;have ar:=Sv 49 q 2;obtain⟨r,aa⟩:=hd _ (Mm 0 rfl) _ rfl rfl;have au:=Sl 56 aa;exact .q (g:=⟨trivial,f,Qb<|Qc ⟨r,rfl⟩<|Qa⟩);intro O w f hf q hd hw;have av:=Sv 47 q 0;obtain⟨r,ab⟩:=hd _ (Mm 1 rfl) _ rfl rfl;have aw:=Sl 57 ab;clear hf q hd hw;replace f:=Hq f;refine .h λK hK=>?_;go_simp;refine⟨rfl,?_⟩;refine Calls.M (kR u w cb y z A B hd own C t D params F _ c s ⟨8,r,0,0⟩ f.o.1 M) ?_;rintro e w' ⟨he,i,j,k,p,b⟩;subst he;refine⟨_,rfl,?_⟩;exact hK (⟨i,j,r,k,(mX.kh f.o.2).T p,b⟩);intro ax N ac ad;obtain⟨i,j,r,k,p,b⟩:=ad;have a:=NA (And.intro k (And.intro (L.T p) (J.snoc (m:=qh (d+1)) (x:=⟨8,r,0,0⟩) PR b G.o.2)));clear b ac;simp only[kr,Act.put,NI,NL,NJ];go_wp2_with fail
  go_end0
  exact⟨rfl,i,j,a.o.1,a.o.2.1,a.o.2.2⟩
 .go_wp2_with fail;refine(kR u E cb y z A B hd own C t D params F _ c s ⟨9,0,0,0⟩ I M).M ?_;rintro e N ⟨rfl,i,j,k,p,b⟩;have a:=NA (And.intro k (And.intro (L.T p) (J.snoc (m:=qh (d+1)) (x:=⟨9,0,0,0⟩) PR b G.o.2)));clear b;go_wp2_with fail
  go_end0
  exact⟨rfl,i,j,a.o.1,a.o.2.1,a.o.2.2⟩
 .go_wp2_with fail;refine(kR u E cb y z A B hd own C t D params F _ c s ⟨10,0,0,0⟩ I M).M ?_;rintro e N ⟨rfl,i,j,k,p,b⟩;have a:=NA (And.intro k (And.intro (L.T p) (J.snoc (m:=qh (d+1)) (x:=⟨10,0,0,0⟩) PR b G.o.2)));clear b;go_wp2_with fail
  go_end0
  exact⟨rfl,i,j,a.o.1,a.o.2.1,a.o.2.2⟩
 .go_wp2_with fail;refine(kR u E cb y z A B hd own C t D params F _ c s ⟨11,0,0,0⟩ I M).M ?_;rintro e N ⟨rfl,i,j,k,p,b⟩;have a:=NA (And.intro k (And.intro (L.T p) (J.snoc (m:=qh (d+1)) (x:=⟨11,0,0,0⟩) PR b G.o.2)));clear b;go_wp2_with fail
  go_end0
  exact⟨rfl,i,j,a.o.1,a.o.2.1,a.o.2.2⟩
 .go_wp2_with fail;refine(kR u E cb y z A B hd own C t D params F _ c s ⟨12,0,0,0⟩ I M).M ?_;rintro e N ⟨rfl,i,j,k,p,b⟩;have a:=NA (And.intro k (And.intro (L.T p) (J.snoc (m:=qh (d+1)) (x:=⟨12,0,0,0⟩) PR b G.o.2)));clear b;go_wp2_with fail
  go_end0
  exact⟨rfl,i,j,a.o.1,a.o.2.1,a.o.2.2⟩
 .go_wp2_with fail;refine(kR u E cb y z A B hd own C t D params F _ c s ⟨13,0,0,0⟩ I M).M ?_;rintro e N ⟨rfl,i,j,k,p,b⟩;have a:=NA (And.intro k (And.intro (L.T p) (J.snoc (m:=qh (d+1)) (x:=⟨13,0,0,0⟩) PR b G.o.2)));clear b;go_wp2_with fail
  go_end0
  exact⟨rfl,i,j,a.o.1,a.o.2.1,a.o.2.2⟩
 .go_wp2_with fail;refine(kR u E cb y z A B hd own C t D params F _ c s ⟨14,0,0,0⟩ I M).M ?_;rintro e N ⟨rfl,i,j,k,p,b⟩;have a:=NA (And.intro k (And.intro (L.T p) (J.snoc (m:=qh (d+1)) (x:=⟨14,0,0,0⟩) PR b G.o.2)));clear b;go_wp2_with fail
  go_end0
  exact⟨rfl,i,j,a.o.1,a.o.2.1,a.o.2.2⟩
 .go_wp2_with fail;refine(kR u E cb y z A B hd own C t D params F _ c s ⟨15,0,0,0⟩ I M).M ?_;rintro e N ⟨rfl,i,j,k,p,b⟩;have a:=NA (And.intro k (And.intro (L.T p) (J.snoc (m:=qh (d+1)) (x:=⟨15,0,0,0⟩) PR b G.o.2)));clear b;go_wp2_with fail
  go_end0
  exact⟨rfl,i,j,a.o.1,a.o.2.1,a.o.2.2⟩
 .go_wp2_with fail;refine(kR u E cb y z A B hd own C t D params F _ c s ⟨16,0,0,0⟩ I M).M ?_;rintro e N ⟨rfl,i,j,k,p,b⟩;have a:=NA (And.intro k (And.intro (L.T p) (J.snoc (m:=qh (d+1)) (x:=⟨16,0,0,0⟩) PR b G.o.2)));clear b;go_wp2_with fail
  go_end0
  exact⟨rfl,i,j,a.o.1,a.o.2.1,a.o.2.2⟩
 .go_wp2_with fail;refine(kR u E cb y z A B hd own C t D params F _ c s ⟨17,0,0,0⟩ I M).M ?_;rintro e N ⟨rfl,i,j,k,p,b⟩;have a:=NA (And.intro k (And.intro (L.T p) (J.snoc (m:=qh (d+1)) (x:=⟨17,0,0,0⟩) PR b G.o.2)));clear b;go_wp2_with fail
  go_end0
  exact⟨rfl,i,j,a.o.1,a.o.2.1,a.o.2.2⟩
 .go_wp2_with fail;refine(kR u E cb y z A B hd own C t D params F _ c s ⟨18,0,0,0⟩ I M).M ?_;rintro e N ⟨rfl,i,j,k,p,b⟩;have a:=NA (And.intro k (And.intro (L.T p) (J.snoc (m:=qh (d+1)) (x:=⟨18,0,0,0⟩) PR b G.o.2)));clear b;go_wp2_with fail
  go_end0
  exact⟨rfl,i,j,a.o.1,a.o.2.1,a.o.2.2⟩
 .go_wp2_with fail;refine(kR u E cb y z A B hd own C t D params F _ c s ⟨19,0,0,0⟩ I M).M ?_;rintro e N ⟨rfl,i,j,k,p,b⟩;have a:=NA (And.intro k (And.intro (L.T p) (J.snoc (m:=qh (d+1)) (x:=⟨19,0,0,0⟩) PR b G.o.2)));clear b;go_wp2_with fail
  go_end0
  exact⟨rfl,i,j,a.o.1,a.o.2.1,a.o.2.2⟩
 .go_wp2_with fail;refine(kR u E cb y z A B hd own C t D params F _ c s ⟨20,0,0,0⟩ I M).M ?_;rintro e N ⟨rfl,i,j,k,p,b⟩;have a:=NA (And.intro k (And.intro (L.T p) (J.snoc (m:=qh (d+1)) (x:=⟨20,0,0,0⟩) PR b G.o.2)));clear b;go_wp2_with fail
  go_end0
  exact⟨rfl,i,j,a.o.1,a.o.2.1,a.o.2.2⟩
 .go_wp2_with fail;refine(kR u E cb y z A B hd own C t D params F _ c s ⟨21,0,0,0⟩ I M).M ?_;rintro e N ⟨rfl,i,j,k,p,b⟩;have a:=NA (And.intro k (And.intro (L.T p) (J.snoc (m:=qh (d+1)) (x:=⟨21,0,0,0⟩) PR b G.o.2)));clear b;go_wp2_with fail
  go_end0
  exact⟨rfl,i,j,a.o.1,a.o.2.1,a.o.2.2⟩
 .go_wp2_with fail;refine(kR u E cb y z A B hd own C t D params F _ c s ⟨22,0,0,0⟩ I M).M ?_;rintro e N ⟨rfl,i,j,k,p,b⟩;have a:=NA (And.intro k (And.intro (L.T p) (J.snoc (m:=qh (d+1)) (x:=⟨22,0,0,0⟩) PR b G.o.2)));clear b;go_wp2_with fail
  go_end0
  exact⟨rfl,i,j,a.o.1,a.o.2.1,a.o.2.2⟩
 go_wp2_with fail;refine(kR u E cb y z A B hd own C t D params F _ c s ⟨23,0,0,0⟩ I M).M ?_;rintro e N ⟨rfl,i,j,k,p,b⟩;have a:=NA (And.intro k (And.intro (L.T p) (J.snoc (m:=qh (d+1)) (x:=⟨23,0,0,0⟩) PR b G.o.2)));clear b;go_wp2_with fail
 go_end0
 exact⟨rfl,i,j,a.o.1,a.o.2.1,a.o.2.2⟩
theorem Bq(S:Nat->Prop)(w:World)(g:Option Addr)(n c:Nat)(xs:List Lk)(d:Lk)(a:Nat)(j:km nI S w (.slice g n c) xs)(P:n<=1000)(hS:∀q,S q->q<w)(u:w.cell? ⟨a,0,none⟩=some (tx d.a))(v:w.cell? ⟨a,1,none⟩=some (tx d.b))(l:a<w)(y:∀x∈xs,(x.a,x.b)≠(d.a,d.b)):
  Calls prog 175 #[.slice g n c,.func (.func 139) #[] #[.pointer (some ⟨a,0,none⟩)]] w (kU (.int .i64 (-1)) w):=by
 have z:=ED;unfold ma at z;have m:=j.len;have hc:=m.2;have A:=m.1;have B:=j;have p:=hS;have C:=u;have D:=v;have E:=y
 go_enter func175,ntmps175
 go_wp2;go_loopw [8] (λi wr=>∃k:Nat,k<=n/\i=k/\Below w w wr) (λi _=>n-(intOf i).toNat);case atStart=>exact⟨0,NP _,rfl,Below.refl _ _⟩
 case round=>
  obtain⟨k,Q,rfl,b⟩:=hrel;have F:=b.size;have G:=((Cb a 0 (b.B a l)).T C)
  have I:=((Cb a 1 (b.B a l)).T D)
  by_cases R:k<n
  .obtain⟨x,hx⟩:∃x,xs[k]?=some x:=Gx (PH A);obtain⟨s,T,r,rfl,J,hr,f⟩:=(B.kg nI.ok (λq K=>b.B q (p q K))).kI nI.ok k x hx;have L:r=[tx x.a,tx x.b,.int .i64 x.sW]:=hr;subst L;have M:=f 0 _ rfl;have U:=f 1 _ rfl;have V:=f 2 _ rfl;rw[NS]at M;have W:s<wr:=PH (p s J);have N:=(Ih x d a wr G I PJ (E x (NH hx)))
   go_wp2_with (refine N.M ?_;rintro e X ⟨rfl,t⟩;have O:=(b.T (t.M F));clear t);go_roundw;case rel=>exact⟨k+1,PJ,PQ,O⟩
   case measure=>simp[intOf];omega
  obtain rfl:n=k:=PJ;go_wp2;go_ret;exact⟨rfl,b⟩
end Go.Proofs.YtfemcncookpdhaaGreatDoor
