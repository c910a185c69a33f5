import Derived.Test.YtidmdcckbdmblaaGreatDoorZ2
import Derived.Test.YtidmdcckbdmblaaGreatDoorZ3
set_option maxRecDepth 1000000
set_option maxHeartbeats 32000000
set_option linter.all false
namespace Go.Proofs.YtidmdcckbdmblaaGreatDoor
open Go.RowKit Go.Proofs.Tryz
theorem jX{A:Type}{P}{w:World}(lo:Nat)(t)(q:TypeId)(e i z)(size s:Nat)(B:P.underlying t=some (.slice e))(hi:P.info? e=some i)(hz:i.zero=some z)
  (K:i.size=size) (L:i.bytes=s) (M:z.cells.size=size) {R:Rel A} (ok:jI R size) (k:Nat->Prop) (v:Value) (xs:List A) (af:jx R e size k w lo v xs)
  (l:Addr) (r:List Value) (C:A) (D:∀N u,r[N]?=some u->w.cell? (l.add N)=some u) (hR:R (λb=>k b/\b<w/\some b≠v.ownBlock) w r C)
  (O:xs.length+1<=maxLen) (Q:(xs.length+1)*s<=140737488355328) (ag:lo<=w):
  ∃d f w',(Builtin.append_ #[t,t] q #[v,.slice (some l) 1 1]).run P w=.ok (.slice d (xs.length+1) f) w'/\jx R e size k w' lo (.slice d (xs.length+1) f) (xs++[C])/\jx R e size k w' lo v xs/\w.grownBy w' v.ownBlock/\
   ((Value.slice d (xs.length+1) f).ownBlock=v.ownBlock\/(Value.slice d (xs.length+1) f).ownBlock=some w.heap.size):=by
 obtain⟨m,j,S⟩:=af.own;obtain⟨T,w',E,U,n,_,V⟩:=run_append_own_at (P:=P) w lo t q e i z size s B hi hz K L M ok.pos v xs.length m.flatten j l 1 1 r (by rw[ok.len hR];omega) D (ok.one hR) O Q ag;have ah:jx R e size k w' lo T (xs++[C]):=by
  refine⟨m++[r],?_,?_⟩;rw[JU];simpa using U;refine(jD.snoc hR S).imp λr x hx=>ok.M (ok.iV hx λb a=>n.B b a.2.1 (λe=>a.2.2 e)) λb a=>⟨a.1,JI a.2.1 n.size,λe=>?_⟩
  rcases V with F|F;exact a.2.2 (e.T F);rw[F]at e;injection e with e;exact absurd a.2.1 LC
 have ai:∃d f,T=.slice d (xs.length+1) f:=by
  rcases U.2 with⟨_,W⟩|⟨g,p,c,rfl,_⟩
  omega;exact⟨_,_,rfl⟩
 obtain⟨d,f,rfl⟩:=ai;refine⟨d,f,w',E,ah,?_,n,V⟩;have aj:jD (R (λb=>k b/\b<w'/\some b≠v.ownBlock) w') m xs:=S.imp λr x hx=>ok.M (ok.iV hx λb a=>n.B b a.2.1 (λe=>a.2.2 e)) λb a=>⟨a.1,JI a.2.1 n.size,a.2.2⟩
 refine⟨m,?_,aj⟩;rcases j.2 with⟨rfl,W⟩|⟨g,p,c,rfl,X,y,Y,Z,aa,ab⟩
 .exact⟨j.1,.inl ⟨rfl,W⟩⟩
 .subst K;by_cases ac:xs.length+1<=p;have ad:r.length=1*i.size:=(by rw[ok.len hR];omega);have G:xs.length*i.size+r.length<=c.size:=(by rw[ad,aa,<-Lu];exact KU _ ac);have hr:=run_append_room (P:=P) (w:=w) t q e i B hi g xs.length p c y l 1 1 r ad D (ok.one hR) ac G;rw[E]at hr;injection hr with I J;injection I with I _ ak;subst I J ak;have al:=setRow_heap w g c (c.toList.take (xs.length*i.size)++r++c.toList.drop (xs.length*i.size+r.length)).toArray e (0,0) y;refine⟨j.1,.inr ⟨g,_,_,rfl,X,al,Y,Z,?_,?_⟩⟩;have am:min (xs.length*i.size) c.size=xs.length*i.size:=Nat.min_eq_left (J9 (Nat.le_add_right _ _) G);simp only[KQ,JU,Kv,List.length_drop,K1,am];omega;have an:(c.toList.take (xs.length*i.size)).length=xs.length*i.size:=(by rw[Kv,K1];exact Nat.min_eq_left (J9 (Nat.le_add_right _ _) G));simp only[Kh];have:=List.take_left (l₁:=c.toList.take (xs.length*i.size)) (l₂:=r++c.toList.drop (xs.length*i.size+r.length));rw[an]at this;rw[this];exact ab;obtain⟨v2,ap,ae,_,ao⟩:=run_append_arg_grows (P:=P) (w:=w) t q e i z i.size s B hi hz rfl L M ok.pos ⟨g,0,none⟩ xs.length p m.flatten j.1 (j.cells (g:=g) rfl) l 1 1 r (by rw[ok.len hR];omega) D LC O Q;rw[E]at ae;injection ae with _ J;subst J;refine⟨j.1,.inr ⟨g,p,c,rfl,X,?_,Y,Z,aa,ab⟩⟩;rw[ao.B g (JJ.1 y).1 LG];exact y
end Go.Proofs.YtidmdcckbdmblaaGreatDoor
namespace Go.Proofs.YtidmdcckbdmblaaGreatDoor
open Go.RowKit jJ Go.Proofs.Tryz
theorem lV{w}(h:jV w)(k:Nat)(x)(hx:forms[k]?=some x):∀a u,(oZ x)[a]?=some u->w.cell? ⟨10,k*6+a,none⟩=some u:=by obtain⟨_,_,⟨t,b,h⟩⟩:=h;intro a u hu;obtain⟨r,hr,hc⟩:=jD.jr (k:=6) (R:=λr x=>r=oZ x) (λr x h=>by rw[h];rfl) k x (jD.map oZ forms) hx;have:=hc a u (by rw[hr];exact hu);simp only[World.cell?,h];simpa[vv]using this
theorem wR(k:Nat)(x)(hx:forms[k]?=some x)(b:1<=k)(w)(hL:jV w):Calls prog 274 #[.int .u8 (k:Int)] w (jf (.tuple #[.agg #[.bool x.1,.bool x.2.1,.int .i64 (x.2.2.1:Int),.int .i64 (x.2.2.2.1:Int),.bool x.2.2.2.2.1,.bool x.2.2.2.2.2],.bool true]) w):=by
 have c:k<11:=by have:=(J6.1 hx).1;rw[qJ]at this;exact this
 have a:=lV hL k x hx 0 _ rfl;have d:=lV hL k x hx 1 _ rfl;have e:=lV hL k x hx 2 _ rfl;have f:=lV hL k x hx 3 _ rfl;have g:=lV hL k x hx 4 _ rfl;have i:=lV hL k x hx 5 _ rfl;have j:=hL.lt.2;rw[JT]at a
 go_enter func274,ntmps274
 go_wp2;refine JZ (v:=.tuple #[.agg #[.bool x.1,.bool x.2.1,.int .i64 (x.2.2.1:Int),.int .i64 (x.2.2.2.1:Int),.bool x.2.2.2.2.1,.bool x.2.2.2.2.2],.bool true]) ?_ rfl ⟨rfl,Ba _ _⟩;simp[results,Tryz.results274,go_sem]
theorem lK.five{d:Nat}{s}(h:lK d s):s.jy.length<=5:=by
 cases d with
 |zero=>exact h.elim
 |succ d=>obtain⟨⟨x,_,hx,_,_,_,_,_,a,_⟩,_⟩:=h;exact J9 a (sJ x (JM hx))
def yx(d:Nat):Prop:=∀(b:Nat->Prop) (w:World) (op n:Int) (name:List UInt8) (f:Option Addr) (m c:Nat) (args:List Ex),jc (ki .u8 d) b w (.slice f m c) args->m<=2->(∀a∈args,kB d a)->d<=6->(∀q,b q->q<w)->
 Calls prog 198 #[.agg #[.int .u8 op,tx name,n,.slice f m c]] w (λe w'=>∃r:Nat,e=.returned (.int .i64 (r:Int))/\r<=d+1/\Below w w w')
theorem ri(d:Nat)(y:∀d',d=d'+1->yx d'):yx d:=by
 intro E w op n name f m c args a hm z Y hS;have l:=a.len;have hc:=l.2;have F:=JH l.1;have p:=JH hS;have G:=JH z;have I:=JH y;clear z hS l y
 go_enter func198,ntmps198
 go_wp2_with fail;have J:Below w w (w.alloc (.cells #[.int .u8 op,tx name,n,.slice f m c] 275)):=Ba _ _;have s:=JK w (.cells #[.int .u8 op,tx name,n,.slice f m c] 275);have K:(w.alloc (.cells #[.int .u8 op,tx name,n,.slice f m c] 275)).heap.size=w+1:=LG
 obtain⟨g,A⟩:=Xq w.heap.size;rw[<-A]at s K⊢;generalize w.alloc (.cells #[.int .u8 op,tx name,n,.slice f m c] 275)=t at*;have L:g<t:=LC
 have Z:w<=g:=LC
 have M:=JH s;clear A s;go_loopw [3,8] (λv i wr=>∃k r:Nat,k<=m/\i=k/\v=r/\r<=d/\Below t t wr) (λ_ i _=>m-(intOf i).toNat);case atStart=>exact⟨0,0,JV _,rfl,rfl,JV _,Below.refl _ _⟩
 case round=>
  obtain⟨k,r,aa,rfl,rfl,hr,j⟩:=hrel;have B:=(J.T (j.M LC))
  have N:=j.size;obtain⟨⟨ab,ac,ad,ae⟩,_⟩:=jA ((j.B g L).T M.o);have af:g<wr:=LC;by_cases ag:k<m
  .obtain⟨x,hx⟩:∃x,args[k]?=some x:=Gx (LA F.o);obtain⟨C,ah,ai,rfl,O,P,b⟩:=(a.iV (ki.ok .u8 d) (λq u=>B.B q (p.o q u))).jr (ki.ok .u8 d) k x hx;have aj:C<wr:=LA (p.o C O);have D:=G.o x (JM hx);have Q:=D.two;obtain⟨d',v,rfl,rfl,a⟩:=P.open;obtain⟨R,S,rfl,ak⟩:=a.form;have T:=b 0 _ rfl;have al:=b 1 _ rfl;have am:=b 2 _ rfl;have an:=b 3 _ rfl;rw[JT]at T;have U:=(I.o d' rfl E wr x.op x.n x.name R _ S x.args a Q D.2 LC (λq u=>LA (p.o q u)))
   have ao:(0:Int)<=(k:Int):=LC;have ap:(k:Int)<(m:Int):=LC;clear b hx;go_wp2_with fail;refine U.M ?_;rintro e aq ⟨V,rfl,ar,W⟩;have X:=(j.T (W.M N))
   go_wp2_with fail;go_roundw;case rel=>exact⟨k+1,max r V,LC,LI,by first|rfl|(congr 1;omega)|(simp;omega),LC,X⟩
   case measure=>simp[intOf];omega
  obtain rfl:k=m:=LC;have hw:IntKind.i64.wrap ((r:Int)+1)=((r+1:Nat):Int):=LH;go_wp2_with fail;go_ret;exact⟨r+1,by first|rfl|simp[hw],LC,B⟩
def yy(d:Nat):Prop:=∀(g:Nat->Prop) (a w:World) (cb:Nat) (i j k l hd own b c e params V:Value) (f:List In) (op n:Int) (name:List UInt8) (m:Option Addr) (p c1:Nat) (args:List Ex) (d':Nat),d=d'+1->kn a cb i j k l hd own b c e params V f w->vp g a cb b c e params->jc (ki .u8 d') g a (.slice m p c1) args->kB d (.mk op name n args)->f.length+mZ d<=100000->
 Calls prog 312 #[.pointer (some ⟨cb,0,none⟩),.agg #[.int .u8 op,tx name,n,.slice m p c1]] w (qD a cb i j k l hd own b c e params V w (.tuple #[]) (ot f (mZ d)))
def vD(d:Nat):Prop:=∀(j:Nat->Prop) (b w:World) (cb:Nat) (k l m n hd own c f g params V:Value) (i:List In) (p:Option Addr) (a c1:Nat) (args:List Ex),kn b cb k l m n hd own c f g params V i w->vp j b cb c f g params->jc (ki .u8 d) j b (.slice p a c1) args->(∀e∈args,kB d e)->i.length+a*mZ d<=100000->a<=1000->
 Calls prog 297 #[.pointer (some ⟨cb,0,none⟩),.slice p a c1] w (qD b cb k l m n hd own c f g params V w (.tuple #[]) (ot i (a*mZ d)))
theorem sN(d:Nat)(U:yy d):vD d:=by
 intro W z w cb A B C D hd own E F G params V I ax c c1 args h hx J K X hm;have H:=h;have j:=hx;have Y:=J;have Z:=K;have aa:=J.len;have ab:=X;have ac:=U;clear K
 go_enter func297,ntmps297
 go_wp2_with fail;go_loopw [8] (λi wr=>∃(k:Nat) (V':Value) (b:List In),k<=c/\i=k/\kn z cb A B C D hd own E F G params V' b wr/\kQ cb V w V' wr/\ot I (k*mZ d) b) (λi _=>c-(intOf i).toNat);case atStart=>exact⟨0,V,I,JV _,rfl,H,.refl _ _ _,[],LG,LG,LG⟩
 case round=>
  obtain⟨k,V',b,ay,rfl,L,ad,ae⟩:=hrel;have p:=L;have M:=ad;have q:=ae;have az:=L.g.size;by_cases aA:k<c
  .obtain⟨x,hx⟩:∃x,args[k]?=some x:=Gx (LA aa);obtain⟨a,m,r,rfl,s,hr,f⟩:=Y.jr (ki.ok .u8 d) k x hx;have af:=Z x (JM hx);obtain⟨d',v,hd,rfl,t⟩:=hr.open;obtain⟨N,O,rfl,_⟩:=t.form;have g:=p.old (j.jY a s).1 (j.jY a s).2;have ag:=(Cb a (m+k*4+0) g).T (f 0 _ rfl);have aB:=(Cb a (m+k*4+1) g).T (f 1 _ rfl);have aC:=(Cb a (m+k*4+2) g).T (f 2 _ rfl);have ah:=(Cb a (m+k*4+3) g).T (f 3 _ rfl);rw[JT]at ag;have aD:a<wr:=LA ((j.jY a s).1);obtain⟨op,name,n,P⟩:=x;simp only[Ex.op,Ex.name,Ex.n,Ex.args]at*;obtain⟨Q,R⟩:=Xq P.length;rw[<-R]at ah t;clear R;have ai:=af;have aj:=t;have ak:=JH hd;clear f hx hd g;have S:=Ba wr (.cells #[.int .u8 op,tx name,n,.slice N Q O] 275);have al:=(p.iU S)
   have am:=(M.T (.iU S))
   have T:(k+1)*mZ d=k*mZ d+mZ d:=Nat.succ_mul _ _;have an:(k+1)*mZ d<=c*mZ d:=KU _ LC;have u:=(And.intro T an)
   clear T;have ao:=(show b.length+mZ d<=100000 by obtain⟨l,ap,aE,_⟩:=q;rw[ap,JU];have:=ab;have:=u.1;have:=u.2;omega)
   go_wp2_with fail;refine(ac W z _ cb A B C D hd own E F G params V' b op n name N Q O P d' ak.o al j aj ai ao).M ?_;rintro e aF ⟨rfl,aq,ar,au,av,aw⟩;have y:=(And.intro au (And.intro (am.T av) (q.T aw (K4 u.1.symm))))
   go_wp2_with fail;go_roundw;case rel=>exact⟨k+1,aq,ar,LC,LI,y.1,y.2.1,y.2.2⟩
   case measure=>simp[intOf];omega
  obtain rfl:c=k:=LC;go_wp2_with fail
  go_end0
  exact⟨rfl,V',b,p,M,q⟩
theorem H7.of{sc}{d:Nat}{e}{t:Int}(h:qz sc (d+1) e t):H7 sc d e t:=by
 have two:∀{a b:Ex} {u:Int},e.args=[a,b]->qz sc d a u->qz sc d b u->0<e.args.length/\e.args.length<=2/\∀x∈e.args,qz sc d x u:=λhe j l=>by rw[he];refine⟨LG,LG,λx hx=>?_⟩;simp at hx;rcases hx with rfl|rfl;exact j;exact l
 have one:∀{a:Ex} {u:Int},e.args=[a]->qz sc d a u->0<e.args.length/\e.args.length<=2/\∀x∈e.args,qz sc d x u:=λhe j=>by rw[he];refine⟨LG,LG,λx hx=>?_⟩;simp at hx;rw[hx];exact j
 rcases h with⟨rfl,h⟩|⟨rfl,hi,h⟩
 rcases h with⟨f,_,_,_,c⟩|⟨f,_,_,c⟩|⟨f,hn,_,c⟩|⟨f,hs,hn,_,a,c,g⟩|⟨f,hs,hn,_,c⟩|⟨f,_,_,a,c,g⟩|⟨f,_,_,a,b,c,g,i⟩
 exact .num (.inl f) rfl c;exact .num (.inr f) rfl c;exact .name f (.inl ⟨rfl,hn⟩) c;have:=one c (.num g);exact .get (.inl ⟨f,rfl⟩) hs hn this.1 this.2.1 this.2.2;exact .size f rfl hs hn c;have:=one c (.num g);exact .ops 1 (by rw[f];decide) this.1 this.2.1 this.2.2;have:=two c (.num g) (.num i);have k:e.op=11\/e.op=12\/e.op=13\/e.op=14\/e.op=15:=LC
 exact .ops 1 (by rcases k with h|h|h|h|h<;>rw[h]<;>decide) this.1 this.2.1 this.2.2;rcases h with⟨f,_,_,c⟩|⟨f,hn,_,c⟩|⟨f,hs,hn,_,a,c,g⟩|⟨f,_,_,a,c,g⟩|⟨f,_,_,a,b,c,g,i⟩|⟨f,_,_,a,b,c,g,i⟩
 exact .Eg f rfl c;exact .name f (.inr ⟨rfl,hi,hn⟩) c;have:=one c (.num g);exact .get (.inr ⟨f,rfl⟩) hs hn this.1 this.2.1 this.2.2;have:=one c (.Eg hi g);exact .ops 2 (by rw[f];decide) this.1 this.2.1 this.2.2;have:=two c (.Eg hi g) (.Eg hi i);exact .ops 2 (by rcases f with h|h<;>rw[h]<;>decide) this.1 this.2.1 this.2.2;have:=two c (.num g) (.num i);have k:e.op=16\/e.op=17\/e.op=18\/e.op=19\/e.op=20\/e.op=21:=LC
 exact .ops 1 (by rcases k with h|h|h|h|h|h<;>rw[h]<;>decide) this.1 this.2.1 this.2.2
theorem mn(n w p a b sc c)(d f:Nat)(g)(i cv:Nat)(j)(k l:Nat)(q cb:Nat)(t u v:Value)(y:ByteArray)(z:Nat)(name:List UInt8)(x:Va)(h:oC n w p a b sc c d f g i cv j k l)
  (m:Bd q cb c d f g i cv j k l t u v y z w) (hm:name∉b) (hx:(a.find? λx=>x.name==name)=some x):
  Calls prog 309 #[.pointer (some ⟨q,0,none⟩),tx name] w (jf (.int .u8 x.ty) w):=by
 have r:=(oU n w p a b sc c d f g i cv j k l name h)
 rw[Ka hm,hx]at r;have A:=iT m.jr 1 _ rfl;have B:=iT m.jr 2 _ rfl;have C:=iT m.jr 3 _ rfl
 go_enter func309,ntmps309
 go_wp2_with fail;refine r.M ?_;rintro e D ⟨rfl,s⟩;simp only[mM];go_wp2_with fail;go_ret;exact⟨rfl,s.alloc s.size _⟩
structure rO(S:Nat->Prop)(w:World)(tM:List Fg)(Cn:List Va)(AR:List (List UInt8))(sc:Sc)(AF:Option Addr)(nf cf:Nat)(AV:Option Addr)(nv cv:Nat)(AP:Option Addr)(np cp:Nat)(bb cb:Nat)(f0 f1 f2 f3 o0 o1 o2:Value)(pl:ByteArray)(cnt:Nat):Prop where
 sc:oC S w tM Cn AR sc AF nf cf AV nv cv AP np cp
 yj:qb cb f0 f1 f2 f3 w
 bd:Bd bb cb AF nf cf AV nv cv AP np cp o0 o1 o2 pl cnt w
 ne:bb≠cb
 jY:∀q,S q->q≠bb/\q≠cb
theorem rO.iU{c w d e f sc g}{i j:Nat}{k}{l cv:Nat}{m}{n p:Nat}{a cb:Nat}{q r s t u v x y}{z:Nat}(h:rO c w d e f sc g i j k l cv m n p a cb q r s t u v x y z){w'}(b:Below w w w'):rO c w' d e f sc g i j k l cv m n p a cb q r s t u v x y z:=
 ⟨h.sc.iU b,h.yj.iU b h.yj.lt,⟨(b.B a (JJ.1 h.bd.jr).1).T h.bd.jr⟩,h.ne,h.jY⟩
def Cy(sc:Sc)(d:List Co):Prop:=(∀(i:Nat) (c:Co),d[i]?=some c->c.name=kW i)/\d.length=sc.pP.length/\(∀l∈sc.pP,∀a∈l,a<=2)/\∀(i:Nat) (c:Co) (b:List Nat),d[i]?=some c->sc.pP[i]?=some b->b.length<=3/\(∀hs∈c.jG,∀(k:Nat) (h:Hd),hs[k]?=some h->∃a,b[k]?=some a/\h.name=nm 104 k/\h.params=wh 112 a)/\(∃hs∈c.jG,hs.length=b.length)/\c.jG.length<=1000/\∀l∈c.jG,l.length<=1000
structure qg(S:Nat->Prop)(w:World)(sc:Sc)(jh:List Co)(A3:Option Addr)(m3 c3:Nat)(o0 o1 o2:Value):Prop where
 cs:jc (kL .u8) S w (.slice A3 m3 c3) jh
 len:jh.length<=3
 hd:1<=sc.ints->Cy sc jh
 own:∃c,jh[sc.own]?=some c/\ry S w c (.agg #[o0,o1,o2])
theorem qg.iV{a w w' sc b d}{e c3:Nat}{f g i}(h:qg a w sc b d e c3 f g i)(j:∀q,a q->w'.heap[q]?=w.heap[q]?):qg a w' sc b d e c3 f g i:=by obtain⟨c,k,l⟩:=h.own;exact⟨h.cs.iV (kL.ok _) j,h.len,h.hd,c,k,l.iV j⟩
def yz(sc:Sc)(b:List Co)(s:St):Prop:=s.kind=6/\s.th=[]/\s.el=[]/\(∃(a:Co) (hd:Hd),(b.find? λx=>x.name==s.name)=some a/\a.jG.length<=1000/\(∀l∈a.jG,l.length<=1000)/\(a.jG.flatten.find? λx=>x.name==s.hd)=some hd/\s.jy.length=hd.params.length)/\s.jy.length<=5/\∀e∈s.jy,kG sc De e
def Cp(sc:Sc)(a:List Co)(d:Nat)(s:St):Prop:=(mo sc d s/\1<=sc.ints)\/(0<d/\yz sc a s)
theorem qg.send{k:Nat->Prop}{w:World}{sc:Sc}{e:List Co}{m:Option Addr}{n c3:Nat}{p r t:Value}(h:qg k w sc e m n c3 p r t)(hi:1<=sc.ints){d:Nat}{s:St}(hs:mo sc (d+1) s)(u:s.kind=6):yz sc e s:=by
 obtain⟨v,L,x,y⟩:=h.hd hi;rcases hs with⟨b,_⟩|⟨b,_⟩|⟨b,_⟩|⟨b,_⟩|⟨b,_⟩|⟨b,z,he,⟨g,l,q,a,f,i,hn,A,B⟩,C⟩|⟨b,_⟩|⟨b,_⟩|⟨b,_⟩|⟨b,_⟩
 case inr.inr.inr.inr.inr.inl=>obtain⟨c,j⟩:∃c,e[g]?=some c:=Gx (LA ((J6.1 f).1));obtain⟨D,E,hex,F,G⟩:=y g c l j f;obtain⟨hd,I,J⟩:=CO E D hex i;have K:=CP h.len v j;have M:a<=2:=x l (JM f) a (JM i);exact⟨b,z,he,⟨c,hd,by rw[hn];exact K,F,G,by rw[A];exact I,by rw[B,J,oY]⟩,LC,C⟩
 all_goals
  rw[u]at b;exact absurd b LD
theorem ld.of{X w w'}(h:Below w.heap.size w w'):ld X w w':=⟨h.os,h.tape,h.output,h.size,λk a _=>h.B k a⟩
theorem ld.iU{X w w'}{B:Nat}(h:ld X w w')(a:B<=w)(b:∀k,X k->B<=k):Below B w w':=⟨h.os,h.tape,h.output,h.size,λk c=>h.B k (JI c a) λhx=>LA (b k hx)⟩
theorem rO.but{t w u v x sc b}{c d:Nat}{e}{f cv:Nat}{g}{i j:Nat}{a cb:Nat}{k l m n p r s C}{D:Nat}{y}{z:Nat}(h:rO t w u v x sc b c d e f cv g i j a cb k l m n p r s C D){w'}(A:ld (Bb a cb) w w')(hc:qb cb k l m n w')(hd:Bd a cb b c d e f cv g i j p r s y z w'):rO t w' u v x sc b c d e f cv g i j a cb k l m n p r s y z:=
 ⟨h.sc.iV (λq B=>A.B q (h.sc.jY q B) (λhx=>by have:=h.jY q B;rcases hx with hx|hx;exact this.1 hx;exact this.2 hx)) A.size,hc,hd,h.ne,h.jY⟩
theorem rO.blk{a w d e f sc g}{i j:Nat}{k}{l cv:Nat}{m}{n p:Nat}{b cb:Nat}{r s t u v x y z}{A:Nat}(h:rO a w d e f sc g i j k l cv m n p b cb r s t u v x y z A){w'}(B:ld (Bb b cb) w w'):∀q,a q->w'.heap[q]?=w.heap[q]?:=
 λq c=>B.B q (h.sc.jY q c) (λhx=>by have:=h.jY q c;rcases hx with hx|hx;exact this.1 hx;exact this.2 hx)
theorem rO.jr{g w i j k sc l}{m n:Nat}{p}{q cv:Nat}{r}{s t:Nat}{a cb:Nat}{b c d f u v x y}{z:Nat}(h:rO g w i j k sc l m n p q cv r s t a cb b c d f u v x y z){w'}(hc:qb cb b c d f w')(A:w.grownBy w' (some cb)):rO g w' i j k sc l m n p q cv r s t a cb b c d f u v x y z:=
 h.but (.grown A (.inr rfl)) hc ⟨(A.B a (JJ.1 h.bd.jr).1 (by intro e;injection e with e;exact h.ne e)).T h.bd.jr⟩
def ED(b:Nat->Prop)(c:List Fg)(d:List Va)(f:List (List UInt8))(sc:Sc)(g:Option Addr)(i j:Nat)(k:Option Addr)(l cv:Nat)(m:Option Addr)(n p:Nat)(a cb:Nat)(q r s t u v w:Value)(x:ByteArray)(y:Nat)(w0:World)(e:Ending)(w':World):Prop:=e=.returned (.tuple #[])/\rO b w' c d f sc g i j k l cv m n p a cb q r s t u v w x y/\ld (Bb a cb) w0 w'
theorem Cp.zero{sc:Sc}{a:List Co}{s:St}(h:Cp sc a 0 s):False:=by
 rcases h with⟨h,_⟩|⟨h,_⟩
 exact h;omega
theorem wW{sc:Sc}{a:List Co}:∀{d:Nat} {l:List St},(∀s∈l,Cp sc a d s)->l.length<=jw d l
 |0,l,h=>by cases l with|nil=>simp|cons s l=>exact(h s (KY ..)).zero.elim
 |d+1,[],_=>by simp
 |d+1,s::l,h=>by have:=wW (d:=d+1) (l:=l) λx hx=>h x (Lr _ hx);simp only[jw,Ks,List.sum_cons,Kb]at this⊢;omega
def F8(d:Nat):Prop:=∀(a:Nat->Prop) (w:World) (n:List Fg) (p:List Va) (q:List (List UInt8)) (sc:Sc) (r:Option Addr) (t u:Nat) (v:Option Addr) (x cv:Nat) (y:Option Addr) (z A:Nat) (b cb:Nat) (B C D e f g i:Value) (j:ByteArray) (k:Nat) (E:List Co) (F:Option Addr) (G c3:Nat) (I:Option Addr) (m c:Nat) (l:List St),rO a w n p q sc r t u v x cv y z A b cb B C D e f g i j k->qg a w sc E F G c3 f g i->e=.slice F G c3->jc (jH .u8 d) a w (.slice I m c) l->(∀s∈l,Cp sc E d s)->k+jw d l<=90->j.size<=100000000->
 Calls prog 281 #[.pointer (some ⟨b,0,none⟩),.slice I m c] w (ED a n p q sc r t u v x cv y z A b cb B C D e f g i j (k+jw d l) w)
structure G9(tM:List Fg)(jh:List Co)(k:Nat)(co:Co):Prop where
 nl:co.name.length<=12
 new:((jh.take k).find? λx=>x.name==co.name)=none
 Jy:mq tM co.name=false
 nv:co.vars.length<=5
 vars:∀j x,co.vars[j]?=some x->((co.vars.take j).find? λy=>y.name==x.name)=none/\mq tM x.name=false/\x.name.length<=12
 Jz:co.jG.length<=2
 hs:∀l∈co.jG,l.length<=3
 hd:∀l∈co.jG,∀j x,l[j]?=some x->x.name.length<=12/\((([l.take j]:List (List Hd)).flatten).find? λy=>y.name==x.name)=none/\(∀v y,((co.jG.take v).flatten.find? λz=>z.name==x.name)=some y->y.params.length=x.params.length)/\jw Ds x.body<=12/\
  ∃sc:Sc,sc.own=k/\El sc tM co.vars x.params/\(∀s∈x.body,Cp sc jh Ds s)/\(1<=sc.ints->Cy sc jh)
theorem mB.ok:jI mB 1:=
 ⟨LC,λ⟨v,h,_⟩=>by rw[h];rfl,λ⟨v,h,a⟩ u hu=>by rw[h]at hu;simp at hu;subst hu;exact a.one,λ⟨v,h,a⟩ b=>⟨v,h,a.M jk.ok b⟩,λ⟨v,h,a⟩ c=>⟨v,h,a.iV jk.ok c⟩⟩
structure oA(hb hh n:Nat)(w:World):Prop where
 var:w.heap[hb]?=some (.cells #[.slice (some ⟨hh,0,none⟩) n n] 147 (0,0))
 row:∃l:List Int,l.length=n/\w.heap[hh]?=some (.cells (mA l) 3 (0,0))
 ne:hb≠hh
def Gc(c a n:Nat)(w:World)(e:Ending)(w':World):Prop:=∃b:Bool,e=.returned (.bool b)/\oA c a n w'/\w.grownBy w' (some a)
theorem Dg:(prog.info? 3).map (λi=>(i.zero,i.size,i.bytes))=some (some (.int .i64 0),1,8):=LF
theorem BB(n:Nat)(hn:n<=100001)(w):(Instr.makeSlice 147 (.int .i64 (n:Int)) (.int .i64 (n:Int))).run prog w=.ok (.slice (some ⟨w,0,none⟩) n n) (w.alloc (.cells (mA (List.replicate n 0)) 3)):=by obtain⟨b,c,d,a,e⟩:=Kl Dg;have:=KZ (P:=prog) w 147 3 b (.int .i64 0) underlying147 c d .i64 .i64 (n:Int) (n:Int) LC (K9 _) (by rw[a];simp;omega) (by rw[e];omega) LC;rw[a,Kk,Kw]at this;rw[this,<-BA];rfl
theorem oA.iU{a b n:Nat}{w w'}(h:oA a b n w)(c:Below w w w'):oA a b n w':=by obtain⟨l,d,hr⟩:=h.row;exact⟨(c.B _ (JJ.1 h.var).1).T h.var,⟨l,d,(c.B _ (JJ.1 hr).1).T hr⟩,h.ne⟩
theorem tQ.ok(k:Nat)(a:0<k):jI (tQ k) k:=⟨a,λh=>h.1,λh=>h.2,λh _=>h,λh _=>h⟩
theorem wX:(prog.info? 318).map (λi=>(i.zero,i.size,i.bytes))=some (some (.agg #[.int .i64 0,.int .i64 0,Nl]),3,40):=LF
theorem wY:(prog.info? 4).map (λi=>(i.zero,i.size,i.bytes))=some (some (.bool false),1,1):=LF
theorem Gf:(prog.info? 315).map (λi=>(i.zero,i.size,i.bytes))=some (some (Nl),1,24):=LF
theorem Gg:(prog.info? 316).map (λi=>(i.zero,i.size,i.bytes))=some (some (Nl),1,24):=LF
theorem yY(n:Nat)(hn:n<=1000)(w):(Instr.makeSlice 315 (.int .i64 (n:Int)) (.int .i64 (n:Int))).run prog w=.ok (.slice (some ⟨w,0,none⟩) n n) (w.alloc (.cells (madeCells #[.int .i64 0,.int .i64 0,Nl] (n*3)) 318)):=by obtain⟨b,c,d,a,e⟩:=Kl wX;have:=KZ (P:=prog) w 315 318 b _ underlying315 c d .i64 .i64 (n:Int) (n:Int) LC (K9 _) (by rw[a];simp;omega) (by rw[e];omega) LC;rw[a,Kw]at this;exact this
theorem yZ(n:Nat)(hn:n<=1000)(w):(Instr.makeSlice 316 (.int .i64 (n:Int)) (.int .i64 (n:Int))).run prog w=.ok (.slice (some ⟨w,0,none⟩) n n) (w.alloc (.cells (madeCells #[.bool false] n) 4)):=by obtain⟨b,c,d,a,e⟩:=Kl wY;have:=KZ (P:=prog) w 316 4 b _ underlying316 c d .i64 .i64 (n:Int) (n:Int) LC (K9 _) (by rw[a];simp;omega) (by rw[e];omega) LC;rw[a,Kk,Kw]at this;exact this
theorem nI:jI (tQ 1) 1:=tQ.ok 1 LC
theorem yD(n:Nat)(h:n<=1000):IntKind.i64.wrap ((n:Int)+1)=((n+1:Nat):Int)/\IntKind.i64.wrap (((n+1:Nat):Int)-1)=(n:Int):=by constructor<;>simp[IntKind.wrap,IntKind.bits,IntKind.signed]<;>omega
end Go.Proofs.YtidmdcckbdmblaaGreatDoor
namespace jJ
theorem kE.put{a b:List In}{n i c:Nat}(h:kE a n b){x:In}(hi:b[i]?=some x)(hc:a.length<=i)(e:c=1\/c=2){t:Int}(d:0<=t)(f:t<=b.length):kE a n (b.set i (x.put c t)):=by obtain⟨l,rfl,g,hp⟩:=h;refine⟨l.set (i-a.length) (x.put c t),by rw[List.set_append_right _ _ hc],by simpa using g,λj hy=>?_⟩;rw[List.length_set];rw[List.length_append]at f;rw[List.getElem?_append_right hc]at hi;have hx:=hp x (List.mem_of_getElem? hi);rcases List.mem_or_eq_of_mem_set hy with hy|hy;exact hp j hy;subst hy;rcases e with rfl|rfl;exact hx.Im (Nat.le_refl _) d LC;exact hx.Io (Nat.le_refl _) d LC
theorem mo.sub{sc}{d:Nat}{s}(h:mo sc (d+1) s):(∀x∈s.th,mo sc d x)/\∀x∈s.el,mo sc d x:=by
 rcases h with⟨_,_,a,b,_⟩|⟨_,_,_,_,a,b,_⟩|⟨_,_,_,_,a,b,_⟩|⟨_,_,_,_,a,b⟩|⟨_,_,_,b,_,a⟩|⟨_,a,b,_⟩|⟨_,_,a,b,_⟩|⟨_,_,_,a,_,b⟩|⟨_,_,a,_,_,b⟩|⟨_,_,_,a,b,_⟩
 all_goals (constructor<;>first|exact a|exact b|(rw[a];intro x hx;simp at hx)|(rw[b];intro x hx;simp at hx))
structure H8(tM:List Fg):Prop where
 len:tM.length<=2
 ru:∀k x,tM[k]?=some x->mq (tM.take k) x.name=false/\x.name.length<=10
theorem qc.t{a:Nat}{b:List Fg}(hn:a<=2)(h:qc a b):H8 b:=
 ⟨by rw[h.1];exact hn,λk x hx=>⟨F9 LC h hx,by rw[h.2 k x hx];simp[nm]⟩⟩
structure H9(G3:List Lk)(jh:List Co):Prop where
 len:G3.length<=90
 each:∀k x,G3[k]?=some x->x.a.length=1/\x.b.length=1/\(∃c,(jh.find? λy=>y.name==x.a)=some c)/\(∃c,(jh.find? λy=>y.name==x.b)=some c)/\∀y∈G3.take k,(y.a,y.b)≠(x.a,x.b)
theorem HB{sc f hs}(l:f.length<=3)(g:AX sc f hs){c:Nat}{x}(hx:hs[c]?=some x):((([hs.take c]:List (List Hd)).flatten).find? λd=>d.name==x.name)=none:=by
 rw[List.find?_eq_none];intro d hy e;rw[List.flatten_cons,List.flatten_nil,List.append_nil]at hy;obtain⟨q,b⟩:=List.getElem?_of_mem hy;rw[List.getElem?_take]at b;split at b;case isFalse=>simp at b
 case isTrue m=>obtain⟨a,i,hn,_⟩:=g q d b;obtain⟨n,j,k,_⟩:=g c x hx;have p:=(List.getElem?_eq_some_iff.1 i).1;have r:=(List.getElem?_eq_some_iff.1 j).1;rw[hn,k,beq_iff_eq]at e;have:=CQ LC LC e;omega
theorem yl.len{a}:∀{d:Nat} {l:List St},(∀s∈l,yl a d s)->l.length<=jw d l
 |0,l,h=>by cases l with|nil=>simp|cons s l=>exact(h s (List.mem_cons_self ..)).elim
 |d+1,[],_=>by simp
 |d+1,s::l,h=>by have:=yl.len (d:=d+1) (l:=l) λx hx=>h x (List.mem_cons_of_mem _ hx);simp only[jw,List.map_cons,List.sum_cons,List.length_cons]at this⊢;omega
def kH(l:List (List UInt8))(hs:List Hd):List (List UInt8):=hs.foldl (λl h=>nu l h.name) l
def jL(l:List (List UInt8))(vs:List (List Hd)):List (List UInt8):=vs.foldl kH l
theorem pW:∀{hs:List Hd} {l:List (List UInt8)} {a:List UInt8},a∈l->a∈kH l hs
 |[],_,_,h=>h
 |x::hs,l,a,h=>pW (hs:=hs) (l:=nu l x.name) (Dj h)
theorem sQ:∀{hs:List Hd} {l:List (List UInt8)} {x:Hd},x∈hs->x.name∈kH l hs
 |y::hs,l,x,h=>by rcases List.mem_cons.1 h with rfl|h;exact pW (hs:=hs) (l:=nu l x.name) (sq _ _);exact sQ (hs:=hs) (l:=nu l y.name) h
theorem sR:∀{vs:List (List Hd)} {l:List (List UInt8)} {a:List UInt8},a∈l->a∈jL l vs
 |[],_,_,h=>h
 |x::vs,l,a,h=>sR (vs:=vs) (l:=kH l x) (pW h)
theorem sS:∀{vs:List (List Hd)} {l:List (List UInt8)} {hs:List Hd} {x:Hd},hs∈vs->x∈hs->x.name∈jL l vs
 |y::vs,l,hs,x,h,hx=>by rcases List.mem_cons.1 h with rfl|h;exact sR (vs:=vs) (l:=kH l hs) (sQ hx);exact sS (vs:=vs) (l:=kH l y) h hx
theorem sT:∀hs l,(kH l hs).length<=l.length+hs.length
 |[],l=>by simp[kH]
 |x::hs,l=>by have a:=sT hs (nu l x.name);have b:=Di l x.name;show(kH (nu l x.name) hs).length<=_;simp only[List.length_cons];omega
theorem oc:∀vs l,(∀hs∈vs,hs.length<=100)->(jL l vs).length<=l.length+100*vs.length
 |[],l,_=>by simp[jL]
 |x::vs,l,h=>by have b:=oc vs (kH l x) (λa hy=>h a (List.mem_cons_of_mem _ hy));have c:=sT x l;have d:=h x (List.mem_cons_self ..);show(jL (kH l x) vs).length<=_;simp only[List.length_cons];omega
end jJ
namespace Go.Proofs.YtidmdcckbdmblaaGreatDoor
open Go.RowKit jJ Go.Proofs.Tryz
theorem Cp.sub{sc:Sc}{a:List Co}{d:Nat}{s:St}(h:Cp sc a (d+1) s):(∀x∈s.th,Cp sc a d x)/\∀x∈s.el,Cp sc a d x:=by
 rcases h with⟨h,hi⟩|⟨_,_,b,c,_⟩
 exact⟨λx hx=>.inl ⟨h.sub.1 x hx,hi⟩,λx hx=>.inl ⟨h.sub.2 x hx,hi⟩⟩;exact⟨λx hx=>(by rw[b]at hx;cases hx),λx hx=>(by rw[c]at hx;cases hx)⟩
theorem lQ.t{n:Nat}{b:List Lk}{a:List Co}(d:lQ n (n*n) b)(j:b.length<=90)(p:n<=3)(q:a.length=n)(l:∀(i:Nat) (c:Co),a[i]?=some c->c.name=kW i):H9 b a:=by
 have hf:∀i,i<n->∃c,(a.find? λx=>x.name==kW i)=some c:=λi hi=>⟨_,CP LC l (JW LC)⟩
 refine⟨j,λk x hx=>?_⟩;obtain⟨z,hz,e,f,g,_⟩:=d.1 x (JM hx);have m:0<n:=by rcases K7 n with h|h;rw[h]at e;omega;exact h
 exact⟨by rw[f];rfl,by rw[g];rfl,f▸hf _ (Nat.div_lt_of_lt_mul e),g▸hf _ (Nat.mod_lt _ m),HA d hx⟩
theorem Cy.of{e:List Co}{n:Nat}{b:List (List Nat)}(sc:Sc)(p:sc.pP=b)(g:∀(i:Nat) (c:Co),e[i]?=some c->FK n b i c)(q:b.length=e.length)(j:∀l∈b,1<=l.length/\l.length<=3/\∀a∈l,a<=2):Cy sc e:=by subst p;refine⟨λi c h=>?_,q.symm,λl f=>(j l f).2.2,λi c r hc k=>?_⟩;obtain⟨_,_,_,_,_,_,h,_⟩:=(g i c h).ex;exact h;obtain⟨ints,z,A,_,_,_,_,_,B,C,d,m,s⟩:=(g i c hc).ex;rw[k]at d;injection d with d;subst d;have t:=(j r (JM k)).2.1;refine⟨t,λhs hm u h v=>?_,s,LC,λl f=>LA ((m l f).2.1)⟩;obtain⟨a,w,x,y,_⟩:=(m hs hm).2.2 u h v;exact⟨a,w,x,y⟩
structure A0(S:Nat->Prop)(w3:World)(f3 hd own:Value)(jh:List Co)(nl:List (List (List UInt8)))(o:Nat):Prop where
 cs:∃(A3:Option Addr) (c3:Nat),f3=.slice A3 jh.length c3/\jc (kL .u8) S w3 f3 jh
 len:jh.length<=3
 ns:∃(Ah:Option Addr) (ch:Nat),hd=.slice Ah jh.length ch/\jc mB S w3 hd nl
 Hj:∀l∈nl,l.length<=1000
 own:own=o/\o<jh.length
def Ga(b:World)(cb:Nat)(c d f g hd own i j k params:Value)(V:Value)(w:World)(Q:List In->Nat->Prop)(e:Ending)(w':World):Prop:=∃r:Nat,e=.returned (.int .i64 (r:Int))/\∃V' a,kn b cb c d f g hd own i j k params V' a w'/\kQ cb V w V' w'/\Q a r
abbrev CF(P:(Nat->Prop)->World->World->Nat->Value->Value->Value->Value->Value->Value->Value->Value->Value->Value->Value->List In->List Co->Prop):Prop:=
 ∀(b:Nat->Prop) (a w:World) (cb:Nat) (g i j c hd own d e f params V:Value) (k:List In) (l:List Co) (m:List (List (List UInt8))) (o:Nat),kn a cb g i j c hd own d e f params V k w->vp b a cb d e f params->A0 b a c hd own l m o->P b a w cb g i j c hd own d e f params V k l
def Ai(d:Nat):Prop:=CF λf a w cb g i j k hd own n p q params V b r=>∀(e:Option Addr) (m c:Nat) (l:List St),jc (jH .u8 d) f a (.slice e m c) l->(∀s∈l,yl r d s)->b.length+400*jw d l<=90000->
 Calls prog 238 #[.pointer (some ⟨cb,0,none⟩),.slice e m c] w (qD a cb g i j k hd own n p q params V w (.tuple #[]) (kE b (400*jw d l)))
def CR(d:Nat):Prop:=CF λg a w cb i j k n hd own p q t params V b u=>∀(e:Option Addr) (m c:Nat) (l:List St),jc (jH .u8 d) g a (.slice e m c) l->(∀s∈l,yl u d s)->b.length+400*jw d l+1<=90000->
 Calls prog 298 #[.pointer (some ⟨cb,0,none⟩),.slice e m c] w (Ga a cb i j k n hd own p q t params V w (λf r=>kE b (400*jw d l+1) f/\r<=f.length))
def FQ(d:Nat):Prop:=CF λb a w cb p q r s hd own t u v params V c x=>∀(e:Int) (name f:List UInt8) (g:List Ex) (th el:List St) (i:Option Addr) (j c1:Nat) (k:Option Addr) (l c4:Nat) (m:Option Addr) (n c5:Nat) (d':Nat),d=d'+1->jc (ki .u8 De) b a (.slice i j c1) g->jc (jH .u8 d') b a (.slice k l c4) th->jc (jH .u8 d') b a (.slice m n c5) el->yl x d (.mk e name f g th el)->c.length+400*(1+jw d' th+jw d' el)<=90000->
 Calls prog 282 #[.pointer (some ⟨cb,0,none⟩),.agg #[.int .u8 e,tx name,tx f,.slice i j c1,.slice k l c4,.slice m n c5]] w (qD a cb p q r s hd own t u v params V w (.tuple #[]) (kE c (400*(1+jw d' th+jw d' el))))
theorem sP(d:Nat)(ad:FQ d):Ai d:=by
 intro ae C w cb D E F G hd own I J K params V p af ag o h hx hf aJ f c1 l q s ah;have H:=h;have m:=hx;have ai:=hf;have aj:=q;have ak:=s;have L:=q.len;have al:=ah;have am:=ad;have hm:f<=1000:=LB (yl.len s) q.len.1
 clear s
 go_enter func238,ntmps238
 go_wp2_with fail;go_loopw [8] (λi wr=>∃(k:Nat) (V':Value) (g:List In),k<=f/\i=k/\kn C cb D E F G hd own I J K params V' g wr/\kQ cb V w V' wr/\kE p (400*jw d (l.take k)) g) (λi _=>f-(intOf i).toNat);case atStart=>exact⟨0,V,p,JV _,rfl,H,.refl _ _ _,by cases d<;>exact kE.refl p⟩
 case round=>
  obtain⟨k,V',g,aK,rfl,M,an,n⟩:=hrel;have t:=M;have N:=an;have u:=n;have aL:=M.g.size;by_cases aM:k<f
  .obtain⟨x,hx⟩:∃x,l[k]?=some x:=Gx (LA L);obtain⟨a,j,r,rfl,v,hr,b⟩:=aj.jr (jH.ok .u8 d) k x hx;have ao:=ak x (JM hx);obtain⟨d',v1,v2,aN,hd,rfl,y,z,A⟩:=hr.open;subst hd;obtain⟨O,P,rfl,_⟩:=y.form;obtain⟨Q,c4,rfl,_⟩:=z.form;obtain⟨R,c5,rfl,_⟩:=A.form;have c:=t.old (m.jY a v).1 (m.jY a v).2;have ap:=(Cb a (j+k*6+0) c).T (b 0 _ rfl);have aO:=(Cb a (j+k*6+1) c).T (b 1 _ rfl);have aP:=(Cb a (j+k*6+2) c).T (b 2 _ rfl);have aq:=(Cb a (j+k*6+3) c).T (b 3 _ rfl);have ar:=(Cb a (j+k*6+4) c).T (b 4 _ rfl);have au:=(Cb a (j+k*6+5) c).T (b 5 _ rfl);rw[JT]at ap;have aQ:a<wr:=LA ((m.jY a v).1);have av:=jJ.sf (d:=d') hx;have aR:=jJ.wV (d:=d'+1) l (k+1);obtain⟨S,name,T,U,th,el⟩:=x;simp only[St.kind,St.name,St.hd,St.jy,St.th,St.el,En]at*;obtain⟨W,X⟩:=Xq U.length;rw[<-X]at aq y;clear X;obtain⟨Y,Z⟩:=Xq th.length;rw[<-Z]at ar z;clear Z;obtain⟨aa,ab⟩:=Xq el.length;rw[<-ab]at au A;clear ab;have aw:=ao;have ax:=y;have ay:=z;have az:=A;have aS:(0:Int)<=(k:Int):=LC;have aT:(k:Int)<(f:Int):=LC;have aA:=(show 400*jw (d'+1) (l.take k)+400*(1+jw d' th+jw d' el)<=400*jw (d'+1) (l.take (k+1)) from LC)
   have aB:=(show g.length+400*(1+jw d' th+jw d' el)<=90000 from LB u.len al)
   clear b hx c av;have ac:=Ba wr (.cells #[.int .u8 S,tx name,tx T,.slice O W P,.slice Q Y c4,.slice R aa c5] 270);have aC:=(t.iU ac)
   have aD:=(N.T (.iU ac))
   go_wp2_with fail;refine(am ae C _ cb D E F G hd own I J K params V' g af ag o aC m ai S name T U th el O W P Q Y c4 R aa c5 d' rfl ax ay az aw aB).M ?_;rintro e aU ⟨rfl,aE,aF,aG,aH,aI⟩;have B:=(And.intro aG (And.intro (aD.T aH) (u.T aI aA)))
   go_wp2_with fail;go_roundw;case rel=>exact⟨k+1,aE,aF,LC,LI,B.1,B.2.1,B.2.2⟩
   case measure=>simp[intOf];omega
  obtain rfl:f=k:=LC;go_wp2_with fail
  go_end0
  have n:=u;rw[Kj (LA L)]at n;exact⟨rfl,V',g,t,N,n⟩
theorem Bx:FQ 0:=λ_ _ _ _ _ _ _ _ _ _ _ _ _ _ _ _ _ _ _ _ _ _ _ _ _ _ _ _ _ _ _ _ _ _ _ _ _ _ d' hd=>absurd hd LC
def Gb(n:Nat)(w:World)(e:Ending)(w':World):Prop:=∃(t:Int) (a:Bool),e=.returned (.tuple #[.int .i64 t,.bool a])/\Below w w w'/\(a=true->0<=t/\t<=n)
theorem yV(x:In)(n:Nat)(w:World)(h:mz n x):
  Calls prog 285 #[.agg #[.int .u8 x.op,x.a,x.b,x.n]] w (Gb n w):=by
 obtain⟨_,_,c,d⟩:=h;obtain⟨op,a,b,m⟩:=x;simp only at c d⊢;by_cases e:op=27
 .subst e
  go_enter func285,ntmps285
  go_wp2;refine JZ (v:=.tuple #[.int .i64 a,.bool true]) ?_ rfl ⟨a,true,rfl,Ba _ _,λ_=>c LG⟩;simp[results,Tryz.results285,go_sem]
 by_cases f:op=28
 .subst f
  go_enter func285,ntmps285
  go_wp2;refine JZ (v:=.tuple #[.int .i64 a,.bool true]) ?_ rfl ⟨a,true,rfl,Ba _ _,λ_=>c LG⟩;simp[results,Tryz.results285,go_sem]
 by_cases g:op=32
 .subst g
  go_enter func285,ntmps285
  go_wp2;refine JZ (v:=.tuple #[.int .i64 b,.bool true]) ?_ rfl ⟨b,true,rfl,Ba _ _,λ_=>d LG⟩;simp[results,Tryz.results285,go_sem]
 by_cases i:op=33
 .subst i
  go_enter func285,ntmps285
  go_wp2;refine JZ (v:=.tuple #[.int .i64 b,.bool true]) ?_ rfl ⟨b,true,rfl,Ba _ _,λ_=>d LG⟩;simp[results,Tryz.results285,go_sem]
 have j:(op==27)=false:=by simpa using e
 have k:(op==28)=false:=by simpa using f
 have l:(op==32)=false:=by simpa using g
 have p:(op==33)=false:=by simpa using i
 go_enter func285,ntmps285
 go_wp2;refine JZ (v:=.tuple #[.int .i64 0,.bool false]) ?_ rfl ⟨0,false,rfl,Ba _ _,λh=>by cases h⟩;simp[results,Tryz.results285,go_sem]
structure na(w:World):Prop where
 lt:11<w.heap.size
 jr:∀k:Nat,k<=34->∃(t u:ByteArray) (p q:Int),w.cell? ⟨11,k*4,none⟩=some (.string t)/\w.cell? ⟨11,k*4+1,none⟩=some (.string u)/\w.cell? ⟨11,k*4+2,none⟩=some (.int .i64 p)/\w.cell? ⟨11,k*4+3,none⟩=some (.int .i64 q)
theorem na.iV{w w'}(h:na w)(a:w'.heap[(11:Nat)]?=w.heap[(11:Nat)]?)(hs:w.heap.size<=w'.heap.size):na w':=
 ⟨JI h.lt hs,λk b=>by obtain⟨t,u,p,q,c,d,e,f⟩:=h.jr k b;exact⟨t,u,p,q,(Cb 11 (k*4) a).T c,(Cb 11 (k*4+1) a).T d,(Cb 11 (k*4+2) a).T e,(Cb 11 (k*4+3) a).T f⟩⟩
def EJ(w:World)(e:Ending)(w':World):Prop:=∃(t u:ByteArray) (p q:Int),e=.returned (.agg #[.string t,.string u,p,q])/\Below w w w'
theorem EK(k:Nat)(a:k<=34)(w)(h:na w):
  Calls prog 284 #[.int .u8 (k:Int)] w (EJ w):=by
 obtain⟨t,u,p,q,b,c,d,e⟩:=h.jr k a;have f:=h.lt
 go_enter func284,ntmps284
 go_wp2;refine JZ (v:=.agg #[.string t,.string u,p,q]) ?_ rfl ⟨t,u,p,q,rfl,?_⟩
 .simp[results,Tryz.results284,go_sem]
 .exact Ba _ _
def Gd(w:World)(e:Ending)(w':World):Prop:=∃(t:Int) (b:Bool),e=.returned (.tuple #[.int .i64 t,.bool b])/\Below w w w'
theorem ll.iV{a w w' v}(h:ll a w v)(b:∀q,a q->w'.heap[q]?=w.heap[q]?):ll a w' v:=by obtain⟨d,n,c,xs,e,hs,hn⟩:=h;exact⟨d,n,c,xs,e,hs.iV jk.ok b,hn⟩
def Ge(w:World)(cb a:Nat)(b c d f hd own g i j:Value)(e:Ending)(w':World):Prop:=
 ∃(t:Int) (k:Option Addr) (n' l:Nat),e=.returned (.agg #[.int .i64 (a:Int),t,.slice k n' l])/\w.grownBy w' (some cb)/\∃m V':Value,w'.heap[cb]?=some (.cells #[b,c,d,f,hd,own,g,i,j,m,V'] 240 (0,0))
theorem kT.lt{T w}{b n:Nat}(h:kT T w b n):b<w:=by obtain⟨c,a,_⟩:=h;exact(JJ.1 a).1
theorem rW{T b w}{lo f:Nat}{P i}{k k':Nat}{V V'}{c d:Type}{R:Rel c}{j:Rel d}{l:List c}{m:List d}(h:jx R T k P w lo V l)(n:jx j b k' i w f V' m)(p:T≠b):∀z,V.ownBlock=some z->V'.ownBlock≠some z:=by
 intro z hz e;obtain⟨_,q,_⟩:=h.own;obtain⟨_,r,_⟩:=n.own;rcases q.2 with⟨rfl,_⟩|⟨g,t,u,rfl,_,s,_⟩
 simp[Value.ownBlock]at hz;rcases r.2 with⟨rfl,_⟩|⟨v,x,y,rfl,_,a,_⟩
 simp[Value.ownBlock]at e;simp only[Value.ownBlock,Option.some.injEq]at hz e;subst hz;subst e;rw[s]at a;injection a with a;injection a with _ a _;exact p a
theorem py.lt{a x V}{n:Nat}(h:py a x V n):∀z,V.ownBlock=some z->a<=z/\z<x:=by obtain⟨xs,b,_⟩:=h;exact b.ge
end Go.Proofs.YtidmdcckbdmblaaGreatDoor
namespace jJ
theorem Dd(i t:Nat)(c:1<=i)(d:i<=3)(e:t<=1):((List.range 6).all λa=>match (lB i t)[a]? with|none=>true|some x=>(((lB i t).take a).find? λb=>b.name==x.name).isNone&&x.name.head? !=some 102&&x.name.length==2)=true:=by rcases(show i=1\/i=2\/i=3 from LC)with rfl|rfl|rfl<;>rcases(show t=0\/t=1 from LC)with rfl|rfl<;>decide
theorem EG{i t b:Nat}{x}{f:Nat}{c}(hf:qc f c)(g:1<=i)(j:i<=3)(k:t<=1)(hx:(lB i t)[b]?=some x):(((lB i t).take b).find? λd=>d.name==x.name)=none/\mq c x.name=false/\x.name.length=2:=by
 have l:=(List.getElem?_eq_some_iff.1 hx).1;rw[oa]at l;have h:=List.all_eq_true.1 (Dd i t g j k) b (List.mem_range.2 LC);rw[hx]at h;simp only[Bool.and_eq_true,Option.isNone_iff_eq_none,beq_iff_eq,bne_iff_ne]at h;refine⟨h.1.1,?_,h.2⟩;cases a:mq c x.name with
 |false=>rfl
 |true=>unfold mq at a;rw[List.any_eq_true]at a;obtain⟨d,hy,e⟩:=a;obtain⟨q,a⟩:=List.getElem?_of_mem hy;rw[hf.2 q d a]at e;rw[beq_iff_eq]at e;rw[<-e]at h;exact absurd rfl h.1.2
theorem EH{sc:Sc}{g:List Nat}{d:List (List Hd)}(w:g.length<=3)(i:∀hs∈d,AX sc g hs){hs:List Hd}{j v:Nat}{x f:Hd}(m:hs∈d)(hx:hs[j]?=some x)(hf:((d.take v).flatten.find? λz=>z.name==x.name)=some f):f.params.length=x.params.length:=by obtain⟨l,n,hy⟩:=List.mem_flatten.1 (List.mem_of_find?_eq_some hf);have hn:=List.find?_some hf;obtain⟨q,p⟩:=List.getElem?_of_mem hy;obtain⟨a,k,r,s,_⟩:=i l (List.mem_of_mem_take n) q f p;obtain⟨b,c,t,u,_⟩:=i hs m j x hx;have y:=(List.getElem?_eq_some_iff.1 k).1;have A:=(List.getElem?_eq_some_iff.1 c).1;rw[r,t,beq_iff_eq]at hn;have e:=CQ LC LC hn;subst e;rw[k]at c;injection c with c;rw[s,u,c]
end jJ
namespace Go.Proofs.YtidmdcckbdmblaaGreatDoor
open Go.RowKit jJ Go.Proofs.Tryz
theorem G9.of{u:List Fg}{b:List Co}{f:Nat}{d:List (List Nat)}{k:Nat}{g:Co}(j:qc f u)(C:f<=2)(D:b.length<=3)(m:∀(i:Nat) (c:Co),b[i]?=some c->FK f d i c)(E:d.length=b.length)(n:∀l∈d,1<=l.length/\l.length<=3/\∀a∈l,a<=2)(w:b[k]?=some g):G9 u b k g:=by
 have F:=(J6.1 w).1;have G:∀(i:Nat) (c:Co),b[i]?=some c->c.name=kW i:=λi c h=>by obtain⟨_,_,_,_,_,_,h,_⟩:=(m i c h).ex;exact h
 obtain⟨ints,I,J,p,y,z,hn,q,S,K,L,r,T⟩:=(m k g w).ex;have t:=n J (JM L);refine⟨by rw[hn];simp[kW],by rw[hn];exact Dc D F G,by rw[hn];exact EF j,by rw[q,oa];omega,λA x hx=>?_,K,λl e=>LA ((r l e).2.1),λl e A x hx=>?_⟩;rw[q]at hx⊢;obtain⟨M,N,U⟩:=EG j p y z hx;exact⟨M,N,LC⟩;obtain⟨_,_,B⟩:=r l e;obtain⟨a,O,P,Q,R,V⟩:=B A x hx;have uf:Ej (⟨ints,I,f,a,d,k⟩:Sc):=⟨p,y,z,C,t.2.2 a (JM O),by show k<d.length;omega,by show d.length<=3;omega,n⟩
 refine⟨by rw[P];simp[nm],HB t.2.1 B hx,λv W hy=>EH t.2.1 (λl e=>(r l e).2.2) e hx hy,LC,_,rfl,?_,λs hs=>.inl ⟨R s hs,p⟩,λ_=>Cy.of _ rfl m E n⟩;rw[q,Q];exact Ej.Ef uf j
end Go.Proofs.YtidmdcckbdmblaaGreatDoor
