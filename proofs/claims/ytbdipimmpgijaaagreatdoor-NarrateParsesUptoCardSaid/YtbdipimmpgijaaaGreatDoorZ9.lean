import Derived.Test.YtbdipimmpgijaaaGreatDoorZ4
import Derived.Test.YtbdipimmpgijaaaGreatDoorZ5
set_option maxRecDepth 1000000
set_option maxHeartbeats 32000000
set_option linter.all false
namespace Go.Proofs.YtbdipimmpgijaaaGreatDoor
open RowKit Go.Proofs.Tryz lH Maps oa qR ChangeShapes WideShapes ChangeAt
def qH{r}{s:Nat}{m}{D left left':Nat}{T v x y z A B}{o:Obj}{kind:Int}{name hd:RK}{c d e:RE}{f g i j k l:Nat}{w a}{t:List Ex}{n p:List St}(u:pV r s m left' T #[v,x,y,z,A,B] w a)
  (C:kz (kP .i64 De) (New w<|a.alloc o) (a.alloc o) (.slice c f g) t) (E:kz (kR .i64 D) (New w<|a.alloc o) (a.alloc o) (.slice d i j) n) (F:kz (kR .i64 D) (New w<|a.alloc o) (a.alloc o) (.slice e k l) p) (G:mR m (D+1)<|.mk kind name hd t n p) (I:kU D n+kU D p+left'<=left):
  qA r s m D left w (.returned<|.agg<|qS kind name hd c f g d i j e k l) ((lQ a w (.int .i64 kind) (tx name) (tx hd) (.slice c f g) (.slice d i j)<|.slice e k l).alloc o):=by
 have b:=u.lt;have q:=wR (left:=left) ((u.alloc o).lQ (.int .i64 kind) (tx name) (tx hd) (.slice c f g) (.slice d i j)<|.slice e k l) (nW (kP.ok _ _) C _ _ _ _ _ _) (nW (kR.ok _ _) E _ _ _ _ _ _) (nW (kR.ok _ _) F _ _ _ _ _ _) G I;unfold lQ at q⊢;rw[RJ o _ _ _ b,RJ o _ _ _ (by simp only[QU];exact b),RJ o _ _ _ (by simp only[QU];exact b),RJ o _ _ _ (by simp only[QU];exact b),RJ o _ _ _ (by simp only[QU];exact b),RJ o _ _ _<|by simp only[QU];exact b]at q;exact q
def yP{p}{q:Nat}{l}{D left left':Nat}{T s t u v x y}{kind:Int}{name hd:RK}{b c d:RE}{e f g i j k:Nat}{w a}{r:List Ex}{m n:List St}(z:pV p q l left' T #[s,t,u,v,x,y] w a)
  (A:kz (kP .i64 De) (New w a) a (.slice b e f) r) (B:kz (kR .i64 D) (New w a) a (.slice c g i) m) (C:kz (kR .i64 D) (New w a) a (.slice d j k) n) (E:mR l (D+1)<|.mk kind name hd r m n) (F:kU D m+kU D n+left'<=left):
  qA p q l D left w (.returned<|.agg<|qS kind name hd b e f c g i d j k) (lQ a w (.int .i64 kind) (tx name) (tx hd) (.slice b e f) (.slice c g i)<|.slice d j k):=
 wR (left:=left) (z.lQ (.int .i64 kind) (tx name) (tx hd) (.slice b e f) (.slice c g i)<|.slice d j k) (nW (kP.ok _ _) A _ _ _ _ _ _) (nW (kR.ok _ _) B _ _ _ _ _ _) (nW (kR.ok _ _) C _ _ _ _ _ _) E F
structure Nf(uO:List Fg)(kH:List Co)(k:Nat)(co:Co):Prop where
 nl:co.name.length<=12
 new:((kH.take k).find? λx=>x.name==co.name)=none
 QC:pC uO co.name=false
 nv:co.vars.length<=5
 vars:∀j x,co.vars[j]?=some x->((co.vars.take j).find? λy=>y.name==x.name)=none/\pC uO x.name=false/\x.name.length<=12
 QD:co.lJ.length<=2
 hs:∀l∈co.lJ,l.length<=3
 hd:∀l∈co.lJ,∀j x,l[j]?=some x->x.name.length<=12/\((([l.take j]:List<|List Hd).flatten).find? λy=>y.name==x.name)=none/\(∀v y,((co.lJ.take v).flatten.find? λz=>z.name==x.name)=some y->y.params.length=x.params.length)/\kU Ds x.body<=12/\
  ∃sc:Sc,sc.own=k/\JM sc uO co.vars x.params/\(∀s∈x.body,Hf sc kH Ds s)/\(1<=sc.ints->Hs sc kH)
def Nf.of{w:List Fg}{c:List Co}{g:Nat}{d:List<|List Nat}{k:Nat}{l:Co}(m:rF g w)(D:g<=2)(E:c.length<=3)(n:∀(i:Nat) (b:Co),c[i]?=some b->yr g d i b)(F:d.length=c.length)(p:∀a∈d,1<=a.length/\a.length<=3/\∀j∈a,j<=2)(x:c[k]?=some l):Nf w c k l:=by
 have G:=(Q9.1 x).1;have I:∀(i:Nat) (b:Co),c[i]?=some b->b.name=kX i:=λi b q=>by have⟨_,_,_,_,_,_,q,_⟩:=(n i b q).ex;exact q
 have⟨J,K,L,r,y,z,s,t,ac,M,N,u,ad⟩:=(n k l x).ex;have v:=p L<|QS N;refine⟨by rw[s];simp[kX],by rw[s];exact Iz E G I,by rw[s];exact Kl m,by rw[t,rM];omega,λA B e=>?_,M,λa f=>W<|(u a f).2.1,λa f A B e=>?_⟩;rw[t]at e⊢;have⟨O,P,ae⟩:=Km m r y z e;exact⟨O,P,Y⟩;have⟨_,_,C⟩:=u a f;have⟨j,Q,R,S,T,af⟩:=C A B e;have U:oQ (⟨J,K,g,j,d,k⟩:Sc):=⟨r,y,z,D,v.2.2 j<|QS Q,by show k<d.length;omega,by show d.length<=3;omega,p⟩
 refine⟨by rw[R];simp[nm],NP v.2.1 C e,λag ah V=>Kn v.2.1 (λa f=>(u a f).2.2) f e V,Y,_,Z,?_,λaa ab=>.inl ⟨T aa ab,r⟩,λ_=>Hs.of _ Z n F p⟩;rw[t,S];exact oQ.JI U m
structure FK(S:Nat->Prop)(w3:RW)(f3 hd own:R0)(kH:List Co)(nl:List<|List RK)(o:Nat):Prop where
 cs:∃(A3:RE) (c3:Nat),f3=.slice A3 kH.length c3/\kz (mr .u8) S w3 f3 kH
 len:kH.length<=3
 ns:∃(Ah:RE) (ch:Nat),hd=.slice Ah kH.length ch/\kz pI S w3 hd nl
 Nq:∀l∈nl,l.length<=1000
 own:own=o/\o<kH.length
def mB.Bl{l}{cb:Nat}{m n p q r s t u v w}{g e f:Nat}{i:List In}{c}(y:mB l cb m n p q r s t u v w (g,e,f) i c){d:Nat}{j:In}(z:i[d]?=some j):
  (∀(a:Nat) x,(wj j)[a]?=some x->c.cell? ⟨g,d*4+a,none⟩=some x/\c.frozen? ⟨g,d*4+a,none⟩=false)/\
   ∀a,a=1\/a=2->∀k:Int,mB l cb m n p q r s t u v w (g,e,f) (i.set d<|j.put a k) (c.setCell ⟨g,d*4+a,none⟩<|.int .i64 k)/\nG cb (g,e,f) c (g,e,f) (c.setCell ⟨g,d*4+a,none⟩<|.int .i64 k):=by
 have⟨C,D,b,_,_,A,B⟩:=y.ins z;injection b with b _ _;injection b with b;injection b with b;subst b;exact⟨A,B⟩
def mB.Bn{c}{cb:Nat}{d e f j k l m n p q vQ}{a:List In}{r}(s:mB c cb d e f j k l m n p q vQ a r)(t:0<a.length):∃g b,vQ=.slice (sE g) a.length b:=by have⟨g,b,u,_⟩:=s.ins (i:=0) (x:=a[0])<|Q6 t;exact⟨g,b,u⟩
abbrev HF(t:(Nat->Prop)->RW->RW->Nat->R0->R0->R0->R0->R0->R0->R0->R0->R0->R0->R0->List In->List Co->Prop):Prop:=
 ∀(b:Nat->Prop) (a l:RW) (c:Nat) (m n p d e f g i j k q:R0) (r:List In) (s:List Co) (u:List<|List RK) (o:Nat),mB a c m n p d e f g i j k q r l->zP b a c g i j k->FK b a d e f s u o->t b a l c m n p d e f g i j k q r s
def EX(d:Nat):Prop:=HF λk b c e l m n p q r s t u v w f x=>∀(g:RE) (i j:Nat) (a:List St),kz (kR .u8 d) k b (g,i,j) a->(∀y∈a,CZ x d y)->f.length+400*kU d a<=90000->
 Calls prog 169 #[.pointer e,(g,i,j)] c (uV b e l m n p q r s t u v w c (.tuple #[])<|mY f<|400*kU d a)
def H4(a:Nat):Prop:=HF λl c d e m n p q r s t u v w x f y=>∀(g:RE) (i j:Nat) (b:List St),kz (kR .u8 a) l c (g,i,j) b->(∀z∈b,CZ y a z)->f.length+400*kU a b+1<=90000->
 Calls prog 231 #[.pointer e,(g,i,j)] d (Ma c e m n p q r s t u v w x d λk A=>mY f (400*kU a b+1) k/\A<=k.length)
def LG(d:Nat):Prop:=HF λf b g i y z A B C D E F G I J j K=>∀(k:Int) (l m:RK) (n:List Ex) (c e:List St) (p:RE) (q r:Nat) (s:RE) (t u:Nat) (v:RE) (w x:Nat) (a:Nat),d=a+1->kz (kP .u8 De) f b (p,q,r) n->kz (kR .u8 a) f b (s,t,u) c->kz (kR .u8 a) f b (v,w,x) e->CZ K d (.mk k l m n c e)->j.length+400*(1+kU a c+kU a e)<=90000->
 Calls prog 214 #[.pointer i,.agg #[.int .u8 k,tx l,tx m,(p,q,r),(s,t,u),(v,w,x)]] g (uV b i y z A B C D E F G I J g (.tuple #[])<|mY j<|400*(1+kU a c+kU a e))
def xE(d:Nat)(ap:LG d):EX d:=by
 intro aq E ar t F G I J p K L M N O P u au av o aw k ax ba e bb l v Q ay;have az:=aw;have w:=k;have aA:=ax;have aB:=v;have aC:=Q;have R:=v.len;have aD:=ay;have aE:=ap;have bc:e<=1000:=Ul (CZ.len Q) v.len.1
 go_enter func169,ntmps169
 go_wp21;go_loopw [8] (λx wr=>∃(a:Nat) (m:R0) (f:List In),a<=e/\x=a/\mB E t F G I J p K L M N O m f wr/\nG t P ar m wr/\mY u (400*kU d (l.take a)) f) (λx _=>e-(intOf x).toNat)
 .exact⟨0,P,u,QZ _,Z,az,.refl _ _ _,by cases d<;>exact mY.refl u⟩
 obtain⟨a,m,f,bd,rfl,aF,aG,q⟩:=hrel;have y:=aF;have S:=aG;have z:=q;by_cases be:a<e
 .obtain⟨n,k⟩:∃n,l[a]?=some n:=Gx<|W R;obtain⟨c,g,bf,rfl,T,aH,i⟩:=aB.ll (kR.ok .u8 d) a n k;have aI:=aC n<|QS k;obtain⟨b,bg,bh,bi,p,rfl,A,B,C⟩:=aH.open;subst p;obtain⟨U,V,rfl,_⟩:=A.form;obtain⟨aa,ab,rfl,_⟩:=B.form;obtain⟨ac,ad,rfl,_⟩:=C.form;have j:=y.old (w.lK c T).1 (w.lK c T).2;have aJ:=(Cb c (g+a*6+0) j).T<|i 0 _ Z;have bj:=(Cb c (g+a*6+1) j).T<|i 1 _ Z;have bk:=(Cb c (g+a*6+2) j).T<|i 2 _ Z;have aK:=(Cb c (g+a*6+3) j).T<|i 3 _ Z;have aL:=(Cb c (g+a*6+4) j).T<|i 4 _ Z;have aM:=(Cb c (g+a*6+5) j).T<|i 5 _ Z;rw[Q1]at aJ;have bl:=lH.uC (d:=b) k;have bm:=lH.BG (d:=b+1) l<|a+1;have⟨ae,af,ag,ah,r,s⟩:=n;simp only[St.kind,St.name,St.hd,St.lp,St.th,St.el,JN]at*;have⟨ai,aj⟩:=Xq ah.length;rw[<-aj]at aK A;clear aj;have⟨ak,al⟩:=Xq r.length;rw[<-al]at aL B;clear al;have⟨am,an⟩:=Xq s.length;rw[<-an]at aM C;clear an;have aN:=aI;have aO:=A;have aP:=B;have aQ:=C;obtain⟨bn,bo⟩:=nL a e;have aR:=(show 400*kU (b+1) (l.take a)+400*(1+kU b r+kU b s)<=400*kU (b+1) (l.take<|a+1) from Y)
  have aS:=(show f.length+400*(1+kU b r+kU b s)<=90000 from Ul z.len aD)
  have ao:=Ba wr<|mx ae af ag U ai V aa ak ab ac am ad;have aT:=(y.ku ao)
  have aU:=(S.T<|.ku ao)
  go_wp21;apply(aE aq E _ t F G I J p K L M N O m f au av o aT w aA ae af ag ah r s U ai V aa ak ab ac am ad b Z aO aP aQ aN aS).M;rintro bp bq ⟨rfl,aV,aW,aX,aY,aZ⟩;have D:=(RC aX<|RC (aU.T aY)<|z.T aZ aR)
  go_wp21;go_roundw
  .exact⟨a+1,aV,aW,Y,Ur,D.1,D.2.1,D.2.2⟩
  simp[intOf];omega
 obtain rfl:e=a:=Y;go_wp21
 go_end0
 have q:=z;rw[Re<|W R]at q;exact⟨Z,m,f,y,S,q⟩
def Gh:LG 0:=λ_ _ _ _ _ _ _ _ _ _ _ _ _ _ _ _ _ _ _ _ _ _ _ _ _ _ _ _ _ _ _ _ _ _ _ _ _ _ b a=>absurd a Y
structure qa(hh m b8 b9:Nat)(op a b n:Int)(t u:Se)(q:Int)(w x:RW):Prop where
 ht:rZ (hh+1) hh (m+1) x
 ins:x.heap[b8]?=some (.cells #[.int .u8 op,a,b,n] 336)
 row:∃p:Int,x.heap[b9]?=some (.cells #[.string t,.string u,p,q] 338)
 ku:Below hh w x
 lK:hh+1<b8
 JO:b8<b9
def rZ.other{a b d z i:Nat}{u w}(c:rZ a b d w)(e:a≠z)(f:b≠z):rZ a b d<|w.setCell (sa z i) u:=by have⟨g,j,k⟩:=c.row;exact⟨(Q8 _ _ _ _ e).T c.var,⟨g,j,(Q8 _ _ _ _ f).T k⟩,c.ne⟩
def qa.OZ{d e c b:Nat}{f g i j:Int}{k l}{m:Int}{n p}(a:qa d e c b f g i j k l m n p)(q:Int):qa d e c b f g i j k l m n<|p.setCell (rm b)<|.int .i64 q:=by have⟨u,r⟩:=a.row;have s:=a.lK;have t:=a.JO;exact⟨a.ht.other Y Y,(Q8 _ _ _ _<|show c≠b from Y).T a.ins,⟨q,kr r⟩,kD (z:=b) a.ku Y,s,t⟩
def qa.to{e m f g:Nat}{i j b k:Int}{l u}{n:Int}{w d p}(a:qa e m f g i j b k l u n w d)(c:Below d d p):qa e m f g i j b k l u n w p:=by have⟨s,q⟩:=a.row;exact⟨a.ht.ku c,(c.B _ (QP.1 a.ins).1).T a.ins,⟨s,(c.B _ (QP.1 q).1).T q⟩,⟨c.os.T a.ku.os,c.tape.T a.ku.tape,c.output.T a.ku.output,QT a.ku.size c.size,λr t=>(c.B r<|W<|(QP.1 a.ht.var).1).T<|a.ku.B r t⟩,a.lK,a.JO⟩
def qa.grown{c f k l:Nat}{m n b p:Int}{r u}{q:Int}{w x g}(a:qa c f k l m n b p r u q w x)(t:rZ (c+1) c (f+1) g)(d:x.grownBy g<|some c):qa c f k l m n b p r u q w g:=by have⟨v,s⟩:=a.row;have z:=a.lK;have A:=a.JO;have i:∀e,e≠c->¬some e=some c:=λe j y=>j (by injection y);exact⟨t,(d.B _ (QP.1 a.ins).1<|i _ Y).T a.ins,⟨v,(d.B _ (QP.1 s).1<|i _ Y).T s⟩,⟨d.os.T a.ku.os,d.tape.T a.ku.tape,d.output.T a.ku.output,QT a.ku.size d.size,λe j=>(d.B e (W<|(QP.1 a.ht.var).1)<|i _ Y).T<|a.ku.B e j⟩,a.lK,a.JO⟩
def zP.kv{S w w'}{cb:Nat}{c d e f}(a:zP S w cb c d e f)(b:∀q,S q->w'.heap[q]?=w.heap[q]?)(i:w.heap.size<=w'.heap.size):zP S w' cb c d e f:=
 ⟨a.vars.kv b,a.lf.kv b,a.kQ.kv b,a.params.kv b,λq g=>⟨QO (a.lK q g).1 i,(a.lK q g).2⟩⟩
def FK.kv{S w w' a hd b c d}{o:Nat}(f:FK S w a hd b c d o)(e:∀q,S q->w'.heap[q]?=w.heap[q]?):FK S w' a hd b c d o:=by have⟨⟨g,i,j,k⟩,l,⟨m,n,p,r⟩,s,t⟩:=f;exact⟨⟨g,i,j,k.kv (mr.ok .u8) e⟩,l,⟨m,n,p,r.kv pI.ok e⟩,s,t⟩
def lH.na(l:List RK)(hs:List Hd):List RK:=hs.foldl (λl a=>qQ l a.name) l
def lH.lO(l:List RK)(vs:List<|List Hd):List RK:=vs.foldl na l
def lH.ud:∀{hs:List Hd} {l:List RK} {a:RK},a∈l->a∈na l hs
 |[],_,_,h=>h
 |x::hs,l,a,h=>ud (hs:=hs) (l:=qQ l x.name)<|IG h
def lH.xF:∀{hs:List Hd} {l:List RK} {a:Hd},a∈hs->a.name∈na l hs
 |y::hs,l,a,h=>by rcases List.mem_cons.1 h with rfl|h;exact ud (hs:=hs) (l:=qQ l a.name)<|xi _ _;exact xF (hs:=hs) (l:=qQ l y.name) h
def lH.xG:∀{vs:List<|List Hd} {l:List RK} {a:RK},a∈l->a∈lO l vs
 |[],_,_,h=>h
 |x::vs,l,a,h=>xG (vs:=vs) (l:=na l x)<|ud h
def lH.xH:∀{vs:List<|List Hd} {l:List RK} {a:List Hd} {b:Hd},a∈vs->b∈a->b.name∈lO l vs
 |y::vs,l,a,b,h,hx=>by rcases List.mem_cons.1 h with rfl|h;exact xG (vs:=vs) (l:=na l a)<|xF hx;exact xH (vs:=vs) (l:=na l y) h hx
def lH.xI:∀b a,(na a b).length<=a.length+b.length
 |[],a=>by simp[na]
 |x::b,a=>by have c:=xI b<|qQ a x.name;have d:=IE a x.name;show(na (qQ a x.name) b).length<=_;simp only[List.length_cons];omega
def lH.rO:∀b a,(∀c∈b,c.length<=100)->(lO a b).length<=a.length+100*b.length
 |[],a,_=>by simp[lO]
 |x::b,a,h=>by have f:=rO b (na a x) λd e=>h d<|List.mem_cons_of_mem _ e;have g:=xI x a;have i:=h x<|List.mem_cons_self ..;show(lO (na a x) b).length<=_;simp only[List.length_cons];omega
def nM.kv{T w w'}{b n:Nat}(a:nM T w b n)(c:w'.heap[b]?=w.heap[b]?):nM T w' b n:=by have⟨d,e,f⟩:=a;exact⟨d,c.T e,f⟩
def yc(c a:Nat)(w)(i:nM 230 w c<|a*3)(C:a<=1000):Calls prog 112 #[.slice c a a] w<|H5 w:=by
 have⟨l,m,n,p,q⟩:=Rj BI;have D:∀w d a e f b,(binOp .eql 227 (.slice d a e)<|.slice none f b).run prog w=.ok (.bool d.isNone) w:=λw d a e f b=>T3 w _ _ d a e f b underlying227;have⟨r,E,s,t⟩:=i.cells;have u:=i.lt
 go_enter func112,ntmps112
 go_wp2_with (at_builtin;refine Tm _ Z _ _ 227 Z w.heap.size 230 l _ 3 40 underlying227 m n p q Z Un _ _ _ Z (TD w #[] 0 (QX _) (QZ _) Z) ⟨c,0,none⟩ a a r Z ?OD ?OE ?OG ?OH ?OI ?OJ ?_);case OD=>omega
 case OE=>intro j v x;rw[addr_add,Q7];exact(Cb c j<|RY _ _ _ u).T (t j v x)
 case OG=>exact s
 case OH=>unfold maxLen;omega
 case OI=>omega
 case OJ=>simp
 intro y F z A G;obtain⟨k,b,rfl⟩:∃k b,y=.slice k a b:=by
  rcases z.2 with⟨g,I⟩|⟨J,K,L,g,_⟩
  exact⟨none,0,by rw[g];congr 1;omega⟩;exact⟨_,_,by rw[g]⟩
 go_wp2;go_ret;exact⟨_,_,_,Z,((Sf _ w).alloc (QX _) _).grown A Uo<|by intro M B;simp[Value.ownBlock]at B;omega⟩
def ye(c a:Nat)(w)(i:nM 4 w c a)(C:a<=1000):Calls prog 113 #[.slice c a a] w<|H5 w:=by
 have⟨l,m,n,p,q⟩:=Rj BJ;have D:∀w d a e f b,(binOp .eql 228 (.slice d a e)<|.slice none f b).run prog w=.ok (.bool d.isNone) w:=λw d a e f b=>T3 w _ _ d a e f b underlying228;have⟨r,E,s,t⟩:=i.cells;have u:=i.lt
 go_enter func113,ntmps113
 go_wp2_with (at_builtin;refine Tm _ Z _ _ 228 Z w.heap.size 4 l _ 1 1 underlying228 m n p q Z Un _ _ _ Z (TD w #[] 0 (QX _) (QZ _) Z) ⟨c,0,none⟩ a a r Z ?OD ?OE ?OG ?OH ?OI ?OJ ?_);case OD=>omega
 case OE=>intro j v x;rw[addr_add,Q7];exact(Cb c j<|RY _ _ _ u).T (t j v x)
 case OG=>exact s
 case OH=>unfold maxLen;omega
 case OI=>omega
 case OJ=>simp
 intro y F z A G;obtain⟨k,b,rfl⟩:∃k b,y=.slice k a b:=by
  rcases z.2 with⟨g,I⟩|⟨J,K,L,g,_⟩
  exact⟨none,0,by rw[g];congr 1;omega⟩;exact⟨_,_,by rw[g]⟩
 go_wp2;go_ret;exact⟨_,_,_,Z,((Sf _ w).alloc (QX _) _).grown A Uo<|by intro M B;simp[Value.ownBlock]at B;omega⟩
def kJ.turn{l:Type}{f:Rel l}{m g:Nat}(ok:lh f g){i c e}{n:Nat}{j}{p:List l}(d:kJ f m g i c n j p)(t:∀k,j.ownBlock=some k->e.heap[k]?=c.heap[k]?)(u:∀b,i b->b<c->e.heap[b]?=c.heap[b]?)(v:c.heap.size<=e.heap.size):kJ f m g i e n j p:=by
 have⟨w,q,x⟩:=d.own;refine⟨w,?_,x.imp λC D y=>ok.M (ok.kv y λb a=>u b a.1 a.2.1) λb a=>⟨a.1,QO a.2.1 v,a.2.2⟩⟩;refine⟨q.1,?_⟩;rcases q.2 with d|⟨r,z,A,s,a,B,d⟩
 exact .inl d;refine .inr ⟨r,z,A,s,a,(t r<|by rw[s];rfl).T B,d⟩
def px.turn{j c b d e}{k:Nat}(f:px j c b e k)(l:∀a,e.ownBlock=some a->c<=a->a<b->d.heap[a]?=b.heap[a]?)(m:b.heap.size<=d.heap.size):px j c d e k:=by have⟨n,g,p⟩:=f;exact⟨n,g.turn rk (λa i=>l a i (g.ge a i).1 (g.ge a i).2) (λ_ f=>f.elim) m,p⟩
def wX{e f g}{m n:Nat}{p q}{r s:Nat}{i j}{k l:Type}{t:Rel k}{u:Rel l}{v:List k}{w:List l}(x:kJ t e r p g m i v)(y:kJ u f s q g n j w)(z:e≠f):∀b,i.ownBlock=some b->j.ownBlock≠some b:=by
 intro b c d;have⟨_,A,_⟩:=x.own;have⟨_,B,_⟩:=y.own;rcases A.2 with⟨rfl,_⟩|⟨D,E,F,rfl,_,C,_⟩
 simp[Value.ownBlock]at c;rcases B.2 with⟨rfl,_⟩|⟨G,I,J,rfl,_,a,_⟩
 simp[Value.ownBlock]at d;simp only[Value.ownBlock,Tn]at c d;subst c;subst d;rw[C]at a;injection a with a;injection a with _ a _;exact z a
structure qw(w3:RW)(cb bu bf bx nn:Nat)(f0 f1 f2 f3 hd own V6 V7 V8 nm:R0)(n:Nat)(x:RW):Prop where
 g:nX (λq=>q=cb\/q=bu\/q=bf\/q=bx) w3 x
 c:∃P vQ:R0,x.heap[cb]?=some (.cells #[f0,f1,f2,f3,hd,own,V6,V7,V8,P,vQ] 164)
 u:nM 230 x bu<|nn*3
 f:nM 4 x bf nn
 r:∃Vu Vf:R0,x.heap[bx]?=some (.cells #[nm,Vu,Vf] 172)/\px 227 w3 x Vu n/\px 228 w3 x Vf n
 l:cb<w3/\bu<w3/\bf<w3/\bx<w3
 ne:bu≠cb/\bf≠cb/\bx≠cb/\bu≠bx/\bf≠bx/\bu≠bf
def qw.to{v}{c d e i f:Nat}{j k l m n p q r s w}{x:Nat}{y b}(h:qw v c d e i f j k l m n p q r s w x y)(a:nX (λg=>g=c\/g=d\/g=e) y b)(z:∃P A:R0,b.heap[c]?=some (.cells #[j,k,l,m,n,p,q,r,s,P,A] 164))(B:nM 230 b d<|f*3)(C:nM 4 b e f):qw v c d e i f j k l m n p q r s w x b:=by have⟨L,M,N,O⟩:=h.l;have⟨Q,R,S,T,U,V⟩:=h.ne;have aa:=h.g.size;have⟨D,E,F,G,I⟩:=h.r;exact⟨h.g.T (a.M λg J=>by rcases J with h|h|h;exact .inl h;exact .inr<|.inl h;exact .inr<|.inr<|.inl h),z,B,C,⟨D,E,(a.B i Y Y).T F,G.turn (λt _ K u=>a.B t u Y) a.size,I.turn (λt _ K u=>a.B t u Y) a.size⟩,h.l,h.ne⟩
def qw.ku{c}{cb d e f g:Nat}{i j k l m p q r s t}{n:Nat}{x u}(a:qw c cb d e f g i j k l m p q r s t n x)(b:Below x x u):qw c cb d e f g i j k l m p q r s t n u:=by have⟨w,y,v⟩:=a.c;exact a.to (nX.of b) ⟨w,y,(b.B cb (QP.1 v).1).T v⟩ (a.u.kv<|b.B _ a.u.lt)<|a.f.kv<|b.B _ a.f.lt
def qw.unit{q}{a r s t u:Nat}{c d e f g i j k l v}{w:Nat}{x m}(b:qw q a r s t u c d e f g i j k l v w x)(n:x.grownBy m<|some a)(z:∃P A:R0,m.heap[a]?=some (.cells #[c,d,e,f,g,i,j,k,l,P,A] 164)):qw q a r s t u c d e f g i j k l v w m:=by have⟨B,C,F,G,I,J⟩:=b.ne;have y:∀p,p≠a->¬some p=some a:=λp D E=>D (by injection E);exact b.to (nX.grown n<|.inl Z) z (b.u.kv<|n.B _ b.u.lt<|y _ B)<|b.f.kv<|n.B _ b.f.lt<|y _ C
def qw.Ht{c}{d b e f g:Nat}{j k l m n p q r s t}{v:Nat}{w}(a:qw c d b e f g j k l m n p q r s t v w)(i:Nat){u}(x:u.oneCell'=true):qw c d b e f g j k l m n p q r s t v<|w.setCell (sa b i) u:=by have⟨y,z,A⟩:=a.c;have⟨B,D,E,F,G,C⟩:=a.ne;exact a.to (nX.set<|.inr<|.inl Z) ⟨y,z,(Q8 _ _ _ _<|S4 B).T A⟩ (a.u.set i x)<|a.f.kv<|Q8 _ _ _ _<|S4 C
def qw.tU{c}{d e b f g:Nat}{j k l m n p q r s t}{v:Nat}{w}(a:qw c d e b f g j k l m n p q r s t v w)(i:Nat){u}(x:u.oneCell'=true):qw c d e b f g j k l m n p q r s t v<|w.setCell (sa b i) u:=by have⟨y,z,A⟩:=a.c;have⟨D,B,E,F,G,C⟩:=a.ne;exact a.to (nX.set<|.inr<|.inr Z) ⟨y,z,(Q8 _ _ _ _<|S4 B).T A⟩ (a.u.kv<|Q8 _ _ _ _ C)<|a.f.set i x
structure tG(w3:RW)(cb bu bf bx nn:Nat)(f0 f1 f2 f3 hd own V6 V7 V8 nm:R0)(wr:RW)(Vu Vf:R0)(us fs:List Unit)(n:Nat)(b1 b2:Bool)(x:RW):Prop where
 g:nX (λq=>q=cb\/q=bu\/q=bf\/q=bx) w3 x
 c:∃P vQ:R0,x.heap[cb]?=some (.cells #[f0,f1,f2,f3,hd,own,V6,V7,V8,P,vQ] 164)
 u:nM 230 x bu<|nn*3
 f:nM 4 x bf nn
 r:∃a b:R0,x.heap[bx]?=some (.cells #[nm,a,b] 172)/\(b1=false->a=Vu)/\(b2=false->b=Vf)/\px 227 w3 x a (n+1)/\px 228 w3 x b (n+1)
 ou:kJ (yt 1) 227 1 (λ_=>False) x w3 Vu us
 Hi:kJ (yt 1) 228 1 (λ_=>False) x w3 Vf fs
 s:wr.heap.size<=x
 ws:w3.heap.size<=wr
 vu:∀z,Vu.ownBlock=some z->w3<=z/\z<wr
 vf:∀z,Vf.ownBlock=some z->w3<=z/\z<wr
 l:cb<w3/\bu<w3/\bf<w3/\bx<w3
 ne:bu≠cb/\bf≠cb/\bx≠cb/\bu≠bx/\bf≠bx/\bu≠bf
def tG.start{j}{k l m p q:Nat}{r s t u hd v w x y z}{n:Nat}{f}(a:qw j k l m p q r s t u hd v w x y z n f):∃(d e:R0) (b c:List Unit),b.length<=n/\c.length<=n/\tG j k l m p q r s t u hd v w x y z f d e b c n false false f:=by have⟨d,e,A,⟨b,g,B⟩,c,i,C⟩:=a.r;exact⟨d,e,b,c,B,C,a.g,a.c,a.u,a.f,⟨d,e,A,λ_=>Z,λ_=>Z,⟨b,g,Y⟩,c,i,Y⟩,g,i,QX _,a.g.size,g.ge,i.ge,a.l,a.ne⟩
def tG.done{b}{c d e f g:Nat}{i j k l m p q r s t v w x}{y z:List Unit}{n:Nat}{A B u}(a:tG b c d e f g i j k l m p q r s t v w x y z n A B u):qw b c d e f g i j k l m p q r s t (n+1) u:=by have⟨C,D,E,_,_,F,G⟩:=a.r;exact⟨a.g,a.c,a.u,a.f,⟨C,D,E,F,G⟩,a.l,a.ne⟩
def tG.ku{f}{cb g i c j:Nat}{k l m p q r s t u v w y z}{A B:List Unit}{n:Nat}{C D x E}(a:tG f cb g i c j k l m p q r s t u v w y z A B n C D x)(b:Below x x E):tG f cb g i c j k l m p q r s t u v w y z A B n C D E:=by have⟨I,J,F⟩:=a.c;have⟨K,L,G,M,N,O,P⟩:=a.r;exact⟨a.g.T<|nX.of b,⟨I,J,(b.B cb (QP.1 F).1).T F⟩,a.u.kv<|b.B _ a.u.lt,a.f.kv<|b.B _ a.f.lt,⟨K,L,(b.B c (QP.1 G).1).T G,M,N,O.turn (λd _ _ e=>b.B d e) b.size,P.turn (λd _ _ e=>b.B d e) b.size⟩,a.ou.ku rk b,a.Hi.ku rk b,QT a.s b.size,a.ws,a.vu,a.vf,a.l,a.ne⟩
def tG.alloc{a}{cb b c d e:Nat}{f g i j hd k l m p q r s t}{u v:List Unit}{n:Nat}{w y x}(z:tG a cb b c d e f g i j hd k l m p q r s t u v n w y x)(A):tG a cb b c d e f g i j hd k l m p q r s t u v n w y<|x.alloc A:=z.ku<|Ba _ _
def tG.drew{a}{cb b c d e:Nat}{f g i j hd k l m p q r s t}{u v:List Unit}{n:Nat}{w y x}(z:tG a cb b c d e f g i j hd k l m p q r s t u v n w y x):tG a cb b c d e f g i j hd k l m p q r s t u v n w y {x with drawn:=x.drawn+1}:=z.ku (Sf _ _).drew
def tG.O0{k}{s t u v w:Nat}{x y z A B C D E F G I f J}{g K:List Unit}{n:Nat}{p L l m}(a:tG k s t u v w x y z A B C D E F G I f J g K n p L l)(Q:p=false)(ai:g.length<=n)(d:l.grownBy m f.ownBlock)(M:kJ (yt 1) 227 1 (λ_=>False) m k f g):tG k s t u v w x y z A B C D E F G I f J g K n p L m:=by
 have⟨R,S,N⟩:=a.c;have⟨T,U,V,aa⟩:=a.l;have i:∀b,b<k.heap.size->¬some b=f.ownBlock:=λb c j=>W<|(a.vu b j.symm).1
 have ab:=wX a.ou a.Hi yJ;have⟨ac,ad,O,P,ae,aj,af,q,ag⟩:=a.r;have ah:=wX a.ou q yJ;have e:∀{b:Nat},b<l->¬some b=f.ownBlock->m.heap[b]?=l.heap[b]?:=λc r=>d.B _ c r;exact⟨⟨d.os.T a.g.os,d.tape.T a.g.tape,d.output.T a.g.output,QT a.g.size d.size,λb c r=>(e (QO c a.g.size)<|i b c).T<|a.g.B b c r⟩,⟨R,S,(e (QP.1 N).1<|i _ T).T N⟩,a.u.kv<|e a.u.lt<|i _ U,a.f.kv<|e a.f.lt<|i _ V,⟨ac,ad,(e (QP.1 O).1<|i _ aa).T O,P,ae,by rw[P Q];exact⟨g,M,Y⟩,af,q.turn rk (λb c=>e (q.ge b c).2 λj=>ah b j.symm c) (λ_ a=>a.elim) d.size,ag⟩,M,a.Hi.turn rk (λb c=>e (a.Hi.ge b c).2 λj=>ab b j.symm c) (λ_ a=>a.elim) d.size,QT a.s d.size,a.ws,a.vu,a.vf,a.l,a.ne⟩
def tG.O1{k}{s t u v w:Nat}{x y z A B C D E F G I J f}{K g:List Unit}{n:Nat}{L p l m}(a:tG k s t u v w x y z A B C D E F G I J f K g n L p l)(Q:p=false)(ai:g.length<=n)(d:l.grownBy m f.ownBlock)(M:kJ (yt 1) 228 1 (λ_=>False) m k f g):tG k s t u v w x y z A B C D E F G I J f K g n L p m:=by
 have⟨R,S,N⟩:=a.c;have⟨T,U,V,aa⟩:=a.l;have i:∀b,b<k.heap.size->¬some b=f.ownBlock:=λb c j=>W<|(a.vf b j.symm).1
 have ab:=wX a.Hi a.ou<|S4 yJ;have⟨ac,ad,O,ae,P,⟨af,q,ag⟩,aj⟩:=a.r;have ah:=wX a.Hi q<|S4 yJ;have e:∀{b:Nat},b<l->¬some b=f.ownBlock->m.heap[b]?=l.heap[b]?:=λc r=>d.B _ c r;exact⟨⟨d.os.T a.g.os,d.tape.T a.g.tape,d.output.T a.g.output,QT a.g.size d.size,λb c r=>(e (QO c a.g.size)<|i b c).T<|a.g.B b c r⟩,⟨R,S,(e (QP.1 N).1<|i _ T).T N⟩,a.u.kv<|e a.u.lt<|i _ U,a.f.kv<|e a.f.lt<|i _ V,⟨ac,ad,(e (QP.1 O).1<|i _ aa).T O,ae,P,⟨af,q.turn rk (λb c=>e (q.ge b c).2 λj=>ah b j.symm c) (λ_ a=>a.elim) d.size,ag⟩,by rw[P Q];exact⟨g,M,Y⟩⟩,a.ou.turn rk (λb c=>e (a.ou.ge b c).2 λj=>ab b j.symm c) (λ_ a=>a.elim) d.size,M,QT a.s d.size,a.ws,a.vu,a.vf,a.l,a.ne⟩
def tG.Ht{i}{k l m f n:Nat}{p q r s t u w x y z A B C}{D E:List Unit}{j:Nat}{G F c}(a:tG i k l m f n p q r s t u w x y z A B C D E j G F c){v}(I:px 227 i c v<|j+1):tG i k l m f n p q r s t u w x y z A B C D E j true F<|c.setCell (sd f) v:=by
 have⟨J,K,L⟩:=a.c;have⟨U,V,aa,ab⟩:=a.l;have⟨ac,ad,M,N,O,ae⟩:=a.ne;have⟨af,P,Q,ag,R,ah,S⟩:=a.r;have d:∀{b:Nat},b≠f->(c.setCell (sd f) v).heap[b]?=c.heap[b]?:=λe=>Q8 _ _ _ _ e;have g:c<=(c.setCell (sd f) v).heap.size:=by rw[QU];exact QX _
 exact⟨a.g.T<|nX.set<|.inr<|.inr<|.inr Z,⟨J,K,(d<|S4 M).T L⟩,a.u.kv<|d N,a.f.kv<|d O,⟨v,P,kr Q,λT=>(nomatch T),R,I.turn (λb _ e _=>d Y) g,S.turn (λb _ e _=>d Y) g⟩,a.ou.turn rk (λb e=>d<|W<|(a.vu b e).1) (λ_ a=>a.elim) g,a.Hi.turn rk (λb e=>d<|W<|(a.vf b e).1) (λ_ a=>a.elim) g,by rw[QU];exact a.s,a.ws,a.vu,a.vf,a.l,a.ne⟩
def tG.tU{i}{k l m f n:Nat}{p q r s t u w x y z A B C}{D E:List Unit}{j:Nat}{F G c}(a:tG i k l m f n p q r s t u w x y z A B C D E j F G c){v}(I:px 228 i c v<|j+1):tG i k l m f n p q r s t u w x y z A B C D E j F true<|c.setCell (rm f) v:=by
 have⟨J,K,L⟩:=a.c;have⟨U,V,aa,ab⟩:=a.l;have⟨ac,ad,M,N,O,ae⟩:=a.ne;have⟨P,af,Q,R,ag,S,ah⟩:=a.r;have d:∀{b:Nat},b≠f->(c.setCell (rm f) v).heap[b]?=c.heap[b]?:=λe=>Q8 _ _ _ _ e;have g:c<=(c.setCell (rm f) v).heap.size:=by rw[QU];exact QX _
 exact⟨a.g.T<|nX.set<|.inr<|.inr<|.inr Z,⟨J,K,(d<|S4 M).T L⟩,a.u.kv<|d N,a.f.kv<|d O,⟨P,v,kr Q,R,λT=>(nomatch T),S.turn (λb _ e _=>d Y) g,I.turn (λb _ e _=>d Y) g⟩,a.ou.turn rk (λb e=>d<|W<|(a.vu b e).1) (λ_ a=>a.elim) g,a.Hi.turn rk (λb e=>d<|W<|(a.vf b e).1) (λ_ a=>a.elim) g,by rw[QU];exact a.s,a.ws,a.vu,a.vf,a.l,a.ne⟩
def tG.N8{i}{j k l m n:Nat}{p q r s t u v w x y d e z}{A B:List Unit}{C:Nat}{D E b c}(F:tG i j k l m n p q r s t u v w x y d e z A B C D E b)(f:b.grownBy c e.ownBlock):b.heap.size<=c/\∀a,Nw d b a->c.heap[a]?=b.heap[a]?:=
 ⟨f.size,λa g=>f.B a g.2 λG=>Ul ((F.vu a G.symm).2) g.1⟩
def tG.N9{i}{j k l m n:Nat}{p q r s t u v w x y d z e}{A B:List Unit}{C:Nat}{D E b c}(F:tG i j k l m n p q r s t u v w x y d z e A B C D E b)(f:b.grownBy c e.ownBlock):b.heap.size<=c/\∀a,Nw d b a->c.heap[a]?=b.heap[a]?:=
 ⟨f.size,λa g=>f.B a g.2 λG=>Ul ((F.vf a G.symm).2) g.1⟩
def NK.set{c w}{a i:Nat}{u}(e:a<c.heap.size):w.heap.size<=(w.setCell (sa a i) u).heap.size/\∀b,Nw c w b->(w.setCell (sa a i) u).heap[b]?=w.heap[b]?:=
 ⟨by rw[QU];exact QX _,λb d=>Q8 _ _ _ _ (by have:=d.1;show b≠a;omega)⟩
def ux(b c:R0):Prop:=∀a,b.ownBlock=some a->c.ownBlock≠some a
def tA(b c:RW)(d:R0)(e:Nat):Prop:=∃a,kJ kM 9 1 (λ_=>False) c b d a/\a.length<=e
def tA.lt{a x vQ}{n:Nat}(b:tA a x vQ n):∀z,vQ.ownBlock=some z->a<=z/\z<x:=by have⟨d,c,_⟩:=b;exact c.ge
def tA.turn{e c f:RW}{g j:R0}{k l:Nat}(d:tA e c g k)(u:l<e)(n:c.heap.size<=f)(p:∀b,b<c.heap.size->b≠l->some b≠j.ownBlock->f.heap[b]?=c.heap[b]?)(q:∀a,g.ownBlock=some a->some a≠j.ownBlock):tA e f g k:=by have m:=d.lt;have⟨r,s,t⟩:=d;exact⟨r,s.turn kM.ok (λa i=>p a (m a i).2 (W<|(m a i).1)<|q a i) (λ_ d=>d.elim) n,t⟩
def tA.ku{a x b vQ}{n:Nat}(c:tA a x vQ n)(d:Below x x b):tA a b vQ n:=by have⟨e,f,g⟩:=c;exact⟨e,f.ku kM.ok d,g⟩
def Dd{b c}(d:ux b c):∀a,b.ownBlock=some a->some a≠c.ownBlock:=λa e f=>d a e f.symm
def Ai{b c}(d:ux b c):∀a,c.ownBlock=some a->some a≠b.ownBlock:=λa e f=>d a f.symm e
def Df{f c d:R0}{g:RW}{j:Nat}(k:ux f d)(e:c.ownBlock=f.ownBlock\/∃a,c.ownBlock=some a/\g<=a)(l:∀a,d.ownBlock=some a->j<=a/\a<g):ux c d:=λa b i=>by
 rcases e with e|⟨n,m,p⟩
 exact k a (e▸b) i;rw[m]at b;injection b with b;have:=(l a i).2;omega
def Dg{c f d:R0}{g:RW}{j:Nat}(k:ux c f)(e:d.ownBlock=f.ownBlock\/∃a,d.ownBlock=some a/\g<=a)(l:∀a,c.ownBlock=some a->j<=a/\a<g):ux c d:=λa i b=>by
 rcases e with e|⟨n,m,p⟩
 exact k a i<|e▸b;rw[m]at b;injection b with b;have:=(l a i).2;omega
structure se(w1:RW)(cb:Nat)(f0 f1 f2 f3 hd own P vQ V6 V7 V8:R0)(n6 n7 n8:Nat)(x:RW):Prop where
 g:w1.grownBy x<|some cb
 c:x.heap[cb]?=some (.cells #[f0,f1,f2,f3,hd,own,V6,V7,V8,P,vQ] 164)
 r6:tA w1 x V6 n6
 r7:tA w1 x V7 n7
 r8:tA w1 x V8 n8
 d:ux V6 V7/\ux V6 V8/\ux V7 V8
 lt:cb<w1
def se.ku{c}{cb:Nat}{d e f g i j P vQ k l m}{n p q:Nat}{x r}(a:se c cb d e f g i j P vQ k l m n p q x)(b:Below x x r):se c cb d e f g i j P vQ k l m n p q r:=
 ⟨ky a.g<|kK (kC b) _,(b.B cb (QP.1 a.c).1).T a.c,a.r6.ku b,a.r7.ku b,a.r8.ku b,a.d,a.lt⟩
def tA.up{a b c}{n m:Nat}(d:tA a b c n)(e:n<=m):tA a b c m:=by have⟨f,g,i⟩:=d;exact⟨f,g,QT i e⟩
def se.up{b}{c:Nat}{d e f g hd i P j k l m}{n p q:Nat}{r s t:Nat}{u}(a:se b c d e f g hd i P j k l m n p q u)(v:n<=r)(w:p<=s)(x:q<=t):se b c d e f g hd i P j k l m r s t u:=⟨a.g,a.c,a.r6.up v,a.r7.up w,a.r8.up x,a.d,a.lt⟩
def se.O2{g}{c:Nat}{i j k l m n P p q r s}{A u v:Nat}{d}{n':Nat}{t e b}(a:se g c i j k l m n P p q r s A u v e)(B:g.grownBy b<|some c)(C:b.heap[c]?=some (.cells #[i,j,k,l,m,n,d,r,s,P,p] 164))(D:kJ kM 9 1 (λ_=>False) b g d t)(E:t.length<=n')(w:d.ownBlock=q.ownBlock\/∃x,d.ownBlock=some x/\e<=x)(y:e.heap.size<=b)(z:∀f,f<e.heap.size->f≠c->some f≠q.ownBlock->b.heap[f]?=e.heap[f]?):se g c i j k l m n P p d r s n' u v b:=
 ⟨B,C,⟨t,D,E⟩,a.r7.turn a.lt y z<|Ai a.d.1,a.r8.turn a.lt y z<|Ai a.d.2.1,⟨Df a.d.1 w a.r7.lt,Df a.d.2.1 w a.r8.lt,a.d.2.2⟩,a.lt⟩
def se.O3{g}{c:Nat}{i j k l m n P p q r s}{u A v:Nat}{d}{n':Nat}{t e b}(a:se g c i j k l m n P p q r s u A v e)(B:g.grownBy b<|some c)(C:b.heap[c]?=some (.cells #[i,j,k,l,m,n,q,d,s,P,p] 164))(D:kJ kM 9 1 (λ_=>False) b g d t)(E:t.length<=n')(w:d.ownBlock=r.ownBlock\/∃x,d.ownBlock=some x/\e<=x)(y:e.heap.size<=b)(z:∀f,f<e.heap.size->f≠c->some f≠r.ownBlock->b.heap[f]?=e.heap[f]?):se g c i j k l m n P p q d s u n' v b:=
 ⟨B,C,a.r6.turn a.lt y z<|Dd a.d.1,⟨t,D,E⟩,a.r8.turn a.lt y z<|Ai a.d.2.2,⟨Dg a.d.1 w a.r6.lt,a.d.2.1,Df a.d.2.2 w a.r8.lt⟩,a.lt⟩
def se.O4{g}{c:Nat}{i j k l m n P p q r s}{u v A:Nat}{d}{n':Nat}{t e b}(a:se g c i j k l m n P p q r s u v A e)(B:g.grownBy b<|some c)(C:b.heap[c]?=some (.cells #[i,j,k,l,m,n,q,r,d,P,p] 164))(D:kJ kM 9 1 (λ_=>False) b g d t)(E:t.length<=n')(w:d.ownBlock=s.ownBlock\/∃x,d.ownBlock=some x/\e<=x)(y:e.heap.size<=b)(z:∀f,f<e.heap.size->f≠c->some f≠s.ownBlock->b.heap[f]?=e.heap[f]?):se g c i j k l m n P p q r d u v n' b:=
 ⟨B,C,a.r6.turn a.lt y z<|Dd a.d.2.1,a.r7.turn a.lt y z<|Dd a.d.2.2,⟨t,D,E⟩,⟨a.d.1,Dg a.d.2.1 w a.r6.lt,Dg a.d.2.2 w a.r7.lt⟩,a.lt⟩
structure Hu(S:Nat->Prop)(w:RW)(cb:Nat)(A1:RE)(n1 c1:Nat)(A3:RE)(m3 c3:Nat)(Ah:RE)(ch:Nat)(uO:List Fg)(kH:List Co)(nl:List<|List RK):Prop where
 h1:kz mI S w (A1,n1,c1) uO
 O5:n1<=50
 h3:kz (mr .u8) S w (A3,m3,c3) kH
 O6:m3<=3
 hh:kz pI S w (Ah,m3,ch) nl
 O7:∀(i:Nat) (x:Co),kH[i]?=some x->nl[i]?=some (lO [] x.lJ)
 lK:∀q,S q->q<w/\q≠cb
 rows:pH w
 ne:(7:Nat)≠cb
 gc:∀x∈kH,x.vars.length<=50/\x.lJ.length<=4/\∀hs∈x.lJ,hs.length<=100/\∀h∈hs,h.params.length<=1000/\kU Ds h.body<=12/\∀s∈h.body,CZ kH Ds s
def Mh(f:Nat->Prop)(w:RW)(a:Nat)(g i j k l:R0)(m:List RK)(n:Ending)(b:RW):Prop:=
 ∃c d e:R0,n=.returned (.agg #[c,d,e])/\kz kM f w c m/\d.oneCell'=true/\e.oneCell'=true/\w.grownBy b (some a)/\∃p q r s t u:R0,b.heap[a]?=some (.cells #[g,i,j,k,l,p,q,r,s,t,u] 164)
def ov.M{S T w v}(a:ov S w v)(b:∀q,S q->T q):ov T w v:=by have⟨c,d,e,f,g,i,j⟩:=a;exact⟨c,d,e,f,g,i.M kM.ok b,j⟩
def tA.strs{c a d}{e:Nat}(h:tA c a d e)(l:e<=1000):ov (λb=>c<=b/\b<a) a d:=by have⟨i,f,m⟩:=h;obtain⟨j,k,rfl,_⟩:=f.form;exact⟨j,_,k,i,Z,(f.sl kM.ok).M kM.ok λb g=>⟨by rcases g.1 with h|h;exact h.elim;exact h,g.2⟩,Y⟩
structure A9(S2:Nat->Prop)(w3:RW)(cb bu bf bx:Nat)(f3 hd own V6 V7 V8 nm:R0)(kH:List Co)(nl:List<|List RK)(o:Nat)(ns:List RK)(ve:R0)(lJ:List<|List Hd):Prop where
 s6:ov S2 w3 V6
 s7:ov S2 w3 V7
 s8:ov S2 w3 V8
 lK:∀q,S2 q->q<w3/\q≠cb/\q≠bu/\q≠bf/\q≠bx
 fx:FK S2 w3 f3 hd own kH nl o
 rows:pH w3
 OL:(7:Nat)≠cb/\(7:Nat)≠bu/\(7:Nat)≠bf/\(7:Nat)≠bx
 qN:kz kM S2 w3 nm ns
 vs:kz (nj .u8) S2 w3 ve lJ
def A9.to{e f g}{i j k l A B:Nat}{C D E m n p q r s t v w x}{o:Nat}{y z}(a:A9 e f i j k l m n p q r s t w x o y v z)(u:qw f i j k l A C D E m n p q r s t B g):A9 e g i j k l m n p q r s t w x o y v z:=by have c:∀b,e b->g.heap[b]?=f.heap[b]?:=λb d=>u.g.B b (a.lK b d).1<|W<|a.lK b d;exact⟨a.s6.kv c,a.s7.kv c,a.s8.kv c,λb d=>⟨QO (a.lK b d).1 u.g.size,(a.lK b d).2⟩,a.fx.kv c,a.rows.kv (u.g.B _ a.rows.lt<|W a.OL) u.g.size,a.OL,a.qN.kv kM.ok c,a.vs.kv (nj.ok .u8) c⟩
def A9.eq{c b d}{e f g i t v:Nat}{w x y j k l m n p q z A B}{o:Nat}{C D}(r:A9 c b e f g i j k l m n p q A B o C z D)(u:qw b e f g i t w x y j k l m n p q v d):∀a,c a->d.heap[a]?=b.heap[a]?:=λa s=>u.g.B a (r.lK a s).1<|W<|r.lK a s
def px.ku{T a x b vQ}{n:Nat}(d:px T a x vQ n)(c:Below x x b):px T a b vQ n:=d.turn (λe _ _ f=>c.B e f) c.size
def px.app{a d b c e f g}{n:Nat}{l:List Unit}(m:px a b c f n)(p:kJ (yt 1) d 1 (λ_=>False) c b g l)(q:a≠d)(i:c.grownBy e g.ownBlock):px a b e f n:=by have⟨r,j,s⟩:=m;exact px.turn ⟨r,j,s⟩ (λk t _ u=>i.B k u λv=>(wX j p q) k t v.symm) i.size
def px.set{c a d vQ u}{n b i:Nat}(e:px c a d vQ n)(g:b<a):px c a (d.setCell (sa b i) u) vQ n:=
 e.turn (λf _ j _=>Q8 _ _ _ _<|by show f≠b;omega) (by rw[QU];exact QX _)
def A9.cm{b c}{d l m n:Nat}{p q r e f g s t u v}{o:Nat}{w x}(a:A9 b c d l m n p q r e f g s u v o w t x){i}(y:ov b c i):zP b c d e f g i:=⟨a.s6,a.s7,a.s8,y,λj k=>⟨(a.lK j k).1,(a.lK j k).2.1⟩⟩
abbrev tl(a b c d e f g):=(λh i=>∃(j:RE) (k:Nat),h=.slice j (a+1) k/\kJ kM 9 1 (λl=>False) i b h (c++[d])/\(h.ownBlock=(Value.slice e a f).ownBlock\/∃m,h.ownBlock=some m/\g<=m):Go.Value->Go.World->Prop)
abbrev Bs(a b):=(λc d=>∃(e:Nat),c=.slice e 1 1/\Nw a d e/\d.heap[e]?=some (.cells #[tx b] 9):Go.Value->Go.World->Prop)
abbrev HH(a b c):=(.cells #[.slice a b c,Nl,Nl] 172:Go.Obj)
abbrev MY:=(λ(a:R0) (b:RW)=>∃(c:RE) (d e:Nat),a=.slice c d e:Go.Value->Go.World->Prop)
def C0:Rel<|List RK:=λd e f g=>∃a b c:R0,f=[a,b,c]/\kz kM d e a g/\b.oneCell'=true/\c.oneCell'=true
def C0.ok:lh C0 3:=
 ⟨Y,λ⟨_,_,_,a,_⟩=>by rw[a];rfl,λ⟨e,f,g,a,b,c,d⟩ l i=>by rw[a]at i;simp at i;rcases i with rfl|rfl|rfl;exact b.one;exact c;exact d,λ⟨e,f,g,a,b,c,d⟩ j=>⟨e,f,g,a,b.M kM.ok j,c,d⟩,λ⟨e,f,g,a,b,c,d⟩ k=>⟨e,f,g,a,b.kv kM.ok k,c,d⟩⟩
def yu(e:Nat->Prop)(a:RW)(f:Nat)(g:List<|List RK):Prop:=∃(b:RE) (c d:Nat),a.heap[f]?=some (.cells #[(b,c,d)] 168)/\kz C0 e a (b,c,d) g
structure yn(w5 wr:RW)(cb pb:Nat)(P:Nat->Prop)(f0 f1 f2 f3 hd vQ:R0)(xs:List<|List RK)(x:RW):Prop where
 g:nX (λq=>q=cb\/q=pb) w5 x
 c:∃a b c d e p q:R0,x.heap[cb]?=some (.cells #[f0,f1,f2,f3,hd,a,b,c,d,p,q] 164)
 p:x.heap[pb]?=some (.cells #[vQ] 168)
 own:kJ C0 172 3 P x w5 vQ xs
 s:wr.heap.size<=x
 v:∀z,vQ.ownBlock=some z->w5<=z/\z<wr
 ws:w5.heap.size<=wr
 lt:cb<w5/\pb<w5/\cb≠pb
 np:¬P cb/\¬P pb
def yn.grown{r s}{e pb:Nat}{P i j k l m vQ t x n}(a:yn r s e pb P i j k l m vQ t x)(f:x.grownBy n<|some e)(u:∃v b w d c p q:R0,n.heap[e]?=some (.cells #[i,j,k,l,m,v,b,w,d,p,q] 164)):yn r s e pb P i j k l m vQ t n:=by have⟨B,C,y⟩:=a.lt;have D:=a.ws;have z:∀g,g≠e->¬some g=some e:=λg A c=>A (by injection c);exact⟨a.g.T<|nX.grown f<|.inl Z,u,(f.B pb (QP.1 a.p).1<|z _<|S4 y).T a.p,a.own.grown C0.ok f (λg c=>by injection c with c;subst c;exact⟨a.np.1,λc=>W<|(a.v _ c.symm).1⟩),QT a.s f.size,a.v,a.ws,a.lt,a.np⟩
def yn.ku{a b}{cb pb:Nat}{P c d e f g vQ i x j}(k:yn a b cb pb P c d e f g vQ i x)(l:Below x x j):yn a b cb pb P c d e f g vQ i j:=by have⟨n,p,q,r,s,t,u,m⟩:=k.c;exact k.grown (kK (kC l) _) ⟨n,p,q,r,s,t,u,(l.B cb (QP.1 m).1).T m⟩
def yn.drew{a b}{cb pb:Nat}{P c d e f hd vQ g x}(i:yn a b cb pb P c d e f hd vQ g x):yn a b cb pb P c d e f hd vQ g {x with drawn:=x.drawn+1}:=i.ku (Sf _ _).drew
def yn.alloc{a b}{cb pb:Nat}{P c d e f hd vQ g x}(i:yn a b cb pb P c d e f hd vQ g x)(j):yn a b cb pb P c d e f hd vQ g<|x.alloc j:=i.ku<|Ba _ _
def Oa(b:RW)(c d:Nat)(P:Nat->Prop)(e f g i j:R0)(k:List<|List RK)(l:Nat)(a:RW):Prop:=∃(m:RE) (n:Nat),yn b a c d P e f g i j (m,l,n) k a
def yn.put{d t}{cb pb:Nat}{P k l m n p vQ u c}(a:yn d t cb pb P k l m n p vQ u c){e}{f g:Nat}{q}(r:kJ C0 172 3 P c d (.slice e f g) q):Oa d cb pb P k l m n p q f<|c.setCell pb<|.slice e f g:=by have⟨D,E,v⟩:=a.lt;have⟨w,x,y,z,b,A,B,C⟩:=a.c;have i:=r.ge;have F:=a.ws;refine⟨e,g,a.g.T<|nX.set<|.inr Z,⟨w,x,y,z,b,A,B,(Q8 _ _ _ _ v).T C⟩,kr a.p,r.grown C0.ok (kE c pb 0 _) (λj b=>by injection b with b;subst b;exact⟨a.np.2,λb=>W<|(i _ b.symm).1⟩),QX _,λj s=>⟨(i j s).1,by rw[QU];exact(i j s).2⟩,by rw[QU];exact a.g.size,a.lt,a.np⟩
def Hu.kv{S w w'}{cb:Nat}{d}{e f:Nat}{g}{i j:Nat}{k}{l:Nat}{m n p}(a:Hu S w cb d e f g i j k l m n p)(c:∀q,(S q\/q=(7:Nat))->w'.heap[q]?=w.heap[q]?)(r:w.heap.size<=w'.heap.size):Hu S w' cb d e f g i j k l m n p:=
 ⟨a.h1.kv mI.ok λq b=>c q<|.inl b,a.O5,a.h3.kv (mr.ok .u8) λq b=>c q<|.inl b,a.O6,a.hh.kv pI.ok λq b=>c q<|.inl b,a.O7,λq b=>⟨QO (a.lK q b).1 r,(a.lK q b).2⟩,a.rows.kv (c _<|.inr Z) r,a.ne,a.gc⟩
def lH.lI(a:Fl):List<|List RK:=a.kH.map λb=>lO [] b.lJ
abbrev lH.M9(c:Fl):Prop:=∀a∈c.kH,a.vars.length<=50/\a.lJ.length<=4/\∀d∈a.lJ,d.length<=100/\∀b∈d,b.params.length<=1000/\kU Ds b.body<=12/\∀e∈b.body,CZ c.kH Ds e
def Mk{e:RW}{a:Nat}{f:TypeId}{b c d:R0}(g:e.heap[a]?=some (.cells #[b,c,d] f)):(((e.setCell a b).setCell (sd a) c).setCell (rm a) d).heap[a]?=some (.cells #[b,c,d] f):=kr<|kr<|kr g
def Ob(b c:Nat)(d:Array R0)(e:Se)(f:Nat)(g a:RW):Prop:=
 Below f g a/\a.heap[c]?=some (.cells (d++ #[.string e,Em,Em,.int .i64 0]) 223 (0,0))/\a.heap[b]?=some (.cells #[Em,Em,.int .i64 0] 157)
def Ob.set{a cb b:Nat}{f g i j}(c:Ob a cb f g b i j)(d:cb≠a)(e:b<=a):Ob a cb f g b i<|((j.setCell a Em).setCell (sd a) Em).setCell (rm a)<|.int .i64 0:=
 ⟨kD (kD (kD c.1 e) e) e,(Q8 _ _ _ _ d).T<|(Q8 _ _ _ _ d).T<|(Q8 _ _ _ _ d).T c.2.1,Mk c.2.2⟩
structure K6(f:Fl):Prop where
 kQ:OB f.kQ
 ml:OC f.ml f.kH
 kH:f.kH.length<=3
 each:∀k c,f.kH[k]?=some c->Nf f.kQ f.kH k c
def tS.t{d:Fl}(a:tS d):K6 d:=by
 have⟨p,q,r,e,f,s,j,k,l,g,i⟩:=a.ex;have m:∀(c:Nat) (b:Co),d.kH[c]?=some b->b.name=kX c:=λc b a=>by have⟨_,_,_,_,_,_,a,_⟩:=(i c b a).ex;exact a
 exact⟨f.t e,nP.t l (W a.b.ml) j g m,Y,λt b n=>Nf.of f e Y i g.symm k n⟩
def mm{c b d}(e:b≠5):wH<|.cells c b d:=λ_ _ a=>by injection a with _ a _;exact e a
def tB(a b:Nat)(f:R0)(g:Int)(c:RK)(d:RW):Prop:=
 a<=b/\∃e,d.heap[b]?=some (.cells #[f,e,g] 179)/\d.ownsRow a 5 1 e c.length (Lib.byteCells c)
def sj(a b:Nat)(c:Int)(d:RK)(w:RW):Prop:=tB a b (.pointer none) c d w\/tB a b (.pointer b) c d w
structure ld(B b:Nat)(w w':RW):Prop where
 ku:Below B w w'
 kv:∀z o,w.heap[z]?=some o->z≠b->wH o->w'.heap[z]?=some o
def ld.refl(B b:Nat)(w):ld B b w w:=⟨Sf _ _,λ_ _ a _ _=>a⟩
def ld.T{B b:Nat}{w w' a}(c:ld B b w w')(k:ld B b w' a):ld B b w a:=⟨c.ku.T k.ku,λd o g e f=>k.kv d o (c.kv d o g e f) e f⟩
def ld.size{B b:Nat}{w w'}(a:ld B b w w'):w.heap.size<=w':=a.ku.size
def ld.old{a b:Nat}{w c}(f:a<=w.heap.size)(d:Below w.heap.size w c):ld a b w c:=⟨d.M f,λg o e _ _=>(d.B g (QP.1 e).1).T e⟩
def ld.drew{B b:Nat}{w w'}(a:ld B b w w'):ld B b w w'.drew:=⟨a.ku.drew,a.kv⟩
def wI{c:RW}{f b:Nat}{d:R0}{g:Nat}{i:List R0}{o:Obj}(j:c.ownsRow f 5 1 d g i)(a:c.heap[b]?=some o)(k:wH o):d.ownBlock≠some b:=by
 rcases j.2 with⟨rfl,_⟩|⟨m,n,p,rfl,_,l,_⟩
 simp[Value.ownBlock];intro e;simp only[Value.ownBlock,Tn]at e;subst e;rw[l]at a;injection a with a;exact k _ _ a.symm
def tB.lt{B b:Nat}{p}{n:Int}{c w}(a:tB B b p n c w):b<w:=by have⟨_,d,a,_⟩:=a;exact(QP.1 a).1
def sj.lt{B b:Nat}{n:Int}{a w}(h:sj B b n a w):b<w:=by rcases h with h|h;exact h.lt;exact h.lt
def tB.set{a b:Nat}{p c:R0}{n:Int}{d:RK}{w:RW}{i:Nat}{u:R0}{e:Array R0}(j:a<=b)(f:w.heap[b]?=some (.cells e 179 (0,0)))(k:e.setIfInBounds i u=#[p,c,.int .i64 n])(g:w.ownsRow a 5 1 c d.length<|Lib.byteCells d):tB a b p n d<|w.setCell (sa b i) u:=by refine⟨j,c,?_,?_⟩;have:=kr (i:=i) (u:=u) f;rw[k]at this;exact this;exact g.kept (row:=some b) ⟨Z,Z,Z,by simp[World.setCell],λq _ l=>Q8 _ _ _ _ λm=>l<|by simp[m]⟩<|Or.inr<|wI g f<|mm HI
def ld.set{a b i:Nat}{w u}(c:a<=b):ld a b w<|w.setCell (sa b i) u:=
 ⟨(Sf a w).setCell (p:=⟨b,i,none⟩) c _,λf o d e _=>(Q8 _ _ _ _ e).T d⟩
def tB.kv{B b:Nat}{p}{n:Int}{l w w'}(c:tB B b p n l w)(a:Below w w w'):tB B b p n l w':=by have e:=c.lt;have⟨f,d,g,i⟩:=c;exact⟨f,d,(a.B b e).T g,i.kept (row:=none) ⟨a.os,a.tape,a.output,a.size,λj k _=>a.B j k⟩ (by rcases hv:d.ownBlock with _|q;exact .inl Z;exact .inr Uo)⟩
def sj.kv{B b:Nat}{n:Int}{l w w'}(h:sj B b n l w)(a:Below w w w'):sj B b n l w':=by rcases h with h|h;exact .inl<|h.kv a;exact .inr<|h.kv a
def sj.any{a b:Nat}{c:Int}{d w}(h:sj a b c d w):∃p,tB a b p c d w:=by rcases h with h|h;exact⟨_,h⟩;exact⟨_,h⟩
def sizeBuilder:(prog.info? 177).map (·.size)=some 2:=Up
def infoByte:(prog.info? 5).map (λa=>(a.zero,a.size,a.bytes))=some (some<|.int .u8 0,1,1):=Up
def yg(b:Nat)(a)(f:a.cell? b=some (.pointer b)):
  Calls prog 171 #[.pointer b] a λc d=>c=.returned (.tuple #[])/\d=a:=by
 have⟨g,e,_⟩:=S0.1 sizeBuilder
 go_enter func171,ntmps171
 go_wp2;rw[Lib.run_neq_ptr_same a _ ue e];go_wp2
 go_end0
 exact⟨Z,Z⟩
def wC(a:Nat)(b)(j:b.cell? a=some (.pointer none))(c:b.shape? a=some (179,3))(k:b.frozen? ⟨a,0,none⟩=false):
  Calls prog 171 #[.pointer a] b λe g=>e=.returned (.tuple #[])/\g=b.setCell a (.pointer a):=by
 have⟨l,d,i⟩:=S0.1 sizeBuilder
 go_enter func171,ntmps171
 go_wp2;rw[Lib.run_to_unsafe b ⟨a,0,none⟩ ue Up d (by rw[i];decide) c<|by show 0<3;decide];simp only[Result.andThen];rw[TX];go_wp2;rw[run_callFunc_extern (f:=218) (fn:=Tryz.f218) Up Up Up Up (e:=Extern.AbiNoEscape.same) Up];rw[Lib.run_noEscape];simp only[Result.andThen];rw[TX];go_wp2;rw[Lib.run_from_unsafe b ⟨a,0,none⟩ Up ue d c liesBuilder];simp only[Result.andThen];rw[TX];go_wp2
 go_end0
 exact⟨Z,Z⟩
def tL(f b:Nat)(j:Int)(k c)(h:sj f b j k c):Calls prog 171 #[.pointer b] c λg d=>g=.returned (.tuple #[])/\tB f b (.pointer b) j k d/\ld f b c d:=by rcases h with⟨e,l,a,i⟩|h;apply(wC b c (kt a 0) (by simp[World.shape?,a])<|kx a 0).M;rintro g d ⟨rfl,rfl⟩;exact⟨Z,tB.set e a Z i,ld.set e⟩;have⟨e,l,a,i⟩:=h;apply(yg b c<|kt a 0).M;rintro g d ⟨rfl,rfl⟩;exact⟨Z,⟨e,l,a,i⟩,ld.refl _ _ _⟩
def ld.grown{a b:Nat}{w w' v}{f:Nat}{g}(d:w.ownsRow a 5 1 v f g)(e:w.grownBy w' v.ownBlock)(i:a<=w.heap.size):ld a b w w':=
 ⟨(Sf a w).grown e i λj k=>(d.lt j k).1,λl o c _ m=>(e.B l (QP.1 c).1 λn=>wI d c m n.symm).T c⟩
def rX(c b:Nat)(i:Int)(d a e)(y:sj c b i d e)(N:d.length+a.length<=140737488355328)(O:c<=e):
  Calls prog 114 #[.pointer b,tx a] e λf n=>∃p,f=.returned p/\(∃z,p=.tuple #[z,.nilIface])/\sj c b i (d++a) n/\ld c b e n:=by
 have⟨A,B,C,D,E⟩:=Rj infoByte
 go_enter func114,ntmps114
 go_wp21;apply(tL c b i d e y).M;rintro f F ⟨rfl,G,q⟩;have⟨r,P,g,j⟩:=G;have s:(⟨a.toArray⟩:Se).size=a.length:=UI
 have Q:=kt g 1;have I:=wI j g<|mm HI;have R:=q.size;go_wp2_with (at_builtin;refine Lib.wpList_append_own_string _ Z _ _ 22 9 Z c 5 A underlying22 underlying9 B C D E _ _ _ Z j ⟨a.toArray⟩ Z ?c3 ?c4 ?c5 ?_);case c3=>rw[s];unfold maxLen;omega
 case c4=>rw[s];omega
 case c5=>omega
 intro t J u v _;have K:=ld.grown (b:=b) j v Y;have L:b<F:=(QP.1 g).1;have k:=(v.B b L λf=>I f.symm).T g;have S:=kt k 1;have T:=kx k 1;have M:J.ownsRow c 5 1 t (d++a).length<|Lib.byteCells<|d++a:=by rw[T8,Q3];exact u
 obtain⟨w,x,l,rfl⟩:∃w x l,t=.slice w x l:=by
  rcases u.2 with⟨m,_⟩|⟨U,l,V,m,_⟩
  exact⟨_,_,_,m⟩;exact⟨_,_,_,m⟩
 go_wp2
 go_ret2
 exact⟨_,Z,⟨_,Z⟩,.inr<|tB.set r k Z M,(q.T K).T<|ld.set r⟩
def yF(a b:Nat)(m:Int)(c)(d:UInt8)(e)(x:sj a b m c e)(N:c.length+1<=140737488355328)(O:a<=e):
  Calls prog 115 #[.pointer b,.int .u8 (d.toNat:Int)] e λg q=>g=.returned .nilIface/\sj a b m (c++[d]) q/\ld a b e q:=by
 have⟨y,z,A,B,C⟩:=Rj infoByte
 go_enter func115,ntmps115
 go_wp21;apply(tL a b m c e x).M;rintro g f ⟨rfl,D,r⟩;have⟨s,P,i,n⟩:=D;have c1:=kt i 1;have E:=wI n i<|mm HI;have Q:=r.size;have R:=Lib.byteCells_length c;go_wp2_with (at_builtin;refine Tm _ Z _ _ 22 Z a 5 y (.int .u8 0) 1 1 underlying22 z A B C Z Un _ _ _ Z (n.alloc _) ⟨f,0,none⟩ 1 1 [.int .u8 (d.toNat:Int)] Z Z ?c1 ?c2 ?c3 ?c4 ?c5 ?_);case c1=>
  intro F G j
  match F,j with
  |0,j=>simp at j;subst j;simp[Addr.add]
 case c2=>intro G t;simp at t;subst t;rfl
 case c3=>unfold maxLen;omega
 case c4=>omega
 case c5=>simp;omega
 intro u I v w _;have J:b<f:=(QP.1 i).1;have p:=(w.B b Us λg=>E g.symm).T<|(Lib.alloc_old f _ b J).T i;have K:=(ld.old (b:=b) (show a<=f from Y)<|Ba f<|.cells #[.int .u8 (d.toNat:Int)] 5).T<|ld.grown (b:=b) (n.alloc _) w Us;have S:=kt p 1;have T:=kx p 1;have L:I.ownsRow a 5 1 u (c++[d]).length<|Lib.byteCells<|c++[d]:=by rw[T8,Q3];exact v
 obtain⟨k,l,rfl⟩:∃k l,u=.slice (sE k) (c.length+1) l:=by
  rcases v.2 with⟨_,U⟩|⟨k,l,V,M,_⟩
  omega;exact⟨k,l,M⟩
 go_wp2;go_ret;exact⟨Z,.inr<|tB.set s p Z L,(r.T K).T<|ld.set s⟩
def oH(c b:Nat)(d:Int)(e:Nat)(w:RW):Prop:=∃a:RK,sj c b d a w/\a.length<=e*200000
def ER(c:Nat->Prop)(d b:Nat)(w:RW):Prop:=∀a,c a->a<w/\a≠b/\(a<d\/∃o,w.heap[a]?=some o/\wH o)
def ER.eq{d}{e b:Nat}{w f}(i:ER d e b w)(g:ld e b w f):∀a,d a->f.heap[a]?=w.heap[a]?:=λa j=>by obtain⟨_,k,c|⟨o,c,l⟩⟩:=i a j;exact g.ku.B a c;rw[g.kv a o c k l,c]
def ER.to{c}{B b:Nat}{w w'}(i:ER c B b w)(d:ld B b w w'):ER c B b w':=λe j=>by have⟨k,f,a⟩:=i e j;refine⟨QO k d.size,f,a.imp id λ⟨o,a,g⟩=>⟨o,d.kv e o a f g,g⟩⟩
def ER.lt{S}{B b:Nat}{w}(a:ER S B b w):∀q,S q->q<w:=λq c=>(a q c).1
def oH.lt{B b k:Nat}{n:Int}{w}(a:oH B b n k w):B<=b/\b<w:=by have⟨d,a,_⟩:=a;have⟨e,c⟩:=a.any;exact⟨c.1,c.lt⟩
def oH.cell{d b k:Nat}{n:Int}{w}(a:oH d b n k w):w.cell? (rm b)=some (.int .i64 n)/\w.frozen? ⟨b,2,none⟩=false:=by have⟨e,a,_⟩:=a;have⟨f,_,g,c,_⟩:=a.any;exact⟨kt c 2,kx c 2⟩
def oH.kv{B b k:Nat}{n:Int}{w w'}(a:oH B b n k w)(c:Below w w w'):oH B b n k w':=by have⟨d,a,e⟩:=a;exact⟨d,a.kv c,e⟩
def oH.up{c b d m:Nat}{n:Int}{w}(a:oH c b n d w)(e:d<=m):oH c b n m w:=by have⟨f,a,g⟩:=a;exact⟨f,a,QT g<|Sh _ e⟩
def IH(C)(d c b v:Nat)(j D)(e E:Nat)(w)(x:oH d c (b:Int) v j)(g:kz kM C j (.slice D e E) w)(F:ER C d c j)(aj:b<=100)(ak:v<=100000000)(al:e<=9)(G:∀f∈w,f.length<=20000):
  Calls prog 69 #[.pointer c,.slice D e E] j λs I=>s=.returned (.tuple #[])/\oH d c (b:Int) (v+1) I/\ld d c j I:=by
 have am:=x.lt;have S:=x.cell.1;have T:=X g.len;have U:=X g;have J:=X F;have V:=X G;have⟨K,L,an⟩:=x;have aa:=X L;clear L g F G
 go_enter func69,ntmps69
 go_wp21;go_loopw [10] (λi wr=>∃(a:Nat) (k:RK),a<=b/\i=a/\sj d c (b:Int) k wr/\k.length=K.length+2*a/\ld d c j wr) (λi _=>b-(intOf i).toNat)
 .exact⟨0,K,QZ _,Z,aa.o,Z,ld.refl _ _ _⟩
 clear S;obtain⟨a,k,ao,rfl,M,ap,y⟩:=hrel;have N:=X M;have t:=X y;have aq:=y.size;clear M y;by_cases ar:a<b
 .obtain⟨ab,ac⟩:=nL a b;go_wp21;refine(rX d c (b:Int) k [32,32] wr N.o Us Y).M ?_;rintro s O ⟨z,rfl,⟨ad,rfl⟩,m,l⟩;have u:=X m;have n:=X l;clear m l;go_wp21;go_roundw
  .exact⟨a+1,_,Y,Ur,u.o,Us,t.o.T n.o⟩
  simp[intOf];omega
 obtain rfl:b=a:=Y;go_wp21;have ae:=X<|J.o.to t.o;have af:=X<|U.o.kv kM.ok<|J.o.eq t.o;obtain⟨ag,rfl⟩:=Xq wr;go_loopw [19] (λi wr=>∃(a:Nat) (p:RK),a<=e/\i=a/\sj d c (b:Int) p wr/\p.length<=k.length+20000*a/\ld d c ag wr) (λi _=>e-(intOf i).toNat)
 .exact⟨0,k,QZ _,Z,N.o,QX _,ld.refl _ _ _⟩
 obtain⟨a,p,au,rfl,m,av,l⟩:=hrel;have u:=X m;have n:=X l;have aw:=l.size;clear m l;by_cases ax:a<e
 .obtain⟨f,g⟩:∃f,w[a]?=some f:=Gx<|W T.o.1;obtain⟨ay,az,z,rfl,ah,P,Q⟩:=(af.o.kv kM.ok<|ae.o.eq n.o).ll kM.ok a f g;have ai:z=[tx f]:=P;subst ai;have R:=Q 0 _ Z;rw[Q1,Ry]at R;have aA:=V.o f<|QS g;obtain⟨ab,ac⟩:=nL a e;clear P Q ah g;go_wp21;apply(rX d c (b:Int) p f wr u.o Y Y).M;rintro s O ⟨z,rfl,⟨ad,rfl⟩,q,r⟩;have A:=X q;have B:=X r;clear q r R;go_wp21;go_roundw
  .exact⟨a+1,_,Y,Ur,A.o,by rw[Q3];omega,n.o.T B.o⟩
  simp[intOf];omega
 obtain rfl:e=a:=Y;go_wp21;apply(yF d c (b:Int) p 10 wr u.o Y Y).M;rintro s O ⟨rfl,q,r⟩;have A:=X q;have B:=X r;clear q r;go_wp21
 go_end0
 exact⟨Z,⟨_,A.o,by rw[Q3];simp;omega⟩,t.o.T<|n.o.T B.o⟩
def lH.JF:Nat->Ex->Prop
 |0,_=>False
 |d+1,e=>(e.op=1->0<=e.n/\e.n<100)/\∀a∈e.args,JF d a
def lH.TB:Nat->Nat
 |0=>0
 |d+1=>2*TB d+40
def lH.Fj:∀{d d':Nat},d<=d'->TB d<=TB d'
 |0,_,_=>Nat.zero_le _
 |d+1,0,h=>by omega
 |d+1,d'+1,h=>by have:=Fj (d:=d) (d':=d') Y;unfold TB;omega
def lH.HJ{a:Nat}(b:a<=6):TB a<=2520:=Fj b
def qf(b:Nat)(w:RW)(c:Ending)(d:RW):Prop:=∃a:Se,c=.returned (.string a)/\a.size<=b/\Below w w d
def Oc(c:Nat):Prop:=∀(d:Nat->Prop) (b:RW) (a:Ex) (j:Nat) (e:RE) (f g:Nat),lX b->kz (kP .u8 j) d b (e,f,g) a.args->mK c a->JF c a->(∀i,d i->i<b)->
 Calls prog 234 #[.agg #[.int .u8 a.op,tx a.name,a.n,(e,f,g)]] b (qf (TB c) b)
def PN(c:Nat):Prop:=∀(d:Nat->Prop) (b:RW) (a:Ex) (j:Nat) (e:RE) (f g:Nat) (k:Int),lX b->kz (kP .u8 j) d b (e,f,g) a.args->mK c a->JF c a->(∀i,d i->i<b)->
 Calls prog 245 #[.agg #[.int .u8 a.op,tx a.name,a.n,(e,f,g)],k] b (qf (TB c+2) b)
def D2:∀a b,shapes[a]?=some b->((a=6\/a=7\/a=9\/a=10)->b.1=1)/\((a≠1/\a≠5/\a≠6/\a≠7/\a≠8/\a≠9/\a≠10)->b.1=0\/b.1=2):=by
 intro a b c;have d:=(Q9.1 c).1;rw[xx]at d;have e:∀a:Fin 24,∀b,shapes[a.val]?=some b->((a.val=6\/a.val=7\/a.val=9\/a.val=10)->b.1=1)/\((a.val≠1/\a.val≠5/\a.val≠6/\a.val≠7/\a.val≠8/\a.val≠9/\a.val≠10)->b.1=0\/b.1=2):=by intro a b f;have g:∀a:Fin 24,((a.val=6\/a.val=7\/a.val=9\/a.val=10)->(shapes[a.val]?.map (·.1))=some 1)/\((a.val≠1/\a.val≠5/\a.val≠6/\a.val≠7/\a.val≠8/\a.val≠9/\a.val≠10)->(shapes[a.val]?.map (·.1))=some 0\/(shapes[a.val]?.map (·.1))=some 2):=Un;have:=g a;rw[f]at this;simpa using this
 exact e ⟨a,d⟩ b c
def Aj(i:Nat)(a:i<100):(⟨(Lib.decDigits i).toArray⟩:Se).size<=20:=by
 have b:∀i:Fin 100,(Lib.decDigits i.val).length<=20:=Uv
 have:=b ⟨i,a⟩;simpa[ByteArray.size]using this
def oC(a:RK):(⟨a.toArray⟩:Se).size=a.length:=UI
def tC(a):(⟨#[a]⟩:Se).size=1:=rfl
def zV{k b}{p e:Nat}{q}{t u:Nat}{c}(v:kz (kP .u8 p) k b (.slice q t u) c)(w:∀l∈c,mK e l)(x:∀l∈c,JF e l){i:Nat}(m:i<c.length):
  ∃a o d n f r g,q=some ⟨a,o,none⟩/\k a/\kz (kP .u8 n) k b (.slice f r g) d.args/\mK e d/\JF e d/\
   b.cell? ⟨a,o+i*4,none⟩=some (.int .u8 d.op)/\b.cell? ⟨a,o+i*4+1,none⟩=some (tx d.name)/\b.cell? ⟨a,o+i*4+2,none⟩=some (.int .i64 d.n)/\b.cell? ⟨a,o+i*4+3,none⟩=some (.slice f r g):=by
 have⟨a,o,B,y,z,A,j⟩:=v.ll (kP.ok .u8 p) i c[i]<|Q6 m;obtain⟨n,C,rfl,rfl,s⟩:=A.open;obtain⟨f,g,rfl,_⟩:=s.form;exact⟨a,o,c[i],n,f,_,g,y,z,s,w _<|S9 m,x _<|S9 m,j 0 _ Z,j 1 _ Z,j 2 _ Z,j 3 _ Z⟩
def zi(aH:Nat)(dO:aH<=6)(cb:∀r,aH=r+1->PN r/\Oc r):Oc aH:=by
 intro A b L dP bg B ae cA d cc cB cd;obtain⟨r,rfl⟩:∃r,aH=r+1:=by cases aH with|zero=>exact cc.elim|succ r=>exact⟨r,Z⟩
 have⟨cC,cD⟩:=cb r Z;have⟨⟨C,dQ,aI,bv,ce,cf,_,_⟩,cg⟩:=cc;have⟨bw,ch⟩:=cB;have ci:L.name.length<=12:=by cases q:C.2.1 with|true=>have bh:=ce q;unfold nr at bh;simp only[R1,SR]at bh;omega|false=>rw[cf q];simp
 have cj:=AE C<|QS aI;obtain⟨w,ck⟩:∃w:Nat,w=L.op.toNat:=⟨_,Z⟩
 have cl:L.op=(w:Int):=Y
 rw[<-ck]at aI;have cE:1<=w:=Y
 have⟨bx,bz⟩:=D2 w C aI;have bA:B=C.1:=W d.len.1
 have cm:=cA;have cF:=X aI;have cG:=d;have cn:=cd;have bi:=cg;have bj:=ch;have aA:=cC;have co:=cD;have cp:w=1->∃i:Nat,i<100/\L.n=(i:Int):=λdR=>by have⟨cq,dS⟩:=bw Y;exact⟨L.n.toNat,Y,Y⟩
 have cH:=X bv;have⟨aJ,bB⟩:=Xq L.name;have⟨bk,bC⟩:=Xq L.n;rw[cl,<-bB,<-bC];rw[<-bB]at ci;rw[<-bC]at cp;have⟨aB,bl,G,aC⟩:=C;simp only at bv cj bA bx bz;have cr:TB (r+1)=2*TB r+40:=Z;have ak:=X cr;have dT:TB r<=2520:=HJ Y;have av:(⟨aC.toArray⟩:Se).size<=10:=by rw[oC];exact cj
 have cs:(⟨aJ.toArray⟩:Se).size<=12:=by rw[oC];exact ci
 have bD:=(RC bx bz)
 have bm:=X bA;clear cd cg ch cb ce cf aI ck cl bw bB bC bv cr bx bz bA;have bn:=Ba b<|.cells #[.int .u8 (w:Int),tx aJ,bk,(bg,B,ae)] 203;have bE:=bn;have bo:=X<|QQ b<|.cells #[.int .u8 (w:Int),tx aJ,bk,(bg,B,ae)] 203;have aK:(b.alloc<|.cells #[.int .u8 (w:Int),tx aJ,bk,(bg,B,ae)] 203).heap.size=b+1:=Uo
 have cI:=X aK;clear aK
 go_enter func234,ntmps234
 go_upto_region 1 with fail;have aK:=cI.o;generalize b.alloc (.cells #[.int .u8 (w:Int),tx aJ,bk,(bg,B,ae)] 203)=cJ at*;have⟨x,an⟩:=Xq b.heap.size;rw[<-an]at bo bE aK⊢;have bF:=X an;clear an;have D:=kt bo.o 0;go_wp21;apply(sV w _ cF.o cE _<|cm.to<|bF.o▸bE).M;rintro aw ax ⟨rfl,an⟩;have cK:=an.size;have cL:=an;have cM:x<ax:=Y
 have⟨⟨D,I,J,K⟩,_⟩:=kN<|(an.B x Y).T bo.o;have cN:=X<|(an.B x Y).T bo.o;go_upto_region 2 with fail;have ab:=X<|QQ ax<|.cells #[.int .i64 (aB:Int),bl,G,.string ⟨aC.toArray⟩] 354;have bn:=Ba ax<|.cells #[.int .i64 (aB:Int),bl,G,.string ⟨aC.toArray⟩] 354;have ct:(ax.alloc<|.cells #[.int .i64 (aB:Int),bl,G,.string ⟨aC.toArray⟩] 354).heap.size=ax+1:=Uo
 have ac:=((bF.o▸bE:Below b b cJ).T<|(cL.T<|bn.M cK).M<|W bF.o)
 have af:=X<|(bn.B x cM).T cN.o;have⟨y,cu⟩:=Xq ax.heap.size;rw[<-cu]at ab ct⊢
 generalize ax.alloc (.cells #[.int .i64 (aB:Int),bl,G,.string ⟨aC.toArray⟩] 354)=t at*;obtain⟨dU,cv⟩:∃k:Se,k=⟨aC.toArray⟩:=⟨_,Z⟩
 rw[<-cv]at ab av;have al:x<t:=Y
 have am:y<t:=Y
 have ao:=(cm.to ac)
 have bp:=(cG.kv (kP.ok .u8 _) λk q=>ac.B k<|cn k q)
 have aD:=ac.size;have z:∀k,A k->k<t:=λk q=>W<|cn k q
 clear D I J K cu cv ct aK;have⟨⟨D,I,J,K⟩,_⟩:=kN af.o;have⟨⟨aE,aw,aF,aG⟩,_⟩:=kN ab.o;have bq:=X cH.o;by_cases cq:w=1
 .subst cq;obtain⟨i,cw,rfl⟩:=cp Z;go_wp21;apply(Tryz.strconv_FormatInt_10_small i cw _).M;rintro dV dW ⟨rfl,rfl⟩;go_wp21;go_ret;exact⟨_,Z,Ul (Aj i cw) ak.o,ac⟩
 by_cases cO:w=5\/w=8
 .rcases cO with rfl|rfl
  .go_wp21;go_ret;exact⟨_,Z,by rw[Rf];have:=ak.o;omega,ac⟩
  go_wp21;go_ret;exact⟨_,Z,by rw[Rf];have:=ak.o;omega,ac⟩
 by_cases cP:w=6\/w=7
 .have aL:aB=1:=bD.1 Y;have⟨f,p,u,ap,T,U,V,aM,aN,aO,aP,aQ,M,N,O,P⟩:=zV bp bi bj (i:=0)<|W bq.o;subst aM;have s:=z _ aN;have aq:=aO;have aa:=(RC aP aQ)
  rw[S5,Q1]at M N O P;have v:=(RC M<|RC N<|RC O P)
  clear M N O P;have cx:0<B:=W bm.o;rcases cP with rfl|rfl
  .go_wp21;clear D I J K aE aw aF aG;refine Ri (λC=>Below t t C) (mM [(Pp y 3),Tr,(Pp x 1),Tr,Tr,Tr,(Pp x 3),(·=.slice (some ⟨f,p,none⟩) B ae),(Pp f p),(·=.agg #[.int .u8 u.op,tx u.name,u.n,(T,U,V)]),Tr,Tr,Tr,Tr]) [(1,λj b=>∃c:Se,j=.string c/\c.size<=10),(3,λj b=>∃c:Se,j=.string c/\c.size<=12),(4,λj b=>∃c:Se,j=.string c/\c.size<=22),(5,λj b=>∃c:Se,j=.string c/\c.size<=23),(10,λj b=>∃c:Se,j=.string c/\c.size<=(TB r)),(11,λj b=>∃c:Se,j=.string c/\c.size<=(TB r+23)),(12,λj b=>∃c:Se,j=.string c/\c.size<=(TB r+24)),(13,λj b=>∃c:Se,j=.string c/\c.size<=(TB r+24))] ((Sf _ _).drew) ⟨?_,?_,?_,?_,?_,?_,?_,?_,?_,?_,?_,?_,?_,?_,trivial⟩ ?_;exact .f 3;intro l b a m d e n;exact .l 30 (d 0 _ Z Z) (kA ((a.B y am).T ab.o) 3 _ Z) ⟨trivial,a,Qc ⟨_,Z,av⟩<|Qa⟩;exact .f 1;intro l b a m d e n;exact .l 32 (d 2 _ Z Z) (kA ((a.B x al).T af.o) 1 _ Z) ⟨trivial,a,Qb<|Qc ⟨_,Z,cs⟩<|Qa⟩;intro l b a m d e n;obtain⟨aR,bG,cQ⟩:=kW e 0;have cR:=Sl 31 bG;obtain⟨aS,bH,cS⟩:=kW e 1;have cT:=Sl 33 bH;have ad:¬(9223372036854775807<aR.size+aS.size):=Y;exact .q (g:=⟨trivial,a,Q2<|Qc ⟨aR++aS,Z,by first|omega|(rw[Rf];(try simp only[tC]);omega)⟩<|Qa⟩);intro l b a m d e n;obtain⟨aT,bI,cU⟩:=kW e 2;have cV:=Sl 34 bI;have ad:¬(9223372036854775807<aT.size+1):=Y;exact .q (g:=⟨trivial,a,Q2<|Qb<|Qc ⟨aT++⟨#[91]⟩,Z,by first|omega|(rw[Rf];(try simp only[tC]);omega)⟩<|Qa⟩);exact .f 1;exact .l 36 6 λ_ a=>kA ((a.B x al).T af.o) 3 _ Z;intro l b a m d e n;have cW:=Sv 37 d 7;exact .q (g:=⟨Z,a,Qa⟩);intro l b a m d e n;have cX:=Sv 38 d 8;have D:=(Cb f p<|a.B f s).T v.1;have I:=(Cb f (p+1)<|a.B f s).T v.2.1;have J:=(Cb f (p+2)<|a.B f s).T v.2.2.1;have K:=(Cb f (p+3)<|a.B f s).T v.2.2.2;exact .q (g:=⟨Z,a,Qa⟩);intro l b a m d e n;have cY:=Sv 39 d 9;have Q:∀k,A k->k<b:=λk q=>Ul (z k q) a.size;refine .c (co A b u ap T U V (ao.to a) (aq.kv (kP.ok .u8 _) λk q=>a.B k<|z k q) aa.1 aa.2 Q) ?_;rintro L ay ⟨c,rfl,R,S⟩;exact⟨_,Z,⟨trivial,a.T<|S.M a.size,Q4<|Qc ⟨_,Z,R⟩<|Q2<|Qb<|Qe⟩⟩;intro l b a m d e n;obtain⟨aU,bJ,cZ⟩:=kW e 3;have da:=Sl 35 bJ;obtain⟨aV,bK,db⟩:=kW e 4;have dc:=Sl 40 bK;have ad:¬(9223372036854775807<aU.size+aV.size):=Y;exact .q (g:=⟨trivial,a,Q4<|Qb<|Qc ⟨aU++aV,Z,by first|omega|(rw[Rf];(try simp only[tC]);omega)⟩<|Qa⟩);intro l b a m d e n;obtain⟨aW,bL,dd⟩:=kW e 5;have de:=Sl 41 bL;have ad:¬(9223372036854775807<aW.size+1):=Y;exact .q (g:=⟨trivial,a,Q4<|Q2<|Qc ⟨aW++⟨#[93]⟩,Z,by first|omega|(rw[Rf];(try simp only[tC]);omega)⟩<|Qa⟩);intro l b a m d e n;obtain⟨df,bM,bN⟩:=kW e 6;exact .p 42 bM ⟨trivial,a,Q4<|Q2<|Qb<|Qc ⟨_,Z,bN⟩<|Qa⟩;intro aX ag ah ai E;have⟨aY,F,aZ⟩:=E _ (Mm 7 Z) Lb;have aj:Below t t ag:=ah;clear ai E;simp only[nx,F];clear F;go_wp21;go_ret;exact⟨_,Z,W ak.o,ac.T<|aj.M aD⟩
  go_wp21;clear D I J K aE aw aF aG;refine Ri (λC=>Below t t C) (mM [(Pp y 3),Tr,(Pp x 1),Tr,Tr,Tr,(Pp x 3),(·=.slice (some ⟨f,p,none⟩) B ae),(Pp f p),(·=.agg #[.int .u8 u.op,tx u.name,u.n,(T,U,V)]),Tr,Tr,Tr,Tr]) [(1,λj b=>∃c:Se,j=.string c/\c.size<=10),(3,λj b=>∃c:Se,j=.string c/\c.size<=12),(4,λj b=>∃c:Se,j=.string c/\c.size<=22),(5,λj b=>∃c:Se,j=.string c/\c.size<=23),(10,λj b=>∃c:Se,j=.string c/\c.size<=(TB r)),(11,λj b=>∃c:Se,j=.string c/\c.size<=(TB r+23)),(12,λj b=>∃c:Se,j=.string c/\c.size<=(TB r+24)),(13,λj b=>∃c:Se,j=.string c/\c.size<=(TB r+24))] ((Sf _ _).drew) ⟨?_,?_,?_,?_,?_,?_,?_,?_,?_,?_,?_,?_,?_,?_,trivial⟩ ?_;exact .f 3;intro l b a m d e n;exact .l 30 (d 0 _ Z Z) (kA ((a.B y am).T ab.o) 3 _ Z) ⟨trivial,a,Qc ⟨_,Z,av⟩<|Qa⟩;exact .f 1;intro l b a m d e n;exact .l 32 (d 2 _ Z Z) (kA ((a.B x al).T af.o) 1 _ Z) ⟨trivial,a,Qb<|Qc ⟨_,Z,cs⟩<|Qa⟩;intro l b a m d e n;obtain⟨aR,bG,cQ⟩:=kW e 0;have cR:=Sl 31 bG;obtain⟨aS,bH,cS⟩:=kW e 1;have cT:=Sl 33 bH;have ad:¬(9223372036854775807<aR.size+aS.size):=Y;exact .q (g:=⟨trivial,a,Q2<|Qc ⟨aR++aS,Z,by first|omega|(rw[Rf];(try simp only[tC]);omega)⟩<|Qa⟩);intro l b a m d e n;obtain⟨aT,bI,cU⟩:=kW e 2;have cV:=Sl 34 bI;have ad:¬(9223372036854775807<aT.size+1):=Y;exact .q (g:=⟨trivial,a,Q2<|Qb<|Qc ⟨aT++⟨#[91]⟩,Z,by first|omega|(rw[Rf];(try simp only[tC]);omega)⟩<|Qa⟩);exact .f 1;exact .l 36 6 λ_ a=>kA ((a.B x al).T af.o) 3 _ Z;intro l b a m d e n;have cW:=Sv 37 d 7;exact .q (g:=⟨Z,a,Qa⟩);intro l b a m d e n;have cX:=Sv 38 d 8;have D:=(Cb f p<|a.B f s).T v.1;have I:=(Cb f (p+1)<|a.B f s).T v.2.1;have J:=(Cb f (p+2)<|a.B f s).T v.2.2.1;have K:=(Cb f (p+3)<|a.B f s).T v.2.2.2;exact .q (g:=⟨Z,a,Qa⟩);intro l b a m d e n;have cY:=Sv 39 d 9;have Q:∀k,A k->k<b:=λk q=>Ul (z k q) a.size;refine .c (co A b u ap T U V (ao.to a) (aq.kv (kP.ok .u8 _) λk q=>a.B k<|z k q) aa.1 aa.2 Q) ?_;rintro L ay ⟨c,rfl,R,S⟩;exact⟨_,Z,⟨trivial,a.T<|S.M a.size,Q4<|Qc ⟨_,Z,R⟩<|Q2<|Qb<|Qe⟩⟩;intro l b a m d e n;obtain⟨aU,bJ,cZ⟩:=kW e 3;have da:=Sl 35 bJ;obtain⟨aV,bK,db⟩:=kW e 4;have dc:=Sl 40 bK;have ad:¬(9223372036854775807<aU.size+aV.size):=Y;exact .q (g:=⟨trivial,a,Q4<|Qb<|Qc ⟨aU++aV,Z,by first|omega|(rw[Rf];(try simp only[tC]);omega)⟩<|Qa⟩);intro l b a m d e n;obtain⟨aW,bL,dd⟩:=kW e 5;have de:=Sl 41 bL;have ad:¬(9223372036854775807<aW.size+1):=Y;exact .q (g:=⟨trivial,a,Q4<|Q2<|Qc ⟨aW++⟨#[93]⟩,Z,by first|omega|(rw[Rf];(try simp only[tC]);omega)⟩<|Qa⟩);intro l b a m d e n;obtain⟨df,bM,bN⟩:=kW e 6;exact .p 42 bM ⟨trivial,a,Q4<|Q2<|Qb<|Qc ⟨_,Z,bN⟩<|Qa⟩;intro aX ag ah ai E;have⟨aY,F,aZ⟩:=E _ (Mm 7 Z) Lb;have aj:Below t t ag:=ah;clear ai E;simp only[nx,F];clear F;go_wp21;go_ret;exact⟨_,Z,W ak.o,ac.T<|aj.M aD⟩
 by_cases bh:w=9\/w=10
 .have aL:aB=1:=bD.1 Y;have⟨f,p,u,ap,T,U,V,aM,aN,aO,aP,aQ,M,N,O,P⟩:=zV bp bi bj (i:=0)<|W bq.o;subst aM;have s:=z _ aN;have aq:=aO;have aa:=(RC aP aQ)
  rw[S5,Q1]at M N O P;have v:=(RC M<|RC N<|RC O P)
  clear M N O P;have cx:0<B:=W bm.o;rcases bh with rfl|rfl
  .go_wp21;clear D I J K aE aw aF aG;refine Ri (λC=>Below t t C) (mM [(Pp y 3),Tr,(Pp x 3),(·=.slice (some ⟨f,p,none⟩) B ae),(Pp f p),(·=.agg #[.int .u8 u.op,tx u.name,u.n,(T,U,V)]),(Pp y 2),(·=G),Tr,Tr,Tr]) [(1,λj b=>∃c:Se,j=.string c/\c.size<=10),(8,λj b=>∃c:Se,j=.string c/\c.size<=(TB r+2)),(9,λj b=>∃c:Se,j=.string c/\c.size<=(TB r+12)),(10,λj b=>∃c:Se,j=.string c/\c.size<=(TB r+12))] ((Sf _ _).drew) ⟨?_,?_,?_,?_,?_,?_,?_,?_,?_,?_,?_,trivial⟩ ?_;exact .f 3;intro l b a m d e n;exact .l 46 (d 0 _ Z Z) (kA ((a.B y am).T ab.o) 3 _ Z) ⟨trivial,a,Qc ⟨_,Z,av⟩<|Qa⟩;exact .f 1;exact .l 48 2 λ_ a=>kA ((a.B x al).T af.o) 3 _ Z;intro l b a m d e n;have dg:=Sv 49 d 3;exact .q (g:=⟨Z,a,Qa⟩);intro l b a m d e n;have dh:=Sv 50 d 4;have D:=(Cb f p<|a.B f s).T v.1;have I:=(Cb f (p+1)<|a.B f s).T v.2.1;have J:=(Cb f (p+2)<|a.B f s).T v.2.2.1;have K:=(Cb f (p+3)<|a.B f s).T v.2.2.2;exact .q (g:=⟨Z,a,Qa⟩);exact .f 3;exact .l 52 6 λ_ a=>kA ((a.B y am).T ab.o) 2 _ Z;intro l b a m d e n;have di:=Sv 51 d 5;have dj:=Sv 53 d 7;have Q:∀k,A k->k<b:=λk q=>Ul (z k q) a.size;refine .c (aA A b u ap T U V (G:Int) (ao.to a) (aq.kv (kP.ok .u8 _) λk q=>a.B k<|z k q) aa.1 aa.2 Q) ?_;rintro L ay ⟨c,rfl,R,S⟩;exact⟨_,Z,⟨trivial,a.T<|S.M a.size,Qb<|Qc ⟨_,Z,R⟩<|Q2<|Qe⟩⟩;intro l b a m d e n;obtain⟨ba,bO,dk⟩:=kW e 0;have dl:=Sl 47 bO;obtain⟨bb,bP,dm⟩:=kW e 1;have dn:=Sl 54 bP;have ad:¬(9223372036854775807<ba.size+bb.size):=Y;exact .q (g:=⟨trivial,a,Q2<|Qc ⟨ba++bb,Z,by first|omega|(rw[Rf];(try simp only[tC]);omega)⟩<|Qa⟩);intro l b a m d e n;obtain⟨dp,bQ,bR⟩:=kW e 2;exact .p 55 bQ ⟨trivial,a,Q2<|Qb<|Qc ⟨_,Z,bR⟩<|Qa⟩;intro aX ag ah ai E;have⟨aY,F,aZ⟩:=E _ (Mm 3 Z) Lb;have aj:Below t t ag:=ah;clear ai E;simp only[nx,F];clear F;go_wp21;go_ret;exact⟨_,Z,W ak.o,ac.T<|aj.M aD⟩
  go_wp21;clear D I J K aE aw aF aG;refine Ri (λC=>Below t t C) (mM [(Pp y 3),Tr,(Pp x 3),(·=.slice (some ⟨f,p,none⟩) B ae),(Pp f p),(·=.agg #[.int .u8 u.op,tx u.name,u.n,(T,U,V)]),(Pp y 2),(·=G),Tr,Tr,Tr]) [(1,λj b=>∃c:Se,j=.string c/\c.size<=10),(8,λj b=>∃c:Se,j=.string c/\c.size<=(TB r+2)),(9,λj b=>∃c:Se,j=.string c/\c.size<=(TB r+12)),(10,λj b=>∃c:Se,j=.string c/\c.size<=(TB r+12))] ((Sf _ _).drew) ⟨?_,?_,?_,?_,?_,?_,?_,?_,?_,?_,?_,trivial⟩ ?_;exact .f 3;intro l b a m d e n;exact .l 46 (d 0 _ Z Z) (kA ((a.B y am).T ab.o) 3 _ Z) ⟨trivial,a,Qc ⟨_,Z,av⟩<|Qa⟩;exact .f 1;exact .l 48 2 λ_ a=>kA ((a.B x al).T af.o) 3 _ Z;intro l b a m d e n;have dg:=Sv 49 d 3;exact .q (g:=⟨Z,a,Qa⟩);intro l b a m d e n;have dh:=Sv 50 d 4;have D:=(Cb f p<|a.B f s).T v.1;have I:=(Cb f (p+1)<|a.B f s).T v.2.1;have J:=(Cb f (p+2)<|a.B f s).T v.2.2.1;have K:=(Cb f (p+3)<|a.B f s).T v.2.2.2;exact .q (g:=⟨Z,a,Qa⟩);exact .f 3;exact .l 52 6 λ_ a=>kA ((a.B y am).T ab.o) 2 _ Z;intro l b a m d e n;have di:=Sv 51 d 5;have dj:=Sv 53 d 7;have Q:∀k,A k->k<b:=λk q=>Ul (z k q) a.size;refine .c (aA A b u ap T U V (G:Int) (ao.to a) (aq.kv (kP.ok .u8 _) λk q=>a.B k<|z k q) aa.1 aa.2 Q) ?_;rintro L ay ⟨c,rfl,R,S⟩;exact⟨_,Z,⟨trivial,a.T<|S.M a.size,Qb<|Qc ⟨_,Z,R⟩<|Q2<|Qe⟩⟩;intro l b a m d e n;obtain⟨ba,bO,dk⟩:=kW e 0;have dl:=Sl 47 bO;obtain⟨bb,bP,dm⟩:=kW e 1;have dn:=Sl 54 bP;have ad:¬(9223372036854775807<ba.size+bb.size):=Y;exact .q (g:=⟨trivial,a,Q2<|Qc ⟨ba++bb,Z,by first|omega|(rw[Rf];(try simp only[tC]);omega)⟩<|Qa⟩);intro l b a m d e n;obtain⟨dp,bQ,bR⟩:=kW e 2;exact .p 55 bQ ⟨trivial,a,Q2<|Qb<|Qc ⟨_,Z,bR⟩<|Qa⟩;intro aX ag ah ai E;have⟨aY,F,aZ⟩:=E _ (Mm 3 Z) Lb;have aj:Below t t ag:=ah;clear ai E;simp only[nx,F];clear F;go_wp21;go_ret;exact⟨_,Z,W ak.o,ac.T<|aj.M aD⟩
 have dX:((w:Int)==1)=false:=by rw[QW];omega
 have dY:((w:Int)==5)=false:=by rw[QW];omega
 have dZ:((w:Int)==6)=false:=by rw[QW];omega
 have ea:((w:Int)==7)=false:=by rw[QW];omega
 have eb:((w:Int)==8)=false:=by rw[QW];omega
 have ec:((w:Int)==9)=false:=by rw[QW];omega
 have ed:((w:Int)==10)=false:=by rw[QW];omega
 rcases bD.2 ⟨Y,Y,Y,Y,Y,Y,Y⟩with aL|aL
 .subst aL;go_wp21;go_ret;exact⟨_,Z,W ak.o,ac⟩
 have⟨f,p,u,ap,T,U,V,aM,aN,aO,aP,aQ,M,N,O,P⟩:=zV bp bi bj (i:=0)<|W bq.o;subst aM;have s:=z _ aN;have aq:=aO;have aa:=(RC aP aQ)
 rw[S5,Q1]at M N O P;have v:=(RC M<|RC N<|RC O P)
 clear M N O P;have⟨ee,ef,ar,cy,br,bs,bt,bS,eg,dq,dr,ds,M,N,O,P⟩:=zV bp bi bj (i:=1)<|W bq.o;injection bS with bS;injection bS with dt du;subst dt;subst du;have cz:=dq;have bu:=(RC dr ds)
 rw[Nat.one_mul]at M N O P;have au:=(RC M<|RC N<|RC O P)
 clear M N O P;subst aL;have cx:0<B:=W bm.o
 have bw:(1:Int)<(B:Int):=W bm.o
 by_cases bT:G=3
 .have dv:((G:Int)==3)=true:=(by rw[bT];rfl);have eh:IntKind.i64.wrap ((G:Int)+1)=4:=(by rw[bT];rfl);clear bT;go_wp21;clear D I J K aE aw aF aG;refine Ri (λC=>Below t t C) (mM [(Pp x 3),(·=.slice (some ⟨f,p,none⟩) B ae),(Pp f p),(·=.agg #[.int .u8 u.op,tx u.name,u.n,(T,U,V)]),(·=.int .i64 4),Tr,(Pp y 3),Tr,Tr,(Pp x 3),(·=.slice (some ⟨f,p,none⟩) B ae),(Pp f<|p+4),(·=.agg #[.int .u8 ar.op,tx ar.name,ar.n,(br,bs,bt)]),(Pp y 2),(·=G),Tr,Tr,Tr,Tr]) [(5,λj b=>∃c:Se,j=.string c/\c.size<=(TB r+2)),(7,λj b=>∃c:Se,j=.string c/\c.size<=10),(8,λj b=>∃c:Se,j=.string c/\c.size<=(TB r+12)),(15,λj b=>∃az:Int,j=az),(16,λj b=>∃c:Se,j=.string c/\c.size<=(TB r+2)),(17,λj b=>∃c:Se,j=.string c/\c.size<=(2*TB r+14)),(18,λj b=>∃c:Se,j=.string c/\c.size<=(2*TB r+14))] ((Sf _ _).drew) ⟨?_,?_,?_,?_,?_,?_,?_,?_,?_,?_,?_,?_,?_,?_,?_,?_,?_,?_,?_,trivial⟩ ?_;exact .f 1;exact .l 67 0 λ_ a=>kA ((a.B x al).T af.o) 3 _ Z;intro l b a m d e n;have dw:=Sv 68 d 1;exact .q (g:=⟨Z,a,Qa⟩);intro l b a m d e n;have dx:=Sv 69 d 2;have D:=(Cb f p<|a.B f s).T v.1;have I:=(Cb f (p+1)<|a.B f s).T v.2.1;have J:=(Cb f (p+2)<|a.B f s).T v.2.2.1;have K:=(Cb f (p+3)<|a.B f s).T v.2.2.2;exact .q (g:=⟨Z,a,Qa⟩);exact .f 5;intro l b a m d e n;have dy:=Sv 70 d 3;have dz:=Sv 71 d 4;have Q:∀k,A k->k<b:=λk q=>Ul (z k q) a.size;refine .c (aA A b u ap T U V 4 (ao.to a) (aq.kv (kP.ok .u8 _) λk q=>a.B k<|z k q) aa.1 aa.2 Q) ?_;rintro L ay ⟨c,rfl,R,S⟩;exact⟨_,Z,⟨trivial,a.T<|S.M a.size,Qc ⟨_,Z,R⟩<|Q4<|Q2<|Qe⟩⟩;exact .f 3;intro l b a m d e n;exact .l 73 (d 6 _ Z Z) (kA ((a.B y am).T ab.o) 3 _ Z) ⟨trivial,a,Qb<|Qc ⟨_,Z,av⟩<|Qa⟩;intro l b a m d e n;obtain⟨bc,bU,dA⟩:=kW e 0;have dB:=Sl 72 bU;obtain⟨bd,bV,dC⟩:=kW e 1;have dD:=Sl 74 bV;have ad:¬(9223372036854775807<bc.size+bd.size):=Y;exact .q (g:=⟨trivial,a,Q2<|Qc ⟨bc++bd,Z,by first|omega|(rw[Rf];(try simp only[tC]);omega)⟩<|Qa⟩);exact .f 1;exact .l 76 9 λ_ a=>kA ((a.B x al).T af.o) 3 _ Z;intro l b a m d e n;have dE:=Sv 77 d 10;exact .q (g:=⟨Z,a,Qa⟩);intro l b a m d e n;have dF:=Sv 78 d 11;have D:=(Cb f (p+4)<|a.B f s).T au.1;have I:=(Cb f (p+4+1)<|a.B f s).T au.2.1;have J:=(Cb f (p+4+2)<|a.B f s).T au.2.2.1;have K:=(Cb f (p+4+3)<|a.B f s).T au.2.2.2;exact .q (g:=⟨Z,a,Qa⟩);exact .f 3;exact .l 80 13 λ_ a=>kA ((a.B y am).T ab.o) 2 _ Z;intro l b a m d e n;have dG:=Sv 81 d 14;exact .q (g:=⟨trivial,a,Q2<|Qb<|Qc ⟨_,Z⟩<|Qa⟩);intro l b a m d e n;have dH:=Sv 79 d 12;obtain⟨az,bW⟩:=kW e 3;have dI:=Sl 82 bW;have Q:∀k,A k->k<b:=λk q=>Ul (z k q) a.size;refine .c (aA A b ar cy br bs bt az (ao.to a) (cz.kv (kP.ok .u8 _) λk q=>a.B k<|z k q) bu.1 bu.2 Q) ?_;rintro L ay ⟨c,rfl,R,S⟩;exact⟨_,Z,⟨trivial,a.T<|S.M a.size,Q4<|Qc ⟨_,Z,R⟩<|Q2<|Qe⟩⟩;intro l b a m d e n;obtain⟨be,bX,dJ⟩:=kW e 2;have dK:=Sl 75 bX;obtain⟨bf,bY,dL⟩:=kW e 4;have dM:=Sl 83 bY;have ad:¬(9223372036854775807<be.size+bf.size):=Y;exact .q (g:=⟨trivial,a,Q4<|Qb<|Qc ⟨be++bf,Z,by first|omega|(rw[Rf];(try simp only[tC]);omega)⟩<|Qa⟩);intro l b a m d e n;obtain⟨dN,bZ,ca⟩:=kW e 5;exact .p 84 bZ ⟨trivial,a,Q4<|Q2<|Qc ⟨_,Z,ca⟩<|Qa⟩;intro aX ag ah ai E;have⟨aY,F,aZ⟩:=E _ (Mm 6 Z) Lb;have aj:Below t t ag:=ah;clear ai E;simp only[nx,F];clear F;go_wp21;go_ret;exact⟨_,Z,W ak.o,ac.T<|aj.M aD⟩
 have dv:((G:Int)==3)=false:=by rw[QW];omega
 go_wp21;clear D I J K aE aw aF aG;refine Ri (λC=>Below t t C) (mM [(Pp x 3),(·=.slice (some ⟨f,p,none⟩) B ae),(Pp f p),(·=.agg #[.int .u8 u.op,tx u.name,u.n,(T,U,V)]),(·=G),Tr,(Pp y 3),Tr,Tr,(Pp x 3),(·=.slice (some ⟨f,p,none⟩) B ae),(Pp f<|p+4),(·=.agg #[.int .u8 ar.op,tx ar.name,ar.n,(br,bs,bt)]),(Pp y 2),(·=G),Tr,Tr,Tr,Tr]) [(5,λj b=>∃c:Se,j=.string c/\c.size<=(TB r+2)),(7,λj b=>∃c:Se,j=.string c/\c.size<=10),(8,λj b=>∃c:Se,j=.string c/\c.size<=(TB r+12)),(15,λj b=>∃az:Int,j=az),(16,λj b=>∃c:Se,j=.string c/\c.size<=(TB r+2)),(17,λj b=>∃c:Se,j=.string c/\c.size<=(2*TB r+14)),(18,λj b=>∃c:Se,j=.string c/\c.size<=(2*TB r+14))] ((Sf _ _).drew) ⟨?_,?_,?_,?_,?_,?_,?_,?_,?_,?_,?_,?_,?_,?_,?_,?_,?_,?_,?_,trivial⟩ ?_;exact .f 1;exact .l 67 0 λ_ a=>kA ((a.B x al).T af.o) 3 _ Z;intro l b a m d e n;have dw:=Sv 68 d 1;exact .q (g:=⟨Z,a,Qa⟩);intro l b a m d e n;have dx:=Sv 69 d 2;have D:=(Cb f p<|a.B f s).T v.1;have I:=(Cb f (p+1)<|a.B f s).T v.2.1;have J:=(Cb f (p+2)<|a.B f s).T v.2.2.1;have K:=(Cb f (p+3)<|a.B f s).T v.2.2.2;exact .q (g:=⟨Z,a,Qa⟩);exact .f 5;intro l b a m d e n;have dy:=Sv 70 d 3;have dz:=Sv 71 d 4;have Q:∀k,A k->k<b:=λk q=>Ul (z k q) a.size
 refine .c (aA A b u ap T U V (G:Int) (ao.to a) (aq.kv (kP.ok .u8 _) λk q=>a.B k<|z k q) aa.1 aa.2 Q) ?_;rintro L ay ⟨c,rfl,R,S⟩;exact⟨_,Z,⟨trivial,a.T<|S.M a.size,Qc ⟨_,Z,R⟩<|Q4<|Q2<|Qe⟩⟩;exact .f 3;intro l b a m d e n;exact .l 73 (d 6 _ Z Z) (kA ((a.B y am).T ab.o) 3 _ Z) ⟨trivial,a,Qb<|Qc ⟨_,Z,av⟩<|Qa⟩;intro l b a m d e n;obtain⟨bc,bU,dA⟩:=kW e 0;have dB:=Sl 72 bU;obtain⟨bd,bV,dC⟩:=kW e 1;have dD:=Sl 74 bV;have ad:¬(9223372036854775807<bc.size+bd.size):=Y
 exact .q (g:=⟨trivial,a,Q2<|Qc ⟨bc++bd,Z,by first|omega|(rw[Rf];(try simp only[tC]);omega)⟩<|Qa⟩);exact .f 1;exact .l 76 9 λ_ a=>kA ((a.B x al).T af.o) 3 _ Z;intro l b a m d e n;have dE:=Sv 77 d 10;exact .q (g:=⟨Z,a,Qa⟩);intro l b a m d e n;have dF:=Sv 78 d 11;have D:=(Cb f (p+4)<|a.B f s).T au.1;have I:=(Cb f (p+4+1)<|a.B f s).T au.2.1;have J:=(Cb f (p+4+2)<|a.B f s).T au.2.2.1;have K:=(Cb f (p+4+3)<|a.B f s).T au.2.2.2;exact .q (g:=⟨Z,a,Qa⟩);exact .f 3;exact .l 80 13 λ_ a=>kA ((a.B y am).T ab.o) 2 _ Z;intro l b a m d e n;have dG:=Sv 81 d 14;exact .q (g:=⟨trivial,a,Q2<|Qb<|Qc ⟨_,Z⟩<|Qa⟩);intro l b a m d e n;have dH:=Sv 79 d 12;obtain⟨az,bW⟩:=kW e 3;have dI:=Sl 82 bW;have Q:∀k,A k->k<b:=λk q=>Ul (z k q) a.size
 refine .c (aA A b ar cy br bs bt az (ao.to a) (cz.kv (kP.ok .u8 _) λk q=>a.B k<|z k q) bu.1 bu.2 Q) ?_;rintro L ay ⟨c,rfl,R,S⟩;exact⟨_,Z,⟨trivial,a.T<|S.M a.size,Q4<|Qc ⟨_,Z,R⟩<|Q2<|Qe⟩⟩;intro l b a m d e n;obtain⟨be,bX,dJ⟩:=kW e 2;have dK:=Sl 75 bX;obtain⟨bf,bY,dL⟩:=kW e 4;have dM:=Sl 83 bY;have ad:¬(9223372036854775807<be.size+bf.size):=Y
 exact .q (g:=⟨trivial,a,Q4<|Qb<|Qc ⟨be++bf,Z,by first|omega|(rw[Rf];(try simp only[tC]);omega)⟩<|Qa⟩);intro l b a m d e n;obtain⟨dN,bZ,ca⟩:=kW e 5;exact .p 84 bZ ⟨trivial,a,Q4<|Q2<|Qc ⟨_,Z,ca⟩<|Qa⟩;intro aX ag ah ai E;have⟨aY,F,aZ⟩:=E _ (Mm 6 Z) Lb;have aj:Below t t ag:=ah;clear ai E;simp only[nx,F];clear F;go_wp21;go_ret;exact⟨_,Z,W ak.o,ac.T<|aj.M aD⟩
abbrev HG(a b c d e f):=(.cells #[.int .u8 (a:Int),tx b,c,.slice d e f] 203:Go.Obj)
abbrev NO(a b c d):=(.cells #[.int .i64 (a:Int),b,c,.string ⟨d⟩] 354:Go.Obj)
def AG(d:Nat)(S:d<=6)(T:Oc d):PN d:=by
 intro U a e V f g i aa I ab s ac J;have K:=(λ(L:RW) (t:Below a a L)=>T U L e V f g i (I.to t) (ab.kv (kP.ok .u8 _) λn u=>t.B n<|J n u) s ac λn u=>QO (J n u) t.size)
 obtain⟨b,j,v,ad,M⟩:∃(b:Nat) (j:Nat×Bool×Nat×RK),shapes[b]?=some j/\1<=b/\e.op=(b:Int):=by
  cases d with
  |zero=>exact s.elim
  |succ d=>have⟨⟨j,ae,v,_⟩,_⟩:=s;exact⟨e.op.toNat,j,v,Y,Y⟩
 have af:=X v;have⟨p,w⟩:=Xq e.name;have⟨q,x⟩:=Xq e.n;rw[M,<-w,<-x];rw[M,<-w,<-x]at K;have⟨y,z,r,A⟩:=j;have ar:TB d<=2520:=HJ S;clear w x;have B:=Ba a<|HG b p q f g i;have C:=X<|QQ a<|HG b p q f g i;have D:(a.alloc<|HG b p q f g i).heap.size=a+1:=Uo
 have ag:=X D
 go_enter func245,ntmps245
 go_upto_region 1 with fail;have D:=ag.o;generalize a.alloc (HG b p q f g i)=ah at*;have⟨E,c⟩:=Xq a.heap.size;rw[<-c]at C B D⊢;have F:=X c;clear c;have ai:=kt C.o 0;go_wp21;apply(sV b _ af.o ad _<|I.to<|F.o▸B).M;rintro aj k ⟨rfl,c⟩;have au:=c.size;have ak:E<k:=Y
 have al:=X<|(c.B E Y).T C.o;have N:=((F.o▸B:Below a a ah).T<|c.M<|W F.o)
 go_upto_region 2 with fail;have O:=X<|QQ k<|NO y z r A.toArray;have P:=Ba k<|NO y z r A.toArray
 have l:=(N.T<|P.M<|W N.size)
 have am:=X<|(P.B E ak).T al.o;have⟨av,Q⟩:=Xq k.heap.size;rw[<-Q]at O⊢;generalize k.alloc (NO y z r A.toArray)=an at*
 clear Q;have⟨⟨ai,aw,ax,ay⟩,_⟩:=kN am.o;have⟨⟨az,aj,aA,aB⟩,_⟩:=kN O.o;have R:=(K an l)
 by_cases aC:(r:Int)<aa
 .go_wp21;apply R.M;rintro ao ap ⟨m,rfl,aq,G⟩;have ae:¬(9223372036854775807<1+m.size):=Y;have aD:((⟨#[40]⟩:Se)++m).size=1+m.size:=(by rw[Rf,tC]);have aE:¬(9223372036854775807<((⟨#[40]⟩:Se)++m).size+1):=Y;go_wp21;go_ret;refine⟨_,Z,?_,l.T<|G.M l.size⟩;simp only[Rf,tC];omega
 go_wp21;apply R.M;rintro ao ap ⟨m,rfl,aq,G⟩;go_wp21;go_ret;exact⟨_,Z,Y,l.T<|G.M l.size⟩
def xk:∀d,d<=6->Oc d
 |0,h=>zi 0 h λa b=>by omega
 |d+1,h=>zi (d+1) h λa b=>by obtain rfl:d=a:=Y;exact⟨AG d Y<|xk d Y,xk d Y⟩
def lH.FE:Nat->St->Prop
 |0,_=>False
 |d+1,s=>(∀b∈s.lp,JF De b)/\(∀a∈s.th,FE d a)/\∀a∈s.el,FE d a
def lH.yl:Nat->Nat
 |0=>0
 |d+1=>12*(3+2*yl d)
def qg(a b:Nat)(d:Int)(e:Nat)(w:RW)(f:Ending)(c:RW):Prop:=f=.returned (.tuple #[])/\oH a b d e c/\ld a b w c
def lX.wr{a b:Nat}{w w'}(c:lX w)(d:ld a b w w')(e:Ls a):lX w':=c.ku d.ku e
def tD(b:RW)(c d:Nat):Prop:=∃a:List Se,a.length=d/\(∀e∈a,e.size<=2520)/\b.heap[c]?=some (.cells (a.map Value.string).toArray 9 (0,0))
def tD.lt{w}{b n:Nat}(a:tD w b n):b<w:=by have⟨_,_,_,a⟩:=a;exact(QP.1 a).1
def tD.kv{w w'}{b n:Nat}(a:tD w b n)(c:w'.heap[b]?=w.heap[b]?):tD w' b n:=by have⟨d,e,f,g⟩:=a;exact⟨d,e,f,c.T g⟩
def tD.set{w}{b n:Nat}(h:tD w b n)(i:Nat){a}(c:a.size<=2520):tD (w.setCell (sa b i)<|.string a) b n:=by have⟨d,e,f,g⟩:=h;refine⟨d.set i a,by simpa using e,λj k=>?_,?_⟩;rcases TK k with h|h;exact f j h;rw[h];exact c;have:=kr (i:=i) (u:=.string a) g;rw[this];simp[List.map_set]
def Gl(a:Nat)(i:a<=1000)(b):(Instr.makeSlice 76 (.int .i64 (a:Int))<|.int .i64 (a:Int)).run prog b=.ok (.slice b a a) (b.alloc<|GO a):=by have⟨d,e,f,c,g⟩:=Rj rK;have:=Ss (P:=prog) b 76 9 d _ underlying76 e f .i64 .i64 (a:Int) (a:Int) Y (SE _) (by rw[c];simp;omega) (by rw[g];omega) Y;rw[c,Ry,RR]at this;exact this
def tD.made{b}{c a:Nat}(d:b.heap[c]?=some (.cells (madeCells #[Em] a) 9 (0,0))):tD b c a:=by
 refine⟨List.replicate a ⟨#[]⟩,Uo,λj e=>by rw[List.eq_of_mem_replicate e];decide,?_⟩;rw[d];have f:madeCells #[Value.string ⟨#[]⟩] a=((List.replicate a (⟨#[]⟩:Se)).map Value.string).toArray:=by apply Array.ext';rw[List.map_replicate];refine List.eq_replicate_iff.2 ⟨by rw[RV,SM],λg i=>?_⟩;have:=xj _ a Uo g i;simpa using this
 rw[f]
def Lg{c d:Type}(b:c->d):∀a:List c,(a.map λe=>[b e]).flatten=a.map b
 |[]=>rfl
 |_::a=>by simp[Lg b a]
def Ml{d:RW}{b:Nat}{a:List Se}(e:d.heap[b]?=some (.cells (a.map Value.string).toArray 9 (0,0)))(g:a.length<=9):kz kM (λi=>i=b) d (b,a.length,a.length)<|a.map λc=>c.data.toList:=by
 refine⟨some ⟨b,0,none⟩,a.length,a.map λc=>[Value.string c],by rw[RN],by rw[RN];exact QX _,Y,λ_=>⟨b,0,Z,Z,λj k f=>?_⟩,?_⟩;rw[Q7];refine kA e j k ?_;rw[Lg]at f;simpa using f;clear e g;induction a with
 |nil=>exact trivial
 |cons c a l=>exact⟨Z,l⟩
def zj(g a d e:Nat)(b:RW)(f:Nat)(c:List Se)(m:oH g a (d:Int) e b)(i:b.heap[f]?=some (.cells (c.map Value.string).toArray 9 (0,0)))(n:f≠a)(p:d<=100)(q:e<=100000000)(k:c.length<=9)(r:∀j∈c,j.size<=20000):
  Calls prog 69 #[.pointer a,(f,c.length,c.length)] b (qg g a (d:Int) (e+1) b):=
 IH (λl=>l=f) g a d e b _ _ _ _ m (Ml i k) (λl s=>by subst s;exact⟨(QP.1 i).1,n,.inr ⟨_,i,mm Un⟩⟩) p q k (λv t=>by obtain⟨j,u,rfl⟩:=Sj.1 t;exact r j u)
def ld.alloc{B b:Nat}{w}(a:B<=w.heap.size)(o):ld B b w<|w.alloc o:=.old a<|Ba _ _
def mL(e b c d:Nat)(w:RW)(a:List Se)(f:oH e b (c:Int) d w)(i:c<=100)(j:d<=100000000)(k:a.length<=9)(l:∀m∈a,m.size<=20000):
  Calls prog 69 #[.pointer b,(w,a.length,a.length)] (w.alloc<|.cells (a.map Value.string).toArray 9) (qg e b (c:Int) (d+1) w):=
 (zj e b c d _ w a (f.kv<|Ba _ _) (QQ _ _) (W f.lt) i j k l).M λn p g=>⟨g.1,g.2.1,(ld.alloc (W f.lt) _).T g.2.2⟩
def Kt(a)(c:Nat)(d:∀b∈a,b.length<=c):Lib.lens a<=c*a.length:=by
 induction a with
 |nil=>simp[Lib.lens]
 |cons b a e=>have f:=e λg i=>d g<|SV _ i;have j:=d b<|Sq ..;simp only[Lib.lens,Rq,Ub,Rl]at f⊢;rw[Nat.mul_succ];omega
def join_le(a)(c:∀b∈a,b.length<=2520)(d:a.length<=5):(Lib.join a [44,32]).length<=12700:=by
 cases a with
 |nil=>simp[Lib.join_nil]
 |cons b a=>rw[Lib.join_length];have e:=Kt (b::a) 2520 c;simp only[Rl,Rp]at*;omega
def BK(b)(c a o:Nat)(d:tD b c a)(u:a<=5)(v:o<a):Calls prog 91 #[.slice (some ⟨c,o,none⟩) (a-o)<|a-o,.string ⟨#[44,32]⟩] b<|qf 12700 b:=by
 have i:=d.lt;have⟨e,j,k,l⟩:=d;have f:(Lib.join ((e.drop o).map (·.data.toList)) (⟨#[44,32]⟩:ByteArray).data.toList).length<=12700:=join_le _ (λm n=>by obtain⟨p,q,rfl⟩:=Sj.1 n;exact k p<|List.mem_of_mem_drop q) Us
 have:=Tryz.strings_Join c o (a-o) (e.drop o) ⟨#[44,32]⟩ b (λr m g=>kA l (o+r) _<|by rw[SQ]at g;simp[g]) i Us Us<|QT f Un;rw[Ts,j]at this;apply this.M;rintro w x ⟨s,t⟩;exact⟨_,s,by simpa[ByteArray.size]using f,t⟩
def join_none(a b)(c:Nat):Calls prog 91 #[.slice b 0 c,.string ⟨#[44,32]⟩] a<|qf 12700 a:=by apply(Tryz.strings_Join_none b c _ a).M;rintro e f ⟨d,rfl⟩;exact⟨_,d,Un,Sf _ _⟩
def Gm(b)(c a:Nat)(d:tD b c a)(e:a<=5):Calls prog 91 #[(c,a,a),.string ⟨#[44,32]⟩] b<|qf 12700 b:=by rcases Sr a with rfl|f;exact join_none b _ _;exact BK b c a 0 d e f
def Bo(a:Nat):Prop:=∀(i:Nat->Prop) (c d e f:Nat) (b:RW) (j:RE) (g k:Nat) (l:List St),lX b->Ls c->oH c d (e:Int) f b->kz (kR .u8 a) i b (j,g,k) l->(∀m∈l,nQ a m/\FE a m)->g<=12->ER i c d b->e+2*a<=90->f+yl a<=90000000->
 Calls prog 172 #[.pointer d,(j,g,k)] b (qg c d (e:Int) (f+yl a) b)
def Lh(a:Nat):Prop:=∀(j:Nat->Prop) (d e f g:Nat) (b:RW) (c:Se) (k:RE) (i l:Nat) (m:List St),lX b->Ls d->oH d e (f:Int) g b->kz (kR .u8 a) j b (k,i,l) m->(∀c∈m,nQ a c/\FE a c)->i<=12->ER j d e b->f+2*a<=90->g+(3+yl a)<=90000000->c.size<=20000->
 Calls prog 235 #[.pointer e,.string c,(k,i,l)] b (qg d e (f:Int) (g+(3+yl a)) b)
def Li(c:Nat):Prop:=∀(d:Nat->Prop) (e f g i:Nat) (a:RW) (b:St) (j:RE) (k l:Nat) (m:RE) (n p:Nat) (q:RE) (r s:Nat),lX a->Ls e->oH e f (g:Int) i a->kz (kP .u8 De) d a (j,k,l) b.lp->kz (kR .u8 c) d a (m,n,p) b.th->kz (kR .u8 c) d a (q,r,s) b.el->nQ (c+1) b->FE (c+1) b->ER d e f a->g+2*c<=90->i+(3+2*yl c)<=90000000->
 Calls prog 219 #[.pointer f,.agg #[.int .u8 b.kind,tx b.name,tx b.hd,(j,k,l),(m,n,p),(q,r,s)]] a (qg e f (g:Int) (i+(3+2*yl c)) a)
def qg.up{c b d e:Nat}{n:Int}{w f g}(a:qg c b n d w f g)(i:d<=e):qg c b n e w f g:=⟨a.1,a.2.1.up i,a.2.2⟩
def Gp:∀a b,forms[a]?=some b->((a=1\/a=3\/a=4\/a=5\/a=7\/a=9)->1<=b.2.2.1)/\((a=2\/a=8)->2<=b.2.2.1):=by
 intro a b c;have d:=(Q9.1 c).1;rw[vp]at d;have e:∀a:Fin 11,((a.val=1\/a.val=3\/a.val=4\/a.val=5\/a.val=7\/a.val=9)->((forms[a.val]?.map (·.2.2.1)).getD 0>=1))/\((a.val=2\/a.val=8)->((forms[a.val]?.map (·.2.2.1)).getD 0>=2)):=Un
 have:=e ⟨a,d⟩;simp only[c,Tx,Sz]at this;exact this
def D3(a b)(c d:Nat)(e:d=0):Calls prog 91 #[.slice b d c,.string ⟨#[44,32]⟩] a<|qf 12700 a:=by subst e;exact join_none a b c
def qh(f b a c m:Nat)(w:RW)(d:Nat)(e:List Se)(g:e.length=m)(i:oH f b (a:Int) c w)(j:w.heap[d]?=some (.cells (e.map Value.string).toArray 9 (0,0)))(k:d≠b)(l:a<=100)(n:c<=100000000)(p:m<=9)(q:∀r∈e,r.size<=20000):
  Calls prog 69 #[.pointer b,(d,m,m)] w (qg f b (a:Int) (c+1) w):=by
 subst g;exact zj f b a c w d e i j k l n p q
abbrev pa(a):=(λb c=>∃(d:Nat) (e:List Se),b=.slice d 5 5/\Nw a c d/\e.length=5/\(∀f∈e,f.size<=20000)/\c.heap[d]?=some (.cells (e.map Value.string).toArray 9 (0,0)):Go.Value->Go.World->Prop)
abbrev pr:=(λa b=>∃c:Se,a=.string c/\c.size<=12:Go.Value->Go.World->Prop)
abbrev qk(a):=(λb c=>∃(d:Nat) (e:List Se),b=.slice d 7 7/\Nw a c d/\e.length=7/\(∀f∈e,f.size<=20000)/\c.heap[d]?=some (.cells (e.map Value.string).toArray 9 (0,0)):Go.Value->Go.World->Prop)
abbrev rn(a b c d e f g h i j k l):=(.cells #[.int .u8 (a:Int),tx b,tx c,.slice d e f,.slice g h i,.slice j k l] 198:Go.Obj)
abbrev sh:=(λa b=>∃c:Se,a=.string c/\c.size<=2520:Go.Value->Go.World->Prop)
abbrev AN:=(λa b=>∃c:Se,a=.string c/\c.size<=12700:Go.Value->Go.World->Prop)
abbrev DS(a b c d e):=(λf=>oH a b (c:Int) (d+1) f/\ld a b e f:Go.World->Prop)
structure Lt(c:Co):Prop where
 vars:∀v∈c.vars,0<=v.init/\v.init<100
 lJ:∀hs∈c.lJ,∀h∈hs,∀s∈h.body,FE Ds s
def kZ(w:RW)(b:Nat):Nat->List R0->RW
 |_,[]=>w
 |o,u::us=>kZ (w.setCell ⟨b,o,none⟩ u) b (o+1) us
def qK{b:Nat}{T t}:∀{r m l:List R0} {w:RW},m.length=r.length->w.heap[b]?=some (.cells (l++(m++t)).toArray T (0,0))->(kZ w b l.length r).heap[b]?=some (.cells (l++(r++t)).toArray T (0,0))
 |[],[],_,_,_,h=>h
 |[],_::_,_,_,h,_=>by simp at h
 |_::_,[],_,_,h,_=>by simp at h
 |u::r,v::m,l,w,hl,h=>by
  have a:=kr (i:=l.length) (u:=u) h;have c:((l++(v::m++t)).toArray.setIfInBounds l.length u)=((l++[u])++(m++t)).toArray:=by rw[Rk,List.set_append_right _ _<|QX _];simp
  rw[c]at a;have:=qK (r:=r) (m:=m) (l:=l++[u]) (by simpa using hl) a;rw[Q3]at this;simp only[kZ];rw[show l.length+1=l.length+[u].length from Z,this];simp
def mX{b a:Nat}(c:a≠b):∀{r:List R0} {o:Nat} {w:RW},(kZ w b o r).heap[a]?=w.heap[a]?
 |[],_,_=>rfl
 |u::r,o,w=>(mX c (r:=r)).T<|Q8 _ _ _ _ c
def mf{a:Nat}:∀{r:List R0} {o:Nat} {w:RW},(kZ w a o r).heap.size=w
 |[],_,_=>rfl
 |u::r,o,w=>(mf (r:=r)).T<|QU _ _ _
def lD{lo b:Nat}(a:lo<=b){w0}:∀{r:List R0} {o:Nat} {w:RW},Below lo w0 w->Below lo w0 (kZ w b o r)
 |[],_,_,h=>h
 |u::r,o,w,h=>lD a (r:=r)<|h.setCell (p:=⟨b,o,none⟩) a _
structure mQ{α:Type}(R:Rel α)(T k:Nat)(B:Nat)(w:RW)(b n:Nat)(xs:List α):Prop where
 ex:∃(rows:List<|List R0) (cs:List R0),w.heap[b]?=some (.cells (rows.flatten++cs).toArray T (0,0))/\xs.length*k+cs.length=n*k/\ly (R (λq=>B<=q/\q<w/\q≠b) w) rows xs
def mQ.start{d:Type}(e:Rel d){T c f:Nat}{w}{b n:Nat}{a}(g:w.heap[b]?=some (.cells a T (0,0)))(i:a.size=n*c):mQ e T c f w b n []:=⟨[],a.toList,by simpa using g,by simpa using i,trivial⟩
def mQ.lt{a:Type}{c:Rel a}{T k B:Nat}{w}{b n:Nat}{d:List a}(e:mQ c T k B w b n d):b<w:=by have⟨g,i,f,_⟩:=e.ex;exact(QP.1 f).1
def mQ.kv{e:Type}{c:Rel e}{T k B:Nat}(ok:lh c k){w w'}{b n:Nat}{f:List e}(g:mQ c T k B w b n f)(d:Below w w w'):mQ c T k B w' b n f:=by have⟨j,l,m,p,q⟩:=g.ex;have s:=d.size;exact⟨j,l,(d.B b g.lt).T m,p,q.imp λt u r=>ok.M (ok.kv r λi a=>d.B i a.2.1) λi a=>⟨a.1,Y,a.2.2⟩⟩
def mQ.frozen{a:Type}{d:Rel a}{e f g:Nat}{c}{b j:Nat}{k:List a}(l:mQ d e f g c b j k)(i:Nat):c.frozen? ⟨b,i,none⟩=false:=by have⟨n,p,m,q,r⟩:=l.ex;exact kx m i
def mQ.cell{c:Type}{d:Rel c}{T k e:Nat}(ok:lh d k){w}{b n:Nat}{f:List c}(a:mQ d T k e w b n f){i:Nat}(l:i<n*k):∃u,w.cell? (sa b i)=some u:=by have⟨m,p,g,q,j⟩:=a.ex;have r:=ly.flat (k:=k) (λs t a=>ok.len a) j;exact⟨_,kA g i _<|by rw[Sa];exact Q6<|by rw[Q3];omega⟩
def mQ.put{g:Type}{c:Rel g}{T k B:Nat}(ok:lh c k){w}{b i:Nat}{d:List g}(j:mQ c T k B w b i d){r}{e:g}(f:c (λq=>B<=q/\q<w/\q≠b) w r e)(u:d.length<i){o:Nat}(v:o=d.length*k):mQ c T k B (kZ w b o r) b i<|d++[e]:=by have⟨p,n,x,A,s⟩:=j.ex;have y:=ly.flat (k:=k) (λr e j=>ok.len j) s;have C:=ok.len f;have z:=Sh k u;rw[Ug]at z;subst v;refine⟨p++[r],n.drop k,?_,?_,?_⟩;rw[<-y];have:=qK (r:=r) (m:=n.take k) (t:=n.drop k) (l:=p.flatten) (by rw[Rm];omega) (by rw[SA];exact x);rw[this];simp;rw[Q3,Ts,SZ];simp only[Rl,Rp];omega;refine(ly.snoc f s).imp λr e f=>ok.M (ok.kv f λq a=>mX a.2.2) λq a=>⟨a.1,by rw[mf];exact a.2.1,a.2.2⟩
def mQ.done{f:Type}{a:Rel f}{l g c:Nat}(ok:lh a g){w}{b n:Nat}{d:List f}(i:mQ a l g c w b n d)(m:d.length=n)(p:c<=b)(q:n<=9223372036854775807):kz a (λe=>c<=e/\e<w) w (b,n,n) d:=by have r:=i.lt;have⟨s,z,t,A,u⟩:=i.ex;refine⟨_,n,s,by rw[m],Y,q,λ_=>⟨b,0,Z,⟨p,r⟩,λv x j=>?_⟩,u.imp λB C y=>ok.M y λe k=>⟨k.1,k.2.1⟩⟩;rw[Q7];refine kA t v x ?_;rw[Sa,RP (Q9.1 j).1];exact j
def qT{b:Type}(d:Rel b)(e:b)(w:RW)(f:Ending)(a:RW):Prop:=∃c:List R0,f=.returned (.agg c.toArray)/\d (Nw w a) a c e/\Below w w a
def sB{d:Type}(e:Rel d)(b:Nat)(f:List d)(a:RW)(g:Ending)(c:RW):Prop:=g=.returned (a,b,b)/\kz e (Nw a c) c (a,b,b) f/\Below a a c
def kP.opn{b:Nat}{d e r a}(c:kP .u8 b d e r a):∃f g i,r=[.int .u8 a.op,tx a.name,.int .i64 a.n,.slice f g i]:=by
 cases b with
 |zero=>exact c.elim
 |succ b=>obtain⟨k,rfl,j⟩:=c;obtain⟨l,m,rfl,_⟩:=j.form;exact⟨_,_,_,Z⟩
def kR.opn{b:Nat}{f g r a}(c:kR .u8 b f g r a):∃i j k l m n p q s,r=[.int .u8 a.kind,tx a.name,tx a.hd,.slice i j k,.slice l m n,.slice p q s]:=by
 cases b with
 |zero=>exact c.elim
 |succ b=>obtain⟨w,x,y,rfl,t,u,v⟩:=c;obtain⟨d,e,rfl,_⟩:=t.form;obtain⟨d,e,rfl,_⟩:=u.form;obtain⟨d,e,rfl,_⟩:=v.form;exact⟨_,_,_,_,_,_,_,_,_,Z⟩
def mA.opn{f g r e}(a:mA .u8 f g r e):∃b c d i j k,r=[tx e.name,.slice b c d,.slice i j k]:=by have⟨b,c,d,l,m,n,a,_⟩:=a.rj;exact⟨b,c,d,l,m,n,a⟩
def nj.opn{e f r g}(a:nj .u8 e f r g):∃b c d,r=[.slice b c d]:=by have⟨b,c,d,a,_⟩:=a.rj;exact⟨b,c,d,a⟩
def mr.opn{f g r e}(a:mr .u8 f g r e):∃b c d i j k,r=[tx e.name,.slice b c d,.slice i j k]:=by have⟨b,c,d,l,m,n,a,_⟩:=a.rj;exact⟨b,c,d,l,m,n,a⟩
def Kv:(prog.info? 203).map (λa=>(a.zero,a.size,a.bytes))=some (some<|.agg lE,4,56):=Up
def II(a:Nat)(i:a<=1000)(b):(Instr.makeSlice 196 (.int .i64 (a:Int))<|.int .i64 (a:Int)).run prog b=.ok (.slice b a a) (b.alloc<|.cells (madeCells lE<|a*4) 203):=by have⟨d,e,f,c,g⟩:=Rj Kv;have:=Ss (P:=prog) b 196 203 d _ underlying196 e f .i64 .i64 (a:Int) (a:Int) Y (SE _) (by rw[c];simp;omega) (by rw[g];omega) Y;rw[c,RR]at this;exact this
def xJ(d:Nat)(z f C)(e D:Nat)(g)(E:kz (kP .u8 d) z f (.slice C e D) g)(P:e<=1000)(Q:∀k,z k->k<f)(R:∀a∈g,∀(q:RW) (r:List R0),Below f f q->(kP .u8 d) z q r a->Calls prog 174 #[.agg r.toArray] q (qT (kP .u8 d) a q)):
  Calls prog 173 #[.slice C e D,.func (.func 174) #[] #[]] f (sB (kP .u8 d) e g f):=by
 have S:=Gr;unfold mq at S;have T:=E.len;have u:=X T.1;have U:=E;have F:=Q;have V:=R;have aa:=II e P f;have⟨j,s⟩:=Xq f.heap.size;have m:mQ (kP .u8 d) 203 4 j (f.alloc<|.cells (madeCells lE<|e*4) 203) j e ([]:List Ex):=mQ.start _ (by rw[s];exact QQ _ _) (by rw[SM]);have n:Below j f<|f.alloc<|.cells (madeCells lE<|e*4) 203:=by rw[s];exact Ba _ _
 rw[<-s]at aa;have p:=X s;clear s
 go_enter func173,ntmps173
 go_wp21;generalize f.alloc (.cells (madeCells lE<|e*4) 203)=q at*;go_loopw [13] (λi wr=>∃c:Nat,c<=e/\i=c/\mQ (kP .u8 d) 203 4 j wr j e (g.take c)/\Below j f wr) (λi _=>e-(intOf i).toNat)
 .exact⟨0,QZ _,Z,m,n⟩
 obtain⟨c,an,rfl,m,n⟩:=hrel;have ao:=m.lt;by_cases ap:c<e
 .obtain⟨a,A⟩:∃a,g[c]?=some a:=Gx<|W u.o;obtain⟨aq,ar,r,rfl,au,G,v⟩:=(U.kv (kP.ok .u8 d) λk t=>n.B k<|by rw[p.o];exact F k t).ll (kP.ok .u8 d) c a A;obtain⟨w,x,y,rfl⟩:=G.opn;have ab:=v 0 _ Z;have av:=v 1 _ Z;have aw:=v 2 _ Z;have ax:=v 3 _ Z;rw[Q1]at ab;obtain⟨ay,az⟩:=nL c e;have B:=Ba wr<|mu a.op a.name a.n w x y;have ac:=(V a (QS A) (wr.alloc<|mu a.op a.name a.n w x y) [.int .u8 a.op,tx a.name,a.n,(w,x,y)] (by rw[<-p.o];exact n.T<|B.M<|W p.o)<|(kP.ok .u8 d).kv G λk t=>B.B k<|Ul (F k t) p.o)
  have ad:=X A;go_wp21;apply ac.M;rintro I J ⟨r,rfl,K,ae⟩;obtain⟨L,M,N,rfl⟩:=K.opn;have aA:(wr.alloc<|mu a.op a.name a.n w x y).heap.size=wr+1:=Uo;have O:Below wr wr J:=B.T<|ae.M Y;have l:=(m.kv (kP.ok .u8 d) O)
  have af:=(n.T<|O.M Y)
  have ag:=l.frozen<|c*4+0;have aB:=l.frozen<|c*4+1;have aC:=l.frozen<|c*4+2;have aD:=l.frozen<|c*4+3;rw[Q1]at ag;have aE:c*4+3<e*4:=Y;have⟨aF,aG⟩:=l.cell (kP.ok .u8 d) (i:=c*4) Y;have⟨aH,aI⟩:=l.cell (kP.ok .u8 d) (i:=c*4+1) Y;have⟨aJ,aK⟩:=l.cell (kP.ok .u8 d) (i:=c*4+2) Y;have⟨aL,aM⟩:=l.cell (kP.ok .u8 d) (i:=c*4+3) Y;have ah:=(show mQ (kP .u8 d) 203 4 j (kZ J j (c*4) [.int .u8 a.op,tx a.name,a.n,(L,M,N)]) j e (g.take<|c+1)from by have I:g.take (c+1)=g.take c++[a]:=(by rw[Rz,ad.o];rfl);rw[I];have ai:(g.take c).length=c:=(by rw[Rm];have:=u.o;omega);exact l.put (kP.ok .u8 d) ((kP.ok .u8 d).M K (λk t=>by have⟨aN,aj⟩:=t;have:=p.o;exact⟨Y,aj,Y⟩)) Y<|by rw[ai])
  have ak:=(lD (lo:=j) (b:=j) (QX _) (r:=[.int .u8 a.op,tx a.name,.int .i64 a.n,(L,M,N)]) (o:=(c*4)) af)
  go_wp21;go_roundw
  .exact⟨c+1,Y,Ur,ah,ak⟩
  simp[intOf];omega
 obtain rfl:e=c:=Y;have al:g.take e=g:=Re<|W u.o;rw[al]at m;go_wp21;go_ret;have am:=p.o;subst am;exact⟨Z,m.done (kP.ok .u8 d) (W u.o) (QX _) Y,n⟩
def mK.args{d:Nat}{a}(c:mK (d+1) a):a.args.length<=2/\∀e∈a.args,mK d e:=by
 have⟨⟨b,_,f,g,_⟩,i⟩:=c;refine⟨?_,i⟩;rw[g];have:∀b∈shapes,b.1<=2:=Un
 exact this b<|QS f
structure zO(d:Nat)(w1:RW)(b1:Nat)(c0 c1 c2 o3 o4 o5:R0)(s:St)(l1 l2 l3:Bool)(x:RW):Prop where
 g:nX (λq=>q=b1) w1 x
 l:b1<w1
 r:∃a b c:R0,x.heap[b1]?=some (.cells #[c0,c1,c2,a,b,c] 198)/\(l1=false->a=o3)/\(l1=true->kz (kP .u8 De) (Nw w1 x) x a s.lp)/\(l2=false->b=o4)/\(l2=true->kz (kR .u8 d) (Nw w1 x) x b s.th)/\(l3=false->c=o5)/\(l3=true->kz (kR .u8 d) (Nw w1 x) x c s.el)
def zO.ku{d:Nat}{b}{c:Nat}{j k l m n p q r s t x e}(f:zO d b c j k l m n p q r s t x)(g:Below x x e):zO d b c j k l m n p q r s t e:=by have⟨v,w,y,u,z,A,B,C,D,E⟩:=f.r;have i:NK b x e:=.ku g;exact⟨f.g.T<|nX.of g,f.l,v,w,y,(g.B c (QP.1 u).1).T u,z,λa=>om (kP.ok .u8 De) i<|A a,B,λa=>om (kR.ok .u8 d) i<|C a,D,λa=>om (kR.ok .u8 d) i<|E a⟩
def zO.lK{d:Nat}{a:RW}{b:Nat}{g i j k l m:R0}{n:St}{p r s:Bool}{x:RW}(c:zO d a b g i j k l m n p r s x){S:Nat->Prop}(e:∀q,S q->q<b):∀q,S q->x.heap[q]?=a.heap[q]?:=
 λq f=>c.g.B q (Nat.lt_trans (e q f) c.l) λt=>W<|e q f
structure CU(w1:RW)(b1:Nat)(c0 o1 o2 o3:R0)(f:Fl)(l1 l2:Bool)(x:RW):Prop where
 g:nX (λq=>q=b1) w1 x
 l:b1<w1
 r:∃a b:R0,x.heap[b1]?=some (.cells #[c0,a,b,o3] 54)/\(l1=false->a=o1)/\(l1=true->kz mI (Nw w1 x) x a f.kQ)/\(l2=false->b=o2)/\(l2=true->kz nT (Nw w1 x) x b f.ml)
def CU.ku{a}{b:Nat}{g i j k l m n x c}(d:CU a b g i j k l m n x)(e:Below x x c):CU a b g i j k l m n c:=by have⟨r,s,p,t,u,v,w⟩:=d.r;have q:NK a x c:=.ku e;exact⟨d.g.T<|nX.of e,d.l,r,s,(e.B b (QP.1 p).1).T p,t,λf=>om mI.ok q<|u f,v,λf=>om nT.ok q<|w f⟩
def CU.lK{a:RW}{b:Nat}{f g i j:R0}{k:Fl}{l m:Bool}{x:RW}(c:CU a b f g i j k l m x){S:Nat->Prop}(d:∀q,S q->q<b):∀q,S q->x.heap[q]?=a.heap[q]?:=
 λq e=>c.g.B q (Nat.lt_trans (d q e) c.l) λn=>W<|d q e
def pd(b:IntKind)(c:Array R0)(o d:Nat):Prop:=∀a,a<d->∃e:Int,c[o+a]?=some (.int b e)
def pd.set{a c:IntKind}{d}{o n:Nat}(h:pd a d o n)(b:Nat)(e:Int)(j:b<o\/o+n<=b\/c=a):pd a (d.setIfInBounds b<|.int c e) o n:=λf k=>by
 have⟨l,g⟩:=h f k;by_cases i:o+f=b;obtain rfl:c=a:=by rcases j with h|h|h;omega;omega;exact h
 subst i;exact⟨e,by rw[SI (QP.1 g).1]⟩;exact⟨l,by rw[R7<|S4 i];exact g⟩
def pq(d:RW)(b c:Nat):Prop:=∃a:Array R0,d.heap[b]?=some (.cells a 5 (0,0))/\a.size=c/\pd .u8 a 0 c
def mE(c:TypeId)(d:RW)(e b:Nat):Prop:=∃a:Array R0,d.heap[e]?=some (.cells a c (0,0))/\a.size=b/\pd .u32 a 0 b
def mE.kv{T w w'}{b n:Nat}(a:mE T w b n)(c:w'.heap[b]?=w.heap[b]?):mE T w' b n:=by have⟨d,e,f⟩:=a;exact⟨d,c.T e,f⟩
def mE.lt{T w}{b n:Nat}(a:mE T w b n):b<w:=by have⟨d,c,e⟩:=a;exact(QP.1 c).1
def nh(d:RW)(b:Nat):Prop:=∃a:Array R0,d.heap[b]?=some (.cells a 246 (0,0))/\a.size=73/\pd .u32 a 0 8/\pd .u8 a 8 64/\∃c:Int,a[72]?=some (.int .u64 c)/\0<=c
def nh.kv{w w'}{b:Nat}(a:nh w b)(c:w'.heap[b]?=w.heap[b]?):nh w' b:=by have⟨d,e,f⟩:=a;exact⟨d,c.T e,f⟩
def nh.lt{w}{b:Nat}(a:nh w b):b<w:=by have⟨d,c,e⟩:=a;exact(QP.1 c).1
structure qC(w:RW):Prop where
 lt:0<w.heap.size
 ll:∀k:Nat,k<64->∃x:Int,w.cell? ⟨0,k,none⟩=some (.int .u32 x)
def qC.kv{w w'}(a:qC w)(c:w'.heap[(0:Nat)]?=w.heap[(0:Nat)]?)(d:w.heap.size<=w'.heap.size):qC w':=
 ⟨QO a.lt d,λb e=>by have⟨f,g⟩:=a.ll b e;exact⟨f,(Cb 0 b c).T g⟩⟩
abbrev ob(a b c d e f g h):=(#[.int .u32 a,.int .u32 b,.int .u32 c,.int .u32 d,.int .u32 e,.int .u32 f,.int .u32 g,.int .u32 h,.int .u8 0,.int .u8 0,.int .u8 0,.int .u8 0,.int .u8 0,.int .u8 0,.int .u8 0,.int .u8 0,.int .u8 0,.int .u8 0,.int .u8 0,.int .u8 0,.int .u8 0,.int .u8 0,.int .u8 0,.int .u8 0,.int .u8 0,.int .u8 0,.int .u8 0,.int .u8 0,.int .u8 0,.int .u8 0,.int .u8 0,.int .u8 0,.int .u8 0,.int .u8 0,.int .u8 0,.int .u8 0,.int .u8 0,.int .u8 0,.int .u8 0,.int .u8 0,.int .u8 0,.int .u8 0,.int .u8 0,.int .u8 0,.int .u8 0,.int .u8 0,.int .u8 0,.int .u8 0,.int .u8 0,.int .u8 0,.int .u8 0,.int .u8 0,.int .u8 0,.int .u8 0,.int .u8 0,.int .u8 0,.int .u8 0,.int .u8 0,.int .u8 0,.int .u8 0,.int .u8 0,.int .u8 0,.int .u8 0,.int .u8 0,.int .u8 0,.int .u8 0,.int .u8 0,.int .u8 0,.int .u8 0,.int .u8 0,.int .u8 0,.int .u8 0,.int .u64 0]:Array Go.Value)
def nh.of{w}{l:Nat}{c d e f g i j k:Int}(m:w.heap[l]?=some (.cells (ob c d e f g i j k) 246)):nh w l:=by
 have n:((ob c d e f g i j k):Array R0)=([Value.int .u32 c,Value.int .u32 d,Value.int .u32 e,Value.int .u32 f,Value.int .u32 g,Value.int .u32 i,Value.int .u32 j,Value.int .u32 k]++(List.replicate 64 (Value.int .u8 0)++[Value.int .u64 0])).toArray:=Up
 rw[n]at m;refine⟨_,m,Uo,λb a=>?_,λb a=>?_,0,Uo,Y⟩;rw[Q7,Sa,RP<|by simpa using a]
 match b,a with
 |0,_=>exact⟨_,Z⟩
 |1,_=>exact⟨_,Z⟩
 |2,_=>exact⟨_,Z⟩
 |3,_=>exact⟨_,Z⟩
 |4,_=>exact⟨_,Z⟩
 |5,_=>exact⟨_,Z⟩
 |6,_=>exact⟨_,Z⟩
 |7,_=>exact⟨_,Z⟩
 refine⟨0,?_⟩;rw[Sa,RS Uo];simp only[Rl,Rp];rw[show 8+b-(0+1+1+1+1+1+1+1+1)=b from Y,RP (by rw[List.length_replicate];exact a),List.getElem?_replicate,RB a]
def nh.copy{i}{f:Nat}{c}(p:nh i f)(m:i.heap[f]?=some (.cells c 246 (0,0))){ll:Nat}{b}(y:ll+b.length<=64)(q:∀r∈b,∃k:Int,r=.int .u8 k):
  nh (i.setRow f (c.toList.take (8+ll)++(b++c.toList.drop (8+ll+b.length))).toArray) f:=by
 have⟨z,d,s,t,n,u,v,w⟩:=p;rw[m]at d;injection d with d;injection d with d _ _;subst d;have A:c.toList.length=73:=by simpa using s
 have l:∀a,(c.toList.take (8+ll)++(b++c.toList.drop (8+ll+b.length)))[a]?=if a<8+ll then c[a]? else if a<8+ll+b.length then b[a-(8+ll)]? else c[a]?:=by intro a;by_cases e:a<8+ll;rw[RB e,RP (by rw[Rm];omega),SX e];simp;rw[Rh e,RS (by rw[Rm];omega),Rm,Td Y];by_cases g:a<8+ll+b.length;rw[RB g,RP Y];rw[Rh g,RS Y,SQ];rw[show 8+ll+b.length+(a-(8+ll)-b.length)=a from Y];simp
 refine⟨_,Uh i f _ _ _ _ m,Us,λa j=>?_,λa j=>?_,u,?_,w⟩
 .rw[Sa,l,RB Y];exact t a j
 .rw[Sa,l];by_cases e:8+a<8+ll;rw[RB e];exact n a j;rw[Rh e];by_cases g:8+a<8+ll+b.length;rw[RB g];have⟨k,x⟩:=q _<|S9<|show 8+a-(8+ll)<b.length from Y;exact⟨k,by rw[Q6 Y,x]⟩;rw[Rh g];exact n a j
 .rw[Sa,l,Rh Y,Rh Y];exact v
def Hj(e:Nat)(b:RW)(f:RE)(c:Nat):Prop:=0<c->∃a o,f=some ⟨a,o,none⟩/\a≠e/\a<b/\∀d,d<c->∃g:Int,b.cell? ⟨a,o+d,none⟩=some (.int .u8 g)
def Hj.grown{b:Nat}{w w' d}{e:Nat}(k:Hj b w d e)(f:w.grownBy w'<|some b):Hj b w' d e:=λl=>by have⟨a,o,c,g,i,m⟩:=k l;refine⟨a,o,c,g,QO i f.size,λj n=>?_⟩;have⟨p,q⟩:=m j n;exact⟨p,(Cb a (o+j)<|f.B a i λc=>g<|by injection c).T q⟩
def Hj.low{b:Nat}{w c d}{a m:Nat}(e:Hj b w c a)(f:m<a->d=c.map (·.add m)):Hj b w d<|a-m:=λn=>by obtain⟨g,o,rfl,i,j,k⟩:=e Y;refine⟨g,o+m,by rw[f Y];simp[addr_add],i,j,λl p=>?_⟩;rw[Tq];exact k (m+l) Y
def pX(d:TypeId)(e:RW)(b c:Nat):Prop:=∃a:Array R0,e.heap[b]?=some (.cells a d (0,0))/\a.size=c/\pd .u8 a 0 c
def pX.lt{T w}{b n:Nat}(a:pX T w b n):b<w:=by have⟨d,c,e⟩:=a;exact(QP.1 c).1
def pX.ll{T w}{b c:Nat}(f:pX T w b c){i:Nat}(g:i<c):∃a:Int,w.cell? (sa b i)=some (.int .u8 a)/\w.frozen? ⟨b,i,none⟩=false:=by have⟨k,d,l,j⟩:=f;have⟨a,e⟩:=j i g;rw[Q7]at e;exact⟨a,kA d i _ e,kx d i⟩
def pX.kv{T w w'}{b n:Nat}(a:pX T w b n)(c:w'.heap[b]?=w.heap[b]?):pX T w' b n:=by have⟨d,e,f⟩:=a;exact⟨d,c.T e,f⟩
def pX.zero{a w}{b:Nat}(c:w.heap[b]?=some (.cells tE a (0,0))):pX a w b 32:=by rw[zero32]at c;exact⟨_,c,Uo,λe d=>⟨0,by simp[d]⟩⟩
structure nH(w:RW)(fb:Nat)(f:Fl):Prop where
 lt:fb<w
 ex:∃(S:Nat->Prop) (B1:RE) (n1 d1:Nat) (B2:RE) (n2 d2:Nat) (B3:RE) (n3 d3 pb:Nat),w.cell? fb=some (tx f.name)/\w.cell? ⟨fb,1,none⟩=some (.slice B1 n1 d1)/\w.cell? ⟨fb,2,none⟩=some (.slice B2 n2 d2)/\w.cell? ⟨fb,3,none⟩=some (.slice B3 n3 d3)/\
  w.cell? ⟨fb,37,none⟩=some (.pointer pb)/\pW S w B1 n1 d1 B2 n2 d2 B3 n3 d3 f/\yu S w pb (lI f)/\pb<w
def yu.kv{S w w'}{pb:Nat}{a}(c:yu S w pb a)(b:∀q,(S q\/q=pb)->w'.heap[q]?=w.heap[q]?):yu S w' pb a:=by have⟨d,e,f,g,i⟩:=c;exact⟨d,e,f,(b pb<|.inr Z).T g,i.kv C0.ok λq j=>b q<|.inl j⟩
def yu.M{S T w}{pb:Nat}{a}(b:yu S w pb a)(c:∀q,S q->T q):yu T w pb a:=by have⟨d,e,f,g,i⟩:=b;exact⟨d,e,f,g,i.M C0.ok c⟩
def pW.M{S T w c}{d e:Nat}{f}{g i:Nat}{j}{k l:Nat}{m}(a:pW S w c d e f g i j k l m)(b:∀q,S q->T q)(n:∀q,T q->q<w.heap.size):pW T w c d e f g i j k l m:=
 ⟨a.kQ.M mI.ok b,a.ml.M nT.ok b,a.kH.M (mr.ok .u8) b,n⟩
def nH.ku{w w'}{a:Nat}{f}(k:nH w a f)(b:Below w w w'):nH w' a f:=by have⟨g,l,m,n,p,q,r,s,t,u,v,x,y,z,A,B,C,i,D,E⟩:=k;have c:∀d,w'.cell? (sa a d)=w.cell? (sa a d):=λd=>Cb a d<|b.B a g;exact⟨QO g b.size,l,m,n,p,q,r,s,t,u,v,x,(c 0).T y,(c 1).T z,(c 2).T A,(c 3).T B,(c 37).T C,i.ku b,D.kv (λj e=>b.B j<|by rcases e with e|e;exact i.lK j e;omega),QO E b.size⟩
def LL(d:Nat->Prop)(a:RW)(b:Nat)(e:Fl):Prop:=(b<a/\d b)/\∃(f:Nat->Prop) (g:RE) (i j:Nat) (k:RE) (l m:Nat) (n:RE) (p q c:Nat),a.cell? b=some (tx e.name)/\a.cell? ⟨b,1,none⟩=some (.slice g i j)/\a.cell? ⟨b,2,none⟩=some (.slice k l m)/\a.cell? ⟨b,3,none⟩=some (.slice n p q)/\
 a.cell? ⟨b,37,none⟩=some (.pointer c)/\pW f a g i j k l m n p q e/\yu f a c (lI e)/\(c<a/\d c)/\∀r,f r->d r
def LL.kv{T:Nat->Prop}{w w':RW}{b:Nat}{i:Fl}(h:LL T w b i)(f:∀q,q<w.heap.size->T q->w'.heap[q]?=w.heap[q]?)(g:w.heap.size<=w'):nH w' b i:=by
 have⟨⟨j,n⟩,k,p,r,s,t,u,v,x,y,z,l,A,B,C,D,E,c,F,⟨m,G⟩,I⟩:=h;have d:∀e,w'.cell? (sa b e)=w.cell? (sa b e):=λe=>Cb b e<|f b j n;have a:∀q,k q->w'.heap[q]?=w.heap[q]?:=λq a=>f q (c.lK q a)<|I q a;exact⟨QO j g,k,p,r,s,t,u,v,x,y,z,l,(d 0).T A,(d 1).T B,(d 2).T C,(d 3).T D,(d 37).T E,
  ⟨c.kQ.kv mI.ok a,c.ml.kv nT.ok a,c.kH.kv (mr.ok .u8) a,λq h=>QO (c.lK q h) g⟩,F.kv (λq h=>by rcases h with h|h;exact a q h;rw[h];exact f l m G),QO m g⟩
structure oa.Ev where
 tick:Int
 comp:Int
 kind:Nat
 peer:Int
 n:Int
 copy:Int
 hd:Int
 d:Int
 args:List Int
structure oa.Nm where
 kH:List RK
 kQ:List RK
 hs:List<|List RK
def oa.ot(b:Nm)(a:Int):Bool:=decide (0<=a)&&decide (a<b.kH.length)
def oa.cN(m:Nm)(a:Int):RK:=if ot m a then m.kH[a.toNat]?.getD []else []
def oa.CV(b:Nm)(a:Int):Bool:=decide (0<=a)&&decide (a<b.kQ.length)
def oa.fN(m:Nm)(a:Int):RK:=if CV m a then m.kQ[a.toNat]?.getD []else []
def oa.hL(m:Nm)(a:Int):List RK:=if ot m a then m.hs[a.toNat]?.getD []else []
def oa.qs(a:Nm)(b c:Int):Bool:=ot a b&&(decide (0<=c)&&decide (c<(hL a b).length))
def oa.hN(a:Nm)(b c:Int):RK:=if qs a b c then(hL a b)[c.toNat]?.getD []else []
def pw(a:List RK)(b:RW)(g:Ending)(c:RW):Prop:=(∃(d:RE) (e:Nat),g=.returned (d,a.length,e)/\kz kM (λf=>b<=f/\f<c) c (d,a.length,e) a)/\Below b b c
def pw.of{b w w' v}(a:kJ kM 9 1 (λ_=>False) w' w.heap.size v b)(d:Below w.heap.size w w'):pw b w (.returned v) w':=by obtain⟨e,f,rfl,_⟩:=a.form;exact⟨⟨e,f,Z,(a.sl kM.ok).M kM.ok λg c=>⟨c.1.resolve_left λa=>a,c.2⟩⟩,d⟩
def lL.ok:lh lL 1:=
 ⟨Y,λa=>by rw[a];rfl,λa c b=>by rw[a]at b;simp at b;subst b;rfl,λa _=>a,λa _=>a⟩
def oa.oP(v:Int):Prop:= -9223372036854775808<=v/\v<=9223372036854775807
def yo(b:Bool)(a:Int):Prop:=oP a/\(b=false->0<=a/\a<100)
def yo.all{c:Bool}{b:List Int}(d:∀a∈b,yo c a):∀a∈b,oP a:=λa e=>(d a e).1
def qc.ku{B w w'}(a:qc B w)(c:Below w w w'):qc B w':=by
 intro d;have a:=a d;unfold Lib.TabIs World.var? at a⊢;rw[td]at a⊢;simp only[Option.bind_some]at a⊢;have e:(3:Nat)<w:=by rcases SP (3:Nat) w with b|b;exact b;rw[TZ b]at a;cases a
 rw[c.B _ e];exact a
structure PQ(m:Nm):Prop where
 c:∀i,(cN m i).length<=12
 f:∀i,(fN m i).length<=12
 h:∀i j,(hN m i j).length<=12
def uo(b:RW)(c d:Nat)(e f:Array R0)(a:RW):Prop:=Below b b a/\a.heap[c]?=some (.cells e 38 (0,0))/\a.heap[d]?=some (.cells f 38 (0,0))
def uo.lt{w:RW}{a b:Nat}{d e:Array R0}{x:RW}(c:uo w a b d e x):a<x/\b<x:=⟨(QP.1 c.2.1).1,(QP.1 c.2.2).1⟩
def uo.ku{w:RW}{b c:Nat}{e f:Array R0}{x g:RW}(a:uo w b c e f x)(d:Below x x g):uo w b c e f g:=⟨a.1.T<|d.M a.1.size,(d.B b a.lt.1).T a.2.1,(d.B c a.lt.2).T a.2.2⟩
structure kI.Tok where
 kind:Nat
 text:Se
 off:Nat
def kI.Bp(b:Se)(a:Nat):Tok:=⟨(oF b a).1,b.extract a<|a+(oF b a).2,a⟩
def kI.wm(a:Se):Nat->Nat->List Tok
 |0,_=>[]
 |f+1,off=>if off<a.size then Bp a off::wm a f (rI a off)else []
def kI.oU(a:Se)(b:Nat):List Tok:=wm a (a.size+1-b) b
def kI.lexB(a:Se):List Tok:=oU a<|qU a 0
def kI.KN(b c:RK)(a:pfx b c=true):c.length<=b.length:=by unfold pfx at a;rw[List.isPrefixOf_iff_prefix]at a;exact a.length_le
def kI.Fu(b:Int->Bool)(a:RK)(d:a≠[])(e:b (a.headD 0).toNat=true):1<=pre b a:=by
 match a,d with
 |c::t,_=>rw[nI,if_pos<|by simpa using e];omega
def kI.CM(a:RK)(d:a≠[]):1<=(ox a).2/\(ox a).2<=a.length:=by
 have e:1<=a.length:=by cases a with|nil=>exact absurd Z d|cons=>simp
 unfold ox;split
 rename_i f
 have b:=Fu ma a d (by unfold ma;rw[f];rfl);have c:=wW ma a;split;exact⟨b,c⟩;split;exact⟨b,c⟩;exact⟨e,Nat.le_refl _⟩;split
 rename_i f
 have b:=Fu mO a d f;have c:=wW mO a;split;exact⟨b,c⟩;exact⟨e,Nat.le_refl _⟩;split
 rename_i i g
 unfold rq at g;exact⟨(I4 i<|List.mem_of_find?_eq_some g).1,KN _ _<|List.find?_some g⟩;exact⟨e,Nat.le_refl _⟩
def kI.tN(a:Se)(b:Nat)(e:b<a.size):1<=(oF a b).2/\b+(oF a b).2<=a.size:=by
 have c:(a.data.toList.drop b).length=a.size-b:=Uo
 have:=CM (a.data.toList.drop b) (by intro d;rw[d]at c;simp at c;omega);unfold oF;omega
def kI.vA(a:Se)(b:Nat)(c:b<=a.size):b+qU a b<=a.size:=by have:=sy false<|a.data.toList.drop b;unfold qU;simp at this;omega
def kI.qZ(a:Se)(b:Nat)(c:b<a.size):b<rI a b/\rI a b<=a.size:=by have d:=tN a b c;have e:=vA a _ d.2;unfold rI;omega
def kI.zq(c:Se):∀(f b a:Nat),c.size+1-a<=f->c.size+1-a<=b->wm c f a=wm c b a
 |0,b,a,h1,h2=>by
  cases b with
  |zero=>rfl
  |succ b=>rw[wm,wm,if_neg<|by omega]
 |f+1,0,a,h1,h2=>by rw[wm,wm,if_neg<|by omega]
 |f+1,b+1,a,h1,h2=>by
  rw[wm,wm];split
  rename_i d
  have:=qZ c a d;rw[zq c f b _ Y Y];rfl
def kI.rT(a:Se)(b:Nat)(c:¬b<a.size):oU a b=[]:=by
 unfold oU;cases hf:a.size+1-b with
 |zero=>rfl
 |succ d=>rw[wm,if_neg c]
def kI.tO(a:Se)(b:Nat)(c:b<a.size):oU a b=Bp a b::oU a (rI a b):=by have d:=qZ a b c;unfold oU;rw[show a.size+1-b=(a.size-b)+1 from Y,wm,if_pos c,zq a (a.size-b) (a.size+1-rI a b) _ Y Y]
def L.Laid(w:RW):Prop:=
 (∃a b,w.heap[5]?=some (.cells pc a b))/\(∃a b,w.heap[4]?=some (.cells yK a b))
def L.oB{b:Program}(a:RW)(e c:TypeId)(f:Nat)(g:Array R0)(d:Nat)(i:R0)(j:b.underlying e=some (.array f c))(k:d<f)
  (l:(isAgg c).run b a=.ok false a) (m:g[d]?=some i) (n:(sizeOf c).run b a=.ok 1 a):
  (Instr.index e (.agg g)<|.int .i64 d).run b a=.ok i a:=by
 simp[Instr.index,Tk j,asIntOf,k,n,l,m,go_sem]
def L.vn(b:RW)(a:Nat)(c:a<39):(Instr.index 348 (.agg pc)<|.int .i64 a).run prog b=.ok (FM<|kI.words.getD a []) b:=
 oB b _ 9 39 _ a _ Up c Up
  (by have d:a<kI.words.length:=c;simp[pc,FM,d]) Up
def L.I5(b:RW)(a:Nat)(c:a<25):(Instr.index 310 (.agg yK)<|.int .i64 a).run prog b=.ok (FM<|kI.syms.getD a []) b:=
 oB b _ 9 25 _ a _ Up c Up
  (by have d:a<kI.syms.length:=c;simp[yK,FM,d]) Up
def L.tZ:(prog.info? 348).map (·.size)=some pc.size:=Up
def L.GL:(prog.info? 310).map (·.size)=some yK.size:=Up
def L.oG(a:Int)(b:RW):Calls prog 194 #[.int .u8 a] b λc d=>c=.returned (.bool<|kI.lY a)/\b=d:=by
 by_cases e:97<=a<;>by_cases f:a<=122<;>by_cases g:65<=a<;>by_cases i:a<=90;all_goals
  first
  |omega
  |(go_enter func194,ntmps194;go_wp2;go_ret;exact⟨by simp[kI.lY,e,f,g,i],Z⟩)
def L.pQ(a:Int)(b:RW):Calls prog 197 #[.int .u8 a] b λc d=>c=.returned (.bool<|kI.mO a)/\b=d:=by
 by_cases e:48<=a<;>by_cases f:a<=57;all_goals
  first
  |omega
  |(go_enter func197,ntmps197;go_wp2;go_ret;exact⟨by simp[kI.mO,e,f],Z⟩)
def L.GM(a:Int)(b:RW):Calls prog 191 #[.int .u8 a] b λc d=>c=.returned (.bool<|kI.oc a)/\b=d:=by
 cases h1:(a==32)<;>cases h2:(a==9)<;>cases h3:(a==10)<;>cases h4:(a==13);all_goals
  (go_enter func191,ntmps191;go_wp2;go_ret;exact⟨by simp[kI.oc,h1,h2,h3,h4],Z⟩)
def L.GN(a:Int)(b:RW):Calls prog 193 #[.int .u8 a] b λc d=>c=.returned (.bool<|kI.oZ a)/\b=d:=by
 go_enter func193,ntmps193
 go_wp2;go_ret;exact⟨by simp[kI.oZ],Z⟩
def L.ua(a:Int)(d:RW):Calls prog 195 #[.int .u8 a] d λb c=>b=.returned (.bool<|kI.ma a)/\d=c:=by
 cases h1:kI.lY a<;>cases h2:kI.mO a<;>cases h3:(a==95);all_goals
  (go_enter func195,ntmps195;go_wp2_with (first|(go_at_call 194;apply(oG _ _).M;rintro b c ⟨rfl,rfl⟩)|(go_at_call 197;apply(pQ _ _).M;rintro b c ⟨rfl,rfl⟩));go_ret;exact⟨by simp[kI.ma,h1,h2,h3],Z⟩)
def L.oN(i:FuncId)(d:Int->Bool)(t:∀(m:Array R0) (c:RW),Sem.run prog (callFunc i m) c=.ok (.enter i m) c)(q:∀n c,Calls prog i #[.int .u8 n] c λe f=>e=.returned (.bool<|d n)/\c=f)(a:Se)(c:RW)(r:a.size<=maxLen):
  Calls prog 190 #[.string a,.func (.func i) #[] #[]] c λe f=>e=.returned (.int .i64<|kI.pre d a.data.toList)/\c=f:=by
 unfold maxLen at r;have p:=X q
 go_enter func190,ntmps190
 go_wp2
 go_loop [5] (λj=>∃b:Nat,b<=a.size/\j=b/\b<=kI.pre d a.data.toList) (λj=>a.size-(intOf j).toNat)
 .exact⟨0,QZ _,Z,QZ _⟩
 obtain⟨b,u,rfl,s⟩:=hrel;have k:=X s;by_cases l:b<a.size
 .cases hq:d (a[b].toNat:Int)
  .have g:=X<|kI.yX d a b l k.o hq;go_wp2_with (apply(p.o _ _).M;rintro e f ⟨rfl,rfl⟩);go_ret;exact⟨by rw[g.o];rfl,Z⟩
  have g:=X<|kI.yV d a b l k.o hq;go_wp2_with (apply(p.o _ _).M;rintro e f ⟨rfl,rfl⟩)
  go_round
  .exact⟨b+1,Y,Ur,g.o⟩
  simp[intOf];omega
 have g:=X<|kI.Bx d a b l k.o;go_wp21;go_ret;exact⟨by rw[g.o];rfl,Z⟩
def L.AJ(a:Se)(b:RW)(c:a.size<=maxLen):
  Calls prog 190 #[.string a,.func (.func 191) #[] #[]] b λd e=>d=.returned (.int .i64<|kI.pre kI.oc a.data.toList)/\b=e:=
 oN _ _ (λ_ _=>Up) GM a b c
def L.AK(a:Se)(b:RW)(c:a.size<=maxLen):
  Calls prog 190 #[.string a,.func (.func 193) #[] #[]] b λd e=>d=.returned (.int .i64<|kI.pre kI.oZ a.data.toList)/\b=e:=
 oN _ _ (λ_ _=>Up) GN a b c
def L.qX(a:Se)(b:RW)(c:a.size<=maxLen):
  Calls prog 190 #[.string a,.func (.func 195) #[] #[]] b λd e=>d=.returned (.int .i64<|kI.pre kI.ma a.data.toList)/\b=e:=
 oN _ _ (λ_ _=>Up) ua a b c
def L.uM(a:Se)(b:RW)(c:a.size<=maxLen):
  Calls prog 190 #[.string a,.func (.func 197) #[] #[]] b λd e=>d=.returned (.int .i64<|kI.pre kI.mO a.data.toList)/\b=e:=
 oN _ _ (λ_ _=>Up) pQ a b c
def L.sJ(d:Se)(c:RW)(j:Laid c):
  Calls prog 196 #[.string d] c λe k=>e=.returned (.bool<|kI.tz d.data.toList)/\c=k:=by
 have⟨⟨l,m,n⟩,_⟩:=j
 go_enter func196,ntmps196
 go_wp2_with (refine TW Z 348 _ Z 5 Z l _ m _ n sI Z tZ ?_)
 go_loop [4,6] (λ_ f=>∃a:Nat,a<=39/\f=a/\∀b,b<a->(kI.words[b]?.getD []==d.toList)=false) (λ_ f=>39-(intOf f).toNat)
 .exact⟨0,QZ _,Z,Y⟩
 obtain⟨a,q,rfl,g⟩:=hrel;by_cases i:a<39
 .have r:=λc=>vn c a i;cases hq:(kI.words[a]?.getD []==d.toList)
  .go_wp2
   go_round
   .refine⟨a+1,Y,Ur,λb p=>?_⟩;by_cases e:b=a;rw[e];exact hq;exact g b Y
   simp[intOf];omega
  go_wp2;go_ret;exact⟨by rw[kI.E8 _ a i<|by rw[<-R3];exact hq];rfl,Z⟩
 go_wp2;go_ret;exact⟨by rw[kI.Bz _ λb p=>by rw[<-R3];exact g b Y];rfl,Z⟩
def L.BS(a:Se)(k:RW)(m:a.size<=maxLen):
  Calls prog 139 #[.string a] k λe f=>e=.returned (.int .i64<|kI.my false a.data.toList)/\k=f:=by
 unfold maxLen at m
 go_enter func139,ntmps139
 go_wp21
 go_loop [3] (λg=>∃b:Nat,b<=a.size/\g=b/\b+kI.my false (a.data.toList.drop b)=kI.my false a.data.toList) (λg=>a.size-(intOf g).toNat)
 .exact⟨0,QZ _,Z,Uo⟩
 obtain⟨b,n,rfl,p⟩:=hrel;have q:=X p;go_wp21;refine(AJ _ _ Uy).M ?_;rintro e f ⟨rfl,rfl⟩;rw[kI.ry];have r:=kI.vU kI.oc a b n;generalize c:kI.pre kI.oc (a.data.toList.drop b)=d at*;have s:=X c;have l:=X<|kI.DC _ _ _ q.o c;clear c;go_wp21;apply(Tryz.strings_HasPrefix _ _ _).M;rintro e f ⟨rfl,rfl⟩;rw[kI.ry];cases hp:kI.pfx (a.data.toList.drop<|b+d) [47,47]
 .have i:=X hp;have j:Lib.hasPrefix (a.data.toList.drop<|b+d) ({data:=#[47,47]}:Se).data.toList=false:=hp;rw[j];go_wp21;go_ret;exact⟨by rw[kI.Iw _ _ _ l.o s.o i.o];rfl,Z⟩
 have i:=X hp;have j:Lib.hasPrefix (a.data.toList.drop<|b+d) ({data:=#[47,47]}:Se).data.toList=true:=hp;rw[j];go_wp21;refine(AK _ _ Uy).M ?_;rintro e f ⟨rfl,rfl⟩;rw[kI.ry];have t:=kI.vU kI.oZ a (b+d) r;generalize c:kI.pre kI.oZ (a.data.toList.drop<|b+d)=u at*;have⟨v,x⟩:=kI.Ci _ _ _ l.o i.o c;have w:=X v;clear c;go_wp21
 go_round
 .exact⟨b+d+u,t,Ur,w.o⟩
 simp[intOf];omega
def L.ql{a:RK}{b c:Nat}(d:kI.ox a=(b,c)):rW a=.tuple #[.int .u8 (b:Nat),c]:=by unfold rW;rw[d]
def L.CN(b:Int->Bool)(a:Se):kI.pre b a.data.toList<=a.size:=by have:=kI.wW b a.data.toList;simpa using this
def L.CO(a:Se)(i:RW)(l:Laid i)(p:a.size<=maxLen)(j:0<a.size)(q:kI.lY (a[0]).toNat=true):
  Calls prog 140 #[.string a] i λd e=>d=.returned (rW a.data.toList)/\i=e:=by
 have r:=X l;clear l;have k:=X q;unfold maxLen at p
 go_enter func140,ntmps140
 go_wp2_with (go_at_call 194;apply(oG _ _).M;rintro d e ⟨rfl,rfl⟩);refine(qX _ _ Uy).M ?_;rintro d e ⟨rfl,rfl⟩;have s:=CN kI.ma a;generalize m:kI.pre kI.ma a.data.toList=f at*;have b:=X m;clear m;go_wp21;apply(sJ _ _ r.o).M;rintro d e ⟨rfl,rfl⟩;rw[kI.FX];cases hk:kI.tz<|a.data.toList.take f
 .have g:=X hk;clear hk;by_cases n:f<=12
  .have c:Hid<|rW a.data.toList=.tuple #[.int .u8 (1:Nat),f]:=X (ql<|by rw[kI.FY a j k.o (by rw[b.o];exact g.o) (by rw[b.o];exact n),b.o]);go_wp21
   go_ret2
   exact⟨by rw[c.o];rfl,Z⟩
  have c:Hid<|rW a.data.toList=.tuple #[.int .u8 (5:Nat),.int .i64 (a.size:Nat)]:=X (ql<|by rw[kI.FZ a j k.o (by rw[b.o];exact g.o)<|by rw[b.o];exact n]);go_wp21
  go_ret2
  exact⟨by rw[c.o];rfl,Z⟩
 .have g:=X hk;clear hk;have c:Hid<|rW a.data.toList=.tuple #[.int .u8 (2:Nat),f]:=X (ql<|by rw[kI.Kd a j k.o (by rw[b.o];exact g.o),b.o]);go_wp21
  go_ret2
  exact⟨by rw[c.o];rfl,Z⟩
def L.Er(a:Se)(f:RW)(l:a.size<=maxLen)(g:0<a.size)(m:kI.lY (a[0]).toNat=false)(n:kI.mO (a[0]).toNat=true):
  Calls prog 140 #[.string a] f λb c=>b=.returned (rW a.data.toList)/\f=c:=by
 have i:=m;have j:=n;unfold maxLen at l
 go_enter func140,ntmps140
 go_wp2_with (first|(go_at_call 194;apply(oG _ _).M;rintro b c ⟨rfl,rfl⟩)|(go_at_call 197;apply(pQ _ _).M;rintro b c ⟨rfl,rfl⟩));refine(uM _ _ Uy).M ?_;rintro b c ⟨rfl,rfl⟩;generalize p:kI.pre kI.mO a.data.toList=k at*;have d:=p;cases h1:((k:Int)==1)<;>cases hc:(((a[0]).toNat:Int) !=48)
 .have e:Hid<|rW a.data.toList=.tuple #[.int .u8 (5:Nat),.int .i64 (a.size:Nat)]:=(ql<|by rw[kI.F0 a g i j (by rw[d];rw[QW]at h1;omega) hc])
  go_wp2
  go_ret2
  exact⟨by rw[e.o];rfl,Z⟩
 all_goals
  have e:Hid<|rW a.data.toList=.tuple #[.int .u8 (3:Nat),k]:=(ql<|by rw[kI.Ix a g i j (by rw[d];first|exact .inr hc|(left;rw[R2]at h1;omega)),d])
  go_wp2
  go_ret2
  exact⟨by rw[e.o];rfl,Z⟩
def L.Es(b:Se)(e:RW)(s:Laid e)(l:0<b.size)(t:kI.lY (b[0]).toNat=false)(u:kI.mO (b[0]).toNat=false):
  Calls prog 140 #[.string b] e λd g=>d=.returned (rW b.data.toList)/\e=g:=by
 have⟨_,v,w,m⟩:=s;have x:=X m;clear m;have n:=X t;have p:=X u
 go_enter func140,ntmps140
 go_wp2_with (first|(go_at_call 194;apply(oG _ _).M;rintro d g ⟨rfl,rfl⟩)|(go_at_call 197;apply(pQ _ _).M;rintro d g ⟨rfl,rfl⟩)|refine TW Z 310 _ Z 4 Z v _ w _ x.o Ep Z GL ?_)
 go_loop [8,12] (λ_ i=>∃a:Nat,a<=25/\i=a/\∀c,c<a->kI.pfx b.data.toList (kI.syms[c]?.getD [])=false) (λ_ i=>25-(intOf i).toNat)
 .exact⟨0,QZ _,Z,Y⟩
 obtain⟨a,A,rfl,q⟩:=hrel;have j:=X q;clear q;by_cases r:a<25
 .have B:=λe=>I5 e a r;go_wp21;apply(Tryz.strings_HasPrefix _ _ _).M;rintro d g ⟨rfl,rfl⟩;cases hp:kI.pfx b.data.toList<|kI.syms[a]?.getD []
  .have y:=X hp;have f:Lib.hasPrefix b.data.toList ({data:=(kI.syms[a]?.getD []).toArray}:Se).data.toList=false:=hp;clear hp;rw[f];clear f;go_wp21
   go_round
   .refine⟨a+1,Y,Ur,λc z=>?_⟩;by_cases d:c=a;rw[d];exact y.o;exact j.o c Y
   simp[intOf];omega
  have k:=X<|ql<|kI.Iy b l n.o p.o a r j.o hp;have f:Lib.hasPrefix b.data.toList ({data:=(kI.syms[a]?.getD []).toArray}:Se).data.toList=true:=hp;clear hp;rw[f];clear f;go_wp21
  go_ret2
  exact⟨by rw[k.o];rfl,Z⟩
 have k:=X<|ql<|kI.F2 b l n.o p.o λc z=>j.o c Y;go_wp21
 go_ret2
 exact⟨by rw[k.o];rfl,Z⟩
def L.I6(a:Se)(b:RW)(d:Laid b)(e:a.size<=maxLen)(c:0<a.size):
  Calls prog 140 #[.string a] b λf g=>f=.returned (rW a.data.toList)/\b=g:=by
 cases hl:kI.lY (a[0]).toNat
 .cases hd:kI.mO (a[0]).toNat;exact Es a b d c hl hd;exact Er a b e c hl hd
 .exact CO a b d e c hl
abbrev qR.lj:=List kI.Tok
def qR.A0(a:lj)(b:Nat):Nat:=match a[b]? with|some t=>t.kind|none=>0
def qR.ow(T:lj)(a:Nat):RK:=match T[a]? with|some t=>t.text.data.toList|none=>[]
def qR.wh(T:lj)(a:Nat):Option<|RK×Nat:=if A0 T a=1 then some (ow T a,a+1)else none
def qR.wo(a:RK):Nat:=a.foldl (λb c=>10*b+(c.toNat-48)) 0
def qR.FN(b:lj)(a:Nat):Option<|Nat×Nat:=if A0 b a=3/\(ow b a).all (λc=>decide (48<=c)&&decide (c<=57))=true/\ow b a≠[]/\(ow b a).length<=18 then some (wo<|ow b a,a+1)else none
def qR.wS(a:lj)(b:Nat):Option<|Ex×Nat:=
 if ow a b∈xo then none
 else if A0 a b=3 then(FN a b).map λc=>(.mk 1 [] (c.1:Int) [],c.2)
 else if ow a (b+1)=[91]then none
 else(wh a b).map λc=>(.mk 5 c.1 0 [],c.2)
def qR.qE(T:lj)(a:Nat):Option<|Ex×Nat:=match wS T a with
 |some (x,q)=>if ow T q∈opers then none else some (x,q)
 |none=>none
structure mh(T:lj)(vQ:PV)(w:RW)(pb pos:Nat):Prop where
 ll:∃(tb cap:Nat) (en:Int),w.heap[pb]?=some (.cells #[(tb,T.length,cap),pos,en,vQ.v1,vQ.v2,vQ.v3,vQ.v4,.int .i64 0,.int .i64 0] 153)/\T.length<=cap/\tb≠pb/\tb<vQ.lo/\
  ∀(k:Nat) (x:kI.Tok),T[k]?=some x->w.cell? ⟨tb,k*3,none⟩=some (.int .u8 (x.kind:Nat))/\w.cell? ⟨tb,k*3+1,none⟩=some (.string x.text)/\w.cell? ⟨tb,k*3+2,none⟩=some (.int .i64 (x.off:Nat))
 small:T.length<=20000/\pos<=T.length
 low:pb<vQ.lo/\vQ.lo<=w
def mh.lt{T:lj}{vQ:PV}{w}{pb pos:Nat}(a:mh T vQ w pb pos):pb<w:=by have⟨_,_,_,b,_⟩:=a.ll;exact(QP.1 b).1
def mh.grown{T:lj}{vQ:PV}{w w'}{pb pos:Nat}(a:mh T vQ w pb pos)(c:w.grownBy w' none):mh T vQ w' pb pos:=by have⟨b,f,g,i,j,k,e,l⟩:=a.ll;exact⟨⟨b,f,g,(c.B pb a.lt Uo).T i,j,k,e,λm n p=>by have⟨q,r,s⟩:=l m n p;have d:=c.B b (QO e a.low.2) Uo;exact⟨(Cb b _ d).T q,(Cb b _ d).T r,(Cb b _ d).T s⟩⟩,a.small,a.low.1,QT a.low.2 c.size⟩
def mh.step{e:lj}{i:PV}{f}{c l d:Nat}(a:mh e i f c l)(m:d<=e.length):mh e i (f.setCell (sd c)<|.int .i64 (d:Int)) c d:=by have⟨b,n,p,q,r,j,k,s⟩:=a.ll;refine⟨⟨b,n,p,kr q,r,j,k,λt u v=>?_⟩,⟨a.small.1,m⟩,a.low.1,by rw[QU];exact a.low.2⟩;have⟨w,x,y⟩:=s t u v;have g:=(kE f c 1<|.int .i64 (d:Int)).B b (QO k a.low.2) (λz=>j<|by injection z);exact⟨(Cb b _ g).T w,(Cb b _ g).T x,(Cb b _ g).T y⟩
def lN(T:lj)(vQ:PV)(w:RW)(pb q:Nat)(w':RW):Prop:=mh T vQ w' pb q/\w.grownBy w' (some pb)
def Mw(a:kI.Tok):Value.string a.text=tx a.text.data.toList:=by show Value.string a.text=.string ⟨a.text.data.toList.toArray⟩;rw[Si]
def NR{T:lj}{a:Nat}{b:kI.Tok}(c:T[a]?=some b):A0 T a=b.kind/\ow T a=b.text.data.toList:=by unfold A0 ow;rw[c];exact⟨Z,Z⟩
def Dj{T:lj}{a:Nat}(b:¬a<T.length):A0 T a=0/\ow T a=[]:=by unfold A0 ow;rw[SB Y];exact⟨Z,Z⟩
def KQ(T:lj)(a:Nat)(w:RW)(b:Ending)(c:RW):Prop:=(∃d:Int,b=.returned (.agg #[.int .u8 (A0 T a:Nat),tx<|ow T a,d]))/\Below w w c
def GP(a c b d):(Instr.field 216 (.agg #[c,b,d]) 1).run prog a=.ok b a:=Up
def xR(a b c d):(Instr.field 216 (.agg #[b,c,d]) 0).run prog a=.ok b a:=Up
def KR(c:lj)(d:PV)(e a:Nat)(b:Bool)(f:RW)(g:Ending)(i:RW):Prop:=g=.returned (.bool b)/\lN c d f e (if b then a+1 else a) i
def lN.T{T:lj}{vQ:PV}{w w' a}{pb p q:Nat}(b:lN T vQ w pb p w')(k:lN T vQ w' pb q a):lN T vQ w pb q a:=⟨k.1,ky b.2 k.2⟩
def Ll{a:lj}{b:Nat}{c}(e:ow a b=c)(f:c≠[]):b<a.length:=by by_cases d:b<a.length;exact d;exact absurd ((Dj d).2.symm.T e).symm f
def rv{c:lj}{a q:Nat}{x}(b:wh c a=some (x,q)):A0 c a=1/\ow c a=x/\q=a+1/\a<c.length:=by unfold wh at b;by_cases d:A0 c a=1;rw[RB d]at b;injection b with b;injection b with f g;refine⟨d,f,g.symm,?_⟩;by_cases e:a<c.length;exact e;rw[(Dj e).1]at d;cases d;rw[Rh d]at b;cases b
def BU{b:lj}{a q e:Nat}(c:FN b a=some (e,q)):A0 b a=3/\(ow b a).all (λf=>decide (48<=f)&&decide (f<=57))=true/\ow b a≠[]/\(ow b a).length<=18/\e=wo (ow b a)/\q=a+1/\a<b.length:=by
 unfold FN at c;split at c
 rename_i d
 injection c with c;injection c with g i;exact⟨d.1,d.2.1,d.2.2.1,d.2.2.2,g.symm,i.symm,Ll Z d.2.2.1⟩;cases c
def qR.zr(a b):wo (a++[b])=10*wo a+(b.toNat-48):=by simp[wo]
def qR.Fv:∀(n:Nat) (a:RK),a.length=n->a.all (λb=>decide (48<=b)&&decide (b<=57))=true->wo a<10^n
 |0,a,h,_=>by obtain rfl:=List.eq_nil_of_length_eq_zero h;decide
 |n+1,a,h,ha=>by
  obtain⟨c,b,rfl⟩:∃c b,a=c++[b]:=⟨a.dropLast,a.getLast (by intro d;rw[d]at h;cases h),(List.dropLast_concat_getLast _).symm⟩
  rw[List.all_append,Bool.and_eq_true]at ha;have f:=Fv n c (by simpa using h) ha.1;have e:b<=57:=(by have:=ha.2;simp at this;exact this.2);have g:b.toNat<=57:=e;rw[zr,Nat.pow_succ];omega
def qR.GQ{a:RK}(b:Nat)(c:b<a.length):wo (a.take<|b+1)=10*wo (a.take b)+((a[b]).toNat-48):=by rw[List.take_add_one,List.getElem?_eq_getElem c];exact zr _ _
def qR.Mx{a:RK}(d:a.all (λc=>decide (48<=c)&&decide (c<=57))=true)(b:Nat)(e:b<a.length):48<=(a[b]).toNat/\(a[b]).toNat<=57:=by have:=List.all_eq_true.1 d _<|List.getElem_mem e;simp at this;exact this
def qR.xS:∀{a:RK},a.all (λc=>decide (48<=c)&&decide (c<=57))=true->kI.pre kI.mO a=a.length
 |[],_=>rfl
 |c::a,h=>by
  rw[List.all_cons,Bool.and_eq_true]at h;have b:48<=c.toNat/\c.toNat<=57:=by have:=h.1;simp at this;exact this
  rw[kI.nI,if_pos (by unfold kI.mO;simp;omega),xS h.2,List.length_cons]
def Ew{d:Program}{e:FuncId}{f:Array R0}{a:RW}{b:Nat}{g:R0}
  (i:Calls d e f (a.drewN b) λc j=>c=.returned g/\a.drewN b=j):Calls d e f (a.drewN b) λc k=>c=.returned g/\∃l,k=a.drewN l:=
 i.M λ_ _ ⟨m,n⟩=>⟨m,b,n.symm⟩
def Ey(c)(p:Int)(f:RW)(g:c.all (λi=>decide (48<=i)&&decide (i<=57))=true)(q:c≠[])(x:c.length<=18):
  Calls prog 198 #[.agg #[.int .u8 3,tx c,p]] f λj y=>j=.returned (.tuple #[.int .i64 (wo c:Nat),.int .i64 0])/\Below f f y:=by
 obtain⟨b,e⟩:∃b:Se,b=⟨c.toArray⟩:=⟨_,Z⟩
 have k:b.size=c.length:=by rw[e];exact R6 ..
 have OO:b.data.toList=c:=by rw[e]
 have l:=λ(z:RW)=>L.uM b z Uw;rw[OO,xS g,<-k]at l;have A:=X l;have d:=OF g k OO;have B:b.toList≠[]:=by rw[e,R3];exact q
 have J:b.toList.isEmpty=false:=by
  cases j:b.toList with
  |nil=>exact absurd j B
  |cons=>rfl
 have K:b.size<=18:=Y
 rw[show tx c=.string b from by rw[e]];clear l e OO g q x k
 go_enter func198,ntmps198
 go_wp21;go_quiet ((go_at_call 190;exact Ew<|A.o _));go_wp21;go_loopw [4,5,6,27] (λC _ _ m wr=>∃a:Nat,a<=b.size/\m=a/\C=.int .i64 (wo (c.take a):Nat)/\wr=(f.alloc<|Obj.cells #[Value.int IntKind.u8 3,Value.string b,Value.int IntKind.i64 p] 216).drewN nq) (λ_ _ _ m _=>b.size-(intOf m).toNat)
 .exact⟨0,QZ _,Z,Z,Z⟩
 obtain⟨a,M,rfl,rfl,rfl⟩:=hrel;have r:=Fv a (c.take a) (by rw[Rm];have:=d.o.2.1;omega) (by have:=d.o.1;rw[Sg]at this⊢;exact λD E=>this D<|SH E);by_cases F:a<b.size
 .have G:10^a<=10^17:=Nat.pow_le_pow_right Un Y;have n:a<c.length:=W d.o.2.1;have I:=Mx d.o.1 a n;have s:=X<|GQ a n;have t:b[a]=c[a]:=by have u:b.data.toList[a]?=some b[a]:=(by rw[Q6<|by simpa using F];rfl);rw[d.o.2.2,Q6 n]at u;exact(Option.some.inj u).symm
  have v:(b[a]).toNat=(c[a]).toNat:=(by rw[t]);have N:wo (c.take a)<100000000000000000:=Y;generalize wo (c.take a)=O at*;generalize P:(b[a]).toNat=i at*;rw[<-v]at I s;clear v t r G;go_wp21;go_roundw
  .exact⟨a+1,Y,Ur,by rw[s.o];go_num,trivial⟩
  simp[intOf];omega
 have w:c.take a=c:=Re<|W d.o.2.1;rw[w];have w:a=b.size:=Y;clear r;go_wp21
 go_ret2
 exact⟨Z,mZ (Ba _ _) _⟩
def lN.refl{T:lj}{vQ:PV}{w}{pb pos:Nat}(a:mh T vQ w pb pos):lN T vQ w pb pos w:=⟨a,lC _ _⟩
def JK.ok:lh JK 2:=⟨Y,λa=>by rw[a];rfl,λa c b=>by rw[a]at b;simp at b;rcases b with rfl|rfl<;>rfl,λa _=>a,λa _=>a⟩
def Bc(b:lj)(c:Nat)(d:List<|RK×Nat):Prop:=∀a∈d,a.1≠[]/\ow b c≠a.1
abbrev K7(a:Ex):R0:=.agg #[.int .u8 a.op,tx a.name,a.n,Nl]
def Ia(a:lj)(b:PV)(c d:Nat)(e:Ex)(f:RW)(g:Ending)(i:RW):Prop:=g=.returned (K7 e)/\lN a b f c d i
def Be(b:lj)(vQ:PV)(pb c d:Nat)(e:Ex)(f:FuncId):Prop:=∀a,mh b vQ a pb c->Calls prog f #[.pointer pb] a (Ia b vQ pb d e a)
def mh.other{T:lj}{c:PV}{w}{d j z i:Nat}{u}(e:mh T c w d j)(E:c.lo<=z):mh T c (w.setCell (sa z i) u) d j:=by have⟨a,m,n,p,q,r,k,s⟩:=e.ll;have t:=kE w z i u;have f:=e.low;have l:∀b,b<c.lo->(w.setCell (sa z i) u).heap[b]?=w.heap[b]?:=λb F=>t.B b Y (λv=>by injection v;omega);refine⟨⟨a,m,n,(l d f.1).T p,q,r,k,λx y A=>?_⟩,e.small,f.1,by rw[QU];exact f.2⟩;have⟨B,C,D⟩:=s x y A;have g:=l a k;exact⟨(Cb a _ g).T B,(Cb a _ g).T C,(Cb a _ g).T D⟩
def lN.other{T:lj}{c:PV}{b w}{d e z i:Nat}{u}(a:lN T c b d e w)(g:c.lo<=b)(j:b<=z):lN T c b d e<|w.setCell (sa z i) u:=
 ⟨a.1.other<|QT g j,⟨a.2.os,a.2.tape,a.2.output,by rw[QU];exact a.2.size,λf k l=>(Q0 _ _ _ _<|by show f≠z;omega).T<|a.2.B f k l⟩⟩
def tk{b:lj}{c q:Nat}{x}(a:wS b c=some (x,q)):ow b c∉xo/\((A0 b c=3/\∃v,FN b c=some (v,q)/\x=.mk 1 [] (v:Int) [])\/(A0 b c≠3/\ow b q≠[91]/\∃g,wh b c=some (g,q)/\x=.mk 5 g 0 [])):=by
 unfold wS at a;split at a;cases a
 rename_i i
 refine⟨i,?_⟩;split at a
 rename_i e
 cases hv:FN b c with
 |none=>rw[hv]at a;cases a
 |some y=>rw[hv]at a;injection a with a;injection a with f d;exact .inl ⟨e,y.1,by rw[<-d],f.symm⟩
 rename_i e
 split at a;cases a
 rename_i j
 cases hv:wh b c with
 |none=>rw[hv]at a;cases a
 |some y=>rw[hv]at a;injection a with a;injection a with f d;have⟨_,_,k,_⟩:=rv (x:=y.1) (q:=y.2) hv;exact .inr ⟨e,by rw[<-d,k];exact j,y.1,by rw[<-d],f.symm⟩
def zR{e:lj}{vQ:PV}{b f}{pb g a:Nat}{u0 u1 u2 u3:R0}(i:lN e vQ b pb g f)(c:vQ.lo<=b)(d:b<=a):
 lN e vQ b pb g ((((f.setCell a u0).setCell (sd a) u1).setCell (rm a) u2).setCell (sz a) u3):=(((i.other c d).other c d).other c d).other c d
def sk{w:RW}{a:Nat}{c d e f u0 u1 u2 u3:R0}{b:TypeId}(g:w.heap[a]?=some (.cells #[c,d,e,f] b)):
 ((((w.setCell a u0).setCell (sd a) u1).setCell (rm a) u2).setCell (sz a) u3).heap[a]?=some (.cells #[u0,u1,u2,u3] b):=kr<|kr<|kr<|kr g
def uZ{e}{b:Nat}{g i}(a)(c:Nat)(f:e.heap[b]?=some (.cells (Lm a).toArray g i))(j:a.length=c)(k:c<=100):kz JK (λl=>l=b) e (b,c,c) a:=by
 subst j;refine⟨_,_,a.map λd=>[tx d.1,.int .u8 (d.2:Nat)],Z,QX _,Y,λ_=>⟨b,0,Z,Z,λp q m=>?_⟩,?_⟩;rw[Q7];simp only[World.cell?,f];simpa[Lm]using m;clear f k;induction a with
 |nil=>trivial
 |cons d a n=>exact⟨Z,n⟩
def oJ{b:lj}{c d:Nat}{e}(a:qE b c=some (e,d)):wS b c=some (e,d)/\ow b d∉opers:=by
 unfold qE at a;cases ha:wS b c with
 |none=>rw[ha]at a;cases a
 |some y=>
  rw[ha]at a;have⟨j,k⟩:=y;simp only at a;split at a;cases a
  rename_i f
  injection a with a;injection a with g i;subst g i;exact⟨Z,f⟩
end Go.Proofs.YtbdipimmpgijaaaGreatDoor
namespace Go.Proofs.YtbdipimmpgijaaaGreatDoor.L
open Go.RowKit Go.Shelf Go.Proofs.Tryz
attribute [local go_sem] Oper.semAt_some
def LM(a:kI.Tok):R0:=.agg #[.int .u8 (a.kind:Nat),.string a.text,.int .i64 (a.off:Nat)]
def Kp(n₀ a:Nat)(b c:RW):Prop:=Below n₀ b c/\c.heap[a]?=b.heap[a]?
def Laid.ku{n:Nat}{a B:RW}(b:Below n a B)(k:5+1<=n)(c:Laid a):Laid B:=by have⟨⟨d,e,f⟩,g,i,j⟩:=c;exact⟨⟨d,e,(b.B _ Y).T f⟩,g,i,(b.B _ Y).T j⟩
def KO(a:Se)(w:RW):
  Calls prog 92 #[.string a] w λb c=>b=.returned (.func (.func 138) #[] #[.pointer w])/\w.alloc (.cells #[.string a] 9)=c:=by
 go_enter func92,ntmps92
 go_wp2;go_ret;exact⟨Z,Z⟩
def KP(m:Nat)(aj:1<=m)(j k r:Nat)(a:Se)(A:a.size<=maxLen)(B:5+1<=r)(g s:List kI.Tok->RW->Prop)
  (C:∀c n d,g c d->c.length<(kI.lexB a).length->YieldAt Fence.wide (m-1) prog j #[LM n] d λe f=>
   (e=.returned (.bool true)/\g (c++[n]) f/\Kp r k d f)\/(e=.returned (.bool false)/\s (c++[n]) f))
  (d:RW) (t:d.heap[k]?=some (.cells #[.string a] 9)) (D:Laid d) (E:g [] d):
  CallsIn Fence.wide m prog 138 #[.func (.yield j) #[] #[],.pointer k] d λe f=>(∃F,e=.returned F)/\
   ((∃u,u=kI.lexB a/\g u f)\/(∃c,c<+:kI.lexB a/\s c f)):=by
 have G:=Ui t;have I:=C;have J:=A;unfold maxLen at J;refine callsIn_of_wp func138 Z trivial ?_ rfl;simp only[ntmps138,R6,Rl,Rp,Nat.reduceAdd,Nat.reduceSub,T9,Ua,List.push_toArray,Ud,R8,List.cons_append]
 gi_wp2_with (refine⟨trivial,?_⟩;gi_at_call 139;apply(Ty.2<|BS _ _<|by assumption).mono;rintro e v ⟨rfl,rfl⟩)
 have K:kI.qU a 0<=a.size:=W<|kI.vA a 0<|QZ _
 have L:kI.my false a.data.toList=kI.qU a 0:=by unfold kI.qU;simp
 rw[L]
 gi_loopw [3,4,5] (λo _ _ wr=>∃(c:List kI.Tok) (b:Nat),o=b/\b<=a.size/\c++kI.oU a b=kI.lexB a/\wr.heap[k]?=some (.cells #[.string a] 9)/\Laid wr/\g c wr)
  (λo _ _ _=>a.size-(intOf o).toNat)
 .exact⟨[],_,Z,K,Z,t,D,E⟩
 obtain⟨c,b,rfl,ak,l,w,x,y⟩:=hrel;have G:=Ui w;by_cases p:b<a.size
 .have M:=kI.tN a b p;have q:=kI.tO a b p;have⟨N,O,P,Q,R,S⟩:=I c (kI.Bp a b) wr y (by rw[<-l,q];simp)
  gi_wp2_with fail
  refine⟨trivial,?_⟩;refine(Ty.2<|I6 _ _ x Uy Us).mono ?_;rintro e v ⟨rfl,rfl⟩;rw[kI.ry];have T:rW (a.data.toList.drop b)=.tuple #[.int .u8 ((kI.oF a b).1:Nat),.int .i64 ((kI.oF a b).2:Nat)]:=Z;rw[T];have al:Sem.run prog (Instr.yield j #[.agg #[.int .u8 ((kI.oF a b).1:Nat),.string<|a.extract b<|b+(kI.oF a b).2,b]]) wr=Result.ok (Next.round j N O P Q) wr:=R;have U:kI.rI a b=b+(kI.oF a b).2+kI.qU a (b+(kI.oF a b).2):=Z;generalize(kI.oF a b).1=am at*;generalize(kI.oF a b).2=i at*;have⟨an,V⟩:=M
  gi_wp2_with fail
  apply S.mono;rintro e ao (⟨rfl,aa,ab,ac⟩|⟨rfl,ad⟩)
  .have z:=ac.trans w;have ap:=Ui z;have ae:=(x.ku ab B)
   have af:=kI.vA a (b+i) V;have ag:=aa
   gi_wp2_with fail
   refine⟨trivial,?_⟩;refine(Ty.2<|BS _ _ Uy).mono ?_;rintro e v ⟨rfl,rfl⟩;rw[kI.ry];have ah:kI.my false (a.data.toList.drop<|b+i)=kI.qU a (b+i):=Z;rw[ah];generalize kI.qU a (b+i)=ai at*
   gi_wp2_with fail
   go_roundw
   .exact⟨c++[kI.Bp a b],b+i+ai,Ur,af,by rw[<-U,Ru,T5,<-q,l],z,ae,ag⟩
   simp[intOf];omega
  gi_wp2_with fail
  refine QY (results_none Z _ _ _) Z ?_;exact⟨⟨_,Z⟩,.inr ⟨c++[kI.Bp a b],⟨kI.oU a<|kI.rI a b,by rw[Ru,T5,<-q,l]⟩,ad⟩⟩
 gi_wp2_with fail
 go_end0
 exact⟨⟨_,Z⟩,.inl ⟨c,by have:=l;rw[kI.rT a b p]at this;simpa using this,y⟩⟩
def O9(a b:Nat){c d e:RW}(f:Kp a b c d)(g:Kp a b d e):Kp a b c e:=⟨f.1.T g.1,g.2.T f.2⟩
def Pa{n₀ c:Nat}{w:RW}(j:n₀<=w)(k:c<w)(a:RW)(b:Nat)(o d:Obj)(e:w<=b)(f:a.heap[b]?=some o)(g:o.isCells=false)(i:o.isWalk=false):Kp n₀ c a<|a.putObj b d:=
 ⟨belowK_b j a b o d e f g i,(belowK_b (n₀:=c+1) (w:=w) Y a b o d e f g i).B c Y⟩
def Et(n:Nat)(f:1<=n)(a c:Nat)(b:Se)(g:b.size<=maxLen)(d:5+1<=c)(w:RW)(i:c<=w)(j:a<w)
  (k:w.heap[a]?=some (.cells #[.string b] 9)) (l:Laid w):
  SeqStopsK Fence.wide n prog 138 #[.pointer a] (λm=> #[LM m]) (Kp c a) (λp=>p=kI.lexB b) (λq=>q<+:kI.lexB b) (kI.lexB b).length w:=λr s t u e _ _ v x=>
 KP n f r a c b g d s t v u ((e.B a j).T k) (l.ku (e.M i) d) x
end Go.Proofs.YtbdipimmpgijaaaGreatDoor.L
namespace Go.Proofs.YtbdipimmpgijaaaGreatDoor
open RowKit Go.Proofs.Tryz lH Maps oa qR ChangeShapes WideShapes ChangeAt
def mh.ku{T:lj}{vQ:PV}{w w'}{pb pos:Nat}(a:mh T vQ w pb pos)(b:Below w w w'):mh T vQ w' pb pos:=a.grown<|kC b
def qm{T:lj}{z:PV}{w}{t c:Nat}(A:mh T z w t c):Calls prog 142 #[.pointer t] w<|KQ T c w:=by
 have u:=Ba w By;have i:=X u;have B:=A.ku u;have⟨N,O,j,k,P,Q,R,C⟩:=B.ll;have S:=kt k 0;have U:=kt k 1;have V:=kt k 2;have e:=QQ w By
 by_cases x:c<T.length
 .obtain⟨a,y⟩:∃a,T[c]?=some a:=Gx x;have⟨aa,D,ab⟩:=C c a y;have⟨l,m⟩:=NR y;have f:=On l m;rw[Mw]at D;have ac:(0:Int)<=(c:Int):=Y;have E:(c:Int)<(T.length:Int):=Y;generalize T.length=F at*
  go_enter func142,ntmps142
  go_upto_region 1 with fail;generalize w.alloc By=g at*;have⟨b,d⟩:=Xq w.heap.size;rw[<-d]at e i⊢;have n:=X d;clear d;go_quiet (fail);go_wp21;have⟨⟨G,I,J⟩,K,L,M⟩:=lg e
  go_region
  go_wp21;have hF:((((g.drewN<|nq+1).setCell b<|.int .u8 (a.kind:Nat)).setCell (sd b)<|tx a.text.data.toList).setCell (rm b)<|.int .i64 (a.off:Nat)).heap[b]?=some (.cells #[.int .u8 (a.kind:Nat),tx a.text.data.toList,.int .i64 (a.off:Nat)] 216):=kr<|kr<|kr (w:=g.drewN<|nq+1) e;have p:=kt hF 0;have q:=kt hF 1;have r:=kt hF 2;have s:=n.o;refine QY (v:=.agg #[.int .u8 (a.kind:Nat),tx a.text.data.toList,.int .i64 (a.off:Nat)]) ?_ rfl ⟨⟨_,by rw[f.o.1,f.o.2]⟩,?_⟩;simp[results,Tryz.results142,go_sem,p,q,r];rw[<-s];exact kD (kD (kD (mZ i.o _)<|QX _)<|QX _)<|QX _
 have⟨l,m⟩:=Dj (T:=T) x;have E:¬(c:Int)<(T.length:Int):=Y
 have f:=On l m;generalize T.length=F at*
 go_enter func142,ntmps142
 go_upto_region 1 with fail;generalize w.alloc By=g at*;have⟨b,d⟩:=Xq w.heap.size;rw[<-d]at e i⊢;have n:=X d;clear d;go_quiet (fail);have⟨⟨G,I,J⟩,K,L,M⟩:=lg e;go_wp21;have hF:((((g.drewN nq).setCell b<|.int .u8 0).setCell (sd b) Em).setCell (rm b)<|.int .i64 j).heap[b]?=some (.cells #[.int .u8 0,Em,j] 216):=kr<|kr<|kr (w:=g.drewN nq) e;have p:=kt hF 0;have q:=kt hF 1;have r:=kt hF 2;have s:=n.o;refine QY (v:=.agg #[.int .u8 0,Em,j]) ?_ rfl ⟨⟨j,by rw[f.o.1,f.o.2];rfl⟩,?_⟩;simp[results,Tryz.results142,go_sem,p,q,r];rw[<-s];exact kD (kD (kD (mZ i.o _)<|QX _)<|QX _)<|QX _
def Ap{T:lj}{j:PV}{a}{e b:Nat}(f:mh T j a e b)(g):Calls prog 141 #[.pointer e,tx g] a λi d=>i=.returned (.bool<|ow T b==g)/\Below a a d:=by
 have⟨n,p,q,c,_⟩:=f.ll;have r:=kt c 8;have k:=f
 go_enter func141,ntmps141
 go_wp2_with (apply(qm k).M;rintro i d ⟨⟨l,rfl⟩,c⟩;have s:=GP d (.int .u8 (A0 T b:Nat)) (tx<|ow T b)<|.int .i64 l;have m:=c;clear c);go_ret;exact⟨Z,m⟩
def lN.of{T:lj}{a:PV}{w w'}{pb pos:Nat}(c:mh T a w pb pos)(b:Below w w w'):lN T a w pb pos w':=⟨c.ku b,kK (kC b) _⟩
def lN.ku{T:lj}{vQ:PV}{w0 w w'}{pb pos:Nat}(a:lN T vQ w0 pb pos w)(b:Below w w w'):lN T vQ w0 pb pos w':=a.T<|lN.of a.1 b
def lN.alloc{T:lj}{vQ:PV}{w0 w}{pb pos:Nat}(a:lN T vQ w0 pb pos w)(o):lN T vQ w0 pb pos<|w.alloc o:=a.ku<|(Sf _ _).alloc (QX _) o
