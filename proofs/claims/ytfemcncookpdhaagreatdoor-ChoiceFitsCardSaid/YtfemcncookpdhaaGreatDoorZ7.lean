import Derived.Test.YtfemcncookpdhaaGreatDoorZ2
import Derived.Test.YtfemcncookpdhaaGreatDoorZ3
import Derived.Test.YtfemcncookpdhaaGreatDoorZ4
set_option maxRecDepth 1000000
set_option maxHeartbeats 32000000
set_option linter.all false
namespace Go.Proofs.YtfemcncookpdhaaGreatDoor
open Go.RowKit lX Go.Proofs.Tryz
theorem kx.nM{P w}{lo:Nat}{v l}(h:kx kA 9 1 P w lo v l)(a:0<l.length):
  ∃b o c,v=.slice (some ⟨b,o,none⟩) l.length c/\lo<=b/\b<w/\l.length<=c/\c<=9223372036854775807/\∀k x,l[k]?=some x->w.cell? ⟨b,o+k,none⟩=some (tx x):=by
 obtain⟨q,d,r⟩:=h.own;obtain⟨g,f,e,i,j⟩:=World.ownsRow.form d a;subst e;have hs:=h.sl kA.ok;obtain⟨s,c,m,n,p⟩:=h.form;injection m with _ _ e3;subst e3;exact⟨g,0,f,rfl,i,j,n,p,λk x hx=>(hs.JJ k x hx).2⟩
theorem KG.sl{c d}{o:Nat}{C f}(h:KG c o C f d){e:Type}{R:Rel e}{k:Nat}(ok:kT R k){v}{xs:List e}(hs:km R (Gt o c) c v xs):km R (Gt o d) d v xs:=
 (hs.kg ok λb a=>h.blk a.2 (PH a.1)).M ok λb a=>⟨a.1,ND a.2 h.s⟩
theorem kx.gt{a:Type}{R:Rel a}{T k:Nat}(ok:kT R k){P w}{lo o:Nat}{v}{xs:List a}(h:kx R T k P w lo v xs)(d:∀b,P b->o<b)(e:o<lo):km R (Gt o w) w v xs:=
 (h.sl ok).M ok λb c=>⟨by rcases c.1 with h|h;exact d b h;omega,c.2⟩
theorem Cz(n:Int)(w):Calls prog 192 #[.int .u8 n] w λe w'=>e=.returned (.bool (mh.pE n))/\w=w':=by
 cases h1:mh.nE n<;>cases h2:mh.wC n<;>cases h3:(n==95);all_goals
  (go_enter func192,ntmps192;go_wp2_with (first|(go_at_call 190;refine(wX _ _).M ?_;rintro e w' ⟨rfl,rfl⟩)|(go_at_call 194;refine(Es _ _).M ?_;rintro e w' ⟨rfl,rfl⟩));go_ret;exact⟨by simp[mh.pE,h1,h2,h3],rfl⟩)
theorem Bg(f:FuncId)(p)(g:∀a w,Sem.run prog (callFunc f a) w=.ok (.enter f a) w)(hp:∀n w,Calls prog f #[.int .u8 n] w λe w'=>e=.returned (.bool (p n))/\w=w')(s w)(hs:s.size<=maxLen):
  Calls prog 191 #[.string s,.func (.func f) #[] #[]] w λe w'=>e=.returned (.int .i64 (mh.pre p s.data.toList))/\w=w':=by
 unfold maxLen at hs;have H:=NA hp
 go_enter func191,ntmps191
 go_wp2
 go_loop [5] (λi=>∃k:Nat,k<=s.size/\i=k/\k<=mh.pre p s.data.toList) (λi=>s.size-(intOf i).toNat)
 case atStart=>exact⟨0,NP _,rfl,NP _⟩
 case round=>
  obtain⟨k,j,rfl,c⟩:=hrel;by_cases d:k<s.size
  .cases hq:p (s[k].toNat:Int)
   .have b:=NA (mh.Ep p s k d c hq);go_wp2_with (refine(H.o _ _).M ?_;rintro e w' ⟨rfl,rfl⟩);go_ret;exact⟨by rw[b.o];rfl,rfl⟩
   have b:=NA (mh.Eo p s k d c hq);go_wp2_with (refine(H.o _ _).M ?_;rintro e w' ⟨rfl,rfl⟩)
   go_round
   case rel=>exact⟨k+1,PJ,PQ,b.o⟩
   case measure=>simp[intOf];omega
  have b:=NA (mh.Gv p s k d c);go_wp2;go_ret;exact⟨by rw[b.o];rfl,rfl⟩
theorem xU(s)(w:World)(hs:s.size<=maxLen):
  Calls prog 191 #[.string s,.func (.func 192) #[] #[]] w λe w'=>e=.returned (.int .i64 (mh.pre mh.pE s.data.toList))/\w=w':=
 Bg _ _ (λ_ _=>PL) Cz s w hs
theorem yC(d:Nat)(W:∀d',d=d'+1->Jt d'):Jt d:=by
 intro S w aI n c l j aJ X ak aK hS;have L:=j.len;have aL:n<=12:=PJ
 have hc:=L.2;have B:=NA L.1;have C:=hS;have al:=j;have Y:=X;have Z:=W;clear X hS L W
 go_enter func164,ntmps164
 go_wp2_with fail;go_loopw [3,9] (λv i wr=>∃k r:Nat,k<=n/\i=k/\v=r/\r<=uF (d-1) l k/\Below w w wr) (λ_ i _=>n-(intOf i).toNat);case atStart=>exact⟨0,n,NP _,rfl,rfl,by rw[Eu];have:=B.o;omega,Below.refl _ _⟩
 case round=>
  obtain⟨k,r,aM,rfl,rfl,hr,M⟩:=hrel;have z:=M;have D:=M.size;have G:=hr;by_cases aN:k<n
  .obtain⟨x,hx⟩:∃x,l[k]?=some x:=Gx (PH B.o);obtain⟨p,t,b,rfl,am,A,N⟩:=al.kI (kE.ok .u8 _) k x hx;have aa:p<w:=C p am;have M:p<wr:=PJ;have an:=Y x (NH hx);have hmx:=NH hx;obtain⟨m,aO,aP,aQ,ao,rfl,_,ab,ac⟩:=A.open;subst ao;rw[Nat.add_sub_cancel]at G;obtain⟨_,_,⟨ap,aq⟩,ad,ae⟩:=an;obtain⟨af,c2,rfl,_⟩:=ab.form;obtain⟨ag,c3,rfl,_⟩:=ac.form;have O:=(And.intro (N 4 _ rfl) (N 5 _ rfl))
   have P:=DJ ak hmx;have ah:=(λ(E:World) (F:Below w w E)=>Z m rfl S E af _ c2 x.th (ab.kg (kE.ok .u8 _) (λq y=>F.B q (C q y))) ap ad P.1 PJ (λq y=>ND (C q y) F.size))
   have ai:=(λ(E:World) (F:Below w w E)=>Z m rfl S E ag _ c3 x.el (ac.kg (kE.ok .u8 _) (λq y=>F.B q (C q y))) aq ae P.2 PJ (λq y=>ND (C q y) F.size))
   have aR:(0:Int)<=(k:Int):=PJ;have aS:(k:Int)<(n:Int):=PJ;have Q:=NA (yB m hx);have R:=wG m l;have ar:=Ev m l (k+1) n PJ;rw[B.o]at R;have aT:uF m l (k+1)<=40:=PJ;have aU:=(And.intro R ar)
   clear R;obtain⟨au,T⟩:=Xq x.th.length;obtain⟨em,U⟩:=Xq x.el.length;rw[<-T,<-U]at O;rw[<-T]at ah;rw[<-U]at ai;clear N hx ad ae P T U;go_wp2_with fail;refine sV (λx=>Below wr wr x) (λv w=>∃f b:Nat,v=.int .i64 ((r+(f+b):Nat):Int)/\f<=kN m x.th/\b<=kN m x.el/\Below wr wr w) (mG [(·=r),(·=.slice (some ⟨p,t,none⟩) n c),(·=k),(Pp p (t+k*6)),(Pp p (t+k*6+4)),(·=.slice af au c2),Tr,(·=.slice (some ⟨p,t,none⟩) n c),(·=k),(Pp p (t+k*6)),(Pp p (t+k*6+5)),(·=.slice ag em c3),Tr,Tr,Tr,Tr]) [(6,λv w=>∃(f:Nat),v=f/\f<=kN m x.th),(12,λv w=>∃(b:Nat),v=b/\b<=kN m x.el),(13,λv w=>∃f b:Nat,v=.int .i64 ((f+b:Nat):Int)/\f<=kN m x.th/\b<=kN m x.el),(14,λv w=>∃f b:Nat,v=.int .i64 ((r+(f+b):Nat):Int)/\f<=kN m x.th/\b<=kN m x.el)] ((Below.refl _ _).drew) ⟨?_,?_,?_,?_,?_,?_,?_,?_,?_,?_,?_,?_,?_,?_,?_,?_,trivial⟩ ?_;intro s w a hf j hd hw;have e3:=Sl 3 (hw 15 _ 3 rfl rfl rfl);clear hf j hd hw;exact .q (g:=⟨rfl,a,Qa⟩);exact Pf 0;exact Pf 4;intro s w a hf j hd hw;have aV:=Sv 13 j 1;have aW:=Sv 14 j 2;exact .q (g:=⟨rfl,a,Qa⟩);exact Pv 15 3;intro s w a hf j hd hw;have g:=(Cb p (t+k*6+4) ((z.T (a.M D)).B p aa)).T O.1;exact .l 16 (j 4 _ rfl rfl) g ⟨rfl,a,Qa⟩;intro s w a hf j hd hw;have aX:=Sv 17 j 5;have av:=a.size;replace a:=Hq a;refine .c (ah w (z.T (a.o.M D))) ?_;rintro e w' ⟨f,rfl,hr,V⟩;exact⟨_,rfl,⟨trivial,a.o.T (V.M a.o.size),Qc ⟨f,rfl,hr⟩<|Qd (λu ⟨b,e,hr⟩=>⟨b,e,hr⟩)<|Q2<|Qe⟩⟩;exact Pf 0;exact Pf 4;intro s w a hf j hd hw;have aY:=Sv 19 j 7;have aZ:=Sv 20 j 8;exact .q (g:=⟨rfl,a,Qa⟩);exact Pv 21 9;intro s w a hf j hd hw;have g:=(Cb p (t+k*6+5) ((z.T (a.M D)).B p aa)).T O.2;exact .l 22 (j 10 _ rfl rfl) g ⟨rfl,a,Qa⟩;intro s w a hf j hd hw;have ba:=Sv 23 j 11;have av:=a.size;replace a:=Hq a;refine .c (ai w (z.T (a.o.M D))) ?_;rintro e w' ⟨b,rfl,hr,V⟩;exact⟨_,rfl,⟨trivial,a.o.T (V.M a.o.size),Qd (λu ⟨f,e,hr⟩=>⟨f,e,hr⟩)<|Qc ⟨b,rfl,hr⟩<|Q2<|Qe⟩⟩;intro s w a hf j hd hw;obtain⟨f,aw,ax⟩:=hd _ (Mm 0 rfl) _ rfl rfl;have bb:=Sl 18 aw;obtain⟨b,ay,az⟩:=hd _ (Mm 1 rfl) _ rfl rfl;have bc:=Sl 24 ay;have aA:IntKind.i64.wrap ((f:Int)+(b:Int))=(f:Int)+(b:Int):=(by have:=Q.o;simp[IntKind.wrap,IntKind.bits,IntKind.signed];omega);exact .q (g:=⟨trivial,a,Q2<|Qc ⟨f,b,by first|rfl|simp,ax,az⟩<|Qa⟩);intro s w a hf j hd hw;have bd:=Sv 12 j 0;obtain⟨f,b,aB,I,A⟩:=hd _ (Mm 2 rfl) _ rfl rfl;have be:=Sl 25 aB;have aA:IntKind.i64.wrap ((r:Int)+((f:Int)+(b:Int)))=(r:Int)+((f:Int)+(b:Int)):=(by have:=Q.o;have:=G;simp[IntKind.wrap,IntKind.bits,IntKind.signed];omega);exact .q (g:=⟨trivial,a,Q2<|Qb<|Qc ⟨f,b,by first|rfl|simp,I,A⟩<|Qa⟩);intro s w a hf j hd hw;obtain⟨f,b,aC,I,A⟩:=hd _ (Mm 3 rfl) _ rfl rfl;have bf:=Sl 26 aC;refine .h λK hK=>?_;go_simp;exact hK (⟨f,b,rfl,I,A,a⟩);intro aD bg aE aF;obtain⟨f,b,J,I,A,aG⟩:=aF;replace J:aD 15=.int .i64 ((r+(f+b):Nat):Int):=J;simp only[kr,Act.put,NI,NL,NJ,J];have aH:=(z.T (aG.M D))
   clear aE J;go_wp2_with fail;go_roundw;case rel=>exact⟨k+1,r+(f+b),PJ,PQ,rfl,by rw[Nat.add_sub_cancel,Q.o];have:=G;omega,aH⟩
   case measure=>simp[intOf];omega
  obtain rfl:k=n:=PJ;go_wp2_with fail;go_ret;refine⟨r,rfl,?_,z⟩;have hr:=G;have aj:=wG (d-1) l;rw[B.o]at aj;cases d with
  |zero=>
   cases l with
   |nil=>have:=B.o;simp[uF]at*;omega
   |cons x l=>exact(Y x PK).elim
  |succ d=>rw[Nat.add_sub_cancel]at aj hr;omega
theorem yD(d:Nat)(R:∀d',d=d'+1->Ju d'):Ju d:=by
 intro S w aB n c l b aC T ag aD hS;have F:=b.len;have aE:n<=12:=PJ
 have hc:=F.2;have U:=NA F.1;have A:=hS;have ah:=b;have V:=T;have W:=R;clear T hS F R;by_cases aF:n=0
 .have hz:((n:Int)==0)=true:=by rw[Pd];omega
  go_enter func165,ntmps165
  go_wp2_with fail;go_ret;exact⟨0,rfl,NP _,Below.refl _ _⟩
 have hz:((n:Int)==0)=false:=by rw[NX];omega
 obtain⟨d',rfl⟩:∃d',d=d'+1:=by
  obtain⟨x,hx⟩:∃x,l[0]?=some x:=Gx (PH U.o);have:=V x (NH hx);cases d with
  |zero=>exact this.elim
  |succ d=>exact⟨d,rfl⟩
 go_enter func165,ntmps165
 go_wp2_with fail;go_loopw [3,10] (λv i wr=>∃k r:Nat,k<=n/\i=k/\v=r/\r<=d'/\Below w w wr) (λ_ i _=>n-(intOf i).toNat);case atStart=>exact⟨0,0,NP _,rfl,rfl,NP _,Below.refl _ _⟩
 case round=>
  obtain⟨k,r,aG,rfl,rfl,hr,G⟩:=hrel;have z:=G;have B:=G.size;have I:=hr;by_cases aH:k<n
  .obtain⟨x,hx⟩:∃x,l[k]?=some x:=Gx (PH U.o);obtain⟨f,p,m,rfl,ai,aj,J⟩:=ah.kI (kE.ok .u8 _) k x hx;have X:f<w:=A f ai;have G:f<wr:=PJ;have ak:=V x (NH hx);have hmx:=NH hx;obtain⟨al,aI,aJ,aK,aL,rfl,_,Y,Z⟩:=aj.open;obtain rfl:d'=al:=PJ;obtain⟨_,_,⟨am,an⟩,aa,ab⟩:=ak;obtain⟨ac,c2,rfl,_⟩:=Y.form;obtain⟨ad,c3,rfl,_⟩:=Z.form;have L:=(And.intro (J 4 _ rfl) (J 5 _ rfl))
   have M:=DJ ag hmx;have ae:=(λ(C:World) (D:Below w w C)=>W d' rfl S C ac _ c2 x.th (Y.kg (kE.ok .u8 _) (λq y=>D.B q (A q y))) am aa M.1 PJ (λq y=>ND (A q y) D.size))
   have af:=(λ(C:World) (D:Below w w C)=>W d' rfl S C ad _ c3 x.el (Z.kg (kE.ok .u8 _) (λq y=>D.B q (A q y))) an ab M.2 PJ (λq y=>ND (A q y) D.size))
   have aM:(0:Int)<=(k:Int):=PJ;have aN:(k:Int)<(n:Int):=PJ;obtain⟨ao,N⟩:=Xq x.th.length;obtain⟨em,O⟩:=Xq x.el.length;rw[<-N,<-O]at L;rw[<-N]at ae;rw[<-O]at af;clear J hx aa ab M N O;go_wp2_with fail;refine sV (λx=>Below wr wr x) (λv w=>∃j:Nat,v=j/\j<=d'/\Below wr wr w) (mG [(·=r),(·=.slice (some ⟨f,p,none⟩) n c),(·=k),(Pp f (p+k*6)),(Pp f (p+k*6+4)),(·=.slice ac ao c2),Tr,(·=.slice (some ⟨f,p,none⟩) n c),(·=k),(Pp f (p+k*6)),(Pp f (p+k*6+5)),(·=.slice ad em c3),Tr,Tr,Tr]) [(6,λv w=>∃(s:Nat),v=s/\s<=d'),(12,λv w=>∃(m:Nat),v=m/\m<=d'),(13,λv w=>∃j:Nat,v=j/\j<=d')] ((Below.refl _ _).drew) ⟨?_,?_,?_,?_,?_,?_,?_,?_,?_,?_,?_,?_,?_,?_,?_,trivial⟩ ?_;intro t w a hf b hd hw;have e3:=Sl 3 (hw 14 _ 3 rfl rfl rfl);clear hf b hd hw;exact .q (g:=⟨rfl,a,Qa⟩);exact Pf 0;exact Pf 4;intro t w a hf b hd hw;have aO:=Sv 14 b 1;have aP:=Sv 15 b 2;exact .q (g:=⟨rfl,a,Qa⟩);exact Pv 16 3;intro t w a hf b hd hw;have g:=(Cb f (p+k*6+4) ((z.T (a.M B)).B f X)).T L.1;exact .l 17 (b 4 _ rfl rfl) g ⟨rfl,a,Qa⟩;intro t w a hf b hd hw;have aQ:=Sv 18 b 5;have ap:=a.size;replace a:=Hq a;refine .c (ae w (z.T (a.o.M B))) ?_;rintro e w' ⟨s,rfl,hr,P⟩;exact⟨_,rfl,⟨trivial,a.o.T (P.M a.o.size),Qc ⟨s,rfl,hr⟩<|Qd (λu ⟨m,e,hr⟩=>⟨m,e,hr⟩)<|Qb<|Qe⟩⟩;exact Pf 0;exact Pf 4;intro t w a hf b hd hw;have aR:=Sv 20 b 7;have aS:=Sv 21 b 8;exact .q (g:=⟨rfl,a,Qa⟩);exact Pv 22 9;intro t w a hf b hd hw;have g:=(Cb f (p+k*6+5) ((z.T (a.M B)).B f X)).T L.2;exact .l 23 (b 10 _ rfl rfl) g ⟨rfl,a,Qa⟩;intro t w a hf b hd hw;have aT:=Sv 24 b 11;have ap:=a.size;replace a:=Hq a;refine .c (af w (z.T (a.o.M B))) ?_;rintro e w' ⟨m,rfl,hr,P⟩;exact⟨_,rfl,⟨trivial,a.o.T (P.M a.o.size),Qd (λu ⟨s,e,hr⟩=>⟨s,e,hr⟩)<|Qc ⟨m,rfl,hr⟩<|Qb<|Qe⟩⟩;intro t w a hf b hd hw;have aU:=Sv 13 b 0;obtain⟨s,aq,aV⟩:=hd _ (Mm 0 rfl) _ rfl rfl;have aW:=Sl 19 aq;obtain⟨m,ar,aX⟩:=hd _ (Mm 1 rfl) _ rfl rfl;have aY:=Sl 25 ar;exact .q (g:=⟨trivial,a,Q2<|Qc ⟨max (max r s) m,by show Value.int IntKind.i64 _=Value.int IntKind.i64 _;congr 1;(repeat' split)<;>omega,PH I⟩<|Qa⟩);intro t w a hf b hd hw;obtain⟨j,au,Q⟩:=hd _ (Mm 2 rfl) _ rfl rfl;have aZ:=Sl 26 au;refine .h λK hK=>?_;go_simp;exact hK (⟨j,rfl,Q,a⟩);intro av ba aw ax;obtain⟨j,E,Q,ay⟩:=ax;replace E:av 14=.int .i64 (j:Int):=E;simp only[kr,Act.put,NI,NL,NJ,E];have az:=(z.T (ay.M B))
   clear aw E;go_wp2_with fail;go_roundw;case rel=>exact⟨k+1,j,PJ,PQ,rfl,Q,az⟩
   case measure=>simp[intOf];omega
  obtain rfl:k=n:=PJ;have aA:IntKind.i64.wrap ((r:Int)+1)=((r+1:Nat):Int):=(by have:=I;simp[IntKind.wrap,IntKind.bits,IntKind.signed];omega);go_wp2_with fail;go_ret;exact⟨r+1,by first|rfl|simp[aA],PH I,z⟩
def zy(d:Nat):Prop:=∀(S:Nat->Prop) (b w:World) (cb:Nat) (j k l m hd own c f g params V:Value) (i:List In) (n:Option Addr) (a c1:Nat) (args:List Ex),lO b cb j k l m hd own c f g params V i w->zg S b cb c f g params->km (kz .u8 d) S b (.slice n a c1) args->(∀e∈args,ml d e)->i.length+a*qh d<=100000->a<=1000->
 Calls prog 201 #[.pointer (some ⟨cb,0,none⟩),.slice n a c1] w (uL b cb j k l m hd own c f g params V w (.tuple #[]) (rk i (a*qh d)))
theorem qw(S w R)(n c:Nat)(xs)(name:List UInt8)(T:km (mB .u8) S w (.slice R n c) xs)(aC:n<=1000)(U:∀l∈xs,l.length<=1000)(hS:∀q,S q->q<w):
  Calls prog 142 #[.slice R n c,tx name] w (yF (KO S w) MG (xs.flatten.find? λx=>x.name==name) w):=by
 have I:=T.len;have hc:=I.2;have aD:=mL name;have J:Below w w (w.alloc (.cells #[Em,Nl,Nl] 118)):=Ba _ _;have V:=NF w (.cells #[Em,Nl,Nl] 118);have aj:(w.alloc (.cells #[Em,Nl,Nl] 118)).heap.size=w+1:=PK
 have W:=NA I.1;have ak:=T;have X:=hS;have K:=NA V;have al:=U;clear hS I V U
 go_enter func142,ntmps142
 go_wp2_with fail;obtain⟨z,hz⟩:=Xq w.heap.size;rw[<-hz]at K aj⊢;have f:w<=z:=PJ
 generalize w.alloc (.cells #[Em,Nl,Nl] 118)=B at*;have Y:z<B:=PJ
 clear hz;go_loopw [12] (λi wr=>∃k:Nat,k<=n/\i=k/\(xs.take k).flatten.find? (λx=>x.name==name)=none/\Below B B wr) (λi _=>n-(intOf i).toNat);case atStart=>exact⟨0,NP _,rfl,PK,Below.refl _ _⟩
 case round=>
  obtain⟨k,aE,rfl,Z,a⟩:=hrel;have L:=NA Z;have aF:=a.size;clear Z;by_cases aG:k<n
  .obtain⟨hs,hx⟩:∃x,xs[k]?=some x:=Gx (PH W.o);obtain⟨u,am,r,rfl,an,⟨ao,rfl,g⟩,j⟩:=ak.kI (mB.ok .u8) k hs hx;obtain⟨aa,ab,rfl,ap⟩:=g.form;have aq:u<w:=X u an;have M:At w u (am+k*1) [.slice aa hs.length ab]:=j;have y:=M.kh (J.T (a.M PJ)) aq 0 _ rfl;rw[NS,Og]at y;have aH:u<wr:=PJ;have aI:(0:Int)<=(k:Int):=PJ;have aJ:(k:Int)<(n:Int):=PJ;obtain⟨d,A⟩:=Xq hs.length;have aK:d<=1000:=(by rw[A];exact al hs (NH hx));rw[<-A]at g y ap;have ac:=NA A.symm;have ad:=NA hx;have ar:=(a.alloc PJ (.cells #[.slice aa d ab] 111))
   clear j hx A;go_wp2_with fail;go_loopw [19] (λi wr=>∃b:Nat,b<=d/\i=b/\(hs.take b).find? (λx=>x.name==name)=none/\Below B B wr) (λi _=>d-(intOf i).toNat);case atStart=>exact⟨0,NP _,rfl,PK,ar⟩
   case round=>
    obtain⟨b,aL,rfl,ae,a⟩:=hrel;have af:=NA ae;have a:=a;have aM:=a.size;obtain⟨⟨m,p,s⟩,⟨N,O,P⟩⟩:=kS ((a.B z Y).T K.o);have ag:z<wr:=PJ;have C:=(J.T (a.M PJ))
    clear ae;by_cases aN:b<d
    .obtain⟨x,hx⟩:∃x,hs[b]?=some x:=Gx (PH ac.o);obtain⟨D,au,r,rfl,av,⟨ao,aO,rfl,g,ah⟩,j⟩:=g.kI (mo.ok .u8) b x hx;obtain⟨E,F,rfl,_⟩:=g.form;obtain⟨G,cb,rfl,_⟩:=ah.form;have aw:D<w:=X D av;have M:At w D (au+b*3) [tx x.name,.slice E x.params.length F,.slice G x.body.length cb]:=j;have Q:=M.kh C aw;have y:=Q 0 _ rfl;have aP:=Q 1 _ rfl;have aQ:=Q 2 _ rfl;rw[NS]at y;have aR:D<wr:=PJ;have aS:(0:Int)<=(b:Int):=PJ;have aT:(b:Int)<(d:Int):=PJ;have aU:=mL x.name;have ai:=(uS af.o hx)
     have ax:KO S w x (.agg #[tx x.name,.slice E x.params.length F,.slice G x.body.length cb]):=⟨_,_,_,_,_,_,rfl,g,ah⟩
     have ay:=(a.alloc PJ (.cells #[tx x.name,.slice E x.params.length F,.slice G x.body.length cb] 118))
     clear j hx;cases hq:(x.name==name)
     .have hf:=ai.2 hq;clear m p s N O P;go_wp2_with fail;go_roundw;case rel=>exact⟨b+1,PJ,PQ,hf,ay⟩
      case measure=>simp[intOf];omega
     have hf:xs.flatten.find? (λx=>x.name==name)=some x:=by
      have az:xs=xs.take k++(hs::xs.drop (k+1)):=by
       have t:=(NW.1 ad.o)
       obtain⟨t,aA⟩:=t;rw[<-aA,List.getElem_cons_drop,Pu]
      rw[az,List.flatten_append,OS,List.find?_append,L.o,List.find?_append,ai.1 hq];rfl
     go_wp2_with fail;refine NT (v:=.tuple #[.agg #[tx x.name,.slice E x.params.length F,.slice G x.body.length cb],.bool true]) ?_ rfl ⟨λaB e=>⟨_,rfl,by rw[hf]at e;injection e with e;rw[<-e];exact ax⟩,λhn=>(by rw[hf]at hn;cases hn),(kq (kq (kq C f) f) f).alloc P0 _⟩;simp[results,Tryz.results142,go_sem,m,p,s,ag,O5]
    obtain rfl:d=b:=PJ;have hf:(xs.take (k+1)).flatten.find? (λx=>x.name==name)=none:=by have t:=af.o;rw[NV (PH ac.o)]at t;rw[N5,ad.o,List.flatten_append,List.find?_append,L.o];simpa using t
    clear m p s N O P;go_wp2_with fail;go_roundw;case rel=>exact⟨k+1,PJ,PQ,hf,a⟩
    case measure=>simp[intOf];omega
  obtain rfl:n=k:=PJ;have hf:=L.o;rw[NV (PH W.o)]at hf;obtain⟨⟨m,p,s⟩,⟨N,O,P⟩⟩:=kS ((a.B z Y).T K.o);have C:=(J.T (a.M PJ))
  have ag:z<wr:=PJ;go_wp2_with fail;refine NT (v:=.tuple #[.agg #[Em,Nl,Nl],.bool false]) ?_ rfl ⟨λaB e=>by rw[hf]at e;(cases e),λ_=>rfl,kq (kq (kq C f) f) f⟩;simp[results,Tryz.results142,go_sem,m,p,s]
theorem rV(S w k sc a)(b c:Nat)(d)(f cv:Nat)(g)(i j:Nat)(h:rB S w k sc a b c d f cv g i j)(p:sc.kF=1):
  Calls prog 221 #[.agg #[.slice a b c,.slice d f cv,.slice g i j],tx (nm 116 0)] w (kU (.int .i64 0) w):=by
 have l:Below w w (w.alloc (.cells #[.slice a b c,.slice d f cv,.slice g i j] 305)):=Ba _ _;have m:=(sf S _ k sc a b c d f cv g i j (nm 116 0) (h.kh l))
 have hm:nm 116 0∉oI 112 sc.params:=ow PM;have hf:=Cf h.ok.Ai h.ok.yo p;rw[Od hm,hf]at m
 go_enter func221,ntmps221
 go_wp2_with fail;refine m.M ?_;rintro e r ⟨rfl,q⟩;have n:=(l.T (q.M PK))
 simp only[pP];go_wp2_with fail;go_ret;exact⟨rfl,n.alloc n.size _⟩
theorem uM(cb:Nat)(b c d f w a)(h:tW cb b c d f w):Calls prog 135 #[.pointer (some ⟨cb,0,none⟩),.string a] w λe w'=>e=.returned (.bool true)/\tW cb b c d f w'/\w.grownBy w' (some cb)/\w'.heap.size=w:=by
 obtain⟨g,h⟩:=h;have j:=kf h 4 _ rfl;have k:=ko h 4;have l:=kf h 7 _ rfl;have hc:=ki (i:=4) (u:=.string a) h;have m:=(NC.1 h).1
 go_enter func135,ntmps135
 go_wp2;go_ret;exact⟨rfl,⟨a,hc⟩,kv w cb 4 _,by rw[NM]⟩
def zk(cb:Nat)(a b c d:Value)(w:World)(e:Ending)(w':World):Prop:=e=.returned (.tuple #[])/\tW cb a b c d w'/\nG (λq=>q=cb) w w'
theorem nG.through{o cb:Nat}{w d w'}{B:Nat}(a:Below B w d)(b:nG (Bb o cb) d w')(f:w<=B/\w<=o):nG (λq=>q=cb) w w':=
 ⟨b.os.T a.os,b.tape.T a.tape,b.output.T a.output,NR a.size b.size,λk e hx=>(b.B k (ND e a.size) (λc=>by rcases c with c|c;omega;exact hx c)).T (a.B k PJ)⟩
end Go.Proofs.YtfemcncookpdhaaGreatDoor
namespace Go.Proofs.YtfemcncookpdhaaGreatDoor
open Go.RowKit Go.Proofs.Tryz
theorem kP{A:Type}{P}{w:World}(lo:Nat)(t)(q:TypeId)(e i z)(size s:Nat)(B:P.underlying t=some (.slice e))(hi:P.info? e=some i)(hz:i.zero=some z)
  (K:i.size=size) (L:i.bytes=s) (M:z.cells.size=size) {R:Rel A} (ok:kT R size) (k:Nat->Prop) (v:Value) (xs:List A) (af:kx R e size k w lo v xs)
  (l:Addr) (r:List Value) (C:A) (D:∀N u,r[N]?=some u->w.cell? (l.add N)=some u) (hR:R (λb=>k b/\b<w/\some b≠v.ownBlock) w r C)
  (O:xs.length+1<=maxLen) (Q:(xs.length+1)*s<=140737488355328) (ag:lo<=w):
  ∃d f w',(Builtin.append_ #[t,t] q #[v,.slice (some l) 1 1]).run P w=.ok (.slice d (xs.length+1) f) w'/\kx R e size k w' lo (.slice d (xs.length+1) f) (xs++[C])/\kx R e size k w' lo v xs/\w.grownBy w' v.ownBlock/\
   ((Value.slice d (xs.length+1) f).ownBlock=v.ownBlock\/(Value.slice d (xs.length+1) f).ownBlock=some w.heap.size):=by
 obtain⟨m,j,S⟩:=af.own;obtain⟨T,w',E,U,n,_,V⟩:=run_append_own_at (P:=P) w lo t q e i z size s B hi hz K L M ok.pos v xs.length m.flatten j l 1 1 r (by rw[ok.len hR];omega) D (ok.one hR) O Q ag;have ah:kx R e size k w' lo T (xs++[C]):=by
  refine⟨m++[r],?_,?_⟩;rw[N2];simpa using U;refine(kZ.snoc hR S).imp λr x hx=>ok.M (ok.kg hx λb a=>n.B b a.2.1 (λe=>a.2.2 e)) λb a=>⟨a.1,ND a.2.1 n.size,λe=>?_⟩
  rcases V with F|F;exact a.2.2 (e.T F);rw[F]at e;injection e with e;exact absurd a.2.1 PJ
 have ai:∃d f,T=.slice d (xs.length+1) f:=by
  rcases U.2 with⟨_,W⟩|⟨g,p,c,rfl,_⟩
  omega;exact⟨_,_,rfl⟩
 obtain⟨d,f,rfl⟩:=ai;refine⟨d,f,w',E,ah,?_,n,V⟩;have aj:kZ (R (λb=>k b/\b<w'/\some b≠v.ownBlock) w') m xs:=S.imp λr x hx=>ok.M (ok.kg hx λb a=>n.B b a.2.1 (λe=>a.2.2 e)) λb a=>⟨a.1,ND a.2.1 n.size,a.2.2⟩
 refine⟨m,?_,aj⟩;rcases j.2 with⟨rfl,W⟩|⟨g,p,c,rfl,X,y,Y,Z,aa,ab⟩
 .exact⟨j.1,.inl ⟨rfl,W⟩⟩
 .subst K;by_cases ac:xs.length+1<=p;have ad:r.length=1*i.size:=(by rw[ok.len hR];omega);have G:xs.length*i.size+r.length<=c.size:=(by rw[ad,aa,<-PF];exact Oz _ ac);have hr:=run_append_room (P:=P) (w:=w) t q e i B hi g xs.length p c y l 1 1 r ad D (ok.one hR) ac G;rw[E]at hr;injection hr with I J;injection I with I _ e3;subst I J e3;have ak:=setRow_heap w g c (c.toList.take (xs.length*i.size)++r++c.toList.drop (xs.length*i.size+r.length)).toArray e (0,0) y;refine⟨j.1,.inr ⟨g,_,_,rfl,X,ak,Y,Z,?_,?_⟩⟩;have al:min (xs.length*i.size) c.size=xs.length*i.size:=Ps (NR (PC _ _) G);simp only[Ph,N2,N0,List.length_drop,O8,al];omega;have am:(c.toList.take (xs.length*i.size)).length=xs.length*i.size:=(by rw[N0,O8];exact Ps (NR (PC _ _) G));simp only[OG];have:=List.take_left (l₁:=c.toList.take (xs.length*i.size)) (l₂:=r++c.toList.drop (xs.length*i.size+r.length));rw[am]at this;rw[this];exact ab;obtain⟨ao,ap,ae,_,an⟩:=run_append_arg_grows (P:=P) (w:=w) t q e i z i.size s B hi hz rfl L M ok.pos ⟨g,0,none⟩ xs.length p m.flatten j.1 (j.cells (g:=g) rfl) l 1 1 r (by rw[ok.len hR];omega) D PJ O Q;rw[E]at ae;injection ae with _ J;subst J;refine⟨j.1,.inr ⟨g,p,c,rfl,X,?_,Y,Z,aa,ab⟩⟩;rw[an.B g (NC.1 y).1 PK];exact y
end Go.Proofs.YtfemcncookpdhaaGreatDoor
namespace lX
theorem ug{d k:Nat}{l:List St}{s:St}(h:l[k]?=some s):kN (d+1) (l.take (k+1))=kN (d+1) (l.take k)+HF d s:=by rw[List.take_add_one,h];simp[kN,HF]
theorem GC{a:List Co}{k:Nat}(g:a.length<=3)(j:k<a.length)(hn:∀i c,a[i]?=some c->c.name=kB i):((a.take k).find? λx=>x.name==kB k)=none:=by
 rw[List.find?_eq_none];intro d hy e;obtain⟨f,b⟩:=List.getElem?_of_mem hy;rw[List.getElem?_take]at b;split at b;case isFalse=>simp at b
 case isTrue l=>rw[hn f d b]at e;simp only[beq_iff_eq]at e;have:=sG PJ PJ e;omega
def my(l:List (List UInt8))(hs:List Hd):List (List UInt8):=hs.foldl (λl h=>qA l h.name) l
def kX(l:List (List UInt8))(vs:List (List Hd)):List (List UInt8):=vs.foldl my l
theorem tM:∀{hs:List Hd} {l:List (List UInt8)} {a:List UInt8},a∈l->a∈my l hs
 |[],_,_,h=>h
 |x::hs,l,a,h=>tM (hs:=hs) (l:=qA l x.name) (GK h)
theorem xf:∀{hs:List Hd} {l:List (List UInt8)} {x:Hd},x∈hs->x.name∈my l hs
 |y::hs,l,x,h=>by rcases List.mem_cons.1 h with rfl|h;exact tM (hs:=hs) (l:=qA l x.name) (GJ _ _);exact xf (hs:=hs) (l:=qA l y.name) h
theorem xg:∀{vs:List (List Hd)} {l:List (List UInt8)} {a:List UInt8},a∈l->a∈kX l vs
 |[],_,_,h=>h
 |x::vs,l,a,h=>xg (vs:=vs) (l:=my l x) (tM h)
theorem xh:∀{vs:List (List Hd)} {l:List (List UInt8)} {hs:List Hd} {x:Hd},hs∈vs->x∈hs->x.name∈kX l vs
 |y::vs,l,hs,x,h,hx=>by rcases List.mem_cons.1 h with rfl|h;exact xg (vs:=vs) (l:=my l hs) (xf hx);exact xh (vs:=vs) (l:=my l y) h hx
theorem xi:∀hs l,(my l hs).length<=l.length+hs.length
 |[],l=>by simp[my]
 |x::hs,l=>by have a:=xi hs (qA l x.name);have b:=GI l x.name;show(my (qA l x.name) hs).length<=_;simp only[List.length_cons];omega
theorem pY:∀vs l,(∀hs∈vs,hs.length<=100)->(kX l vs).length<=l.length+100*vs.length
 |[],l,_=>by simp[kX]
 |x::vs,l,h=>by have b:=pY vs (my l x) (λa hy=>h a (List.mem_cons_of_mem _ hy));have c:=xi x l;have d:=h x (List.mem_cons_self ..);show(kX (my l x) vs).length<=_;simp only[List.length_cons];omega
end lX
