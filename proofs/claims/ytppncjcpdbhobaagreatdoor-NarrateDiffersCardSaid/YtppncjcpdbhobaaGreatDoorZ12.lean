import Derived.Test.YtppncjcpdbhobaaGreatDoorZ5
import Derived.Test.YtppncjcpdbhobaaGreatDoorZ6
import Derived.Test.YtppncjcpdbhobaaGreatDoorZ7
import Derived.Test.YtppncjcpdbhobaaGreatDoorZ8
set_option maxRecDepth 1000000
set_option maxHeartbeats 32000000
set_option linter.all false
namespace Go.Proofs.YtppncjcpdbhobaaGreatDoor
open RowKit Go.Proofs.Tryz lI Maps oZ qQ ChangeShapes WideShapes ChangeAt
def my.Bt{l}{cb:Nat}{m n p q r s t u v w}{g e f:Nat}{i:List In}{c}(y:my l cb m n p q r s t u v w (g,e,f) i c){d:Nat}{j:In}(z:i[d]?=some j):
  (∀(a:Nat) x,(wh j)[a]?=some x->c.cell? ⟨g,d*4+a,none⟩=some x/\c.frozen? ⟨g,d*4+a,none⟩=false)/\
   ∀a,a=1\/a=2->∀k:Int,my l cb m n p q r s t u v w (g,e,f) (i.set d<|j.put a k) (c.setCell ⟨g,d*4+a,none⟩<|.int .i64 k)/\nH cb (g,e,f) c (g,e,f) (c.setCell ⟨g,d*4+a,none⟩<|.int .i64 k):=by
 have⟨C,D,b,_,_,A,B⟩:=y.ins z;injection b with b _ _;injection b with b;injection b with b;subst b;exact⟨A,B⟩
def my.Bu{c}{cb:Nat}{d e f j k l m n p q vQ}{a:List In}{r}(s:my c cb d e f j k l m n p q vQ a r)(t:0<a.length):∃g b,vQ=.slice (sh g) a.length b:=by have⟨g,b,u,_⟩:=s.ins (i:=0) (x:=a[0])<|Q7 t;exact⟨g,b,u⟩
def CF(A:Nat)(ae:E0 A):Ic A:=by
 intro af n f a p q r s i t u v w x aD d ag ah o H ai y aj B ak L e M aE;have al:=X M;have am:=ae;obtain⟨an,ao,rfl⟩:=H.form;have C:=kr H.c 10;clear M;by_cases ap:B=0
 .subst ap
  go_enter func197,ntmps197
  go_wp21;go_ret;exact⟨_,Z,_,d,H,.refl _ _ _,(na.refl d).T (na.refl d) Y,QZ _⟩
 have aq:((B:Int)==0)=false:=Uw
 clear C
 go_enter func197,ntmps197
 go_wp21;apply(ln n f a p q r s i t u v w x an _ ao d ⟨27,0,0,0⟩ H Y).M;rintro ar au ⟨rfl,aF,D,E,av,j⟩;have N:D.length=d.length+1:=by rw[j];simp
 obtain⟨aG,aH,rfl⟩:=E.form;have C:=kr E.c 10;have O:=X j;have P:=X N;clear j N;go_wp21;clear C;refine(am af n au a p q r s i t u v w x _ D ag ah o E ai y aj B ak L e al.o<|W P.o).M ?_;rintro ar F ⟨rfl,aI,k,G,aw,j⟩;have Q:=j.len;have R:d.length<k.length:=W P.o
 obtain⟨g,l,rfl⟩:=G.Bu Y;have S:k[d.length]?=some (⟨27,0,0,0⟩:In):=j.ll (by rw[O.o];simp);have I:=X S;have T:=(av.T aw)
 have ax:na d (400*kT A L+1) k:=(na.one O.o ⟨Ur,Ur,λ_=>⟨Ur,by show(0:Int)<=_;omega⟩,λH=>by rcases H with H|H<;>simp at H⟩).T j Y;have ay:D.length<=k.length:=Q.1;have⟨b,J⟩:=Xq k.length;have⟨m,K⟩:=Xq d.length;have az:=X J;have aA:=X K;rw[<-J]at G T R;rw[<-K]at I R⊢;obtain⟨aJ,aK⟩:=nL m b
 clear Q S J K aq;go_wp21;refine tE (λU=>my n a p q r s i t u v w x (g,b,l) k U/\Below F F U) (λaL f=>my n a p q r s i t u v w x (g,b,l) (k.set m<|(⟨27,0,0,0⟩:In).put 1 (b:Int)) f/\nH a (g,b,l) F (g,b,l) f) (mU [(·=.pointer a),(·=.pointer a),(Pp a 10),(·=.slice g b l),(·=m),(·=.pointer a),(·=.pointer a),(Pp a 10),(·=.slice g b l),(·=b),(Pp g<|m*4),(Pp g<|m*4+1),Tr]) [] (⟨G.kv (Below.refl _ _).drew,(Below.refl _ _).drew⟩) ⟨?_,?_,?_,?_,?_,?_,?_,?_,?_,?_,?_,?_,?_,trivial⟩ ?_;exact Pf 0;exact Pv 26 0;exact Pv 27 1;exact Pl 28 2 λ_ c=>kr c.1.c 10;exact Pf 5;exact Pf 0;exact Pv 31 5;exact Pv 32 6;exact Pl 33 7 λ_ c=>kr c.1.c 10;intro V f c y e i aa;have aM:=Sv 34 e 8;exact .q (g:=⟨Z,c,Qa⟩);intro V f c y e i aa;have aN:=Sv 29 e 3;have aO:=Sv 30 e 4;exact .q (g:=⟨Z,c,Qa⟩);exact Pv 36 10;intro V f c y e i aa;have aP:=Sv 37 e 11;have aQ:=Sv 35 e 9;have z:=c.1.Bt I.o;have aR:=(z.1 1 _ Z).1;have aS:=(z.1 1 _ Z).2;have ab:=X<|z.2 1 Ur (b:Int);clear z;refine .h λaT aB=>?_;go_simp;exact aB<|⟨ab.o.1,(nH.kv c.2).T ab.o.2⟩;intro aU aV aC ac;have ad:=X ac;clear aC ac;simp only[nE];go_wp21;go_ret;refine⟨_,Z,_,_,ad.o.1,T.T ad.o.2,ax.put I.o (by rw[aA.o];exact QZ _) (.inl Z) Y (by rw[az.o];exact SH _),?_⟩;rw[S3];exact ay
structure qb(hh m b8 b9:Nat)(op a b n:Int)(t u:ByteArray)(q:Int)(w x:World):Prop where
 ht:rY (hh+1) hh (m+1) x
 ins:x.heap[b8]?=some (.cells #[.int .u8 op,a,b,n] 310)
 row:∃p:Int,x.heap[b9]?=some (.cells #[.string t,.string u,p,q] 312)
 kv:Below hh w x
 lJ:hh+1<b8
 J7:b8<b9
def rY.other{a b d z i:Nat}{u w}(c:rY a b d w)(e:a≠z)(f:b≠z):rY a b d<|w.setCell ⟨z,i,none⟩ u:=by have⟨g,j,k⟩:=c.row;exact⟨(Rf _ _ _ _ e).T c.var,⟨g,j,(Rf _ _ _ _ f).T k⟩,c.ne⟩
def qb.O6{d e c b:Nat}{f g i j:Int}{k l}{m:Int}{n p}(a:qb d e c b f g i j k l m n p)(q:Int):qb d e c b f g i j k l m n<|p.setCell ⟨b,2,none⟩<|.int .i64 q:=by have⟨u,r⟩:=a.row;have s:=a.lJ;have t:=a.J7;exact⟨a.ht.other Y Y,(Rf _ _ _ _<|show c≠b from Y).T a.ins,⟨q,kt r⟩,kD (z:=b) a.kv Y,s,t⟩
def qb.to{e m f g:Nat}{i j b k:Int}{l u}{n:Int}{w d p}(a:qb e m f g i j b k l u n w d)(c:Below d d p):qb e m f g i j b k l u n w p:=by have⟨s,q⟩:=a.row;exact⟨a.ht.kv c,(c.B _ (QS.1 a.ins).1).T a.ins,⟨s,(c.B _ (QS.1 q).1).T q⟩,⟨c.os.T a.kv.os,c.tape.T a.kv.tape,c.output.T a.kv.output,Q8 a.kv.size c.size,λr t=>(c.B r<|W<|(QS.1 a.ht.var).1).T<|a.kv.B r t⟩,a.lJ,a.J7⟩
def qb.grown{c f k l:Nat}{m n b p:Int}{r u}{q:Int}{w x g}(a:qb c f k l m n b p r u q w x)(t:rY (c+1) c (f+1) g)(d:x.grownBy g<|some c):qb c f k l m n b p r u q w g:=by have⟨v,s⟩:=a.row;have z:=a.lJ;have A:=a.J7;have i:∀e,e≠c->¬some e=some c:=λe j y=>j (by injection y);exact⟨t,(d.B _ (QS.1 a.ins).1<|i _ Y).T a.ins,⟨v,(d.B _ (QS.1 s).1<|i _ Y).T s⟩,⟨d.os.T a.kv.os,d.tape.T a.kv.tape,d.output.T a.kv.output,Q8 a.kv.size d.size,λe j=>(d.B e (W<|(QS.1 a.ht.var).1)<|i _ Y).T<|a.kv.B e j⟩,a.lJ,a.J7⟩
def CG(aK c ar)(a C:Nat)(au:List In)(j:kz yj aK c (.slice ar a C) au)(be:∀l∈au,pI a l)(ci:a<=100000)(bf:∀x,aK x->x<c)(bg:pJ c):
  Calls prog 139 #[.slice ar a C] c (Mu c):=by
 have bh:=xY;unfold mQ at bh;have bi:=X j;have bj:=X be;have bk:=X bf;have aL:=X bg;have bl:=X j.len;have cj:IntKind.i64.wrap ((a:Int)+1)=((a+1:Nat):Int):=Uu
 have ck:∀c:World,(Instr.makeSlice 69 (.int .i64<|(a:Int)+1)<|.int .i64<|(a:Int)+1).run prog c=.ok (.slice c (a+1)<|a+1) (c.alloc<|.cells (qa<|List.replicate (a+1) 0) 3):=λc=>Gq (a+1) Y c;have av:=X<|show rY (c+1) c (a+1) ((c.alloc<|.cells (qa<|List.replicate (a+1) 0) 3).alloc<|.cells #[.slice c (a+1)<|a+1] 69)from⟨by have:=QT (c.alloc<|.cells (qa<|List.replicate (a+1) 0) 3)<|.cells #[.slice c (a+1)<|a+1] 69;rw[QU]at this;exact this,⟨List.replicate (a+1) 0,Us,(R3 _ _ _ Us).T<|QT c _⟩,Y⟩;have aM:=X<|show Below c c ((c.alloc<|.cells (qa<|List.replicate (a+1) 0) 3).alloc<|.cells #[.slice c (a+1)<|a+1] 69)from(Ba _ _).alloc Us _;have⟨cl,O⟩:=Xq<|(c.alloc<|.cells (qa<|List.replicate (a+1) 0) 3).alloc<|.cells #[.slice c (a+1)<|a+1] 69;rw[<-O]at av aM;have bm:=X O;clear O
 go_enter func139,ntmps139
 go_wp21;have O:=bm.o;rw[<-O];clear O;have⟨e,aw⟩:=Xq c.heap.size;rw[<-aw]at av⊢;have J:=X aw;clear aw;go_loopw [19] (λi wr=>∃b:Nat,b<=a+1/\i=b/\rY (e+1) e (a+1) wr/\Below e c wr) (λi _=>a+1-(intOf i).toNat)
 .exact⟨0,Q1 _,Z,av.o,by rw[J.o];exact aM.o⟩
 obtain⟨b,bn,rfl,P,aj⟩:=hrel;have Q:=X P;have R:=X aj;have aN:=(QS.1 P.var).1;have ac:=kr P.var 0;by_cases aO:b<a+1
 .have⟨l,ad,cm,ax⟩:=Q.o.get aO;have ay:=X<|ax<|-1;have bo:(0:Int)<=(b:Int):=Y;have bp:(b:Int)<((a:Int)+1):=Y;have aP:e<wr:=Y;go_wp21;go_roundw
  .exact⟨b+1,Y,Uv,ay.o,kD R.o<|QZ _⟩
  simp[intOf];omega
 obtain rfl:b=a+1:=Y;go_wp21;go_loopw [2,29] (λv i wr=>∃(b:Nat) (K:Int),b<=a/\i=b/\v=K/\rY (e+1) e (a+1) wr/\Below e c wr) (λ_ i _=>a-(intOf i).toNat)
 .exact⟨0,0,Q1 _,Z,Z,Q.o,R.o⟩
 obtain⟨b,K,bn,rfl,rfl,P,aj⟩:=hrel;have Q:=X P;have R:=X aj;have aN:=(QS.1 P.var).1;have cn:c.heap.size<=wr:=aj.size;by_cases aO:b<a
 .obtain⟨l,aQ⟩:∃l,au[b]?=some l:=Gx<|W bl.o;obtain⟨co,cp,bq,rfl,cq,br,ak⟩:=(bi.o.ku yj.ok λx aR=>R.o.B x<|by rw[J.o];exact bk.o x aR).ll yj.ok b l aQ;have bs:bq=[.int .u8 l.op,.int .i64 l.a,.int .i64 l.b,.int .i64 l.n]:=br;subst bs;have ad:=ak 0 _ Z;have r:=ak 1 _ Z;have bt:=ak 2 _ Z;have bu:=ak 3 _ Z;rw[Q3]at ad;have aS:=X<|bj.o l<|QV aQ;obtain⟨bo,bp⟩:=nL b a;have⟨L,s,t,u⟩:=l;simp only at ad r bt bu;go_wp21;have aT:=Ba wr<|vm L s t u;have aU:=X<|QT wr<|vm L s t u;have bv:=X<|Q.o.kv aT;have bw:=X<|R.o.T<|aT.M Y;have bx:(wr.alloc<|vm L s t u).heap.size=wr+1:=Us;have⟨p,aV⟩:=Xq wr.heap.size;rw[<-aV]at aU⊢;have aW:p<(wr.alloc<|vm L s t u).heap.size:=Y;have cr:p≠e/\p≠e+1/\e+1<p:=Y;generalize wr.alloc (vm L s t u)=az at*;clear aV;refine tE (λl=>rY (e+1) e (a+1) l/\Below az az l) (λv c=>rY (e+1) e (a+1) c/\az.grownBy c (some e)) (mU [(·=.slice e (a+1) (a+1)),(·=b),(·=.slice e (a+1) (a+1)),(·=b),(Pp e b),Tr,Tr,(Pp e b),Tr]) [(5,λv c=>∃S:Int,v=S),(6,λv c=>∃S:Int,v=S)] (⟨bv.o.kv (Below.refl _ _).drew,(Below.refl _ _).drew⟩) ⟨?_,?_,?_,?_,?_,?_,?_,?_,?_,trivial⟩ ?_;intro y c f m j n q;exact .l 4 (m 4 Z) (kr f.1.var 0) ⟨Z,f,Qa⟩;exact Pf 7;intro y c f m j n q;exact .l 4 (m 4 Z) (kr f.1.var 0) ⟨Z,f,Qa⟩;exact Pf 7;intro y c f m j n q;have cs:=Sv 36 j 2;have ct:=Sv 37 j 3;have aA:(b:Int)<(a:Int)+1:=Y;exact .q (g:=⟨Z,f,Qa⟩);intro y c f m j n q;have cu:=Sv 38 j 4;have⟨bz,g,_,_⟩:=f.1.get (i:=b) Y;exact .q (g:=⟨trivial,f,Qc ⟨_,Z⟩<|Qa⟩);intro y c f m j n q;obtain⟨S,bA⟩:=lg n 0;have cv:=Sl 39 bA;exact .q (g:=⟨trivial,f,Qb<|Qc ⟨_,Z⟩<|Qa⟩);intro y c f m j n q;have al:=Sv 34 j 0;have cw:=Sv 35 j 1;have aA:(b:Int)<(a:Int)+1:=Y;exact .q (g:=⟨Z,f,Qa⟩);intro y c f m j n q;have cx:=Sv 41 j 7;obtain⟨S,bB⟩:=lg n 1;have cy:=Sl 40 bB;have⟨bz,g,cz,ax⟩:=f.1.get (i:=b) Y;have ay:=X<|ax S;refine .h λcA bC=>?_;go_simp;exact bC<|⟨ay.o,ky (kK (kC f.2) _)<|kE _ _ _ _⟩;intro aB aC cB bD;have E:=X bD;simp only[nE];have⟨bE,bF,bG,bH⟩:=aS.o;simp only at bE bF bG bH;obtain⟨k,bI⟩:∃x:Nat,L=(x:Int):=⟨L.toNat,Y⟩
  subst bI;have aX:=(E.o.2.B p aW λD=>by injection D with D;omega).T aU.o;have bJ:=X aX;have bK:p<aC:=QR aW E.o.2.size;have⟨⟨T,U,V,aa⟩,_⟩:=kL aX;have am:=X<|show Below e c aC from bw.o.T ⟨E.o.2.os,E.o.2.tape,E.o.2.output,E.o.2.size,λx aR=>E.o.2.B x Y λD=>by injection D with D;omega⟩;have bL:=X<|aL.o.ku (am.o.B _<|by rw[J.o];exact aL.o.lt) am.o.size;go_wp21;apply(KJ k Y aC bL.o).M;rintro D an ⟨F,G,aD,r,rfl,aY⟩;have aE:=X aY;have cC:=aY.size;have⟨ab,aF⟩:=Xq an.heap.size;have ae:=X<|show qb e a p ab (k:Int) s t u F G r c (an.alloc<|.cells #[.string F,.string G,aD,r] 312)from⟨(E.o.1.kv aE.o).kv<|Below.alloc (Below.refl _ _) (QZ _) _,(R3 _ _ _ Y).T<|(aE.o.B p bK).T bJ.o,⟨aD,by rw[aF];exact QT an _⟩,(am.o.T<|aE.o.M<|W am.o.size).alloc Y _,Y,Y⟩;skip;go_upto_region 13 with fail;rw[<-aF];have⟨bM,aZ⟩:=Xq<|an.alloc<|.cells #[.string F,.string G,aD,r] 312;rw[<-aZ]at ae⊢;clear aZ aF;have⟨M,z⟩:=ae.o.row;have⟨⟨T,U,V,aa⟩,_⟩:=kL ae.o.ins;have⟨⟨af,ag,ah,ai⟩,cD,ao,aG,aH⟩:=kL z;go_cut [29,52]from 29 to 124 (λi C A=>i=b/\(∃B:Bool,C=.bool B)/\A=bM)
  .by_cases QM:k=30
   .subst QM;go_wp21;go_meet;exact⟨Z,⟨_,Z⟩,Z⟩
   by_cases bN:k=31
   .subst bN;go_wp21;go_meet;exact⟨Z,⟨_,Z⟩,Z⟩
   have cE:((k:Int)==30)=false:=Uw;have cF:((k:Int)==31)=false:=Uw;go_wp21;go_meet;exact⟨Z,⟨_,Z⟩,Z⟩
  obtain⟨rfl,⟨B,rfl⟩,rfl⟩:=hcut;go_step;go_cut [29]from 29 to 124 (λi A=>i=b/\qb e a p ab (k:Int) s t u F G r c A)
  .cases B
   .go_wp21;go_meet;exact⟨Z,ae.o⟩
   go_wp21;go_meet;exact⟨Z,ae.o.O6 _⟩
  obtain⟨rfl,bO⟩:=hcut;have d:=X bO;have⟨M,z⟩:=d.o.row;have⟨⟨T,U,V,aa⟩,_⟩:=kL d.o.ins;have⟨⟨af,ag,ah,ai⟩,_⟩:=kL z;have ac:=kr d.o.ht.var 0;have⟨w,ap,_,_⟩:=d.o.ht.get (i:=b) Y;have aA:(b:Int)<(a:Int)+1:=Y;go_upto_region 15 with fail;go_cut [29,77]from 29 to 124 (λi C A=>i=b/\(∃B:Bool,C=.bool B)/\qb e a p ab (k:Int) s t u F G r c A)
  .by_cases QO:w<M
   .go_quiet (fail);go_wp21;go_meet;exact⟨Z,⟨_,Z⟩,d.o.to<|nb (Below.refl _ _) _⟩
   by_cases al:k=34
   .subst al;by_cases ba:w=0
    .subst ba;go_quiet (fail);go_wp21;go_meet;exact⟨Z,⟨_,Z⟩,d.o.to<|nb (Below.refl _ _) _⟩
    have ad:(w !=0)=true:=(by simpa using ba);go_quiet (fail);go_wp21;go_meet;exact⟨Z,⟨_,Z⟩,d.o.to<|nb (Below.refl _ _) _⟩
   have bP:((k:Int)==34)=false:=Uw;go_quiet (fail);go_wp21;go_meet;exact⟨Z,⟨_,Z⟩,d.o.to<|nb (Below.refl _ _) _⟩
  obtain⟨rfl,⟨B,rfl⟩,N⟩:=hcut;have d:=X N;cases B;case true=>go_wp21;refine Q0 (v:=.tuple #[.int .i64 0,false]) ?_ rfl ⟨0,false,Z,by have I:=d.o.kv;rw[J.o]at I;exact I⟩;simp[results,Tryz.results139,go_sem]
  case false=>
   have⟨M,z⟩:=d.o.row;have⟨⟨T,U,V,aa⟩,_⟩:=kL d.o.ins;have⟨⟨af,ag,ah,ai⟩,_⟩:=kL z;have ac:=kr d.o.ht.var 0;have⟨w,ap,_,_⟩:=d.o.ht.get (i:=b) Y;have aA:(b:Int)<(a:Int)+1:=Y;obtain⟨ao,bx⟩:∃ao,IntKind.i64.wrap (w-M)=ao:=⟨_,Z⟩
   obtain⟨aG,cG⟩:∃aG,IntKind.i64.wrap (ao+r)=aG:=⟨_,Z⟩
   have bQ:IntKind.i64.wrap ((b:Int)+1)=((b+1:Nat):Int):=Uu;go_upto_region 17 with fail;go_cut [10,29]from 29 to 124 (λbR i A=>(∃aI:Int,bR=aI)/\i=b/\qb e a p ab (k:Int) s t u F G r c A)
   .go_quiet (fail);go_wp21;go_meet;exact⟨⟨_,Z⟩,Z,d.o.to<|nb (Below.refl _ _) _⟩
   obtain⟨⟨aH,rfl⟩,rfl,N⟩:=hcut;have d:=X N;have⟨M,z⟩:=d.o.row;have⟨⟨T,U,V,aa⟩,_⟩:=kL d.o.ins;have⟨⟨af,ag,ah,ai⟩,_⟩:=kL z;have ac:=kr d.o.ht.var 0;have⟨cH,ap,_,_⟩:=d.o.ht.get (i:=b) Y;go_upto_region 18 with fail;go_cut [2,29]from 29 to 124 (λbS i A=>(∃aI:Int,bS=aI)/\i=b/\qb e a p ab (k:Int) s t u F G r c A)
   .go_wp2_with fail;all_goals (go_meet;exact⟨⟨_,Z⟩,Z,d.o⟩)
   obtain⟨⟨cI,rfl⟩,rfl,N⟩:=hcut;have d:=X N;have⟨M,z⟩:=d.o.row;have⟨⟨T,U,V,aa⟩,_⟩:=kL d.o.ins;have⟨⟨af,ag,ah,ai⟩,_⟩:=kL z;have ac:=kr d.o.ht.var 0;have⟨cJ,ap,_,_⟩:=d.o.ht.get (i:=b) Y;go_upto_region 19 with fail;go_cut [29,110]from 29 to 124 (λi C A=>i=b/\(∃B:Bool,C=.bool B)/\qb e a p ab (k:Int) s t u F G r c A)
   .by_cases QN:k=27
    .subst QN;go_wp21;go_meet;exact⟨Z,⟨_,Z⟩,d.o⟩
    have cK:((k:Int) !=27)=true:=Uw;by_cases al:k=34
    .subst al;go_wp21;go_meet;exact⟨Z,⟨_,Z⟩,d.o⟩
    have bP:((k:Int) !=34)=true:=Uw;go_wp21;apply(uF (e+1) e (a+1) (b+1) aH _ d.o.ht Y Y).M;rintro D bT ⟨bb,rfl,aJ,f⟩;have bU:=X<|d.o.grown aJ f;go_wp21;go_meet;exact⟨Z,⟨_,Z⟩,bU.o⟩
   obtain⟨rfl,⟨B,rfl⟩,N⟩:=hcut;have d:=X N;cases B;case true=>go_wp21;refine Q0 (v:=.tuple #[.int .i64 0,false]) ?_ rfl ⟨0,false,Z,by have I:=d.o.kv;rw[J.o]at I;exact I⟩;simp[results,Tryz.results139,go_sem]
   case false=>
    have⟨M,z⟩:=d.o.row;have⟨⟨T,U,V,aa⟩,_⟩:=kL d.o.ins;have⟨⟨af,ag,ah,ai⟩,_⟩:=kL z;have ac:=kr d.o.ht.var 0;have⟨w,ap,_,_⟩:=d.o.ht.get (i:=b) Y;go_wp21;apply(DW ⟨(k:Int),s,t,u⟩ a _ aS.o).M;rintro D cL ⟨bc,bV,rfl,bW,bX⟩;have aq:=X<|d.o.to bW;cases bV;case false=>
     go_wp21;refine⟨?_,?_⟩;repeat apply Exists.intro
     refine⟨?_,Z⟩;exact⟨b+1,_,Y,Uv,Z,aq.o.ht,aq.o.kv⟩;show a-(intOf<|.int .i64<|(b:Int)+1).toNat<a-(intOf<|.int .i64 (b:Int)).toNat;simp[intOf];omega
    case true=>
     have⟨ad,r⟩:=bX Z;obtain⟨bY,bZ⟩:∃x:Nat,bc=(x:Int):=⟨bc.toNat,Y⟩
     subst bZ;go_wp21;apply(uF (e+1) e (a+1) bY aH _ aq.o.ht Y Y).M;rintro D bT ⟨bb,rfl,aJ,f⟩;have d:=X<|aq.o.grown aJ f;cases bb;case false=>go_wp21;refine Q0 (v:=.tuple #[.int .i64 0,false]) ?_ rfl ⟨0,false,Z,by have I:=d.o.kv;rw[J.o]at I;exact I⟩;simp[results,Tryz.results139,go_sem]
     case true=>
      go_wp21;refine⟨?_,?_⟩;repeat apply Exists.intro
      refine⟨?_,Z⟩;exact⟨b+1,_,Y,Uv,Z,d.o.ht,d.o.kv⟩;show a-(intOf<|.int .i64<|(b:Int)+1).toNat<a-(intOf<|.int .i64 (b:Int)).toNat;simp[intOf];omega
 obtain rfl:b=a:=Y;go_wp21;have aP:e<wr:=Y;have⟨w,ca,_,_⟩:=Q.o.get (i:=b) Y;have cb:=X ca;have cc:=X Q.o.var;have cM:(0:Int)<=(b:Int):=Y;have bQ:(b:Int)<(b:Int)+1:=Y;refine Ri (λl=>Below wr wr l) (mU [(·=K),(·=.slice e (b+1) (b+1)),(·=.slice ar b C),(·=b),(Pp e b),(·=w),(·=.bool (decide (w<=0))),(·=K),(·=.bool (decide (w<=0)))]) [] ((Below.refl _ _).drew) ⟨?_,?_,?_,?_,?_,?_,?_,?_,?_,trivial⟩ ?_;exact λ_ c f m j n q=>.p 2 (q 7 _ 2 Z Z Z) ⟨Z,f,Qa⟩;intro y c f m j n q;exact .l 4 (m 4 Z) (kB ((f.B (e+1) aN).T cc.o) 0 _ Z) ⟨Z,f,Qa⟩;exact .f 0;intro y c f m j n q;have cN:=Sv 127 j 2;exact .q (g:=⟨Z,f,Qa⟩);intro y c f m j n q;have cO:=Sv 126 j 1;have cP:=Sv 128 j 3;exact .q (g:=⟨Z,f,Qa⟩);intro y c f m j n q;have g:=(Cb e b<|f.B e aP).T cb.o;exact .l 129 (j 4 _ Z Z) g ⟨Z,f,Qa⟩;intro y c f m j n q;have cQ:=Sv 130 j 5;exact .q (g:=⟨Z,f,Qa⟩);exact .v 125 0;exact .v 131 6;intro aB cR cd bd cS;have ce:aB 7=.int .i64 K:=bd 7 Ur;have cf:aB 8=.bool (decide (w<=0)):=bd 8 Ur;have cg:=X cd;have ch:c<=e:=W J.o;simp only[nE,ce,cf];go_wp21;refine Q0 (v:=.tuple #[.int .i64 K,.bool<|decide (w<=0)]) ?_ rfl ⟨K,_,Z,(R.o.M ch).T<|cg.o.M Y⟩;simp[results,Tryz.results139,go_sem]
def zU.ku{S w w'}{cb:Nat}{c d e f}(a:zU S w cb c d e f)(b:∀q,S q->w'.heap[q]?=w.heap[q]?)(i:w.heap.size<=w'.heap.size):zU S w' cb c d e f:=
 ⟨a.vars.ku b,a.kZ.ku b,a.kN.ku b,a.params.ku b,λq g=>⟨QR (a.lJ q g).1 i,(a.lJ q g).2⟩⟩
def FP.ku{S w w' a hd b c d}{o:Nat}(f:FP S w a hd b c d o)(e:∀q,S q->w'.heap[q]?=w.heap[q]?):FP S w' a hd b c d o:=by have⟨⟨g,i,j,k⟩,l,⟨m,n,p,r⟩,s,t⟩:=f;exact⟨⟨g,i,j,k.ku (mn.ok .u8) e⟩,l,⟨m,n,p,r.ku pK.ok e⟩,s,t⟩
def nN.ku{T w w'}{b n:Nat}(a:nN T w b n)(c:w'.heap[b]?=w.heap[b]?):nN T w' b n:=by have⟨d,e,f⟩:=a;exact⟨d,c.T e,f⟩
def xZ(c a:Nat)(w)(i:nN 209 w c<|a*3)(C:a<=1000):Calls prog 87 #[.slice c a a] w<|Ie w:=by
 have⟨l,m,n,p,q⟩:=Rm BS;have D:∀w d a e f b,(binOp .eql 205 (.slice d a e)<|.slice none f b).run prog w=.ok (.bool d.isNone) w:=λw d a e f b=>T5 w _ _ d a e f b underlying205;have⟨r,E,s,t⟩:=i.cells;have u:=i.lt
 go_enter func87,ntmps87
 go_wp2_with (at_builtin;refine Tq _ Z _ _ 205 Z w.heap.size 209 l _ 3 40 underlying205 m n p q Z Ur _ _ _ Z (TE w #[] 0 (QZ _) (Q1 _) Z) ⟨c,0,none⟩ a a r Z ?OM ?OO ?OP ?OQ ?OS ?OT ?_);case OM=>omega
 case OO=>intro j v x;rw[lz,Re];exact(Cb c j<|R3 _ _ _ u).T (t j v x)
 case OP=>exact s
 case OQ=>unfold maxLen;omega
 case OS=>omega
 case OT=>simp
 intro y F z A G;obtain⟨k,b,rfl⟩:∃k b,y=.slice k a b:=by
  rcases z.2 with⟨g,I⟩|⟨J,K,L,g,_⟩
  exact⟨none,0,by rw[g];congr 1;omega⟩;exact⟨_,_,by rw[g]⟩
 go_wp2;go_ret;exact⟨_,_,_,Z,((Below.refl _ w).alloc (QZ _) _).grown A Us<|by intro M B;simp[Value.ownBlock]at B;omega⟩
def ya(c a:Nat)(w)(i:nN 4 w c a)(C:a<=1000):Calls prog 88 #[.slice c a a] w<|Ie w:=by
 have⟨l,m,n,p,q⟩:=Rm BU;have D:∀w d a e f b,(binOp .eql 206 (.slice d a e)<|.slice none f b).run prog w=.ok (.bool d.isNone) w:=λw d a e f b=>T5 w _ _ d a e f b underlying206;have⟨r,E,s,t⟩:=i.cells;have u:=i.lt
 go_enter func88,ntmps88
 go_wp2_with (at_builtin;refine Tq _ Z _ _ 206 Z w.heap.size 4 l _ 1 1 underlying206 m n p q Z Ur _ _ _ Z (TE w #[] 0 (QZ _) (Q1 _) Z) ⟨c,0,none⟩ a a r Z ?OM ?OO ?OP ?OQ ?OS ?OT ?_);case OM=>omega
 case OO=>intro j v x;rw[lz,Re];exact(Cb c j<|R3 _ _ _ u).T (t j v x)
 case OP=>exact s
 case OQ=>unfold maxLen;omega
 case OS=>omega
 case OT=>simp
 intro y F z A G;obtain⟨k,b,rfl⟩:∃k b,y=.slice k a b:=by
  rcases z.2 with⟨g,I⟩|⟨J,K,L,g,_⟩
  exact⟨none,0,by rw[g];congr 1;omega⟩;exact⟨_,_,by rw[g]⟩
 go_wp2;go_ret;exact⟨_,_,_,Z,((Below.refl _ w).alloc (QZ _) _).grown A Us<|by intro M B;simp[Value.ownBlock]at B;omega⟩
def kJ.turn{l:Type}{f:Rel l}{m g:Nat}(ok:lh f g){i c e}{n:Nat}{j}{p:List l}(d:kJ f m g i c n j p)(t:∀k,j.ownBlock=some k->e.heap[k]?=c.heap[k]?)(u:∀b,i b->b<c->e.heap[b]?=c.heap[b]?)(v:c.heap.size<=e.heap.size):kJ f m g i e n j p:=by
 have⟨w,q,x⟩:=d.own;refine⟨w,?_,x.imp λC D y=>ok.M (ok.ku y λb a=>u b a.1 a.2.1) λb a=>⟨a.1,QR a.2.1 v,a.2.2⟩⟩;refine⟨q.1,?_⟩;rcases q.2 with d|⟨r,z,A,s,a,B,d⟩
 exact .inl d;refine .inr ⟨r,z,A,s,a,(t r<|by rw[s];rfl).T B,d⟩
def pB.turn{j c b d e}{k:Nat}(f:pB j c b e k)(l:∀a,e.ownBlock=some a->c<=a->a<b->d.heap[a]?=b.heap[a]?)(m:b.heap.size<=d.heap.size):pB j c d e k:=by have⟨n,g,p⟩:=f;exact⟨n,g.turn rj (λa i=>l a i (g.ge a i).1 (g.ge a i).2) (λ_ f=>f.elim) m,p⟩
def qw.to{v}{c d e i f:Nat}{j k l m n p q r s w}{x:Nat}{y b}(h:qw v c d e i f j k l m n p q r s w x y)(a:nZ (λg=>g=c\/g=d\/g=e) y b)(z:∃P A:Value,b.heap[c]?=some (.cells #[j,k,l,m,n,p,q,r,s,P,A] 140))(B:nN 209 b d<|f*3)(C:nN 4 b e f):qw v c d e i f j k l m n p q r s w x b:=by have⟨L,M,N,O⟩:=h.l;have⟨Q,R,S,T,U,V⟩:=h.ne;have aa:=h.g.size;have⟨D,E,F,G,I⟩:=h.r;exact⟨h.g.T (a.M λg J=>by rcases J with h|h|h;exact .inl h;exact .inr<|.inl h;exact .inr<|.inr<|.inl h),z,B,C,⟨D,E,(a.B i Y Y).T F,G.turn (λt _ K u=>a.B t u Y) a.size,I.turn (λt _ K u=>a.B t u Y) a.size⟩,h.l,h.ne⟩
def qw.kv{c}{cb d e f g:Nat}{i j k l m p q r s t}{n:Nat}{x u}(a:qw c cb d e f g i j k l m p q r s t n x)(b:Below x x u):qw c cb d e f g i j k l m p q r s t n u:=by have⟨w,y,v⟩:=a.c;exact a.to (nZ.of b) ⟨w,y,(b.B cb (QS.1 v).1).T v⟩ (a.u.ku<|b.B _ a.u.lt)<|a.f.ku<|b.B _ a.f.lt
def qw.unit{q}{a r s t u:Nat}{c d e f g i j k l v}{w:Nat}{x m}(b:qw q a r s t u c d e f g i j k l v w x)(n:x.grownBy m<|some a)(z:∃P A:Value,m.heap[a]?=some (.cells #[c,d,e,f,g,i,j,k,l,P,A] 140)):qw q a r s t u c d e f g i j k l v w m:=by have⟨B,C,F,G,I,J⟩:=b.ne;have y:∀p,p≠a->¬some p=some a:=λp D E=>D (by injection E);exact b.to (nZ.grown n<|.inl Z) z (b.u.ku<|n.B _ b.u.lt<|y _ B)<|b.f.ku<|n.B _ b.f.lt<|y _ C
def qw.Hz{c}{d b e f g:Nat}{j k l m n p q r s t}{v:Nat}{w}(a:qw c d b e f g j k l m n p q r s t v w)(i:Nat){u}(x:u.oneCell'=true):qw c d b e f g j k l m n p q r s t v<|w.setCell ⟨b,i,none⟩ u:=by have⟨y,z,A⟩:=a.c;have⟨B,D,E,F,G,C⟩:=a.ne;exact a.to (nZ.set<|.inr<|.inl Z) ⟨y,z,(Rf _ _ _ _<|S8 B).T A⟩ (a.u.set i x)<|a.f.ku<|Rf _ _ _ _<|S8 C
def qw.LV{c}{d e b f g:Nat}{j k l m n p q r s t}{v:Nat}{w}(a:qw c d e b f g j k l m n p q r s t v w)(i:Nat){u}(x:u.oneCell'=true):qw c d e b f g j k l m n p q r s t v<|w.setCell ⟨b,i,none⟩ u:=by have⟨y,z,A⟩:=a.c;have⟨D,B,E,F,G,C⟩:=a.ne;exact a.to (nZ.set<|.inr<|.inr Z) ⟨y,z,(Rf _ _ _ _<|S8 B).T A⟩ (a.u.ku<|Rf _ _ _ _ C)<|a.f.set i x
def tG.kv{f}{cb g i c j:Nat}{k l m p q r s t u v w y z}{A B:List Unit}{n:Nat}{C D x E}(a:tG f cb g i c j k l m p q r s t u v w y z A B n C D x)(b:Below x x E):tG f cb g i c j k l m p q r s t u v w y z A B n C D E:=by have⟨I,J,F⟩:=a.c;have⟨K,L,G,M,N,O,P⟩:=a.r;exact⟨a.g.T<|nZ.of b,⟨I,J,(b.B cb (QS.1 F).1).T F⟩,a.u.ku<|b.B _ a.u.lt,a.f.ku<|b.B _ a.f.lt,⟨K,L,(b.B c (QS.1 G).1).T G,M,N,O.turn (λd _ _ e=>b.B d e) b.size,P.turn (λd _ _ e=>b.B d e) b.size⟩,a.ou.kv rj b,a.Hn.kv rj b,Q8 a.s b.size,a.ws,a.vu,a.vf,a.l,a.ne⟩
def tG.alloc{a}{cb b c d e:Nat}{f g i j hd k l m p q r s t}{u v:List Unit}{n:Nat}{w y x}(z:tG a cb b c d e f g i j hd k l m p q r s t u v n w y x)(A):tG a cb b c d e f g i j hd k l m p q r s t u v n w y<|x.alloc A:=z.kv<|Ba _ _
def tG.drew{a}{cb b c d e:Nat}{f g i j hd k l m p q r s t}{u v:List Unit}{n:Nat}{w y x}(z:tG a cb b c d e f g i j hd k l m p q r s t u v n w y x):tG a cb b c d e f g i j hd k l m p q r s t u v n w y {x with drawn:=x.drawn+1}:=z.kv (Below.refl _ _).drew
def tG.O7{k}{s t u v w:Nat}{x y z A B C D E F G I f J}{g K:List Unit}{n:Nat}{p L l m}(a:tG k s t u v w x y z A B C D E F G I f J g K n p L l)(Q:p=false)(ai:g.length<=n)(d:l.grownBy m f.ownBlock)(M:kJ (yq 1) 205 1 (λ_=>False) m k f g):tG k s t u v w x y z A B C D E F G I f J g K n p L m:=by
 have⟨R,S,N⟩:=a.c;have⟨T,U,V,aa⟩:=a.l;have i:∀b,b<k.heap.size->¬some b=f.ownBlock:=λb c j=>W<|(a.vu b j.symm).1
 have ab:=wX a.ou a.Hn yH;have⟨ac,ad,O,P,ae,aj,af,q,ag⟩:=a.r;have ah:=wX a.ou q yH;have e:∀{b:Nat},b<l->¬some b=f.ownBlock->m.heap[b]?=l.heap[b]?:=λc r=>d.B _ c r;exact⟨⟨d.os.T a.g.os,d.tape.T a.g.tape,d.output.T a.g.output,Q8 a.g.size d.size,λb c r=>(e (QR c a.g.size)<|i b c).T<|a.g.B b c r⟩,⟨R,S,(e (QS.1 N).1<|i _ T).T N⟩,a.u.ku<|e a.u.lt<|i _ U,a.f.ku<|e a.f.lt<|i _ V,⟨ac,ad,(e (QS.1 O).1<|i _ aa).T O,P,ae,by rw[P Q];exact⟨g,M,Y⟩,af,q.turn rj (λb c=>e (q.ge b c).2 λj=>ah b j.symm c) (λ_ a=>a.elim) d.size,ag⟩,M,a.Hn.turn rj (λb c=>e (a.Hn.ge b c).2 λj=>ab b j.symm c) (λ_ a=>a.elim) d.size,Q8 a.s d.size,a.ws,a.vu,a.vf,a.l,a.ne⟩
def tG.O8{k}{s t u v w:Nat}{x y z A B C D E F G I J f}{K g:List Unit}{n:Nat}{L p l m}(a:tG k s t u v w x y z A B C D E F G I J f K g n L p l)(Q:p=false)(ai:g.length<=n)(d:l.grownBy m f.ownBlock)(M:kJ (yq 1) 206 1 (λ_=>False) m k f g):tG k s t u v w x y z A B C D E F G I J f K g n L p m:=by
 have⟨R,S,N⟩:=a.c;have⟨T,U,V,aa⟩:=a.l;have i:∀b,b<k.heap.size->¬some b=f.ownBlock:=λb c j=>W<|(a.vf b j.symm).1
 have ab:=wX a.Hn a.ou<|S8 yH;have⟨ac,ad,O,ae,P,⟨af,q,ag⟩,aj⟩:=a.r;have ah:=wX a.Hn q<|S8 yH;have e:∀{b:Nat},b<l->¬some b=f.ownBlock->m.heap[b]?=l.heap[b]?:=λc r=>d.B _ c r;exact⟨⟨d.os.T a.g.os,d.tape.T a.g.tape,d.output.T a.g.output,Q8 a.g.size d.size,λb c r=>(e (QR c a.g.size)<|i b c).T<|a.g.B b c r⟩,⟨R,S,(e (QS.1 N).1<|i _ T).T N⟩,a.u.ku<|e a.u.lt<|i _ U,a.f.ku<|e a.f.lt<|i _ V,⟨ac,ad,(e (QS.1 O).1<|i _ aa).T O,ae,P,⟨af,q.turn rj (λb c=>e (q.ge b c).2 λj=>ah b j.symm c) (λ_ a=>a.elim) d.size,ag⟩,by rw[P Q];exact⟨g,M,Y⟩⟩,a.ou.turn rj (λb c=>e (a.ou.ge b c).2 λj=>ab b j.symm c) (λ_ a=>a.elim) d.size,M,Q8 a.s d.size,a.ws,a.vu,a.vf,a.l,a.ne⟩
def tG.Hz{i}{k l m f n:Nat}{p q r s t u w x y z A B C}{D E:List Unit}{j:Nat}{G F c}(a:tG i k l m f n p q r s t u w x y z A B C D E j G F c){v}(I:pB 205 i c v<|j+1):tG i k l m f n p q r s t u w x y z A B C D E j true F<|c.setCell ⟨f,1,none⟩ v:=by
 have⟨J,K,L⟩:=a.c;have⟨U,V,aa,ab⟩:=a.l;have⟨ac,ad,M,N,O,ae⟩:=a.ne;have⟨af,P,Q,ag,R,ah,S⟩:=a.r;have d:∀{b:Nat},b≠f->(c.setCell ⟨f,1,none⟩ v).heap[b]?=c.heap[b]?:=λe=>Rf _ _ _ _ e;have g:c<=(c.setCell ⟨f,1,none⟩ v).heap.size:=by rw[QW];exact QZ _
 exact⟨a.g.T<|nZ.set<|.inr<|.inr<|.inr Z,⟨J,K,(d<|S8 M).T L⟩,a.u.ku<|d N,a.f.ku<|d O,⟨v,P,kt Q,λT=>(nomatch T),R,I.turn (λb _ e _=>d Y) g,S.turn (λb _ e _=>d Y) g⟩,a.ou.turn rj (λb e=>d<|W<|(a.vu b e).1) (λ_ a=>a.elim) g,a.Hn.turn rj (λb e=>d<|W<|(a.vf b e).1) (λ_ a=>a.elim) g,by rw[QW];exact a.s,a.ws,a.vu,a.vf,a.l,a.ne⟩
def tG.LV{i}{k l m f n:Nat}{p q r s t u w x y z A B C}{D E:List Unit}{j:Nat}{F G c}(a:tG i k l m f n p q r s t u w x y z A B C D E j F G c){v}(I:pB 206 i c v<|j+1):tG i k l m f n p q r s t u w x y z A B C D E j F true<|c.setCell ⟨f,2,none⟩ v:=by
 have⟨J,K,L⟩:=a.c;have⟨U,V,aa,ab⟩:=a.l;have⟨ac,ad,M,N,O,ae⟩:=a.ne;have⟨P,af,Q,R,ag,S,ah⟩:=a.r;have d:∀{b:Nat},b≠f->(c.setCell ⟨f,2,none⟩ v).heap[b]?=c.heap[b]?:=λe=>Rf _ _ _ _ e;have g:c<=(c.setCell ⟨f,2,none⟩ v).heap.size:=by rw[QW];exact QZ _
 exact⟨a.g.T<|nZ.set<|.inr<|.inr<|.inr Z,⟨J,K,(d<|S8 M).T L⟩,a.u.ku<|d N,a.f.ku<|d O,⟨P,v,kt Q,R,λT=>(nomatch T),S.turn (λb _ e _=>d Y) g,I.turn (λb _ e _=>d Y) g⟩,a.ou.turn rj (λb e=>d<|W<|(a.vu b e).1) (λ_ a=>a.elim) g,a.Hn.turn rj (λb e=>d<|W<|(a.vf b e).1) (λ_ a=>a.elim) g,by rw[QW];exact a.s,a.ws,a.vu,a.vf,a.l,a.ne⟩
def tv.turn{e c f:World}{g j:Value}{k l:Nat}(d:tv e c g k)(u:l<e)(n:c.heap.size<=f)(p:∀b,b<c.heap.size->b≠l->some b≠j.ownBlock->f.heap[b]?=c.heap[b]?)(q:∀a,g.ownBlock=some a->some a≠j.ownBlock):tv e f g k:=by have m:=d.lt;have⟨r,s,t⟩:=d;exact⟨r,s.turn kO.ok (λa i=>p a (m a i).2 (W<|(m a i).1)<|q a i) (λ_ d=>d.elim) n,t⟩
def tv.kv{a x b vQ}{n:Nat}(c:tv a x vQ n)(d:Below x x b):tv a b vQ n:=by have⟨e,f,g⟩:=c;exact⟨e,f.kv kO.ok d,g⟩
def rZ.kv{c}{cb:Nat}{d e f g i j P vQ k l m}{n p q:Nat}{x r}(a:rZ c cb d e f g i j P vQ k l m n p q x)(b:Below x x r):rZ c cb d e f g i j P vQ k l m n p q r:=
 ⟨ky a.g<|kK (kC b) _,(b.B cb (QS.1 a.c).1).T a.c,a.r6.kv b,a.r7.kv b,a.r8.kv b,a.d,a.lt⟩
def rZ.O9{g}{c:Nat}{i j k l m n P p q r s}{A u v:Nat}{d}{n':Nat}{t e b}(a:rZ g c i j k l m n P p q r s A u v e)(B:g.grownBy b<|some c)(C:b.heap[c]?=some (.cells #[i,j,k,l,m,n,d,r,s,P,p] 140))(D:kJ kO 9 1 (λ_=>False) b g d t)(E:t.length<=n')(w:d.ownBlock=q.ownBlock\/∃x,d.ownBlock=some x/\e<=x)(y:e.heap.size<=b)(z:∀f,f<e.heap.size->f≠c->some f≠q.ownBlock->b.heap[f]?=e.heap[f]?):rZ g c i j k l m n P p d r s n' u v b:=
 ⟨B,C,⟨t,D,E⟩,a.r7.turn a.lt y z<|Au a.d.1,a.r8.turn a.lt y z<|Au a.d.2.1,⟨Dm a.d.1 w a.r7.lt,Dm a.d.2.1 w a.r8.lt,a.d.2.2⟩,a.lt⟩
def rZ.Pa{g}{c:Nat}{i j k l m n P p q r s}{u A v:Nat}{d}{n':Nat}{t e b}(a:rZ g c i j k l m n P p q r s u A v e)(B:g.grownBy b<|some c)(C:b.heap[c]?=some (.cells #[i,j,k,l,m,n,q,d,s,P,p] 140))(D:kJ kO 9 1 (λ_=>False) b g d t)(E:t.length<=n')(w:d.ownBlock=r.ownBlock\/∃x,d.ownBlock=some x/\e<=x)(y:e.heap.size<=b)(z:∀f,f<e.heap.size->f≠c->some f≠r.ownBlock->b.heap[f]?=e.heap[f]?):rZ g c i j k l m n P p q d s u n' v b:=
 ⟨B,C,a.r6.turn a.lt y z<|Dl a.d.1,⟨t,D,E⟩,a.r8.turn a.lt y z<|Au a.d.2.2,⟨Dn a.d.1 w a.r6.lt,a.d.2.1,Dm a.d.2.2 w a.r8.lt⟩,a.lt⟩
def rZ.Pb{g}{c:Nat}{i j k l m n P p q r s}{u v A:Nat}{d}{n':Nat}{t e b}(a:rZ g c i j k l m n P p q r s u v A e)(B:g.grownBy b<|some c)(C:b.heap[c]?=some (.cells #[i,j,k,l,m,n,q,r,d,P,p] 140))(D:kJ kO 9 1 (λ_=>False) b g d t)(E:t.length<=n')(w:d.ownBlock=s.ownBlock\/∃x,d.ownBlock=some x/\e<=x)(y:e.heap.size<=b)(z:∀f,f<e.heap.size->f≠c->some f≠s.ownBlock->b.heap[f]?=e.heap[f]?):rZ g c i j k l m n P p q r d u v n' b:=
 ⟨B,C,a.r6.turn a.lt y z<|Dl a.d.2.1,a.r7.turn a.lt y z<|Dl a.d.2.2,⟨t,D,E⟩,⟨a.d.1,Dn a.d.2.1 w a.r6.lt,Dn a.d.2.2 w a.r7.lt⟩,a.lt⟩
structure HA(S:Nat->Prop)(w:World)(cb:Nat)(A1:Option Addr)(n1 c1:Nat)(A3:Option Addr)(m3 c3:Nat)(Ah:Option Addr)(ch:Nat)(uN:List Fg)(kF:List Co)(nl:List<|List<|List UInt8):Prop where
 h1:kz mH S w (A1,n1,c1) uN
 Pc:n1<=50
 h3:kz (mn .u8) S w (A3,m3,c3) kF
 Pd:m3<=3
 hh:kz pK S w (Ah,m3,ch) nl
 Pe:∀(i:Nat) (x:Co),kF[i]?=some x->nl[i]?=some (lK [] x.lH)
 lJ:∀q,S q->q<w/\q≠cb
 rows:pJ w
 ne:(5:Nat)≠cb
 gc:∀x∈kF,x.vars.length<=50/\x.lH.length<=4/\∀hs∈x.lH,hs.length<=100/\∀h∈hs,h.params.length<=1000/\kT Ds h.body<=12/\∀s∈h.body,C6 kF Ds s
structure Bi(S2:Nat->Prop)(w3:World)(cb bu bf bx:Nat)(f3 hd own V6 V7 V8 nm:Value)(kF:List Co)(nl:List<|List<|List UInt8)(o:Nat)(ns:List<|List UInt8)(ve:Value)(lH:List<|List Hd):Prop where
 s6:ot S2 w3 V6
 s7:ot S2 w3 V7
 s8:ot S2 w3 V8
 lJ:∀q,S2 q->q<w3/\q≠cb/\q≠bu/\q≠bf/\q≠bx
 fx:FP S2 w3 f3 hd own kF nl o
 rows:pJ w3
 OU:(5:Nat)≠cb/\(5:Nat)≠bu/\(5:Nat)≠bf/\(5:Nat)≠bx
 qN:kz kO S2 w3 nm ns
 vs:kz (nu .u8) S2 w3 ve lH
def Bi.to{e f g}{i j k l A B:Nat}{C D E m n p q r s t v w x}{o:Nat}{y z}(a:Bi e f i j k l m n p q r s t w x o y v z)(u:qw f i j k l A C D E m n p q r s t B g):Bi e g i j k l m n p q r s t w x o y v z:=by have c:∀b,e b->g.heap[b]?=f.heap[b]?:=λb d=>u.g.B b (a.lJ b d).1<|W<|a.lJ b d;exact⟨a.s6.ku c,a.s7.ku c,a.s8.ku c,λb d=>⟨QR (a.lJ b d).1 u.g.size,(a.lJ b d).2⟩,a.fx.ku c,a.rows.ku (u.g.B _ a.rows.lt<|W a.OU) u.g.size,a.OU,a.qN.ku kO.ok c,a.vs.ku (nu.ok .u8) c⟩
def Bi.eq{c b d}{e f g i t v:Nat}{w x y j k l m n p q z A B}{o:Nat}{C D}(r:Bi c b e f g i j k l m n p q A B o C z D)(u:qw b e f g i t w x y j k l m n p q v d):∀a,c a->d.heap[a]?=b.heap[a]?:=λa s=>u.g.B a (r.lJ a s).1<|W<|r.lJ a s
def pB.kv{T a x b vQ}{n:Nat}(d:pB T a x vQ n)(c:Below x x b):pB T a b vQ n:=d.turn (λe _ _ f=>c.B e f) c.size
def pB.app{a d b c e f g}{n:Nat}{l:List Unit}(m:pB a b c f n)(p:kJ (yq 1) d 1 (λ_=>False) c b g l)(q:a≠d)(i:c.grownBy e g.ownBlock):pB a b e f n:=by have⟨r,j,s⟩:=m;exact pB.turn ⟨r,j,s⟩ (λk t _ u=>i.B k u λv=>(wX j p q) k t v.symm) i.size
def pB.set{c a d vQ u}{n b i:Nat}(e:pB c a d vQ n)(g:b<a):pB c a (d.setCell ⟨b,i,none⟩ u) vQ n:=
 e.turn (λf _ j _=>Rf _ _ _ _<|by show f≠b;omega) (by rw[QW];exact QZ _)
def Bi.cm{b c}{d l m n:Nat}{p q r e f g s t u v}{o:Nat}{w x}(a:Bi b c d l m n p q r e f g s u v o w t x){i}(y:ot b c i):zU b c d e f g i:=⟨a.s6,a.s7,a.s8,y,λj k=>⟨(a.lJ j k).1,(a.lJ j k).2.1⟩⟩
def C7.ok:lh C7 3:=
 ⟨Y,λ⟨_,_,_,a,_⟩=>by rw[a];rfl,λ⟨e,f,g,a,b,c,d⟩ l i=>by rw[a]at i;simp at i;rcases i with rfl|rfl|rfl;exact b.one;exact c;exact d,λ⟨e,f,g,a,b,c,d⟩ j=>⟨e,f,g,a,b.M kO.ok j,c,d⟩,λ⟨e,f,g,a,b,c,d⟩ k=>⟨e,f,g,a,b.ku kO.ok k,c,d⟩⟩
def yl.grown{r s}{e pb:Nat}{P i j k l m vQ t x n}(a:yl r s e pb P i j k l m vQ t x)(f:x.grownBy n<|some e)(u:∃v b w d c p q:Value,n.heap[e]?=some (.cells #[i,j,k,l,m,v,b,w,d,p,q] 140)):yl r s e pb P i j k l m vQ t n:=by have⟨B,C,y⟩:=a.lt;have D:=a.ws;have z:∀g,g≠e->¬some g=some e:=λg A c=>A (by injection c);exact⟨a.g.T<|nZ.grown f<|.inl Z,u,(f.B pb (QS.1 a.p).1<|z _<|S8 y).T a.p,a.own.grown C7.ok f (λg c=>by injection c with c;subst c;exact⟨a.np.1,λc=>W<|(a.v _ c.symm).1⟩),Q8 a.s f.size,a.v,a.ws,a.lt,a.np⟩
def yl.kv{a b}{cb pb:Nat}{P c d e f g vQ i x j}(k:yl a b cb pb P c d e f g vQ i x)(l:Below x x j):yl a b cb pb P c d e f g vQ i j:=by have⟨n,p,q,r,s,t,u,m⟩:=k.c;exact k.grown (kK (kC l) _) ⟨n,p,q,r,s,t,u,(l.B cb (QS.1 m).1).T m⟩
def yl.drew{a b}{cb pb:Nat}{P c d e f hd vQ g x}(i:yl a b cb pb P c d e f hd vQ g x):yl a b cb pb P c d e f hd vQ g {x with drawn:=x.drawn+1}:=i.kv (Below.refl _ _).drew
def yl.alloc{a b}{cb pb:Nat}{P c d e f hd vQ g x}(i:yl a b cb pb P c d e f hd vQ g x)(j):yl a b cb pb P c d e f hd vQ g<|x.alloc j:=i.kv<|Ba _ _
def HA.ku{S w w'}{cb:Nat}{d}{e f:Nat}{g}{i j:Nat}{k}{l:Nat}{m n p}(a:HA S w cb d e f g i j k l m n p)(c:∀q,(S q\/q=(5:Nat))->w'.heap[q]?=w.heap[q]?)(r:w.heap.size<=w'.heap.size):HA S w' cb d e f g i j k l m n p:=
 ⟨a.h1.ku mH.ok λq b=>c q<|.inl b,a.Pc,a.h3.ku (mn.ok .u8) λq b=>c q<|.inl b,a.Pd,a.hh.ku pK.ok λq b=>c q<|.inl b,a.Pe,λq b=>⟨QR (a.lJ q b).1 r,(a.lJ q b).2⟩,a.rows.ku (c _<|.inr Z) r,a.ne,a.gc⟩
def Ok.set{a cb b:Nat}{f g i j}(c:Ok a cb f g b i j)(d:cb≠a)(e:b<=a):Ok a cb f g b i<|((j.setCell a Em).setCell ⟨a,1,none⟩ Em).setCell ⟨a,2,none⟩<|.int .i64 0:=
 ⟨kD (kD (kD c.1 e) e) e,(Rf _ _ _ _ d).T<|(Rf _ _ _ _ d).T<|(Rf _ _ _ _ d).T c.2.1,MB c.2.2⟩
structure kY(B b:Nat)(w w':World):Prop where
 kv:Below B w w'
 ku:∀z o,w.heap[z]?=some o->z≠b->wG o->w'.heap[z]?=some o
def kY.refl(B b:Nat)(w):kY B b w w:=⟨Below.refl _ _,λ_ _ a _ _=>a⟩
def kY.T{B b:Nat}{w w' a}(c:kY B b w w')(k:kY B b w' a):kY B b w a:=⟨c.kv.T k.kv,λd o g e f=>k.ku d o (c.ku d o g e f) e f⟩
def kY.size{B b:Nat}{w w'}(a:kY B b w w'):w.heap.size<=w':=a.kv.size
def kY.old{a b:Nat}{w c}(f:a<=w.heap.size)(d:Below w.heap.size w c):kY a b w c:=⟨d.M f,λg o e _ _=>(d.B g (QS.1 e).1).T e⟩
def kY.drew{B b:Nat}{w w'}(a:kY B b w w'):kY B b w w'.drew:=⟨a.kv.drew,a.ku⟩
def tz.set{a b:Nat}{p c:Value}{n:Int}{d:List UInt8}{w:World}{i:Nat}{u:Value}{e:Array Value}(j:a<=b)(f:w.heap[b]?=some (.cells e 155 (0,0)))(k:e.setIfInBounds i u=#[p,c,.int .i64 n])(g:w.ownsRow a 5 1 c d.length<|Lib.byteCells d):tz a b p n d<|w.setCell ⟨b,i,none⟩ u:=by refine⟨j,c,?_,?_⟩;have:=kt (i:=i) (u:=u) f;rw[k]at this;exact this;exact g.kept (row:=some b) ⟨Z,Z,Z,by simp[World.setCell],λq _ l=>Rf _ _ _ _ λm=>l<|by simp[m]⟩<|Or.inr<|wH g f<|ml HQ
def kY.set{a b i:Nat}{w u}(c:a<=b):kY a b w<|w.setCell ⟨b,i,none⟩ u:=
 ⟨(Below.refl a w).setCell (p:=⟨b,i,none⟩) c _,λf o d e _=>(Rf _ _ _ _ e).T d⟩
def tz.ku{B b:Nat}{p}{n:Int}{l w w'}(c:tz B b p n l w)(a:Below w w w'):tz B b p n l w':=by have e:=c.lt;have⟨f,d,g,i⟩:=c;exact⟨f,d,(a.B b e).T g,i.kept (row:=none) ⟨a.os,a.tape,a.output,a.size,λj k _=>a.B j k⟩ (by rcases hv:d.ownBlock with _|q;exact .inl Z;exact .inr Us)⟩
def si.ku{B b:Nat}{n:Int}{l w w'}(h:si B b n l w)(a:Below w w w'):si B b n l w':=by rcases h with h|h;exact .inl<|h.ku a;exact .inr<|h.ku a
def sizeBuilder:(prog.info? 153).map (·.size)=some 2:=Ut
def infoByte:(prog.info? 5).map (λa=>(a.zero,a.size,a.bytes))=some (some<|.int .u8 0,1,1):=Ut
def yc(b:Nat)(a)(f:a.cell? b=some (.pointer b)):
  Calls prog 140 #[.pointer b] a λc d=>c=.returned (.tuple #[])/\d=a:=by
 have⟨g,e,_⟩:=S5.1 sizeBuilder
 go_enter func140,ntmps140
 go_wp2;rw[Lib.run_neq_ptr_same a _ ua e];go_wp2
 go_end0
 exact⟨Z,Z⟩
def wB(a:Nat)(b)(j:b.cell? a=some (.pointer none))(c:b.shape? a=some (155,3))(k:b.frozen? ⟨a,0,none⟩=false):
  Calls prog 140 #[.pointer a] b λe g=>e=.returned (.tuple #[])/\g=b.setCell a (.pointer a):=by
 have⟨l,d,i⟩:=S5.1 sizeBuilder
 go_enter func140,ntmps140
 go_wp2;rw[Lib.run_to_unsafe b ⟨a,0,none⟩ ua Ut d (by rw[i];decide) c<|by show 0<3;decide];simp only[Result.andThen];rw[TZ];go_wp2;rw[run_callFunc_extern (f:=183) (fn:=Tryz.f183) Ut Ut Ut Ut (e:=Extern.AbiNoEscape.same) Ut];rw[Lib.run_noEscape];simp only[Result.andThen];rw[TZ];go_wp2;rw[Lib.run_from_unsafe b ⟨a,0,none⟩ Ut ua d c liesBuilder];simp only[Result.andThen];rw[TZ];go_wp2
 go_end0
 exact⟨Z,Z⟩
def tL(f b:Nat)(j:Int)(k c)(h:si f b j k c):Calls prog 140 #[.pointer b] c λg d=>g=.returned (.tuple #[])/\tz f b (.pointer b) j k d/\kY f b c d:=by rcases h with⟨e,l,a,i⟩|h;apply(wB b c (kr a 0) (by simp[World.shape?,a])<|kx a 0).M;rintro g d ⟨rfl,rfl⟩;exact⟨Z,tz.set e a Z i,kY.set e⟩;have⟨e,l,a,i⟩:=h;apply(yc b c<|kr a 0).M;rintro g d ⟨rfl,rfl⟩;exact⟨Z,⟨e,l,a,i⟩,kY.refl _ _ _⟩
def kY.grown{a b:Nat}{w w' v}{f:Nat}{g}(d:w.ownsRow a 5 1 v f g)(e:w.grownBy w' v.ownBlock)(i:a<=w.heap.size):kY a b w w':=
 ⟨(Below.refl a w).grown e i λj k=>(d.lt j k).1,λl o c _ m=>(e.B l (QS.1 c).1 λn=>wH d c m n.symm).T c⟩
def rW(c b:Nat)(i:Int)(d a e)(y:si c b i d e)(N:d.length+a.length<=140737488355328)(O:c<=e):
  Calls prog 89 #[.pointer b,tx a] e λf n=>∃p,f=.returned p/\(∃z,p=.tuple #[z,.nilIface])/\si c b i (d++a) n/\kY c b e n:=by
 have⟨A,B,C,D,E⟩:=Rm infoByte
 go_enter func89,ntmps89
 go_wp21;apply(tL c b i d e y).M;rintro f F ⟨rfl,G,q⟩;have⟨r,P,g,j⟩:=G;have s:(⟨a.toArray⟩:ByteArray).size=a.length:=UM
 have Q:=kr g 1;have I:=wH j g<|ml HQ;have R:=q.size;go_wp2_with (at_builtin;refine Lib.wpList_append_own_string _ Z _ _ 22 9 Z c 5 A underlying22 underlying9 B C D E _ _ _ Z j ⟨a.toArray⟩ Z ?c3 ?c4 ?c5 ?_);case c3=>rw[s];unfold maxLen;omega
 case c4=>rw[s];omega
 case c5=>omega
 intro t J u v _;have K:=kY.grown (b:=b) j v Y;have L:b<F:=(QS.1 g).1;have k:=(v.B b L λf=>I f.symm).T g;have S:=kr k 1;have T:=kx k 1;have M:J.ownsRow c 5 1 t (d++a).length<|Lib.byteCells<|d++a:=by rw[Ua,Q6];exact u
 obtain⟨w,x,l,rfl⟩:∃w x l,t=.slice w x l:=by
  rcases u.2 with⟨m,_⟩|⟨U,l,V,m,_⟩
  exact⟨_,_,_,m⟩;exact⟨_,_,_,m⟩
 go_wp2
 go_ret2
 exact⟨_,Z,⟨_,Z⟩,.inr<|tz.set r k Z M,(q.T K).T<|kY.set r⟩
def yC(a b:Nat)(m:Int)(c)(d:UInt8)(e)(x:si a b m c e)(N:c.length+1<=140737488355328)(O:a<=e):
  Calls prog 90 #[.pointer b,.int .u8 (d.toNat:Int)] e λg q=>g=.returned .nilIface/\si a b m (c++[d]) q/\kY a b e q:=by
 have⟨y,z,A,B,C⟩:=Rm infoByte
 go_enter func90,ntmps90
 go_wp21;apply(tL a b m c e x).M;rintro g f ⟨rfl,D,r⟩;have⟨s,P,i,n⟩:=D;have c1:=kr i 1;have E:=wH n i<|ml HQ;have Q:=r.size;have R:=Lib.byteCells_length c;go_wp2_with (at_builtin;refine Tq _ Z _ _ 22 Z a 5 y (.int .u8 0) 1 1 underlying22 z A B C Z Ur _ _ _ Z (n.alloc _) ⟨f,0,none⟩ 1 1 [.int .u8 (d.toNat:Int)] Z Z ?c1 ?c2 ?c3 ?c4 ?c5 ?_);case c1=>
  intro F G j
  match F,j with
  |0,j=>simp at j;subst j;simp[Addr.add]
 case c2=>intro G t;simp at t;subst t;rfl
 case c3=>unfold maxLen;omega
 case c4=>omega
 case c5=>simp;omega
 intro u I v w _;have J:b<f:=(QS.1 i).1;have p:=(w.B b Uw λg=>E g.symm).T<|(Lib.alloc_old f _ b J).T i;have K:=(kY.old (b:=b) (show a<=f from Y)<|Ba f<|.cells #[.int .u8 (d.toNat:Int)] 5).T<|kY.grown (b:=b) (n.alloc _) w Uw;have S:=kr p 1;have T:=kx p 1;have L:I.ownsRow a 5 1 u (c++[d]).length<|Lib.byteCells<|c++[d]:=by rw[Ua,Q6];exact v
 obtain⟨k,l,rfl⟩:∃k l,u=.slice (sh k) (c.length+1) l:=by
  rcases v.2 with⟨_,U⟩|⟨k,l,V,M,_⟩
  omega;exact⟨k,l,M⟩
 go_wp2;go_ret;exact⟨Z,.inr<|tz.set s p Z L,(r.T K).T<|kY.set s⟩
def EU.eq{d}{e b:Nat}{w f}(i:EU d e b w)(g:kY e b w f):∀a,d a->f.heap[a]?=w.heap[a]?:=λa j=>by obtain⟨_,k,c|⟨o,c,l⟩⟩:=i a j;exact g.kv.B a c;rw[g.ku a o c k l,c]
def EU.to{d}{a b:Nat}{w w'}(j:EU d a b w)(e:kY a b w w'):EU d a b w':=λf k=>by have⟨l,g,c⟩:=j f k;refine⟨QR l e.size,g,c.imp id λ⟨o,c,i⟩=>⟨o,e.ku f o c g i,i⟩⟩
def oH.ku{B b k:Nat}{n:Int}{w w'}(a:oH B b n k w)(c:Below w w w'):oH B b n k w':=by have⟨d,a,e⟩:=a;exact⟨d,a.ku c,e⟩
def IU(C)(d c b v:Nat)(j D)(e E:Nat)(w)(x:oH d c (b:Int) v j)(g:kz kO C j (.slice D e E) w)(F:EU C d c j)(aj:b<=100)(ak:v<=100000000)(al:e<=9)(G:∀f∈w,f.length<=20000):
  Calls prog 47 #[.pointer c,.slice D e E] j λs I=>s=.returned (.tuple #[])/\oH d c (b:Int) (v+1) I/\kY d c j I:=by
 have am:=x.lt;have S:=x.cell.1;have T:=X g.len;have U:=X g;have J:=X F;have V:=X G;have⟨K,L,an⟩:=x;have aa:=X L;clear L g F G
 go_enter func47,ntmps47
 go_wp21;go_loopw [10] (λi wr=>∃(a:Nat) (k:List UInt8),a<=b/\i=a/\si d c (b:Int) k wr/\k.length=K.length+2*a/\kY d c j wr) (λi _=>b-(intOf i).toNat)
 .exact⟨0,K,Q1 _,Z,aa.o,Z,kY.refl _ _ _⟩
 clear S;obtain⟨a,k,ao,rfl,M,ap,y⟩:=hrel;have N:=X M;have t:=X y;have aq:=y.size;clear M y;by_cases ar:a<b
 .obtain⟨ab,ac⟩:=nL a b;go_wp21;refine(rW d c (b:Int) k [32,32] wr N.o Uw Y).M ?_;rintro s O ⟨z,rfl,⟨ad,rfl⟩,m,l⟩;have u:=X m;have n:=X l;clear m l;go_wp21;go_roundw
  .exact⟨a+1,_,Y,Uv,u.o,Uw,t.o.T n.o⟩
  simp[intOf];omega
 obtain rfl:b=a:=Y;go_wp21;have ae:=X<|J.o.to t.o;have af:=X<|U.o.ku kO.ok<|J.o.eq t.o;obtain⟨ag,rfl⟩:=Xq wr;go_loopw [19] (λi wr=>∃(a:Nat) (p:List UInt8),a<=e/\i=a/\si d c (b:Int) p wr/\p.length<=k.length+20000*a/\kY d c ag wr) (λi _=>e-(intOf i).toNat)
 .exact⟨0,k,Q1 _,Z,N.o,QZ _,kY.refl _ _ _⟩
 obtain⟨a,p,au,rfl,m,av,l⟩:=hrel;have u:=X m;have n:=X l;have aw:=l.size;clear m l;by_cases ax:a<e
 .obtain⟨f,g⟩:∃f,w[a]?=some f:=Gx<|W T.o.1;obtain⟨ay,az,z,rfl,ah,P,Q⟩:=(af.o.ku kO.ok<|ae.o.eq n.o).ll kO.ok a f g;have ai:z=[tx f]:=P;subst ai;have R:=Q 0 _ Z;rw[Q3,RA]at R;have aA:=V.o f<|QV g;obtain⟨ab,ac⟩:=nL a e;clear P Q ah g;go_wp21;apply(rW d c (b:Int) p f wr u.o Y Y).M;rintro s O ⟨z,rfl,⟨ad,rfl⟩,q,r⟩;have A:=X q;have B:=X r;clear q r R;go_wp21;go_roundw
  .exact⟨a+1,_,Y,Uv,A.o,by rw[Q6];omega,n.o.T B.o⟩
  simp[intOf];omega
 obtain rfl:e=a:=Y;go_wp21;apply(yC d c (b:Int) p 10 wr u.o Y Y).M;rintro s O ⟨rfl,q,r⟩;have A:=X q;have B:=X r;clear q r;go_wp21
 go_end0
 exact⟨Z,⟨_,A.o,by rw[Q6];simp;omega⟩,t.o.T<|n.o.T B.o⟩
def qf(b:Nat)(w:World)(c:Ending)(d:World):Prop:=∃a:ByteArray,c=.returned (.string a)/\a.size<=b/\Below w w d
def Ol(c:Nat):Prop:=∀(d:Nat->Prop) (b:World) (a:Ex) (j:Nat) (e:Option Addr) (f g:Nat),lY b->kz (kP .u8 j) d b (e,f,g) a.args->mJ c a->JU c a->(∀i,d i->i<b)->
 Calls prog 200 #[.agg #[.int .u8 a.op,tx a.name,a.n,(e,f,g)]] b (qf (TB c) b)
def PY(c:Nat):Prop:=∀(d:Nat->Prop) (b:World) (a:Ex) (j:Nat) (e:Option Addr) (f g:Nat) (k:Int),lY b->kz (kP .u8 j) d b (e,f,g) a.args->mJ c a->JU c a->(∀i,d i->i<b)->
 Calls prog 211 #[.agg #[.int .u8 a.op,tx a.name,a.n,(e,f,g)],k] b (qf (TB c+2) b)
def Aw(i:Nat)(a:i<100):(⟨(Lib.decDigits i).toArray⟩:ByteArray).size<=20:=by
 have b:∀i:Fin 100,(Lib.decDigits i.val).length<=20:=Uz
 have:=b ⟨i,a⟩;simpa[ByteArray.size]using this
def oB(a:List UInt8):(⟨a.toArray⟩:ByteArray).size=a.length:=UM
def tA(a):(⟨#[a]⟩:ByteArray).size=1:=rfl
def Aa{k b}{p e:Nat}{q}{t u:Nat}{c}(v:kz (kP .u8 p) k b (.slice q t u) c)(w:∀l∈c,mJ e l)(x:∀l∈c,JU e l){i:Nat}(m:i<c.length):
  ∃a o d n f r g,q=some ⟨a,o,none⟩/\k a/\kz (kP .u8 n) k b (.slice f r g) d.args/\mJ e d/\JU e d/\
   b.cell? ⟨a,o+i*4,none⟩=some (.int .u8 d.op)/\b.cell? ⟨a,o+i*4+1,none⟩=some (tx d.name)/\b.cell? ⟨a,o+i*4+2,none⟩=some (.int .i64 d.n)/\b.cell? ⟨a,o+i*4+3,none⟩=some (.slice f r g):=by
 have⟨a,o,B,y,z,A,j⟩:=v.ll (kP.ok .u8 p) i c[i]<|Q7 m;obtain⟨n,C,rfl,rfl,s⟩:=A.open;obtain⟨f,g,rfl,_⟩:=s.form;exact⟨a,o,c[i],n,f,_,g,y,z,s,w _<|Tb m,x _<|Tb m,j 0 _ Z,j 1 _ Z,j 2 _ Z,j 3 _ Z⟩
def zh(aH:Nat)(dO:aH<=6)(cb:∀r,aH=r+1->PY r/\Ol r):Ol aH:=by
 intro A b L dP bg B ae cA d cc cB cd;obtain⟨r,rfl⟩:∃r,aH=r+1:=by cases aH with|zero=>exact cc.elim|succ r=>exact⟨r,Z⟩
 have⟨cC,cD⟩:=cb r Z;have⟨⟨C,dQ,aI,bv,ce,cf,_,_⟩,cg⟩:=cc;have⟨bw,ch⟩:=cB;have ci:L.name.length<=12:=by cases q:C.2.1 with|true=>have bh:=ce q;unfold mZ at bh;simp only[R2,SK]at bh;omega|false=>rw[cf q];simp
 have cj:=AQ C<|QV aI;obtain⟨w,ck⟩:∃w:Nat,w=L.op.toNat:=⟨_,Z⟩
 have cl:L.op=(w:Int):=Y
 rw[<-ck]at aI;have cE:1<=w:=Y
 have⟨bx,bz⟩:=D5 w C aI;have bA:B=C.1:=W d.len.1
 have cm:=cA;have cF:=X aI;have cG:=d;have cn:=cd;have bi:=cg;have bj:=ch;have aA:=cC;have co:=cD;have cp:w=1->∃i:Nat,i<100/\L.n=(i:Int):=λdR=>by have⟨cq,dS⟩:=bw Y;exact⟨L.n.toNat,Y,Y⟩
 have cH:=X bv;have⟨aJ,bB⟩:=Xq L.name;have⟨bk,bC⟩:=Xq L.n;rw[cl,<-bB,<-bC];rw[<-bB]at ci;rw[<-bC]at cp;have⟨aB,bl,G,aC⟩:=C;simp only at bv cj bA bx bz;have cr:TB (r+1)=2*TB r+40:=Z;have ak:=X cr;have dT:TB r<=2520:=HR Y;have av:(⟨aC.toArray⟩:ByteArray).size<=10:=by rw[oB];exact cj
 have cs:(⟨aJ.toArray⟩:ByteArray).size<=12:=by rw[oB];exact ci
 have bD:=(GO bx bz)
 have bm:=X bA;clear cd cg ch cb ce cf aI ck cl bw bB bC bv cr bx bz bA;have bn:=Ba b<|.cells #[.int .u8 (w:Int),tx aJ,bk,(bg,B,ae)] 180;have bE:=bn;have bo:=X<|QT b<|.cells #[.int .u8 (w:Int),tx aJ,bk,(bg,B,ae)] 180;have aK:(b.alloc<|.cells #[.int .u8 (w:Int),tx aJ,bk,(bg,B,ae)] 180).heap.size=b+1:=Us
 have cI:=X aK;clear aK
 go_enter func200,ntmps200
 go_upto_region 1 with fail;have aK:=cI.o;generalize b.alloc (.cells #[.int .u8 (w:Int),tx aJ,bk,(bg,B,ae)] 180)=cJ at*;have⟨x,an⟩:=Xq b.heap.size;rw[<-an]at bo bE aK⊢;have bF:=X an;clear an;have D:=kr bo.o 0;go_wp21;apply(sU w _ cF.o cE _<|cm.to<|bF.o▸bE).M;rintro aw ax ⟨rfl,an⟩;have cK:=an.size;have cL:=an;have cM:x<ax:=Y
 have⟨⟨D,I,J,K⟩,_⟩:=kL<|(an.B x Y).T bo.o;have cN:=X<|(an.B x Y).T bo.o;go_upto_region 2 with fail;have ab:=X<|QT ax<|.cells #[.int .i64 (aB:Int),bl,G,.string ⟨aC.toArray⟩] 325;have bn:=Ba ax<|.cells #[.int .i64 (aB:Int),bl,G,.string ⟨aC.toArray⟩] 325;have ct:(ax.alloc<|.cells #[.int .i64 (aB:Int),bl,G,.string ⟨aC.toArray⟩] 325).heap.size=ax+1:=Us
 have ac:=((bF.o▸bE:Below b b cJ).T<|(cL.T<|bn.M cK).M<|W bF.o)
 have af:=X<|(bn.B x cM).T cN.o;have⟨y,cu⟩:=Xq ax.heap.size;rw[<-cu]at ab ct⊢
 generalize ax.alloc (.cells #[.int .i64 (aB:Int),bl,G,.string ⟨aC.toArray⟩] 325)=t at*;obtain⟨dU,cv⟩:∃k:ByteArray,k=⟨aC.toArray⟩:=⟨_,Z⟩
 rw[<-cv]at ab av;have al:x<t:=Y
 have am:y<t:=Y
 have ao:=(cm.to ac)
 have bp:=(cG.ku (kP.ok .u8 _) λk q=>ac.B k<|cn k q)
 have aD:=ac.size;have z:∀k,A k->k<t:=λk q=>W<|cn k q
 clear D I J K cu cv ct aK;have⟨⟨D,I,J,K⟩,_⟩:=kL af.o;have⟨⟨aE,aw,aF,aG⟩,_⟩:=kL ab.o;have bq:=X cH.o;by_cases cq:w=1
 .subst cq;obtain⟨i,cw,rfl⟩:=cp Z;go_wp21;apply(Tryz.strconv_FormatInt_10_small i cw _).M;rintro dV dW ⟨rfl,rfl⟩;go_wp21;go_ret;exact⟨_,Z,Up (Aw i cw) ak.o,ac⟩
 by_cases cO:w=5\/w=8
 .rcases cO with rfl|rfl
  .go_wp21;go_ret;exact⟨_,Z,by rw[Rj];have:=ak.o;omega,ac⟩
  go_wp21;go_ret;exact⟨_,Z,by rw[Rj];have:=ak.o;omega,ac⟩
 by_cases cP:w=6\/w=7
 .have aL:aB=1:=bD.1 Y;have⟨f,p,u,ap,T,U,V,aM,aN,aO,aP,aQ,M,N,O,P⟩:=Aa bp bi bj (i:=0)<|W bq.o;subst aM;have s:=z _ aN;have aq:=aO;have aa:=(GO aP aQ)
  rw[S9,Q3]at M N O P;have v:=(GO M<|GO N<|GO O P)
  clear M N O P;have cx:0<B:=W bm.o;rcases cP with rfl|rfl
  .go_wp21;clear D I J K aE aw aF aG;refine Ri (λC=>Below t t C) (mU [(Pp y 3),Tr,(Pp x 1),Tr,Tr,Tr,(Pp x 3),(·=.slice (some ⟨f,p,none⟩) B ae),(Pp f p),(·=.agg #[.int .u8 u.op,tx u.name,u.n,(T,U,V)]),Tr,Tr,Tr,Tr]) [(1,λj b=>∃c:ByteArray,j=.string c/\c.size<=10),(3,λj b=>∃c:ByteArray,j=.string c/\c.size<=12),(4,λj b=>∃c:ByteArray,j=.string c/\c.size<=22),(5,λj b=>∃c:ByteArray,j=.string c/\c.size<=23),(10,λj b=>∃c:ByteArray,j=.string c/\c.size<=(TB r)),(11,λj b=>∃c:ByteArray,j=.string c/\c.size<=(TB r+23)),(12,λj b=>∃c:ByteArray,j=.string c/\c.size<=(TB r+24)),(13,λj b=>∃c:ByteArray,j=.string c/\c.size<=(TB r+24))] ((Below.refl _ _).drew) ⟨?_,?_,?_,?_,?_,?_,?_,?_,?_,?_,?_,?_,?_,?_,trivial⟩ ?_;exact .f 3;intro l b a m d e n;exact .l 30 (d 0 _ Z Z) (kB ((a.B y am).T ab.o) 3 _ Z) ⟨trivial,a,Qc ⟨_,Z,av⟩<|Qa⟩;exact .f 1;intro l b a m d e n;exact .l 32 (d 2 _ Z Z) (kB ((a.B x al).T af.o) 1 _ Z) ⟨trivial,a,Qb<|Qc ⟨_,Z,cs⟩<|Qa⟩;intro l b a m d e n;obtain⟨aR,bG,cQ⟩:=lg e 0;have cR:=Sl 31 bG;obtain⟨aS,bH,cS⟩:=lg e 1;have cT:=Sl 33 bH;have ad:¬(9223372036854775807<aR.size+aS.size):=Y;exact .q (g:=⟨trivial,a,Q2<|Qc ⟨aR++aS,Z,by first|omega|(rw[Rj];(try simp only[tA]);omega)⟩<|Qa⟩);intro l b a m d e n;obtain⟨aT,bI,cU⟩:=lg e 2;have cV:=Sl 34 bI;have ad:¬(9223372036854775807<aT.size+1):=Y;exact .q (g:=⟨trivial,a,Q2<|Qb<|Qc ⟨aT++⟨#[91]⟩,Z,by first|omega|(rw[Rj];(try simp only[tA]);omega)⟩<|Qa⟩);exact .f 1;exact .l 36 6 λ_ a=>kB ((a.B x al).T af.o) 3 _ Z;intro l b a m d e n;have cW:=Sv 37 d 7;exact .q (g:=⟨Z,a,Qa⟩);intro l b a m d e n;have cX:=Sv 38 d 8;have D:=(Cb f p<|a.B f s).T v.1;have I:=(Cb f (p+1)<|a.B f s).T v.2.1;have J:=(Cb f (p+2)<|a.B f s).T v.2.2.1;have K:=(Cb f (p+3)<|a.B f s).T v.2.2.2;exact .q (g:=⟨Z,a,Qa⟩);intro l b a m d e n;have cY:=Sv 39 d 9;have Q:∀k,A k->k<b:=λk q=>Up (z k q) a.size;refine .c (co A b u ap T U V (ao.to a) (aq.ku (kP.ok .u8 _) λk q=>a.B k<|z k q) aa.1 aa.2 Q) ?_;rintro L ay ⟨c,rfl,R,S⟩;exact⟨_,Z,⟨trivial,a.T<|S.M a.size,Q4<|Qc ⟨_,Z,R⟩<|Q2<|Qb<|Qe⟩⟩;intro l b a m d e n;obtain⟨aU,bJ,cZ⟩:=lg e 3;have da:=Sl 35 bJ;obtain⟨aV,bK,db⟩:=lg e 4;have dc:=Sl 40 bK;have ad:¬(9223372036854775807<aU.size+aV.size):=Y;exact .q (g:=⟨trivial,a,Q4<|Qb<|Qc ⟨aU++aV,Z,by first|omega|(rw[Rj];(try simp only[tA]);omega)⟩<|Qa⟩);intro l b a m d e n;obtain⟨aW,bL,dd⟩:=lg e 5;have de:=Sl 41 bL;have ad:¬(9223372036854775807<aW.size+1):=Y;exact .q (g:=⟨trivial,a,Q4<|Q2<|Qc ⟨aW++⟨#[93]⟩,Z,by first|omega|(rw[Rj];(try simp only[tA]);omega)⟩<|Qa⟩);intro l b a m d e n;obtain⟨df,bM,bN⟩:=lg e 6;exact .p 42 bM ⟨trivial,a,Q4<|Q2<|Qb<|Qc ⟨_,Z,bN⟩<|Qa⟩;intro aX ag ah ai E;have⟨aY,F,aZ⟩:=E _ (Mm 7 Z) Lb;have aj:Below t t ag:=ah;clear ai E;simp only[nE,F];clear F;go_wp21;go_ret;exact⟨_,Z,W ak.o,ac.T<|aj.M aD⟩
  go_wp21;clear D I J K aE aw aF aG;refine Ri (λC=>Below t t C) (mU [(Pp y 3),Tr,(Pp x 1),Tr,Tr,Tr,(Pp x 3),(·=.slice (some ⟨f,p,none⟩) B ae),(Pp f p),(·=.agg #[.int .u8 u.op,tx u.name,u.n,(T,U,V)]),Tr,Tr,Tr,Tr]) [(1,λj b=>∃c:ByteArray,j=.string c/\c.size<=10),(3,λj b=>∃c:ByteArray,j=.string c/\c.size<=12),(4,λj b=>∃c:ByteArray,j=.string c/\c.size<=22),(5,λj b=>∃c:ByteArray,j=.string c/\c.size<=23),(10,λj b=>∃c:ByteArray,j=.string c/\c.size<=(TB r)),(11,λj b=>∃c:ByteArray,j=.string c/\c.size<=(TB r+23)),(12,λj b=>∃c:ByteArray,j=.string c/\c.size<=(TB r+24)),(13,λj b=>∃c:ByteArray,j=.string c/\c.size<=(TB r+24))] ((Below.refl _ _).drew) ⟨?_,?_,?_,?_,?_,?_,?_,?_,?_,?_,?_,?_,?_,?_,trivial⟩ ?_;exact .f 3;intro l b a m d e n;exact .l 30 (d 0 _ Z Z) (kB ((a.B y am).T ab.o) 3 _ Z) ⟨trivial,a,Qc ⟨_,Z,av⟩<|Qa⟩;exact .f 1;intro l b a m d e n;exact .l 32 (d 2 _ Z Z) (kB ((a.B x al).T af.o) 1 _ Z) ⟨trivial,a,Qb<|Qc ⟨_,Z,cs⟩<|Qa⟩;intro l b a m d e n;obtain⟨aR,bG,cQ⟩:=lg e 0;have cR:=Sl 31 bG;obtain⟨aS,bH,cS⟩:=lg e 1;have cT:=Sl 33 bH;have ad:¬(9223372036854775807<aR.size+aS.size):=Y;exact .q (g:=⟨trivial,a,Q2<|Qc ⟨aR++aS,Z,by first|omega|(rw[Rj];(try simp only[tA]);omega)⟩<|Qa⟩);intro l b a m d e n;obtain⟨aT,bI,cU⟩:=lg e 2;have cV:=Sl 34 bI;have ad:¬(9223372036854775807<aT.size+1):=Y;exact .q (g:=⟨trivial,a,Q2<|Qb<|Qc ⟨aT++⟨#[91]⟩,Z,by first|omega|(rw[Rj];(try simp only[tA]);omega)⟩<|Qa⟩);exact .f 1;exact .l 36 6 λ_ a=>kB ((a.B x al).T af.o) 3 _ Z;intro l b a m d e n;have cW:=Sv 37 d 7;exact .q (g:=⟨Z,a,Qa⟩);intro l b a m d e n;have cX:=Sv 38 d 8;have D:=(Cb f p<|a.B f s).T v.1;have I:=(Cb f (p+1)<|a.B f s).T v.2.1;have J:=(Cb f (p+2)<|a.B f s).T v.2.2.1;have K:=(Cb f (p+3)<|a.B f s).T v.2.2.2;exact .q (g:=⟨Z,a,Qa⟩);intro l b a m d e n;have cY:=Sv 39 d 9;have Q:∀k,A k->k<b:=λk q=>Up (z k q) a.size;refine .c (co A b u ap T U V (ao.to a) (aq.ku (kP.ok .u8 _) λk q=>a.B k<|z k q) aa.1 aa.2 Q) ?_;rintro L ay ⟨c,rfl,R,S⟩;exact⟨_,Z,⟨trivial,a.T<|S.M a.size,Q4<|Qc ⟨_,Z,R⟩<|Q2<|Qb<|Qe⟩⟩;intro l b a m d e n;obtain⟨aU,bJ,cZ⟩:=lg e 3;have da:=Sl 35 bJ;obtain⟨aV,bK,db⟩:=lg e 4;have dc:=Sl 40 bK;have ad:¬(9223372036854775807<aU.size+aV.size):=Y;exact .q (g:=⟨trivial,a,Q4<|Qb<|Qc ⟨aU++aV,Z,by first|omega|(rw[Rj];(try simp only[tA]);omega)⟩<|Qa⟩);intro l b a m d e n;obtain⟨aW,bL,dd⟩:=lg e 5;have de:=Sl 41 bL;have ad:¬(9223372036854775807<aW.size+1):=Y;exact .q (g:=⟨trivial,a,Q4<|Q2<|Qc ⟨aW++⟨#[93]⟩,Z,by first|omega|(rw[Rj];(try simp only[tA]);omega)⟩<|Qa⟩);intro l b a m d e n;obtain⟨df,bM,bN⟩:=lg e 6;exact .p 42 bM ⟨trivial,a,Q4<|Q2<|Qb<|Qc ⟨_,Z,bN⟩<|Qa⟩;intro aX ag ah ai E;have⟨aY,F,aZ⟩:=E _ (Mm 7 Z) Lb;have aj:Below t t ag:=ah;clear ai E;simp only[nE,F];clear F;go_wp21;go_ret;exact⟨_,Z,W ak.o,ac.T<|aj.M aD⟩
 by_cases bh:w=9\/w=10
 .have aL:aB=1:=bD.1 Y;have⟨f,p,u,ap,T,U,V,aM,aN,aO,aP,aQ,M,N,O,P⟩:=Aa bp bi bj (i:=0)<|W bq.o;subst aM;have s:=z _ aN;have aq:=aO;have aa:=(GO aP aQ)
  rw[S9,Q3]at M N O P;have v:=(GO M<|GO N<|GO O P)
  clear M N O P;have cx:0<B:=W bm.o;rcases bh with rfl|rfl
  .go_wp21;clear D I J K aE aw aF aG;refine Ri (λC=>Below t t C) (mU [(Pp y 3),Tr,(Pp x 3),(·=.slice (some ⟨f,p,none⟩) B ae),(Pp f p),(·=.agg #[.int .u8 u.op,tx u.name,u.n,(T,U,V)]),(Pp y 2),(·=G),Tr,Tr,Tr]) [(1,λj b=>∃c:ByteArray,j=.string c/\c.size<=10),(8,λj b=>∃c:ByteArray,j=.string c/\c.size<=(TB r+2)),(9,λj b=>∃c:ByteArray,j=.string c/\c.size<=(TB r+12)),(10,λj b=>∃c:ByteArray,j=.string c/\c.size<=(TB r+12))] ((Below.refl _ _).drew) ⟨?_,?_,?_,?_,?_,?_,?_,?_,?_,?_,?_,trivial⟩ ?_;exact .f 3;intro l b a m d e n;exact .l 46 (d 0 _ Z Z) (kB ((a.B y am).T ab.o) 3 _ Z) ⟨trivial,a,Qc ⟨_,Z,av⟩<|Qa⟩;exact .f 1;exact .l 48 2 λ_ a=>kB ((a.B x al).T af.o) 3 _ Z;intro l b a m d e n;have dg:=Sv 49 d 3;exact .q (g:=⟨Z,a,Qa⟩);intro l b a m d e n;have dh:=Sv 50 d 4;have D:=(Cb f p<|a.B f s).T v.1;have I:=(Cb f (p+1)<|a.B f s).T v.2.1;have J:=(Cb f (p+2)<|a.B f s).T v.2.2.1;have K:=(Cb f (p+3)<|a.B f s).T v.2.2.2;exact .q (g:=⟨Z,a,Qa⟩);exact .f 3;exact .l 52 6 λ_ a=>kB ((a.B y am).T ab.o) 2 _ Z;intro l b a m d e n;have di:=Sv 51 d 5;have dj:=Sv 53 d 7;have Q:∀k,A k->k<b:=λk q=>Up (z k q) a.size;refine .c (aA A b u ap T U V (G:Int) (ao.to a) (aq.ku (kP.ok .u8 _) λk q=>a.B k<|z k q) aa.1 aa.2 Q) ?_;rintro L ay ⟨c,rfl,R,S⟩;exact⟨_,Z,⟨trivial,a.T<|S.M a.size,Qb<|Qc ⟨_,Z,R⟩<|Q2<|Qe⟩⟩;intro l b a m d e n;obtain⟨ba,bO,dk⟩:=lg e 0;have dl:=Sl 47 bO;obtain⟨bb,bP,dm⟩:=lg e 1;have dn:=Sl 54 bP;have ad:¬(9223372036854775807<ba.size+bb.size):=Y;exact .q (g:=⟨trivial,a,Q2<|Qc ⟨ba++bb,Z,by first|omega|(rw[Rj];(try simp only[tA]);omega)⟩<|Qa⟩);intro l b a m d e n;obtain⟨dp,bQ,bR⟩:=lg e 2;exact .p 55 bQ ⟨trivial,a,Q2<|Qb<|Qc ⟨_,Z,bR⟩<|Qa⟩;intro aX ag ah ai E;have⟨aY,F,aZ⟩:=E _ (Mm 3 Z) Lb;have aj:Below t t ag:=ah;clear ai E;simp only[nE,F];clear F;go_wp21;go_ret;exact⟨_,Z,W ak.o,ac.T<|aj.M aD⟩
  go_wp21;clear D I J K aE aw aF aG;refine Ri (λC=>Below t t C) (mU [(Pp y 3),Tr,(Pp x 3),(·=.slice (some ⟨f,p,none⟩) B ae),(Pp f p),(·=.agg #[.int .u8 u.op,tx u.name,u.n,(T,U,V)]),(Pp y 2),(·=G),Tr,Tr,Tr]) [(1,λj b=>∃c:ByteArray,j=.string c/\c.size<=10),(8,λj b=>∃c:ByteArray,j=.string c/\c.size<=(TB r+2)),(9,λj b=>∃c:ByteArray,j=.string c/\c.size<=(TB r+12)),(10,λj b=>∃c:ByteArray,j=.string c/\c.size<=(TB r+12))] ((Below.refl _ _).drew) ⟨?_,?_,?_,?_,?_,?_,?_,?_,?_,?_,?_,trivial⟩ ?_;exact .f 3;intro l b a m d e n;exact .l 46 (d 0 _ Z Z) (kB ((a.B y am).T ab.o) 3 _ Z) ⟨trivial,a,Qc ⟨_,Z,av⟩<|Qa⟩;exact .f 1;exact .l 48 2 λ_ a=>kB ((a.B x al).T af.o) 3 _ Z;intro l b a m d e n;have dg:=Sv 49 d 3;exact .q (g:=⟨Z,a,Qa⟩);intro l b a m d e n;have dh:=Sv 50 d 4;have D:=(Cb f p<|a.B f s).T v.1;have I:=(Cb f (p+1)<|a.B f s).T v.2.1;have J:=(Cb f (p+2)<|a.B f s).T v.2.2.1;have K:=(Cb f (p+3)<|a.B f s).T v.2.2.2;exact .q (g:=⟨Z,a,Qa⟩);exact .f 3;exact .l 52 6 λ_ a=>kB ((a.B y am).T ab.o) 2 _ Z;intro l b a m d e n;have di:=Sv 51 d 5;have dj:=Sv 53 d 7;have Q:∀k,A k->k<b:=λk q=>Up (z k q) a.size;refine .c (aA A b u ap T U V (G:Int) (ao.to a) (aq.ku (kP.ok .u8 _) λk q=>a.B k<|z k q) aa.1 aa.2 Q) ?_;rintro L ay ⟨c,rfl,R,S⟩;exact⟨_,Z,⟨trivial,a.T<|S.M a.size,Qb<|Qc ⟨_,Z,R⟩<|Q2<|Qe⟩⟩;intro l b a m d e n;obtain⟨ba,bO,dk⟩:=lg e 0;have dl:=Sl 47 bO;obtain⟨bb,bP,dm⟩:=lg e 1;have dn:=Sl 54 bP;have ad:¬(9223372036854775807<ba.size+bb.size):=Y;exact .q (g:=⟨trivial,a,Q2<|Qc ⟨ba++bb,Z,by first|omega|(rw[Rj];(try simp only[tA]);omega)⟩<|Qa⟩);intro l b a m d e n;obtain⟨dp,bQ,bR⟩:=lg e 2;exact .p 55 bQ ⟨trivial,a,Q2<|Qb<|Qc ⟨_,Z,bR⟩<|Qa⟩;intro aX ag ah ai E;have⟨aY,F,aZ⟩:=E _ (Mm 3 Z) Lb;have aj:Below t t ag:=ah;clear ai E;simp only[nE,F];clear F;go_wp21;go_ret;exact⟨_,Z,W ak.o,ac.T<|aj.M aD⟩
 have dX:((w:Int)==1)=false:=by rw[QY];omega
 have dY:((w:Int)==5)=false:=by rw[QY];omega
 have dZ:((w:Int)==6)=false:=by rw[QY];omega
 have ea:((w:Int)==7)=false:=by rw[QY];omega
 have eb:((w:Int)==8)=false:=by rw[QY];omega
 have ec:((w:Int)==9)=false:=by rw[QY];omega
 have ed:((w:Int)==10)=false:=by rw[QY];omega
 rcases bD.2 ⟨Y,Y,Y,Y,Y,Y,Y⟩with aL|aL
 .subst aL;go_wp21;go_ret;exact⟨_,Z,W ak.o,ac⟩
 have⟨f,p,u,ap,T,U,V,aM,aN,aO,aP,aQ,M,N,O,P⟩:=Aa bp bi bj (i:=0)<|W bq.o;subst aM;have s:=z _ aN;have aq:=aO;have aa:=(GO aP aQ)
 rw[S9,Q3]at M N O P;have v:=(GO M<|GO N<|GO O P)
 clear M N O P;have⟨ee,ef,ar,cy,br,bs,bt,bS,eg,dq,dr,ds,M,N,O,P⟩:=Aa bp bi bj (i:=1)<|W bq.o;injection bS with bS;injection bS with dt du;subst dt;subst du;have cz:=dq;have bu:=(GO dr ds)
 rw[Nat.one_mul]at M N O P;have au:=(GO M<|GO N<|GO O P)
 clear M N O P;subst aL;have cx:0<B:=W bm.o
 have bw:(1:Int)<(B:Int):=W bm.o
 by_cases bT:G=3
 .have dv:((G:Int)==3)=true:=(by rw[bT];rfl);have eh:IntKind.i64.wrap ((G:Int)+1)=4:=(by rw[bT];rfl);clear bT;go_wp21;clear D I J K aE aw aF aG;refine Ri (λC=>Below t t C) (mU [(Pp x 3),(·=.slice (some ⟨f,p,none⟩) B ae),(Pp f p),(·=.agg #[.int .u8 u.op,tx u.name,u.n,(T,U,V)]),(·=.int .i64 4),Tr,(Pp y 3),Tr,Tr,(Pp x 3),(·=.slice (some ⟨f,p,none⟩) B ae),(Pp f<|p+4),(·=.agg #[.int .u8 ar.op,tx ar.name,ar.n,(br,bs,bt)]),(Pp y 2),(·=G),Tr,Tr,Tr,Tr]) [(5,λj b=>∃c:ByteArray,j=.string c/\c.size<=(TB r+2)),(7,λj b=>∃c:ByteArray,j=.string c/\c.size<=10),(8,λj b=>∃c:ByteArray,j=.string c/\c.size<=(TB r+12)),(15,λj b=>∃az:Int,j=az),(16,λj b=>∃c:ByteArray,j=.string c/\c.size<=(TB r+2)),(17,λj b=>∃c:ByteArray,j=.string c/\c.size<=(2*TB r+14)),(18,λj b=>∃c:ByteArray,j=.string c/\c.size<=(2*TB r+14))] ((Below.refl _ _).drew) ⟨?_,?_,?_,?_,?_,?_,?_,?_,?_,?_,?_,?_,?_,?_,?_,?_,?_,?_,?_,trivial⟩ ?_;exact .f 1;exact .l 67 0 λ_ a=>kB ((a.B x al).T af.o) 3 _ Z;intro l b a m d e n;have dw:=Sv 68 d 1;exact .q (g:=⟨Z,a,Qa⟩);intro l b a m d e n;have dx:=Sv 69 d 2;have D:=(Cb f p<|a.B f s).T v.1;have I:=(Cb f (p+1)<|a.B f s).T v.2.1;have J:=(Cb f (p+2)<|a.B f s).T v.2.2.1;have K:=(Cb f (p+3)<|a.B f s).T v.2.2.2;exact .q (g:=⟨Z,a,Qa⟩);exact .f 5;intro l b a m d e n;have dy:=Sv 70 d 3;have dz:=Sv 71 d 4;have Q:∀k,A k->k<b:=λk q=>Up (z k q) a.size;refine .c (aA A b u ap T U V 4 (ao.to a) (aq.ku (kP.ok .u8 _) λk q=>a.B k<|z k q) aa.1 aa.2 Q) ?_;rintro L ay ⟨c,rfl,R,S⟩;exact⟨_,Z,⟨trivial,a.T<|S.M a.size,Qc ⟨_,Z,R⟩<|Q4<|Q2<|Qe⟩⟩;exact .f 3;intro l b a m d e n;exact .l 73 (d 6 _ Z Z) (kB ((a.B y am).T ab.o) 3 _ Z) ⟨trivial,a,Qb<|Qc ⟨_,Z,av⟩<|Qa⟩;intro l b a m d e n;obtain⟨bc,bU,dA⟩:=lg e 0;have dB:=Sl 72 bU;obtain⟨bd,bV,dC⟩:=lg e 1;have dD:=Sl 74 bV;have ad:¬(9223372036854775807<bc.size+bd.size):=Y;exact .q (g:=⟨trivial,a,Q2<|Qc ⟨bc++bd,Z,by first|omega|(rw[Rj];(try simp only[tA]);omega)⟩<|Qa⟩);exact .f 1;exact .l 76 9 λ_ a=>kB ((a.B x al).T af.o) 3 _ Z;intro l b a m d e n;have dE:=Sv 77 d 10;exact .q (g:=⟨Z,a,Qa⟩);intro l b a m d e n;have dF:=Sv 78 d 11;have D:=(Cb f (p+4)<|a.B f s).T au.1;have I:=(Cb f (p+4+1)<|a.B f s).T au.2.1;have J:=(Cb f (p+4+2)<|a.B f s).T au.2.2.1;have K:=(Cb f (p+4+3)<|a.B f s).T au.2.2.2;exact .q (g:=⟨Z,a,Qa⟩);exact .f 3;exact .l 80 13 λ_ a=>kB ((a.B y am).T ab.o) 2 _ Z;intro l b a m d e n;have dG:=Sv 81 d 14;exact .q (g:=⟨trivial,a,Q2<|Qb<|Qc ⟨_,Z⟩<|Qa⟩);intro l b a m d e n;have dH:=Sv 79 d 12;obtain⟨az,bW⟩:=lg e 3;have dI:=Sl 82 bW;have Q:∀k,A k->k<b:=λk q=>Up (z k q) a.size;refine .c (aA A b ar cy br bs bt az (ao.to a) (cz.ku (kP.ok .u8 _) λk q=>a.B k<|z k q) bu.1 bu.2 Q) ?_;rintro L ay ⟨c,rfl,R,S⟩;exact⟨_,Z,⟨trivial,a.T<|S.M a.size,Q4<|Qc ⟨_,Z,R⟩<|Q2<|Qe⟩⟩;intro l b a m d e n;obtain⟨be,bX,dJ⟩:=lg e 2;have dK:=Sl 75 bX;obtain⟨bf,bY,dL⟩:=lg e 4;have dM:=Sl 83 bY;have ad:¬(9223372036854775807<be.size+bf.size):=Y;exact .q (g:=⟨trivial,a,Q4<|Qb<|Qc ⟨be++bf,Z,by first|omega|(rw[Rj];(try simp only[tA]);omega)⟩<|Qa⟩);intro l b a m d e n;obtain⟨dN,bZ,ca⟩:=lg e 5;exact .p 84 bZ ⟨trivial,a,Q4<|Q2<|Qc ⟨_,Z,ca⟩<|Qa⟩;intro aX ag ah ai E;have⟨aY,F,aZ⟩:=E _ (Mm 6 Z) Lb;have aj:Below t t ag:=ah;clear ai E;simp only[nE,F];clear F;go_wp21;go_ret;exact⟨_,Z,W ak.o,ac.T<|aj.M aD⟩
 have dv:((G:Int)==3)=false:=by rw[QY];omega
 go_wp21;clear D I J K aE aw aF aG;refine Ri (λC=>Below t t C) (mU [(Pp x 3),(·=.slice (some ⟨f,p,none⟩) B ae),(Pp f p),(·=.agg #[.int .u8 u.op,tx u.name,u.n,(T,U,V)]),(·=G),Tr,(Pp y 3),Tr,Tr,(Pp x 3),(·=.slice (some ⟨f,p,none⟩) B ae),(Pp f<|p+4),(·=.agg #[.int .u8 ar.op,tx ar.name,ar.n,(br,bs,bt)]),(Pp y 2),(·=G),Tr,Tr,Tr,Tr]) [(5,λj b=>∃c:ByteArray,j=.string c/\c.size<=(TB r+2)),(7,λj b=>∃c:ByteArray,j=.string c/\c.size<=10),(8,λj b=>∃c:ByteArray,j=.string c/\c.size<=(TB r+12)),(15,λj b=>∃az:Int,j=az),(16,λj b=>∃c:ByteArray,j=.string c/\c.size<=(TB r+2)),(17,λj b=>∃c:ByteArray,j=.string c/\c.size<=(2*TB r+14)),(18,λj b=>∃c:ByteArray,j=.string c/\c.size<=(2*TB r+14))] ((Below.refl _ _).drew) ⟨?_,?_,?_,?_,?_,?_,?_,?_,?_,?_,?_,?_,?_,?_,?_,?_,?_,?_,?_,trivial⟩ ?_;exact .f 1;exact .l 67 0 λ_ a=>kB ((a.B x al).T af.o) 3 _ Z;intro l b a m d e n;have dw:=Sv 68 d 1;exact .q (g:=⟨Z,a,Qa⟩);intro l b a m d e n;have dx:=Sv 69 d 2;have D:=(Cb f p<|a.B f s).T v.1;have I:=(Cb f (p+1)<|a.B f s).T v.2.1;have J:=(Cb f (p+2)<|a.B f s).T v.2.2.1;have K:=(Cb f (p+3)<|a.B f s).T v.2.2.2;exact .q (g:=⟨Z,a,Qa⟩);exact .f 5;intro l b a m d e n;have dy:=Sv 70 d 3;have dz:=Sv 71 d 4;have Q:∀k,A k->k<b:=λk q=>Up (z k q) a.size
 refine .c (aA A b u ap T U V (G:Int) (ao.to a) (aq.ku (kP.ok .u8 _) λk q=>a.B k<|z k q) aa.1 aa.2 Q) ?_;rintro L ay ⟨c,rfl,R,S⟩;exact⟨_,Z,⟨trivial,a.T<|S.M a.size,Qc ⟨_,Z,R⟩<|Q4<|Q2<|Qe⟩⟩;exact .f 3;intro l b a m d e n;exact .l 73 (d 6 _ Z Z) (kB ((a.B y am).T ab.o) 3 _ Z) ⟨trivial,a,Qb<|Qc ⟨_,Z,av⟩<|Qa⟩;intro l b a m d e n;obtain⟨bc,bU,dA⟩:=lg e 0;have dB:=Sl 72 bU;obtain⟨bd,bV,dC⟩:=lg e 1;have dD:=Sl 74 bV;have ad:¬(9223372036854775807<bc.size+bd.size):=Y
 exact .q (g:=⟨trivial,a,Q2<|Qc ⟨bc++bd,Z,by first|omega|(rw[Rj];(try simp only[tA]);omega)⟩<|Qa⟩);exact .f 1;exact .l 76 9 λ_ a=>kB ((a.B x al).T af.o) 3 _ Z;intro l b a m d e n;have dE:=Sv 77 d 10;exact .q (g:=⟨Z,a,Qa⟩);intro l b a m d e n;have dF:=Sv 78 d 11;have D:=(Cb f (p+4)<|a.B f s).T au.1;have I:=(Cb f (p+4+1)<|a.B f s).T au.2.1;have J:=(Cb f (p+4+2)<|a.B f s).T au.2.2.1;have K:=(Cb f (p+4+3)<|a.B f s).T au.2.2.2;exact .q (g:=⟨Z,a,Qa⟩);exact .f 3;exact .l 80 13 λ_ a=>kB ((a.B y am).T ab.o) 2 _ Z;intro l b a m d e n;have dG:=Sv 81 d 14;exact .q (g:=⟨trivial,a,Q2<|Qb<|Qc ⟨_,Z⟩<|Qa⟩);intro l b a m d e n;have dH:=Sv 79 d 12;obtain⟨az,bW⟩:=lg e 3;have dI:=Sl 82 bW;have Q:∀k,A k->k<b:=λk q=>Up (z k q) a.size
 refine .c (aA A b ar cy br bs bt az (ao.to a) (cz.ku (kP.ok .u8 _) λk q=>a.B k<|z k q) bu.1 bu.2 Q) ?_;rintro L ay ⟨c,rfl,R,S⟩;exact⟨_,Z,⟨trivial,a.T<|S.M a.size,Q4<|Qc ⟨_,Z,R⟩<|Q2<|Qe⟩⟩;intro l b a m d e n;obtain⟨be,bX,dJ⟩:=lg e 2;have dK:=Sl 75 bX;obtain⟨bf,bY,dL⟩:=lg e 4;have dM:=Sl 83 bY;have ad:¬(9223372036854775807<be.size+bf.size):=Y
 exact .q (g:=⟨trivial,a,Q4<|Qb<|Qc ⟨be++bf,Z,by first|omega|(rw[Rj];(try simp only[tA]);omega)⟩<|Qa⟩);intro l b a m d e n;obtain⟨dN,bZ,ca⟩:=lg e 5;exact .p 84 bZ ⟨trivial,a,Q4<|Q2<|Qc ⟨_,Z,ca⟩<|Qa⟩;intro aX ag ah ai E;have⟨aY,F,aZ⟩:=E _ (Mm 6 Z) Lb;have aj:Below t t ag:=ah;clear ai E;simp only[nE,F];clear F;go_wp21;go_ret;exact⟨_,Z,W ak.o,ac.T<|aj.M aD⟩
def AR(d:Nat)(S:d<=6)(T:Ol d):PY d:=by
 intro U a e V f g i aa I ab s ac J;have K:=(λ(L:World) (t:Below a a L)=>T U L e V f g i (I.to t) (ab.ku (kP.ok .u8 _) λn u=>t.B n<|J n u) s ac λn u=>QR (J n u) t.size)
 obtain⟨b,j,v,ad,M⟩:∃(b:Nat) (j:Nat×Bool×Nat×List UInt8),shapes[b]?=some j/\1<=b/\e.op=(b:Int):=by
  cases d with
  |zero=>exact s.elim
  |succ d=>have⟨⟨j,ae,v,_⟩,_⟩:=s;exact⟨e.op.toNat,j,v,Y,Y⟩
 have af:=X v;have⟨p,w⟩:=Xq e.name;have⟨q,x⟩:=Xq e.n;rw[M,<-w,<-x];rw[M,<-w,<-x]at K;have⟨y,z,r,A⟩:=j;have ar:TB d<=2520:=HR S;clear w x;have B:=Ba a<|DP b p q f g i;have C:=X<|QT a<|DP b p q f g i;have D:(a.alloc<|DP b p q f g i).heap.size=a+1:=Us
 have ag:=X D
 go_enter func211,ntmps211
 go_upto_region 1 with fail;have D:=ag.o;generalize a.alloc (DP b p q f g i)=ah at*;have⟨E,c⟩:=Xq a.heap.size;rw[<-c]at C B D⊢;have F:=X c;clear c;have ai:=kr C.o 0;go_wp21;apply(sU b _ af.o ad _<|I.to<|F.o▸B).M;rintro aj k ⟨rfl,c⟩;have au:=c.size;have ak:E<k:=Y
 have al:=X<|(c.B E Y).T C.o;have N:=((F.o▸B:Below a a ah).T<|c.M<|W F.o)
 go_upto_region 2 with fail;have O:=X<|QT k<|.cells #[.int .i64 (y:Int),z,r,.string ⟨A.toArray⟩] 325;have P:=Ba k<|.cells #[.int .i64 (y:Int),z,r,.string ⟨A.toArray⟩] 325
 have l:=(N.T<|P.M<|W N.size)
 have am:=X<|(P.B E ak).T al.o;have⟨av,Q⟩:=Xq k.heap.size;rw[<-Q]at O⊢;generalize k.alloc (.cells #[.int .i64 (y:Int),z,r,.string ⟨A.toArray⟩] 325)=an at*
 clear Q;have⟨⟨ai,aw,ax,ay⟩,_⟩:=kL am.o;have⟨⟨az,aj,aA,aB⟩,_⟩:=kL O.o;have R:=(K an l)
 by_cases aC:(r:Int)<aa
 .go_wp21;apply R.M;rintro ao ap ⟨m,rfl,aq,G⟩;have ae:¬(9223372036854775807<1+m.size):=Y;have aD:((⟨#[40]⟩:ByteArray)++m).size=1+m.size:=(by rw[Rj,tA]);have aE:¬(9223372036854775807<((⟨#[40]⟩:ByteArray)++m).size+1):=Y;go_wp21;go_ret;refine⟨_,Z,?_,l.T<|G.M l.size⟩;simp only[Rj,tA];omega
 go_wp21;apply R.M;rintro ao ap ⟨m,rfl,aq,G⟩;go_wp21;go_ret;exact⟨_,Z,Y,l.T<|G.M l.size⟩
def xj:∀d,d<=6->Ol d
 |0,h=>zh 0 h λa b=>by omega
 |d+1,h=>zh (d+1) h λa b=>by obtain rfl:d=a:=Y;exact⟨AR d Y<|xj d Y,xj d Y⟩
def qg(a b:Nat)(d:Int)(e:Nat)(w:World)(f:Ending)(c:World):Prop:=f=.returned (.tuple #[])/\oH a b d e c/\kY a b w c
def lY.wr{a b:Nat}{w w'}(c:lY w)(d:kY a b w w')(e:LL a):lY w':=c.kv d.kv e
def tB(b:World)(c d:Nat):Prop:=∃a:List ByteArray,a.length=d/\(∀e∈a,e.size<=2520)/\b.heap[c]?=some (.cells (a.map Value.string).toArray 9 (0,0))
def tB.lt{w}{b n:Nat}(a:tB w b n):b<w:=by have⟨_,_,_,a⟩:=a;exact(QS.1 a).1
def tB.ku{w w'}{b n:Nat}(a:tB w b n)(c:w'.heap[b]?=w.heap[b]?):tB w' b n:=by have⟨d,e,f,g⟩:=a;exact⟨d,e,f,c.T g⟩
def tB.get{w}{b a:Nat}(e:tB w b a){i:Nat}(f:i<a):(∃c:ByteArray,c.size<=2520/\w.cell? ⟨b,i,none⟩=some (.string c))/\w.frozen? ⟨b,i,none⟩=false:=by have⟨g,j,k,d⟩:=e;exact⟨⟨g[i],k _<|Tb _,kB d i _<|by simp[j,f]⟩,kx d i⟩
def tB.set{w}{b n:Nat}(h:tB w b n)(i:Nat){a}(c:a.size<=2520):tB (w.setCell ⟨b,i,none⟩<|.string a) b n:=by have⟨d,e,f,g⟩:=h;refine⟨d.set i a,by simpa using e,λj k=>?_,?_⟩;rcases TL k with h|h;exact f j h;rw[h];exact c;have:=kt (i:=i) (u:=.string a) g;rw[this];simp[List.map_set]
def Gr(a:Nat)(i:a<=1000)(b):(Instr.makeSlice 62 (.int .i64 (a:Int))<|.int .i64 (a:Int)).run prog b=.ok (.slice b a a) (b.alloc<|BY a):=by have⟨d,e,f,c,g⟩:=Rm rI;have:=Sw (P:=prog) b 62 9 d _ underlying62 e f .i64 .i64 (a:Int) (a:Int) Y (SH _) (by rw[c];simp;omega) (by rw[g];omega) Y;rw[c,RA,RV]at this;exact this
def tB.made{b}{c a:Nat}(d:b.heap[c]?=some (.cells (madeCells #[Em] a) 9 (0,0))):tB b c a:=by
 refine⟨List.replicate a ⟨#[]⟩,Us,λj e=>by rw[List.eq_of_mem_replicate e];decide,?_⟩;rw[d];have f:madeCells #[Value.string ⟨#[]⟩] a=((List.replicate a (⟨#[]⟩:ByteArray)).map Value.string).toArray:=by apply Array.ext';rw[List.map_replicate];refine List.eq_replicate_iff.2 ⟨by rw[Sz,SQ],λg i=>?_⟩;have:=xi _ a Us g i;simpa using this
 rw[f]
def zi(g a d e:Nat)(b:World)(f:Nat)(c:List ByteArray)(m:oH g a (d:Int) e b)(i:b.heap[f]?=some (.cells (c.map Value.string).toArray 9 (0,0)))(n:f≠a)(p:d<=100)(q:e<=100000000)(k:c.length<=9)(r:∀j∈c,j.size<=20000):
  Calls prog 47 #[.pointer a,(f,c.length,c.length)] b (qg g a (d:Int) (e+1) b):=
 IU (λl=>l=f) g a d e b _ _ _ _ m (MC i k) (λl s=>by subst s;exact⟨(QS.1 i).1,n,.inr ⟨_,i,ml Ur⟩⟩) p q k (λv t=>by obtain⟨j,u,rfl⟩:=R6.1 t;exact r j u)
def kY.alloc{B b:Nat}{w}(a:B<=w.heap.size)(o):kY B b w<|w.alloc o:=.old a<|Ba _ _
def mK(e b c d:Nat)(w:World)(a:List ByteArray)(f:oH e b (c:Int) d w)(i:c<=100)(j:d<=100000000)(k:a.length<=9)(l:∀m∈a,m.size<=20000):
  Calls prog 47 #[.pointer b,(w,a.length,a.length)] (w.alloc<|.cells (a.map Value.string).toArray 9) (qg e b (c:Int) (d+1) w):=
 (zi e b c d _ w a (f.ku<|Ba _ _) (QT _ _) (W f.lt) i j k l).M λn p g=>⟨g.1,g.2.1,(kY.alloc (W f.lt) _).T g.2.2⟩
def BV(b)(c a o:Nat)(d:tB b c a)(u:a<=5)(v:o<a):Calls prog 65 #[.slice (mw c o) (a-o)<|a-o,.string ⟨#[44,32]⟩] b<|qf 12700 b:=by
 have g:=d.lt;have⟨e,i,j,k⟩:=d;have l:(Lib.join ((e.drop o).map (·.data.toList)) (⟨#[44,32]⟩:ByteArray).data.toList).length<=12700:=join_le _ (λm n=>by obtain⟨p,q,rfl⟩:=R6.1 n;exact j p<|List.mem_of_mem_drop q) Uw
 have:=Tryz.strings_Join c o (a-o) (e.drop o) ⟨#[44,32]⟩ b (λr m f=>kB k (o+r) _<|by rw[SU]at f;simp[f]) g Uw Uw Y;rw[TS,i]at this;apply this.M;rintro w x ⟨s,t⟩;exact⟨_,s,by simpa[ByteArray.size]using l,t⟩
def join_none(a b)(c:Nat):Calls prog 65 #[.slice b 0 c,.string ⟨#[44,32]⟩] a<|qf 12700 a:=by apply(Tryz.strings_Join_none b c _ a).M;rintro e f ⟨d,rfl⟩;exact⟨_,d,Ur,Below.refl _ _⟩
def Gs(b)(c a:Nat)(d:tB b c a)(e:a<=5):Calls prog 65 #[(c,a,a),.string ⟨#[44,32]⟩] b<|qf 12700 b:=by rcases Su a with rfl|f;exact join_none b _ _;exact BV b c a 0 d e f
def Bv(a:Nat):Prop:=∀(i:Nat->Prop) (c d e f:Nat) (b:World) (j:Option Addr) (g k:Nat) (l:List St),lY b->LL c->oH c d (e:Int) f b->kz (kR .u8 a) i b (j,g,k) l->(∀m∈l,nS a m/\FL a m)->g<=12->EU i c d b->e+2*a<=90->f+yi a<=90000000->
 Calls prog 141 #[.pointer d,(j,g,k)] b (qg c d (e:Int) (f+yi a) b)
def LC(a:Nat):Prop:=∀(j:Nat->Prop) (d e f g:Nat) (b:World) (c:ByteArray) (k:Option Addr) (i l:Nat) (m:List St),lY b->LL d->oH d e (f:Int) g b->kz (kR .u8 a) j b (k,i,l) m->(∀c∈m,nS a c/\FL a c)->i<=12->EU j d e b->f+2*a<=90->g+(3+yi a)<=90000000->c.size<=20000->
 Calls prog 201 #[.pointer e,.string c,(k,i,l)] b (qg d e (f:Int) (g+(3+yi a)) b)
def LD(c:Nat):Prop:=∀(d:Nat->Prop) (e f g i:Nat) (a:World) (b:St) (j:Option Addr) (k l:Nat) (m:Option Addr) (n p:Nat) (q:Option Addr) (r s:Nat),lY a->LL e->oH e f (g:Int) i a->kz (kP .u8 De) d a (j,k,l) b.lp->kz (kR .u8 c) d a (m,n,p) b.th->kz (kR .u8 c) d a (q,r,s) b.el->nS (c+1) b->FL (c+1) b->EU d e f a->g+2*c<=90->i+(3+2*yi c)<=90000000->
 Calls prog 184 #[.pointer f,.agg #[.int .u8 b.kind,tx b.name,tx b.hd,(j,k,l),(m,n,p),(q,r,s)]] a (qg e f (g:Int) (i+(3+2*yi c)) a)
def D6(a b)(c d:Nat)(e:d=0):Calls prog 65 #[.slice b d c,.string ⟨#[44,32]⟩] a<|qf 12700 a:=by subst e;exact join_none a b c
def qh(f b a c m:Nat)(w:World)(d:Nat)(e:List ByteArray)(g:e.length=m)(i:oH f b (a:Int) c w)(j:w.heap[d]?=some (.cells (e.map Value.string).toArray 9 (0,0)))(k:d≠b)(l:a<=100)(n:c<=100000000)(p:m<=9)(q:∀r∈e,r.size<=20000):
  Calls prog 47 #[.pointer b,(d,m,m)] w (qg f b (a:Int) (c+1) w):=by
 subst g;exact zi f b a c w d e i j k l n p q
abbrev pe(a):=(λb c=>∃(d:Nat) (e:List ByteArray),b=.slice d 5 5/\Nw a c d/\e.length=5/\(∀f∈e,f.size<=20000)/\c.heap[d]?=some (.cells (e.map Value.string).toArray 9 (0,0)):Go.Value->Go.World->Prop)
abbrev pr:=(λa b=>∃c:ByteArray,a=.string c/\c.size<=12:Go.Value->Go.World->Prop)
abbrev qe(a):=(λb c=>∃(d:Nat) (e:List ByteArray),b=.slice d 7 7/\Nw a c d/\e.length=7/\(∀f∈e,f.size<=20000)/\c.heap[d]?=some (.cells (e.map Value.string).toArray 9 (0,0)):Go.Value->Go.World->Prop)
abbrev rm:=(λa b=>∃c:ByteArray,a=.string c/\c.size<=2520:Go.Value->Go.World->Prop)
abbrev wi:=(λa b=>∃c:ByteArray,a=.string c/\c.size<=12700:Go.Value->Go.World->Prop)
abbrev AN(a b c d e):=(λf=>oH a b (c:Int) (d+1) f/\kY a b e f:Go.World->Prop)
structure mO{α:Type}(R:Rel α)(T k:Nat)(B:Nat)(w:World)(b n:Nat)(xs:List α):Prop where
 ex:∃(rows:List<|List Value) (cs:List Value),w.heap[b]?=some (.cells (rows.flatten++cs).toArray T (0,0))/\xs.length*k+cs.length=n*k/\lu (R (λq=>B<=q/\q<w/\q≠b) w) rows xs
def mO.lt{a:Type}{c:Rel a}{T k B:Nat}{w}{b n:Nat}{d:List a}(e:mO c T k B w b n d):b<w:=by have⟨g,i,f,_⟩:=e.ex;exact(QS.1 f).1
def mO.ku{e:Type}{c:Rel e}{T k B:Nat}(ok:lh c k){w w'}{b n:Nat}{f:List e}(g:mO c T k B w b n f)(d:Below w w w'):mO c T k B w' b n f:=by have⟨j,l,m,p,q⟩:=g.ex;have s:=d.size;exact⟨j,l,(d.B b g.lt).T m,p,q.imp λt u r=>ok.M (ok.ku r λi a=>d.B i a.2.1) λi a=>⟨a.1,Y,a.2.2⟩⟩
def zT.kv{d:Nat}{b}{c:Nat}{j k l m n p q r s t x e}(f:zT d b c j k l m n p q r s t x)(g:Below x x e):zT d b c j k l m n p q r s t e:=by have⟨v,w,y,u,z,A,B,C,D,E⟩:=f.r;have i:NK b x e:=.kv g;exact⟨f.g.T<|nZ.of g,f.l,v,w,y,(g.B c (QS.1 u).1).T u,z,λa=>oh (kP.ok .u8 De) i<|A a,B,λa=>oh (kR.ok .u8 d) i<|C a,D,λa=>oh (kR.ok .u8 d) i<|E a⟩
def zT.lJ{d:Nat}{a:World}{b:Nat}{g i j k l m:Value}{n:St}{p r s:Bool}{x:World}(c:zT d a b g i j k l m n p r s x){S:Nat->Prop}(e:∀q,S q->q<b):∀q,S q->x.heap[q]?=a.heap[q]?:=
 λq f=>c.g.B q (Nat.lt_trans (e q f) c.l) λt=>W<|e q f
def C3.kv{a}{b:Nat}{g i j k l m n x c}(d:C3 a b g i j k l m n x)(e:Below x x c):C3 a b g i j k l m n c:=by have⟨r,s,p,t,u,v,w⟩:=d.r;have q:NK a x c:=.kv e;exact⟨d.g.T<|nZ.of e,d.l,r,s,(e.B b (QS.1 p).1).T p,t,λf=>oh mH.ok q<|u f,v,λf=>oh nV.ok q<|w f⟩
def C3.lJ{a:World}{b:Nat}{f g i j:Value}{k:Fl}{l m:Bool}{x:World}(c:C3 a b f g i j k l m x){S:Nat->Prop}(d:∀q,S q->q<b):∀q,S q->x.heap[q]?=a.heap[q]?:=
 λq e=>c.g.B q (Nat.lt_trans (d q e) c.l) λn=>W<|d q e
def pk.set{a c:IntKind}{d}{o n:Nat}(h:pk a d o n)(b:Nat)(e:Int)(j:b<o\/o+n<=b\/c=a):pk a (d.setIfInBounds b<|.int c e) o n:=λf k=>by
 have⟨l,g⟩:=h f k;by_cases i:o+f=b;obtain rfl:c=a:=by rcases j with h|h|h;omega;omega;exact h
 subst i;exact⟨e,by rw[SM (QS.1 g).1]⟩;exact⟨l,by rw[R9<|S8 i];exact g⟩
def py(d:World)(b c:Nat):Prop:=∃a:Array Value,d.heap[b]?=some (.cells a 5 (0,0))/\a.size=c/\pk .u8 a 0 c
def py.get{w}{b c:Nat}(j:py w b c){i:Nat}(k:i<c):∃d:Int,w.cell? ⟨b,i,none⟩=some (.int .u8 d)/\w.frozen? ⟨b,i,none⟩=false/\∀a:Int,py (w.setCell ⟨b,i,none⟩<|.int .u8 a) b c:=by have⟨l,e,m,f⟩:=j;have⟨d,g⟩:=f i k;rw[Re]at g;exact⟨d,kB e i _ g,kx e i,λa=>⟨l.setIfInBounds i<|.int .u8 a,kt e,by simpa using m,f.set i a<|.inr<|.inr Z⟩⟩
def mB(c:TypeId)(d:World)(e b:Nat):Prop:=∃a:Array Value,d.heap[e]?=some (.cells a c (0,0))/\a.size=b/\pk .u32 a 0 b
def mB.get{f w}{b c:Nat}(k:mB f w b c){i:Nat}(l:i<c):∃d:Int,w.cell? ⟨b,i,none⟩=some (.int .u32 d)/\w.frozen? ⟨b,i,none⟩=false/\∀a:Int,mB f (w.setCell ⟨b,i,none⟩<|.int .u32 a) b c:=by have⟨m,e,n,g⟩:=k;have⟨d,j⟩:=g i l;rw[Re]at j;exact⟨d,kB e i _ j,kx e i,λa=>⟨m.setIfInBounds i<|.int .u32 a,kt e,by simpa using n,g.set i a<|.inr<|.inr Z⟩⟩
def mB.ku{T w w'}{b n:Nat}(a:mB T w b n)(c:w'.heap[b]?=w.heap[b]?):mB T w' b n:=by have⟨d,e,f⟩:=a;exact⟨d,c.T e,f⟩
def mB.lt{T w}{b n:Nat}(a:mB T w b n):b<w:=by have⟨d,c,e⟩:=a;exact(QS.1 c).1
def nr(d:World)(b:Nat):Prop:=∃a:Array Value,d.heap[b]?=some (.cells a 227 (0,0))/\a.size=73/\pk .u32 a 0 8/\pk .u8 a 8 64/\∃c:Int,a[72]?=some (.int .u64 c)/\0<=c
def nr.ku{w w'}{b:Nat}(a:nr w b)(c:w'.heap[b]?=w.heap[b]?):nr w' b:=by have⟨d,e,f⟩:=a;exact⟨d,c.T e,f⟩
def nr.lt{w}{b:Nat}(a:nr w b):b<w:=by have⟨d,c,e⟩:=a;exact(QS.1 c).1
structure qC(w:World):Prop where
 lt:0<w.heap.size
 ll:∀k:Nat,k<64->∃x:Int,w.cell? ⟨0,k,none⟩=some (.int .u32 x)
def qC.ku{w w'}(a:qC w)(c:w'.heap[(0:Nat)]?=w.heap[(0:Nat)]?)(d:w.heap.size<=w'.heap.size):qC w':=
 ⟨QR a.lt d,λb e=>by have⟨f,g⟩:=a.ll b e;exact⟨f,(Cb 0 b c).T g⟩⟩
def mB.set{a w}{b n:Nat}(d:mB a w b n)(i:Nat)(e:i<n)(c:Int):mB a (w.setCell ⟨b,i,none⟩<|.int .u32 c) b n:=by have⟨_,_,_,f⟩:=d.get e;exact f c
def nr.of{w}{l:Nat}{c d e f g i j k:Int}(m:w.heap[l]?=some (.cells (ob c d e f g i j k) 227)):nr w l:=by
 have n:((ob c d e f g i j k):Array Value)=([Value.int .u32 c,Value.int .u32 d,Value.int .u32 e,Value.int .u32 f,Value.int .u32 g,Value.int .u32 i,Value.int .u32 j,Value.int .u32 k]++(List.replicate 64 (Value.int .u8 0)++[Value.int .u64 0])).toArray:=Ut
 rw[n]at m;refine⟨_,m,Us,λb a=>?_,λb a=>?_,0,Us,Y⟩;rw[Re,Sg,RR<|by simpa using a]
 match b,a with
 |0,_=>exact⟨_,Z⟩
 |1,_=>exact⟨_,Z⟩
 |2,_=>exact⟨_,Z⟩
 |3,_=>exact⟨_,Z⟩
 |4,_=>exact⟨_,Z⟩
 |5,_=>exact⟨_,Z⟩
 |6,_=>exact⟨_,Z⟩
 |7,_=>exact⟨_,Z⟩
 refine⟨0,?_⟩;rw[Sg,RY Us];simp only[Rn,Rs];rw[show 8+b-(0+1+1+1+1+1+1+1+1)=b from Y,RR (by rw[List.length_replicate];exact a),List.getElem?_replicate,RG a]
def nr.copy{i}{f:Nat}{c}(p:nr i f)(m:i.heap[f]?=some (.cells c 227 (0,0))){ll:Nat}{b}(y:ll+b.length<=64)(q:∀r∈b,∃k:Int,r=.int .u8 k):
  nr (i.setRow f (c.toList.take (8+ll)++(b++c.toList.drop (8+ll+b.length))).toArray) f:=by
 have⟨z,d,s,t,n,u,v,w⟩:=p;rw[m]at d;injection d with d;injection d with d _ _;subst d;have A:c.toList.length=73:=by simpa using s
 have l:∀a,(c.toList.take (8+ll)++(b++c.toList.drop (8+ll+b.length)))[a]?=if a<8+ll then c[a]? else if a<8+ll+b.length then b[a-(8+ll)]? else c[a]?:=by intro a;by_cases e:a<8+ll;rw[RG e,RR (by rw[Ro];omega),S1 e];simp;rw[Rl e,RY (by rw[Ro];omega),Ro,Tf Y];by_cases g:a<8+ll+b.length;rw[RG g,RR Y];rw[Rl g,RY Y,SU];rw[show 8+ll+b.length+(a-(8+ll)-b.length)=a from Y];simp
 refine⟨_,Ul i f _ _ _ _ m,Uw,λa j=>?_,λa j=>?_,u,?_,w⟩
 .rw[Sg,l,RG Y];exact t a j
 .rw[Sg,l];by_cases e:8+a<8+ll;rw[RG e];exact n a j;rw[Rl e];by_cases g:8+a<8+ll+b.length;rw[RG g];have⟨k,x⟩:=q _<|Tb<|show 8+a-(8+ll)<b.length from Y;exact⟨k,by rw[Q7 Y,x]⟩;rw[Rl g];exact n a j
 .rw[Sg,l,Rl Y,Rl Y];exact v
def Ho.grown{b:Nat}{w w' d}{e:Nat}(k:Ho b w d e)(f:w.grownBy w'<|some b):Ho b w' d e:=λl=>by have⟨a,o,c,g,i,m⟩:=k l;refine⟨a,o,c,g,QR i f.size,λj n=>?_⟩;have⟨p,q⟩:=m j n;exact⟨p,(Cb a (o+j)<|f.B a i λc=>g<|by injection c).T q⟩
def pZ(d:TypeId)(e:World)(b c:Nat):Prop:=∃a:Array Value,e.heap[b]?=some (.cells a d (0,0))/\a.size=c/\pk .u8 a 0 c
def pZ.lt{T w}{b n:Nat}(a:pZ T w b n):b<w:=by have⟨d,c,e⟩:=a;exact(QS.1 c).1
def pZ.ll{T w}{b c:Nat}(f:pZ T w b c){i:Nat}(g:i<c):∃a:Int,w.cell? ⟨b,i,none⟩=some (.int .u8 a)/\w.frozen? ⟨b,i,none⟩=false:=by have⟨k,d,l,j⟩:=f;have⟨a,e⟩:=j i g;rw[Re]at e;exact⟨a,kB d i _ e,kx d i⟩
def pZ.set{c w}{b n:Nat}(d:pZ c w b n)(i:Nat)(a:Int):pZ c (w.setCell ⟨b,i,none⟩<|.int .u8 a) b n:=by have⟨e,f,g,j⟩:=d;exact⟨e.setIfInBounds i<|.int .u8 a,kt f,by simpa using g,j.set i a<|.inr<|.inr Z⟩
def pZ.ku{T w w'}{b n:Nat}(a:pZ T w b n)(c:w'.heap[b]?=w.heap[b]?):pZ T w' b n:=by have⟨d,e,f⟩:=a;exact⟨d,c.T e,f⟩
def pZ.zero{a w}{b:Nat}(c:w.heap[b]?=some (.cells tC a (0,0))):pZ a w b 32:=by rw[zero32]at c;exact⟨_,c,Us,λe d=>⟨0,by simp[d]⟩⟩
structure oo(w:World)(fb:Nat)(f:Fl):Prop where
 lt:fb<w
 ex:∃(S:Nat->Prop) (B1:Option Addr) (n1 d1:Nat) (B2:Option Addr) (n2 d2:Nat) (B3:Option Addr) (n3 d3 pb:Nat),w.cell? fb=some (tx f.name)/\w.cell? ⟨fb,1,none⟩=some (.slice B1 n1 d1)/\w.cell? ⟨fb,2,none⟩=some (.slice B2 n2 d2)/\w.cell? ⟨fb,3,none⟩=some (.slice B3 n3 d3)/\
  w.cell? ⟨fb,37,none⟩=some (.pointer pb)/\pX S w B1 n1 d1 B2 n2 d2 B3 n3 d3 f/\yr S w pb (lL f)/\pb<w
def yr.ku{S w w'}{pb:Nat}{a}(c:yr S w pb a)(b:∀q,(S q\/q=pb)->w'.heap[q]?=w.heap[q]?):yr S w' pb a:=by have⟨d,e,f,g,i⟩:=c;exact⟨d,e,f,(b pb<|.inr Z).T g,i.ku C7.ok λq j=>b q<|.inl j⟩
def yr.M{S T w}{pb:Nat}{a}(b:yr S w pb a)(c:∀q,S q->T q):yr T w pb a:=by have⟨d,e,f,g,i⟩:=b;exact⟨d,e,f,g,i.M C7.ok c⟩
def pX.M{S T w c}{d e:Nat}{f}{g i:Nat}{j}{k l:Nat}{m}(a:pX S w c d e f g i j k l m)(b:∀q,S q->T q)(n:∀q,T q->q<w.heap.size):pX T w c d e f g i j k l m:=
 ⟨a.kN.M mH.ok b,a.mj.M nV.ok b,a.kF.M (mn.ok .u8) b,n⟩
def oo.kv{w w'}{a:Nat}{f}(k:oo w a f)(b:Below w w w'):oo w' a f:=by have⟨g,l,m,n,p,q,r,s,t,u,v,x,y,z,A,B,C,i,D,E⟩:=k;have c:∀d,w'.cell? ⟨a,d,none⟩=w.cell? ⟨a,d,none⟩:=λd=>Cb a d<|b.B a g;exact⟨QR g b.size,l,m,n,p,q,r,s,t,u,v,x,(c 0).T y,(c 1).T z,(c 2).T A,(c 3).T B,(c 37).T C,i.kv b,D.ku (λj e=>b.B j<|by rcases e with e|e;exact i.lJ j e;omega),QR E b.size⟩
structure oZ.Ev where
 tick:Int
 comp:Int
 kind:Nat
 peer:Int
 n:Int
 copy:Int
 hd:Int
 d:Int
 args:List Int
def pz(a:List<|List UInt8)(b:World)(g:Ending)(c:World):Prop:=(∃(d:Option Addr) (e:Nat),g=.returned (d,a.length,e)/\kz kO (λf=>b<=f/\f<c) c (d,a.length,e) a)/\Below b b c
def pz.of{b w w' v}(a:kJ kO 9 1 (λ_=>False) w' w.heap.size v b)(d:Below w.heap.size w w'):pz b w (.returned v) w':=by obtain⟨e,f,rfl,_⟩:=a.form;exact⟨⟨e,f,Z,(a.sl kO.ok).M kO.ok λg c=>⟨c.1.resolve_left λa=>a,c.2⟩⟩,d⟩
def mg.ok:lh mg 1:=
 ⟨Y,λa=>by rw[a];rfl,λa c b=>by rw[a]at b;simp at b;subst b;rfl,λa _=>a,λa _=>a⟩
structure oZ.Np(e:Ev):Prop where
 tick:rS e.tick
 n:rS e.n
 d:rS e.d
 args:∀v∈e.args,rS v
def ym.all{c:Bool}{b:List Int}(d:∀a∈b,ym c a):∀a∈b,rS a:=λa e=>(d a e).1
def qE.kv{B w w'}(a:qE B w)(c:Below w w w'):qE B w':=by
 intro d;have a:=a d;unfold Lib.TabIs World.var? at a⊢;rw[sZ]at a⊢;simp only[Option.bind_some]at a⊢;have e:(1:Nat)<w:=by rcases SS (1:Nat) w with b|b;exact b;rw[T2 b]at a;cases a
 rw[c.B _ e];exact a
def uj(b:World)(c d:Nat)(e f:Array Value)(a:World):Prop:=Below b b a/\a.heap[c]?=some (.cells e 29 (0,0))/\a.heap[d]?=some (.cells f 29 (0,0))
def uj.lt{w:World}{a b:Nat}{d e:Array Value}{x:World}(c:uj w a b d e x):a<x/\b<x:=⟨(QS.1 c.2.1).1,(QS.1 c.2.2).1⟩
def uj.kv{w:World}{b c:Nat}{e f:Array Value}{x g:World}(a:uj w b c e f x)(d:Below x x g):uj w b c e f g:=⟨a.1.T<|d.M a.1.size,(d.B b a.lt.1).T a.2.1,(d.B c a.lt.2).T a.2.2⟩
def uj.set{w:World}{b a:Nat}{d e:Array Value}{f:World}(c:uj w b a d e f)(j:w<=a)(k:b≠a)(i:Nat)(u:Value){g:Array Value}(l:e.setIfInBounds i u=g:=by rfl):uj w b a d g<|f.setCell ⟨a,i,none⟩ u:=
 ⟨kD c.1 j,(Q5 _ _ _ _ k).T c.2.1,by rw[<-l];exact kt c.2.2⟩
structure kI.Tok where
 kind:Nat
 text:ByteArray
 off:Nat
def kI.Bx(b:ByteArray)(a:Nat):Tok:=⟨(oF b a).1,b.extract a<|a+(oF b a).2,a⟩
def kI.wk(a:ByteArray):Nat->Nat->List Tok
 |0,_=>[]
 |f+1,off=>if off<a.size then Bx a off::wk a f (rG a off)else []
def kI.oU(a:ByteArray)(b:Nat):List Tok:=wk a (a.size+1-b) b
def kI.lexB(a:ByteArray):List Tok:=oU a<|qT a 0
def kI.Fz(b:Int->Bool)(a:List UInt8)(d:a≠[])(e:b (a.headD 0).toNat=true):1<=pre b a:=by
 match a,d with
 |c::t,_=>rw[nI,if_pos<|by simpa using e];omega
def kI.CX(a:List UInt8)(d:a≠[]):1<=(ow a).2/\(ow a).2<=a.length:=by
 have e:1<=a.length:=by cases a with|nil=>exact absurd Z d|cons=>simp
 unfold ow;split
 rename_i f
 have b:=Fz lT a d (by unfold lT;rw[f];rfl);have c:=wW lT a;split;exact⟨b,c⟩;split;exact⟨b,c⟩;exact⟨e,Nat.le_refl _⟩;split
 rename_i f
 have b:=Fz mF a d f;have c:=wW mF a;split;exact⟨b,c⟩;exact⟨e,Nat.le_refl _⟩;split
 rename_i i g
 unfold rp at g;exact⟨(Jc i<|List.mem_of_find?_eq_some g).1,K3 _ _<|List.find?_some g⟩;exact⟨e,Nat.le_refl _⟩
def kI.tN(a:ByteArray)(b:Nat)(e:b<a.size):1<=(oF a b).2/\b+(oF a b).2<=a.size:=by
 have c:(a.data.toList.drop b).length=a.size-b:=Us
 have:=CX (a.data.toList.drop b) (by intro d;rw[d]at c;simp at c;omega);unfold oF;omega
def kI.vx(a:ByteArray)(b:Nat)(c:b<=a.size):b+qT a b<=a.size:=by have:=sw false<|a.data.toList.drop b;unfold qT;simp at this;omega
def kI.qZ(a:ByteArray)(b:Nat)(c:b<a.size):b<rG a b/\rG a b<=a.size:=by have d:=tN a b c;have e:=vx a _ d.2;unfold rG;omega
def kI.zt(c:ByteArray):∀(f b a:Nat),c.size+1-a<=f->c.size+1-a<=b->wk c f a=wk c b a
 |0,b,a,h1,h2=>by
  cases b with
  |zero=>rfl
  |succ b=>rw[wk,wk,if_neg<|by omega]
 |f+1,0,a,h1,h2=>by rw[wk,wk,if_neg<|by omega]
 |f+1,b+1,a,h1,h2=>by
  rw[wk,wk];split
  rename_i d
  have:=qZ c a d;rw[zt c f b _ Y Y];rfl
def kI.rR(a:ByteArray)(b:Nat)(c:¬b<a.size):oU a b=[]:=by
 unfold oU;cases hf:a.size+1-b with
 |zero=>rfl
 |succ d=>rw[wk,if_neg c]
def kI.tO(a:ByteArray)(b:Nat)(c:b<a.size):oU a b=Bx a b::oU a (rG a b):=by have d:=qZ a b c;unfold oU;rw[show a.size+1-b=(a.size-b)+1 from Y,wk,if_pos c,zt a (a.size-b) (a.size+1-rG a b) _ Y Y]
def L.Laid(w:World):Prop:=
 (∃a b,w.heap[3]?=some (.cells pg a b))/\(∃a b,w.heap[2]?=some (.cells yK a b))
def L.oA{b:Program}(a:World)(e c:TypeId)(f:Nat)(g:Array Value)(d:Nat)(i:Value)(j:b.underlying e=some (.array f c))(k:d<f)
  (l:(isAgg c).run b a=.ok false a) (m:g[d]?=some i) (n:(sizeOf c).run b a=.ok 1 a):
  (Instr.index e (.agg g)<|.int .i64 d).run b a=.ok i a:=by
 simp[Instr.index,Tn j,asIntOf,k,n,l,m,go_sem]
def L.vk(b:World)(a:Nat)(c:a<39):(Instr.index 319 (.agg pg)<|.int .i64 a).run prog b=.ok (FR<|kI.words.getD a []) b:=
 oA b _ 9 39 _ a _ Ut c Ut
  (by have d:a<kI.words.length:=c;simp[pg,FR,d]) Ut
def L.Jd(b:World)(a:Nat)(c:a<25):(Instr.index 284 (.agg yK)<|.int .i64 a).run prog b=.ok (FR<|kI.syms.getD a []) b:=
 oA b _ 9 25 _ a _ Ut c Ut
  (by have d:a<kI.syms.length:=c;simp[yK,FR,d]) Ut
def L.tW:(prog.info? 319).map (·.size)=some pg.size:=Ut
def L.GR:(prog.info? 284).map (·.size)=some yK.size:=Ut
def L.oG(a:Int)(b:World):Calls prog 159 #[.int .u8 a] b λc d=>c=.returned (.bool<|kI.lS a)/\b=d:=by
 by_cases e:97<=a<;>by_cases f:a<=122<;>by_cases g:65<=a<;>by_cases i:a<=90;all_goals
  first
  |omega
  |(go_enter func159,ntmps159;go_wp2;go_ret;exact⟨by simp[kI.lS,e,f,g,i],Z⟩)
def L.pR(a:Int)(b:World):Calls prog 162 #[.int .u8 a] b λc d=>c=.returned (.bool<|kI.mF a)/\b=d:=by
 by_cases e:48<=a<;>by_cases f:a<=57;all_goals
  first
  |omega
  |(go_enter func162,ntmps162;go_wp2;go_ret;exact⟨by simp[kI.mF,e,f],Z⟩)
def L.GS(a:Int)(b:World):Calls prog 156 #[.int .u8 a] b λc d=>c=.returned (.bool<|kI.oc a)/\b=d:=by
 cases h1:(a==32)<;>cases h2:(a==9)<;>cases h3:(a==10)<;>cases h4:(a==13);all_goals
  (go_enter func156,ntmps156;go_wp2;go_ret;exact⟨by simp[kI.oc,h1,h2,h3,h4],Z⟩)
def L.GU(a:Int)(b:World):Calls prog 158 #[.int .u8 a] b λc d=>c=.returned (.bool<|kI.pd a)/\b=d:=by
 go_enter func158,ntmps158
 go_wp2;go_ret;exact⟨by simp[kI.pd],Z⟩
def L.tX(a:Int)(d:World):Calls prog 160 #[.int .u8 a] d λb c=>b=.returned (.bool<|kI.lT a)/\d=c:=by
 cases h1:kI.lS a<;>cases h2:kI.mF a<;>cases h3:(a==95);all_goals
  (go_enter func160,ntmps160;go_wp2_with (first|(go_at_call 159;apply(oG _ _).M;rintro b c ⟨rfl,rfl⟩)|(go_at_call 162;apply(pR _ _).M;rintro b c ⟨rfl,rfl⟩));go_ret;exact⟨by simp[kI.lT,h1,h2,h3],Z⟩)
def L.oO(i:FuncId)(d:Int->Bool)(t:∀(m:Array Value) (c:World),Sem.run prog (callFunc i m) c=.ok (.enter i m) c)(q:∀n c,Calls prog i #[.int .u8 n] c λe f=>e=.returned (.bool<|d n)/\c=f)(a:ByteArray)(c:World)(r:a.size<=maxLen):
  Calls prog 155 #[.string a,.func (.func i) #[] #[]] c λe f=>e=.returned (.int .i64<|kI.pre d a.data.toList)/\c=f:=by
 unfold maxLen at r;have p:=X q
 go_enter func155,ntmps155
 go_wp2
 go_loop [5] (λj=>∃b:Nat,b<=a.size/\j=b/\b<=kI.pre d a.data.toList) (λj=>a.size-(intOf j).toNat)
 .exact⟨0,Q1 _,Z,Q1 _⟩
 obtain⟨b,u,rfl,s⟩:=hrel;have k:=X s;by_cases l:b<a.size
 .cases hq:d (a[b].toNat:Int)
  .have g:=X<|kI.yV d a b l k.o hq;go_wp2_with (apply(p.o _ _).M;rintro e f ⟨rfl,rfl⟩);go_ret;exact⟨by rw[g.o];rfl,Z⟩
  have g:=X<|kI.yU d a b l k.o hq;go_wp2_with (apply(p.o _ _).M;rintro e f ⟨rfl,rfl⟩)
  go_round
  .exact⟨b+1,Y,Uv,g.o⟩
  simp[intOf];omega
 have g:=X<|kI.BJ d a b l k.o;go_wp21;go_ret;exact⟨by rw[g.o];rfl,Z⟩
def L.AW(a:ByteArray)(b:World)(c:a.size<=maxLen):
  Calls prog 155 #[.string a,.func (.func 156) #[] #[]] b λd e=>d=.returned (.int .i64<|kI.pre kI.oc a.data.toList)/\b=e:=
 oO _ _ (λ_ _=>Ut) GS a b c
def L.AX(a:ByteArray)(b:World)(c:a.size<=maxLen):
  Calls prog 155 #[.string a,.func (.func 158) #[] #[]] b λd e=>d=.returned (.int .i64<|kI.pre kI.pd a.data.toList)/\b=e:=
 oO _ _ (λ_ _=>Ut) GU a b c
def L.qW(a:ByteArray)(b:World)(c:a.size<=maxLen):
  Calls prog 155 #[.string a,.func (.func 160) #[] #[]] b λd e=>d=.returned (.int .i64<|kI.pre kI.lT a.data.toList)/\b=e:=
 oO _ _ (λ_ _=>Ut) tX a b c
def L.uI(a:ByteArray)(b:World)(c:a.size<=maxLen):
  Calls prog 155 #[.string a,.func (.func 162) #[] #[]] b λd e=>d=.returned (.int .i64<|kI.pre kI.mF a.data.toList)/\b=e:=
 oO _ _ (λ_ _=>Ut) pR a b c
def L.sI(d:ByteArray)(c:World)(j:Laid c):
  Calls prog 161 #[.string d] c λe k=>e=.returned (.bool<|kI.tu d.data.toList)/\c=k:=by
 have⟨⟨l,m,n⟩,_⟩:=j
 go_enter func161,ntmps161
 go_wp2_with (refine TY Z 319 _ Z 3 Z l _ m _ n sH Z tW ?_)
 go_loop [4,6] (λ_ f=>∃a:Nat,a<=39/\f=a/\∀b,b<a->(kI.words[b]?.getD []==d.toList)=false) (λ_ f=>39-(intOf f).toNat)
 .exact⟨0,Q1 _,Z,Y⟩
 obtain⟨a,q,rfl,g⟩:=hrel;by_cases i:a<39
 .have r:=λc=>vk c a i;cases hq:(kI.words[a]?.getD []==d.toList)
  .go_wp2
   go_round
   .refine⟨a+1,Y,Uv,λb p=>?_⟩;by_cases e:b=a;rw[e];exact hq;exact g b Y
   simp[intOf];omega
  go_wp2;go_ret;exact⟨by rw[kI.Fe _ a i<|by rw[<-SA];exact hq];rfl,Z⟩
 go_wp2;go_ret;exact⟨by rw[kI.BK _ λb p=>by rw[<-SA];exact g b Y];rfl,Z⟩
def L.B9(a:ByteArray)(k:World)(m:a.size<=maxLen):
  Calls prog 108 #[.string a] k λe f=>e=.returned (.int .i64<|kI.mr false a.data.toList)/\k=f:=by
 unfold maxLen at m
 go_enter func108,ntmps108
 go_wp21
 go_loop [3] (λg=>∃b:Nat,b<=a.size/\g=b/\b+kI.mr false (a.data.toList.drop b)=kI.mr false a.data.toList) (λg=>a.size-(intOf g).toNat)
 .exact⟨0,Q1 _,Z,Us⟩
 obtain⟨b,n,rfl,p⟩:=hrel;have q:=X p;go_wp21;refine(AW _ _ UD).M ?_;rintro e f ⟨rfl,rfl⟩;rw[kI.rv];have r:=kI.vS kI.oc a b n;generalize c:kI.pre kI.oc (a.data.toList.drop b)=d at*;have s:=X c;have l:=X<|kI.DG _ _ _ q.o c;clear c;go_wp21;apply(Tryz.strings_HasPrefix _ _ _).M;rintro e f ⟨rfl,rfl⟩;rw[kI.rv];cases hp:kI.pfx (a.data.toList.drop<|b+d) [47,47]
 .have i:=X hp;have j:Lib.hasPrefix (a.data.toList.drop<|b+d) ({data:=#[47,47]}:ByteArray).data.toList=false:=hp;rw[j];go_wp21;go_ret;exact⟨by rw[kI.IE _ _ _ l.o s.o i.o];rfl,Z⟩
 have i:=X hp;have j:Lib.hasPrefix (a.data.toList.drop<|b+d) ({data:=#[47,47]}:ByteArray).data.toList=true:=hp;rw[j];go_wp21;refine(AX _ _ UD).M ?_;rintro e f ⟨rfl,rfl⟩;rw[kI.rv];have t:=kI.vS kI.pd a (b+d) r;generalize c:kI.pre kI.pd (a.data.toList.drop<|b+d)=u at*;have⟨v,x⟩:=kI.Cv _ _ _ l.o i.o c;have w:=X v;clear c;go_wp21
 go_round
 .exact⟨b+d+u,t,Uv,w.o⟩
 simp[intOf];omega
def L.ql{a:List UInt8}{b c:Nat}(d:kI.ow a=(b,c)):rV a=.tuple #[.int .u8 (b:Nat),c]:=by unfold rV;rw[d]
def L.CY(b:Int->Bool)(a:ByteArray):kI.pre b a.data.toList<=a.size:=by have:=kI.wW b a.data.toList;simpa using this
def L.CZ(a:ByteArray)(i:World)(l:Laid i)(p:a.size<=maxLen)(j:0<a.size)(q:kI.lS (a[0]).toNat=true):
  Calls prog 109 #[.string a] i λd e=>d=.returned (rV a.data.toList)/\i=e:=by
 have r:=X l;clear l;have k:=X q;unfold maxLen at p
 go_enter func109,ntmps109
 go_wp2_with (go_at_call 159;apply(oG _ _).M;rintro d e ⟨rfl,rfl⟩);refine(qW _ _ UD).M ?_;rintro d e ⟨rfl,rfl⟩;have s:=CY kI.lT a;generalize m:kI.pre kI.lT a.data.toList=f at*;have b:=X m;clear m;go_wp21;apply(sI _ _ r.o).M;rintro d e ⟨rfl,rfl⟩;rw[kI.F3];cases hk:kI.tu<|a.data.toList.take f
 .have g:=X hk;clear hk;by_cases n:f<=12
  .have c:Hid<|rV a.data.toList=.tuple #[.int .u8 (1:Nat),f]:=X (ql<|by rw[kI.F5 a j k.o (by rw[b.o];exact g.o) (by rw[b.o];exact n),b.o]);go_wp21
   go_ret2
   exact⟨by rw[c.o];rfl,Z⟩
  have c:Hid<|rV a.data.toList=.tuple #[.int .u8 (5:Nat),.int .i64 (a.size:Nat)]:=X (ql<|by rw[kI.F6 a j k.o (by rw[b.o];exact g.o)<|by rw[b.o];exact n]);go_wp21
  go_ret2
  exact⟨by rw[c.o];rfl,Z⟩
 .have g:=X hk;clear hk;have c:Hid<|rV a.data.toList=.tuple #[.int .u8 (2:Nat),f]:=X (ql<|by rw[kI.Ku a j k.o (by rw[b.o];exact g.o),b.o]);go_wp21
  go_ret2
  exact⟨by rw[c.o];rfl,Z⟩
def L.Ey(a:ByteArray)(f:World)(l:a.size<=maxLen)(g:0<a.size)(m:kI.lS (a[0]).toNat=false)(n:kI.mF (a[0]).toNat=true):
  Calls prog 109 #[.string a] f λb c=>b=.returned (rV a.data.toList)/\f=c:=by
 have i:=m;have j:=n;unfold maxLen at l
 go_enter func109,ntmps109
 go_wp2_with (first|(go_at_call 159;apply(oG _ _).M;rintro b c ⟨rfl,rfl⟩)|(go_at_call 162;apply(pR _ _).M;rintro b c ⟨rfl,rfl⟩));refine(uI _ _ UD).M ?_;rintro b c ⟨rfl,rfl⟩;generalize p:kI.pre kI.mF a.data.toList=k at*;have d:=p;cases h1:((k:Int)==1)<;>cases hc:(((a[0]).toNat:Int) !=48)
 .have e:Hid<|rV a.data.toList=.tuple #[.int .u8 (5:Nat),.int .i64 (a.size:Nat)]:=(ql<|by rw[kI.F7 a g i j (by rw[d];rw[QY]at h1;omega) hc])
  go_wp2
  go_ret2
  exact⟨by rw[e.o];rfl,Z⟩
 all_goals
  have e:Hid<|rV a.data.toList=.tuple #[.int .u8 (3:Nat),k]:=(ql<|by rw[kI.IG a g i j (by rw[d];first|exact .inr hc|(left;rw[R5]at h1;omega)),d])
  go_wp2
  go_ret2
  exact⟨by rw[e.o];rfl,Z⟩
def L.Ez(b:ByteArray)(e:World)(s:Laid e)(l:0<b.size)(t:kI.lS (b[0]).toNat=false)(u:kI.mF (b[0]).toNat=false):
  Calls prog 109 #[.string b] e λd g=>d=.returned (rV b.data.toList)/\e=g:=by
 have⟨_,v,w,m⟩:=s;have x:=X m;clear m;have n:=X t;have p:=X u
 go_enter func109,ntmps109
 go_wp2_with (first|(go_at_call 159;apply(oG _ _).M;rintro d g ⟨rfl,rfl⟩)|(go_at_call 162;apply(pR _ _).M;rintro d g ⟨rfl,rfl⟩)|refine TY Z 284 _ Z 2 Z v _ w _ x.o Ew Z GR ?_)
 go_loop [8,12] (λ_ i=>∃a:Nat,a<=25/\i=a/\∀c,c<a->kI.pfx b.data.toList (kI.syms[c]?.getD [])=false) (λ_ i=>25-(intOf i).toNat)
 .exact⟨0,Q1 _,Z,Y⟩
 obtain⟨a,A,rfl,q⟩:=hrel;have j:=X q;clear q;by_cases r:a<25
 .have B:=λe=>Jd e a r;go_wp21;apply(Tryz.strings_HasPrefix _ _ _).M;rintro d g ⟨rfl,rfl⟩;cases hp:kI.pfx b.data.toList<|kI.syms[a]?.getD []
  .have y:=X hp;have f:Lib.hasPrefix b.data.toList ({data:=(kI.syms[a]?.getD []).toArray}:ByteArray).data.toList=false:=hp;clear hp;rw[f];clear f;go_wp21
   go_round
   .refine⟨a+1,Y,Uv,λc z=>?_⟩;by_cases d:c=a;rw[d];exact y.o;exact j.o c Y
   simp[intOf];omega
  have k:=X<|ql<|kI.IH b l n.o p.o a r j.o hp;have f:Lib.hasPrefix b.data.toList ({data:=(kI.syms[a]?.getD []).toArray}:ByteArray).data.toList=true:=hp;clear hp;rw[f];clear f;go_wp21
  go_ret2
  exact⟨by rw[k.o];rfl,Z⟩
 have k:=X<|ql<|kI.F8 b l n.o p.o λc z=>j.o c Y;go_wp21
 go_ret2
 exact⟨by rw[k.o];rfl,Z⟩
def L.Je(a:ByteArray)(b:World)(d:Laid b)(e:a.size<=maxLen)(c:0<a.size):
  Calls prog 109 #[.string a] b λf g=>f=.returned (rV a.data.toList)/\b=g:=by
 cases hl:kI.lS (a[0]).toNat
 .cases hd:kI.mF (a[0]).toNat;exact Ez a b d c hl hd;exact Ey a b e c hl hd
 .exact CZ a b d e c hl
abbrev qQ.lj:=List kI.Tok
def qQ.Bc(a:lj)(b:Nat):Nat:=match a[b]? with|some t=>t.kind|none=>0
def qQ.ov(T:lj)(a:Nat):List UInt8:=match T[a]? with|some t=>t.text.data.toList|none=>[]
def qQ.vH(T:lj)(a:Nat):Option<|List UInt8×Nat:=if Bc T a=1 then some (ov T a,a+1)else none
def qQ.FT(b:lj)(a:Nat):Option<|Nat×Nat:=if Bc b a=3/\(ov b a).all (λc=>decide (48<=c)&&decide (c<=57))=true/\ov b a≠[]/\(ov b a).length<=18 then some (wm<|ov b a,a+1)else none
structure mh(T:lj)(vQ:PV)(w:World)(pb pos:Nat):Prop where
 ll:∃(tb cap:Nat) (en:Int),w.heap[pb]?=some (.cells #[(tb,T.length,cap),pos,en,vQ.v1,vQ.v2,vQ.v3,vQ.v4,.int .i64 0,.int .i64 0] 129)/\T.length<=cap/\tb≠pb/\tb<vQ.lo/\
  ∀(k:Nat) (x:kI.Tok),T[k]?=some x->w.cell? ⟨tb,k*3,none⟩=some (.int .u8 (x.kind:Nat))/\w.cell? ⟨tb,k*3+1,none⟩=some (.string x.text)/\w.cell? ⟨tb,k*3+2,none⟩=some (.int .i64 (x.off:Nat))
 small:T.length<=20000/\pos<=T.length
 low:pb<vQ.lo/\vQ.lo<=w
def mh.lt{T:lj}{vQ:PV}{w}{pb pos:Nat}(a:mh T vQ w pb pos):pb<w:=by have⟨_,_,_,b,_⟩:=a.ll;exact(QS.1 b).1
def mh.grown{T:lj}{vQ:PV}{w w'}{pb pos:Nat}(a:mh T vQ w pb pos)(c:w.grownBy w' none):mh T vQ w' pb pos:=by have⟨b,f,g,i,j,k,e,l⟩:=a.ll;exact⟨⟨b,f,g,(c.B pb a.lt Us).T i,j,k,e,λm n p=>by have⟨q,r,s⟩:=l m n p;have d:=c.B b (QR e a.low.2) Us;exact⟨(Cb b _ d).T q,(Cb b _ d).T r,(Cb b _ d).T s⟩⟩,a.small,a.low.1,Q8 a.low.2 c.size⟩
def mh.step{e:lj}{i:PV}{f}{c l d:Nat}(a:mh e i f c l)(m:d<=e.length):mh e i (f.setCell ⟨c,1,none⟩<|.int .i64 (d:Int)) c d:=by have⟨b,n,p,q,r,j,k,s⟩:=a.ll;refine⟨⟨b,n,p,kt q,r,j,k,λt u v=>?_⟩,⟨a.small.1,m⟩,a.low.1,by rw[QW];exact a.low.2⟩;have⟨w,x,y⟩:=s t u v;have g:=(kE f c 1<|.int .i64 (d:Int)).B b (QR k a.low.2) (λz=>j<|by injection z);exact⟨(Cb b _ g).T w,(Cb b _ g).T x,(Cb b _ g).T y⟩
def lN(T:lj)(vQ:PV)(w:World)(pb q:Nat)(w':World):Prop:=mh T vQ w' pb q/\w.grownBy w' (some pb)
def ML(a:kI.Tok):Value.string a.text=tx a.text.data.toList:=by show Value.string a.text=.string ⟨a.text.data.toList.toArray⟩;rw[Sy]
def N0{T:lj}{a:Nat}{b:kI.Tok}(c:T[a]?=some b):Bc T a=b.kind/\ov T a=b.text.data.toList:=by unfold Bc ov;rw[c];exact⟨Z,Z⟩
def Dq{T:lj}{a:Nat}(b:¬a<T.length):Bc T a=0/\ov T a=[]:=by unfold Bc ov;rw[SF Y];exact⟨Z,Z⟩
def K6(T:lj)(a:Nat)(w:World)(b:Ending)(c:World):Prop:=(∃d:Int,b=.returned (.agg #[.int .u8 (Bc T a:Nat),tx<|ov T a,d]))/\Below w w c
def GV(a c b d):(Instr.field 191 (.agg #[c,b,d]) 1).run prog a=.ok b a:=Ut
def K7(c:lj)(d:PV)(e a:Nat)(b:Bool)(f:World)(g:Ending)(i:World):Prop:=g=.returned (.bool b)/\lN c d f e (if b then a+1 else a) i
def lN.set{a:lj}{vQ:PV}{w w'}{b d q:Nat}(c:lN a vQ w b d w')(e:q<=a.length):lN a vQ w b q<|w'.setCell ⟨b,1,none⟩<|.int .i64 (q:Int):=⟨c.1.step e,ky c.2<|kE _ _ _ _⟩
def lN.T{T:lj}{vQ:PV}{w w' a}{pb p q:Nat}(b:lN T vQ w pb p w')(k:lN T vQ w' pb q a):lN T vQ w pb q a:=⟨k.1,ky b.2 k.2⟩
def LF{a:lj}{b:Nat}{c}(e:ov a b=c)(f:c≠[]):b<a.length:=by by_cases d:b<a.length;exact d;exact absurd ((Dq d).2.symm.T e).symm f
def ru{c:lj}{a q:Nat}{x}(b:vH c a=some (x,q)):Bc c a=1/\ov c a=x/\q=a+1/\a<c.length:=by unfold vH at b;by_cases d:Bc c a=1;rw[RG d]at b;injection b with b;injection b with f g;refine⟨d,f,g.symm,?_⟩;by_cases e:a<c.length;exact e;rw[(Dq e).1]at d;cases d;rw[Rl d]at b;cases b
def Ca{b:lj}{a q e:Nat}(c:FT b a=some (e,q)):Bc b a=3/\(ov b a).all (λf=>decide (48<=f)&&decide (f<=57))=true/\ov b a≠[]/\(ov b a).length<=18/\e=wm (ov b a)/\q=a+1/\a<b.length:=by
 unfold FT at c;split at c
 rename_i d
 injection c with c;injection c with g i;exact⟨d.1,d.2.1,d.2.2.1,d.2.2.2,g.symm,i.symm,LF Z d.2.2.1⟩;cases c
def qQ.FA:∀(n:Nat) (a:List UInt8),a.length=n->a.all (λb=>decide (48<=b)&&decide (b<=57))=true->wm a<10^n
 |0,a,h,_=>by obtain rfl:=List.eq_nil_of_length_eq_zero h;decide
 |n+1,a,h,ha=>by
  obtain⟨c,b,rfl⟩:∃c b,a=c++[b]:=⟨a.dropLast,a.getLast (by intro d;rw[d]at h;cases h),(List.dropLast_concat_getLast _).symm⟩
  rw[List.all_append,Bool.and_eq_true]at ha;have f:=FA n c (by simpa using h) ha.1;have e:b<=57:=(by have:=ha.2;simp at this;exact this.2);have g:b.toNat<=57:=e;rw[zu,Nat.pow_succ];omega
def qQ.MM{a:List UInt8}(d:a.all (λc=>decide (48<=c)&&decide (c<=57))=true)(b:Nat)(e:b<a.length):48<=(a[b]).toNat/\(a[b]).toNat<=57:=by have:=List.all_eq_true.1 d _<|List.getElem_mem e;simp at this;exact this
def qQ.xO:∀{a:List UInt8},a.all (λc=>decide (48<=c)&&decide (c<=57))=true->kI.pre kI.mF a=a.length
 |[],_=>rfl
 |c::a,h=>by
  rw[List.all_cons,Bool.and_eq_true]at h;have b:48<=c.toNat/\c.toNat<=57:=by have:=h.1;simp at this;exact this
  rw[kI.nI,if_pos (by unfold kI.mF;simp;omega),xO h.2,List.length_cons]
def ED{d:Program}{e:FuncId}{f:Array Value}{a:World}{b:Nat}{g:Value}
  (i:Calls d e f (a.drewN b) λc j=>c=.returned g/\a.drewN b=j):Calls d e f (a.drewN b) λc k=>c=.returned g/\∃l,k=a.drewN l:=
 i.M λ_ _ ⟨m,n⟩=>⟨m,b,n.symm⟩
def EE(c)(p:Int)(f:World)(g:c.all (λi=>decide (48<=i)&&decide (i<=57))=true)(q:c≠[])(x:c.length<=18):
  Calls prog 163 #[.agg #[.int .u8 3,tx c,p]] f λj y=>j=.returned (.tuple #[.int .i64 (wm c:Nat),.int .i64 0])/\Below f f y:=by
 obtain⟨b,e⟩:∃b:ByteArray,b=⟨c.toArray⟩:=⟨_,Z⟩
 have k:b.size=c.length:=by rw[e];exact Sd ..
 have OW:b.data.toList=c:=by rw[e]
 have l:=λ(z:World)=>L.uI b z UA;rw[OW,xO g,<-k]at l;have A:=X l;have d:=EV g k OW;have B:b.toList≠[]:=by rw[e,SA];exact q
 have J:b.toList.isEmpty=false:=by
  cases j:b.toList with
  |nil=>exact absurd j B
  |cons=>rfl
 have K:b.size<=18:=Y
 rw[show tx c=.string b from by rw[e]];clear l e OW g q x k
 go_enter func163,ntmps163
 go_wp21;go_quiet ((go_at_call 155;exact ED<|A.o _));go_wp21;go_loopw [4,5,6,27] (λC _ _ m wr=>∃a:Nat,a<=b.size/\m=a/\C=.int .i64 (wm (c.take a):Nat)/\wr=(f.alloc<|Obj.cells #[Value.int IntKind.u8 3,Value.string b,Value.int IntKind.i64 p] 191).drewN nq) (λ_ _ _ m _=>b.size-(intOf m).toNat)
 .exact⟨0,Q1 _,Z,Z,Z⟩
 obtain⟨a,M,rfl,rfl,rfl⟩:=hrel;have r:=FA a (c.take a) (by rw[Ro];have:=d.o.2.1;omega) (by have:=d.o.1;rw[Sb]at this⊢;exact λD E=>this D<|SJ E);by_cases F:a<b.size
 .have G:10^a<=10^17:=Nat.pow_le_pow_right Ur Y;have n:a<c.length:=W d.o.2.1;have I:=MM d.o.1 a n;have s:=X<|GW a n;have t:b[a]=c[a]:=by have u:b.data.toList[a]?=some b[a]:=(by rw[Q7<|by simpa using F];rfl);rw[d.o.2.2,Q7 n]at u;exact(Option.some.inj u).symm
  have v:(b[a]).toNat=(c[a]).toNat:=(by rw[t]);have N:wm (c.take a)<100000000000000000:=Y;generalize wm (c.take a)=O at*;generalize P:(b[a]).toNat=i at*;rw[<-v]at I s;clear v t r G;go_wp21;go_roundw
  .exact⟨a+1,Y,Uv,by rw[s.o];go_num,trivial⟩
  simp[intOf];omega
 have w:c.take a=c:=Rh<|W d.o.2.1;rw[w];have w:a=b.size:=Y;clear r;go_wp21
 go_ret2
 exact⟨Z,nb (Ba _ _) _⟩
end Go.Proofs.YtppncjcpdbhobaaGreatDoor
namespace Go.Proofs.YtppncjcpdbhobaaGreatDoor.L
open Go.RowKit Go.Shelf Go.Proofs.Tryz
attribute [local go_sem] Oper.semAt_some
def L3(a:kI.Tok):Value:=.agg #[.int .u8 (a.kind:Nat),.string a.text,.int .i64 (a.off:Nat)]
def Kp(n₀ a:Nat)(b c:World):Prop:=Below n₀ b c/\c.heap[a]?=b.heap[a]?
def Laid.kv{n:Nat}{a B:World}(b:Below n a B)(k:3+1<=n)(c:Laid a):Laid B:=by have⟨⟨d,e,f⟩,g,i,j⟩:=c;exact⟨⟨d,e,(b.B _ Y).T f⟩,g,i,(b.B _ Y).T j⟩
def K4(a:ByteArray)(w:World):
  Calls prog 66 #[.string a] w λb c=>b=.returned (.func (.func 107) #[] #[.pointer w])/\w.alloc (.cells #[.string a] 9)=c:=by
 go_enter func66,ntmps66
 go_wp2;go_ret;exact⟨Z,Z⟩
def K5(m:Nat)(aj:1<=m)(j k r:Nat)(a:ByteArray)(A:a.size<=maxLen)(B:3+1<=r)(g s:List kI.Tok->World->Prop)
  (C:∀c n d,g c d->c.length<(kI.lexB a).length->YieldAt Fence.wide (m-1) prog j #[L3 n] d λe f=>
   (e=.returned (.bool true)/\g (c++[n]) f/\Kp r k d f)\/(e=.returned (.bool false)/\s (c++[n]) f))
  (d:World) (t:d.heap[k]?=some (.cells #[.string a] 9)) (D:Laid d) (E:g [] d):
  CallsIn Fence.wide m prog 107 #[.func (.yield j) #[] #[],.pointer k] d λe f=>(∃F,e=.returned F)/\
   ((∃u,u=kI.lexB a/\g u f)\/(∃c,c<+:kI.lexB a/\s c f)):=by
 have G:=Um t;have I:=C;have J:=A;unfold maxLen at J;refine callsIn_of_wp func107 Z trivial ?_ rfl;simp only[ntmps107,Sd,Rn,Rs,Nat.reduceAdd,Nat.reduceSub,Ub,Uc,List.push_toArray,Ug,Sa,List.cons_append]
 gi_wp2_with (refine⟨trivial,?_⟩;gi_at_call 108;apply(Tz.2<|B9 _ _<|by assumption).mono;rintro e v ⟨rfl,rfl⟩)
 have K:kI.qT a 0<=a.size:=W<|kI.vx a 0<|Q1 _
 have L:kI.mr false a.data.toList=kI.qT a 0:=by unfold kI.qT;simp
 rw[L]
 gi_loopw [3,4,5] (λo _ _ wr=>∃(c:List kI.Tok) (b:Nat),o=b/\b<=a.size/\c++kI.oU a b=kI.lexB a/\wr.heap[k]?=some (.cells #[.string a] 9)/\Laid wr/\g c wr)
  (λo _ _ _=>a.size-(intOf o).toNat)
 .exact⟨[],_,Z,K,Z,t,D,E⟩
 obtain⟨c,b,rfl,ak,l,w,x,y⟩:=hrel;have G:=Um w;by_cases p:b<a.size
 .have M:=kI.tN a b p;have q:=kI.tO a b p;have⟨N,O,P,Q,R,S⟩:=I c (kI.Bx a b) wr y (by rw[<-l,q];simp)
  gi_wp2_with fail
  refine⟨trivial,?_⟩;refine(Tz.2<|Je _ _ x UD Uw).mono ?_;rintro e v ⟨rfl,rfl⟩;rw[kI.rv];have T:rV (a.data.toList.drop b)=.tuple #[.int .u8 ((kI.oF a b).1:Nat),.int .i64 ((kI.oF a b).2:Nat)]:=Z;rw[T];have al:Sem.run prog (Instr.yield j #[.agg #[.int .u8 ((kI.oF a b).1:Nat),.string<|a.extract b<|b+(kI.oF a b).2,b]]) wr=Result.ok (Next.round j N O P Q) wr:=R;have U:kI.rG a b=b+(kI.oF a b).2+kI.qT a (b+(kI.oF a b).2):=Z;generalize(kI.oF a b).1=am at*;generalize(kI.oF a b).2=i at*;have⟨an,V⟩:=M
  gi_wp2_with fail
  apply S.mono;rintro e ao (⟨rfl,aa,ab,ac⟩|⟨rfl,ad⟩)
  .have z:=ac.trans w;have ap:=Um z;have ae:=(x.kv ab B)
   have af:=kI.vx a (b+i) V;have ag:=aa
   gi_wp2_with fail
   refine⟨trivial,?_⟩;refine(Tz.2<|B9 _ _ UD).mono ?_;rintro e v ⟨rfl,rfl⟩;rw[kI.rv];have ah:kI.mr false (a.data.toList.drop<|b+i)=kI.qT a (b+i):=Z;rw[ah];generalize kI.qT a (b+i)=ai at*
   gi_wp2_with fail
   go_roundw
   .exact⟨c++[kI.Bx a b],b+i+ai,Uv,af,by rw[<-U,Rv,T7,<-q,l],z,ae,ag⟩
   simp[intOf];omega
  gi_wp2_with fail
  refine Q0 (results_none Z _ _ _) Z ?_;exact⟨⟨_,Z⟩,.inr ⟨c++[kI.Bx a b],⟨kI.oU a<|kI.rG a b,by rw[Rv,T7,<-q,l]⟩,ad⟩⟩
 gi_wp2_with fail
 go_end0
 exact⟨⟨_,Z⟩,.inl ⟨c,by have:=l;rw[kI.rR a b p]at this;simpa using this,y⟩⟩
def Pk(a b:Nat){c d e:World}(f:Kp a b c d)(g:Kp a b d e):Kp a b c e:=⟨f.1.T g.1,g.2.T f.2⟩
def Pm{n₀ c:Nat}{w:World}(j:n₀<=w)(k:c<w)(a:World)(b:Nat)(o d:Obj)(e:w<=b)(f:a.heap[b]?=some o)(g:o.isCells=false)(i:o.isWalk=false):Kp n₀ c a<|a.putObj b d:=
 ⟨belowK_b j a b o d e f g i,(belowK_b (n₀:=c+1) (w:=w) Y a b o d e f g i).B c Y⟩
def EA(n:Nat)(f:1<=n)(a c:Nat)(b:ByteArray)(g:b.size<=maxLen)(d:3+1<=c)(w:World)(i:c<=w)(j:a<w)
  (k:w.heap[a]?=some (.cells #[.string b] 9)) (l:Laid w):
  SeqStopsK Fence.wide n prog 107 #[.pointer a] (λm=> #[L3 m]) (Kp c a) (λp=>p=kI.lexB b) (λq=>q<+:kI.lexB b) (kI.lexB b).length w:=λr s t u e _ _ v x=>
 K5 n f r a c b g d s t v u ((e.B a j).T k) (l.kv (e.M i) d) x
end Go.Proofs.YtppncjcpdbhobaaGreatDoor.L
namespace Go.Proofs.YtppncjcpdbhobaaGreatDoor
open RowKit Go.Proofs.Tryz lI Maps oZ qQ ChangeShapes WideShapes ChangeAt
def mh.kv{T:lj}{vQ:PV}{w w'}{pb pos:Nat}(a:mh T vQ w pb pos)(b:Below w w w'):mh T vQ w' pb pos:=a.grown<|kC b
def qm{T:lj}{C:PV}{w}{z c:Nat}(A:mh T C w z c):Calls prog 111 #[.pointer z] w<|K6 T c w:=by
 have n:=Ba w yp;have k:=X n;have p:=A.kv n;have⟨O,P,l,m,Q,R,S,q⟩:=p.ll;have U:=kr m 0;have V:=kr m 1;have D:=kr m 2;have e:=QT w yp
 clear A n m;by_cases B:c<T.length
 .obtain⟨a,r⟩:∃a,T[c]?=some a:=Gx B;have⟨aa,E,ab⟩:=q c a r;have⟨f,g⟩:=N0 r;have i:=D0 f g;rw[ML]at E;have ac:(0:Int)<=(c:Int):=Y;have F:(c:Int)<(T.length:Int):=Y;generalize T.length=G at*;clear q p r f g D
  go_enter func111,ntmps111
  go_upto_region 1 with fail;generalize w.alloc yp=j at*;have⟨b,d⟩:=Xq w.heap.size;rw[<-d]at e k⊢;have s:=X d;clear d;go_quiet (fail);go_wp21;have⟨⟨I,J,K⟩,L,M,N⟩:=lf e
  go_region
  go_wp21;have hF:((((j.drewN<|nq+1).setCell b<|.int .u8 (a.kind:Nat)).setCell ⟨b,1,none⟩<|tx a.text.data.toList).setCell ⟨b,2,none⟩<|.int .i64 (a.off:Nat)).heap[b]?=some (.cells #[.int .u8 (a.kind:Nat),tx a.text.data.toList,.int .i64 (a.off:Nat)] 191):=kt<|kt<|kt (w:=j.drewN<|nq+1) e;have t:=kr hF 0;have u:=kr hF 1;have x:=kr hF 2;have y:=s.o;refine Q0 (v:=.agg #[.int .u8 (a.kind:Nat),tx a.text.data.toList,.int .i64 (a.off:Nat)]) ?_ rfl ⟨⟨_,by rw[i.o.1,i.o.2]⟩,?_⟩;simp[results,Tryz.results111,go_sem,t,u,x];rw[<-y];exact kD (kD (kD (nb k.o _)<|QZ _)<|QZ _)<|QZ _
 have⟨f,g⟩:=Dq (T:=T) B;have F:¬(c:Int)<(T.length:Int):=Y
 have i:=D0 f g;generalize T.length=G at*;clear q p f g
 go_enter func111,ntmps111
 go_upto_region 1 with fail;generalize w.alloc yp=j at*;have⟨b,d⟩:=Xq w.heap.size;rw[<-d]at e k⊢;have s:=X d;clear d;go_quiet (fail);have⟨⟨I,J,K⟩,L,M,N⟩:=lf e;go_wp21;have hF:((((j.drewN nq).setCell b<|.int .u8 0).setCell ⟨b,1,none⟩ Em).setCell ⟨b,2,none⟩<|.int .i64 l).heap[b]?=some (.cells #[.int .u8 0,Em,l] 191):=kt<|kt<|kt (w:=j.drewN nq) e;have t:=kr hF 0;have u:=kr hF 1;have x:=kr hF 2;have y:=s.o;refine Q0 (v:=.agg #[.int .u8 0,Em,l]) ?_ rfl ⟨⟨l,by rw[i.o.1,i.o.2];rfl⟩,?_⟩;simp[results,Tryz.results111,go_sem,t,u,x];rw[<-y];exact kD (kD (kD (nb k.o _)<|QZ _)<|QZ _)<|QZ _
def Az{T:lj}{j:PV}{b}{e c:Nat}(f:mh T j b e c)(g):Calls prog 110 #[.pointer e,tx g] b λi d=>i=.returned (.bool<|ov T c==g)/\Below b b d:=by
 have⟨n,p,q,a,_⟩:=f.ll;have r:=kr a 8;have k:=f;clear a
 go_enter func110,ntmps110
 go_wp2_with (apply(qm k).M;rintro i d ⟨⟨l,rfl⟩,a⟩;have s:=GV d (.int .u8 (Bc T c:Nat)) (tx<|ov T c)<|.int .i64 l;have m:=a;clear a);go_ret;exact⟨Z,m⟩
def lN.of{T:lj}{a:PV}{w w'}{pb pos:Nat}(c:mh T a w pb pos)(b:Below w w w'):lN T a w pb pos w':=⟨c.kv b,kK (kC b) _⟩
def uC{d:lj}{l:PV}{g}{i b:Nat}(j:mh d l g i b)(c)(n:c≠[]):Calls prog 68 #[.pointer i,tx c] g<|K7 d l i b (ov d b==c) g:=by
 have e:=(Az j c)
 have m:=j;by_cases k:ov d b=c
 .have s:=LF k n;rw[R5.2 k]at e⊢;have t:=j.small.1
  go_enter func68,ntmps68
  go_wp21;apply e.M;rintro p r ⟨rfl,a⟩;have f:=(lN.of m a)
  have⟨u,v,w,a,_⟩:=f.1.ll;have x:=kr a 1;have y:=kx a 1;go_wp21;go_ret;exact⟨Z,f.set (q:=b+1) Y⟩
 rw[Th k]at e⊢
 go_enter func68,ntmps68
 go_wp21;apply e.M;rintro p r ⟨rfl,a⟩;have f:=(lN.of m a)
 go_wp21;go_ret;exact⟨Z,f⟩
def oJ{T:lj}{d:PV}{w}{pb pos q:Nat}{x}(a:mh T d w pb pos)(e:vH T pos=some (x,q)):Calls prog 70 #[.pointer pb] w λf w'=>f=.returned (tx x)/\lN T d w pb q w':=by
 obtain⟨g,i,rfl,p⟩:=ru e;have m:=X<|qm a;have n:=X a;have j:=D0 g i;have r:=a.small.1;clear a e g i
 go_enter func70,ntmps70
 go_wp21;apply m.o.M;rintro f s ⟨⟨t,rfl⟩,k⟩;rw[j.o.1,j.o.2];have c:=X<|lN.of n.o k;have⟨u,v,y,b,_⟩:=c.o.1.ll;have z:=kr b 1;have A:=kx b 1;have B:=kr b 8;have C:=c.o.1.lt
 clear b k;go_wp21;go_ret;have l:=c.o.set (q:=pos+1) Y;exact⟨Z,l.T<|lN.of l.1<|Ba _ _⟩
def C0{c:lj}{l:PV}{a}{g d q v:Nat}(e:mh c l a g d)(m:FT c d=some (v,q)):Calls prog 113 #[.pointer g] a λi u=>i=.returned (.int .i64 (v:Nat))/\lN c l a g q u:=by
 obtain⟨n,p,r,s,rfl,rfl,B⟩:=Ca m;have w:=X<|qm e;have x:=X e;have y:=X n;have z:=X λj a=>EE (ov c d) j a p r s;have C:=e.small.1;clear e m n p r s
 go_enter func113,ntmps113
 go_wp21;apply w.o.M;rintro i A ⟨⟨j,rfl⟩,b⟩;rw[y.o];have t:=X<|lN.of x.o b;clear b;go_wp21;apply(z.o j A).M;rintro i D ⟨rfl,b⟩;have k:=X<|t.o.T<|lN.of t.o.1 b;have⟨E,F,G,f,_⟩:=k.o.1.ll;have I:=kr f 1;have J:=kx f 1;have K:=kr f 8;have L:=k.o.1.lt;clear f b;go_wp21;go_ret;exact⟨Z,k.o.set (q:=d+1) Y⟩
