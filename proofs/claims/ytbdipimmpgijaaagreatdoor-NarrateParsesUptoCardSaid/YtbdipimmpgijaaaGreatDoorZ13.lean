import Derived.Test.YtbdipimmpgijaaaGreatDoorZ6
import Derived.Test.YtbdipimmpgijaaaGreatDoorZ7
import Derived.Test.YtbdipimmpgijaaaGreatDoorZ9
set_option maxRecDepth 1000000
set_option maxHeartbeats 32000000
set_option linter.all false
namespace Go.Proofs.YtbdipimmpgijaaaGreatDoor
open RowKit Go.Proofs.Tryz lH Maps oa qR ChangeShapes WideShapes ChangeAt
def JU(c)(a:Nat)(b)(s:oQ b)(j D k left:Nat)(g)(t:j=2)(N:k+D=3)(u:kT c g a b left):Calls prog 105 #[.pointer a,j,k] g<|qA c a b D left g:=by
 have w:∀(left:Nat) d,kT c d a b left->Calls prog 156 (yW a) d (EPost (ny b 6) c a b left 6 d):=λleft d x=>sT c a b s 2 0 left d rfl x;have e:=(pV.start u 194 ta)
 have⟨⟨l,m,n,p,q,r⟩,y,z,A,B,C,E⟩:=mg e.hz;subst t
 go_enter func105,ntmps105
 go_wp21;apply(w left _ e.hm).M;rintro O F ⟨P,Q,name,R,S,U,G,rfl,i,I,J,K⟩;have f:=(e.call J K)
 have L:=(pn (T:=200) (kP.ok .i64 _) f.lt<|nU (kP.ok .i64 _) e.lt i)
 have⟨⟨l,m,n,p,q,r⟩,y,z,A,B,C,E⟩:=mg f.hz;have M:=f.lt;go_wp21;refine QY (v:=.agg #[.int .i64 1,tx<|nm 98 0,tx [],(F,1,1),Nl,Nl]) ?_ rfl (qH (D:=D) (left:=left) (kind:=1) (name:=(nm 98 0)) (hd:=[]) f (L.imp λ_ _ i=>kP.up .i64 Un i) (kz.nil _ _ _) (kz.nil _ _ _) (.inl ⟨Z,Z,Z,Z,G,Z,.inr ⟨Z,ny.up Un I⟩⟩)<|by rw[oT];omega);simp[results,Tryz.results105,go_sem,l,m,n,p,q,r,M]<;>rfl
def JV(c)(a:Nat)(b)(s:oQ b)(j D k left:Nat)(g)(t:j=4)(u:b.lf=1)(O:k+D=3)(w:kT c g a b left):Calls prog 105 #[.pointer a,j,k] g<|qA c a b D left g:=by
 have x:∀(left:Nat) d,kT c d a b left->Calls prog 157 (yW a) d (nz c a b left 4 d):=λleft d y=>nC c a b s 3 0 left d rfl y;have e:=(pV.start w 194 ta)
 have⟨P,Q,R,S,U,V⟩:=e.hm.cells;have⟨⟨l,m,n,p,q,r⟩,z,A,B,C,E,F⟩:=mg e.hz;subst t
 go_enter func105,ntmps105
 go_wp21;apply(x left _ e.hm).M;rintro aa G ⟨ab,ac,name,ad,ae,af,I,rfl,i,J,K,L⟩;have f:=(e.call K L)
 have M:=(pn (T:=200) (kP.ok .i64 _) f.lt<|nU (kP.ok .i64 _) e.lt i)
 have⟨⟨l,m,n,p,q,r⟩,z,A,B,C,E,F⟩:=mg f.hz;have N:=f.lt;go_wp21;refine QY (v:=.agg #[.int .i64 3,tx<|nm 116 0,tx [],(G,1,1),Nl,Nl]) ?_ rfl (qH (D:=D) (left:=left) (kind:=3) (name:=(nm 116 0)) (hd:=[]) f (M.imp λ_ _ i=>kP.up .i64 Un i) (kz.nil _ _ _) (kz.nil _ _ _) (.inr<|.inr<|.inl ⟨Z,u,Z,Z,Z,Z,I,Z,lM.up Un J⟩)<|by rw[oT];omega);simp[results,Tryz.results105,go_sem,l,m,n,p,q,r,N]<;>rfl
def JW(c)(a:Nat)(b)(y:oQ b)(m D n left:Nat)(g)(z:m=3)(A:b.lf=1)(ab:n+D=3)(B:kT c g a b left):Calls prog 105 #[.pointer a,m,n] g<|qA c a b D left g:=by
 have p:∀(left:Nat) d,kT c d a b left->Calls prog 157 (yW a) d (nz c a b left 4 d):=λleft d C=>nC c a b y 3 0 left d rfl C;have e:=(pV.start B 194 ta)
 have⟨ac,ad,ae,af,ag,ah⟩:=e.hm.cells;have⟨⟨q,r,s,t,u,x⟩,E,F,G,I,J,K⟩:=mg e.hz;subst z
 go_enter func105,ntmps105
 go_wp21;apply(p left _ e.hm).M;rintro L ai ⟨aj,ak,al,am,an,ao,M,rfl,f,N,l,i⟩;have j:=(e.call l i)
 have O:=(nU (kP.ok .i64 _) e.lt f)
 go_wp21;apply(p left _ j.hm).M;rintro L P ⟨ap,aq,ar,au,av,aw,Q,rfl,f,R,l,i⟩;have k:=(j.call l i)
 have S:=(nU (w:=g) (kP.ok .i64 _) j.lt f)
 have U:=(qi (kP.ok .i64 _) O j.yj i)
 have V:=(wF (T:=200) (kP.ok .i64 _) k.lt U S)
 have⟨⟨q,r,s,t,u,x⟩,E,F,G,I,J,K⟩:=mg k.hz;have aa:=k.lt;go_wp21;refine QY (v:=.agg #[.int .i64 2,tx<|nm 116 0,tx [],(P,2,2),Nl,Nl]) ?_ rfl (qH (D:=D) (left:=left) (kind:=2) (name:=(nm 116 0)) (hd:=[]) k (V.imp λ_ _ f=>kP.up .i64 Un f) (kz.nil _ _ _) (kz.nil _ _ _) (.inr<|.inl ⟨Z,A,Z,Z,Z,Z,M,Q,Z,lM.up Un N,lM.up Un R⟩)<|by rw[oT];omega);simp[results,Tryz.results105,go_sem,q,r,s,t,u,x,aa]<;>rfl
def Cw(aK c ar)(a C:Nat)(au:List In)(j:kz ym aK c (.slice ar a C) au)(be:∀l∈au,pG a l)(ci:a<=100000)(bf:∀x,aK x->x<c)(bg:pH c):
  Calls prog 170 #[.slice ar a C] c (Md c):=by
 have bh:=yb;unfold mq at bh;have bi:=X j;have bj:=X be;have bk:=X bf;have aL:=X bg;have bl:=X j.len;have cj:IntKind.i64.wrap ((a:Int)+1)=((a+1:Nat):Int):=Uq
 have ck:∀c:RW,(Instr.makeSlice 83 (.int .i64<|(a:Int)+1)<|.int .i64<|(a:Int)+1).run prog c=.ok (.slice c (a+1)<|a+1) (c.alloc<|.cells (pZ<|List.replicate (a+1) 0) 3):=λc=>Gk (a+1) Y c;have av:=X<|show rZ (c+1) c (a+1) ((c.alloc<|.cells (pZ<|List.replicate (a+1) 0) 3).alloc<|It c a)from⟨by have:=QQ (c.alloc<|.cells (pZ<|List.replicate (a+1) 0) 3)<|It c a;rw[QR]at this;exact this,⟨List.replicate (a+1) 0,Uo,(RY _ _ _ Uo).T<|QQ c _⟩,Y⟩;have aM:=X<|show Below c c ((c.alloc<|.cells (pZ<|List.replicate (a+1) 0) 3).alloc<|It c a)from(Ba _ _).alloc Uo _;have⟨cl,O⟩:=Xq<|(c.alloc<|.cells (pZ<|List.replicate (a+1) 0) 3).alloc<|It c a;rw[<-O]at av aM;have bm:=X O;clear O
 go_enter func170,ntmps170
 go_wp21;have O:=bm.o;rw[<-O];clear O;have⟨e,aw⟩:=Xq c.heap.size;rw[<-aw]at av⊢;have J:=X aw;clear aw;go_loopw [19] (λi wr=>∃b:Nat,b<=a+1/\i=b/\rZ (e+1) e (a+1) wr/\Below e c wr) (λi _=>a+1-(intOf i).toNat)
 .exact⟨0,QZ _,Z,av.o,by rw[J.o];exact aM.o⟩
 obtain⟨b,bn,rfl,P,aj⟩:=hrel;have Q:=X P;have R:=X aj;have aN:=(QP.1 P.var).1;have ac:=kt P.var 0;by_cases aO:b<a+1
 .have⟨l,ad,cm,ax⟩:=Q.o.get aO;have ay:=X<|ax<|-1;have bo:(0:Int)<=(b:Int):=Y;have bp:(b:Int)<((a:Int)+1):=Y;have aP:e<wr:=Y;go_wp21;go_roundw
  .exact⟨b+1,Y,Ur,ay.o,kD R.o<|QX _⟩
  simp[intOf];omega
 obtain rfl:b=a+1:=Y;go_wp21;go_loopw [2,29] (λv i wr=>∃(b:Nat) (K:Int),b<=a/\i=b/\v=K/\rZ (e+1) e (a+1) wr/\Below e c wr) (λ_ i _=>a-(intOf i).toNat)
 .exact⟨0,0,QZ _,Z,Z,Q.o,R.o⟩
 obtain⟨b,K,bn,rfl,rfl,P,aj⟩:=hrel;have Q:=X P;have R:=X aj;have aN:=(QP.1 P.var).1;have cn:c.heap.size<=wr:=aj.size;by_cases aO:b<a
 .obtain⟨l,aQ⟩:∃l,au[b]?=some l:=Gx<|W bl.o;obtain⟨co,cp,bq,rfl,cq,br,ak⟩:=(bi.o.kv ym.ok λx aR=>R.o.B x<|by rw[J.o];exact bk.o x aR).ll ym.ok b l aQ;have bs:bq=[.int .u8 l.op,.int .i64 l.a,.int .i64 l.b,.int .i64 l.n]:=br;subst bs;have ad:=ak 0 _ Z;have r:=ak 1 _ Z;have bt:=ak 2 _ Z;have bu:=ak 3 _ Z;rw[Q1]at ad;have aS:=X<|bj.o l<|QS aQ;obtain⟨bo,bp⟩:=nL b a;have⟨L,s,t,u⟩:=l;simp only at ad r bt bu;go_wp21;have aT:=Ba wr<|zp L s t u;have aU:=X<|QQ wr<|zp L s t u;have bv:=X<|Q.o.ku aT;have bw:=X<|R.o.T<|aT.M Y;have bx:(wr.alloc<|zp L s t u).heap.size=wr+1:=Uo;have⟨p,aV⟩:=Xq wr.heap.size;rw[<-aV]at aU⊢;have aW:p<(wr.alloc<|zp L s t u).heap.size:=Y;have cr:p≠e/\p≠e+1/\e+1<p:=Y;generalize wr.alloc (zp L s t u)=az at*;clear aV;refine sf (λl=>rZ (e+1) e (a+1) l/\Below az az l) (λv c=>rZ (e+1) e (a+1) c/\az.grownBy c (some e)) (mM [(·=.slice e (a+1) (a+1)),(·=b),(·=.slice e (a+1) (a+1)),(·=b),(Pp e b),Tr,Tr,(Pp e b),Tr]) [(5,λv c=>∃S:Int,v=S),(6,λv c=>∃S:Int,v=S)] (⟨bv.o.ku (Sf _ _).drew,(Sf _ _).drew⟩) ⟨?_,?_,?_,?_,?_,?_,?_,?_,?_,trivial⟩ ?_;intro y c f m j n q;exact .l 4 (m 4 Z) (kt f.1.var 0) ⟨Z,f,Qa⟩;exact Pf 7;intro y c f m j n q;exact .l 4 (m 4 Z) (kt f.1.var 0) ⟨Z,f,Qa⟩;exact Pf 7;intro y c f m j n q;have cs:=Sv 36 j 2;have ct:=Sv 37 j 3;have aA:(b:Int)<(a:Int)+1:=Y;exact .q (g:=⟨Z,f,Qa⟩);intro y c f m j n q;have cu:=Sv 38 j 4;have⟨bz,g,_,_⟩:=f.1.get (i:=b) Y;exact .q (g:=⟨trivial,f,Qc ⟨_,Z⟩<|Qa⟩);intro y c f m j n q;obtain⟨S,bA⟩:=kW n 0;have cv:=Sl 39 bA;exact .q (g:=⟨trivial,f,Qb<|Qc ⟨_,Z⟩<|Qa⟩);intro y c f m j n q;have al:=Sv 34 j 0;have cw:=Sv 35 j 1;have aA:(b:Int)<(a:Int)+1:=Y;exact .q (g:=⟨Z,f,Qa⟩);intro y c f m j n q;have cx:=Sv 41 j 7;obtain⟨S,bB⟩:=kW n 1;have cy:=Sl 40 bB;have⟨bz,g,cz,ax⟩:=f.1.get (i:=b) Y;have ay:=X<|ax S;refine .h λcA bC=>?_;go_simp;exact bC<|⟨ay.o,ky (kK (kC f.2) _)<|kE _ _ _ _⟩;intro aB aC cB bD;have E:=X bD;simp only[nx];have⟨bE,bF,bG,bH⟩:=aS.o;simp only at bE bF bG bH;obtain⟨k,bI⟩:∃x:Nat,L=(x:Int):=⟨L.toNat,Y⟩
  subst bI;have aX:=(E.o.2.B p aW λD=>by injection D with D;omega).T aU.o;have bJ:=X aX;have bK:p<aC:=QO aW E.o.2.size;have⟨⟨T,U,V,aa⟩,_⟩:=kN aX;have am:=X<|show Below e c aC from bw.o.T ⟨E.o.2.os,E.o.2.tape,E.o.2.output,E.o.2.size,λx aR=>E.o.2.B x Y λD=>by injection D with D;omega⟩;have bL:=X<|aL.o.kv (am.o.B _<|by rw[J.o];exact aL.o.lt) am.o.size;go_wp21;apply(Kr k Y aC bL.o).M;rintro D an ⟨F,G,aD,r,rfl,aY⟩;have aE:=X aY;have cC:=aY.size;have⟨ab,aF⟩:=Xq an.heap.size;have ae:=X<|show qa e a p ab (k:Int) s t u F G r c (an.alloc<|.cells #[.string F,.string G,aD,r] 338)from⟨(E.o.1.ku aE.o).ku<|Below.alloc (Sf _ _) (QX _) _,(RY _ _ _ Y).T<|(aE.o.B p bK).T bJ.o,⟨aD,by rw[aF];exact QQ an _⟩,(am.o.T<|aE.o.M<|W am.o.size).alloc Y _,Y,Y⟩;skip;go_upto_region 13 with fail;rw[<-aF];have⟨bM,aZ⟩:=Xq<|an.alloc<|.cells #[.string F,.string G,aD,r] 338;rw[<-aZ]at ae⊢;clear aZ aF;have⟨M,z⟩:=ae.o.row;have⟨⟨T,U,V,aa⟩,_⟩:=kN ae.o.ins;have⟨⟨af,ag,ah,ai⟩,cD,ao,aG,aH⟩:=kN z;go_cut [29,52]from 29 to 124 (λi C A=>i=b/\(∃B:Bool,C=.bool B)/\A=bM)
  .by_cases QF:k=30
   .subst QF;go_wp21;go_meet;exact⟨Z,⟨_,Z⟩,Z⟩
   by_cases bN:k=31
   .subst bN;go_wp21;go_meet;exact⟨Z,⟨_,Z⟩,Z⟩
   have cE:((k:Int)==30)=false:=Us;have cF:((k:Int)==31)=false:=Us;go_wp21;go_meet;exact⟨Z,⟨_,Z⟩,Z⟩
  obtain⟨rfl,⟨B,rfl⟩,rfl⟩:=hcut;go_step;go_cut [29]from 29 to 124 (λi A=>i=b/\qa e a p ab (k:Int) s t u F G r c A)
  .cases B
   .go_wp21;go_meet;exact⟨Z,ae.o⟩
   go_wp21;go_meet;exact⟨Z,ae.o.OZ _⟩
  obtain⟨rfl,bO⟩:=hcut;have d:=X bO;have⟨M,z⟩:=d.o.row;have⟨⟨T,U,V,aa⟩,_⟩:=kN d.o.ins;have⟨⟨af,ag,ah,ai⟩,_⟩:=kN z;have ac:=kt d.o.ht.var 0;have⟨w,ap,_,_⟩:=d.o.ht.get (i:=b) Y;have aA:(b:Int)<(a:Int)+1:=Y;go_upto_region 15 with fail;go_cut [29,77]from 29 to 124 (λi C A=>i=b/\(∃B:Bool,C=.bool B)/\qa e a p ab (k:Int) s t u F G r c A)
  .by_cases QK:w<M
   .go_quiet (fail);go_wp21;go_meet;exact⟨Z,⟨_,Z⟩,d.o.to<|mZ (Sf _ _) _⟩
   by_cases al:k=34
   .subst al;by_cases ba:w=0
    .subst ba;go_quiet (fail);go_wp21;go_meet;exact⟨Z,⟨_,Z⟩,d.o.to<|mZ (Sf _ _) _⟩
    have ad:(w !=0)=true:=(by simpa using ba);go_quiet (fail);go_wp21;go_meet;exact⟨Z,⟨_,Z⟩,d.o.to<|mZ (Sf _ _) _⟩
   have bP:((k:Int)==34)=false:=Us;go_quiet (fail);go_wp21;go_meet;exact⟨Z,⟨_,Z⟩,d.o.to<|mZ (Sf _ _) _⟩
  obtain⟨rfl,⟨B,rfl⟩,N⟩:=hcut;have d:=X N;cases B;case true=>go_wp21;refine QY (v:=.tuple #[.int .i64 0,false]) ?_ rfl ⟨0,false,Z,by have I:=d.o.ku;rw[J.o]at I;exact I⟩;simp[results,Tryz.results170,go_sem]
  case false=>
   have⟨M,z⟩:=d.o.row;have⟨⟨T,U,V,aa⟩,_⟩:=kN d.o.ins;have⟨⟨af,ag,ah,ai⟩,_⟩:=kN z;have ac:=kt d.o.ht.var 0;have⟨w,ap,_,_⟩:=d.o.ht.get (i:=b) Y;have aA:(b:Int)<(a:Int)+1:=Y;obtain⟨ao,bx⟩:∃ao,IntKind.i64.wrap (w-M)=ao:=⟨_,Z⟩
   obtain⟨aG,cG⟩:∃aG,IntKind.i64.wrap (ao+r)=aG:=⟨_,Z⟩
   have bQ:IntKind.i64.wrap ((b:Int)+1)=((b+1:Nat):Int):=Uq;go_upto_region 17 with fail;go_cut [10,29]from 29 to 124 (λbR i A=>(∃aI:Int,bR=aI)/\i=b/\qa e a p ab (k:Int) s t u F G r c A)
   .go_quiet (fail);go_wp21;go_meet;exact⟨⟨_,Z⟩,Z,d.o.to<|mZ (Sf _ _) _⟩
   obtain⟨⟨aH,rfl⟩,rfl,N⟩:=hcut;have d:=X N;have⟨M,z⟩:=d.o.row;have⟨⟨T,U,V,aa⟩,_⟩:=kN d.o.ins;have⟨⟨af,ag,ah,ai⟩,_⟩:=kN z;have ac:=kt d.o.ht.var 0;have⟨cH,ap,_,_⟩:=d.o.ht.get (i:=b) Y;go_upto_region 18 with fail;go_cut [2,29]from 29 to 124 (λbS i A=>(∃aI:Int,bS=aI)/\i=b/\qa e a p ab (k:Int) s t u F G r c A)
   .go_wp2_with fail;all_goals (go_meet;exact⟨⟨_,Z⟩,Z,d.o⟩)
   obtain⟨⟨cI,rfl⟩,rfl,N⟩:=hcut;have d:=X N;have⟨M,z⟩:=d.o.row;have⟨⟨T,U,V,aa⟩,_⟩:=kN d.o.ins;have⟨⟨af,ag,ah,ai⟩,_⟩:=kN z;have ac:=kt d.o.ht.var 0;have⟨cJ,ap,_,_⟩:=d.o.ht.get (i:=b) Y;go_upto_region 19 with fail;go_cut [29,110]from 29 to 124 (λi C A=>i=b/\(∃B:Bool,C=.bool B)/\qa e a p ab (k:Int) s t u F G r c A)
   .by_cases QG:k=27
    .subst QG;go_wp21;go_meet;exact⟨Z,⟨_,Z⟩,d.o⟩
    have cK:((k:Int) !=27)=true:=Us;by_cases al:k=34
    .subst al;go_wp21;go_meet;exact⟨Z,⟨_,Z⟩,d.o⟩
    have bP:((k:Int) !=34)=true:=Us;go_wp21;apply(uJ (e+1) e (a+1) (b+1) aH _ d.o.ht Y Y).M;rintro D bT ⟨bb,rfl,aJ,f⟩;have bU:=X<|d.o.grown aJ f;go_wp21;go_meet;exact⟨Z,⟨_,Z⟩,bU.o⟩
   obtain⟨rfl,⟨B,rfl⟩,N⟩:=hcut;have d:=X N;cases B;case true=>go_wp21;refine QY (v:=.tuple #[.int .i64 0,false]) ?_ rfl ⟨0,false,Z,by have I:=d.o.ku;rw[J.o]at I;exact I⟩;simp[results,Tryz.results170,go_sem]
   case false=>
    have⟨M,z⟩:=d.o.row;have⟨⟨T,U,V,aa⟩,_⟩:=kN d.o.ins;have⟨⟨af,ag,ah,ai⟩,_⟩:=kN z;have ac:=kt d.o.ht.var 0;have⟨w,ap,_,_⟩:=d.o.ht.get (i:=b) Y;go_wp21;apply(DT ⟨(k:Int),s,t,u⟩ a _ aS.o).M;rintro D cL ⟨bc,bV,rfl,bW,bX⟩;have aq:=X<|d.o.to bW;cases bV;case false=>
     go_wp21;refine⟨?_,?_⟩;repeat apply Exists.intro
     refine⟨?_,Z⟩;exact⟨b+1,_,Y,Ur,Z,aq.o.ht,aq.o.ku⟩;show a-(intOf<|.int .i64<|(b:Int)+1).toNat<a-(intOf<|.int .i64 (b:Int)).toNat;simp[intOf];omega
    case true=>
     have⟨ad,r⟩:=bX Z;obtain⟨bY,bZ⟩:∃x:Nat,bc=(x:Int):=⟨bc.toNat,Y⟩
     subst bZ;go_wp21;apply(uJ (e+1) e (a+1) bY aH _ aq.o.ht Y Y).M;rintro D bT ⟨bb,rfl,aJ,f⟩;have d:=X<|aq.o.grown aJ f;cases bb;case false=>go_wp21;refine QY (v:=.tuple #[.int .i64 0,false]) ?_ rfl ⟨0,false,Z,by have I:=d.o.ku;rw[J.o]at I;exact I⟩;simp[results,Tryz.results170,go_sem]
     case true=>
      go_wp21;refine⟨?_,?_⟩;repeat apply Exists.intro
      refine⟨?_,Z⟩;exact⟨b+1,_,Y,Ur,Z,d.o.ht,d.o.ku⟩;show a-(intOf<|.int .i64<|(b:Int)+1).toNat<a-(intOf<|.int .i64 (b:Int)).toNat;simp[intOf];omega
 obtain rfl:b=a:=Y;go_wp21;have aP:e<wr:=Y;have⟨w,ca,_,_⟩:=Q.o.get (i:=b) Y;have cb:=X ca;have cc:=X Q.o.var;have cM:(0:Int)<=(b:Int):=Y;have bQ:(b:Int)<(b:Int)+1:=Y;refine Ri (λl=>Below wr wr l) (mM [(·=K),(·=.slice e (b+1) (b+1)),(·=.slice ar b C),(·=b),(Pp e b),(·=w),(·=.bool (decide (w<=0))),(·=K),(·=.bool (decide (w<=0)))]) [] ((Sf _ _).drew) ⟨?_,?_,?_,?_,?_,?_,?_,?_,?_,trivial⟩ ?_;exact λ_ c f m j n q=>.p 2 (q 7 _ 2 Z Z Z) ⟨Z,f,Qa⟩;intro y c f m j n q;exact .l 4 (m 4 Z) (kA ((f.B (e+1) aN).T cc.o) 0 _ Z) ⟨Z,f,Qa⟩;exact .f 0;intro y c f m j n q;have cN:=Sv 127 j 2;exact .q (g:=⟨Z,f,Qa⟩);intro y c f m j n q;have cO:=Sv 126 j 1;have cP:=Sv 128 j 3;exact .q (g:=⟨Z,f,Qa⟩);intro y c f m j n q;have g:=(Cb e b<|f.B e aP).T cb.o;exact .l 129 (j 4 _ Z Z) g ⟨Z,f,Qa⟩;intro y c f m j n q;have cQ:=Sv 130 j 5;exact .q (g:=⟨Z,f,Qa⟩);exact .v 125 0;exact .v 131 6;intro aB cR cd bd cS;have ce:aB 7=.int .i64 K:=bd 7 Un;have cf:aB 8=.bool (decide (w<=0)):=bd 8 Un;have cg:=X cd;have ch:c<=e:=W J.o;simp only[nx,ce,cf];go_wp21;refine QY (v:=.tuple #[.int .i64 K,.bool<|decide (w<=0)]) ?_ rfl ⟨K,_,Z,(R.o.M ch).T<|cg.o.M Y⟩;simp[results,Tryz.results170,go_sem]
def Mi(d:Nat->Prop)(w:RW)(e:List<|List RK)(f:Ending)(a:RW):Prop:=∃b:Nat,f=.returned (.tuple #[.pointer b,.int .i64 0])/\Below w w a/\(w<=b/\b<a)/\yu (λc=>d c\/(w<=c/\c<a)) a b e
abbrev tg(a b c d e f g h i j):=(.cells #[tx a,.slice b c d,.slice e f g,.slice h i j,Nl,.int .i64 0,Nl,Nl,Nl,Nl,Nl] 164:Go.Obj)
def BL(a w):Calls prog 57 #[.bool a] w<|qf 5 w:=by apply(Tryz.strconv_FormatBool a w).M;rintro c d ⟨b,rfl⟩;exact⟨_,b,by cases a<;>decide,Sf _ _⟩
def BM(i:Nat)(a:i<100)(w):Calls prog 25 #[.int .i64 (i:Int)] w<|qf 20 w:=by apply(Tryz.strconv_Itoa_small i a w).M;rintro c d ⟨b,rfl⟩;exact⟨_,b,Aj i a,Sf _ _⟩
def Ku(a:Int)(d:0<=a)(e:a<100)(w):Calls prog 56 #[.int .i64 a,.int .i64 10] w<|qf 20 w:=by
 obtain⟨b,rfl⟩:∃b:Nat,a=(b:Int):=⟨a.toNat,Y⟩
 apply(Tryz.strconv_FormatInt_10_small b Y w).M;rintro f g ⟨c,rfl⟩;exact⟨_,c,Aj b Y,Sf _ _⟩
def H7(a b:Nat)(c:b=a+1)(d:a<=1000):IntKind.i64.wrap ((a:Int)+1)=(b:Int)/\IntKind.i64.wrap ((b:Int)-1)=(a:Int):=by subst c;exact Dh a d
abbrev AI:=(λa b=>∃c:Bool,a=.bool c:Go.Value->Go.World->Prop)
def CC(b c:Nat)(k:Int)(w)(l:sj b c k [] w):
  Calls prog 71 #[.pointer c] w λm n=>m=.returned (.string .empty)/\Below b w n:=by
 have⟨v,p,q,d,r⟩:=l.any;have s:b<=w:=QT p<|Rt (QP.1 d).1;have x:w.drew.cell? (sd c)=some q:=kA (w:=w.drew) d 1 _ Z;rcases r.2 with⟨rfl,_⟩|⟨a,e,f,rfl,y,t,z,A,B,C⟩
 .have g:(Builtin.unsafeSliceData_ #[22] 238 #[Nl]).run prog w.drew=.ok (.pointer none) w.drew:=Lib.run_unsafeSliceData_nil _ _ _ _ _;have i:(Builtin.unsafeString_ #[238,3] 9 #[.pointer none,.int .i64 0]).run prog w.drew=.ok (.string .empty) w.drew:=Te _ _ _ _ _
  go_enter func71,ntmps71
  go_wp2
  go_region
  all_goals (go_wp2;go_ret;exact⟨Z,Below.drew<|Sf b w⟩)
 .by_cases j:e=0
  .subst j;have u:w.drew.heap[a]?=some (.cells f 5 (0,0)):=t;have g:(Builtin.unsafeSliceData_ #[22] 238 #[(a,0,0)]).run prog w.drew=.ok (.pointer w) (w.drew.alloc<|.view ⟨a,0,none⟩ 5):=
    Lib.run_unsafeSliceData_zero _ _ _ _ Up _ _ (5,f.size) (by simp[World.shape?,u])
   have D:(w.alloc<|.view ⟨a,0,none⟩ 5).cell? (sd c)=some (.slice a 0 0):=kA ((Q5 w _ (QP.1 d).1).T d) 1 _ Z;have i:(Builtin.unsafeString_ #[238,3] 9<|yW w).run prog (w.alloc<|.view ⟨a,0,none⟩ 5).drew=.ok (.string .empty) (w.alloc<|.view ⟨a,0,none⟩ 5).drew:=Te _ _ _ _ _
   go_enter func71,ntmps71
   go_wp2
   go_region
   all_goals (go_wp2;go_ret;exact⟨Z,(Below.drew<|Sf b w).alloc s _⟩)
  have g:(Builtin.unsafeSliceData_ #[22] 238 #[(a,0,e)]).run prog w.drew=.ok (.pointer a) w.drew:=TE _ _ _ _ _ _ j;have i:(Builtin.unsafeString_ #[238,3] 9<|yW a).run prog w.drew=.ok (.string .empty) w.drew:=Te _ _ _ _ _
  go_enter func71,ntmps71
  go_wp2
  go_region
  all_goals (go_wp2;go_ret;exact⟨Z,Below.drew<|Sf b w⟩)
def oD{m:Type}{P}{w:RW}(g)(v:TypeId)(d i n)(c p:Nat)(x:P.underlying g=some (.slice d))(y:P.info? d=some i)(M:i.zero=some n)
  (N:i.size=c) (O:i.bytes=p) (Q:n.cells.size=c) {e:Rel m} (ok:lh e c) (R:∀{q S:Nat->Prop} {w a:RW} {r:List R0} {j:m},e q w r j->e S a r j) {q:Nat->Prop} {b0:Nat} {b:List m} {z:R0}
  {f:Nat} (T:b.length=f) (s:kz e q w z b) (aq:f<=maxLen) (U:f*p<=140737488355328):
  ∃A B a,(Builtin.append_ #[g,g] v #[(b0,0,0),z]).run P w=.ok (.slice A f B) a/\kz e (λC=>w<=C/\C<a) a (.slice A f B) b/\Below w w a:=by
 subst T;by_cases t:b=[]
 .subst t;obtain⟨D,E,u,rfl,_⟩:=s;refine⟨some ⟨b0,0,none⟩,0,w,?_,⟨_,0,[],Z,QX _,Y,uq.nil _ _ _,trivial⟩,Sf _ _⟩;cases D<;>simp[Builtin.append_,Tk x,sizeOf,typeInfo,y,Builtin.lenOf,Builtin.firstCells,storeCells,loadCells,loadCellsFrom]
 .have⟨D,E,V,aa,ar,au,ab,ac⟩:=id s;subst aa;have ad:V.flatten≠[]:=by
   intro d;have:=ly.flat (k:=c) (λr j h=>ok.len h) ac;rw[d]at this;have av:=ok.pos;have:b.length=0:=by have F:b.length*c=0:=(by simpa using this.symm);rcases TV.1 F with h|h;exact h;omega
   exact t<|RI this
  obtain⟨ae,af,rfl,_,_⟩:=ab ad;have⟨u,aw,_,ag,ah,ai,_⟩:=s.cells ok;have ax:0<b.length:=Tb.2 t;have⟨ay,a,G,aj,ak⟩:=Tv (P:=P) (w:=w) g v d i n c p x y M N O Q ok.pos ⟨b0,0,none⟩ 0 0 [] Uo Uo ⟨ae,af,none⟩ b.length E u.flatten ag ai Y Y (by rw[Q7];exact U);rcases aj.2 with⟨rfl,F⟩|⟨al,I,az,rfl,am,J,K,an,aA,L⟩
  omega;rw[Q7]at G K;refine⟨_,I,a,G,⟨_,I,u,Z,K,by unfold maxLen at an;omega,λ_=>⟨al,0,Z,⟨am,(QP.1 J).1⟩,λaB aC l=>?_⟩,ah.imp λr j ao=>R ao⟩,(Sf _ w).grown ak (QX _) λk ap=>by cases ap⟩;rw[R8]at L;rw[<-L,Sd]at l;split at l;rw[Q7];simp only[World.cell?,J];simpa using l;cases l
def ui{l:Type}{P:Program}{w:RW}{t:Array Oper}{u:List Oper}{o}{e:Act}{v:Exit->Act->RW->Prop}(A:o.guard=none)(x b:Operand)(f:TypeId)
  (B:o.op=.call {callee:=.builtin .append,args:=#[x,b],argTypes:=#[f,f]})
  (m:TypeId) (i:TypeInfo) (n:R0) (g p:Nat) (C:P.underlying f=some (.slice m)) (D:P.info? m=some i) (E:i.zero=some n)
  (F:i.size=g) (G:i.bytes=p) (I:n.cells.size=g)
  {c:Rel l} (ok:lh c g) (J:∀{q K:Nat->Prop} {w a:RW} {r:List R0} {b:l},c q w r b->c K a r b) {q:Nat->Prop} {b0:Nat} {s:List l} {y:R0} (L:e.eval x=.slice b0 0 0) (M:e.eval b=y)
  {d:Nat} (N:s.length=d) (O:kz c q w y s) (Q:d<=maxLen) (R:d*p<=140737488355328)
  (S:∀j k a,kz c (λz=>w.heap.size<=z/\z<a.heap.size) a (.slice j d k) s->Below w.heap.size w a->wpList P t v u (e.put o.dst<|.slice j d k) a):wpList P t v (o::u) e w:=by
 have⟨j,k,a,T,U,V⟩:=oD (P:=P) (w:=w) f o.type m i n g p C D E F G I ok J (b0:=b0) N O Q R;refine Uf A λab aa=>?_;unfold Oper.wp execOp;simp only[B,resolve,invoke,builtin,RD,RF,Ro,Rv,Rq,RG,L,M,T];exact aa _ _<|S j k a U V
def Kw:(prog.info? 198).map (λa=>(a.zero,a.size,a.bytes))=some (some<|.agg oR,6,112):=Up
def IJ(a:Nat)(i:a<=1000)(b):(Instr.makeSlice 122 (.int .i64 (a:Int))<|.int .i64 (a:Int)).run prog b=.ok (.slice b a a) (b.alloc<|.cells (madeCells oR<|a*6) 198):=by have⟨d,e,f,c,g⟩:=Rj Kw;have:=Ss (P:=prog) b 122 198 d _ underlying122 e f .i64 .i64 (a:Int) (a:Int) Y (SE _) (by rw[c];simp;omega) (by rw[g];omega) Y;rw[c,RR]at this;exact this
def uf(d:Nat)(F w J)(e K:Nat)(g)(L:kz (kR .u8 d) F w (.slice J e K) g)(af:e<=1000)(ag:∀k,F k->k<w)(ah:∀c∈g,∀(q:RW) (r:List R0),Below w w q->(kR .u8 d) F q r c->Calls prog 118 #[.agg r.toArray] q (qT (kR .u8 d) c q)):
  Calls prog 117 #[.slice J e K,.func (.func 118) #[] #[]] w (sB (kR .u8 d) e g w):=by
 have ai:=Gs;unfold mq at ai;have aj:=L.len;have u:=X aj.1;have ak:=L;have M:=ag;have al:=ah;have am:=IJ e af w;have⟨j,s⟩:=Xq w.heap.size;have l:mQ (kR .u8 d) 198 6 j (w.alloc<|.cells (madeCells oR<|e*6) 198) j e ([]:List St):=mQ.start _ (by rw[s];exact QQ _ _) (by rw[SM]);have m:Below j w<|w.alloc<|.cells (madeCells oR<|e*6) 198:=by rw[s];exact Ba _ _
 rw[<-s]at am;have n:=X s;clear s
 go_enter func117,ntmps117
 go_wp21;generalize w.alloc (.cells (madeCells oR<|e*6) 198)=q at*;go_loopw [13] (λi wr=>∃a:Nat,a<=e/\i=a/\mQ (kR .u8 d) 198 6 j wr j e (g.take a)/\Below j w wr) (λi _=>e-(intOf i).toNat)
 .exact⟨0,QZ _,Z,l,m⟩
 obtain⟨a,aB,rfl,l,m⟩:=hrel;have aC:=l.lt;by_cases aD:a<e
 .obtain⟨c,G⟩:∃c,g[a]?=some c:=Gx<|W u.o;obtain⟨aE,aF,r,rfl,aG,N,p⟩:=(ak.kv (kR.ok .u8 d) λk t=>m.B k<|by rw[n.o];exact M k t).ll (kR.ok .u8 d) a c G;obtain⟨v,x,y,z,A,B,C,D,E,rfl⟩:=N.opn;have an:=p 0 _ Z;have aH:=p 1 _ Z;have aI:=p 2 _ Z;have aJ:=p 3 _ Z;have aK:=p 4 _ Z;have aL:=p 5 _ Z;rw[Q1]at an;obtain⟨aM,aN⟩:=nL a e;have I:=Ba wr<|mx c.kind c.name c.hd v x y z A B C D E;have ao:=(al c (QS G) (wr.alloc<|mx c.kind c.name c.hd v x y z A B C D E) [.int .u8 c.kind,tx c.name,tx c.hd,(v,x,y),(z,A,B),(C,D,E)] (by rw[<-n.o];exact m.T<|I.M<|W n.o)<|(kR.ok .u8 d).kv N λk t=>I.B k<|Ul (M k t) n.o)
  have ap:=X G;go_wp21;apply ao.M;rintro O P ⟨r,rfl,Q,aq⟩;obtain⟨R,S,T,U,V,aa,ab,ac,ad,rfl⟩:=Q.opn;have aO:(wr.alloc<|mx c.kind c.name c.hd v x y z A B C D E).heap.size=wr+1:=Uo;have ae:Below wr wr P:=I.T<|aq.M Y;have f:=(l.kv (kR.ok .u8 d) ae)
  have ar:=(m.T<|ae.M Y)
  have au:=f.frozen<|a*6+0;have aP:=f.frozen<|a*6+1;have aQ:=f.frozen<|a*6+2;have aR:=f.frozen<|a*6+3;have aS:=f.frozen<|a*6+4;have aT:=f.frozen<|a*6+5;rw[Q1]at au;have aU:a*6+5<e*6:=Y;have⟨aV,aW⟩:=f.cell (kR.ok .u8 d) (i:=a*6) Y;have⟨aX,aY⟩:=f.cell (kR.ok .u8 d) (i:=a*6+1) Y;have⟨aZ,ba⟩:=f.cell (kR.ok .u8 d) (i:=a*6+2) Y;have⟨bb,bc⟩:=f.cell (kR.ok .u8 d) (i:=a*6+3) Y;have⟨bd,be⟩:=f.cell (kR.ok .u8 d) (i:=a*6+4) Y;have⟨bf,bg⟩:=f.cell (kR.ok .u8 d) (i:=a*6+5) Y;have av:=(show mQ (kR .u8 d) 198 6 j (kZ P j (a*6) [.int .u8 c.kind,tx c.name,tx c.hd,(R,S,T),(U,V,aa),(ab,ac,ad)]) j e (g.take<|a+1)from by have O:g.take (a+1)=g.take a++[c]:=(by rw[Rz,ap.o];rfl);rw[O];have aw:(g.take a).length=a:=(by rw[Rm];have:=u.o;omega);exact f.put (kR.ok .u8 d) ((kR.ok .u8 d).M Q (λk t=>by have⟨bh,ax⟩:=t;have:=n.o;exact⟨Y,ax,Y⟩)) Y<|by rw[aw])
  have ay:=(lD (lo:=j) (b:=j) (QX _) (r:=[.int .u8 c.kind,tx c.name,tx c.hd,(R,S,T),(U,V,aa),(ab,ac,ad)]) (o:=(a*6)) ar)
  go_wp21;go_roundw
  .exact⟨a+1,Y,Ur,av,ay⟩
  simp[intOf];omega
 obtain rfl:e=a:=Y;have az:g.take e=g:=Re<|W u.o;rw[az]at l;go_wp21;go_ret;have aA:=n.o;subst aA;exact⟨Z,l.done (kR.ok .u8 d) (W u.o) (QX _) Y,m⟩
def rG{w:RW}{b:Nat}{c d e f:R0}{g:TypeId}(a:w.heap[b]?=some (.cells #[c,d,e,f] g)):(w.cell? b=some c/\w.cell? (sd b)=some d/\w.cell? (rm b)=some e/\w.cell? (sz b)=some f)/\w.frozen? ⟨b,0,none⟩=false/\w.frozen? ⟨b,1,none⟩=false/\w.frozen? ⟨b,2,none⟩=false/\w.frozen? ⟨b,3,none⟩=false:=
 ⟨⟨kt a 0,kt a 1,kt a 2,kt a 3⟩,kx a 0,kx a 1,kx a 2,kx a 3⟩
def mP{w:RW}{a:Nat}{T:TypeId}{r m:List R0}(b:w.heap[a]?=some (.cells m.toArray T (0,0)))(c:m.length=r.length):(kZ w a 0 r).heap[a]?=some (.cells r.toArray T (0,0)):=by have:=qK (r:=r) (m:=m) (t:=[]) (l:=[]) c (by simpa using b);simpa using this
def LH(b:Nat):Prop:=∀(d:Nat->Prop) (a:RW) (e:List R0) (c:Ex),kP .u8 b d a e c->(∀f,d f->f<a)->mK b c->Calls prog 174 #[.agg e.toArray] a (qT (kP .u8 b) c a)
def yG(g:Nat)(I:LH g):LH<|g+1:=by
 intro x d r a J y z;obtain⟨v,rfl,n⟩:=J;obtain⟨i,j,rfl,K⟩:=n.form;have L:=z.args.1;have M:=X z.args.2;have⟨m,A⟩:=Xq a.args.length;rw[<-A]at n L K⊢;clear A;have N:=I;have B:=X y;have p:=(Ba d (mu a.op a.name a.n i m j)|>.alloc Uo ks)
 have q:=X<|(Q5 (d.alloc<|mu a.op a.name a.n i m j) ks (r:=d.heap.size) Uo).T<|QQ _ _;have s:=X<|QQ (d.alloc<|mu a.op a.name a.n i m j) ks;have O:=X<|show((d.alloc<|mu a.op a.name a.n i m j).alloc ks).heap.size=d+2 from Uo;have P:=(n.kv (kP.ok .u8 g) λc e=>p.B c<|y c e)
 rw[QR]at s
 go_enter func174,ntmps174
 go_upto_region 1 with fail;generalize(d.alloc<|mu a.op a.name a.n i m j).alloc ks=C at*;have D:=O.o;have⟨b,t⟩:=Xq d.heap.size;rw[<-t]at q s p D⊢;have u:=X t;clear t;have⟨⟨Q,R,S,T⟩,_⟩:=rG q.o;have U:b<C:=Y
 go_wp21;refine(xJ g x C i m j a.args P Y (λc e=>Ul (B.o c e) u.o) λE V f r aa ab=>N x f r E ab (λc e=>by have:=B.o c e;have:=u.o;have:=aa.size;omega)<|M.o E V).M ?_;rintro au f ⟨rfl,ac,w⟩;have ad:=(w.B b U).T q.o;have F:=(w.B (b+1) Y).T s.o;have⟨⟨Q,R,S,T⟩,av,aw,ax,ay⟩:=rG ad;have⟨⟨az,aA,aB,aC⟩,aD,aE,aF,aG⟩:=rG F
 have ae:b+1≠b:=Y
 have af:=(Q8 f ⟨b,3,none⟩ (va b,m,m) (b+1) ae).T F;have⟨l,k⟩:=Xq<|kZ (f.setCell (sz b) (va b,m,m)) (b+1) 0 [.int .u8 a.op,tx a.name,a.n,(va b,m,m)];have ag:=X (show l.heap[b+1]?=some (.cells #[.int .u8 a.op,tx a.name,a.n,(va b,m,m)] 203)from by rw[k];exact mP (r:=[.int .u8 a.op,tx a.name,.int .i64 a.n,(va b,m,m)]) (m:=[_,_,_,_]) af Z);have ah:=X (show∀c,c≠b->c≠b+1->l.heap[c]?=f.heap[c]? from λc ai aj=>by rw[k];exact(mX aj).T (Q8 _ _ _ _ ai));have ak:=X (show l.heap.size=f from by rw[k];exact mf.T<|QU _ _ _);have al:Below b d l:=by rw[k];exact lD Y<|kD (p.T<|w.M Y)<|QX _
 have am:=X k;clear k;go_wp21;change bodyPost _ _ _ _ _ (kZ (f.setCell (sz b) (va b,m,m)) (b+1) 0 [.int .u8 a.op,tx a.name,a.n,(va b,m,m)]);rw[<-am.o];have an:=u.o;subst an;have⟨⟨ao,ap,aq,ar⟩,_⟩:=rG ag.o;refine QY (v:=.agg #[.int .u8 a.op,tx a.name,a.n,(va d,m,m)]) ?_ rfl ⟨[.int .u8 a.op,tx a.name,a.n,(va d,m,m)],Z,⟨_,Z,?_⟩,al⟩;simp[results,Tryz.results174,go_sem,ao,ap,aq,ar];have G:=ac;rw[D]at G;exact(G.kv (kP.ok .u8 g) λc e=>ah.o c (W e.1)<|W e.1).M (kP.ok .u8 g) (λc e=>⟨W e.1,by rw[ak.o];exact e.2⟩)
def uK:∀d,LH d
 |0=>λ_ _ _ _ a _ _=>a.elim
 |d+1=>yG d<|uK d
def zO.nk{d:Nat}{b}{c:Nat}{e f g j k l m n p q a}(r:zO d b c e f g j k l m n p q a)(i:Nat)(u):NK b a<|a.setCell (sa c i) u:=NK.set r.l
def zO.yv{b:Nat}{d}{e:Nat}{j k l m n p f s q r c}(a:zO b d e j k l m n p f s q r c){u}(t:kz (kP .u8 De) (Nw d c) c u f.lp):zO b d e j k l m n p f true q r<|c.setCell (sz e) u:=by have⟨C,v,w,x,D,E,y,z,A,B⟩:=a.r;have g:=a.nk 3 u;exact⟨a.g.T<|nX.set Z,a.l,u,v,w,kr x,λa=>by simp at a,λ_=>om (kP.ok .u8 De) g t,y,λi=>om (kR.ok .u8 b) g<|z i,A,λi=>om (kR.ok .u8 b) g<|B i⟩
def zO.oO{b:Nat}{d}{e:Nat}{j k l m n p f q s r c}(a:zO b d e j k l m n p f q s r c){u}(t:kz (kR .u8 b) (Nw d c) c u f.th):zO b d e j k l m n p f q true r<|c.setCell (Iv e) u:=by have⟨v,C,w,x,y,z,D,E,A,B⟩:=a.r;have g:=a.nk 4 u;exact⟨a.g.T<|nX.set Z,a.l,v,u,w,kr x,y,λi=>om (kP.ok .u8 De) g<|z i,λa=>by simp at a,λ_=>om (kR.ok .u8 b) g t,A,λi=>om (kR.ok .u8 b) g<|B i⟩
def zO.FL{b:Nat}{e}{f:Nat}{k l m n p q g r s t c}(a:zO b e f k l m n p q g r s t c){d}(u:kz (kR .u8 b) (Nw e c) c d g.el):zO b e f k l m n p q g r s true<|c.setCell (An f) d:=by have⟨v,w,C,x,y,z,A,B,D,E⟩:=a.r;have i:=a.nk 5 d;exact⟨a.g.T<|nX.set Z,a.l,v,w,d,kr x,y,λj=>om (kP.ok .u8 De) i<|z j,A,λj=>om (kR.ok .u8 b) i<|B j,λa=>by simp at a,λ_=>om (kR.ok .u8 b) i u⟩
def LI(b:Nat):Prop:=∀(d:Nat->Prop) (a:RW) (e:List R0) (c:St),kR .u8 b d a e c->(∀f,d f->f<a)->nQ b c->Calls prog 118 #[.agg e.toArray] a (qT (kR .u8 b) c a)
abbrev HC(a b c):=(λ(d:R0) (e:RW)=>∃(f:RE),∃(g h:Nat),d=.slice f g h/\kz (kR .u8 a) (Nw b e) e (.slice f g h) c:Go.Value->Go.World->Prop)
abbrev IT(a b c):=(λd e=>∃(f:RE),∃(g h:Nat),d=.slice f g h/\kz (kR .u8 a) (Nw b e) e (.slice f g h) c:Go.Value->Go.World->Prop)
def yH(s:Nat)(bh:LI s):LI<|s+1:=by
 intro ac e r a ad aE aQ;obtain⟨bZ,ca,cb,rfl,aH,aI,aJ⟩:=ad;obtain⟨K,L,rfl,_⟩:=aH.form;obtain⟨M,N,rfl,_⟩:=aI.form;obtain⟨O,P,rfl,_⟩:=aJ.form;have bi:=aQ.five;have⟨_,bj,⟨bk,bl⟩,bm,bn⟩:=aQ;have bo:=bj;have bp:=bm;have bq:=bn;have aR:=bh;have⟨Q,aS⟩:=Xq a.lp.length;have⟨R,aT⟩:=Xq a.th.length;have⟨S,aU⟩:=Xq a.el.length;rw[<-aS]at aH bi⊢;rw[<-aT]at aI bk⊢;rw[<-aU]at aJ bl⊢;clear aS aT aU;have br:=aE;have aq:=(Ba e (mx a.kind a.name a.hd K Q L M R N O S P)|>.alloc Uo oi)
 have aV:=X<|(Q5 (e.alloc<|mx a.kind a.name a.hd K Q L M R N O S P) oi (r:=e.heap.size) Uo).T<|QQ e<|mx a.kind a.name a.hd K Q L M R N O S P;have aK:=X<|QQ (e.alloc<|mx a.kind a.name a.hd K Q L M R N O S P) oi;have bs:=X<|show((e.alloc<|mx a.kind a.name a.hd K Q L M R N O S P).alloc oi).heap.size=e+2 from Uo;have bt:=(aH.kv (kP.ok .u8 De) λf j=>aq.B f<|aE f j)
 have bu:=(aI.kv (kR.ok .u8 s) λf j=>aq.B f<|aE f j)
 have bv:=(aJ.kv (kR.ok .u8 s) λf j=>aq.B f<|aE f j)
 rw[QR]at aK
 go_enter func118,ntmps118
 go_upto_region 1 with fail;generalize((e.alloc<|mx a.kind a.name a.hd K Q L M R N O S P).alloc oi)=A at*;have bw:=bs.o;have⟨p,aL⟩:=Xq e.heap.size;rw[<-aL]at aV aK aq bw⊢;have aW:=X aL;clear aL;have bx:p<A:=Y
 have bz:p+1<A:=Y
 have T:∀f,ac f->f<p:=λf j=>Ul (br f j) aW.o
 have bA:zO s A p (.int .u8 a.kind) (tx a.name) (tx a.hd) (K,Q,L) (M,R,N) (O,S,P) a false false false A:=⟨nX.refl _ _,bx,_,_,_,aV.o,λ_=>Z,λad=>by simp at ad,λ_=>Z,λad=>by simp at ad,λ_=>Z,λad=>by simp at ad⟩
 refine mU (λk bB=>zO s A p (.int .u8 a.kind) (tx a.name) (tx a.hd) (K,Q,L) (M,R,N) (O,S,P) a (k 10) (k 12) (k 14) bB) (mM [(Pp p 3),(·=.slice K Q L),Tr,(Pp p 4),(·=.slice M R N),Tr,(Pp p 5),(·=.slice O S P),Tr,(Pp p 3),Tr,(Pp p 4),Tr,(Pp p 5),Tr]) [(2,λv e=>∃(c:RE),∃(d b:Nat),v=.slice c d b/\kz (kP .u8 De) (Nw A e) e (c,d,b) a.lp),(5,IT s A a.th),(8,IT s A a.el)] Up Up 16 Z Up (bA.ku<|(Sf _ _).drew) ⟨?_,?_,?_,?_,?_,?_,?_,?_,?_,?_,?_,?_,?_,?_,?_,trivial⟩ ?_;intro k q e C E u g z x D F;have ar:k 10=false:=u 10 Up;have U:=lu<|show q.eval (.tmp 1)=.pointer p from z 1 Z;refine kB.lF λG t=>?_;unfold kB;go_simp;exact t _ _ ⟨Z,g,Q2<|Qb<|Qe⟩;intro k q e C E u g z x D F;have ar:k 10=false:=u 10 Up;have aF:=lu<|show q.eval (.tmp 3)=.pointer (BE p)from x 0 _ Z Z;have⟨ae,af,b,w,U,_,aM,_,aF,_⟩:=g.r;have ag:=U ar;subst ag;have aX:=kt w 3;have i:=g;refine kB.lF λG t=>?_;unfold kB;go_simp;exact t _ _ ⟨Z,i,Q2<|Qb<|Qe⟩;intro k q e C E u g z x D F;have ar:k 10=false:=u 10 Up;have ag:=lu<|show q.eval (.tmp 4)=.slice K Q L from x 1 _ Z Z;have aY:=g.g.size;have i:=g;refine kB.lF λG t=>?_;unfold kB;go_simp;refine⟨Z,?_⟩;refine Calls.M (xJ De ac e K Q L a.lp (bt.kv (kP.ok .u8 De)<|i.lK T) Y (λf j=>Ul (T f j) i.g.size) λaa au av r y l=>uK De ac av r aa l (λf j=>by have:=T f j;have:=y.size;have:=i.g.size;omega)<|bo aa au) ?_;rintro n aZ ⟨aw,ax,y⟩;subst aw;exact⟨_,Z,t _ _ ⟨trivial,i.ku y,Qc ⟨_,_,_,Z,wO (kP.ok .u8 De) (W i.g.size) ax⟩<|Qd (λI ⟨c,d,b,n,l⟩=>⟨c,d,b,n,om (kR.ok .u8 s) (NK.ku (w0:=A) y) l⟩)<|Qd (λI ⟨c,d,b,n,l⟩=>⟨c,d,b,n,om (kR.ok .u8 s) (NK.ku (w0:=A) y) l⟩)<|Qe⟩⟩;intro k q e C E u g z x D F;have ay:k 12=false:=u 12 Up;have U:=lu<|show q.eval (.tmp 1)=.pointer p from z 1 Z;refine kB.lF λG t=>?_;unfold kB;go_simp;exact t _ _ ⟨Z,g,Q2<|Qb<|Qe⟩;intro k q e C E u g z x D F;have ay:k 12=false:=u 12 Up;have cc:=lu<|show q.eval (.tmp 6)=.pointer (some ⟨p,4,none⟩)from x 3 _ Z Z;have⟨ae,af,b,w,U,_,aM,_,aF,_⟩:=g.r;have ag:=aM ay;subst ag;have aX:=kt w 4;have i:=g;refine kB.lF λG t=>?_;unfold kB;go_simp;exact t _ _ ⟨Z,i,Q2<|Qb<|Qe⟩;intro k q e C E u g z x D F;have ay:k 12=false:=u 12 Up;have cd:=lu<|show q.eval (.tmp 7)=.slice M R N from x 4 _ Z Z;have aY:=g.g.size;have i:=g;refine kB.lF λG t=>?_;unfold kB;go_simp;refine⟨Z,?_⟩;refine Calls.M (uf s ac e M R N a.th (bu.kv (kR.ok .u8 s)<|i.lK T) Y (λf j=>Ul (T f j) i.g.size) λaa au av r y l=>aR ac av r aa l (λf j=>by have:=T f j;have:=y.size;have:=i.g.size;omega)<|bp aa au) ?_;rintro n aZ ⟨aw,ax,y⟩;subst aw;exact⟨_,Z,t _ _ ⟨trivial,i.ku y,Qd (λI ⟨c,d,b,n,l⟩=>⟨c,d,b,n,om (kP.ok .u8 De) (NK.ku (w0:=A) y) l⟩)<|Qc ⟨_,_,_,Z,wO (kR.ok .u8 s) (W i.g.size) ax⟩<|Qd (λI ⟨c,d,b,n,l⟩=>⟨c,d,b,n,om (kR.ok .u8 s) (NK.ku (w0:=A) y) l⟩)<|Qe⟩⟩;intro k q e C E u g z x D F;have az:k 14=false:=u 14 Up;have U:=lu<|show q.eval (.tmp 1)=.pointer p from z 1 Z;refine kB.lF λG t=>?_;unfold kB;go_simp;exact t _ _ ⟨Z,g,Q2<|Qb<|Qe⟩;intro k q e C E u g z x D F;have az:k 14=false:=u 14 Up;have ce:=lu<|show q.eval (.tmp 9)=.pointer (BT p)from x 6 _ Z Z;have⟨ae,af,b,w,U,_,aM,_,aF,_⟩:=g.r;have ag:=aF az;subst ag;have aX:=kt w 5;have i:=g;refine kB.lF λG t=>?_;unfold kB;go_simp;exact t _ _ ⟨Z,i,Q2<|Qb<|Qe⟩;intro k q e C E u g z x D F;have az:k 14=false:=u 14 Up;have cf:=lu<|show q.eval (.tmp 10)=.slice O S P from x 7 _ Z Z;have aY:=g.g.size;have i:=g;refine kB.lF λG t=>?_;unfold kB;go_simp;refine⟨Z,?_⟩;refine Calls.M (uf s ac e O S P a.el (bv.kv (kR.ok .u8 s)<|i.lK T) Y (λf j=>Ul (T f j) i.g.size) λaa au av r y l=>aR ac av r aa l (λf j=>by have:=T f j;have:=y.size;have:=i.g.size;omega)<|bq aa au) ?_;rintro n aZ ⟨aw,ax,y⟩;subst aw;exact⟨_,Z,t _ _ ⟨trivial,i.ku y,Qd (λI ⟨c,d,b,n,l⟩=>⟨c,d,b,n,om (kP.ok .u8 De) (NK.ku (w0:=A) y) l⟩)<|Qd (λI ⟨c,d,b,n,l⟩=>⟨c,d,b,n,om (kR.ok .u8 s) (NK.ku (w0:=A) y) l⟩)<|Qc ⟨_,_,_,Z,wO (kR.ok .u8 s) (W i.g.size) ax⟩<|Qe⟩⟩;intro k q e C E u g z x D F;have ar:k 10=false:=u 10 Up;have U:=lu<|show q.eval (.tmp 1)=.pointer p from z 1 Z;refine kB.lF λG t=>?_;unfold kB;go_simp;exact t _ _ ⟨Z,g,Q2<|Qb<|Qe⟩;intro k q e C E u g z x D F;have ar:k 10=false:=C;have cg:=lu<|show q.eval (.tmp 12)=.pointer (BE p)from x 9 _ Z Z;have ab:(λ(v:R0) (e:RW)=>∃(c:RE),∃(d b:Nat),v=.slice c d b/\kz (kP .u8 De) (Nw A e) e (c,d,b) a.lp) (q.eval<|.tmp 5) e:=D _ (List.Mem.head _) _ Z Z;have⟨c,d,b,ba,bC⟩:=ab;have ch:=lu ba;have aA:=bC;have⟨ae,af,b,w,_,_,_,_,_,_⟩:=g.r;have bb:=kx w 3;have bc:=kt w 3;have i:=g;refine kB.lF λG t=>?_;unfold kB;go_simp;exact t _ _ ⟨trivial,i.yv aA,Qd (λI ⟨c,d,b,n,l⟩=>⟨c,d,b,n,om (kP.ok .u8 De) (i.nk 3 _) l⟩)<|Qd (λI ⟨c,d,b,n,l⟩=>⟨c,d,b,n,om (kR.ok .u8 s) (i.nk 3 _) l⟩)<|Qd (λI ⟨c,d,b,n,l⟩=>⟨c,d,b,n,om (kR.ok .u8 s) (i.nk 3 _) l⟩)<|Qe⟩;intro k q e C E u g z x D F;have ay:k 12=false:=u 12 Up;have U:=lu<|show q.eval (.tmp 1)=.pointer p from z 1 Z;refine kB.lF λG t=>?_;unfold kB;go_simp;exact t _ _ ⟨Z,g,Q2<|Qb<|Qe⟩;intro k q e C E u g z x D F;have ay:k 12=false:=C;have ci:=lu<|show q.eval (.tmp 13)=.pointer (some ⟨p,4,none⟩)from x 11 _ Z Z;have bD:(HC s A a.th) (q.eval<|.tmp 8) e:=D _ (List.Mem.tail _<|List.Mem.head _) _ Z Z;have⟨c,d,b,bE,bF⟩:=bD;have cj:=lu bE;have aA:=bF;have⟨ae,af,b,w,_,_,_,_,_,_⟩:=g.r;have bb:=kx w 4;have bc:=kt w 4;have i:=g;refine kB.lF λG t=>?_;unfold kB;go_simp;exact t _ _ ⟨trivial,i.oO aA,Qd (λI ⟨c,d,b,n,l⟩=>⟨c,d,b,n,om (kP.ok .u8 De) (i.nk 4 _) l⟩)<|Qd (λI ⟨c,d,b,n,l⟩=>⟨c,d,b,n,om (kR.ok .u8 s) (i.nk 4 _) l⟩)<|Qd (λI ⟨c,d,b,n,l⟩=>⟨c,d,b,n,om (kR.ok .u8 s) (i.nk 4 _) l⟩)<|Qe⟩;intro k q e C E u g z x D F;have az:k 14=false:=u 14 Up;have U:=lu<|show q.eval (.tmp 1)=.pointer p from z 1 Z;refine kB.lF λG t=>?_;unfold kB;go_simp;exact t _ _ ⟨Z,g,Q2<|Qb<|Qe⟩;intro k q e C E u g z x D F;have az:k 14=false:=C;have ck:=lu<|show q.eval (.tmp 14)=.pointer (BT p)from x 13 _ Z Z;have bG:(HC s A a.el) (q.eval<|.tmp 11) e:=D _ (List.Mem.tail _<|List.Mem.tail _<|List.Mem.head _) _ Z Z;have⟨c,d,b,bH,bI⟩:=bG;have cl:=lu bH;have aA:=bI;have⟨ae,af,b,w,_,_,_,_,_,_⟩:=g.r;have bb:=kx w 5;have bc:=kt w 5;have i:=g;refine kB.lF λG t=>?_;unfold kB;go_simp;exact t _ _ ⟨trivial,i.FL aA,Qd (λI ⟨c,d,b,n,l⟩=>⟨c,d,b,n,om (kP.ok .u8 De) (i.nk 5 _) l⟩)<|Qd (λI ⟨c,d,b,n,l⟩=>⟨c,d,b,n,om (kR.ok .u8 s) (i.nk 5 _) l⟩)<|Qd (λI ⟨c,d,b,n,l⟩=>⟨c,d,b,n,om (kR.ok .u8 s) (i.nk 5 _) l⟩)<|Qe⟩;intro k cm aB aN bJ cn co;have V:zO s A p (.int .u8 a.kind) (tx a.name) (tx a.hd) (K,Q,L) (M,R,N) (O,S,P) a (k 10) (k 12) (k 14) aB:=bJ;rw[aN 10 Un,aN 12 Un,aN 14 Un]at V;have⟨bd,_,ae,af,b,w,_,aC,_,y,_,aD⟩:=V;have aC:=aC Z;have y:=y Z;have aD:=aD Z;obtain⟨ah,ai,rfl,_⟩:=aC.form;obtain⟨aj,ak,rfl,_⟩:=y.form;obtain⟨al,ab,rfl,_⟩:=aD.form;have⟨am,be⟩:=Xq a.lp.length;have⟨an,bf⟩:=Xq a.th.length;have⟨ao,bg⟩:=Xq a.el.length;rw[<-be]at aC w;rw[<-bf]at y w;rw[<-bg]at aD w;clear be bf bg;have bK:=aC;have bL:=y;have bM:=aD;have bN:=bd;have J:=(bd.B (p+1) bz Y).T aK.o;have cp:=kt w 0;have cq:=kt w 1;have cr:=kt w 2;have cs:=kt w 3;have ct:=kt w 4;have cu:=kt w 5;have cv:=kt J 0;have cw:=kt J 1;have cx:=kt J 2;have cy:=kt J 3;have cz:=kt J 4;have cA:=kt J 5;have cB:=kx J 0;have cC:=kx J 1;have cD:=kx J 2;have cE:=kx J 3;have cF:=kx J 4;have ba:=kx J 5
 have⟨aG,ap⟩:=Xq<|kZ aB (p+1) 0 [.int .u8 a.kind,tx a.name,tx a.hd,(ah,am,ai),(aj,an,ak),(al,ao,ab)];have bO:=X (show aG.heap[p+1]?=some (mx a.kind a.name a.hd ah am ai aj an ak al ao ab)from by rw[ap];exact mP (r:=[.int .u8 a.kind,tx a.name,tx a.hd,(ah,am,ai),(aj,an,ak),(al,ao,ab)]) (m:=[_,_,_,_,_,_]) J Z);have aO:∀f,f≠p->f≠p+1->aG.heap[f]?=aB.heap[f]?:=λf cG bP=>by rw[ap];exact(mX bP).T (rfl)
 have aP:=X (show aG.heap.size=aB from by rw[ap];exact mf.T rfl);have bQ:Below p e aG:=by rw[ap];exact lD Y<|aq.T<|bN.ku (B:=p) Y λcH n=>Y
 have bR:=X ap;clear ap;simp only[nx];go_wp21;change bodyPost _ _ _ _ _ (kZ aB (p+1) 0 [.int .u8 a.kind,tx a.name,tx a.hd,(ah,am,ai),(aj,an,ak),(al,ao,ab)]);rw[<-bR.o];have bS:=aW.o;subst bS;have V:=bO.o;have bT:=kt V 0;have bU:=kt V 1;have bV:=kt V 2;have bW:=kt V 3;have bX:=kt V 4;have bY:=kt V 5;refine QY (v:=.agg #[.int .u8 a.kind,tx a.name,tx a.hd,(ah,am,ai),(aj,an,ak),(al,ao,ab)]) ?_ rfl ⟨[.int .u8 a.kind,tx a.name,tx a.hd,(ah,am,ai),(aj,an,ak),(al,ao,ab)],Z,⟨_,_,_,Z,?_,?_,?_⟩,bQ⟩;simp[results,Tryz.results118,go_sem,bT,bU,bV,bW,bX,bY];exact(bK.kv (kP.ok .u8 De) λf j=>aO f (W j.1)<|W j.1).M (kP.ok .u8 De) (λf j=>⟨W j.1,by rw[aP.o];exact j.2⟩);exact(bL.kv (kR.ok .u8 s) λf j=>aO f (W j.1)<|W j.1).M (kR.ok .u8 s) (λf j=>⟨W j.1,by rw[aP.o];exact j.2⟩);exact(bM.kv (kR.ok .u8 s) λf j=>aO f (W j.1)<|W j.1).M (kR.ok .u8 s) (λf j=>⟨W j.1,by rw[aP.o];exact j.2⟩)
def uL:∀d,LI d
 |0=>λ_ _ _ _ a _ _=>a.elim
 |d+1=>yH d<|uL d
def IP:(prog.info? 115).map (λi=>(i.zero,i.size,i.bytes))=some (some<|.agg pv,3,32):=Up
def wD(J w r b)(V:mA .u8 J w r b)(aa:∀a,J a->a<w)(ab:vL b):Calls prog 77 #[.agg r.toArray] w<|qT (mA .u8) b w:=by
 obtain⟨bm,bn,rfl,ac,n⟩:=V;obtain⟨q,s,rfl,_⟩:=ac.form;obtain⟨t,u,rfl,_⟩:=n.form;have ay:=ab.Hq;have az:=ab.C2;have aA:=ab.body;have⟨e,ad⟩:=Xq b.params.length;have⟨f,aj⟩:=Xq b.body.length;rw[<-ad]at ac ay⊢;rw[<-aj]at n az⊢;have aB:=X ad.symm;clear ad aj;have⟨aC,aD,aE,aF,aG⟩:=Rj rK;have N:=(RC aD<|RC aE<|RC aF aG)
 have aH:=aa;have O:=(Ba w (.cells (hR b.name q e s t f u) 125)|>.alloc Uo wg)
 have Q:=X<|(Q5 (w.alloc<|.cells (hR b.name q e s t f u) 125) wg (r:=w.heap.size) Uo).T<|QQ w<|.cells (hR b.name q e s t f u) 125;have R:=X<|QQ (w.alloc<|.cells (hR b.name q e s t f u) 125) wg;have aI:=X<|show((w.alloc<|.cells (hR b.name q e s t f u) 125).alloc wg).heap.size=w+2 from Uo;have aJ:=(ac.kv kM.ok λa c=>O.B a<|aa a c)
 have aK:=(n.kv (kR.ok .u8 Ds) λa c=>O.B a<|aa a c)
 rw[QR]at R
 go_enter func77,ntmps77
 go_upto_region 1 with fail;generalize((w.alloc<|.cells (hR b.name q e s t f u) 125).alloc wg)=l at*;have aL:=aI.o;have⟨i,ae⟩:=Xq w.heap.size;rw[<-ae]at Q R O aL⊢;have ak:=X ae;clear ae;have af:i<l:=Y
 have al:i+1<l:=Y
 have S:∀a,J a->a<i:=λa c=>Ul (aH a c) ak.o
 refine sf (λb=>Below l l b) (λv w=>∃(p:RW) (j:RE) (k:Nat) (K:RE) (L:Nat),Below l l p/\kz kM (Nw l p) p (j,e,k) b.params/\kz (kR .u8 Ds) (Nw l p) p (K,f,L) b.body/\w=kZ p (i+1) 0 [tx b.name,(j,e,k),(K,f,L)]) (mM [(·=.pointer i),(·=tx b.name),Tr,(Pp i 1),(·=.slice q e s),Tr,(Pp i 2),(·=.slice t f u),Tr,Tr,Tr]) [(2,λv w=>∃aM:Nat,v=.slice aM 0 0),(5,λv w=>∃(j:RE) (k:Nat),v=.slice j e k/\kz kM (Nw l w) w (j,e,k) b.params),(8,λv w=>∃(j:RE),∃(k:Nat),v=.slice j f k/\kz (kR .u8 Ds) (Nw l w) w (j,f,k) b.body),(9,λv w=>∃(j:RE) (k:Nat) (K:RE) (L:Nat),v=.agg (hR b.name j e k K f L)/\kz kM (Nw l w) w (j,e,k) b.params/\kz (kR .u8 Ds) (Nw l w) w (K,f,L) b.body)] ((Sf _ _).drew) ⟨?_,?_,?_,?_,?_,?_,?_,?_,?_,?_,?_,trivial⟩ ?_;exact Pf 1;exact Pl 3 0 λ_ d=>kA ((d.B i af).T Q.o) 0 _ Z;intro F w d M z x T;have am:=d.size;exact .q (g:=⟨trivial,d.alloc d.size _,Qc ⟨_,Z⟩<|Qb<|Qd (λan ⟨j,k,G,A⟩=>⟨j,k,G,om (kR.ok .u8 Ds) (NK.alloc l w _) A⟩)<|Qb<|Qe⟩);exact Pf 1;exact Pl 6 3 λ_ d=>kA ((d.B i af).T Q.o) 1 _ Z;intro F w d M z x T;obtain⟨ao,aN⟩:=kW x 0;have aO:=Sv 7 z 4;have am:=d.size;have⟨bo,bp,aP,aQ,ag,n⟩:=oD (P:=prog) (w:=w) 76 76 9 aC _ 1 16 underlying76 N.1 N.2.1 N.2.2.1 N.2.2.2 Z kM.ok (λV=>V) (b0:=ao) aB.o (aJ.kv kM.ok λa c=>d.B a<|W<|S a c) Uw Y;have aR:F.eval (.tmp 5)=.slice ao 0 0:=aN;have aS:F.eval (.tmp 7)=.slice q e s:=by simp[Act.eval,aO]
 refine .h λaT ah=>?_;simp only[execOp,resolve,invoke,builtin,RD,RF,Ro,Rv,Rq,RG,aR,aS,aQ];exact ah ⟨trivial,d.T<|n.M d.size,Qb<|Qc ⟨_,_,Z,wO kM.ok Y ag⟩<|Qd (λan ⟨j,k,G,A⟩=>⟨j,k,G,om (kR.ok .u8 Ds) (NK.ku (w0:=l) n) A⟩)<|Qb<|Qe⟩;exact Pf 1;exact Pl 9 6 λ_ d=>kA ((d.B i af).T Q.o) 2 _ Z;intro F w d M z x T;have bq:=Sv 10 z 7;have am:=d.size;refine .c (uf Ds J w t f u b.body (aK.kv (kR.ok .u8 Ds) λa c=>d.B a<|W<|S a c) Y (λa c=>W<|S a c) λap aU aV r n A=>uL Ds J aV r ap A (λa c=>Ul (S a c) n.size)<|aA ap aU) ?_;rintro G aP ⟨aW,ag,n⟩;subst aW;exact⟨_,Z,⟨trivial,d.T<|n.M d.size,Qb<|Qd (λan ⟨j,k,G,A⟩=>⟨j,k,G,om kM.ok (NK.ku (w0:=l) n) A⟩)<|Qc ⟨_,_,Z,wO (kR.ok .u8 Ds) Y ag⟩<|Qb<|Qe⟩⟩;intro F w d M z x T;have br:=Sv 4 z 1;obtain⟨bs,bt,aX,aY⟩:=kW x 1;have bu:=Sl 8 aX;obtain⟨j,k,aZ,ba⟩:=kW x 2;have bv:=Sl 11 aZ;exact .q (g:=⟨trivial,d,Q2<|Qb<|Qc ⟨_,_,_,_,Z,aY,ba⟩<|Qa⟩);intro F w d M z x T;have bw:=Sl 2<|M 2 Z;obtain⟨B,C,D,E,bb,bc,bd⟩:=kW x 3;have bx:=Sl 12 bb;have y:=(d.B (i+1) al).T R.o;have bz:=kt y 0;have bA:=kt y 1;have bB:=kt y 2;have aq:=kx y 0;have ar:=kx y 1;have au:=kx y 2
 refine .h λaT ah=>?_;go_simp;exact ah<|⟨w,_,_,_,_,d,bc,bd,Z⟩;intro bC bD bE be;obtain⟨p,B,C,D,E,av,bf,bg,rfl⟩:=be;have y:=(av.B (i+1) al).T R.o;have⟨U,I⟩:=Xq<|kZ p (i+1) 0 [tx b.name,(B,e,C),(D,f,E)];have bh:=X (show U.heap[i+1]?=some (.cells (hR b.name B e C D f E) 125)from by rw[I];exact mP (r:=[tx b.name,(B,e,C),(D,f,E)]) (m:=[_,_,_]) y Z);have aw:∀a,a≠i->a≠i+1->U.heap[a]?=p.heap[a]?:=λa bF bi=>by rw[I];exact(mX bi).T (rfl)
 have ax:=X (show U.heap.size=p from by rw[I];exact mf.T rfl);have bj:Below i w U:=by rw[I];exact lD Y<|O.T<|av.M Y
 have bk:=X I;clear I;simp only[nx];go_wp21;change bodyPost _ _ _ _ _ (kZ p (i+1) 0 [tx b.name,(B,e,C),(D,f,E)]);rw[<-bk.o];have bl:=ak.o;subst bl;have ai:=bh.o;have aq:=kt ai 0;have ar:=kt ai 1;have au:=kt ai 2;refine QY (v:=.agg<|hR b.name B e C D f E) ?_ rfl ⟨[tx b.name,(B,e,C),(D,f,E)],Z,⟨_,_,Z,?_,?_⟩,bj⟩;simp[results,Tryz.results77,go_sem,aq,ar,au];exact(bf.kv kM.ok λa c=>aw a (W c.1)<|W c.1).M kM.ok (λa c=>⟨W c.1,by rw[ax.o];exact c.2⟩);exact(bg.kv (kR.ok .u8 Ds) λa c=>aw a (W c.1)<|W c.1).M (kR.ok .u8 Ds) (λa c=>⟨W c.1,by rw[ax.o];exact c.2⟩)
def CU.nk{b}{c:Nat}{d e f g j k l a}(m:CU b c d e f g j k l a)(i:Nat)(u):NK b a<|a.setCell (sa c i) u:=NK.set m.l
def CU.yv{c}{d:Nat}{f g i j e m k b}(a:CU c d f g i j e m k b){u}(n:kz mI (Nw c b) b u e.kQ):CU c d f g i j e true k<|b.setCell (sd d) u:=by have⟨v,p,q,w,x,r,s⟩:=a.r;have l:=a.nk 1 u;exact⟨a.g.T<|nX.set Z,a.l,u,p,kr q,λa=>by simp at a,λ_=>om mI.ok l n,r,λt=>om nT.ok l<|s t⟩
def CU.oO{c}{d:Nat}{f g i j e k m b}(a:CU c d f g i j e k m b){u}(n:kz nT (Nw c b) b u e.ml):CU c d f g i j e k true<|b.setCell (rm d) u:=by have⟨p,v,q,r,s,w,x⟩:=a.r;have l:=a.nk 2 u;exact⟨a.g.T<|nX.set Z,a.l,p,u,kr q,r,λt=>om mI.ok l<|s t,λa=>by simp at a,λ_=>om nT.ok l n⟩
def nh.byte{b}{c:Nat}(d:nh b c){i:Nat}(e:i<64):∃a:Int,b.cell? ⟨c,8+i,none⟩=some (.int .u8 a):=by have⟨k,f,_,_,g,_⟩:=d;have⟨a,j⟩:=g i e;exact⟨a,kA f _ _ j⟩
def nh.PO{c}{b:Nat}(f:nh c b):∃d:Int,0<=d/\c.cell? ⟨b,72,none⟩=some (.int .u64 d)/\c.frozen? ⟨b,72,none⟩=false/\∀a:Int,0<=a->nh (c.setCell ⟨b,72,none⟩<|.int .u64 a) b:=by have⟨g,e,i,j,k,d,l,m⟩:=f;exact⟨d,m,kA e _ _ l,kx e 72,λa n=>⟨g.setIfInBounds 72<|.int .u64 a,kr e,by simpa using i,j.set 72 a<|.inr<|.inl Y,k.set 72 a<|.inr<|.inl Y,a,by rw[SI Y],n⟩⟩
def KD(a:Nat):pd .u32 (Array.replicate a<|.int .u32 0) 0 a:=λc b=>⟨0,by simp[b]⟩
def Fq(c:RW)(a:Nat)(d:Ending)(b:RW):Prop:=d=.returned (.tuple #[])/\c.grownBy b (some a)/\nh b a
def mE.to{T w w'}{b a:Nat}(c:mE T w b a)(d:Below w w w'):mE T w' b a:=c.kv<|d.B b c.lt
abbrev nF:=(λa b=>∃c:Int,a=.int .u32 c:Go.Value->Go.World->Prop)
def nh.Ns{c}{b:Nat}(g:nh c b):∃(a:Int) (d:Nat),0<=a/\d<64/\a % 64=(d:Int)/\a.tmod 64=(d:Int)/\c.cell? ⟨b,72,none⟩=some (.int .u64 a)/\c.frozen? ⟨b,72,none⟩=false/\∀e:Int,0<=e->nh (c.setCell ⟨b,72,none⟩<|.int .u64 e) b:=by have⟨a,f,i,j,k⟩:=g.PO;refine⟨a,(a % 64).toNat,f,Y,Y,?_,i,j,k⟩;rw[Ta f];omega
def nh.Nt{a}{b:Nat}(e:nh a b):∃c:Int,a.cell? ⟨b,72,none⟩=some (.int .u64 c)/\a.frozen? ⟨b,72,none⟩=false/\∀d:Int,0<=d->nh (a.setCell ⟨b,72,none⟩<|.int .u64 d) b:=by have⟨c,j,f,g,i⟩:=e.PO;exact⟨c,f,g,i⟩
def oa.arr(a:Ev):Nat:=if a.kind=7 then(if a.d=4 then 4 else if a.d=5 then 5 else if a.d=6 then 6 else 7)else a.kind
def oa.uz(b:Nm)(a:Ev):Bool:=qs b a.comp a.hd&&decide (a.args.length<=4)
def oa.fits(b:Nm)(a:Ev):Bool:=
 match arr a with
 |1=>decide (a.comp=b.kH.length)&&(CV b a.peer&&(decide (a.d=0)||decide (a.d=1)))
 |2=>ot b a.comp&&(decide (1<=a.d)&&decide (a.d<=3))
 |3=>ot b a.comp
 |4=>uz b a
 |5=>uz b a&&(ot b a.peer&&(decide (a.copy=0)||decide (a.copy=1)))
 |6=>uz b a
 |8=>ot b a.comp&&(qs b a.peer a.hd&&decide (a.args.length<=4))
 |9=>uz b a&&decide (0<=a.d)
 |10=>ot b a.comp&&((decide (a.peer=0)||decide (a.peer=1))&&((decide (a.copy=0)||decide (a.copy=1))&&decide (a.args.length=if a.peer=1/\a.copy=1 then 1 else 2)))
 |11=>qs b a.comp a.hd
 |_=>false
def oa.qb(a:Ev):RK:=
 (if a.peer=1 then [102,101,116,99,104,32]else [115,116,111,114,101,32])++(Lib.itoa a.n++([58,32]++(Lib.itoa (a.args[0]?.getD 0)++((if a.args.length=2 then [32,61,32]++Lib.itoa (a.args[1]?.getD 0)else [])++(if a.copy=1 then [32,102,97,105,108,115]else [])))))
def oa.told(b:Nm)(a:Ev):RK:=
 match arr a with
 |1=>[102,108,97,103,32]++(fN b a.peer++([32,61,32]++((if a.d=1 then [116,114,117,101]else [102,97,108,115,101])++([32,40,99,104,111,105,99,101,32]++(Lib.itoa a.n++[41])))))
 |2=>[100,101,112,108,111,121,32,118,101,114,115,105,111,110,32]++(Lib.itoa a.d++([32,40,99,104,111,105,99,101,32]++(Lib.itoa a.n++[41])))
 |3=>[99,114,97,115,104,32,40,99,104,111,105,99,101,32]++(Lib.itoa a.n++[41])
 |4=>[114,101,113,117,101,115,116,32]++(Lib.itoa a.n++([32]++oX (hN b a.comp a.hd) a.args))
 |5=>[109,101,115,115,97,103,101,32]++(Lib.itoa a.n++([32,102,114,111,109,32]++(cN b a.peer++([32]++((if a.copy=1 then [97,103,97,105,110,32]else [])++oX (hN b a.comp a.hd) a.args)))))
 |6=>[116,105,109,101,114,32]++(Lib.itoa a.n++([32]++oX (hN b a.comp a.hd) a.args))
 |8=>[115,101,110,100,115,32,109,101,115,115,97,103,101,32]++(Lib.itoa a.n++([32,116,111,32]++(cN b a.peer++([32]++oX (hN b a.peer a.hd) a.args))))
 |9=>[115,101,116,115,32,116,105,109,101,114,32]++(Lib.itoa a.n++([32]++(oX (hN b a.comp a.hd) a.args++([32,100,117,101,32,97,116,32,116]++Lib.itoa a.d))))
 |10=>qb a
 |_=>[102,97,117,108,116,32,105,110,32]++hN b a.comp a.hd
def KJ(b:RK)(a:RW)(c:Ending)(d:RW):Prop:=(∃(e:RE) (f g:Nat) (i:RE) (j k:Nat),c=.returned (.agg #[tx b,(e,f,g),(i,j,k)]))/\Below a a d
def CF(a b c d):(Instr.field 112 (.agg #[b,c,d]) 0).run prog a=.ok b a:=Up
def KL(b:RK)(a:RW)(c:Ending)(d:RW):Prop:=(∃(e:Bool),c=.returned (.agg #[tx b,e]))/\Below a a d
def CG(a b c):(Instr.field 107 (.agg #[b,c]) 0).run prog a=.ok b a:=Up
abbrev Hk(a:Ev)(b:RE)(c d:Nat):Array R0:=#[.int .i64 a.tick,.int .i64 a.comp,.int .u8 (a.kind:Nat),.int .i64 a.peer,.int .i64 a.n,.int .i64 a.copy,.int .i64 a.hd,.int .i64 a.d,(b,c,d)]
def pR(b:Int)(a):Calls prog 183 #[.int .i64 b] a λc d=>c=.returned (.bool false)/\d=a:=by
 go_enter func183,ntmps183
 go_wp2;go_ret;exact⟨Uo,Z⟩
def vy(a b:Int)(d):Calls prog 131 #[.int .i64 a,b] d λc j=>c=.returned (.int .i64<|Lib.compareInt a b)/\j=d:=by
 unfold Lib.compareInt;by_cases f:a<b
 .rw[RB f]
  go_enter func131,ntmps131
  go_wp21;apply(pR a d).M;rintro c e ⟨rfl,rfl⟩;go_wp21;apply(pR b e).M;rintro c g ⟨rfl,rfl⟩;go_wp21;go_ret;exact⟨Z,Z⟩
 by_cases i:b<a
 .rw[Rh f,RB i]
  go_enter func131,ntmps131
  go_wp21;apply(pR a d).M;rintro c e ⟨rfl,rfl⟩;go_wp21;apply(pR b e).M;rintro c g ⟨rfl,rfl⟩;go_wp21;go_ret;exact⟨Z,Z⟩
 rw[Rh f,Rh i]
 go_enter func131,ntmps131
 go_wp21;apply(pR a d).M;rintro c e ⟨rfl,rfl⟩;go_wp21;apply(pR b e).M;rintro c g ⟨rfl,rfl⟩;go_wp21;go_ret;exact⟨Z,Z⟩
def yI:List Int->Int
 |[]=>0
 |x::l=>if x=0 then yI l else x
def BP:∀{a:List Int},yI a=0↔∀x∈a,x=0
 |[]=>by simp[yI]
 |x::a=>by
  unfold yI;split
  rename_i b
  rw[BP];simp[b]
  rename_i b
  simp[b]
def xm:∀{a:List Int} {b:Nat},(∀c x,c<b->a[c]?=some x->x=0)->yI a=yI (a.drop b)
 |[],b,_=>by simp
 |x::a,0,_=>rfl
 |x::a,b+1,h=>by have d:=h 0 x Y Z;subst d;rw[show yI (0::a)=yI a from by simp[yI]];exact xm λc e g f=>h (c+1) e Y (by simpa using f)
def Mv(k c:Nat)(d f)(q:d.length=c)(A:c<=1000)(r:∀a b,d[a]?=some b->f.cell? (sa k a)=some (.int .i64 b))(B:k<f.heap.size):
  Calls prog 128 #[.slice k c c] f λw x=>w=.returned (.int .i64<|yI d)/\x=f:=by
 have y:=X r;have j:=X q;clear r q
 go_enter func128,ntmps128
 go_wp21;go_loopw [8] (λl wr=>∃a:Nat,a<=c/\l=a/\(∀e b,e<a->d[e]?=some b->b=0)/\f=wr) (λl _=>c-(intOf l).toNat)
 .exact⟨0,QZ _,Z,λe b C=>Y,Z⟩
 obtain⟨a,D,rfl,s,rfl⟩:=hrel;have m:=X s;clear s;by_cases E:a<c
 .obtain⟨b,n⟩:∃b,d[a]?=some b:=Gx<|W j.o;have F:=y.o a b n;have t:=X n;obtain⟨G,I⟩:=nL a c;clear n;by_cases u:b=0
  .subst u;go_wp21;go_roundw
   .exact⟨a+1,Y,Ur,λe z J g=>by rcases SP e a with v|v;exact m.o e z v g;obtain rfl:e=a:=Y;rw[t.o]at g;injection g with g;exact g.symm,trivial⟩
   simp[intOf];omega
  have i:yI d=b:=by rw[xm m.o];have:=t.o;rw[SD<|W j.o];rw[Q6<|W j.o]at this;injection this with this;rw[this];simp[yI,u]
  have p:=X i;clear i;go_wp21;go_ret;exact⟨by rw[p.o];rfl,Z⟩
 obtain rfl:c=a:=Y;have i:yI d=0:=(by rw[xm m.o,S1<|W j.o];rfl);have p:=X i;clear i;go_wp21;go_ret;exact⟨by rw[p.o];rfl,Z⟩
def AH{xs ys:List Int}{k:Nat}{a:Int}(b:xs.take k=ys.take k)(c:xs[k]?=some a)(d:ys[k]?=some a):xs.take (k+1)=ys.take (k+1):=by rw[Rz,Rz,b,c,d]
def I0(C D e E)(b F:Nat)(G)(c I:Nat)(xs ys)(t:kz lL C e (.slice E b F) xs)(u:kz lL D e (.slice G c I) ys)(R:∀m,C m->m<e)(S:∀m,D m->m<e)(ai:b<=9223372036854775807)(aj:c<=9223372036854775807):
  Calls prog 132 #[.slice E b F,.slice G c I] e λv T=>v=.returned (.int .i64<|cmpL xs ys)/\T=e:=by
 have U:=X t;have V:=X u;have j:=X t.len;have n:=X u.len;clear t u
 go_enter func132,ntmps132
 go_wp21;go_loopw [11] (λw wr=>∃k:Nat,k<=b/\w=k/\k<=c/\xs.take k=ys.take k/\e=wr) (λw _=>b-(intOf w).toNat)
 .exact⟨0,QZ _,Z,QZ _,Z,Z⟩
 obtain⟨k,ak,rfl,al,J,rfl⟩:=hrel;have K:=X J;clear J;have f:=zn (xs:=xs) (ys:=ys) (k:=k) (W j.o.1) K.o;by_cases am:k<b
 .obtain⟨a,x⟩:∃a,xs[k]?=some a:=Gx<|W j.o.1;obtain⟨aa,an,y,rfl,L,p,q⟩:=U.o.ll lL.ok k a x;have z:y=[.int .i64 a]:=p;subst z;have ab:=q 0 _ Z;rw[Q1,Ry]at ab;have ao:=R aa L;obtain⟨ap,aq⟩:=nL k b;have M:=X x;clear p q L x;by_cases ac:k<c
  .obtain⟨d,A⟩:∃d,ys[k]?=some d:=Gx<|W n.o.1;obtain⟨ad,ar,y,rfl,N,p,q⟩:=V.o.ll lL.ok k d A;have z:y=[.int .i64 d]:=p;subst z;have ae:=q 0 _ Z;rw[Q1,Ry]at ae;have au:=S ad N;have av:(k:Int)<(c:Int):=Y;have aw:¬(c:Int)<=(k:Int):=Y;have O:=X A;clear p q N A;have i:=X (show cmpL xs ys=if Lib.compareInt a d=0 then cmpL (xs.drop<|k+1) (ys.drop<|k+1)else Lib.compareInt a d by rw[f];have r:=M.o;have s:=O.o;rw[SD<|W j.o.1,SD (l:=ys)<|W n.o.1];rw[Q6<|W j.o.1]at r;rw[Q6<|W n.o.1]at s;injection r with r;injection s with s;rw[r,s,cmpL])
   clear f;by_cases g:Lib.compareInt a d=0
   .have af:=rB.1 g;subst af;go_wp21;apply(vy a a e).M;rintro v ag ⟨rfl,rfl⟩;rw[g];go_wp21;go_roundw
    .exact⟨k+1,Y,Ur,Y,AH K.o M.o O.o,trivial⟩
    simp[intOf];omega
   have B:=i.o;rw[Rh g]at B;have ah:=X B;clear B;have ax:(Lib.compareInt a d !=0)=true:=(by simp[g]);go_wp21;apply(vy a d e).M;rintro v ag ⟨rfl,rfl⟩;generalize Lib.compareInt a d=ay at*;go_wp21;go_ret;exact⟨by rw[ah.o];rfl,Z⟩
  obtain rfl:c=k:=Y;have i:=X (show cmpL xs ys=1 by rw[f,S1 (l:=ys)<|W n.o.1,SD<|W j.o.1];rfl)
  clear f;go_wp21;go_ret;exact⟨by rw[i.o];rfl,Z⟩
 obtain rfl:b=k:=Y;have P:=j.o.1;have Q:=n.o.1;have g:xs.drop b=[]:=S1 Y;rw[g]at f;by_cases ac:b<c
 .have i:=X (show cmpL xs ys= -1 by rw[f,SD Y];rfl)
  clear f g P Q;go_wp21;go_ret;exact⟨by rw[i.o];rfl,Z⟩
 have i:=X (show cmpL xs ys=0 by rw[f,S1 Y];rfl)
 clear f g P Q;have az:¬(b:Int)<(c:Int):=Y;go_wp21;go_ret;exact⟨by rw[i.o];rfl,Z⟩
def HL{a b}(c:a=b):tx a=tx b:=RH tx c
def xi{l b a}(h:a∈qQ l b):a∈l\/a=b:=by unfold qQ at h;split at h;exact .inl h;rcases SG.1 h with h|h;exact .inl h;exact .inr (by simpa using h)
def xO{c:RK->Prop}:∀{b:List Hd} {l:List RK},(∀d∈l,c d)->(∀h∈b,c h.name)->∀a∈na l b,c a
 |[],l,hl,_,a,hy=>hl a hy
 |h::b,l,hl,hh,a,hy=>by have f:a∈na (qQ l h.name) b:=hy;refine xO (l:=qQ l h.name) (λd e=>?_) (λg i=>hh g<|SV _ i) a f;rcases xi e with e|rfl;exact hl d e;exact hh h<|Sq ..
def xP{P:RK->Prop}:∀{b:List<|List Hd} {l:List RK},(∀c∈l,P c)->(∀hs∈b,∀d∈hs,P d.name)->∀a∈lO l b,P a
 |[],l,hl,_,a,hy=>hl a hy
 |hs::b,l,hl,hh,a,hy=>by have e:a∈lO (na l hs) b:=hy;exact xP (l:=na l hs) (λc f=>xO hl (hh hs<|Sq ..) c f) (λg i=>hh g<|SV _ i) a e
def xn{P:RK->Prop}{a:List RK}(d:P [])(e:∀b∈a,P b)(c:Nat):P<|a[c]?.getD []:=by
 cases hx:a[c]? with
 |none=>exact d
 |some b=>exact e b<|QS hx
def rP{c:Nm}{a:Ev}(b:fits c a=true):arr a=1\/arr a=2\/arr a=3\/(arr a=4/\a.args.length<=4)\/(arr a=5/\a.args.length<=4)\/(arr a=6/\a.args.length<=4)\/(arr a=8/\a.args.length<=4)\/(arr a=9/\a.args.length<=4)\/(arr a=10/\1<=a.args.length/\a.args.length<=2)\/arr a=11:=by unfold fits at b;split at b<;>simp_all [uz];split<;>omega
def GK{a:Ev}(d:oP a.n)(e:∀b∈a.args,oP b):(qb a).length<=100:=by
 have g:=RT a.n d.1 d.2;have f:∀c:Nat,(Lib.itoa<|a.args[c]?.getD 0).length<=21:=λc=>by
  cases hx:a.args[c]? with
  |none=>exact RT _ Un Un
  |some b=>exact RT _ (e b<|QS hx).1 (e b<|QS hx).2
 have i:=f 0;have j:=f 1;unfold qb;simp only[Q3,Rl,Rp];split<;>split<;>split<;>simp only[Q3,Rl,Rp]<;>omega
def qR.py{a:Type}(T:lj)(b:RK)(c:Nat->Option (a×Nat)):Nat->Nat->Option (List a×Nat)
 |0,_=>none
 |k+1,p=>if ow T p=b then
   match c (p+1)with
   |none=>none
   |some (x,q)=>match py T b c k q with
    |some (l,r)=>some (x::l,r)
    |none=>none
  else some ([],p)
def zu{w:RW}{g i d e b c:Nat}{f:List R0}(k:w.ownsRow g i d (e,b,c) b f):∃t:List R0,w.heap[e]?=some (.cells (f++t).toArray i (0,0))/\b<=c/\c<=maxLen/\(f++t).length=c*d/\g<=e:=by
 rcases k.2 with⟨a,_⟩|⟨u,v,l,a,m,n,p,q,r,j⟩
 cases a;injection a with a _ s;injection a with a;injection a with a;subst a s;refine⟨l.toList.drop<|b*d,?_,p,q,?_,m⟩;rw[<-j,SA];exact n;rw[<-j,SA];simpa using r
def Fw{w}{i f a d c g:Nat}{e m r}(p:w.ownsRow i f a (d,c+1,g) (c+1)<|e++m)(j:e.length=c*a)(z:m.length=a)(q:r.length=a):(kZ w d (c*a) r).ownsRow i f a (d,c+1,g) (c+1)<|e++r:=by
 have⟨t,s,u,v,x,y⟩:=zu p;have k:=qK (b:=d) (T:=f) (t:=t) (r:=r) (m:=m) (l:=e) (w:=w) Y (by rw[<-Ru];exact s);rw[j]at k;have n:(e++r).length=(c+1)*a:=by rw[Q3,j,q,SZ];omega
 refine⟨n,.inr ⟨d,g,_,Z,y,k,u,v,?_,?_⟩⟩;rw[<-x];simp only[R6,Q3];omega;simp only[<-Ru];rw[<-n];exact List.take_left
def I8{b:RW}{j k l c e m:Nat}{f:List R0}(n:b.ownsRow j k l (.slice c e m) e f)(a:Nat)(d:R0)(g:f[a]?=some d):b.cell? (sa c a)=some d/\b.frozen? ⟨c,a,none⟩=false:=by have⟨p,i,_⟩:=zu n;refine⟨kA i a d ?_,kx i a⟩;rw[Sa,RP (Q9.1 g).1];exact g
def AY(x:Ex):List R0:=[.int .u8 x.op,tx x.name,.int .i64 x.n,Nl]
def tV(a:List Ex):List R0:=a.flatMap AY
def BV(a):(tV a).length=a.length*4:=by
 induction a with
 |nil=>rfl
 |cons c a b=>simp only[tV,List.flatMap_cons,Q3,Rl]at*;rw[b];simp[AY];omega
def zv(a b):tV (a++[b])=tV a++AY b:=by simp[tV]
def mh.kv{T:lj}{vQ:PV}{w w'}{pb pos:Nat}(a:mh T vQ w pb pos)(f:w.heap.size<=w'.heap.size)(d:∀q,q<vQ.lo->w'.heap[q]?=w.heap[q]?):mh T vQ w' pb pos:=by have⟨b,g,i,j,k,l,e,m⟩:=a.ll;refine⟨⟨b,g,i,(d pb a.low.1).T j,k,l,e,λn p r=>?_⟩,a.small,a.low.1,QT a.low.2 f⟩;have⟨s,t,u⟩:=m n p r;have c:=d b e;exact⟨(Cb b _ c).T s,(Cb b _ c).T t,(Cb b _ c).T u⟩
structure qx(a b:RW)(p q:Nat):Prop where
 os:b.os=a.os
 tape:b.tape=a.tape
 output:b.output=a.output
 size:a.heap.size<=b
 B:∀z,z<a.heap.size->z≠p->z≠q->b.heap[z]?=a.heap[z]?
def qx.refl(a)(p q:Nat):qx a a p q:=⟨Z,Z,Z,QX _,λ_ _ _ _=>Z⟩
def qx.grown{d b e}{p q:Nat}(a:qx d b p q)(c:b.grownBy e<|some p):qx d e p q:=
 ⟨c.os.T a.os,c.tape.T a.tape,c.output.T a.output,QT a.size c.size,λf g i j=>(c.B f (QO g a.size) λk=>i<|by injection k).T<|a.B f g i j⟩
def qx.wZ{d e f}{g c:Nat}(a:qx d e g c)(b:e.grownBy f<|some c):qx d f g c:=
 ⟨b.os.T a.os,b.tape.T a.tape,b.output.T a.output,QT a.size b.size,λi j l k=>(b.B i (QO j a.size) λm=>k<|by injection m).T<|a.B i j l k⟩
def qx.lK{d b e}{p q:Nat}{r}(a:qx d b p q)(c:b.grownBy e r)(g:∀z,r=some z->d<=z):qx d e p q:=
 ⟨c.os.T a.os,c.tape.T a.tape,c.output.T a.output,QT a.size c.size,λz f i j=>(c.B z (QO f a.size) λk=>W<|g z k.symm).T<|a.B z f i j⟩
structure Hl(wA:RW)(pb bp sb:Nat)(k:Int)(nm hd:RK)(xs:List Ex)(v:R0)(w:RW):Prop where
 bx:w.heap[bp]?=some (.cells #[.pointer pb] 146)
 ex:w.heap[sb]?=some (.cells #[.int .u8 k,tx nm,tx hd,v,Nl,Nl] 198)
 own:w.ownsRow wA 203 4 v xs.length<|tV xs
 g:qx wA w pb sb
 lt:pb<bp/\pb<sb/\bp<wA/\sb<wA/\bp≠sb/\wA.heap.size<=w
def C4(a:RW)(pb b c:Nat)(d:Int)(e f:RK)(g:List Ex)(i:RW):Prop:=∃j,Hl a pb b c d e f g j i
def pE{c:RW}{d f g i:Nat}{e:R0}{j:List R0}(k:c.ownsRow d f g e i j)(a:Nat)(b:e.ownBlock=some a):d<=a/\a<c:=by
 rcases k.2 with⟨rfl,_⟩|⟨n,p,q,rfl,l,m,_⟩
 cases b;simp only[Value.ownBlock,Tn]at b;subst b;exact⟨l,(QP.1 m).1⟩
def BW{d e:RW}{b a f g i:Nat}{c:R0}{j:List R0}(k:d.ownsRow b a f c g j)(l:d.grownBy e<|some i)(m:i<b):e.ownsRow b a f c g j:=by
 refine k.kept l ?_;cases hv:c.ownBlock with
 |none=>exact .inl Z
 |some z=>exact .inr λa=>by injection a with a;have:=(pE k z hv).1;omega
def Hl.kv{e}{pb bp c:Nat}{k:Int}{f hd g v w w'}(a:Hl e pb bp c k f hd g v w)(b:w.grownBy w'<|some pb):Hl e pb bp c k f hd g v w':=by have⟨i,j,l,m,n,p⟩:=a.lt;exact⟨(b.B bp Y λd=>by injection d;omega).T a.bx,(b.B c Y λd=>by injection d;omega).T a.ex,BW a.own b Y,a.g.grown b,i,j,l,m,n,QT p b.size⟩
def C4.kv{b}{pb bp c:Nat}{k:Int}{d hd e w w'}(a:C4 b pb bp c k d hd e w)(f:w.grownBy w'<|some pb):C4 b pb bp c k d hd e w':=by have⟨g,a⟩:=a;exact⟨g,a.kv f⟩
def wV(b:lj)(vQ:PV)(c:RW)(pb d e f:Nat)(g:Int)(i j:RK)(k:List Ex)(a:RW):Prop:=mh b vQ a pb d/\C4 c pb e f g i j k a
def Fy(b)(a o:Nat)(c d e f):kZ b a o [c,d,e,f]=(((b.setCell (sa a o) c).setCell ⟨a,o+1,none⟩ d).setCell ⟨a,o+2,none⟩ e).setCell ⟨a,o+3,none⟩ f:=rfl
def Ln{j d e}{pb k a:Nat}{f:Int}{g i l b}(c:Hl j pb k a f g i l b d)(m:d.grownBy e b.ownBlock):e.heap[a]?=some (.cells #[.int .u8 f,tx g,tx i,b,Nl,Nl] 198):=by have⟨p,q,r,s,t,u⟩:=c.lt;exact(m.B a Y λn=>W<|(pE c.own a n.symm).1).T c.ex
def Ie{b:RW}{j c a k:Nat}{g:List Ex}(l:g.length=a){e:Ex}(m:b.ownsRow j 203 4 (c,a+1,k) (a+1)<|tV g++AY e):(b.cell? ⟨c,a*4,none⟩=some (.int .u8 e.op)/\b.cell? ⟨c,a*4+1,none⟩=some (tx e.name)/\b.cell? ⟨c,a*4+2,none⟩=some (.int .i64 e.n)/\b.cell? ⟨c,a*4+3,none⟩=some Nl)/\b.frozen? ⟨c,a*4,none⟩=false/\b.frozen? ⟨c,a*4+1,none⟩=false/\b.frozen? ⟨c,a*4+2,none⟩=false/\b.frozen? ⟨c,a*4+3,none⟩=false:=by
 have n:(tV g).length=a*4:=by rw[BV,l]
 have d:∀f i,(AY e)[f]?=some i->b.cell? ⟨c,a*4+f,none⟩=some i/\b.frozen? ⟨c,a*4+f,none⟩=false:=λf i p=>I8 m _ _ (by rw[RS Y,n,Nat.add_sub_cancel_left];exact p);exact⟨⟨(d 0 _ Z).1,(d 1 _ Z).1,(d 2 _ Z).1,(d 3 _ Z).1⟩,(d 0 _ Z).2,(d 1 _ Z).2,(d 2 _ Z).2,(d 3 _ Z).2⟩
def Od:Ex:=.mk 0 [] 0 []
def My:(prog.info? 203).map (λa=>(a.zero,a.size,a.bytes))=some (some<|.agg lE,4,56):=Up
def Mz{d}{f:Nat}{v a}(l:d.ownsRow f 203 4 v a.length<|tV a)(m:∀c∈a,c.args=[]):kz (kP .u8 De) (λg=>f<=g/\g<d.heap.size) d v a:=by
 have n:∀(i:Nat->Prop) (b:List Ex),(∀c∈b,c.args=[])->ly (kP .u8 De i d) (b.map AY) b:=λi b=>by
  induction b with
  |nil=>exact λ_=>trivial
  |cons c b p=>exact λj=>⟨⟨_,Z,by rw[j c Uo];exact kz.nil _ _ _⟩,p λq r=>j q<|by simp[r]⟩
 have s:(a.map AY).flatten=tV a:=Z;rcases l.2 with⟨rfl,t⟩|⟨u,w,B,rfl,x,k,y,z,C,A⟩
 obtain rfl:=RI t;exact kz.nil _ _ _;refine⟨_,w,a.map AY,Z,y,by unfold maxLen at z;omega,λ_=>⟨u,0,Z,⟨x,(QP.1 k).1⟩,λD E e=>?_⟩,n _ a m⟩;rw[s,<-A,Sd]at e;split at e;rw[Q7];simp only[World.cell?,k];simpa using e;cases e
def MA(T:lj)(f:PV)(g i:Nat)(a:St)(b:RW)(j:Ending)(w':RW):Prop:=∃(c:RE) (d:Nat),j=.returned (.agg #[.int .u8 a.kind,tx a.name,tx a.hd,(c,a.lp.length,d),Nl,Nl])/\kz (kP .u8 De) (λe=>b<=e/\e<w') w' (c,a.lp.length,d) a.lp/\lN T f b g i w'
def bind_some{b c:Type}{o:Option b}{d:b->Option c}{e:c}(f:(o>>=d)=some e):∃a,o=some a/\d a=some e:=by
 cases o with
 |none=>cases f
 |some a=>exact⟨a,Z,f⟩
def Hl.yv{c w}{d e b:Nat}{f:Int}{g j k v}(a:Hl c d e b f g j k v w)(i:Nat)(u){k':Int}{nm' hd'}(n:(#[.int .u8 f,tx g,tx j,v,Nl,Nl]:Array R0).setIfInBounds i u=#[.int .u8 k',tx nm',tx hd',v,Nl,Nl]):Hl c d e b k' nm' hd' k v<|w.setCell (sa b i) u:=by
 have⟨p,q,r,s,l,t⟩:=a.lt;refine⟨(Q0 _ _ _ _ l).T a.bx,by rw[<-n];exact kr a.ex,?_,a.g.wZ<|kE _ _ _ _,p,q,r,s,l,by rw[QU];exact t⟩;refine a.own.kept (kE _ _ _ _) ?_;cases hv:v.ownBlock with
 |none=>exact .inl Z
 |some z=>exact .inr λm=>by injection m with m;have:=(pE a.own z hv).1;omega
def lN.lK{T:lj}{vQ:PV}{w f g}{i p:Nat}{r}(a:lN T vQ w i p f)(l:vQ.lo<=w)(b:f.grownBy g r)(j:∀z,r=some z->w<=z):lN T vQ w i p g:=
 ⟨a.1.kv b.size λc d=>b.B c (W a.2.size) λe=>W<|j c e.symm,⟨b.os.T a.2.os,b.tape.T a.2.tape,b.output.T a.2.output,QT a.2.size b.size,λc d k=>(b.B c (QO d a.2.size) λe=>W<|j c e.symm).T<|a.2.B c d k⟩⟩
def MB:(prog.info? 198).map (λa=>(a.zero,a.size,a.bytes))=some (some<|.agg oR,6,112):=Up
def MC(T:lj)(g:PV)(i j:Nat)(a:List St)(c:RW)(k:Ending)(b:RW):Prop:=∃(d:RE) (e:Nat),k=.returned (d,a.length,e)/\kz (kR .u8 Ds) (λf=>c<=f/\f<b) b (d,a.length,e) a/\lN T g c i j b
structure Na(wA:RW)(pb bp sb:Nat)(nm:RK)(ps:List RK)(v:R0)(w:RW):Prop where
 bx:w.heap[bp]?=some (.cells #[.pointer pb] 146)
 ex:w.heap[sb]?=some (.cells #[tx nm,v,Nl] 125)
 own:w.ownsRow wA 9 1 v ps.length<|ps.map tx
 g:qx wA w pb sb
 lt:pb<bp/\pb<sb/\bp<wA/\sb<wA/\bp≠sb/\wA.heap.size<=w
def JQ(a:RW)(b c d:Nat)(e:RK)(f:List RK)(g:RW):Prop:=∃i,Na a b c d e f i g
def Na.kv{e}{pb bp c:Nat}{f g v w w'}(a:Na e pb bp c f g v w)(b:w.grownBy w'<|some pb):Na e pb bp c f g v w':=by have⟨i,j,k,l,m,n⟩:=a.lt;exact⟨(b.B bp Y λd=>by injection d;omega).T a.bx,(b.B c Y λd=>by injection d;omega).T a.ex,BW a.own b Y,a.g.grown b,i,j,k,l,m,QT n b.size⟩
def MD:(prog.info? 9).map (λa=>(a.zero,a.size,a.bytes))=some (some Em,1,16):=Up
def ME{s:lj}{n:PV}{f m c}{i a p b e d j:Nat}{t k u}{x:RK}(L:n.lo<=b)(C:mh s n m i a)(g:Na f i p b t k u m)(q:m.grownBy c u.ownBlock)(D:k.length=d)
  (v:c.ownsRow f 9 1 (e,d+1,j) (d+1)<|k.map tx++[tx x]):
  mh s n (c.setCell (sd b) (e,d+1,j)) i a/\JQ f i p b t (k++[x]) (c.setCell (sd b) (e,d+1,j)):=by
 have⟨E,F,w,y,z,M⟩:=g.lt;have N:f<=e:=(pE v e Z).1;have G:=q.size;have r:∀a,a<f.heap.size->c.heap[a]?=m.heap[a]?:=λa A=>q.B a Y λl=>W<|(pE g.own a l.symm).1;have B:∀(a:Nat),a≠b->(c.setCell (sd b) (e,d+1,j)).heap[a]?=c.heap[a]?:=λa A=>Q0 _ _ _ _ A;have I:(k++[x]).length=d+1:=by rw[Q3,D];rfl
 have J:qx f c i b:=g.g.lK q λK l=>(pE g.own K l).1;refine⟨C.kv (by rw[QU];exact G) (λa O=>by rw[B _ Y];exact r a Y),.slice e (d+1) j,?_,?_,?_,?_,E,F,w,y,z,?_⟩
 .rw[B _ z];exact(r p w).T g.bx
 .exact kr<|(r b y).T g.ex
 .rw[I,List.map_append];exact v.kept (kE _ _ _ _) (.inr λl=>by simp[Value.ownBlock]at l;omega)
 .exact J.wZ<|kE _ _ _ _
 .rw[QU];omega
def qR.zA{n:Type}{T:lj}{c}{d:Nat->Option (n×Nat)}{e b i:Nat}{j:List n}(a:py T c d e b=some (j,i)):(ow T b≠c/\j=[]/\i=b)\/(ow T b=c/\∃p f g q,d (b+1)=some (p,f)/\j=p::g/\py T c d q f=some (g,i)):=by
 cases e with
 |zero=>cases a
 |succ e=>
  unfold py at a;split at a
  rename_i k
  cases hs:d (b+1)with
  |none=>rw[hs]at a;cases a
  |some y=>
   have⟨r,f⟩:=y;rw[hs]at a;simp only at a;cases hr:py T c d e f with
   |none=>rw[hr]at a;cases a
   |some z=>have⟨g,s⟩:=z;rw[hr]at a;injection a with a;injection a with l m;subst l m;exact .inr ⟨k,r,f,g,e,Z,Z,hr⟩
  rename_i k
  injection a with a;injection a with l m;exact .inl ⟨k,l.symm,m.symm⟩
def MF:(prog.info? 125).map (λi=>(i.zero,i.size,i.bytes))=some (some<|.agg #[Em,Nl,Nl],3,64):=Up
def KT{d}{g:Nat}{v c}(l:d.ownsRow g 9 1 v c.length<|c.map tx):kz kM (λi=>g<=i/\i<d.heap.size) d v c:=by
 have m:∀(j:Nat->Prop) (a:List RK),ly (kM j d) (a.map λb=>[tx b]) a:=λj a=>by
  induction a with
  |nil=>trivial
  |cons b a f=>exact⟨Z,f⟩
 have n:∀a:List RK,(a.map λb=>[tx b]).flatten=a.map tx:=λa=>by
  induction a with
  |nil=>rfl
  |cons b a f=>rw[Rq,R5,f];rfl
 have p:=n c;rcases l.2 with⟨rfl,q⟩|⟨r,s,y,rfl,t,k,u,w,z,x⟩
 obtain rfl:=RI q;exact kz.nil _ _ _;refine⟨_,s,c.map λb=>[tx b],Z,u,by unfold maxLen at w;omega,λ_=>⟨r,0,Z,⟨t,(QP.1 k).1⟩,λA B e=>?_⟩,m _ c⟩;rw[p,<-x,Sd]at e;split at e;rw[Q7];simp only[World.cell?,k];simpa using e;cases e
def xa{c d e:RW}{f:Option Nat}{z:Nat}(a:c.grownBy d f)(b:d.grownBy e<|some z)(l:c<=z):c.grownBy e f:=
 ⟨b.os.T a.os,b.tape.T a.tape,b.output.T a.output,QT a.size b.size,λg i k=>(b.B g (QO i a.size) λj=>by injection j with j;omega).T<|a.B g i k⟩
def MG(T:lj)(g:PV)(i j:Nat)(a:List Hd)(c:RW)(k:Ending)(b:RW):Prop:=∃(d:RE) (e:Nat),k=.returned (.agg #[(d,a.length,e)])/\kz (mA .u8) (λf=>c<=f/\f<b) b (d,a.length,e) a/\lN T g c i j b
def rE{P:Program}{n:Type}{x:Array Oper}{o}{a:Act}{y:Act->RW->Prop}{D:Exit->Act->RW->Prop}{E:Prop}(w:RW)(F:o.guard=none)(A B:Operand)(f:TypeId)
  (G:o.op=.call {callee:=.builtin .append,args:=#[A,B],argTypes:=#[f,f]})
  (g:Nat) (d:TypeId) (i:TypeInfo) (z:R0) (b p:Nat) (I:P.underlying f=some (.slice d)) (J:P.info? d=some i) (K:i.zero=some z)
  (L:i.size=b) (M:i.bytes=p) (N:z.cells.size=b)
  {j:Rel n} (ok:lh j b) (k:Nat->Prop) (e:R0) (c:List n) (O:a.eval A=e) (Q:kJ j d b k w g e c)
  (q:Addr) (r:List R0) (s:n) (R:a.eval B=.slice (some q) 1 1) (S:∀(C:Nat) (u:R0),r[C]?=some u->w.cell? (q.add C)=some u)
  (T:j (λt=>k t/\t<w/\some t≠e.ownBlock) w r s)
  (U:c.length+1<=maxLen) (V:(c.length+1)*p<=140737488355328) (aa:g<=w) (v:Nat) (ab:c.length=v)
  (ac:∀l m w',kJ j d b k w' g (.slice l (v+1) m) (c++[s])->w.grownBy w' e.ownBlock->y (a.put o.dst<|.slice l (v+1) m) w'):
  if Region.wanted o (yielded x a.tmps)=true then Oper.wp P o a w y D else E:=by
 have ad:Region.wanted o (yielded x a.tmps)=true:=by simp[Region.wanted,F]
 rw[RB ad];subst ab;have⟨l,m,w',ae,af,_,ag,_⟩:=kS (P:=P) (w:=w) g f o.type d i z b p I J K L M N ok k e c Q q r s S T U V aa;unfold Oper.wp execOp;simp only[G,resolve,invoke,builtin,RD,RF,Ro,Rv,Rq,RG,O,R,ae];exact ac l m w' af ag
structure Fr(lo pb:Nat)(w w':RW):Prop where
 os:w'.os=w.os
 tape:w'.tape=w.tape
 output:w'.output=w.output
 size:w.heap.size<=w'
 B:∀q,q<lo->q≠pb->w'.heap[q]?=w.heap[q]?
def Fr.refl(a pb:Nat)(w):Fr a pb w w:=⟨Z,Z,Z,QX _,λ_ _ _=>Z⟩
def Fr.T{lo pb:Nat}{c b d}(a:Fr lo pb c b)(k:Fr lo pb b d):Fr lo pb c d:=⟨k.os.T a.os,k.tape.T a.tape,k.output.T a.output,QT a.size k.size,λe f g=>(k.B e f g).T<|a.B e f g⟩
def Fr.of{b pb:Nat}{c d r}(a:c.grownBy d r)(i:b<=c.heap.size)(f:∀z,r=some z->b<=z\/z=pb):Fr b pb c d:=
 ⟨a.os,a.tape,a.output,a.size,λe j k=>a.B e Y λg=>by rcases f e g.symm with h|h<;>omega⟩
def MH:(prog.info? 107).map (λi=>(i.zero,i.size,i.bytes))=some (some<|.agg #[Em,false],2,24):=Up
def mh.tree{T:lj}{a:PV}{w}{pb pos:Nat}(c:mh T a w pb pos):∃(d:R0) (b:Int),w.heap[pb]?=some (.cells #[d,pos,b,a.v1,a.v2,a.v3,a.v4,.int .i64 0,.int .i64 0] 153):=by have⟨f,g,b,e,_⟩:=c.ll;exact⟨_,b,e⟩
def mh.put{T:lj}{vQ V':PV}{w}{pb pos:Nat}(a:mh T vQ w pb pos)(i:Nat)(u)(d:V'.lo=vQ.lo)(k:∀f c,(#[f,.int .i64 (pos:Int),.int .i64 c,vQ.v1,vQ.v2,vQ.v3,vQ.v4,.int .i64 0,.int .i64 0]:Array R0).setIfInBounds i u=#[f,.int .i64 (pos:Int),.int .i64 c,V'.v1,V'.v2,V'.v3,V'.v4,.int .i64 0,.int .i64 0]):mh T V' (w.setCell (sa pb i) u) pb pos:=by have⟨b,l,c,m,n,g,j,p⟩:=a.ll;refine⟨⟨b,l,c,by rw[<-k];exact kr m,n,g,by rw[d];exact j,λq r s=>?_⟩,a.small,by rw[d];exact a.low.1,by rw[d,QU];exact a.low.2⟩;have⟨t,v,x⟩:=p q r s;have e:=(kE w pb i u).B b (QO j a.low.2) (λy=>g<|by injection y);exact⟨(Cb b _ e).T t,(Cb b _ e).T v,(Cb b _ e).T x⟩
def MI(e:lj)(f:PV)(b g c:Nat)(i:List Fg)(w a:RW):Prop:=∃d,mh e {f with v2:=d} a b g/\kJ mI 107 2 (λ_=>False) a c d i/\Fr c b w a
def MJ:(prog.info? 112).map (λi=>(i.zero,i.size,i.bytes))=some (some<|.agg #[Em,Nl,Nl],3,64):=Up
def MK(d:lj)(e:PV)(b f a:Nat)(g:List Co)(w w':RW):Prop:=∃c,mh d {e with v4:=c} w' b f/\kJ (mr .u8) 112 3 (λi=>a<=i) w' a c g/\Fr a b w w'
def qR.B0{e:Type}{f:lj}{g}{d:Nat->Option (e×Nat)}(i:∀b c m,d b=some (m,c)->b<c):∀{k b c:Nat} {j:List e},py f g d k b=some (j,c)->b<=c
 |0,_,_,_,a=>by cases a
 |k+1,b,c,j,a=>by
  unfold py at a;split at a;cases hs:d (b+1)with
  |none=>rw[hs]at a;cases a
  |some y=>
   have⟨p,n⟩:=y;rw[hs]at a;simp only at a;cases hr:py f g d k n with
   |none=>rw[hr]at a;cases a
   |some z=>have⟨q,r⟩:=z;rw[hr]at a;injection a with a;injection a with _ l;subst l;have:=i _ _ _ hs;have:=B0 i hr;omega
  injection a with a;injection a with _ l;omega
def Pb(T:lj)(b:PV)(pb:Nat)(c:Fl)(d w':RW):Prop:=∃v2 v4,mh T {b with v1:=tx c.name,v2:=v2,v4:=v4} w' pb T.length/\kz mI (λa=>b.lo<=a/\a<w') w' v2 c.kQ/\kz (mr .u8) (λa=>b.lo<=a/\a<w') w' v4 c.kH/\c.ml=[]/\Fr b.lo pb d w'
def J1(T:lj)(d:PV)(pb bp b:Nat)(e:RW)(f:List Fg)(g:Nat)(a:RW):Prop:=a.cell? bp=some (.pointer pb)/\∃c,mh T {d with v2:=c} a pb g/\kJ mI 107 2 (λ_=>False) a b c f/\Fr b pb e a
def J3(T:lj)(d:PV)(pb bp b:Nat)(e:RW)(f:List Co)(g:Nat)(a:RW):Prop:=a.cell? bp=some (.pointer pb)/\∃c,mh T {d with v4:=c} a pb g/\kJ (mr .u8) 112 3 (λi=>b<=i) a b c f/\Fr b pb e a
def J1.ok{T:lj}{vQ:PV}{pb bp lo:Nat}{c}(q:bp<lo/\bp≠pb)(r:vQ.lo<=lo)(s:lo<=c.heap.size)(g)(p:Nat)(w)(d:J1 T vQ pb bp lo c g p w):w.cell? bp=some (.pointer pb)/\∃V',mh T V' w pb p/\∀e w',lN T V' w pb e w'->J1 T vQ pb bp lo c g e w':=by have⟨i,l,j,k,f⟩:=d;have m:=j.low.1;have t:pb<vQ.lo:=m;refine⟨i,_,j,λe w' b=>⟨(Cb bp 0<|b.2.B bp (W f.size) λa=>by injection a with a;omega).T i,l,b.1,k.grown mI.ok b.2 (λn a=>by injection a with a;subst a;exact⟨λd=>d,λa=>W<|(k.ge _ a.symm).1⟩),f.T<|Fr.of b.2 (W f.size) λn a=>.inr<|by injection a with a;exact a.symm⟩⟩
def J3.ok{T:lj}{vQ:PV}{pb bp lo:Nat}{c}(q:bp<lo/\bp≠pb)(r:vQ.lo<=lo)(s:lo<=c.heap.size)(f)(p:Nat)(w)(k:J3 T vQ pb bp lo c f p w):w.cell? bp=some (.pointer pb)/\∃V',mh T V' w pb p/\∀d w',lN T V' w pb d w'->J3 T vQ pb bp lo c f d w':=by have⟨g,l,i,j,e⟩:=k;have m:=i.low.1;have t:pb<vQ.lo:=m;refine⟨g,_,i,λd w' b=>⟨(Cb bp 0<|b.2.B bp (W e.size) λa=>by injection a with a;omega).T g,l,b.1,j.grown (mr.ok .u8) b.2 (λn a=>by injection a with a;subst a;exact⟨Y,λa=>W<|(j.ge _ a.symm).1⟩),e.T<|Fr.of b.2 (W e.size) λn a=>.inr<|by injection a with a;exact a.symm⟩⟩
def qR.tree:Fl:=⟨[102],[⟨[115,108,111,119],false⟩],[],[⟨[102,114,111,110,116],[],[[⟨[104],[],[.mk 6 [98,97,99,107] [103,101,116] [.mk 1 [] 1 [],.mk 1 [] 7 []] [] []]⟩]]⟩,⟨[98,97,99,107],[],[[⟨[103,101,116],[[105],[106]],[]⟩]]⟩]⟩
def KU(a:Fl)(b:RW)(j:Ending)(c:RW):Prop:=∃(d:RE) (e:Nat) (f:RE) (g:Nat),j=.returned (.tuple #[.agg #[tx a.name,(d,a.kQ.length,e),Nl,(f,a.kH.length,g)],.int .i64 0,.int .i64 0])/\
 pW (λi=>b<=i/\i<c) c d a.kQ.length e none 0 0 f a.kH.length g a/\Below b b c
def Bg(a:Int):Ex:=.mk 1 [] a []
def rp:St:=.mk 6 [98,97,99,107] [103,101,116] [Bg 1,Bg 7] [] []
def K8:Hd:=⟨[104],[],[rp]⟩
def pF:Co:=⟨[102,114,111,110,116],[],[[K8]]⟩
def wL:tree=⟨[102],[⟨[115,108,111,119],false⟩],[],[pF,qF]⟩:=rfl
def zE{b:Int}(a:0<=b):mK De<|Bg b:=lT (d:=5) (k:=1) Z Y Z Z (λa=>by simp at a) (λ_=>Z) (λ_=>a) (λa=>absurd Z a) (by simp[Bg,Ex.args])
def Jf{b}{a:Int}(c:0<=a)(d:a<=8):lM b De<|Bg a:=.inl ⟨Z,Z,c,d,Z⟩
def lits:∀a∈rp.lp,a=Bg 1\/a=Bg 7:=by simp[rp,St.lp]
def EJ:nQ Ds rp:=by refine⟨⟨_,Un,Z,λ_=>Uv,λa=>by simp at a,λ_=>Uv,λa=>by simp at a,Un,Un,λ_=>Z,λ_=>Z⟩,λb c=>?_,⟨Un,Un⟩,by simp[rp,St.th],by simp[rp,St.el]⟩;rcases lits b c with rfl|rfl<;>exact zE Y
def vD:mi tree:=by
 have a:vL K8:=⟨Uv,Un,by simp[K8],Un,by simp only[K8,Rw];rintro g rfl;exact EJ,Un⟩
 have b:vL K9:=⟨Uv,Un,Uv,Un,by simp[K9],Un⟩
 have c:Bk pF:=⟨Uv,Un,by simp[pF],Un,Un,by simp only[pF,Rw];rintro d rfl;exact⟨Un,by simp only[Rw];rintro e rfl;exact a⟩⟩
 have f:Bk qF:=⟨Uv,Un,by simp[qF],Un,Un,by simp only[qF,Rw];rintro d rfl;exact⟨Un,by simp only[Rw];rintro e rfl;exact b⟩⟩
 rw[wL];refine⟨Uv,Un,Uv,Un,Uo,Un,Un,?_⟩;simp only[Rn,Rg,RO];rintro i (rfl|rfl);exact c;exact f
def Nu{e f d}(a:Nat)(i:e.length<=1000/\f.length<=1000/\d.length<=90)(j:∀a c,d[a]?=some c->c∉d.take a/\(f.find? λk=>k.name==c)=none/\oW e c=false/\c.length<=12):JM ⟨0,0,0,0,[],a⟩ e f d:=by
 refine⟨i,λm n l=>?_,λg=>absurd (show(0:Nat)=1 from g) Un,λa b=>absurd b Uo,λg=>absurd (show 1<=(0:Nat)from g) Un,j⟩;rcases l with⟨_,⟨a,b,_⟩|⟨a,b,_⟩⟩|⟨_,b,_⟩
 exact absurd b Uo;exact absurd b Uo;exact absurd (show 1<=(0:Nat)from b) Un
def Jg(a:Nat):Hf ⟨0,0,0,0,[],a⟩ [pF,qF] Ds rp:=by refine .inr ⟨Un,Z,Z,Z,⟨qF,K9,Z,Un,Un,Z,Z⟩,Un,λb c=>?_⟩;rcases lits b c with rfl|rfl<;>exact Jf Y Y
def MO:K6 tree:=by
 rw[wL];refine⟨⟨Un,λk f a=>?_⟩,⟨Un,λk f a=>by simp at a⟩,Un,λk q c=>?_⟩
 match k,a with
 |0,a=>injection a with a;subst a;exact⟨Uv,Un⟩
 |k+1,a=>simp at a
 match k,c with
 |0,c=>
  injection c with c;subst c;refine⟨Un,Uv,Uv,Un,λe f a=>by simp[pF]at a,Un,Un,λi d e f a=>?_⟩;simp only[pF,Rw]at d;subst d
  match e,a with
  |0,a=>injection a with a;subst a;refine⟨Un,Uv,λm n j=>?_,Un,⟨0,0,0,0,[],0⟩,Z,Nu 0 ⟨Un,Un,Un⟩ (λk p b=>by simp[K8]at b),?_,λl=>absurd l Un⟩;have⟨i,d,g⟩:=List.mem_flatten.1<|TM j;have:=SH d;simp only[pF,Rw]at this;subst this;simp only[Rw]at g;subst g;rfl;simp only[K8,Rw];rintro r rfl;exact Jg 0
  |e+1,a=>simp at a
 |1,c=>
  injection c with c;subst c;refine⟨Un,Uv,Uv,Un,λe f a=>by simp[qF]at a,Un,Un,λi d e f a=>?_⟩;simp only[qF,Rw]at d;subst d
  match e,a with
  |0,a=>
   injection a with a;subst a;refine⟨Un,Uv,λm n j=>?_,Un,⟨0,0,0,0,[],1⟩,Z,Nu 1 ⟨Un,Un,Un⟩ λk p b=>?_,by simp[K9],λl=>absurd l Un⟩;have⟨i,d,g⟩:=List.mem_flatten.1<|TM j;have:=SH d;simp only[qF,Rw]at this;subst this;simp only[Rw]at g;subst g;rfl
   match k,b with
   |0,b=>injection b with b;subst b;exact⟨Un,Uv,Uv,Un⟩
   |1,b=>injection b with b;subst b;exact⟨Un,Uv,Uv,Un⟩
   |k+2,b=>simp[K9]at b
  |e+1,a=>simp at a
 |k+2,c=>simp at c
def KV:M9 tree:=by
 rw[wL];have b:CZ [pF,qF] Ds rp:=⟨⟨Un,Un⟩,Un,λc d=>by rcases lits c d with rfl|rfl<;>exact zE Y,λ_=>⟨qF,Uo,Z⟩,by simp[rp,St.th],by simp[rp,St.el]⟩
 intro g a;simp only[Rn,Rg,RO]at a;rcases a with rfl|rfl;refine⟨Un,Un,?_⟩;simp only[pF,Rw];rintro e rfl;refine⟨Un,?_⟩;simp only[Rw];rintro f rfl;refine⟨Un,Un,?_⟩;simp only[K8,Rw];rintro i rfl;exact b;refine⟨Un,Un,?_⟩;simp only[qF,Rw];rintro e rfl;refine⟨Un,?_⟩;simp only[Rw];rintro f rfl;exact⟨Un,Un,by simp[K9]⟩
def KW:∀a∈tree.kH,Lt a:=by
 rw[wL];have b:FE Ds rp:=⟨λc d=>by rcases lits c d with rfl|rfl<;>exact⟨λ_=>Un,by simp[Bg,Ex.args]⟩,by simp[rp,St.th],by simp[rp,St.el]⟩
 simp only[Rn,Rg,RO];rintro a (rfl|rfl);refine⟨by simp[pF],?_⟩;simp only[pF,Rw];rintro e rfl;simp only[Rw];rintro f rfl;simp only[K8,Rw];rintro g rfl;exact b;refine⟨by simp[qF],?_⟩;simp only[qF,Rw];rintro e rfl;simp only[Rw];rintro f rfl;simp[K9]
def Ji(a b:Se):(⟨(Lib.trimPrefix a.data.toList b.data.toList).toArray⟩:Se).size<=a.size/\(Lib.hasPrefix a.data.toList b.data.toList=true->(⟨(Lib.trimPrefix a.data.toList b.data.toList).toArray⟩:Se).size+b.size=a.size):=by
 have e:∀c:RK,(⟨c.toArray⟩:Se).size=c.length:=λc=>R6 ..;have i:a.data.toList.length=a.size:=RV ..;have j:b.data.toList.length=b.size:=RV ..;rw[e];unfold Lib.trimPrefix;split
 rename_i d
 have k:b.data.toList.length<=a.data.toList.length:=by have⟨l,f⟩:=List.isPrefixOf_iff_prefix.1<|show b.data.toList.isPrefixOf a.data.toList=true from d;rw[<-f,Q3];omega
 rw[Ts];exact⟨Y,λ_=>Y⟩
 rename_i d
 exact⟨Y,λg=>absurd g d⟩
def nD(g:Nat)(b:RW)(i j:Nat):Prop:=∃(c k:Int) (l:Nat) (m d n p e:Int) (f:R0) (a:List Int),
 b.heap[i]?=some (.cells #[.int .i64 c,k,.int .u8 (l:Nat),m,d,n,p,e,f] 38)/\kJ lL 2 1 (λ_=>False) b g f a/\oP c/\oP d/\oP e/\(∀q∈a,oP q)/\a.length<=j
def nD.fz{c:Nat}{w:RW}{a d:Nat}(e:nD c w a d)(i:Nat)(f:i<9):(∃u,w.cell? (sa a i)=some u)/\w.frozen? ⟨a,i,none⟩=false:=by have⟨_,_,_,_,_,_,_,_,_,_,b,_⟩:=e;exact⟨⟨_,kA b i _<|R9<|by simpa using f⟩,kx b i⟩
def B9:(prog.info? 2).map (λa=>(a.zero,a.size,a.bytes))=some (some<|.int .i64 0,1,8):=Up
end Go.Proofs.YtbdipimmpgijaaaGreatDoor
namespace Go.EH
open Go
variable {P:Program} {ops:Array Oper} {Q:Exit→Act→World→Prop}
def wK(ops:Array Oper):Bool:=ops.all λo=>match o.op with| .defer _=>false|_=>true
def NS{l n:Nat}{o:Oper}{a:Act}{w:World}{K:Act->World->Prop}(hd:∀c,o.op≠.defer c)(h:o.wp P a w K Q):o.wpIn (Fence.wide.inRound l) n P a w K Q:=by
 refine⟨λ_ _=>trivial,?_⟩;rw[Oper.semAt_eq _ _ _ hd];unfold Oper.wp at h;generalize(execOp a.eval o).run P w=r at*;cases r with
 |ok x w'=>cases x<;>first|exact h|exact h.elim|exact⟨(λh=>by cases h),CallsIn.inRound l (callsIn_wide.2 h)⟩|skip;refine⟨(λh=>by cases h),λc b _=>?_⟩;obtain⟨v,d,hr,hs⟩:=h c b;exact⟨v,d,hr,stepsIn_wide.2 hs⟩
 |halt x w'=>cases x<;>first|exact h|exact h.elim
def AR(h:wK ops=true){i:Nat}{o:Oper}(hi:ops[i]?=some o):∀c,o.op≠.defer c:=by intro c e;unfold wK at h;rw[Array.all_eq_true]at h;obtain⟨a,rfl⟩:=Array.getElem?_eq_some_iff.1 hi;have:=h i a;rw[e]at this;cases this
def zX{e:Region.Mode}{l n:Nat}(hd:wK ops=true)(c:¬LetsOut Q):∀(g:Nat) (d:Array Bool) (a:Act) (w:World),wpAny P e ops Q g d a w->wpAnyIn (Fence.wide.inRound l) n P e ops Q g d a w
 |0,_,_,_,h=>h
 |g+1,d,a,w,h=>by
  refine⟨h.1,λi hi=>?_⟩;have b:=h.2 i hi;unfold wpOp at b;unfold wpOpIn;split
  rename_i he
  rw[he]at b;exact zX hd c g _ a w b
  rename_i o f
  rw[f]at b;simp only at b;split
  rename_i hw
  rw[if_pos hw]at b;rcases b with b|b;exact Oper.wpIn_mono (λa w=>zX hd c g _ a w) (NS (AR hd f) b);exact absurd b.2 c
  rename_i hw
  rw[if_neg hw]at b;exact⟨λ_ _=>trivial,zX hd c g _ _ w b⟩
end Go.EH
namespace Go.Proofs.YtbdipimmpgijaaaGreatDoor
open RowKit Go.Proofs.Tryz lH Maps oa qR ChangeShapes WideShapes ChangeAt
def EG{P:Program}{ops:List Oper}{a0:Act}{Q:Exit->Act->World->Prop}{id l k:Nat}{w0:World}(e:EH.wK ops.toArray=true)(f:¬LetsOut Q)(G:World->Prop)(a:Value->World->Prop)(VP:Nat->Value->Prop)(D:oo)(hm:P.follows .mixedOrders=true)(g:rU ops=true)(i:uT ops=true)(j:0<ops.length)(n:Nat)(hn:a0.tmps.size=n)(m:(ops.all λo=>match o.dst with|some d=>decide (d<n)|none=>true)=true)(p:G {w0 with drawn:=w0.drawn+1})(q:zZ P ops a0 G a VP D 0 ops)
  (r:∀(b:Nat->Value) (w:World),(∀c,c<ops.length-1->VP c (b c))->a (b (ops.length-1)) w->Q .normal (lz a0 ops b 0) w):(Code.region id ops.toArray true).wpIn (Fence.wide.inRound l) k P Q a0 w0:=
 wpIn_region_any hm (EH.zX e f _ _ _ _ (Br G (λ_=>a) VP D g i j n hn m p q r))
