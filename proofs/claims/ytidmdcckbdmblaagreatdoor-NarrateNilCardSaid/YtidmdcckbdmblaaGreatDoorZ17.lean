import Derived.Test.YtidmdcckbdmblaaGreatDoorZ11
import Derived.Test.YtidmdcckbdmblaaGreatDoorZ12
import Derived.Test.YtidmdcckbdmblaaGreatDoorZ13
import Derived.Test.YtidmdcckbdmblaaGreatDoorZ14
set_option maxRecDepth 1000000
set_option maxHeartbeats 32000000
set_option linter.all false
namespace Go.Proofs.YtidmdcckbdmblaaGreatDoor
open Go.RowKit jJ Go.Maps Go.Proofs.Tryz
theorem pg(k w b)(c c1:Nat)(d)(g c2:Nat)(i)(j c3:Nat)(f)(hL:jV w)(hf:nE k w b c c1 d g c2 i j c3 f)(t:kr f):
  Calls prog 107 #[.agg #[tx f.name,.slice b c c1,.slice d g c2,.slice i j c3]] w (jf (.int .i64 0) w):=by
 have l:Below w w (w.alloc (.cells #[tx f.name,.slice b c c1,.slice d g c2,.slice i j c3] 84)):=Ba _ _;have r:=JK w (.cells #[tx f.name,.slice b c c1,.slice d g c2,.slice i j c3] 84);have D:(w.alloc (.cells #[tx f.name,.slice b c c1,.slice d g c2,.slice i j c3] 84)).heap.size=w+1:=LG
 have m:=(hf.iU l)
 have n:=t;have p:=(hL.to l)
 go_enter func107,ntmps107
 go_wp2_with fail;generalize w.alloc (.cells #[tx f.name,.slice b c c1,.slice d g c2,.slice i j c3] 84)=B at*;have s:w.heap.size<B:=LC
 refine(Bn k B b c c1 d g c2 i j c3 f p m n).M ?_;rintro e u ⟨rfl,a⟩;generalize u=wr at*;obtain⟨⟨v,x,y,z⟩,_⟩:=jA ((a.B _ s).T r);have A:w.heap.size<wr:=LA a.size
 go_wp2_with fail;refine(Bl k wr b c c1 d g c2 i j c3 f (p.to a) (m.iU a) n).M ?_;rintro e C ⟨rfl,q⟩;have a:=(a.T (q.M a.size))
 generalize wr=E at*;generalize C=wr at*;obtain⟨⟨v,x,y,z⟩,_⟩:=jA ((a.B _ s).T r);have A:w.heap.size<wr:=LA a.size
 go_wp2_with fail;refine(yO k wr b c c1 d g c2 i j c3 f (p.to a) (m.iU a) n).M ?_;rintro e F ⟨rfl,q⟩;have a:=(a.T (q.M a.size))
 go_wp2_with fail;go_ret;exact⟨rfl,l.T (a.M LC)⟩
end Go.Proofs.YtidmdcckbdmblaaGreatDoor
namespace Go.Proofs.YtidmdcckbdmblaaGreatDoor
open Go.RowKit jJ Go.Proofs.Tryz
theorem ze(s w d)(j c1:Nat)(m)(n c2:Nat)(l)(c c3:Nat)(f)(hL:jV w)(hf:nE s w d j c1 m n c2 l c c3 f)(ab:kr f)(M:G4 f):
  Calls prog 109 #[.agg #[tx f.name,.slice d j c1,.slice m n c2,.slice l c c3]] w (jf (.tuple #[Jh,.int .i64 0]) w):=by
 have E:Below w w (((w.alloc (.cells #[tx f.name,.slice d j c1,.slice m n c2,.slice l c c3] 84)).alloc (.cells #[Em,Em,.int .i64 0] 233)).alloc (.cells #[tx f.name,.slice d j c1,.slice m n c2,.slice l c c3,.string ⟨#[102,108,101,101,116]⟩,Em,Em,.int .i64 0] 312)):=((Ba _ _).alloc LG _).alloc LJ _;have N:(((w.alloc (.cells #[tx f.name,.slice d j c1,.slice m n c2,.slice l c c3] 84)).alloc (.cells #[Em,Em,.int .i64 0] 233)).alloc (.cells #[tx f.name,.slice d j c1,.slice m n c2,.slice l c c3,.string ⟨#[102,108,101,101,116]⟩,Em,Em,.int .i64 0] 312)).heap.size=w+3:=LG
 have O:(((w.alloc (.cells #[tx f.name,.slice d j c1,.slice m n c2,.slice l c c3] 84)).alloc (.cells #[Em,Em,.int .i64 0] 233)).alloc (.cells #[tx f.name,.slice d j c1,.slice m n c2,.slice l c c3,.string ⟨#[102,108,101,101,116]⟩,Em,Em,.int .i64 0] 312)).heap[w.heap.size]?=some (.cells #[tx f.name,.slice d j c1,.slice m n c2,.slice l c c3] 84 (0,0)):=(KC _ _ _ LJ).T ((KC _ _ _ LG).T (JK w _));have P:(((w.alloc (.cells #[tx f.name,.slice d j c1,.slice m n c2,.slice l c c3] 84)).alloc (.cells #[Em,Em,.int .i64 0] 233)).alloc (.cells #[tx f.name,.slice d j c1,.slice m n c2,.slice l c c3,.string ⟨#[102,108,101,101,116]⟩,Em,Em,.int .i64 0] 312)).heap[w.heap.size+1]?=some (.cells #[Em,Em,.int .i64 0] 233 (0,0)):=(KC _ _ _ LG).T (by have:=JK (w.alloc (.cells #[tx f.name,.slice d j c1,.slice m n c2,.slice l c c3] 84)) (.cells #[Em,Em,.int .i64 0] 233);rw[JN]at this;exact this);have Q:(((w.alloc (.cells #[tx f.name,.slice d j c1,.slice m n c2,.slice l c c3] 84)).alloc (.cells #[Em,Em,.int .i64 0] 233)).alloc (.cells #[tx f.name,.slice d j c1,.slice m n c2,.slice l c c3,.string ⟨#[102,108,101,101,116]⟩,Em,Em,.int .i64 0] 312)).heap[w.heap.size+2]?=some (.cells #[tx f.name,.slice d j c1,.slice m n c2,.slice l c c3,.string ⟨#[102,108,101,101,116]⟩,Em,Em,.int .i64 0] 312 (0,0)):=by have:=JK ((w.alloc (.cells #[tx f.name,.slice d j c1,.slice m n c2,.slice l c c3] 84)).alloc (.cells #[Em,Em,.int .i64 0] 233)) (.cells #[tx f.name,.slice d j c1,.slice m n c2,.slice l c c3,.string ⟨#[102,108,101,101,116]⟩,Em,Em,.int .i64 0] 312);rw[JN,JN]at this;exact this
 have u:=JH hf;have aC:=JH hL;have aD:=JH ab;have F:=JH M;have ac:=M.jh;have aZ:c<=3:=LA hf.jh.len.1
 have aE:=JH hf.jh.len;obtain⟨B,y⟩:=Xq (((w.alloc (.cells #[tx f.name,.slice d j c1,.slice m n c2,.slice l c c3] 84)).alloc (.cells #[Em,Em,.int .i64 0] 233)).alloc (.cells #[tx f.name,.slice d j c1,.slice m n c2,.slice l c c3,.string ⟨#[102,108,101,101,116]⟩,Em,Em,.int .i64 0] 312));rw[<-y]at E N O P Q;have aF:=JH y;have G:=JH E;have I:=JH O;have ad:=JH P;have R:=JH Q;have S:w.heap.size<=B:=E.size;clear hf hL ab M y E O P Q
 go_enter func109,ntmps109
 go_wp2_with fail;have y:=aF.o;rw[<-y];clear y;obtain⟨b,z⟩:=Xq w.heap.size;rw[<-z];rw[<-z]at I ad R N;have ae:=JH z;have af:∀q,s q->q<b:=λq p=>by rw[z];exact u.o.jY q p
 have ag:=JH af;clear af z;have ba:B=b+3:=N;refine Ri (λx=>Below B B x) (kN [(Pp (b+2) 0),(·=.agg #[tx f.name,.slice d j c1,.slice m n c2,.slice l c c3]),(·=.int .i64 0),(Pp b 0),(·=tx f.name),(·=.bool true)]) [] ((Below.refl _ _).drew) ⟨?_,?_,?_,?_,?_,?_,trivial⟩ ?_
 .exact .f 4
 .intro A w a hf r hd hw;have bb:=Sl 1 (hf 1 rfl);obtain⟨⟨T,U,V,W⟩,_⟩:=jA ((a.B b LC).T I.o);replace a:=Hq a;exact .q (g:=⟨rfl,a.o,Qa⟩)
 .intro A w a hf r hd hw;have bc:=Sv 10 r 1;have bd:=ae.o;replace a:=Hq a;refine .c (pg s w d j c1 m n c2 l c c3 f (aC.o.to (G.o.T (a.o.M S))) (u.o.iU (G.o.T (a.o.M S))) aD.o) ?_;rintro e w' ⟨he,aG⟩;subst he;exact⟨_,rfl,⟨rfl,a.o.T (aG.M a.o.size),Qe⟩⟩
 .exact .f 1
 .intro A w a hf r hd hw;have be:=Sv 12 r 3;obtain⟨⟨T,U,V,W⟩,_⟩:=jA ((a.B b LC).T I.o);replace a:=Hq a;exact .q (g:=⟨rfl,a.o,Qa⟩)
 .intro A w a hf r hd hw;have bf:=Sv 9 r 0;have bg:=Sv 11 r 2;have bh:=Sv 13 r 4;clear hf r hd hw;replace a:=Hq a;refine .h λK hK=>?_;go_simp;refine⟨rfl,?_⟩;refine Calls.M (pV (b+2) (tx f.name) _ _ _ w _ ⟨_,(a.o.B (b+2) LC).T R.o⟩) ?_;rintro e w' ⟨he,hw⟩;subst hw;subst he;exact⟨_,rfl,hK ⟨rfl,a.o,Qe⟩⟩
 intro ah C X aH aI;have D:=JH X;have bi:=X.size;clear aH aI X;simp only[je,Act.put,JL,JP,JO];have Y:=JH (show∀q,s q->C.heap[q]?=w.heap[q]? from λq p=>(D.o.B q (LA (ag.o q p))).T (G.o.B q (u.o.jY q p)));have aJ:=JH (show qb (b+2) (tx f.name) (.slice d j c1) (.slice m n c2) (.slice l c c3) C from⟨_,(D.o.B (b+2) LC).T R.o⟩);have t:=JH (show∀q,s q->q<C/\q≠b+2 from λq p=>LA (ag.o q p));go_wp2_with fail;refine(yT s C f.jl d j c1 (b+2) (tx f.name) _ _ aJ.o (u.o.jl.iV kY.ok Y.o) F.o.jl t.o).M ?_;rintro e ai ⟨rfl,aj,J⟩;have aK:=JH aj;have aL:=JH J;have bj:=J.size;have ak:=JH (show∀q,s q->ai.heap[q]?=w.heap[q]? from λq p=>(J.B q (t.o q p).1 (t.o q p).2).T (Y.o q p));clear aj J;go_wp2_with fail;refine(yU s ai f.kj m n c2 f.jh l c c3 (b+2) (tx f.name) _ aK.o (u.o.kj.iV nr.ok ak.o) (u.o.jh.iV (kL.ok _) ak.o) F.o.kj ac (λq p=>⟨LA ((t.o q p).1),(t.o q p).2⟩)).M ?_;rintro e bk ⟨rfl,al,Z⟩;have aM:=JH al;have am:=JH (aL.o.T Z);have bl:=Z.size;clear al Z;obtain⟨⟨T,U,V,W⟩,_⟩:=jA ((am.o.B b LC LC).T ((D.o.B b LC).T I.o));go_wp2_with fail;clear T U V W;go_loopw [22] (λi wr=>∃k:Nat,k<=c/\i=k/\qb (b+2) (tx f.name) (.slice d j c1) (.slice m n c2) (.slice l c c3) wr/\ld (λq=>q=b+2) C wr) (λi _=>c-(intOf i).toNat);case atStart=>exact⟨0,JV _,rfl,aM.o,am.o⟩
 case round=>
 obtain⟨k,bm,rfl,an,aa⟩:=hrel;have ao:=JH an;have L:=JH aa;have bn:=aa.size;clear an aa;by_cases bo:k<c
 .obtain⟨ap,aq⟩:∃x,f.jh[k]?=some x:=Gx (LA aE.o);have ar:=JH aq;clear aq;have au:=JH (show∀q,s q->wr.heap[q]?=w.heap[q]? from λq p=>(L.o.B q (t.o q p).1 (t.o q p).2).T (Y.o q p));go_wp2_with fail;refine(Bu s wr f.jl d j c1 f.jh l c c3 (b+2) (tx f.name) _ k ap ao.o (u.o.jl.iV kY.ok au.o) F.o.jl.len (u.o.jh.iV (kL.ok _) au.o) ac (F.o.each k ap ar.o) ar.o (λq p=>⟨LA ((t.o q p).1),(t.o q p).2⟩)).M ?_;rintro e bp ⟨rfl,av,aw⟩;have aN:=JH av;have aO:=JH (L.o.T aw);clear av aw;go_wp2_with fail;go_roundw;case rel=>exact⟨k+1,LC,LI,aN.o,aO.o⟩
  case measure=>simp[intOf];omega
 .obtain rfl:c=k:=LC;go_wp2_with fail;obtain⟨aP,ax⟩:=ao.o;have aQ:=JH ax;have aR:=JH ((L.o.B (b+1) LC LC).T ((D.o.B (b+1) LC).T ad.o));clear ax;have aS:b+2≠b+1:=LC;refine Ri (λx=>H0 (b+1) (b+2) #[tx f.name,.slice d j c1,.slice m n c2,.slice l c c3] aP b wr x) (kN [(Pp (b+2) 0),(Pp (b+2) 0),(Pp (b+2) 5),(·=.agg #[Em,Em,.int .i64 0]),(Pp (b+2) 0),(Pp (b+2) 0),(Pp (b+2) 5),(Pp (b+2) 7),(·=.int .i64 0),Tr,(·=.int .i64 0)]) [] (⟨(Below.refl _ _).drew,aQ.o,aR.o⟩) ⟨?_,?_,?_,?_,?_,?_,?_,?_,?_,?_,?_,trivial⟩ ?_;exact .f 4;exact .v 29 0;exact .v 30 1;intro A w a hf r hd hw;have bq:=Sv 31 r 2;have c5:=iT a.2.1 5 _ rfl;have aT:=iT a.2.1 6 _ rfl;have aU:=iT a.2.1 7 _ rfl;replace a:=Hq a;exact .q (g:=⟨rfl,a.o,Qa⟩);exact .f 4;exact .v 33 4;exact .v 34 5;exact .v 35 6;intro A w a hf r hd hw;have br:=Sv 36 r 7;have c5:=iT a.2.1 5 _ rfl;have aT:=iT a.2.1 6 _ rfl;have aU:=iT a.2.1 7 _ rfl;replace a:=Hq a;exact .q (g:=⟨rfl,a.o,Qa⟩);intro A w a hf r hd hw;have bs:=Sl 2 (hf 2 rfl);have bt:=Sv 32 r 3;obtain⟨⟨bu,bv,bw⟩,⟨bx,bz,bA⟩⟩:=jz a.2.2;replace a:=Hq a;exact .q (g:=⟨trivial,a.o.set aS LC,Qe⟩);exact .v 37 8;intro ah bB ay az aV;have aA:ah 10=.int .i64 0:=az 10 LD;have aB:=JH ay;clear az aV ay;simp only[je,Act.put,JL,JP,JO,aA];clear aA;obtain⟨⟨aW,aX,aY⟩,_⟩:=jz aB.o.2.2;go_wp2_with fail;have z:=ae.o;refine JZ (v:=.tuple #[.agg #[Em,Em,.int .i64 0],.int .i64 0]) ?_ rfl ⟨rfl,?_⟩;simp[results,Tryz.results109,go_sem,aW,aX,aY];exact((G.o.T (D.o.M S)).T (L.o.iU LC (λq p=>LC))).T (aB.o.1.M LC)
theorem sU(d:Nat)(y w D)(n c:Nat)(xs)(E:jc (ki .u8 d) y w (.slice D n c) xs)(Q:n<=1000)(hS:∀q,y q->q<w)(hf:∀x∈xs,∀(l:World) (r:List Value),Below w w l->(ki .u8 d) y l r x->Calls prog 242 #[.agg r.toArray] l (nx (ki .u8 d) x l)):
  Calls prog 241 #[.slice D n c,.func (.func 242) #[] #[]] w (oK (ki .u8 d) n xs w):=by
 have R:=BI;unfold kv at R;have z:=E.len;have hc:=z.2;have t:=JH z.1;have S:=E;have A:=hS;have T:=hf;have F:=Dl n Q w;obtain⟨B,m⟩:=Xq w.heap.size;have g:kz (ki .u8 d) 275 4 B (w.alloc (.cells (madeCells #[.int .u8 0,Em,.int .i64 0,Nl] (n*4)) 275)) B n ([]:List (Ex)):=kz.start _ (by rw[m];exact JK _ _) (by rw[Lj]);have f:Below B w (w.alloc (.cells (madeCells #[.int .u8 0,Em,.int .i64 0,Nl] (n*4)) 275)):=by rw[m];exact Ba _ _
 rw[<-m]at F;have j:=JH m;clear hS z hf m
 go_enter func241,ntmps241
 go_wp2_with fail;generalize w.alloc (.cells (madeCells #[.int .u8 0,Em,.int .i64 0,Nl] (n*4)) 275)=l at*;go_loopw [13] (λi wr=>∃k:Nat,k<=n/\i=k/\kz (ki .u8 d) 275 4 B wr B n (xs.take k)/\Below B w wr) (λi _=>n-(intOf i).toNat);case atStart=>exact⟨0,JV _,rfl,g,f⟩
 case round=>
  clear F;obtain⟨k,ai,rfl,g,f⟩:=hrel;have aj:=g.lt;have ak:=f.size;by_cases al:k<n
  .obtain⟨x,hx⟩:∃x,xs[k]?=some x:=Gx (LA t.o);obtain⟨G,am,r,rfl,U,I,p⟩:=(S.iV (ki.ok .u8 d) (λq s=>f.B q (by rw[j.o];exact A q s))).jr (ki.ok .u8 d) k x hx;obtain⟨u,v,c1,rfl⟩:=I.opn;have J:=p 0 _ rfl;have V:=p 1 _ rfl;have W:=p 2 _ rfl;have X:=p 3 _ rfl;rw[JT]at J;have an:G<wr:=LB (A G U) j.o;have ao:(0:Int)<=(k:Int):=LC;have ap:(k:Int)<(n:Int):=LC;have C:=Ba wr (.cells #[.int .u8 x.op,tx x.name,x.n,.slice u v c1] 275);have Y:=(T x (JM hx) (wr.alloc (.cells #[.int .u8 x.op,tx x.name,x.n,.slice u v c1] 275)) [.int .u8 x.op,tx x.name,x.n,.slice u v c1] (by rw[<-j.o];exact f.T (C.M (LA j.o))) ((ki.ok .u8 d).iV I (λq s=>C.B q (LB (A q s) j.o))))
   have Z:=JH hx;clear p hx;go_wp2_with fail;refine Y.M ?_;rintro e K ⟨r,rfl,L,M⟩;obtain⟨N,O,c2,rfl⟩:=L.opn;have aq:=M.size;have ar:(wr.alloc (.cells #[.int .u8 x.op,tx x.name,x.n,.slice u v c1] 275)).heap.size=wr+1:=LG;have P:Below wr wr K:=C.T (M.M LC);have a:=(g.iV (ki.ok .u8 d) P)
   have aa:=(f.T (P.M LC))
   have au:=a.lt;have ab:=a.frozen (k*4+0);have av:=a.frozen (k*4+1);have aw:=a.frozen (k*4+2);have ax:=a.frozen (k*4+3);rw[JT]at ab;have ay:k*4+3<n*4:=LC;obtain⟨az,aA⟩:=a.cell (ki.ok .u8 d) (i:=k*4) LC;obtain⟨aB,aC⟩:=a.cell (ki.ok .u8 d) (i:=k*4+1) LC;obtain⟨aD,aE⟩:=a.cell (ki.ok .u8 d) (i:=k*4+2) LC;obtain⟨aF,aG⟩:=a.cell (ki.ok .u8 d) (i:=k*4+3) LC;have ac:=(show kz (ki .u8 d) 275 4 B (jn K B (k*4) [.int .u8 x.op,tx x.name,x.n,.slice N O c2]) B n (xs.take (k+1))from by have e:xs.take (k+1)=xs.take k++[x]:=(by rw[KL,Z.o];rfl);rw[e];have ad:(xs.take k).length=k:=(by rw[Kv];have:=t.o;omega);exact a.put (ki.ok .u8 d) ((ki.ok .u8 d).M L (λq s=>by obtain⟨aH,ae⟩:=s;have:=j.o;exact⟨LC,ae,LC⟩)) LC (by rw[ad]))
   have af:=(jC (lo:=B) (b:=B) (JS _) (r:=[.int .u8 x.op,tx x.name,.int .i64 x.n,.slice N O c2]) (o:=(k*4)) aa)
   clear g f J V W X;go_wp2_with fail;go_roundw;case rel=>exact⟨k+1,LC,LI,ac,af⟩
   case measure=>simp[intOf];omega
  obtain rfl:n=k:=LC;have ag:xs.take n=xs:=Kj (LA t.o);rw[ag]at g;go_wp2_with fail;go_ret;have ah:=j.o;subst ah;exact⟨rfl,g.done (ki.ok .u8 d) (LA t.o) (JS _) LC,f⟩
theorem zl(A w F)(n c:Nat)(xs)(G:jc (kL .u8) A w (.slice F n c) xs)(V:n<=1000)(hS:∀q,A q->q<w)(hf:∀x∈xs,∀(j:World) (r:List Value),Below w w j->(kL .u8) A j r x->Calls prog 115 #[.agg r.toArray] j (nx (kL .u8) x j)):
  Calls prog 114 #[.slice F n c,.func (.func 115) #[] #[]] w (oK (kL .u8) n xs w):=by
 have W:=uF;unfold kv at W;have C:=G.len;have hc:=C.2;have p:=JH C.1;have X:=G;have D:=hS;have Y:=hf;have I:=Dq n V w;obtain⟨B,l⟩:=Xq w.heap.size;have f:kz (kL .u8) 176 3 B (w.alloc (.cells (madeCells #[Em,Nl,Nl] (n*3)) 176)) B n ([]:List (Co)):=kz.start _ (by rw[l];exact JK _ _) (by rw[Lj]);have a:Below B w (w.alloc (.cells (madeCells #[Em,Nl,Nl] (n*3)) 176)):=by rw[l];exact Ba _ _
 rw[<-l]at I;have g:=JH l;clear hS C hf l
 go_enter func114,ntmps114
 go_wp2_with fail;generalize w.alloc (.cells (madeCells #[Em,Nl,Nl] (n*3)) 176)=j at*;go_loopw [13] (λi wr=>∃k:Nat,k<=n/\i=k/\kz (kL .u8) 176 3 B wr B n (xs.take k)/\Below B w wr) (λi _=>n-(intOf i).toNat);case atStart=>exact⟨0,JV _,rfl,f,a⟩
 case round=>
  clear I;obtain⟨k,am,rfl,f,a⟩:=hrel;have an:=f.lt;have ao:=a.size;by_cases ap:k<n
  .obtain⟨x,hx⟩:∃x,xs[k]?=some x:=Gx (LA p.o);obtain⟨J,aq,r,rfl,Z,K,s⟩:=(X.iV (kL.ok .u8) (λq m=>a.B q (by rw[g.o];exact D q m))).jr (kL.ok .u8) k x hx;obtain⟨t,u,c1,v,y,z,rfl⟩:=K.opn;have L:=s 0 _ rfl;have aa:=s 1 _ rfl;have ab:=s 2 _ rfl;rw[JT]at L;have ar:J<wr:=LB (D J Z) g.o;have au:(0:Int)<=(k:Int):=LC;have av:(k:Int)<(n:Int):=LC;have E:=Ba wr (.cells #[tx x.name,.slice t u c1,.slice v y z] 176);have ac:=(Y x (JM hx) (wr.alloc (.cells #[tx x.name,.slice t u c1,.slice v y z] 176)) [tx x.name,.slice t u c1,.slice v y z] (by rw[<-g.o];exact a.T (E.M (LA g.o))) ((kL.ok .u8).iV K (λq m=>E.B q (LB (D q m) g.o))))
   have ad:=JH hx;clear s hx;go_wp2_with fail;refine ac.M ?_;rintro e M ⟨r,rfl,N,O⟩;obtain⟨P,Q,c2,R,S,T,rfl⟩:=N.opn;have aw:=O.size;have ax:(wr.alloc (.cells #[tx x.name,.slice t u c1,.slice v y z] 176)).heap.size=wr+1:=LG;have U:Below wr wr M:=E.T (O.M LC);have d:=(f.iV (kL.ok .u8) U)
   have ae:=(a.T (U.M LC))
   have ay:=d.lt;have af:=d.frozen (k*3+0);have az:=d.frozen (k*3+1);have aA:=d.frozen (k*3+2);rw[JT]at af;have aB:k*3+2<n*3:=LC;obtain⟨aC,aD⟩:=d.cell (kL.ok .u8) (i:=k*3) LC;obtain⟨aE,aF⟩:=d.cell (kL.ok .u8) (i:=k*3+1) LC;obtain⟨aG,aH⟩:=d.cell (kL.ok .u8) (i:=k*3+2) LC;have ag:=(show kz (kL .u8) 176 3 B (jn M B (k*3) [tx x.name,.slice P Q c2,.slice R S T]) B n (xs.take (k+1))from by have e:xs.take (k+1)=xs.take k++[x]:=(by rw[KL,ad.o];rfl);rw[e];have ah:(xs.take k).length=k:=(by rw[Kv];have:=p.o;omega);exact d.put (kL.ok .u8) ((kL.ok .u8).M N (λq m=>by obtain⟨aI,ai⟩:=m;have:=g.o;exact⟨LC,ai,LC⟩)) LC (by rw[ah]))
   have aj:=(jC (lo:=B) (b:=B) (JS _) (r:=[tx x.name,.slice P Q c2,.slice R S T]) (o:=(k*3)) ae)
   clear f a L aa ab;go_wp2_with fail;go_roundw;case rel=>exact⟨k+1,LC,LI,ag,aj⟩
   case measure=>simp[intOf];omega
  obtain rfl:n=k:=LC;have ak:xs.take n=xs:=Kj (LA p.o);rw[ak]at f;go_wp2_with fail;go_ret;have al:=g.o;subst al;exact⟨rfl,f.done (kL.ok .u8) (LA p.o) (JS _) LC,a⟩
theorem ub(d:Nat)(N:FT d):FT (d+1):=by
 intro D w r x h hS E;obtain⟨v,rfl,n⟩:=h;obtain⟨g,c,rfl,hc⟩:=n.form;have O:=E.args.1;have P:=JH E.args.2;obtain⟨m,hm⟩:=Xq x.args.length;rw[<-hm]at n O hc⊢;have ax:=JH hm;clear hm;have Q:=N;have F:=JH hS;have p:=(Ba w (.cells #[.int .u8 x.op,tx x.name,x.n,.slice g m c] 275)|>.alloc LG (.cells #[.int .u8 0,Em,.int .i64 0,Nl] 275))
 have s:=JH ((JY (w.alloc (.cells #[.int .u8 x.op,tx x.name,x.n,.slice g m c] 275)) (.cells #[.int .u8 0,Em,.int .i64 0,Nl] 275) (r:=w.heap.size) LG).T (JK _ _));have t:=JH (JK (w.alloc (.cells #[.int .u8 x.op,tx x.name,x.n,.slice g m c] 275)) (.cells #[.int .u8 0,Em,.int .i64 0,Nl] 275));have R:=JH (show((w.alloc (.cells #[.int .u8 x.op,tx x.name,x.n,.slice g m c] 275)).alloc (.cells #[.int .u8 0,Em,.int .i64 0,Nl] 275)).heap.size=w+2 from LG);have S:=(n.iV (ki.ok .u8 d) (λq b=>p.B q (hS q b)))
 rw[JN]at t;clear hS
 go_enter func242,ntmps242
 go_upto_region 1 with fail;generalize(w.alloc (.cells #[.int .u8 x.op,tx x.name,x.n,.slice g m c] 275)).alloc (.cells #[.int .u8 0,Em,.int .i64 0,Nl] 275)=G at*;have I:=R.o;obtain⟨a,u⟩:=Xq w.heap.size;rw[<-u]at s t p I⊢;have y:=JH u;clear u;obtain⟨⟨z,A,B,C⟩,_⟩:=oF s.o;have T:a<G:=LC
 go_wp2_with fail;refine(sU d D G g m c x.args S LC (λq b=>LB (F.o q b) y.o) (λJ hy f r U hr=>Q D f r J hr (λq b=>by have:=F.o q b;have:=y.o;have:=U.size;omega) (P.o J hy))).M ?_;rintro e f ⟨rfl,V,j⟩;have ay:=j.size;have K:=(j.B a T).T s.o;have k:=(j.B (a+1) LC).T t.o;have az:=JH k;clear z A B C;obtain⟨⟨z,A,B,C⟩,W,X,Y,Z⟩:=oF K;obtain⟨⟨aa,ab,ac,ad⟩,ae,af,ag,ah⟩:=oF k;have aA:a<f:=LC
 have aB:a+1<f:=LC
 have ai:a+1≠a:=LC
 have L:=(J0 f ⟨a,3,none⟩ (.slice (some ⟨a+2,0,none⟩) m m) (a+1) ai).T k;obtain⟨l,i⟩:=Xq (jn (f.setCell ⟨a,3,none⟩ (.slice (some ⟨a+2,0,none⟩) m m)) (a+1) 0 [.int .u8 x.op,tx x.name,x.n,.slice (some ⟨a+2,0,none⟩) m m]);have aj:=JH (show l.heap[a+1]?=some (.cells #[.int .u8 x.op,tx x.name,x.n,.slice (some ⟨a+2,0,none⟩) m m] 275 (0,0))from by rw[i];exact ky (r:=[.int .u8 x.op,tx x.name,.int .i64 x.n,.slice (some ⟨a+2,0,none⟩) m m]) (m:=[_,_,_,_]) L rfl);have ak:=JH (show∀q,q≠a->q≠a+1->l.heap[q]?=f.heap[q]? from λq al am=>by rw[i];exact(kD am).T (J0 _ _ _ _ al));have an:=JH (show l.heap.size=f from by rw[i];exact jW.T (JQ _ _ _));have ao:Below a w l:=by rw[i];exact jC LC (ja (p.T (j.M LC)) (JS _))
 have ap:=JH i;clear K k L i;go_wp2_with fail;change bodyPost _ _ _ _ _ (jn (f.setCell ⟨a,3,none⟩ (.slice (some ⟨a+2,0,none⟩) m m)) (a+1) 0 [.int .u8 x.op,tx x.name,x.n,.slice (some ⟨a+2,0,none⟩) m m]);rw[<-ap.o];have aq:=y.o;subst aq;obtain⟨⟨ar,au,av,aw⟩,_⟩:=oF aj.o;clear z A B C W X Y Z aa ab ac ad ae af ag ah;refine JZ (v:=.agg #[.int .u8 x.op,tx x.name,x.n,.slice (some ⟨w+2,0,none⟩) m m]) ?_ rfl ⟨[.int .u8 x.op,tx x.name,x.n,.slice (some ⟨w+2,0,none⟩) m m],rfl,⟨_,rfl,?_⟩,ao⟩;simp[results,Tryz.results242,go_sem,ar,au,av,aw];have M:=V;rw[I]at M;exact(M.iV (ki.ok .u8 d) (λq b=>ak.o q (LA b.1) (LA b.1))).M (ki.ok .u8 d) (λq b=>⟨LA b.1,by rw[an.o];exact b.2⟩)
theorem qu:∀d,FT d
 |0=>λ_ _ _ _ h _ _=>h.elim
 |d+1=>ub d (qu d)
end Go.Proofs.YtidmdcckbdmblaaGreatDoor
namespace Go.Proofs.YtidmdcckbdmblaaGreatDoor
open Go.RowKit Go.Proofs.Tryz
theorem qa{f:Type}{P:Program}{w:World}{ops:Array Oper}{rest:List Oper}{o}{a:Act}{Q:Exit->Act->World->Prop}(k:o.guard=none)(s x:Operand)(t:TypeId)
  (l:o.op=.call {callee:=.builtin .append,args:=#[s,x],argTypes:=#[t,t]})
  (e:TypeId) (i:TypeInfo) (z:Value) (size g:Nat) (m:P.underlying t=some (.slice e)) (hi:P.info? e=some i) (hz:i.zero=some z)
  (p:i.size=size) (q:i.bytes=g) (u:z.cells.size=size)
  {R:Rel f} (ok:jI R size) (v:∀{j y:Nat->Prop} {w w':World} {r:List Value} {x:f},R j w r x->R y w' r x) {j:Nat->Prop} {b0:Nat} {ys:List f} {v2:Value} (hs:a.eval s=.slice (some ⟨b0,0,none⟩) 0 0) (hx:a.eval x=v2)
  {n:Nat} (hn:ys.length=n) (A:jc R j w v2 ys) (B:n<=maxLen) (C:n*g<=140737488355328)
  (h:∀c d w',jc R (λb=>w.heap.size<=b/\b<w'.heap.size) w' (.slice c n d) ys->Below w.heap.size w w'->wpList P ops Q rest (a.put o.dst (.slice c n d)) w'):wpList P ops Q (o::rest) a w:=by
 obtain⟨c,d,w',D,E,F⟩:=lA (P:=P) (w:=w) t o.type e i z size g m hi hz p q u ok v (b0:=b0) hn A B C;refine wpList_plain k λK hK=>?_;unfold Oper.wp execOp;simp only[l,resolve,invoke,builtin,KH,KI,Ko,Ky,Ks,KJ,hs,hx,D];exact hK _ _ (h c d w' E F)
end Go.Proofs.YtidmdcckbdmblaaGreatDoor
namespace Go.Proofs.YtidmdcckbdmblaaGreatDoor
open Go.RowKit jJ mX Go.Proofs.Tryz
theorem ma.of{xs:List (List UInt8)}{w w':World}{v:Value}(h:jx jk 9 1 (λ_=>False) w' w v xs)(b:Below w w w'):ma xs w (.returned v) w':=by obtain⟨d,c,rfl,_⟩:=h.form;exact⟨⟨d,c,rfl,(h.sl jk.ok).M jk.ok λq a=>⟨a.1.resolve_left (λh=>h),a.2⟩⟩,b⟩
theorem zr(m:Nat->Prop)(w:World)(i:Option Addr)(n c:Nat)(xs:List (List UInt8))(h:jc jk m w (.slice i n c) xs)(hn:n<=1000)(hx:∀q,m q->q<w):
  Calls prog 189 #[.slice i n c] w (ma xs w):=by
 have j:=h.len;cases i with
 |none=>
  have d:n=0:=by rcases K7 n with d|d;exact d;obtain⟨b,o,r,e,_⟩:=h.jr jk.ok 0 xs[0] (JW LC);cases e
  subst d;obtain rfl:xs=[]:=KA j.1;refine(Tryz.slices_Clone_string_nil 0 c w).M ?_;rintro e w' ⟨rfl,rfl⟩;exact ma.of (jx.nil _ _ _ _ _ _) (Below.refl _ _)
 |some a=>rcases K7 n with d|d;subst d;obtain rfl:xs=[]:=KA j.1;refine(Tryz.slices_Clone_string_zero a c w).M ?_;rintro e w' ⟨s,rfl,f,_,k⟩;exact ma.of (xd f) k;obtain⟨b,o,r,e,_,_,_⟩:=h.jr jk.ok 0 xs[0] (JW LC);injection e with e;subst e;refine(Tryz.slices_Clone_string b o n c (xs.map λx=>(⟨x.toArray⟩:ByteArray)) w LJ LC (λg t=>?_)).M ?_;have p:g<xs.length:=(by simpa using t);obtain⟨A,B,u,l,_,hr,hc⟩:=h.jr jk.ok g xs[g] (JW p);injection l with l;injection l with v y;subst v;subst y;have z:u=[tx xs[g]]:=hr;subst z;have:=hc 0 _ rfl;rw[JT,Kk]at this;rw[this];simp[p];rintro e w' ⟨s,rfl,f,_,k⟩;refine ma.of (xd ?_) k;rw[<-j.1]at f;rw[Kj LG,List.map_map]at f;exact f
theorem zt(d:Nat->Prop)(w:World)(pb:Nat)(c:Int)(f:Fl)(h:vq d w pb (jM f))(hS:∀q,d q->q<w)(a:kr f):
  Calls prog 127 #[.pointer (some ⟨pb,0,none⟩),c] w (ma (hL (iZ f) c) w):=by
 have p:(jM f).length=f.jh.length:=by simp[jM]
 obtain⟨C,n,D,hp,hs⟩:=h;have E:=iT hp 0 _ rfl;have F:=(JJ.1 hp).1;have hn:=hs.len.1;by_cases G:c<0
 .rw[CX LC];clear hp hs a
  go_enter func127,ntmps127
  go_wp2_with fail;go_ret;exact ma.of (jx.nil _ _ _ _ _ _) (Below.refl _ _)
 .by_cases I:(n:Int)<=c
  .rw[CX LC];clear hp hs a
   go_enter func127,ntmps127
   go_wp2_with fail;go_ret;exact ma.of (jx.nil _ _ _ _ _ _) (Below.refl _ _)
  obtain⟨i,rfl⟩:∃i:Nat,c=(i:Int):=⟨c.toNat,LC⟩
  obtain⟨x,hx⟩:∃x,(jM f)[i]?=some x:=Gx LC;have s:=xS a hx;rw[HE hx];obtain⟨t,J,r,rfl,u,hr,g⟩:=hs.jr ym.ok i x hx;obtain⟨v1,v2,K,rfl,b,_,_⟩:=hr;obtain⟨v,y,rfl,L⟩:=b.form;have j:=g 0 _ rfl;rw[JT]at j;have M:=hS t u;have N:(0:Int)<=(i:Int):=LC;have O:(i:Int)<(n:Int):=LC;obtain⟨m,hm⟩:=Xq x.length;rw[<-hm]at j b s;have z:=JH (zr d w v m y x b LC hS);clear hp hs hn g hm b hx a p
  go_enter func127,ntmps127
  go_wp2_with fail;refine z.o.M ?_;rintro e w' ⟨⟨P,Q,rfl,k⟩,l⟩;have A:=JH l;have B:=JH k;clear l k;go_wp2_with fail;go_ret;exact⟨⟨_,_,rfl,B.o⟩,A.o⟩
theorem zu(a:Nat)(c:Int)(f:Fl)(w:World)(h:lp w a f)(b:kr f):Calls prog 74 #[.pointer (some ⟨a,0,none⟩),c] w (ma (hL (iZ f) c) w):=by
 obtain⟨m,i,n,p,q,r,s,t,u,v,x,pb,y,c1,c2,c3,c4,hf,hp,z⟩:=h;have j:=JH (zt i w pb c f hp hf.jY b);clear hf hp b
 go_enter func74,ntmps74
 go_wp2_with fail;refine j.o.M ?_;rintro e w' ⟨⟨A,B,rfl,d⟩,g⟩;have k:=JH g;have l:=JH d;clear g d;go_wp2_with fail;go_ret;exact⟨⟨_,_,rfl,l.o⟩,k.o⟩
theorem kf(d:Nat)(c h:Int)(f:Fl)(w:World)(q:lp w d f)(B:kr f):Calls prog 28 #[.pointer (some ⟨d,0,none⟩),c,h] w (jf (.tuple #[tx (hN (iZ f) c h),.bool (lJ (iZ f) c h)]) w):=by
 have s:=JH q;have p:=JH (zu d c f w q B);have L:=q.lt;clear q B;by_cases g:lJ (iZ f) c h=true
 .rw[g];have l:kM (iZ f) c=true/\0<=h/\h<((hL (iZ f) c).length:Int):=(by simpa[lJ]using g);obtain⟨C,M,D⟩:=l;obtain⟨k,rfl⟩:∃k:Nat,h=(k:Int):=⟨h.toNat,LC⟩
  obtain⟨x,hx⟩:∃x,(hL (iZ f) c)[k]?=some x:=Gx LC;have hn:hN (iZ f) c (k:Int)=x:=by unfold hN;rw[Kn g];simp[hx]
  rw[hn];have E:=JH hx;have n:=JH C;clear hn hx g C;obtain⟨xs,F⟩:=Xq (hL (iZ f) c);rw[<-F]at p E D;obtain⟨m,hm⟩:=Xq xs.length;rw[<-hm]at D;have v:=JH hm;clear F hm
  go_enter func28,ntmps28
  go_wp2_with fail;refine p.o.M ?_;rintro e i ⟨⟨y,t,rfl,hs⟩,a⟩;rw[<-v.o]at hs⊢;have j:=JH a;obtain⟨N,O,r,rfl,G,hr,I⟩:=hs.jr jk.ok k x E.o;have J:r=[tx x]:=hr;subst J;have K:=I 0 _ rfl;rw[JT,Kk]at K;have b:=JH (jP d c f i (s.o.iU a));rw[n.o]at b;have P:=G.2;have Q:(0:Int)<=(k:Int):=LC;have R:m<=t:=LA hs.len.2;clear a hs I hr G;go_wp2_with fail;refine b.o.M ?_;rintro e z ⟨rfl,rfl⟩;go_wp2_with fail
  go_ret2
  exact⟨rfl,j.o⟩
 have u:lJ (iZ f) c h=false:=by cases hq:lJ (iZ f) c h;rfl;exact absurd hq g
 have hn:hN (iZ f) c h=[]:=by unfold hN;rw[Ka g]
 rw[u,hn];clear g hn;cases Hc:kM (iZ f) c with
 |false=>
  have n:=JH Hc;clear u Hc
  go_enter func28,ntmps28
  go_wp2_with fail;refine p.o.M ?_;rintro e i ⟨⟨y,t,rfl,hs⟩,a⟩;have j:=JH a;have b:=JH (jP d c f i (s.o.iU a));rw[n.o]at b;clear a hs;go_wp2_with fail;refine b.o.M ?_;rintro e z ⟨rfl,rfl⟩;go_wp2_with fail
  go_ret2
  exact⟨rfl,j.o⟩
 |true=>
  have l:h<0\/((hL (iZ f) c).length:Int)<=h:=by rcases Int.lt_or_le h 0 with A|A;exact .inl A;refine .inr ?_;simp[lJ,Hc,A]at u;omega
  have n:=JH Hc;obtain⟨m,hm⟩:=Xq ((hL (iZ f) c).length);rw[<-hm]at l;have v:=JH hm;clear u Hc hm;rcases l with l|l
  .go_enter func28,ntmps28
   go_wp2_with fail;refine p.o.M ?_;rintro e i ⟨⟨y,t,rfl,hs⟩,a⟩;have j:=JH a;have b:=JH (jP d c f i (s.o.iU a));rw[n.o]at b;clear a hs;go_wp2_with fail;refine b.o.M ?_;rintro e z ⟨rfl,rfl⟩;go_wp2_with fail
   go_ret2
   exact⟨rfl,j.o⟩
  have S:¬h<0:=LC
  go_enter func28,ntmps28
  go_wp2_with fail;refine p.o.M ?_;rintro e i ⟨⟨y,t,rfl,hs⟩,a⟩;rw[<-v.o]at hs⊢;have j:=JH a;have b:=JH (jP d c f i (s.o.iU a));rw[n.o]at b;clear a hs;go_wp2_with fail;refine b.o.M ?_;rintro e z ⟨rfl,rfl⟩;go_wp2_with fail
  go_ret2
  exact⟨rfl,j.o⟩
theorem BU{B:Bool}(Q:Nat->Prop)(w:World)(name:List UInt8)(R:Option Addr)(n c:Nat)(xs:List Int)(s:jc jO Q w (.slice R n c) xs)(hS:∀q,Q q->q<w)(hn:n<=4)(hr:∀x∈xs,tP B x)(aJ:name.length<=1000)(S:ow B w):
  Calls prog 71 #[tx name,.slice R n c] w (jf (tx (lO name xs)) w):=by
 obtain⟨T,F,G,t,I⟩:=Kl qi;have U:=KZ (P:=prog) w 126 9 T (Em) underlying126 F G .i64 .i64 0 (n:Int) LC LC (by rw[t];simp;omega) (by rw[I];omega) LC;rw[t,Kk,Kw,show Int.toNat 0=0 from rfl]at U;have u:=JH (And.intro F (And.intro G (And.intro t I)));obtain⟨ys,J⟩:=Xq (xs.map Lib.itoa);have A:=JH J;have d:=JH (show ys.length=n by rw[J,Kt];exact s.len.1);clear J;have ak:=JH s;have K:=JH s.len;have V:=JH hS;have W:=JH hr;have al:=JH S;clear F G t I s hS hr S
 go_enter func71,ntmps71
 go_wp2_with fail;have X:=Ba w (.cells (madeCells #[Value.string ⟨#[]⟩] n) 9);have am:=JH (show jx jk 9 1 (λ_=>False) (w.alloc (.cells (madeCells #[Value.string ⟨#[]⟩] n) 9)) w (.slice (some ⟨w,0,none⟩) 0 n) []from⟨[],World.ownsRow_made w _ n (JS _) LN (by simp[madeCells]),trivial⟩);have an:=JH X;generalize w.alloc (.cells (madeCells #[Value.string ⟨#[]⟩] n) 9)=aK at*;clear U X;go_loopw [5,13] (λv i wr=>∃(k:Nat) (l:Option Addr) (f:Nat),k<=n/\i=k/\v=.slice l k f/\jx jk 9 1 (λ_=>False) wr w (.slice l k f) (ys.take k)/\Below w w wr) (λ_ i _=>n-(intOf i).toNat);case atStart=>exact⟨0,_,_,JV _,rfl,rfl,am.o,an.o⟩
 case round=>
  obtain⟨k,l,f,aL,rfl,rfl,j,L⟩:=hrel;have Y:=JH j;have C:=JH L;have aM:=L.size;clear j L;by_cases aN:k<n
  .obtain⟨x,hx⟩:∃x,xs[k]?=some x:=Gx (LA K.o.1);obtain⟨ao,aO,r,rfl,Z,hr,aa⟩:=(ak.o.iV jO.ok (λq ap=>C.o.B q (V.o q ap))).jr jO.ok k x hx;have M:r=[.int .i64 x]:=hr;subst M;have aq:=aa 0 _ rfl;rw[JT,Kk]at aq;have aP:=V.o ao Z;have ab:=W.o x (JM hx);have ar:=JH (qm x ab wr (al.o.iU C.o));have aQ:(0:Int)<=(k:Int):=LC;have aR:(k:Int)<(n:Int):=LC;have aS:(k:Int)<=(c:Int):=LA K.o.2;have au:=JH (show ys.take (k+1)=ys.take k++[Lib.itoa x]by rw[KL,A.o,KD,hx];simp);have D:=JH (show(ys.take k).length=k by simp;have:=d.o;omega);clear hr aa Z hx ab;go_wp2_with fail;refine ar.o.M ?_;rintro e ac ⟨rfl,E⟩;have ad:=JH E;have aT:=E.size;have ae:=JH (Y.o.iU jk.ok E);have av:=JH (wM ac [tx (Lib.itoa x)] 9);clear E;go_wp2_with (at_builtin;refine kV rfl _ _ 126 rfl w.heap.size 9 T _ 1 16 underlying126 u.o.1 u.o.2.1 u.o.2.2.1 u.o.2.2.2 rfl jk.ok (λ_=>False) _ (ys.take k) rfl (ae.o.iU jk.ok (Ba _ _)) ⟨ac,0,none⟩ [tx (Lib.itoa x)] (Lib.itoa x) rfl av.o rfl ?c3 ?c4 ?c5 ?_);case c3=>rw[D.o];unfold maxLen;omega
   case c4=>rw[D.o];omega
   case c5=>first|omega|(simp;omega)
   intro v1 aU m af _;obtain⟨aw,ax,rfl,_⟩:=m.form;rw[JU,D.o,show [Lib.itoa x].length=1 from rfl]at m;rw[JU,D.o,show [Lib.itoa x].length=1 from rfl];rw[<-au.o]at m;have ay:=JH m;have az:=JH (((C.o.T (ad.o.M LC)).alloc (LA ad.o.size) _).grown af LJ (λz e=>(ae.o.ge z e).1));clear m af;go_wp2_with fail;go_roundw;case rel=>exact⟨k+1,aw,ax,LC,LI,rfl,ay.o,az.o⟩
   case measure=>simp[intOf];omega
  obtain rfl:n=k:=LC;have j:=Y.o;rw[Kj (LA d.o)]at j;have p:=j.sl jk.ok;have ag:=oQ xs (tP.all W.o);have aV:xs.length=n:=K.o.1;have aA:=d.o;have aB:=JH (show Calls prog 54 #[.slice l n f,.string ⟨#[44,32]⟩] wr (jf (tx (Lib.join ys [44,32])) wr)by
   cases l with
   |none=>
    have g:n=0:=by rcases K7 n with g|g;exact g;obtain⟨b,o,r,e,_⟩:=p.jr jk.ok 0 ys[0] (JW (LA d.o));cases e
    subst g;have N:ys=[]:=KA d.o;rw[N];refine(Tryz.strings_Join_none none f _ wr).M ?_;rintro e w' ⟨rfl,rfl⟩;exact⟨rfl,Below.refl _ _⟩
   |some a=>
    rcases K7 n with g|g;subst g;have N:ys=[]:=KA d.o;rw[N];refine(Tryz.strings_Join_none (some a) f _ wr).M ?_;rintro e w' ⟨rfl,rfl⟩;exact⟨rfl,Below.refl _ _⟩;obtain⟨b,o,r,e,aC,_,_⟩:=p.jr jk.ok 0 ys[0] (JW (LA d.o));injection e with e;subst e;have hm:((ys.map λx=>(⟨x.toArray⟩:ByteArray)).map λx=>x.data.toList)=ys:=(by rw[List.map_map];simp[Function.comp_def]);have:=Tryz.strings_Join b o f (ys.map λx=>(⟨x.toArray⟩:ByteArray)) ⟨#[44,32]⟩ wr (λah x hx=>by
     rw[KD]at hx;cases hy:ys[ah]? with
     |none=>rw[hy]at hx;cases hx
     |some y=>rw[hy]at hx;injection hx with hx;obtain⟨aW,aX,aD,O,_,hr,hc⟩:=p.jr jk.ok ah y hy;injection O with O;injection O with aE aF;subst aE aF;have M:aD=[tx y]:=hr;subst M;have:=hc 0 _ rfl;rw[JT,Kk]at this;rw[this,<-hx]) aC.2 (by rw[Kt];have:=d.o;omega) (by rw[Kt];have:=d.o;have:=p.len.2;omega) (by rw[hm,A.o];show(Lib.join _ [44,32]).length<=_;omega)
    rw[hm,Kt,d.o]at this;exact this)
  have aG:=JH (show(Lib.join ys [44,32]).length<=92 by rw[A.o];omega);have aH:=JH (show lO name xs=name++([40]++(Lib.join ys [44,32]++[41]))by rw[A.o];rfl);generalize Lib.join ys [44,32]=ai at*;clear j p ag aA;go_wp2_with fail;refine aB.o.M ?_;rintro e aY ⟨rfl,aj⟩;have aI:=JH aj;have ag:=aG.o;clear aj;go_wp2_with fail;go_ret;refine⟨?_,C.o.T (aI.o.M LC)⟩;rw[aH.o];show Ending.returned (.string (((⟨name.toArray⟩:ByteArray)++⟨[40].toArray⟩)++⟨ai.toArray⟩++⟨[41].toArray⟩))=Ending.returned (.string ⟨(name++([40]++(ai++[41]))).toArray⟩);rw[jm,jm,jm];simp only[Kh]
theorem BV{B:Bool}(aK:Nat->Prop)(w:World)(t cm:Int)(k:Nat)(p n l h d:Int)(aL:Option Addr)(m c:Nat)(xs:List Int)(b:jc jO aK w (.slice aL m c) xs)(hS:∀q,aK q->q<w)(bu:1<=m)(bv:m<=4)(hr:∀x∈xs,tP B x)(ao:tP B n)(D:ow B w):
  Calls prog 72 #[.agg #[.int .i64 t,cm,.int .u8 (k:Nat),p,n,l,h,d,.slice aL m c]] w (jf (tx (mL ⟨t,cm,k,p,n,l,h,d,xs⟩)) w):=by
 have ap:=b.len;obtain⟨s,ab⟩:∃x,xs[0]?=some x:=Gx LC;obtain⟨f,u,r,rfl,aM,aN,aO⟩:=b.jr jO.ok 0 s ab;have bf:r=[.int .i64 s]:=aN;subst bf;have aq:=aO 0 _ rfl;rw[Lz,JT]at aq;have ar:=hr s (JM ab);have aP:=hS f aM;have ac:=Ba w (.cells #[.int .i64 t,cm,.int .u8 (k:Nat),p,n,l,h,d,.slice (some ⟨f,u,none⟩) m c] 29);have au:=JH ac;have av:=JH (JK w (.cells #[.int .i64 t,cm,.int .u8 (k:Nat),p,n,l,h,d,.slice (some ⟨f,u,none⟩) m c] 29));have bg:=JH ((Cb f u (ac.B f aP)).T aq);have aw:=JH (D.iU ac);have bh:=JH b;have bw:=JH hS;have bi:=JH hr;have ad:=JH ab;have S:=JH ap;have bx:=ap.2;clear aO aN aM ab b hS hr D ac aq ap
 go_enter func72,ntmps72
 go_upto_region 1 with fail;have bj:(w.alloc (.cells #[.int .i64 t,cm,.int .u8 (k:Nat),p,n,l,h,d,.slice (some ⟨f,u,none⟩) m c] 29)).heap.size=w+1:=LG
 generalize w.alloc (.cells #[.int .i64 t,cm,.int .u8 (k:Nat),p,n,l,h,d,.slice (some ⟨f,u,none⟩) m c] 29)=T at*;obtain⟨i,aQ⟩:=Xq w.heap.size;rw[<-aQ]at av⊢;have U:i<T:=LC
 have aR:f<T:=LC
 have V:=JH av.o;obtain⟨E,F,G,I,J,L,M,N,O⟩:=ji av.o;obtain⟨W,ax⟩:∃q:List UInt8,q=if p=1 then [102,101,116,99,104,32]else [115,116,111,114,101,32]:=⟨_,rfl⟩
 have bz:W.length<=6:=by rw[ax];split<;>simp
 have P:=JH ax;clear aQ bj ax;go_step;go_step;go_step;go_step;go_step;go_step;go_step;go_step;go_cut [3] (λv bk=>v=tx W/\T=bk);case first=>
  by_cases hp:p=1
  .subst hp;go_wp2_with fail;go_meet;exact⟨by rw[P.o,Kn trivial],rfl⟩
  go_wp2_with fail;go_meet;exact⟨by rw[P.o,Ka hp],rfl⟩
 case rest=>
  obtain⟨rfl,rfl⟩:=hcut;have aS:=JH (show∀w':World,ow B w'->Calls prog 27 #[.int .i64 n] w' (jf (tx (Lib.itoa n)) w')from λw' D=>qP n ao w' D);have aT:=JH (show∀w':World,ow B w'->Calls prog 69 #[.int .i64 s,.int .i64 10] w' (jf (tx (Lib.itoa s)) w')from λw' D=>qm s ar w' D);obtain⟨ae,af⟩:=Xq (Lib.itoa n);obtain⟨ag,ah⟩:=Xq (Lib.itoa s);have bA:ae.length<=21:=(by rw[af];exact Kz n ao.1.1 ao.1.2);have bB:ag.length<=21:=(by rw[ah];exact Kz s ar.1.1 ar.1.2);rw[<-af]at aS;rw[<-ah]at aT;have ai:=JH af;have aj:=JH ah;clear af ah E F G I J L M N O;go_upto_region 4 with fail;obtain⟨ak,ay⟩:=Xq (ae++[58,32]);have bC:ak.length<=23:=(by rw[ay,JU];first|omega|(simp only[Kb,Kc];omega));have X:=JH ay;clear ay;obtain⟨al,az⟩:=Xq (ak++ag);have bD:al.length<=44:=(by rw[az,JU];first|omega|(simp only[Kb,Kc];omega));have Y:=JH az;clear az;obtain⟨j,aA⟩:=Xq (W++al);have bE:j.length<=50:=(by rw[aA,JU];first|omega|(simp only[Kb,Kc];omega));have Z:=JH aA;clear aA;refine Ri (λx=>Below T T x) (kN [(·=tx W),(Pp i 4),(·=n),(·=tx ae),(·=tx ak),(Pp i 8),(·=.slice (some ⟨f,u,none⟩) m c),(Pp f u),(·=s),(·=tx ag),(·=tx al),(·=tx j),(·=tx j)]) [] ((Below.refl _ _).drew) ⟨?_,?_,?_,?_,?_,?_,?_,?_,?_,?_,?_,?_,?_,trivial⟩ ?_;exact λ_ w a hf b hd hw=>.p 3 (hw 12 _ 3 rfl rfl rfl) ⟨rfl,a,Qa⟩;exact .f 1;intro z w a hf b hd hw;exact .l 8 (b 1 _ rfl rfl) (iT ((a.B i U).T V.o) 4 _ rfl) ⟨rfl,a,Qa⟩;intro z w a hf b hd hw;have bF:=Sv 9 b 2;replace a:=Hq a;refine .c (aS.o w (aw.o.iU a.o)) ?_;rintro e w' ⟨he,aB⟩;subst he;exact⟨_,rfl,⟨rfl,a.o.T (aB.M a.o.size),Qe⟩⟩;intro z w a hf b hd hw;have bG:=Sv 10 b 3;replace a:=Hq a;refine .h λK hK=>?_;go_simp;rw[Ka LC];exact hK ⟨(by rw[X.o];exact Km Value.string (jm (ae) ([58,32]))),a.o,Qe⟩;exact .f 1;intro z w a hf b hd hw;exact .l 12 (b 5 _ rfl rfl) (iT ((a.B i U).T V.o) 8 _ rfl) ⟨rfl,a,Qa⟩;intro z w a hf b hd hw;have bH:=Sv 13 b 6;refine .h λK hK=>?_;go_simp;rw[Kn LC];exact hK ⟨rfl,a,Qe⟩;intro z w a hf b hd hw;have g:=(Cb f u (a.B f aR)).T bg.o;exact .l 14 (b 7 _ rfl rfl) g ⟨rfl,a,Qa⟩;intro z w a hf b hd hw;have bI:=Sv 15 b 8;replace a:=Hq a;refine .c (aT.o w (aw.o.iU a.o)) ?_;rintro e w' ⟨he,aB⟩;subst he;exact⟨_,rfl,⟨rfl,a.o.T (aB.M a.o.size),Qe⟩⟩;intro z w a hf b hd hw;have bJ:=Sv 11 b 4;have bK:=Sv 16 b 9;replace a:=Hq a;refine .h λK hK=>?_;go_simp;rw[Ka LC];exact hK ⟨(by rw[Y.o];exact Km Value.string (jm (ak) (ag))),a.o,Qe⟩;intro z w a hf b hd hw;have bL:=Sv 7 b 0;have bM:=Sv 17 b 10;replace a:=Hq a;refine .h λK hK=>?_;go_simp;rw[Ka LC];exact hK ⟨(by rw[Z.o];exact Km Value.string (jm (W) (al))),a.o,Qe⟩;exact .v 18 11;intro bl aU aV aW bm;have aX:bl 12=tx j:=aW 12 LD;have A:=JH aV;clear aW bm aV;simp only[je,Act.put,JL,JP,JO,aX];clear aX;have Q:=JH (au.o.T (A.o.M au.o.size));have bN:=A.o.size;have aY:=aw.o.iU A.o;have aZ:i<aU:=LC;obtain⟨E,F,G,I,J,L,M,N,O⟩:=ji ((A.o.B i U).T V.o);by_cases aC:m=2
  .subst aC;obtain⟨R,am⟩:∃x,xs[1]?=some x:=Gx (LA S.o.1);obtain⟨bO,bP,bn,aD,bo,ba,bb⟩:=bh.o.jr jO.ok 1 R am;injection aD with aD;injection aD with bp bq;subst bp bq;have br:bn=[.int .i64 R]:=ba;subst br;have aE:=bb 0 _ rfl;rw[Nat.one_mul,JT]at aE;have bc:=(Cb f (u+1) (((A.o.B f aR).T (au.o.B f aP)))).T aE;have aF:=bi.o R (JM am);have aG:=JH (qm R aF aU aY);have bs:=Kz R aF.1.1 aF.1.2;have bd:=JH am;have bQ:(2:Int)<=(c:Int):=LC;clear ba bb bo am aE aY;obtain⟨an,aH⟩:=Xq (Lib.itoa R);rw[<-aH]at aG bs;have be:=JH aH;clear aH;by_cases aa:l=1
   .subst aa;go_wp2_with fail;refine aG.o.M ?_;rintro e aI ⟨rfl,y⟩;have aJ:=JH y;have bt:i<aI:=LA y.size;clear E F G I J L M N O bc;obtain⟨E,F,G,I,J,L,M,N,O⟩:=ji ((y.B i aZ).T ((A.o.B i U).T V.o));clear y;go_wp2_with fail;go_ret;refine⟨?_,Q.o.T (aJ.o.M Q.o.size)⟩;have e:=(show mL ⟨t,cm,k,p,n,1,h,d,xs⟩=(j++([32,61,32]++an))++[32,102,97,105,108,115]by have C:xs.length=2:=S.o.1;unfold mL;simp only[ad.o,Li,Kn C,if_true,bd.o];rw[<-P.o,<-ai.o,<-aj.o,<-be.o];simp only[Z.o,Y.o,X.o,Kh,Le,KS])
    rw[e];show Ending.returned (.string ((⟨j.toArray⟩:ByteArray)++(⟨[32,61,32].toArray⟩++⟨an.toArray⟩)++⟨[32,102,97,105,108,115].toArray⟩))=_;rw[jm,jm,jm]
   go_wp2_with fail;refine aG.o.M ?_;rintro e aI ⟨rfl,y⟩;have aJ:=JH y;have bt:i<aI:=LA y.size;clear E F G I J L M N O bc;obtain⟨E,F,G,I,J,L,M,N,O⟩:=ji ((y.B i aZ).T ((A.o.B i U).T V.o));clear y;go_wp2_with fail;go_ret;refine⟨?_,Q.o.T (aJ.o.M Q.o.size)⟩;have e:=(show mL ⟨t,cm,k,p,n,l,h,d,xs⟩=j++([32,61,32]++an)by have C:xs.length=2:=S.o.1;unfold mL;simp only[ad.o,Li,Kn C,Ka aa,bd.o];rw[<-P.o,<-ai.o,<-aj.o,<-be.o];simp only[Z.o,Y.o,X.o,Kh,Le,KS])
   rw[e];show Ending.returned (.string ((⟨j.toArray⟩:ByteArray)++(⟨[32,61,32].toArray⟩++⟨an.toArray⟩)))=_;rw[jm,jm]
  have bR:¬(m:Int)=2:=LC;by_cases aa:l=1
  .subst aa;go_wp2_with fail;go_ret;refine⟨?_,Q.o⟩;have e:=(show mL ⟨t,cm,k,p,n,1,h,d,xs⟩=j++[32,102,97,105,108,115]by have C:¬xs.length=2:=(by rw[S.o.1];exact aC);unfold mL;simp only[ad.o,Li,Ka C,if_true];rw[<-P.o,<-ai.o,<-aj.o];simp only[Z.o,Y.o,X.o,Kh,Le,KS])
   rw[e];show Ending.returned (.string ((⟨j.toArray⟩:ByteArray)++⟨[32,102,97,105,108,115].toArray⟩))=_;rw[jm]
  go_wp2_with fail;go_ret;refine⟨?_,Q.o⟩;have e:=(show mL ⟨t,cm,k,p,n,l,h,d,xs⟩=j by have C:¬xs.length=2:=(by rw[S.o.1];exact aC);unfold mL;simp only[ad.o,Li,Ka C,Ka aa];rw[<-P.o,<-ai.o,<-aj.o];simp only[Z.o,Y.o,X.o,Kh,Le,KS])
  rw[e];rfl
end Go.Proofs.YtidmdcckbdmblaaGreatDoor
namespace Go.Proofs.YtidmdcckbdmblaaGreatDoor
open Go.RowKit jJ nw Go.Proofs.Tryz
theorem jK.of{T:js}{V:PV}{w w':World}{pb pos:Nat}(h:kd T V w pb pos)(a:Below w w w'):jK T V w pb pos w':=⟨h.iU a,jv (jo a) _⟩
theorem jK.iU{T:js}{V:PV}{w0 w w':World}{pb pos:Nat}(h:jK T V w0 pb pos w)(a:Below w w w'):jK T V w0 pb pos w':=h.T (jK.of h.1 a)
theorem jK.alloc{T:js}{V:PV}{w0 w:World}{pb pos:Nat}(h:jK T V w0 pb pos w)(o:Obj):jK T V w0 pb pos (w.alloc o):=h.iU ((Below.refl _ _).alloc (JS _) o)
def CY(T:js)(V:PV)(pb q:Nat)(x:Ex)(w:World)(e:Ending)(w':World):Prop:=e=.returned (Fq x)/\jK T V w pb q w'
def wy(T:js)(V:PV)(pb pos q:Nat)(x:Ex)(f:FuncId):Prop:=∀w,kd T V w pb pos->Calls prog f #[.pointer (some ⟨pb,0,none⟩)] w (CY T V pb q x w)
theorem rb(w:World)(o:Obj):w.grownBy (w.alloc o).drew none:=AK (Kd w o none)
end Go.Proofs.YtidmdcckbdmblaaGreatDoor
