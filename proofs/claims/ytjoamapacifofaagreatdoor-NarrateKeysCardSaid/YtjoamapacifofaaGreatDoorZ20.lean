import Derived.Test.YtjoamapacifofaaGreatDoorZ14
import Derived.Test.YtjoamapacifofaaGreatDoorZ15
import Derived.Test.YtjoamapacifofaaGreatDoorZ16
set_option maxRecDepth 1000000
set_option maxHeartbeats 32000000
set_option linter.all false
namespace Go.Proofs.YtjoamapacifofaaGreatDoor
open RowKit Go.Proofs.Tryz kT Maps nu pG ChangeShapes WideShapes ChangeAt
def lN.at8{T w}{b n:Nat}(h:lN T w b n)(i:Nat)(hi:i<n):∃x:Int,w.cell? ⟨b,i,none⟩=some (.int .u32 x)/\w.frozen? ⟨b,i,none⟩=false:=by obtain⟨x,hx,hf,_⟩:=h.get hi;exact⟨x,hx,hf⟩
def Jj(b:Nat)(w0)(h:my w0 b)(ai:pL w0)(aj:(0:Nat)≠b):Calls prog 102 #[.pointer b] w0 (DY w0 b):=by
 have H:=h;have av:=ai;have I:=h.lt;have aw:=ai.lt;have p:=O0 (Ba w0 (.cells Ip 285));have m:lN 285 (w0.alloc (.cells Ip 285)) w0 64:=⟨_,O2 w0 _,by rw[zero64];simp,by rw[zero64];exact Ji 64⟩
 clear h
 go_enter func102,ntmps102
 go_wp21;generalize(w0.alloc (.cells Ip 285))=bx at*;obtain⟨r,ak⟩:=Xq w0.heap.size;rw[<-ak]at m⊢
 have bz:w0<=r:=SE
 clear ak;go_loopw [22] (λi wr=>∃k:Nat,k<=16/\i=k/\lN 285 wr r 64/\Below w0 w0 wr) (λi _=>16-(intOf i).toNat)
 .exact⟨0,SE,rfl,m,p.o⟩
 obtain⟨k,aa,rfl,m,hb⟩:=hrel;have p:=O0 hb;have al:=m.lt;by_cases y:k<16
 .have am:(0:Int)<=(k:Int):=SE;have ab:(k:Int)<16:=SE;have bA:IntKind.i64.wrap (4*(k:Int))=((4*k:Nat):Int):=SI;have ax:IntKind.i64.wrap (((4*k:Nat):Int)+4)=((4*k+4:Nat):Int):=SI;have bB:=C1 b k y wr;have bC:(k:Int)<64:=SE;go_wp21;refine sB (λx=>Below w0 w0 x/\lN 285 x r 64) (λv w=>Below w0 w0 w/\lN 285 w r 64) (mi [(·=k),(·=.slice (some ⟨b,8+4*k,none⟩) 4 (64-4*k)),(Pp b (8+4*k)),Tr,Tr,Tr,(·=.slice (some ⟨b,8+4*k,none⟩) 4 (64-4*k)),(Pp b (8+4*k+1)),Tr,Tr,Tr,Tr,(·=.slice (some ⟨b,8+4*k,none⟩) 4 (64-4*k)),(Pp b (8+4*k+2)),Tr,Tr,Tr,Tr,(·=.slice (some ⟨b,8+4*k,none⟩) 4 (64-4*k)),(Pp b (8+4*k+3)),Tr,Tr,Tr,(Pp r k),Tr]) [(3,λv w=>∃l:Int,v=.int .u8 l),(4,λv w=>∃l:Int,v=.int .u32 l),(5,λv w=>∃l:Int,v=.int .u32 l),(8,λv w=>∃l:Int,v=.int .u8 l),(9,λv w=>∃l:Int,v=.int .u32 l),(10,λv w=>∃l:Int,v=.int .u32 l),(11,λv w=>∃l:Int,v=.int .u32 l),(14,λv w=>∃l:Int,v=.int .u8 l),(15,λv w=>∃l:Int,v=.int .u32 l),(16,λv w=>∃l:Int,v=.int .u32 l),(17,λv w=>∃l:Int,v=.int .u32 l),(20,λv w=>∃l:Int,v=.int .u8 l),(21,λv w=>∃l:Int,v=.int .u32 l),(22,λv w=>∃l:Int,v=.int .u32 l)] (⟨p.o.drew,m⟩) ⟨?_,?_,?_,?_,?_,?_,?_,?_,?_,?_,?_,?_,?_,?_,?_,?_,?_,?_,?_,?_,?_,?_,?_,?_,?_,trivial⟩ ?_;exact Pf 3;exact Pf 4;intro n w j hf hv hd m;have bD:=Sv 35 hv 1;exact .q (g:=⟨rfl,j,Qa⟩);intro n w j hf hv hd m;have bE:=Sv 36 hv 2;obtain⟨z,g⟩:=(H.jP (j.1.B b I)).byte (i:=4*k) SE;replace j:=Hq j;exact .q (g:=⟨trivial,j.o,Qc ⟨_,rfl⟩<|Qa⟩);intro n w j hf hv hd m;obtain⟨bF,ay⟩:=kE hd 0;have bG:=Sl 37 ay;clear hf hv hd m;exact .q (g:=⟨trivial,j,Qb<|Qc ⟨_,rfl⟩<|Qa⟩);intro n w j hf hv hd m;obtain⟨bH,az⟩:=kE hd 1;have bI:=Sl 38 az;exact .q (g:=⟨trivial,j,Q2<|Qc ⟨_,rfl⟩<|Qa⟩);exact Pf 4;intro n w j hf hv hd m;have bJ:=Sv 40 hv 6;exact .q (g:=⟨rfl,j,Qa⟩);intro n w j hf hv hd m;have bK:=Sv 41 hv 7;obtain⟨z,g⟩:=(H.jP (j.1.B b I)).byte (i:=4*k+1) SE;rw[<-Rx]at g;replace j:=Hq j;exact .q (g:=⟨trivial,j.o,Q2<|Qb<|Qc ⟨_,rfl⟩<|Qa⟩);intro n w j hf hv hd m;obtain⟨bL,aA⟩:=kE hd 3;have bM:=Sl 42 aA;clear hf hv hd m;exact .q (g:=⟨trivial,j,Q4<|Qc ⟨_,rfl⟩<|Qa⟩);intro n w j hf hv hd m;obtain⟨bN,aB⟩:=kE hd 4;have bO:=Sl 43 aB;exact .q (g:=⟨trivial,j,Q4<|Qb<|Qc ⟨_,rfl⟩<|Qa⟩);intro n w j hf hv hd m;obtain⟨bP,aC⟩:=kE hd 2;have bQ:=Sl 39 aC;obtain⟨bR,aD⟩:=kE hd 5;have bS:=Sl 44 aD;exact .q (g:=⟨trivial,j,Q4<|Q2<|Qc ⟨_,rfl⟩<|Qa⟩);exact Pf 4;intro n w j hf hv hd m;have bT:=Sv 46 hv 12;exact .q (g:=⟨rfl,j,Qa⟩);intro n w j hf hv hd m;have bU:=Sv 47 hv 13;obtain⟨z,g⟩:=(H.jP (j.1.B b I)).byte (i:=4*k+2) SE;rw[<-Rx]at g;replace j:=Hq j;exact .q (g:=⟨trivial,j.o,Q4<|Q2<|Qb<|Qc ⟨_,rfl⟩<|Qa⟩);intro n w j hf hv hd m;obtain⟨bV,aE⟩:=kE hd 7;have bW:=Sl 48 aE;clear hf hv hd m;exact .q (g:=⟨trivial,j,Q4<|Q4<|Qc ⟨_,rfl⟩<|Qa⟩);intro n w j hf hv hd m;obtain⟨bX,aF⟩:=kE hd 8;have bY:=Sl 49 aF;exact .q (g:=⟨trivial,j,Q4<|Q4<|Qb<|Qc ⟨_,rfl⟩<|Qa⟩);intro n w j hf hv hd m;obtain⟨bZ,aG⟩:=kE hd 6;have ca:=Sl 45 aG;obtain⟨cb,aH⟩:=kE hd 9;have cc:=Sl 50 aH;exact .q (g:=⟨trivial,j,Q4<|Q4<|Q2<|Qc ⟨_,rfl⟩<|Qa⟩);exact Pf 4;intro n w j hf hv hd m;have cd:=Sv 52 hv 18;exact .q (g:=⟨rfl,j,Qa⟩);intro n w j hf hv hd m;have ce:=Sv 53 hv 19;obtain⟨z,g⟩:=(H.jP (j.1.B b I)).byte (i:=4*k+3) SE;rw[<-Rx]at g;replace j:=Hq j;exact .q (g:=⟨trivial,j.o,Q4<|Q4<|Q2<|Qb<|Qc ⟨_,rfl⟩<|Qa⟩);intro n w j hf hv hd m;obtain⟨cf,aI⟩:=kE hd 11;have cg:=Sl 54 aI;clear hf hv hd m;exact .q (g:=⟨trivial,j,Q4<|Q4<|Q4<|Qc ⟨_,rfl⟩<|Qa⟩);intro n w j hf hv hd m;obtain⟨ch,aJ⟩:=kE hd 10;have ci:=Sl 51 aJ;obtain⟨cj,aK⟩:=kE hd 12;have ck:=Sl 55 aK;exact .q (g:=⟨trivial,j,Q4<|Q4<|Q4<|Qb<|Qc ⟨_,rfl⟩<|Qa⟩);intro n w j hf hv hd m;have S:=Sl 2 (hf 2 rfl);have cl:=Sv 34 hv 0;exact .q (g:=⟨rfl,j,Qa⟩);intro n w j hf hv hd m;have cm:=Sv 57 hv 23;obtain⟨aL,aM⟩:=kE hd 13;have cn:=Sl 56 aM;obtain⟨z,g,gf,hs⟩:=j.2.get (i:=k) SE;have P:=O0 (hs aL);clear hs;replace j:=Hq j;refine .h λK hK=>?_;go_simp;exact hK (⟨jX j.o.1 SE,P.o⟩);intro T D G B;have E:=O0 B;clear G B;simp only[kK,Act.put,Px,PN,PK];go_wp21;go_roundw
  .exact⟨k+1,SE,SJ,E.o.2,E.o.1⟩
  simp[intOf];omega
 obtain rfl:k=16:=SE;obtain⟨co,rfl⟩:=Xq wr;go_wp21;go_loopw [5] (λi wr=>∃k:Nat,16<=k/\k<=64/\i=k/\Below w0 w0 wr/\lN 285 wr r 64) (λi _=>64-(intOf i).toNat)
 .exact⟨16,SE,SE,rfl,p.o,m⟩
 clear y;obtain⟨k,cp,aa,rfl,hb,m⟩:=hrel;have m:=m;have p:=O0 hb;have al:=m.lt;by_cases y:k<64
 .have ab:(k:Int)<64:=SE;have cq:IntKind.i64.wrap ((k:Int)-15)=((k-15:Nat):Int):=SI;have ax:IntKind.i64.wrap ((k:Int)-2)=((k-2:Nat):Int):=SI;have cr:IntKind.i64.wrap ((k:Int)-16)=((k-16:Nat):Int):=SI;have cs:IntKind.i64.wrap ((k:Int)-7)=((k-7:Nat):Int):=SI;have ct:IntKind.i64.wrap ((k:Int)+1)=((k+1:Nat):Int):=SI;have cu:(0:Int)<=((k-15:Nat):Int):=SE;have cv:((k-15:Nat):Int)<64:=SE;have cw:(0:Int)<=((k-2:Nat):Int):=SE;have cx:((k-2:Nat):Int)<64:=SE;have cy:(0:Int)<=((k-16:Nat):Int):=SE;have cz:((k-16:Nat):Int)<64:=SE;have cA:(0:Int)<=((k-7:Nat):Int):=SE;have cB:((k-7:Nat):Int)<64:=SE;have a0:(0:Int)<=(k:Int):=SE;obtain⟨cC,aN,_⟩:=m.at8 (k-15) SE;obtain⟨cD,c2,_⟩:=m.at8 (k-2) SE;go_upto_region 10 with fail;go_cut [5,6,7] (λt a c u=>t=k/\(∃l:Int,a=.int .u32 l)/\(∃l:Int,c=.int .u32 l)/\Below w0 w0 u/\lN 285 u r 64)
  .go_quiet (fail);go_wp21;go_meet;exact⟨rfl,⟨_,rfl⟩,⟨_,rfl⟩,p.o.T (mo (Below.refl _ _) _),m.to (mo (Below.refl _ _) _)⟩
  obtain⟨rfl,⟨J,rfl⟩,⟨L,rfl⟩,hb,m⟩:=hcut;clear aN c2;have m:=m;have p:=O0 hb;obtain⟨M,rfl⟩:=Xq wc;go_upto_region 11 with fail;go_cut [5,7,8] (λt c s u=>t=k/\c=.int .u32 L/\(∃l:Int,s=.int .u32 l)/\u=M)
  .go_wp21;apply(nH J 7 SF _).M;rintro e w' ⟨cE,rfl,rfl⟩;go_wp21;apply(nH J 18 SF _).M;rintro e w' ⟨cF,rfl,rfl⟩;go_wp21;go_meet;exact⟨rfl,rfl,⟨_,rfl⟩,rfl⟩
  obtain⟨rfl,rfl,⟨an,rfl⟩,rfl⟩:=hcut;obtain⟨M,rfl⟩:=Xq wc;go_upto_region 12 with fail;go_cut [5,8,9] (λt c s u=>t=k/\c=.int .u32 an/\(∃l:Int,s=.int .u32 l)/\u=M)
  .go_wp21;apply(nH L 17 SF _).M;rintro e w' ⟨cG,rfl,rfl⟩;go_wp21;apply(nH L 19 SF _).M;rintro e w' ⟨cH,rfl,rfl⟩;go_wp21;go_meet;exact⟨rfl,rfl,⟨_,rfl⟩,rfl⟩
  obtain⟨rfl,rfl,⟨aO,rfl⟩,rfl⟩:=hcut;obtain⟨M,rfl⟩:=Xq wc;go_upto_region 13 with fail;refine sB (λx=>Below w0 w0 x/\lN 285 x r 64) (λv w=>Below w0 w0 w/\lN 285 w r 64) (mi [(·=k),(·=k),(·=.int .i64 ((k-16:Nat):Int)),(Pp r (k-16)),Tr,(·=.int .u32 an),Tr,(·=k),(·=.int .i64 ((k-7:Nat):Int)),(Pp r (k-7)),Tr,Tr,(·=.int .u32 aO),Tr,(Pp r k),Tr]) [(4,λv w=>∃l:Int,v=.int .u32 l),(6,λv w=>∃l:Int,v=.int .u32 l),(10,λv w=>∃l:Int,v=.int .u32 l),(11,λv w=>∃l:Int,v=.int .u32 l),(13,λv w=>∃l:Int,v=.int .u32 l)] (⟨p.o.drew,m⟩) ⟨?_,?_,?_,?_,?_,?_,?_,?_,?_,?_,?_,?_,?_,?_,?_,?_,trivial⟩ ?_;exact Pf 5;exact Pf 5;intro n w j hf hv hd m;have cI:=Sv 88 hv 1;exact .q (g:=⟨rfl,j,Qa⟩);intro n w j hf hv hd m;have S:=Sl 2 (hf 2 rfl);have cJ:=Sv 89 hv 2;exact .q (g:=⟨rfl,j,Qa⟩);intro n w j hf hv hd m;have cK:=Sv 90 hv 3;obtain⟨z,g,_⟩:=j.2.at8 (k-16) SE;replace j:=Hq j;exact .q (g:=⟨trivial,j.o,Qc ⟨_,rfl⟩<|Qa⟩);exact Pf 8;intro n w j hf hv hd m;obtain⟨cL,aP⟩:=kE hd 0;have cM:=Sl 91 aP;have cN:=Sv 92 hv 5;exact .q (g:=⟨trivial,j,Qb<|Qc ⟨_,rfl⟩<|Qa⟩);exact Pf 5;intro n w j hf hv hd m;have cO:=Sv 94 hv 7;exact .q (g:=⟨rfl,j,Qa⟩);intro n w j hf hv hd m;have S:=Sl 2 (hf 2 rfl);have cP:=Sv 95 hv 8;exact .q (g:=⟨rfl,j,Qa⟩);intro n w j hf hv hd m;have cQ:=Sv 96 hv 9;obtain⟨z,g,_⟩:=j.2.at8 (k-7) SE;replace j:=Hq j;exact .q (g:=⟨trivial,j.o,Q2<|Qc ⟨_,rfl⟩<|Qa⟩);intro n w j hf hv hd m;obtain⟨cR,aQ⟩:=kE hd 1;have cS:=Sl 93 aQ;obtain⟨cT,aR⟩:=kE hd 2;have cU:=Sl 97 aR;exact .q (g:=⟨trivial,j,Q2<|Qb<|Qc ⟨_,rfl⟩<|Qa⟩);exact Pf 9;intro n w j hf hv hd m;obtain⟨cV,aS⟩:=kE hd 3;have cW:=Sl 98 aS;have cX:=Sv 99 hv 12;exact .q (g:=⟨trivial,j,Q4<|Qc ⟨_,rfl⟩<|Qa⟩);intro n w j hf hv hd m;have S:=Sl 2 (hf 2 rfl);have cY:=Sv 87 hv 0;exact .q (g:=⟨rfl,j,Qa⟩);intro n w j hf hv hd m;have cZ:=Sv 101 hv 14;obtain⟨aT,aU⟩:=kE hd 4;have da:=Sl 100 aU;obtain⟨z,g,gf,hs⟩:=j.2.get (i:=k) SE;have P:=O0 (hs aT);clear hs;replace j:=Hq j;refine .h λK hK=>?_;go_simp;exact hK (⟨jX j.o.1 SE,P.o⟩);intro T D G B;have E:=O0 B;clear G B;simp only[kK,Act.put,Px,PN,PK];go_wp21;go_roundw
  .exact⟨k+1,SE,SE,SJ,E.o.1,E.o.2⟩
  simp[intOf];omega
 obtain rfl:k=64:=SE;have db:w0.heap.size<=wr:=SE;have F:=(H.jP (p.o.B b I))
 obtain⟨u0,N⟩:=F.at8 0 SE;obtain⟨u1,c1⟩:=F.at8 1 SE;obtain⟨u2,c2⟩:=F.at8 2 SE;obtain⟨u3,c3⟩:=F.at8 3 SE;obtain⟨U,c4⟩:=F.at8 4 SE;obtain⟨V,c5⟩:=F.at8 5 SE;obtain⟨W,O⟩:=F.at8 6 SE;obtain⟨X,Y⟩:=F.at8 7 SE;obtain⟨C,ac⟩:=Xq wr.heap.size;have dc:r<C:=SE;have aV:=O0 (show Below w0 w0 (wr.alloc (.cells (oE u0 u1 u2 u3 U V W X) 237))/\lN 285 (wr.alloc (.cells (oE u0 u1 u2 u3 U V W X) 237)) r 64/\lN 237 (wr.alloc (.cells (oE u0 u1 u2 u3 U V W X) 237)) C 8 from⟨p.o.alloc SE _,m.to (Ba _ _),by rw[ac];exact lN.eight (O2 _ _)⟩);have aW:=O0 ac;clear ac;go_upto_region 15 with fail;rw[<-aW.o];generalize(wr.alloc (.cells (oE u0 u1 u2 u3 U V W X) 237))=dd at*;clear N c1 c2 c3 c4 c5 O Y;go_wp21;go_loopw [106] (λi wr=>∃k:Nat,k<=64/\i=k/\Below w0 w0 wr/\lN 285 wr r 64/\lN 237 wr C 8) (λi _=>64-(intOf i).toNat)
 .exact⟨0,SE,rfl,aV.o⟩
 clear y;obtain⟨k,aa,rfl,hb⟩:=hrel;have p:=O0 hb;have al:=hb.2.1.lt;clear hb;by_cases y:k<64
 .have am:(0:Int)<=(k:Int):=SE;have ab:(k:Int)<64:=SE;obtain⟨ad,N,_⟩:=p.o.2.2.at8 0 SE;obtain⟨ae,c1,_⟩:=p.o.2.2.at8 1 SE;obtain⟨af,c2,_⟩:=p.o.2.2.at8 2 SE;obtain⟨ag,c4,_⟩:=p.o.2.2.at8 4 SE;obtain⟨ah,c5,_⟩:=p.o.2.2.at8 5 SE;obtain⟨J,O,_⟩:=p.o.2.2.at8 6 SE;go_upto_region 18 with fail;go_cut [11,12,13,14,15,16,17,106]from 106 to 183 (λi a c d e f g Q u=>Q=k/\i=k/\(∃l:Int,a=.int .u32 l)/\(∃l:Int,c=.int .u32 l)/\(∃l:Int,d=.int .u32 l)/\(∃l:Int,e=.int .u32 l)/\(∃l:Int,f=.int .u32 l)/\(∃l:Int,g=.int .u32 l)/\Below w0 w0 u/\lN 285 u r 64/\lN 237 u C 8)
  .go_quiet (fail);go_wp21;go_meet;exact⟨rfl,rfl,⟨_,rfl⟩,⟨_,rfl⟩,⟨_,rfl⟩,⟨_,rfl⟩,⟨_,rfl⟩,⟨_,rfl⟩,p.o.1.T (mo (Below.refl _ _) _),p.o.2.1.to (mo (Below.refl _ _) _),p.o.2.2.to (mo (Below.refl _ _) _)⟩
  clear N c1 c2 c4 c5 O;obtain⟨rfl,rfl,⟨Z,rfl⟩,⟨v1,rfl⟩,⟨v2,rfl⟩,⟨v4,rfl⟩,⟨ao,rfl⟩,⟨ap,rfl⟩,hb⟩:=hcut;have p:=O0 hb;clear hb;obtain⟨M,rfl⟩:=Xq wc;go_upto_region 19 with fail;refine sB (λx=>Below w0 w0 x/\lN 285 x r 64/\lN 237 x C 8) (λv w=>(∃l:Int,v=.int .u32 l)/\Below w0 w0 w/\lN 285 w r 64/\lN 237 w C 8) (mi [(Pp C 7),Tr,(·=.int .u32 v4),Tr,(·=.int .u32 v4),Tr,Tr,(·=.int .u32 v4),Tr,Tr,Tr,(·=.int .u32 v4),(·=.int .u32 ao),Tr,(·=.int .u32 v4),Tr,(·=.int .u32 ap),Tr,Tr,Tr,(·=k),(Pp 0 k),Tr,Tr,(·=k),(Pp r k),Tr,Tr,Tr]) [(1,λv w=>∃l:Int,v=.int .u32 l),(3,λv w=>∃l:Int,v=.int .u32 l),(5,λv w=>∃l:Int,v=.int .u32 l),(6,λv w=>∃l:Int,v=.int .u32 l),(8,λv w=>∃l:Int,v=.int .u32 l),(9,λv w=>∃l:Int,v=.int .u32 l),(10,λv w=>∃l:Int,v=.int .u32 l),(13,λv w=>∃l:Int,v=.int .u32 l),(15,λv w=>∃l:Int,v=.int .u32 l),(17,λv w=>∃l:Int,v=.int .u32 l),(18,λv w=>∃l:Int,v=.int .u32 l),(19,λv w=>∃l:Int,v=.int .u32 l),(22,λv w=>∃l:Int,v=.int .u32 l),(23,λv w=>∃l:Int,v=.int .u32 l),(26,λv w=>∃l:Int,v=.int .u32 l),(27,λv w=>∃l:Int,v=.int .u32 l)] (⟨p.o.1.drew,p.o.2.1.to ((Below.refl _ _).drew),p.o.2.2.to ((Below.refl _ _).drew)⟩) ⟨?_,?_,?_,?_,?_,?_,?_,?_,?_,?_,?_,?_,?_,?_,?_,?_,?_,?_,?_,?_,?_,?_,?_,?_,?_,?_,?_,?_,?_,trivial⟩ ?_;intro n w j hf hv hd m;have de:=Sl 10 (hf 10 rfl);exact .q (g:=⟨rfl,j,Qa⟩);intro n w j hf hv hd m;have df:=Sv 121 hv 0;obtain⟨z,g,_⟩:=j.2.2.at8 7 SE;replace j:=Hq j;exact .q (g:=⟨trivial,j.o,Qc ⟨_,rfl⟩<|Qa⟩);exact Pf 15;intro n w j hf hv hd m;have dg:=Sv 123 hv 2;replace j:=Hq j;refine .c (nH v4 6 SF w) ?_;rintro e w' ⟨aq,he,R⟩;subst he;subst R;exact⟨_,rfl,⟨trivial,j.o,Qb<|Qc ⟨_,rfl⟩<|Q4<|Q4<|Q4<|Q2<|Qe⟩⟩;exact Pf 15;intro n w j hf hv hd m;have dh:=Sv 125 hv 4;replace j:=Hq j;refine .c (nH v4 11 SF w) ?_;rintro e w' ⟨aq,he,R⟩;subst he;subst R;exact⟨_,rfl,⟨trivial,j.o,Q2<|Qc ⟨_,rfl⟩<|Q4<|Q4<|Q4<|Qb<|Qe⟩⟩;intro n w j hf hv hd m;obtain⟨di,aX⟩:=kE hd 1;have dj:=Sl 124 aX;obtain⟨dk,aY⟩:=kE hd 2;have dl:=Sl 126 aY;exact .q (g:=⟨trivial,j,Q2<|Qb<|Qc ⟨_,rfl⟩<|Qa⟩);exact Pf 15;intro n w j hf hv hd m;have dm:=Sv 128 hv 7;replace j:=Hq j;refine .c (nH v4 25 SF w) ?_;rintro e w' ⟨aq,he,R⟩;subst he;subst R;exact⟨_,rfl,⟨trivial,j.o,Q4<|Qc ⟨_,rfl⟩<|Q4<|Q4<|Q2<|Qb<|Qe⟩⟩;intro n w j hf hv hd m;obtain⟨dn,aZ⟩:=kE hd 3;have dp:=Sl 127 aZ;obtain⟨dq,ba⟩:=kE hd 4;have dr:=Sl 129 ba;exact .q (g:=⟨trivial,j,Q4<|Qb<|Qc ⟨_,rfl⟩<|Qa⟩);intro n w j hf hv hd m;obtain⟨ds,bb⟩:=kE hd 0;have dt:=Sl 122 bb;obtain⟨du,bc⟩:=kE hd 5;have dv:=Sl 130 bc;exact .q (g:=⟨trivial,j,Q4<|Q2<|Qc ⟨_,rfl⟩<|Qa⟩);exact Pf 15;exact Pf 16;intro n w j hf hv hd m;have dw:=Sv 132 hv 11;have dx:=Sv 133 hv 12;exact .q (g:=⟨trivial,j,Q4<|Q2<|Qb<|Qc ⟨_,rfl⟩<|Qa⟩);exact Pf 15;intro n w j hf hv hd m;have dy:=Sv 135 hv 14;clear hf hv hd m;exact .q (g:=⟨trivial,j,Q4<|Q4<|Qc ⟨_,rfl⟩<|Qa⟩);exact Pf 17;intro n w j hf hv hd m;obtain⟨dz,bd⟩:=kE hd 8;have dA:=Sl 136 bd;have dB:=Sv 137 hv 16;exact .q (g:=⟨trivial,j,Q4<|Q4<|Qb<|Qc ⟨_,rfl⟩<|Qa⟩);intro n w j hf hv hd m;obtain⟨dC,be⟩:=kE hd 7;have dD:=Sl 134 be;obtain⟨dE,bf⟩:=kE hd 9;have dF:=Sl 138 bf;exact .q (g:=⟨trivial,j,Q4<|Q4<|Q2<|Qc ⟨_,rfl⟩<|Qa⟩);intro n w j hf hv hd m;obtain⟨dG,bg⟩:=kE hd 6;have dH:=Sl 131 bg;obtain⟨dI,bh⟩:=kE hd 10;have dJ:=Sl 139 bh;exact .q (g:=⟨trivial,j,Q4<|Q4<|Q2<|Qb<|Qc ⟨_,rfl⟩<|Qa⟩);exact Pf 11;intro n w j hf hv hd m;have dK:=Sv 141 hv 20;exact .q (g:=⟨rfl,j,Qa⟩);intro n w j hf hv hd m;have dL:=Sv 142 hv 21;obtain⟨z,g⟩:=(av.jP (j.1.B _ aw) j.1.size).kt k y;replace j:=Hq j;exact .q (g:=⟨trivial,j.o,Q4<|Q4<|Q4<|Qc ⟨_,rfl⟩<|Qa⟩);intro n w j hf hv hd m;obtain⟨dM,bi⟩:=kE hd 11;have dN:=Sl 140 bi;obtain⟨dO,bj⟩:=kE hd 12;have dP:=Sl 143 bj;exact .q (g:=⟨trivial,j,Q4<|Q4<|Q4<|Qb<|Qc ⟨_,rfl⟩<|Qa⟩);exact Pf 11;intro n w j hf hv hd m;have S:=Sl 2 (hf 2 rfl);have dQ:=Sv 145 hv 24;exact .q (g:=⟨rfl,j,Qa⟩);intro n w j hf hv hd m;have dR:=Sv 146 hv 25;obtain⟨z,g,_⟩:=j.2.1.at8 k y;replace j:=Hq j;exact .q (g:=⟨trivial,j.o,Q4<|Q4<|Q4<|Q2<|Qc ⟨_,rfl⟩<|Qa⟩);intro n w j hf hv hd m;obtain⟨dS,bk⟩:=kE hd 13;have dT:=Sl 144 bk;obtain⟨dU,bl⟩:=kE hd 14;have dV:=Sl 147 bl;exact .q (g:=⟨trivial,j,Q4<|Q4<|Q4<|Q2<|Qb<|Qc ⟨_,rfl⟩<|Qa⟩);intro n w j hf hv hd m;obtain⟨dW,bm⟩:=kE hd 15;have dX:=Sl 148 bm;replace j:=Hq j;refine .h λK hK=>?_;go_simp;exact hK (⟨⟨_,rfl⟩,j.o⟩);intro T D G B;obtain⟨⟨bn,ar⟩,hb⟩:=(show(∃l:Int,T 28=.int .u32 l)/\Below w0 w0 D/\lN 285 D r 64/\lN 237 D C 8 from B)
  have A:=O0 hb;clear hb G;simp only[kK,Act.put,Px,PN,PK,Pk,Nat.reduceAdd];simp only[ar];clear ar;go_upto_region 20 with fail;go_cut [11,12,13,14,15,16,17,18,19,106]from 106 to 183 (λi a c d e f g h s Q u=>Q=k/\i=k/\a=.int .u32 Z/\c=.int .u32 v1/\d=.int .u32 v2/\e=.int .u32 v4/\f=.int .u32 ao/\g=.int .u32 ap/\h=.int .u32 bn/\(∃l:Int,s=.int .u32 l)/\u=D)
  .go_wp21;apply(nH Z 2 SF _).M;rintro e w' ⟨dY,rfl,rfl⟩;go_wp21;apply(nH Z 13 SF _).M;rintro e w' ⟨dZ,rfl,rfl⟩;go_wp21;apply(nH Z 22 SF _).M;rintro e w' ⟨ea,rfl,rfl⟩;go_wp21;go_meet;exact⟨rfl,rfl,rfl,rfl,rfl,rfl,rfl,rfl,rfl,⟨_,rfl⟩,rfl⟩
  obtain⟨rfl,rfl,rfl,rfl,rfl,rfl,rfl,rfl,rfl,⟨eb,rfl⟩,rfl⟩:=hcut;obtain⟨D,rfl⟩:=Xq wc;obtain⟨ad,N,ec⟩:=A.o.2.2.at8 0 SE;obtain⟨ae,c1,ed⟩:=A.o.2.2.at8 1 SE;obtain⟨af,c2,ee⟩:=A.o.2.2.at8 2 SE;obtain⟨au,c3,ef⟩:=A.o.2.2.at8 3 SE;obtain⟨ag,c4,eg⟩:=A.o.2.2.at8 4 SE;obtain⟨ah,c5,eh⟩:=A.o.2.2.at8 5 SE;obtain⟨J,O,ei⟩:=A.o.2.2.at8 6 SE;obtain⟨L,Y,ej⟩:=A.o.2.2.at8 7 SE;go_wp21;go_roundw
  .refine⟨k+1,SE,SJ,?_,?_,?_⟩;repeat refine jX ?_ SE
   exact A.o.1;refine A.o.2.1.jP ?_;have aj:r≠C:=SE;repeat refine(Po _ _ _ _ aj).T ?_
   rfl;exact((((((((A.o.2.2.set 0 SE _).set 1 SE _).set 2 SE _).set 3 SE _).set 4 SE _).set 5 SE _).set 6 SE _).set 7 SE _)
  simp[intOf];omega
 obtain rfl:k=64:=SE;obtain⟨ad,N,_⟩:=p.o.2.2.at8 0 SE;obtain⟨ae,c1,_⟩:=p.o.2.2.at8 1 SE;obtain⟨af,c2,_⟩:=p.o.2.2.at8 2 SE;obtain⟨au,c3,_⟩:=p.o.2.2.at8 3 SE;obtain⟨ag,c4,_⟩:=p.o.2.2.at8 4 SE;obtain⟨ah,c5,_⟩:=p.o.2.2.at8 5 SE;obtain⟨J,O,_⟩:=p.o.2.2.at8 6 SE;obtain⟨L,Y,_⟩:=p.o.2.2.at8 7 SE;have bo:=(H.jP (p.o.1.B b I))
 have bp:w0.grownBy wr (some b):=⟨p.o.1.os,p.o.1.tape,p.o.1.output,p.o.1.size,λq bq _=>p.o.1.B q bq⟩
 obtain⟨ek,rfl⟩:=Xq wr;go_wp21;clear N c1 c2 c3 c4 c5 O Y;go_loopw [185] (λi wr=>∃k:Nat,k<=8/\i=k/\w0.grownBy wr (some b)/\my wr b) (λi _=>8-(intOf i).toNat)
 .exact⟨0,SE,rfl,bp,bo⟩
 clear y;obtain⟨k,aa,rfl,hg,br⟩:=hrel;have p:=O0 (And.intro hg br);by_cases y:k<8
 .have am:(0:Int)<=(k:Int):=SE;have ab:(k:Int)<8:=SE;go_upto_region 25 with fail;go_cut [20,21,185]from 185 to 200 (λa x Q u=>Q=k/\a=k/\(∃l:Int,x=.int .u32 l)/\u=wr)
  .obtain⟨yk,OZ⟩:=LW wr k y ad ae af au ag ah J L;go_wp21;go_meet;exact⟨rfl,rfl,⟨_,rfl⟩,rfl⟩
  obtain⟨rfl,rfl,⟨bs,rfl⟩,rfl⟩:=hcut;obtain⟨M,rfl⟩:=Xq wc;go_upto_region 26 with fail;refine sB (λx=>w0.grownBy x (some b)/\my x b) (λv w=>w0.grownBy w (some b)/\my w b) (mi [(·=.pointer b),(·=k),(·=.pointer b),(·=.pointer b),(Pp b k),Tr,(·=.int .u32 bs),Tr,(·=.pointer b),(·=.pointer b),(Pp b k),Tr]) [(5,λv w=>∃l:Int,v=.int .u32 l),(7,λv w=>∃l:Int,v=.int .u32 l)] (⟨p.o.1.T ⟨rfl,rfl,rfl,O9 _,λ_ _ _=>rfl⟩,p.o.2.jP rfl⟩) ⟨?_,?_,?_,?_,?_,?_,?_,?_,?_,?_,?_,?_,trivial⟩ ?_;exact Pf 0;exact Pf 20;exact Pv 189 0;exact Pv 191 2;intro n w j hf hv hd m;have el:=Sv 192 hv 3;have bt:=Sv 190 hv 1;exact .q (g:=⟨rfl,j,Qa⟩);intro n w j hf hv hd m;have em:=Sv 193 hv 4;obtain⟨z,g,_⟩:=j.2.word y;replace j:=Hq j;exact .q (g:=⟨trivial,j.o,Qc ⟨_,rfl⟩<|Qa⟩);exact Pf 21;intro n w j hf hv hd m;obtain⟨en,bu⟩:=kE hd 0;have eo:=Sl 194 bu;have ep:=Sv 195 hv 6;exact .q (g:=⟨trivial,j,Qb<|Qc ⟨_,rfl⟩<|Qa⟩);exact Pv 189 0;exact Pv 197 8;intro n w j hf hv hd m;have eq:=Sv 198 hv 9;have bt:=Sv 190 hv 1;exact .q (g:=⟨rfl,j,Qa⟩);intro n w j hf hv hd m;have er:=Sv 199 hv 10;obtain⟨bv,bw⟩:=kE hd 1;have es:=Sl 196 bw;obtain⟨z,g,gf,hs⟩:=j.2.word y;have P:=O0 (hs bv);clear hs;replace j:=Hq j;refine .h λK hK=>?_;go_simp;exact hK (⟨j.o.1.T (jY _ _ _ _),P.o⟩);intro T D G B;have E:=O0 B;clear G B;simp only[kK,Act.put,Px,PN,PK];go_wp21;go_roundw
  .exact⟨k+1,SE,SJ,E.o.1,E.o.2⟩
  simp[intOf];omega
 obtain rfl:k=8:=SE;go_wp21
 go_end0
 exact⟨rfl,p.o.1,p.o.2⟩
def wS(b n c:Nat)(A w)(h:my w b)(E:pL w)(l:(0:Nat)≠b)(hs:FQ b w A n)(hc:n<=c)(hn:n<=140737488355328):
  Calls prog 66 #[.pointer b,.slice A n c] w (KW w b):=by
 have H:=h;have q:=E;have F:=hs
 go_enter func66,ntmps66
 go_wp21;go_loopw [1] (λp wr=>∃(d:Option Addr) (n' f:Nat),p=.slice d n' f/\n'<=n/\n'<=f/\FQ b wr d n'/\my wr b/\w.grownBy wr (some b)) (λp _=>Nv p)
 .exact⟨_,_,_,rfl,O9 _,hc,F,H,kP _ _⟩
 obtain⟨d,n',f,rfl,ac,G,r,j,s⟩:=hrel;by_cases I:0<n'
 .obtain⟨t,kt,ad,u,ae,af,J,K,_⟩:=j.LX;have ag:IntKind.i64.wrap (kt:Int)=(kt:Int):=SI;have ah:=C2 b kt u wr;obtain⟨m,hm⟩:=Xq (min n' (64-kt));have L:m<=n':=SE;have ai:0<m:=SE;have aj:kt+m<=64:=SE;have M:=O0 hm;clear hm;have ak:IntKind.u64.wrap (m:Int)=(m:Int):=SI;have al:IntKind.i64.wrap ((kt:Int)+(m:Int))=((kt+m:Nat):Int):=SI;go_upto_region 3 with fail;go_wp2_with (refine xn rfl _ _ rfl b kt n' f (64-kt) d rfl rfl j r u I M.o ?_);intro g N v;obtain⟨am,O,x⟩:=Fa g d n' f m L G;have P:=O0 x;have Q:=(pA s v)
  have R:=(r.grown v)
  obtain⟨i,S,T,y⟩:=N.LY;have U:=O0 y;clear x y J K;have z:=(U.o (IntKind.u64.wrap (i+(m:Int))) (KV _))
  have k:=(pA Q (jY g b 72 (.int .u64 (IntKind.u64.wrap (i+(m:Int))))))
  have B:=((R.grown (jY g b 72 (.int .u64 (IntKind.u64.wrap (i+(m:Int)))))).low P.o)
  have V:=O0 (show∀a,my a b->w.grownBy a (some b)->Calls prog 102 #[.pointer b] a (DY a b)from λa W C=>Jj b a W (q.jP (C.B _ q.lt (λe=>l (by injection e))) C.size) l);by_cases an:kt+m=64
  .have X:((kt:Int)+(m:Int)==64)=true:=(by rw[P9];omega);go_upto_region 7 with fail;generalize g.setCell ⟨b,72,none⟩ (.int .u64 (IntKind.u64.wrap (i+(m:Int))))=Y at*;clear S T O;go_wp21;apply(V.o Y z k).M;rintro e ao ⟨rfl,D,Z⟩;have aa:=(pA k D)
   have ab:=(B.grown D)
   go_wp21;go_roundw
   .exact⟨_,_,_,rfl,SE,SE,ab,Z,aa⟩
   show n'-m<n';omega
  have X:((kt:Int)+(m:Int)==64)=false:=(by rw[O8];omega);go_wp21;refine⟨⟨_,_,_,rfl,SE,SE,B,z,k⟩,?_⟩;show n'-m<n';omega
 obtain rfl:n'=0:=SE;go_wp21
 go_end0
 exact⟨rfl,j,s⟩
def Hh(b:Nat)(w)(h:my w b)(aH:pL w)(bV:(0:Nat)<w):Calls prog 67 #[.pointer b] w (GD w):=by
 obtain⟨ai,hx,_⟩:=id h;obtain⟨aj,B⟩:=h.one hx;have W:=h.lt;have H:=h;have aI:=aH;have Q:Below w w (w.alloc (.cells sA 103)):=Ba w _;have C:oZ 103 (w.alloc (.cells sA 103)) w 32:=oZ.zero (O2 _ _);have ak:=O0 (show(w.alloc (.cells sA 103)).heap[b]?=some (.cells ai 240 (0,0))from(Q.B b W).T hx);have aJ:=O0 (show(w.alloc (.cells sA 103)).heap.size=w+1 from SG);have R:=O0 (And.intro aj B);clear h hx aj B
 go_enter func67,ntmps67
 go_upto_region 3 with fail;generalize(w.alloc (.cells sA 103))=D at*;obtain⟨a,X⟩:=Xq w.heap.size;rw[<-X]at C⊢;have r:=O0 X;clear X;go_upto_region 4 with(first|(refine wpList_load_mid rfl _ _ rfl b 0 rfl ai.toList _ (wh ak.o) underlying240 rfl (by rw[Qz,R.o.1];exact ym) ?_)|(refine oq rfl _ _ _ rfl D.heap.size _ _ _ rfl rfl (O2 _ _) (by rw[R.o.1];kernel_rfl) (by rw[R.o.1];exact ym) R.o.2 ?_;intro f Y E A))
 obtain⟨l,Z⟩:=Xq D.heap.size;rw[O4]at A;rw[<-Z]at Y E A⊢;have aK:a<l:=SD aJ.o r.o
 have bW:l<f:=SE
 have bX:b<a:=SC r.o
 have aa:Below l D f:=by rw[Z];exact⟨E.os,E.tape,E.output,SE,λk ab=>(E.B k SK (λe=>by injection e;omega)).T (Ph _ _ ab)⟩
 have al:=((show my D b from H.jP (Q.B b W)).same ak.o Y)
 have aL:=((show my D b from H.jP (Q.B b W)).jP (aa.B b SE))
 have aM:=(C.jP (aa.B a aK))
 have ac:Below a w f:=by rw[r.o];exact Q.T (aa.M (SC r.o))
 obtain⟨t,kt,bY,bZ,aN,aO,aP,aQ,_⟩:=al.LX;have aR:IntKind.i64.wrap (kt:Int)=(kt:Int):=SI
 have aS:IntKind.i64.wrap (56-(kt:Int))=56-(kt:Int):=SI
 have aT:IntKind.i64.wrap (56-(kt:Int)+64)=56-(kt:Int)+64:=SI
 clear Y;clear A;clear Z;go_upto_region 6 with fail;clear aP aQ;go_cut [5,23] (λv c ad=>v=.int .i64 (56-(kt:Int))/\c=.bool (decide (56-(kt:Int)<=0))/\ad=f)
 .go_wp21;go_meet;exact⟨rfl,rfl,rfl⟩
 obtain⟨rfl,rfl,rfl⟩:=hcut;obtain⟨f,rfl⟩:=Xq wc;go_step;go_cut [5] (λv ad=>(∃n:Nat,1<=n/\n<=64/\v=n)/\ad=f)
 .by_cases h9:kt<=55
  .have hc:¬(56-(kt:Int)<=0):=SE;have aU:decide (56-(kt:Int)<=0)=false:=SK;go_wp21;go_meet;exact⟨⟨56-kt,SE,SE,by congr 1;omega⟩,rfl⟩
  have hc:56-(kt:Int)<=0:=SE;have aU:decide (56-(kt:Int)<=0)=true:=SK;go_wp21;go_meet;exact⟨⟨120-kt,SE,SE,by congr 1;omega⟩,rfl⟩
 obtain⟨⟨n,ca,cb,rfl⟩,rfl⟩:=hcut;obtain⟨f,rfl⟩:=Xq wc;clear aS aT aR aN aO;obtain⟨m,aV⟩:=Xq (n+8);have cc:n<=m:=SE;have cd:m<=72:=SE;have aW:IntKind.i64.wrap ((n:Int)+8)=(m:Int):=SI;clear aV;have am:=DW n m SE SE f;obtain⟨g,F⟩:=Xq f.heap.size;rw[<-F]at am;have S:l<g:=SE;have T:=O0 F;have aX:ow (f.alloc (wg m)) g m:=⟨_,by rw[F];exact O2 _ _,yl _,DV _⟩
 have aY:Below g f (f.alloc (wg m)):=(by rw[F];exact Ba _ _);clear F;go_upto_region 9 with fail;generalize f.alloc (wg m)=aZ at*;clear am aW;obtain⟨ba,ae,an,ao⟩:=aX.get (i:=0) SE;have ap:=(ao 128)
 have G:=(jX (z:=g) (i:=0) (u:=.int .u8 128) aY (O9 _))
 clear ao;go_upto_region 10 with fail;generalize aZ.setCell g (.int .u8 128)=I at*;clear ae an;have ce:g<I:=(by obtain⟨_,bb,_⟩:=ap;exact(O3.1 bb).1);have bc:=aL.jP (G.B b SE);obtain⟨cf,cg,_,_⟩:=bc.LY;obtain⟨af,aq,J,bd⟩:=ap;have ar:=ow.ints bd J;have be:I.ownsRow g 5 1 (.slice g n m) n (af.toList.take n):=⟨by simp[J];omega,.inr ⟨g,m,af,rfl,O9 _,aq,SE,SP,SE,by rw[PG]⟩⟩
 have bf:=O0 (show∀u∈af.toList.take n,∃x:Int,u=.int .u8 x from λu hu=>ar u (QK hu));clear ar aq J;obtain⟨bg,hi,hz0,A,au⟩:=Pu DU;have U:=O0 (And.intro hi (And.intro hz0 (And.intro A au)));clear hi hz0 A au;have ch:l<I:=SE;go_wp21;apply(E9 _ I).M;rintro e av ⟨rfl,aw,j⟩;obtain⟨ax,ay⟩:=Xq I.heap.size;rw[<-ay]at aw j⊢;obtain⟨az,aA,ag,bh⟩:=aw;have aB:=ow.ints bh ag;have ci:=j.size;have cj:g<ax:=SE;have ck:g<=av:=SE;have cl:l<av:=SE;have bi:=(be.kept (row:=none) ⟨j.os,j.tape,j.output,j.size,λk ab _=>j.B k SE⟩ (.inr S0))
 have bj:=O0 aA;have bk:az.toList.length=8:=(by simpa using ag);have aC:=O0 aB;clear aA ag aB ay;go_wp2_with (at_builtin;refine Ru _ rfl _ _ 22 rfl g 5 bg (.int .u8 0) 1 1 underlying22 U.o.1 U.o.2.1 U.o.2.2.1 U.o.2.2.2 rfl SF _ _ _ rfl bi ⟨ax,0,none⟩ 8 8 az.toList rfl (by rw[bk]) ?c1 ?c2 ?c3 ?c4 ?c5 ?_);case c1=>intro bl u bm;rw[kM,Pk];exact jU bj.o bl u (by simpa using bm)
 case c2=>intro u hu;obtain⟨x,rfl⟩:=aC.o u hu;rfl
 case c3=>unfold maxLen;omega
 case c4=>omega
 case c5=>omega
 intro cm ah bn K _;obtain⟨bo,c5,rfl,bp,bq⟩:=Jk (b:=l) bn (λu hu=>by rcases QV.1 hu with h|h;exact bf.o u h;exact aC.o u h) S SE;have cn:=K.size;have br:=T.o;have V:=O0 (show∀q,q<g->ah.heap[q]?=f.heap[q]? from λq L=>(K.B q (SC j.size) (by simp[Value.ownBlock];omega)).T ((j.B q SE).T (G.B q L)));have M:Below g f ah:=⟨K.os.T (j.os.T G.os),K.tape.T (j.tape.T G.tape),K.output.T (j.output.T G.output),SC j.size,λq L=>V.o q L⟩
 have bs:=(al.jP (V.o l S))
 have bt:=(aI.jP ((V.o _ (SC r.o)).T (ac.B _ (SC r.o))) (SD ac.size M.size))
 have bu:(0:Nat)≠l:=SC r.o;clear br;go_wp21;apply(wS l (n+8) c5 bo ah bs bt bu bq bp SE).M;rintro e w6 ⟨rfl,aD,y⟩;have co:=y.size;have bv:a<w6:=SD T.o M.size;have bw:l<w6:=aD.lt;have bx:Below a w w6:=(ac.T (M.M SE)).T ⟨y.os,y.tape,y.output,y.size,λq L=>y.B q (SD T.o M.size) (λe=>by injection e;omega)⟩;have bz:=(aM.jP ((y.B a (SD T.o M.size) (λe=>by injection e;omega)).T (V.o a SE)))
 obtain⟨d,hd⟩:=Xq w6.heap.size;have p:oZ 103 (w6.alloc (.cells sA 103)) d 32:=oZ.zero (by rw[hd];exact O2 _ _);have bA:oZ 103 (w6.alloc (.cells sA 103)) a 32:=bz.jP (Ph _ _ bv);have s:my (w6.alloc (.cells sA 103)) l:=aD.jP (Ph _ _ bw);have bB:Below a w (w6.alloc (.cells sA 103)):=bx.alloc SE _;have cp:a<d:=SE;have bC:=O0 hd;clear hd;go_upto_region 12 with fail;rw[<-bC.o];generalize w6.alloc (.cells sA 103)=cq at*;obtain⟨bD,ae⟩:=s.at8 0 SE;obtain⟨bE,c1⟩:=s.at8 1 SE;obtain⟨bF,c2⟩:=s.at8 2 SE;obtain⟨bG,c3⟩:=s.at8 3 SE;obtain⟨bH,c4⟩:=s.at8 4 SE;obtain⟨bI,c5⟩:=s.at8 5 SE;obtain⟨bJ,bK⟩:=s.at8 6 SE;obtain⟨bL,bM⟩:=s.at8 7 SE;go_wp21;clear ae c1 c2 c3 c4 c5 bK bM;go_loopw [43] (λi wr=>∃k:Nat,k<=8/\i=k/\oZ 103 wr d 32/\oZ 103 wr a 32/\Below a w wr) (λi _=>8-(intOf i).toNat)
 .exact⟨0,SE,rfl,p,bA,bB⟩
 obtain⟨k,ab,rfl,p,C,aE⟩:=hrel;have cr:=p.lt;by_cases bN:k<8
 .have cs:(k:Int)<8:=SE;obtain⟨ct,cu⟩:=LW wr k bN bD bE bF bG bH bI bJ bL;have cv:IntKind.i64.wrap (4*(k:Int))=((4*k:Nat):Int):=SI;obtain⟨ba,cw,an⟩:=p.kt (i:=4*k) SE;obtain⟨cx,cy,cz⟩:=p.kt (i:=4*k+1) SE;obtain⟨cA,cB,cC⟩:=p.kt (i:=4*k+2) SE;obtain⟨cD,cE,cF⟩:=p.kt (i:=4*k+3) SE;go_wp21;go_roundw
  .refine⟨k+1,SE,SJ,?_,?_,?_⟩;exact(((p.set (4*k) _).set (4*k+1) _).set (4*k+2) _).set (4*k+3) _;refine C.jP ?_;have bO:a≠d:=SE;repeat refine(Po _ _ _ _ bO).T ?_
   rfl;repeat refine jX ?_ SE
   exact aE
  simp[intOf];omega
 obtain rfl:k=8:=SE;obtain⟨cG,rfl⟩:=Xq wr;obtain⟨N,hz,aF,bP⟩:=id p;have bQ:=O0 hz;have B:=(p.one hz).2;have bR:=O0 B;have O:=O0 (And.intro aF bP);obtain⟨bS,aG,J,_⟩:=C;have bT:=O0 aG;clear hz B aG aF;go_wp2_with (first|(refine wpList_load_mid rfl _ _ rfl d 0 rfl N.toList _ (wh bQ.o) underlying103 rfl (by rw[Qz,O.o.1];exact vx) ?_)|(refine oq rfl _ _ _ rfl a bS N _ rfl rfl bT.o (by rw[J,O.o.1]) (by rw[O.o.1];exact vx) bR.o ?_;intro cH bU P cI));have S:=r.o;refine Pa (v:=.agg N) (wT _ _ _ a N Tryz.results67 rfl bU O.o.1) rfl ⟨⟨N,rfl,O.o⟩,?_⟩;rw[<-S];exact aE.T ⟨P.os,P.tape,P.output,P.size,λq L=>P.B q SE (λe=>by injection e;omega)⟩
def Jl(A)(n c:Nat)(w)(hp:0<n->∃p o,A=some ⟨p,o,none⟩/\p<w.heap.size/\∀f,f<n->∃x:Int,w.cell? ⟨p,o+f,none⟩=some (.int .u8 x))(hc:n<=c)(hn:n<=140737488355328)(u:pL w):
  Calls prog 33 #[.slice A n c] w (GD w):=by
 have T:=O0 u;have U:=u.lt;have V:=O0 hp;have m:=O0 (show Below w w (w.alloc (.cells sA 103))from Ba w _);have F:=O0 (show oZ 103 (w.alloc (.cells sA 103)) w 32 from oZ.zero (O2 _ _));have G:=O0 (show(w.alloc (.cells sA 103)).heap.size=w+1 from SG);clear u hp
 go_enter func33,ntmps33
 go_upto_region 1 with fail;generalize(w.alloc (.cells sA 103))=I at*;obtain⟨a,y⟩:=Xq w.heap.size;rw[<-y]at F U⊢;have r:=O0 y;clear y;go_wp21;apply(Hg I).M;rintro e J ⟨rfl,s,b⟩;have hz:=G.o;have z:=r.o;obtain⟨g,K⟩:=Xq I.heap.size;rw[<-K]at s b⊢;have W:a<g:=SE
 have X:=O0 s;have B:=O0 b;have an:=s.lt;have C:=O0 (T.o.jP ((b.B _ SE).T (m.o.B _ SE)) (SD m.o.size b.size));have Y:=O0 (show FQ g J A n from λZ=>by obtain⟨p,o,e,ao,aa⟩:=V.o Z;refine⟨p,o,e,SE,SE,λf ab=>?_⟩;obtain⟨x,hx⟩:=aa f ab;exact⟨x,(Cb p (o+f) ((b.B p SE).T (m.o.B p SE))).T hx⟩)
 clear s b K hz z;go_wp21;apply(wS g n c A J X.o C.o SE Y.o hc hn).M;rintro e D ⟨rfl,L,j⟩;have ac:=O0 L;have d:=O0 j;have ap:=j.size;have M:=O0 (C.o.jP (j.B _ C.o.lt (λe=>by injection e;omega)) j.size);clear L j;have ad:(0:Nat)<D:=M.o.lt;go_wp21;apply(Hh g D ac.o M.o ad).M;rintro e ae ⟨⟨k,rfl,N,E⟩,O⟩;have P:=O0 O;have t:=O0 (And.intro N E);have Q:=O0 (show Below a w ae from by have z:=r.o;have hz:=G.o;have af:=m.o.T (B.o.M (show w<=g from SE));have R:Below w w D:=af.T ⟨d.o.os,d.o.tape,d.o.output,d.o.size,λq ag=>d.o.B q (SC B.o.size) (λe=>by injection e;omega)⟩;rw[z];exact R.T (P.o.M (SC R.size)))
 have ah:=O0 (F.o.jP ((P.o.B a SE).T ((d.o.B a SE (λe=>by injection e;omega)).T (B.o.B a W))));obtain⟨ai,S,aj,_⟩:=ah.o;have ak:=O0 S;have al:=O0 (show k.all (·.oneCell')=true from RS.2 λi hi=>by obtain⟨x,hx⟩:=E i SE;rw[Pk]at hx;rw[(O3.1 hx).2];rfl)
 clear O S N E;go_wp2_with (refine oq rfl _ _ _ rfl a ai k _ rfl rfl ak.o (by rw[aj,t.o.1]) (by rw[t.o.1];exact vx) al.o ?_;intro aq am l ar);refine Pa (v:=.agg k) (wT _ _ _ a k Tryz.results33 rfl am t.o.1) rfl ⟨⟨k,rfl,t.o⟩,?_⟩;rw[<-r.o];exact Q.o.T ⟨l.os,l.tape,l.output,l.size,λq ag=>l.B q (SD Q.o.size r.o) (λe=>by injection e;omega)⟩
def Fb(F:Nat)(c:Int)(f w)(h:pc w F f):Calls prog 37 #[.pointer F,c] w (Jn (cN (ki f) c) w):=by
 have G:=Ba w pa;have D:=O0 G;have L:=O0 (h.jQ G);have g:=O0 (O2 w pa);clear h G
 go_enter func37,ntmps37
 go_upto_region 1 with fail;generalize w.alloc pa=I at*;obtain⟨b,J⟩:=Xq w.heap.size;rw[<-J]at g D⊢;have K:=O0 J;have M:=O0 (pB F f I L.o);clear J;by_cases Z:c<0
 .have hn:cN (ki f) c=[]:=(by unfold cN;rw[Pn];rw[pQ];omega);have s:=O0 hn;obtain⟨⟨N,O,P⟩,⟨Q,R,T⟩⟩:=kz g.o;obtain⟨d,a⟩:=Xq (ky I b 0 [Em,Nl,Nl]);have t:=O0 (show d.heap[b]?=some pa from by rw[a];exact lZ (r:=[Em,Nl,Nl]) (m:=[_,_,_]) g.o rfl);have u:=O0 (show Below b w d from by rw[a];exact kQ (O9 _) D.o);have y:=O0 a;clear a hn;go_wp21;change bodyPost _ _ _ _ _ (ky I b 0 [Em,Nl,Nl]);rw[<-y.o];have hz:=t.o;have z:=jN hz 0;have A:=jN hz 1;have B:=jN hz 2;refine Pa (v:=.agg #[Em,Nl,Nl]) ?_ rfl ⟨⟨none,0,0,none,0,0,by rw[s.o]⟩,by rw[<-K.o];exact u.o⟩;simp[results,Tryz.results37,go_sem,z,A,B]
 by_cases aa:(f.jZ.length:Int)<=c
 .have hn:cN (ki f) c=[]:=(by unfold cN;rw[Pn];rw[pQ];omega);have s:=O0 hn;go_wp21;apply M.o.M;rintro e C ⟨rfl,rfl⟩;obtain⟨⟨N,O,P⟩,⟨Q,R,T⟩⟩:=kz g.o;obtain⟨d,a⟩:=Xq (ky C b 0 [Em,Nl,Nl]);have t:=O0 (show d.heap[b]?=some pa from by rw[a];exact lZ (r:=[Em,Nl,Nl]) (m:=[_,_,_]) g.o rfl);have u:=O0 (show Below b w d from by rw[a];exact kQ (O9 _) D.o);have y:=O0 a;clear a hn;go_wp21;change bodyPost _ _ _ _ _ (ky C b 0 [Em,Nl,Nl]);rw[<-y.o];have hz:=t.o;have z:=jN hz 0;have A:=jN hz 1;have B:=jN hz 2;refine Pa (v:=.agg #[Em,Nl,Nl]) ?_ rfl ⟨⟨none,0,0,none,0,0,by rw[s.o]⟩,by rw[<-K.o];exact u.o⟩;simp[results,Tryz.results37,go_sem,z,A,B]
 obtain⟨i,rfl⟩:∃i:Nat,c=(i:Int):=⟨c.toNat,SE⟩
 obtain⟨x,hx⟩:∃x,f.jZ[i]?=some x:=Gx SE;have hn:cN (ki f) (i:Int)=x.name:=by unfold cN;rw[PJ (pQ.2 ⟨SE,SE⟩)];simp[ki,hx]
 have s:=O0 hn;have U:=O0 hx;have ab:(i:Int)<(f.jZ.length:Int):=SE
 have ac:(0:Int)<=(i:Int):=SE
 clear hn hx;go_wp21;apply M.o.M;rintro e C ⟨rfl,rfl⟩;obtain⟨ad,S,ae,af,ag,ah,ai,aj,ak,al,d3,pb,V,c1,c2,c3,c4,hf,_⟩:=L.o;have hn:=hf.jZ.len.1;obtain⟨am,an,r,rfl,W,hr,E⟩:=hf.jZ.kt (lv.ok .u8) i x U.o;obtain⟨j,k,l,n,p,q,rfl,_,X⟩:=hr.qo;have Y:=E 0 _ rfl;have ao:=E 1 _ rfl;have ap:=E 2 _ rfl;rw[Pc]at Y;rw[<-hn]at c3;obtain⟨⟨N,O,P⟩,⟨Q,R,T⟩⟩:=kz g.o;obtain⟨d,a⟩:=Xq (ky C b 0 [tx x.name,.slice j k l,.slice n p q]);have t:=O0 (show d.heap[b]?=some (.cells (ka x.name j k l n p q) 112)from by rw[a];exact lZ (r:=[tx x.name,.slice j k l,.slice n p q]) (m:=[_,_,_]) g.o rfl);have u:=O0 (show Below b w d from by rw[a];exact kQ (O9 _) D.o);have y:=O0 a;clear a hf hr E X W hn V c1 c2 c4;go_wp21;change bodyPost _ _ _ _ _ (ky C b 0 [tx x.name,.slice j k l,.slice n p q]);rw[<-y.o];have hz:=t.o;have z:=jN hz 0;have A:=jN hz 1;have B:=jN hz 2;refine Pa (v:=.agg (ka x.name j k l n p q)) ?_ rfl ⟨⟨j,k,l,n,p,q,by rw[s.o]⟩,by rw[<-K.o];exact u.o⟩;simp[results,Tryz.results37,go_sem,z,A,B]
def rY(a:Nat)(c:Int)(f w)(h:pc w a f):Calls prog 17 #[.pointer a,c] w (kd (tx (cN (ki f) c)) w):=by
 have b:=(Fb a c f w h)
 have g:=BH
 go_enter func17,ntmps17
 go_wp21;apply b.M;rintro e i ⟨⟨j,k,l,m,n,p,rfl⟩,d⟩;go_wp21;go_ret;exact⟨rfl,d⟩
def Fc(u:Nat)(c:Int)(f w)(h:pc w u f):Calls prog 38 #[.pointer u,c] w (Jo (fN (ki f) c) w):=by
 have y:=Ba w so;have t:=O0 y;have D:=O0 (h.jQ y);have a:=O0 (O2 w so);clear h y
 go_enter func38,ntmps38
 go_upto_region 1 with fail;generalize w.alloc so=z at*;obtain⟨d,A⟩:=Xq w.heap.size;rw[<-A]at a t⊢;have B:=O0 A;have E:=O0 (yn u f z D.o);clear A;by_cases P:c<0
 .have hn:fN (ki f) c=[]:=(by unfold fN;rw[Pn];rw[rO];omega);have j:=O0 hn;have F:=jN a.o 0;have G:=jN a.o 1;have I:=jS a.o 0;have J:=jS a.o 1;obtain⟨g,b⟩:=Xq (ky z d 0 [Em,.bool false]);have k:=O0 (show g.heap[d]?=some so from by rw[b];exact lZ (r:=[Em,.bool false]) (m:=[_,_]) a.o rfl);have l:=O0 (show Below d w g from by rw[b];exact kQ (O9 _) t.o);have n:=O0 b;clear b hn;go_wp21;change bodyPost _ _ _ _ _ (ky z d 0 [Em,.bool false]);rw[<-n.o];have hz:=k.o;have p:=jN hz 0;have q:=jN hz 1;refine Pa (v:=.agg #[Em,false]) ?_ rfl ⟨⟨false,by rw[j.o]⟩,by rw[<-B.o];exact l.o⟩;simp[results,Tryz.results38,go_sem,p,q]
 by_cases Q:(f.km.length:Int)<=c
 .have hn:fN (ki f) c=[]:=(by unfold fN;rw[Pn];rw[rO];omega);have j:=O0 hn;go_wp21;apply E.o.M;rintro e s ⟨rfl,rfl⟩;have F:=jN a.o 0;have G:=jN a.o 1;have I:=jS a.o 0;have J:=jS a.o 1;obtain⟨g,b⟩:=Xq (ky s d 0 [Em,.bool false]);have k:=O0 (show g.heap[d]?=some so from by rw[b];exact lZ (r:=[Em,.bool false]) (m:=[_,_]) a.o rfl);have l:=O0 (show Below d w g from by rw[b];exact kQ (O9 _) t.o);have n:=O0 b;clear b hn;go_wp21;change bodyPost _ _ _ _ _ (ky s d 0 [Em,.bool false]);rw[<-n.o];have hz:=k.o;have p:=jN hz 0;have q:=jN hz 1;refine Pa (v:=.agg #[Em,false]) ?_ rfl ⟨⟨false,by rw[j.o]⟩,by rw[<-B.o];exact l.o⟩;simp[results,Tryz.results38,go_sem,p,q]
 obtain⟨i,rfl⟩:∃i:Nat,c=(i:Int):=⟨c.toNat,SE⟩
 obtain⟨x,hx⟩:∃x,f.km[i]?=some x:=Gx SE;have hn:fN (ki f) (i:Int)=x.name:=by unfold fN;rw[PJ (rO.2 ⟨SE,SE⟩)];simp[ki,hx]
 have j:=O0 hn;have K:=O0 hx;have R:(i:Int)<(f.km.length:Int):=SE
 have T:(0:Int)<=(i:Int):=SE
 clear hn hx;go_wp21;apply E.o.M;rintro e s ⟨rfl,rfl⟩;obtain⟨U,S,V,W,X,Y,Z,aa,ab,ac,d3,pb,L,c1,c2,c3,c4,hf,_⟩:=D.o;have hn:=hf.km.len.1;obtain⟨ad,ae,r,rfl,M,hr,C⟩:=hf.km.kt lM.ok i x K.o;have N:r=[tx x.name,.bool x.init]:=hr;subst N;have O:=C 0 _ rfl;have af:=C 1 _ rfl;rw[Pc]at O;rw[<-hn]at c1;have F:=jN a.o 0;have G:=jN a.o 1;have I:=jS a.o 0;have J:=jS a.o 1;obtain⟨g,b⟩:=Xq (ky s d 0 [tx x.name,.bool x.init]);have k:=O0 (show g.heap[d]?=some (rl x.name x.init)from by rw[b];exact lZ (r:=[tx x.name,.bool x.init]) (m:=[_,_]) a.o rfl);have l:=O0 (show Below d w g from by rw[b];exact kQ (O9 _) t.o);have n:=O0 b;clear b hf C M hn L c2 c3 c4;go_wp21;change bodyPost _ _ _ _ _ (ky s d 0 [tx x.name,.bool x.init]);rw[<-n.o];have hz:=k.o;have p:=jN hz 0;have q:=jN hz 1;refine Pa (v:=.agg #[tx x.name,x.init]) ?_ rfl ⟨⟨x.init,by rw[j.o]⟩,by rw[<-B.o];exact l.o⟩;simp[results,Tryz.results38,go_sem,p,q]
def wU(a:Nat)(c:Int)(f w)(h:pc w a f):Calls prog 18 #[.pointer a,c] w (kd (tx (fN (ki f) c)) w):=by
 have b:=(Fc a c f w h)
 have g:=BI
 go_enter func18,ntmps18
 go_wp21;apply b.M;rintro e i ⟨⟨j,rfl⟩,d⟩;go_wp21;go_ret;exact⟨rfl,d⟩
def AL{w}{lo:Nat}{v l}(h:w.ownsRow lo 9 1 v l.length (l.map tx)):kf kh 9 1 (λ_=>False) w lo v l:=⟨l.map λx=>[tx x],by rw[Hi];exact h,AK l⟩
def C3(S w A)(n c:Nat)(xs)(h:jT kh S w (.slice A n c) xs)(hn:n<=1000)(hx:∀q,S q->q<w):
  Calls prog 108 #[.slice A n c] w (ox xs w):=by
 have i:=h.len;cases A with
 |none=>
  have d:n=0:=by rcases Qt n with d|d;exact d;obtain⟨b,o,r,e,_⟩:=h.kt kh.ok 0 xs[0] (Pg SE);cases e
  subst d;obtain rfl:xs=[]:=PT i.1;apply(Tryz.slices_Clone_string_nil 0 c w).M;rintro e w' ⟨rfl,rfl⟩;exact ox.of (kf.nil _ _ _ _ _ _) (Below.refl _ _)
 |some a=>rcases Qt n with d|d;subst d;obtain rfl:xs=[]:=PT i.1;apply(Tryz.slices_Clone_string_zero a c w).M;rintro e w' ⟨l,rfl,f,_,hb⟩;exact ox.of (AL f) hb;obtain⟨b,o,r,e,_,_,_⟩:=h.kt kh.ok 0 xs[0] (Pg SE);injection e with e;subst e;refine(Tryz.slices_Clone_string b o n c (xs.map λx=>(⟨x.toArray⟩:ByteArray)) w SK SE (λg m=>?_)).M ?_;have k:g<xs.length:=(by simpa using m);obtain⟨t,u,p,j,_,hr,hc⟩:=h.kt kh.ok g xs[g] (Pg k);injection j with j;injection j with e3 e4;subst e3;subst e4;have s:p=[tx xs[g]]:=hr;subst s;have:=hc 0 _ rfl;rw[Pc,PG]at this;rw[this];simp[k];rintro e w' ⟨l,rfl,f,_,hb⟩;refine ox.of (AL ?_) hb;rw[<-i.1]at f;rw[Pq SG,List.map_map]at f;exact f
def C4(S w)(pb:Nat)(c:Int)(f)(h:xx S w pb (kV f))(hS:∀q,S q->q<w)(hg:mh f):
  Calls prog 70 #[.pointer pb,c] w (ox (hL (ki f) c) w):=by
 have j:(kV f).length=f.jZ.length:=by simp[kV]
 obtain⟨A,n,v,hp,hs⟩:=h;have y:=jN hp 0;have hn:=hs.len.1;by_cases z:c<0
 .rw[GF SE];clear hp hs hg
  go_enter func70,ntmps70
  go_wp21;go_ret;exact ox.of (kf.nil _ _ _ _ _ _) (Below.refl _ _)
 .by_cases B:(n:Int)<=c
  .rw[GF SE];clear hp hs hg
   go_enter func70,ntmps70
   go_wp21;go_ret;exact ox.of (kf.nil _ _ _ _ _ _) (Below.refl _ _)
  obtain⟨i,rfl⟩:∃i:Nat,c=(i:Int):=⟨c.toNat,SE⟩
  obtain⟨x,hx⟩:∃x,(kV f)[i]?=some x:=Gx SE;have k:=BJ hg hx;rw[Gg hx];obtain⟨C,D,r,rfl,E,hr,b⟩:=hs.kt BZ.ok i x hx;obtain⟨v1,v2,F,rfl,a,_,_⟩:=hr;obtain⟨l,p,rfl,G⟩:=a.form;have d:=b 0 _ rfl;rw[Pc]at d;obtain⟨I,J⟩:=mG i n;obtain⟨m,hm⟩:=Xq x.length;rw[<-hm]at d a k;have s:=O0 (C3 S w l m p x a SE hS);clear hp hs hn b hm a hx hg j
  go_enter func70,ntmps70
  go_wp21;apply s.o.M;rintro e w' ⟨⟨K,L,rfl,g⟩,hb⟩;have t:=O0 hb;have u:=O0 g;clear hb g;go_wp21;go_ret;exact⟨⟨_,_,rfl,u.o⟩,t.o⟩
def C5(a:Nat)(c:Int)(f w)(h:pc w a f)(hg:mh f):Calls prog 36 #[.pointer a,c] w (ox (hL (ki f) c) w):=by
 obtain⟨i,S,j,k,l,m,n,p,q,r,d3,pb,s,c1,c2,c3,c4,hf,hp,t⟩:=h;have b:=(C4 S w pb c f hp hf.kX hg)
 go_enter func36,ntmps36
 go_wp21;apply b.M;rintro e w' ⟨⟨u,v,rfl,d⟩,g⟩;go_wp21;go_ret;exact⟨⟨_,_,rfl,d⟩,g⟩
def nP(a:Nat)(c:Int)(f w)(h:pc w a f):Calls prog 22 #[.pointer a,c] w λe w'=>e=.returned (.bool (pE (ki f) c))/\w'=w:=by
 have d:=(pB a f w h)
 by_cases b:0<=c
 .have he:pE (ki f) c=decide (c<(f.jZ.length:Int)):=(by simp[pE,ki,b]);rw[he]
  go_enter func22,ntmps22
  go_wp21;apply d.M;rintro e g ⟨rfl,rfl⟩;go_wp21;go_ret;exact⟨rfl,rfl⟩
 have he:pE (ki f) c=false:=by simp[pE,b]
 rw[he]
 go_enter func22,ntmps22
 go_wp21;go_ret;exact⟨rfl,rfl⟩
def rZ(b:Nat)(c h:Int)(f w)(s:pc w b f)(hg:mh f):Calls prog 16 #[.pointer b,c,h] w (kd (.tuple #[tx (hN (ki f) c h),.bool (sj (ki f) c h)]) w):=by
 have p:=O0 s;have n:=O0 (C5 b c f w s hg);clear s hg;by_cases d:sj (ki f) c h=true
 .rw[d];have j:pE (ki f) c=true/\0<=h/\h<((hL (ki f) c).length:Int):=(by simpa[sj]using d);obtain⟨A,J,B⟩:=j;obtain⟨k,rfl⟩:∃k:Nat,h=(k:Int):=⟨h.toNat,SE⟩
  obtain⟨x,hx⟩:∃x,(hL (ki f) c)[k]?=some x:=Gx SE;have hn:hN (ki f) c (k:Int)=x:=by unfold hN;rw[PJ d];simp[hx]
  rw[hn];have C:=O0 hx;have l:=O0 A;clear hn hx d A;obtain⟨xs,D⟩:=Xq (hL (ki f) c);rw[<-D]at n C B;obtain⟨m,hm⟩:=Xq xs.length;rw[<-hm]at B;have t:=O0 hm;clear D hm
  go_enter func16,ntmps16
  go_wp21;apply n.o.M;rintro e g ⟨⟨u,v,rfl,hs⟩,hb⟩;rw[<-t.o]at hs⊢;have i:=O0 hb;obtain⟨K,L,r,rfl,F,hr,E⟩:=hs.kt kh.ok k x C.o;have G:r=[tx x]:=hr;subst G;have I:=E 0 _ rfl;rw[Pc,PG]at I;have a:=O0 (nP b c f g (p.o.jQ hb));rw[l.o]at a;clear hb hs E hr F;go_wp21;apply a.o.M;rintro e y ⟨rfl,rfl⟩;go_wp21
  go_ret2
  exact⟨rfl,i.o⟩
 have q:sj (ki f) c h=false:=by cases hq:sj (ki f) c h;rfl;exact absurd hq d
 have hn:hN (ki f) c h=[]:=by unfold hN;rw[Pn d]
 rw[q,hn];clear d hn;cases LL:pE (ki f) c with
 |false=>
  have l:=O0 LL;clear q LL
  go_enter func16,ntmps16
  go_wp21;apply n.o.M;rintro e g ⟨⟨u,v,rfl,hs⟩,hb⟩;have i:=O0 hb;have a:=O0 (nP b c f g (p.o.jQ hb));rw[l.o]at a;clear hb hs;go_wp21;apply a.o.M;rintro e y ⟨rfl,rfl⟩;go_wp21
  go_ret2
  exact⟨rfl,i.o⟩
 |true=>
  have j:h<0\/((hL (ki f) c).length:Int)<=h:=by rcases Int.lt_or_le h 0 with z|z;exact .inl z;refine .inr ?_;simp[sj,LL,z]at q;omega
  have l:=O0 LL;obtain⟨m,hm⟩:=Xq ((hL (ki f) c).length);rw[<-hm]at j;have t:=O0 hm;clear q LL hm;rcases j with j|j
  .go_enter func16,ntmps16
   go_wp21;apply n.o.M;rintro e g ⟨⟨u,v,rfl,hs⟩,hb⟩;have i:=O0 hb;have a:=O0 (nP b c f g (p.o.jQ hb));rw[l.o]at a;clear hb hs;go_wp21;apply a.o.M;rintro e y ⟨rfl,rfl⟩;go_wp21
   go_ret2
   exact⟨rfl,i.o⟩
  have M:¬h<0:=SE
  go_enter func16,ntmps16
  go_wp21;apply n.o.M;rintro e g ⟨⟨u,v,rfl,hs⟩,hb⟩;rw[<-t.o]at hs⊢;have i:=O0 hb;have a:=O0 (nP b c f g (p.o.jQ hb));rw[l.o]at a;clear hb hs;go_wp21;apply a.o.M;rintro e y ⟨rfl,rfl⟩;go_wp21
  go_ret2
  exact⟨rfl,i.o⟩
def mz{T:kG}{V:PV}{w}{pb pos q:Nat}(h:lz T V w pb pos)(x)(he:sk T x pos=some q)(hx:x≠[]):Calls prog 74 #[.pointer pb,tx x] w λe w'=>(∃v,e=.returned v)/\kZ T V w pb q w':=by
 unfold sk at he;by_cases a:nD T pos=x
 .rw[PJ a]at he;injection he with he;subst he;have b:=(tM h x hx)
  rw[P9.2 a]at b
  go_enter func74,ntmps74
  go_wp21;apply b.M;rintro e w' ⟨rfl,c⟩;go_wp21
  go_end0
  exact⟨⟨_,rfl⟩,c⟩
 rw[Pn a]at he;cases he
def Dc{T:kG}{V:PV}{w}{pb pos q:Nat}{b}(h:lz T V w pb pos)(hn:vP T pos=some (b,q)):Calls prog 114 #[.pointer pb] w λe w'=>e=.returned (.bool b)/\kZ T V w pb q w':=by
 have a:=O0 (tM h [116,114,117,101] SF);unfold vP at hn;by_cases c:nD T pos=[116,114,117,101]
 .rw[PJ c]at hn;injection hn with hn;injection hn with f g;subst f g;rw[P9.2 c]at a;clear h
  go_enter func114,ntmps114
  go_wp2_with fail;apply a.o.M;rintro e i ⟨rfl,hb⟩;have d:=O0 hb;clear hb;go_wp2_with fail;go_ret;exact⟨rfl,d.o⟩
 rw[Pn c]at hn;rw[Rl c]at a;by_cases hf:nD T pos=[102,97,108,115,101]
 .rw[PJ hf]at hn;injection hn with hn;injection hn with f g;subst f g;have j:=O0 (show sk T [102,97,108,115,101] pos=some (pos+1)from by unfold sk;rw[PJ hf]);clear h
  go_enter func114,ntmps114
  go_wp2_with fail;apply a.o.M;rintro e i ⟨rfl,hb⟩;have d:=O0 hb;clear hb;go_wp2_with fail;apply(mz d.o.1 _ j.o SF).M;rintro e l ⟨⟨v,rfl⟩,hb⟩;have k:=O0 hb;clear hb;go_wp2_with fail;go_ret;exact⟨rfl,d.o.T k.o⟩
 rw[Pn hf]at hn;cases hn
def yx{T:kG}{V:PV}{pb pos q:Nat}{n:Type}(r:Nat->Option (n×Nat))(xs:List n)(b:sH T r pos=some (xs,q))(s:FuncId)(C:Array Value)(aj:∀(a:Array Value) (w:World),Sem.run prog (callFunc s a) w=.ok (.enter s a) w)(f:List n->World->Prop)
  (P:∀pre w w',f pre w->w.grownBy w' (some pb)->f pre w')
  (D:∀p c x,r p=some (x,c)->p<c)
  (Q:∀pre p c x w,r p=some (x,c)->lz T V w pb p->f pre w->pre.length<=20000->Calls prog s C w λe w'=>(∃v,e=.returned v)/\lz T V w' pb c/\f (pre++[x]) w')
  (w:World) (h:lz T V w pb pos) (R:f [] w):
  Calls prog 167 #[.pointer pb,.func (.func s) #[] C] w λe w'=>(∃v,e=.returned v)/\lz T V w' pb q/\f xs w':=by
 unfold sH at b;by_cases u:nD T pos=[40]
 .rw[PJ u]at b;have H:=h;have d:=(And.intro P (And.intro D Q))
  have E:=R;have F:sk T [40] pos=some (pos+1):=(by unfold sk;rw[PJ u]);by_cases t:nD T (pos+1)=[41]
  .rw[PJ t]at b;injection b with b;injection b with S U;subst S U
   go_enter func167,ntmps167
   go_wp21;apply(mz H _ F SF).M;rintro e W ⟨⟨v,rfl⟩,y⟩;go_wp21;apply(ry y _ SF t).M;rintro e G ⟨rfl,g⟩;go_wp21;refine Pa (results_none rfl _ _ _) rfl ?_;exact⟨⟨_,rfl⟩,g.1,d.1 _ _ _ E g.2⟩
  rw[Pn t]at b;obtain⟨x,c,rest,I,rfl,X⟩:=qO b
  go_enter func167,ntmps167
  go_wp21;apply(mz H _ F SF).M;rintro e W ⟨⟨v,rfl⟩,y⟩;go_wp21;apply(lQ y _ SF t).M;rintro e G ⟨rfl,g⟩;go_wp21;apply(d.2.2 [] _ _ x G I g.1 (d.1 _ _ _ E g.2) SG).M;rintro e ak ⟨⟨al,rfl⟩,Y,Z⟩;have z:=(And.intro Y Z)
  go_wp21
  go_loopg [] (T.length-c) (λm wr=>∃(pre A:List n) (p:Nat),pre++A=x::rest/\pre.length<=p/\p+m=T.length/\lz T V wr pb p/\f pre wr/\GH T r p A q)
  .have hs:=z.1.small;have:=d.2.1 _ _ _ I;exact⟨[x],rest,c,rfl,SK,SE,z.1,z.2,X⟩
  obtain⟨pre,A,p,i,am,an,hp,J,aa⟩:=hrel;have ao:=hp.small;have K:=(kZ.refl hp)
  rcases aa with⟨hc,k,ab⟩|⟨hc,rfl,rfl⟩
  .obtain⟨L,M,ac,ad,rfl,ae⟩:=qO ab;have B:=(And.intro ad ae)
   go_wp21;apply(ry K _ SF hc).M;rintro e N ⟨rfl,j⟩;go_wp21;apply(d.2.2 pre _ _ L N B.1 j.1 (d.1 _ _ _ J j.2) SE).M;rintro e af ⟨⟨ag,rfl⟩,O,ah⟩;have l:=(And.intro O ah)
   have ap:=O.small;have D:=d.2.1 _ _ _ B.1;go_wp21
   go_roundg (T.length-M)
   case measure=>omega
   case rel=>exact⟨pre++[L],ac,M,by rw[Py];exact i,by rw[Pe];simp;omega,SE,l.1,l.2,B.2⟩
  have hn:nD T p≠[44]:=(by rw[hc];decide);have ai:sk T [41] p=some (p+1):=(by unfold sk;rw[PJ hc]);go_wp21;apply(lQ K _ SF hn).M;rintro e N ⟨rfl,j⟩;go_wp21;apply(mz j.1 _ ai SF).M;rintro e af ⟨⟨ag,rfl⟩,g⟩;have l:=(j.T g)
  go_wp21
  go_end0
  have i:=i;rw[QI]at i;exact⟨⟨_,rfl⟩,l.1,by rw[<-i];exact d.1 _ _ _ J l.2⟩
 .rw[Pn u]at b;cases b
def Fv{T:kG}{V:PV}{pb pos q bp a:Nat}{x nm b}(k w)(hx:uV T pos=some (x,q))(h:lz T V w pb pos)(hs:Iq k pb bp a nm b w)(D:V.lo<=a)(hn:b.length<=20000):
  Calls prog 168 #[.pointer a,.pointer bp] w λe w'=>(∃v,e=.returned v)/\lz T V w' pb q/\Iq k pb bp a nm (b++[x]) w':=by
 obtain⟨E,m,p,r,s⟩:=Pu K8;have i:=O0 (And.intro m (And.intro p (And.intro r s)));clear m p r s;obtain⟨v,hs⟩:=hs;obtain⟨P,Q,R,S,U,W⟩:=hs.lt;have F:=O0 hx;have H:=O0 h;have b0:=jN hs.bx 0;have X:bp<w:=SE
 have Y:a<w:=SE
 obtain⟨A,c,rfl⟩:∃A c,v=.slice A b.length c:=by
  rcases hs.own.2 with⟨rfl,G⟩|⟨g,I,Z,rfl,_⟩
  exact⟨none,0,by rw[G]⟩;exact⟨_,_,rfl⟩
 have J:=jN hs.ex 1;have K:=O0 hs;have t:b.length+1<=maxLen:=SP
 have u:(b.length+1)*16<=140737488355328:=SE
 obtain⟨n,j⟩:∃n,b.length=n:=⟨_,rfl⟩
 rw[j]at J t u;clear hx h hs
 go_enter func168,ntmps168
 go_upto_region 0 with fail;go_region_law (first|(go_simp;go_at_call 75;refine Calls.M (nQ (H.o.grown (xO w)) F.o) ?_;rintro e d ⟨rfl,y⟩;have f:=(K.o.jP (kg (xO w) _)).jP y.2;have L:=jN f.ex 1;rw[j]at f L;have l:=f.own;rw[j]at l;have aa:=f.lt.2.2.2.2.2;have M:a<d:=SE)|(refine R3 (d.alloc (.cells #[tx x] 9)) (by rfl) (.tmp 3) (.tmp 6) 78 (by rfl) k 9 E _ 1 16 underlying78 i.o.1 i.o.2.1 i.o.2.2.1 i.o.2.2.2 rfl SF (.slice A n c) n (b.map tx) (by rfl) (l.alloc _) ⟨d,0,none⟩ 1 1 [tx x] (by rfl) (by rfl) (RH (O2 d _)) (by simp[Value.oneCell']) SF t u SN (d+1) SG ?_;intro g I ab N z ac ad;have B:=K9 (x:=x) D (y.1.jQ ((Below.refl _ _).alloc (O9 _) (.cells #[tx x] 9))) (f.jP (kg (O7 d (.cells #[tx x] 9) none) _)) z j N;have C:=(z.B a SN (λe=>SC ((oG l a e.symm).1))).T ((Ph d (.cells #[tx x] 9) M).T f.ex);have ae:=jN C 1;have af:=jS C 1));all_goals
  have O:=O0 B;clear B;go_wp2_with fail
  go_end0
  exact⟨⟨_,rfl⟩,O.o⟩
def Fr.of{lo pb:Nat}{a b r}(hg:a.grownBy b r)(c:lo<=a.heap.size)(hr:∀z,r=some z->lo<=z\/z=pb):Fr lo pb a b:=
 ⟨hg.os,hg.tape,hg.output,hg.size,λq d f=>hg.B q SE (λe=>by rcases hr q e.symm with h|h<;>omega)⟩
def J1.ok{T:kG}{V:PV}{pb bp lo:Nat}{b}(hb:bp<lo/\bp≠pb)(j:V.lo<=lo)(k:lo<=b.heap.size)(pre)(p:Nat)(w)(h:J1 T V pb bp lo b pre p w):w.cell? bp=some (.pointer pb)/\∃V',lz T V' w pb p/\∀c w',kZ T V' w pb c w'->J1 T V pb bp lo b pre c w':=by obtain⟨d,g,hp,f,hf⟩:=h;have i:=hp.low.1;have l:pb<V.lo:=i;refine⟨d,_,hp,λc w' a=>⟨(Cb bp 0 (a.2.B bp (SC hf.size) (λe=>by injection e with e;omega))).T d,g,a.1,f.grown lM.ok a.2 (λz e=>by injection e with e;subst e;exact⟨λh=>h,λe=>SC ((f.ge _ e.symm).1)⟩),hf.T (Fr.of a.2 (SC hf.size) (λz e=>.inr (by injection e with e;exact e.symm)))⟩⟩
def J3.ok{T:kG}{V:PV}{pb bp lo:Nat}{b}(hb:bp<lo/\bp≠pb)(j:V.lo<=lo)(k:lo<=b.heap.size)(pre)(p:Nat)(w)(h:J3 T V pb bp lo b pre p w):w.cell? bp=some (.pointer pb)/\∃V',lz T V' w pb p/\∀c w',kZ T V' w pb c w'->J3 T V pb bp lo b pre c w':=by obtain⟨d,g,hp,f,hf⟩:=h;have i:=hp.low.1;have l:pb<V.lo:=i;refine⟨d,_,hp,λc w' a=>⟨(Cb bp 0 (a.2.B bp (SC hf.size) (λe=>by injection e with e;omega))).T d,g,a.1,f.grown (lv.ok .u8) a.2 (λz e=>by injection e with e;subst e;exact⟨SE,λe=>SC ((f.ge _ e.symm).1)⟩),hf.T (Fr.of a.2 (SC hf.size) (λz e=>.inr (by injection e with e;exact e.symm)))⟩⟩
end Go.Proofs.YtjoamapacifofaaGreatDoor
namespace Go.Dn
open Go
variable {P:Program} {ops:Array Oper} {Q:Exit→Act→World→Prop}
def vy(ops:Array Oper):Bool:=ops.all λo=>match o.op with| .defer _=>false|_=>true
def Ml{l n:Nat}{o:Oper}{a:Act}{w:World}{K:Act->World->Prop}(hd:∀c,o.op≠.defer c)(h:o.wp P a w K Q):o.wpIn (Fence.wide.inRound l) n P a w K Q:=by
 refine⟨λ_ _=>trivial,?_⟩;rw[Oper.semAt_eq _ _ _ hd];unfold Oper.wp at h;generalize(execOp a.eval o).run P w=r at*;cases r with
 |ok x w'=>cases x<;>first|exact h|exact h.elim|exact⟨(λh=>by cases h),CallsIn.inRound l (callsIn_wide.2 h)⟩|skip;refine⟨(λh=>by cases h),λc b _=>?_⟩;obtain⟨v,d,hr,hs⟩:=h c b;exact⟨v,d,hr,stepsIn_wide.2 hs⟩
 |halt x w'=>cases x<;>first|exact h|exact h.elim
def zF(h:vy ops=true){i:Nat}{o:Oper}(hi:ops[i]?=some o):∀c,o.op≠.defer c:=by intro c e;unfold vy at h;rw[Array.all_eq_true]at h;obtain⟨a,rfl⟩:=Array.getElem?_eq_some_iff.1 hi;have:=h i a;rw[e]at this;cases this
def yZ{e:Region.Mode}{l n:Nat}(hd:vy ops=true)(c:¬LetsOut Q):∀(g:Nat) (d:Array Bool) (a:Act) (w:World),wpAny P e ops Q g d a w->wpAnyIn (Fence.wide.inRound l) n P e ops Q g d a w
 |0,_,_,_,h=>h
 |g+1,d,a,w,h=>by
  refine⟨h.1,λi hi=>?_⟩;have b:=h.2 i hi;unfold wpOp at b;unfold wpOpIn;split
  rename_i he
  rw[he]at b;exact yZ hd c g _ a w b
  rename_i o f
  rw[f]at b;simp only at b;split
  rename_i hw
  rw[if_pos hw]at b;rcases b with b|b;exact Oper.wpIn_mono (λa w=>yZ hd c g _ a w) (Ml (zF hd f) b);exact absurd b.2 c
  rename_i hw
  rw[if_neg hw]at b;exact⟨λ_ _=>trivial,yZ hd c g _ _ w b⟩
end Go.Dn
namespace Go.Proofs.YtjoamapacifofaaGreatDoor
open RowKit Go.Proofs.Tryz kT Maps nu pG ChangeShapes WideShapes ChangeAt
def Dm{P:Program}{ops:List Oper}{a0:Act}{Q:Exit->Act->World->Prop}{id l k:Nat}{w0:World}(e:Dn.vy ops.toArray=true)(f:¬LetsOut Q)(G:World->Prop)(a:Value->World->Prop)(VP:Nat->Value->Prop)(D:mZ)(hm:P.follows .mixedOrders=true)(g:qT ops=true)(i:tZ ops=true)(j:0<ops.length)(n:Nat)(hn:a0.tmps.size=n)(m:(ops.all λo=>match o.dst with|some d=>decide (d<n)|none=>true)=true)(p:G {w0 with drawn:=w0.drawn+1})(q:za P ops a0 G a VP D 0 ops)
  (r:∀(b:Nat->Value) (w:World),(∀c,c<ops.length-1->VP c (b c))->a (b (ops.length-1)) w->Q .normal (kK a0 ops b 0) w):(Code.region id ops.toArray true).wpIn (Fence.wide.inRound l) k P Q a0 w0:=
 wpIn_region_any hm (Dn.yZ e f _ _ _ _ (Ag G (λ_=>a) VP D g i j n hn m p q r))
end Go.Proofs.YtjoamapacifofaaGreatDoor
namespace Go.Proofs.YtjoamapacifofaaGreatDoor
open Go.RowKit Go.Shelf kT pG Go.Proofs.Tryz
attribute [local go_sem] Oper.semAt_some
def xy(x:ke.Tok):List Value:=[.int .u8 (x.kind:Nat),.string x.text,.int .i64 (x.off:Nat)]
def zT(l:List ke.Tok):List Value:=l.flatMap xy
def Lh:(prog.info? 203).map (λi=>(i.zero,i.size,i.bytes))=some (some (.agg #[.int .u8 0,Em,.int .i64 0]),3,32):=SH
def qj:Rel ke.Tok:=λ_ _ r x=>r=xy x
def qj.ok:kF qj 3:=
 ⟨SE,λh=>by rw[h];rfl,λh u hu=>by rw[h]at hu;simp[xy]at hu;rcases hu with rfl|rfl|rfl<;>rfl,λh _=>h,λh _=>h⟩
def A7{S:Nat->Prop}{w:World}:∀(l:List ke.Tok),kJ (qj S w) (l.map xy) l
 |[]=>trivial
 |_::l=>⟨rfl,A7 l⟩
def A8(l:List ke.Tok):(l.map xy).flatten=zT l:=by simp[zT,List.flatMap]
def A9{S:Nat->Prop}{w:World}:∀{a:List (List Value)} {l:List ke.Tok},kJ (qj S w) a l->a=l.map xy
 |[],[],_=>rfl
 |_::_,_::_,⟨h1,h2⟩=>by rw[show _=xy _ from h1,A9 h2];rfl
 |[],_::_,h=>h.elim
 |_::_,[],h=>h.elim
def Cm{w:World}{lo:Nat}{v:Value}{l:List ke.Tok}(h:w.ownsRow lo 203 3 v l.length (zT l)):kf qj 203 3 (λ_=>False) w lo v l:=⟨l.map xy,by rw[A8];exact h,A7 l⟩
def tN{w:World}{lo:Nat}{v:Value}{l:List ke.Tok}(h:kf qj 203 3 (λ_=>False) w lo v l):w.ownsRow lo 203 3 v l.length (zT l):=by obtain⟨c,a,b⟩:=h.own;rw[A9 b,A8]at a;exact a
def Fx{w:World}{lo:Nat}{v:Value}{l:List ke.Tok}(h:kf qj 203 3 (λ_=>False) w lo v l)(z:Nat)(e:v.ownBlock=some z):∃q,w.heap[z]?=some q/\q.isCells=true:=by
 rcases(tN h).2 with⟨rfl,_⟩|⟨g,b,c,rfl,_,a,_⟩
 simp[Value.ownBlock]at e;obtain rfl:g=z:=by simpa[Value.ownBlock]using e
 exact⟨_,a,rfl⟩
def vq{w W:World}(hb:Below w w W)(hs:w.heap.size+1<=W)(b:Obj):(w.alloc b).grownBy W (some w.heap.size):=
 ⟨hb.os,hb.tape,hb.output,by rw[O4];exact hs,λk c d=>by
  rw[O4]at c;have a:k<w:=by rcases QT k w with h|h;exact h;exact absurd (by rw[show k=w.heap.size from SE]) d
  exact(hb.B k a).T (Ph _ _ a).symm⟩
def tC(W:World)(B:Nat)(a:Int)(v:Value):Prop:=W.heap[B]?=some (.cells #[v,.int .i64 0,a,Em,Nl,Nl,Nl,.int .i64 0,.int .i64 0] 139)
def tC.inj{W:World}{B:Nat}{b:Int}{v c:Value}(h:tC W B b v)(a:tC W B b c):v=c:=by unfold tC at h a;rw[h]at a;injection a with a;injection a with a;injection a with a;injection a
def tC.kept{W a:World}{row:Option Nat}{B:Nat}{b:Int}{v:Value}(h:tC W B b v)(hg:W.grownBy a row)(c:some B≠row):tC a B b v:=(hg.B B (O3.1 h).1 c).T h
def Li(n₀ B:Nat)(d:Int):Own (λ(pre:List ke.Tok) W=>∃v,tC W B d v/\W.ownsRow n₀ 203 3 v pre.length (zT pre)):=by
 rintro s X f row ⟨v,hv,hr⟩ hg c;refine⟨v,hv.kept hg (λb=>?_),hr.kept hg ?_⟩;obtain⟨o,a,hc⟩:=c B b.symm;rw[show X.heap[B]?=_ from hv]at a;cases a;cases hc;rcases hr.2 with⟨rfl,_⟩|⟨g,i,j,rfl,_,e,_⟩
 exact .inl rfl;refine .inr λb=>?_;obtain⟨o,a,hc⟩:=c g (by simpa[Value.ownBlock]using b.symm);rw[e]at a;cases a;cases hc
def Lj(s:ByteArray)(w:World)(e:Ending)(w':World):Prop:=
 ∃v,e=.returned (.pointer w)/\tC w' w s.size v/\w'.ownsRow (w+1) 203 3 v (ke.lexB s).length (zT (ke.lexB s))/\Below w w w'
abbrev pf(a):=(#[.slice none 0 0,.int .i64 0,.int .i64 (a:Nat),.string ⟨#[]⟩,.slice none 0 0,.slice none 0 0,.slice none 0 0,.int .i64 0,.int .i64 0]:Array Go.Value)
abbrev rn(a b c):=(#[.int .u8 (a:Nat),.string b,.int .i64 (c:Nat)]:Array Go.Value)
def Dp(s:ByteArray)(hs:s.size<=20000)(w:World)(hL:L.Laid w)(m:3+1<=w.heap.size):Calls prog 41 #[.string s] w (Lj s w):=by
 obtain⟨aU,hi,hz0,aD,aE⟩:=Pu Lh;have aV:=ke.uR s;refine(RF (n:=3)).1 ?_;have aF:Fence.wide.round=none:=rfl;refine callsIn_of_wp_marks func41 rfl trivial ?_ aF;simp only[ntmps41,Qj,PA,PE,Nat.reduceAdd,Nat.reduceSub,Sn,Sp,List.push_toArray,Ss,QJ,List.cons_append]
 gi_wp2_with (refine⟨trivial,?_⟩;gi_at_call 71;apply(RF.2 (L.Jr _ _)).mono;rintro e w' ⟨rfl,rfl⟩)
 obtain⟨I,N⟩:∃I,(((w.alloc (.cells (pf s.size) 139)).alloc (pr w.heap.size)).alloc (.cells #[.string s] 9))=I:=⟨_,rfl⟩
 have ak:I.heap.size=w.heap.size+3:=by rw[<-N];simp
 have al:Below w.heap.size w I:=by rw[<-N];exact(((Below.refl _ w).alloc (O9 _) _).alloc SG _).alloc SK _
 have aG:tC I w.heap.size s.size (.slice none 0 0):=by rw[<-N];exact(Ph _ _ SN).trans ((Ph _ _ SN).trans (O2 _ _))
 have S:Boxed I (w.heap.size+1) 132 (.pointer w.heap.size):=by rw[<-N];have:=O2 (w.alloc (.cells (pf s.size) 139)) (pr w.heap.size);rw[O4]at this;exact(Ph _ _ SN).trans this
 have am:Boxed I (w.heap.size+1+1) 9 (.string s):=by rw[<-N];have:=O2 ((w.alloc (.cells (pf s.size) 139)).alloc (pr w.heap.size)) (.cells #[.string s] 9);rw[O4,O4]at this;exact this
 rw[N];clear N;refine wpIn_rangeFunc_ownH aF SE (gf:=109) (lb:=#[.pointer (some ⟨w.heap.size+1+1,0,none⟩)]) rfl trivial (enters_of func109 SH rfl)
  (L.Db (3-1) SE (w.heap.size+1+1) w.heap.size s SP m I SE SE am (hL.jQ al m)) (L.Nx _ _) (L.Ny SE SE) (Below.refl _ _) (λ_=>rfl)
  (λpre W=>(((∃v,tC W w.heap.size s.size v/\W.ownsRow (w.heap.size+1) 203 3 v pre.length (zT pre))/\Boxed W (w.heap.size+1) 132 (.pointer w.heap.size))/\Boxed W (w.heap.size+1+1) 9 (.string s))/\Below w.heap.size w W)
  (λ_ _ _=>False)
  (SB (SB (SB (Own.from (Li _ _ _) _) (Own.from (boxed_own _ _ _) _)) (Own.from (boxed_own _ _ _) _)) (ownFrom_below (O9 _) SE))
  (λ_ _ _ _ _ hs _ _=>hs)
  ⟨⟨⟨⟨_,aG,QX _ _ _ _⟩,S⟩,am⟩,al⟩
  (λx an W=>∃v J,tC W w.heap.size s.size v/\some J≠v.ownBlock/\w.heap.size+2<J/\W.heap[J]?=some (.cells (rn x.kind x.text x.off) 203)/\an={tmps:=#[.string s,undef,.pointer none,.pointer (some ⟨w.heap.size+1,0,none⟩),.pointer (some ⟨J,0,none⟩),.string s,.int .i64 (s.size:Nat),.agg (pf s.size),.pointer w.heap.size,.string s,.int .i64 (s.size:Nat),.bool (decide ((20000:Int)<(s.size:Nat))),undef,undef,undef,undef,.string s,.func (.func 109) #[] #[.pointer (some ⟨w.heap.size+1+1,0,none⟩)],.agg (rn x.kind x.text x.off),undef,undef,undef,undef,undef,undef,undef,undef,undef,undef,undef],defers:=[]})
  (λx an _ X bD row hs hg hr=>by obtain⟨v,J,aH,aW,O,m,aX⟩:=hs;refine⟨v,J,aH.kept hg (λe=>?_),aW,O,?_,aX⟩;obtain⟨_,o,B,hc⟩:=hr _ e.symm;rw[show X.heap[w.heap.size]?=_ from aH]at B;cases B;cases hc;refine(hg.block J (O3.1 m).1 (λe=>?_)).trans m;obtain⟨_,o,B,hc⟩:=hr J e.symm;rw[m]at B;cases B;cases hc)
  ?assign ?body ?done ?stop
 case assign=>
  rintro l pre x W K ⟨⟨⟨⟨v,C,Q⟩,E⟩,p⟩,M⟩ hK;simp only[L.Kk]
  gi_wp2
  have aI:=M.size;refine hK _ _ ((KeepsOthers.alloc _ _).from _) ⟨(Below.refl _ W).alloc aI _,P3 W _ _ p.lt⟩ ⟨⟨⟨⟨v,C.kept (O7 W _ none) SG,Q.alloc _⟩,E.alloc _⟩,p.alloc _⟩,M.alloc aI _⟩ ⟨v,W.heap.size,C.kept (O7 W _ none) SG,λe=>?_,p.lt,World.alloc_heap_new W _,rfl⟩;have:=(Cm Q).ge _ e.symm;omega
 case body=>
  rintro l pre x an wr aY-⟨⟨⟨⟨v,C,Q⟩,E⟩,p⟩,M⟩ ⟨bE,T,aJ,ao,Z,S,rfl⟩ aZ;obtain rfl:=tC.inj aJ C;have r:=Cm Q;obtain⟨A,c,rfl,-⟩:=r.form;obtain⟨k,U⟩:∃k,k=pre.length:=⟨_,rfl⟩
  rw[<-U]at C r ao;obtain⟨i,aa⟩:∃i:World,i=w.alloc (.cells #[] 203):=⟨_,rfl⟩
  have R:i.heap.size=w.heap.size+1:=(by rw[aa];simp);have ap:i.grownBy wr (some w.heap.size):=(by rw[aa];exact vq M (SC E.lt) _);have ab:=O0 (show pre.length=k/\k<=20000 from⟨U.symm,SE⟩);have ac:=O0 (And.intro hi (And.intro hz0 (And.intro aD aE)));have ad:=O0 M;have aq:=O0 (show i.os=w.os/\i.tape=w.tape/\i.output=w.output by rw[aa];exact⟨rfl,rfl,rfl⟩);obtain⟨o,B⟩:∃o,o=w.heap.size:=⟨_,rfl⟩
  obtain⟨j,ae⟩:∃j,j=o+1:=⟨_,rfl⟩
  obtain⟨G,af⟩:∃G,G=j+1:=⟨_,rfl⟩
  obtain⟨ag,V⟩:∃ag:Int,ag=(s.size:Nat):=⟨_,rfl⟩
  rw[<-B]at C Z E p ap R r⊢;rw[<-ae]at E p R r⊢;rw[<-af]at p⊢;rw[<-V]at C;rw[<-R]at r;have ar:=O0 (show wr.heap[j]?=some (.cells #[.pointer (some ⟨o,0,none⟩)] 132)from E);have ba:=O0 (show wr.heap[G]?=some (.cells #[.string s] 9)from p);have bb:=O0 S;have bc:T<wr.heap.size:=(O3.1 S).1;have au:j<wr.heap.size:=E.lt;have bd:G<wr.heap.size:=p.lt;have be:T≠o:=SE;have av:j≠o:=SE;have bf:G≠o:=SE;have bg:some T≠(Value.slice A k c).ownBlock:=ao;have aw:some j≠(Value.slice A k c).ownBlock:=E.not_row SF (tN r);have bh:some G≠(Value.slice A k c).ownBlock:=p.not_row SF (tN r);have aK:=O0 (show∀z,(Value.slice A k c).ownBlock=some z->j<=z/\z<wr.heap.size/\∃q,wr.heap[z]?=some q/\q.isCells=true from λz e=>⟨SC ((r.ge z e).1),(r.ge z e).2,Fx r z e⟩);have bi:=O0 (mS.start ap C r SE);have bj:=O0 (And.intro B (And.intro ae (And.intro af (And.intro R V))));have bk:=O0 (And.intro ak Z);clear hL al aG S am C aJ Q E p M r ao Z aY aZ U aa R ap hi hz0 aD aE aV hs m V;clear B;clear ae af ak
  gi_upto_region 7 with fail
  refine Dm SH (λ⟨_,_,h⟩=>h.elim) (λx=>mS qj 203 3 (λ_=>False) i wr o #[(.slice A k c),.int .i64 0,.int .i64 ag,.string ⟨#[]⟩,.slice none 0 0,.slice none 0 0,.slice none 0 0,.int .i64 0,.int .i64 0] 139 (.slice A k c) pre x) (λv w=>∃(t:Option Addr) (y:Nat),i.grownBy w (some o)/\w.heap[o]?=some (.cells #[(.slice t (k+1) y),.int .i64 0,.int .i64 ag,.string ⟨#[]⟩,.slice none 0 0,.slice none 0 0,.slice none 0 0,.int .i64 0,.int .i64 0] 139)/\kf qj 203 3 (λ_=>False) w i.heap.size (.slice t (k+1) y) (pre++[x])/\((Value.slice t (k+1) y).ownBlock=(Value.slice A k c).ownBlock\/∃z,(Value.slice t (k+1) y).ownBlock=some z/\wr.heap.size<=z)/\wr.heap.size<=w.heap.size/\∀b,b<wr.heap.size->b≠o->some b≠(Value.slice A k c).ownBlock->w.heap[b]?=wr.heap[b]?) (mi [λv=>v=.pointer (some ⟨o,0,none⟩),λv=>v=.pointer (some ⟨o,0,none⟩),λv=>v=.pointer (some ⟨o,0,none⟩),λv=>v=.pointer (some ⟨o,0,none⟩),λv=>v=.slice A k c,λv=>v=.agg (rn x.kind x.text x.off),λv=>True,λv=>True,λv=>v=.pointer (some ⟨o,0,none⟩),λv=>v=.pointer (some ⟨o,0,none⟩),λv=>True]) [(6,λv w=>∃(b:Nat),v=.slice b 1 1/\Nw wr w b/\w.heap[b]?=some (.cells (rn x.kind x.text x.off) 203)),(7,λv w=>∃(t:Option Addr) (y:Nat),v=.slice t (k+1) y/\kf qj 203 3 (λ_=>False) w i.heap.size v (pre++[x])/\(v.ownBlock=(Value.slice A k c).ownBlock\/∃z,v.ownBlock=some z/\wr.heap.size<=z))] SH SH SH SF 30 rfl SH (bi.o.drew qj.ok) ⟨?_,?_,?_,?_,?_,?_,?_,?_,?_,?_,?_,trivial⟩ ?_;intro d w a hf hv hd hw;have e3:=kU (show d.eval (.tmp 3)=.pointer (some ⟨j,0,none⟩)from hf 3 rfl);clear hf hv hd hw;have g:=jU ((a.k j au av aw).trans ar.o) 0 _ rfl;have f:=O0 a;clear a;refine jW.ll λK hK=>?_;unfold jW;go_simp;exact hK _ _ ⟨rfl,f.o,PC.2 ⟨⟨λh=>absurd (show 6=0 from h) SF,λ_ _=>λ_ hu=>hu⟩,PC.2 ⟨⟨λh=>absurd (show 7=0 from h) SF,λ_ _=>λ_ hu=>hu⟩,P6 _⟩⟩⟩;intro d w a hf hv hd hw;have e3:=kU (show d.eval (.tmp 3)=.pointer (some ⟨j,0,none⟩)from hf 3 rfl);clear hf hv hd hw;have g:=jU ((a.k j au av aw).trans ar.o) 0 _ rfl;have f:=O0 a;clear a;refine jW.ll λK hK=>?_;unfold jW;go_simp;exact hK _ _ ⟨rfl,f.o,PC.2 ⟨⟨λh=>absurd (show 6=1 from h) SF,λ_ _=>λ_ hu=>hu⟩,PC.2 ⟨⟨λh=>absurd (show 7=1 from h) SF,λ_ h=>nomatch (show true=false from h)⟩,P6 _⟩⟩⟩;intro d w a hf hv hd hw;have bF:=kU (show d.eval (.tmp 20)=.pointer (some ⟨o,0,none⟩)from hv 1 _ rfl rfl);clear hf hv hd hw;refine jW.ll λK hK=>?_;unfold jW;go_simp;exact hK _ _ ⟨rfl,a,PC.2 ⟨⟨λh=>absurd (show 6=2 from h) SF,λ_ _=>λ_ hu=>hu⟩,PC.2 ⟨⟨λh=>absurd (show 7=2 from h) SF,λ_ _=>λ_ hu=>hu⟩,P6 _⟩⟩⟩;intro d w a hf hv hd hw;have bG:=kU (show d.eval (.tmp 21)=.pointer (some ⟨o,0,none⟩)from hv 2 _ rfl rfl);clear hf hv hd hw;refine jW.ll λK hK=>?_;unfold jW;go_simp;exact hK _ _ ⟨rfl,a,PC.2 ⟨⟨λh=>absurd (show 6=3 from h) SF,λ_ _=>λ_ hu=>hu⟩,PC.2 ⟨⟨λh=>absurd (show 7=3 from h) SF,λ_ _=>λ_ hu=>hu⟩,P6 _⟩⟩⟩;intro d w a hf hv hd hw;have bH:=kU (show d.eval (.tmp 22)=.pointer (some ⟨o,0,none⟩)from hv 3 _ rfl rfl);clear hf hv hd hw;have g:=jN a.c 0;have f:=O0 a;clear a;refine jW.ll λK hK=>?_;unfold jW;go_simp;exact hK _ _ ⟨rfl,f.o,PC.2 ⟨⟨λh=>absurd (show 6=4 from h) SF,λ_ _=>λ_ hu=>hu⟩,PC.2 ⟨⟨λh=>absurd (show 7=4 from h) SF,λ_ h=>nomatch (show true=false from h)⟩,P6 _⟩⟩⟩;intro d w a hf hv hd hw;have e4:=kU (show d.eval (.tmp 4)=.pointer T from hf 4 rfl);clear hf hv hd hw;obtain⟨⟨bI,bJ,bK⟩,_⟩:=kz ((a.k T bc be bg).trans bb.o);have f:=O0 a;clear a;refine jW.ll λK hK=>?_;unfold jW;go_simp;exact hK _ _ ⟨rfl,f.o,PC.2 ⟨⟨λh=>absurd (show 6=5 from h) SF,λ_ h=>nomatch (show true=false from h)⟩,PC.2 ⟨⟨λh=>absurd (show 7=5 from h) SF,λ_ h=>nomatch (show true=false from h)⟩,P6 _⟩⟩⟩;intro d w a hf hv hd hw;have bL:=kU (show d.eval (.tmp 24)=.agg (rn x.kind x.text x.off)from hv 5 _ rfl rfl);clear hf hv hd hw;have aL:=a.s;have f:=O0 a;clear a;refine jW.ll λK hK=>?_;unfold jW;go_simp;exact hK _ _ ⟨trivial,f.o.alloc qj.ok _,PC.2 ⟨⟨λ_=>⟨_,rfl,⟨aL,SG⟩,O2 _ _⟩,λh=>absurd rfl h⟩,PC.2 ⟨⟨λh=>absurd (show 7=6 from h) SF,λ_ h=>nomatch (show true=false from h)⟩,P6 _⟩⟩⟩;intro d w a hf hv hd hw;have bl:=kU (show d.eval (.tmp 23)=.slice A k c from hv 4 _ rfl rfl);have bm:=(show(λ(v:Value) (w:World)=>∃(b:Nat),v=.slice b 1 1/\Nw wr w b/\w.heap[b]?=some (.cells (rn x.kind x.text x.off) 203)) (d.eval (.tmp 25)) w from hd _ (List.Mem.head _) _ rfl rfl)
  obtain⟨ax,bn,bM,bo⟩:=bm;clear hf hv hd hw;have bp:=a.own;have aL:=a.s;have bN:=a.ws;have f:=O0 a;clear a;have aM:∀(ah:Nat) (u:Value),(rn x.kind x.text x.off).toList[ah]?=some u->w.cell? ((ax:Addr).add ah)=some u:=λah u bq=>(by rw[kM,Pk];exact jU bo ah u (by simpa using bq));obtain⟨br,bs,w',aN,aO,bt,ai,aP⟩:=kD (P:=prog) (w:=w) i.heap.size 137 137 203 aU _ 3 32 underlying137 ac.o.1 ac.o.2.1 ac.o.2.2.1 ac.o.2.2.2 rfl qj.ok (λ_=>False) ((.slice A k c)) (pre) bp ⟨ax,0,none⟩ (rn x.kind x.text x.off).toList x aM ((by unfold qj xy;rfl)) (by have:=ab.o;unfold maxLen;omega) (SC ab.o) SE;have bu:d.eval (.tmp 23)=(.slice A k c):=(by simp[Act.eval,bl]);have bv:d.eval (.tmp 25)=.slice ax 1 1:=bn;have bw:=ab.o.1;rw[bw]at aN aO aP;clear aM;refine jW.ll λK hK=>?_;unfold jW;simp only[execOp,resolve,invoke,builtin,PQ,PR,PB,PI,PF,PS,bu,bv,aN];exact hK _ _ ⟨trivial,f.o.app ai bt,PC.2 ⟨⟨λh=>absurd (show 6=7 from h) SF,λ_ _=>λu ⟨b,e,ay,U⟩=>⟨b,e,⟨ay.1,O1 ay.2 ((f.o.ng ai)).1⟩,(((f.o.ng ai)).2 b ay).trans U⟩⟩,PC.2 ⟨⟨λ_=>⟨br,bs,rfl,aO,aP.imp id (λh=>⟨_,h,SC ai.size⟩)⟩,λh=>absurd rfl h⟩,P6 _⟩⟩⟩;intro d w a hf hv hd hw;have bO:=kU (show d.eval (.tmp 19)=.pointer (some ⟨o,0,none⟩)from hv 0 _ rfl rfl);clear hf hv hd hw;refine jW.ll λK hK=>?_;unfold jW;go_simp;exact hK _ _ ⟨rfl,a,PC.2 ⟨⟨λh=>absurd (show 6=8 from h) SF,λ_ _=>λ_ hu=>hu⟩,PC.2 ⟨⟨λh=>absurd (show 7=8 from h) SF,λ_ _=>λ_ hu=>hu⟩,P6 _⟩⟩⟩;intro d w a hf hv hd hw;have bP:=kU (show d.eval (.tmp 27)=.pointer (some ⟨o,0,none⟩)from hv 8 _ rfl rfl);clear hf hv hd hw;refine jW.ll λK hK=>?_;unfold jW;go_simp;exact hK _ _ ⟨rfl,a,PC.2 ⟨⟨λh=>absurd (show 6=9 from h) SF,λ_ _=>λ_ hu=>hu⟩,PC.2 ⟨⟨λh=>absurd (show 7=9 from h) SF,λ_ _=>λ_ hu=>hu⟩,P6 _⟩⟩⟩;intro d w a hf hv hd hw;have bQ:=kU (show d.eval (.tmp 28)=.pointer (some ⟨o,0,none⟩)from hv 9 _ rfl rfl);have bx:=(show(λ(v:Value) (w:World)=>∃(t:Option Addr) (y:Nat),v=.slice t (k+1) y/\kf qj 203 3 (λ_=>False) w i.heap.size v (pre++[x])/\(v.ownBlock=(Value.slice A k c).ownBlock\/∃z,v.ownBlock=some z/\wr.heap.size<=z)) (d.eval (.tmp 26)) w from hd _ (List.Mem.tail _ (List.Mem.head _)) _ rfl rfl)
  obtain⟨t,y,Y,aQ,bz⟩:=bx;have bR:=kU Y;clear hf hv hd hw;have az:=O0 aQ;clear aQ;have aA:=a.c;have bS:=jS aA 0;have hce:=jN aA 0;clear aA;have f:=O0 a;clear a;refine jW.ll λK hK=>?_;unfold jW;go_simp;exact hK _ _ (⟨t,y,(f.o.set qj.ok (λ_ h=>h.elim) (by have F:=az.o;rw[Y]at F;exact F) 0 _ rfl).1,(f.o.set qj.ok (λ_ h=>h.elim) (by have F:=az.o;rw[Y]at F;exact F) 0 _ rfl).2.1,(f.o.set qj.ok (λ_ h=>h.elim) (by have F:=az.o;rw[Y]at F;exact F) 0 _ rfl).2.2,(by have F:=bz;rw[Y]at F;exact F),(by rw[O6];exact f.o.s),(λb hb O m=>(Pd _ _ _ _ O).trans (f.o.k b hb O m))⟩);intro bT aR bU bA;obtain⟨t,y,aB,bB,bC,bV,aS,aj⟩:=bA;obtain⟨B,ae,af,R,V⟩:=bj.o;obtain⟨ak,Z⟩:=bk.o;have aC:Below o wr aR:=⟨aB.os.trans (aq.o.1.trans ad.o.os.symm),aB.tape.trans (aq.o.2.1.trans ad.o.tape.symm),aB.output.trans (aq.o.2.2.trans ad.o.output.symm),aS,λb hb=>aj b SE SE (λe=>SC ((aK.o b e.symm).1))⟩
  have aT:aR.heap[G]?=wr.heap[G]?:=aj G bd bf bh;refine⟨⟨aS,λq bW bX hb hc=>(aj q (O3.1 hb).1 SE (λe=>?_)).trans hb⟩,⟨aC,aT⟩,⟨⟨⟨⟨.slice t (k+1) y,?_,?_⟩,?_⟩,?_⟩,?_⟩⟩;obtain⟨_,_,bY,O,m⟩:=aK.o q e.symm;rw[hb]at O;cases O;rw[hc]at m;cases m;rw[<-V];exact bB;have:=tN bC;rw[R]at this;simpa[ab.o.1]using this;exact(aj j au av aw).trans ar.o;exact aT.trans ba.o;rw[B]at aC⊢;exact ad.o.trans aC
 case done=>
  rintro D ys W bZ rfl ⟨⟨⟨⟨v,C,Q⟩,E⟩,p⟩,M⟩ hK;have hc:=E.cell
  gi_wp2
  refine⟨SG,.inl ⟨_,_,rfl,run_takeDeferred hK,?_⟩⟩;exact⟨_,results_tmp rfl _ _ _,v,rfl,C.kept (grownBy_putObj' W D _) (λe=>by injection e with e;omega),ownsRow_putObj Q _ hK rfl,M.trans (belowK_b (w:=w) (O9 _) W D _ _ SE hK rfl rfl)⟩
 case stop=>rintro D c pre W _ _ h _;exact h.elim
end Go.Proofs.YtjoamapacifofaaGreatDoor
namespace Go.Proofs.YtjoamapacifofaaGreatDoor
open RowKit Go.Proofs.Tryz kT Maps nu pG ChangeShapes WideShapes ChangeAt
def Mn{s w'}{lo pb:Nat}{v}(h:tC w' pb s.size v)(hr:w'.ownsRow lo 203 3 v (ke.lexB s).length (zT (ke.lexB s)))(D:pb<lo)(n:(ke.lexB s).length<=20000)(p:0<(ke.lexB s).length):
  lz (ke.lexB s) ⟨Em,Nl,Nl,Nl,w'⟩ w' pb 0:=by
 have i:=Cm hr;obtain⟨A,c,rfl,hc,E⟩:=i.form;have q:=i.sl qj.ok;have t:=i.ge;obtain⟨F,G⟩:∃x,(ke.lexB s)[0]?=some x:=Gx p;have u:∃d,A=some ⟨d,0,none⟩:=by
  rcases hr.2 with⟨a,_⟩|⟨g,I,J,a,_⟩
  injection a with a w;omega;injection a with a w;exact⟨g,a⟩
 obtain⟨d,rfl⟩:=u;have y:=t d rfl;refine⟨⟨d,c,s.size,h,hc,SE,y.2,λk x hx=>?_⟩,⟨n,Pb _⟩,(O3.1 h).1,O9 _⟩;obtain⟨b,o,r,e,_,z,f⟩:=q.kt qj.ok k x hx;injection e with e;injection e with B C;subst B C;rw[show r=xy x from z]at f;have j:=f 0 _ rfl;have l:=f 1 _ rfl;have m:=f 2 _ rfl;rw[Pk]at j l m;exact⟨j,l,m⟩
def yI(S w)(nm:List UInt8)(j:Option Addr)(l c1:Nat)(m:Option Addr)(n c2:Nat)(g)(b c3:Nat)(f)(p:jT (lv .i64) S w (.slice g b c3) f.jZ)(hS:∀q,S q->q<w)(hm:b<=3)(c:Int):
  Calls prog 20 #[.agg (kb nm j l c1 m n c2 g b c3),c] w (kd (.tuple #[tx (cN (ki f) c),.bool (pE (ki f) c)]) w):=by
 have C:=p.len;have s:=Ba w (.cells (kb nm j l c1 m n c2 g b c3) 37);have t:=O0 s;have D:=O0 (O2 w (.cells (kb nm j l c1 m n c2 g b c3) 37));have G:=O0 (p.jP (lv.ok .i64) (λq I=>s.B q (hS q I)));have u:=O0 C.1;obtain⟨v,y⟩:=Xq (pE (ki f) c);obtain⟨z,A⟩:=Xq (cN (ki f) c);rw[<-y,<-A];have i:=O0 y;have B:=O0 A;clear p hS s C y A
 go_enter func20,ntmps20
 go_upto_region 1 with fail;have J:(w.alloc (.cells (kb nm j l c1 m n c2 g b c3) 37)).heap.size=w+1:=SG
 generalize w.alloc (.cells (kb nm j l c1 m n c2 g b c3) 37)=K at*;obtain⟨L,E⟩:=Xq w.heap.size;rw[<-E]at D⊢;have R:L<K:=SE
 clear E J;obtain⟨⟨T,U,V,W⟩,_⟩:=mK D.o;by_cases M:c<0
 .have a:v=false:=(by rw[i.o];unfold pE;rw[Qg (show¬0<=c from SE)];rfl);have d:z=[]:=(by rw[B.o];unfold cN;rw[<-i.o,a];rfl);have e:=O0 (And.intro a d);clear a d;go_wp21
  go_ret2
  refine⟨?_,t.o⟩;rw[e.o.1,e.o.2];rfl
 .by_cases N:(b:Int)<=c
  .have a:v=false:=(by rw[i.o];unfold pE;rw[Qg (show¬c<((ki f).jZ.length:Int)by have:=u.o;simp[ki];omega)];simp);have d:z=[]:=(by rw[B.o];unfold cN;rw[<-i.o,a];rfl);have e:=O0 (And.intro a d);clear a d;go_wp21
   go_ret2
   refine⟨?_,t.o⟩;rw[e.o.1,e.o.2];rfl
  obtain⟨k,rfl⟩:=Qx (show 0<=c from SE);have X:k<b:=SE;obtain⟨x,hx⟩:∃x,f.jZ[k]?=some x:=Gx (SC u.o);obtain⟨Y,Z,r,rfl,O,hr,F⟩:=G.o.kt (lv.ok .i64) k x hx;obtain⟨v1,v2,P,_⟩:=hr;subst P;have Q:=F 0 _ rfl;rw[Pc]at Q;obtain⟨aa,ab⟩:=mG k b;have a:v=true:=(by rw[i.o,pQ];exact⟨SE,SC u.o⟩);have d:z=x.name:=(by rw[B.o];unfold cN;rw[<-i.o,a];simp[ki,hx]);have e:=O0 (And.intro a d);clear a d F O hx M N;go_wp21
  go_ret2
  refine⟨?_,t.o⟩;rw[e.o.1,e.o.2];rfl
def xK(S:Nat->Prop)(w:World)(name:List UInt8)(aa:Option Addr)(ab c1:Nat)(T:Option Addr)(f c2:Nat)(d:List (List Hd))(hv:jT (mr .i64) S w (.slice T f c2) d)(hS:∀q,S q->q<w)(bi:f<=4)(al:∀hs∈d,hs.length<=100):
  Calls prog 39 #[.agg (ka name aa ab c1 T f c2)] w (lY (kL [] d) w):=by
 obtain⟨aN,aO,hz0,aP,aQ⟩:=Pu pO;have aR:=O0 hv;have ac:=O0 hS;have aS:=O0 al;have am:=O0 hv.len;have an:=Ba w (.cells (ka name aa ab c1 T f c2) 88);have aT:=O0 an;clear hv hS al an
 go_enter func39,ntmps39
 go_wp21;generalize w.alloc (.cells (ka name aa ab c1 T f c2) 88)=w0 at*;go_loopw [3,14] (λv i wr=>∃k:Nat,k<=f/\i=k/\kf kh 9 1 (λ_=>False) wr w v (kL [] (d.take k))/\(kL [] (d.take k)).length<=100*k/\Below w w wr) (λ_ i _=>f-(intOf i).toNat)
 .exact⟨0,Pb _,rfl,kf.nil _ _ _ _ _ _,by simp[kL],aT.o⟩
 obtain⟨k,bj,rfl,p,C,hb⟩:=hrel;obtain⟨A,U,rfl,D,ao⟩:=p.form;have g:=O0 p;have n:=O0 hb;have hz:=hb.size;have ad:=O0 C;clear p hb C;by_cases bk:k<f
 .obtain⟨x,hx⟩:∃x,d[k]?=some x:=Gx (SC am.o);obtain⟨bl,bm,r,rfl,bn,hr,j⟩:=(aR.o.jP (mr.ok _) (λq V=>n.o.B q (ac.o q V))).kt (mr.ok _) k x hx;obtain⟨v,rfl,ae⟩:=hr;obtain⟨bo,bp,rfl,aU⟩:=ae.form;have s:=j 0 _ rfl;rw[Pc,PG]at s;have aV:=aS.o x (O5 hx);have ap:=O0 (uQ [] hx);have af:=O0 ae;obtain⟨t,ag⟩:=Xq (kL [] (d.take k));rw[<-ag]at g ad ap;obtain⟨E,ah⟩:=Xq x.length;rw[<-ah]at af s aV aU;have aq:=O0 ah;obtain⟨ar,ai⟩:=Xq t.length;have W:=O0 ai;obtain⟨bq,br⟩:=mG k f;have au:=O0 n.o;have aW:=O0 g.o;have aX:=O0 af.o;rw[<-ag,<-ai];clear ae j hx ah ag ai g n af;go_wp21;clear s D ao;obtain⟨bs,rfl⟩:=Xq wr;go_loopw [3,20] (λv i wr=>∃(c:Nat),c<=E/\i=c/\kf kh 9 1 (λ_=>False) wr w v (lO t (x.take c))/\(lO t (x.take c)).length<=ar+c/\Below w w wr) (λ_ i _=>E-(intOf i).toNat)
  .exact⟨0,Pb _,rfl,by rw[W.o];exact aW.o,by rw[W.o];simp[lO],au.o⟩
  obtain⟨c,bt,rfl,p,C,hb⟩:=hrel;obtain⟨A,U,rfl,D,ao⟩:=p.form;have g:=O0 p;have n:=O0 hb;have hz:=hb.size;have F:=O0 C;clear p hb C;by_cases bu:c<E
  .obtain⟨u,hy⟩:∃u,x[c]?=some u:=Gx (SC aq.o);obtain⟨bv,bw,r,rfl,bx,hr,j⟩:=(aX.o.jP (lF.ok .i64) (λq V=>(n.o.B q (ac.o q V)).T (au.o.B q (ac.o q V)).symm)).kt (lF.ok .i64) c u hy;obtain⟨v1,v2,rfl,av,aw⟩:=hr;obtain⟨G,I,rfl,_⟩:=av.form;obtain⟨J,cb,rfl,_⟩:=aw.form;have s:=j 0 _ rfl;have ax:=j 1 _ rfl;have ay:=j 2 _ rfl;rw[Pc]at s;have y:=O0 (uP t hy);obtain⟨b,az⟩:=Xq (lO t (x.take c));rw[<-az]at g F y D⊢;obtain⟨l,X⟩:=Xq b.length;have B:=O0 X;have bz:l<=ar+c:=SC F.o;have bA:l<=1000:=SD ad.o W.o;rw[<-X]at D⊢;obtain⟨K,aA⟩:=Xq u.params.length;obtain⟨L,aB⟩:=Xq u.body.length;obtain⟨a,aC⟩:=Xq u.name;rw[<-aA]at ax;rw[<-aB]at ay;rw[<-aC]at s y;obtain⟨bB,bC⟩:=mG c E;have aj:=Ba wr (.cells (ka a G K I J L cb) 121);have aD:=O0 (n.o.T (aj.M hz));have Y:=O0 (show kf kh 9 1 (λ_=>False) (wr.alloc (.cells (ka a G K I J L cb) 121)) w (.slice A l U) b by have h:=g.o.jQ kh.ok aj;rw[<-X]at h;exact h);have aE:=O0 (O2 wr (.cells (ka a G K I J L cb) 121));have M:(wr.alloc (.cells (ka a G K I J L cb) 121)).heap.size=wr+1:=SG;have aF:=O0 M;clear j av aw hy az X aA aB aC aj M g n F;go_upto_region 8 with fail;have M:=aF.o;obtain⟨bD,aG⟩:=Xq wr.heap.size;rw[<-aG]at aE M⊢;generalize wr.alloc (.cells (ka a G K I J L cb) 121)=N at*;have aY:w.heap.size<=N:=SE;have bE:=jN aE.o 0;clear M aG aF s ax ay D;have aH:=Y.o.sl kh.ok;have aZ:=O0 aH;clear aH;go_wp21;go_loopw [8,26] (λo i wr=>∃m:Nat,m<=l/\i=m/\o=.bool (decide (a∈b.take m))/\wr=N) (λ_ i _=>l-(intOf i).toNat)
   .exact⟨0,Pb _,rfl,SG,rfl⟩
   obtain⟨m,hm,rfl,rfl,rfl⟩:=hrel;by_cases bF:m<l
   .obtain⟨O,ak⟩:∃x,b[m]?=some x:=Gx (SC B.o);obtain⟨bG,bH,r,rfl,ba,hr,j⟩:=aZ.o.kt kh.ok m O ak;have bb:r=[tx O]:=hr;subst bb;have bc:=j 0 _ rfl;rw[Pc,PG]at bc;obtain⟨bI,bJ⟩:=mG m l;have bK:=mA O;have bL:=mA a;have P:b.take (m+1)=b.take m++[O]:=(by rw[PM,ak];rfl);have aI:=O0 P;clear j hr P ak ba;by_cases Z:a∈b.take m
    .have hd:decide (a∈b.take m)=true:=(by simpa using Z);rw[hd];go_wp21;go_roundw
     .exact⟨m+1,SE,SJ,by rw[aI.o];simp[Z],trivial⟩
     simp[intOf];omega
    have hd:decide (a∈b.take m)=false:=(by simpa using Z);rw[hd];have bd:=O0 (show(O==a)=decide (a∈b.take (m+1))from by rw[aI.o];rw[Bool.eq_iff_iff];simp[Z];exact eq_comm);go_wp21;go_roundw
    .exact⟨m+1,SE,SJ,by rw[<-bd.o],trivial⟩
    simp[intOf];omega
   obtain rfl:l=m:=SE;obtain⟨N,rfl⟩:=Xq wr;have P:b.take l=b:=Pq (SC B.o);rw[P];clear P;by_cases hm:a∈b
   .have hd:decide (a∈b)=true:=(by simpa using hm);rw[hd];have Q:oC b a=b:=(by unfold oC;rw[PJ hm]);have R:=O0 Q;clear Q hd hm;go_wp21;go_roundw
    .exact⟨c+1,SE,SJ,by rw[y.o,R.o];exact Y.o,by rw[y.o,R.o,<-B.o];omega,aD.o⟩
    simp[intOf];omega
   have hd:decide (a∈b)=false:=(by simpa using hm);rw[hd];have Q:oC b a=b++[a]:=(by unfold oC;rw[Pn hm]);have R:=O0 Q;clear Q hd hm;go_wp2_with (at_builtin;(refine kj rfl _ _ 78 rfl w.heap.size 9 aN _ 1 16 underlying78 aO hz0 aP aQ rfl kh.ok (λ_=>False) (.slice A l U) b rfl (Y.o.jQ kh.ok (Ba _ _)) ⟨N,0,none⟩ [tx a] a rfl (lI N [tx a] 9) rfl ?c3 ?c4 ?c5 ?_));case c3=>rw[<-B.o];unfold maxLen;omega
   case c4=>rw[<-B.o];omega
   case c5=>simp;omega
   intro v1 bM aJ aK _;have be:=O0 aJ;have bf:=O0 ((aD.o.alloc aY (.cells #[tx a] 9)).grown aK SK (λz e=>(Y.o.ge z e).1));clear aJ aK;go_wp21;go_roundw
   .exact⟨c+1,SE,SJ,by rw[y.o,R.o];exact be.o,by rw[y.o,R.o,Pe,<-B.o];simp;omega,bf.o⟩
   simp[intOf];omega
  obtain rfl:c=E:=SE;have aL:lO t (x.take c)=kL [] (d.take (k+1)):=(by rw[Pq (SC aq.o)];exact ap.o.symm);rw[aL]at g F⊢;clear aL;go_wp21;go_roundw
  .exact⟨k+1,SE,SJ,g.o,by have:=F.o;have:=ad.o;have:=W.o;omega,n.o⟩
  simp[intOf];omega
 obtain rfl:k=f:=SE;go_wp21;go_ret;refine⟨_,rfl,?_,n.o⟩;have aM:=g.o;have bg:d.take k=d:=Pq (SC am.o);have bh:kf kh 9 1 (λ_=>False) wr w (.slice A (kL [] (d.take k)).length U) (kL [] d):=(by rw[bg]at aM⊢;exact aM);exact bh
def zG(S w)(nm:List UInt8)(p:Option Addr)(s c1:Nat)(t:Option Addr)(u c2:Nat)(n)(g c3:Nat)(f)(hg:mh f)(y:jT (lv .i64) S w (.slice n g c3) f.jZ)(hS:∀q,S q->q<w)(hm:g<=3)(c h:Int):
  Calls prog 21 #[.agg (kb nm p s c1 t u c2 n g c3),c,h] w (kd (.tuple #[tx (hN (ki f) c h),.bool (sj (ki f) c h)]) w):=by
 have V:=y.len;have I:=Ba w (.cells (kb nm p s c1 t u c2 n g c3) 37);have E:=O0 I;have W:=O0 (O2 w (.cells (kb nm p s c1 t u c2 n g c3) 37));have ae:=O0 (y.jP (lv.ok .i64) (λq J=>I.B q (hS q J)));have af:=O0 hS;have K:=O0 V.1;obtain⟨z,L⟩:=Xq (sj (ki f) c h);obtain⟨A,M⟩:=Xq (hN (ki f) c h);rw[<-L,<-M];have j:=O0 L;have B:=O0 M;clear y hS I V L M
 go_enter func21,ntmps21
 go_upto_region 1 with fail;have ag:(w.alloc (.cells (kb nm p s c1 t u c2 n g c3) 37)).heap.size=w+1:=SG
 generalize w.alloc (.cells (kb nm p s c1 t u c2 n g c3) 37)=X at*;obtain⟨aG,Y⟩:=Xq w.heap.size;rw[<-Y]at W⊢
 have ah:=O0 (show w.heap.size<X from SE);clear Y ag;obtain⟨⟨ai,aj,ak,al⟩,_⟩:=mK W.o;by_cases am:c<0
 .have a:z=false:=(by rw[j.o];unfold sj pE;rw[Qg (show¬0<=c from SE)];rfl);have b:A=[]:=(by rw[B.o];unfold hN;rw[<-j.o,a];rfl);have d:=O0 (And.intro a b);clear a b;go_wp21
  go_ret2
  refine⟨?_,E.o⟩;rw[d.o.1,d.o.2];rfl
 by_cases an:(g:Int)<=c
 .have a:z=false:=(by rw[j.o];unfold sj pE;rw[Qg (show¬c<((ki f).jZ.length:Int)by have:=K.o;simp[ki];omega)];simp);have b:A=[]:=(by rw[B.o];unfold hN;rw[<-j.o,a];rfl);have d:=O0 (And.intro a b);clear a b;go_wp21
  go_ret2
  refine⟨?_,E.o⟩;rw[d.o.1,d.o.2];rfl
 obtain⟨k,rfl⟩:=Qx (show 0<=c from SE);have aH:k<g:=SE
 obtain⟨x,hx⟩:∃x,f.jZ[k]?=some x:=Gx (SC K.o);obtain⟨aI,aJ,r,rfl,ao,hr,m⟩:=ae.o.kt (lv.ok .i64) k x hx;obtain⟨v1,v2,ap,Z,N⟩:=hr;subst ap;obtain⟨aq,ar,_,au,_⟩:=id Z;obtain⟨av,aw,_,ax,_⟩:=id N;subst au ax;have F:=m 0 _ rfl;have ay:=m 1 _ rfl;have az:=m 2 _ rfl;rw[Pc]at F
 obtain⟨aK,aL⟩:=mG k g
 have O:=hg.jZ x (O5 hx);have aa:=O0 (xK S X x.name aq x.vars.length ar av x.kS.length aw x.kS N (λq J=>Sy (af.o q J) ah.o) (SC O.v2) (λl aA=>SC ((O.kS l aA).1)));have G:=O0 (Gg (f:=f) (i:=k) (x:=kL [] x.kS) (by simp[kV,hx]));have aB:=O0 (show pE (ki f) (k:Int)=true by rw[pQ];exact⟨SE,SC K.o⟩);obtain⟨xs,ab⟩:=Xq (kL [] x.kS);rw[<-ab]at aa G;clear m ao hx am an Z N O hg ab;go_wp21;apply aa.o.M;rintro e aM ⟨v,rfl,P,ac⟩;obtain⟨aN,aO,rfl,_⟩:=P.form;have Q:=P.sl kh.ok;have R:=O0 (E.o.T (ac.M E.o.size));obtain⟨ad,T⟩:=Xq xs.length;rw[<-T]at Q⊢;have U:=O0 T;have aC:=O0 Q;clear P ac Q T ai aj ak al F ay az;by_cases aD:h<0
 .have a:z=false:=(by rw[j.o];unfold sj;rw[Qg (show¬0<=h from SE)];simp);have b:A=[]:=(by rw[B.o];unfold hN;rw[<-j.o,a];rfl);have d:=O0 (And.intro a b);clear a b;go_wp21
  go_ret2
  refine⟨?_,R.o⟩;rw[d.o.1,d.o.2];rfl
 by_cases y:(ad:Int)<=h
 .have a:z=false:=(by rw[j.o];unfold sj;rw[G.o,Qg (show¬h<(xs.length:Int) from SC U.o)];simp);have b:A=[]:=(by rw[B.o];unfold hN;rw[<-j.o,a];rfl);have d:=O0 (And.intro a b);clear a b;go_wp21
  go_ret2
  refine⟨?_,R.o⟩;rw[d.o.1,d.o.2];rfl
 obtain⟨C,rfl⟩:=Qx (show 0<=h from SE);obtain⟨D,hy⟩:∃D,xs[C]?=some D:=Gx (SC U.o);have a:z=true:=by rw[j.o];unfold sj;rw[aB.o,G.o,QP (show(0:Int)<=(C:Int) from SE),QP (show(C:Int)<(xs.length:Int) from SC U.o)];rfl
 have b:A=D:=by rw[B.o];unfold hN;rw[<-j.o,a,G.o];simp[hy]
 obtain⟨aP,aQ,r,rfl,aE,hr,m⟩:=aC.o.kt kh.ok C D hy;have aF:r=[tx D]:=hr;subst aF;have F:=m 0 _ rfl;rw[Pc,PG]at F;obtain⟨aR,aS⟩:=mG C ad
 have d:=O0 (And.intro a b);clear a b m aE hr hy aD y;go_wp21
 go_ret2
 refine⟨?_,R.o⟩;rw[d.o.1,d.o.2];rfl
def GK(W:World)(k:Nat)(e:k<10):(convert 22 9 (.slice W 1 1)).run prog (W.alloc (.cells #[.int .u8 (48+(k:Int))] 5))=.ok (tx [UInt8.ofNat (48+k)]) (W.alloc (.cells #[.int .u8 (48+(k:Int))] 5)):=by
 have:=Sb (P:=prog) (W.alloc (.cells #[.int .u8 (48+(k:Int))] 5)) 22 9 5 ⟨W,0,none⟩ 1 [UInt8.ofNat (48+k)] underlying22 underlying5 underlying9 (λa b=>by
  have c:a=0:=by have:a<1:=b;omega
  have d:((UInt8.ofNat (48+k)).toNat:Int)=48+(k:Int):=SK
  subst c;refine jU (O2 W _) 0 _ ?_;show some (Value.int .u8 (48+(k:Int)))=some (Value.int .u8 ((UInt8.ofNat (48+k)).toNat:Int));rw[d])
 exact this
def D6(n:Int)(t: -9223372036854775808<=n)(y:n<=9223372036854775807)(w):Calls prog 19 #[.int .i64 n] w (kd (tx (Lib.itoa n)) w):=by
 have e:=P0 n t y;obtain⟨a,p⟩:=Xq n.natAbs;by_cases hz:n=0
 .subst hz;rw[show Lib.itoa 0=[48] from SM];clear e t y p
  go_enter func19,ntmps19
  go_wp21;go_ret;exact⟨rfl,Below.refl _ _⟩
 have hi:Lib.itoa n=if n<0 then 45::Lib.decDigits a else Lib.decDigits a:=by unfold Lib.itoa;rw[p];split;rfl;rw[show n.toNat=n.natAbs from SE]
 have c:=O0 (show 0<a/\a<=9223372036854775808 from⟨SE,SE⟩);have A:=O0 (show(Lib.decDigits a).length<=21 by rw[hi]at e;split at e;simp at e;omega;exact e);have B:=O0 hi;have C:=O0 p;obtain⟨r,hr⟩:=Xq (Lib.itoa n);rw[<-hr];have D:=O0 hr;clear e hi p hr
 go_enter func19,ntmps19
 by_cases hn:n<0
 .obtain rfl:n= -(a:Int):=SC C.o;have E:IntKind.i64.wrap (-(a:Int)+1)= -(a:Int)+1:=(by have:=c.o;simp[IntKind.wrap,IntKind.bits,IntKind.signed];omega);have O:IntKind.i64.wrap (-(-(a:Int)+1))=(a:Int)-1:=(by have:=c.o;simp[IntKind.wrap,IntKind.bits,IntKind.signed];omega);have P:IntKind.u64.wrap ((a:Int)-1)=(a:Int)-1:=(by have:=c.o;simp[IntKind.wrap,IntKind.bits,IntKind.signed];omega);have Q:IntKind.u64.wrap ((a:Int)-1+1)=(a:Int):=(by have:=c.o;simp[IntKind.wrap,IntKind.bits,IntKind.signed];omega);go_wp21;go_loopw [3,4] (λs x wr=>∃(u:Nat) (l:List UInt8),s=tx l/\x=.int .u64 (u:Int)/\yS u++l=Lib.decDigits a/\u<=a/\Below w w wr) (λ_ x _=>(intOf x).toNat)
  .exact⟨a,[],rfl,rfl,by have:=c.o;unfold yS;rw[Pn SE,QI],O9 _,Below.refl _ _⟩
  obtain⟨u,l,rfl,rfl,hd,hu,hb⟩:=hrel;have f:=O0 hd;have d:=O0 hb;have F:=c.o;have G:l.length<=21:=(by have:=PL List.length hd;have:=A.o;simp only[Pe]at*;omega);clear hd hb;by_cases hp:0<u
  .have g:u % 10<10:=SE;have i:=O0 (yJ hp);obtain⟨k,b⟩:=Xq (u % 10);obtain⟨v,hv⟩:=Xq (u/10);have I:(u:Int).tmod 10=(k:Int):=(by rw[b,QC SE];omega);have J:(u:Int).tdiv 10=(v:Int):=(by rw[hv,RO SE];omega);have K:(u:Int) % 10=(k:Int):=(by rw[b];omega);have L:(u:Int)/10=(v:Int):=(by rw[hv];omega);rw[<-b,<-hv]at i;rw[<-b]at g;have j:v<u:=SE;have hcv:=GK wr k g;have M:IntKind.u8.wrap (48+(k:Int))=48+(k:Int):=SI;have N:IntKind.u64.wrap (48+(k:Int))=48+(k:Int):=SI;have m:=O0 j;clear b hv j;go_wp21;have he:(48:UInt8)+UInt8.ofNat k=UInt8.ofNat (48+k):=(UInt8.ofNat_add 48 k).symm;refine⟨⟨v,UInt8.ofNat (48+k)::l,PL Value.string ((PL (λz=>(⟨#[z]⟩:ByteArray)++⟨l.toArray⟩) he).T (kq [UInt8.ofNat (48+k)] l)),rfl,?_,SC m.o,d.o.alloc d.o.size _⟩,by have:=m.o;simp[intOf];omega⟩;rw[<-f.o,i.o,Py];rfl
  obtain rfl:u=0:=SE;go_wp21;go_ret;have q:l=Lib.decDigits a:=(by have:=f.o;simpa[yS]using this);refine⟨?_,d.o⟩;rw[D.o,B.o,PJ (SC c.o),<-q];exact PL (λz=>Ending.returned (Value.string z)) (kq [45] l)
 obtain rfl:n=(a:Int):=SC C.o
 have E:IntKind.u64.wrap (a:Int)=(a:Int):=by have:=c.o;simp[IntKind.wrap,IntKind.bits,IntKind.signed];omega
 go_wp21;go_loopw [3,4] (λs x wr=>∃(u:Nat) (l:List UInt8),s=tx l/\x=.int .u64 (u:Int)/\yS u++l=Lib.decDigits a/\u<=a/\Below w w wr) (λ_ x _=>(intOf x).toNat)
 .exact⟨a,[],rfl,rfl,by have:=c.o;unfold yS;rw[Pn SE,QI],O9 _,Below.refl _ _⟩
 obtain⟨u,l,rfl,rfl,hd,hu,hb⟩:=hrel;have f:=O0 hd;have d:=O0 hb;have F:=c.o;have G:l.length<=21:=(by have:=PL List.length hd;have:=A.o;simp only[Pe]at*;omega);clear hd hb;by_cases hp:0<u
 .have g:u % 10<10:=SE;have i:=O0 (yJ hp);obtain⟨k,b⟩:=Xq (u % 10);obtain⟨v,hv⟩:=Xq (u/10);have I:(u:Int).tmod 10=(k:Int):=(by rw[b,QC SE];omega);have J:(u:Int).tdiv 10=(v:Int):=(by rw[hv,RO SE];omega);have K:(u:Int) % 10=(k:Int):=(by rw[b];omega);have L:(u:Int)/10=(v:Int):=(by rw[hv];omega);rw[<-b,<-hv]at i;rw[<-b]at g;have j:v<u:=SE;have hcv:=GK wr k g;have M:IntKind.u8.wrap (48+(k:Int))=48+(k:Int):=SI;have N:IntKind.u64.wrap (48+(k:Int))=48+(k:Int):=SI;have m:=O0 j;clear b hv j;go_wp21;have he:(48:UInt8)+UInt8.ofNat k=UInt8.ofNat (48+k):=(UInt8.ofNat_add 48 k).symm;refine⟨⟨v,UInt8.ofNat (48+k)::l,PL Value.string ((PL (λz=>(⟨#[z]⟩:ByteArray)++⟨l.toArray⟩) he).T (kq [UInt8.ofNat (48+k)] l)),rfl,?_,SC m.o,d.o.alloc d.o.size _⟩,by have:=m.o;simp[intOf];omega⟩;rw[<-f.o,i.o,Py];rfl
 obtain rfl:u=0:=SE;go_wp21;go_ret;have q:l=Lib.decDigits a:=(by have:=f.o;simpa[yS]using this);refine⟨?_,d.o⟩;rw[D.o,B.o,Pn SE,<-q];rfl
def narrateKeys.plain(f:FuncId)(fn:Func)(hf:Tryz.pinned.checked.prog.funcNamed "rootcause/rootcauselaw52.NarrateKeys" =some f)(c:Tryz.pinned.checked.prog.funcs[f]?=some fn):
  false=Tryz.pinned.checked.prog.looks []/\∀(b:Nat) t,fn.params[b]?=some t->Tryz.pinned.checked.prog.wantsStandIn t=false:=by
 obtain rfl:f=3:=Option.some.inj ((show prog.funcNamed "rootcause/rootcauselaw52.NarrateKeys" =some 3 by kernel_rfl).symm.trans hf)|>.symm;obtain rfl:fn=Tryz.f3:=(Option.some.inj (func3.symm.trans c)).symm;refine⟨JF,λb t a=>?_⟩;rw[params3]at a;have hm:t∈[25,28,30]:=by simpa using Sg a
 have d:∀t∈[25,28,30],prog.wantsStandIn t=false:=by have h:([25,28,30].all λt=>!prog.wantsStandIn t)=true:=(by kernel_rfl);intro t a;simpa using Qm.1 h t a
 exact d t hm
