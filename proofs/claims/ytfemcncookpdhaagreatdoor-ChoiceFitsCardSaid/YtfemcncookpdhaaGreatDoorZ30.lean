import Derived.Test.YtfemcncookpdhaaGreatDoorZ26
import Derived.Test.YtfemcncookpdhaaGreatDoorZ27
import Derived.Test.YtfemcncookpdhaaGreatDoorZ28
set_option maxRecDepth 1000000
set_option maxHeartbeats 32000000
set_option linter.all false
namespace Go.Proofs.YtfemcncookpdhaaGreatDoor.C
open Go.RowKit Go.Proofs.Tryz
theorem D1(ai)(d:List lM)(c:Nat)(w)(h:ny w w.heap.size ai d)(hn:d.length<=65536):Calls prog 11 #[.slice ai d.length c] w (IL (ll d) w):=by
 obtain⟨aj,ak,hz0,al,ay⟩:=N4 uj;have H:=h;clear h
 go_enter func11,ntmps11
 go_wp2_with fail;go_loopw [13] (λi wr=>∃k:Nat,k<=d.length/\i=k/\(∀p∈d.take k,rD p.1=0)/\Below (w.heap.size+1) (w.alloc (.cells #[Nl] 54)) wr) (λi _=>d.length-(intOf i).toNat);case atStart=>exact⟨0,NP _,rfl,PK,Below.refl _ _⟩
 case round=>
  obtain⟨k,ad,rfl,am,j⟩:=hrel;have I:=j.size;simp only[NB]at I;by_cases S:k<d.length
  .obtain⟨p,T⟩:∃p,d[k]?=some p:=Gx S;have K:=H.row p (NH T);have bf:=K.m;have bg:=K.c;obtain⟨b,o,rfl,ae,hc⟩:=H.kI k p T;have n:∀z u,p.1.vs[z]?=some u->wr.cell? ⟨b,o+k*7+z,none⟩=some u:=λz u hu=>((j.cell (p:=⟨b,o+k*7+z,none⟩) PO).T (O5 _ _ _ ae)).T (hc z u hu);have c0:wr.cell? ⟨b,o+k*7,none⟩=some (.int .u8 p.1.ku.kind):=n 0 _ rfl;have c1:=n 1 _ rfl;have c2:=n 2 _ rfl;have c3:=n 3 _ rfl;have c4:=n 4 _ rfl;have c5:=n 5 _ rfl;have az:=n 6 _ rfl;have L:=λW=>oL p.1 W PJ;have C:pC p.1=.agg #[.int .u8 p.1.ku.kind,p.1.ku.a,p.1.ku.b,p.1.ku.n,p.1.t,p.1.d,.slice p.1.p p.1.n p.1.c]:=rfl;rw[C]at L;go_wp2_with fail;refine(L _).M ?_;rintro e l ⟨rfl,D⟩;have U:Below (w.heap.size+1) (w.alloc (.cells #[Nl] 54)) l:=by rw[NB]at D;exact(j.alloc I _).T (D.M PJ)
   have M:l.cell? ⟨w.heap.size,0,none⟩=some (Nl):=(U.cell (p:=⟨w.heap.size,0,none⟩) PK).T (lI (NF w _) 0 _ rfl);have aA:l.frozen? ⟨w.heap.size,0,none⟩=false:=(U.frozen (p:=⟨w.heap.size,0,none⟩) PK).T (nT (NF w _) 0);rcases C6 p.1 with N|N
   .rw[N];have af:=N;go_wp2_with fail;go_roundw;case rel=>refine⟨k+1,PJ,PQ,λq t=>?_,U⟩;rw[N5,T]at t;rcases OI.1 t with t|t;exact am q t;simp at t;rw[t];exact af
    case measure=>simp[intOf];omega
   rw[N];have af:=N;go_wp2_with fail;have O:=xo (NH T) (Kl K af);refine NT (v:=.tuple #[.agg #[Nl],.int .i64 1]) (by simp[results,Tryz.results11,go_sem,M]) rfl ⟨none,[],0,by rw[O];rfl,by rw[ui O PM];rfl,pW _ _ _,NQ _,PJ,?_⟩;exact((Ba w _).T (U.M PJ)).setCell PK _
  have an:∀p∈d,rD p.1=0:=λp hp=>am p (by rw[NV PJ];exact hp);go_wp2_with (at_make;refine wpList_make_own _ rfl _ _ 26 rfl (w.heap.size+1) 62 aj _ 7 underlying26 ak hz0 al .i64 .i64 _ d.length rfl rfl rfl (by rw[ay];omega) PT I ?_;intro w0 aB aC);have aD:Below (w.heap.size+1) (w.alloc (.cells #[Nl] 54)) w0:=j.grown aC I (λk e=>by cases e);generalize wr.heap.size=G at*;have y:Hid (L2 d (w.heap.size+1) G 0 w0 []):=⟨rfl,rfl,aB,PK⟩
  go_loopw [7,29] (λv i wr=>∃(k:Nat) (J:List lM),k<=d.length/\i=k/\v=.slice (some ⟨G,0,none⟩) k d.length/\L2 d (w.heap.size+1) G k wr J/\Below (w.heap.size+1) (w.alloc (.cells #[Nl] 54)) wr) (λ_ i _=>d.length-(intOf i).toNat);case atStart=>exact⟨0,[],NP _,rfl,rfl,y,aD⟩
  case round=>
   obtain⟨k,J,ad,rfl,rfl,y,j⟩:=hrel;have j:=j;have I:=j.size;simp only[NB]at I;clear j;by_cases S:k<d.length
   .obtain⟨p,V⟩:∃p,d[k]?=some p:=Gx S;have ao:=H.row p (NH V);have bh:=rQ (Gg ao (an p (NH V)));obtain⟨b,o,rfl,ae,hc⟩:=H.kI k p V;have n:∀z u,p.1.vs[z]?=some u->wr.cell? ⟨b,o+k*7+z,none⟩=some u:=λz u hu=>((j.cell (p:=⟨b,o+k*7+z,none⟩) PO).T (O5 _ _ _ ae)).T (hc z u hu);have c0:wr.cell? ⟨b,o+k*7,none⟩=some (.int .u8 p.1.ku.kind):=n 0 _ rfl;have c1:=n 1 _ rfl;have c2:=n 2 _ rfl;have c3:=n 3 _ rfl;have c4:=n 4 _ rfl;have c5:=n 5 _ rfl;have az:=n 6 _ rfl;have aE:(ll d)[k]?=some p.2:=(by simp[ll,V]);have aF:Below w.heap.size w wr:=(Ba w _).T (j.M PJ);have L:=λ(o:Obj)=>uZ p.1 p.2 (wr.alloc o) (by rw[NB];exact ao.kh (aF.alloc PJ _) PJ) PJ;have C:pC p.1=.agg #[.int .u8 p.1.ku.kind,p.1.ku.a,p.1.ku.b,p.1.ku.n,p.1.t,p.1.d,.slice p.1.p p.1.n p.1.c]:=rfl;rw[C]at L;go_wp2_with fail;refine(L _).M ?_;rintro e l ⟨r,rfl,K,aG,D⟩;have X:Below wr.heap.size wr l:=by rw[NB]at D;exact(Ba wr _).T (D.M PJ)
    have P:pC r=.agg #[.int .u8 r.ku.kind,r.ku.a,r.ku.b,r.ku.n,r.t,r.d,.slice r.p r.n r.c]:=rfl;rw[P];have aH:G<wr.heap.size:=zn y.own G rfl;have aI:∀b o,r.p=some ⟨b,o,none⟩->G<b:=λb o e=>(by have:=aG b o e;rw[NB]at this;omega);have aJ:=X.size;clear c1 c2 c3;go_wp2_with (at_builtin;refine wpList_append_fits _ rfl _ _ 26 rfl (w.heap.size+1) 62 aj 7 underlying26 ak al G k d.length (kJ J) rfl ((sL y.own X).alloc _) ⟨l.heap.size,0,none⟩ 1 1 r.vs rfl rfl ?c1 ?c2 ?c3 ?_);case c1=>exact lU l r.vs 62
    case c2=>simp[Row.vs,Value.oneCell']
    case c3=>omega
    intro aK aL ap;have aM:=(y.step aE X K aI ap aL)
    have aN:Hid (Below (w.heap.size+1) (w.alloc (.cells #[Nl] 54)) aK):=(((j.T (X.M I)).alloc PJ _).grown ap PO (λk e=>by cases e;exact mN y.own _ rfl))
    go_wp2_with fail;go_roundw;case rel=>exact⟨k+1,_,PJ,PQ,rfl,aM,aN.o⟩
    case measure=>simp[intOf];omega
   obtain rfl:k=d.length:=PJ;go_wp2_with fail;have ag:J.length=d.length:=y.len;have aH:G<wr.heap.size:=zn y.own G rfl;have aO:w.heap.size+1<=G:=mN y.own G rfl;have hs:=G5 (w.heap.size+1) G d.length J wr (by rw[ag];exact y.own) PJ;rw[ag]at hs;refine Calls.M hs ?_;rintro e l ⟨rfl,A,hp,aP,aQ,aR,aS,aT⟩;have Q:A.length=d.length:=hp.length_eq.T ag;have E:ny l l.heap.size (some ⟨G,0,none⟩) A:=⟨aQ,λq t=>by have R:=y.row q (hp.mem_iff.1 t);exact R.1.zo (g:=G) aT aS (λb o e=>PH (R.2 b o e))⟩
   have D:Below (w.heap.size+1) (w.alloc (.cells #[Nl] 54)) l:=j.T (aR.M aO);have M:l.cell? ⟨w.heap.size,0,none⟩=some (Nl):=(D.cell (p:=⟨w.heap.size,0,none⟩) PK).T (lI (NF w _) 0 _ rfl);have aA:l.frozen? ⟨w.heap.size,0,none⟩=false:=(D.frozen (p:=⟨w.heap.size,0,none⟩) PK).T (nT (NF w _) 0);have s:Below w.heap.size w l:=(Ba w _).T (D.M PJ);have aq:(ll A).Perm (ll d):=by have R:(ll A).Perm (ll J):=hp.map _;rw[y.ll,NV (by simp[ll])]at R;exact R
   have ar:(ll d).all kj.si=true:=by rw[OO];intro x hx;obtain⟨p,au,rfl⟩:=Ov.1 hx;exact Gg (H.row p au) (an p au)
   have aU:(ll A).Pairwise (λx f=>¬kj.wo f.ku x.ku):=by rw[ll,List.pairwise_map];refine aP.imp_of_mem (λ{a b} F j aV=>?_);rw[<-(E.row a F).ku,<-(E.row b j).ku];exact aV
   have aW:∀q∈A,∀b o,q.1.p=some ⟨b,o,none⟩->G<b:=λq t=>(y.row q (hp.mem_iff.1 t)).2;go_wp2_with fail;go_loopw [10] (λi wr=>∃(k nq:Nat),1<=k/\(k<=d.length\/k=1)/\i=k/\(∀(i:Nat) (x f:lM),A[i]?=some x->A[i+1]?=some f->i+1<k->x.1.ku≠f.1.ku)/\wr=l.drewN nq) (λi _=>d.length-(intOf i).toNat);case atStart=>exact⟨1,0,NQ _,.inr rfl,rfl,λi x f _ _ h=>absurd h PJ,rfl⟩
   case round=>
    obtain⟨k,av,bi,bj,rfl,aw,rfl⟩:=hrel;by_cases S:k<d.length
    .obtain⟨m,rfl⟩:∃m,k=m+1:=⟨k-1,PJ⟩
     obtain⟨x,Y⟩:∃x,A[m]?=some x:=Gx (by rw[Q];omega);obtain⟨f,Z⟩:∃f,A[m+1]?=some f:=Gx (by rw[Q];omega);obtain⟨aX,o1,aY,_,aa⟩:=E.kI m x Y;obtain⟨aZ,o2,ba,_,ab⟩:=E.kI (m+1) f Z;obtain⟨rfl,rfl⟩:G=aX/\0=o1:=(by injection aY with e;injection e with C P;exact⟨C,P⟩);obtain⟨rfl,rfl⟩:G=aZ/\0=o2:=(by injection ba with e;injection e with C P;exact⟨C,P⟩);have bk:l.cell? ⟨G,m*7,none⟩=some (.int .u8 x.1.ku.kind):=(by simpa using aa 0 _ rfl);have bl:l.cell? ⟨G,m*7+1,none⟩=some (.int .i64 x.1.ku.a):=(by simpa using aa 1 _ rfl);have bm:l.cell? ⟨G,m*7+2,none⟩=some (.int .i64 x.1.ku.b):=(by simpa using aa 2 _ rfl);have bn:l.cell? ⟨G,m*7+3,none⟩=some (.int .i64 x.1.ku.n):=(by simpa using aa 3 _ rfl);have bo:l.cell? ⟨G,(m+1)*7,none⟩=some (.int .u8 f.1.ku.kind):=(by simpa using ab 0 _ rfl);have bp:l.cell? ⟨G,(m+1)*7+1,none⟩=some (.int .i64 f.1.ku.a):=(by simpa using ab 1 _ rfl);have bq:l.cell? ⟨G,(m+1)*7+2,none⟩=some (.int .i64 f.1.ku.b):=(by simpa using ab 2 _ rfl);have br:l.cell? ⟨G,(m+1)*7+3,none⟩=some (.int .i64 f.1.ku.n):=(by simpa using ab 3 _ rfl);have bb:=λW=>vG f.1.ku.kind f.1.ku.a f.1.ku.b f.1.ku.n x.1.ku.kind x.1.ku.a x.1.ku.b x.1.ku.n W;obtain⟨ac,ah⟩:∃ac:Bool,kj.BQ f.1.ku x.1.ku=ac:=⟨_,rfl⟩
     have bs:∀W:World,(Op.equalIn 10000 59 (.agg #[.int .u8 f.1.ku.kind,f.1.ku.a,f.1.ku.b,f.1.ku.n]) (.agg #[.int .u8 x.1.ku.kind,x.1.ku.a,x.1.ku.b,x.1.ku.n])).run prog W=.ok ac W:=λW=>(by rw[<-ah];exact bb W);have bt:=yS;have bu:(0:Int)<= ↑m+1:=PJ;have bv:(↑m+1:Int)< ↑d.length:=PJ;have aJ:IntKind.i64.wrap ((↑m+1:Int)-1)= ↑m:=(by rw[show(↑m+1:Int)-1= ↑m from PJ];exact OV _ PJ);go_wp2_with fail;go_quiet (fail);have bc:x.2.ku=x.1.ku:=(E.row x (NH Y)).ku.symm;have bd:f.2.ku=f.1.ku:=(E.row f (NH Z)).ku.symm;cases ac
     .go_wp2_with fail;go_roundw;case rel=>refine⟨m+1+1,av+nq,PJ,PJ,PQ,λi a b F j hi=>?_,rfl⟩;by_cases bw:i+1=m+1;obtain rfl:i=m:=PJ;rw[Y]at F;rw[Z]at j;cases F;cases j;intro e;have:=ah;rw[kj.E3]at this;exact this e.symm;exact aw i a b F j PJ
      case measure=>simp[intOf];omega
     go_wp2_with fail;have ad:x.2.ku=f.2.ku:=(by rw[bc,bd];exact((kj.sy _ _).1 ah).symm);have O:=IM aq ar Y Z ad;refine NT (v:=.tuple #[.agg #[Nl],.int .i64 5]) (by simp[results,Tryz.results11,go_sem,M]) rfl ⟨none,[],0,by rw[O];rfl,by rw[ui O PM];rfl,pW _ _ _,NQ _,PJ,?_⟩;refine Below.setCell ?_ PK _;exact⟨s.os,s.tape,s.output,s.size,s.B⟩
    obtain⟨B,be⟩:=IP aq ar aU (λi a b F j=>by rw[<-(E.row a (NH F)).ku,<-(E.row b (NH j)).ku];have:=(NW.1 j).1;rw[Q]at this;exact aw i a b F j PJ)
    by_cases ax:96<d.length
    .go_wp2_with fail;have B:=B;rw[Oj ax]at B;refine NT (v:=.tuple #[.agg #[Nl],.int .i64 3]) (by simp[results,Tryz.results11,go_sem,M]) rfl ⟨none,[],0,by rw[B];rfl,by rw[ui B PM];rfl,pW _ _ _,NQ _,PJ,?_⟩;refine Below.setCell ?_ PK _;exact⟨s.os,s.tape,s.output,s.size,s.B⟩
    go_wp2_with fail;have B:=B;rw[Od ax]at B;refine NT (v:=.tuple #[.agg #[.slice (some ⟨G,0,none⟩) d.length d.length],.int .i64 0]) (by simp[results,Tryz.results11,go_sem,M]) rfl ⟨some ⟨G,0,none⟩,A,d.length,by rw[B,Q],by rw[be,kj.sT,Oj B],?_,by rw[Q];exact NQ _,PJ,?_⟩;rw[NM];exact(E.drewN av).set _ _ (λb o e=>by injection e with e;injection e with C _;subst C;simp;omega) (λq t b o e=>by have:=aW q t b o e;simp;omega);refine Below.setCell ?_ PK _;exact⟨s.os,s.tape,s.output,s.size,s.B⟩
theorem Fj(w)(K:Laid w):Calls prog 4 #[] w (A5 w):=by
 have L:=K;have M:=(K5 w)
 go_enter func4,ntmps4
 go_wp2_with fail;have N:=D1 (some ⟨w+1,0,none⟩) [(zt,Fy),(zu w,D8)] 2 _ (by rw[NB,NB];exact M) PK;refine Calls.M N ?_;rintro e a ⟨f,b,c,rfl,s,t,W,X,v⟩;have x:kj.lW (ll [(zt,Fy),(zu w,D8)])=0:=Gk;rw[x];have i:ll b=[D8,Fy]:=s.T Kn;have y:b.length=2:=by have:=Oy List.length i;simpa[ll]using this
 have Y:((b.length:Int)==2)=true:=by rw[y];rfl
 have z:∀p∈b,kj.si p.2=true/\kj.sX p.2:=λp hp=>K4 p.2 (by rw[<-i];exact OY hp);rw[NB,NB]at v;have l:Below w w a:=(((Ba w _).alloc PK _)).T (v.M PJ);have A:=NA z;have B:=NA i;have O:b.length<=1000:=PJ
 have P:=(L.kh l)
 have C:=l.size;clear x s i y z;go_wp2_with fail;refine(I0 f b.length c _).M ?_;rintro e m ⟨rfl,j⟩;rw[NB]at j;have D:m.cell? ⟨a,0,none⟩=some (.slice f b.length c):=(j.cell (p:=⟨a,0,none⟩) PK).T (lI (NF a _) 0 _ rfl);have g:Below a a m:=(Ba a _).T (j.M PJ);have E:a.heap.size<m:=by have:=j.size;simp at this;omega
 go_wp2_with fail;refine(rN f b c _ (P.kh g) (t.kh g g.size) A.o PJ).M ?_;rintro e F ⟨rfl,q⟩;rw[B.o,I4];have Q:F.cell? ⟨a,0,none⟩=some (.slice f b.length c):=(q.cell (p:=⟨a,0,none⟩) E).T D;have r:=(g.T (q.M g.size))
 have Z:a.heap.size<F:=ND E q.size;clear D;unfold Gj;go_wp2_with fail;refine(Fi f b c _ (t.kh r r.size) A.o O).M ?_;rintro e d ⟨aa,rfl,k⟩;rw[B.o,Hh]at k;obtain⟨R,c4,rfl,S⟩:=k.slice;clear Q;go_wp2_with fail;have G:=Hg R (some ⟨d,0,none⟩) c4 17 (sB.map λ(n:Nat)=>(n:Int)) (sB.map λ(n:Nat)=>(n:Int)) (d.alloc (Obj.cells #[.int .u8 2,.int .u8 1,.int .u8 0,.int .u8 2,.int .u8 5,.int .u8 3,.int .u8 0,.int .u8 2,.int .u8 34,.int .u8 7,.int .u8 5,.int .u8 1,.int .u8 0,.int .u8 7,.int .u8 0,.int .u8 0,.int .u8 0] 5))
  (by rw[<-I5,NB];exact S.kh (Ba _ _) PJ)
  (by rw[NB];exact λ_=>⟨d,0,rfl,PJ,λT u hu=>by rw[NY];exact lI (NF d _) T u (by simpa[sB]using hu)⟩) (by simp[sB]) (by simp[sB])
 rw[decide_eq_true rfl]at G;refine Calls.M G ?_;rintro e I hp;obtain⟨rfl,J⟩:=hp.kh;rw[NB]at J;have U:Below d d I:=(Ba d _).T (J.M PJ);have V:Hid (Below w w I):=NA (l.T (r.M C|>.T ((k.kh.M (NR C PJ)).T (U.M (PH k.kh.size)))));go_wp2_with fail;go_ret;exact⟨rfl,V.o⟩
end Go.Proofs.YtfemcncookpdhaaGreatDoor.C
