import Derived.Test.YtfemcncookpdhaaGreatDoorZ26
import Derived.Test.YtfemcncookpdhaaGreatDoorZ28
set_option maxRecDepth 1000000
set_option maxHeartbeats 32000000
set_option linter.all false
namespace Go.Proofs.YtfemcncookpdhaaGreatDoor.C
open Go.RowKit Go.Sort Go.Proofs.Tryz
theorem Dd(ac)(a:List lM)(c:Nat)(w)(h:ny w w ac a)(hn:a.length<=65536)(hc:a.length<=c)(bg:c<=9223372036854775807):Calls prog 63 #[.slice ac a.length c] w (rR (ll a) w):=by
 have H:=h
 go_enter func63,ntmps63
 go_wp2_with fail;go_loopw [13] (λi wr=>∃k:Nat,k<=a.length/\i=k/\(∀p∈a.take k,kj.si p.2=true)/\RowKit.Below w w wr) (λi _=>a.length-(intOf i).toNat);case atStart=>exact⟨0,NP _,rfl,PK,RowKit.Below.refl _ _⟩
 case round=>
  obtain⟨k,ad,rfl,B,j⟩:=hrel;have ae:=NA B;have C:=j.size;clear B;by_cases E:k<a.length
  .obtain⟨p,r⟩:∃p,a[k]?=some p:=Gx E;have t:=H.row p (NH r);have bh:=t.m;have bi:=t.c;obtain⟨b,o,rfl,F,x⟩:=H.kI k p r;have f:∀g u,p.1.vs[g]?=some u->wr.cell? ⟨b,o+k*7+g,none⟩=some u:=λg u hu=>(j.cell (p:=⟨b,o+k*7+g,none⟩) F).T (x g u hu);have c0:wr.cell? ⟨b,o+k*7,none⟩=some (.int .u8 p.1.ku.kind):=f 0 _ rfl;have c1:=f 1 _ rfl;have c2:=f 2 _ rfl;have c3:=f 3 _ rfl;have c4:=f 4 _ rfl;have c5:=f 5 _ rfl;have G:=f 6 _ rfl;have af:=NA r;have I:=λW=>zW p.1 W PJ;have J:pC p.1=.agg #[.int .u8 p.1.ku.kind,p.1.ku.a,p.1.ku.b,p.1.ku.n,p.1.t,p.1.d,.slice p.1.p p.1.n p.1.c]:=rfl;rw[J]at I;have ag:kj.ud p.1.ku p.1.t p.1.d p.1.n=kj.si p.2:=(by unfold kj.si;rw[<-t.ku,<-t.t,<-t.d,<-t.n]);rw[ag]at I;obtain⟨ok,B⟩:∃ok,kj.si p.2=ok:=⟨_,rfl⟩
   rw[B]at I;have aP:=NA I;have ah:=NA B;clear I J ag f x r B;go_wp2_with fail;refine(aP.o _).M ?_;rintro e s ⟨rfl,K⟩;have O:RowKit.Below w w s:=by rw[NB]at K;exact(j.alloc C _).T (K.M PJ)
   clear c0 c1 c2 c3 c4 c5 G;cases ok
   .have l:=xo (NH af.o) ah.o;have y:=NA l;clear l;go_wp2_with fail
    go_ret2
    exact wR y.o PM O
   go_wp2_with fail;go_roundw;case rel=>refine⟨k+1,PJ,PQ,λq m=>?_,O⟩;rw[N5,af.o]at m;rcases OI.1 m with m|m;exact ae.o q m;simp at m;rw[m];exact ah.o
   case measure=>simp[intOf];omega
  have ai:(ll a).all kj.si=true:=by rw[OO];intro z hy;obtain⟨p,hp,rfl⟩:=Ov.1 hy;exact ae.o p (by rw[NV PJ];exact hp)
  have aj:=NA ai;clear ai;go_wp2_with fail;obtain⟨ak,rfl⟩:∃ak:World,ak=wr:=⟨_,rfl⟩
  go_loopw [23] (λi wr=>∃k:Nat,k<=a.length/\i=k/\(∀(g:Nat) (z:kj.lJ),g<k->(ll a)[g]?=some z->kj.xQ ((ll a).take g) z.ku=false)/\RowKit.Below w w wr) (λi _=>a.length-(intOf i).toNat);case atStart=>exact⟨0,NP _,rfl,λg z al=>absurd al PJ,j⟩
  case round=>
   obtain⟨k,ad,rfl,am,j⟩:=hrel;have an:=NA am;have j:=j;have C:=j.size;clear am;by_cases E:k<a.length
   .obtain⟨p,r⟩:∃p,a[k]?=some p:=Gx E;have ao:=(H.row p (NH r)).ku;obtain⟨b,o,rfl,F,x⟩:=H.kI k p r;have f:∀g u,p.1.vs[g]?=some u->wr.cell? ⟨b,o+k*7+g,none⟩=some u:=λg u hu=>(j.cell (p:=⟨b,o+k*7+g,none⟩) F).T (x g u hu);have c0:wr.cell? ⟨b,o+k*7,none⟩=some (.int .u8 p.1.ku.kind):=f 0 _ rfl;have c1:=f 1 _ rfl;have c2:=f 2 _ rfl;have c3:=f 3 _ rfl;have c4:=f 4 _ rfl;have c5:=f 5 _ rfl;have G:=f 6 _ rfl;have L:(ll a)[k]?=some p.2:=(by simp[ll,r]);have aQ:=H.take k PJ;have ap:(a.take k).length=k:=(by rw[N0];omega);have aq:ll (a.take k)=(ll a).take k:=(by rw[ll,ll,List.map_take]);obtain⟨n,U⟩:∃n,kj.rq ((ll a).take k) p.1.ku=n:=⟨_,rfl⟩
    have M:0<=n↔kj.xQ ((ll a).take k) p.2.ku=true:=(by rw[<-U,<-ao];exact kj.E7 _ _);have P:=λ(W:World) (ar:RowKit.Below w w W)=>BL (some ⟨b,o,none⟩) (a.take k) c p.1.ku W (aQ.kh ar ar.size) PJ;rw[ap,aq,U]at P;have au:po p.1.ku=.agg #[.int .u8 p.1.ku.kind,p.1.ku.a,p.1.ku.b,p.1.ku.n]:=rfl;rw[au]at P;have aR:=NA P;have av:=NA M;have aw:=NA L;clear f x ap aq U M P au ao L r;go_wp2_with fail;have ax:=NF wr (.cells #[.int .u8 p.1.ku.kind,p.1.ku.a,p.1.ku.b,p.1.ku.n,p.1.t,p.1.d,.slice p.1.p p.1.n p.1.c] 62);have D:Hid (RowKit.Below w w (wr.alloc (.cells #[.int .u8 p.1.ku.kind,p.1.ku.a,p.1.ku.b,p.1.ku.n,p.1.t,p.1.d,.slice p.1.p p.1.n p.1.c] 62))):=NA (j.alloc C _);generalize wr.alloc (.cells #[.int .u8 p.1.ku.kind,p.1.ku.a,p.1.ku.b,p.1.ku.n,p.1.t,p.1.d,.slice p.1.p p.1.n p.1.c] 62)=s at*;obtain⟨⟨a0,ay,az,aA,_,_,_⟩,_⟩:=tF ax;have aS:=OE a0;have aT:=OE ay;have aU:=OE az;have d3:=OE aA;have V:=D.size;have aB:∀d os,Calls prog 103 #[.slice (some ⟨b,o,none⟩) k c,.agg #[.int .u8 p.1.ku.kind,p.1.ku.a,p.1.ku.b,p.1.ku.n]] (grow (redrawn s d) os) λe aV=>e=.returned (.int .i64 n)/\∃p:Regrown,aV=grow (redrawn s p.d) p.os:=λd os=>Calls.regrown_of (aR.o _ (D.T ((below_regrown s d os).M V)));have Q:=NA aB;have bj:(0:Int)<=(k:Int):=PJ;have bk:(k:Int)<=(a.length:Int):=PJ;have bl:(k:Int)<=(c:Int):=PJ;clear aB ax a0 ay az aA c0 c1 c2 c3 c4 c5 G;by_cases aC:0<=n
    .have X:=av.o.1 aC;have l:kj.lW (ll a)=5:=by
      have Y:kj.nj (ll a)=false:=by cases Ny:kj.nj (ll a);rfl;rw[(kj.ux _).1 Ny k p.2 aw.o]at X;cases X
      unfold kj.lW;rw[aj.o,Y];rfl
     have y:=NA l;clear X l;refine Px PL PL ?_;repeat (first|go_big_quiet_step (exact Q.o _ _)|quiet_step (exact Q.o _ _))
     refine wpQuiet_nil ?_;rintro w' ⟨A,rfl⟩;go_wp2_with fail
     go_ret2
     exact wR y.o PM (D.T ((below_regrown s A.d A.os).M V))
    have M:kj.xQ ((ll a).take k) p.2.ku=false:=by cases hh:kj.xQ ((ll a).take k) p.2.ku;rfl;exact absurd (av.o.2 hh) aC
    have aW:=NA M;clear M;refine Px PL PL ?_;repeat (first|go_big_quiet_step (exact Q.o _ _)|quiet_step (exact Q.o _ _))
    refine wpQuiet_nil ?_;rintro w' ⟨A,rfl⟩;have O:=(D.T ((below_regrown s A.d A.os).M V))
    generalize grow (redrawn s A.d) A.os=bm at*;clear aS aT aU d3;go_wp2_with fail;go_roundw;case rel=>refine⟨k+1,PJ,PQ,λg z al hy=>?_,O⟩;by_cases aX:g=k;subst aX;rw[aw.o]at hy;cases hy;exact aW.o;exact an.o g z PJ hy
    case measure=>simp[intOf];omega
   have aD:kj.nj (ll a)=true:=(kj.ux _).2 (λi z hy=>an.o i z (by have:=(NW.1 hy).1;simp[ll]at this;omega) hy);have l:kj.lW (ll a)=if 96<a.length then 3 else 0:=by unfold kj.lW;rw[aj.o,aD];simp[ll]
   have aE:=NA l;clear aD l;by_cases aF:96<a.length
   .have l:=aE.o;rw[Oj aF]at l;have y:=NA l;clear l;go_wp2_with fail
    go_ret2
    exact wR y.o PM j
   have l:=aE.o;rw[Od aF]at l;have y:=NA l;clear l;have bn:a.length<=96:=PJ;go_wp2_with fail;obtain⟨aG,rfl⟩:∃aG:World,aG=wr:=⟨_,rfl⟩
   go_loopw [8,41] (λv i wr=>∃k:Nat,k<=a.length/\i=k/\Jh w wr v (kj.qo ((ll a).take k))/\RowKit.Below w w wr) (λ_ i _=>a.length-(intOf i).toNat);case atStart=>exact⟨0,NP _,rfl,⟨none,[],0,rfl,rfl,pW _ _ _,NQ _,PJ,tG.none _⟩,j⟩
   case round=>
    obtain⟨k,ad,rfl,aH,j⟩:=hrel;have j:=j;have C:=j.size;by_cases E:k<a.length
    .obtain⟨p,r⟩:∃p,a[k]?=some p:=Gx E;have t:=H.row p (NH r);obtain⟨b,o,rfl,F,x⟩:=H.kI k p r;have f:∀g u,p.1.vs[g]?=some u->wr.cell? ⟨b,o+k*7+g,none⟩=some u:=λg u hu=>(j.cell (p:=⟨b,o+k*7+g,none⟩) F).T (x g u hu);have c0:wr.cell? ⟨b,o+k*7,none⟩=some (.int .u8 p.1.ku.kind):=f 0 _ rfl;have c1:=f 1 _ rfl;have c2:=f 2 _ rfl;have c3:=f 3 _ rfl;have c4:=f 4 _ rfl;have c5:=f 5 _ rfl;have G:=f 6 _ rfl;have L:(ll a)[k]?=some p.2:=(by simp[ll,r]);have aI:=kj.Dc (ll a) k p.2 L;obtain⟨R,N,S,rfl,m,Z,aa,ab,aJ⟩:=aH;have aY:N.length<=65536:=by have aK:=Oy List.length m;have Y:=(kj.oQ ((ll a).take k)).length_eq;rw[Y,N0]at aK;simp[ll]at aK;omega
     have T:=λ(o:Obj)=>Db R N S p.1 p.2 (wr.alloc o) (by rw[NB];exact Z.kh (Ba _ _) PJ) aY aa ab (by rw[NB];exact t.kh (j.alloc C _) PJ);rw[m,<-aI]at T;have J:pC p.1=.agg #[.int .u8 p.1.ku.kind,p.1.ku.a,p.1.ku.b,p.1.ku.n,p.1.t,p.1.d,.slice p.1.p p.1.n p.1.c]:=rfl;rw[J]at T;have aZ:=NA T;clear T J aI m f x r L;go_wp2_with fail;refine(aZ.o _).M ?_;rintro e s ⟨aL,aM,aN,rfl,aO,ba,bb,bc,bd,K⟩;rw[NB]at K;have be:Hid (Jh w s (.slice aL aM.length aN) (kj.qo ((ll a).take (k+1)))):=NA ⟨aL,aM,aN,rfl,aO,ba,bb,bc,bd.M (by rw[NB];omega)⟩;have D:=((j.alloc C _).T (K.M PJ))
     clear aO c0 c1 c2 c3 c4 c5 G;go_wp2_with fail;go_roundw;case rel=>exact⟨k+1,PJ,PQ,be.o,D⟩
     case measure=>simp[intOf];omega
    obtain⟨R,N,S,rfl,m,Z,aa,ab,aJ⟩:=aH;rw[NV PZ]at m;have bf:rR (ll a) w (.returned (.tuple #[.slice R N.length S,.int .i64 0])) wr:=⟨R,N,S,by rw[y.o],by rw[m,kj.sT,Oj y.o],Z,aa,ab,aJ,j⟩
    clear m;go_wp2_with fail
    go_ret2
    exact bf
theorem BM(n)(a:List lM)(c:Nat)(r:Row)(x:kj.lJ)(w)(h:ny w w.heap.size n a)(hn:a.length<=60000)(hr:mF w w.heap.size r x):
  Calls prog 28 #[.slice n a.length c,pC r] w (rR (ll a++[x]) w):=by
 obtain⟨p,q,hz0,s,t⟩:=N4 uj;have Y:pC r=.agg #[.int .u8 r.ku.kind,r.ku.a,r.ku.b,r.ku.n,r.t,r.d,.slice r.p r.n r.c]:=rfl;rw[Y];have A:∀W:World,RowKit.Below w.heap.size w W->mM W w.heap.size 7 n a.length (kJ a):=λW Z=>⟨nQ a,h.lie.kh Z (NQ _)⟩
 have B:(a++[(r,x)]).length=a.length+1:=PK
 have H:=h;have C:=hr;clear h
 go_enter func28,ntmps28
 go_wp2;have J:=NF w (.cells #[.int .u8 r.ku.kind,r.ku.a,r.ku.b,r.ku.n,r.t,r.d,.slice r.p r.n r.c] 62);have u:Hid (RowKit.Below w.heap.size w (w.alloc (.cells #[.int .u8 r.ku.kind,r.ku.a,r.ku.b,r.ku.n,r.t,r.d,.slice r.p r.n r.c] 62))):=(Ba _ _)
 generalize w.alloc (.cells #[.int .u8 r.ku.kind,r.ku.a,r.ku.b,r.ku.n,r.t,r.d,.slice r.p r.n r.c] 62)=b at*;obtain⟨⟨a0,ah,ai,aj,ak,al,am⟩,_⟩:=tF J;have K:w.heap.size<b.heap.size:=(NC.1 J).1;have g:w.heap.size<=b.heap.size:=N9 K;have D:w.heap.size+1<=b.heap.size:=K;go_region_held3 (λw'=>w'.cell? ⟨w.heap.size,0,none⟩=some (.int .u8 r.ku.kind)/\w'.cell? ⟨w.heap.size,1,none⟩=some (.int .i64 r.ku.a)/\w'.cell? ⟨w.heap.size,2,none⟩=some (.int .i64 r.ku.b)/\w'.cell? ⟨w.heap.size,3,none⟩=some (.int .i64 r.ku.n)/\w'.cell? ⟨w.heap.size,4,none⟩=some (.int .i64 r.t)/\w'.cell? ⟨w.heap.size,5,none⟩=some (.int .i64 r.d)/\w'.cell? ⟨w.heap.size,6,none⟩=some (.slice r.p r.n r.c))
  (first|go_keep|(go_split_ands;refine⟨?_,?_,?_,?_,?_,?_,?_⟩<;>(rw[L.cell (by show w.heap.size<_;omega)];assumption))|(go_split_ands;refine⟨?_,?_,?_,?_,?_,?_,?_⟩<;>(rw[i.cell_far _ (by show w.heap.size<_;first|omega|(rw[NB];omega)) (wE j (by show w.heap.size<_;omega))];assumption))|(go_split_ands;refine⟨?_,?_,?_,?_,?_,?_,?_⟩<;>(rw[f.cell_far _ PO PW];assumption)))
  (first|(go_at_call 63;have M:=Dd E (a++[(r,x)]) F l G (by rw[B];omega) (by rw[B];omega) I;rw[B]at M;refine Calls.M M ?_;rintro e aa ⟨N,O,P,rfl,Q,ab,ac,ad,ae,L⟩)|(refine kK (by rfl) (.tmp 6) (.tmp 7) _ (by rfl) (w.heap.size+1) 62 p _ 7 72 underlying26 q hz0 s t rfl PM (.slice (some ⟨b.heap.size,0,none⟩) 0 0) 0 [] (by rfl) ?_ w.heap.size n a.length c (kJ a) (by rfl) ?_ (mK _) ?_ ?_ ?_ ?_;(exact(tK b _ D).drew);(exact A _ ((u.o.alloc g _).drew));(unfold maxLen;omega);omega;(first|(show w.heap.size+1<=(World.alloc _ _).heap.size;rw[NB];omega)|(show w.heap.size+1<=(World.alloc (World.alloc _ _) _).heap.size;rw[NB,NB];omega)|omega);intro v d j f R;have S:b.heap.size+1<=d.heap.size:=NR (by first|(show _<=(World.alloc _ _).heap.size;rw[NB];omega)|(show _<=(World.alloc (World.alloc _ _) _).heap.size;rw[NB,NB];omega)) f.size;have y:RowKit.Below w.heap.size w d:=RowKit.Below.grown ((u.o.alloc g _).drew) f (NR g (by first|(show _<=(World.alloc _ _).heap.size;rw[NB];omega)|(show _<=(World.alloc (World.alloc _ _) _).heap.size;rw[NB,NB];omega))) (λk e=>by simp[Value.ownBlock]at e;omega))|(refine kK (by rfl) (.tmp 6) (.tmp 7) _ (by rfl) (w.heap.size+1) 62 p _ 7 72 underlying26 q hz0 s t rfl PM (.slice (some ⟨b.heap.size,0,none⟩) 0 0) 0 [] (by rfl) ?_ w.heap.size n a.length c (kJ a) (by rfl) ?_ (mK _) ?_ ?_ ?_ ?_;(exact((tK b _ D).alloc _).drew);(exact A _ (((u.o.alloc g _).alloc (by rw[NB];omega) _).drew));(unfold maxLen;omega);omega;(first|(show w.heap.size+1<=(World.alloc _ _).heap.size;rw[NB];omega)|(show w.heap.size+1<=(World.alloc (World.alloc _ _) _).heap.size;rw[NB,NB];omega)|omega);intro v d j f R;have S:b.heap.size+1<=d.heap.size:=NR (by first|(show _<=(World.alloc _ _).heap.size;rw[NB];omega)|(show _<=(World.alloc (World.alloc _ _) _).heap.size;rw[NB,NB];omega)) f.size;have y:RowKit.Below w.heap.size w d:=RowKit.Below.grown (((u.o.alloc g _).alloc (by rw[NB];omega) _).drew) f (NR g (by first|(show _<=(World.alloc _ _).heap.size;rw[NB];omega)|(show _<=(World.alloc (World.alloc _ _) _).heap.size;rw[NB,NB];omega))) (λk e=>by simp[Value.ownBlock]at e;omega))|(refine kK (by rfl) (.tmp 6) (.tmp 7) _ (by rfl) (w.heap.size+1) 62 p _ 7 72 underlying26 q hz0 s t rfl PM (.slice (some ⟨b.heap.size+1,0,none⟩) 0 0) 0 [] (by rfl) ?_ w.heap.size n a.length c (kJ a) (by rfl) ?_ (mK _) ?_ ?_ ?_ ?_;(exact(Cl b _ _ D).drew);(exact A _ (((u.o.alloc g _).alloc (by rw[NB];omega) _).drew));(unfold maxLen;omega);omega;(first|(show w.heap.size+1<=(World.alloc _ _).heap.size;rw[NB];omega)|(show w.heap.size+1<=(World.alloc (World.alloc _ _) _).heap.size;rw[NB,NB];omega)|omega);intro v d j f R;have S:b.heap.size+1<=d.heap.size:=NR (by first|(show _<=(World.alloc _ _).heap.size;rw[NB];omega)|(show _<=(World.alloc (World.alloc _ _) _).heap.size;rw[NB,NB];omega)) f.size;have y:RowKit.Below w.heap.size w d:=RowKit.Below.grown (((u.o.alloc g _).alloc (by rw[NB];omega) _).drew) f (NR g (by first|(show _<=(World.alloc _ _).heap.size;rw[NB];omega)|(show _<=(World.alloc (World.alloc _ _) _).heap.size;rw[NB,NB];omega))) (λk e=>by simp[Value.ownBlock]at e;omega))|(refine kK (by rfl) (.tmp 8) (.tmp 10) _ (by rfl) (w.heap.size+1) 62 p _ 7 72 underlying26 q hz0 s t rfl PM v (0+a.length) ([]++kJ a) (by rfl) ?_ (d.heap.size+1) (some ⟨d.heap.size,0,none⟩) 1 1 r.vs (by rfl) ?_ ?_ ?_ ?_ ?_ ?_;(exact j.alloc _);(exact zh d r);(simp[Row.vs,Value.oneCell']);(unfold maxLen;omega);omega;(rw[NB];omega);intro T l z i U;have V:d.heap.size<=l.heap.size:=NR (by rw[NB];omega) i.size;have m:RowKit.Below w.heap.size w l:=RowKit.Below.grown (y.alloc PJ _) i (by rw[NB];omega) (λk e=>PH (mN j k e));obtain⟨E,F,rfl,X,I,G⟩:=wS H C z m)|(refine kK (by rfl) (.tmp 8) (.tmp 10) _ (by rfl) (w.heap.size+1) 62 p _ 7 72 underlying26 q hz0 s t rfl PM v (0+a.length) ([]++kJ a) (by rfl) ?_ d.heap.size (some ⟨b.heap.size+1,0,none⟩) 1 1 r.vs (by rfl) ?_ ?_ ?_ ?_ ?_ ?_;(exact j);(exact(by have h:=(zh (b.alloc (.cells #[] 62)) r).drew;rw[NB]at h;exact h.grown f (by show _<=(World.alloc (World.alloc _ _) _).heap.size;rw[NB,NB];omega) PS));(simp[Row.vs,Value.oneCell']);(unfold maxLen;omega);omega;omega;intro T l z i U;have V:d.heap.size<=l.heap.size:=NR (NQ _) i.size;have m:RowKit.Below w.heap.size w l:=RowKit.Below.grown (y) i PJ (λk e=>PH (mN j k e));obtain⟨E,F,rfl,X,I,G⟩:=wS H C z m)|(refine kK (by rfl) (.tmp 8) (.tmp 10) _ (by rfl) (w.heap.size+1) 62 p _ 7 72 underlying26 q hz0 s t rfl PM v (0+a.length) ([]++kJ a) (by rfl) ?_ d.heap.size (some ⟨b.heap.size,0,none⟩) 1 1 r.vs (by rfl) ?_ ?_ ?_ ?_ ?_ ?_;(exact j);(exact(((zh b r).alloc (by rw[NB];omega) _).drew.grown f (by show _<=(World.alloc (World.alloc _ _) _).heap.size;rw[NB,NB];omega) PS));(simp[Row.vs,Value.oneCell']);(unfold maxLen;omega);omega;omega;intro T l z i U;have V:d.heap.size<=l.heap.size:=NR (NQ _) i.size;have m:RowKit.Below w.heap.size w l:=RowKit.Below.grown (y) i PJ (λk e=>PH (mN j k e));obtain⟨E,F,rfl,X,I,G⟩:=wS H C z m))
 all_goals
  have af:rR (ll a++[x]) w (.returned (.tuple #[.slice N O.length P,.int .i64 (kj.lW (ll a++[x]))])) aa:=by have e:ll (a++[(r,x)])=ll a++[x]:=(by simp[ll]);rw[e]at Q;exact⟨N,O,P,rfl,Q,ab,ac,ad,ae.M m.size,m.T (L.M m.size)⟩
  have ag:kj.lW (ll (a++[(r,x)]))=kj.lW (ll a++[x]):=(by simp[ll]);rw[ag];go_wp2
  go_ret2
  exact af
theorem E9(J)(a:List lM)(c n:Nat)(w)(h:ny w w J a)(af:a.length<=60000)(hn:n<=96):Calls prog 9 #[.slice J a.length c,n] w (pX (kj.nr (ll a) n) w):=by
 have H:=h
 go_enter func9,ntmps9
 go_wp2_with fail;go_loopw [5,12] (λv i wr=>∃k:Nat,k<=a.length/\i=k/\Jh w wr v (kj.nr ((ll a).take k) n)/\RowKit.Below w w wr) (λ_ i _=>a.length-(intOf i).toNat);case atStart=>exact⟨0,NP _,rfl,⟨none,[],0,rfl,rfl,pW _ _ _,NQ _,PJ,tG.none _⟩,Below.refl _ _⟩
 case round=>
  obtain⟨k,ag,rfl,⟨f,d,g,rfl,j,r,x,y,z⟩,m⟩:=hrel;have ah:d.length<=n:=by have T:=Oy List.length j;have U:=kj.yO ((ll a).take k) n;simp only[ll,O7]at T;simp only[ll]at U;omega
  have A:=m.size;by_cases V:k<a.length
  .obtain⟨p,B⟩:∃p,a[k]?=some p:=Gx V;have W:=H.row p (NH B);obtain⟨b,o,rfl,X,Y⟩:=H.kI k p B;have l:∀q u,p.1.vs[q]?=some u->wr.cell? ⟨b,o+k*7+q,none⟩=some u:=λq u hu=>(m.cell (p:=⟨b,o+k*7+q,none⟩) X).T (Y q u hu);have c0:wr.cell? ⟨b,o+k*7,none⟩=some (.int .u8 p.1.ku.kind):=l 0 _ rfl;have c1:=l 1 _ rfl;have c2:=l 2 _ rfl;have c3:=l 3 _ rfl;have c4:=l 4 _ rfl;have c5:=l 5 _ rfl;have ai:=l 6 _ rfl;have Z:(ll a)[k]?=some p.2:=(by simp[ll,B]);by_cases C:d.length=n
   .subst C;have D:∀o:Obj,pX (kj.nr (ll a) d.length) w (.returned (.slice f d.length g)) (wr.alloc o):=λo=>by refine⟨f,d,g,rfl,?_,by rw[NB];exact r.kh (Ba _ _) PJ,x,y,z,m.alloc A _⟩;rw[kj.C4 (ll a) d.length k (by rw[<-j];simp[ll])];exact j
    go_wp2_with fail;go_ret;exact D _
   have K:=λ(o:Obj)=>BM f d g p.1 p.2 (wr.alloc o) (by rw[NB];exact r.kh (Ba _ _) PJ) PJ (by rw[NB];exact W.kh (m.alloc A _) PJ);have aa:pC p.1=.agg #[.int .u8 p.1.ku.kind,p.1.ku.a,p.1.ku.b,p.1.ku.n,p.1.t,p.1.d,.slice p.1.p p.1.n p.1.c]:=rfl;rw[aa]at K;have aj:(d.length==n)=false:=(by simpa using C);have ak:((d.length:Int)==(n:Int))=false:=(by simpa using(by omega:¬(d.length:Int)=(n:Int)));have al:¬((d.length:Int)=(n:Int)):=PJ;have L:(kj.nr ((ll a).take k) n).length≠n:=(by rw[<-j];simpa[ll]using C);go_wp2_with fail;refine(K _).M ?_;rintro e E ⟨M,N,O,rfl,P,ab,ac,ad,ae,Q⟩;rw[NB]at Q;rw[j]at P⊢;obtain⟨s,F⟩:∃s,kj.lW (kj.nr ((ll a).take k) n++[p.2])=s:=⟨_,rfl⟩
   rw[F];have R:=kj.C3 (ll a) n k p.2 Z;have G:RowKit.Below wr wr E:=((RowKit.Below.refl wr wr).alloc (NQ _) _).T (Q.M PJ);have S:=(m.T (G.M A))
   by_cases t:s=0
   .have I:Hid (Jh w E (.slice M N.length O) (kj.nr ((ll a).take (k+1)) n)):=⟨M,N,O,rfl,by rw[R,kj.Df L (F.T t)];exact P,ab,ac,ad,ae.M (by rw[NB];omega)⟩
    subst t;go_wp2_with fail;go_roundw;case rel=>exact⟨k+1,PJ,PQ,I.o,S⟩
    case measure=>simp[intOf];omega
   have I:Hid (Jh w E (.slice f d.length g) (kj.nr ((ll a).take (k+1)) n)):=⟨f,d,g,rfl,by rw[R,kj.E8 L (by rw[F];exact t)];exact j,r.kh G G.size,x,y,z⟩
   have am:(s==0)=false:=(by simpa using t);go_wp2_with fail;go_roundw;case rel=>exact⟨k+1,PJ,PQ,I.o,S⟩
   case measure=>simp[intOf];omega
  have D:pX (kj.nr (ll a) n) w (.returned (.slice f d.length g)) wr:=by refine⟨f,d,g,rfl,?_,r,x,y,z,m⟩;have h:=j;rw[NV PZ]at h;exact h
  go_wp2_with fail;go_ret;exact D
end Go.Proofs.YtfemcncookpdhaaGreatDoor.C
