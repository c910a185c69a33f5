import Derived.Test.YtfemcncookpdhaaGreatDoorZ26
import Derived.Test.YtfemcncookpdhaaGreatDoorZ27
import Derived.Test.YtfemcncookpdhaaGreatDoorZ28
set_option maxRecDepth 1000000
set_option maxHeartbeats 32000000
set_option linter.all false
namespace Go.Proofs.YtfemcncookpdhaaGreatDoor
open Go.RowKit lX Go.Proofs.Tryz
theorem Ki(S w c)(d c1:Nat)(f)(g c2:Nat)(i)(j c3:Nat)(x)(L:lH w)(hR:rp w)(M:tj w)(hf:qV S w c d c1 f g c2 i j c3 x)(ad:pj x)(ae:uD x):
  Calls prog 6 #[.agg #[tx x.name,.slice c d c1,.slice f g c2,.slice i j c3]] w (Kh x w):=by
 have E:=L.low;have N:=hR.lt;have O:=M.lt;have k:=Ba w (.cells #[tx x.name,.slice c d c1,.slice f g c2,.slice i j c3] 42);have F:=NA (NF w (.cells #[tx x.name,.slice c d c1,.slice f g c2,.slice i j c3] 42));have Q:=(hf.kh k)
 have G:=(L.kh k E)
 have af:=(hR.kg (k.B _ N) k.size)
 have R:=(M.kg (k.B _ O) k.size)
 have T:=NA (show(w.alloc (.cells #[tx x.name,.slice c d c1,.slice f g c2,.slice i j c3] 42)).heap.size=w+1 from PK);have I:=ad;have U:=ae;have aM:=(And.intro E (And.intro N O))
 clear E
 go_enter func6,ntmps6
 go_upto_region 1 with fail;generalize w.alloc (.cells #[tx x.name,.slice c d c1,.slice f g c2,.slice i j c3] 42)=V at*;obtain⟨l,J⟩:=Xq w.heap.size;rw[<-J]at F T k⊢;have ag:=NA J;have ah:l<V:=PH T.o
 clear J;obtain⟨⟨r,t,u,v⟩,_⟩:=qg F.o;go_wp2_with fail;refine(Bv S V c d c1 f g c2 i j c3 x G af Q I U).M ?_;rintro e y ⟨ai,rfl,n,aN,aj⟩;have ak:=n.size;have K:=(Q.kh n)
 have al:=(G.kh n G.low)
 have W:=(R.kg (n.B _ R.lt) ak)
 have X:=NA ((n.B l ah).T F.o);clear r t u v;obtain⟨⟨r,t,u,v⟩,_⟩:=qg X.o;have am:l<y:=PJ
 go_wp2_with fail;refine(EU S y c d c1 f g c2 i j c3 x al K I U).M ?_;rintro e Y ⟨s,rfl,aO,p⟩;have an:=p.size;have ao:=(K.kh p)
 have Z:=(W.kg (p.B _ W.lt) an)
 have ap:=NA ((p.B l am).T X.o);clear r t u v;obtain⟨⟨r,t,u,v⟩,_⟩:=qg ap.o;have aP:l<Y:=PJ
 go_wp2_with fail;refine(GU S Y c d c1 f g c2 i j c3 x ao I).M ?_;rintro e b ⟨aq,ar,au,av,aw,ax,ay,az,d3,rfl,aA,A⟩;have aB:=A.size;have aa:=(Z.kg (A.B _ Z.lt) aB)
 clear r t u v;have hcv:=Lib.run_convert_string_bytes (P:=prog) b 9 22 5 s underlying9 underlying22 underlying5;have B:=(BB b 5 s)
 have aC:∀C,C<s.size->∃x:Int,(Lib.bytesWorld b 5 s).cell? ⟨b,0+C,none⟩=some (.int .u8 x):=λC aD=>⟨_,by rw[NY];exact Lib.bytesWorld_cell b 5 s C aD⟩
 have aE:=NA (Lib.bytesWorld_size b 5 s);generalize Lib.bytesWorld b 5 s=aF at*;go_wp2_with fail;refine(IG (some ⟨b,0,none⟩) s.size _ aF (λ_=>⟨_,_,rfl,PH aE.o,aC⟩) (grownCap_ge _ _ _ _) PJ (aa.kg (B.B _ aa.lt) B.size)).M ?_;rintro e m ⟨⟨aQ,rfl,ab,aG⟩,aH⟩;obtain⟨z,rfl⟩:=Kg ab aG;have D:Below b b m:=B.T (aH.M B.size);clear ab hcv;go_wp2_with fail
 go_ret2
 have aR:=D.size;have aI:Below l w b:=((k.T (n.M PJ)).T (p.M PJ)).T (A.M PJ);have aJ:Below l w m:=aI.T (D.M PJ);have he:=ag.o;refine⟨m,rfl,⟨PK,λq=>(S q\/l<=q)/\q<m,aq,ar,au,av,aw,ax,ay,az,d3,ai,kf (NF _ _) 0 _ rfl,kf (NF _ _) 1 _ rfl,kf (NF _ _) 2 _ rfl,kf (NF _ _) 3 _ rfl,kf (NF _ _) 37 _ rfl,?_,?_,PO⟩,?_,PJ⟩
 .have aK:=aA.kh (D);exact(aK.kh (Ba m _)).M (λq a=>⟨.inr (PH a.1),PH a.2⟩) (λq a=>PO)
 .have aL:∀(o:Obj) (q:Nat),q<y->(m.alloc o).heap[q]?=y.heap[q]?:=λo q a=>(N6 m o PJ).T ((D.B q PJ).T ((A.B q PJ).T (p.B q a)));have ac:=K.ln;refine(aj.kg (λq a=>aL _ q (by rcases a with(a|a)|a;exact ac q a;exact a.2;omega))).M (λq a=>?_);rcases a with a|a;exact⟨.inl a,PH (ac q a)⟩;exact⟨.inr PJ,PJ⟩
 .rw[<-he];exact aJ.alloc PJ _
structure BR(wB wr:World)(V8 V9:Value)(hs vs:List Nat)(x:World):Prop where
 g:Below wB wB x
 h8:xS x wB V8 hs
 h9:xS x wB V9 vs
 ne:∀z,V8.ownBlock=some z->V9.ownBlock≠some z
 b8:∀z,V8.ownBlock=some z->z<wr
 b9:∀z,V9.ownBlock=some z->z<wr
 s:wr.heap.size<=x
 ws:wB.heap.size<=wr
 Ky:∀b,b<wr.heap.size->V8.ownBlock≠some b->V9.ownBlock≠some b->x.heap[b]?=wr.heap[b]?
theorem BR.kh{c wr d e hs vs x f}(h:BR c wr d e hs vs x)(a:Below x x f):BR c wr d e hs vs f:=
 ⟨h.g.T (a.M h.g.size),h.h8.kh pq.ok a,h.h9.kh pq.ok a,h.ne,h.b8,h.b9,NR h.s a.size,h.ws,λb g i j=>(a.B b (ND g h.s)).T (h.Ky b g i j)⟩
theorem BR.JA{d wr a i hs vs x g}(h:BR d wr a i hs vs x)(c:x.grownBy g a.ownBlock)(l:xS g d a hs):BR d wr a i hs vs g:=
 ⟨h.g.grown c h.g.size (λz hz=>(h.h8.ge z hz).1),l,h.h9.grown pq.ok c (λz e=>⟨λf=>f,λm=>h.ne z e m.symm⟩),h.ne,h.b8,h.b9,NR h.s c.size,h.ws,λb j k n=>(c.B b (ND j h.s) (λe=>k e.symm)).T (h.Ky b j k n)⟩
theorem BR.Mh{d wr i a hs vs x g}(h:BR d wr i a hs vs x)(c:x.grownBy g a.ownBlock)(l:xS g d a vs):BR d wr i a hs vs g:=
 ⟨h.g.grown c h.g.size (λz hz=>(h.h9.ge z hz).1),h.h8.grown pq.ok c (λz e=>⟨λf=>f,λm=>h.ne z m.symm e⟩),l,h.ne,h.b8,h.b9,NR h.s c.size,h.ws,λb j n k=>(c.B b (ND j h.s) (λe=>k e.symm)).T (h.Ky b j n k)⟩
theorem I6{b a v:Value}{w:World}{n:Nat}(d:v.ownBlock=b.ownBlock\/v.ownBlock=some w.heap.size)(f:∀z,b.ownBlock=some z->a.ownBlock≠some z)(g:∀z,a.ownBlock=some z->z<n)(hs:n<=w):∀z,v.ownBlock=some z->a.ownBlock≠some z:=λz hz c=>by
 rcases d with h|h;exact f z (h.symm.T hz) c;have e:z=w:=by rw[h]at hz;injection hz with hz;exact hz.symm
 have:=g z c;omega
theorem BR.Lu{c wr a d hs vs x b}(h:BR c wr a d hs vs x)(e:x.grownBy b a.ownBlock):NK wr x b:=.kW e h.b8
theorem BR.Lv{c wr d a hs vs x b}(h:BR c wr d a hs vs x)(e:x.grownBy b a.ownBlock):NK wr x b:=.kW e h.b9
end Go.Proofs.YtfemcncookpdhaaGreatDoor
namespace Go.Proofs.YtfemcncookpdhaaGreatDoor.C
open Go.RowKit Go.Sort Go.Proofs.Tryz
theorem Hc{w}{B:Nat}{p:lM}(h:mF w B p.1 p.2):mF w B (uJ p).1 (uJ p).2:=by
 have a:=h.cut (min (p.1.n:Int) 6).toNat PJ;have e:p.2.args.take (min (p.1.n:Int) 6).toNat=p.2.args.take 6:=by have:=h.n;by_cases b:p.1.n<=6;rw[show(min (p.1.n:Int) 6).toNat=p.1.n from PJ,NV PJ,NV PJ];rw[show(min (p.1.n:Int) 6).toNat=6 from PJ]
 rw[e]at a;exact a
theorem IW(m)(a:List lM)(c:Nat)(w)(h:ny w w m a)(hc:a.length<=c)(S:c<=9223372036854775807):Calls prog 10 #[.slice m a.length c] w (pX ((ll a).take 100|>.map HL) w):=by
 obtain⟨x,y,hz0,z,A⟩:=N4 uj;have H:=h
 go_enter func10,ntmps10
 go_wp2;obtain⟨d,B⟩:∃d:Nat,min (a.length:Int) 100=d:=⟨(min (a.length:Int) 100).toNat,PJ⟩
 have C:max (d:Int) 0=d:=PJ
 have D:a.take d=a.take 100:=by by_cases T:a.length<=100;rw[NV PJ,NV PJ];rw[show d=100 from PJ]
 rw[B,C,Oq];go_loopw [3,12] (λv i wr=>∃k:Nat,k<=d/\i=k/\wr.ownsRow w 62 7 v k (kJ ((a.take k).map uJ))/\RowKit.Below w w wr) (λ_ i _=>d-(intOf i).toNat);case atStart=>exact⟨0,NP _,rfl,⟨rfl,.inl ⟨rfl,rfl⟩⟩,Below.refl _ _⟩
 case round=>
  obtain⟨k,U,rfl,j,f⟩:=hrel;have n:=f.size;by_cases V:k<d
  .obtain⟨p,l⟩:∃p,a[k]?=some p:=Gx PJ;have r:=H.row p (NH l);obtain⟨b,o,rfl,E,F⟩:=H.kI k p l;have e:∀g u,p.1.vs[g]?=some u->wr.cell? ⟨b,o+k*7+g,none⟩=some u:=λg u hu=>(f.cell (p:=⟨b,o+k*7+g,none⟩) E).T (F g u hu);have c0:wr.cell? ⟨b,o+k*7,none⟩=some (.int .u8 p.1.ku.kind):=e 0 _ rfl;have c1:=e 1 _ rfl;have c2:=e 2 _ rfl;have c3:=e 3 _ rfl;have c4:=e 4 _ rfl;have c5:=e 5 _ rfl;have W:=e 6 _ rfl;have G:kJ ((a.take (k+1)).map uJ)=kJ ((a.take k).map uJ)++(uJ p).1.vs:=by rw[N5,l,Pw,og];simp[kJ,qF]
   have X:=r.c;have Y:=r.m;go_wp2_with (at_builtin;refine Oo _ rfl _ _ 26 rfl w.heap.size 62 x _ 7 72 underlying26 y hz0 z A rfl PM _ k (kJ ((a.take k).map uJ)) rfl ?c0 ⟨wr+1,0,none⟩ 1 1 (uJ p).1.vs rfl rfl ?c1 ?c2 ?c3 ?c4 ?c5 ?_);case c0=>exact(j.alloc _).alloc _
   case c1=>have:=lU (wr.alloc (.cells #[.int .u8 p.1.ku.kind,p.1.ku.a,p.1.ku.b,p.1.ku.n,p.1.t,p.1.d,.slice p.1.p (min (p.1.n:Int) 6).toNat p.1.c] 62)) (uJ p).1.vs 62;rw[NB]at this;exact this
   case c2=>simp[Value.oneCell',Row.vs]
   case c3=>unfold maxLen;omega
   case c4=>omega
   case c5=>simp;omega
   intro I s J K _;have L:Hid (s.ownsRow w 62 7 I (k+1) (kJ ((a.take (k+1)).map uJ))):=(by rw[G,List.map_take];exact J)
   have M:Hid (RowKit.Below w w s):=(((f.alloc n _).alloc PO _).grown K PO (mN j))
   go_wp2;go_roundw;case rel=>exact⟨k+1,PJ,PQ,L.o,M.o⟩
   case measure=>simp[intOf];omega
  obtain rfl:k=d:=PJ;obtain⟨t,c2,rfl,Z,N,O⟩:=rP j;have P:((a.take k).map uJ).length=k:=PO;have Q:pX ((ll a).take 100|>.map HL) w (.returned (.slice t k c2)) wr:=by refine⟨t,(a.take k).map uJ,c2,by rw[P],?_,⟨O.2,λq R=>?_⟩,PJ,N,tG.own j (NQ _),f⟩;rw[D];simp[ll,List.map_take,uJ,Function.comp_def];obtain⟨p,hp,rfl⟩:=Ov.1 R;exact Hc ((H.row p (OM hp)).kh f n)
  go_wp2;go_ret;exact Q
end Go.Proofs.YtfemcncookpdhaaGreatDoor.C
namespace Go.Proofs.YtfemcncookpdhaaGreatDoor.C
open Go.ChangeShapes Go.WideShapes Go.ChangeAt Go.RowKit Go.Proofs.Tryz
theorem tA{H:Type}{enc:TypeId×Value->H}{P:Program}{w:World}{base:Nat}{sp:Nat->Bool}{held:Bool}{a:Nat}{t e:TypeId}{n:Nat}{c:List Value}{zs:List (List UInt8)}{p:List MemPlace}
  (g:P.underlying t=some (.array n e)) (he:P.underlying e=some .string) (hce:P.cellsOf e=1) (j:P.cellsOf t=n)
  (h:DataW.trod enc P w base sp held a t c=some (.agg (zs.map λz=>.lit (.string z)),p)):c=zs.map uI:=by
 cases a with
 |zero=>simp[DataW.trod]at h
 |succ a=>
  simp only[DataW.trod,g,hce,j,Og]at h;split at h
  rename_i r
  obtain⟨xs,hm,hx⟩:=OW.1 h;have f:xs.map (·.1)=zs.map λz=>(DataW.lit (.string z):DataW H):=by have:=Oy Prod.fst hx;simpa using this
  have s:xs.length=n:=(by simpa using Lib.mapM_length hm);have u:zs.length=n:=by have:=Oy List.length f;simp at this;omega
  apply List.ext_getElem?;intro i;by_cases hi:i<n;obtain⟨b,k,hf⟩:=Lib.mapM_at hm i i (by simp[hi]);obtain⟨z,hc,rfl,_⟩:=DataW.trod_string he hf;have l:c[i]?=some (.string z):=by have:=Oy (·[0]?) hc;simpa[OJ,Pa]using this
  have d:(xs.map (·.1))[i]?=some (DataW.lit (.string z.data.toList):DataW H):=(by simp[k]);rw[f]at d;simp only[Om,OW,DataW.lit.injEq,Lit.string.injEq]at d;obtain⟨v,m,q⟩:=d;rw[l,Om,m,q];rfl;rw[Py PJ,Py PO];cases h
theorem oM{P:Program}{w:World}{n:String}{g:Nat}{b:Array Value}(c:P.globalNamed n=some g)(h:w.var? P n=some b):∃t a,w.heap[g]?=some (.cells b t a):=by
 unfold World.var? at h;rw[c]at h;simp only[Option.bind_some]at h;split at h
 rename_i d t a e
 cases h;exact⟨t,a,e⟩;cases h
theorem I7{W}(h:laidMetH prog mJ W):Laid W:=by have h:laidMet prog mJ W:=h;constructor;obtain⟨g,t,b,k,p,c,f,i,a⟩:=Pj h (n:= "rootcause/choice.words") (d:=Rows.laid_rootcause_choice_words) P2;obtain rfl:=Ox (Gl.symm.T c);obtain rfl:=Ox (Kq.symm.T f);obtain⟨t,j,e⟩:=oM Gl i;refine⟨t,j,?_⟩;rw[Dm]at a;have hc:=tA (zs:=kj.words) rU underlying9 zv Dl a;rw[e,show b=pO from by unfold pO;rw[<-hc]];obtain⟨g,t,b,k,p,c,f,i,a⟩:=Pj h (n:= "internal/strconv.uint64pow10") (d:=Rows.laid_internal_strconv_uint64pow10) P2;obtain rfl:=Ox (JI.symm.T c);obtain rfl:=Ox (Mi.symm.T f);obtain⟨t,j,e⟩:=oM JI i;refine⟨t,j,?_⟩;rw[Hk]at a;have hc:=Lib.cells_of_tab (zs:=Lib.pow10Tab) Fk underlying138 Kr Hj a;rw[e,show b=JH from by unfold JH;rw[<-hc]]
def D5:DataW Unit->List Value
 | .lit (.int k z)=>[Value.int k z]
 | .lit (.string s)=>[.string ⟨s.toArray⟩]
 | .lit (.bool b)=>[.bool b]
 |_=>[undef]
def oD:DataW Unit->Array Value
 | .agg l=>(l.flatMap λ| .agg m=>m.flatMap D5|x=>D5 x).toArray
 |_=> #[]
noncomputable def qT(os:Os):World:=
 {World.holding prog os ⟨#[],#[],[]⟩with heap:=(((((((((World.holding prog os ⟨#[],#[],[]⟩).heap.modify 0 (putCells (oD Rows.laid_rootcause_choice_words))).modify 2 (putCells (oD Rows.laid_internal_strconv_uint64pow10))).modify 9 (putCells (oD Rows.laid_math_bits_deBruijn32tab))).modify 10 (putCells (oD Rows.laid_math_bits_deBruijn64tab))).modify 1 (putCells (oD Rows.laid_rootcause_digest_constants))).modify 7 (putCells (oD Rows.laid_rootcause_lexer_words))).modify 8 (putCells (oD Rows.laid_rootcause_syntax_shapes))).modify 4 (putCells (oD Rows.laid_rootcause_syntax_forms))).modify 5 (putCells (oD Rows.laid_rootcause_code_rows))}
end Go.Proofs.YtfemcncookpdhaaGreatDoor.C
namespace Go.Proofs.YtfemcncookpdhaaGreatDoor.C
open Go.ChangeShapes Go.WideShapes Go.ChangeAt Go.RowKit Go.Proofs.Tryz
section
variable {H:Type} {enc:TypeId×Value→H} {W:World} {base:Nat} {sp:Nat→Bool} {held:Bool}
def vy(n:Int):Prop:= -9223372036854775808<=n/\n<=9223372036854775807
structure FW(k:kj.Key):Prop where
 kind:0<=k.kind/\k.kind<=255
 a:vy k.a
 b:vy k.b
 n:vy k.n
theorem Dy{a:List Value}(h:a.length=4):∃c0 c1 c2 c3,a=[c0,c1,c2,c3]:=by
 match a,h with
 |[c0,c1,c2,c3],_=>exact⟨c0,c1,c2,c3,rfl⟩
theorem K6{a:List Value}(h:a.length=7):∃c0 c1 c2 c3 c4 c5 b,a=[c0,c1,c2,c3,c4,c5,b]:=by
 match a,h with
 |[c0,c1,c2,c3,c4,c5,b],_=>exact⟨c0,c1,c2,c3,c4,c5,b,rfl⟩
theorem rK:prog.cellsOf 3=1:=PL
theorem Hl:prog.cellsOf 2=1:=PL
theorem Fm:prog.cellsOf 57=1:=PL
theorem A6:prog.cellsOf 59=4:=PL
theorem A7:prog.cellsOf 62=7:=PL
theorem Fo:prog.cellsOf 60=1:=PL
theorem xG{p:Nat}{g}{x:DataW H×List MemPlace}(h:DataW.trod enc prog W base sp held p 59 g=some x):
  ∃k:kj.Key,g=[.int .u8 k.kind,.int .i64 k.a,.int .i64 k.b,.int .i64 k.n]/\FW k:=by
 obtain⟨xs,n,_,_,q,hx,hf⟩:=O6 underlying59 h;obtain⟨c0,c1,c2,c3,rfl⟩:=Dy (q.T A6);have u:xs.length=4:=hx;have c:DataW.trod enc prog W base sp held n 57 (([c0,c1,c2,c3].drop 0).take (prog.cellsOf 57))=xs[0]?:=hf 0 _ rfl;rw[Fm,NU PJ]at c;have d:DataW.trod enc prog W base sp held n 3 (([c0,c1,c2,c3].drop 1).take (prog.cellsOf 3))=xs[1]?:=hf 1 _ rfl;rw[rK,NU PJ]at d;have e:DataW.trod enc prog W base sp held n 3 (([c0,c1,c2,c3].drop 2).take (prog.cellsOf 3))=xs[2]?:=hf 2 _ rfl;rw[rK,NU PJ]at e;have f:DataW.trod enc prog W base sp held n 3 (([c0,c1,c2,c3].drop 3).take (prog.cellsOf 3))=xs[3]?:=hf 3 _ rfl;rw[rK,NU PJ]at f;simp only[Po,OZ,O0,Pq]at c d e f;obtain⟨k,i,_,w0⟩:=OC underlying57 c;obtain⟨a,j,_,r⟩:=OC underlying3 d;obtain⟨b,l,_,s⟩:=OC underlying3 e;obtain⟨m,e3,_,t⟩:=OC underlying3 f;simp only[O2,and_true]at i j l e3;subst i j l e3;exact⟨⟨k,a,b,m⟩,rfl,bounds_u8 w0,bounds_i64 r,bounds_i64 s,bounds_i64 t⟩
theorem vT{k:Nat}{f}{x:DataW H×List MemPlace}(h:DataW.trod enc prog W base sp held k 60 f=some x):
  ∃p c ar,f=[.slice p ar.length c]/\ar.length<=c/\c<=9223372036854775807/\qi W W p (pL ar)/\∀v∈ar,vy v:=by
 rcases open_ints underlying60 underlying2 Hl h with⟨rfl,_⟩|⟨a,len,l,zs,rfl,_,w,hm,hz,_,hc,hw⟩
 .exact⟨none,0,[],rfl,NQ _,PJ,qi.nil _ _ _,PK⟩
 .have y:len<=zs.length:=(by rw[hz];split<;>omega);have m:(zs.take len).length=len:=(by rw[N0];omega);refine⟨some a,l,zs.take len,by rw[m],PJ,by unfold maxLen at hm;omega,λn=>?_,λv q=>bounds_i64 (hw v (OM q))⟩;have hp:0<len:=by rcases OL len with e|e;subst e;simp[pL]at n;exact e
  obtain⟨b,g,rfl,r⟩:=ints_at hc PJ;have j:∀i,i<len->W.cell? ⟨b,g+i,none⟩=some (.int .i64 (zs.getD i 0)):=λi hi=>r i PJ;refine⟨b,g,rfl,?_,λs u hu=>?_⟩;exact block_lt_of_cell (j 0 hp);simp only[pL,Om,OW]at hu;obtain⟨z,d,rfl⟩:=hu;rw[OJ]at d;split at d
  rename_i t
  rw[j s t];simp[List.getD,d];cases d
theorem xH{s:Nat}{j}{x:DataW H×List MemPlace}(h:DataW.trod enc prog W base sp held s 62 j=some x):
  ∃(r:Row) (a:kj.lJ),j=r.vs/\mF W W r a/\kj.sX a/\FW a.ku/\vy a.t/\vy a.d:=by
 obtain⟨xs,n,_,_,u,hx,hf⟩:=O6 underlying62 h;obtain⟨c0,c1,c2,c3,c4,c5,b,rfl⟩:=K6 (u.T A7);have D:xs.length=4:=hx;have e:DataW.trod enc prog W base sp held n 59 (([c0,c1,c2,c3,c4,c5,b].drop 0).take (prog.cellsOf 59))=xs[0]?:=hf 0 _ rfl;rw[A6,NU PJ]at e;have f:DataW.trod enc prog W base sp held n 3 (([c0,c1,c2,c3,c4,c5,b].drop 4).take (prog.cellsOf 3))=xs[1]?:=hf 1 _ rfl;rw[rK,NU PJ]at f;have g:DataW.trod enc prog W base sp held n 3 (([c0,c1,c2,c3,c4,c5,b].drop 5).take (prog.cellsOf 3))=xs[2]?:=hf 2 _ rfl;rw[rK,NU PJ]at g;have i:DataW.trod enc prog W base sp held n 60 (([c0,c1,c2,c3,c4,c5,b].drop 6).take (prog.cellsOf 60))=xs[3]?:=hf 3 _ rfl;rw[Fo,NU PJ]at i;simp only[Po,OZ,O0,Pq]at e f g i;obtain⟨k,l,v⟩:=xG e;obtain⟨t,m,_,w⟩:=OC underlying3 f;obtain⟨d,q,_,y⟩:=OC underlying3 g;obtain⟨p,c,ar,e3,z,A,B,C⟩:=vT i;simp only[O2,and_true]at l m q e3;obtain⟨rfl,rfl,rfl,rfl⟩:=l;subst m q e3;exact⟨⟨k,t,d,p,ar.length,c⟩,⟨k,t,d,ar⟩,rfl,⟨rfl,rfl,rfl,rfl,z,A,B⟩,C,v,bounds_i64 w,bounds_i64 y⟩
end
end Go.Proofs.YtfemcncookpdhaaGreatDoor.C
namespace Go.Proofs.YtfemcncookpdhaaGreatDoor.C
open Go.ChangeShapes Go.WideShapes Go.ChangeAt Go.RowKit Go.Proofs.Tryz
section
variable {H:Type} {enc:TypeId×Value→H} {W:World} {base:Nat} {sp:Nat→Bool} {held:Bool}
structure FX(y:kj.lJ):Prop where
 r:kj.sX y
 ku:FW y.ku
 t:vy y.t
 d:vy y.d
theorem vU{z:Nat}{v}{x:DataW H×List MemPlace}(h:DataW.trod enc prog W base sp held z 26 v=some x):
  ∃(w:Option Addr) (k:List lM) (c:Nat),v=[.slice w k.length c]/\ny W W w k/\k.length<=c/\c<=9223372036854775807/\∀p∈k,FX p.2:=by
 rcases Go.Deep.open_slice underlying26 h with⟨rfl,_⟩|⟨a,len,A,m,n,D,P,rfl,Q,B,hm,C,_,hx⟩
 .exact⟨none,[],0,rfl,pW _ _ _,NQ _,PJ,PK⟩
 .have R:len<=m:=(by rw[C];split<;>omega);rw[A7]at hx;obtain⟨g,hF⟩:=Go.Deep.choose_lt (α:=lM) (n:=len) (p:=λi p=>W.cells? base (a.add (i*7)) 7=some p.1.vs/\mF W W p.1 p.2/\FX p.2) (λi hi=>by obtain⟨S,d,f⟩:=hx i PJ;obtain⟨r,E,rfl,F,G,I,J,K⟩:=xH f;exact⟨(r,E),d,F,G,I,J,K⟩)
  have l:((List.range len).map g).length=len:=PK;refine⟨some a,(List.range len).map g,A,by rw[l],⟨λL=>?_,λp hp=>?_⟩,by rw[l];exact B,by unfold maxLen at hm;omega,λp hp=>?_⟩;have hp:0<len:=by rcases OL len with e|e;subst e;simp[kJ]at L;exact e
  have hc:∀i,i<len->∀j u,(g i).1.vs[j]?=some u->W.cell? ((a.add (i*7)).add j)=some u:=λi hi j u hu=>by obtain⟨_,T,f⟩:=World.cells?_some (hF i hi).1;have M:j<7:=PH ((NW.1 hu).1);rw[f j M];exact hu
  have s:=hc 0 hp 0 _ rfl;obtain⟨b,t,N⟩:=a;have O:N=none:=(by simpa[Addr.add]using World.cell?_spot s);subst O;rw[kQ,kQ]at s;refine⟨b,t,rfl,block_lt_of_cell s,λq u hu=>?_⟩;have U:q<len*7:=by have d:=(NW.1 hu).1;rw[nQ,l]at d;exact d
  have y:q/7<len:=PJ;have d:=vn ((List.range len).map g) (q/7) (q % 7) (g (q/7)) (by simp[y]) (Nat.mod_lt _ PM);rw[show q/7*7+q % 7=q from PJ,hu]at d;have f:=hc (q/7) y (q % 7) u d.symm;rw[kQ,kQ,show t+q/7*7+q % 7=t+q from PJ]at f;exact f;obtain⟨i,hi,rfl⟩:=Ov.1 hp;exact(hF i (PA.1 hi)).2.1;obtain⟨i,hi,rfl⟩:=Ov.1 hp;exact(hF i (PA.1 hi)).2.2
theorem Fp{r:Reach}{b0:Nat}{v:Value}{d:DataW H}{p:List MemPlace}(i:Value.okWide prog W r b0 26 v)(h:DataW.Trod enc prog W base sp held 26 v d p):
  ∃(f:Option Addr) (b:List lM) (c:Nat),v=.slice f b.length c/\ny W W f b/\b.length<=c/\c<=9223372036854775807/\∀p∈b,FX p.2:=by
 obtain⟨a,l,c,rfl⟩:=okWide_slice underlying26 i;obtain⟨m,hf⟩:=h;obtain⟨f,b,g,e,j⟩:=vU hf;refine⟨f,b,g,?_,j⟩;have k:[Value.slice a l c]=[Value.slice f b.length g]:=e;injection k
end
end Go.Proofs.YtfemcncookpdhaaGreatDoor.C
namespace Go.Proofs.YtfemcncookpdhaaGreatDoor
open Go.ChangeShapes Go.WideShapes Go.ChangeAt Go.RowKit lX C Go.Proofs.Tryz
theorem vK{a:Type}{R:List Value->a->Prop}{f}{g:Nat->a}:∀(l:List Nat),(∀i∈l,R (f i) (g i))->kZ R (l.map f) (l.map g)
 |[],_=>trivial
 |i::l,h=>⟨h i PK,vK l λb c=>h b (by simp[c])⟩
theorem tT{k:Nat}:∀(l:List (List Value)) (i q:Nat),(∀r∈l,r.length=k)->q<k->l.flatten[i*k+q]?=(l[i]?).bind (·[q]?)
 |[],i,q,_,_=>by simp
 |r::l,0,q,h,hq=>by rw[OS,Nat.zero_mul,NY,Ou (by rw[h r (by simp)];exact hq)];rfl
 |r::l,i+1,q,h,hq=>by have hr:=h r PK;rw[OS,OA (by rw[hr,PF];omega),hr,show(i+1)*k+q-k=i*k+q by rw[PF];omega];exact tT l i q (λx hx=>h x (by simp[hx])) hq
section
variable {H:Type} {enc:TypeId×Value→H} {W:World} {base:Nat} {sp:Nat→Bool} {held:Bool}
abbrev Low(W:World):Nat->Prop:=λb=>b<W
theorem qU{α:Type}{R:Rel α}{t e}{k:Nat}(ok:kT R k)(F:prog.underlying t=some (.slice e))(hce:prog.cellsOf e=k)
  (I:∀{s:Nat} {f:List Value} {x:DataW H×List MemPlace},DataW.trod enc prog W base sp held s e f=some x->∃v,R (Low W) W f v)
  {s:Nat} {f:List Value} {x:DataW H×List MemPlace} (h:DataW.trod enc prog W base sp held s t f=some x):
  ∃(B:Option Addr) (ys:List α) (c:Nat),f=[.slice B ys.length c]/\km R (Low W) W (.slice B ys.length c) ys:=by
 rcases Go.Deep.open_slice F h with⟨rfl,_⟩|⟨a,len,l,m,n,D,V,rfl,X,J,hm,K,_,hx⟩
 .exact⟨none,[],0,rfl,km.nil _ _ _⟩
 .have Y:len<=m:=(by rw[K];split<;>omega);rw[hce]at hx;obtain⟨L,hF⟩:=Go.Deep.choose_lt (α:=Option (List Value×α)) (n:=len) (p:=λi p=>∃q,p=some q/\W.cells? base (a.add (i*k)) k=some q.1/\R (Low W) W q.1 q.2) (λi hi=>by obtain⟨M,w,d⟩:=hx i PJ;obtain⟨v,hy⟩:=I d;exact⟨some (M,v),_,rfl,w,hy⟩)
  rcases OL len with N|hp;subst N;exact⟨some a,[],l,rfl,some a,l,[],rfl,NP _,by unfold maxLen at hm;omega,tY.nil _ _ _,trivial⟩;obtain⟨O,_,_,_⟩:=hF 0 hp;obtain⟨G,g⟩:∃G:Nat->List Value×α,∀i,i<len->W.cells? base (a.add (i*k)) k=some (G i).1/\R (Low W) W (G i).1 (G i).2:=
   ⟨λi=>(L i).getD O,λi hi=>by obtain⟨q,y,w,d⟩:=hF i hi;simp only[y,Option.getD_some];exact⟨w,d⟩⟩
  have C:((List.range len).map λi=>(G i).2).length=len:=PK;have E:=ok.pos;have P:∀r∈(List.range len).map (λi=>(G i).1),r.length=k:=by intro r hr;obtain⟨i,hi,rfl⟩:=Ov.1 hr;exact ok.len (g i (PA.1 hi)).2
  refine⟨some a,(List.range len).map λi=>(G i).2,l,by rw[C],some a,l,(List.range len).map λi=>(G i).1,rfl,by rw[C];exact J,by unfold maxLen at hm;omega,λZ=>?_,vK _ λi hi=>(g i (PA.1 hi)).2⟩;have hc:∀i,i<len->∀j u,(G i).1[j]?=some u->W.cell? ((a.add (i*k)).add j)=some u:=λi hi j u hu=>by obtain⟨_,aa,d⟩:=World.cells?_some (g i hi).1;have Q:j<k:=(by have:=(NW.1 hu).1;rw[ok.len (g i hi).2]at this;exact this);rw[d j Q];exact hu
  have S:0<(G 0).1.length:=(by rw[ok.len (g 0 hp).2];exact E);have z:=hc 0 hp 0 _ (NU S);obtain⟨b,A,T⟩:=a;have U:T=none:=(by simpa[Addr.add]using World.cell?_spot z);subst U;rw[kQ,kQ]at z;refine⟨b,A,rfl,block_lt_of_cell z,λq u hu=>?_⟩;have y:q/k*k+q % k=q:=(by rw[Nat.mul_comm];exact Nat.div_add_mod q k);have hf:=tT _ (q/k) (q % k) P (Nat.mod_lt _ E);rw[y,hu]at hf;rcases PG (q/k) len with hi|hi;rw[Om,List.getElem?_range hi]at hf;have d:=hc (q/k) hi (q % k) u hf.symm;rw[kQ,kQ,show A+q/k*k+q % k=A+q from PJ]at d;exact d;rw[Py (by simpa using hi)]at hf;cases hf
theorem uN:prog.cellsOf 5=1:=PL
theorem D6:prog.cellsOf 22=1:=PL
theorem zE:prog.cellsOf 87=2:=PL
theorem A8:prog.cellsOf 72=1:=PL
theorem D7:prog.cellsOf 74=4:=PL
theorem Hm:prog.cellsOf 23=1:=PL
theorem Fq:prog.cellsOf 25=3:=PL
theorem K7{a:List Value}(h:a.length=2):∃c0 c1,a=[c0,c1]:=by
 match a,h with
 |[c0,c1],_=>exact⟨c0,c1,rfl⟩
theorem K8{a:List Value}(h:a.length=3):∃c0 c1 c2,a=[c0,c1,c2]:=by
 match a,h with
 |[c0,c1,c2],_=>exact⟨c0,c1,c2,rfl⟩
theorem yX{b:Nat}{a}{x:DataW H×List MemPlace}(h:DataW.trod enc prog W base sp held b 5 a=some x):∃c,qE (Low W) W a c:=by
 obtain⟨k,rfl,_,d⟩:=OC underlying5 h;have f:=bounds_u8 d;refine⟨UInt8.ofNat k.toNat,?_⟩;have e:((UInt8.ofNat k.toNat).toNat:Int)=k:=by rw[UInt8.toNat_ofNat'];omega
 show [Value.int .u8 k]=[.int .u8 _];rw[e]
theorem wk{c:Nat}{a}{x:DataW H×List MemPlace}(h:DataW.trod enc prog W base sp held c 5 a=some x):∃b:Nat,a=[.int .u8 (b:Int)]/\b<=255:=by obtain⟨k,rfl,_,d⟩:=OC underlying5 h;have e:=bounds_u8 d;exact⟨k.toNat,by rw[Pm e.1],PJ⟩
theorem yY{g:Nat}{d}{x:DataW H×List MemPlace}(h:DataW.trod enc prog W base sp held g 87 d=some x):∃i,qd (Low W) W d i:=by obtain⟨xs,n,_,_,j,hx,hf⟩:=O6 underlying87 h;obtain⟨c0,c1,rfl⟩:=K7 (j.T zE);have l:xs.length=2:=hx;have a:DataW.trod enc prog W base sp held n 5 (([c0,c1].drop 0).take (prog.cellsOf 5))=xs[0]?:=hf 0 _ rfl;rw[uN,NU PJ]at a;have b:DataW.trod enc prog W base sp held n 22 (([c0,c1].drop 1).take (prog.cellsOf 22))=xs[1]?:=hf 1 _ rfl;rw[D6,NU PJ]at b;simp only[Po,OZ,O0,Pq]at a b;obtain⟨p,e,_⟩:=wk a;obtain⟨m,ys,c,f,k⟩:=qU qE.ok underlying22 uN (λh=>yX h) b;simp only[O2,and_true]at e f;subst e f;exact⟨⟨p,ys⟩,_,rfl,k⟩
theorem Fs{j:Nat}{e}{x:DataW H×List MemPlace}(h:DataW.trod enc prog W base sp held j 74 e=some x):∃k,tX (Low W) W e k:=by obtain⟨xs,n,_,_,l,hx,hf⟩:=O6 underlying74 h;obtain⟨c0,c1,c2,c3,rfl⟩:=Dy (l.T D7);have u:xs.length=4:=hx;have a:DataW.trod enc prog W base sp held n 5 (([c0,c1,c2,c3].drop 0).take (prog.cellsOf 5))=xs[0]?:=hf 0 _ rfl;rw[uN,NU PJ]at a;have b:DataW.trod enc prog W base sp held n 5 (([c0,c1,c2,c3].drop 1).take (prog.cellsOf 5))=xs[1]?:=hf 1 _ rfl;rw[uN,NU PJ]at b;have c:DataW.trod enc prog W base sp held n 72 (([c0,c1,c2,c3].drop 2).take (prog.cellsOf 72))=xs[2]?:=hf 2 _ rfl;rw[A8,NU PJ]at c;have d:DataW.trod enc prog W base sp held n 72 (([c0,c1,c2,c3].drop 3).take (prog.cellsOf 72))=xs[3]?:=hf 3 _ rfl;rw[A8,NU PJ]at d;simp only[Po,OZ,O0,Pq]at a b c d;obtain⟨p,f,_⟩:=wk a;obtain⟨q,g,_⟩:=wk b;obtain⟨v,m,w,i,r⟩:=qU qd.ok underlying72 zE (λh=>yY h) c;obtain⟨y,s,z,e3,t⟩:=qU qd.ok underlying72 zE (λh=>yY h) d;simp only[O2,and_true]at f g i e3;subst f g i e3;exact⟨⟨p,q,m,s⟩,_,_,rfl,r,t⟩
theorem Fu{r:Reach}{b0:Nat}{v:Value}{d:DataW H}{p:List MemPlace}(u:Value.okWide prog W r b0 25 v)(h:DataW.Trod enc prog W base sp held 25 v d p):
  ∃(a:Nat) (Al:Option Addr) (b:List UInt8) (i:Nat) (j:Option Addr) (c:List Pt) (k:Nat),v=.agg #[.int .u8 (a:Int),.slice Al b.length i,.slice j c.length k]/\km qE (Low W) W (.slice Al b.length i) b/\km tX (Low W) W (.slice j c.length k) c:=by
 obtain⟨l,rfl,_⟩:=okWide_struct underlying25 u;obtain⟨w,x⟩:=h;have y:DataW.trod enc prog W base sp held w 25 l.toList=some (d,p):=x;obtain⟨xs,n,_,_,z,hx,hf⟩:=O6 underlying25 y;obtain⟨c0,c1,c2,m⟩:=K8 (z.T Fq);rw[m]at hf;have J:xs.length=3:=hx;have e:DataW.trod enc prog W base sp held n 5 (([c0,c1,c2].drop 0).take (prog.cellsOf 5))=xs[0]?:=hf 0 _ rfl;rw[uN,NU PJ]at e;have f:DataW.trod enc prog W base sp held n 22 (([c0,c1,c2].drop 1).take (prog.cellsOf 22))=xs[1]?:=hf 1 _ rfl;rw[D6,NU PJ]at f;have g:DataW.trod enc prog W base sp held n 23 (([c0,c1,c2].drop 2).take (prog.cellsOf 23))=xs[2]?:=hf 2 _ rfl;rw[Hm,NU PJ]at g;simp only[Po,OZ,O0,Pq]at e f g;obtain⟨a,q,_⟩:=wk e;obtain⟨A,B,C,s,D⟩:=qU qE.ok underlying22 uN (λh=>yX h) f;obtain⟨E,F,G,t,I⟩:=qU tX.ok underlying23 D7 (λh=>Fs h) g;simp only[O2,and_true]at q s t;subst q s t;refine⟨a,A,B,C,E,F,G,?_,D,I⟩;rw[<-Array.toArray_toList (xs:=l),m]
end
end Go.Proofs.YtfemcncookpdhaaGreatDoor
namespace Go.Proofs.YtfemcncookpdhaaGreatDoor
open Go.ChangeShapes Go.WideShapes Go.ChangeAt Go.RowKit lX C Go.Proofs.Tryz
section
variable {H:Type} {enc:TypeId×Value→H} {W:World} {base:Nat} {sp:Nat→Bool} {held:Bool}
theorem Mj{k n:Nat}{c:List Value}{b:List (List Value)}(e:0<k)(g:c.length=n*k)(hr:b.length=n)(f:∀r∈b,r.length=k)(h:∀i,i<n->b[i]?=some ((c.drop (i*k)).take k)):c=b.flatten:=by
 apply List.ext_getElem?;intro a;have d:a/k*k+a % k=a:=by rw[Nat.mul_comm];exact Nat.div_add_mod a k
 have hm:=Nat.mod_lt a e;have hf:=tT b (a/k) (a % k) f hm;rw[d]at hf;rw[hf];rcases PG (a/k) n with hi|hi;rw[h _ hi,Option.bind_some,List.getElem?_take_of_lt hm,Pa,d];have j:n*k<=a:=NR (Oz k hi) PJ;rw[Py PJ,Py PJ];rfl
theorem tB{b:Type}(xs:List b)(row:b->List Value)(c:b->DataW H){t e}{n k:Nat}(l:0<k)(q:∀x,(row x).length=k)(s:prog.underlying t=some (.array n e))(hce:prog.cellsOf e=k)(u:prog.cellsOf t=n*k)
  (one:∀{f:Nat} {a:List Value} {g:b} {p:List MemPlace},DataW.trod enc prog W base sp held f e a=some (c g,p)->a=row g)
  {f:Nat} {a:List Value} {p:List MemPlace} (h:DataW.trod enc prog W base sp held f t a=some (.agg (xs.map c),p)):a=(xs.map row).flatten:=by
 obtain⟨ys,m,_,v,w,B,y⟩:=DataW.trod_array s h;have e3:xs.map c=ys.map (·.1):=by have:=Oy Prod.fst v;simpa using this
 have z:xs.length=n:=by have:=Oy List.length e3;simp at this;omega
 refine Mj l (w.T u) (by rw[O7];exact z) (λr hr=>by obtain⟨x,_,rfl⟩:=Ov.1 hr;exact q x) λi hi=>?_;have j:=y i hi;rw[hce,NU PJ]at j;obtain⟨x,hx⟩:∃x,xs[i]?=some x:=Gx PJ;have d:=Oy (·[i]?) e3;simp only[Om,hx,Pe,NU (show i<ys.length from PJ)]at d;have d:=Ox d;have A:DataW.trod enc prog W base sp held m e ((a.drop (i*k)).take k)=some (c x,ys[i].2):=by rw[j,d]
 rw[Om,hx,Pe,<-one A]
theorem Gm:prog.cellsOf 4=1:=PL
theorem xr:prog.cellsOf 332=4:=PL
theorem yZ:prog.cellsOf 295=6:=PL
theorem za:prog.cellsOf 314=4:=PL
theorem Hn:prog.cellsOf 226=1:=PL
theorem K9{a:List Value}(h:a.length=6):∃c0 c1 c2 c3 c4 c5,a=[c0,c1,c2,c3,c4,c5]:=by
 match a,h with
 |[c0,c1,c2,c3,c4,c5],_=>exact⟨c0,c1,c2,c3,c4,c5,rfl⟩
theorem KT{b:Type}{a:List b}(h:a.length=4):∃c0 c1 c2 c3,a=[c0,c1,c2,c3]:=by
 match a,h with
 |[c0,c1,c2,c3],_=>exact⟨c0,c1,c2,c3,rfl⟩
theorem Mk{b:Type}{a:List b}(h:a.length=6):∃c0 c1 c2 c3 c4 c5,a=[c0,c1,c2,c3,c4,c5]:=by
 match a,h with
 |[c0,c1,c2,c3,c4,c5],_=>exact⟨c0,c1,c2,c3,c4,c5,rfl⟩
def Cn(x:Nat×Bool×Nat×List UInt8):DataW H:=.agg [.lit (.int .i64 (x.1:Int)),.lit (.bool x.2.1),.lit (.int .i64 (x.2.2.1:Int)),.lit (.string x.2.2.2)]
def FY(x:Bool×Bool×Nat×Nat×Bool×Bool):DataW H:=.agg [.lit (.bool x.1),.lit (.bool x.2.1),.lit (.int .i64 (x.2.2.1:Int)),.lit (.int .i64 (x.2.2.2.1:Int)),.lit (.bool x.2.2.2.2.1),.lit (.bool x.2.2.2.2.2)]
theorem Fv{q:Nat}{j a}{p:List MemPlace}(h:DataW.trod enc prog W base sp held q 332 j=some (Cn a,p)):j=qL a:=by obtain⟨xs,n,_,r,s,hx,hf⟩:=O6 underlying332 h;obtain⟨c0,c1,c2,c3,rfl⟩:=Dy (s.T xr);have t:xs.length=4:=hx;obtain⟨u,v,w,x,rfl⟩:=KT t;have e3:=DataW.agg.inj (Prod.mk.inj r).1;simp only[Ob,Oe,O2,and_true]at e3;have b:DataW.trod enc prog W base sp held n 3 (([c0,c1,c2,c3].drop 0).take (prog.cellsOf 3))=some u:=hf 0 _ rfl;have c:DataW.trod enc prog W base sp held n 4 (([c0,c1,c2,c3].drop 1).take (prog.cellsOf 4))=some v:=hf 1 _ rfl;have d:DataW.trod enc prog W base sp held n 3 (([c0,c1,c2,c3].drop 2).take (prog.cellsOf 3))=some w:=hf 2 _ rfl;have e:DataW.trod enc prog W base sp held n 9 (([c0,c1,c2,c3].drop 3).take (prog.cellsOf 9))=some x:=hf 3 _ rfl;rw[rK]at b d;rw[Gm]at c;rw[zv]at e;simp only[Po,OZ,O0,Pq]at b c d e;obtain⟨B,a0,b0,_⟩:=OC underlying3 b;obtain⟨C,k,y⟩:=DataW.trod_bool underlying4 c;obtain⟨D,l,z,_⟩:=OC underlying3 d;obtain⟨E,m,A,_⟩:=DataW.trod_string underlying9 e;simp only[O2,and_true]at a0 k l m;subst a0 k l m;rw[b0,y,z,A]at e3;obtain⟨f,g,i,e4⟩:=e3;simp only[DataW.lit.injEq,Lit.int.injEq,Lit.bool.injEq,Lit.string.injEq,true_and]at f g i e4;obtain⟨F,G,I,J⟩:=a;simp only at f g i e4;subst f g i e4;rfl
theorem Ho{v:Nat}{m a}{p:List MemPlace}(h:DataW.trod enc prog W base sp held v 295 m=some (FY a,p)):m=sw a:=by obtain⟨xs,n,_,w,x,hx,hf⟩:=O6 underlying295 h;obtain⟨c0,c1,c2,c3,c4,c5,rfl⟩:=K9 (x.T yZ);have y:xs.length=6:=hx;obtain⟨z,A,B,C,D,E,rfl⟩:=Mk y;have e3:=DataW.agg.inj (Prod.mk.inj w).1;simp only[Ob,Oe,O2,and_true]at e3;have b:DataW.trod enc prog W base sp held n 4 (([c0,c1,c2,c3,c4,c5].drop 0).take (prog.cellsOf 4))=some z:=hf 0 _ rfl;have c:DataW.trod enc prog W base sp held n 4 (([c0,c1,c2,c3,c4,c5].drop 1).take (prog.cellsOf 4))=some A:=hf 1 _ rfl;have d:DataW.trod enc prog W base sp held n 3 (([c0,c1,c2,c3,c4,c5].drop 2).take (prog.cellsOf 3))=some B:=hf 2 _ rfl;have e:DataW.trod enc prog W base sp held n 3 (([c0,c1,c2,c3,c4,c5].drop 3).take (prog.cellsOf 3))=some C:=hf 3 _ rfl;have f:DataW.trod enc prog W base sp held n 4 (([c0,c1,c2,c3,c4,c5].drop 4).take (prog.cellsOf 4))=some D:=hf 4 _ rfl;have g:DataW.trod enc prog W base sp held n 4 (([c0,c1,c2,c3,c4,c5].drop 5).take (prog.cellsOf 4))=some E:=hf 5 _ rfl;rw[rK]at d e;rw[Gm]at b c f g;simp only[Po,OZ,O0,Pq]at b c d e f g;obtain⟨L,a0,b0⟩:=DataW.trod_bool underlying4 b;obtain⟨M,q,F⟩:=DataW.trod_bool underlying4 c;obtain⟨N,r,G,_⟩:=OC underlying3 d;obtain⟨O,s,I,_⟩:=OC underlying3 e;obtain⟨P,t,J⟩:=DataW.trod_bool underlying4 f;obtain⟨Q,u,K⟩:=DataW.trod_bool underlying4 g;simp only[O2,and_true]at a0 q r s t u;subst a0 q r s t u;rw[b0,F,G,I,J,K]at e3;obtain⟨i,j,k,e4,e5,l⟩:=e3;simp only[DataW.lit.injEq,Lit.int.injEq,Lit.bool.injEq,true_and]at i j k e4 e5 l;obtain⟨R,S,T,U,V,X⟩:=a;simp only at i j k e4 e5 l;subst i j k e4 e5 l;rfl
theorem Hp{j:Nat}{e}{x:DataW H×List MemPlace}(h:DataW.trod enc prog W base sp held j 314 e=some x):∃t u p q,e=[.string t,.string u,.int .i64 p,.int .i64 q]:=by obtain⟨xs,n,_,_,k,hx,hf⟩:=O6 underlying314 h;obtain⟨c0,c1,c2,c3,rfl⟩:=Dy (k.T za);have l:xs.length=4:=hx;obtain⟨m,r,s,v,rfl⟩:=KT l;have a:DataW.trod enc prog W base sp held n 9 (([c0,c1,c2,c3].drop 0).take (prog.cellsOf 9))=some m:=hf 0 _ rfl;have b:DataW.trod enc prog W base sp held n 9 (([c0,c1,c2,c3].drop 1).take (prog.cellsOf 9))=some r:=hf 1 _ rfl;have c:DataW.trod enc prog W base sp held n 3 (([c0,c1,c2,c3].drop 2).take (prog.cellsOf 3))=some s:=hf 2 _ rfl;have d:DataW.trod enc prog W base sp held n 3 (([c0,c1,c2,c3].drop 3).take (prog.cellsOf 3))=some v:=hf 3 _ rfl;rw[rK]at c d;rw[zv]at a b;simp only[Po,OZ,O0,Pq]at a b c d;obtain⟨w,a0,_⟩:=DataW.trod_string underlying9 a;obtain⟨y,f,_⟩:=DataW.trod_string underlying9 b;obtain⟨z,g,_⟩:=OC underlying3 c;obtain⟨A,i,_⟩:=OC underlying3 d;simp only[O2,and_true]at a0 f g i;subst a0 f g i;exact⟨_,_,_,_,rfl⟩
end
theorem KU:prog.globalNamed "rootcause/lexer.words" =some 7:=PL
theorem KV:prog.globalNamed "rootcause/syntax.shapes" =some 8:=PL
theorem KW:prog.globalNamed "rootcause/syntax.forms" =some 4:=PL
theorem KX:prog.globalNamed "rootcause/code.rows" =some 5:=PL
theorem KY:prog.globalNamed "rootcause/digest.constants" =some 1:=PL
theorem Ml:(prog.globals[7]?).map (·.type)=some 343:=PL
theorem Mn:(prog.globals[8]?).map (·.type)=some 344:=PL
theorem Mo:(prog.globals[4]?).map (·.type)=some 328:=PL
theorem Mp:(prog.globals[5]?).map (·.type)=some 340:=PL
theorem Mq:(prog.globals[1]?).map (·.type)=some 274:=PL
theorem Mr:prog.underlying 343=some (.array 39 9):=PL
theorem Ms:prog.underlying 344=some (.array 24 332):=PL
theorem Mt:prog.underlying 328=some (.array 11 295):=PL
theorem Mu:prog.underlying 340=some (.array 35 314):=PL
theorem Mv:prog.underlying 274=some (.array 64 226):=PL
theorem Mw:prog.cellsOf 343=39:=PL
theorem Mx:prog.cellsOf 344=24*4:=PL
theorem My:prog.cellsOf 328=11*6:=PL
theorem Hr:(Rows.laid_rootcause_lexer_words:DataW Unit)=.agg (mh.words.map λz=>.lit (.string z)):=PL
theorem Hs:(Rows.laid_rootcause_syntax_shapes:DataW Unit)=.agg (shapes.map Cn):=PL
theorem Ht:(Rows.laid_rootcause_syntax_forms:DataW Unit)=.agg (forms.map FY):=PL
theorem tC{W:World}{g:Nat}{a:Array Value}{t:TypeId}{b:Nat×Nat}(h:W.heap[g]?=some (.cells a t b))(i:Nat):W.cell? ⟨g,i,none⟩=a[i]?:=by simp[World.cell?,h]
theorem Hu{W}(h:laidMetH prog mJ W):lH W:=by have h:laidMet prog mJ W:=h;refine⟨?_,?_,?_⟩;obtain⟨g,t,b,k,p,c,f,i,a⟩:=Pj h (n:= "rootcause/lexer.words") (d:=Rows.laid_rootcause_lexer_words) P2;obtain rfl:=Ox (KU.symm.T c);obtain rfl:=Ox (Ml.symm.T f);obtain⟨t,j,e⟩:=oM KU i;refine⟨t,j,?_⟩;rw[Hr]at a;have hc:=tA (zs:=mh.words) Mr underlying9 zv Mw a;rw[e,show b=pO from by unfold pO;rw[<-Array.toArray_toList (xs:=b),hc]];obtain⟨g,t,b,k,p,c,f,i,a⟩:=Pj h (n:= "rootcause/syntax.shapes") (d:=Rows.laid_rootcause_syntax_shapes) P2;obtain rfl:=Ox (KV.symm.T c);obtain rfl:=Ox (Mn.symm.T f);obtain⟨t,j,e⟩:=oM KV i;refine⟨t,j,?_⟩;rw[Hs]at a;have hc:=tB shapes qL Cn PM (λ_=>rfl) Ms xr Mx (λh=>Fv h) a;rw[e,show b=vX from by unfold vX;rw[<-hc]];obtain⟨g,t,b,k,p,c,f,i,a⟩:=Pj h (n:= "rootcause/syntax.forms") (d:=Rows.laid_rootcause_syntax_forms) P2;obtain rfl:=Ox (KW.symm.T c);obtain rfl:=Ox (Mo.symm.T f);obtain⟨t,j,e⟩:=oM KW i;refine⟨t,j,?_⟩;rw[Ht]at a;have hc:=tB forms sw FY PM (λ_=>rfl) Mt yZ My (λh=>Ho h) a;rw[e,show b=zj from by unfold zj;rw[<-hc]]
theorem Hv{W}(h:laidMetH prog mJ W):rp W:=by
 have h:laidMet prog mJ W:=h;obtain⟨g,t,y,z,p,l,q,r,s⟩:=Pj h (n:= "rootcause/code.rows") (d:=Rows.laid_rootcause_code_rows) P2;obtain rfl:=Ox (KX.symm.T l);obtain rfl:=Ox (Mp.symm.T q);obtain⟨t,A,e⟩:=oM KX r;obtain⟨ys,m,_,_,B,C,v⟩:=DataW.trod_array Mu s;refine⟨(NC.1 e).1,λk D=>?_⟩;have b:=v k PJ;rw[za,NU PJ]at b;obtain⟨c,f,i,j,w⟩:=Hp b;have hc:∀a u,([.string c,.string f,.int .i64 i,.int .i64 j]:List Value)[a]?=some u->a<4->W.cell? ⟨5,k*4+a,none⟩=some u:=λa u hu x=>by rw[<-w,List.getElem?_take_of_lt x,Pa]at hu;rw[tC e,<-hu,Array.getElem?_toList]
 exact⟨c,f,i,j,hc 0 _ rfl PM,hc 1 _ rfl PM,hc 2 _ rfl PM,hc 3 _ rfl PM⟩
theorem Hw{W}(h:laidMetH prog mJ W):tj W:=by have h:laidMet prog mJ W:=h;obtain⟨g,t,r,s,p,b,c,f,i⟩:=Pj h (n:= "rootcause/digest.constants") (d:=Rows.laid_rootcause_digest_constants) P2;obtain rfl:=Ox (KY.symm.T b);obtain rfl:=Ox (Mq.symm.T c);obtain⟨t,u,e⟩:=oM KY f;obtain⟨ys,m,_,_,v,w,j⟩:=DataW.trod_array Mv i;refine⟨(NC.1 e).1,λk l=>?_⟩;have a:=j k l;rw[Hn,NU PJ]at a;obtain⟨z,q,_⟩:=OC underlying226 a;refine⟨z,?_⟩;have hu:([.int .u32 z]:List Value)[0]?=some (.int .u32 z):=rfl;rw[<-q,List.getElem?_take_of_lt PM,Pa]at hu;rw[tC e,<-hu,Array.getElem?_toList,Og,NS]
end Go.Proofs.YtfemcncookpdhaaGreatDoor
namespace Go.RowKit
open Go.WideShapes Go.ChangeShapes Go.WideElems
section
variable {H:Type} {enc:TypeId×Value→H} {P:Program}
def ra(P:Program)(a:List TypeId):Bool:=a.all λt=>P.readableRec t&&decide (t<P.types.size)
theorem tD(e:laidOutB P=true){W f:World}{sp:Nat->Bool}:∀{b:List TypeId} {vs:List Value} {c:List (DataW H)} {a:List MemPlace},ra P b=true->
  DataW.TrodAll enc P W 0 (λ_=>true) true b vs c a->(∀p∈a,W.sameAt f p)->(∀p∈a,sp p.block=true)->DataW.TrodAll enc P f 0 sp true b vs c a
 |[],[],[],_,_,h,_,_=>h
 |t::b,v::vs,d::c,a,hr,h,h1,h2=>by
  obtain⟨p,q,hp,g,rfl⟩:=h;simp only[ra,List.all_cons,Bool.and_eq_true,decide_eq_true_eq]at hr;exact⟨p,q,Trod_stays e hr.1.1 hr.1.2 hp (λx hx=>h1 x (by simp[hx])) (λx hx=>h2 x (by simp[hx])),
   tD e (by simp[ra];simpa using hr.2) g (λx hx=>h1 x (by simp[hx])) (λx hx=>h2 x (by simp[hx])),rfl⟩
 |[],[],_::_,_,_,h,_,_=>h.elim
 |[],_::_,_,_,_,h,_,_=>h.elim
 |_::_,[],_,_,_,h,_,_=>h.elim
 |_::_,_::_,[],_,_,h,_,_=>h.elim
theorem Hx{f:Func}{s:ChangeSpec}{l A B C:Bool}{W c:World}{args:Array Value}{a m:List (DataW H)}{d:List MemPlace}{n:TypeId}
  (D:laidOutB P=true) (E:ra P f.params.toList=true) (e:s.vars=[]) (r:f.resultTypes=#[n]) (t:P.underlying n=some .bool)
  (g:DataW.Whole enc P f.params.toList s.vars l W args.toList a m d)
  (i:s.fn H (a++m)={results:=[.lit (.bool true)],args:=a}) (j:Below W.heap.size W c):
  s.post enc P f l A B C W args (.bool true) c:=by
 have F:=g;have k:∀p∈d,p.block<W.heap.size:=λp hp=>g.lt p hp;have G:∀p∈d,(λb=>decide (b<W.heap.size)) p.block=true:=λp hp=>by simpa using k p hp
 obtain⟨p,q,I,u,rfl,hz,hn⟩:=F;rw[e]at u;obtain⟨rfl,rfl⟩:=trodVars_none u;simp only[List.append_nil]at*;have v:∀(b:Nat) (sp:Nat->Bool) (hd:Bool),DataW.TrodAll enc P c b sp hd f.resultTypes.toList ((Value.bool true).resultList f.resultTypes.size) [.lit (.bool true)] []:=by intro b sp hd;rw[r];exact trodAll_mk1 (shut_bool t true)
 have w:∀sp:Nat->Bool,(∀x∈p,sp x.block=true)->DataW.TrodAll enc P c 0 sp true f.params.toList args.toList a p:=
  λsp h=>tD D E I (λx hx=>j.same (k x hx)) h
 refine⟨a,[],p,[],p,[],g,?_,?_,?_,World.keptBut_mono (λx hx=>⟨hx,.inr (.inl hx)⟩) (j.frame (·∈p)),λ_=>?_⟩
 .rw[List.append_nil,i];exact v _ _ _
 .rw[List.append_nil,i];exact w _ G
 .rw[List.append_nil,i,e];rfl
 .refine⟨ok_one r rfl (okWide_bool_mk t true),_,[],([]++p)++[],⟨[]++p,[],trodAll_append (w _ (λ_ _=>rfl)) (v _ _ _),by rw[e];rfl,rfl,?_,?_⟩,?_⟩;intro b y hp;have z:MemPlace.cell b y∈p:=(by simpa using hp);rw[j.frozen (k _ z)];exact hz b y z;intro J;simpa using hn J;intro x hx _;simpa using hx
end
end Go.RowKit
namespace Go.Proofs.YtfemcncookpdhaaGreatDoor.choiceFits
open Go.ChangeShapes Go.WideShapes Go.ChangeAt Go.RowKit Go.Clock C Go.Proofs.Tryz
theorem A9(os:Os):laidMet prog Rows.choiceFitsRow.laid ((qT os).forCall (λ_ _=>0) ⟨#[],#[.agg #[.int .u8 0,.slice none 0 0,.slice none 0 0],.slice none 0 0],[]⟩).memory:=
 laidMet_of_run' 8 (by kernel_rfl) (by kernel_rfl)
theorem reads(os:Os){H:Type}(enc:TypeId×Value->H):∃a b,DataW.whole enc prog ((qT os).forCall (λ_ _=>0) ⟨#[],#[.agg #[.int .u8 0,.slice none 0 0,.slice none 0 0],.slice none 0 0],[]⟩).memory Tryz.f3.params.toList Rows.choiceFitsSpec.vars false (#[.agg #[.int .u8 0,.slice none 0 0,.slice none 0 0],.slice none 0 0]:Array Value).toList 8=some (a,[],b):=by
 have h:(match DataW.whole enc prog ((qT os).forCall (λ_ _=>0) ⟨#[],#[.agg #[.int .u8 0,.slice none 0 0,.slice none 0 0],.slice none 0 0],[]⟩).memory Tryz.f3.params.toList Rows.choiceFitsSpec.vars false (#[.agg #[.int .u8 0,.slice none 0 0,.slice none 0 0],.slice none 0 0]:Array Value).toList 8 with|some (_,[],_)=>true|_=>false)=true:=by kernel_rfl
 split at h;exact⟨_,_,by assumption⟩;cases h
theorem plain(f:FuncId)(fn:Func)(hf:Tryz.pinned.checked.prog.funcNamed "rootcause/rootcauselaw14.ChoiceFits" =some f)(c:Tryz.pinned.checked.prog.funcs[f]?=some fn):
  false=Tryz.pinned.checked.prog.looks []/\∀(b:Nat) t,fn.params[b]?=some t->Tryz.pinned.checked.prog.wantsStandIn t=false:=by
 obtain rfl:f=3:=Ox ((show prog.funcNamed "rootcause/rootcauselaw14.ChoiceFits" =some 3 by kernel_rfl).symm.trans hf)|>.symm;obtain rfl:fn=Tryz.f3:=(Ox (func3.symm.trans c)).symm;refine⟨by kernel_rfl,λb t a=>?_⟩;rw[params3]at a;have hm:t∈[25,26]:=by simpa using Array.mem_of_getElem? a
 have d:∀t∈[25,26],prog.wantsStandIn t=false:=by have h:([25,26].all λt=>!prog.wantsStandIn t)=true:=(by kernel_rfl);intro t a;simpa using OO.1 h t a
 exact d t hm
end Go.Proofs.YtfemcncookpdhaaGreatDoor.choiceFits
