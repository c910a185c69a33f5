import Derived.Test.YtidmdcckbdmblaaGreatDoorZ19
import Derived.Test.YtidmdcckbdmblaaGreatDoorZ21
import Derived.Test.YtidmdcckbdmblaaGreatDoorZ22
set_option maxRecDepth 1000000
set_option maxHeartbeats 32000000
set_option linter.all false
namespace Go.Proofs.YtidmdcckbdmblaaGreatDoor
open Go.RowKit jJ nw Go.Proofs.Tryz
theorem Cf{T:js}{V:PV}{pb pos q lo:Nat}{f:Fg}(w:World)(hx:rT T pos=some (f,q))(h:kd T V w pb pos)(j:List Fg)(A:jx kY 171 2 (λ_=>False) w lo V.v2 j)(ag:V.lo<=lo/\lo<=w)(hn:j.length<=20000):
  Calls prog 157 #[.pointer (some ⟨pb,0,none⟩)] w λe w'=>(∃v,e=.returned v)/\GL T V pb q lo (j++[f]) w w':=by
 obtain⟨ah,M,N,O,P⟩:=Kl GK;have l:=JH (And.intro M (And.intro N (And.intro O P)));clear M N O P;obtain⟨a,aO,aP,b,aQ,Q,R,S,U,rfl⟩:=uY hx;have m:=JH (And.intro Q (And.intro R (And.intro S U)));have B:=h.low;have ai:=h.lt;have H:=JH h;have C:=JH A;obtain⟨aj,c,W,aR,aS⟩:=A.form;have D:=JH W;clear hx Q R S U h A W;have X:=JH (JK w (.cells #[Em,.bool false] 171));have ak:=JH (H.o.iU (Ba w (.cells #[Em,.bool false] 171)));have al:=JH (Kd w (.cells #[Em,.bool false] 171) none);have am:(w.alloc (.cells #[Em,.bool false] 171)).heap.size=w+1:=LG
 go_enter func157,ntmps157
 go_upto_region 1 with fail;generalize w.alloc (.cells #[Em,.bool false] 171)=aT at*;obtain⟨z,hz⟩:=Xq w.heap.size;rw[<-hz]at X am ai B ag⊢;have E:=JH hz;clear hz;go_wp2_with fail;refine(lG ak.o m.o.1).M ?_;rintro e an ⟨rfl,d⟩;have aU:=d.2.size;have p:=(d.2.B z LC (λe=>by injection e with e;omega)).T X.o;have ao:=JH p;have ap:=JH (d.1.other (z:=z) (i:=0) (u:=tx a) B.2);have aq:=JH (jd (jv al.o (some pb)) d.2);have Y:=iT p 0 _ rfl;have F:=iY p 0;clear d p;go_wp2_with fail;refine(kJ ap.o _ m.o.2.1 LD).M ?_;rintro e aV ⟨⟨v2,rfl⟩,d⟩;have ar:=d.2.size;rw[JQ]at ar;have Z:=(d.2.B z (by rw[JQ];omega) (λe=>by injection e with e;omega)).T (iW (i:=0) (u:=tx a) ao.o);have au:=JH Z;have av:=JH d.1;have aw:=JH (jd (rZ aq.o (jb an z 0 (tx a)) (LA E.o)) d.2);clear Y F Z d;go_wp2_with fail;refine(zL av.o m.o.2.2.1).M ?_;rintro e ax ⟨rfl,d⟩;have aW:=d.2.size;have r:=(d.2.B z LC (λe=>by injection e with e;omega)).T au.o;have ay:=JH r;have az:=JH (d.1.other (z:=z) (i:=1) (u:=.bool b) B.2);have aA:=JH (jd aw.o d.2);have aB:=iT r 1 _ rfl;have F:=iY r 1;clear d r;go_wp2_with fail;refine(kJ az.o _ m.o.2.2.2 LD).M ?_;rintro e g ⟨⟨v4,rfl⟩,d⟩;have aC:=d.2.size;rw[JQ]at aC;have G:=(d.2.B z (by rw[JQ];omega) (λe=>by injection e with e;omega)).T (iW (i:=1) (u:=.bool b) ay.o);have aD:=JH d.1;have I:=JH (jd (rZ aA.o (jb ax z 1 (.bool b)) (LA E.o)) d.2);have Y:=iT G 0 _ rfl;have aX:=iT G 1 _ rfl;obtain⟨aY,aZ,J⟩:=d.1.tree;have aE:=iT J 4 _ rfl;have ba:=d.1.lt;have bb:=I.o.size;have bc:z<g:=LC
 have bd:=JH J;have aF:=JH (C.o.grown kY.ok I.o (λz e=>by injection e with e;subst e;exact⟨λh=>h,λe=>LA ((C.o.ge _ e.symm).1)⟩));have aa:∀q,V.v2.ownBlock=some q->lo<=q:=λq e=>(C.o.ge q e).1;have aG:=JH aa;have aH:j.length+1<=maxLen:=LN
 have aI:(j.length+1)*24<=140737488355328:=LC
 have K:=JH (aF.o.grown kY.ok (rb g (.cells #[tx a,.bool b] 171)) (λz e=>by cases e));rw[D.o]at K;obtain⟨n,s⟩:∃n,j.length=n:=⟨_,rfl⟩
 rw[D.o,s]at aE;rw[s]at K;have aJ:=JH (show∀(t:Nat) (u:Value),[tx a,Value.bool b][t]?=some u->(g.alloc (.cells #[tx a,.bool b] 171)).drew.cell? ((⟨g,0,none⟩:Addr).add t)=some u from λt u aK=>by rw[kh,J4];exact iT (w:=(g.alloc (.cells #[tx a,.bool b] 171)).drew) (JK g (.cells #[tx a,.bool b] 171)) t u (by simpa using aK));have aL:=JH (aD.o.grown (rb g (.cells #[tx a,.bool b] 171)));clear aB F G d J aa;go_wp2_with fail;go_region_law (first|(refine nT (g.alloc (.cells #[tx a,.bool b] 171)).drew (by rfl) (.tmp 18) (.tmp 20) 80 (by rfl) lo 171 ah _ 2 24 underlying80 l.o.1 l.o.2.1 l.o.2.2.1 l.o.2.2.2 rfl kY.ok (λ_=>False) (.slice aj n c) j (by rfl) K.o ⟨g,0,none⟩ [tx a,.bool b] ⟨a,b⟩ (by rfl) aJ.o rfl aH aI (by show lo<=(g.alloc _).heap.size;rw[JN];omega) n s ?_;intro k c5 x ab y;have L:=aG.o;rw[D.o,s]at L;have ac:=aL.o.iV y.size (λq be=>y.B q (by show q<(g.alloc _).heap.size;rw[JN];omega) (λe=>LA (L q e.symm)));obtain⟨bf,bg,ad⟩:=ac.tree;have bh:=iT ad 4 _ rfl;have bi:=iY ad 4));all_goals
  have ae:=ac.put (V':={V with v2:=.slice k (n+1) c5}) 4 (.slice k (n+1) c5) rfl (λ_ _=>rfl);have af:=ab.grown kY.ok (jb x pb 4 (.slice k (n+1) c5)) (λz e=>by injection e with e;subst e;exact⟨λh=>h,λe=>LA ((ab.ge _ e.symm).1)⟩);have hF:Fr lo pb w (x.setCell ⟨pb,4,none⟩ (.slice k (n+1) c5)):=(((Fr.of I.o (LA E.o) (λz e=>.inr (by injection e with e;exact e.symm))).T (Fr.of (rb g (.cells #[tx a,.bool b] 171)) LC (λz e=>by cases e))).T (Fr.of y (by show lo<=(g.alloc _).heap.size;rw[JN];omega) (λz e=>.inl (L z e)))).T (Fr.of (jb x pb 4 (.slice k (n+1) c5)) (by have:=y.size;have aM:(g.alloc (.cells #[tx a,.bool b] 171)).heap.size<=x:=this;rw[JN]at aM;omega) (λz e=>.inr (by injection e with e;exact e.symm)));have aN:=JH (And.intro ae (And.intro af hF));clear ae af hF;go_wp2_with fail
  go_end0
  exact⟨⟨_,rfl⟩,_,aN.o⟩
end Go.Proofs.YtidmdcckbdmblaaGreatDoor
namespace Go.Proofs.YtidmdcckbdmblaaGreatDoor
open Go.ChangeShapes Go.WideShapes Go.ChangeAt Go.RowKit jJ Go.Proofs.Tryz
theorem nD{H:Type}{enc:TypeId×Value->H}{P:Program}{w:World}{base:Nat}{sp:Nat->Bool}{held:Bool}{a:Nat}{t e:TypeId}{n:Nat}{c:List Value}{zs:List (List UInt8)}{p:List MemPlace}
  (g:P.underlying t=some (.array n e)) (he:P.underlying e=some .string) (hce:P.cellsOf e=1) (j:P.cellsOf t=n)
  (h:DataW.trod enc P w base sp held a t c=some (.agg (zs.map λz=>.lit (.string z)),p)):c=zs.map tx:=by
 cases a with
 |zero=>simp[DataW.trod]at h
 |succ a=>
  simp only[DataW.trod,g,hce,j,Kk]at h;split at h
  rename_i r
  obtain⟨xs,hm,hx⟩:=Option.map_eq_some_iff.1 h;have f:xs.map (·.1)=zs.map λz=>(DataW.lit (.string z):DataW H):=by have:=Km Prod.fst hx;simpa using this
  have s:xs.length=n:=(by simpa using Lib.mapM_length hm);have u:zs.length=n:=by have:=Km List.length f;simp at this;omega
  apply List.ext_getElem?;intro i;by_cases hi:i<n;obtain⟨b,k,hf⟩:=Lib.mapM_at hm i i (by simp[hi]);obtain⟨z,hc,rfl,_⟩:=DataW.trod_string he hf;have l:c[i]?=some (.string z):=by have:=Km (·[0]?) hc;simpa[K5,Lm]using this
  have d:(xs.map (·.1))[i]?=some (DataW.lit (.string z.data.toList):DataW H):=(by simp[k]);rw[f]at d;simp only[KD,Option.map_eq_some_iff,DataW.lit.injEq,Lit.string.injEq]at d;obtain⟨v,m,q⟩:=d;rw[l,KD,m,q];rfl;rw[Ln LC,Ln LJ];cases h
def kK:List (String×DataW Unit):=[("math/bits.deBruijn32tab",Rows.laid_math_bits_deBruijn32tab),("math/bits.deBruijn64tab",Rows.laid_math_bits_deBruijn64tab),("rootcause/digest.constants",Rows.laid_rootcause_digest_constants),("rootcause/lexer.words",Rows.laid_rootcause_lexer_words),("rootcause/lexer.symbols",Rows.laid_rootcause_lexer_symbols),("rootcause/syntax.shapes",Rows.laid_rootcause_syntax_shapes),("rootcause/syntax.forms",Rows.laid_rootcause_syntax_forms),("rootcause/code.rows",Rows.laid_rootcause_code_rows)]
theorem lU{P:Program}{w:World}{n:String}{g:Nat}{b:Array Value}(c:P.globalNamed n=some g)(h:w.var? P n=some b):∃t a,w.heap[g]?=some (.cells b t a):=by
 unfold World.var? at h;rw[c]at h;simp only[Option.bind_some]at h;split at h
 rename_i d t a e
 cases h;exact⟨t,a,e⟩;cases h
theorem yG:prog.cellsOf 3=1:=LF
theorem se:prog.cellsOf 9=1:=LF
theorem tj{k:Nat}:∀(l:List (List Value)) (i q:Nat),(∀r∈l,r.length=k)->q<k->l.flatten[i*k+q]?=(l[i]?).bind (·[q]?)
 |[],i,q,_,_=>by simp
 |r::l,0,q,h,hq=>by rw[KP,Lz,J4,Ku (by rw[h r (by simp)];exact hq)];rfl
 |r::l,i+1,q,h,hq=>by have hr:=h r LG;rw[KP,KF (by rw[hr,Lu];omega),hr,show(i+1)*k+q-k=i*k+q by rw[Lu];omega];exact tj l i q (λx hx=>h x (by simp[hx])) hq
section
variable {H:Type} {enc:TypeId×Value→H} {W:World} {base:Nat} {sp:Nat→Bool} {held:Bool}
theorem IQ{k n:Nat}{c:List Value}{b:List (List Value)}(e:0<k)(g:c.length=n*k)(hr:b.length=n)(f:∀r∈b,r.length=k)(h:∀i,i<n->b[i]?=some ((c.drop (i*k)).take k)):c=b.flatten:=by
 apply List.ext_getElem?;intro a;have d:a/k*k+a % k=a:=by rw[Nat.mul_comm];exact Nat.div_add_mod a k
 have hm:=Nat.mod_lt a e;have hf:=tj b (a/k) (a % k) f hm;rw[d]at hf;rw[hf];rcases Lv (a/k) n with hi|hi;rw[h _ hi,Option.bind_some,List.getElem?_take_of_lt hm,Lm,d];have j:n*k<=a:=J9 (KU k hi) LC;rw[Ln LC,Ln LC];rfl
theorem pM{b:Type}(xs:List b)(row:b->List Value)(c:b->DataW H){t e:TypeId}{n k:Nat}(q:0<k)(s:∀x,(row x).length=k)(u:prog.underlying t=some (.array n e))(hce:prog.cellsOf e=k)(v:prog.cellsOf t=n*k)
  (one:∀{f:Nat} {a:List Value} {g:b} {p:List MemPlace},DataW.trod enc prog W base sp held f e a=some (c g,p)->a=row g)
  {f:Nat} {a:List Value} {p:List MemPlace} (h:DataW.trod enc prog W base sp held f t a=some (.agg (xs.map c),p)):a=(xs.map row).flatten:=by
 obtain⟨ys,m,_,w,y,C,z⟩:=DataW.trod_array u h;have j:xs.map c=ys.map (·.1):=by have:=Km Prod.fst w;simpa using this
 have A:xs.length=n:=by have:=Km List.length j;simp at this;omega
 refine IQ q (y.T v) (by rw[Kt];exact A) (λr hr=>by obtain⟨x,_,rfl⟩:=Ld.1 hr;exact s x) λi hi=>?_;have l:=z i hi;rw[hce,JW LC]at l;obtain⟨x,hx⟩:∃x,xs[i]?=some x:=Gx LC;have d:=Km (·[i]?) j;simp only[KD,hx,Option.map_some,JW (show i<ys.length from LC)]at d;have d:=Option.some.inj d;have B:DataW.trod enc prog W base sp held m e ((a.drop (i*k)).take k)=some (c x,ys[i].2):=by rw[l,d]
 rw[KD,hx,Option.map_some,<-one B]
theorem C2:prog.cellsOf 4=1:=LF
theorem tk:prog.cellsOf 445=4:=LF
theorem vh:prog.cellsOf 412=6:=LF
theorem vk:prog.cellsOf 431=4:=LF
theorem DZ:prog.cellsOf 326=1:=LF
theorem HM{a:List Value}(h:a.length=6):∃b c1 c2 c3 c4 c5,a=[b,c1,c2,c3,c4,c5]:=by
 match a,h with
 |[b,c1,c2,c3,c4,c5],_=>exact⟨b,c1,c2,c3,c4,c5,rfl⟩
theorem Ho{c:Type}{a:List c}(h:a.length=4):∃b c1 c2 c3,a=[b,c1,c2,c3]:=by
 match a,h with
 |[b,c1,c2,c3],_=>exact⟨b,c1,c2,c3,rfl⟩
theorem IU{c:Type}{a:List c}(h:a.length=6):∃b c1 c2 c3 c4 c5,a=[b,c1,c2,c3,c4,c5]:=by
 match a,h with
 |[b,c1,c2,c3,c4,c5],_=>exact⟨b,c1,c2,c3,c4,c5,rfl⟩
def yH(x:Nat×Bool×Nat×List UInt8):DataW H:=.agg [.lit (.int .i64 (x.1:Int)),.lit (.bool x.2.1),.lit (.int .i64 (x.2.2.1:Int)),.lit (.string x.2.2.2)]
def CK(x:Bool×Bool×Nat×Nat×Bool×Bool):DataW H:=.agg [.lit (.bool x.1),.lit (.bool x.2.1),.lit (.int .i64 (x.2.2.1:Int)),.lit (.int .i64 (x.2.2.2.1:Int)),.lit (.bool x.2.2.2.2.1),.lit (.bool x.2.2.2.2.2)]
theorem Ck{t:Nat}{m:List Value}{b:Nat×Bool×Nat×List UInt8}{p:List MemPlace}(h:DataW.trod enc prog W base sp held t 445 m=some (yH b,p)):m=nM b:=by obtain⟨xs,n,_,u,v,hx,hf⟩:=Lq underlying445 h;obtain⟨a,c1,c2,c3,rfl⟩:=FZ (v.T tk);have w:xs.length=4:=hx;obtain⟨x,y,z,A,rfl⟩:=Ho w;have c:=DataW.agg.inj (Prod.mk.inj u).1;simp only[Ks,KJ,KX,and_true]at c;have d:DataW.trod enc prog W base sp held n 3 (([a,c1,c2,c3].drop 0).take (prog.cellsOf 3))=some x:=hf 0 _ rfl;have e:DataW.trod enc prog W base sp held n 4 (([a,c1,c2,c3].drop 1).take (prog.cellsOf 4))=some y:=hf 1 _ rfl;have f:DataW.trod enc prog W base sp held n 3 (([a,c1,c2,c3].drop 2).take (prog.cellsOf 3))=some z:=hf 2 _ rfl;have g:DataW.trod enc prog W base sp held n 9 (([a,c1,c2,c3].drop 3).take (prog.cellsOf 9))=some A:=hf 3 _ rfl;rw[yG]at d f;rw[C2]at e;rw[se]at g;simp only[List.drop_zero,Lh,K3,List.take_zero]at d e f g;obtain⟨E,a0,b0,_⟩:=Kr underlying3 d;obtain⟨F,q,B⟩:=DataW.trod_bool underlying4 e;obtain⟨G,r,C,_⟩:=Kr underlying3 f;obtain⟨I,s,D,_⟩:=DataW.trod_string underlying9 g;simp only[KX,and_true]at a0 q r s;subst a0 q r s;rw[b0,B,C,D]at c;obtain⟨i,j,k,l⟩:=c;simp only[DataW.lit.injEq,Lit.int.injEq,Lit.bool.injEq,Lit.string.injEq,true_and]at i j k l;obtain⟨J,K,L,M⟩:=b;simp only at i j k l;subst i j k l;rfl
theorem D1{z:Nat}{t:List Value}{b:Bool×Bool×Nat×Nat×Bool×Bool}{p:List MemPlace}(h:DataW.trod enc prog W base sp held z 412 t=some (CK b,p)):t=oZ b:=by obtain⟨xs,n,_,A,B,hx,hf⟩:=Lq underlying412 h;obtain⟨a,c1,c2,c3,c4,c5,rfl⟩:=HM (B.T vh);have C:xs.length=6:=hx;obtain⟨D,E,F,G,I,J,rfl⟩:=IU C;have c:=DataW.agg.inj (Prod.mk.inj A).1;simp only[Ks,KJ,KX,and_true]at c;have d:DataW.trod enc prog W base sp held n 4 (([a,c1,c2,c3,c4,c5].drop 0).take (prog.cellsOf 4))=some D:=hf 0 _ rfl;have e:DataW.trod enc prog W base sp held n 4 (([a,c1,c2,c3,c4,c5].drop 1).take (prog.cellsOf 4))=some E:=hf 1 _ rfl;have f:DataW.trod enc prog W base sp held n 3 (([a,c1,c2,c3,c4,c5].drop 2).take (prog.cellsOf 3))=some F:=hf 2 _ rfl;have g:DataW.trod enc prog W base sp held n 3 (([a,c1,c2,c3,c4,c5].drop 3).take (prog.cellsOf 3))=some G:=hf 3 _ rfl;have i:DataW.trod enc prog W base sp held n 4 (([a,c1,c2,c3,c4,c5].drop 4).take (prog.cellsOf 4))=some I:=hf 4 _ rfl;have j:DataW.trod enc prog W base sp held n 4 (([a,c1,c2,c3,c4,c5].drop 5).take (prog.cellsOf 4))=some J:=hf 5 _ rfl;rw[yG]at f g;rw[C2]at d e i j;simp only[List.drop_zero,Lh,K3,List.take_zero]at d e f g i j;obtain⟨P,a0,b0⟩:=DataW.trod_bool underlying4 d;obtain⟨Q,u,K⟩:=DataW.trod_bool underlying4 e;obtain⟨R,v,L,_⟩:=Kr underlying3 f;obtain⟨S,w,M,_⟩:=Kr underlying3 g;obtain⟨T,x,N⟩:=DataW.trod_bool underlying4 i;obtain⟨U,y,O⟩:=DataW.trod_bool underlying4 j;simp only[KX,and_true]at a0 u v w x y;subst a0 u v w x y;rw[b0,K,L,M,N,O]at c;obtain⟨k,l,m,q,r,s⟩:=c;simp only[DataW.lit.injEq,Lit.int.injEq,Lit.bool.injEq,true_and]at k l m q r s;obtain⟨V,X,Y,Z,aa,ab⟩:=b;simp only at k l m q r s;subst k l m q r s;rfl
theorem D2{k:Nat}{f:List Value}{x:DataW H×List MemPlace}(h:DataW.trod enc prog W base sp held k 431 f=some x):∃(t u:ByteArray) (p q:Int),f=[.string t,.string u,.int .i64 p,.int .i64 q]:=by obtain⟨xs,n,_,_,l,hx,hf⟩:=Lq underlying431 h;obtain⟨a,c1,c2,c3,rfl⟩:=FZ (l.T vk);have m:xs.length=4:=hx;obtain⟨r,s,v,w,rfl⟩:=Ho m;have b:DataW.trod enc prog W base sp held n 9 (([a,c1,c2,c3].drop 0).take (prog.cellsOf 9))=some r:=hf 0 _ rfl;have c:DataW.trod enc prog W base sp held n 9 (([a,c1,c2,c3].drop 1).take (prog.cellsOf 9))=some s:=hf 1 _ rfl;have d:DataW.trod enc prog W base sp held n 3 (([a,c1,c2,c3].drop 2).take (prog.cellsOf 3))=some v:=hf 2 _ rfl;have e:DataW.trod enc prog W base sp held n 3 (([a,c1,c2,c3].drop 3).take (prog.cellsOf 3))=some w:=hf 3 _ rfl;rw[yG]at d e;rw[se]at b c;simp only[List.drop_zero,Lh,K3,List.take_zero]at b c d e;obtain⟨y,a0,_⟩:=DataW.trod_string underlying9 b;obtain⟨z,g,_⟩:=DataW.trod_string underlying9 c;obtain⟨A,i,_⟩:=Kr underlying3 d;obtain⟨B,j,_⟩:=Kr underlying3 e;simp only[KX,and_true]at a0 g i j;subst a0 g i j;exact⟨_,_,_,_,rfl⟩
end
theorem Es:prog.globalNamed "rootcause/lexer.words" =some 9:=LF
theorem Hp:prog.globalNamed "rootcause/syntax.shapes" =some 14:=LF
theorem Hr:prog.globalNamed "rootcause/syntax.forms" =some 10:=LF
theorem Hs:prog.globalNamed "rootcause/code.rows" =some 11:=LF
theorem Ht:prog.globalNamed "rootcause/digest.constants" =some 3:=LF
theorem Hu:(prog.globals[9]?).map (·.type)=some 439:=LF
theorem IV:(prog.globals[14]?).map (·.type)=some 457:=LF
theorem IW:(prog.globals[10]?).map (·.type)=some 441:=LF
theorem IX:(prog.globals[11]?).map (·.type)=some 453:=LF
theorem IY:(prog.globals[3]?).map (·.type)=some 386:=LF
theorem Hv:prog.underlying 439=some (.array 39 9):=LF
theorem IZ:prog.underlying 457=some (.array 24 445):=LF
theorem I0:prog.underlying 441=some (.array 11 412):=LF
theorem I1:prog.underlying 453=some (.array 35 431):=LF
theorem I2:prog.underlying 386=some (.array 64 326):=LF
theorem Hw:prog.cellsOf 439=39:=LF
theorem I3:prog.cellsOf 457=24*4:=LF
theorem I4:prog.cellsOf 441=11*6:=LF
theorem xr:(Rows.laid_rootcause_lexer_words:DataW Unit)=.agg (jg.words.map λz=>.lit (.string z)):=LF
theorem D3:(Rows.laid_rootcause_syntax_shapes:DataW Unit)=.agg (shapes.map yH):=LF
theorem D4:(Rows.laid_rootcause_syntax_forms:DataW Unit)=.agg (forms.map CK):=LF
theorem pN{W:World}{g:Nat}{a:Array Value}{t:TypeId}{b:Nat×Nat}(h:W.heap[g]?=some (.cells a t b))(i:Nat):W.cell? ⟨g,i,none⟩=a[i]?:=by simp[World.cell?,h]
theorem D5{W:World}(h:laidMetH prog kK W):jV W:=by have h:laidMet prog kK W:=h;refine⟨?_,?_,?_⟩;obtain⟨g,t,b,k,p,c,f,i,a⟩:=Lib.laidMet.reads h (n:= "rootcause/lexer.words") (d:=Rows.laid_rootcause_lexer_words) LW;obtain rfl:=Option.some.inj (Es.symm.T c);obtain rfl:=Option.some.inj (Hu.symm.T f);obtain⟨t,j,e⟩:=lU Es i;refine⟨t,j,?_⟩;rw[xr]at a;have hc:=nD (zs:=jg.words) Hv underlying9 se Hw a;rw[e,show b=lS from by unfold lS;rw[<-Ls (xs:=b),hc]];obtain⟨g,t,b,k,p,c,f,i,a⟩:=Lib.laidMet.reads h (n:= "rootcause/syntax.shapes") (d:=Rows.laid_rootcause_syntax_shapes) LW;obtain rfl:=Option.some.inj (Hp.symm.T c);obtain rfl:=Option.some.inj (IV.symm.T f);obtain⟨t,j,e⟩:=lU Hp i;refine⟨t,j,?_⟩;rw[D3]at a;have hc:=pM shapes nM yH LD (λ_=>rfl) IZ tk I3 (λh=>Ck h) a;rw[e,show b=rI from by unfold rI;rw[<-hc]];obtain⟨g,t,b,k,p,c,f,i,a⟩:=Lib.laidMet.reads h (n:= "rootcause/syntax.forms") (d:=Rows.laid_rootcause_syntax_forms) LW;obtain rfl:=Option.some.inj (Hr.symm.T c);obtain rfl:=Option.some.inj (IW.symm.T f);obtain⟨t,j,e⟩:=lU Hr i;refine⟨t,j,?_⟩;rw[D4]at a;have hc:=pM forms oZ CK LD (λ_=>rfl) I0 vh I4 (λh=>D1 h) a;rw[e,show b=vv from by unfold vv;rw[<-hc]]
theorem D6{W:World}(h:laidMetH prog kK W):na W:=by
 have h:laidMet prog kK W:=h;obtain⟨g,t,x,y,p,j,l,q,r⟩:=Lib.laidMet.reads h (n:= "rootcause/code.rows") (d:=Rows.laid_rootcause_code_rows) LW;obtain rfl:=Option.some.inj (Hs.symm.T j);obtain rfl:=Option.some.inj (IX.symm.T l);obtain⟨t,z,e⟩:=lU Hs q;obtain⟨ys,m,_,_,A,B,s⟩:=DataW.trod_array I1 r;refine⟨(JJ.1 e).1,λk C=>?_⟩;have b:=s k LC;rw[vk,JW LC]at b;obtain⟨c,u1,f,i,v⟩:=D2 b;have hc:∀a u,([.string c,.string u1,.int .i64 f,.int .i64 i]:List Value)[a]?=some u->a<4->W.cell? ⟨11,k*4+a,none⟩=some u:=λa u hu w=>by rw[<-v,List.getElem?_take_of_lt w,Lm]at hu;rw[pN e,<-hu,Array.getElem?_toList]
 exact⟨c,u1,f,i,hc 0 _ rfl LD,hc 1 _ rfl LD,hc 2 _ rfl LD,hc 3 _ rfl LD⟩
theorem D7{W:World}(h:laidMetH prog kK W):ov W:=by have h:laidMet prog kK W:=h;obtain⟨g,t,r,s,p,b,c,f,i⟩:=Lib.laidMet.reads h (n:= "rootcause/digest.constants") (d:=Rows.laid_rootcause_digest_constants) LW;obtain rfl:=Option.some.inj (Ht.symm.T b);obtain rfl:=Option.some.inj (IY.symm.T c);obtain⟨t,u,e⟩:=lU Ht f;obtain⟨ys,m,_,_,v,w,j⟩:=DataW.trod_array I2 i;refine⟨(JJ.1 e).1,λk l=>?_⟩;have a:=j k l;rw[DZ,JW LC]at a;obtain⟨z,q,_⟩:=Kr underlying326 a;refine⟨z,?_⟩;have hu:([.int .u32 z]:List Value)[0]?=some (.int .u32 z):=rfl;rw[<-q,List.getElem?_take_of_lt LD,Lm]at hu;rw[pN e,<-hu,Array.getElem?_toList,Kk,JT]
theorem Hx:prog.globalNamed "rootcause/lexer.symbols" =some 8:=LF
theorem I5:(prog.globals[8]?).map (·.type)=some 404:=LF
theorem I6:prog.underlying 404=some (.array 25 9):=LF
theorem I7:prog.cellsOf 404=25:=LF
theorem D8:(Rows.laid_rootcause_lexer_symbols:DataW Unit)=.agg (jg.syms.map λz=>.lit (.string z)):=LF
theorem D9{W:World}(h:laidMetH prog kK W):L.Laid W:=by have h:laidMet prog kK W:=h;constructor;obtain⟨g,t,a,k,p,c,f,i,b⟩:=Lib.laidMet.reads h (n:= "rootcause/lexer.words") (d:=Rows.laid_rootcause_lexer_words) LW;obtain rfl:=Option.some.inj (Es.symm.T c);obtain rfl:=Option.some.inj (Hu.symm.T f);obtain⟨t,j,e⟩:=lU Es i;refine⟨t,j,?_⟩;rw[xr]at b;have hc:=nD (zs:=jg.words) Hv underlying9 se Hw b;rw[e,show a=L.lS from by unfold L.lS;rw[<-Ls (xs:=a),hc]];obtain⟨g,t,a,k,p,c,f,i,b⟩:=Lib.laidMet.reads h (n:= "rootcause/lexer.symbols") (d:=Rows.laid_rootcause_lexer_symbols) LW;obtain rfl:=Option.some.inj (Hx.symm.T c);obtain rfl:=Option.some.inj (I5.symm.T f);obtain⟨t,j,e⟩:=lU Hx i;refine⟨t,j,?_⟩;rw[D8]at b;have hc:=nD (zs:=jg.syms) I6 underlying9 se I7 b;rw[e,show a=L.uj from by unfold L.uj;rw[<-Ls (xs:=a),hc]]
theorem Cl{W:World}(h:L.Laid W):9+1<=W.heap.size:=by obtain⟨⟨t,a,e⟩,_⟩:=h;have:=(JJ.1 e).1;omega
theorem own:ownKnob prog.godebug=none:=LF
def putCells(a:Array Value):Obj->Obj
 | .cells _ t frozen=>.cells a t frozen
 |o=>o
def AO:DataW Unit->List Value
 | .lit (.int k z)=>[Value.int k z]
 | .lit (.string s)=>[.string ⟨s.toArray⟩]
 | .lit (.bool b)=>[.bool b]
 |_=>[undef]
def mm:DataW Unit->Array Value
 | .agg l=>(l.flatMap λ| .agg m=>m.flatMap AO|x=>AO x).toArray
 |_=> #[]
noncomputable def nS(a:Os):World:=
 {World.holding prog a ⟨#[],#[],[]⟩with heap:=((((((((World.holding prog a ⟨#[],#[],[]⟩).heap.modify 12 (putCells (mm Rows.laid_math_bits_deBruijn32tab))).modify 13 (putCells (mm Rows.laid_math_bits_deBruijn64tab))).modify 3 (putCells (mm Rows.laid_rootcause_digest_constants))).modify 9 (putCells (mm Rows.laid_rootcause_lexer_words))).modify 8 (putCells (mm Rows.laid_rootcause_lexer_symbols))).modify 14 (putCells (mm Rows.laid_rootcause_syntax_shapes))).modify 10 (putCells (mm Rows.laid_rootcause_syntax_forms))).modify 11 (putCells (mm Rows.laid_rootcause_code_rows))}
end Go.Proofs.YtidmdcckbdmblaaGreatDoor
namespace Go.Proofs.YtidmdcckbdmblaaGreatDoor.narrateNil
open Go.ChangeShapes Go.WideShapes Go.ChangeAt Go.RowKit Go.Proofs.Tryz
theorem reads(a:Os){H:Type}(enc:TypeId×Value->H):∃b c,DataW.whole enc prog ((nS a).forCall (λ_ _=>0) ⟨#[],#[.agg #[.int .i64 0,.int .i64 0,.int .u8 0,.int .i64 0,.int .i64 0,.int .i64 0,.int .i64 0,.int .i64 0,.slice none 0 0],.agg #[.int .u8 0,.int .i64 0,.int .i64 0,.int .i64 0],.agg #[.int .i64 0,.int .i64 0,.int .i64 0]],[]⟩).memory Tryz.f7.params.toList Rows.narrateNilSpec.vars false (#[.agg #[.int .i64 0,.int .i64 0,.int .u8 0,.int .i64 0,.int .i64 0,.int .i64 0,.int .i64 0,.int .i64 0,.slice none 0 0],.agg #[.int .u8 0,.int .i64 0,.int .i64 0,.int .i64 0],.agg #[.int .i64 0,.int .i64 0,.int .i64 0]]:Array Value).toList 8=some (b,[],c):=by
 have h:(match DataW.whole enc prog ((nS a).forCall (λ_ _=>0) ⟨#[],#[.agg #[.int .i64 0,.int .i64 0,.int .u8 0,.int .i64 0,.int .i64 0,.int .i64 0,.int .i64 0,.int .i64 0,.slice none 0 0],.agg #[.int .u8 0,.int .i64 0,.int .i64 0,.int .i64 0],.agg #[.int .i64 0,.int .i64 0,.int .i64 0]],[]⟩).memory Tryz.f7.params.toList Rows.narrateNilSpec.vars false (#[.agg #[.int .i64 0,.int .i64 0,.int .u8 0,.int .i64 0,.int .i64 0,.int .i64 0,.int .i64 0,.int .i64 0,.slice none 0 0],.agg #[.int .u8 0,.int .i64 0,.int .i64 0,.int .i64 0],.agg #[.int .i64 0,.int .i64 0,.int .i64 0]]:Array Value).toList 8 with|some (_,[],_)=>true|_=>false)=true:=by kernel_rfl
 split at h;exact⟨_,_,by assumption⟩;cases h
theorem Ed(a:Os):(((nS a).forCall (λ_ _=>0) ⟨#[],#[.agg #[.int .i64 0,.int .i64 0,.int .u8 0,.int .i64 0,.int .i64 0,.int .i64 0,.int .i64 0,.int .i64 0,.slice none 0 0],.agg #[.int .u8 0,.int .i64 0,.int .i64 0,.int .i64 0],.agg #[.int .i64 0,.int .i64 0,.int .i64 0]],[]⟩)).variablesB Tryz.checked.prog=true:=by kernel_rfl
end Go.Proofs.YtidmdcckbdmblaaGreatDoor.narrateNil
