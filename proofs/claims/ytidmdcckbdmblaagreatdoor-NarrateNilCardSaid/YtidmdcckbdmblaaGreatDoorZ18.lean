import Derived.Test.YtidmdcckbdmblaaGreatDoorZ11
import Derived.Test.YtidmdcckbdmblaaGreatDoorZ12
import Derived.Test.YtidmdcckbdmblaaGreatDoorZ14
set_option maxRecDepth 1000000
set_option maxHeartbeats 32000000
set_option linter.all false
namespace Go.Proofs.YtidmdcckbdmblaaGreatDoor
open Go.RowKit jJ Go.Proofs.Tryz
theorem xO(B b k:Nat)(n:Int)(w)(h:lF B b n k w):Calls prog 46 #[.pointer (some ⟨b,0,none⟩)] w λe w'=>(∃s:ByteArray,e=.returned (.string s)/\s.size<=k*200000)/\Below B w w':=by obtain⟨l,hw,d⟩:=h;by_cases c:l=[];subst c;refine(xN B b n w hw).M ?_;rintro e w' ⟨rfl,a⟩;exact⟨⟨_,rfl,JV _⟩,a⟩;refine(zf B b n l w hw c).M ?_;rintro e w' ⟨rfl,a⟩;exact⟨⟨_,rfl,by rw[lz];exact d⟩,a⟩
theorem pY(d:Nat)(E w J)(n c:Nat)(xs)(K:jc (jH .u8 d) E w (.slice J n c) xs)(aa:n<=1000)(hS:∀q,E q->q<w)(hf:∀x∈xs,∀(m:World) (r:List Value),Below w w m->(jH .u8 d) E m r x->Calls prog 177 #[.agg r.toArray] m (nx (jH .u8 d) x m)):
  Calls prog 176 #[.slice J n c,.func (.func 177) #[] #[]] w (oK (jH .u8 d) n xs w):=by
 have ab:=BJ;unfold kv at ab;have F:=K.len;have hc:=F.2;have t:=JH F.1;have ac:=K;have G:=hS;have ad:=hf;have L:=Dm n aa w;obtain⟨B,p⟩:=Xq w.heap.size;have g:kz (jH .u8 d) 270 6 B (w.alloc (.cells (madeCells #[.int .u8 0,Em,Em,Nl,Nl,Nl] (n*6)) 270)) B n ([]:List (St)):=kz.start _ (by rw[p];exact JK _ _) (by rw[Lj]);have f:Below B w (w.alloc (.cells (madeCells #[.int .u8 0,Em,Em,Nl,Nl,Nl] (n*6)) 270)):=by rw[p];exact Ba _ _
 rw[<-p]at L;have j:=JH p;clear hS F hf p
 go_enter func176,ntmps176
 go_wp2_with fail;generalize w.alloc (.cells (madeCells #[.int .u8 0,Em,Em,Nl,Nl,Nl] (n*6)) 270)=m at*;go_loopw [13] (λi wr=>∃k:Nat,k<=n/\i=k/\kz (jH .u8 d) 270 6 B wr B n (xs.take k)/\Below B w wr) (λi _=>n-(intOf i).toNat);case atStart=>exact⟨0,JV _,rfl,g,f⟩
 case round=>
  clear L;obtain⟨k,aw,rfl,g,f⟩:=hrel;have ax:=g.lt;have ay:=f.size;by_cases az:k<n
  .obtain⟨x,hx⟩:∃x,xs[k]?=some x:=Gx (LA t.o);obtain⟨M,aA,r,rfl,ae,N,l⟩:=(ac.iV (jH.ok .u8 d) (λq s=>f.B q (by rw[j.o];exact G q s))).jr (jH.ok .u8 d) k x hx;obtain⟨u,v,c1,y,z,A,C,u1,D,rfl⟩:=N.opn;have O:=l 0 _ rfl;have af:=l 1 _ rfl;have ag:=l 2 _ rfl;have ah:=l 3 _ rfl;have ai:=l 4 _ rfl;have aj:=l 5 _ rfl;rw[JT]at O;have aB:M<wr:=LB (G M ae) j.o;have aC:(0:Int)<=(k:Int):=LC;have aD:(k:Int)<(n:Int):=LC;have I:=Ba wr (.cells #[.int .u8 x.kind,tx x.name,tx x.hd,.slice u v c1,.slice y z A,.slice C u1 D] 270);have ak:=(ad x (JM hx) (wr.alloc (.cells #[.int .u8 x.kind,tx x.name,tx x.hd,.slice u v c1,.slice y z A,.slice C u1 D] 270)) [.int .u8 x.kind,tx x.name,tx x.hd,.slice u v c1,.slice y z A,.slice C u1 D] (by rw[<-j.o];exact f.T (I.M (LA j.o))) ((jH.ok .u8 d).iV N (λq s=>I.B q (LB (G q s) j.o))))
   have al:=JH hx;clear l hx;go_wp2_with fail;refine ak.M ?_;rintro e P ⟨r,rfl,Q,R⟩;obtain⟨S,T,c2,U,V,W,X,u2,Y,rfl⟩:=Q.opn;have aE:=R.size;have aF:(wr.alloc (.cells #[.int .u8 x.kind,tx x.name,tx x.hd,.slice u v c1,.slice y z A,.slice C u1 D] 270)).heap.size=wr+1:=LG;have Z:Below wr wr P:=I.T (R.M LC);have a:=(g.iV (jH.ok .u8 d) Z)
   have am:=(f.T (Z.M LC))
   have aG:=a.lt;have an:=a.frozen (k*6+0);have aH:=a.frozen (k*6+1);have aI:=a.frozen (k*6+2);have aJ:=a.frozen (k*6+3);have aK:=a.frozen (k*6+4);have aL:=a.frozen (k*6+5);rw[JT]at an;have aM:k*6+5<n*6:=LC;obtain⟨aN,aO⟩:=a.cell (jH.ok .u8 d) (i:=k*6) LC;obtain⟨aP,aQ⟩:=a.cell (jH.ok .u8 d) (i:=k*6+1) LC;obtain⟨aR,aS⟩:=a.cell (jH.ok .u8 d) (i:=k*6+2) LC;obtain⟨aT,aU⟩:=a.cell (jH.ok .u8 d) (i:=k*6+3) LC;obtain⟨aV,aW⟩:=a.cell (jH.ok .u8 d) (i:=k*6+4) LC;obtain⟨aX,aY⟩:=a.cell (jH.ok .u8 d) (i:=k*6+5) LC;have ao:=(show kz (jH .u8 d) 270 6 B (jn P B (k*6) [.int .u8 x.kind,tx x.name,tx x.hd,.slice S T c2,.slice U V W,.slice X u2 Y]) B n (xs.take (k+1))from by have e:xs.take (k+1)=xs.take k++[x]:=(by rw[KL,al.o];rfl);rw[e];have ap:(xs.take k).length=k:=(by rw[Kv];have:=t.o;omega);exact a.put (jH.ok .u8 d) ((jH.ok .u8 d).M Q (λq s=>by obtain⟨aZ,aq⟩:=s;have:=j.o;exact⟨LC,aq,LC⟩)) LC (by rw[ap]))
   have ar:=(jC (lo:=B) (b:=B) (JS _) (r:=[.int .u8 x.kind,tx x.name,tx x.hd,.slice S T c2,.slice U V W,.slice X u2 Y]) (o:=(k*6)) am)
   clear g f O af ag ah ai aj;go_wp2_with fail;go_roundw;case rel=>exact⟨k+1,LC,LI,ao,ar⟩
   case measure=>simp[intOf];omega
  obtain rfl:n=k:=LC;have au:xs.take n=xs:=Kj (LA t.o);rw[au]at g;go_wp2_with fail;go_ret;have av:=j.o;subst av;exact⟨rfl,g.done (jH.ok .u8 d) (LA t.o) (JS _) LC,f⟩
theorem zj(A w F)(n c:Nat)(xs)(G:jc (kZ .u8) A w (.slice F n c) xs)(V:n<=1000)(hS:∀q,A q->q<w)(hf:∀x∈xs,∀(j:World) (r:List Value),Below w w j->(kZ .u8) A j r x->Calls prog 119 #[.agg r.toArray] j (nx (kZ .u8) x j)):
  Calls prog 118 #[.slice F n c,.func (.func 119) #[] #[]] w (oK (kZ .u8) n xs w):=by
 have W:=BK;unfold kv at W;have C:=G.len;have hc:=C.2;have p:=JH C.1;have X:=G;have D:=hS;have Y:=hf;have I:=Dn n V w;obtain⟨B,l⟩:=Xq w.heap.size;have f:kz (kZ .u8) 189 3 B (w.alloc (.cells (madeCells #[Em,Nl,Nl] (n*3)) 189)) B n ([]:List (Hd)):=kz.start _ (by rw[l];exact JK _ _) (by rw[Lj]);have a:Below B w (w.alloc (.cells (madeCells #[Em,Nl,Nl] (n*3)) 189)):=by rw[l];exact Ba _ _
 rw[<-l]at I;have g:=JH l;clear hS C hf l
 go_enter func118,ntmps118
 go_wp2_with fail;generalize w.alloc (.cells (madeCells #[Em,Nl,Nl] (n*3)) 189)=j at*;go_loopw [13] (λi wr=>∃k:Nat,k<=n/\i=k/\kz (kZ .u8) 189 3 B wr B n (xs.take k)/\Below B w wr) (λi _=>n-(intOf i).toNat);case atStart=>exact⟨0,JV _,rfl,f,a⟩
 case round=>
  clear I;obtain⟨k,am,rfl,f,a⟩:=hrel;have an:=f.lt;have ao:=a.size;by_cases ap:k<n
  .obtain⟨x,hx⟩:∃x,xs[k]?=some x:=Gx (LA p.o);obtain⟨J,aq,r,rfl,Z,K,s⟩:=(X.iV (kZ.ok .u8) (λq m=>a.B q (by rw[g.o];exact D q m))).jr (kZ.ok .u8) k x hx;obtain⟨t,u,c1,v,y,z,rfl⟩:=K.opn;have L:=s 0 _ rfl;have aa:=s 1 _ rfl;have ab:=s 2 _ rfl;rw[JT]at L;have ar:J<wr:=LB (D J Z) g.o;have au:(0:Int)<=(k:Int):=LC;have av:(k:Int)<(n:Int):=LC;have E:=Ba wr (.cells #[tx x.name,.slice t u c1,.slice v y z] 189);have ac:=(Y x (JM hx) (wr.alloc (.cells #[tx x.name,.slice t u c1,.slice v y z] 189)) [tx x.name,.slice t u c1,.slice v y z] (by rw[<-g.o];exact a.T (E.M (LA g.o))) ((kZ.ok .u8).iV K (λq m=>E.B q (LB (D q m) g.o))))
   have ad:=JH hx;clear s hx;go_wp2_with fail;refine ac.M ?_;rintro e M ⟨r,rfl,N,O⟩;obtain⟨P,Q,c2,R,S,T,rfl⟩:=N.opn;have aw:=O.size;have ax:(wr.alloc (.cells #[tx x.name,.slice t u c1,.slice v y z] 189)).heap.size=wr+1:=LG;have U:Below wr wr M:=E.T (O.M LC);have d:=(f.iV (kZ.ok .u8) U)
   have ae:=(a.T (U.M LC))
   have ay:=d.lt;have af:=d.frozen (k*3+0);have az:=d.frozen (k*3+1);have aA:=d.frozen (k*3+2);rw[JT]at af;have aB:k*3+2<n*3:=LC;obtain⟨aC,aD⟩:=d.cell (kZ.ok .u8) (i:=k*3) LC;obtain⟨aE,aF⟩:=d.cell (kZ.ok .u8) (i:=k*3+1) LC;obtain⟨aG,aH⟩:=d.cell (kZ.ok .u8) (i:=k*3+2) LC;have ag:=(show kz (kZ .u8) 189 3 B (jn M B (k*3) [tx x.name,.slice P Q c2,.slice R S T]) B n (xs.take (k+1))from by have e:xs.take (k+1)=xs.take k++[x]:=(by rw[KL,ad.o];rfl);rw[e];have ah:(xs.take k).length=k:=(by rw[Kv];have:=p.o;omega);exact d.put (kZ.ok .u8) ((kZ.ok .u8).M N (λq m=>by obtain⟨aI,ai⟩:=m;have:=g.o;exact⟨LC,ai,LC⟩)) LC (by rw[ah]))
   have aj:=(jC (lo:=B) (b:=B) (JS _) (r:=[tx x.name,.slice P Q c2,.slice R S T]) (o:=(k*3)) ae)
   clear f a L aa ab;go_wp2_with fail;go_roundw;case rel=>exact⟨k+1,LC,LI,ag,aj⟩
   case measure=>simp[intOf];omega
  obtain rfl:n=k:=LC;have ak:xs.take n=xs:=Kj (LA p.o);rw[ak]at f;go_wp2_with fail;go_ret;have al:=g.o;subst al;exact⟨rfl,f.done (kZ.ok .u8) (LA p.o) (JS _) LC,a⟩
theorem zk(u w A)(n c:Nat)(xs)(C:jc (ly .u8) u w (.slice A n c) xs)(P:n<=1000)(hS:∀q,u q->q<w)(hf:∀x∈xs,∀(g:World) (r:List Value),Below w w g->(ly .u8) u g r x->Calls prog 117 #[.agg r.toArray] g (nx (ly .u8) x g)):
  Calls prog 116 #[.slice A n c,.func (.func 117) #[] #[]] w (oK (ly .u8) n xs w):=by
 have Q:=uE;unfold kv at Q;have v:=C.len;have hc:=v.2;have m:=JH v.1;have R:=C;have y:=hS;have S:=hf;have D:=Dp n P w;obtain⟨B,j⟩:=Xq w.heap.size;have d:kz (ly .u8) 182 1 B (w.alloc (.cells (madeCells #[Nl] n) 182)) B n ([]:List (List Hd)):=kz.start _ (by rw[j];exact JK _ _) (by rw[Lj];simp);have a:Below B w (w.alloc (.cells (madeCells #[Nl] n) 182)):=by rw[j];exact Ba _ _
 rw[<-j]at D;have f:=JH j;clear hS v hf j
 go_enter func116,ntmps116
 go_wp2_with fail;generalize w.alloc (.cells (madeCells #[Nl] n) 182)=g at*;go_loopw [13] (λi wr=>∃k:Nat,k<=n/\i=k/\kz (ly .u8) 182 1 B wr B n (xs.take k)/\Below B w wr) (λi _=>n-(intOf i).toNat);case atStart=>exact⟨0,JV _,rfl,d,a⟩
 case round=>
  clear D;obtain⟨k,ad,rfl,d,a⟩:=hrel;have ae:=d.lt;have af:=a.size;by_cases ag:k<n
  .obtain⟨x,hx⟩:∃x,xs[k]?=some x:=Gx (LA m.o);obtain⟨E,ah,r,rfl,T,F,G⟩:=(R.iV (ly.ok .u8) (λq l=>a.B q (by rw[f.o];exact y q l))).jr (ly.ok .u8) k x hx;obtain⟨p,s,c1,rfl⟩:=F.opn;have I:=G 0 _ rfl;rw[JT,Kk]at I;have ai:E<wr:=LB (y E T) f.o;have aj:(0:Int)<=(k:Int):=LC;have ak:(k:Int)<(n:Int):=LC;have z:=Ba wr (.cells #[.slice p s c1] 182);have U:=(S x (JM hx) (wr.alloc (.cells #[.slice p s c1] 182)) [.slice p s c1] (by rw[<-f.o];exact a.T (z.M (LA f.o))) ((ly.ok .u8).iV F (λq l=>z.B q (LB (y q l) f.o))))
   have V:=JH hx;clear G hx;go_wp2_with fail;refine U.M ?_;rintro e J ⟨r,rfl,K,L⟩;obtain⟨M,N,c2,rfl⟩:=K.opn;have al:=L.size;have am:(wr.alloc (.cells #[.slice p s c1] 182)).heap.size=wr+1:=LG;have O:Below wr wr J:=z.T (L.M LC);have t:=(d.iV (ly.ok .u8) O)
   have W:=(a.T (O.M LC))
   have an:=t.lt;have ao:=t.frozen k;have ap:k<n*1:=LC;obtain⟨aq,ar⟩:=t.cell (ly.ok .u8) (i:=k) LC;have X:=(show kz (ly .u8) 182 1 B (jn J B k [.slice M N c2]) B n (xs.take (k+1))from by have e:xs.take (k+1)=xs.take k++[x]:=(by rw[KL,V.o];rfl);rw[e];have Y:(xs.take k).length=k:=(by rw[Kv];have:=m.o;omega);exact t.put (ly.ok .u8) ((ly.ok .u8).M K (λq l=>by obtain⟨au,Z⟩:=l;have:=f.o;exact⟨LC,Z,LC⟩)) LC (by rw[Y];omega))
   have aa:=(jC (lo:=B) (b:=B) (JS _) (r:=[.slice M N c2]) (o:=k) W)
   clear d a I;go_wp2_with fail;go_roundw;case rel=>exact⟨k+1,LC,LI,X,aa⟩
   case measure=>simp[intOf];omega
  obtain rfl:n=k:=LC;have ab:xs.take n=xs:=Kj (LA m.o);rw[ab]at d;go_wp2_with fail;go_ret;have ac:=f.o;subst ac;exact⟨rfl,d.done (ly.ok .u8) (LA m.o) (JS _) LC,a⟩
theorem tI{ops:Array Oper}{rest:List Oper}{o}{a:Act}{Q:Exit->Act->World->Prop}{w:World}(B:o.guard=none)(d s:Operand)
  (C:o.op=.call {callee:=.builtin .copy,args:=#[d,s],argTypes:=#[22,22]}) (b jr n c r:Nat) (t:Option Addr) (hd:a.eval d=.slice (some ⟨b,8+jr,none⟩) (64-jr) r) (hs:a.eval s=.slice t n c)
  (h:kI w b) (D:Ct b w t n) (I:jr<64) (hn:0<n) {m:Nat} (hm:m=min n (64-jr))
  (hK:∀w',kI w' b->w.grownBy w' (some b)->wpList prog ops Q rest (a.put o.dst (.int .i64 (m:Int))) w'):wpList prog ops Q (o::rest) a w:=by
 obtain⟨u,y,E⟩:=id h;obtain⟨p,q,rfl,hp,J,z⟩:=D hn;obtain⟨i,j⟩:=Xq ((List.range (min n (64-jr))).map λf=>(w.cell? ⟨p,q+f,none⟩).getD (.int .u8 0));have A:i.length=min n (64-jr):=by rw[j];simp
 have hu:∀v∈i,∃x:Int,v=.int .u8 x:=by intro v l;rw[j,Ld]at l;obtain⟨f,g,rfl⟩:=l;rw[List.mem_range]at g;obtain⟨x,hx⟩:=z f LC;exact⟨x,by rw[hx];rfl⟩
 have K:u.size=73:=E.1;refine wpList_copy_own B d s _ _ C 5 underlying22 LF b (8+jr) (64-jr) r ⟨p,q,none⟩ n c hd hs u _ y i A ?_ LC ?_ ?_
 .intro f v g;rw[j,KD]at g;have F:f<min n (64-jr):=by have:=(J6.1 (show i[f]?=some v by rw[j,KD];exact g)).1;omega
  obtain⟨x,hx⟩:=z f LC;rw[kh];rw[JW (by simpa using F)]at g;simp only[List.getElem_range,Option.map_some,hx,Li,Option.some.injEq]at g;rw[hx,g]
 .intro v l;obtain⟨x,rfl⟩:=hu v l;rfl
 .have:=hK _ (h.copy y (jr:=jr) LC hu) ⟨rfl,rfl,rfl,by simp[World.setRow],λk L G=>setRow_other _ _ _ _ (λe=>G (by rw[e]))⟩;rw[hm,<-A]at this;exact this
theorem Dw(w):Calls prog 120 #[] w (Gn w):=by
 go_enter func120,ntmps120
 go_wp2;go_ret;exact⟨rfl,kI.of (JK _ _),Ba _ _⟩
theorem sW(w)(fn:Func)(tmps)(b:Nat)(a)(hr:fn.results=#[ResultVar.cell 2 167])(c:tmps[2]?=some (.pointer (some ⟨b,0,none⟩)))(hx:w.heap[b]?=some (.cells a 167 (0,0)))(hs:a.size=32):(results fn tmps).run prog w=.ok (.agg a) w:=by have h:=run_loadVar_mid (P:=prog) w b 0 167 a.toList _ (sw hx) underlying167 rfl (by rw[K1,hs];exact rL);simp[results,hr,c,h,asAddr]
end Go.Proofs.YtidmdcckbdmblaaGreatDoor
namespace mX
open Go
def valid(m:Nm)(e:Ev):Bool:=fits m e&&(decide (0<=e.tick)&&(decide (0<=e.n)&&kX e (used e)))
def told(m:Nm)(e:Ev):List UInt8:=
 match arr e with
 |1=>[102,108,97,103,32]++(fN m e.peer++([32,61,32]++((if e.d=1 then [116,114,117,101]else [102,97,108,115,101])++([32,40,99,104,111,105,99,101,32]++(Lib.itoa e.n++[41])))))
 |2=>[100,101,112,108,111,121,32,118,101,114,115,105,111,110,32]++(Lib.itoa e.d++([32,40,99,104,111,105,99,101,32]++(Lib.itoa e.n++[41])))
 |3=>[99,114,97,115,104,32,40,99,104,111,105,99,101,32]++(Lib.itoa e.n++[41])
 |4=>[114,101,113,117,101,115,116,32]++(Lib.itoa e.n++([32]++lO (hN m e.comp e.hd) e.args))
 |5=>[109,101,115,115,97,103,101,32]++(Lib.itoa e.n++([32,102,114,111,109,32]++(cN m e.peer++([32]++((if e.copy=1 then [97,103,97,105,110,32]else [])++lO (hN m e.comp e.hd) e.args)))))
 |6=>[116,105,109,101,114,32]++(Lib.itoa e.n++([32]++lO (hN m e.comp e.hd) e.args))
 |8=>[115,101,110,100,115,32,109,101,115,115,97,103,101,32]++(Lib.itoa e.n++([32,116,111,32]++(cN m e.peer++([32]++lO (hN m e.peer e.hd) e.args))))
 |9=>[115,101,116,115,32,116,105,109,101,114,32]++(Lib.itoa e.n++([32]++(lO (hN m e.comp e.hd) e.args++([32,100,117,101,32,97,116,32,116]++Lib.itoa e.d))))
 |10=>mL e
 |_=>[102,97,117,108,116,32,105,110,32]++hN m e.comp e.hd
def line(m:Nm)(e:Ev):List UInt8:=
 if valid m e then [116]++(Lib.itoa e.tick++([32]++((if e.kind=1 then [111,112,101,114,97,116,111,114]else cN m e.comp)++([58,32]++((if e.kind=7 then [100,105,115,99,97,114,100,115,32]else [])++told m e)))))else []
end mX
namespace Go.Proofs.YtidmdcckbdmblaaGreatDoor
open Go.RowKit jJ mX Go.Proofs.Tryz
theorem BQ(G:Nat)(c:Int)(f:Fl)(w:World)(h:lp w G f):Calls prog 68 #[.pointer (some ⟨G,0,none⟩),c] w (E1 (cN (iZ f) c) w):=by
 have I:=Ba w (.cells #[Em,Nl,Nl] 176);have D:=JH I;have L:=JH (h.iU I);have d:=JH (JK w (.cells #[Em,Nl,Nl] 176));have Z:=h.lt;clear h I
 go_enter func68,ntmps68
 go_upto_region 1 with fail;generalize w.alloc (.cells #[Em,Nl,Nl] 176)=E at*;obtain⟨b,J⟩:=Xq w.heap.size;rw[<-J]at d D⊢;have K:=JH J;have M:=JH (mV G f E L.o);have aa:b<E:=(JJ.1 d.o).1;clear J;by_cases ab:c<0
 .have hn:cN (iZ f) c=[]:=(by unfold cN;rw[Ka];rw[ql];omega);have s:=JH hn;obtain⟨⟨N,O,P⟩,⟨Q,R,S⟩⟩:=jz d.o;obtain⟨g,a⟩:=Xq (jn E b 0 [Em,Nl,Nl]);have t:=JH (show g.heap[b]?=some (.cells #[Em,Nl,Nl] 176 (0,0))from by rw[a];exact ky (r:=[Em,Nl,Nl]) (m:=[_,_,_]) d.o rfl);have u:=JH (show Below b w g from by rw[a];exact jC (JS _) D.o);have y:=JH a;clear a hn;go_wp2_with fail;change bodyPost _ _ _ _ _ (jn E b 0 [Em,Nl,Nl]);rw[<-y.o];have hz:=t.o;have z:=iT hz 0 _ rfl;have A:=iT hz 1 _ rfl;have B:=iT hz 2 _ rfl;refine JZ (v:=.agg #[Em,Nl,Nl]) ?_ rfl ⟨⟨none,0,0,none,0,0,by rw[s.o]⟩,by rw[<-K.o];exact u.o⟩;simp[results,Tryz.results68,go_sem,z,A,B]
 by_cases ac:(f.jh.length:Int)<=c
 .have hn:cN (iZ f) c=[]:=(by unfold cN;rw[Ka];rw[ql];omega);have s:=JH hn;go_wp2_with fail;refine M.o.M ?_;rintro e C ⟨rfl,rfl⟩;obtain⟨⟨N,O,P⟩,⟨Q,R,S⟩⟩:=jz d.o;obtain⟨g,a⟩:=Xq (jn C b 0 [Em,Nl,Nl]);have t:=JH (show g.heap[b]?=some (.cells #[Em,Nl,Nl] 176 (0,0))from by rw[a];exact ky (r:=[Em,Nl,Nl]) (m:=[_,_,_]) d.o rfl);have u:=JH (show Below b w g from by rw[a];exact jC (JS _) D.o);have y:=JH a;clear a hn;go_wp2_with fail;change bodyPost _ _ _ _ _ (jn C b 0 [Em,Nl,Nl]);rw[<-y.o];have hz:=t.o;have z:=iT hz 0 _ rfl;have A:=iT hz 1 _ rfl;have B:=iT hz 2 _ rfl;refine JZ (v:=.agg #[Em,Nl,Nl]) ?_ rfl ⟨⟨none,0,0,none,0,0,by rw[s.o]⟩,by rw[<-K.o];exact u.o⟩;simp[results,Tryz.results68,go_sem,z,A,B]
 obtain⟨i,rfl⟩:∃i:Nat,c=(i:Int):=⟨c.toNat,LC⟩
 obtain⟨x,hx⟩:∃x,f.jh[i]?=some x:=Gx LC;have hn:cN (iZ f) (i:Int)=x.name:=by unfold cN;rw[Kn (ql.2 ⟨LC,LC⟩)];simp[iZ,hx]
 have s:=JH hn;have U:=JH hx;have ad:(i:Int)<(f.jh.length:Int):=LC
 have ae:(0:Int)<=(i:Int):=LC
 clear hn hx;go_wp2_with fail;refine M.o.M ?_;rintro e C ⟨rfl,rfl⟩;obtain⟨af,ag,ah,ai,aj,ak,al,am,an,ao,ap,pb,V,c1,c2,c3,c4,hf,_⟩:=L.o;have hn:=hf.jh.len.1;obtain⟨W,aq,r,rfl,T,hr,F⟩:=hf.jh.jr (kL.ok .u8) i x U.o;obtain⟨j,k,l,n,p,q,rfl,_,X⟩:=hr.nH;have Y:=F 0 _ rfl;have ar:=F 1 _ rfl;have au:=F 2 _ rfl;rw[JT]at Y;have av:=hf.jY W T;rw[<-hn]at c3;obtain⟨⟨N,O,P⟩,⟨Q,R,S⟩⟩:=jz d.o;obtain⟨g,a⟩:=Xq (jn C b 0 [tx x.name,.slice j k l,.slice n p q]);have t:=JH (show g.heap[b]?=some (.cells #[tx x.name,.slice j k l,.slice n p q] 176 (0,0))from by rw[a];exact ky (r:=[tx x.name,.slice j k l,.slice n p q]) (m:=[_,_,_]) d.o rfl);have u:=JH (show Below b w g from by rw[a];exact jC (JS _) D.o);have y:=JH a;clear a hf hr F X T hn V c1 c2 c4;go_wp2_with fail;change bodyPost _ _ _ _ _ (jn C b 0 [tx x.name,.slice j k l,.slice n p q]);rw[<-y.o];have hz:=t.o;have z:=iT hz 0 _ rfl;have A:=iT hz 1 _ rfl;have B:=iT hz 2 _ rfl;refine JZ (v:=.agg #[tx x.name,.slice j k l,.slice n p q]) ?_ rfl ⟨⟨j,k,l,n,p,q,by rw[s.o]⟩,by rw[<-K.o];exact u.o⟩;simp[results,Tryz.results68,go_sem,z,A,B]
theorem uK(a:Nat)(c:Int)(f:Fl)(w:World)(h:lp w a f):Calls prog 25 #[.pointer (some ⟨a,0,none⟩),c] w (jf (tx (cN (iZ f) c)) w):=by
 have d:=JH (BQ a c f w h);have i:=xQ;clear h
 go_enter func25,ntmps25
 go_wp2_with fail;refine d.o.M ?_;rintro e j ⟨⟨k,l,m,n,p,q,rfl⟩,b⟩;have g:=JH b;clear b;go_wp2_with fail;go_ret;exact⟨rfl,g.o⟩
theorem BR(y:Nat)(c:Int)(f:Fl)(w:World)(h:lp w y f):Calls prog 75 #[.pointer (some ⟨y,0,none⟩),c] w (E2 (fN (iZ f) c) w):=by
 have z:=Ba w (.cells #[Em,.bool false] 171);have t:=JH z;have D:=JH (h.iU z);have a:=JH (JK w (.cells #[Em,.bool false] 171));have Q:=h.lt;clear h z
 go_enter func75,ntmps75
 go_upto_region 1 with fail;generalize w.alloc (.cells #[Em,.bool false] 171)=u at*;obtain⟨d,A⟩:=Xq w.heap.size;rw[<-A]at a t⊢;have B:=JH A;have E:=JH (uI y f u D.o);have R:d<u:=(JJ.1 a.o).1;clear A;by_cases S:c<0
 .have hn:fN (iZ f) c=[]:=(by unfold fN;rw[Ka];rw[vI];omega);have j:=JH hn;have F:=iT a.o 0 _ rfl;have G:=iT a.o 1 _ rfl;have I:=iY a.o 0;have J:=iY a.o 1;obtain⟨g,b⟩:=Xq (jn u d 0 [Em,.bool false]);have k:=JH (show g.heap[d]?=some (.cells #[Em,.bool false] 171 (0,0))from by rw[b];exact ky (r:=[Em,.bool false]) (m:=[_,_]) a.o rfl);have l:=JH (show Below d w g from by rw[b];exact jC (JS _) t.o);have n:=JH b;clear b hn;go_wp2_with fail;change bodyPost _ _ _ _ _ (jn u d 0 [Em,.bool false]);rw[<-n.o];have hz:=k.o;have p:=iT hz 0 _ rfl;have q:=iT hz 1 _ rfl;refine JZ (v:=.agg #[Em,.bool false]) ?_ rfl ⟨⟨false,by rw[j.o]⟩,by rw[<-B.o];exact l.o⟩;simp[results,Tryz.results75,go_sem,p,q]
 by_cases T:(f.jl.length:Int)<=c
 .have hn:fN (iZ f) c=[]:=(by unfold fN;rw[Ka];rw[vI];omega);have j:=JH hn;go_wp2_with fail;refine E.o.M ?_;rintro e s ⟨rfl,rfl⟩;have F:=iT a.o 0 _ rfl;have G:=iT a.o 1 _ rfl;have I:=iY a.o 0;have J:=iY a.o 1;obtain⟨g,b⟩:=Xq (jn s d 0 [Em,.bool false]);have k:=JH (show g.heap[d]?=some (.cells #[Em,.bool false] 171 (0,0))from by rw[b];exact ky (r:=[Em,.bool false]) (m:=[_,_]) a.o rfl);have l:=JH (show Below d w g from by rw[b];exact jC (JS _) t.o);have n:=JH b;clear b hn;go_wp2_with fail;change bodyPost _ _ _ _ _ (jn s d 0 [Em,.bool false]);rw[<-n.o];have hz:=k.o;have p:=iT hz 0 _ rfl;have q:=iT hz 1 _ rfl;refine JZ (v:=.agg #[Em,.bool false]) ?_ rfl ⟨⟨false,by rw[j.o]⟩,by rw[<-B.o];exact l.o⟩;simp[results,Tryz.results75,go_sem,p,q]
 obtain⟨i,rfl⟩:∃i:Nat,c=(i:Int):=⟨c.toNat,LC⟩
 obtain⟨x,hx⟩:∃x,f.jl[i]?=some x:=Gx LC;have hn:fN (iZ f) (i:Int)=x.name:=by unfold fN;rw[Kn (vI.2 ⟨LC,LC⟩)];simp[iZ,hx]
 have j:=JH hn;have L:=JH hx;have U:(i:Int)<(f.jl.length:Int):=LC
 have V:(0:Int)<=(i:Int):=LC
 clear hn hx;go_wp2_with fail;refine E.o.M ?_;rintro e s ⟨rfl,rfl⟩;obtain⟨W,X,Y,Z,aa,ab,ac,ad,ae,af,ag,pb,M,c1,c2,c3,c4,hf,_⟩:=D.o;have hn:=hf.jl.len.1;obtain⟨N,ah,r,rfl,K,hr,C⟩:=hf.jl.jr kY.ok i x L.o;have O:r=[tx x.name,.bool x.init]:=hr;subst O;have P:=C 0 _ rfl;have ai:=C 1 _ rfl;rw[JT]at P;have aj:=hf.jY N K;rw[<-hn]at c1;have F:=iT a.o 0 _ rfl;have G:=iT a.o 1 _ rfl;have I:=iY a.o 0;have J:=iY a.o 1;obtain⟨g,b⟩:=Xq (jn s d 0 [tx x.name,.bool x.init]);have k:=JH (show g.heap[d]?=some (.cells #[tx x.name,.bool x.init] 171 (0,0))from by rw[b];exact ky (r:=[tx x.name,.bool x.init]) (m:=[_,_]) a.o rfl);have l:=JH (show Below d w g from by rw[b];exact jC (JS _) t.o);have n:=JH b;clear b hf C K hn M c2 c3 c4;go_wp2_with fail;change bodyPost _ _ _ _ _ (jn s d 0 [tx x.name,.bool x.init]);rw[<-n.o];have hz:=k.o;have p:=iT hz 0 _ rfl;have q:=iT hz 1 _ rfl;refine JZ (v:=.agg #[tx x.name,.bool x.init]) ?_ rfl ⟨⟨x.init,by rw[j.o]⟩,by rw[<-B.o];exact l.o⟩;simp[results,Tryz.results75,go_sem,p,q]
theorem zq(a:Nat)(c:Int)(f:Fl)(w:World)(h:lp w a f):Calls prog 29 #[.pointer (some ⟨a,0,none⟩),c] w (jf (tx (fN (iZ f) c)) w):=by
 have d:=JH (BR a c f w h);have i:=xR;clear h
 go_enter func29,ntmps29
 go_wp2_with fail;refine d.o.M ?_;rintro e j ⟨⟨k,rfl⟩,b⟩;have g:=JH b;clear b;go_wp2_with fail;go_ret;exact⟨rfl,g.o⟩
theorem DB(V W:Nat->Prop)(w:World)(l n:Int)(p:Nat)(r s t u y:Int)(O:List Int)(z A:Int)(C:Nat)(D E F G I:Int)(P:List Int)(M:Option Addr)(m c:Nat)(B:Option Addr)(L N:Nat)(ab:jc jO V w (.slice M m c) O)(ac:jc jO W w (.slice B L N) P)(ad:∀q,V q->q<w)(ae:∀q,W q->q<w)(af:m<=9223372036854775807)(ag:L<=9223372036854775807):
  Calls prog 124 #[.agg #[.int .i64 l,.int .i64 n,.int .u8 (p:Nat),.int .i64 r,.int .i64 s,.int .i64 t,.int .i64 u,.int .i64 y,.slice M m c],.agg #[.int .i64 z,.int .i64 A,.int .u8 (C:Nat),.int .i64 D,.int .i64 E,.int .i64 F,.int .i64 G,.int .i64 I,.slice B L N]] w (jf (.int .i64 (ug [Lib.compareInt (l:Int) (z:Int),Lib.compareInt (n:Int) (A:Int),Lib.compareInt (p:Int) (C:Int),Lib.compareInt (r:Int) (D:Int),Lib.compareInt (s:Int) (E:Int),Lib.compareInt (t:Int) (F:Int),Lib.compareInt (u:Int) (G:Int),Lib.compareInt (y:Int) (I:Int),cmpL O P])) w):=by
 have X:Below w w ((w.alloc (.cells #[.int .i64 l,.int .i64 n,.int .u8 (p:Nat),.int .i64 r,.int .i64 s,.int .i64 t,.int .i64 u,.int .i64 y,.slice M m c] 29)).alloc (.cells #[.int .i64 z,.int .i64 A,.int .u8 (C:Nat),.int .i64 D,.int .i64 E,.int .i64 F,.int .i64 G,.int .i64 I,.slice B L N] 29)):=(Ba _ _).alloc LG _;have aa:((w.alloc (.cells #[.int .i64 l,.int .i64 n,.int .u8 (p:Nat),.int .i64 r,.int .i64 s,.int .i64 t,.int .i64 u,.int .i64 y,.slice M m c] 29)).alloc (.cells #[.int .i64 z,.int .i64 A,.int .u8 (C:Nat),.int .i64 D,.int .i64 E,.int .i64 F,.int .i64 G,.int .i64 I,.slice B L N] 29)).heap[w.heap.size]?=some (.cells #[.int .i64 l,.int .i64 n,.int .u8 (p:Nat),.int .i64 r,.int .i64 s,.int .i64 t,.int .i64 u,.int .i64 y,.slice M m c] 29 (0,0)):=(JY _ _ LG).T (JK _ _);have Y:((w.alloc (.cells #[.int .i64 l,.int .i64 n,.int .u8 (p:Nat),.int .i64 r,.int .i64 s,.int .i64 t,.int .i64 u,.int .i64 y,.slice M m c] 29)).alloc (.cells #[.int .i64 z,.int .i64 A,.int .u8 (C:Nat),.int .i64 D,.int .i64 E,.int .i64 F,.int .i64 G,.int .i64 I,.slice B L N] 29)).heap[w.heap.size+1]?=some (.cells #[.int .i64 z,.int .i64 A,.int .u8 (C:Nat),.int .i64 D,.int .i64 E,.int .i64 F,.int .i64 G,.int .i64 I,.slice B L N] 29 (0,0)):=by have:=JK (w.alloc (.cells #[.int .i64 l,.int .i64 n,.int .u8 (p:Nat),.int .i64 r,.int .i64 s,.int .i64 t,.int .i64 u,.int .i64 y,.slice M m c] 29)) (.cells #[.int .i64 z,.int .i64 A,.int .u8 (C:Nat),.int .i64 D,.int .i64 E,.int .i64 F,.int .i64 G,.int .i64 I,.slice B L N] 29);rw[JN]at this;exact this
 have hz0:((w.alloc (.cells #[.int .i64 l,.int .i64 n,.int .u8 (p:Nat),.int .i64 r,.int .i64 s,.int .i64 t,.int .i64 u,.int .i64 y,.slice M m c] 29)).alloc (.cells #[.int .i64 z,.int .i64 A,.int .u8 (C:Nat),.int .i64 D,.int .i64 E,.int .i64 F,.int .i64 G,.int .i64 I,.slice B L N] 29)).heap.size=w+2:=LG
 have ap:=JH ab;have aq:=JH ac;have ah:=JH ad;have ai:=JH ae;have ar:=JH af;have au:=JH ag;clear ab ac ad ae af ag
 go_enter func124,ntmps124
 go_upto_region 1 with fail;generalize(w.alloc (.cells #[.int .i64 l,.int .i64 n,.int .u8 (p:Nat),.int .i64 r,.int .i64 s,.int .i64 t,.int .i64 u,.int .i64 y,.slice M m c] 29)).alloc (.cells #[.int .i64 z,.int .i64 A,.int .u8 (C:Nat),.int .i64 D,.int .i64 E,.int .i64 F,.int .i64 G,.int .i64 I,.slice B L N] 29)=U at*;have Z:=JH X;have aj:=JH (show∀q,V q->q<U from λq J=>JI (ah.o q J) X.size);have ak:=JH (show∀q,W q->q<U from λq J=>JI (ai.o q J) X.size);obtain⟨i,al⟩:=Xq w.heap.size;obtain⟨j,am⟩:=Xq (i+1);rw[<-al]at aa Y hz0⊢;rw[<-am]at Y⊢;have Q:i<U:=LC
 have R:j<U:=LC
 have S:=JH aa;have T:=JH Y;clear X aa Y al am hz0;refine Ri (λx=>Below U U x) (kN [(·=.pointer (some ⟨i,0,none⟩)),(·=.int .i64 l),(·=.pointer (some ⟨j,0,none⟩)),(·=.int .i64 z),(·=.int .i64 (Lib.compareInt (l:Int) (z:Int))),(·=.pointer (some ⟨i,1,none⟩)),(·=.int .i64 n),(·=.pointer (some ⟨j,1,none⟩)),(·=.int .i64 A),(·=.int .i64 (Lib.compareInt (n:Int) (A:Int))),(·=.pointer (some ⟨i,2,none⟩)),(·=.int .u8 (p:Nat)),(·=.pointer (some ⟨j,2,none⟩)),(·=.int .u8 (C:Nat)),(·=.int .i64 (Lib.compareInt (p:Int) (C:Int))),(·=.pointer (some ⟨i,3,none⟩)),(·=.int .i64 r),(·=.pointer (some ⟨j,3,none⟩)),(·=.int .i64 D),(·=.int .i64 (Lib.compareInt (r:Int) (D:Int))),(·=.pointer (some ⟨i,4,none⟩)),(·=.int .i64 s),(·=.pointer (some ⟨j,4,none⟩)),(·=.int .i64 E),(·=.int .i64 (Lib.compareInt (s:Int) (E:Int))),(·=.pointer (some ⟨i,5,none⟩)),(·=.int .i64 t),(·=.pointer (some ⟨j,5,none⟩)),(·=.int .i64 F),(·=.int .i64 (Lib.compareInt (t:Int) (F:Int))),(·=.pointer (some ⟨i,6,none⟩)),(·=.int .i64 u),(·=.pointer (some ⟨j,6,none⟩)),(·=.int .i64 G),(·=.int .i64 (Lib.compareInt (u:Int) (G:Int))),(·=.pointer (some ⟨i,7,none⟩)),(·=.int .i64 y),(·=.pointer (some ⟨j,7,none⟩)),(·=.int .i64 I),(·=.int .i64 (Lib.compareInt (y:Int) (I:Int))),(·=.pointer (some ⟨i,8,none⟩)),(·=.slice M m c),(·=.pointer (some ⟨j,8,none⟩)),(·=.slice B L N),(·=.int .i64 (cmpL O P)),Tr,(·=.int .i64 (ug [Lib.compareInt (l:Int) (z:Int),Lib.compareInt (n:Int) (A:Int),Lib.compareInt (p:Int) (C:Int),Lib.compareInt (r:Int) (D:Int),Lib.compareInt (s:Int) (E:Int),Lib.compareInt (t:Int) (F:Int),Lib.compareInt (u:Int) (G:Int),Lib.compareInt (y:Int) (I:Int),cmpL O P])),(·=.int .i64 (ug [Lib.compareInt (l:Int) (z:Int),Lib.compareInt (n:Int) (A:Int),Lib.compareInt (p:Int) (C:Int),Lib.compareInt (r:Int) (D:Int),Lib.compareInt (s:Int) (E:Int),Lib.compareInt (t:Int) (F:Int),Lib.compareInt (u:Int) (G:Int),Lib.compareInt (y:Int) (I:Int),cmpL O P]))]) [(45,λv w=>∃(b:Nat),v=.slice (some ⟨b,0,none⟩) 9 9/\b<w/\U<=b/\w.heap[b]?=some (.cells #[.int .i64 (Lib.compareInt (l:Int) (z:Int)),.int .i64 (Lib.compareInt (n:Int) (A:Int)),.int .i64 (Lib.compareInt (p:Int) (C:Int)),.int .i64 (Lib.compareInt (r:Int) (D:Int)),.int .i64 (Lib.compareInt (s:Int) (E:Int)),.int .i64 (Lib.compareInt (t:Int) (F:Int)),.int .i64 (Lib.compareInt (u:Int) (G:Int)),.int .i64 (Lib.compareInt (y:Int) (I:Int)),.int .i64 (cmpL O P)] 3 (0,0)))] ((Below.refl _ _).drew) ⟨?_,?_,?_,?_,?_,?_,?_,?_,?_,?_,?_,?_,?_,?_,?_,?_,?_,?_,?_,?_,?_,?_,?_,?_,?_,?_,?_,?_,?_,?_,?_,?_,?_,?_,?_,?_,?_,?_,?_,?_,?_,?_,?_,?_,?_,?_,?_,?_,trivial⟩ ?_
 .exact .f 2
 .intro f w a hf d hd hw;exact .l 5 (d 0 _ rfl rfl) (iT ((a.B i Q).T S.o) 0 _ rfl) ⟨rfl,a,Qa⟩
 .exact .f 3
 .intro f w a hf d hd hw;exact .l 7 (d 2 _ rfl rfl) (iT ((a.B j R).T T.o) 0 _ rfl) ⟨rfl,a,Qa⟩
 .intro f w a hf d hd hw;have aE:=Sv 6 d 1;have aF:=Sv 8 d 3;clear hf d hd hw;replace a:=Hq a;refine .h λK hK=>?_;go_simp;refine⟨rfl,?_⟩;refine Calls.M (Tryz.cmp_Compare_int l z w) ?_;rintro e w' ⟨he,hw⟩;subst hw;subst he;exact⟨_,rfl,hK ⟨rfl,a.o,Qb<|Qe⟩⟩
 .exact .f 2
 .intro f w a hf d hd hw;exact .l 10 (d 5 _ rfl rfl) (iT ((a.B i Q).T S.o) 1 _ rfl) ⟨rfl,a,Qa⟩
 .exact .f 3
 .intro f w a hf d hd hw;exact .l 12 (d 7 _ rfl rfl) (iT ((a.B j R).T T.o) 1 _ rfl) ⟨rfl,a,Qa⟩
 .intro f w a hf d hd hw;have aG:=Sv 11 d 6;have aH:=Sv 13 d 8;clear hf d hd hw;replace a:=Hq a;refine .h λK hK=>?_;go_simp;refine⟨rfl,?_⟩;refine Calls.M (Tryz.cmp_Compare_int n A w) ?_;rintro e w' ⟨he,hw⟩;subst hw;subst he;exact⟨_,rfl,hK ⟨rfl,a.o,Qb<|Qe⟩⟩
 .exact .f 2
 .intro f w a hf d hd hw;exact .l 15 (d 10 _ rfl rfl) (iT ((a.B i Q).T S.o) 2 _ rfl) ⟨rfl,a,Qa⟩
 .exact .f 3
 .intro f w a hf d hd hw;exact .l 17 (d 12 _ rfl rfl) (iT ((a.B j R).T T.o) 2 _ rfl) ⟨rfl,a,Qa⟩
 .intro f w a hf d hd hw;have aI:=Sv 16 d 11;have aJ:=Sv 18 d 13;clear hf d hd hw;replace a:=Hq a;refine .h λK hK=>?_;go_simp;refine⟨rfl,?_⟩;refine Calls.M (Dz p C w) ?_;rintro e w' ⟨he,hw⟩;subst hw;subst he;exact⟨_,rfl,hK ⟨rfl,a.o,Qb<|Qe⟩⟩
 .exact .f 2
 .intro f w a hf d hd hw;exact .l 20 (d 15 _ rfl rfl) (iT ((a.B i Q).T S.o) 3 _ rfl) ⟨rfl,a,Qa⟩
 .exact .f 3
 .intro f w a hf d hd hw;exact .l 22 (d 17 _ rfl rfl) (iT ((a.B j R).T T.o) 3 _ rfl) ⟨rfl,a,Qa⟩
 .intro f w a hf d hd hw;have aK:=Sv 21 d 16;have aL:=Sv 23 d 18;clear hf d hd hw;replace a:=Hq a;refine .h λK hK=>?_;go_simp;refine⟨rfl,?_⟩;refine Calls.M (Tryz.cmp_Compare_int r D w) ?_;rintro e w' ⟨he,hw⟩;subst hw;subst he;exact⟨_,rfl,hK ⟨rfl,a.o,Qb<|Qe⟩⟩
 .exact .f 2
 .intro f w a hf d hd hw;exact .l 25 (d 20 _ rfl rfl) (iT ((a.B i Q).T S.o) 4 _ rfl) ⟨rfl,a,Qa⟩
 .exact .f 3
 .intro f w a hf d hd hw;exact .l 27 (d 22 _ rfl rfl) (iT ((a.B j R).T T.o) 4 _ rfl) ⟨rfl,a,Qa⟩
 .intro f w a hf d hd hw;have aM:=Sv 26 d 21;have aN:=Sv 28 d 23;clear hf d hd hw;replace a:=Hq a;refine .h λK hK=>?_;go_simp;refine⟨rfl,?_⟩;refine Calls.M (Tryz.cmp_Compare_int s E w) ?_;rintro e w' ⟨he,hw⟩;subst hw;subst he;exact⟨_,rfl,hK ⟨rfl,a.o,Qb<|Qe⟩⟩
 .exact .f 2
 .intro f w a hf d hd hw;exact .l 30 (d 25 _ rfl rfl) (iT ((a.B i Q).T S.o) 5 _ rfl) ⟨rfl,a,Qa⟩
 .exact .f 3
 .intro f w a hf d hd hw;exact .l 32 (d 27 _ rfl rfl) (iT ((a.B j R).T T.o) 5 _ rfl) ⟨rfl,a,Qa⟩
 .intro f w a hf d hd hw;have aO:=Sv 31 d 26;have aP:=Sv 33 d 28;clear hf d hd hw;replace a:=Hq a;refine .h λK hK=>?_;go_simp;refine⟨rfl,?_⟩;refine Calls.M (Tryz.cmp_Compare_int t F w) ?_;rintro e w' ⟨he,hw⟩;subst hw;subst he;exact⟨_,rfl,hK ⟨rfl,a.o,Qb<|Qe⟩⟩
 .exact .f 2
 .intro f w a hf d hd hw;exact .l 35 (d 30 _ rfl rfl) (iT ((a.B i Q).T S.o) 6 _ rfl) ⟨rfl,a,Qa⟩
 .exact .f 3
 .intro f w a hf d hd hw;exact .l 37 (d 32 _ rfl rfl) (iT ((a.B j R).T T.o) 6 _ rfl) ⟨rfl,a,Qa⟩
 .intro f w a hf d hd hw;have aQ:=Sv 36 d 31;have aR:=Sv 38 d 33;clear hf d hd hw;replace a:=Hq a;refine .h λK hK=>?_;go_simp;refine⟨rfl,?_⟩;refine Calls.M (Tryz.cmp_Compare_int u G w) ?_;rintro e w' ⟨he,hw⟩;subst hw;subst he;exact⟨_,rfl,hK ⟨rfl,a.o,Qb<|Qe⟩⟩
 .exact .f 2
 .intro f w a hf d hd hw;exact .l 40 (d 35 _ rfl rfl) (iT ((a.B i Q).T S.o) 7 _ rfl) ⟨rfl,a,Qa⟩
 .exact .f 3
 .intro f w a hf d hd hw;exact .l 42 (d 37 _ rfl rfl) (iT ((a.B j R).T T.o) 7 _ rfl) ⟨rfl,a,Qa⟩
 .intro f w a hf d hd hw;have aS:=Sv 41 d 36;have aT:=Sv 43 d 38;clear hf d hd hw;replace a:=Hq a;refine .h λK hK=>?_;go_simp;refine⟨rfl,?_⟩;refine Calls.M (qO y I w) ?_;rintro e w' ⟨he,hw⟩;subst hw;subst he;exact⟨_,rfl,hK ⟨rfl,a.o,Qb<|Qe⟩⟩
 .exact .f 2
 .intro f w a hf d hd hw;exact .l 45 (d 40 _ rfl rfl) (iT ((a.B i Q).T S.o) 8 _ rfl) ⟨rfl,a,Qa⟩
 .exact .f 3
 .intro f w a hf d hd hw;exact .l 47 (d 42 _ rfl rfl) (iT ((a.B j R).T T.o) 8 _ rfl) ⟨rfl,a,Qa⟩
 .intro f w a hf d hd hw;have aU:=Sv 46 d 41;have aV:=Sv 48 d 43;clear hf d hd hw;replace a:=Hq a;refine .h λK hK=>?_;go_simp;refine⟨rfl,?_⟩;refine Calls.M (DA V W w M m c B L N O P (ap.o.iV jO.ok (λq J=>(a.o.B q (aj.o q J)).T (Z.o.B q (ah.o q J)))) (aq.o.iV jO.ok (λq J=>(a.o.B q (ak.o q J)).T (Z.o.B q (ai.o q J)))) (λq J=>JI (aj.o q J) a.o.size) (λq J=>JI (ak.o q J) a.o.size) ar.o au.o) ?_;rintro e w' ⟨he,hw⟩;subst hw;subst he;exact⟨_,rfl,hK ⟨rfl,a.o,Qb<|Qe⟩⟩
 .intro f w a hf d hd hw;have aW:=Sv 9 d 4;have aX:=Sv 14 d 9;have aY:=Sv 19 d 14;have aZ:=Sv 24 d 19;have ba:=Sv 29 d 24;have bb:=Sv 34 d 29;have bc:=Sv 39 d 34;have bd:=Sv 44 d 39;have be:=Sv 49 d 44;have av:=a.size;replace a:=Hq a;exact .q (g:=⟨trivial,a.o.alloc a.o.size _,Qc ⟨_,rfl,LG,av,JK _ _⟩<|Qe⟩)
 .intro f w a hf d hd hw;obtain⟨aw,ax,ay,bf,az⟩:=hd _ (Mm 0 rfl) _ rfl rfl;have bg:=Sl 50 ax;clear hf d hd hw;replace a:=Hq a;refine .h λK hK=>?_;go_simp;refine⟨rfl,?_⟩;refine Calls.M (Gv aw 9 [Lib.compareInt (l:Int) (z:Int),Lib.compareInt (n:Int) (A:Int),Lib.compareInt (p:Int) (C:Int),Lib.compareInt (r:Int) (D:Int),Lib.compareInt (s:Int) (E:Int),Lib.compareInt (t:Int) (F:Int),Lib.compareInt (u:Int) (G:Int),Lib.compareInt (y:Int) (I:Int),cmpL O P] w rfl LC (λk x hx=>E3 az hx) ay) ?_;rintro e w' ⟨he,hw⟩;subst hw;subst he;exact⟨_,rfl,hK ⟨rfl,a.o,Qb<|Qe⟩⟩
 .exact .v 51 46
 intro aA bh an ao aB;have aC:aA 47=.int .i64 (ug [Lib.compareInt (l:Int) (z:Int),Lib.compareInt (n:Int) (A:Int),Lib.compareInt (p:Int) (C:Int),Lib.compareInt (r:Int) (D:Int),Lib.compareInt (s:Int) (E:Int),Lib.compareInt (t:Int) (F:Int),Lib.compareInt (u:Int) (G:Int),Lib.compareInt (y:Int) (I:Int),cmpL O P]):=ao 47 LD;have aD:=JH an;clear ao aB an;simp only[je,Act.put,JL,JP,JO,aC];go_wp2_with fail;go_ret;exact⟨rfl,Z.o.T (aD.o.M Z.o.size)⟩
theorem xf(a b:Ev):ug [Lib.compareInt a.tick b.tick,Lib.compareInt a.comp b.comp,Lib.compareInt (a.kind:Int) (b.kind:Int),Lib.compareInt a.peer b.peer,Lib.compareInt a.n b.n,Lib.compareInt a.copy b.copy,Lib.compareInt a.hd b.hd,Lib.compareInt a.d b.d,cmpL a.args b.args]=0↔a=b:=by obtain⟨c,d,e,f,g,i,j,k,l⟩:=a;obtain⟨m,n,p,q,r,s,t,u,v⟩:=b;rw[xe];simp only[Kf,J7,Kq,forall_eq_or_imp,forall_eq,nR,uL,Int.natCast_inj,Ev.mk.injEq]
theorem jZ(k l:Nat->Prop)(w:World)(a b:Ev)(i:Option Addr)(m c:Nat)(B:Option Addr)(f j:Nat)(r:jc jO k w (.slice i m c) a.args)(s:jc jO l w (.slice B f j) b.args)(n:∀q,k q->q<w)(p:∀q,l q->q<w)(t:m<=9223372036854775807)(u:f<=9223372036854775807):
  Calls prog 67 #[.agg (FI a i m c),.agg (FI b B f j)] w (jf (.bool (kX a b)) w):=by
 have v:kX a b=decide (ug [Lib.compareInt a.tick b.tick,Lib.compareInt a.comp b.comp,Lib.compareInt (a.kind:Int) (b.kind:Int),Lib.compareInt a.peer b.peer,Lib.compareInt a.n b.n,Lib.compareInt a.copy b.copy,Lib.compareInt a.hd b.hd,Lib.compareInt a.d b.d,cmpL a.args b.args]=0):=by cases d:kX a b;symm;rw[decide_eq_false_iff_not,xf];intro e;rw[(uJ a b).2 e]at d;cases d;symm;rw[decide_eq_true_iff,xf];exact(uJ a b).1 d
 rw[v];clear v;have g:Below w w ((w.alloc (.cells (FI a i m c) 29)).alloc (.cells (FI b B f j) 29)):=(Ba _ _).alloc LG _;have x:=JH (DB k l ((w.alloc (.cells (FI a i m c) 29)).alloc (.cells (FI b B f j) 29)) a.tick a.comp a.kind a.peer a.n a.copy a.hd a.d a.args b.tick b.comp b.kind b.peer b.n b.copy b.hd b.d b.args i m c B f j (r.iV jO.ok λq d=>g.B q (n q d)) (s.iV jO.ok λq d=>g.B q (p q d)) (λq d=>JI (n q d) g.size) (λq d=>JI (p q d) g.size) t u);have y:=JH g;obtain⟨z,hz⟩:=Xq (ug [Lib.compareInt a.tick b.tick,Lib.compareInt a.comp b.comp,Lib.compareInt (a.kind:Int) (b.kind:Int),Lib.compareInt a.peer b.peer,Lib.compareInt a.n b.n,Lib.compareInt a.copy b.copy,Lib.compareInt a.hd b.hd,Lib.compareInt a.d b.d,cmpL a.args b.args]);rw[<-hz]at x⊢;clear g r s n p t u hz
 go_enter func67,ntmps67
 go_wp2_with fail;refine x.o.M ?_;rintro e D ⟨rfl,A⟩;have C:=JH A;clear A;go_wp2_with fail;go_ret;exact⟨rfl,y.o.T (C.o.M y.o.size)⟩
theorem mI{name:List UInt8}{xs:List Int}(a:name.length<=12)(hx:xs.length<=4)(hr:∀x∈xs,yh x):(lO name xs).length<=110:=by have:=oQ xs hr;unfold lO;simp only[JU,Kb,Kc];omega
theorem BX{e:Ev}(hn:yh e.n)(hr:∀x∈e.args,yh x):(mL e).length<=100:=by
 have a:=Kz e.n hn.1 hn.2;have g:∀i:Nat,(Lib.itoa (e.args[i]?.getD 0)).length<=21:=λi=>by
  cases hx:e.args[i]? with
  |none=>exact Kz _ LD LD
  |some x=>exact Kz _ (hr x (JM hx)).1 (hr x (JM hx)).2
 have b:=g 0;have c:=g 1;unfold mL;simp only[JU,Kb,Kc];split<;>split<;>split<;>simp only[JU,Kb,Kc]<;>omega
theorem DD{m:Nm}{e:Ev}(a:Jk m)(hf:fits m e=true)(hn:yh e.n)(hd:yh e.d)(hr:∀x∈e.args,yh x):(told m e).length<=300:=by
 have d:=Kz e.n hn.1 hn.2;have f:=Kz e.d hd.1 hd.2;have g:=a.f e.peer;have i:=a.c e.peer;have b:=a.h e.comp e.hd;have c:=a.h e.peer e.hd;have j:=BX hn hr;have hc:∀nm:List UInt8,nm.length<=12->e.args.length<=4->(lO nm e.args).length<=110:=λnm h hx=>mI h hx hr;rcases od hf with h|h|h|⟨h,hx⟩|⟨h,hx⟩|⟨h,hx⟩|⟨h,hx⟩|⟨h,hx⟩|⟨h,hx⟩|h;all_goals
  unfold told;rw[h];try have k:=hc _ b hx
  try have l:=hc _ c hx
  simp only[JU,Kb,Kc];first|omega|(split<;>simp only[JU,Kb,Kc]<;>omega)
end Go.Proofs.YtidmdcckbdmblaaGreatDoor
namespace nw
open jJ
def A6(T:js)(p:Nat):Option (Nat×Nat):=if wj T p=3/\(ln T p).all (λc=>decide (48<=c)&&decide (c<=57))=true/\ln T p≠[]/\(ln T p).length<=18 then some (rA (ln T p),p+1)else none
def rR(T:js)(p:Nat):Option (Ex×Nat):=
 if ln T p∈sA then none
 else if wj T p=3 then(A6 T p).map λx=>(.mk 1 [] (x.1:Int) [],x.2)
 else if ln T (p+1)=[91]then none
 else(ru T p).map λx=>(.mk 5 x.1 0 [],x.2)
def nb(T:js)(p:Nat):Option (Ex×Nat):=match rR T p with
 |some (x,q)=>if ln T q∈opers then none else some (x,q)
 |none=>none
def ra(T:js)(p:Nat):Option (St×Nat):=
 if ln T p=[115,101,110,100]then do
  let (a,p)<-ru T (p+1)
  let p<-pq T [46] p
  let (h,p)<-ru T p
  let (xs,p)<-pF T (nb T) p
  let p<-pq T [59] p
  some (.mk 6 a h xs [] [],p)
 else none
def nz(T:js):Nat->Nat->Option (List St×Nat)
 |0,_=>none
 |k+1,p=>if ln T p=[125]then some ([],p+1)else
  match ra T p with
  |none=>none
  |some (s,q)=>match nz T k q with
   |some (l,r)=>some (s::l,r)
   |none=>none
def qF(T:js)(p:Nat):Option (List St×Nat):=if ln T p=[123]then nz T (T.length+1) (p+1)else none
def oL(T:js)(p:Nat):Option (Hd×Nat):=do
 let (a,p)<-ru T p
 let (l,p)<-pF T (ru T) p
 let (b,p)<-qF T p
 some (⟨a,l,b⟩,p)
def qo(T:js)(p:Nat):Option (List Hd×Nat):=mi T [111,110] (oL T) (T.length+1) p
def rS(T:js)(p:Nat):Option (Co×Nat):=do
 let (a,p)<-ru T p
 let p<-pq T [123] p
 if ln T p=[118,97,114]then none else
 let (hs,p)<-qo T p
 if ln T p=[118,101,114,115,105,111,110]then none else
 let p<-pq T [125] p
 some (⟨a,[],[hs]⟩,p)
def qG(T:js):Option Fl:=do
 let p<-pq T [102,108,101,101,116] 0
 let (a,p)<-ru T p
 let p<-pq T [123] p
 let (fs,p)<-mi T [102,108,97,103] (rT T) (T.length+1) p
 if ln T p=[108,105,110,107]then none else
 let (cs,p)<-mi T [99,111,109,112,111,110,101,110,116] (rS T) (T.length+1) p
 let p<-pq T [125] p
 if p=T.length then some ⟨a,fs,[],cs⟩else none
end nw
namespace Go.Proofs.YtidmdcckbdmblaaGreatDoor
open Go.RowKit jJ nw Go.Proofs.Tryz
theorem xi{T:js}{p q v:Nat}(h:A6 T p=some (v,q)):wj T p=3/\(ln T p).all (λc=>decide (48<=c)&&decide (c<=57))=true/\ln T p≠[]/\(ln T p).length<=18/\v=rA (ln T p)/\q=p+1/\p<T.length:=by
 unfold A6 at h;split at h
 rename_i hc
 injection h with h;injection h with a b;exact⟨hc.1,hc.2.1,hc.2.2.1,hc.2.2.2,a.symm,b.symm,FA rfl hc.2.2.1⟩;cases h
theorem pn{T:js}{p q:Nat}{x:Ex}(h:rR T p=some (x,q)):ln T p∉sA/\((wj T p=3/\∃v,A6 T p=some (v,q)/\x=.mk 1 [] (v:Int) [])\/(wj T p≠3/\ln T q≠[91]/\∃s,ru T p=some (s,q)/\x=.mk 5 s 0 [])):=by
 unfold rR at h;split at h;cases h
 rename_i hn
 refine⟨hn,?_⟩;split at h
 rename_i b
 cases hv:A6 T p with
 |none=>rw[hv]at h;cases h
 |some y=>rw[hv]at h;injection h with h;injection h with c a;exact .inl ⟨b,y.1,by rw[<-a],c.symm⟩
 rename_i b
 split at h;cases h
 rename_i d
 cases hv:ru T p with
 |none=>rw[hv]at h;cases h
 |some y=>rw[hv]at h;injection h with h;injection h with c a;obtain⟨_,_,e,_⟩:=nO (x:=y.1) (q:=y.2) hv;exact .inr ⟨b,by rw[<-a,e];exact d,y.1,by rw[<-a],c.symm⟩
theorem lH{T:js}{p q:Nat}{x:Ex}(h:nb T p=some (x,q)):rR T p=some (x,q)/\ln T q∉opers:=by
 unfold nb at h;cases ha:rR T p with
 |none=>rw[ha]at h;cases h
 |some y=>
  rw[ha]at h;obtain⟨c,d⟩:=y;simp only at h;split at h;cases h
  rename_i hn
  injection h with h;injection h with a b;subst a b;exact⟨rfl,hn⟩
theorem AJ{w:World}{lo e size g n a:Nat}{R m r:List Value}(h:w.ownsRow lo e size (.slice (some ⟨g,0,none⟩) (n+1) a) (n+1) (R++m))(hR:R.length=n*size)(hm:m.length=size)(hr:r.length=size):(jn w g (n*size) r).ownsRow lo e size (.slice (some ⟨g,0,none⟩) (n+1) a) (n+1) (R++r):=by
 obtain⟨t,d,f,i,j,k⟩:=uR h;have hp:=ni (b:=g) (T:=e) (t:=t) (r:=r) (m:=m) (l:=R) (w:=w) LC (by rw[<-Kh];exact d);rw[hR]at hp;have c:(R++r).length=(n+1)*size:=by rw[JU,hR,hr,Lu];omega
 refine⟨c,.inr ⟨g,a,_,rfl,k,hp,f,i,?_,?_⟩⟩;rw[<-j];simp only[KQ,JU];omega;simp only[<-Kh];rw[<-c];exact List.take_left
end Go.Proofs.YtidmdcckbdmblaaGreatDoor
namespace nw
theorem Ca{T:js}{p q:Nat}{x:jJ.Ex}(h:nb T p=some (x,q)):x.args=[]:=by obtain⟨_,h⟩:=Go.Proofs.YtidmdcckbdmblaaGreatDoor.pn (Go.Proofs.YtidmdcckbdmblaaGreatDoor.lH h).1;rcases h with⟨_,v,_,rfl⟩|⟨_,_,s,_,rfl⟩<;>rfl
theorem xl{T:js}{p q:Nat}{x:jJ.Ex}(h:nb T p=some (x,q)):p<q:=by
 obtain⟨_,h⟩:=Go.Proofs.YtidmdcckbdmblaaGreatDoor.pn (Go.Proofs.YtidmdcckbdmblaaGreatDoor.lH h).1;rcases h with⟨_,v,h,_⟩|⟨_,_,s,h,_⟩
 have:=(Go.Proofs.YtidmdcckbdmblaaGreatDoor.xi h).2.2.2.2.2.1;omega;have:=(Go.Proofs.YtidmdcckbdmblaaGreatDoor.nO h).2.2.1;omega
theorem zQ{T:js}{k p q:Nat}{l:List jJ.St}(h:nz T k p=some (l,q)):(ln T p=[125]/\l=[]/\q=p+1)\/(ln T p≠[125]/\∃s a r k',ra T p=some (s,a)/\l=s::r/\nz T k' a=some (r,q)):=by
 cases k with
 |zero=>cases h
 |succ k=>
  unfold nz at h;split at h
  rename_i b
  injection h with h;injection h with c d;exact .inl ⟨b,c.symm,d.symm⟩
  rename_i b
  cases hs:ra T p with
  |none=>rw[hs]at h;cases h
  |some y=>
   obtain⟨s,a⟩:=y;rw[hs]at h;simp only at h;cases hr:nz T k a with
   |none=>rw[hr]at h;cases h
   |some z=>obtain⟨r,e⟩:=z;rw[hr]at h;injection h with h;injection h with c d;subst c d;exact .inr ⟨b,s,a,r,k,rfl,rfl,hr⟩
end nw
