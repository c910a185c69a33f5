import Derived.Test.YtjoamapacifofaaGreatDoorZ17
import Derived.Test.YtjoamapacifofaaGreatDoorZ18
import Derived.Test.YtjoamapacifofaaGreatDoorZ19
import Derived.Test.YtjoamapacifofaaGreatDoorZ20
set_option maxRecDepth 1000000
set_option maxHeartbeats 32000000
set_option linter.all false
namespace Go.Proofs.YtjoamapacifofaaGreatDoor
open RowKit Go.Proofs.Tryz kT Maps nu pG ChangeShapes WideShapes ChangeAt
def DZ(S:Nat->Prop)(w:World)(c:Option Addr)(d c1:Nat)(f:Option Addr)(g c2:Nat)(i:Option Addr)(j c3:Nat)(x:Fl)(hL:ln w)(hR:oJ w)(D:pL w)(hf:oY S w c d c1 f g c2 i j c3 x)(hg:mh x)(K:JJ x)(L:LD x)(M:∀ak∈x.jZ,J5 ak):
  Calls prog 13 #[.agg (kb x.name c d c1 f g c2 i j c3)] w (Jm S x w):=by
 have N:=hL.low;have O:=hR.lt;have Q:=D.lt;have k:=Ba w (.cells (kb x.name c d c1 f g c2 i j c3) 60);have R:=O0 k;have E:=O0 (O2 w (.cells (kb x.name c d c1 f g c2 i j c3) 60));have T:=O0 (hf.jQ k);have F:=O0 (hL.jQ k N);have al:=O0 (hR.jP (k.B _ O) k.size);have U:=O0 (D.jP (k.B _ Q) k.size);have V:=O0 (show(w.alloc (.cells (kb x.name c d c1 f g c2 i j c3) 60)).heap.size=w+1 from SG);have G:=O0 hg;have am:=O0 K;have an:=O0 L;have ao:=O0 M;clear hL hR D hf hg K L M k N O Q
 go_enter func13,ntmps13
 go_upto_region 1 with fail;generalize w.alloc (.cells (kb x.name c d c1 f g c2 i j c3) 60)=W at*;obtain⟨l,I⟩:=Xq w.heap.size;rw[<-I]at E V R⊢;have ap:=O0 I;have aq:l<W:=SC V.o
 clear I;obtain⟨⟨p,r,t,u⟩,_⟩:=mK E.o;go_wp21;apply(BA S W c d c1 f g c2 i j c3 x F.o al.o T.o G.o am.o an.o).M;rintro e v ⟨pb,rfl,m,aT,X⟩;have ar:=O0 m;have au:=O0 X;have av:=m.size;have J:=O0 (T.o.jQ m);have aw:=O0 (F.o.jQ m F.o.low);have Y:=O0 (U.o.jP (m.B _ U.o.lt) av);have Z:=O0 ((m.B l aq).T E.o);clear m X p r t u;obtain⟨⟨p,r,t,u⟩,_⟩:=mK Z.o;have ax:l<v:=SE
 go_wp21;apply(E6 S v c d c1 f g c2 i j c3 x aw.o J.o G.o ao.o).M;rintro e aa ⟨s,rfl,aU,n⟩;have ab:=O0 n;have ay:=n.size;have az:=O0 (J.o.jQ n);have ac:=O0 (Y.o.jP (n.B _ Y.o.lt) ay);have aA:=O0 ((n.B l ax).T Z.o);clear n p r t u;obtain⟨⟨p,r,t,u⟩,_⟩:=mK aA.o;have aV:l<aa:=SE
 go_wp21;apply(He S aa c d c1 f g c2 i j c3 x az.o G.o).M;rintro e b ⟨aB,aC,aD,aE,aF,aG,aH,aI,d3,rfl,ad,y⟩;have ae:=O0 y;have aJ:=y.size;have aK:=O0 ad;have af:=O0 (ac.o.jP (y.B _ ac.o.lt) aJ);clear y ad p r t u;have hcv:=Lib.run_convert_string_bytes (P:=prog) b 9 22 5 s underlying9 underlying22 underlying5;have A:=O0 (BG b 5 s);have aL:=O0 (show∀B,B<s.size->∃x:Int,(Lib.bytesWorld b 5 s).cell? ⟨b,0+B,none⟩=some (.int .u8 x)from λB aM=>⟨_,by rw[Pk];exact Lib.bytesWorld_cell b 5 s B aM⟩);have aN:=O0 (Lib.bytesWorld_size b 5 s);generalize Lib.bytesWorld b 5 s=aO at*;go_wp21;refine(Jl (some ⟨b,0,none⟩) s.size _ aO (λ_=>⟨_,_,rfl,SC aN.o,aL.o⟩) (grownCap_ge _ _ _ _) SE (af.o.jP (A.o.B _ af.o.lt) A.o.size)).M ?_;rintro e w6 ⟨⟨aW,rfl,ag,ah⟩,ai⟩;obtain⟨z,rfl⟩:=KX ag ah;have C:=O0 (show Below b b w6 from A.o.T (ai.M A.o.size));clear ai ag ah hcv;go_wp21
 go_ret2
 have aX:=C.o.size;have aP:Below l w b:=((R.o.T (ar.o.M SE)).T (ab.o.M SE)).T (ae.o.M SE);have aQ:Below l w w6:=aP.T (C.o.M SE);have he:=ap.o;refine⟨w6,rfl,⟨⟨SG,.inr SE⟩,λq=>(S q\/l<=q)/\q<w6,aB,aC,aD,aE,aF,aG,aH,aI,d3,pb,jN (O2 _ _) 0,jN (O2 _ _) 1,jN (O2 _ _) 2,jN (O2 _ _) 3,jN (O2 _ _) 37,?_,?_,⟨SK,.inr SE⟩,λq a=>a.1.imp id λh=>SE⟩,?_,SE⟩
 .have aR:=aK.o.jQ (C.o);exact(aR.jQ (Ba w6 _)).M (λq a=>⟨.inr (SC a.1),SC a.2⟩) (λq a=>SK)
 .have aS:∀(o:Obj) (q:Nat),q<v->(w6.alloc o).heap[q]?=v.heap[q]?:=λo q a=>(Ph w6 o SE).T ((C.o.B q SE).T ((ae.o.B q SE).T (ab.o.B q a)));have aj:=J.o.kX;refine(au.o.jP (λq a=>aS _ q (by rcases a with(a|a)|a;exact aj q a;exact a.2;omega))).M (λq a=>?_);rcases a with a|a;exact⟨.inl a,SC (aj q a)⟩;exact⟨.inr SE,SE⟩
 .rw[<-he];exact aQ.alloc SE _
def KZ(S w a)(b c1:Nat)(c)(d c2:Nat)(e)(f c3:Nat)(x)(hL:ln w)(hR:oJ w)(g:pL w)(hf:oY S w a b c1 c d c2 e f c3 x)(hg:mh x)(i:JJ x)(j:LD x)(k:∀l∈x.jZ,J5 l):
  Calls prog 13 #[.agg (kb x.name a b c1 c d c2 e f c3)] w (KY x w):=
 (DZ S w a b c1 c d c2 e f c3 x hL hR g hf hg i j k).M λ_ w' ⟨m,he,h,hb,n⟩=>⟨m,he,h.jP (λ_ _ _=>rfl) (O9 _),hb,n⟩
def pG.uf(T:kG):Option Fl:=do
 let p<-sk T [102,108,101,101,116] 0
 let (a,p)<-uV T p
 let p<-sk T [123] p
 let (fs,p)<-oz T [102,108,97,103] (vJ T) (T.length+1) p
 if nD T p=[108,105,110,107]then none else
 let (cs,p)<-oz T [99,111,109,112,111,110,101,110,116] (vI T) (T.length+1) p
 let p<-sk T [125] p
 if p=T.length then some ⟨a,fs,[],cs⟩else none
def pG.BO{T:kG}{p q:Nat}{h:kT.Hd}(hx:rv T p=some (h,q)):p<q:=by obtain⟨a,f,l,g,b,c,d,e,_⟩:=tT hx;have:=qK c;have:=wu (λp q x hx=>qK hx) d;have:=yD e;omega
def pG.Hy{T:kG}{p q:Nat}{c:kT.Co}(h:vI T p=some (c,q)):p<q:=by obtain⟨a,g,i,hs,j,e,b,_,f,_,d,_⟩:=Go.Proofs.YtjoamapacifofaaGreatDoor.yG h;have:=qK e;have:=A6 (λp q x hx=>BO hx) f;unfold sk at b d;split at b;injection b;split at d;injection d;omega;cases d;cases b
def pG.Dk{T:kG}{f:kT.Fl}(h:uf T=some f):∃c a d e g b i j,sk T [102,108,101,101,116] 0=some c/\uV T c=some (a,d)/\sk T [123] d=some e/\oz T [102,108,97,103] (vJ T) (T.length+1) e=some (g,b)/\nD T b≠[108,105,110,107]/\oz T [99,111,109,112,111,110,101,110,116] (vI T) (T.length+1) b=some (i,j)/\sk T [125] j=some T.length/\f=⟨a,g,[],i⟩:=by
 unfold uf at h;obtain⟨c,k,h⟩:=Go.Proofs.YtjoamapacifofaaGreatDoor.bind_some h;obtain⟨⟨a,d⟩,l,h⟩:=Go.Proofs.YtjoamapacifofaaGreatDoor.bind_some h;obtain⟨e,m,h⟩:=Go.Proofs.YtjoamapacifofaaGreatDoor.bind_some h;obtain⟨⟨g,b⟩,n,h⟩:=Go.Proofs.YtjoamapacifofaaGreatDoor.bind_some h;simp only at h;split at h;cases h
 rename_i p
 obtain⟨⟨i,j⟩,q,h⟩:=Go.Proofs.YtjoamapacifofaaGreatDoor.bind_some h;obtain⟨s,r,h⟩:=Go.Proofs.YtjoamapacifofaaGreatDoor.bind_some h;simp only at h;split at h
 rename_i hp
 injection h with h;subst h hp;exact⟨c,a,d,e,g,b,i,j,k,l,m,n,p,q,r,rfl⟩;cases h
def pG.Hz:uf (ke.lexB ⟨src.toArray⟩)=some tree:=SH
def HF(S w)(u:Nat)(Al)(n p:Nat)(ao r)(s t:Nat)(ap)(hS:∀b,S b->b<w.heap.size)(aq:jT pX S w (.slice Al n p) ao)(hp:jT tv S w (.slice r s t) ap)(hL:ln w)(hR:oJ w)(ar:pL w):
  Calls prog 5 #[.agg #[.int .u8 (u:Int),.slice Al n p,.slice r s t]] w (Lr w):=by
 have bd:=O0 hS;have au:=O0 hL;have av:=O0 hR;have aw:=O0 ar;have x:=(Ba w (mu u Al n p r s t)).alloc SG sn;have aa:=O0 x;have ax:=O0 (au.o.jQ x au.o.low);have ay:=O0 (av.o.jP (x.B _ av.o.lt) x.size);have az:=O0 (aw.o.jP (x.B _ aw.o.lt) x.size);have ab:=O0 ((Ph (w.alloc (mu u Al n p r s t)) sn SG).T (O2 w (mu u Al n p r s t)));have ac:=O0 (show((w.alloc (mu u Al n p r s t)).alloc sn).heap[w.heap.size+1]?=some sn from by have:=O2 (w.alloc (mu u Al n p r s t)) sn;rw[O4]at this;exact this);have aA:=O0 (aq.jP pX.ok (λq a=>x.B q (hS q a)));have aB:=O0 (hp.jP tv.ok (λq a=>x.B q (hS q a)));have Q:=O0 (show((w.alloc (mu u Al n p r s t)).alloc sn).heap.size=w+2 from SG);clear aq hp hL hR ar x hS
 go_enter func5,ntmps5
 go_upto_region 1 with fail;generalize((w.alloc (mu u Al n p r s t)).alloc sn)=L at*;obtain⟨b0,ad⟩:=Xq w.heap.size;rw[<-ad]at ab aa Q ac⊢;have ae:=O0 ad;have bE:b0<L:=SC Q.o
 clear ad;obtain⟨d,g⟩:=Xq (b0+1);rw[<-g]at ac⊢;have be:d<L:=SC Q.o
 have aC:=O0 g;clear g;obtain⟨⟨F,G,I⟩,_⟩:=kz ab.o;go_wp21;refine(Et S L u Al n p ao r s t ap (λq a=>SD (bd.o q a) ae.o) aA.o aB.o).M ?_;rintro e c ⟨nm,y,z,A,j,c1,k,c2,l,c3,f,rfl,bf,af,g⟩;obtain⟨v1,v2,bF,B,aD,aE,aF⟩:=bf;injection B with aG B;injection B with bg B;injection B with e3 B;injection B with e4 B;have e5:=Lq aG;subst bg e3 e4 e5;clear aG B;have M:=O0 af;have ag:=O0 af.lf;have aH:=O0 aD;have aI:=O0 aE;have aJ:=O0 aF;have bh:=O0 g;have bG:=g.size;have aK:=O0 (ax.o.jQ g ax.o.low);have aL:=O0 (ay.o.jP (g.B _ ay.o.lt) g.size);have aM:=O0 (az.o.jP (g.B _ az.o.lt) g.size);have bi:=O0 ((g.B d be).T ac.o);clear af aD aE aF g F G I aA aB ab;have m:=Ba c (.cells (kb f.name y j c1 z k c2 A l c3) 37);have ah:=O0 m;have aN:=O0 (aK.o.jQ m aK.o.low);have aO:=O0 (aL.o.jP (m.B _ aL.o.lt) m.size);have aP:=O0 (aM.o.jP (m.B _ aM.o.lt) m.size);have R:=O0 (O2 c (.cells (kb f.name y j c1 z k c2 A l c3) 37));have T:=O0 (show(c.alloc (.cells (kb f.name y j c1 z k c2 A l c3) 37)).heap.size=c+1 from SG);have bj:=O0 ((m.B d SE).T bi.o);have ai:=O0 (aH.o.jP lM.ok (λq a=>m.B q a.2));have aQ:=O0 (aI.o.jP mY.ok (λq a=>m.B q a.2));have aj:=O0 (aJ.o.jP (lv.ok .i64) (λq a=>m.B q a.2));clear m aH aI aJ;go_upto_region 2 with fail;generalize c.alloc (.cells (kb f.name y j c1 z k c2 A l c3) 37)=U at*;obtain⟨N,ak⟩:=Xq c.heap.size;rw[<-ak]at R T⊢;have C:=O0 ak;have bk:N<U:=SC T.o
 clear ak;obtain⟨⟨F,G,I,O⟩,_⟩:=mK R.o;go_wp21;refine(Cy _ U f.name y j c1 z k c2 A l c3 f ai.o aQ.o aj.o M.o.b (λq a=>by have E:q<c:=a.2;have:=C.o;omega)).M ?_;rintro e P ⟨aR,aS,aT,aU,aV,d3,rfl,V,W,X,i⟩;have al:=O0 i;have bH:=i.size;have bl:=O0 (aN.o.jQ i aN.o.low);have bm:=O0 (aO.o.jP (i.B _ aO.o.lt) i.size);have bn:=O0 (aP.o.jP (i.B _ aP.o.lt) i.size);have aW:=O0 ((i.B N bk).T R.o);have bo:=O0 ((i.B d (SD T.o C.o)).T bj.o);have aX:=O0 (ai.o.jP lM.ok (λq a=>i.B q (by have E:q<c:=a.2;have:=C.o;omega)));have aY:=O0 (aj.o.jP (lv.ok .i64) (λq a=>i.B q (by have E:q<c:=a.2;have:=C.o;omega)));have aZ:=O0 (show oY (Nw U P) P aR j aS aT k aU aV l d3 f from⟨V,W,X,λq a=>a.2⟩);clear V W X i F G I O ai aQ aj R;go_wp21;apply(DZ (Nw U P) P aR j aS aT k aU aV l d3 f bl.o bm.o bn.o aZ.o ag.o (sR.t M.o) (sR.gc M.o ag.o) (sR.sm M.o)).M;rintro e w6 ⟨ba,rfl,bb,J,bI⟩;have bp:=O0 bb;have am:=O0 J;have bJ:=J.size;have bq:N<P:=SE
 have br:=O0 ((J.B N bq).T aW.o);have bc:=O0 ((J.B d (SD T.o C.o)).T bo.o);have bs:=O0 (aX.o.jP lM.ok (λq a=>J.B q (by have E:q<c:=a.2;have:=C.o;omega)));have bt:=O0 (aY.o.jP (lv.ok .i64) (λq a=>J.B q (by have E:q<c:=a.2;have:=C.o;omega)));clear bb J aX aY aW aZ;have bu:=O0 (show Below w w w6 from by have bv:=ae.o;have bK:=C.o;rw[bv]at aa;exact aa.o.T ((bh.o.M SE).T ((ah.o.M SE).T ((al.o.M SE).T (am.o.M SE)))));obtain⟨⟨F,G,I,O⟩,_⟩:=mK br.o;have bL:N<w6:=SE
 have D:=bc.o;have bw:=jN D 0;have V:=jN D 1;have W:=jN D 2;have X:=jN D 3;have bx:=jS D 0;have bz:=jS D 1;have bA:=jS D 2;have bB:=jS D 3
 clear D;go_wp21
 go_region
 go_wp21;obtain⟨Y,K⟩:=Xq (World.drew ((((w6.setCell d (tx f.name)).setCell ⟨d,1,none⟩ (.slice y j c1)).setCell ⟨d,2,none⟩ (.slice z k c2)).setCell ⟨d,3,none⟩ (.slice A l c3)));rw[<-K];have bC:Y.heap[d]?=some (.cells (kb f.name y j c1 z k c2 A l c3) 37):=by rw[K];exact jO (jO (jO (jO bc.o)))
 have an:∀q,q≠d->Y.heap[q]?=w6.heap[q]?:=λq a=>by rw[K];exact(Pd _ _ _ _ a).T ((Pd _ _ _ _ a).T ((Pd _ _ _ _ a).T (Pd _ _ _ _ a)))
 have bM:Y.heap.size=w6:=by rw[K];show(World.setCell _ _ _).heap.size=_;simp only[O6]
 have Z:w<=d:=SD ae.o aC.o
 have bD:Below w w Y:=by rw[K];exact Below.drew (jX (jX (jX (jX bu.o Z) Z) Z) Z)
 have bN:d<c:=SD Q.o aC.o
 have bO:=C.o;clear K bw V W X bx bz bA bB F G I O;obtain⟨⟨F,G,I,O⟩,_⟩:=mK bC;exact Pa (v:=.tuple #[.pointer ba,.agg (kb f.name y j c1 z k c2 A l c3)]) (by simp[results,Tryz.results5,go_sem,F,G,I,O]) rfl ⟨f,ba,y,j,c1,z,k,c2,A,l,c3,rfl,bp.o.jP (λq _ a=>an q (by rcases a with a|a;exact(λe=>SC a.1);exact(λe=>SE))) SE,ag.o,sR.t M.o,(bs.o.jP lM.ok (λq a=>an q (by have E:L<=q:=a.1;omega))).M lM.ok (λq a=>by have E:q<c:=a.2;have:=ah.o.size;have:=al.o.size;have:=am.o.size;omega),(bt.o.jP (lv.ok .i64) (λq a=>an q (by have E:L<=q:=a.1;omega))).M (lv.ok .i64) (λq a=>by have E:q<c:=a.2;have:=ah.o.size;have:=al.o.size;have:=am.o.size;omega),bD⟩
def BP{B}(S w)(t cm:Int)(l:Nat)(p n k h d:Int)(A)(m c:Nat)(xs)(r:Nat)(f)(V:pc w r f)(hg:mh f)(hv:jT nw S w (.slice A m c) xs)(hS:∀q,S q->q<w)(hr:∀x∈xs,zL B x)(am:zL B n)(hdr:zL B d)(bc:fits (ki f) ⟨t,cm,l,p,n,k,h,d,xs⟩=true)(W:qs B w)(bG:l=1\/l=5):
  Calls prog 25 #[.agg (oS t cm l p n k h d A m c),.pointer r] w (kd (tx (told (ki f) ⟨t,cm,l,p,n,k,h,d,xs⟩)) w):=by
 have bH:=O0 hr;have bI:=O0 hv.len.1;have an:=O0 hg.LF;have bd:=O0 (show arr ⟨t,cm,l,p,n,k,h,d,xs⟩=1\/(arr ⟨t,cm,l,p,n,k,h,d,xs⟩=5/\xs.length<=4)from by rcases bG with L|L;(subst L;exact .inl rfl);(subst L;have L:=wX bc;rw[show arr ⟨t,cm,5,p,n,k,h,d,xs⟩=5 from rfl]at L;exact .inr ⟨rfl,by simpa using L⟩));have bJ:=O0 (show∀(w':World) (c:Int),Below w w w'->Calls prog 17 #[.pointer r,c] w' (kd (tx (cN (ki f) c)) w')from λw' c hb=>rY r c f w' (V.jQ hb));have bK:=O0 (show∀(w':World) (c:Int),Below w w w'->Calls prog 18 #[.pointer r,c] w' (kd (tx (fN (ki f) c)) w')from λw' c hb=>wU r c f w' (V.jQ hb));have bL:=O0 (show∀(w':World) (c h:Int),Below w w w'->Calls prog 16 #[.pointer r,c,h] w' (kd (.tuple #[tx (hN (ki f) c h),.bool (sj (ki f) c h)]) w')from λw' c h hb=>rZ r c h f w' (V.jQ hb) hg);have bM:=O0 (show∀(w':World) (nm:List UInt8),m<=4->nm.length<=12->Below w w w'->Calls prog 50 #[tx nm,.slice A m c] w' (kd (tx (qq nm xs)) w')from λw' nm X cc hb=>Fe S w' nm A m c xs (hv.jP nw.ok (λq ao=>hb.B q (hS q ao))) (λq ao=>O1 (hS q ao) hb.size) X hr SE (W.jQ hb));have be:=O0 (show∀w':World,Below w w w'->Calls prog 15 #[.int .i64 n] w' (kd (tx (Lib.itoa n)) w')from λw' hb=>sf n am w' (W.jQ hb));have bf:=O0 (show∀w':World,Below w w w'->Calls prog 48 #[.int .i64 d,.int .i64 10] w' (kd (tx (Lib.itoa d)) w')from λw' hb=>AU d hdr w' (W.jQ hb));have bN:=P0 n am.1.1 am.1.2;have bg:=Ba w (.cells (oS t cm l p n k h d A m c) 52);have ap:=O0 bg;have aq:=O0 (O2 w (.cells (oS t cm l p n k h d A m c) 52));obtain⟨M,ar⟩:=Xq (Lib.itoa n);obtain⟨cd,bh⟩:=Xq (Lib.itoa d);rw[<-ar]at be bN;rw[<-bh]at bf;have bi:=O0 ar;obtain⟨a,Y⟩:=Xq (arr ⟨t,cm,l,p,n,k,h,d,xs⟩);have bj:=O0 Y;rw[<-Y]at bd;have bO:=O0 (show∀w':World,Calls prog 45 #[.agg (oS t cm l p n k h d A m c)] w' (kd (.int .u8 (a:Nat)) w')from λw'=>by rw[Y];exact rE ⟨t,cm,l,p,n,k,h,d,xs⟩ A m c w');clear bg ar bh Y hv hS hr W V hg bc
 go_enter func25,ntmps25
 go_upto_region 1 with fail;have bP:(w.alloc (.cells (oS t cm l p n k h d A m c) 52)).heap.size=w+1:=SG
 generalize w.alloc (.cells (oS t cm l p n k h d A m c) 52)=bk at*;obtain⟨i,bl⟩:=Xq w.heap.size;rw[<-bl]at aq⊢;have N:i<bk:=SE
 have J:=O0 aq.o;clear bl bP aq;obtain⟨s,u,y,z,C,D,E,F,G⟩:=mD J.o;go_wp21;apply(be.o bk ap.o).M;rintro e bQ ⟨rfl,au⟩;have av:=O0 au;have aw:=O0 (ap.o.T (au.M ap.o.size));clear s u y z C D E F G;clear au;obtain⟨s,u,y,z,C,D,E,F,G⟩:=mD ((av.o.B i N).T J.o)
 go_wp21;apply(bf.o bQ aw.o).M;rintro e bR ⟨rfl,ax⟩;have ay:=O0 (av.o.T (ax.M av.o.size));have az:=O0 (aw.o.T (ax.M aw.o.size));clear s u y z C D E F G;clear ax;obtain⟨s,u,y,z,C,D,E,F,G⟩:=mD ((ay.o.B i N).T J.o)
 go_wp21;apply(bL.o bR cm h az.o).M;rintro e bS ⟨rfl,aA⟩;have aB:=O0 (ay.o.T (aA.M ay.o.size));have bm:=O0 (az.o.T (aA.M az.o.size));clear s u y z C D E F G;clear aA;have aC:=an.o.h cm h;obtain⟨hn,aD⟩:=Xq (hN (ki f) cm h);rw[<-aD]at aC⊢;have bT:=O0 aD;clear aD;obtain⟨s,u,y,z,C,D,E,F,G⟩:=mD ((aB.o.B i N).T J.o)
 go_wp21;apply(bO.o bS).M;rintro e O ⟨rfl,aE⟩;have Z:=O0 (aB.o.T (aE.M aB.o.size));have I:=O0 (bm.o.T (aE.M bm.o.size));clear s u y z C D E F G;clear aE;obtain⟨s,u,y,z,C,D,E,F,G⟩:=mD ((Z.o.B i N).T J.o);have aa:i<O:=SC Z.o.size
 rcases bd.o with rfl|⟨rfl,X⟩
 .have bn:=O0 (show∀w':World,Below w w w'->Calls prog 18 #[.pointer r,p] w' (kd (tx (fN (ki f) p)) w')from λw' hb=>bK.o w' p hb);have bU:=an.o.f p;obtain⟨fn,aF⟩:=Xq (fN (ki f) p);rw[<-aF]at bU bn;have bV:=O0 aF;obtain⟨ab,aG⟩:=Xq (Lib.formatBool (d==1));have ce:ab.length<=5:=(by rw[aG];cases(d==1)<;>decide);have bo:=O0 aG;clear aF aG;have P:=O0 ((Z.o.B i N).T J.o);clear s u y z C D E F G;go_upto_region 6 with fail;obtain⟨ac,aH⟩:=Xq ([102,108,97,103,32]++fn);have cf:ac.length<=17:=(by rw[aH,Pe];first|omega|(simp only[PA,PE];omega));have bp:=O0 aH;clear aH;obtain⟨ad,aI⟩:=Xq (ac++[32,61,32]);have cg:ad.length<=20:=(by rw[aI,Pe];first|omega|(simp only[PA,PE];omega));have bq:=O0 aI;clear aI;obtain⟨ae,aJ⟩:=Xq (ad++ab);have ch:ae.length<=25:=(by rw[aJ,Pe];first|omega|(simp only[PA,PE];omega));have br:=O0 aJ;clear aJ;obtain⟨af,aK⟩:=Xq (ae++[32,40,99,104,111,105,99,101,32]);have ci:af.length<=34:=(by rw[aK,Pe];first|omega|(simp only[PA,PE];omega));have bs:=O0 aK;clear aK;obtain⟨ag,aL⟩:=Xq (af++M);have cj:ag.length<=55:=(by rw[aL,Pe];first|omega|(simp only[PA,PE];omega));have bt:=O0 aL;clear aL;obtain⟨aM,bu⟩:=Xq (ag++[41]);have bv:=O0 bu;clear bu;refine Ri (λx=>Below O O x) (mi [(·=.pointer r),(Pp i 3),(·=p),(·=tx fn),(·=tx ac),(·=tx ad),(Pp i 7),(·=d),(·=.bool (d==1)),(·=tx ab),(·=tx ae),(·=tx af),(·=tx M),(·=tx ag),(·=tx aM),(·=tx aM)]) [] ((Below.refl _ _).drew) ⟨?_,?_,?_,?_,?_,?_,?_,?_,?_,?_,?_,?_,?_,?_,?_,?_,trivial⟩ ?_;exact .f 1;exact .f 2;exact .l 30 1 λ_ b=>jU ((b.B i aa).T P.o) 3 _ rfl;intro j w b hf hv hd hw;have ck:=Sv 29 hv 0;have cl:=Sv 31 hv 2;replace b:=Hq b;refine .c (bn.o w (I.o.T (b.o.M I.o.size))) ?_;rintro e w' ⟨he,hb⟩;subst he;exact⟨_,rfl,⟨rfl,b.o.T (hb.M b.o.size),Qe⟩⟩;intro j w b hf hv hd hw;have cn:=Sv 32 hv 3;replace b:=Hq b;refine .h λK hK=>?_;go_simp;rw[Pn SE];exact hK ⟨(by rw[bp.o];exact PL Value.string (kq ([102,108,97,103,32]) (fn))),b.o,Qe⟩;intro j w b hf hv hd hw;have co:=Sv 33 hv 4;replace b:=Hq b;refine .h λK hK=>?_;go_simp;rw[Pn SE];exact hK ⟨(by rw[bq.o];exact PL Value.string (kq (ac) ([32,61,32]))),b.o,Qe⟩;exact .f 2;exact .l 35 6 λ_ b=>jU ((b.B i aa).T P.o) 7 _ rfl;intro j w b hf hv hd hw;have cp:=Sv 36 hv 7;exact .q (g:=⟨rfl,b,Qa⟩);intro j w b hf hv hd hw;have cq:=Sv 37 hv 8;clear hf hv hd hw;replace b:=Hq b;refine .h λK hK=>?_;go_simp;refine⟨rfl,?_⟩;refine Calls.M (Tryz.strconv_FormatBool (d==1) w) ?_;rintro e w' ⟨he,hw⟩;subst hw;subst he;rw[<-bo.o];exact⟨_,rfl,hK ⟨rfl,b.o,Qe⟩⟩;intro j w b hf hv hd hw;have cr:=Sv 34 hv 5;have cs:=Sv 38 hv 9;replace b:=Hq b;refine .h λK hK=>?_;go_simp;rw[Pn SE];exact hK ⟨(by rw[br.o];exact PL Value.string (kq (ad) (ab))),b.o,Qe⟩;intro j w b hf hv hd hw;have ct:=Sv 39 hv 10;replace b:=Hq b;refine .h λK hK=>?_;go_simp;rw[Pn SE];exact hK ⟨(by rw[bs.o];exact PL Value.string (kq (ae) ([32,40,99,104,111,105,99,101,32]))),b.o,Qe⟩;exact .f 5;intro j w b hf hv hd hw;have cu:=Sv 40 hv 11;have cv:=Sv 41 hv 12;replace b:=Hq b;refine .h λK hK=>?_;go_simp;rw[Pn SE];exact hK ⟨(by rw[bt.o];exact PL Value.string (kq (af) (M))),b.o,Qe⟩;intro j w b hf hv hd hw;have cw:=Sv 42 hv 13;replace b:=Hq b;refine .h λK hK=>?_;go_simp;rw[Pn SE];exact hK ⟨(by rw[bv.o];exact PL Value.string (kq (ag) ([41]))),b.o,Qe⟩;exact .v 43 14;intro aN bW Q R aO;have T:aN 15=tx aM:=R 15 SF;have aP:=O0 Q;clear R aO Q;simp only[mP,T];clear T;go_wp21;go_ret;refine⟨?_,I.o.T (aP.o.M I.o.size)⟩;exact PL Ending.returned (JW (by unfold told;rw[<-bj.o];simp only[bv.o,bt.o,bs.o,br.o,bq.o,bp.o,bo.o,bV.o,bi.o,Mj,Py]))
 .have bw:=O0 (show∀w':World,Below w w w'->Calls prog 17 #[.pointer r,p] w' (kd (tx (cN (ki f) p)) w')from λw' hb=>bJ.o w' p hb);have bX:=an.o.c p;obtain⟨aQ,aR⟩:=Xq (cN (ki f) p);rw[<-aR]at bX bw;have bY:=O0 aR;clear aR;have bx:=O0 (show∀w':World,Below w w w'->Calls prog 50 #[tx hn,.slice A m c] w' (kd (tx (qq hn xs)) w')from λw' hb=>bM.o w' hn (by rw[<-bI.o];exact X) aC hb);have bZ:=yu aC X (zL.all bH.o);obtain⟨aS,aT⟩:=Xq (qq hn xs);rw[<-aT]at bx bZ;have ca:=O0 aT;clear aT;obtain⟨U,aU⟩:∃q:List UInt8,q=if k=1 then [97,103,97,105,110,32]else []:=⟨_,rfl⟩
  have cx:U.length<=6:=(by rw[aU];split<;>simp);have aV:=O0 aU;clear aU;have P:=O0 ((Z.o.B i N).T J.o);go_upto_region 14 with fail;(iterate 8 go_step);go_cut [9] (λv cb=>v=tx U/\O=cb)
  .by_cases N9:k=1
   .subst N9;go_wp21;go_meet;exact⟨by rw[aV.o,PJ trivial],rfl⟩
   go_wp21;go_meet;exact⟨by rw[aV.o,Pn N9],rfl⟩
  obtain⟨rfl,rfl⟩:=hcut;clear s u y z C D E F G;go_upto_region 17 with fail;obtain⟨ah,aW⟩:=Xq ([109,101,115,115,97,103,101,32]++M);have cy:ah.length<=29:=(by rw[aW,Pe];first|omega|(simp only[PA,PE];omega));have bz:=O0 aW;clear aW;obtain⟨ai,aX⟩:=Xq (ah++[32,102,114,111,109,32]);have cz:ai.length<=35:=(by rw[aX,Pe];first|omega|(simp only[PA,PE];omega));have bA:=O0 aX;clear aX;obtain⟨aj,aY⟩:=Xq (ai++aQ);have cA:aj.length<=47:=(by rw[aY,Pe];first|omega|(simp only[PA,PE];omega));have bB:=O0 aY;clear aY;obtain⟨ak,aZ⟩:=Xq (aj++[32]);have cB:ak.length<=48:=(by rw[aZ,Pe];first|omega|(simp only[PA,PE];omega));have bC:=O0 aZ;clear aZ;obtain⟨al,ba⟩:=Xq (ak++U);have cC:al.length<=54:=(by rw[ba,Pe];first|omega|(simp only[PA,PE];omega));have bD:=O0 ba;clear ba;obtain⟨bb,bE⟩:=Xq (al++aS);have bF:=O0 bE;clear bE;refine Ri (λx=>Below O O x) (mi [(·=tx M),(·=tx ah),(·=tx ai),(·=.pointer r),(Pp i 3),(·=p),(·=tx aQ),(·=tx aj),(·=tx ak),(·=tx U),(·=tx al),(·=tx hn),(Pp i 8),(·=.slice A m c),(·=tx aS),(·=tx bb),(·=tx bb)]) [] ((Below.refl _ _).drew) ⟨?_,?_,?_,?_,?_,?_,?_,?_,?_,?_,?_,?_,?_,?_,?_,?_,?_,trivial⟩ ?_;exact .f 5;intro j w b hf hv hd hw;have cD:=Sv 72 hv 0;replace b:=Hq b;refine .h λK hK=>?_;go_simp;rw[Pn SE];exact hK ⟨(by rw[bz.o];exact PL Value.string (kq ([109,101,115,115,97,103,101,32]) (M))),b.o,Qe⟩;intro j w b hf hv hd hw;have cE:=Sv 73 hv 1;replace b:=Hq b;refine .h λK hK=>?_;go_simp;rw[Pn SE];exact hK ⟨(by rw[bA.o];exact PL Value.string (kq (ah) ([32,102,114,111,109,32]))),b.o,Qe⟩;exact .f 1;exact .f 2;exact .l 76 4 λ_ b=>jU ((b.B i aa).T P.o) 3 _ rfl;intro j w b hf hv hd hw;have cF:=Sv 75 hv 3;have cG:=Sv 77 hv 5;replace b:=Hq b;refine .c (bw.o w (I.o.T (b.o.M I.o.size))) ?_;rintro e w' ⟨he,hb⟩;subst he;exact⟨_,rfl,⟨rfl,b.o.T (hb.M b.o.size),Qe⟩⟩;intro j w b hf hv hd hw;have cH:=Sv 74 hv 2;have cI:=Sv 78 hv 6;replace b:=Hq b;refine .h λK hK=>?_;go_simp;rw[Pn SE];exact hK ⟨(by rw[bB.o];exact PL Value.string (kq (ai) (aQ))),b.o,Qe⟩;intro j w b hf hv hd hw;have cJ:=Sv 79 hv 7;replace b:=Hq b;refine .h λK hK=>?_;go_simp;rw[Pn SE];exact hK ⟨(by rw[bC.o];exact PL Value.string (kq (aj) ([32]))),b.o,Qe⟩;exact .f 9;intro j w b hf hv hd hw;have cK:=Sv 80 hv 8;have cL:=Sv 81 hv 9;replace b:=Hq b;refine .h λK hK=>?_;go_simp;rw[Pn SE];exact hK ⟨(by rw[bD.o];exact PL Value.string (kq (ak) (U))),b.o,Qe⟩;exact .f 7;exact .f 2;exact .l 84 12 λ_ b=>jU ((b.B i aa).T P.o) 8 _ rfl;intro j w b hf hv hd hw;have cM:=Sv 83 hv 11;have cO:=Sv 85 hv 13;replace b:=Hq b;refine .c (bx.o w (I.o.T (b.o.M I.o.size))) ?_;rintro e w' ⟨he,hb⟩;subst he;exact⟨_,rfl,⟨rfl,b.o.T (hb.M b.o.size),Qe⟩⟩;intro j w b hf hv hd hw;have cP:=Sv 82 hv 10;have cQ:=Sv 86 hv 14;replace b:=Hq b;refine .h λK hK=>?_;go_simp;rw[Pn SE];exact hK ⟨(by rw[bF.o];exact PL Value.string (kq (al) (aS))),b.o,Qe⟩;exact .v 87 15;intro aN bW Q R aO;have T:aN 16=tx bb:=R 16 SF;have aP:=O0 Q;clear R aO Q;simp only[mP,T];clear T;go_wp21;go_ret;refine⟨?_,I.o.T (aP.o.M I.o.size)⟩;exact PL Ending.returned (JW (by unfold told;rw[<-bj.o];simp only[bF.o,bD.o,bC.o,bB.o,bA.o,bz.o,aV.o,ca.o,bY.o,bT.o,bi.o,Py]))
end Go.Proofs.YtjoamapacifofaaGreatDoor
namespace Go.Proofs.YtjoamapacifofaaGreatDoor
open Go.ChangeShapes Go.WideShapes Go.ChangeAt Go.RowKit kT Go.Proofs.Tryz
def qh{H:Type}{enc:TypeId×Value->H}{P:Program}{w:World}{base:Nat}{sp:Nat->Bool}{held:Bool}{a:Nat}{t e:TypeId}{n:Nat}{c:List Value}{zs:List (List UInt8)}{p:List MemPlace}
  (g:P.underlying t=some (.array n e)) (he:P.underlying e=some .string) (hce:P.cellsOf e=1) (j:P.cellsOf t=n)
  (h:DataW.trod enc P w base sp held a t c=some (.agg (zs.map λz=>.lit (.string z)),p)):c=zs.map tx:=by
 cases a with
 |zero=>simp[DataW.trod]at h
 |succ a=>
  simp only[DataW.trod,g,hce,j,PG]at h;split at h
  rename_i q
  obtain⟨xs,hm,hx⟩:=Q3.1 h;have f:xs.map (·.1)=zs.map λz=>(DataW.lit (.string z):DataW H):=by have:=PL Prod.fst hx;simpa using this
  have r:xs.length=n:=(by simpa using Lib.mapM_length hm);have s:zs.length=n:=by have:=PL List.length f;simp at this;omega
  apply RR;intro i;by_cases hi:i<n;obtain⟨b,hb,hf⟩:=Lib.mapM_at hm i i (by simp[hi]);obtain⟨z,hc,rfl,_⟩:=Rw he hf;have k:c[i]?=some (.string z):=by have:=PL (·[0]?) hc;simpa[Ql,QU]using this
  have d:(xs.map (·.1))[i]?=some (DataW.lit (.string z.data.toList):DataW H):=(by simp[hb]);rw[f]at d;simp only[PX,Q3,R9,Lit.string.injEq]at d;obtain⟨u,l,m⟩:=d;rw[k,PX,l,m];rfl;rw[QE SE,QE SK];cases h
def lV:List (String×DataW Unit):=[("math/bits.deBruijn32tab",Rows.laid_math_bits_deBruijn32tab),("math/bits.deBruijn64tab",Rows.laid_math_bits_deBruijn64tab),("internal/strconv.uint64pow10",Rows.laid_internal_strconv_uint64pow10),("rootcause/digest.constants",Rows.laid_rootcause_digest_constants),("rootcause/lexer.words",Rows.laid_rootcause_lexer_words),("rootcause/lexer.symbols",Rows.laid_rootcause_lexer_symbols),("rootcause/syntax.shapes",Rows.laid_rootcause_syntax_shapes),("rootcause/syntax.forms",Rows.laid_rootcause_syntax_forms),("rootcause/code.rows",Rows.laid_rootcause_code_rows)]
def nS{P:Program}{w:World}{n:String}{g:Nat}{b:Array Value}(hg:P.globalNamed n=some g)(h:w.var? P n=some b):∃t a,w.heap[g]?=some (.cells b t a):=by
 unfold World.var? at h;rw[hg]at h;simp only[Option.bind_some]at h;split at h
 rename_i c t a e
 cases h;exact⟨t,a,e⟩;cases h
def Cn:prog.cellsOf 3=1:=SH
def vS:prog.cellsOf 9=1:=SH
def tq{k:Nat}:∀(l:List (List Value)) (i q:Nat),(∀r∈l,r.length=k)->q<k->l.flatten[i*k+q]?=(l[i]?).bind (·[q]?)
 |[],i,q,_,_=>by simp
 |r::l,0,q,h,hq=>by rw[P7,Ro,Pk,PW (by rw[h r (by simp)];exact hq)];rfl
 |r::l,i+1,q,h,hq=>by have hr:=h r SG;rw[P7,P1 (by rw[hr,Q1];omega),hr,show(i+1)*k+q-k=i*k+q by rw[Q1];omega];exact tq l i q (λx hx=>h x (by simp[hx])) hq
section
variable {H:Type} {enc:TypeId×Value→H} {W:World} {base:Nat} {sp:Nat→Bool} {held:Bool}
def NA{k n:Nat}{c:List Value}{b:List (List Value)}(e:0<k)(g:c.length=n*k)(hr:b.length=n)(f:∀r∈b,r.length=k)(h:∀i,i<n->b[i]?=some ((c.drop (i*k)).take k)):c=b.flatten:=by
 apply RR;intro a;have d:a/k*k+a % k=a:=by rw[Nat.mul_comm];exact Nat.div_add_mod a k
 have hm:=Rz a e;have hf:=tq b (a/k) (a % k) f hm;rw[d]at hf;rw[hf];rcases QT (a/k) n with hi|hi;rw[h _ hi,Option.bind_some,QZ hm,QU,d];have j:n*k<=a:=Pj (Qn k hi) SE;rw[QE SE,QE SE];rfl
def sO{b:Type}(xs:List b)(row:b->List Value)(c:b->DataW H){t e}{n k:Nat}(l:0<k)(q:∀x,(row x).length=k)(s:prog.underlying t=some (.array n e))(hce:prog.cellsOf e=k)(u:prog.cellsOf t=n*k)
  (one:∀{f:Nat} {a:List Value} {g:b} {p:List MemPlace},DataW.trod enc prog W base sp held f e a=some (c g,p)->a=row g)
  {f:Nat} {a:List Value} {p:List MemPlace} (h:DataW.trod enc prog W base sp held f t a=some (.agg (xs.map c),p)):a=(xs.map row).flatten:=by
 obtain⟨ys,m,_,v,w,B,y⟩:=R4 s h;have e3:xs.map c=ys.map (·.1):=by have:=PL Prod.fst v;simpa using this
 have z:xs.length=n:=by have:=PL List.length e3;simp at this;omega
 refine NA l (w.T u) (by rw[PY];exact z) (λr hr=>by obtain⟨x,_,rfl⟩:=Qo.1 hr;exact q x) λi hi=>?_;have j:=y i hi;rw[hce,Pg SE]at j;obtain⟨x,hx⟩:∃x,xs[i]?=some x:=Gx SE;have d:=PL (·[i]?) e3;simp only[PX,hx,RD,Pg (show i<ys.length from SE)]at d;have d:=Option.some.inj d;have A:DataW.trod enc prog W base sp held m e ((a.drop (i*k)).take k)=some (c x,ys[i].2):=by rw[j,d]
 rw[PX,hx,RD,<-one A]
def GL:prog.cellsOf 4=1:=SH
def xa:prog.cellsOf 337=4:=SH
def yK:prog.cellsOf 304=6:=SH
def yL:prog.cellsOf 325=4:=SH
def HN:prog.cellsOf 236=1:=SH
def Mp{a:List Value}(h:a.length=6):∃b c1 c2 c3 c4 c5,a=[b,c1,c2,c3,c4,c5]:=by
 match a,h with
 |[b,c1,c2,c3,c4,c5],_=>exact⟨b,c1,c2,c3,c4,c5,rfl⟩
def L4{c:Type}{a:List c}(h:a.length=4):∃b c1 c2 c3,a=[b,c1,c2,c3]:=by
 match a,h with
 |[b,c1,c2,c3],_=>exact⟨b,c1,c2,c3,rfl⟩
def NB{c:Type}{a:List c}(h:a.length=6):∃b c1 c2 c3 c4 c5,a=[b,c1,c2,c3,c4,c5]:=by
 match a,h with
 |[b,c1,c2,c3,c4,c5],_=>exact⟨b,c1,c2,c3,c4,c5,rfl⟩
def Cp(x:Nat×Bool×Nat×List UInt8):DataW H:=.agg [.lit (.int .i64 (x.1:Int)),.lit (.bool x.2.1),.lit (.int .i64 (x.2.2.1:Int)),.lit (.string x.2.2.2)]
def Gk(x:Bool×Bool×Nat×Nat×Bool×Bool):DataW H:=.agg [.lit (.bool x.1),.lit (.bool x.2.1),.lit (.int .i64 (x.2.2.1:Int)),.lit (.int .i64 (x.2.2.2.1:Int)),.lit (.bool x.2.2.2.2.1),.lit (.bool x.2.2.2.2.2)]
def Fz{r:Nat}{k b}{p:List MemPlace}(h:DataW.trod enc prog W base sp held r 337 k=some (Cp b,p)):k=qx b:=by obtain⟨xs,n,_,s,t,hx,hf⟩:=Qy underlying337 h;obtain⟨a,c1,c2,c3,rfl⟩:=Ir (t.T xa);have u:xs.length=4:=hx;obtain⟨v,w,x,y,rfl⟩:=L4 u;have e3:=DataW.agg.inj (Prod.mk.inj s).1;simp only[PF,PS,Qf,Rf]at e3;have c:DataW.trod enc prog W base sp held n 3 (([a,c1,c2,c3].drop 0).take (prog.cellsOf 3))=some v:=hf 0 _ rfl;have d:DataW.trod enc prog W base sp held n 4 (([a,c1,c2,c3].drop 1).take (prog.cellsOf 4))=some w:=hf 1 _ rfl;have e:DataW.trod enc prog W base sp held n 3 (([a,c1,c2,c3].drop 2).take (prog.cellsOf 3))=some x:=hf 2 _ rfl;have f:DataW.trod enc prog W base sp held n 9 (([a,c1,c2,c3].drop 3).take (prog.cellsOf 9))=some y:=hf 3 _ rfl;rw[Cn]at c e;rw[GL]at d;rw[vS]at f;simp only[QQ,Qq,Qi,QR]at c d e f;obtain⟨C,a0,b0,_⟩:=P4 underlying3 c;obtain⟨D,l,z⟩:=Rm underlying4 d;obtain⟨E,m,A,_⟩:=P4 underlying3 e;obtain⟨F,q,B,_⟩:=Rw underlying9 f;simp only[Qf,Rf]at a0 l m q;subst a0 l m q;rw[b0,z,A,B]at e3;obtain⟨g,i,j,e4⟩:=e3;simp only[R9,Lit.int.injEq,Lit.bool.injEq,Lit.string.injEq,true_and]at g i j e4;obtain⟨G,I,J,K⟩:=b;simp only at g i j e4;subst g i j e4;rfl
def HP{w:Nat}{q b}{p:List MemPlace}(h:DataW.trod enc prog W base sp held w 304 q=some (Gk b,p)):q=rN b:=by obtain⟨xs,n,_,x,y,hx,hf⟩:=Qy underlying304 h;obtain⟨a,c1,c2,c3,c4,c5,rfl⟩:=Mp (y.T yK);have z:xs.length=6:=hx;obtain⟨A,B,C,D,E,F,rfl⟩:=NB z;have e3:=DataW.agg.inj (Prod.mk.inj x).1;simp only[PF,PS,Qf,Rf]at e3;have c:DataW.trod enc prog W base sp held n 4 (([a,c1,c2,c3,c4,c5].drop 0).take (prog.cellsOf 4))=some A:=hf 0 _ rfl;have d:DataW.trod enc prog W base sp held n 4 (([a,c1,c2,c3,c4,c5].drop 1).take (prog.cellsOf 4))=some B:=hf 1 _ rfl;have e:DataW.trod enc prog W base sp held n 3 (([a,c1,c2,c3,c4,c5].drop 2).take (prog.cellsOf 3))=some C:=hf 2 _ rfl;have f:DataW.trod enc prog W base sp held n 3 (([a,c1,c2,c3,c4,c5].drop 3).take (prog.cellsOf 3))=some D:=hf 3 _ rfl;have g:DataW.trod enc prog W base sp held n 4 (([a,c1,c2,c3,c4,c5].drop 4).take (prog.cellsOf 4))=some E:=hf 4 _ rfl;have i:DataW.trod enc prog W base sp held n 4 (([a,c1,c2,c3,c4,c5].drop 5).take (prog.cellsOf 4))=some F:=hf 5 _ rfl;rw[Cn]at e f;rw[GL]at c d g i;simp only[QQ,Qq,Qi,QR]at c d e f g i;obtain⟨M,a0,b0⟩:=Rm underlying4 c;obtain⟨N,r,G⟩:=Rm underlying4 d;obtain⟨O,s,I,_⟩:=P4 underlying3 e;obtain⟨P,t,J,_⟩:=P4 underlying3 f;obtain⟨Q,u,K⟩:=Rm underlying4 g;obtain⟨R,v,L⟩:=Rm underlying4 i;simp only[Qf,Rf]at a0 r s t u v;subst a0 r s t u v;rw[b0,G,I,J,K,L]at e3;obtain⟨j,k,l,e4,e5,m⟩:=e3;simp only[R9,Lit.int.injEq,Lit.bool.injEq,true_and]at j k l e4 e5 m;obtain⟨S,T,U,V,X,Y⟩:=b;simp only at j k l e4 e5 m;subst j k l e4 e5 m;rfl
def HQ{k:Nat}{f}{x:DataW H×List MemPlace}(h:DataW.trod enc prog W base sp held k 325 f=some x):∃(t u:ByteArray) (p q:Int),f=[.string t,.string u,.int .i64 p,.int .i64 q]:=by obtain⟨xs,n,_,_,l,hx,hf⟩:=Qy underlying325 h;obtain⟨a,c1,c2,c3,rfl⟩:=Ir (l.T yL);have m:xs.length=4:=hx;obtain⟨r,s,v,w,rfl⟩:=L4 m;have b:DataW.trod enc prog W base sp held n 9 (([a,c1,c2,c3].drop 0).take (prog.cellsOf 9))=some r:=hf 0 _ rfl;have c:DataW.trod enc prog W base sp held n 9 (([a,c1,c2,c3].drop 1).take (prog.cellsOf 9))=some s:=hf 1 _ rfl;have d:DataW.trod enc prog W base sp held n 3 (([a,c1,c2,c3].drop 2).take (prog.cellsOf 3))=some v:=hf 2 _ rfl;have e:DataW.trod enc prog W base sp held n 3 (([a,c1,c2,c3].drop 3).take (prog.cellsOf 3))=some w:=hf 3 _ rfl;rw[Cn]at d e;rw[vS]at b c;simp only[QQ,Qq,Qi,QR]at b c d e;obtain⟨y,a0,_⟩:=Rw underlying9 b;obtain⟨z,g,_⟩:=Rw underlying9 c;obtain⟨A,i,_⟩:=P4 underlying3 d;obtain⟨B,j,_⟩:=P4 underlying3 e;simp only[Qf,Rf]at a0 g i j;subst a0 g i j;exact⟨_,_,_,_,rfl⟩
end
def Iu:prog.globalNamed "rootcause/lexer.words" =some 3:=SH
def L5:prog.globalNamed "rootcause/syntax.shapes" =some 8:=SH
def L6:prog.globalNamed "rootcause/syntax.forms" =some 4:=SH
def L8:prog.globalNamed "rootcause/code.rows" =some 5:=SH
def L9:prog.globalNamed "rootcause/digest.constants" =some 0:=SH
def Ma:(prog.globals[3]?).map (·.type)=some 331:=SH
def NC:(prog.globals[8]?).map (·.type)=some 351:=SH
def ND:(prog.globals[4]?).map (·.type)=some 333:=SH
def NF:(prog.globals[5]?).map (·.type)=some 346:=SH
def NH:(prog.globals[0]?).map (·.type)=some 285:=SH
def Mb:prog.underlying 331=some (.array 39 9):=SH
def NI:prog.underlying 351=some (.array 24 337):=SH
def NJ:prog.underlying 333=some (.array 11 304):=SH
def NL:prog.underlying 346=some (.array 35 325):=SH
def NM:prog.underlying 285=some (.array 64 236):=SH
def Mc:prog.cellsOf 331=39:=SH
def NN:prog.cellsOf 351=24*4:=SH
def NP:prog.cellsOf 333=11*6:=SH
def Bf:(Rows.laid_rootcause_lexer_words:DataW Unit)=.agg (ke.words.map λz=>.lit (.string z)):=SH
def HR:(Rows.laid_rootcause_syntax_shapes:DataW Unit)=.agg (shapes.map Cp):=SH
def HT:(Rows.laid_rootcause_syntax_forms:DataW Unit)=.agg (forms.map Gk):=SH
def sP{W:World}{g:Nat}{a:Array Value}{t:TypeId}{b:Nat×Nat}(h:W.heap[g]?=some (.cells a t b))(i:Nat):W.cell? ⟨g,i,none⟩=a[i]?:=by simp[World.cell?,h]
def HV{W}(h:laidMetH prog lV W):ln W:=by have h:laidMet prog lV W:=h;refine⟨?_,?_,?_⟩;obtain⟨g,t,b,k,p,c,f,i,a⟩:=Lib.laidMet.reads h (n:= "rootcause/lexer.words") (d:=Rows.laid_rootcause_lexer_words) SV;obtain rfl:=Option.some.inj (Iu.symm.T c);obtain rfl:=Option.some.inj (Ma.symm.T f);obtain⟨t,j,e⟩:=nS Iu i;refine⟨t,j,?_⟩;rw[Bf]at a;have hc:=qh (zs:=ke.words) Mb underlying9 vS Mc a;rw[e,show b=og from by unfold og;rw[<-Qw (xs:=b),hc]];obtain⟨g,t,b,k,p,c,f,i,a⟩:=Lib.laidMet.reads h (n:= "rootcause/syntax.shapes") (d:=Rows.laid_rootcause_syntax_shapes) SV;obtain rfl:=Option.some.inj (L5.symm.T c);obtain rfl:=Option.some.inj (NC.symm.T f);obtain⟨t,j,e⟩:=nS L5 i;refine⟨t,j,?_⟩;rw[HR]at a;have hc:=sO shapes qx Cp SF (λ_=>rfl) NI xa NN (λh=>Fz h) a;rw[e,show b=vt from by unfold vt;rw[<-hc]];obtain⟨g,t,b,k,p,c,f,i,a⟩:=Lib.laidMet.reads h (n:= "rootcause/syntax.forms") (d:=Rows.laid_rootcause_syntax_forms) SV;obtain rfl:=Option.some.inj (L6.symm.T c);obtain rfl:=Option.some.inj (ND.symm.T f);obtain⟨t,j,e⟩:=nS L6 i;refine⟨t,j,?_⟩;rw[HT]at a;have hc:=sO forms rN Gk SF (λ_=>rfl) NJ yK NP (λh=>HP h) a;rw[e,show b=yT from by unfold yT;rw[<-hc]]
def HX{W}(h:laidMetH prog lV W):oJ W:=by
 have h:laidMet prog lV W:=h;obtain⟨g,t,x,y,p,j,l,q,r⟩:=Lib.laidMet.reads h (n:= "rootcause/code.rows") (d:=Rows.laid_rootcause_code_rows) SV;obtain rfl:=Option.some.inj (L8.symm.T j);obtain rfl:=Option.some.inj (NF.symm.T l);obtain⟨t,z,e⟩:=nS L8 q;obtain⟨ys,m,_,_,A,B,s⟩:=R4 NL r;refine⟨(O3.1 e).1,λk C=>?_⟩;have b:=s k SE;rw[yL,Pg SE]at b;obtain⟨c,u1,f,i,v⟩:=HQ b;have hc:∀a u,([.string c,.string u1,.int .i64 f,.int .i64 i]:List Value)[a]?=some u->a<4->W.cell? ⟨5,k*4+a,none⟩=some u:=λa u hu w=>by rw[<-v,QZ w,QU]at hu;rw[sP e,<-hu,Sj]
 exact⟨c,u1,f,i,hc 0 _ rfl SF,hc 1 _ rfl SF,hc 2 _ rfl SF,hc 3 _ rfl SF⟩
def HY{W}(h:laidMetH prog lV W):pL W:=by have h:laidMet prog lV W:=h;obtain⟨g,t,r,s,p,b,c,f,i⟩:=Lib.laidMet.reads h (n:= "rootcause/digest.constants") (d:=Rows.laid_rootcause_digest_constants) SV;obtain rfl:=Option.some.inj (L9.symm.T b);obtain rfl:=Option.some.inj (NH.symm.T c);obtain⟨t,u,e⟩:=nS L9 f;obtain⟨ys,m,_,_,v,w,j⟩:=R4 NM i;refine⟨(O3.1 e).1,λk l=>?_⟩;have a:=j k l;rw[HN,Pg SE]at a;obtain⟨z,q,_⟩:=P4 underlying236 a;refine⟨z,?_⟩;have hu:([.int .u32 z]:List Value)[0]?=some (.int .u32 z):=rfl;rw[<-q,QZ SF,QU]at hu;rw[sP e,<-hu,Sj,PG,Pc]
def Md:prog.globalNamed "rootcause/lexer.symbols" =some 2:=SH
def NQ:(prog.globals[2]?).map (·.type)=some 295:=SH
def NR:prog.underlying 295=some (.array 25 9):=SH
def NS:prog.cellsOf 295=25:=SH
def HZ:(Rows.laid_rootcause_lexer_symbols:DataW Unit)=.agg (ke.syms.map λz=>.lit (.string z)):=SH
def H0{W}(h:laidMetH prog lV W):L.Laid W:=by have h:laidMet prog lV W:=h;constructor;obtain⟨g,t,a,k,p,c,f,i,b⟩:=Lib.laidMet.reads h (n:= "rootcause/lexer.words") (d:=Rows.laid_rootcause_lexer_words) SV;obtain rfl:=Option.some.inj (Iu.symm.T c);obtain rfl:=Option.some.inj (Ma.symm.T f);obtain⟨t,j,e⟩:=nS Iu i;refine⟨t,j,?_⟩;rw[Bf]at b;have hc:=qh (zs:=ke.words) Mb underlying9 vS Mc b;rw[e,show a=L.og from by unfold L.og;rw[<-Qw (xs:=a),hc]];obtain⟨g,t,a,k,p,c,f,i,b⟩:=Lib.laidMet.reads h (n:= "rootcause/lexer.symbols") (d:=Rows.laid_rootcause_lexer_symbols) SV;obtain rfl:=Option.some.inj (Md.symm.T c);obtain rfl:=Option.some.inj (NQ.symm.T f);obtain⟨t,j,e⟩:=nS Md i;refine⟨t,j,?_⟩;rw[HZ]at b;have hc:=qh (zs:=ke.syms) NR underlying9 vS NS b;rw[e,show a=L.xN from by unfold L.xN;rw[<-Qw (xs:=a),hc]]
def FA{W}(h:L.Laid W):3+1<=W.heap.size:=by obtain⟨⟨t,a,e⟩,_⟩:=h;have:=(O3.1 e).1;omega
def NT:(prog.globals[1]?).map (·.type)=some 288:=SH
def Ls:prog.cellsOf 129=1:=SH
def H2:prog.cellsOf 288=20:=SH
def FB:prog.underlying 288=some (.array 20 129):=SH
def H3:(Rows.laid_internal_strconv_uint64pow10:DataW Unit)=Lib.tabData .u64 Lib.pow10Tab:=SH
def H4{W}(h:laidMetH prog lV W):qs true W:=by have h:laidMet prog lV W:=h;obtain⟨g,t,b,j,p,c,f,i,a⟩:=Lib.laidMet.reads h (n:= "internal/strconv.uint64pow10") (d:=Rows.laid_internal_strconv_uint64pow10) SV;obtain rfl:=Option.some.inj (se.symm.T c);obtain rfl:=Option.some.inj (NT.symm.T f);obtain⟨t,k,e⟩:=nS se i;rw[H3]at a;have hc:=Lib.cells_of_tab (zs:=Lib.pow10Tab) FB underlying129 Ls H2 a;intro _;unfold Lib.TabIs World.var?;rw[se];simp only[Option.bind_some,e];rw[<-Qw (xs:=b),hc]
def own:ownKnob prog.godebug=none:=SH
def putCells(a:Array Value):Obj->Obj
 | .cells _ t frozen=>.cells a t frozen
 |o=>o
def D9:DataW Unit->List Value
 | .lit (.int k z)=>[Value.int k z]
 | .lit (.string s)=>[.string ⟨s.toArray⟩]
 | .lit (.bool b)=>[.bool b]
 |_=>[undef]
def nZ:DataW Unit->Array Value
 | .agg l=>(l.flatMap λ| .agg m=>m.flatMap D9|x=>D9 x).toArray
 |_=> #[]
noncomputable def qD(a:Os):World:=
 {World.holding prog a ⟨#[],#[],[]⟩with heap:=(((((((((World.holding prog a ⟨#[],#[],[]⟩).heap.modify 6 (putCells (nZ Rows.laid_math_bits_deBruijn32tab))).modify 7 (putCells (nZ Rows.laid_math_bits_deBruijn64tab))).modify 1 (putCells (nZ Rows.laid_internal_strconv_uint64pow10))).modify 0 (putCells (nZ Rows.laid_rootcause_digest_constants))).modify 3 (putCells (nZ Rows.laid_rootcause_lexer_words))).modify 2 (putCells (nZ Rows.laid_rootcause_lexer_symbols))).modify 8 (putCells (nZ Rows.laid_rootcause_syntax_shapes))).modify 4 (putCells (nZ Rows.laid_rootcause_syntax_forms))).modify 5 (putCells (nZ Rows.laid_rootcause_code_rows))}
end Go.Proofs.YtjoamapacifofaaGreatDoor
namespace Go.Proofs.YtjoamapacifofaaGreatDoor
open Go.ChangeShapes Go.WideShapes Go.ChangeAt Go.RowKit kT nu Go.Proofs.Tryz
def uT{a:Type}{R:List Value->a->Prop}{f}{g:Nat->a}:∀(l:List Nat),(∀i∈l,R (f i) (g i))->kJ R (l.map f) (l.map g)
 |[],_=>trivial
 |i::l,h=>⟨h i SG,uT l λb c=>h b (by simp[c])⟩
section
variable {H:Type} {enc:TypeId×Value→H} {W:World} {base:Nat} {sp:Nat→Bool} {held:Bool}
abbrev Low(W:World):Nat->Prop:=λb=>b<W
def qE{α:Type}{R:Rel α}{t e}{k:Nat}(ok:kF R k)(F:prog.underlying t=some (.slice e))(hce:prog.cellsOf e=k)
  (I:∀{s:Nat} {f:List Value} {x:DataW H×List MemPlace},DataW.trod enc prog W base sp held s e f=some x->∃v,R (Low W) W f v)
  {s:Nat} {f:List Value} {x:DataW H×List MemPlace} (h:DataW.trod enc prog W base sp held s t f=some x):
  ∃(A:Option Addr) (ys:List α) (c:Nat),f=[.slice A ys.length c]/\jT R (Low W) W (.slice A ys.length c) ys:=by
 rcases Go.Deep.open_slice F h with⟨rfl,_⟩|⟨a,len,l,m,n,D,Pl,rfl,hb,J,hm,K,_,hx⟩
 .exact⟨none,[],0,rfl,jT.nil _ _ _⟩
 .have V:len<=m:=(by rw[K];split<;>omega);rw[hce]at hx;obtain⟨L,hF⟩:=Go.Deep.choose_lt (α:=Option (List Value×α)) (n:=len) (p:=λi p=>∃q,p=some q/\W.cells? base (a.add (i*k)) k=some q.1/\R (Low W) W q.1 q.2) (λi hi=>by obtain⟨M,w,d⟩:=hx i SE;obtain⟨v,hy⟩:=I d;exact⟨some (M,v),_,rfl,w,hy⟩)
  rcases Qt len with N|hp;subst N;exact⟨some a,[],l,rfl,some a,l,[],rfl,Pb _,by unfold maxLen at hm;omega,tA.nil _ _ _,trivial⟩;obtain⟨O,_,_,_⟩:=hF 0 hp;obtain⟨G,g⟩:∃G:Nat->List Value×α,∀i,i<len->W.cells? base (a.add (i*k)) k=some (G i).1/\R (Low W) W (G i).1 (G i).2:=
   ⟨λi=>(L i).getD O,λi hi=>by obtain⟨q,y,w,d⟩:=hF i hi;simp only[y,Ry];exact⟨w,d⟩⟩
  have C:((List.range len).map λi=>(G i).2).length=len:=SG;have E:=ok.pos;have P:∀r∈(List.range len).map (λi=>(G i).1),r.length=k:=by intro r hr;obtain⟨i,hi,rfl⟩:=Qo.1 hr;exact ok.len (g i (Rq.1 hi)).2
  refine⟨some a,(List.range len).map λi=>(G i).2,l,by rw[C],some a,l,(List.range len).map λi=>(G i).1,rfl,by rw[C];exact J,by unfold maxLen at hm;omega,λX=>?_,uT _ λi hi=>(g i (Rq.1 hi)).2⟩;have hc:∀i,i<len->∀j u,(G i).1[j]?=some u->W.cell? ((a.add (i*k)).add j)=some u:=λi hi j u hu=>by obtain⟨_,Y,d⟩:=World.cells?_some (g i hi).1;have Q:j<k:=(by have:=(Pm.1 hu).1;rw[ok.len (g i hi).2]at this;exact this);rw[d j Q];exact hu
  have S:0<(G 0).1.length:=(by rw[ok.len (g 0 hp).2];exact E);have z:=hc 0 hp 0 _ (Pg S);obtain⟨b,B,T⟩:=a;have U:T=none:=(by simpa[Addr.add]using World.cell?_spot z);subst U;rw[kM,kM]at z;refine⟨b,B,rfl,block_lt_of_cell z,λq u hu=>?_⟩;have y:q/k*k+q % k=q:=(by rw[Nat.mul_comm];exact Nat.div_add_mod q k);have hf:=tq _ (q/k) (q % k) P (Rz _ E);rw[y,hu]at hf;rcases QT (q/k) len with hi|hi;rw[PX,Sr hi]at hf;have d:=hc (q/k) hi (q % k) u hf.symm;rw[kM,kM,show B+q/k*k+q % k=B+q from SE]at d;exact d;rw[QE (by simpa using hi)]at hf;cases hf
def uh:prog.cellsOf 5=1:=SH
def Ea:prog.cellsOf 22=1:=SH
def zm:prog.cellsOf 94=2:=SH
def Bg:prog.cellsOf 75=1:=SH
def Eb:prog.cellsOf 77=4:=SH
def H5:prog.cellsOf 23=1:=SH
def FC:prog.cellsOf 25=3:=SH
def NU{c:Type}{a:List c}(h:a.length=2):∃b c1,a=[b,c1]:=by
 match a,h with
 |[b,c1],_=>exact⟨b,c1,rfl⟩
def yM{b:Nat}{a}{x:DataW H×List MemPlace}(h:DataW.trod enc prog W base sp held b 5 a=some x):∃c,pX (Low W) W a c:=by
 obtain⟨k,rfl,_,d⟩:=P4 underlying5 h;have hb:=bounds_u8 d;refine⟨UInt8.ofNat k.toNat,?_⟩;have e:((UInt8.ofNat k.toNat).toNat:Int)=k:=by rw[UInt8.toNat_ofNat'];omega
 show [Value.int .u8 k]=[.int .u8 _];rw[e]
def vA{c:Nat}{a}{x:DataW H×List MemPlace}(h:DataW.trod enc prog W base sp held c 5 a=some x):∃b:Nat,a=[.int .u8 (b:Int)]/\b<=255:=by obtain⟨k,rfl,_,d⟩:=P4 underlying5 h;have hb:=bounds_u8 d;exact⟨k.toNat,by rw[Int.toNat_of_nonneg hb.1],SE⟩
def yN{i:Nat}{d}{x:DataW H×List MemPlace}(h:DataW.trod enc prog W base sp held i 94 d=some x):∃j,pD (Low W) W d j:=by obtain⟨xs,n,_,_,k,hx,hf⟩:=Qy underlying94 h;obtain⟨e,c1,rfl⟩:=NU (k.T zm);have m:xs.length=2:=hx;have a:DataW.trod enc prog W base sp held n 5 (([e,c1].drop 0).take (prog.cellsOf 5))=xs[0]?:=hf 0 _ rfl;rw[uh,Pg SE]at a;have b:DataW.trod enc prog W base sp held n 22 (([e,c1].drop 1).take (prog.cellsOf 22))=xs[1]?:=hf 1 _ rfl;rw[Ea,Pg SE]at b;simp only[QQ,Qq,Qi,QR]at a b;obtain⟨p,f,_⟩:=vA a;obtain⟨A,ys,c,g,l⟩:=qE pX.ok underlying22 uh (λh=>yM h) b;simp only[Qf,Rf]at f g;subst f g;exact⟨⟨p,ys⟩,_,rfl,l⟩
def FD{k:Nat}{f}{x:DataW H×List MemPlace}(h:DataW.trod enc prog W base sp held k 77 f=some x):∃l,tv (Low W) W f l:=by obtain⟨xs,n,_,_,m,hx,hf⟩:=Qy underlying77 h;obtain⟨a,c1,c2,c3,rfl⟩:=Ir (m.T Eb);have v:xs.length=4:=hx;have b:DataW.trod enc prog W base sp held n 5 (([a,c1,c2,c3].drop 0).take (prog.cellsOf 5))=xs[0]?:=hf 0 _ rfl;rw[uh,Pg SE]at b;have c:DataW.trod enc prog W base sp held n 5 (([a,c1,c2,c3].drop 1).take (prog.cellsOf 5))=xs[1]?:=hf 1 _ rfl;rw[uh,Pg SE]at c;have d:DataW.trod enc prog W base sp held n 75 (([a,c1,c2,c3].drop 2).take (prog.cellsOf 75))=xs[2]?:=hf 2 _ rfl;rw[Bg,Pg SE]at d;have e:DataW.trod enc prog W base sp held n 75 (([a,c1,c2,c3].drop 3).take (prog.cellsOf 75))=xs[3]?:=hf 3 _ rfl;rw[Bg,Pg SE]at e;simp only[QQ,Qq,Qi,QR]at b c d e;obtain⟨p,g,_⟩:=vA b;obtain⟨q,i,_⟩:=vA c;obtain⟨w,r,y,j,s⟩:=qE pD.ok underlying75 zm (λh=>yN h) d;obtain⟨z,t,A,e3,u⟩:=qE pD.ok underlying75 zm (λh=>yN h) e;simp only[Qf,Rf]at g i j e3;subst g i j e3;exact⟨⟨p,q,r,t⟩,_,_,rfl,s,u⟩
def FE{r:Reach}{b0:Nat}{v:Value}{d:DataW H}{p:List MemPlace}(hv:Value.okWide prog W r b0 25 v)(h:DataW.Trod enc prog W base sp held 25 v d p):
  ∃(a:Nat) (Al:Option Addr) (b:List UInt8) (j:Nat) (k:Option Addr) (c:List Pt) (l:Nat),v=.agg #[.int .u8 (a:Int),.slice Al b.length j,.slice k c.length l]/\jT pX (Low W) W (.slice Al b.length j) b/\jT tv (Low W) W (.slice k c.length l) c:=by
 obtain⟨m,rfl,_⟩:=okWide_struct underlying25 hv;obtain⟨w,x⟩:=h;have y:DataW.trod enc prog W base sp held w 25 m.toList=some (d,p):=x;obtain⟨xs,n,_,_,z,hx,hf⟩:=Qy underlying25 y;obtain⟨e,c1,c2,q⟩:=L3 (z.T FC);rw[q]at hf;have J:xs.length=3:=hx;have f:DataW.trod enc prog W base sp held n 5 (([e,c1,c2].drop 0).take (prog.cellsOf 5))=xs[0]?:=hf 0 _ rfl;rw[uh,Pg SE]at f;have g:DataW.trod enc prog W base sp held n 22 (([e,c1,c2].drop 1).take (prog.cellsOf 22))=xs[1]?:=hf 1 _ rfl;rw[Ea,Pg SE]at g;have i:DataW.trod enc prog W base sp held n 23 (([e,c1,c2].drop 2).take (prog.cellsOf 23))=xs[2]?:=hf 2 _ rfl;rw[H5,Pg SE]at i;simp only[QQ,Qq,Qi,QR]at f g i;obtain⟨a,s,_⟩:=vA f;obtain⟨A,B,C,t,D⟩:=qE pX.ok underlying22 uh (λh=>yM h) g;obtain⟨E,F,G,u,I⟩:=qE tv.ok underlying23 Eb (λh=>FD h) i;simp only[Qf,Rf]at s t u;subst s t u;refine⟨a,A,B,C,E,F,G,?_,D,I⟩;rw[<-Qw (xs:=m),q]
def Me:Rel Int:=λS w r x=>nw S w r x/\xu x
def Me.ok:kF Me 1:=
 ⟨nw.ok.pos,λh=>nw.ok.len h.1,λh=>nw.ok.one h.1,λh a=>⟨nw.ok.M h.1 a,h.2⟩,λh b=>⟨nw.ok.jP h.1 b,h.2⟩⟩
def FH{r:Reach}{b0:Nat}{v:Value}{d:DataW H}{p:List MemPlace}(hv:Value.okWide prog W r b0 28 v)(h:DataW.Trod enc prog W base sp held 28 v d p):
  ∃k a b n:Int,v=.agg #[.int .u8 k,a,b,n]/\xu n:=by
 obtain⟨j,rfl,_⟩:=okWide_struct underlying28 hv;obtain⟨y,z⟩:=h;have A:DataW.trod enc prog W base sp held y 28 j.toList=some (d,p):=z;obtain⟨xs,n,_,_,B,hx,hf⟩:=Qy underlying28 A;obtain⟨c,c1,c2,c3,l⟩:=Ir (B.T (show prog.cellsOf 28=4 from SH));rw[l]at hf;have D:xs.length=4:=hx;have e:DataW.trod enc prog W base sp held n 26 (([c,c1,c2,c3].drop 0).take (prog.cellsOf 26))=xs[0]?:=hf 0 _ rfl;rw[show prog.cellsOf 26=1 from SH,Pg SE]at e;have f:DataW.trod enc prog W base sp held n 3 (([c,c1,c2,c3].drop 1).take (prog.cellsOf 3))=xs[1]?:=hf 1 _ rfl;rw[show prog.cellsOf 3=1 from SH,Pg SE]at f;have g:DataW.trod enc prog W base sp held n 3 (([c,c1,c2,c3].drop 2).take (prog.cellsOf 3))=xs[2]?:=hf 2 _ rfl;rw[show prog.cellsOf 3=1 from SH,Pg SE]at g;have i:DataW.trod enc prog W base sp held n 3 (([c,c1,c2,c3].drop 3).take (prog.cellsOf 3))=xs[3]?:=hf 3 _ rfl;rw[show prog.cellsOf 3=1 from SH,Pg SE]at i;simp only[QQ,Qq,Qi,QR]at e f g i;obtain⟨m,q,_,w0⟩:=P4 underlying26 e;obtain⟨s,t,_,E⟩:=P4 underlying3 f;obtain⟨u,w,_,F⟩:=P4 underlying3 g;obtain⟨x,e3,_,C⟩:=P4 underlying3 i;simp only[Qf,Rf]at q t w e3;subst q t w e3;obtain rfl:j=#[.int .u8 m,.int .i64 s,.int .i64 u,.int .i64 x]:=by apply Array.ext';rw[l]
 exact⟨m,s,u,x,rfl,bounds_i64 C⟩
def FI{r:Reach}{b0:Nat}{v:Value}{d:DataW H}{p:List MemPlace}(hv:Value.okWide prog W r b0 30 v)(h:DataW.Trod enc prog W base sp held 30 v d p):
  ∃a b n:Int,v=.agg #[.int .i64 a,b,n]/\xu n:=by
 obtain⟨i,rfl,_⟩:=okWide_struct underlying30 hv;obtain⟨u,w⟩:=h;have x:DataW.trod enc prog W base sp held u 30 i.toList=some (d,p):=w;obtain⟨xs,n,_,_,y,hx,hf⟩:=Qy underlying30 x;obtain⟨c,c1,c2,j⟩:=L3 (y.T (show prog.cellsOf 30=3 from SH));rw[j]at hf;have A:xs.length=3:=hx;have e:DataW.trod enc prog W base sp held n 3 (([c,c1,c2].drop 0).take (prog.cellsOf 3))=xs[0]?:=hf 0 _ rfl;rw[show prog.cellsOf 3=1 from SH,Pg SE]at e;have f:DataW.trod enc prog W base sp held n 3 (([c,c1,c2].drop 1).take (prog.cellsOf 3))=xs[1]?:=hf 1 _ rfl;rw[show prog.cellsOf 3=1 from SH,Pg SE]at f;have g:DataW.trod enc prog W base sp held n 3 (([c,c1,c2].drop 2).take (prog.cellsOf 3))=xs[2]?:=hf 2 _ rfl;rw[show prog.cellsOf 3=1 from SH,Pg SE]at g;simp only[QQ,Qq,Qi,QR]at e f g;obtain⟨k,l,_,w0⟩:=P4 underlying3 e;obtain⟨m,q,_,B⟩:=P4 underlying3 f;obtain⟨s,t,_,z⟩:=P4 underlying3 g;simp only[Qf,Rf]at l q t;subst l q t;obtain rfl:i=#[.int .i64 k,.int .i64 m,.int .i64 s]:=by apply Array.ext';rw[j]
 exact⟨k,m,s,rfl,bounds_i64 z⟩
end
end Go.Proofs.YtjoamapacifofaaGreatDoor
namespace Go.Proofs.YtjoamapacifofaaGreatDoor
open RowKit Go.Proofs.Tryz kT Maps nu pG ChangeShapes WideShapes ChangeAt
def narrateKeys.reads(a:Os){H:Type}(enc:TypeId×Value->H):∃b c,DataW.whole enc prog ((qD a).forCall (λ_ _=>0) ⟨#[],#[.agg #[.int .u8 0,.slice none 0 0,.slice none 0 0],.agg #[.int .u8 0,.int .i64 0,.int .i64 0,.int .i64 0],.agg #[.int .i64 0,.int .i64 0,.int .i64 0]],[]⟩).memory Tryz.f3.params.toList Rows.narrateKeysSpec.vars false (#[.agg #[.int .u8 0,.slice none 0 0,.slice none 0 0],.agg #[.int .u8 0,.int .i64 0,.int .i64 0,.int .i64 0],.agg #[.int .i64 0,.int .i64 0,.int .i64 0]]:Array Value).toList 8=some (b,[],c):=by
 have h:(match DataW.whole enc prog ((qD a).forCall (λ_ _=>0) ⟨#[],#[.agg #[.int .u8 0,.slice none 0 0,.slice none 0 0],.agg #[.int .u8 0,.int .i64 0,.int .i64 0,.int .i64 0],.agg #[.int .i64 0,.int .i64 0,.int .i64 0]],[]⟩).memory Tryz.f3.params.toList Rows.narrateKeysSpec.vars false (#[.agg #[.int .u8 0,.slice none 0 0,.slice none 0 0],.agg #[.int .u8 0,.int .i64 0,.int .i64 0,.int .i64 0],.agg #[.int .i64 0,.int .i64 0,.int .i64 0]]:Array Value).toList 8 with|some (_,[],_)=>true|_=>false)=true:=by kernel_rfl
 split at h;exact⟨_,_,by assumption⟩;cases h
def narrateKeys.H9(a:Os):(((qD a).forCall (λ_ _=>0) ⟨#[],#[.agg #[.int .u8 0,.slice none 0 0,.slice none 0 0],.agg #[.int .u8 0,.int .i64 0,.int .i64 0,.int .i64 0],.agg #[.int .i64 0,.int .i64 0,.int .i64 0]],[]⟩)).variablesB Tryz.checked.prog=true:=by kernel_rfl
