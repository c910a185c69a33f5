import Derived.Test.YtidmdcckbdmblaaGreatDoorZ19
import Derived.Test.YtidmdcckbdmblaaGreatDoorZ20
import Derived.Test.YtidmdcckbdmblaaGreatDoorZ21
import Derived.Test.YtidmdcckbdmblaaGreatDoorZ22
set_option maxRecDepth 1000000
set_option maxHeartbeats 32000000
set_option linter.all false
namespace Go.Proofs.YtidmdcckbdmblaaGreatDoor
open Go.RowKit jJ Go.Proofs.Tryz
theorem E0(m)(n c:Nat)(w)(hp:0<n->∃p o,m=some ⟨p,o,none⟩/\p<w.heap.size/\∀f,f<n->∃x:Int,w.cell? ⟨p,o+f,none⟩=some (.int .u8 x))(hc:n<=c)(hn:n<=140737488355328)(y:ov w):
  Calls prog 63 #[.slice m n c] w (CW w):=by
 have V:=JH y;have W:=y.lt;have X:=JH hp;have r:=JH (show Below w w (w.alloc (.cells pC 167))from Ba w _);have F:=JH (show mC 167 (w.alloc (.cells pC 167)) w 32 from mC.zero (JK _ _));have G:=JH (show(w.alloc (.cells pC 167)).heap.size=w+1 from LG);clear y hp
 go_enter func63,ntmps63
 go_upto_region 1 with fail;generalize(w.alloc (.cells pC 167))=I at*;obtain⟨a,z⟩:=Xq w.heap.size;rw[<-z]at F W⊢;have s:=JH z;clear z;go_wp2_with fail;refine(Dw I).M ?_;rintro e J ⟨rfl,t,b⟩;have hz:=G.o;have A:=s.o;obtain⟨g,K⟩:=Xq I.heap.size;rw[<-K]at t b⊢;have Y:a<g:=LC
 have Z:=JH t;have B:=JH b;have ao:=t.lt;have C:=JH (V.o.iV ((b.B _ LC).T (r.o.B _ LC)) (LB r.o.size b.size));have aa:=JH (show Ct g J m n from λab=>by obtain⟨p,o,e,ap,ac⟩:=X.o ab;refine⟨p,o,e,LC,LC,λf ad=>?_⟩;obtain⟨x,hx⟩:=ac f ad;exact⟨x,(Cb p (o+f) ((b.B p LC).T (r.o.B p LC))).T hx⟩)
 clear t b K hz A;go_wp2_with fail;refine(sV g n c m J Z.o C.o LC aa.o hc hn).M ?_;rintro e D ⟨rfl,L,j⟩;have ae:=JH L;have d:=JH j;have aq:=j.size;have M:=JH (C.o.iV (j.B _ C.o.lt (λe=>by injection e;omega)) j.size);clear L j;have af:(3:Nat)<D:=M.o.lt;go_wp2_with fail;refine(Dx g D ae.o M.o af).M ?_;rintro e N ⟨⟨k,rfl,O,E⟩,P⟩;have Q:=JH P;have u:=JH (And.intro O E);have R:=JH (show Below a w N from by have A:=s.o;have hz:=G.o;have ag:=r.o.T (B.o.M (show w<=g from LC));have S:Below w w D:=ag.T ⟨d.o.os,d.o.tape,d.o.output,d.o.size,λq ah=>d.o.B q (LA B.o.size) (λe=>by injection e;omega)⟩;rw[A];exact S.T (Q.o.M (LA S.size)))
 have T:=JH (F.o.iV ((Q.o.B a LC).T ((d.o.B a LC (λe=>by injection e;omega)).T (B.o.B a Y))));obtain⟨ai,U,aj,_⟩:=T.o;have ak:=JH U;have al:mC 167 N a 32:=T.o;have am:=JH (show k.all (·.oneCell')=true from Array.all_eq_true.2 λi hi=>by obtain⟨x,hx⟩:=E i LC;rw[J4]at hx;rw[(JJ.1 hx).2];rfl)
 clear P U al O E;go_wp2_with (refine lX rfl _ _ _ rfl a ai k _ rfl rfl ak.o (by rw[aj,u.o.1]) (by rw[u.o.1];exact rL) am.o ?_;intro ar an l au);refine JZ (v:=.agg k) (sW _ _ _ a k Tryz.results63 rfl an u.o.1) rfl ⟨⟨k,rfl,u.o⟩,?_⟩;rw[<-s.o];exact R.o.T ⟨l.os,l.tape,l.output,l.size,λq ah=>l.B q (LB R.o.size s.o) (λe=>by injection e;omega)⟩
theorem Gu(r w c)(d c1:Nat)(f)(g c2:Nat)(i)(j c3:Nat)(x)(hL:jV w)(hR:na w)(F:ov w)(hf:nE r w c d c1 f g c2 i j c3 x)(R:kr x)(S:G4 x)(T:Ha x)(U:∀am∈x.jh,Hb am):
  Calls prog 22 #[.agg #[tx x.name,.slice c d c1,.slice f g c2,.slice i j c3]] w (Gs x w):=by
 have G:=hL.low;have I:=hR.lt;have J:=F.lt;have k:=Ba w (.cells #[tx x.name,.slice c d c1,.slice f g c2,.slice i j c3] 84);have V:=JH k;have K:=JH (JK w (.cells #[tx x.name,.slice c d c1,.slice f g c2,.slice i j c3] 84));have W:=JH (hf.iU k);have L:=JH (hL.iU k G);have an:=JH (hR.iV (k.B _ I) k.size);have X:=JH (F.iV (k.B _ J) k.size);have Y:=JH (show(w.alloc (.cells #[tx x.name,.slice c d c1,.slice f g c2,.slice i j c3] 84)).heap.size=w+1 from LG);have M:=JH R;have ao:=JH S;have ap:=JH T;have aq:=JH U;have aW:=JH (And.intro G (And.intro I J));clear hL hR F hf R S T U k G I J
 go_enter func22,ntmps22
 go_upto_region 1 with fail;generalize w.alloc (.cells #[tx x.name,.slice c d c1,.slice f g c2,.slice i j c3] 84)=Z at*;obtain⟨l,N⟩:=Xq w.heap.size;rw[<-N]at K Y V⊢;have ar:=JH N;have au:l<Z:=LA Y.o
 clear N;obtain⟨⟨t,u,v,y⟩,_⟩:=oF K.o;go_wp2_with fail;refine(xK r Z c d c1 f g c2 i j c3 x L.o an.o W.o M.o ao.o ap.o).M ?_;rintro e A ⟨pb,rfl,m,aX,aa⟩;have av:=JH m;have aw:=JH aa;have ax:=m.size;have O:=JH (W.o.iU m);have ay:=JH (L.o.iU m L.o.low);have ab:=JH (X.o.iV (m.B _ X.o.lt) ax);have ac:=JH ((m.B l au).T K.o);clear m aa t u v y;obtain⟨⟨t,u,v,y⟩,_⟩:=oF ac.o;have az:l<A:=LC
 go_wp2_with fail;refine(BL r A c d c1 f g c2 i j c3 x ay.o O.o M.o aq.o).M ?_;rintro e ad ⟨s,rfl,aY,p⟩;have ae:=JH p;have aA:=p.size;have aB:=JH (O.o.iU p);have af:=JH (ab.o.iV (p.B _ ab.o.lt) aA);have aC:=JH ((p.B l az).T ac.o);clear p t u v y;obtain⟨⟨t,u,v,y⟩,_⟩:=oF aC.o;have aZ:l<ad:=LC
 go_wp2_with fail;refine(Du r ad c d c1 f g c2 i j c3 x aB.o M.o).M ?_;rintro e b ⟨aD,aE,aF,aG,aH,aI,aJ,aK,aL,rfl,ag,B⟩;have ah:=JH B;have aM:=B.size;have aN:=JH ag;have ai:=JH (af.o.iV (B.B _ af.o.lt) aM);clear B ag t u v y;have hcv:=Lib.run_convert_string_bytes (P:=prog) b 9 22 5 s underlying9 underlying22 underlying5;have C:=JH (xP b 5 s);have aO:=JH (show∀D,D<s.size->∃x:Int,(Lib.bytesWorld b 5 s).cell? ⟨b,0+D,none⟩=some (.int .u8 x)from λD aP=>⟨_,by rw[J4];exact Lib.bytesWorld_cell b 5 s D aP⟩);have aQ:=JH (Lib.bytesWorld_size b 5 s);generalize Lib.bytesWorld b 5 s=aR at*;go_wp2_with fail;refine(E0 (some ⟨b,0,none⟩) s.size _ aR (λ_=>⟨_,_,rfl,LA aQ.o,aO.o⟩) (grownCap_ge _ _ _ _) LC (ai.o.iV (C.o.B _ ai.o.lt) C.o.size)).M ?_;rintro e n ⟨⟨ba,rfl,aj,ak⟩,Q⟩;obtain⟨z,rfl⟩:=Gr aj ak;have bb:=JH Q;have E:=JH (show Below b b n from C.o.T (Q.M C.o.size));clear Q aj ak hcv;go_wp2_with fail
 go_ret2
 have bc:=E.o.size;have aS:Below l w b:=((V.o.T (av.o.M LC)).T (ae.o.M LC)).T (ah.o.M LC);have aT:Below l w n:=aS.T (E.o.M LC);have he:=ar.o;refine⟨n,rfl,⟨LG,λq=>(r q\/l<=q)/\q<n,aD,aE,aF,aG,aH,aI,aJ,aK,aL,pb,iT (JK _ _) 0 _ rfl,iT (JK _ _) 1 _ rfl,iT (JK _ _) 2 _ rfl,iT (JK _ _) 3 _ rfl,iT (JK _ _) 37 _ rfl,?_,?_,LJ⟩,?_,LC⟩
 .have aU:=aN.o.iU (E.o);exact(aU.iU (Ba n _)).M (λq a=>⟨.inr (LA a.1),LA a.2⟩) (λq a=>LJ)
 .have aV:∀(o:Obj) (q:Nat),q<A->(n.alloc o).heap[q]?=A.heap[q]?:=λo q a=>(JY n o LC).T ((E.o.B q LC).T ((ah.o.B q LC).T (ae.o.B q a)));have al:=O.o.jY;refine(aw.o.iV (λq a=>aV _ q (by rcases a with(a|a)|a;exact al q a;exact a.2;omega))).M (λq a=>?_);rcases a with a|a;exact⟨.inl a,LA (al q a)⟩;exact⟨.inr LC,LC⟩
 .rw[<-he];exact aT.alloc LC _
end Go.Proofs.YtidmdcckbdmblaaGreatDoor
namespace Go.Proofs.YtidmdcckbdmblaaGreatDoor
open Go.RowKit jJ nw Go.Proofs.Tryz
theorem HL{s:ByteArray}{w':World}{lo pb:Nat}{v:Value}(h:qd w' pb s.size v)(hr:w'.ownsRow lo 305 3 v (jg.lexB s).length (wz (jg.lexB s)))(D:pb<lo)(n:(jg.lexB s).length<=20000)(p:0<(jg.lexB s).length):
  kd (jg.lexB s) ⟨Em,Nl,Nl,Nl,w'⟩ w' pb 0:=by
 have i:=yF hr;obtain⟨q,c,rfl,hc,E⟩:=i.form;have t:=i.sl nG.ok;have u:=i.ge;obtain⟨F,G⟩:∃x,(jg.lexB s)[0]?=some x:=Gx p;have w:∃d,q=some ⟨d,0,none⟩:=by
  rcases hr.2 with⟨a,_⟩|⟨g,I,J,a,_⟩
  injection a with a y;omega;injection a with a y;exact⟨g,a⟩
 obtain⟨d,rfl⟩:=w;have z:=u d rfl;refine⟨⟨d,c,s.size,h,hc,LC,z.2,λk x hx=>?_⟩,⟨n,JV _⟩,(JJ.1 h).1,JS _⟩;obtain⟨b,o,r,e,_,A,f⟩:=t.jr nG.ok k x hx;injection e with e;injection e with B C;subst B C;rw[show r=tR x from A]at f;have j:=f 0 _ rfl;have l:=f 1 _ rfl;have m:=f 2 _ rfl;rw[J4]at j l m;exact⟨j,l,m⟩
end Go.Proofs.YtidmdcckbdmblaaGreatDoor
namespace Go.Proofs.YtidmdcckbdmblaaGreatDoor
open Go.RowKit jJ mX nw Go.Proofs.Tryz
theorem IK(w:World):Sem.run prog (binOp BinOp.eql 9 (tx CJ) (.string ⟨#[116,52,32,98,97,99,107,58,32,109,101,115,115,97,103,101,32,48,32,102,114,111,109,32,102,114,111,110,116,32,103,101,116,40,49,44,32,55,41]⟩)) w=.ok (.bool true) w:=LF
theorem IL(w:World):Sem.run prog (binOp BinOp.eql 9 (tx Aj) (.string ⟨#[116,52,32,111,112,101,114,97,116,111,114,58,32,102,108,97,103,32,115,108,111,119,32,61,32,116,114,117,101,32,40,99,104,111,105,99,101,32,48,41]⟩)) w=.ok (.bool true) w:=LF
end Go.Proofs.YtidmdcckbdmblaaGreatDoor
namespace Go.Proofs.YtidmdcckbdmblaaGreatDoor.narrateNil
open Go.ChangeShapes Go.WideShapes Go.ChangeAt Go.RowKit Go.Proofs.Tryz
theorem plain(f:FuncId)(fn:Func)(hf:Tryz.pinned.checked.prog.funcNamed "rootcause/rootcauselaw52.NarrateNil" =some f)(c:Tryz.pinned.checked.prog.funcs[f]?=some fn):
  true=Tryz.pinned.checked.prog.looks []/\∀(b:Nat) t,fn.params[b]?=some t->Tryz.pinned.checked.prog.wantsStandIn t=false:=by
 obtain rfl:f=7:=Option.some.inj ((show prog.funcNamed "rootcause/rootcauselaw52.NarrateNil" =some 7 by kernel_rfl).symm.trans hf)|>.symm;obtain rfl:fn=Tryz.f7:=(Option.some.inj (func7.symm.trans c)).symm;refine⟨Fj,λb t a=>?_⟩;rw[params7]at a;have hm:t∈[29,44,46]:=by simpa using Array.mem_of_getElem? a
 have d:∀t∈[29,44,46],prog.wantsStandIn t=false:=by have h:([29,44,46].all λt=>!prog.wantsStandIn t)=true:=(by kernel_rfl);intro t a;simpa using KT.1 h t a
 exact d t hm
end Go.Proofs.YtidmdcckbdmblaaGreatDoor.narrateNil
