import Derived.Test.YtfemcncookpdhaaGreatDoorZ17
import Derived.Test.YtfemcncookpdhaaGreatDoorZ18
import Derived.Test.YtfemcncookpdhaaGreatDoorZ20
set_option maxRecDepth 1000000
set_option maxHeartbeats 32000000
set_option linter.all false
namespace Go.Proofs.YtfemcncookpdhaaGreatDoor
open Go.RowKit lX Go.Proofs.Tryz
theorem ye(d:Nat)(aP:JE d):JE (d+1):=by
 intro S w r x h hS ay;obtain⟨bF,bG,bH,rfl,he,ap,aq⟩:=h;obtain⟨J,c1,rfl,_⟩:=he.form;obtain⟨L,c4,rfl,_⟩:=ap.form;obtain⟨M,c5,rfl,_⟩:=aq.form;have aQ:=ay.five;obtain⟨_,az,⟨aR,aS⟩,aA,aB⟩:=ay;have aT:=az;have aU:=aA;have aV:=aB;have aC:=aP;obtain⟨N,aD⟩:=Xq x.kV.length;obtain⟨O,aE⟩:=Xq x.th.length;obtain⟨P,aF⟩:=Xq x.el.length;rw[<-aD]at he aQ⊢;rw[<-aE]at ap aR⊢;rw[<-aF]at aq aS⊢;clear aD aE aF az aA aB;have aW:=hS;have ae:=(Ba w (.cells #[.int .u8 x.kind,tx x.name,tx x.hd,.slice J N c1,.slice L O c4,.slice M P c5] 185)|>.alloc PK (.cells #[.int .u8 0,Em,Em,Nl,Nl,Nl] 185))
 have aG:=NA ((N6 (w.alloc (.cells #[.int .u8 x.kind,tx x.name,tx x.hd,.slice J N c1,.slice L O c4,.slice M P c5] 185)) (.cells #[.int .u8 0,Em,Em,Nl,Nl,Nl] 185) (r:=w.heap.size) PK).T (NF w (.cells #[.int .u8 x.kind,tx x.name,tx x.hd,.slice J N c1,.slice L O c4,.slice M P c5] 185)));have ar:=NA (NF (w.alloc (.cells #[.int .u8 x.kind,tx x.name,tx x.hd,.slice J N c1,.slice L O c4,.slice M P c5] 185)) (.cells #[.int .u8 0,Em,Em,Nl,Nl,Nl] 185));have aX:=NA (show((w.alloc (.cells #[.int .u8 x.kind,tx x.name,tx x.hd,.slice J N c1,.slice L O c4,.slice M P c5] 185)).alloc (.cells #[.int .u8 0,Em,Em,Nl,Nl,Nl] 185)).heap.size=w+2 from PK);have aY:=(he.kg (kz.ok .u8 De) (λq s=>ae.B q (hS q s)))
 have aZ:=(ap.kg (kE.ok .u8 d) (λq s=>ae.B q (hS q s)))
 have ba:=(aq.kg (kE.ok .u8 d) (λq s=>ae.B q (hS q s)))
 rw[NB]at ar;clear hS
 go_enter func99,ntmps99
 go_upto_region 1 with fail;generalize((w.alloc (.cells #[.int .u8 x.kind,tx x.name,tx x.hd,.slice J N c1,.slice L O c4,.slice M P c5] 185)).alloc (.cells #[.int .u8 0,Em,Em,Nl,Nl,Nl] 185))=G at*;have bb:=aX.o;obtain⟨y,au⟩:=Xq w.heap.size;rw[<-au]at aG ar ae bb⊢;have aH:=NA au;clear au;have bc:y<G:=PJ
 have bd:y+1<G:=PJ
 have R:∀q,S q->q<y:=λq s=>PI (aW q s) aH.o
 have be:zb d G y (.int .u8 x.kind) (tx x.name) (tx x.hd) (.slice J N c1) (.slice L O c4) (.slice M P c5) x false false false G:=⟨nG.refl _ _,bc,_,_,_,aG.o,λ_=>rfl,λh=>by simp at h,λ_=>rfl,λh=>by simp at h,λ_=>rfl,λh=>by simp at h⟩
 refine oG (λt z=>zb d G y (.int .u8 x.kind) (tx x.name) (tx x.hd) (.slice J N c1) (.slice L O c4) (.slice M P c5) x (t 10) (t 12) (t 14) z) (mG [(Pp y 3),(·=.slice J N c1),Tr,(Pp y 4),(·=.slice L O c4),Tr,(Pp y 5),(·=.slice M P c5),Tr,(Pp y 3),Tr,(Pp y 4),Tr,(Pp y 5),Tr]) [(2,λv w=>∃(f:Option Addr),∃(n c:Nat),v=.slice f n c/\km (kz .u8 De) (Nw G w) w (.slice f n c) x.kV),(5,λv w=>∃(f:Option Addr),∃(n c:Nat),v=.slice f n c/\km (kE .u8 d) (Nw G w) w (.slice f n c) x.th),(8,λv w=>∃(f:Option Addr),∃(n c:Nat),v=.slice f n c/\km (kE .u8 d) (Nw G w) w (.slice f n c) x.el)] PL PL 16 rfl PL (be.kh ((Below.refl _ _).drew)) ⟨?_,?_,?_,?_,?_,?_,?_,?_,?_,?_,?_,?_,?_,?_,?_,trivial⟩ ?_;intro t A w C E i j hf l hd hw;have af:t 10=false:=i 10 PL;have Q:=mn (show A.eval (.tmp 1)=.pointer (some ⟨y,0,none⟩)from hf 1 rfl);clear hf l hd hw E i C;refine kt.mS λK hK=>?_;unfold kt;go_simp;exact hK _ _ ⟨rfl,j,Q2<|Qb<|Qe⟩;intro t A w C E i j hf l hd hw;have af:t 10=false:=i 10 PL;have e3:=mn (show A.eval (.tmp 3)=.pointer (some ⟨y,3,none⟩)from l 0 _ rfl rfl);clear hf l hd hw E i C;obtain⟨a,b,c,D,Q,_,V,_,e3,_⟩:=j.r;have e4:=Q af;subst e4;have g:=kf D 3 _ rfl;clear D Q V e3;have p:=j;refine kt.mS λK hK=>?_;unfold kt;go_simp;exact hK _ _ ⟨rfl,p,Q2<|Qb<|Qe⟩;intro t A w C E i j hf l hd hw;have af:t 10=false:=i 10 PL;have e4:=mn (show A.eval (.tmp 4)=.slice J N c1 from l 1 _ rfl rfl);clear hf l hd hw E i C;have aI:=j.g.size;have aJ:=j.l;have p:=j;refine kt.mS λK hK=>?_;unfold kt;go_simp;refine⟨rfl,?_⟩;refine Calls.M (xj De S w J N c1 x.kV (aY.kg (kz.ok .u8 De) (p.ln R)) PJ (λq s=>PI (R q s) p.g.size) (λT hy ag r F hr=>uq De S ag r T hr (λq s=>by have:=R q s;have:=F.size;have:=p.g.size;omega) (aT T hy))) ?_;rintro e w' ⟨ah,ai,F⟩;subst ah;exact⟨_,rfl,hK _ _ ⟨trivial,p.kh F,Qc ⟨_,_,_,rfl,wu (kz.ok .u8 De) (PH p.g.size) ai⟩<|Qd (λu ⟨f,n,c,e,hr⟩=>⟨f,n,c,e,nR (kE.ok .u8 d) (NK.kh (w0:=G) F) hr⟩)<|Qd (λu ⟨f,n,c,e,hr⟩=>⟨f,n,c,e,nR (kE.ok .u8 d) (NK.kh (w0:=G) F) hr⟩)<|Qe⟩⟩;intro t A w C E i j hf l hd hw;have aj:t 12=false:=i 12 PL;have Q:=mn (show A.eval (.tmp 1)=.pointer (some ⟨y,0,none⟩)from hf 1 rfl);clear hf l hd hw E i C;refine kt.mS λK hK=>?_;unfold kt;go_simp;exact hK _ _ ⟨rfl,j,Q2<|Qb<|Qe⟩;intro t A w C E i j hf l hd hw;have aj:t 12=false:=i 12 PL;have bI:=mn (show A.eval (.tmp 6)=.pointer (some ⟨y,4,none⟩)from l 3 _ rfl rfl);clear hf l hd hw E i C;obtain⟨a,b,c,D,Q,_,V,_,e3,_⟩:=j.r;have e4:=V aj;subst e4;have g:=kf D 4 _ rfl;clear D Q V e3;have p:=j;refine kt.mS λK hK=>?_;unfold kt;go_simp;exact hK _ _ ⟨rfl,p,Q2<|Qb<|Qe⟩;intro t A w C E i j hf l hd hw;have aj:t 12=false:=i 12 PL;have bJ:=mn (show A.eval (.tmp 7)=.slice L O c4 from l 4 _ rfl rfl);clear hf l hd hw E i C;have aI:=j.g.size;have aJ:=j.l;have p:=j;refine kt.mS λK hK=>?_;unfold kt;go_simp;refine⟨rfl,?_⟩;refine Calls.M (tO d S w L O c4 x.th (aZ.kg (kE.ok .u8 d) (p.ln R)) PJ (λq s=>PI (R q s) p.g.size) (λT hy ag r F hr=>aC S ag r T hr (λq s=>by have:=R q s;have:=F.size;have:=p.g.size;omega) (aU T hy))) ?_;rintro e w' ⟨ah,ai,F⟩;subst ah;exact⟨_,rfl,hK _ _ ⟨trivial,p.kh F,Qd (λu ⟨f,n,c,e,hr⟩=>⟨f,n,c,e,nR (kz.ok .u8 De) (NK.kh (w0:=G) F) hr⟩)<|Qc ⟨_,_,_,rfl,wu (kE.ok .u8 d) (PH p.g.size) ai⟩<|Qd (λu ⟨f,n,c,e,hr⟩=>⟨f,n,c,e,nR (kE.ok .u8 d) (NK.kh (w0:=G) F) hr⟩)<|Qe⟩⟩;intro t A w C E i j hf l hd hw;have ak:t 14=false:=i 14 PL;have Q:=mn (show A.eval (.tmp 1)=.pointer (some ⟨y,0,none⟩)from hf 1 rfl);clear hf l hd hw E i C;refine kt.mS λK hK=>?_;unfold kt;go_simp;exact hK _ _ ⟨rfl,j,Q2<|Qb<|Qe⟩;intro t A w C E i j hf l hd hw;have ak:t 14=false:=i 14 PL;have bK:=mn (show A.eval (.tmp 9)=.pointer (some ⟨y,5,none⟩)from l 6 _ rfl rfl);clear hf l hd hw E i C;obtain⟨a,b,c,D,Q,_,V,_,e3,_⟩:=j.r;have e4:=e3 ak;subst e4;have g:=kf D 5 _ rfl;clear D Q V e3;have p:=j;refine kt.mS λK hK=>?_;unfold kt;go_simp;exact hK _ _ ⟨rfl,p,Q2<|Qb<|Qe⟩;intro t A w C E i j hf l hd hw;have ak:t 14=false:=i 14 PL;have bL:=mn (show A.eval (.tmp 10)=.slice M P c5 from l 7 _ rfl rfl);clear hf l hd hw E i C;have aI:=j.g.size;have aJ:=j.l;have p:=j;refine kt.mS λK hK=>?_;unfold kt;go_simp;refine⟨rfl,?_⟩;refine Calls.M (tO d S w M P c5 x.el (ba.kg (kE.ok .u8 d) (p.ln R)) PJ (λq s=>PI (R q s) p.g.size) (λT hy ag r F hr=>aC S ag r T hr (λq s=>by have:=R q s;have:=F.size;have:=p.g.size;omega) (aV T hy))) ?_;rintro e w' ⟨ah,ai,F⟩;subst ah;exact⟨_,rfl,hK _ _ ⟨trivial,p.kh F,Qd (λu ⟨f,n,c,e,hr⟩=>⟨f,n,c,e,nR (kz.ok .u8 De) (NK.kh (w0:=G) F) hr⟩)<|Qd (λu ⟨f,n,c,e,hr⟩=>⟨f,n,c,e,nR (kE.ok .u8 d) (NK.kh (w0:=G) F) hr⟩)<|Qc ⟨_,_,_,rfl,wu (kE.ok .u8 d) (PH p.g.size) ai⟩<|Qe⟩⟩;intro t A w C E i j hf l hd hw;have af:t 10=false:=i 10 PL;have Q:=mn (show A.eval (.tmp 1)=.pointer (some ⟨y,0,none⟩)from hf 1 rfl);clear hf l hd hw E i C;refine kt.mS λK hK=>?_;unfold kt;go_simp;exact hK _ _ ⟨rfl,j,Q2<|Qb<|Qe⟩;intro t A w C E i j hf l hd hw;have af:t 10=false:=C;have bM:=mn (show A.eval (.tmp 12)=.pointer (some ⟨y,3,none⟩)from l 9 _ rfl rfl);have d5:(λ(v:Value) (w:World)=>∃(f:Option Addr),∃(n c:Nat),v=.slice f n c/\km (kz .u8 De) (Nw G w) w (.slice f n c) x.kV) (A.eval (.tmp 5)) w:=hd _ (List.Mem.head _) _ rfl rfl;obtain⟨f,n,c,aK,bf⟩:=d5;have e5:=mn aK;clear hf l hd hw E i C;have al:=bf;obtain⟨a,b,c,D,_,_,_,_,_,_⟩:=j.r;have aL:=ko D 3;have hce:=kf D 3 _ rfl;clear D;have p:=j;refine kt.mS λK hK=>?_;unfold kt;go_simp;exact hK _ _ ⟨trivial,p.JC al,Qd (λu ⟨f,n,c,e,hr⟩=>⟨f,n,c,e,nR (kz.ok .u8 De) (p.nk 3 _) hr⟩)<|Qd (λu ⟨f,n,c,e,hr⟩=>⟨f,n,c,e,nR (kE.ok .u8 d) (p.nk 3 _) hr⟩)<|Qd (λu ⟨f,n,c,e,hr⟩=>⟨f,n,c,e,nR (kE.ok .u8 d) (p.nk 3 _) hr⟩)<|Qe⟩;intro t A w C E i j hf l hd hw;have aj:t 12=false:=i 12 PL;have Q:=mn (show A.eval (.tmp 1)=.pointer (some ⟨y,0,none⟩)from hf 1 rfl);clear hf l hd hw E i C;refine kt.mS λK hK=>?_;unfold kt;go_simp;exact hK _ _ ⟨rfl,j,Q2<|Qb<|Qe⟩;intro t A w C E i j hf l hd hw;have aj:t 12=false:=C;have bN:=mn (show A.eval (.tmp 13)=.pointer (some ⟨y,4,none⟩)from l 11 _ rfl rfl);have bg:(λ(v:Value) (w:World)=>∃(f:Option Addr),∃(n c:Nat),v=.slice f n c/\km (kE .u8 d) (Nw G w) w (.slice f n c) x.th) (A.eval (.tmp 8)) w:=hd _ (List.Mem.tail _ (List.Mem.head _)) _ rfl rfl;obtain⟨f,n,c,bh,bi⟩:=bg;have bO:=mn bh;clear hf l hd hw E i C;have al:=bi;obtain⟨a,b,c,D,_,_,_,_,_,_⟩:=j.r;have aL:=ko D 4;have hce:=kf D 4 _ rfl;clear D;have p:=j;refine kt.mS λK hK=>?_;unfold kt;go_simp;exact hK _ _ ⟨trivial,p.JD al,Qd (λu ⟨f,n,c,e,hr⟩=>⟨f,n,c,e,nR (kz.ok .u8 De) (p.nk 4 _) hr⟩)<|Qd (λu ⟨f,n,c,e,hr⟩=>⟨f,n,c,e,nR (kE.ok .u8 d) (p.nk 4 _) hr⟩)<|Qd (λu ⟨f,n,c,e,hr⟩=>⟨f,n,c,e,nR (kE.ok .u8 d) (p.nk 4 _) hr⟩)<|Qe⟩;intro t A w C E i j hf l hd hw;have ak:t 14=false:=i 14 PL;have Q:=mn (show A.eval (.tmp 1)=.pointer (some ⟨y,0,none⟩)from hf 1 rfl);clear hf l hd hw E i C;refine kt.mS λK hK=>?_;unfold kt;go_simp;exact hK _ _ ⟨rfl,j,Q2<|Qb<|Qe⟩;intro t A w C E i j hf l hd hw;have ak:t 14=false:=C;have bP:=mn (show A.eval (.tmp 14)=.pointer (some ⟨y,5,none⟩)from l 13 _ rfl rfl);have bj:(λ(v:Value) (w:World)=>∃(f:Option Addr),∃(n c:Nat),v=.slice f n c/\km (kE .u8 d) (Nw G w) w (.slice f n c) x.el) (A.eval (.tmp 11)) w:=hd _ (List.Mem.tail _ (List.Mem.tail _ (List.Mem.head _))) _ rfl rfl;obtain⟨f,n,c,bk,bl⟩:=bj;have bQ:=mn bk;clear hf l hd hw E i C;have al:=bl;obtain⟨a,b,c,D,_,_,_,_,_,_⟩:=j.r;have aL:=ko D 5;have hce:=kf D 5 _ rfl;clear D;have p:=j;refine kt.mS λK hK=>?_;unfold kt;go_simp;exact hK _ _ ⟨trivial,p.Md al,Qd (λu ⟨f,n,c,e,hr⟩=>⟨f,n,c,e,nR (kz.ok .u8 De) (p.nk 5 _) hr⟩)<|Qd (λu ⟨f,n,c,e,hr⟩=>⟨f,n,c,e,nR (kE.ok .u8 d) (p.nk 5 _) hr⟩)<|Qd (λu ⟨f,n,c,e,hr⟩=>⟨f,n,c,e,nR (kE.ok .u8 d) (p.nk 5 _) hr⟩)<|Qe⟩;intro t bR U an bm bn bo;have hz:zb d G y (.int .u8 x.kind) (tx x.name) (tx x.hd) (.slice J N c1) (.slice L O c4) (.slice M P c5) x (t 10) (t 12) (t 14) U:=bm;rw[an 10 PM,an 12 PM,an 14 PM]at hz;obtain⟨av,_,a,b,c,D,_,am,_,F,_,hc⟩:=hz;have am:=am rfl;have F:=F rfl;have hc:=hc rfl;clear an bn bo;obtain⟨W,X,rfl,_⟩:=am.form;obtain⟨Y,d4,rfl,_⟩:=F.form;obtain⟨Z,d5,rfl,_⟩:=hc.form;obtain⟨aa,aM⟩:=Xq x.kV.length;obtain⟨ab,aN⟩:=Xq x.th.length;obtain⟨ac,aO⟩:=Xq x.el.length;rw[<-aM]at am D;rw[<-aN]at F D;rw[<-aO]at hc D;clear aM aN aO;have bp:=am;have bq:=F;have br:=hc;have bS:=NA D;have bs:=av;have bT:=av.size;have I:=(av.B (y+1) bd PJ).T ar.o;have bU:=kf D 0 _ rfl;have bV:=kf D 1 _ rfl;have bW:=kf D 2 _ rfl;have bX:=kf D 3 _ rfl;have bY:=kf D 4 _ rfl;have bZ:=kf D 5 _ rfl;have ca:=kf I 0 _ rfl;have cb:=kf I 1 _ rfl;have cc:=kf I 2 _ rfl;have cd:=kf I 3 _ rfl;have ce:=kf I 4 _ rfl;have cf:=kf I 5 _ rfl;have cg:=ko I 0;have ch:=ko I 1;have ci:=ko I 2;have cj:=ko I 3;have ck:=ko I 4;have aK:=ko I 5;have cl:y<U:=PJ
 have cm:y+1<U:=PJ
 obtain⟨ao,ad⟩:=Xq (lC U (y+1) 0 [.int .u8 x.kind,tx x.name,tx x.hd,.slice W aa X,.slice Y ab d4,.slice Z ac d5]);have bt:=NA (show ao.heap[y+1]?=some (.cells #[.int .u8 x.kind,tx x.name,tx x.hd,.slice W aa X,.slice Y ab d4,.slice Z ac d5] 185 (0,0))from by rw[ad];exact ot (r:=[.int .u8 x.kind,tx x.name,tx x.hd,.slice W aa X,.slice Y ab d4,.slice Z ac d5]) (m:=[_,_,_,_,_,_]) (I) rfl);have aw:∀q,q≠y->q≠y+1->ao.heap[q]?=U.heap[q]?:=λq cn bu=>by rw[ad];exact(nP bu).T (rfl)
 have ax:=NA (show ao.heap.size=U from by rw[ad];exact nh.T (rfl));have bv:Below y w ao:=by rw[ad];exact lF PJ (ae.T (bs.kh (B:=y) PJ (λk e=>PJ)))
 have bw:=NA ad;clear ad D I;simp only[kr,Act.put,NI,NL,NJ];go_wp2_with fail;change bodyPost _ _ _ _ _ (lC U (y+1) 0 [.int .u8 x.kind,tx x.name,tx x.hd,.slice W aa X,.slice Y ab d4,.slice Z ac d5]);rw[<-bw.o];have bx:=aH.o;subst bx;have hz:=bt.o;have bz:=kf hz 0 _ rfl;have bA:=kf hz 1 _ rfl;have bB:=kf hz 2 _ rfl;have bC:=kf hz 3 _ rfl;have bD:=kf hz 4 _ rfl;have bE:=kf hz 5 _ rfl;refine NT (v:=.agg #[.int .u8 x.kind,tx x.name,tx x.hd,.slice W aa X,.slice Y ab d4,.slice Z ac d5]) ?_ rfl ⟨[.int .u8 x.kind,tx x.name,tx x.hd,.slice W aa X,.slice Y ab d4,.slice Z ac d5],rfl,⟨_,_,_,rfl,?_,?_,?_⟩,bv⟩;simp[results,Tryz.results99,go_sem,bz,bA,bB,bC,bD,bE];exact(bp.kg (kz.ok .u8 De) (λq s=>aw q (PH s.1) (PH s.1))).M (kz.ok .u8 De) (λq s=>⟨PH s.1,by rw[ax.o];exact s.2⟩);exact(bq.kg (kE.ok .u8 d) (λq s=>aw q (PH s.1) (PH s.1))).M (kE.ok .u8 d) (λq s=>⟨PH s.1,by rw[ax.o];exact s.2⟩);exact(br.kg (kE.ok .u8 d) (λq s=>aw q (PH s.1) (PH s.1))).M (kE.ok .u8 d) (λq s=>⟨PH s.1,by rw[ax.o];exact s.2⟩)
theorem ur:∀d,JE d
 |0=>λ_ _ _ _ h _ _=>h.elim
 |d+1=>ye d (ur d)
theorem vR(S w r x)(h:mo .u8 S w r x)(hS:∀q,S q->q<w)(R:yq x):Calls prog 58 #[.agg r.toArray] w (qB (mo .u8) x w):=by
 obtain⟨aW,aX,rfl,hp,p⟩:=h;obtain⟨z,c1,rfl,_⟩:=hp.form;obtain⟨A,c2,rfl,_⟩:=p.form;have ao:=R.FH;have ap:=R.BZ;have aq:=R.body;obtain⟨f,T⟩:=Xq x.params.length;obtain⟨i,Y⟩:=Xq x.body.length;rw[<-T]at hp ao⊢;rw[<-Y]at p ap⊢;have ar:=NA T.symm;clear T Y;obtain⟨au,Z,aa,ab,ac⟩:=N4 qX;have J:=(And.intro Z (And.intro aa (And.intro ab ac)))
 clear Z aa ab ac;have av:=hS;have L:=(Ba w (.cells #[tx x.name,.slice z f c1,.slice A i c2] 118)|>.alloc PK (.cells #[Em,Nl,Nl] 118))
 have M:=NA ((N6 (w.alloc (.cells #[tx x.name,.slice z f c1,.slice A i c2] 118)) (.cells #[Em,Nl,Nl] 118) (r:=w.heap.size) PK).T (NF w (.cells #[tx x.name,.slice z f c1,.slice A i c2] 118)));have N:=NA (NF (w.alloc (.cells #[tx x.name,.slice z f c1,.slice A i c2] 118)) (.cells #[Em,Nl,Nl] 118));have aw:=NA (show((w.alloc (.cells #[tx x.name,.slice z f c1,.slice A i c2] 118)).alloc (.cells #[Em,Nl,Nl] 118)).heap.size=w+2 from PK);have ax:=(hp.kg kA.ok (λq d=>L.B q (hS q d)))
 have ay:=(p.kg (kE.ok .u8 Ds) (λq d=>L.B q (hS q d)))
 rw[NB]at N;clear hS
 go_enter func58,ntmps58
 go_upto_region 1 with fail;generalize((w.alloc (.cells #[tx x.name,.slice z f c1,.slice A i c2] 118)).alloc (.cells #[Em,Nl,Nl] 118))=l at*;have az:=aw.o;obtain⟨j,U⟩:=Xq w.heap.size;rw[<-U]at M N L az⊢;have ad:=NA U;clear U;have V:j<l:=PJ
 have ae:j+1<l:=PJ
 have O:∀q,S q->q<j:=λq d=>PI (av q d) ad.o
 refine sV (λx=>Below l l x) (λv w=>∃(s:World) (k:Option Addr) (c:Nat) (G:Option Addr) (I:Nat),Below l l s/\km kA (Nw l s) s (.slice k f c) x.params/\km (kE .u8 Ds) (Nw l s) s (.slice G i I) x.body/\w=lC s (j+1) 0 [tx x.name,.slice k f c,.slice G i I]) (mG [(Pp j 0),(·=tx x.name),Tr,(Pp j 1),(·=.slice z f c1),Tr,(Pp j 2),(·=.slice A i c2),Tr,Tr,Tr]) [(2,λv w=>∃b:Nat,v=.slice (some ⟨b,0,none⟩) 0 0),(5,λv w=>∃(k:Option Addr) (c:Nat),v=.slice k f c/\km kA (Nw l w) w (.slice k f c) x.params),(8,λv w=>∃(k:Option Addr),∃(c:Nat),v=.slice k i c/\km (kE .u8 Ds) (Nw l w) w (.slice k i c) x.body),(9,λv w=>∃(k:Option Addr) (c:Nat) (G:Option Addr) (I:Nat),v=.agg #[tx x.name,.slice k f c,.slice G i I]/\km kA (Nw l w) w (.slice k f c) x.params/\km (kE .u8 Ds) (Nw l w) w (.slice G i I) x.body)] ((Below.refl _ _).drew) ⟨?_,?_,?_,?_,?_,?_,?_,?_,?_,?_,?_,trivial⟩ ?_;exact Pf 1;intro y w a hf n hd hw;exact .l 3 (n 0 _ rfl rfl) (kf ((a.B j V).T M.o) 0 _ rfl) ⟨rfl,a,Qa⟩;intro y w a hf n hd hw;have af:=a.size;replace a:=Hq a;exact .q (g:=⟨trivial,a.o.alloc a.o.size _,Qc ⟨_,rfl⟩<|Qb<|Qd (λu ⟨k,c,e,hr⟩=>⟨k,c,e,nR (kE.ok .u8 Ds) (NK.alloc l w _) hr⟩)<|Qb<|Qe⟩);exact Pf 1;intro y w a hf n hd hw;exact .l 6 (n 3 _ rfl rfl) (kf ((a.B j V).T M.o) 1 _ rfl) ⟨rfl,a,Qa⟩;intro y w a hf n hd hw;obtain⟨ag,ah⟩:=hd _ (Mm 0 rfl) _ rfl rfl;have e5:=Sl 5 ah;have aA:=Sv 7 n 4;have af:=a.size;replace a:=Hq a;obtain⟨aY,aZ,w',aB,W,p⟩:=mA (P:=prog) (w:=w) 49 49 9 au _ 1 16 underlying49 J.1 J.2.1 J.2.2.1 J.2.2.2 rfl kA.ok (λh=>h) (b0:=ag) ar.o (ax.kg kA.ok (λq d=>a.o.B q (PH (O q d)))) PT PJ;have aC:y.eval (.tmp 5)=.slice (some ⟨ag,0,none⟩) 0 0:=ah;have aD:y.eval (.tmp 7)=.slice z f c1:=by simp[Act.eval,aA]
 refine .h λK hK=>?_;simp only[execOp,resolve,invoke,builtin,Oh,Oi,N8,Oc,Ob,Oe,aC,aD,aB];exact hK ⟨trivial,a.o.T (p.M a.o.size),Qb<|Qc ⟨_,_,rfl,wu kA.ok PJ W⟩<|Qd (λu ⟨k,c,e,hr⟩=>⟨k,c,e,nR (kE.ok .u8 Ds) (NK.kh (w0:=l) p) hr⟩)<|Qb<|Qe⟩;exact Pf 1;intro y w a hf n hd hw;exact .l 9 (n 6 _ rfl rfl) (kf ((a.B j V).T M.o) 2 _ rfl) ⟨rfl,a,Qa⟩;intro y w a hf n hd hw;have ba:=Sv 10 n 7;have af:=a.size;replace a:=Hq a;refine .c (tO Ds S w A i c2 x.body (ay.kg (kE.ok .u8 Ds) (λq d=>a.o.B q (PH (O q d)))) PJ (λq d=>PH (O q d)) (λai hy aE r p hr=>ur Ds S aE r ai hr (λq d=>PI (O q d) p.size) (aq ai hy))) ?_;rintro e w' ⟨aF,W,p⟩;subst aF;exact⟨_,rfl,⟨trivial,a.o.T (p.M a.o.size),Qb<|Qd (λu ⟨k,c,e,hr⟩=>⟨k,c,e,nR kA.ok (NK.kh (w0:=l) p) hr⟩)<|Qc ⟨_,_,rfl,wu (kE.ok .u8 Ds) PJ W⟩<|Qb<|Qe⟩⟩;intro y w a hf n hd hw;have e4:=Sv 4 n 1;obtain⟨bb,bc,aG,aH⟩:=hd _ (Mm 1 rfl) _ rfl rfl;have bd:=Sl 8 aG;obtain⟨k,c,aI,aJ⟩:=hd _ (Mm 2 rfl) _ rfl rfl;have be:=Sl 11 aI;exact .q (g:=⟨trivial,a,Q2<|Qb<|Qc ⟨_,_,_,_,rfl,aH,aJ⟩<|Qa⟩);intro y w a hf n hd hw;have bf:=Sl 2 (hf 2 rfl);obtain⟨B,C,D,E,aK,aL,aM⟩:=hd _ (Mm 3 rfl) _ rfl rfl;have bg:=Sl 12 aK;have t:=(a.B (j+1) ae).T N.o;have bh:=kf t 0 _ rfl;have bi:=kf t 1 _ rfl;have bj:=kf t 2 _ rfl;have aj:=ko t 0;have ak:=ko t 1;have al:=ko t 2;have bk:j+1<w:=PH a.size
 clear t;replace a:=Hq a;refine .h λK hK=>?_;go_simp;exact hK (⟨w,_,_,_,_,a.o,aL,aM,rfl⟩);intro bl bm aN aO;obtain⟨s,B,C,D,E,X,aP,aQ,rfl⟩:=aO;have bn:=X.size;have t:=(X.B (j+1) ae).T N.o;clear aN;obtain⟨Q,F⟩:=Xq (lC s (j+1) 0 [tx x.name,.slice B f C,.slice D i E]);have aR:=NA (show Q.heap[j+1]?=some (.cells #[tx x.name,.slice B f C,.slice D i E] 118 (0,0))from by rw[F];exact ot (r:=[tx x.name,.slice B f C,.slice D i E]) (m:=[_,_,_]) (t) rfl);have am:∀q,q≠j->q≠j+1->Q.heap[q]?=s.heap[q]?:=λq bo aS=>by rw[F];exact(nP aS).T (rfl)
 have an:=NA (show Q.heap.size=s from by rw[F];exact nh.T (rfl));have aT:Below j w Q:=by rw[F];exact lF PJ (L.T (X.M PJ))
 have aU:=NA F;clear F t;simp only[kr,Act.put,NI,NL,NJ];go_wp2_with fail;change bodyPost _ _ _ _ _ (lC s (j+1) 0 [tx x.name,.slice B f C,.slice D i E]);rw[<-aU.o];have aV:=ad.o;subst aV;have hz:=aR.o;have aj:=kf hz 0 _ rfl;have ak:=kf hz 1 _ rfl;have al:=kf hz 2 _ rfl;refine NT (v:=.agg #[tx x.name,.slice B f C,.slice D i E]) ?_ rfl ⟨[tx x.name,.slice B f C,.slice D i E],rfl,⟨_,_,rfl,?_,?_⟩,aT⟩;simp[results,Tryz.results58,go_sem,aj,ak,al];exact(aP.kg kA.ok (λq d=>am q (PH d.1) (PH d.1))).M kA.ok (λq d=>⟨PH d.1,by rw[an.o];exact d.2⟩);exact(aQ.kg (kE.ok .u8 Ds) (λq d=>am q (PH d.1) (PH d.1))).M (kE.ok .u8 Ds) (λq d=>⟨PH d.1,by rw[an.o];exact d.2⟩)
theorem CY(S w r x)(h:mB .u8 S w r x)(hS:∀q,S q->q<w)(l:x.length<=3/\∀i∈x,yq i):Calls prog 56 #[.agg r.toArray] w (qB (mB .u8) x w):=by
 obtain⟨X,rfl,hp⟩:=h;obtain⟨d,c1,rfl,_⟩:=hp.form;have F:=l.2;have G:=l.1;obtain⟨a,z⟩:=Xq x.length;rw[<-z]at hp G⊢;clear z l;have I:=hS;have n:=(Ba w (.cells #[.slice d a c1] 111)|>.alloc PK (.cells #[Nl] 111))
 have A:=NA ((N6 (w.alloc (.cells #[.slice d a c1] 111)) (.cells #[Nl] 111) (r:=w.heap.size) PK).T (NF w (.cells #[.slice d a c1] 111)));have p:=NA (NF (w.alloc (.cells #[.slice d a c1] 111)) (.cells #[Nl] 111));have J:=NA (show((w.alloc (.cells #[.slice d a c1] 111)).alloc (.cells #[Nl] 111)).heap.size=w+2 from PK);have K:=(hp.kg (mo.ok .u8) (λq c=>n.B q (hS q c)))
 rw[NB]at p;clear hS
 go_enter func56,ntmps56
 go_upto_region 1 with fail;generalize((w.alloc (.cells #[.slice d a c1] 111)).alloc (.cells #[Nl] 111))=s at*;have B:=J.o;obtain⟨b,t⟩:=Xq w.heap.size;rw[<-t]at A p n B⊢;have C:=NA t;clear t;have Y:b<s:=PJ
 have L:b+1<s:=PJ
 have D:∀q,S q->q<b:=λq c=>PI (I q c) C.o
 have M:=kf A.o 0 _ rfl;go_wp2_with fail;refine(CV S s d a c1 x K PJ (λq c=>PH (D q c)) (λi hy f r N hr=>vR S f r i hr (λq c=>PI (D q c) N.size) (F i hy))).M ?_;rintro e f ⟨rfl,E,u⟩;have Z:=u.size;have j:=(u.B (b+1) L).T p.o;have O:=kf j 0 _ rfl;have y:=ko j 0;have aa:b+1<f:=PJ
 rw[B]at E;clear M;obtain⟨k,g⟩:=Xq (lC f (b+1) 0 [.slice (some ⟨b+2,0,none⟩) a a]);have P:=NA (show k.heap[b+1]?=some (.cells #[.slice (some ⟨b+2,0,none⟩) a a] 111 (0,0))from by rw[g];exact ot (r:=[.slice (some ⟨b+2,0,none⟩) a a]) (m:=[_]) (j) rfl);have Q:∀q,q≠b->q≠b+1->k.heap[q]?=f.heap[q]?:=λq ab R=>by rw[g];exact(nP R).T (rfl)
 have T:=NA (show k.heap.size=f from by rw[g];exact nh.T (rfl));have U:Below b w k:=by rw[g];exact lF PJ (n.T (u.M PJ))
 have V:=NA g;clear g j;go_wp2_with fail;change bodyPost _ _ _ _ _ (lC f (b+1) 0 [.slice (some ⟨b+2,0,none⟩) a a]);rw[<-V.o];clear O y;have W:=C.o;subst W;have hz:=P.o;have y:=kf hz 0 _ rfl;refine NT (v:=.agg #[.slice (some ⟨w+2,0,none⟩) a a]) ?_ rfl ⟨[.slice (some ⟨w+2,0,none⟩) a a],rfl,⟨_,rfl,?_⟩,U⟩;simp[results,Tryz.results56,go_sem,y];exact(E.kg (mo.ok .u8) (λq c=>Q q (PH c.1) (PH c.1))).M (mo.ok .u8) (λq c=>⟨PH c.1,by rw[T.o];exact c.2⟩)
theorem EW(S w r x)(h:mg .u8 S w r x)(hS:∀q,S q->q<w)(N:FP x):Calls prog 54 #[.agg r.toArray] w (qB (mg .u8) x w):=by
 obtain⟨bg,bh,rfl,hp,y⟩:=h;obtain⟨z,c1,rfl,_⟩:=hp.form;obtain⟨t,c2,rfl,_⟩:=y.form;have ax:=N.B0;have ay:=N.v2;have az:=N.kY;obtain⟨f,O⟩:=Xq x.vars.length;obtain⟨c,ad⟩:=Xq x.kY.length;rw[<-O]at hp ax⊢;rw[<-ad]at y ay⊢;have aA:=NA O.symm;clear O ad;obtain⟨aB,ae,af,ag,ah⟩:=N4 GR;have I:=(And.intro ae (And.intro af (And.intro ag ah)))
 clear ae af ag ah;have aC:=yK;unfold ma at aC;have aD:=hS;have J:=(Ba w (.cells #[tx x.name,.slice z f c1,.slice t c c2] 105)|>.alloc PK (.cells #[Em,Nl,Nl] 105))
 have P:=NA ((N6 (w.alloc (.cells #[tx x.name,.slice z f c1,.slice t c c2] 105)) (.cells #[Em,Nl,Nl] 105) (r:=w.heap.size) PK).T (NF w (.cells #[tx x.name,.slice z f c1,.slice t c c2] 105)));have Q:=NA (NF (w.alloc (.cells #[tx x.name,.slice z f c1,.slice t c c2] 105)) (.cells #[Em,Nl,Nl] 105));have aE:=NA (show((w.alloc (.cells #[tx x.name,.slice z f c1,.slice t c c2] 105)).alloc (.cells #[Em,Nl,Nl] 105)).heap.size=w+2 from PK);have aF:=(hp.kg (nJ.ok .u8) (λq d=>J.B q (hS q d)))
 have aG:=(y.kg (mB.ok .u8) (λq d=>J.B q (hS q d)))
 rw[NB]at Q;clear hS y
 go_enter func54,ntmps54
 go_upto_region 1 with fail;generalize((w.alloc (.cells #[tx x.name,.slice z f c1,.slice t c c2] 105)).alloc (.cells #[Em,Nl,Nl] 105))=D at*;have aH:=aE.o;obtain⟨a,R⟩:=Xq w.heap.size;rw[<-R]at P Q J aH⊢;have ai:=NA R;clear R;have aI:a<D:=PJ
 have aJ:a+1<D:=PJ
 have E:∀q,S q->q<a:=λq d=>PI (aD q d) ai.o
 have g:=P.o;have T:=kf g 1 _ rfl;clear g;have aj:=(Ba D (.cells #[] 108))
 have aK:=(aF.kg (nJ.ok .u8) (λq d=>aj.B q (PH (E q d))))
 have ak:(D.alloc (.cells #[] 108)).heap.size=a+3:=PO
 have bi:=NA ak;clear ak;go_wp2_with (at_builtin;refine tV rfl _ _ 102 rfl 108 aB _ 3 32 underlying102 I.1 I.2.1 I.2.2.1 I.2.2.2 rfl (nJ.ok .u8) (λh=>h) rfl rfl aA.o aK PT PJ ?_);intro j k n A U;have A:km (nJ .u8) (λb=>a+3<=b/\b<n) n (.slice j f k) x.vars:=A;have U:Below (a+3) (D.alloc (.cells #[] 108)) n:=U;have K:=aj.T (U.M PJ);have al:=K;have bj:=K.size;have aL:=A;have g:=(K.B a aI).T P.o;have p:=(K.B (a+1) aJ).T Q.o;have aM:=NA p;have am:=ki (i:=1) (u:=.slice j f k) g;have an:=NA am;have V:∀q,q≠a->(n.setCell ⟨a,1,none⟩ (.slice j f k)).heap[q]?=n.heap[q]?:=λq h=>N1 _ _ _ _ h;have ao:=NA (NM n ⟨a,1,none⟩ (.slice j f k));have aN:Below a w (n.setCell ⟨a,1,none⟩ (.slice j f k)):=kq (J.T (al.M PJ)) (NQ _);have W:=kf g 1 _ rfl;have F:=ko g 1;have X:a<n:=PJ
 clear g p am T;go_upto_region 2 with fail;generalize n.setCell ⟨a,1,none⟩ (.slice j f k)=L at*;have Y:=kf an.o 2 _ rfl;have X:a<L:=PH ao.o
 clear W F;go_wp2_with fail;refine(CW S L t c c2 x.kY (aG.kg (mB.ok .u8) (λq d=>(V q (PH (E q d))).T (al.B q (PH (E q d))))) PJ (λq d=>PH (E q d)) (λap hy s r y hr=>CY S s r ap hr (λq d=>PI (E q d) y.size) (az ap hy))).M ?_;rintro e s ⟨rfl,A,G⟩;have e3:=ao.o;obtain⟨l,Z⟩:=Xq L.heap.size;rw[<-Z]at e3 A G X⊢;have aa:=NA Z;have ab:=NA e3;have aO:=A;have aq:=G;have bk:=G.size;have g:=(G.B a X).T an.o;have p:=(G.B (a+1) PJ).T ((V _ PJ).T aM.o);have aP:=NA (ki (i:=2) (u:=.slice (some ⟨l,0,none⟩) c c) g);have ac:∀q,q≠a->(s.setCell ⟨a,2,none⟩ (.slice (some ⟨l,0,none⟩) c c)).heap[q]?=s.heap[q]?:=λq h=>N1 _ _ _ _ h;have aQ:=NA (NM s ⟨a,2,none⟩ (.slice (some ⟨l,0,none⟩) c c));have aR:Below a w (s.setCell ⟨a,2,none⟩ (.slice (some ⟨l,0,none⟩) c c)):=kq (aN.T (aq.M PJ)) (NQ _);have W:=kf g 2 _ rfl;have F:=ko g 2;have bl:a<s:=PJ
 have aS:=NA p;clear g p Y Z e3;go_upto_region 3 with fail;generalize s.setCell ⟨a,2,none⟩ (.slice (some ⟨l,0,none⟩) c c)=B at*;have bm:=aQ.o;have e3:=ab.o;have e4:=aa.o;obtain⟨⟨aT,T,Y⟩,_⟩:=kS aP.o;have p:=(ac (a+1) PJ).T aS.o;obtain⟨⟨aU,aV,aW⟩,⟨aX,aY,aZ⟩⟩:=kS p;have bn:a<B:=PJ
 have bo:a+1<B:=PJ
 clear W F e3 e4;obtain⟨M,C⟩:=Xq (lC B (a+1) 0 [tx x.name,.slice j f k,.slice (some ⟨l,0,none⟩) c c]);have ba:=NA (show M.heap[a+1]?=some (.cells #[tx x.name,.slice j f k,.slice (some ⟨l,0,none⟩) c c] 105 (0,0))from by rw[C];exact ot (r:=[tx x.name,.slice j f k,.slice (some ⟨l,0,none⟩) c c]) (m:=[_,_,_]) (p) rfl);have ar:∀q,q≠a->q≠a+1->M.heap[q]?=B.heap[q]?:=λq au av=>by rw[C];exact(nP av).T (rfl)
 have aw:=NA (show M.heap.size=B from by rw[C];exact nh.T (rfl));have bb:Below a w M:=by rw[C];exact lF PJ (aR)
 have bc:=NA C;clear C p;go_wp2_with fail;change bodyPost _ _ _ _ _ (lC B (a+1) 0 [tx x.name,.slice j f k,.slice (some ⟨l,0,none⟩) c c]);rw[<-bc.o];clear aT T Y aU aV aW aX aY aZ;have bd:=ai.o;subst bd;have hz:=ba.o;have be:=kf hz 0 _ rfl;have F:=kf hz 1 _ rfl;have bf:=kf hz 2 _ rfl;refine NT (v:=.agg #[tx x.name,.slice j f k,.slice (some ⟨l,0,none⟩) c c]) ?_ rfl ⟨[tx x.name,.slice j f k,.slice (some ⟨l,0,none⟩) c c],rfl,⟨_,_,rfl,?_,?_⟩,bb⟩;simp[results,Tryz.results54,go_sem,be,F,bf];have e3:=ab.o;have e4:=aa.o;refine(aL.kg (nJ.ok .u8) (λq d=>?_)).M (nJ.ok .u8) (λq d=>⟨PH d.1,PI aw.o d.2⟩);have au:=d.1;have av:=d.2;rw[ar q PJ PJ,ac q PJ,aq.B q PJ,V q PJ];have e3:=ab.o;have e4:=aa.o;refine(aO.kg (mB.ok .u8) (λq d=>?_)).M (mB.ok .u8) (λq d=>⟨by have:L<=q:=d.1;omega,PI aw.o d.2⟩);have au:=d.1;rw[ar q PJ PJ,ac q PJ]
theorem GU(S w J)(G c1:Nat)(L)(I c2:Nat)(N)(l c3:Nat)(x)(h:qV S w J G c1 L I c2 N l c3 x)(ar:pj x):Calls prog 25 #[.agg #[tx x.name,.slice J G c1,.slice L I c2,.slice N l c3]] w (GS x w):=by
 obtain⟨R,T,aC,hS⟩:=h;have au:=ar.zf;have av:=ar.Ee;have aZ:=ar.c3;have ba:=ar.ky;have bb:=NA R.len.1;have bc:=NA T.len.1;have cn:=NA aC.len.1;rw[R.len.1]at au;rw[T.len.1]at av;rw[aC.len.1]at aZ;obtain⟨bd,ac,ad,ae,af⟩:=N4 IA;have aw:=(And.intro ac (And.intro ad (And.intro ae af)))
 clear ac ad ae af;obtain⟨be,ac,ad,ae,af⟩:=N4 IB;have ax:=(And.intro ac (And.intro ad (And.intro ae af)))
 clear ac ad ae af;have bf:=yL;unfold ma at bf;have bg:=hS;have ag:=(Ba w (.cells #[tx x.name,.slice J G c1,.slice L I c2,.slice N l c3] 42)|>.alloc PK (.cells #[Em,Nl,Nl,Nl] 42))
 have aS:=NA ((N6 (w.alloc (.cells #[tx x.name,.slice J G c1,.slice L I c2,.slice N l c3] 42)) (.cells #[Em,Nl,Nl,Nl] 42) (r:=w.heap.size) PK).T (NF w (.cells #[tx x.name,.slice J G c1,.slice L I c2,.slice N l c3] 42)));have aD:=NA (NF (w.alloc (.cells #[tx x.name,.slice J G c1,.slice L I c2,.slice N l c3] 42)) (.cells #[Em,Nl,Nl,Nl] 42));have bh:=NA (show((w.alloc (.cells #[tx x.name,.slice J G c1,.slice L I c2,.slice N l c3] 42)).alloc (.cells #[Em,Nl,Nl,Nl] 42)).heap.size=w+2 from PK);have bi:=(R.kg mR.ok (λq f=>ag.B q (hS q f)))
 have bj:=(T.kg nI.ok (λq f=>ag.B q (hS q f)))
 have bk:=(aC.kg (mg.ok .u8) (λq f=>ag.B q (hS q f)))
 rw[NB]at aD;clear hS R T
 go_enter func25,ntmps25
 go_upto_region 1 with fail;generalize((w.alloc (.cells #[tx x.name,.slice J G c1,.slice L I c2,.slice N l c3] 42)).alloc (.cells #[Em,Nl,Nl,Nl] 42))=E at*;have bl:=bh.o;obtain⟨d,aE⟩:=Xq w.heap.size;rw[<-aE]at aS aD ag bl⊢;have aT:=NA aE;clear aE;have bm:d<E:=PJ
 have bn:d+1<E:=PJ
 have X:∀q,S q->q<d:=λq f=>PI (bg q f) aT.o
 have bo:BP E d (tx x.name) (.slice J G c1) (.slice L I c2) (.slice N l c3) x false false E:=⟨nG.refl _ _,bm,_,_,aS.o,λ_=>rfl,λh=>by simp at h,λ_=>rfl,λh=>by simp at h⟩
 refine oG (λn z=>BP E d (tx x.name) (.slice J G c1) (.slice L I c2) (.slice N l c3) x (n 9) (n 11) z) (mG [Tr,(Pp d 1),(·=.slice J G c1),Tr,Tr,(Pp d 2),(·=.slice L I c2),Tr,(Pp d 1),Tr,(Pp d 2),Tr]) [(0,λv w=>∃b:Nat,v=.slice (some ⟨b,0,none⟩) 0 0),(3,λv w=>∃(y:Option Addr) (c:Nat),v=.slice y G c/\km mR (Nw E w) w (.slice y G c) x.kM),(4,λv w=>∃b:Nat,v=.slice (some ⟨b,0,none⟩) 0 0),(7,λv w=>∃(y:Option Addr) (c:Nat),v=.slice y I c/\km nI (Nw E w) w (.slice y I c) x.lN)] PL PL 18 rfl PL (bo.kh ((Below.refl _ _).drew)) ⟨?_,?_,?_,?_,?_,?_,?_,?_,?_,?_,?_,?_,trivial⟩ ?_;intro n p w A C j s hf t hd hw;have Y:n 9=false:=j 9 PL;clear hf t hd hw C j A;have D:=s;refine kt.mS λK hK=>?_;unfold kt;go_simp;exact hK _ _ ⟨trivial,D.kh (Ba _ _),Qc ⟨_,rfl⟩<|Q2<|Qd (λu ⟨y,c,e,hr⟩=>⟨y,c,e,nR nI.ok (NK.alloc E w _) hr⟩)<|Qe⟩;intro n p w A C j s hf t hd hw;have Y:n 9=false:=j 9 PL;have U:=mn (show p.eval (.tmp 1)=.pointer (some ⟨d,0,none⟩)from hf 1 rfl);clear hf t hd hw C j A;refine kt.mS λK hK=>?_;unfold kt;go_simp;exact hK _ _ ⟨rfl,s,Q4<|Qe⟩;intro n p w A C j s hf t hd hw;have Y:n 9=false:=j 9 PL;have e4:=mn (show p.eval (.tmp 4)=.pointer (some ⟨d,1,none⟩)from t 1 _ rfl rfl);clear hf t hd hw C j A;obtain⟨a,b,F,U,_,ay,_⟩:=s.r;have e4:=U Y;subst e4;have g:=kf F 1 _ rfl;clear F U ay;have D:=s;refine kt.mS λK hK=>?_;unfold kt;go_simp;exact hK _ _ ⟨rfl,D,Q4<|Qe⟩;intro n p w A C j s hf t hd hw;have Y:n 9=false:=j 9 PL;have d3:(λ(v:Value) (w:World)=>∃b:Nat,v=.slice (some ⟨b,0,none⟩) 0 0) (p.eval (.tmp 3)) w:=hd _ (List.Mem.head _) _ rfl rfl;obtain⟨ah,aU⟩:=d3;have e3:=mn aU;have e5:=mn (show p.eval (.tmp 5)=.slice J G c1 from t 2 _ rfl rfl);clear hf t hd hw C j A;have bp:=s.g.size;have D:=s;obtain⟨bq,br,w',aF,aG,M⟩:=mA (P:=prog) (w:=w) 38 38 100 bd _ 2 24 underlying38 aw.1 aw.2.1 aw.2.2.1 aw.2.2.2 rfl mR.ok (λh=>h) (b0:=ah) bb.o (bi.kg mR.ok (D.ln X)) PT PJ;have aH:p.eval (.tmp 3)=.slice (some ⟨ah,0,none⟩) 0 0:=aU;have aI:p.eval (.tmp 5)=.slice J G c1:=by simp[Act.eval,e5]
 refine kt.mS λK hK=>?_;unfold kt;simp only[execOp,resolve,invoke,builtin,Oh,Oi,N8,Oc,Ob,Oe,aH,aI,aF];exact hK _ _ ⟨trivial,D.kh M,Qb<|Qc ⟨_,_,rfl,wu mR.ok PJ aG⟩<|Qb<|Qd (λu ⟨y,c,e,hr⟩=>⟨y,c,e,nR nI.ok (NK.kh (w0:=E) M) hr⟩)<|Qe⟩;intro n p w A C j s hf t hd hw;have Z:n 11=false:=j 11 PL;clear hf t hd hw C j A;have D:=s;refine kt.mS λK hK=>?_;unfold kt;go_simp;exact hK _ _ ⟨trivial,D.kh (Ba _ _),Qb<|Qd (λu ⟨y,c,e,hr⟩=>⟨y,c,e,nR mR.ok (NK.alloc E w _) hr⟩)<|Qc ⟨_,rfl⟩<|Qb<|Qe⟩;intro n p w A C j s hf t hd hw;have Z:n 11=false:=j 11 PL;have U:=mn (show p.eval (.tmp 1)=.pointer (some ⟨d,0,none⟩)from hf 1 rfl);clear hf t hd hw C j A;refine kt.mS λK hK=>?_;unfold kt;go_simp;exact hK _ _ ⟨rfl,s,Q4<|Qe⟩;intro n p w A C j s hf t hd hw;have Z:n 11=false:=j 11 PL;have co:=mn (show p.eval (.tmp 8)=.pointer (some ⟨d,2,none⟩)from t 5 _ rfl rfl);clear hf t hd hw C j A;obtain⟨a,b,F,U,_,ay,_⟩:=s.r;have e4:=ay Z;subst e4;have g:=kf F 2 _ rfl;clear F U ay;have D:=s;refine kt.mS λK hK=>?_;unfold kt;go_simp;exact hK _ _ ⟨rfl,D,Q4<|Qe⟩;intro n p w A C j s hf t hd hw;have Z:n 11=false:=j 11 PL;have bs:(λ(v:Value) (w:World)=>∃b:Nat,v=.slice (some ⟨b,0,none⟩) 0 0) (p.eval (.tmp 7)) w:=hd _ (List.Mem.tail _ (List.Mem.tail _ (List.Mem.head _))) _ rfl rfl;obtain⟨ah,aV⟩:=bs;have cp:=mn aV;have bt:=mn (show p.eval (.tmp 9)=.slice L I c2 from t 6 _ rfl rfl);clear hf t hd hw C j A;have bp:=s.g.size;have D:=s;obtain⟨bq,br,w',aF,aG,M⟩:=mA (P:=prog) (w:=w) 39 39 101 be _ 3 40 underlying39 ax.1 ax.2.1 ax.2.2.1 ax.2.2.2 rfl nI.ok (λh=>h) (b0:=ah) bc.o (bj.kg nI.ok (D.ln X)) PT PJ;have aH:p.eval (.tmp 7)=.slice (some ⟨ah,0,none⟩) 0 0:=aV;have aI:p.eval (.tmp 9)=.slice L I c2:=by simp[Act.eval,bt]
 refine kt.mS λK hK=>?_;unfold kt;simp only[execOp,resolve,invoke,builtin,Oh,Oi,N8,Oc,Ob,Oe,aH,aI,aF];exact hK _ _ ⟨trivial,D.kh M,Qb<|Qd (λu ⟨y,c,e,hr⟩=>⟨y,c,e,nR mR.ok (NK.kh (w0:=E) M) hr⟩)<|Qb<|Qc ⟨_,_,rfl,wu nI.ok PJ aG⟩<|Qe⟩;intro n p w A C j s hf t hd hw;have Y:n 9=false:=j 9 PL;have U:=mn (show p.eval (.tmp 1)=.pointer (some ⟨d,0,none⟩)from hf 1 rfl);clear hf t hd hw C j A;refine kt.mS λK hK=>?_;unfold kt;go_simp;exact hK _ _ ⟨rfl,s,Q4<|Qe⟩;intro n p w A C j s hf t hd hw;have Y:n 9=false:=A;have cq:=mn (show p.eval (.tmp 11)=.pointer (some ⟨d,1,none⟩)from t 8 _ rfl rfl);have bu:(λ(v:Value) (w:World)=>∃(y:Option Addr) (c:Nat),v=.slice y G c/\km mR (Nw E w) w (.slice y G c) x.kM) (p.eval (.tmp 6)) w:=hd _ (List.Mem.tail _ (List.Mem.head _)) _ rfl rfl;obtain⟨bv,bw,bx,bz⟩:=bu;have cr:=mn bx;clear hf t hd hw C j A;have aJ:=bz;obtain⟨a,b,F,_,_,_,_⟩:=s.r;have bA:=ko F 1;have hce:=kf F 1 _ rfl;clear F;have D:=s;refine kt.mS λK hK=>?_;unfold kt;go_simp;exact hK _ _ ⟨trivial,D.JC aJ,Qb<|Qd (λu ⟨y,c,e,hr⟩=>⟨y,c,e,nR mR.ok (D.nk 1 _) hr⟩)<|Qb<|Qd (λu ⟨y,c,e,hr⟩=>⟨y,c,e,nR nI.ok (D.nk 1 _) hr⟩)<|Qe⟩;intro n p w A C j s hf t hd hw;have Z:n 11=false:=j 11 PL;have U:=mn (show p.eval (.tmp 1)=.pointer (some ⟨d,0,none⟩)from hf 1 rfl);clear hf t hd hw C j A;refine kt.mS λK hK=>?_;unfold kt;go_simp;exact hK _ _ ⟨rfl,s,Q4<|Qe⟩;intro n p w A C j s hf t hd hw;have Z:n 11=false:=A;have cs:=mn (show p.eval (.tmp 12)=.pointer (some ⟨d,2,none⟩)from t 10 _ rfl rfl);have bB:(λ(v:Value) (w:World)=>∃(y:Option Addr) (c:Nat),v=.slice y I c/\km nI (Nw E w) w (.slice y I c) x.lN) (p.eval (.tmp 10)) w:=hd _ (List.Mem.tail _ (List.Mem.tail _ (List.Mem.tail _ (List.Mem.head _)))) _ rfl rfl;obtain⟨bv,bw,bC,bD⟩:=bB;have ct:=mn bC;clear hf t hd hw C j A;have aJ:=bD;obtain⟨a,b,F,_,_,_,_⟩:=s.r;have bA:=ko F 2;have hce:=kf F 2 _ rfl;clear F;have D:=s;refine kt.mS λK hK=>?_;unfold kt;go_simp;exact hK _ _ ⟨trivial,D.JD aJ,Qb<|Qd (λu ⟨y,c,e,hr⟩=>⟨y,c,e,nR mR.ok (D.nk 2 _) hr⟩)<|Qb<|Qd (λu ⟨y,c,e,hr⟩=>⟨y,c,e,nR nI.ok (D.nk 2 _) hr⟩)<|Qe⟩;intro n cu W aK bE bF bG;have hz:BP E d (tx x.name) (.slice J G c1) (.slice L I c2) (.slice N l c3) x (n 9) (n 11) W:=bE;rw[aK 9 PM,aK 11 PM]at hz;obtain⟨ai,_,a,b,F,_,aj,_,M⟩:=hz;have aj:=aj rfl;have M:=M rfl;clear aK bF bG;obtain⟨ak,al,rfl,_⟩:=aj.form;obtain⟨am,an,rfl,_⟩:=M.form;obtain⟨ao,au⟩:=Xq x.kM.length;obtain⟨ap,av⟩:=Xq x.lN.length;rw[<-au]at aj F;rw[<-av]at M F;clear au av;have bH:=aj;have bI:=M;have bJ:=NA F;have cv:=ai;have bK:=ai.size;have Q:=(ai.B (d+1) bn PJ).T aD.o;have bL:=NA Q;have aL:=kf F 3 _ rfl;have bM:∀q,S q->W.heap[q]?=E.heap[q]?:=λq f=>ai.B q (PH (X q f)) (PH (X q f));have aW:d<W:=PJ
 have bN:=(ag.T (ai.kh (B:=d) PJ (λk e=>PJ)))
 clear M F Q;simp only[kr,Act.put,NI,NL,NJ];go_wp2_with fail;refine(CX S W N l c3 x.ky (bk.kg (mg.ok .u8) bM) PJ (λq f=>PH (X q f)) (λaX hy V r M hr=>EW S V r aX hr (λq f=>PI (X q f) M.size) (ba aX hy))).M ?_;rintro e V ⟨rfl,aY,aq⟩;obtain⟨O,aM⟩:=Xq W.heap.size;have bO:=aq.size;rw[<-aM]at aY aq aW bK bO⊢;have aN:=NA aM;have bP:=aY;have aO:=aq;have az:=(aq.B d aW).T bJ.o;have Q:=(aq.B (d+1) PJ).T bL.o;have bQ:=NA (ki (i:=3) (u:=.slice (some ⟨O,0,none⟩) l l) az);have aA:∀q,q≠d->(V.setCell ⟨d,3,none⟩ (.slice (some ⟨O,0,none⟩) l l)).heap[q]?=V.heap[q]?:=λq h=>N1 _ _ _ _ h;have bR:=NA (NM V ⟨d,3,none⟩ (.slice (some ⟨O,0,none⟩) l l));have bS:Below d w (V.setCell ⟨d,3,none⟩ (.slice (some ⟨O,0,none⟩) l l)):=kq (bN.T (aO.M PJ)) (NQ _);have bT:=kf az 3 _ rfl;have aP:=ko az 3;have cw:d<V:=PJ
 have bU:=NA Q;clear az Q aL aM;go_upto_region 3 with fail;generalize V.setCell ⟨d,3,none⟩ (.slice (some ⟨O,0,none⟩) l l)=aa at*;have cx:=bR.o;obtain⟨⟨bV,bW,bX,aL⟩,_⟩:=qg bQ.o;have Q:=(aA (d+1) PJ).T bU.o;obtain⟨⟨bY,bZ,ca,cb⟩,⟨cc,cd,ce,cf⟩⟩:=qg Q;have cy:d<aa:=PJ
 have cz:d+1<aa:=PJ
 clear bT aP;obtain⟨aB,ab⟩:=Xq (lC aa (d+1) 0 [tx x.name,.slice ak ao al,.slice am ap an,.slice (some ⟨O,0,none⟩) l l]);have cg:=NA (show aB.heap[d+1]?=some (.cells #[tx x.name,.slice ak ao al,.slice am ap an,.slice (some ⟨O,0,none⟩) l l] 42 (0,0))from by rw[ab];exact ot (r:=[tx x.name,.slice ak ao al,.slice am ap an,.slice (some ⟨O,0,none⟩) l l]) (m:=[_,_,_,_]) (Q) rfl);have aQ:∀q,q≠d->q≠d+1->aB.heap[q]?=aa.heap[q]?:=λq R T=>by rw[ab];exact(nP T).T (rfl)
 have aR:=NA (show aB.heap.size=aa from by rw[ab];exact nh.T (rfl));have ch:Below d w aB:=by rw[ab];exact lF PJ (bS)
 have ci:=NA ab;clear ab Q;go_wp2_with fail;change bodyPost _ _ _ _ _ (lC aa (d+1) 0 [tx x.name,.slice ak ao al,.slice am ap an,.slice (some ⟨O,0,none⟩) l l]);rw[<-ci.o];clear bV bW bX aL bY bZ ca cb cc cd ce cf;have cj:=aT.o;subst cj;have hz:=cg.o;have ck:=kf hz 0 _ rfl;have aP:=kf hz 1 _ rfl;have cl:=kf hz 2 _ rfl;have cm:=kf hz 3 _ rfl;refine NT (v:=.agg #[tx x.name,.slice ak ao al,.slice am ap an,.slice (some ⟨O,0,none⟩) l l]) ?_ rfl ⟨_,_,_,_,_,_,_,_,_,rfl,⟨?_,?_,?_,λq f=>f.2⟩,ch⟩;simp[results,Tryz.results25,go_sem,ck,aP,cl,cm];have e4:=aN.o;refine(bH.kg mR.ok (λq f=>?_)).M mR.ok (λq f=>⟨by have:E<=q:=f.1;omega,PI aR.o f.2⟩);have R:E<=q:=f.1;have T:=f.2;rw[aQ q PJ PJ,aA q PJ,aO.B q PJ];have e4:=aN.o;refine(bI.kg nI.ok (λq f=>?_)).M nI.ok (λq f=>⟨by have:E<=q:=f.1;omega,PI aR.o f.2⟩);have R:E<=q:=f.1;have T:=f.2;rw[aQ q PJ PJ,aA q PJ,aO.B q PJ];have e4:=aN.o;refine(bP.kg (mg.ok .u8) (λq f=>?_)).M (mg.ok .u8) (λq f=>⟨by have:W<=q:=f.1;omega,PI aR.o f.2⟩);have R:W<=q:=f.1;rw[aQ q PJ PJ,aA q PJ]
theorem sg(a:Nat)(f w)(h:uH w a f):Calls prog 34 #[.pointer (some ⟨a,0,none⟩)] w λe w'=>e=.returned (.int .i64 (f.ky.length:Int))/\w'=w:=by
 obtain⟨b,S,c,d,g,i,j,k,l,m,d3,n,c0,c1,c2,c3,c4,hf,_⟩:=h;have hn:=hf.ky.len.1;rw[hn]
 go_enter func34,ntmps34
 go_wp2;go_ret;exact⟨rfl,rfl⟩
def wj(n:Nat)(w:World)(e:Ending)(w':World):Prop:=(∃(a:Option Addr) (b:Nat),e=.returned (.slice a n b))/\Below w w w'
theorem yf(S w)(d i:Nat)(a x)(h:xN S w d a)(hS:∀q,S q->q<w)(hx:a[i]?=some x)(hi:a.length<=1000)(f:x.length<=1000):
  Calls prog 72 #[.pointer (some ⟨d,0,none⟩),i] w (wj x.length w):=by
 obtain⟨v,n,c,hp,hs⟩:=h;have y:=kf hp 0 _ rfl;have z:=(NC.1 hp).1;have hn:=hs.len.1;have A:=(NW.1 hx).1;obtain⟨k,B,r,rfl,l,hr,g⟩:=hs.kI BW.ok i x hx;obtain⟨C,D,E,rfl,b,_,_⟩:=hr;obtain⟨p,s,rfl,F⟩:=b.form;have j:=g 0 _ rfl;rw[NS]at j;have G:=hS k l;have I:(0:Int)<=(i:Int):=PJ
 have J:(i:Int)<(n:Int):=PJ
 have K:¬(i:Int)<0:=PJ
 have L:¬(n:Int)<=(i:Int):=PJ
 obtain⟨m,hm⟩:=Xq x.length;rw[<-hm]at j b f⊢;have t:=(uZ S w p m s x b f hS)
 clear hp hn g hm hx
 go_enter func72,ntmps72
 go_wp2_with fail;refine t.M ?_;rintro e w' ⟨⟨M,N,rfl⟩,u⟩;go_wp2_with fail;go_ret;exact⟨⟨_,_,rfl⟩,u⟩
theorem yg(a i:Nat)(f x w)(h:uH w a f)(b:pj f)(hx:f.ky[i]?=some x):Calls prog 35 #[.pointer (some ⟨a,0,none⟩),i] w (wj (kX [] x.kY).length w):=by
 obtain⟨m,S,n,p,q,r,s,t,u,v,d3,d,c0,c1,c2,c3,c4,hf,hp,y⟩:=h;have c:=b.ky x (NH hx);have g:=pY x.kY [] (λhs j=>PH ((c.kY hs j).1));have z:=c.v2;have A:=b.c3;have k:=(yf S w d i (lD f) _ hp hf.ln (E1 hx) (by rw[xm];omega) (by simp at g;omega))
 go_enter func35,ntmps35
 go_wp2_with fail;refine k.M ?_;rintro e w' ⟨⟨B,C,rfl⟩,l⟩;go_wp2_with fail;go_ret;exact⟨⟨_,_,rfl⟩,l⟩
def Kj(x:Co)(w:World)(e:Ending)(w':World):Prop:=(∃(a:Option Addr) (b c:Nat) (d:Option Addr) (f:Nat),e=.returned (.agg #[tx x.name,.slice a b c,.slice d x.kY.length f]))/\Below w w w'
theorem E2(q i:Nat)(f x w)(h:uH w q f)(hx:f.ky[i]?=some x):Calls prog 73 #[.pointer (some ⟨q,0,none⟩),i] w (Kj x w):=by
 have s:=Ba w (.cells #[Em,Nl,Nl] 105);have u:=(h.kh s)
 have l:=NA (NF w (.cells #[Em,Nl,Nl] 105));have B:=NA hx;have Q:=h.lt;have R:=(NW.1 hx).1;clear hx
 go_enter func73,ntmps73
 go_upto_region 1 with fail;generalize w.alloc (.cells #[Em,Nl,Nl] 105)=y at*;obtain⟨j,t⟩:=Xq w.heap.size;rw[<-t]at l s⊢;have C:=NA t;have T:(0:Int)<=(i:Int):=PJ
 have U:¬(i:Int)<0:=PJ
 have V:¬(f.ky.length:Int)<=(i:Int):=PJ
 have W:(i:Int)<(f.ky.length:Int):=PJ
 have D:=(sg q f y u)
 have X:j<y:=(NC.1 l.o).1;clear t;go_wp2_with fail;refine D.M ?_;rintro e z ⟨rfl,rfl⟩;obtain⟨Y,S,Z,aa,ab,ac,ad,ae,af,ag,d3,ah,c0,c1,c2,c3,c4,hf,_⟩:=u;have hn:=hf.ky.len.1;obtain⟨E,ai,r,rfl,F,hr,n⟩:=hf.ky.kI (mg.ok .u8) i x B.o;obtain⟨a,b,c,d,k,g,rfl,_,G⟩:=hr.qH;have I:=G.len.1;have J:=n 0 _ rfl;have aj:=n 1 _ rfl;have ak:=n 2 _ rfl;rw[NS]at J;have al:=hf.ln E F;rw[<-hn]at c3;obtain⟨⟨am,an,ao⟩,⟨ap,aq,ar⟩⟩:=kS l.o;obtain⟨A,p⟩:=Xq (lC z j 0 [tx x.name,.slice a b c,.slice d k g]);have K:=NA (show A.heap[j]?=some (.cells #[tx x.name,.slice a b c,.slice d k g] 105 (0,0))from by rw[p];exact ot (r:=[tx x.name,.slice a b c,.slice d k g]) (m:=[_,_,_]) l.o rfl);have L:Below j w A:=by rw[p];exact lF (NQ _) s
 have M:=NA p;clear p n hn c0 c1 c2 c4;go_wp2_with fail;change bodyPost _ _ _ _ _ (lC z j 0 [tx x.name,.slice a b c,.slice d k g]);rw[<-M.o];have hz:=K.o;have N:=kf hz 0 _ rfl;have O:=kf hz 1 _ rfl;have P:=kf hz 2 _ rfl;refine NT (v:=.agg #[tx x.name,.slice a b c,.slice d k g]) ?_ rfl ⟨⟨a,b,c,d,g,by rw[I]⟩,by rw[<-C.o];exact L⟩;simp[results,Tryz.results73,go_sem,N,O,P]
theorem C1(w a b c):(Instr.field 105 (.agg #[a,b,c]) 2).run prog w=.ok c w:=PL
theorem zP(a i:Nat)(f x w)(h:uH w a f)(hx:f.ky[i]?=some x):Calls prog 37 #[.pointer (some ⟨a,0,none⟩),i] w (kU (.int .i64 (x.kY.length:Int)) w):=by
 have b:=(E2 a i f x w h hx)
 go_enter func37,ntmps37
 go_wp2_with fail;refine b.M ?_;rintro e w' ⟨⟨c,d,g,j,k,rfl⟩,l⟩;have m:=C1 w' (tx x.name) (.slice c d g) (.slice j x.kY.length k);go_wp2_with fail;go_ret;exact⟨rfl,l⟩
theorem yl(w S)(a i:Nat)(b)(h:xN S w a b)(hi:b.length<=i)(d:i<1000):
  Calls prog 72 #[.pointer (some ⟨a,0,none⟩),i] w (wj 0 w):=by
 obtain⟨e,n,c,hp,hs⟩:=h;have f:=kf hp 0 _ rfl;have g:=(NC.1 hp).1;have hn:=hs.len.1
 go_enter func72,ntmps72
 go_wp2;go_ret;exact⟨⟨_,_,rfl⟩,Below.refl _ _⟩
end Go.Proofs.YtfemcncookpdhaaGreatDoor
namespace Go.Proofs.YtfemcncookpdhaaGreatDoor.C
open Go.RowKit Go.Proofs.Tryz
theorem oO(v l h:Int)(w):Calls prog 66 #[.int .i64 v,l,h] w λe w'=>e=.returned (.bool (kj.mW v l h))/\w=w':=by
 by_cases a:l<=v<;>by_cases b:v<=h;all_goals
  (go_enter func66,ntmps66;go_wp2;go_ret;exact⟨by simp[kj.mW,a,b],rfl⟩)
theorem qR(v l h:Int)(w):Calls prog 152 #[.int .i64 v,l,h] w λe w'=>e=.returned (.bool (kj.mW v l h))/\w=w':=by
 by_cases a:l<=v<;>by_cases b:v<=h;all_goals
  (go_enter func152,ntmps152;go_wp2;go_ret;exact⟨by simp[kj.mW,a,b],rfl⟩)
theorem zS(k:kj.Key)(w)(h:kj.mW k.kind 1 9=false):Calls prog 64 #[po k] w (sA 1 w):=by
 have a:po k=.agg #[.int .u8 k.kind,k.a,k.b,k.n]:=rfl;rw[a];have b:k.kind<1\/(¬k.kind<1/\9<k.kind):=by simp[kj.mW]at h;omega
 generalize k.kind=d at*;rcases b with c|⟨c,e⟩
 all_goals
  go_enter func64,ntmps64
  go_wp2;go_ret;exact⟨rfl,Ba _ _⟩
theorem yh(k:kj.Key)(w)(h:kj.mW k.kind 1 9=true):Calls prog 64 #[po k] w (sA (if kj.nC k then 0 else 1) w):=by
 have f:po k=.agg #[.int .u8 k.kind,k.a,k.b,k.n]:=rfl;rw[f];have hK:kj.nC k=(kj.mW k.a 0 7&&kj.mW k.b 0 (if kj.qm k.kind then 7 else 0)&&kj.mW k.n 0 65535):=by unfold kj.nC;rw[h];simp
 have g:=kj.kinds _ h;generalize kj.nC k=R at*;generalize k.kind=j at*;generalize k.a=i at*;generalize k.b=b at*;generalize k.n=c at*;rcases g with rfl|rfl|rfl|rfl|rfl|rfl|rfl|rfl|rfl;all_goals
  simp[kj.qm]at hK;cases hA:kj.mW i 0 7
  .have a:(if R then(0:Int)else 1)=1:=(by rw[hK,hA];rfl);rw[a]
   go_enter func64,ntmps64
   go_wp2_with (go_at_call 66;refine(oO _ _ _ _).M ?_;rintro e w' ⟨rfl,rfl⟩);go_ret;exact⟨rfl,Ba _ _⟩
  first
  |(cases hB:kj.mW b 0 7<;>cases hN:kj.mW c 0 65535<;>rw[hA,hB,hN]at hK)
  |(cases hB:kj.mW b 0 0<;>cases hN:kj.mW c 0 65535<;>rw[hA,hB,hN]at hK)
  all_goals
   obtain⟨d,a⟩:∃d:Int,(if R then(0:Int)else 1)=d:=⟨_,rfl⟩
   rw[a];rw[hK]at a;simp at a;subst a
   go_enter func64,ntmps64
   go_wp2_with (go_at_call 66;refine(oO _ _ _ _).M ?_;rintro e w' ⟨rfl,rfl⟩);go_ret;exact⟨rfl,Ba _ _⟩
theorem zn{W:World}{base e size:Nat}{v:Value}{n:Nat}{xs:List Value}(h:W.ownsRow base e size v n xs):∀k,v.ownBlock=some k->k<W:=by
 rcases h.2 with⟨rfl,_⟩|⟨g,b,c,rfl,d,a,_⟩
 intro k e;simp[Value.ownBlock]at e;intro k e;obtain rfl:g=k:=by simpa[Value.ownBlock]using e
 exact(NC.1 a).1
theorem qi.zo{w w'}{B B' g:Nat}{a xs}(h:qi w B a xs)(i:B<=B')(hc:∀b,b<B->b≠g->w'.heap[b]?=w.heap[b]?)(d:∀b o,a=some ⟨b,o,none⟩->b≠g):qi w' B' a xs:=λhx=>by obtain⟨b,o,e,f,h⟩:=h hx;exact⟨b,o,e,PJ,λc u hu=>(Cb b (o+c) (hc b f (d b o e))).T (h c u hu)⟩
theorem mF.zo{w w'}{B B' g:Nat}{r:Row}{x:kj.lJ}(h:mF w B r x)(a:B<=B')(hc:∀b,b<B->b≠g->w'.heap[b]?=w.heap[b]?)(c:∀b o,r.p=some ⟨b,o,none⟩->b≠g):mF w' B' r x:=
 ⟨h.ku,h.t,h.d,h.n,h.c,h.m,h.lie.zo a hc c⟩
theorem uv(k:kj.Key)(w):Calls prog 64 #[po k] w (sA (Ag k) w):=by
 unfold Ag;cases h:kj.mW k.kind 1 9;have a:kj.nC k=false:=by unfold kj.nC;rw[h];rfl
 rw[a];exact zS k w h;exact yh k w h
theorem L2.step{f:List lM}{base G k:Nat}{wr a}{c:World}{j:List lM}{r:Row}{x:kj.lJ}{o:Obj}(h:L2 f base G k wr j)(hx:(Go.Proofs.YtfemcncookpdhaaGreatDoor.C.ll f)[k]?=some x)(l:Below wr wr a)(hr:mF a a r x)
  (i:∀b o,r.p=some ⟨b,o,none⟩->G<b) (n:(a.alloc o).grownBy c (some G)) (p:c.ownsRow base 62 7 (.slice (some ⟨G,0,none⟩) (k+1) f.length) (k+1) (kJ j++r.vs)):L2 f base G (k+1) c (j++[(r,x)]):=by
 have t:a.heap.size+1<=c:=by have:=n.size;simpa using this
 have kg:∀{B:Nat} {r:Row} {x:kj.lJ},B<=a->mF a B r x->(∀b o,r.p=some ⟨b,o,none⟩->G<b)->mF c c r x:=λ{B r x} u hr i=>
  hr.zo (g:=G) PJ (λb l s=>(n.B b PO (by simpa using s)).T (Ot a o b PJ)) (λb o e=>PH (i b o e))
 refine⟨by simp[h.len],?_,by rw[og];simpa[kJ,qF]using p,λq d=>?_⟩
 .rw[Go.Proofs.YtfemcncookpdhaaGreatDoor.C.ll,Pw,<-Go.Proofs.YtfemcncookpdhaaGreatDoor.C.ll,h.ll,N5,hx];rfl
 .rcases OI.1 d with d|d;have m:=h.row q d;exact⟨kg l.size (m.1.kh l (NQ _)) m.2,m.2⟩;simp at d;subst d;exact⟨kg (NQ _) hr i,i⟩
theorem Dg(x:Int)(w)(d: -9223372036854775808<=x)(f:x<=9223372036854775807):Calls prog 80 #[.int .i64 x] w λe w'=>e=.returned (.int .u64 (kj.ze x:Int))/\w=w':=by
 by_cases b:x<0
 .go_enter func80,ntmps80
  go_wp2;go_ret;have c:IntKind.u64.wrap (IntKind.u64.wrap x*2)=((2*x+18446744073709551616).toNat:Int):=PN;have a:bits .xor .u64 IntKind.u64.max (IntKind.u64.wrap (IntKind.u64.wrap x*2))=(kj.ze x:Int):=by rw[c,IZ _ PJ];unfold kj.ze;rw[Oj b];omega
  exact⟨by show Ending.returned (.int .u64 (bits .xor .u64 IntKind.u64.max (IntKind.u64.wrap (IntKind.u64.wrap x*2))))=_;rw[a],rfl⟩
 go_enter func80,ntmps80
 go_wp2;go_ret;have a:x*2=(kj.ze x:Int):=by unfold kj.ze;rw[Od PJ];omega
 exact⟨by show Ending.returned (.int .u64 (x*2))=_;rw[a],rfl⟩
end Go.Proofs.YtfemcncookpdhaaGreatDoor.C
namespace Go.Proofs
open Go.Shelf
theorem Tryz.IJ:Go.Proofs.SlLaysF0.n6 Tryz.prog Tryz.BH:={
 mixed:=by kernel_rfl
 f6:=⟨Tryz.f31.name,by decide,Tryz.func31.trans (congrArg some (by kernel_rfl))⟩
 f14:=⟨Tryz.f67.name,by decide,Tryz.func67.trans (congrArg some (by kernel_rfl))⟩
 f15:=Tryz.func68.trans (congrArg some (by kernel_rfl))
 f20:=⟨Tryz.f105.name,by decide,Tryz.func105.trans (congrArg some (by kernel_rfl))⟩
 f21:=⟨Tryz.f106.name,by decide,Tryz.func106.trans (congrArg some (by kernel_rfl))⟩
 f22:=⟨Tryz.f107.name,by decide,Tryz.func107.trans (congrArg some (by kernel_rfl))⟩
 f23:=⟨Tryz.f108.name,by decide,Tryz.func108.trans (congrArg some (by kernel_rfl))⟩
 f24:=⟨Tryz.f109.name,by decide,Tryz.func109.trans (congrArg some (by kernel_rfl))⟩
 f25:=⟨Tryz.f110.name,by decide,Tryz.func110.trans (congrArg some (by kernel_rfl))⟩
 f26:=⟨Tryz.f111.name,by decide,Tryz.func111.trans (congrArg some (by kernel_rfl))⟩
 f27:=⟨Tryz.f112.name,by decide,Tryz.func112.trans (congrArg some (by kernel_rfl))⟩
 f28:=Tryz.func113.trans (congrArg some (by kernel_rfl))
 f29:=Tryz.func114.trans (congrArg some (by kernel_rfl))
 f46:=⟨Tryz.f154.name,by decide,Tryz.func154.trans (congrArg some (by kernel_rfl))⟩
 f47:=Tryz.func155.trans (congrArg some (by kernel_rfl))
 f48:=Tryz.func156.trans (congrArg some (by kernel_rfl))
 f49:=⟨Tryz.f157.name,by decide,Tryz.func157.trans (congrArg some (by kernel_rfl))⟩
 f50:=⟨Tryz.f158.name,by decide,Tryz.func158.trans (congrArg some (by kernel_rfl))⟩
 f57:=⟨Tryz.f184.name,by decide,Tryz.func184.trans (congrArg some (by kernel_rfl))⟩
 t0:=Tryz.underlying0
 a0:=Tryz.isAgg0
 z0:=Tryz.sizeOf0
 v0:=Tryz.zeroValue0
 t3:=Tryz.underlying3
 a3:=Tryz.isAgg3
 z3:=Tryz.sizeOf3
 v3:=Tryz.zeroValue3
 t4:=Tryz.underlying4
 a4:=Tryz.isAgg4
 z4:=Tryz.sizeOf4
 v4:=Tryz.zeroValue4
 t5:=Tryz.underlying5
 a5:=Tryz.isAgg5
 z5:=Tryz.sizeOf5
 v5:=Tryz.zeroValue5
 t9:=Tryz.underlying9
 a9:=Tryz.isAgg9
 z9:=Tryz.sizeOf9
 v9:=Tryz.zeroValue9
 t22:=Tryz.underlying26
 a22:=Tryz.isAgg26
 z22:=Tryz.sizeOf26
 v22:=Tryz.zeroValue26
 t25:=Tryz.underlying125
 a25:=Tryz.isAgg125
 z25:=Tryz.sizeOf125
 v25:=Tryz.zeroValue125
 t39:=Tryz.underlying198
 a39:=Tryz.isAgg198
 z39:=Tryz.sizeOf198
 v39:=Tryz.zeroValue198
 t45:=Tryz.underlying236
 a45:=Tryz.isAgg236
 z45:=Tryz.sizeOf236
 v45:=Tryz.zeroValue236
 t46:=Tryz.underlying237
 a46:=Tryz.isAgg237
 z46:=Tryz.sizeOf237
 v46:=Tryz.zeroValue237
 t50:=Tryz.underlying241
 a50:=Tryz.isAgg241
 z50:=Tryz.sizeOf241
 v50:=Tryz.zeroValue241
 t53:=Tryz.underlying226
 a53:=Tryz.isAgg226
 z53:=Tryz.sizeOf226
 v53:=Tryz.zeroValue226
 t55:=Tryz.underlying138
 a55:=Tryz.isAgg138
 z55:=Tryz.sizeOf138
 v55:=Tryz.zeroValue138
 t66:=Tryz.underlying278
 a66:=Tryz.isAgg278
 z66:=Tryz.sizeOf278
 v66:=Tryz.zeroValue278
 t70:=Tryz.underlying282
 a70:=Tryz.isAgg282
 z70:=Tryz.sizeOf282
 v70:=Tryz.zeroValue282
 t76:=Tryz.underlying317
 a76:=Tryz.isAgg317
 z76:=Tryz.sizeOf317
 v76:=Tryz.zeroValue317
 t77:=Tryz.underlying318
 a77:=Tryz.isAgg318
 z77:=Tryz.sizeOf318
 v77:=Tryz.zeroValue318}
end Go.Proofs
namespace Go.Proofs.YtfemcncookpdhaaGreatDoor.C
open Go.RowKit Go.Shelf Go.Sort Go.Proofs.Tryz
def G4(c:List lM)(g:Nat)(w:World)(e:Ending)(w':World):Prop:=
 e=.returned (.tuple #[])/\∃a:List lM,a.Perm c/\a.Pairwise (λx d=>¬kj.wo d.1.ku x.1.ku)/\qi w' w' (some ⟨g,0,none⟩) (kJ a)/\Below g w w'/\(∀b,b<w.heap.size->b≠g->w'.heap[b]?=w.heap[b]?)/\w.heap.size<=w'
theorem Laid.word{w}(h:Laid w)(k:Nat)(a:k<10):w.cell? ⟨0,k,none⟩=some (uI (kj.words.getD k [])):=by obtain⟨⟨t,c,e⟩,_⟩:=h;have b:k<kj.words.length:=a;exact lI e k _ (by simp[pO,b])
end Go.Proofs.YtfemcncookpdhaaGreatDoor.C
namespace kj
theorem oF{k:Key}(h:nC k=true):(1<=k.kind/\k.kind<=9)/\(0<=k.a/\k.a<=7)/\(0<=k.b/\k.b<=7)/\(0<=k.n/\k.n<=65535):=by unfold nC mW at h;simp only[Bool.and_eq_true,decide_eq_true_eq]at h;refine⟨h.1.1.1,h.1.1.2,⟨h.1.2.1,?_⟩,h.2⟩;have:=h.1.2.2;split at this<;>omega
theorem BJ{k:Key}(h:nC k=true):∀x∈oa k,x.length<=21:=by obtain⟨_,a,b,c⟩:=oF h;intro x hx;unfold oa at hx;simp only[List.mem_append,List.mem_cons,List.not_mem_nil,or_false]at hx;rcases hx with((rfl|rfl)|hx)|rfl;exact G8 _;exact Go.Lib.itoa_length_le _ PJ PJ;split at hx;simp at hx;rw[hx];exact Go.Lib.itoa_length_le _ PJ PJ;simp at hx;exact Go.Lib.itoa_length_le _ PJ PJ
end kj
namespace lX
def oo(c:Nat)(hs vs:List Nat)(k a b:Nat)(d:Int):Bool:=
 if k=2 then decide (a<c)
 else decide (a<hs.length)&&(if k=1 then decide (b<hs.getD a 0)else if k=3 then decide (d<=(vs.getD a 0:Int))else if k=5\/k=6\/k=7 then decide (b<hs.length)else true)
end lX
