import Derived.Test.YtjoamapacifofaaGreatDoorZ2
import Derived.Test.YtjoamapacifofaaGreatDoorZ4
set_option maxRecDepth 1000000
set_option maxHeartbeats 32000000
set_option linter.all false
namespace Go.Proofs.YtjoamapacifofaaGreatDoor
open RowKit Go.Proofs.Tryz kT Maps nu pG ChangeShapes WideShapes ChangeAt
def xS(S:Nat->Prop)(a:Nat)(sc:Sc)(D d left:Nat)(w:World)(aL:d+D=3)(aM:left<=12)
  (X:∀(k left:Nat) W,k<13->left<=12->kr S W a sc left->Calls prog 87 #[.pointer a,k,d] W (pJ S a sc D left W)) (h:kr S w a sc left):
  Calls prog 52 #[.pointer a,d] w (vE S a sc (D+1) left w):=by
 obtain⟨aj,Y,hz0,Z,aa⟩:=Pu Km;have F:=O0 (And.intro Y (And.intro hz0 (And.intro Z aa)));clear Y hz0 Z aa;have aN:=h.lt;have ak:=O0 (show∀b,S b->b<w from λb hb=>(h.kX b hb).2);have al:=O0 X;have H:=h;clear X h
 go_enter func52,ntmps52
 go_wp21
 go_loopg [5] left (λm v wr=>∃(xs:List St),m<=left/\kf (kp .i64 (D+1)) 187 6 (λb=>w<=b/\b≠a) wr w v xs/\(∀x∈xs,mf sc (D+1) x)/\ku (D+1) xs+m<=left/\kr S wr a sc m/\w.grownBy wr (some a))
 .exact⟨[],O9 _,kf.nil _ _ _ _ _ _,SG,by rw[nX];omega,H,kP _ _⟩
 obtain⟨xs,aO,f,ab,N,G,I⟩:=hrel;obtain⟨A,am,rfl,an,aP⟩:=f.form;obtain⟨ac,O⟩:=Xq xs.length;rw[<-O]at f an⊢;have aQ:=I.size;have aR:=DD D xs;have J:=O0 ab;have B:=O0 O;have aS:ac<=left:=SE;obtain⟨⟨aT,ad,aU,ao⟩,ae,af⟩:=G.Dt;clear ab O;by_cases ap:ad=0
 .subst ap;go_wp21;go_ret;exact⟨_,xs,gk,rfl,by have:=f;rw[B.o]at this⊢;exact this,J.o,N,G,I⟩
 have aV:(0:Int)<(ad:Int):=SE;by_cases aW:gk=0
 .have aq:¬(0:Int)<(gk:Int):=SE;go_wp21;go_ret;exact⟨_,xs,gk,rfl,by have:=f;rw[B.o]at this⊢;exact this,J.o,N,G,I⟩
 have aq:(0:Int)<(gk:Int):=SE;go_wp21;apply(mX S a sc gk 14 wr G SE SE).M;rintro e K ⟨k,aX,rfl,P,Q⟩;have c:=f.ge;have R:=f.grown (kp.ok _ _) Q (λz e=>by injection e with e;subst e;exact⟨λh=>h.2 rfl,λC=>SC (c a C.symm)⟩);have ag:=(jR I Q)
 have aY:=Q.size;clear ao ae af;obtain⟨_,ae,af⟩:=P.Dt;clear c;by_cases ar:k=13
 .subst ar;go_wp21;go_ret;exact⟨_,xs,gk,rfl,by have:=R;rw[B.o]at this⊢;exact this,J.o,N,P,ag⟩
 have T:((k:Int)==13)=false:=(by rw[O8];omega);obtain⟨g,rfl⟩:∃g,gk=g+1:=⟨gk-1,SE⟩
 have au:=(P.ze g)
 have U:K.grownBy (K.setCell ⟨a,7,none⟩ (.int .i64 (g:Int))) (some a):=jY K a 7 _;have c:=R.ge;have ah:=(R.grown (kp.ok _ _) U (λz e=>by injection e with e;subst e;exact⟨λh=>h.2 rfl,λC=>SC (c a C.symm)⟩))
 have av:=(jR ag U)
 have aZ:=U.size;clear c;go_wp21;apply(al.o k g _ SE SE au).M;generalize K.setCell ⟨a,7,none⟩ (.int .i64 (g:Int))=ba at*;rintro e E ⟨i,j,FN,l,n,p,r,c1,s,c2,t,c3,x,aw,rfl,hx,ax,bb,ay,V⟩;have c:=ah.ge;have az:=ah.grown (kp.ok _ _) V (λz e=>by injection e with e;subst e;exact⟨λh=>h.2 rfl,λC=>SC (c a C.symm)⟩);have bc:=V.size;have L:=Ba E (.cells (pe i j FN l r c1 n s c2 p t c3) 187);have aA:kp .i64 (D+1) (λb=>(w<=b/\b≠a)/\b<(E.alloc (.cells (pe i j FN l r c1 n s c2 p t c3) 187)).heap.size/\some b≠(Value.slice A ac am).ownBlock) (E.alloc (.cells (pe i j FN l r c1 n s c2 p t c3) 187)) [.int .i64 i,tx j,tx FN,.slice l r c1,.slice n s c2,.slice p t c3] x:=
  (kp.ok _ _).M ((kp.ok _ _).jP hx (λb hb=>L.B b hb.2.1)) (λb hb=>⟨⟨SC hb.1,hb.2.2⟩,by rw[O4];have:=hb.2.1;omega,λe=>SD ((c b e.symm).2) hb.1⟩)
 have ai:=(az.jQ (kp.ok _ _) L)
 have aB:=(ay.jQ L)
 have u:=(jR (jR av V) (kg (jV L) (some a)))
 have aC:=O0 (lI E [.int .i64 i,tx j,tx FN,.slice l r c1,.slice n s c2,.slice p t c3] 187);clear c;go_wp2_with (at_builtin;refine kj rfl _ _ 119 rfl w.heap.size 187 aj _ 6 112 underlying119 F.o.1 F.o.2.1 F.o.2.2.1 F.o.2.2.2 rfl (kp.ok .i64 (D+1)) (λb=>w<=b/\b≠a) _ xs rfl ai ⟨E,0,none⟩ [.int .i64 i,tx j,tx FN,.slice l r c1,.slice n s c2,.slice p t c3] x rfl aC.o aA ?c3 ?c4 ?c5 ?_);case c3=>rw[<-B.o];unfold maxLen;omega
 case c4=>rw[<-B.o];omega
 case c5=>simp;omega
 intro v2 aD aE y aF;have M:=ai.ge;have aG:w.grownBy aD (some a):=⟨y.os.T u.os,y.tape.T u.tape,y.output.T u.output,Pj u.size y.size,λq T aH=>(y.B q (O1 T u.size) (λe=>SC ((M q e.symm).1))).T (u.B q T aH)⟩
 have aI:=aB.rp y (λe=>SC ((M a e.symm).1)) (λb hb e=>by have bd:=(M b e.symm).1;have be:=ak.o b hb;omega);have aJ:=O0 (tJ D xs x);clear aF M;go_wp21
 go_roundg aw
 .exact⟨xs++[x],SE,aE,λaK hy=>by rcases QV.1 hy with hy|hy;exact J.o aK hy;simp at hy;rw[hy];exact ax,by rw[aJ.o];omega,aI,aG⟩
 omega
def kT.uj(p):(ra p 3).length=max (tB p) (zO p):=by have a:=F8 p 0;have b:=F8 p 1;have c:=F8 p 2;rw[if_pos SE]at a;simp only[ra,List.length_append,List.length_nil,a,b,c,tB,zO];split<;>split<;>split<;>omega
def Es{S}{B z:Nat}{w0 m wr}{n:Nat}{y d}{a f:Nat}{g}{nk i:Nat}{u s j C}{c4:Nat}{D}{E F G:Nat}{A:Option Addr}{k:Nat}{p:List Co}(h:LA S B z w0 m n y d a f g nk i u s j C c4 D E F G)(hg:m.grownBy wr (some B))
  (I:kf (lv .i64) 88 3 (λb=>m<=b) wr m (.slice A n k) p) (J:p.length=n) (K:∀v c,p[v]?=some c->xv a j v c):
  oT w0 (.returned (.agg #[tx lW,.slice d a f,.slice g nk i,.slice A n k])) ((((wr.setCell z (tx lW)).setCell ⟨z,1,none⟩ (.slice d a f)).setCell ⟨z,2,none⟩ (.slice g nk i)).setCell ⟨z,3,none⟩ (.slice A n k)):=by
 have M:=h.zB;have N:=h.len.2.2;have O:=hg.size;have t:∀b,b≠z->((((wr.setCell z (tx lW)).setCell ⟨z,1,none⟩ (.slice d a f)).setCell ⟨z,2,none⟩ (.slice g nk i)).setCell ⟨z,3,none⟩ (.slice A n k)).heap[b]?=wr.heap[b]?:=λb hb=>
  (Pd _ _ _ _ hb).T ((Pd _ _ _ _ hb).T ((Pd _ _ _ _ hb).T (Pd _ _ _ _ hb)))
 have r:((((wr.setCell z (tx lW)).setCell ⟨z,1,none⟩ (.slice d a f)).setCell ⟨z,2,none⟩ (.slice g nk i)).setCell ⟨z,3,none⟩ (.slice A n k)).heap.size=wr:=by simp only[O6]
 have w:∀b,B<b->b<m->((((wr.setCell z (tx lW)).setCell ⟨z,1,none⟩ (.slice d a f)).setCell ⟨z,2,none⟩ (.slice g nk i)).setCell ⟨z,3,none⟩ (.slice A n k)).heap[b]?=m.heap[b]?:=λb P L=>(t b SE).T (hg.B b L (λe=>by injection e with e;omega));refine⟨lW,d,g,A,a,f,nk,i,n,k,⟨lW,u,s,p⟩,rfl,⟨_,_,_,rfl,?_,?_,?_⟩,⟨a,j,rfl,h.f2,h.LI,?_,?_,?_,?_,?_,K⟩,?_⟩
 .exact(h.LH.jP lM.ok (λb hb=>w b hb.1 hb.2)).M lM.ok (λb hb=>⟨SC hb.1,by rw[r];have:=hb.2;omega⟩)
 .exact(h.MM.jP mY.ok (λb hb=>w b hb.1 hb.2)).M mY.ok (λb hb=>⟨SC hb.1,by rw[r];have:=hb.2;omega⟩)
 .exact((I.sl (lv.ok _)).jP (lv.ok _) (λb hb=>t b (by rcases hb.1 with h|h<;>omega))).M (lv.ok _) (λb hb=>⟨by rcases hb.1 with h|h<;>omega,by rw[r];exact hb.2⟩)
 .rw[h.len.2.1];exact h.n1
 .rw[h.len.2.1];exact h.n3
 .intro l x;rw[h.MO,Qo]at x;obtain⟨q,_,rfl⟩:=x;have Q:=uj q;have R:1<=tB q/\tB q<=3:=SY;have T:zO q<=3:=(by unfold zO;omega);exact⟨SE,SE,B9 q 3⟩
 .show mU j.length (j.length*j.length) s;rw[h.len.2.1];exact h.MN
 .show p.length=j.length;rw[h.len.2.1];exact J
 .refine⟨hg.os.T h.qi.os,hg.tape.T h.qi.tape,hg.output.T h.qi.output,by rw[r];omega,λb hb=>?_⟩;exact(t b SE).T ((hg.B b SE (λe=>by injection e with e;omega)).T (h.qi.B b hb))
def ke.Cz(l)(h:pfx l [47,47]=true):2<=pre od l:=by obtain⟨t,rfl⟩:=DK l h;rw[mL,if_pos SF,mL,if_pos SF];omega
def ke.IU(s:ByteArray)(h:0<s.size)(a:lp (s[0]).toNat=true)(b:sr (s.data.toList.take (pre lr s.data.toList))=true):
  nE s.data.toList=(2,pre lr s.data.toList):=by
 unfold nE;rw[oA s h,if_pos a,if_pos b]
def ke.Ey(s:ByteArray)(h:0<s.size)(a:lp (s[0]).toNat=true)(b:sr (s.data.toList.take (pre lr s.data.toList))=false)(hn:pre lr s.data.toList<=12):
  nE s.data.toList=(1,pre lr s.data.toList):=by
 unfold nE;rw[oA s h,if_pos a,if_neg (by rw[b];simp),if_pos hn]
def ke.Ez(s:ByteArray)(h:0<s.size)(a:lp (s[0]).toNat=true)(b:sr (s.data.toList.take (pre lr s.data.toList))=false)(hn:¬pre lr s.data.toList<=12):
  nE s.data.toList=(5,s.size):=by
 unfold nE;rw[oA s h,if_pos a,if_neg (by rw[b];simp),if_neg hn];simp
def ke.GW(s:ByteArray)(h:0<s.size)(b:lp (s[0]).toNat=false)(hd:lX (s[0]).toNat=true)(hn:pre lX s.data.toList=1\/(((s[0]).toNat:Int) !=48)=true):
  nE s.data.toList=(3,pre lX s.data.toList):=by
 unfold nE;rw[oA s h,if_neg (by rw[b];simp),if_pos hd,if_pos];rcases hn with a|a<;>simp[a]
def ke.GX(s:ByteArray)(h:0<s.size)(b:lp (s[0]).toNat=false)(hd:lX (s[0]).toNat=false)(k:Nat)(c:k<25)(hn:∀a,a<k->pfx s.data.toList (syms[a]?.getD [])=false)(hp:pfx s.data.toList (syms[k]?.getD [])=true):
  nE s.data.toList=(4,(syms[k]?.getD []).length):=by
 unfold nE;rw[oA s h,if_neg (by rw[b];simp),if_neg (by rw[hd];simp),Bn _ k c hn hp]
def ke.EB(s:ByteArray)(h:0<s.size)(b:lp (s[0]).toNat=false)(hd:lX (s[0]).toNat=false)(hn:∀a,a<25->pfx s.data.toList (syms[a]?.getD [])=false):
  nE s.data.toList=(5,s.size):=by
 unfold nE;rw[oA s h,if_neg (by rw[b];simp),if_neg (by rw[hd];simp),xA _ hn];simp
def rC(s:ByteArray)(w)(hL:sG w):
  Calls prog 164 #[.string s] w λe w'=>e=.returned (.bool (ke.sr s.data.toList))/\w=w':=by
 obtain⟨d,f,g⟩:=hL
 go_enter func164,ntmps164
 go_wp2_with (refine R7 rfl 331 _ rfl 3 rfl d _ f _ g rB rfl sX ?_)
 go_loop [4,6] (λ_ i=>∃k:Nat,k<=39/\i=k/\∀a,a<k->(ke.words[a]?.getD []==s.toList)=false) (λ_ i=>39-(intOf i).toNat)
 .exact⟨0,Pb _,rfl,SE⟩
 obtain⟨k,l,rfl,b⟩:=hrel;by_cases c:k<39
 .have m:=λw=>uk w k c;cases hq:(ke.words[k]?.getD []==s.toList)
  .go_wp2
   go_round
   .refine⟨k+1,SE,SJ,λa j=>?_⟩;by_cases e:a=k;rw[e];exact hq;exact b a SE
   simp[intOf];omega
  go_wp2;go_ret;exact⟨by rw[ke.DJ _ k c (by rw[<-QA];exact hq)];rfl,rfl⟩
 go_wp2;go_ret;exact⟨by rw[ke.Ar _ (λa j=>by rw[<-QA];exact b a SE)];rfl,rfl⟩
def uM(d:Nat)(s:∀d',d=d'+1->Ce d'):Ce d:=by
 intro S w op n name A m c args a hm t W hS;have u:=a.len;have D:=O0 u.1;have y:=O0 hS;have E:=O0 t;have F:=O0 s;clear t hS u s
 go_enter func173,ntmps173
 go_wp21;have G:Below w w (w.alloc (la op name n A m c)):=Ba _ _;have g:=O2 w (la op name n A m c);have I:(w.alloc (la op name n A m c)).heap.size=w+1:=SG
 obtain⟨j,z⟩:=Xq w.heap.size;rw[<-z]at g I⊢;generalize w.alloc (la op name n A m c)=l at*;have J:j<l:=SE
 have X:w<=j:=SE
 have K:=O0 g;clear z g;go_loopw [3,8] (λv i wr=>∃k r:Nat,k<=m/\i=k/\v=r/\r<=d/\Below l l wr) (λ_ i _=>m-(intOf i).toNat)
 .exact⟨0,0,Pb _,rfl,rfl,Pb _,Below.refl _ _⟩
 obtain⟨k,r,Y,rfl,rfl,hr,f⟩:=hrel;have B:=(G.T (f.M SE))
 have L:=f.size;obtain⟨⟨Z,aa,ab,ac⟩,_⟩:=kn ((f.B j J).T K.o);by_cases ad:k<m
 .obtain⟨x,hx⟩:∃x,args[k]?=some x:=Gx (SC D.o);obtain⟨ae,af,ag,rfl,ah,M,b⟩:=(a.jP (ko.ok .u8 d) (λq p=>B.B q (y.o q p))).kt (ko.ok .u8 d) k x hx;have C:=E.o x (O5 hx);have N:=C.two;obtain⟨d',v,rfl,rfl,a⟩:=M.open;obtain⟨O,P,rfl,ai⟩:=a.form;have Q:=b 0 _ rfl;have aj:=b 1 _ rfl;have ak:=b 2 _ rfl;have al:=b 3 _ rfl;rw[Pc]at Q;have R:=(F.o d' rfl S wr x.op x.n x.name O _ P x.args a N C.2 SE (λq p=>SC (y.o q p)))
  obtain⟨am,an⟩:=mG k m;clear b hx;go_wp21;apply R.M;rintro e ao ⟨T,rfl,ap,U⟩;have V:=(f.T (U.M L))
  go_wp21;go_roundw
  .exact⟨k+1,max r T,SE,SJ,by first|rfl|(congr 1;omega)|(simp;omega),SE,V⟩
  simp[intOf];omega
 obtain rfl:k=m:=SE;have hw:IntKind.i64.wrap ((r:Int)+1)=((r+1:Nat):Int):=SI;go_wp21;go_ret;exact⟨r+1,by first|rfl|simp[hw],SE,B⟩
def wJ:∀d,Ce d
 |0=>uM 0 λd' e=>by omega
 |d+1=>uM (d+1) λd' e=>by obtain rfl:d=d':=SE;exact wJ d
def yb(d:Nat)(T:∀d',d=d'+1->J7 d'):J7 d:=by
 intro S w A n c l hv aF U aj aG hS;have V:=hv.len;have aH:n<=12:=SE
 have B:=O0 V.1;have C:=hS;have ak:=hv;have W:=U;have X:=T;clear U hS V T
 go_enter func170,ntmps170
 go_wp21;go_loopw [3,9] (λv i wr=>∃k r:Nat,k<=n/\i=k/\v=r/\r<=tY (d-1) l k/\Below w w wr) (λ_ i _=>n-(intOf i).toNat)
 .exact⟨0,n,Pb _,rfl,rfl,by rw[EE];have:=B.o;omega,Below.refl _ _⟩
 obtain⟨k,r,aI,rfl,rfl,hr,L⟩:=hrel;have y:=L;have D:=L.size;have G:=hr;by_cases aJ:k<n
 .obtain⟨x,hx⟩:∃x,l[k]?=some x:=Gx (SC B.o);obtain⟨m,s,a,rfl,al,z,M⟩:=ak.kt (kp.ok .u8 _) k x hx;have Y:m<w:=C m al;have L:m<wr:=SE;have am:=W x (O5 hx);have hmx:=O5 hx;obtain⟨j,v1,v2,aK,an,rfl,_,Z,aa⟩:=z.open;subst an;rw[Rp]at G;obtain⟨_,_,⟨ao,ap⟩,ab,ac⟩:=am;obtain⟨ad,c2,rfl,_⟩:=Z.form;obtain⟨ae,c3,rfl,_⟩:=aa.form;have N:=(And.intro (M 4 _ rfl) (M 5 _ rfl))
  have O:=DL aj hmx;have af:=(λ(E:World) (F:Below w w E)=>X j rfl S E ad _ c2 x.th (Z.jP (kp.ok .u8 _) (λq t=>F.B q (C q t))) ao ab O.1 SE (λq t=>O1 (C q t) F.size))
  have ag:=(λ(E:World) (F:Below w w E)=>X j rfl S E ae _ c3 x.el (aa.jP (kp.ok .u8 _) (λq t=>F.B q (C q t))) ap ac O.2 SE (λq t=>O1 (C q t) F.size))
  obtain⟨aL,aM⟩:=mG k n;have P:=O0 (ya j hx);have ah:=vV j l;have aN:=EF j l (k+1) n SE;rw[B.o]at ah;have aO:tY j l (k+1)<=40:=SE
  clear ah;obtain⟨aq,Q⟩:=Xq x.th.length;obtain⟨em,R⟩:=Xq x.el.length;rw[<-Q,<-R]at N;rw[<-Q]at af;rw[<-R]at ag;clear M hx ab ac O Q R;go_wp21;refine sB (λx=>Below wr wr x) (λv w=>∃f a:Nat,v=.int .i64 ((r+(f+a):Nat):Int)/\f<=ku j x.th/\a<=ku j x.el/\Below wr wr w) (mi [(·=r),(·=.slice (some ⟨m,s,none⟩) n c),(·=k),(Pp m (s+k*6)),(Pp m (s+k*6+4)),(·=.slice ad aq c2),Tr,(·=.slice (some ⟨m,s,none⟩) n c),(·=k),(Pp m (s+k*6)),(Pp m (s+k*6+5)),(·=.slice ae em c3),Tr,Tr,Tr,Tr]) [(6,λv w=>∃(f:Nat),v=f/\f<=ku j x.th),(12,λv w=>∃(a:Nat),v=a/\a<=ku j x.el),(13,λv w=>∃f a:Nat,v=.int .i64 ((f+a:Nat):Int)/\f<=ku j x.th/\a<=ku j x.el),(14,λv w=>∃f a:Nat,v=.int .i64 ((r+(f+a):Nat):Int)/\f<=ku j x.th/\a<=ku j x.el)] ((Below.refl _ _).drew) ⟨?_,?_,?_,?_,?_,?_,?_,?_,?_,?_,?_,?_,?_,?_,?_,?_,trivial⟩ ?_;intro p w b hf hv hd hw;have e3:=Sl 3 (hw 15 _ 3 rfl rfl rfl);clear hf hv hd hw;exact .q (g:=⟨rfl,b,Qa⟩);exact Pf 0;exact Pf 4;intro p w b hf hv hd hw;have aP:=Sv 13 hv 1;have aQ:=Sv 14 hv 2;exact .q (g:=⟨rfl,b,Qa⟩);exact Pv 15 3;intro p w b hf hv hd hw;have g:=(Cb m (s+k*6+4) ((y.T (b.M D)).B m Y)).T N.1;exact .l 16 (hv 4 _ rfl rfl) g ⟨rfl,b,Qa⟩;intro p w b hf hv hd hw;have aR:=Sv 17 hv 5;replace b:=Hq b;refine .c (af w (y.T (b.o.M D))) ?_;rintro e w' ⟨f,rfl,hr,hb⟩;exact⟨_,rfl,⟨trivial,b.o.T (hb.M b.o.size),Qc ⟨f,rfl,hr⟩<|Qd (λu ⟨a,e,hr⟩=>⟨a,e,hr⟩)<|Q2<|Qe⟩⟩;exact Pf 0;exact Pf 4;intro p w b hf hv hd hw;have aS:=Sv 19 hv 7;have aT:=Sv 20 hv 8;exact .q (g:=⟨rfl,b,Qa⟩);exact Pv 21 9;intro p w b hf hv hd hw;have g:=(Cb m (s+k*6+5) ((y.T (b.M D)).B m Y)).T N.2;exact .l 22 (hv 10 _ rfl rfl) g ⟨rfl,b,Qa⟩;intro p w b hf hv hd hw;have aU:=Sv 23 hv 11;replace b:=Hq b;refine .c (ag w (y.T (b.o.M D))) ?_;rintro e w' ⟨a,rfl,hr,hb⟩;exact⟨_,rfl,⟨trivial,b.o.T (hb.M b.o.size),Qd (λu ⟨f,e,hr⟩=>⟨f,e,hr⟩)<|Qc ⟨a,rfl,hr⟩<|Q2<|Qe⟩⟩;intro p w b hf hv hd hw;obtain⟨f,ar,au⟩:=kE hd 0;have aV:=Sl 18 ar;obtain⟨a,av,aw⟩:=kE hd 1;have aW:=Sl 24 av;have ax:IntKind.i64.wrap ((f:Int)+(a:Int))=(f:Int)+(a:Int):=(by have:=P.o;simp[IntKind.wrap,IntKind.bits,IntKind.signed];omega);exact .q (g:=⟨trivial,b,Q2<|Qc ⟨f,a,S4,au,aw⟩<|Qa⟩);intro p w b hf hv hd hw;have aX:=Sv 12 hv 0;obtain⟨f,a,ay,I,z⟩:=kE hd 2;have aY:=Sl 25 ay;have ax:IntKind.i64.wrap ((r:Int)+((f:Int)+(a:Int)))=(r:Int)+((f:Int)+(a:Int)):=(by have:=P.o;have:=G;simp[IntKind.wrap,IntKind.bits,IntKind.signed];omega);exact .q (g:=⟨trivial,b,Q2<|Qb<|Qc ⟨f,a,S4,I,z⟩<|Qa⟩);intro p w b hf hv hd hw;obtain⟨f,a,az,I,z⟩:=kE hd 3;have aZ:=Sl 26 az;refine .h λK hK=>?_;go_simp;exact hK (⟨f,a,rfl,I,z,b⟩);intro aA ba aB aC;obtain⟨f,a,J,I,z,aD⟩:=aC;replace J:aA 15=.int .i64 ((r+(f+a):Nat):Int):=J;simp only[mP,J];have aE:=(y.T (aD.M D))
  clear aB J;go_wp21;go_roundw
  .exact⟨k+1,r+(f+a),SE,SJ,rfl,by rw[Rp,P.o];have:=G;omega,aE⟩
  simp[intOf];omega
 obtain rfl:k=n:=SE;go_wp21;go_ret;refine⟨r,rfl,?_,y⟩;have hr:=G;have ai:=vV (d-1) l;rw[B.o]at ai;cases d with
 |zero=>
  cases l with
  |nil=>have:=B.o;simp[tY]at*;omega
  |cons x l=>exact(W x SG).elim
 |succ d=>rw[Rp]at ai hr;omega
def Aw:∀d,J7 d
 |0=>yb 0 λd' e=>SE
 |d+1=>yb (d+1) λd' e=>(Nat.succ.inj e)▸Aw d
def CD:zX 172:=by
 intro S w b o d s r hL y hr z hb l;have C:=z.five;obtain⟨d',v1,v2,P,rfl,rfl,f,_,_⟩:=hr.open;obtain⟨_,D,_⟩:=z;obtain⟨A,c,rfl,hc⟩:=f.form;obtain⟨n,B⟩:=Xq s.kA.length;rw[<-B]at f hc y C;have Q:=y 3 _ rfl
 go_enter func172,ntmps172
 go_wp21;go_loopw [10] (λi wr=>∃k:Nat,k<=n/\i=k/\Below w w wr) (λi _=>n-(intOf i).toNat)
 .exact⟨0,Pb _,rfl,Below.refl _ _⟩
 obtain⟨k,R,rfl,j⟩:=hrel;have T:=j.size;by_cases U:k<n
 .obtain⟨x,hx⟩:∃x,s.kA[k]?=some x:=Gx (SC B);obtain⟨V,W,r,rfl,X,hr,E⟩:=(f.jP (ko.ok .u8 De) (λq g=>j.B q (l q g))).kt (ko.ok .u8 De) k x hx;have m:=D x (O5 hx);have F:=m.two;have Y:De=6:=rfl;obtain⟨p,v,G,rfl,f⟩:=hr.open;obtain⟨t,u,rfl,_⟩:=f.form;have I:=E 0 _ rfl;rw[Pc]at I;have J:∀a∈x.args,lT p a:=(by rw[G]at m;exact m.2);have K:=f.jP (ko.ok .u8 p) (w':=wr.alloc (la x.op x.name x.n t x.args.length u)) (λq g=>Ph _ _ (SC (l q g)));have L:=(wJ p S _ x.op x.n x.name t _ u x.args K F J SE (λq g=>by rw[O4];have:=l q g;omega))
  have M:=(j.alloc SE (la x.op x.name x.n t x.args.length u))
  have Z:(0:Int)<=(k:Int):=SE;go_wp21;apply L.M;rintro e aa ⟨ab,rfl,ac,N⟩;have O:=(M.T (N.M (by rw[O4];omega)))
  go_wp21;go_roundw
  .exact⟨k+1,SE,SJ,O⟩
  simp[intOf];omega
 obtain rfl:k=n:=SE;go_wp21;go_ret;exact⟨rfl,j⟩
def uN(d:Nat)(aI:J9 d):Ka d:=by
 intro S w Y Z aa sc j k l p r cv s y z A m c op n name args t h hv aJ;have hf:=MW.of aJ;have aE:=hv.len;have C:Below w w ((w.alloc (mT j k l p r cv s y z)).alloc (la op name n A m c)):=(Ba _ _).alloc SG _;have aF:((w.alloc (mT j k l p r cv s y z)).alloc (la op name n A m c)).heap[w.heap.size]?=some (mT j k l p r cv s y z):=(Ph _ _ SG).T (O2 _ _);have aG:((w.alloc (mT j k l p r cv s y z)).alloc (la op name n A m c)).heap[w.heap.size+1]?=some (la op name n A m c):=by have:=O2 (w.alloc (mT j k l p r cv s y z)) (la op name n A m c);rwa [O4]at this
 have aK:((w.alloc (mT j k l p r cv s y z)).alloc (la op name n A m c)).heap.size=w+2:=SG
 have H:=(h.jQ C)
 have ah:=(hv.jP (ko.ok .u8 d) (λq aL=>C.B q (h.kX q aL)))
 have ai:=O0 aE.1;have aj:=C;have N:=O0 aF;have O:=O0 aG;have an:=aI;clear h aE aF aG;obtain⟨B,D⟩:=Xq ((w.alloc (mT j k l p r cv s y z)).alloc (la op name n A m c));rw[<-D]at H ah aj N O aK;have ao:=O0 D;clear D;cases hf with
 |num h ar V=>
  subst ar;have ab:args=[]:=V;have P:m=0:=(by have:=ai.o;rw[ab]at this;exact this.symm);have ap:BV m 0=0:=(by rw[P];rfl);have W:m<=2:=SE;clear P;have X:op=1\/op=4:=h;rcases X with rfl|rfl;all_goals
   go_enter func222,ntmps222
   go_wp21;have D:=ao.o;rw[<-D];clear D;refine(an S B Y Z aa sc j k l p r cv s y z A m c args 0 H ah W (by rw[ab];simp)).M ?_;rintro e i ⟨rfl,b⟩;obtain⟨b0,C⟩:=Xq w.heap.size;obtain⟨f,E⟩:=Xq (w.heap.size+1);rw[<-E]at O⊢;rw[<-C]at N⊢;have aq:=b.size;have R:b0<i:=SE;have T:f<i:=SE;have F:=O0 ((b.B b0 SE).T N.o);have G:=O0 ((b.B f SE).T O.o);have ag:=(H.jQ b)
   have U:=(aj.T (b.M SE))
   obtain⟨⟨I,J,L⟩,_⟩:=kz F.o;obtain⟨⟨ac,ad,M,e3⟩,_⟩:=kn G.o;clear E C;rw[ap];go_wp21;refine Pa (v:=.tuple we) ?_ rfl ⟨rfl,U⟩;simp[results,Tryz.results222,go_sem]
 |Ih h ar V=>
  subst ar;have ab:args=[]:=V;have P:m=0:=(by have:=ai.o;rw[ab]at this;exact this.symm);have ap:BV m 0=0:=(by rw[P];rfl);have W:m<=2:=SE;clear P;have X:op=2\/op=3:=h;rcases X with rfl|rfl;all_goals
   go_enter func222,ntmps222
   go_wp21;have D:=ao.o;rw[<-D];clear D;refine(an S B Y Z aa sc j k l p r cv s y z A m c args 0 H ah W (by rw[ab];simp)).M ?_;rintro e i ⟨rfl,b⟩;obtain⟨b0,C⟩:=Xq w.heap.size;obtain⟨f,E⟩:=Xq (w.heap.size+1);rw[<-E]at O⊢;rw[<-C]at N⊢;have aq:=b.size;have R:b0<i:=SE;have T:f<i:=SE;have F:=O0 ((b.B b0 SE).T N.o);have G:=O0 ((b.B f SE).T O.o);have ag:=(H.jQ b)
   have U:=(aj.T (b.M SE))
   obtain⟨⟨I,J,L⟩,_⟩:=kz F.o;obtain⟨⟨ac,ad,M,e3⟩,_⟩:=kn G.o;clear E C;rw[ap];go_wp21;refine Pa (v:=.tuple #[.int .u8 2,Em,.int .i64 0]) ?_ rfl ⟨rfl,U⟩;simp[results,Tryz.results222,go_sem]
 |name h hn V=>
  have ab:args=[]:=V;have P:m=0:=(by have:=ai.o;rw[ab]at this;exact this.symm);have ap:BV m 0=0:=(by rw[P];rfl);have W:m<=2:=SE;clear P;have X:op=5:=h;have au:yU sc name t:=hn;subst X
  go_enter func222,ntmps222
  go_wp21;have D:=ao.o;rw[<-D];clear D;refine(an S B Y Z aa sc j k l p r cv s y z A m c args 0 H ah W (by rw[ab];simp)).M ?_;rintro e i ⟨rfl,b⟩;obtain⟨b0,C⟩:=Xq w.heap.size;obtain⟨f,E⟩:=Xq (w.heap.size+1);rw[<-E]at O⊢;rw[<-C]at N⊢;have aq:=b.size;have R:b0<i:=SE;have T:f<i:=SE;have F:=O0 ((b.B b0 SE).T N.o);have G:=O0 ((b.B f SE).T O.o);have ag:=(H.jQ b)
  have U:=(aj.T (b.M SE))
  obtain⟨⟨I,J,L⟩,_⟩:=kz F.o;obtain⟨⟨ac,ad,M,e3⟩,_⟩:=kn G.o;clear E C;rw[ap];go_wp21;apply(CH S i Y Z aa sc j k l p r cv s y z name t ag au).M;rintro e aM ⟨rfl,ay⟩;have aN:=(U.T (ay.M SE))
  have aW:=ay.size;clear I J L ac ad M e3;obtain⟨⟨I,J,L⟩,_⟩:=kz ((ay.B b0 R).T F.o);obtain⟨⟨ac,ad,M,e3⟩,_⟩:=kn ((ay.B f T).T G.o);go_wp21;apply(rX _ _ _ t name aM).M;rintro e aX ⟨rfl,aO⟩;have aP:=(aN.T (aO.M SE))
  go_wp21;refine Pa (v:=.tuple (zc t)) ?_ rfl ⟨rfl,aP⟩;simp[results,Tryz.results222,go_sem]
 |size h ar az hn V=>
  have ab:args=[]:=V;have P:m=0:=(by have:=ai.o;rw[ab]at this;exact this.symm);have ap:BV m 0=0:=(by rw[P];rfl);have W:m<=2:=SE;clear P;subst ar;have X:op=8:=h;have au:name=nm 116 0:=hn;subst X au
  go_enter func222,ntmps222
  go_wp21;have D:=ao.o;rw[<-D];clear D;refine(an S B Y Z aa sc j k l p r cv s y z A m c args 0 H ah W (by rw[ab];simp)).M ?_;rintro e i ⟨rfl,b⟩;obtain⟨b0,C⟩:=Xq w.heap.size;obtain⟨f,E⟩:=Xq (w.heap.size+1);rw[<-E]at O⊢;rw[<-C]at N⊢;have aq:=b.size;have R:b0<i:=SE;have T:f<i:=SE;have F:=O0 ((b.B b0 SE).T N.o);have G:=O0 ((b.B f SE).T O.o);have ag:=(H.jQ b)
  have U:=(aj.T (b.M SE))
  obtain⟨⟨I,J,L⟩,_⟩:=kz F.o;obtain⟨⟨ac,ad,M,e3⟩,_⟩:=kn G.o;clear E C;rw[ap];go_wp21;clear I J L ac ad M e3;refine Ri (λx=>Below i i x) (mi [(·=.agg (ob j k l p r cv s y z)),(Pp f 1),(·=tx (nm 116 0)),(·=.agg (ob j k l p r cv s y z)),(Pp f 1),(·=tx (nm 116 0)),(·=.int .i64 0),(·=.tuple we),(·=.int .u8 1),(·=Em),(·=.int .i64 0),(·=.int .u8 1),(·=Em),(·=.int .i64 0)]) [] ((Below.refl _ _).drew) ⟨?_,?_,?_,?_,?_,?_,?_,?_,?_,?_,?_,?_,?_,?_,trivial⟩ ?_;intro ae w a hf hv hd hw;have M:=Sl 2 (hf 2 rfl);obtain⟨⟨I,J,L⟩,_⟩:=kz ((a.B b0 R).T F.o);replace a:=Hq a;exact .q (g:=⟨rfl,a.o,Qa⟩);exact .f 3;exact .l 50 1 λ_ a=>jU ((a.B f T).T G.o) 1 _ rfl;intro ae w a hf hv hd hw;have M:=Sl 2 (hf 2 rfl);obtain⟨⟨I,J,L⟩,_⟩:=kz ((a.B b0 R).T F.o);replace a:=Hq a;exact .q (g:=⟨rfl,a.o,Qa⟩);exact .f 3;exact .l 53 4 λ_ a=>jU ((a.B f T).T G.o) 1 _ rfl;intro ae w a hf hv hd hw;have aY:=Sv 52 hv 3;have aZ:=Sv 54 hv 5;replace a:=Hq a;refine .h λK hK=>?_;go_simp;refine⟨rfl,?_⟩;refine Calls.M (rD S w Y Z aa sc j k l p r cv s y z (ag.jQ a.o) az) ?_;rintro e w' ⟨he,hb⟩;subst he;exact⟨_,rfl,hK ⟨rfl,a.o.T (hb.M a.o.size),Qe⟩⟩;intro ae w a hf hv hd hw;have ba:=Sv 49 hv 0;have bb:=Sv 51 hv 2;have bc:=Sv 55 hv 6;replace a:=Hq a;refine .h λK hK=>?_;go_simp;refine⟨rfl,?_⟩;refine Calls.M (rX _ _ _ 1 (nm 116 0) w) ?_;rintro e w' ⟨he,hb⟩;subst he;exact⟨_,rfl,hK ⟨rfl,a.o.T (hb.M a.o.size),Qe⟩⟩;exact .v 56 7;exact .v 56 7;exact .v 56 7;exact .v 57 8;exact .v 58 9;exact .v 59 10;intro af aH av Q aw;have ak:af 11=.int .u8 1:=Q 11 SF;have al:af 12=Em:=Q 12 SF;have am:af 13=.int .i64 0:=Q 13 SF;have ax:=av;clear Q aw;simp only[mP,ak,al,am];clear ak al am;go_wp21;refine Pa (v:=.tuple we) ?_ rfl ⟨rfl,(U.T (ax.M SE))⟩;simp[results,Tryz.results222,go_sem]
 |get h az hn aB aC V=>
  have P:¬m=0:=(by have:=ai.o;have aD:0<args.length:=aB;omega);have W:m<=2:=(by have:=ai.o;have aD:args.length<=2:=aC;omega);have au:name=nm 116 0:=hn;subst au;have X:(op=6/\t=1)\/(op=7/\t=2):=h;have aA:BV m 1=1:=(by unfold BV;rw[Pn P]);rcases X with⟨rfl,rfl⟩|⟨rfl,rfl⟩
  .go_enter func222,ntmps222
   go_wp21;have D:=ao.o;rw[<-D];clear D;apply(an S B Y Z aa sc j k l p r cv s y z A m c args 1 H ah W V).M;rintro e i ⟨rfl,b⟩;obtain⟨b0,C⟩:=Xq w.heap.size;obtain⟨f,E⟩:=Xq (w.heap.size+1);rw[<-E]at O⊢;rw[<-C]at N⊢;have aq:=b.size;have R:b0<i:=SE;have T:f<i:=SE;have F:=O0 ((b.B b0 SE).T N.o);have G:=O0 ((b.B f SE).T O.o);have ag:=(H.jQ b)
   have U:=(aj.T (b.M SE))
   obtain⟨⟨I,J,L⟩,_⟩:=kz F.o;obtain⟨⟨ac,ad,M,e3⟩,_⟩:=kn G.o;clear E C;rw[aA];go_wp21;clear I J L ac ad M e3;refine Ri (λx=>Below i i x) (mi [(·=.agg (ob j k l p r cv s y z)),(·=.int .u8 1),(Pp f 1),(·=tx (nm 116 0)),(·=.agg (ob j k l p r cv s y z)),(Pp f 1),(·=tx (nm 116 0)),(·=.int .i64 0),(·=.tuple we),(·=.int .u8 1),(·=Em),(·=.int .i64 0),(·=.int .u8 1),(·=Em),(·=.int .i64 0)]) [] ((Below.refl _ _).drew) ⟨?_,?_,?_,?_,?_,?_,?_,?_,?_,?_,?_,?_,?_,?_,?_,trivial⟩ ?_;intro ae w a hf hv hd hw;have M:=Sl 2 (hf 2 rfl);obtain⟨⟨I,J,L⟩,_⟩:=kz ((a.B b0 R).T F.o);replace a:=Hq a;exact .q (g:=⟨rfl,a.o,Qa⟩);exact .f 8;exact .f 3;exact .l 87 2 λ_ a=>jU ((a.B f T).T G.o) 1 _ rfl;intro ae w a hf hv hd hw;have M:=Sl 2 (hf 2 rfl);obtain⟨⟨I,J,L⟩,_⟩:=kz ((a.B b0 R).T F.o);replace a:=Hq a;exact .q (g:=⟨rfl,a.o,Qa⟩);exact .f 3;exact .l 90 5 λ_ a=>jU ((a.B f T).T G.o) 1 _ rfl;intro ae w a hf hv hd hw;have aQ:=Sv 89 hv 4;have aR:=Sv 91 hv 6;replace a:=Hq a;refine .h λK hK=>?_;go_simp;refine⟨rfl,?_⟩;refine Calls.M (rD S w Y Z aa sc j k l p r cv s y z (ag.jQ a.o) az) ?_;rintro e w' ⟨he,hb⟩;subst he;exact⟨_,rfl,hK ⟨rfl,a.o.T (hb.M a.o.size),Qe⟩⟩;intro ae w a hf hv hd hw;have aS:=Sv 85 hv 0;have aT:=Sv 86 hv 1;have aU:=Sv 88 hv 3;have aV:=Sv 92 hv 7;replace a:=Hq a;refine .h λK hK=>?_;go_simp;refine⟨rfl,?_⟩;refine Calls.M (rX _ _ _ 1 (nm 116 0) w) ?_;rintro e w' ⟨he,hb⟩;subst he;exact⟨_,rfl,hK ⟨rfl,a.o.T (hb.M a.o.size),Qe⟩⟩;exact .v 93 8;exact .v 93 8;exact .v 93 8;exact .v 94 9;exact .v 95 10;exact .v 96 11;intro af aH av Q aw;have ak:af 12=.int .u8 1:=Q 12 SF;have al:af 13=Em:=Q 13 SF;have am:af 14=.int .i64 0:=Q 14 SF;have ax:=av;clear Q aw;simp only[mP,ak,al,am];clear ak al am;go_wp21;refine Pa (v:=.tuple we) ?_ rfl ⟨rfl,(U.T (ax.M SE))⟩;simp[results,Tryz.results222,go_sem]
  go_enter func222,ntmps222
  go_wp21;have D:=ao.o;rw[<-D];clear D;apply(an S B Y Z aa sc j k l p r cv s y z A m c args 1 H ah W V).M;rintro e i ⟨rfl,b⟩;obtain⟨b0,C⟩:=Xq w.heap.size;obtain⟨f,E⟩:=Xq (w.heap.size+1);rw[<-E]at O⊢;rw[<-C]at N⊢;have aq:=b.size;have R:b0<i:=SE;have T:f<i:=SE;have F:=O0 ((b.B b0 SE).T N.o);have G:=O0 ((b.B f SE).T O.o);have ag:=(H.jQ b)
  have U:=(aj.T (b.M SE))
  obtain⟨⟨I,J,L⟩,_⟩:=kz F.o;obtain⟨⟨ac,ad,M,e3⟩,_⟩:=kn G.o;clear E C;rw[aA];go_wp21;clear I J L ac ad M e3;refine Ri (λx=>Below i i x) (mi [(·=.agg (ob j k l p r cv s y z)),(·=.int .u8 2),(Pp f 1),(·=tx (nm 116 0)),(·=.agg (ob j k l p r cv s y z)),(Pp f 1),(·=tx (nm 116 0)),(·=.int .i64 0),(·=.tuple #[.int .u8 2,Em,.int .i64 0]),(·=.int .u8 2),(·=Em),(·=.int .i64 0),(·=.int .u8 2),(·=Em),(·=.int .i64 0)]) [] ((Below.refl _ _).drew) ⟨?_,?_,?_,?_,?_,?_,?_,?_,?_,?_,?_,?_,?_,?_,?_,trivial⟩ ?_;intro ae w a hf hv hd hw;have M:=Sl 2 (hf 2 rfl);obtain⟨⟨I,J,L⟩,_⟩:=kz ((a.B b0 R).T F.o);replace a:=Hq a;exact .q (g:=⟨rfl,a.o,Qa⟩);exact .f 8;exact .f 3;exact .l 87 2 λ_ a=>jU ((a.B f T).T G.o) 1 _ rfl;intro ae w a hf hv hd hw;have M:=Sl 2 (hf 2 rfl);obtain⟨⟨I,J,L⟩,_⟩:=kz ((a.B b0 R).T F.o);replace a:=Hq a;exact .q (g:=⟨rfl,a.o,Qa⟩);exact .f 3;exact .l 90 5 λ_ a=>jU ((a.B f T).T G.o) 1 _ rfl;intro ae w a hf hv hd hw;have aQ:=Sv 89 hv 4;have aR:=Sv 91 hv 6;replace a:=Hq a;refine .h λK hK=>?_;go_simp;refine⟨rfl,?_⟩;refine Calls.M (rD S w Y Z aa sc j k l p r cv s y z (ag.jQ a.o) az) ?_;rintro e w' ⟨he,hb⟩;subst he;exact⟨_,rfl,hK ⟨rfl,a.o.T (hb.M a.o.size),Qe⟩⟩;intro ae w a hf hv hd hw;have aS:=Sv 85 hv 0;have aT:=Sv 86 hv 1;have aU:=Sv 88 hv 3;have aV:=Sv 92 hv 7;replace a:=Hq a;refine .h λK hK=>?_;go_simp;refine⟨rfl,?_⟩;refine Calls.M (rX _ _ _ 2 (nm 116 0) w) ?_;rintro e w' ⟨he,hb⟩;subst he;exact⟨_,rfl,hK ⟨rfl,a.o.T (hb.M a.o.size),Qe⟩⟩;exact .v 93 8;exact .v 93 8;exact .v 93 8;exact .v 94 9;exact .v 95 10;exact .v 96 11;intro af aH av Q aw;have ak:af 12=.int .u8 2:=Q 12 SF;have al:af 13=Em:=Q 13 SF;have am:af 14=.int .i64 0:=Q 14 SF;have ax:=av;clear Q aw;simp only[mP,ak,al,am];clear ak al am;go_wp21;refine Pa (v:=.tuple #[.int .u8 2,Em,.int .i64 0]) ?_ rfl ⟨rfl,(U.T (ax.M SE))⟩;simp[results,Tryz.results222,go_sem]
 |ops u h aB aC V=>
  have P:¬m=0:=(by have:=ai.o;have aD:0<args.length:=aB;omega);have W:m<=2:=(by have:=ai.o;have aD:args.length<=2:=aC;omega);have X:(op,u,t)∈Gb:=h;have aA:BV m u=u:=(by unfold BV;rw[Pn P]);simp only[Gb,Pz,Prod.mk.injEq,Ps,PU]at X;rcases X with⟨rfl,rfl,rfl⟩|⟨rfl,rfl,rfl⟩|⟨rfl,rfl,rfl⟩|⟨rfl,rfl,rfl⟩|⟨rfl,rfl,rfl⟩|⟨rfl,rfl,rfl⟩|⟨rfl,rfl,rfl⟩|⟨rfl,rfl,rfl⟩|⟨rfl,rfl,rfl⟩|⟨rfl,rfl,rfl⟩|⟨rfl,rfl,rfl⟩|⟨rfl,rfl,rfl⟩|⟨rfl,rfl,rfl⟩|⟨rfl,rfl,rfl⟩|⟨rfl,rfl,rfl⟩
  all_goals
   go_enter func222,ntmps222
   go_wp21;have D:=ao.o;rw[<-D];clear D;apply(an S B Y Z aa sc j k l p r cv s y z A m c args _ H ah W V).M;rintro e i ⟨rfl,b⟩;obtain⟨b0,C⟩:=Xq w.heap.size;obtain⟨f,E⟩:=Xq (w.heap.size+1);rw[<-E]at O⊢;rw[<-C]at N⊢;have aq:=b.size;have R:b0<i:=SE;have T:f<i:=SE;have F:=O0 ((b.B b0 SE).T N.o);have G:=O0 ((b.B f SE).T O.o);have ag:=(H.jQ b)
   have U:=(aj.T (b.M SE))
   obtain⟨⟨I,J,L⟩,_⟩:=kz F.o;obtain⟨⟨ac,ad,M,e3⟩,_⟩:=kn G.o;clear E C;rw[aA];go_wp21;refine Pa (v:=.tuple #[.int .u8 _,Em,.int .i64 0]) ?_ rfl ⟨rfl,U⟩;simp[results,Tryz.results222,go_sem]
def nj.drew{X a w}(h:nj X a w):nj X a w.drew:=⟨h.os,h.tape,h.output,h.size,h.B⟩
def nj.set{X w}{q i:Nat}{u}(a:X q):nj X w (w.setCell ⟨q,i,none⟩ u):=⟨rfl,rfl,rfl,by simp[World.setCell],λk b hx=>Po _ _ _ _ (by intro e;exact hx (e▸a))⟩
def kT.ES(l)(i:Nat)(x:Int):(pd l).setIfInBounds i (.int .i64 x)=pd (l.set i x):=by simp[pd]
def mQ.set{T w}{b n:Nat}(h:mQ T w b n)(i:Nat){u}(hu:u.oneCell'=true):mQ T (w.setCell ⟨b,i,none⟩ u) b n:=by obtain⟨a,c,d,e⟩:=h;refine⟨a.setIfInBounds i u,jO c,by simpa using d,λx hx=>?_⟩;rw[RN]at hx;rcases RT hx with hx|hx;exact e x hx;rw[hx];exact hu
def yq:∀{xs ys:List Int},cmpL xs ys=0↔xs=ys
 |[],[]=>by simp[cmpL]
 |[],_::_=>by simp[cmpL]
 |_::_,[]=>by simp[cmpL]
 |x::xs,y::ys=>by
  unfold cmpL;split
  rename_i h
  rw[yq,qC.1 h];simp
  rename_i h
  simp only[h,Qf,false_iff,not_and];exact λe=>absurd (qC.2 e) h
