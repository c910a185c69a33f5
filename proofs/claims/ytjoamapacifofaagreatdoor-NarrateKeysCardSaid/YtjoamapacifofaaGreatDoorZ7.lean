import Derived.Test.YtjoamapacifofaaGreatDoorZ2
import Derived.Test.YtjoamapacifofaaGreatDoorZ4
set_option maxRecDepth 1000000
set_option maxHeartbeats 32000000
set_option linter.all false
namespace Go.Proofs.YtjoamapacifofaaGreatDoor
open RowKit Go.Proofs.Tryz kT Maps nu pG ChangeShapes WideShapes ChangeAt
def mM(c)(n:Nat)(w)(hn:n<=3):Calls prog 27 #[.int .u8 (c.toNat:Int),n] w (lY (pW c n) w):=by
 obtain⟨d,f,hz0,g,j⟩:=Pu pO
 go_enter func27,ntmps27
 go_wp2;go_loopw [5,6] (λv i wr=>∃k:Nat,k<=n/\i=k/\kf kh 9 1 (λ_=>False) wr w v (pW c k)/\Below w w wr) (λ_ i _=>n-(intOf i).toNat)
 .exact⟨0,Pb _,rfl,kf.nil _ _ _ _ _ _,Below.refl _ _⟩
 obtain⟨k,u,rfl,a,b⟩:=hrel;obtain⟨A,x,rfl,l,y⟩:=a.form;rw[ld]at a l⊢;have hz:=b.size;by_cases B:k<n
 .have hcv:=Iw wr c k SE;have C:IntKind.u8.wrap (48+(k:Int))=48+(k:Int):=SI;have m:=GN c k;go_wp2_with (at_builtin;refine kj rfl _ _ 78 rfl w.heap.size 9 d _ 1 16 underlying78 f hz0 g j rfl kh.ok (λ_=>False) _ (pW c k) rfl (a.jQ kh.ok ((Ba _ _).alloc SG _)) ⟨wr+1,0,none⟩ [tx (nm c k)] (nm c k) rfl ?c1 rfl ?c3 ?c4 ?c5 ?_);case c1=>have:=lI (wr.alloc (tt c.toNat k)) [tx (nm c k)] 9;rwa [O4]at this
  case c3=>rw[ld];unfold maxLen;omega
  case c4=>rw[ld];omega
  case c5=>simp;omega
  intro v1 p q r _;have s:kf kh 9 1 (λ_=>False) p w v1 (pW c (k+1)):=(by rw[m];exact q);have t:=(((b.alloc hz _).alloc SK _).grown r SK (λz e=>(a.ge z e).1))
  go_wp2;go_roundw
  .exact⟨k+1,SE,SJ,s,t⟩
  simp[intOf];omega
 obtain rfl:k=n:=SE;go_wp2;go_ret;exact⟨_,rfl,a,b⟩
def kf.ny{P w}{lo:Nat}{v l}(h:kf kh 9 1 P w lo v l)(a:0<l.length):
  ∃b o c,v=.slice (some ⟨b,o,none⟩) l.length c/\lo<=b/\b<w/\l.length<=c/\c<=9223372036854775807/\∀k x,l[k]?=some x->w.cell? ⟨b,o+k,none⟩=some (tx x):=by
 obtain⟨p,d,q⟩:=h.own;obtain⟨g,f,e,hg,i⟩:=World.ownsRow.form d a;subst e;have hs:=h.sl kh.ok;obtain⟨A,c,j,m,n⟩:=h.form;injection j with _ _ e3;subst e3;exact⟨g,0,f,rfl,hg,i,m,n,λk x hx=>(hs.Kl k x hx).2⟩
def nT(S)(b:Nat)(sc)(left:Nat)(w)(h:kr S w b sc left)(lD:nW sc):Calls prog 136 #[.pointer b] w (rz S b sc left w):=by
 have n:=lD.F6;have E:=lD.F7;have q:∀W,Calls prog 27 #[.int .u8 120,.int .i64 3] W (lY (pW 120 3) W):=λW=>mM 120 3 W SE;have H:kr S w.drew b sc left:=h.jQ (Below.refl w w).drew;have r:b<w:=h.lt;obtain⟨s,_⟩:=h.cells
 go_enter func136,ntmps136
 go_wp2;go_region_with (first|(go_at_call 27;refine Calls.M (q _) ?_;rintro e t ⟨vN,he,i,f⟩;have u:=(H.jQ f);obtain⟨d,j,cN,k,v,x,y,F,l⟩:=i.ny (by rw[ld];omega);rw[ld]at k y;subst k he;have z:=l;have c:=(jV f);have G:=(f.cell (p:=⟨b,0,none⟩) r).T s;have I:w<=d:=v;clear i l)|(go_at_call 86;refine Calls.M (mX S b sc left sc.ints _ u n SE) ?_;rintro e A ⟨a,B,rfl,m,g⟩;have J:(0:Int)<=(a:Int):=SE;have K:(a:Int)<3:=SE;have hx:A.cell? ⟨d,j+a,none⟩=some (tx (nm 120 a)):=(Cb d (j+a) (g.B d x (λe=>by injection e with e;omega))).T (z a (nm 120 a) (oc 120 3 a SE));have C:=g;have D:=m;clear g m));all_goals
  go_wp2;go_ret;exact⟨a,B,rfl,D,jR (kg (show w.grownBy t none from⟨c.os,c.tape,c.output,c.size,c.B⟩) _) C⟩
def vG{S}{j:Nat}{sc}{D left left':Nat}{T}{kind:Int}{name hd c d e}{f c1 g c2 i c3:Nat}{w a}{kA:List Ex}{th el:List St}(k:oX S j sc left' T (pe kind name hd c f c1 d g c2 e i c3) w a)
  (m:jT (ko .i64 De) (New w a) a (.slice c f c1) kA) (n:jT (kp .i64 D) (New w a) a (.slice d g c2) th) (p:jT (kp .i64 D) (New w a) a (.slice e i c3) el) (he:mf sc (D+1) (.mk kind name hd kA th el)) (q:ku D th+ku D el+left'<=left):
  pJ S j sc D left w (.returned (.agg (pe kind name hd c f c1 d g c2 e i c3))) a:=by
 have l:∀b,New w a b->Eg w a j b:=λb hb=>⟨SC hb.1,hb.2,SD hb.1 k.xp⟩
 exact⟨kind,name,hd,c,d,e,f,c1,g,c2,i,c3,.mk kind name hd kA th el,left',rfl,⟨_,_,_,rfl,m.M (ko.ok _ _) l,n.M (kp.ok _ _) l,p.M (kp.ok _ _) l⟩,he,q,k.hm,k.hg⟩
def mv.new{w0 w}{d:Nat}{o n:Int}{name A}{m c:Nat}{x}(a:w0.heap.size<w.heap.size)(h:ko .i64 d (New w0 w) w [.int .i64 o,tx name,n,.slice A m c] x):
  mv w0 w d o n name A m c x (w.alloc (kk o name n A m c)):=
 ⟨⟨a,by rw[O4];omega⟩,O2 w _,(ko.ok _ _).M ((ko.ok _ _).jP h λb hb=>Ph w _ hb.2) λb hb=>⟨hb.1,by rw[O4];have:=hb.2;omega⟩⟩
def Au(k:Nat)(x)(hx:forms[k]?=some x)(b:1<=k)(w)(hL:ln w):Calls prog 174 #[.int .u8 (k:Int)] w (kd (.tuple #[.agg #[.bool x.1,.bool x.2.1,.int .i64 (x.2.2.1:Int),.int .i64 (x.2.2.2.1:Int),.bool x.2.2.2.2.1,.bool x.2.2.2.2.2],true]) w):=by
 have c:k<11:=by have:=(Pm.1 hx).1;rw[um]at this;exact this
 have a:=om hL k x hx 0 _ rfl;have d:=om hL k x hx 1 _ rfl;have e:=om hL k x hx 2 _ rfl;have f:=om hL k x hx 3 _ rfl;have g:=om hL k x hx 4 _ rfl;have i:=om hL k x hx 5 _ rfl;have j:=hL.lt.2;rw[Pc]at a
 go_enter func174,ntmps174
 go_wp2;refine Pa (v:=.tuple #[.agg #[.bool x.1,.bool x.2.1,.int .i64 (x.2.2.1:Int),.int .i64 (x.2.2.2.1:Int),.bool x.2.2.2.2.1,.bool x.2.2.2.2.2],true]) ?_ rfl ⟨rfl,Ba _ _⟩;simp[results,Tryz.results174,go_sem]
def wI(g:FuncId)(M:mg g)(hg:zX g)(d:Nat)(N:∀d',d=d'+1->Cc g d'):Cc g d:=by
 intro S w A n c l v E ag O f;unfold mg at M;have P:=E.len
 have Q:=P.1;have F:=N;have R:=hg
 go_enter func122,ntmps122
 go_wp21;go_loopw [9] (λi wr=>∃k:Nat,k<=n/\i=k/\Below w w wr) (λi _=>n-(intOf i).toNat)
 .exact⟨0,Pb _,rfl,Below.refl _ _⟩
 obtain⟨k,ah,rfl,m⟩:=hrel;have T:=m.size;by_cases ai:k<n
 .obtain⟨x,hx⟩:∃x,l[k]?=some x:=Gx (SC Q);obtain⟨b,t,r,rfl,U,hr,V⟩:=E.kt (kp.ok .u8 d) k x hx;have y:b<w:=f b U;have G:=O x (O5 hx);have z:At w b (t+k*6) r:=V;have W:=(R S wr b (t+k*6) d x r (v.to m) (z.jQ m y) ((kp.ok .u8 d).jP hr (λq a=>m.B q (f q a))) G SE (λq a=>SC (f q a)))
  obtain⟨d',v1,v2,aj,rfl,rfl,_,I,J⟩:=hr.open;obtain⟨_,_,⟨X,Y⟩,Z,aa⟩:=G;obtain⟨ab,c2,rfl,_⟩:=I.form;obtain⟨ac,c3,rfl,_⟩:=J.form;have B:=z 4 _ rfl;have K:=z 5 _ rfl;have ad:=(λ(p:World) (j:Below w w p)=>F d' rfl S p ab _ c2 x.th (v.to j) (I.jP (kp.ok .u8 _) (λq a=>j.B q (f q a))) X Z (λq a=>O1 (f q a) j.size))
  have ae:=(λ(p:World) (j:Below w w p)=>F d' rfl S p ac _ c3 x.el (v.to j) (J.jP (kp.ok .u8 _) (λq a=>j.B q (f q a))) Y aa (λq a=>O1 (f q a) j.size))
  have L:=(And.intro B K)
  obtain⟨ak,al⟩:=mG k n;clear B;go_wp2_with (apply W.M;rintro e p ⟨rfl,s⟩;have C:=m.T (s.M T);have D:=C;have B:=(Cb b (t+k*6+4) (C.B b y)).T L.1;clear s C);apply(ad _ D).M;rintro e am ⟨rfl,s⟩;have u:=D.T (s.M D.size);have K:=(Cb b (t+k*6+5) (u.B b y)).T L.2;go_wp21;apply(ae _ u).M;rintro e an ⟨rfl,s⟩;have af:=(u.T (s.M u.size))
  go_wp21;go_roundw
  .exact⟨k+1,SE,SJ,af⟩
  simp[intOf];omega
 obtain rfl:k=n:=SE;go_wp21;go_ret;exact⟨rfl,m⟩
def rU(g:FuncId)(a:mg g)(hg:zX g):∀d,Cc g d
 |0=>wI g a hg 0 λd' e=>by omega
 |d+1=>wI g a hg (d+1) λd' e=>by obtain rfl:d=d':=SE;exact rU g a hg d
def pT(S w A)(n c:Nat)(xs)(name:List UInt8)(hv:jT (mr .u8) S w (.slice A n c) xs)(aA:n<=1000)(R:∀l∈xs,l.length<=1000)(hS:∀q,S q->q<w):
  Calls prog 144 #[.slice A n c,tx name] w (yf (LU S w) N2 (xs.flatten.find? λx=>x.name==name) w):=by
 have T:=hv.len;have aB:=mA name;have G:Below w w (w.alloc sE):=Ba _ _;have U:=O2 w sE;have ai:(w.alloc sE).heap.size=w+1:=SG
 have V:=O0 T.1;have aj:=hv;have W:=hS;have I:=O0 U;have ak:=R;clear hS T U R
 go_enter func144,ntmps144
 go_wp21;obtain⟨z,hz⟩:=Xq w.heap.size;rw[<-hz]at I ai⊢;have f:w<=z:=SE
 generalize w.alloc sE=B at*;have X:z<B:=SE
 clear hz;go_loopw [12] (λi wr=>∃k:Nat,k<=n/\i=k/\(xs.take k).flatten.find? (λx=>x.name==name)=none/\Below B B wr) (λi _=>n-(intOf i).toNat)
 .exact⟨0,Pb _,rfl,SG,Below.refl _ _⟩
 obtain⟨k,aC,rfl,Y,a⟩:=hrel;have J:=O0 Y;have aD:=a.size;clear Y;by_cases aE:k<n
 .obtain⟨hs,hx⟩:∃x,xs[k]?=some x:=Gx (SC V.o);obtain⟨K,al,r,rfl,am,⟨v1,rfl,g⟩,j⟩:=aj.kt (mr.ok .u8) k hs hx;obtain⟨Z,aa,rfl,an⟩:=g.form;have ao:K<w:=W K am;have L:At w K (al+k*1) [.slice Z hs.length aa]:=j;have u:=L.jQ (G.T (a.M SE)) ao 0 _ rfl;rw[Pc,PG]at u;obtain⟨aF,aG⟩:=mG k n;obtain⟨d,y⟩:=Xq hs.length;have aH:d<=1000:=(by rw[y];exact ak hs (O5 hx));rw[<-y]at g u an;have ab:=O0 y.symm;have ac:=O0 hx;have ap:=(a.alloc SE (mc Z d aa))
  clear j hx y;go_wp21;go_loopw [19] (λi wr=>∃b:Nat,b<=d/\i=b/\(hs.take b).find? (λx=>x.name==name)=none/\Below B B wr) (λi _=>d-(intOf i).toNat)
  .exact⟨0,Pb _,rfl,SG,ap⟩
  obtain⟨b,aI,rfl,ad,a⟩:=hrel;have ae:=O0 ad;have a:=a;have aJ:=a.size;obtain⟨⟨m,p,s⟩,⟨M,N,O⟩⟩:=kz ((a.B z X).T I.o);have af:z<wr:=SE;have C:=(G.T (a.M SE))
  clear ad;by_cases aK:b<d
  .obtain⟨x,hx⟩:∃x,hs[b]?=some x:=Gx (SC ab.o);obtain⟨P,aq,r,rfl,ar,⟨v1,v2,rfl,g,ag⟩,j⟩:=g.kt (lF.ok .u8) b x hx;obtain⟨D,E,rfl,_⟩:=g.form;obtain⟨F,cb,rfl,_⟩:=ag.form;have au:P<w:=W P ar;have L:At w P (aq+b*3) [tx x.name,.slice D x.params.length E,.slice F x.body.length cb]:=j;have Q:=L.jQ C au;have u:=Q 0 _ rfl;have aL:=Q 1 _ rfl;have aM:=Q 2 _ rfl;rw[Pc]at u;obtain⟨aN,aO⟩:=mG b d;have aP:=mA x.name;have ah:=(uq ae.o hx)
   have av:LU S w x (.agg (ka x.name D x.params.length E F x.body.length cb)):=⟨_,_,_,_,_,_,rfl,g,ag⟩
   have aw:=(a.alloc SE (.cells (ka x.name D x.params.length E F x.body.length cb) 125))
   clear j hx;cases hq:(x.name==name)
   .have hf:=ah.2 hq;clear m p s M N O;go_wp21;go_roundw
    .exact⟨b+1,SE,SJ,hf,aw⟩
    simp[intOf];omega
   have hf:xs.flatten.find? (λx=>x.name==name)=some x:=by
    have ax:xs=xs.take k++(hs::xs.drop (k+1)):=by
     have t:=(Pm.1 ac.o)
     obtain⟨t,ay⟩:=t;rw[<-ay,List.getElem_cons_drop,QD]
    rw[ax,Rh,P7,Q6,J.o,Q6,ah.1 hq];rfl
   go_wp21;refine Pa (v:=.tuple #[.agg (ka x.name D x.params.length E F x.body.length cb),true]) ?_ rfl ⟨λaz e=>⟨_,rfl,by rw[hf]at e;injection e with e;rw[<-e];exact av⟩,λhn=>(by rw[hf]at hn;cases hn),(jX (jX (jX C f) f) f).alloc SX _⟩;simp[results,Tryz.results144,go_sem,m,p,s,af,RB]
  obtain rfl:d=b:=SE;have hf:(xs.take (k+1)).flatten.find? (λx=>x.name==name)=none:=by have t:=ae.o;rw[Pq (SC ab.o)]at t;rw[PM,ac.o,Rh,Q6,J.o];simpa using t
  clear m p s M N O;go_wp21;go_roundw
  .exact⟨k+1,SE,SJ,hf,a⟩
  simp[intOf];omega
 obtain rfl:n=k:=SE;have hf:=J.o;rw[Pq (SC V.o)]at hf;obtain⟨⟨m,p,s⟩,⟨M,N,O⟩⟩:=kz ((a.B z X).T I.o);have C:=(G.T (a.M SE))
 have af:z<wr:=SE;go_wp21;refine Pa (v:=.tuple tg) ?_ rfl ⟨λaz e=>by rw[hf]at e;(cases e),λ_=>rfl,jX (jX (jX C f) f) f⟩;simp[results,Tryz.results144,go_sem,m,p,s]
def wL(d:Nat)(K:∀d',d=d'+1->Ka d'):J9 d:=by
 intro S w V W X sc a b f g j cv l p s A m c args u h hv hm C;have D:=hv.len;have hc:=D.2;have E:Below w w (w.alloc (mT a b f g j cv l p s)):=Ba _ _;have L:=O2 w (mT a b f g j cv l p s);have Y:(w.alloc (mT a b f g j cv l p s)).heap.size=w+1:=SG
 have H:=(h.jQ E)
 have Z:=(hv.jP (ko.ok .u8 d) (λq t=>E.B q (h.kX q t)))
 have aa:=O0 D.1;have M:=O0 L;have ab:=O0 C;have ac:=O0 K;clear D L C K
 go_enter func226,ntmps226
 go_wp21;obtain⟨b0,N⟩:=Xq w.heap.size;rw[<-N]at M Y⊢;have ap:w<=b0:=SE
 generalize w.alloc (mT a b f g j cv l p s)=B at*;have ad:b0<B:=SE
 clear N;go_loopw [4,7,15] (λv4 ae i wr=>∃k:Nat,k<=m/\i=k/\v4=.int .u8 (BV k u)/\ae=.bool true/\Below B B wr) (λ_ _ i _=>m-(intOf i).toNat)
 .exact⟨0,Pb _,rfl,rfl,rfl,Below.refl _ _⟩
 obtain⟨k,aq,rfl,rfl,rfl,y⟩:=hrel;have ar:=y.size;obtain⟨⟨af,ag,ah⟩,_⟩:=kz ((y.B b0 ad).T M.o);have au:b0<wr:=SE;by_cases av:k<m
 .obtain⟨x,hx⟩:∃x,args[k]?=some x:=Gx (SC aa.o);have F:=H.kX;obtain⟨aw,ax,r,rfl,ay,hr,z⟩:=(Z.jP (ko.ok .u8 d) (λq t=>y.B q (F q t))).kt (ko.ok .u8 d) k x hx;obtain⟨d',v,rfl,rfl,hv⟩:=hr.open;obtain⟨G,I,rfl,_⟩:=hv.form;have ai:=z 0 _ rfl;have az:=z 1 _ rfl;have aA:=z 2 _ rfl;have aj:=z 3 _ rfl;rw[Pc]at ai;have C:=ab.o x (O5 hx);obtain⟨op,name,n,O⟩:=x;simp only[Ex.op,Ex.name,Ex.n,Ex.args]at*;obtain⟨J,P⟩:=Xq O.length;rw[<-P]at aj hv;clear P;have Q:Below B B (wr.alloc (la op name n G J I)):=y.alloc SE _;have ak:=(ac.o d' rfl S (wr.alloc (la op name n G J I)) V W X sc a b f g j cv l p s G J I op n name O u (H.jQ Q) (hv.jP (ko.ok .u8 d') (λq t=>Ph _ _ (SC (F q t)))) C)
  obtain⟨aB,aC⟩:=mG k m;clear z hx F;go_wp21;apply ak.M;rintro e aD ⟨rfl,al⟩;have R:=(Q.T (al.M (by rw[O4];omega)))
  by_cases T:k=0
  .subst T;have am:((0:Int)==0)=true:=rfl;go_wp2_with fail;go_roundw
   .exact⟨1,SE,SJ,rfl,rfl,R⟩
   simp[intOf];omega
  have am:((k:Int)==0)=false:=(by rw[O8];omega);have an:BV k u=u:=(by unfold BV;rw[Pn T]);have U:BV (k+1) u=u:=(by unfold BV;rw[Pn SE]);have ao:=O0 U;clear U;rw[an];go_wp2_with fail;go_roundw
  .exact⟨k+1,SE,SJ,by rw[ao.o],SG,R⟩
  simp[intOf];omega
 obtain rfl:m=k:=SE;clear af ag ah;go_wp21;refine Pa (v:=.tuple #[.int .u8 (BV m u),Em,.int .i64 0]) ?_ rfl ⟨rfl,E.T (y.M SE)⟩;simp[results,Tryz.results226,go_sem]
structure vB(S:Nat->Prop)(w:World)(tU:List Fg)(FL:List Va)(Ec:List (List UInt8))(sc:Sc)(AF:Option Addr)(nf cf:Nat)(AV:Option Addr)(nv cv:Nat)(AP:Option Addr)(np cp:Nat)(bb cb:Nat)(f0 f1 f2 f3 o0 o1 o2:Value)(pl:ByteArray)(cnt:Nat):Prop where
 sc:rb S w tU FL Ec sc AF nf cf AV nv cv AP np cp
 BW:tz cb f0 f1 f2 f3 w
 bd:Bd bb cb AF nf cf AV nv cv AP np cp o0 o1 o2 pl cnt w
 ne:bb≠cb
 kX:∀q,S q->q≠bb/\q≠cb
def vB.jQ{S w b c d sc e}{f g:Nat}{i}{j cv:Nat}{k}{l m:Nat}{a cb:Nat}{n p q r s t u v}{x:Nat}(h:vB S w b c d sc e f g i j cv k l m a cb n p q r s t u v x){w'}(hb:Below w w w'):vB S w' b c d sc e f g i j cv k l m a cb n p q r s t u v x:=
 ⟨h.sc.jQ hb,h.BW.jQ hb h.BW.lt,⟨(hb.B a (O3.1 h.bd.kt).1).T h.bd.kt⟩,h.ne,h.kX⟩
def F0(sc:Sc)(d:List Co):Prop:=(∀(i:Nat) (c:Co),d[i]?=some c->c.name=kx i)/\d.length=sc.nr.length/\(∀l∈sc.nr,∀a∈l,a<=2)/\∀(i:Nat) (c:Co) (b:List Nat),d[i]?=some c->sc.nr[i]?=some b->b.length<=3/\(∀hs∈c.kS,∀(k:Nat) (h:Hd),hs[k]?=some h->∃a,b[k]?=some a/\h.name=nm 104 k/\h.params=pW 112 a)/\(∃hs∈c.kS,hs.length=b.length)/\c.kS.length<=1000/\∀l∈c.kS,l.length<=1000
structure tD(S:Nat->Prop)(w:World)(sc:Sc)(jZ:List Co)(A3:Option Addr)(m3 c3:Nat)(o0 o1 o2:Value):Prop where
 cs:jT (lv .u8) S w (.slice A3 m3 c3) jZ
 len:jZ.length<=3
 hd:1<=sc.ints->F0 sc jZ
 own:∃c,jZ[sc.own]?=some c/\uX S w c (.agg #[o0,o1,o2])
def tD.jP{S w w' sc a b}{d c3:Nat}{e f g}(h:tD S w sc a b d c3 e f g)(hb:∀q,S q->w'.heap[q]?=w.heap[q]?):tD S w' sc a b d c3 e f g:=by obtain⟨c,i,j⟩:=h.own;exact⟨h.cs.jP (lv.ok _) hb,h.len,h.hd,c,i,j.jP hb⟩
def Cg(sc:Sc)(b:List Co)(s:St):Prop:=s.kind=6/\s.th=[]/\s.el=[]/\(∃(a:Co) (hd:Hd),(b.find? λx=>x.name==s.name)=some a/\a.kS.length<=1000/\(∀l∈a.kS,l.length<=1000)/\(a.kS.flatten.find? λx=>x.name==s.hd)=some hd/\s.kA.length=hd.params.length)/\s.kA.length<=5/\∀e∈s.kA,kY sc De e
def FM(sc:Sc)(a:List Co)(d:Nat)(s:St):Prop:=(mf sc d s/\1<=sc.ints)\/(0<d/\Cg sc a s)
def tD.send{S:Nat->Prop}{w:World}{sc:Sc}{e:List Co}{k:Option Addr}{m c3:Nat}{n p r:Value}(h:tD S w sc e k m c3 n p r)(hi:1<=sc.ints){d:Nat}{s:St}(hs:mf sc (d+1) s)(t:s.kind=6):Cg sc e s:=by
 obtain⟨u,K,v,x⟩:=h.hd hi;rcases hs with⟨b,_⟩|⟨b,_⟩|⟨b,_⟩|⟨b,_⟩|⟨b,_⟩|⟨b,y,he,⟨g,l,q,a,f,i,hn,z,A⟩,B⟩|⟨b,_⟩|⟨b,_⟩|⟨b,_⟩|⟨b,_⟩
 case inr.inr.inr.inr.inr.inl=>obtain⟨c,j⟩:∃c,e[g]?=some c:=Gx (SC ((Pm.1 f).1));obtain⟨C,D,hex,E,F⟩:=x g c l j f;obtain⟨hd,G,I⟩:=Gs D C hex i;have J:=Gu h.len u j;have L:a<=2:=v l (O5 f) a (O5 i);exact⟨b,y,he,⟨c,hd,by rw[hn];exact J,E,F,by rw[z];exact G,by rw[A,I,ld]⟩,SE,B⟩
 all_goals
  rw[t]at b;exact absurd b SF
def kT.mf.sub{sc}{d:Nat}{s}(h:mf sc (d+1) s):(∀x∈s.th,mf sc d x)/\∀x∈s.el,mf sc d x:=by
 rcases h with⟨_,_,a,b,_⟩|⟨_,_,_,_,a,b,_⟩|⟨_,_,_,_,a,b,_⟩|⟨_,_,_,_,a,b⟩|⟨_,_,_,b,_,a⟩|⟨_,a,b,_⟩|⟨_,_,a,b,_⟩|⟨_,_,_,a,_,b⟩|⟨_,_,a,_,_,b⟩|⟨_,_,_,a,b,_⟩
 all_goals (constructor<;>first|exact a|exact b|(rw[a];intro x hx;simp at hx)|(rw[b];intro x hx;simp at hx))
def kT.zh{sc}:∀{d:Nat} {l:List St},(∀s∈l,mf sc d s)->l.length<=ku d l
 |0,l,h=>by cases l with|nil=>simp|cons s l=>exact(h s (List.mem_cons_self ..)).elim
 |d+1,[],_=>by simp
 |d+1,s::l,h=>by have:=zh (d:=d+1) (l:=l) λx hx=>h x (List.mem_cons_of_mem _ hx);simp only[ku,List.map_cons,List.sum_cons,List.length_cons]at this⊢;omega
def nj.jQ{X w w'}{B:Nat}(h:nj X w w')(a:B<=w)(b:∀k,X k->B<=k):Below B w w':=⟨h.os,h.tape,h.output,h.size,λk c=>h.B k (O1 c a) λhx=>SC (b k hx)⟩
def vB.but{S w t u v sc b}{c d:Nat}{e}{f cv:Nat}{g}{i j:Nat}{a cb:Nat}{k l m n p r s A}{B:Nat}{x}{y:Nat}(h:vB S w t u v sc b c d e f cv g i j a cb k l m n p r s A B){w'}(hb:nj (Bb a cb) w w')(hc:tz cb k l m n w')(hd:Bd a cb b c d e f cv g i j p r s x y w'):vB S w' t u v sc b c d e f cv g i j a cb k l m n p r s x y:=
 ⟨h.sc.jP (λq z=>hb.B q (h.sc.kX q z) (λhx=>by have:=h.kX q z;rcases hx with hx|hx;exact this.1 hx;exact this.2 hx)) hb.size,hc,hd,h.ne,h.kX⟩
def vB.blk{S w c d e sc f}{g i:Nat}{j}{k cv:Nat}{l}{m n:Nat}{a cb:Nat}{p r s t u v x y}{z:Nat}(h:vB S w c d e sc f g i j k cv l m n a cb p r s t u v x y z){w'}(hb:nj (Bb a cb) w w'):∀q,S q->w'.heap[q]?=w.heap[q]?:=
 λq b=>hb.B q (h.sc.kX q b) (λhx=>by have:=h.kX q b;rcases hx with hx|hx;exact this.1 hx;exact this.2 hx)
def vB.kt{S w g i j sc k}{l m:Nat}{n}{p cv:Nat}{q}{r s:Nat}{a cb:Nat}{b c d f t u v x}{y:Nat}(h:vB S w g i j sc k l m n p cv q r s a cb b c d f t u v x y){w'}(hc:tz cb b c d f w')(hg:w.grownBy w' (some cb)):vB S w' g i j sc k l m n p cv q r s a cb b c d f t u v x y:=
 h.but (.grown hg (.inr rfl)) hc ⟨(hg.B a (O3.1 h.bd.kt).1 (by intro e;injection e with e;exact h.ne e)).T h.bd.kt⟩
def I0(S:Nat->Prop)(b:List Fg)(c:List Va)(d:List (List UInt8))(sc:Sc)(f:Option Addr)(g i:Nat)(j:Option Addr)(k cv:Nat)(l:Option Addr)(m n:Nat)(a cb:Nat)(p q r s t u v:Value)(w:ByteArray)(x:Nat)(w0:World)(e:Ending)(w':World):Prop:=e=.returned (.tuple #[])/\vB S w' b c d sc f g i j k cv l m n a cb p q r s t u v w x/\nj (Bb a cb) w0 w'
def FM.sub{sc:Sc}{a:List Co}{d:Nat}{s:St}(h:FM sc a (d+1) s):(∀x∈s.th,FM sc a d x)/\∀x∈s.el,FM sc a d x:=by
 rcases h with⟨h,hi⟩|⟨_,_,b,c,_⟩
 exact⟨λx hx=>.inl ⟨h.sub.1 x hx,hi⟩,λx hx=>.inl ⟨h.sub.2 x hx,hi⟩⟩;exact⟨λx hx=>(by rw[b]at hx;cases hx),λx hx=>(by rw[c]at hx;cases hx)⟩
def FM.zero{sc:Sc}{a:List Co}{s:St}(h:FM sc a 0 s):False:=by
 rcases h with⟨h,_⟩|⟨h,_⟩
 exact h;omega
def AB{sc:Sc}{a:List Co}:∀{d:Nat} {l:List St},(∀s∈l,FM sc a d s)->l.length<=ku d l
 |0,l,h=>by cases l with|nil=>simp|cons s l=>exact(h s (Qs ..)).zero.elim
 |d+1,[],_=>by simp
 |d+1,s::l,h=>by have:=AB (d:=d+1) (l:=l) λx hx=>h x (QY _ hx);simp only[ku,PF,Sq,PA]at this⊢;omega
def KD(d:Nat):Prop:=∀(S:Nat->Prop) (w:World) (k:List Fg) (n:List Va) (p:List (List UInt8)) (sc:Sc) (q:Option Addr) (r t:Nat) (u:Option Addr) (v cv:Nat) (x:Option Addr) (y z:Nat) (a cb:Nat) (B C D b e f g:Value) (i:ByteArray) (j:Nat) (E:List Co) (F:Option Addr) (G c3:Nat) (A:Option Addr) (m c:Nat) (l:List St),vB S w k n p sc q r t u v cv x y z a cb B C D b e f g i j->tD S w sc E F G c3 e f g->b=.slice F G c3->jT (kp .u8 d) S w (.slice A m c) l->(∀s∈l,FM sc E d s)->j+ku d l<=90->i.size<=100000000->
 Calls prog 185 #[.pointer a,.slice A m c] w (I0 S k n p sc q r t u v cv x y z a cb B C D b e f g i (j+ku d l) w)
structure kT.MX(tU:List Fg):Prop where
 len:tU.length<=2
 uV:∀k x,tU[k]?=some x->oD (tU.take k) x.name=false/\x.name.length<=10
def kT.qG.t{a:Nat}{b:List Fg}(hn:a<=2)(h:qG a b):MX b:=
 ⟨by rw[h.1];exact hn,λk x hx=>⟨KE SE h hx,by rw[h.2 k x hx];simp[nm]⟩⟩
def Bv(S:Nat->Prop)(w:World)(A:Option Addr)(n c:Nat)(xs:List Lk)(d:Lk)(a:Nat)(hv:jT mY S w (.slice A n c) xs)(L:n<=1000)(hS:∀q,S q->q<w)(g:w.cell? a=some (tx d.a))(j:w.cell? ⟨a,1,none⟩=some (tx d.b))(hb:a<w)(l:∀x∈xs,(x.a,x.b)≠(d.a,d.b)):
  Calls prog 184 #[.slice A n c,.func (.func 141) #[] #[.pointer a]] w (kd (.int .i64 (-1)) w):=by
 have m:=EM;unfold mg at m;have p:=hv.len;have s:=p.1;have t:=hv;have u:=hS;have v:=g;have y:=j;have z:=l
 go_enter func184,ntmps184
 go_wp2;go_loopw [8] (λi wr=>∃k:Nat,k<=n/\i=k/\Below w w wr) (λi _=>n-(intOf i).toNat)
 .exact⟨0,Pb _,rfl,Below.refl _ _⟩
 obtain⟨k,M,rfl,b⟩:=hrel;have B:=b.size;have C:=((Cb a 0 (b.B a hb)).T v)
 have D:=((Cb a 1 (b.B a hb)).T y)
 by_cases N:k<n
 .obtain⟨x,hx⟩:∃x,xs[k]?=some x:=Gx (SC s);obtain⟨O,P,r,rfl,Q,hr,E⟩:=(t.jP mY.ok (λq F=>b.B q (u q F))).kt mY.ok k x hx;have G:r=[tx x.a,tx x.b,.int .i64 x.sD]:=hr;subst G;have I:=E 0 _ rfl;rw[Pc]at I;have J:=(I1 x d a wr C D SE (z x (O5 hx)))
  go_wp2_with (apply J.M;rintro e R ⟨rfl,f⟩;have K:=(b.T (f.M B));clear f);go_roundw
  .exact⟨k+1,SE,SJ,K⟩
  simp[intOf];omega
 obtain rfl:n=k:=SE;go_wp2;go_ret;exact⟨rfl,b⟩
def xh(S:Nat->Prop)(w:World)(A:Option Addr)(n c:Nat)(xs:List Lk)(a:Lk)(b:Nat)(hv:jT mY S w (.slice A n c) xs)(d:n<=1000)(hS:∀q,S q->q<w)(f:w.cell? b=some (tx a.a))(g:w.cell? ⟨b,1,none⟩=some (tx a.b))(hb:b<w)(i:∀x∈xs,(x.a,x.b)≠(a.a,a.b)):
  Calls prog 142 #[.slice A n c,.func (.func 141) #[] #[.pointer b]] w (kd (.bool false) w):=by
 have j:=(Bv S w A n c xs a b hv d hS f g hb i)
 go_enter func142,ntmps142
 go_wp21;apply j.M;rintro e l ⟨rfl,k⟩;go_wp21;go_ret;exact⟨rfl,k⟩
structure kT.MZ(Ie:List Lk)(jZ:List Co):Prop where
 len:Ie.length<=90
 each:∀k x,Ie[k]?=some x->x.a.length=1/\x.b.length=1/\(∃c,(jZ.find? λy=>y.name==x.a)=some c)/\(∃c,(jZ.find? λy=>y.name==x.b)=some c)/\∀y∈Ie.take k,(y.a,y.b)≠(x.a,x.b)
def mU.t{n:Nat}{b:List Lk}{a:List Co}(d:mU n (n*n) b)(j:b.length<=90)(p:n<=3)(q:a.length=n)(l:∀(i:Nat) (c:Co),a[i]?=some c->c.name=kx i):MZ b a:=by
 have hf:∀i,i<n->∃c,(a.find? λx=>x.name==kx i)=some c:=λi hi=>⟨_,Gu SE l (Pg SE)⟩
 refine⟨j,λk x hx=>?_⟩;obtain⟨z,hz,e,f,g,_⟩:=d.1 x (O5 hx);have m:0<n:=by rcases Qt n with h|h;rw[h]at e;omega;exact h
 exact⟨by rw[f];rfl,by rw[g];rfl,f▸hf _ (Sk e),g▸hf _ (Rz _ m),Mh d hx⟩
def kT.GZ(i t:Nat)(c:1<=i)(d:i<=3)(e:t<=1):((List.range 6).all λa=>match (mB i t)[a]? with|none=>true|some x=>(((mB i t).take a).find? λb=>b.name==x.name).isNone&&x.name.head? !=some 102&&x.name.length==2)=true:=by rcases(show i=1\/i=2\/i=3 from SE)with rfl|rfl|rfl<;>rcases(show t=0\/t=1 from SE)with rfl|rfl<;>decide
def kT.I3{i t b:Nat}{x}{f:Nat}{c}(hf:qG f c)(g:1<=i)(j:i<=3)(k:t<=1)(hx:(mB i t)[b]?=some x):(((mB i t).take b).find? λd=>d.name==x.name)=none/\oD c x.name=false/\x.name.length=2:=by
 have l:=(List.getElem?_eq_some_iff.1 hx).1;rw[qL]at l;have h:=List.all_eq_true.1 (GZ i t g j k) b (List.mem_range.2 SE);rw[hx]at h;simp only[Bool.and_eq_true,Option.isNone_iff_eq_none,beq_iff_eq,bne_iff_ne]at h;refine⟨h.1.1,?_,h.2⟩;cases a:oD c x.name with
 |false=>rfl
 |true=>unfold oD at a;rw[List.any_eq_true]at a;obtain⟨d,hy,e⟩:=a;obtain⟨q,a⟩:=List.getElem?_of_mem hy;rw[hf.2 q d a]at e;rw[beq_iff_eq]at e;rw[<-e]at h;exact absurd rfl h.1.2
def kT.Mi{sc f hs}(k:f.length<=3)(g:sq sc f hs){c:Nat}{x}(hx:hs[c]?=some x):((([hs.take c]:List (List Hd)).flatten).find? λd=>d.name==x.name)=none:=by
 rw[List.find?_eq_none];intro d hy e;rw[List.flatten_cons,List.flatten_nil,List.append_nil]at hy;obtain⟨q,b⟩:=List.getElem?_of_mem hy;rw[List.getElem?_take]at b;split at b;case isFalse=>simp at b
 case isTrue l=>obtain⟨a,m,hn,_⟩:=g q d b;obtain⟨n,i,j,_⟩:=g c x hx;have p:=(List.getElem?_eq_some_iff.1 i).1;rw[hn,j,beq_iff_eq]at e;have:=Gv SE SE e;omega
def kT.I4{sc:Sc}{f:List Nat}{c:List (List Hd)}(t:f.length<=3)(g:∀hs∈c,sq sc f hs){hs:List Hd}{i v:Nat}{x d:Hd}(hv:hs∈c)(hx:hs[i]?=some x)(hf:((c.take v).flatten.find? λz=>z.name==x.name)=some d):d.params.length=x.params.length:=by obtain⟨l,k,hy⟩:=List.mem_flatten.1 (List.mem_of_find?_eq_some hf);have hn:=List.find?_some hf;obtain⟨q,m⟩:=List.getElem?_of_mem hy;obtain⟨a,j,n,p,_⟩:=g l (List.mem_of_mem_take k) q d m;obtain⟨b,hb,r,s,_⟩:=g hs hv i x hx;have u:=(List.getElem?_eq_some_iff.1 j).1;have w:=(List.getElem?_eq_some_iff.1 hb).1;rw[n,r,beq_iff_eq]at hn;have e:=Gv SE SE hn;subst e;rw[j]at hb;injection hb with hb;rw[p,s,hb]
def F0.of{e:List Co}{n:Nat}{b:List (List Nat)}(sc:Sc)(p:sc.nr=b)(g:∀(i:Nat) (c:Co),e[i]?=some c->xv n b i c)(q:b.length=e.length)(j:∀l∈b,1<=l.length/\l.length<=3/\∀a∈l,a<=2):F0 sc e:=by subst p;refine⟨λi c h=>?_,q.symm,λl f=>(j l f).2.2,λi c r hc k=>?_⟩;obtain⟨_,_,_,_,_,_,h,_⟩:=(g i c h).ex;exact h;obtain⟨ints,z,A,_,_,_,_,_,B,C,d,m,s⟩:=(g i c hc).ex;rw[k]at d;injection d with d;subst d;have t:=(j r (O5 k)).2.1;refine⟨t,λhs hm u h v=>?_,s,SE,λl f=>SC ((m l f).2.1)⟩;obtain⟨a,w,x,y,_⟩:=(m hs hm).2.2 u h v;exact⟨a,w,x,y⟩
structure LK(tU:List Fg)(jZ:List Co)(k:Nat)(co:Co):Prop where
 nl:co.name.length<=12
 new:((jZ.take k).find? λx=>x.name==co.name)=none
 OT:oD tU co.name=false
 nv:co.vars.length<=5
 vars:∀j x,co.vars[j]?=some x->((co.vars.take j).find? λy=>y.name==x.name)=none/\oD tU x.name=false/\x.name.length<=12
 OU:co.kS.length<=2
 hs:∀l∈co.kS,l.length<=3
 hd:∀l∈co.kS,∀j x,l[j]?=some x->x.name.length<=12/\((([l.take j]:List (List Hd)).flatten).find? λy=>y.name==x.name)=none/\(∀v y,((co.kS.take v).flatten.find? λz=>z.name==x.name)=some y->y.params.length=x.params.length)/\ku Ds x.body<=12/\
  ∃sc:Sc,sc.own=k/\Il sc tU co.vars x.params/\(∀s∈x.body,FM sc jZ Ds s)/\(1<=sc.ints->F0 sc jZ)
def LK.of{u:List Fg}{b:List Co}{f:Nat}{d:List (List Nat)}{k:Nat}{g:Co}(j:qG f u)(C:f<=2)(D:b.length<=3)(m:∀(i:Nat) (c:Co),b[i]?=some c->xv f d i c)(E:d.length=b.length)(n:∀l∈d,1<=l.length/\l.length<=3/\∀a∈l,a<=2)(w:b[k]?=some g):LK u b k g:=by
 have F:=(Pm.1 w).1;have G:∀(i:Nat) (c:Co),b[i]?=some c->c.name=kx i:=λi c h=>by obtain⟨_,_,_,_,_,_,h,_⟩:=(m i c h).ex;exact h
 obtain⟨ints,I,J,p,y,z,hn,q,S,K,L,r,T⟩:=(m k g w).ex;have t:=n J (O5 L);refine⟨by rw[hn];simp[kx],by rw[hn];exact GY D F G,by rw[hn];exact I2 j,by rw[q,qL];omega,λA x hx=>?_,K,λl e=>SC ((r l e).2.1),λl e A x hx=>?_⟩;rw[q]at hx⊢;obtain⟨M,N,U⟩:=I3 j p y z hx;exact⟨M,N,SE⟩;obtain⟨_,_,B⟩:=r l e;obtain⟨a,O,P,Q,R,V⟩:=B A x hx;have lD:nW (⟨ints,I,f,a,d,k⟩:Sc):=⟨p,y,z,C,t.2.2 a (O5 O),by show k<d.length;omega,by show d.length<=3;omega,n⟩
 refine⟨by rw[P];simp[nm],Mi t.2.1 B hx,λv W hy=>I4 t.2.1 (λl e=>(r l e).2.2) e hx hy,SE,_,rfl,?_,λs hs=>.inl ⟨R s hs,p⟩,λ_=>F0.of _ rfl m E n⟩;rw[q,Q];exact nW.Ig lD j
def Bw(S w A)(n c:Nat)(xs name)(b:Nat)(hv:jT (lv .u8) S w (.slice A n c) xs)(P:n<=1000)(hS:∀q,S q->q<w)(hn:w.cell? ⟨b,1,none⟩=some (tx name))(hb:b<w)(hex:∃x∈xs,x.name=name):
  Calls prog 205 #[.slice A n c,.func (.func 206) #[] #[.pointer b]] w λe w'=>∃r:Nat,r<n/\e=.returned (.int .i64 (r:Int))/\Below w w w':=by
 have C:=EO;unfold mg at C;have D:=hv.len;have m:=D.1;have E:=hv;have F:=hS;have G:=hn;have I:=hex
 go_enter func205,ntmps205
 go_wp2;go_loopw [8] (λi wr=>∃k:Nat,k<=n/\i=k/\(∀a x,a<k->xs[a]?=some x->x.name≠name)/\Below w w wr) (λi _=>n-(intOf i).toNat)
 .exact⟨0,Pb _,rfl,λa x j=>SE,Below.refl _ _⟩
 obtain⟨k,Q,rfl,p,f⟩:=hrel;have s:=f.size;have J:=((Cb b 1 (f.B b hb)).T G)
 by_cases K:k<n
 .obtain⟨x,t⟩:∃x,xs[k]?=some x:=Gx (SC m);obtain⟨R,T,r,rfl,U,hr,L⟩:=(E.jP (lv.ok _) (λq d=>f.B q (F q d))).kt (lv.ok _) k x t;obtain⟨u,v,c1,y,z,c2,rfl,_,_⟩:=hr.qo;have M:=L 0 _ rfl;rw[Pc]at M;have B:=(I5 x.name name (.slice u v c1) (.slice y z c2) rfl rfl u v c1 y z c2 rfl rfl b wr J SE)
  cases d:(x.name==name)
  .go_wp2_with (apply B.M;rw[d];rintro e N ⟨rfl,g⟩;have l:=(f.T (g.M s));clear g);go_roundw
   .refine⟨k+1,SE,SJ,λa O j hy=>?_,l⟩;by_cases e:a=k;rw[e,t]at hy;injection hy with hy;rw[<-hy];intro h;rw[h]at d;simp at d;exact p a O SE hy
   simp[intOf];omega
  go_wp2_with (apply B.M;rw[d];rintro e N ⟨rfl,g⟩;have l:=(f.T (g.M s));clear g);go_ret;exact⟨k,K,rfl,l⟩
 obtain⟨x,hx,e⟩:=I;obtain⟨a,j⟩:=Q8 hx;exact absurd e (p a x (SD ((Pm.1 j).1) m) j)
def kT.BX.len{a}:∀{d:Nat} {l:List St},(∀s∈l,BX a d s)->l.length<=ku d l
 |0,l,h=>by cases l with|nil=>simp|cons s l=>exact(h s (List.mem_cons_self ..)).elim
 |d+1,[],_=>by simp
 |d+1,s::l,h=>by have:=BX.len (d:=d+1) (l:=l) λx hx=>h x (List.mem_cons_of_mem _ hx);simp only[ku,List.map_cons,List.sum_cons,List.length_cons]at this⊢;omega
def oK.ok:kF oK 1:=
 ⟨SE,λ⟨v,h,_⟩=>by rw[h];rfl,λ⟨v,h,a⟩ u hu=>by rw[h]at hu;simp at hu;subst hu;exact a.one,λ⟨v,h,a⟩ b=>⟨v,h,a.M kh.ok b⟩,λ⟨v,h,a⟩ hb=>⟨v,h,a.jP kh.ok hb⟩⟩
structure Ej(S:Nat->Prop)(w3:World)(f3 hd own:Value)(jZ:List Co)(nl:List (List (List UInt8)))(o:Nat):Prop where
 cs:∃(A3:Option Addr) (c3:Nat),f3=.slice A3 jZ.length c3/\jT (lv .u8) S w3 f3 jZ
 len:jZ.length<=3
 ns:∃(Ah:Option Addr) (ch:Nat),hd=.slice Ah jZ.length ch/\jT oK S w3 hd nl
 LV:∀l∈nl,l.length<=1000
 own:own=o/\o<jZ.length
def KF(b:World)(cb:Nat)(c d f g hd own i j k params:Value)(V:Value)(w:World)(Q:List In->Nat->Prop)(e:Ending)(w':World):Prop:=∃r:Nat,e=.returned (.int .i64 (r:Int))/\∃V' a,lJ b cb c d f g hd own i j k params V' a w'/\mJ cb V w V' w'/\Q a r
abbrev Gc(P:(Nat->Prop)->World->World->Nat->Value->Value->Value->Value->Value->Value->Value->Value->Value->Value->Value->List In->List Co->Prop):Prop:=
 ∀(S:Nat->Prop) (a w:World) (cb:Nat) (f g i b hd own c d e params V:Value) (j:List In) (k:List Co) (l:List (List (List UInt8))) (o:Nat),lJ a cb f g i b hd own c d e params V j w->yP S a cb c d e params->Ej S a b hd own k l o->P S a w cb f g i b hd own c d e params V j k
def Dz(d:Nat):Prop:=Gc λS a w cb e f g i hd own j k n params V b p=>∀(A:Option Addr) (m c:Nat) (l:List St),jT (kp .u8 d) S a (.slice A m c) l->(∀s∈l,BX p d s)->b.length+400*ku d l<=90000->
 Calls prog 146 #[.pointer cb,.slice A m c] w (ub a cb e f g i hd own j k n params V w (.tuple #[]) (mn b (400*ku d l)))
def Gw(d:Nat):Prop:=Gc λS a w cb f g i j hd own k n p params V b q=>∀(A:Option Addr) (m c:Nat) (l:List St),jT (kp .u8 d) S a (.slice A m c) l->(∀s∈l,BX q d s)->b.length+400*ku d l+1<=90000->
 Calls prog 204 #[.pointer cb,.slice A m c] w (KF a cb f g i j hd own k n p params V w (λe r=>mn b (400*ku d l+1) e/\r<=e.length))
def Kc(d:Nat):Prop:=Gc λS a w cb n p q r hd own s t u params V b v=>∀(c:Int) (name e:List UInt8) (f:List Ex) (th el:List St) (g:Option Addr) (i c1:Nat) (j:Option Addr) (k c4:Nat) (l:Option Addr) (m c5:Nat) (d':Nat),d=d'+1->jT (ko .u8 De) S a (.slice g i c1) f->jT (kp .u8 d') S a (.slice j k c4) th->jT (kp .u8 d') S a (.slice l m c5) el->BX v d (.mk c name e f th el)->b.length+400*(1+ku d' th+ku d' el)<=90000->
 Calls prog 186 #[.pointer cb,.agg #[.int .u8 c,tx name,tx e,.slice g i c1,.slice j k c4,.slice l m c5]] w (ub a cb n p q r hd own s t u params V w (.tuple #[]) (mn b (400*(1+ku d' th+ku d' el))))
def wM(d:Nat)(ab:Kc d):Dz d:=by
 intro S z w cb A B C D hd own E F G params V n ac ad o h hx hf aH f c1 l hv hg ae;have H:=h;have p:=hx;have af:=hf;have ag:=hv;have ah:=hg;have I:=hv.len;have ai:=ae;have aj:=ab;have hm:f<=1000:=SD (BX.len hg) hv.len.1
 clear hg
 go_enter func146,ntmps146
 go_wp21;go_loopw [8] (λi wr=>∃(k:Nat) (V':Value) (g:List In),k<=f/\i=k/\lJ z cb A B C D hd own E F G params V' g wr/\mJ cb V w V' wr/\mn n (400*ku d (l.take k)) g) (λi _=>f-(intOf i).toNat)
 .exact⟨0,V,n,Pb _,rfl,H,.refl _ _ _,by cases d<;>exact mn.refl n⟩
 obtain⟨k,V',g,aI,rfl,ak,al,m⟩:=hrel;have q:=ak;have J:=al;have s:=m;by_cases aJ:k<f
 .obtain⟨x,hx⟩:∃x,l[k]?=some x:=Gx (SC I);obtain⟨a,j,r,rfl,K,hr,b⟩:=ag.kt (kp.ok .u8 d) k x hx;have am:=ah x (O5 hx);obtain⟨d',v1,v2,aK,hd,rfl,t,u,v⟩:=hr.open;subst hd;obtain⟨L,M,rfl,_⟩:=t.form;obtain⟨N,c4,rfl,_⟩:=u.form;obtain⟨O,c5,rfl,_⟩:=v.form;have c:=q.old (p.kX a K).1 (p.kX a K).2;have an:=(Cb a (j+k*6+0) c).T (b 0 _ rfl);have aL:=(Cb a (j+k*6+1) c).T (b 1 _ rfl);have aM:=(Cb a (j+k*6+2) c).T (b 2 _ rfl);have ao:=(Cb a (j+k*6+3) c).T (b 3 _ rfl);have ap:=(Cb a (j+k*6+4) c).T (b 4 _ rfl);have aq:=(Cb a (j+k*6+5) c).T (b 5 _ rfl);rw[Pc]at an;have ar:=kT.tJ (d:=d') hx;have aN:=kT.AA (d:=d'+1) l (k+1);obtain⟨P,name,Q,R,th,el⟩:=x;simp only[St.kind,St.name,St.hd,St.kA,St.th,St.el,Im]at*;obtain⟨T,U⟩:=Xq R.length;rw[<-U]at ao t;clear U;obtain⟨W,X⟩:=Xq th.length;rw[<-X]at ap u;clear X;obtain⟨Y,Z⟩:=Xq el.length;rw[<-Z]at aq v;clear Z;have au:=am;have av:=t;have aw:=u;have ax:=v;obtain⟨aO,aP⟩:=mG k f;have ay:=(show 400*ku (d'+1) (l.take k)+400*(1+ku d' th+ku d' el)<=400*ku (d'+1) (l.take (k+1)) from SE)
  have az:=(show g.length+400*(1+ku d' th+ku d' el)<=90000 from SD s.len ai)
  clear b hx c ar;have aa:=Ba wr (lk P name Q L T M N W c4 O Y c5);have aA:=(q.jQ aa)
  have aB:=(J.T (.jQ aa))
  go_wp21;apply(aj S z _ cb A B C D hd own E F G params V' g ac ad o aA p af P name Q R th el L T M N W c4 O Y c5 d' rfl av aw ax au az).M;rintro e aQ ⟨rfl,aC,aD,aE,aF,aG⟩;have y:=(And.intro aE (And.intro (aB.T aF) (s.T aG ay)))
  go_wp21;go_roundw
  .exact⟨k+1,aC,aD,SE,SJ,y.1,y.2.1,y.2.2⟩
  simp[intOf];omega
 obtain rfl:f=k:=SE;go_wp21
 go_end0
 have m:=s;rw[Pq (SC I)]at m;exact⟨rfl,V',g,q,J,m⟩
def ER:Kc 0:=λ_ _ _ _ _ _ _ _ _ _ _ _ _ _ _ _ _ _ _ _ _ _ _ _ _ _ _ _ _ _ _ _ _ _ _ _ _ _ d' hd=>absurd hd SE
def KH(n:Nat)(w:World)(e:Ending)(w':World):Prop:=∃(t:Int) (a:Bool),e=.returned (.tuple #[.int .i64 t,a])/\Below w w w'/\(a=true->0<=t/\t<=n)
def CM(x:In)(n:Nat)(w:World)(h:oI n x):
  Calls prog 189 #[.agg #[.int .u8 x.op,x.a,x.b,x.n]] w (KH n w):=by
 obtain⟨_,_,c,d⟩:=h;obtain⟨op,a,b,m⟩:=x;simp only at c d⊢;by_cases e:op=27
 .subst e
  go_enter func189,ntmps189
  go_wp2;refine Pa (v:=.tuple #[.int .i64 a,true]) ?_ rfl ⟨a,true,rfl,Ba _ _,λ_=>c SG⟩;simp[results,Tryz.results189,go_sem]
 by_cases f:op=28
 .subst f
  go_enter func189,ntmps189
  go_wp2;refine Pa (v:=.tuple #[.int .i64 a,true]) ?_ rfl ⟨a,true,rfl,Ba _ _,λ_=>c SG⟩;simp[results,Tryz.results189,go_sem]
 by_cases g:op=32
 .subst g
  go_enter func189,ntmps189
  go_wp2;refine Pa (v:=.tuple #[.int .i64 b,true]) ?_ rfl ⟨b,true,rfl,Ba _ _,λ_=>d SG⟩;simp[results,Tryz.results189,go_sem]
 by_cases i:op=33
 .subst i
  go_enter func189,ntmps189
  go_wp2;refine Pa (v:=.tuple #[.int .i64 b,true]) ?_ rfl ⟨b,true,rfl,Ba _ _,λ_=>d SG⟩;simp[results,Tryz.results189,go_sem]
 have j:(op==27)=false:=by simpa using e
 have k:(op==28)=false:=by simpa using f
 have l:(op==32)=false:=by simpa using g
 have p:(op==33)=false:=by simpa using i
 go_enter func189,ntmps189
 go_wp2;refine Pa (v:=.tuple #[.int .i64 0,false]) ?_ rfl ⟨0,false,rfl,Ba _ _,λh=>by cases h⟩;simp[results,Tryz.results189,go_sem]
structure oJ(w:World):Prop where
 lt:5<w.heap.size
 kt:∀k:Nat,k<=34->∃(t u:ByteArray) (p q:Int),w.cell? ⟨5,k*4,none⟩=some (.string t)/\w.cell? ⟨5,k*4+1,none⟩=some (.string u)/\w.cell? ⟨5,k*4+2,none⟩=some (.int .i64 p)/\w.cell? ⟨5,k*4+3,none⟩=some (.int .i64 q)
def oJ.jP{w w'}(h:oJ w)(hb:w'.heap[(5:Nat)]?=w.heap[(5:Nat)]?)(hs:w.heap.size<=w'.heap.size):oJ w':=
 ⟨O1 h.lt hs,λk a=>by obtain⟨t,u,p,q,b,c,d,e⟩:=h.kt k a;exact⟨t,u,p,q,(Cb 5 (k*4) hb).T b,(Cb 5 (k*4+1) hb).T c,(Cb 5 (k*4+2) hb).T d,(Cb 5 (k*4+3) hb).T e⟩⟩
def I6(w:World)(e:Ending)(w':World):Prop:=∃(t u:ByteArray) (p q:Int),e=.returned (.agg #[.string t,.string u,p,q])/\Below w w w'
def I7(k:Nat)(a:k<=34)(w)(h:oJ w):
  Calls prog 188 #[.int .u8 (k:Int)] w (I6 w):=by
 obtain⟨t,u,p,q,b,c,d,e⟩:=h.kt k a;have f:=h.lt
 go_enter func188,ntmps188
 go_wp2;refine Pa (v:=.agg #[.string t,.string u,p,q]) ?_ rfl ⟨t,u,p,q,rfl,?_⟩
 .simp[results,Tryz.results188,go_sem]
 .exact Ba _ _
structure qY(hb hh n:Nat)(w:World):Prop where
 var:w.heap[hb]?=some (.cells #[.slice hh n n] 83)
 row:∃l:List Int,l.length=n/\w.heap[hh]?=some (.cells (pd l) 3 (0,0))
 ne:hb≠hh
def KI(hb a n:Nat)(w:World)(e:Ending)(w':World):Prop:=∃b:Bool,e=.returned (.bool b)/\qY hb a n w'/\w.grownBy w' (some a)
def G1:(prog.info? 3).map (λi=>(i.zero,i.size,i.bytes))=some (some (.int .i64 0),1,8):=SH
def EU(n:Nat)(hn:n<=100001)(w):(Instr.makeSlice 83 (.int .i64 (n:Int)) (.int .i64 (n:Int))).run prog w=.ok (.slice w n n) (w.alloc (.cells (pd (List.replicate n 0)) 3)):=by obtain⟨b,c,d,a,e⟩:=Pu G1;have:=Qu (P:=prog) w 83 3 b (.int .i64 0) underlying83 c d .i64 .i64 (n:Int) (n:Int) SE (QG _) (by rw[a];simp;omega) (by rw[e];omega) SE;rw[a,PG,PZ]at this;rw[this,<-ET];rfl
def qY.jQ{hb a n:Nat}{w w'}(h:qY hb a n w)(b:Below w w w'):qY hb a n w':=by obtain⟨l,c,hr⟩:=h.row;exact⟨(b.B _ (O3.1 h.var).1).T h.var,⟨l,c,(b.B _ (O3.1 hr).1).T hr⟩,h.ne⟩
def KJ(w:World)(e:Ending)(w':World):Prop:=∃(t:Int) (b:Bool),e=.returned (.tuple #[.int .i64 t,b])/\Below w w w'
def nC.jP{S w w' v}(h:nC S w v)(a:∀q,S q->w'.heap[q]?=w.heap[q]?):nC S w' v:=by obtain⟨A,n,c,xs,e,hs,hn⟩:=h;exact⟨A,n,c,xs,e,hs.jP kh.ok a,hn⟩
def KL(w:World)(cb a:Nat)(b c d f hd own g i j:Value)(e:Ending)(w':World):Prop:=
 ∃(t:Int) (k:Option Addr) (n' l:Nat),e=.returned (.agg #[.int .i64 (a:Int),t,.slice k n' l])/\w.grownBy w' (some cb)/\∃P' V':Value,w'.heap[cb]?=some (.cells #[b,c,d,f,hd,own,g,i,j,P',V'] 156)
def kT.lO(l:List (List UInt8))(hs:List Hd):List (List UInt8):=hs.foldl (λl h=>oC l h.name) l
def kT.kL(l:List (List UInt8))(vs:List (List Hd)):List (List UInt8):=vs.foldl lO l
def kT.uP(l:List (List UInt8)){hs:List Hd}{a:Nat}{x:Hd}(h:hs[a]?=some x):lO l (hs.take (a+1))=oC (lO l (hs.take a)) x.name:=by rw[List.take_add_one,h];simp[lO,List.foldl_append]
def kT.uQ(l:List (List UInt8)){vs:List (List Hd)}{a:Nat}{x:List Hd}(h:vs[a]?=some x):kL l (vs.take (a+1))=lO (kL l (vs.take a)) x:=by rw[List.take_add_one,h];simp[kL,List.foldl_append]
def kT.td:∀{hs:List Hd} {l:List (List UInt8)} {a:List UInt8},a∈l->a∈lO l hs
 |[],_,_,h=>h
 |x::hs,l,a,h=>td (hs:=hs) (l:=oC l x.name) (G4 h)
def kT.wN:∀{hs:List Hd} {l:List (List UInt8)} {x:Hd},x∈hs->x.name∈lO l hs
 |y::hs,l,x,h=>by rcases List.mem_cons.1 h with rfl|h;exact td (hs:=hs) (l:=oC l x.name) (vZ _ _);exact wN (hs:=hs) (l:=oC l y.name) h
def kT.wO:∀{vs:List (List Hd)} {l:List (List UInt8)} {a:List UInt8},a∈l->a∈kL l vs
 |[],_,_,h=>h
 |x::vs,l,a,h=>wO (vs:=vs) (l:=lO l x) (td h)
def kT.wP:∀{vs:List (List Hd)} {l:List (List UInt8)} {hs:List Hd} {x:Hd},hs∈vs->x∈hs->x.name∈kL l vs
 |y::vs,l,hs,x,h,hx=>by rcases List.mem_cons.1 h with rfl|h;exact wO (vs:=vs) (l:=lO l hs) (wN hx);exact wP (vs:=vs) (l:=lO l y) h hx
def kT.wQ:∀hs l,(lO l hs).length<=l.length+hs.length
 |[],l=>by simp[lO]
 |x::hs,l=>by have a:=wQ hs (oC l x.name);have b:=G3 l x.name;show(lO (oC l x.name) hs).length<=_;simp only[List.length_cons];omega
def kT.qN:∀vs l,(∀hs∈vs,hs.length<=100)->(kL l vs).length<=l.length+100*vs.length
 |[],l,_=>by simp[kL]
 |x::vs,l,h=>by have b:=qN vs (lO l x) (λa hy=>h a (List.mem_cons_of_mem _ hy));have c:=wQ x l;have d:=h x (List.mem_cons_self ..);show(kL (lO l x) vs).length<=_;simp only[List.length_cons];omega
def xw.ok(k:Nat)(a:0<k):kF (xw k) k:=⟨a,λh=>h.1,λh=>h.2,λh _=>h,λh _=>h⟩
def mQ.lt{T w}{b n:Nat}(h:mQ T w b n):b<w:=by obtain⟨c,a,_⟩:=h;exact(O3.1 a).1
def AD:(prog.info? 223).map (λi=>(i.zero,i.size,i.bytes))=some (some (.agg #[.int .i64 0,.int .i64 0,Nl]),3,40):=SH
def AE:(prog.info? 4).map (λi=>(i.zero,i.size,i.bytes))=some (some (.bool false),1,1):=SH
def KM:(prog.info? 219).map (λi=>(i.zero,i.size,i.bytes))=some (some (Nl),1,24):=SH
def KN:(prog.info? 220).map (λi=>(i.zero,i.size,i.bytes))=some (some (Nl),1,24):=SH
def CO(n:Nat)(hn:n<=1000)(w):(Instr.makeSlice 219 (.int .i64 (n:Int)) (.int .i64 (n:Int))).run prog w=.ok (.slice w n n) (w.alloc (.cells (madeCells #[.int .i64 0,.int .i64 0,Nl] (n*3)) 223)):=by obtain⟨b,c,d,a,e⟩:=Pu AD;have:=Qu (P:=prog) w 219 223 b _ underlying219 c d .i64 .i64 (n:Int) (n:Int) SE (QG _) (by rw[a];simp;omega) (by rw[e];omega) SE;rw[a,PZ]at this;exact this
def CP(n:Nat)(hn:n<=1000)(w):(Instr.makeSlice 220 (.int .i64 (n:Int)) (.int .i64 (n:Int))).run prog w=.ok (.slice w n n) (w.alloc (.cells (madeCells #[false] n) 4)):=by obtain⟨b,c,d,a,e⟩:=Pu AE;have:=Qu (P:=prog) w 220 4 b _ underlying220 c d .i64 .i64 (n:Int) (n:Int) SE (QG _) (by rw[a];simp;omega) (by rw[e];omega) SE;rw[a,PG,PZ]at this;exact this
def qp:kF (xw 1) 1:=xw.ok 1 SE
def vO{T b w}{lo f:Nat}{P P'}{k k':Nat}{V V'}{c d:Type}{R:Rel c}{i:Rel d}{j:List c}{l:List d}(h:kf R T k P w lo V j)(m:kf i b k' P' w f V' l)(n:T≠b):∀z,V.ownBlock=some z->V'.ownBlock≠some z:=by
 intro z hz e;obtain⟨_,p,_⟩:=h.own;obtain⟨_,q,_⟩:=m.own;rcases p.2 with⟨rfl,_⟩|⟨g,r,s,rfl,_,hg,_⟩
 simp[Value.ownBlock]at hz;rcases q.2 with⟨rfl,_⟩|⟨t,u,v,rfl,_,a,_⟩
 simp[Value.ownBlock]at e;simp only[Value.ownBlock,Rv]at hz e;subst hz;subst e;rw[hg]at a;injection a with a;injection a with _ a _;exact n a
def su.lt{a x V}{n:Nat}(h:su a x V n):∀z,V.ownBlock=some z->a<=z/\z<x:=by obtain⟨xs,b,_⟩:=h;exact b.ge
def I8:(prog.info? 164).map (λi=>(i.zero,i.size,i.bytes))=some (some (.agg #[Nl,Nl,Nl]),3,72):=SH
def KQ:(prog.info? 78).map (λi=>(i.zero,i.size,i.bytes))=some (some (Nl),1,24):=SH
