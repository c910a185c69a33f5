import Derived.Test.YtfemcncookpdhaaGreatDoorZ2
import Derived.Test.YtfemcncookpdhaaGreatDoorZ3
import Derived.Test.YtfemcncookpdhaaGreatDoorZ4
set_option maxRecDepth 1000000
set_option maxHeartbeats 32000000
set_option linter.all false
namespace Go.Proofs.YtfemcncookpdhaaGreatDoor
open Go.RowKit lX Go.Proofs.Tryz
theorem nw(S)(a:Nat)(sc)(left n:Nat)(w)(h:kH S w a sc left)(hn:0<n)(I:n<=1000):Calls prog 81 #[.pointer (some ⟨a,0,none⟩),n] w (nu S a sc left n w):=by
 obtain⟨s,J,t,g,u,hy⟩:=h.kI;obtain⟨K,c,L,rfl,v,M,N,hr⟩:=id hy;have O:=kf g 6 _ rfl;have P:=ko g 6;have H:=h;have j:=hy;have y:=NA g;have z:=u;cases t with
 |nil=>
  go_enter func81,ntmps81
  go_wp2;go_ret;exact⟨0,hn,rfl,H,lu _ _⟩
 |cons x r=>
  obtain⟨b,o,q,rfl,Q,A,B⟩:=j.kI qE.ok 0 x rfl;have hx:w.cell? ⟨b,o,none⟩=some (.int .u8 (x.toNat:Int)):=by have:=B 0 (.int .u8 (x.toNat:Int)) (by rw[A];rfl);simpa using this
  have d:=j.tail qE.ok;have k:=d;have R:x.toNat<256:=UInt8.toNat_lt x;have T:r.length+1<=c:=(by simpa using v);have C:x.toNat % n<n:=Nat.mod_lt _ hn;have D:∀f c2,km qE S w (.slice f r.length c2) r->nu S a sc left n w (.returned (.int .i64 ((x.toNat:Int) % (n:Int)))) (w.setCell ⟨a,6,none⟩ (.slice f r.length c2)):=λf c2 E=>by have l:=kv w a 6 (.slice f r.length c2);have m:∀b,S b->(w.setCell ⟨a,6,none⟩ (.slice f r.length c2)).heap[b]?=w.heap[b]?:=λb hS=>l.B b (H.ln b hS).2 (λe=>(H.ln b hS).1 (by injection e));exact⟨x.toNat % n,C,by rw[Int.natCast_emod],⟨⟨s,.slice f r.length c2,r,ki y.o,z.kg qc.ok m,E.kg qE.ok m⟩,λb hS=>⟨(H.ln b hS).1,by rw[NM];exact(H.ln b hS).2⟩⟩,l⟩
  have p:=D;by_cases hc:c=1
  .have d:=k;rw[Oj hc]at d;have i:=d;subst hc;obtain rfl:r=[]:=OQ PJ;have F:km qE S w (.slice (some ⟨b,o,none⟩) 0 0) []:=i;have G:=F
   go_enter func81,ntmps81
   go_wp2;go_ret;exact p _ _ G
  have d:=k;rw[Od hc]at d;have i:=d
  go_enter func81,ntmps81
  go_wp2;go_ret;exact p _ _ i
theorem yw(S:Nat->Prop)(a:Nat)(sc:Sc)(D d left:Nat)(w:World)(aN:d+D=3)(aO:left<=12)
  (Y:∀(k left:Nat) W,k<13->left<=12->kH S W a sc left->Calls prog 82 #[.pointer (some ⟨a,0,none⟩),k,d] W (qj S a sc D left W)) (h:kH S w a sc left):
  Calls prog 44 #[.pointer (some ⟨a,0,none⟩),d] w (wz S a sc (D+1) left w):=by
 obtain⟨ak,Z,hz0,aa,ab⟩:=N4 JK;have G:=NA (And.intro Z (And.intro hz0 (And.intro aa ab)));clear Z hz0 aa ab;have aP:=h.lt;have al:=NA (show∀b,S b->b<w from λb c=>(h.ln b c).2);have am:=NA Y;have H:=h;clear Y h
 go_enter func44,ntmps44
 go_wp2_with fail
 go_loopg [5] left (λm v wr=>∃(xs:List St),m<=left/\kx (kE .i64 (D+1)) 181 6 (λb=>w<=b/\b≠a) wr w v xs/\(∀x∈xs,mq sc (D+1) x)/\kN (D+1) xs+m<=left/\kH S wr a sc m/\w.grownBy wr (some a))
 case atStart=>exact⟨[],NQ _,kx.nil _ _ _ _ _ _,PK,by rw[oB];omega,H,lu _ _⟩
 case round=>
  obtain⟨xs,aQ,i,ac,O,I,J⟩:=hrel;obtain⟨an,ao,rfl,ap,aR⟩:=i.form;obtain⟨ad,P⟩:=Xq xs.length;rw[<-P]at i ap⊢;have aS:=J.size;have aT:=DC D xs;have K:=NA ac;have C:=NA P;have aU:ad<=left:=PJ;obtain⟨⟨aV,ae,aW,aq⟩,af,ag⟩:=I.Dp;clear ac P;by_cases ar:ae=0
  .subst ar;go_wp2_with fail;go_ret;exact⟨_,xs,gk,rfl,by have:=i;rw[C.o]at this⊢;exact this,K.o,O,I,J⟩
  have aX:(0:Int)<(ae:Int):=PJ;by_cases aY:gk=0
  .have au:¬(0:Int)<(gk:Int):=PJ;go_wp2_with fail;go_ret;exact⟨_,xs,gk,rfl,by have:=i;rw[C.o]at this⊢;exact this,K.o,O,I,J⟩
  have au:(0:Int)<(gk:Int):=PJ;go_wp2_with fail;refine(nw S a sc gk 14 wr I PJ PJ).M ?_;rintro e L ⟨k,aZ,rfl,Q,R⟩;have f:=i.ge;have T:=i.grown (kE.ok _ _) R (λz e=>by injection e with e;subst e;exact⟨λh=>h.2 rfl,λE=>PH (f a E.symm)⟩);have ah:=(kn J R)
  have ba:=R.size;clear aq af ag;obtain⟨_,af,ag⟩:=Q.Dp;clear f;by_cases av:k=13
  .subst av;go_wp2_with fail;go_ret;exact⟨_,xs,gk,rfl,by have:=T;rw[C.o]at this⊢;exact this,K.o,O,Q,ah⟩
  have U:((k:Int)==13)=false:=(by rw[NX];omega);obtain⟨g,rfl⟩:∃g,gk=g+1:=⟨gk-1,PJ⟩
  have bb:((g+1:Nat):Int)-1=(g:Int):=PJ;have aw:=(Q.zx g)
  have V:L.grownBy (L.setCell ⟨a,7,none⟩ (.int .i64 (g:Int))) (some a):=kv L a 7 _;have f:=T.ge;have ai:=(T.grown (kE.ok _ _) V (λz e=>by injection e with e;subst e;exact⟨λh=>h.2 rfl,λE=>PH (f a E.symm)⟩))
  have ax:=(kn ah V)
  have bc:=V.size;clear f;go_wp2_with fail;refine(am.o k g _ PJ PJ aw).M ?_;generalize L.setCell ⟨a,7,none⟩ (.int .i64 (g:Int))=bd at*;rintro e F ⟨j,l,n,p,r,s,t,c1,u,c2,y,c3,x,ay,rfl,hx,az,be,aA,X⟩;have f:=ai.ge;have aB:=ai.grown (kE.ok _ _) X (λz e=>by injection e with e;subst e;exact⟨λh=>h.2 rfl,λE=>PH (f a E.symm)⟩);have bf:=X.size;have M:=Ba F (.cells #[.int .i64 j,tx l,tx n,.slice p t c1,.slice r u c2,.slice s y c3] 181);have aC:kE .i64 (D+1) (λb=>(w<=b/\b≠a)/\b<(F.alloc (.cells #[.int .i64 j,tx l,tx n,.slice p t c1,.slice r u c2,.slice s y c3] 181)).heap.size/\some b≠(Value.slice an ad ao).ownBlock) (F.alloc (.cells #[.int .i64 j,tx l,tx n,.slice p t c1,.slice r u c2,.slice s y c3] 181)) [.int .i64 j,tx l,tx n,.slice p t c1,.slice r u c2,.slice s y c3] x:=
   (kE.ok _ _).M ((kE.ok _ _).kg hx (λb c=>M.B b c.2.1)) (λb c=>⟨⟨PH c.1,c.2.2⟩,by rw[NB];have:=c.2.1;omega,λe=>PI ((f b e.symm).2) c.1⟩)
  have aj:=(aB.kh (kE.ok _ _) M)
  have aD:=(aA.kh M)
  have A:=(kn (kn ax X) (kG (kp M) (some a)))
  have aE:=NA (lT F [.int .i64 j,tx l,tx n,.slice p t c1,.slice r u c2,.slice s y c3] 181);clear f;go_wp2_with (at_builtin;refine kD rfl _ _ 112 rfl w.heap.size 181 ak _ 6 112 underlying112 G.o.1 G.o.2.1 G.o.2.2.1 G.o.2.2.2 rfl (kE.ok .i64 (D+1)) (λb=>w<=b/\b≠a) _ xs rfl aj ⟨F,0,none⟩ [.int .i64 j,tx l,tx n,.slice p t c1,.slice r u c2,.slice s y c3] x rfl aE.o aC ?c3 ?c4 ?c5 ?_);case c3=>rw[<-C.o];unfold maxLen;omega
  case c4=>rw[<-C.o];omega
  case c5=>simp;omega
  intro bg aF aG B aH;have N:=aj.ge;have aI:w.grownBy aF (some a):=⟨B.os.T A.os,B.tape.T A.tape,B.output.T A.output,NR A.size B.size,λq U aJ=>(B.B q (ND U A.size) (λe=>PH ((N q e.symm).1))).T (A.B q U aJ)⟩
  have aK:=aD.rL B (λe=>PH ((N a e.symm).1)) (λb c e=>by have bh:=(N b e.symm).1;have bi:=al.o b c;omega);have aL:=NA (ug D xs x);clear aH N;go_wp2_with fail
  go_roundg ay
  case rel=>exact⟨xs++[x],PJ,aG,λaM hy=>by rcases OI.1 hy with hy|hy;exact K.o aM hy;simp at hy;rw[hy];exact az,by rw[aL.o];omega,aK,aI⟩
  case measure=>omega
theorem ql.app{S}{f:Nat}{sc V hs}{g:Nat}{k:Int}{l}{n c:Nat}{w x i}(h:ql S f sc V hs g k l n c w x)(A:f<w)(hS:∀b,S b->b<w)(t:kx (mo .i64) 114 3 (λb=>w<=b/\b≠f) i w V hs)(a:x.grownBy i V.ownBlock):ql S f sc V hs g k l n c w i:=by obtain⟨d,u,m,v,r,p,left,hm⟩:=h;have j:=u.ge;refine⟨⟨a.os.T d.os,a.tape.T d.tape,a.output.T d.output,NR d.size a.size,λq s y=>(a.B q (ND s d.size) (λe=>PH ((j q e.symm).1))).T (d.B q s y)⟩,t,(a.B g (NC.1 m).1 (λe=>r e)).T m,v,r,p,left,?_⟩;exact hm.rL a (λe=>PH ((j f e.symm).1)) (λb z e=>by have B:=(j b e.symm).1;have:=hS b z;omega)
theorem nx.app{i:Type}{R:Rel i}{T k:Nat}{P d wr}{o:Nat}{C j V}{xs:List i}{x f}(h:nx R T k P d wr o C j V xs x)(a:x.grownBy f V.ownBlock)(m:kx R T k P f d V xs):nx R T k P d wr o C j V xs f:=
 have hx:o<x:=(NC.1 h.c).1
 ⟨⟨a.os.T h.g.os,a.tape.T h.g.tape,a.output.T h.g.output,NR h.g.size a.size,λb c g=>(a.B b (ND c h.g.size) (λe=>PH ((h.v b e.symm).1))).T (h.g.B b c g)⟩,(a.B o hx (λe=>PI ((h.v o e.symm).1) h.lt)).T h.c,m,NR h.s a.size,h.v,h.lt,h.ws,λb c g l=>(a.B b (ND c h.s) l).T (h.k b c g l)⟩
theorem xd(d:Nat)(K:∀d',d=d'+1->Jw d'):Jv d:=by
 intro S w W sc b f g j l cv p s t aq m c args u h a hm C;have E:=a.len;have hc:=E.2;have F:Below w w (w.alloc (.cells #[.slice b f g,.slice j l cv,.slice p s t] 305)):=Ba _ _;have L:=NF w (.cells #[.slice b f g,.slice j l cv,.slice p s t] 305);have X:(w.alloc (.cells #[.slice b f g,.slice j l cv,.slice p s t] 305)).heap.size=w+1:=PK
 have H:=(h.kh F)
 have Y:=(a.kg (kz.ok .u8 d) (λq y=>F.B q (h.ln q y)))
 have Z:=NA E.1;have M:=NA L;have aa:=NA C;have ab:=NA K;clear E L C K
 go_enter func218,ntmps218
 go_wp2_with fail;obtain⟨b0,N⟩:=Xq w.heap.size;rw[<-N]at M X⊢;have ar:w<=b0:=PJ
 generalize w.alloc (.cells #[.slice b f g,.slice j l cv,.slice p s t] 305)=B at*;have ac:b0<B:=PJ
 clear N;go_loopw [4,7,15] (λad ae i wr=>∃k:Nat,k<=m/\i=k/\ad=.int .u8 (BU k u)/\ae=.bool true/\Below B B wr) (λ_ _ i _=>m-(intOf i).toNat);case atStart=>exact⟨0,NP _,rfl,rfl,rfl,Below.refl _ _⟩
 case round=>
  obtain⟨k,au,rfl,rfl,rfl,z⟩:=hrel;have av:=z.size;obtain⟨⟨af,ag,ah⟩,_⟩:=kS ((z.B b0 ac).T M.o);have aw:b0<wr:=PJ;by_cases ax:k<m
  .obtain⟨x,hx⟩:∃x,args[k]?=some x:=Gx (PH Z.o);have D:=H.ln;obtain⟨O,ay,r,rfl,ai,hr,A⟩:=(Y.kg (kz.ok .u8 d) (λq y=>z.B q (D q y))).kI (kz.ok .u8 d) k x hx;obtain⟨d',v,rfl,rfl,a⟩:=hr.open;obtain⟨G,I,rfl,_⟩:=a.form;have aj:=A 0 _ rfl;have az:=A 1 _ rfl;have aA:=A 2 _ rfl;have ak:=A 3 _ rfl;rw[NS]at aj;have aB:O<wr:=PH (D O ai);have C:=aa.o x (NH hx);obtain⟨op,name,n,P⟩:=x;simp only[Ex.op,Ex.name,Ex.n,Ex.args]at*;obtain⟨J,Q⟩:=Xq P.length;rw[<-Q]at ak a;clear Q;have R:Below B B (wr.alloc (.cells #[.int .u8 op,tx name,n,.slice G J I] 190)):=z.alloc PJ _;have al:=(ab.o d' rfl S (wr.alloc (.cells #[.int .u8 op,tx name,n,.slice G J I] 190)) W sc b f g j l cv p s t G J I op n name P u (H.kh R) (a.kg (kz.ok .u8 d') (λq y=>N6 _ _ (PH (D q y)))) C)
   have aC:(0:Int)<=(k:Int):=PJ;have aD:(k:Int)<(m:Int):=PJ;clear A hx D;go_wp2_with fail;refine al.M ?_;rintro e aE ⟨rfl,am⟩;have T:=(R.T (am.M (by rw[NB];omega)))
   by_cases U:k=0
   .subst U;have an:((0:Int)==0)=true:=rfl;go_wp2_with fail;go_roundw;case rel=>exact⟨1,PJ,PQ,rfl,rfl,T⟩
    case measure=>simp[intOf];omega
   have an:((k:Int)==0)=false:=(by rw[NX];omega);have ao:BU k u=u:=(by unfold BU;rw[Od U]);have V:BU (k+1) u=u:=(by unfold BU;rw[Od PJ]);have ap:=NA V;clear V;rw[ao];go_wp2_with fail;go_roundw;case rel=>exact⟨k+1,PJ,PQ,by rw[ap.o],PK,T⟩
   case measure=>simp[intOf];omega
  obtain rfl:m=k:=PJ;clear af ag ah;go_wp2_with fail;refine NT (v:=.tuple #[.int .u8 (BU m u),Em,.int .i64 0]) ?_ rfl ⟨rfl,F.T (z.M PJ)⟩;simp[results,Tryz.results218,go_sem]
theorem pn(S w l sc a)(b c:Nat)(d)(f cv:Nat)(g)(i j:Nat)(m cb:Nat)(q o1 o2:Value)(r:ByteArray)(s:Nat)(name:List UInt8)(x:Va)(h:rB S w l sc a b c d f cv g i j)
  (k:Bd m cb a b c d f cv g i j q o1 o2 r s w) (hm:name∉oI 112 sc.params) (hx:((lV sc.ints sc.kF).find? λx=>x.name==name)=some x):
  Calls prog 210 #[.pointer (some ⟨m,0,none⟩),tx name] w (kU (.int .u8 x.ty) w):=by
 have n:=(sf S w l sc a b c d f cv g i j name h)
 rw[Od hm,hx]at n;have t:=kf k.kI 1 _ rfl;have u:=kf k.kI 2 _ rfl;have v:=kf k.kI 3 _ rfl
 go_enter func210,ntmps210
 go_wp2_with fail;refine n.M ?_;rintro e y ⟨rfl,p⟩;simp only[pP];go_wp2_with fail;go_ret;exact⟨rfl,p.alloc p.size _⟩
end Go.Proofs.YtfemcncookpdhaaGreatDoor
namespace Go.Proofs
open Go.Shelf
def Tryz.vD:Go.Shelf.Ren:=⟨fun|169=>41|n=>n,fun|70=>128|9=>9|0=>0|72=>130|37=>22|127=>205|3=>3|5=>5|n=>n,fun|n=>n⟩
theorem Tryz.Ia:Go.Proofs.Lays.n169 Tryz.prog Tryz.vD:={
 mixed:=by kernel_rfl
 f169:=Tryz.func41.trans (congrArg some (by kernel_rfl))
 t0:=Tryz.underlying0
 a0:=Tryz.isAgg0
 z0:=Tryz.sizeOf0
 v0:=Tryz.zeroValue0
 t3:=Tryz.underlying3
 a3:=Tryz.isAgg3
 z3:=Tryz.sizeOf3
 v3:=Tryz.zeroValue3
 t9:=Tryz.underlying9
 a9:=Tryz.isAgg9
 z9:=Tryz.sizeOf9
 v9:=Tryz.zeroValue9
 t37:=Tryz.underlying22
 a37:=Tryz.isAgg22
 z37:=Tryz.sizeOf22
 v37:=Tryz.zeroValue22
 t70:=Tryz.underlying128
 a70:=Tryz.isAgg128
 z70:=Tryz.sizeOf128
 v70:=Tryz.zeroValue128
 t72:=Tryz.underlying130
 a72:=Tryz.isAgg130
 z72:=Tryz.sizeOf130
 v72:=Tryz.zeroValue130
 t127:=Tryz.underlying205
 a127:=Tryz.isAgg205
 z127:=Tryz.sizeOf205
 v127:=Tryz.zeroValue205}
theorem Tryz.uA:Builder.Extra Tryz.prog Tryz.vD:={
 sizeBuilder:=by kernel_rfl
 liesBuilder:=by kernel_rfl
 t5:=Tryz.underlying5
 a5:=Tryz.isAgg5
 z5:=Tryz.sizeOf5
 v5:=Tryz.zeroValue5
 infoByte:=by kernel_rfl
 cellsByte:=by kernel_rfl
 sizeByte:=by kernel_rfl
 neB5:=by decide}
open Go.RowKit in
open Go.RowKit in
open Go.RowKit in
theorem Tryz.Builder_String_any(B b:Nat)(l:List UInt8)(w:World)(h:Lib.IsBuilder 130 5 B b (Lib.byteCells l) w)(Nu:B≤w.heap.size):
 Calls Tryz.prog 41 #[.pointer (some ⟨b,0,none⟩)] w fun e w'=>e=.returned (.string ⟨l.toArray⟩)∧Below B w w':=Any.Builder_String_any Tryz.Ia Tryz.uA B b l w h Nu
def Tryz.pk:Go.Shelf.Ren:=⟨fun|156=>78|165=>121|166=>38|169=>41|240=>74|241=>163|276=>118|277=>189|n=>n,fun|31=>49|9=>9|3=>3|4=>4|0=>0|20=>20|72=>130|76=>133|70=>128|37=>22|75=>132|127=>205|164=>247|5=>5|80=>68|n=>n,fun|n=>n⟩
theorem Tryz.vY:Go.Proofs.Lays.n156 Tryz.prog Tryz.pk:={
 mixed:=by kernel_rfl
 f156:=Tryz.func78.trans (congrArg some (by kernel_rfl))
 f165:=Tryz.func121.trans (congrArg some (by kernel_rfl))
 f166:=Tryz.func38.trans (congrArg some (by kernel_rfl))
 f169:=Tryz.func41.trans (congrArg some (by kernel_rfl))
 f240:=Tryz.func74.trans (congrArg some (by kernel_rfl))
 f241:=Tryz.func163.trans (congrArg some (by kernel_rfl))
 f276:=Tryz.func118.trans (congrArg some (by kernel_rfl))
 f277:=Tryz.func189.trans (congrArg some (by kernel_rfl))
 t0:=Tryz.underlying0
 a0:=Tryz.isAgg0
 z0:=Tryz.sizeOf0
 v0:=Tryz.zeroValue0
 t3:=Tryz.underlying3
 a3:=Tryz.isAgg3
 z3:=Tryz.sizeOf3
 v3:=Tryz.zeroValue3
 t4:=Tryz.underlying4
 a4:=Tryz.isAgg4
 z4:=Tryz.sizeOf4
 v4:=Tryz.zeroValue4
 t9:=Tryz.underlying9
 a9:=Tryz.isAgg9
 z9:=Tryz.sizeOf9
 v9:=Tryz.zeroValue9
 t20:=Tryz.underlying20
 a20:=Tryz.isAgg20
 z20:=Tryz.sizeOf20
 v20:=Tryz.zeroValue20
 t31:=Tryz.underlying49
 a31:=Tryz.isAgg49
 z31:=Tryz.sizeOf49
 v31:=Tryz.zeroValue49
 t37:=Tryz.underlying22
 a37:=Tryz.isAgg22
 z37:=Tryz.sizeOf22
 v37:=Tryz.zeroValue22
 t70:=Tryz.underlying128
 a70:=Tryz.isAgg128
 z70:=Tryz.sizeOf128
 v70:=Tryz.zeroValue128
 t72:=Tryz.underlying130
 a72:=Tryz.isAgg130
 z72:=Tryz.sizeOf130
 v72:=Tryz.zeroValue130
 t75:=Tryz.underlying132
 a75:=Tryz.isAgg132
 z75:=Tryz.sizeOf132
 v75:=Tryz.zeroValue132
 t76:=Tryz.underlying133
 a76:=Tryz.isAgg133
 z76:=Tryz.sizeOf133
 v76:=Tryz.zeroValue133
 t127:=Tryz.underlying205
 a127:=Tryz.isAgg205
 z127:=Tryz.sizeOf205
 v127:=Tryz.zeroValue205
 t164:=Tryz.underlying247
 a164:=Tryz.isAgg247
 z164:=Tryz.sizeOf247
 v164:=Tryz.zeroValue247}
theorem Tryz.oH:Builder.Extra Tryz.prog Tryz.pk:={
 sizeBuilder:=by kernel_rfl
 liesBuilder:=by kernel_rfl
 t5:=Tryz.underlying5
 a5:=Tryz.isAgg5
 z5:=Tryz.sizeOf5
 v5:=Tryz.zeroValue5
 infoByte:=by kernel_rfl
 cellsByte:=by kernel_rfl
 sizeByte:=by kernel_rfl
 neB5:=by decide}
open Go.RowKit in
theorem Tryz.strings_Join_none(a:Option Addr)(c:Nat)(sep:ByteArray)(w:World):
 Calls Tryz.prog 78 #[.slice a 0 c,.string sep] w fun e w'=>e=.returned (.string ⟨#[]⟩)∧w'=w:=Any.strings_Join_none Tryz.vY Tryz.oH a c sep w
open Go.RowKit in
theorem Tryz.strings_Join(bk o c:Nat)(xs:List ByteArray)(sep:ByteArray)(w:World)(JX:∀(j:Nat) x,xs[j]?=some x→w.cell? ⟨bk,o+j,none⟩=some (.string x))(Nv:bk<w.heap.size)(hN:xs.length≤140737488355328)(L1:xs.length≤c)(hlen:(Lib.join (xs.map (·.data.toList)) sep.data.toList).length≤140737488355328):
 Calls Tryz.prog 78 #[.slice (some ⟨bk,o,none⟩) xs.length c,.string sep] w fun e w'=>e=.returned (.string ⟨(Lib.join (xs.map (·.data.toList)) sep.data.toList).toArray⟩)∧Below w.heap.size w w':=Any.strings_Join Tryz.vY Tryz.oH bk o c xs sep w JX Nv hN L1 hlen
def Tryz.Bn:Go.Shelf.Ren:=⟨fun|121=>50|214=>95|n=>n,fun|4=>4|9=>9|n=>n,fun|n=>n⟩
theorem Tryz.Ib:Go.Proofs.Lays.n121 Tryz.prog Tryz.Bn:={
 mixed:=by kernel_rfl
 f121:=Tryz.func50.trans (congrArg some (by kernel_rfl))
 f214:=Tryz.func95.trans (congrArg some (by kernel_rfl))
 t4:=Tryz.underlying4
 a4:=Tryz.isAgg4
 z4:=Tryz.sizeOf4
 v4:=Tryz.zeroValue4
 t9:=Tryz.underlying9
 a9:=Tryz.isAgg9
 z9:=Tryz.sizeOf9
 v9:=Tryz.zeroValue9}
open Go.RowKit in
theorem Tryz.strconv_FormatBool(b:Bool)(w:World):
 Calls Tryz.prog 50 #[.bool b] w fun e w'=>e=.returned (.string ⟨(Lib.formatBool b).toArray⟩)∧w'=w:=Any.strconv_FormatBool Tryz.Ib b w
def Tryz.zK:Go.Shelf.Ren:=⟨fun|171=>51|243=>96|246=>120|283=>159|284=>160|285=>161|286=>162|129=>114|317=>185|318=>186|319=>187|320=>188|337=>207|338=>208|n=>n,fun|3=>3|9=>9|2=>2|4=>4|171=>284|0=>0|53=>138|37=>22|5=>5|173=>286|212=>321|51=>226|20=>20|213=>322|46=>198|232=>95|233=>228|n=>n,fun|17=>2|18=>9|19=>10|n=>n⟩
theorem Tryz.Gz:Go.Proofs.LaysM.n171 Tryz.prog Tryz.zK:={
 mixed:=by kernel_rfl
 f129:=Tryz.func114.trans (congrArg some (by kernel_rfl))
 f171:=Tryz.func51.trans (congrArg some (by kernel_rfl))
 f243:=Tryz.func96.trans (congrArg some (by kernel_rfl))
 f246:=Tryz.func120.trans (congrArg some (by kernel_rfl))
 f283:=Tryz.func159.trans (congrArg some (by kernel_rfl))
 f284:=Tryz.func160.trans (congrArg some (by kernel_rfl))
 f285:=Tryz.func161.trans (congrArg some (by kernel_rfl))
 f286:=Tryz.func162.trans (congrArg some (by kernel_rfl))
 f317:=Tryz.func185.trans (congrArg some (by kernel_rfl))
 f318:=Tryz.func186.trans (congrArg some (by kernel_rfl))
 f319:=Tryz.func187.trans (congrArg some (by kernel_rfl))
 f320:=Tryz.func188.trans (congrArg some (by kernel_rfl))
 f337:=Tryz.func207.trans (congrArg some (by kernel_rfl))
 f338:=Tryz.func208.trans (congrArg some (by kernel_rfl))
 t0:=Tryz.underlying0
 a0:=Tryz.isAgg0
 z0:=Tryz.sizeOf0
 v0:=Tryz.zeroValue0
 t2:=Tryz.underlying2
 a2:=Tryz.isAgg2
 z2:=Tryz.sizeOf2
 v2:=Tryz.zeroValue2
 t3:=Tryz.underlying3
 a3:=Tryz.isAgg3
 z3:=Tryz.sizeOf3
 v3:=Tryz.zeroValue3
 t4:=Tryz.underlying4
 a4:=Tryz.isAgg4
 z4:=Tryz.sizeOf4
 v4:=Tryz.zeroValue4
 t5:=Tryz.underlying5
 a5:=Tryz.isAgg5
 z5:=Tryz.sizeOf5
 v5:=Tryz.zeroValue5
 t9:=Tryz.underlying9
 a9:=Tryz.isAgg9
 z9:=Tryz.sizeOf9
 v9:=Tryz.zeroValue9
 t20:=Tryz.underlying20
 a20:=Tryz.isAgg20
 z20:=Tryz.sizeOf20
 v20:=Tryz.zeroValue20
 t37:=Tryz.underlying22
 a37:=Tryz.isAgg22
 z37:=Tryz.sizeOf22
 v37:=Tryz.zeroValue22
 t46:=Tryz.underlying198
 a46:=Tryz.isAgg198
 z46:=Tryz.sizeOf198
 v46:=Tryz.zeroValue198
 t51:=Tryz.underlying226
 a51:=Tryz.isAgg226
 z51:=Tryz.sizeOf226
 v51:=Tryz.zeroValue226
 t53:=Tryz.underlying138
 a53:=Tryz.isAgg138
 z53:=Tryz.sizeOf138
 v53:=Tryz.zeroValue138
 t171:=Tryz.underlying284
 a171:=Tryz.isAgg284
 z171:=Tryz.sizeOf284
 v171:=Tryz.zeroValue284
 t173:=Tryz.underlying286
 a173:=Tryz.isAgg286
 z173:=Tryz.sizeOf286
 v173:=Tryz.zeroValue286
 t212:=Tryz.underlying321
 a212:=Tryz.isAgg321
 z212:=Tryz.sizeOf321
 v212:=Tryz.zeroValue321
 t213:=Tryz.underlying322
 a213:=Tryz.isAgg322
 z213:=Tryz.sizeOf322
 t232:=Tryz.underlying95
 a232:=Tryz.isAgg95
 z232:=Tryz.sizeOf95
 v232:=Tryz.zeroValue95
 t233:=Tryz.underlying228
 a233:=Tryz.isAgg228
 z233:=Tryz.sizeOf228
 v233:=Tryz.zeroValue228
 g17:=by kernel_rfl
 g18:=by kernel_rfl
 g19:=by kernel_rfl
 i0:=by kernel_rfl
 i2:=by kernel_rfl
 i3:=by kernel_rfl
 i4:=by kernel_rfl
 i5:=by kernel_rfl
 i9:=by kernel_rfl
 i20:=by kernel_rfl
 i37:=by kernel_rfl
 i46:=by kernel_rfl
 i51:=by kernel_rfl
 i53:=by kernel_rfl
 i171:=by kernel_rfl
 i173:=by kernel_rfl
 i212:=by kernel_rfl
 i232:=by kernel_rfl
 i233:=by kernel_rfl
 m17:=by kernel_rfl
 m18:=by kernel_rfl
 m19:=by kernel_rfl}
open Go.RowKit Go.Sort Go.Lib in
theorem Tryz.strconv_Itoa(n:Int)(h0: -9223372036854775808≤n)(h1:n≤9223372036854775807)(w:World)(Jx:Lib.TabIs Tryz.prog w "internal/strconv.uint64pow10" .u64 Lib.pow10Tab):
 Calls Tryz.prog 51 #[.int .i64 n] w fun e w'=>e=.returned (.string ⟨(Lib.itoa n).toArray⟩)∧∃k os,w'=grow (w.drewN k) os:=Any.strconv_Itoa Tryz.Gz n h0 h1 w Jx
def Tryz.Bo:Go.Shelf.Ren:=⟨fun|171=>51|243=>96|246=>120|283=>159|284=>160|285=>161|286=>162|129=>114|317=>185|318=>186|319=>187|320=>188|337=>207|338=>208|n=>n,fun|3=>3|9=>9|2=>2|4=>4|171=>284|0=>0|53=>138|37=>22|5=>5|173=>286|212=>321|51=>226|20=>20|213=>322|46=>198|232=>95|233=>228|n=>n,fun|17=>2|18=>9|19=>10|n=>n⟩
theorem Tryz.Ic:Go.Proofs.Lays.n171 Tryz.prog Tryz.Bo:={
 mixed:=by kernel_rfl
 f129:=Tryz.func114.trans (congrArg some (by kernel_rfl))
 f171:=Tryz.func51.trans (congrArg some (by kernel_rfl))
 f243:=Tryz.func96.trans (congrArg some (by kernel_rfl))
 f246:=Tryz.func120.trans (congrArg some (by kernel_rfl))
 f283:=Tryz.func159.trans (congrArg some (by kernel_rfl))
 f284:=Tryz.func160.trans (congrArg some (by kernel_rfl))
 f285:=Tryz.func161.trans (congrArg some (by kernel_rfl))
 f286:=Tryz.func162.trans (congrArg some (by kernel_rfl))
 f317:=Tryz.func185.trans (congrArg some (by kernel_rfl))
 f318:=Tryz.func186.trans (congrArg some (by kernel_rfl))
 f319:=Tryz.func187.trans (congrArg some (by kernel_rfl))
 f320:=Tryz.func188.trans (congrArg some (by kernel_rfl))
 f337:=Tryz.func207.trans (congrArg some (by kernel_rfl))
 f338:=Tryz.func208.trans (congrArg some (by kernel_rfl))
 t0:=Tryz.underlying0
 a0:=Tryz.isAgg0
 z0:=Tryz.sizeOf0
 v0:=Tryz.zeroValue0
 t2:=Tryz.underlying2
 a2:=Tryz.isAgg2
 z2:=Tryz.sizeOf2
 v2:=Tryz.zeroValue2
 t3:=Tryz.underlying3
 a3:=Tryz.isAgg3
 z3:=Tryz.sizeOf3
 v3:=Tryz.zeroValue3
 t4:=Tryz.underlying4
 a4:=Tryz.isAgg4
 z4:=Tryz.sizeOf4
 v4:=Tryz.zeroValue4
 t5:=Tryz.underlying5
 a5:=Tryz.isAgg5
 z5:=Tryz.sizeOf5
 v5:=Tryz.zeroValue5
 t9:=Tryz.underlying9
 a9:=Tryz.isAgg9
 z9:=Tryz.sizeOf9
 v9:=Tryz.zeroValue9
 t20:=Tryz.underlying20
 a20:=Tryz.isAgg20
 z20:=Tryz.sizeOf20
 v20:=Tryz.zeroValue20
 t37:=Tryz.underlying22
 a37:=Tryz.isAgg22
 z37:=Tryz.sizeOf22
 v37:=Tryz.zeroValue22
 t46:=Tryz.underlying198
 a46:=Tryz.isAgg198
 z46:=Tryz.sizeOf198
 v46:=Tryz.zeroValue198
 t51:=Tryz.underlying226
 a51:=Tryz.isAgg226
 z51:=Tryz.sizeOf226
 v51:=Tryz.zeroValue226
 t53:=Tryz.underlying138
 a53:=Tryz.isAgg138
 z53:=Tryz.sizeOf138
 v53:=Tryz.zeroValue138
 t171:=Tryz.underlying284
 a171:=Tryz.isAgg284
 z171:=Tryz.sizeOf284
 v171:=Tryz.zeroValue284
 t173:=Tryz.underlying286
 a173:=Tryz.isAgg286
 z173:=Tryz.sizeOf286
 v173:=Tryz.zeroValue286
 t212:=Tryz.underlying321
 a212:=Tryz.isAgg321
 z212:=Tryz.sizeOf321
 v212:=Tryz.zeroValue321
 t213:=Tryz.underlying322
 a213:=Tryz.isAgg322
 z213:=Tryz.sizeOf322
 t232:=Tryz.underlying95
 a232:=Tryz.isAgg95
 z232:=Tryz.sizeOf95
 v232:=Tryz.zeroValue95
 t233:=Tryz.underlying228
 a233:=Tryz.isAgg228
 z233:=Tryz.sizeOf228
 v233:=Tryz.zeroValue228
 g17:=by kernel_rfl
 g18:=by kernel_rfl
 g19:=by kernel_rfl}
open Go.RowKit Go.Sort Go.Lib in
theorem Tryz.strconv_Itoa_small(i:Nat)(hi:i<100)(w:World):
 Calls Tryz.prog 51 #[.int .i64 i] w fun e w'=>e=.returned (.string ⟨(Lib.decDigits i).toArray⟩)∧w'=w:=Any.strconv_Itoa_small Tryz.Ic i hi w
def Tryz.zL:Go.Shelf.Ren:=⟨fun|173=>77|246=>120|283=>159|284=>160|285=>161|286=>162|129=>114|317=>185|318=>186|319=>187|320=>188|337=>207|338=>208|n=>n,fun|2=>2|3=>3|9=>9|4=>4|171=>284|0=>0|53=>138|37=>22|5=>5|173=>286|212=>321|51=>226|20=>20|213=>322|46=>198|232=>95|233=>228|n=>n,fun|17=>2|18=>9|19=>10|n=>n⟩
theorem Tryz.GA:Go.Proofs.LaysM.n173 Tryz.prog Tryz.zL:={
 mixed:=by kernel_rfl
 f129:=Tryz.func114.trans (congrArg some (by kernel_rfl))
 f173:=Tryz.func77.trans (congrArg some (by kernel_rfl))
 f246:=Tryz.func120.trans (congrArg some (by kernel_rfl))
 f283:=Tryz.func159.trans (congrArg some (by kernel_rfl))
 f284:=Tryz.func160.trans (congrArg some (by kernel_rfl))
 f285:=Tryz.func161.trans (congrArg some (by kernel_rfl))
 f286:=Tryz.func162.trans (congrArg some (by kernel_rfl))
 f317:=Tryz.func185.trans (congrArg some (by kernel_rfl))
 f318:=Tryz.func186.trans (congrArg some (by kernel_rfl))
 f319:=Tryz.func187.trans (congrArg some (by kernel_rfl))
 f320:=Tryz.func188.trans (congrArg some (by kernel_rfl))
 f337:=Tryz.func207.trans (congrArg some (by kernel_rfl))
 f338:=Tryz.func208.trans (congrArg some (by kernel_rfl))
 t0:=Tryz.underlying0
 a0:=Tryz.isAgg0
 z0:=Tryz.sizeOf0
 v0:=Tryz.zeroValue0
 t2:=Tryz.underlying2
 a2:=Tryz.isAgg2
 z2:=Tryz.sizeOf2
 v2:=Tryz.zeroValue2
 t3:=Tryz.underlying3
 a3:=Tryz.isAgg3
 z3:=Tryz.sizeOf3
 v3:=Tryz.zeroValue3
 t4:=Tryz.underlying4
 a4:=Tryz.isAgg4
 z4:=Tryz.sizeOf4
 v4:=Tryz.zeroValue4
 t5:=Tryz.underlying5
 a5:=Tryz.isAgg5
 z5:=Tryz.sizeOf5
 v5:=Tryz.zeroValue5
 t9:=Tryz.underlying9
 a9:=Tryz.isAgg9
 z9:=Tryz.sizeOf9
 v9:=Tryz.zeroValue9
 t20:=Tryz.underlying20
 a20:=Tryz.isAgg20
 z20:=Tryz.sizeOf20
 v20:=Tryz.zeroValue20
 t37:=Tryz.underlying22
 a37:=Tryz.isAgg22
 z37:=Tryz.sizeOf22
 v37:=Tryz.zeroValue22
 t46:=Tryz.underlying198
 a46:=Tryz.isAgg198
 z46:=Tryz.sizeOf198
 v46:=Tryz.zeroValue198
 t51:=Tryz.underlying226
 a51:=Tryz.isAgg226
 z51:=Tryz.sizeOf226
 v51:=Tryz.zeroValue226
 t53:=Tryz.underlying138
 a53:=Tryz.isAgg138
 z53:=Tryz.sizeOf138
 v53:=Tryz.zeroValue138
 t171:=Tryz.underlying284
 a171:=Tryz.isAgg284
 z171:=Tryz.sizeOf284
 v171:=Tryz.zeroValue284
 t173:=Tryz.underlying286
 a173:=Tryz.isAgg286
 z173:=Tryz.sizeOf286
 v173:=Tryz.zeroValue286
 t212:=Tryz.underlying321
 a212:=Tryz.isAgg321
 z212:=Tryz.sizeOf321
 v212:=Tryz.zeroValue321
 t213:=Tryz.underlying322
 a213:=Tryz.isAgg322
 z213:=Tryz.sizeOf322
 t232:=Tryz.underlying95
 a232:=Tryz.isAgg95
 z232:=Tryz.sizeOf95
 v232:=Tryz.zeroValue95
 t233:=Tryz.underlying228
 a233:=Tryz.isAgg228
 z233:=Tryz.sizeOf228
 v233:=Tryz.zeroValue228
 g17:=by kernel_rfl
 g18:=by kernel_rfl
 g19:=by kernel_rfl
 i0:=by kernel_rfl
 i2:=by kernel_rfl
 i3:=by kernel_rfl
 i4:=by kernel_rfl
 i5:=by kernel_rfl
 i9:=by kernel_rfl
 i20:=by kernel_rfl
 i37:=by kernel_rfl
 i46:=by kernel_rfl
 i51:=by kernel_rfl
 i53:=by kernel_rfl
 i171:=by kernel_rfl
 i173:=by kernel_rfl
 i212:=by kernel_rfl
 i232:=by kernel_rfl
 i233:=by kernel_rfl
 m17:=by kernel_rfl
 m18:=by kernel_rfl
 m19:=by kernel_rfl}
open Go.RowKit Go.Sort Go.Lib in
theorem Tryz.strconv_FormatInt_10(n:Int)(h0: -9223372036854775808≤n)(h1:n≤9223372036854775807)(w:World)(Jx:Lib.TabIs Tryz.prog w "internal/strconv.uint64pow10" .u64 Lib.pow10Tab):
 Calls Tryz.prog 77 #[.int .i64 n,.int .i64 10] w fun e w'=>e=.returned (.string ⟨(Lib.itoa n).toArray⟩)∧∃k os,w'=grow (w.drewN k) os:=Any.strconv_FormatInt_10 Tryz.GA n h0 h1 w Jx
def Tryz.Bp:Go.Shelf.Ren:=⟨fun|173=>77|246=>120|283=>159|284=>160|285=>161|286=>162|129=>114|317=>185|318=>186|319=>187|320=>188|337=>207|338=>208|n=>n,fun|2=>2|3=>3|9=>9|4=>4|171=>284|0=>0|53=>138|37=>22|5=>5|173=>286|212=>321|51=>226|20=>20|213=>322|46=>198|232=>95|233=>228|n=>n,fun|17=>2|18=>9|19=>10|n=>n⟩
theorem Tryz.Ie:Go.Proofs.Lays.n173 Tryz.prog Tryz.Bp:={
 mixed:=by kernel_rfl
 f129:=Tryz.func114.trans (congrArg some (by kernel_rfl))
 f173:=Tryz.func77.trans (congrArg some (by kernel_rfl))
 f246:=Tryz.func120.trans (congrArg some (by kernel_rfl))
 f283:=Tryz.func159.trans (congrArg some (by kernel_rfl))
 f284:=Tryz.func160.trans (congrArg some (by kernel_rfl))
 f285:=Tryz.func161.trans (congrArg some (by kernel_rfl))
 f286:=Tryz.func162.trans (congrArg some (by kernel_rfl))
 f317:=Tryz.func185.trans (congrArg some (by kernel_rfl))
 f318:=Tryz.func186.trans (congrArg some (by kernel_rfl))
 f319:=Tryz.func187.trans (congrArg some (by kernel_rfl))
 f320:=Tryz.func188.trans (congrArg some (by kernel_rfl))
 f337:=Tryz.func207.trans (congrArg some (by kernel_rfl))
 f338:=Tryz.func208.trans (congrArg some (by kernel_rfl))
 t0:=Tryz.underlying0
 a0:=Tryz.isAgg0
 z0:=Tryz.sizeOf0
 v0:=Tryz.zeroValue0
 t2:=Tryz.underlying2
 a2:=Tryz.isAgg2
 z2:=Tryz.sizeOf2
 v2:=Tryz.zeroValue2
 t3:=Tryz.underlying3
 a3:=Tryz.isAgg3
 z3:=Tryz.sizeOf3
 v3:=Tryz.zeroValue3
 t4:=Tryz.underlying4
 a4:=Tryz.isAgg4
 z4:=Tryz.sizeOf4
 v4:=Tryz.zeroValue4
 t5:=Tryz.underlying5
 a5:=Tryz.isAgg5
 z5:=Tryz.sizeOf5
 v5:=Tryz.zeroValue5
 t9:=Tryz.underlying9
 a9:=Tryz.isAgg9
 z9:=Tryz.sizeOf9
 v9:=Tryz.zeroValue9
 t20:=Tryz.underlying20
 a20:=Tryz.isAgg20
 z20:=Tryz.sizeOf20
 v20:=Tryz.zeroValue20
 t37:=Tryz.underlying22
 a37:=Tryz.isAgg22
 z37:=Tryz.sizeOf22
 v37:=Tryz.zeroValue22
 t46:=Tryz.underlying198
 a46:=Tryz.isAgg198
 z46:=Tryz.sizeOf198
 v46:=Tryz.zeroValue198
 t51:=Tryz.underlying226
 a51:=Tryz.isAgg226
 z51:=Tryz.sizeOf226
 v51:=Tryz.zeroValue226
 t53:=Tryz.underlying138
 a53:=Tryz.isAgg138
 z53:=Tryz.sizeOf138
 v53:=Tryz.zeroValue138
 t171:=Tryz.underlying284
 a171:=Tryz.isAgg284
 z171:=Tryz.sizeOf284
 v171:=Tryz.zeroValue284
 t173:=Tryz.underlying286
 a173:=Tryz.isAgg286
 z173:=Tryz.sizeOf286
 v173:=Tryz.zeroValue286
 t212:=Tryz.underlying321
 a212:=Tryz.isAgg321
 z212:=Tryz.sizeOf321
 v212:=Tryz.zeroValue321
 t213:=Tryz.underlying322
 a213:=Tryz.isAgg322
 z213:=Tryz.sizeOf322
 t232:=Tryz.underlying95
 a232:=Tryz.isAgg95
 z232:=Tryz.sizeOf95
 v232:=Tryz.zeroValue95
 t233:=Tryz.underlying228
 a233:=Tryz.isAgg228
 z233:=Tryz.sizeOf228
 v233:=Tryz.zeroValue228
 g17:=by kernel_rfl
 g18:=by kernel_rfl
 g19:=by kernel_rfl}
open Go.RowKit Go.Sort Go.Lib in
theorem Tryz.strconv_FormatInt_10_small(i:Nat)(hi:i<100)(w:World):
 Calls Tryz.prog 77 #[.int .i64 i,.int .i64 10] w fun e w'=>e=.returned (.string ⟨(Lib.decDigits i).toArray⟩)∧w'=w:=Any.strconv_FormatInt_10_small Tryz.Ie i hi w
open Go.Lib in
open Go.Lib in
open Go.Lib in
open Go.Lib in
def Tryz.xZ:Go.Shelf.Ren:=⟨fun|16=>117|n=>n,fun|24=>49|9=>9|4=>4|n=>n,fun|n=>n⟩
theorem Tryz.uX:Go.Proofs.Lays2.n16 Tryz.prog Tryz.xZ:={
 mixed:=by kernel_rfl
 f16:=Tryz.func117.trans (congrArg some (by kernel_rfl))
 t4:=Tryz.underlying4
 a4:=Tryz.isAgg4
 z4:=Tryz.sizeOf4
 v4:=Tryz.zeroValue4
 t9:=Tryz.underlying9
 a9:=Tryz.isAgg9
 z9:=Tryz.sizeOf9
 v9:=Tryz.zeroValue9
 t24:=Tryz.underlying49
 a24:=Tryz.isAgg49
 z24:=Tryz.sizeOf49
 v24:=Tryz.zeroValue49
 i9:=by kernel_rfl}
open Go.RowKit Go.Lib in
theorem Tryz.slices_Clone_string(b off n c:Nat)(zs:List ByteArray)(w:World)(hz:n≤zs.length)(L3:n*16≤140737488355328)(hc:∀j,j<zs.length→w.cell? ⟨b,off+j,none⟩=some (.string (zs.getD j ByteArray.empty))):
 Calls Tryz.prog 117 #[.slice (some ⟨b,off,none⟩) n c] w fun e w'=>∃v',e=.returned v'∧w'.ownsRow w.heap.size 9 1 v' n ((zs.take n).map (Value.string))∧v'≠.slice none 0 0∧Below w.heap.size w w':=Any.slices_Clone_string Tryz.uX b off n c zs w hz L3 hc
open Go.RowKit Go.Lib in
theorem Tryz.slices_Clone_string_nil(n c:Nat)(w:World):
 Calls Tryz.prog 117 #[.slice none n c] w fun e w'=>e=.returned (.slice none 0 0)∧w'=w:=Any.slices_Clone_string_nil Tryz.uX n c w
open Go.RowKit Go.Lib in
theorem Tryz.slices_Clone_string_zero(a:Addr)(c:Nat)(w:World):
 Calls Tryz.prog 117 #[.slice (some a) 0 c] w fun e w'=>∃v',e=.returned v'∧w'.ownsRow w.heap.size 9 1 v' 0 []∧v'≠.slice none 0 0∧Below w.heap.size w w':=Any.slices_Clone_string_zero Tryz.uX a c w
end Go.Proofs
