import Derived.Test.YtbdipimmpgijaaaGreatDoorZ15
import Derived.Test.YtbdipimmpgijaaaGreatDoorZ17
set_option maxRecDepth 1000000
set_option maxHeartbeats 32000000
set_option linter.all false
namespace Go.Proofs.YtbdipimmpgijaaaGreatDoor
open RowKit Go.Proofs.Tryz lH Maps oa qR ChangeShapes WideShapes ChangeAt
def zo(n p e)(a b:Ev)(i)(f j:Nat)(k)(g l:Nat)(w:kz lL n e (.slice i f j) a.args)(x:kz lL p e (.slice k g l) b.args)(q:∀c,n c->c<e)(r:∀c,p c->c<e)(y:f<=9223372036854775807)(z:g<=9223372036854775807):
  Calls prog 54 #[.agg<|Hk a i f j,.agg<|Hk b k g l] e (kG (.bool<|qD a b) e):=by
 have A:qD a b=decide (yI [So a.tick b.tick,So a.comp b.comp,So (a.kind:Int) (b.kind:Int),So a.peer b.peer,So a.n b.n,So a.copy b.copy,So a.hd b.hd,So a.d b.d,cmpL a.args b.args]=0):=by cases d:qD a b;symm;rw[Tl,BQ];intro s;rw[(rA a b).2 s]at d;cases d;symm;rw[TC,BQ];exact(rA a b).1 d
 rw[A];have m:Below e e<|(e.alloc<|.cells (Hk a i f j) 38).alloc<|.cells (Hk b k g l) 38:=(Ba _ _).alloc Uo _;have t:=X<|I1 n p ((e.alloc<|.cells (Hk a i f j) 38).alloc<|.cells (Hk b k g l) 38) a.tick a.comp a.kind a.peer a.n a.copy a.hd a.d a.args b.tick b.comp b.kind b.peer b.n b.copy b.hd b.d b.args i f j k g l (w.kv lL.ok λc d=>m.B c<|q c d) (x.kv lL.ok λc d=>m.B c<|r c d) (λc d=>QO (q c d) m.size) (λc d=>QO (r c d) m.size) y z;have u:=X m;have⟨D,v⟩:=Xq<|yI [So a.tick b.tick,So a.comp b.comp,So (a.kind:Int) (b.kind:Int),So a.peer b.peer,So a.n b.n,So a.copy b.copy,So a.hd b.hd,So a.d b.d,cmpL a.args b.args];rw[<-v]at t⊢;clear v
 go_enter func54,ntmps54
 go_wp21;apply t.o.M;rintro s E ⟨rfl,B⟩;have C:=X B;go_wp21;go_ret;exact⟨Z,u.o.T<|C.o.M u.o.size⟩
end Go.Proofs.YtbdipimmpgijaaaGreatDoor
namespace Go.Proofs.YtbdipimmpgijaaaGreatDoor
open Go.RowKit lH oa Go.Proofs.Tryz
abbrev EC(a b c d e f g i:Int)(j:R0):Array R0:=#[.int .i64 a,.int .i64 b,.int .u8 c,.int .i64 d,.int .i64 e,.int .i64 f,.int .i64 g,.int .i64 i,j]
def boxes(a b c):uo a a (a+1) b c<|(a.alloc<|.cells b 38).alloc<|.cells c 38:=
 ⟨(Ba _ _).alloc Uo _,(Q5 _ _ Uo).T<|QQ _ _,by have:=QQ (a.alloc<|.cells b 38)<|.cells c 38;rw[QR]at this;exact this⟩
section
variable {m:Nm} {e:Ev} {vb:Bool}
def vF(a:vb=valid m e)(b:fits m e=false):Ending.returned (.bool false)=.returned (.bool vb):=by rw[a];unfold valid;rw[b];rfl
def vT(a:vb=valid m e)(b:fits m e=true)(c:0<=e.tick)(d:0<=e.n){u:Ev}(f:u=used e):Ending.returned (.bool<|qD e u)=.returned (.bool vb):=by rw[a];unfold valid;rw[b,Sk c,Sk d,<-f];rfl
def vN(a:vb=valid m e)(b:e.n<0):Ending.returned (.bool false)=.returned (.bool vb):=by rw[a];unfold valid;rw[Sp<|Int.not_le.2 b];simp
def vM(a:vb=valid m e)(b:e.tick<0):Ending.returned (.bool false)=.returned (.bool vb):=by rw[a];unfold valid;rw[Sp<|Int.not_le.2 b];simp
end
section
variable (S:Nat→Prop) {w:World} (w6:World) (hb:Below w.heap.size w w6) (e u:Ev) (A:Option Addr) (m c:Nat) (hv:kz lL S w (.slice A m c) e.args) (hS:∀q,S q→q<w.heap.size) (hm:m≤9223372036854775807)
include hb hv hS hm
theorem uu(g:u.args=e.args):Calls prog 54 #[.agg<|Hk e A m c,.agg<|Hk u A m c] w6<|kG (.bool<|qD e u) w6:=by have d:=hv.kv lL.ok λa b=>hb.B a<|hS a b;have f:=λa b=>QO (hS a b) hb.size;exact zo S S w6 e u A m c A m c d (by rw[g];exact d) f f hm hm
theorem Hv(d:u.args=[]):Calls prog 54 #[.agg<|Hk e A m c,.agg<|Hk u none 0 0] w6<|kG (.bool<|qD e u) w6:=by have f:=hv.kv lL.ok λa b=>hb.B a<|hS a b;have g:=λa b=>QO (hS a b) hb.size;exact zo S (λ_=>False) w6 e u A m c none 0 0 f (by rw[d];exact kz.nil _ _ _) g (λa b=>b.elim) hm Un
end
end Go.Proofs.YtbdipimmpgijaaaGreatDoor
namespace Go.Proofs.YtbdipimmpgijaaaGreatDoor
open RowKit Go.Proofs.Tryz lH Maps oa qR ChangeShapes WideShapes ChangeAt
def Ed(y f)(b a:Int)(g c i d j:Int)(n)(e p:Nat)(q)(u:Nat)(l)(s:nH f u l)(aj:mi l)(Q:kz lL y f (.slice n e p) q)(ak:∀R,y R->R<f)(al:e<=9223372036854775807):
  Calls prog 22 #[.agg<|EC b a 3 g c i d j<|.slice n e p,.pointer u] f (kG (.bool<|valid (kF l) ⟨b,a,3,g,c,i,d,j,q⟩) f):=by
 have aG:=X Q.len.1;have S:=X s;have am:=X aj;have an:=X Q;have ao:=X ak;have T:=X al;clear s;have⟨aH,z⟩:=Xq<|valid (kF l) ⟨b,a,3,g,c,i,d,j,q⟩;rw[<-z];have v:=X z;clear z;have ap:=X<|boxes f (EC b a 3 g c i d j<|.slice n e p)<|EC b a 3 0 c 0 d 0<|.slice n e p
 go_enter func22,ntmps22
 go_upto_region 2 with fail;have k:=ap.o;have⟨aq,U⟩:=Xq<|(f.alloc<|.cells (EC b a 3 g c i d j<|.slice n e p) 38).alloc<|.cells (EC b a 3 0 c 0 d 0<|.slice n e p) 38;rw[<-U]at k⊢;clear U;have⟨w,V⟩:=Xq f.heap.size;rw[<-V]at k⊢;have⟨t,aa⟩:=Xq<|w+1;rw[<-aa]at k⊢;have ab:w≠t:=Y
 have ac:=X<|show f<=w/\f<=t from⟨Y,Y⟩;clear V aa;replace k:=X k;have aI:=k.o.lt.1;have aJ:=k.o.lt.2;have⟨A,B,C,D,E,F,G,I,J⟩:=kL k.o.2.1;go_wp21;apply(lU u a l aq<|S.o.ku k.o.1).M;rintro K ar ⟨rfl,rfl⟩;go_wp21;apply(mn u a d l ar (S.o.ku k.o.1) am.o).M;rintro K ad ⟨rfl,au⟩;have x:=X<|k.o.ku au;have aK:=x.o.lt.1;have aL:=x.o.lt.2;have⟨A,B,C,D,E,F,G,I,J⟩:=kL x.o.2.1;have aM:(e:Int)<=9223372036854775807:=W T.o
 have⟨L,M⟩:=Xq<|qs (kF l) a d;rw[<-M];have aN:=X M;clear M;have⟨av,N⟩:=Xq<|ot (kF l) a;rw[<-N];have aw:=X N;clear N;go_upto_region 6 with fail;go_cut [8] (λax ay=>ax=.bool (L&&decide ((e:Int)<=4))/\ad=ay)
 .cases L
  .go_wp2_with fail;go_meet;exact⟨Z,Z⟩
  go_wp21;go_meet;exact⟨Ux,Z⟩
 obtain⟨rfl,rfl⟩:=hcut;have⟨aO,O⟩:=Xq<|L&&decide ((e:Int)<=4);rw[<-O];have aP:=X O;clear O;go_wp21;apply(lW ⟨b,a,3,g,c,i,d,j,q⟩ n e p ad).M;rw[show arr ⟨b,a,3,g,c,i,d,j,q⟩=3 from Z];rintro K az ⟨rfl,aA⟩;have r:=X<|x.o.ku aA;have aQ:=r.o.lt.1;have aR:=r.o.lt.2;have⟨A,B,C,D,E,F,G,I,J⟩:=kL r.o.2.1;have aB:=kt r.o.2.2 6;have aC:=kt r.o.2.2 8;have aS:=kx r.o.2.2 6;have aT:=kx r.o.2.2 8;go_upto_region 39 with fail;have⟨ae,P⟩:=Xq<|(az.setCell (zc t)<|.int .i64 0).setCell (AS t) Nl;have m:=X (show uo f w t (EC b a 3 g c i d j<|.slice n e p) (EC b a 3 0 c 0 0 0 Nl) ae from by rw[P];exact(r.o.set ac.o.2 ab 6 _).set ac.o.2 ab 8 _);rw[<-P];clear P;have⟨af,s⟩:=Xq av;rw[<-s];have ag:=X (show af=fits (kF l) ⟨b,a,3,g,c,i,d,j,q⟩from by rw[s,aw.o];rfl);clear s;have aU:=m.o.lt.1;have aV:=m.o.lt.2;have⟨A,B,C,D,E,F,G,I,J⟩:=kL m.o.2.1;cases af with
 |false=>go_wp21;go_ret;exact⟨vF v.o ag.o.symm,m.o.1⟩
 |true=>
  have⟨aW,aX,aY,aZ,ba,bb,aB,bc,aC⟩:=kL m.o.2.2;have aD:=X<|show fits (kF l) ⟨b,a,3,g,c,i,d,j,q⟩=true from ag.o.symm;by_cases ah:0<=b
  .by_cases ai:0<=c
   .go_wp2_with fail;apply(Hv y ae m.o.1 ⟨b,a,3,g,c,i,d,j,q⟩ ⟨b,a,3,0,c,0,0,0,[]⟩ n e p an.o ao.o T.o Z).M;rintro K bd ⟨rfl,aE⟩;have aF:=X aE;go_wp21;go_ret;exact⟨vT v.o aD.o ah ai Z,m.o.1.T<|aF.o.M m.o.1.size⟩
   go_wp21;go_ret;exact⟨vN v.o ai,m.o.1⟩
  go_wp21;go_ret;exact⟨vM v.o ah,m.o.1⟩
def Ee(v i)(c a:Int)(j d k b l:Int)(p)(e q:Nat)(m)(s:Nat)(n)(r:nH i s n)(ae:mi n)(N:kz lL v i (.slice p e q) m)(af:∀O,v O->O<i)(ag:e<=9223372036854775807):
  Calls prog 22 #[.agg<|EC c a 4 j d k b l<|.slice p e q,.pointer s] i (kG (.bool<|valid (kF n) ⟨c,a,4,j,d,k,b,l,m⟩) i):=by
 have ah:=X N.len.1;have P:=X r;have ai:=X ae;have aj:=X N;have ak:=X af;have Q:=X ag;clear r;have⟨aB,w⟩:=Xq<|valid (kF n) ⟨c,a,4,j,d,k,b,l,m⟩;rw[<-w];have t:=X w;clear w;have al:=X<|boxes i (EC c a 4 j d k b l<|.slice p e q)<|EC c a 4 0 d 0 b 0<|.slice p e q
 go_enter func22,ntmps22
 go_upto_region 2 with fail;have g:=al.o;have⟨am,R⟩:=Xq<|(i.alloc<|.cells (EC c a 4 j d k b l<|.slice p e q) 38).alloc<|.cells (EC c a 4 0 d 0 b 0<|.slice p e q) 38;rw[<-R]at g⊢;clear R;have⟨x,S⟩:=Xq i.heap.size;rw[<-S]at g⊢;have⟨T,U⟩:=Xq<|x+1;rw[<-U]at g⊢;have aC:x≠T:=Y
 have aD:=X<|show i<=x/\i<=T from⟨Y,Y⟩;clear S U;replace g:=X g;have aE:=g.o.lt.1;have aF:=g.o.lt.2;have⟨y,z,A,B,C,D,E,F,G⟩:=kL g.o.2.1;go_wp21;apply(lU s a n am<|P.o.ku g.o.1).M;rintro I an ⟨rfl,rfl⟩;go_wp21;apply(mn s a b n an (P.o.ku g.o.1) ai.o).M;rintro I V ⟨rfl,ao⟩;have u:=X<|g.o.ku ao;have aG:=u.o.lt.1;have aH:=u.o.lt.2;have⟨y,z,A,B,C,D,E,F,G⟩:=kL u.o.2.1;have aI:(e:Int)<=9223372036854775807:=W Q.o
 have⟨J,K⟩:=Xq<|qs (kF n) a b;rw[<-K];have ap:=X K;clear K;have⟨aJ,L⟩:=Xq<|ot (kF n) a;rw[<-L];have aK:=X L;clear L;go_upto_region 6 with fail;go_cut [8] (λaq ar=>aq=.bool (J&&decide ((e:Int)<=4))/\V=ar)
 .cases J
  .go_wp2_with fail;go_meet;exact⟨Z,Z⟩
  go_wp21;go_meet;exact⟨Ux,Z⟩
 obtain⟨rfl,rfl⟩:=hcut;have⟨au,M⟩:=Xq<|J&&decide ((e:Int)<=4);rw[<-M];have av:=X M;clear M;go_wp21;apply(lW ⟨c,a,4,j,d,k,b,l,m⟩ p e q V).M;rw[show arr ⟨c,a,4,j,d,k,b,l,m⟩=4 from Z];rintro I aw ⟨rfl,ax⟩;have f:=X<|u.o.ku ax;have aL:=f.o.lt.1;have aM:=f.o.lt.2;have⟨y,z,A,B,C,D,E,F,G⟩:=kL f.o.2.1;go_upto_region 39 with fail;have⟨aa,r⟩:=Xq au;rw[<-r];have ab:=X (show aa=fits (kF n) ⟨c,a,4,j,d,k,b,l,m⟩from by rw[r,av.o,ap.o,show decide ((e:Int)<=4)=decide (m.length<=4)from by rw[ah.o];exact RL.2 Y];rfl);clear r;have aN:=f.o.lt.1;have aO:=f.o.lt.2;have⟨y,z,A,B,C,D,E,F,G⟩:=kL f.o.2.1;cases aa with
 |false=>go_wp21;go_ret;exact⟨vF t.o ab.o.symm,f.o.1⟩
 |true=>
  have⟨aP,aQ,aR,aS,aT,aU,aV,aW,aX⟩:=kL f.o.2.2;have ay:=X<|show fits (kF n) ⟨c,a,4,j,d,k,b,l,m⟩=true from ab.o.symm;by_cases ac:0<=c
  .by_cases ad:0<=d
   .go_wp2_with fail;apply(uu v aw f.o.1 ⟨c,a,4,j,d,k,b,l,m⟩ ⟨c,a,4,0,d,0,b,0,m⟩ p e q aj.o ak.o Q.o Z).M;rintro I aY ⟨rfl,az⟩;have aA:=X az;go_wp21;go_ret;exact⟨vT t.o ay.o ac ad Z,f.o.1.T<|aA.o.M f.o.1.size⟩
   go_wp21;go_ret;exact⟨vN t.o ad,f.o.1⟩
  go_wp21;go_ret;exact⟨vM t.o ac,f.o.1⟩
def Ef(v i)(c a:Int)(j d k b l:Int)(p)(e q:Nat)(m)(s:Nat)(n)(r:nH i s n)(ae:mi n)(N:kz lL v i (.slice p e q) m)(af:∀O,v O->O<i)(ag:e<=9223372036854775807):
  Calls prog 22 #[.agg<|EC c a 6 j d k b l<|.slice p e q,.pointer s] i (kG (.bool<|valid (kF n) ⟨c,a,6,j,d,k,b,l,m⟩) i):=by
 have ah:=X N.len.1;have P:=X r;have ai:=X ae;have aj:=X N;have ak:=X af;have Q:=X ag;clear r;have⟨aB,w⟩:=Xq<|valid (kF n) ⟨c,a,6,j,d,k,b,l,m⟩;rw[<-w];have t:=X w;clear w;have al:=X<|boxes i (EC c a 6 j d k b l<|.slice p e q)<|EC c a 6 0 d 0 b 0<|.slice p e q
 go_enter func22,ntmps22
 go_upto_region 2 with fail;have g:=al.o;have⟨am,R⟩:=Xq<|(i.alloc<|.cells (EC c a 6 j d k b l<|.slice p e q) 38).alloc<|.cells (EC c a 6 0 d 0 b 0<|.slice p e q) 38;rw[<-R]at g⊢;clear R;have⟨x,S⟩:=Xq i.heap.size;rw[<-S]at g⊢;have⟨T,U⟩:=Xq<|x+1;rw[<-U]at g⊢;have aC:x≠T:=Y
 have aD:=X<|show i<=x/\i<=T from⟨Y,Y⟩;clear S U;replace g:=X g;have aE:=g.o.lt.1;have aF:=g.o.lt.2;have⟨y,z,A,B,C,D,E,F,G⟩:=kL g.o.2.1;go_wp21;apply(lU s a n am<|P.o.ku g.o.1).M;rintro I an ⟨rfl,rfl⟩;go_wp21;apply(mn s a b n an (P.o.ku g.o.1) ai.o).M;rintro I V ⟨rfl,ao⟩;have u:=X<|g.o.ku ao;have aG:=u.o.lt.1;have aH:=u.o.lt.2;have⟨y,z,A,B,C,D,E,F,G⟩:=kL u.o.2.1;have aI:(e:Int)<=9223372036854775807:=W Q.o
 have⟨J,K⟩:=Xq<|qs (kF n) a b;rw[<-K];have ap:=X K;clear K;have⟨aJ,L⟩:=Xq<|ot (kF n) a;rw[<-L];have aK:=X L;clear L;go_upto_region 6 with fail;go_cut [8] (λaq ar=>aq=.bool (J&&decide ((e:Int)<=4))/\V=ar)
 .cases J
  .go_wp2_with fail;go_meet;exact⟨Z,Z⟩
  go_wp21;go_meet;exact⟨Ux,Z⟩
 obtain⟨rfl,rfl⟩:=hcut;have⟨au,M⟩:=Xq<|J&&decide ((e:Int)<=4);rw[<-M];have av:=X M;clear M;go_wp21;apply(lW ⟨c,a,6,j,d,k,b,l,m⟩ p e q V).M;rw[show arr ⟨c,a,6,j,d,k,b,l,m⟩=6 from Z];rintro I aw ⟨rfl,ax⟩;have f:=X<|u.o.ku ax;have aL:=f.o.lt.1;have aM:=f.o.lt.2;have⟨y,z,A,B,C,D,E,F,G⟩:=kL f.o.2.1;go_upto_region 39 with fail;have⟨aa,r⟩:=Xq au;rw[<-r];have ab:=X (show aa=fits (kF n) ⟨c,a,6,j,d,k,b,l,m⟩from by rw[r,av.o,ap.o,show decide ((e:Int)<=4)=decide (m.length<=4)from by rw[ah.o];exact RL.2 Y];rfl);clear r;have aN:=f.o.lt.1;have aO:=f.o.lt.2;have⟨y,z,A,B,C,D,E,F,G⟩:=kL f.o.2.1;cases aa with
 |false=>go_wp21;go_ret;exact⟨vF t.o ab.o.symm,f.o.1⟩
 |true=>
  have⟨aP,aQ,aR,aS,aT,aU,aV,aW,aX⟩:=kL f.o.2.2;have ay:=X<|show fits (kF n) ⟨c,a,6,j,d,k,b,l,m⟩=true from ab.o.symm;by_cases ac:0<=c
  .by_cases ad:0<=d
   .go_wp2_with fail;apply(uu v aw f.o.1 ⟨c,a,6,j,d,k,b,l,m⟩ ⟨c,a,6,0,d,0,b,0,m⟩ p e q aj.o ak.o Q.o Z).M;rintro I aY ⟨rfl,az⟩;have aA:=X az;go_wp21;go_ret;exact⟨vT t.o ay.o ac ad Z,f.o.1.T<|aA.o.M f.o.1.size⟩
   go_wp21;go_ret;exact⟨vN t.o ad,f.o.1⟩
  go_wp21;go_ret;exact⟨vM t.o ac,f.o.1⟩
def Eg(y j)(c b:Int)(l d m e a:Int)(p)(f q:Nat)(r)(u:Nat)(g)(ai:nH j u g)(aj:mi g)(S:kz lL y j (.slice p f q) r)(ak:∀T,y T->T<j)(al:f<=9223372036854775807):
  Calls prog 22 #[.agg<|EC c b 2 l d m e a<|.slice p f q,.pointer u] j (kG (.bool<|valid (kF g) ⟨c,b,2,l,d,m,e,a,r⟩) j):=by
 have aH:=X S.len.1;have U:=X ai;have am:=X aj;have an:=X S;have ao:=X ak;have V:=X al;have⟨aI,z⟩:=Xq<|valid (kF g) ⟨c,b,2,l,d,m,e,a,r⟩;rw[<-z];have s:=X z;clear z;have ap:=X<|boxes j (EC c b 2 l d m e a<|.slice p f q)<|EC c b 2 0 d 0 e 0<|.slice p f q
 go_enter func22,ntmps22
 go_upto_region 2 with fail;have k:=ap.o;have⟨aq,aa⟩:=Xq<|(j.alloc<|.cells (EC c b 2 l d m e a<|.slice p f q) 38).alloc<|.cells (EC c b 2 0 d 0 e 0<|.slice p f q) 38;rw[<-aa]at k⊢;clear aa;have⟨v,ab⟩:=Xq j.heap.size;rw[<-ab]at k⊢;have⟨t,ac⟩:=Xq<|v+1;rw[<-ac]at k⊢;have A:v≠t:=Y
 have B:=X<|show j<=v/\j<=t from⟨Y,Y⟩;clear ab ac;replace k:=X k;have aJ:=k.o.lt.1;have aK:=k.o.lt.2;have⟨C,D,E,F,G,I,J,K,L⟩:=kL k.o.2.1;go_wp21;apply(lU u b g aq<|U.o.ku k.o.1).M;rintro M ar ⟨rfl,rfl⟩;go_wp21;apply(mn u b e g ar (U.o.ku k.o.1) am.o).M;rintro M ad ⟨rfl,au⟩;have w:=X<|k.o.ku au;have aL:=w.o.lt.1;have aM:=w.o.lt.2;have⟨C,D,E,F,G,I,J,K,L⟩:=kL w.o.2.1;have aN:(f:Int)<=9223372036854775807:=W V.o
 have⟨N,O⟩:=Xq<|qs (kF g) b e;rw[<-O];have aO:=X O;clear O;have⟨av,P⟩:=Xq<|ot (kF g) b;rw[<-P];have x:=X P;clear P;go_upto_region 6 with fail;go_cut [8] (λaw ax=>aw=.bool (N&&decide ((f:Int)<=4))/\ad=ax)
 .cases N
  .go_wp2_with fail;go_meet;exact⟨Z,Z⟩
  go_wp21;go_meet;exact⟨Ux,Z⟩
 obtain⟨rfl,rfl⟩:=hcut;have⟨aP,Q⟩:=Xq<|N&&decide ((f:Int)<=4);rw[<-Q];have aQ:=X Q;clear Q;go_wp21;apply(lW ⟨c,b,2,l,d,m,e,a,r⟩ p f q ad).M;rw[show arr ⟨c,b,2,l,d,m,e,a,r⟩=2 from Z];rintro M ay ⟨rfl,az⟩;have n:=X<|w.o.ku az;have aR:=n.o.lt.1;have aS:=n.o.lt.2;have⟨C,D,E,F,G,I,J,K,L⟩:=kL n.o.2.1;have aA:=kt n.o.2.2 7;have aT:=kx n.o.2.2 7;have aB:=kt n.o.2.2 6;have aU:=kx n.o.2.2 6;have aC:=kt n.o.2.2 8;have aV:=kx n.o.2.2 8;go_upto_region 14 with fail;have⟨ae,R⟩:=Xq<|((ay.setCell (uc t)<|.int .i64 a).setCell (zc t)<|.int .i64 0).setCell (AS t)<|(Nl);have i:=X (show uo j v t (EC c b 2 l d m e a<|.slice p f q) (EC c b 2 0 d 0 0 a Nl) ae from by rw[R];exact(((n.o.set B.o.2 A 7 _).set B.o.2 A 6 _).set B.o.2 A 8 _));rw[<-R];have aW:=i.o.lt.1;have aX:=i.o.lt.2;clear R;have⟨C,D,E,F,G,I,J,K,L⟩:=kL i.o.2.1;cases av
 .go_wp2_with fail;go_ret;exact⟨vF s.o (by show(ot (kF g) b&&(decide (1<=a)&&decide (a<=3)))=false;rw[<-x.o];rfl),i.o.1⟩
 by_cases af:1<=a
 .by_cases aD:a<=3
  .have⟨aY,aZ,ba,bb,bc,bd,aB,aA,aC⟩:=kL i.o.2.2;have aE:=X (show fits (kF g) ⟨c,b,2,l,d,m,e,a,r⟩=true from by show(ot (kF g) b&&(decide (1<=a)&&decide (a<=3)))=true;rw[<-x.o,Sk af,Sk aD];rfl);by_cases ag:0<=c
   .by_cases ah:0<=d
    .go_wp2_with fail;apply(Hv y ae i.o.1 ⟨c,b,2,l,d,m,e,a,r⟩ ⟨c,b,2,0,d,0,0,a,[]⟩ p f q an.o ao.o V.o Z).M;rintro M be ⟨rfl,aF⟩;have aG:=X aF;go_wp21;go_ret;exact⟨vT s.o aE.o ag ah Z,i.o.1.T<|aG.o.M i.o.1.size⟩
    go_wp21;go_ret;exact⟨vN s.o ah,i.o.1⟩
   go_wp21;go_ret;exact⟨vM s.o ag,i.o.1⟩
  go_wp21;go_ret;exact⟨vF s.o (by show(ot (kF g) b&&(decide (1<=a)&&decide (a<=3)))=false;rw[<-x.o,Sk af,Sp<|show¬a<=3 from Y];rfl),i.o.1⟩
 go_wp21;go_ret;exact⟨vF s.o (by show(ot (kF g) b&&(decide (1<=a)&&decide (a<=3)))=false;rw[<-x.o,Sp<|show¬1<=a from Y];rfl),i.o.1⟩
def Eh(x j)(e a:Int)(m f n b c:Int)(p)(d q:Nat)(g)(t:Nat)(i)(ah:nH j t i)(ai:mi i)(S:kz lL x j (.slice p d q) g)(aj:∀T,x T->T<j)(ak:d<=9223372036854775807):
  Calls prog 22 #[.agg<|EC e a 9 m f n b c<|.slice p d q,.pointer t] j (kG (.bool<|valid (kF i) ⟨e,a,9,m,f,n,b,c,g⟩) j):=by
 have y:=X S.len.1;have U:=X ah;have al:=X ai;have am:=X S;have an:=X aj;have V:=X ak;have⟨aG,z⟩:=Xq<|valid (kF i) ⟨e,a,9,m,f,n,b,c,g⟩;rw[<-z];have s:=X z;clear z;have ao:=X<|boxes j (EC e a 9 m f n b c<|.slice p d q)<|EC e a 9 0 f 0 b 0<|.slice p d q
 go_enter func22,ntmps22
 go_upto_region 2 with fail;have k:=ao.o;have⟨ap,aa⟩:=Xq<|(j.alloc<|.cells (EC e a 9 m f n b c<|.slice p d q) 38).alloc<|.cells (EC e a 9 0 f 0 b 0<|.slice p d q) 38;rw[<-aa]at k⊢;clear aa;have⟨u,ab⟩:=Xq j.heap.size;rw[<-ab]at k⊢;have⟨v,ac⟩:=Xq<|u+1;rw[<-ac]at k⊢;have aq:u≠v:=Y
 have ar:=X<|show j<=u/\j<=v from⟨Y,Y⟩;clear ab ac;replace k:=X k;have aH:=k.o.lt.1;have aI:=k.o.lt.2;have⟨A,B,C,D,E,F,G,I,J⟩:=kL k.o.2.1;go_wp21;apply(lU t a i ap<|U.o.ku k.o.1).M;rintro K au ⟨rfl,rfl⟩;go_wp21;apply(mn t a b i au (U.o.ku k.o.1) al.o).M;rintro K ad ⟨rfl,av⟩;have w:=X<|k.o.ku av;have aJ:=w.o.lt.1;have aK:=w.o.lt.2;have⟨A,B,C,D,E,F,G,I,J⟩:=kL w.o.2.1;have aL:(d:Int)<=9223372036854775807:=W V.o
 have⟨L,M⟩:=Xq<|qs (kF i) a b;rw[<-M];have N:=X M;clear M;have⟨aM,O⟩:=Xq<|ot (kF i) a;rw[<-O];have aN:=X O;clear O;go_upto_region 6 with fail;go_cut [8] (λaw ax=>aw=.bool (L&&decide ((d:Int)<=4))/\ad=ax)
 .cases L
  .go_wp2_with fail;go_meet;exact⟨Z,Z⟩
  go_wp21;go_meet;exact⟨Ux,Z⟩
 obtain⟨rfl,rfl⟩:=hcut;have⟨ay,P⟩:=Xq<|L&&decide ((d:Int)<=4);rw[<-P];have Q:=X P;clear P;go_wp21;apply(lW ⟨e,a,9,m,f,n,b,c,g⟩ p d q ad).M;rw[show arr ⟨e,a,9,m,f,n,b,c,g⟩=9 from Z];rintro K az ⟨rfl,aA⟩;have r:=X<|w.o.ku aA;have aO:=r.o.lt.1;have aP:=r.o.lt.2;have⟨A,B,C,D,E,F,G,I,J⟩:=kL r.o.2.1;have aB:=kt r.o.2.2 7;have aQ:=kx r.o.2.2 7;go_upto_region 29 with fail;have⟨ae,R⟩:=Xq<|az.setCell (uc v)<|.int .i64 c;have l:=X (show uo j u v (EC e a 9 m f n b c<|.slice p d q) (EC e a 9 0 f 0 b c<|.slice p d q) ae from by rw[R];exact(r.o.set ar.o.2 aq 7 _));rw[<-R];have aR:=l.o.lt.1;have aS:=l.o.lt.2;clear R;have⟨A,B,C,D,E,F,G,I,J⟩:=kL l.o.2.1;cases ay
 .go_wp2_with fail;go_ret;exact⟨vF s.o (by show((qs (kF i) a b&&decide (g.length<=4))&&decide (0<=c))=false;rw[<-N.o,(show decide (g.length<=4)=decide ((d:Int)<=4)from by rw[y.o];exact RL.2 Y),<-Q.o];rfl),l.o.1⟩
 by_cases aC:0<=c
 .have⟨aT,aU,aV,aW,aX,aY,aZ,aB,ba⟩:=kL l.o.2.2;have aD:=X (show fits (kF i) ⟨e,a,9,m,f,n,b,c,g⟩=true from by show((qs (kF i) a b&&decide (g.length<=4))&&decide (0<=c))=true;rw[<-N.o,(show decide (g.length<=4)=decide ((d:Int)<=4)from by rw[y.o];exact RL.2 Y),<-Q.o,Sk aC];rfl);by_cases af:0<=e
  .by_cases ag:0<=f
   .go_wp2_with fail;apply(uu x ae l.o.1 ⟨e,a,9,m,f,n,b,c,g⟩ ⟨e,a,9,0,f,0,b,c,g⟩ p d q am.o an.o V.o Z).M;rintro K bb ⟨rfl,aE⟩;have aF:=X aE;go_wp21;go_ret;exact⟨vT s.o aD.o af ag Z,l.o.1.T<|aF.o.M l.o.1.size⟩
   go_wp21;go_ret;exact⟨vN s.o ag,l.o.1⟩
  go_wp21;go_ret;exact⟨vM s.o af,l.o.1⟩
 go_wp21;go_ret;exact⟨vF s.o (by show((qs (kF i) a b&&decide (g.length<=4))&&decide (0<=c))=false;rw[<-N.o,(show decide (g.length<=4)=decide ((d:Int)<=4)from by rw[y.o];exact RL.2 Y),<-Q.o,Sp<|show¬0<=c from Y];rfl),l.o.1⟩
def CH(K g)(c a:Int)(j d k b l:Int)(n)(e p:Nat)(r)(s:Nat)(f)(aj:nH g s f)(ak:mi f)(S:kz lL K g (.slice n e p) r)(al:∀T,K T->T<g)(am:e<=9223372036854775807):
  Calls prog 22 #[.agg<|EC c a 11 j d k b l<|.slice n e p,.pointer s] g (kG (.bool<|valid (kF f) ⟨c,a,11,j,d,k,b,l,r⟩) g):=by
 have aG:=X S.len.1;have L:=X aj;have U:=X ak;have an:=X S;have ao:=X al;have V:=X am;have⟨aH,M⟩:=Xq<|valid (kF f) ⟨c,a,11,j,d,k,b,l,r⟩;rw[<-M];have v:=X M;clear M;have ap:=X<|boxes g (EC c a 11 j d k b l<|.slice n e p)<|EC c a 11 0 d 0 b 0<|.slice n e p
 go_enter func22,ntmps22
 go_upto_region 2 with fail;have i:=ap.o;have⟨aq,aa⟩:=Xq<|(g.alloc<|.cells (EC c a 11 j d k b l<|.slice n e p) 38).alloc<|.cells (EC c a 11 0 d 0 b 0<|.slice n e p) 38;rw[<-aa]at i⊢;clear aa;have⟨w,ab⟩:=Xq g.heap.size;rw[<-ab]at i⊢;have⟨t,ac⟩:=Xq<|w+1;rw[<-ac]at i⊢;have ad:w≠t:=Y
 have ae:=X<|show g<=w/\g<=t from⟨Y,Y⟩;clear ab ac;replace i:=X i;have aI:=i.o.lt.1;have aJ:=i.o.lt.2;have⟨x,y,z,A,B,C,D,E,F⟩:=kL i.o.2.1;go_wp21;apply(lU s a f aq<|L.o.ku i.o.1).M;rintro G ar ⟨rfl,rfl⟩;go_wp21;apply(mn s a b f ar (L.o.ku i.o.1) U.o).M;rintro G af ⟨rfl,au⟩;have I:=X<|i.o.ku au;have aK:=I.o.lt.1;have aL:=I.o.lt.2;have⟨x,y,z,A,B,C,D,E,F⟩:=kL I.o.2.1;have aM:(e:Int)<=9223372036854775807:=W V.o
 have⟨J,N⟩:=Xq<|qs (kF f) a b;rw[<-N];have O:=X N;clear N;have⟨aN,P⟩:=Xq<|ot (kF f) a;rw[<-P];have aO:=X P;clear P;go_upto_region 6 with fail;go_cut [8] (λav aw=>av=.bool (J&&decide ((e:Int)<=4))/\af=aw)
 .cases J
  .go_wp2_with fail;go_meet;exact⟨Z,Z⟩
  go_wp21;go_meet;exact⟨Ux,Z⟩
 obtain⟨rfl,rfl⟩:=hcut;have⟨aP,Q⟩:=Xq<|J&&decide ((e:Int)<=4);rw[<-Q];have aQ:=X Q;clear Q;go_wp21;apply(lW ⟨c,a,11,j,d,k,b,l,r⟩ n e p af).M;rw[show arr ⟨c,a,11,j,d,k,b,l,r⟩=11 from Z];rintro G ax ⟨rfl,ay⟩;have q:=X<|I.o.ku ay;have aR:=q.o.lt.1;have aS:=q.o.lt.2;have⟨x,y,z,A,B,C,D,E,F⟩:=kL q.o.2.1;have az:=kt q.o.2.2 4;have aT:=kx q.o.2.2 4;have aA:=kt q.o.2.2 8;have aU:=kx q.o.2.2 8;go_upto_region 38 with fail;have⟨ag,R⟩:=Xq<|(ax.setCell (Iv t)<|.int .i64 0).setCell (AS t)<|(Nl);have u:=X (show uo g w t (EC c a 11 j d k b l<|.slice n e p) (EC c a 11 0 0 0 b 0 Nl) ag from by rw[R];exact((q.o.set ae.o.2 ad 4 _).set ae.o.2 ad 8 _));rw[<-R];have aV:=u.o.lt.1;have aW:=u.o.lt.2;clear R;have⟨x,y,z,A,B,C,D,E,F⟩:=kL u.o.2.1;go_wp21;apply(mn s a b f ag (L.o.ku u.o.1) U.o).M;rintro G aB ⟨rfl,aC⟩;have m:=X<|u.o.ku aC;have aX:=m.o.lt.1;have aY:=m.o.lt.2;have⟨x,y,z,A,B,C,D,E,F⟩:=kL m.o.2.1;rw[<-O.o];cases J
 .go_wp2_with fail;go_ret;exact⟨vF v.o (by show qs (kF f) a b=false;rw[<-O.o]),m.o.1⟩
 have⟨aZ,ba,bb,bc,az,bd,be,bf,aA⟩:=kL m.o.2.2;have aD:=X (show fits (kF f) ⟨c,a,11,j,d,k,b,l,r⟩=true from by show qs (kF f) a b=true;rw[<-O.o]);by_cases ah:0<=c
 .by_cases ai:0<=d
  .go_wp2_with fail;apply(Hv K aB m.o.1 ⟨c,a,11,j,d,k,b,l,r⟩ ⟨c,a,11,0,0,0,b,0,[]⟩ n e p an.o ao.o V.o Z).M;rintro G bg ⟨rfl,aE⟩;have aF:=X aE;go_wp21;go_ret;exact⟨vT v.o aD.o ah ai Z,m.o.1.T<|aF.o.M m.o.1.size⟩
  go_wp21;go_ret;exact⟨vN v.o ai,m.o.1⟩
 go_wp21;go_ret;exact⟨vM v.o ah,m.o.1⟩
def Ei(M k)(g a:Int)(d i m b n:Int)(p)(c q:Nat)(f)(t:Nat)(e)(ak:nH k t e)(al:mi e)(V:kz lL M k (.slice p c q) f)(am:∀aa,M aa->aa<k)(an:c<=9223372036854775807):
  Calls prog 22 #[.agg<|EC g a 8 d i m b n<|.slice p c q,.pointer t] k (kG (.bool<|valid (kF e) ⟨g,a,8,d,i,m,b,n,f⟩) k):=by
 have v:=X V.len.1;have N:=X ak;have ab:=X al;have ao:=X V;have ap:=X am;have ac:=X an;have⟨aL,O⟩:=Xq<|valid (kF e) ⟨g,a,8,d,i,m,b,n,f⟩;rw[<-O];have r:=X O;clear O;have aq:=X<|boxes k (EC g a 8 d i m b n<|.slice p c q)<|EC g a 8 0 i 0 b 0<|.slice p c q
 go_enter func22,ntmps22
 go_upto_region 2 with fail;have l:=aq.o;have⟨ar,ad⟩:=Xq<|(k.alloc<|.cells (EC g a 8 d i m b n<|.slice p c q) 38).alloc<|.cells (EC g a 8 0 i 0 b 0<|.slice p c q) 38;rw[<-ad]at l⊢;clear ad;have⟨w,ae⟩:=Xq k.heap.size;rw[<-ae]at l⊢;have⟨x,af⟩:=Xq<|w+1;rw[<-af]at l⊢;have au:w≠x:=Y
 have av:=X<|show k<=w/\k<=x from⟨Y,Y⟩;clear ae af;replace l:=X l;have aM:=l.o.lt.1;have aN:=l.o.lt.2;have⟨y,z,A,B,C,D,E,F,G⟩:=kL l.o.2.1;go_wp21;apply(lU t a e ar<|N.o.ku l.o.1).M;rintro I aw ⟨rfl,rfl⟩;go_wp21;apply(mn t a b e aw (N.o.ku l.o.1) ab.o).M;rintro I ag ⟨rfl,ax⟩;have J:=X<|l.o.ku ax;have aO:=J.o.lt.1;have aP:=J.o.lt.2;have⟨y,z,A,B,C,D,E,F,G⟩:=kL J.o.2.1;have aQ:(c:Int)<=9223372036854775807:=W ac.o
 have⟨P,Q⟩:=Xq<|qs (kF e) a b;rw[<-Q];have aR:=X Q;clear Q;have⟨ay,R⟩:=Xq<|ot (kF e) a;rw[<-R];have K:=X R;clear R;go_upto_region 6 with fail;go_cut [8] (λaz aA=>az=.bool (P&&decide ((c:Int)<=4))/\ag=aA)
 .cases P
  .go_wp2_with fail;go_meet;exact⟨Z,Z⟩
  go_wp21;go_meet;exact⟨Ux,Z⟩
 obtain⟨rfl,rfl⟩:=hcut;have⟨aS,S⟩:=Xq<|P&&decide ((c:Int)<=4);rw[<-S];have aT:=X S;clear S;go_wp21;apply(lW ⟨g,a,8,d,i,m,b,n,f⟩ p c q ag).M;rw[show arr ⟨g,a,8,d,i,m,b,n,f⟩=8 from Z];rintro I aB ⟨rfl,aC⟩;have s:=X<|J.o.ku aC;have aU:=s.o.lt.1;have aV:=s.o.lt.2;have⟨y,z,A,B,C,D,E,F,G⟩:=kL s.o.2.1;have aD:=kt s.o.2.2 3;have aW:=kx s.o.2.2 3;go_upto_region 25 with fail;have⟨ah,T⟩:=Xq<|aB.setCell (sz x)<|.int .i64 d;have u:=X (show uo k w x (EC g a 8 d i m b n<|.slice p c q) (EC g a 8 d i 0 b 0<|.slice p c q) ah from by rw[T];exact(s.o.set av.o.2 au 3 _));rw[<-T];have aX:=u.o.lt.1;have aY:=u.o.lt.2;clear T;have⟨y,z,A,B,C,D,E,F,G⟩:=kL u.o.2.1;go_wp21;apply(mn t d b e ah (N.o.ku u.o.1) ab.o).M;rintro I aE ⟨rfl,aF⟩;have j:=X<|u.o.ku aF;have aZ:=j.o.lt.1;have ba:=j.o.lt.2;have⟨y,z,A,B,C,D,E,F,G⟩:=kL j.o.2.1;have⟨aG,U⟩:=Xq<|qs (kF e) d b;rw[<-U];have L:=X U;clear U;cases ay
 .go_wp2_with fail;go_ret;exact⟨vF r.o (by show(ot (kF e) a&&(qs (kF e) d b&&decide (f.length<=4)))=false;rw[<-K.o,<-L.o,(show decide (f.length<=4)=decide ((c:Int)<=4)from by rw[v.o];exact RL.2 Y)];rfl),j.o.1⟩
 cases aG
 .go_wp2_with fail;go_ret;exact⟨vF r.o (by show(ot (kF e) a&&(qs (kF e) d b&&decide (f.length<=4)))=false;rw[<-K.o,<-L.o,(show decide (f.length<=4)=decide ((c:Int)<=4)from by rw[v.o];exact RL.2 Y)];rfl),j.o.1⟩
 by_cases aH:(c:Int)<=4
 .have⟨bb,bc,bd,aD,be,bf,bg,bh,bi⟩:=kL j.o.2.2;have aI:=X (show fits (kF e) ⟨g,a,8,d,i,m,b,n,f⟩=true from by show(ot (kF e) a&&(qs (kF e) d b&&decide (f.length<=4)))=true;rw[<-K.o,<-L.o,(show decide (f.length<=4)=decide ((c:Int)<=4)from by rw[v.o];exact RL.2 Y),Sk aH];rfl);by_cases ai:0<=g
  .by_cases aj:0<=i
   .go_wp2_with fail;apply(uu M aE j.o.1 ⟨g,a,8,d,i,m,b,n,f⟩ ⟨g,a,8,d,i,0,b,0,f⟩ p c q ao.o ap.o ac.o Z).M;rintro I bj ⟨rfl,aJ⟩;have aK:=X aJ;go_wp21;go_ret;exact⟨vT r.o aI.o ai aj Z,j.o.1.T<|aK.o.M j.o.1.size⟩
   go_wp21;go_ret;exact⟨vN r.o aj,j.o.1⟩
  go_wp21;go_ret;exact⟨vM r.o ai,j.o.1⟩
 go_wp21;go_ret;exact⟨vF r.o (by show(ot (kF e) a&&(qs (kF e) d b&&decide (f.length<=4)))=false;rw[<-K.o,<-L.o,(show decide (f.length<=4)=decide ((c:Int)<=4)from by rw[v.o];exact RL.2 Y),Sp<|show¬(c:Int)<=4 from Y];rfl),j.o.1⟩
def Ej(af m)(j b:Int)(e k a f x:Int)(y)(g z:Nat)(l)(T:Nat)(i)(av:nH m T i)(aw:mi i)(d:kz lL af m (.slice y g z) l)(ax:∀ay,af ay->ay<m)(az:g<=9223372036854775807):
  Calls prog 22 #[.agg<|EC j b 5 e k a f x<|.slice y g z,.pointer T] m (kG (.bool<|valid (kF i) ⟨j,b,5,e,k,a,f,x,l⟩) m):=by
 have U:=X d.len.1;have ah:=X av;have D:=X aw;have aA:=X d;have aB:=X ax;have ai:=X az;clear av aw d ax az;have⟨bp,aj⟩:=Xq<|valid (kF i) ⟨j,b,5,e,k,a,f,x,l⟩;rw[<-aj];have E:=X aj;clear aj;have aC:=X<|boxes m (EC j b 5 e k a f x<|.slice y g z)<|EC j b 5 0 k 0 f 0<|.slice y g z
 go_enter func22,ntmps22
 go_upto_region 2 with fail;have F:=aC.o;have⟨aR,aD⟩:=Xq<|(m.alloc<|.cells (EC j b 5 e k a f x<|.slice y g z) 38).alloc<|.cells (EC j b 5 0 k 0 f 0<|.slice y g z) 38;rw[<-aD]at F⊢;clear aD aC;have⟨A,aE⟩:=Xq m.heap.size;rw[<-aE]at F⊢;have⟨C,aF⟩:=Xq<|A+1;rw[<-aF]at F⊢;have aG:A≠C:=Y
 have aH:=X<|show m<=A/\m<=C from⟨Y,Y⟩;clear aE aF;replace F:=X F;have⟨I,J,K,L,M,N,O,P,Q⟩:=kL F.o.2.1;go_wp21;apply(lU T b i aR<|ah.o.ku F.o.1).M;rintro V aS ⟨rfl,rfl⟩;go_wp21;apply(mn T b f i aS (ah.o.ku F.o.1) D.o).M;rintro V aI ⟨rfl,aJ⟩;have aK:=X<|F.o.ku aJ;clear aJ;clear I J K L M N O P Q;have⟨I,J,K,L,M,N,O,P,Q⟩:=kL aK.o.2.1;have bq:(g:Int)<=9223372036854775807:=W ai.o
 have⟨ak,al⟩:=Xq<|qs (kF i) b f;rw[<-al];have aa:=X al;clear al;have⟨br,aL⟩:=Xq<|ot (kF i) b;rw[<-aL];clear aL;go_upto_region 6 with fail;go_cut [8] (λaT aU=>aT=.bool (ak&&decide ((g:Int)<=4))/\aI=aU)
 .cases ak
  .go_wp21;go_meet;exact⟨Z,Z⟩
  go_wp21;go_meet;exact⟨Ux,Z⟩
 obtain⟨rfl,rfl⟩:=hcut;have⟨aV,am⟩:=Xq<|ak&&decide ((g:Int)<=4);rw[<-am];have ab:=X am;clear am;go_wp21;apply(lW ⟨j,b,5,e,k,a,f,x,l⟩ y g z aI).M;rw[show arr ⟨j,b,5,e,k,a,f,x,l⟩=5 from Z];rintro V bs ⟨rfl,aM⟩;have aN:=X<|aK.o.ku aM;clear aM;clear I J K L M N O P Q;have⟨I,J,K,L,M,N,O,P,Q⟩:=kL aN.o.2.1;clear I J K L M N O P Q;go_upto_region 21 with fail;refine mU (λB aW=>uo m A C (EC j b 5 e k a f x<|.slice y g z) (EC j b 5 (if B 5=true then e else 0) k (if B 7=true then a else 0) f 0<|.slice y g z) aW) (mM [(Pp A 3),(·=e),(Pp A 5),(·=a),(Pp C 3),Tr,(Pp C 5),Tr]) [] Up Up 248 Z Up (aN.o.drew) ⟨?_,?_,?_,?_,?_,?_,?_,?_,trivial⟩ ?_;intro B p m s t u c n d q v;have aX:=lu<|show p.eval (.tmp 2)=.pointer A from n 2 Z;clear n d q v t u s;refine kB.lF λG w=>?_;unfold kB;go_simp;exact w _ _ ⟨Z,c,Qe⟩;intro B p m s t u c n d q v;have bt:=lu<|show p.eval (.tmp 116)=.pointer (BE A)from d 0 _ Z Z;clear n d q v t u s;have aY:=kt c.2.1 3;have D:=X c;clear c;refine kB.lF λG w=>?_;unfold kB;go_simp;exact w _ _ ⟨Z,D.o,Qe⟩;intro B p m s t u c n d q v;have aX:=lu<|show p.eval (.tmp 2)=.pointer A from n 2 Z;clear n d q v t u s;refine kB.lF λG w=>?_;unfold kB;go_simp;exact w _ _ ⟨Z,c,Qe⟩;intro B p m s t u c n d q v;have bu:=lu<|show p.eval (.tmp 118)=.pointer (BT A)from d 2 _ Z Z;clear n d q v t u s;have aY:=kt c.2.1 5;have D:=X c;clear c;refine kB.lF λG w=>?_;unfold kB;go_simp;exact w _ _ ⟨Z,D.o,Qe⟩;intro B p m s t u c n d q v;have aZ:=lu<|show p.eval (.tmp 5)=.pointer C from n 5 Z;clear n d q v t u s;refine kB.lF λG w=>?_;unfold kB;go_simp;exact w _ _ ⟨Z,c,Qe⟩;intro B p m s t u c n d q v;have bv:=lu<|show p.eval (.tmp 120)=.pointer (BE C)from d 4 _ Z Z;have bw:=lu<|show p.eval (.tmp 117)=.int .i64 e from d 1 _ Z Z;clear n d q v t u s;have ba:=kt c.2.2 3;have bb:=kx c.2.2 3;have D:=X c;clear c;refine kB.lF λG w=>?_;unfold kB;go_simp;exact w _ _ ⟨trivial,(D.o.set aH.o.2 aG 3 _),Qe⟩;intro B p m s t u c n d q v;have aZ:=lu<|show p.eval (.tmp 5)=.pointer C from n 5 Z;clear n d q v t u s;refine kB.lF λG w=>?_;unfold kB;go_simp;exact w _ _ ⟨Z,c,Qe⟩;intro B p m s t u c n d q v;have bx:=lu<|show p.eval (.tmp 121)=.pointer (BT C)from d 6 _ Z Z;have bz:=lu<|show p.eval (.tmp 119)=.int .i64 a from d 3 _ Z Z;clear n d q v t u s;have ba:=kt c.2.2 5;have bb:=kx c.2.2 5;have D:=X c;clear c;refine kB.lF λG w=>?_;unfold kB;go_simp;exact w _ _ ⟨trivial,(D.o.set aH.o.2 aG 5 _),Qe⟩;intro B bA aO an c d q;have r:=X (show uo m A C (EC j b 5 e k a f x<|.slice y g z) (EC j b 5 e k a f 0<|.slice y g z) aO from by have aP:=c;simp only[an 5 Un,an 7 Un,T4]at aP;exact aP);clear c d q an;simp only[nx];have⟨I,J,K,L,M,N,O,P,Q⟩:=kL r.o.2.1;cases aV
 .go_wp21;go_ret;exact⟨vF E.o (by show((qs (kF i) b f&&decide (l.length<=4))&&(ot (kF i) e&&(decide (a=0)||decide (a=1))))=false;rw[<-aa.o,(show decide (l.length<=4)=decide ((g:Int)<=4)from by rw[U.o];exact RL.2 Y),<-ab.o];rfl),r.o.1⟩
 go_wp21;apply(lU T e i aO<|ah.o.ku r.o.1).M;rintro V aQ ⟨rfl,rfl⟩;have⟨bc,ao⟩:=Xq<|ot (kF i) e;rw[<-ao];have ag:=X ao;clear ao;cases bc
 .go_wp21;go_ret;exact⟨vF E.o (by show((qs (kF i) b f&&decide (l.length<=4))&&(ot (kF i) e&&(decide (a=0)||decide (a=1))))=false;rw[<-aa.o,(show decide (l.length<=4)=decide ((g:Int)<=4)from by rw[U.o];exact RL.2 Y),<-ab.o,<-ag.o];rfl),r.o.1⟩
 by_cases R:a=0
 .have bd:(a==0)=true:=(by rw[R];rfl);have ap:=X R;clear R;have⟨be,bf,bg,bh,bi,bj,bk,bl,bm⟩:=kL r.o.2.2;have aq:=X (show fits (kF i) ⟨j,b,5,e,k,a,f,x,l⟩=true from by show((qs (kF i) b f&&decide (l.length<=4))&&(ot (kF i) e&&(decide (a=0)||decide (a=1))))=true;rw[<-aa.o,(show decide (l.length<=4)=decide ((g:Int)<=4)from by rw[U.o];exact RL.2 Y),<-ab.o,<-ag.o,Sk ap.o];rfl);by_cases ac:0<=j
  .by_cases ad:0<=k
   .go_wp21;apply(uu af aQ r.o.1 ⟨j,b,5,e,k,a,f,x,l⟩ ⟨j,b,5,e,k,a,f,0,l⟩ y g z aA.o aB.o ai.o Z).M;rintro V bn ⟨rfl,ae⟩;have ar:=X ae;clear ae;go_wp21;go_ret;exact⟨vT E.o aq.o ac ad Z,r.o.1.T<|ar.o.M r.o.1.size⟩
   go_wp21;go_ret;exact⟨vN E.o ad,r.o.1⟩
  go_wp21;go_ret;exact⟨vM E.o ac,r.o.1⟩
 have bd:(a==0)=false:=(by rw[QW];exact R);have ap:=X R;clear R;by_cases S:a=1
 .have bo:(a==1)=true:=(by rw[S];rfl);have au:=X S;clear S;have⟨be,bf,bg,bh,bi,bj,bk,bl,bm⟩:=kL r.o.2.2;have aq:=X (show fits (kF i) ⟨j,b,5,e,k,a,f,x,l⟩=true from by show((qs (kF i) b f&&decide (l.length<=4))&&(ot (kF i) e&&(decide (a=0)||decide (a=1))))=true;rw[<-aa.o,(show decide (l.length<=4)=decide ((g:Int)<=4)from by rw[U.o];exact RL.2 Y),<-ab.o,<-ag.o,Sk au.o];simp);by_cases ac:0<=j
  .by_cases ad:0<=k
   .go_wp21;apply(uu af aQ r.o.1 ⟨j,b,5,e,k,a,f,x,l⟩ ⟨j,b,5,e,k,a,f,0,l⟩ y g z aA.o aB.o ai.o Z).M;rintro V bn ⟨rfl,ae⟩;have ar:=X ae;clear ae;go_wp21;go_ret;exact⟨vT E.o aq.o ac ad Z,r.o.1.T<|ar.o.M r.o.1.size⟩
   go_wp21;go_ret;exact⟨vN E.o ad,r.o.1⟩
  go_wp21;go_ret;exact⟨vM E.o ac,r.o.1⟩
 have bo:(a==1)=false:=(by rw[QW];exact S);have au:=X S;clear S;go_wp21;go_ret;exact⟨vF E.o (by show((qs (kF i) b f&&decide (l.length<=4))&&(ot (kF i) e&&(decide (a=0)||decide (a=1))))=false;rw[<-aa.o,(show decide (l.length<=4)=decide ((g:Int)<=4)from by rw[U.o];exact RL.2 Y),<-ab.o,<-ag.o,Sp ap.o,Sp au.o];rfl),r.o.1⟩
def CI(ab p)(j c:Int)(b k a q y:Int)(B)(i C:Nat)(f)(ar:Nat)(l)(aS:nH p ar l)(aT:mi l)(g:kz lL ab p (.slice B i C) f)(aU:∀aV,ab aV->aV<p)(aW:i<=9223372036854775807):
  Calls prog 22 #[.agg<|EC j c 10 b k a q y<|.slice B i C,.pointer ar] p (kG (.bool<|valid (kF l) ⟨j,c,10,b,k,a,q,y,f⟩) p):=by
 have z:=X g.len.1;have aX:=X aS;have L:=X aT;have au:=X g;have av:=X aU;have ao:=X aW;clear aS aT g aU aW;have⟨bt,aA⟩:=Xq<|valid (kF l) ⟨j,c,10,b,k,a,q,y,f⟩;rw[<-aA];have m:=X aA;clear aA;have aY:=X<|boxes p (EC j c 10 b k a q y<|.slice B i C)<|EC j c 10 0 k 0 q 0<|.slice B i C
 go_enter func22,ntmps22
 go_upto_region 2 with fail;have M:=aY.o;have⟨bl,aZ⟩:=Xq<|(p.alloc<|.cells (EC j c 10 b k a q y<|.slice B i C) 38).alloc<|.cells (EC j c 10 0 k 0 q 0<|.slice B i C) 38;rw[<-aZ]at M⊢;clear aZ aY;have⟨N,ba⟩:=Xq p.heap.size;rw[<-ba]at M⊢;have⟨F,bb⟩:=Xq<|N+1;rw[<-bb]at M⊢;have aB:N≠F:=Y
 have aC:=X<|show p<=N/\p<=F from⟨Y,Y⟩;clear ba bb;replace M:=X M;have bu:=M.o.lt.1;have bv:=M.o.lt.2;have⟨ac,ad,ae,af,ag,ah,ai,aj,ak⟩:=kL M.o.2.1;go_wp21;apply(lU ar c l bl<|aX.o.ku M.o.1).M;rintro al bm ⟨rfl,rfl⟩;go_wp21;apply(mn ar c q l bm (aX.o.ku M.o.1) L.o).M;rintro al bc ⟨rfl,bd⟩;have aw:=X<|M.o.ku bd;have bw:=aw.o.lt.1;have bx:=aw.o.lt.2;clear bd;clear ac ad ae af ag ah ai aj ak;have⟨ac,ad,ae,af,ag,ah,ai,aj,ak⟩:=kL aw.o.2.1;have bz:(i:Int)<=9223372036854775807:=W ao.o
 have⟨aD,aE⟩:=Xq<|qs (kF l) c q;rw[<-aE];have bA:=X aE;clear aE;have⟨ap,aF⟩:=Xq<|ot (kF l) c;rw[<-aF];have A:=X aF;clear aF;go_upto_region 6 with fail;go_cut [8] (λbn bo=>bn=.bool (aD&&decide ((i:Int)<=4))/\bc=bo)
 .cases aD
  .go_wp2_with fail;go_meet;exact⟨Z,Z⟩
  go_wp21;go_meet;exact⟨Ux,Z⟩
 obtain⟨rfl,rfl⟩:=hcut;have⟨bB,aG⟩:=Xq<|aD&&decide ((i:Int)<=4);rw[<-aG];have bC:=X aG;clear aG;go_wp21;apply(lW ⟨j,c,10,b,k,a,q,y,f⟩ B i C bc).M;rw[show arr ⟨j,c,10,b,k,a,q,y,f⟩=10 from Z];rintro al bD ⟨rfl,be⟩;have ax:=X<|aw.o.ku be;have bE:=ax.o.lt.1;have bF:=ax.o.lt.2;clear be;clear ac ad ae af ag ah ai aj ak;have⟨ac,ad,ae,af,ag,ah,ai,aj,ak⟩:=kL ax.o.2.1;clear ac ad ae af ag ah ai aj ak;go_upto_region 31 with fail;refine mU (λE bp=>uo p N F (EC j c 10 b k a q y<|.slice B i C) (EC j c 10 (if E 5=true then b else 0) k (if E 7=true then a else 0) (if E 9=true then 0 else q) 0<|.slice B i C) bp) (mM [(Pp N 3),(·=b),(Pp N 5),(·=a),(Pp F 3),Tr,(Pp F 5),Tr,(Pp F 6),Tr]) [] Up Up 248 Z Up (ax.o.drew) ⟨?_,?_,?_,?_,?_,?_,?_,?_,?_,?_,trivial⟩ ?_;intro E r p t u v e n g s w;have bq:=lu<|show r.eval (.tmp 2)=.pointer N from n 2 Z;clear n g s w u v t;refine kB.lF λS x=>?_;unfold kB;go_simp;exact x _ _ ⟨Z,e,Qe⟩;intro E r p t u v e n g s w;have bG:=lu<|show r.eval (.tmp 176)=.pointer (BE N)from g 0 _ Z Z;clear n g s w u v t;have br:=kt e.2.1 3;have L:=X e;clear e;refine kB.lF λS x=>?_;unfold kB;go_simp;exact x _ _ ⟨Z,L.o,Qe⟩;intro E r p t u v e n g s w;have bq:=lu<|show r.eval (.tmp 2)=.pointer N from n 2 Z;clear n g s w u v t;refine kB.lF λS x=>?_;unfold kB;go_simp;exact x _ _ ⟨Z,e,Qe⟩;intro E r p t u v e n g s w;have bH:=lu<|show r.eval (.tmp 178)=.pointer (BT N)from g 2 _ Z Z;clear n g s w u v t;have br:=kt e.2.1 5;have L:=X e;clear e;refine kB.lF λS x=>?_;unfold kB;go_simp;exact x _ _ ⟨Z,L.o,Qe⟩;intro E r p t u v e n g s w;have bf:=lu<|show r.eval (.tmp 5)=.pointer F from n 5 Z;clear n g s w u v t;refine kB.lF λS x=>?_;unfold kB;go_simp;exact x _ _ ⟨Z,e,Qe⟩;intro E r p t u v e n g s w;have bI:=lu<|show r.eval (.tmp 180)=.pointer (BE F)from g 4 _ Z Z;have bJ:=lu<|show r.eval (.tmp 177)=.int .i64 b from g 1 _ Z Z;clear n g s w u v t;have bg:=kt e.2.2 3;have bh:=kx e.2.2 3;have bi:=e.lt.2;have L:=X e;clear e;refine kB.lF λS x=>?_;unfold kB;go_simp;exact x _ _ ⟨trivial,(L.o.set aC.o.2 aB 3 _),Qe⟩;intro E r p t u v e n g s w;have bf:=lu<|show r.eval (.tmp 5)=.pointer F from n 5 Z;clear n g s w u v t;refine kB.lF λS x=>?_;unfold kB;go_simp;exact x _ _ ⟨Z,e,Qe⟩;intro E r p t u v e n g s w;have bK:=lu<|show r.eval (.tmp 181)=.pointer (BT F)from g 6 _ Z Z;have bL:=lu<|show r.eval (.tmp 179)=.int .i64 a from g 3 _ Z Z;clear n g s w u v t;have bg:=kt e.2.2 5;have bh:=kx e.2.2 5;have bi:=e.lt.2;have L:=X e;clear e;refine kB.lF λS x=>?_;unfold kB;go_simp;exact x _ _ ⟨trivial,(L.o.set aC.o.2 aB 5 _),Qe⟩;intro E r p t u v e n g s w;have bf:=lu<|show r.eval (.tmp 5)=.pointer F from n 5 Z;clear n g s w u v t;refine kB.lF λS x=>?_;unfold kB;go_simp;exact x _ _ ⟨Z,e,Qe⟩;intro E r p t u v e n g s w;have bM:=lu<|show r.eval (.tmp 182)=.pointer (some ⟨F,6,none⟩)from g 8 _ Z Z;clear n g s w u v t;have bg:=kt e.2.2 6;have bh:=kx e.2.2 6;have bi:=e.lt.2;have L:=X e;clear e;refine kB.lF λS x=>?_;unfold kB;go_simp;exact x _ _ ⟨trivial,(L.o.set aC.o.2 aB 6 _),Qe⟩;intro E bN aq ay e g s;have d:=X (show uo p N F (EC j c 10 b k a q y<|.slice B i C) (EC j c 10 b k a 0 0<|.slice B i C) aq from by have bj:=e;simp only[ay 5 Un,ay 7 Un,ay 9 Un,T4]at bj;exact bj);clear e g s ay;simp only[nx];have bO:=d.o.lt.1;have bP:=d.o.lt.2;have⟨ac,ad,ae,af,ag,ah,ai,aj,ak⟩:=kL d.o.2.1;by_cases am:b=1
 .have bs:(b==1)=true:=(by rw[am];rfl);have G:=X am;clear am;have bk:(b==0)=false:=(by rw[QW];have:=G.o;omega);by_cases I:a=1
  .have aH:(a==1)=true:=(by rw[I];rfl);have K:=X I;clear I;have az:(a==0)=false:=(by rw[QW];have:=K.o;omega);cases ap
   .go_wp2_with fail;go_ret;exact⟨vF m.o (by show(ot (kF l) c&&((decide (b=0)||decide (b=1))&&((decide (a=0)||decide (a=1))&&decide (f.length=if b=1/\a=1 then 1 else 2))))=false;rw[<-A.o];simp[z.o]),d.o.1⟩
   by_cases c:i=1
   .have T:((i:Int)==1)=true:=(by rw[c];rfl);have D:=X c;clear c;have⟨aI,aJ,aK,aL,aM,aN,aO,aP,aQ⟩:=kL d.o.2.2;have U:=X (show fits (kF l) ⟨j,c,10,b,k,a,q,y,f⟩=true from by show(ot (kF l) c&&((decide (b=0)||decide (b=1))&&((decide (a=0)||decide (a=1))&&decide (f.length=if b=1/\a=1 then 1 else 2))))=true;rw[<-A.o];simp[z.o,D.o,G.o,K.o]);by_cases O:0<=j
    .by_cases P:0<=k
     .go_wp2_with fail;apply(uu ab aq d.o.1 ⟨j,c,10,b,k,a,q,y,f⟩ ⟨j,c,10,b,k,a,0,0,f⟩ B i C au.o av.o ao.o Z).M;rintro al aR ⟨rfl,Q⟩;have V:=X Q;clear Q;go_wp21;go_ret;exact⟨vT m.o U.o O P Z,d.o.1.T<|V.o.M d.o.1.size⟩
     go_wp21;go_ret;exact⟨vN m.o P,d.o.1⟩
    go_wp21;go_ret;exact⟨vM m.o O,d.o.1⟩
   have T:((i:Int)==1)=false:=(by rw[QW];omega);have D:=X c;clear c;go_wp21;go_ret;exact⟨vF m.o (by show(ot (kF l) c&&((decide (b=0)||decide (b=1))&&((decide (a=0)||decide (a=1))&&decide (f.length=if b=1/\a=1 then 1 else 2))))=false;rw[<-A.o];simp[z.o,D.o,G.o,K.o]),d.o.1⟩
  have aH:(a==1)=false:=(by rw[QW];exact I);have K:=X I;clear I;by_cases J:a=0
  .have az:(a==0)=true:=(by rw[J];rfl);have R:=X J;clear J;cases ap
   .go_wp2_with fail;go_ret;exact⟨vF m.o (by show(ot (kF l) c&&((decide (b=0)||decide (b=1))&&((decide (a=0)||decide (a=1))&&decide (f.length=if b=1/\a=1 then 1 else 2))))=false;rw[<-A.o];simp[z.o]),d.o.1⟩
   by_cases c:i=2
   .have T:((i:Int)==2)=true:=(by rw[c];rfl);have D:=X c;clear c;have⟨aI,aJ,aK,aL,aM,aN,aO,aP,aQ⟩:=kL d.o.2.2;have U:=X (show fits (kF l) ⟨j,c,10,b,k,a,q,y,f⟩=true from by show(ot (kF l) c&&((decide (b=0)||decide (b=1))&&((decide (a=0)||decide (a=1))&&decide (f.length=if b=1/\a=1 then 1 else 2))))=true;rw[<-A.o];simp[z.o,D.o,G.o,K.o,R.o]);by_cases O:0<=j
    .by_cases P:0<=k
     .go_wp2_with fail;apply(uu ab aq d.o.1 ⟨j,c,10,b,k,a,q,y,f⟩ ⟨j,c,10,b,k,a,0,0,f⟩ B i C au.o av.o ao.o Z).M;rintro al aR ⟨rfl,Q⟩;have V:=X Q;clear Q;go_wp21;go_ret;exact⟨vT m.o U.o O P Z,d.o.1.T<|V.o.M d.o.1.size⟩
     go_wp21;go_ret;exact⟨vN m.o P,d.o.1⟩
    go_wp21;go_ret;exact⟨vM m.o O,d.o.1⟩
   have T:((i:Int)==2)=false:=(by rw[QW];omega);have D:=X c;clear c;go_wp21;go_ret;exact⟨vF m.o (by show(ot (kF l) c&&((decide (b=0)||decide (b=1))&&((decide (a=0)||decide (a=1))&&decide (f.length=if b=1/\a=1 then 1 else 2))))=false;rw[<-A.o];simp[z.o,D.o,G.o,K.o,R.o]),d.o.1⟩
  have az:(a==0)=false:=(by rw[QW];exact J);have R:=X J;clear J;cases ap
  .go_wp2_with fail;go_ret;exact⟨vF m.o (by show(ot (kF l) c&&((decide (b=0)||decide (b=1))&&((decide (a=0)||decide (a=1))&&decide (f.length=if b=1/\a=1 then 1 else 2))))=false;rw[<-A.o];simp[z.o]),d.o.1⟩
  go_wp21;go_ret;exact⟨vF m.o (by show(ot (kF l) c&&((decide (b=0)||decide (b=1))&&((decide (a=0)||decide (a=1))&&decide (f.length=if b=1/\a=1 then 1 else 2))))=false;rw[<-A.o];simp[z.o,G.o,K.o,R.o]),d.o.1⟩
 have bs:(b==1)=false:=(by rw[QW];exact am);have G:=X am;clear am;by_cases an:b=0
 .have bk:(b==0)=true:=(by rw[an];rfl);have aa:=X an;clear an;cases ap
  .go_wp2_with fail;go_ret;exact⟨vF m.o (by show(ot (kF l) c&&((decide (b=0)||decide (b=1))&&((decide (a=0)||decide (a=1))&&decide (f.length=if b=1/\a=1 then 1 else 2))))=false;rw[<-A.o];simp[z.o]),d.o.1⟩
  by_cases J:a=0
  .have az:(a==0)=true:=(by rw[J];rfl);have R:=X J;clear J;by_cases c:i=2
   .have T:((i:Int)==2)=true:=(by rw[c];rfl);have D:=X c;clear c;have⟨aI,aJ,aK,aL,aM,aN,aO,aP,aQ⟩:=kL d.o.2.2;have U:=X (show fits (kF l) ⟨j,c,10,b,k,a,q,y,f⟩=true from by show(ot (kF l) c&&((decide (b=0)||decide (b=1))&&((decide (a=0)||decide (a=1))&&decide (f.length=if b=1/\a=1 then 1 else 2))))=true;rw[<-A.o];simp[z.o,D.o,G.o,aa.o,R.o]);by_cases O:0<=j
    .by_cases P:0<=k
     .go_wp2_with fail;apply(uu ab aq d.o.1 ⟨j,c,10,b,k,a,q,y,f⟩ ⟨j,c,10,b,k,a,0,0,f⟩ B i C au.o av.o ao.o Z).M;rintro al aR ⟨rfl,Q⟩;have V:=X Q;clear Q;go_wp21;go_ret;exact⟨vT m.o U.o O P Z,d.o.1.T<|V.o.M d.o.1.size⟩
     go_wp21;go_ret;exact⟨vN m.o P,d.o.1⟩
    go_wp21;go_ret;exact⟨vM m.o O,d.o.1⟩
   have T:((i:Int)==2)=false:=(by rw[QW];omega);have D:=X c;clear c;go_wp21;go_ret;exact⟨vF m.o (by show(ot (kF l) c&&((decide (b=0)||decide (b=1))&&((decide (a=0)||decide (a=1))&&decide (f.length=if b=1/\a=1 then 1 else 2))))=false;rw[<-A.o];simp[z.o,D.o,G.o,aa.o,R.o]),d.o.1⟩
  have az:(a==0)=false:=(by rw[QW];exact J);have R:=X J;clear J;by_cases I:a=1
  .have aH:(a==1)=true:=(by rw[I];rfl);have K:=X I;clear I;by_cases c:i=2
   .have T:((i:Int)==2)=true:=(by rw[c];rfl);have D:=X c;clear c;have⟨aI,aJ,aK,aL,aM,aN,aO,aP,aQ⟩:=kL d.o.2.2;have U:=X (show fits (kF l) ⟨j,c,10,b,k,a,q,y,f⟩=true from by show(ot (kF l) c&&((decide (b=0)||decide (b=1))&&((decide (a=0)||decide (a=1))&&decide (f.length=if b=1/\a=1 then 1 else 2))))=true;rw[<-A.o];simp[z.o,D.o,G.o,aa.o,R.o,K.o]);by_cases O:0<=j
    .by_cases P:0<=k
     .go_wp2_with fail;apply(uu ab aq d.o.1 ⟨j,c,10,b,k,a,q,y,f⟩ ⟨j,c,10,b,k,a,0,0,f⟩ B i C au.o av.o ao.o Z).M;rintro al aR ⟨rfl,Q⟩;have V:=X Q;clear Q;go_wp21;go_ret;exact⟨vT m.o U.o O P Z,d.o.1.T<|V.o.M d.o.1.size⟩
     go_wp21;go_ret;exact⟨vN m.o P,d.o.1⟩
    go_wp21;go_ret;exact⟨vM m.o O,d.o.1⟩
   have T:((i:Int)==2)=false:=(by rw[QW];omega);have D:=X c;clear c;go_wp21;go_ret;exact⟨vF m.o (by show(ot (kF l) c&&((decide (b=0)||decide (b=1))&&((decide (a=0)||decide (a=1))&&decide (f.length=if b=1/\a=1 then 1 else 2))))=false;rw[<-A.o];simp[z.o,D.o,G.o,aa.o,R.o,K.o]),d.o.1⟩
  have aH:(a==1)=false:=(by rw[QW];exact I);have K:=X I;clear I;go_wp21;go_ret;exact⟨vF m.o (by show(ot (kF l) c&&((decide (b=0)||decide (b=1))&&((decide (a=0)||decide (a=1))&&decide (f.length=if b=1/\a=1 then 1 else 2))))=false;rw[<-A.o];simp[z.o,G.o,aa.o,R.o,K.o]),d.o.1⟩
 have bk:(b==0)=false:=(by rw[QW];exact an);have aa:=X an;clear an;cases ap
 .go_wp2_with fail;go_ret;exact⟨vF m.o (by show(ot (kF l) c&&((decide (b=0)||decide (b=1))&&((decide (a=0)||decide (a=1))&&decide (f.length=if b=1/\a=1 then 1 else 2))))=false;rw[<-A.o];simp[z.o]),d.o.1⟩
 go_wp21;go_ret;exact⟨vF m.o (by show(ot (kF l) c&&((decide (b=0)||decide (b=1))&&((decide (a=0)||decide (a=1))&&decide (f.length=if b=1/\a=1 then 1 else 2))))=false;rw[<-A.o];simp[z.o,G.o,aa.o]),d.o.1⟩
def Ek(A i)(d b:Int)(a:Nat)(j e k c l:Int)(p)(f q:Nat)(n)(r:Nat)(m)(U:nH i r m)(V:mi m)(B:kz lL A i (.slice p f q) n)(aa:∀C,A C->C<i)(ab:f<=9223372036854775807)(ap:a=0\/11<a):
  Calls prog 22 #[.agg<|EC d b (a:Nat) j e k c l<|.slice p f q,.pointer r] i (kG (.bool<|valid (kF m) ⟨d,b,a,j,e,k,c,l,n⟩) i):=by
 have aq:=X B.len.1;have ac:=X (show fits (kF m) ⟨d,b,a,j,e,k,c,l,n⟩=false from by have ad:arr ⟨d,b,a,j,e,k,c,l,n⟩=a:=(by simp[arr,show a≠7 from Y]);cases hq:fits (kF m) ⟨d,b,a,j,e,k,c,l,n⟩;rfl;have:=rP hq;rw[ad]at this;omega)
 have ar:((a:Int)==1)=false:=by rw[QW];omega
 have au:((a:Int)==2)=false:=by rw[QW];omega
 have av:((a:Int)==3)=false:=by rw[QW];omega
 have aw:((a:Int)==4)=false:=by rw[QW];omega
 have ax:((a:Int)==5)=false:=by rw[QW];omega
 have ay:((a:Int)==6)=false:=by rw[QW];omega
 have az:((a:Int)==7)=false:=by rw[QW];omega
 have aA:((a:Int)==8)=false:=by rw[QW];omega
 have aB:((a:Int)==9)=false:=by rw[QW];omega
 have aC:((a:Int)==10)=false:=by rw[QW];omega
 have aD:((a:Int)==11)=false:=by rw[QW];omega
 have ae:=X (show arr ⟨d,b,a,j,e,k,c,l,n⟩=a from by simp[arr,show a≠7 from Y]);have D:=X U;have af:=X V;have aE:=X B;have aF:=X aa;have ag:=X ab;have⟨aG,u⟩:=Xq<|valid (kF m) ⟨d,b,a,j,e,k,c,l,n⟩;rw[<-u];have ah:=X u;clear u;have ai:=X<|boxes i (EC d b (a:Nat) j e k c l<|.slice p f q)<|EC d b (a:Nat) 0 e 0 c 0<|.slice p f q
 go_enter func22,ntmps22
 go_upto_region 2 with fail;have g:=ai.o;have⟨aj,E⟩:=Xq<|(i.alloc<|.cells (EC d b (a:Nat) j e k c l<|.slice p f q) 38).alloc<|.cells (EC d b (a:Nat) 0 e 0 c 0<|.slice p f q) 38;rw[<-E]at g⊢;clear E;have⟨v,F⟩:=Xq i.heap.size;rw[<-F]at g⊢;have⟨G,I⟩:=Xq<|v+1;rw[<-I]at g⊢;have aH:v≠G:=Y
 have aI:=X<|show i<=v/\i<=G from⟨Y,Y⟩;clear F I;replace g:=X g;have aJ:=g.o.lt.1;have aK:=g.o.lt.2;have⟨J,K,L,M,N,O,P,Q,R⟩:=kL g.o.2.1;go_wp21;apply(lU r b m aj<|D.o.ku g.o.1).M;rintro S ak ⟨rfl,rfl⟩;go_wp21;apply(mn r b c m ak (D.o.ku g.o.1) af.o).M;rintro S T ⟨rfl,al⟩;have s:=X<|g.o.ku al;have aL:=s.o.lt.1;have aM:=s.o.lt.2;have⟨J,K,L,M,N,O,P,Q,R⟩:=kL s.o.2.1;have aN:(f:Int)<=9223372036854775807:=W ag.o
 have⟨w,x⟩:=Xq<|qs (kF m) b c;rw[<-x];have aO:=X x;clear x;have⟨aP,y⟩:=Xq<|ot (kF m) b;rw[<-y];have aQ:=X y;clear y;go_upto_region 6 with fail;go_cut [8] (λam an=>am=.bool (w&&decide ((f:Int)<=4))/\T=an)
 .cases w
  .go_wp2_with fail;go_meet;exact⟨Z,Z⟩
  go_wp21;go_meet;exact⟨Ux,Z⟩
 obtain⟨rfl,rfl⟩:=hcut;have⟨aR,z⟩:=Xq<|w&&decide ((f:Int)<=4);rw[<-z];have aS:=X z;clear z;go_wp21;apply(lW ⟨d,b,a,j,e,k,c,l,n⟩ p f q T).M;rw[ae.o];rintro S aT ⟨rfl,ao⟩;have t:=X<|s.o.ku ao;have aU:=t.o.lt.1;have aV:=t.o.lt.2;have⟨J,K,L,M,N,O,P,Q,R⟩:=kL t.o.2.1;go_wp21;go_ret;exact⟨vF ah.o ac.o,t.o.1⟩
abbrev Of(a b c d e f g):=(.cells (EC a b 7 0 c 0 d 0<|.slice e f g) 38:Go.Obj)
def CJ(G g)(c a:Int)(i d j b:Int)(l)(e m:Nat)(n)(s:Nat)(p)(q:nH g s p)(ag:mi p)(P:kz lL G g (.slice l e m) n)(ah:∀Q,G Q->Q<g)(ai:e<=9223372036854775807):
  Calls prog 22 #[.agg<|EC c a 7 i d j b 4<|.slice l e m,.pointer s] g (kG (.bool<|valid (kF p) ⟨c,a,7,i,d,j,b,4,n⟩) g):=by
 have aj:=X P.len.1;have R:=X q;have ak:=X ag;have al:=X P;have am:=X ah;have S:=X ai;clear q;have⟨aG,I⟩:=Xq<|valid (kF p) ⟨c,a,7,i,d,j,b,4,n⟩;rw[<-I];have t:=X I;clear I;have an:=X<|boxes g (EC c a 7 i d j b 4<|.slice l e m)<|EC c a 7 0 d 0 b 0<|.slice l e m
 go_enter func22,ntmps22
 go_upto_region 2 with fail;have k:=an.o;have⟨ao,T⟩:=Xq<|(g.alloc<|.cells (EC c a 7 i d j b 4<|.slice l e m) 38).alloc<|Of c a d b l e m;rw[<-T]at k⊢;clear T;have⟨u,U⟩:=Xq g.heap.size;rw[<-U]at k⊢;have⟨v,V⟩:=Xq<|u+1;rw[<-V]at k⊢;have ap:u≠v:=Y
 have aq:=X<|show g<=u/\g<=v from⟨Y,Y⟩;clear U V;replace k:=X k;have aH:=k.o.lt.1;have aI:=k.o.lt.2;have ar:=kt k.o.2.2 7;have aJ:=kx k.o.2.2 7;have⟨w,x,y,z,A,B,C,D,E⟩:=kL k.o.2.1;go_upto_region 4 with fail;have⟨aa,J⟩:=Xq<|ao.setCell (uc v)<|.int .i64 4;have r:=X (show uo g u v (EC c a 7 i d j b 4<|.slice l e m) (EC c a 7 0 d 0 b 4<|.slice l e m) aa from by rw[J];exact k.o.set aq.o.2 ap 7 _);rw[<-J];have aK:=r.o.lt.1;have aL:=r.o.lt.2;clear J;have⟨w,x,y,z,A,B,C,D,E⟩:=kL r.o.2.1;go_wp21;apply(lU s a p aa<|R.o.ku r.o.1).M;rintro K au ⟨rfl,rfl⟩;go_wp21;apply(mn s a b p au (R.o.ku r.o.1) ak.o).M;rintro K ab ⟨rfl,av⟩;have F:=X<|r.o.ku av;have aM:=F.o.lt.1;have aN:=F.o.lt.2;have⟨w,x,y,z,A,B,C,D,E⟩:=kL F.o.2.1;have aO:(e:Int)<=9223372036854775807:=W S.o
 have⟨L,M⟩:=Xq<|qs (kF p) a b;rw[<-M];have aw:=X M;clear M;have⟨aP,N⟩:=Xq<|ot (kF p) a;rw[<-N];have aQ:=X N;clear N;go_upto_region 6 with fail;go_cut [8] (λax ay=>ax=.bool (L&&decide ((e:Int)<=4))/\ab=ay)
 .cases L
  .go_wp2_with fail;go_meet;exact⟨Z,Z⟩
  go_wp21;go_meet;exact⟨Ux,Z⟩
 obtain⟨rfl,rfl⟩:=hcut;have⟨az,O⟩:=Xq<|L&&decide ((e:Int)<=4);rw[<-O];have aA:=X O;clear O;go_wp21;apply(lW ⟨c,a,7,i,d,j,b,4,n⟩ l e m ab).M;rw[show arr ⟨c,a,7,i,d,j,b,4,n⟩=4 from Z];rintro K aB ⟨rfl,aC⟩;have f:=X<|F.o.ku aC;have aR:=f.o.lt.1;have aS:=f.o.lt.2;have⟨w,x,y,z,A,B,C,D,E⟩:=kL f.o.2.1;go_upto_region 39 with fail;have⟨ac,q⟩:=Xq az;rw[<-q];have ad:=X (show ac=fits (kF p) ⟨c,a,7,i,d,j,b,4,n⟩from by rw[q,aA.o,aw.o,show decide ((e:Int)<=4)=decide (n.length<=4)from by rw[aj.o];exact RL.2 Y];rfl);clear q;have aT:=f.o.lt.1;have aU:=f.o.lt.2;have⟨w,x,y,z,A,B,C,D,E⟩:=kL f.o.2.1;cases ac with
 |false=>go_wp21;go_ret;exact⟨vF t.o ad.o.symm,f.o.1⟩
 |true=>
  have⟨aV,aW,aX,aY,aZ,ba,bb,ar,bc⟩:=kL f.o.2.2;have aD:=X<|show fits (kF p) ⟨c,a,7,i,d,j,b,4,n⟩=true from ad.o.symm;by_cases ae:0<=c
  .by_cases af:0<=d
   .go_wp2_with fail;apply(uu G aB f.o.1 ⟨c,a,7,i,d,j,b,4,n⟩ ⟨c,a,7,0,d,0,b,4,n⟩ l e m al.o am.o S.o Z).M;rintro K bd ⟨rfl,aE⟩;have aF:=X aE;go_wp21;go_ret;exact⟨vT t.o aD.o ae af Z,f.o.1.T<|aF.o.M f.o.1.size⟩
   go_wp21;go_ret;exact⟨vN t.o af,f.o.1⟩
  go_wp21;go_ret;exact⟨vM t.o ae,f.o.1⟩
def El(M g)(d a:Int)(j e k b c:Int)(m)(f n:Nat)(p)(r:Nat)(l)(ab:nH g r l)(ac:mi l)(N:kz lL M g (.slice m f n) p)(ad:∀O,M O->O<g)(ae:f<=9223372036854775807)(af:c≠4/\c≠5/\c≠6):
  Calls prog 22 #[.agg<|EC d a 7 j e k b c<|.slice m f n,.pointer r] g (kG (.bool<|valid (kF l) ⟨d,a,7,j,e,k,b,c,p⟩) g):=by
 have av:=X N.len.1;have P:=X (show arr ⟨d,a,7,j,e,k,b,c,p⟩=7 from by simp[arr,af]);have ag:=X (show fits (kF l) ⟨d,a,7,j,e,k,b,c,p⟩=false from by cases hq:fits (kF l) ⟨d,a,7,j,e,k,b,c,p⟩;rfl;have:=rP hq;rw[P.o]at this;omega)
 have Q:=X ab;have ah:=X ac;have aw:=X N;have ax:=X ad;have ai:=X ae;have⟨ay,w⟩:=Xq<|valid (kF l) ⟨d,a,7,j,e,k,b,c,p⟩;rw[<-w];have aj:=X w;clear w;have ak:=X<|boxes g (EC d a 7 j e k b c<|.slice m f n)<|EC d a 7 0 e 0 b 0<|.slice m f n
 go_enter func22,ntmps22
 go_upto_region 2 with fail;have i:=ak.o;have⟨al,R⟩:=Xq<|(g.alloc<|.cells (EC d a 7 j e k b c<|.slice m f n) 38).alloc<|Of d a e b m f n;rw[<-R]at i⊢;clear R;have⟨s,S⟩:=Xq g.heap.size;rw[<-S]at i⊢;have⟨t,T⟩:=Xq<|s+1;rw[<-T]at i⊢;have am:s≠t:=Y
 have an:=X<|show g<=s/\g<=t from⟨Y,Y⟩;clear S T;replace i:=X i;have az:=i.o.lt.1;have aA:=i.o.lt.2;have aB:=kt i.o.2.2 7;have aC:=kx i.o.2.2 7;have⟨x,y,z,A,B,C,D,E,F⟩:=kL i.o.2.1;go_upto_region 4 with fail;have⟨U,G⟩:=Xq<|al.setCell (uc t)<|.int .i64 c;have q:=X (show uo g s t (EC d a 7 j e k b c<|.slice m f n) (EC d a 7 0 e 0 b c<|.slice m f n) U from by rw[G];exact i.o.set an.o.2 am 7 _);rw[<-G];have aD:=q.o.lt.1;have aE:=q.o.lt.2;clear G;have⟨x,y,z,A,B,C,D,E,F⟩:=kL q.o.2.1;go_wp21;apply(lU r a l U<|Q.o.ku q.o.1).M;rintro V ao ⟨rfl,rfl⟩;go_wp21;apply(mn r a b l ao (Q.o.ku q.o.1) ah.o).M;rintro V aa ⟨rfl,ap⟩;have u:=X<|q.o.ku ap;have aF:=u.o.lt.1;have aG:=u.o.lt.2;have⟨x,y,z,A,B,C,D,E,F⟩:=kL u.o.2.1;have aH:(f:Int)<=9223372036854775807:=W ai.o
 have⟨I,J⟩:=Xq<|qs (kF l) a b;rw[<-J];have aI:=X J;clear J;have⟨aJ,K⟩:=Xq<|ot (kF l) a;rw[<-K];have aK:=X K;clear K;go_upto_region 6 with fail;go_cut [8] (λaq ar=>aq=.bool (I&&decide ((f:Int)<=4))/\aa=ar)
 .cases I
  .go_wp2_with fail;go_meet;exact⟨Z,Z⟩
  go_wp21;go_meet;exact⟨Ux,Z⟩
 obtain⟨rfl,rfl⟩:=hcut;have⟨aL,L⟩:=Xq<|I&&decide ((f:Int)<=4);rw[<-L];have aM:=X L;clear L;go_wp21;apply(lW ⟨d,a,7,j,e,k,b,c,p⟩ m f n aa).M;rw[P.o];rintro V aN ⟨rfl,au⟩;have v:=X<|u.o.ku au;have aO:=v.o.lt.1;have aP:=v.o.lt.2;have⟨x,y,z,A,B,C,D,E,F⟩:=kL v.o.2.1;go_wp21;go_ret;exact⟨vF aj.o ag.o,v.o.1⟩
def CK(G g)(c a:Int)(i d j b:Int)(l)(e m:Nat)(n)(s:Nat)(p)(q:nH g s p)(ag:mi p)(P:kz lL G g (.slice l e m) n)(ah:∀Q,G Q->Q<g)(ai:e<=9223372036854775807):
  Calls prog 22 #[.agg<|EC c a 7 i d j b 6<|.slice l e m,.pointer s] g (kG (.bool<|valid (kF p) ⟨c,a,7,i,d,j,b,6,n⟩) g):=by
 have aj:=X P.len.1;have R:=X q;have ak:=X ag;have al:=X P;have am:=X ah;have S:=X ai;clear q;have⟨aG,I⟩:=Xq<|valid (kF p) ⟨c,a,7,i,d,j,b,6,n⟩;rw[<-I];have t:=X I;clear I;have an:=X<|boxes g (EC c a 7 i d j b 6<|.slice l e m)<|EC c a 7 0 d 0 b 0<|.slice l e m
 go_enter func22,ntmps22
 go_upto_region 2 with fail;have k:=an.o;have⟨ao,T⟩:=Xq<|(g.alloc<|.cells (EC c a 7 i d j b 6<|.slice l e m) 38).alloc<|Of c a d b l e m;rw[<-T]at k⊢;clear T;have⟨u,U⟩:=Xq g.heap.size;rw[<-U]at k⊢;have⟨v,V⟩:=Xq<|u+1;rw[<-V]at k⊢;have ap:u≠v:=Y
 have aq:=X<|show g<=u/\g<=v from⟨Y,Y⟩;clear U V;replace k:=X k;have aH:=k.o.lt.1;have aI:=k.o.lt.2;have ar:=kt k.o.2.2 7;have aJ:=kx k.o.2.2 7;have⟨w,x,y,z,A,B,C,D,E⟩:=kL k.o.2.1;go_upto_region 4 with fail;have⟨aa,J⟩:=Xq<|ao.setCell (uc v)<|.int .i64 6;have r:=X (show uo g u v (EC c a 7 i d j b 6<|.slice l e m) (EC c a 7 0 d 0 b 6<|.slice l e m) aa from by rw[J];exact k.o.set aq.o.2 ap 7 _);rw[<-J];have aK:=r.o.lt.1;have aL:=r.o.lt.2;clear J;have⟨w,x,y,z,A,B,C,D,E⟩:=kL r.o.2.1;go_wp21;apply(lU s a p aa<|R.o.ku r.o.1).M;rintro K au ⟨rfl,rfl⟩;go_wp21;apply(mn s a b p au (R.o.ku r.o.1) ak.o).M;rintro K ab ⟨rfl,av⟩;have F:=X<|r.o.ku av;have aM:=F.o.lt.1;have aN:=F.o.lt.2;have⟨w,x,y,z,A,B,C,D,E⟩:=kL F.o.2.1;have aO:(e:Int)<=9223372036854775807:=W S.o
 have⟨L,M⟩:=Xq<|qs (kF p) a b;rw[<-M];have aw:=X M;clear M;have⟨aP,N⟩:=Xq<|ot (kF p) a;rw[<-N];have aQ:=X N;clear N;go_upto_region 6 with fail;go_cut [8] (λax ay=>ax=.bool (L&&decide ((e:Int)<=4))/\ab=ay)
 .cases L
  .go_wp2_with fail;go_meet;exact⟨Z,Z⟩
  go_wp21;go_meet;exact⟨Ux,Z⟩
 obtain⟨rfl,rfl⟩:=hcut;have⟨az,O⟩:=Xq<|L&&decide ((e:Int)<=4);rw[<-O];have aA:=X O;clear O;go_wp21;apply(lW ⟨c,a,7,i,d,j,b,6,n⟩ l e m ab).M;rw[show arr ⟨c,a,7,i,d,j,b,6,n⟩=6 from Z];rintro K aB ⟨rfl,aC⟩;have f:=X<|F.o.ku aC;have aR:=f.o.lt.1;have aS:=f.o.lt.2;have⟨w,x,y,z,A,B,C,D,E⟩:=kL f.o.2.1;go_upto_region 39 with fail;have⟨ac,q⟩:=Xq az;rw[<-q];have ad:=X (show ac=fits (kF p) ⟨c,a,7,i,d,j,b,6,n⟩from by rw[q,aA.o,aw.o,show decide ((e:Int)<=4)=decide (n.length<=4)from by rw[aj.o];exact RL.2 Y];rfl);clear q;have aT:=f.o.lt.1;have aU:=f.o.lt.2;have⟨w,x,y,z,A,B,C,D,E⟩:=kL f.o.2.1;cases ac with
 |false=>go_wp21;go_ret;exact⟨vF t.o ad.o.symm,f.o.1⟩
 |true=>
  have⟨aV,aW,aX,aY,aZ,ba,bb,ar,bc⟩:=kL f.o.2.2;have aD:=X<|show fits (kF p) ⟨c,a,7,i,d,j,b,6,n⟩=true from ad.o.symm;by_cases ae:0<=c
  .by_cases af:0<=d
   .go_wp2_with fail;apply(uu G aB f.o.1 ⟨c,a,7,i,d,j,b,6,n⟩ ⟨c,a,7,0,d,0,b,6,n⟩ l e m al.o am.o S.o Z).M;rintro K bd ⟨rfl,aE⟩;have aF:=X aE;go_wp21;go_ret;exact⟨vT t.o aD.o ae af Z,f.o.1.T<|aF.o.M f.o.1.size⟩
   go_wp21;go_ret;exact⟨vN t.o af,f.o.1⟩
  go_wp21;go_ret;exact⟨vM t.o ae,f.o.1⟩
def CL(af l)(i b:Int)(e j a d:Int)(t)(g u:Nat)(m)(T:Nat)(k)(aB:nH l T k)(aC:mi k)(f:kz lL af l (.slice t g u) m)(aD:∀aE,af aE->aE<l)(aF:g<=9223372036854775807):
  Calls prog 22 #[.agg<|EC i b 7 e j a d 5<|.slice t g u,.pointer T] l (kG (.bool<|valid (kF k) ⟨i,b,7,e,j,a,d,5,m⟩) l):=by
 have U:=X f.len.1;have aj:=X aB;have D:=X aC;have aG:=X f;have aH:=X aD;have ak:=X aF;clear aB aC f aD aF;have⟨bs,al⟩:=Xq<|valid (kF k) ⟨i,b,7,e,j,a,d,5,m⟩;rw[<-al];have E:=X al;clear al;have aI:=X<|boxes l (EC i b 7 e j a d 5<|.slice t g u)<|EC i b 7 0 j 0 d 0<|.slice t g u
 go_enter func22,ntmps22
 go_upto_region 2 with fail;have B:=aI.o;have⟨aT,aJ⟩:=Xq<|(l.alloc<|.cells (EC i b 7 e j a d 5<|.slice t g u) 38).alloc<|Of i b j d t g u;rw[<-aJ]at B⊢;clear aJ aI;have⟨z,aK⟩:=Xq l.heap.size;rw[<-aK]at B⊢;have⟨A,aL⟩:=Xq<|z+1;rw[<-aL]at B⊢;have am:z≠A:=Y
 have an:=X<|show l<=z/\l<=A from⟨Y,Y⟩;clear aK aL;replace B:=X B;have bt:=B.o.lt.1;have bu:=B.o.lt.2;have ao:=kt B.o.2.2 7;have aU:=kx B.o.2.2 7;have⟨F,G,I,J,K,L,M,N,O⟩:=kL B.o.2.1;go_upto_region 4 with fail;have⟨aM,n⟩:=Xq<|aT.setCell (uc A)<|.int .i64 5;have Q:=X (show uo l z A (EC i b 7 e j a d 5<|.slice t g u) (EC i b 7 0 j 0 d 5<|.slice t g u) aM from by rw[n];exact B.o.set an.o.2 am 7 _);rw[<-n];have bv:=Q.o.lt.1;have bw:=Q.o.lt.2;clear n ao aU;clear F G I J K L M N O;have⟨F,G,I,J,K,L,M,N,O⟩:=kL Q.o.2.1;go_wp21;apply(lU T b k aM<|aj.o.ku Q.o.1).M;rintro V aV ⟨rfl,rfl⟩;go_wp21;apply(mn T b d k aV (aj.o.ku Q.o.1) D.o).M;rintro V aN ⟨rfl,aO⟩;have ag:=X<|Q.o.ku aO;have bx:=ag.o.lt.1;have bz:=ag.o.lt.2;clear aO;clear F G I J K L M N O;have⟨F,G,I,J,K,L,M,N,O⟩:=kL ag.o.2.1;have bA:(g:Int)<=9223372036854775807:=W ak.o
 have⟨ap,aq⟩:=Xq<|qs (kF k) b d;rw[<-aq];have aa:=X aq;clear aq;have⟨bB,ar⟩:=Xq<|ot (kF k) b;rw[<-ar];have bC:=X ar;clear ar;go_upto_region 6 with fail;go_cut [8] (λaW aX=>aW=.bool (ap&&decide ((g:Int)<=4))/\aN=aX)
 .cases ap
  .go_wp2_with fail;go_meet;exact⟨Z,Z⟩
  go_wp21;go_meet;exact⟨Ux,Z⟩
 obtain⟨rfl,rfl⟩:=hcut;have⟨aY,au⟩:=Xq<|ap&&decide ((g:Int)<=4);rw[<-au];have ab:=X au;clear au;go_wp21;apply(lW ⟨i,b,7,e,j,a,d,5,m⟩ t g u aN).M;rw[show arr ⟨i,b,7,e,j,a,d,5,m⟩=5 from Z];rintro V bD ⟨rfl,aP⟩;have ah:=X<|ag.o.ku aP;have bE:=ah.o.lt.1;have bF:=ah.o.lt.2;clear aP;clear F G I J K L M N O;have⟨F,G,I,J,K,L,M,N,O⟩:=kL ah.o.2.1;clear F G I J K L M N O;go_upto_region 21 with fail;refine mU (λC aZ=>uo l z A (EC i b 7 e j a d 5<|.slice t g u) (EC i b 7 (if C 5=true then e else 0) j (if C 7=true then a else 0) d 5<|.slice t g u) aZ) (mM [(Pp z 3),(·=e),(Pp z 5),(·=a),(Pp A 3),Tr,(Pp A 5),Tr]) [] Up Up 248 Z Up (ah.o.drew) ⟨?_,?_,?_,?_,?_,?_,?_,?_,trivial⟩ ?_;intro C r l v w x c p f s n;have ba:=lu<|show r.eval (.tmp 2)=.pointer z from p 2 Z;clear p f s n w x v;refine kB.lF λP y=>?_;unfold kB;go_simp;exact y _ _ ⟨Z,c,Qe⟩;intro C r l v w x c p f s n;have bG:=lu<|show r.eval (.tmp 116)=.pointer (BE z)from f 0 _ Z Z;clear p f s n w x v;have bb:=kt c.2.1 3;have D:=X c;clear c;refine kB.lF λP y=>?_;unfold kB;go_simp;exact y _ _ ⟨Z,D.o,Qe⟩;intro C r l v w x c p f s n;have ba:=lu<|show r.eval (.tmp 2)=.pointer z from p 2 Z;clear p f s n w x v;refine kB.lF λP y=>?_;unfold kB;go_simp;exact y _ _ ⟨Z,c,Qe⟩;intro C r l v w x c p f s n;have bH:=lu<|show r.eval (.tmp 118)=.pointer (BT z)from f 2 _ Z Z;clear p f s n w x v;have bb:=kt c.2.1 5;have D:=X c;clear c;refine kB.lF λP y=>?_;unfold kB;go_simp;exact y _ _ ⟨Z,D.o,Qe⟩;intro C r l v w x c p f s n;have bc:=lu<|show r.eval (.tmp 5)=.pointer A from p 5 Z;clear p f s n w x v;refine kB.lF λP y=>?_;unfold kB;go_simp;exact y _ _ ⟨Z,c,Qe⟩;intro C r l v w x c p f s n;have bI:=lu<|show r.eval (.tmp 120)=.pointer (BE A)from f 4 _ Z Z;have bJ:=lu<|show r.eval (.tmp 117)=.int .i64 e from f 1 _ Z Z;clear p f s n w x v;have bd:=kt c.2.2 3;have be:=kx c.2.2 3;have bf:=c.lt.2;have D:=X c;clear c;refine kB.lF λP y=>?_;unfold kB;go_simp;exact y _ _ ⟨trivial,(D.o.set an.o.2 am 3 _),Qe⟩;intro C r l v w x c p f s n;have bc:=lu<|show r.eval (.tmp 5)=.pointer A from p 5 Z;clear p f s n w x v;refine kB.lF λP y=>?_;unfold kB;go_simp;exact y _ _ ⟨Z,c,Qe⟩;intro C r l v w x c p f s n;have bK:=lu<|show r.eval (.tmp 121)=.pointer (BT A)from f 6 _ Z Z;have bL:=lu<|show r.eval (.tmp 119)=.int .i64 a from f 3 _ Z Z;clear p f s n w x v;have bd:=kt c.2.2 5;have be:=kx c.2.2 5;have bf:=c.lt.2;have D:=X c;clear c;refine kB.lF λP y=>?_;unfold kB;go_simp;exact y _ _ ⟨trivial,(D.o.set an.o.2 am 5 _),Qe⟩;intro C bM aQ av c f s;have q:=X (show uo l z A (EC i b 7 e j a d 5<|.slice t g u) (EC i b 7 e j a d 5<|.slice t g u) aQ from by have aR:=c;simp only[av 5 Un,av 7 Un,T4]at aR;exact aR);clear c f s av;simp only[nx];have bN:=q.o.lt.1;have bO:=q.o.lt.2;have⟨F,G,I,J,K,L,M,N,O⟩:=kL q.o.2.1;cases aY
 .go_wp2_with fail;go_ret;exact⟨vF E.o (by show((qs (kF k) b d&&decide (m.length<=4))&&(ot (kF k) e&&(decide (a=0)||decide (a=1))))=false;rw[<-aa.o,(show decide (m.length<=4)=decide ((g:Int)<=4)from by rw[U.o];exact RL.2 Y),<-ab.o];rfl),q.o.1⟩
 go_wp21;apply(lU T e k aQ<|aj.o.ku q.o.1).M;rintro V aS ⟨rfl,rfl⟩;have⟨bg,aw⟩:=Xq<|ot (kF k) e;rw[<-aw];have ai:=X aw;clear aw;cases bg
 .go_wp2_with fail;go_ret;exact⟨vF E.o (by show((qs (kF k) b d&&decide (m.length<=4))&&(ot (kF k) e&&(decide (a=0)||decide (a=1))))=false;rw[<-aa.o,(show decide (m.length<=4)=decide ((g:Int)<=4)from by rw[U.o];exact RL.2 Y),<-ab.o,<-ai.o];rfl),q.o.1⟩
 by_cases R:a=0
 .have bh:(a==0)=true:=(by rw[R];rfl);have ax:=X R;clear R;have⟨bi,bj,bk,bl,bm,bn,bo,ao,bp⟩:=kL q.o.2.2;have ay:=X (show fits (kF k) ⟨i,b,7,e,j,a,d,5,m⟩=true from by show((qs (kF k) b d&&decide (m.length<=4))&&(ot (kF k) e&&(decide (a=0)||decide (a=1))))=true;rw[<-aa.o,(show decide (m.length<=4)=decide ((g:Int)<=4)from by rw[U.o];exact RL.2 Y),<-ab.o,<-ai.o,Sk ax.o];rfl);by_cases ac:0<=i
  .by_cases ad:0<=j
   .go_wp2_with fail;apply(uu af aS q.o.1 ⟨i,b,7,e,j,a,d,5,m⟩ ⟨i,b,7,e,j,a,d,5,m⟩ t g u aG.o aH.o ak.o Z).M;rintro V bq ⟨rfl,ae⟩;have az:=X ae;clear ae;go_wp21;go_ret;exact⟨vT E.o ay.o ac ad Z,q.o.1.T<|az.o.M q.o.1.size⟩
   go_wp21;go_ret;exact⟨vN E.o ad,q.o.1⟩
  go_wp21;go_ret;exact⟨vM E.o ac,q.o.1⟩
 have bh:(a==0)=false:=(by rw[QW];exact R);have ax:=X R;clear R;by_cases S:a=1
 .have br:(a==1)=true:=(by rw[S];rfl);have aA:=X S;clear S;have⟨bi,bj,bk,bl,bm,bn,bo,ao,bp⟩:=kL q.o.2.2;have ay:=X (show fits (kF k) ⟨i,b,7,e,j,a,d,5,m⟩=true from by show((qs (kF k) b d&&decide (m.length<=4))&&(ot (kF k) e&&(decide (a=0)||decide (a=1))))=true;rw[<-aa.o,(show decide (m.length<=4)=decide ((g:Int)<=4)from by rw[U.o];exact RL.2 Y),<-ab.o,<-ai.o,Sk aA.o];simp);by_cases ac:0<=i
  .by_cases ad:0<=j
   .go_wp2_with fail;apply(uu af aS q.o.1 ⟨i,b,7,e,j,a,d,5,m⟩ ⟨i,b,7,e,j,a,d,5,m⟩ t g u aG.o aH.o ak.o Z).M;rintro V bq ⟨rfl,ae⟩;have az:=X ae;clear ae;go_wp21;go_ret;exact⟨vT E.o ay.o ac ad Z,q.o.1.T<|az.o.M q.o.1.size⟩
   go_wp21;go_ret;exact⟨vN E.o ad,q.o.1⟩
  go_wp21;go_ret;exact⟨vM E.o ac,q.o.1⟩
 have br:(a==1)=false:=(by rw[QW];exact S);have aA:=X S;clear S;go_wp21;go_ret;exact⟨vF E.o (by show((qs (kF k) b d&&decide (m.length<=4))&&(ot (kF k) e&&(decide (a=0)||decide (a=1))))=false;rw[<-aa.o,(show decide (m.length<=4)=decide ((g:Int)<=4)from by rw[U.o];exact RL.2 Y),<-ab.o,<-ai.o,Sp ax.o,Sp aA.o];rfl),q.o.1⟩
def En(am m)(t e:Int)(j u J v c:Int)(L)(G M:Nat)(S)(U:Nat)(g)(aN:nH m U g)(aO:mi g)(d:kz lL am m (.slice L G M) S)(aP:∀aQ,am aQ->aQ<m)(aR:G<=9223372036854775807):
  Calls prog 22 #[.agg<|EC t e 1 j u J v c<|.slice L G M,.pointer<|some ⟨U,0,none⟩] m (kG (.bool<|valid (kF g) ⟨t,e,1,j,u,J,v,c,S⟩) m):=by
 have bz:=X d.len.1;have au:=X aN;have K:=X aO;have aS:=X d;have aT:=X aP;have av:=X aR;clear aN aO d aP aR;have⟨bA,aw⟩:=Xq<|valid (kF g) ⟨t,e,1,j,u,J,v,c,S⟩;rw[<-aw];have Q:=X aw;clear aw;have aU:=X<|boxes m (EC t e 1 j u J v c<|.slice L G M)<|EC t e 1 0 u 0 v 0<|.slice L G M
 go_enter func22,ntmps22
 go_upto_region 2 with fail;have N:=aU.o;have⟨be,aV⟩:=Xq<|(m.alloc<|.cells (EC t e 1 j u J v c<|.slice L G M) 38).alloc<|.cells (EC t e 1 0 u 0 v 0<|.slice L G M) 38;rw[<-aV]at N⊢;clear aV aU;have⟨O,aW⟩:=Xq m.heap.size;rw[<-aW]at N⊢;have⟨I,aX⟩:=Xq<|O+1;rw[<-aX]at N⊢;have an:O≠I:=Y
 have ao:=X<|show m<=O/\m<=I from⟨Y,Y⟩;clear aW aX;replace N:=X N;have bB:=N.o.lt.1;have bC:=N.o.lt.2;have⟨w,x,y,z,A,B,C,D,E⟩:=kL N.o.2.1;go_wp21;refine(lU U e g be<|au.o.ku N.o.1).M ?_;rintro V bf ⟨rfl,rfl⟩;go_wp21;refine(mn U e v g bf (au.o.ku N.o.1) K.o).M ?_;rintro V aY ⟨rfl,aZ⟩;have ap:=X<|N.o.ku aZ;have bD:=ap.o.lt.1;have bE:=ap.o.lt.2;clear aZ;clear w x y z A B C D E;have⟨w,x,y,z,A,B,C,D,E⟩:=kL ap.o.2.1;have bF:(G:Int)<=9223372036854775807:=W av.o
 have⟨ax,ay⟩:=Xq<|qs (kF g) e v;rw[<-ay];have bG:=X ay;clear ay;have⟨bH,az⟩:=Xq<|ot (kF g) e;rw[<-az];have bI:=X az;clear az;go_upto_region 6 with fail;go_cut [8] (λbg bh=>bg=.bool (ax&&decide ((G:Int)<=4))/\aY=bh);case first=>
  cases ax
  .go_wp2_with fail;go_meet;exact⟨Z,Z⟩
  go_wp21;go_meet;exact⟨Ux,Z⟩
 case rest=>
  obtain⟨rfl,rfl⟩:=hcut;have⟨bJ,aA⟩:=Xq<|ax&&decide ((G:Int)<=4);rw[<-aA];have bK:=X aA;clear aA;go_wp21;refine(lW ⟨t,e,1,j,u,J,v,c,S⟩ L G M aY).M ?_;rw[show arr ⟨t,e,1,j,u,J,v,c,S⟩=1 from Z];rintro V bL ⟨rfl,ba⟩;have aq:=X<|ap.o.ku ba;have bM:=aq.o.lt.1;have bN:=aq.o.lt.2;clear ba;clear w x y z A B C D E;have⟨w,x,y,z,A,B,C,D,E⟩:=kL aq.o.2.1;clear w x y z A B C D E;go_upto_region 10 with fail;refine mU (λF bi=>uo m O I (EC t e 1 j u J v c<|.slice L G M) (EC t e 1 (if F 5=true then j else 0) u 0 (if F 9=true then 0 else v) (if F 7=true then c else 0) (if F 11=true then Nl else .slice L G M)) bi) (mM [(Pp O 3),(·=j),(Pp O 7),(·=c),(Pp I 3),Tr,(Pp I 7),Tr,(Pp I 6),Tr,(Pp I 8),Tr]) [] Up Up 248 Z Up (aq.o.drew) ⟨?_,?_,?_,?_,?_,?_,?_,?_,?_,?_,?_,?_,trivial⟩ ?_;intro F k m n p q a i d l r;have bj:=lu<|show k.eval (.tmp 2)=.pointer (some ⟨O,0,none⟩)from i 2 Z;clear i d l r p q n;refine kB.lF λP s=>?_;unfold kB;go_simp;exact s _ _ ⟨Z,a,Qe⟩;intro F k m n p q a i d l r;have bO:=lu<|show k.eval (.tmp 53)=.pointer (some ⟨O,3,none⟩)from d 0 _ Z Z;clear i d l r p q n;have bk:=kA a.2.1 3 _ Z;have K:=X a;clear a;refine kB.lF λP s=>?_;unfold kB;go_simp;exact s _ _ ⟨Z,K.o,Qe⟩;intro F k m n p q a i d l r;have bj:=lu<|show k.eval (.tmp 2)=.pointer (some ⟨O,0,none⟩)from i 2 Z;clear i d l r p q n;refine kB.lF λP s=>?_;unfold kB;go_simp;exact s _ _ ⟨Z,a,Qe⟩;intro F k m n p q a i d l r;have bP:=lu<|show k.eval (.tmp 55)=.pointer (some ⟨O,7,none⟩)from d 2 _ Z Z;clear i d l r p q n;have bk:=kA a.2.1 7 _ Z;have K:=X a;clear a;refine kB.lF λP s=>?_;unfold kB;go_simp;exact s _ _ ⟨Z,K.o,Qe⟩;intro F k m n p q a i d l r;have aB:=lu<|show k.eval (.tmp 5)=.pointer (some ⟨I,0,none⟩)from i 5 Z;clear i d l r p q n;refine kB.lF λP s=>?_;unfold kB;go_simp;exact s _ _ ⟨Z,a,Qe⟩;intro F k m n p q a i d l r;have bQ:=lu<|show k.eval (.tmp 57)=.pointer (some ⟨I,3,none⟩)from d 4 _ Z Z;have bR:=lu<|show k.eval (.tmp 54)=.int .i64 j from d 1 _ Z Z;clear i d l r p q n;have aC:=kA a.2.2 3 _ Z;have aD:=kx a.2.2 3;have aE:=a.lt.2;have K:=X a;clear a;refine kB.lF λP s=>?_;unfold kB;go_simp;exact s _ _ ⟨trivial,(K.o.set ao.o.2 an 3 _),Qe⟩;intro F k m n p q a i d l r;have aB:=lu<|show k.eval (.tmp 5)=.pointer (some ⟨I,0,none⟩)from i 5 Z;clear i d l r p q n;refine kB.lF λP s=>?_;unfold kB;go_simp;exact s _ _ ⟨Z,a,Qe⟩;intro F k m n p q a i d l r;have bS:=lu<|show k.eval (.tmp 58)=.pointer (some ⟨I,7,none⟩)from d 6 _ Z Z;have bT:=lu<|show k.eval (.tmp 56)=.int .i64 c from d 3 _ Z Z;clear i d l r p q n;have aC:=kA a.2.2 7 _ Z;have aD:=kx a.2.2 7;have aE:=a.lt.2;have K:=X a;clear a;refine kB.lF λP s=>?_;unfold kB;go_simp;exact s _ _ ⟨trivial,(K.o.set ao.o.2 an 7 _),Qe⟩;intro F k m n p q a i d l r;have aB:=lu<|show k.eval (.tmp 5)=.pointer (some ⟨I,0,none⟩)from i 5 Z;clear i d l r p q n;refine kB.lF λP s=>?_;unfold kB;go_simp;exact s _ _ ⟨Z,a,Qe⟩;intro F k m n p q a i d l r;have bU:=lu<|show k.eval (.tmp 59)=.pointer (some ⟨I,6,none⟩)from d 8 _ Z Z;clear i d l r p q n;have aC:=kA a.2.2 6 _ Z;have aD:=kx a.2.2 6;have aE:=a.lt.2;have K:=X a;clear a;refine kB.lF λP s=>?_;unfold kB;go_simp;exact s _ _ ⟨trivial,(K.o.set ao.o.2 an 6 _),Qe⟩;intro F k m n p q a i d l r;have aB:=lu<|show k.eval (.tmp 5)=.pointer (some ⟨I,0,none⟩)from i 5 Z;clear i d l r p q n;refine kB.lF λP s=>?_;unfold kB;go_simp;exact s _ _ ⟨Z,a,Qe⟩;intro F k m n p q a i d l r;have bV:=lu<|show k.eval (.tmp 60)=.pointer (some ⟨I,8,none⟩)from d 10 _ Z Z;clear i d l r p q n;have aC:=kA a.2.2 8 _ Z;have aD:=kx a.2.2 8;have aE:=a.lt.2;have K:=X a;clear a;refine kB.lF λP s=>?_;unfold kB;go_simp;exact s _ _ ⟨trivial,(K.o.set ao.o.2 an 8 _),Qe⟩;intro F bW f ag a d l;have R:=X (show uo m O I (EC t e 1 j u J v c<|.slice L G M) (EC t e 1 j u 0 0 c Nl) f from by have bb:=a;simp only[ag 5 Un,ag 7 Un,ag 9 Un,ag 11 Un,T4]at bb;exact bb);clear a d l ag;simp only[lz,Act.put,Rk,RA,Rx];have bX:=R.o.lt.1;have bY:=R.o.lt.2;have⟨w,x,y,z,A,B,C,D,E⟩:=kL R.o.2.1;have aF:=au.o.ku R.o.1;have ab:=X<|show∀T:Nat,Calls prog 17 #[.pointer<|some ⟨U,0,none⟩] (f.drewN T) λV aG=>V=.returned (.int .i64 (g.kH.length:Int))/\aG=f.drewN T from λT=>og U g (f.drewN T)<|aF.ku ⟨Z,Z,Z,QX _,λ_ _=>Z⟩;have ac:=X<|show∀T:Nat,Calls prog 42 #[.pointer<|some ⟨U,0,none⟩] (f.drewN T) λV aG=>V=.returned (.int .i64 (g.kQ.length:Int))/\aG=f.drewN T from λT=>vw U g (f.drewN T)<|aF.ku ⟨Z,Z,Z,QX _,λ_ _=>Z⟩;clear aF;go_upto_region 11 with fail;by_cases ad:e=(g.kH.length:Int)
  .have bl:(e==(g.kH.length:Int))=true:=(by rw[ad];simp);have ar:=X ad;clear ad;by_cases bc:0<=j
   .have aH:=X bc;by_cases bd:j<(g.kQ.length:Int)
    .have aI:=X bd;by_cases ae:c=0
     .have bm:(c==0)=true:=(by rw[ae];rfl);have aJ:=X ae;clear ae;go_quiet ((first|(go_at_call 17;exact RX<|ab.o _)|(go_at_call 42;exact RX<|ac.o _)));have b:=X<|R.o.ku<|show Below f f (f.drewN nq)from⟨Z,Z,Z,QX _,λ_ _=>Z⟩;have ah:=b.o.lt.1;have ai:=b.o.lt.2;clear w x y z A B C D E;generalize f.drewN nq=aa at*;have⟨w,x,y,z,A,B,C,D,E⟩:=kL b.o.2.1;have⟨bn,bo,bp,bq,br,bs,bt,bu,bv⟩:=kL b.o.2.2;have aK:=X (show fits (kF g) ⟨t,e,1,j,u,J,v,c,S⟩=true from by show(decide (e=((g.kH.map (·.name)).length:Int))&&(CV (kF g) j&&(decide (c=0)||decide (c=1))))=true;rw[RN];simp[CV,kF,ar.o,aH.o,aI.o,aJ.o]);by_cases aj:0<=t
      .by_cases ak:0<=u
       .go_wp2_with fail;refine(Hv am aa b.o.1 ⟨t,e,1,j,u,J,v,c,S⟩ ⟨t,e,1,j,u,0,0,c,[]⟩ L G M aS.o aT.o av.o Z).M ?_;rintro V bw ⟨rfl,al⟩;have aL:=X al;clear al;go_wp21;go_ret;exact⟨vT Q.o aK.o aj ak Z,b.o.1.T<|aL.o.M b.o.1.size⟩
       go_wp21;go_ret;exact⟨vN Q.o ak,b.o.1⟩
      go_wp21;go_ret;exact⟨vM Q.o aj,b.o.1⟩
     have bm:(c==0)=false:=(by rw[QW];exact ae);have aJ:=X ae;clear ae;by_cases af:c=1
     .have bx:(c==1)=true:=(by rw[af];rfl);have aM:=X af;clear af;go_quiet ((first|(go_at_call 17;exact RX<|ab.o _)|(go_at_call 42;exact RX<|ac.o _)));have b:=X<|R.o.ku<|show Below f f (f.drewN nq)from⟨Z,Z,Z,QX _,λ_ _=>Z⟩;have ah:=b.o.lt.1;have ai:=b.o.lt.2;clear w x y z A B C D E;generalize f.drewN nq=aa at*;have⟨w,x,y,z,A,B,C,D,E⟩:=kL b.o.2.1;have⟨bn,bo,bp,bq,br,bs,bt,bu,bv⟩:=kL b.o.2.2;have aK:=X (show fits (kF g) ⟨t,e,1,j,u,J,v,c,S⟩=true from by show(decide (e=((g.kH.map (·.name)).length:Int))&&(CV (kF g) j&&(decide (c=0)||decide (c=1))))=true;rw[RN];simp[CV,kF,ar.o,aH.o,aI.o,aM.o]);by_cases aj:0<=t
      .by_cases ak:0<=u
       .go_wp2_with fail;refine(Hv am aa b.o.1 ⟨t,e,1,j,u,J,v,c,S⟩ ⟨t,e,1,j,u,0,0,c,[]⟩ L G M aS.o aT.o av.o Z).M ?_;rintro V bw ⟨rfl,al⟩;have aL:=X al;clear al;go_wp21;go_ret;exact⟨vT Q.o aK.o aj ak Z,b.o.1.T<|aL.o.M b.o.1.size⟩
       go_wp21;go_ret;exact⟨vN Q.o ak,b.o.1⟩
      go_wp21;go_ret;exact⟨vM Q.o aj,b.o.1⟩
     have bx:(c==1)=false:=(by rw[QW];exact af);have aM:=X af;clear af;go_quiet ((first|(go_at_call 17;exact RX<|ab.o _)|(go_at_call 42;exact RX<|ac.o _)));have b:=X<|R.o.ku<|show Below f f (f.drewN nq)from⟨Z,Z,Z,QX _,λ_ _=>Z⟩;have ah:=b.o.lt.1;have ai:=b.o.lt.2;clear w x y z A B C D E;generalize f.drewN nq=aa at*;have⟨w,x,y,z,A,B,C,D,E⟩:=kL b.o.2.1;go_wp21;go_ret;exact⟨vF Q.o (by show(decide (e=((g.kH.map (·.name)).length:Int))&&(CV (kF g) j&&(decide (c=0)||decide (c=1))))=false;rw[RN];simp[CV,kF,aJ.o,aM.o]),b.o.1⟩
    have aI:=X bd;go_quiet ((first|(go_at_call 17;exact RX<|ab.o _)|(go_at_call 42;exact RX<|ac.o _)));have b:=X<|R.o.ku<|show Below f f (f.drewN nq)from⟨Z,Z,Z,QX _,λ_ _=>Z⟩;have ah:=b.o.lt.1;have ai:=b.o.lt.2;clear w x y z A B C D E;generalize f.drewN nq=aa at*;have⟨w,x,y,z,A,B,C,D,E⟩:=kL b.o.2.1;go_wp21;go_ret;exact⟨vF Q.o (by show(decide (e=((g.kH.map (·.name)).length:Int))&&(CV (kF g) j&&(decide (c=0)||decide (c=1))))=false;rw[RN];simp[CV,kF];intros;omega),b.o.1⟩
   have aH:=X bc;go_quiet ((first|(go_at_call 17;exact RX<|ab.o _)|(go_at_call 42;exact RX<|ac.o _)));have b:=X<|R.o.ku<|show Below f f (f.drewN nq)from⟨Z,Z,Z,QX _,λ_ _=>Z⟩;have ah:=b.o.lt.1;have ai:=b.o.lt.2;clear w x y z A B C D E;generalize f.drewN nq=aa at*;have⟨w,x,y,z,A,B,C,D,E⟩:=kL b.o.2.1;go_wp21;go_ret;exact⟨vF Q.o (by show(decide (e=((g.kH.map (·.name)).length:Int))&&(CV (kF g) j&&(decide (c=0)||decide (c=1))))=false;rw[RN];simp[CV,kF];intros;omega),b.o.1⟩
  have bl:(e==(g.kH.length:Int))=false:=(by rw[QW];exact ad);have ar:=X ad;clear ad;go_quiet ((first|(go_at_call 17;exact RX<|ab.o _)|(go_at_call 42;exact RX<|ac.o _)));have b:=X<|R.o.ku<|show Below f f (f.drewN nq)from⟨Z,Z,Z,QX _,λ_ _=>Z⟩;have ah:=b.o.lt.1;have ai:=b.o.lt.2;clear w x y z A B C D E;generalize f.drewN nq=aa at*;have⟨w,x,y,z,A,B,C,D,E⟩:=kL b.o.2.1;go_wp21;go_ret;exact⟨vF Q.o (by show(decide (e=((g.kH.map (·.name)).length:Int))&&(CV (kF g) j&&(decide (c=0)||decide (c=1))))=false;rw[RN];simp[CV,kF,ar.o]),b.o.1⟩
def Eo(d a)(e f:Int)(w:Nat)(g i j k l:Int)(m)(b n:Nat)(p)(q:Nat)(c)(r:nH a q c)(s:mi c)(t:kz lL d a (.slice m b n) p)(u:∀x,d x->x<a)(v:b<=9223372036854775807):
  Calls prog 22 #[.agg<|me e f w g i j k l m b n,.pointer q] a (kG (.bool<|valid (kF c) ⟨e,f,w,g,i,j,k,l,p⟩) a):=by
 by_cases B:w=1
 .subst B;exact En d a e f g i j k l m b n p q c r s t u v
 by_cases C:w=2
 .subst C;exact Eg d a e f g i j k l m b n p q c r s t u v
 by_cases D:w=3
 .subst D;exact Ed d a e f g i j k l m b n p q c r s t u v
 by_cases E:w=4
 .subst E;exact Ee d a e f g i j k l m b n p q c r s t u v
 by_cases F:w=5
 .subst F;exact Ej d a e f g i j k l m b n p q c r s t u v
 by_cases G:w=6
 .subst G;exact Ef d a e f g i j k l m b n p q c r s t u v
 by_cases I:w=8
 .subst I;exact Ei d a e f g i j k l m b n p q c r s t u v
 by_cases J:w=9
 .subst J;exact Eh d a e f g i j k l m b n p q c r s t u v
 by_cases K:w=10
 .subst K;exact CI d a e f g i j k l m b n p q c r s t u v
 by_cases L:w=11
 .subst L;exact CH d a e f g i j k l m b n p q c r s t u v
 by_cases M:w=7
 .subst M;by_cases y:l=4;subst y;exact CJ d a e f g i j k m b n p q c r s t u v;by_cases z:l=5;subst z;exact CL d a e f g i j k m b n p q c r s t u v;by_cases A:l=6;subst A;exact CK d a e f g i j k m b n p q c r s t u v;exact El d a e f g i j k l m b n p q c r s t u v ⟨y,z,A⟩
 exact Ek d a e f w g i j k l m b n p q c r s t u v Y
def tj{B}(aa d)(b c:Int)(a:Nat)(g e i j f:Int)(q)(n r:Nat)(m)(x:Nat)(l)(ah:nH d x l)(ai:mi l)(aw:kz lL aa d (.slice q n r) m)(ab:∀s,aa s->s<d)(aJ:n<=9223372036854775807)(aj:yo B b)(ax:yo B e)(ay:yo B f)(az:∀aK∈m,yo B aK)(aA:qc B d):
  Calls prog 8 #[.agg<|me b c a g e i j f q n r,.pointer x] d (kG (tx<|line (kF l) ⟨b,c,a,g,e,i,j,f,m⟩) d):=by
 have aL:=Ba d<|.cells (me b c a g e i j f q n r) 38;have C:=X aL;have P:=X<|QQ d<|.cells (me b c a g e i j f q n r) 38;have ac:=X<|show∀k:RW,Below d d k->Calls prog 22 #[.agg<|me b c a g e i j f q n r,.pointer x] k (kG (.bool<|valid (kF l) ⟨b,c,a,g,e,i,j,f,m⟩) k)from λk t=>Eo aa k b c a g e i j f q n r m x l (ah.ku t) ai (aw.kv lL.ok λs A=>t.B s<|ab s A) (λs A=>QO (ab s A) t.size) aJ;have aM:=X<|show fits (kF l) ⟨b,c,a,g,e,i,j,f,m⟩=true->∀k:RW,Below d d k->Calls prog 24 #[.agg<|me b c a g e i j f q n r,.pointer x] k (kG (tx<|told (kF l) ⟨b,c,a,g,e,i,j,f,m⟩) k)from λad k t=>GJ aa k b c a g e i j f q n r m x l (ah.ku t) ai (aw.kv lL.ok λs A=>t.B s<|ab s A) (λs A=>QO (ab s A) t.size) az ax ay ad<|aA.ku t;have aN:=X<|show∀(k:RW),Below d d k->Calls prog 23 #[.pointer x,c] k (kG (tx<|cN (kF l) c) k)from λk t=>vx x c l k<|ah.ku t;have ak:=X<|show∀k:RW,Below d d k->Calls prog 25 #[.int .i64 b] k (kG (tx<|Lib.itoa b) k)from λk t=>vz b aj k<|aA.ku t;have aB:=ai.PR;have aT:=RT b aj.1.1 aj.1.2;have aU:=aB.c c;have aO:=X<|show fits (kF l) ⟨b,c,a,g,e,i,j,f,m⟩=true->(told (kF l) ⟨b,c,a,g,e,i,j,f,m⟩).length<=300 from λaP=>I3 aB aP ax.1 ay.1<|yo.all az;cases Lu:valid (kF l) ⟨b,c,a,g,e,i,j,f,m⟩with
 |false=>
  have al:line (kF l) ⟨b,c,a,g,e,i,j,f,m⟩=[]:=(by unfold line;rw[Lu];rfl);rw[al];rw[Lu]at ac
  go_enter func8,ntmps8
  go_upto_region 1 with fail;have aQ:(d.alloc<|.cells (me b c a g e i j f q n r) 38).heap.size=d+1:=Uo;generalize d.alloc (.cells (me b c a g e i j f q n r) 38)=Q at*;have⟨p,R⟩:=Xq d.heap.size;rw[<-R]at P⊢;have aC:p<Q:=Y;clear R;have⟨D,E,F,G,I,J,K,L,M⟩:=kL P.o;go_wp21;apply(ac.o Q C.o).M;rintro y am ⟨rfl,S⟩;have aR:=X S;go_wp21;go_ret;exact⟨Z,C.o.T<|aR.o.M C.o.size⟩
 |true=>
  have ad:fits (kF l) ⟨b,c,a,g,e,i,j,f,m⟩=true:=by unfold valid at Lu;simp only[R1]at Lu;exact Lu.1
  have an:=X<|aM.o ad;have aV:=aO.o ad;have al:line (kF l) ⟨b,c,a,g,e,i,j,f,m⟩=[116]++(Lib.itoa b++([32]++((if a=1 then [111,112,101,114,97,116,111,114]else cN (kF l) c)++([58,32]++((if a=7 then [100,105,115,99,97,114,100,115,32]else [])++told (kF l) ⟨b,c,a,g,e,i,j,f,m⟩))))):=(by unfold line;rw[Lu];rfl);rw[al];rw[Lu]at ac;generalize told (kF l) ⟨b,c,a,g,e,i,j,f,m⟩=N at*;generalize cN (kF l) c=ae at*;generalize Lib.itoa b=O at*;have⟨aD,ao⟩:=Xq<|[116]++(O++([32]++((if a=1 then [111,112,101,114,97,116,111,114]else ae)++([58,32]++((if a=7 then [100,105,115,99,97,114,100,115,32]else [])++N)))));rw[<-ao];have ap:=X ao;clear ao
  go_enter func8,ntmps8
  go_upto_region 1 with fail;have aQ:(d.alloc<|.cells (me b c a g e i j f q n r) 38).heap.size=d+1:=Uo;generalize d.alloc (.cells (me b c a g e i j f q n r) 38)=Q at*;have⟨p,R⟩:=Xq d.heap.size;rw[<-R]at P⊢;have aC:p<Q:=Y;clear R;have⟨D,E,F,G,I,J,K,L,M⟩:=kL P.o;go_wp21;apply(ac.o Q C.o).M;rintro y am ⟨rfl,S⟩;have aq:=X<|C.o.T<|S.M C.o.size;have aS:p<am:=W S.size;have aE:=X<|(S.B p aC).T P.o;have⟨D,E,F,G,I,J,K,L,M⟩:=kL aE.o;go_wp21;apply(aN.o am aq.o).M;rintro y af ⟨rfl,ar⟩;have w:=X<|aq.o.T<|ar.M aq.o.size;have au:p<af:=W ar.size;have ag:=X<|(ar.B p aS).T aE.o;have⟨D,E,F,G,I,J,K,L,M⟩:=kL ag.o;by_cases aF:a=1
  .subst aF;go_wp21;apply(an.o af w.o).M;rintro y z ⟨rfl,u⟩;have v:=X<|w.o.T<|u.M w.o.size;have aG:p<z:=W u.size;have T:=X<|(u.B p au).T ag.o;have⟨D,E,F,G,I,J,K,L,M⟩:=kL T.o;go_wp21;apply(ak.o z v.o).M;rintro y aH ⟨rfl,U⟩;have V:=X<|v.o.T<|U.M v.o.size;go_wp21;go_ret;refine⟨?_,V.o⟩;have av:aD=[116]++(O++([32]++([111,112,101,114,97,116,111,114]++([58,32]++N)))):=(by rw[ap.o];simp);rw[av];show Ending.returned (.string<|(⟨[116].toArray⟩:Se)++⟨O.toArray⟩++⟨[32].toArray⟩++⟨[111,112,101,114,97,116,111,114].toArray⟩++⟨[58,32].toArray⟩++⟨N.toArray⟩)=_;rw[kY,kY,kY,kY,kY];simp only[Ru,R8]
  have aW:¬(a:Int)=1:=Y;by_cases aI:a=7
  .subst aI;go_wp21;apply(an.o af w.o).M;rintro y z ⟨rfl,u⟩;have v:=X<|w.o.T<|u.M w.o.size;have aG:p<z:=W u.size;have T:=X<|(u.B p au).T ag.o;have⟨D,E,F,G,I,J,K,L,M⟩:=kL T.o;go_wp21;apply(ak.o z v.o).M;rintro y aH ⟨rfl,U⟩;have V:=X<|v.o.T<|U.M v.o.size;go_wp21;go_ret;refine⟨?_,V.o⟩;have av:aD=[116]++(O++([32]++(ae++([58,32]++([100,105,115,99,97,114,100,115,32]++N))))):=(by rw[ap.o];simp);rw[av];show Ending.returned (.string<|(⟨[116].toArray⟩:Se)++⟨O.toArray⟩++⟨[32].toArray⟩++⟨ae.toArray⟩++⟨[58,32].toArray⟩++(⟨[100,105,115,99,97,114,100,115,32].toArray⟩++⟨N.toArray⟩))=_;rw[kY,kY,kY,kY,kY,kY];simp only[Ru,R8]
  have aX:¬(a:Int)=7:=Y;go_wp21;apply(an.o af w.o).M;rintro y z ⟨rfl,u⟩;have v:=X<|w.o.T<|u.M w.o.size;have aG:p<z:=W u.size;have T:=X<|(u.B p au).T ag.o;have⟨D,E,F,G,I,J,K,L,M⟩:=kL T.o;go_wp21;apply(ak.o z v.o).M;rintro y aH ⟨rfl,U⟩;have V:=X<|v.o.T<|U.M v.o.size;go_wp21;go_ret;refine⟨?_,V.o⟩;rw[ap.o,Rh aF,Rh aI];show Ending.returned (.string<|(⟨[116].toArray⟩:Se)++⟨O.toArray⟩++⟨[32].toArray⟩++⟨ae.toArray⟩++⟨[58,32].toArray⟩++⟨N.toArray⟩)=_;rw[kY,kY,kY,kY,kY];simp only[Ru,R8]
