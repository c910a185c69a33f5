import Derived.Test.YtppncjcpdbhobaaGreatDoorZ10
import Derived.Test.YtppncjcpdbhobaaGreatDoorZ11
import Derived.Test.YtppncjcpdbhobaaGreatDoorZ12
set_option maxRecDepth 1000000
set_option maxHeartbeats 32000000
set_option linter.all false
namespace Go.Proofs.YtppncjcpdbhobaaGreatDoor
open RowKit Go.Proofs.Tryz lI Maps oZ qQ ChangeShapes WideShapes ChangeAt
def yl.app{e n}{g i:Nat}{P p q r s t d j u k}(a:yl e n g i P p q r s t d j u)(b:u.grownBy k d.ownBlock)(w:kJ C7 148 3 P k e d j):yl e n g i P p q r s t d j k:=by
 have⟨x,y,G⟩:=a.lt;have⟨z,A,B,C,l,D,E,v⟩:=a.c;have m:∀c,c<e.heap.size->¬some c=d.ownBlock:=λc f l=>W<|(a.v c l.symm).1
 exact⟨⟨b.os.T a.g.os,b.tape.T a.g.tape,b.output.T a.g.output,Q8 a.g.size b.size,λc f F=>(b.B c (QR f a.g.size)<|m c f).T<|a.g.B c f F⟩,⟨z,A,B,C,l,D,E,(b.B g (QS.1 v).1<|m _ x).T v⟩,(b.B i (QS.1 a.p).1<|m _ y).T a.p,w,Q8 a.s b.size,a.v,a.ws,a.lt,a.np⟩
def lI.tS.gc{a}(t:tS a)(u:mo a):Nn a:=by
 intro d k;have b:=u.kF d k;refine⟨W b.FO,W b.v2,λe f=>⟨W<|(b.lH e f).1,λl m=>?_⟩⟩;have n:=(b.lH e f).2 l m;refine⟨W n.Hv,n.cnt,λv w=>?_⟩;have⟨x,p,_,y,_,U,V,q,_,aa,r⟩:=t.ex;have⟨g,z,A⟩:=List.getElem_of_mem k;have B:a.kF[g]?=some d:=by rw[List.getElem?_eq_getElem z,A]
 have⟨C,D,E,ab,F,ac,ad,_,_,_,G,I,_⟩:=(r g d B).ex;have⟨_,_,J⟩:=I e f;have⟨K,L,M⟩:=List.getElem_of_mem m;have⟨i,N,_,_,O,_⟩:=J K l (by rw[List.getElem?_eq_getElem L,M]);have P:i<=2:=(q E<|List.mem_of_getElem? G).2.2 i<|List.mem_of_getElem? N;exact mP.em (sc:={qP x C D p g with params:=i}) ⟨F,P⟩ y (λQ R=>(q Q R).2.2) (λj S=>by obtain⟨c,s⟩:∃c,a.kF[j]?=some c:=Gx (by have:j<p.length:=S;omega);have⟨_,_,_,_,_,_,T,_⟩:=(r j c s).ex;exact⟨c,List.mem_of_getElem? s,T⟩)<|O v w
def oH.ind{f b g:Nat}{i m:Int}{w}(a:oH f b i g w):oH f b m g<|w.setCell ⟨b,2,none⟩<|.int .i64 m:=by
 have⟨j,a,k⟩:=a;refine⟨j,?_,k⟩;rcases a with⟨c,l,d,e⟩|⟨c,l,d,e⟩
 exact .inl<|tz.set c d Z e;exact .inr<|tz.set c d Z e
def CK:Bv 0:=by
 intro s c d e i j t k u a v w b l m x hF y z;have n:a=[]:=by
  cases a with
  |nil=>rfl
  |cons p a=>exact((m p<|Ss ..).1).elim
 subst n;obtain rfl:0=k:=l.len.1;have f:=b.lt;have⟨A,B⟩:=b.cell;have⟨C,D⟩:=Dp e Y
 go_enter func141,ntmps141
 go_wp2;go_loopw [15] (λq wr=>q=.int .i64 0/\oH c d ((e+1:Nat):Int) i wr/\kY c d j wr) (λ_ _=>0)
 .exact⟨Z,b.ind,kY.set f.1⟩
 obtain⟨rfl,g,r⟩:=hrel;have⟨E,F⟩:=g.cell;go_wp2
 go_end0
 exact⟨Z,g.ind,r.T<|kY.set f.1⟩
def MD(m c g)(e f:Nat)(d)(i:kz kO m c (.slice g e f) d)(r:∀a∈d,a.length<=2520)(F:e<=5)(s:∀n,m n->n<c):Calls prog 65 #[.slice g e f,.string ⟨#[44,32]⟩] c<|qf 12700 c:=by
 have t:=i.len;rcases Su e with rfl|G;exact join_none c g f;obtain⟨p,o,I,rfl,j,_,_⟩:=i.ll kO.ok 0 d[0]<|Q7 Y;have u:(Lib.join ((d.map λa=>(⟨a.toArray⟩:ByteArray)).map (·.data.toList)) (⟨#[44,32]⟩:ByteArray).data.toList).length<=12700:=join_le _ (λa v=>by obtain⟨J,w,rfl⟩:=R6.1 v;obtain⟨b,k,rfl⟩:=R6.1 w;exact r b k) Uw
 have:=Tryz.strings_Join p o f (d.map λa=>(⟨a.toArray⟩:ByteArray)) ⟨#[44,32]⟩ c (λq a x=>by obtain⟨b,k,rfl⟩:∃b,d[q]?=some b/\(⟨b.toArray⟩:ByteArray)=a:=(by simpa using x);have⟨K,L,y,l,_,z,A⟩:=i.ll kO.ok q b k;injection l with l;injection l with B C;subst B;subst C;have D:y=[tx b]:=z;subst D;have:=A 0 _ Z;rw[Q3,RA]at this;exact this) (s p j) Uw Uw Y
 rw[RS,t.1]at this;apply this.M;rintro M N ⟨E,j⟩;exact⟨_,E,by simpa[ByteArray.size]using u,j⟩
def CM(b c:Nat)(k:Int)(w)(l:si b c k [] w):
  Calls prog 49 #[.pointer c] w λm n=>m=.returned (.string .empty)/\Below b w n:=by
 have⟨v,p,q,d,r⟩:=l.any;have s:b<=w:=Q8 p<|Rw (QS.1 d).1;have x:w.drew.cell? ⟨c,1,none⟩=some q:=kB (w:=w.drew) d 1 _ Z;rcases r.2 with⟨rfl,_⟩|⟨a,e,f,rfl,y,t,z,A,B,C⟩
 .have g:(Builtin.unsafeSliceData_ #[22] 219 #[Nl]).run prog w.drew=.ok (.pointer none) w.drew:=Lib.run_unsafeSliceData_nil _ _ _ _ _;have i:(Builtin.unsafeString_ #[219,3] 9 #[.pointer none,.int .i64 0]).run prog w.drew=.ok (.string .empty) w.drew:=Tg _ _ _ _ _
  go_enter func49,ntmps49
  go_wp2
  go_region
  all_goals (go_wp2;go_ret;exact⟨Z,Below.drew<|Below.refl b w⟩)
 .by_cases j:e=0
  .subst j;have u:w.drew.heap[a]?=some (.cells f 5 (0,0)):=t;have g:(Builtin.unsafeSliceData_ #[22] 219 #[(a,0,0)]).run prog w.drew=.ok (.pointer w) (w.drew.alloc<|.view ⟨a,0,none⟩ 5):=
    Lib.run_unsafeSliceData_zero _ _ _ _ Ut _ _ (5,f.size) (by simp[World.shape?,u])
   have D:(w.alloc<|.view ⟨a,0,none⟩ 5).cell? ⟨c,1,none⟩=some (.slice a 0 0):=kB ((Q9 w _ (QS.1 d).1).T d) 1 _ Z;have i:(Builtin.unsafeString_ #[219,3] 9<|vi w).run prog (w.alloc<|.view ⟨a,0,none⟩ 5).drew=.ok (.string .empty) (w.alloc<|.view ⟨a,0,none⟩ 5).drew:=Tg _ _ _ _ _
   go_enter func49,ntmps49
   go_wp2
   go_region
   all_goals (go_wp2;go_ret;exact⟨Z,(Below.drew<|Below.refl b w).alloc s _⟩)
  have g:(Builtin.unsafeSliceData_ #[22] 219 #[(a,0,e)]).run prog w.drew=.ok (.pointer a) w.drew:=TF _ _ _ _ _ _ j;have i:(Builtin.unsafeString_ #[219,3] 9<|vi a).run prog w.drew=.ok (.string .empty) w.drew:=Tg _ _ _ _ _
  go_enter func49,ntmps49
  go_wp2
  go_region
  all_goals (go_wp2;go_ret;exact⟨Z,Below.drew<|Below.refl b w⟩)
def qL{b:Nat}{T t}:∀{r m l:List Value} {w:World},m.length=r.length->w.heap[b]?=some (.cells (l++(m++t)).toArray T (0,0))->(kX w b l.length r).heap[b]?=some (.cells (l++(r++t)).toArray T (0,0))
 |[],[],_,_,_,h=>h
 |[],_::_,_,_,h,_=>by simp at h
 |_::_,[],_,_,h,_=>by simp at h
 |u::r,v::m,l,w,hl,h=>by
  have a:=kt (i:=l.length) (u:=u) h;have c:((l++(v::m++t)).toArray.setIfInBounds l.length u)=((l++[u])++(m++t)).toArray:=by rw[Rp,List.set_append_right _ _<|QZ _];simp
  rw[c]at a;have:=qL (r:=r) (m:=m) (l:=l++[u]) (by simpa using hl) a;rw[Q6]at this;simp only[kX];rw[show l.length+1=l.length+[u].length from Z,this];simp
def mY{b a:Nat}(c:a≠b):∀{r:List Value} {o:Nat} {w:World},(kX w b o r).heap[a]?=w.heap[a]?
 |[],_,_=>rfl
 |u::r,o,w=>(mY c (r:=r)).T<|Rf _ _ _ _ c
def ma{a:Nat}:∀{r:List Value} {o:Nat} {w:World},(kX w a o r).heap.size=w
 |[],_,_=>rfl
 |u::r,o,w=>(ma (r:=r)).T<|QW _ _ _
def mO.start{d:Type}(e:Rel d){T c f:Nat}{w}{b n:Nat}{a}(g:w.heap[b]?=some (.cells a T (0,0)))(i:a.size=n*c):mO e T c f w b n []:=⟨[],a.toList,by simpa using g,by simpa using i,trivial⟩
def mO.frozen{a:Type}{d:Rel a}{e f g:Nat}{c}{b j:Nat}{k:List a}(l:mO d e f g c b j k)(i:Nat):c.frozen? ⟨b,i,none⟩=false:=by have⟨n,p,m,q,r⟩:=l.ex;exact kx m i
def KO:(prog.info? 180).map (λa=>(a.zero,a.size,a.bytes))=some (some<|.agg lP,4,56):=Ut
def IV(a:Nat)(i:a<=1000)(b):(Instr.makeSlice 173 (.int .i64 (a:Int))<|.int .i64 (a:Int)).run prog b=.ok (.slice b a a) (b.alloc<|.cells (madeCells lP<|a*4) 180):=by have⟨d,e,f,c,g⟩:=Rm KO;have:=Sw (P:=prog) b 173 180 d _ underlying173 e f .i64 .i64 (a:Int) (a:Int) Y (SH _) (by rw[c];simp;omega) (by rw[g];omega) Y;rw[c,RV]at this;exact this
def KQ:(prog.info? 111).map (λa=>(a.zero,a.size,a.bytes))=some (some<|.agg #[Em,Nl,Nl],3,64):=Ut
def IX(a:Nat)(i:a<=1000)(b):(Instr.makeSlice 102 (.int .i64 (a:Int))<|.int .i64 (a:Int)).run prog b=.ok (.slice b a a) (b.alloc<|AT a):=by have⟨d,e,f,c,g⟩:=Rm KQ;have:=Sw (P:=prog) b 102 111 d _ underlying102 e f .i64 .i64 (a:Int) (a:Int) Y (SH _) (by rw[c];simp;omega) (by rw[g];omega) Y;rw[c,RV]at this;exact this
def KR:(prog.info? 104).map (λa=>(a.zero,a.size,a.bytes))=some (some<|.agg #[Nl],1,24):=Ut
def IY(a:Nat)(i:a<=1000)(b):(Instr.makeSlice 96 (.int .i64 (a:Int))<|.int .i64 (a:Int)).run prog b=.ok (.slice b a a) (b.alloc<|.cells (madeCells #[Nl] a) 104):=by have⟨d,e,f,c,g⟩:=Rm KR;have:=Sw (P:=prog) b 96 104 d _ underlying96 e f .i64 .i64 (a:Int) (a:Int) Y (SH _) (by rw[c];simp;omega) (by rw[g];omega) Y;rw[c,RA,RV]at this;exact this
def mN{w:World}{a:Nat}{T:TypeId}{r m:List Value}(b:w.heap[a]?=some (.cells m.toArray T (0,0)))(c:m.length=r.length):(kX w a 0 r).heap[a]?=some (.cells r.toArray T (0,0)):=by have:=qL (r:=r) (m:=m) (t:=[]) (l:=[]) c (by simpa using b);simpa using this
def zT.nk{d:Nat}{b}{c:Nat}{e f g j k l m n p q a}(r:zT d b c e f g j k l m n p q a)(i:Nat)(u):NK b a<|a.setCell ⟨c,i,none⟩ u:=NK.set r.l
def zT.Da{b:Nat}{d}{e:Nat}{j k l m n p f s q r c}(a:zT b d e j k l m n p f s q r c){u}(t:kz (kP .u8 De) (Nw d c) c u f.lp):zT b d e j k l m n p f true q r<|c.setCell ⟨e,3,none⟩ u:=by have⟨C,v,w,x,D,E,y,z,A,B⟩:=a.r;have g:=a.nk 3 u;exact⟨a.g.T<|nZ.set Z,a.l,u,v,w,kt x,λa=>by simp at a,λ_=>oh (kP.ok .u8 De) g t,y,λi=>oh (kR.ok .u8 b) g<|z i,A,λi=>oh (kR.ok .u8 b) g<|B i⟩
def zT.LX{b:Nat}{d}{e:Nat}{j k l m n p f q s r c}(a:zT b d e j k l m n p f q s r c){u}(t:kz (kR .u8 b) (Nw d c) c u f.th):zT b d e j k l m n p f q true r<|c.setCell ⟨e,4,none⟩ u:=by have⟨v,C,w,x,y,z,D,E,A,B⟩:=a.r;have g:=a.nk 4 u;exact⟨a.g.T<|nZ.set Z,a.l,v,u,w,kt x,y,λi=>oh (kP.ok .u8 De) g<|z i,λa=>by simp at a,λ_=>oh (kR.ok .u8 b) g t,A,λi=>oh (kR.ok .u8 b) g<|B i⟩
def zT.Pg{b:Nat}{e}{f:Nat}{k l m n p q g r s t c}(a:zT b e f k l m n p q g r s t c){d}(u:kz (kR .u8 b) (Nw e c) c d g.el):zT b e f k l m n p q g r s true<|c.setCell ⟨f,5,none⟩ d:=by have⟨v,w,C,x,y,z,A,B,D,E⟩:=a.r;have i:=a.nk 5 d;exact⟨a.g.T<|nZ.set Z,a.l,v,w,d,kt x,y,λj=>oh (kP.ok .u8 De) i<|z j,A,λj=>oh (kR.ok .u8 b) i<|B j,λa=>by simp at a,λ_=>oh (kR.ok .u8 b) i u⟩
def I0:(prog.info? 101).map (λi=>(i.zero,i.size,i.bytes))=some (some<|.agg pv,3,32):=Ut
def C3.nk{b}{c:Nat}{d e f g j k l a}(m:C3 b c d e f g j k l a)(i:Nat)(u):NK b a<|a.setCell ⟨c,i,none⟩ u:=NK.set m.l
def C3.Da{c}{d:Nat}{f g i j e m k b}(a:C3 c d f g i j e m k b){u}(n:kz mH (Nw c b) b u e.kN):C3 c d f g i j e true k<|b.setCell ⟨d,1,none⟩ u:=by have⟨v,p,q,w,x,r,s⟩:=a.r;have l:=a.nk 1 u;exact⟨a.g.T<|nZ.set Z,a.l,u,p,kt q,λa=>by simp at a,λ_=>oh mH.ok l n,r,λt=>oh nV.ok l<|s t⟩
def C3.LX{c}{d:Nat}{f g i j e k m b}(a:C3 c d f g i j e k m b){u}(n:kz nV (Nw c b) b u e.mj):C3 c d f g i j e k true<|b.setCell ⟨d,2,none⟩ u:=by have⟨p,v,q,r,s,w,x⟩:=a.r;have l:=a.nk 2 u;exact⟨a.g.T<|nZ.set Z,a.l,p,u,kt q,r,λt=>oh mH.ok l<|s t,λa=>by simp at a,λ_=>oh nV.ok l n⟩
def Fp:(prog.info? 5).map (λi=>(i.zero,i.size,i.bytes))=some (some<|.int .u8 0,1,1):=Ut
def Fs(b a:Nat)(j:b<=a)(k:a<=1000)(c):(Instr.makeSlice 22 (.int .i64 (b:Int))<|.int .i64 (a:Int)).run prog c=.ok (.slice c b a) (c.alloc<|BT a):=by have⟨e,f,g,d,i⟩:=Rm Fp;have:=Sw (P:=prog) c 22 5 e (.int .u8 0) underlying22 f g .i64 .i64 (b:Int) (a:Int) Y Y (by rw[d];simp;omega) (by rw[i];omega) Y;rw[d,RA,RV,RV]at this;exact this
def nr.byte{b}{c:Nat}(d:nr b c){i:Nat}(e:i<64):∃a:Int,b.cell? ⟨c,8+i,none⟩=some (.int .u8 a):=by have⟨k,f,_,_,g,_⟩:=d;have⟨a,j⟩:=g i e;exact⟨a,kB f _ _ j⟩
def Fv(c:World)(a:Nat)(d:Ending)(b:World):Prop:=d=.returned (.tuple #[])/\c.grownBy b (some a)/\nr b a
def mB.to{a w w'}{b c:Nat}(d:mB a w b c)(e:Below w w w'):mB a w' b c:=d.ku<|e.B b d.lt
def mB.eight{a b}{c:Nat}{d e f g i j k l:Int}(m:b.heap[c]?=some (.cells (qn d e f g i j k l) a)):mB a b c 8:=
 ⟨_,m,Z,λn p=>by
  match n,p with
  |0,_=>exact⟨_,Z⟩
  |1,_=>exact⟨_,Z⟩
  |2,_=>exact⟨_,Z⟩
  |3,_=>exact⟨_,Z⟩
  |4,_=>exact⟨_,Z⟩
  |5,_=>exact⟨_,Z⟩
  |6,_=>exact⟨_,Z⟩
  |7,_=>exact⟨_,Z⟩⟩
def MG(c:World)(a:Nat)(d:Ending)(b:World):Prop:=d=.returned (.tuple #[])/\nr b a/\c.grownBy b (some a)
def qp{d e f:World}{c:Option Nat}(a:d.grownBy e c)(b:e.grownBy f c):d.grownBy f c:=
 ⟨b.os.T a.os,b.tape.T a.tape,b.output.T a.output,Q8 a.size b.size,λg i j=>(b.B g (QR i a.size) j).T<|a.B g i j⟩
def nr.same{c d}{b e:Nat}{f}(g:nr c b)(i:c.heap[b]?=some (.cells f 227 (0,0)))(j:d.heap[e]?=some (.cells f 227 (0,0))):nr d e:=by have⟨l,a,k⟩:=g;rw[i]at a;injection a with a;injection a with a _ _;subst a;exact⟨_,j,k⟩
def py.ints{a}{b:Nat}(f:pk .u8 a 0 b)(g:a.size=b):∀u∈a.toList,∃c:Int,u=.int .u8 c:=by
 intro u i;obtain⟨d,j,rfl⟩:=TA i;have k:d<b:=by simpa[g]using j
 have⟨c,e⟩:=f d k;rw[Re]at e;exact⟨c,by simpa using(QS.1 e).2⟩
def wI:(prog.info? 89).map (·.size)=some 32:=Ut
def qq(b:Nat)(c a)(d:oo a b c):Calls prog 29 #[.pointer b] a λe f=>e=.returned (.int .i64 (c.kF.length:Int))/\f=a:=by
 have⟨j,k,l,m,n,p,q,r,s,t,u,v,w,x,y,z,A,g,_⟩:=d;have i:=g.kF.len.1;rw[i]
 go_enter func29,ntmps29
 go_wp2;go_ret;exact⟨Z,Z⟩
def oZ.oY(a b:Ev):Bool:=a.tick==b.tick&&a.comp==b.comp&&a.kind==b.kind&&a.peer==b.peer&&a.n==b.n&&a.copy==b.copy&&a.hd==b.hd&&a.d==b.d&&a.args==b.args
def oZ.oI(a b:Ev):oY a b=true↔a=b:=by have⟨c,d,e,f,g,i,j,k,l⟩:=a;have⟨m,n,p,q,r,s,t,u,v⟩:=b;simp[oY,and_assoc]
def oZ.arr(e:Ev):Nat:=if e.kind=7 then(if e.d=4 then 4 else if e.d=5 then 5 else if e.d=6 then 6 else 7)else e.kind
def oZ.base(e:Ev):Ev:=⟨e.tick,e.comp,e.kind,0,e.n,0,e.hd,if e.kind=7 then e.d else 0,e.args⟩
def oZ.used(e:Ev):Ev:=
 match arr e with
 |1=>{base e with peer:=e.peer,d:=e.d,hd:=0,args:=[]}
 |2=>{base e with d:=e.d,hd:=0,args:=[]}
 |3=>{base e with hd:=0,args:=[]}
 |5=>{base e with peer:=e.peer,copy:=e.copy}
 |8=>{base e with peer:=e.peer}
 |9=>{base e with d:=e.d}
 |10=>{base e with peer:=e.peer,copy:=e.copy,hd:=0}
 |11=>{base e with n:=0,args:=[]}
 |_=>base e
def oZ.nR(b:Nm)(a:Ev):Bool:=oW b a.comp a.hd&&decide (a.args.length<=4)
def oZ.fits(b:Nm)(a:Ev):Bool:=
 match arr a with
 |1=>decide (a.comp=b.kF.length)&&(yF b a.peer&&(decide (a.d=0)||decide (a.d=1)))
 |2=>nM b a.comp&&(decide (1<=a.d)&&decide (a.d<=3))
 |3=>nM b a.comp
 |4=>nR b a
 |5=>nR b a&&(nM b a.peer&&(decide (a.copy=0)||decide (a.copy=1)))
 |6=>nR b a
 |8=>nM b a.comp&&(oW b a.peer a.hd&&decide (a.args.length<=4))
 |9=>nR b a&&decide (0<=a.d)
 |10=>nM b a.comp&&((decide (a.peer=0)||decide (a.peer=1))&&((decide (a.copy=0)||decide (a.copy=1))&&decide (a.args.length=if a.peer=1/\a.copy=1 then 1 else 2)))
 |11=>oW b a.comp a.hd
 |_=>false
def oZ.valid(a:Nm)(e:Ev):Bool:=fits a e&&(decide (0<=e.tick)&&(decide (0<=e.n)&&oY e (used e)))
def oZ.qc(a:Ev):List UInt8:=
 (if a.peer=1 then [102,101,116,99,104,32]else [115,116,111,114,101,32])++(Lib.itoa a.n++([58,32]++(Lib.itoa (a.args[0]?.getD 0)++((if a.args.length=2 then [32,61,32]++Lib.itoa (a.args[1]?.getD 0)else [])++(if a.copy=1 then [32,102,97,105,108,115]else [])))))
def oZ.told(a:Nm)(e:Ev):List UInt8:=
 match arr e with
 |1=>[102,108,97,103,32]++(fN a e.peer++([32,61,32]++((if e.d=1 then [116,114,117,101]else [102,97,108,115,101])++([32,40,99,104,111,105,99,101,32]++(Lib.itoa e.n++[41])))))
 |2=>[100,101,112,108,111,121,32,118,101,114,115,105,111,110,32]++(Lib.itoa e.d++([32,40,99,104,111,105,99,101,32]++(Lib.itoa e.n++[41])))
 |3=>[99,114,97,115,104,32,40,99,104,111,105,99,101,32]++(Lib.itoa e.n++[41])
 |4=>[114,101,113,117,101,115,116,32]++(Lib.itoa e.n++([32]++nx (hN a e.comp e.hd) e.args))
 |5=>[109,101,115,115,97,103,101,32]++(Lib.itoa e.n++([32,102,114,111,109,32]++(cN a e.peer++([32]++((if e.copy=1 then [97,103,97,105,110,32]else [])++nx (hN a e.comp e.hd) e.args)))))
 |6=>[116,105,109,101,114,32]++(Lib.itoa e.n++([32]++nx (hN a e.comp e.hd) e.args))
 |8=>[115,101,110,100,115,32,109,101,115,115,97,103,101,32]++(Lib.itoa e.n++([32,116,111,32]++(cN a e.peer++([32]++nx (hN a e.peer e.hd) e.args))))
 |9=>[115,101,116,115,32,116,105,109,101,114,32]++(Lib.itoa e.n++([32]++(nx (hN a e.comp e.hd) e.args++([32,100,117,101,32,97,116,32,116]++Lib.itoa e.d))))
 |10=>qc e
 |_=>[102,97,117,108,116,32,105,110,32]++hN a e.comp e.hd
def oZ.line(a:Nm)(e:Ev):List UInt8:=
 if valid a e then [116]++(Lib.itoa e.tick++([32]++((if e.kind=1 then [111,112,101,114,97,116,111,114]else cN a e.comp)++([58,32]++((if e.kind=7 then [100,105,115,99,97,114,100,115,32]else [])++told a e)))))else []
def CP(a b c d):(Instr.field 98 (.agg #[b,c,d]) 0).run prog a=.ok b a:=Ut
def K1(b:List UInt8)(a:World)(c:Ending)(d:World):Prop:=(∃(e:Bool),c=.returned (.agg #[tx b,e]))/\Below a a d
def CQ(a b c):(Instr.field 93 (.agg #[b,c]) 0).run prog a=.ok b a:=Ut
def BZ{b c}:∀(a:List<|List UInt8),lu (kO b c) (a.map λd=>[tx d]) a
 |[]=>trivial
 |_::a=>⟨Z,BZ a⟩
def B0{b}{c:Nat}{d a}(e:b.ownsRow c 9 1 d a.length<|a.map tx):kJ kO 9 1 (λ_=>False) b c d a:=⟨a.map λf=>[tx f],by rw[I6];exact e,BZ a⟩
def Ef(q d l)(e g:Nat)(b)(j:kz kO q d (.slice l e g) b)(F:e<=1000)(G:∀r,q r->r<d):
  Calls prog 145 #[.slice l e g] d (pz b d):=by
 have m:=j.len;cases l with
 |none=>
  have f:e=0:=by rcases Su e with f|f;exact f;have⟨s,o,v,c,_⟩:=j.ll kO.ok 0 b[0]<|Q7 Y;cases c
  subst f;obtain rfl:b=[]:=RP m.1;apply(Tryz.slices_Clone_string_nil 0 g d).M;rintro c t ⟨rfl,rfl⟩;exact pz.of (kJ.nil _ _ _ _ _ _)<|Below.refl _ _
 |some a=>rcases Su e with f|f;subst f;obtain rfl:b=[]:=RP m.1;apply(Tryz.slices_Clone_string_zero a g d).M;rintro c t ⟨w,rfl,i,_,n⟩;exact pz.of (B0 i) n;have⟨s,o,v,c,_,_,_⟩:=j.ll kO.ok 0 b[0]<|Q7 Y;injection c with c;subst c;refine(Tryz.slices_Clone_string s o e g (b.map λx=>(⟨x.toArray⟩:ByteArray)) d Uw Y λk y=>?_).M ?_;have u:k<b.length:=(by simpa using y);have⟨I,J,z,p,_,A,B⟩:=j.ll kO.ok k b[k]<|Q7 u;injection p with p;injection p with C D;subst C;subst D;have E:z=[tx b[k]]:=A;subst E;have:=B 0 _ Z;rw[Q3,RA]at this;rw[this];simp[u];rintro c t ⟨w,rfl,i,_,n⟩;refine pz.of (B0 ?_) n;rw[<-m.1]at i;rw[Rh Us,List.map_map]at i;exact i
def CR{b}(g:mo b){d:Nat}{e}(a:(lL b)[d]?=some e):e.length<=200:=by
 unfold lL at a;rw[RT]at a;cases hc:b.kF[d]? with
 |none=>rw[hc]at a;cases a
 |some c=>rw[hc]at a;injection a with a;have f:=g.kF c<|QV hc;have i:=rM c.lH [] λj k=>W<|(f.lH j k).1;have l:=f.v2;rw[<-a];show(lK [] c.lH).length<=200;simp at i;omega
def lV(d:Nat)(a:Int)(b c)(i:oo c d b):Calls prog 26 #[.pointer d,a] c λf j=>f=.returned (.bool<|nM (kG b) a)/\j=c:=by
 have k:=(qq d b c i)
 by_cases g:0<=a
 .have e:nM (kG b) a=decide (a<(b.kF.length:Int)):=(by simp[nM,kG,g]);rw[e]
  go_enter func26,ntmps26
  go_wp21;apply k.M;rintro f l ⟨rfl,rfl⟩;go_wp21;go_ret;exact⟨Z,Z⟩
 have e:nM (kG b) a=false:=by simp[nM,g]
 rw[e]
 go_enter func26,ntmps26
 go_wp21;go_ret;exact⟨Z,Z⟩
abbrev Hp(a:Ev)(b:Option Addr)(c d:Nat):Array Value:=#[.int .i64 a.tick,.int .i64 a.comp,.int .u8 (a.kind:Nat),.int .i64 a.peer,.int .i64 a.n,.int .i64 a.copy,.int .i64 a.hd,.int .i64 a.d,(b,c,d)]
def kQ{a:World}{b:Nat}{n:TypeId}{d e f g i j k l m:Value}(c:a.heap[b]?=some (.cells #[d,e,f,g,i,j,k,l,m] n)):
  a.cell? b=some d/\a.cell? ⟨b,1,none⟩=some e/\a.cell? ⟨b,2,none⟩=some f/\a.cell? ⟨b,3,none⟩=some g/\a.cell? ⟨b,4,none⟩=some i/\a.cell? ⟨b,5,none⟩=some j/\a.cell? ⟨b,6,none⟩=some k/\a.cell? ⟨b,7,none⟩=some l/\a.cell? ⟨b,8,none⟩=some m:=
 ⟨kr c 0,kr c 1,kr c 2,kr c 3,kr c 4,kr c 5,kr c 6,kr c 7,kr c 8⟩
abbrev la(a b c d e f g h i j k):=(.cells #[.int .i64 a,b,.int .u8 (c:Nat),d,e,f,g,h,.slice i j k] 29:Go.Obj)
def lX(d:Ev)(n)(p q:Nat)(e):Calls prog 28 #[.agg<|Hp d n p q] e<|kH (.int .u8 (arr d:Nat)) e:=by
 have⟨f,g,c,i,j,k,l,a,r⟩:=d;have b:=Ba e<|la f g c i j k l a n p q;by_cases s:c=7
 .subst s;by_cases t:a=4
  .subst t
   go_enter func28,ntmps28
   go_wp2;go_ret;exact⟨Z,b⟩
  by_cases u:a=5
  .subst u
   go_enter func28,ntmps28
   go_wp2;go_ret;exact⟨Z,b⟩
  by_cases v:a=6
  .subst v
   go_enter func28,ntmps28
   go_wp2;go_ret;exact⟨Z,b⟩
  have m:arr ⟨f,g,7,i,j,k,l,a,r⟩=7:=(by simp[arr,t,u,v]);rw[m]
  go_enter func28,ntmps28
  go_wp2;go_ret;exact⟨Z,b⟩
 have m:arr ⟨f,g,c,i,j,k,l,a,r⟩=c:=by simp[arr,s]
 rw[m]
 go_enter func28,ntmps28
 go_wp2;go_ret;exact⟨Z,b⟩
def pS(b:Int)(a):Calls prog 148 #[.int .i64 b] a λc d=>c=.returned (.bool false)/\d=a:=by
 go_enter func148,ntmps148
 go_wp2;go_ret;exact⟨Us,Z⟩
def rr(b:Nat)(a):Calls prog 147 #[.int .u8 (b:Nat)] a λc d=>c=.returned (.bool false)/\d=a:=by
 go_enter func147,ntmps147
 go_wp2;go_ret;exact⟨Us,Z⟩
def vv(a b:Int)(d):Calls prog 100 #[.int .i64 a,b] d λc j=>c=.returned (.int .i64<|Lib.compareInt a b)/\j=d:=by
 unfold Lib.compareInt;by_cases f:a<b
 .rw[RG f]
  go_enter func100,ntmps100
  go_wp21;apply(pS a d).M;rintro c e ⟨rfl,rfl⟩;go_wp21;apply(pS b e).M;rintro c g ⟨rfl,rfl⟩;go_wp21;go_ret;exact⟨Z,Z⟩
 by_cases i:b<a
 .rw[Rl f,RG i]
  go_enter func100,ntmps100
  go_wp21;apply(pS a d).M;rintro c e ⟨rfl,rfl⟩;go_wp21;apply(pS b e).M;rintro c g ⟨rfl,rfl⟩;go_wp21;go_ret;exact⟨Z,Z⟩
 rw[Rl f,Rl i]
 go_enter func100,ntmps100
 go_wp21;apply(pS a d).M;rintro c e ⟨rfl,rfl⟩;go_wp21;apply(pS b e).M;rintro c g ⟨rfl,rfl⟩;go_wp21;go_ret;exact⟨Z,Z⟩
def I7(a b:Nat)(d):Calls prog 99 #[.int .u8 (a:Nat),.int .u8 (b:Nat)] d λc j=>c=.returned (.int .i64<|Lib.compareInt (a:Int) (b:Int))/\j=d:=by
 unfold Lib.compareInt;by_cases f:(a:Int)<(b:Int)
 .rw[RG f]
  go_enter func99,ntmps99
  go_wp21;apply(rr a d).M;rintro c e ⟨rfl,rfl⟩;go_wp21;apply(rr b e).M;rintro c g ⟨rfl,rfl⟩;go_wp21;go_ret;exact⟨Z,Z⟩
 by_cases i:(b:Int)<(a:Int)
 .rw[Rl f,RG i]
  go_enter func99,ntmps99
  go_wp21;apply(rr a d).M;rintro c e ⟨rfl,rfl⟩;go_wp21;apply(rr b e).M;rintro c g ⟨rfl,rfl⟩;go_wp21;go_ret;exact⟨Z,Z⟩
 rw[Rl f,Rl i]
 go_enter func99,ntmps99
 go_wp21;apply(rr a d).M;rintro c e ⟨rfl,rfl⟩;go_wp21;apply(rr b e).M;rintro c g ⟨rfl,rfl⟩;go_wp21;go_ret;exact⟨Z,Z⟩
def zn:∀{b c:List Int},cmpL b c=0↔b=c
 |[],[]=>by simp[cmpL]
 |[],_::_=>by simp[cmpL]
 |_::_,[]=>by simp[cmpL]
 |x::b,y::c=>by
  unfold cmpL;split
  rename_i a
  rw[zn,rz.1 a];simp
  rename_i a
  simp only[a,Sh,false_iff,not_and];exact λd=>absurd (rz.2 d) a
def B5(a b:Ev):yG [Lib.compareInt a.tick b.tick,Lib.compareInt a.comp b.comp,Lib.compareInt (a.kind:Int) (b.kind:Int),Lib.compareInt a.peer b.peer,Lib.compareInt a.n b.n,Lib.compareInt a.copy b.copy,Lib.compareInt a.hd b.hd,Lib.compareInt a.d b.d,cmpL a.args b.args]=0↔a=b:=by have⟨c,d,e,f,g,i,j,k,l⟩:=a;have⟨m,n,p,q,r,s,t,u,v⟩:=b;rw[B4];simp only[Rq,Rk,RQ,forall_eq_or_imp,forall_eq,rz,zn,Int.natCast_inj,Ev.mk.injEq]
abbrev lk(a b c d e f g h i j k):=(#[.int .i64 a,b,.int .u8 (c:Nat),d,e,f,g,h,.slice i j k]:Array Go.Value)
def oZ.qx(a:List UInt8):Option<|Int×List UInt8:=match Lib.parseIntB 64 (a.takeWhile FQ)with| .ok b=>some (b,a.dropWhile FQ)|_=>none
def oZ.pA(a:List UInt8):Option<|Int×List UInt8:=do
 let b<-oD [32,40,99,104,111,105,99,101,32] a
 let (v,r)<-qx b
 let c<-oD [41] r
 some (v,c)
def oZ.Bw:Nat->List UInt8->Option (List Int×List UInt8)
 |0,_=>none
 |k+1,s=>do
  let (v,r)<-qx s
  match oD [41] r with
  |some a=>some ([v],a)
  |none=>do
   let a<-oD [44,32] r
   let (vs,t)<-Bw k a
   some (v::vs,t)
def oZ.qD(d:Nm)(e:Int)(b:List UInt8):Option<|Int×List Int×List UInt8:=do
 let c<-(hL d e).idxOf? (se b).1
 let a<-oD [40] (se b).2
 match oD [41] a with
 |some t=>some ((c:Int),[],t)
 |none=>do
  let (vs,t)<-Bw a.length a
  some ((c:Int),vs,t)
def oZ.yI(d:Ev)(e:List UInt8):Option<|Ev×List UInt8:=do
 let (n,c)<-qx e
 let c<-oD [58,32] c
 let (a,c)<-qx c
 let (l,c)<-match oD [32,61,32] c with
  |some q=>do
   let (b,t)<-qx q
   some ([a,b],t)
  |none=>some ([a],c)
 match oD [32,102,97,105,108,115] c with
 |some t=>some ({d with kind:=10,n:=n,args:=l,copy:=1},t)
 |none=>some ({d with kind:=10,n:=n,args:=l},c)
def oZ.Pj(d:Nm)(b:Ev)(f:List UInt8):Option<|Ev×List UInt8:=
 match oD [114,101,113,117,101,115,116,32] f with
 |some e=>do
  let (n,a)<-qx e
  let a<-oD [32] a
  let (h,l,t)<-qD d b.comp a
  some ({b with kind:=4,n:=n,hd:=h,args:=l},t)
 |none=>
 match oD [116,105,109,101,114,32] f with
 |some e=>do
  let (n,a)<-qx e
  let a<-oD [32] a
  let (h,l,t)<-qD d b.comp a
  some ({b with kind:=6,n:=n,hd:=h,args:=l},t)
 |none=>do
  let e<-oD [109,101,115,115,97,103,101,32] f
  let (n,a)<-qx e
  let a<-oD [32,102,114,111,109,32] a
  let (c,a)<-yJ d a
  match oD [32,97,103,97,105,110,32] a with
  |some a=>do
   let (h,l,t)<-qD d b.comp a
   some ({b with kind:=5,n:=n,peer:=c,copy:=1,hd:=h,args:=l},t)
  |none=>do
   let a<-oD [32] a
   let (h,l,t)<-qD d b.comp a
   some ({b with kind:=5,n:=n,peer:=c,hd:=h,args:=l},t)
def oZ.wb(f:Nm)(b:Ev)(e:List UInt8):Option<|Ev×List UInt8:=
 match oD [100,101,112,108,111,121,32,118,101,114,115,105,111,110,32] e with
 |some q=>do
  let (d,a)<-qx q
  let (n,t)<-pA a
  some ({b with kind:=2,d:=d,n:=n},t)
 |none=>
 match oD [99,114,97,115,104] e with
 |some q=>do
  let (n,t)<-pA q
  some ({b with kind:=3,n:=n},t)
 |none=>
 match oD [102,97,117,108,116,32,105,110,32] e with
 |some q=>do
  let g<-(hL f b.comp).idxOf? (se q).1
  some ({b with kind:=11,hd:=(g:Int)},(se q).2)
 |none=>
 match oD [115,116,111,114,101,32] e with
 |some q=>yI b q
 |none=>
 match oD [102,101,116,99,104,32] e with
 |some q=>yI {b with peer:=1} q
 |none=>
 match oD [115,101,110,100,115,32,109,101,115,115,97,103,101,32] e with
 |some q=>do
  let (n,a)<-qx q
  let a<-oD [32,116,111,32] a
  let (c,a)<-yJ f a
  let a<-oD [32] a
  let (g,l,t)<-qD f c a
  some ({b with kind:=8,n:=n,peer:=c,hd:=g,args:=l},t)
 |none=>
 match oD [115,101,116,115,32,116,105,109,101,114,32] e with
 |some q=>do
  let (n,a)<-qx q
  let a<-oD [32] a
  let (g,l,a)<-qD f b.comp a
  let a<-oD [32,100,117,101,32,97,116,32,116] a
  let (d,t)<-qx a
  some ({b with kind:=9,n:=n,hd:=g,args:=l,d:=d},t)
 |none=>Pj f b e
def oZ.HT(b:Nm)(g:List UInt8):Option<|Ev×List UInt8:=do
 let a<-oD [116] g
 let (tick,a)<-qx a
 let a<-oD [32] a
 let i:=(se a).1
 let a<-oD [58,32] (se a).2
 match oD [102,108,97,103,32] a with
 |some q=>do
  let c:=(b.kN.idxOf? (se q).1).getD 0
  match oD [32,61,32,116,114,117,101] (se q).2 with
  |some a=>do
   let (n,t)<-pA a
   some (⟨tick,b.kF.length,1,c,n,0,0,1,[]⟩,t)
  |none=>do
   let a<-oD [32,61,32,102,97,108,115,101] (se q).2
   let (n,t)<-pA a
   some (⟨tick,b.kF.length,1,c,n,0,0,0,[]⟩,t)
 |none=>do
  let f:Ev:=⟨tick,(b.kF.idxOf? i).getD 0,0,0,0,0,0,0,[]⟩
  match oD [100,105,115,99,97,114,100,115,32] a with
  |some q=>do
   let (e,t)<-wb b f q
   some ({e with d:=e.kind,kind:=7},t)
  |none=>wb b f a
def vw{c}(b:Int)(d:ym c b)(a)(g:qE c a):Calls prog 15 #[.int .i64 b] a<|kH (tx<|Lib.itoa b) a:=by
 cases c with
 |true=>exact(Tryz.strconv_Itoa b d.1.1 d.1.2 a<|g Z).M λ_ _ ⟨e,k,l,f⟩=>⟨e,by rw[f];exact Lib.below_grow _ _ (QZ _) _ _⟩
 |false=>have⟨i,m⟩:=d.2 Z;obtain⟨j,rfl⟩:=TW i;exact(Tryz.strconv_Itoa_small j Y a).M λ_ _ ⟨e,f⟩=>⟨by rw[e,B8],by rw[f];exact Below.refl _ _⟩
def uA{c}(b:Int)(d:ym c b)(a)(g:qE c a):Calls prog 33 #[.int .i64 b,.int .i64 10] a<|kH (tx<|Lib.itoa b) a:=by
 cases c with
 |true=>exact(Tryz.strconv_FormatInt_10 b d.1.1 d.1.2 a<|g Z).M λ_ _ ⟨e,k,l,f⟩=>⟨e,by rw[f];exact Lib.below_grow _ _ (QZ _) _ _⟩
 |false=>have⟨i,m⟩:=d.2 Z;obtain⟨j,rfl⟩:=TW i;exact(Tryz.strconv_FormatInt_10_small j Y a).M λ_ _ ⟨e,f⟩=>⟨by rw[e,B8],by rw[f];exact Below.refl _ _⟩
def GN{U}(aW b)(n p:Int)(q:Nat)(j d r s t:Int)(aX)(k x:Nat)(f)(c:kz mg aW b (.slice aX k x) f)(ay:∀ai,aW ai->ai<b)(bK:1<=k)(bL:k<=4)(az:∀z∈f,ym U z)(aA:ym U d)(F:qE U b):
  Calls prog 37 #[.agg<|lk n p q j d r s t aX k x] b (kH (tx<|qc ⟨n,p,q,j,d,r,s,t,f⟩) b):=by
 have aB:=c.len;obtain⟨u,aj⟩:∃z,f[0]?=some z:=Gx Y;obtain⟨e,v,br,rfl,aY,aZ,ba⟩:=c.ll mg.ok 0 u aj;have bs:br=[.int .i64 u]:=aZ;subst bs;have aC:=ba 0 _ Z;rw[S9,Q3]at aC;have aD:=az u<|QV aj;have bb:=ay e aY;have ak:=Ba b<|.cells #[.int .i64 n,p,.int .u8 (q:Nat),j,d,r,s,t,.slice (mw e v) k x] 29;have aE:=X ak;have aF:=X<|QT b<|.cells #[.int .i64 n,p,.int .u8 (q:Nat),j,d,r,s,t,.slice (mw e v) k x] 29;have bt:=X<|(Cb e v<|ak.B e bb).T aC;have aG:=X<|F.kv ak;have bu:=X c;have bM:=X ay;have bv:=X az;have al:=X aj;have V:=X aB;have bN:=aB.2;clear ba aZ aY aj c ay az F ak aC aB
 go_enter func37,ntmps37
 go_upto_region 1 with fail;have bw:(b.alloc<|.cells #[.int .i64 n,p,.int .u8 (q:Nat),j,d,r,s,t,.slice (mw e v) k x] 29).heap.size=b+1:=Us
 generalize b.alloc (.cells #[.int .i64 n,p,.int .u8 (q:Nat),j,d,r,s,t,.slice (mw e v) k x] 29)=aa at*;have⟨g,bc⟩:=Xq b.heap.size;rw[<-bc]at aF⊢;have ab:g<aa:=Y
 have bd:e<aa:=Y
 have ac:=X aF.o;have⟨G,I,J,K,L,M,N,O,P⟩:=kQ aF.o;obtain⟨ad,aH⟩:∃ai:List UInt8,ai=if j=1 then [102,101,116,99,104,32]else [115,116,111,114,101,32]:=⟨_,Z⟩
 have bO:ad.length<=6:=by rw[aH];split<;>simp
 have Q:=X aH;clear bc bw aH;(iterate 8 go_step);go_cut [3] (λbx bz=>bx=tx ad/\aa=bz)
 .by_cases hp:j=1
  .subst hp;go_wp2_with fail;go_meet;exact⟨by rw[Q.o,RG trivial],Z⟩
  go_wp2_with fail;go_meet;exact⟨by rw[Q.o,Rl hp],Z⟩
 obtain⟨rfl,rfl⟩:=hcut;have be:=X<|show∀i:World,qE U i->Calls prog 15 #[.int .i64 d] i (kH (tx<|Lib.itoa d) i)from λi F=>vw d aA i F;have bf:=X<|show∀i:World,qE U i->Calls prog 33 #[.int .i64 u,.int .i64 10] i (kH (tx<|Lib.itoa u) i)from λi F=>uA u aD i F;have⟨am,an⟩:=Xq<|Lib.itoa d;have⟨ao,ap⟩:=Xq<|Lib.itoa u;have bP:am.length<=21:=(by rw[an];exact RZ d aA.1.1 aA.1.2);have bQ:ao.length<=21:=(by rw[ap];exact RZ u aD.1.1 aD.1.2);rw[<-an]at be;rw[<-ap]at bf;have aq:=X an;have ar:=X ap;clear an ap G I J K L M N O P;go_upto_region 4 with fail;have⟨au,aI⟩:=Xq<|am++[58,32];have bR:au.length<=23:=(by rw[aI,Q6];first|omega|(simp only[Rn,Rs];omega));have ae:=X aI;clear aI;have⟨av,aJ⟩:=Xq<|au++ao;have bS:av.length<=44:=(by rw[aJ,Q6];first|omega|(simp only[Rn,Rs];omega));have af:=X aJ;clear aJ;have⟨l,aK⟩:=Xq<|ad++av;have bT:l.length<=50:=(by rw[aK,Q6];first|omega|(simp only[Rn,Rs];omega));have ag:=X aK;clear aK;refine Ri (λz=>Below aa aa z) (mU [(·=tx ad),(Pp g 4),(·=d),(·=tx am),(·=tx au),(Pp g 8),(·=.slice (mw e v) k x),(Pp e v),(·=u),(·=tx ao),(·=tx av),(·=tx l),(·=tx l)]) [] ((Below.refl _ _).drew) ⟨?_,?_,?_,?_,?_,?_,?_,?_,?_,?_,?_,?_,?_,trivial⟩ ?_;exact λ_ b a A c B y=>.p 3 (y 12 _ 3 Z Z Z) ⟨Z,a,Qa⟩;exact .f 1;exact .l 8 1 λ_ a=>kB ((a.B g ab).T ac.o) 4 _ Z;intro R b a A c B y;have bU:=Sv 9 c 2;refine .c (be.o b<|aG.o.kv a) ?_;rintro m i ⟨aL,aM⟩;subst aL;exact⟨_,Z,Z,a.T<|aM.M a.size,Qe⟩;intro R b a A c B y;have bV:=Sv 10 c 3;refine .h λaN C=>?_;go_simp;rw[Rl Y];exact C ⟨(by rw[ae.o];exact RF Value.string<|kW am<|[58,32]),a,Qe⟩;exact .f 1;exact .l 12 5 λ_ a=>kB ((a.B g ab).T ac.o) 8 _ Z;intro R b a A c B y;have bW:=Sv 13 c 6;refine .h λaN C=>?_;go_simp;rw[RG Y];exact C ⟨Z,a,Qe⟩;intro R b a A c B y;have bA:=(Cb e v<|a.B e bd).T bt.o;exact .l 14 (c 7 _ Z Z) bA ⟨Z,a,Qa⟩;intro R b a A c B y;have bX:=Sv 15 c 8;refine .c (bf.o b<|aG.o.kv a) ?_;rintro m i ⟨aL,aM⟩;subst aL;exact⟨_,Z,Z,a.T<|aM.M a.size,Qe⟩;intro R b a A c B y;have bY:=Sv 11 c 4;have bZ:=Sv 16 c 9;refine .h λaN C=>?_;go_simp;rw[Rl Y];exact C ⟨(by rw[af.o];exact RF Value.string<|kW au ao),a,Qe⟩;intro R b a A c B y;have ca:=Sv 7 c 0;have cb:=Sv 17 c 10;refine .h λaN C=>?_;go_simp;rw[Rl Y];exact C ⟨(by rw[ag.o];exact RF Value.string<|kW ad av),a,Qe⟩;exact .v 18 11;intro bB bg bh bi bC;have bj:bB 12=tx l:=bi 12 Ur;have D:=X bh;clear bi bC bh;simp only[nE,bj];clear bj;have S:=X<|aE.o.T<|D.o.M aE.o.size;have cc:=D.o.size;have bk:=aG.o.kv D.o;have bl:g<bg:=Y;have⟨G,I,J,K,L,M,N,O,P⟩:=kQ<|(D.o.B g ab).T ac.o;by_cases aO:k=2
 .subst aO;obtain⟨T,aw⟩:∃z,f[1]?=some z:=Gx<|W V.o.1;have⟨cd,ce,bD,aP,bE,bm,bn⟩:=bu.o.ll mg.ok 1 T aw;injection aP with aP;injection aP with bF bG;subst bF bG;have bH:bD=[.int .i64 T]:=bm;subst bH;have aQ:=bn 0 _ Z;rw[Nat.one_mul,Q3]at aQ;have bo:=(Cb e (v+1)<|((D.o.B e bd).T<|aE.o.B e bb)).T aQ;have aR:=bv.o T<|QV aw;have aS:=X<|uA T aR bg bk;have bI:=RZ T aR.1.1 aR.1.2;have bp:=X aw;have cf:(2:Int)<=(x:Int):=Y;clear bm bn bE aw aQ bk;have⟨ax,aT⟩:=Xq<|Lib.itoa T;rw[<-aT]at aS bI;have bq:=X aT;clear aT;by_cases ah:r=1
  .subst ah;go_wp2_with fail;apply aS.o.M;rintro m aU ⟨rfl,w⟩;have aV:=X w;have bJ:g<aU:=W w.size;clear G I J K L M N O P bo;have⟨G,I,J,K,L,M,N,O,P⟩:=kQ<|(w.B g bl).T<|(D.o.B g ab).T ac.o;clear w;go_wp2_with fail;go_ret;refine⟨?_,S.o.T<|aV.o.M S.o.size⟩;have m:=(show qc ⟨n,p,q,j,d,1,s,t,f⟩=(l++([32,61,32]++ax))++[32,102,97,105,108,115]by have E:f.length=2:=V.o.1;unfold qc;simp only[al.o,SD,RG E,T6,bp.o];rw[<-Q.o,<-aq.o,<-ar.o,<-bq.o];simp only[ag.o,af.o,ae.o,Rv,Sq,Sa])
   rw[m];show Ending.returned (.string<|(⟨l.toArray⟩:ByteArray)++(⟨[32,61,32].toArray⟩++⟨ax.toArray⟩)++⟨[32,102,97,105,108,115].toArray⟩)=_;rw[kW,kW,kW]
  go_wp2_with fail;apply aS.o.M;rintro m aU ⟨rfl,w⟩;have aV:=X w;have bJ:g<aU:=W w.size;clear G I J K L M N O P bo;have⟨G,I,J,K,L,M,N,O,P⟩:=kQ<|(w.B g bl).T<|(D.o.B g ab).T ac.o;clear w;go_wp2_with fail;go_ret;refine⟨?_,S.o.T<|aV.o.M S.o.size⟩;have m:=(show qc ⟨n,p,q,j,d,r,s,t,f⟩=l++([32,61,32]++ax)by have E:f.length=2:=V.o.1;unfold qc;simp only[al.o,SD,RG E,Rl ah,bp.o];rw[<-Q.o,<-aq.o,<-ar.o,<-bq.o];simp only[ag.o,af.o,ae.o,Rv,Sq,Sa])
  rw[m];show Ending.returned (.string<|(⟨l.toArray⟩:ByteArray)++(⟨[32,61,32].toArray⟩++⟨ax.toArray⟩))=_;rw[kW,kW]
 have cg:¬(k:Int)=2:=Y;by_cases ah:r=1
 .subst ah;go_wp2_with fail;go_ret;refine⟨?_,S.o⟩;have m:=(show qc ⟨n,p,q,j,d,1,s,t,f⟩=l++[32,102,97,105,108,115]by have E:¬f.length=2:=(by rw[V.o.1];exact aO);unfold qc;simp only[al.o,SD,Rl E,T6];rw[<-Q.o,<-aq.o,<-ar.o];simp only[ag.o,af.o,ae.o,Rv,Sq,Sa])
  rw[m];show Ending.returned (.string<|(⟨l.toArray⟩:ByteArray)++⟨[32,102,97,105,108,115].toArray⟩)=_;rw[kW]
 go_wp2_with fail;go_ret;refine⟨?_,S.o⟩;have m:=(show qc ⟨n,p,q,j,d,r,s,t,f⟩=l by have E:¬f.length=2:=(by rw[V.o.1];exact aO);unfold qc;simp only[al.o,SD,Rl E,Rl ah];rw[<-Q.o,<-aq.o,<-ar.o];simp only[ag.o,af.o,ae.o,Rv,Sq,Sa])
 rw[m];rfl
def xM{c:List UInt8->Prop}:∀{b:List Hd} {l:List<|List UInt8},(∀d∈l,c d)->(∀h∈b,c h.name)->∀a∈mW l b,c a
 |[],l,hl,_,a,hy=>hl a hy
 |h::b,l,hl,hh,a,hy=>by have f:a∈mW (pY l h.name) b:=hy;refine xM (l:=pY l h.name) (λd e=>?_) (λg i=>hh g<|SY _ i) a f;rcases xh e with e|rfl;exact hl d e;exact hh h<|Ss ..
def ud{P:List UInt8->Prop}:∀{b:List<|List Hd} {l:List<|List UInt8},(∀c∈l,P c)->(∀hs∈b,∀d∈hs,P d.name)->∀a∈lK l b,P a
 |[],l,hl,_,a,hy=>hl a hy
 |hs::b,l,hl,hh,a,hy=>by have e:a∈lK (mW l hs) b:=hy;exact ud (l:=mW l hs) (λc f=>xM hl (hh hs<|Ss ..) c f) (λg i=>hh g<|SY _ i) a e
def xm{P:List UInt8->Prop}{a:List<|List UInt8}(d:P [])(e:∀b∈a,P b)(c:Nat):P<|a[c]?.getD []:=by
 cases hx:a[c]? with
 |none=>exact d
 |some b=>exact e b<|QV hx
def mo.P1{e}(i:mo e):P0<|kG e:=by
 refine⟨λf=>?_,λf=>?_,λf q=>?_⟩;unfold cN;split;refine xm (P:=λa=>a.length<=12) Us (λa b=>?_) _;obtain⟨c,d,rfl⟩:=R6.1 b;exact nK (i.kF c d).name;simp;unfold fN;split;refine xm (P:=λa=>a.length<=12) Us (λa b=>?_) _;obtain⟨c,d,rfl⟩:=R6.1 b;exact nK<|i.kN c d;simp;unfold hN;split;refine xm (P:=λa=>a.length<=12) Us (λa b=>?_) _;unfold hL at b;split at b;have g:a∈((lL e)[f.toNat]?.getD []):=b;cases hn:(lL e)[f.toNat]? with
 |none=>rw[hn]at g;simp at g
 |some l=>rw[hn]at g;obtain⟨c,d,rfl⟩:=R6.1<|QV hn;have j:=i.kF c d;exact ud (P:=λa=>a.length<=12) Us (λk m n p=>nK ((j.lH k m).2 n p).name) a g
 simp at b;simp
def rN{c:Nm}{a:Ev}(b:fits c a=true):arr a=1\/arr a=2\/arr a=3\/(arr a=4/\a.args.length<=4)\/(arr a=5/\a.args.length<=4)\/(arr a=6/\a.args.length<=4)\/(arr a=8/\a.args.length<=4)\/(arr a=9/\a.args.length<=4)\/(arr a=10/\1<=a.args.length/\a.args.length<=2)\/arr a=11:=by unfold fits at b;split at b<;>simp_all [nR];split<;>omega
def GQ{a:Ev}(d:rS a.n)(e:∀b∈a.args,rS b):(qc a).length<=100:=by
 have g:=RZ a.n d.1 d.2;have f:∀c:Nat,(Lib.itoa<|a.args[c]?.getD 0).length<=21:=λc=>by
  cases hx:a.args[c]? with
  |none=>exact RZ _ Ur Ur
  |some b=>exact RZ _ (e b<|QV hx).1 (e b<|QV hx).2
 have i:=f 0;have j:=f 1;unfold qc;simp only[Q6,Rn,Rs];split<;>split<;>split<;>simp only[Q6,Rn,Rs]<;>omega
def kI.rX(b:ByteArray):∀(n a:Nat),b.size-a<=n->(oU b a).length<=n
 |0,a,h=>by rw[rR b a<|by omega];simp
 |n+1,a,h=>by by_cases c:a<b.size;have d:=qZ b a c;rw[tO b a c];have:=rX b n (rG b a) Y;simp;omega;rw[rR b a c];simp
def kI.vX(a:ByteArray):(lexB a).length<=a.size:=rX a _ _ Y
def qQ.tq(T:lj)(b:List UInt8)(a:Nat):Option Nat:=if ov T a=b then some (a+1)else none
def qQ.pC{a:Type}(T:lj)(b:List UInt8)(c:Nat->Option (a×Nat)):Nat->Nat->Option (List a×Nat)
 |0,_=>none
 |k+1,p=>if ov T p=b then
   match c (p+1)with
   |none=>none
   |some (x,q)=>match pC T b c k q with
    |some (l,r)=>some (x::l,r)
    |none=>none
  else some ([],p)
def xN(a b c d):(Instr.field 191 (.agg #[b,c,d]) 0).run prog a=.ok b a:=Ut
def nw{T:lj}{d:PV}{w}{pb pos q:Nat}(g:mh T d w pb pos)(b)(a:tq T b pos=some q)(i:b≠[]):Calls prog 69 #[.pointer pb,tx b] w λe w'=>(∃v,e=.returned v)/\lN T d w pb q w':=by
 unfold tq at a;by_cases c:ov T pos=b
 .rw[RG c]at a;injection a with a;subst a;have f:=(uC g b i)
  rw[R5.2 c]at f
  go_enter func69,ntmps69
  go_wp21;apply f.M;rintro e w' ⟨rfl,j⟩;go_wp21
  go_end0
  exact⟨⟨_,Z⟩,j⟩
 rw[Rl c]at a;cases a
def mC{T:lj}{d:PV}{e w}{b c:Nat}(f:lN T d e b c w)(a)(j:a≠[])(k:ov T c≠a):Calls prog 68 #[.pointer b,tx a] w λg w'=>g=.returned (.bool false)/\lN T d e b c w':=by have i:=uC f.1 a j;rw[Th k]at i;exact i.M λg w' ⟨l,m⟩=>⟨l,f.T m⟩
def sD{T:lj}{d:PV}{e f}{b c:Nat}(g:lN T d e b c f)(a)(k:a≠[])(l:ov T c=a):Calls prog 68 #[.pointer b,tx a] f λi w'=>i=.returned (.bool true)/\lN T d e b (c+1) w':=by have j:=uC g.1 a k;rw[R5.2 l]at j;exact j.M λi w' ⟨m,n⟩=>⟨m,g.T n⟩
def lN.refl{T:lj}{vQ:PV}{w}{pb pos:Nat}(a:mh T vQ w pb pos):lN T vQ w pb pos w:=⟨a,lC _ _⟩
def lN.kv{T:lj}{vQ:PV}{w0 w w'}{pb pos:Nat}(a:lN T vQ w0 pb pos w)(b:Below w w w'):lN T vQ w0 pb pos w':=a.T<|lN.of a.1 b
def lN.alloc{T:lj}{vQ:PV}{w0 w}{pb pos:Nat}(a:lN T vQ w0 pb pos w)(o):lN T vQ w0 pb pos<|w.alloc o:=a.kv<|(Below.refl _ _).alloc (QZ _) o
def J2.ok:lh J2 2:=⟨Y,λa=>by rw[a];rfl,λa c b=>by rw[a]at b;simp at b;rcases b with rfl|rfl<;>rfl,λa _=>a,λa _=>a⟩
def Bj(b:lj)(c:Nat)(d:List<|List UInt8×Nat):Prop:=∀a∈d,a.1≠[]/\ov b c≠a.1
abbrev Lr(a:Ex):Value:=.agg #[.int .u8 a.op,tx a.name,a.n,Nl]
def Il(a:lj)(b:PV)(c d:Nat)(e:Ex)(f:World)(g:Ending)(i:World):Prop:=g=.returned (Lr e)/\lN a b f c d i
def Bk(b:lj)(vQ:PV)(pb c d:Nat)(e:Ex)(f:FuncId):Prop:=∀a,mh b vQ a pb c->Calls prog f #[.pointer pb] a (Il b vQ pb d e a)
def zW{b:World}{a:Nat}{d e f g u0 u1 u2 u3:Value}{c:TypeId}(i:b.heap[a]?=some (.cells #[d,e,f,g] c)):
 ((((b.setCell a u0).setCell ⟨a,1,none⟩ u1).setCell ⟨a,2,none⟩ u2).setCell ⟨a,3,none⟩ u3).heap[a]?=some (.cells #[u0,u1,u2,u3] c):=kt<|kt<|kt<|kt i
def uY{e}{b:Nat}{g i}(a)(c:Nat)(f:e.heap[b]?=some (.cells (LG a).toArray g i))(j:a.length=c)(k:c<=100):kz J2 (λl=>l=b) e (b,c,c) a:=by
 subst j;refine⟨_,_,a.map λd=>[tx d.1,.int .u8 (d.2:Nat)],Z,QZ _,Y,λ_=>⟨b,0,Z,Z,λp q m=>?_⟩,?_⟩;rw[Re];simp only[World.cell?,f];simpa[LG]using m;clear f k;induction a with
 |nil=>trivial
 |cons d a n=>exact⟨Z,n⟩
structure qy(a b:World)(p q:Nat):Prop where
 os:b.os=a.os
 tape:b.tape=a.tape
 output:b.output=a.output
 size:a.heap.size<=b
 B:∀z,z<a.heap.size->z≠p->z≠q->b.heap[z]?=a.heap[z]?
def qy.refl(a)(p q:Nat):qy a a p q:=⟨Z,Z,Z,QZ _,λ_ _ _ _=>Z⟩
def qy.grown{d b e}{p q:Nat}(a:qy d b p q)(c:b.grownBy e<|some p):qy d e p q:=
 ⟨c.os.T a.os,c.tape.T a.tape,c.output.T a.output,Q8 a.size c.size,λf g i j=>(c.B f (QR g a.size) λk=>i<|by injection k).T<|a.B f g i j⟩
def qy.wZ{d e f}{g c:Nat}(a:qy d e g c)(b:e.grownBy f<|some c):qy d f g c:=
 ⟨b.os.T a.os,b.tape.T a.tape,b.output.T a.output,Q8 a.size b.size,λi j l k=>(b.B i (QR j a.size) λm=>k<|by injection m).T<|a.B i j l k⟩
def qy.lJ{d b e}{p q:Nat}{r}(a:qy d b p q)(c:b.grownBy e r)(g:∀z,r=some z->d<=z):qy d e p q:=
 ⟨c.os.T a.os,c.tape.T a.tape,c.output.T a.output,Q8 a.size c.size,λz f i j=>(c.B z (QR f a.size) λk=>W<|g z k.symm).T<|a.B z f i j⟩
def MN:(prog.info? 180).map (λa=>(a.zero,a.size,a.bytes))=some (some<|.agg lP,4,56):=Ut
def MQ:(prog.info? 175).map (λa=>(a.zero,a.size,a.bytes))=some (some<|.agg oS,6,112):=Ut
def MS:(prog.info? 9).map (λa=>(a.zero,a.size,a.bytes))=some (some Em,1,16):=Ut
def qQ.rJ{T:lj}{a b:Nat}{c}(d:vH T a=some (c,b)):a<b:=W<|(Go.Proofs.YtppncjcpdbhobaaGreatDoor.ru d).2.2.1
def MU:(prog.info? 111).map (λi=>(i.zero,i.size,i.bytes))=some (some<|.agg #[Em,Nl,Nl],3,64):=Ut
def one_set{b:World}{a:Nat}{u v:Value}{c:TypeId}(d:b.heap[a]?=some (.cells #[u] c)):(b.setCell a v).heap[a]?=some (.cells #[v] c):=kt d
structure Fr(lo pb:Nat)(w w':World):Prop where
 os:w'.os=w.os
 tape:w'.tape=w.tape
 output:w'.output=w.output
 size:w.heap.size<=w'
 B:∀q,q<lo->q≠pb->w'.heap[q]?=w.heap[q]?
def Fr.refl(a pb:Nat)(w):Fr a pb w w:=⟨Z,Z,Z,QZ _,λ_ _ _=>Z⟩
def MW:(prog.info? 93).map (λi=>(i.zero,i.size,i.bytes))=some (some<|.agg #[Em,false],2,24):=Ut
def MZ:(prog.info? 98).map (λi=>(i.zero,i.size,i.bytes))=some (some<|.agg #[Em,Nl,Nl],3,64):=Ut
structure lI.P3(sc:Sc):Prop where
 ints:sc.ints<=3
 params:sc.params<=2
 kN:sc.kN<=2
 len:sc.oa.length<=3
 hs:∀l∈sc.oa,l.length<=3
 oa:∀l∈sc.oa,∀a∈l,a<=2
