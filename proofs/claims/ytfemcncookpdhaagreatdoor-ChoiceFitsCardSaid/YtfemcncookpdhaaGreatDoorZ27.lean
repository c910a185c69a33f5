import Derived.Test.YtfemcncookpdhaaGreatDoorZ22
import Derived.Test.YtfemcncookpdhaaGreatDoorZ24
set_option maxRecDepth 1000000
set_option maxHeartbeats 32000000
set_option linter.all false
namespace Go.Proofs.YtfemcncookpdhaaGreatDoor.C
open Go.Shelf Go.RowKit Go.Proofs.Tryz
def vH:Ren:=⟨λ|167=>40|240=>74|276=>118|n=>n,Tryz.pk.t,λ|n=>n⟩
theorem IU:Lays.n167 prog vH:={Tryz.vY with
 f167:=func40.T (Oy some PL)
 f240:=func74.T (Oy some PL)
 f276:=func118.T (Oy some PL)
 t5:=underlying5
 a5:=Tryz.isAgg5
 z5:=Tryz.sizeOf5
 v5:=Tryz.zeroValue5}
theorem G7:Builder.Extra prog vH:={
 sizeBuilder:=PL
 liesBuilder:=PL
 t5:=underlying5
 a5:=Tryz.isAgg5
 z5:=Tryz.sizeOf5
 v5:=Tryz.zeroValue5
 infoByte:=PL
 cellsByte:=PL
 sizeByte:=PL
 neB5:=PM}
theorem C7(B b:Nat)(a)(c:Int)(w)(h:Lib.IsBuilder 130 5 B b a w)(d:a.length+1<=140737488355328)(f:B<=w):
 Calls prog 40 #[.pointer (some ⟨b,0,none⟩),.int .u8 c] w λe w'=>e=.returned .nilIface/\(Lib.BuilderAt 130 5 B b (.pointer (some ⟨b,0,none⟩)) (a++[.int .u8 c]) w'/\Below B w w'):=Any.Builder_WriteByte IU G7 B b a c w h d f
theorem zT(B b:Nat)(a s w)(h:Lib.IsBuilder 130 5 B b a w)(c:a.length+s.size<=140737488355328)(d:B<=w):
 Calls prog 38 #[.pointer (some ⟨b,0,none⟩),.string s] w λe w'=>e=.returned (.tuple #[.int .i64 s.size,.nilIface])/\(Lib.BuilderAt 130 5 B b (.pointer (some ⟨b,0,none⟩)) (a++Lib.strCells s) w'/\Below B w w'):=Any.Builder_WriteString IQ G6 B b a s w h c d
end Go.Proofs.YtfemcncookpdhaaGreatDoor.C
namespace Go.Proofs.YtfemcncookpdhaaGreatDoor.C
open Go.RowKit Go.Proofs.Tryz
theorem xq{k:kj.Key}(h:kj.nC k=true):(kj.oY k).length<=88:=by have a:=join_le 21 _ (kj.BJ h);have b:=(kj.uw k).1;unfold kj.oY;omega
theorem BK(k:kj.Key)(w)(u:Laid w)(h:kj.nC k=true):Calls prog 75 #[po k] w (oC (kj.oY k) w):=by
 obtain⟨x,y,hz0,z,A⟩:=N4 AR;have al:=xq h;have Z:=kj.uw k;have B:=λW=>uv k W;have:Ag k=0:=by unfold Ag;rw[h];rfl
 rw[this]at B;clear this;obtain⟨⟨am,an⟩,⟨aa,ao⟩,⟨ap,aq⟩,ar,au⟩:=kj.oF h;have C:=λW base v D ab ac=>xp W base v (kj.oa k) D ab ac (by show(kj.oY k).length<=_;omega);have ad:Lib.join (kj.oa k) [32]=kj.oY k:=rfl;rw[ad]at C;generalize kj.oY k=T at*;have hK:kj.oa k=[kj.words.getD k.kind.toNat [],Lib.itoa k.a]++(if kj.qm k.kind=true then [Lib.itoa k.b]else [])++[Lib.itoa k.n]:=rfl;rw[hK]at C Z;have N:=λW (u:Laid W)=>u.word k.kind.toNat PJ;generalize kj.words.getD k.kind.toNat []=m at*;have O:po k=.agg #[.int .u8 k.kind,k.a,k.b,k.n]:=rfl;rw[O]at B;rw[O];generalize k.kind=ae at*;generalize k.a=b at*;generalize k.b=i at*;generalize k.n=a at*;obtain⟨t,rfl⟩:=Int.eq_ofNat_of_zero_le (show 0<=ae from PJ);rw[Oq]at N;have P:=u;have af:=λW=>C8 b W aa PJ
 go_enter func75,ntmps75
 go_wp2_with fail;refine(B _).M ?_;rintro e c ⟨rfl,d⟩;obtain⟨j,ag,Q⟩:=Mg d;obtain⟨E,F,G,I⟩:=qg Q;have R:=P.kh j;have av:=N c R;have aw:(0:Int)<=(t:Int):=PJ
 have ax:(t:Int)<10:=PJ
 go_wp2_with fail;go_still_tail 7,PL
 still_call (af _)
 try refine wpStill_nil ?_
 change wpList _ _ _ _ _ c.drew;have ah:Hid (Below w w c.drew):=⟨j.os,j.tape,j.output,j.size,j.B⟩
 have ai:Hid (Laid c.drew):=R;have S:Hid (c.drew.heap[w.heap.size]?=_):=Q;have ay:w+1<=c.drew.heap.size:=ag;generalize c.drew=l at*;obtain⟨E,F,G,I⟩:=qg S.o;have az:w.heap.size<l:=PJ
 go_wp2_with fail;have n:Fx w (l.alloc (.cells #[uI m,uI (Lib.itoa b)] 9)) #[.int .u8 (t:Int),b,i,a] 59 (.slice (some ⟨l,0,none⟩) 2 2) [m,Lib.itoa b]:=
  ⟨ah.o.alloc PJ _,ai.o.kh (Ba _ _),(Ot _ _ _ PJ).T S.o,yT l (w+1) [m,Lib.itoa b] PJ PK,PO,P.low⟩
 generalize l.alloc (.cells #[uI m,uI (Lib.itoa b)] 9)=U at*;generalize(Value.slice (some ⟨l,0,none⟩) 2 2)=aA at*;refine(G9 _ _).M ?_;rintro e w' ⟨rfl,rfl⟩;obtain⟨p,J⟩:∃p,kj.qm (t:Int)=p:=⟨_,rfl⟩
 rw[J];obtain⟨E,F,G,I⟩:=qg n.blk;have V:Hid (∀(W:World) (base:Nat) (v:Value),Words W base v ([m,Lib.itoa b]++(if p=true then [Lib.itoa i]else [])++[Lib.itoa a])->Calls prog 78 #[v,.string ⟨#[32]⟩] W (oC T W)):=(λW base v D=>by have:=C W base v (by rw[J];exact D);rw[J]at this;exact this PK (by cases p<;>simp))
 cases p
 .go_wp2_with fail;refine(nY a U n.laid PJ PJ).M ?_;rintro e q ⟨rfl,d⟩;have f:=(n.call d)
  go_wp2_with (at_builtin;refine Oo _ rfl _ _ 49 rfl (w.heap.size+1) 9 x _ 1 16 underlying49 y hz0 z A rfl PM _ _ _ rfl (f.words.alloc _) ⟨q,0,none⟩ 1 1 (strs [Lib.itoa a]) rfl rfl ?c1 (nO _) ?c3 ?c4 ?c5 ?_);case c1=>exact lU q (strs [Lib.itoa a]) 9
  case c3=>unfold maxLen;simp
  case c4=>simp
  case c5=>have:=f.size;simp;omega
  intro aj X r s _;have g:=(f.app (ys:=[Lib.itoa a]) s r)
  go_wp2_with fail;refine(V.o _ _ _ g.words).M ?_;rintro e ak ⟨rfl,K⟩;go_wp2_with fail;go_ret;exact⟨rfl,g.kh.T (K.M g.kh.size)⟩
 go_wp2_with fail;refine(nY i U n.laid PJ PJ).M ?_;rintro e q ⟨rfl,d⟩;have f:=(n.call d)
 go_wp2_with (at_builtin;refine Oo _ rfl _ _ 49 rfl (w.heap.size+1) 9 x _ 1 16 underlying49 y hz0 z A rfl PM _ _ _ rfl (f.words.alloc _) ⟨q,0,none⟩ 1 1 (strs [Lib.itoa i]) rfl rfl ?c1 (nO _) ?c3 ?c4 ?c5 ?_);case c1=>exact lU q (strs [Lib.itoa i]) 9
 case c3=>unfold maxLen;simp
 case c4=>simp
 case c5=>have:=f.size;simp;omega
 intro aj X r s _;have g:=(f.app (ys:=[Lib.itoa i]) s r)
 obtain⟨E,F,G,I⟩:=qg g.blk;go_wp2_with fail;refine(nY a X g.laid PJ PJ).M ?_;rintro e Y ⟨rfl,d⟩;have L:=(g.call d)
 go_wp2_with (at_builtin;refine Oo _ rfl _ _ 49 rfl (w.heap.size+1) 9 x _ 1 16 underlying49 y hz0 z A rfl PM _ _ _ rfl (L.words.alloc _) ⟨Y,0,none⟩ 1 1 (strs [Lib.itoa a]) rfl rfl ?c1 (nO _) ?c3 ?c4 ?c5 ?_);case c1=>exact lU Y (strs [Lib.itoa a]) 9
 case c3=>unfold maxLen;simp
 case c4=>simp
 case c5=>have:=L.size;simp;omega
 intro aB aC r s _;have M:=(L.app (ys:=[Lib.itoa a]) s r)
 go_wp2_with fail;refine(V.o _ _ _ M.words).M ?_;rintro e ak ⟨rfl,K⟩;go_wp2_with fail;go_ret;exact⟨rfl,M.kh.T (K.M M.kh.size)⟩
theorem uy{x:kj.lJ}(h:kj.si x=true)(hr:kj.sX x):(∀a∈kj.mZ x,a.length<=88)/\(kj.mZ x).length<=8/\1<=(kj.mZ x).length:=by obtain⟨c,d,e⟩:=kj.pZ h;have f:=rQ h;refine⟨λa hy=>?_,?_,?_⟩;unfold kj.mZ at hy;simp only[OI,Oa,N7,Ow]at hy;rcases hy with((rfl|hy)|hy)|hy;exact xq c;split at hy;simp at hy;rcases hy with rfl|rfl;simp;have:=Lib.itoa_length_le x.t PJ PJ;omega;simp at hy;split at hy;simp at hy;rw[hy];have:=Lib.itoa_length_le x.d PJ PJ;omega;simp at hy;obtain⟨v,b,rfl⟩:=Ov.1 hy;have:=Lib.itoa_length_le v (hr v b).1 (hr v b).2;omega;unfold kj.mZ;split<;>split<;>simp<;>omega;unfold kj.mZ;simp
theorem rX{x:kj.lJ}(h:kj.si x=true)(hr:kj.sX x):(kj.oc x).length<=712:=by obtain⟨a,b,_⟩:=uy h hr;have:=join_le 88 _ a;unfold kj.oc;omega
theorem wO(r:Row)(x:kj.lJ)(w)(ar:Laid w)(ah:mF w w r x)(h:kj.si x=true)(hr:kj.sX x):Calls prog 39 #[pC r] w (oC (kj.oc x) w):=by
 obtain⟨G,I,hz0,J,K⟩:=N4 AR;obtain⟨aK,⟨aZ,ba⟩,⟨bb,bc⟩⟩:=kj.pZ h;have bd:=rQ h;have aR:=uy h hr;have be:=rX h hr;have ai:=λW base v aS=>xp W base v (kj.mZ x) aS PJ PJ (by show(kj.oc x).length<=_;omega);have aL:Lib.join (kj.mZ x) [32]=kj.oc x:=rfl;rw[aL]at ai;generalize kj.oc x=T at*;have hK:kj.mZ x=[kj.oY x.ku]++(if kj.oA x.ku.kind=true then [[97,116],Lib.itoa x.t]else [])++(if kj.qP x.ku.kind=true then [Lib.itoa x.d]else [])++x.args.map Lib.itoa:=rfl;rw[hK]at ai;have au:=λW (ar:Laid W)=>BK x.ku W ar aK;have an:=ah.lie;have aM:=ah.n;have aN:pC r=.agg #[.int .u8 r.ku.kind,r.ku.a,r.ku.b,r.ku.n,r.t,r.d,.slice r.p r.n r.c]:=rfl;have aO:po x.ku=.agg #[.int .u8 x.ku.kind,x.ku.a,x.ku.b,x.ku.n]:=rfl;rw[aO]at au;rw[aN,ah.ku,ah.t,ah.d,aM];generalize kj.oY x.ku=B at*;obtain⟨ao,av⟩:∃ao,kj.oA x.ku.kind=ao:=⟨_,rfl⟩
 obtain⟨aj,aw⟩:∃aj,kj.qP x.ku.kind=aj:=⟨_,rfl⟩
 rw[av,aw]at ai;have ap:=hr;have aT:=NA au;have ax:=ar;have Z:Hid (∀(W:World) (base:Nat) (v:Value),Words W base v ([B]++(if ao=true then [[97,116],Lib.itoa x.t]else [])++(if aj=true then [Lib.itoa x.d]else [])++x.args.map Lib.itoa)->Calls prog 78 #[v,.string ⟨#[32]⟩] W (oC T W)):=NA ai;have aU:=NA av;have aq:=NA aw;clear aN aO hK aL ai au av aw h aM aR aK;generalize x.ku.kind=aa at*;generalize x.ku.a=ab at*;generalize x.ku.b=ac at*;generalize x.ku.n=ad at*;generalize x.t=f at*;generalize x.d=g at*;generalize r.p=ae at*;generalize r.c=af at*
 go_enter func39,ntmps39
 go_wp2_with fail;refine(aT.o _ (ax.kh (Ba _ _))).M ?_;rintro e L ⟨rfl,d⟩;rw[NB]at d;have ay:L.heap[w.heap.size]?=some (.cells #[.int .u8 aa,ab,ac,ad,f,g,.slice ae x.args.length af] 62 (0,0)):=(d.B _ PJ).T (NF w _);have aP:Below w w L:=(Ba w _).T (d.M PJ);have bf:w.heap.size<L:=by have:=d.size;simp at this;omega
 obtain⟨⟨a0,q,s,t,u,y,A⟩,_⟩:=tF ay;have aV:=NA ay;clear ay;go_wp2_with fail;clear a0 q s t u y A;have M:Fx w (L.alloc (.cells #[uI B] 9)) #[.int .u8 aa,ab,ac,ad,f,g,.slice ae x.args.length af] 62 (.slice (some ⟨L,0,none⟩) 1 1) [B]:=
  ⟨aP.alloc PJ _,(ax.kh aP).kh (Ba _ _),(Ot _ _ _ PJ).T aV.o,yT L (w+1) [B] PJ PK,PO,ax.low⟩
 generalize L.alloc (.cells #[uI B] 9)=az at*;generalize(Value.slice (some ⟨L,0,none⟩) 1 1)=bg at*;refine(yQ _ _).M ?_;rintro e w' ⟨rfl,rfl⟩;rw[aU.o];obtain⟨⟨a0,q,s,t,u,y,A⟩,_⟩:=tF M.blk;cases ao
 .cases aj
  .have _:=trivial;go_wp2_with fail;refine(pH _ _).M ?_;rintro e w' ⟨rfl,rfl⟩;rw[aq.o];go_wp2_with fail;have N:Hid (∀(W:World) (base:Nat) (v:Value),Words W base v (([B])++x.args.map Lib.itoa)->Calls prog 78 #[v,.string ⟨#[32]⟩] W (oC T W)):=NA (λW base v hw=>Z.o W base v (by simpa using hw));clear Z;generalize j:[B]=a at*;have aA:a.length<=4:=(by rw[<-j];simp);have aB:1<=a.length:=(by rw[<-j];simp);clear j;go_loopw [3,33] (λv i wr=>∃k:Nat,k<=x.args.length/\i=k/\Fx w wr #[.int .u8 aa,ab,ac,ad,f,g,.slice ae x.args.length af] 62 v (a++(x.args.take k).map Lib.itoa)) (λ_ i _=>x.args.length-(intOf i).toNat);case atStart=>exact⟨0,NP _,rfl,by simpa using M⟩
   case round=>
    obtain⟨k,aC,rfl,c⟩:=hrel;clear a0 q s t u y A;by_cases O:k<x.args.length
    .obtain⟨z,hz⟩:∃z,x.args[k]?=some z:=Gx O;have P:=ap z (NH hz);obtain⟨aD,aE⟩:=P;obtain⟨b,o,rfl,Q,hc⟩:=an.kI k (.int .i64 z) (by simp[pL,hz]);have aF:wr.cell? ⟨b,o+k,none⟩=some (.int .i64 z):=(c.kh.cell (p:=⟨b,o+k,none⟩) Q).T hc;have R:=NA hz;have C:(a++(x.args.take k).map Lib.itoa).length=a.length+k:=PO;generalize D:a++(x.args.take k).map Lib.itoa=aG at*;have S:=NA D;have E:=NA C;clear hz hc C D;go_wp2_with fail;refine(pc z wr c.laid PJ PJ).M ?_;rintro e F ⟨rfl,d⟩;have l:=(c.call d)
     go_wp2_with (at_builtin;refine Oo _ rfl _ _ 49 rfl (w.heap.size+1) 9 G _ 1 16 underlying49 I hz0 J K rfl PM _ _ _ rfl (l.words.alloc _) ⟨F,0,none⟩ 1 1 (strs [Lib.itoa z]) rfl rfl ?c1 (nO _) ?c3 ?c4 ?c5 ?_);case c1=>exact lU F (strs [Lib.itoa z]) 9
     case c3=>rw[E.o];unfold maxLen;omega
     case c4=>rw[E.o];omega
     case c5=>have:=l.size;simp;omega
     intro aH aI m n _;have U:=(l.app (ys:=[Lib.itoa z]) n m)
     go_wp2_with fail;go_roundw;case rel=>exact⟨k+1,PJ,PQ,by rw[N5,R.o,Pw,<-OG,S.o];exact U⟩
     case measure=>simp[intOf];omega
    obtain rfl:k=x.args.length:=PJ;go_wp2_with fail;refine(N.o _ _ _ (by have:=c.words;rw[List.take_length]at this;exact this)).M ?_;rintro e aJ ⟨rfl,V⟩;go_wp2_with fail;go_ret;exact⟨rfl,c.kh.T (V.M c.kh.size)⟩
  have _:=trivial;go_wp2_with fail;refine(pH _ _).M ?_;rintro e w' ⟨rfl,rfl⟩;rw[aq.o];go_wp2_with fail;clear a0 q s t u y A;refine(nY g az M.laid PJ PJ).M ?_;rintro e ak ⟨rfl,d⟩;have X:=(M.call d)
  go_wp2_with (at_builtin;refine Oo _ rfl _ _ 49 rfl (w.heap.size+1) 9 G _ 1 16 underlying49 I hz0 J K rfl PM _ _ _ rfl (X.words.alloc _) ⟨ak,0,none⟩ 1 1 (strs [Lib.itoa g]) rfl rfl ?c1 (nO _) ?c3 ?c4 ?c5 ?_);case c1=>exact lU ak (strs [Lib.itoa g]) 9
  case c3=>unfold maxLen;simp;try omega
  case c4=>simp;try omega
  case c5=>have:=X.size;simp;omega
  intro aW aX m n _;have al:=(X.app (ys:=[Lib.itoa g]) n m)
  have N:Hid (∀(W:World) (base:Nat) (v:Value),Words W base v (([B]++[Lib.itoa g])++x.args.map Lib.itoa)->Calls prog 78 #[v,.string ⟨#[32]⟩] W (oC T W)):=NA (λW base v hw=>Z.o W base v (by simpa using hw));generalize j:[B]++[Lib.itoa g]=a at*;have aA:a.length<=4:=(by rw[<-j];simp);have aB:1<=a.length:=(by rw[<-j];simp);clear j;obtain⟨⟨a0,q,s,t,u,y,A⟩,_⟩:=tF al.blk;go_wp2_with fail;go_loopw [3,33] (λv i wr=>∃k:Nat,k<=x.args.length/\i=k/\Fx w wr #[.int .u8 aa,ab,ac,ad,f,g,.slice ae x.args.length af] 62 v (a++(x.args.take k).map Lib.itoa)) (λ_ i _=>x.args.length-(intOf i).toNat);case atStart=>exact⟨0,NP _,rfl,by simpa using al⟩
  case round=>
   obtain⟨k,aC,rfl,c⟩:=hrel;clear a0 q s t u y A;by_cases O:k<x.args.length
   .obtain⟨z,hz⟩:∃z,x.args[k]?=some z:=Gx O;have P:=ap z (NH hz);obtain⟨aD,aE⟩:=P;obtain⟨b,o,rfl,Q,hc⟩:=an.kI k (.int .i64 z) (by simp[pL,hz]);have aF:wr.cell? ⟨b,o+k,none⟩=some (.int .i64 z):=(c.kh.cell (p:=⟨b,o+k,none⟩) Q).T hc;have R:=NA hz;have C:(a++(x.args.take k).map Lib.itoa).length=a.length+k:=PO;generalize D:a++(x.args.take k).map Lib.itoa=aG at*;have S:=NA D;have E:=NA C;clear hz hc C D;go_wp2_with fail;refine(pc z wr c.laid PJ PJ).M ?_;rintro e F ⟨rfl,d⟩;have l:=(c.call d)
    go_wp2_with (at_builtin;refine Oo _ rfl _ _ 49 rfl (w.heap.size+1) 9 G _ 1 16 underlying49 I hz0 J K rfl PM _ _ _ rfl (l.words.alloc _) ⟨F,0,none⟩ 1 1 (strs [Lib.itoa z]) rfl rfl ?c1 (nO _) ?c3 ?c4 ?c5 ?_);case c1=>exact lU F (strs [Lib.itoa z]) 9
    case c3=>rw[E.o];unfold maxLen;omega
    case c4=>rw[E.o];omega
    case c5=>have:=l.size;simp;omega
    intro aH aI m n _;have U:=(l.app (ys:=[Lib.itoa z]) n m)
    go_wp2_with fail;go_roundw;case rel=>exact⟨k+1,PJ,PQ,by rw[N5,R.o,Pw,<-OG,S.o];exact U⟩
    case measure=>simp[intOf];omega
   obtain rfl:k=x.args.length:=PJ;go_wp2_with fail;refine(N.o _ _ _ (by have:=c.words;rw[List.take_length]at this;exact this)).M ?_;rintro e aJ ⟨rfl,V⟩;go_wp2_with fail;go_ret;exact⟨rfl,c.kh.T (V.M c.kh.size)⟩
 cases aj
 .have _:=trivial;go_wp2_with fail;clear a0 q s t u y A;refine(nY f az M.laid PJ PJ).M ?_;rintro e am ⟨rfl,d⟩;have Y:=(M.call d)
  go_wp2_with (at_builtin;refine Oo _ rfl _ _ 49 rfl (w.heap.size+1) 9 G _ 1 16 underlying49 I hz0 J K rfl PM _ _ _ rfl (Y.words.alloc _) ⟨am,0,none⟩ 2 2 (strs [[97,116],Lib.itoa f]) rfl rfl ?c1 (nO _) ?c3 ?c4 ?c5 ?_);case c1=>exact lU am (strs [[97,116],Lib.itoa f]) 9
  case c3=>unfold maxLen;simp;try omega
  case c4=>simp;try omega
  case c5=>have:=Y.size;simp;omega
  intro aY aQ m n _;have ag:=(Y.app (ys:=[[97,116],Lib.itoa f]) n m)
  obtain⟨⟨a0,q,s,t,u,y,A⟩,_⟩:=tF ag.blk;go_wp2_with fail;refine(pH _ _).M ?_;rintro e w' ⟨rfl,rfl⟩;rw[aq.o];go_wp2_with fail;have N:Hid (∀(W:World) (base:Nat) (v:Value),Words W base v (([B]++[[97,116],Lib.itoa f])++x.args.map Lib.itoa)->Calls prog 78 #[v,.string ⟨#[32]⟩] W (oC T W)):=NA (λW base v hw=>Z.o W base v (by simpa using hw));clear Z;generalize j:[B]++[[97,116],Lib.itoa f]=a at*;have aA:a.length<=4:=(by rw[<-j];simp);have aB:1<=a.length:=(by rw[<-j];simp);clear j;go_loopw [3,33] (λv i wr=>∃k:Nat,k<=x.args.length/\i=k/\Fx w wr #[.int .u8 aa,ab,ac,ad,f,g,.slice ae x.args.length af] 62 v (a++(x.args.take k).map Lib.itoa)) (λ_ i _=>x.args.length-(intOf i).toNat);case atStart=>exact⟨0,NP _,rfl,by simpa using ag⟩
  case round=>
   obtain⟨k,aC,rfl,c⟩:=hrel;clear a0 q s t u y A;by_cases O:k<x.args.length
   .obtain⟨z,hz⟩:∃z,x.args[k]?=some z:=Gx O;have P:=ap z (NH hz);obtain⟨aD,aE⟩:=P;obtain⟨b,o,rfl,Q,hc⟩:=an.kI k (.int .i64 z) (by simp[pL,hz]);have aF:wr.cell? ⟨b,o+k,none⟩=some (.int .i64 z):=(c.kh.cell (p:=⟨b,o+k,none⟩) Q).T hc;have R:=NA hz;have C:(a++(x.args.take k).map Lib.itoa).length=a.length+k:=PO;generalize D:a++(x.args.take k).map Lib.itoa=aG at*;have S:=NA D;have E:=NA C;clear hz hc C D;go_wp2_with fail;refine(pc z wr c.laid PJ PJ).M ?_;rintro e F ⟨rfl,d⟩;have l:=(c.call d)
    go_wp2_with (at_builtin;refine Oo _ rfl _ _ 49 rfl (w.heap.size+1) 9 G _ 1 16 underlying49 I hz0 J K rfl PM _ _ _ rfl (l.words.alloc _) ⟨F,0,none⟩ 1 1 (strs [Lib.itoa z]) rfl rfl ?c1 (nO _) ?c3 ?c4 ?c5 ?_);case c1=>exact lU F (strs [Lib.itoa z]) 9
    case c3=>rw[E.o];unfold maxLen;omega
    case c4=>rw[E.o];omega
    case c5=>have:=l.size;simp;omega
    intro aH aI m n _;have U:=(l.app (ys:=[Lib.itoa z]) n m)
    go_wp2_with fail;go_roundw;case rel=>exact⟨k+1,PJ,PQ,by rw[N5,R.o,Pw,<-OG,S.o];exact U⟩
    case measure=>simp[intOf];omega
   obtain rfl:k=x.args.length:=PJ;go_wp2_with fail;refine(N.o _ _ _ (by have:=c.words;rw[List.take_length]at this;exact this)).M ?_;rintro e aJ ⟨rfl,V⟩;go_wp2_with fail;go_ret;exact⟨rfl,c.kh.T (V.M c.kh.size)⟩
 have _:=trivial;go_wp2_with fail;clear a0 q s t u y A;refine(nY f az M.laid PJ PJ).M ?_;rintro e am ⟨rfl,d⟩;have Y:=(M.call d)
 go_wp2_with (at_builtin;refine Oo _ rfl _ _ 49 rfl (w.heap.size+1) 9 G _ 1 16 underlying49 I hz0 J K rfl PM _ _ _ rfl (Y.words.alloc _) ⟨am,0,none⟩ 2 2 (strs [[97,116],Lib.itoa f]) rfl rfl ?c1 (nO _) ?c3 ?c4 ?c5 ?_);case c1=>exact lU am (strs [[97,116],Lib.itoa f]) 9
 case c3=>unfold maxLen;simp;try omega
 case c4=>simp;try omega
 case c5=>have:=Y.size;simp;omega
 intro aY aQ m n _;have ag:=(Y.app (ys:=[[97,116],Lib.itoa f]) n m)
 obtain⟨⟨a0,q,s,t,u,y,A⟩,_⟩:=tF ag.blk;go_wp2_with fail;refine(pH _ _).M ?_;rintro e w' ⟨rfl,rfl⟩;rw[aq.o];go_wp2_with fail;clear a0 q s t u y A;refine(nY g aQ ag.laid PJ PJ).M ?_;rintro e ak ⟨rfl,d⟩;have X:=(ag.call d)
 go_wp2_with (at_builtin;refine Oo _ rfl _ _ 49 rfl (w.heap.size+1) 9 G _ 1 16 underlying49 I hz0 J K rfl PM _ _ _ rfl (X.words.alloc _) ⟨ak,0,none⟩ 1 1 (strs [Lib.itoa g]) rfl rfl ?c1 (nO _) ?c3 ?c4 ?c5 ?_);case c1=>exact lU ak (strs [Lib.itoa g]) 9
 case c3=>unfold maxLen;simp;try omega
 case c4=>simp;try omega
 case c5=>have:=X.size;simp;omega
 intro aW aX m n _;have al:=(X.app (ys:=[Lib.itoa g]) n m)
 have N:Hid (∀(W:World) (base:Nat) (v:Value),Words W base v (([B]++[[97,116],Lib.itoa f]++[Lib.itoa g])++x.args.map Lib.itoa)->Calls prog 78 #[v,.string ⟨#[32]⟩] W (oC T W)):=NA (λW base v hw=>Z.o W base v (by simpa using hw));generalize j:[B]++[[97,116],Lib.itoa f]++[Lib.itoa g]=a at*;have aA:a.length<=4:=by rw[<-j];simp
 have aB:1<=a.length:=by rw[<-j];simp
 clear j;obtain⟨⟨a0,q,s,t,u,y,A⟩,_⟩:=tF al.blk;go_wp2_with fail;go_loopw [3,33] (λv i wr=>∃k:Nat,k<=x.args.length/\i=k/\Fx w wr #[.int .u8 aa,ab,ac,ad,f,g,.slice ae x.args.length af] 62 v (a++(x.args.take k).map Lib.itoa)) (λ_ i _=>x.args.length-(intOf i).toNat);case atStart=>exact⟨0,NP _,rfl,by simpa using al⟩
 case round=>
  obtain⟨k,aC,rfl,c⟩:=hrel;clear a0 q s t u y A;by_cases O:k<x.args.length
  .obtain⟨z,hz⟩:∃z,x.args[k]?=some z:=Gx O;have P:=ap z (NH hz);obtain⟨aD,aE⟩:=P;obtain⟨b,o,rfl,Q,hc⟩:=an.kI k (.int .i64 z) (by simp[pL,hz]);have aF:wr.cell? ⟨b,o+k,none⟩=some (.int .i64 z):=(c.kh.cell (p:=⟨b,o+k,none⟩) Q).T hc;have R:=NA hz;have C:(a++(x.args.take k).map Lib.itoa).length=a.length+k:=PO;generalize D:a++(x.args.take k).map Lib.itoa=aG at*;have S:=NA D;have E:=NA C;clear hz hc C D;go_wp2_with fail;refine(pc z wr c.laid PJ PJ).M ?_;rintro e F ⟨rfl,d⟩;have l:=(c.call d)
   go_wp2_with (at_builtin;refine Oo _ rfl _ _ 49 rfl (w.heap.size+1) 9 G _ 1 16 underlying49 I hz0 J K rfl PM _ _ _ rfl (l.words.alloc _) ⟨F,0,none⟩ 1 1 (strs [Lib.itoa z]) rfl rfl ?c1 (nO _) ?c3 ?c4 ?c5 ?_);case c1=>exact lU F (strs [Lib.itoa z]) 9
   case c3=>rw[E.o];unfold maxLen;omega
   case c4=>rw[E.o];omega
   case c5=>have:=l.size;simp;omega
   intro aH aI m n _;have U:=(l.app (ys:=[Lib.itoa z]) n m)
   go_wp2_with fail;go_roundw;case rel=>exact⟨k+1,PJ,PQ,by rw[N5,R.o,Pw,<-OG,S.o];exact U⟩
   case measure=>simp[intOf];omega
  obtain rfl:k=x.args.length:=PJ;go_wp2_with fail;refine(N.o _ _ _ (by have:=c.words;rw[List.take_length]at this;exact this)).M ?_;rintro e aJ ⟨rfl,V⟩;go_wp2_with fail;go_ret;exact⟨rfl,c.kh.T (V.M c.kh.size)⟩
theorem I0(a)(n c:Nat)(w):Calls prog 15 #[.agg #[.slice a n c]] w λe w'=>e=.returned (.int .i64 n)/\Below w w w':=by
 go_enter func15,ntmps15
 go_wp2;go_ret;exact⟨rfl,Ba _ _⟩
theorem Ff{T e}{B b:Nat}{j w w'}(h:Lib.IsBuilder T e B b j w)(a:Below w w w'):Lib.IsBuilder T e B b j w':=by rcases h with h|h;have c:=h.lt;obtain⟨d,v,f,g,i⟩:=h;exact .inl ⟨d,v,(a.B _ c).T f,sL g a,i⟩;have c:=h.lt;obtain⟨d,v,f,g,i⟩:=h;exact .inr ⟨d,v,(a.B _ c).T f,sL g a,i⟩
theorem Di(l:List kj.lJ)(h:∀x∈l,kj.si x=true/\kj.sX x):(kj.om l).length<=l.length*713:=by
 induction l with
 |nil=>simp[kj.om]
 |cons x r a=>have c:=rX (h x PK).1 (h x PK).2;have d:=a (λb hy=>h b (by simp[hy]));simp only[kj.om,List.flatMap_cons,N2,OP,OT]at*;omega
theorem zY(l:List kj.lJ)(k:Nat)(x:kj.lJ)(h:l[k]?=some x):kj.om (l.take (k+1))=kj.om (l.take k)++kj.oc x++[10]:=by rw[N5,h];simp[kj.om]
theorem AZ(T:List UInt8):(⟨T.toArray⟩:ByteArray).size=T.length:=P1
theorem rN(q)(a:List lM)(c:Nat)(w)(B:Laid w)(h:ny w w q a)(C:∀p∈a,kj.si p.2=true/\kj.sX p.2)(hn:a.length<=65536):Calls prog 16 #[.agg #[.slice q a.length c]] w (oC (kj.om (ll a)) w):=by
 have H:=h;have D:=B;have s:=C
 go_enter func16,ntmps16
 go_wp2_with fail;go_loopw [9] (λi wr=>∃k:Nat,k<=a.length/\i=k/\Lib.IsBuilder 130 5 (w.heap.size+1) (w+1) (Lib.byteCells (kj.om ((ll a).take k))) wr/\Below w w wr/\w.heap.size+2<=wr) (λi _=>a.length-(intOf i).toNat);case atStart=>refine⟨0,NP _,rfl,.inl ⟨NQ _,Nl,?_,World.ownsRow_nil _ _ _ _,PS⟩,(Ba _ _).alloc PK _,PK⟩;have t:=NF (w.alloc (.cells #[.slice q a.length c] 54)) (.cells #[.pointer none,Nl] 130);rw[NB]at t;exact t
 case round=>
  obtain⟨k,V,rfl,v,f,W⟩:=hrel;have X:(kj.om ((ll a).take k)).length<=k*713:=by
   have:=Di ((ll a).take k) (λx hx=>by obtain⟨p,hp,rfl⟩:=Ov.1 (OM hx);exact s p hp)
   rw[N0]at this;have E:min k (ll a).length<=k:=Nat.min_le_left _ _;exact NR this (Oz _ E)
  by_cases F:k<a.length
  .obtain⟨p,l⟩:∃p,a[k]?=some p:=Gx F;have G:=H.row p (NH l);have m:=s p (NH l);have I:(ll a)[k]?=some p.2:=(by simp[ll,l]);have J:=zY (ll a) k p.2 I;have Y:=rX m.1 m.2;obtain⟨b,o,rfl,K,hc⟩:=H.kI k p l;have d:∀j u,p.1.vs[j]?=some u->wr.cell? ⟨b,o+k*7+j,none⟩=some u:=λj u hu=>(f.cell (p:=⟨b,o+k*7+j,none⟩) K).T (hc j u hu);have c0:wr.cell? ⟨b,o+k*7,none⟩=some (.int .u8 p.1.ku.kind):=d 0 _ rfl;have c1:=d 1 _ rfl;have c2:=d 2 _ rfl;have c3:=d 3 _ rfl;have c4:=d 4 _ rfl;have c5:=d 5 _ rfl;have Z:=d 6 _ rfl;have L:=f.size;have y:=λ(o:Obj)=>wO p.1 p.2 (wr.alloc o) (D.kh (f.alloc PJ _)) (by rw[NB];exact G.kh (f.alloc PJ _) PJ) m.1 m.2;have M:pC p.1=.agg #[.int .u8 p.1.ku.kind,p.1.ku.a,p.1.ku.b,p.1.ku.n,p.1.t,p.1.d,.slice p.1.p p.1.n p.1.c]:=rfl;rw[M]at y;generalize kj.oc p.2=T at*;generalize kj.om ((ll a).take k)=N at*;go_wp2_with fail;refine(y _).M ?_;rintro e z ⟨rfl,n⟩;have g:Below wr wr z:=by rw[NB]at n;exact(Ba wr _).T (n.M PJ)
   have O:=(Ff v g)
   have r:=(f.T (g.M L))
   have aa:=g.size;go_wp2_with fail;refine(zT (w+1) (w+1) (Lib.byteCells N) ⟨T.toArray⟩ _ O (by rw[Lib.byteCells_length,AZ];omega) PJ).M ?_;rintro e ab ⟨rfl,P,g⟩;have Q:=(r.T (g.M PJ))
   have ac:=g.size;go_wp2_with fail;refine(C7 (w+1) (w+1) _ 10 _ (.inr P) (by rw[N2,Lib.byteCells_length,Lib.strCells_length,AZ];omega) PJ).M ?_;rintro e ad ⟨rfl,R,A⟩;have S:=(Q.T (A.M PJ))
   have ae:=A.size;go_wp2_with fail;go_roundw;case rel=>refine⟨k+1,PJ,PQ,?_,S,PJ⟩;rw[J,tz,tz];exact .inr R
   case measure=>simp[intOf];omega
  obtain rfl:k=a.length:=PJ;go_wp2_with fail;refine(Tryz.Builder_String_any (w+1) (w+1) _ _ v PJ).M ?_;rintro e z ⟨rfl,n⟩;have r:=(f.T (n.M PJ))
  have U:(ll a).take a.length=ll a:=NV (by simp[ll]);rw[U];go_wp2_with fail;go_ret;exact⟨rfl,r⟩
theorem K4:∀x∈[D8,Fy],kj.si x=true/\kj.sX x:=by intro x hx;simp only[Oa,N7,Ow]at hx;rcases hx with rfl|rfl;refine⟨PV,λv a=>?_⟩;simp[D8]at a;omega;refine⟨PV,λv a=>?_⟩;simp[Fy]at a
def A5(w:World)(e:Ending)(w':World):Prop:=e=.returned (.bool true)/\Below w w w'
end Go.Proofs.YtfemcncookpdhaaGreatDoor.C
namespace lX
open Go.Proofs.YtfemcncookpdhaaGreatDoor
theorem od{d:Nat}{s}{k:Nat}{x}(c:s.kind=(k:Int))(m:1<=k)(hx:forms[k]?=some x)(hn:(x.1=true->mI s.name=true)/\(x.1=false->s.name=[]))(a:(x.2.1=true->mI s.hd=true)/\(x.2.1=false->s.hd=[]))(b:x.2.2.1<=s.kV.length/\s.kV.length<=x.2.2.2.1)(f:x.2.2.2.2.1=false->s.th=[])(he:x.2.2.2.2.2=false->s.el=[])
  (g:∀e∈s.kV,ml De e) (i:s.th.length<=12/\s.el.length<=12) (j:∀x∈s.th,nB d x) (l:∀x∈s.el,nB d x):nB (d+1) s:=
 ⟨⟨x,PJ,by rw[c];simpa using hx,hn.1,hn.2,a.1,a.2,b.1,b.2,f,he⟩,g,i,j,l⟩
end lX
namespace Go.Proofs.YtfemcncookpdhaaGreatDoor
open Go.RowKit lX Go.Proofs.Tryz
abbrev xS(w:World)(lo:Nat)(v:Value)(l:List Nat):Prop:=kx pq 3 1 (λ_=>False) w lo v l
theorem Hi{b c v:Value}{w:World}(f:v.ownBlock=c.ownBlock\/v.ownBlock=some w.heap.size)(hz:∀z,b.ownBlock=some z->c.ownBlock≠some z/\z<w):∀z,v.ownBlock=some z->b.ownBlock≠some z:=λz a d=>by
 rcases f with h|h;exact(hz z d).1 (h.symm.T a);have e:z=w:=by rw[h]at a;injection a with a;exact a.symm
 have:=(hz z d).2;omega
end Go.Proofs.YtfemcncookpdhaaGreatDoor
namespace Go.Proofs.YtfemcncookpdhaaGreatDoor.C
open Go.ChangeShapes Go.WideShapes Go.ChangeAt Go.RowKit Go.Proofs.Tryz
theorem Dm:(Rows.laid_rootcause_choice_words:DataW Unit)=.agg (kj.words.map λz=>.lit (.string z)):=PL
def putCells(a:Array Value):Obj->Obj
 | .cells _ t frozen=>.cells a t frozen
 |o=>o
end Go.Proofs.YtfemcncookpdhaaGreatDoor.C
