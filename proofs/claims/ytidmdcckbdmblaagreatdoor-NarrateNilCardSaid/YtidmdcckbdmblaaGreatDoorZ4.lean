import Derived.Test.YtidmdcckbdmblaaGreatDoorZ2
import Derived.Test.YtidmdcckbdmblaaGreatDoorZ3
set_option maxRecDepth 1000000
set_option maxHeartbeats 32000000
set_option linter.all false
namespace Go.Proofs.YtidmdcckbdmblaaGreatDoor
open Go.RowKit jJ Go.Proofs.Tryz
theorem CC.pw{w0}{c:Nat}{d}(i:c<w0.heap.size)(hS:∀b,d b->b<w0.heap.size/\b≠c){x v w w'}(f:Good c w0.heap.size w w')(h:CC w0 d x v w):CC w0 d x v w':=by
 obtain⟨b,o,e,a,hc⟩:=h;have g:b<w/\b≠c/\b≠w0:=by rcases a with a|a;exact⟨a.2,LA a.1,LA a.1⟩;have:=hS b a.1;exact⟨a.2,this.2,LC⟩
 refine⟨b,o,e,?_,(Cb b o (f.2 b g.1 g.2.1 g.2.2)).T hc⟩;rcases a with a|a;exact .inl ⟨a.1,JI a.2 f.1⟩;exact .inr ⟨a.1,JI a.2 f.1⟩
theorem wC.pw{e:Nat}{w0 w w'}{a d:Nat}{o n:Int}{name f}{m c:Nat}{x}(g:e<w0.heap.size)(b:Good e w0.heap.size w w')(h:wC w0 a d o n name f m c x w):wC w0 a d o n name f m c x w':=
 ⟨⟨h.1.1,JI h.1.2 b.1⟩,(b.2 a h.1.2 (LA h.1.1) (LA h.1.1)).T h.2.1,C5 g b h.2.2⟩
theorem FJ.ng{w0 x v w w'}(c:NG w0 w w')(h:FJ w0 x v w):FJ w0 x v w':=by obtain⟨b,o,e,a,hc⟩:=h;exact⟨b,o,e,⟨a.1,JI a.2 c.1⟩,(Cb b o (c.2 b a)).T hc⟩
theorem lj.ng{a:Type}{R:Rel a}{T k:Nat}{P c wr}{o:Nat}{C d V}{xs:List a}{x b}(h:lj R T k P c wr o C d V xs x)(f:x.grownBy b V.ownBlock):NK wr x b:=.mj f (λz e=>(h.v z e).2)
theorem KG.sl{c d}{o:Nat}{C f}(h:KG c o C f d){e:Type}{R:Rel e}{k:Nat}(ok:jI R k){v}{xs:List e}(hs:jc R (Gt o c) c v xs):jc R (Gt o d) d v xs:=
 (hs.iV ok λb a=>h.blk a.2 (LA a.1)).M ok λb a=>⟨a.1,JI a.2 h.s⟩
theorem pU(n:Int)(w):Calls prog 264 #[.int .u8 n] w λe w'=>e=.returned (.bool (jg.jU n))/\w=w':=by
 cases h1:jg.jS n<;>cases h2:jg.kt n<;>cases h3:(n==95);all_goals
  (go_enter func264,ntmps264;go_wp2_with (first|(go_at_call 263;refine(lD _ _).M ?_;rintro e w' ⟨rfl,rfl⟩)|(go_at_call 266;refine(mG _ _).M ?_;rintro e w' ⟨rfl,rfl⟩));go_ret;exact⟨by simp[jg.jU,h1,h2,h3],rfl⟩)
theorem nA(s)(w:World)(hs:s.size<=maxLen):
  Calls prog 259 #[.string s,.func (.func 264) #[] #[]] w λe w'=>e=.returned (.int .i64 (jg.pre jg.jU s.data.toList))/\w=w':=
 lI _ _ (λ_ _=>LF) pU s w hs
theorem oO(s:ByteArray)(w)(hL:pE w):
  Calls prog 265 #[.string s] w λe w'=>e=.returned (.bool (jg.px s.data.toList))/\w=w':=by
 obtain⟨d,f,g⟩:=hL
 go_enter func265,ntmps265
 go_wp2_with (refine wpList_load_row rfl 439 _ rfl 9 rfl d _ f _ g oN rfl pT ?_)
 go_loop [4,6] (λ_ i=>∃k:Nat,k<=39/\i=k/\∀a,a<k->(jg.words[a]?.getD []==s.toList)=false) (λ_ i=>39-(intOf i).toNat)
 case atStart=>exact⟨0,JV _,rfl,LC⟩
 case round=>
  obtain⟨k,l,rfl,b⟩:=hrel;by_cases c:k<39
  .have m:=λw=>qI w k c;cases hq:(jg.words[k]?.getD []==s.toList)
   .go_wp2
    go_round
    case rel=>refine⟨k+1,LC,LI,λa j=>?_⟩;by_cases e:a=k;rw[e];exact hq;exact b a LC
    case measure=>simp[intOf];omega
   go_wp2;go_ret;exact⟨by rw[jg.Ao _ k c (by rw[<-K2];exact hq)];rfl,rfl⟩
  go_wp2;go_ret;exact⟨by rw[jg.wQ _ (λa j=>by rw[<-K2];exact b a LC)];rfl,rfl⟩
theorem Bi(s w)(hL:pE w)(f:0<s.size)(hs:s.size<=12)(g:jg.jS (s[0]).toNat=true)(hp:jg.pre jg.jU s.data.toList=s.size)(a:jg.px s.data.toList=false):
  Calls prog 210 #[.string s] w λe w'=>e=.returned (.tuple #[.int .u8 1,.int .i64 (s.size:Int)])/\w=w':=by
 have b:=hL;have c:=hp;have d:=a
 go_enter func210,ntmps210
 go_wp2_with (go_at_call 263;refine(lD _ _).M ?_;rintro e w' ⟨rfl,rfl⟩);refine(nA _ _ LN).M ?_;rintro e w' ⟨rfl,rfl⟩;rw[c];go_wp2_with fail;refine(oO _ _ b).M ?_;rintro e w' ⟨rfl,rfl⟩;rw[d];go_wp2_with fail
 go_ret2
 exact⟨rfl,rfl⟩
theorem xw(s w)(hL:pE w)(a:0<s.size)(hs:s.size<=12)(b:jg.jS (s[0]).toNat=true)(hp:jg.pre jg.jU s.data.toList=s.size)(c:jg.px s.data.toList=false):
  Calls prog 199 #[.string s] w λe w'=>e=.returned (.bool true)/\w=w':=by
 have d:=hL;have f:=hp;have g:=c;have i:s.toList≠[]:=by rw[K2];intro e;have j:=Km List.length e;rw[K1,Kc]at j;have k:s.data.size=s.size:=rfl;omega
 have he:s.toList.isEmpty=false:=by cases h:s.toList.isEmpty;rfl;exact absurd (List.isEmpty_iff.1 h) i
 go_enter func199,ntmps199
 go_wp2_with fail;refine(Bi s _ d a hs b f g).M ?_;rintro e w' ⟨rfl,rfl⟩;have l:((s.size:Int)==(s.size:Int))=true:=LG
 go_wp2_with fail;go_ret;exact⟨rfl,rfl⟩
theorem kG.pw{sc}(uf:sc.ints<=3/\sc.params<=2):∀{d:Nat} {e:Ex},kG sc d e->kB d e
 |0,_,h=>h.elim
 |d+1,e,h=>by
  rcases h with⟨f,i,g,_,c⟩|⟨f,i,g,c⟩|⟨f,hn,g,c⟩|⟨f,_,i,g,a,c,j⟩|⟨f,_,i,g,c⟩|⟨f,i,g,a,c,j⟩|⟨f,i,g,a,b,c,j,n⟩
  exact jN (k:=1) f (by omega) rfl (by rw[c];rfl) (λh=>by simp at h) (λ_=>i) (λ_=>g) (λh=>absurd rfl h) (by rw[c];simp);exact jN (k:=4) f (by omega) rfl (by rw[c];rfl) (λh=>by simp at h) (λ_=>i) (λh=>by omega) (λ_=>g) (by rw[c];simp);exact jN (k:=5) f (by omega) rfl (by rw[c];rfl) (λ_=>by rcases hn with⟨k,p,e⟩|⟨k,p,e⟩<;>rw[e];exact nY letters.1 (by omega);exact nY letters.2.1 (by omega)) (λh=>by simp at h) (λh=>by omega) (λ_=>g) (by rw[c];simp);exact jN (k:=6) f (by omega) rfl (by rw[c];rfl) (λ_=>by rw[i];exact nY letters.2.2.1 (by omega)) (λh=>by simp at h) (λh=>by omega) (λ_=>g) (by rw[c];simpa using kG.pw uf j);exact jN (k:=8) f (by omega) rfl (by rw[c];rfl) (λ_=>by rw[i];exact nY letters.2.2.1 (by omega)) (λh=>by simp at h) (λh=>by omega) (λ_=>g) (by rw[c];simp);exact jN (k:=9) f (by omega) rfl (by rw[c];rfl) (λh=>by simp at h) (λ_=>i) (λh=>by omega) (λ_=>g) (by rw[c];simpa using kG.pw uf j);have l:∀m∈e.args,kB d m:=(by rw[c];intro m hy;simp at hy;rcases hy with rfl|rfl;exact kG.pw uf j;exact kG.pw uf n);have q:e.op=11\/e.op=12\/e.op=13\/e.op=14\/e.op=15:=LC;rcases q with f|f|f|f|f;exact jN (k:=11) f LC rfl (by rw[c];rfl) (λh=>by simp at h) (λ_=>i) (λh=>LC) (λ_=>g) l;exact jN (k:=12) f LC rfl (by rw[c];rfl) (λh=>by simp at h) (λ_=>i) (λh=>LC) (λ_=>g) l;exact jN (k:=13) f LC rfl (by rw[c];rfl) (λh=>by simp at h) (λ_=>i) (λh=>LC) (λ_=>g) l;exact jN (k:=14) f LC rfl (by rw[c];rfl) (λh=>by simp at h) (λ_=>i) (λh=>LC) (λ_=>g) l;exact jN (k:=15) f LC rfl (by rw[c];rfl) (λh=>by simp at h) (λ_=>i) (λh=>LC) (λ_=>g) l
theorem mf.pw{sc}(uf:sc.ints<=3/\sc.params<=2)(hf:sc.jl<=2):∀{d:Nat} {e:Ex},mf sc d e->kB d e
 |0,_,h=>h.elim
 |d+1,e,h=>by
  rcases h with⟨c,i,g,f⟩|⟨c,hn,g,f⟩|⟨c,_,i,g,a,f,l⟩|⟨c,i,g,a,f,l⟩|⟨c,i,g,a,b,f,l,n⟩|⟨c,i,g,a,b,f,l,n⟩
  rcases c with c|c;exact jN (k:=2) c (by omega) rfl (by rw[f];rfl) (λh=>by simp at h) (λ_=>i) (λh=>by omega) (λ_=>g) (by rw[f];simp);exact jN (k:=3) c (by omega) rfl (by rw[f];rfl) (λh=>by simp at h) (λ_=>i) (λh=>by omega) (λ_=>g) (by rw[f];simp);exact jN (k:=5) c (by omega) rfl (by rw[f];rfl) (λ_=>by rcases hn with e|⟨k,q,e⟩<;>rw[e];exact nY letters.2.2.2.1 (by omega);exact nY letters.2.2.2.2.1 (by omega)) (λh=>by simp at h) (λh=>by omega) (λ_=>g) (by rw[f];simp);exact jN (k:=7) c (by omega) rfl (by rw[f];rfl) (λ_=>by rw[i];exact nY letters.2.2.1 (by omega)) (λh=>by simp at h) (λh=>by omega) (λ_=>g) (by rw[f];simpa using kG.pw uf l);exact jN (k:=10) c (by omega) rfl (by rw[f];rfl) (λh=>by simp at h) (λ_=>i) (λh=>by omega) (λ_=>g) (by rw[f];simpa using mf.pw uf hf l);have j:∀m∈e.args,kB d m:=(by rw[f];intro m hy;simp at hy;rcases hy with rfl|rfl;exact mf.pw uf hf l;exact mf.pw uf hf n);rcases c with c|c;exact jN (k:=22) c LC rfl (by rw[f];rfl) (λh=>by simp at h) (λ_=>i) (λh=>LC) (λ_=>g) j;exact jN (k:=23) c LC rfl (by rw[f];rfl) (λh=>by simp at h) (λ_=>i) (λh=>LC) (λ_=>g) j;have j:∀m∈e.args,kB d m:=(by rw[f];intro m hy;simp at hy;rcases hy with rfl|rfl;exact kG.pw uf l;exact kG.pw uf n);have p:e.op=16\/e.op=17\/e.op=18\/e.op=19\/e.op=20\/e.op=21:=LC;rcases p with c|c|c|c|c|c;exact jN (k:=16) c LC rfl (by rw[f];rfl) (λh=>by simp at h) (λ_=>i) (λh=>LC) (λ_=>g) j;exact jN (k:=17) c LC rfl (by rw[f];rfl) (λh=>by simp at h) (λ_=>i) (λh=>LC) (λ_=>g) j;exact jN (k:=18) c LC rfl (by rw[f];rfl) (λh=>by simp at h) (λ_=>i) (λh=>LC) (λ_=>g) j;exact jN (k:=19) c LC rfl (by rw[f];rfl) (λh=>by simp at h) (λ_=>i) (λh=>LC) (λ_=>g) j;exact jN (k:=20) c LC rfl (by rw[f];rfl) (λh=>by simp at h) (λ_=>i) (λh=>LC) (λ_=>g) j;exact jN (k:=21) c LC rfl (by rw[f];rfl) (λh=>by simp at h) (λ_=>i) (λh=>LC) (λ_=>g) j
theorem oT(g:FuncId)(D:kv g)(E:wD g)(d:Nat)(F:∀d',d=d'+1->yv g d'):yv g d:=by
 intro y w b o e r z m hr p s f;unfold kv at D;have G:=p.two;have I:=E y w b o d e r z m hr p s f;obtain⟨d',v,rfl,rfl,t⟩:=hr.open;obtain⟨_,J⟩:=p;obtain⟨T,c,rfl,hc⟩:=t.form;obtain⟨n,A⟩:=Xq e.args.length;rw[<-A]at t hc m G;have B:=m 3 _ rfl;have K:=(F d' rfl)
 go_enter func292,ntmps292
 go_wp2_with (refine I.M ?_;rintro e U ⟨rfl,j⟩;have L:=j;have V:=j.size;have W:=(Cb b (o+3) (j.B b s)).T B;clear j);go_loopw [15] (λi wr=>∃k:Nat,k<=n/\i=k/\Below w w wr) (λi _=>n-(intOf i).toNat);case atStart=>exact⟨0,JV _,rfl,L⟩
 case round=>
  obtain⟨k,X,rfl,a⟩:=hrel;have M:=a.size;have Y:=(Cb b (o+3) (a.B b s)).T B;by_cases Z:k<n
  .obtain⟨x,hx⟩:∃x,e.args[k]?=some x:=Gx (LA A);obtain⟨l,C,r,rfl,N,hr,O⟩:=t.jr (ki.ok .u8 d') k x hx;have P:l<w:=f l N;have Q:=(K y wr l (C+k*4) x r (z.to a) ((show At w l (C+k*4) r from O).iU a P) ((ki.ok .u8 d').iV hr (λq u=>a.B q (f q u))) (J x (JM hx)) LC (λq u=>LA (f q u)))
   have aa:(0:Int)<=(k:Int):=LC;have ab:(k:Int)<(n:Int):=LC;go_wp2_with fail;refine Q.M ?_;rintro e ac ⟨rfl,R⟩;have S:=(a.T (R.M M))
   go_wp2_with fail;go_roundw;case rel=>exact⟨k+1,LC,LI,S⟩
   case measure=>simp[intOf];omega
  obtain rfl:k=n:=LC;go_wp2_with fail;go_ret;exact⟨rfl,a⟩
def FM(d:Nat):Prop:=∀(a:Nat->Prop) (w:World) (b:Option Addr) (n c:Nat) (l:List St),jc (jH .u8 d) a w (.slice b n c) l->l.length<=12->(∀s∈l,lK d s)->jw d l<=40->d<=6->(∀q,a q->q<w)->
 Calls prog 272 #[.slice b n c] w (λe w'=>∃r:Nat,e=.returned (.int .i64 (r:Int))/\r<=d/\Below w w w')
theorem lW(g:FuncId)(am:kv g)(an:Ag g)(O w z)(p c1:Nat)(A)(s c2:Nat)(D)(c c3:Nat)(f)(hL:jV w)(hf:nE O w z p c1 A s c2 D c c3 f)(G:kr f):
  Calls prog 217 #[.agg #[tx f.name,.slice z p c1,.slice A s c2,.slice D c c3],.func (.func g) #[] #[]] w (jf (.bool true) w):=by
 unfold kv at am;have ao:=an;have W:=hf.jl;have X:=hf.kj;have P:=hf.jh;have hS:=hf.jY;have aU:p<=2:=by rw[<-W.len.1];exact G.yr
 have aV:s<=9:=by rw[<-X.len.1];exact G.AZ
 have aW:c<=3:=by rw[<-P.len.1];exact G.c3
 have aX:1<=c:=by rw[<-P.len.1];exact G.c1
 have aY:=W.len.2;have aZ:=X.len.2;have ba:=P.len.2;have bb:=JH W.len.1;have bc:=JH X.len.1;have ap:=JH P.len.1;have Y:Below w w (w.alloc (.cells #[tx f.name,.slice z p c1,.slice A s c2,.slice D c c3] 84)):=Ba _ _;have ad:=JK w (.cells #[tx f.name,.slice z p c1,.slice A s c2,.slice D c c3] 84);have bd:(w.alloc (.cells #[tx f.name,.slice z p c1,.slice A s c2,.slice D c c3] 84)).heap.size=w+1:=LG
 have Q:=(hf.iU Y)
 have aq:=G;have ar:=(hL.to Y)
 have be:=JH ad;clear hS ad
 go_enter func217,ntmps217
 go_wp2_with fail;generalize w.alloc (.cells #[tx f.name,.slice z p c1,.slice A s c2,.slice D c c3] 84)=B at*;have bf:w.heap.size<B:=LC
 have I:=JH Q.jY;have bg:=Q.jl;have bh:=Q.kj;have au:=Q.jh;have a:=(Below.refl B B)
 go_loopw [14] (λi wr=>∃k:Nat,k<=c/\i=k/\Below B B wr) (λi _=>c-(intOf i).toNat);case atStart=>exact⟨0,JV _,rfl,a⟩
 case round=>
  obtain⟨t,bi,rfl,a⟩:=hrel;have bj:=a.size;by_cases bk:t<c
  .obtain⟨E,hx⟩:∃x,f.jh[t]?=some x:=Gx (LA ap.o);obtain⟨ae,bl,r,rfl,J,hr,d⟩:=(au.iV (kL.ok .u8) (λq b=>a.B q (I.o q b))).jr (kL.ok .u8) t E hx;obtain⟨v1,v2,rfl,j,F⟩:=hr;obtain⟨av,cv,rfl,hcv⟩:=j.form;obtain⟨aw,ax,rfl,hce⟩:=F.form;have ay:=d 0 _ rfl;have az:=d 1 _ rfl;have aA:=d 2 _ rfl;rw[JT]at ay;have bm:ae<wr:=LA (I.o ae J);have aB:=JM hx;have bn:(0:Int)<=(t:Int):=LC;have bo:(t:Int)<(c:Int):=LC;clear d hx;have R:=aq.jh E aB;obtain⟨af,S⟩:=Xq E.vars.length;obtain⟨n,K⟩:=Xq E.jG.length;rw[<-S]at az j hcv;rw[<-K]at aA F hce;have bp:af<=5:=(by rw[S];exact R.yq);have bq:n<=2:=(by rw[K];exact R.v2);have br:1<=n:=(by rw[K];exact R.v1);have bs:=JH S.symm;have aC:=JH K.symm;obtain⟨C,L⟩:=Xq (wr.alloc (.cells #[tx E.name,.slice av af cv,.slice aw n ax] 176));have bt:C.heap.size=wr+1:=(by rw[L];simp);have ag:=(show Below B B C by rw[L];exact a.alloc LC _)
   have ah:wr.grownBy C none:=(by rw[L];exact Kd _ _ none);have bu:=(j.iV (nU.ok .u8) (w':=C) (λq b=>ah.B q (LA (I.o q b)) LG))
   have aD:=(F.iV (ly.ok .u8) (w':=C) (λq b=>ah.B q (LA (I.o q b)) LG))
   have T:=JH (show∀q,O q->q<C from λq b=>LA (I.o q b));clear S K;have aE:=(ar.to ag)
   go_wp2_with fail;rw[<-L];clear L;have a:=(Below.refl C C)
   go_loopw [21] (λi wr=>∃k:Nat,k<=n/\i=k/\Below C C wr) (λi _=>n-(intOf i).toNat);case atStart=>exact⟨0,JV _,rfl,a⟩
   case round=>
    obtain⟨u,bv,rfl,a⟩:=hrel;have a:=a;have bw:=a.size;by_cases bx:u<n
    .obtain⟨U,hx⟩:∃x,E.jG[u]?=some x:=Gx (LA aC.o);obtain⟨ai,bz,r,rfl,J,hr,d⟩:=(aD.iV (ly.ok .u8) (λq b=>a.B q (T.o q b))).jr (ly.ok .u8) u U hx;obtain⟨v1,rfl,j⟩:=hr;obtain⟨aF,aG,rfl,aH⟩:=j.form;have aj:=d 0 _ rfl;rw[JT,Kk]at aj;have bA:ai<wr:=LA (T.o ai J);have aI:=JM hx;have bB:(0:Int)<=(u:Int):=LC;have bC:(u:Int)<(n:Int):=LC;clear d hx;have V:=R.jG U aI;obtain⟨v,Z⟩:=Xq U.length;rw[<-Z]at aj j aH V;have bD:v<=3:=V.1;have aJ:=JH V;have aK:=JH Z.symm;obtain⟨l,M⟩:=Xq (wr.alloc (.cells #[.slice aF v aG] 182));have bE:l.heap.size=wr+1:=(by rw[M];simp);have aL:wr.grownBy l none:=(by rw[M];exact Kd _ _ none);have ak:=(show Below C C l by rw[M];exact a.alloc LC _)
     have aM:=(j.iV (kZ.ok .u8) (w':=l) (λq b=>aL.B q (LA (T.o q b)) LG))
     have N:=JH (show∀q,O q->q<l from λq b=>LA (T.o q b));have aN:=(aE.to ak)
     clear V Z;go_wp2_with fail;rw[<-M];clear M;have a:=(Below.refl l l)
     go_loopw [28] (λi wr=>∃k:Nat,k<=v/\i=k/\Below l l wr) (λi _=>v-(intOf i).toNat);case atStart=>exact⟨0,JV _,rfl,a⟩
     case round=>
      obtain⟨y,bF,rfl,a⟩:=hrel;have a:=a;have bG:=a.size;by_cases bH:y<v
      .obtain⟨m,hx⟩:∃x,U[y]?=some x:=Gx (LA aK.o);obtain⟨al,bI,r,rfl,J,hr,d⟩:=(aM.iV (kZ.ok .u8) (λq b=>a.B q (N.o q b))).jr (kZ.ok .u8) y m hx;obtain⟨v1,v2,rfl,j,F⟩:=hr;obtain⟨aa,ab,rfl,bJ⟩:=j.form;obtain⟨ac,cb,rfl,bK⟩:=F.form;have aO:=d 0 _ rfl;have bL:=d 1 _ rfl;have bM:=d 2 _ rfl;rw[JT]at aO;have bN:al<wr:=LA (N.o al J);have aP:=JM hx;have bO:(0:Int)<=(y:Int):=LC;have bP:(y:Int)<(v:Int):=LC;clear d hx;have aQ:=aJ.o.2 m aP;have aR:=(ao O (wr.alloc (.cells #[tx m.name,.slice aa m.params.length ab,.slice ac m.body.length cb] 189)) aa _ ab ac _ cb m (aN.to (a.alloc LC _)) (j.iV jk.ok (λq b=>JY _ _ (LA (N.o q b)))) (F.iV (jH.ok .u8 _) (λq b=>JY _ _ (LA (N.o q b)))) aQ (λq b=>by rw[JN];have:=N.o q b;omega))
       have aS:=(a.alloc LC (.cells #[tx m.name,.slice aa m.params.length ab,.slice ac m.body.length cb] 189))
       go_wp2_with fail;refine aR.M ?_;rintro e bQ ⟨rfl,aT⟩;have a:=(aS.T (aT.M (by rw[JN];omega)))
       go_wp2_with fail;go_roundw;case rel=>exact⟨y+1,LC,LI,a⟩
       case measure=>simp[intOf];omega
      obtain rfl:v=y:=LC;have a:=(ak.T (a.M LC))
      go_wp2_with fail;go_roundw;case rel=>exact⟨u+1,LC,LI,a⟩
      case measure=>simp[intOf];omega
    obtain rfl:n=u:=LC;have a:=(ag.T (a.M LC))
    go_wp2_with fail;go_roundw;case rel=>exact⟨t+1,LC,LI,a⟩
    case measure=>simp[intOf];omega
  obtain rfl:c=t:=LC;go_wp2_with fail;go_ret;exact⟨rfl,Y.T (a.M LC)⟩
theorem yQ(l w n p m sc a)(b c:Nat)(d)(f cv:Nat)(g)(i j:Nat)(name)(t:Int)(h:oC l w n p m sc a b c d f cv g i j)(v:vw sc name t):
  Calls prog 327 #[.agg #[.slice a b c,.slice d f cv,.slice g i j],tx name] w (jf (.tuple #[.int .u8 t,.int .i64 0]) w):=by
 have J:=h.lens;have q:Below w w (w.alloc (.cells #[.slice a b c,.slice d f cv,.slice g i j] 422)):=Ba _ _;have r:=JK w (.cells #[.slice a b c,.slice d f cv,.slice g i j] 422);have K:(w.alloc (.cells #[.slice a b c,.slice d f cv,.slice g i j] 422)).heap.size=w+1:=LG
 have H:=(h.iU q)
 have s:=v
 go_enter func327,ntmps327
 go_wp2_with fail;generalize w.alloc (.cells #[.slice a b c,.slice d f cv,.slice g i j] 422)=B at*;have y:w.heap.size<B:=LC
 refine(mD l B g i j _ name H.params LC H.jY).M ?_;rintro e L ⟨rfl,rfl⟩;obtain⟨⟨z,A,C⟩,_⟩:=jz r;by_cases hm:name∈m
 .have hd:decide (name∈m)=true:=(by simp[hm]);have D:t=1:=(H.Ef.name _ _ s).1 hm;subst D;first|rw[hd]|skip
  go_wp2_with fail
  go_ret2
  exact⟨rfl,q⟩
 .have hd:decide (name∈m)=false:=(by simp[hm]);first|rw[hd]|skip
  go_wp2_with fail;refine(mE l B d f cv _ name H.vars LC H.jY).M ?_;rintro e E ⟨rfl,k⟩;have u:=(q.T (k.M LC))
  have M:=k.size;have F:(∃x,(p.find? λx=>x.name==name)=some x/\x.ty=t/\t≠3)\/((p.find? λx=>x.name==name)=none/\lN n name=true/\t=2):=(H.Ef.name _ _ s).2 hm;rcases F with⟨x,hx,rfl,G⟩|⟨hx,hf,rfl⟩
  .rw[hx];have N:(x.ty==3)=false:=(by rw[JX];exact G);simp only[mM];go_wp2_with fail
   go_ret2
   exact⟨rfl,u.alloc LC _⟩
  rw[hx];simp only[mM];obtain⟨⟨z,A,C⟩,_⟩:=jz ((k.B _ y).T r);have O:w.heap.size<E:=LC;go_wp2_with fail;refine(oJ l _ a b c n name ((H.iU k).iU (Ba _ _)).jl LC ((H.iU k).iU (Ba _ _)).jY).M ?_;rw[hf];rintro e P ⟨rfl,I⟩;go_wp2_with fail
  go_ret2
  exact⟨rfl,(u.alloc LC _).T (I.M (by rw[JN];omega))⟩
theorem sO(d:Nat)(K:∀d',d=d'+1->FO d'):FN d:=by
 intro V w W X Y sc b f g j l cv p s t ar m c args u h a hm C;have E:=a.len;have hc:=E.2;have F:Below w w (w.alloc (.cells #[.slice b f g,.slice j l cv,.slice p s t] 422)):=Ba _ _;have L:=JK w (.cells #[.slice b f g,.slice j l cv,.slice p s t] 422);have Z:(w.alloc (.cells #[.slice b f g,.slice j l cv,.slice p s t] 422)).heap.size=w+1:=LG
 have H:=(h.iU F)
 have aa:=(a.iV (ki.ok .u8 d) (λq y=>F.B q (h.jY q y)))
 have ab:=JH E.1;have M:=JH L;have ac:=JH C;have ad:=JH K;clear E L C K
 go_enter func326,ntmps326
 go_wp2_with fail;obtain⟨b0,N⟩:=Xq w.heap.size;rw[<-N]at M Z⊢;have au:w<=b0:=LC
 generalize w.alloc (.cells #[.slice b f g,.slice j l cv,.slice p s t] 422)=B at*;have ae:b0<B:=LC
 clear N;go_loopw [4,7,15] (λv4 af i wr=>∃k:Nat,k<=m/\i=k/\v4=.int .u8 (yi k u)/\af=.bool true/\Below B B wr) (λ_ _ i _=>m-(intOf i).toNat);case atStart=>exact⟨0,JV _,rfl,rfl,rfl,Below.refl _ _⟩
 case round=>
  obtain⟨k,av,rfl,rfl,rfl,z⟩:=hrel;have aw:=z.size;obtain⟨⟨ag,ah,ai⟩,_⟩:=jz ((z.B b0 ae).T M.o);have ax:b0<wr:=LC;by_cases ay:k<m
  .obtain⟨x,hx⟩:∃x,args[k]?=some x:=Gx (LA ab.o);have D:=H.jY;obtain⟨O,az,r,rfl,aj,hr,A⟩:=(aa.iV (ki.ok .u8 d) (λq y=>z.B q (D q y))).jr (ki.ok .u8 d) k x hx;obtain⟨d',v,rfl,rfl,a⟩:=hr.open;obtain⟨G,I,rfl,_⟩:=a.form;have ak:=A 0 _ rfl;have aA:=A 1 _ rfl;have aB:=A 2 _ rfl;have al:=A 3 _ rfl;rw[JT]at ak;have aC:O<wr:=LA (D O aj);have C:=ac.o x (JM hx);obtain⟨op,name,n,P⟩:=x;simp only[Ex.op,Ex.name,Ex.n,Ex.args]at*;obtain⟨J,Q⟩:=Xq P.length;rw[<-Q]at al a;clear Q;have R:Below B B (wr.alloc (.cells #[.int .u8 op,tx name,n,.slice G J I] 275)):=z.alloc LC _;have am:=(ad.o d' rfl V (wr.alloc (.cells #[.int .u8 op,tx name,n,.slice G J I] 275)) W X Y sc b f g j l cv p s t G J I op n name P u (H.iU R) (a.iV (ki.ok .u8 d') (λq y=>JY _ _ (LA (D q y)))) C)
   have aD:(0:Int)<=(k:Int):=LC;have aE:(k:Int)<(m:Int):=LC;clear A hx D;go_wp2_with fail;refine am.M ?_;rintro e aF ⟨rfl,an⟩;have S:=(R.T (an.M (by rw[JN];omega)))
   by_cases T:k=0
   .subst T;have ao:((0:Int)==0)=true:=rfl;go_wp2_with fail;go_roundw;case rel=>exact⟨1,LC,LI,rfl,rfl,S⟩
    case measure=>simp[intOf];omega
   have ao:((k:Int)==0)=false:=(by rw[JX];omega);have ap:yi k u=u:=(by unfold yi;rw[Ka T]);have U:yi (k+1) u=u:=(by unfold yi;rw[Ka LC]);have aq:=JH U;clear U;rw[ap];go_wp2_with fail;go_roundw;case rel=>exact⟨k+1,LC,LI,by rw[aq.o],LG,S⟩
   case measure=>simp[intOf];omega
  obtain rfl:m=k:=LC;clear ag ah ai;go_wp2_with fail;refine JZ (v:=.tuple #[.int .u8 (yi m u),Em,.int .i64 0]) ?_ rfl ⟨rfl,F.T (z.M LC)⟩;simp[results,Tryz.results326,go_sem]
theorem qE(cb:Nat)(b c d f w a)(h:qb cb b c d f w):Calls prog 229 #[.pointer (some ⟨cb,0,none⟩),.string a] w λe w'=>e=.returned (.bool true)/\qb cb b c d f w'/\w.grownBy w' (some cb)/\w'.heap.size=w:=by
 obtain⟨g,h⟩:=h;have j:=iT h 4 _ rfl;have k:=iY h 4;have l:=iT h 7 _ rfl;have hc:=iW (i:=4) (u:=.string a) h;have m:=(JJ.1 h).1
 go_enter func229,ntmps229
 go_wp2;go_ret;exact⟨rfl,⟨a,hc⟩,jb w cb 4 _,by rw[JQ]⟩
theorem ld.drew{X a w}(h:ld X a w):ld X a w.drew:=⟨h.os,h.tape,h.output,h.size,h.B⟩
theorem ld.set{X w}{q i:Nat}{u}(a:X q):ld X w (w.setCell ⟨q,i,none⟩ u):=⟨rfl,rfl,rfl,by simp[World.setCell],λk b hx=>J0 _ _ _ _ (by intro e;exact hx (e▸a))⟩
theorem ld.through{o cb:Nat}{w d w'}{B:Nat}(a:Below B w d)(b:ld (Bb o cb) d w')(f:w<=B/\w<=o):ld (λq=>q=cb) w w':=
 ⟨b.os.T a.os,b.tape.T a.tape,b.output.T a.output,J9 a.size b.size,λk e hx=>(b.B k (JI e a.size) (λc=>by rcases c with c|c;omega;exact hx c)).T (a.B k LC)⟩
theorem kL.nH{a w r c}(h:kL .u8 a w r c):∃b e c1 d f c2,r=[tx c.name,.slice b e c1,.slice d f c2]/\jc (nU .u8) a w (.slice b e c1) c.vars/\jc (ly .u8) a w (.slice d f c2) c.jG:=by obtain⟨v1,v2,rfl,g,i⟩:=h;obtain⟨b,c1,rfl,_⟩:=g.form;obtain⟨d,c2,rfl,_⟩:=i.form;exact⟨_,_,_,_,_,_,rfl,g,i⟩
theorem kZ.nH{a w r c}(h:kZ .u8 a w r c):∃b e c1 d f c2,r=[tx c.name,.slice b e c1,.slice d f c2]/\jc jk a w (.slice b e c1) c.params/\jc (jH .u8 Ds) a w (.slice d f c2) c.body:=by obtain⟨v1,v2,rfl,g,i⟩:=h;obtain⟨b,c1,rfl,_⟩:=g.form;obtain⟨d,c2,rfl,_⟩:=i.form;exact⟨_,_,_,_,_,_,rfl,g,i⟩
theorem ly.nH{b w r l}(h:ly .u8 b w r l):∃a c c1,r=[.slice a c c1]/\jc (kZ .u8) b w (.slice a c c1) l:=by obtain⟨v1,rfl,d⟩:=h;obtain⟨a,c1,rfl,_⟩:=d.form;exact⟨_,_,_,rfl,d⟩
theorem kT.set{T w}{b n:Nat}(h:kT T w b n)(i:Nat){u}(hu:u.oneCell'=true):kT T (w.setCell ⟨b,i,none⟩ u) b n:=by obtain⟨a,c,d,e⟩:=h;refine⟨a.setIfInBounds i u,iW c,by simpa using d,λx hx=>?_⟩;rw[Array.toList_setIfInBounds]at hx;rcases List.mem_or_eq_of_mem_set hx with hx|hx;exact e x hx;rw[hx];exact hu
def mh(T:TypeId)(b x:World)(V:Value)(n:Nat):Prop:=∃a:List Unit,jx (tQ 1) T 1 (λ_=>False) x b V a/\a.length<=n
theorem mh.up{T a x V}{n m:Nat}(h:mh T a x V n)(hm:n<=m):mh T a x V m:=by obtain⟨b,c,d⟩:=h;exact⟨b,c,J9 d hm⟩
end Go.Proofs.YtidmdcckbdmblaaGreatDoor
namespace jg
def nL(l:List UInt8):Option (List UInt8):=syms.find? (pfx l)
def lq(l:List UInt8):Nat×Nat:=
 if jS (l.headD 0).toNat then
  if px (l.take (pre jU l))then(2,pre jU l)
  else if pre jU l<=12 then(1,pre jU l)else(5,l.length)
 else if kt (l.headD 0).toNat then
  if pre kt l==1||((l.headD 0).toNat:Int) !=48 then(3,pre kt l)else(5,l.length)
 else match nL l with
  |some x=>(4,x.length)
  |none=>(5,l.length)
theorem Ew(s:ByteArray)(h:0<s.size)(a:jS (s[0]).toNat=true)(b:px (s.data.toList.take (pre jU s.data.toList))=true):
  lq s.data.toList=(2,pre jU s.data.toList):=by
 unfold lq;rw[ml s h,if_pos a,if_pos b]
theorem Be(s:ByteArray)(h:0<s.size)(a:jS (s[0]).toNat=true)(b:px (s.data.toList.take (pre jU s.data.toList))=false)(hn:pre jU s.data.toList<=12):
  lq s.data.toList=(1,pre jU s.data.toList):=by
 unfold lq;rw[ml s h,if_pos a,if_neg (by rw[b];simp),if_pos hn]
theorem Bf(s:ByteArray)(h:0<s.size)(a:jS (s[0]).toNat=true)(b:px (s.data.toList.take (pre jU s.data.toList))=false)(hn:¬pre jU s.data.toList<=12):
  lq s.data.toList=(5,s.size):=by
 unfold lq;rw[ml s h,if_pos a,if_neg (by rw[b];simp),if_neg hn];simp
theorem C8(s:ByteArray)(h:0<s.size)(b:jS (s[0]).toNat=false)(hd:kt (s[0]).toNat=true)(hn:pre kt s.data.toList=1\/(((s[0]).toNat:Int) !=48)=true):
  lq s.data.toList=(3,pre kt s.data.toList):=by
 unfold lq;rw[ml s h,if_neg (by rw[b];simp),if_pos hd,if_pos];rcases hn with a|a<;>simp[a]
theorem Bg(s:ByteArray)(h:0<s.size)(a:jS (s[0]).toNat=false)(hd:kt (s[0]).toNat=true)(hn:pre kt s.data.toList≠1)(b:(((s[0]).toNat:Int) !=48)=false):
  lq s.data.toList=(5,s.size):=by
 unfold lq;rw[ml s h,if_neg (by rw[a];simp),if_pos hd,if_neg]
 .simp
 .rw[b];simpa using hn
theorem xv(l)(k:Nat)(c:k<25)(h:∀a,a<k->pfx l (syms[a]?.getD [])=false)(hp:pfx l (syms[k]?.getD [])=true):nL l=some (syms[k]?.getD []):=by have b:k<syms.length:=c;unfold nL;rw[List.getElem?_eq_getElem b,Option.getD_some]at hp⊢;rw[List.find?_eq_some_iff_getElem];refine⟨hp,k,b,rfl,λa d=>?_⟩;have:=h a d;rw[List.getElem?_eq_getElem LC,Option.getD_some]at this;simp[this]
theorem tT(l)(h:∀a,a<25->pfx l (syms[a]?.getD [])=false):nL l=none:=by unfold nL;rw[List.find?_eq_none];intro x hx;obtain⟨a,b,e⟩:=List.getElem_of_mem hx;have:=h a b;rw[List.getElem?_eq_getElem b,Option.getD_some,e]at this;simp[this]
theorem C9(s:ByteArray)(h:0<s.size)(b:jS (s[0]).toNat=false)(hd:kt (s[0]).toNat=false)(k:Nat)(c:k<25)(hn:∀a,a<k->pfx s.data.toList (syms[a]?.getD [])=false)(hp:pfx s.data.toList (syms[k]?.getD [])=true):
  lq s.data.toList=(4,(syms[k]?.getD []).length):=by
 unfold lq;rw[ml s h,if_neg (by rw[b];simp),if_neg (by rw[hd];simp),xv _ k c hn hp]
theorem Bh(s:ByteArray)(h:0<s.size)(b:jS (s[0]).toNat=false)(hd:kt (s[0]).toNat=false)(hn:∀a,a<25->pfx s.data.toList (syms[a]?.getD [])=false):
  lq s.data.toList=(5,s.size):=by
 unfold lq;rw[ml s h,if_neg (by rw[b];simp),if_neg (by rw[hd];simp),tT _ hn];simp
end jg
namespace jJ
theorem Bj(d:Nat)(l):qB d l 0=l.length:=by simp[qB]
theorem si(d:Nat):∀l,qB d l l.length=jw (d+1) l
 |[]=>rfl
 |x::l=>by have:=si d l;simp only[qB,List.take_length]at this⊢;simp only[List.length_cons,List.map_cons,List.sum_cons,jw]at this⊢;omega
theorem sj(a:Nat)(c:a=1\/a=2)(t:Int):∀(b:List In) (i:Nat) (x:In),b[i]?=some x->((b.map rv).flatten).set (i*4+a) (.int .i64 t)=((b.set i (x.put a t)).map rv).flatten
 |[],i,x,h=>by simp at h
 |y::ys,0,x,h=>by simp only[List.getElem?_cons_zero,Option.some.injEq]at h;subst h;rcases c with rfl|rfl<;>simp[rv,In.put]
 |y::ys,i+1,x,h=>by have d:=sj a c t ys i x (by simpa using h);rw[List.map_cons,List.flatten_cons,List.set_append_right _ _ (by show 4<=_;omega),show(i+1)*4+a-(rv y).length=i*4+a by show(i+1)*4+a-4=_;omega,d];rfl
theorem kE.snoc{b a c:List In}{n m:Nat}(h:kE b n a){x:In}(d:c=a++[x])(hx:mz (a.length+1) x)(hm:n+1<=m):kE b m c:=h.T (kE.one d hx) hm
theorem Bz(l)(i:Nat)(x:Int):(mA l).setIfInBounds i (.int .i64 x)=mA (l.set i x):=by simp[mA]
end jJ
namespace Go.Proofs.YtidmdcckbdmblaaGreatDoor
open Go.RowKit jJ Go.Proofs.Tryz
theorem uw(d:Nat)(V:∀d',d=d'+1->FL d'):FL d:=by
 intro W w aI n c l j aJ X ak aK hS;have L:=j.len;have aL:n<=12:=LC
 have hc:=L.2;have B:=JH L.1;have C:=hS;have al:=j;have Y:=X;have Z:=V;clear X hS L V
 go_enter func271,ntmps271
 go_wp2_with fail;go_loopw [3,9] (λv i wr=>∃k r:Nat,k<=n/\i=k/\v=r/\r<=qB (d-1) l k/\Below w w wr) (λ_ i _=>n-(intOf i).toNat);case atStart=>exact⟨0,n,JV _,rfl,rfl,by rw[Bj];have:=B.o;omega,Below.refl _ _⟩
 case round=>
  obtain⟨k,r,aM,rfl,rfl,hr,M⟩:=hrel;have z:=M;have D:=M.size;have G:=hr;by_cases aN:k<n
  .obtain⟨x,hx⟩:∃x,l[k]?=some x:=Gx (LA B.o);obtain⟨p,t,b,rfl,am,A,N⟩:=al.jr (jH.ok .u8 _) k x hx;have aa:p<w:=C p am;have M:p<wr:=LC;have an:=Y x (JM hx);have hmx:=JM hx;obtain⟨m,v1,v2,aO,ao,rfl,_,ab,ac⟩:=A.open;subst ao;rw[Nat.add_sub_cancel]at G;obtain⟨_,_,⟨ap,aq⟩,ad,ae⟩:=an;obtain⟨af,c2,rfl,_⟩:=ab.form;obtain⟨ag,c3,rfl,_⟩:=ac.form;have O:=(And.intro (N 4 _ rfl) (N 5 _ rfl))
   have P:=Aq ak hmx;have ah:=(λ(E:World) (F:Below w w E)=>Z m rfl W E af _ c2 x.th (ab.iV (jH.ok .u8 _) (λq y=>F.B q (C q y))) ap ad P.1 LC (λq y=>JI (C q y) F.size))
   have ai:=(λ(E:World) (F:Below w w E)=>Z m rfl W E ag _ c3 x.el (ac.iV (jH.ok .u8 _) (λq y=>F.B q (C q y))) aq ae P.2 LC (λq y=>JI (C q y) F.size))
   have aP:(0:Int)<=(k:Int):=LC;have aQ:(k:Int)<(n:Int):=LC;have Q:=JH (uv m hx);have R:=si m l;have ar:=Bk m l (k+1) n LC;rw[B.o]at R;have aR:qB m l (k+1)<=40:=LC;have aS:=(And.intro R ar)
   clear R;obtain⟨au,S⟩:=Xq x.th.length;obtain⟨em,T⟩:=Xq x.el.length;rw[<-S,<-T]at O;rw[<-S]at ah;rw[<-T]at ai;clear N hx ad ae P S T;go_wp2_with fail;refine rr (λx=>Below wr wr x) (λv w=>∃f b:Nat,v=.int .i64 ((r+(f+b):Nat):Int)/\f<=jw m x.th/\b<=jw m x.el/\Below wr wr w) (kN [(·=r),(·=.slice (some ⟨p,t,none⟩) n c),(·=k),(Pp p (t+k*6)),(Pp p (t+k*6+4)),(·=.slice af au c2),Tr,(·=.slice (some ⟨p,t,none⟩) n c),(·=k),(Pp p (t+k*6)),(Pp p (t+k*6+5)),(·=.slice ag em c3),Tr,Tr,Tr,Tr]) [(6,λv w=>∃(f:Nat),v=f/\f<=jw m x.th),(12,λv w=>∃(b:Nat),v=b/\b<=jw m x.el),(13,λv w=>∃f b:Nat,v=.int .i64 ((f+b:Nat):Int)/\f<=jw m x.th/\b<=jw m x.el),(14,λv w=>∃f b:Nat,v=.int .i64 ((r+(f+b):Nat):Int)/\f<=jw m x.th/\b<=jw m x.el)] ((Below.refl _ _).drew) ⟨?_,?_,?_,?_,?_,?_,?_,?_,?_,?_,?_,?_,?_,?_,?_,?_,trivial⟩ ?_;intro s w a hf j hd hw;have aT:=Sl 3 (hw 15 _ 3 rfl rfl rfl);clear hf j hd hw;exact .q (g:=⟨rfl,a,Qa⟩);exact Pf 0;exact Pf 4;intro s w a hf j hd hw;have aU:=Sv 13 j 1;have aV:=Sv 14 j 2;exact .q (g:=⟨rfl,a,Qa⟩);exact Pv 15 3;intro s w a hf j hd hw;have g:=(Cb p (t+k*6+4) ((z.T (a.M D)).B p aa)).T O.1;exact .l 16 (j 4 _ rfl rfl) g ⟨rfl,a,Qa⟩;intro s w a hf j hd hw;have aW:=Sv 17 j 5;have av:=a.size;replace a:=Hq a;refine .c (ah w (z.T (a.o.M D))) ?_;rintro e w' ⟨f,rfl,hr,U⟩;exact⟨_,rfl,⟨trivial,a.o.T (U.M a.o.size),Qc ⟨f,rfl,hr⟩<|Qd (λu ⟨b,e,hr⟩=>⟨b,e,hr⟩)<|Q2<|Qe⟩⟩;exact Pf 0;exact Pf 4;intro s w a hf j hd hw;have aX:=Sv 19 j 7;have aY:=Sv 20 j 8;exact .q (g:=⟨rfl,a,Qa⟩);exact Pv 21 9;intro s w a hf j hd hw;have g:=(Cb p (t+k*6+5) ((z.T (a.M D)).B p aa)).T O.2;exact .l 22 (j 10 _ rfl rfl) g ⟨rfl,a,Qa⟩;intro s w a hf j hd hw;have aZ:=Sv 23 j 11;have av:=a.size;replace a:=Hq a;refine .c (ai w (z.T (a.o.M D))) ?_;rintro e w' ⟨b,rfl,hr,U⟩;exact⟨_,rfl,⟨trivial,a.o.T (U.M a.o.size),Qd (λu ⟨f,e,hr⟩=>⟨f,e,hr⟩)<|Qc ⟨b,rfl,hr⟩<|Q2<|Qe⟩⟩;intro s w a hf j hd hw;obtain⟨f,aw,ax⟩:=hd _ (Mm 0 rfl) _ rfl rfl;have ba:=Sl 18 aw;obtain⟨b,ay,az⟩:=hd _ (Mm 1 rfl) _ rfl rfl;have bb:=Sl 24 ay;have aA:IntKind.i64.wrap ((f:Int)+(b:Int))=(f:Int)+(b:Int):=(by have:=Q.o;simp[IntKind.wrap,IntKind.bits,IntKind.signed];omega);exact .q (g:=⟨trivial,a,Q2<|Qc ⟨f,b,LO,ax,az⟩<|Qa⟩);intro s w a hf j hd hw;have bc:=Sv 12 j 0;obtain⟨f,b,aB,I,A⟩:=hd _ (Mm 2 rfl) _ rfl rfl;have bd:=Sl 25 aB;have aA:IntKind.i64.wrap ((r:Int)+((f:Int)+(b:Int)))=(r:Int)+((f:Int)+(b:Int)):=(by have:=Q.o;have:=G;simp[IntKind.wrap,IntKind.bits,IntKind.signed];omega);exact .q (g:=⟨trivial,a,Q2<|Qb<|Qc ⟨f,b,LO,I,A⟩<|Qa⟩);intro s w a hf j hd hw;obtain⟨f,b,aC,I,A⟩:=hd _ (Mm 3 rfl) _ rfl rfl;have be:=Sl 26 aC;refine .h λK hK=>?_;go_simp;exact hK (⟨f,b,rfl,I,A,a⟩);intro aD bf aE aF;obtain⟨f,b,J,I,A,aG⟩:=aF;replace J:aD 15=.int .i64 ((r+(f+b):Nat):Int):=J;simp only[je,Act.put,JL,JP,JO,J];have aH:=(z.T (aG.M D))
   clear aE J;go_wp2_with fail;go_roundw;case rel=>exact⟨k+1,r+(f+b),LC,LI,rfl,by rw[Nat.add_sub_cancel,Q.o];have:=G;omega,aH⟩
   case measure=>simp[intOf];omega
  obtain rfl:k=n:=LC;go_wp2_with fail;go_ret;refine⟨r,rfl,?_,z⟩;have hr:=G;have aj:=si (d-1) l;rw[B.o]at aj;cases d with
  |zero=>
   cases l with
   |nil=>have:=B.o;simp[qB]at*;omega
   |cons x l=>exact(Y x LG).elim
  |succ d=>rw[Nat.add_sub_cancel]at aj hr;omega
end Go.Proofs.YtidmdcckbdmblaaGreatDoor
