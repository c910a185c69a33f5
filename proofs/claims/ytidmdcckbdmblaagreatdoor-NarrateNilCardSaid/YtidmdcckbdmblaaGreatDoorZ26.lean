import Derived.Test.YtidmdcckbdmblaaGreatDoorZ19
import Derived.Test.YtidmdcckbdmblaaGreatDoorZ20
import Derived.Test.YtidmdcckbdmblaaGreatDoorZ21
import Derived.Test.YtidmdcckbdmblaaGreatDoorZ22
set_option maxRecDepth 1000000
set_option maxHeartbeats 32000000
set_option linter.all false
namespace Go.Proofs.YtidmdcckbdmblaaGreatDoor
open Go.RowKit jJ mX Go.Proofs.Tryz
theorem zG(a:Nat->Prop)(w:World)(t cm:Int)(l:Nat)(p n b h d:Int)(e:Option Addr)(m c:Nat)(xs:List Int)(g:Nat)(f:Fl)(i:lp w g f)(j:kr f)(k:jc jO a w (.slice e m c) xs)(hS:∀q,a q->q<w)(hm:m<=9223372036854775807):
  Calls prog 24 #[.agg #[.int .i64 t,cm,.int .u8 (l:Nat),p,n,b,h,d,.slice e m c],.pointer (some ⟨g,0,none⟩)] w (jf (.bool (valid (iZ f) ⟨t,cm,l,p,n,b,h,d,xs⟩)) w):=by
 by_cases v:l=1
 .subst v;exact zF a w t cm p n b h d e m c xs g f i j k hS hm
 by_cases x:l=2
 .subst x;exact zy a w t cm p n b h d e m c xs g f i j k hS hm
 by_cases y:l=3
 .subst y;exact zv a w t cm p n b h d e m c xs g f i j k hS hm
 by_cases z:l=4
 .subst z;exact zw a w t cm p n b h d e m c xs g f i j k hS hm
 by_cases A:l=5
 .subst A;exact zC a w t cm p n b h d e m c xs g f i j k hS hm
 by_cases B:l=6
 .subst B;exact zx a w t cm p n b h d e m c xs g f i j k hS hm
 by_cases C:l=8
 .subst C;exact zA a w t cm p n b h d e m c xs g f i j k hS hm
 by_cases D:l=9
 .subst D;exact zz a w t cm p n b h d e m c xs g f i j k hS hm
 by_cases E:l=10
 .subst E;exact xU a w t cm p n b h d e m c xs g f i j k hS hm
 by_cases F:l=11
 .subst F;exact xT a w t cm p n b h d e m c xs g f i j k hS hm
 by_cases G:l=7
 .subst G;by_cases r:d=4;subst r;exact xV a w t cm p n b h e m c xs g f i j k hS hm;by_cases s:d=5;subst s;exact xW a w t cm p n b h e m c xs g f i j k hS hm;by_cases u:d=6;subst u;exact xX a w t cm p n b h e m c xs g f i j k hS hm;exact zE a w t cm p n b h d e m c xs g f i j k hS hm ⟨r,s,u⟩
 exact zD a w t cm l p n b h d e m c xs g f i j k hS hm LC
theorem uN{B:Bool}(V:Nat->Prop)(w:World)(t cm:Int)(a:Nat)(p n b h d:Int)(j:Option Addr)(m c:Nat)(xs:List Int)(F:Nat)(f:Fl)(W:lp w F f)(X:kr f)(ad:jc jO V w (.slice j m c) xs)(hS:∀q,V q->q<w)(hm:m<=9223372036854775807)(ae:tP B t)(aq:tP B n)(hdr:tP B d)(hr:∀x∈xs,tP B x)(af:ow B w):
  Calls prog 10 #[.agg #[.int .i64 t,cm,.int .u8 (a:Nat),p,n,b,h,d,.slice j m c],.pointer (some ⟨F,0,none⟩)] w (jf (tx (line (iZ f) ⟨t,cm,a,p,n,b,h,d,xs⟩)) w):=by
 have ar:=Ba w (.cells #[.int .i64 t,cm,.int .u8 (a:Nat),p,n,b,h,d,.slice j m c] 29);have L:=JH ar;have O:=JH (JK w (.cells #[.int .i64 t,cm,.int .u8 (a:Nat),p,n,b,h,d,.slice j m c] 29));have Y:=JH (show∀w':World,Below w w w'->Calls prog 24 #[.agg #[.int .i64 t,cm,.int .u8 (a:Nat),p,n,b,h,d,.slice j m c],.pointer (some ⟨F,0,none⟩)] w' (jf (.bool (valid (iZ f) ⟨t,cm,a,p,n,b,h,d,xs⟩)) w')from λw' k=>zG V w' t cm a p n b h d j m c xs F f (W.iU k) X (ad.iV jO.ok (λq J=>k.B q (hS q J))) (λq J=>JI (hS q J) k.size) hm);have au:=JH (show fits (iZ f) ⟨t,cm,a,p,n,b,h,d,xs⟩=true->∀w':World,Below w w w'->Calls prog 26 #[.agg #[.int .i64 t,cm,.int .u8 (a:Nat),p,n,b,h,d,.slice j m c],.pointer (some ⟨F,0,none⟩)] w' (jf (tx (told (iZ f) ⟨t,cm,a,p,n,b,h,d,xs⟩)) w')from λP w' k=>BW V w' t cm a p n b h d j m c xs F f (W.iU k) X (ad.iV jO.ok (λq J=>k.B q (hS q J))) (λq J=>JI (hS q J) k.size) hr aq hdr P (af.iU k));have aD:=JH (show∀(w':World),Below w w w'->Calls prog 25 #[.pointer (some ⟨F,0,none⟩),cm] w' (jf (tx (cN (iZ f) cm)) w')from λw' k=>uK F cm f w' (W.iU k));have ag:=JH (show∀w':World,Below w w w'->Calls prog 27 #[.int .i64 t] w' (jf (tx (Lib.itoa t)) w')from λw' k=>qP t ae w' (af.iU k));have ah:=X.Jl;have aG:=Kz t ae.1.1 ae.1.2;have aH:=ah.c cm;have av:=JH (show fits (iZ f) ⟨t,cm,a,p,n,b,h,d,xs⟩=true->(told (iZ f) ⟨t,cm,a,p,n,b,h,d,xs⟩).length<=300 from λhf=>DD ah hf aq.1 hdr.1 (tP.all hr));clear W X ad hS hm hr af ar ah;cases Eh:valid (iZ f) ⟨t,cm,a,p,n,b,h,d,xs⟩with
 |false=>
  have Q:line (iZ f) ⟨t,cm,a,p,n,b,h,d,xs⟩=[]:=(by unfold line;rw[Eh];rfl);rw[Q];rw[Eh]at Y;clear Q Eh
  go_enter func10,ntmps10
  go_upto_region 1 with fail;have ai:(w.alloc (.cells #[.int .i64 t,cm,.int .u8 (a:Nat),p,n,b,h,d,.slice j m c] 29)).heap.size=w+1:=LG;generalize w.alloc (.cells #[.int .i64 t,cm,.int .u8 (a:Nat),p,n,b,h,d,.slice j m c] 29)=R at*;obtain⟨i,S⟩:=Xq w.heap.size;rw[<-S]at O⊢;have aw:i<R:=LC;clear S ai;obtain⟨l,r,s,u,v,y,z,A,C⟩:=ji O.o;go_wp2_with fail;refine(Y.o R L.o).M ?_;rintro e aj ⟨rfl,K⟩;have aE:=JH K;clear K l r s u v y z A C;go_wp2_with fail;go_ret;exact⟨rfl,L.o.T (aE.o.M L.o.size)⟩
 |true=>
  have P:fits (iZ f) ⟨t,cm,a,p,n,b,h,d,xs⟩=true:=by unfold valid at Eh;simp only[KO]at Eh;exact Eh.1
  have ak:=JH (au.o P);have aI:=av.o P;have Q:line (iZ f) ⟨t,cm,a,p,n,b,h,d,xs⟩=[116]++(Lib.itoa t++([32]++((if a=1 then [111,112,101,114,97,116,111,114]else cN (iZ f) cm)++([58,32]++((if a=7 then [100,105,115,99,97,114,100,115,32]else [])++told (iZ f) ⟨t,cm,a,p,n,b,h,d,xs⟩))))):=(by unfold line;rw[Eh];rfl);rw[Q];rw[Eh]at Y;clear Q Eh au av P;generalize told (iZ f) ⟨t,cm,a,p,n,b,h,d,xs⟩=M at*;generalize cN (iZ f) cm=Z at*;generalize Lib.itoa t=N at*;obtain⟨ax,al⟩:=Xq ([116]++(N++([32]++((if a=1 then [111,112,101,114,97,116,111,114]else Z)++([58,32]++((if a=7 then [100,105,115,99,97,114,100,115,32]else [])++M))))));rw[<-al];have am:=JH al;clear al
  go_enter func10,ntmps10
  go_upto_region 1 with fail;have ai:(w.alloc (.cells #[.int .i64 t,cm,.int .u8 (a:Nat),p,n,b,h,d,.slice j m c] 29)).heap.size=w+1:=LG;generalize w.alloc (.cells #[.int .i64 t,cm,.int .u8 (a:Nat),p,n,b,h,d,.slice j m c] 29)=R at*;obtain⟨i,S⟩:=Xq w.heap.size;rw[<-S]at O⊢;have aw:i<R:=LC;clear S ai;obtain⟨l,r,s,u,v,y,z,A,C⟩:=ji O.o;go_wp2_with fail;refine(Y.o R L.o).M ?_;rintro e aj ⟨rfl,K⟩;have an:=JH (L.o.T (K.M L.o.size));have aF:i<aj:=LA K.size;have ay:=JH ((K.B i aw).T O.o);clear K l r s u v y z A C;obtain⟨l,r,s,u,v,y,z,A,C⟩:=ji ay.o;go_wp2_with fail;refine(aD.o aj an.o).M ?_;rintro e aa ⟨rfl,ab⟩;have E:=JH (an.o.T (ab.M an.o.size));have ao:i<aa:=LA ab.size;have ac:=JH ((ab.B i aF).T ay.o);clear ab l r s u v y z A C;obtain⟨l,r,s,u,v,y,z,A,C⟩:=ji ac.o;by_cases az:a=1
  .subst az;go_wp2_with fail;refine(ak.o aa E.o).M ?_;rintro e G ⟨rfl,g⟩;have D:=JH (E.o.T (g.M E.o.size));have aA:i<G:=LA g.size;have T:=JH ((g.B i ao).T ac.o);clear g l r s u v y z A C;obtain⟨l,r,s,u,v,y,z,A,C⟩:=ji T.o;go_wp2_with fail;refine(ag.o G D.o).M ?_;rintro e aB ⟨rfl,I⟩;have U:=JH (D.o.T (I.M D.o.size));clear I;go_wp2_with fail;go_ret;refine⟨?_,U.o⟩;have ap:ax=[116]++(N++([32]++([111,112,101,114,97,116,111,114]++([58,32]++M)))):=(by rw[am.o];simp);rw[ap];show Ending.returned (.string ((⟨[116].toArray⟩:ByteArray)++⟨N.toArray⟩++⟨[32].toArray⟩++⟨[111,112,101,114,97,116,111,114].toArray⟩++⟨[58,32].toArray⟩++⟨M.toArray⟩))=_;rw[jm,jm,jm,jm,jm];simp only[Kh,KS]
  have aJ:¬(a:Int)=1:=LC;by_cases aC:a=7
  .subst aC;go_wp2_with fail;refine(ak.o aa E.o).M ?_;rintro e G ⟨rfl,g⟩;have D:=JH (E.o.T (g.M E.o.size));have aA:i<G:=LA g.size;have T:=JH ((g.B i ao).T ac.o);clear g l r s u v y z A C;obtain⟨l,r,s,u,v,y,z,A,C⟩:=ji T.o;go_wp2_with fail;refine(ag.o G D.o).M ?_;rintro e aB ⟨rfl,I⟩;have U:=JH (D.o.T (I.M D.o.size));clear I;go_wp2_with fail;go_ret;refine⟨?_,U.o⟩;have ap:ax=[116]++(N++([32]++(Z++([58,32]++([100,105,115,99,97,114,100,115,32]++M))))):=(by rw[am.o];simp);rw[ap];show Ending.returned (.string ((⟨[116].toArray⟩:ByteArray)++⟨N.toArray⟩++⟨[32].toArray⟩++⟨Z.toArray⟩++⟨[58,32].toArray⟩++(⟨[100,105,115,99,97,114,100,115,32].toArray⟩++⟨M.toArray⟩)))=_;rw[jm,jm,jm,jm,jm,jm];simp only[Kh,KS]
  have aK:¬(a:Int)=7:=LC;go_wp2_with fail;refine(ak.o aa E.o).M ?_;rintro e G ⟨rfl,g⟩;have D:=JH (E.o.T (g.M E.o.size));have aA:i<G:=LA g.size;have T:=JH ((g.B i ao).T ac.o);clear g l r s u v y z A C;obtain⟨l,r,s,u,v,y,z,A,C⟩:=ji T.o;go_wp2_with fail;refine(ag.o G D.o).M ?_;rintro e aB ⟨rfl,I⟩;have U:=JH (D.o.T (I.M D.o.size));clear I;go_wp2_with fail;go_ret;refine⟨?_,U.o⟩;rw[am.o,Ka az,Ka aC];show Ending.returned (.string ((⟨[116].toArray⟩:ByteArray)++⟨N.toArray⟩++⟨[32].toArray⟩++⟨Z.toArray⟩++⟨[58,32].toArray⟩++⟨M.toArray⟩))=_;rw[jm,jm,jm,jm,jm];simp only[Kh,KS]
end Go.Proofs.YtidmdcckbdmblaaGreatDoor
namespace nw
theorem yb{T:js}{p q:Nat}{h:jJ.Hd}(hx:oL T p=some (h,q)):p<q:=by obtain⟨a,f,l,g,b,c,d,e,_⟩:=qy hx;have:=nZ c;have:=sD (λp q x hx=>nZ hx) d;have:=uW e;omega
theorem DR{T:js}{p q:Nat}{c:jJ.Co}(h:rS T p=some (c,q)):p<q:=by obtain⟨a,g,i,hs,j,e,b,_,f,_,d,_⟩:=Go.Proofs.YtidmdcckbdmblaaGreatDoor.uZ h;have:=nZ e;have:=xn (λp q x hx=>yb hx) f;unfold pq at b d;split at b;injection b;split at d;injection d;omega;cases d;cases b
end nw
