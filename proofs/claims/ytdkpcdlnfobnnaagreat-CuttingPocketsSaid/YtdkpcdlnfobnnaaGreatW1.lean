/- Parts of the proof that the text of the row joins: a symbolic walk over the model. -/
import Derived.Test.YtdkpcdlnfobnnaaGreatE4
import Derived.KernelRfl
import Derived.Test.YtdkpcdlnfobnnaaGreatProg
import Derived.Test.YtdkpcdlnfobnnaaGreatE5
open List renaming getD_eq_getElem?_getD->AS,getElem?_eq_getElem->Ahz,mem_cons->Ah4,map->AhK,mem_cons_of_mem->AhL,getElem_mem->AhX,length_cons->Aim,pairwise_cons->Ai8
open Nat renaming not_lt_zero->oE,zero_le->rH,le_refl->Ah0,lt_succ_iff_lt_or_eq->Ah6,lt_succ_self->Aiu,succ_le_succ->AiH
open Bool renaming and_eq_true->pR
open Int renaming toNat->AhD,tmod_eq_emod_of_nonneg->AhM,natCast_nonneg->AhN,tmod->AhQ,le_of_lt->AhW,emod_eq_of_lt->Aic,mul_nonneg->Aii,add_emod_right->Ail,tmod_lt_of_pos->Aiq,mul_pos->Ai0,tmod_nonneg->Ai5,mul_add->AiI,mul_zero->AiN,lt_or_eq_of_le->AiQ,zero_mul->AiZ
namespace Go.Proofs.YtdkpcdlnfobnnaaGreat
open Go.SE Go.RowKit Tryz
namespace L
structure Pt where
 x:Int
 y:Int
structure Sq (α:Type) where
 n:Nat
 g:Nat->α
end L
namespace R
end R
def Ds:List SV->Int
 |[.int _ n]=>n
 |_=>0
def tY:List SV->Bool
 |[.bool b]=>b
 |_=>false
def Ad:List SV->L.Pt
 |[.int _ x,.int _ y]=>⟨x,y⟩
 |_=>⟨0,0⟩
def Ch:Nat->(Nat->Bool)->Bool
 |0,_=>true
 |n+1,f=>Ch n f&&f n
theorem C8 {f:Nat->Bool}:∀{n:Nat},Ch n f=true↔∀i,i<n->f i=true
 |0=>by simp[Ch]
 |n+1=>by
   simp only[Ch,pR,C8 (n:=n)];constructor
   ·rintro⟨h,k⟩ i hi;rcases Ah6.1 hi with hi|rfl
    ·exact h i hi
    ·exact k
   ·exact fun h=>⟨fun i hi=>h i (by omega),h n (by omega)⟩
theorem G6 {f:Nat->Bool} {n i:Nat} (hi:i<n) (h:f i=false):Ch n f=false:=by
 cases hb:Ch n f with
 |false=>rfl
 |true=>rw[C8.1 hb i hi]at h;cases h
theorem Dd {a b:Int} {m n:Int} (h1 : -m<=a) (h2:a<=m) (h3 : -n<=b) (h4:b<=n): -(m*n)<=a*b/\a*b<=m*n:=by
 have hm:0<=m:=by omega
 have hn:0<=n:=by omega
 have e1:=Aii (show 0<=m-a by omega) (show 0<=n-b by omega);have e2:=Aii (show 0<=m+a by omega) (show 0<=n+b by omega);have e3:=Aii (show 0<=m-a by omega) (show 0<=n+b by omega);have e4:=Aii (show 0<=m+a by omega) (show 0<=n-b by omega);simp only[Int.sub_mul,Int.mul_sub,Int.add_mul,AiI]at e1 e2 e3 e4;omega
def Bs (p:BN) (xs:List SV):Bool:=tY [p.res xs]
theorem K2 {p:BN} (h:Fr p) {xs:List SV} (hp:p.pre xs):p.res xs=.bool (Bs p xs):=by
 obtain⟨b,hb⟩:=h xs hp;rw[hb,Bs,hb];rfl
theorem mixed:prog.follows .mixedOrders=true:=by kernel_rfl
theorem Ab.of {n:Int} (h : -9223372036854775808<=n) (k:n<=9223372036854775807):Ab .i64 n:=⟨h,k⟩
theorem jK {n:Int} (h : -9223372036854775808<=n:=by omega) (k:n<=9223372036854775807:=by omega):Ab .i64 n:=⟨h,k⟩
def cC:Aj:={ muts:=[],frz:=B9 [],specs:=AE [],loops:=AT [],iters:=BG [],rfs:=AQ [],nils:=B3 [] }
section
set_option maxRecDepth 100000
set_option maxHeartbeats 4000000
set_option linter.unusedVariables false
attribute [local irreducible] vc
theorem rz {ν α:Type _} {β:Type _} {n:ν} {f:β→α} {p:β→Prop}:n=n/\∀i,p i→f i=f i:=⟨rfl,fun _ _=>rfl⟩
theorem zr {α:Type _} {β:Type _} {f:β→α} {p:β→Prop}:∀i,p i→f i=f i:=fun _ _=>rfl
theorem nz {P:Go.Program} {C:Aj} (h:∀g,C.trs g=none:=by intro _;rfl) (h2:∀g,C.mks g=none:=by intro _;rfl) (h3:∀g,C.fams g=none:=by intro _;rfl):Ac P []/\AB P C:=⟨Ac.nil,AB.none h h2 h3⟩
def AI (n a b:Int):Bool:=decide (a<=n)&&decide (n<=b)
def UD (n:Int) (a:Int) (b:Int):Prop:=True
def UE (n:Int) (a:Int) (b:Int):SV:=.bool (AI n a b)
def UF:List EV->Option (Prop×SV)
 |[.p (.int .i64 n),.p (.int .i64 a),.p (.int .i64 b)]=>some (UD n a b,UE n a b)
 |_=>none
abbrev NK:SE.Spec:=(AM UF)
def tZ:Aj:={ muts:=[],frz:=B9 [],specs:=AE [],loops:=AT [],iters:=BG [],rfs:=AQ [],nils:=B3 [] }
theorem uA (n:Int) (a:Int) (b:Int) (hp:UD n a b):vc prog (tZ) (Ae f73) (Ao f73 [.p (.int .i64 n),.p (.int .i64 a),.p (.int .i64 b)]) (AL prog f73 (UE n a b)):=
 @Eq.mpr _ ((bif decide (a<=n)then decide (n<=b)else false)=AI n a b) (by kernel_rfl) (by
 grind [AI])
theorem Qr:Az prog 73 NK:=AN func73 (c:=Ae f73) (by kernel_rfl) mixed (fun _ _ _ hs hp=>by
 unfold UF at hs;split at hs
 ·cases hs;exact⟨_,_,uA _ _ _ hp,(.same _ (.same _ (.same _ .nil))),⟨show Aa prog _ from Aa.nil,rfl,nz⟩⟩
 ·cases hs)
theorem Qs:An prog 73:=fun _ _=>by kernel_rfl
end
section
set_option maxRecDepth 100000
set_option maxHeartbeats 4000000
set_option linter.unusedVariables false
attribute [local irreducible] vc
def Ew (n k:Nat):Nat:=(AhQ ((k:Int)+(n:Int)-1) (n:Int)).toNat
def BO (n k:Nat):Nat:=(AhQ ((k:Int)+1) (n:Int)).toNat
def BT (l:L.Sq L.Pt):Nat->Int
 |0=>0
 |k+1=>BT l k+((l.g k).x*(l.g (BO l.n k)).y-(l.g (BO l.n k)).x*(l.g k).y)
theorem Gm {n k:Nat} (h:0<n):BO n k<n:=by
 have t3:=Ai5 (n:Int) (show 0<=(k:Int)+1 by omega);have t4:=Aiq ((k:Int)+1) (show 0<(n:Int)by omega);unfold BO;omega
def EN (l:L.Sq L.Pt):Prop:=l.n<=1000/\∀i,i<l.n -> -4000000<=(l.g i).x/\(l.g i).x<=4000000 /\ -4000000<=(l.g i).y/\(l.g i).y<=4000000
theorem Qt {l:L.Sq L.Pt} (h:EN l) {k:Nat} (hk:k<l.n):(-16000000000000<=(l.g k).x*(l.g (BO l.n k)).y/\(l.g k).x*(l.g (BO l.n k)).y<=16000000000000)/\(-16000000000000<=(l.g (BO l.n k)).x*(l.g k).y/\(l.g (BO l.n k)).x*(l.g k).y<=16000000000000):=by
 have h1:=h.2 k hk;have h2:=h.2 _ (Gm (n:=l.n) (k:=k) (by omega));have m1:=Dd (m:=4000000) (n:=4000000) h1.1 h1.2.1 h2.2.2.1 h2.2.2.2;have m2:=Dd (m:=4000000) (n:=4000000) h2.1 h2.2.1 h1.2.2.1 h1.2.2.2;omega
theorem NL {l:L.Sq L.Pt} (h:EN l):∀k,k<=l.n -> -(32000000000000*(k:Int))<=BT l k/\BT l k<=32000000000000*(k:Int)
 |0,_=>by simp[BT]
 |k+1,hk=>by
   have ih:=NL h k (by omega);have t:=Qt h (k:=k) (by omega);simp only[BT];omega
def UG (l:L.Sq L.Pt):Prop:=l.n<=1000
def Qu (l:L.Sq L.Pt):Nat:=l.n
def UH (l:L.Sq L.Pt):Nat->List SV:=fun k=>[.int .i64 (k:Int),.agg [.int .i64 (l.g (AhQ ((k:Int)+(l.n:Int)-1) (l.n:Int)).toNat).x,.int .i64 (l.g (AhQ ((k:Int)+(l.n:Int)-1) (l.n:Int)).toNat).y,.int .i64 (l.g (k:Int).toNat).x,.int .i64 (l.g (k:Int).toNat).y,.int .i64 (l.g (AhQ ((k:Int)+1) (l.n:Int)).toNat).x,.int .i64 (l.g (AhQ ((k:Int)+1) (l.n:Int)).toNat).y]]
def UI:List SV->Option (Prop×Nat×(Nat->List SV))
 |[.ref [.sl 2 l_n l_g] 0]=>some ((∀i,i<l_n->l_g i = [.int .i64 (Ad (l_g i)).x,.int .i64 (Ad (l_g i)).y])/\UG ⟨l_n,fun i=>Ad (l_g i)⟩,Qu ⟨l_n,fun i=>Ad (l_g i)⟩,UH ⟨l_n,fun i=>Ad (l_g i)⟩)
 |_=>none
abbrev Mo:Ga:=K0 UI
def uB:Aj:={ muts:=[],frz:=B9 [],specs:=AE [],loops:=fun _=>none,iters:=BG [],rfs:=AQ [] }
theorem uC (yl:Nat) (l:L.Sq L.Pt) (hp:UG l):vc prog { uB with loops:=AT [(1,{ T:=Nat,keep:=[0,1,5,6],keepO:=[],chg:=fun i=>[(7,.p (.int .i64 (i:Int)))],own:=fun _=>[],inv:=fun i=>i<=l.n,mu:=fun i=>l.n-i,yk:=some (fun i=>i) })],yld:=some ⟨yl,Qu l,UH l⟩ } (Ae f122) (Ao f122 (.yield yl::([.ref [.sl 2 l.n (fun i=>[.int .i64 (l.g i).x,.int .i64 (l.g i).y])] 0]:List SV).map .p)) (Kz prog f122 (Qu l)):=
 @Eq.mpr _ (let I:=SV.int .i64;let T:=AhD;let M:=AhQ;let A9:=(0:Int);let A6:=(1:Nat);let A5:=[SV.sl 2 l.n fun(i:Nat)=>[I (l.g i).x,I (l.g i).y]];let A4:=(1:Int);let A2:=(↑l.n:Int);(∃(g:Nat),0=g/\false=false/\A9=(↑g:Int)/\g<=l.n)/\∀(g:Nat),let A3:=(↑g:Int);let A8:=(A3+A4);let A7:=(A3+A2-A4);let A1:=[I A3,SV.agg [I (l.g (T (M A7 A2))).x,I (l.g (T (M A7 A2))).y,I (l.g (T A3)).x,I (l.g (T A3)).y,I (l.g (T (M A8 A2))).x,I (l.g (T (M A8 A2))).y]];g<=l.n->(decide (A3<A2)=true->(A9<=A3/\A3<A2)/\Ab .i64 (A3+A2)/\Ab .i64 A7/\A2≠A9/\(A9<=M A7 A2/\M A7 A2<A2)/\Ab .i64 A8/\A2≠A9/\(A9<=M A8 A2/\M A8 A2<A2)/\yl=yl/\g<l.n/\A1=A1/\((false=true->g+A6=l.n\/g+A6=l.n+A6)/\(false=false->Ab .i64 A8/\∃(g':Nat),g+A6=g'/\false=false/\A3+A4=(↑g':Int)/\A2=A2/\(l.n=l.n/\∀(i:Nat),let A10:=[I (l.g i).x,I (l.g i).y];i<l.n->A10=A10)/\yl=yl/\SV.ref A5 0=SV.ref A5 0/\g'<=l.n/\l.n-g'<l.n-g))/\(true=true->l.n+A6=l.n\/l.n+A6=l.n+A6)/\(true=false->Ab .i64 A8/\∃(g':Nat),l.n+A6=g'/\false=false/\A3+A4=(↑g':Int)/\A2=A2/\False/\yl=yl/\False/\g'<=l.n/\l.n-g'<l.n-g))/\(decide (A3<A2)=false->g=l.n\/g=l.n+A6)) (by kernel_rfl) (by
 conv=>zeta
 refine⟨⟨(0:Nat),rfl,rfl,rfl,rH _⟩,fun g hg=>⟨fun hlt=>?_,fun hge=>?_⟩⟩
 ·have hb:(g:Int)<(l.n:Int):=by simpa using hlt
  have hn:l.n<=1000:=hp;have t1:=Ai5 (l.n:Int) (show 0<=(g:Int)+(l.n:Int)-1 by omega);have t2:=Aiq ((g:Int)+(l.n:Int)-1) (show 0<(l.n:Int)by omega);have t3:=Ai5 (l.n:Int) (show 0<=(g:Int)+1 by omega);have t4:=Aiq ((g:Int)+1) (show 0<(l.n:Int)by omega);refine⟨by omega,jK,jK,by omega,⟨t1,t2⟩,jK,by omega,⟨t3,t4⟩,rfl,by omega,rfl,?_⟩;exact⟨⟨fun h=>(by cases h),fun _=>⟨jK,g+1,rfl,rfl,by omega,rfl,rz,rfl,rfl,by omega,by omega⟩⟩,fun _=>.inr rfl,fun h=>(by cases h)⟩
 ·have hb:¬ (g:Int)<(l.n:Int):=by simpa using hge
  exact .inl (by omega))
theorem NM:HJ prog 122 Mo:=NF func122 (c:=Ae f122) (by kernel_rfl) mixed (fun caps l p n g hs hp=>by
 unfold UI at hs;split at hs
 ·cases hs; exact⟨_, _, uC l _ hp.2, (.cons (Ba.ref rfl (fun i hi =>by
  rcases i with _|i
  ·show Ba (SV.sl _ _ _) (SV.sl _ _ _);exact(Ba.sl hp.1)
  exact absurd hi (by simp;try omega))) .nil),rfl,show Aa prog _ from Aa.nil,⟨show Ac prog _ from Ac.nil,AB.none (fun _=>rfl)⟩⟩
 ·cases hs)
theorem NN:An prog 122:=fun _ _=>by kernel_rfl
def UJ (l:L.Sq L.Pt):Prop:=l.n<=1000
def UK (l:L.Sq L.Pt):SV:=.clo 122 [.ref [(.sl 2 l.n (fun i=>[.int .i64 (l.g i).x,.int .i64 (l.g i).y]))] 0]
def UL:List EV->Option (Prop×SV)
 |[.p (.sl 2 l_n l_g)]=>some ((∀i,i<l_n->l_g i = [.int .i64 (Ad (l_g i)).x,.int .i64 (Ad (l_g i)).y])/\UJ ⟨l_n,fun i=>Ad (l_g i)⟩,UK ⟨l_n,fun i=>Ad (l_g i)⟩)
 |_=>none
abbrev Mp:SE.Spec:=(AM UL)
def uD:Aj:={ muts:=[],frz:=B9 [],specs:=AE [],loops:=AT [],iters:=BG [],rfs:=AQ [],nils:=B3 [] }
theorem uE (l:L.Sq L.Pt) (hp:UJ l):vc prog (uD) (Ae f76) (Ao f76 [.p (.sl 2 l.n (fun i=>[.int .i64 (l.g i).x,.int .i64 (l.g i).y]))]) (AL prog f76 (UK l)):=
 @Eq.mpr _ (SV.clo 122 [SV.ref [SV.sl 2 l.n fun(i:Nat)=>[SV.int .i64 (l.g i).x,SV.int .i64 (l.g i).y]] 0]=SV.clo 122 [SV.ref [SV.sl 2 l.n fun(i:Nat)=>[SV.int .i64 (l.g i).x,SV.int .i64 (l.g i).y]] 0]) (by kernel_rfl) (by
 rfl)
theorem NO:Az prog 76 Mp:=AN func76 (c:=Ae f76) (by kernel_rfl) mixed (fun _ _ _ hs hp=>by
 unfold UL at hs;split at hs
 ·cases hs;exact⟨_,_,uE _ hp.2,(.p (.sl hp.1) .nil),⟨show Aa prog _ from Aa.nil,rfl,nz⟩⟩
 ·cases hs)
theorem NP:An prog 76:=fun _ _=>by kernel_rfl
def UM (l:L.Sq L.Pt):Prop:=EN l
def UN (l:L.Sq L.Pt):SV:=.int .i64 (BT l l.n)
def UO:List EV->Option (Prop×SV)
 |[.p (.sl 2 l_n l_g)]=>some ((∀i,i<l_n->l_g i = [.int .i64 (Ad (l_g i)).x,.int .i64 (Ad (l_g i)).y])/\UM ⟨l_n,fun i=>Ad (l_g i)⟩,UN ⟨l_n,fun i=>Ad (l_g i)⟩)
 |_=>none
abbrev Qv:SE.Spec:=(AM UO)
def uF:Aj:={ cC with muts:=[3,5],specs:=AE [(76,Mp)],iters:=BG [(122,Mo)] }
theorem uG (l:L.Sq L.Pt) (hp:UM l):vc prog ({ uF with loops:=AT [],rfs:=AQ [(3,{ T:=Nat,keep:=[3],keepO:=[],own:=fun k _=>[(3,.blk 3 [.p (.int .i64 (BT l k))])],inv:=fun k _=>k<=l.n })] }) (Ae f75) (Ao f75 [.p (.sl 2 l.n (fun i=>[.int .i64 (l.g i).x,.int .i64 (l.g i).y]))]) (AL prog f75 (UN l)):=
 @Eq.mpr _ (let I:=SV.int .i64;let T:=AhD;let M:=AhQ;let A5:=((0:Int)<=2/\2<(↑(3:Nat):Int));let A4:=((0:Int)<=1/\1<(↑(3:Nat):Int));let A3:=((∀(i:Nat),let A7:=[I (l.g i).x,I (l.g i).y];i<l.n->A7=A7)/\l.n<=1000);A3/\(A3/\∃(t:Nat),(0:Int)=BT l 0/\(0:Nat)<=l.n)/\(∀(k t:Nat) (vk:Nat->Go.Value),let A6:=(l.g (T (↑k:Int)));let A1:=(l.g (T (M ((↑k:Int)+(1:Int)) (↑l.n:Int))));let A2:=(A6.x*A1.y-A1.x*A6.y);k<l.n->k<=l.n->A4/\A5/\Ab .i64 (A6.x*A1.y)/\A5/\A4/\Ab .i64 (A1.x*A6.y)/\Ab .i64 A2/\Ab .i64 (BT l k+A2)/\∃(t':Nat),0=0/\vk 3=vk 3/\BT l k+A2=BT l (k+1)/\k+1<=l.n)/\∀(t:Nat),l.n<=l.n->BT l l.n=BT l l.n) (by kernel_rfl) (by
 conv=>zeta
 have hs:EN l:=hp;refine⟨⟨zr,hs.1⟩,⟨⟨zr,hs.1⟩,(0:Nat),rfl,rH _⟩,fun k t vk hk hi=>?_,fun _ _=>rfl⟩;have e0:((k:Int)).toNat=k:=by omega
 have e1:(AhQ ((k:Int)+1) (l.n:Int)).toNat=BO l.n k:=rfl;rw[e0,e1];have b1:=Qt hs hk;have b2:=NL hs k hi;have hn:=hs.1;refine⟨by omega,by omega,jK,by omega,by omega,jK,jK,jK,(0:Nat),rfl,rfl,rfl,hk⟩)
theorem UP:Az prog 75 Qv:=AN func75 (c:=Ae f75) (by kernel_rfl) mixed (fun _ _ _ hs hp=>by
 unfold UO at hs;split at hs
 ·cases hs;exact⟨_,_,uG _ hp.2,(.p (.sl hp.1) .nil),⟨show Aa prog _ from(Aa.cons NO NP Aa.nil),rfl,⟨show Ac prog _ from(Ac.cons NM NN Ac.nil),(AB.none (fun _=>rfl))⟩⟩⟩
 ·cases hs)
theorem UQ:An prog 75:=fun _ _=>by kernel_rfl
end
section
set_option maxRecDepth 100000
set_option maxHeartbeats 4000000
set_option linter.unusedVariables false
attribute [local irreducible] vc
def B0 (a b:Int):Int:=bif decide (a<b)then -1 else bif decide (b<a)then 1 else 0
def HQ (a b:Int):Int:=bif decide (a=0)then b else a
def GV (g:Nat->Int):Nat->Int
 |0=>0
 |n+1=>HQ (GV g n) (g n)
theorem Qw {g:Nat->Int}:∀{n:Nat},(∀j,j<n->g j=0)->GV g n=0
 |0,_=>rfl
 |n+1,h=>by rw[GV,Qw (n:=n) (fun j hj=>h j (by omega)),h n (by omega)];rfl
theorem UR {g:Nat->Int} {i:Nat} (h0:∀j,j<i->g j=0) (hi:g i≠0):∀{n:Nat},i<n->GV g n=g i
 |n+1,h=>by
   by_cases hin:i<n
   ·simp[GV,HQ,UR h0 hi hin,hi]
   ·have:i=n:=by omega
    subst this;simp[GV,HQ,Qw h0]
def BQ:Nat->(Nat->Bool)->Int
 |0,_=>-1
 |n+1,f=>bif decide (0<=BQ n f)then BQ n f else bif f n then(n:Int)else -1
def BH:Nat->(Nat->Bool)->Bool
 |0,_=>false
 |n+1,f=>BH n f||f n
theorem EO {f:Nat->Bool}:∀{n:Nat},BH n f=true↔∃i,i<n/\f i=true
 |0=>by simp[BH]
 |n+1=>by
   simp only[BH,Bool.or_eq_true,EO (n:=n)];constructor
   ·rintro(⟨i,h,k⟩|h)
    ·exact⟨i,by omega,k⟩
    ·exact⟨n,by omega,h⟩
   ·rintro⟨i,h,k⟩;rcases Ah6.1 h with h|rfl
    ·exact .inl ⟨i,h,k⟩
    ·exact .inr k
theorem IB {f:Nat->Bool}:∀{n:Nat},(∀j,j<n->f j=false)->BQ n f = -1
 |0,_=>rfl
 |n+1,h=>by rw[BQ,IB (n:=n) (fun j hj=>h j (by omega)),h n (by omega)];rfl
theorem J0 {f:Nat->Bool} {i:Nat} (h0:∀j,j<i->f j=false) (hi:f i=true):∀{n:Nat},i<n->BQ n f=(i:Int)
 |n+1,h=>by
   by_cases hin:i<n
   ·simp[BQ,J0 h0 hi hin]
   ·have:i=n:=by omega
    subst this;simp[BQ,IB h0,hi]
theorem Mq {f:Nat->Bool}:∀{n:Nat},decide (0<=BQ n f)=BH n f
 |0=>rfl
 |n+1=>by
   have ih:=Mq (f:=f) (n:=n);unfold BH;rw[<- ih];cases hf:f n<;>by_cases h:0<=BQ n f<;>simp[BQ,hf,h]
theorem C6 {f:Nat->Bool}:∀{n:Nat},-1<=BQ n f/\BQ n f<(n:Int)
 |0=>by simp[BQ]
 |n+1=>by
   have ih:=C6 (f:=f) (n:=n);cases hf:f n<;>by_cases h:0<=BQ n f<;>simp[BQ,hf,h]<;>omega
def AJ (p:Nat->Bool):Nat->Nat
 |0=>0
 |n+1=>bif p n then AJ p n+1 else AJ p n
theorem H0 {p:Nat->Bool}:∀{n:Nat},AJ p n<=n
 |0=>Ah0 _
 |n+1=>by
   have:=H0 (p:=p) (n:=n);unfold AJ;cases p n<;>simp<;>omega
def BI (p:Nat->Bool):Nat->Nat->Nat
 |0,_=>0
 |n+1,k=>bif p n&&decide (k=AJ p n)then n else BI p n k
theorem H1 {p:Nat->Bool} {n:Nat} (h:p n=true):AJ p (n+1)=AJ p n+1:=by simp[AJ,h]
theorem GW {p:Nat->Bool} {n:Nat} (h:p n=false):AJ p (n+1)=AJ p n:=by simp[AJ,h]
theorem HR {p:Nat->Bool} {n:Nat} (h:p n=true):BI p (n+1) (AJ p n)=n:=by simp[BI,h]
theorem H3 {p:Nat->Bool} {n k:Nat} (h:k≠AJ p n):BI p (n+1) k=BI p n k:=by simp[BI,h]
theorem IC {p:Nat->Bool} {n k:Nat} (h:p n=false):BI p (n+1) k=BI p n k:=by simp[BI,h]
theorem NQ {f:Nat->Bool}:∀{n:Nat},(BQ n f = -1/\∀j,j<n->f j=false)\/∃i,i<n/\BQ n f=(i:Int)/\f i=true/\∀j,j<i->f j=false
 |0=>.inl ⟨rfl,fun j hj=>absurd hj (oE _)⟩
 |n+1=>by
   rcases NQ (f:=f) (n:=n)with ⟨h1,h2⟩|⟨i,h1,h2,h3,h4⟩
   ·cases hf:f n with
    |true=>exact .inr ⟨n,Aiu n,by simp[BQ,h1,hf],hf,h2⟩
    |false =>exact .inl ⟨by simp[BQ, h1, hf], fun j hj =>by
     rcases Ah6.1 hj with h|rfl
     ·exact h2 j h
     ·exact hf⟩
   ·exact .inr ⟨i,by omega,by simp[BQ,h2],h3,h4⟩
theorem GX (a b:Bool):(bif a then b else false)=(a&&b):=by cases a<;>rfl
theorem De (a b:Bool):(bif a then true else b)=(a||b):=by cases a<;>rfl
def US (x:Int):Prop:=True
def UT (x:Int):SV:=.bool false
def UU:List EV->Option (Prop×SV)
 |[.p (.int .i64 x)]=>some (US x,UT x)
 |_=>none
abbrev UV:SE.Spec:=(AM UU)
def uH:Aj:={ muts:=[],frz:=B9 [],specs:=AE [],loops:=AT [],iters:=BG [],rfs:=AQ [],nils:=B3 [] }
theorem uI (x:Int) (hp:US x):vc prog (uH) (Ae f133) (Ao f133 [.p (.int .i64 x)]) (AL prog f133 (UT x)):=
 @Eq.mpr _ ((!decide (x=x))=false) (by kernel_rfl) (by
 simp)
theorem uJ:Az prog 133 UV:=AN func133 (c:=Ae f133) (by kernel_rfl) mixed (fun _ _ _ hs hp=>by
 unfold UU at hs;split at hs
 ·cases hs;exact⟨_,_,uI _ hp,(.same _ .nil),⟨show Aa prog _ from Aa.nil,rfl,nz⟩⟩
 ·cases hs)
theorem uK:An prog 133:=fun _ _=>by kernel_rfl
def UW (a:Int) (b:Int):Prop:=True
def UX (a:Int) (b:Int):SV:=.int .i64 (B0 a b)
def UY:List EV->Option (Prop×SV)
 |[.p (.int .i64 a),.p (.int .i64 b)]=>some (UW a b,UX a b)
 |_=>none
abbrev K3:SE.Spec:=(AM UY)
def uL:Aj:={ cC with specs:=AE [(133,UV)] }
theorem uM (a:Int) (b:Int) (hp:UW a b):vc prog (uL) (Ae f85) (Ao f85 [.p (.int .i64 a),.p (.int .i64 b)]) (AL prog f85 (UX a b)):=
 @Eq.mpr _ (True/\True/\(false=true->(false=true->(0:Int)=B0 a b)/\(false=false->(-1:Int)=B0 a b))/\(false=false->(false=true->(1:Int)=B0 a b)/\(false=false->(decide (a<b)=true->(-1:Int)=B0 a b)/\(decide (a<b)=false->(decide (b<a)=true->(1
:Int)=B0 a b)/\(decide (b<a)=false->(0:Int)=B0 a b))))) (by kernel_rfl) (by
 grind [B0])
theorem Mr:Az prog 85 K3:=AN func85 (c:=Ae f85) (by kernel_rfl) mixed (fun _ _ _ hs hp=>by
 unfold UY at hs;split at hs
 ·cases hs;exact⟨_,_,uM _ _ hp,(.same _ (.same _ .nil)),⟨show Aa prog _ from(Aa.cons uJ uK Aa.nil),rfl,nz⟩⟩
 ·cases hs)
theorem Ms:An prog 85:=fun _ _=>by kernel_rfl
def UZ (l:L.Sq Int):Prop:=l.n<=1000000
def Va (l:L.Sq Int):SV:=.int .i64 (GV l.g l.n)
def Vb:List EV->Option (Prop×SV)
 |[.p (.sl 1 l_n l_g)]=>some ((∀i,i<l_n->l_g i = [.int .i64 ((Ds (l_g i)))])/\UZ ⟨l_n,fun i=>Ds (l_g i)⟩,Va ⟨l_n,fun i=>Ds (l_g i)⟩)
 |_=>none
abbrev Qx:SE.Spec:=(AM Vb)
def uN:Aj:={ muts:=[],frz:=B9 [],specs:=AE [],loops:=fun _=>none,iters:=BG [],rfs:=AQ [],nils:=B3 [] }
theorem uO (l:L.Sq Int) (hp:UZ l):vc prog ({ uN with loops:=AT [(3,{ T:=Nat,keep:=[0,3,6,7],keepO:=[],chg:=fun i=>[(8,.p (.int .i64 i))],own:=fun _=>[],inv:=fun i=>i<=l.n/\(∀j,j<i->l.g j=0),mu:=fun i=>l.n-i })]}) (Ae f123) (Ao f123 [.p (.sl 1 l.n (fun i=>[.int .i64 ((l.g i))]))]) (AL prog f123 (Va l)):=
 @Eq.mpr _ (let A5:=(↑l.n:Int);let A4:=(0:Int);let A1:=(l.n=l.n/\∀(i:Nat),let A6:=[SV.int .i64 (l.g i)];i<l.n->A6=A6);(∃(g:Nat),A4=(↑g:Int)/\g<=l.n/\∀(j:Nat),j<g->l.g j=A4)/\∀(g:Nat),let A3:=(↑g:Int);let A2:=(!decide (l.g (AhD A3)=A4));(g<=l.n/\∀(j:Nat),j<g->l.g j=A4)->(decide (A3<A5)=true->(A4<=A3/\A3<A5)/\(A2=true->l.g (AhD A3)=GV l.g l.n)/\(A2=false->Ab .i64 (A3+(1:Int))/\∃(g':Nat),A3+1=(↑g':Int)/\A5=A5/\A1/\A4=A4/\A1/\(g'<=l.n/\∀(j:Nat),j<g'->l.g j=A4)/\l.n-g'<l.n-g))/\(decide (A3<A5)=false->A4=GV l.g l.n)) (by kernel_rfl) (by
 conv=>zeta
 refine⟨⟨(0:Nat),rfl,rH _,fun j hj=>by omega⟩,fun g hg=>⟨fun hlt=>?_,fun hge=>?_⟩⟩
 ·have hb:(g:Int)<(l.n:Int):=by simpa using hlt
  have e0:((g:Int)).toNat=g:=by omega
  rw[e0];have hn:l.n<=1000000:=hp;refine⟨by omega,fun h=>?_,fun h=>?_⟩
  ·exact(UR hg.2 (by simpa using h) (by omega)).symm
  ·have h0:l.g g=0:=by simpa using h
   exact⟨jK,g+1,by omega,rfl,rz,rfl,rz,⟨by omega,fun j hj=>by
    rcases Ah6.1 hj with h|rfl
    ·exact hg.2 j h
    ·exact h0⟩,by omega⟩
 ·have hb:¬ (g:Int)<(l.n:Int):=by simpa using hge
  exact(Qw (fun j hj=>hg.2 j (by omega))).symm)
theorem Vc:Az prog 123 Qx:=AN func123 (c:=Ae f123) (by kernel_rfl) mixed (fun _ _ _ hs hp=>by
 unfold Vb at hs;split at hs
 ·cases hs;exact⟨_,_,uO _ hp.2,(.p (.sl hp.1) .nil),⟨show Aa prog _ from Aa.nil,rfl,nz⟩⟩
 ·cases hs)
theorem Vd:An prog 123:=fun _ _=>by kernel_rfl
def Ve (l:L.Sq Int) (p:BN):Prop:=l.n<=1000000/\∀i,i<l.n->p.pre [(.int .i64 ((l.g i)))]
def Vf (l:L.Sq Int) (p:BN):SV:=.int .i64 (BQ l.n (fun i=>Bs p [(.int .i64 ((l.g i)))]))
def Vg:List EV->Option (Prop×SV)
 |[.p (.sl 1 l_n l_g),.fn p]=>some ((∀i,i<l_n->l_g i = [.int .i64 ((Ds (l_g i)))])/\Fr p/\Ve ⟨l_n,fun i=>Ds (l_g i)⟩ p,Vf ⟨l_n,fun i=>Ds (l_g i)⟩ p)
 |_=>none
abbrev Vh:SE.Spec:=(AM Vg)
def uP:Aj:={ muts:=[],frz:=B9 [],specs:=AE [],loops:=fun _=>none,iters:=BG [],rfs:=AQ [],nils:=B3 [] }
theorem uQ (l:L.Sq Int) (p:BN) (hp:Ve l p):vc prog ({ uP with loops:=AT [(2,{ T:=Nat,keep:=[0,1,6,7],keepO:=[],chg:=fun i=>[(8,.p (.int .i64 i))],own:=fun _=>[],inv:=fun i=>i<=l.n/\(∀j,j<i->Bs p [(.int .i64 ((l.g j)))]=false),mu:=fun i=>l.n-i })]}) (Ae f178) (Ao f178 [.p (.sl 1 l.n (fun i=>[.int .i64 ((l.g i))])),.fn ⟨p.pre,fun xs=>.bool (Bs p xs)⟩]) (AL prog f178 (Vf l p)):=
 @Eq.mpr _ (let I:=SV.int .i64;let A4:=(↑l.n:Int);let A2:=(l.n=l.n/\∀(i:Nat),i<l.n -> [I (l.g i)]= [I (l.g i)]);(∃(g:Nat),0=(↑g:Int)/\g<=l.n/\∀(j:Nat),j<g->Bs p [I (l.g j)]=false)/\∀(g:Nat),let A1:=(↑g:Int);let A3:=[I (l.g (AhD A1))];(g<=l.n/\∀(j:Nat),j<g->Bs p [I (l.g j)]=false)->(decide (A1<A4)=true->(0<=A1/\A1<A4)/\p.1 A3/\(Bs p A3=true->A1=BQ l.n fun(i:Nat)=>Bs p [I (l.g i)])/\(Bs p A3=false->Ab .i64 (A1+(1:Int))/\∃(g':Nat),A1+1=(↑g':Int)/\A4=A4/\A2/\A2/\((BN.mk p.pre fun(xs:List SV)=>SV.bool (Bs p xs))=BN.mk p.pre fun(xs:List SV)=>SV.bool (Bs p xs))/\(g'<=l.n/\∀(j:Nat),j<g'->Bs p [I (l.g j)]=false)/\l.n-g'<l.n-g))/\(decide (A1<A4)=false->(-1:Int)=BQ l.n fun(i:Nat)=>Bs p [I (l.g i)])) (by kernel_rfl) (by
 conv=>zeta
 obtain⟨hn,hpre⟩:=hp;refine⟨⟨(0:Nat),rfl,rH _,fun j hj=>by omega⟩,fun g hg=>⟨fun hlt=>?_,fun hge=>?_⟩⟩
 ·have hb:(g:Int)<(l.n:Int):=by simpa using hlt
  have e0:((g:Int)).toNat=g:=by omega
  rw[e0];refine⟨by omega,hpre g (by omega),fun h=>?_,fun h=>?_⟩
  ·exact(J0 hg.2 h (by omega)).symm
  ·exact⟨jK, g+1, by omega, rfl, ⟨rfl, fun _ _ =>rfl⟩, ⟨rfl, fun _ _ =>rfl⟩, rfl, ⟨by omega, fun j hj =>by
   rcases Ah6.1 hj with h'|rfl
   ·exact hg.2 j h'
   ·exact h⟩,by omega⟩
 ·have hb:¬ (g:Int)<(l.n:Int):=by simpa using hge
  exact(IB (fun j hj=>hg.2 j (by omega))).symm)
theorem uR:Az prog 178 Vh:=AN func178 (c:=Ae f178) (by kernel_rfl) mixed (fun _ _ _ hs hp=>by
 unfold Vg at hs;split at hs
 ·cases hs;exact⟨_,_,uQ _ _ hp.2.2,(.p (.sl hp.1) (.fn (fun xs h=>⟨h,(K2 hp.2.1 h).symm⟩) .nil)),⟨show Aa prog _ from Aa.nil,rfl,nz⟩⟩
 ·cases hs)
theorem uS:An prog 178:=fun _ _=>by kernel_rfl
def Vi (l:L.Sq Int) (p:BN):Prop:=l.n<=1000000/\∀i,i<l.n->p.pre [(.int .i64 ((l.g i)))]
def Vj (l:L.Sq Int) (p:BN):SV:=.bool (BH l.n (fun i=>Bs p [(.int .i64 ((l.g i)))]))
def Vk:List EV->Option (Prop×SV)
 |[.p (.sl 1 l_n l_g),.fn p]=>some ((∀i,i<l_n->l_g i = [.int .i64 ((Ds (l_g i)))])/\Fr p/\Vi ⟨l_n,fun i=>Ds (l_g i)⟩ p,Vj ⟨l_n,fun i=>Ds (l_g i)⟩ p)
 |_=>none
abbrev Vl:SE.Spec:=(AM Vk)
def uT:Aj:={ cC with specs:=AE [(178,Vh)] }
theorem uU (l:L.Sq Int) (p:BN) (hp:Vi l p):vc prog (uT) (Ae f135) (Ao f135 [.p (.sl 1 l.n (fun i=>[.int .i64 ((l.g i))])),.fn ⟨p.pre,fun xs=>.bool (Bs p xs)⟩]) (AL prog f135 (Vj l p)):=
 @Eq.mpr _ (let I:=SV.int .i64;let A1:=(BN.mk p.pre fun(xs:List SV)=>SV.bool (Bs p xs));((∀(i:Nat),i<l.n -> [I (l.g i)]= [I (l.g i)])/\Fr A1/\l.n<=1000000/\∀(i:Nat),i<l.n->p.1 [I (l.g i)])/\decide ((0:Int)<=BQ l.n fun(i:Nat)=>Bs A1 [I (l.g i)])=BH l.n fun(i:Nat)=>Bs p [I (l.g i)]) (by kernel_rfl) (by
 conv=>zeta
 refine⟨⟨zr,fun xs _=>⟨_,rfl⟩,hp⟩,Mq⟩)
theorem uV:Az prog 135 Vl:=AN func135 (c:=Ae f135) (by kernel_rfl) mixed (fun _ _ _ hs hp=>by
 unfold Vk at hs;split at hs
 ·cases hs;exact⟨_,_,uU _ _ hp.2.2,(.p (.sl hp.1) (.fn (fun xs h=>⟨h,(K2 hp.2.1 h).symm⟩) .nil)),⟨show Aa prog _ from(Aa.cons uR uS Aa.nil),rfl,nz⟩⟩
 ·cases hs)
theorem uW:An prog 135:=fun _ _=>by kernel_rfl
def Vm (l:L.Sq L.Pt) (p:BN):Prop:=l.n<=1000000/\∀i,i<l.n->p.pre [(.agg [.int .i64 (l.g i).x,.int .i64 (l.g i).y])]
def Vn (l:L.Sq L.Pt) (p:BN):SV:=.int .i64 (BQ l.n (fun i=>Bs p [(.agg [.int .i64 (l.g i).x,.int .i64 (l.g i).y])]))
def Vo:List EV->Option (Prop×SV)
 |[.p (.sl 2 l_n l_g),.fn p]=>some ((∀i,i<l_n->l_g i = [.int .i64 (Ad (l_g i)).x,.int .i64 (Ad (l_g i)).y])/\Fr p/\Vm ⟨l_n,fun i=>Ad (l_g i)⟩ p,Vn ⟨l_n,fun i=>Ad (l_g i)⟩ p)
 |_=>none
abbrev Qy:SE.Spec:=(AM Vo)
def uX:Aj:={ muts:=[],frz:=B9 [],specs:=AE [],loops:=fun _=>none,iters:=BG [],rfs:=AQ [],nils:=B3 [] }
theorem uY (l:L.Sq L.Pt) (p:BN) (hp:Vm l p):vc prog ({ uX with loops:=AT [(2,{ T:=Nat,keep:=[0,1,6,7],keepO:=[],chg:=fun i=>[(8,.p (.int .i64 i))],own:=fun _=>[],inv:=fun i=>i<=l.n/\(∀j,j<i->Bs p [(.agg [.int .i64 (l.g j).x,.int .i64 (l.g j).y])]=false),mu:=fun i=>l.n-i })]}) (Ae f159) (Ao f159 [.p (.sl 2 l.n (fun i=>[.int .i64 (l.g i).x,.int .i64 (l.g i).y])),.fn ⟨p.pre,fun xs=>.bool (Bs p xs)⟩]) (AL prog f159 (Vn l p)):=
 @Eq.mpr _ (let I:=SV.int .i64;let T:=AhD;let A4:=(↑l.n:Int);let A2:=(l.n=l.n/\∀(i:Nat),let A5:=[I (l.g i).x,I (l.g i).y];i<l.n->A5=A5);(∃(g:Nat),0=(↑g:Int)/\g<=l.n/\∀(j:Nat),j<g->Bs p [SV.agg [I (l.g j).x,I (l.g j).y]]=false)/\∀(g:Nat),let A3:=(↑g:Int);let A1:=[SV.agg [I (l.g (T A3)).x,I (l.g (T A3)).y]];(g<=l.n/\∀(j:Nat),j<g->Bs p [SV.agg [I (l.g j).x,I (l.g j).y]]=false)->(decide (A3<A4)=true->(0<=A3/\A3<A4)/\p.1 A1/\(Bs p A1=true->A3=BQ l.n fun(i:Nat)=>Bs p [SV.agg [I (l.g i).x,I (l.g i).y]])/\(Bs p A1=false->Ab .i64 (A3+(1:Int))/\∃(g':Nat),A3+1=(↑g':Int)/\A4=A4/\A2/\A2/\((BN.mk p.pre fun(xs:List SV)=>SV.bool (Bs p xs))=BN.mk p.pre fun(xs:List SV)=>SV.bool (Bs p xs))/\(g'<=l.n/\∀(j:Nat),j<g'->Bs p [SV.agg [I (l.g j).x,I (l.g j).y]]=false)/\l.n-g'<l.n-g))/\(decide (A3<A4)=false->(-1:Int)=BQ l.n fun(i:Nat)=>Bs p [SV.agg [I (l.g i).x,I (l.g i).y]])) (by kernel_rfl) (by
 conv=>zeta
 obtain⟨hn,hpre⟩:=hp;refine⟨⟨(0:Nat),rfl,rH _,fun j hj=>by omega⟩,fun g hg=>⟨fun hlt=>?_,fun hge=>?_⟩⟩
 ·have hb:(g:Int)<(l.n:Int):=by simpa using hlt
  have e0:((g:Int)).toNat=g:=by omega
  rw[e0];refine⟨by omega,hpre g (by omega),fun h=>?_,fun h=>?_⟩
  ·exact(J0 hg.2 h (by omega)).symm
  ·exact⟨jK, g+1, by omega, rfl, ⟨rfl, fun _ _ =>rfl⟩, ⟨rfl, fun _ _ =>rfl⟩, rfl, ⟨by omega, fun j hj =>by
   rcases Ah6.1 hj with h'|rfl
   ·exact hg.2 j h'
   ·exact h⟩,by omega⟩
 ·have hb:¬ (g:Int)<(l.n:Int):=by simpa using hge
  exact(IB (fun j hj=>hg.2 j (by omega))).symm)
theorem Vp:Az prog 159 Qy:=AN func159 (c:=Ae f159) (by kernel_rfl) mixed (fun _ _ _ hs hp=>by
 unfold Vo at hs;split at hs
 ·cases hs;exact⟨_,_,uY _ _ hp.2.2,(.p (.sl hp.1) (.fn (fun xs h=>⟨h,(K2 hp.2.1 h).symm⟩) .nil)),⟨show Aa prog _ from Aa.nil,rfl,nz⟩⟩
 ·cases hs)
theorem Vq:An prog 159:=fun _ _=>by kernel_rfl
def Vr (l:L.Sq L.Pt) (p:BN):Prop:=l.n<=1000000/\∀i,i<l.n->p.pre [(.agg [.int .i64 (l.g i).x,.int .i64 (l.g i).y])]
def Vs (l:L.Sq L.Pt) (p:BN):SV:=.bool (BH l.n (fun i=>Bs p [(.agg [.int .i64 (l.g i).x,.int .i64 (l.g i).y])]))
def Vt:List EV->Option (Prop×SV)
 |[.p (.sl 2 l_n l_g),.fn p]=>some ((∀i,i<l_n->l_g i = [.int .i64 (Ad (l_g i)).x,.int .i64 (Ad (l_g i)).y])/\Fr p/\Vr ⟨l_n,fun i=>Ad (l_g i)⟩ p,Vs ⟨l_n,fun i=>Ad (l_g i)⟩ p)
 |_=>none
abbrev Qz:SE.Spec:=(AM Vt)
def uZ:Aj:={ cC with specs:=AE [(159,Qy)] }
theorem vA (l:L.Sq L.Pt) (p:BN) (hp:Vr l p):vc prog (uZ) (Ae f120) (Ao f120 [.p (.sl 2 l.n (fun i=>[.int .i64 (l.g i).x,.int .i64 (l.g i).y])),.fn ⟨p.pre,fun xs=>.bool (Bs p xs)⟩]) (AL prog f120 (Vs l p)):=
 @Eq.mpr _ (let I:=SV.int .i64;let A1:=(BN.mk p.pre fun(xs:List SV)=>SV.bool (Bs p xs));((∀(i:Nat),let A2:=[I (l.g i).x,I (l.g i).y];i<l.n->A2=A2)/\Fr A1/\l.n<=1000000/\∀(i:Nat),i<l.n->p.1 [SV.agg [I (l.g i).x,I (l.g i).y]])/\decide ((0:Int)<=BQ l.n fun(i:Nat)=>Bs A1 [SV.agg [I (l.g i).x,I (l.g i).y]])=BH l.n fun(i:Nat)=>Bs p [SV.agg [I (l.g i).x,I (l.g i).y]]) (by kernel_rfl) (by
 conv=>zeta
 refine⟨⟨zr,fun xs _=>⟨_,rfl⟩,hp⟩,Mq⟩)
theorem Vu:Az prog 120 Qz:=AN func120 (c:=Ae f120) (by kernel_rfl) mixed (fun _ _ _ hs hp=>by
 unfold Vt at hs;split at hs
 ·cases hs;exact⟨_,_,vA _ _ hp.2.2,(.p (.sl hp.1) (.fn (fun xs h=>⟨h,(K2 hp.2.1 h).symm⟩) .nil)),⟨show Aa prog _ from(Aa.cons Vp Vq Aa.nil),rfl,nz⟩⟩
 ·cases hs)
theorem Vv:An prog 120:=fun _ _=>by kernel_rfl
end
section
set_option maxRecDepth 100000
set_option maxHeartbeats 4000000
set_option linter.unusedVariables false
attribute [local irreducible] vc
def Ay (a b c:L.Pt):Int:=(b.x-a.x)*(c.y-a.y)-(b.y-a.y)*(c.x-a.x)
def DB (a b:L.Pt):Int:=(b.x-a.x)*(b.x-a.x)+(b.y-a.y)*(b.y-a.y)
def As (p:L.Pt):Prop:=-4000000<=p.x/\p.x<=4000000 /\ -4000000<=p.y/\p.y<=4000000
def B4 (p:L.Pt):Bool:=AI p.x 0 4096&&AI p.y 0 4096
theorem vB {p:L.Pt} (h:B4 p=true):As p:=by
 simp only[B4,AI,pR,decide_eq_true_eq]at h;unfold As;omega
def BZ (a b:L.Pt):Int:=HQ (B0 a.x b.x) (B0 a.y b.y)
def CR (a b p:L.Pt):Bool:=decide (Ay a b p=0)&&AI p.x (min a.x b.x) (max a.x b.x)&&AI p.y (min a.y b.y) (max a.y b.y)
def GY (a b c d:L.Pt):Bool:=decide (B0 (Ay a b c) 0*B0 (Ay a b d) 0<0)
theorem Vw {f:Nat->Bool}:∀{n:Nat},(!BH n f)=Ch n (fun i=>!f i)
 |0=>rfl
 |n+1=>by simp[BH,Ch,<- Vw (n:=n)]
theorem K4 (a b:Int): -1<=B0 a b/\B0 a b<=1:=by
 unfold B0
 by_cases h:a<b<;>by_cases k:b<a<;>simp[h,k]
def Vx (a:L.Pt) (b:L.Pt) (c:L.Pt):Prop:=As a/\As b/\As c
def Vy (a:L.Pt) (b:L.Pt) (c:L.Pt):SV:=.int .i64 (Ay a b c)
def Vz:List EV->Option (Prop×SV)
 |[.p (.agg [.int .i64 a_x,.int .i64 a_y]),.p (.agg [.int .i64 b_x,.int .i64 b_y]),.p (.agg [.int .i64 c_x,.int .i64 c_y])]=>some (Vx (⟨a_x,a_y⟩:L.Pt) (⟨b_x,b_y⟩:L.Pt) (⟨c_x,c_y⟩:L.Pt),Vy (⟨a_x,a_y⟩:L.Pt) (⟨b_x,b_y⟩:L.Pt) (⟨c_x,c_y⟩:L.Pt))
 |_=>none
abbrev J1:SE.Spec:=(AM Vz)
def vC:Aj:={ muts:=[],frz:=B9 [],specs:=AE [],loops:=AT [],iters:=BG [],rfs:=AQ [],nils:=B3 [] }
theorem vD (a:L.Pt) (b:L.Pt) (c:L.Pt) (hp:Vx a b c):vc prog (vC) (Ae f77) (Ao f77 [.p (.agg [.int .i64 a.x,.int .i64 a.y]),.p (.agg [.int .i64 b.x,.int .i64 b.y]),.p (.agg [.int .i64 c.x,.int .i64 c.y])]) (AL prog f77 (Vy a b c)):=
 @Eq.mpr _ (let A4:=(c.x-a.x);let A3:=(b.y-a.y);let A2:=(c.y-a.y);let A1:=(b.x-a.x);Ab .i64 A1/\Ab .i64 A2/\Ab .i64 (A1*A2)/\Ab .i64 A3/\Ab .i64 A4/\Ab .i64 (A3*A4)/\Ab .i64 (A1*A2-A3*A4)/\A1*A2-A3*A4=Ay a b c) (by kernel_rfl) (by
 conv=>zeta
 obtain⟨h1,h2,h3⟩:=hp;unfold As at h1 h2 h3;have m1:=Dd (a:=b.x-a.x) (b:=c.y-a.y) (m:=8000000) (n:=8000000) (by omega) (by omega) (by omega) (by omega);have m2:=Dd (a:=b.y-a.y) (b:=c.x-a.x) (m:=8000000) (n:=8000000) (by omega) (by omega) (by omega) (by omega);exact⟨jK,jK,jK,jK,jK,jK,jK,rfl⟩)
theorem K5:Az prog 77 J1:=AN func77 (c:=Ae f77) (by kernel_rfl) mixed (fun _ _ _ hs hp=>by
 unfold Vz at hs;split at hs
 ·cases hs;exact⟨_,_,vD _ _ _ hp,(.same _ (.same _ (.same _ .nil))),⟨show Aa prog _ from Aa.nil,rfl,nz⟩⟩
 ·cases hs)
theorem K6:An prog 77:=fun _ _=>by kernel_rfl
def V0 (p:L.Pt):Prop:=True
def V1 (p:L.Pt):SV:=.bool (B4 p)
def V2:List EV->Option (Prop×SV)
 |[.p (.agg [.int .i64 p_x,.int .i64 p_y])]=>some (V0 (⟨p_x,p_y⟩:L.Pt),V1 (⟨p_x,p_y⟩:L.Pt))
 |_=>none
abbrev Q0:SE.Spec:=(AM V2)
def vE:Aj:={ cC with specs:=AE [(73,NK)] }
theorem vF (p:L.Pt) (hp:V0 p):vc prog (vE) (Ae f43) (Ao f43 [.p (.agg [.int .i64 p.x,.int .i64 p.y])]) (AL prog f43 (V1 p)):=
 @Eq.mpr _ (True/\(AI p.x (0:Int) (4096:Int)=true->True)/\(bif AI p.x (0:Int) (4096:Int)then AI p.y (0:Int) (4096:Int)else false)=B4 p) (by kernel_rfl) (by
 refine⟨trivial,fun _=>trivial,?_⟩;unfold B4;cases AI p.x 0 4096<;>rfl)
theorem V3:Az prog 43 Q0:=AN func43 (c:=Ae f43) (by kernel_rfl) mixed (fun _ _ _ hs hp=>by
 unfold V2 at hs;split at hs
 ·cases hs;exact⟨_,_,vF _ hp,(.same _ .nil),⟨show Aa prog _ from(Aa.cons Qr Qs Aa.nil),rfl,nz⟩⟩
 ·cases hs)
theorem V4:An prog 43:=fun _ _=>by kernel_rfl
def V5 (p:L.Pt):Prop:=True
def V6 (p:L.Pt):SV:=.bool (!B4 p)
def K7:List EV->Option (Prop×SV)
 |[.p (.agg [.int .i64 p_x,.int .i64 p_y])]=>some (V5 (⟨p_x,p_y⟩:L.Pt),V6 (⟨p_x,p_y⟩:L.Pt))
 |_=>none
abbrev V7:SE.Spec:=(AM K7)
def vG:Aj:={ cC with specs:=AE [(43,Q0)] }
theorem vH (p:L.Pt) (hp:V5 p):vc prog (vG) (Ae f121) (Ao f121 [.p (.agg [.int .i64 p.x,.int .i64 p.y])]) (AL prog f121 (V6 p)):=
 @Eq.mpr _ (True/\(!B4 p)= !B4 p) (by kernel_rfl) (by
 exact⟨trivial,rfl⟩)
theorem vI:Az prog 121 V7:=AN func121 (c:=Ae f121) (by kernel_rfl) mixed (fun _ _ _ hs hp=>by
 unfold K7 at hs;split at hs
 ·cases hs;exact⟨_,_,vH _ hp,(.same _ .nil),⟨show Aa prog _ from(Aa.cons V3 V4 Aa.nil),rfl,nz⟩⟩
 ·cases hs)
theorem vJ:An prog 121:=fun _ _=>by kernel_rfl
theorem vK:∀args p r,K7 args=some (p,r)->∃b,r=.bool b:=by
 intro args p r h;unfold K7 at h;split at h
 ·cases h;exact⟨_,rfl⟩
 ·cases h
def V8 (l:L.Sq L.Pt):Prop:=l.n<=1000000
def V9 (l:L.Sq L.Pt):SV:=.bool (Ch l.n (fun i=>B4 (l.g i)))
def VA:List EV->Option (Prop×SV)
 |[.p (.sl 2 l_n l_g)]=>some ((∀i,i<l_n->l_g i = [.int .i64 (Ad (l_g i)).x,.int .i64 (Ad (l_g i)).y])/\V8 ⟨l_n,fun i=>Ad (l_g i)⟩,V9 ⟨l_n,fun i=>Ad (l_g i)⟩)
 |_=>none
abbrev Q1:SE.Spec:=(AM VA)
def vL:Aj:={ cC with specs:=AE [(120,Qz),(121,V7)] }
theorem vM (l:L.Sq L.Pt) (hp:V8 l):vc prog (vL) (Ae f74) (Ao f74 [.p (.sl 2 l.n (fun i=>[.int .i64 (l.g i).x,.int .i64 (l.g i).y]))]) (AL prog f74 (V9 l)):=
 @Eq.mpr _ (let I:=SV.int .i64;let A1:=(BN.mk (fun(«as»:List SV)=>DA K7 (AhK EV.p «as» ++ AhK EV.p [])) fun(«as»:List SV)=>En K7 (AhK EV.p «as» ++ AhK EV.p []));((∀(i:Nat),let A2:=[I (l.g i).x,I (l.g i).y];i<l.n->A2=A2)/\Fr A1/\l.n<=1000000/\∀(i:Nat),i<l.n->True)/\(!BH l.n fun(i:Nat)=>Bs A1 [SV.agg [I (l.g i).x,I (l.g i).y]])=Ch l.n fun(i:Nat)=>B4 (l.g i)) (by kernel_rfl) (by
 conv=>zeta
 refine⟨⟨zr,Mg vK _,hp,fun _ _=>trivial⟩,?_⟩;rw[Vw];exact congrArg (Ch l.n) (funext fun i=>Bool.not_not (B4 (l.g i))))
theorem VB:Az prog 74 Q1:=AN func74 (c:=Ae f74) (by kernel_rfl) mixed (fun _ _ _ hs hp=>by
 unfold VA at hs;split at hs
 ·cases hs;exact⟨_,_,vM _ hp.2,(.p (.sl hp.1) .nil),⟨show Aa prog _ from(Aa.cons Vu Vv (Aa.cons vI vJ Aa.nil)),rfl,nz⟩⟩
 ·cases hs)
theorem VC:An prog 74:=fun _ _=>by kernel_rfl
def VD (a:L.Pt) (b:L.Pt):Prop:=True
def VE (a:L.Pt) (b:L.Pt):SV:=.int .i64 (BZ a b)
def Q2:List EV->Option (Prop×SV)
 |[.p (.agg [.int .i64 a_x,.int .i64 a_y]),.p (.agg [.int .i64 b_x,.int .i64 b_y])]=>some (VD (⟨a_x,a_y⟩:L.Pt) (⟨b_x,b_y⟩:L.Pt),VE (⟨a_x,a_y⟩:L.Pt) (⟨b_x,b_y⟩:L.Pt))
 |_=>none
abbrev Q3:SE.Spec:=(AM Q2)
def vN:Aj:={ cC with specs:=AE [(85,K3),(123,Qx)] }
theorem vO (a:L.Pt) (b:L.Pt) (hp:VD a b):vc prog (vN) (Ae f78) (Ao f78 [.p (.agg [.int .i64 a.x,.int .i64 a.y]),.p (.agg [.int .i64 b.x,.int .i64 b.y])]) (AL prog f78 (VE a b)):=
 @Eq.mpr _ (let I:=SV.int .i64;let A1:=[I (B0 a.x b.x),I (B0 a.y b.y)];True/\True/\((∀(i:Nat),i<2->AD A1 1 i = [I (Ds (AD A1 1 i))])/\2<=1000000)/\GV (fun(i:Nat)=>Ds (AD A1 1 i)) 2=BZ a b) (by kernel_rfl) (by
 conv=>zeta
 exact⟨trivial,trivial,⟨fun i hi=>by match i,hi with|0,_=>rfl|1,_=>rfl,by decide⟩,rfl⟩)
theorem Q4:Az prog 78 Q3:=AN func78 (c:=Ae f78) (by kernel_rfl) mixed (fun _ _ _ hs hp=>by
 unfold Q2 at hs;split at hs
 ·cases hs;exact⟨_,_,vO _ _ hp,(.same _ (.same _ .nil)),⟨show Aa prog _ from(Aa.cons Mr Ms (Aa.cons Vc Vd Aa.nil)),rfl,nz⟩⟩
 ·cases hs)
theorem Q5:An prog 78:=fun _ _=>by kernel_rfl
def VF (a:L.Pt) (b:L.Pt) (p:L.Pt):Prop:=As a/\As b/\As p
def VG (a:L.Pt) (b:L.Pt) (p:L.Pt):SV:=.bool (CR a b p)
def VH:List EV->Option (Prop×SV)
 |[.p (.agg [.int .i64 a_x,.int .i64 a_y]),.p (.agg [.int .i64 b_x,.int .i64 b_y]),.p (.agg [.int .i64 p_x,.int .i64 p_y])]=>some (VF (⟨a_x,a_y⟩:L.Pt) (⟨b_x,b_y⟩:L.Pt) (⟨p_x,p_y⟩:L.Pt),VG (⟨a_x,a_y⟩:L.Pt) (⟨b_x,b_y⟩:L.Pt) (⟨p_x,p_y⟩:L.Pt))
 |_=>none
abbrev VI:SE.Spec:=(AM VH)
def vP:Aj:={ cC with specs:=AE [(77,J1),(73,NK)] }
theorem vQ (a:L.Pt) (b:L.Pt) (p:L.Pt) (hp:VF a b p):vc prog (vP) (Ae f160) (Ao f160 [.p (.agg [.int .i64 a.x,.int .i64 a.y]),.p (.agg [.int .i64 b.x,.int .i64 b.y]),.p (.agg [.int .i64 p.x,.int .i64 p.y])]) (AL prog f160 (VG a b p)):=
 @Eq.mpr _ ((As a/\As b/\As p)/\(decide (Ay a b p=(0:Int))=true->True)/\((bif decide (Ay a b p=(0:Int))then AI p.x (Min.min a.x b.x) (Max.max a.x b.x)else false)=true->True)/\(bif bif decide (Ay a b p=(0:Int))then AI p.x (Min.min a.x b.x) (Max.max a.x b.x)else false then AI p.y (Min.min a.y b.y) (Max.max a.y b.y)else false)=CR a b p) (by kernel_rfl) (by
 refine⟨hp,fun _=>trivial,fun _=>trivial,?_⟩;unfold CR;cases decide (Ay a b p=0)<;>cases AI p.x (min a.x b.x) (max a.x b.x)<;>rfl)
theorem vR:Az prog 160 VI:=AN func160 (c:=Ae f160) (by kernel_rfl) mixed (fun _ _ _ hs hp=>by
 unfold VH at hs;split at hs
 ·cases hs;exact⟨_,_,vQ _ _ _ hp,(.same _ (.same _ (.same _ .nil))),⟨show Aa prog _ from(Aa.cons K5 K6 (Aa.cons Qr Qs Aa.nil)),rfl,nz⟩⟩
 ·cases hs)
theorem vS:An prog 160:=fun _ _=>by kernel_rfl
def VJ (a:L.Pt) (b:L.Pt) (c:L.Pt) (d:L.Pt):Prop:=As a/\As b/\As c/\As d
def VK (a:L.Pt) (b:L.Pt) (c:L.Pt) (d:L.Pt):SV:=.bool (GY a b c d)
def VL:List EV->Option (Prop×SV)
 |[.p (.agg [.int .i64 a_x,.int .i64 a_y]),.p (.agg [.int .i64 b_x,.int .i64 b_y]),.p (.agg [.int .i64 c_x,.int .i64 c_y]),.p (.agg [.int .i64 d_x,.int .i64 d_y])]=>some (VJ (⟨a_x,a_y⟩:L.Pt) (⟨b_x,b_y⟩:L.Pt) (⟨c_x,c_y⟩:L.Pt) (⟨d_x,d_y⟩:L.Pt),VK (⟨a_x,a_y⟩:L.Pt) (⟨b_x,b_y⟩:L.Pt) (⟨c_x,c_y⟩:L.Pt) (⟨d_x,d_y⟩:L.Pt))
 |_=>none
abbrev VM:SE.Spec:=(AM VL)
def vT:Aj:={ cC with specs:=AE [(77,J1),(85,K3)] }
theorem vU (a:L.Pt) (b:L.Pt) (c:L.Pt) (d:L.Pt) (hp:VJ a b c d):vc prog (vT) (Ae f161) (Ao f161 [.p (.agg [.int .i64 a.x,.int .i64 a.y]),.p (.agg [.int .i64 b.x,.int .i64 b.y]),.p (.agg [.int .i64 c.x,.int .i64 c.y]),.p (.agg [.int .i64 d.x,.int .i64 d.y])]) (AL prog f161 (VK a b c d)):=
 @Eq.mpr _ ((As a/\As b/\As c)/\True/\(As a/\As b/\As d)/\True/\Ab .i64 (B0 (Ay a b c) (0:Int)*B0 (Ay a b d) (0:Int))/\decide (B0 (Ay a b c) (0:Int)*B0 (Ay a b d) (0:Int)<0)=GY a b c d) (by kernel_rfl) (by
 obtain⟨h1,h2,h3,h4⟩:=hp;have c1:=K4 (Ay a b c) 0;have c2:=K4 (Ay a b d) 0;have m:=Dd (m:=1) (n:=1) (by omega) c1.2 (by omega) c2.2;exact⟨⟨h1,h2,h3⟩,trivial,⟨h1,h2,h4⟩,trivial,jK,rfl⟩)
theorem vV:Az prog 161 VM:=AN func161 (c:=Ae f161) (by kernel_rfl) mixed (fun _ _ _ hs hp=>by
 unfold VL at hs;split at hs
 ·cases hs;exact⟨_,_,vU _ _ _ _ hp,(.same _ (.same _ (.same _ (.same _ .nil)))),⟨show Aa prog _ from(Aa.cons K5 K6 (Aa.cons Mr Ms Aa.nil)),rfl,nz⟩⟩
 ·cases hs)
theorem vW:An prog 161:=fun _ _=>by kernel_rfl
end
section
set_option maxRecDepth 100000
set_option maxHeartbeats 4000000
set_option linter.unusedVariables false
attribute [local irreducible] vc
def Bh (p q:L.Pt):Bool:=decide (p.x=q.x)&&decide (p.y=q.y)
def J2 (ks:L.Sq L.Pt) (p:L.Pt):Bool:=BH ks.n (fun i=>Bh p (ks.g i))
def FP (ks:L.Sq L.Pt) (p:L.Pt):L.Sq L.Pt:=bif J2 ks p then ks else⟨ks.n+1,fun i=>if i<ks.n then ks.g i else p⟩
def G7 (c:Bool) (ks:L.Sq L.Pt) (p:L.Pt):L.Sq L.Pt:=bif c then FP ks p else ks
def Q6:L.Sq L.Pt:=⟨0,fun _=>⟨0,0⟩⟩
def Ed (a b:L.Pt) (i:Nat):L.Pt:=bif decide (i=0)then a else b
def Ee (a b c d:L.Pt):Nat->L.Sq L.Pt
 |0=>Q6
 |n+1=>G7 (CR c d (Ed a b n)) (Ee a b c d n) (Ed a b n)
def Dt (a b c d:L.Pt):Nat->L.Sq L.Pt
 |0=>Ee a b c d 2
 |n+1=>G7 (CR a b (Ed c d n)) (Dt a b c d n) (Ed c d n)
def CY (a b c d:L.Pt):Int:=bif decide (1<((Dt a b c d 2).n:Int))then 3 else bif decide (((Dt a b c d 2).n:Int)=1)then 1 else bif (bif GY a b c d then GY c d a b else false)then 2 else 0
def Ex (ks:L.Sq L.Pt):Nat->List SV:=fun i=>[.int .i64 (ks.g i).x,.int .i64 (ks.g i).y]
theorem VN {a b:L.Pt} (ha:As a) (hb:As b) (i:Nat):As (Ed a b i):=by
 unfold Ed;cases decide (i=0)<;>assumption
theorem I1 {ks:L.Sq L.Pt} {p:L.Pt} (h:∃i,i<ks.n/\(decide (p.x=(ks.g i).x)&&decide (p.y=(ks.g i).y))=true):FP ks p=ks:=by
 have:J2 ks p=true:=EO.2 h;simp[FP,this]
theorem Kp {ks:L.Sq L.Pt} {p:L.Pt} (h:∀i,i<ks.n->(decide (p.x=(ks.g i).x)&&decide (p.y=(ks.g i).y))=false) :
  ks.n+1=(FP ks p).n/\∀i,i<ks.n+1->AH ks.n (Ex ks) (fun _=>[.int .i64 p.x,.int .i64 p.y]) i=Ex (FP ks p) i:=by
 have hn:J2 ks p=false:=by
  cases hb:J2 ks p with
  |false=>rfl
  |true =>
    obtain⟨i,hi,hq⟩:=EO.1 hb;rw[show Bh p (ks.g i)=false from h i hi]at hq;cases hq
 simp only[FP,hn,cond_false,true_and];intro i hi;unfold AH Ex
 by_cases hlt:i<ks.n<;>simp[hlt]
theorem K8 {ks:L.Sq L.Pt} {p:L.Pt}:(G7 false ks p=ks)/\G7 true ks p=FP ks p:=⟨rfl,rfl⟩
def VO (a:L.Pt) (b:L.Pt) (c:L.Pt) (d:L.Pt):Prop:=As a/\As b/\As c/\As d
def VP (a:L.Pt) (b:L.Pt) (c:L.Pt) (d:L.Pt):SV:=.int .i64 (CY a b c d)
def VQ:List EV->Option (Prop×SV)
 |[.p (.agg [.int .i64 a_x,.int .i64 a_y]),.p (.agg [.int .i64 b_x,.int .i64 b_y]),.p (.agg [.int .i64 c_x,.int .i64 c_y]),.p (.agg [.int .i64 d_x,.int .i64 d_y])]=>some (VO (⟨a_x,a_y⟩:L.Pt) (⟨b_x,b_y⟩:L.Pt) (⟨c_x,c_y⟩:L.Pt) (⟨d_x,d_y⟩:L.Pt),VP (⟨a_x,a_y⟩:L.Pt) (⟨b_x,b_y⟩:L.Pt) (⟨c_x,c_y⟩:L.Pt) (⟨d_x,d_y⟩:L.Pt))
 |_=>none
abbrev VR:SE.Spec:=(AM VQ)
def vX:Aj:={ cC with specs:=AE [(160,VI),(161,VM)] }
theorem vY (a:L.Pt) (b:L.Pt) (c:L.Pt) (d:L.Pt) (hp:VO a b c d):vc prog ({ vX with loops:=AT [(3,{ T:=Nat,keep:=[4,5,6,7,8,9,20],keepO:=[],chg:=fun i=>[(21,.p (.int .i64 (i:Int))),(19,.p (.sl 2 2 (fun i=>[.int .i64 (Ed a b i).x,.int .i64 (Ed a b i).y])))],own:=fun i=>[(16,.mp 39 (Ee a b c d i).n (Ex (Ee a b c d i)))],inv:=fun i=>i<=2,mu:=fun i=>2-i }),(9,{ T:=Nat,keep:=[4,5,6,7,8,9,35],keepO:=[],chg:=fun i=>[(36,.p (.int .i64 (i:Int))),(34,.p (.sl 2 2 (fun i=>[.int .i64 (Ed c d i).x,.int .i64 (Ed c d i).y])))],own:=fun i=>[(16,.mp 39 (Dt a b c d i).n (Ex (Dt a b c d i)))],inv:=fun i=>i<=2,mu:=fun i=>2-i })]}) (Ae f124) (Ao f124 [.p (.agg [.int .i64 a.x,.int .i64 a.y]),.p (.agg [.int .i64 b.x,.int .i64 b.y]),.p (.agg [.int .i64 c.x,.int .i64 c.y]),.p (.agg [.int .i64 d.x,.int .i64 d.y])]) (AL prog f124 (VP a b c d)):=
 @Eq.mpr _ (let I:=SV.int .i64;let T:=AhD;let A24:=(1:Nat);let A20:=(bif GY a b c d then GY c d a b else false);let A15:=(1:Int);let A14:=(0:Int);let A13:=[I a.x,I a.y];let A12:=[I b.x,I b.y];let A11:=[I c.x,I c.y];let A10:=[I d.x,I d.y];let A9:=(2:Nat);let A8:=(2=A9/\∀(i:Nat),let A21:=[I (Ed c d i).x,I (Ed c d i).y];i<2->A21=A21);let A7:=(2=A9/\∀(i:Nat),let A22:=[I (Ed a b i).x,I (Ed a b i).y];i<2->A22=A22);let A5:=(↑(nat_lit 2):Int);let A1:=nat_lit 0;(∃(g:Nat),A14=(↑g:Int)/\(2=A9/\∀(i:Nat),i<2->AD [I a.x,I a.y,I b.x,I b.y] 2 i = [I (Ed a b i).x,I (Ed a b i).y])/\(0=(Ee a b c d g).n/\∀(i:Nat),i<0 -> []=Ex (Ee a b c d g) i)/\g<=A9)/\∀(g:Nat),let A19:=(↑g:Int);let A6:=(Ed a b (T A19));let A4:=(Ee a b c d g);g<=A9->(decide (A19<A5)=true->(A14<=A19/\A19<A5)/\(As c/\As d/\As A6)/\(CR c d A6=true->(∀(i:Nat),let A17:=(decide (A6.x=(A4.g i).x)&&decide (A6.y=(A4.g i).y));i<A4.n->A17=A17)/\((∃(i:Nat),i<A4.n/\(decide (A6.x=(A4.g i).x)&&decide (A6.y=(A4.g i).y))=true)->Ab .i64 (A19+A15)/\∃(g':Nat),A19+A15=(↑g':Int)/\A7/\A5=A5/\A14=A14/\SV.ref A10 A1=SV.ref A10 A1/\SV.ref A11 A1=SV.ref A11 A1/\SV.ref A12 A1=SV.ref A12 A1/\SV.ref A13 A1=SV.ref A13 A1/\(A4.n=(Ee a b c d g').n/\∀(i:Nat),i<A4.n->Ex A4 i=Ex (Ee a b c d g') i)/\g'<=A9/\A9-g'<A9-g)/\((∀(i:Nat),i<A4.n->(decide (A6.x=(A4.g i).x)&&decide (A6.y=(A4.g i).y))=false)->Ab .i64 (A19+A15)/\∃(g':Nat),A19+A15=(↑g':Int)/\A7/\A5=A5/\A14=A14/\SV.ref A10 A1=SV.ref A10 A1/\SV.ref A11 A1=SV.ref A11 A1/\SV.ref A12 A1=SV.ref A12 A1/\SV.ref A13 A1=SV.ref A13 A1/\(A4.n+A24=(Ee a b c d g').n/\∀(i:Nat),i<A4.n+A24->AH A4.n (Ex A4) (fun(x:Nat)=>[I A6.x,I A6.y]) i=Ex (Ee a b c d g') i)/\g'<=A9/\A9-g'<A9-g))/\(CR c d A6=false->Ab .i64 (A19+A15)/\∃(g':Nat),A19+A15=(↑g':Int)/\A7/\A5=A5/\A14=A14/\SV.ref A10 A1=SV.ref A10 A1/\SV.ref A11 A1=SV.ref A11 A1/\SV.ref A12 A1=SV.ref A12 A1/\SV.ref A13 A1=SV.ref A13 A1/\(A4.n=(Ee a b c d g').n/\∀(i:Nat),i<A4.n->Ex A4 i=Ex (Ee a b c d g') i)/\g'<=A9/\A9-g'<A9-g))/\(decide (A19<A5)=false->(∃(g_1:Nat),A14=(↑g_1:Int)/\(2=A9/\∀(i:Nat),i<2->AD [I c.x,I c.y,I d.x,I d.y] 2 i = [I (Ed c d i).x,I (Ed c d i).y])/\(A4.n=(Dt a b c d g_1).n/\∀(i:Nat),i<A4.n->Ex A4 i=Ex (Dt a b c d g_1) i)/\g_1<=A9)/\∀(g_1:Nat),let A16:=(↑g_1:Int);let A3:=(Ed c d (T A16));let A2:=(Dt a b c d g_1);let A23:=(↑A2.n:Int);g_1<=A9->(decide (A16<A5)=true->(A14<=A16/\A16<A5)/\(As a/\As b/\As A3)/\(CR a b A3=true->(∀(i:Nat),let A18:=(decide (A3.x=(A2.g i).x)&&decide (A3.y=(A2.g i).y));i<A2.n->A18=A18)/\((∃(i:Nat),i<A2.n/\(decide (A3.x=(A2.g i).x)&&decide (A3.y=(A2.g i).y))=true)->Ab .i64 (A16+A15)/\∃(g':Nat),A16+A15=(↑g':Int)/\A8/\A5=A5/\A14=A14/\SV.ref A10 A1=SV.ref A10 A1/\SV.ref A11 A1=SV.ref A11 A1/\SV.ref A12 A1=SV.ref A12 A1/\SV.ref A13 A1=SV.ref A13 A1/\(A2.n=(Dt a b c d g').n/\∀(i:Nat),i<A2.n->Ex A2 i=Ex (Dt a b c d g') i)/\g'<=A9/\A9-g'<A9-g_1)/\((∀(i:Nat),i<A2.n->(decide (A3.x=(A2.g i).x)&&decide (A3.y=(A2.g i).y))=false)->Ab .i64 (A16+A15)/\∃(g':Nat),A16+A15=(↑g':Int)/\A8/\A5=A5/\A14=A14/\SV.ref A10 A1=SV.ref A10 A1/\SV.ref A11 A1=SV.ref A11 A1/\SV.ref A12 A1=SV.ref A12 A1/\SV.ref A13 A1=SV.ref A13 A1/\(A2.n+A24=(Dt a b c d g').n/\∀(i:Nat),i<A2.n+A24->AH A2.n (Ex A2) (fun(x:Nat)=>[I A3.x,I A3.y]) i=Ex (Dt a b c d g') i)/\g'<=A9/\A9-g'<A9-g_1))/\(CR a b A3=false->Ab .i64 (A16+A15)/\∃(g':Nat),A16+A15=(↑g':Int)/\A8/\A5=A5/\A14=A14/\SV.ref A10 A1=SV.ref A10 A1/\SV.ref A11 A1=SV.ref A11 A1/\SV.ref A12 A1=SV.ref A12 A1/\SV.ref A13 A1=SV.ref A13 A1/\(A2.n=(Dt a b c d g').n/\∀(i:Nat),i<A2.n->Ex A2 i=Ex (Dt a b c d g') i)/\g'<=A9/\A9-g'<A9-g_1))/\(decide (A16<A5)=false->(decide (A15<A23)=true->(3:Int)=CY a b c d)/\(decide (A15<A23)=false->(decide (A23=A15)=true->A15=CY a b c d)/\(decide (A23=A15)=false->(As a/\As b/\As c/\As d)/\(GY a b c d=true->As c/\As d/\As a/\As b)/\(A20=true->(2:Int)=CY a b c d)/\(A20=false->A14=CY a b c d)))))) (by kernel_rfl) (by
 conv=>zeta
 obtain⟨ha,hb,hc,hd⟩:=hp;refine⟨⟨(0:Nat),rfl,⟨rfl,fun i hi=>by match i,hi with|0,_=>rfl|1,_=>rfl⟩,⟨rfl,fun i hi=>absurd hi (oE _)⟩,by decide⟩,fun g hg=>⟨fun hlt=>?_,fun hge=>?_⟩⟩
 ·have hb1:(g:Int)<2:=by simpa using hlt
  have e0:((g:Int)).toNat=g:=by omega
  rw[e0];refine⟨⟨by omega,hb1⟩,⟨hc,hd,VN ha hb g⟩,fun hon=>⟨zr,fun hex=>⟨jK,g+1,by omega,rz,rfl,rfl,rfl,rfl,rfl,rfl,?_,by omega,by omega⟩,fun hnx=>⟨jK,g+1,by omega,rz,rfl,rfl,rfl,rfl,rfl,rfl,?_,by omega,by omega⟩⟩,fun hon=>⟨jK,g+1,by omega,rz,rfl,rfl,rfl,rfl,rfl,rfl,?_,by omega,by omega⟩⟩
  ·rw[show Ee a b c d (g+1)=Ee a b c d g by rw[Ee,hon,K8.2,I1 hex]];exact rz
  ·rw[Ee,hon,K8.2];exact Kp hnx
  ·rw[show Ee a b c d (g+1)=Ee a b c d g by rw[Ee,hon,K8.1]];exact rz
 ·have hb1:¬ (g:Int)<2:=by simpa using hge
  obtain rfl:g=2:=by omega
  refine⟨⟨(0:Nat),rfl,⟨rfl,fun i hi=>by match i,hi with|0,_=>rfl|1,_=>rfl⟩,⟨rfl,fun i hi=>rfl⟩,by decide⟩,fun g hg=>⟨fun hlt=>?_,fun hge=>?_⟩⟩
  ·have hb1:(g:Int)<2:=by simpa using hlt
   have e0:((g:Int)).toNat=g:=by omega
   rw[e0];refine⟨⟨by omega,hb1⟩,⟨ha,hb,VN hc hd g⟩,fun hon=>⟨zr,fun hex=>⟨jK,g+1,by omega,rz,rfl,rfl,rfl,rfl,rfl,rfl,?_,by omega,by omega⟩,fun hnx=>⟨jK,g+1,by omega,rz,rfl,rfl,rfl,rfl,rfl,rfl,?_,by omega,by omega⟩⟩,fun hon=>⟨jK,g+1,by omega,rz,rfl,rfl,rfl,rfl,rfl,rfl,?_,by omega,by omega⟩⟩
   ·rw[show Dt a b c d (g+1)=Dt a b c d g by rw[Dt,hon,K8.2,I1 hex]];exact rz
   ·rw[Dt,hon,K8.2];exact Kp hnx
   ·rw[show Dt a b c d (g+1)=Dt a b c d g by rw[Dt,hon,K8.1]];exact rz
  ·have hb1:¬ (g:Int)<2:=by simpa using hge
   obtain rfl:g=2:=by omega
   unfold CY;refine⟨fun h=>by rw[h];rfl,fun h=>⟨fun h'=>by rw[h,h'];rfl,fun h'=>⟨⟨ha,hb,hc,hd⟩,fun _=>⟨hc,hd,ha,hb⟩,fun q=>by rw[h,h',q];rfl,fun q=>by rw[h,h',q];rfl⟩⟩⟩)
theorem vZ:Az prog 124 VR:=AN func124 (c:=Ae f124) (by kernel_rfl) mixed (fun _ _ _ hs hp=>by
 unfold VQ at hs;split at hs
 ·cases hs;exact⟨_,_,vY _ _ _ _ hp,(.same _ (.same _ (.same _ (.same _ .nil)))),⟨show Aa prog _ from(Aa.cons vR vS (Aa.cons vV vW Aa.nil)),rfl,nz⟩⟩
 ·cases hs)
theorem wA:An prog 124:=fun _ _=>by kernel_rfl
end
section
set_option maxRecDepth 100000
set_option maxHeartbeats 4000000
set_option linter.unusedVariables false
attribute [local irreducible] vc
def Mt (l:L.Sq L.Pt) (i k:Nat):Bool:=bif decide ((k:Int)=(i:Int)+1)then true else bif decide ((i:Int)=0)then decide ((k:Int)=(l.n:Int)-1)else false
def K9 (l:L.Sq L.Pt) (i k:Nat):Int:=CY (l.g i) (l.g (i+1)) (l.g k) (l.g (BO l.n k))
def Ct (l:L.Sq L.Pt) (i k:Nat):Bool:=bif Mt l i k then decide (K9 l i k=1)else decide (K9 l i k=0)
def Ey (l:L.Sq L.Pt):Bool:=Ch l.n (fun i=>Ch l.n (fun k=>!decide (i<k)||Ct l i k))
def ID (l:L.Sq L.Pt):Prop:=l.n<=1000/\∀i,i<l.n->As (l.g i)
def VS (l:L.Sq L.Pt):Prop:=ID l
def VT (l:L.Sq L.Pt):SV:=.bool (Ey l)
def VU:List EV->Option (Prop×SV)
 |[.p (.sl 2 l_n l_g)]=>some ((∀i,i<l_n->l_g i = [.int .i64 (Ad (l_g i)).x,.int .i64 (Ad (l_g i)).y])/\VS ⟨l_n,fun i=>Ad (l_g i)⟩,VT ⟨l_n,fun i=>Ad (l_g i)⟩)
 |_=>none
abbrev VV:SE.Spec:=(AM VU)
def wB:Aj:={ cC with specs:=AE [(124,VR)] }
theorem wC (l:L.Sq L.Pt) (hp:VS l):vc prog ({ wB with loops:=AT [(3,{ T:=Nat,keep:=[0,3,11],keepO:=[],chg:=fun i=>[(12,.p (.int .i64 (i:Int)))],own:=fun _=>[],inv:=fun i=>i<=l.n/\∀j,j<i->∀k,j<k->k<l.n->Ct l j k=true,mu:=fun i=>l.n-i }),(6,{ T:=Nat×Nat,keep:=[0,3,4,11,12],keepO:=[],tie:=fun i=>[(4,.int .i64 (i.1:Int)),(12,.int .i64 (i.1:Int))],chg:=fun i=>[(5,.p (.int .i64 (i.2:Int)))],own:=fun _=>[],inv:=fun i=>i.1<i.2/\i.2<=l.n/\(∀j,j<i.1->∀k,j<k->k<l.n->Ct l j k=true)/\∀k,i.1<k->k<i.2->Ct l i.1 k=true,mu:=fun i=>l.n-i.2 })]}) (Ae f79) (Ao f79 [.p (.sl 2 l.n (fun i=>[.int .i64 (l.g i).x,.int .i64 (l.g i).y]))]) (AL prog f79 (VT l)):=
 @Eq.mpr _ (let I:=SV.int .i64;let T:=AhD;let M:=AhQ;let A7:=(0:Int);let A6:=(l.n=l.n/\∀(i:Nat),let A11:=[I (l.g i).x,I (l.g i).y];i<l.n->A11=A11);let A5:=(1:Int);let A3:=(↑l.n:Int);(∃(g:Nat),A7=(↑g:Int)/\g<=l.n/\∀(j:Nat),j<g->∀(k:Nat),j<k->k<l.n->Ct l j k=true)/\∀(g:Nat),let A2:=(↑g:Int);let A12:=(l.g (T A2));let A9:=(A2+A5);let A13:=(l.g (T A9));(g<=l.n/\∀(j:Nat),j<g->∀(k:Nat),j<k->k<l.n->Ct l j k=true)->(decide (A2<A3)=true->Ab .i64 A9/\(∃(g_1:Nat×Nat),A2+A5=(↑g_1.2:Int)/\A2=(↑g_1.1:Int)/\A2=(↑g_1.1:Int)/\g_1.1<g_1.2/\g_1.2<=l.n/\(∀(j:Nat),j<g_1.1->∀(k:Nat),j<k->k<l.n->Ct l j k=true)/\∀(k:Nat),g_1.1<k->k<g_1.2->Ct l g_1.1 k=true)/\∀(g_1:Nat×Nat),let A4:=(↑g_1.2:Int);let A14:=(l.g (T A4));let A10:=(A4+A5);let A8:=(l.g (T (M A10 A3)));let A1:=(bif bif bif decide (A4=A2+A5)then true else bif decide (A2=A7)then decide (A4=A3-A5)else false then !decide (CY A12 A13 A14 A8=A5)else false then true else bif !bif decide (A4=A2+A5)then true else bif decide (A2=A7)then decide (A4=A3-A5)else false then !decide (CY A12 A13 A14 A8=A7)else false);(A2=(↑g_1.1:Int)/\A2=(↑g_1.1:Int)/\g_1.1<g_1.2/\g_1.2<=l.n/\(∀(j:Nat),j<g_1.1->∀(k:Nat),j<k->k<l.n->Ct l j k=true)/\∀(k:Nat),g_1.1<k->k<g_1.2->Ct l g_1.1 k=true)->(decide (A4<A3)=true->(A7<=A2/\A2<A3)/\Ab .i64 A9/\(A7<=A2+A5/\A2+A5<A3)/\(A7<=A4/\A4<A3)/\Ab .i64 A10/\A3≠A7/\(A7<=M A10 A3/\M A10 A3<A3)/\(As A12/\As A13/\As A14/\As A8)/\Ab .i64 A9/\((!decide (A4=A2+A5)&&decide (A2=A7))=true->Ab .i64 (A3-A5))/\(A1=true->false=Ey l)/\(A1=false->Ab .i64 A10/\∃(g':Nat×Nat),A4+A5=(↑g'.2:Int)/\A2=A2/\A2=A2/\A3=A3/\A3=A3/\A6/\(A2=(↑g'.1:Int)/\A2=(↑g'.1:Int)/\g'.1<g'.2/\g'.2<=l.n/\(∀(j:Nat),j<g'.1->∀(k:Nat),j<k->k<l.n->Ct l j k=true)/\∀(k:Nat),g'.1<k->k<g'.2->Ct l g'.1 k=true)/\l.n-g'.2<l.n-g_1.2))/\(decide (A4<A3)=false->Ab .i64 A9/\∃(g':Nat),A2+A5=(↑g':Int)/\A3=A3/\A3=A3/\A6/\(g'<=l.n/\∀(j:Nat),j<g'->∀(k:Nat),j<k->k<l.n->Ct l j k=true)/\l.n-g'<l.n-g))/\(decide (A2<A3)=false->true=Ey l)) (by kernel_rfl) (by
 conv=>zeta
 obtain⟨hn,hb⟩:=hp;have fin0:∀{i k:Nat},i<k->k<l.n->Ct l i k=false->false=Ey l:=fun {i k} hik hk h=>by
  unfold Ey;rw[G6 (i:=i) (by omega) (G6 (i:=k) hk (by simp[hik,h]))]
 refine⟨⟨(0:Nat),rfl,rH _,fun j hj=>absurd hj (oE _)⟩,fun g hg=>⟨fun hlt=>?_,fun hge=>?_⟩⟩
 ·have hb1:(g:Int)<(l.n:Int):=by simpa using hlt
  refine⟨jK,⟨(g,g+1),by simp,rfl,rfl,by simp,by simp;omega,hg.2,fun k h1 h2=>by simp at h1 h2;omega⟩,?_⟩;rintro⟨i,k⟩ ⟨e1,e2,hik,hkn,h0,h1⟩;simp only at e1 e2 hik hkn h0 h1;obtain rfl:i=g:=by omega
  refine⟨fun hlt2=>?_,fun hge2=>?_⟩
  ·have hk:(k:Int)<(l.n:Int):=by simpa using hlt2
   have t3:=Ai5 (l.n:Int) (show 0<=(k:Int)+1 by omega);have t4:=Aiq ((k:Int)+1) (show 0<(l.n:Int)by omega);have c1:((i:Int)).toNat=i:=by omega
   have c2:((i:Int)+1).toNat=i+1:=by omega
   have c3:((k:Int)).toNat=k:=by omega
   have c4:(AhQ ((k:Int)+1) (l.n:Int)).toNat=BO l.n k:=rfl;have c5:BO l.n k<l.n:=Gm (by omega);dsimp only;rw[c1,c2,c3,c4];have key:(bif (bif (bif decide ((k:Int)=(i:Int)+1)then true else bif decide ((i:Int)=0)then decide ((k:Int)=(l.n:Int)-1)else false)then !decide (CY (l.g i) (l.g (i+1)) (l.g k) (l.g (BO l.n k))=1)else false)then true else bif !(bif decide ((k:Int)=(i:Int)+1)then true else bif decide ((i:Int)=0)then decide ((k:Int)=(l.n:Int)-1)else false)then !decide (CY (l.g i) (l.g (i+1)) (l.g k) (l.g (BO l.n k))=0)else false)= !Ct l i k:=by
    unfold Ct Mt K9;generalize (bif decide ((k:Int)=(i:Int)+1)then true else bif decide ((i:Int)=0)then decide ((k:Int)=(l.n:Int)-1)else false)=q;generalize decide (CY (l.g i) (l.g (i+1)) (l.g k) (l.g (BO l.n k))=1)=q1;generalize decide (CY (l.g i) (l.g (i+1)) (l.g k) (l.g (BO l.n k))=0)=q2;cases q<;>cases q1<;>cases q2<;>rfl
   rw[key];refine⟨by omega,jK,by omega,by omega,jK,by omega,⟨t3,t4⟩,⟨hb i (by omega),hb (i+1) (by omega),hb k (by omega),hb _ c5⟩,jK,fun _=>jK,fun h=>fin0 hik (by omega) (by simpa using h),fun h=>?_⟩;have hok:Ct l i k=true:=by simpa using h
   refine⟨jK,(i,k+1),by simp,rfl,rfl,rfl,rfl,rz,⟨rfl,rfl,by simp;omega,by simp;omega,h0,fun m hm1 hm2=>?_⟩,by simp;omega⟩;dsimp only at hm1 hm2 ⊢;rcases Ah6.1 hm2 with h'|rfl
   ·exact h1 m hm1 h'
   ·exact hok
  ·have hk:¬ (k:Int)<(l.n:Int):=by simpa using hge2
   refine⟨jK,i+1,by omega,rfl,rfl,rz,⟨by omega,fun j hj m hm1 hm2=>?_⟩,by omega⟩;rcases Ah6.1 hj with h'|rfl
   ·exact h0 j h' m hm1 hm2
   ·exact h1 m hm1 (by omega)
 ·have hb1:¬ (g:Int)<(l.n:Int):=by simpa using hge
  unfold Ey;rw[C8.2 (fun i hi=>C8.2 (fun k hk=>?_))]
  by_cases hik:i<k
  ·simp[hik,hg.2 i (by omega) k hik hk]
  ·simp[hik])
theorem wD:Az prog 79 VV:=AN func79 (c:=Ae f79) (by kernel_rfl) mixed (fun _ _ _ hs hp=>by
 unfold VU at hs;split at hs
 ·cases hs;exact⟨_,_,wC _ hp.2,(.p (.sl hp.1) .nil),⟨show Aa prog _ from(Aa.cons vZ wA Aa.nil),rfl,nz⟩⟩
 ·cases hs)
theorem wE:An prog 79:=fun _ _=>by kernel_rfl
end
section
set_option maxRecDepth 100000
set_option maxHeartbeats 4000000
set_option linter.unusedVariables false
attribute [local irreducible] vc
def EP (l:L.Sq L.Pt) (k:Nat):Bool:=!(bif decide (Ay (l.g (Ew l.n k)) (l.g k) (l.g (BO l.n k))=0)then true else bif decide (0<(k:Int))then decide (0<=BZ (l.g 0) (l.g k))else false)
def DI (l:L.Sq L.Pt):Bool:=Ch l.n (fun i=>B4 (l.g i))
def G8 (l:L.Sq L.Pt):Bool:=bif (bif !AI (l.n:Int) 3 24 then true else !DI l)then false else decide (0<BT l l.n)
def Am (l:L.Sq L.Pt):Bool:=G8 l&&(Ch l.n (EP l)&&Ey l)
def Cp (l:L.Sq L.Pt) (k:Nat):Int:=B0 (Ay (l.g (Ew l.n k)) (l.g k) (l.g (BO l.n k))) 0
theorem NR {n k:Nat} (h:0<n):Ew n k<n:=by
 have t3:=Ai5 (n:Int) (show 0<=(k:Int)+(n:Int)-1 by omega);have t4:=Aiq ((k:Int)+(n:Int)-1) (show 0<(n:Int)by omega);unfold Ew;omega
theorem HS {n a b:Int}:AI n a b=true↔a<=n/\n<=b:=by simp[AI]
theorem Q7 {l:L.Sq L.Pt} (h:AI (l.n:Int) 3 24=true) (h':DI l=true):3<=l.n/\l.n<=24/\EN l/\ID l:=by
 obtain⟨h1,h2⟩:=HS.1 h;have hb:∀i,i<l.n->As (l.g i):=fun i hi=>vB (C8.1 h' i hi);exact⟨by omega,by omega,⟨by omega,hb⟩,⟨by omega,hb⟩⟩
theorem wF (l:L.Sq L.Pt):(bif (bif !AI (l.n:Int) 3 24 then true else !(Ch l.n fun i=>B4 (l.g i)))then true else decide (BT l l.n<=0))= !G8 l:=by
 unfold G8 DI;have:decide (0<BT l l.n)= !decide (BT l l.n<=0):=by
  by_cases h:BT l l.n<=0<;>simp[h]<;>omega
 rw[this];generalize decide (BT l l.n<=0)=q;cases AI (l.n:Int) 3 24<;>cases(Ch l.n fun i=>B4 (l.g i))<;>cases q<;>rfl
theorem VW {l:L.Sq L.Pt} (h:G8 l=true):3<=l.n/\l.n<=24/\EN l/\ID l:=by
 unfold G8 at h;cases h1:AI (l.n:Int) 3 24 with
 |false=>simp[h1]at h
 |true=>cases h2:DI l with
   |false=>simp[h1,h2]at h
   |true=>exact Q7 h1 h2
theorem CZ {l:L.Sq L.Pt} (h:Am l=true):3<=l.n/\l.n<=24/\EN l/\ID l:=VW (Bool.and_eq_true_iff.1 h).1
theorem CC {b:Bool} (h:(!b)=true):b=false:=by cases b with|false=>rfl|true=>cases h
theorem B5 {b:Bool} (h:(!b)=false):b=true:=by cases b with|true=>rfl|false=>cases h
theorem VX {n:Nat} {f:Nat->Bool} (h:∀i,i<n->f i=false):BH n f=false:=by
 cases h':BH n f with
 |false=>rfl
 |true =>
   obtain⟨i,hi,h1⟩:=EO.1 h';rw[h i hi]at h1;cases h1
theorem wG {n:Nat} {f g:Nat->Bool} (h:∀i,i<n->f i=g i):BH n f=BH n g:=by
 rw[Bool.eq_iff_iff,EO,EO];exact⟨fun⟨i,hi,e⟩=>⟨i,hi,by rw[<- h i hi];exact e⟩,fun⟨i,hi,e⟩=>⟨i,hi,by rw[h i hi];exact e⟩⟩
def VY (l:L.Sq L.Pt):Prop:=l.n<=1000000
def VZ (l:L.Sq L.Pt):SV:=.bool (Am l)
def Wa:List EV->Option (Prop×SV)
 |[.p (.sl 2 l_n l_g)]=>some ((∀i,i<l_n->l_g i = [.int .i64 (Ad (l_g i)).x,.int .i64 (Ad (l_g i)).y])/\VY ⟨l_n,fun i=>Ad (l_g i)⟩,VZ ⟨l_n,fun i=>Ad (l_g i)⟩)
 |_=>none
abbrev J3:SE.Spec:=(AM Wa)
def wH:Aj:={ cC with specs:=AE [(73,NK),(74,Q1),(75,Qv),(76,Mp),(77,J1),(78,Q3),(79,VV)],iters:=BG [(122,Mo)] }
theorem wI (l:L.Sq L.Pt) (hp:VY l):vc prog ({ wH with loops:=AT [],rfs:=AQ [(4,{ T:=Nat,keep:=[1,2],keepO:=[2],own:=fun k _=>[],inv:=fun k _=>∀j,j<k->EP l j=true })] }) (Ae f37) (Ao f37 [.p (.sl 2 l.n (fun i=>[.int .i64 (l.g i).x,.int .i64 (l.g i).y]))]) (AL prog f37 (VZ l)):=
  @Eq.mpr _ (let I:=SV.int .i64;let T:=AhD;let M:=AhQ;let A17:=nat_lit 1;let A16:=nat_lit 0;let A14:=(1:Int);let A13:=nat_lit 2;let A12:=(↑(3:Nat):Int);let A10:=(↑l.n:Int);let A9:=(0:Int);let A7:=(L.Sq.mk l.n fun(i:Nat)=>l.g i);let A5:=[SV.sl A13 l.n fun(i:Nat)=>[I (l.g i).x,I (l.g i).y]];let A4:=(bif bif !AI
 A10 (3:Int) (24:Int)then true else !Ch l.n fun(i:Nat)=>B4 (l.g i)then true else decide (BT A7 l.n<=A9));let A3:=(∀(i:Nat),let A18:=[I (l.g i).x,I (l.g i).y];i<l.n->A18=A18);let A19:=(A3/\l.n<=1000);True/\((!!AI A10 (3:Int) (24:Int))=true->A3/\l.n<=1000000)/\((!bif !AI A10 (3:Int) (24
:Int)then true else !Ch l.n fun(i:Nat)=>B4 (l.g i))=true->A3/\EN A7)/\(A4=true->false=Am l)/\(A4=false->A19/\(A19/\∃(t:Nat),false=false/\∀(j:Nat),j<0->EP l j=true)/\(∀(k t:Nat) (vk:Nat->Go.Value),let A15:=(↑k:Int);let A11:=(l.g (T A15));let A8:=(l.g (T (M (A15 +
 A14) A10)));let A6:=(l.g (T (M (A15+A10-A14) A10)));let A2:=(bif decide (Ay A6 A11 A8=A9)then true else bif decide (A9<A15)then decide (A9<=BZ (l.g (T A9)) A11)else false);let A1:=(!decide (Ay A6 A11 A8=A9)&&decide (A9<A15));k<l.n->(∀(j:Nat),j<k->EP l j=true)->(A9<=A9 /\
 A9<A12)/\(A9<=A14/\A14<A12)/\(A9<=2/\2<A12)/\(As A6/\As A11/\As A8)/\(A1=true->A9<=A9/\A9<A10)/\(A1=true->A9<=A14/\A14<A12)/\(A1=true->True)/\(A2=true->0=0/\SV.ref A5 A16=SV.ref A5 A16/\vk A13=vk A13/\vk A17=vk A17/\false=Am l)/\(A2=false->∃(t' :
 Nat),0=0/\SV.ref A5 A16=SV.ref A5 A16/\vk A13=vk A13/\vk A17=vk A17/\false=false/\∀(j:Nat),j<k+1->EP l j=true))/\∀(t:Nat),(∀(j:Nat),j<l.n->EP l j=true)->(A3/\ID A7)/\Ey A7=Am l)) (by kernel_rfl) (by
  conv=>zeta
  have hn:l.n<=1000000:=hp;have e3:=wF l;refine⟨trivial,fun _=>⟨zr,hn⟩,fun h=>⟨zr,?_⟩,fun h=>?_,fun h=>?_⟩
  ·cases h1:AI (l.n:Int) 3 24 with
   |false=>simp[h1]at h
   |true=>cases h2:DI l with
     |false=>rw[h1]at h;rw[show(Ch l.n fun i=>B4 (l.g i))=false from h2]at h;simp at h
     |true=>exact(Q7 h1 h2).2.2.1
  ·have h:=e3.symm.trans h;have:G8 l=false:=by simpa using h
   unfold Am;rw[this];rfl
  ·have h:=e3.symm.trans h;have hv:G8 l=true:=by simpa using h
   obtain⟨n3,n24,hsm,hbd⟩:=VW hv;refine⟨⟨zr,by omega⟩,⟨⟨zr,by omega⟩,(0:Nat),rfl,fun j hj=>absurd hj (oE _)⟩,fun k t vk hk hi=>?_,fun t hi=>?_⟩
   ·have c1:(AhQ ((k:Int)+(l.n:Int)-1) (l.n:Int)).toNat=Ew l.n k:=rfl;have c2:((k:Int)).toNat=k:=by omega
    have c3:(AhQ ((k:Int)+1) (l.n:Int)).toNat=BO l.n k:=rfl;rw[c1,c2,c3];have key:(bif decide (Ay (l.g (Ew l.n k)) (l.g k) (l.g (BO l.n k))=0)then true else bif decide (0<(k:Int))then decide (0<=BZ (l.g (AhD 0)) (l.g k))else false)= !EP l k:=by
     unfold EP;rw[Bool.not_not];rfl
    rw[key];refine⟨by omega,by omega,by omega,⟨hbd.2 _ (NR (by omega)),hbd.2 _ hk,hbd.2 _ (Gm (by omega))⟩,fun _=>by omega,fun _=>by omega,fun _=>trivial,fun h=>⟨rfl,rfl,rfl,rfl,?_⟩,fun h=>⟨t,rfl,rfl,rfl,rfl,rfl,fun j hj=>?_⟩⟩
    ·have:EP l k=false:=by simpa using h
     unfold Am;rw[G6 hk this];simp
    ·rcases Ah6.1 hj with h'|rfl
     ·exact hi j h'
     ·simpa using h
   ·refine⟨⟨zr,hbd⟩,?_⟩;unfold Am;rw[hv,C8.2 hi];rfl)
theorem KA:Az prog 37 J3:=AN func37 (c:=Ae f37) (by kernel_rfl) mixed (fun _ _ _ hs hp=>by
 unfold Wa at hs;split at hs
 ·cases hs;exact⟨_,_,wI _ hp.2,(.p (.sl hp.1) .nil),⟨show Aa prog _ from(Aa.cons Qr Qs (Aa.cons VB VC (Aa.cons UP UQ (Aa.cons NO NP (Aa.cons K5 K6 (Aa.cons Q4 Q5 (Aa.cons wD wE Aa.nil))))))),rfl,⟨show Ac prog _ from(Ac.cons NM NN Ac.nil),(AB.none (fun _=>rfl))⟩⟩⟩
 ·cases hs)
theorem KB:An prog 37:=fun _ _=>by kernel_rfl
def Wb (l:L.Sq L.Pt):Prop:=l.n<=1000000
def Wc (l:L.Sq L.Pt):SV:=.tup [.sl 1 (bif Am l then l.n else 0) (fun k=>[.int .i64 (Cp l k)]),.int .i64 (bif Am l then 0 else 1)]
def Wd:List EV->Option (Prop×SV)
 |[.p (.sl 2 l_n l_g)]=>some ((∀i,i<l_n->l_g i = [.int .i64 (Ad (l_g i)).x,.int .i64 (Ad (l_g i)).y])/\Wb ⟨l_n,fun i=>Ad (l_g i)⟩,Wc ⟨l_n,fun i=>Ad (l_g i)⟩)
 |_=>none
abbrev We:SE.Spec:=(AM Wd)
def wJ:Aj:={ cC with specs:=AE [(37,J3),(76,Mp),(77,J1),(85,K3)],iters:=BG [(122,Mo)] }
theorem wK (l:L.Sq L.Pt) (hp:Wb l):vc prog ({ wJ with loops:=AT [],rfs:=AQ [(5,{ T:=Nat,keep:=[0,2,3,4],keepO:=[],own:=fun k _=>[(4,.blk 69 [.row 12]),(12,.row 3 1 l.n (fun i=>[.int .i64 (bif decide (i<k)then Cp l i else 0)]))],inv:=fun k _=>True })] }) (Ae f134) (Ao f134 [.p (.sl 2 l.n (fun i=>[.int .i64 (l.g i).x,.int .i64 (l.g i).y]))]) (AL prog f134 (Wc l)):=
 @Eq.mpr _ (let I:=SV.int .i64;let T:=AhD;let A9:=(↑(3:Nat):Int);let A7:=(0:Nat);let A6:=(1:Int);let A5:=(!Am (L.Sq.mk l.n fun(i:Nat)=>l.g i));let A3:=(0:Int);let A2:=(↑l.n:Int);let A1:=(∀(i:Nat),let A11:=[I (l.g i).x,I (l.g i).y];i<l.n->A11=A11);let A13:=(A1/\l.n<=1000);(A1/\l.n<=1000000)/\(A5=true->(bif Am l then l.n else A7)=A7/\A6=bif Am l then A3 else A6)/\(A5=false->(A3<=A2/\A2<=A2/\A2*(↑(nat_lit 8):Int)<=140737488355328)/\A13/\(A13/\∃(t:Nat),(T A2=l.n/\∀(i:Nat),i<T A2 -> [I A3]= [I (bif decide (i<A7)then Cp l i else A3)])/\True)/\(∀(k t:Nat) (vk:Nat->Go.Value),let A4:=(↑k:Int);let A10:=(l.g (T (AhQ (A4+A6) A2)));let A8:=(l.g (T (AhQ (A4+A2-A6) A2)));k<l.n->True->(A3<=A3/\A3<A9)/\(A3<=A6/\A6<A9)/\(A3<=2/\2<A9)/\(As A8/\As (l.g (T A4))/\As A10)/\True/\(A3<=A4/\A4<A2)/\T A4<l.n/\∃(t':Nat),0=0/\A3=A3/\Value.slice Option.none A7 A7=Value.slice Option.none A7 A7/\(l.n=l.n/\∀(i:Nat),let A12:=[I (l.g i).x,I (l.g i).y];i<l.n->A12=A12)/\vk 4=vk 4/\vk 3=vk 3/\vk 2=vk 2/\vk 0=vk 0/\(l.n=l.n/\∀(i:Nat),i<l.n->setRow (fun(i:Nat)=>[I (bif decide (i<k)then Cp l i else A3)]) (T A4) 0 [I (B0 (Ay A8 (l.g (T A4)) A10) A3)] i = [I (bif decide (i<k+1)then Cp l i else A3)])/\True)/\∀(t:Nat),True->((l.n=bif Am l then l.n else A7)/\∀(i:Nat),i<l.n -> [I (bif decide (i<l.n)then Cp l i else A3)]= [I (Cp l i)])/\A3=bif Am l then A3 else A6)) (by kernel_rfl) (by
 conv=>zeta
 have hn:l.n<=1000000:=hp;refine⟨⟨zr,hn⟩,fun h=>?_,fun h=>?_⟩
 ·have hv:Am l=false:=by simpa using (show(!Am l)=true from h)
  rw[hv];exact⟨rfl,rfl⟩
 ·have hv:Am l=true:=by simpa using (show(!Am l)=false from h)
  obtain⟨n3,n24,hsm,hbd⟩:=CZ hv;refine⟨⟨by omega,by omega,show(l.n:Int)*8<=140737488355328 by omega⟩,⟨zr,by omega⟩,⟨⟨zr,by omega⟩,(0:Nat),⟨by omega,fun i hi=>rfl⟩,trivial⟩,fun k t vk hk _=>?_,fun t _=>?_⟩
  ·have c1:(AhQ ((k:Int)+(l.n:Int)-1) (l.n:Int)).toNat=Ew l.n k:=rfl;have c2:((k:Int)).toNat=k:=by omega
   have c3:(AhQ ((k:Int)+1) (l.n:Int)).toNat=BO l.n k:=rfl;rw[c1,c2,c3];refine⟨by omega,by omega,by omega,⟨hbd.2 _ (NR (by omega)),hbd.2 _ hk,hbd.2 _ (Gm (by omega))⟩,trivial,by omega,hk,t,rfl,rfl,rfl,rz,rfl,rfl,rfl,rfl,⟨rfl,fun i hi=>?_⟩,trivial⟩;unfold setRow
   by_cases hik:i=k
   ·subst hik;simp[Cp,GH]
   ·have e : decide (i<k+1)= decide (i<k):=by
     by_cases h':i<k<;>simp[h']<;>omega
    simp[hik,e]
  ·rw[hv];refine⟨⟨rfl,fun i hi=>?_⟩,rfl⟩;simp[hi])
theorem wL:Az prog 134 We:=AN func134 (c:=Ae f134) (by kernel_rfl) mixed (fun _ _ _ hs hp=>by
 unfold Wd at hs;split at hs
 ·cases hs;exact⟨_,_,wK _ hp.2,(.p (.sl hp.1) .nil),⟨show Aa prog _ from(Aa.cons KA KB (Aa.cons NO NP (Aa.cons K5 K6 (Aa.cons Mr Ms Aa.nil)))),rfl,⟨show Ac prog _ from(Ac.cons NM NN Ac.nil),(AB.none (fun _=>rfl))⟩⟩⟩
 ·cases hs)
theorem wM:An prog 134:=fun _ _=>by kernel_rfl
end
section
set_option maxRecDepth 100000
set_option maxHeartbeats 4000000
set_option linter.unusedVariables false
attribute [local irreducible] vc
def Ez:List SV->L.Sq L.Pt
 |[.sl _ n g]=>⟨n,fun i=>Ad (g i)⟩
 |_=>⟨0,fun _=>⟨0,0⟩⟩
def J4:List SV->Prop
 |[.sl 2 n g]=>∀i,i<n->g i = [.int .i64 (Ad (g i)).x,.int .i64 (Ad (g i)).y]
 |_=>False
theorem Q8 {l:List SV} (h:J4 l):l.length=1/\Ba (SV.at l 0) (.sl 2 (Ez l).n (fun k=>[.int .i64 ((Ez l).g k).x,.int .i64 ((Ez l).g k).y])):=by
 unfold J4 at h;split at h
 ·rename_i n g;exact⟨rfl,.sl h⟩
 ·exact h.elim
def FQ (a b:L.Sq L.Pt) (i:Nat):L.Sq L.Pt:=bif decide (i=0)then a else b
theorem wN {g:Nat->List SV} (h:J4 (g 0)/\J4 (g 1)):Ba (.sl 1 2 g) (.sl 1 2 (fun i=>[.sl 2 (FQ (Ez (g 0)) (Ez (g 1)) i).n (fun k=>[.int .i64 ((FQ (Ez (g 0)) (Ez (g 1)) i).g k).x,.int .i64 ((FQ (Ez (g 0)) (Ez (g 1)) i).g k).y])])):=by
 have key:∀i,i<2->J4 (g i)/\FQ (Ez (g 0)) (Ez (g 1)) i=Ez (g i):=fun i hi=>by
  match i,hi with
  |0,_=>exact⟨h.1,rfl⟩
  |1,_=>exact⟨h.2,rfl⟩
 refine .sl2 (fun i hi=>(Q8 (key i hi).1).1.symm) (fun i hi j hj=>?_);rw[(Q8 (key i hi).1).1]at hj;obtain rfl:j=0:=by omega
 rw[(key i hi).2];exact(Q8 (key i hi).1).2
def C9 (c:Nat->L.Sq L.Pt):Nat->L.Sq L.Pt
 |0=>⟨0,fun _=>⟨0,0⟩⟩
 |i+1=>⟨(C9 c i).n+(c i).n,fun k=>bif decide (k<(C9 c i).n)then(C9 c i).g k else(c i).g (k-(C9 c i).n)⟩
def DJ (l:L.Sq L.Pt) (i k:Nat):L.Pt:=bif decide (k<i)||decide (l.n<=k+i)then l.g (l.n-1-k)else l.g k
def Gn (l:L.Sq L.Pt):Nat->L.Pt
 |0=>l.g 0
 |i+1=>bif decide (BZ (l.g (i+1)) (Gn l i)<0)then l.g (i+1)else Gn l i
def AW (l:L.Sq L.Pt) (v:L.Pt):Int:=BQ l.n (fun i=>Bh v (l.g i))
def Q9 (l:L.Sq L.Pt) (d:Nat):L.Sq L.Pt:=⟨l.n,fun k=>bif decide (k<l.n-d)then l.g (d+k)else l.g (k-(l.n-d))⟩
theorem IE {a b:L.Pt} (h:Bh a b=true):a=b:=by
 unfold Bh at h;rw[pR,decide_eq_true_eq,decide_eq_true_eq]at h;cases a;cases b;simp only at h;rw[h.1,h.2]
theorem GZ (a:L.Pt):Bh a a=true:=by simp[Bh]
theorem Wf {l:L.Sq L.Pt} {j:Nat} (hj:j<l.n):∃i,i<=j/\AW l (l.g j)=(i:Int)/\l.g i=l.g j/\∀k,k<i->l.g k≠l.g j:=by
 unfold AW;rcases NQ (f:=fun i=>Bh (l.g j) (l.g i)) (n:=l.n)with ⟨_,h2⟩|⟨i,h1,h2,h3,h4⟩
 ·have:=h2 j hj;rw[GZ]at this;cases this
 ·refine⟨i,?_,h2,(IE h3).symm,fun k hk e=>?_⟩
  ·rcases Nat.lt_or_ge j i with h|h
   ·have:=h4 j h;rw[GZ]at this;cases this
   ·exact h
  ·have:=h4 k hk;rw[e,GZ]at this;cases this
theorem KC {a b:L.Pt}:BZ a b<0↔a.x<b.x\/(a.x=b.x/\a.y<b.y):=by
 unfold BZ HQ B0
 by_cases h1:a.x<b.x
 ·simp[h1]
 ·by_cases h2:b.x<a.x
  ·simp[h1,h2];omega
  ·by_cases h3:a.y<b.y
   ·simp[h1,h2,h3];try omega
   ·by_cases h4:b.y<a.y
    ·simp[h1,h2,h3,h4]
    ·simp[h1,h2,h3,h4]
def Wg (s:Nat) (n:Int):Prop:=1<=n/\n<=2000000
def Wh (s:Nat) (n:Int):Nat->Prop:=fun _=>True
def Wi (s:Nat) (n:Int):Nat->Nat:=fun _=>0
def Wj (s:Nat) (n:Int):Nat->Nat->List SV:=fun _ _=>[]
def Wk:List EV->Option (Prop×(Nat->Prop)×(Nat->Nat)×(Nat->Nat->List SV))
 |[.p (.raw (.slice none 0 0)),.p (.int .i64 n)]=>some (Wg 0 n,Wh 0 n,Wi 0 n,Wj 0 n)
 |_=>none
abbrev Wl:SE.Spec:=(Gl Nat 0 39 2 Wk)
def wO:Aj:={ cC with muts:=[22],cuts:=[25] }
theorem wP (s:Nat) (n:Int) (hp:Wg s n):vc prog (wO) (Ae f167) (Ao f167 [.p (.raw (.slice none 0 0)),.p (.int .i64 n)]) (Fp prog f167 (Nat) (Wh s n) 39 2 (Wi s n) (Wj s n)):=
 @Eq.mpr _ (let A4:=(0:Nat);let A2:=(0:Int);let A1:=(↑A4:Int);let A3:=(A1-A1);(decide (n<A2)=true->False)/\(decide (n<A2)=false->Ab .i64 A3/\Ab .i64 (n-A3)/\(decide (A2<n-A3)=true->(A2<=A2/\A2<=A1/\A1<=A2)/\(A2<n-A3/\(n-A3)*(↑(nat_lit 16):Int)<=140737488355328)/\(A2<=A1/\A1<=(↑(AhD (n-A3)):Int))/\∃(t:Nat),(0=A4/\∀(i:Nat),i<0 -> [SV.int .i64 A2,SV.int .i64 A2]= [])/\True)/\(decide (A2<n-A3)=false->∃(t:Nat),A4=A4/\True))) (by kernel_rfl) (by
 conv=>zeta
 obtain⟨h1,h2⟩:=hp;refine⟨fun h=>?_,fun _=>⟨jK,jK,fun h=>⟨⟨by omega,by omega,by omega⟩,⟨by omega,show(n-(((0:Nat):Int)-((0:Nat):Int)))*16<=140737488355328 by omega⟩,⟨by omega,by omega⟩,(0:Nat),⟨rfl,fun i hi=>absurd hi (oE _)⟩,trivial⟩,fun h=>⟨(0:Nat),rfl,trivial⟩⟩⟩;have:=of_decide_eq_true h;omega)
theorem wQ:Az prog 167 Wl:=G5 func167 (c:=Ae f167) (by kernel_rfl) mixed (fun args p q n g hs hp=>by
 unfold Wk at hs;split at hs
 ·cases hs;exact⟨_,_,wP _ _ hp,(.same _ (.same _ .nil)),⟨show Aa prog _ from Aa.nil,rfl,nz⟩⟩
 ·cases hs)
theorem wR:An prog 167:=fun _ _=>by kernel_rfl
def Wm (c:(Nat->L.Sq L.Pt)):Prop:=1<=(c 0).n+(c 1).n/\(c 0).n<=1000000/\(c 1).n<=1000000
def Wn (c:(Nat->L.Sq L.Pt)):Nat->Prop:=fun _=>True
def Wo (c:(Nat->L.Sq L.Pt)):Nat->Nat:=fun _=>(C9 c 2).n
def Wp (c:(Nat->L.Sq L.Pt)):Nat->Nat->List SV:=fun _ k=>[.int .i64 ((C9 c 2).g k).x,.int .i64 ((C9 c 2).g k).y]
def Wq:List EV->Option (Prop×(Nat->Prop)×(Nat->Nat)×(Nat->Nat->List SV))
 |[.p (.sl 1 2 c_g)]=>some ((J4 (c_g 0)/\J4 (c_g 1))/\Wm (FQ (Ez (c_g 0)) (Ez (c_g 1))),Wn (FQ (Ez (c_g 0)) (Ez (c_g 1))),Wo (FQ (Ez (c_g 0)) (Ez (c_g 1))),Wp (FQ (Ez (c_g 0)) (Ez (c_g 1))))
 |_=>none
abbrev Wr:SE.Spec:=(Gl Nat 0 39 2 Wq)
def wT:Aj:={ cC with muts:=[24],specs:=AE [(167,Wl)],raws:=[167] }
theorem wU (c:(Nat->L.Sq L.Pt)) (hp:Wm c):vc prog ({ wT with loops:=AT [(3,{ T:=Nat,keep:=[0,9,10],keepO:=[],chg:=fun i=>[(3,.p (.int .i64 ((C9 c i).n:Int))),(11,.p (.int .i64 (i:Int)))],own:=fun _=>[],inv:=fun i=>i<=2,mu:=fun i=>2-i }),(11,{ T:=Nat,keep:=[0,6,25,26],keepO:=[],chg:=fun i=>[(27,.p (.int .i64 (i:Int)))],own:=fun i=>[(24,.row 39 2 (C9 c i).n (fun k=>[.int .i64 ((C9 c i).g k).x,.int .i64 ((C9 c i).g k).y]))],inv:=fun i=>i<=2,mu:=fun i=>2-i })]}) (Ae f130) (Ao f130 [.p (.sl 1 2 (fun i=>[.sl 2 (c i).n (fun k=>[.int .i64 ((c i).g k).x,.int .i64 ((c i).g k).y])]))]) (Fp prog f130 (Nat) (Wn c) 39 2 (Wo c) (Wp c)):=
 @Eq.mpr _ (let I:=SV.int .i64;let T:=AhD;let A11:=(1:Int);let A10:=(0:Int);let A5:=(2:Nat);let A13:=(C9 c A5);let A2:=(↑(nat_lit 2):Int);(∃(g:Nat),A10=(↑(C9 c g).n:Int)/\A10=(↑g:Int)/\g<=A5)/\∀(g:Nat),let A8:=(↑g:Int);let A15:=(↑(c (T A8)).n:Int);let A7:=(↑(C9 c g).n:Int);let A1:=(2=2/\∀(i:Nat),let A6:=[SV.sl A5 (c i).n fun(k:Nat)=>[I ((c i).g k).x,I ((c i).g k).y]];i<2->A6=A6);g<=A5->(decide (A8<A2)=true->(A10<=A8/\A8<A2)/\Ab .i64 (A7+A15)/\(false=true->False)/\(false=false->Ab .i64 (A8+A11)/\∃(g':Nat),A7+A15=(↑(C9 c g').n:Int)/\A8+A11=(↑g':Int)/\A2=A2/\A1/\A1/\g'<=A5/\A5-g'<A5-g))/\(decide (A8<A2)=false->(A11<=A7/\A7<=2000000)/\∀(t:Nat),True->(∃(g:Nat),let A14:=(C9 c g);A10=(↑g:Int)/\((0:Nat)=A14.n/\∀(i:Nat),i<0 -> []= [I (A14.g i).x,I (A14.g i).y])/\g<=A5)/\∀(g_1:Nat),let A4:=(↑g_1:Int);let A9:=(c (T A4));let A3:=(C9 c g_1);g_1<=A5->(decide (A4<A2)=true->(A10<=A4/\A4<A2)/\(A3.n+A9.n)*16<=140737488355328/\Ab .i64 (A4+A11)/\∃(g':Nat),let A12:=(C9 c g');A4+A11=(↑g':Int)/\A2=A2/\A1/\A1/\(A3.n+A9.n=A12.n/\∀(i:Nat),i<A3.n+A9.n->AH A3.n (fun(k:Nat)=>[I (A3.g k).x,I (A3.g k).y]) (fun(k:Nat)=>[I (A9.g k).x,I (A9.g k).y]) i = [I (A12.g i).x,I (A12.g i).y])/\g'<=A5/\A5-g'<A5-g_1)/\(decide (A4<A2)=false->∃(t:Nat),(A3.n=A13.n/\∀(i:Nat),i<A3.n -> [I (A3.g i).x,I (A3.g i).y]= [I (A13.g i).x,I (A13.g i).y])/\True))) (by kernel_rfl) (by
 conv=>zeta
 obtain⟨h1,h2,h3⟩:=hp;have hc:∀i,i<2->(c i).n<=1000000:=fun i hi=>by
  match i,hi with
  |0,_=>exact h2
  |1,_=>exact h3
 have e1:(C9 c 1).n=0+(c 0).n:=rfl;have e2:(C9 c 2).n=0+(c 0).n+(c 1).n:=rfl;have ht:∀i,i<=2->(C9 c i).n<=2000000:=fun i hi=>by
  match i,hi with
  |0,_=>exact rH _
  |1,_=>omega
  |2,_=>omega
 refine⟨⟨(0:Nat),rfl,rfl,rH _⟩,fun g hg=>⟨fun hlt=>?_,fun hge=>?_⟩⟩
 ·have hb:(g:Int)<2:=of_decide_eq_true hlt;have e0:((g:Int)).toNat=g:=by omega
  have hcg:=hc g (by omega);have htg:=ht g hg;rw[e0];exact⟨⟨by omega,hb⟩,jK,fun h=>Bool.false_ne_true h,fun _=>⟨jK,g+1,by show((C9 c g).n:Int)+((c g).n:Int)=(((C9 c g).n+(c g).n:Nat):Int);omega,by omega,rfl,rz,rz,by omega,by omega⟩⟩
 ·have hb:¬ (g:Int)<2:=of_decide_eq_false hge;obtain rfl:g=2:=by omega
  refine⟨⟨by omega,by omega⟩,fun _ _=>⟨⟨(0:Nat),rfl,⟨rfl,fun i hi=>absurd hi (oE _)⟩,rH _⟩,fun k hk=>⟨fun hlt=>?_,fun hge=>?_⟩⟩⟩
  ·have hb:(k:Int)<2:=of_decide_eq_true hlt;have e0:((k:Int)).toNat=k:=by omega
   have hck:=hc k (by omega);have htk:=ht k hk;rw[e0];refine⟨⟨by omega,hb⟩,show((C9 c k).n+(c k).n)*16<=140737488355328 by omega,jK,k+1,by omega,rfl,rz,rz,⟨rfl,fun i hi=>?_⟩,by omega,by omega⟩;unfold AH
   by_cases h:i<(C9 c k).n
   ·have w : (C9 c (k+1)).g i = (C9 c k).g i :=by
     show(bif decide (i<(C9 c k).n)then _ else _)=_;rw[decide_eq_true h];rfl
    rw[if_pos h,w]
   ·have w : (C9 c (k+1)).g i = (c k).g (i-(C9 c k).n):=by
     show(bif decide (i<(C9 c k).n)then _ else _)=_;rw[decide_eq_false h];rfl
    rw[if_neg h,w]
  ·have hb:¬ (k:Int)<2:=of_decide_eq_false hge;obtain rfl:k=2:=by omega
   exact⟨(0:Nat),rz,trivial⟩)
theorem wV:Az prog 130 Wr:=G5 func130 (c:=Ae f130) (by kernel_rfl) mixed (fun args p q n g hs hp=>by
 unfold Wq at hs;split at hs
 ·cases hs;exact⟨_,_,wU _ hp.2,(.p (wN hp.1) .nil),⟨show Aa prog _ from(Aa.cons wQ wR Aa.nil),rfl,nz⟩⟩
 ·cases hs)
theorem wW:An prog 130:=fun _ _=>by kernel_rfl
abbrev KD:Tr:={ T:=(L.Sq L.Pt),U:=Nat,args:=fun t=>(fun l=>[.row 1005]) t,own:=fun t=>(fun l=>[(1005,.row 39 2 l.n (fun k=>[.int .i64 (l.g k).x,.int .i64 (l.g k).y]))]) t,pre:=fun t=>(fun l=>l.n<=1000000) t,post:=fun t u=>(fun l=>fun u=>True) t u,own':=fun t u=>(fun l=>fun u=>[(1005,.row 39 2 l.n (fun k=>[.int .i64 (l.g (l.n-1-k)).x,.int .i64 (l.g (l.n-1-k)).y]))]) t u,res:=fun t u=>(fun l=>fun u=>.p (.tup [])) t u }
theorem wX (l:L.Sq L.Pt) (hp:KD.pre l):vc prog ({ muts:=[],frz:=B9 [],specs:=AE [],loops:=AT [(1,{ T:=Nat,keep:=[0],keepO:=[],chg:=fun i=>[(2,.p (.int .i64 (i:Int))),(3,.p (.int .i64 ((l.n:Int)-1-(i:Int))))],own:=fun i=>[(1005,.row 39 2 l.n (fun k=>[.int .i64 (DJ l i k).x,.int .i64 (DJ l i k).y]))],inv:=fun i=>2*i<=l.n,mu:=fun i=>l.n-i })],iters:=BG [],rfs:=AQ [],nils:=B3 [] }) (Ae f129) (DH f129 (KD.args l) (KD.own l)) (NG prog f129 KD l):=
 @Eq.mpr _ (let I:=SV.int .i64;let T:=AhD;let A3:=(1:Int);let A1:=(↑l.n:Int);Ab .i64 (A1-A3)/\(∃(g:Nat),0=(↑g:Int)/\A1-A3=A1-A3-(↑g:Int)/\(l.n=l.n/\∀(i:Nat),i<l.n -> [I (l.g i).x,I (l.g i).y]= [I (DJ l g i).x,I (DJ l g i).y])/\(2:Nat)*g<=l.n)/\∀(g:Nat),let A2:=(↑g:Int);let A7:=(0<=A2/\A2<A1);let A5:=(0<=A1-A3-A2/\A1-A3-A2<A1);let A4:=(A1-A3-A2);(2:Nat)*g<=l.n->(decide (A2<A1-A3-A2)=true->A5/\T A4<l.n/\A7/\T A2<l.n/\A7/\T A2<l.n/\A5/\T A4<l.n/\Ab .i64 (A2+A3)/\Ab .i64 (A1-A3-A2-A3)/\∃(g':Nat),A2+A3=(↑g':Int)/\A1-A3-A2-A3=A1-A3-(↑g':Int)/\(l.n=l.n/\∀(i:Nat),i<l.n->setRow (setRow (fun(k:Nat)=>[I (DJ l g k).x,I (DJ l g k).y]) (T A2) 0 [I (DJ l g (T A4)).x,I (DJ l g (T A4)).y]) (T A4) 0 [I (DJ l g (T A2)).x,I (DJ l g (T A2)).y] i = [I (DJ l g' i).x,I (DJ l g' i).y])/\(2:Nat)*g'<=l.n/\l.n-g'<l.n-g)/\(decide (A2<A1-A3-A2)=false->∃(u:Nat),(l.n=l.n/\∀(i:Nat),let A6:=(l.g (l.n-(1:Nat)-i));i<l.n -> [I (DJ l g i).x,I (DJ l g i).y]= [I A6.x,I A6.y])/\True)) (by kernel_rfl) (by
 conv=>zeta
 have hn:l.n<=1000000:=hp;refine⟨jK,⟨(0:Nat),rfl,by omega,⟨rfl,fun i hi=>?_⟩,rH _⟩,fun g hg=>⟨fun hlt=>?_,fun hge=>?_⟩⟩
 ·have hi:i<l.n:=hi;have w:DJ l 0 i=l.g i:=by unfold DJ;rw[decide_eq_false (oE _),decide_eq_false (by omega)];rfl
  rw[w]
 ·have hb:(g:Int)<(l.n:Int)-1-(g:Int):=of_decide_eq_true hlt;have e0:((g:Int)).toNat=g:=by omega
  have e1:((l.n:Int)-1-(g:Int)).toNat=l.n-1-g:=by omega
  rw[e0,e1];refine⟨⟨by omega,by omega⟩,by omega,⟨by omega,by omega⟩,by omega,⟨by omega,by omega⟩,by omega,⟨by omega,by omega⟩,by omega,jK,jK,g+1,by omega,by omega,⟨rfl,fun i hi=>?_⟩,by omega,by omega⟩;have hi:i<l.n:=hi;have r0:∀k,¬ k<g->¬ l.n<=k+g->DJ l g k=l.g k:=fun k h1 h2=>by
   unfold DJ;rw[decide_eq_false h1,decide_eq_false h2];rfl
  have r1:∀j k,k<j\/l.n<=k+j->DJ l j k=l.g (l.n-1-k):=fun j k h=>by
   unfold DJ;rcases h with h|h
   ·rw[decide_eq_true h];rfl
   ·rw[decide_eq_true h,Bool.or_true];rfl
  unfold setRow
  by_cases c1:i=l.n-1-g
  ·subst c1;rw[if_pos rfl,r0 g (by omega) (by omega),r1 (g+1) _ (.inr (by omega)),show l.n-1-(l.n-1-g)=g by omega];rw[if_neg (show ¬ (l.n-1-g=g)by omega)];rfl
  ·rw[if_neg c1]
   by_cases c2:i=g
   ·subst c2;rw[if_pos rfl,r0 (l.n-1-i) (by omega) (by omega),r1 (i+1) i (.inl (by omega))];rfl
   ·rw[if_neg c2];dsimp only
    by_cases c3:i<g\/l.n<=i+g
    ·rw[r1 g i c3,r1 (g+1) i (by omega)]
    ·rw[r0 i (by omega) (by omega)];have:DJ l (g+1) i=l.g i:=by
      unfold DJ;rw[decide_eq_false (by omega),decide_eq_false (by omega)];rfl
     rw[this]
 ·have hb:¬ (g:Int)<(l.n:Int)-1-(g:Int):=of_decide_eq_false hge;refine⟨(0:Nat),⟨rfl,fun i hi=>?_⟩,trivial⟩;have hi:i<l.n:=hi;have w:DJ l g i=l.g (l.n-1-i):=by
   unfold DJ
   by_cases c1:i<g
   ·rw[decide_eq_true c1];rfl
   ·by_cases c2:l.n<=i+g
    ·rw[decide_eq_true c2,Bool.or_true];rfl
    ·rw[decide_eq_false c1,decide_eq_false c2,show l.n-1-i=i by omega];rfl
  rw[w])
theorem wY:An prog 129:=fun _ _=>by kernel_rfl
theorem wZ:Gf prog 129 KD:=Ql (ks:=[1005]) (n:=1) func129 (c:=Ae f129) (by kernel_rfl) mixed ⟨fun t=>rfl,fun t=>rfl,fun t u=>rfl,fun t u=>rfl,fun t u=>rfl,by kernel_rfl⟩ (fun l hp=>⟨_,wX l hp,⟨show Aa prog _ from Aa.nil,rfl,nz⟩⟩)
def Ws (l:L.Sq L.Pt) (v:L.Pt):Prop:=l.n<=1000000
def Wt (l:L.Sq L.Pt) (v:L.Pt):SV:=.int .i64 (AW l v)
def Wu:List EV->Option (Prop×SV)
 |[.p (.sl 2 l_n l_g),.p (.agg [.int .i64 v_x,.int .i64 v_y])]=>some ((∀i,i<l_n->l_g i = [.int .i64 (Ad (l_g i)).x,.int .i64 (Ad (l_g i)).y])/\Ws ⟨l_n,fun i=>Ad (l_g i)⟩ (⟨v_x,v_y⟩:L.Pt),Wt ⟨l_n,fun i=>Ad (l_g i)⟩ (⟨v_x,v_y⟩:L.Pt))
 |_=>none
abbrev QA:SE.Spec:=(AM Wu)
def xA:Aj:={ muts:=[],frz:=B9 [],specs:=AE [],loops:=fun _=>none,iters:=BG [],rfs:=AQ [],nils:=B3 [] }
theorem xB (l:L.Sq L.Pt) (v:L.Pt) (hp:Ws l v):vc prog ({ xA with loops:=AT [(2,{ T:=Nat,keep:=[0,3,6,7],keepO:=[],chg:=fun i=>[(8,.p (.int .i64 i))],own:=fun _=>[],inv:=fun i=>i<=l.n/\(∀j,j<i->Bh v (l.g j)=false),mu:=fun i=>l.n-i })]}) (Ae f82) (Ao f82 [.p (.sl 2 l.n (fun i=>[.int .i64 (l.g i).x,.int .i64 (l.g i).y])),.p (.agg [.int .i64 v.x,.int .i64 v.y])]) (AL prog f82 (Wt l v)):=
 @Eq.mpr _ (let I:=SV.int .i64;let T:=AhD;let A4:=(↑l.n:Int);let A2:=(l.n=l.n/\∀(i:Nat),let A5:=[I (l.g i).x,I (l.g i).y];i<l.n->A5=A5);(∃(g:Nat),0=(↑g:Int)/\g<=l.n/\∀(j:Nat),j<g->Bh v (l.g j)=false)/\∀(g:Nat),let A3:=(↑g:Int);let A1:=(decide (v.x=(l.g (T A3)).x)&&decide (v.y=(l.g (T A3)).y));(g<=l.n/\∀(j:Nat),j<g->Bh v (l.g j)=false)->(decide (A3<A4)=true->(0<=A3/\A3<A4)/\(A1=true->A3=AW l v)/\(A1=false->Ab .i64 (A3+(1:Int))/\∃(g':Nat),A3+1=(↑g':Int)/\A4=A4/\A2/\SV.ref [I v.x,I v.y] 0=SV.ref [I v.x,I v.y] 0/\A2/\(g'<=l.n/\∀(j:Nat),j<g'->Bh v (l.g j)=false)/\l.n-g'<l.n-g))/\(decide (A3<A4)=false->(-1:Int)=AW l v)) (by kernel_rfl) (by
 conv=>zeta
 have hn:l.n<=1000000:=hp;refine⟨⟨(0:Nat),rfl,rH _,fun j hj=>absurd hj (oE _)⟩,fun g hg=>⟨fun hlt=>?_,fun hge=>?_⟩⟩
 ·have hb:(g:Int)<(l.n:Int):=of_decide_eq_true hlt;have e0:((g:Int)).toNat=g:=by omega
  rw[e0];refine⟨⟨by omega,hb⟩,fun h=>?_,fun h=>?_⟩
  ·have h:Bh v (l.g g)=true:=h;exact(J0 (f:=fun i=>Bh v (l.g i)) hg.2 h (by omega)).symm
  ·have h:Bh v (l.g g)=false:=h;exact⟨jK,g+1,by omega,rfl,rz,rfl,rz,⟨by omega,fun j hj=>by
    rcases Ah6.1 hj with h'|rfl
    ·exact hg.2 j h'
    ·exact h⟩,by omega⟩
 ·have hb:¬ (g:Int)<(l.n:Int):=of_decide_eq_false hge;exact(IB (f:=fun i=>Bh v (l.g i)) (fun j hj=>hg.2 j (by omega))).symm)
theorem Wv:Az prog 82 QA:=AN func82 (c:=Ae f82) (by kernel_rfl) mixed (fun _ _ _ hs hp=>by
 unfold Wu at hs;split at hs
 ·cases hs;exact⟨_,_,xB _ _ hp.2,(.p (.sl hp.1) (.same _ .nil)),⟨show Aa prog _ from Aa.nil,rfl,nz⟩⟩
 ·cases hs)
theorem Ww:An prog 82:=fun _ _=>by kernel_rfl
end
section
set_option maxRecDepth 100000
set_option maxHeartbeats 4000000
set_option linter.unusedVariables false
attribute [local irreducible] vc
instance:Inhabited L.Pt:=⟨⟨0,0⟩⟩
def E0 (a b:L.Pt):Prop:=BZ a b<=0
theorem Mu {a b:L.Pt}:BZ a b<=0↔a.x<b.x\/(a.x=b.x/\a.y<=b.y):=by
 unfold BZ HQ B0
 by_cases h1:a.x<b.x
 ·simp[h1]
 ·by_cases h2:b.x<a.x
  ·simp[h1,h2];omega
  ·by_cases h3:a.y<b.y
   ·simp[h1,h2,h3];omega
   ·by_cases h4:b.y<a.y
    ·simp[h1,h2,h3,h4];try omega
    ·simp[h1,h2,h3,h4];try omega
theorem xC:Go.Sort.SWO (Go.Proofs.ltOf BZ):=by
 have k:∀x y,Go.Proofs.ltOf BZ x y=true↔(x.x<y.x\/(x.x=y.x/\x.y<y.y)):=fun x y=>by
  unfold Go.Proofs.ltOf;rw[decide_eq_true_iff];exact KC
 have kf:∀x y,Go.Proofs.ltOf BZ x y=false↔¬ (x.x<y.x\/(x.x=y.x/\x.y<y.y)):=fun x y=>by
  rw[<- k,Bool.not_eq_true]
 refine⟨fun x=>?_,fun x y z=>?_,fun x y z=>?_⟩
 ·rw[kf];omega
 ·simp only[k];omega
 ·simp only[kf];omega
def KE (p:L.Pt):List L.Pt->List L.Pt
 |[]=>[p]
 |q::r=>bif decide (BZ p q<=0)then p::q::r else q::KE p r
def EQ:List L.Pt->List L.Pt
 |[]=>[]
 |p::r=>KE p (EQ r)
def DC (l:L.Sq L.Pt):List L.Pt:=(List.range l.n).map l.g
def AA (l:L.Sq L.Pt):L.Sq L.Pt:=⟨l.n,fun k=>(EQ (DC l)).getD k ⟨0,0⟩⟩
theorem Wx (a b:L.Pt):E0 a b\/E0 b a:=by unfold E0;simp only[Mu];omega
theorem xD {a b c:L.Pt} (h:E0 a b) (k:E0 b c):E0 a c:=by unfold E0 at *;simp only[Mu]at *;omega
theorem xE {a b:L.Pt} (h:E0 a b) (k:E0 b a):a=b:=by
 unfold E0 at *;simp only[Mu]at *;obtain⟨ax,ay⟩:=a;obtain⟨bx,by'⟩:=b;simp only at h k;obtain rfl:ax=bx:=by omega
 obtain rfl:ay=by':=by omega
 rfl
theorem QB (p:L.Pt):∀l,(KE p l).Perm (p::l)
 |[]=>.refl _
 |q::r=>by
   unfold KE;cases decide (BZ p q<=0)with
   |true=>exact .refl _
   |false=>exact((QB p r).cons q).trans (.swap p q r)
theorem HT:∀l,(EQ l).Perm l
 |[]=>.refl _
 |p::r=>(QB p _).trans ((HT r).cons p)
theorem Wy {p:L.Pt}:∀{l},l.Pairwise E0->(KE p l).Pairwise E0
 |[],_=>List.pairwise_singleton _ _
 |q::r,h=>by
   obtain⟨h1,h2⟩:=Ai8.1 h;unfold KE;cases hd:decide (BZ p q<=0)with
   |true =>
     have hd:E0 p q:=of_decide_eq_true (p:=BZ p q<=0) hd;exact Ai8.2 ⟨fun x hx=>by
      rcases Ah4.1 hx with rfl|hx
      ·exact hd
      ·exact xD hd (h1 x hx),h⟩
   |false =>
     have hd:¬ E0 p q:=of_decide_eq_false (p:=BZ p q<=0) hd;have hqp:E0 q p:=(Wx p q).resolve_left hd;exact Ai8.2 ⟨fun x hx=>by
      rcases Ah4.1 ((QB p r).mem_iff.1 hx)with rfl|hx
      ·exact hqp
      ·exact h1 x hx,Wy h2⟩
theorem NS:∀l,(EQ l).Pairwise E0
 |[]=>.nil
 |p::r=>Wy (NS r)
theorem xF {l:L.Sq L.Pt} {u:Nat->L.Pt} (h:D0 BZ l.n l.g u):∀k,k<l.n->(AA l).g k=u k:=fun k hk=>by
 have e:(List.range l.n).map u=EQ (DC l):=by
  refine List.Perm.eq_of_pairwise (le:=E0) (fun a b _ _=>xE) ?_ (NS _) (h.perm.trans (HT _).symm);rw[List.pairwise_iff_getElem];intro i j hi hj hij;simp only[List.getElem_map,List.getElem_range];have hj:j<l.n:=by simpa using hj
  have:=h.asc i j hij hj;rcases Wx (u i) (u j)with h1|h1
  ·exact h1
  ·unfold E0 at *;simp only[Mu,KC]at *;omega
 show(EQ (DC l)).getD k ⟨0,0⟩=u k;rw[<- e];simp[AS,hk]
theorem KF (l:L.Sq L.Pt) {k:Nat} (hk:k<l.n):∃i,i<l.n/\(AA l).g k=l.g i:=by
 have hl:(EQ (DC l)).length=l.n:=by rw[(HT _).length_eq];simp[DC]
 have hm:(EQ (DC l)).getD k ⟨0,0⟩∈EQ (DC l):=by
  rw[AS,Ahz (by rw[hl];exact hk)];exact AhX _
 have hm:=(HT _).mem_iff.1 hm;unfold DC at hm;obtain⟨i,hi,e⟩:=List.mem_map.1 hm;exact⟨i,List.mem_range.1 hi,e.symm⟩
def Wz (p:L.Pt):List Int:=[p.x,p.y]
def xG:Go.Shelf.Ren:=⟨fun|6=>165|15=>132|14=>189|28=>176|29=>177|20=>204|21=>205|22=>206|23=>207|24=>208|25=>209|26=>210|27=>211|46=>216|47=>191|48=>192|49=>217|50=>218|57=>220|n=>n,fun|22=>22|24=>39|25=>123|3=>3|39=>193|0=>0|53=>235|55=>237|4=>4|46=>228|45=>227|50=>232|5=>5|9=>9|66=>246|70=>250|76=>262|77=>263|n=>n,fun|n=>n⟩
theorem xH:Go.Proofs.SlLaysF0.n6 prog xG:={
 mixed:=by kernel_rfl
 f6:=⟨f165.name,by decide,func165.trans (congrArg some (by kernel_rfl))⟩
 f14:=⟨f189.name,by decide,func189.trans (congrArg some (by kernel_rfl))⟩
 f15:=func132.trans (congrArg some (by kernel_rfl))
 f20:=⟨f204.name,by decide,func204.trans (congrArg some (by kernel_rfl))⟩
 f21:=⟨f205.name,by decide,func205.trans (congrArg some (by kernel_rfl))⟩
 f22:=⟨f206.name,by decide,func206.trans (congrArg some (by kernel_rfl))⟩
 f23:=⟨f207.name,by decide,func207.trans (congrArg some (by kernel_rfl))⟩
 f24:=⟨f208.name,by decide,func208.trans (congrArg some (by kernel_rfl))⟩
 f25:=⟨f209.name,by decide,func209.trans (congrArg some (by kernel_rfl))⟩
 f26:=⟨f210.name,by decide,func210.trans (congrArg some (by kernel_rfl))⟩
 f27:=⟨f211.name,by decide,func211.trans (congrArg some (by kernel_rfl))⟩
 f28:=func176.trans (congrArg some (by kernel_rfl))
 f29:=func177.trans (congrArg some (by kernel_rfl))
 f46:=⟨f216.name,by decide,func216.trans (congrArg some (by kernel_rfl))⟩
 f47:=func191.trans (congrArg some (by kernel_rfl))
 f48:=func192.trans (congrArg some (by kernel_rfl))
 f49:=⟨f217.name,by decide,func217.trans (congrArg some (by kernel_rfl))⟩
 f50:=⟨f218.name,by decide,func218.trans (congrArg some (by kernel_rfl))⟩
 f57:=⟨f220.name,by decide,func220.trans (congrArg some (by kernel_rfl))⟩
 t0:=underlying0
 a0:=Tryz.isAgg0
 z0:=Tryz.sizeOf0
 v0:=Tryz.zeroValue0
 t3:=underlying3
 a3:=Tryz.isAgg3
 z3:=Tryz.sizeOf3
 v3:=Tryz.zeroValue3
 t4:=underlying4
 a4:=Tryz.isAgg4
 z4:=Tryz.sizeOf4
 v4:=Tryz.zeroValue4
 t5:=underlying5
 a5:=Tryz.isAgg5
 z5:=Tryz.sizeOf5
 v5:=Tryz.zeroValue5
 t9:=underlying9
 a9:=Tryz.isAgg9
 z9:=Tryz.sizeOf9
 v9:=Tryz.zeroValue9
 t22:=underlying22
 a22:=Tryz.isAgg22
 z22:=Tryz.sizeOf22
 v22:=Tryz.zeroValue22
 t25:=underlying123
 a25:=Tryz.isAgg123
 z25:=Tryz.sizeOf123
 v25:=Tryz.zeroValue123
 t39:=underlying193
 a39:=Tryz.isAgg193
 z39:=Tryz.sizeOf193
 v39:=Tryz.zeroValue193
 t45:=underlying227
 a45:=Tryz.isAgg227
 z45:=Tryz.sizeOf227
 v45:=Tryz.zeroValue227
 t46:=underlying228
 a46:=Tryz.isAgg228
 z46:=Tryz.sizeOf228
 v46:=Tryz.zeroValue228
 t50:=underlying232
 a50:=Tryz.isAgg232
 z50:=Tryz.sizeOf232
 v50:=Tryz.zeroValue232
 t53:=underlying235
 a53:=Tryz.isAgg235
 z53:=Tryz.sizeOf235
 v53:=Tryz.zeroValue235
 t55:=underlying237
 a55:=Tryz.isAgg237
 z55:=Tryz.sizeOf237
 v55:=Tryz.zeroValue237
 t66:=underlying246
 a66:=Tryz.isAgg246
 z66:=Tryz.sizeOf246
 v66:=Tryz.zeroValue246
 t70:=underlying250
 a70:=Tryz.isAgg250
 z70:=Tryz.sizeOf250
 v70:=Tryz.zeroValue250
 t76:=underlying262
 a76:=Tryz.isAgg262
 z76:=Tryz.sizeOf262
 v76:=Tryz.zeroValue262
 t77:=underlying263
 a77:=Tryz.isAgg263
 z77:=Tryz.sizeOf263
 v77:=Tryz.zeroValue263 }
abbrev W0:Tr:=NJ 39 2 78 1005 Wz BZ
theorem xI:Gf prog 165 W0:=Qp (enc:=Wz) xH (by decide) (fun w=>Tryz.isAgg39 w) (fun w=>Tryz.sizeOf39 w) (fun _=>rfl) xC Q4 Q5 (fun x y=>show DA Q2 [.p (.agg [.int .i64 x.x,.int .i64 x.y]),.p (.agg [.int .i64 y.x,.int .i64 y.y])]from trivial) (fun x y=>rfl) _ _
theorem xJ:An prog 165:=fun _ _=>by kernel_rfl
def CM (p:L.Pt):List L.Pt->List L.Pt
 |[]=>[]
 |[a]=>[a]
 |b::a::r=>bif decide (Ay a b p<=0)then CM p (a::r)else b::a::r
def B6 (l:L.Sq L.Pt):Nat->List L.Pt
 |0=>[]
 |k+1=>l.g k::CM (l.g k) (B6 l k)
def Ci (st:List L.Pt):Nat:=st.length
def Ha (q:L.Pt) (st:List L.Pt):Prop:=q∈st
def BU (st:List L.Pt) (k:Nat):L.Pt:=st.getD (st.length-1-k) ⟨0,0⟩
def B2 (l:L.Sq L.Pt):L.Sq L.Pt:=⟨(B6 l l.n).length-1,fun k=>BU (B6 l l.n) k⟩
theorem W2 {p q:L.Pt}:∀{st:List L.Pt},q∈CM p st->q∈st
 |[],h=>h
 |[a],h=>h
 |b::a::r,h=>by
   unfold CM at h;cases hd:decide (Ay a b p<=0)with
   |true=>rw[hd]at h;exact AhL _ (W2 (st:=a::r) h)
   |false=>rw[hd]at h;exact h
theorem W3 {p:L.Pt}:∀{st:List L.Pt},(CM p st).length<=st.length
 |[]=>Ah0 _
 |[a]=>Ah0 _
 |b::a::r=>by
   unfold CM;cases decide (Ay a b p<=0)with
   |true=>exact Nat.le_trans (W3 (st:=a::r)) (Nat.le_succ _)
   |false=>exact Ah0 _
theorem W4 {p:L.Pt}:∀{st:List L.Pt},1<=st.length->1<=(CM p st).length
 |[],h=>h
 |[a],h=>h
 |b::a::r,h=>by
   unfold CM;cases decide (Ay a b p<=0)with
   |true=>exact W4 (st:=a::r) (AiH (rH _))
   |false=>exact h
theorem xK {l:L.Sq L.Pt} (h:2<=l.n):1<=(B6 l l.n).length-1:=by
 match hh:l.n,h with
 |m+2,_ =>
   have:=W4 (p:=l.g (m+1)) (st:=B6 l (m+1)) (AiH (rH _));show 1<=(CM (l.g (m+1)) (B6 l (m+1))).length+1-1;omega
theorem QC {l:L.Sq L.Pt} {q:L.Pt}:∀{k},q∈B6 l k->∃i,i<k/\q=l.g i
 |0,h=>nomatch h
 |k+1,h=>by
   rcases Ah4.1 h with rfl|h
   ·exact⟨k,Aiu _,rfl⟩
   ·obtain⟨i,hi,e⟩:=QC (W2 h);exact⟨i,Nat.lt_succ_of_lt hi,e⟩
theorem J5 (l:L.Sq L.Pt):∀k,(B6 l k).length<=k
 |0=>Ah0 _
 |k+1=>AiH (Nat.le_trans W3 (J5 l k))
theorem W5 {st:List L.Pt} {k:Nat} (h:k<st.length):BU st k∈st:=by
 unfold BU;rw[AS,Ahz (by omega)];exact AhX _
theorem NT {a:L.Pt} {r:List L.Pt} {k:Nat} (h:k<r.length):BU (a::r) k=BU r k:=by
 unfold BU;rw[show(a::r).length-1-k=(r.length-1-k)+1 by simp only[Aim];omega];rfl
theorem Mv {a:L.Pt} {r:List L.Pt}:BU (a::r) r.length=a:=by
 unfold BU;rw[show(a::r).length-1-r.length=0 by simp only[Aim];omega];rfl
def DK (l:L.Sq L.Pt):L.Sq L.Pt:=⟨l.n,fun k=>l.g (l.n-1-k)⟩
def Av (l:L.Sq L.Pt):L.Sq L.Pt:=C9 (FQ (B2 (AA l)) (B2 (DK (AA l)))) 2
theorem W6 (l:L.Sq L.Pt) {k:Nat} (h:k<(B2 l).n):∃i,i<l.n/\(B2 l).g k=l.g i:=QC (W5 (st:=B6 l l.n) (show k<_ by have:k<(B6 l l.n).length-1:=h;omega))
theorem xL (l:L.Sq L.Pt) {k:Nat} (h:k<(Av l).n):∃i,i<l.n/\(Av l).g k=l.g i:=by
 have a1:∀k,k<(B2 (AA l)).n->∃i,i<l.n/\(B2 (AA l)).g k=l.g i:=fun k hk=>by
  obtain⟨i,hi,e⟩:=W6 _ hk;obtain⟨j,hj,e2⟩:=KF l hi;exact⟨j,hj,e.trans e2⟩
 have a2:∀k,k<(B2 (DK (AA l))).n->∃i,i<l.n/\(B2 (DK (AA l))).g k=l.g i:=fun k hk=>by
  obtain⟨i,hi,e⟩:=W6 _ hk;have hi:i<l.n:=hi;obtain⟨j,hj,e2⟩:=KF l (k:=l.n-1-i) (by omega);exact⟨j,hj,e.trans e2⟩
 have h:k<0+(B2 (AA l)).n+(B2 (DK (AA l))).n:=h;have e:(Av l).g k=bif decide (k<0+(B2 (AA l)).n)then(bif decide (k<0)then(⟨0,0⟩:L.Pt)else(B2 (AA l)).g (k-0))else(B2 (DK (AA l))).g (k-(0+(B2 (AA l)).n)):=rfl;rw[e];cases hd:decide (k<0+(B2 (AA l)).n)with
 |true=>have:=of_decide_eq_true hd;exact a1 k (by omega)
 |false=>have:=of_decide_eq_false hd;exact a2 _ (by omega)
def W7 (l:L.Sq L.Pt):Prop:=l.n<=1000000
def QD (l:L.Sq L.Pt):Nat:=l.n
def W8 (l:L.Sq L.Pt):Nat->List SV:=fun k=>[(.agg [.int .i64 (l.g (k:Int).toNat).x,.int .i64 (l.g (k:Int).toNat).y])]
def W9:List SV->Option (Prop×Nat×(Nat->List SV))
 |[.ref [.sl 2 l_n l_g] 0]=>some ((∀i,i<l_n->l_g i = [.int .i64 (Ad (l_g i)).x,.int .i64 (Ad (l_g i)).y])/\W7 ⟨l_n,fun i=>Ad (l_g i)⟩,QD ⟨l_n,fun i=>Ad (l_g i)⟩,W8 ⟨l_n,fun i=>Ad (l_g i)⟩)
 |_=>none
abbrev WA:Ga:=K0 W9
def xM:Aj:={ muts:=[],frz:=B9 [],specs:=AE [],loops:=fun _=>none,iters:=BG [],rfs:=AQ [] }
theorem xN (yl:Nat) (l:L.Sq L.Pt) (hp:W7 l):vc prog { xM with loops:=AT [(1,{ T:=Nat,keep:=[0,1,5,6],keepO:=[],chg:=fun i=>[(7,.p (.int .i64 (i:Int)))],own:=fun _=>[],inv:=fun i=>i<=l.n,mu:=fun i=>l.n-i,yk:=some (fun i=>i) })],yld:=some ⟨yl,QD l,W8 l⟩ } (Ae f166) (Ao f166 (.yield yl::([.ref [.sl 2 l.n (fun i=>[.int .i64 (l.g i).x,.int .i64 (l.g i).y])] 0]:List SV).map .p)) (Kz prog f166 (QD l)):=
 @Eq.mpr _ (let I:=SV.int .i64;let T:=AhD;let A7:=(1:Int);let A5:=(1:Nat);let A3:=(↑l.n:Int);let A2:=[SV.sl 2 l.n fun(i:Nat)=>[I (l.g i).x,I (l.g i).y]];(∃(g:Nat),0=g/\false=false/\0=(↑g:Int)/\g<=l.n)/\∀(g:Nat),let A1:=(↑g:Int);let A4:=[SV.agg [I (l.g (T A1)).x,I (l.g (T A1)).y]];g<=l.n->(decide (A1<A3)=true->(0<=A1/\A1<A3)/\yl=yl/\g<l.n/\A4=A4/\((false=true->g+A5=l.n\/g+A5=l.n+A5)/\(false=false->Ab .i64 (A1+A7)/\∃(g':Nat),g+A5=g'/\false=false/\A1+A7=(↑g':Int)/\A3=A3/\(l.n=l.n/\∀(i:Nat),let A6:=[I (l.g i).x,I (l.g i).y];i<l.n->A6=A6)/\yl=yl/\SV.ref A2 0=SV.ref A2 0/\g'<=l.n/\l.n-g'<l.n-g))/\(true=true->l.n+A5=l.n\/l.n+A5=l.n+A5)/\(true=false->Ab .i64 (A1+A7)/\∃(g':Nat),l.n+A5=g'/\false=false/\A1+A7=(↑g':Int)/\A3=A3/\False/\yl=yl/\False/\g'<=l.n/\l.n-g'<l.n-g))/\(decide (A1<A3)=false->g=l.n\/g=l.n+A5)) (by kernel_rfl) (by
 conv=>zeta
 have hn:l.n<=1000000:=hp;refine⟨⟨(0:Nat),rfl,rfl,rfl,rH _⟩,fun g hg=>⟨fun hlt=>?_,fun hge=>?_⟩⟩
 ·have hb:(g:Int)<(l.n:Int):=of_decide_eq_true hlt;refine⟨⟨by omega,hb⟩,rfl,by omega,rfl,?_⟩;exact⟨⟨fun h=>(by cases h),fun _=>⟨jK,g+1,rfl,rfl,by omega,rfl,rz,rfl,rfl,by omega,by omega⟩⟩,fun _=>.inr rfl,fun h=>(by cases h)⟩
 ·have hb:¬ (g:Int)<(l.n:Int):=of_decide_eq_false hge;exact .inl (by omega))
theorem xO:HJ prog 166 WA:=NF func166 (c:=Ae f166) (by kernel_rfl) mixed (fun caps l p n g hs hp=>by
 unfold W9 at hs;split at hs
 ·cases hs; exact⟨_, _, xN l _ hp.2, (.cons (Ba.ref rfl (fun i hi =>by
  rcases i with _|i
  ·show Ba (SV.sl _ _ _) (SV.sl _ _ _);exact(Ba.sl hp.1)
  exact absurd hi (by simp;try omega))) .nil),rfl,show Aa prog _ from Aa.nil,⟨show Ac prog _ from Ac.nil,AB.none (fun _=>rfl)⟩⟩
 ·cases hs)
theorem xP:An prog 166:=fun _ _=>by kernel_rfl
def WB (l:L.Sq L.Pt):Prop:=l.n<=1000000
def WC (l:L.Sq L.Pt):SV:=.clo 166 [.ref [(.sl 2 l.n (fun i=>[.int .i64 (l.g i).x,.int .i64 (l.g i).y]))] 0]
def WD:List EV->Option (Prop×SV)
 |[.p (.sl 2 l_n l_g)]=>some ((∀i,i<l_n->l_g i = [.int .i64 (Ad (l_g i)).x,.int .i64 (Ad (l_g i)).y])/\WB ⟨l_n,fun i=>Ad (l_g i)⟩,WC ⟨l_n,fun i=>Ad (l_g i)⟩)
 |_=>none
abbrev QE:SE.Spec:=(AM WD)
def xQ:Aj:={ muts:=[],frz:=B9 [],specs:=AE [],loops:=AT [],iters:=BG [],rfs:=AQ [],nils:=B3 [] }
theorem xR (l:L.Sq L.Pt) (hp:WB l):vc prog (xQ) (Ae f127) (Ao f127 [.p (.sl 2 l.n (fun i=>[.int .i64 (l.g i).x,.int .i64 (l.g i).y]))]) (AL prog f127 (WC l)):=
 @Eq.mpr _ (SV.clo 166 [SV.ref [SV.sl 2 l.n fun(i:Nat)=>[SV.int .i64 (l.g i).x,SV.int .i64 (l.g i).y]] 0]=SV.clo 166 [SV.ref [SV.sl 2 l.n fun(i:Nat)=>[SV.int .i64 (l.g i).x,SV.int .i64 (l.g i).y]] 0]) (by kernel_rfl) (by
 rfl)
theorem WE:Az prog 127 QE:=AN func127 (c:=Ae f127) (by kernel_rfl) mixed (fun _ _ _ hs hp=>by
 unfold WD at hs;split at hs
 ·cases hs;exact⟨_,_,xR _ hp.2,(.p (.sl hp.1) .nil),⟨show Aa prog _ from Aa.nil,rfl,nz⟩⟩
 ·cases hs)
theorem WF:An prog 127:=fun _ _=>by kernel_rfl
def WG (s:Nat) (l:L.Sq L.Pt):Prop:=l.n<=1000000
def WH (s:Nat) (l:L.Sq L.Pt):Nat->Prop:=fun _=>True
def WI (s:Nat) (l:L.Sq L.Pt):Nat->Nat:=fun _=>l.n
def WJ (s:Nat) (l:L.Sq L.Pt):Nat->Nat->List SV:=fun _ k=>[.int .i64 (l.g k).x,.int .i64 (l.g k).y]
def WK:List EV->Option (Prop×(Nat->Prop)×(Nat->Nat)×(Nat->Nat->List SV))
 |[.p (.raw (.slice none 0 0)),.p (.clo 166 [.ref [.sl 2 l_n l_g] 0])]=>some ((∀i,i<l_n->l_g i = [.int .i64 (Ad (l_g i)).x,.int .i64 (Ad (l_g i)).y])/\WG 0 ⟨l_n,fun i=>Ad (l_g i)⟩,WH 0 ⟨l_n,fun i=>Ad (l_g i)⟩,WI 0 ⟨l_n,fun i=>Ad (l_g i)⟩,WJ 0 ⟨l_n,fun i=>Ad (l_g i)⟩)
 |_=>none
abbrev WL:SE.Spec:=(Gl Nat 0 39 2 WK)
def xS:Aj:={ cC with muts:=[2,5],iters:=BG [(166,WA)],nils:=B3 [(1,[(2,10,39,2)])] }
theorem xT (s:Nat) (l:L.Sq L.Pt) (hp:WG s l):vc prog ({ xS with loops:=AT [],rfs:=AQ [(2,{ T:=Nat,keep:=[2],keepO:=[],own:=fun k _=>[(2,.blk 22 [.row 10]),(10,.row 39 2 k (fun k=>[.int .i64 (l.g k).x,.int .i64 (l.g k).y]))],inv:=fun k _=>k<=l.n })] }) (Ae f188) (Ao f188 [.p (.raw (.slice none 0 0)),.p (.clo 166 [.ref [.sl 2 l.n (fun i=>[.int .i64 (l.g i).x,.int .i64 (l.g i).y])] 0])]) (Fp prog f188 (Nat) (WH s l) 39 2 (WI s l) (WJ s l)):=
 @Eq.mpr _ (let I:=SV.int .i64;(((∀(i:Nat),let A2:=[I (l.g i).x,I (l.g i).y];i<l.n->A2=A2)/\l.n<=1000000)/\∃(t:Nat),(0=0/\∀(i:Nat),i<0 -> []= [I (l.g i).x,I (l.g i).y])/\(0:Nat)<=l.n)/\(∀(k t:Nat) (vk:Nat->Go.Value),let A1:=(l.g (AhD (↑k:Int)));k<l.n->k<=l.n->(k+1)*16<=140737488355328/\∃(t':Nat),0=0/\vk 2=vk 2/\(k+1=k+1/\∀(i:Nat),i<k+1->AH k (fun(k:Nat)=>[I (l.g k).x,I (l.g k).y]) (fun(x:Nat)=>[I A1.x,I A1.y]) i = [I (l.g i).x,I (l.g i).y])/\k+1<=l.n)/\∀(t:Nat),l.n<=l.n->∃(t:Nat),(l.n=l.n/\∀(i:Nat),let A3:=[I (l.g i).x,I (l.g i).y];i<l.n->A3=A3)/\True) (by kernel_rfl) (by
 conv=>zeta
 have hn:l.n<=1000000:=hp;refine⟨⟨⟨zr,hn⟩,(0:Nat),⟨rfl,fun i hi=>absurd hi (oE _)⟩,rH _⟩,fun k t vk hk hi=>⟨show(k+1)*16<=140737488355328 by omega,(0:Nat),rfl,rfl,⟨rfl,fun i hi=>?_⟩,by omega⟩,fun t hi=>⟨(0:Nat),rz,trivial⟩⟩;have hi:i<k+1:=hi;have e0:((k:Int)).toNat=k:=by omega
 unfold AH
 by_cases h':i<k
 ·rw[if_pos h']
 ·rw[if_neg h'];obtain rfl:i=k:=by omega
  dsimp only;rw[e0])
theorem xU:Az prog 188 WL:=G5 func188 (c:=Ae f188) (by kernel_rfl) mixed (fun args p q n g hs hp=>by
 unfold WK at hs;split at hs
 ·cases hs; exact⟨_, _, xT _ _ hp.2, (.same _ (.p (Ba.clo rfl (fun i hi =>by
  rcases i with _|i
  ·show Ba (SV.ref _ _) (SV.ref _ _);exact(Ba.ref rfl (fun i hi=>by
  rcases i with _|i
  ·show Ba (SV.sl _ _ _) (SV.sl _ _ _);exact(Ba.sl hp.1)
  exact absurd hi (by simp;try omega)))
  exact absurd hi (by simp;try omega))) .nil)),⟨show Aa prog _ from Aa.nil,rfl,⟨show Ac prog _ from(Ac.cons xO xP Ac.nil),(AB.none (fun _=>rfl))⟩⟩⟩
 ·cases hs)
theorem xV:An prog 188:=fun _ _=>by kernel_rfl
def WM (l:L.Sq L.Pt):Prop:=l.n<=1000000
def WN (l:L.Sq L.Pt):Nat->Prop:=fun _=>True
def WO (l:L.Sq L.Pt):Nat->Nat:=fun _=>l.n
def WP (l:L.Sq L.Pt):Nat->Nat->List SV:=fun _ k=>[.int .i64 (l.g k).x,.int .i64 (l.g k).y]
def WQ:List EV->Option (Prop×(Nat->Prop)×(Nat->Nat)×(Nat->Nat->List SV))
 |[.p (.clo 166 [.ref [.sl 2 l_n l_g] 0])]=>some ((∀i,i<l_n->l_g i = [.int .i64 (Ad (l_g i)).x,.int .i64 (Ad (l_g i)).y])/\WM ⟨l_n,fun i=>Ad (l_g i)⟩,WN ⟨l_n,fun i=>Ad (l_g i)⟩,WO ⟨l_n,fun i=>Ad (l_g i)⟩,WP ⟨l_n,fun i=>Ad (l_g i)⟩)
 |_=>none
abbrev WR:SE.Spec:=(Gl Nat 0 39 2 WQ)
def xW:Aj:={ cC with muts:=[4],specs:=AE [(188,WL)],raws:=[188] }
theorem xX (l:L.Sq L.Pt) (hp:WM l):vc prog (xW) (Ae f164) (Ao f164 [.p (.clo 166 [.ref [.sl 2 l.n (fun i=>[.int .i64 (l.g i).x,.int .i64 (l.g i).y])] 0])]) (Fp prog f164 (Nat) (WN l) 39 2 (WO l) (WP l)):=
 @Eq.mpr _ (let I:=SV.int .i64;((∀(i:Nat),let A1:=[I (l.g i).x,I (l.g i).y];i<l.n->A1=A1)/\l.n<=1000000)/\∀(t:Nat),True->∃(t:Nat),(l.n=l.n/\∀(i:Nat),let A2:=[I (l.g i).x,I (l.g i).y];i<l.n->A2=A2)/\True) (by kernel_rfl) (by
 conv=>zeta
 exact⟨⟨zr,hp⟩,fun t _=>⟨(0:Nat),rz,trivial⟩⟩)
theorem xY:Az prog 164 WR:=G5 func164 (c:=Ae f164) (by kernel_rfl) mixed (fun args p q n g hs hp=>by
 unfold WQ at hs;split at hs
 ·cases hs; exact⟨_, _, xX _ hp.2, (.p (Ba.clo rfl (fun i hi =>by
  rcases i with _|i
  ·show Ba (SV.ref _ _) (SV.ref _ _);exact(Ba.ref rfl (fun i hi=>by
  rcases i with _|i
  ·show Ba (SV.sl _ _ _) (SV.sl _ _ _);exact(Ba.sl hp.1)
  exact absurd hi (by simp;try omega)))
  exact absurd hi (by simp;try omega))) .nil),⟨show Aa prog _ from(Aa.cons xU xV Aa.nil),rfl,nz⟩⟩
 ·cases hs)
theorem xZ:An prog 164:=fun _ _=>by kernel_rfl
def WS (l:L.Sq L.Pt):Prop:=l.n<=1000000
def WT (l:L.Sq L.Pt):Nat->Prop:=fun _=>True
def WU (l:L.Sq L.Pt):Nat->Nat:=fun _=>l.n
def WV (l:L.Sq L.Pt):Nat->Nat->List SV:=fun _ k=>[.int .i64 ((AA l).g k).x,.int .i64 ((AA l).g k).y]
def WW:List EV->Option (Prop×(Nat->Prop)×(Nat->Nat)×(Nat->Nat->List SV))
 |[.p (.clo 166 [.ref [.sl 2 l_n l_g] 0]),.p (.clo 78 [])]=>some ((∀i,i<l_n->l_g i = [.int .i64 (Ad (l_g i)).x,.int .i64 (Ad (l_g i)).y])/\WS ⟨l_n,fun i=>Ad (l_g i)⟩,WT ⟨l_n,fun i=>Ad (l_g i)⟩,WU ⟨l_n,fun i=>Ad (l_g i)⟩,WV ⟨l_n,fun i=>Ad (l_g i)⟩)
 |_=>none
abbrev QF:SE.Spec:=(Gl Nat 0 39 2 WW)
def yA:Aj:={ cC with muts:=[7],specs:=AE [(164,WR),(78,Q3)],trs:=Hz [(165,W0)],ren:=fun k=>k-998,raws:=[164] }
theorem yB (l:L.Sq L.Pt) (hp:WS l):vc prog (yA) (Ae f126) (Ao f126 [.p (.clo 166 [.ref [.sl 2 l.n (fun i=>[.int .i64 (l.g i).x,.int .i64 (l.g i).y])] 0]),.p (.clo 78 [])]) (Fp prog f126 (Nat) (WT l) 39 2 (WU l) (WV l)):=
 @Eq.mpr _ (let I:=SV.int .i64;((∀(i:Nat),let A1:=[I (l.g i).x,I (l.g i).y];i<l.n->A1=A1)/\l.n<=1000000)/\∀(t:Nat),True->∃(t:Nat×(Nat->L.Pt)),SV.clo 78 []=SV.clo 78 []/\(l.n=t.1/\∀(i:Nat),i<l.n -> [I (l.g i).x,I (l.g i).y]= [I (t.2 i).x,I (t.2 i).y])/\t.1<=1000000/\∀(u:Nat->L.Pt),D0 BZ t.1 t.2 u->∃(t_1:Nat),(t.1=l.n/\∀(i:Nat),i<t.1 -> [I (u i).x,I (u i).y]= [I ((AA l).g i).x,I ((AA l).g i).y])/\True) (by kernel_rfl) (by
 conv=>zeta
 have hn:l.n<=1000000:=hp;refine⟨⟨zr,hn⟩,fun t _=>⟨(l.n,l.g),rfl,rz,hn,fun u hu=>⟨(0:Nat),⟨rfl,fun i hi=>?_⟩,trivial⟩⟩⟩;rw[xF (l:=l) hu i hi])
theorem WX:Az prog 126 QF:=G5 func126 (c:=Ae f126) (by kernel_rfl) mixed (fun args p q n g hs hp=>by
 unfold WW at hs;split at hs
 ·cases hs; exact⟨_, _, yB _ hp.2, (.p (Ba.clo rfl (fun i hi =>by
  rcases i with _|i
  ·show Ba (SV.ref _ _) (SV.ref _ _);exact(Ba.ref rfl (fun i hi=>by
  rcases i with _|i
  ·show Ba (SV.sl _ _ _) (SV.sl _ _ _);exact(Ba.sl hp.1)
  exact absurd hi (by simp;try omega)))
  exact absurd hi (by simp;try omega))) (.p (Ba.clo rfl (fun i hi=>by
  exact absurd hi (by simp;try omega))) .nil)),⟨show Aa prog _ from(Aa.cons xY xZ (Aa.cons Q4 Q5 Aa.nil)),rfl,⟨show Ac prog _ from Ac.nil,⟨show DT prog _ from(DT.cons xI xJ DT.nil),⟨Gy.no1 (fun _=>rfl),FamsOk.none (fun _=>rfl)⟩⟩⟩⟩⟩
 ·cases hs)
theorem WY:An prog 126:=fun _ _=>by kernel_rfl
def WZ (l:L.Sq L.Pt):Prop:=1<=l.n/\l.n<=1000000/\∀i,i<l.n->As (l.g i)
def Xa (l:L.Sq L.Pt):Nat->Prop:=fun _=>True
def Xb (l:L.Sq L.Pt):Nat->Nat:=fun _=>(B2 l).n
def Xc (l:L.Sq L.Pt):Nat->Nat->List SV:=fun _ k=>[.int .i64 ((B2 l).g k).x,.int .i64 ((B2 l).g k).y]
def Xd:List EV->Option (Prop×(Nat->Prop)×(Nat->Nat)×(Nat->Nat->List SV))
 |[.p (.sl 2 l_n l_g)]=>some ((∀i,i<l_n->l_g i = [.int .i64 (Ad (l_g i)).x,.int .i64 (Ad (l_g i)).y])/\WZ ⟨l_n,fun i=>Ad (l_g i)⟩,Xa ⟨l_n,fun i=>Ad (l_g i)⟩,Xb ⟨l_n,fun i=>Ad (l_g i)⟩,Xc ⟨l_n,fun i=>Ad (l_g i)⟩)
 |_=>none
abbrev Xe:SE.Spec:=(Gl Nat 0 39 2 Xd)
def yC:Aj:={ cC with muts:=[5],specs:=AE [(77,J1)],nils:=B3 [(2,[(3,32,39,2)])],cuts:=[36,46] }
theorem yD (l:L.Sq L.Pt) (hp:WZ l):vc prog ({ yC with loops:=AT [(3,{ T:=Nat,keep:=[3,6,7],keepO:=[],chg:=fun i=>[(8,.p (.int .i64 (i:Int)))],own:=fun i=>[(32,.row 39 2 (Ci (B6 l i)) (fun k=>[.int .i64 (BU (B6 l i) k).x,.int .i64 (BU (B6 l i) k).y]))],inv:=fun i=>i<=l.n,mu:=fun i=>l.n-i }),(5,{ T:=Nat×List L.Pt,keep:=[3,5,6,7,8],keepO:=[5],tie:=fun g=>[(8,.int .i64 (g.1:Int))],chg:=fun g=>[],own:=fun g=>[(32,.row 39 2 (Ci g.2) (fun k=>[.int .i64 (BU g.2 k).x,.int .i64 (BU g.2 k).y]))],inv:=fun g=>g.1<l.n/\CM (l.g g.1) g.2=CM (l.g g.1) (B6 l g.1)/\(∀q,Ha q g.2->Ha q (B6 l g.1))/\Ci g.2<=g.1,mu:=fun g=>Ci g.2 })]}) (Ae f128) (Ao f128 [.p (.sl 2 l.n (fun i=>[.int .i64 (l.g i).x,.int .i64 (l.g i).y]))]) (Fp prog f128 (Nat) (Xa l) 39 2 (Xb l) (Xc l)):=
 @Eq.mpr _ (let I:=SV.int .i64;let T:=AhD;let A11:=(0:Int);let A9:=(↑l.n:Int);let A6:=(l.n=l.n/\∀(i:Nat),let A15:=[I (l.g i).x,I (l.g i).y];i<l.n->A15=A15);let A3:=(1:Int);(∃(g:Nat),A11=(↑g:Int)/\(0=Ci (B6 l g)/\∀(i:Nat),let A14:=(BU (B6 l g) i);i<0 -> []= [I A14.x,I A14.y])/\g<=l.n)/\∀(g:Nat),let A7:=(B6 l g);let A5:=(↑g:Int);let A8:=(l.g (T A5));let A4:=(↑(Ci A7):Int);g<=l.n->(decide (A5<A9)=true->(A11<=A5/\A5<A9)/\(∃(g_1:Nat×List L.Pt),(Ci A7=Ci g_1.2/\∀(i:Nat),i<Ci A7 -> [I (BU A7 i).x,I (BU A7 i).y]= [I (BU g_1.2 i).x,I (BU g_1.2 i).y])/\A5=(↑g_1.1:Int)/\g_1.1<l.n/\CM (l.g g_1.1) g_1.2=CM (l.g g_1.1) (B6 l g_1.1)/\(∀(q:L.Pt),Ha q g_1.2->Ha q (B6 l g_1.1))/\Ci g_1.2<=g_1.1)/\∀(g_1:Nat×List L.Pt),let A1:=(↑(Ci g_1.2):Int);let A12:=(A1-A3);let A17:=(BU g_1.2 (T A12));let A10:=(A1-(2:Int));let A16:=(BU g_1.2 (T A10));let A2:=(bif decide (A3<A1)then decide (Ay A16 A17 A8<=A11)else false);A5=(↑g_1.1:Int)/\g_1.1<l.n/\CM (l.g g_1.1) g_1.2=CM (l.g g_1.1) (B6 l g_1.1)/\(∀(q:L.Pt),Ha q g_1.2->Ha q (B6 l g_1.1))/\Ci g_1.2<=g_1.1->(decide (A3<A1)=true->Ab .i64 A10)/\(decide (A3<A1)=true->A11<=A1-(2:Int)/\A1-2<A1)/\(decide (A3<A1)=true->T A10<Ci g_1.2)/\(decide (A3<A1)=true->Ab .i64 A12)/\(decide (A3<A1)=true->A11<=A1-A3/\A1-A3<A1)/\(decide (A3<A1)=true->T A12<Ci g_1.2)/\(decide (A3<A1)=true->As A16/\As A17/\As A8)/\(A2=true->Ab .i64 A12/\(A11<=A1-A3/\A1-A3<=A1)/\∃(g':Nat×List L.Pt),0=0/\A5=A5/\A9=A9/\A6/\(T A12=Ci g'.2/\∀(i:Nat),i<T A12 -> [I (BU g_1.2 i).x,I (BU g_1.2 i).y]= [I (BU g'.2 i).x,I (BU g'.2 i).y])/\A8.x=A8.x/\A8.y=A8.y/\(A5=(↑g'.1:Int)/\g'.1<l.n/\CM (l.g g'.1) g'.2=CM (l.g g'.1) (B6 l g'.1)/\(∀(q:L.Pt),Ha q g'.2->Ha q (B6 l g'.1))/\Ci g'.2<=g'.1)/\Ci g'.2<Ci g_1.2)/\(A2=false->(Ci g_1.2+1)*16<=140737488355328/\Ab .i64 (A5+A3)/\∃(g':Nat),A5+A3=(↑g':Int)/\A9=A9/\A6/\(Ci g_1.2+1=Ci (B6 l g')/\∀(i:Nat),let A13:=(BU (B6 l g') i);i<Ci g_1.2+1->AH (Ci g_1.2) (fun(k:Nat)=>[I (BU g_1.2 k).x,I (BU g_1.2 k).y]) (fun(x:Nat)=>[I A8.x,I A8.y]) i = [I A13.x,I A13.y])/\g'<=l.n/\l.n-g'<l.n-g))/\(decide (A5<A9)=false->Ab .i64 (A4-A3)/\(A11<=A4-A3/\A4-A3<=A4)/\∃(t:Nat),(T (A4-A3)=(B2 l).n/\∀(i:Nat),i<T (A4-A3) -> [I (BU A7 i).x,I (BU A7 i).y]= [I ((B2 l).g i).x,I ((B2 l).g i).y])/\True)) (by kernel_rfl) (by
 conv=>zeta
 obtain⟨h1,hn,hb⟩:=hp;have len0:∀k,Ci (B6 l k)<=k:=J5 l;have bdc:∀k,k<=l.n->∀q,Ha q (B6 l k)->As q:=fun k hk q hq=>by
  obtain⟨i,hi,rfl⟩:=QC hq;exact hb i (by omega)
 refine⟨⟨(0:Nat),rfl,⟨rfl,fun i hi=>absurd hi (oE _)⟩,rH _⟩,fun g hg=>⟨fun hlt=>?_,fun hge=>?_⟩⟩
 ·have hb':(g:Int)<(l.n:Int):=of_decide_eq_true hlt;have e0:((g:Int)).toNat=g:=by omega
  refine⟨⟨by omega,hb'⟩,⟨(g,B6 l g),rz,rfl,by omega,rfl,fun _ h=>h,len0 g⟩,fun g1 hg1=>?_⟩;obtain⟨g0,st⟩:=g1;obtain⟨e1,q1,q2,q3,q4⟩:=hg1;have e1:(g:Int)=(g0:Int):=e1;obtain rfl:g=g0:=by omega
  have q2:CM (l.g g) st=CM (l.g g) (B6 l g):=q2;have q3:∀q,Ha q st->Ha q (B6 l g):=q3;have q4:Ci st<=g:=q4;have mb:∀k,k<Ci st->As (BU st k):=fun k hk=>bdc g hg _ (q3 _ (W5 hk));rw[e0];dsimp only;refine⟨fun h=>?_,fun h=>?_,fun h=>?_,fun h=>?_,fun h=>?_,fun h=>?_,fun h=>?_,fun hc=>?_,fun hc=>?_⟩
  any_goals (try have h:(1:Int)<(Ci st:Int):=of_decide_eq_true h)
  ·exact jK
  ·omega
  ·omega
  ·exact jK
  ·omega
  ·omega
  ·exact⟨mb _ (by omega),mb _ (by omega),hb g (by omega)⟩
  ·cases hd:decide ((1:Int)<(Ci st:Int))with
   |false=>rw[hd]at hc;cases hc
   |true =>
     have h:(1:Int)<(Ci st:Int):=of_decide_eq_true hd;rw[hd]at hc;have hc:=of_decide_eq_true hc
     match st,h with
     |b::a::r,h =>
       have f1:(((Ci (b::a::r):Nat):Int)-2).toNat=r.length:=by show(((r.length+1+1:Nat):Int)-2).toNat=r.length;omega
       have f2:(((Ci (b::a::r):Nat):Int)-1).toNat=r.length+1:=by show(((r.length+1+1:Nat):Int)-1).toNat=r.length+1;omega
       have g1:BU (b::a::r) (r.length+1)=b:=Mv;have g2:BU (b::a::r) r.length=a:=(NT (by simp)).trans Mv;rw[f1,f2,g1,g2]at hc;refine⟨jK,⟨by omega,by omega⟩,(g,a::r),rfl,rfl,rfl,rz,⟨f2,fun i hi=>?_⟩,rfl,rfl,⟨rfl,q1,?_,fun q hq=>q3 q (AhL _ hq),?_⟩,?_⟩
       ·rw[f2]at hi;have:BU (b::a::r) i=BU (a::r) i:=NT (by simpa using hi);rw[this]
       ·rw[<- q2];show CM (l.g g) (a::r)=bif decide (Ay a b (l.g g)<=0)then CM (l.g g) (a::r)else b::a::r;rw[decide_eq_true hc];rfl
       ·have:r.length+1+1<=g:=q4;show r.length+1<=g;omega
       ·show r.length+1<r.length+1+1;omega
     |[],h=>exact absurd h (by show ¬ (1:Int)<((0:Nat):Int);omega)
     |[a],h=>exact absurd h (by show ¬ (1:Int)<((1:Nat):Int);omega)
  ·have hp' : CM (l.g g) st = st :=by
    match st,hc with
    |[],_=>rfl
    |[a],_=>rfl
    |b::a::r,hc =>
      have f1:(((Ci (b::a::r):Nat):Int)-2).toNat=r.length:=by show(((r.length+1+1:Nat):Int)-2).toNat=r.length;omega
      have f2:(((Ci (b::a::r):Nat):Int)-1).toNat=r.length+1:=by show(((r.length+1+1:Nat):Int)-1).toNat=r.length+1;omega
      have g1:BU (b::a::r) (r.length+1)=b:=Mv;have g2:BU (b::a::r) r.length=a:=(NT (by simp)).trans Mv;have hl:(1:Int)<((Ci (b::a::r):Nat):Int):=by show(1:Int)<((r.length+1+1:Nat):Int);omega
      rw[decide_eq_true hl,f1,f2,g1,g2]at hc;have hc:decide (Ay a b (l.g g)<=0)=false:=hc;show(bif decide (Ay a b (l.g g)<=0)then CM (l.g g) (a::r)else b::a::r)=b::a::r;rw[hc];rfl
   have e2:B6 l (g+1)=l.g g::st:=by
    show l.g g::CM (l.g g) (B6 l g)=l.g g::st;rw[<- q2,hp']
   refine⟨show(Ci st+1)*16<=140737488355328 by omega,jK,g+1,by omega,rfl,rz,?_,by omega,by omega⟩;rw[e2];refine⟨rfl,fun i hi=>?_⟩;have hi:i<Ci st+1:=hi;unfold AH
   by_cases h':i<Ci st
   ·rw[if_pos h'];have:BU (l.g g::st) i=BU st i:=NT h';rw[this]
   ·rw[if_neg h'];obtain rfl:i=Ci st:=by omega
    have:BU (l.g g::st) (Ci st)=l.g g:=Mv;rw[this]
 ·have hb':¬ (g:Int)<(l.n:Int):=of_decide_eq_false hge;obtain rfl:g=l.n:=by omega
  have l1:1<=Ci (B6 l l.n):=by
   match hh:l.n,h1 with
   |m+1,_=>exact AiH (rH _)
  have l2:=len0 l.n;have e2:(((Ci (B6 l l.n):Nat):Int)-1).toNat=(B2 l).n:=by
   show(((Ci (B6 l l.n):Nat):Int)-1).toNat=Ci (B6 l l.n)-1;omega
  exact⟨jK,⟨by omega,by omega⟩,(0:Nat),⟨e2,fun _ _=>rfl⟩,trivial⟩)
theorem yE:Az prog 128 Xe:=G5 func128 (c:=Ae f128) (by kernel_rfl) mixed (fun args p q n g hs hp=>by
 unfold Xd at hs;split at hs
 ·cases hs;exact⟨_,_,yD _ hp.2,(.p (.sl hp.1) .nil),⟨show Aa prog _ from(Aa.cons K5 K6 Aa.nil),rfl,nz⟩⟩
 ·cases hs)
theorem yF:An prog 128:=fun _ _=>by kernel_rfl
def Xf (l:L.Sq L.Pt):Prop:=2<=l.n/\l.n<=1000/\∀i,i<l.n->As (l.g i)
def Xg (l:L.Sq L.Pt):Nat->Prop:=fun _=>True
def Xh (l:L.Sq L.Pt):Nat->Nat:=fun _=>(Av l).n
def Xi (l:L.Sq L.Pt):Nat->Nat->List SV:=fun _ k=>[.int .i64 ((Av l).g k).x,.int .i64 ((Av l).g k).y]
def Xj:List EV->Option (Prop×(Nat->Prop)×(Nat->Nat)×(Nat->Nat->List SV))
 |[.p (.sl 2 l_n l_g)]=>some ((∀i,i<l_n->l_g i = [.int .i64 (Ad (l_g i)).x,.int .i64 (Ad (l_g i)).y])/\Xf ⟨l_n,fun i=>Ad (l_g i)⟩,Xg ⟨l_n,fun i=>Ad (l_g i)⟩,Xh ⟨l_n,fun i=>Ad (l_g i)⟩,Xi ⟨l_n,fun i=>Ad (l_g i)⟩)
 |_=>none
abbrev QG:SE.Spec:=(Gl Nat 0 39 2 Xj)
def yG:Aj:={ cC with muts:=[7,18],specs:=AE [(127,QE),(126,QF),(128,Xe),(130,Wr)],trs:=Hz [(129,KD)],ren:=fun k=>k-998,raws:=[126] }
theorem yH (l:L.Sq L.Pt) (hp:Xf l):vc prog (yG) (Ae f81) (Ao f81 [.p (.sl 2 l.n (fun i=>[.int .i64 (l.g i).x,.int .i64 (l.g i).y]))]) (Fp prog f81 (Nat) (Xg l) 39 2 (Xh l) (Xi l)):=
 @Eq.mpr _ (let I:=SV.int .i64;let A12:=(true&&(true&&true));let A9:=(1000000:Nat);let A8:=(1:Nat);let A7:=((∀(i:Nat),let A15:=[I (l.g i).x,I (l.g i).y];i<l.n->A15=A15)/\l.n<=A9);let A1:=(L.Sq.mk (B2 (L.Sq.mk l.n fun(i:Nat)=>(AA (L.Sq.mk l.n fun(i:Nat)=>l.g i)).g i)).n fun(i:Nat)=>(B2 (L.Sq.mk l.n fun(i:Nat)=>(AA (L.Sq.mk l.n fun(i:Nat)=>l.g i)).g i)).g i);A7/\A7/\∀(t:Nat),True->((∀(i:Nat),let A6:=((AA (L.Sq.mk l.n fun(i:Nat)=>l.g i)).g i);i<l.n -> [I A6.x,I A6.y]= [I A6.x,I A6.y])/\A8<=l.n/\l.n<=A9/\∀(i:Nat),i<l.n->As ((AA (L.Sq.mk l.n fun(i:Nat)=>l.g i)).g i))/\∀(t:Nat),True->(∀(i:Nat),i<(B2 (L.Sq.mk l.n fun(i:Nat)=>(AA (L.Sq.mk l.n fun(i:Nat)=>l.g i)).g i)).n->A12=true)/\∃(t:L.Sq L.Pt),let A3:=(L.Sq.mk (B2 (L.Sq.mk t.n fun(i:Nat)=>t.g (t.n-A8-i))).n fun(i:Nat)=>(B2 (L.Sq.mk t.n fun(i:Nat)=>t.g (t.n-A8-i))).g i);let A16:=(FQ A1 A3 0);(l.n=t.n/\∀(i:Nat),let A11:=((AA (L.Sq.mk l.n fun(i:Nat)=>l.g i)).g i);i<l.n -> [I A11.x,I A11.y]= [I (t.g i).x,I (t.g i).y])/\t.n<=A9/\∀(u:Nat),True->((∀(i:Nat),let A10:=(t.g (t.n-A8-i));i<t.n -> [I A10.x,I A10.y]= [I A10.x,I A10.y])/\A8<=t.n/\t.n<=A9/\∀(i:Nat),i<t.n->As (t.g (t.n-A8-i)))/\∀(t_1:Nat),True->(∀(i:Nat),i<(B2 (L.Sq.mk t.n fun(i:Nat)=>t.g (t.n-A8-i))).n->A12=true)/\(((∀(i:Nat),let A4:=(B2 (L.Sq.mk l.n fun(i:Nat)=>(AA (L.Sq.mk l.n fun(i:Nat)=>l.g i)).g i));let A13:=[I (A4.g i).x,I (A4.g i).y];i<A4.n->A13=A13)/\∀(i:Nat),let A5:=(B2 (L.Sq.mk t.n fun(i:Nat)=>t.g (t.n-A8-i)));let A14:=[I (A5.g i).x,I (A5.g i).y];i<A5.n->A14=A14)/\A8<=A16.n+(FQ A1 A3 A8).n/\A16.n<=A9/\(FQ A1 A3 A8).n<=A9)/\∀(t_2:Nat),True->∃(t_3:Nat),((C9 (FQ A1 A3) 2).n=(Av l).n/\∀(i:Nat),let A2:=(C9 (FQ (L.Sq.mk (B2 (L.Sq.mk l.n fun(i:Nat)=>(AA (L.Sq.mk l.n fun(i:Nat)=>l.g i)).g i)).n fun(i:Nat)=>(B2 (L.Sq.mk l.n fun(i:Nat)=>(AA (L.Sq.mk l.n fun(i:Nat)=>l.g i)).g i)).g i) (L.Sq.mk (B2 (L.Sq.mk t.n fun(i:Nat)=>t.g (t.n-A8-i))).n fun(i:Nat)=>(B2 (L.Sq.mk t.n fun(i:Nat)=>t.g (t.n-A8-i))).g i)) 2);i<A2.n -> [I (A2.g i).x,I (A2.g i).y]= [I ((Av l).g i).x,I ((Av l).g i).y])/\True) (by kernel_rfl) (by
 conv=>zeta
 obtain⟨h1,hn,hb⟩:=hp;have sb:∀i,i<l.n->As ((AA l).g i):=fun i hi=>by
  obtain⟨j,hj,e⟩:=KF l hi;rw[e];exact hb j hj
 have cl:∀m:L.Sq L.Pt,(B2 m).n<=m.n:=fun m=>by
  have:=J5 m m.n;show(B6 m m.n).length-1<=m.n;omega
 have c1:(B2 (AA l)).n<=l.n:=cl (AA l);have c2:(B2 (DK (AA l))).n<=l.n:=cl (DK (AA l));have c3:1<=(B2 (AA l)).n:=xK (l:=AA l) h1;refine⟨⟨zr,by omega⟩,⟨zr,by omega⟩,fun t _=>⟨⟨zr,by omega,by omega,sb⟩,fun t _=>⟨zr,AA l,rz,show l.n<=1000000 by omega,fun u _=>⟨⟨zr,show 1<=l.n by omega,show l.n<=1000000 by omega,fun i hi=>sb _ ?_⟩,fun t1 _=>⟨zr,⟨⟨zr,fun _ _=>rfl⟩,?_,?_,?_⟩,fun t2 _=>⟨(0:Nat),rz,trivial⟩⟩⟩⟩⟩⟩
 ·have hi:i<l.n:=hi;show l.n-1-i<l.n;omega
 ·show 1<=(B2 (AA l)).n+(B2 (DK (AA l))).n;omega
 ·show(B2 (AA l)).n<=1000000;omega
 ·show(B2 (DK (AA l))).n<=1000000;omega)
theorem Xk:Az prog 81 QG:=G5 func81 (c:=Ae f81) (by kernel_rfl) mixed (fun args p q n g hs hp=>by
 unfold Xj at hs;split at hs
 ·cases hs;exact⟨_,_,yH _ hp.2,(.p (.sl hp.1) .nil),⟨show Aa prog _ from(Aa.cons WE WF (Aa.cons WX WY (Aa.cons yE yF (Aa.cons wV wW Aa.nil)))),rfl,⟨show Ac prog _ from Ac.nil,⟨show DT prog _ from(DT.cons wZ wY DT.nil),⟨Gy.no1 (fun _=>rfl),FamsOk.none (fun _=>rfl)⟩⟩⟩⟩⟩
 ·cases hs)
theorem Xl:An prog 81:=fun _ _=>by kernel_rfl
end
section
set_option maxRecDepth 100000
set_option maxHeartbeats 4000000
set_option linter.unusedVariables false
attribute [local irreducible] vc
structure AG where
 fr:Int
 to_:Int
 area:Int
def H4:List SV->AG
 |[.int _ a,.int _ b,.int _ c]=>⟨a,b,c⟩
 |_=>⟨0,0,0⟩
instance:Inhabited AG:=⟨⟨0,0,0⟩⟩
def Xm (p:AG):List Int:=[p.fr,p.to_,p.area]
def Fs (a b:AG):Int:=B0 a.fr b.fr
theorem yI:Go.Sort.SWO (Go.Proofs.ltOf Fs):=by
 have k:∀x y,Go.Proofs.ltOf Fs x y=true↔x.fr<y.fr:=fun x y=>by
  unfold Go.Proofs.ltOf Fs B0;rw[decide_eq_true_iff]
  by_cases h1:x.fr<y.fr
  ·simp[h1]
  ·by_cases h2:y.fr<x.fr<;>simp[h1,h2]
 have kf:∀x y,Go.Proofs.ltOf Fs x y=false↔¬ x.fr<y.fr:=fun x y=>by
  rw[<- k,Bool.not_eq_true]
 refine⟨fun x=>?_,fun x y z=>?_,fun x y z=>?_⟩
 ·rw[kf];omega
 ·simp only[k];omega
 ·simp only[kf];omega
def DU (l h:L.Sq L.Pt) (k:Nat):Int:=AW l (h.g k)
def Eo (l h:L.Sq L.Pt) (k:Nat):Int:=AW l (h.g (BO h.n k))
def Ef (l h:L.Sq L.Pt) (k:Nat):Bool:=!decide (Eo l h k=AhQ (DU l h k+1) (l.n:Int))
def Da (n:Nat) (to_:Int) (j:Nat):Int:=AhQ (to_+(n:Int)-(j:Int)) (n:Int)
def Ft (n:Nat) (fr to_:Int):Nat:=(AhQ (to_+(n:Int)-fr) (n:Int)).toNat
def HU (l:L.Sq L.Pt) (fr to_:Int):L.Sq L.Pt:=⟨Ft l.n fr to_+1,fun j=>l.g (Da l.n to_ j).toNat⟩
def Ff (l h:L.Sq L.Pt) (k:Nat):AG:=⟨DU l h k,Eo l h k,BT (HU l (DU l h k) (Eo l h k)) (HU l (DU l h k) (Eo l h k)).n⟩
def Cz (l:L.Sq L.Pt):L.Sq AG:=⟨AJ (Ef l (Av l)) (Av l).n,fun i=>Ff l (Av l) (BI (Ef l (Av l)) (Av l).n i)⟩
def Eg (l:L.Sq L.Pt):Nat:=bif Am l then(Cz l).n else 0
def yJ:Go.Shelf.Ren:=⟨fun|6=>83|15=>132|14=>131|28=>176|29=>177|20=>168|21=>169|22=>170|23=>171|24=>172|25=>173|26=>174|27=>175|46=>190|47=>191|48=>192|49=>193|50=>194|57=>212|n=>n,fun|22=>25|24=>35|25=>132|3=>3|39=>193|0=>0|53=>235|55=>237|4=>4|46=>228|45=>227|50=>232|5=>5|9=>9|66=>246|70=>250|76=>262|77=>263|n=>n,fun|n=>n⟩
theorem yK:Go.Proofs.SlLaysF0.n6 prog yJ:={
 mixed:=by kernel_rfl
 f6:=⟨f83.name,by decide,func83.trans (congrArg some (by kernel_rfl))⟩
 f14:=⟨f131.name,by decide,func131.trans (congrArg some (by kernel_rfl))⟩
 f15:=func132.trans (congrArg some (by kernel_rfl))
 f20:=⟨f168.name,by decide,func168.trans (congrArg some (by kernel_rfl))⟩
 f21:=⟨f169.name,by decide,func169.trans (congrArg some (by kernel_rfl))⟩
 f22:=⟨f170.name,by decide,func170.trans (congrArg some (by kernel_rfl))⟩
 f23:=⟨f171.name,by decide,func171.trans (congrArg some (by kernel_rfl))⟩
 f24:=⟨f172.name,by decide,func172.trans (congrArg some (by kernel_rfl))⟩
 f25:=⟨f173.name,by decide,func173.trans (congrArg some (by kernel_rfl))⟩
 f26:=⟨f174.name,by decide,func174.trans (congrArg some (by kernel_rfl))⟩
 f27:=⟨f175.name,by decide,func175.trans (congrArg some (by kernel_rfl))⟩
 f28:=func176.trans (congrArg some (by kernel_rfl))
 f29:=func177.trans (congrArg some (by kernel_rfl))
 f46:=⟨f190.name,by decide,func190.trans (congrArg some (by kernel_rfl))⟩
 f47:=func191.trans (congrArg some (by kernel_rfl))
 f48:=func192.trans (congrArg some (by kernel_rfl))
 f49:=⟨f193.name,by decide,func193.trans (congrArg some (by kernel_rfl))⟩
 f50:=⟨f194.name,by decide,func194.trans (congrArg some (by kernel_rfl))⟩
 f57:=⟨f212.name,by decide,func212.trans (congrArg some (by kernel_rfl))⟩
 t0:=underlying0
 a0:=Tryz.isAgg0
 z0:=Tryz.sizeOf0
 v0:=Tryz.zeroValue0
 t3:=underlying3
 a3:=Tryz.isAgg3
 z3:=Tryz.sizeOf3
 v3:=Tryz.zeroValue3
 t4:=underlying4
 a4:=Tryz.isAgg4
 z4:=Tryz.sizeOf4
 v4:=Tryz.zeroValue4
 t5:=underlying5
 a5:=Tryz.isAgg5
 z5:=Tryz.sizeOf5
 v5:=Tryz.zeroValue5
 t9:=underlying9
 a9:=Tryz.isAgg9
 z9:=Tryz.sizeOf9
 v9:=Tryz.zeroValue9
 t22:=underlying25
 a22:=Tryz.isAgg25
 z22:=Tryz.sizeOf25
 v22:=Tryz.zeroValue25
 t25:=underlying132
 a25:=Tryz.isAgg132
 z25:=Tryz.sizeOf132
 v25:=Tryz.zeroValue132
 t39:=underlying193
 a39:=Tryz.isAgg193
 z39:=Tryz.sizeOf193
 v39:=Tryz.zeroValue193
 t45:=underlying227
 a45:=Tryz.isAgg227
 z45:=Tryz.sizeOf227
 v45:=Tryz.zeroValue227
 t46:=underlying228
 a46:=Tryz.isAgg228
 z46:=Tryz.sizeOf228
 v46:=Tryz.zeroValue228
 t50:=underlying232
 a50:=Tryz.isAgg232
 z50:=Tryz.sizeOf232
 v50:=Tryz.zeroValue232
 t53:=underlying235
 a53:=Tryz.isAgg235
 z53:=Tryz.sizeOf235
 v53:=Tryz.zeroValue235
 t55:=underlying237
 a55:=Tryz.isAgg237
 z55:=Tryz.sizeOf237
 v55:=Tryz.zeroValue237
 t66:=underlying246
 a66:=Tryz.isAgg246
 z66:=Tryz.sizeOf246
 v66:=Tryz.zeroValue246
 t70:=underlying250
 a70:=Tryz.isAgg250
 z70:=Tryz.sizeOf250
 v70:=Tryz.zeroValue250
 t76:=underlying262
 a76:=Tryz.isAgg262
 z76:=Tryz.sizeOf262
 v76:=Tryz.zeroValue262
 t77:=underlying263
 a77:=Tryz.isAgg263
 z77:=Tryz.sizeOf263
 v77:=Tryz.zeroValue263 }
theorem NU {n:Nat} {to_:Int} (hn:0<n) (h0:0<=to_) {j:Nat} (hj:j<=n):0<=Da n to_ j/\Da n to_ j<(n:Int):=by
 unfold Da;exact⟨Ai5 (n:Int) (by omega),Aiq _ (by omega)⟩
theorem Xn {n:Nat} {to_:Int} (h0:0<=to_) (h1:to_<(n:Int)):Da n to_ 0=to_:=by
 unfold Da;rw[show to_+(n:Int)-((0:Nat):Int)=to_+(n:Int)by omega,AhM (by omega),Ail,Aic h0 h1]
theorem yL {n:Nat} {to_:Int} (hn:0<n) (h0:0<=to_) {j:Nat} (hj:j<n):AhQ (Da n to_ j+(n:Int)-1) (n:Int)=Da n to_ (j+1):=by
 have hb:=NU hn h0 (j:=j) (by omega);unfold Da at hb ⊢;rw[AhM (a:=to_+(n:Int)-(j:Int)) (by omega)]at hb ⊢;rw[AhM (by omega),AhM (a:=to_+(n:Int)-((j+1:Nat):Int)) (by omega)];rw[show(to_+(n:Int)-(j:Int)) % (n:Int)+(n:Int)-1=(to_+(n:Int)-(j:Int)) % (n:Int)+((n:Int)-1)by omega,Int.emod_add_emod,show to_+(n:Int)-(j:Int)+((n:Int)-1)=to_+(n:Int)-((j+1:Nat):Int)+(n:Int)by omega,Ail]
theorem Xo {n:Nat} {fr to_:Int} (hf0:0<=fr) (hf1:fr<(n:Int)) (ht0:0<=to_) (ht1:to_<(n:Int)) {j:Nat} (hj:j<=Ft n fr to_):(Da n to_ j=fr↔j=Ft n fr to_)/\Ft n fr to_<n:=by
 unfold Ft Da at *;rw[AhM (a:=to_+(n:Int)-fr) (by omega)]at hj ⊢
 by_cases h:fr<=to_
 ·have e1 : (to_+(n:Int)-fr) % (n:Int)= to_-fr :=by
   rw[show to_+(n:Int)-fr=to_-fr+(n:Int)by omega,Ail,Aic (by omega) (by omega)]
  rw[e1]at hj ⊢;rw[AhM (by omega),show to_+(n:Int)-(j:Int)=to_-(j:Int)+(n:Int)by omega,Ail,Aic (by omega) (by omega)];omega
 ·have e1:(to_+(n:Int)-fr) % (n:Int)=to_+(n:Int)-fr:=Aic (by omega) (by omega);rw[e1]at hj ⊢;rw[AhM (by omega)]
  by_cases h2:(j:Int)<=to_
  ·rw[show to_+(n:Int)-(j:Int)=to_-(j:Int)+(n:Int)by omega,Ail,Aic (by omega) (by omega)];omega
  ·rw[Aic (by omega) (by omega)];omega
theorem yM {l:L.Sq L.Pt} (hs:EN l) {fr to_:Int} (hn:l.n<=900) (hf0:0<=fr) (hf1:fr<(l.n:Int)) (ht0:0<=to_) (ht1:to_<(l.n:Int)):EN (HU l fr to_):=by
 have hlen:=(Xo hf0 hf1 ht0 ht1 (j:=0) (rH _)).2;refine⟨show Ft l.n fr to_+1<=1000 by omega,fun i hi=>?_⟩;have hi:i<Ft l.n fr to_+1:=hi;have hb:=NU (n:=l.n) (by omega) ht0 (j:=i) (by omega);exact hs.2 _ (by omega)
theorem Xp {l:L.Sq L.Pt} {k:Nat} (hk:k<(Av l).n):0<=AW l ((Av l).g k)/\AW l ((Av l).g k)<(l.n:Int):=by
 obtain⟨i,hi,e⟩:=xL l hk;obtain⟨j,hj,e2,_⟩:=Wf (l:=l) hi;rw[e,e2];omega
def Xq (a:AG) (b:AG):Prop:=True
def Xr (a:AG) (b:AG):SV:=.int .i64 (Fs a b)
def QH:List EV->Option (Prop×SV)
 |[.p (.agg [.int .i64 a_fr,.int .i64 a_to_,.int .i64 a_area]),.p (.agg [.int .i64 b_fr,.int .i64 b_to_,.int .i64 b_area])]=>some (Xq (⟨a_fr,a_to_,a_area⟩:AG) (⟨b_fr,b_to_,b_area⟩:AG),Xr (⟨a_fr,a_to_,a_area⟩:AG) (⟨b_fr,b_to_,b_area⟩:AG))
 |_=>none
abbrev Xs:SE.Spec:=(AM QH)
def yN:Aj:={ cC with specs:=AE [(85,K3)] }
theorem yO (a:AG) (b:AG) (hp:Xq a b):vc prog (yN) (Ae f84) (Ao f84 [.p (.agg [.int .i64 a.fr,.int .i64 a.to_,.int .i64 a.area]),.p (.agg [.int .i64 b.fr,.int .i64 b.to_,.int .i64 b.area])]) (AL prog f84 (Xr a b)):=
 @Eq.mpr _ (True/\B0 a.fr b.fr=Fs a b) (by kernel_rfl) (by
 exact⟨trivial,rfl⟩)
theorem Xt:Az prog 84 Xs:=AN func84 (c:=Ae f84) (by kernel_rfl) mixed (fun _ _ _ hs hp=>by
 unfold QH at hs;split at hs
 ·cases hs;exact⟨_,_,yO _ _ hp,(.same _ (.same _ .nil)),⟨show Aa prog _ from(Aa.cons Mr Ms Aa.nil),rfl,nz⟩⟩
 ·cases hs)
theorem Xu:An prog 84:=fun _ _=>by kernel_rfl
abbrev Xv:Tr:=NJ 35 3 84 1005 Xm Fs
theorem yP:Gf prog 83 Xv:=Qp (enc:=Xm) yK (by decide) (fun w=>Tryz.isAgg35 w) (fun w=>Tryz.sizeOf35 w) (fun _=>rfl) yI Xt Xu (fun x y=>show DA QH [.p (.agg [.int .i64 x.fr,.int .i64 x.to_,.int .i64 x.area]),.p (.agg [.int .i64 y.fr,.int .i64 y.to_,.int .i64 y.area])]from trivial) (fun x y=>rfl) _ _
theorem yQ:An prog 83:=fun _ _=>by kernel_rfl
def Xw (l:L.Sq L.Pt):Prop:=l.n<=1000000
def Xx (l:L.Sq L.Pt):(Nat->AG)->Prop:=fun u=>Am l=true->D0 Fs (Cz l).n (Cz l).g u
def Xy (l:L.Sq L.Pt):(Nat->AG)->SV:=fun u=>.tup [.sl 3 (Eg l) (fun i=>[.int .i64 (u i).fr,.int .i64 (u i).to_,.int .i64 (u i).area]),.int .i64 (bif Am l then 0 else 1)]
def Xz:List EV->Option (Prop×((Nat->AG)->Prop)×((Nat->AG)->SV))
 |[.p (.sl 2 l_n l_g)]=>some ((∀i,i<l_n->l_g i = [.int .i64 (Ad (l_g i)).x,.int .i64 (Ad (l_g i)).y])/\Xw ⟨l_n,fun i=>Ad (l_g i)⟩,Xx ⟨l_n,fun i=>Ad (l_g i)⟩,Xy ⟨l_n,fun i=>Ad (l_g i)⟩)
 |_=>none
abbrev QI:SE.Spec:=(U2 (Nat->AG) (fun _=>⟨0,0,0⟩) Xz)
def yR:Aj:={ cC with muts:=[4,5,7,40],specs:=AE [(37,J3),(81,QG),(76,Mp),(82,QA),(75,Qv),(84,Xs)],iters:=BG [(122,Mo)],nils:=B3 [(5,[(4,68,35,3)])],trs:=Hz [(83,Xv)],ren:=fun k=>k-937 }
theorem yS (l:L.Sq L.Pt) (hp:Xw l):vc prog ({ yR with loops:=AT [(11,{ T:=Nat×Int×Int,keep:=[1,4,5,8,9,10],keepO:=[4,5,68],tie:=fun g=>[(8,.int .i64 g.2.1),(9,.int .i64 g.2.2)],chg:=fun g=>[(11,.p (.int .i64 (Da l.n g.2.2 g.1)))],own:=fun g=>[(40,.row 39 2 (g.1+1) (fun j=>[.int .i64 (l.g (Da l.n g.2.2 j).toNat).x,.int .i64 (l.g (Da l.n g.2.2 j).toNat).y]))],inv:=fun g=>(0<=g.2.1/\g.2.1<(l.n:Int))/\(0<=g.2.2/\g.2.2<(l.n:Int))/\g.1<=Ft l.n g.2.1 g.2.2,mu:=fun g=>l.n-g.1 })],rfs:=AQ [(6,{ T:=Nat,keep:=[1,4,5],keepO:=[5],own:=fun k _=>[(4,.blk 25 [.row 68]),(68,.row 35 3 (AJ (Ef l (Av l)) k) (fun i=>[.int .i64 (Ff l (Av l) (BI (Ef l (Av l)) k i)).fr,.int .i64 (Ff l (Av l) (BI (Ef l (Av l)) k i)).to_,.int .i64 (Ff l (Av l) (BI (Ef l (Av l)) k i)).area]))],inv:=fun k _=>k<=(Av l).n })] }) (Ae f40) (Ao f40 [.p (.sl 2 l.n (fun i=>[.int .i64 (l.g i).x,.int .i64 (l.g i).y]))]) (Qi prog f40 ((Nat->AG)) (Xx l) (Xy l)):=
 @Eq.mpr _ (let I:=SV.int .i64;let T:=AhD;let M:=AhQ;let A46:=(Cz l);let A45:=(0:Nat);let A44:=(140737488355328:Nat);let A34:=nat_lit 1;let A33:=nat_lit 4;let A32:=nat_lit 5;let A31:=nat_lit 0;let A20:=(1:Int);let A18:=(0:Int);let A17:=(1:Nat);let A8:=(Av l);let A7:=(∀(i:Nat),let A43:=[I (l.g i).x,I (l.g i).y];i<l.n->A43=A43);let A27:=(A7/\l.n<=1000000);let A6:=(↑l.n:Int);let A4:=[SV.sl 2 l.n fun(i:Nat)=>[I (l.g i).x,I (l.g i).y]];let A2:=(Ef l A8);let A1:=(L.Sq.mk l.n fun(i:Nat)=>l.g i);let A9:=(Av A1);let A5:=((∀(i:Nat),let A12:=(Av (L.Sq.mk l.n fun(i:Nat)=>l.g i));let A39:=[I (A12.g i).x,I (A12.g i).y];i<A12.n->A39=A39)/\A9.n<=1000);A27/\((!Am A1)=true->∃(t:Nat->AG),Eg l=A45/\(A20=bif Am l then A18 else A20)/\(Am l=true->D0 Fs A46.n A46.g t))/\((!Am A1)=false->(A7/\(2:Nat)<=l.n/\l.n<=1000/\∀(i:Nat),i<l.n->As (l.g i))/\∀(t:Nat),True->A5/\(A5/\∃(t:Nat),(0=AJ A2 A45/\∀(i:Nat),let A21:=(Ff l A8 (BI A2 A45 i));i<0 -> []= [I A21.fr,I A21.to_,I A21.area])/\A6=A6/\A45<=A8.n)/\(∀(k t_1:Nat) (vk:Nat->Go.Value),let A47:=(k+A17);let A36:=((↑k:Int)+A20);let A13:=(A9.g (T (↑k:Int)));let A35:=(AW A1 A13+A20);let A3:=(T (M A36 (↑A9.n:Int)));let A26:=(A9.g A3);k<A9.n->k<=A8.n->(A18<=A20/\A20<(↑(3:Nat):Int))/\A27/\(A18<=2/\2<(↑(3:Nat):Int))/\A27/\Ab .i64 A35/\A6≠A18/\(decide (AW A1 A26=M A35 A6)=true->∃(t':Nat),0=0/\0=0/\SV.ref A4 A31=SV.ref A4 A31/\vk A32=vk A32/\vk A33=vk A33/\vk A34=vk A34/\(AJ A2 k=AJ A2 A47/\∀(i:Nat),let A28:=(Ff l A8 (BI A2 k i));let A22:=(Ff l A8 (BI A2 A47 i));i<AJ A2 k -> [I A28.fr,I A28.to_,I A28.area]= [I A22.fr,I A22.to_,I A22.area])/\A6=A6/\k+A17<=A8.n)/\(decide (AW A1 A26=M A35 A6)=false->(A18<=AW A1 A26/\AW A1 A26<A6)/\(∃(g:Nat×Int×Int),AW A1 A26=Da l.n g.2.2 g.1/\(1=g.1+A17/\∀(i:Nat),let A40:=(l.g (T (Da l.n g.2.2 i)));let A23:=(L.Sq.mk l.n fun(i:Nat)=>l.g i);let A10:=(l.g (T (AW A23 ((Av A23).g (T (M A36 (↑(Av A23).n:Int)))))));i<1->AD [I A10.x,I A10.y] 2 i = [I A40.x,I A40.y])/\AW A1 A13=g.2.1/\AW A1 A26=g.2.2/\(A18<=g.2.1/\g.2.1<A6)/\(A18<=g.2.2/\g.2.2<A6)/\g.1<=Ft l.n g.2.1 g.2.2)/\∀(g:Nat×Int×Int),let A42:=(g.1+A17);let A25:=(!decide (Da l.n g.2.2 g.1=AW A1 A13));let A11:=(Da l.n g.2.2 g.1+A6-A20);AW A1 A13=g.2.1/\AW A1 A26=g.2.2/\(A18<=g.2.1/\g.2.1<A6)/\(A18<=g.2.2/\g.2.2<A6)/\g.1<=Ft l.n g.2.1 g.2.2->(A25=true->Ab .i64 (Da l.n g.2.2 g.1+A6)/\Ab .i64 A11/\A6≠A18/\(A18<=M A11 A6/\M A11 A6<A6)/\(g.1+A17+1)*16<=A44/\∃(g':Nat×Int×Int),M A11 A6=Da l.n g'.2.2 g'.1/\AW A1 A26=AW A1 A26/\AW A1 A13=AW A1 A13/\0=0/\0=0/\SV.ref A4 A31=SV.ref A4 A31/\vk A32=vk A32/\vk A33=vk A33/\vk A34=vk A34/\(g.1+A17+1=g'.1+A17/\∀(i:Nat),let A38:=(l.g (T (Da l.n g'.2.2 i)));i<g.1+A17+1->AH A42 (fun(j:Nat)=>let A41:=(l.g (T (Da l.n g.2.2 j)));[I A41.x,I A41.y]) (fun(x:Nat)=>[I (l.g (T (M A11 A6))).x,I (l.g (T (M A11 A6))).y]) i = [I A38.x,I A38.y])/\(AJ A2 k=AJ A2 k/\∀(i:Nat),let A16:=(Ff l A8 (BI A2 k i));let A37:=[I A16.fr,I A16.to_,I A16.area];i<AJ A2 k->A37=A37)/\A6=A6/\(AW A1 A13=g'.2.1/\AW A1 A26=g'.2.2/\(A18<=g'.2.1/\g'.2.1<A6)/\(A18<=g'.2.2/\g'.2.2<A6)/\g'.1<=Ft l.n g'.2.1 g'.2.2)/\l.n-g'.1<l.n-g.1)/\(A25=false->((∀(i:Nat),let A19:=(l.g (T (Da l.n g.2.2 i)));i<g.1+A17 -> [I A19.x,I A19.y]= [I A19.x,I A19.y])/\EN (L.Sq.mk A42 fun(i:Nat)=>l.g (T (Da l.n g.2.2 i))))/\(AJ A2 k+1)*24<=A44/\∃(t':Nat),0=0/\0=0/\SV.ref A4 A31=SV.ref A4 A31/\vk A32=vk A32/\vk A33=vk A33/\vk A34=vk A34/\(AJ A2 k+1=AJ A2 A47/\∀(i:Nat),let A24:=(Ff l A8 (BI A2 A47 i));let A15:=(L.Sq.mk l.n fun(i:Nat)=>l.g i);let A48:=(Av A15);i<AJ A2 k+1->AH (AJ A2 k) (fun(i:Nat)=>let A29:=(Ff l A8 (BI A2 k i));[I A29.fr,I A29.to_,I A29.area]) (fun(x:Nat)=>[I (AW A15 (A48.g (T (↑k:Int)))),I (AW A15 (A48.g (T (M A36 (↑A48.n:Int))))),I (BT (L.Sq.mk A42 fun(i:Nat)=>l.g (T (Da l.n g.2.2 i))) A42)]) i = [I A24.fr,I A24.to_,I A24.area])/\A6=A6/\k+A17<=A8.n)))/\∀(t:Nat),A9.n<=A8.n->∃(t:Nat×(Nat->AG)),SV.clo 84 []=SV.clo 84 []/\(AJ A2 A9.n=t.1/\∀(i:Nat),let A30:=(Av (L.Sq.mk l.n fun(i:Nat)=>l.g i));let A14:=(Ff l A8 (BI A2 A30.n i));i<AJ A2 A30.n -> [I A14.fr,I A14.to_,I A14.area]= [I (t.2 i).fr,I (t.2 i).to_,I (t.2 i).area])/\t.1<=1000000/\∀(u:Nat->AG),D0 Fs t.1 t.2 u->∃(t_1:Nat->AG),(t.1=Eg l/\∀(i:Nat),i<t.1 -> [I (u i).fr,I (u i).to_,I (u i).area]= [I (t_1 i).fr,I (t_1 i).to_,I (t_1 i).area])/\(A18=bif Am l then A18 else A20)/\(Am l=true->D0 Fs A46.n A46.g t_1))) (by kernel_rfl) (by
 conv=>zeta
 have hn:l.n<=1000000:=hp;refine⟨⟨zr,hn⟩,fun h=>?_,fun h=>?_⟩
 ·have hv:Am l=false:=by simpa using (show(!Am l)=true from h)
  unfold Eg;rw[hv];exact⟨fun _=>⟨0,0,0⟩,rfl,rfl,fun h=>(by cases h)⟩
 have hv:Am l=true:=by simpa using (show(!Am l)=false from h)
 obtain⟨n3,n24,hsm,hbd⟩:=CZ hv;have hHN:(Av l).n<=1000:=by
  have cl:∀m:L.Sq L.Pt,(B2 m).n<=m.n:=fun m=>by
   have:=J5 m m.n;show(B6 m m.n).length-1<=m.n;omega
  have c1:(B2 (AA l)).n<=l.n:=cl (AA l);have c2:(B2 (DK (AA l))).n<=l.n:=cl (DK (AA l));show 0+(B2 (AA l)).n+(B2 (DK (AA l))).n<=1000;omega
 have hck:∀k,AJ (Ef l (Av l)) k<=k:=fun k=>H0;refine⟨⟨zr,by omega,by omega,hbd.2⟩,fun t _=>⟨⟨zr,hHN⟩,⟨⟨zr,hHN⟩,(0:Nat),⟨rfl,fun i hi=>absurd hi (oE _)⟩,rfl,rH _⟩,fun k t1 vk hk hk'=>?_,fun t _=>?_⟩⟩
 ·have hk:k<(Av l).n:=hk;have e0:((k:Int)).toNat=k:=by omega
  have e1:(AhQ ((k:Int)+1) ((Av l).n:Int)).toNat=BO (Av l).n k:=rfl;have hf:=Xp (l:=l) hk;have ht:=Xp (l:=l) (k:=BO (Av l).n k) (Gm (by omega));have eF:AW l ((Av l).g k)=DU l (Av l) k:=rfl;have eT:AW l ((Av l).g (BO (Av l).n k))=Eo l (Av l) k:=rfl;rw[eF]at hf;rw[eT]at ht;rw[e0,e1,eF,eT];have hkk:=hck k;refine⟨⟨by decide,by decide⟩,⟨zr,hn⟩,⟨by decide,by decide⟩,⟨zr,hn⟩,jK,by omega,fun hc=>?_,fun hc=>?_⟩
  ·have hp:Ef l (Av l) k=false:=by unfold Ef;rw[hc];rfl
   refine⟨(0:Nat),rfl,rfl,rfl,rfl,rfl,rfl,⟨(GW hp).symm,fun i hi=>?_⟩,rfl,by omega⟩;rw[IC hp]
  have hp:Ef l (Av l) k=true:=by unfold Ef;rw[hc];rfl
  refine⟨ht,⟨(0,DU l (Av l) k,Eo l (Av l) k),(Xn ht.1 ht.2).symm,⟨rfl,fun i hi=>?_⟩,rfl,rfl,hf,ht,rH _⟩,fun g hg=>?_⟩
  ·have hi:i<1:=hi;obtain rfl:i=0:=by omega
   dsimp only;rw[Xn ht.1 ht.2];rfl
  obtain⟨j,fr,to_⟩:=g;dsimp only at hg ⊢;obtain⟨e2,e3,_,_,hj⟩:=hg;rw[<- e2,<- e3]at *;have hlen:=Xo hf.1 hf.2 ht.1 ht.2 hj;have hb:=NU (n:=l.n) (by omega) ht.1 (j:=j) (by omega);refine⟨fun hd=>?_,fun hd=>?_⟩
  ·have hd : Da l.n (Eo l (Av l) k) j≠DU l (Av l) k :=fun e =>by
    rw[decide_eq_true e]at hd;cases hd
   have hne:j≠Ft l.n (DU l (Av l) k) (Eo l (Av l) k):=fun e=>hd (hlen.1.2 e);have hs:=yL (n:=l.n) (by omega) ht.1 (j:=j) (by omega);have hb2:=NU (n:=l.n) (by omega) ht.1 (j:=j+1) (by omega);rw[hs];refine⟨jK,jK,by omega,hb2,show(j+1+1)*16<=140737488355328 by omega,(j+1,DU l (Av l) k,Eo l (Av l) k),rfl,rfl,rfl,rfl,rfl,rfl,rfl,rfl,rfl,⟨rfl,fun i hi=>?_⟩,rz,rfl,⟨rfl,rfl,hf,ht,by show j+1<=Ft l.n (DU l (Av l) k) (Eo l (Av l) k);omega⟩,by show l.n-(j+1)<l.n-j;omega⟩;have hi:i<j+1+1:=hi;unfold AH
   by_cases h':i<j+1
   ·rw[if_pos h']
   ·rw[if_neg h'];obtain rfl:i=j+1:=by omega
    rfl
  ·have hd : Da l.n (Eo l (Av l) k) j = DU l (Av l) k :=by
    apply Decidable.byContradiction;intro e;rw[decide_eq_false e]at hd;cases hd
   have hje:=hlen.1.1 hd;have hrow:(L.Sq.mk (j+1) fun(i:Nat)=>l.g (Da l.n (Eo l (Av l) k) i).toNat)=HU l (DU l (Av l) k) (Eo l (Av l) k):=by
    rw[hje];rfl
   have hj1:j+1=(HU l (DU l (Av l) k) (Eo l (Av l) k)).n:=by rw[<- hrow]
   rw[hrow,hj1];refine⟨⟨zr,yM hsm (by omega) hf.1 hf.2 ht.1 ht.2⟩,show(AJ (Ef l (Av l)) k+1)*24<=140737488355328 by omega,(0:Nat),rfl,rfl,rfl,rfl,rfl,rfl,⟨(H1 hp).symm,fun i hi=>?_⟩,rfl,by omega⟩;have hi:i<AJ (Ef l (Av l)) k+1:=hi;unfold AH
   by_cases h':i<AJ (Ef l (Av l)) k
   ·rw[if_pos h',H3 (Nat.ne_of_lt h')]
   ·rw[if_neg h'];obtain rfl:i=AJ (Ef l (Av l)) k:=by omega
    rw[HR hp];rfl
 ·have hcn:=hck (Av l).n;refine⟨((Cz l).n,(Cz l).g),rfl,rz,show AJ (Ef l (Av l)) (Av l).n<=1000000 by omega,fun u hu=>⟨u,⟨?_,fun _ _=>rfl⟩,?_,fun _=>hu⟩⟩
  ·unfold Eg;rw[hv];rfl
  ·rw[hv];rfl)
theorem X4:Az prog 40 QI:=tG func40 (c:=Ae f40) (by kernel_rfl) mixed (fun args p q r hs hp=>by
 unfold Xz at hs;split at hs
 ·cases hs;exact⟨_,_,yS _ hp.2,(.p (.sl hp.1) .nil),⟨show Aa prog _ from(Aa.cons KA KB (Aa.cons Xk Xl (Aa.cons NO NP (Aa.cons Wv Ww (Aa.cons UP UQ (Aa.cons Xt Xu Aa.nil)))))),rfl,⟨show Ac prog _ from(Ac.cons NM NN Ac.nil),⟨show DT prog _ from(DT.cons yP yQ DT.nil),⟨Gy.no1 (fun _=>rfl),FamsOk.none (fun _=>rfl)⟩⟩⟩⟩⟩
 ·cases hs)
theorem X5:An prog 40:=fun _ _=>by kernel_rfl
end
section
set_option maxRecDepth 100000
set_option maxHeartbeats 4000000
set_option linter.unusedVariables false
attribute [local irreducible] vc
end
section
set_option maxRecDepth 100000
set_option maxHeartbeats 4000000
set_option linter.unusedVariables false
attribute [local irreducible] vc
end
section
set_option maxRecDepth 100000
set_option maxHeartbeats 4000000
set_option linter.unusedVariables false
attribute [local irreducible] vc
end
section
set_option maxRecDepth 100000
set_option maxHeartbeats 4000000
set_option linter.unusedVariables false
attribute [local irreducible] vc
end
section
set_option maxRecDepth 100000
set_option maxHeartbeats 4000000
set_option linter.unusedVariables false
attribute [local irreducible] vc
def ER (x y:Int):Prop:=0<x\/(x=0/\0<y)
def Dm (x y:Int):Prop:=0<x\/(x=0/\0<=y)
theorem QJ (ux uy vx vy wx wy:Int):(ux*wy-uy*wx)*vx=(ux*vy-uy*vx)*wx+(vx*wy-vy*wx)*ux:=by grind
theorem QK {a b:Int} (hb:0<b) (h:0<a*b):0<a:=by
 rcases Int.lt_or_le 0 a with g|g
 ·exact g
 ·have:=Int.mul_nonpos_of_nonpos_of_nonneg g (AhW hb);omega
theorem X6 {ux uy vx vy wx wy:Int} (hu:Dm ux uy) (hv:ER vx vy) (hw:Dm wx wy) (h1:0<=ux*vy-uy*vx) (h2:0<=vx*wy-vy*wx):0<=ux*wy-uy*wx:=by
 have i1:=QJ ux uy vx vy wx wy;rcases hv with hv|⟨rfl,hv⟩
 ·have a1:0<=(ux*vy-uy*vx)*wx:=Aii h1 (by unfold Dm at hw;omega);have a2:0<=(vx*wy-vy*wx)*ux:=Aii h2 (by unfold Dm at hu;omega);rcases Int.lt_or_le (ux*wy-uy*wx) 0 with g|g
  ·have:=Int.mul_neg_of_neg_of_pos g hv;omega
  ·exact g
 ·have hwx : wx = 0 :=by
   rcases hw with hw|hw
   ·have:=Ai0 hv hw;rw[AiZ]at h2;omega
   ·exact hw.1
  subst hwx;have:0<=ux:=by unfold Dm at hu;omega
  have hwy:0<=wy:=by unfold Dm at hw;omega
  have:=Aii this hwy;rw[AiN];omega
theorem yT {ux uy vx vy wx wy:Int} (hu:Dm ux uy) (hv:ER vx vy) (hw:ER wx wy) (h1:0<ux*vy-uy*vx) (h2:0<=vx*wy-vy*wx):0<ux*wy-uy*wx:=by
 have i1:=QJ ux uy vx vy wx wy;rcases hv with hv|⟨rfl,hv⟩
 ·have hux:0<=ux:=by unfold Dm at hu;omega
  have a2:0<=(vx*wy-vy*wx)*ux:=Aii h2 hux;rcases hw with hw|⟨rfl,hw⟩
  ·have a1:=Ai0 h1 hw;exact QK hv (by omega)
  ·have hp:0<vx*wy:=Ai0 hv hw;rcases Int.lt_or_le 0 ux with g|g
   ·have:=Ai0 g hw;rw[AiN];omega
   ·obtain rfl:ux=0:=by omega
    have huy:0<=uy:=by unfold Dm at hu;omega
    have:=Aii huy (AhW hv);rw[AiZ]at h1;omega
 ·have hwx : wx = 0 :=by
   rcases hw with hw|hw
   ·have:=Ai0 hv hw;rw[AiZ]at h2;omega
   ·exact hw.1
  subst hwx;have hwy:0<wy:=by unfold ER at hw;omega
  have h1:0<ux*vy:=by rw[AiN]at h1;omega
  have:=Ai0 (QK hv h1) hwy;rw[AiN];omega
theorem yU {ux uy vx vy wx wy:Int} (hu:ER ux uy) (hv:ER vx vy) (hw:Dm wx wy) (h1:0<=ux*vy-uy*vx) (h2:0<vx*wy-vy*wx):0<ux*wy-uy*wx:=by
 have i1:=QJ ux uy vx vy wx wy;rcases hv with hv|⟨rfl,hv⟩
 ·have hwx:0<=wx:=by unfold Dm at hw;omega
  have a1:0<=(ux*vy-uy*vx)*wx:=Aii h1 hwx;rcases hu with hu|⟨rfl,hu⟩
  ·have a2:=Ai0 h2 hu;exact QK hv (by omega)
  ·have:=Ai0 hu hv;rw[AiZ]at h1;omega
 ·have h2:0 < - (vy*wx):=by rw[AiZ]at h2;omega
  have hwx:0<=wx:=by unfold Dm at hw;omega
  have:=Aii (AhW hv) hwx;omega
def BX (s:Int) (a b:L.Pt):Prop:=ER (s*(b.x-a.x)) (s*(b.y-a.y))
def DD (s:Int) (a b:L.Pt):Prop:=Dm (s*(b.x-a.x)) (s*(b.y-a.y))
theorem KG {s:Int} (hs:s=1\/s = -1) (a b:Int):s*a*(s*b)=a*b:=by
 rcases hs with rfl|rfl<;>grind
theorem Hb {s:Int} {a b:L.Pt} (h:BX s a b):DD s a b:=by unfold BX DD ER Dm at *;omega
theorem Mw {s:Int} {a b c:L.Pt} (h:BX s a b) (k:BX s b c):BX s a c:=by
 unfold BX ER at *;rw[show c.x-a.x=(b.x-a.x)+(c.x-b.x)by omega,show c.y-a.y=(b.y-a.y)+(c.y-b.y)by omega,AiI,AiI];omega
theorem X7 {s:Int} {a b c:L.Pt} (h:BX s a b) (k:DD s b c):BX s a c:=by
 unfold BX DD ER Dm at *;rw[show c.x-a.x=(b.x-a.x)+(c.x-b.x)by omega,show c.y-a.y=(b.y-a.y)+(c.y-b.y)by omega,AiI,AiI];omega
theorem QL {s:Int} {a b c:L.Pt} (h:DD s a b) (k:BX s b c):BX s a c:=by
 unfold BX DD ER Dm at *;rw[show c.x-a.x=(b.x-a.x)+(c.x-b.x)by omega,show c.y-a.y=(b.y-a.y)+(c.y-b.y)by omega,AiI,AiI];omega
theorem NV (s:Int) (a:L.Pt):DD s a a:=by
 unfold DD Dm;rw[Int.sub_self,Int.sub_self,AiN];omega
theorem NW {s:Int} (hs:s=1\/s = -1) {a b:L.Pt} (h:DD s a b):a=b\/BX s a b:=by
 unfold BX DD ER Dm at *;obtain⟨ax,ay⟩:=a;obtain⟨bx,by'⟩:=b;simp only[L.Pt.mk.injEq]at *;rcases hs with rfl|rfl<;>omega
theorem Mx {s:Int} {a b:L.Pt} (h:BX s a b):a≠b:=by
 rintro rfl;unfold BX ER at h;rw[Int.sub_self,Int.sub_self,AiN]at h;omega
theorem Gp {s:Int} (hs:s=1\/s = -1) (x1 y1 x2 y2:Int):s*x1*(s*y2)-s*y1*(s*x2)=x1*y2-y1*x2:=by rw[KG hs,KG hs]
theorem yV {s:Int} (hs:s=1\/s = -1) {a b c q:L.Pt} (h1:BX s a b) (h2:BX s b c) (h3:BX s b q) (ht:0<Ay a b c) (hq:0<=Ay b c q):0<Ay a b q:=by
 have:=yT (Hb h1) h2 h3 (by rw[Gp hs];unfold Ay at ht;grind) (by rw[Gp hs];exact hq);rw[Gp hs]at this;unfold Ay;grind
theorem QM {s:Int} (hs:s=1\/s = -1) {a b c q:L.Pt} (h1:BX s a b) (h2:BX s b c) (h3:BX s q b) (ht:0<Ay a b c) (hq:0<=Ay a b q):0<Ay b c q:=by
 have:=yU h3 h1 (Hb h2) (by rw[Gp hs];unfold Ay at hq;grind) (by rw[Gp hs];unfold Ay at ht;grind);rw[Gp hs]at this;unfold Ay;grind
theorem yW {s:Int} (hs:s=1\/s = -1) {a b p q:L.Pt} (h1:BX s a b) (h2:BX s b p) (h3:DD s a q) (ht:Ay a b p<=0) (hq:0<=Ay a b q):0<=Ay a p q:=by
 have:=X6 (Hb (Mw h1 h2)) h1 h3 (by rw[Gp hs];unfold Ay at ht;grind) (by rw[Gp hs];exact hq);rw[Gp hs]at this;exact this
theorem yX {s:Int} (hs:s=1\/s = -1) {a b p q:L.Pt} (h1:BX s a b) (h2:BX s b p) (h3:DD s q p) (ht:Ay a b p<=0) (hq:0<=Ay b p q):0<=Ay a p q:=by
 have:=X6 h3 h2 (Hb (Mw h1 h2)) (by rw[Gp hs];unfold Ay at hq;grind) (by rw[Gp hs];unfold Ay at ht;grind);rw[Gp hs]at this;unfold Ay;grind
def Hc (s:Int):List L.Pt->Prop
 |b::a::r=>BX s a b/\Hc s (a::r)
 |_=>True
def HV:List L.Pt->Prop
 |c::b::a::r=>0<Ay a b c/\HV (b::a::r)
 |_=>True
def IF (s:Int):List L.Pt->L.Pt->Prop
 |b::a::r,q=>(DD s a q/\DD s q b/\0<=Ay a b q)\/IF s (a::r) q
 |[a],q=>q=a
 |[],_=>False
theorem NX {b:L.Pt}:∀{r:List L.Pt},HV (b::r)->HV r
 |[],_=>trivial
 |[_],_=>trivial
 |_::_::_,h=>h.2
theorem X8 {s:Int} (hs:s=1\/s = -1) {p:L.Pt}:∀{st:List L.Pt},Hc s (p::st)->HV st->Hc s (p::CM p st)/\HV (p::CM p st)/\∀q,IF s (p::st) q->IF s (p::CM p st) q
 |[],h,_=>⟨h,trivial,fun _ h=>h⟩
 |[a],h,_=>⟨h,trivial,fun _ h=>h⟩
 |b::a::r,h,hc=>by
   obtain⟨h1,h2,h3⟩:=h;unfold CM;cases hd:decide (Ay a b p<=0)with
   |true =>
     have hd:=of_decide_eq_true hd;obtain⟨k1,k2,k3⟩:=X8 hs (p:=p) (st:=a::r) ⟨Mw h2 h1,h3⟩ (NX hc);refine⟨k1,k2,fun q hq=>k3 q ?_⟩;rcases hq with ⟨q1,q2,q3⟩|⟨q1,q2,q3⟩|hq
     ·exact .inl ⟨Hb (X7 h2 q1),q2,yX hs h2 h1 q2 hd q3⟩
     ·exact .inl ⟨q1,Hb (QL q2 h1),yW hs h2 h1 q1 hd q3⟩
     ·exact .inr hq
   |false =>
     have hd:=of_decide_eq_false hd;exact⟨⟨h1,h2,h3⟩,⟨by omega,hc⟩,fun _ h=>h⟩
theorem X9 {s:Int}:∀{st:List L.Pt} {b q:L.Pt},Hc s (b::st)->IF s (b::st) q->DD s q b
 |[],b,q,_,h=>by
   have h:q=b:=h;subst h;exact NV _ _
 |a::r,b,q,h,hq=>by
   rcases hq with hq|hq
   ·exact hq.2.1
   ·exact Hb (QL (X9 h.2 hq) h.1)
theorem yY {s:Int}:∀{st:List L.Pt} {b:L.Pt},Hc s (b::st)->IF s (b::st) b
 |[],_,_=>rfl
 |a::r,b,h=>.inl ⟨Hb h.1,NV _ _,by unfold Ay;grind⟩
theorem QN (a b:L.Pt):Ay a b b=0:=by unfold Ay;grind
theorem QO (a b:L.Pt):Ay a b a=0:=by unfold Ay;grind
def KH (s:Int) (a b q:L.Pt):Prop:=0<Ay a b q\/(Ay a b q=0/\DD s a q/\DD s q b)
def NY (s:Int):List L.Pt->L.Pt->Prop
 |b::a::r,q=>KH s a b q/\NY s (a::r) q
 |_,_=>True
theorem XA {s:Int} (hs:s=1\/s = -1) {q:L.Pt}:∀{r:List L.Pt} {a b:L.Pt},Hc s (b::a::r)->HV (b::a::r)->DD s a q->0<=Ay a b q->NY s (a::r) q
 |[],_,_,_,_,_,_=>trivial
 |c::r,a,b,h,hc,h1,h2=>by
   have key:0<Ay c a q\/q=a:=by
    rcases NW hs h1 with e|e
    ·exact .inr e.symm
    ·exact .inl (yV hs h.2.1 h.1 e hc.1 h2)
   have k0:0<=Ay c a q:=by
    rcases key with e|rfl
    ·omega
    ·rw[QN];exact Int.le_refl _
   refine⟨?_,XA hs h.2 (NX hc) (Hb (X7 h.2.1 h1)) k0⟩;rcases key with e|rfl
   ·exact .inl e
   ·exact .inr ⟨QN _ _,Hb h.2.1,NV _ _⟩
theorem XB {s:Int} (hs:s=1\/s = -1) {q:L.Pt}:∀{r:List L.Pt} {a b:L.Pt},Hc s (b::a::r)->HV (b::a::r)->IF s (a::r) q->0<Ay a b q\/q=a
 |[],_,_,_,_,h=>.inr h
 |c::r,a,b,h,hc,hq=>by
   rcases hq with ⟨h1,h2,h3⟩|hq
   ·rcases NW hs h2 with e|e
    ·exact .inr e
    ·exact .inl (QM hs h.2.1 h.1 e hc.1 h3)
   ·have hle:=X9 h.2.2 hq;have hlt:=QL hle h.2.1;rcases XB hs h.2 (NX hc) hq with e|e
    ·exact .inl (QM hs h.2.1 h.1 hlt hc.1 (AhW e))
    ·refine .inl (QM hs h.2.1 h.1 hlt hc.1 ?_);rw[e,QO];exact Int.le_refl _
theorem XC {s:Int} (hs:s=1\/s = -1) {q:L.Pt}:∀{st:List L.Pt},Hc s st->HV st->IF s st q->NY s st q
 |[],_,_,_=>trivial
 |[_],_,_,_=>trivial
 |b::a::r,h,hc,hq=>by
   rcases hq with ⟨h1,h2,h3⟩|hq
   ·refine⟨?_,XA hs h hc h1 h3⟩;rcases AiQ h3 with e|e
    ·exact .inl e
    ·exact .inr ⟨e.symm,h1,h2⟩
   ·refine⟨?_,XC hs h.2 (NX hc) hq⟩;rcases XB hs h hc hq with e|rfl
    ·exact .inl e
    ·exact .inr ⟨QO _ _,NV _ _,Hb h.1⟩
theorem XD {a b:Int} (h0:0<=a) (h:a<b):a*a<b*b:=by
 have h1:a*a<=a*b:=Int.mul_le_mul_of_nonneg_left (by omega) h0;have h2:a*b<b*b:=Int.mul_lt_mul_of_pos_right h (by omega);omega
theorem yZ (a:Int):((a.natAbs:Int))*(a.natAbs:Int)=a*a:=by
 have:=Int.natAbs_mul_self (a:=a);rw[<- Int.natCast_mul];exact_mod_cast this
theorem zA {vx vy ux uy:Int} (hv:ER vx vy) (hu:Dm ux uy) (hw:Dm (vx-ux) (vy-uy)) (h:vx*uy-vy*ux=0):(ux=vx/\uy=vy)\/ux*ux+uy*uy<vx*vx+vy*vy:=by
 rcases hv with hv|⟨rfl,hv⟩
 ·have h0:0<=ux:=by unfold Dm at hu;omega
  have h1:ux<=vx:=by unfold Dm at hw;omega
  rcases AiQ h1 with g|g
  ·right;have s1:=XD h0 g;have e:vx*uy=vy*ux:=by omega
   have e2:(vx*vx)*(uy*uy)=(ux*ux)*(vy*vy):=by
    have:(vx*uy)*(vx*uy)=(vy*ux)*(vy*ux):=by rw[e]
    grind
   have l1:(ux*ux)*(vy*vy)<=(vx*vx)*(vy*vy):=Int.mul_le_mul_of_nonneg_right (AhW s1) (by have:=yZ vy;have:=Aii (AhN vy.natAbs) (AhN vy.natAbs);omega);have l2:uy*uy<=vy*vy:=Int.le_of_mul_le_mul_left (by rw[e2];exact l1) (Ai0 hv hv);omega
  ·subst g;left;refine⟨rfl,?_⟩;have:ux*uy=ux*vy:=by rw[Int.mul_comm ux vy];omega
   exact Int.eq_of_mul_eq_mul_left (by omega) this
 ·have h0:ux=0:=by unfold Dm at hu hw;omega
  subst h0;have h1:0<=uy:=by unfold Dm at hu;omega
  have h2:uy<=vy:=by unfold Dm at hw;omega
  rcases AiQ h2 with g|g
  ·right;have:=XD h1 g;omega
  ·exact .inl ⟨rfl,g⟩
theorem zB {s:Int} (hs:s=1\/s = -1) {a t q:L.Pt} (h1:BX s a t) (h2:DD s a q) (h3:DD s q t) (h:Ay a t q=0):q=t\/DB a q<DB a t:=by
 have hw:Dm (s*(t.x-a.x)-s*(q.x-a.x)) (s*(t.y-a.y)-s*(q.y-a.y)):=by
  have:Dm (s*(t.x-q.x)) (s*(t.y-q.y)):=h3;rw[<- Int.mul_sub,<- Int.mul_sub,show t.x-a.x-(q.x-a.x)=t.x-q.x by omega,show t.y-a.y-(q.y-a.y)=t.y-q.y by omega];exact this
 have:=zA h1 h2 hw (by rw[Gp hs];exact h);rw[KG hs,KG hs,KG hs,KG hs]at this;rcases this with ⟨e1,e2⟩|e
 ·left;obtain⟨tx,ty⟩:=t;obtain⟨qx,qy⟩:=q;simp only[L.Pt.mk.injEq]at *;rcases hs with rfl|rfl<;>omega
 ·right;unfold DB;grind
def FC (f t q:L.Pt):Bool:=bif (bif decide (t.x=f.x)then decide (t.y=f.y)else false)then true else bif decide (Ay f t q<0)then true else bif decide (Ay f t q=0)then decide (DB f t<DB f q)else false
def C0 (g:Nat->L.Pt) (f:L.Pt):Nat->L.Pt
 |0=>f
 |i+1=>bif FC f (C0 g f i) (g i)then g i else C0 g f i
theorem zC {f t q:L.Pt} (h:t=f\/Ay f t q<0\/(Ay f t q=0/\DB f t<DB f q)):FC f t q=true:=by
 unfold FC;rcases h with rfl|h|⟨h1,h2⟩
 ·simp
 ·cases(bif decide (t.x=f.x)then decide (t.y=f.y)else false)
  ·rw[decide_eq_true h];rfl
  ·rfl
 ·cases(bif decide (t.x=f.x)then decide (t.y=f.y)else false)
  ·rw[decide_eq_false (show ¬ Ay f t q<0 by omega),decide_eq_true h1,decide_eq_true h2];rfl
  ·rfl
theorem zD {f t q:L.Pt} (h0:t≠f) (h1:0<=Ay f t q) (h2:Ay f t q=0->¬ DB f t<DB f q):FC f t q=false:=by
 unfold FC;have e:(bif decide (t.x=f.x)then decide (t.y=f.y)else false)=false:=by
  obtain⟨tx,ty⟩:=t;obtain⟨fx,fy⟩:=f
  by_cases h:tx=fx
  ·have:ty≠fy:=fun e=>h0 (by rw[h,e]);simp[h,this]
  ·simp[h]
 rw[e,decide_eq_false (show ¬ Ay f t q<0 by omega)]
 by_cases h:Ay f t q=0
 ·rw[decide_eq_true h,decide_eq_false (h2 h)];rfl
 ·rw[decide_eq_false h];rfl
theorem zF (a b c:L.Pt):Ay a b c = - Ay a c b:=by unfold Ay;grind
theorem zG {g:Nat->L.Pt} {n:Nat} {f t:L.Pt} (hne:t≠f) (hin:∃i,i<n/\g i=t) (h:∀i,i<n->0<=Ay f t (g i)/\(Ay f t (g i)=0->g i=t\/DB f (g i)<DB f t)):C0 g f n=t:=by
 obtain⟨j,hj,hjt⟩:=hin;have PS:∀i,i<=n->C0 g f i=f\/∃k,k<n/\C0 g f i=g k:=fun i=>by
  induction i with
  |zero=>exact fun _=>.inl rfl
  |succ i ih =>
    intro hi;unfold C0;cases FC f (C0 g f i) (g i)with
    |true=>exact .inr ⟨i,by omega,rfl⟩
    |false=>exact ih (by omega)
 have PQ:∀d,j+1+d<=n->C0 g f (j+1+d)=t:=fun d=>by
  induction d with
  |zero =>
    intro _;show(bif FC f (C0 g f j) (g j)then g j else C0 g f j)=t
    by_cases e:C0 g f j=t
    ·rw[e,hjt];cases FC f t t<;>rfl
    ·have : FC f (C0 g f j) (g j)= true :=by
      rw[hjt];refine zC ?_;rcases PS j (by omega)with e2|⟨k,hk,e2⟩
      ·exact .inl e2
      ·right;obtain⟨h1,h2⟩:=h k hk;rw[<- e2]at h1 h2;rw[zF];rcases AiQ h1 with g1|g1
       ·left;omega
       ·rcases h2 g1.symm with g2|g2
        ·exact absurd g2 e
        ·right;exact⟨by omega,g2⟩
     rw[this];exact hjt
  |succ d ih =>
    intro hd;show(bif FC f (C0 g f (j+1+d)) (g (j+1+d))then g (j+1+d)else C0 g f (j+1+d))=t;rw[ih (by omega)];obtain⟨h1,h2⟩:=h (j+1+d) (by omega);have h3:=zD hne h1 (fun e=>(h2 e).elim (fun g2=>by rw[g2];omega) (fun g2=>by omega));rw[h3];rfl
 have:=PQ (n-(j+1)) (by omega);rwa[show j+1+(n-(j+1))=n by omega]at this
def G9 (g:Nat->L.Pt) (n:Nat) (f:L.Pt):Nat->L.Pt
 |0=>f
 |k+1=>C0 g (G9 g n f k) n
theorem zH {g:Nat->L.Pt} {n m:Nat} {H:Nat->L.Pt} (hm:0<m) (hin:∀k,k<m->∃i,i<n/\g i=H k) (hne:∀k,k<m->H (if k+1=m then 0 else k+1)≠H k)
  (he:∀k,k<m->∀i,i<n->0<=Ay (H k) (H (if k+1=m then 0 else k+1)) (g i)/\(Ay (H k) (H (if k+1=m then 0 else k+1)) (g i)=0->g i=H (if k+1=m then 0 else k+1)\/DB (H k) (g i)<DB (H k) (H (if k+1=m then 0 else k+1)))) :
  (∀k,k<m->G9 g n (H 0) k=H k)/\G9 g n (H 0) m=H 0:=by
 have step:∀k,k<m->G9 g n (H 0) k=H k->G9 g n (H 0) (k+1)=H (if k+1=m then 0 else k+1):=fun k hk e=>by
  show C0 g (G9 g n (H 0) k) n=_;rw[e];exact zG (hne k hk) (hin _ (by split<;>omega)) (he k hk)
 have all:∀k,k<m->G9 g n (H 0) k=H k:=fun k=>by
  induction k with
  |zero=>exact fun _=>rfl
  |succ k ih =>
    intro hk;rw[step k (by omega) (ih (by omega)),if_neg (by omega)]
 refine⟨all,?_⟩;obtain⟨k,rfl⟩:∃k,m=k+1:=⟨m-1,by omega⟩;rw[step k (by omega) (all k (by omega)),if_pos rfl]
def J6 (a:L.Pt):List L.Pt->Prop
 |[]=>False
 |[b]=>b=a
 |_::b::r=>J6 a (b::r)
theorem XE {a p:L.Pt}:∀{st:List L.Pt},J6 a st->J6 a (CM p st)
 |[b],h=>h
 |c::b::r,h=>by
   unfold CM;cases decide (Ay b c p<=0)with
   |true=>exact XE (st:=b::r) h
   |false=>exact h
theorem zI {a p:L.Pt}:∀{st:List L.Pt},J6 a st->J6 a (p::st)
 |_::_,h=>h
theorem XF {a:L.Pt}:∀{st:List L.Pt},J6 a st->BU st 0=a/\1<=st.length
 |[b],h=>⟨h,Ah0 _⟩
 |c::b::r,h=>by
   have ih:=XF (st:=b::r) h;refine⟨?_,AiH (rH _)⟩;rw[<- ih.1];unfold BU;show(c::b::r).getD (r.length+1+1-1-0) ⟨0,0⟩=(b::r).getD (r.length+1-1-0) ⟨0,0⟩;rw[show r.length+1+1-1-0=(r.length+1-1-0)+1 by omega];rfl
structure zJ (s:Int) (g:Nat->L.Pt) (k:Nat) (st:List L.Pt):Prop where
 asc:Hc s st
 cvx:HV st
 ab:∀i,i<k->IF s st (g i)
 top:∃r,st=g (k-1)::r
 bot:J6 (g 0) st
theorem XG {s:Int} (hs:s=1\/s = -1) {l:L.Sq L.Pt} (h:∀i j,i<j->j<l.n->BX s (l.g i) (l.g j)):∀k,1<=k->k<=l.n->zJ s l.g k (B6 l k)
 |1, _, _ =>⟨trivial, trivial, fun i hi =>by
  obtain rfl:i=0:=by omega
  rfl,⟨[],rfl⟩,rfl⟩
 |k+2,_,hk=>by
   have ih:=XG hs h (k+1) (by omega) (by omega);obtain⟨r,hr⟩:=ih.top;have hr:B6 l (k+1)=l.g k::r:=hr;have h1:Hc s (l.g (k+1)::B6 l (k+1)):=by
    have:=ih.asc;rw[hr]at this ⊢;exact⟨h k (k+1) (by omega) (by omega),this⟩
   obtain⟨p1,p2,p3⟩:=X8 hs h1 ih.cvx;refine⟨p1,p2,fun i hi=>?_,⟨_,rfl⟩,zI (XE ih.bot)⟩
   by_cases hik:i=k+1
   ·subst hik;exact yY p1
   ·refine p3 _ ?_;have:=ih.ab i (by omega);rw[hr]at this ⊢;exact .inr this
theorem XH {s:Int}:∀{st:List L.Pt},Hc s st->∀i,i+1<st.length->BX s (st.getD (i+1) ⟨0,0⟩) (st.getD i ⟨0,0⟩)
 |_::_::_,h,0,_=>h.1
 |b::a::r,h,i+1,hi=>XH (st:=a::r) h.2 i (by simpa using hi)
 |[_],_,_,hi=>by simp at hi
 |[],_,_,hi=>by simp at hi
theorem XI {s:Int} {q:L.Pt}:∀{st:List L.Pt},NY s st q->∀i,i+1<st.length->KH s (st.getD (i+1) ⟨0,0⟩) (st.getD i ⟨0,0⟩) q
 |_::_::_,h,0,_=>h.1
 |b::a::r,h,i+1,hi=>XI (st:=a::r) h.2 i (by simpa using hi)
 |[_],_,_,hi=>by simp at hi
 |[],_,_,hi=>by simp at hi
structure NZ (s:Int) (l:L.Sq L.Pt) (c:Nat) (F:Nat->L.Pt):Prop where
 c1:1<=c
 f0:F 0=l.g 0
 fc:F c=l.g (l.n-1)
 up:∀k,k<c->BX s (F k) (F (k+1))
 lf:∀k,k<c->∀i,i<l.n->KH s (F k) (F (k+1)) (l.g i)
 mem:∀k,k<=c->∃i,i<l.n/\l.g i=F k
theorem XJ {l:L.Sq L.Pt} {q:L.Pt}:∀{k},q∈B6 l k->∃i,i<k/\l.g i=q
 |0,h=>nomatch h
 |k+1,h=>by
   have pm:∀{st:List L.Pt} {p q:L.Pt},q∈CM p st->q∈st:=fun {st}=>by
    induction st with
    |nil=>exact fun h=>h
    |cons b r ih =>
      intro p q h;cases r with
      |nil=>exact h
      |cons a r =>
        unfold CM at h;cases hd:decide (Ay a b p<=0)with
        |true=>rw[hd]at h;exact AhL _ (ih h)
        |false=>rw[hd]at h;exact h
   rcases Ah4.1 h with rfl|h
   ·exact⟨k,Aiu _,rfl⟩
   ·obtain⟨i,hi,e⟩:=XJ (pm h);exact⟨i,Nat.lt_succ_of_lt hi,e⟩
theorem XK {s:Int} (hs:s=1\/s = -1) {l:L.Sq L.Pt} (h2:2<=l.n) (h:∀i j,i<j->j<l.n->BX s (l.g i) (l.g j)):NZ s l ((B6 l l.n).length-1) (BU (B6 l l.n)):=by
 have C:=XG hs h l.n (by omega) (Ah0 _);generalize hst:B6 l l.n=st at C;obtain⟨r,hr⟩:=C.top;obtain⟨b1,b2⟩:=XF C.bot;have hlen:2<=st.length:=by
  rcases Nat.lt_or_ge 1 st.length with g|g
  ·exact g
  ·have hr0:r = []:=List.eq_nil_of_length_eq_zero (by rw[hr]at g;simpa using g);have:=C.bot;rw[hr,hr0]at this;exact absurd this.symm (Mx (h 0 (l.n-1) (by omega) (by omega)))
 have idx:∀k,k<st.length-1->BU st k=st.getD (st.length-1-(k+1)+1) ⟨0,0⟩/\BU st (k+1)=st.getD (st.length-1-(k+1)) ⟨0,0⟩:=fun k hk=>by
  refine⟨?_,rfl⟩;unfold BU;rw[show st.length-1-k=st.length-1-(k+1)+1 by omega]
 refine⟨by omega,b1,?_,fun k hk=>?_,fun k hk i hi=>?_,fun k hk=>?_⟩
 ·unfold BU;rw[Nat.sub_self,hr];rfl
 ·rw[(idx k hk).1,(idx k hk).2];exact XH C.asc _ (by omega)
 ·rw[(idx k hk).1,(idx k hk).2];exact XI (XC hs C.asc C.cvx (C.ab i hi)) _ (by omega)
 ·refine XJ (k:=l.n) ?_;rw[hst];unfold BU;rw[AS,Ahz (by omega)];exact AhX _
theorem QP {s:Int} {l:L.Sq L.Pt} {c:Nat} {F:Nat->L.Pt} (H:NZ s l c F):∀{i j},i<j->j<=c->BX s (F i) (F j)
 |i,j+1,h,hj=>by
   rcases Ah6.1 h with g|g
   ·exact Mw (QP H g (by omega)) (H.up j (by omega))
   ·subst g;exact H.up i (by omega)
theorem XL {s:Int} (hs:s=1\/s = -1) {a b q:L.Pt} (hab:BX s a b) (h:KH s a b q):0<=Ay a b q/\(Ay a b q=0->q=b\/DB a q<DB a b):=by
 rcases h with h|⟨h1,h2,h3⟩
 ·exact⟨by omega,fun e=>by omega⟩
 ·exact⟨by omega,fun _=>zB hs hab h2 h3 h1⟩
theorem zK {l:L.Sq L.Pt} {c1 c2:Nat} {F1 F2:Nat->L.Pt} (h2:2<=l.n) (A:NZ 1 l c1 F1) (B:NZ (-1) ⟨l.n,fun k=>l.g (l.n-1-k)⟩ c2 F2) {g:Nat->L.Pt} {n:Nat}
  (hg:∀i,i<n->∃j,j<l.n/\l.g j=g i) (hl:∀j,j<l.n->∃i,i<n/\g i=l.g j) :
  (∀k,k<c1+c2->G9 g n (l.g 0) k=(if k<c1 then F1 k else F2 (k-c1)))/\G9 g n (l.g 0) (c1+c2)=l.g 0/\∀k,0<k->k<c1+c2->(if k<c1 then F1 k else F2 (k-c1))≠l.g 0:=by
 have a1:=A.c1;have b1:=B.c1;have e1:F1 c1=F2 0:=by rw[A.fc,B.f0];show _=l.g (l.n-1-0);rfl
 have e2:F2 c2=F1 0:=by rw[A.f0,B.fc];show l.g (l.n-1-(l.n-1))=_;rw[Nat.sub_self]
 have mB:∀k,k<=c2->∃i,i<l.n/\l.g i=F2 k:=fun k hk=>by
  obtain⟨i,hi,e⟩:=B.mem k hk;exact⟨l.n-1-i,by have:i<l.n:=hi;omega,e⟩
 have lB:∀k,k<c2->∀i,i<l.n->KH (-1) (F2 k) (F2 (k+1)) (l.g i):=fun k hk i hi=>by
  have:=B.lf k hk (l.n-1-i) (show _<l.n by omega);have this:KH (-1) (F2 k) (F2 (k+1)) (l.g (l.n-1-(l.n-1-i))):=this;rwa[show l.n-1-(l.n-1-i)=i by omega]at this
 -- the edge at k
 have ed : ∀k, k<c1+c2->(∃j, j<c1/\(if k<c1 then F1 k else F2 (k-c1))= F1 j/\(if (if k+1 = c1+c2 then 0 else k+1)<c1 then F1 (if k+1 = c1+c2 then 0 else k+1)else F2 ((if k+1 = c1+c2 then 0 else k+1)-c1))= F1 (j+1)) \/
   (∃j,j<c2/\(if k<c1 then F1 k else F2 (k-c1))=F2 j/\(if (if k+1=c1+c2 then 0 else k+1)<c1 then F1 (if k+1=c1+c2 then 0 else k+1)else F2 ((if k+1=c1+c2 then 0 else k+1)-c1))=F2 (j+1)):=fun k hk=>by
  by_cases h:k<c1
  ·refine .inl ⟨k,h,if_pos h,?_⟩;rw[if_neg (show ¬ k+1=c1+c2 by omega)]
   by_cases h':k+1<c1
   ·rw[if_pos h']
   ·rw[if_neg h',show k+1=c1 by omega,Nat.sub_self,e1]
  ·refine .inr ⟨k-c1,by omega,if_neg h,?_⟩
   by_cases h':k+1=c1+c2
   ·rw[if_pos h',if_pos (show 0<c1 by omega),show k-c1+1=c2 by omega,e2]
   ·rw[if_neg h',if_neg (show ¬ k+1<c1 by omega),show k+1-c1=k-c1+1 by omega]
 have key:=zH (g:=g) (n:=n) (m:=c1+c2) (H:=fun k=>if k<c1 then F1 k else F2 (k-c1)) (by omega) (fun k hk=>?_) (fun k hk=>?_) (fun k hk i hi=>?_)
 ·have h0 : (if 0<c1 then F1 0 else F2 (0-c1))= l.g 0 :=by
   rw[if_pos (by omega),A.f0]
  rw[h0]at key;refine⟨key.1,key.2,fun k hk0 hk=>?_⟩
  by_cases h:k<c1
  ·rw[if_pos h,<- A.f0];exact(Mx (QP A hk0 (by omega))).symm
  ·rw[if_neg h,<- A.f0,<- e2];exact Mx (QP B (show k-c1<c2 by omega) (Ah0 _))
 ·have : ∃i, i<l.n/\l.g i = (if k<c1 then F1 k else F2 (k-c1)):=by
   split
   ·exact A.mem k (by omega)
   ·exact mB _ (by omega)
  obtain⟨i,hi,e⟩:=this;obtain⟨j,hj,e'⟩:=hl i hi;exact⟨j,hj,e'.trans e⟩
 ·rcases ed k hk with ⟨j,hj,p,q⟩|⟨j,hj,p,q⟩
  ·rw[p,q];exact(Mx (A.up j hj)).symm
  ·rw[p,q];exact(Mx (B.up j hj)).symm
 ·obtain⟨j',hj',e'⟩:=hg i hi;rcases ed k hk with ⟨j,hj,p,q⟩|⟨j,hj,p,q⟩
  ·rw[p,q,<- e'];exact XL (.inl rfl) (A.up j hj) (A.lf j hj _ hj')
  ·rw[p,q,<- e'];exact XL (.inr rfl) (B.up j hj) (lB j hj _ hj')
end
end Go.Proofs.YtdkpcdlnfobnnaaGreat
