/- A symbolic walk over the model, and what it shows of functions of the program: parts of the proof that the text of the row joins. -/
import Derived.Test.YtdkpcdlnfobnnaaGreatE4
import Derived.KernelRfl
import Derived.Test.YtdkpcdlnfobnnaaGreatProg
import Derived.Test.YtdkpcdlnfobnnaaGreatE5
open List renaming getD_eq_getElem?_getD->AS,getElem?_eq_getElem->rH,mem_cons->Adq,mem_cons_of_mem->Adr,map->Ad9,getElem_mem->AdC,length_cons->Aeg,pairwise_cons->Aes
open Nat renaming not_lt_zero->oE,le_refl->Adp,zero_le->Ads,lt_succ_iff_lt_or_eq->Ad1,lt_succ_self->Ae3,succ_le_succ->Ae6
open Bool renaming and_eq_true->pR
open Int renaming toNat->Ad6,tmod_eq_emod_of_nonneg->AdA,tmod->AdF,natCast_nonneg->AdG,le_of_lt->AdP,emod_eq_of_lt->AdV,mul_nonneg->AdZ,add_emod_right->Aef,tmod_lt_of_pos->Aen,mul_pos->Aex,tmod_nonneg->Ae0,mul_add->Ae7,mul_zero->Ae9,lt_or_eq_of_le->AeD,zero_mul->AeJ
namespace Go.Proofs.YtdkpcdlnfobnnaaGreat
open Go.SE Go.RowKit
namespace L
structure Pt where
 x:Int
 y:Int
structure Sq (α:Type) where
 n:Nat
 g:Nat->α
end L
namespace R
end R
def DG:List SV->Int
 |[.int _ n]=>n
 |_=>0
def mR:List SV->Bool
 |[.bool b]=>b
 |_=>false
def Ai:List SV->L.Pt
 |[.int _ x,.int _ y]=>⟨x,y⟩
 |_=>⟨0,0⟩
def CG:Nat->(Nat->Bool)->Bool
 |0,_=>true
 |n+1,f=>CG n f&&f n
theorem Dk {f:Nat->Bool}:∀{n:Nat},CG n f=true↔∀i,i<n->f i=true
 |0=>by simp[CG]
 |n+1=>by
   simp only[CG,pR,Dk (n:=n)];constructor
   ·rintro⟨h,k⟩ i hi;rcases Ad1.1 hi with hi|rfl
    ·exact h i hi
    ·exact k
   ·exact fun h=>⟨fun i hi=>h i (by omega),h n (by omega)⟩
theorem Hw {f:Nat->Bool} {n i:Nat} (hi:i<n) (h:f i=false):CG n f=false:=by
 cases hb:CG n f with
 |false=>rfl
 |true=>rw[Dk.1 hb i hi]at h;cases h
theorem D4 {a b:Int} {m n:Int} (h1 : -m<=a) (h2:a<=m) (h3 : -n<=b) (h4:b<=n): -(m*n)<=a*b/\a*b<=m*n:=by
 have hm:0<=m:=by omega
 have hn:0<=n:=by omega
 have e1:=AdZ (show 0<=m-a by omega) (show 0<=n-b by omega);have e2:=AdZ (show 0<=m+a by omega) (show 0<=n+b by omega);have e3:=AdZ (show 0<=m-a by omega) (show 0<=n+b by omega);have e4:=AdZ (show 0<=m+a by omega) (show 0<=n-b by omega);simp only[Int.sub_mul,Int.mul_sub,Int.add_mul,Ae7]at e1 e2 e3 e4;omega
def Bi (p:B1) (xs:List SV):Bool:=mR [p.res xs]
theorem JO {p:B1} (h:EN p) {xs:List SV} (hp:p.pre xs):p.res xs=.bool (Bi p xs):=by
 obtain⟨b,hb⟩:=h xs hp;rw[hb,Bi,hb];rfl
theorem mixed:Tryz.prog.follows .mixedOrders=true:=by kernel_rfl
theorem Ac.of {n:Int} (h : -9223372036854775808<=n) (k:n<=9223372036854775807):Ac .i64 n:=⟨h,k⟩
theorem jK {n:Int} (h : -9223372036854775808<=n:=by omega) (k:n<=9223372036854775807:=by omega):Ac .i64 n:=⟨h,k⟩
def cC:Aj:={ muts:=[],frz:=BH [],specs:=AF [],loops:=AY [],iters:=B6 [],rfs:=AU [],nils:=BD [] }
section
set_option maxRecDepth 100000
set_option maxHeartbeats 4000000
set_option linter.unusedVariables false
attribute [local irreducible] vc
def AG (n a b:Int):Bool:=decide (a<=n)&&decide (n<=b)
def T4 (n:Int) (a:Int) (b:Int):Prop:=True
def T5 (n:Int) (a:Int) (b:Int):SV:=.bool (AG n a b)
def T6:List EV->Option (Prop×SV)
 |[.p (.int .i64 n),.p (.int .i64 a),.p (.int .i64 b)]=>some (T4 n a b,T5 n a b)
 |_=>none
abbrev Nb:SE.Spec:=(AM T6)
def mS:Aj:={ muts:=[],frz:=BH [],specs:=AF [],loops:=AY [],iters:=B6 [],rfs:=AU [],nils:=BD [] }
theorem mT (n:Int) (a:Int) (b:Int) (hp:T4 n a b):vc Tryz.prog (mS) (Af Tryz.f73) (Ar Tryz.f73 [.p (.int .i64 n),.p (.int .i64 a),.p (.int .i64 b)]) (AL Tryz.prog Tryz.f73 (T5 n a b)):=
 @Eq.mpr _ ((bif decide (a<=n)then decide (n<=b)else false)=AG n a b) (by kernel_rfl) (by
 grind [AG])
theorem Pq:AB Tryz.prog 73 Nb:=AP Tryz.func73 (c:=Af Tryz.f73) (by kernel_rfl) mixed (fun args p r hs hp=>by
 unfold T6 at hs;split at hs
 ·cases hs;exact⟨_,_,mT _ _ _ hp,(.same _ (.same _ (.same _ .nil))),⟨show Aa Tryz.prog _ from Aa.nil,rfl,⟨show Ae Tryz.prog _ from Ae.nil,(AC.none (fun _=>rfl))⟩⟩⟩
 ·cases hs)
theorem Pr:Ao Tryz.prog 73:=fun args w=>by kernel_rfl
end
section
set_option maxRecDepth 100000
set_option maxHeartbeats 4000000
set_option linter.unusedVariables false
attribute [local irreducible] vc
def Eg (n k:Nat):Nat:=(AdF ((k:Int)+(n:Int)-1) (n:Int)).toNat
def BE (n k:Nat):Nat:=(AdF ((k:Int)+1) (n:Int)).toNat
def B7 (l:L.Sq L.Pt):Nat->Int
 |0=>0
 |k+1=>B7 l k+((l.g k).x*(l.g (BE l.n k)).y-(l.g (BE l.n k)).x*(l.g k).y)
theorem GW {n k:Nat} (h:0<n):BE n k<n:=by
 have t3:=Ae0 (n:Int) (show 0<=(k:Int)+1 by omega);have t4:=Aen ((k:Int)+1) (show 0<(n:Int)by omega);unfold BE;omega
def Ep (l:L.Sq L.Pt):Prop:=l.n<=1000/\∀i,i<l.n -> -4000000<=(l.g i).x/\(l.g i).x<=4000000 /\ -4000000<=(l.g i).y/\(l.g i).y<=4000000
theorem Ps {l:L.Sq L.Pt} (h:Ep l) {k:Nat} (hk:k<l.n):(-16000000000000<=(l.g k).x*(l.g (BE l.n k)).y/\(l.g k).x*(l.g (BE l.n k)).y<=16000000000000)/\(-16000000000000<=(l.g (BE l.n k)).x*(l.g k).y/\(l.g (BE l.n k)).x*(l.g k).y<=16000000000000):=by
 have h1:=h.2 k hk;have h2:=h.2 _ (GW (n:=l.n) (k:=k) (by omega));have m1:=D4 (m:=4000000) (n:=4000000) h1.1 h1.2.1 h2.2.2.1 h2.2.2.2;have m2:=D4 (m:=4000000) (n:=4000000) h2.1 h2.2.1 h1.2.2.1 h1.2.2.2;omega
theorem Nc {l:L.Sq L.Pt} (h:Ep l):∀k,k<=l.n -> -(32000000000000*(k:Int))<=B7 l k/\B7 l k<=32000000000000*(k:Int)
 |0,_=>by simp[B7]
 |k+1,hk=>by
   have ih:=Nc h k (by omega);have t:=Ps h (k:=k) (by omega);simp only[B7];omega
def T7 (l:(L.Sq L.Pt)):Prop:=l.n<=1000
def Pu (l:(L.Sq L.Pt)):Nat:=l.n
def T8 (l:(L.Sq L.Pt)):Nat->List SV:=fun k=>[.int .i64 (k:Int),.agg [.int .i64 (l.g (AdF ((k:Int)+(l.n:Int)-1) (l.n:Int)).toNat).x,.int .i64 (l.g (AdF ((k:Int)+(l.n:Int)-1) (l.n:Int)).toNat).y,.int .i64 (l.g (k:Int).toNat).x,.int .i64 (l.g (k:Int).toNat).y,.int .i64 (l.g (AdF ((k:Int)+1) (l.n:Int)).toNat).x,.int .i64 (l.g (AdF ((k:Int)+1) (l.n:Int)).toNat).y]]
def T9:List SV->Option (Prop×Nat×(Nat->List SV))
 |[.ref [.sl 2 l_n l_g] 0]=>some ((∀i,i<l_n->l_g i = [.int .i64 ((Ai (l_g i)).x),.int .i64 ((Ai (l_g i)).y)])/\T7 (⟨l_n,fun i=>Ai (l_g i)⟩:(L.Sq L.Pt)),Pu (⟨l_n,fun i=>Ai (l_g i)⟩:(L.Sq L.Pt)),T8 (⟨l_n,fun i=>Ai (l_g i)⟩:(L.Sq L.Pt)))
 |_=>none
abbrev Lw:F0:=JM T9
def mU:Aj:={ muts:=[],frz:=BH [],specs:=AF [],loops:=fun _=>none,iters:=B6 [],rfs:=AU [] }
theorem mV (yl:Nat) (l:(L.Sq L.Pt)) (hp:T7 l):vc Tryz.prog { mU with loops:=AY [(1,{ T:=Nat,keep:=[0,1,5,6],keepO:=[],chg:=fun i=>[(7,.p (.int .i64 (i:Int)))],own:=fun _=>[],inv:=fun i=>i<=l.n,mu:=fun i=>l.n-i,yk:=some (fun i=>i) })],yld:=some ⟨yl,Pu l,T8 l⟩ } (Af Tryz.f122) (Ar Tryz.f122 (.yield yl::([.ref [.sl 2 l.n (fun i=>[.int .i64 ((l.g i).x),.int .i64 ((l.g i).y)])] 0]:List SV).map .p)) (JL Tryz.prog Tryz.f122 (Pu l)):=
 @Eq.mpr _ (let I:=SV.int .i64;let T:=Ad6;let M:=AdF;let A9:=(0:Int);let A6:=(1:Nat);let A5:=[SV.sl (nat_lit 2) l.n fun(i:Nat)=>[I (l.g i).x,I (l.g i).y]];let A4:=(1:Int);let A2:=(↑l.n:Int);(∃(g:Nat),nat_lit 0=g/\false=false/\A9=(↑g:Int)/\g<=l.n)/\∀(g:Nat),let A3:=(↑g:Int);let A8:=(A3+A4);let A7:=(A3+A2-A4);let A1:=[I A3,SV.agg [I (l.g (T (M A7 A2))).x,I (l.g (T (M A7 A2))).y,I (l.g (T A3)).x,I (l.g (T A3)).y,I (l.g (T (M A8 A2))).x,I (l.g (T (M A8 A2))).y]];g<=l.n->(decide (A3<A2)=true->(A9<=A3/\A3<A2)/\Ac .i64 (A3+A2)/\Ac .i64 A7/\A2≠A9/\(A9<=M A7 A2/\M A7 A2<A2)/\Ac .i64 A8/\A2≠A9/\(A9<=M A8 A2/\M A8 A2<A2)/\yl=yl/\g<l.n/\A1=A1/\((false=true->g+A6=l.n\/g+A6=l.n+A6)/\(false=false->Ac .i64 A8/\∃(g':Nat),g+A6=g'/\false=false/\A3+A4=(↑g':Int)/\A2=A2/\(l.n=l.n/\∀(i:Nat),let A10:=[I (l.g i).x,I (l.g i).y];i<l.n->A10=A10)/\yl=yl/\SV.ref A5 (nat_lit 0)=SV.ref A5 (nat_lit 0)/\g'<=l.n/\l.n-g'<l.n-g))/\(true=true->l.n+A6=l.n\/l.n+A6=l.n+A6)/\(true=false->Ac .i64 A8/\∃(g':Nat),l.n+A6=g'/\false=false/\A3+A4=(↑g':Int)/\A2=A2/\False/\yl=yl/\False/\g'<=l.n/\l.n-g'<l.n-g))/\(decide (A3<A2)=false->g=l.n\/g=l.n+A6)) (by kernel_rfl) (by
 conv=>zeta
 refine⟨⟨(0:Nat),rfl,rfl,rfl,Ads _⟩,fun g hg=>⟨fun hlt=>?_,fun hge=>?_⟩⟩
 ·have hb:(g:Int)<(l.n:Int):=by simpa using hlt
  have hn:l.n<=1000:=hp;have t1:=Ae0 (l.n:Int) (show 0<=(g:Int)+(l.n:Int)-1 by omega);have t2:=Aen ((g:Int)+(l.n:Int)-1) (show 0<(l.n:Int)by omega);have t3:=Ae0 (l.n:Int) (show 0<=(g:Int)+1 by omega);have t4:=Aen ((g:Int)+1) (show 0<(l.n:Int)by omega);refine⟨by omega,jK,jK,by omega,⟨t1,t2⟩,jK,by omega,⟨t3,t4⟩,rfl,by omega,rfl,?_⟩;exact⟨⟨fun h=>(by cases h),fun _=>⟨jK,g+1,rfl,rfl,by omega,rfl,⟨rfl,fun _ _=>rfl⟩,rfl,rfl,by omega,by omega⟩⟩,fun _=>.inr rfl,fun h=>(by cases h)⟩
 ·have hb:¬ (g:Int)<(l.n:Int):=by simpa using hge
  exact .inl (by omega))
theorem Nd:Hp Tryz.prog 122 Lw:=MV Tryz.func122 (c:=Af Tryz.f122) (by kernel_rfl) mixed (fun caps l p n g hs hp=>by
 unfold T9 at hs;split at hs
 ·cases hs; exact⟨_, _, mV l _ hp.2, (.cons (Bo.ref rfl (fun i hi =>by
  rcases i with _|i
  ·show Bo (SV.sl _ _ _) (SV.sl _ _ _);exact(Bo.sl hp.1)
  exact absurd hi (by simp;try omega))) .nil),rfl,show Aa Tryz.prog _ from Aa.nil,⟨show Ae Tryz.prog _ from Ae.nil,AC.none (fun _=>rfl)⟩⟩
 ·cases hs)
theorem Nf:Ao Tryz.prog 122:=fun args w=>by kernel_rfl
def TA (l:(L.Sq L.Pt)):Prop:=l.n<=1000
def TB (l:(L.Sq L.Pt)):SV:=.clo 122 [.ref [(.sl 2 l.n (fun i=>[.int .i64 ((l.g i).x),.int .i64 ((l.g i).y)]))] 0]
def TC:List EV->Option (Prop×SV)
 |[.p (.sl 2 l_n l_g)]=>some ((∀i,i<l_n->l_g i = [.int .i64 ((Ai (l_g i)).x),.int .i64 ((Ai (l_g i)).y)])/\TA (⟨l_n,fun i=>Ai (l_g i)⟩:(L.Sq L.Pt)),TB (⟨l_n,fun i=>Ai (l_g i)⟩:(L.Sq L.Pt)))
 |_=>none
abbrev Lx:SE.Spec:=(AM TC)
def mW:Aj:={ muts:=[],frz:=BH [],specs:=AF [],loops:=AY [],iters:=B6 [],rfs:=AU [],nils:=BD [] }
theorem mX (l:(L.Sq L.Pt)) (hp:TA l):vc Tryz.prog (mW) (Af Tryz.f76) (Ar Tryz.f76 [.p (.sl 2 l.n (fun i=>[.int .i64 ((l.g i).x),.int .i64 ((l.g i).y)]))]) (AL Tryz.prog Tryz.f76 (TB l)):=
 @Eq.mpr _ (SV.clo (nat_lit 122) [SV.ref [SV.sl (nat_lit 2) l.n fun(i:Nat)=>[SV.int .i64 (l.g i).x,SV.int .i64 (l.g i).y]] (nat_lit 0)]=SV.clo (nat_lit 122) [SV.ref [SV.sl (nat_lit 2) l.n fun(i:Nat)=>[SV.int .i64 (l.g i).x,SV.int .i64 (l.g i).y]] (nat_lit 0)]) (by kernel_rfl) (by
 rfl)
theorem Ng:AB Tryz.prog 76 Lx:=AP Tryz.func76 (c:=Af Tryz.f76) (by kernel_rfl) mixed (fun args p r hs hp=>by
 unfold TC at hs;split at hs
 ·cases hs;exact⟨_,_,mX _ hp.2,(.p (.sl hp.1) .nil),⟨show Aa Tryz.prog _ from Aa.nil,rfl,⟨show Ae Tryz.prog _ from Ae.nil,(AC.none (fun _=>rfl))⟩⟩⟩
 ·cases hs)
theorem Nh:Ao Tryz.prog 76:=fun args w=>by kernel_rfl
def TD (l:(L.Sq L.Pt)):Prop:=Ep l
def TE (l:(L.Sq L.Pt)):SV:=.int .i64 (B7 l l.n)
def TF:List EV->Option (Prop×SV)
 |[.p (.sl 2 l_n l_g)]=>some ((∀i,i<l_n->l_g i = [.int .i64 ((Ai (l_g i)).x),.int .i64 ((Ai (l_g i)).y)])/\TD (⟨l_n,fun i=>Ai (l_g i)⟩:(L.Sq L.Pt)),TE (⟨l_n,fun i=>Ai (l_g i)⟩:(L.Sq L.Pt)))
 |_=>none
abbrev Pv:SE.Spec:=(AM TF)
def mZ:Aj:={ cC with muts:=[3,5],specs:=AF [(76,Lx)],iters:=B6 [(122,Lw)] }
theorem nA (l:(L.Sq L.Pt)) (hp:TD l):vc Tryz.prog ({ mZ with loops:=AY [],rfs:=AU [(3,{ T:=Nat,keep:=[3],keepO:=[],own:=fun k _=>[(3,.blk 3 [.p (.int .i64 (B7 l k))])],inv:=fun k _=>k<=l.n })] }) (Af Tryz.f75) (Ar Tryz.f75 [.p (.sl 2 l.n (fun i=>[.int .i64 ((l.g i).x),.int .i64 ((l.g i).y)]))]) (AL Tryz.prog Tryz.f75 (TE l)):=
 @Eq.mpr _ (let I:=SV.int .i64;let T:=Ad6;let M:=AdF;let A5:=((0:Int)<=(2:Int)/\(2:Int)<(↑(3:Nat):Int));let A4:=((0:Int)<=(1:Int)/\(1:Int)<(↑(3:Nat):Int));let A3:=((∀(i:Nat),let A7:=[I (l.g i).x,I (l.g i).y];i<l.n->A7=A7)/\l.n<=(1000:Nat));A3/\(A3/\∃(t:Nat),(0:Int)=B7 l (0:Nat)/\(0:Nat)<=l.n)/\(∀(k t:Nat) (vk:Nat->Go.Value),let A6:=(l.g (T (↑k:Int)));let A1:=(l.g (T (M ((↑k:Int)+(1:Int)) (↑l.n:Int))));let A2:=(A6.x*A1.y-A1.x*A6.y);k<l.n->k<=l.n->A4/\A5/\Ac .i64 (A6.x*A1.y)/\A5/\A4/\Ac .i64 (A1.x*A6.y)/\Ac .i64 A2/\Ac .i64 (B7 l k+A2)/\∃(t':Nat),nat_lit 0=nat_lit 0/\vk (nat_lit 3)=vk (nat_lit 3)/\B7 l k+A2=B7 l (k+(1:Nat))/\k+(1:Nat)<=l.n)/\∀(t:Nat),l.n<=l.n->B7 l l.n=B7 l l.n) (by kernel_rfl) (by
 conv=>zeta
 have hs:Ep l:=hp;refine⟨⟨fun _ _=>rfl,hs.1⟩,⟨⟨fun _ _=>rfl,hs.1⟩,(0:Nat),rfl,Ads _⟩,fun k t vk hk hi=>?_,fun _ _=>rfl⟩;have e0:((k:Int)).toNat=k:=by omega
 have e1:(AdF ((k:Int)+1) (l.n:Int)).toNat=BE l.n k:=rfl;rw[e0,e1];have b1:=Ps hs hk;have b2:=Nc hs k hi;have hn:=hs.1;refine⟨by omega,by omega,jK,by omega,by omega,jK,jK,jK,(0:Nat),rfl,rfl,rfl,hk⟩)
theorem TG:AB Tryz.prog 75 Pv:=AP Tryz.func75 (c:=Af Tryz.f75) (by kernel_rfl) mixed (fun args p r hs hp=>by
 unfold TF at hs;split at hs
 ·cases hs;exact⟨_,_,nA _ hp.2,(.p (.sl hp.1) .nil),⟨show Aa Tryz.prog _ from(Aa.cons Ng Nh Aa.nil),rfl,⟨show Ae Tryz.prog _ from(Ae.cons Nd Nf Ae.nil),(AC.none (fun _=>rfl))⟩⟩⟩
 ·cases hs)
theorem TH:Ao Tryz.prog 75:=fun args w=>by kernel_rfl
end
section
set_option maxRecDepth 100000
set_option maxHeartbeats 4000000
set_option linter.unusedVariables false
attribute [local irreducible] vc
def Bs (a b:Int):Int:=bif decide (a<b)then -1 else bif decide (b<a)then 1 else 0
def Hx (a b:Int):Int:=bif decide (a=0)then b else a
def G3 (g:Nat->Int):Nat->Int
 |0=>0
 |n+1=>Hx (G3 g n) (g n)
theorem Pw {g:Nat->Int}:∀{n:Nat},(∀j,j<n->g j=0)->G3 g n=0
 |0,_=>rfl
 |n+1,h=>by rw[G3,Pw (n:=n) (fun j hj=>h j (by omega)),h n (by omega)];rfl
theorem TI {g:Nat->Int} {i:Nat} (h0:∀j,j<i->g j=0) (hi:g i≠0):∀{n:Nat},i<n->G3 g n=g i
 |n+1,h=>by
   by_cases hin:i<n
   ·simp[G3,Hx,TI h0 hi hin,hi]
   ·have:i=n:=by omega
    subst this;simp[G3,Hx,Pw h0]
def B4:Nat->(Nat->Bool)->Int
 |0,_=>-1
 |n+1,f=>bif decide (0<=B4 n f)then B4 n f else bif f n then(n:Int)else -1
def BV:Nat->(Nat->Bool)->Bool
 |0,_=>false
 |n+1,f=>BV n f||f n
theorem Gg {f:Nat->Bool}:∀{n:Nat},BV n f=true↔∃i,i<n/\f i=true
 |0=>by simp[BV]
 |n+1=>by
   simp only[BV,Bool.or_eq_true,Gg (n:=n)];constructor
   ·rintro(⟨i,h,k⟩|h)
    ·exact⟨i,by omega,k⟩
    ·exact⟨n,by omega,h⟩
   ·rintro⟨i,h,k⟩;rcases Ad1.1 h with h|rfl
    ·exact .inl ⟨i,h,k⟩
    ·exact .inr k
theorem Ie {f:Nat->Bool}:∀{n:Nat},(∀j,j<n->f j=false)->B4 n f = -1
 |0,_=>rfl
 |n+1,h=>by rw[B4,Ie (n:=n) (fun j hj=>h j (by omega)),h n (by omega)];rfl
theorem IR {f:Nat->Bool} {i:Nat} (h0:∀j,j<i->f j=false) (hi:f i=true):∀{n:Nat},i<n->B4 n f=(i:Int)
 |n+1,h=>by
   by_cases hin:i<n
   ·simp[B4,IR h0 hi hin]
   ·have:i=n:=by omega
    subst this;simp[B4,Ie h0,hi]
theorem Ly {f:Nat->Bool}:∀{n:Nat},decide (0<=B4 n f)=BV n f
 |0=>rfl
 |n+1=>by
   have ih:=Ly (f:=f) (n:=n);unfold BV;rw[<- ih];cases hf:f n<;>by_cases h:0<=B4 n f<;>simp[B4,hf,h]
theorem Cj {f:Nat->Bool}:∀{n:Nat},-1<=B4 n f/\B4 n f<(n:Int)
 |0=>by simp[B4]
 |n+1=>by
   have ih:=Cj (f:=f) (n:=n);cases hf:f n<;>by_cases h:0<=B4 n f<;>simp[B4,hf,h]<;>omega
def AD (p:Nat->Bool):Nat->Nat
 |0=>0
 |n+1=>bif p n then AD p n+1 else AD p n
theorem IS {p:Nat->Bool}:∀{n:Nat},AD p n<=n
 |0=>Adp _
 |n+1=>by
   have:=IS (p:=p) (n:=n);unfold AD;cases p n<;>simp<;>omega
def B2 (p:Nat->Bool):Nat->Nat->Nat
 |0,_=>0
 |n+1,k=>bif p n&&decide (k=AD p n)then n else B2 p n k
theorem If {p:Nat->Bool} {n:Nat} (h:p n=true):AD p (n+1)=AD p n+1:=by simp[AD,h]
theorem Hy {p:Nat->Bool} {n:Nat} (h:p n=false):AD p (n+1)=AD p n:=by simp[AD,h]
theorem IT {p:Nat->Bool} {n:Nat} (h:p n=true):B2 p (n+1) (AD p n)=n:=by simp[B2,h]
theorem IU {p:Nat->Bool} {n k:Nat} (h:k≠AD p n):B2 p (n+1) k=B2 p n k:=by simp[B2,h]
theorem IV {p:Nat->Bool} {n k:Nat} (h:p n=false):B2 p (n+1) k=B2 p n k:=by simp[B2,h]
theorem Ni {f:Nat->Bool}:∀{n:Nat},(B4 n f = -1/\∀j,j<n->f j=false)\/∃i,i<n/\B4 n f=(i:Int)/\f i=true/\∀j,j<i->f j=false
 |0=>.inl ⟨rfl,fun j hj=>absurd hj (oE _)⟩
 |n+1=>by
   rcases Ni (f:=f) (n:=n)with ⟨h1,h2⟩|⟨i,h1,h2,h3,h4⟩
   ·cases hf:f n with
    |true=>exact .inr ⟨n,Ae3 n,by simp[B4,h1,hf],hf,h2⟩
    |false =>exact .inl ⟨by simp[B4, h1, hf], fun j hj =>by
     rcases Ad1.1 hj with h|rfl
     ·exact h2 j h
     ·exact hf⟩
   ·exact .inr ⟨i,by omega,by simp[B4,h2],h3,h4⟩
theorem FE (a b:Bool):(bif a then b else false)=(a&&b):=by cases a<;>rfl
theorem Dl (a b:Bool):(bif a then true else b)=(a||b):=by cases a<;>rfl
def TJ (x:Int):Prop:=True
def TK (x:Int):SV:=.bool false
def TL:List EV->Option (Prop×SV)
 |[.p (.int .i64 x)]=>some (TJ x,TK x)
 |_=>none
abbrev TM:SE.Spec:=(AM TL)
def nB:Aj:={ muts:=[],frz:=BH [],specs:=AF [],loops:=AY [],iters:=B6 [],rfs:=AU [],nils:=BD [] }
theorem nC (x:Int) (hp:TJ x):vc Tryz.prog (nB) (Af Tryz.f133) (Ar Tryz.f133 [.p (.int .i64 x)]) (AL Tryz.prog Tryz.f133 (TK x)):=
 @Eq.mpr _ ((!decide (x=x))=false) (by kernel_rfl) (by
 simp)
theorem nD:AB Tryz.prog 133 TM:=AP Tryz.func133 (c:=Af Tryz.f133) (by kernel_rfl) mixed (fun args p r hs hp=>by
 unfold TL at hs;split at hs
 ·cases hs;exact⟨_,_,nC _ hp,(.same _ .nil),⟨show Aa Tryz.prog _ from Aa.nil,rfl,⟨show Ae Tryz.prog _ from Ae.nil,(AC.none (fun _=>rfl))⟩⟩⟩
 ·cases hs)
theorem nE:Ao Tryz.prog 133:=fun args w=>by kernel_rfl
def TN (a:Int) (b:Int):Prop:=True
def TO (a:Int) (b:Int):SV:=.int .i64 (Bs a b)
def TP:List EV->Option (Prop×SV)
 |[.p (.int .i64 a),.p (.int .i64 b)]=>some (TN a b,TO a b)
 |_=>none
abbrev JP:SE.Spec:=(AM TP)
def nF:Aj:={ cC with specs:=AF [(133,TM)] }
theorem nG (a:Int) (b:Int) (hp:TN a b):vc Tryz.prog (nF) (Af Tryz.f85) (Ar Tryz.f85 [.p (.int .i64 a),.p (.int .i64 b)]) (AL Tryz.prog Tryz.f85 (TO a b)):=
 @Eq.mpr _ (True/\True/\(false=true->(false=true->(0:Int)=Bs a b)/\(false=false->(-1:Int)=Bs a b))/\(false=false->(false=true->(1:Int)=Bs a b)/\(false=false->(decide (a<b)=true->(-1:Int)=Bs a b)/\(decide (a<b)=false->(decide (b<a)=true->(1
:Int)=Bs a b)/\(decide (b<a)=false->(0:Int)=Bs a b))))) (by kernel_rfl) (by
 grind [Bs])
theorem Lz:AB Tryz.prog 85 JP:=AP Tryz.func85 (c:=Af Tryz.f85) (by kernel_rfl) mixed (fun args p r hs hp=>by
 unfold TP at hs;split at hs
 ·cases hs;exact⟨_,_,nG _ _ hp,(.same _ (.same _ .nil)),⟨show Aa Tryz.prog _ from(Aa.cons nD nE Aa.nil),rfl,⟨show Ae Tryz.prog _ from Ae.nil,(AC.none (fun _=>rfl))⟩⟩⟩
 ·cases hs)
theorem L0:Ao Tryz.prog 85:=fun args w=>by kernel_rfl
def TQ (l:(L.Sq Int)):Prop:=l.n<=1000000
def TR (l:(L.Sq Int)):SV:=.int .i64 (G3 l.g l.n)
def TS:List EV->Option (Prop×SV)
 |[.p (.sl 1 l_n l_g)]=>some ((∀i,i<l_n->l_g i = [.int .i64 ((DG (l_g i)))])/\TQ (⟨l_n,fun i=>DG (l_g i)⟩:(L.Sq Int)),TR (⟨l_n,fun i=>DG (l_g i)⟩:(L.Sq Int)))
 |_=>none
abbrev Px:SE.Spec:=(AM TS)
def nH:Aj:={ muts:=[],frz:=BH [],specs:=AF [],loops:=fun _=>none,iters:=B6 [],rfs:=AU [],nils:=BD [] }
theorem nI (l:(L.Sq Int)) (hp:TQ l):vc Tryz.prog ({ nH with loops:=AY [(3,{ T:=Nat,keep:=[0,3,6,7],keepO:=[],chg:=fun i=>[(8,.p (.int .i64 i))],own:=fun _=>[],inv:=fun i=>i<=l.n/\(∀j,j<i->l.g j=0),mu:=fun i=>l.n-i })],rfs:=AU [] }) (Af Tryz.f123) (Ar Tryz.f123 [.p (.sl 1 l.n (fun i=>[.int .i64 ((l.g i))]))]) (AL Tryz.prog Tryz.f123 (TR l)):=
 @Eq.mpr _ (let A5:=(↑l.n:Int);let A4:=(0:Int);let A1:=(l.n=l.n/\∀(i:Nat),let A6:=[SV.int .i64 (l.g i)];i<l.n->A6=A6);(∃(g:Nat),A4=(↑g:Int)/\g<=l.n/\∀(j:Nat),j<g->l.g j=A4)/\∀(g:Nat),let A3:=(↑g:Int);let A2:=(!decide (l.g (Ad6 A3)=A4));(g<=l.n/\∀(j:Nat),j<g->l.g j=A4)->(decide (A3<A5)=true->(A4<=A3/\A3<A5)/\(A2=true->l.g (Ad6 A3)=G3 l.g l.n)/\(A2=false->Ac .i64 (A3+(1:Int))/\∃(g':Nat),A3+(1:Int)=(↑g':Int)/\A5=A5/\A1/\A4=A4/\A1/\(g'<=l.n/\∀(j:Nat),j<g'->l.g j=A4)/\l.n-g'<l.n-g))/\(decide (A3<A5)=false->A4=G3 l.g l.n)) (by kernel_rfl) (by
 conv=>zeta
 refine⟨⟨(0:Nat),rfl,Ads _,fun j hj=>by omega⟩,fun g hg=>⟨fun hlt=>?_,fun hge=>?_⟩⟩
 ·have hb:(g:Int)<(l.n:Int):=by simpa using hlt
  have e0:((g:Int)).toNat=g:=by omega
  rw[e0];have hn:l.n<=1000000:=hp;refine⟨by omega,fun h=>?_,fun h=>?_⟩
  ·exact(TI hg.2 (by simpa using h) (by omega)).symm
  ·have h0:l.g g=0:=by simpa using h
   exact⟨jK,g+1,by omega,rfl,⟨rfl,fun _ _=>rfl⟩,rfl,⟨rfl,fun _ _=>rfl⟩,⟨by omega,fun j hj=>by
    rcases Ad1.1 hj with h|rfl
    ·exact hg.2 j h
    ·exact h0⟩,by omega⟩
 ·have hb:¬ (g:Int)<(l.n:Int):=by simpa using hge
  exact(Pw (fun j hj=>hg.2 j (by omega))).symm)
theorem TT:AB Tryz.prog 123 Px:=AP Tryz.func123 (c:=Af Tryz.f123) (by kernel_rfl) mixed (fun args p r hs hp=>by
 unfold TS at hs;split at hs
 ·cases hs;exact⟨_,_,nI _ hp.2,(.p (.sl hp.1) .nil),⟨show Aa Tryz.prog _ from Aa.nil,rfl,⟨show Ae Tryz.prog _ from Ae.nil,(AC.none (fun _=>rfl))⟩⟩⟩
 ·cases hs)
theorem TU:Ao Tryz.prog 123:=fun args w=>by kernel_rfl
def TV (l:(L.Sq Int)) (p:B1):Prop:=l.n<=1000000/\∀i,i<l.n->p.pre [(.int .i64 ((l.g i)))]
def TW (l:(L.Sq Int)) (p:B1):SV:=.int .i64 (B4 l.n (fun i=>Bi p [(.int .i64 ((l.g i)))]))
def TX:List EV->Option (Prop×SV)
 |[.p (.sl 1 l_n l_g),.fn p]=>some ((∀i,i<l_n->l_g i = [.int .i64 ((DG (l_g i)))])/\EN p/\TV (⟨l_n,fun i=>DG (l_g i)⟩:(L.Sq Int)) p,TW (⟨l_n,fun i=>DG (l_g i)⟩:(L.Sq Int)) p)
 |_=>none
abbrev TY:SE.Spec:=(AM TX)
def nJ:Aj:={ muts:=[],frz:=BH [],specs:=AF [],loops:=fun _=>none,iters:=B6 [],rfs:=AU [],nils:=BD [] }
theorem nK (l:(L.Sq Int)) (p:B1) (hp:TV l p):vc Tryz.prog ({ nJ with loops:=AY [(2,{ T:=Nat,keep:=[0,1,6,7],keepO:=[],chg:=fun i=>[(8,.p (.int .i64 i))],own:=fun _=>[],inv:=fun i=>i<=l.n/\(∀j,j<i->Bi p [(.int .i64 ((l.g j)))]=false),mu:=fun i=>l.n-i })],rfs:=AU [] }) (Af Tryz.f178) (Ar Tryz.f178 [.p (.sl 1 l.n (fun i=>[.int .i64 ((l.g i))])),.fn ⟨p.pre,fun xs=>.bool (Bi p xs)⟩]) (AL Tryz.prog Tryz.f178 (TW l p)):=
 @Eq.mpr _ (let I:=SV.int .i64;let A4:=(↑l.n:Int);let A2:=(l.n=l.n/\∀(i:Nat),i<l.n -> [I (l.g i)]= [I (l.g i)]);(∃(g:Nat),(0:Int)=(↑g:Int)/\g<=l.n/\∀(j:Nat),j<g->Bi p [I (l.g j)]=false)/\∀(g:Nat),let A1:=(↑g:Int);let A3:=[I (l.g (Ad6 A1))];(g<=l.n/\∀(j:Nat),j<g->Bi p [I (l.g j)]=false)->(decide (A1<A4)=true->((0:Int)<=A1/\A1<A4)/\p.1 A3/\(Bi p A3=true->A1=B4 l.n fun(i:Nat)=>Bi p [I (l.g i)])/\(Bi p A3=false->Ac .i64 (A1+(1:Int))/\∃(g':Nat),A1+(1:Int)=(↑g':Int)/\A4=A4/\A2/\A2/\((B1.mk p.pre fun(xs:List SV)=>SV.bool (Bi p xs))=B1.mk p.pre fun(xs:List SV)=>SV.bool (Bi p xs))/\(g'<=l.n/\∀(j:Nat),j<g'->Bi p [I (l.g j)]=false)/\l.n-g'<l.n-g))/\(decide (A1<A4)=false->(-1:Int)=B4 l.n fun(i:Nat)=>Bi p [I (l.g i)])) (by kernel_rfl) (by
 conv=>zeta
 obtain⟨hn,hpre⟩:=hp;refine⟨⟨(0:Nat),rfl,Ads _,fun j hj=>by omega⟩,fun g hg=>⟨fun hlt=>?_,fun hge=>?_⟩⟩
 ·have hb:(g:Int)<(l.n:Int):=by simpa using hlt
  have e0:((g:Int)).toNat=g:=by omega
  rw[e0];refine⟨by omega,hpre g (by omega),fun h=>?_,fun h=>?_⟩
  ·exact(IR hg.2 h (by omega)).symm
  ·exact⟨jK, g+1, by omega, rfl, ⟨rfl, fun _ _ =>rfl⟩, ⟨rfl, fun _ _ =>rfl⟩, rfl, ⟨by omega, fun j hj =>by
   rcases Ad1.1 hj with h'|rfl
   ·exact hg.2 j h'
   ·exact h⟩,by omega⟩
 ·have hb:¬ (g:Int)<(l.n:Int):=by simpa using hge
  exact(Ie (fun j hj=>hg.2 j (by omega))).symm)
theorem nL:AB Tryz.prog 178 TY:=AP Tryz.func178 (c:=Af Tryz.f178) (by kernel_rfl) mixed (fun args p r hs hp=>by
 unfold TX at hs;split at hs
 ·cases hs;exact⟨_,_,nK _ _ hp.2.2,(.p (.sl hp.1) (.fn (fun xs h=>⟨h,(JO hp.2.1 h).symm⟩) .nil)),⟨show Aa Tryz.prog _ from Aa.nil,rfl,⟨show Ae Tryz.prog _ from Ae.nil,(AC.none (fun _=>rfl))⟩⟩⟩
 ·cases hs)
theorem nM:Ao Tryz.prog 178:=fun args w=>by kernel_rfl
def TZ (l:(L.Sq Int)) (p:B1):Prop:=l.n<=1000000/\∀i,i<l.n->p.pre [(.int .i64 ((l.g i)))]
def Ua (l:(L.Sq Int)) (p:B1):SV:=.bool (BV l.n (fun i=>Bi p [(.int .i64 ((l.g i)))]))
def Ub:List EV->Option (Prop×SV)
 |[.p (.sl 1 l_n l_g),.fn p]=>some ((∀i,i<l_n->l_g i = [.int .i64 ((DG (l_g i)))])/\EN p/\TZ (⟨l_n,fun i=>DG (l_g i)⟩:(L.Sq Int)) p,Ua (⟨l_n,fun i=>DG (l_g i)⟩:(L.Sq Int)) p)
 |_=>none
abbrev Uc:SE.Spec:=(AM Ub)
def nN:Aj:={ cC with specs:=AF [(178,TY)] }
theorem nO (l:(L.Sq Int)) (p:B1) (hp:TZ l p):vc Tryz.prog (nN) (Af Tryz.f135) (Ar Tryz.f135 [.p (.sl 1 l.n (fun i=>[.int .i64 ((l.g i))])),.fn ⟨p.pre,fun xs=>.bool (Bi p xs)⟩]) (AL Tryz.prog Tryz.f135 (Ua l p)):=
 @Eq.mpr _ (let I:=SV.int .i64;let A1:=(B1.mk p.pre fun(xs:List SV)=>SV.bool (Bi p xs));((∀(i:Nat),i<l.n -> [I (l.g i)]= [I (l.g i)])/\EN A1/\l.n<=(1000000:Nat)/\∀(i:Nat),i<l.n->p.1 [I (l.g i)])/\decide ((0:Int)<=B4 l.n fun(i:Nat)=>Bi A1 [I (l.g i)])=BV l.n fun(i:Nat)=>Bi p [I (l.g i)]) (by kernel_rfl) (by
 conv=>zeta
 refine⟨⟨fun _ _=>rfl,fun xs _=>⟨_,rfl⟩,hp⟩,Ly⟩)
theorem nP:AB Tryz.prog 135 Uc:=AP Tryz.func135 (c:=Af Tryz.f135) (by kernel_rfl) mixed (fun args p r hs hp=>by
 unfold Ub at hs;split at hs
 ·cases hs;exact⟨_,_,nO _ _ hp.2.2,(.p (.sl hp.1) (.fn (fun xs h=>⟨h,(JO hp.2.1 h).symm⟩) .nil)),⟨show Aa Tryz.prog _ from(Aa.cons nL nM Aa.nil),rfl,⟨show Ae Tryz.prog _ from Ae.nil,(AC.none (fun _=>rfl))⟩⟩⟩
 ·cases hs)
theorem nQ:Ao Tryz.prog 135:=fun args w=>by kernel_rfl
def Ud (l:(L.Sq L.Pt)) (p:B1):Prop:=l.n<=1000000/\∀i,i<l.n->p.pre [(.agg [.int .i64 ((l.g i).x),.int .i64 ((l.g i).y)])]
def Ue (l:(L.Sq L.Pt)) (p:B1):SV:=.int .i64 (B4 l.n (fun i=>Bi p [(.agg [.int .i64 ((l.g i).x),.int .i64 ((l.g i).y)])]))
def Uf:List EV->Option (Prop×SV)
 |[.p (.sl 2 l_n l_g),.fn p]=>some ((∀i,i<l_n->l_g i = [.int .i64 ((Ai (l_g i)).x),.int .i64 ((Ai (l_g i)).y)])/\EN p/\Ud (⟨l_n,fun i=>Ai (l_g i)⟩:(L.Sq L.Pt)) p,Ue (⟨l_n,fun i=>Ai (l_g i)⟩:(L.Sq L.Pt)) p)
 |_=>none
abbrev Py:SE.Spec:=(AM Uf)
def nR:Aj:={ muts:=[],frz:=BH [],specs:=AF [],loops:=fun _=>none,iters:=B6 [],rfs:=AU [],nils:=BD [] }
theorem nS (l:(L.Sq L.Pt)) (p:B1) (hp:Ud l p):vc Tryz.prog ({ nR with loops:=AY [(2,{ T:=Nat,keep:=[0,1,6,7],keepO:=[],chg:=fun i=>[(8,.p (.int .i64 i))],own:=fun _=>[],inv:=fun i=>i<=l.n/\(∀j,j<i->Bi p [(.agg [.int .i64 ((l.g j).x),.int .i64 ((l.g j).y)])]=false),mu:=fun i=>l.n-i })],rfs:=AU [] }) (Af Tryz.f159) (Ar Tryz.f159 [.p (.sl 2 l.n (fun i=>[.int .i64 ((l.g i).x),.int .i64 ((l.g i).y)])),.fn ⟨p.pre,fun xs=>.bool (Bi p xs)⟩]) (AL Tryz.prog Tryz.f159 (Ue l p)):=
 @Eq.mpr _ (let I:=SV.int .i64;let T:=Ad6;let A4:=(↑l.n:Int);let A2:=(l.n=l.n/\∀(i:Nat),let A5:=[I (l.g i).x,I (l.g i).y];i<l.n->A5=A5);(∃(g:Nat),(0:Int)=(↑g:Int)/\g<=l.n/\∀(j:Nat),j<g->Bi p [SV.agg [I (l.g j).x,I (l.g j).y]]=false)/\∀(g:Nat),let A3:=(↑g:Int);let A1:=[SV.agg [I (l.g (T A3)).x,I (l.g (T A3)).y]];(g<=l.n/\∀(j:Nat),j<g->Bi p [SV.agg [I (l.g j).x,I (l.g j).y]]=false)->(decide (A3<A4)=true->((0:Int)<=A3/\A3<A4)/\p.1 A1/\(Bi p A1=true->A3=B4 l.n fun(i:Nat)=>Bi p [SV.agg [I (l.g i).x,I (l.g i).y]])/\(Bi p A1=false->Ac .i64 (A3+(1:Int))/\∃(g':Nat),A3+(1:Int)=(↑g':Int)/\A4=A4/\A2/\A2/\((B1.mk p.pre fun(xs:List SV)=>SV.bool (Bi p xs))=B1.mk p.pre fun(xs:List SV)=>SV.bool (Bi p xs))/\(g'<=l.n/\∀(j:Nat),j<g'->Bi p [SV.agg [I (l.g j).x,I (l.g j).y]]=false)/\l.n-g'<l.n-g))/\(decide (A3<A4)=false->(-1:Int)=B4 l.n fun(i:Nat)=>Bi p [SV.agg [I (l.g i).x,I (l.g i).y]])) (by kernel_rfl) (by
 conv=>zeta
 obtain⟨hn,hpre⟩:=hp;refine⟨⟨(0:Nat),rfl,Ads _,fun j hj=>by omega⟩,fun g hg=>⟨fun hlt=>?_,fun hge=>?_⟩⟩
 ·have hb:(g:Int)<(l.n:Int):=by simpa using hlt
  have e0:((g:Int)).toNat=g:=by omega
  rw[e0];refine⟨by omega,hpre g (by omega),fun h=>?_,fun h=>?_⟩
  ·exact(IR hg.2 h (by omega)).symm
  ·exact⟨jK, g+1, by omega, rfl, ⟨rfl, fun _ _ =>rfl⟩, ⟨rfl, fun _ _ =>rfl⟩, rfl, ⟨by omega, fun j hj =>by
   rcases Ad1.1 hj with h'|rfl
   ·exact hg.2 j h'
   ·exact h⟩,by omega⟩
 ·have hb:¬ (g:Int)<(l.n:Int):=by simpa using hge
  exact(Ie (fun j hj=>hg.2 j (by omega))).symm)
theorem Ug:AB Tryz.prog 159 Py:=AP Tryz.func159 (c:=Af Tryz.f159) (by kernel_rfl) mixed (fun args p r hs hp=>by
 unfold Uf at hs;split at hs
 ·cases hs;exact⟨_,_,nS _ _ hp.2.2,(.p (.sl hp.1) (.fn (fun xs h=>⟨h,(JO hp.2.1 h).symm⟩) .nil)),⟨show Aa Tryz.prog _ from Aa.nil,rfl,⟨show Ae Tryz.prog _ from Ae.nil,(AC.none (fun _=>rfl))⟩⟩⟩
 ·cases hs)
theorem Uh:Ao Tryz.prog 159:=fun args w=>by kernel_rfl
def Ui (l:(L.Sq L.Pt)) (p:B1):Prop:=l.n<=1000000/\∀i,i<l.n->p.pre [(.agg [.int .i64 ((l.g i).x),.int .i64 ((l.g i).y)])]
def Uj (l:(L.Sq L.Pt)) (p:B1):SV:=.bool (BV l.n (fun i=>Bi p [(.agg [.int .i64 ((l.g i).x),.int .i64 ((l.g i).y)])]))
def Uk:List EV->Option (Prop×SV)
 |[.p (.sl 2 l_n l_g),.fn p]=>some ((∀i,i<l_n->l_g i = [.int .i64 ((Ai (l_g i)).x),.int .i64 ((Ai (l_g i)).y)])/\EN p/\Ui (⟨l_n,fun i=>Ai (l_g i)⟩:(L.Sq L.Pt)) p,Uj (⟨l_n,fun i=>Ai (l_g i)⟩:(L.Sq L.Pt)) p)
 |_=>none
abbrev Pz:SE.Spec:=(AM Uk)
def nT:Aj:={ cC with specs:=AF [(159,Py)] }
theorem nU (l:(L.Sq L.Pt)) (p:B1) (hp:Ui l p):vc Tryz.prog (nT) (Af Tryz.f120) (Ar Tryz.f120 [.p (.sl 2 l.n (fun i=>[.int .i64 ((l.g i).x),.int .i64 ((l.g i).y)])),.fn ⟨p.pre,fun xs=>.bool (Bi p xs)⟩]) (AL Tryz.prog Tryz.f120 (Uj l p)):=
 @Eq.mpr _ (let I:=SV.int .i64;let A1:=(B1.mk p.pre fun(xs:List SV)=>SV.bool (Bi p xs));((∀(i:Nat),let A2:=[I (l.g i).x,I (l.g i).y];i<l.n->A2=A2)/\EN A1/\l.n<=(1000000:Nat)/\∀(i:Nat),i<l.n->p.1 [SV.agg [I (l.g i).x,I (l.g i).y]])/\decide ((0:Int)<=B4 l.n fun(i:Nat)=>Bi A1 [SV.agg [I (l.g i).x,I (l.g i).y]])=BV l.n fun(i:Nat)=>Bi p [SV.agg [I (l.g i).x,I (l.g i).y]]) (by kernel_rfl) (by
 conv=>zeta
 refine⟨⟨fun _ _=>rfl,fun xs _=>⟨_,rfl⟩,hp⟩,Ly⟩)
theorem Ul:AB Tryz.prog 120 Pz:=AP Tryz.func120 (c:=Af Tryz.f120) (by kernel_rfl) mixed (fun args p r hs hp=>by
 unfold Uk at hs;split at hs
 ·cases hs;exact⟨_,_,nU _ _ hp.2.2,(.p (.sl hp.1) (.fn (fun xs h=>⟨h,(JO hp.2.1 h).symm⟩) .nil)),⟨show Aa Tryz.prog _ from(Aa.cons Ug Uh Aa.nil),rfl,⟨show Ae Tryz.prog _ from Ae.nil,(AC.none (fun _=>rfl))⟩⟩⟩
 ·cases hs)
theorem Um:Ao Tryz.prog 120:=fun args w=>by kernel_rfl
end
section
set_option maxRecDepth 100000
set_option maxHeartbeats 4000000
set_option linter.unusedVariables false
attribute [local irreducible] vc
def Ax (a b c:L.Pt):Int:=(b.x-a.x)*(c.y-a.y)-(b.y-a.y)*(c.x-a.x)
def D5 (a b:L.Pt):Int:=(b.x-a.x)*(b.x-a.x)+(b.y-a.y)*(b.y-a.y)
def Au (p:L.Pt):Prop:=-4000000<=p.x/\p.x<=4000000 /\ -4000000<=p.y/\p.y<=4000000
def B8 (p:L.Pt):Bool:=AG p.x 0 4096&&AG p.y 0 4096
theorem nV {p:L.Pt} (h:B8 p=true):Au p:=by
 simp only[B8,AG,pR,decide_eq_true_eq]at h;unfold Au;omega
def BK (a b:L.Pt):Int:=Hx (Bs a.x b.x) (Bs a.y b.y)
def C1 (a b p:L.Pt):Bool:=decide (Ax a b p=0)&&AG p.x (min a.x b.x) (max a.x b.x)&&AG p.y (min a.y b.y) (max a.y b.y)
def G4 (a b c d:L.Pt):Bool:=decide (Bs (Ax a b c) 0*Bs (Ax a b d) 0<0)
theorem Un {f:Nat->Bool}:∀{n:Nat},(!BV n f)=CG n (fun i=>!f i)
 |0=>rfl
 |n+1=>by simp[BV,CG,<- Un (n:=n)]
theorem JQ (a b:Int): -1<=Bs a b/\Bs a b<=1:=by
 unfold Bs
 by_cases h:a<b<;>by_cases k:b<a<;>simp[h,k]
def Uo (a:L.Pt) (b:L.Pt) (c:L.Pt):Prop:=Au a/\Au b/\Au c
def Up (a:L.Pt) (b:L.Pt) (c:L.Pt):SV:=.int .i64 (Ax a b c)
def Uq:List EV->Option (Prop×SV)
 |[.p (.agg [.int .i64 a_x,.int .i64 a_y]),.p (.agg [.int .i64 b_x,.int .i64 b_y]),.p (.agg [.int .i64 c_x,.int .i64 c_y])]=>some (Uo (⟨a_x,a_y⟩:L.Pt) (⟨b_x,b_y⟩:L.Pt) (⟨c_x,c_y⟩:L.Pt),Up (⟨a_x,a_y⟩:L.Pt) (⟨b_x,b_y⟩:L.Pt) (⟨c_x,c_y⟩:L.Pt))
 |_=>none
abbrev IW:SE.Spec:=(AM Uq)
def nW:Aj:={ muts:=[],frz:=BH [],specs:=AF [],loops:=AY [],iters:=B6 [],rfs:=AU [],nils:=BD [] }
theorem nX (a:L.Pt) (b:L.Pt) (c:L.Pt) (hp:Uo a b c):vc Tryz.prog (nW) (Af Tryz.f77) (Ar Tryz.f77 [.p (.agg [.int .i64 a.x,.int .i64 a.y]),.p (.agg [.int .i64 b.x,.int .i64 b.y]),.p (.agg [.int .i64 c.x,.int .i64 c.y])]) (AL Tryz.prog Tryz.f77 (Up a b c)):=
 @Eq.mpr _ (let A4:=(c.x-a.x);let A3:=(b.y-a.y);let A2:=(c.y-a.y);let A1:=(b.x-a.x);Ac .i64 A1/\Ac .i64 A2/\Ac .i64 (A1*A2)/\Ac .i64 A3/\Ac .i64 A4/\Ac .i64 (A3*A4)/\Ac .i64 (A1*A2-A3*A4)/\A1*A2-A3*A4=Ax a b c) (by kernel_rfl) (by
 conv=>zeta
 obtain⟨h1,h2,h3⟩:=hp;unfold Au at h1 h2 h3;have m1:=D4 (a:=b.x-a.x) (b:=c.y-a.y) (m:=8000000) (n:=8000000) (by omega) (by omega) (by omega) (by omega);have m2:=D4 (a:=b.y-a.y) (b:=c.x-a.x) (m:=8000000) (n:=8000000) (by omega) (by omega) (by omega) (by omega);exact⟨jK,jK,jK,jK,jK,jK,jK,rfl⟩)
theorem JR:AB Tryz.prog 77 IW:=AP Tryz.func77 (c:=Af Tryz.f77) (by kernel_rfl) mixed (fun args p r hs hp=>by
 unfold Uq at hs;split at hs
 ·cases hs;exact⟨_,_,nX _ _ _ hp,(.same _ (.same _ (.same _ .nil))),⟨show Aa Tryz.prog _ from Aa.nil,rfl,⟨show Ae Tryz.prog _ from Ae.nil,(AC.none (fun _=>rfl))⟩⟩⟩
 ·cases hs)
theorem JS:Ao Tryz.prog 77:=fun args w=>by kernel_rfl
def Ur (p:L.Pt):Prop:=True
def Us (p:L.Pt):SV:=.bool (B8 p)
def Ut:List EV->Option (Prop×SV)
 |[.p (.agg [.int .i64 p_x,.int .i64 p_y])]=>some (Ur (⟨p_x,p_y⟩:L.Pt),Us (⟨p_x,p_y⟩:L.Pt))
 |_=>none
abbrev P0:SE.Spec:=(AM Ut)
def nY:Aj:={ cC with specs:=AF [(73,Nb)] }
theorem nZ (p:L.Pt) (hp:Ur p):vc Tryz.prog (nY) (Af Tryz.f43) (Ar Tryz.f43 [.p (.agg [.int .i64 p.x,.int .i64 p.y])]) (AL Tryz.prog Tryz.f43 (Us p)):=
 @Eq.mpr _ (True/\(AG p.x (0:Int) (4096:Int)=true->True)/\(bif AG p.x (0:Int) (4096:Int)then AG p.y (0:Int) (4096:Int)else false)=B8 p) (by kernel_rfl) (by
 refine⟨trivial,fun _=>trivial,?_⟩;unfold B8;cases AG p.x 0 4096<;>rfl)
theorem Uu:AB Tryz.prog 43 P0:=AP Tryz.func43 (c:=Af Tryz.f43) (by kernel_rfl) mixed (fun args p r hs hp=>by
 unfold Ut at hs;split at hs
 ·cases hs;exact⟨_,_,nZ _ hp,(.same _ .nil),⟨show Aa Tryz.prog _ from(Aa.cons Pq Pr Aa.nil),rfl,⟨show Ae Tryz.prog _ from Ae.nil,(AC.none (fun _=>rfl))⟩⟩⟩
 ·cases hs)
theorem Uv:Ao Tryz.prog 43:=fun args w=>by kernel_rfl
def Uw (p:L.Pt):Prop:=True
def Ux (p:L.Pt):SV:=.bool (!B8 p)
def JT:List EV->Option (Prop×SV)
 |[.p (.agg [.int .i64 p_x,.int .i64 p_y])]=>some (Uw (⟨p_x,p_y⟩:L.Pt),Ux (⟨p_x,p_y⟩:L.Pt))
 |_=>none
abbrev Uy:SE.Spec:=(AM JT)
def oC:Aj:={ cC with specs:=AF [(43,P0)] }
theorem oD (p:L.Pt) (hp:Uw p):vc Tryz.prog (oC) (Af Tryz.f121) (Ar Tryz.f121 [.p (.agg [.int .i64 p.x,.int .i64 p.y])]) (AL Tryz.prog Tryz.f121 (Ux p)):=
 @Eq.mpr _ (True/\(!B8 p)= !B8 p) (by kernel_rfl) (by
 exact⟨trivial,rfl⟩)
theorem oF:AB Tryz.prog 121 Uy:=AP Tryz.func121 (c:=Af Tryz.f121) (by kernel_rfl) mixed (fun args p r hs hp=>by
 unfold JT at hs;split at hs
 ·cases hs;exact⟨_,_,oD _ hp,(.same _ .nil),⟨show Aa Tryz.prog _ from(Aa.cons Uu Uv Aa.nil),rfl,⟨show Ae Tryz.prog _ from Ae.nil,(AC.none (fun _=>rfl))⟩⟩⟩
 ·cases hs)
theorem oG:Ao Tryz.prog 121:=fun args w=>by kernel_rfl
theorem oH:∀args p r,JT args=some (p,r)->∃b,r=.bool b:=by
 intro args p r h;unfold JT at h;split at h
 ·cases h;exact⟨_,rfl⟩
 ·cases h
def Uz (l:(L.Sq L.Pt)):Prop:=l.n<=1000000
def U0 (l:(L.Sq L.Pt)):SV:=.bool (CG l.n (fun i=>B8 (l.g i)))
def U1:List EV->Option (Prop×SV)
 |[.p (.sl 2 l_n l_g)]=>some ((∀i,i<l_n->l_g i = [.int .i64 ((Ai (l_g i)).x),.int .i64 ((Ai (l_g i)).y)])/\Uz (⟨l_n,fun i=>Ai (l_g i)⟩:(L.Sq L.Pt)),U0 (⟨l_n,fun i=>Ai (l_g i)⟩:(L.Sq L.Pt)))
 |_=>none
abbrev P1:SE.Spec:=(AM U1)
def oI:Aj:={ cC with specs:=AF [(120,Pz),(121,Uy)] }
theorem oJ (l:(L.Sq L.Pt)) (hp:Uz l):vc Tryz.prog (oI) (Af Tryz.f74) (Ar Tryz.f74 [.p (.sl 2 l.n (fun i=>[.int .i64 ((l.g i).x),.int .i64 ((l.g i).y)]))]) (AL Tryz.prog Tryz.f74 (U0 l)):=
 @Eq.mpr _ (let I:=SV.int .i64;let A1:=(B1.mk (fun(«as»:List SV)=>De JT (Ad9 EV.p «as» ++ Ad9 EV.p [])) fun(«as»:List SV)=>DF JT (Ad9 EV.p «as» ++ Ad9 EV.p []));((∀(i:Nat),let A2:=[I (l.g i).x,I (l.g i).y];i<l.n->A2=A2)/\EN A1/\l.n<=(1000000:Nat)/\∀(i:Nat),i<l.n->True)/\(!BV l.n fun(i:Nat)=>Bi A1 [SV.agg [I (l.g i).x,I (l.g i).y]])=CG l.n fun(i:Nat)=>B8 (l.g i)) (by kernel_rfl) (by
 conv=>zeta
 refine⟨⟨fun _ _=>rfl,Lq oH _,hp,fun _ _=>trivial⟩,?_⟩;rw[Un];exact congrArg (CG l.n) (funext fun i=>Bool.not_not (B8 (l.g i))))
theorem U2:AB Tryz.prog 74 P1:=AP Tryz.func74 (c:=Af Tryz.f74) (by kernel_rfl) mixed (fun args p r hs hp=>by
 unfold U1 at hs;split at hs
 ·cases hs;exact⟨_,_,oJ _ hp.2,(.p (.sl hp.1) .nil),⟨show Aa Tryz.prog _ from(Aa.cons Ul Um (Aa.cons oF oG Aa.nil)),rfl,⟨show Ae Tryz.prog _ from Ae.nil,(AC.none (fun _=>rfl))⟩⟩⟩
 ·cases hs)
theorem U3:Ao Tryz.prog 74:=fun args w=>by kernel_rfl
def U4 (a:L.Pt) (b:L.Pt):Prop:=True
def U5 (a:L.Pt) (b:L.Pt):SV:=.int .i64 (BK a b)
def P2:List EV->Option (Prop×SV)
 |[.p (.agg [.int .i64 a_x,.int .i64 a_y]),.p (.agg [.int .i64 b_x,.int .i64 b_y])]=>some (U4 (⟨a_x,a_y⟩:L.Pt) (⟨b_x,b_y⟩:L.Pt),U5 (⟨a_x,a_y⟩:L.Pt) (⟨b_x,b_y⟩:L.Pt))
 |_=>none
abbrev P3:SE.Spec:=(AM P2)
def oK:Aj:={ cC with specs:=AF [(85,JP),(123,Px)] }
theorem oL (a:L.Pt) (b:L.Pt) (hp:U4 a b):vc Tryz.prog (oK) (Af Tryz.f78) (Ar Tryz.f78 [.p (.agg [.int .i64 a.x,.int .i64 a.y]),.p (.agg [.int .i64 b.x,.int .i64 b.y])]) (AL Tryz.prog Tryz.f78 (U5 a b)):=
 @Eq.mpr _ (let I:=SV.int .i64;let A1:=[I (Bs a.x b.x),I (Bs a.y b.y)];True/\True/\((∀(i:Nat),i<nat_lit 2->Bb A1 (nat_lit 1) i = [I (DG (Bb A1 (nat_lit 1) i))])/\nat_lit 2<=(1000000:Nat))/\G3 (fun(i:Nat)=>DG (Bb A1 (nat_lit 1) i)) (2:Nat)=BK a b) (by kernel_rfl) (by
 conv=>zeta
 exact⟨trivial,trivial,⟨fun i hi=>by match i,hi with|0,_=>rfl|1,_=>rfl,by decide⟩,rfl⟩)
theorem P4:AB Tryz.prog 78 P3:=AP Tryz.func78 (c:=Af Tryz.f78) (by kernel_rfl) mixed (fun args p r hs hp=>by
 unfold P2 at hs;split at hs
 ·cases hs;exact⟨_,_,oL _ _ hp,(.same _ (.same _ .nil)),⟨show Aa Tryz.prog _ from(Aa.cons Lz L0 (Aa.cons TT TU Aa.nil)),rfl,⟨show Ae Tryz.prog _ from Ae.nil,(AC.none (fun _=>rfl))⟩⟩⟩
 ·cases hs)
theorem P5:Ao Tryz.prog 78:=fun args w=>by kernel_rfl
def U6 (a:L.Pt) (b:L.Pt) (p:L.Pt):Prop:=Au a/\Au b/\Au p
def U7 (a:L.Pt) (b:L.Pt) (p:L.Pt):SV:=.bool (C1 a b p)
def U8:List EV->Option (Prop×SV)
 |[.p (.agg [.int .i64 a_x,.int .i64 a_y]),.p (.agg [.int .i64 b_x,.int .i64 b_y]),.p (.agg [.int .i64 p_x,.int .i64 p_y])]=>some (U6 (⟨a_x,a_y⟩:L.Pt) (⟨b_x,b_y⟩:L.Pt) (⟨p_x,p_y⟩:L.Pt),U7 (⟨a_x,a_y⟩:L.Pt) (⟨b_x,b_y⟩:L.Pt) (⟨p_x,p_y⟩:L.Pt))
 |_=>none
abbrev U9:SE.Spec:=(AM U8)
def oM:Aj:={ cC with specs:=AF [(77,IW),(73,Nb)] }
theorem oN (a:L.Pt) (b:L.Pt) (p:L.Pt) (hp:U6 a b p):vc Tryz.prog (oM) (Af Tryz.f160) (Ar Tryz.f160 [.p (.agg [.int .i64 a.x,.int .i64 a.y]),.p (.agg [.int .i64 b.x,.int .i64 b.y]),.p (.agg [.int .i64 p.x,.int .i64 p.y])]) (AL Tryz.prog Tryz.f160 (U7 a b p)):=
 @Eq.mpr _ ((Au a/\Au b/\Au p)/\(decide (Ax a b p=(0:Int))=true->True)/\((bif decide (Ax a b p=(0:Int))then AG p.x (Min.min a.x b.x) (Max.max a.x b.x)else false)=true->True)/\(bif bif decide (Ax a b p=(0:Int))then AG p.x (Min.min a.x b.x) (Max.max a.x b.x)else false then AG p.y (Min.min a.y b.y) (Max.max a.y b.y)else false)=C1 a b p) (by kernel_rfl) (by
 refine⟨hp,fun _=>trivial,fun _=>trivial,?_⟩;unfold C1;cases decide (Ax a b p=0)<;>cases AG p.x (min a.x b.x) (max a.x b.x)<;>rfl)
theorem oO:AB Tryz.prog 160 U9:=AP Tryz.func160 (c:=Af Tryz.f160) (by kernel_rfl) mixed (fun args p r hs hp=>by
 unfold U8 at hs;split at hs
 ·cases hs;exact⟨_,_,oN _ _ _ hp,(.same _ (.same _ (.same _ .nil))),⟨show Aa Tryz.prog _ from(Aa.cons JR JS (Aa.cons Pq Pr Aa.nil)),rfl,⟨show Ae Tryz.prog _ from Ae.nil,(AC.none (fun _=>rfl))⟩⟩⟩
 ·cases hs)
theorem oP:Ao Tryz.prog 160:=fun args w=>by kernel_rfl
def UA (a:L.Pt) (b:L.Pt) (c:L.Pt) (d:L.Pt):Prop:=Au a/\Au b/\Au c/\Au d
def UB (a:L.Pt) (b:L.Pt) (c:L.Pt) (d:L.Pt):SV:=.bool (G4 a b c d)
def UC:List EV->Option (Prop×SV)
 |[.p (.agg [.int .i64 a_x,.int .i64 a_y]),.p (.agg [.int .i64 b_x,.int .i64 b_y]),.p (.agg [.int .i64 c_x,.int .i64 c_y]),.p (.agg [.int .i64 d_x,.int .i64 d_y])]=>some (UA (⟨a_x,a_y⟩:L.Pt) (⟨b_x,b_y⟩:L.Pt) (⟨c_x,c_y⟩:L.Pt) (⟨d_x,d_y⟩:L.Pt),UB (⟨a_x,a_y⟩:L.Pt) (⟨b_x,b_y⟩:L.Pt) (⟨c_x,c_y⟩:L.Pt) (⟨d_x,d_y⟩:L.Pt))
 |_=>none
abbrev UD:SE.Spec:=(AM UC)
def oQ:Aj:={ cC with specs:=AF [(77,IW),(85,JP)] }
theorem oR (a:L.Pt) (b:L.Pt) (c:L.Pt) (d:L.Pt) (hp:UA a b c d):vc Tryz.prog (oQ) (Af Tryz.f161) (Ar Tryz.f161 [.p (.agg [.int .i64 a.x,.int .i64 a.y]),.p (.agg [.int .i64 b.x,.int .i64 b.y]),.p (.agg [.int .i64 c.x,.int .i64 c.y]),.p (.agg [.int .i64 d.x,.int .i64 d.y])]) (AL Tryz.prog Tryz.f161 (UB a b c d)):=
 @Eq.mpr _ ((Au a/\Au b/\Au c)/\True/\(Au a/\Au b/\Au d)/\True/\Ac .i64 (Bs (Ax a b c) (0:Int)*Bs (Ax a b d) (0:Int))/\decide (Bs (Ax a b c) (0:Int)*Bs (Ax a b d) (0:Int)<(0:Int))=G4 a b c d) (by kernel_rfl) (by
 obtain⟨h1,h2,h3,h4⟩:=hp;have c1:=JQ (Ax a b c) 0;have c2:=JQ (Ax a b d) 0;have m:=D4 (m:=1) (n:=1) (by omega) c1.2 (by omega) c2.2;exact⟨⟨h1,h2,h3⟩,trivial,⟨h1,h2,h4⟩,trivial,jK,rfl⟩)
theorem oS:AB Tryz.prog 161 UD:=AP Tryz.func161 (c:=Af Tryz.f161) (by kernel_rfl) mixed (fun args p r hs hp=>by
 unfold UC at hs;split at hs
 ·cases hs;exact⟨_,_,oR _ _ _ _ hp,(.same _ (.same _ (.same _ (.same _ .nil)))),⟨show Aa Tryz.prog _ from(Aa.cons JR JS (Aa.cons Lz L0 Aa.nil)),rfl,⟨show Ae Tryz.prog _ from Ae.nil,(AC.none (fun _=>rfl))⟩⟩⟩
 ·cases hs)
theorem oT:Ao Tryz.prog 161:=fun args w=>by kernel_rfl
end
section
set_option maxRecDepth 100000
set_option maxHeartbeats 4000000
set_option linter.unusedVariables false
attribute [local irreducible] vc
def Bt (p q:L.Pt):Bool:=decide (p.x=q.x)&&decide (p.y=q.y)
def IX (ks:L.Sq L.Pt) (p:L.Pt):Bool:=BV ks.n (fun i=>Bt p (ks.g i))
def Fs (ks:L.Sq L.Pt) (p:L.Pt):L.Sq L.Pt:=bif IX ks p then ks else⟨ks.n+1,fun i=>if i<ks.n then ks.g i else p⟩
def Gh (c:Bool) (ks:L.Sq L.Pt) (p:L.Pt):L.Sq L.Pt:=bif c then Fs ks p else ks
def P6:L.Sq L.Pt:=⟨0,fun _=>⟨0,0⟩⟩
def D6 (a b:L.Pt) (i:Nat):L.Pt:=bif decide (i=0)then a else b
def D7 (a b c d:L.Pt):Nat->L.Sq L.Pt
 |0=>P6
 |n+1=>Gh (C1 c d (D6 a b n)) (D7 a b c d n) (D6 a b n)
def CN (a b c d:L.Pt):Nat->L.Sq L.Pt
 |0=>D7 a b c d 2
 |n+1=>Gh (C1 a b (D6 c d n)) (CN a b c d n) (D6 c d n)
def C7 (a b c d:L.Pt):Int:=bif decide (1<((CN a b c d 2).n:Int))then 3 else bif decide (((CN a b c d 2).n:Int)=1)then 1 else bif (bif G4 a b c d then G4 c d a b else false)then 2 else 0
def DQ (ks:L.Sq L.Pt):Nat->List SV:=fun i=>[.int .i64 (ks.g i).x,.int .i64 (ks.g i).y]
theorem UE {a b:L.Pt} (ha:Au a) (hb:Au b) (i:Nat):Au (D6 a b i):=by
 unfold D6;cases decide (i=0)<;>assumption
theorem HT {ks:L.Sq L.Pt} {p:L.Pt} (h:∃i,i<ks.n/\(decide (p.x=(ks.g i).x)&&decide (p.y=(ks.g i).y))=true):Fs ks p=ks:=by
 have:IX ks p=true:=Gg.2 h;simp[Fs,this]
theorem JB {ks:L.Sq L.Pt} {p:L.Pt} (h:∀i,i<ks.n->(decide (p.x=(ks.g i).x)&&decide (p.y=(ks.g i).y))=false) :
  ks.n+1=(Fs ks p).n/\∀i,i<ks.n+1->Ba ks.n (DQ ks) (fun _=>[.int .i64 p.x,.int .i64 p.y]) i=DQ (Fs ks p) i:=by
 have hn:IX ks p=false:=by
  cases hb:IX ks p with
  |false=>rfl
  |true =>
    obtain⟨i,hi,hq⟩:=Gg.1 hb;rw[show Bt p (ks.g i)=false from h i hi]at hq;cases hq
 simp only[Fs,hn,cond_false,true_and];intro i hi;unfold Ba DQ
 by_cases hlt:i<ks.n<;>simp[hlt]
theorem JU {ks:L.Sq L.Pt} {p:L.Pt}:(Gh false ks p=ks)/\Gh true ks p=Fs ks p:=⟨rfl,rfl⟩
def UF (a:L.Pt) (b:L.Pt) (c:L.Pt) (d:L.Pt):Prop:=Au a/\Au b/\Au c/\Au d
def UG (a:L.Pt) (b:L.Pt) (c:L.Pt) (d:L.Pt):SV:=.int .i64 (C7 a b c d)
def UH:List EV->Option (Prop×SV)
 |[.p (.agg [.int .i64 a_x,.int .i64 a_y]),.p (.agg [.int .i64 b_x,.int .i64 b_y]),.p (.agg [.int .i64 c_x,.int .i64 c_y]),.p (.agg [.int .i64 d_x,.int .i64 d_y])]=>some (UF (⟨a_x,a_y⟩:L.Pt) (⟨b_x,b_y⟩:L.Pt) (⟨c_x,c_y⟩:L.Pt) (⟨d_x,d_y⟩:L.Pt),UG (⟨a_x,a_y⟩:L.Pt) (⟨b_x,b_y⟩:L.Pt) (⟨c_x,c_y⟩:L.Pt) (⟨d_x,d_y⟩:L.Pt))
 |_=>none
abbrev UI:SE.Spec:=(AM UH)
def oU:Aj:={ cC with specs:=AF [(160,U9),(161,UD)] }
theorem oV (a:L.Pt) (b:L.Pt) (c:L.Pt) (d:L.Pt) (hp:UF a b c d):vc Tryz.prog ({ oU with loops:=AY [(3,{ T:=Nat,keep:=[4,5,6,7,8,9,20],keepO:=[],chg:=fun i=>[(21,.p (.int .i64 (i:Int))),(19,.p (.sl 2 2 (fun i=>[.int .i64 ((D6 a b i).x),.int .i64 ((D6 a b i).y)])))],own:=fun i=>[(16,.mp 39 (D7 a b c d i).n (DQ (D7 a b c d i)))],inv:=fun i=>i<=2,mu:=fun i=>2-i }),(9,{ T:=Nat,keep:=[4,5,6,7,8,9,35],keepO:=[],chg:=fun i=>[(36,.p (.int .i64 (i:Int))),(34,.p (.sl 2 2 (fun i=>[.int .i64 ((D6 c d i).x),.int .i64 ((D6 c d i).y)])))],own:=fun i=>[(16,.mp 39 (CN a b c d i).n (DQ (CN a b c d i)))],inv:=fun i=>i<=2,mu:=fun i=>2-i })],rfs:=AU [] }) (Af Tryz.f124) (Ar Tryz.f124 [.p (.agg [.int .i64 a.x,.int .i64 a.y]),.p (.agg [.int .i64 b.x,.int .i64 b.y]),.p (.agg [.int .i64 c.x,.int .i64 c.y]),.p (.agg [.int .i64 d.x,.int .i64 d.y])]) (AL Tryz.prog Tryz.f124 (UG a b c d)):=
 @Eq.mpr _ (let I:=SV.int .i64;let T:=Ad6;let A24:=(1:Nat);let A20:=(bif G4 a b c d then G4 c d a b else false);let A15:=(1:Int);let A14:=(0:Int);let A13:=[I a.x,I a.y];let A12:=[I b.x,I b.y];let A11:=[I c.x,I c.y];let A10:=[I d.x,I d.y];let A9:=(2:Nat);let A8:=(nat_lit 2=A9/\∀(i:Nat),let A21:=[I (D6 c d i).x,I (D6 c d i).y];i<nat_lit 2->A21=A21);let A7:=(nat_lit 2=A9/\∀(i:Nat),let A22:=[I (D6 a b i).x,I (D6 a b i).y];i<nat_lit 2->A22=A22);let A5:=(↑(nat_lit 2):Int);let A1:=(nat_lit 0);(∃(g:Nat),A14=(↑g:Int)/\(nat_lit 2=A9/\∀(i:Nat),i<nat_lit 2->Bb [I a.x,I a.y,I b.x,I b.y] (nat_lit 2) i = [I (D6 a b i).x,I (D6 a b i).y])/\(nat_lit 0=(D7 a b c d g).n/\∀(i:Nat),i<nat_lit 0 -> []=DQ (D7 a b c d g) i)/\g<=A9)/\∀(g:Nat),let A19:=(↑g:Int);let A6:=(D6 a b (T A19));let A4:=(D7 a b c d g);g<=A9->(decide (A19<A5)=true->(A14<=A19/\A19<A5)/\(Au c/\Au d/\Au A6)/\(C1 c d A6=true->(∀(i:Nat),let A17:=(decide (A6.x=(A4.g i).x)&&decide (A6.y=(A4.g i).y));i<A4.n->A17=A17)/\((∃(i:Nat),i<A4.n/\(decide (A6.x=(A4.g i).x)&&decide (A6.y=(A4.g i).y))=true)->Ac .i64 (A19+A15)/\∃(g':Nat),A19+A15=(↑g':Int)/\A7/\A5=A5/\A14=A14/\SV.ref A10 A1=SV.ref A10 A1/\SV.ref A11 A1=SV.ref A11 A1/\SV.ref A12 A1=SV.ref A12 A1/\SV.ref A13 A1=SV.ref A13 A1/\(A4.n=(D7 a b c d g').n/\∀(i:Nat),i<A4.n->DQ A4 i=DQ (D7 a b c d g') i)/\g'<=A9/\A9-g'<A9-g)/\((∀(i:Nat),i<A4.n->(decide (A6.x=(A4.g i).x)&&decide (A6.y=(A4.g i).y))=false)->Ac .i64 (A19+A15)/\∃(g':Nat),A19+A15=(↑g':Int)/\A7/\A5=A5/\A14=A14/\SV.ref A10 A1=SV.ref A10 A1/\SV.ref A11 A1=SV.ref A11 A1/\SV.ref A12 A1=SV.ref A12 A1/\SV.ref A13 A1=SV.ref A13 A1/\(A4.n+A24=(D7 a b c d g').n/\∀(i:Nat),i<A4.n+A24->Ba A4.n (DQ A4) (fun(x:Nat)=>[I A6.x,I A6.y]) i=DQ (D7 a b c d g') i)/\g'<=A9/\A9-g'<A9-g))/\(C1 c d A6=false->Ac .i64 (A19+A15)/\∃(g':Nat),A19+A15=(↑g':Int)/\A7/\A5=A5/\A14=A14/\SV.ref A10 A1=SV.ref A10 A1/\SV.ref A11 A1=SV.ref A11 A1/\SV.ref A12 A1=SV.ref A12 A1/\SV.ref A13 A1=SV.ref A13 A1/\(A4.n=(D7 a b c d g').n/\∀(i:Nat),i<A4.n->DQ A4 i=DQ (D7 a b c d g') i)/\g'<=A9/\A9-g'<A9-g))/\(decide (A19<A5)=false->(∃(g_1:Nat),A14=(↑g_1:Int)/\(nat_lit 2=A9/\∀(i:Nat),i<nat_lit 2->Bb [I c.x,I c.y,I d.x,I d.y] (nat_lit 2) i = [I (D6 c d i).x,I (D6 c d i).y])/\(A4.n=(CN a b c d g_1).n/\∀(i:Nat),i<A4.n->DQ A4 i=DQ (CN a b c d g_1) i)/\g_1<=A9)/\∀(g_1:Nat),let A16:=(↑g_1:Int);let A3:=(D6 c d (T A16));let A2:=(CN a b c d g_1);let A23:=(↑A2.n:Int);g_1<=A9->(decide (A16<A5)=true->(A14<=A16/\A16<A5)/\(Au a/\Au b/\Au A3)/\(C1 a b A3=true->(∀(i:Nat),let A18:=(decide (A3.x=(A2.g i).x)&&decide (A3.y=(A2.g i).y));i<A2.n->A18=A18)/\((∃(i:Nat),i<A2.n/\(decide (A3.x=(A2.g i).x)&&decide (A3.y=(A2.g i).y))=true)->Ac .i64 (A16+A15)/\∃(g':Nat),A16+A15=(↑g':Int)/\A8/\A5=A5/\A14=A14/\SV.ref A10 A1=SV.ref A10 A1/\SV.ref A11 A1=SV.ref A11 A1/\SV.ref A12 A1=SV.ref A12 A1/\SV.ref A13 A1=SV.ref A13 A1/\(A2.n=(CN a b c d g').n/\∀(i:Nat),i<A2.n->DQ A2 i=DQ (CN a b c d g') i)/\g'<=A9/\A9-g'<A9-g_1)/\((∀(i:Nat),i<A2.n->(decide (A3.x=(A2.g i).x)&&decide (A3.y=(A2.g i).y))=false)->Ac .i64 (A16+A15)/\∃(g':Nat),A16+A15=(↑g':Int)/\A8/\A5=A5/\A14=A14/\SV.ref A10 A1=SV.ref A10 A1/\SV.ref A11 A1=SV.ref A11 A1/\SV.ref A12 A1=SV.ref A12 A1/\SV.ref A13 A1=SV.ref A13 A1/\(A2.n+A24=(CN a b c d g').n/\∀(i:Nat),i<A2.n+A24->Ba A2.n (DQ A2) (fun(x:Nat)=>[I A3.x,I A3.y]) i=DQ (CN a b c d g') i)/\g'<=A9/\A9-g'<A9-g_1))/\(C1 a b A3=false->Ac .i64 (A16+A15)/\∃(g':Nat),A16+A15=(↑g':Int)/\A8/\A5=A5/\A14=A14/\SV.ref A10 A1=SV.ref A10 A1/\SV.ref A11 A1=SV.ref A11 A1/\SV.ref A12 A1=SV.ref A12 A1/\SV.ref A13 A1=SV.ref A13 A1/\(A2.n=(CN a b c d g').n/\∀(i:Nat),i<A2.n->DQ A2 i=DQ (CN a b c d g') i)/\g'<=A9/\A9-g'<A9-g_1))/\(decide (A16<A5)=false->(decide (A15<A23)=true->(3:Int)=C7 a b c d)/\(decide (A15<A23)=false->(decide (A23=A15)=true->A15=C7 a b c d)/\(decide (A23=A15)=false->(Au a/\Au b/\Au c/\Au d)/\(G4 a b c d=true->Au c/\Au d/\Au a/\Au b)/\(A20=true->(2:Int)=C7 a b c d)/\(A20=false->A14=C7 a b c d)))))) (by kernel_rfl) (by
 conv=>zeta
 obtain⟨ha,hb,hc,hd⟩:=hp;refine⟨⟨(0:Nat),rfl,⟨rfl,fun i hi=>by match i,hi with|0,_=>rfl|1,_=>rfl⟩,⟨rfl,fun i hi=>absurd hi (oE _)⟩,by decide⟩,fun g hg=>⟨fun hlt=>?_,fun hge=>?_⟩⟩
 ·have hb1:(g:Int)<2:=by simpa using hlt
  have e0:((g:Int)).toNat=g:=by omega
  rw[e0];refine⟨⟨by omega,hb1⟩,⟨hc,hd,UE ha hb g⟩,fun hon=>⟨fun _ _=>rfl,fun hex=>⟨jK,g+1,by omega,⟨rfl,fun _ _=>rfl⟩,rfl,rfl,rfl,rfl,rfl,rfl,?_,by omega,by omega⟩,fun hnx=>⟨jK,g+1,by omega,⟨rfl,fun _ _=>rfl⟩,rfl,rfl,rfl,rfl,rfl,rfl,?_,by omega,by omega⟩⟩,fun hon=>⟨jK,g+1,by omega,⟨rfl,fun _ _=>rfl⟩,rfl,rfl,rfl,rfl,rfl,rfl,?_,by omega,by omega⟩⟩
  ·rw[show D7 a b c d (g+1)=D7 a b c d g by rw[D7,hon,JU.2,HT hex]];exact⟨rfl,fun _ _=>rfl⟩
  ·rw[D7,hon,JU.2];exact JB hnx
  ·rw[show D7 a b c d (g+1)=D7 a b c d g by rw[D7,hon,JU.1]];exact⟨rfl,fun _ _=>rfl⟩
 ·have hb1:¬ (g:Int)<2:=by simpa using hge
  obtain rfl:g=2:=by omega
  refine⟨⟨(0:Nat),rfl,⟨rfl,fun i hi=>by match i,hi with|0,_=>rfl|1,_=>rfl⟩,⟨rfl,fun i hi=>rfl⟩,by decide⟩,fun g hg=>⟨fun hlt=>?_,fun hge=>?_⟩⟩
  ·have hb1:(g:Int)<2:=by simpa using hlt
   have e0:((g:Int)).toNat=g:=by omega
   rw[e0];refine⟨⟨by omega,hb1⟩,⟨ha,hb,UE hc hd g⟩,fun hon=>⟨fun _ _=>rfl,fun hex=>⟨jK,g+1,by omega,⟨rfl,fun _ _=>rfl⟩,rfl,rfl,rfl,rfl,rfl,rfl,?_,by omega,by omega⟩,fun hnx=>⟨jK,g+1,by omega,⟨rfl,fun _ _=>rfl⟩,rfl,rfl,rfl,rfl,rfl,rfl,?_,by omega,by omega⟩⟩,fun hon=>⟨jK,g+1,by omega,⟨rfl,fun _ _=>rfl⟩,rfl,rfl,rfl,rfl,rfl,rfl,?_,by omega,by omega⟩⟩
   ·rw[show CN a b c d (g+1)=CN a b c d g by rw[CN,hon,JU.2,HT hex]];exact⟨rfl,fun _ _=>rfl⟩
   ·rw[CN,hon,JU.2];exact JB hnx
   ·rw[show CN a b c d (g+1)=CN a b c d g by rw[CN,hon,JU.1]];exact⟨rfl,fun _ _=>rfl⟩
  ·have hb1:¬ (g:Int)<2:=by simpa using hge
   obtain rfl:g=2:=by omega
   unfold C7;refine⟨fun h=>by rw[h];rfl,fun h=>⟨fun h'=>by rw[h,h'];rfl,fun h'=>⟨⟨ha,hb,hc,hd⟩,fun _=>⟨hc,hd,ha,hb⟩,fun q=>by rw[h,h',q];rfl,fun q=>by rw[h,h',q];rfl⟩⟩⟩)
theorem oW:AB Tryz.prog 124 UI:=AP Tryz.func124 (c:=Af Tryz.f124) (by kernel_rfl) mixed (fun args p r hs hp=>by
 unfold UH at hs;split at hs
 ·cases hs;exact⟨_,_,oV _ _ _ _ hp,(.same _ (.same _ (.same _ (.same _ .nil)))),⟨show Aa Tryz.prog _ from(Aa.cons oO oP (Aa.cons oS oT Aa.nil)),rfl,⟨show Ae Tryz.prog _ from Ae.nil,(AC.none (fun _=>rfl))⟩⟩⟩
 ·cases hs)
theorem oX:Ao Tryz.prog 124:=fun args w=>by kernel_rfl
end
section
set_option maxRecDepth 100000
set_option maxHeartbeats 4000000
set_option linter.unusedVariables false
attribute [local irreducible] vc
def L1 (l:L.Sq L.Pt) (i k:Nat):Bool:=bif decide ((k:Int)=(i:Int)+1)then true else bif decide ((i:Int)=0)then decide ((k:Int)=(l.n:Int)-1)else false
def JV (l:L.Sq L.Pt) (i k:Nat):Int:=C7 (l.g i) (l.g (i+1)) (l.g k) (l.g (BE l.n k))
def BZ (l:L.Sq L.Pt) (i k:Nat):Bool:=bif L1 l i k then decide (JV l i k=1)else decide (JV l i k=0)
def DR (l:L.Sq L.Pt):Bool:=CG l.n (fun i=>CG l.n (fun k=>!decide (i<k)||BZ l i k))
def Ig (l:L.Sq L.Pt):Prop:=l.n<=1000/\∀i,i<l.n->Au (l.g i)
def UJ (l:(L.Sq L.Pt)):Prop:=Ig l
def UK (l:(L.Sq L.Pt)):SV:=.bool (DR l)
def UL:List EV->Option (Prop×SV)
 |[.p (.sl 2 l_n l_g)]=>some ((∀i,i<l_n->l_g i = [.int .i64 ((Ai (l_g i)).x),.int .i64 ((Ai (l_g i)).y)])/\UJ (⟨l_n,fun i=>Ai (l_g i)⟩:(L.Sq L.Pt)),UK (⟨l_n,fun i=>Ai (l_g i)⟩:(L.Sq L.Pt)))
 |_=>none
abbrev UM:SE.Spec:=(AM UL)
def oY:Aj:={ cC with specs:=AF [(124,UI)] }
theorem oZ (l:(L.Sq L.Pt)) (hp:UJ l):vc Tryz.prog ({ oY with loops:=AY [(3,{ T:=Nat,keep:=[0,3,11],keepO:=[],chg:=fun i=>[(12,.p (.int .i64 (i:Int)))],own:=fun _=>[],inv:=fun i=>i<=l.n/\∀j,j<i->∀k,j<k->k<l.n->BZ l j k=true,mu:=fun i=>l.n-i }),(6,{ T:=Nat×Nat,keep:=[0,3,4,11,12],keepO:=[],tie:=fun i=>[(4,.int .i64 (i.1:Int)),(12,.int .i64 (i.1:Int))],chg:=fun i=>[(5,.p (.int .i64 (i.2:Int)))],own:=fun _=>[],inv:=fun i=>i.1<i.2/\i.2<=l.n/\(∀j,j<i.1->∀k,j<k->k<l.n->BZ l j k=true)/\∀k,i.1<k->k<i.2->BZ l i.1 k=true,mu:=fun i=>l.n-i.2 })],rfs:=AU [] }) (Af Tryz.f79) (Ar Tryz.f79 [.p (.sl 2 l.n (fun i=>[.int .i64 ((l.g i).x),.int .i64 ((l.g i).y)]))]) (AL Tryz.prog Tryz.f79 (UK l)):=
 @Eq.mpr _ (let I:=SV.int .i64;let T:=Ad6;let M:=AdF;let A7:=(0:Int);let A6:=(l.n=l.n/\∀(i:Nat),let A11:=[I (l.g i).x,I (l.g i).y];i<l.n->A11=A11);let A5:=(1:Int);let A3:=(↑l.n:Int);(∃(g:Nat),A7=(↑g:Int)/\g<=l.n/\∀(j:Nat),j<g->∀(k:Nat),j<k->k<l.n->BZ l j k=true)/\∀(g:Nat),let A2:=(↑g:Int);let A12:=(l.g (T A2));let A9:=(A2+A5);let A13:=(l.g (T A9));(g<=l.n/\∀(j:Nat),j<g->∀(k:Nat),j<k->k<l.n->BZ l j k=true)->(decide (A2<A3)=true->Ac .i64 A9/\(∃(g_1:Nat×Nat),A2+A5=(↑g_1.2:Int)/\A2=(↑g_1.1:Int)/\A2=(↑g_1.1:Int)/\g_1.1<g_1.2/\g_1.2<=l.n/\(∀(j:Nat),j<g_1.1->∀(k:Nat),j<k->k<l.n->BZ l j k=true)/\∀(k:Nat),g_1.1<k->k<g_1.2->BZ l g_1.1 k=true)/\∀(g_1:Nat×Nat),let A4:=(↑g_1.2:Int);let A14:=(l.g (T A4));let A10:=(A4+A5);let A8:=(l.g (T (M A10 A3)));let A1:=(bif bif bif decide (A4=A2+A5)then true else bif decide (A2=A7)then decide (A4=A3-A5)else false then !decide (C7 A12 A13 A14 A8=A5)else false then true else bif !bif decide (A4=A2+A5)then true else bif decide (A2=A7)then decide (A4=A3-A5)else false then !decide (C7 A12 A13 A14 A8=A7)else false);(A2=(↑g_1.1:Int)/\A2=(↑g_1.1:Int)/\g_1.1<g_1.2/\g_1.2<=l.n/\(∀(j:Nat),j<g_1.1->∀(k:Nat),j<k->k<l.n->BZ l j k=true)/\∀(k:Nat),g_1.1<k->k<g_1.2->BZ l g_1.1 k=true)->(decide (A4<A3)=true->(A7<=A2/\A2<A3)/\Ac .i64 A9/\(A7<=A2+A5/\A2+A5<A3)/\(A7<=A4/\A4<A3)/\Ac .i64 A10/\A3≠A7/\(A7<=M A10 A3/\M A10 A3<A3)/\(Au A12/\Au A13/\Au A14/\Au A8)/\Ac .i64 A9/\((!decide (A4=A2+A5)&&decide (A2=A7))=true->Ac .i64 (A3-A5))/\(A1=true->false=DR l)/\(A1=false->Ac .i64 A10/\∃(g':Nat×Nat),A4+A5=(↑g'.2:Int)/\A2=A2/\A2=A2/\A3=A3/\A3=A3/\A6/\(A2=(↑g'.1:Int)/\A2=(↑g'.1:Int)/\g'.1<g'.2/\g'.2<=l.n/\(∀(j:Nat),j<g'.1->∀(k:Nat),j<k->k<l.n->BZ l j k=true)/\∀(k:Nat),g'.1<k->k<g'.2->BZ l g'.1 k=true)/\l.n-g'.2<l.n-g_1.2))/\(decide (A4<A3)=false->Ac .i64 A9/\∃(g':Nat),A2+A5=(↑g':Int)/\A3=A3/\A3=A3/\A6/\(g'<=l.n/\∀(j:Nat),j<g'->∀(k:Nat),j<k->k<l.n->BZ l j k=true)/\l.n-g'<l.n-g))/\(decide (A2<A3)=false->true=DR l)) (by kernel_rfl) (by
 conv=>zeta
 obtain⟨hn,hb⟩:=hp;have fin0:∀{i k:Nat},i<k->k<l.n->BZ l i k=false->false=DR l:=fun {i k} hik hk h=>by
  unfold DR;rw[Hw (i:=i) (by omega) (Hw (i:=k) hk (by simp[hik,h]))]
 refine⟨⟨(0:Nat),rfl,Ads _,fun j hj=>absurd hj (oE _)⟩,fun g hg=>⟨fun hlt=>?_,fun hge=>?_⟩⟩
 ·have hb1:(g:Int)<(l.n:Int):=by simpa using hlt
  refine⟨jK,⟨(g,g+1),by simp,rfl,rfl,by simp,by simp;omega,hg.2,fun k h1 h2=>by simp at h1 h2;omega⟩,?_⟩;rintro⟨i,k⟩ ⟨e1,e2,hik,hkn,h0,h1⟩;simp only at e1 e2 hik hkn h0 h1;obtain rfl:i=g:=by omega
  refine⟨fun hlt2=>?_,fun hge2=>?_⟩
  ·have hk:(k:Int)<(l.n:Int):=by simpa using hlt2
   have t3:=Ae0 (l.n:Int) (show 0<=(k:Int)+1 by omega);have t4:=Aen ((k:Int)+1) (show 0<(l.n:Int)by omega);have c1:((i:Int)).toNat=i:=by omega
   have c2:((i:Int)+1).toNat=i+1:=by omega
   have c3:((k:Int)).toNat=k:=by omega
   have c4:(AdF ((k:Int)+1) (l.n:Int)).toNat=BE l.n k:=rfl;have c5:BE l.n k<l.n:=GW (by omega);dsimp only;rw[c1,c2,c3,c4];have key:(bif (bif (bif decide ((k:Int)=(i:Int)+1)then true else bif decide ((i:Int)=0)then decide ((k:Int)=(l.n:Int)-1)else false)then !decide (C7 (l.g i) (l.g (i+1)) (l.g k) (l.g (BE l.n k))=1)else false)then true else bif !(bif decide ((k:Int)=(i:Int)+1)then true else bif decide ((i:Int)=0)then decide ((k:Int)=(l.n:Int)-1)else false)then !decide (C7 (l.g i) (l.g (i+1)) (l.g k) (l.g (BE l.n k))=0)else false)= !BZ l i k:=by
    unfold BZ L1 JV;generalize (bif decide ((k:Int)=(i:Int)+1)then true else bif decide ((i:Int)=0)then decide ((k:Int)=(l.n:Int)-1)else false)=q;generalize decide (C7 (l.g i) (l.g (i+1)) (l.g k) (l.g (BE l.n k))=1)=q1;generalize decide (C7 (l.g i) (l.g (i+1)) (l.g k) (l.g (BE l.n k))=0)=q2;cases q<;>cases q1<;>cases q2<;>rfl
   rw[key];refine⟨by omega,jK,by omega,by omega,jK,by omega,⟨t3,t4⟩,⟨hb i (by omega),hb (i+1) (by omega),hb k (by omega),hb _ c5⟩,jK,fun _=>jK,fun h=>fin0 hik (by omega) (by simpa using h),fun h=>?_⟩;have hok:BZ l i k=true:=by simpa using h
   refine⟨jK,(i,k+1),by simp,rfl,rfl,rfl,rfl,⟨rfl,fun _ _=>rfl⟩,⟨rfl,rfl,by simp;omega,by simp;omega,h0,fun m hm1 hm2=>?_⟩,by simp;omega⟩;dsimp only at hm1 hm2 ⊢;rcases Ad1.1 hm2 with h'|rfl
   ·exact h1 m hm1 h'
   ·exact hok
  ·have hk:¬ (k:Int)<(l.n:Int):=by simpa using hge2
   refine⟨jK,i+1,by omega,rfl,rfl,⟨rfl,fun _ _=>rfl⟩,⟨by omega,fun j hj m hm1 hm2=>?_⟩,by omega⟩;rcases Ad1.1 hj with h'|rfl
   ·exact h0 j h' m hm1 hm2
   ·exact h1 m hm1 (by omega)
 ·have hb1:¬ (g:Int)<(l.n:Int):=by simpa using hge
  unfold DR;rw[Dk.2 (fun i hi=>Dk.2 (fun k hk=>?_))]
  by_cases hik:i<k
  ·simp[hik,hg.2 i (by omega) k hik hk]
  ·simp[hik])
theorem pA:AB Tryz.prog 79 UM:=AP Tryz.func79 (c:=Af Tryz.f79) (by kernel_rfl) mixed (fun args p r hs hp=>by
 unfold UL at hs;split at hs
 ·cases hs;exact⟨_,_,oZ _ hp.2,(.p (.sl hp.1) .nil),⟨show Aa Tryz.prog _ from(Aa.cons oW oX Aa.nil),rfl,⟨show Ae Tryz.prog _ from Ae.nil,(AC.none (fun _=>rfl))⟩⟩⟩
 ·cases hs)
theorem pB:Ao Tryz.prog 79:=fun args w=>by kernel_rfl
end
section
set_option maxRecDepth 100000
set_option maxHeartbeats 4000000
set_option linter.unusedVariables false
attribute [local irreducible] vc
def Er (l:L.Sq L.Pt) (k:Nat):Bool:=!(bif decide (Ax (l.g (Eg l.n k)) (l.g k) (l.g (BE l.n k))=0)then true else bif decide (0<(k:Int))then decide (0<=BK (l.g 0) (l.g k))else false)
def DH (l:L.Sq L.Pt):Bool:=CG l.n (fun i=>B8 (l.g i))
def Gi (l:L.Sq L.Pt):Bool:=bif (bif !AG (l.n:Int) 3 24 then true else !DH l)then false else decide (0<B7 l l.n)
def AA (l:L.Sq L.Pt):Bool:=Gi l&&(CG l.n (Er l)&&DR l)
def FF (l:L.Sq L.Pt) (k:Nat):Int:=Bs (Ax (l.g (Eg l.n k)) (l.g k) (l.g (BE l.n k))) 0
theorem P7 {n k:Nat} (h:0<n):Eg n k<n:=by
 have t3:=Ae0 (n:Int) (show 0<=(k:Int)+(n:Int)-1 by omega);have t4:=Aen ((k:Int)+(n:Int)-1) (show 0<(n:Int)by omega);unfold Eg;omega
theorem Hz {n a b:Int}:AG n a b=true↔a<=n/\n<=b:=by simp[AG]
theorem P8 {l:L.Sq L.Pt} (h:AG (l.n:Int) 3 24=true) (h':DH l=true):3<=l.n/\l.n<=24/\Ep l/\Ig l:=by
 obtain⟨h1,h2⟩:=Hz.1 h;have hb:∀i,i<l.n->Au (l.g i):=fun i hi=>nV (Dk.1 h' i hi);exact⟨by omega,by omega,⟨by omega,hb⟩,⟨by omega,hb⟩⟩
theorem pC (l:L.Sq L.Pt):(bif (bif !AG (l.n:Int) 3 24 then true else !(CG l.n fun i=>B8 (l.g i)))then true else decide (B7 l l.n<=0))= !Gi l:=by
 unfold Gi DH;have:decide (0<B7 l l.n)= !decide (B7 l l.n<=0):=by
  by_cases h:B7 l l.n<=0<;>simp[h]<;>omega
 rw[this];generalize decide (B7 l l.n<=0)=q;cases AG (l.n:Int) 3 24<;>cases(CG l.n fun i=>B8 (l.g i))<;>cases q<;>rfl
theorem UN {l:L.Sq L.Pt} (h:Gi l=true):3<=l.n/\l.n<=24/\Ep l/\Ig l:=by
 unfold Gi at h;cases h1:AG (l.n:Int) 3 24 with
 |false=>simp[h1]at h
 |true=>cases h2:DH l with
   |false=>simp[h1,h2]at h
   |true=>exact P8 h1 h2
theorem Dw {l:L.Sq L.Pt} (h:AA l=true):3<=l.n/\l.n<=24/\Ep l/\Ig l:=UN (Bool.and_eq_true_iff.1 h).1
theorem CV {b:Bool} (h:(!b)=true):b=false:=by cases b with|false=>rfl|true=>cases h
theorem Cl {b:Bool} (h:(!b)=false):b=true:=by cases b with|true=>rfl|false=>cases h
theorem pD {n:Nat} {f:Nat->Bool} (h:∀i,i<n->f i=false):BV n f=false:=by
 cases h':BV n f with
 |false=>rfl
 |true =>
   obtain⟨i,hi,h1⟩:=Gg.1 h';rw[h i hi]at h1;cases h1
theorem pE {n:Nat} {f g:Nat->Bool} (h:∀i,i<n->f i=g i):BV n f=BV n g:=by
 rw[Bool.eq_iff_iff,Gg,Gg];exact⟨fun⟨i,hi,e⟩=>⟨i,hi,by rw[<- h i hi];exact e⟩,fun⟨i,hi,e⟩=>⟨i,hi,by rw[h i hi];exact e⟩⟩
def UO (l:(L.Sq L.Pt)):Prop:=l.n<=1000000
def UP (l:(L.Sq L.Pt)):SV:=.bool (AA l)
def UQ:List EV->Option (Prop×SV)
 |[.p (.sl 2 l_n l_g)]=>some ((∀i,i<l_n->l_g i = [.int .i64 ((Ai (l_g i)).x),.int .i64 ((Ai (l_g i)).y)])/\UO (⟨l_n,fun i=>Ai (l_g i)⟩:(L.Sq L.Pt)),UP (⟨l_n,fun i=>Ai (l_g i)⟩:(L.Sq L.Pt)))
 |_=>none
abbrev JW:SE.Spec:=(AM UQ)
def pF:Aj:={ cC with specs:=AF [(73,Nb),(74,P1),(75,Pv),(76,Lx),(77,IW),(78,P3),(79,UM)],iters:=B6 [(122,Lw)] }
theorem pG (l:(L.Sq L.Pt)) (hp:UO l):vc Tryz.prog ({ pF with loops:=AY [],rfs:=AU [(4,{ T:=Nat,keep:=[1,2],keepO:=[2],own:=fun k _=>[],inv:=fun k _=>∀j,j<k->Er l j=true })] }) (Af Tryz.f37) (Ar Tryz.f37 [.p (.sl 2 l.n (fun i=>[.int .i64 ((l.g i).x),.int .i64 ((l.g i).y)]))]) (AL Tryz.prog Tryz.f37 (UP l)):=
 @Eq.mpr _ (let I:=SV.int .i64;let T:=Ad6;let M:=AdF;let A17:=(nat_lit 1);let A16:=(nat_lit 0);let A14:=(1:Int);let A13:=(nat_lit 2);let A12:=(↑(3:Nat):Int);let A10:=(↑l.n:Int);let A9:=(L.Sq.mk l.n fun(i:Nat)=>l.g i);let A8:=(0:Int);let A5:=[SV.sl A13 l.n fun(i:Nat)=>[I (l.g i).x,I (l.g i).y]];let A4:=(bif bif !AG A10 (3:Int) (24:Int)then true else !CG l.n fun(i:Nat)=>B8 (l.g i)then true else decide (B7 (L.Sq.mk l.n fun(i:Nat)=>l.g i) l.n<=A8));let A3:=(∀(i:Nat),let A18:=[I (l.g i).x,I (l.g i).y];i<l.n->A18=A18);let A19:=(A3/\l.n<=(1000:Nat));True/\((!!AG A10 (3:Int) (24:Int))=true->A3/\l.n<=(1000000:Nat))/\((!bif !AG A10 (3:Int) (24:Int)then true else !CG l.n fun(i:Nat)=>B8 (l.g i))=true->A3/\Ep A9)/\(A4=true->false=AA l)/\(A4=false->A19/\(A19/\∃(t:Nat),false=false/\∀(j:Nat),j<(0:Nat)->Er l j=true)/\(∀(k t:Nat) (vk:Nat->Go.Value),let A15:=(↑k:Int);let A11:=(l.g (T A15));let A7:=(l.g (T (M (A15+A14) A10)));let A6:=(l.g (T (M (A15+A10-A14) A10)));let A2:=(bif decide (Ax A6 A11 A7=A8)then true else bif decide (A8<A15)then decide (A8<=BK (l.g (T A8)) A11)else false);let A1:=(!decide (Ax A6 A11 A7=A8)&&decide (A8<A15));k<l.n->(∀(j:Nat),j<k->Er l j=true)->(A8<=A8/\A8<A12)/\(A8<=A14/\A14<A12)/\(A8<=(2:Int)/\(2:Int)<A12)/\(Au A6/\Au A11/\Au A7)/\(A1=true->A8<=A8/\A8<A10)/\(A1=true->A8<=A14/\A14<A12)/\(A1=true->True)/\(A2=true->nat_lit 0=nat_lit 0/\SV.ref A5 A16=SV.ref A5 A16/\vk A13=vk A13/\vk A17=vk A17/\false=AA l)/\(A2=false->∃(t':Nat),nat_lit 0=nat_lit 0/\SV.ref A5 A16=SV.ref A5 A16/\vk A13=vk A13/\vk A17=vk A17/\false=false/\∀(j:Nat),j<k+(1:Nat)->Er l j=true))/\∀(t:Nat),(∀(j:Nat),j<l.n->Er l j=true)->(A3/\Ig A9)/\DR A9=AA l)) (by kernel_rfl) (by
 conv=>zeta
 have hn:l.n<=1000000:=hp;have e3:=pC l;refine⟨trivial,fun _=>⟨fun _ _=>rfl,hn⟩,fun h=>⟨fun _ _=>rfl,?_⟩,fun h=>?_,fun h=>?_⟩
 ·cases h1:AG (l.n:Int) 3 24 with
  |false=>simp[h1]at h
  |true=>cases h2:DH l with
    |false=>rw[h1]at h;rw[show(CG l.n fun i=>B8 (l.g i))=false from h2]at h;simp at h
    |true=>exact(P8 h1 h2).2.2.1
 ·have h:=e3.symm.trans h;have:Gi l=false:=by simpa using h
  unfold AA;rw[this];rfl
 ·have h:=e3.symm.trans h;have hv:Gi l=true:=by simpa using h
  obtain⟨n3,n24,hsm,hbd⟩:=UN hv;refine⟨⟨fun _ _=>rfl,by omega⟩,⟨⟨fun _ _=>rfl,by omega⟩,(0:Nat),rfl,fun j hj=>absurd hj (oE _)⟩,fun k t vk hk hi=>?_,fun t hi=>?_⟩
  ·have c1:(AdF ((k:Int)+(l.n:Int)-1) (l.n:Int)).toNat=Eg l.n k:=rfl;have c2:((k:Int)).toNat=k:=by omega
   have c3:(AdF ((k:Int)+1) (l.n:Int)).toNat=BE l.n k:=rfl;rw[c1,c2,c3];have key:(bif decide (Ax (l.g (Eg l.n k)) (l.g k) (l.g (BE l.n k))=0)then true else bif decide (0<(k:Int))then decide (0<=BK (l.g (Ad6 0)) (l.g k))else false)= !Er l k:=by
    unfold Er;rw[Bool.not_not];rfl
   rw[key];refine⟨by omega,by omega,by omega,⟨hbd.2 _ (P7 (by omega)),hbd.2 _ hk,hbd.2 _ (GW (by omega))⟩,fun _=>by omega,fun _=>by omega,fun _=>trivial,fun h=>⟨rfl,rfl,rfl,rfl,?_⟩,fun h=>⟨t,rfl,rfl,rfl,rfl,rfl,fun j hj=>?_⟩⟩
   ·have:Er l k=false:=by simpa using h
    unfold AA;rw[Hw hk this];simp
   ·rcases Ad1.1 hj with h'|rfl
    ·exact hi j h'
    ·simpa using h
  ·refine⟨⟨fun _ _=>rfl,hbd⟩,?_⟩;unfold AA;rw[hv,Dk.2 hi];rfl)
theorem L2:AB Tryz.prog 37 JW:=AP Tryz.func37 (c:=Af Tryz.f37) (by kernel_rfl) mixed (fun args p r hs hp=>by
 unfold UQ at hs;split at hs
 ·cases hs;exact⟨_,_,pG _ hp.2,(.p (.sl hp.1) .nil),⟨show Aa Tryz.prog _ from(Aa.cons Pq Pr (Aa.cons U2 U3 (Aa.cons TG TH (Aa.cons Ng Nh (Aa.cons JR JS (Aa.cons P4 P5 (Aa.cons pA pB Aa.nil))))))),rfl,⟨show Ae Tryz.prog _ from(Ae.cons Nd Nf Ae.nil),(AC.none (fun _=>rfl))⟩⟩⟩
 ·cases hs)
theorem L3:Ao Tryz.prog 37:=fun args w=>by kernel_rfl
def UR (l:(L.Sq L.Pt)):Prop:=l.n<=1000000
def US (l:(L.Sq L.Pt)):SV:=.tup [.sl 1 (bif AA l then l.n else 0) (fun k=>[.int .i64 (FF l k)]),.int .i64 (bif AA l then 0 else 1)]
def UT:List EV->Option (Prop×SV)
 |[.p (.sl 2 l_n l_g)]=>some ((∀i,i<l_n->l_g i = [.int .i64 ((Ai (l_g i)).x),.int .i64 ((Ai (l_g i)).y)])/\UR (⟨l_n,fun i=>Ai (l_g i)⟩:(L.Sq L.Pt)),US (⟨l_n,fun i=>Ai (l_g i)⟩:(L.Sq L.Pt)))
 |_=>none
abbrev UU:SE.Spec:=(AM UT)
def pH:Aj:={ cC with specs:=AF [(37,JW),(76,Lx),(77,IW),(85,JP)],iters:=B6 [(122,Lw)] }
theorem pI (l:(L.Sq L.Pt)) (hp:UR l):vc Tryz.prog ({ pH with loops:=AY [],rfs:=AU [(5,{ T:=Nat,keep:=[0,2,3,4],keepO:=[],own:=fun k _=>[(4,.blk 69 [.row 12]),(12,.row 3 1 l.n (fun i=>[.int .i64 (bif decide (i<k)then FF l i else 0)]))],inv:=fun k _=>True })] }) (Af Tryz.f134) (Ar Tryz.f134 [.p (.sl 2 l.n (fun i=>[.int .i64 ((l.g i).x),.int .i64 ((l.g i).y)]))]) (AL Tryz.prog Tryz.f134 (US l)):=
 @Eq.mpr _ (let I:=SV.int .i64;let T:=Ad6;let A9:=(↑(3:Nat):Int);let A7:=(0:Nat);let A6:=(1:Int);let A5:=(!AA (L.Sq.mk l.n fun(i:Nat)=>l.g i));let A3:=(0:Int);let A2:=(↑l.n:Int);let A1:=(∀(i:Nat),let A11:=[I (l.g i).x,I (l.g i).y];i<l.n->A11=A11);let A13:=(A1/\l.n<=(1000:Nat));(A1/\l.n<=(1000000:Nat))/\(A5=true->(bif AA l then l.n else A7)=A7/\A6=bif AA l then A3 else A6)/\(A5=false->(A3<=A2/\A2<=A2/\A2*(↑(nat_lit 8):Int)<=(140737488355328:Int))/\A13/\(A13/\∃(t:Nat),(T A2=l.n/\∀(i:Nat),i<T A2 -> [I A3]= [I (bif decide (i<A7)then FF l i else A3)])/\True)/\(∀(k t:Nat) (vk:Nat->Go.Value),let A4:=(↑k:Int);let A10:=(l.g (T (AdF (A4+A6) A2)));let A8:=(l.g (T (AdF (A4+A2-A6) A2)));k<l.n->True->(A3<=A3/\A3<A9)/\(A3<=A6/\A6<A9)/\(A3<=(2:Int)/\(2:Int)<A9)/\(Au A8/\Au (l.g (T A4))/\Au A10)/\True/\(A3<=A4/\A4<A2)/\T A4<l.n/\∃(t':Nat),nat_lit 0=nat_lit 0/\A3=A3/\Value.slice Option.none A7 A7=Value.slice Option.none A7 A7/\(l.n=l.n/\∀(i:Nat),let A12:=[I (l.g i).x,I (l.g i).y];i<l.n->A12=A12)/\vk (nat_lit 4)=vk (nat_lit 4)/\vk (nat_lit 3)=vk (nat_lit 3)/\vk (nat_lit 2)=vk (nat_lit 2)/\vk (nat_lit 0)=vk (nat_lit 0)/\(l.n=l.n/\∀(i:Nat),i<l.n->setRow (fun(i:Nat)=>[I (bif decide (i<k)then FF l i else A3)]) (T A4) (nat_lit 0) [I (Bs (Ax A8 (l.g (T A4)) A10) A3)] i = [I (bif decide (i<k+(1:Nat))then FF l i else A3)])/\True)/\∀(t:Nat),True->((l.n=bif AA l then l.n else A7)/\∀(i:Nat),i<l.n -> [I (bif decide (i<l.n)then FF l i else A3)]= [I (FF l i)])/\A3=bif AA l then A3 else A6)) (by kernel_rfl) (by
 conv=>zeta
 have hn:l.n<=1000000:=hp;refine⟨⟨fun _ _=>rfl,hn⟩,fun h=>?_,fun h=>?_⟩
 ·have hv:AA l=false:=by simpa using (show(!AA l)=true from h)
  rw[hv];exact⟨rfl,rfl⟩
 ·have hv:AA l=true:=by simpa using (show(!AA l)=false from h)
  obtain⟨n3,n24,hsm,hbd⟩:=Dw hv;refine⟨⟨by omega,by omega,show(l.n:Int)*8<=140737488355328 by omega⟩,⟨fun _ _=>rfl,by omega⟩,⟨⟨fun _ _=>rfl,by omega⟩,(0:Nat),⟨by omega,fun i hi=>rfl⟩,trivial⟩,fun k t vk hk _=>?_,fun t _=>?_⟩
  ·have c1:(AdF ((k:Int)+(l.n:Int)-1) (l.n:Int)).toNat=Eg l.n k:=rfl;have c2:((k:Int)).toNat=k:=by omega
   have c3:(AdF ((k:Int)+1) (l.n:Int)).toNat=BE l.n k:=rfl;rw[c1,c2,c3];refine⟨by omega,by omega,by omega,⟨hbd.2 _ (P7 (by omega)),hbd.2 _ hk,hbd.2 _ (GW (by omega))⟩,trivial,by omega,hk,t,rfl,rfl,rfl,⟨rfl,fun _ _=>rfl⟩,rfl,rfl,rfl,rfl,⟨rfl,fun i hi=>?_⟩,trivial⟩;unfold setRow
   by_cases hik:i=k
   ·subst hik;simp[FF,Gs]
   ·have e : decide (i<k+1)= decide (i<k):=by
     by_cases h':i<k<;>simp[h']<;>omega
    simp[hik,e]
  ·rw[hv];refine⟨⟨rfl,fun i hi=>?_⟩,rfl⟩;simp[hi])
theorem pJ:AB Tryz.prog 134 UU:=AP Tryz.func134 (c:=Af Tryz.f134) (by kernel_rfl) mixed (fun args p r hs hp=>by
 unfold UT at hs;split at hs
 ·cases hs;exact⟨_,_,pI _ hp.2,(.p (.sl hp.1) .nil),⟨show Aa Tryz.prog _ from(Aa.cons L2 L3 (Aa.cons Ng Nh (Aa.cons JR JS (Aa.cons Lz L0 Aa.nil)))),rfl,⟨show Ae Tryz.prog _ from(Ae.cons Nd Nf Ae.nil),(AC.none (fun _=>rfl))⟩⟩⟩
 ·cases hs)
theorem pK:Ao Tryz.prog 134:=fun args w=>by kernel_rfl
end
section
set_option maxRecDepth 100000
set_option maxHeartbeats 4000000
set_option linter.unusedVariables false
attribute [local irreducible] vc
def DS:List SV->L.Sq L.Pt
 |[.sl _ n g]=>⟨n,fun i=>Ai (g i)⟩
 |_=>⟨0,fun _=>⟨0,0⟩⟩
def IY:List SV->Prop
 |[.sl 2 n g]=>∀i,i<n->g i = [.int .i64 (Ai (g i)).x,.int .i64 (Ai (g i)).y]
 |_=>False
theorem P9 {l:List SV} (h:IY l):l.length=1/\Bo (SV.at l 0) (.sl 2 (DS l).n (fun k=>[.int .i64 ((DS l).g k).x,.int .i64 ((DS l).g k).y])):=by
 unfold IY at h;split at h
 ·rename_i n g;exact⟨rfl,.sl h⟩
 ·exact h.elim
def Ft (a b:L.Sq L.Pt) (i:Nat):L.Sq L.Pt:=bif decide (i=0)then a else b
theorem pL {g:Nat->List SV} (h:IY (g 0)/\IY (g 1)):Bo (.sl 1 2 g) (.sl 1 2 (fun i=>[.sl 2 (Ft (DS (g 0)) (DS (g 1)) i).n (fun k=>[.int .i64 ((Ft (DS (g 0)) (DS (g 1)) i).g k).x,.int .i64 ((Ft (DS (g 0)) (DS (g 1)) i).g k).y])])):=by
 have key:∀i,i<2->IY (g i)/\Ft (DS (g 0)) (DS (g 1)) i=DS (g i):=fun i hi=>by
  match i,hi with
  |0,_=>exact⟨h.1,rfl⟩
  |1,_=>exact⟨h.2,rfl⟩
 refine .sl2 (fun i hi=>(P9 (key i hi).1).1.symm) (fun i hi j hj=>?_);rw[(P9 (key i hi).1).1]at hj;obtain rfl:j=0:=by omega
 rw[(key i hi).2];exact(P9 (key i hi).1).2
def Cm (c:Nat->L.Sq L.Pt):Nat->L.Sq L.Pt
 |0=>⟨0,fun _=>⟨0,0⟩⟩
 |i+1=>⟨(Cm c i).n+(c i).n,fun k=>bif decide (k<(Cm c i).n)then(Cm c i).g k else(c i).g (k-(Cm c i).n)⟩
def Dm (l:L.Sq L.Pt) (i k:Nat):L.Pt:=bif decide (k<i)||decide (l.n<=k+i)then l.g (l.n-1-k)else l.g k
def FG (l:L.Sq L.Pt):Nat->L.Pt
 |0=>l.g 0
 |i+1=>bif decide (BK (l.g (i+1)) (FG l i)<0)then l.g (i+1)else FG l i
def AR (l:L.Sq L.Pt) (v:L.Pt):Int:=B4 l.n (fun i=>Bt v (l.g i))
def PA (l:L.Sq L.Pt) (d:Nat):L.Sq L.Pt:=⟨l.n,fun k=>bif decide (k<l.n-d)then l.g (d+k)else l.g (k-(l.n-d))⟩
theorem IZ {a b:L.Pt} (h:Bt a b=true):a=b:=by
 unfold Bt at h;rw[pR,decide_eq_true_eq,decide_eq_true_eq]at h;cases a;cases b;simp only at h;rw[h.1,h.2]
theorem GX (a:L.Pt):Bt a a=true:=by simp[Bt]
theorem UV {l:L.Sq L.Pt} {j:Nat} (hj:j<l.n):∃i,i<=j/\AR l (l.g j)=(i:Int)/\l.g i=l.g j/\∀k,k<i->l.g k≠l.g j:=by
 unfold AR;rcases Ni (f:=fun i=>Bt (l.g j) (l.g i)) (n:=l.n)with ⟨_,h2⟩|⟨i,h1,h2,h3,h4⟩
 ·have:=h2 j hj;rw[GX]at this;cases this
 ·refine⟨i,?_,h2,(IZ h3).symm,fun k hk e=>?_⟩
  ·rcases Nat.lt_or_ge j i with h|h
   ·have:=h4 j h;rw[GX]at this;cases this
   ·exact h
  ·have:=h4 k hk;rw[e,GX]at this;cases this
theorem JX {a b:L.Pt}:BK a b<0↔a.x<b.x\/(a.x=b.x/\a.y<b.y):=by
 unfold BK Hx Bs
 by_cases h1:a.x<b.x
 ·simp[h1]
 ·by_cases h2:b.x<a.x
  ·simp[h1,h2];omega
  ·by_cases h3:a.y<b.y
   ·simp[h1,h2,h3];try omega
   ·by_cases h4:b.y<a.y
    ·simp[h1,h2,h3,h4]
    ·simp[h1,h2,h3,h4]
def UW (s:Nat) (n:Int):Prop:=1<=n/\n<=2000000
def UX (s:Nat) (n:Int):Nat->Prop:=fun _=>True
def UY (s:Nat) (n:Int):Nat->Nat:=fun _=>0
def UZ (s:Nat) (n:Int):Nat->Nat->List SV:=fun _ _=>[]
def Va:List EV->Option (Prop×(Nat->Prop)×(Nat->Nat)×(Nat->Nat->List SV))
 |[.p (.raw (.slice none 0 0)),.p (.int .i64 n)]=>some (UW (0:Nat) n,UX (0:Nat) n,UY (0:Nat) n,UZ (0:Nat) n)
 |_=>none
abbrev Vb:SE.Spec:=(FC Nat 0 39 2 Va)
def pM:Aj:={ cC with muts:=[22],cuts:=[25] }
theorem pN (s:Nat) (n:Int) (hp:UW s n):vc Tryz.prog (pM) (Af Tryz.f167) (Ar Tryz.f167 [.p (.raw (.slice none 0 0)),.p (.int .i64 n)]) (EM Tryz.prog Tryz.f167 (Nat) (UX s n) 39 2 (UY s n) (UZ s n)):=
 @Eq.mpr _ (let A4:=(0:Nat);let A2:=(0:Int);let A1:=(↑A4:Int);let A3:=(A1-A1);(decide (n<A2)=true->False)/\(decide (n<A2)=false->Ac .i64 A3/\Ac .i64 (n-A3)/\(decide (A2<n-A3)=true->(A2<=A2/\A2<=A1/\A1<=A2)/\(A2<n-A3/\(n-A3)*(↑(nat_lit 16):Int)<=(140737488355328:Int))/\(A2<=A1/\A1<=(↑(Ad6 (n-A3)):Int))/\∃(t:Nat),(nat_lit 0=A4/\∀(i:Nat),i<nat_lit 0 -> [SV.int .i64 A2,SV.int .i64 A2]= [])/\True)/\(decide (A2<n-A3)=false->∃(t:Nat),A4=A4/\True))) (by kernel_rfl) (by
 conv=>zeta
 obtain⟨h1,h2⟩:=hp;refine⟨fun h=>?_,fun _=>⟨jK,jK,fun h=>⟨⟨by omega,by omega,by omega⟩,⟨by omega,show(n-(((0:Nat):Int)-((0:Nat):Int)))*16<=140737488355328 by omega⟩,⟨by omega,by omega⟩,(0:Nat),⟨rfl,fun i hi=>absurd hi (oE _)⟩,trivial⟩,fun h=>⟨(0:Nat),rfl,trivial⟩⟩⟩;have:=of_decide_eq_true h;omega)
theorem pP:AB Tryz.prog 167 Vb:=Ge Tryz.func167 (c:=Af Tryz.f167) (by kernel_rfl) mixed (fun args p q n g hs hp=>by
 unfold Va at hs;split at hs
 ·cases hs;exact⟨_,_,pN _ _ hp,(.same _ (.same _ .nil)),⟨show Aa Tryz.prog _ from Aa.nil,rfl,⟨show Ae Tryz.prog _ from Ae.nil,(AC.none (fun _=>rfl))⟩⟩⟩
 ·cases hs)
theorem pQ:Ao Tryz.prog 167:=fun args w=>by kernel_rfl
def Vc (c:(Nat->L.Sq L.Pt)):Prop:=1<=(c 0).n+(c 1).n/\(c 0).n<=1000000/\(c 1).n<=1000000
def Vd (c:(Nat->L.Sq L.Pt)):Nat->Prop:=fun _=>True
def Ve (c:(Nat->L.Sq L.Pt)):Nat->Nat:=fun _=>(Cm c 2).n
def Vf (c:(Nat->L.Sq L.Pt)):Nat->Nat->List SV:=fun _ k=>[.int .i64 (((Cm c 2).g k).x),.int .i64 (((Cm c 2).g k).y)]
def Vg:List EV->Option (Prop×(Nat->Prop)×(Nat->Nat)×(Nat->Nat->List SV))
 |[.p (.sl 1 2 c_g)]=>some ((IY (c_g 0)/\IY (c_g 1))/\Vc (Ft (DS (c_g 0)) (DS (c_g 1))),Vd (Ft (DS (c_g 0)) (DS (c_g 1))),Ve (Ft (DS (c_g 0)) (DS (c_g 1))),Vf (Ft (DS (c_g 0)) (DS (c_g 1))))
 |_=>none
abbrev Vh:SE.Spec:=(FC Nat 0 39 2 Vg)
def pS:Aj:={ cC with muts:=[24],specs:=AF [(167,Vb)],raws:=[167] }
theorem pT (c:(Nat->L.Sq L.Pt)) (hp:Vc c):vc Tryz.prog ({ pS with loops:=AY [(3,{ T:=Nat,keep:=[0,9,10],keepO:=[],chg:=fun i=>[(3,.p (.int .i64 ((Cm c i).n:Int))),(11,.p (.int .i64 (i:Int)))],own:=fun _=>[],inv:=fun i=>i<=2,mu:=fun i=>2-i }),(11,{ T:=Nat,keep:=[0,6,25,26],keepO:=[],chg:=fun i=>[(27,.p (.int .i64 (i:Int)))],own:=fun i=>[(24,.row 39 2 (Cm c i).n (fun k=>[.int .i64 (((Cm c i).g k).x),.int .i64 (((Cm c i).g k).y)]))],inv:=fun i=>i<=2,mu:=fun i=>2-i })],rfs:=AU [] }) (Af Tryz.f130) (Ar Tryz.f130 [.p (.sl 1 2 (fun i=>[.sl 2 (c i).n (fun k=>[.int .i64 ((c i).g k).x,.int .i64 ((c i).g k).y])]))]) (EM Tryz.prog Tryz.f130 (Nat) (Vd c) 39 2 (Ve c) (Vf c)):=
 @Eq.mpr _ (let I:=SV.int .i64;let T:=Ad6;let A11:=(1:Int);let A10:=(0:Int);let A5:=(2:Nat);let A13:=(Cm c A5);let A2:=(↑(nat_lit 2):Int);(∃(g:Nat),A10=(↑(Cm c g).n:Int)/\A10=(↑g:Int)/\g<=A5)/\∀(g:Nat),let A8:=(↑g:Int);let A15:=(↑(c (T A8)).n:Int);let A7:=(↑(Cm c g).n:Int);let A1:=(nat_lit 2=nat_lit 2/\∀(i:Nat),let A6:=[SV.sl A5 (c i).n fun(k:Nat)=>[I ((c i).g k).x,I ((c i).g k).y]];i<nat_lit 2->A6=A6);g<=A5->(decide (A8<A2)=true->(A10<=A8/\A8<A2)/\Ac .i64 (A7+A15)/\(false=true->False)/\(false=false->Ac .i64 (A8+A11)/\∃(g':Nat),A7+A15=(↑(Cm c g').n:Int)/\A8+A11=(↑g':Int)/\A2=A2/\A1/\A1/\g'<=A5/\A5-g'<A5-g))/\(decide (A8<A2)=false->(A11<=A7/\A7<=(2000000:Int))/\∀(t:Nat),True->(∃(g:Nat),let A14:=(Cm c g);A10=(↑g:Int)/\((0:Nat)=A14.n/\∀(i:Nat),i<(0:Nat) -> []= [I (A14.g i).x,I (A14.g i).y])/\g<=A5)/\∀(g_1:Nat),let A4:=(↑g_1:Int);let A9:=(c (T A4));let A3:=(Cm c g_1);g_1<=A5->(decide (A4<A2)=true->(A10<=A4/\A4<A2)/\(A3.n+A9.n)*nat_lit 16<=(140737488355328:Nat)/\Ac .i64 (A4+A11)/\∃(g':Nat),let A12:=(Cm c g');A4+A11=(↑g':Int)/\A2=A2/\A1/\A1/\(A3.n+A9.n=A12.n/\∀(i:Nat),i<A3.n+A9.n->Ba A3.n (fun(k:Nat)=>[I (A3.g k).x,I (A3.g k).y]) (fun(k:Nat)=>[I (A9.g k).x,I (A9.g k).y]) i = [I (A12.g i).x,I (A12.g i).y])/\g'<=A5/\A5-g'<A5-g_1)/\(decide (A4<A2)=false->∃(t:Nat),(A3.n=A13.n/\∀(i:Nat),i<A3.n -> [I (A3.g i).x,I (A3.g i).y]= [I (A13.g i).x,I (A13.g i).y])/\True))) (by kernel_rfl) (by
 conv=>zeta
 obtain⟨h1,h2,h3⟩:=hp;have hc:∀i,i<2->(c i).n<=1000000:=fun i hi=>by
  match i,hi with
  |0,_=>exact h2
  |1,_=>exact h3
 have e1:(Cm c 1).n=0+(c 0).n:=rfl;have e2:(Cm c 2).n=0+(c 0).n+(c 1).n:=rfl;have ht:∀i,i<=2->(Cm c i).n<=2000000:=fun i hi=>by
  match i,hi with
  |0,_=>exact Ads _
  |1,_=>omega
  |2,_=>omega
 refine⟨⟨(0:Nat),rfl,rfl,Ads _⟩,fun g hg=>⟨fun hlt=>?_,fun hge=>?_⟩⟩
 ·have hb:(g:Int)<2:=of_decide_eq_true hlt;have e0:((g:Int)).toNat=g:=by omega
  have hcg:=hc g (by omega);have htg:=ht g hg;rw[e0];exact⟨⟨by omega,hb⟩,jK,fun h=>Bool.false_ne_true h,fun _=>⟨jK,g+1,by show((Cm c g).n:Int)+((c g).n:Int)=(((Cm c g).n+(c g).n:Nat):Int);omega,by omega,rfl,⟨rfl,fun _ _=>rfl⟩,⟨rfl,fun _ _=>rfl⟩,by omega,by omega⟩⟩
 ·have hb:¬ (g:Int)<2:=of_decide_eq_false hge;obtain rfl:g=2:=by omega
  refine⟨⟨by omega,by omega⟩,fun _ _=>⟨⟨(0:Nat),rfl,⟨rfl,fun i hi=>absurd hi (oE _)⟩,Ads _⟩,fun k hk=>⟨fun hlt=>?_,fun hge=>?_⟩⟩⟩
  ·have hb:(k:Int)<2:=of_decide_eq_true hlt;have e0:((k:Int)).toNat=k:=by omega
   have hck:=hc k (by omega);have htk:=ht k hk;rw[e0];refine⟨⟨by omega,hb⟩,show((Cm c k).n+(c k).n)*16<=140737488355328 by omega,jK,k+1,by omega,rfl,⟨rfl,fun _ _=>rfl⟩,⟨rfl,fun _ _=>rfl⟩,⟨rfl,fun i hi=>?_⟩,by omega,by omega⟩;unfold Ba
   by_cases h:i<(Cm c k).n
   ·have w : (Cm c (k+1)).g i = (Cm c k).g i :=by
     show(bif decide (i<(Cm c k).n)then _ else _)=_;rw[decide_eq_true h];rfl
    rw[if_pos h,w]
   ·have w : (Cm c (k+1)).g i = (c k).g (i-(Cm c k).n):=by
     show(bif decide (i<(Cm c k).n)then _ else _)=_;rw[decide_eq_false h];rfl
    rw[if_neg h,w]
  ·have hb:¬ (k:Int)<2:=of_decide_eq_false hge;obtain rfl:k=2:=by omega
   exact⟨(0:Nat),⟨rfl,fun _ _=>rfl⟩,trivial⟩)
theorem pU:AB Tryz.prog 130 Vh:=Ge Tryz.func130 (c:=Af Tryz.f130) (by kernel_rfl) mixed (fun args p q n g hs hp=>by
 unfold Vg at hs;split at hs
 ·cases hs;exact⟨_,_,pT _ hp.2,(.p (pL hp.1) .nil),⟨show Aa Tryz.prog _ from(Aa.cons pP pQ Aa.nil),rfl,⟨show Ae Tryz.prog _ from Ae.nil,(AC.none (fun _=>rfl))⟩⟩⟩
 ·cases hs)
theorem pV:Ao Tryz.prog 130:=fun args w=>by kernel_rfl
abbrev JY:Tr:={ T:=(L.Sq L.Pt),U:=Nat,args:=fun t=>(fun l=>[.row 1005]) t,own:=fun t=>(fun l=>[(1005,.row 39 2 l.n (fun k=>[.int .i64 ((l.g k).x),.int .i64 ((l.g k).y)]))]) t,pre:=fun t=>(fun l=>l.n<=1000000) t,post:=fun t u=>(fun l=>fun u=>True) t u,own':=fun t u=>(fun l=>fun u=>[(1005,.row 39 2 l.n (fun k=>[.int .i64 ((l.g (l.n-1-k)).x),.int .i64 ((l.g (l.n-1-k)).y)]))]) t u,res:=fun t u=>(fun l=>fun u=>.p (.tup [])) t u }
theorem pW (l:L.Sq L.Pt) (hp:JY.pre l):vc Tryz.prog ({ muts:=[],frz:=BH [],specs:=AF [],loops:=AY [(1,{ T:=Nat,keep:=[0],keepO:=[],chg:=fun i=>[(2,.p (.int .i64 (i:Int))),(3,.p (.int .i64 ((l.n:Int)-1-(i:Int))))],own:=fun i=>[(1005,.row 39 2 l.n (fun k=>[.int .i64 ((Dm l i k).x),.int .i64 ((Dm l i k).y)]))],inv:=fun i=>2*i<=l.n,mu:=fun i=>l.n-i })],iters:=B6 [],rfs:=AU [],nils:=BD [] }) (Af Tryz.f129) (D3 Tryz.f129 (JY.args l) (JY.own l)) (MW Tryz.prog Tryz.f129 JY l):=
 @Eq.mpr _ (let I:=SV.int .i64;let T:=Ad6;let A3:=(1:Int);let A1:=(↑l.n:Int);Ac .i64 (A1-A3)/\(∃(g:Nat),(0:Int)=(↑g:Int)/\A1-A3=A1-A3-(↑g:Int)/\(l.n=l.n/\∀(i:Nat),i<l.n -> [I (l.g i).x,I (l.g i).y]= [I (Dm l g i).x,I (Dm l g i).y])/\(2:Nat)*g<=l.n)/\∀(g:Nat),let A2:=(↑g:Int);let A7:=((0:Int)<=A2/\A2<A1);let A5:=((0:Int)<=A1-A3-A2/\A1-A3-A2<A1);let A4:=(A1-A3-A2);(2:Nat)*g<=l.n->(decide (A2<A1-A3-A2)=true->A5/\T A4<l.n/\A7/\T A2<l.n/\A7/\T A2<l.n/\A5/\T A4<l.n/\Ac .i64 (A2+A3)/\Ac .i64 (A1-A3-A2-A3)/\∃(g':Nat),A2+A3=(↑g':Int)/\A1-A3-A2-A3=A1-A3-(↑g':Int)/\(l.n=l.n/\∀(i:Nat),i<l.n->setRow (setRow (fun(k:Nat)=>[I (Dm l g k).x,I (Dm l g k).y]) (T A2) (nat_lit 0) [I (Dm l g (T A4)).x,I (Dm l g (T A4)).y]) (T A4) (nat_lit 0) [I (Dm l g (T A2)).x,I (Dm l g (T A2)).y] i = [I (Dm l g' i).x,I (Dm l g' i).y])/\(2:Nat)*g'<=l.n/\l.n-g'<l.n-g)/\(decide (A2<A1-A3-A2)=false->∃(u:Nat),(l.n=l.n/\∀(i:Nat),let A6:=(l.g (l.n-(1:Nat)-i));i<l.n -> [I (Dm l g i).x,I (Dm l g i).y]= [I A6.x,I A6.y])/\True)) (by kernel_rfl) (by
 conv=>zeta
 have hn:l.n<=1000000:=hp;refine⟨jK,⟨(0:Nat),rfl,by omega,⟨rfl,fun i hi=>?_⟩,Ads _⟩,fun g hg=>⟨fun hlt=>?_,fun hge=>?_⟩⟩
 ·have hi:i<l.n:=hi;have w:Dm l 0 i=l.g i:=by unfold Dm;rw[decide_eq_false (oE _),decide_eq_false (by omega)];rfl
  rw[w]
 ·have hb:(g:Int)<(l.n:Int)-1-(g:Int):=of_decide_eq_true hlt;have e0:((g:Int)).toNat=g:=by omega
  have e1:((l.n:Int)-1-(g:Int)).toNat=l.n-1-g:=by omega
  rw[e0,e1];refine⟨⟨by omega,by omega⟩,by omega,⟨by omega,by omega⟩,by omega,⟨by omega,by omega⟩,by omega,⟨by omega,by omega⟩,by omega,jK,jK,g+1,by omega,by omega,⟨rfl,fun i hi=>?_⟩,by omega,by omega⟩;have hi:i<l.n:=hi;have r0:∀k,¬ k<g->¬ l.n<=k+g->Dm l g k=l.g k:=fun k h1 h2=>by
   unfold Dm;rw[decide_eq_false h1,decide_eq_false h2];rfl
  have r1:∀j k,k<j\/l.n<=k+j->Dm l j k=l.g (l.n-1-k):=fun j k h=>by
   unfold Dm;rcases h with h|h
   ·rw[decide_eq_true h];rfl
   ·rw[decide_eq_true h,Bool.or_true];rfl
  unfold setRow
  by_cases c1:i=l.n-1-g
  ·subst c1;rw[if_pos rfl,r0 g (by omega) (by omega),r1 (g+1) _ (.inr (by omega)),show l.n-1-(l.n-1-g)=g by omega];rw[if_neg (show ¬ (l.n-1-g=g)by omega)];rfl
  ·rw[if_neg c1]
   by_cases c2:i=g
   ·subst c2;rw[if_pos rfl,r0 (l.n-1-i) (by omega) (by omega),r1 (i+1) i (.inl (by omega))];rfl
   ·rw[if_neg c2];dsimp only
    by_cases c3:i<g\/l.n<=i+g
    ·rw[r1 g i c3,r1 (g+1) i (by omega)]
    ·rw[r0 i (by omega) (by omega)];have:Dm l (g+1) i=l.g i:=by
      unfold Dm;rw[decide_eq_false (by omega),decide_eq_false (by omega)];rfl
     rw[this]
 ·have hb:¬ (g:Int)<(l.n:Int)-1-(g:Int):=of_decide_eq_false hge;refine⟨(0:Nat),⟨rfl,fun i hi=>?_⟩,trivial⟩;have hi:i<l.n:=hi;have w:Dm l g i=l.g (l.n-1-i):=by
   unfold Dm
   by_cases c1:i<g
   ·rw[decide_eq_true c1];rfl
   ·by_cases c2:l.n<=i+g
    ·rw[decide_eq_true c2,Bool.or_true];rfl
    ·rw[decide_eq_false c1,decide_eq_false c2,show l.n-1-i=i by omega];rfl
  rw[w])
theorem pX:Ao Tryz.prog 129:=fun args w=>by kernel_rfl
theorem pY:F7 Tryz.prog 129 JY:=Pk (ks:=[1005]) (n:=1) Tryz.func129 (c:=Af Tryz.f129) (by kernel_rfl) mixed ⟨fun t=>rfl,fun t=>rfl,fun t u=>rfl,fun t u=>rfl,fun t u=>rfl,by kernel_rfl⟩ (fun l hp=>⟨_,pW l hp,⟨show Aa Tryz.prog _ from Aa.nil,rfl,⟨show Ae Tryz.prog _ from Ae.nil,(AC.none (fun _=>rfl))⟩⟩⟩)
def Vi (l:(L.Sq L.Pt)) (v:L.Pt):Prop:=l.n<=1000000
def Vj (l:(L.Sq L.Pt)) (v:L.Pt):SV:=.int .i64 (AR l v)
def Vk:List EV->Option (Prop×SV)
 |[.p (.sl 2 l_n l_g),.p (.agg [.int .i64 v_x,.int .i64 v_y])]=>some ((∀i,i<l_n->l_g i = [.int .i64 ((Ai (l_g i)).x),.int .i64 ((Ai (l_g i)).y)])/\Vi (⟨l_n,fun i=>Ai (l_g i)⟩:(L.Sq L.Pt)) (⟨v_x,v_y⟩:L.Pt),Vj (⟨l_n,fun i=>Ai (l_g i)⟩:(L.Sq L.Pt)) (⟨v_x,v_y⟩:L.Pt))
 |_=>none
abbrev PB:SE.Spec:=(AM Vk)
def pZ:Aj:={ muts:=[],frz:=BH [],specs:=AF [],loops:=fun _=>none,iters:=B6 [],rfs:=AU [],nils:=BD [] }
theorem qA (l:(L.Sq L.Pt)) (v:L.Pt) (hp:Vi l v):vc Tryz.prog ({ pZ with loops:=AY [(2,{ T:=Nat,keep:=[0,3,6,7],keepO:=[],chg:=fun i=>[(8,.p (.int .i64 i))],own:=fun _=>[],inv:=fun i=>i<=l.n/\(∀j,j<i->Bt v (l.g j)=false),mu:=fun i=>l.n-i })],rfs:=AU [] }) (Af Tryz.f82) (Ar Tryz.f82 [.p (.sl 2 l.n (fun i=>[.int .i64 ((l.g i).x),.int .i64 ((l.g i).y)])),.p (.agg [.int .i64 v.x,.int .i64 v.y])]) (AL Tryz.prog Tryz.f82 (Vj l v)):=
 @Eq.mpr _ (let I:=SV.int .i64;let T:=Ad6;let A4:=(↑l.n:Int);let A2:=(l.n=l.n/\∀(i:Nat),let A5:=[I (l.g i).x,I (l.g i).y];i<l.n->A5=A5);(∃(g:Nat),(0:Int)=(↑g:Int)/\g<=l.n/\∀(j:Nat),j<g->Bt v (l.g j)=false)/\∀(g:Nat),let A3:=(↑g:Int);let A1:=(decide (v.x=(l.g (T A3)).x)&&decide (v.y=(l.g (T A3)).y));(g<=l.n/\∀(j:Nat),j<g->Bt v (l.g j)=false)->(decide (A3<A4)=true->((0:Int)<=A3/\A3<A4)/\(A1=true->A3=AR l v)/\(A1=false->Ac .i64 (A3+(1:Int))/\∃(g':Nat),A3+(1:Int)=(↑g':Int)/\A4=A4/\A2/\SV.ref [I v.x,I v.y] (nat_lit 0)=SV.ref [I v.x,I v.y] (nat_lit 0)/\A2/\(g'<=l.n/\∀(j:Nat),j<g'->Bt v (l.g j)=false)/\l.n-g'<l.n-g))/\(decide (A3<A4)=false->(-1:Int)=AR l v)) (by kernel_rfl) (by
 conv=>zeta
 have hn:l.n<=1000000:=hp;refine⟨⟨(0:Nat),rfl,Ads _,fun j hj=>absurd hj (oE _)⟩,fun g hg=>⟨fun hlt=>?_,fun hge=>?_⟩⟩
 ·have hb:(g:Int)<(l.n:Int):=of_decide_eq_true hlt;have e0:((g:Int)).toNat=g:=by omega
  rw[e0];refine⟨⟨by omega,hb⟩,fun h=>?_,fun h=>?_⟩
  ·have h:Bt v (l.g g)=true:=h;exact(IR (f:=fun i=>Bt v (l.g i)) hg.2 h (by omega)).symm
  ·have h:Bt v (l.g g)=false:=h;exact⟨jK,g+1,by omega,rfl,⟨rfl,fun _ _=>rfl⟩,rfl,⟨rfl,fun _ _=>rfl⟩,⟨by omega,fun j hj=>by
    rcases Ad1.1 hj with h'|rfl
    ·exact hg.2 j h'
    ·exact h⟩,by omega⟩
 ·have hb:¬ (g:Int)<(l.n:Int):=of_decide_eq_false hge;exact(Ie (f:=fun i=>Bt v (l.g i)) (fun j hj=>hg.2 j (by omega))).symm)
theorem Vl:AB Tryz.prog 82 PB:=AP Tryz.func82 (c:=Af Tryz.f82) (by kernel_rfl) mixed (fun args p r hs hp=>by
 unfold Vk at hs;split at hs
 ·cases hs;exact⟨_,_,qA _ _ hp.2,(.p (.sl hp.1) (.same _ .nil)),⟨show Aa Tryz.prog _ from Aa.nil,rfl,⟨show Ae Tryz.prog _ from Ae.nil,(AC.none (fun _=>rfl))⟩⟩⟩
 ·cases hs)
theorem Vm:Ao Tryz.prog 82:=fun args w=>by kernel_rfl
end
section
set_option maxRecDepth 100000
set_option maxHeartbeats 4000000
set_option linter.unusedVariables false
attribute [local irreducible] vc
instance:Inhabited L.Pt:=⟨⟨0,0⟩⟩
def DT (a b:L.Pt):Prop:=BK a b<=0
theorem L4 {a b:L.Pt}:BK a b<=0↔a.x<b.x\/(a.x=b.x/\a.y<=b.y):=by
 unfold BK Hx Bs
 by_cases h1:a.x<b.x
 ·simp[h1]
 ·by_cases h2:b.x<a.x
  ·simp[h1,h2];omega
  ·by_cases h3:a.y<b.y
   ·simp[h1,h2,h3];omega
   ·by_cases h4:b.y<a.y
    ·simp[h1,h2,h3,h4];try omega
    ·simp[h1,h2,h3,h4];try omega
theorem qB:Go.Sort.SWO (Go.Proofs.ltOf BK):=by
 have k:∀x y,Go.Proofs.ltOf BK x y=true↔(x.x<y.x\/(x.x=y.x/\x.y<y.y)):=fun x y=>by
  unfold Go.Proofs.ltOf;rw[decide_eq_true_iff];exact JX
 have kf:∀x y,Go.Proofs.ltOf BK x y=false↔¬ (x.x<y.x\/(x.x=y.x/\x.y<y.y)):=fun x y=>by
  rw[<- k,Bool.not_eq_true]
 refine⟨fun x=>?_,fun x y z=>?_,fun x y z=>?_⟩
 ·rw[kf];omega
 ·simp only[k];omega
 ·simp only[kf];omega
def JZ (p:L.Pt):List L.Pt->List L.Pt
 |[]=>[p]
 |q::r=>bif decide (BK p q<=0)then p::q::r else q::JZ p r
def Es:List L.Pt->List L.Pt
 |[]=>[]
 |p::r=>JZ p (Es r)
def Df (l:L.Sq L.Pt):List L.Pt:=(List.range l.n).map l.g
def Aw (l:L.Sq L.Pt):L.Sq L.Pt:=⟨l.n,fun k=>(Es (Df l)).getD k ⟨0,0⟩⟩
theorem Vn (a b:L.Pt):DT a b\/DT b a:=by unfold DT;simp only[L4];omega
theorem qC {a b c:L.Pt} (h:DT a b) (k:DT b c):DT a c:=by unfold DT at *;simp only[L4]at *;omega
theorem qD {a b:L.Pt} (h:DT a b) (k:DT b a):a=b:=by
 unfold DT at *;simp only[L4]at *;obtain⟨ax,ay⟩:=a;obtain⟨bx,by'⟩:=b;simp only at h k;obtain rfl:ax=bx:=by omega
 obtain rfl:ay=by':=by omega
 rfl
theorem PC (p:L.Pt):∀l,(JZ p l).Perm (p::l)
 |[]=>.refl _
 |q::r=>by
   unfold JZ;cases decide (BK p q<=0)with
   |true=>exact .refl _
   |false=>exact((PC p r).cons q).trans (.swap p q r)
theorem H0:∀l,(Es l).Perm l
 |[]=>.refl _
 |p::r=>(PC p _).trans ((H0 r).cons p)
theorem Vo {p:L.Pt}:∀{l},l.Pairwise DT->(JZ p l).Pairwise DT
 |[],_=>List.pairwise_singleton _ _
 |q::r,h=>by
   obtain⟨h1,h2⟩:=Aes.1 h;unfold JZ;cases hd:decide (BK p q<=0)with
   |true =>
     have hd:DT p q:=of_decide_eq_true (p:=BK p q<=0) hd;exact Aes.2 ⟨fun x hx=>by
      rcases Adq.1 hx with rfl|hx
      ·exact hd
      ·exact qC hd (h1 x hx),h⟩
   |false =>
     have hd:¬ DT p q:=of_decide_eq_false (p:=BK p q<=0) hd;have hqp:DT q p:=(Vn p q).resolve_left hd;exact Aes.2 ⟨fun x hx=>by
      rcases Adq.1 ((PC p r).mem_iff.1 hx)with rfl|hx
      ·exact hqp
      ·exact h1 x hx,Vo h2⟩
theorem Nj:∀l,(Es l).Pairwise DT
 |[]=>.nil
 |p::r=>Vo (Nj r)
theorem qE {l:L.Sq L.Pt} {u:Nat->L.Pt} (h:CU BK l.n l.g u):∀k,k<l.n->(Aw l).g k=u k:=fun k hk=>by
 have e:(List.range l.n).map u=Es (Df l):=by
  refine List.Perm.eq_of_pairwise (le:=DT) (fun a b _ _=>qD) ?_ (Nj _) (h.perm.trans (H0 _).symm);rw[List.pairwise_iff_getElem];intro i j hi hj hij;simp only[List.getElem_map,List.getElem_range];have hj:j<l.n:=by simpa using hj
  have:=h.asc i j hij hj;rcases Vn (u i) (u j)with h1|h1
  ·exact h1
  ·unfold DT at *;simp only[L4,JX]at *;omega
 show(Es (Df l)).getD k ⟨0,0⟩=u k;rw[<- e];simp[AS,hk]
theorem Ka (l:L.Sq L.Pt) {k:Nat} (hk:k<l.n):∃i,i<l.n/\(Aw l).g k=l.g i:=by
 have hl:(Es (Df l)).length=l.n:=by rw[(H0 _).length_eq];simp[Df]
 have hm:(Es (Df l)).getD k ⟨0,0⟩∈Es (Df l):=by
  rw[AS,rH (by rw[hl];exact hk)];exact AdC _
 have hm:=(H0 _).mem_iff.1 hm;unfold Df at hm;obtain⟨i,hi,e⟩:=List.mem_map.1 hm;exact⟨i,List.mem_range.1 hi,e.symm⟩
def Vp (p:L.Pt):List Int:=[p.x,p.y]
def qF:Go.Shelf.Ren:=⟨fun|6=>165|15=>132|14=>189|28=>176|29=>177|20=>204|21=>205|22=>206|23=>207|24=>208|25=>209|26=>210|27=>211|46=>216|47=>191|48=>192|49=>217|50=>218|57=>220|n=>n,fun|22=>22|24=>39|25=>123|3=>3|39=>193|0=>0|53=>235|55=>237|4=>4|46=>228|45=>227|50=>232|5=>5|9=>9|66=>246|70=>250|76=>262|77=>263|n=>n,fun|n=>n⟩
theorem qG:Go.Proofs.SlLaysF0.n6 Tryz.prog qF:={
 mixed:=by kernel_rfl
 f6:=⟨Tryz.f165.name,by decide,Tryz.func165.trans (congrArg some (by kernel_rfl))⟩
 f14:=⟨Tryz.f189.name,by decide,Tryz.func189.trans (congrArg some (by kernel_rfl))⟩
 f15:=Tryz.func132.trans (congrArg some (by kernel_rfl))
 f20:=⟨Tryz.f204.name,by decide,Tryz.func204.trans (congrArg some (by kernel_rfl))⟩
 f21:=⟨Tryz.f205.name,by decide,Tryz.func205.trans (congrArg some (by kernel_rfl))⟩
 f22:=⟨Tryz.f206.name,by decide,Tryz.func206.trans (congrArg some (by kernel_rfl))⟩
 f23:=⟨Tryz.f207.name,by decide,Tryz.func207.trans (congrArg some (by kernel_rfl))⟩
 f24:=⟨Tryz.f208.name,by decide,Tryz.func208.trans (congrArg some (by kernel_rfl))⟩
 f25:=⟨Tryz.f209.name,by decide,Tryz.func209.trans (congrArg some (by kernel_rfl))⟩
 f26:=⟨Tryz.f210.name,by decide,Tryz.func210.trans (congrArg some (by kernel_rfl))⟩
 f27:=⟨Tryz.f211.name,by decide,Tryz.func211.trans (congrArg some (by kernel_rfl))⟩
 f28:=Tryz.func176.trans (congrArg some (by kernel_rfl))
 f29:=Tryz.func177.trans (congrArg some (by kernel_rfl))
 f46:=⟨Tryz.f216.name,by decide,Tryz.func216.trans (congrArg some (by kernel_rfl))⟩
 f47:=Tryz.func191.trans (congrArg some (by kernel_rfl))
 f48:=Tryz.func192.trans (congrArg some (by kernel_rfl))
 f49:=⟨Tryz.f217.name,by decide,Tryz.func217.trans (congrArg some (by kernel_rfl))⟩
 f50:=⟨Tryz.f218.name,by decide,Tryz.func218.trans (congrArg some (by kernel_rfl))⟩
 f57:=⟨Tryz.f220.name,by decide,Tryz.func220.trans (congrArg some (by kernel_rfl))⟩
 t0:=Tryz.underlying0
 a0:=Tryz.isAgg0
 z0:=Tryz.sizeOf0
 v0:=Tryz.zeroValue0
 t3:=Tryz.underlying3
 a3:=Tryz.isAgg3
 z3:=Tryz.sizeOf3
 v3:=Tryz.zeroValue3
 t4:=Tryz.underlying4
 a4:=Tryz.isAgg4
 z4:=Tryz.sizeOf4
 v4:=Tryz.zeroValue4
 t5:=Tryz.underlying5
 a5:=Tryz.isAgg5
 z5:=Tryz.sizeOf5
 v5:=Tryz.zeroValue5
 t9:=Tryz.underlying9
 a9:=Tryz.isAgg9
 z9:=Tryz.sizeOf9
 v9:=Tryz.zeroValue9
 t22:=Tryz.underlying22
 a22:=Tryz.isAgg22
 z22:=Tryz.sizeOf22
 v22:=Tryz.zeroValue22
 t25:=Tryz.underlying123
 a25:=Tryz.isAgg123
 z25:=Tryz.sizeOf123
 v25:=Tryz.zeroValue123
 t39:=Tryz.underlying193
 a39:=Tryz.isAgg193
 z39:=Tryz.sizeOf193
 v39:=Tryz.zeroValue193
 t45:=Tryz.underlying227
 a45:=Tryz.isAgg227
 z45:=Tryz.sizeOf227
 v45:=Tryz.zeroValue227
 t46:=Tryz.underlying228
 a46:=Tryz.isAgg228
 z46:=Tryz.sizeOf228
 v46:=Tryz.zeroValue228
 t50:=Tryz.underlying232
 a50:=Tryz.isAgg232
 z50:=Tryz.sizeOf232
 v50:=Tryz.zeroValue232
 t53:=Tryz.underlying235
 a53:=Tryz.isAgg235
 z53:=Tryz.sizeOf235
 v53:=Tryz.zeroValue235
 t55:=Tryz.underlying237
 a55:=Tryz.isAgg237
 z55:=Tryz.sizeOf237
 v55:=Tryz.zeroValue237
 t66:=Tryz.underlying246
 a66:=Tryz.isAgg246
 z66:=Tryz.sizeOf246
 v66:=Tryz.zeroValue246
 t70:=Tryz.underlying250
 a70:=Tryz.isAgg250
 z70:=Tryz.sizeOf250
 v70:=Tryz.zeroValue250
 t76:=Tryz.underlying262
 a76:=Tryz.isAgg262
 z76:=Tryz.sizeOf262
 v76:=Tryz.zeroValue262
 t77:=Tryz.underlying263
 a77:=Tryz.isAgg263
 z77:=Tryz.sizeOf263
 v77:=Tryz.zeroValue263 }
abbrev Vq:Tr:=Na 39 2 78 1005 Vp BK
theorem qH:F7 Tryz.prog 165 Vq:=Po (enc:=Vp) qG (by decide) (fun w=>Tryz.isAgg39 w) (fun w=>Tryz.sizeOf39 w) (fun _=>rfl) qB P4 P5 (fun x y=>show De P2 [.p (.agg [.int .i64 x.x,.int .i64 x.y]),.p (.agg [.int .i64 y.x,.int .i64 y.y])]from trivial) (fun x y=>rfl) _ _
theorem qI:Ao Tryz.prog 165:=fun args w=>by kernel_rfl
def Cx (p:L.Pt):List L.Pt->List L.Pt
 |[]=>[]
 |[a]=>[a]
 |b::a::r=>bif decide (Ax a b p<=0)then Cx p (a::r)else b::a::r
def Bv (l:L.Sq L.Pt):Nat->List L.Pt
 |0=>[]
 |k+1=>l.g k::Cx (l.g k) (Bv l k)
def BP (st:List L.Pt):Nat:=st.length
def G5 (q:L.Pt) (st:List L.Pt):Prop:=q∈st
def B9 (st:List L.Pt) (k:Nat):L.Pt:=st.getD (st.length-1-k) ⟨0,0⟩
def Bu (l:L.Sq L.Pt):L.Sq L.Pt:=⟨(Bv l l.n).length-1,fun k=>B9 (Bv l l.n) k⟩
theorem Vr {p q:L.Pt}:∀{st:List L.Pt},q∈Cx p st->q∈st
 |[],h=>h
 |[a],h=>h
 |b::a::r,h=>by
   unfold Cx at h;cases hd:decide (Ax a b p<=0)with
   |true=>rw[hd]at h;exact Adr _ (Vr (st:=a::r) h)
   |false=>rw[hd]at h;exact h
theorem Vs {p:L.Pt}:∀{st:List L.Pt},(Cx p st).length<=st.length
 |[]=>Adp _
 |[a]=>Adp _
 |b::a::r=>by
   unfold Cx;cases decide (Ax a b p<=0)with
   |true=>exact Nat.le_trans (Vs (st:=a::r)) (Nat.le_succ _)
   |false=>exact Adp _
theorem Vt {p:L.Pt}:∀{st:List L.Pt},1<=st.length->1<=(Cx p st).length
 |[],h=>h
 |[a],h=>h
 |b::a::r,h=>by
   unfold Cx;cases decide (Ax a b p<=0)with
   |true=>exact Vt (st:=a::r) (Ae6 (Ads _))
   |false=>exact h
theorem qJ {l:L.Sq L.Pt} (h:2<=l.n):1<=(Bv l l.n).length-1:=by
 match hh:l.n,h with
 |m+2,_ =>
   have:=Vt (p:=l.g (m+1)) (st:=Bv l (m+1)) (Ae6 (Ads _));show 1<=(Cx (l.g (m+1)) (Bv l (m+1))).length+1-1;omega
theorem PD {l:L.Sq L.Pt} {q:L.Pt}:∀{k},q∈Bv l k->∃i,i<k/\q=l.g i
 |0,h=>nomatch h
 |k+1,h=>by
   rcases Adq.1 h with rfl|h
   ·exact⟨k,Ae3 _,rfl⟩
   ·obtain⟨i,hi,e⟩:=PD (Vr h);exact⟨i,Nat.lt_succ_of_lt hi,e⟩
theorem Ja (l:L.Sq L.Pt):∀k,(Bv l k).length<=k
 |0=>Adp _
 |k+1=>Ae6 (Nat.le_trans Vs (Ja l k))
theorem Vu {st:List L.Pt} {k:Nat} (h:k<st.length):B9 st k∈st:=by
 unfold B9;rw[AS,rH (by omega)];exact AdC _
theorem Nk {a:L.Pt} {r:List L.Pt} {k:Nat} (h:k<r.length):B9 (a::r) k=B9 r k:=by
 unfold B9;rw[show(a::r).length-1-k=(r.length-1-k)+1 by simp only[Aeg];omega];rfl
theorem L5 {a:L.Pt} {r:List L.Pt}:B9 (a::r) r.length=a:=by
 unfold B9;rw[show(a::r).length-1-r.length=0 by simp only[Aeg];omega];rfl
def Dn (l:L.Sq L.Pt):L.Sq L.Pt:=⟨l.n,fun k=>l.g (l.n-1-k)⟩
def Ap (l:L.Sq L.Pt):L.Sq L.Pt:=Cm (Ft (Bu (Aw l)) (Bu (Dn (Aw l)))) 2
theorem Vv (l:L.Sq L.Pt) {k:Nat} (h:k<(Bu l).n):∃i,i<l.n/\(Bu l).g k=l.g i:=PD (Vu (st:=Bv l l.n) (show k<_ by have:k<(Bv l l.n).length-1:=h;omega))
theorem qK (l:L.Sq L.Pt) {k:Nat} (h:k<(Ap l).n):∃i,i<l.n/\(Ap l).g k=l.g i:=by
 have a1:∀k,k<(Bu (Aw l)).n->∃i,i<l.n/\(Bu (Aw l)).g k=l.g i:=fun k hk=>by
  obtain⟨i,hi,e⟩:=Vv _ hk;obtain⟨j,hj,e2⟩:=Ka l hi;exact⟨j,hj,e.trans e2⟩
 have a2:∀k,k<(Bu (Dn (Aw l))).n->∃i,i<l.n/\(Bu (Dn (Aw l))).g k=l.g i:=fun k hk=>by
  obtain⟨i,hi,e⟩:=Vv _ hk;have hi:i<l.n:=hi;obtain⟨j,hj,e2⟩:=Ka l (k:=l.n-1-i) (by omega);exact⟨j,hj,e.trans e2⟩
 have h:k<0+(Bu (Aw l)).n+(Bu (Dn (Aw l))).n:=h;have e:(Ap l).g k=bif decide (k<0+(Bu (Aw l)).n)then(bif decide (k<0)then(⟨0,0⟩:L.Pt)else(Bu (Aw l)).g (k-0))else(Bu (Dn (Aw l))).g (k-(0+(Bu (Aw l)).n)):=rfl;rw[e];cases hd:decide (k<0+(Bu (Aw l)).n)with
 |true=>have:=of_decide_eq_true hd;exact a1 k (by omega)
 |false=>have:=of_decide_eq_false hd;exact a2 _ (by omega)
def Vw (l:(L.Sq L.Pt)):Prop:=l.n<=1000000
def PE (l:(L.Sq L.Pt)):Nat:=l.n
def Vx (l:(L.Sq L.Pt)):Nat->List SV:=fun k=>[(.agg [.int .i64 ((l.g (k:Int).toNat).x),.int .i64 ((l.g (k:Int).toNat).y)])]
def Vy:List SV->Option (Prop×Nat×(Nat->List SV))
 |[.ref [.sl 2 l_n l_g] 0]=>some ((∀i,i<l_n->l_g i = [.int .i64 ((Ai (l_g i)).x),.int .i64 ((Ai (l_g i)).y)])/\Vw (⟨l_n,fun i=>Ai (l_g i)⟩:(L.Sq L.Pt)),PE (⟨l_n,fun i=>Ai (l_g i)⟩:(L.Sq L.Pt)),Vx (⟨l_n,fun i=>Ai (l_g i)⟩:(L.Sq L.Pt)))
 |_=>none
abbrev Vz:F0:=JM Vy
def qL:Aj:={ muts:=[],frz:=BH [],specs:=AF [],loops:=fun _=>none,iters:=B6 [],rfs:=AU [] }
theorem qM (yl:Nat) (l:(L.Sq L.Pt)) (hp:Vw l):vc Tryz.prog { qL with loops:=AY [(1,{ T:=Nat,keep:=[0,1,5,6],keepO:=[],chg:=fun i=>[(7,.p (.int .i64 (i:Int)))],own:=fun _=>[],inv:=fun i=>i<=l.n,mu:=fun i=>l.n-i,yk:=some (fun i=>i) })],yld:=some ⟨yl,PE l,Vx l⟩ } (Af Tryz.f166) (Ar Tryz.f166 (.yield yl::([.ref [.sl 2 l.n (fun i=>[.int .i64 ((l.g i).x),.int .i64 ((l.g i).y)])] 0]:List SV).map .p)) (JL Tryz.prog Tryz.f166 (PE l)):=
 @Eq.mpr _ (let I:=SV.int .i64;let T:=Ad6;let A7:=(1:Int);let A5:=(1:Nat);let A3:=(↑l.n:Int);let A2:=[SV.sl (nat_lit 2) l.n fun(i:Nat)=>[I (l.g i).x,I (l.g i).y]];(∃(g:Nat),nat_lit 0=g/\false=false/\(0:Int)=(↑g:Int)/\g<=l.n)/\∀(g:Nat),let A1:=(↑g:Int);let A4:=[SV.agg [I (l.g (T A1)).x,I (l.g (T A1)).y]];g<=l.n->(decide (A1<A3)=true->((0:Int)<=A1/\A1<A3)/\yl=yl/\g<l.n/\A4=A4/\((false=true->g+A5=l.n\/g+A5=l.n+A5)/\(false=false->Ac .i64 (A1+A7)/\∃(g':Nat),g+A5=g'/\false=false/\A1+A7=(↑g':Int)/\A3=A3/\(l.n=l.n/\∀(i:Nat),let A6:=[I (l.g i).x,I (l.g i).y];i<l.n->A6=A6)/\yl=yl/\SV.ref A2 (nat_lit 0)=SV.ref A2 (nat_lit 0)/\g'<=l.n/\l.n-g'<l.n-g))/\(true=true->l.n+A5=l.n\/l.n+A5=l.n+A5)/\(true=false->Ac .i64 (A1+A7)/\∃(g':Nat),l.n+A5=g'/\false=false/\A1+A7=(↑g':Int)/\A3=A3/\False/\yl=yl/\False/\g'<=l.n/\l.n-g'<l.n-g))/\(decide (A1<A3)=false->g=l.n\/g=l.n+A5)) (by kernel_rfl) (by
 conv=>zeta
 have hn:l.n<=1000000:=hp;refine⟨⟨(0:Nat),rfl,rfl,rfl,Ads _⟩,fun g hg=>⟨fun hlt=>?_,fun hge=>?_⟩⟩
 ·have hb:(g:Int)<(l.n:Int):=of_decide_eq_true hlt;refine⟨⟨by omega,hb⟩,rfl,by omega,rfl,?_⟩;exact⟨⟨fun h=>(by cases h),fun _=>⟨jK,g+1,rfl,rfl,by omega,rfl,⟨rfl,fun _ _=>rfl⟩,rfl,rfl,by omega,by omega⟩⟩,fun _=>.inr rfl,fun h=>(by cases h)⟩
 ·have hb:¬ (g:Int)<(l.n:Int):=of_decide_eq_false hge;exact .inl (by omega))
theorem qN:Hp Tryz.prog 166 Vz:=MV Tryz.func166 (c:=Af Tryz.f166) (by kernel_rfl) mixed (fun caps l p n g hs hp=>by
 unfold Vy at hs;split at hs
 ·cases hs; exact⟨_, _, qM l _ hp.2, (.cons (Bo.ref rfl (fun i hi =>by
  rcases i with _|i
  ·show Bo (SV.sl _ _ _) (SV.sl _ _ _);exact(Bo.sl hp.1)
  exact absurd hi (by simp;try omega))) .nil),rfl,show Aa Tryz.prog _ from Aa.nil,⟨show Ae Tryz.prog _ from Ae.nil,AC.none (fun _=>rfl)⟩⟩
 ·cases hs)
theorem qO:Ao Tryz.prog 166:=fun args w=>by kernel_rfl
def V0 (l:(L.Sq L.Pt)):Prop:=l.n<=1000000
def V1 (l:(L.Sq L.Pt)):SV:=.clo 166 [.ref [(.sl 2 l.n (fun i=>[.int .i64 ((l.g i).x),.int .i64 ((l.g i).y)]))] 0]
def V2:List EV->Option (Prop×SV)
 |[.p (.sl 2 l_n l_g)]=>some ((∀i,i<l_n->l_g i = [.int .i64 ((Ai (l_g i)).x),.int .i64 ((Ai (l_g i)).y)])/\V0 (⟨l_n,fun i=>Ai (l_g i)⟩:(L.Sq L.Pt)),V1 (⟨l_n,fun i=>Ai (l_g i)⟩:(L.Sq L.Pt)))
 |_=>none
abbrev PF:SE.Spec:=(AM V2)
def qP:Aj:={ muts:=[],frz:=BH [],specs:=AF [],loops:=AY [],iters:=B6 [],rfs:=AU [],nils:=BD [] }
theorem qQ (l:(L.Sq L.Pt)) (hp:V0 l):vc Tryz.prog (qP) (Af Tryz.f127) (Ar Tryz.f127 [.p (.sl 2 l.n (fun i=>[.int .i64 ((l.g i).x),.int .i64 ((l.g i).y)]))]) (AL Tryz.prog Tryz.f127 (V1 l)):=
 @Eq.mpr _ (SV.clo (nat_lit 166) [SV.ref [SV.sl (nat_lit 2) l.n fun(i:Nat)=>[SV.int .i64 (l.g i).x,SV.int .i64 (l.g i).y]] (nat_lit 0)]=SV.clo (nat_lit 166) [SV.ref [SV.sl (nat_lit 2) l.n fun(i:Nat)=>[SV.int .i64 (l.g i).x,SV.int .i64 (l.g i).y]] (nat_lit 0)]) (by kernel_rfl) (by
 rfl)
theorem V3:AB Tryz.prog 127 PF:=AP Tryz.func127 (c:=Af Tryz.f127) (by kernel_rfl) mixed (fun args p r hs hp=>by
 unfold V2 at hs;split at hs
 ·cases hs;exact⟨_,_,qQ _ hp.2,(.p (.sl hp.1) .nil),⟨show Aa Tryz.prog _ from Aa.nil,rfl,⟨show Ae Tryz.prog _ from Ae.nil,(AC.none (fun _=>rfl))⟩⟩⟩
 ·cases hs)
theorem V4:Ao Tryz.prog 127:=fun args w=>by kernel_rfl
def V5 (s:Nat) (l:(L.Sq L.Pt)):Prop:=l.n<=1000000
def V6 (s:Nat) (l:(L.Sq L.Pt)):Nat->Prop:=fun _=>True
def V7 (s:Nat) (l:(L.Sq L.Pt)):Nat->Nat:=fun _=>l.n
def V8 (s:Nat) (l:(L.Sq L.Pt)):Nat->Nat->List SV:=fun _ k=>[.int .i64 ((l.g k).x),.int .i64 ((l.g k).y)]
def V9:List EV->Option (Prop×(Nat->Prop)×(Nat->Nat)×(Nat->Nat->List SV))
 |[.p (.raw (.slice none 0 0)),.p (.clo 166 [.ref [.sl 2 l_n l_g] 0])]=>some ((∀i,i<l_n->l_g i = [.int .i64 ((Ai (l_g i)).x),.int .i64 ((Ai (l_g i)).y)])/\V5 (0:Nat) (⟨l_n,fun i=>Ai (l_g i)⟩:(L.Sq L.Pt)),V6 (0:Nat) (⟨l_n,fun i=>Ai (l_g i)⟩:(L.Sq L.Pt)),V7 (0:Nat) (⟨l_n,fun i=>Ai (l_g i)⟩:(L.Sq L.Pt)),V8 (0:Nat) (⟨l_n,fun i=>Ai (l_g i)⟩:(L.Sq L.Pt)))
 |_=>none
abbrev VA:SE.Spec:=(FC Nat 0 39 2 V9)
def qR:Aj:={ cC with muts:=[2,5],iters:=B6 [(166,Vz)],nils:=BD [(1,[(2,10,39,2)])] }
theorem qS (s:Nat) (l:(L.Sq L.Pt)) (hp:V5 s l):vc Tryz.prog ({ qR with loops:=AY [],rfs:=AU [(2,{ T:=Nat,keep:=[2],keepO:=[],own:=fun k _=>[(2,.blk 22 [.row 10]),(10,.row 39 2 k (fun k=>[.int .i64 ((l.g k).x),.int .i64 ((l.g k).y)]))],inv:=fun k _=>k<=l.n })] }) (Af Tryz.f188) (Ar Tryz.f188 [.p (.raw (.slice none 0 0)),.p (.clo 166 [.ref [.sl 2 l.n (fun i=>[.int .i64 ((l.g i).x),.int .i64 ((l.g i).y)])] 0])]) (EM Tryz.prog Tryz.f188 (Nat) (V6 s l) 39 2 (V7 s l) (V8 s l)):=
 @Eq.mpr _ (let I:=SV.int .i64;(((∀(i:Nat),let A2:=[I (l.g i).x,I (l.g i).y];i<l.n->A2=A2)/\l.n<=(1000000:Nat))/\∃(t:Nat),(nat_lit 0=(0:Nat)/\∀(i:Nat),i<nat_lit 0 -> []= [I (l.g i).x,I (l.g i).y])/\(0:Nat)<=l.n)/\(∀(k t:Nat) (vk:Nat->Go.Value),let A1:=(l.g (Ad6 (↑k:Int)));k<l.n->k<=l.n->(k+nat_lit 1)*nat_lit 16<=(140737488355328:Nat)/\∃(t':Nat),nat_lit 0=nat_lit 0/\vk (nat_lit 2)=vk (nat_lit 2)/\(k+nat_lit 1=k+(1:Nat)/\∀(i:Nat),i<k+nat_lit 1->Ba k (fun(k:Nat)=>[I (l.g k).x,I (l.g k).y]) (fun(x:Nat)=>[I A1.x,I A1.y]) i = [I (l.g i).x,I (l.g i).y])/\k+(1:Nat)<=l.n)/\∀(t:Nat),l.n<=l.n->∃(t:Nat),(l.n=l.n/\∀(i:Nat),let A3:=[I (l.g i).x,I (l.g i).y];i<l.n->A3=A3)/\True) (by kernel_rfl) (by
 conv=>zeta
 have hn:l.n<=1000000:=hp;refine⟨⟨⟨fun _ _=>rfl,hn⟩,(0:Nat),⟨rfl,fun i hi=>absurd hi (oE _)⟩,Ads _⟩,fun k t vk hk hi=>⟨show(k+1)*16<=140737488355328 by omega,(0:Nat),rfl,rfl,⟨rfl,fun i hi=>?_⟩,by omega⟩,fun t hi=>⟨(0:Nat),⟨rfl,fun _ _=>rfl⟩,trivial⟩⟩;have hi:i<k+1:=hi;have e0:((k:Int)).toNat=k:=by omega
 unfold Ba
 by_cases h':i<k
 ·rw[if_pos h']
 ·rw[if_neg h'];obtain rfl:i=k:=by omega
  dsimp only;rw[e0])
theorem qT:AB Tryz.prog 188 VA:=Ge Tryz.func188 (c:=Af Tryz.f188) (by kernel_rfl) mixed (fun args p q n g hs hp=>by
 unfold V9 at hs;split at hs
 ·cases hs; exact⟨_, _, qS _ _ hp.2, (.same _ (.p (Bo.clo rfl (fun i hi =>by
  rcases i with _|i
  ·show Bo (SV.ref _ _) (SV.ref _ _);exact(Bo.ref rfl (fun i hi=>by
  rcases i with _|i
  ·show Bo (SV.sl _ _ _) (SV.sl _ _ _);exact(Bo.sl hp.1)
  exact absurd hi (by simp;try omega)))
  exact absurd hi (by simp;try omega))) .nil)),⟨show Aa Tryz.prog _ from Aa.nil,rfl,⟨show Ae Tryz.prog _ from(Ae.cons qN qO Ae.nil),(AC.none (fun _=>rfl))⟩⟩⟩
 ·cases hs)
theorem qU:Ao Tryz.prog 188:=fun args w=>by kernel_rfl
def VB (l:(L.Sq L.Pt)):Prop:=l.n<=1000000
def VC (l:(L.Sq L.Pt)):Nat->Prop:=fun _=>True
def VD (l:(L.Sq L.Pt)):Nat->Nat:=fun _=>l.n
def VE (l:(L.Sq L.Pt)):Nat->Nat->List SV:=fun _ k=>[.int .i64 ((l.g k).x),.int .i64 ((l.g k).y)]
def VF:List EV->Option (Prop×(Nat->Prop)×(Nat->Nat)×(Nat->Nat->List SV))
 |[.p (.clo 166 [.ref [.sl 2 l_n l_g] 0])]=>some ((∀i,i<l_n->l_g i = [.int .i64 ((Ai (l_g i)).x),.int .i64 ((Ai (l_g i)).y)])/\VB (⟨l_n,fun i=>Ai (l_g i)⟩:(L.Sq L.Pt)),VC (⟨l_n,fun i=>Ai (l_g i)⟩:(L.Sq L.Pt)),VD (⟨l_n,fun i=>Ai (l_g i)⟩:(L.Sq L.Pt)),VE (⟨l_n,fun i=>Ai (l_g i)⟩:(L.Sq L.Pt)))
 |_=>none
abbrev VG:SE.Spec:=(FC Nat 0 39 2 VF)
def qV:Aj:={ cC with muts:=[4],specs:=AF [(188,VA)],raws:=[188] }
theorem qW (l:(L.Sq L.Pt)) (hp:VB l):vc Tryz.prog (qV) (Af Tryz.f164) (Ar Tryz.f164 [.p (.clo 166 [.ref [.sl 2 l.n (fun i=>[.int .i64 ((l.g i).x),.int .i64 ((l.g i).y)])] 0])]) (EM Tryz.prog Tryz.f164 (Nat) (VC l) 39 2 (VD l) (VE l)):=
 @Eq.mpr _ (let I:=SV.int .i64;((∀(i:Nat),let A1:=[I (l.g i).x,I (l.g i).y];i<l.n->A1=A1)/\l.n<=(1000000:Nat))/\∀(t:Nat),True->∃(t:Nat),(l.n=l.n/\∀(i:Nat),let A2:=[I (l.g i).x,I (l.g i).y];i<l.n->A2=A2)/\True) (by kernel_rfl) (by
 conv=>zeta
 exact⟨⟨fun _ _=>rfl,hp⟩,fun t _=>⟨(0:Nat),⟨rfl,fun _ _=>rfl⟩,trivial⟩⟩)
theorem qX:AB Tryz.prog 164 VG:=Ge Tryz.func164 (c:=Af Tryz.f164) (by kernel_rfl) mixed (fun args p q n g hs hp=>by
 unfold VF at hs;split at hs
 ·cases hs; exact⟨_, _, qW _ hp.2, (.p (Bo.clo rfl (fun i hi =>by
  rcases i with _|i
  ·show Bo (SV.ref _ _) (SV.ref _ _);exact(Bo.ref rfl (fun i hi=>by
  rcases i with _|i
  ·show Bo (SV.sl _ _ _) (SV.sl _ _ _);exact(Bo.sl hp.1)
  exact absurd hi (by simp;try omega)))
  exact absurd hi (by simp;try omega))) .nil),⟨show Aa Tryz.prog _ from(Aa.cons qT qU Aa.nil),rfl,⟨show Ae Tryz.prog _ from Ae.nil,(AC.none (fun _=>rfl))⟩⟩⟩
 ·cases hs)
theorem qY:Ao Tryz.prog 164:=fun args w=>by kernel_rfl
def VH (l:(L.Sq L.Pt)):Prop:=l.n<=1000000
def VI (l:(L.Sq L.Pt)):Nat->Prop:=fun _=>True
def VJ (l:(L.Sq L.Pt)):Nat->Nat:=fun _=>l.n
def VK (l:(L.Sq L.Pt)):Nat->Nat->List SV:=fun _ k=>[.int .i64 (((Aw l).g k).x),.int .i64 (((Aw l).g k).y)]
def VL:List EV->Option (Prop×(Nat->Prop)×(Nat->Nat)×(Nat->Nat->List SV))
 |[.p (.clo 166 [.ref [.sl 2 l_n l_g] 0]),.p (.clo 78 [])]=>some ((∀i,i<l_n->l_g i = [.int .i64 ((Ai (l_g i)).x),.int .i64 ((Ai (l_g i)).y)])/\VH (⟨l_n,fun i=>Ai (l_g i)⟩:(L.Sq L.Pt)),VI (⟨l_n,fun i=>Ai (l_g i)⟩:(L.Sq L.Pt)),VJ (⟨l_n,fun i=>Ai (l_g i)⟩:(L.Sq L.Pt)),VK (⟨l_n,fun i=>Ai (l_g i)⟩:(L.Sq L.Pt)))
 |_=>none
abbrev PG:SE.Spec:=(FC Nat 0 39 2 VL)
def qZ:Aj:={ cC with muts:=[7],specs:=AF [(164,VG),(78,P3)],trs:=GV [(165,Vq)],ren:=fun k=>k-998,raws:=[164] }
theorem rA (l:(L.Sq L.Pt)) (hp:VH l):vc Tryz.prog (qZ) (Af Tryz.f126) (Ar Tryz.f126 [.p (.clo 166 [.ref [.sl 2 l.n (fun i=>[.int .i64 ((l.g i).x),.int .i64 ((l.g i).y)])] 0]),.p (.clo 78 [])]) (EM Tryz.prog Tryz.f126 (Nat) (VI l) 39 2 (VJ l) (VK l)):=
 @Eq.mpr _ (let I:=SV.int .i64;((∀(i:Nat),let A1:=[I (l.g i).x,I (l.g i).y];i<l.n->A1=A1)/\l.n<=(1000000:Nat))/\∀(t:Nat),True->∃(t:Nat×(Nat->L.Pt)),SV.clo (nat_lit 78) []=SV.clo (78:Nat) []/\(l.n=t.1/\∀(i:Nat),i<l.n -> [I (l.g i).x,I (l.g i).y]= [I (t.2 i).x,I (t.2 i).y])/\t.1<=(1000000:Nat)/\∀(u:Nat->L.Pt),CU BK t.1 t.2 u->∃(t_1:Nat),(t.1=l.n/\∀(i:Nat),i<t.1 -> [I (u i).x,I (u i).y]= [I ((Aw l).g i).x,I ((Aw l).g i).y])/\True) (by kernel_rfl) (by
 conv=>zeta
 have hn:l.n<=1000000:=hp;refine⟨⟨fun _ _=>rfl,hn⟩,fun t _=>⟨(l.n,l.g),rfl,⟨rfl,fun _ _=>rfl⟩,hn,fun u hu=>⟨(0:Nat),⟨rfl,fun i hi=>?_⟩,trivial⟩⟩⟩;rw[qE (l:=l) hu i hi])
theorem VM:AB Tryz.prog 126 PG:=Ge Tryz.func126 (c:=Af Tryz.f126) (by kernel_rfl) mixed (fun args p q n g hs hp=>by
 unfold VL at hs;split at hs
 ·cases hs; exact⟨_, _, rA _ hp.2, (.p (Bo.clo rfl (fun i hi =>by
  rcases i with _|i
  ·show Bo (SV.ref _ _) (SV.ref _ _);exact(Bo.ref rfl (fun i hi=>by
  rcases i with _|i
  ·show Bo (SV.sl _ _ _) (SV.sl _ _ _);exact(Bo.sl hp.1)
  exact absurd hi (by simp;try omega)))
  exact absurd hi (by simp;try omega))) (.p (Bo.clo rfl (fun i hi=>by
  exact absurd hi (by simp;try omega))) .nil)),⟨show Aa Tryz.prog _ from(Aa.cons qX qY (Aa.cons P4 P5 Aa.nil)),rfl,⟨show Ae Tryz.prog _ from Ae.nil,⟨show Dv Tryz.prog _ from(Dv.cons qH qI Dv.nil),⟨FV.no1 (fun _=>rfl),FamsOk.none (fun _=>rfl)⟩⟩⟩⟩⟩
 ·cases hs)
theorem VN:Ao Tryz.prog 126:=fun args w=>by kernel_rfl
def VO (l:(L.Sq L.Pt)):Prop:=1<=l.n/\l.n<=1000000/\∀i,i<l.n->Au (l.g i)
def VP (l:(L.Sq L.Pt)):Nat->Prop:=fun _=>True
def VQ (l:(L.Sq L.Pt)):Nat->Nat:=fun _=>(Bu l).n
def VR (l:(L.Sq L.Pt)):Nat->Nat->List SV:=fun _ k=>[.int .i64 (((Bu l).g k).x),.int .i64 (((Bu l).g k).y)]
def VS:List EV->Option (Prop×(Nat->Prop)×(Nat->Nat)×(Nat->Nat->List SV))
 |[.p (.sl 2 l_n l_g)]=>some ((∀i,i<l_n->l_g i = [.int .i64 ((Ai (l_g i)).x),.int .i64 ((Ai (l_g i)).y)])/\VO (⟨l_n,fun i=>Ai (l_g i)⟩:(L.Sq L.Pt)),VP (⟨l_n,fun i=>Ai (l_g i)⟩:(L.Sq L.Pt)),VQ (⟨l_n,fun i=>Ai (l_g i)⟩:(L.Sq L.Pt)),VR (⟨l_n,fun i=>Ai (l_g i)⟩:(L.Sq L.Pt)))
 |_=>none
abbrev VT:SE.Spec:=(FC Nat 0 39 2 VS)
def rB:Aj:={ cC with muts:=[5],specs:=AF [(77,IW)],nils:=BD [(2,[(3,32,39,2)])],cuts:=[36,46] }
theorem rC (l:(L.Sq L.Pt)) (hp:VO l):vc Tryz.prog ({ rB with loops:=AY [(3,{ T:=Nat,keep:=[3,6,7],keepO:=[],chg:=fun i=>[(8,.p (.int .i64 (i:Int)))],own:=fun i=>[(32,.row 39 2 (BP (Bv l i)) (fun k=>[.int .i64 ((B9 (Bv l i) k).x),.int .i64 ((B9 (Bv l i) k).y)]))],inv:=fun i=>i<=l.n,mu:=fun i=>l.n-i }),(5,{ T:=Nat×List L.Pt,keep:=[3,5,6,7,8],keepO:=[5],tie:=fun g=>[(8,.int .i64 (g.1:Int))],chg:=fun g=>[],own:=fun g=>[(32,.row 39 2 (BP g.2) (fun k=>[.int .i64 ((B9 g.2 k).x),.int .i64 ((B9 g.2 k).y)]))],inv:=fun g=>g.1<l.n/\Cx (l.g g.1) g.2=Cx (l.g g.1) (Bv l g.1)/\(∀q,G5 q g.2->G5 q (Bv l g.1))/\BP g.2<=g.1,mu:=fun g=>BP g.2 })],rfs:=AU [] }) (Af Tryz.f128) (Ar Tryz.f128 [.p (.sl 2 l.n (fun i=>[.int .i64 ((l.g i).x),.int .i64 ((l.g i).y)]))]) (EM Tryz.prog Tryz.f128 (Nat) (VP l) 39 2 (VQ l) (VR l)):=
 @Eq.mpr _ (let I:=SV.int .i64;let T:=Ad6;let A11:=(0:Int);let A9:=(↑l.n:Int);let A6:=(l.n=l.n/\∀(i:Nat),let A15:=[I (l.g i).x,I (l.g i).y];i<l.n->A15=A15);let A3:=(1:Int);(∃(g:Nat),A11=(↑g:Int)/\(nat_lit 0=BP (Bv l g)/\∀(i:Nat),let A14:=(B9 (Bv l g) i);i<nat_lit 0 -> []= [I A14.x,I A14.y])/\g<=l.n)/\∀(g:Nat),let A7:=(Bv l g);let A5:=(↑g:Int);let A8:=(l.g (T A5));let A4:=(↑(BP A7):Int);g<=l.n->(decide (A5<A9)=true->(A11<=A5/\A5<A9)/\(∃(g_1:Nat×List L.Pt),(BP A7=BP g_1.2/\∀(i:Nat),i<BP A7 -> [I (B9 A7 i).x,I (B9 A7 i).y]= [I (B9 g_1.2 i).x,I (B9 g_1.2 i).y])/\A5=(↑g_1.1:Int)/\g_1.1<l.n/\Cx (l.g g_1.1) g_1.2=Cx (l.g g_1.1) (Bv l g_1.1)/\(∀(q:L.Pt),G5 q g_1.2->G5 q (Bv l g_1.1))/\BP g_1.2<=g_1.1)/\∀(g_1:Nat×List L.Pt),let A1:=(↑(BP g_1.2):Int);let A12:=(A1-A3);let A17:=(B9 g_1.2 (T A12));let A10:=(A1-(2:Int));let A16:=(B9 g_1.2 (T A10));let A2:=(bif decide (A3<A1)then decide (Ax A16 A17 A8<=A11)else false);A5=(↑g_1.1:Int)/\g_1.1<l.n/\Cx (l.g g_1.1) g_1.2=Cx (l.g g_1.1) (Bv l g_1.1)/\(∀(q:L.Pt),G5 q g_1.2->G5 q (Bv l g_1.1))/\BP g_1.2<=g_1.1->(decide (A3<A1)=true->Ac .i64 A10)/\(decide (A3<A1)=true->A11<=A1-(2:Int)/\A1-(2:Int)<A1)/\(decide (A3<A1)=true->T A10<BP g_1.2)/\(decide (A3<A1)=true->Ac .i64 A12)/\(decide (A3<A1)=true->A11<=A1-A3/\A1-A3<A1)/\(decide (A3<A1)=true->T A12<BP g_1.2)/\(decide (A3<A1)=true->Au A16/\Au A17/\Au A8)/\(A2=true->Ac .i64 A12/\(A11<=A1-A3/\A1-A3<=A1)/\∃(g':Nat×List L.Pt),nat_lit 0=nat_lit 0/\A5=A5/\A9=A9/\A6/\(T A12=BP g'.2/\∀(i:Nat),i<T A12 -> [I (B9 g_1.2 i).x,I (B9 g_1.2 i).y]= [I (B9 g'.2 i).x,I (B9 g'.2 i).y])/\A8.x=A8.x/\A8.y=A8.y/\(A5=(↑g'.1:Int)/\g'.1<l.n/\Cx (l.g g'.1) g'.2=Cx (l.g g'.1) (Bv l g'.1)/\(∀(q:L.Pt),G5 q g'.2->G5 q (Bv l g'.1))/\BP g'.2<=g'.1)/\BP g'.2<BP g_1.2)/\(A2=false->(BP g_1.2+nat_lit 1)*nat_lit 16<=(140737488355328:Nat)/\Ac .i64 (A5+A3)/\∃(g':Nat),A5+A3=(↑g':Int)/\A9=A9/\A6/\(BP g_1.2+nat_lit 1=BP (Bv l g')/\∀(i:Nat),let A13:=(B9 (Bv l g') i);i<BP g_1.2+nat_lit 1->Ba (BP g_1.2) (fun(k:Nat)=>[I (B9 g_1.2 k).x,I (B9 g_1.2 k).y]) (fun(x:Nat)=>[I A8.x,I A8.y]) i = [I A13.x,I A13.y])/\g'<=l.n/\l.n-g'<l.n-g))/\(decide (A5<A9)=false->Ac .i64 (A4-A3)/\(A11<=A4-A3/\A4-A3<=A4)/\∃(t:Nat),(T (A4-A3)=(Bu l).n/\∀(i:Nat),i<T (A4-A3) -> [I (B9 A7 i).x,I (B9 A7 i).y]= [I ((Bu l).g i).x,I ((Bu l).g i).y])/\True)) (by kernel_rfl) (by
 conv=>zeta
 obtain⟨h1,hn,hb⟩:=hp;have len0:∀k,BP (Bv l k)<=k:=Ja l;have bdc:∀k,k<=l.n->∀q,G5 q (Bv l k)->Au q:=fun k hk q hq=>by
  obtain⟨i,hi,rfl⟩:=PD hq;exact hb i (by omega)
 refine⟨⟨(0:Nat),rfl,⟨rfl,fun i hi=>absurd hi (oE _)⟩,Ads _⟩,fun g hg=>⟨fun hlt=>?_,fun hge=>?_⟩⟩
 ·have hb':(g:Int)<(l.n:Int):=of_decide_eq_true hlt;have e0:((g:Int)).toNat=g:=by omega
  refine⟨⟨by omega,hb'⟩,⟨(g,Bv l g),⟨rfl,fun _ _=>rfl⟩,rfl,by omega,rfl,fun _ h=>h,len0 g⟩,fun g1 hg1=>?_⟩;obtain⟨g0,st⟩:=g1;obtain⟨e1,q1,q2,q3,q4⟩:=hg1;have e1:(g:Int)=(g0:Int):=e1;obtain rfl:g=g0:=by omega
  have q2:Cx (l.g g) st=Cx (l.g g) (Bv l g):=q2;have q3:∀q,G5 q st->G5 q (Bv l g):=q3;have q4:BP st<=g:=q4;have mb:∀k,k<BP st->Au (B9 st k):=fun k hk=>bdc g hg _ (q3 _ (Vu hk));rw[e0];dsimp only;refine⟨fun h=>?_,fun h=>?_,fun h=>?_,fun h=>?_,fun h=>?_,fun h=>?_,fun h=>?_,fun hc=>?_,fun hc=>?_⟩
  any_goals (try have h:(1:Int)<(BP st:Int):=of_decide_eq_true h)
  ·exact jK
  ·omega
  ·omega
  ·exact jK
  ·omega
  ·omega
  ·exact⟨mb _ (by omega),mb _ (by omega),hb g (by omega)⟩
  ·cases hd:decide ((1:Int)<(BP st:Int))with
   |false=>rw[hd]at hc;cases hc
   |true =>
     have h:(1:Int)<(BP st:Int):=of_decide_eq_true hd;rw[hd]at hc;have hc:=of_decide_eq_true hc
     match st,h with
     |b::a::r,h =>
       have f1:(((BP (b::a::r):Nat):Int)-2).toNat=r.length:=by show(((r.length+1+1:Nat):Int)-2).toNat=r.length;omega
       have f2:(((BP (b::a::r):Nat):Int)-1).toNat=r.length+1:=by show(((r.length+1+1:Nat):Int)-1).toNat=r.length+1;omega
       have g1:B9 (b::a::r) (r.length+1)=b:=L5;have g2:B9 (b::a::r) r.length=a:=(Nk (by simp)).trans L5;rw[f1,f2,g1,g2]at hc;refine⟨jK,⟨by omega,by omega⟩,(g,a::r),rfl,rfl,rfl,⟨rfl,fun _ _=>rfl⟩,⟨f2,fun i hi=>?_⟩,rfl,rfl,⟨rfl,q1,?_,fun q hq=>q3 q (Adr _ hq),?_⟩,?_⟩
       ·rw[f2]at hi;have:B9 (b::a::r) i=B9 (a::r) i:=Nk (by simpa using hi);rw[this]
       ·rw[<- q2];show Cx (l.g g) (a::r)=bif decide (Ax a b (l.g g)<=0)then Cx (l.g g) (a::r)else b::a::r;rw[decide_eq_true hc];rfl
       ·have:r.length+1+1<=g:=q4;show r.length+1<=g;omega
       ·show r.length+1<r.length+1+1;omega
     |[],h=>exact absurd h (by show ¬ (1:Int)<((0:Nat):Int);omega)
     |[a],h=>exact absurd h (by show ¬ (1:Int)<((1:Nat):Int);omega)
  ·have hp' : Cx (l.g g) st = st :=by
    match st,hc with
    |[],_=>rfl
    |[a],_=>rfl
    |b::a::r,hc =>
      have f1:(((BP (b::a::r):Nat):Int)-2).toNat=r.length:=by show(((r.length+1+1:Nat):Int)-2).toNat=r.length;omega
      have f2:(((BP (b::a::r):Nat):Int)-1).toNat=r.length+1:=by show(((r.length+1+1:Nat):Int)-1).toNat=r.length+1;omega
      have g1:B9 (b::a::r) (r.length+1)=b:=L5;have g2:B9 (b::a::r) r.length=a:=(Nk (by simp)).trans L5;have hl:(1:Int)<((BP (b::a::r):Nat):Int):=by show(1:Int)<((r.length+1+1:Nat):Int);omega
      rw[decide_eq_true hl,f1,f2,g1,g2]at hc;have hc:decide (Ax a b (l.g g)<=0)=false:=hc;show(bif decide (Ax a b (l.g g)<=0)then Cx (l.g g) (a::r)else b::a::r)=b::a::r;rw[hc];rfl
   have e2:Bv l (g+1)=l.g g::st:=by
    show l.g g::Cx (l.g g) (Bv l g)=l.g g::st;rw[<- q2,hp']
   refine⟨show(BP st+1)*16<=140737488355328 by omega,jK,g+1,by omega,rfl,⟨rfl,fun _ _=>rfl⟩,?_,by omega,by omega⟩;rw[e2];refine⟨rfl,fun i hi=>?_⟩;have hi:i<BP st+1:=hi;unfold Ba
   by_cases h':i<BP st
   ·rw[if_pos h'];have:B9 (l.g g::st) i=B9 st i:=Nk h';rw[this]
   ·rw[if_neg h'];obtain rfl:i=BP st:=by omega
    have:B9 (l.g g::st) (BP st)=l.g g:=L5;rw[this]
 ·have hb':¬ (g:Int)<(l.n:Int):=of_decide_eq_false hge;obtain rfl:g=l.n:=by omega
  have l1:1<=BP (Bv l l.n):=by
   match hh:l.n,h1 with
   |m+1,_=>exact Ae6 (Ads _)
  have l2:=len0 l.n;have e2:(((BP (Bv l l.n):Nat):Int)-1).toNat=(Bu l).n:=by
   show(((BP (Bv l l.n):Nat):Int)-1).toNat=BP (Bv l l.n)-1;omega
  exact⟨jK,⟨by omega,by omega⟩,(0:Nat),⟨e2,fun _ _=>rfl⟩,trivial⟩)
theorem rD:AB Tryz.prog 128 VT:=Ge Tryz.func128 (c:=Af Tryz.f128) (by kernel_rfl) mixed (fun args p q n g hs hp=>by
 unfold VS at hs;split at hs
 ·cases hs;exact⟨_,_,rC _ hp.2,(.p (.sl hp.1) .nil),⟨show Aa Tryz.prog _ from(Aa.cons JR JS Aa.nil),rfl,⟨show Ae Tryz.prog _ from Ae.nil,(AC.none (fun _=>rfl))⟩⟩⟩
 ·cases hs)
theorem rE:Ao Tryz.prog 128:=fun args w=>by kernel_rfl
def VU (l:(L.Sq L.Pt)):Prop:=2<=l.n/\l.n<=1000/\∀i,i<l.n->Au (l.g i)
def VV (l:(L.Sq L.Pt)):Nat->Prop:=fun _=>True
def VW (l:(L.Sq L.Pt)):Nat->Nat:=fun _=>(Ap l).n
def VX (l:(L.Sq L.Pt)):Nat->Nat->List SV:=fun _ k=>[.int .i64 (((Ap l).g k).x),.int .i64 (((Ap l).g k).y)]
def VY:List EV->Option (Prop×(Nat->Prop)×(Nat->Nat)×(Nat->Nat->List SV))
 |[.p (.sl 2 l_n l_g)]=>some ((∀i,i<l_n->l_g i = [.int .i64 ((Ai (l_g i)).x),.int .i64 ((Ai (l_g i)).y)])/\VU (⟨l_n,fun i=>Ai (l_g i)⟩:(L.Sq L.Pt)),VV (⟨l_n,fun i=>Ai (l_g i)⟩:(L.Sq L.Pt)),VW (⟨l_n,fun i=>Ai (l_g i)⟩:(L.Sq L.Pt)),VX (⟨l_n,fun i=>Ai (l_g i)⟩:(L.Sq L.Pt)))
 |_=>none
abbrev PH:SE.Spec:=(FC Nat 0 39 2 VY)
def rF:Aj:={ cC with muts:=[7,18],specs:=AF [(127,PF),(126,PG),(128,VT),(130,Vh)],trs:=GV [(129,JY)],ren:=fun k=>k-998,raws:=[126] }
theorem rG (l:(L.Sq L.Pt)) (hp:VU l):vc Tryz.prog (rF) (Af Tryz.f81) (Ar Tryz.f81 [.p (.sl 2 l.n (fun i=>[.int .i64 ((l.g i).x),.int .i64 ((l.g i).y)]))]) (EM Tryz.prog Tryz.f81 (Nat) (VV l) 39 2 (VW l) (VX l)):=
 @Eq.mpr _ (let I:=SV.int .i64;let A12:=(true&&(true&&true));let A9:=(1000000:Nat);let A8:=(1:Nat);let A7:=((∀(i:Nat),let A15:=[I (l.g i).x,I (l.g i).y];i<l.n->A15=A15)/\l.n<=A9);let A1:=(L.Sq.mk (Bu (L.Sq.mk l.n fun(i:Nat)=>(Aw (L.Sq.mk l.n fun(i:Nat)=>l.g i)).g i)).n fun(i:Nat)=>(Bu (L.Sq.mk l.n fun(i:Nat)=>(Aw (L.Sq.mk l.n fun(i:Nat)=>l.g i)).g i)).g i);A7/\A7/\∀(t:Nat),True->((∀(i:Nat),let A6:=((Aw (L.Sq.mk l.n fun(i:Nat)=>l.g i)).g i);i<l.n -> [I A6.x,I A6.y]= [I A6.x,I A6.y])/\A8<=l.n/\l.n<=A9/\∀(i:Nat),i<l.n->Au ((Aw (L.Sq.mk l.n fun(i:Nat)=>l.g i)).g i))/\∀(t:Nat),True->(∀(i:Nat),i<(Bu (L.Sq.mk l.n fun(i:Nat)=>(Aw (L.Sq.mk l.n fun(i:Nat)=>l.g i)).g i)).n->A12=true)/\∃(t:L.Sq L.Pt),let A3:=(L.Sq.mk (Bu (L.Sq.mk t.n fun(i:Nat)=>t.g (t.n-A8-i))).n fun(i:Nat)=>(Bu (L.Sq.mk t.n fun(i:Nat)=>t.g (t.n-A8-i))).g i);let A16:=(Ft A1 A3 (0:Nat));(l.n=t.n/\∀(i:Nat),let A11:=((Aw (L.Sq.mk l.n fun(i:Nat)=>l.g i)).g i);i<l.n -> [I A11.x,I A11.y]= [I (t.g i).x,I (t.g i).y])/\t.n<=A9/\∀(u:Nat),True->((∀(i:Nat),let A10:=(t.g (t.n-A8-i));i<t.n -> [I A10.x,I A10.y]= [I A10.x,I A10.y])/\A8<=t.n/\t.n<=A9/\∀(i:Nat),i<t.n->Au (t.g (t.n-A8-i)))/\∀(t_1:Nat),True->(∀(i:Nat),i<(Bu (L.Sq.mk t.n fun(i:Nat)=>t.g (t.n-A8-i))).n->A12=true)/\(((∀(i:Nat),let A4:=(Bu (L.Sq.mk l.n fun(i:Nat)=>(Aw (L.Sq.mk l.n fun(i:Nat)=>l.g i)).g i));let A13:=[I (A4.g i).x,I (A4.g i).y];i<A4.n->A13=A13)/\∀(i:Nat),let A5:=(Bu (L.Sq.mk t.n fun(i:Nat)=>t.g (t.n-A8-i)));let A14:=[I (A5.g i).x,I (A5.g i).y];i<A5.n->A14=A14)/\A8<=A16.n+(Ft A1 A3 A8).n/\A16.n<=A9/\(Ft A1 A3 A8).n<=A9)/\∀(t_2:Nat),True->∃(t_3:Nat),((Cm (Ft A1 A3) (2:Nat)).n=(Ap l).n/\∀(i:Nat),let A2:=(Cm (Ft (L.Sq.mk (Bu (L.Sq.mk l.n fun(i:Nat)=>(Aw (L.Sq.mk l.n fun(i:Nat)=>l.g i)).g i)).n fun(i:Nat)=>(Bu (L.Sq.mk l.n fun(i:Nat)=>(Aw (L.Sq.mk l.n fun(i:Nat)=>l.g i)).g i)).g i) (L.Sq.mk (Bu (L.Sq.mk t.n fun(i:Nat)=>t.g (t.n-A8-i))).n fun(i:Nat)=>(Bu (L.Sq.mk t.n fun(i:Nat)=>t.g (t.n-A8-i))).g i)) (2:Nat));i<A2.n -> [I (A2.g i).x,I (A2.g i).y]= [I ((Ap l).g i).x,I ((Ap l).g i).y])/\True) (by kernel_rfl) (by
 conv=>zeta
 obtain⟨h1,hn,hb⟩:=hp;have sb:∀i,i<l.n->Au ((Aw l).g i):=fun i hi=>by
  obtain⟨j,hj,e⟩:=Ka l hi;rw[e];exact hb j hj
 have cl:∀m:L.Sq L.Pt,(Bu m).n<=m.n:=fun m=>by
  have:=Ja m m.n;show(Bv m m.n).length-1<=m.n;omega
 have c1:(Bu (Aw l)).n<=l.n:=cl (Aw l);have c2:(Bu (Dn (Aw l))).n<=l.n:=cl (Dn (Aw l));have c3:1<=(Bu (Aw l)).n:=qJ (l:=Aw l) h1;refine⟨⟨fun _ _=>rfl,by omega⟩,⟨fun _ _=>rfl,by omega⟩,fun t _=>⟨⟨fun _ _=>rfl,by omega,by omega,sb⟩,fun t _=>⟨fun _ _=>rfl,Aw l,⟨rfl,fun _ _=>rfl⟩,show l.n<=1000000 by omega,fun u _=>⟨⟨fun _ _=>rfl,show 1<=l.n by omega,show l.n<=1000000 by omega,fun i hi=>sb _ ?_⟩,fun t1 _=>⟨fun _ _=>rfl,⟨⟨fun _ _=>rfl,fun _ _=>rfl⟩,?_,?_,?_⟩,fun t2 _=>⟨(0:Nat),⟨rfl,fun _ _=>rfl⟩,trivial⟩⟩⟩⟩⟩⟩
 ·have hi:i<l.n:=hi;show l.n-1-i<l.n;omega
 ·show 1<=(Bu (Aw l)).n+(Bu (Dn (Aw l))).n;omega
 ·show(Bu (Aw l)).n<=1000000;omega
 ·show(Bu (Dn (Aw l))).n<=1000000;omega)
theorem VZ:AB Tryz.prog 81 PH:=Ge Tryz.func81 (c:=Af Tryz.f81) (by kernel_rfl) mixed (fun args p q n g hs hp=>by
 unfold VY at hs;split at hs
 ·cases hs;exact⟨_,_,rG _ hp.2,(.p (.sl hp.1) .nil),⟨show Aa Tryz.prog _ from(Aa.cons V3 V4 (Aa.cons VM VN (Aa.cons rD rE (Aa.cons pU pV Aa.nil)))),rfl,⟨show Ae Tryz.prog _ from Ae.nil,⟨show Dv Tryz.prog _ from(Dv.cons pY pX Dv.nil),⟨FV.no1 (fun _=>rfl),FamsOk.none (fun _=>rfl)⟩⟩⟩⟩⟩
 ·cases hs)
theorem Wa:Ao Tryz.prog 81:=fun args w=>by kernel_rfl
end
section
set_option maxRecDepth 100000
set_option maxHeartbeats 4000000
set_option linter.unusedVariables false
attribute [local irreducible] vc
structure AH where
 fr:Int
 to_:Int
 area:Int
def GY:List SV->AH
 |[.int _ a,.int _ b,.int _ c]=>⟨a,b,c⟩
 |_=>⟨0,0,0⟩
instance:Inhabited AH:=⟨⟨0,0,0⟩⟩
def Wb (p:AH):List Int:=[p.fr,p.to_,p.area]
def EO (a b:AH):Int:=Bs a.fr b.fr
theorem rI:Go.Sort.SWO (Go.Proofs.ltOf EO):=by
 have k:∀x y,Go.Proofs.ltOf EO x y=true↔x.fr<y.fr:=fun x y=>by
  unfold Go.Proofs.ltOf EO Bs;rw[decide_eq_true_iff]
  by_cases h1:x.fr<y.fr
  ·simp[h1]
  ·by_cases h2:y.fr<x.fr<;>simp[h1,h2]
 have kf:∀x y,Go.Proofs.ltOf EO x y=false↔¬ x.fr<y.fr:=fun x y=>by
  rw[<- k,Bool.not_eq_true]
 refine⟨fun x=>?_,fun x y z=>?_,fun x y z=>?_⟩
 ·rw[kf];omega
 ·simp only[k];omega
 ·simp only[kf];omega
def Dx (l h:L.Sq L.Pt) (k:Nat):Int:=AR l (h.g k)
def DI (l h:L.Sq L.Pt) (k:Nat):Int:=AR l (h.g (BE h.n k))
def D8 (l h:L.Sq L.Pt) (k:Nat):Bool:=!decide (DI l h k=AdF (Dx l h k+1) (l.n:Int))
def C8 (n:Nat) (to_:Int) (j:Nat):Int:=AdF (to_+(n:Int)-(j:Int)) (n:Int)
def EP (n:Nat) (fr to_:Int):Nat:=(AdF (to_+(n:Int)-fr) (n:Int)).toNat
def H1 (l:L.Sq L.Pt) (fr to_:Int):L.Sq L.Pt:=⟨EP l.n fr to_+1,fun j=>l.g (C8 l.n to_ j).toNat⟩
def EC (l h:L.Sq L.Pt) (k:Nat):AH:=⟨Dx l h k,DI l h k,B7 (H1 l (Dx l h k) (DI l h k)) (H1 l (Dx l h k) (DI l h k)).n⟩
def Cg (l:L.Sq L.Pt):L.Sq AH:=⟨AD (D8 l (Ap l)) (Ap l).n,fun i=>EC l (Ap l) (B2 (D8 l (Ap l)) (Ap l).n i)⟩
def D9 (l:L.Sq L.Pt):Nat:=bif AA l then(Cg l).n else 0
def rJ:Go.Shelf.Ren:=⟨fun|6=>83|15=>132|14=>131|28=>176|29=>177|20=>168|21=>169|22=>170|23=>171|24=>172|25=>173|26=>174|27=>175|46=>190|47=>191|48=>192|49=>193|50=>194|57=>212|n=>n,fun|22=>25|24=>35|25=>132|3=>3|39=>193|0=>0|53=>235|55=>237|4=>4|46=>228|45=>227|50=>232|5=>5|9=>9|66=>246|70=>250|76=>262|77=>263|n=>n,fun|n=>n⟩
theorem rL:Go.Proofs.SlLaysF0.n6 Tryz.prog rJ:={
 mixed:=by kernel_rfl
 f6:=⟨Tryz.f83.name,by decide,Tryz.func83.trans (congrArg some (by kernel_rfl))⟩
 f14:=⟨Tryz.f131.name,by decide,Tryz.func131.trans (congrArg some (by kernel_rfl))⟩
 f15:=Tryz.func132.trans (congrArg some (by kernel_rfl))
 f20:=⟨Tryz.f168.name,by decide,Tryz.func168.trans (congrArg some (by kernel_rfl))⟩
 f21:=⟨Tryz.f169.name,by decide,Tryz.func169.trans (congrArg some (by kernel_rfl))⟩
 f22:=⟨Tryz.f170.name,by decide,Tryz.func170.trans (congrArg some (by kernel_rfl))⟩
 f23:=⟨Tryz.f171.name,by decide,Tryz.func171.trans (congrArg some (by kernel_rfl))⟩
 f24:=⟨Tryz.f172.name,by decide,Tryz.func172.trans (congrArg some (by kernel_rfl))⟩
 f25:=⟨Tryz.f173.name,by decide,Tryz.func173.trans (congrArg some (by kernel_rfl))⟩
 f26:=⟨Tryz.f174.name,by decide,Tryz.func174.trans (congrArg some (by kernel_rfl))⟩
 f27:=⟨Tryz.f175.name,by decide,Tryz.func175.trans (congrArg some (by kernel_rfl))⟩
 f28:=Tryz.func176.trans (congrArg some (by kernel_rfl))
 f29:=Tryz.func177.trans (congrArg some (by kernel_rfl))
 f46:=⟨Tryz.f190.name,by decide,Tryz.func190.trans (congrArg some (by kernel_rfl))⟩
 f47:=Tryz.func191.trans (congrArg some (by kernel_rfl))
 f48:=Tryz.func192.trans (congrArg some (by kernel_rfl))
 f49:=⟨Tryz.f193.name,by decide,Tryz.func193.trans (congrArg some (by kernel_rfl))⟩
 f50:=⟨Tryz.f194.name,by decide,Tryz.func194.trans (congrArg some (by kernel_rfl))⟩
 f57:=⟨Tryz.f212.name,by decide,Tryz.func212.trans (congrArg some (by kernel_rfl))⟩
 t0:=Tryz.underlying0
 a0:=Tryz.isAgg0
 z0:=Tryz.sizeOf0
 v0:=Tryz.zeroValue0
 t3:=Tryz.underlying3
 a3:=Tryz.isAgg3
 z3:=Tryz.sizeOf3
 v3:=Tryz.zeroValue3
 t4:=Tryz.underlying4
 a4:=Tryz.isAgg4
 z4:=Tryz.sizeOf4
 v4:=Tryz.zeroValue4
 t5:=Tryz.underlying5
 a5:=Tryz.isAgg5
 z5:=Tryz.sizeOf5
 v5:=Tryz.zeroValue5
 t9:=Tryz.underlying9
 a9:=Tryz.isAgg9
 z9:=Tryz.sizeOf9
 v9:=Tryz.zeroValue9
 t22:=Tryz.underlying25
 a22:=Tryz.isAgg25
 z22:=Tryz.sizeOf25
 v22:=Tryz.zeroValue25
 t25:=Tryz.underlying132
 a25:=Tryz.isAgg132
 z25:=Tryz.sizeOf132
 v25:=Tryz.zeroValue132
 t39:=Tryz.underlying193
 a39:=Tryz.isAgg193
 z39:=Tryz.sizeOf193
 v39:=Tryz.zeroValue193
 t45:=Tryz.underlying227
 a45:=Tryz.isAgg227
 z45:=Tryz.sizeOf227
 v45:=Tryz.zeroValue227
 t46:=Tryz.underlying228
 a46:=Tryz.isAgg228
 z46:=Tryz.sizeOf228
 v46:=Tryz.zeroValue228
 t50:=Tryz.underlying232
 a50:=Tryz.isAgg232
 z50:=Tryz.sizeOf232
 v50:=Tryz.zeroValue232
 t53:=Tryz.underlying235
 a53:=Tryz.isAgg235
 z53:=Tryz.sizeOf235
 v53:=Tryz.zeroValue235
 t55:=Tryz.underlying237
 a55:=Tryz.isAgg237
 z55:=Tryz.sizeOf237
 v55:=Tryz.zeroValue237
 t66:=Tryz.underlying246
 a66:=Tryz.isAgg246
 z66:=Tryz.sizeOf246
 v66:=Tryz.zeroValue246
 t70:=Tryz.underlying250
 a70:=Tryz.isAgg250
 z70:=Tryz.sizeOf250
 v70:=Tryz.zeroValue250
 t76:=Tryz.underlying262
 a76:=Tryz.isAgg262
 z76:=Tryz.sizeOf262
 v76:=Tryz.zeroValue262
 t77:=Tryz.underlying263
 a77:=Tryz.isAgg263
 z77:=Tryz.sizeOf263
 v77:=Tryz.zeroValue263 }
theorem Nl {n:Nat} {to_:Int} (hn:0<n) (h0:0<=to_) {j:Nat} (hj:j<=n):0<=C8 n to_ j/\C8 n to_ j<(n:Int):=by
 unfold C8;exact⟨Ae0 (n:Int) (by omega),Aen _ (by omega)⟩
theorem Wc {n:Nat} {to_:Int} (h0:0<=to_) (h1:to_<(n:Int)):C8 n to_ 0=to_:=by
 unfold C8;rw[show to_+(n:Int)-((0:Nat):Int)=to_+(n:Int)by omega,AdA (by omega),Aef,AdV h0 h1]
theorem rM {n:Nat} {to_:Int} (hn:0<n) (h0:0<=to_) {j:Nat} (hj:j<n):AdF (C8 n to_ j+(n:Int)-1) (n:Int)=C8 n to_ (j+1):=by
 have hb:=Nl hn h0 (j:=j) (by omega);unfold C8 at hb ⊢;rw[AdA (a:=to_+(n:Int)-(j:Int)) (by omega)]at hb ⊢;rw[AdA (by omega),AdA (a:=to_+(n:Int)-((j+1:Nat):Int)) (by omega)];rw[show(to_+(n:Int)-(j:Int)) % (n:Int)+(n:Int)-1=(to_+(n:Int)-(j:Int)) % (n:Int)+((n:Int)-1)by omega,Int.emod_add_emod,show to_+(n:Int)-(j:Int)+((n:Int)-1)=to_+(n:Int)-((j+1:Nat):Int)+(n:Int)by omega,Aef]
theorem Wd {n:Nat} {fr to_:Int} (hf0:0<=fr) (hf1:fr<(n:Int)) (ht0:0<=to_) (ht1:to_<(n:Int)) {j:Nat} (hj:j<=EP n fr to_):(C8 n to_ j=fr↔j=EP n fr to_)/\EP n fr to_<n:=by
 unfold EP C8 at *;rw[AdA (a:=to_+(n:Int)-fr) (by omega)]at hj ⊢
 by_cases h:fr<=to_
 ·have e1 : (to_+(n:Int)-fr) % (n:Int)= to_-fr :=by
   rw[show to_+(n:Int)-fr=to_-fr+(n:Int)by omega,Aef,AdV (by omega) (by omega)]
  rw[e1]at hj ⊢;rw[AdA (by omega),show to_+(n:Int)-(j:Int)=to_-(j:Int)+(n:Int)by omega,Aef,AdV (by omega) (by omega)];omega
 ·have e1:(to_+(n:Int)-fr) % (n:Int)=to_+(n:Int)-fr:=AdV (by omega) (by omega);rw[e1]at hj ⊢;rw[AdA (by omega)]
  by_cases h2:(j:Int)<=to_
  ·rw[show to_+(n:Int)-(j:Int)=to_-(j:Int)+(n:Int)by omega,Aef,AdV (by omega) (by omega)];omega
  ·rw[AdV (by omega) (by omega)];omega
theorem rN {l:L.Sq L.Pt} (hs:Ep l) {fr to_:Int} (hn:l.n<=900) (hf0:0<=fr) (hf1:fr<(l.n:Int)) (ht0:0<=to_) (ht1:to_<(l.n:Int)):Ep (H1 l fr to_):=by
 have hlen:=(Wd hf0 hf1 ht0 ht1 (j:=0) (Ads _)).2;refine⟨show EP l.n fr to_+1<=1000 by omega,fun i hi=>?_⟩;have hi:i<EP l.n fr to_+1:=hi;have hb:=Nl (n:=l.n) (by omega) ht0 (j:=i) (by omega);exact hs.2 _ (by omega)
theorem We {l:L.Sq L.Pt} {k:Nat} (hk:k<(Ap l).n):0<=AR l ((Ap l).g k)/\AR l ((Ap l).g k)<(l.n:Int):=by
 obtain⟨i,hi,e⟩:=qK l hk;obtain⟨j,hj,e2,_⟩:=UV (l:=l) hi;rw[e,e2];omega
def Wf (a:AH) (b:AH):Prop:=True
def Wg (a:AH) (b:AH):SV:=.int .i64 (EO a b)
def PI:List EV->Option (Prop×SV)
 |[.p (.agg [.int .i64 a_fr,.int .i64 a_to_,.int .i64 a_area]),.p (.agg [.int .i64 b_fr,.int .i64 b_to_,.int .i64 b_area])]=>some (Wf (⟨a_fr,a_to_,a_area⟩:AH) (⟨b_fr,b_to_,b_area⟩:AH),Wg (⟨a_fr,a_to_,a_area⟩:AH) (⟨b_fr,b_to_,b_area⟩:AH))
 |_=>none
abbrev Wh:SE.Spec:=(AM PI)
def rO:Aj:={ cC with specs:=AF [(85,JP)] }
theorem rP (a:AH) (b:AH) (hp:Wf a b):vc Tryz.prog (rO) (Af Tryz.f84) (Ar Tryz.f84 [.p (.agg [.int .i64 a.fr,.int .i64 a.to_,.int .i64 a.area]),.p (.agg [.int .i64 b.fr,.int .i64 b.to_,.int .i64 b.area])]) (AL Tryz.prog Tryz.f84 (Wg a b)):=
 @Eq.mpr _ (True/\Bs a.fr b.fr=EO a b) (by kernel_rfl) (by
 exact⟨trivial,rfl⟩)
theorem Wi:AB Tryz.prog 84 Wh:=AP Tryz.func84 (c:=Af Tryz.f84) (by kernel_rfl) mixed (fun args p r hs hp=>by
 unfold PI at hs;split at hs
 ·cases hs;exact⟨_,_,rP _ _ hp,(.same _ (.same _ .nil)),⟨show Aa Tryz.prog _ from(Aa.cons Lz L0 Aa.nil),rfl,⟨show Ae Tryz.prog _ from Ae.nil,(AC.none (fun _=>rfl))⟩⟩⟩
 ·cases hs)
theorem Wj:Ao Tryz.prog 84:=fun args w=>by kernel_rfl
abbrev Wk:Tr:=Na 35 3 84 1005 Wb EO
theorem rQ:F7 Tryz.prog 83 Wk:=Po (enc:=Wb) rL (by decide) (fun w=>Tryz.isAgg35 w) (fun w=>Tryz.sizeOf35 w) (fun _=>rfl) rI Wi Wj (fun x y=>show De PI [.p (.agg [.int .i64 x.fr,.int .i64 x.to_,.int .i64 x.area]),.p (.agg [.int .i64 y.fr,.int .i64 y.to_,.int .i64 y.area])]from trivial) (fun x y=>rfl) _ _
theorem rR:Ao Tryz.prog 83:=fun args w=>by kernel_rfl
def Wl (l:(L.Sq L.Pt)):Prop:=l.n<=1000000
def Wm (l:(L.Sq L.Pt)):(Nat->AH)->Prop:=fun u=>AA l=true->CU EO (Cg l).n (Cg l).g u
def Wn (l:(L.Sq L.Pt)):(Nat->AH)->SV:=fun u=>.tup [.sl 3 (D9 l) (fun i=>[.int .i64 ((u i).fr),.int .i64 ((u i).to_),.int .i64 ((u i).area)]),.int .i64 (bif AA l then 0 else 1)]
def Wo:List EV->Option (Prop×((Nat->AH)->Prop)×((Nat->AH)->SV))
 |[.p (.sl 2 l_n l_g)]=>some ((∀i,i<l_n->l_g i = [.int .i64 ((Ai (l_g i)).x),.int .i64 ((Ai (l_g i)).y)])/\Wl (⟨l_n,fun i=>Ai (l_g i)⟩:(L.Sq L.Pt)),Wm (⟨l_n,fun i=>Ai (l_g i)⟩:(L.Sq L.Pt)),Wn (⟨l_n,fun i=>Ai (l_g i)⟩:(L.Sq L.Pt)))
 |_=>none
abbrev PJ:SE.Spec:=(Ts (Nat->AH) (fun _=>⟨0,0,0⟩) Wo)
def rS:Aj:={ cC with muts:=[4,5,7,40],specs:=AF [(37,JW),(81,PH),(76,Lx),(82,PB),(75,Pv),(84,Wh)],iters:=B6 [(122,Lw)],nils:=BD [(5,[(4,68,35,3)])],trs:=GV [(83,Wk)],ren:=fun k=>k-937 }
theorem rT (l:(L.Sq L.Pt)) (hp:Wl l):vc Tryz.prog ({ rS with loops:=AY [(11,{ T:=Nat×Int×Int,keep:=[1,4,5,8,9,10],keepO:=[4,5,68],tie:=fun g=>[(8,.int .i64 g.2.1),(9,.int .i64 g.2.2)],chg:=fun g=>[(11,.p (.int .i64 (C8 l.n g.2.2 g.1)))],own:=fun g=>[(40,.row 39 2 (g.1+1) (fun j=>[.int .i64 ((l.g (C8 l.n g.2.2 j).toNat).x),.int .i64 ((l.g (C8 l.n g.2.2 j).toNat).y)]))],inv:=fun g=>(0<=g.2.1/\g.2.1<(l.n:Int))/\(0<=g.2.2/\g.2.2<(l.n:Int))/\g.1<=EP l.n g.2.1 g.2.2,mu:=fun g=>l.n-g.1 })],rfs:=AU [(6,{ T:=Nat,keep:=[1,4,5],keepO:=[5],own:=fun k _=>[(4,.blk 25 [.row 68]),(68,.row 35 3 (AD (D8 l (Ap l)) k) (fun i=>[.int .i64 ((EC l (Ap l) (B2 (D8 l (Ap l)) k i)).fr),.int .i64 ((EC l (Ap l) (B2 (D8 l (Ap l)) k i)).to_),.int .i64 ((EC l (Ap l) (B2 (D8 l (Ap l)) k i)).area)]))],inv:=fun k _=>k<=(Ap l).n })] }) (Af Tryz.f40) (Ar Tryz.f40 [.p (.sl 2 l.n (fun i=>[.int .i64 ((l.g i).x),.int .i64 ((l.g i).y)]))]) (Ph Tryz.prog Tryz.f40 ((Nat->AH)) (Wm l) (Wn l)):=
 @Eq.mpr _ (let I:=SV.int .i64;let T:=Ad6;let M:=AdF;let A46:=(Cg l);let A45:=(0:Nat);let A44:=(140737488355328:Nat);let A34:=(nat_lit 1);let A33:=(nat_lit 4);let A32:=(nat_lit 5);let A31:=(nat_lit 0);let A20:=(1:Int);let A18:=(0:Int);let A17:=(1:Nat);let A8:=(Ap l);let A7:=(∀(i:Nat),let A43:=[I (l.g i).x,I (l.g i).y];i<l.n->A43=A43);let A27:=(A7/\l.n<=(1000000:Nat));let A6:=(↑l.n:Int);let A4:=[SV.sl (nat_lit 2) l.n fun(i:Nat)=>[I (l.g i).x,I (l.g i).y]];let A2:=(D8 l A8);let A1:=(L.Sq.mk l.n fun(i:Nat)=>l.g i);let A9:=(Ap A1);let A5:=((∀(i:Nat),let A12:=(Ap (L.Sq.mk l.n fun(i:Nat)=>l.g i));let A39:=[I (A12.g i).x,I (A12.g i).y];i<A12.n->A39=A39)/\A9.n<=(1000:Nat));A27/\((!AA A1)=true->∃(t:Nat->AH),D9 l=A45/\(A20=bif AA l then A18 else A20)/\(AA l=true->CU EO A46.n A46.g t))/\((!AA A1)=false->(A7/\(2:Nat)<=l.n/\l.n<=(1000:Nat)/\∀(i:Nat),i<l.n->Au (l.g i))/\∀(t:Nat),True->A5/\(A5/\∃(t:Nat),(nat_lit 0=AD A2 A45/\∀(i:Nat),let A21:=(EC l A8 (B2 A2 A45 i));i<nat_lit 0 -> []= [I A21.fr,I A21.to_,I A21.area])/\A6=A6/\A45<=A8.n)/\(∀(k t_1:Nat) (vk:Nat->Go.Value),let A47:=(k+A17);let A36:=((↑k:Int)+A20);let A13:=(A9.g (T (↑k:Int)));let A35:=(AR A1 A13+A20);let A3:=(T (M A36 (↑A9.n:Int)));let A26:=(A9.g A3);k<A9.n->k<=A8.n->(A18<=A20/\A20<(↑(3:Nat):Int))/\A27/\(A18<=(2:Int)/\(2:Int)<(↑(3:Nat):Int))/\A27/\Ac .i64 A35/\A6≠A18/\(decide (AR A1 A26=M A35 A6)=true->∃(t':Nat),nat_lit 0=nat_lit 0/\nat_lit 0=nat_lit 0/\SV.ref A4 A31=SV.ref A4 A31/\vk A32=vk A32/\vk A33=vk A33/\vk A34=vk A34/\(AD A2 k=AD A2 A47/\∀(i:Nat),let A28:=(EC l A8 (B2 A2 k i));let A22:=(EC l A8 (B2 A2 A47 i));i<AD A2 k -> [I A28.fr,I A28.to_,I A28.area]= [I A22.fr,I A22.to_,I A22.area])/\A6=A6/\k+A17<=A8.n)/\(decide (AR A1 A26=M A35 A6)=false->(A18<=AR A1 A26/\AR A1 A26<A6)/\(∃(g:Nat×Int×Int),AR A1 A26=C8 l.n g.2.2 g.1/\(nat_lit 1=g.1+A17/\∀(i:Nat),let A40:=(l.g (T (C8 l.n g.2.2 i)));let A23:=(L.Sq.mk l.n fun(i:Nat)=>l.g i);let A10:=(l.g (T (AR A23 ((Ap A23).g (T (M A36 (↑(Ap A23).n:Int)))))));i<nat_lit 1->Bb [I A10.x,I A10.y] (nat_lit 2) i = [I A40.x,I A40.y])/\AR A1 A13=g.2.1/\AR A1 A26=g.2.2/\(A18<=g.2.1/\g.2.1<A6)/\(A18<=g.2.2/\g.2.2<A6)/\g.1<=EP l.n g.2.1 g.2.2)/\∀(g:Nat×Int×Int),let A42:=(g.1+A17);let A25:=(!decide (C8 l.n g.2.2 g.1=AR A1 A13));let A11:=(C8 l.n g.2.2 g.1+A6-A20);AR A1 A13=g.2.1/\AR A1 A26=g.2.2/\(A18<=g.2.1/\g.2.1<A6)/\(A18<=g.2.2/\g.2.2<A6)/\g.1<=EP l.n g.2.1 g.2.2->(A25=true->Ac .i64 (C8 l.n g.2.2 g.1+A6)/\Ac .i64 A11/\A6≠A18/\(A18<=M A11 A6/\M A11 A6<A6)/\(g.1+A17+nat_lit 1)*nat_lit 16<=A44/\∃(g':Nat×Int×Int),M A11 A6=C8 l.n g'.2.2 g'.1/\AR A1 A26=AR A1 A26/\AR A1 A13=AR A1 A13/\nat_lit 0=nat_lit 0/\nat_lit 0=nat_lit 0/\SV.ref A4 A31=SV.ref A4 A31/\vk A32=vk A32/\vk A33=vk A33/\vk A34=vk A34/\(g.1+A17+nat_lit 1=g'.1+A17/\∀(i:Nat),let A38:=(l.g (T (C8 l.n g'.2.2 i)));i<g.1+A17+nat_lit 1->Ba A42 (fun(j:Nat)=>let A41:=(l.g (T (C8 l.n g.2.2 j)));[I A41.x,I A41.y]) (fun(x:Nat)=>[I (l.g (T (M A11 A6))).x,I (l.g (T (M A11 A6))).y]) i = [I A38.x,I A38.y])/\(AD A2 k=AD A2 k/\∀(i:Nat),let A16:=(EC l A8 (B2 A2 k i));let A37:=[I A16.fr,I A16.to_,I A16.area];i<AD A2 k->A37=A37)/\A6=A6/\(AR A1 A13=g'.2.1/\AR A1 A26=g'.2.2/\(A18<=g'.2.1/\g'.2.1<A6)/\(A18<=g'.2.2/\g'.2.2<A6)/\g'.1<=EP l.n g'.2.1 g'.2.2)/\l.n-g'.1<l.n-g.1)/\(A25=false->((∀(i:Nat),let A19:=(l.g (T (C8 l.n g.2.2 i)));i<g.1+A17 -> [I A19.x,I A19.y]= [I A19.x,I A19.y])/\Ep (L.Sq.mk A42 fun(i:Nat)=>l.g (T (C8 l.n g.2.2 i))))/\(AD A2 k+nat_lit 1)*nat_lit 24<=A44/\∃(t':Nat),nat_lit 0=nat_lit 0/\nat_lit 0=nat_lit 0/\SV.ref A4 A31=SV.ref A4 A31/\vk A32=vk A32/\vk A33=vk A33/\vk A34=vk A34/\(AD A2 k+nat_lit 1=AD A2 A47/\∀(i:Nat),let A24:=(EC l A8 (B2 A2 A47 i));let A15:=(L.Sq.mk l.n fun(i:Nat)=>l.g i);let A48:=(Ap A15);i<AD A2 k+nat_lit 1->Ba (AD A2 k) (fun(i:Nat)=>let A29:=(EC l A8 (B2 A2 k i));[I A29.fr,I A29.to_,I A29.area]) (fun(x:Nat)=>[I (AR A15 (A48.g (T (↑k:Int)))),I (AR A15 (A48.g (T (M A36 (↑A48.n:Int))))),I (B7 (L.Sq.mk A42 fun(i:Nat)=>l.g (T (C8 l.n g.2.2 i))) A42)]) i = [I A24.fr,I A24.to_,I A24.area])/\A6=A6/\k+A17<=A8.n)))/\∀(t:Nat),A9.n<=A8.n->∃(t:Nat×(Nat->AH)),SV.clo (nat_lit 84) []=SV.clo (84:Nat) []/\(AD A2 A9.n=t.1/\∀(i:Nat),let A30:=(Ap (L.Sq.mk l.n fun(i:Nat)=>l.g i));let A14:=(EC l A8 (B2 A2 A30.n i));i<AD A2 A30.n -> [I A14.fr,I A14.to_,I A14.area]= [I (t.2 i).fr,I (t.2 i).to_,I (t.2 i).area])/\t.1<=(1000000:Nat)/\∀(u:Nat->AH),CU EO t.1 t.2 u->∃(t_1:Nat->AH),(t.1=D9 l/\∀(i:Nat),i<t.1 -> [I (u i).fr,I (u i).to_,I (u i).area]= [I (t_1 i).fr,I (t_1 i).to_,I (t_1 i).area])/\(A18=bif AA l then A18 else A20)/\(AA l=true->CU EO A46.n A46.g t_1))) (by kernel_rfl) (by
 conv=>zeta
 have hn:l.n<=1000000:=hp;refine⟨⟨fun _ _=>rfl,hn⟩,fun h=>?_,fun h=>?_⟩
 ·have hv:AA l=false:=by simpa using (show(!AA l)=true from h)
  unfold D9;rw[hv];exact⟨fun _=>⟨0,0,0⟩,rfl,rfl,fun h=>(by cases h)⟩
 have hv:AA l=true:=by simpa using (show(!AA l)=false from h)
 obtain⟨n3,n24,hsm,hbd⟩:=Dw hv;have hHN:(Ap l).n<=1000:=by
  have cl:∀m:L.Sq L.Pt,(Bu m).n<=m.n:=fun m=>by
   have:=Ja m m.n;show(Bv m m.n).length-1<=m.n;omega
  have c1:(Bu (Aw l)).n<=l.n:=cl (Aw l);have c2:(Bu (Dn (Aw l))).n<=l.n:=cl (Dn (Aw l));show 0+(Bu (Aw l)).n+(Bu (Dn (Aw l))).n<=1000;omega
 have hck:∀k,AD (D8 l (Ap l)) k<=k:=fun k=>IS;refine⟨⟨fun _ _=>rfl,by omega,by omega,hbd.2⟩,fun t _=>⟨⟨fun _ _=>rfl,hHN⟩,⟨⟨fun _ _=>rfl,hHN⟩,(0:Nat),⟨rfl,fun i hi=>absurd hi (oE _)⟩,rfl,Ads _⟩,fun k t1 vk hk hk'=>?_,fun t _=>?_⟩⟩
 ·have hk:k<(Ap l).n:=hk;have e0:((k:Int)).toNat=k:=by omega
  have e1:(AdF ((k:Int)+1) ((Ap l).n:Int)).toNat=BE (Ap l).n k:=rfl;have hf:=We (l:=l) hk;have ht:=We (l:=l) (k:=BE (Ap l).n k) (GW (by omega));have eF:AR l ((Ap l).g k)=Dx l (Ap l) k:=rfl;have eT:AR l ((Ap l).g (BE (Ap l).n k))=DI l (Ap l) k:=rfl;rw[eF]at hf;rw[eT]at ht;rw[e0,e1,eF,eT];have hkk:=hck k;refine⟨⟨by decide,by decide⟩,⟨fun _ _=>rfl,hn⟩,⟨by decide,by decide⟩,⟨fun _ _=>rfl,hn⟩,jK,by omega,fun hc=>?_,fun hc=>?_⟩
  ·have hp:D8 l (Ap l) k=false:=by unfold D8;rw[hc];rfl
   refine⟨(0:Nat),rfl,rfl,rfl,rfl,rfl,rfl,⟨(Hy hp).symm,fun i hi=>?_⟩,rfl,by omega⟩;rw[IV hp]
  have hp:D8 l (Ap l) k=true:=by unfold D8;rw[hc];rfl
  refine⟨ht,⟨(0,Dx l (Ap l) k,DI l (Ap l) k),(Wc ht.1 ht.2).symm,⟨rfl,fun i hi=>?_⟩,rfl,rfl,hf,ht,Ads _⟩,fun g hg=>?_⟩
  ·have hi:i<1:=hi;obtain rfl:i=0:=by omega
   dsimp only;rw[Wc ht.1 ht.2];rfl
  obtain⟨j,fr,to_⟩:=g;dsimp only at hg ⊢;obtain⟨e2,e3,_,_,hj⟩:=hg;rw[<- e2,<- e3]at *;have hlen:=Wd hf.1 hf.2 ht.1 ht.2 hj;have hb:=Nl (n:=l.n) (by omega) ht.1 (j:=j) (by omega);refine⟨fun hd=>?_,fun hd=>?_⟩
  ·have hd : C8 l.n (DI l (Ap l) k) j≠Dx l (Ap l) k :=fun e =>by
    rw[decide_eq_true e]at hd;cases hd
   have hne:j≠EP l.n (Dx l (Ap l) k) (DI l (Ap l) k):=fun e=>hd (hlen.1.2 e);have hs:=rM (n:=l.n) (by omega) ht.1 (j:=j) (by omega);have hb2:=Nl (n:=l.n) (by omega) ht.1 (j:=j+1) (by omega);rw[hs];refine⟨jK,jK,by omega,hb2,show(j+1+1)*16<=140737488355328 by omega,(j+1,Dx l (Ap l) k,DI l (Ap l) k),rfl,rfl,rfl,rfl,rfl,rfl,rfl,rfl,rfl,⟨rfl,fun i hi=>?_⟩,⟨rfl,fun _ _=>rfl⟩,rfl,⟨rfl,rfl,hf,ht,by show j+1<=EP l.n (Dx l (Ap l) k) (DI l (Ap l) k);omega⟩,by show l.n-(j+1)<l.n-j;omega⟩;have hi:i<j+1+1:=hi;unfold Ba
   by_cases h':i<j+1
   ·rw[if_pos h']
   ·rw[if_neg h'];obtain rfl:i=j+1:=by omega
    rfl
  ·have hd : C8 l.n (DI l (Ap l) k) j = Dx l (Ap l) k :=by
    apply Decidable.byContradiction;intro e;rw[decide_eq_false e]at hd;cases hd
   have hje:=hlen.1.1 hd;have hrow:(L.Sq.mk (j+1) fun(i:Nat)=>l.g (C8 l.n (DI l (Ap l) k) i).toNat)=H1 l (Dx l (Ap l) k) (DI l (Ap l) k):=by
    rw[hje];rfl
   have hj1:j+1=(H1 l (Dx l (Ap l) k) (DI l (Ap l) k)).n:=by rw[<- hrow]
   rw[hrow,hj1];refine⟨⟨fun _ _=>rfl,rN hsm (by omega) hf.1 hf.2 ht.1 ht.2⟩,show(AD (D8 l (Ap l)) k+1)*24<=140737488355328 by omega,(0:Nat),rfl,rfl,rfl,rfl,rfl,rfl,⟨(If hp).symm,fun i hi=>?_⟩,rfl,by omega⟩;have hi:i<AD (D8 l (Ap l)) k+1:=hi;unfold Ba
   by_cases h':i<AD (D8 l (Ap l)) k
   ·rw[if_pos h',IU (Nat.ne_of_lt h')]
   ·rw[if_neg h'];obtain rfl:i=AD (D8 l (Ap l)) k:=by omega
    rw[IT hp];rfl
 ·have hcn:=hck (Ap l).n;refine⟨((Cg l).n,(Cg l).g),rfl,⟨rfl,fun _ _=>rfl⟩,show AD (D8 l (Ap l)) (Ap l).n<=1000000 by omega,fun u hu=>⟨u,⟨?_,fun _ _=>rfl⟩,?_,fun _=>hu⟩⟩
  ·unfold D9;rw[hv];rfl
  ·rw[hv];rfl)
theorem Wp:AB Tryz.prog 40 PJ:=lW Tryz.func40 (c:=Af Tryz.f40) (by kernel_rfl) mixed (fun args p q r hs hp=>by
 unfold Wo at hs;split at hs
 ·cases hs;exact⟨_,_,rT _ hp.2,(.p (.sl hp.1) .nil),⟨show Aa Tryz.prog _ from(Aa.cons L2 L3 (Aa.cons VZ Wa (Aa.cons Ng Nh (Aa.cons Vl Vm (Aa.cons TG TH (Aa.cons Wi Wj Aa.nil)))))),rfl,⟨show Ae Tryz.prog _ from(Ae.cons Nd Nf Ae.nil),⟨show Dv Tryz.prog _ from(Dv.cons rQ rR Dv.nil),⟨FV.no1 (fun _=>rfl),FamsOk.none (fun _=>rfl)⟩⟩⟩⟩⟩
 ·cases hs)
theorem Wq:Ao Tryz.prog 40:=fun args w=>by kernel_rfl
end
section
set_option maxRecDepth 100000
set_option maxHeartbeats 4000000
set_option linter.unusedVariables false
attribute [local irreducible] vc
end
section
set_option maxRecDepth 100000
set_option maxHeartbeats 4000000
set_option linter.unusedVariables false
attribute [local irreducible] vc
end
section
set_option maxRecDepth 100000
set_option maxHeartbeats 4000000
set_option linter.unusedVariables false
attribute [local irreducible] vc
end
section
set_option maxRecDepth 100000
set_option maxHeartbeats 4000000
set_option linter.unusedVariables false
attribute [local irreducible] vc
end
section
set_option maxRecDepth 100000
set_option maxHeartbeats 4000000
set_option linter.unusedVariables false
attribute [local irreducible] vc
def Et (x y:Int):Prop:=0<x\/(x=0/\0<y)
def CH (x y:Int):Prop:=0<x\/(x=0/\0<=y)
theorem PK (ux uy vx vy wx wy:Int):(ux*wy-uy*wx)*vx=(ux*vy-uy*vx)*wx+(vx*wy-vy*wx)*ux:=by grind
theorem PL {a b:Int} (hb:0<b) (h:0<a*b):0<a:=by
 rcases Int.lt_or_le 0 a with g|g
 ·exact g
 ·have:=Int.mul_nonpos_of_nonpos_of_nonneg g (AdP hb);omega
theorem Wr {ux uy vx vy wx wy:Int} (hu:CH ux uy) (hv:Et vx vy) (hw:CH wx wy) (h1:0<=ux*vy-uy*vx) (h2:0<=vx*wy-vy*wx):0<=ux*wy-uy*wx:=by
 have i1:=PK ux uy vx vy wx wy;rcases hv with hv|⟨rfl,hv⟩
 ·have a1:0<=(ux*vy-uy*vx)*wx:=AdZ h1 (by unfold CH at hw;omega);have a2:0<=(vx*wy-vy*wx)*ux:=AdZ h2 (by unfold CH at hu;omega);rcases Int.lt_or_le (ux*wy-uy*wx) 0 with g|g
  ·have:=Int.mul_neg_of_neg_of_pos g hv;omega
  ·exact g
 ·have hwx : wx = 0 :=by
   rcases hw with hw|hw
   ·have:=Aex hv hw;rw[AeJ]at h2;omega
   ·exact hw.1
  subst hwx;have:0<=ux:=by unfold CH at hu;omega
  have hwy:0<=wy:=by unfold CH at hw;omega
  have:=AdZ this hwy;rw[Ae9];omega
theorem rU {ux uy vx vy wx wy:Int} (hu:CH ux uy) (hv:Et vx vy) (hw:Et wx wy) (h1:0<ux*vy-uy*vx) (h2:0<=vx*wy-vy*wx):0<ux*wy-uy*wx:=by
 have i1:=PK ux uy vx vy wx wy;rcases hv with hv|⟨rfl,hv⟩
 ·have hux:0<=ux:=by unfold CH at hu;omega
  have a2:0<=(vx*wy-vy*wx)*ux:=AdZ h2 hux;rcases hw with hw|⟨rfl,hw⟩
  ·have a1:=Aex h1 hw;exact PL hv (by omega)
  ·have hp:0<vx*wy:=Aex hv hw;rcases Int.lt_or_le 0 ux with g|g
   ·have:=Aex g hw;rw[Ae9];omega
   ·obtain rfl:ux=0:=by omega
    have huy:0<=uy:=by unfold CH at hu;omega
    have:=AdZ huy (AdP hv);rw[AeJ]at h1;omega
 ·have hwx : wx = 0 :=by
   rcases hw with hw|hw
   ·have:=Aex hv hw;rw[AeJ]at h2;omega
   ·exact hw.1
  subst hwx;have hwy:0<wy:=by unfold Et at hw;omega
  have h1:0<ux*vy:=by rw[Ae9]at h1;omega
  have:=Aex (PL hv h1) hwy;rw[Ae9];omega
theorem rV {ux uy vx vy wx wy:Int} (hu:Et ux uy) (hv:Et vx vy) (hw:CH wx wy) (h1:0<=ux*vy-uy*vx) (h2:0<vx*wy-vy*wx):0<ux*wy-uy*wx:=by
 have i1:=PK ux uy vx vy wx wy;rcases hv with hv|⟨rfl,hv⟩
 ·have hwx:0<=wx:=by unfold CH at hw;omega
  have a1:0<=(ux*vy-uy*vx)*wx:=AdZ h1 hwx;rcases hu with hu|⟨rfl,hu⟩
  ·have a2:=Aex h2 hu;exact PL hv (by omega)
  ·have:=Aex hu hv;rw[AeJ]at h1;omega
 ·have h2:0 < - (vy*wx):=by rw[AeJ]at h2;omega
  have hwx:0<=wx:=by unfold CH at hw;omega
  have:=AdZ (AdP hv) hwx;omega
def BI (s:Int) (a b:L.Pt):Prop:=Et (s*(b.x-a.x)) (s*(b.y-a.y))
def Dg (s:Int) (a b:L.Pt):Prop:=CH (s*(b.x-a.x)) (s*(b.y-a.y))
theorem Kb {s:Int} (hs:s=1\/s = -1) (a b:Int):s*a*(s*b)=a*b:=by
 rcases hs with rfl|rfl<;>grind
theorem G6 {s:Int} {a b:L.Pt} (h:BI s a b):Dg s a b:=by unfold BI Dg Et CH at *;omega
theorem L6 {s:Int} {a b c:L.Pt} (h:BI s a b) (k:BI s b c):BI s a c:=by
 unfold BI Et at *;rw[show c.x-a.x=(b.x-a.x)+(c.x-b.x)by omega,show c.y-a.y=(b.y-a.y)+(c.y-b.y)by omega,Ae7,Ae7];omega
theorem Ws {s:Int} {a b c:L.Pt} (h:BI s a b) (k:Dg s b c):BI s a c:=by
 unfold BI Dg Et CH at *;rw[show c.x-a.x=(b.x-a.x)+(c.x-b.x)by omega,show c.y-a.y=(b.y-a.y)+(c.y-b.y)by omega,Ae7,Ae7];omega
theorem PM {s:Int} {a b c:L.Pt} (h:Dg s a b) (k:BI s b c):BI s a c:=by
 unfold BI Dg Et CH at *;rw[show c.x-a.x=(b.x-a.x)+(c.x-b.x)by omega,show c.y-a.y=(b.y-a.y)+(c.y-b.y)by omega,Ae7,Ae7];omega
theorem Nm (s:Int) (a:L.Pt):Dg s a a:=by
 unfold Dg CH;rw[Int.sub_self,Int.sub_self,Ae9];omega
theorem Nn {s:Int} (hs:s=1\/s = -1) {a b:L.Pt} (h:Dg s a b):a=b\/BI s a b:=by
 unfold BI Dg Et CH at *;obtain⟨ax,ay⟩:=a;obtain⟨bx,by'⟩:=b;simp only[L.Pt.mk.injEq]at *;rcases hs with rfl|rfl<;>omega
theorem L7 {s:Int} {a b:L.Pt} (h:BI s a b):a≠b:=by
 rintro rfl;unfold BI Et at h;rw[Int.sub_self,Int.sub_self,Ae9]at h;omega
theorem FH {s:Int} (hs:s=1\/s = -1) (x1 y1 x2 y2:Int):s*x1*(s*y2)-s*y1*(s*x2)=x1*y2-y1*x2:=by rw[Kb hs,Kb hs]
theorem rW {s:Int} (hs:s=1\/s = -1) {a b c q:L.Pt} (h1:BI s a b) (h2:BI s b c) (h3:BI s b q) (ht:0<Ax a b c) (hq:0<=Ax b c q):0<Ax a b q:=by
 have:=rU (G6 h1) h2 h3 (by rw[FH hs];unfold Ax at ht;grind) (by rw[FH hs];exact hq);rw[FH hs]at this;unfold Ax;grind
theorem PN {s:Int} (hs:s=1\/s = -1) {a b c q:L.Pt} (h1:BI s a b) (h2:BI s b c) (h3:BI s q b) (ht:0<Ax a b c) (hq:0<=Ax a b q):0<Ax b c q:=by
 have:=rV h3 h1 (G6 h2) (by rw[FH hs];unfold Ax at hq;grind) (by rw[FH hs];unfold Ax at ht;grind);rw[FH hs]at this;unfold Ax;grind
theorem rX {s:Int} (hs:s=1\/s = -1) {a b p q:L.Pt} (h1:BI s a b) (h2:BI s b p) (h3:Dg s a q) (ht:Ax a b p<=0) (hq:0<=Ax a b q):0<=Ax a p q:=by
 have:=Wr (G6 (L6 h1 h2)) h1 h3 (by rw[FH hs];unfold Ax at ht;grind) (by rw[FH hs];exact hq);rw[FH hs]at this;exact this
theorem rY {s:Int} (hs:s=1\/s = -1) {a b p q:L.Pt} (h1:BI s a b) (h2:BI s b p) (h3:Dg s q p) (ht:Ax a b p<=0) (hq:0<=Ax b p q):0<=Ax a p q:=by
 have:=Wr h3 h2 (G6 (L6 h1 h2)) (by rw[FH hs];unfold Ax at hq;grind) (by rw[FH hs];unfold Ax at ht;grind);rw[FH hs]at this;unfold Ax;grind
def G7 (s:Int):List L.Pt->Prop
 |b::a::r=>BI s a b/\G7 s (a::r)
 |_=>True
def H3:List L.Pt->Prop
 |c::b::a::r=>0<Ax a b c/\H3 (b::a::r)
 |_=>True
def Ih (s:Int):List L.Pt->L.Pt->Prop
 |b::a::r,q=>(Dg s a q/\Dg s q b/\0<=Ax a b q)\/Ih s (a::r) q
 |[a],q=>q=a
 |[],_=>False
theorem No {b:L.Pt}:∀{r:List L.Pt},H3 (b::r)->H3 r
 |[],_=>trivial
 |[_],_=>trivial
 |_::_::_,h=>h.2
theorem Wt {s:Int} (hs:s=1\/s = -1) {p:L.Pt}:∀{st:List L.Pt},G7 s (p::st)->H3 st->G7 s (p::Cx p st)/\H3 (p::Cx p st)/\∀q,Ih s (p::st) q->Ih s (p::Cx p st) q
 |[],h,_=>⟨h,trivial,fun _ h=>h⟩
 |[a],h,_=>⟨h,trivial,fun _ h=>h⟩
 |b::a::r,h,hc=>by
   obtain⟨h1,h2,h3⟩:=h;unfold Cx;cases hd:decide (Ax a b p<=0)with
   |true =>
     have hd:=of_decide_eq_true hd;obtain⟨k1,k2,k3⟩:=Wt hs (p:=p) (st:=a::r) ⟨L6 h2 h1,h3⟩ (No hc);refine⟨k1,k2,fun q hq=>k3 q ?_⟩;rcases hq with ⟨q1,q2,q3⟩|⟨q1,q2,q3⟩|hq
     ·exact .inl ⟨G6 (Ws h2 q1),q2,rY hs h2 h1 q2 hd q3⟩
     ·exact .inl ⟨q1,G6 (PM q2 h1),rX hs h2 h1 q1 hd q3⟩
     ·exact .inr hq
   |false =>
     have hd:=of_decide_eq_false hd;exact⟨⟨h1,h2,h3⟩,⟨by omega,hc⟩,fun _ h=>h⟩
theorem Wu {s:Int}:∀{st:List L.Pt} {b q:L.Pt},G7 s (b::st)->Ih s (b::st) q->Dg s q b
 |[],b,q,_,h=>by
   have h:q=b:=h;subst h;exact Nm _ _
 |a::r,b,q,h,hq=>by
   rcases hq with hq|hq
   ·exact hq.2.1
   ·exact G6 (PM (Wu h.2 hq) h.1)
theorem rZ {s:Int}:∀{st:List L.Pt} {b:L.Pt},G7 s (b::st)->Ih s (b::st) b
 |[],_,_=>rfl
 |a::r,b,h=>.inl ⟨G6 h.1,Nm _ _,by unfold Ax;grind⟩
theorem PO (a b:L.Pt):Ax a b b=0:=by unfold Ax;grind
theorem PP (a b:L.Pt):Ax a b a=0:=by unfold Ax;grind
def Kc (s:Int) (a b q:L.Pt):Prop:=0<Ax a b q\/(Ax a b q=0/\Dg s a q/\Dg s q b)
def Np (s:Int):List L.Pt->L.Pt->Prop
 |b::a::r,q=>Kc s a b q/\Np s (a::r) q
 |_,_=>True
theorem Wv {s:Int} (hs:s=1\/s = -1) {q:L.Pt}:∀{r:List L.Pt} {a b:L.Pt},G7 s (b::a::r)->H3 (b::a::r)->Dg s a q->0<=Ax a b q->Np s (a::r) q
 |[],_,_,_,_,_,_=>trivial
 |c::r,a,b,h,hc,h1,h2=>by
   have key:0<Ax c a q\/q=a:=by
    rcases Nn hs h1 with e|e
    ·exact .inr e.symm
    ·exact .inl (rW hs h.2.1 h.1 e hc.1 h2)
   have k0:0<=Ax c a q:=by
    rcases key with e|rfl
    ·omega
    ·rw[PO];exact Int.le_refl _
   refine⟨?_,Wv hs h.2 (No hc) (G6 (Ws h.2.1 h1)) k0⟩;rcases key with e|rfl
   ·exact .inl e
   ·exact .inr ⟨PO _ _,G6 h.2.1,Nm _ _⟩
theorem Ww {s:Int} (hs:s=1\/s = -1) {q:L.Pt}:∀{r:List L.Pt} {a b:L.Pt},G7 s (b::a::r)->H3 (b::a::r)->Ih s (a::r) q->0<Ax a b q\/q=a
 |[],_,_,_,_,h=>.inr h
 |c::r,a,b,h,hc,hq=>by
   rcases hq with ⟨h1,h2,h3⟩|hq
   ·rcases Nn hs h2 with e|e
    ·exact .inr e
    ·exact .inl (PN hs h.2.1 h.1 e hc.1 h3)
   ·have hle:=Wu h.2.2 hq;have hlt:=PM hle h.2.1;rcases Ww hs h.2 (No hc) hq with e|e
    ·exact .inl (PN hs h.2.1 h.1 hlt hc.1 (AdP e))
    ·refine .inl (PN hs h.2.1 h.1 hlt hc.1 ?_);rw[e,PP];exact Int.le_refl _
theorem Wx {s:Int} (hs:s=1\/s = -1) {q:L.Pt}:∀{st:List L.Pt},G7 s st->H3 st->Ih s st q->Np s st q
 |[],_,_,_=>trivial
 |[_],_,_,_=>trivial
 |b::a::r,h,hc,hq=>by
   rcases hq with ⟨h1,h2,h3⟩|hq
   ·refine⟨?_,Wv hs h hc h1 h3⟩;rcases AeD h3 with e|e
    ·exact .inl e
    ·exact .inr ⟨e.symm,h1,h2⟩
   ·refine⟨?_,Wx hs h.2 (No hc) hq⟩;rcases Ww hs h hc hq with e|rfl
    ·exact .inl e
    ·exact .inr ⟨PP _ _,Nm _ _,G6 h.1⟩
theorem Wy {a b:Int} (h0:0<=a) (h:a<b):a*a<b*b:=by
 have h1:a*a<=a*b:=Int.mul_le_mul_of_nonneg_left (by omega) h0;have h2:a*b<b*b:=Int.mul_lt_mul_of_pos_right h (by omega);omega
theorem sA (a:Int):((a.natAbs:Int))*(a.natAbs:Int)=a*a:=by
 have:=Int.natAbs_mul_self (a:=a);rw[<- Int.natCast_mul];exact_mod_cast this
theorem sB {vx vy ux uy:Int} (hv:Et vx vy) (hu:CH ux uy) (hw:CH (vx-ux) (vy-uy)) (h:vx*uy-vy*ux=0):(ux=vx/\uy=vy)\/ux*ux+uy*uy<vx*vx+vy*vy:=by
 rcases hv with hv|⟨rfl,hv⟩
 ·have h0:0<=ux:=by unfold CH at hu;omega
  have h1:ux<=vx:=by unfold CH at hw;omega
  rcases AeD h1 with g|g
  ·right;have s1:=Wy h0 g;have e:vx*uy=vy*ux:=by omega
   have e2:(vx*vx)*(uy*uy)=(ux*ux)*(vy*vy):=by
    have:(vx*uy)*(vx*uy)=(vy*ux)*(vy*ux):=by rw[e]
    grind
   have l1:(ux*ux)*(vy*vy)<=(vx*vx)*(vy*vy):=Int.mul_le_mul_of_nonneg_right (AdP s1) (by have:=sA vy;have:=AdZ (AdG vy.natAbs) (AdG vy.natAbs);omega);have l2:uy*uy<=vy*vy:=Int.le_of_mul_le_mul_left (by rw[e2];exact l1) (Aex hv hv);omega
  ·subst g;left;refine⟨rfl,?_⟩;have:ux*uy=ux*vy:=by rw[Int.mul_comm ux vy];omega
   exact Int.eq_of_mul_eq_mul_left (by omega) this
 ·have h0:ux=0:=by unfold CH at hu hw;omega
  subst h0;have h1:0<=uy:=by unfold CH at hu;omega
  have h2:uy<=vy:=by unfold CH at hw;omega
  rcases AeD h2 with g|g
  ·right;have:=Wy h1 g;omega
  ·exact .inl ⟨rfl,g⟩
theorem sC {s:Int} (hs:s=1\/s = -1) {a t q:L.Pt} (h1:BI s a t) (h2:Dg s a q) (h3:Dg s q t) (h:Ax a t q=0):q=t\/D5 a q<D5 a t:=by
 have hw:CH (s*(t.x-a.x)-s*(q.x-a.x)) (s*(t.y-a.y)-s*(q.y-a.y)):=by
  have:CH (s*(t.x-q.x)) (s*(t.y-q.y)):=h3;rw[<- Int.mul_sub,<- Int.mul_sub,show t.x-a.x-(q.x-a.x)=t.x-q.x by omega,show t.y-a.y-(q.y-a.y)=t.y-q.y by omega];exact this
 have:=sB h1 h2 hw (by rw[FH hs];exact h);rw[Kb hs,Kb hs,Kb hs,Kb hs]at this;rcases this with ⟨e1,e2⟩|e
 ·left;obtain⟨tx,ty⟩:=t;obtain⟨qx,qy⟩:=q;simp only[L.Pt.mk.injEq]at *;rcases hs with rfl|rfl<;>omega
 ·right;unfold D5;grind
def Fg (f t q:L.Pt):Bool:=bif (bif decide (t.x=f.x)then decide (t.y=f.y)else false)then true else bif decide (Ax f t q<0)then true else bif decide (Ax f t q=0)then decide (D5 f t<D5 f q)else false
def Ce (g:Nat->L.Pt) (f:L.Pt):Nat->L.Pt
 |0=>f
 |i+1=>bif Fg f (Ce g f i) (g i)then g i else Ce g f i
theorem sD {f t q:L.Pt} (h:t=f\/Ax f t q<0\/(Ax f t q=0/\D5 f t<D5 f q)):Fg f t q=true:=by
 unfold Fg;rcases h with rfl|h|⟨h1,h2⟩
 ·simp
 ·cases(bif decide (t.x=f.x)then decide (t.y=f.y)else false)
  ·rw[decide_eq_true h];rfl
  ·rfl
 ·cases(bif decide (t.x=f.x)then decide (t.y=f.y)else false)
  ·rw[decide_eq_false (show ¬ Ax f t q<0 by omega),decide_eq_true h1,decide_eq_true h2];rfl
  ·rfl
theorem sE {f t q:L.Pt} (h0:t≠f) (h1:0<=Ax f t q) (h2:Ax f t q=0->¬ D5 f t<D5 f q):Fg f t q=false:=by
 unfold Fg;have e:(bif decide (t.x=f.x)then decide (t.y=f.y)else false)=false:=by
  obtain⟨tx,ty⟩:=t;obtain⟨fx,fy⟩:=f
  by_cases h:tx=fx
  ·have:ty≠fy:=fun e=>h0 (by rw[h,e]);simp[h,this]
  ·simp[h]
 rw[e,decide_eq_false (show ¬ Ax f t q<0 by omega)]
 by_cases h:Ax f t q=0
 ·rw[decide_eq_true h,decide_eq_false (h2 h)];rfl
 ·rw[decide_eq_false h];rfl
theorem sF (a b c:L.Pt):Ax a b c = - Ax a c b:=by unfold Ax;grind
theorem sG {g:Nat->L.Pt} {n:Nat} {f t:L.Pt} (hne:t≠f) (hin:∃i,i<n/\g i=t) (h:∀i,i<n->0<=Ax f t (g i)/\(Ax f t (g i)=0->g i=t\/D5 f (g i)<D5 f t)):Ce g f n=t:=by
 obtain⟨j,hj,hjt⟩:=hin;have OS:∀i,i<=n->Ce g f i=f\/∃k,k<n/\Ce g f i=g k:=fun i=>by
  induction i with
  |zero=>exact fun _=>.inl rfl
  |succ i ih =>
    intro hi;unfold Ce;cases Fg f (Ce g f i) (g i)with
    |true=>exact .inr ⟨i,by omega,rfl⟩
    |false=>exact ih (by omega)
 have OQ:∀d,j+1+d<=n->Ce g f (j+1+d)=t:=fun d=>by
  induction d with
  |zero =>
    intro _;show(bif Fg f (Ce g f j) (g j)then g j else Ce g f j)=t
    by_cases e:Ce g f j=t
    ·rw[e,hjt];cases Fg f t t<;>rfl
    ·have : Fg f (Ce g f j) (g j)= true :=by
      rw[hjt];refine sD ?_;rcases OS j (by omega)with e2|⟨k,hk,e2⟩
      ·exact .inl e2
      ·right;obtain⟨h1,h2⟩:=h k hk;rw[<- e2]at h1 h2;rw[sF];rcases AeD h1 with g1|g1
       ·left;omega
       ·rcases h2 g1.symm with g2|g2
        ·exact absurd g2 e
        ·right;exact⟨by omega,g2⟩
     rw[this];exact hjt
  |succ d ih =>
    intro hd;show(bif Fg f (Ce g f (j+1+d)) (g (j+1+d))then g (j+1+d)else Ce g f (j+1+d))=t;rw[ih (by omega)];obtain⟨h1,h2⟩:=h (j+1+d) (by omega);have h3:=sE hne h1 (fun e=>(h2 e).elim (fun g2=>by rw[g2];omega) (fun g2=>by omega));rw[h3];rfl
 have:=OQ (n-(j+1)) (by omega);rwa[show j+1+(n-(j+1))=n by omega]at this
def Gj (g:Nat->L.Pt) (n:Nat) (f:L.Pt):Nat->L.Pt
 |0=>f
 |k+1=>Ce g (Gj g n f k) n
theorem sH {g:Nat->L.Pt} {n m:Nat} {H:Nat->L.Pt} (hm:0<m) (hin:∀k,k<m->∃i,i<n/\g i=H k) (hne:∀k,k<m->H (if k+1=m then 0 else k+1)≠H k)
  (he:∀k,k<m->∀i,i<n->0<=Ax (H k) (H (if k+1=m then 0 else k+1)) (g i)/\(Ax (H k) (H (if k+1=m then 0 else k+1)) (g i)=0->g i=H (if k+1=m then 0 else k+1)\/D5 (H k) (g i)<D5 (H k) (H (if k+1=m then 0 else k+1)))) :
  (∀k,k<m->Gj g n (H 0) k=H k)/\Gj g n (H 0) m=H 0:=by
 have step:∀k,k<m->Gj g n (H 0) k=H k->Gj g n (H 0) (k+1)=H (if k+1=m then 0 else k+1):=fun k hk e=>by
  show Ce g (Gj g n (H 0) k) n=_;rw[e];exact sG (hne k hk) (hin _ (by split<;>omega)) (he k hk)
 have all:∀k,k<m->Gj g n (H 0) k=H k:=fun k=>by
  induction k with
  |zero=>exact fun _=>rfl
  |succ k ih =>
    intro hk;rw[step k (by omega) (ih (by omega)),if_neg (by omega)]
 refine⟨all,?_⟩;obtain⟨k,rfl⟩:∃k,m=k+1:=⟨m-1,by omega⟩;rw[step k (by omega) (all k (by omega)),if_pos rfl]
def Jb (a:L.Pt):List L.Pt->Prop
 |[]=>False
 |[b]=>b=a
 |_::b::r=>Jb a (b::r)
theorem Wz {a p:L.Pt}:∀{st:List L.Pt},Jb a st->Jb a (Cx p st)
 |[b],h=>h
 |c::b::r,h=>by
   unfold Cx;cases decide (Ax b c p<=0)with
   |true=>exact Wz (st:=b::r) h
   |false=>exact h
theorem sI {a p:L.Pt}:∀{st:List L.Pt},Jb a st->Jb a (p::st)
 |_::_,h=>h
theorem W0 {a:L.Pt}:∀{st:List L.Pt},Jb a st->B9 st 0=a/\1<=st.length
 |[b],h=>⟨h,Adp _⟩
 |c::b::r,h=>by
   have ih:=W0 (st:=b::r) h;refine⟨?_,Ae6 (Ads _)⟩;rw[<- ih.1];unfold B9;show(c::b::r).getD (r.length+1+1-1-0) ⟨0,0⟩=(b::r).getD (r.length+1-1-0) ⟨0,0⟩;rw[show r.length+1+1-1-0=(r.length+1-1-0)+1 by omega];rfl
structure sJ (s:Int) (g:Nat->L.Pt) (k:Nat) (st:List L.Pt):Prop where
 asc:G7 s st
 cvx:H3 st
 ab:∀i,i<k->Ih s st (g i)
 top:∃r,st=g (k-1)::r
 bot:Jb (g 0) st
theorem W2 {s:Int} (hs:s=1\/s = -1) {l:(L.Sq L.Pt)} (h:∀i j,i<j->j<l.n->BI s (l.g i) (l.g j)):∀k,1<=k->k<=l.n->sJ s l.g k (Bv l k)
 |1, _, _ =>⟨trivial, trivial, fun i hi =>by
  obtain rfl:i=0:=by omega
  rfl,⟨[],rfl⟩,rfl⟩
 |k+2,_,hk=>by
   have ih:=W2 hs h (k+1) (by omega) (by omega);obtain⟨r,hr⟩:=ih.top;have hr:Bv l (k+1)=l.g k::r:=hr;have h1:G7 s (l.g (k+1)::Bv l (k+1)):=by
    have:=ih.asc;rw[hr]at this ⊢;exact⟨h k (k+1) (by omega) (by omega),this⟩
   obtain⟨p1,p2,p3⟩:=Wt hs h1 ih.cvx;refine⟨p1,p2,fun i hi=>?_,⟨_,rfl⟩,sI (Wz ih.bot)⟩
   by_cases hik:i=k+1
   ·subst hik;exact rZ p1
   ·refine p3 _ ?_;have:=ih.ab i (by omega);rw[hr]at this ⊢;exact .inr this
theorem W3 {s:Int}:∀{st:List L.Pt},G7 s st->∀i,i+1<st.length->BI s (st.getD (i+1) ⟨0,0⟩) (st.getD i ⟨0,0⟩)
 |_::_::_,h,0,_=>h.1
 |b::a::r,h,i+1,hi=>W3 (st:=a::r) h.2 i (by simpa using hi)
 |[_],_,_,hi=>by simp at hi
 |[],_,_,hi=>by simp at hi
theorem W4 {s:Int} {q:L.Pt}:∀{st:List L.Pt},Np s st q->∀i,i+1<st.length->Kc s (st.getD (i+1) ⟨0,0⟩) (st.getD i ⟨0,0⟩) q
 |_::_::_,h,0,_=>h.1
 |b::a::r,h,i+1,hi=>W4 (st:=a::r) h.2 i (by simpa using hi)
 |[_],_,_,hi=>by simp at hi
 |[],_,_,hi=>by simp at hi
structure Nq (s:Int) (l:(L.Sq L.Pt)) (c:Nat) (F:Nat->L.Pt):Prop where
 c1:1<=c
 f0:F 0=l.g 0
 fc:F c=l.g (l.n-1)
 up:∀k,k<c->BI s (F k) (F (k+1))
 lf:∀k,k<c->∀i,i<l.n->Kc s (F k) (F (k+1)) (l.g i)
 mem:∀k,k<=c->∃i,i<l.n/\l.g i=F k
theorem W5 {l:(L.Sq L.Pt)} {q:L.Pt}:∀{k},q∈Bv l k->∃i,i<k/\l.g i=q
 |0,h=>nomatch h
 |k+1,h=>by
   have pm:∀{st:List L.Pt} {p q:L.Pt},q∈Cx p st->q∈st:=fun {st}=>by
    induction st with
    |nil=>exact fun h=>h
    |cons b r ih =>
      intro p q h;cases r with
      |nil=>exact h
      |cons a r =>
        unfold Cx at h;cases hd:decide (Ax a b p<=0)with
        |true=>rw[hd]at h;exact Adr _ (ih h)
        |false=>rw[hd]at h;exact h
   rcases Adq.1 h with rfl|h
   ·exact⟨k,Ae3 _,rfl⟩
   ·obtain⟨i,hi,e⟩:=W5 (pm h);exact⟨i,Nat.lt_succ_of_lt hi,e⟩
theorem W6 {s:Int} (hs:s=1\/s = -1) {l:(L.Sq L.Pt)} (h2:2<=l.n) (h:∀i j,i<j->j<l.n->BI s (l.g i) (l.g j)):Nq s l ((Bv l l.n).length-1) (B9 (Bv l l.n)):=by
 have C:=W2 hs h l.n (by omega) (Adp _);generalize hst:Bv l l.n=st at C;obtain⟨r,hr⟩:=C.top;obtain⟨b1,b2⟩:=W0 C.bot;have hlen:2<=st.length:=by
  rcases Nat.lt_or_ge 1 st.length with g|g
  ·exact g
  ·have hr0:r = []:=List.eq_nil_of_length_eq_zero (by rw[hr]at g;simpa using g);have:=C.bot;rw[hr,hr0]at this;exact absurd this.symm (L7 (h 0 (l.n-1) (by omega) (by omega)))
 have idx:∀k,k<st.length-1->B9 st k=st.getD (st.length-1-(k+1)+1) ⟨0,0⟩/\B9 st (k+1)=st.getD (st.length-1-(k+1)) ⟨0,0⟩:=fun k hk=>by
  refine⟨?_,rfl⟩;unfold B9;rw[show st.length-1-k=st.length-1-(k+1)+1 by omega]
 refine⟨by omega,b1,?_,fun k hk=>?_,fun k hk i hi=>?_,fun k hk=>?_⟩
 ·unfold B9;rw[Nat.sub_self,hr];rfl
 ·rw[(idx k hk).1,(idx k hk).2];exact W3 C.asc _ (by omega)
 ·rw[(idx k hk).1,(idx k hk).2];exact W4 (Wx hs C.asc C.cvx (C.ab i hi)) _ (by omega)
 ·refine W5 (k:=l.n) ?_;rw[hst];unfold B9;rw[AS,rH (by omega)];exact AdC _
theorem PQ {s:Int} {l:(L.Sq L.Pt)} {c:Nat} {F:Nat->L.Pt} (H:Nq s l c F):∀{i j},i<j->j<=c->BI s (F i) (F j)
 |i,j+1,h,hj=>by
   rcases Ad1.1 h with g|g
   ·exact L6 (PQ H g (by omega)) (H.up j (by omega))
   ·subst g;exact H.up i (by omega)
theorem W7 {s:Int} (hs:s=1\/s = -1) {a b q:L.Pt} (hab:BI s a b) (h:Kc s a b q):0<=Ax a b q/\(Ax a b q=0->q=b\/D5 a q<D5 a b):=by
 rcases h with h|⟨h1,h2,h3⟩
 ·exact⟨by omega,fun e=>by omega⟩
 ·exact⟨by omega,fun _=>sC hs hab h2 h3 h1⟩
theorem sK {l:(L.Sq L.Pt)} {c1 c2:Nat} {F1 F2:Nat->L.Pt} (h2:2<=l.n) (A:Nq 1 l c1 F1) (B:Nq (-1) ⟨l.n,fun k=>l.g (l.n-1-k)⟩ c2 F2) {g:Nat->L.Pt} {n:Nat}
  (hg:∀i,i<n->∃j,j<l.n/\l.g j=g i) (hl:∀j,j<l.n->∃i,i<n/\g i=l.g j) :
  (∀k,k<c1+c2->Gj g n (l.g 0) k=(if k<c1 then F1 k else F2 (k-c1)))/\Gj g n (l.g 0) (c1+c2)=l.g 0/\∀k,0<k->k<c1+c2->(if k<c1 then F1 k else F2 (k-c1))≠l.g 0:=by
 have a1:=A.c1;have b1:=B.c1;have e1:F1 c1=F2 0:=by rw[A.fc,B.f0];show _=l.g (l.n-1-0);rfl
 have e2:F2 c2=F1 0:=by rw[A.f0,B.fc];show l.g (l.n-1-(l.n-1))=_;rw[Nat.sub_self]
 have mB:∀k,k<=c2->∃i,i<l.n/\l.g i=F2 k:=fun k hk=>by
  obtain⟨i,hi,e⟩:=B.mem k hk;exact⟨l.n-1-i,by have:i<l.n:=hi;omega,e⟩
 have lB:∀k,k<c2->∀i,i<l.n->Kc (-1) (F2 k) (F2 (k+1)) (l.g i):=fun k hk i hi=>by
  have:=B.lf k hk (l.n-1-i) (show _<l.n by omega);have this:Kc (-1) (F2 k) (F2 (k+1)) (l.g (l.n-1-(l.n-1-i))):=this;rwa[show l.n-1-(l.n-1-i)=i by omega]at this
 -- the edge at k
 have ed : ∀k, k<c1+c2->(∃j, j<c1/\(if k<c1 then F1 k else F2 (k-c1))= F1 j/\(if (if k+1 = c1+c2 then 0 else k+1)<c1 then F1 (if k+1 = c1+c2 then 0 else k+1)else F2 ((if k+1 = c1+c2 then 0 else k+1)-c1))= F1 (j+1)) \/
   (∃j,j<c2/\(if k<c1 then F1 k else F2 (k-c1))=F2 j/\(if (if k+1=c1+c2 then 0 else k+1)<c1 then F1 (if k+1=c1+c2 then 0 else k+1)else F2 ((if k+1=c1+c2 then 0 else k+1)-c1))=F2 (j+1)):=fun k hk=>by
  by_cases h:k<c1
  ·refine .inl ⟨k,h,if_pos h,?_⟩;rw[if_neg (show ¬ k+1=c1+c2 by omega)]
   by_cases h':k+1<c1
   ·rw[if_pos h']
   ·rw[if_neg h',show k+1=c1 by omega,Nat.sub_self,e1]
  ·refine .inr ⟨k-c1,by omega,if_neg h,?_⟩
   by_cases h':k+1=c1+c2
   ·rw[if_pos h',if_pos (show 0<c1 by omega),show k-c1+1=c2 by omega,e2]
   ·rw[if_neg h',if_neg (show ¬ k+1<c1 by omega),show k+1-c1=k-c1+1 by omega]
 have key:=sH (g:=g) (n:=n) (m:=c1+c2) (H:=fun k=>if k<c1 then F1 k else F2 (k-c1)) (by omega) (fun k hk=>?_) (fun k hk=>?_) (fun k hk i hi=>?_)
 ·have h0 : (if 0<c1 then F1 0 else F2 (0-c1))= l.g 0 :=by
   rw[if_pos (by omega),A.f0]
  rw[h0]at key;refine⟨key.1,key.2,fun k hk0 hk=>?_⟩
  by_cases h:k<c1
  ·rw[if_pos h,<- A.f0];exact(L7 (PQ A hk0 (by omega))).symm
  ·rw[if_neg h,<- A.f0,<- e2];exact L7 (PQ B (show k-c1<c2 by omega) (Adp _))
 ·have : ∃i, i<l.n/\l.g i = (if k<c1 then F1 k else F2 (k-c1)):=by
   split
   ·exact A.mem k (by omega)
   ·exact mB _ (by omega)
  obtain⟨i,hi,e⟩:=this;obtain⟨j,hj,e'⟩:=hl i hi;exact⟨j,hj,e'.trans e⟩
 ·rcases ed k hk with ⟨j,hj,p,q⟩|⟨j,hj,p,q⟩
  ·rw[p,q];exact(L7 (A.up j hj)).symm
  ·rw[p,q];exact(L7 (B.up j hj)).symm
 ·obtain⟨j',hj',e'⟩:=hg i hi;rcases ed k hk with ⟨j,hj,p,q⟩|⟨j,hj,p,q⟩
  ·rw[p,q,<- e'];exact W7 (.inl rfl) (A.up j hj) (A.lf j hj _ hj')
  ·rw[p,q,<- e'];exact W7 (.inr rfl) (B.up j hj) (lB j hj _ hj')
end
end Go.Proofs.YtdkpcdlnfobnnaaGreat
