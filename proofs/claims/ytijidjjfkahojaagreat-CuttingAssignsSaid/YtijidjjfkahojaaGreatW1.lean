/- A symbolic walk over the model, and what it shows of functions of the program: parts of the proof that the text of the row joins. -/
import Derived.Test.YtijidjjfkahojaaGreatE4
import Derived.KernelRfl
import Derived.Test.YtijidjjfkahojaaGreatProg
import Derived.Test.YtijidjjfkahojaaGreatE5
open List renaming getD_eq_getElem?_getD->AS,getElem?_eq_getElem->AdH,mem_cons_of_mem->AdJ,mem_cons->AdR,getElem_mem->Aeg,length_cons->Ae3,pairwise_cons->AeR,map->AeS
open Nat renaming not_lt_zero->nT,zero_le->AdL,le_refl->AdS,lt_succ_iff_lt_or_eq->AdZ,succ_le_succ->Afv
open Bool renaming and_eq_true->oE
open Int renaming toNat->Aee,tmod->Aes,tmod_eq_emod_of_nonneg->Ae2,emod_eq_of_lt->Ae9,tmod_lt_of_pos->AeD,add_emod_right->AeM,tmod_nonneg->AeU,tmod_eq_of_lt->Afr,mul_nonneg->Af6
namespace Go.Proofs.YtijidjjfkahojaaGreat
open Go.SE Go.RowKit
namespace L
structure Pt where
 x:Int
 y:Int
structure Sq (α:Type) where
 n:Nat
 g:Nat->α
end L
namespace R
end R
def Ca:List SV->Int
 |[.int _ n]=>n
 |_=>0
def mH:List SV->Bool
 |[.bool b]=>b
 |_=>false
def Ar:List SV->L.Pt
 |[.int _ x,.int _ y]=>⟨x,y⟩
 |_=>⟨0,0⟩
def CX:Nat->(Nat->Bool)->Bool
 |0,_=>true
 |n+1,f=>CX n f&&f n
theorem Dk {f:Nat->Bool}:∀{n:Nat},CX n f=true↔∀i,i<n->f i=true
 |0=>by simp[CX]
 |n+1=>by
   simp only[CX,oE,Dk (n:=n)];constructor
   ·rintro⟨h,k⟩ i hi;rcases AdZ.1 hi with hi|rfl
    ·exact h i hi
    ·exact k
   ·exact fun h=>⟨fun i hi=>h i (by omega),h n (by omega)⟩
theorem GX {f:Nat->Bool} {n i:Nat} (hi:i<n) (h:f i=false):CX n f=false:=by
 cases hb:CX n f with
 |false=>rfl
 |true=>rw[Dk.1 hb i hi]at h;cases h
theorem Ei {a b:Int} {m n:Int} (h1 : -m<=a) (h2:a<=m) (h3 : -n<=b) (h4:b<=n): -(m*n)<=a*b/\a*b<=m*n:=by
 have hm:0<=m:=by omega
 have hn:0<=n:=by omega
 have e1:=Af6 (show 0<=m-a by omega) (show 0<=n-b by omega);have e2:=Af6 (show 0<=m+a by omega) (show 0<=n+b by omega);have e3:=Af6 (show 0<=m-a by omega) (show 0<=n+b by omega);have e4:=Af6 (show 0<=m+a by omega) (show 0<=n-b by omega);simp only[Int.sub_mul,Int.mul_sub,Int.add_mul,Int.mul_add]at e1 e2 e3 e4;omega
def Bu (p:BR) (xs:List SV):Bool:=mH [p.res xs]
theorem J7 {p:BR} (h:Fp p) {xs:List SV} (hp:p.pre xs):p.res xs=.bool (Bu p xs):=by
 obtain⟨b,hb⟩:=h xs hp;rw[hb,Bu,hb];rfl
theorem mixed:Tryz.prog.follows .mixedOrders=true:=by kernel_rfl
theorem Ad.of {n:Int} (h : -9223372036854775808<=n) (k:n<=9223372036854775807):Ad .i64 n:=⟨h,k⟩
theorem jK {n:Int} (h : -9223372036854775808<=n:=by omega) (k:n<=9223372036854775807:=by omega):Ad .i64 n:=⟨h,k⟩
def cC:Al:={ muts:=[],frz:=B8 [],specs:=AC [],loops:=AT [],iters:=B3 [],rfs:=AP [],nils:=B6 [] }
section
set_option maxRecDepth 100000
set_option maxHeartbeats 4000000
set_option linter.unusedVariables false
attribute [local irreducible] vc
def Ay (n a b:Int):Bool:=decide (a<=n)&&decide (n<=b)
def SP (n:Int) (a:Int) (b:Int):Prop:=True
def SQ (n:Int) (a:Int) (b:Int):SV:=.bool (Ay n a b)
def SR:List EV->Option (Prop×SV)
 |[.p (.int .i64 n),.p (.int .i64 a),.p (.int .i64 b)]=>some (SP n a b,SQ n a b)
 |_=>none
abbrev MA:SE.Spec:=(AI SR)
def mI:Al:={ muts:=[],frz:=B8 [],specs:=AC [],loops:=AT [],iters:=B3 [],rfs:=AP [],nils:=B6 [] }
theorem mJ (n:Int) (a:Int) (b:Int) (hp:SP n a b):vc Tryz.prog (mI) (Ai Tryz.f100) (Au Tryz.f100 [.p (.int .i64 n),.p (.int .i64 a),.p (.int .i64 b)]) (AH Tryz.prog Tryz.f100 (SQ n a b)):=
 @Eq.mpr _ ((bif decide (a<=n)then decide (n<=b)else false)=Ay n a b) (by kernel_rfl) (by
 grind [Ay])
theorem OM:Ax Tryz.prog 100 MA:=AK Tryz.func100 (c:=Ai Tryz.f100) (by kernel_rfl) mixed (fun args p r hs hp=>by
 unfold SR at hs;split at hs
 ·cases hs;exact⟨_,_,mJ _ _ _ hp,(.same _ (.same _ (.same _ .nil))),⟨show Aa Tryz.prog _ from Aa.nil,rfl,⟨show Af Tryz.prog _ from Af.nil,(AA.none (fun _=>rfl))⟩⟩⟩
 ·cases hs)
theorem ON:As Tryz.prog 100:=fun args w=>by kernel_rfl
end
section
set_option maxRecDepth 100000
set_option maxHeartbeats 4000000
set_option linter.unusedVariables false
attribute [local irreducible] vc
def Gf (n k:Nat):Nat:=(Aes ((k:Int)+(n:Int)-1) (n:Int)).toNat
def Cf (n k:Nat):Nat:=(Aes ((k:Int)+1) (n:Int)).toNat
def B4 (l:L.Sq L.Pt):Nat->Int
 |0=>0
 |k+1=>B4 l k+((l.g k).x*(l.g (Cf l.n k)).y-(l.g (Cf l.n k)).x*(l.g k).y)
theorem IF {n k:Nat} (h:0<n):Cf n k<n:=by
 have t3:=AeU (n:Int) (show 0<=(k:Int)+1 by omega);have t4:=AeD ((k:Int)+1) (show 0<(n:Int)by omega);unfold Cf;omega
def E3 (l:L.Sq L.Pt):Prop:=l.n<=1000/\∀i,i<l.n -> -4000000<=(l.g i).x/\(l.g i).x<=4000000 /\ -4000000<=(l.g i).y/\(l.g i).y<=4000000
theorem OO {l:L.Sq L.Pt} (h:E3 l) {k:Nat} (hk:k<l.n):(-16000000000000<=(l.g k).x*(l.g (Cf l.n k)).y/\(l.g k).x*(l.g (Cf l.n k)).y<=16000000000000)/\(-16000000000000<=(l.g (Cf l.n k)).x*(l.g k).y/\(l.g (Cf l.n k)).x*(l.g k).y<=16000000000000):=by
 have h1:=h.2 k hk;have h2:=h.2 _ (IF (n:=l.n) (k:=k) (by omega));have m1:=Ei (m:=4000000) (n:=4000000) h1.1 h1.2.1 h2.2.2.1 h2.2.2.2;have m2:=Ei (m:=4000000) (n:=4000000) h2.1 h2.2.1 h1.2.2.1 h1.2.2.2;omega
theorem MB {l:L.Sq L.Pt} (h:E3 l):∀k,k<=l.n -> -(32000000000000*(k:Int))<=B4 l k/\B4 l k<=32000000000000*(k:Int)
 |0,_=>by simp[B4]
 |k+1,hk=>by
   have ih:=MB h k (by omega);have t:=OO h (k:=k) (by omega);simp only[B4];omega
def SS (l:(L.Sq L.Pt)):Prop:=l.n<=1000
def OP (l:(L.Sq L.Pt)):Nat:=l.n
def SU (l:(L.Sq L.Pt)):Nat->List SV:=fun k=>[.int .i64 (k:Int),.agg [.int .i64 (l.g (Aes ((k:Int)+(l.n:Int)-1) (l.n:Int)).toNat).x,.int .i64 (l.g (Aes ((k:Int)+(l.n:Int)-1) (l.n:Int)).toNat).y,.int .i64 (l.g (k:Int).toNat).x,.int .i64 (l.g (k:Int).toNat).y,.int .i64 (l.g (Aes ((k:Int)+1) (l.n:Int)).toNat).x,.int .i64 (l.g (Aes ((k:Int)+1) (l.n:Int)).toNat).y]]
def SX:List SV->Option (Prop×Nat×(Nat->List SV))
 |[.ref [.sl 2 l_n l_g] 0]=>some ((∀i,i<l_n->l_g i = [.int .i64 ((Ar (l_g i)).x),.int .i64 ((Ar (l_g i)).y)])/\SS (⟨l_n,fun i=>Ar (l_g i)⟩:(L.Sq L.Pt)),OP (⟨l_n,fun i=>Ar (l_g i)⟩:(L.Sq L.Pt)),SU (⟨l_n,fun i=>Ar (l_g i)⟩:(L.Sq L.Pt)))
 |_=>none
abbrev KW:F2:=J5 SX
def mK:Al:={ muts:=[],frz:=B8 [],specs:=AC [],loops:=fun _=>none,iters:=B3 [],rfs:=AP [] }
theorem mL (yl:Nat) (l:(L.Sq L.Pt)) (hp:SS l):vc Tryz.prog { mK with loops:=AT [(1,{ T:=Nat,keep:=[0,1,5,6],keepO:=[],chg:=fun i=>[(7,.p (.int .i64 (i:Int)))],own:=fun _=>[],inv:=fun i=>i<=l.n,mu:=fun i=>l.n-i,yk:=some (fun i=>i) })],yld:=some ⟨yl,OP l,SU l⟩ } (Ai Tryz.f133) (Au Tryz.f133 (.yield yl::([.ref [.sl 2 l.n (fun i=>[.int .i64 ((l.g i).x),.int .i64 ((l.g i).y)])] 0]:List SV).map .p)) (J4 Tryz.prog Tryz.f133 (OP l)):=
 @Eq.mpr _ (let I:=SV.int .i64;let T:=Aee;let M:=Aes;let A9:=(0:Int);let A6:=(1:Nat);let A5:=[SV.sl (nat_lit 2) l.n fun(i:Nat)=>[I (l.g i).x,I (l.g i).y]];let A4:=(1:Int);let A2:=(↑l.n:Int);(∃(g:Nat),nat_lit 0=g/\false=false/\A9=(↑g:Int)/\g<=l.n)/\∀(g:Nat),let A3:=(↑g:Int);let A8:=(A3+A4);let A7:=(A3+A2-A4);let A1:=[I A3,SV.agg [I (l.g (T (M A7 A2))).x,I (l.g (T (M A7 A2))).y,I (l.g (T A3)).x,I (l.g (T A3)).y,I (l.g (T (M A8 A2))).x,I (l.g (T (M A8 A2))).y]];g<=l.n->(decide (A3<A2)=true->(A9<=A3/\A3<A2)/\Ad .i64 (A3+A2)/\Ad .i64 A7/\A2≠A9/\(A9<=M A7 A2/\M A7 A2<A2)/\Ad .i64 A8/\A2≠A9/\(A9<=M A8 A2/\M A8 A2<A2)/\yl=yl/\g<l.n/\A1=A1/\((false=true->g+A6=l.n\/g+A6=l.n+A6)/\(false=false->Ad .i64 A8/\∃(g':Nat),g+A6=g'/\false=false/\A3+A4=(↑g':Int)/\A2=A2/\(l.n=l.n/\∀(i:Nat),let A10:=[I (l.g i).x,I (l.g i).y];i<l.n->A10=A10)/\yl=yl/\SV.ref A5 (nat_lit 0)=SV.ref A5 (nat_lit 0)/\g'<=l.n/\l.n-g'<l.n-g))/\(true=true->l.n+A6=l.n\/l.n+A6=l.n+A6)/\(true=false->Ad .i64 A8/\∃(g':Nat),l.n+A6=g'/\false=false/\A3+A4=(↑g':Int)/\A2=A2/\False/\yl=yl/\False/\g'<=l.n/\l.n-g'<l.n-g))/\(decide (A3<A2)=false->g=l.n\/g=l.n+A6)) (by kernel_rfl) (by
 conv=>zeta
 refine⟨⟨(0:Nat),rfl,rfl,rfl,AdL _⟩,fun g hg=>⟨fun hlt=>?_,fun hge=>?_⟩⟩
 ·have hb:(g:Int)<(l.n:Int):=by simpa using hlt
  have hn:l.n<=1000:=hp;have t1:=AeU (l.n:Int) (show 0<=(g:Int)+(l.n:Int)-1 by omega);have t2:=AeD ((g:Int)+(l.n:Int)-1) (show 0<(l.n:Int)by omega);have t3:=AeU (l.n:Int) (show 0<=(g:Int)+1 by omega);have t4:=AeD ((g:Int)+1) (show 0<(l.n:Int)by omega);refine⟨by omega,jK,jK,by omega,⟨t1,t2⟩,jK,by omega,⟨t3,t4⟩,rfl,by omega,rfl,?_⟩;exact⟨⟨fun h=>(by cases h),fun _=>⟨jK,g+1,rfl,rfl,by omega,rfl,⟨rfl,fun _ _=>rfl⟩,rfl,rfl,by omega,by omega⟩⟩,fun _=>.inr rfl,fun h=>(by cases h)⟩
 ·have hb:¬ (g:Int)<(l.n:Int):=by simpa using hge
  exact .inl (by omega))
theorem MC:Hm Tryz.prog 133 KW:=M6 Tryz.func133 (c:=Ai Tryz.f133) (by kernel_rfl) mixed (fun caps l p n g hs hp=>by
 unfold SX at hs;split at hs
 ·cases hs; exact⟨_, _, mL l _ hp.2, (.cons (AX.ref rfl (fun i hi =>by
  rcases i with _|i
  ·show AX (SV.sl _ _ _) (SV.sl _ _ _);exact(AX.sl hp.1)
  exact absurd hi (by simp;try omega))) .nil),rfl,show Aa Tryz.prog _ from Aa.nil,⟨show Af Tryz.prog _ from Af.nil,AA.none (fun _=>rfl)⟩⟩
 ·cases hs)
theorem MD:As Tryz.prog 133:=fun args w=>by kernel_rfl
def SY (l:(L.Sq L.Pt)):Prop:=l.n<=1000
def SZ (l:(L.Sq L.Pt)):SV:=.clo 133 [.ref [(.sl 2 l.n (fun i=>[.int .i64 ((l.g i).x),.int .i64 ((l.g i).y)]))] 0]
def Ta:List EV->Option (Prop×SV)
 |[.p (.sl 2 l_n l_g)]=>some ((∀i,i<l_n->l_g i = [.int .i64 ((Ar (l_g i)).x),.int .i64 ((Ar (l_g i)).y)])/\SY (⟨l_n,fun i=>Ar (l_g i)⟩:(L.Sq L.Pt)),SZ (⟨l_n,fun i=>Ar (l_g i)⟩:(L.Sq L.Pt)))
 |_=>none
abbrev KX:SE.Spec:=(AI Ta)
def mM:Al:={ muts:=[],frz:=B8 [],specs:=AC [],loops:=AT [],iters:=B3 [],rfs:=AP [],nils:=B6 [] }
theorem mN (l:(L.Sq L.Pt)) (hp:SY l):vc Tryz.prog (mM) (Ai Tryz.f102) (Au Tryz.f102 [.p (.sl 2 l.n (fun i=>[.int .i64 ((l.g i).x),.int .i64 ((l.g i).y)]))]) (AH Tryz.prog Tryz.f102 (SZ l)):=
 @Eq.mpr _ (SV.clo (nat_lit 133) [SV.ref [SV.sl (nat_lit 2) l.n fun(i:Nat)=>[SV.int .i64 (l.g i).x,SV.int .i64 (l.g i).y]] (nat_lit 0)]=SV.clo (nat_lit 133) [SV.ref [SV.sl (nat_lit 2) l.n fun(i:Nat)=>[SV.int .i64 (l.g i).x,SV.int .i64 (l.g i).y]] (nat_lit 0)]) (by kernel_rfl) (by
 rfl)
theorem ME:Ax Tryz.prog 102 KX:=AK Tryz.func102 (c:=Ai Tryz.f102) (by kernel_rfl) mixed (fun args p r hs hp=>by
 unfold Ta at hs;split at hs
 ·cases hs;exact⟨_,_,mN _ hp.2,(.p (.sl hp.1) .nil),⟨show Aa Tryz.prog _ from Aa.nil,rfl,⟨show Af Tryz.prog _ from Af.nil,(AA.none (fun _=>rfl))⟩⟩⟩
 ·cases hs)
theorem MF:As Tryz.prog 102:=fun args w=>by kernel_rfl
def Tb (l:(L.Sq L.Pt)):Prop:=E3 l
def Tc (l:(L.Sq L.Pt)):SV:=.int .i64 (B4 l l.n)
def Td:List EV->Option (Prop×SV)
 |[.p (.sl 2 l_n l_g)]=>some ((∀i,i<l_n->l_g i = [.int .i64 ((Ar (l_g i)).x),.int .i64 ((Ar (l_g i)).y)])/\Tb (⟨l_n,fun i=>Ar (l_g i)⟩:(L.Sq L.Pt)),Tc (⟨l_n,fun i=>Ar (l_g i)⟩:(L.Sq L.Pt)))
 |_=>none
abbrev MG:SE.Spec:=(AI Td)
def mO:Al:={ cC with muts:=[3,5],specs:=AC [(102,KX)],iters:=B3 [(133,KW)] }
theorem mP (l:(L.Sq L.Pt)) (hp:Tb l):vc Tryz.prog ({ mO with loops:=AT [],rfs:=AP [(3,{ T:=Nat,keep:=[3],keepO:=[],own:=fun k _=>[(3,.blk 3 [.p (.int .i64 (B4 l k))])],inv:=fun k _=>k<=l.n })] }) (Ai Tryz.f95) (Au Tryz.f95 [.p (.sl 2 l.n (fun i=>[.int .i64 ((l.g i).x),.int .i64 ((l.g i).y)]))]) (AH Tryz.prog Tryz.f95 (Tc l)):=
 @Eq.mpr _ (let I:=SV.int .i64;let T:=Aee;let M:=Aes;let A5:=((0:Int)<=(2:Int)/\(2:Int)<(↑(3:Nat):Int));let A4:=((0:Int)<=(1:Int)/\(1:Int)<(↑(3:Nat):Int));let A3:=((∀(i:Nat),let A7:=[I (l.g i).x,I (l.g i).y];i<l.n->A7=A7)/\l.n<=(1000:Nat));A3/\(A3/\∃(t:Nat),(0:Int)=B4 l (0:Nat)/\(0:Nat)<=l.n)/\(∀(k t:Nat) (vk:Nat->Go.Value),let A6:=(l.g (T (↑k:Int)));let A1:=(l.g (T (M ((↑k:Int)+(1:Int)) (↑l.n:Int))));let A2:=(A6.x*A1.y-A1.x*A6.y);k<l.n->k<=l.n->A4/\A5/\Ad .i64 (A6.x*A1.y)/\A5/\A4/\Ad .i64 (A1.x*A6.y)/\Ad .i64 A2/\Ad .i64 (B4 l k+A2)/\∃(t':Nat),nat_lit 0=nat_lit 0/\vk (nat_lit 3)=vk (nat_lit 3)/\B4 l k+A2=B4 l (k+(1:Nat))/\k+(1:Nat)<=l.n)/\∀(t:Nat),l.n<=l.n->B4 l l.n=B4 l l.n) (by kernel_rfl) (by
 conv=>zeta
 have hs:E3 l:=hp;refine⟨⟨fun _ _=>rfl,hs.1⟩,⟨⟨fun _ _=>rfl,hs.1⟩,(0:Nat),rfl,AdL _⟩,fun k t vk hk hi=>?_,fun _ _=>rfl⟩;have e0:((k:Int)).toNat=k:=by omega
 have e1:(Aes ((k:Int)+1) (l.n:Int)).toNat=Cf l.n k:=rfl;rw[e0,e1];have b1:=OO hs hk;have b2:=MB hs k hi;have hn:=hs.1;refine⟨by omega,by omega,jK,by omega,by omega,jK,jK,jK,(0:Nat),rfl,rfl,rfl,hk⟩)
theorem OQ:Ax Tryz.prog 95 MG:=AK Tryz.func95 (c:=Ai Tryz.f95) (by kernel_rfl) mixed (fun args p r hs hp=>by
 unfold Td at hs;split at hs
 ·cases hs;exact⟨_,_,mP _ hp.2,(.p (.sl hp.1) .nil),⟨show Aa Tryz.prog _ from(Aa.cons ME MF Aa.nil),rfl,⟨show Af Tryz.prog _ from(Af.cons MC MD Af.nil),(AA.none (fun _=>rfl))⟩⟩⟩
 ·cases hs)
theorem OR:As Tryz.prog 95:=fun args w=>by kernel_rfl
end
section
set_option maxRecDepth 100000
set_option maxHeartbeats 4000000
set_option linter.unusedVariables false
attribute [local irreducible] vc
def Bt (a b:Int):Int:=bif decide (a<b)then -1 else bif decide (b<a)then 1 else 0
def Hu (a b:Int):Int:=bif decide (a=0)then b else a
def G5 (g:Nat->Int):Nat->Int
 |0=>0
 |n+1=>Hu (G5 g n) (g n)
theorem OS {g:Nat->Int}:∀{n:Nat},(∀j,j<n->g j=0)->G5 g n=0
 |0,_=>rfl
 |n+1,h=>by rw[G5,OS (n:=n) (fun j hj=>h j (by omega)),h n (by omega)];rfl
theorem Te {g:Nat->Int} {i:Nat} (h0:∀j,j<i->g j=0) (hi:g i≠0):∀{n:Nat},i<n->G5 g n=g i
 |n+1,h=>by
   by_cases hin:i<n
   ·simp[G5,Hu,Te h0 hi hin,hi]
   ·have:i=n:=by omega
    subst this;simp[G5,Hu,OS h0]
def Cm:Nat->(Nat->Bool)->Int
 |0,_=>-1
 |n+1,f=>bif decide (0<=Cm n f)then Cm n f else bif f n then(n:Int)else -1
def Cb:Nat->(Nat->Bool)->Bool
 |0,_=>false
 |n+1,f=>Cb n f||f n
theorem EY {f:Nat->Bool}:∀{n:Nat},Cb n f=true↔∃i,i<n/\f i=true
 |0=>by simp[Cb]
 |n+1=>by
   simp only[Cb,Bool.or_eq_true,EY (n:=n)];constructor
   ·rintro(⟨i,h,k⟩|h)
    ·exact⟨i,by omega,k⟩
    ·exact⟨n,by omega,h⟩
   ·rintro⟨i,h,k⟩;rcases AdZ.1 h with h|rfl
    ·exact .inl ⟨i,h,k⟩
    ·exact .inr k
theorem IG {f:Nat->Bool}:∀{n:Nat},(∀j,j<n->f j=false)->Cm n f = -1
 |0,_=>rfl
 |n+1,h=>by rw[Cm,IG (n:=n) (fun j hj=>h j (by omega)),h n (by omega)];rfl
theorem J8 {f:Nat->Bool} {i:Nat} (h0:∀j,j<i->f j=false) (hi:f i=true):∀{n:Nat},i<n->Cm n f=(i:Int)
 |n+1,h=>by
   by_cases hin:i<n
   ·simp[Cm,J8 h0 hi hin]
   ·have:i=n:=by omega
    subst this;simp[Cm,IG h0,hi]
theorem KY {f:Nat->Bool}:∀{n:Nat},decide (0<=Cm n f)=Cb n f
 |0=>rfl
 |n+1=>by
   have ih:=KY (f:=f) (n:=n);unfold Cb;rw[<- ih];cases hf:f n<;>by_cases h:0<=Cm n f<;>simp[Cm,hf,h]
theorem Ck {f:Nat->Bool}:∀{n:Nat},-1<=Cm n f/\Cm n f<(n:Int)
 |0=>by simp[Cm]
 |n+1=>by
   have ih:=Ck (f:=f) (n:=n);cases hf:f n<;>by_cases h:0<=Cm n f<;>simp[Cm,hf,h]<;>omega
def Cg (p:Nat->Bool):Nat->Nat
 |0=>0
 |n+1=>bif p n then Cg p n+1 else Cg p n
theorem OT {p:Nat->Bool}:∀{n:Nat},Cg p n<=n
 |0=>AdS _
 |n+1=>by
   have:=OT (p:=p) (n:=n);unfold Cg;cases p n<;>simp<;>omega
def DG (p:Nat->Bool):Nat->Nat->Nat
 |0,_=>0
 |n+1,k=>bif p n&&decide (k=Cg p n)then n else DG p n k
theorem mQ {p:Nat->Bool} {n:Nat} (h:p n=true):Cg p (n+1)=Cg p n+1:=by simp[Cg,h]
theorem mR {p:Nat->Bool} {n:Nat} (h:p n=false):Cg p (n+1)=Cg p n:=by simp[Cg,h]
theorem mS {p:Nat->Bool} {n:Nat} (h:p n=true):DG p (n+1) (Cg p n)=n:=by simp[DG,h]
theorem mT {p:Nat->Bool} {n k:Nat} (h:k≠Cg p n):DG p (n+1) k=DG p n k:=by simp[DG,h]
theorem mU {p:Nat->Bool} {n k:Nat} (h:p n=false):DG p (n+1) k=DG p n k:=by simp[DG,h]
theorem Tf {f:Nat->Bool}:∀{n:Nat},(Cm n f = -1/\∀j,j<n->f j=false)\/∃i,i<n/\Cm n f=(i:Int)/\f i=true/\∀j,j<i->f j=false
 |0=>.inl ⟨rfl,fun j hj=>absurd hj (nT _)⟩
 |n+1=>by
   rcases Tf (f:=f) (n:=n)with ⟨h1,h2⟩|⟨i,h1,h2,h3,h4⟩
   ·cases hf:f n with
    |true=>exact .inr ⟨n,Nat.lt_succ_self n,by simp[Cm,h1,hf],hf,h2⟩
    |false =>exact .inl ⟨by simp[Cm, h1, hf], fun j hj =>by
     rcases AdZ.1 hj with h|rfl
     ·exact h2 j h
     ·exact hf⟩
   ·exact .inr ⟨i,by omega,by simp[Cm,h2],h3,h4⟩
theorem GY (a b:Bool):(bif a then b else false)=(a&&b):=by cases a<;>rfl
theorem G6 (a b:Bool):(bif a then true else b)=(a||b):=by cases a<;>rfl
def Tg (x:Int):Prop:=True
def Th (x:Int):SV:=.bool false
def Ti:List EV->Option (Prop×SV)
 |[.p (.int .i64 x)]=>some (Tg x,Th x)
 |_=>none
abbrev Tj:SE.Spec:=(AI Ti)
def mV:Al:={ muts:=[],frz:=B8 [],specs:=AC [],loops:=AT [],iters:=B3 [],rfs:=AP [],nils:=B6 [] }
theorem mW (x:Int) (hp:Tg x):vc Tryz.prog (mV) (Ai Tryz.f143) (Au Tryz.f143 [.p (.int .i64 x)]) (AH Tryz.prog Tryz.f143 (Th x)):=
 @Eq.mpr _ ((!decide (x=x))=false) (by kernel_rfl) (by
 simp)
theorem mX:Ax Tryz.prog 143 Tj:=AK Tryz.func143 (c:=Ai Tryz.f143) (by kernel_rfl) mixed (fun args p r hs hp=>by
 unfold Ti at hs;split at hs
 ·cases hs;exact⟨_,_,mW _ hp,(.same _ .nil),⟨show Aa Tryz.prog _ from Aa.nil,rfl,⟨show Af Tryz.prog _ from Af.nil,(AA.none (fun _=>rfl))⟩⟩⟩
 ·cases hs)
theorem mZ:As Tryz.prog 143:=fun args w=>by kernel_rfl
def Tk (a:Int) (b:Int):Prop:=True
def Tl (a:Int) (b:Int):SV:=.int .i64 (Bt a b)
def Tm:List EV->Option (Prop×SV)
 |[.p (.int .i64 a),.p (.int .i64 b)]=>some (Tk a b,Tl a b)
 |_=>none
abbrev J9:SE.Spec:=(AI Tm)
def nA:Al:={ cC with specs:=AC [(143,Tj)] }
theorem nB (a:Int) (b:Int) (hp:Tk a b):vc Tryz.prog (nA) (Ai Tryz.f111) (Au Tryz.f111 [.p (.int .i64 a),.p (.int .i64 b)]) (AH Tryz.prog Tryz.f111 (Tl a b)):=
 @Eq.mpr _ (True/\True/\(false=true->(false=true->(0:Int)=Bt a b)/\(false=false->(-1:Int)=Bt a b))/\(false=false->(false=true->(1:Int)=Bt a b)/\(false=false->(decide (a<b)=true->(-1:Int)=Bt a b)/\(decide (a<b)=false->(decide (b<a)=true->(1
:Int)=Bt a b)/\(decide (b<a)=false->(0:Int)=Bt a b))))) (by kernel_rfl) (by
 grind [Bt])
theorem KZ:Ax Tryz.prog 111 J9:=AK Tryz.func111 (c:=Ai Tryz.f111) (by kernel_rfl) mixed (fun args p r hs hp=>by
 unfold Tm at hs;split at hs
 ·cases hs;exact⟨_,_,nB _ _ hp,(.same _ (.same _ .nil)),⟨show Aa Tryz.prog _ from(Aa.cons mX mZ Aa.nil),rfl,⟨show Af Tryz.prog _ from Af.nil,(AA.none (fun _=>rfl))⟩⟩⟩
 ·cases hs)
theorem La:As Tryz.prog 111:=fun args w=>by kernel_rfl
def Tn (l:(L.Sq Int)):Prop:=l.n<=1000000
def To (l:(L.Sq Int)):SV:=.int .i64 (G5 l.g l.n)
def Tp:List EV->Option (Prop×SV)
 |[.p (.sl 1 l_n l_g)]=>some ((∀i,i<l_n->l_g i = [.int .i64 ((Ca (l_g i)))])/\Tn (⟨l_n,fun i=>Ca (l_g i)⟩:(L.Sq Int)),To (⟨l_n,fun i=>Ca (l_g i)⟩:(L.Sq Int)))
 |_=>none
abbrev OU:SE.Spec:=(AI Tp)
def nC:Al:={ muts:=[],frz:=B8 [],specs:=AC [],loops:=fun _=>none,iters:=B3 [],rfs:=AP [],nils:=B6 [] }
theorem nD (l:(L.Sq Int)) (hp:Tn l):vc Tryz.prog ({ nC with loops:=AT [(3,{ T:=Nat,keep:=[0,3,6,7],keepO:=[],chg:=fun i=>[(8,.p (.int .i64 i))],own:=fun _=>[],inv:=fun i=>i<=l.n/\(∀j,j<i->l.g j=0),mu:=fun i=>l.n-i })],rfs:=AP [] }) (Ai Tryz.f122) (Au Tryz.f122 [.p (.sl 1 l.n (fun i=>[.int .i64 ((l.g i))]))]) (AH Tryz.prog Tryz.f122 (To l)):=
 @Eq.mpr _ (let A5:=(↑l.n:Int);let A4:=(0:Int);let A1:=(l.n=l.n/\∀(i:Nat),let A6:=[SV.int .i64 (l.g i)];i<l.n->A6=A6);(∃(g:Nat),A4=(↑g:Int)/\g<=l.n/\∀(j:Nat),j<g->l.g j=A4)/\∀(g:Nat),let A3:=(↑g:Int);let A2:=(!decide (l.g (Aee A3)=A4));(g<=l.n/\∀(j:Nat),j<g->l.g j=A4)->(decide (A3<A5)=true->(A4<=A3/\A3<A5)/\(A2=true->l.g (Aee A3)=G5 l.g l.n)/\(A2=false->Ad .i64 (A3+(1:Int))/\∃(g':Nat),A3+(1:Int)=(↑g':Int)/\A5=A5/\A1/\A4=A4/\A1/\(g'<=l.n/\∀(j:Nat),j<g'->l.g j=A4)/\l.n-g'<l.n-g))/\(decide (A3<A5)=false->A4=G5 l.g l.n)) (by kernel_rfl) (by
 conv=>zeta
 refine⟨⟨(0:Nat),rfl,AdL _,fun j hj=>by omega⟩,fun g hg=>⟨fun hlt=>?_,fun hge=>?_⟩⟩
 ·have hb:(g:Int)<(l.n:Int):=by simpa using hlt
  have e0:((g:Int)).toNat=g:=by omega
  rw[e0];have hn:l.n<=1000000:=hp;refine⟨by omega,fun h=>?_,fun h=>?_⟩
  ·exact(Te hg.2 (by simpa using h) (by omega)).symm
  ·have h0:l.g g=0:=by simpa using h
   exact⟨jK,g+1,by omega,rfl,⟨rfl,fun _ _=>rfl⟩,rfl,⟨rfl,fun _ _=>rfl⟩,⟨by omega,fun j hj=>by
    rcases AdZ.1 hj with h|rfl
    ·exact hg.2 j h
    ·exact h0⟩,by omega⟩
 ·have hb:¬ (g:Int)<(l.n:Int):=by simpa using hge
  exact(OS (fun j hj=>hg.2 j (by omega))).symm)
theorem Tq:Ax Tryz.prog 122 OU:=AK Tryz.func122 (c:=Ai Tryz.f122) (by kernel_rfl) mixed (fun args p r hs hp=>by
 unfold Tp at hs;split at hs
 ·cases hs;exact⟨_,_,nD _ hp.2,(.p (.sl hp.1) .nil),⟨show Aa Tryz.prog _ from Aa.nil,rfl,⟨show Af Tryz.prog _ from Af.nil,(AA.none (fun _=>rfl))⟩⟩⟩
 ·cases hs)
theorem Ts:As Tryz.prog 122:=fun args w=>by kernel_rfl
def Tt (l:(L.Sq Int)) (p:BR):Prop:=l.n<=1000000/\∀i,i<l.n->p.pre [(.int .i64 ((l.g i)))]
def Tu (l:(L.Sq Int)) (p:BR):SV:=.int .i64 (Cm l.n (fun i=>Bu p [(.int .i64 ((l.g i)))]))
def Tv:List EV->Option (Prop×SV)
 |[.p (.sl 1 l_n l_g),.fn p]=>some ((∀i,i<l_n->l_g i = [.int .i64 ((Ca (l_g i)))])/\Fp p/\Tt (⟨l_n,fun i=>Ca (l_g i)⟩:(L.Sq Int)) p,Tu (⟨l_n,fun i=>Ca (l_g i)⟩:(L.Sq Int)) p)
 |_=>none
abbrev Tw:SE.Spec:=(AI Tv)
def nF:Al:={ muts:=[],frz:=B8 [],specs:=AC [],loops:=fun _=>none,iters:=B3 [],rfs:=AP [],nils:=B6 [] }
theorem nG (l:(L.Sq Int)) (p:BR) (hp:Tt l p):vc Tryz.prog ({ nF with loops:=AT [(2,{ T:=Nat,keep:=[0,1,6,7],keepO:=[],chg:=fun i=>[(8,.p (.int .i64 i))],own:=fun _=>[],inv:=fun i=>i<=l.n/\(∀j,j<i->Bu p [(.int .i64 ((l.g j)))]=false),mu:=fun i=>l.n-i })],rfs:=AP [] }) (Ai Tryz.f172) (Au Tryz.f172 [.p (.sl 1 l.n (fun i=>[.int .i64 ((l.g i))])),.fn ⟨p.pre,fun xs=>.bool (Bu p xs)⟩]) (AH Tryz.prog Tryz.f172 (Tu l p)):=
 @Eq.mpr _ (let I:=SV.int .i64;let A4:=(↑l.n:Int);let A2:=(l.n=l.n/\∀(i:Nat),i<l.n -> [I (l.g i)]= [I (l.g i)]);(∃(g:Nat),(0:Int)=(↑g:Int)/\g<=l.n/\∀(j:Nat),j<g->Bu p [I (l.g j)]=false)/\∀(g:Nat),let A1:=(↑g:Int);let A3:=[I (l.g (Aee A1))];(g<=l.n/\∀(j:Nat),j<g->Bu p [I (l.g j)]=false)->(decide (A1<A4)=true->((0:Int)<=A1/\A1<A4)/\p.1 A3/\(Bu p A3=true->A1=Cm l.n fun(i:Nat)=>Bu p [I (l.g i)])/\(Bu p A3=false->Ad .i64 (A1+(1:Int))/\∃(g':Nat),A1+(1:Int)=(↑g':Int)/\A4=A4/\A2/\A2/\((BR.mk p.pre fun(xs:List SV)=>SV.bool (Bu p xs))=BR.mk p.pre fun(xs:List SV)=>SV.bool (Bu p xs))/\(g'<=l.n/\∀(j:Nat),j<g'->Bu p [I (l.g j)]=false)/\l.n-g'<l.n-g))/\(decide (A1<A4)=false->(-1:Int)=Cm l.n fun(i:Nat)=>Bu p [I (l.g i)])) (by kernel_rfl) (by
 conv=>zeta
 obtain⟨hn,hpre⟩:=hp;refine⟨⟨(0:Nat),rfl,AdL _,fun j hj=>by omega⟩,fun g hg=>⟨fun hlt=>?_,fun hge=>?_⟩⟩
 ·have hb:(g:Int)<(l.n:Int):=by simpa using hlt
  have e0:((g:Int)).toNat=g:=by omega
  rw[e0];refine⟨by omega,hpre g (by omega),fun h=>?_,fun h=>?_⟩
  ·exact(J8 hg.2 h (by omega)).symm
  ·exact⟨jK, g+1, by omega, rfl, ⟨rfl, fun _ _ =>rfl⟩, ⟨rfl, fun _ _ =>rfl⟩, rfl, ⟨by omega, fun j hj =>by
   rcases AdZ.1 hj with h'|rfl
   ·exact hg.2 j h'
   ·exact h⟩,by omega⟩
 ·have hb:¬ (g:Int)<(l.n:Int):=by simpa using hge
  exact(IG (fun j hj=>hg.2 j (by omega))).symm)
theorem nH:Ax Tryz.prog 172 Tw:=AK Tryz.func172 (c:=Ai Tryz.f172) (by kernel_rfl) mixed (fun args p r hs hp=>by
 unfold Tv at hs;split at hs
 ·cases hs;exact⟨_,_,nG _ _ hp.2.2,(.p (.sl hp.1) (.fn (fun xs h=>⟨h,(J7 hp.2.1 h).symm⟩) .nil)),⟨show Aa Tryz.prog _ from Aa.nil,rfl,⟨show Af Tryz.prog _ from Af.nil,(AA.none (fun _=>rfl))⟩⟩⟩
 ·cases hs)
theorem nI:As Tryz.prog 172:=fun args w=>by kernel_rfl
def Tx (l:(L.Sq Int)) (p:BR):Prop:=l.n<=1000000/\∀i,i<l.n->p.pre [(.int .i64 ((l.g i)))]
def Tz (l:(L.Sq Int)) (p:BR):SV:=.bool (Cb l.n (fun i=>Bu p [(.int .i64 ((l.g i)))]))
def T0:List EV->Option (Prop×SV)
 |[.p (.sl 1 l_n l_g),.fn p]=>some ((∀i,i<l_n->l_g i = [.int .i64 ((Ca (l_g i)))])/\Fp p/\Tx (⟨l_n,fun i=>Ca (l_g i)⟩:(L.Sq Int)) p,Tz (⟨l_n,fun i=>Ca (l_g i)⟩:(L.Sq Int)) p)
 |_=>none
abbrev T1:SE.Spec:=(AI T0)
def nJ:Al:={ cC with specs:=AC [(172,Tw)] }
theorem nK (l:(L.Sq Int)) (p:BR) (hp:Tx l p):vc Tryz.prog (nJ) (Ai Tryz.f145) (Au Tryz.f145 [.p (.sl 1 l.n (fun i=>[.int .i64 ((l.g i))])),.fn ⟨p.pre,fun xs=>.bool (Bu p xs)⟩]) (AH Tryz.prog Tryz.f145 (Tz l p)):=
 @Eq.mpr _ (let I:=SV.int .i64;let A1:=(BR.mk p.pre fun(xs:List SV)=>SV.bool (Bu p xs));((∀(i:Nat),i<l.n -> [I (l.g i)]= [I (l.g i)])/\Fp A1/\l.n<=(1000000:Nat)/\∀(i:Nat),i<l.n->p.1 [I (l.g i)])/\decide ((0:Int)<=Cm l.n fun(i:Nat)=>Bu A1 [I (l.g i)])=Cb l.n fun(i:Nat)=>Bu p [I (l.g i)]) (by kernel_rfl) (by
 conv=>zeta
 refine⟨⟨fun _ _=>rfl,fun xs _=>⟨_,rfl⟩,hp⟩,KY⟩)
theorem nL:Ax Tryz.prog 145 T1:=AK Tryz.func145 (c:=Ai Tryz.f145) (by kernel_rfl) mixed (fun args p r hs hp=>by
 unfold T0 at hs;split at hs
 ·cases hs;exact⟨_,_,nK _ _ hp.2.2,(.p (.sl hp.1) (.fn (fun xs h=>⟨h,(J7 hp.2.1 h).symm⟩) .nil)),⟨show Aa Tryz.prog _ from(Aa.cons nH nI Aa.nil),rfl,⟨show Af Tryz.prog _ from Af.nil,(AA.none (fun _=>rfl))⟩⟩⟩
 ·cases hs)
theorem nM:As Tryz.prog 145:=fun args w=>by kernel_rfl
def T2 (l:(L.Sq L.Pt)) (p:BR):Prop:=l.n<=1000000/\∀i,i<l.n->p.pre [(.agg [.int .i64 ((l.g i).x),.int .i64 ((l.g i).y)])]
def T3 (l:(L.Sq L.Pt)) (p:BR):SV:=.int .i64 (Cm l.n (fun i=>Bu p [(.agg [.int .i64 ((l.g i).x),.int .i64 ((l.g i).y)])]))
def T4:List EV->Option (Prop×SV)
 |[.p (.sl 2 l_n l_g),.fn p]=>some ((∀i,i<l_n->l_g i = [.int .i64 ((Ar (l_g i)).x),.int .i64 ((Ar (l_g i)).y)])/\Fp p/\T2 (⟨l_n,fun i=>Ar (l_g i)⟩:(L.Sq L.Pt)) p,T3 (⟨l_n,fun i=>Ar (l_g i)⟩:(L.Sq L.Pt)) p)
 |_=>none
abbrev T5:SE.Spec:=(AI T4)
def nN:Al:={ muts:=[],frz:=B8 [],specs:=AC [],loops:=fun _=>none,iters:=B3 [],rfs:=AP [],nils:=B6 [] }
theorem nO (l:(L.Sq L.Pt)) (p:BR) (hp:T2 l p):vc Tryz.prog ({ nN with loops:=AT [(2,{ T:=Nat,keep:=[0,1,6,7],keepO:=[],chg:=fun i=>[(8,.p (.int .i64 i))],own:=fun _=>[],inv:=fun i=>i<=l.n/\(∀j,j<i->Bu p [(.agg [.int .i64 ((l.g j).x),.int .i64 ((l.g j).y)])]=false),mu:=fun i=>l.n-i })],rfs:=AP [] }) (Ai Tryz.f153) (Au Tryz.f153 [.p (.sl 2 l.n (fun i=>[.int .i64 ((l.g i).x),.int .i64 ((l.g i).y)])),.fn ⟨p.pre,fun xs=>.bool (Bu p xs)⟩]) (AH Tryz.prog Tryz.f153 (T3 l p)):=
 @Eq.mpr _ (let I:=SV.int .i64;let T:=Aee;let A4:=(↑l.n:Int);let A2:=(l.n=l.n/\∀(i:Nat),let A5:=[I (l.g i).x,I (l.g i).y];i<l.n->A5=A5);(∃(g:Nat),(0:Int)=(↑g:Int)/\g<=l.n/\∀(j:Nat),j<g->Bu p [SV.agg [I (l.g j).x,I (l.g j).y]]=false)/\∀(g:Nat),let A3:=(↑g:Int);let A1:=[SV.agg [I (l.g (T A3)).x,I (l.g (T A3)).y]];(g<=l.n/\∀(j:Nat),j<g->Bu p [SV.agg [I (l.g j).x,I (l.g j).y]]=false)->(decide (A3<A4)=true->((0:Int)<=A3/\A3<A4)/\p.1 A1/\(Bu p A1=true->A3=Cm l.n fun(i:Nat)=>Bu p [SV.agg [I (l.g i).x,I (l.g i).y]])/\(Bu p A1=false->Ad .i64 (A3+(1:Int))/\∃(g':Nat),A3+(1:Int)=(↑g':Int)/\A4=A4/\A2/\A2/\((BR.mk p.pre fun(xs:List SV)=>SV.bool (Bu p xs))=BR.mk p.pre fun(xs:List SV)=>SV.bool (Bu p xs))/\(g'<=l.n/\∀(j:Nat),j<g'->Bu p [SV.agg [I (l.g j).x,I (l.g j).y]]=false)/\l.n-g'<l.n-g))/\(decide (A3<A4)=false->(-1:Int)=Cm l.n fun(i:Nat)=>Bu p [SV.agg [I (l.g i).x,I (l.g i).y]])) (by kernel_rfl) (by
 conv=>zeta
 obtain⟨hn,hpre⟩:=hp;refine⟨⟨(0:Nat),rfl,AdL _,fun j hj=>by omega⟩,fun g hg=>⟨fun hlt=>?_,fun hge=>?_⟩⟩
 ·have hb:(g:Int)<(l.n:Int):=by simpa using hlt
  have e0:((g:Int)).toNat=g:=by omega
  rw[e0];refine⟨by omega,hpre g (by omega),fun h=>?_,fun h=>?_⟩
  ·exact(J8 hg.2 h (by omega)).symm
  ·exact⟨jK, g+1, by omega, rfl, ⟨rfl, fun _ _ =>rfl⟩, ⟨rfl, fun _ _ =>rfl⟩, rfl, ⟨by omega, fun j hj =>by
   rcases AdZ.1 hj with h'|rfl
   ·exact hg.2 j h'
   ·exact h⟩,by omega⟩
 ·have hb:¬ (g:Int)<(l.n:Int):=by simpa using hge
  exact(IG (fun j hj=>hg.2 j (by omega))).symm)
theorem nQ:Ax Tryz.prog 153 T5:=AK Tryz.func153 (c:=Ai Tryz.f153) (by kernel_rfl) mixed (fun args p r hs hp=>by
 unfold T4 at hs;split at hs
 ·cases hs;exact⟨_,_,nO _ _ hp.2.2,(.p (.sl hp.1) (.fn (fun xs h=>⟨h,(J7 hp.2.1 h).symm⟩) .nil)),⟨show Aa Tryz.prog _ from Aa.nil,rfl,⟨show Af Tryz.prog _ from Af.nil,(AA.none (fun _=>rfl))⟩⟩⟩
 ·cases hs)
theorem nR:As Tryz.prog 153:=fun args w=>by kernel_rfl
def T6 (l:(L.Sq L.Pt)) (p:BR):Prop:=l.n<=1000000/\∀i,i<l.n->p.pre [(.agg [.int .i64 ((l.g i).x),.int .i64 ((l.g i).y)])]
def T7 (l:(L.Sq L.Pt)) (p:BR):SV:=.bool (Cb l.n (fun i=>Bu p [(.agg [.int .i64 ((l.g i).x),.int .i64 ((l.g i).y)])]))
def T8:List EV->Option (Prop×SV)
 |[.p (.sl 2 l_n l_g),.fn p]=>some ((∀i,i<l_n->l_g i = [.int .i64 ((Ar (l_g i)).x),.int .i64 ((Ar (l_g i)).y)])/\Fp p/\T6 (⟨l_n,fun i=>Ar (l_g i)⟩:(L.Sq L.Pt)) p,T7 (⟨l_n,fun i=>Ar (l_g i)⟩:(L.Sq L.Pt)) p)
 |_=>none
abbrev T9:SE.Spec:=(AI T8)
def nS:Al:={ cC with specs:=AC [(153,T5)] }
theorem nU (l:(L.Sq L.Pt)) (p:BR) (hp:T6 l p):vc Tryz.prog (nS) (Ai Tryz.f131) (Au Tryz.f131 [.p (.sl 2 l.n (fun i=>[.int .i64 ((l.g i).x),.int .i64 ((l.g i).y)])),.fn ⟨p.pre,fun xs=>.bool (Bu p xs)⟩]) (AH Tryz.prog Tryz.f131 (T7 l p)):=
 @Eq.mpr _ (let I:=SV.int .i64;let A1:=(BR.mk p.pre fun(xs:List SV)=>SV.bool (Bu p xs));((∀(i:Nat),let A2:=[I (l.g i).x,I (l.g i).y];i<l.n->A2=A2)/\Fp A1/\l.n<=(1000000:Nat)/\∀(i:Nat),i<l.n->p.1 [SV.agg [I (l.g i).x,I (l.g i).y]])/\decide ((0:Int)<=Cm l.n fun(i:Nat)=>Bu A1 [SV.agg [I (l.g i).x,I (l.g i).y]])=Cb l.n fun(i:Nat)=>Bu p [SV.agg [I (l.g i).x,I (l.g i).y]]) (by kernel_rfl) (by
 conv=>zeta
 refine⟨⟨fun _ _=>rfl,fun xs _=>⟨_,rfl⟩,hp⟩,KY⟩)
theorem nV:Ax Tryz.prog 131 T9:=AK Tryz.func131 (c:=Ai Tryz.f131) (by kernel_rfl) mixed (fun args p r hs hp=>by
 unfold T8 at hs;split at hs
 ·cases hs;exact⟨_,_,nU _ _ hp.2.2,(.p (.sl hp.1) (.fn (fun xs h=>⟨h,(J7 hp.2.1 h).symm⟩) .nil)),⟨show Aa Tryz.prog _ from(Aa.cons nQ nR Aa.nil),rfl,⟨show Af Tryz.prog _ from Af.nil,(AA.none (fun _=>rfl))⟩⟩⟩
 ·cases hs)
theorem nW:As Tryz.prog 131:=fun args w=>by kernel_rfl
end
section
set_option maxRecDepth 100000
set_option maxHeartbeats 4000000
set_option linter.unusedVariables false
attribute [local irreducible] vc
def B9 (a b c:L.Pt):Int:=(b.x-a.x)*(c.y-a.y)-(b.y-a.y)*(c.x-a.x)
def AF (p:L.Pt):Prop:=-4000000<=p.x/\p.x<=4000000 /\ -4000000<=p.y/\p.y<=4000000
def Cs (p:L.Pt):Bool:=Ay p.x 0 4096&&Ay p.y 0 4096
theorem nX {p:L.Pt} (h:Cs p=true):AF p:=by
 simp only[Cs,Ay,oE,decide_eq_true_eq]at h;unfold AF;omega
def Cw (a b:L.Pt):Int:=Hu (Bt a.x b.x) (Bt a.y b.y)
def C6 (a b p:L.Pt):Bool:=decide (B9 a b p=0)&&Ay p.x (min a.x b.x) (max a.x b.x)&&Ay p.y (min a.y b.y) (max a.y b.y)
def G7 (a b c d:L.Pt):Bool:=decide (Bt (B9 a b c) 0*Bt (B9 a b d) 0<0)
theorem TA {f:Nat->Bool}:∀{n:Nat},(!Cb n f)=CX n (fun i=>!f i)
 |0=>rfl
 |n+1=>by simp[Cb,CX,<- TA (n:=n)]
theorem JA (a b:Int): -1<=Bt a b/\Bt a b<=1:=by
 unfold Bt
 by_cases h:a<b<;>by_cases k:b<a<;>simp[h,k]
def TB (a:L.Pt) (b:L.Pt) (c:L.Pt):Prop:=AF a/\AF b/\AF c
def TC (a:L.Pt) (b:L.Pt) (c:L.Pt):SV:=.int .i64 (B9 a b c)
def TD:List EV->Option (Prop×SV)
 |[.p (.agg [.int .i64 a_x,.int .i64 a_y]),.p (.agg [.int .i64 b_x,.int .i64 b_y]),.p (.agg [.int .i64 c_x,.int .i64 c_y])]=>some (TB (⟨a_x,a_y⟩:L.Pt) (⟨b_x,b_y⟩:L.Pt) (⟨c_x,c_y⟩:L.Pt),TC (⟨a_x,a_y⟩:L.Pt) (⟨b_x,b_y⟩:L.Pt) (⟨c_x,c_y⟩:L.Pt))
 |_=>none
abbrev JB:SE.Spec:=(AI TD)
def nY:Al:={ muts:=[],frz:=B8 [],specs:=AC [],loops:=AT [],iters:=B3 [],rfs:=AP [],nils:=B6 [] }
theorem nZ (a:L.Pt) (b:L.Pt) (c:L.Pt) (hp:TB a b c):vc Tryz.prog (nY) (Ai Tryz.f103) (Au Tryz.f103 [.p (.agg [.int .i64 a.x,.int .i64 a.y]),.p (.agg [.int .i64 b.x,.int .i64 b.y]),.p (.agg [.int .i64 c.x,.int .i64 c.y])]) (AH Tryz.prog Tryz.f103 (TC a b c)):=
 @Eq.mpr _ (let A4:=(c.x-a.x);let A3:=(b.y-a.y);let A2:=(c.y-a.y);let A1:=(b.x-a.x);Ad .i64 A1/\Ad .i64 A2/\Ad .i64 (A1*A2)/\Ad .i64 A3/\Ad .i64 A4/\Ad .i64 (A3*A4)/\Ad .i64 (A1*A2-A3*A4)/\A1*A2-A3*A4=B9 a b c) (by kernel_rfl) (by
 conv=>zeta
 obtain⟨h1,h2,h3⟩:=hp;unfold AF at h1 h2 h3;have m1:=Ei (a:=b.x-a.x) (b:=c.y-a.y) (m:=8000000) (n:=8000000) (by omega) (by omega) (by omega) (by omega);have m2:=Ei (a:=b.y-a.y) (b:=c.x-a.x) (m:=8000000) (n:=8000000) (by omega) (by omega) (by omega) (by omega);exact⟨jK,jK,jK,jK,jK,jK,jK,rfl⟩)
theorem Lb:Ax Tryz.prog 103 JB:=AK Tryz.func103 (c:=Ai Tryz.f103) (by kernel_rfl) mixed (fun args p r hs hp=>by
 unfold TD at hs;split at hs
 ·cases hs;exact⟨_,_,nZ _ _ _ hp,(.same _ (.same _ (.same _ .nil))),⟨show Aa Tryz.prog _ from Aa.nil,rfl,⟨show Af Tryz.prog _ from Af.nil,(AA.none (fun _=>rfl))⟩⟩⟩
 ·cases hs)
theorem Lc:As Tryz.prog 103:=fun args w=>by kernel_rfl
def TE (p:L.Pt):Prop:=True
def TF (p:L.Pt):SV:=.bool (Cs p)
def TG:List EV->Option (Prop×SV)
 |[.p (.agg [.int .i64 p_x,.int .i64 p_y])]=>some (TE (⟨p_x,p_y⟩:L.Pt),TF (⟨p_x,p_y⟩:L.Pt))
 |_=>none
abbrev TH:SE.Spec:=(AI TG)
def oC:Al:={ cC with specs:=AC [(100,MA)] }
theorem oD (p:L.Pt) (hp:TE p):vc Tryz.prog (oC) (Ai Tryz.f69) (Au Tryz.f69 [.p (.agg [.int .i64 p.x,.int .i64 p.y])]) (AH Tryz.prog Tryz.f69 (TF p)):=
 @Eq.mpr _ (True/\(Ay p.x (0:Int) (4096:Int)=true->True)/\(bif Ay p.x (0:Int) (4096:Int)then Ay p.y (0:Int) (4096:Int)else false)=Cs p) (by kernel_rfl) (by
 refine⟨trivial,fun _=>trivial,?_⟩;unfold Cs;cases Ay p.x 0 4096<;>rfl)
theorem oF:Ax Tryz.prog 69 TH:=AK Tryz.func69 (c:=Ai Tryz.f69) (by kernel_rfl) mixed (fun args p r hs hp=>by
 unfold TG at hs;split at hs
 ·cases hs;exact⟨_,_,oD _ hp,(.same _ .nil),⟨show Aa Tryz.prog _ from(Aa.cons OM ON Aa.nil),rfl,⟨show Af Tryz.prog _ from Af.nil,(AA.none (fun _=>rfl))⟩⟩⟩
 ·cases hs)
theorem oG:As Tryz.prog 69:=fun args w=>by kernel_rfl
def TI (p:L.Pt):Prop:=True
def TJ (p:L.Pt):SV:=.bool (!Cs p)
def JC:List EV->Option (Prop×SV)
 |[.p (.agg [.int .i64 p_x,.int .i64 p_y])]=>some (TI (⟨p_x,p_y⟩:L.Pt),TJ (⟨p_x,p_y⟩:L.Pt))
 |_=>none
abbrev TK:SE.Spec:=(AI JC)
def oH:Al:={ cC with specs:=AC [(69,TH)] }
theorem oI (p:L.Pt) (hp:TI p):vc Tryz.prog (oH) (Ai Tryz.f132) (Au Tryz.f132 [.p (.agg [.int .i64 p.x,.int .i64 p.y])]) (AH Tryz.prog Tryz.f132 (TJ p)):=
 @Eq.mpr _ (True/\(!Cs p)= !Cs p) (by kernel_rfl) (by
 exact⟨trivial,rfl⟩)
theorem oJ:Ax Tryz.prog 132 TK:=AK Tryz.func132 (c:=Ai Tryz.f132) (by kernel_rfl) mixed (fun args p r hs hp=>by
 unfold JC at hs;split at hs
 ·cases hs;exact⟨_,_,oI _ hp,(.same _ .nil),⟨show Aa Tryz.prog _ from(Aa.cons oF oG Aa.nil),rfl,⟨show Af Tryz.prog _ from Af.nil,(AA.none (fun _=>rfl))⟩⟩⟩
 ·cases hs)
theorem oK:As Tryz.prog 132:=fun args w=>by kernel_rfl
theorem oL:∀args p r,JC args=some (p,r)->∃b,r=.bool b:=by
 intro args p r h;unfold JC at h;split at h
 ·cases h;exact⟨_,rfl⟩
 ·cases h
def TL (l:(L.Sq L.Pt)):Prop:=l.n<=1000000
def TM (l:(L.Sq L.Pt)):SV:=.bool (CX l.n (fun i=>Cs (l.g i)))
def TN:List EV->Option (Prop×SV)
 |[.p (.sl 2 l_n l_g)]=>some ((∀i,i<l_n->l_g i = [.int .i64 ((Ar (l_g i)).x),.int .i64 ((Ar (l_g i)).y)])/\TL (⟨l_n,fun i=>Ar (l_g i)⟩:(L.Sq L.Pt)),TM (⟨l_n,fun i=>Ar (l_g i)⟩:(L.Sq L.Pt)))
 |_=>none
abbrev TO:SE.Spec:=(AI TN)
def oM:Al:={ cC with specs:=AC [(131,T9),(132,TK)] }
theorem oN (l:(L.Sq L.Pt)) (hp:TL l):vc Tryz.prog (oM) (Ai Tryz.f101) (Au Tryz.f101 [.p (.sl 2 l.n (fun i=>[.int .i64 ((l.g i).x),.int .i64 ((l.g i).y)]))]) (AH Tryz.prog Tryz.f101 (TM l)):=
 @Eq.mpr _ (let I:=SV.int .i64;let A1:=(BR.mk (fun(«as»:List SV)=>EX JC (AeS EV.p «as» ++ AeS EV.p [])) fun(«as»:List SV)=>G1 JC (AeS EV.p «as» ++ AeS EV.p []));((∀(i:Nat),let A2:=[I (l.g i).x,I (l.g i).y];i<l.n->A2=A2)/\Fp A1/\l.n<=(1000000:Nat)/\∀(i:Nat),i<l.n->True)/\(!Cb l.n fun(i:Nat)=>Bu A1 [SV.agg [I (l.g i).x,I (l.g i).y]])=CX l.n fun(i:Nat)=>Cs (l.g i)) (by kernel_rfl) (by
 conv=>zeta
 refine⟨⟨fun _ _=>rfl,OE oL _,hp,fun _ _=>trivial⟩,?_⟩;rw[TA];exact congrArg (CX l.n) (funext fun i=>Bool.not_not (Cs (l.g i))))
theorem oO:Ax Tryz.prog 101 TO:=AK Tryz.func101 (c:=Ai Tryz.f101) (by kernel_rfl) mixed (fun args p r hs hp=>by
 unfold TN at hs;split at hs
 ·cases hs;exact⟨_,_,oN _ hp.2,(.p (.sl hp.1) .nil),⟨show Aa Tryz.prog _ from(Aa.cons nV nW (Aa.cons oJ oK Aa.nil)),rfl,⟨show Af Tryz.prog _ from Af.nil,(AA.none (fun _=>rfl))⟩⟩⟩
 ·cases hs)
theorem oP:As Tryz.prog 101:=fun args w=>by kernel_rfl
def TP (a:L.Pt) (b:L.Pt):Prop:=True
def TQ (a:L.Pt) (b:L.Pt):SV:=.int .i64 (Cw a b)
def OV:List EV->Option (Prop×SV)
 |[.p (.agg [.int .i64 a_x,.int .i64 a_y]),.p (.agg [.int .i64 b_x,.int .i64 b_y])]=>some (TP (⟨a_x,a_y⟩:L.Pt) (⟨b_x,b_y⟩:L.Pt),TQ (⟨a_x,a_y⟩:L.Pt) (⟨b_x,b_y⟩:L.Pt))
 |_=>none
abbrev OW:SE.Spec:=(AI OV)
def oQ:Al:={ cC with specs:=AC [(111,J9),(122,OU)] }
theorem oR (a:L.Pt) (b:L.Pt) (hp:TP a b):vc Tryz.prog (oQ) (Ai Tryz.f104) (Au Tryz.f104 [.p (.agg [.int .i64 a.x,.int .i64 a.y]),.p (.agg [.int .i64 b.x,.int .i64 b.y])]) (AH Tryz.prog Tryz.f104 (TQ a b)):=
 @Eq.mpr _ (let I:=SV.int .i64;let A1:=[I (Bt a.x b.x),I (Bt a.y b.y)];True/\True/\((∀(i:Nat),i<nat_lit 2->Ce A1 (nat_lit 1) i = [I (Ca (Ce A1 (nat_lit 1) i))])/\nat_lit 2<=(1000000:Nat))/\G5 (fun(i:Nat)=>Ca (Ce A1 (nat_lit 1) i)) (2:Nat)=Cw a b) (by kernel_rfl) (by
 conv=>zeta
 exact⟨trivial,trivial,⟨fun i hi=>by match i,hi with|0,_=>rfl|1,_=>rfl,by decide⟩,rfl⟩)
theorem OX:Ax Tryz.prog 104 OW:=AK Tryz.func104 (c:=Ai Tryz.f104) (by kernel_rfl) mixed (fun args p r hs hp=>by
 unfold OV at hs;split at hs
 ·cases hs;exact⟨_,_,oR _ _ hp,(.same _ (.same _ .nil)),⟨show Aa Tryz.prog _ from(Aa.cons KZ La (Aa.cons Tq Ts Aa.nil)),rfl,⟨show Af Tryz.prog _ from Af.nil,(AA.none (fun _=>rfl))⟩⟩⟩
 ·cases hs)
theorem OY:As Tryz.prog 104:=fun args w=>by kernel_rfl
def TR (a:L.Pt) (b:L.Pt) (p:L.Pt):Prop:=AF a/\AF b/\AF p
def TS (a:L.Pt) (b:L.Pt) (p:L.Pt):SV:=.bool (C6 a b p)
def TT:List EV->Option (Prop×SV)
 |[.p (.agg [.int .i64 a_x,.int .i64 a_y]),.p (.agg [.int .i64 b_x,.int .i64 b_y]),.p (.agg [.int .i64 p_x,.int .i64 p_y])]=>some (TR (⟨a_x,a_y⟩:L.Pt) (⟨b_x,b_y⟩:L.Pt) (⟨p_x,p_y⟩:L.Pt),TS (⟨a_x,a_y⟩:L.Pt) (⟨b_x,b_y⟩:L.Pt) (⟨p_x,p_y⟩:L.Pt))
 |_=>none
abbrev TU:SE.Spec:=(AI TT)
def oS:Al:={ cC with specs:=AC [(103,JB),(100,MA)] }
theorem oT (a:L.Pt) (b:L.Pt) (p:L.Pt) (hp:TR a b p):vc Tryz.prog (oS) (Ai Tryz.f154) (Au Tryz.f154 [.p (.agg [.int .i64 a.x,.int .i64 a.y]),.p (.agg [.int .i64 b.x,.int .i64 b.y]),.p (.agg [.int .i64 p.x,.int .i64 p.y])]) (AH Tryz.prog Tryz.f154 (TS a b p)):=
 @Eq.mpr _ ((AF a/\AF b/\AF p)/\(decide (B9 a b p=(0:Int))=true->True)/\((bif decide (B9 a b p=(0:Int))then Ay p.x (Min.min a.x b.x) (Max.max a.x b.x)else false)=true->True)/\(bif bif decide (B9 a b p=(0:Int))then Ay p.x (Min.min a.x b.x) (Max.max a.x b.x)else false then Ay p.y (Min.min a.y b.y) (Max.max a.y b.y)else false)=C6 a b p) (by kernel_rfl) (by
 refine⟨hp,fun _=>trivial,fun _=>trivial,?_⟩;unfold C6;cases decide (B9 a b p=0)<;>cases Ay p.x (min a.x b.x) (max a.x b.x)<;>rfl)
theorem oU:Ax Tryz.prog 154 TU:=AK Tryz.func154 (c:=Ai Tryz.f154) (by kernel_rfl) mixed (fun args p r hs hp=>by
 unfold TT at hs;split at hs
 ·cases hs;exact⟨_,_,oT _ _ _ hp,(.same _ (.same _ (.same _ .nil))),⟨show Aa Tryz.prog _ from(Aa.cons Lb Lc (Aa.cons OM ON Aa.nil)),rfl,⟨show Af Tryz.prog _ from Af.nil,(AA.none (fun _=>rfl))⟩⟩⟩
 ·cases hs)
theorem oV:As Tryz.prog 154:=fun args w=>by kernel_rfl
def TV (a:L.Pt) (b:L.Pt) (c:L.Pt) (d:L.Pt):Prop:=AF a/\AF b/\AF c/\AF d
def TW (a:L.Pt) (b:L.Pt) (c:L.Pt) (d:L.Pt):SV:=.bool (G7 a b c d)
def TX:List EV->Option (Prop×SV)
 |[.p (.agg [.int .i64 a_x,.int .i64 a_y]),.p (.agg [.int .i64 b_x,.int .i64 b_y]),.p (.agg [.int .i64 c_x,.int .i64 c_y]),.p (.agg [.int .i64 d_x,.int .i64 d_y])]=>some (TV (⟨a_x,a_y⟩:L.Pt) (⟨b_x,b_y⟩:L.Pt) (⟨c_x,c_y⟩:L.Pt) (⟨d_x,d_y⟩:L.Pt),TW (⟨a_x,a_y⟩:L.Pt) (⟨b_x,b_y⟩:L.Pt) (⟨c_x,c_y⟩:L.Pt) (⟨d_x,d_y⟩:L.Pt))
 |_=>none
abbrev TY:SE.Spec:=(AI TX)
def oW:Al:={ cC with specs:=AC [(103,JB),(111,J9)] }
theorem oX (a:L.Pt) (b:L.Pt) (c:L.Pt) (d:L.Pt) (hp:TV a b c d):vc Tryz.prog (oW) (Ai Tryz.f155) (Au Tryz.f155 [.p (.agg [.int .i64 a.x,.int .i64 a.y]),.p (.agg [.int .i64 b.x,.int .i64 b.y]),.p (.agg [.int .i64 c.x,.int .i64 c.y]),.p (.agg [.int .i64 d.x,.int .i64 d.y])]) (AH Tryz.prog Tryz.f155 (TW a b c d)):=
 @Eq.mpr _ ((AF a/\AF b/\AF c)/\True/\(AF a/\AF b/\AF d)/\True/\Ad .i64 (Bt (B9 a b c) (0:Int)*Bt (B9 a b d) (0:Int))/\decide (Bt (B9 a b c) (0:Int)*Bt (B9 a b d) (0:Int)<(0:Int))=G7 a b c d) (by kernel_rfl) (by
 obtain⟨h1,h2,h3,h4⟩:=hp;have c1:=JA (B9 a b c) 0;have c2:=JA (B9 a b d) 0;have m:=Ei (m:=1) (n:=1) (by omega) c1.2 (by omega) c2.2;exact⟨⟨h1,h2,h3⟩,trivial,⟨h1,h2,h4⟩,trivial,jK,rfl⟩)
theorem oY:Ax Tryz.prog 155 TY:=AK Tryz.func155 (c:=Ai Tryz.f155) (by kernel_rfl) mixed (fun args p r hs hp=>by
 unfold TX at hs;split at hs
 ·cases hs;exact⟨_,_,oX _ _ _ _ hp,(.same _ (.same _ (.same _ (.same _ .nil)))),⟨show Aa Tryz.prog _ from(Aa.cons Lb Lc (Aa.cons KZ La Aa.nil)),rfl,⟨show Af Tryz.prog _ from Af.nil,(AA.none (fun _=>rfl))⟩⟩⟩
 ·cases hs)
theorem oZ:As Tryz.prog 155:=fun args w=>by kernel_rfl
end
section
set_option maxRecDepth 100000
set_option maxHeartbeats 4000000
set_option linter.unusedVariables false
attribute [local irreducible] vc
def Df (p q:L.Pt):Bool:=decide (p.x=q.x)&&decide (p.y=q.y)
def JD (ks:L.Sq L.Pt) (p:L.Pt):Bool:=Cb ks.n (fun i=>Df p (ks.g i))
def FC (ks:L.Sq L.Pt) (p:L.Pt):L.Sq L.Pt:=bif JD ks p then ks else⟨ks.n+1,fun i=>if i<ks.n then ks.g i else p⟩
def Hv (c:Bool) (ks:L.Sq L.Pt) (p:L.Pt):L.Sq L.Pt:=bif c then FC ks p else ks
def OZ:L.Sq L.Pt:=⟨0,fun _=>⟨0,0⟩⟩
def DH (a b:L.Pt) (i:Nat):L.Pt:=bif decide (i=0)then a else b
def DI (a b c d:L.Pt):Nat->L.Sq L.Pt
 |0=>OZ
 |n+1=>Hv (C6 c d (DH a b n)) (DI a b c d n) (DH a b n)
def Dz (a b c d:L.Pt):Nat->L.Sq L.Pt
 |0=>DI a b c d 2
 |n+1=>Hv (C6 a b (DH c d n)) (Dz a b c d n) (DH c d n)
def CN (a b c d:L.Pt):Int:=bif decide (1<((Dz a b c d 2).n:Int))then 3 else bif decide (((Dz a b c d 2).n:Int)=1)then 1 else bif (bif G7 a b c d then G7 c d a b else false)then 2 else 0
def DJ (ks:L.Sq L.Pt):Nat->List SV:=fun i=>[.int .i64 (ks.g i).x,.int .i64 (ks.g i).y]
theorem TZ {a b:L.Pt} (ha:AF a) (hb:AF b) (i:Nat):AF (DH a b i):=by
 unfold DH;cases decide (i=0)<;>assumption
theorem HO {ks:L.Sq L.Pt} {p:L.Pt} (h:∃i,i<ks.n/\(decide (p.x=(ks.g i).x)&&decide (p.y=(ks.g i).y))=true):FC ks p=ks:=by
 have:JD ks p=true:=EY.2 h;simp[FC,this]
theorem Ju {ks:L.Sq L.Pt} {p:L.Pt} (h:∀i,i<ks.n->(decide (p.x=(ks.g i).x)&&decide (p.y=(ks.g i).y))=false) :
  ks.n+1=(FC ks p).n/\∀i,i<ks.n+1->AN ks.n (DJ ks) (fun _=>[.int .i64 p.x,.int .i64 p.y]) i=DJ (FC ks p) i:=by
 have hn:JD ks p=false:=by
  cases hb:JD ks p with
  |false=>rfl
  |true =>
    obtain⟨i,hi,hq⟩:=EY.1 hb;rw[show Df p (ks.g i)=false from h i hi]at hq;cases hq
 simp only[FC,hn,cond_false,true_and];intro i hi;unfold AN DJ
 by_cases hlt:i<ks.n<;>simp[hlt]
theorem JE {ks:L.Sq L.Pt} {p:L.Pt}:(Hv false ks p=ks)/\Hv true ks p=FC ks p:=⟨rfl,rfl⟩
def Ua (a:L.Pt) (b:L.Pt) (c:L.Pt) (d:L.Pt):Prop:=AF a/\AF b/\AF c/\AF d
def Ub (a:L.Pt) (b:L.Pt) (c:L.Pt) (d:L.Pt):SV:=.int .i64 (CN a b c d)
def Uc:List EV->Option (Prop×SV)
 |[.p (.agg [.int .i64 a_x,.int .i64 a_y]),.p (.agg [.int .i64 b_x,.int .i64 b_y]),.p (.agg [.int .i64 c_x,.int .i64 c_y]),.p (.agg [.int .i64 d_x,.int .i64 d_y])]=>some (Ua (⟨a_x,a_y⟩:L.Pt) (⟨b_x,b_y⟩:L.Pt) (⟨c_x,c_y⟩:L.Pt) (⟨d_x,d_y⟩:L.Pt),Ub (⟨a_x,a_y⟩:L.Pt) (⟨b_x,b_y⟩:L.Pt) (⟨c_x,c_y⟩:L.Pt) (⟨d_x,d_y⟩:L.Pt))
 |_=>none
abbrev Ud:SE.Spec:=(AI Uc)
def pA:Al:={ cC with specs:=AC [(154,TU),(155,TY)] }
theorem pC (a:L.Pt) (b:L.Pt) (c:L.Pt) (d:L.Pt) (hp:Ua a b c d):vc Tryz.prog ({ pA with loops:=AT [(3,{ T:=Nat,keep:=[4,5,6,7,8,9,20],keepO:=[],chg:=fun i=>[(21,.p (.int .i64 (i:Int))),(19,.p (.sl 2 2 (fun i=>[.int .i64 ((DH a b i).x),.int .i64 ((DH a b i).y)])))],own:=fun i=>[(16,.mp 66 (DI a b c d i).n (DJ (DI a b c d i)))],inv:=fun i=>i<=2,mu:=fun i=>2-i }),(9,{ T:=Nat,keep:=[4,5,6,7,8,9,35],keepO:=[],chg:=fun i=>[(36,.p (.int .i64 (i:Int))),(34,.p (.sl 2 2 (fun i=>[.int .i64 ((DH c d i).x),.int .i64 ((DH c d i).y)])))],own:=fun i=>[(16,.mp 66 (Dz a b c d i).n (DJ (Dz a b c d i)))],inv:=fun i=>i<=2,mu:=fun i=>2-i })],rfs:=AP [] }) (Ai Tryz.f134) (Au Tryz.f134 [.p (.agg [.int .i64 a.x,.int .i64 a.y]),.p (.agg [.int .i64 b.x,.int .i64 b.y]),.p (.agg [.int .i64 c.x,.int .i64 c.y]),.p (.agg [.int .i64 d.x,.int .i64 d.y])]) (AH Tryz.prog Tryz.f134 (Ub a b c d)):=
 @Eq.mpr _ (let I:=SV.int .i64;let T:=Aee;let A24:=(1:Nat);let A20:=(bif G7 a b c d then G7 c d a b else false);let A15:=(1:Int);let A14:=(0:Int);let A13:=[I a.x,I a.y];let A12:=[I b.x,I b.y];let A11:=[I c.x,I c.y];let A10:=[I d.x,I d.y];let A9:=(2:Nat);let A8:=(nat_lit 2=A9/\∀(i:Nat),let A21:=[I (DH c d i).x,I (DH c d i).y];i<nat_lit 2->A21=A21);let A7:=(nat_lit 2=A9/\∀(i:Nat),let A22:=[I (DH a b i).x,I (DH a b i).y];i<nat_lit 2->A22=A22);let A5:=(↑(nat_lit 2):Int);let A1:=(nat_lit 0);(∃(g:Nat),A14=(↑g:Int)/\(nat_lit 2=A9/\∀(i:Nat),i<nat_lit 2->Ce [I a.x,I a.y,I b.x,I b.y] (nat_lit 2) i = [I (DH a b i).x,I (DH a b i).y])/\(nat_lit 0=(DI a b c d g).n/\∀(i:Nat),i<nat_lit 0 -> []=DJ (DI a b c d g) i)/\g<=A9)/\∀(g:Nat),let A19:=(↑g:Int);let A6:=(DH a b (T A19));let A4:=(DI a b c d g);g<=A9->(decide (A19<A5)=true->(A14<=A19/\A19<A5)/\(AF c/\AF d/\AF A6)/\(C6 c d A6=true->(∀(i:Nat),let A17:=(decide (A6.x=(A4.g i).x)&&decide (A6.y=(A4.g i).y));i<A4.n->A17=A17)/\((∃(i:Nat),i<A4.n/\(decide (A6.x=(A4.g i).x)&&decide (A6.y=(A4.g i).y))=true)->Ad .i64 (A19+A15)/\∃(g':Nat),A19+A15=(↑g':Int)/\A7/\A5=A5/\A14=A14/\SV.ref A10 A1=SV.ref A10 A1/\SV.ref A11 A1=SV.ref A11 A1/\SV.ref A12 A1=SV.ref A12 A1/\SV.ref A13 A1=SV.ref A13 A1/\(A4.n=(DI a b c d g').n/\∀(i:Nat),i<A4.n->DJ A4 i=DJ (DI a b c d g') i)/\g'<=A9/\A9-g'<A9-g)/\((∀(i:Nat),i<A4.n->(decide (A6.x=(A4.g i).x)&&decide (A6.y=(A4.g i).y))=false)->Ad .i64 (A19+A15)/\∃(g':Nat),A19+A15=(↑g':Int)/\A7/\A5=A5/\A14=A14/\SV.ref A10 A1=SV.ref A10 A1/\SV.ref A11 A1=SV.ref A11 A1/\SV.ref A12 A1=SV.ref A12 A1/\SV.ref A13 A1=SV.ref A13 A1/\(A4.n+A24=(DI a b c d g').n/\∀(i:Nat),i<A4.n+A24->AN A4.n (DJ A4) (fun(x:Nat)=>[I A6.x,I A6.y]) i=DJ (DI a b c d g') i)/\g'<=A9/\A9-g'<A9-g))/\(C6 c d A6=false->Ad .i64 (A19+A15)/\∃(g':Nat),A19+A15=(↑g':Int)/\A7/\A5=A5/\A14=A14/\SV.ref A10 A1=SV.ref A10 A1/\SV.ref A11 A1=SV.ref A11 A1/\SV.ref A12 A1=SV.ref A12 A1/\SV.ref A13 A1=SV.ref A13 A1/\(A4.n=(DI a b c d g').n/\∀(i:Nat),i<A4.n->DJ A4 i=DJ (DI a b c d g') i)/\g'<=A9/\A9-g'<A9-g))/\(decide (A19<A5)=false->(∃(g_1:Nat),A14=(↑g_1:Int)/\(nat_lit 2=A9/\∀(i:Nat),i<nat_lit 2->Ce [I c.x,I c.y,I d.x,I d.y] (nat_lit 2) i = [I (DH c d i).x,I (DH c d i).y])/\(A4.n=(Dz a b c d g_1).n/\∀(i:Nat),i<A4.n->DJ A4 i=DJ (Dz a b c d g_1) i)/\g_1<=A9)/\∀(g_1:Nat),let A16:=(↑g_1:Int);let A3:=(DH c d (T A16));let A2:=(Dz a b c d g_1);let A23:=(↑A2.n:Int);g_1<=A9->(decide (A16<A5)=true->(A14<=A16/\A16<A5)/\(AF a/\AF b/\AF A3)/\(C6 a b A3=true->(∀(i:Nat),let A18:=(decide (A3.x=(A2.g i).x)&&decide (A3.y=(A2.g i).y));i<A2.n->A18=A18)/\((∃(i:Nat),i<A2.n/\(decide (A3.x=(A2.g i).x)&&decide (A3.y=(A2.g i).y))=true)->Ad .i64 (A16+A15)/\∃(g':Nat),A16+A15=(↑g':Int)/\A8/\A5=A5/\A14=A14/\SV.ref A10 A1=SV.ref A10 A1/\SV.ref A11 A1=SV.ref A11 A1/\SV.ref A12 A1=SV.ref A12 A1/\SV.ref A13 A1=SV.ref A13 A1/\(A2.n=(Dz a b c d g').n/\∀(i:Nat),i<A2.n->DJ A2 i=DJ (Dz a b c d g') i)/\g'<=A9/\A9-g'<A9-g_1)/\((∀(i:Nat),i<A2.n->(decide (A3.x=(A2.g i).x)&&decide (A3.y=(A2.g i).y))=false)->Ad .i64 (A16+A15)/\∃(g':Nat),A16+A15=(↑g':Int)/\A8/\A5=A5/\A14=A14/\SV.ref A10 A1=SV.ref A10 A1/\SV.ref A11 A1=SV.ref A11 A1/\SV.ref A12 A1=SV.ref A12 A1/\SV.ref A13 A1=SV.ref A13 A1/\(A2.n+A24=(Dz a b c d g').n/\∀(i:Nat),i<A2.n+A24->AN A2.n (DJ A2) (fun(x:Nat)=>[I A3.x,I A3.y]) i=DJ (Dz a b c d g') i)/\g'<=A9/\A9-g'<A9-g_1))/\(C6 a b A3=false->Ad .i64 (A16+A15)/\∃(g':Nat),A16+A15=(↑g':Int)/\A8/\A5=A5/\A14=A14/\SV.ref A10 A1=SV.ref A10 A1/\SV.ref A11 A1=SV.ref A11 A1/\SV.ref A12 A1=SV.ref A12 A1/\SV.ref A13 A1=SV.ref A13 A1/\(A2.n=(Dz a b c d g').n/\∀(i:Nat),i<A2.n->DJ A2 i=DJ (Dz a b c d g') i)/\g'<=A9/\A9-g'<A9-g_1))/\(decide (A16<A5)=false->(decide (A15<A23)=true->(3:Int)=CN a b c d)/\(decide (A15<A23)=false->(decide (A23=A15)=true->A15=CN a b c d)/\(decide (A23=A15)=false->(AF a/\AF b/\AF c/\AF d)/\(G7 a b c d=true->AF c/\AF d/\AF a/\AF b)/\(A20=true->(2:Int)=CN a b c d)/\(A20=false->A14=CN a b c d)))))) (by kernel_rfl) (by
 conv=>zeta
 obtain⟨ha,hb,hc,hd⟩:=hp;refine⟨⟨(0:Nat),rfl,⟨rfl,fun i hi=>by match i,hi with|0,_=>rfl|1,_=>rfl⟩,⟨rfl,fun i hi=>absurd hi (nT _)⟩,by decide⟩,fun g hg=>⟨fun hlt=>?_,fun hge=>?_⟩⟩
 ·have hb1:(g:Int)<2:=by simpa using hlt
  have e0:((g:Int)).toNat=g:=by omega
  rw[e0];refine⟨⟨by omega,hb1⟩,⟨hc,hd,TZ ha hb g⟩,fun hon=>⟨fun _ _=>rfl,fun hex=>⟨jK,g+1,by omega,⟨rfl,fun _ _=>rfl⟩,rfl,rfl,rfl,rfl,rfl,rfl,?_,by omega,by omega⟩,fun hnx=>⟨jK,g+1,by omega,⟨rfl,fun _ _=>rfl⟩,rfl,rfl,rfl,rfl,rfl,rfl,?_,by omega,by omega⟩⟩,fun hon=>⟨jK,g+1,by omega,⟨rfl,fun _ _=>rfl⟩,rfl,rfl,rfl,rfl,rfl,rfl,?_,by omega,by omega⟩⟩
  ·rw[show DI a b c d (g+1)=DI a b c d g by rw[DI,hon,JE.2,HO hex]];exact⟨rfl,fun _ _=>rfl⟩
  ·rw[DI,hon,JE.2];exact Ju hnx
  ·rw[show DI a b c d (g+1)=DI a b c d g by rw[DI,hon,JE.1]];exact⟨rfl,fun _ _=>rfl⟩
 ·have hb1:¬ (g:Int)<2:=by simpa using hge
  obtain rfl:g=2:=by omega
  refine⟨⟨(0:Nat),rfl,⟨rfl,fun i hi=>by match i,hi with|0,_=>rfl|1,_=>rfl⟩,⟨rfl,fun i hi=>rfl⟩,by decide⟩,fun g hg=>⟨fun hlt=>?_,fun hge=>?_⟩⟩
  ·have hb1:(g:Int)<2:=by simpa using hlt
   have e0:((g:Int)).toNat=g:=by omega
   rw[e0];refine⟨⟨by omega,hb1⟩,⟨ha,hb,TZ hc hd g⟩,fun hon=>⟨fun _ _=>rfl,fun hex=>⟨jK,g+1,by omega,⟨rfl,fun _ _=>rfl⟩,rfl,rfl,rfl,rfl,rfl,rfl,?_,by omega,by omega⟩,fun hnx=>⟨jK,g+1,by omega,⟨rfl,fun _ _=>rfl⟩,rfl,rfl,rfl,rfl,rfl,rfl,?_,by omega,by omega⟩⟩,fun hon=>⟨jK,g+1,by omega,⟨rfl,fun _ _=>rfl⟩,rfl,rfl,rfl,rfl,rfl,rfl,?_,by omega,by omega⟩⟩
   ·rw[show Dz a b c d (g+1)=Dz a b c d g by rw[Dz,hon,JE.2,HO hex]];exact⟨rfl,fun _ _=>rfl⟩
   ·rw[Dz,hon,JE.2];exact Ju hnx
   ·rw[show Dz a b c d (g+1)=Dz a b c d g by rw[Dz,hon,JE.1]];exact⟨rfl,fun _ _=>rfl⟩
  ·have hb1:¬ (g:Int)<2:=by simpa using hge
   obtain rfl:g=2:=by omega
   unfold CN;refine⟨fun h=>by rw[h];rfl,fun h=>⟨fun h'=>by rw[h,h'];rfl,fun h'=>⟨⟨ha,hb,hc,hd⟩,fun _=>⟨hc,hd,ha,hb⟩,fun q=>by rw[h,h',q];rfl,fun q=>by rw[h,h',q];rfl⟩⟩⟩)
theorem pD:Ax Tryz.prog 134 Ud:=AK Tryz.func134 (c:=Ai Tryz.f134) (by kernel_rfl) mixed (fun args p r hs hp=>by
 unfold Uc at hs;split at hs
 ·cases hs;exact⟨_,_,pC _ _ _ _ hp,(.same _ (.same _ (.same _ (.same _ .nil)))),⟨show Aa Tryz.prog _ from(Aa.cons oU oV (Aa.cons oY oZ Aa.nil)),rfl,⟨show Af Tryz.prog _ from Af.nil,(AA.none (fun _=>rfl))⟩⟩⟩
 ·cases hs)
theorem pE:As Tryz.prog 134:=fun args w=>by kernel_rfl
end
section
set_option maxRecDepth 100000
set_option maxHeartbeats 4000000
set_option linter.unusedVariables false
attribute [local irreducible] vc
def Pa (l:L.Sq L.Pt) (i k:Nat):Bool:=bif decide ((k:Int)=(i:Int)+1)then true else bif decide ((i:Int)=0)then decide ((k:Int)=(l.n:Int)-1)else false
def MH (l:L.Sq L.Pt) (i k:Nat):Int:=CN (l.g i) (l.g (i+1)) (l.g k) (l.g (Cf l.n k))
def Cc (l:L.Sq L.Pt) (i k:Nat):Bool:=bif Pa l i k then decide (MH l i k=1)else decide (MH l i k=0)
def DW (l:L.Sq L.Pt):Bool:=CX l.n (fun i=>CX l.n (fun k=>!decide (i<k)||Cc l i k))
def HY (l:L.Sq L.Pt):Prop:=l.n<=1000/\∀i,i<l.n->AF (l.g i)
def Ue (l:(L.Sq L.Pt)):Prop:=HY l
def Uf (l:(L.Sq L.Pt)):SV:=.bool (DW l)
def Ug:List EV->Option (Prop×SV)
 |[.p (.sl 2 l_n l_g)]=>some ((∀i,i<l_n->l_g i = [.int .i64 ((Ar (l_g i)).x),.int .i64 ((Ar (l_g i)).y)])/\Ue (⟨l_n,fun i=>Ar (l_g i)⟩:(L.Sq L.Pt)),Uf (⟨l_n,fun i=>Ar (l_g i)⟩:(L.Sq L.Pt)))
 |_=>none
abbrev Uh:SE.Spec:=(AI Ug)
def pF:Al:={ cC with specs:=AC [(134,Ud)] }
theorem pG (l:(L.Sq L.Pt)) (hp:Ue l):vc Tryz.prog ({ pF with loops:=AT [(3,{ T:=Nat,keep:=[0,3,11],keepO:=[],chg:=fun i=>[(12,.p (.int .i64 (i:Int)))],own:=fun _=>[],inv:=fun i=>i<=l.n/\∀j,j<i->∀k,j<k->k<l.n->Cc l j k=true,mu:=fun i=>l.n-i }),(6,{ T:=Nat×Nat,keep:=[0,3,4,11,12],keepO:=[],tie:=fun i=>[(4,.int .i64 (i.1:Int)),(12,.int .i64 (i.1:Int))],chg:=fun i=>[(5,.p (.int .i64 (i.2:Int)))],own:=fun _=>[],inv:=fun i=>i.1<i.2/\i.2<=l.n/\(∀j,j<i.1->∀k,j<k->k<l.n->Cc l j k=true)/\∀k,i.1<k->k<i.2->Cc l i.1 k=true,mu:=fun i=>l.n-i.2 })],rfs:=AP [] }) (Ai Tryz.f105) (Au Tryz.f105 [.p (.sl 2 l.n (fun i=>[.int .i64 ((l.g i).x),.int .i64 ((l.g i).y)]))]) (AH Tryz.prog Tryz.f105 (Uf l)):=
 @Eq.mpr _ (let I:=SV.int .i64;let T:=Aee;let M:=Aes;let A7:=(0:Int);let A6:=(l.n=l.n/\∀(i:Nat),let A11:=[I (l.g i).x,I (l.g i).y];i<l.n->A11=A11);let A5:=(1:Int);let A3:=(↑l.n:Int);(∃(g:Nat),A7=(↑g:Int)/\g<=l.n/\∀(j:Nat),j<g->∀(k:Nat),j<k->k<l.n->Cc l j k=true)/\∀(g:Nat),let A2:=(↑g:Int);let A12:=(l.g (T A2));let A9:=(A2+A5);let A13:=(l.g (T A9));(g<=l.n/\∀(j:Nat),j<g->∀(k:Nat),j<k->k<l.n->Cc l j k=true)->(decide (A2<A3)=true->Ad .i64 A9/\(∃(g_1:Nat×Nat),A2+A5=(↑g_1.2:Int)/\A2=(↑g_1.1:Int)/\A2=(↑g_1.1:Int)/\g_1.1<g_1.2/\g_1.2<=l.n/\(∀(j:Nat),j<g_1.1->∀(k:Nat),j<k->k<l.n->Cc l j k=true)/\∀(k:Nat),g_1.1<k->k<g_1.2->Cc l g_1.1 k=true)/\∀(g_1:Nat×Nat),let A4:=(↑g_1.2:Int);let A14:=(l.g (T A4));let A10:=(A4+A5);let A8:=(l.g (T (M A10 A3)));let A1:=(bif bif bif decide (A4=A2+A5)then true else bif decide (A2=A7)then decide (A4=A3-A5)else false then !decide (CN A12 A13 A14 A8=A5)else false then true else bif !bif decide (A4=A2+A5)then true else bif decide (A2=A7)then decide (A4=A3-A5)else false then !decide (CN A12 A13 A14 A8=A7)else false);(A2=(↑g_1.1:Int)/\A2=(↑g_1.1:Int)/\g_1.1<g_1.2/\g_1.2<=l.n/\(∀(j:Nat),j<g_1.1->∀(k:Nat),j<k->k<l.n->Cc l j k=true)/\∀(k:Nat),g_1.1<k->k<g_1.2->Cc l g_1.1 k=true)->(decide (A4<A3)=true->(A7<=A2/\A2<A3)/\Ad .i64 A9/\(A7<=A2+A5/\A2+A5<A3)/\(A7<=A4/\A4<A3)/\Ad .i64 A10/\A3≠A7/\(A7<=M A10 A3/\M A10 A3<A3)/\(AF A12/\AF A13/\AF A14/\AF A8)/\Ad .i64 A9/\((!decide (A4=A2+A5)&&decide (A2=A7))=true->Ad .i64 (A3-A5))/\(A1=true->false=DW l)/\(A1=false->Ad .i64 A10/\∃(g':Nat×Nat),A4+A5=(↑g'.2:Int)/\A2=A2/\A2=A2/\A3=A3/\A3=A3/\A6/\(A2=(↑g'.1:Int)/\A2=(↑g'.1:Int)/\g'.1<g'.2/\g'.2<=l.n/\(∀(j:Nat),j<g'.1->∀(k:Nat),j<k->k<l.n->Cc l j k=true)/\∀(k:Nat),g'.1<k->k<g'.2->Cc l g'.1 k=true)/\l.n-g'.2<l.n-g_1.2))/\(decide (A4<A3)=false->Ad .i64 A9/\∃(g':Nat),A2+A5=(↑g':Int)/\A3=A3/\A3=A3/\A6/\(g'<=l.n/\∀(j:Nat),j<g'->∀(k:Nat),j<k->k<l.n->Cc l j k=true)/\l.n-g'<l.n-g))/\(decide (A2<A3)=false->true=DW l)) (by kernel_rfl) (by
 conv=>zeta
 obtain⟨hn,hb⟩:=hp;have fin0:∀{i k:Nat},i<k->k<l.n->Cc l i k=false->false=DW l:=fun {i k} hik hk h=>by
  unfold DW;rw[GX (i:=i) (by omega) (GX (i:=k) hk (by simp[hik,h]))]
 refine⟨⟨(0:Nat),rfl,AdL _,fun j hj=>absurd hj (nT _)⟩,fun g hg=>⟨fun hlt=>?_,fun hge=>?_⟩⟩
 ·have hb1:(g:Int)<(l.n:Int):=by simpa using hlt
  refine⟨jK,⟨(g,g+1),by simp,rfl,rfl,by simp,by simp;omega,hg.2,fun k h1 h2=>by simp at h1 h2;omega⟩,?_⟩;rintro⟨i,k⟩ ⟨e1,e2,hik,hkn,h0,h1⟩;simp only at e1 e2 hik hkn h0 h1;obtain rfl:i=g:=by omega
  refine⟨fun hlt2=>?_,fun hge2=>?_⟩
  ·have hk:(k:Int)<(l.n:Int):=by simpa using hlt2
   have t3:=AeU (l.n:Int) (show 0<=(k:Int)+1 by omega);have t4:=AeD ((k:Int)+1) (show 0<(l.n:Int)by omega);have c1:((i:Int)).toNat=i:=by omega
   have c2:((i:Int)+1).toNat=i+1:=by omega
   have c3:((k:Int)).toNat=k:=by omega
   have c4:(Aes ((k:Int)+1) (l.n:Int)).toNat=Cf l.n k:=rfl;have c5:Cf l.n k<l.n:=IF (by omega);dsimp only;rw[c1,c2,c3,c4];have key:(bif (bif (bif decide ((k:Int)=(i:Int)+1)then true else bif decide ((i:Int)=0)then decide ((k:Int)=(l.n:Int)-1)else false)then !decide (CN (l.g i) (l.g (i+1)) (l.g k) (l.g (Cf l.n k))=1)else false)then true else bif !(bif decide ((k:Int)=(i:Int)+1)then true else bif decide ((i:Int)=0)then decide ((k:Int)=(l.n:Int)-1)else false)then !decide (CN (l.g i) (l.g (i+1)) (l.g k) (l.g (Cf l.n k))=0)else false)= !Cc l i k:=by
    unfold Cc Pa MH;generalize (bif decide ((k:Int)=(i:Int)+1)then true else bif decide ((i:Int)=0)then decide ((k:Int)=(l.n:Int)-1)else false)=q;generalize decide (CN (l.g i) (l.g (i+1)) (l.g k) (l.g (Cf l.n k))=1)=q1;generalize decide (CN (l.g i) (l.g (i+1)) (l.g k) (l.g (Cf l.n k))=0)=q2;cases q<;>cases q1<;>cases q2<;>rfl
   rw[key];refine⟨by omega,jK,by omega,by omega,jK,by omega,⟨t3,t4⟩,⟨hb i (by omega),hb (i+1) (by omega),hb k (by omega),hb _ c5⟩,jK,fun _=>jK,fun h=>fin0 hik (by omega) (by simpa using h),fun h=>?_⟩;have hok:Cc l i k=true:=by simpa using h
   refine⟨jK,(i,k+1),by simp,rfl,rfl,rfl,rfl,⟨rfl,fun _ _=>rfl⟩,⟨rfl,rfl,by simp;omega,by simp;omega,h0,fun m hm1 hm2=>?_⟩,by simp;omega⟩;dsimp only at hm1 hm2 ⊢;rcases AdZ.1 hm2 with h'|rfl
   ·exact h1 m hm1 h'
   ·exact hok
  ·have hk:¬ (k:Int)<(l.n:Int):=by simpa using hge2
   refine⟨jK,i+1,by omega,rfl,rfl,⟨rfl,fun _ _=>rfl⟩,⟨by omega,fun j hj m hm1 hm2=>?_⟩,by omega⟩;rcases AdZ.1 hj with h'|rfl
   ·exact h0 j h' m hm1 hm2
   ·exact h1 m hm1 (by omega)
 ·have hb1:¬ (g:Int)<(l.n:Int):=by simpa using hge
  unfold DW;rw[Dk.2 (fun i hi=>Dk.2 (fun k hk=>?_))]
  by_cases hik:i<k
  ·simp[hik,hg.2 i (by omega) k hik hk]
  ·simp[hik])
theorem pH:Ax Tryz.prog 105 Uh:=AK Tryz.func105 (c:=Ai Tryz.f105) (by kernel_rfl) mixed (fun args p r hs hp=>by
 unfold Ug at hs;split at hs
 ·cases hs;exact⟨_,_,pG _ hp.2,(.p (.sl hp.1) .nil),⟨show Aa Tryz.prog _ from(Aa.cons pD pE Aa.nil),rfl,⟨show Af Tryz.prog _ from Af.nil,(AA.none (fun _=>rfl))⟩⟩⟩
 ·cases hs)
theorem pI:As Tryz.prog 105:=fun args w=>by kernel_rfl
end
section
set_option maxRecDepth 100000
set_option maxHeartbeats 4000000
set_option linter.unusedVariables false
attribute [local irreducible] vc
def Ej (l:L.Sq L.Pt) (k:Nat):Bool:=!(bif decide (B9 (l.g (Gf l.n k)) (l.g k) (l.g (Cf l.n k))=0)then true else bif decide (0<(k:Int))then decide (0<=Cw (l.g 0) (l.g k))else false)
def E4 (l:L.Sq L.Pt):Bool:=CX l.n (fun i=>Cs (l.g i))
def Gg (l:L.Sq L.Pt):Bool:=bif (bif !Ay (l.n:Int) 3 24 then true else !E4 l)then false else decide (0<B4 l l.n)
def AB (l:L.Sq L.Pt):Bool:=Gg l&&(CX l.n (Ej l)&&DW l)
def FD (l:L.Sq L.Pt) (k:Nat):Int:=Bt (B9 (l.g (Gf l.n k)) (l.g k) (l.g (Cf l.n k))) 0
theorem Pb {n k:Nat} (h:0<n):Gf n k<n:=by
 have t3:=AeU (n:Int) (show 0<=(k:Int)+(n:Int)-1 by omega);have t4:=AeD ((k:Int)+(n:Int)-1) (show 0<(n:Int)by omega);unfold Gf;omega
theorem IH {n a b:Int}:Ay n a b=true↔a<=n/\n<=b:=by simp[Ay]
theorem Pc {l:L.Sq L.Pt} (h:Ay (l.n:Int) 3 24=true) (h':E4 l=true):3<=l.n/\l.n<=24/\E3 l/\HY l:=by
 obtain⟨h1,h2⟩:=IH.1 h;have hb:∀i,i<l.n->AF (l.g i):=fun i hi=>nX (Dk.1 h' i hi);exact⟨by omega,by omega,⟨by omega,hb⟩,⟨by omega,hb⟩⟩
theorem pJ (l:L.Sq L.Pt):(bif (bif !Ay (l.n:Int) 3 24 then true else !(CX l.n fun i=>Cs (l.g i)))then true else decide (B4 l l.n<=0))= !Gg l:=by
 unfold Gg E4;have:decide (0<B4 l l.n)= !decide (B4 l l.n<=0):=by
  by_cases h:B4 l l.n<=0<;>simp[h]<;>omega
 rw[this];generalize decide (B4 l l.n<=0)=q;cases Ay (l.n:Int) 3 24<;>cases(CX l.n fun i=>Cs (l.g i))<;>cases q<;>rfl
theorem Ui {l:L.Sq L.Pt} (h:Gg l=true):3<=l.n/\l.n<=24/\E3 l/\HY l:=by
 unfold Gg at h;cases h1:Ay (l.n:Int) 3 24 with
 |false=>simp[h1]at h
 |true=>cases h2:E4 l with
   |false=>simp[h1,h2]at h
   |true=>exact Pc h1 h2
theorem Fr {l:L.Sq L.Pt} (h:AB l=true):3<=l.n/\l.n<=24/\E3 l/\HY l:=Ui (Bool.and_eq_true_iff.1 h).1
theorem Cx {b:Bool} (h:(!b)=true):b=false:=by cases b with|false=>rfl|true=>cases h
theorem BW {b:Bool} (h:(!b)=false):b=true:=by cases b with|true=>rfl|false=>cases h
theorem pK {n:Nat} {f g:Nat->Bool} (h:∀i,i<n->f i=g i):Cb n f=Cb n g:=by
 rw[Bool.eq_iff_iff,EY,EY];exact⟨fun⟨i,hi,e⟩=>⟨i,hi,by rw[<- h i hi];exact e⟩,fun⟨i,hi,e⟩=>⟨i,hi,by rw[h i hi];exact e⟩⟩
def Uj (l:(L.Sq L.Pt)):Prop:=l.n<=1000000
def Uk (l:(L.Sq L.Pt)):SV:=.bool (AB l)
def Ul:List EV->Option (Prop×SV)
 |[.p (.sl 2 l_n l_g)]=>some ((∀i,i<l_n->l_g i = [.int .i64 ((Ar (l_g i)).x),.int .i64 ((Ar (l_g i)).y)])/\Uj (⟨l_n,fun i=>Ar (l_g i)⟩:(L.Sq L.Pt)),Uk (⟨l_n,fun i=>Ar (l_g i)⟩:(L.Sq L.Pt)))
 |_=>none
abbrev JF:SE.Spec:=(AI Ul)
def pL:Al:={ cC with specs:=AC [(100,MA),(101,TO),(95,MG),(102,KX),(103,JB),(104,OW),(105,Uh)],iters:=B3 [(133,KW)] }
theorem pM (l:(L.Sq L.Pt)) (hp:Uj l):vc Tryz.prog ({ pL with loops:=AT [],rfs:=AP [(4,{ T:=Nat,keep:=[1,2],keepO:=[2],own:=fun k _=>[],inv:=fun k _=>∀j,j<k->Ej l j=true })] }) (Ai Tryz.f64) (Au Tryz.f64 [.p (.sl 2 l.n (fun i=>[.int .i64 ((l.g i).x),.int .i64 ((l.g i).y)]))]) (AH Tryz.prog Tryz.f64 (Uk l)):=
 @Eq.mpr _ (let I:=SV.int .i64;let T:=Aee;let M:=Aes;let A17:=(nat_lit 1);let A16:=(nat_lit 0);let A14:=(1:Int);let A13:=(nat_lit 2);let A12:=(↑(3:Nat):Int);let A10:=(↑l.n:Int);let A9:=(L.Sq.mk l.n fun(i:Nat)=>l.g i);let A8:=(0:Int);let A5:=[SV.sl A13 l.n fun(i:Nat)=>[I (l.g i).x,I (l.g i).y]];let A4:=(bif bif !Ay A10 (3:Int) (24:Int)then true else !CX l.n fun(i:Nat)=>Cs (l.g i)then true else decide (B4 (L.Sq.mk l.n fun(i:Nat)=>l.g i) l.n<=A8));let A3:=(∀(i:Nat),let A18:=[I (l.g i).x,I (l.g i).y];i<l.n->A18=A18);let A19:=(A3/\l.n<=(1000:Nat));True/\((!!Ay A10 (3:Int) (24:Int))=true->A3/\l.n<=(1000000:Nat))/\((!bif !Ay A10 (3:Int) (24:Int)then true else !CX l.n fun(i:Nat)=>Cs (l.g i))=true->A3/\E3 A9)/\(A4=true->false=AB l)/\(A4=false->A19/\(A19/\∃(t:Nat),false=false/\∀(j:Nat),j<(0:Nat)->Ej l j=true)/\(∀(k t:Nat) (vk:Nat->Go.Value),let A15:=(↑k:Int);let A11:=(l.g (T A15));let A7:=(l.g (T (M (A15+A14) A10)));let A6:=(l.g (T (M (A15+A10-A14) A10)));let A2:=(bif decide (B9 A6 A11 A7=A8)then true else bif decide (A8<A15)then decide (A8<=Cw (l.g (T A8)) A11)else false);let A1:=(!decide (B9 A6 A11 A7=A8)&&decide (A8<A15));k<l.n->(∀(j:Nat),j<k->Ej l j=true)->(A8<=A8/\A8<A12)/\(A8<=A14/\A14<A12)/\(A8<=(2:Int)/\(2:Int)<A12)/\(AF A6/\AF A11/\AF A7)/\(A1=true->A8<=A8/\A8<A10)/\(A1=true->A8<=A14/\A14<A12)/\(A1=true->True)/\(A2=true->nat_lit 0=nat_lit 0/\SV.ref A5 A16=SV.ref A5 A16/\vk A13=vk A13/\vk A17=vk A17/\false=AB l)/\(A2=false->∃(t':Nat),nat_lit 0=nat_lit 0/\SV.ref A5 A16=SV.ref A5 A16/\vk A13=vk A13/\vk A17=vk A17/\false=false/\∀(j:Nat),j<k+(1:Nat)->Ej l j=true))/\∀(t:Nat),(∀(j:Nat),j<l.n->Ej l j=true)->(A3/\HY A9)/\DW A9=AB l)) (by kernel_rfl) (by
 conv=>zeta
 have hn:l.n<=1000000:=hp;have e3:=pJ l;refine⟨trivial,fun _=>⟨fun _ _=>rfl,hn⟩,fun h=>⟨fun _ _=>rfl,?_⟩,fun h=>?_,fun h=>?_⟩
 ·cases h1:Ay (l.n:Int) 3 24 with
  |false=>simp[h1]at h
  |true=>cases h2:E4 l with
    |false=>rw[h1]at h;rw[show(CX l.n fun i=>Cs (l.g i))=false from h2]at h;simp at h
    |true=>exact(Pc h1 h2).2.2.1
 ·have h:=e3.symm.trans h;have:Gg l=false:=by simpa using h
  unfold AB;rw[this];rfl
 ·have h:=e3.symm.trans h;have hv:Gg l=true:=by simpa using h
  obtain⟨n3,n24,hsm,hbd⟩:=Ui hv;refine⟨⟨fun _ _=>rfl,by omega⟩,⟨⟨fun _ _=>rfl,by omega⟩,(0:Nat),rfl,fun j hj=>absurd hj (nT _)⟩,fun k t vk hk hi=>?_,fun t hi=>?_⟩
  ·have c1:(Aes ((k:Int)+(l.n:Int)-1) (l.n:Int)).toNat=Gf l.n k:=rfl;have c2:((k:Int)).toNat=k:=by omega
   have c3:(Aes ((k:Int)+1) (l.n:Int)).toNat=Cf l.n k:=rfl;rw[c1,c2,c3];have key:(bif decide (B9 (l.g (Gf l.n k)) (l.g k) (l.g (Cf l.n k))=0)then true else bif decide (0<(k:Int))then decide (0<=Cw (l.g (Aee 0)) (l.g k))else false)= !Ej l k:=by
    unfold Ej;rw[Bool.not_not];rfl
   rw[key];refine⟨by omega,by omega,by omega,⟨hbd.2 _ (Pb (by omega)),hbd.2 _ hk,hbd.2 _ (IF (by omega))⟩,fun _=>by omega,fun _=>by omega,fun _=>trivial,fun h=>⟨rfl,rfl,rfl,rfl,?_⟩,fun h=>⟨t,rfl,rfl,rfl,rfl,rfl,fun j hj=>?_⟩⟩
   ·have:Ej l k=false:=by simpa using h
    unfold AB;rw[GX hk this];simp
   ·rcases AdZ.1 hj with h'|rfl
    ·exact hi j h'
    ·simpa using h
  ·refine⟨⟨fun _ _=>rfl,hbd⟩,?_⟩;unfold AB;rw[hv,Dk.2 hi];rfl)
theorem Ld:Ax Tryz.prog 64 JF:=AK Tryz.func64 (c:=Ai Tryz.f64) (by kernel_rfl) mixed (fun args p r hs hp=>by
 unfold Ul at hs;split at hs
 ·cases hs;exact⟨_,_,pM _ hp.2,(.p (.sl hp.1) .nil),⟨show Aa Tryz.prog _ from(Aa.cons OM ON (Aa.cons oO oP (Aa.cons OQ OR (Aa.cons ME MF (Aa.cons Lb Lc (Aa.cons OX OY (Aa.cons pH pI Aa.nil))))))),rfl,⟨show Af Tryz.prog _ from(Af.cons MC MD Af.nil),(AA.none (fun _=>rfl))⟩⟩⟩
 ·cases hs)
theorem Le:As Tryz.prog 64:=fun args w=>by kernel_rfl
def Um (l:(L.Sq L.Pt)):Prop:=l.n<=1000000
def Un (l:(L.Sq L.Pt)):SV:=.tup [.sl 1 (bif AB l then l.n else 0) (fun k=>[.int .i64 (FD l k)]),.int .i64 (bif AB l then 0 else 1)]
def Uo:List EV->Option (Prop×SV)
 |[.p (.sl 2 l_n l_g)]=>some ((∀i,i<l_n->l_g i = [.int .i64 ((Ar (l_g i)).x),.int .i64 ((Ar (l_g i)).y)])/\Um (⟨l_n,fun i=>Ar (l_g i)⟩:(L.Sq L.Pt)),Un (⟨l_n,fun i=>Ar (l_g i)⟩:(L.Sq L.Pt)))
 |_=>none
abbrev Up:SE.Spec:=(AI Uo)
def pN:Al:={ cC with specs:=AC [(64,JF),(102,KX),(103,JB),(111,J9)],iters:=B3 [(133,KW)] }
theorem pO (l:(L.Sq L.Pt)) (hp:Um l):vc Tryz.prog ({ pN with loops:=AT [],rfs:=AP [(5,{ T:=Nat,keep:=[0,2,3,4],keepO:=[],own:=fun k _=>[(4,.blk 42 [.row 12]),(12,.row 3 1 l.n (fun i=>[.int .i64 (bif decide (i<k)then FD l i else 0)]))],inv:=fun k _=>True })] }) (Ai Tryz.f144) (Au Tryz.f144 [.p (.sl 2 l.n (fun i=>[.int .i64 ((l.g i).x),.int .i64 ((l.g i).y)]))]) (AH Tryz.prog Tryz.f144 (Un l)):=
 @Eq.mpr _ (let I:=SV.int .i64;let T:=Aee;let A9:=(↑(3:Nat):Int);let A7:=(0:Nat);let A6:=(1:Int);let A5:=(!AB (L.Sq.mk l.n fun(i:Nat)=>l.g i));let A3:=(0:Int);let A2:=(↑l.n:Int);let A1:=(∀(i:Nat),let A11:=[I (l.g i).x,I (l.g i).y];i<l.n->A11=A11);let A13:=(A1/\l.n<=(1000:Nat));(A1/\l.n<=(1000000:Nat))/\(A5=true->(bif AB l then l.n else A7)=A7/\A6=bif AB l then A3 else A6)/\(A5=false->(A3<=A2/\A2<=A2/\A2*(↑(nat_lit 8):Int)<=(140737488355328:Int))/\A13/\(A13/\∃(t:Nat),(T A2=l.n/\∀(i:Nat),i<T A2 -> [I A3]= [I (bif decide (i<A7)then FD l i else A3)])/\True)/\(∀(k t:Nat) (vk:Nat->Go.Value),let A4:=(↑k:Int);let A10:=(l.g (T (Aes (A4+A6) A2)));let A8:=(l.g (T (Aes (A4+A2-A6) A2)));k<l.n->True->(A3<=A3/\A3<A9)/\(A3<=A6/\A6<A9)/\(A3<=(2:Int)/\(2:Int)<A9)/\(AF A8/\AF (l.g (T A4))/\AF A10)/\True/\(A3<=A4/\A4<A2)/\T A4<l.n/\∃(t':Nat),nat_lit 0=nat_lit 0/\A3=A3/\Value.slice Option.none A7 A7=Value.slice Option.none A7 A7/\(l.n=l.n/\∀(i:Nat),let A12:=[I (l.g i).x,I (l.g i).y];i<l.n->A12=A12)/\vk (nat_lit 4)=vk (nat_lit 4)/\vk (nat_lit 3)=vk (nat_lit 3)/\vk (nat_lit 2)=vk (nat_lit 2)/\vk (nat_lit 0)=vk (nat_lit 0)/\(l.n=l.n/\∀(i:Nat),i<l.n->setRow (fun(i:Nat)=>[I (bif decide (i<k)then FD l i else A3)]) (T A4) (nat_lit 0) [I (Bt (B9 A8 (l.g (T A4)) A10) A3)] i = [I (bif decide (i<k+(1:Nat))then FD l i else A3)])/\True)/\∀(t:Nat),True->((l.n=bif AB l then l.n else A7)/\∀(i:Nat),i<l.n -> [I (bif decide (i<l.n)then FD l i else A3)]= [I (FD l i)])/\A3=bif AB l then A3 else A6)) (by kernel_rfl) (by
 conv=>zeta
 have hn:l.n<=1000000:=hp;refine⟨⟨fun _ _=>rfl,hn⟩,fun h=>?_,fun h=>?_⟩
 ·have hv:AB l=false:=by simpa using (show(!AB l)=true from h)
  rw[hv];exact⟨rfl,rfl⟩
 ·have hv:AB l=true:=by simpa using (show(!AB l)=false from h)
  obtain⟨n3,n24,hsm,hbd⟩:=Fr hv;refine⟨⟨by omega,by omega,show(l.n:Int)*8<=140737488355328 by omega⟩,⟨fun _ _=>rfl,by omega⟩,⟨⟨fun _ _=>rfl,by omega⟩,(0:Nat),⟨by omega,fun i hi=>rfl⟩,trivial⟩,fun k t vk hk _=>?_,fun t _=>?_⟩
  ·have c1:(Aes ((k:Int)+(l.n:Int)-1) (l.n:Int)).toNat=Gf l.n k:=rfl;have c2:((k:Int)).toNat=k:=by omega
   have c3:(Aes ((k:Int)+1) (l.n:Int)).toNat=Cf l.n k:=rfl;rw[c1,c2,c3];refine⟨by omega,by omega,by omega,⟨hbd.2 _ (Pb (by omega)),hbd.2 _ hk,hbd.2 _ (IF (by omega))⟩,trivial,by omega,hk,t,rfl,rfl,rfl,⟨rfl,fun _ _=>rfl⟩,rfl,rfl,rfl,rfl,⟨rfl,fun i hi=>?_⟩,trivial⟩;unfold setRow
   by_cases hik:i=k
   ·subst hik;simp[FD,Gr]
   ·have e : decide (i<k+1)= decide (i<k):=by
     by_cases h':i<k<;>simp[h']<;>omega
    simp[hik,e]
  ·rw[hv];refine⟨⟨rfl,fun i hi=>?_⟩,rfl⟩;simp[hi])
theorem pP:Ax Tryz.prog 144 Up:=AK Tryz.func144 (c:=Ai Tryz.f144) (by kernel_rfl) mixed (fun args p r hs hp=>by
 unfold Uo at hs;split at hs
 ·cases hs;exact⟨_,_,pO _ hp.2,(.p (.sl hp.1) .nil),⟨show Aa Tryz.prog _ from(Aa.cons Ld Le (Aa.cons ME MF (Aa.cons Lb Lc (Aa.cons KZ La Aa.nil)))),rfl,⟨show Af Tryz.prog _ from(Af.cons MC MD Af.nil),(AA.none (fun _=>rfl))⟩⟩⟩
 ·cases hs)
theorem pQ:As Tryz.prog 144:=fun args w=>by kernel_rfl
end
section
set_option maxRecDepth 100000
set_option maxHeartbeats 4000000
set_option linter.unusedVariables false
attribute [local irreducible] vc
def DK:List SV->L.Sq L.Pt
 |[.sl _ n g]=>⟨n,fun i=>Ar (g i)⟩
 |_=>⟨0,fun _=>⟨0,0⟩⟩
def II:List SV->Prop
 |[.sl 2 n g]=>∀i,i<n->g i = [.int .i64 (Ar (g i)).x,.int .i64 (Ar (g i)).y]
 |_=>False
theorem Pd {l:List SV} (h:II l):l.length=1/\AX (SV.at l 0) (.sl 2 (DK l).n (fun k=>[.int .i64 ((DK l).g k).x,.int .i64 ((DK l).g k).y])):=by
 unfold II at h;split at h
 ·rename_i n g;exact⟨rfl,.sl h⟩
 ·exact h.elim
def Fs (a b:L.Sq L.Pt) (i:Nat):L.Sq L.Pt:=bif decide (i=0)then a else b
theorem pR {g:Nat->List SV} (h:II (g 0)/\II (g 1)):AX (.sl 1 2 g) (.sl 1 2 (fun i=>[.sl 2 (Fs (DK (g 0)) (DK (g 1)) i).n (fun k=>[.int .i64 ((Fs (DK (g 0)) (DK (g 1)) i).g k).x,.int .i64 ((Fs (DK (g 0)) (DK (g 1)) i).g k).y])])):=by
 have key:∀i,i<2->II (g i)/\Fs (DK (g 0)) (DK (g 1)) i=DK (g i):=fun i hi=>by
  match i,hi with
  |0,_=>exact⟨h.1,rfl⟩
  |1,_=>exact⟨h.2,rfl⟩
 refine .sl2 (fun i hi=>(Pd (key i hi).1).1.symm) (fun i hi j hj=>?_);rw[(Pd (key i hi).1).1]at hj;obtain rfl:j=0:=by omega
 rw[(key i hi).2];exact(Pd (key i hi).1).2
def Cn (c:Nat->L.Sq L.Pt):Nat->L.Sq L.Pt
 |0=>⟨0,fun _=>⟨0,0⟩⟩
 |i+1=>⟨(Cn c i).n+(c i).n,fun k=>bif decide (k<(Cn c i).n)then(Cn c i).g k else(c i).g (k-(Cn c i).n)⟩
def Dl (l:L.Sq L.Pt) (i k:Nat):L.Pt:=bif decide (k<i)||decide (l.n<=k+i)then l.g (l.n-1-k)else l.g k
def C1 (l:L.Sq L.Pt) (v:L.Pt):Int:=Cm l.n (fun i=>Df v (l.g i))
theorem pS {a b:L.Pt} (h:Df a b=true):a=b:=by
 unfold Df at h;rw[oE,decide_eq_true_eq,decide_eq_true_eq]at h;cases a;cases b;simp only at h;rw[h.1,h.2]
theorem Pe (a:L.Pt):Df a a=true:=by simp[Df]
theorem pT {l:L.Sq L.Pt} {j:Nat} (hj:j<l.n):∃i,i<=j/\C1 l (l.g j)=(i:Int)/\l.g i=l.g j/\∀k,k<i->l.g k≠l.g j:=by
 unfold C1;rcases Tf (f:=fun i=>Df (l.g j) (l.g i)) (n:=l.n)with ⟨_,h2⟩|⟨i,h1,h2,h3,h4⟩
 ·have:=h2 j hj;rw[Pe]at this;cases this
 ·refine⟨i,?_,h2,(pS h3).symm,fun k hk e=>?_⟩
  ·rcases Nat.lt_or_ge j i with h|h
   ·have:=h4 j h;rw[Pe]at this;cases this
   ·exact h
  ·have:=h4 k hk;rw[e,Pe]at this;cases this
theorem Uq {a b:L.Pt}:Cw a b<0↔a.x<b.x\/(a.x=b.x/\a.y<b.y):=by
 unfold Cw Hu Bt
 by_cases h1:a.x<b.x
 ·simp[h1]
 ·by_cases h2:b.x<a.x
  ·simp[h1,h2];omega
  ·by_cases h3:a.y<b.y
   ·simp[h1,h2,h3];try omega
   ·by_cases h4:b.y<a.y
    ·simp[h1,h2,h3,h4]
    ·simp[h1,h2,h3,h4]
def Ur (s:Nat) (n:Int):Prop:=1<=n/\n<=2000000
def Us (s:Nat) (n:Int):Nat->Prop:=fun _=>True
def Ut (s:Nat) (n:Int):Nat->Nat:=fun _=>0
def Uu (s:Nat) (n:Int):Nat->Nat->List SV:=fun _ _=>[]
def Uv:List EV->Option (Prop×(Nat->Prop)×(Nat->Nat)×(Nat->Nat->List SV))
 |[.p (.raw (.slice none 0 0)),.p (.int .i64 n)]=>some (Ur (0:Nat) n,Us (0:Nat) n,Ut (0:Nat) n,Uu (0:Nat) n)
 |_=>none
abbrev Uw:SE.Spec:=(Ge Nat 0 66 2 Uv)
def pU:Al:={ cC with muts:=[22],cuts:=[25] }
theorem pV (s:Nat) (n:Int) (hp:Ur s n):vc Tryz.prog (pU) (Ai Tryz.f161) (Au Tryz.f161 [.p (.raw (.slice none 0 0)),.p (.int .i64 n)]) (EW Tryz.prog Tryz.f161 (Nat) (Us s n) 66 2 (Ut s n) (Uu s n)):=
 @Eq.mpr _ (let A4:=(0:Nat);let A2:=(0:Int);let A1:=(↑A4:Int);let A3:=(A1-A1);(decide (n<A2)=true->False)/\(decide (n<A2)=false->Ad .i64 A3/\Ad .i64 (n-A3)/\(decide (A2<n-A3)=true->(A2<=A2/\A2<=A1/\A1<=A2)/\(A2<n-A3/\(n-A3)*(↑(nat_lit 16):Int)<=(140737488355328:Int))/\(A2<=A1/\A1<=(↑(Aee (n-A3)):Int))/\∃(t:Nat),(nat_lit 0=A4/\∀(i:Nat),i<nat_lit 0 -> [SV.int .i64 A2,SV.int .i64 A2]= [])/\True)/\(decide (A2<n-A3)=false->∃(t:Nat),A4=A4/\True))) (by kernel_rfl) (by
 conv=>zeta
 obtain⟨h1,h2⟩:=hp;refine⟨fun h=>?_,fun _=>⟨jK,jK,fun h=>⟨⟨by omega,by omega,by omega⟩,⟨by omega,show(n-(((0:Nat):Int)-((0:Nat):Int)))*16<=140737488355328 by omega⟩,⟨by omega,by omega⟩,(0:Nat),⟨rfl,fun i hi=>absurd hi (nT _)⟩,trivial⟩,fun h=>⟨(0:Nat),rfl,trivial⟩⟩⟩;have:=of_decide_eq_true h;omega)
theorem pW:Ax Tryz.prog 161 Uw:=G3 Tryz.func161 (c:=Ai Tryz.f161) (by kernel_rfl) mixed (fun args p q n g hs hp=>by
 unfold Uv at hs;split at hs
 ·cases hs;exact⟨_,_,pV _ _ hp,(.same _ (.same _ .nil)),⟨show Aa Tryz.prog _ from Aa.nil,rfl,⟨show Af Tryz.prog _ from Af.nil,(AA.none (fun _=>rfl))⟩⟩⟩
 ·cases hs)
theorem pX:As Tryz.prog 161:=fun args w=>by kernel_rfl
def Ux (c:(Nat->L.Sq L.Pt)):Prop:=1<=(c 0).n+(c 1).n/\(c 0).n<=1000000/\(c 1).n<=1000000
def Uy (c:(Nat->L.Sq L.Pt)):Nat->Prop:=fun _=>True
def Uz (c:(Nat->L.Sq L.Pt)):Nat->Nat:=fun _=>(Cn c 2).n
def U0 (c:(Nat->L.Sq L.Pt)):Nat->Nat->List SV:=fun _ k=>[.int .i64 (((Cn c 2).g k).x),.int .i64 (((Cn c 2).g k).y)]
def U1:List EV->Option (Prop×(Nat->Prop)×(Nat->Nat)×(Nat->Nat->List SV))
 |[.p (.sl 1 2 c_g)]=>some ((II (c_g 0)/\II (c_g 1))/\Ux (Fs (DK (c_g 0)) (DK (c_g 1))),Uy (Fs (DK (c_g 0)) (DK (c_g 1))),Uz (Fs (DK (c_g 0)) (DK (c_g 1))),U0 (Fs (DK (c_g 0)) (DK (c_g 1))))
 |_=>none
abbrev U2:SE.Spec:=(Ge Nat 0 66 2 U1)
def pY:Al:={ cC with muts:=[24],specs:=AC [(161,Uw)],raws:=[161] }
theorem pZ (c:(Nat->L.Sq L.Pt)) (hp:Ux c):vc Tryz.prog ({ pY with loops:=AT [(3,{ T:=Nat,keep:=[0,9,10],keepO:=[],chg:=fun i=>[(3,.p (.int .i64 ((Cn c i).n:Int))),(11,.p (.int .i64 (i:Int)))],own:=fun _=>[],inv:=fun i=>i<=2,mu:=fun i=>2-i }),(11,{ T:=Nat,keep:=[0,6,25,26],keepO:=[],chg:=fun i=>[(27,.p (.int .i64 (i:Int)))],own:=fun i=>[(24,.row 66 2 (Cn c i).n (fun k=>[.int .i64 (((Cn c i).g k).x),.int .i64 (((Cn c i).g k).y)]))],inv:=fun i=>i<=2,mu:=fun i=>2-i })],rfs:=AP [] }) (Ai Tryz.f140) (Au Tryz.f140 [.p (.sl 1 2 (fun i=>[.sl 2 (c i).n (fun k=>[.int .i64 ((c i).g k).x,.int .i64 ((c i).g k).y])]))]) (EW Tryz.prog Tryz.f140 (Nat) (Uy c) 66 2 (Uz c) (U0 c)):=
 @Eq.mpr _ (let I:=SV.int .i64;let T:=Aee;let A11:=(1:Int);let A10:=(0:Int);let A5:=(2:Nat);let A13:=(Cn c A5);let A2:=(↑(nat_lit 2):Int);(∃(g:Nat),A10=(↑(Cn c g).n:Int)/\A10=(↑g:Int)/\g<=A5)/\∀(g:Nat),let A8:=(↑g:Int);let A15:=(↑(c (T A8)).n:Int);let A7:=(↑(Cn c g).n:Int);let A1:=(nat_lit 2=nat_lit 2/\∀(i:Nat),let A6:=[SV.sl A5 (c i).n fun(k:Nat)=>[I ((c i).g k).x,I ((c i).g k).y]];i<nat_lit 2->A6=A6);g<=A5->(decide (A8<A2)=true->(A10<=A8/\A8<A2)/\Ad .i64 (A7+A15)/\(false=true->False)/\(false=false->Ad .i64 (A8+A11)/\∃(g':Nat),A7+A15=(↑(Cn c g').n:Int)/\A8+A11=(↑g':Int)/\A2=A2/\A1/\A1/\g'<=A5/\A5-g'<A5-g))/\(decide (A8<A2)=false->(A11<=A7/\A7<=(2000000:Int))/\∀(t:Nat),True->(∃(g:Nat),let A14:=(Cn c g);A10=(↑g:Int)/\((0:Nat)=A14.n/\∀(i:Nat),i<(0:Nat) -> []= [I (A14.g i).x,I (A14.g i).y])/\g<=A5)/\∀(g_1:Nat),let A4:=(↑g_1:Int);let A9:=(c (T A4));let A3:=(Cn c g_1);g_1<=A5->(decide (A4<A2)=true->(A10<=A4/\A4<A2)/\(A3.n+A9.n)*nat_lit 16<=(140737488355328:Nat)/\Ad .i64 (A4+A11)/\∃(g':Nat),let A12:=(Cn c g');A4+A11=(↑g':Int)/\A2=A2/\A1/\A1/\(A3.n+A9.n=A12.n/\∀(i:Nat),i<A3.n+A9.n->AN A3.n (fun(k:Nat)=>[I (A3.g k).x,I (A3.g k).y]) (fun(k:Nat)=>[I (A9.g k).x,I (A9.g k).y]) i = [I (A12.g i).x,I (A12.g i).y])/\g'<=A5/\A5-g'<A5-g_1)/\(decide (A4<A2)=false->∃(t:Nat),(A3.n=A13.n/\∀(i:Nat),i<A3.n -> [I (A3.g i).x,I (A3.g i).y]= [I (A13.g i).x,I (A13.g i).y])/\True))) (by kernel_rfl) (by
 conv=>zeta
 obtain⟨h1,h2,h3⟩:=hp;have hc:∀i,i<2->(c i).n<=1000000:=fun i hi=>by
  match i,hi with
  |0,_=>exact h2
  |1,_=>exact h3
 have e1:(Cn c 1).n=0+(c 0).n:=rfl;have e2:(Cn c 2).n=0+(c 0).n+(c 1).n:=rfl;have ht:∀i,i<=2->(Cn c i).n<=2000000:=fun i hi=>by
  match i,hi with
  |0,_=>exact AdL _
  |1,_=>omega
  |2,_=>omega
 refine⟨⟨(0:Nat),rfl,rfl,AdL _⟩,fun g hg=>⟨fun hlt=>?_,fun hge=>?_⟩⟩
 ·have hb:(g:Int)<2:=of_decide_eq_true hlt;have e0:((g:Int)).toNat=g:=by omega
  have hcg:=hc g (by omega);have htg:=ht g hg;rw[e0];exact⟨⟨by omega,hb⟩,jK,fun h=>Bool.false_ne_true h,fun _=>⟨jK,g+1,by show((Cn c g).n:Int)+((c g).n:Int)=(((Cn c g).n+(c g).n:Nat):Int);omega,by omega,rfl,⟨rfl,fun _ _=>rfl⟩,⟨rfl,fun _ _=>rfl⟩,by omega,by omega⟩⟩
 ·have hb:¬ (g:Int)<2:=of_decide_eq_false hge;obtain rfl:g=2:=by omega
  refine⟨⟨by omega,by omega⟩,fun _ _=>⟨⟨(0:Nat),rfl,⟨rfl,fun i hi=>absurd hi (nT _)⟩,AdL _⟩,fun k hk=>⟨fun hlt=>?_,fun hge=>?_⟩⟩⟩
  ·have hb:(k:Int)<2:=of_decide_eq_true hlt;have e0:((k:Int)).toNat=k:=by omega
   have hck:=hc k (by omega);have htk:=ht k hk;rw[e0];refine⟨⟨by omega,hb⟩,show((Cn c k).n+(c k).n)*16<=140737488355328 by omega,jK,k+1,by omega,rfl,⟨rfl,fun _ _=>rfl⟩,⟨rfl,fun _ _=>rfl⟩,⟨rfl,fun i hi=>?_⟩,by omega,by omega⟩;unfold AN
   by_cases h:i<(Cn c k).n
   ·have w : (Cn c (k+1)).g i = (Cn c k).g i :=by
     show(bif decide (i<(Cn c k).n)then _ else _)=_;rw[decide_eq_true h];rfl
    rw[if_pos h,w]
   ·have w : (Cn c (k+1)).g i = (c k).g (i-(Cn c k).n):=by
     show(bif decide (i<(Cn c k).n)then _ else _)=_;rw[decide_eq_false h];rfl
    rw[if_neg h,w]
  ·have hb:¬ (k:Int)<2:=of_decide_eq_false hge;obtain rfl:k=2:=by omega
   exact⟨(0:Nat),⟨rfl,fun _ _=>rfl⟩,trivial⟩)
theorem qA:Ax Tryz.prog 140 U2:=G3 Tryz.func140 (c:=Ai Tryz.f140) (by kernel_rfl) mixed (fun args p q n g hs hp=>by
 unfold U1 at hs;split at hs
 ·cases hs;exact⟨_,_,pZ _ hp.2,(.p (pR hp.1) .nil),⟨show Aa Tryz.prog _ from(Aa.cons pW pX Aa.nil),rfl,⟨show Af Tryz.prog _ from Af.nil,(AA.none (fun _=>rfl))⟩⟩⟩
 ·cases hs)
theorem qB:As Tryz.prog 140:=fun args w=>by kernel_rfl
abbrev JG:Tr:={ T:=(L.Sq L.Pt),U:=Nat,args:=fun t=>(fun l=>[.row 1005]) t,own:=fun t=>(fun l=>[(1005,.row 66 2 l.n (fun k=>[.int .i64 ((l.g k).x),.int .i64 ((l.g k).y)]))]) t,pre:=fun t=>(fun l=>l.n<=1000000) t,post:=fun t u=>(fun l=>fun u=>True) t u,own':=fun t u=>(fun l=>fun u=>[(1005,.row 66 2 l.n (fun k=>[.int .i64 ((l.g (l.n-1-k)).x),.int .i64 ((l.g (l.n-1-k)).y)]))]) t u,res:=fun t u=>(fun l=>fun u=>.p (.tup [])) t u }
theorem qC (l:L.Sq L.Pt) (hp:JG.pre l):vc Tryz.prog ({ muts:=[],frz:=B8 [],specs:=AC [],loops:=AT [(1,{ T:=Nat,keep:=[0],keepO:=[],chg:=fun i=>[(2,.p (.int .i64 (i:Int))),(3,.p (.int .i64 ((l.n:Int)-1-(i:Int))))],own:=fun i=>[(1005,.row 66 2 l.n (fun k=>[.int .i64 ((Dl l i k).x),.int .i64 ((Dl l i k).y)]))],inv:=fun i=>2*i<=l.n,mu:=fun i=>l.n-i })],iters:=B3 [],rfs:=AP [],nils:=B6 [] }) (Ai Tryz.f139) (Dy Tryz.f139 (JG.args l) (JG.own l)) (OG Tryz.prog Tryz.f139 JG l):=
 @Eq.mpr _ (let I:=SV.int .i64;let T:=Aee;let A3:=(1:Int);let A1:=(↑l.n:Int);Ad .i64 (A1-A3)/\(∃(g:Nat),(0:Int)=(↑g:Int)/\A1-A3=A1-A3-(↑g:Int)/\(l.n=l.n/\∀(i:Nat),i<l.n -> [I (l.g i).x,I (l.g i).y]= [I (Dl l g i).x,I (Dl l g i).y])/\(2:Nat)*g<=l.n)/\∀(g:Nat),let A2:=(↑g:Int);let A7:=((0:Int)<=A2/\A2<A1);let A5:=((0:Int)<=A1-A3-A2/\A1-A3-A2<A1);let A4:=(A1-A3-A2);(2:Nat)*g<=l.n->(decide (A2<A1-A3-A2)=true->A5/\T A4<l.n/\A7/\T A2<l.n/\A7/\T A2<l.n/\A5/\T A4<l.n/\Ad .i64 (A2+A3)/\Ad .i64 (A1-A3-A2-A3)/\∃(g':Nat),A2+A3=(↑g':Int)/\A1-A3-A2-A3=A1-A3-(↑g':Int)/\(l.n=l.n/\∀(i:Nat),i<l.n->setRow (setRow (fun(k:Nat)=>[I (Dl l g k).x,I (Dl l g k).y]) (T A2) (nat_lit 0) [I (Dl l g (T A4)).x,I (Dl l g (T A4)).y]) (T A4) (nat_lit 0) [I (Dl l g (T A2)).x,I (Dl l g (T A2)).y] i = [I (Dl l g' i).x,I (Dl l g' i).y])/\(2:Nat)*g'<=l.n/\l.n-g'<l.n-g)/\(decide (A2<A1-A3-A2)=false->∃(u:Nat),(l.n=l.n/\∀(i:Nat),let A6:=(l.g (l.n-(1:Nat)-i));i<l.n -> [I (Dl l g i).x,I (Dl l g i).y]= [I A6.x,I A6.y])/\True)) (by kernel_rfl) (by
 conv=>zeta
 have hn:l.n<=1000000:=hp;refine⟨jK,⟨(0:Nat),rfl,by omega,⟨rfl,fun i hi=>?_⟩,AdL _⟩,fun g hg=>⟨fun hlt=>?_,fun hge=>?_⟩⟩
 ·have hi:i<l.n:=hi;have w:Dl l 0 i=l.g i:=by unfold Dl;rw[decide_eq_false (nT _),decide_eq_false (by omega)];rfl
  rw[w]
 ·have hb:(g:Int)<(l.n:Int)-1-(g:Int):=of_decide_eq_true hlt;have e0:((g:Int)).toNat=g:=by omega
  have e1:((l.n:Int)-1-(g:Int)).toNat=l.n-1-g:=by omega
  rw[e0,e1];refine⟨⟨by omega,by omega⟩,by omega,⟨by omega,by omega⟩,by omega,⟨by omega,by omega⟩,by omega,⟨by omega,by omega⟩,by omega,jK,jK,g+1,by omega,by omega,⟨rfl,fun i hi=>?_⟩,by omega,by omega⟩;have hi:i<l.n:=hi;have r0:∀k,¬ k<g->¬ l.n<=k+g->Dl l g k=l.g k:=fun k h1 h2=>by
   unfold Dl;rw[decide_eq_false h1,decide_eq_false h2];rfl
  have r1:∀j k,k<j\/l.n<=k+j->Dl l j k=l.g (l.n-1-k):=fun j k h=>by
   unfold Dl;rcases h with h|h
   ·rw[decide_eq_true h];rfl
   ·rw[decide_eq_true h,Bool.or_true];rfl
  unfold setRow
  by_cases c1:i=l.n-1-g
  ·subst c1;rw[if_pos rfl,r0 g (by omega) (by omega),r1 (g+1) _ (.inr (by omega)),show l.n-1-(l.n-1-g)=g by omega];rw[if_neg (show ¬ (l.n-1-g=g)by omega)];rfl
  ·rw[if_neg c1]
   by_cases c2:i=g
   ·subst c2;rw[if_pos rfl,r0 (l.n-1-i) (by omega) (by omega),r1 (i+1) i (.inl (by omega))];rfl
   ·rw[if_neg c2];dsimp only
    by_cases c3:i<g\/l.n<=i+g
    ·rw[r1 g i c3,r1 (g+1) i (by omega)]
    ·rw[r0 i (by omega) (by omega)];have:Dl l (g+1) i=l.g i:=by
      unfold Dl;rw[decide_eq_false (by omega),decide_eq_false (by omega)];rfl
     rw[this]
 ·have hb:¬ (g:Int)<(l.n:Int)-1-(g:Int):=of_decide_eq_false hge;refine⟨(0:Nat),⟨rfl,fun i hi=>?_⟩,trivial⟩;have hi:i<l.n:=hi;have w:Dl l g i=l.g (l.n-1-i):=by
   unfold Dl
   by_cases c1:i<g
   ·rw[decide_eq_true c1];rfl
   ·by_cases c2:l.n<=i+g
    ·rw[decide_eq_true c2,Bool.or_true];rfl
    ·rw[decide_eq_false c1,decide_eq_false c2,show l.n-1-i=i by omega];rfl
  rw[w])
theorem qD:As Tryz.prog 139:=fun args w=>by kernel_rfl
theorem qE:FV Tryz.prog 139 JG:=SG (ks:=[1005]) (n:=1) Tryz.func139 (c:=Ai Tryz.f139) (by kernel_rfl) mixed ⟨fun t=>rfl,fun t=>rfl,fun t u=>rfl,fun t u=>rfl,fun t u=>rfl,by kernel_rfl⟩ (fun l hp=>⟨_,qC l hp,⟨show Aa Tryz.prog _ from Aa.nil,rfl,⟨show Af Tryz.prog _ from Af.nil,(AA.none (fun _=>rfl))⟩⟩⟩)
def U3 (l:(L.Sq L.Pt)) (v:L.Pt):Prop:=l.n<=1000000
def U4 (l:(L.Sq L.Pt)) (v:L.Pt):SV:=.int .i64 (C1 l v)
def U5:List EV->Option (Prop×SV)
 |[.p (.sl 2 l_n l_g),.p (.agg [.int .i64 v_x,.int .i64 v_y])]=>some ((∀i,i<l_n->l_g i = [.int .i64 ((Ar (l_g i)).x),.int .i64 ((Ar (l_g i)).y)])/\U3 (⟨l_n,fun i=>Ar (l_g i)⟩:(L.Sq L.Pt)) (⟨v_x,v_y⟩:L.Pt),U4 (⟨l_n,fun i=>Ar (l_g i)⟩:(L.Sq L.Pt)) (⟨v_x,v_y⟩:L.Pt))
 |_=>none
abbrev U6:SE.Spec:=(AI U5)
def qF:Al:={ muts:=[],frz:=B8 [],specs:=AC [],loops:=fun _=>none,iters:=B3 [],rfs:=AP [],nils:=B6 [] }
theorem qG (l:(L.Sq L.Pt)) (v:L.Pt) (hp:U3 l v):vc Tryz.prog ({ qF with loops:=AT [(2,{ T:=Nat,keep:=[0,3,6,7],keepO:=[],chg:=fun i=>[(8,.p (.int .i64 i))],own:=fun _=>[],inv:=fun i=>i<=l.n/\(∀j,j<i->Df v (l.g j)=false),mu:=fun i=>l.n-i })],rfs:=AP [] }) (Ai Tryz.f108) (Au Tryz.f108 [.p (.sl 2 l.n (fun i=>[.int .i64 ((l.g i).x),.int .i64 ((l.g i).y)])),.p (.agg [.int .i64 v.x,.int .i64 v.y])]) (AH Tryz.prog Tryz.f108 (U4 l v)):=
 @Eq.mpr _ (let I:=SV.int .i64;let T:=Aee;let A4:=(↑l.n:Int);let A2:=(l.n=l.n/\∀(i:Nat),let A5:=[I (l.g i).x,I (l.g i).y];i<l.n->A5=A5);(∃(g:Nat),(0:Int)=(↑g:Int)/\g<=l.n/\∀(j:Nat),j<g->Df v (l.g j)=false)/\∀(g:Nat),let A3:=(↑g:Int);let A1:=(decide (v.x=(l.g (T A3)).x)&&decide (v.y=(l.g (T A3)).y));(g<=l.n/\∀(j:Nat),j<g->Df v (l.g j)=false)->(decide (A3<A4)=true->((0:Int)<=A3/\A3<A4)/\(A1=true->A3=C1 l v)/\(A1=false->Ad .i64 (A3+(1:Int))/\∃(g':Nat),A3+(1:Int)=(↑g':Int)/\A4=A4/\A2/\SV.ref [I v.x,I v.y] (nat_lit 0)=SV.ref [I v.x,I v.y] (nat_lit 0)/\A2/\(g'<=l.n/\∀(j:Nat),j<g'->Df v (l.g j)=false)/\l.n-g'<l.n-g))/\(decide (A3<A4)=false->(-1:Int)=C1 l v)) (by kernel_rfl) (by
 conv=>zeta
 have hn:l.n<=1000000:=hp;refine⟨⟨(0:Nat),rfl,AdL _,fun j hj=>absurd hj (nT _)⟩,fun g hg=>⟨fun hlt=>?_,fun hge=>?_⟩⟩
 ·have hb:(g:Int)<(l.n:Int):=of_decide_eq_true hlt;have e0:((g:Int)).toNat=g:=by omega
  rw[e0];refine⟨⟨by omega,hb⟩,fun h=>?_,fun h=>?_⟩
  ·have h:Df v (l.g g)=true:=h;exact(J8 (f:=fun i=>Df v (l.g i)) hg.2 h (by omega)).symm
  ·have h:Df v (l.g g)=false:=h;exact⟨jK,g+1,by omega,rfl,⟨rfl,fun _ _=>rfl⟩,rfl,⟨rfl,fun _ _=>rfl⟩,⟨by omega,fun j hj=>by
    rcases AdZ.1 hj with h'|rfl
    ·exact hg.2 j h'
    ·exact h⟩,by omega⟩
 ·have hb:¬ (g:Int)<(l.n:Int):=of_decide_eq_false hge;exact(IG (f:=fun i=>Df v (l.g i)) (fun j hj=>hg.2 j (by omega))).symm)
theorem qH:Ax Tryz.prog 108 U6:=AK Tryz.func108 (c:=Ai Tryz.f108) (by kernel_rfl) mixed (fun args p r hs hp=>by
 unfold U5 at hs;split at hs
 ·cases hs;exact⟨_,_,qG _ _ hp.2,(.p (.sl hp.1) (.same _ .nil)),⟨show Aa Tryz.prog _ from Aa.nil,rfl,⟨show Af Tryz.prog _ from Af.nil,(AA.none (fun _=>rfl))⟩⟩⟩
 ·cases hs)
theorem qI:As Tryz.prog 108:=fun args w=>by kernel_rfl
end
section
set_option maxRecDepth 100000
set_option maxHeartbeats 4000000
set_option linter.unusedVariables false
attribute [local irreducible] vc
instance:Inhabited L.Pt:=⟨⟨0,0⟩⟩
def Ek (a b:L.Pt):Prop:=Cw a b<=0
theorem MI {a b:L.Pt}:Cw a b<=0↔a.x<b.x\/(a.x=b.x/\a.y<=b.y):=by
 unfold Cw Hu Bt
 by_cases h1:a.x<b.x
 ·simp[h1]
 ·by_cases h2:b.x<a.x
  ·simp[h1,h2];omega
  ·by_cases h3:a.y<b.y
   ·simp[h1,h2,h3];omega
   ·by_cases h4:b.y<a.y
    ·simp[h1,h2,h3,h4];try omega
    ·simp[h1,h2,h3,h4];try omega
theorem qJ:Go.Sort.SWO (Go.Proofs.ltOf Cw):=by
 have k:∀x y,Go.Proofs.ltOf Cw x y=true↔(x.x<y.x\/(x.x=y.x/\x.y<y.y)):=fun x y=>by
  unfold Go.Proofs.ltOf;rw[decide_eq_true_iff];exact Uq
 have kf:∀x y,Go.Proofs.ltOf Cw x y=false↔¬ (x.x<y.x\/(x.x=y.x/\x.y<y.y)):=fun x y=>by
  rw[<- k,Bool.not_eq_true]
 refine⟨fun x=>?_,fun x y z=>?_,fun x y z=>?_⟩
 ·rw[kf];omega
 ·simp only[k];omega
 ·simp only[kf];omega
def JH (p:L.Pt):List L.Pt->List L.Pt
 |[]=>[p]
 |q::r=>bif decide (Cw p q<=0)then p::q::r else q::JH p r
def Hw:List L.Pt->List L.Pt
 |[]=>[]
 |p::r=>JH p (Hw r)
def HZ (l:L.Sq L.Pt):List L.Pt:=(List.range l.n).map l.g
def B0 (l:L.Sq L.Pt):L.Sq L.Pt:=⟨l.n,fun k=>(Hw (HZ l)).getD k ⟨0,0⟩⟩
theorem U7 (a b:L.Pt):Ek a b\/Ek b a:=by unfold Ek;simp only[MI];omega
theorem qK {a b c:L.Pt} (h:Ek a b) (k:Ek b c):Ek a c:=by unfold Ek at *;simp only[MI]at *;omega
theorem qL {a b:L.Pt} (h:Ek a b) (k:Ek b a):a=b:=by
 unfold Ek at *;simp only[MI]at *;obtain⟨ax,ay⟩:=a;obtain⟨bx,by'⟩:=b;simp only at h k;obtain rfl:ax=bx:=by omega
 obtain rfl:ay=by':=by omega
 rfl
theorem Pf (p:L.Pt):∀l,(JH p l).Perm (p::l)
 |[]=>.refl _
 |q::r=>by
   unfold JH;cases decide (Cw p q<=0)with
   |true=>exact .refl _
   |false=>exact((Pf p r).cons q).trans (.swap p q r)
theorem MJ:∀l,(Hw l).Perm l
 |[]=>.refl _
 |p::r=>(Pf p _).trans ((MJ r).cons p)
theorem U8 {p:L.Pt}:∀{l},l.Pairwise Ek->(JH p l).Pairwise Ek
 |[],_=>List.pairwise_singleton _ _
 |q::r,h=>by
   obtain⟨h1,h2⟩:=AeR.1 h;unfold JH;cases hd:decide (Cw p q<=0)with
   |true =>
     have hd:Ek p q:=of_decide_eq_true (p:=Cw p q<=0) hd;exact AeR.2 ⟨fun x hx=>by
      rcases AdR.1 hx with rfl|hx
      ·exact hd
      ·exact qK hd (h1 x hx),h⟩
   |false =>
     have hd:¬ Ek p q:=of_decide_eq_false (p:=Cw p q<=0) hd;have hqp:Ek q p:=(U7 p q).resolve_left hd;exact AeR.2 ⟨fun x hx=>by
      rcases AdR.1 ((Pf p r).mem_iff.1 hx)with rfl|hx
      ·exact hqp
      ·exact h1 x hx,U8 h2⟩
theorem U9:∀l,(Hw l).Pairwise Ek
 |[]=>.nil
 |p::r=>U8 (U9 r)
theorem qM {l:L.Sq L.Pt} {u:Nat->L.Pt} (h:Dj Cw l.n l.g u):∀k,k<l.n->(B0 l).g k=u k:=fun k hk=>by
 have e:(List.range l.n).map u=Hw (HZ l):=by
  refine List.Perm.eq_of_pairwise (le:=Ek) (fun a b _ _=>qL) ?_ (U9 _) (h.perm.trans (MJ _).symm);rw[List.pairwise_iff_getElem];intro i j hi hj hij;simp only[List.getElem_map,List.getElem_range];have hj:j<l.n:=by simpa using hj
  have:=h.asc i j hij hj;rcases U7 (u i) (u j)with h1|h1
  ·exact h1
  ·unfold Ek at *;simp only[MI,Uq]at *;omega
 show(Hw (HZ l)).getD k ⟨0,0⟩=u k;rw[<- e];simp[AS,hk]
theorem Pg (l:L.Sq L.Pt) {k:Nat} (hk:k<l.n):∃i,i<l.n/\(B0 l).g k=l.g i:=by
 have hl:(Hw (HZ l)).length=l.n:=by rw[(MJ _).length_eq];simp[HZ]
 have hm:(Hw (HZ l)).getD k ⟨0,0⟩∈Hw (HZ l):=by
  rw[AS,AdH (by rw[hl];exact hk)];exact Aeg _
 have hm:=(MJ _).mem_iff.1 hm;unfold HZ at hm;obtain⟨i,hi,e⟩:=List.mem_map.1 hm;exact⟨i,List.mem_range.1 hi,e.symm⟩
def UA (p:L.Pt):List Int:=[p.x,p.y]
def qN:Go.Shelf.Ren:=⟨fun|6=>159|15=>142|14=>185|28=>170|29=>171|20=>194|21=>195|22=>196|23=>197|24=>198|25=>199|26=>200|27=>201|46=>204|47=>187|48=>188|49=>205|50=>206|57=>207|n=>n,fun|22=>52|24=>66|25=>158|3=>3|39=>199|0=>0|53=>227|55=>229|4=>4|46=>220|45=>219|50=>224|5=>5|9=>9|66=>240|70=>244|76=>253|77=>254|n=>n,fun|n=>n⟩
theorem qO:Go.Proofs.SlLaysF0.n6 Tryz.prog qN:={
 mixed:=by kernel_rfl
 f6:=⟨Tryz.f159.name,by decide,Tryz.func159.trans (congrArg some (by kernel_rfl))⟩
 f14:=⟨Tryz.f185.name,by decide,Tryz.func185.trans (congrArg some (by kernel_rfl))⟩
 f15:=Tryz.func142.trans (congrArg some (by kernel_rfl))
 f20:=⟨Tryz.f194.name,by decide,Tryz.func194.trans (congrArg some (by kernel_rfl))⟩
 f21:=⟨Tryz.f195.name,by decide,Tryz.func195.trans (congrArg some (by kernel_rfl))⟩
 f22:=⟨Tryz.f196.name,by decide,Tryz.func196.trans (congrArg some (by kernel_rfl))⟩
 f23:=⟨Tryz.f197.name,by decide,Tryz.func197.trans (congrArg some (by kernel_rfl))⟩
 f24:=⟨Tryz.f198.name,by decide,Tryz.func198.trans (congrArg some (by kernel_rfl))⟩
 f25:=⟨Tryz.f199.name,by decide,Tryz.func199.trans (congrArg some (by kernel_rfl))⟩
 f26:=⟨Tryz.f200.name,by decide,Tryz.func200.trans (congrArg some (by kernel_rfl))⟩
 f27:=⟨Tryz.f201.name,by decide,Tryz.func201.trans (congrArg some (by kernel_rfl))⟩
 f28:=Tryz.func170.trans (congrArg some (by kernel_rfl))
 f29:=Tryz.func171.trans (congrArg some (by kernel_rfl))
 f46:=⟨Tryz.f204.name,by decide,Tryz.func204.trans (congrArg some (by kernel_rfl))⟩
 f47:=Tryz.func187.trans (congrArg some (by kernel_rfl))
 f48:=Tryz.func188.trans (congrArg some (by kernel_rfl))
 f49:=⟨Tryz.f205.name,by decide,Tryz.func205.trans (congrArg some (by kernel_rfl))⟩
 f50:=⟨Tryz.f206.name,by decide,Tryz.func206.trans (congrArg some (by kernel_rfl))⟩
 f57:=⟨Tryz.f207.name,by decide,Tryz.func207.trans (congrArg some (by kernel_rfl))⟩
 t0:=Tryz.underlying0
 a0:=Tryz.isAgg0
 z0:=Tryz.sizeOf0
 v0:=Tryz.zeroValue0
 t3:=Tryz.underlying3
 a3:=Tryz.isAgg3
 z3:=Tryz.sizeOf3
 v3:=Tryz.zeroValue3
 t4:=Tryz.underlying4
 a4:=Tryz.isAgg4
 z4:=Tryz.sizeOf4
 v4:=Tryz.zeroValue4
 t5:=Tryz.underlying5
 a5:=Tryz.isAgg5
 z5:=Tryz.sizeOf5
 v5:=Tryz.zeroValue5
 t9:=Tryz.underlying9
 a9:=Tryz.isAgg9
 z9:=Tryz.sizeOf9
 v9:=Tryz.zeroValue9
 t22:=Tryz.underlying52
 a22:=Tryz.isAgg52
 z22:=Tryz.sizeOf52
 v22:=Tryz.zeroValue52
 t25:=Tryz.underlying158
 a25:=Tryz.isAgg158
 z25:=Tryz.sizeOf158
 v25:=Tryz.zeroValue158
 t39:=Tryz.underlying199
 a39:=Tryz.isAgg199
 z39:=Tryz.sizeOf199
 v39:=Tryz.zeroValue199
 t45:=Tryz.underlying219
 a45:=Tryz.isAgg219
 z45:=Tryz.sizeOf219
 v45:=Tryz.zeroValue219
 t46:=Tryz.underlying220
 a46:=Tryz.isAgg220
 z46:=Tryz.sizeOf220
 v46:=Tryz.zeroValue220
 t50:=Tryz.underlying224
 a50:=Tryz.isAgg224
 z50:=Tryz.sizeOf224
 v50:=Tryz.zeroValue224
 t53:=Tryz.underlying227
 a53:=Tryz.isAgg227
 z53:=Tryz.sizeOf227
 v53:=Tryz.zeroValue227
 t55:=Tryz.underlying229
 a55:=Tryz.isAgg229
 z55:=Tryz.sizeOf229
 v55:=Tryz.zeroValue229
 t66:=Tryz.underlying240
 a66:=Tryz.isAgg240
 z66:=Tryz.sizeOf240
 v66:=Tryz.zeroValue240
 t70:=Tryz.underlying244
 a70:=Tryz.isAgg244
 z70:=Tryz.sizeOf244
 v70:=Tryz.zeroValue244
 t76:=Tryz.underlying253
 a76:=Tryz.isAgg253
 z76:=Tryz.sizeOf253
 v76:=Tryz.zeroValue253
 t77:=Tryz.underlying254
 a77:=Tryz.isAgg254
 z77:=Tryz.sizeOf254
 v77:=Tryz.zeroValue254 }
abbrev UB:Tr:=M9 66 2 104 1005 UA Cw
theorem qP:FV Tryz.prog 159 UB:=OK (enc:=UA) qO (by decide) (fun w=>Tryz.isAgg66 w) (fun w=>Tryz.sizeOf66 w) (fun _=>rfl) qJ OX OY (fun x y=>show EX OV [.p (.agg [.int .i64 x.x,.int .i64 x.y]),.p (.agg [.int .i64 y.x,.int .i64 y.y])]from trivial) (fun x y=>rfl) _ _
theorem qQ:As Tryz.prog 159:=fun args w=>by kernel_rfl
def Dm (p:L.Pt):List L.Pt->List L.Pt
 |[]=>[]
 |[a]=>[a]
 |b::a::r=>bif decide (B9 a b p<=0)then Dm p (a::r)else b::a::r
def BS (l:L.Sq L.Pt):Nat->List L.Pt
 |0=>[]
 |k+1=>l.g k::Dm (l.g k) (BS l k)
def BL (st:List L.Pt):Nat:=st.length
def G8 (q:L.Pt) (st:List L.Pt):Prop:=q∈st
def BX (st:List L.Pt) (k:Nat):L.Pt:=st.getD (st.length-1-k) ⟨0,0⟩
def B1 (l:L.Sq L.Pt):L.Sq L.Pt:=⟨(BS l l.n).length-1,fun k=>BX (BS l l.n) k⟩
theorem UC {p q:L.Pt}:∀{st:List L.Pt},q∈Dm p st->q∈st
 |[],h=>h
 |[a],h=>h
 |b::a::r,h=>by
   unfold Dm at h;cases hd:decide (B9 a b p<=0)with
   |true=>rw[hd]at h;exact AdJ _ (UC (st:=a::r) h)
   |false=>rw[hd]at h;exact h
theorem UD {p:L.Pt}:∀{st:List L.Pt},(Dm p st).length<=st.length
 |[]=>AdS _
 |[a]=>AdS _
 |b::a::r=>by
   unfold Dm;cases decide (B9 a b p<=0)with
   |true=>exact Nat.le_trans (UD (st:=a::r)) (Nat.le_succ _)
   |false=>exact AdS _
theorem UE {p:L.Pt}:∀{st:List L.Pt},1<=st.length->1<=(Dm p st).length
 |[],h=>h
 |[a],h=>h
 |b::a::r,h=>by
   unfold Dm;cases decide (B9 a b p<=0)with
   |true=>exact UE (st:=a::r) (Afv (AdL _))
   |false=>exact h
theorem qR {l:L.Sq L.Pt} (h:2<=l.n):1<=(BS l l.n).length-1:=by
 match hh:l.n,h with
 |m+2,_ =>
   have:=UE (p:=l.g (m+1)) (st:=BS l (m+1)) (Afv (AdL _));show 1<=(Dm (l.g (m+1)) (BS l (m+1))).length+1-1;omega
theorem Ph {l:L.Sq L.Pt} {q:L.Pt}:∀{k},q∈BS l k->∃i,i<k/\q=l.g i
 |0,h=>nomatch h
 |k+1,h=>by
   rcases AdR.1 h with rfl|h
   ·exact⟨k,Nat.lt_succ_self _,rfl⟩
   ·obtain⟨i,hi,e⟩:=Ph (UC h);exact⟨i,Nat.lt_succ_of_lt hi,e⟩
theorem Lf (l:L.Sq L.Pt):∀k,(BS l k).length<=k
 |0=>AdS _
 |k+1=>Afv (Nat.le_trans UD (Lf l k))
theorem UF {st:List L.Pt} {k:Nat} (h:k<st.length):BX st k∈st:=by
 unfold BX;rw[AS,AdH (by omega)];exact Aeg _
theorem MK {a:L.Pt} {r:List L.Pt} {k:Nat} (h:k<r.length):BX (a::r) k=BX r k:=by
 unfold BX;rw[show(a::r).length-1-k=(r.length-1-k)+1 by simp only[Ae3];omega];rfl
theorem Lg {a:L.Pt} {r:List L.Pt}:BX (a::r) r.length=a:=by
 unfold BX;rw[show(a::r).length-1-r.length=0 by simp only[Ae3];omega];rfl
def EZ (l:L.Sq L.Pt):L.Sq L.Pt:=⟨l.n,fun k=>l.g (l.n-1-k)⟩
def AY (l:L.Sq L.Pt):L.Sq L.Pt:=Cn (Fs (B1 (B0 l)) (B1 (EZ (B0 l)))) 2
theorem UG (l:L.Sq L.Pt) {k:Nat} (h:k<(B1 l).n):∃i,i<l.n/\(B1 l).g k=l.g i:=Ph (UF (st:=BS l l.n) (show k<_ by have:k<(BS l l.n).length-1:=h;omega))
theorem qS (l:L.Sq L.Pt) {k:Nat} (h:k<(AY l).n):∃i,i<l.n/\(AY l).g k=l.g i:=by
 have a1:∀k,k<(B1 (B0 l)).n->∃i,i<l.n/\(B1 (B0 l)).g k=l.g i:=fun k hk=>by
  obtain⟨i,hi,e⟩:=UG _ hk;obtain⟨j,hj,e2⟩:=Pg l hi;exact⟨j,hj,e.trans e2⟩
 have a2:∀k,k<(B1 (EZ (B0 l))).n->∃i,i<l.n/\(B1 (EZ (B0 l))).g k=l.g i:=fun k hk=>by
  obtain⟨i,hi,e⟩:=UG _ hk;have hi:i<l.n:=hi;obtain⟨j,hj,e2⟩:=Pg l (k:=l.n-1-i) (by omega);exact⟨j,hj,e.trans e2⟩
 have h:k<0+(B1 (B0 l)).n+(B1 (EZ (B0 l))).n:=h;have e:(AY l).g k=bif decide (k<0+(B1 (B0 l)).n)then(bif decide (k<0)then(⟨0,0⟩:L.Pt)else(B1 (B0 l)).g (k-0))else(B1 (EZ (B0 l))).g (k-(0+(B1 (B0 l)).n)):=rfl;rw[e];cases hd:decide (k<0+(B1 (B0 l)).n)with
 |true=>have:=of_decide_eq_true hd;exact a1 k (by omega)
 |false=>have:=of_decide_eq_false hd;exact a2 _ (by omega)
def UH (l:(L.Sq L.Pt)):Prop:=l.n<=1000000
def Pi (l:(L.Sq L.Pt)):Nat:=l.n
def UI (l:(L.Sq L.Pt)):Nat->List SV:=fun k=>[(.agg [.int .i64 ((l.g (k:Int).toNat).x),.int .i64 ((l.g (k:Int).toNat).y)])]
def UJ:List SV->Option (Prop×Nat×(Nat->List SV))
 |[.ref [.sl 2 l_n l_g] 0]=>some ((∀i,i<l_n->l_g i = [.int .i64 ((Ar (l_g i)).x),.int .i64 ((Ar (l_g i)).y)])/\UH (⟨l_n,fun i=>Ar (l_g i)⟩:(L.Sq L.Pt)),Pi (⟨l_n,fun i=>Ar (l_g i)⟩:(L.Sq L.Pt)),UI (⟨l_n,fun i=>Ar (l_g i)⟩:(L.Sq L.Pt)))
 |_=>none
abbrev UK:F2:=J5 UJ
def qT:Al:={ muts:=[],frz:=B8 [],specs:=AC [],loops:=fun _=>none,iters:=B3 [],rfs:=AP [] }
theorem qU (yl:Nat) (l:(L.Sq L.Pt)) (hp:UH l):vc Tryz.prog { qT with loops:=AT [(1,{ T:=Nat,keep:=[0,1,5,6],keepO:=[],chg:=fun i=>[(7,.p (.int .i64 (i:Int)))],own:=fun _=>[],inv:=fun i=>i<=l.n,mu:=fun i=>l.n-i,yk:=some (fun i=>i) })],yld:=some ⟨yl,Pi l,UI l⟩ } (Ai Tryz.f160) (Au Tryz.f160 (.yield yl::([.ref [.sl 2 l.n (fun i=>[.int .i64 ((l.g i).x),.int .i64 ((l.g i).y)])] 0]:List SV).map .p)) (J4 Tryz.prog Tryz.f160 (Pi l)):=
 @Eq.mpr _ (let I:=SV.int .i64;let T:=Aee;let A7:=(1:Int);let A5:=(1:Nat);let A3:=(↑l.n:Int);let A2:=[SV.sl (nat_lit 2) l.n fun(i:Nat)=>[I (l.g i).x,I (l.g i).y]];(∃(g:Nat),nat_lit 0=g/\false=false/\(0:Int)=(↑g:Int)/\g<=l.n)/\∀(g:Nat),let A1:=(↑g:Int);let A4:=[SV.agg [I (l.g (T A1)).x,I (l.g (T A1)).y]];g<=l.n->(decide (A1<A3)=true->((0:Int)<=A1/\A1<A3)/\yl=yl/\g<l.n/\A4=A4/\((false=true->g+A5=l.n\/g+A5=l.n+A5)/\(false=false->Ad .i64 (A1+A7)/\∃(g':Nat),g+A5=g'/\false=false/\A1+A7=(↑g':Int)/\A3=A3/\(l.n=l.n/\∀(i:Nat),let A6:=[I (l.g i).x,I (l.g i).y];i<l.n->A6=A6)/\yl=yl/\SV.ref A2 (nat_lit 0)=SV.ref A2 (nat_lit 0)/\g'<=l.n/\l.n-g'<l.n-g))/\(true=true->l.n+A5=l.n\/l.n+A5=l.n+A5)/\(true=false->Ad .i64 (A1+A7)/\∃(g':Nat),l.n+A5=g'/\false=false/\A1+A7=(↑g':Int)/\A3=A3/\False/\yl=yl/\False/\g'<=l.n/\l.n-g'<l.n-g))/\(decide (A1<A3)=false->g=l.n\/g=l.n+A5)) (by kernel_rfl) (by
 conv=>zeta
 have hn:l.n<=1000000:=hp;refine⟨⟨(0:Nat),rfl,rfl,rfl,AdL _⟩,fun g hg=>⟨fun hlt=>?_,fun hge=>?_⟩⟩
 ·have hb:(g:Int)<(l.n:Int):=of_decide_eq_true hlt;refine⟨⟨by omega,hb⟩,rfl,by omega,rfl,?_⟩;exact⟨⟨fun h=>(by cases h),fun _=>⟨jK,g+1,rfl,rfl,by omega,rfl,⟨rfl,fun _ _=>rfl⟩,rfl,rfl,by omega,by omega⟩⟩,fun _=>.inr rfl,fun h=>(by cases h)⟩
 ·have hb:¬ (g:Int)<(l.n:Int):=of_decide_eq_false hge;exact .inl (by omega))
theorem qV:Hm Tryz.prog 160 UK:=M6 Tryz.func160 (c:=Ai Tryz.f160) (by kernel_rfl) mixed (fun caps l p n g hs hp=>by
 unfold UJ at hs;split at hs
 ·cases hs; exact⟨_, _, qU l _ hp.2, (.cons (AX.ref rfl (fun i hi =>by
  rcases i with _|i
  ·show AX (SV.sl _ _ _) (SV.sl _ _ _);exact(AX.sl hp.1)
  exact absurd hi (by simp;try omega))) .nil),rfl,show Aa Tryz.prog _ from Aa.nil,⟨show Af Tryz.prog _ from Af.nil,AA.none (fun _=>rfl)⟩⟩
 ·cases hs)
theorem qW:As Tryz.prog 160:=fun args w=>by kernel_rfl
def UL (l:(L.Sq L.Pt)):Prop:=l.n<=1000000
def UM (l:(L.Sq L.Pt)):SV:=.clo 160 [.ref [(.sl 2 l.n (fun i=>[.int .i64 ((l.g i).x),.int .i64 ((l.g i).y)]))] 0]
def UN:List EV->Option (Prop×SV)
 |[.p (.sl 2 l_n l_g)]=>some ((∀i,i<l_n->l_g i = [.int .i64 ((Ar (l_g i)).x),.int .i64 ((Ar (l_g i)).y)])/\UL (⟨l_n,fun i=>Ar (l_g i)⟩:(L.Sq L.Pt)),UM (⟨l_n,fun i=>Ar (l_g i)⟩:(L.Sq L.Pt)))
 |_=>none
abbrev UO:SE.Spec:=(AI UN)
def qX:Al:={ muts:=[],frz:=B8 [],specs:=AC [],loops:=AT [],iters:=B3 [],rfs:=AP [],nils:=B6 [] }
theorem qY (l:(L.Sq L.Pt)) (hp:UL l):vc Tryz.prog (qX) (Ai Tryz.f137) (Au Tryz.f137 [.p (.sl 2 l.n (fun i=>[.int .i64 ((l.g i).x),.int .i64 ((l.g i).y)]))]) (AH Tryz.prog Tryz.f137 (UM l)):=
 @Eq.mpr _ (SV.clo (nat_lit 160) [SV.ref [SV.sl (nat_lit 2) l.n fun(i:Nat)=>[SV.int .i64 (l.g i).x,SV.int .i64 (l.g i).y]] (nat_lit 0)]=SV.clo (nat_lit 160) [SV.ref [SV.sl (nat_lit 2) l.n fun(i:Nat)=>[SV.int .i64 (l.g i).x,SV.int .i64 (l.g i).y]] (nat_lit 0)]) (by kernel_rfl) (by
 rfl)
theorem qZ:Ax Tryz.prog 137 UO:=AK Tryz.func137 (c:=Ai Tryz.f137) (by kernel_rfl) mixed (fun args p r hs hp=>by
 unfold UN at hs;split at hs
 ·cases hs;exact⟨_,_,qY _ hp.2,(.p (.sl hp.1) .nil),⟨show Aa Tryz.prog _ from Aa.nil,rfl,⟨show Af Tryz.prog _ from Af.nil,(AA.none (fun _=>rfl))⟩⟩⟩
 ·cases hs)
theorem rA:As Tryz.prog 137:=fun args w=>by kernel_rfl
def UP (s:Nat) (l:(L.Sq L.Pt)):Prop:=l.n<=1000000
def UQ (s:Nat) (l:(L.Sq L.Pt)):Nat->Prop:=fun _=>True
def UR (s:Nat) (l:(L.Sq L.Pt)):Nat->Nat:=fun _=>l.n
def US (s:Nat) (l:(L.Sq L.Pt)):Nat->Nat->List SV:=fun _ k=>[.int .i64 ((l.g k).x),.int .i64 ((l.g k).y)]
def UT:List EV->Option (Prop×(Nat->Prop)×(Nat->Nat)×(Nat->Nat->List SV))
 |[.p (.raw (.slice none 0 0)),.p (.clo 160 [.ref [.sl 2 l_n l_g] 0])]=>some ((∀i,i<l_n->l_g i = [.int .i64 ((Ar (l_g i)).x),.int .i64 ((Ar (l_g i)).y)])/\UP (0:Nat) (⟨l_n,fun i=>Ar (l_g i)⟩:(L.Sq L.Pt)),UQ (0:Nat) (⟨l_n,fun i=>Ar (l_g i)⟩:(L.Sq L.Pt)),UR (0:Nat) (⟨l_n,fun i=>Ar (l_g i)⟩:(L.Sq L.Pt)),US (0:Nat) (⟨l_n,fun i=>Ar (l_g i)⟩:(L.Sq L.Pt)))
 |_=>none
abbrev UU:SE.Spec:=(Ge Nat 0 66 2 UT)
def rB:Al:={ cC with muts:=[2,5],iters:=B3 [(160,UK)],nils:=B6 [(1,[(2,10,66,2)])] }
theorem rC (s:Nat) (l:(L.Sq L.Pt)) (hp:UP s l):vc Tryz.prog ({ rB with loops:=AT [],rfs:=AP [(2,{ T:=Nat,keep:=[2],keepO:=[],own:=fun k _=>[(2,.blk 52 [.row 10]),(10,.row 66 2 k (fun k=>[.int .i64 ((l.g k).x),.int .i64 ((l.g k).y)]))],inv:=fun k _=>k<=l.n })] }) (Ai Tryz.f184) (Au Tryz.f184 [.p (.raw (.slice none 0 0)),.p (.clo 160 [.ref [.sl 2 l.n (fun i=>[.int .i64 ((l.g i).x),.int .i64 ((l.g i).y)])] 0])]) (EW Tryz.prog Tryz.f184 (Nat) (UQ s l) 66 2 (UR s l) (US s l)):=
 @Eq.mpr _ (let I:=SV.int .i64;(((∀(i:Nat),let A2:=[I (l.g i).x,I (l.g i).y];i<l.n->A2=A2)/\l.n<=(1000000:Nat))/\∃(t:Nat),(nat_lit 0=(0:Nat)/\∀(i:Nat),i<nat_lit 0 -> []= [I (l.g i).x,I (l.g i).y])/\(0:Nat)<=l.n)/\(∀(k t:Nat) (vk:Nat->Go.Value),let A1:=(l.g (Aee (↑k:Int)));k<l.n->k<=l.n->(k+nat_lit 1)*nat_lit 16<=(140737488355328:Nat)/\∃(t':Nat),nat_lit 0=nat_lit 0/\vk (nat_lit 2)=vk (nat_lit 2)/\(k+nat_lit 1=k+(1:Nat)/\∀(i:Nat),i<k+nat_lit 1->AN k (fun(k:Nat)=>[I (l.g k).x,I (l.g k).y]) (fun(x:Nat)=>[I A1.x,I A1.y]) i = [I (l.g i).x,I (l.g i).y])/\k+(1:Nat)<=l.n)/\∀(t:Nat),l.n<=l.n->∃(t:Nat),(l.n=l.n/\∀(i:Nat),let A3:=[I (l.g i).x,I (l.g i).y];i<l.n->A3=A3)/\True) (by kernel_rfl) (by
 conv=>zeta
 have hn:l.n<=1000000:=hp;refine⟨⟨⟨fun _ _=>rfl,hn⟩,(0:Nat),⟨rfl,fun i hi=>absurd hi (nT _)⟩,AdL _⟩,fun k t vk hk hi=>⟨show(k+1)*16<=140737488355328 by omega,(0:Nat),rfl,rfl,⟨rfl,fun i hi=>?_⟩,by omega⟩,fun t hi=>⟨(0:Nat),⟨rfl,fun _ _=>rfl⟩,trivial⟩⟩;have hi:i<k+1:=hi;have e0:((k:Int)).toNat=k:=by omega
 unfold AN
 by_cases h':i<k
 ·rw[if_pos h']
 ·rw[if_neg h'];obtain rfl:i=k:=by omega
  dsimp only;rw[e0])
theorem rD:Ax Tryz.prog 184 UU:=G3 Tryz.func184 (c:=Ai Tryz.f184) (by kernel_rfl) mixed (fun args p q n g hs hp=>by
 unfold UT at hs;split at hs
 ·cases hs; exact⟨_, _, rC _ _ hp.2, (.same _ (.p (AX.clo rfl (fun i hi =>by
  rcases i with _|i
  ·show AX (SV.ref _ _) (SV.ref _ _);exact(AX.ref rfl (fun i hi=>by
  rcases i with _|i
  ·show AX (SV.sl _ _ _) (SV.sl _ _ _);exact(AX.sl hp.1)
  exact absurd hi (by simp;try omega)))
  exact absurd hi (by simp;try omega))) .nil)),⟨show Aa Tryz.prog _ from Aa.nil,rfl,⟨show Af Tryz.prog _ from(Af.cons qV qW Af.nil),(AA.none (fun _=>rfl))⟩⟩⟩
 ·cases hs)
theorem rE:As Tryz.prog 184:=fun args w=>by kernel_rfl
def UV (l:(L.Sq L.Pt)):Prop:=l.n<=1000000
def UW (l:(L.Sq L.Pt)):Nat->Prop:=fun _=>True
def UX (l:(L.Sq L.Pt)):Nat->Nat:=fun _=>l.n
def UY (l:(L.Sq L.Pt)):Nat->Nat->List SV:=fun _ k=>[.int .i64 ((l.g k).x),.int .i64 ((l.g k).y)]
def UZ:List EV->Option (Prop×(Nat->Prop)×(Nat->Nat)×(Nat->Nat->List SV))
 |[.p (.clo 160 [.ref [.sl 2 l_n l_g] 0])]=>some ((∀i,i<l_n->l_g i = [.int .i64 ((Ar (l_g i)).x),.int .i64 ((Ar (l_g i)).y)])/\UV (⟨l_n,fun i=>Ar (l_g i)⟩:(L.Sq L.Pt)),UW (⟨l_n,fun i=>Ar (l_g i)⟩:(L.Sq L.Pt)),UX (⟨l_n,fun i=>Ar (l_g i)⟩:(L.Sq L.Pt)),UY (⟨l_n,fun i=>Ar (l_g i)⟩:(L.Sq L.Pt)))
 |_=>none
abbrev Va:SE.Spec:=(Ge Nat 0 66 2 UZ)
def rF:Al:={ cC with muts:=[4],specs:=AC [(184,UU)],raws:=[184] }
theorem rG (l:(L.Sq L.Pt)) (hp:UV l):vc Tryz.prog (rF) (Ai Tryz.f158) (Au Tryz.f158 [.p (.clo 160 [.ref [.sl 2 l.n (fun i=>[.int .i64 ((l.g i).x),.int .i64 ((l.g i).y)])] 0])]) (EW Tryz.prog Tryz.f158 (Nat) (UW l) 66 2 (UX l) (UY l)):=
 @Eq.mpr _ (let I:=SV.int .i64;((∀(i:Nat),let A1:=[I (l.g i).x,I (l.g i).y];i<l.n->A1=A1)/\l.n<=(1000000:Nat))/\∀(t:Nat),True->∃(t:Nat),(l.n=l.n/\∀(i:Nat),let A2:=[I (l.g i).x,I (l.g i).y];i<l.n->A2=A2)/\True) (by kernel_rfl) (by
 conv=>zeta
 exact⟨⟨fun _ _=>rfl,hp⟩,fun t _=>⟨(0:Nat),⟨rfl,fun _ _=>rfl⟩,trivial⟩⟩)
theorem rH:Ax Tryz.prog 158 Va:=G3 Tryz.func158 (c:=Ai Tryz.f158) (by kernel_rfl) mixed (fun args p q n g hs hp=>by
 unfold UZ at hs;split at hs
 ·cases hs; exact⟨_, _, rG _ hp.2, (.p (AX.clo rfl (fun i hi =>by
  rcases i with _|i
  ·show AX (SV.ref _ _) (SV.ref _ _);exact(AX.ref rfl (fun i hi=>by
  rcases i with _|i
  ·show AX (SV.sl _ _ _) (SV.sl _ _ _);exact(AX.sl hp.1)
  exact absurd hi (by simp;try omega)))
  exact absurd hi (by simp;try omega))) .nil),⟨show Aa Tryz.prog _ from(Aa.cons rD rE Aa.nil),rfl,⟨show Af Tryz.prog _ from Af.nil,(AA.none (fun _=>rfl))⟩⟩⟩
 ·cases hs)
theorem rI:As Tryz.prog 158:=fun args w=>by kernel_rfl
def Vb (l:(L.Sq L.Pt)):Prop:=l.n<=1000000
def Vc (l:(L.Sq L.Pt)):Nat->Prop:=fun _=>True
def Vd (l:(L.Sq L.Pt)):Nat->Nat:=fun _=>l.n
def Ve (l:(L.Sq L.Pt)):Nat->Nat->List SV:=fun _ k=>[.int .i64 (((B0 l).g k).x),.int .i64 (((B0 l).g k).y)]
def Vf:List EV->Option (Prop×(Nat->Prop)×(Nat->Nat)×(Nat->Nat->List SV))
 |[.p (.clo 160 [.ref [.sl 2 l_n l_g] 0]),.p (.clo 104 [])]=>some ((∀i,i<l_n->l_g i = [.int .i64 ((Ar (l_g i)).x),.int .i64 ((Ar (l_g i)).y)])/\Vb (⟨l_n,fun i=>Ar (l_g i)⟩:(L.Sq L.Pt)),Vc (⟨l_n,fun i=>Ar (l_g i)⟩:(L.Sq L.Pt)),Vd (⟨l_n,fun i=>Ar (l_g i)⟩:(L.Sq L.Pt)),Ve (⟨l_n,fun i=>Ar (l_g i)⟩:(L.Sq L.Pt)))
 |_=>none
abbrev Vg:SE.Spec:=(Ge Nat 0 66 2 Vf)
def rJ:Al:={ cC with muts:=[7],specs:=AC [(158,Va),(104,OW)],trs:=Ht [(159,UB)],ren:=fun k=>k-998,raws:=[158] }
theorem rK (l:(L.Sq L.Pt)) (hp:Vb l):vc Tryz.prog (rJ) (Ai Tryz.f136) (Au Tryz.f136 [.p (.clo 160 [.ref [.sl 2 l.n (fun i=>[.int .i64 ((l.g i).x),.int .i64 ((l.g i).y)])] 0]),.p (.clo 104 [])]) (EW Tryz.prog Tryz.f136 (Nat) (Vc l) 66 2 (Vd l) (Ve l)):=
 @Eq.mpr _ (let I:=SV.int .i64;((∀(i:Nat),let A1:=[I (l.g i).x,I (l.g i).y];i<l.n->A1=A1)/\l.n<=(1000000:Nat))/\∀(t:Nat),True->∃(t:Nat×(Nat->L.Pt)),SV.clo (nat_lit 104) []=SV.clo (104:Nat) []/\(l.n=t.1/\∀(i:Nat),i<l.n -> [I (l.g i).x,I (l.g i).y]= [I (t.2 i).x,I (t.2 i).y])/\t.1<=(1000000:Nat)/\∀(u:Nat->L.Pt),Dj Cw t.1 t.2 u->∃(t_1:Nat),(t.1=l.n/\∀(i:Nat),i<t.1 -> [I (u i).x,I (u i).y]= [I ((B0 l).g i).x,I ((B0 l).g i).y])/\True) (by kernel_rfl) (by
 conv=>zeta
 have hn:l.n<=1000000:=hp;refine⟨⟨fun _ _=>rfl,hn⟩,fun t _=>⟨(l.n,l.g),rfl,⟨rfl,fun _ _=>rfl⟩,hn,fun u hu=>⟨(0:Nat),⟨rfl,fun i hi=>?_⟩,trivial⟩⟩⟩;rw[qM (l:=l) hu i hi])
theorem rL:Ax Tryz.prog 136 Vg:=G3 Tryz.func136 (c:=Ai Tryz.f136) (by kernel_rfl) mixed (fun args p q n g hs hp=>by
 unfold Vf at hs;split at hs
 ·cases hs; exact⟨_, _, rK _ hp.2, (.p (AX.clo rfl (fun i hi =>by
  rcases i with _|i
  ·show AX (SV.ref _ _) (SV.ref _ _);exact(AX.ref rfl (fun i hi=>by
  rcases i with _|i
  ·show AX (SV.sl _ _ _) (SV.sl _ _ _);exact(AX.sl hp.1)
  exact absurd hi (by simp;try omega)))
  exact absurd hi (by simp;try omega))) (.p (AX.clo rfl (fun i hi=>by
  exact absurd hi (by simp;try omega))) .nil)),⟨show Aa Tryz.prog _ from(Aa.cons rH rI (Aa.cons OX OY Aa.nil)),rfl,⟨show Af Tryz.prog _ from Af.nil,⟨show DE Tryz.prog _ from(DE.cons qP qQ DE.nil),⟨Gx.no1 (fun _=>rfl),FamsOk.none (fun _=>rfl)⟩⟩⟩⟩⟩
 ·cases hs)
theorem rM:As Tryz.prog 136:=fun args w=>by kernel_rfl
def Vh (l:(L.Sq L.Pt)):Prop:=1<=l.n/\l.n<=1000000/\∀i,i<l.n->AF (l.g i)
def Vi (l:(L.Sq L.Pt)):Nat->Prop:=fun _=>True
def Vj (l:(L.Sq L.Pt)):Nat->Nat:=fun _=>(B1 l).n
def Vk (l:(L.Sq L.Pt)):Nat->Nat->List SV:=fun _ k=>[.int .i64 (((B1 l).g k).x),.int .i64 (((B1 l).g k).y)]
def Vl:List EV->Option (Prop×(Nat->Prop)×(Nat->Nat)×(Nat->Nat->List SV))
 |[.p (.sl 2 l_n l_g)]=>some ((∀i,i<l_n->l_g i = [.int .i64 ((Ar (l_g i)).x),.int .i64 ((Ar (l_g i)).y)])/\Vh (⟨l_n,fun i=>Ar (l_g i)⟩:(L.Sq L.Pt)),Vi (⟨l_n,fun i=>Ar (l_g i)⟩:(L.Sq L.Pt)),Vj (⟨l_n,fun i=>Ar (l_g i)⟩:(L.Sq L.Pt)),Vk (⟨l_n,fun i=>Ar (l_g i)⟩:(L.Sq L.Pt)))
 |_=>none
abbrev Vm:SE.Spec:=(Ge Nat 0 66 2 Vl)
def rN:Al:={ cC with muts:=[5],specs:=AC [(103,JB)],nils:=B6 [(2,[(3,32,66,2)])],cuts:=[36,46] }
theorem rO (l:(L.Sq L.Pt)) (hp:Vh l):vc Tryz.prog ({ rN with loops:=AT [(3,{ T:=Nat,keep:=[3,6,7],keepO:=[],chg:=fun i=>[(8,.p (.int .i64 (i:Int)))],own:=fun i=>[(32,.row 66 2 (BL (BS l i)) (fun k=>[.int .i64 ((BX (BS l i) k).x),.int .i64 ((BX (BS l i) k).y)]))],inv:=fun i=>i<=l.n,mu:=fun i=>l.n-i }),(5,{ T:=Nat×List L.Pt,keep:=[3,5,6,7,8],keepO:=[5],tie:=fun g=>[(8,.int .i64 (g.1:Int))],chg:=fun g=>[],own:=fun g=>[(32,.row 66 2 (BL g.2) (fun k=>[.int .i64 ((BX g.2 k).x),.int .i64 ((BX g.2 k).y)]))],inv:=fun g=>g.1<l.n/\Dm (l.g g.1) g.2=Dm (l.g g.1) (BS l g.1)/\(∀q,G8 q g.2->G8 q (BS l g.1))/\BL g.2<=g.1,mu:=fun g=>BL g.2 })],rfs:=AP [] }) (Ai Tryz.f138) (Au Tryz.f138 [.p (.sl 2 l.n (fun i=>[.int .i64 ((l.g i).x),.int .i64 ((l.g i).y)]))]) (EW Tryz.prog Tryz.f138 (Nat) (Vi l) 66 2 (Vj l) (Vk l)):=
 @Eq.mpr _ (let I:=SV.int .i64;let T:=Aee;let A11:=(0:Int);let A9:=(↑l.n:Int);let A6:=(l.n=l.n/\∀(i:Nat),let A15:=[I (l.g i).x,I (l.g i).y];i<l.n->A15=A15);let A3:=(1:Int);(∃(g:Nat),A11=(↑g:Int)/\(nat_lit 0=BL (BS l g)/\∀(i:Nat),let A14:=(BX (BS l g) i);i<nat_lit 0 -> []= [I A14.x,I A14.y])/\g<=l.n)/\∀(g:Nat),let A7:=(BS l g);let A5:=(↑g:Int);let A8:=(l.g (T A5));let A4:=(↑(BL A7):Int);g<=l.n->(decide (A5<A9)=true->(A11<=A5/\A5<A9)/\(∃(g_1:Nat×List L.Pt),(BL A7=BL g_1.2/\∀(i:Nat),i<BL A7 -> [I (BX A7 i).x,I (BX A7 i).y]= [I (BX g_1.2 i).x,I (BX g_1.2 i).y])/\A5=(↑g_1.1:Int)/\g_1.1<l.n/\Dm (l.g g_1.1) g_1.2=Dm (l.g g_1.1) (BS l g_1.1)/\(∀(q:L.Pt),G8 q g_1.2->G8 q (BS l g_1.1))/\BL g_1.2<=g_1.1)/\∀(g_1:Nat×List L.Pt),let A1:=(↑(BL g_1.2):Int);let A12:=(A1-A3);let A17:=(BX g_1.2 (T A12));let A10:=(A1-(2:Int));let A16:=(BX g_1.2 (T A10));let A2:=(bif decide (A3<A1)then decide (B9 A16 A17 A8<=A11)else false);A5=(↑g_1.1:Int)/\g_1.1<l.n/\Dm (l.g g_1.1) g_1.2=Dm (l.g g_1.1) (BS l g_1.1)/\(∀(q:L.Pt),G8 q g_1.2->G8 q (BS l g_1.1))/\BL g_1.2<=g_1.1->(decide (A3<A1)=true->Ad .i64 A10)/\(decide (A3<A1)=true->A11<=A1-(2:Int)/\A1-(2:Int)<A1)/\(decide (A3<A1)=true->T A10<BL g_1.2)/\(decide (A3<A1)=true->Ad .i64 A12)/\(decide (A3<A1)=true->A11<=A1-A3/\A1-A3<A1)/\(decide (A3<A1)=true->T A12<BL g_1.2)/\(decide (A3<A1)=true->AF A16/\AF A17/\AF A8)/\(A2=true->Ad .i64 A12/\(A11<=A1-A3/\A1-A3<=A1)/\∃(g':Nat×List L.Pt),nat_lit 0=nat_lit 0/\A5=A5/\A9=A9/\A6/\(T A12=BL g'.2/\∀(i:Nat),i<T A12 -> [I (BX g_1.2 i).x,I (BX g_1.2 i).y]= [I (BX g'.2 i).x,I (BX g'.2 i).y])/\A8.x=A8.x/\A8.y=A8.y/\(A5=(↑g'.1:Int)/\g'.1<l.n/\Dm (l.g g'.1) g'.2=Dm (l.g g'.1) (BS l g'.1)/\(∀(q:L.Pt),G8 q g'.2->G8 q (BS l g'.1))/\BL g'.2<=g'.1)/\BL g'.2<BL g_1.2)/\(A2=false->(BL g_1.2+nat_lit 1)*nat_lit 16<=(140737488355328:Nat)/\Ad .i64 (A5+A3)/\∃(g':Nat),A5+A3=(↑g':Int)/\A9=A9/\A6/\(BL g_1.2+nat_lit 1=BL (BS l g')/\∀(i:Nat),let A13:=(BX (BS l g') i);i<BL g_1.2+nat_lit 1->AN (BL g_1.2) (fun(k:Nat)=>[I (BX g_1.2 k).x,I (BX g_1.2 k).y]) (fun(x:Nat)=>[I A8.x,I A8.y]) i = [I A13.x,I A13.y])/\g'<=l.n/\l.n-g'<l.n-g))/\(decide (A5<A9)=false->Ad .i64 (A4-A3)/\(A11<=A4-A3/\A4-A3<=A4)/\∃(t:Nat),(T (A4-A3)=(B1 l).n/\∀(i:Nat),i<T (A4-A3) -> [I (BX A7 i).x,I (BX A7 i).y]= [I ((B1 l).g i).x,I ((B1 l).g i).y])/\True)) (by kernel_rfl) (by
 conv=>zeta
 obtain⟨h1,hn,hb⟩:=hp;have len0:∀k,BL (BS l k)<=k:=Lf l;have bdc:∀k,k<=l.n->∀q,G8 q (BS l k)->AF q:=fun k hk q hq=>by
  obtain⟨i,hi,rfl⟩:=Ph hq;exact hb i (by omega)
 refine⟨⟨(0:Nat),rfl,⟨rfl,fun i hi=>absurd hi (nT _)⟩,AdL _⟩,fun g hg=>⟨fun hlt=>?_,fun hge=>?_⟩⟩
 ·have hb':(g:Int)<(l.n:Int):=of_decide_eq_true hlt;have e0:((g:Int)).toNat=g:=by omega
  refine⟨⟨by omega,hb'⟩,⟨(g,BS l g),⟨rfl,fun _ _=>rfl⟩,rfl,by omega,rfl,fun _ h=>h,len0 g⟩,fun g1 hg1=>?_⟩;obtain⟨g0,st⟩:=g1;obtain⟨e1,q1,q2,q3,q4⟩:=hg1;have e1:(g:Int)=(g0:Int):=e1;obtain rfl:g=g0:=by omega
  have q2:Dm (l.g g) st=Dm (l.g g) (BS l g):=q2;have q3:∀q,G8 q st->G8 q (BS l g):=q3;have q4:BL st<=g:=q4;have mb:∀k,k<BL st->AF (BX st k):=fun k hk=>bdc g hg _ (q3 _ (UF hk));rw[e0];dsimp only;refine⟨fun h=>?_,fun h=>?_,fun h=>?_,fun h=>?_,fun h=>?_,fun h=>?_,fun h=>?_,fun hc=>?_,fun hc=>?_⟩
  any_goals (try have h:(1:Int)<(BL st:Int):=of_decide_eq_true h)
  ·exact jK
  ·omega
  ·omega
  ·exact jK
  ·omega
  ·omega
  ·exact⟨mb _ (by omega),mb _ (by omega),hb g (by omega)⟩
  ·cases hd:decide ((1:Int)<(BL st:Int))with
   |false=>rw[hd]at hc;cases hc
   |true =>
     have h:(1:Int)<(BL st:Int):=of_decide_eq_true hd;rw[hd]at hc;have hc:=of_decide_eq_true hc
     match st,h with
     |b::a::r,h =>
       have f1:(((BL (b::a::r):Nat):Int)-2).toNat=r.length:=by show(((r.length+1+1:Nat):Int)-2).toNat=r.length;omega
       have f2:(((BL (b::a::r):Nat):Int)-1).toNat=r.length+1:=by show(((r.length+1+1:Nat):Int)-1).toNat=r.length+1;omega
       have g1:BX (b::a::r) (r.length+1)=b:=Lg;have g2:BX (b::a::r) r.length=a:=(MK (by simp)).trans Lg;rw[f1,f2,g1,g2]at hc;refine⟨jK,⟨by omega,by omega⟩,(g,a::r),rfl,rfl,rfl,⟨rfl,fun _ _=>rfl⟩,⟨f2,fun i hi=>?_⟩,rfl,rfl,⟨rfl,q1,?_,fun q hq=>q3 q (AdJ _ hq),?_⟩,?_⟩
       ·rw[f2]at hi;have:BX (b::a::r) i=BX (a::r) i:=MK (by simpa using hi);rw[this]
       ·rw[<- q2];show Dm (l.g g) (a::r)=bif decide (B9 a b (l.g g)<=0)then Dm (l.g g) (a::r)else b::a::r;rw[decide_eq_true hc];rfl
       ·have:r.length+1+1<=g:=q4;show r.length+1<=g;omega
       ·show r.length+1<r.length+1+1;omega
     |[],h=>exact absurd h (by show ¬ (1:Int)<((0:Nat):Int);omega)
     |[a],h=>exact absurd h (by show ¬ (1:Int)<((1:Nat):Int);omega)
  ·have hp' : Dm (l.g g) st = st :=by
    match st,hc with
    |[],_=>rfl
    |[a],_=>rfl
    |b::a::r,hc =>
      have f1:(((BL (b::a::r):Nat):Int)-2).toNat=r.length:=by show(((r.length+1+1:Nat):Int)-2).toNat=r.length;omega
      have f2:(((BL (b::a::r):Nat):Int)-1).toNat=r.length+1:=by show(((r.length+1+1:Nat):Int)-1).toNat=r.length+1;omega
      have g1:BX (b::a::r) (r.length+1)=b:=Lg;have g2:BX (b::a::r) r.length=a:=(MK (by simp)).trans Lg;have hl:(1:Int)<((BL (b::a::r):Nat):Int):=by show(1:Int)<((r.length+1+1:Nat):Int);omega
      rw[decide_eq_true hl,f1,f2,g1,g2]at hc;have hc:decide (B9 a b (l.g g)<=0)=false:=hc;show(bif decide (B9 a b (l.g g)<=0)then Dm (l.g g) (a::r)else b::a::r)=b::a::r;rw[hc];rfl
   have e2:BS l (g+1)=l.g g::st:=by
    show l.g g::Dm (l.g g) (BS l g)=l.g g::st;rw[<- q2,hp']
   refine⟨show(BL st+1)*16<=140737488355328 by omega,jK,g+1,by omega,rfl,⟨rfl,fun _ _=>rfl⟩,?_,by omega,by omega⟩;rw[e2];refine⟨rfl,fun i hi=>?_⟩;have hi:i<BL st+1:=hi;unfold AN
   by_cases h':i<BL st
   ·rw[if_pos h'];have:BX (l.g g::st) i=BX st i:=MK h';rw[this]
   ·rw[if_neg h'];obtain rfl:i=BL st:=by omega
    have:BX (l.g g::st) (BL st)=l.g g:=Lg;rw[this]
 ·have hb':¬ (g:Int)<(l.n:Int):=of_decide_eq_false hge;obtain rfl:g=l.n:=by omega
  have l1:1<=BL (BS l l.n):=by
   match hh:l.n,h1 with
   |m+1,_=>exact Afv (AdL _)
  have l2:=len0 l.n;have e2:(((BL (BS l l.n):Nat):Int)-1).toNat=(B1 l).n:=by
   show(((BL (BS l l.n):Nat):Int)-1).toNat=BL (BS l l.n)-1;omega
  exact⟨jK,⟨by omega,by omega⟩,(0:Nat),⟨e2,fun _ _=>rfl⟩,trivial⟩)
theorem rP:Ax Tryz.prog 138 Vm:=G3 Tryz.func138 (c:=Ai Tryz.f138) (by kernel_rfl) mixed (fun args p q n g hs hp=>by
 unfold Vl at hs;split at hs
 ·cases hs;exact⟨_,_,rO _ hp.2,(.p (.sl hp.1) .nil),⟨show Aa Tryz.prog _ from(Aa.cons Lb Lc Aa.nil),rfl,⟨show Af Tryz.prog _ from Af.nil,(AA.none (fun _=>rfl))⟩⟩⟩
 ·cases hs)
theorem rQ:As Tryz.prog 138:=fun args w=>by kernel_rfl
def Vn (l:(L.Sq L.Pt)):Prop:=2<=l.n/\l.n<=1000/\∀i,i<l.n->AF (l.g i)
def Vo (l:(L.Sq L.Pt)):Nat->Prop:=fun _=>True
def Vp (l:(L.Sq L.Pt)):Nat->Nat:=fun _=>(AY l).n
def Vq (l:(L.Sq L.Pt)):Nat->Nat->List SV:=fun _ k=>[.int .i64 (((AY l).g k).x),.int .i64 (((AY l).g k).y)]
def Vr:List EV->Option (Prop×(Nat->Prop)×(Nat->Nat)×(Nat->Nat->List SV))
 |[.p (.sl 2 l_n l_g)]=>some ((∀i,i<l_n->l_g i = [.int .i64 ((Ar (l_g i)).x),.int .i64 ((Ar (l_g i)).y)])/\Vn (⟨l_n,fun i=>Ar (l_g i)⟩:(L.Sq L.Pt)),Vo (⟨l_n,fun i=>Ar (l_g i)⟩:(L.Sq L.Pt)),Vp (⟨l_n,fun i=>Ar (l_g i)⟩:(L.Sq L.Pt)),Vq (⟨l_n,fun i=>Ar (l_g i)⟩:(L.Sq L.Pt)))
 |_=>none
abbrev Vs:SE.Spec:=(Ge Nat 0 66 2 Vr)
def rR:Al:={ cC with muts:=[7,18],specs:=AC [(137,UO),(136,Vg),(138,Vm),(140,U2)],trs:=Ht [(139,JG)],ren:=fun k=>k-998,raws:=[136] }
theorem rS (l:(L.Sq L.Pt)) (hp:Vn l):vc Tryz.prog (rR) (Ai Tryz.f107) (Au Tryz.f107 [.p (.sl 2 l.n (fun i=>[.int .i64 ((l.g i).x),.int .i64 ((l.g i).y)]))]) (EW Tryz.prog Tryz.f107 (Nat) (Vo l) 66 2 (Vp l) (Vq l)):=
 @Eq.mpr _ (let I:=SV.int .i64;let A12:=(true&&(true&&true));let A9:=(1000000:Nat);let A8:=(1:Nat);let A7:=((∀(i:Nat),let A15:=[I (l.g i).x,I (l.g i).y];i<l.n->A15=A15)/\l.n<=A9);let A1:=(L.Sq.mk (B1 (L.Sq.mk l.n fun(i:Nat)=>(B0 (L.Sq.mk l.n fun(i:Nat)=>l.g i)).g i)).n fun(i:Nat)=>(B1 (L.Sq.mk l.n fun(i:Nat)=>(B0 (L.Sq.mk l.n fun(i:Nat)=>l.g i)).g i)).g i);A7/\A7/\∀(t:Nat),True->((∀(i:Nat),let A6:=((B0 (L.Sq.mk l.n fun(i:Nat)=>l.g i)).g i);i<l.n -> [I A6.x,I A6.y]= [I A6.x,I A6.y])/\A8<=l.n/\l.n<=A9/\∀(i:Nat),i<l.n->AF ((B0 (L.Sq.mk l.n fun(i:Nat)=>l.g i)).g i))/\∀(t:Nat),True->(∀(i:Nat),i<(B1 (L.Sq.mk l.n fun(i:Nat)=>(B0 (L.Sq.mk l.n fun(i:Nat)=>l.g i)).g i)).n->A12=true)/\∃(t:L.Sq L.Pt),let A3:=(L.Sq.mk (B1 (L.Sq.mk t.n fun(i:Nat)=>t.g (t.n-A8-i))).n fun(i:Nat)=>(B1 (L.Sq.mk t.n fun(i:Nat)=>t.g (t.n-A8-i))).g i);let A16:=(Fs A1 A3 (0:Nat));(l.n=t.n/\∀(i:Nat),let A11:=((B0 (L.Sq.mk l.n fun(i:Nat)=>l.g i)).g i);i<l.n -> [I A11.x,I A11.y]= [I (t.g i).x,I (t.g i).y])/\t.n<=A9/\∀(u:Nat),True->((∀(i:Nat),let A10:=(t.g (t.n-A8-i));i<t.n -> [I A10.x,I A10.y]= [I A10.x,I A10.y])/\A8<=t.n/\t.n<=A9/\∀(i:Nat),i<t.n->AF (t.g (t.n-A8-i)))/\∀(t_1:Nat),True->(∀(i:Nat),i<(B1 (L.Sq.mk t.n fun(i:Nat)=>t.g (t.n-A8-i))).n->A12=true)/\(((∀(i:Nat),let A4:=(B1 (L.Sq.mk l.n fun(i:Nat)=>(B0 (L.Sq.mk l.n fun(i:Nat)=>l.g i)).g i));let A13:=[I (A4.g i).x,I (A4.g i).y];i<A4.n->A13=A13)/\∀(i:Nat),let A5:=(B1 (L.Sq.mk t.n fun(i:Nat)=>t.g (t.n-A8-i)));let A14:=[I (A5.g i).x,I (A5.g i).y];i<A5.n->A14=A14)/\A8<=A16.n+(Fs A1 A3 A8).n/\A16.n<=A9/\(Fs A1 A3 A8).n<=A9)/\∀(t_2:Nat),True->∃(t_3:Nat),((Cn (Fs A1 A3) (2:Nat)).n=(AY l).n/\∀(i:Nat),let A2:=(Cn (Fs (L.Sq.mk (B1 (L.Sq.mk l.n fun(i:Nat)=>(B0 (L.Sq.mk l.n fun(i:Nat)=>l.g i)).g i)).n fun(i:Nat)=>(B1 (L.Sq.mk l.n fun(i:Nat)=>(B0 (L.Sq.mk l.n fun(i:Nat)=>l.g i)).g i)).g i) (L.Sq.mk (B1 (L.Sq.mk t.n fun(i:Nat)=>t.g (t.n-A8-i))).n fun(i:Nat)=>(B1 (L.Sq.mk t.n fun(i:Nat)=>t.g (t.n-A8-i))).g i)) (2:Nat));i<A2.n -> [I (A2.g i).x,I (A2.g i).y]= [I ((AY l).g i).x,I ((AY l).g i).y])/\True) (by kernel_rfl) (by
 conv=>zeta
 obtain⟨h1,hn,hb⟩:=hp;have sb:∀i,i<l.n->AF ((B0 l).g i):=fun i hi=>by
  obtain⟨j,hj,e⟩:=Pg l hi;rw[e];exact hb j hj
 have cl:∀m:L.Sq L.Pt,(B1 m).n<=m.n:=fun m=>by
  have:=Lf m m.n;show(BS m m.n).length-1<=m.n;omega
 have c1:(B1 (B0 l)).n<=l.n:=cl (B0 l);have c2:(B1 (EZ (B0 l))).n<=l.n:=cl (EZ (B0 l));have c3:1<=(B1 (B0 l)).n:=qR (l:=B0 l) h1;refine⟨⟨fun _ _=>rfl,by omega⟩,⟨fun _ _=>rfl,by omega⟩,fun t _=>⟨⟨fun _ _=>rfl,by omega,by omega,sb⟩,fun t _=>⟨fun _ _=>rfl,B0 l,⟨rfl,fun _ _=>rfl⟩,show l.n<=1000000 by omega,fun u _=>⟨⟨fun _ _=>rfl,show 1<=l.n by omega,show l.n<=1000000 by omega,fun i hi=>sb _ ?_⟩,fun t1 _=>⟨fun _ _=>rfl,⟨⟨fun _ _=>rfl,fun _ _=>rfl⟩,?_,?_,?_⟩,fun t2 _=>⟨(0:Nat),⟨rfl,fun _ _=>rfl⟩,trivial⟩⟩⟩⟩⟩⟩
 ·have hi:i<l.n:=hi;show l.n-1-i<l.n;omega
 ·show 1<=(B1 (B0 l)).n+(B1 (EZ (B0 l))).n;omega
 ·show(B1 (B0 l)).n<=1000000;omega
 ·show(B1 (EZ (B0 l))).n<=1000000;omega)
theorem rT:Ax Tryz.prog 107 Vs:=G3 Tryz.func107 (c:=Ai Tryz.f107) (by kernel_rfl) mixed (fun args p q n g hs hp=>by
 unfold Vr at hs;split at hs
 ·cases hs;exact⟨_,_,rS _ hp.2,(.p (.sl hp.1) .nil),⟨show Aa Tryz.prog _ from(Aa.cons qZ rA (Aa.cons rL rM (Aa.cons rP rQ (Aa.cons qA qB Aa.nil)))),rfl,⟨show Af Tryz.prog _ from Af.nil,⟨show DE Tryz.prog _ from(DE.cons qE qD DE.nil),⟨Gx.no1 (fun _=>rfl),FamsOk.none (fun _=>rfl)⟩⟩⟩⟩⟩
 ·cases hs)
theorem rU:As Tryz.prog 107:=fun args w=>by kernel_rfl
end
section
set_option maxRecDepth 100000
set_option maxHeartbeats 4000000
set_option linter.unusedVariables false
attribute [local irreducible] vc
structure AO where
 fr:Int
 to_:Int
 area:Int
def GZ:List SV->AO
 |[.int _ a,.int _ b,.int _ c]=>⟨a,b,c⟩
 |_=>⟨0,0,0⟩
instance:Inhabited AO:=⟨⟨0,0,0⟩⟩
def Vt (p:AO):List Int:=[p.fr,p.to_,p.area]
def Gh (a b:AO):Int:=Bt a.fr b.fr
theorem rV:Go.Sort.SWO (Go.Proofs.ltOf Gh):=by
 have k:∀x y,Go.Proofs.ltOf Gh x y=true↔x.fr<y.fr:=fun x y=>by
  unfold Go.Proofs.ltOf Gh Bt;rw[decide_eq_true_iff]
  by_cases h1:x.fr<y.fr
  ·simp[h1]
  ·by_cases h2:y.fr<x.fr<;>simp[h1,h2]
 have kf:∀x y,Go.Proofs.ltOf Gh x y=false↔¬ x.fr<y.fr:=fun x y=>by
  rw[<- k,Bool.not_eq_true]
 refine⟨fun x=>?_,fun x y z=>?_,fun x y z=>?_⟩
 ·rw[kf];omega
 ·simp only[k];omega
 ·simp only[kf];omega
def FE (l h:L.Sq L.Pt) (k:Nat):Int:=C1 l (h.g k)
def Ft (l h:L.Sq L.Pt) (k:Nat):Int:=C1 l (h.g (Cf h.n k))
def E5 (l h:L.Sq L.Pt) (k:Nat):Bool:=!decide (Ft l h k=Aes (FE l h k+1) (l.n:Int))
def CO (n:Nat) (to_:Int) (j:Nat):Int:=Aes (to_+(n:Int)-(j:Int)) (n:Int)
def FF (n:Nat) (fr to_:Int):Nat:=(Aes (to_+(n:Int)-fr) (n:Int)).toNat
def Lh (l:L.Sq L.Pt) (fr to_:Int):L.Sq L.Pt:=⟨FF l.n fr to_+1,fun j=>l.g (CO l.n to_ j).toNat⟩
def G9 (l h:L.Sq L.Pt) (k:Nat):AO:=⟨FE l h k,Ft l h k,B4 (Lh l (FE l h k) (Ft l h k)) (Lh l (FE l h k) (Ft l h k)).n⟩
def EJ (l:L.Sq L.Pt):L.Sq AO:=⟨Cg (E5 l (AY l)) (AY l).n,fun i=>G9 l (AY l) (DG (E5 l (AY l)) (AY l).n i)⟩
def Fa (l:L.Sq L.Pt):Nat:=bif AB l then(EJ l).n else 0
def rW:Go.Shelf.Ren:=⟨fun|6=>109|15=>142|14=>141|28=>170|29=>171|20=>162|21=>163|22=>164|23=>165|24=>166|25=>167|26=>168|27=>169|46=>186|47=>187|48=>188|49=>189|50=>190|57=>202|n=>n,fun|22=>54|24=>62|25=>167|3=>3|39=>199|0=>0|53=>227|55=>229|4=>4|46=>220|45=>219|50=>224|5=>5|9=>9|66=>240|70=>244|76=>253|77=>254|n=>n,fun|n=>n⟩
theorem rX:Go.Proofs.SlLaysF0.n6 Tryz.prog rW:={
 mixed:=by kernel_rfl
 f6:=⟨Tryz.f109.name,by decide,Tryz.func109.trans (congrArg some (by kernel_rfl))⟩
 f14:=⟨Tryz.f141.name,by decide,Tryz.func141.trans (congrArg some (by kernel_rfl))⟩
 f15:=Tryz.func142.trans (congrArg some (by kernel_rfl))
 f20:=⟨Tryz.f162.name,by decide,Tryz.func162.trans (congrArg some (by kernel_rfl))⟩
 f21:=⟨Tryz.f163.name,by decide,Tryz.func163.trans (congrArg some (by kernel_rfl))⟩
 f22:=⟨Tryz.f164.name,by decide,Tryz.func164.trans (congrArg some (by kernel_rfl))⟩
 f23:=⟨Tryz.f165.name,by decide,Tryz.func165.trans (congrArg some (by kernel_rfl))⟩
 f24:=⟨Tryz.f166.name,by decide,Tryz.func166.trans (congrArg some (by kernel_rfl))⟩
 f25:=⟨Tryz.f167.name,by decide,Tryz.func167.trans (congrArg some (by kernel_rfl))⟩
 f26:=⟨Tryz.f168.name,by decide,Tryz.func168.trans (congrArg some (by kernel_rfl))⟩
 f27:=⟨Tryz.f169.name,by decide,Tryz.func169.trans (congrArg some (by kernel_rfl))⟩
 f28:=Tryz.func170.trans (congrArg some (by kernel_rfl))
 f29:=Tryz.func171.trans (congrArg some (by kernel_rfl))
 f46:=⟨Tryz.f186.name,by decide,Tryz.func186.trans (congrArg some (by kernel_rfl))⟩
 f47:=Tryz.func187.trans (congrArg some (by kernel_rfl))
 f48:=Tryz.func188.trans (congrArg some (by kernel_rfl))
 f49:=⟨Tryz.f189.name,by decide,Tryz.func189.trans (congrArg some (by kernel_rfl))⟩
 f50:=⟨Tryz.f190.name,by decide,Tryz.func190.trans (congrArg some (by kernel_rfl))⟩
 f57:=⟨Tryz.f202.name,by decide,Tryz.func202.trans (congrArg some (by kernel_rfl))⟩
 t0:=Tryz.underlying0
 a0:=Tryz.isAgg0
 z0:=Tryz.sizeOf0
 v0:=Tryz.zeroValue0
 t3:=Tryz.underlying3
 a3:=Tryz.isAgg3
 z3:=Tryz.sizeOf3
 v3:=Tryz.zeroValue3
 t4:=Tryz.underlying4
 a4:=Tryz.isAgg4
 z4:=Tryz.sizeOf4
 v4:=Tryz.zeroValue4
 t5:=Tryz.underlying5
 a5:=Tryz.isAgg5
 z5:=Tryz.sizeOf5
 v5:=Tryz.zeroValue5
 t9:=Tryz.underlying9
 a9:=Tryz.isAgg9
 z9:=Tryz.sizeOf9
 v9:=Tryz.zeroValue9
 t22:=Tryz.underlying54
 a22:=Tryz.isAgg54
 z22:=Tryz.sizeOf54
 v22:=Tryz.zeroValue54
 t25:=Tryz.underlying167
 a25:=Tryz.isAgg167
 z25:=Tryz.sizeOf167
 v25:=Tryz.zeroValue167
 t39:=Tryz.underlying199
 a39:=Tryz.isAgg199
 z39:=Tryz.sizeOf199
 v39:=Tryz.zeroValue199
 t45:=Tryz.underlying219
 a45:=Tryz.isAgg219
 z45:=Tryz.sizeOf219
 v45:=Tryz.zeroValue219
 t46:=Tryz.underlying220
 a46:=Tryz.isAgg220
 z46:=Tryz.sizeOf220
 v46:=Tryz.zeroValue220
 t50:=Tryz.underlying224
 a50:=Tryz.isAgg224
 z50:=Tryz.sizeOf224
 v50:=Tryz.zeroValue224
 t53:=Tryz.underlying227
 a53:=Tryz.isAgg227
 z53:=Tryz.sizeOf227
 v53:=Tryz.zeroValue227
 t55:=Tryz.underlying229
 a55:=Tryz.isAgg229
 z55:=Tryz.sizeOf229
 v55:=Tryz.zeroValue229
 t66:=Tryz.underlying240
 a66:=Tryz.isAgg240
 z66:=Tryz.sizeOf240
 v66:=Tryz.zeroValue240
 t70:=Tryz.underlying244
 a70:=Tryz.isAgg244
 z70:=Tryz.sizeOf244
 v70:=Tryz.zeroValue244
 t76:=Tryz.underlying253
 a76:=Tryz.isAgg253
 z76:=Tryz.sizeOf253
 v76:=Tryz.zeroValue253
 t77:=Tryz.underlying254
 a77:=Tryz.isAgg254
 z77:=Tryz.sizeOf254
 v77:=Tryz.zeroValue254 }
theorem ML {n:Nat} {to_:Int} (hn:0<n) (h0:0<=to_) {j:Nat} (hj:j<=n):0<=CO n to_ j/\CO n to_ j<(n:Int):=by
 unfold CO;exact⟨AeU (n:Int) (by omega),AeD _ (by omega)⟩
theorem Vu {n:Nat} {to_:Int} (h0:0<=to_) (h1:to_<(n:Int)):CO n to_ 0=to_:=by
 unfold CO;rw[show to_+(n:Int)-((0:Nat):Int)=to_+(n:Int)by omega,Ae2 (by omega),AeM,Ae9 h0 h1]
theorem rY {n:Nat} {to_:Int} (hn:0<n) (h0:0<=to_) {j:Nat} (hj:j<n):Aes (CO n to_ j+(n:Int)-1) (n:Int)=CO n to_ (j+1):=by
 have hb:=ML hn h0 (j:=j) (by omega);unfold CO at hb ⊢;rw[Ae2 (a:=to_+(n:Int)-(j:Int)) (by omega)]at hb ⊢;rw[Ae2 (by omega),Ae2 (a:=to_+(n:Int)-((j+1:Nat):Int)) (by omega)];rw[show(to_+(n:Int)-(j:Int)) % (n:Int)+(n:Int)-1=(to_+(n:Int)-(j:Int)) % (n:Int)+((n:Int)-1)by omega,Int.emod_add_emod,show to_+(n:Int)-(j:Int)+((n:Int)-1)=to_+(n:Int)-((j+1:Nat):Int)+(n:Int)by omega,AeM]
theorem Vv {n:Nat} {fr to_:Int} (hf0:0<=fr) (hf1:fr<(n:Int)) (ht0:0<=to_) (ht1:to_<(n:Int)) {j:Nat} (hj:j<=FF n fr to_):(CO n to_ j=fr↔j=FF n fr to_)/\FF n fr to_<n:=by
 unfold FF CO at *;rw[Ae2 (a:=to_+(n:Int)-fr) (by omega)]at hj ⊢
 by_cases h:fr<=to_
 ·have e1 : (to_+(n:Int)-fr) % (n:Int)= to_-fr :=by
   rw[show to_+(n:Int)-fr=to_-fr+(n:Int)by omega,AeM,Ae9 (by omega) (by omega)]
  rw[e1]at hj ⊢;rw[Ae2 (by omega),show to_+(n:Int)-(j:Int)=to_-(j:Int)+(n:Int)by omega,AeM,Ae9 (by omega) (by omega)];omega
 ·have e1:(to_+(n:Int)-fr) % (n:Int)=to_+(n:Int)-fr:=Ae9 (by omega) (by omega);rw[e1]at hj ⊢;rw[Ae2 (by omega)]
  by_cases h2:(j:Int)<=to_
  ·rw[show to_+(n:Int)-(j:Int)=to_-(j:Int)+(n:Int)by omega,AeM,Ae9 (by omega) (by omega)];omega
  ·rw[Ae9 (by omega) (by omega)];omega
theorem rZ {l:L.Sq L.Pt} (hs:E3 l) {fr to_:Int} (hn:l.n<=900) (hf0:0<=fr) (hf1:fr<(l.n:Int)) (ht0:0<=to_) (ht1:to_<(l.n:Int)):E3 (Lh l fr to_):=by
 have hlen:=(Vv hf0 hf1 ht0 ht1 (j:=0) (AdL _)).2;refine⟨show FF l.n fr to_+1<=1000 by omega,fun i hi=>?_⟩;have hi:i<FF l.n fr to_+1:=hi;have hb:=ML (n:=l.n) (by omega) ht0 (j:=i) (by omega);exact hs.2 _ (by omega)
theorem Vw {l:L.Sq L.Pt} {k:Nat} (hk:k<(AY l).n):0<=C1 l ((AY l).g k)/\C1 l ((AY l).g k)<(l.n:Int):=by
 obtain⟨i,hi,e⟩:=qS l hk;obtain⟨j,hj,e2,_⟩:=pT (l:=l) hi;rw[e,e2];omega
def Vx (a:AO) (b:AO):Prop:=True
def Vy (a:AO) (b:AO):SV:=.int .i64 (Gh a b)
def Pj:List EV->Option (Prop×SV)
 |[.p (.agg [.int .i64 a_fr,.int .i64 a_to_,.int .i64 a_area]),.p (.agg [.int .i64 b_fr,.int .i64 b_to_,.int .i64 b_area])]=>some (Vx (⟨a_fr,a_to_,a_area⟩:AO) (⟨b_fr,b_to_,b_area⟩:AO),Vy (⟨a_fr,a_to_,a_area⟩:AO) (⟨b_fr,b_to_,b_area⟩:AO))
 |_=>none
abbrev Vz:SE.Spec:=(AI Pj)
def sA:Al:={ cC with specs:=AC [(111,J9)] }
theorem sB (a:AO) (b:AO) (hp:Vx a b):vc Tryz.prog (sA) (Ai Tryz.f110) (Au Tryz.f110 [.p (.agg [.int .i64 a.fr,.int .i64 a.to_,.int .i64 a.area]),.p (.agg [.int .i64 b.fr,.int .i64 b.to_,.int .i64 b.area])]) (AH Tryz.prog Tryz.f110 (Vy a b)):=
 @Eq.mpr _ (True/\Bt a.fr b.fr=Gh a b) (by kernel_rfl) (by
 exact⟨trivial,rfl⟩)
theorem V0:Ax Tryz.prog 110 Vz:=AK Tryz.func110 (c:=Ai Tryz.f110) (by kernel_rfl) mixed (fun args p r hs hp=>by
 unfold Pj at hs;split at hs
 ·cases hs;exact⟨_,_,sB _ _ hp,(.same _ (.same _ .nil)),⟨show Aa Tryz.prog _ from(Aa.cons KZ La Aa.nil),rfl,⟨show Af Tryz.prog _ from Af.nil,(AA.none (fun _=>rfl))⟩⟩⟩
 ·cases hs)
theorem V1:As Tryz.prog 110:=fun args w=>by kernel_rfl
abbrev V2:Tr:=M9 62 3 110 1005 Vt Gh
theorem sC:FV Tryz.prog 109 V2:=OK (enc:=Vt) rX (by decide) (fun w=>Tryz.isAgg62 w) (fun w=>Tryz.sizeOf62 w) (fun _=>rfl) rV V0 V1 (fun x y=>show EX Pj [.p (.agg [.int .i64 x.fr,.int .i64 x.to_,.int .i64 x.area]),.p (.agg [.int .i64 y.fr,.int .i64 y.to_,.int .i64 y.area])]from trivial) (fun x y=>rfl) _ _
theorem sD:As Tryz.prog 109:=fun args w=>by kernel_rfl
def V3 (l:(L.Sq L.Pt)):Prop:=l.n<=1000000
def V4 (l:(L.Sq L.Pt)):(Nat->AO)->Prop:=fun u=>AB l=true->Dj Gh (EJ l).n (EJ l).g u
def V5 (l:(L.Sq L.Pt)):(Nat->AO)->SV:=fun u=>.tup [.sl 3 (Fa l) (fun i=>[.int .i64 ((u i).fr),.int .i64 ((u i).to_),.int .i64 ((u i).area)]),.int .i64 (bif AB l then 0 else 1)]
def V6:List EV->Option (Prop×((Nat->AO)->Prop)×((Nat->AO)->SV))
 |[.p (.sl 2 l_n l_g)]=>some ((∀i,i<l_n->l_g i = [.int .i64 ((Ar (l_g i)).x),.int .i64 ((Ar (l_g i)).y)])/\V3 (⟨l_n,fun i=>Ar (l_g i)⟩:(L.Sq L.Pt)),V4 (⟨l_n,fun i=>Ar (l_g i)⟩:(L.Sq L.Pt)),V5 (⟨l_n,fun i=>Ar (l_g i)⟩:(L.Sq L.Pt)))
 |_=>none
abbrev V7:SE.Spec:=(SB (Nat->AO) (fun _=>⟨0,0,0⟩) V6)
def sE:Al:={ cC with muts:=[4,5,7,40],specs:=AC [(64,JF),(107,Vs),(102,KX),(108,U6),(95,MG),(110,Vz)],iters:=B3 [(133,KW)],nils:=B6 [(5,[(4,68,62,3)])],trs:=Ht [(109,V2)],ren:=fun k=>k-937 }
theorem sF (l:(L.Sq L.Pt)) (hp:V3 l):vc Tryz.prog ({ sE with loops:=AT [(11,{ T:=Nat×Int×Int,keep:=[1,4,5,8,9,10],keepO:=[4,5,68],tie:=fun g=>[(8,.int .i64 g.2.1),(9,.int .i64 g.2.2)],chg:=fun g=>[(11,.p (.int .i64 (CO l.n g.2.2 g.1)))],own:=fun g=>[(40,.row 66 2 (g.1+1) (fun j=>[.int .i64 ((l.g (CO l.n g.2.2 j).toNat).x),.int .i64 ((l.g (CO l.n g.2.2 j).toNat).y)]))],inv:=fun g=>(0<=g.2.1/\g.2.1<(l.n:Int))/\(0<=g.2.2/\g.2.2<(l.n:Int))/\g.1<=FF l.n g.2.1 g.2.2,mu:=fun g=>l.n-g.1 })],rfs:=AP [(6,{ T:=Nat,keep:=[1,4,5],keepO:=[5],own:=fun k _=>[(4,.blk 54 [.row 68]),(68,.row 62 3 (Cg (E5 l (AY l)) k) (fun i=>[.int .i64 ((G9 l (AY l) (DG (E5 l (AY l)) k i)).fr),.int .i64 ((G9 l (AY l) (DG (E5 l (AY l)) k i)).to_),.int .i64 ((G9 l (AY l) (DG (E5 l (AY l)) k i)).area)]))],inv:=fun k _=>k<=(AY l).n })] }) (Ai Tryz.f66) (Au Tryz.f66 [.p (.sl 2 l.n (fun i=>[.int .i64 ((l.g i).x),.int .i64 ((l.g i).y)]))]) (OC Tryz.prog Tryz.f66 ((Nat->AO)) (V4 l) (V5 l)):=
 @Eq.mpr _ (let I:=SV.int .i64;let T:=Aee;let M:=Aes;let A46:=(EJ l);let A45:=(0:Nat);let A44:=(140737488355328:Nat);let A34:=(nat_lit 1);let A33:=(nat_lit 4);let A32:=(nat_lit 5);let A31:=(nat_lit 0);let A20:=(1:Int);let A18:=(0:Int);let A17:=(1:Nat);let A8:=(AY l);let A7:=(∀(i:Nat),let A43:=[I (l.g i).x,I (l.g i).y];i<l.n->A43=A43);let A27:=(A7/\l.n<=(1000000:Nat));let A6:=(↑l.n:Int);let A4:=[SV.sl (nat_lit 2) l.n fun(i:Nat)=>[I (l.g i).x,I (l.g i).y]];let A2:=(E5 l A8);let A1:=(L.Sq.mk l.n fun(i:Nat)=>l.g i);let A9:=(AY A1);let A5:=((∀(i:Nat),let A12:=(AY (L.Sq.mk l.n fun(i:Nat)=>l.g i));let A39:=[I (A12.g i).x,I (A12.g i).y];i<A12.n->A39=A39)/\A9.n<=(1000:Nat));A27/\((!AB A1)=true->∃(t:Nat->AO),Fa l=A45/\(A20=bif AB l then A18 else A20)/\(AB l=true->Dj Gh A46.n A46.g t))/\((!AB A1)=false->(A7/\(2:Nat)<=l.n/\l.n<=(1000:Nat)/\∀(i:Nat),i<l.n->AF (l.g i))/\∀(t:Nat),True->A5/\(A5/\∃(t:Nat),(nat_lit 0=Cg A2 A45/\∀(i:Nat),let A21:=(G9 l A8 (DG A2 A45 i));i<nat_lit 0 -> []= [I A21.fr,I A21.to_,I A21.area])/\A6=A6/\A45<=A8.n)/\(∀(k t_1:Nat) (vk:Nat->Go.Value),let A47:=(k+A17);let A36:=((↑k:Int)+A20);let A13:=(A9.g (T (↑k:Int)));let A35:=(C1 A1 A13+A20);let A3:=(T (M A36 (↑A9.n:Int)));let A26:=(A9.g A3);k<A9.n->k<=A8.n->(A18<=A20/\A20<(↑(3:Nat):Int))/\A27/\(A18<=(2:Int)/\(2:Int)<(↑(3:Nat):Int))/\A27/\Ad .i64 A35/\A6≠A18/\(decide (C1 A1 A26=M A35 A6)=true->∃(t':Nat),nat_lit 0=nat_lit 0/\nat_lit 0=nat_lit 0/\SV.ref A4 A31=SV.ref A4 A31/\vk A32=vk A32/\vk A33=vk A33/\vk A34=vk A34/\(Cg A2 k=Cg A2 A47/\∀(i:Nat),let A28:=(G9 l A8 (DG A2 k i));let A22:=(G9 l A8 (DG A2 A47 i));i<Cg A2 k -> [I A28.fr,I A28.to_,I A28.area]= [I A22.fr,I A22.to_,I A22.area])/\A6=A6/\k+A17<=A8.n)/\(decide (C1 A1 A26=M A35 A6)=false->(A18<=C1 A1 A26/\C1 A1 A26<A6)/\(∃(g:Nat×Int×Int),C1 A1 A26=CO l.n g.2.2 g.1/\(nat_lit 1=g.1+A17/\∀(i:Nat),let A40:=(l.g (T (CO l.n g.2.2 i)));let A23:=(L.Sq.mk l.n fun(i:Nat)=>l.g i);let A10:=(l.g (T (C1 A23 ((AY A23).g (T (M A36 (↑(AY A23).n:Int)))))));i<nat_lit 1->Ce [I A10.x,I A10.y] (nat_lit 2) i = [I A40.x,I A40.y])/\C1 A1 A13=g.2.1/\C1 A1 A26=g.2.2/\(A18<=g.2.1/\g.2.1<A6)/\(A18<=g.2.2/\g.2.2<A6)/\g.1<=FF l.n g.2.1 g.2.2)/\∀(g:Nat×Int×Int),let A42:=(g.1+A17);let A25:=(!decide (CO l.n g.2.2 g.1=C1 A1 A13));let A11:=(CO l.n g.2.2 g.1+A6-A20);C1 A1 A13=g.2.1/\C1 A1 A26=g.2.2/\(A18<=g.2.1/\g.2.1<A6)/\(A18<=g.2.2/\g.2.2<A6)/\g.1<=FF l.n g.2.1 g.2.2->(A25=true->Ad .i64 (CO l.n g.2.2 g.1+A6)/\Ad .i64 A11/\A6≠A18/\(A18<=M A11 A6/\M A11 A6<A6)/\(g.1+A17+nat_lit 1)*nat_lit 16<=A44/\∃(g':Nat×Int×Int),M A11 A6=CO l.n g'.2.2 g'.1/\C1 A1 A26=C1 A1 A26/\C1 A1 A13=C1 A1 A13/\nat_lit 0=nat_lit 0/\nat_lit 0=nat_lit 0/\SV.ref A4 A31=SV.ref A4 A31/\vk A32=vk A32/\vk A33=vk A33/\vk A34=vk A34/\(g.1+A17+nat_lit 1=g'.1+A17/\∀(i:Nat),let A38:=(l.g (T (CO l.n g'.2.2 i)));i<g.1+A17+nat_lit 1->AN A42 (fun(j:Nat)=>let A41:=(l.g (T (CO l.n g.2.2 j)));[I A41.x,I A41.y]) (fun(x:Nat)=>[I (l.g (T (M A11 A6))).x,I (l.g (T (M A11 A6))).y]) i = [I A38.x,I A38.y])/\(Cg A2 k=Cg A2 k/\∀(i:Nat),let A16:=(G9 l A8 (DG A2 k i));let A37:=[I A16.fr,I A16.to_,I A16.area];i<Cg A2 k->A37=A37)/\A6=A6/\(C1 A1 A13=g'.2.1/\C1 A1 A26=g'.2.2/\(A18<=g'.2.1/\g'.2.1<A6)/\(A18<=g'.2.2/\g'.2.2<A6)/\g'.1<=FF l.n g'.2.1 g'.2.2)/\l.n-g'.1<l.n-g.1)/\(A25=false->((∀(i:Nat),let A19:=(l.g (T (CO l.n g.2.2 i)));i<g.1+A17 -> [I A19.x,I A19.y]= [I A19.x,I A19.y])/\E3 (L.Sq.mk A42 fun(i:Nat)=>l.g (T (CO l.n g.2.2 i))))/\(Cg A2 k+nat_lit 1)*nat_lit 24<=A44/\∃(t':Nat),nat_lit 0=nat_lit 0/\nat_lit 0=nat_lit 0/\SV.ref A4 A31=SV.ref A4 A31/\vk A32=vk A32/\vk A33=vk A33/\vk A34=vk A34/\(Cg A2 k+nat_lit 1=Cg A2 A47/\∀(i:Nat),let A24:=(G9 l A8 (DG A2 A47 i));let A15:=(L.Sq.mk l.n fun(i:Nat)=>l.g i);let A48:=(AY A15);i<Cg A2 k+nat_lit 1->AN (Cg A2 k) (fun(i:Nat)=>let A29:=(G9 l A8 (DG A2 k i));[I A29.fr,I A29.to_,I A29.area]) (fun(x:Nat)=>[I (C1 A15 (A48.g (T (↑k:Int)))),I (C1 A15 (A48.g (T (M A36 (↑A48.n:Int))))),I (B4 (L.Sq.mk A42 fun(i:Nat)=>l.g (T (CO l.n g.2.2 i))) A42)]) i = [I A24.fr,I A24.to_,I A24.area])/\A6=A6/\k+A17<=A8.n)))/\∀(t:Nat),A9.n<=A8.n->∃(t:Nat×(Nat->AO)),SV.clo (nat_lit 110) []=SV.clo (110:Nat) []/\(Cg A2 A9.n=t.1/\∀(i:Nat),let A30:=(AY (L.Sq.mk l.n fun(i:Nat)=>l.g i));let A14:=(G9 l A8 (DG A2 A30.n i));i<Cg A2 A30.n -> [I A14.fr,I A14.to_,I A14.area]= [I (t.2 i).fr,I (t.2 i).to_,I (t.2 i).area])/\t.1<=(1000000:Nat)/\∀(u:Nat->AO),Dj Gh t.1 t.2 u->∃(t_1:Nat->AO),(t.1=Fa l/\∀(i:Nat),i<t.1 -> [I (u i).fr,I (u i).to_,I (u i).area]= [I (t_1 i).fr,I (t_1 i).to_,I (t_1 i).area])/\(A18=bif AB l then A18 else A20)/\(AB l=true->Dj Gh A46.n A46.g t_1))) (by kernel_rfl) (by
 conv=>zeta
 have hn:l.n<=1000000:=hp;refine⟨⟨fun _ _=>rfl,hn⟩,fun h=>?_,fun h=>?_⟩
 ·have hv:AB l=false:=by simpa using (show(!AB l)=true from h)
  unfold Fa;rw[hv];exact⟨fun _=>⟨0,0,0⟩,rfl,rfl,fun h=>(by cases h)⟩
 have hv:AB l=true:=by simpa using (show(!AB l)=false from h)
 obtain⟨n3,n24,hsm,hbd⟩:=Fr hv;have hHN:(AY l).n<=1000:=by
  have cl:∀m:L.Sq L.Pt,(B1 m).n<=m.n:=fun m=>by
   have:=Lf m m.n;show(BS m m.n).length-1<=m.n;omega
  have c1:(B1 (B0 l)).n<=l.n:=cl (B0 l);have c2:(B1 (EZ (B0 l))).n<=l.n:=cl (EZ (B0 l));show 0+(B1 (B0 l)).n+(B1 (EZ (B0 l))).n<=1000;omega
 have hck:∀k,Cg (E5 l (AY l)) k<=k:=fun k=>OT;refine⟨⟨fun _ _=>rfl,by omega,by omega,hbd.2⟩,fun t _=>⟨⟨fun _ _=>rfl,hHN⟩,⟨⟨fun _ _=>rfl,hHN⟩,(0:Nat),⟨rfl,fun i hi=>absurd hi (nT _)⟩,rfl,AdL _⟩,fun k t1 vk hk hk'=>?_,fun t _=>?_⟩⟩
 ·have hk:k<(AY l).n:=hk;have e0:((k:Int)).toNat=k:=by omega
  have e1:(Aes ((k:Int)+1) ((AY l).n:Int)).toNat=Cf (AY l).n k:=rfl;have hf:=Vw (l:=l) hk;have ht:=Vw (l:=l) (k:=Cf (AY l).n k) (IF (by omega));have eF:C1 l ((AY l).g k)=FE l (AY l) k:=rfl;have eT:C1 l ((AY l).g (Cf (AY l).n k))=Ft l (AY l) k:=rfl;rw[eF]at hf;rw[eT]at ht;rw[e0,e1,eF,eT];have hkk:=hck k;refine⟨⟨by decide,by decide⟩,⟨fun _ _=>rfl,hn⟩,⟨by decide,by decide⟩,⟨fun _ _=>rfl,hn⟩,jK,by omega,fun hc=>?_,fun hc=>?_⟩
  ·have hp:E5 l (AY l) k=false:=by unfold E5;rw[hc];rfl
   refine⟨(0:Nat),rfl,rfl,rfl,rfl,rfl,rfl,⟨(mR hp).symm,fun i hi=>?_⟩,rfl,by omega⟩;rw[mU hp]
  have hp:E5 l (AY l) k=true:=by unfold E5;rw[hc];rfl
  refine⟨ht,⟨(0,FE l (AY l) k,Ft l (AY l) k),(Vu ht.1 ht.2).symm,⟨rfl,fun i hi=>?_⟩,rfl,rfl,hf,ht,AdL _⟩,fun g hg=>?_⟩
  ·have hi:i<1:=hi;obtain rfl:i=0:=by omega
   dsimp only;rw[Vu ht.1 ht.2];rfl
  obtain⟨j,fr,to_⟩:=g;dsimp only at hg ⊢;obtain⟨e2,e3,_,_,hj⟩:=hg;rw[<- e2,<- e3]at *;have hlen:=Vv hf.1 hf.2 ht.1 ht.2 hj;have hb:=ML (n:=l.n) (by omega) ht.1 (j:=j) (by omega);refine⟨fun hd=>?_,fun hd=>?_⟩
  ·have hd : CO l.n (Ft l (AY l) k) j≠FE l (AY l) k :=fun e =>by
    rw[decide_eq_true e]at hd;cases hd
   have hne:j≠FF l.n (FE l (AY l) k) (Ft l (AY l) k):=fun e=>hd (hlen.1.2 e);have hs:=rY (n:=l.n) (by omega) ht.1 (j:=j) (by omega);have hb2:=ML (n:=l.n) (by omega) ht.1 (j:=j+1) (by omega);rw[hs];refine⟨jK,jK,by omega,hb2,show(j+1+1)*16<=140737488355328 by omega,(j+1,FE l (AY l) k,Ft l (AY l) k),rfl,rfl,rfl,rfl,rfl,rfl,rfl,rfl,rfl,⟨rfl,fun i hi=>?_⟩,⟨rfl,fun _ _=>rfl⟩,rfl,⟨rfl,rfl,hf,ht,by show j+1<=FF l.n (FE l (AY l) k) (Ft l (AY l) k);omega⟩,by show l.n-(j+1)<l.n-j;omega⟩;have hi:i<j+1+1:=hi;unfold AN
   by_cases h':i<j+1
   ·rw[if_pos h']
   ·rw[if_neg h'];obtain rfl:i=j+1:=by omega
    rfl
  ·have hd : CO l.n (Ft l (AY l) k) j = FE l (AY l) k :=by
    apply Decidable.byContradiction;intro e;rw[decide_eq_false e]at hd;cases hd
   have hje:=hlen.1.1 hd;have hrow:(L.Sq.mk (j+1) fun(i:Nat)=>l.g (CO l.n (Ft l (AY l) k) i).toNat)=Lh l (FE l (AY l) k) (Ft l (AY l) k):=by
    rw[hje];rfl
   have hj1:j+1=(Lh l (FE l (AY l) k) (Ft l (AY l) k)).n:=by rw[<- hrow]
   rw[hrow,hj1];refine⟨⟨fun _ _=>rfl,rZ hsm (by omega) hf.1 hf.2 ht.1 ht.2⟩,show(Cg (E5 l (AY l)) k+1)*24<=140737488355328 by omega,(0:Nat),rfl,rfl,rfl,rfl,rfl,rfl,⟨(mQ hp).symm,fun i hi=>?_⟩,rfl,by omega⟩;have hi:i<Cg (E5 l (AY l)) k+1:=hi;unfold AN
   by_cases h':i<Cg (E5 l (AY l)) k
   ·rw[if_pos h',mT (Nat.ne_of_lt h')]
   ·rw[if_neg h'];obtain rfl:i=Cg (E5 l (AY l)) k:=by omega
    rw[mS hp];rfl
 ·have hcn:=hck (AY l).n;refine⟨((EJ l).n,(EJ l).g),rfl,⟨rfl,fun _ _=>rfl⟩,show Cg (E5 l (AY l)) (AY l).n<=1000000 by omega,fun u hu=>⟨u,⟨?_,fun _ _=>rfl⟩,?_,fun _=>hu⟩⟩
  ·unfold Fa;rw[hv];rfl
  ·rw[hv];rfl)
theorem sG:Ax Tryz.prog 66 V7:=lK Tryz.func66 (c:=Ai Tryz.f66) (by kernel_rfl) mixed (fun args p q r hs hp=>by
 unfold V6 at hs;split at hs
 ·cases hs;exact⟨_,_,sF _ hp.2,(.p (.sl hp.1) .nil),⟨show Aa Tryz.prog _ from(Aa.cons Ld Le (Aa.cons rT rU (Aa.cons ME MF (Aa.cons qH qI (Aa.cons OQ OR (Aa.cons V0 V1 Aa.nil)))))),rfl,⟨show Af Tryz.prog _ from(Af.cons MC MD Af.nil),⟨show DE Tryz.prog _ from(DE.cons sC sD DE.nil),⟨Gx.no1 (fun _=>rfl),FamsOk.none (fun _=>rfl)⟩⟩⟩⟩⟩
 ·cases hs)
theorem sH:As Tryz.prog 66:=fun args w=>by kernel_rfl
end
section
set_option maxRecDepth 100000
set_option maxHeartbeats 4000000
set_option linter.unusedVariables false
attribute [local irreducible] vc
end
section
set_option maxRecDepth 100000
set_option maxHeartbeats 4000000
set_option linter.unusedVariables false
attribute [local irreducible] vc
end
section
set_option maxRecDepth 100000
set_option maxHeartbeats 4000000
set_option linter.unusedVariables false
attribute [local irreducible] vc
def V8 (l:(L.Sq L.Pt)):Prop:=l.n<=1000000
def V9 (l:(L.Sq L.Pt)):SV:=.tup [.int .i64 (bif AB l then B4 l l.n else 0),.int .i64 (bif AB l then 0 else 1)]
def VA:List EV->Option (Prop×SV)
 |[.p (.sl 2 l_n l_g)]=>some ((∀i,i<l_n->l_g i = [.int .i64 ((Ar (l_g i)).x),.int .i64 ((Ar (l_g i)).y)])/\V8 (⟨l_n,fun i=>Ar (l_g i)⟩:(L.Sq L.Pt)),V9 (⟨l_n,fun i=>Ar (l_g i)⟩:(L.Sq L.Pt)))
 |_=>none
abbrev VB:SE.Spec:=(AI VA)
def sI:Al:={ cC with specs:=AC [(64,JF),(95,MG)] }
theorem sJ (l:(L.Sq L.Pt)) (hp:V8 l):vc Tryz.prog (sI) (Ai Tryz.f54) (Au Tryz.f54 [.p (.sl 2 l.n (fun i=>[.int .i64 ((l.g i).x),.int .i64 ((l.g i).y)]))]) (AH Tryz.prog Tryz.f54 (V9 l)):=
 @Eq.mpr _ (let I:=SV.int .i64;let A3:=(0:Int);let A2:=(∀(i:Nat),let A4:=[I (l.g i).x,I (l.g i).y];i<l.n->A4=A4);let A1:=(L.Sq.mk l.n fun(i:Nat)=>l.g i);(A2/\l.n<=(1000000:Nat))/\((!AB A1)=true->(A3=bif AB l then B4 l l.n else A3)/\(1:Int)=bif AB l then A3 else(1:Int))/\((!AB A1)=false->(A2/\E3 A1)/\(B4 A1 l.n=bif AB l then B4 l l.n else A3)/\A3=bif AB l then A3 else(1:Int))) (by kernel_rfl) (by
 conv=>zeta
 have hn:l.n<=1000000:=hp;refine⟨⟨fun _ _=>rfl,hn⟩,fun h=>?_,fun h=>?_⟩
 ·have hv:AB l=false:=by simpa using (show(!AB l)=true from h)
  rw[hv];exact⟨rfl,rfl⟩
 ·have hv:AB l=true:=by simpa using (show(!AB l)=false from h)
  rw[hv];exact⟨⟨fun _ _=>rfl,(Fr hv).2.2.1⟩,rfl,rfl⟩)
theorem sK:Ax Tryz.prog 54 VB:=AK Tryz.func54 (c:=Ai Tryz.f54) (by kernel_rfl) mixed (fun args p r hs hp=>by
 unfold VA at hs;split at hs
 ·cases hs;exact⟨_,_,sJ _ hp.2,(.p (.sl hp.1) .nil),⟨show Aa Tryz.prog _ from(Aa.cons Ld Le (Aa.cons OQ OR Aa.nil)),rfl,⟨show Af Tryz.prog _ from Af.nil,(AA.none (fun _=>rfl))⟩⟩⟩
 ·cases hs)
theorem sL:As Tryz.prog 54:=fun args w=>by kernel_rfl
end
section
set_option maxRecDepth 100000
set_option maxHeartbeats 4000000
set_option linter.unusedVariables false
attribute [local irreducible] vc
def DX (n:Nat) (i:Int):Nat:=(Aes (Aes i (n:Int)+(n:Int)) (n:Int)).toNat
theorem VC {m n:Int} (h0:0<=m) (h1:m<n):Aes (m+n) n=m:=by
 rw[Ae2 (by omega),AeM,Ae9 h0 h1]
theorem MM {n k:Nat} (h:k<n):DX n (k:Int)=k:=by
 unfold DX;rw[Afr (show 0<=(k:Int)by omega) (show(k:Int)<n by omega),VC (by omega) (by omega)];omega
theorem Pk {n k:Nat} (h:k<n):DX n ((k:Int)+1)=Cf n k:=by
 unfold DX Cf
 by_cases e:k+1<n
 ·rw[Afr (show 0<=(k:Int)+1 by omega) (show(k:Int)+1<n by omega),VC (by omega) (by omega)]
 ·rw[show(k:Int)+1=(n:Int)by omega,Int.tmod_self,Int.zero_add,Int.tmod_self]
theorem sM {n k:Nat} (h:k<n):DX n ((k:Int)-1)=Gf n k:=by
 unfold DX Gf
 by_cases e:1<=k
 ·rw[Afr (show 0<=(k:Int)-1 by omega) (show(k:Int)-1<n by omega),show(k:Int)+(n:Int)-1=(k:Int)-1+n by omega]
 ·obtain rfl:k=0:=by omega
  by_cases e1:n=1
  ·subst e1;rfl
  ·rw[show((0:Nat):Int)-1 = -(1:Int)by omega,Int.neg_tmod,Afr (show 0<=(1:Int)by omega) (show(1:Int)<n by omega),show -(1:Int)+(n:Int)=((0:Nat):Int)+(n:Int)-1 by omega]
theorem sN {n:Nat} {i:Int} (h:0<n):0<=Aes i (n:Int)+(n:Int)/\Aes i (n:Int)+(n:Int)<=2*(n:Int)/\0<=Aes (Aes i (n:Int)+(n:Int)) (n:Int)/\Aes (Aes i (n:Int)+(n:Int)) (n:Int)<(n:Int):=by
 have h1:=Int.lt_tmod_of_pos i (show 0<(n:Int)by omega);have h2:=AeD i (show 0<(n:Int)by omega);exact⟨by omega,by omega,AeU _ (by omega),AeD _ (by omega)⟩
theorem sO {a b:L.Pt}:decide (Cw a b<0)=(bif decide (a.x<b.x)then true else bif decide (a.x=b.x)then decide (a.y<b.y)else false):=by
 unfold Cw Hu Bt;rcases Int.lt_trichotomy a.x b.x with h1|h1|h1<;>rcases Int.lt_trichotomy a.y b.y with h2|h2|h2<;>grind
theorem sP {l:L.Sq L.Pt} (hv:AB l=true):(∀i,i<l.n->Cs (l.g i)=true)/\∀i,i<l.n->B9 (l.g (Gf l.n i)) (l.g i) (l.g (Cf l.n i))≠0:=by
 unfold AB at hv;rw[oE,oE]at hv;constructor
 ·have h:=hv.1;unfold Gg at h;cases h2:E4 l with
  |true=>exact Dk.1 h2
  |false =>
    rw[h2]at h;revert h;cases Ay (l.n:Int) 3 24<;>intro h<;>cases h
 ·intro i hi e;have h:=Dk.1 hv.2.1 i hi;unfold Ej at h;rw[decide_eq_true e]at h;cases h
def VD (p:L.Pt):Prop:=True
def VE (p:L.Pt):SV:=.bool (Cs p)
def VF:List EV->Option (Prop×SV)
 |[.p (.agg [.int .i64 p_x,.int .i64 p_y])]=>some (VD (⟨p_x,p_y⟩:L.Pt),VE (⟨p_x,p_y⟩:L.Pt))
 |_=>none
abbrev VG:SE.Spec:=(AI VF)
def sQ:Al:={ muts:=[],frz:=B8 [],specs:=AC [],loops:=AT [],iters:=B3 [],rfs:=AP [],nils:=B6 [] }
theorem sR (p:L.Pt) (hp:VD p):vc Tryz.prog (sQ) (Ai Tryz.f96) (Au Tryz.f96 [.p (.agg [.int .i64 p.x,.int .i64 p.y])]) (AH Tryz.prog Tryz.f96 (VE p)):=
 @Eq.mpr _ ((bif bif bif decide ((0:Int)<=p.x)then decide (p.x<=(4096:Int))else false then decide ((0:Int)<=p.y)else false then decide (p.y<=(4096:Int))else false)=Cs p) (by kernel_rfl) (by
 unfold Cs Ay;rw[GY,GY,GY];cases decide (0<=p.x)<;>cases decide (p.x<=4096)<;>cases decide (0<=p.y)<;>cases decide (p.y<=4096)<;>rfl)
theorem sS:Ax Tryz.prog 96 VG:=AK Tryz.func96 (c:=Ai Tryz.f96) (by kernel_rfl) mixed (fun args p r hs hp=>by
 unfold VF at hs;split at hs
 ·cases hs;exact⟨_,_,sR _ hp,(.same _ .nil),⟨show Aa Tryz.prog _ from Aa.nil,rfl,⟨show Af Tryz.prog _ from Af.nil,(AA.none (fun _=>rfl))⟩⟩⟩
 ·cases hs)
theorem sT:As Tryz.prog 96:=fun args w=>by kernel_rfl
def VH (l:(L.Sq L.Pt)):Prop:=l.n<=1000000
def VI (l:(L.Sq L.Pt)):SV:=.bool (E4 l)
def VJ:List EV->Option (Prop×SV)
 |[.p (.sl 2 l_n l_g)]=>some ((∀i,i<l_n->l_g i = [.int .i64 ((Ar (l_g i)).x),.int .i64 ((Ar (l_g i)).y)])/\VH (⟨l_n,fun i=>Ar (l_g i)⟩:(L.Sq L.Pt)),VI (⟨l_n,fun i=>Ar (l_g i)⟩:(L.Sq L.Pt)))
 |_=>none
abbrev VK:SE.Spec:=(AI VJ)
def sU:Al:={ cC with specs:=AC [(96,VG)] }
theorem sV (l:(L.Sq L.Pt)) (hp:VH l):vc Tryz.prog ({ sU with loops:=AT [(2,{ T:=Nat,keep:=[0],keepO:=[],chg:=fun i=>[(3,.p (.int .i64 (i:Int)))],own:=fun _=>[],inv:=fun i=>i<=l.n/\∀j,j<i->Cs (l.g j)=true,mu:=fun i=>l.n-i })],rfs:=AP [] }) (Ai Tryz.f56) (Au Tryz.f56 [.p (.sl 2 l.n (fun i=>[.int .i64 ((l.g i).x),.int .i64 ((l.g i).y)]))]) (AH Tryz.prog Tryz.f56 (VI l)):=
 @Eq.mpr _ (let A4:=(↑l.n:Int);(∃(g:Nat),(0:Int)=(↑g:Int)/\g<=l.n/\∀(j:Nat),j<g->Cs (l.g j)=true)/\∀(g:Nat),let A2:=(↑g:Int);let A3:=(!Cs (l.g (Aee A2)));(g<=l.n/\∀(j:Nat),j<g->Cs (l.g j)=true)->(decide (A2<A4)=true->((0:Int)<=A2/\A2<A4)/\True/\(A3=true->false=E4 l)/\(A3=false->Ad .i64 (A2+(1:Int))/\∃(g':Nat),A2+(1:Int)=(↑g':Int)/\(l.n=l.n/\∀(i:Nat),let A1:=[SV.int .i64 (l.g i).x,SV.int .i64 (l.g i).y];i<l.n->A1=A1)/\(g'<=l.n/\∀(j:Nat),j<g'->Cs (l.g j)=true)/\l.n-g'<l.n-g))/\(decide (A2<A4)=false->true=E4 l)) (by kernel_rfl) (by
 conv=>zeta
 have hn:l.n<=1000000:=hp;refine⟨⟨(0:Nat),rfl,AdL _,fun j hj=>absurd hj (nT _)⟩,fun g hg=>⟨fun hlt=>?_,fun hge=>?_⟩⟩
 ·have hb:(g:Int)<(l.n:Int):=of_decide_eq_true hlt;have e0:((g:Int)).toNat=g:=by omega
  rw[e0];refine⟨by omega,trivial,fun h1=>?_,fun h1=>?_⟩
  ·unfold E4;rw[GX (i:=g) (by omega) (Cx h1)]
  ·exact⟨jK, g+1, by omega, ⟨rfl, fun _ _ =>rfl⟩, ⟨by omega, fun j hj =>by
   rcases AdZ.1 hj with h'|rfl
   ·exact hg.2 j h'
   ·exact BW h1⟩,by omega⟩
 ·have hb:¬ (g:Int)<(l.n:Int):=of_decide_eq_false hge;exact(Dk.2 (fun i hi=>hg.2 i (by omega))).symm)
theorem sW:Ax Tryz.prog 56 VK:=AK Tryz.func56 (c:=Ai Tryz.f56) (by kernel_rfl) mixed (fun args p r hs hp=>by
 unfold VJ at hs;split at hs
 ·cases hs;exact⟨_,_,sV _ hp.2,(.p (.sl hp.1) .nil),⟨show Aa Tryz.prog _ from(Aa.cons sS sT Aa.nil),rfl,⟨show Af Tryz.prog _ from Af.nil,(AA.none (fun _=>rfl))⟩⟩⟩
 ·cases hs)
theorem sX:As Tryz.prog 56:=fun args w=>by kernel_rfl
def VL (a:L.Pt) (b:L.Pt) (c:L.Pt):Prop:=AF a/\AF b/\AF c
def VM (a:L.Pt) (b:L.Pt) (c:L.Pt):SV:=.int .i64 (B9 a b c)
def VN:List EV->Option (Prop×SV)
 |[.p (.agg [.int .i64 a_x,.int .i64 a_y]),.p (.agg [.int .i64 b_x,.int .i64 b_y]),.p (.agg [.int .i64 c_x,.int .i64 c_y])]=>some (VL (⟨a_x,a_y⟩:L.Pt) (⟨b_x,b_y⟩:L.Pt) (⟨c_x,c_y⟩:L.Pt),VM (⟨a_x,a_y⟩:L.Pt) (⟨b_x,b_y⟩:L.Pt) (⟨c_x,c_y⟩:L.Pt))
 |_=>none
abbrev MN:SE.Spec:=(AI VN)
def sY:Al:={ muts:=[],frz:=B8 [],specs:=AC [],loops:=AT [],iters:=B3 [],rfs:=AP [],nils:=B6 [] }
theorem sZ (a:L.Pt) (b:L.Pt) (c:L.Pt) (hp:VL a b c):vc Tryz.prog (sY) (Ai Tryz.f29) (Au Tryz.f29 [.p (.agg [.int .i64 a.x,.int .i64 a.y]),.p (.agg [.int .i64 b.x,.int .i64 b.y]),.p (.agg [.int .i64 c.x,.int .i64 c.y])]) (AH Tryz.prog Tryz.f29 (VM a b c)):=
 @Eq.mpr _ (let A4:=(c.x-a.x);let A3:=(b.y-a.y);let A2:=(c.y-a.y);let A1:=(b.x-a.x);Ad .i64 A1/\Ad .i64 A2/\Ad .i64 (A1*A2)/\Ad .i64 A3/\Ad .i64 A4/\Ad .i64 (A3*A4)/\Ad .i64 (A1*A2-A3*A4)/\A1*A2-A3*A4=B9 a b c) (by kernel_rfl) (by
 conv=>zeta
 obtain⟨h1,h2,h3⟩:=hp;unfold AF at h1 h2 h3;have m1:=Ei (a:=b.x-a.x) (b:=c.y-a.y) (m:=8000000) (n:=8000000) (by omega) (by omega) (by omega) (by omega);have m2:=Ei (a:=b.y-a.y) (b:=c.x-a.x) (m:=8000000) (n:=8000000) (by omega) (by omega) (by omega) (by omega);exact⟨jK,jK,jK,jK,jK,jK,jK,rfl⟩)
theorem Pl:Ax Tryz.prog 29 MN:=AK Tryz.func29 (c:=Ai Tryz.f29) (by kernel_rfl) mixed (fun args p r hs hp=>by
 unfold VN at hs;split at hs
 ·cases hs;exact⟨_,_,sZ _ _ _ hp,(.same _ (.same _ (.same _ .nil))),⟨show Aa Tryz.prog _ from Aa.nil,rfl,⟨show Af Tryz.prog _ from Af.nil,(AA.none (fun _=>rfl))⟩⟩⟩
 ·cases hs)
theorem Pm:As Tryz.prog 29:=fun args w=>by kernel_rfl
def VO (a:L.Pt) (b:L.Pt):Prop:=True
def VP (a:L.Pt) (b:L.Pt):SV:=.bool (decide (Cw a b<0))
def VQ:List EV->Option (Prop×SV)
 |[.p (.agg [.int .i64 a_x,.int .i64 a_y]),.p (.agg [.int .i64 b_x,.int .i64 b_y])]=>some (VO (⟨a_x,a_y⟩:L.Pt) (⟨b_x,b_y⟩:L.Pt),VP (⟨a_x,a_y⟩:L.Pt) (⟨b_x,b_y⟩:L.Pt))
 |_=>none
abbrev VR:SE.Spec:=(AI VQ)
def tB:Al:={ muts:=[],frz:=B8 [],specs:=AC [],loops:=AT [],iters:=B3 [],rfs:=AP [],nils:=B6 [] }
theorem tC (a:L.Pt) (b:L.Pt) (hp:VO a b):vc Tryz.prog (tB) (Ai Tryz.f59) (Au Tryz.f59 [.p (.agg [.int .i64 a.x,.int .i64 a.y]),.p (.agg [.int .i64 b.x,.int .i64 b.y])]) (AH Tryz.prog Tryz.f59 (VP a b)):=
 @Eq.mpr _ ((bif decide (a.x<b.x)then true else bif decide (a.x=b.x)then decide (a.y<b.y)else false)=decide (Cw a b<(0:Int))) (by kernel_rfl) (by
 exact sO.symm)
theorem tD:Ax Tryz.prog 59 VR:=AK Tryz.func59 (c:=Ai Tryz.f59) (by kernel_rfl) mixed (fun args p r hs hp=>by
 unfold VQ at hs;split at hs
 ·cases hs;exact⟨_,_,tC _ _ hp,(.same _ (.same _ .nil)),⟨show Aa Tryz.prog _ from Aa.nil,rfl,⟨show Af Tryz.prog _ from Af.nil,(AA.none (fun _=>rfl))⟩⟩⟩
 ·cases hs)
theorem tE:As Tryz.prog 59:=fun args w=>by kernel_rfl
def VS (a:L.Pt) (b:L.Pt) (p:L.Pt):Prop:=AF a/\AF b/\AF p
def VT (a:L.Pt) (b:L.Pt) (p:L.Pt):SV:=.bool (C6 a b p)
def VU:List EV->Option (Prop×SV)
 |[.p (.agg [.int .i64 a_x,.int .i64 a_y]),.p (.agg [.int .i64 b_x,.int .i64 b_y]),.p (.agg [.int .i64 p_x,.int .i64 p_y])]=>some (VS (⟨a_x,a_y⟩:L.Pt) (⟨b_x,b_y⟩:L.Pt) (⟨p_x,p_y⟩:L.Pt),VT (⟨a_x,a_y⟩:L.Pt) (⟨b_x,b_y⟩:L.Pt) (⟨p_x,p_y⟩:L.Pt))
 |_=>none
abbrev VV:SE.Spec:=(AI VU)
def tF:Al:={ cC with specs:=AC [(29,MN)] }
theorem tG (a:L.Pt) (b:L.Pt) (p:L.Pt) (hp:VS a b p):vc Tryz.prog (tF) (Ai Tryz.f129) (Au Tryz.f129 [.p (.agg [.int .i64 a.x,.int .i64 a.y]),.p (.agg [.int .i64 b.x,.int .i64 b.y]),.p (.agg [.int .i64 p.x,.int .i64 p.y])]) (AH Tryz.prog Tryz.f129 (VT a b p)):=
 @Eq.mpr _ ((AF a/\AF b/\AF p)/\(bif bif bif bif decide (B9 a b p=(0:Int))then decide (Min.min a.x b.x<=p.x)else false then decide (p.x<=Max.max a.x b.x)else false then decide (Min.min a.y b.y<=p.y)else false then decide (p.y<=Max.max a.y b.y)else false)=C6 a b p) (by kernel_rfl) (by
 obtain⟨h1,h2,h3⟩:=hp;refine⟨⟨h1,h2,h3⟩,?_⟩;unfold C6 Ay;rw[GY,GY,GY,GY];cases decide (B9 a b p=0)<;>cases decide (min a.x b.x<=p.x)<;>cases decide (p.x<=max a.x b.x)<;>cases decide (min a.y b.y<=p.y)<;>cases decide (p.y<=max a.y b.y)<;>rfl)
theorem tH:Ax Tryz.prog 129 VV:=AK Tryz.func129 (c:=Ai Tryz.f129) (by kernel_rfl) mixed (fun args p r hs hp=>by
 unfold VU at hs;split at hs
 ·cases hs;exact⟨_,_,tG _ _ _ hp,(.same _ (.same _ (.same _ .nil))),⟨show Aa Tryz.prog _ from(Aa.cons Pl Pm Aa.nil),rfl,⟨show Af Tryz.prog _ from Af.nil,(AA.none (fun _=>rfl))⟩⟩⟩
 ·cases hs)
theorem tI:As Tryz.prog 129:=fun args w=>by kernel_rfl
def VW (n:Int):Prop:=True
def VX (n:Int):SV:=.int .i64 (Bt n 0)
def VY:List EV->Option (Prop×SV)
 |[.p (.int .i64 n)]=>some (VW n,VX n)
 |_=>none
abbrev VZ:SE.Spec:=(AI VY)
def tJ:Al:={ muts:=[],frz:=B8 [],specs:=AC [],loops:=AT [],iters:=B3 [],rfs:=AP [],nils:=B6 [] }
theorem tK (n:Int) (hp:VW n):vc Tryz.prog (tJ) (Ai Tryz.f130) (Au Tryz.f130 [.p (.int .i64 n)]) (AH Tryz.prog Tryz.f130 (VX n)):=
 @Eq.mpr _ ((decide ((0:Int)<n)=true->(1:Int)=Bt n (0:Int))/\(decide ((0:Int)<n)=false->(decide (n<(0:Int))=true->(-1:Int)=Bt n (0:Int))/\(decide (n<(0:Int))=false->(0:Int)=Bt n (0:Int)))) (by kernel_rfl) (by
 refine⟨fun h=>?_,fun h=>⟨fun h1=>?_,fun h1=>?_⟩⟩
 ·have h:=of_decide_eq_true h;unfold Bt;rw[decide_eq_false (by omega),decide_eq_true h];rfl
 ·have h1:=of_decide_eq_true h1;unfold Bt;rw[decide_eq_true h1];rfl
 ·unfold Bt;rw[h1,h];rfl)
theorem tL:Ax Tryz.prog 130 VZ:=AK Tryz.func130 (c:=Ai Tryz.f130) (by kernel_rfl) mixed (fun args p r hs hp=>by
 unfold VY at hs;split at hs
 ·cases hs;exact⟨_,_,tK _ hp,(.same _ .nil),⟨show Aa Tryz.prog _ from Aa.nil,rfl,⟨show Af Tryz.prog _ from Af.nil,(AA.none (fun _=>rfl))⟩⟩⟩
 ·cases hs)
theorem tM:As Tryz.prog 130:=fun args w=>by kernel_rfl
def Wa (l:(L.Sq L.Pt)) (i:Int):Prop:=1<=l.n/\l.n<=1000000 /\ -1000000<=i/\i<=1000000
def Wb (l:(L.Sq L.Pt)) (i:Int):SV:=(.agg [.int .i64 ((l.g (DX l.n i)).x),.int .i64 ((l.g (DX l.n i)).y)])
def Wc:List EV->Option (Prop×SV)
 |[.p (.sl 2 l_n l_g),.p (.int .i64 i)]=>some ((∀i,i<l_n->l_g i = [.int .i64 ((Ar (l_g i)).x),.int .i64 ((Ar (l_g i)).y)])/\Wa (⟨l_n,fun i=>Ar (l_g i)⟩:(L.Sq L.Pt)) i,Wb (⟨l_n,fun i=>Ar (l_g i)⟩:(L.Sq L.Pt)) i)
 |_=>none
abbrev MO:SE.Spec:=(AI Wc)
def tN:Al:={ muts:=[],frz:=B8 [],specs:=AC [],loops:=AT [],iters:=B3 [],rfs:=AP [],nils:=B6 [] }
theorem tO (l:(L.Sq L.Pt)) (i:Int) (hp:Wa l i):vc Tryz.prog (tN) (Ai Tryz.f60) (Au Tryz.f60 [.p (.sl 2 l.n (fun i=>[.int .i64 ((l.g i).x),.int .i64 ((l.g i).y)])),.p (.int .i64 i)]) (AH Tryz.prog Tryz.f60 (Wb l i)):=
 @Eq.mpr _ (let M:=Aes;let A1:=(↑l.n:Int);let A2:=(M i A1+A1);let A3:=(l.g (Aee (M A2 A1)));A1≠(0:Int)/\Ad .i64 A2/\A1≠(0:Int)/\((0:Int)<=M A2 A1/\M A2 A1<A1)/\SV.agg [SV.int .i64 A3.x,SV.int .i64 A3.y]=SV.agg [SV.int .i64 (l.g (DX l.n i)).x,SV.int .i64 (l.g (DX l.n i)).y]) (by kernel_rfl) (by
 conv=>zeta
 obtain⟨h1,h2,h3,h4⟩:=hp;obtain⟨q1,q2,q3,q4⟩:=sN (n:=l.n) (i:=i) (by omega);exact⟨by omega,jK,by omega,⟨q3,q4⟩,rfl⟩)
theorem Pn:Ax Tryz.prog 60 MO:=AK Tryz.func60 (c:=Ai Tryz.f60) (by kernel_rfl) mixed (fun args p r hs hp=>by
 unfold Wc at hs;split at hs
 ·cases hs;exact⟨_,_,tO _ _ hp.2,(.p (.sl hp.1) (.same _ .nil)),⟨show Aa Tryz.prog _ from Aa.nil,rfl,⟨show Af Tryz.prog _ from Af.nil,(AA.none (fun _=>rfl))⟩⟩⟩
 ·cases hs)
theorem Po:As Tryz.prog 60:=fun args w=>by kernel_rfl
def Wd (l:(L.Sq L.Pt)):Prop:=E3 l
def We (l:(L.Sq L.Pt)):SV:=.int .i64 (B4 l l.n)
def Wf:List EV->Option (Prop×SV)
 |[.p (.sl 2 l_n l_g)]=>some ((∀i,i<l_n->l_g i = [.int .i64 ((Ar (l_g i)).x),.int .i64 ((Ar (l_g i)).y)])/\Wd (⟨l_n,fun i=>Ar (l_g i)⟩:(L.Sq L.Pt)),We (⟨l_n,fun i=>Ar (l_g i)⟩:(L.Sq L.Pt)))
 |_=>none
abbrev Pp:SE.Spec:=(AI Wf)
def tP:Al:={ cC with specs:=AC [(60,MO)] }
theorem tQ (l:(L.Sq L.Pt)) (hp:Wd l):vc Tryz.prog ({ tP with loops:=AT [(3,{ T:=Nat,keep:=[0],keepO:=[],chg:=fun i=>[(3,.p (.int .i64 (B4 l i))),(4,.p (.int .i64 (i:Int)))],own:=fun _=>[],inv:=fun i=>i<=l.n,mu:=fun i=>l.n-i })],rfs:=AP [] }) (Ai Tryz.f58) (Au Tryz.f58 [.p (.sl 2 l.n (fun i=>[.int .i64 ((l.g i).x),.int .i64 ((l.g i).y)]))]) (AH Tryz.prog Tryz.f58 (We l)):=
 @Eq.mpr _ (let I:=SV.int .i64;let A6:=(1:Int);let A4:=(∀(i:Nat),let A7:=[I (l.g i).x,I (l.g i).y];i<l.n->A7=A7);(∃(g:Nat),(0:Int)=B4 l g/\(0:Int)=(↑g:Int)/\g<=l.n)/\∀(g:Nat),let A3:=(↑g:Int);let A5:=(l.g (DX l.n A3));let A2:=(l.g (DX l.n (A3+A6)));let A1:=(A5.x*A2.y-A2.x*A5.y);g<=l.n->(decide (A3<(↑l.n
:Int))=true->(A4/\(1:Nat)<=l.n/\l.n<=(1000000:Nat)/\(-1000000:Int)<=A3/\A3<=(1000000:Int))/\Ad .i64 (A3+A6)/\(A4/\(1:Nat)<=l.n/\l.n<=(1000000:Nat)/\(-1000000:Int)<=A3+A6/\A3+A6<=(1000000:Int))/\Ad .i64 (A5.x*A2.y)/\Ad .i64 (A2.x*A5.y)/\Ad .i64 A1/\Ad .i64
 (B4 l g+A1)/\Ad .i64 (A3+A6)/\∃(g':Nat),B4 l g+A1=B4 l g'/\A3+A6=(↑g':Int)/\(l.n=l.n/\∀(i:Nat),let A8:=[I (l.g i).x,I (l.g i).y];i<l.n->A8=A8)/\g'<=l.n/\l.n-g'<l.n-g)/\(decide (A3<(↑l.n:Int))=false->B4 l g=B4 l l.n)) (by kernel_rfl) (by
  conv=>zeta
  have hs:E3 l:=hp;have hn:=hs.1;refine⟨⟨(0:Nat),rfl,rfl,AdL _⟩,fun g hg=>⟨fun hlt=>?_,fun hge=>?_⟩⟩
  ·have hb:(g:Int)<(l.n:Int):=of_decide_eq_true hlt;have hk:g<l.n:=by omega
   rw[MM hk,Pk hk];have b1:=OO hs hk;have b2:=MB hs g hg;exact⟨⟨fun _ _=>rfl,by omega,by omega,by omega,by omega⟩,jK,⟨fun _ _=>rfl,by omega,by omega,by omega,by omega⟩,jK,jK,jK,jK,jK,g+1,rfl,by omega,⟨rfl,fun _ _=>rfl⟩,by omega,by omega⟩
  ·have hb:¬ (g:Int)<(l.n:Int):=of_decide_eq_false hge;obtain rfl:g=l.n:=by omega
   rfl)
theorem Wg:Ax Tryz.prog 58 Pp:=AK Tryz.func58 (c:=Ai Tryz.f58) (by kernel_rfl) mixed (fun args p r hs hp=>by
 unfold Wf at hs;split at hs
 ·cases hs;exact⟨_,_,tQ _ hp.2,(.p (.sl hp.1) .nil),⟨show Aa Tryz.prog _ from(Aa.cons Pn Po Aa.nil),rfl,⟨show Af Tryz.prog _ from Af.nil,(AA.none (fun _=>rfl))⟩⟩⟩
 ·cases hs)
theorem Wh:As Tryz.prog 58:=fun args w=>by kernel_rfl
end
end Go.Proofs.YtijidjjfkahojaaGreat
