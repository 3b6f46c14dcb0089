/- A symbolic walk over the model, and what it shows of functions of the program: parts of the proof that the text of the row joins. -/
import Derived.Test.YtpgaejicfbpcmaaGreatE4
import Derived.KernelRfl
import Derived.Test.YtpgaejicfbpcmaaGreatProg
import Derived.Test.YtpgaejicfbpcmaaGreatE5
namespace Go.Proofs.YtpgaejicfbpcmaaGreat
open Go.SE Go.RowKit
namespace L
structure Pt where
 x:Int
 y:Int
structure Sq (α:Type) where
 n:Nat
 g:Nat->α
end L
namespace R
end R
def intOf:List SV->Int
 | [.int _ n]=>n
 | _=>0
def boolOf:List SV->Bool
 | [.bool b]=>b
 | _=>false
def ofPt:List SV->L.Pt
 | [.int _ x,.int _ y]=>⟨x,y⟩
 | _=>⟨0,0⟩
def L.allB:Nat->(Nat->Bool)->Bool
 | 0,_=>true
 | n+1,f=>L.allB n f && f n
theorem allB_iff {f:Nat->Bool}:∀ {n:Nat},L.allB n f=true ↔ ∀ i,i<n->f i=true
 | 0=>by simp [L.allB]
 | n+1=>by
   simp only [L.allB,Bool.and_eq_true,allB_iff (n:=n)]
   constructor
   ·rintro ⟨h,k⟩ i hi
    rcases Nat.lt_succ_iff_lt_or_eq.1 hi with hi | rfl
    ·exact h i hi
    ·exact k
   ·exact fun h=>⟨fun i hi=>h i (by omega),h n (by omega)⟩
theorem allB_false {f:Nat->Bool} {n i:Nat} (hi:i<n) (h:f i=false):L.allB n f=false:=by
 cases hb:L.allB n f with
 | false=>rfl
 | true=>rw [allB_iff.1 hb i hi] at h;cases h
theorem mul_bd {a b:Int} {m n:Int} (h1 : -m <= a) (h2:a <= m) (h3 : -n <= b) (h4:b <= n) : -(m * n) <= a * b/\a * b <= m * n:=by
 have hm:0 <= m:=by omega
 have hn:0 <= n:=by omega
 have e1:=Int.mul_nonneg (show 0 <= m - a by omega) (show 0 <= n - b by omega)
 have e2:=Int.mul_nonneg (show 0 <= m+a by omega) (show 0 <= n+b by omega)
 have e3:=Int.mul_nonneg (show 0 <= m - a by omega) (show 0 <= n+b by omega)
 have e4:=Int.mul_nonneg (show 0 <= m+a by omega) (show 0 <= n - b by omega)
 simp only [Int.sub_mul,Int.mul_sub,Int.add_mul,Int.mul_add] at e1 e2 e3 e4
 omega
def L.fbl (p:FSpec) (xs:List SV):Bool:=boolOf [p.res xs]
theorem fbl_res {p:FSpec} (h:isB p) {xs:List SV} (hp:p.pre xs):p.res xs=.bool (L.fbl p xs):=by
 obtain ⟨b,hb⟩:=h xs hp
 rw [hb,L.fbl,hb];rfl
theorem mixed:Tryz.prog.follows .mixedOrders=true:=by kernel_rfl
theorem InK.of {n:Int} (h : -9223372036854775808 <= n) (k:n <= 9223372036854775807):InK .i64 n:=⟨h,k⟩
theorem jK {n:Int} (h : -9223372036854775808 <= n:=by omega) (k:n <= 9223372036854775807:=by omega):InK .i64 n:=⟨h,k⟩
def cC:Cfg:={ muts:=[],frz:=lookN [],specs:=lookS [],loops:=lookL [],iters:=lookI [],rfs:=lookR [],nils:=lookM [] }
end Go.Proofs.YtpgaejicfbpcmaaGreat
namespace Go.Proofs.YtpgaejicfbpcmaaGreat
open Go.SE Go.RowKit
set_option maxRecDepth 100000
set_option maxHeartbeats 4000000
set_option linter.unusedVariables false
attribute [local irreducible] vc
def L.within (n a b:Int):Bool:=decide (a <= n) && decide (n <= b)
def p_within_p (n:Int) (a:Int) (b:Int):Prop:=True
def p_within_r (n:Int) (a:Int) (b:Int):SV:=.bool (L.within n a b)
def p_within_s:List EV->Option (Prop × SV)
 | [.p (.int .i64 n),.p (.int .i64 a),.p (.int .i64 b)]=>some (p_within_p n a b,p_within_r n a b)
 | _=>none
abbrev p_within_S:SE.Spec:=(specO p_within_s)
def p_within_C:Cfg:={ muts:=[],frz:=lookN [],specs:=lookS [],loops:=lookL [],iters:=lookI [],rfs:=lookR [],nils:=lookM [] }
theorem p_within_vc (n:Int) (a:Int) (b:Int) (hp:p_within_p n a b):vc Tryz.prog (p_within_C) (bodyOf Tryz.f132) (st0 Tryz.f132 [.p (.int .i64 n),.p (.int .i64 a),.p (.int .i64 b)]) (retFn Tryz.prog Tryz.f132 (p_within_r n a b)) :=
 @Eq.mpr _ ((bif decide (a <= n) then decide (n <= b) else false)=L.within n a b) (by kernel_rfl) (by
 grind [L.within])
theorem p_within_ok:SpecOk Tryz.prog 132 p_within_S:=fnX Tryz.func132 (c:=bodyOf Tryz.f132) (by kernel_rfl) mixed (fun args p r hs hp=>by
 unfold p_within_s at hs
 split at hs
 ·cases hs;exact ⟨_,_,p_within_vc _ _ _ hp,(.same _ (.same _ (.same _ .nil))),⟨show SpecsL Tryz.prog _ from SpecsL.nil,rfl,⟨show ItersL Tryz.prog _ from ItersL.nil,(TrsOk.none (fun _=>rfl))⟩⟩⟩
 ·cases hs)
theorem p_within_en:Enters Tryz.prog 132:=fun args w=>by kernel_rfl
end Go.Proofs.YtpgaejicfbpcmaaGreat
namespace Go.Proofs.YtpgaejicfbpcmaaGreat
open Go.SE Go.RowKit
set_option maxRecDepth 100000
set_option maxHeartbeats 4000000
set_option linter.unusedVariables false
attribute [local irreducible] vc
def L.prev (n k:Nat):Nat:=(Int.tmod ((k:Int)+(n:Int) - 1) (n:Int)).toNat
def L.next (n k:Nat):Nat:=(Int.tmod ((k:Int)+1) (n:Int)).toNat
def L.areaTo (l:L.Sq L.Pt):Nat->Int
 | 0=>0
 | k+1=>L.areaTo l k+((l.g k).x * (l.g (L.next l.n k)).y - (l.g (L.next l.n k)).x * (l.g k).y)
theorem next_lt {n k:Nat} (h:0<n):L.next n k<n:=by
 have t3:=Int.tmod_nonneg (n:Int) (show 0 <= (k:Int)+1 by omega)
 have t4:=Int.tmod_lt_of_pos ((k:Int)+1) (show 0<(n:Int) by omega)
 unfold L.next;omega
def L.small (l:L.Sq L.Pt):Prop:=l.n <= 1000 /\ ∀ i,i<l.n -> -4000000 <= (l.g i).x/\(l.g i).x <= 4000000 /\ -4000000 <= (l.g i).y/\(l.g i).y <= 4000000
theorem area_term {l:L.Sq L.Pt} (h:L.small l) {k:Nat} (hk:k<l.n):(-16000000000000 <= (l.g k).x * (l.g (L.next l.n k)).y/\(l.g k).x * (l.g (L.next l.n k)).y <= 16000000000000)/\(-16000000000000 <= (l.g (L.next l.n k)).x * (l.g k).y/\(l.g (L.next l.n k)).x * (l.g k).y <= 16000000000000):=by
 have h1:=h.2 k hk
 have h2:=h.2 _ (next_lt (n:=l.n) (k:=k) (by omega))
 have m1:=mul_bd (m:=4000000) (n:=4000000) h1.1 h1.2.1 h2.2.2.1 h2.2.2.2
 have m2:=mul_bd (m:=4000000) (n:=4000000) h2.1 h2.2.1 h1.2.2.1 h1.2.2.2
 omega
theorem areaTo_bd {l:L.Sq L.Pt} (h:L.small l):∀ k,k <= l.n -> -(32000000000000 * (k:Int)) <= L.areaTo l k/\L.areaTo l k <= 32000000000000 * (k:Int)
 | 0,_=>by simp [L.areaTo]
 | k+1,hk=>by
   have ih:=areaTo_bd h k (by omega)
   have t:=area_term h (k:=k) (by omega)
   simp only [L.areaTo]
   omega
def p_triples1_p (l:(L.Sq L.Pt)):Prop:=l.n <= 1000
def p_triples1_n (l:(L.Sq L.Pt)):Nat:=l.n
def p_triples1_i (l:(L.Sq L.Pt)):Nat->List SV:=fun k=>[.int .i64 (k:Int),.agg [.int .i64 (l.g (Int.tmod ((k:Int)+(l.n:Int) - 1) (l.n:Int)).toNat).x,.int .i64 (l.g (Int.tmod ((k:Int)+(l.n:Int) - 1) (l.n:Int)).toNat).y,.int .i64 (l.g (k:Int).toNat).x,.int .i64 (l.g (k:Int).toNat).y,.int .i64 (l.g (Int.tmod ((k:Int)+1) (l.n:Int)).toNat).x,.int .i64 (l.g (Int.tmod ((k:Int)+1) (l.n:Int)).toNat).y]]
def p_triples1_ic:List SV->Option (Prop × Nat × (Nat->List SV))
 | [.ref [.sl 2 l_n l_g] 0]=>some ((∀ i,i<l_n->l_g i = [.int .i64 ((ofPt (l_g i)).x),.int .i64 ((ofPt (l_g i)).y)])/\p_triples1_p (⟨l_n,fun i=>ofPt (l_g i)⟩:(L.Sq L.Pt)),p_triples1_n (⟨l_n,fun i=>ofPt (l_g i)⟩:(L.Sq L.Pt)),p_triples1_i (⟨l_n,fun i=>ofPt (l_g i)⟩:(L.Sq L.Pt)))
 | _=>none
abbrev p_triples1_it:ItSpec:=itOf p_triples1_ic
def p_triples1_C:Cfg:={ muts:=[],frz:=lookN [],specs:=lookS [],loops:=fun _=>none,iters:=lookI [],rfs:=lookR [] }
theorem p_triples1_vc (yl:Nat) (l:(L.Sq L.Pt)) (hp:p_triples1_p l):vc Tryz.prog { p_triples1_C with loops:=lookL [(1,{ T:=Nat,keep:=[0,1,5,6],keepO:=[],chg:=fun i=>[(7,.p (.int .i64 (i:Int)))],own:=fun _=>[],inv:=fun i=>i <= l.n,mu:=fun i=>l.n - i,yk:=some (fun i=>i) })],yld:=some ⟨yl,p_triples1_n l,p_triples1_i l⟩ } (bodyOf Tryz.f168) (st0 Tryz.f168 (.yield yl :: ([.ref [.sl 2 l.n (fun i=>[.int .i64 ((l.g i).x),.int .i64 ((l.g i).y)])] 0]:List SV).map .p)) (retIt Tryz.prog Tryz.f168 (p_triples1_n l)) :=
 @Eq.mpr _ (let I:=SV.int .i64;let T:=Int.toNat;let M:=Int.tmod;let A9:=(0:Int);let A6:=(1:Nat);let A5:=[SV.sl (nat_lit 2) l.n fun (i:Nat)=>[I (l.g i).x,I (l.g i).y]];let A4:=(1:Int);let A2:=(↑l.n:Int);(∃ (g:Nat),nat_lit 0=g/\false=false/\A9=(↑g:Int)/\g <= l.n) /\ ∀ (g:Nat),let A3:=(↑g:Int);let A8:=(A3+A4);let A7:=(A3+A2 - A4);let A1:=[I A3,SV.agg [I (l.g (T (M A7 A2))).x,I (l.g (T (M A7 A2))).y,I (l.g (T A3)).x,I (l.g (T A3)).y,I (l.g (T (M A8 A2))).x,I (l.g (T (M A8 A2))).y]];g <= l.n->(decide (A3<A2)=true->(A9 <= A3/\A3<A2)/\InK .i64 (A3+A2)/\InK .i64 A7/\A2 ≠ A9/\(A9 <= M A7 A2/\M A7 A2<A2)/\InK .i64 A8/\A2 ≠ A9/\(A9 <= M A8 A2/\M A8 A2<A2)/\yl=yl/\g<l.n/\A1=A1/\((false=true->g+A6=l.n\/g+A6=l.n+A6)/\(false=false->InK .i64 A8 /\ ∃ (g':Nat),g+A6=g'/\false=false/\A3+A4=(↑g':Int)/\A2=A2/\(l.n=l.n /\ ∀ (i:Nat),let A10:=[I (l.g i).x,I (l.g i).y];i<l.n->A10=A10)/\yl=yl/\SV.ref A5 (nat_lit 0)=SV.ref A5 (nat_lit 0)/\g' <= l.n/\l.n - g'<l.n - g))/\(true=true->l.n+A6=l.n\/l.n+A6=l.n+A6)/\(true=false->InK .i64 A8 /\ ∃ (g':Nat),l.n+A6=g'/\false=false/\A3+A4=(↑g':Int)/\A2=A2/\False/\yl=yl/\False/\g' <= l.n/\l.n - g'<l.n - g))/\(decide (A3<A2)=false->g=l.n\/g=l.n+A6)) (by kernel_rfl) (by
 conv=>zeta
 refine ⟨⟨(0:Nat),rfl,rfl,rfl,Nat.zero_le _⟩,fun g hg=>⟨fun hlt=>?_,fun hge=>?_⟩⟩
 ·have hb:(g:Int)<(l.n:Int):=by simpa using hlt
  have hn:l.n <= 1000:=hp
  have t1:=Int.tmod_nonneg (l.n:Int) (show 0 <= (g:Int)+(l.n:Int) - 1 by omega)
  have t2:=Int.tmod_lt_of_pos ((g:Int)+(l.n:Int) - 1) (show 0<(l.n:Int) by omega)
  have t3:=Int.tmod_nonneg (l.n:Int) (show 0 <= (g:Int)+1 by omega)
  have t4:=Int.tmod_lt_of_pos ((g:Int)+1) (show 0<(l.n:Int) by omega)
  refine ⟨by omega,jK,jK,by omega,⟨t1,t2⟩,jK,by omega,⟨t3,t4⟩,rfl,by omega,rfl,?_⟩
  exact ⟨⟨fun h=>(by cases h),fun _=>⟨jK,g+1,rfl,rfl,by omega,rfl,⟨rfl,fun _ _=>rfl⟩,rfl,rfl,by omega,by omega⟩⟩,fun _=>.inr rfl,fun h=>(by cases h)⟩
 ·have hb:¬ (g:Int)<(l.n:Int):=by simpa using hge
  exact .inl (by omega))
theorem p_triples1_itok:ItOk Tryz.prog 168 p_triples1_it:=iterX Tryz.func168 (c:=bodyOf Tryz.f168) (by kernel_rfl) mixed (fun caps l p n g hs hp=>by
 unfold p_triples1_ic at hs
 split at hs
 ·cases hs; exact ⟨_, _, p_triples1_vc l _ hp.2, (.cons (Ext.ref rfl (fun i hi => by
  rcases i with _ | i
  ·show Ext (SV.sl _ _ _) (SV.sl _ _ _);exact (Ext.sl hp.1)
  exact absurd hi (by simp;try omega))) .nil),rfl,show SpecsL Tryz.prog _ from SpecsL.nil,⟨show ItersL Tryz.prog _ from ItersL.nil,TrsOk.none (fun _=>rfl)⟩⟩
 ·cases hs)
theorem p_triples1_en:Enters Tryz.prog 168:=fun args w=>by kernel_rfl
def p_triples_p (l:(L.Sq L.Pt)):Prop:=l.n <= 1000
def p_triples_r (l:(L.Sq L.Pt)):SV:=.clo 168 [.ref [(.sl 2 l.n (fun i=>[.int .i64 ((l.g i).x),.int .i64 ((l.g i).y)]))] 0]
def p_triples_s:List EV->Option (Prop × SV)
 | [.p (.sl 2 l_n l_g)]=>some ((∀ i,i<l_n->l_g i = [.int .i64 ((ofPt (l_g i)).x),.int .i64 ((ofPt (l_g i)).y)])/\p_triples_p (⟨l_n,fun i=>ofPt (l_g i)⟩:(L.Sq L.Pt)),p_triples_r (⟨l_n,fun i=>ofPt (l_g i)⟩:(L.Sq L.Pt)))
 | _=>none
abbrev p_triples_S:SE.Spec:=(specO p_triples_s)
def p_triples_C:Cfg:={ muts:=[],frz:=lookN [],specs:=lookS [],loops:=lookL [],iters:=lookI [],rfs:=lookR [],nils:=lookM [] }
theorem p_triples_vc (l:(L.Sq L.Pt)) (hp:p_triples_p l):vc Tryz.prog (p_triples_C) (bodyOf Tryz.f136) (st0 Tryz.f136 [.p (.sl 2 l.n (fun i=>[.int .i64 ((l.g i).x),.int .i64 ((l.g i).y)]))]) (retFn Tryz.prog Tryz.f136 (p_triples_r l)) :=
 @Eq.mpr _ (SV.clo (nat_lit 168) [SV.ref [SV.sl (nat_lit 2) l.n fun (i:Nat)=>[SV.int .i64 (l.g i).x,SV.int .i64 (l.g i).y]] (nat_lit 0)]=SV.clo (nat_lit 168) [SV.ref [SV.sl (nat_lit 2) l.n fun (i:Nat)=>[SV.int .i64 (l.g i).x,SV.int .i64 (l.g i).y]] (nat_lit 0)]) (by kernel_rfl) (by
 rfl)
theorem p_triples_ok:SpecOk Tryz.prog 136 p_triples_S:=fnX Tryz.func136 (c:=bodyOf Tryz.f136) (by kernel_rfl) mixed (fun args p r hs hp=>by
 unfold p_triples_s at hs
 split at hs
 ·cases hs;exact ⟨_,_,p_triples_vc _ hp.2,(.p (.sl hp.1) .nil),⟨show SpecsL Tryz.prog _ from SpecsL.nil,rfl,⟨show ItersL Tryz.prog _ from ItersL.nil,(TrsOk.none (fun _=>rfl))⟩⟩⟩
 ·cases hs)
theorem p_triples_en:Enters Tryz.prog 136:=fun args w=>by kernel_rfl
def p_area_p (l:(L.Sq L.Pt)):Prop:=L.small l
def p_area_r (l:(L.Sq L.Pt)):SV:=.int .i64 (L.areaTo l l.n)
def p_area_s:List EV->Option (Prop × SV)
 | [.p (.sl 2 l_n l_g)]=>some ((∀ i,i<l_n->l_g i = [.int .i64 ((ofPt (l_g i)).x),.int .i64 ((ofPt (l_g i)).y)])/\p_area_p (⟨l_n,fun i=>ofPt (l_g i)⟩:(L.Sq L.Pt)),p_area_r (⟨l_n,fun i=>ofPt (l_g i)⟩:(L.Sq L.Pt)))
 | _=>none
abbrev p_area_S:SE.Spec:=(specO p_area_s)
def p_area_C:Cfg:={ cC with muts:=[3,5],specs:=lookS [(136,p_triples_S)],iters:=lookI [(168,p_triples1_it)] }
theorem p_area_vc (l:(L.Sq L.Pt)) (hp:p_area_p l):vc Tryz.prog ({ p_area_C with loops:=lookL [],rfs:=lookR [(3,{ T:=Nat,keep:=[3],keepO:=[],own:=fun k _=>[(3,.blk 3 [.p (.int .i64 (L.areaTo l k))])],inv:=fun k _=>k <= l.n })] }) (bodyOf Tryz.f131) (st0 Tryz.f131 [.p (.sl 2 l.n (fun i=>[.int .i64 ((l.g i).x),.int .i64 ((l.g i).y)]))]) (retFn Tryz.prog Tryz.f131 (p_area_r l)) :=
 @Eq.mpr _ (let I:=SV.int .i64;let T:=Int.toNat;let M:=Int.tmod;let A5:=((0:Int) <= (2:Int)/\(2:Int)<(↑(3:Nat):Int));let A4:=((0:Int) <= (1:Int)/\(1:Int)<(↑(3:Nat):Int));let A3:=((∀ (i:Nat),let A7:=[I (l.g i).x,I (l.g i).y];i<l.n->A7=A7)/\l.n <= (1000:Nat));A3/\(A3 /\ ∃ (t:Nat),(0:Int)=L.areaTo l (0:Nat)/\(0:Nat) <= l.n)/\(∀ (k t:Nat) (vk:Nat->Go.Value),let A6:=(l.g (T (↑k:Int)));let A1:=(l.g (T (M ((↑k:Int)+(1:Int)) (↑l.n:Int))));let A2:=(A6.x * A1.y - A1.x * A6.y);k<l.n->k <= l.n->A4/\A5/\InK .i64 (A6.x * A1.y)/\A5/\A4/\InK .i64 (A1.x * A6.y)/\InK .i64 A2/\InK .i64 (L.areaTo l k+A2) /\ ∃ (t':Nat),nat_lit 0=nat_lit 0/\vk (nat_lit 3)=vk (nat_lit 3)/\L.areaTo l k+A2=L.areaTo l (k+(1:Nat))/\k+(1:Nat) <= l.n) /\ ∀ (t:Nat),l.n <= l.n->L.areaTo l l.n=L.areaTo l l.n) (by kernel_rfl) (by
 conv=>zeta
 have hs:L.small l:=hp
 refine ⟨⟨fun _ _=>rfl,hs.1⟩,⟨⟨fun _ _=>rfl,hs.1⟩,(0:Nat),rfl,Nat.zero_le _⟩,fun k t vk hk hi=>?_,fun _ _=>rfl⟩
 have e0:((k:Int)).toNat=k:=by omega
 have e1:(Int.tmod ((k:Int)+1) (l.n:Int)).toNat=L.next l.n k:=rfl
 rw [e0,e1]
 have b1:=area_term hs hk
 have b2:=areaTo_bd hs k hi
 have hn:=hs.1
 refine ⟨by omega,by omega,jK,by omega,by omega,jK,jK,jK,(0:Nat),rfl,rfl,rfl,hk⟩)
theorem p_area_ok:SpecOk Tryz.prog 131 p_area_S:=fnX Tryz.func131 (c:=bodyOf Tryz.f131) (by kernel_rfl) mixed (fun args p r hs hp=>by
 unfold p_area_s at hs
 split at hs
 ·cases hs;exact ⟨_,_,p_area_vc _ hp.2,(.p (.sl hp.1) .nil),⟨show SpecsL Tryz.prog _ from (SpecsL.cons p_triples_ok p_triples_en SpecsL.nil),rfl,⟨show ItersL Tryz.prog _ from (ItersL.cons p_triples1_itok p_triples1_en ItersL.nil),(TrsOk.none (fun _=>rfl))⟩⟩⟩
 ·cases hs)
theorem p_area_en:Enters Tryz.prog 131:=fun args w=>by kernel_rfl
end Go.Proofs.YtpgaejicfbpcmaaGreat
namespace Go.Proofs.YtpgaejicfbpcmaaGreat
open Go.SE Go.RowKit
set_option maxRecDepth 100000
set_option maxHeartbeats 4000000
set_option linter.unusedVariables false
attribute [local irreducible] vc
def L.cmp (a b:Int):Int:=bif decide (a<b) then -1 else bif decide (b<a) then 1 else 0
def L.or2 (a b:Int):Int:=bif decide (a=0) then b else a
def L.firstNZ (g:Nat->Int):Nat->Int
 | 0=>0
 | n+1=>L.or2 (L.firstNZ g n) (g n)
theorem firstNZ_zero {g:Nat->Int}:∀ {n:Nat},(∀ j,j<n->g j=0)->L.firstNZ g n=0
 | 0,_=>rfl
 | n+1,h=>by rw [L.firstNZ,firstNZ_zero (n:=n) (fun j hj=>h j (by omega)),h n (by omega)];rfl
theorem firstNZ_at {g:Nat->Int} {i:Nat} (h0:∀ j,j<i->g j=0) (hi:g i ≠ 0):∀ {n:Nat},i<n->L.firstNZ g n=g i
 | n+1,h=>by
   by_cases hin:i<n
   ·simp [L.firstNZ,L.or2,firstNZ_at h0 hi hin,hi]
   ·have:i=n:=by omega
    subst this
    simp [L.firstNZ,L.or2,firstNZ_zero h0]
def L.idx:Nat->(Nat->Bool)->Int
 | 0,_=>-1
 | n+1,f=>bif decide (0 <= L.idx n f) then L.idx n f else bif f n then (n:Int) else -1
def L.anyB:Nat->(Nat->Bool)->Bool
 | 0,_=>false
 | n+1,f=>L.anyB n f || f n
theorem anyB_iff {f:Nat->Bool}:∀ {n:Nat},L.anyB n f=true ↔ ∃ i,i<n/\f i=true
 | 0=>by simp [L.anyB]
 | n+1=>by
   simp only [L.anyB,Bool.or_eq_true,anyB_iff (n:=n)]
   constructor
   ·rintro (⟨i,h,k⟩ | h)
    ·exact ⟨i,by omega,k⟩
    ·exact ⟨n,by omega,h⟩
   ·rintro ⟨i,h,k⟩
    rcases Nat.lt_succ_iff_lt_or_eq.1 h with h | rfl
    ·exact .inl ⟨i,h,k⟩
    ·exact .inr k
theorem idx_none {f:Nat->Bool}:∀ {n:Nat},(∀ j,j<n->f j=false)->L.idx n f = -1
 | 0,_=>rfl
 | n+1,h=>by rw [L.idx,idx_none (n:=n) (fun j hj=>h j (by omega)),h n (by omega)];rfl
theorem idx_at {f:Nat->Bool} {i:Nat} (h0:∀ j,j<i->f j=false) (hi:f i=true):∀ {n:Nat},i<n->L.idx n f=(i:Int)
 | n+1,h=>by
   by_cases hin:i<n
   ·simp [L.idx,idx_at h0 hi hin]
   ·have:i=n:=by omega
    subst this
    simp [L.idx,idx_none h0,hi]
theorem idx_any {f:Nat->Bool}:∀ {n:Nat},decide (0 <= L.idx n f)=L.anyB n f
 | 0=>rfl
 | n+1=>by
   have ih:=idx_any (f:=f) (n:=n)
   unfold L.anyB
   rw [<- ih]
   cases hf:f n <;> by_cases h:0 <= L.idx n f <;> simp [L.idx,hf,h]
theorem idx_lt {f:Nat->Bool}:∀ {n:Nat},-1 <= L.idx n f/\L.idx n f<(n:Int)
 | 0=>by simp [L.idx]
 | n+1=>by
   have ih:=idx_lt (f:=f) (n:=n)
   cases hf:f n <;> by_cases h:0 <= L.idx n f <;> simp [L.idx,hf,h] <;> omega
def L.cnt (p:Nat->Bool):Nat->Nat
 | 0=>0
 | n+1=>bif p n then L.cnt p n+1 else L.cnt p n
theorem cnt_le {p:Nat->Bool}:∀ {n:Nat},L.cnt p n <= n
 | 0=>Nat.le_refl _
 | n+1=>by
   have:=cnt_le (p:=p) (n:=n)
   unfold L.cnt
   cases p n <;> simp <;> omega
def L.selN (p:Nat->Bool):Nat->Nat->Nat
 | 0,_=>0
 | n+1,k=>bif p n && decide (k=L.cnt p n) then n else L.selN p n k
theorem cnt_yes {p:Nat->Bool} {n:Nat} (h:p n=true):L.cnt p (n+1)=L.cnt p n+1:=by simp [L.cnt,h]
theorem cnt_not {p:Nat->Bool} {n:Nat} (h:p n=false):L.cnt p (n+1)=L.cnt p n:=by simp [L.cnt,h]
theorem selN_new {p:Nat->Bool} {n:Nat} (h:p n=true):L.selN p (n+1) (L.cnt p n)=n:=by simp [L.selN,h]
theorem selN_old {p:Nat->Bool} {n k:Nat} (h:k ≠ L.cnt p n):L.selN p (n+1) k=L.selN p n k:=by simp [L.selN,h]
theorem selN_not {p:Nat->Bool} {n k:Nat} (h:p n=false):L.selN p (n+1) k=L.selN p n k:=by simp [L.selN,h]
theorem idx_cases {f:Nat->Bool}:∀ {n:Nat},(L.idx n f = -1 /\ ∀ j,j<n->f j=false) \/ ∃ i,i<n/\L.idx n f=(i:Int)/\f i=true /\ ∀ j,j<i->f j=false
 | 0=>.inl ⟨rfl,fun j hj=>absurd hj (Nat.not_lt_zero _)⟩
 | n+1=>by
   rcases idx_cases (f:=f) (n:=n) with ⟨h1,h2⟩ | ⟨i,h1,h2,h3,h4⟩
   ·cases hf:f n with
    | true=>exact .inr ⟨n,Nat.lt_succ_self n,by simp [L.idx,h1,hf],hf,h2⟩
    | false => exact .inl ⟨by simp [L.idx, h1, hf], fun j hj => by
     rcases Nat.lt_succ_iff_lt_or_eq.1 hj with h | rfl
     ·exact h2 j h
     ·exact hf⟩
   ·exact .inr ⟨i,by omega,by simp [L.idx,h2],h3,h4⟩
theorem band (a b:Bool):(bif a then b else false)=(a && b):=by cases a <;> rfl
def c_isNaN_p (x:Int):Prop:=True
def c_isNaN_r (x:Int):SV:=.bool false
def c_isNaN_s:List EV->Option (Prop × SV)
 | [.p (.int .i64 x)]=>some (c_isNaN_p x,c_isNaN_r x)
 | _=>none
abbrev c_isNaN_S:SE.Spec:=(specO c_isNaN_s)
def c_isNaN_C:Cfg:={ muts:=[],frz:=lookN [],specs:=lookS [],loops:=lookL [],iters:=lookI [],rfs:=lookR [],nils:=lookM [] }
theorem c_isNaN_vc (x:Int) (hp:c_isNaN_p x):vc Tryz.prog (c_isNaN_C) (bodyOf Tryz.f180) (st0 Tryz.f180 [.p (.int .i64 x)]) (retFn Tryz.prog Tryz.f180 (c_isNaN_r x)) :=
 @Eq.mpr _ ((!decide (x=x))=false) (by kernel_rfl) (by
 simp)
theorem c_isNaN_ok:SpecOk Tryz.prog 180 c_isNaN_S:=fnX Tryz.func180 (c:=bodyOf Tryz.f180) (by kernel_rfl) mixed (fun args p r hs hp=>by
 unfold c_isNaN_s at hs
 split at hs
 ·cases hs;exact ⟨_,_,c_isNaN_vc _ hp,(.same _ .nil),⟨show SpecsL Tryz.prog _ from SpecsL.nil,rfl,⟨show ItersL Tryz.prog _ from ItersL.nil,(TrsOk.none (fun _=>rfl))⟩⟩⟩
 ·cases hs)
theorem c_isNaN_en:Enters Tryz.prog 180:=fun args w=>by kernel_rfl
def c_cmp_p (a:Int) (b:Int):Prop:=True
def c_cmp_r (a:Int) (b:Int):SV:=.int .i64 (L.cmp a b)
def c_cmp_s:List EV->Option (Prop × SV)
 | [.p (.int .i64 a),.p (.int .i64 b)]=>some (c_cmp_p a b,c_cmp_r a b)
 | _=>none
abbrev c_cmp_S:SE.Spec:=(specO c_cmp_s)
def c_cmp_C:Cfg:={ cC with specs:=lookS [(180,c_isNaN_S)] }
theorem c_cmp_vc (a:Int) (b:Int) (hp:c_cmp_p a b):vc Tryz.prog (c_cmp_C) (bodyOf Tryz.f147) (st0 Tryz.f147 [.p (.int .i64 a),.p (.int .i64 b)]) (retFn Tryz.prog Tryz.f147 (c_cmp_r a b)) :=
 @Eq.mpr _ (True/\True/\(false=true->(false=true->(0:Int)=L.cmp a b)/\(false=false->(-1:Int)=L.cmp a b))/\(false=false->(false=true->(1:Int)=L.cmp a b)/\(false=false->(decide (a<b)=true->(-1:Int)=L.cmp a b)/\(decide (a<b)=false->(decide (b<a)=true->(1
:Int)=L.cmp a b)/\(decide (b<a)=false->(0:Int)=L.cmp a b))))) (by kernel_rfl) (by
 grind [L.cmp])
theorem c_cmp_ok:SpecOk Tryz.prog 147 c_cmp_S:=fnX Tryz.func147 (c:=bodyOf Tryz.f147) (by kernel_rfl) mixed (fun args p r hs hp=>by
 unfold c_cmp_s at hs
 split at hs
 ·cases hs;exact ⟨_,_,c_cmp_vc _ _ hp,(.same _ (.same _ .nil)),⟨show SpecsL Tryz.prog _ from (SpecsL.cons c_isNaN_ok c_isNaN_en SpecsL.nil),rfl,⟨show ItersL Tryz.prog _ from ItersL.nil,(TrsOk.none (fun _=>rfl))⟩⟩⟩
 ·cases hs)
theorem c_cmp_en:Enters Tryz.prog 147:=fun args w=>by kernel_rfl
def c_or_p (l:(L.Sq Int)):Prop:=l.n <= 1000000
def c_or_r (l:(L.Sq Int)):SV:=.int .i64 (L.firstNZ l.g l.n)
def c_or_s:List EV->Option (Prop × SV)
 | [.p (.sl 1 l_n l_g)]=>some ((∀ i,i<l_n->l_g i = [.int .i64 ((intOf (l_g i)))])/\c_or_p (⟨l_n,fun i=>intOf (l_g i)⟩:(L.Sq Int)),c_or_r (⟨l_n,fun i=>intOf (l_g i)⟩:(L.Sq Int)))
 | _=>none
abbrev c_or_S:SE.Spec:=(specO c_or_s)
def c_or_C:Cfg:={ muts:=[],frz:=lookN [],specs:=lookS [],loops:=fun _=>none,iters:=lookI [],rfs:=lookR [],nils:=lookM [] }
theorem c_or_vc (l:(L.Sq Int)) (hp:c_or_p l):vc Tryz.prog ({ c_or_C with loops:=lookL [(3,{ T:=Nat,keep:=[0,3,6,7],keepO:=[],chg:=fun i=>[(8,.p (.int .i64 i))],own:=fun _=>[],inv:=fun i=>i <= l.n/\(∀ j,j<i->l.g j=0),mu:=fun i=>l.n - i })],rfs:=lookR [] }) (bodyOf Tryz.f160) (st0 Tryz.f160 [.p (.sl 1 l.n (fun i=>[.int .i64 ((l.g i))]))]) (retFn Tryz.prog Tryz.f160 (c_or_r l)) :=
 @Eq.mpr _ (let A5:=(↑l.n:Int);let A4:=(0:Int);let A1:=(l.n=l.n /\ ∀ (i:Nat),let A6:=[SV.int .i64 (l.g i)];i<l.n->A6=A6);(∃ (g:Nat),A4=(↑g:Int)/\g <= l.n /\ ∀ (j:Nat),j<g->l.g j=A4) /\ ∀ (g:Nat),let A3:=(↑g:Int);let A2:=(!decide (l.g (Int.toNat A3)=A4));(g <= l.n /\ ∀ (j:Nat),j<g->l.g j=A4)->(decide (A3<A5)=true->(A4 <= A3/\A3<A5)/\(A2=true->l.g (Int.toNat A3)=L.firstNZ l.g l.n)/\(A2=false->InK .i64 (A3+(1:Int)) /\ ∃ (g':Nat),A3+(1:Int)=(↑g':Int)/\A5=A5/\A1/\A4=A4/\A1/\(g' <= l.n /\ ∀ (j:Nat),j<g'->l.g j=A4)/\l.n - g'<l.n - g))/\(decide (A3<A5)=false->A4=L.firstNZ l.g l.n)) (by kernel_rfl) (by
 conv=>zeta
 refine ⟨⟨(0:Nat),rfl,Nat.zero_le _,fun j hj=>by omega⟩,fun g hg=>⟨fun hlt=>?_,fun hge=>?_⟩⟩
 ·have hb:(g:Int)<(l.n:Int):=by simpa using hlt
  have e0:((g:Int)).toNat=g:=by omega
  rw [e0]
  have hn:l.n <= 1000000:=hp
  refine ⟨by omega,fun h=>?_,fun h=>?_⟩
  ·exact (firstNZ_at hg.2 (by simpa using h) (by omega)).symm
  ·have h0:l.g g=0:=by simpa using h
   exact ⟨jK,g+1,by omega,rfl,⟨rfl,fun _ _=>rfl⟩,rfl,⟨rfl,fun _ _=>rfl⟩,⟨by omega,fun j hj=>by
    rcases Nat.lt_succ_iff_lt_or_eq.1 hj with h | rfl
    ·exact hg.2 j h
    ·exact h0⟩,by omega⟩
 ·have hb:¬ (g:Int)<(l.n:Int):=by simpa using hge
  exact (firstNZ_zero (fun j hj=>hg.2 j (by omega))).symm)
theorem c_or_ok:SpecOk Tryz.prog 160 c_or_S:=fnX Tryz.func160 (c:=bodyOf Tryz.f160) (by kernel_rfl) mixed (fun args p r hs hp=>by
 unfold c_or_s at hs
 split at hs
 ·cases hs;exact ⟨_,_,c_or_vc _ hp.2,(.p (.sl hp.1) .nil),⟨show SpecsL Tryz.prog _ from SpecsL.nil,rfl,⟨show ItersL Tryz.prog _ from ItersL.nil,(TrsOk.none (fun _=>rfl))⟩⟩⟩
 ·cases hs)
theorem c_or_en:Enters Tryz.prog 160:=fun args w=>by kernel_rfl
def s_idxFI_p (l:(L.Sq Int)) (p:FSpec):Prop:=l.n <= 1000000 /\ ∀ i,i<l.n->p.pre [(.int .i64 ((l.g i)))]
def s_idxFI_r (l:(L.Sq Int)) (p:FSpec):SV:=.int .i64 (L.idx l.n (fun i=>L.fbl p [(.int .i64 ((l.g i)))]))
def s_idxFI_s:List EV->Option (Prop × SV)
 | [.p (.sl 1 l_n l_g),.fn p]=>some ((∀ i,i<l_n->l_g i = [.int .i64 ((intOf (l_g i)))])/\isB p/\s_idxFI_p (⟨l_n,fun i=>intOf (l_g i)⟩:(L.Sq Int)) p,s_idxFI_r (⟨l_n,fun i=>intOf (l_g i)⟩:(L.Sq Int)) p)
 | _=>none
abbrev s_idxFI_S:SE.Spec:=(specO s_idxFI_s)
def s_idxFI_C:Cfg:={ muts:=[],frz:=lookN [],specs:=lookS [],loops:=fun _=>none,iters:=lookI [],rfs:=lookR [],nils:=lookM [] }
theorem s_idxFI_vc (l:(L.Sq Int)) (p:FSpec) (hp:s_idxFI_p l p):vc Tryz.prog ({ s_idxFI_C with loops:=lookL [(2,{ T:=Nat,keep:=[0,1,6,7],keepO:=[],chg:=fun i=>[(8,.p (.int .i64 i))],own:=fun _=>[],inv:=fun i=>i <= l.n/\(∀ j,j<i->L.fbl p [(.int .i64 ((l.g j)))]=false),mu:=fun i=>l.n - i })],rfs:=lookR [] }) (bodyOf Tryz.f209) (st0 Tryz.f209 [.p (.sl 1 l.n (fun i=>[.int .i64 ((l.g i))])),.fn ⟨p.pre,fun xs=>.bool (L.fbl p xs)⟩]) (retFn Tryz.prog Tryz.f209 (s_idxFI_r l p)) :=
 @Eq.mpr _ (let I:=SV.int .i64;let A4:=(↑l.n:Int);let A2:=(l.n=l.n /\ ∀ (i:Nat),i<l.n -> [I (l.g i)] = [I (l.g i)]);(∃ (g:Nat),(0:Int)=(↑g:Int)/\g <= l.n /\ ∀ (j:Nat),j<g->L.fbl p [I (l.g j)]=false) /\ ∀ (g:Nat),let A1:=(↑g:Int);let A3:=[I (l.g (Int.toNat A1))];(g <= l.n /\ ∀ (j:Nat),j<g->L.fbl p [I (l.g j)]=false)->(decide (A1<A4)=true->((0:Int) <= A1/\A1<A4)/\p.1 A3/\(L.fbl p A3=true->A1=L.idx l.n fun (i:Nat)=>L.fbl p [I (l.g i)])/\(L.fbl p A3=false->InK .i64 (A1+(1:Int)) /\ ∃ (g':Nat),A1+(1:Int)=(↑g':Int)/\A4=A4/\A2/\A2/\((FSpec.mk p.pre fun (xs:List SV)=>SV.bool (L.fbl p xs))=FSpec.mk p.pre fun (xs:List SV)=>SV.bool (L.fbl p xs))/\(g' <= l.n /\ ∀ (j:Nat),j<g'->L.fbl p [I (l.g j)]=false)/\l.n - g'<l.n - g))/\(decide (A1<A4)=false->(-1:Int)=L.idx l.n fun (i:Nat)=>L.fbl p [I (l.g i)])) (by kernel_rfl) (by
 conv=>zeta
 obtain ⟨hn,hpre⟩:=hp
 refine ⟨⟨(0:Nat),rfl,Nat.zero_le _,fun j hj=>by omega⟩,fun g hg=>⟨fun hlt=>?_,fun hge=>?_⟩⟩
 ·have hb:(g:Int)<(l.n:Int):=by simpa using hlt
  have e0:((g:Int)).toNat=g:=by omega
  rw [e0]
  refine ⟨by omega,hpre g (by omega),fun h=>?_,fun h=>?_⟩
  ·exact (idx_at hg.2 h (by omega)).symm
  ·exact ⟨jK, g + 1, by omega, rfl, ⟨rfl, fun _ _ => rfl⟩, ⟨rfl, fun _ _ => rfl⟩, rfl, ⟨by omega, fun j hj => by
   rcases Nat.lt_succ_iff_lt_or_eq.1 hj with h' | rfl
   ·exact hg.2 j h'
   ·exact h⟩,by omega⟩
 ·have hb:¬ (g:Int)<(l.n:Int):=by simpa using hge
  exact (idx_none (fun j hj=>hg.2 j (by omega))).symm)
theorem s_idxFI_ok:SpecOk Tryz.prog 209 s_idxFI_S:=fnX Tryz.func209 (c:=bodyOf Tryz.f209) (by kernel_rfl) mixed (fun args p r hs hp=>by
 unfold s_idxFI_s at hs
 split at hs
 ·cases hs;exact ⟨_,_,s_idxFI_vc _ _ hp.2.2,(.p (.sl hp.1) (.fn (fun xs h=>⟨h,(fbl_res hp.2.1 h).symm⟩) .nil)),⟨show SpecsL Tryz.prog _ from SpecsL.nil,rfl,⟨show ItersL Tryz.prog _ from ItersL.nil,(TrsOk.none (fun _=>rfl))⟩⟩⟩
 ·cases hs)
theorem s_idxFI_en:Enters Tryz.prog 209:=fun args w=>by kernel_rfl
def s_conFI_p (l:(L.Sq Int)) (p:FSpec):Prop:=l.n <= 1000000 /\ ∀ i,i<l.n->p.pre [(.int .i64 ((l.g i)))]
def s_conFI_r (l:(L.Sq Int)) (p:FSpec):SV:=.bool (L.anyB l.n (fun i=>L.fbl p [(.int .i64 ((l.g i)))]))
def s_conFI_s:List EV->Option (Prop × SV)
 | [.p (.sl 1 l_n l_g),.fn p]=>some ((∀ i,i<l_n->l_g i = [.int .i64 ((intOf (l_g i)))])/\isB p/\s_conFI_p (⟨l_n,fun i=>intOf (l_g i)⟩:(L.Sq Int)) p,s_conFI_r (⟨l_n,fun i=>intOf (l_g i)⟩:(L.Sq Int)) p)
 | _=>none
abbrev s_conFI_S:SE.Spec:=(specO s_conFI_s)
def s_conFI_C:Cfg:={ cC with specs:=lookS [(209,s_idxFI_S)] }
theorem s_conFI_vc (l:(L.Sq Int)) (p:FSpec) (hp:s_conFI_p l p):vc Tryz.prog (s_conFI_C) (bodyOf Tryz.f182) (st0 Tryz.f182 [.p (.sl 1 l.n (fun i=>[.int .i64 ((l.g i))])),.fn ⟨p.pre,fun xs=>.bool (L.fbl p xs)⟩]) (retFn Tryz.prog Tryz.f182 (s_conFI_r l p)) :=
 @Eq.mpr _ (let I:=SV.int .i64;let A1:=(FSpec.mk p.pre fun (xs:List SV)=>SV.bool (L.fbl p xs));((∀ (i:Nat),i<l.n -> [I (l.g i)] = [I (l.g i)])/\isB A1/\l.n <= (1000000:Nat) /\ ∀ (i:Nat),i<l.n->p.1 [I (l.g i)])/\decide ((0:Int) <= L.idx l.n fun (i:Nat)=>L.fbl A1 [I (l.g i)])=L.anyB l.n fun (i:Nat)=>L.fbl p [I (l.g i)]) (by kernel_rfl) (by
 conv=>zeta
 refine ⟨⟨fun _ _=>rfl,fun xs _=>⟨_,rfl⟩,hp⟩,idx_any⟩)
theorem s_conFI_ok:SpecOk Tryz.prog 182 s_conFI_S:=fnX Tryz.func182 (c:=bodyOf Tryz.f182) (by kernel_rfl) mixed (fun args p r hs hp=>by
 unfold s_conFI_s at hs
 split at hs
 ·cases hs;exact ⟨_,_,s_conFI_vc _ _ hp.2.2,(.p (.sl hp.1) (.fn (fun xs h=>⟨h,(fbl_res hp.2.1 h).symm⟩) .nil)),⟨show SpecsL Tryz.prog _ from (SpecsL.cons s_idxFI_ok s_idxFI_en SpecsL.nil),rfl,⟨show ItersL Tryz.prog _ from ItersL.nil,(TrsOk.none (fun _=>rfl))⟩⟩⟩
 ·cases hs)
theorem s_conFI_en:Enters Tryz.prog 182:=fun args w=>by kernel_rfl
def s_idxFP_p (l:(L.Sq L.Pt)) (p:FSpec):Prop:=l.n <= 1000000 /\ ∀ i,i<l.n->p.pre [(.agg [.int .i64 ((l.g i).x),.int .i64 ((l.g i).y)])]
def s_idxFP_r (l:(L.Sq L.Pt)) (p:FSpec):SV:=.int .i64 (L.idx l.n (fun i=>L.fbl p [(.agg [.int .i64 ((l.g i).x),.int .i64 ((l.g i).y)])]))
def s_idxFP_s:List EV->Option (Prop × SV)
 | [.p (.sl 2 l_n l_g),.fn p]=>some ((∀ i,i<l_n->l_g i = [.int .i64 ((ofPt (l_g i)).x),.int .i64 ((ofPt (l_g i)).y)])/\isB p/\s_idxFP_p (⟨l_n,fun i=>ofPt (l_g i)⟩:(L.Sq L.Pt)) p,s_idxFP_r (⟨l_n,fun i=>ofPt (l_g i)⟩:(L.Sq L.Pt)) p)
 | _=>none
abbrev s_idxFP_S:SE.Spec:=(specO s_idxFP_s)
def s_idxFP_C:Cfg:={ muts:=[],frz:=lookN [],specs:=lookS [],loops:=fun _=>none,iters:=lookI [],rfs:=lookR [],nils:=lookM [] }
theorem s_idxFP_vc (l:(L.Sq L.Pt)) (p:FSpec) (hp:s_idxFP_p l p):vc Tryz.prog ({ s_idxFP_C with loops:=lookL [(2,{ T:=Nat,keep:=[0,1,6,7],keepO:=[],chg:=fun i=>[(8,.p (.int .i64 i))],own:=fun _=>[],inv:=fun i=>i <= l.n/\(∀ j,j<i->L.fbl p [(.agg [.int .i64 ((l.g j).x),.int .i64 ((l.g j).y)])]=false),mu:=fun i=>l.n - i })],rfs:=lookR [] }) (bodyOf Tryz.f133) (st0 Tryz.f133 [.p (.sl 2 l.n (fun i=>[.int .i64 ((l.g i).x),.int .i64 ((l.g i).y)])),.fn ⟨p.pre,fun xs=>.bool (L.fbl p xs)⟩]) (retFn Tryz.prog Tryz.f133 (s_idxFP_r l p)) :=
 @Eq.mpr _ (let I:=SV.int .i64;let T:=Int.toNat;let A4:=(↑l.n:Int);let A2:=(l.n=l.n /\ ∀ (i:Nat),let A5:=[I (l.g i).x,I (l.g i).y];i<l.n->A5=A5);(∃ (g:Nat),(0:Int)=(↑g:Int)/\g <= l.n /\ ∀ (j:Nat),j<g->L.fbl p [SV.agg [I (l.g j).x,I (l.g j).y]]=false) /\ ∀ (g:Nat),let A3:=(↑g:Int);let A1:=[SV.agg [I (l.g (T A3)).x,I (l.g (T A3)).y]];(g <= l.n /\ ∀ (j:Nat),j<g->L.fbl p [SV.agg [I (l.g j).x,I (l.g j).y]]=false)->(decide (A3<A4)=true->((0:Int) <= A3/\A3<A4)/\p.1 A1/\(L.fbl p A1=true->A3=L.idx l.n fun (i:Nat)=>L.fbl p [SV.agg [I (l.g i).x,I (l.g i).y]])/\(L.fbl p A1=false->InK .i64 (A3+(1:Int)) /\ ∃ (g':Nat),A3+(1:Int)=(↑g':Int)/\A4=A4/\A2/\A2/\((FSpec.mk p.pre fun (xs:List SV)=>SV.bool (L.fbl p xs))=FSpec.mk p.pre fun (xs:List SV)=>SV.bool (L.fbl p xs))/\(g' <= l.n /\ ∀ (j:Nat),j<g'->L.fbl p [SV.agg [I (l.g j).x,I (l.g j).y]]=false)/\l.n - g'<l.n - g))/\(decide (A3<A4)=false->(-1:Int)=L.idx l.n fun (i:Nat)=>L.fbl p [SV.agg [I (l.g i).x,I (l.g i).y]])) (by kernel_rfl) (by
 conv=>zeta
 obtain ⟨hn,hpre⟩:=hp
 refine ⟨⟨(0:Nat),rfl,Nat.zero_le _,fun j hj=>by omega⟩,fun g hg=>⟨fun hlt=>?_,fun hge=>?_⟩⟩
 ·have hb:(g:Int)<(l.n:Int):=by simpa using hlt
  have e0:((g:Int)).toNat=g:=by omega
  rw [e0]
  refine ⟨by omega,hpre g (by omega),fun h=>?_,fun h=>?_⟩
  ·exact (idx_at hg.2 h (by omega)).symm
  ·exact ⟨jK, g + 1, by omega, rfl, ⟨rfl, fun _ _ => rfl⟩, ⟨rfl, fun _ _ => rfl⟩, rfl, ⟨by omega, fun j hj => by
   rcases Nat.lt_succ_iff_lt_or_eq.1 hj with h' | rfl
   ·exact hg.2 j h'
   ·exact h⟩,by omega⟩
 ·have hb:¬ (g:Int)<(l.n:Int):=by simpa using hge
  exact (idx_none (fun j hj=>hg.2 j (by omega))).symm)
theorem s_idxFP_ok:SpecOk Tryz.prog 133 s_idxFP_S:=fnX Tryz.func133 (c:=bodyOf Tryz.f133) (by kernel_rfl) mixed (fun args p r hs hp=>by
 unfold s_idxFP_s at hs
 split at hs
 ·cases hs;exact ⟨_,_,s_idxFP_vc _ _ hp.2.2,(.p (.sl hp.1) (.fn (fun xs h=>⟨h,(fbl_res hp.2.1 h).symm⟩) .nil)),⟨show SpecsL Tryz.prog _ from SpecsL.nil,rfl,⟨show ItersL Tryz.prog _ from ItersL.nil,(TrsOk.none (fun _=>rfl))⟩⟩⟩
 ·cases hs)
theorem s_idxFP_en:Enters Tryz.prog 133:=fun args w=>by kernel_rfl
def s_conFP_p (l:(L.Sq L.Pt)) (p:FSpec):Prop:=l.n <= 1000000 /\ ∀ i,i<l.n->p.pre [(.agg [.int .i64 ((l.g i).x),.int .i64 ((l.g i).y)])]
def s_conFP_r (l:(L.Sq L.Pt)) (p:FSpec):SV:=.bool (L.anyB l.n (fun i=>L.fbl p [(.agg [.int .i64 ((l.g i).x),.int .i64 ((l.g i).y)])]))
def s_conFP_s:List EV->Option (Prop × SV)
 | [.p (.sl 2 l_n l_g),.fn p]=>some ((∀ i,i<l_n->l_g i = [.int .i64 ((ofPt (l_g i)).x),.int .i64 ((ofPt (l_g i)).y)])/\isB p/\s_conFP_p (⟨l_n,fun i=>ofPt (l_g i)⟩:(L.Sq L.Pt)) p,s_conFP_r (⟨l_n,fun i=>ofPt (l_g i)⟩:(L.Sq L.Pt)) p)
 | _=>none
abbrev s_conFP_S:SE.Spec:=(specO s_conFP_s)
def s_conFP_C:Cfg:={ cC with specs:=lookS [(133,s_idxFP_S)] }
theorem s_conFP_vc (l:(L.Sq L.Pt)) (p:FSpec) (hp:s_conFP_p l p):vc Tryz.prog (s_conFP_C) (bodyOf Tryz.f87) (st0 Tryz.f87 [.p (.sl 2 l.n (fun i=>[.int .i64 ((l.g i).x),.int .i64 ((l.g i).y)])),.fn ⟨p.pre,fun xs=>.bool (L.fbl p xs)⟩]) (retFn Tryz.prog Tryz.f87 (s_conFP_r l p)) :=
 @Eq.mpr _ (let I:=SV.int .i64;let A1:=(FSpec.mk p.pre fun (xs:List SV)=>SV.bool (L.fbl p xs));((∀ (i:Nat),let A2:=[I (l.g i).x,I (l.g i).y];i<l.n->A2=A2)/\isB A1/\l.n <= (1000000:Nat) /\ ∀ (i:Nat),i<l.n->p.1 [SV.agg [I (l.g i).x,I (l.g i).y]])/\decide ((0:Int) <= L.idx l.n fun (i:Nat)=>L.fbl A1 [SV.agg [I (l.g i).x,I (l.g i).y]])=L.anyB l.n fun (i:Nat)=>L.fbl p [SV.agg [I (l.g i).x,I (l.g i).y]]) (by kernel_rfl) (by
 conv=>zeta
 refine ⟨⟨fun _ _=>rfl,fun xs _=>⟨_,rfl⟩,hp⟩,idx_any⟩)
theorem s_conFP_ok:SpecOk Tryz.prog 87 s_conFP_S:=fnX Tryz.func87 (c:=bodyOf Tryz.f87) (by kernel_rfl) mixed (fun args p r hs hp=>by
 unfold s_conFP_s at hs
 split at hs
 ·cases hs;exact ⟨_,_,s_conFP_vc _ _ hp.2.2,(.p (.sl hp.1) (.fn (fun xs h=>⟨h,(fbl_res hp.2.1 h).symm⟩) .nil)),⟨show SpecsL Tryz.prog _ from (SpecsL.cons s_idxFP_ok s_idxFP_en SpecsL.nil),rfl,⟨show ItersL Tryz.prog _ from ItersL.nil,(TrsOk.none (fun _=>rfl))⟩⟩⟩
 ·cases hs)
theorem s_conFP_en:Enters Tryz.prog 87:=fun args w=>by kernel_rfl
end Go.Proofs.YtpgaejicfbpcmaaGreat
namespace Go.Proofs.YtpgaejicfbpcmaaGreat
open Go.SE Go.RowKit
set_option maxRecDepth 100000
set_option maxHeartbeats 4000000
set_option linter.unusedVariables false
attribute [local irreducible] vc
def L.cross (a b c:L.Pt):Int:=(b.x - a.x) * (c.y - a.y) - (b.y - a.y) * (c.x - a.x)
def L.bd (p:L.Pt):Prop:=-4000000 <= p.x/\p.x <= 4000000 /\ -4000000 <= p.y/\p.y <= 4000000
def L.validPt (p:L.Pt):Bool:=L.within p.x 0 4096 && L.within p.y 0 4096
theorem validPt_bd {p:L.Pt} (h:L.validPt p=true):L.bd p:=by
 simp only [L.validPt,L.within,Bool.and_eq_true,decide_eq_true_eq] at h
 unfold L.bd;omega
def L.cmpPt (a b:L.Pt):Int:=L.or2 (L.cmp a.x b.x) (L.cmp a.y b.y)
def L.on (a b p:L.Pt):Bool:=decide (L.cross a b p=0) && L.within p.x (min a.x b.x) (max a.x b.x) && L.within p.y (min a.y b.y) (max a.y b.y)
def L.apart (a b c d:L.Pt):Bool:=decide (L.cmp (L.cross a b c) 0 * L.cmp (L.cross a b d) 0<0)
theorem not_anyB {f:Nat->Bool}:∀ {n:Nat},(!L.anyB n f)=L.allB n (fun i=>!f i)
 | 0=>rfl
 | n+1=>by simp [L.anyB,L.allB,<- not_anyB (n:=n)]
theorem cmp_bd (a b:Int) : -1 <= L.cmp a b/\L.cmp a b <= 1:=by
 unfold L.cmp
 by_cases h:a<b <;> by_cases k:b<a <;> simp [h,k]
def p_cross_p (a:L.Pt) (b:L.Pt) (c:L.Pt):Prop:=L.bd a/\L.bd b/\L.bd c
def p_cross_r (a:L.Pt) (b:L.Pt) (c:L.Pt):SV:=.int .i64 (L.cross a b c)
def p_cross_s:List EV->Option (Prop × SV)
 | [.p (.agg [.int .i64 a_x,.int .i64 a_y]),.p (.agg [.int .i64 b_x,.int .i64 b_y]),.p (.agg [.int .i64 c_x,.int .i64 c_y])]=>some (p_cross_p (⟨a_x,a_y⟩:L.Pt) (⟨b_x,b_y⟩:L.Pt) (⟨c_x,c_y⟩:L.Pt),p_cross_r (⟨a_x,a_y⟩:L.Pt) (⟨b_x,b_y⟩:L.Pt) (⟨c_x,c_y⟩:L.Pt))
 | _=>none
abbrev p_cross_S:SE.Spec:=(specO p_cross_s)
def p_cross_C:Cfg:={ muts:=[],frz:=lookN [],specs:=lookS [],loops:=lookL [],iters:=lookI [],rfs:=lookR [],nils:=lookM [] }
theorem p_cross_vc (a:L.Pt) (b:L.Pt) (c:L.Pt) (hp:p_cross_p a b c):vc Tryz.prog (p_cross_C) (bodyOf Tryz.f137) (st0 Tryz.f137 [.p (.agg [.int .i64 a.x,.int .i64 a.y]),.p (.agg [.int .i64 b.x,.int .i64 b.y]),.p (.agg [.int .i64 c.x,.int .i64 c.y])]) (retFn Tryz.prog Tryz.f137 (p_cross_r a b c)) :=
 @Eq.mpr _ (let A4:=(c.x - a.x);let A3:=(b.y - a.y);let A2:=(c.y - a.y);let A1:=(b.x - a.x);InK .i64 A1/\InK .i64 A2/\InK .i64 (A1 * A2)/\InK .i64 A3/\InK .i64 A4/\InK .i64 (A3 * A4)/\InK .i64 (A1 * A2 - A3 * A4)/\A1 * A2 - A3 * A4=L.cross a b c) (by kernel_rfl) (by
 conv=>zeta
 obtain ⟨h1,h2,h3⟩:=hp
 unfold L.bd at h1 h2 h3
 have m1:=mul_bd (a:=b.x - a.x) (b:=c.y - a.y) (m:=8000000) (n:=8000000) (by omega) (by omega) (by omega) (by omega)
 have m2:=mul_bd (a:=b.y - a.y) (b:=c.x - a.x) (m:=8000000) (n:=8000000) (by omega) (by omega) (by omega) (by omega)
 exact ⟨jK,jK,jK,jK,jK,jK,jK,rfl⟩)
theorem p_cross_ok:SpecOk Tryz.prog 137 p_cross_S:=fnX Tryz.func137 (c:=bodyOf Tryz.f137) (by kernel_rfl) mixed (fun args p r hs hp=>by
 unfold p_cross_s at hs
 split at hs
 ·cases hs;exact ⟨_,_,p_cross_vc _ _ _ hp,(.same _ (.same _ (.same _ .nil))),⟨show SpecsL Tryz.prog _ from SpecsL.nil,rfl,⟨show ItersL Tryz.prog _ from ItersL.nil,(TrsOk.none (fun _=>rfl))⟩⟩⟩
 ·cases hs)
theorem p_cross_en:Enters Tryz.prog 137:=fun args w=>by kernel_rfl
def p_validPoint_p (p:L.Pt):Prop:=True
def p_validPoint_r (p:L.Pt):SV:=.bool (L.validPt p)
def p_validPoint_s:List EV->Option (Prop × SV)
 | [.p (.agg [.int .i64 p_x,.int .i64 p_y])]=>some (p_validPoint_p (⟨p_x,p_y⟩:L.Pt),p_validPoint_r (⟨p_x,p_y⟩:L.Pt))
 | _=>none
abbrev p_validPoint_S:SE.Spec:=(specO p_validPoint_s)
def p_validPoint_C:Cfg:={ cC with specs:=lookS [(132,p_within_S)] }
theorem p_validPoint_vc (p:L.Pt) (hp:p_validPoint_p p):vc Tryz.prog (p_validPoint_C) (bodyOf Tryz.f85) (st0 Tryz.f85 [.p (.agg [.int .i64 p.x,.int .i64 p.y])]) (retFn Tryz.prog Tryz.f85 (p_validPoint_r p)) :=
 @Eq.mpr _ (True/\(L.within p.x (0:Int) (4096:Int)=true->True)/\(bif L.within p.x (0:Int) (4096:Int) then L.within p.y (0:Int) (4096:Int) else false)=L.validPt p) (by kernel_rfl) (by
 refine ⟨trivial,fun _=>trivial,?_⟩
 unfold L.validPt
 cases L.within p.x 0 4096 <;> rfl)
theorem p_validPoint_ok:SpecOk Tryz.prog 85 p_validPoint_S:=fnX Tryz.func85 (c:=bodyOf Tryz.f85) (by kernel_rfl) mixed (fun args p r hs hp=>by
 unfold p_validPoint_s at hs
 split at hs
 ·cases hs;exact ⟨_,_,p_validPoint_vc _ hp,(.same _ .nil),⟨show SpecsL Tryz.prog _ from (SpecsL.cons p_within_ok p_within_en SpecsL.nil),rfl,⟨show ItersL Tryz.prog _ from ItersL.nil,(TrsOk.none (fun _=>rfl))⟩⟩⟩
 ·cases hs)
theorem p_validPoint_en:Enters Tryz.prog 85:=fun args w=>by kernel_rfl
def p_valid1_p (p:L.Pt):Prop:=True
def p_valid1_r (p:L.Pt):SV:=.bool (!L.validPt p)
def p_valid1_s:List EV->Option (Prop × SV)
 | [.p (.agg [.int .i64 p_x,.int .i64 p_y])]=>some (p_valid1_p (⟨p_x,p_y⟩:L.Pt),p_valid1_r (⟨p_x,p_y⟩:L.Pt))
 | _=>none
abbrev p_valid1_S:SE.Spec:=(specO p_valid1_s)
def p_valid1_C:Cfg:={ cC with specs:=lookS [(85,p_validPoint_S)] }
theorem p_valid1_vc (p:L.Pt) (hp:p_valid1_p p):vc Tryz.prog (p_valid1_C) (bodyOf Tryz.f167) (st0 Tryz.f167 [.p (.agg [.int .i64 p.x,.int .i64 p.y])]) (retFn Tryz.prog Tryz.f167 (p_valid1_r p)) :=
 @Eq.mpr _ (True/\(!L.validPt p) = !L.validPt p) (by kernel_rfl) (by
 exact ⟨trivial,rfl⟩)
theorem p_valid1_ok:SpecOk Tryz.prog 167 p_valid1_S:=fnX Tryz.func167 (c:=bodyOf Tryz.f167) (by kernel_rfl) mixed (fun args p r hs hp=>by
 unfold p_valid1_s at hs
 split at hs
 ·cases hs;exact ⟨_,_,p_valid1_vc _ hp,(.same _ .nil),⟨show SpecsL Tryz.prog _ from (SpecsL.cons p_validPoint_ok p_validPoint_en SpecsL.nil),rfl,⟨show ItersL Tryz.prog _ from ItersL.nil,(TrsOk.none (fun _=>rfl))⟩⟩⟩
 ·cases hs)
theorem p_valid1_en:Enters Tryz.prog 167:=fun args w=>by kernel_rfl
theorem p_valid1_B:∀ args p r,p_valid1_s args=some (p,r) -> ∃ b,r=.bool b:=by
 intro args p r h
 unfold p_valid1_s at h
 split at h
 ·cases h;exact ⟨_,rfl⟩
 ·cases h
def p_valid_p (l:(L.Sq L.Pt)):Prop:=l.n <= 1000000
def p_valid_r (l:(L.Sq L.Pt)):SV:=.bool (L.allB l.n (fun i=>L.validPt (l.g i)))
def p_valid_s:List EV->Option (Prop × SV)
 | [.p (.sl 2 l_n l_g)]=>some ((∀ i,i<l_n->l_g i = [.int .i64 ((ofPt (l_g i)).x),.int .i64 ((ofPt (l_g i)).y)])/\p_valid_p (⟨l_n,fun i=>ofPt (l_g i)⟩:(L.Sq L.Pt)),p_valid_r (⟨l_n,fun i=>ofPt (l_g i)⟩:(L.Sq L.Pt)))
 | _=>none
abbrev p_valid_S:SE.Spec:=(specO p_valid_s)
def p_valid_C:Cfg:={ cC with specs:=lookS [(87,s_conFP_S),(167,p_valid1_S)] }
theorem p_valid_vc (l:(L.Sq L.Pt)) (hp:p_valid_p l):vc Tryz.prog (p_valid_C) (bodyOf Tryz.f135) (st0 Tryz.f135 [.p (.sl 2 l.n (fun i=>[.int .i64 ((l.g i).x),.int .i64 ((l.g i).y)]))]) (retFn Tryz.prog Tryz.f135 (p_valid_r l)) :=
 @Eq.mpr _ (let I:=SV.int .i64;let A1:=(FSpec.mk (fun («as»:List SV)=>preO p_valid1_s (List.map EV.p «as» ++ List.map EV.p [])) fun («as»:List SV)=>resO p_valid1_s (List.map EV.p «as» ++ List.map EV.p []));((∀ (i:Nat),let A2:=[I (l.g i).x,I (l.g i).y];i<l.n->A2=A2)/\isB A1/\l.n <= (1000000:Nat) /\ ∀ (i:Nat),i<l.n->True)/\(!L.anyB l.n fun (i:Nat)=>L.fbl A1 [SV.agg [I (l.g i).x,I (l.g i).y]])=L.allB l.n fun (i:Nat)=>L.validPt (l.g i)) (by kernel_rfl) (by
 conv=>zeta
 refine ⟨⟨fun _ _=>rfl,isB_of p_valid1_B _,hp,fun _ _=>trivial⟩,?_⟩
 rw [not_anyB]
 exact congrArg (L.allB l.n) (funext fun i=>Bool.not_not (L.validPt (l.g i))))
theorem p_valid_ok:SpecOk Tryz.prog 135 p_valid_S:=fnX Tryz.func135 (c:=bodyOf Tryz.f135) (by kernel_rfl) mixed (fun args p r hs hp=>by
 unfold p_valid_s at hs
 split at hs
 ·cases hs;exact ⟨_,_,p_valid_vc _ hp.2,(.p (.sl hp.1) .nil),⟨show SpecsL Tryz.prog _ from (SpecsL.cons s_conFP_ok s_conFP_en (SpecsL.cons p_valid1_ok p_valid1_en SpecsL.nil)),rfl,⟨show ItersL Tryz.prog _ from ItersL.nil,(TrsOk.none (fun _=>rfl))⟩⟩⟩
 ·cases hs)
theorem p_valid_en:Enters Tryz.prog 135:=fun args w=>by kernel_rfl
def p_compare_p (a:L.Pt) (b:L.Pt):Prop:=True
def p_compare_r (a:L.Pt) (b:L.Pt):SV:=.int .i64 (L.cmpPt a b)
def p_compare_s:List EV->Option (Prop × SV)
 | [.p (.agg [.int .i64 a_x,.int .i64 a_y]),.p (.agg [.int .i64 b_x,.int .i64 b_y])]=>some (p_compare_p (⟨a_x,a_y⟩:L.Pt) (⟨b_x,b_y⟩:L.Pt),p_compare_r (⟨a_x,a_y⟩:L.Pt) (⟨b_x,b_y⟩:L.Pt))
 | _=>none
abbrev p_compare_S:SE.Spec:=(specO p_compare_s)
def p_compare_C:Cfg:={ cC with specs:=lookS [(147,c_cmp_S),(160,c_or_S)] }
theorem p_compare_vc (a:L.Pt) (b:L.Pt) (hp:p_compare_p a b):vc Tryz.prog (p_compare_C) (bodyOf Tryz.f138) (st0 Tryz.f138 [.p (.agg [.int .i64 a.x,.int .i64 a.y]),.p (.agg [.int .i64 b.x,.int .i64 b.y])]) (retFn Tryz.prog Tryz.f138 (p_compare_r a b)) :=
 @Eq.mpr _ (let I:=SV.int .i64;let A1:=[I (L.cmp a.x b.x),I (L.cmp a.y b.y)];True/\True/\((∀ (i:Nat),i<nat_lit 2->rowsOf A1 (nat_lit 1) i = [I (intOf (rowsOf A1 (nat_lit 1) i))])/\nat_lit 2 <= (1000000:Nat))/\L.firstNZ (fun (i:Nat)=>intOf (rowsOf A1 (nat_lit 1) i)) (2:Nat)=L.cmpPt a b) (by kernel_rfl) (by
 conv=>zeta
 exact ⟨trivial,trivial,⟨fun i hi=>by match i,hi with | 0,_=>rfl | 1,_=>rfl,by decide⟩,rfl⟩)
theorem p_compare_ok:SpecOk Tryz.prog 138 p_compare_S:=fnX Tryz.func138 (c:=bodyOf Tryz.f138) (by kernel_rfl) mixed (fun args p r hs hp=>by
 unfold p_compare_s at hs
 split at hs
 ·cases hs;exact ⟨_,_,p_compare_vc _ _ hp,(.same _ (.same _ .nil)),⟨show SpecsL Tryz.prog _ from (SpecsL.cons c_cmp_ok c_cmp_en (SpecsL.cons c_or_ok c_or_en SpecsL.nil)),rfl,⟨show ItersL Tryz.prog _ from ItersL.nil,(TrsOk.none (fun _=>rfl))⟩⟩⟩
 ·cases hs)
theorem p_compare_en:Enters Tryz.prog 138:=fun args w=>by kernel_rfl
def p_on_p (a:L.Pt) (b:L.Pt) (p:L.Pt):Prop:=L.bd a/\L.bd b/\L.bd p
def p_on_r (a:L.Pt) (b:L.Pt) (p:L.Pt):SV:=.bool (L.on a b p)
def p_on_s:List EV->Option (Prop × SV)
 | [.p (.agg [.int .i64 a_x,.int .i64 a_y]),.p (.agg [.int .i64 b_x,.int .i64 b_y]),.p (.agg [.int .i64 p_x,.int .i64 p_y])]=>some (p_on_p (⟨a_x,a_y⟩:L.Pt) (⟨b_x,b_y⟩:L.Pt) (⟨p_x,p_y⟩:L.Pt),p_on_r (⟨a_x,a_y⟩:L.Pt) (⟨b_x,b_y⟩:L.Pt) (⟨p_x,p_y⟩:L.Pt))
 | _=>none
abbrev p_on_S:SE.Spec:=(specO p_on_s)
def p_on_C:Cfg:={ cC with specs:=lookS [(137,p_cross_S),(132,p_within_S)] }
theorem p_on_vc (a:L.Pt) (b:L.Pt) (p:L.Pt) (hp:p_on_p a b p):vc Tryz.prog (p_on_C) (bodyOf Tryz.f191) (st0 Tryz.f191 [.p (.agg [.int .i64 a.x,.int .i64 a.y]),.p (.agg [.int .i64 b.x,.int .i64 b.y]),.p (.agg [.int .i64 p.x,.int .i64 p.y])]) (retFn Tryz.prog Tryz.f191 (p_on_r a b p)) :=
 @Eq.mpr _ ((L.bd a/\L.bd b/\L.bd p)/\(decide (L.cross a b p=(0:Int))=true->True)/\((bif decide (L.cross a b p=(0:Int)) then L.within p.x (Min.min a.x b.x) (Max.max a.x b.x) else false)=true->True)/\(bif bif decide (L.cross a b p=(0:Int)) then L.within p.x (Min.min a.x b.x) (Max.max a.x b.x) else false then L.within p.y (Min.min a.y b.y) (Max.max a.y b.y) else false)=L.on a b p) (by kernel_rfl) (by
 refine ⟨hp,fun _=>trivial,fun _=>trivial,?_⟩
 unfold L.on
 cases decide (L.cross a b p=0) <;> cases L.within p.x (min a.x b.x) (max a.x b.x) <;> rfl)
theorem p_on_ok:SpecOk Tryz.prog 191 p_on_S:=fnX Tryz.func191 (c:=bodyOf Tryz.f191) (by kernel_rfl) mixed (fun args p r hs hp=>by
 unfold p_on_s at hs
 split at hs
 ·cases hs;exact ⟨_,_,p_on_vc _ _ _ hp,(.same _ (.same _ (.same _ .nil))),⟨show SpecsL Tryz.prog _ from (SpecsL.cons p_cross_ok p_cross_en (SpecsL.cons p_within_ok p_within_en SpecsL.nil)),rfl,⟨show ItersL Tryz.prog _ from ItersL.nil,(TrsOk.none (fun _=>rfl))⟩⟩⟩
 ·cases hs)
theorem p_on_en:Enters Tryz.prog 191:=fun args w=>by kernel_rfl
def p_meet1_p (a:L.Pt) (b:L.Pt) (c:L.Pt) (d:L.Pt):Prop:=L.bd a/\L.bd b/\L.bd c/\L.bd d
def p_meet1_r (a:L.Pt) (b:L.Pt) (c:L.Pt) (d:L.Pt):SV:=.bool (L.apart a b c d)
def p_meet1_s:List EV->Option (Prop × SV)
 | [.p (.agg [.int .i64 a_x,.int .i64 a_y]),.p (.agg [.int .i64 b_x,.int .i64 b_y]),.p (.agg [.int .i64 c_x,.int .i64 c_y]),.p (.agg [.int .i64 d_x,.int .i64 d_y])]=>some (p_meet1_p (⟨a_x,a_y⟩:L.Pt) (⟨b_x,b_y⟩:L.Pt) (⟨c_x,c_y⟩:L.Pt) (⟨d_x,d_y⟩:L.Pt),p_meet1_r (⟨a_x,a_y⟩:L.Pt) (⟨b_x,b_y⟩:L.Pt) (⟨c_x,c_y⟩:L.Pt) (⟨d_x,d_y⟩:L.Pt))
 | _=>none
abbrev p_meet1_S:SE.Spec:=(specO p_meet1_s)
def p_meet1_C:Cfg:={ cC with specs:=lookS [(137,p_cross_S),(147,c_cmp_S)] }
theorem p_meet1_vc (a:L.Pt) (b:L.Pt) (c:L.Pt) (d:L.Pt) (hp:p_meet1_p a b c d):vc Tryz.prog (p_meet1_C) (bodyOf Tryz.f192) (st0 Tryz.f192 [.p (.agg [.int .i64 a.x,.int .i64 a.y]),.p (.agg [.int .i64 b.x,.int .i64 b.y]),.p (.agg [.int .i64 c.x,.int .i64 c.y]),.p (.agg [.int .i64 d.x,.int .i64 d.y])]) (retFn Tryz.prog Tryz.f192 (p_meet1_r a b c d)) :=
 @Eq.mpr _ ((L.bd a/\L.bd b/\L.bd c)/\True/\(L.bd a/\L.bd b/\L.bd d)/\True/\InK .i64 (L.cmp (L.cross a b c) (0:Int) * L.cmp (L.cross a b d) (0:Int))/\decide (L.cmp (L.cross a b c) (0:Int) * L.cmp (L.cross a b d) (0:Int)<(0:Int))=L.apart a b c d) (by kernel_rfl) (by
 obtain ⟨h1,h2,h3,h4⟩:=hp
 have c1:=cmp_bd (L.cross a b c) 0
 have c2:=cmp_bd (L.cross a b d) 0
 have m:=mul_bd (m:=1) (n:=1) (by omega) c1.2 (by omega) c2.2
 exact ⟨⟨h1,h2,h3⟩,trivial,⟨h1,h2,h4⟩,trivial,jK,rfl⟩)
theorem p_meet1_ok:SpecOk Tryz.prog 192 p_meet1_S:=fnX Tryz.func192 (c:=bodyOf Tryz.f192) (by kernel_rfl) mixed (fun args p r hs hp=>by
 unfold p_meet1_s at hs
 split at hs
 ·cases hs;exact ⟨_,_,p_meet1_vc _ _ _ _ hp,(.same _ (.same _ (.same _ (.same _ .nil)))),⟨show SpecsL Tryz.prog _ from (SpecsL.cons p_cross_ok p_cross_en (SpecsL.cons c_cmp_ok c_cmp_en SpecsL.nil)),rfl,⟨show ItersL Tryz.prog _ from ItersL.nil,(TrsOk.none (fun _=>rfl))⟩⟩⟩
 ·cases hs)
theorem p_meet1_en:Enters Tryz.prog 192:=fun args w=>by kernel_rfl
end Go.Proofs.YtpgaejicfbpcmaaGreat
namespace Go.Proofs.YtpgaejicfbpcmaaGreat
open Go.SE Go.RowKit
set_option maxRecDepth 100000
set_option maxHeartbeats 4000000
set_option linter.unusedVariables false
attribute [local irreducible] vc
def L.same (p q:L.Pt):Bool:=decide (p.x=q.x) && decide (p.y=q.y)
def L.has (ks:L.Sq L.Pt) (p:L.Pt):Bool:=L.anyB ks.n (fun i=>L.same p (ks.g i))
def L.put (ks:L.Sq L.Pt) (p:L.Pt):L.Sq L.Pt:=bif L.has ks p then ks else ⟨ks.n+1,fun i=>if i<ks.n then ks.g i else p⟩
def L.putIf (c:Bool) (ks:L.Sq L.Pt) (p:L.Pt):L.Sq L.Pt:=bif c then L.put ks p else ks
def L.no:L.Sq L.Pt:=⟨0,fun _=>⟨0,0⟩⟩
def L.pick (a b:L.Pt) (i:Nat):L.Pt:=bif decide (i=0) then a else b
def L.k1 (a b c d:L.Pt):Nat->L.Sq L.Pt
 | 0=>L.no
 | n+1=>L.putIf (L.on c d (L.pick a b n)) (L.k1 a b c d n) (L.pick a b n)
def L.k2 (a b c d:L.Pt):Nat->L.Sq L.Pt
 | 0=>L.k1 a b c d 2
 | n+1=>L.putIf (L.on a b (L.pick c d n)) (L.k2 a b c d n) (L.pick c d n)
def L.meet (a b c d:L.Pt):Int:=bif decide (1<((L.k2 a b c d 2).n:Int)) then 3 else bif decide (((L.k2 a b c d 2).n:Int)=1) then 1 else bif (bif L.apart a b c d then L.apart c d a b else false) then 2 else 0
def L.cell (ks:L.Sq L.Pt):Nat->List SV:=fun i=>[.int .i64 (ks.g i).x,.int .i64 (ks.g i).y]
theorem pick_bd {a b:L.Pt} (ha:L.bd a) (hb:L.bd b) (i:Nat):L.bd (L.pick a b i):=by
 unfold L.pick;cases decide (i=0) <;> assumption
theorem put_has {ks:L.Sq L.Pt} {p:L.Pt} (h:∃ i,i<ks.n/\(decide (p.x=(ks.g i).x) && decide (p.y=(ks.g i).y))=true):L.put ks p=ks:=by
 have:L.has ks p=true:=anyB_iff.2 h
 simp [L.put,this]
theorem put_new {ks:L.Sq L.Pt} {p:L.Pt} (h:∀ i,i<ks.n->(decide (p.x=(ks.g i).x) && decide (p.y=(ks.g i).y))=false) :
  ks.n+1=(L.put ks p).n /\ ∀ i,i<ks.n+1->appGet ks.n (L.cell ks) (fun _=>[.int .i64 p.x,.int .i64 p.y]) i=L.cell (L.put ks p) i:=by
 have hn:L.has ks p=false:=by
  cases hb:L.has ks p with
  | false=>rfl
  | true =>
    obtain ⟨i,hi,hq⟩:=anyB_iff.1 hb
    rw [show L.same p (ks.g i)=false from h i hi] at hq
    cases hq
 simp only [L.put,hn,cond_false,true_and]
 intro i hi
 unfold appGet L.cell
 by_cases hlt:i<ks.n <;> simp [hlt]
theorem putIf_step {ks:L.Sq L.Pt} {p:L.Pt}:(L.putIf false ks p=ks)/\L.putIf true ks p=L.put ks p:=⟨rfl,rfl⟩
def p_meet_p (a:L.Pt) (b:L.Pt) (c:L.Pt) (d:L.Pt):Prop:=L.bd a/\L.bd b/\L.bd c/\L.bd d
def p_meet_r (a:L.Pt) (b:L.Pt) (c:L.Pt) (d:L.Pt):SV:=.int .i64 (L.meet a b c d)
def p_meet_s:List EV->Option (Prop × SV)
 | [.p (.agg [.int .i64 a_x,.int .i64 a_y]),.p (.agg [.int .i64 b_x,.int .i64 b_y]),.p (.agg [.int .i64 c_x,.int .i64 c_y]),.p (.agg [.int .i64 d_x,.int .i64 d_y])]=>some (p_meet_p (⟨a_x,a_y⟩:L.Pt) (⟨b_x,b_y⟩:L.Pt) (⟨c_x,c_y⟩:L.Pt) (⟨d_x,d_y⟩:L.Pt),p_meet_r (⟨a_x,a_y⟩:L.Pt) (⟨b_x,b_y⟩:L.Pt) (⟨c_x,c_y⟩:L.Pt) (⟨d_x,d_y⟩:L.Pt))
 | _=>none
abbrev p_meet_S:SE.Spec:=(specO p_meet_s)
def p_meet_C:Cfg:={ cC with specs:=lookS [(191,p_on_S),(192,p_meet1_S)] }
theorem p_meet_vc (a:L.Pt) (b:L.Pt) (c:L.Pt) (d:L.Pt) (hp:p_meet_p a b c d):vc Tryz.prog ({ p_meet_C with loops:=lookL [(3,{ T:=Nat,keep:=[4,5,6,7,8,9,20],keepO:=[],chg:=fun i=>[(21,.p (.int .i64 (i:Int))),(19,.p (.sl 2 2 (fun i=>[.int .i64 ((L.pick a b i).x),.int .i64 ((L.pick a b i).y)])))],own:=fun i=>[(16,.mp 48 (L.k1 a b c d i).n (L.cell (L.k1 a b c d i)))],inv:=fun i=>i <= 2,mu:=fun i=>2 - i }),(9,{ T:=Nat,keep:=[4,5,6,7,8,9,35],keepO:=[],chg:=fun i=>[(36,.p (.int .i64 (i:Int))),(34,.p (.sl 2 2 (fun i=>[.int .i64 ((L.pick c d i).x),.int .i64 ((L.pick c d i).y)])))],own:=fun i=>[(16,.mp 48 (L.k2 a b c d i).n (L.cell (L.k2 a b c d i)))],inv:=fun i=>i <= 2,mu:=fun i=>2 - i })],rfs:=lookR [] }) (bodyOf Tryz.f169) (st0 Tryz.f169 [.p (.agg [.int .i64 a.x,.int .i64 a.y]),.p (.agg [.int .i64 b.x,.int .i64 b.y]),.p (.agg [.int .i64 c.x,.int .i64 c.y]),.p (.agg [.int .i64 d.x,.int .i64 d.y])]) (retFn Tryz.prog Tryz.f169 (p_meet_r a b c d)) :=
 @Eq.mpr _ (let I:=SV.int .i64;let T:=Int.toNat;let A24:=(1:Nat);let A20:=(bif L.apart a b c d then L.apart c d a b else false);let A15:=(1:Int);let A14:=(0:Int);let A13:=[I a.x,I a.y];let A12:=[I b.x,I b.y];let A11:=[I c.x,I c.y];let A10:=[I d.x,I d.y];let A9:=(2:Nat);let A8:=(nat_lit 2=A9 /\ ∀ (i:Nat),let A21:=[I (L.pick c d i).x,I (L.pick c d i).y];i<nat_lit 2->A21=A21);let A7:=(nat_lit 2=A9 /\ ∀ (i:Nat),let A22:=[I (L.pick a b i).x,I (L.pick a b i).y];i<nat_lit 2->A22=A22);let A5:=(↑(nat_lit 2):Int);let A1:=(nat_lit 0);(∃ (g:Nat),A14=(↑g:Int)/\(nat_lit 2=A9 /\ ∀ (i:Nat),i<nat_lit 2->rowsOf [I a.x,I a.y,I b.x,I b.y] (nat_lit 2) i = [I (L.pick a b i).x,I (L.pick a b i).y])/\(nat_lit 0=(L.k1 a b c d g).n /\ ∀ (i:Nat),i<nat_lit 0 -> []=L.cell (L.k1 a b c d g) i)/\g <= A9) /\ ∀ (g:Nat),let A19:=(↑g:Int);let A6:=(L.pick a b (T A19));let A4:=(L.k1 a b c d g);g <= A9->(decide (A19<A5)=true->(A14 <= A19/\A19<A5)/\(L.bd c/\L.bd d/\L.bd A6)/\(L.on c d A6=true->(∀ (i:Nat),let A17:=(decide (A6.x=(A4.g i).x) && decide (A6.y=(A4.g i).y));i<A4.n->A17=A17)/\((∃ (i:Nat),i<A4.n/\(decide (A6.x=(A4.g i).x) && decide (A6.y=(A4.g i).y))=true)->InK .i64 (A19+A15) /\ ∃ (g':Nat),A19+A15=(↑g':Int)/\A7/\A5=A5/\A14=A14/\SV.ref A10 A1=SV.ref A10 A1/\SV.ref A11 A1=SV.ref A11 A1/\SV.ref A12 A1=SV.ref A12 A1/\SV.ref A13 A1=SV.ref A13 A1/\(A4.n=(L.k1 a b c d g').n /\ ∀ (i:Nat),i<A4.n->L.cell A4 i=L.cell (L.k1 a b c d g') i)/\g' <= A9/\A9 - g'<A9 - g)/\((∀ (i:Nat),i<A4.n->(decide (A6.x=(A4.g i).x) && decide (A6.y=(A4.g i).y))=false)->InK .i64 (A19+A15) /\ ∃ (g':Nat),A19+A15=(↑g':Int)/\A7/\A5=A5/\A14=A14/\SV.ref A10 A1=SV.ref A10 A1/\SV.ref A11 A1=SV.ref A11 A1/\SV.ref A12 A1=SV.ref A12 A1/\SV.ref A13 A1=SV.ref A13 A1/\(A4.n+A24=(L.k1 a b c d g').n /\ ∀ (i:Nat),i<A4.n+A24->appGet A4.n (L.cell A4) (fun (x:Nat)=>[I A6.x,I A6.y]) i=L.cell (L.k1 a b c d g') i)/\g' <= A9/\A9 - g'<A9 - g))/\(L.on c d A6=false->InK .i64 (A19+A15) /\ ∃ (g':Nat),A19+A15=(↑g':Int)/\A7/\A5=A5/\A14=A14/\SV.ref A10 A1=SV.ref A10 A1/\SV.ref A11 A1=SV.ref A11 A1/\SV.ref A12 A1=SV.ref A12 A1/\SV.ref A13 A1=SV.ref A13 A1/\(A4.n=(L.k1 a b c d g').n /\ ∀ (i:Nat),i<A4.n->L.cell A4 i=L.cell (L.k1 a b c d g') i)/\g' <= A9/\A9 - g'<A9 - g))/\(decide (A19<A5)=false->(∃ (g_1:Nat),A14=(↑g_1:Int)/\(nat_lit 2=A9 /\ ∀ (i:Nat),i<nat_lit 2->rowsOf [I c.x,I c.y,I d.x,I d.y] (nat_lit 2) i = [I (L.pick c d i).x,I (L.pick c d i).y])/\(A4.n=(L.k2 a b c d g_1).n /\ ∀ (i:Nat),i<A4.n->L.cell A4 i=L.cell (L.k2 a b c d g_1) i)/\g_1 <= A9) /\ ∀ (g_1:Nat),let A16:=(↑g_1:Int);let A3:=(L.pick c d (T A16));let A2:=(L.k2 a b c d g_1);let A23:=(↑A2.n:Int);g_1 <= A9->(decide (A16<A5)=true->(A14 <= A16/\A16<A5)/\(L.bd a/\L.bd b/\L.bd A3)/\(L.on a b A3=true->(∀ (i:Nat),let A18:=(decide (A3.x=(A2.g i).x) && decide (A3.y=(A2.g i).y));i<A2.n->A18=A18)/\((∃ (i:Nat),i<A2.n/\(decide (A3.x=(A2.g i).x) && decide (A3.y=(A2.g i).y))=true)->InK .i64 (A16+A15) /\ ∃ (g':Nat),A16+A15=(↑g':Int)/\A8/\A5=A5/\A14=A14/\SV.ref A10 A1=SV.ref A10 A1/\SV.ref A11 A1=SV.ref A11 A1/\SV.ref A12 A1=SV.ref A12 A1/\SV.ref A13 A1=SV.ref A13 A1/\(A2.n=(L.k2 a b c d g').n /\ ∀ (i:Nat),i<A2.n->L.cell A2 i=L.cell (L.k2 a b c d g') i)/\g' <= A9/\A9 - g'<A9 - g_1)/\((∀ (i:Nat),i<A2.n->(decide (A3.x=(A2.g i).x) && decide (A3.y=(A2.g i).y))=false)->InK .i64 (A16+A15) /\ ∃ (g':Nat),A16+A15=(↑g':Int)/\A8/\A5=A5/\A14=A14/\SV.ref A10 A1=SV.ref A10 A1/\SV.ref A11 A1=SV.ref A11 A1/\SV.ref A12 A1=SV.ref A12 A1/\SV.ref A13 A1=SV.ref A13 A1/\(A2.n+A24=(L.k2 a b c d g').n /\ ∀ (i:Nat),i<A2.n+A24->appGet A2.n (L.cell A2) (fun (x:Nat)=>[I A3.x,I A3.y]) i=L.cell (L.k2 a b c d g') i)/\g' <= A9/\A9 - g'<A9 - g_1))/\(L.on a b A3=false->InK .i64 (A16+A15) /\ ∃ (g':Nat),A16+A15=(↑g':Int)/\A8/\A5=A5/\A14=A14/\SV.ref A10 A1=SV.ref A10 A1/\SV.ref A11 A1=SV.ref A11 A1/\SV.ref A12 A1=SV.ref A12 A1/\SV.ref A13 A1=SV.ref A13 A1/\(A2.n=(L.k2 a b c d g').n /\ ∀ (i:Nat),i<A2.n->L.cell A2 i=L.cell (L.k2 a b c d g') i)/\g' <= A9/\A9 - g'<A9 - g_1))/\(decide (A16<A5)=false->(decide (A15<A23)=true->(3:Int)=L.meet a b c d)/\(decide (A15<A23)=false->(decide (A23=A15)=true->A15=L.meet a b c d)/\(decide (A23=A15)=false->(L.bd a/\L.bd b/\L.bd c/\L.bd d)/\(L.apart a b c d=true->L.bd c/\L.bd d/\L.bd a/\L.bd b)/\(A20=true->(2:Int)=L.meet a b c d)/\(A20=false->A14=L.meet a b c d)))))) (by kernel_rfl) (by
 conv=>zeta
 obtain ⟨ha,hb,hc,hd⟩:=hp
 refine ⟨⟨(0:Nat),rfl,⟨rfl,fun i hi=>by match i,hi with | 0,_=>rfl | 1,_=>rfl⟩,⟨rfl,fun i hi=>absurd hi (Nat.not_lt_zero _)⟩,by decide⟩,fun g hg=>⟨fun hlt=>?_,fun hge=>?_⟩⟩
 ·have hb1:(g:Int)<2:=by simpa using hlt
  have e0:((g:Int)).toNat=g:=by omega
  rw [e0]
  refine ⟨⟨by omega,hb1⟩,⟨hc,hd,pick_bd ha hb g⟩,fun hon=>⟨fun _ _=>rfl,fun hex=>⟨jK,g+1,by omega,⟨rfl,fun _ _=>rfl⟩,rfl,rfl,rfl,rfl,rfl,rfl,?_,by omega,by omega⟩,fun hnx=>⟨jK,g+1,by omega,⟨rfl,fun _ _=>rfl⟩,rfl,rfl,rfl,rfl,rfl,rfl,?_,by omega,by omega⟩⟩,fun hon=>⟨jK,g+1,by omega,⟨rfl,fun _ _=>rfl⟩,rfl,rfl,rfl,rfl,rfl,rfl,?_,by omega,by omega⟩⟩
  ·rw [show L.k1 a b c d (g+1)=L.k1 a b c d g by rw [L.k1,hon,putIf_step.2,put_has hex]];exact ⟨rfl,fun _ _=>rfl⟩
  ·rw [L.k1,hon,putIf_step.2];exact put_new hnx
  ·rw [show L.k1 a b c d (g+1)=L.k1 a b c d g by rw [L.k1,hon,putIf_step.1]];exact ⟨rfl,fun _ _=>rfl⟩
 ·have hb1:¬ (g:Int)<2:=by simpa using hge
  obtain rfl:g=2:=by omega
  refine ⟨⟨(0:Nat),rfl,⟨rfl,fun i hi=>by match i,hi with | 0,_=>rfl | 1,_=>rfl⟩,⟨rfl,fun i hi=>rfl⟩,by decide⟩,fun g hg=>⟨fun hlt=>?_,fun hge=>?_⟩⟩
  ·have hb1:(g:Int)<2:=by simpa using hlt
   have e0:((g:Int)).toNat=g:=by omega
   rw [e0]
   refine ⟨⟨by omega,hb1⟩,⟨ha,hb,pick_bd hc hd g⟩,fun hon=>⟨fun _ _=>rfl,fun hex=>⟨jK,g+1,by omega,⟨rfl,fun _ _=>rfl⟩,rfl,rfl,rfl,rfl,rfl,rfl,?_,by omega,by omega⟩,fun hnx=>⟨jK,g+1,by omega,⟨rfl,fun _ _=>rfl⟩,rfl,rfl,rfl,rfl,rfl,rfl,?_,by omega,by omega⟩⟩,fun hon=>⟨jK,g+1,by omega,⟨rfl,fun _ _=>rfl⟩,rfl,rfl,rfl,rfl,rfl,rfl,?_,by omega,by omega⟩⟩
   ·rw [show L.k2 a b c d (g+1)=L.k2 a b c d g by rw [L.k2,hon,putIf_step.2,put_has hex]];exact ⟨rfl,fun _ _=>rfl⟩
   ·rw [L.k2,hon,putIf_step.2];exact put_new hnx
   ·rw [show L.k2 a b c d (g+1)=L.k2 a b c d g by rw [L.k2,hon,putIf_step.1]];exact ⟨rfl,fun _ _=>rfl⟩
  ·have hb1:¬ (g:Int)<2:=by simpa using hge
   obtain rfl:g=2:=by omega
   unfold L.meet
   refine ⟨fun h=>by rw [h];rfl,fun h=>⟨fun h'=>by rw [h,h'];rfl,fun h'=>⟨⟨ha,hb,hc,hd⟩,fun _=>⟨hc,hd,ha,hb⟩,fun q=>by rw [h,h',q];rfl,fun q=>by rw [h,h',q];rfl⟩⟩⟩)
theorem p_meet_ok:SpecOk Tryz.prog 169 p_meet_S:=fnX Tryz.func169 (c:=bodyOf Tryz.f169) (by kernel_rfl) mixed (fun args p r hs hp=>by
 unfold p_meet_s at hs
 split at hs
 ·cases hs;exact ⟨_,_,p_meet_vc _ _ _ _ hp,(.same _ (.same _ (.same _ (.same _ .nil)))),⟨show SpecsL Tryz.prog _ from (SpecsL.cons p_on_ok p_on_en (SpecsL.cons p_meet1_ok p_meet1_en SpecsL.nil)),rfl,⟨show ItersL Tryz.prog _ from ItersL.nil,(TrsOk.none (fun _=>rfl))⟩⟩⟩
 ·cases hs)
theorem p_meet_en:Enters Tryz.prog 169:=fun args w=>by kernel_rfl
end Go.Proofs.YtpgaejicfbpcmaaGreat
namespace Go.Proofs.YtpgaejicfbpcmaaGreat
open Go.SE Go.RowKit
set_option maxRecDepth 100000
set_option maxHeartbeats 4000000
set_option linter.unusedVariables false
attribute [local irreducible] vc
def L.nxt (l:L.Sq L.Pt) (i k:Nat):Bool:=bif decide ((k:Int)=(i:Int)+1) then true else bif decide ((i:Int)=0) then decide ((k:Int)=(l.n:Int) - 1) else false
def L.how (l:L.Sq L.Pt) (i k:Nat):Int:=L.meet (l.g i) (l.g (i+1)) (l.g k) (l.g (L.next l.n k))
def L.okPair (l:L.Sq L.Pt) (i k:Nat):Bool:=bif L.nxt l i k then decide (L.how l i k=1) else decide (L.how l i k=0)
def L.simple (l:L.Sq L.Pt):Bool:=L.allB l.n (fun i=>L.allB l.n (fun k=>!decide (i<k) || L.okPair l i k))
def L.allBd (l:L.Sq L.Pt):Prop:=l.n <= 1000 /\ ∀ i,i<l.n->L.bd (l.g i)
def p_simple_p (l:(L.Sq L.Pt)):Prop:=L.allBd l
def p_simple_r (l:(L.Sq L.Pt)):SV:=.bool (L.simple l)
def p_simple_s:List EV->Option (Prop × SV)
 | [.p (.sl 2 l_n l_g)]=>some ((∀ i,i<l_n->l_g i = [.int .i64 ((ofPt (l_g i)).x),.int .i64 ((ofPt (l_g i)).y)])/\p_simple_p (⟨l_n,fun i=>ofPt (l_g i)⟩:(L.Sq L.Pt)),p_simple_r (⟨l_n,fun i=>ofPt (l_g i)⟩:(L.Sq L.Pt)))
 | _=>none
abbrev p_simple_S:SE.Spec:=(specO p_simple_s)
def p_simple_C:Cfg:={ cC with specs:=lookS [(169,p_meet_S)] }
theorem p_simple_vc (l:(L.Sq L.Pt)) (hp:p_simple_p l):vc Tryz.prog ({ p_simple_C with loops:=lookL [(3,{ T:=Nat,keep:=[0,3,11],keepO:=[],chg:=fun i=>[(12,.p (.int .i64 (i:Int)))],own:=fun _=>[],inv:=fun i=>i <= l.n /\ ∀ j,j<i -> ∀ k,j<k->k<l.n->L.okPair l j k=true,mu:=fun i=>l.n - i }),(6,{ T:=Nat × Nat,keep:=[0,3,4,11,12],keepO:=[],tie:=fun i=>[(4,.int .i64 (i.1:Int)),(12,.int .i64 (i.1:Int))],chg:=fun i=>[(5,.p (.int .i64 (i.2:Int)))],own:=fun _=>[],inv:=fun i=>i.1<i.2/\i.2 <= l.n/\(∀ j,j<i.1 -> ∀ k,j<k->k<l.n->L.okPair l j k=true) /\ ∀ k,i.1<k->k<i.2->L.okPair l i.1 k=true,mu:=fun i=>l.n - i.2 })],rfs:=lookR [] }) (bodyOf Tryz.f139) (st0 Tryz.f139 [.p (.sl 2 l.n (fun i=>[.int .i64 ((l.g i).x),.int .i64 ((l.g i).y)]))]) (retFn Tryz.prog Tryz.f139 (p_simple_r l)) :=
 @Eq.mpr _ (let I:=SV.int .i64;let T:=Int.toNat;let M:=Int.tmod;let A7:=(0:Int);let A6:=(l.n=l.n /\ ∀ (i:Nat),let A11:=[I (l.g i).x,I (l.g i).y];i<l.n->A11=A11);let A5:=(1:Int);let A3:=(↑l.n:Int);(∃ (g:Nat),A7=(↑g:Int)/\g <= l.n /\ ∀ (j:Nat),j<g -> ∀ (k:Nat),j<k->k<l.n->L.okPair l j k=true) /\ ∀ (g:Nat),let A2:=(↑g:Int);let A12:=(l.g (T A2));let A9:=(A2+A5);let A13:=(l.g (T A9));(g <= l.n /\ ∀ (j:Nat),j<g -> ∀ (k:Nat),j<k->k<l.n->L.okPair l j k=true)->(decide (A2<A3)=true->InK .i64 A9/\(∃ (g_1:Nat × Nat),A2+A5=(↑g_1.2:Int)/\A2=(↑g_1.1:Int)/\A2=(↑g_1.1:Int)/\g_1.1<g_1.2/\g_1.2 <= l.n/\(∀ (j:Nat),j<g_1.1 -> ∀ (k:Nat),j<k->k<l.n->L.okPair l j k=true) /\ ∀ (k:Nat),g_1.1<k->k<g_1.2->L.okPair l g_1.1 k=true) /\ ∀ (g_1:Nat × Nat),let A4:=(↑g_1.2:Int);let A14:=(l.g (T A4));let A10:=(A4+A5);let A8:=(l.g (T (M A10 A3)));let A1:=(bif bif bif decide (A4=A2+A5) then true else bif decide (A2=A7) then decide (A4=A3 - A5) else false then !decide (L.meet A12 A13 A14 A8=A5) else false then true else bif !bif decide (A4=A2+A5) then true else bif decide (A2=A7) then decide (A4=A3 - A5) else false then !decide (L.meet A12 A13 A14 A8=A7) else false);(A2=(↑g_1.1:Int)/\A2=(↑g_1.1:Int)/\g_1.1<g_1.2/\g_1.2 <= l.n/\(∀ (j:Nat),j<g_1.1 -> ∀ (k:Nat),j<k->k<l.n->L.okPair l j k=true) /\ ∀ (k:Nat),g_1.1<k->k<g_1.2->L.okPair l g_1.1 k=true)->(decide (A4<A3)=true->(A7 <= A2/\A2<A3)/\InK .i64 A9/\(A7 <= A2+A5/\A2+A5<A3)/\(A7 <= A4/\A4<A3)/\InK .i64 A10/\A3 ≠ A7/\(A7 <= M A10 A3/\M A10 A3<A3)/\(L.bd A12/\L.bd A13/\L.bd A14/\L.bd A8)/\InK .i64 A9/\((!decide (A4=A2+A5) && decide (A2=A7))=true->InK .i64 (A3 - A5))/\(A1=true->false=L.simple l)/\(A1=false->InK .i64 A10 /\ ∃ (g':Nat × Nat),A4+A5=(↑g'.2:Int)/\A2=A2/\A2=A2/\A3=A3/\A3=A3/\A6/\(A2=(↑g'.1:Int)/\A2=(↑g'.1:Int)/\g'.1<g'.2/\g'.2 <= l.n/\(∀ (j:Nat),j<g'.1 -> ∀ (k:Nat),j<k->k<l.n->L.okPair l j k=true) /\ ∀ (k:Nat),g'.1<k->k<g'.2->L.okPair l g'.1 k=true)/\l.n - g'.2<l.n - g_1.2))/\(decide (A4<A3)=false->InK .i64 A9 /\ ∃ (g':Nat),A2+A5=(↑g':Int)/\A3=A3/\A3=A3/\A6/\(g' <= l.n /\ ∀ (j:Nat),j<g' -> ∀ (k:Nat),j<k->k<l.n->L.okPair l j k=true)/\l.n - g'<l.n - g))/\(decide (A2<A3)=false->true=L.simple l)) (by kernel_rfl) (by
 conv=>zeta
 obtain ⟨hn,hb⟩:=hp
 have fin0:∀ {i k:Nat},i<k->k<l.n->L.okPair l i k=false->false=L.simple l:=fun {i k} hik hk h=>by
  unfold L.simple
  rw [allB_false (i:=i) (by omega) (allB_false (i:=k) hk (by simp [hik,h]))]
 refine ⟨⟨(0:Nat),rfl,Nat.zero_le _,fun j hj=>absurd hj (Nat.not_lt_zero _)⟩,fun g hg=>⟨fun hlt=>?_,fun hge=>?_⟩⟩
 ·have hb1:(g:Int)<(l.n:Int):=by simpa using hlt
  refine ⟨jK,⟨(g,g+1),by simp,rfl,rfl,by simp,by simp;omega,hg.2,fun k h1 h2=>by simp at h1 h2;omega⟩,?_⟩
  rintro ⟨i,k⟩ ⟨e1,e2,hik,hkn,h0,h1⟩
  simp only at e1 e2 hik hkn h0 h1
  obtain rfl:i=g:=by omega
  refine ⟨fun hlt2=>?_,fun hge2=>?_⟩
  ·have hk:(k:Int)<(l.n:Int):=by simpa using hlt2
   have t3:=Int.tmod_nonneg (l.n:Int) (show 0 <= (k:Int)+1 by omega)
   have t4:=Int.tmod_lt_of_pos ((k:Int)+1) (show 0<(l.n:Int) by omega)
   have c1:((i:Int)).toNat=i:=by omega
   have c2:((i:Int)+1).toNat=i+1:=by omega
   have c3:((k:Int)).toNat=k:=by omega
   have c4:(Int.tmod ((k:Int)+1) (l.n:Int)).toNat=L.next l.n k:=rfl
   have c5:L.next l.n k<l.n:=next_lt (by omega)
   dsimp only
   rw [c1,c2,c3,c4]
   have key:(bif (bif (bif decide ((k:Int)=(i:Int)+1) then true else bif decide ((i:Int)=0) then decide ((k:Int)=(l.n:Int) - 1) else false) then !decide (L.meet (l.g i) (l.g (i+1)) (l.g k) (l.g (L.next l.n k))=1) else false) then true else bif !(bif decide ((k:Int)=(i:Int)+1) then true else bif decide ((i:Int)=0) then decide ((k:Int)=(l.n:Int) - 1) else false) then !decide (L.meet (l.g i) (l.g (i+1)) (l.g k) (l.g (L.next l.n k))=0) else false) = !L.okPair l i k:=by
    unfold L.okPair L.nxt L.how
    generalize (bif decide ((k:Int)=(i:Int)+1) then true else bif decide ((i:Int)=0) then decide ((k:Int)=(l.n:Int) - 1) else false)=q
    generalize decide (L.meet (l.g i) (l.g (i+1)) (l.g k) (l.g (L.next l.n k))=1)=q1
    generalize decide (L.meet (l.g i) (l.g (i+1)) (l.g k) (l.g (L.next l.n k))=0)=q2
    cases q <;> cases q1 <;> cases q2 <;> rfl
   rw [key]
   refine ⟨by omega,jK,by omega,by omega,jK,by omega,⟨t3,t4⟩,⟨hb i (by omega),hb (i+1) (by omega),hb k (by omega),hb _ c5⟩,jK,fun _=>jK,fun h=>fin0 hik (by omega) (by simpa using h),fun h=>?_⟩
   have hok:L.okPair l i k=true:=by simpa using h
   refine ⟨jK,(i,k+1),by simp,rfl,rfl,rfl,rfl,⟨rfl,fun _ _=>rfl⟩,⟨rfl,rfl,by simp;omega,by simp;omega,h0,fun m hm1 hm2=>?_⟩,by simp;omega⟩
   dsimp only at hm1 hm2 ⊢
   rcases Nat.lt_succ_iff_lt_or_eq.1 hm2 with h' | rfl
   ·exact h1 m hm1 h'
   ·exact hok
  ·have hk:¬ (k:Int)<(l.n:Int):=by simpa using hge2
   refine ⟨jK,i+1,by omega,rfl,rfl,⟨rfl,fun _ _=>rfl⟩,⟨by omega,fun j hj m hm1 hm2=>?_⟩,by omega⟩
   rcases Nat.lt_succ_iff_lt_or_eq.1 hj with h' | rfl
   ·exact h0 j h' m hm1 hm2
   ·exact h1 m hm1 (by omega)
 ·have hb1:¬ (g:Int)<(l.n:Int):=by simpa using hge
  unfold L.simple
  rw [allB_iff.2 (fun i hi=>allB_iff.2 (fun k hk=>?_))]
  by_cases hik:i<k
  ·simp [hik,hg.2 i (by omega) k hik hk]
  ·simp [hik])
theorem p_simple_ok:SpecOk Tryz.prog 139 p_simple_S:=fnX Tryz.func139 (c:=bodyOf Tryz.f139) (by kernel_rfl) mixed (fun args p r hs hp=>by
 unfold p_simple_s at hs
 split at hs
 ·cases hs;exact ⟨_,_,p_simple_vc _ hp.2,(.p (.sl hp.1) .nil),⟨show SpecsL Tryz.prog _ from (SpecsL.cons p_meet_ok p_meet_en SpecsL.nil),rfl,⟨show ItersL Tryz.prog _ from ItersL.nil,(TrsOk.none (fun _=>rfl))⟩⟩⟩
 ·cases hs)
theorem p_simple_en:Enters Tryz.prog 139:=fun args w=>by kernel_rfl
end Go.Proofs.YtpgaejicfbpcmaaGreat
namespace Go.Proofs.YtpgaejicfbpcmaaGreat
open Go.SE Go.RowKit
set_option maxRecDepth 100000
set_option maxHeartbeats 4000000
set_option linter.unusedVariables false
attribute [local irreducible] vc
def L.corner (l:L.Sq L.Pt) (k:Nat):Bool:=!(bif decide (L.cross (l.g (L.prev l.n k)) (l.g k) (l.g (L.next l.n k))=0) then true else bif decide (0<(k:Int)) then decide (0 <= L.cmpPt (l.g 0) (l.g k)) else false)
def L.validPts (l:L.Sq L.Pt):Bool:=L.allB l.n (fun i=>L.validPt (l.g i))
def L.valid3 (l:L.Sq L.Pt):Bool:=bif (bif !L.within (l.n:Int) 3 24 then true else !L.validPts l) then false else decide (0<L.areaTo l l.n)
def L.validOutline (l:L.Sq L.Pt):Bool:=L.valid3 l && (L.allB l.n (L.corner l) && L.simple l)
def L.bend (l:L.Sq L.Pt) (k:Nat):Int:=L.cmp (L.cross (l.g (L.prev l.n k)) (l.g k) (l.g (L.next l.n k))) 0
theorem prev_lt {n k:Nat} (h:0<n):L.prev n k<n:=by
 have t3:=Int.tmod_nonneg (n:Int) (show 0 <= (k:Int)+(n:Int) - 1 by omega)
 have t4:=Int.tmod_lt_of_pos ((k:Int)+(n:Int) - 1) (show 0<(n:Int) by omega)
 unfold L.prev;omega
theorem within_iff {n a b:Int}:L.within n a b=true ↔ a <= n/\n <= b:=by simp [L.within]
theorem valid3_spec {l:L.Sq L.Pt} (h:L.within (l.n:Int) 3 24=true) (h':L.validPts l=true):3 <= l.n/\l.n <= 24/\L.small l/\L.allBd l:=by
 obtain ⟨h1,h2⟩:=within_iff.1 h
 have hb:∀ i,i<l.n->L.bd (l.g i):=fun i hi=>validPt_bd (allB_iff.1 h' i hi)
 exact ⟨by omega,by omega,⟨by omega,hb⟩,⟨by omega,hb⟩⟩
theorem valid3_eq (l:L.Sq L.Pt):(bif (bif !L.within (l.n:Int) 3 24 then true else !(L.allB l.n fun i=>L.validPt (l.g i))) then true else decide (L.areaTo l l.n <= 0)) = !L.valid3 l:=by
 unfold L.valid3 L.validPts
 have:decide (0<L.areaTo l l.n) = !decide (L.areaTo l l.n <= 0):=by
  by_cases h:L.areaTo l l.n <= 0 <;> simp [h] <;> omega
 rw [this]
 generalize decide (L.areaTo l l.n <= 0)=q
 cases L.within (l.n:Int) 3 24 <;> cases (L.allB l.n fun i=>L.validPt (l.g i)) <;> cases q <;> rfl
theorem valid3_of {l:L.Sq L.Pt} (h:L.valid3 l=true):3 <= l.n/\l.n <= 24/\L.small l/\L.allBd l:=by
 unfold L.valid3 at h
 cases h1:L.within (l.n:Int) 3 24 with
 | false=>simp [h1] at h
 | true=>cases h2:L.validPts l with
   | false=>simp [h1,h2] at h
   | true=>exact valid3_spec h1 h2
theorem validOutline_of {l:L.Sq L.Pt} (h:L.validOutline l=true):3 <= l.n/\l.n <= 24/\L.small l/\L.allBd l:=valid3_of (Bool.and_eq_true_iff.1 h).1
theorem notT {b:Bool} (h:(!b)=true):b=false:=by cases b with | false=>rfl | true=>cases h
theorem notF {b:Bool} (h:(!b)=false):b=true:=by cases b with | true=>rfl | false=>cases h
def p_ValidOutline_p (l:(L.Sq L.Pt)):Prop:=l.n <= 1000000
def p_ValidOutline_r (l:(L.Sq L.Pt)):SV:=.bool (L.validOutline l)
def p_ValidOutline_s:List EV->Option (Prop × SV)
 | [.p (.sl 2 l_n l_g)]=>some ((∀ i,i<l_n->l_g i = [.int .i64 ((ofPt (l_g i)).x),.int .i64 ((ofPt (l_g i)).y)])/\p_ValidOutline_p (⟨l_n,fun i=>ofPt (l_g i)⟩:(L.Sq L.Pt)),p_ValidOutline_r (⟨l_n,fun i=>ofPt (l_g i)⟩:(L.Sq L.Pt)))
 | _=>none
abbrev p_ValidOutline_S:SE.Spec:=(specO p_ValidOutline_s)
def p_ValidOutline_C:Cfg:={ cC with specs:=lookS [(132,p_within_S),(135,p_valid_S),(131,p_area_S),(136,p_triples_S),(137,p_cross_S),(138,p_compare_S),(139,p_simple_S)],iters:=lookI [(168,p_triples1_it)] }
theorem p_ValidOutline_vc (l:(L.Sq L.Pt)) (hp:p_ValidOutline_p l):vc Tryz.prog ({ p_ValidOutline_C with loops:=lookL [],rfs:=lookR [(4,{ T:=Nat,keep:=[1,2],keepO:=[2],own:=fun k _=>[],inv:=fun k _=>∀ j,j<k->L.corner l j=true })] }) (bodyOf Tryz.f91) (st0 Tryz.f91 [.p (.sl 2 l.n (fun i=>[.int .i64 ((l.g i).x),.int .i64 ((l.g i).y)]))]) (retFn Tryz.prog Tryz.f91 (p_ValidOutline_r l)) :=
 @Eq.mpr _ (let I:=SV.int .i64;let T:=Int.toNat;let M:=Int.tmod;let A17:=(nat_lit 1);let A16:=(nat_lit 0);let A14:=(1:Int);let A13:=(nat_lit 2);let A12:=(↑(3:Nat):Int);let A10:=(↑l.n:Int);let A9:=(L.Sq.mk l.n fun (i:Nat)=>l.g i);let A8:=(0:Int);let A5:=[SV.sl A13 l.n fun (i:Nat)=>[I (l.g i).x,I (l.g i).y]];let A4:=(bif bif !L.within A10 (3:Int) (24:Int) then true else !L.allB l.n fun (i:Nat)=>L.validPt (l.g i) then true else decide (L.areaTo (L.Sq.mk l.n fun (i:Nat)=>l.g i) l.n <= A8));let A3:=(∀ (i:Nat),let A18:=[I (l.g i).x,I (l.g i).y];i<l.n->A18=A18);let A19:=(A3/\l.n <= (1000:Nat));True/\((!!L.within A10 (3:Int) (24:Int))=true->A3/\l.n <= (1000000:Nat))/\((!bif !L.within A10 (3:Int) (24:Int) then true else !L.allB l.n fun (i:Nat)=>L.validPt (l.g i))=true->A3/\L.small A9)/\(A4=true->false=L.validOutline l)/\(A4=false->A19/\(A19 /\ ∃ (t:Nat),false=false /\ ∀ (j:Nat),j<(0:Nat)->L.corner l j=true)/\(∀ (k t:Nat) (vk:Nat->Go.Value),let A15:=(↑k:Int);let A11:=(l.g (T A15));let A7:=(l.g (T (M (A15+A14) A10)));let A6:=(l.g (T (M (A15+A10 - A14) A10)));let A2:=(bif decide (L.cross A6 A11 A7=A8) then true else bif decide (A8<A15) then decide (A8 <= L.cmpPt (l.g (T A8)) A11) else false);let A1:=(!decide (L.cross A6 A11 A7=A8) && decide (A8<A15));k<l.n->(∀ (j:Nat),j<k->L.corner l j=true)->(A8 <= A8/\A8<A12)/\(A8 <= A14/\A14<A12)/\(A8 <= (2:Int)/\(2:Int)<A12)/\(L.bd A6/\L.bd A11/\L.bd A7)/\(A1=true->A8 <= A8/\A8<A10)/\(A1=true->A8 <= A14/\A14<A12)/\(A1=true->True)/\(A2=true->nat_lit 0=nat_lit 0/\SV.ref A5 A16=SV.ref A5 A16/\vk A13=vk A13/\vk A17=vk A17/\false=L.validOutline l)/\(A2=false -> ∃ (t':Nat),nat_lit 0=nat_lit 0/\SV.ref A5 A16=SV.ref A5 A16/\vk A13=vk A13/\vk A17=vk A17/\false=false /\ ∀ (j:Nat),j<k+(1:Nat)->L.corner l j=true)) /\ ∀ (t:Nat),(∀ (j:Nat),j<l.n->L.corner l j=true)->(A3/\L.allBd A9)/\L.simple A9=L.validOutline l)) (by kernel_rfl) (by
 conv=>zeta
 have hn:l.n <= 1000000:=hp
 have e3:=valid3_eq l
 refine ⟨trivial,fun _=>⟨fun _ _=>rfl,hn⟩,fun h=>⟨fun _ _=>rfl,?_⟩,fun h=>?_,fun h=>?_⟩
 ·cases h1:L.within (l.n:Int) 3 24 with
  | false=>simp [h1] at h
  | true=>cases h2:L.validPts l with
    | false=>rw [h1] at h;rw [show (L.allB l.n fun i=>L.validPt (l.g i))=false from h2] at h;simp at h
    | true=>exact (valid3_spec h1 h2).2.2.1
 ·have h:=e3.symm.trans h
  have:L.valid3 l=false:=by simpa using h
  unfold L.validOutline;rw [this];rfl
 ·have h:=e3.symm.trans h
  have hv:L.valid3 l=true:=by simpa using h
  obtain ⟨n3,n24,hsm,hbd⟩:=valid3_of hv
  refine ⟨⟨fun _ _=>rfl,by omega⟩,⟨⟨fun _ _=>rfl,by omega⟩,(0:Nat),rfl,fun j hj=>absurd hj (Nat.not_lt_zero _)⟩,fun k t vk hk hi=>?_,fun t hi=>?_⟩
  ·have c1:(Int.tmod ((k:Int)+(l.n:Int) - 1) (l.n:Int)).toNat=L.prev l.n k:=rfl
   have c2:((k:Int)).toNat=k:=by omega
   have c3:(Int.tmod ((k:Int)+1) (l.n:Int)).toNat=L.next l.n k:=rfl
   rw [c1,c2,c3]
   have key:(bif decide (L.cross (l.g (L.prev l.n k)) (l.g k) (l.g (L.next l.n k))=0) then true else bif decide (0<(k:Int)) then decide (0 <= L.cmpPt (l.g (Int.toNat 0)) (l.g k)) else false) = !L.corner l k:=by
    unfold L.corner;rw [Bool.not_not];rfl
   rw [key]
   refine ⟨by omega,by omega,by omega,⟨hbd.2 _ (prev_lt (by omega)),hbd.2 _ hk,hbd.2 _ (next_lt (by omega))⟩,fun _=>by omega,fun _=>by omega,fun _=>trivial,fun h=>⟨rfl,rfl,rfl,rfl,?_⟩,fun h=>⟨t,rfl,rfl,rfl,rfl,rfl,fun j hj=>?_⟩⟩
   ·have:L.corner l k=false:=by simpa using h
    unfold L.validOutline
    rw [allB_false hk this];simp
   ·rcases Nat.lt_succ_iff_lt_or_eq.1 hj with h' | rfl
    ·exact hi j h'
    ·simpa using h
  ·refine ⟨⟨fun _ _=>rfl,hbd⟩,?_⟩
   unfold L.validOutline
   rw [hv,allB_iff.2 hi];rfl)
theorem p_ValidOutline_ok:SpecOk Tryz.prog 91 p_ValidOutline_S:=fnX Tryz.func91 (c:=bodyOf Tryz.f91) (by kernel_rfl) mixed (fun args p r hs hp=>by
 unfold p_ValidOutline_s at hs
 split at hs
 ·cases hs;exact ⟨_,_,p_ValidOutline_vc _ hp.2,(.p (.sl hp.1) .nil),⟨show SpecsL Tryz.prog _ from (SpecsL.cons p_within_ok p_within_en (SpecsL.cons p_valid_ok p_valid_en (SpecsL.cons p_area_ok p_area_en (SpecsL.cons p_triples_ok p_triples_en (SpecsL.cons p_cross_ok p_cross_en (SpecsL.cons p_compare_ok p_compare_en (SpecsL.cons p_simple_ok p_simple_en SpecsL.nil))))))),rfl,⟨show ItersL Tryz.prog _ from (ItersL.cons p_triples1_itok p_triples1_en ItersL.nil),(TrsOk.none (fun _=>rfl))⟩⟩⟩
 ·cases hs)
theorem p_ValidOutline_en:Enters Tryz.prog 91:=fun args w=>by kernel_rfl
def p_Bends_p (l:(L.Sq L.Pt)):Prop:=l.n <= 1000000
def p_Bends_r (l:(L.Sq L.Pt)):SV:=.tup [.sl 1 (bif L.validOutline l then l.n else 0) (fun k=>[.int .i64 (L.bend l k)]),.int .i64 (bif L.validOutline l then 0 else 1)]
def p_Bends_s:List EV->Option (Prop × SV)
 | [.p (.sl 2 l_n l_g)]=>some ((∀ i,i<l_n->l_g i = [.int .i64 ((ofPt (l_g i)).x),.int .i64 ((ofPt (l_g i)).y)])/\p_Bends_p (⟨l_n,fun i=>ofPt (l_g i)⟩:(L.Sq L.Pt)),p_Bends_r (⟨l_n,fun i=>ofPt (l_g i)⟩:(L.Sq L.Pt)))
 | _=>none
abbrev p_Bends_S:SE.Spec:=(specO p_Bends_s)
def p_Bends_C:Cfg:={ cC with specs:=lookS [(91,p_ValidOutline_S),(136,p_triples_S),(137,p_cross_S),(147,c_cmp_S)],iters:=lookI [(168,p_triples1_it)] }
theorem p_Bends_vc (l:(L.Sq L.Pt)) (hp:p_Bends_p l):vc Tryz.prog ({ p_Bends_C with loops:=lookL [],rfs:=lookR [(5,{ T:=Nat,keep:=[0,2,3,4],keepO:=[],own:=fun k _=>[(4,.blk 62 [.row 12]),(12,.row 3 1 l.n (fun i=>[.int .i64 (bif decide (i<k) then L.bend l i else 0)]))],inv:=fun k _=>True })] }) (bodyOf Tryz.f181) (st0 Tryz.f181 [.p (.sl 2 l.n (fun i=>[.int .i64 ((l.g i).x),.int .i64 ((l.g i).y)]))]) (retFn Tryz.prog Tryz.f181 (p_Bends_r l)) :=
 @Eq.mpr _ (let I:=SV.int .i64;let T:=Int.toNat;let A9:=(↑(3:Nat):Int);let A7:=(0:Nat);let A6:=(1:Int);let A5:=(!L.validOutline (L.Sq.mk l.n fun (i:Nat)=>l.g i));let A3:=(0:Int);let A2:=(↑l.n:Int);let A1:=(∀ (i:Nat),let A11:=[I (l.g i).x,I (l.g i).y];i<l.n->A11=A11);let A13:=(A1/\l.n <= (1000:Nat));(A1/\l.n <= (1000000:Nat))/\(A5=true->(bif L.validOutline l then l.n else A7)=A7/\A6=bif L.validOutline l then A3 else A6)/\(A5=false->(A3 <= A2/\A2 <= A2/\A2 * (↑(nat_lit 8):Int) <= (140737488355328:Int))/\A13/\(A13 /\ ∃ (t:Nat),(T A2=l.n /\ ∀ (i:Nat),i<T A2 -> [I A3] = [I (bif decide (i<A7) then L.bend l i else A3)])/\True)/\(∀ (k t:Nat) (vk:Nat->Go.Value),let A4:=(↑k:Int);let A10:=(l.g (T (Int.tmod (A4+A6) A2)));let A8:=(l.g (T (Int.tmod (A4+A2 - A6) A2)));k<l.n->True->(A3 <= A3/\A3<A9)/\(A3 <= A6/\A6<A9)/\(A3 <= (2:Int)/\(2:Int)<A9)/\(L.bd A8/\L.bd (l.g (T A4))/\L.bd A10)/\True/\(A3 <= A4/\A4<A2)/\T A4<l.n /\ ∃ (t':Nat),nat_lit 0=nat_lit 0/\A3=A3/\Value.slice Option.none A7 A7=Value.slice Option.none A7 A7/\(l.n=l.n /\ ∀ (i:Nat),let A12:=[I (l.g i).x,I (l.g i).y];i<l.n->A12=A12)/\vk (nat_lit 4)=vk (nat_lit 4)/\vk (nat_lit 3)=vk (nat_lit 3)/\vk (nat_lit 2)=vk (nat_lit 2)/\vk (nat_lit 0)=vk (nat_lit 0)/\(l.n=l.n /\ ∀ (i:Nat),i<l.n->setRow (fun (i:Nat)=>[I (bif decide (i<k) then L.bend l i else A3)]) (T A4) (nat_lit 0) [I (L.cmp (L.cross A8 (l.g (T A4)) A10) A3)] i = [I (bif decide (i<k+(1:Nat)) then L.bend l i else A3)])/\True) /\ ∀ (t:Nat),True->((l.n=bif L.validOutline l then l.n else A7) /\ ∀ (i:Nat),i<l.n -> [I (bif decide (i<l.n) then L.bend l i else A3)] = [I (L.bend l i)])/\A3=bif L.validOutline l then A3 else A6)) (by kernel_rfl) (by
 conv=>zeta
 have hn:l.n <= 1000000:=hp
 refine ⟨⟨fun _ _=>rfl,hn⟩,fun h=>?_,fun h=>?_⟩
 ·have hv:L.validOutline l=false:=by simpa using (show (!L.validOutline l)=true from h)
  rw [hv];exact ⟨rfl,rfl⟩
 ·have hv:L.validOutline l=true:=by simpa using (show (!L.validOutline l)=false from h)
  obtain ⟨n3,n24,hsm,hbd⟩:=validOutline_of hv
  refine ⟨⟨by omega,by omega,show (l.n:Int) * 8 <= 140737488355328 by omega⟩,⟨fun _ _=>rfl,by omega⟩,⟨⟨fun _ _=>rfl,by omega⟩,(0:Nat),⟨by omega,fun i hi=>rfl⟩,trivial⟩,fun k t vk hk _=>?_,fun t _=>?_⟩
  ·have c1:(Int.tmod ((k:Int)+(l.n:Int) - 1) (l.n:Int)).toNat=L.prev l.n k:=rfl
   have c2:((k:Int)).toNat=k:=by omega
   have c3:(Int.tmod ((k:Int)+1) (l.n:Int)).toNat=L.next l.n k:=rfl
   rw [c1,c2,c3]
   refine ⟨by omega,by omega,by omega,⟨hbd.2 _ (prev_lt (by omega)),hbd.2 _ hk,hbd.2 _ (next_lt (by omega))⟩,trivial,by omega,hk,t,rfl,rfl,rfl,⟨rfl,fun _ _=>rfl⟩,rfl,rfl,rfl,rfl,⟨rfl,fun i hi=>?_⟩,trivial⟩
   unfold setRow
   by_cases hik:i=k
   ·subst hik
    simp [L.bend,fillAt]
   ·have e : decide (i < k + 1) = decide (i < k) := by
     by_cases h':i<k <;> simp [h'] <;> omega
    simp [hik,e]
  ·rw [hv]
   refine ⟨⟨rfl,fun i hi=>?_⟩,rfl⟩
   simp [hi])
theorem p_Bends_ok:SpecOk Tryz.prog 181 p_Bends_S:=fnX Tryz.func181 (c:=bodyOf Tryz.f181) (by kernel_rfl) mixed (fun args p r hs hp=>by
 unfold p_Bends_s at hs
 split at hs
 ·cases hs;exact ⟨_,_,p_Bends_vc _ hp.2,(.p (.sl hp.1) .nil),⟨show SpecsL Tryz.prog _ from (SpecsL.cons p_ValidOutline_ok p_ValidOutline_en (SpecsL.cons p_triples_ok p_triples_en (SpecsL.cons p_cross_ok p_cross_en (SpecsL.cons c_cmp_ok c_cmp_en SpecsL.nil)))),rfl,⟨show ItersL Tryz.prog _ from (ItersL.cons p_triples1_itok p_triples1_en ItersL.nil),(TrsOk.none (fun _=>rfl))⟩⟩⟩
 ·cases hs)
theorem p_Bends_en:Enters Tryz.prog 181:=fun args w=>by kernel_rfl
end Go.Proofs.YtpgaejicfbpcmaaGreat
namespace Go.Proofs.YtpgaejicfbpcmaaGreat
open Go.SE Go.RowKit
set_option maxRecDepth 100000
set_option maxHeartbeats 4000000
set_option linter.unusedVariables false
attribute [local irreducible] vc
def ofSqPt:List SV->L.Sq L.Pt
 | [.sl _ n g]=>⟨n,fun i=>ofPt (g i)⟩
 | _=>⟨0,fun _=>⟨0,0⟩⟩
def rowPt:List SV->Prop
 | [.sl 2 n g]=>∀ i,i<n->g i = [.int .i64 (ofPt (g i)).x,.int .i64 (ofPt (g i)).y]
 | _=>False
theorem row_len {l:List SV} (h:rowPt l):l.length=1/\Ext (SV.at l 0) (.sl 2 (ofSqPt l).n (fun k=>[.int .i64 ((ofSqPt l).g k).x,.int .i64 ((ofSqPt l).g k).y])):=by
 unfold rowPt at h
 split at h
 ·rename_i n g
  exact ⟨rfl,.sl h⟩
 ·exact h.elim
def L.two (a b:L.Sq L.Pt) (i:Nat):L.Sq L.Pt:=bif decide (i=0) then a else b
theorem rows_ext {g:Nat->List SV} (h:rowPt (g 0)/\rowPt (g 1)):Ext (.sl 1 2 g) (.sl 1 2 (fun i=>[.sl 2 (L.two (ofSqPt (g 0)) (ofSqPt (g 1)) i).n (fun k=>[.int .i64 ((L.two (ofSqPt (g 0)) (ofSqPt (g 1)) i).g k).x,.int .i64 ((L.two (ofSqPt (g 0)) (ofSqPt (g 1)) i).g k).y])])):=by
 have key:∀ i,i<2->rowPt (g i)/\L.two (ofSqPt (g 0)) (ofSqPt (g 1)) i=ofSqPt (g i):=fun i hi=>by
  match i,hi with
  | 0,_=>exact ⟨h.1,rfl⟩
  | 1,_=>exact ⟨h.2,rfl⟩
 refine .sl2 (fun i hi=>(row_len (key i hi).1).1.symm) (fun i hi j hj=>?_)
 rw [(row_len (key i hi).1).1] at hj
 obtain rfl:j=0:=by omega
 rw [(key i hi).2]
 exact (row_len (key i hi).1).2
def L.catTo (c:Nat->L.Sq L.Pt):Nat->L.Sq L.Pt
 | 0=>⟨0,fun _=>⟨0,0⟩⟩
 | i+1=>⟨(L.catTo c i).n+(c i).n,fun k=>bif decide (k<(L.catTo c i).n) then (L.catTo c i).g k else (c i).g (k - (L.catTo c i).n)⟩
def L.revTo (l:L.Sq L.Pt) (i k:Nat):L.Pt:=bif decide (k<i) || decide (l.n <= k+i) then l.g (l.n - 1 - k) else l.g k
def L.ptIdx (l:L.Sq L.Pt) (v:L.Pt):Int:=L.idx l.n (fun i=>L.same v (l.g i))
theorem same_eq {a b:L.Pt} (h:L.same a b=true):a=b:=by
 unfold L.same at h
 rw [Bool.and_eq_true,decide_eq_true_eq,decide_eq_true_eq] at h
 cases a;cases b
 simp only at h
 rw [h.1,h.2]
theorem same_refl (a:L.Pt):L.same a a=true:=by simp [L.same]
theorem ptIdx_of {l:L.Sq L.Pt} {j:Nat} (hj:j<l.n):∃ i,i <= j/\L.ptIdx l (l.g j)=(i:Int)/\l.g i=l.g j /\ ∀ k,k<i->l.g k ≠ l.g j:=by
 unfold L.ptIdx
 rcases idx_cases (f:=fun i=>L.same (l.g j) (l.g i)) (n:=l.n) with ⟨_,h2⟩ | ⟨i,h1,h2,h3,h4⟩
 ·have:=h2 j hj
  rw [same_refl] at this;cases this
 ·refine ⟨i,?_,h2,(same_eq h3).symm,fun k hk e=>?_⟩
  ·rcases Nat.lt_or_ge j i with h | h
   ·have:=h4 j h
    rw [same_refl] at this;cases this
   ·exact h
  ·have:=h4 k hk
   rw [e,same_refl] at this;cases this
theorem cmpPt_lt {a b:L.Pt}:L.cmpPt a b<0 ↔ a.x<b.x\/(a.x=b.x/\a.y<b.y):=by
 unfold L.cmpPt L.or2 L.cmp
 by_cases h1:a.x<b.x
 ·simp [h1]
 ·by_cases h2:b.x<a.x
  ·simp [h1,h2];omega
  ·by_cases h3:a.y<b.y
   ·simp [h1,h2,h3];try omega
   ·by_cases h4:b.y<a.y
    ·simp [h1,h2,h3,h4]
    ·simp [h1,h2,h3,h4]
def s_grow_p (s:Nat) (n:Int):Prop:=1 <= n/\n <= 2000000
def s_grow_q (s:Nat) (n:Int):Nat->Prop:=fun _=>True
def s_grow_n (s:Nat) (n:Int):Nat->Nat:=fun _=>0
def s_grow_g (s:Nat) (n:Int):Nat->Nat->List SV:=fun _ _=>[]
def s_grow_s:List EV->Option (Prop × (Nat->Prop) × (Nat->Nat) × (Nat->Nat->List SV))
 | [.p (.raw (.slice none 0 0)),.p (.int .i64 n)]=>some (s_grow_p (0:Nat) n,s_grow_q (0:Nat) n,s_grow_n (0:Nat) n,s_grow_g (0:Nat) n)
 | _=>none
abbrev s_grow_S:SE.Spec:=(specF Nat 0 48 2 s_grow_s)
def s_grow_C:Cfg:={ cC with muts:=[22],cuts:=[25] }
theorem s_grow_vc (s:Nat) (n:Int) (hp:s_grow_p s n):vc Tryz.prog (s_grow_C) (bodyOf Tryz.f198) (st0 Tryz.f198 [.p (.raw (.slice none 0 0)),.p (.int .i64 n)]) (retFresh Tryz.prog Tryz.f198 (Nat) (s_grow_q s n) 48 2 (s_grow_n s n) (s_grow_g s n)) :=
 @Eq.mpr _ (let A4:=(0:Nat);let A2:=(0:Int);let A1:=(↑A4:Int);let A3:=(A1 - A1);(decide (n<A2)=true->False)/\(decide (n<A2)=false->InK .i64 A3/\InK .i64 (n - A3)/\(decide (A2<n - A3)=true->(A2 <= A2/\A2 <= A1/\A1 <= A2)/\(A2<n - A3/\(n - A3) * (↑(nat_lit 16):Int) <= (140737488355328:Int))/\(A2 <= A1/\A1 <= (↑(Int.toNat (n - A3)):Int)) /\ ∃ (t:Nat),(nat_lit 0=A4 /\ ∀ (i:Nat),i<nat_lit 0 -> [SV.int .i64 A2,SV.int .i64 A2] = [])/\True)/\(decide (A2<n - A3)=false -> ∃ (t:Nat),A4=A4/\True))) (by kernel_rfl) (by
 conv=>zeta
 obtain ⟨h1,h2⟩:=hp
 refine ⟨fun h=>?_,fun _=>⟨jK,jK,fun h=>⟨⟨by omega,by omega,by omega⟩,⟨by omega,show (n - (((0:Nat):Int) - ((0:Nat):Int))) * 16 <= 140737488355328 by omega⟩,⟨by omega,by omega⟩,(0:Nat),⟨rfl,fun i hi=>absurd hi (Nat.not_lt_zero _)⟩,trivial⟩,fun h=>⟨(0:Nat),rfl,trivial⟩⟩⟩
 have:=of_decide_eq_true h
 omega)
theorem s_grow_ok:SpecOk Tryz.prog 198 s_grow_S:=freshX Tryz.func198 (c:=bodyOf Tryz.f198) (by kernel_rfl) mixed (fun args p q n g hs hp=>by
 unfold s_grow_s at hs
 split at hs
 ·cases hs;exact ⟨_,_,s_grow_vc _ _ hp,(.same _ (.same _ .nil)),⟨show SpecsL Tryz.prog _ from SpecsL.nil,rfl,⟨show ItersL Tryz.prog _ from ItersL.nil,(TrsOk.none (fun _=>rfl))⟩⟩⟩
 ·cases hs)
theorem s_grow_en:Enters Tryz.prog 198:=fun args w=>by kernel_rfl
def s_concat_p (c:(Nat->L.Sq L.Pt)):Prop:=1 <= (c 0).n+(c 1).n/\(c 0).n <= 1000000/\(c 1).n <= 1000000
def s_concat_q (c:(Nat->L.Sq L.Pt)):Nat->Prop:=fun _=>True
def s_concat_n (c:(Nat->L.Sq L.Pt)):Nat->Nat:=fun _=>(L.catTo c 2).n
def s_concat_g (c:(Nat->L.Sq L.Pt)):Nat->Nat->List SV:=fun _ k=>[.int .i64 (((L.catTo c 2).g k).x),.int .i64 (((L.catTo c 2).g k).y)]
def s_concat_s:List EV->Option (Prop × (Nat->Prop) × (Nat->Nat) × (Nat->Nat->List SV))
 | [.p (.sl 1 2 c_g)]=>some ((rowPt (c_g 0)/\rowPt (c_g 1))/\s_concat_p (L.two (ofSqPt (c_g 0)) (ofSqPt (c_g 1))),s_concat_q (L.two (ofSqPt (c_g 0)) (ofSqPt (c_g 1))),s_concat_n (L.two (ofSqPt (c_g 0)) (ofSqPt (c_g 1))),s_concat_g (L.two (ofSqPt (c_g 0)) (ofSqPt (c_g 1))))
 | _=>none
abbrev s_concat_S:SE.Spec:=(specF Nat 0 48 2 s_concat_s)
def s_concat_C:Cfg:={ cC with muts:=[24],specs:=lookS [(198,s_grow_S)],raws:=[198] }
theorem s_concat_vc (c:(Nat->L.Sq L.Pt)) (hp:s_concat_p c):vc Tryz.prog ({ s_concat_C with loops:=lookL [(3,{ T:=Nat,keep:=[0,9,10],keepO:=[],chg:=fun i=>[(3,.p (.int .i64 ((L.catTo c i).n:Int))),(11,.p (.int .i64 (i:Int)))],own:=fun _=>[],inv:=fun i=>i <= 2,mu:=fun i=>2 - i }),(11,{ T:=Nat,keep:=[0,6,25,26],keepO:=[],chg:=fun i=>[(27,.p (.int .i64 (i:Int)))],own:=fun i=>[(24,.row 48 2 (L.catTo c i).n (fun k=>[.int .i64 (((L.catTo c i).g k).x),.int .i64 (((L.catTo c i).g k).y)]))],inv:=fun i=>i <= 2,mu:=fun i=>2 - i })],rfs:=lookR [] }) (bodyOf Tryz.f177) (st0 Tryz.f177 [.p (.sl 1 2 (fun i=>[.sl 2 (c i).n (fun k=>[.int .i64 ((c i).g k).x,.int .i64 ((c i).g k).y])]))]) (retFresh Tryz.prog Tryz.f177 (Nat) (s_concat_q c) 48 2 (s_concat_n c) (s_concat_g c)) :=
 @Eq.mpr _ (let I:=SV.int .i64;let T:=Int.toNat;let A11:=(1:Int);let A10:=(0:Int);let A5:=(2:Nat);let A13:=(L.catTo c A5);let A2:=(↑(nat_lit 2):Int);(∃ (g:Nat),A10=(↑(L.catTo c g).n:Int)/\A10=(↑g:Int)/\g <= A5) /\ ∀ (g:Nat),let A8:=(↑g:Int);let A15:=(↑(c (T A8)).n:Int);let A7:=(↑(L.catTo c g).n:Int);let A1:=(nat_lit 2=nat_lit 2 /\ ∀ (i:Nat),let A6:=[SV.sl A5 (c i).n fun (k:Nat)=>[I ((c i).g k).x,I ((c i).g k).y]];i<nat_lit 2->A6=A6);g <= A5->(decide (A8<A2)=true->(A10 <= A8/\A8<A2)/\InK .i64 (A7+A15)/\(false=true->False)/\(false=false->InK .i64 (A8+A11) /\ ∃ (g':Nat),A7+A15=(↑(L.catTo c g').n:Int)/\A8+A11=(↑g':Int)/\A2=A2/\A1/\A1/\g' <= A5/\A5 - g'<A5 - g))/\(decide (A8<A2)=false->(A11 <= A7/\A7 <= (2000000:Int)) /\ ∀ (t:Nat),True->(∃ (g:Nat),let A14:=(L.catTo c g);A10=(↑g:Int)/\((0:Nat)=A14.n /\ ∀ (i:Nat),i<(0:Nat) -> [] = [I (A14.g i).x,I (A14.g i).y])/\g <= A5) /\ ∀ (g_1:Nat),let A4:=(↑g_1:Int);let A9:=(c (T A4));let A3:=(L.catTo c g_1);g_1 <= A5->(decide (A4<A2)=true->(A10 <= A4/\A4<A2)/\(A3.n+A9.n) * nat_lit 16 <= (140737488355328:Nat)/\InK .i64 (A4+A11) /\ ∃ (g':Nat),let A12:=(L.catTo c g');A4+A11=(↑g':Int)/\A2=A2/\A1/\A1/\(A3.n+A9.n=A12.n /\ ∀ (i:Nat),i<A3.n+A9.n->appGet A3.n (fun (k:Nat)=>[I (A3.g k).x,I (A3.g k).y]) (fun (k:Nat)=>[I (A9.g k).x,I (A9.g k).y]) i = [I (A12.g i).x,I (A12.g i).y])/\g' <= A5/\A5 - g'<A5 - g_1)/\(decide (A4<A2)=false -> ∃ (t:Nat),(A3.n=A13.n /\ ∀ (i:Nat),i<A3.n -> [I (A3.g i).x,I (A3.g i).y] = [I (A13.g i).x,I (A13.g i).y])/\True))) (by kernel_rfl) (by
 conv=>zeta
 obtain ⟨h1,h2,h3⟩:=hp
 have hc:∀ i,i<2->(c i).n <= 1000000:=fun i hi=>by
  match i,hi with
  | 0,_=>exact h2
  | 1,_=>exact h3
 have e1:(L.catTo c 1).n=0+(c 0).n:=rfl
 have e2:(L.catTo c 2).n=0+(c 0).n+(c 1).n:=rfl
 have ht:∀ i,i <= 2->(L.catTo c i).n <= 2000000:=fun i hi=>by
  match i,hi with
  | 0,_=>exact Nat.zero_le _
  | 1,_=>omega
  | 2,_=>omega
 refine ⟨⟨(0:Nat),rfl,rfl,Nat.zero_le _⟩,fun g hg=>⟨fun hlt=>?_,fun hge=>?_⟩⟩
 ·have hb:(g:Int)<2:=of_decide_eq_true hlt
  have e0:((g:Int)).toNat=g:=by omega
  have hcg:=hc g (by omega)
  have htg:=ht g hg
  rw [e0]
  exact ⟨⟨by omega,hb⟩,jK,fun h=>Bool.false_ne_true h,fun _=>⟨jK,g+1,by show ((L.catTo c g).n:Int)+((c g).n:Int)=(((L.catTo c g).n+(c g).n:Nat):Int);omega,by omega,rfl,⟨rfl,fun _ _=>rfl⟩,⟨rfl,fun _ _=>rfl⟩,by omega,by omega⟩⟩
 ·have hb:¬ (g:Int)<2:=of_decide_eq_false hge
  obtain rfl:g=2:=by omega
  refine ⟨⟨by omega,by omega⟩,fun _ _=>⟨⟨(0:Nat),rfl,⟨rfl,fun i hi=>absurd hi (Nat.not_lt_zero _)⟩,Nat.zero_le _⟩,fun k hk=>⟨fun hlt=>?_,fun hge=>?_⟩⟩⟩
  ·have hb:(k:Int)<2:=of_decide_eq_true hlt
   have e0:((k:Int)).toNat=k:=by omega
   have hck:=hc k (by omega)
   have htk:=ht k hk
   rw [e0]
   refine ⟨⟨by omega,hb⟩,show ((L.catTo c k).n+(c k).n) * 16 <= 140737488355328 by omega,jK,k+1,by omega,rfl,⟨rfl,fun _ _=>rfl⟩,⟨rfl,fun _ _=>rfl⟩,⟨rfl,fun i hi=>?_⟩,by omega,by omega⟩
   unfold appGet
   by_cases h:i<(L.catTo c k).n
   ·have w : (L.catTo c (k + 1)).g i = (L.catTo c k).g i := by
     show (bif decide (i<(L.catTo c k).n) then _ else _)=_
     rw [decide_eq_true h];rfl
    rw [if_pos h,w]
   ·have w : (L.catTo c (k + 1)).g i = (c k).g (i - (L.catTo c k).n) := by
     show (bif decide (i<(L.catTo c k).n) then _ else _)=_
     rw [decide_eq_false h];rfl
    rw [if_neg h,w]
  ·have hb:¬ (k:Int)<2:=of_decide_eq_false hge
   obtain rfl:k=2:=by omega
   exact ⟨(0:Nat),⟨rfl,fun _ _=>rfl⟩,trivial⟩)
theorem s_concat_ok:SpecOk Tryz.prog 177 s_concat_S:=freshX Tryz.func177 (c:=bodyOf Tryz.f177) (by kernel_rfl) mixed (fun args p q n g hs hp=>by
 unfold s_concat_s at hs
 split at hs
 ·cases hs;exact ⟨_,_,s_concat_vc _ hp.2,(.p (rows_ext hp.1) .nil),⟨show SpecsL Tryz.prog _ from (SpecsL.cons s_grow_ok s_grow_en SpecsL.nil),rfl,⟨show ItersL Tryz.prog _ from ItersL.nil,(TrsOk.none (fun _=>rfl))⟩⟩⟩
 ·cases hs)
theorem s_concat_en:Enters Tryz.prog 177:=fun args w=>by kernel_rfl
abbrev s_revP_tr:Tr:={ T:=(L.Sq L.Pt),U:=Nat,args:=fun t=>(fun l=>[.row 1005]) t,own:=fun t=>(fun l=>[(1005,.row 48 2 l.n (fun k=>[.int .i64 ((l.g k).x),.int .i64 ((l.g k).y)]))]) t,pre:=fun t=>(fun l=>l.n <= 1000000) t,post:=fun t u=>(fun l=>fun u=>True) t u,own':=fun t u=>(fun l=>fun u=>[(1005,.row 48 2 l.n (fun k=>[.int .i64 ((l.g (l.n - 1 - k)).x),.int .i64 ((l.g (l.n - 1 - k)).y)]))]) t u,res:=fun t u=>(fun l=>fun u=>.p (.tup [])) t u }
theorem s_revP_vc (l:L.Sq L.Pt) (hp:s_revP_tr.pre l):vc Tryz.prog ({ muts:=[],frz:=lookN [],specs:=lookS [],loops:=lookL [(1,{ T:=Nat,keep:=[0],keepO:=[],chg:=fun i=>[(2,.p (.int .i64 (i:Int))),(3,.p (.int .i64 ((l.n:Int) - 1 - (i:Int))))],own:=fun i=>[(1005,.row 48 2 l.n (fun k=>[.int .i64 ((L.revTo l i k).x),.int .i64 ((L.revTo l i k).y)]))],inv:=fun i=>2 * i <= l.n,mu:=fun i=>l.n - i })],iters:=lookI [],rfs:=lookR [],nils:=lookM [] }) (bodyOf Tryz.f176) (stTr Tryz.f176 (s_revP_tr.args l) (s_revP_tr.own l)) (retTr Tryz.prog Tryz.f176 s_revP_tr l) :=
 @Eq.mpr _ (let I:=SV.int .i64;let T:=Int.toNat;let A3:=(1:Int);let A1:=(↑l.n:Int);InK .i64 (A1 - A3)/\(∃ (g:Nat),(0:Int)=(↑g:Int)/\A1 - A3=A1 - A3 - (↑g:Int)/\(l.n=l.n /\ ∀ (i:Nat),i<l.n -> [I (l.g i).x,I (l.g i).y] = [I (L.revTo l g i).x,I (L.revTo l g i).y])/\(2:Nat) * g <= l.n) /\ ∀ (g:Nat),let A2:=(↑g:Int);let A7:=((0:Int) <= A2/\A2<A1);let A5:=((0:Int) <= A1 - A3 - A2/\A1 - A3 - A2<A1);let A4:=(A1 - A3 - A2);(2:Nat) * g <= l.n->(decide (A2<A1 - A3 - A2)=true->A5/\T A4<l.n/\A7/\T A2<l.n/\A7/\T A2<l.n/\A5/\T A4<l.n/\InK .i64 (A2+A3)/\InK .i64 (A1 - A3 - A2 - A3) /\ ∃ (g':Nat),A2+A3=(↑g':Int)/\A1 - A3 - A2 - A3=A1 - A3 - (↑g':Int)/\(l.n=l.n /\ ∀ (i:Nat),i<l.n->setRow (setRow (fun (k:Nat)=>[I (L.revTo l g k).x,I (L.revTo l g k).y]) (T A2) (nat_lit 0) [I (L.revTo l g (T A4)).x,I (L.revTo l g (T A4)).y]) (T A4) (nat_lit 0) [I (L.revTo l g (T A2)).x,I (L.revTo l g (T A2)).y] i = [I (L.revTo l g' i).x,I (L.revTo l g' i).y])/\(2:Nat) * g' <= l.n/\l.n - g'<l.n - g)/\(decide (A2<A1 - A3 - A2)=false -> ∃ (u:Nat),(l.n=l.n /\ ∀ (i:Nat),let A6:=(l.g (l.n - (1:Nat) - i));i<l.n -> [I (L.revTo l g i).x,I (L.revTo l g i).y] = [I A6.x,I A6.y])/\True)) (by kernel_rfl) (by
 conv=>zeta
 have hn:l.n <= 1000000:=hp
 refine ⟨jK,⟨(0:Nat),rfl,by omega,⟨rfl,fun i hi=>?_⟩,Nat.zero_le _⟩,fun g hg=>⟨fun hlt=>?_,fun hge=>?_⟩⟩
 ·have hi:i<l.n:=hi
  have w:L.revTo l 0 i=l.g i:=by unfold L.revTo;rw [decide_eq_false (Nat.not_lt_zero _),decide_eq_false (by omega)];rfl
  rw [w]
 ·have hb:(g:Int)<(l.n:Int) - 1 - (g:Int):=of_decide_eq_true hlt
  have e0:((g:Int)).toNat=g:=by omega
  have e1:((l.n:Int) - 1 - (g:Int)).toNat=l.n - 1 - g:=by omega
  rw [e0,e1]
  refine ⟨⟨by omega,by omega⟩,by omega,⟨by omega,by omega⟩,by omega,⟨by omega,by omega⟩,by omega,⟨by omega,by omega⟩,by omega,jK,jK,g+1,by omega,by omega,⟨rfl,fun i hi=>?_⟩,by omega,by omega⟩
  have hi:i<l.n:=hi
  have r0:∀ k,¬ k<g->¬ l.n <= k+g->L.revTo l g k=l.g k:=fun k h1 h2=>by
   unfold L.revTo;rw [decide_eq_false h1,decide_eq_false h2];rfl
  have r1:∀ j k,k<j\/l.n <= k+j->L.revTo l j k=l.g (l.n - 1 - k):=fun j k h=>by
   unfold L.revTo
   rcases h with h | h
   ·rw [decide_eq_true h];rfl
   ·rw [decide_eq_true h,Bool.or_true];rfl
  unfold setRow
  by_cases c1:i=l.n - 1 - g
  ·subst c1
   rw [if_pos rfl,r0 g (by omega) (by omega),r1 (g+1) _ (.inr (by omega)),show l.n - 1 - (l.n - 1 - g)=g by omega]
   rw [if_neg (show ¬ (l.n - 1 - g=g) by omega)]
   rfl
  ·rw [if_neg c1]
   by_cases c2:i=g
   ·subst c2
    rw [if_pos rfl,r0 (l.n - 1 - i) (by omega) (by omega),r1 (i+1) i (.inl (by omega))]
    rfl
   ·rw [if_neg c2]
    dsimp only
    by_cases c3:i<g\/l.n <= i+g
    ·rw [r1 g i c3,r1 (g+1) i (by omega)]
    ·rw [r0 i (by omega) (by omega)]
     have:L.revTo l (g+1) i=l.g i:=by
      unfold L.revTo;rw [decide_eq_false (by omega),decide_eq_false (by omega)];rfl
     rw [this]
 ·have hb:¬ (g:Int)<(l.n:Int) - 1 - (g:Int):=of_decide_eq_false hge
  refine ⟨(0:Nat),⟨rfl,fun i hi=>?_⟩,trivial⟩
  have hi:i<l.n:=hi
  have w:L.revTo l g i=l.g (l.n - 1 - i):=by
   unfold L.revTo
   by_cases c1:i<g
   ·rw [decide_eq_true c1];rfl
   ·by_cases c2:l.n <= i+g
    ·rw [decide_eq_true c2,Bool.or_true];rfl
    ·rw [decide_eq_false c1,decide_eq_false c2,show l.n - 1 - i=i by omega];rfl
  rw [w])
theorem s_revP_en:Enters Tryz.prog 176:=fun args w=>by kernel_rfl
theorem s_revP_tok:TrOk Tryz.prog 176 s_revP_tr:=tr_ok (ks:=[1005]) (n:=1) Tryz.func176 (c:=bodyOf Tryz.f176) (by kernel_rfl) mixed ⟨fun t=>rfl,fun t=>rfl,fun t u=>rfl,fun t u=>rfl,fun t u=>rfl,by kernel_rfl⟩ (fun l hp=>⟨_,s_revP_vc l hp,⟨show SpecsL Tryz.prog _ from SpecsL.nil,rfl,⟨show ItersL Tryz.prog _ from ItersL.nil,(TrsOk.none (fun _=>rfl))⟩⟩⟩)
def s_idxPt_p (l:(L.Sq L.Pt)) (v:L.Pt):Prop:=l.n <= 1000000
def s_idxPt_r (l:(L.Sq L.Pt)) (v:L.Pt):SV:=.int .i64 (L.ptIdx l v)
def s_idxPt_s:List EV->Option (Prop × SV)
 | [.p (.sl 2 l_n l_g),.p (.agg [.int .i64 v_x,.int .i64 v_y])]=>some ((∀ i,i<l_n->l_g i = [.int .i64 ((ofPt (l_g i)).x),.int .i64 ((ofPt (l_g i)).y)])/\s_idxPt_p (⟨l_n,fun i=>ofPt (l_g i)⟩:(L.Sq L.Pt)) (⟨v_x,v_y⟩:L.Pt),s_idxPt_r (⟨l_n,fun i=>ofPt (l_g i)⟩:(L.Sq L.Pt)) (⟨v_x,v_y⟩:L.Pt))
 | _=>none
abbrev s_idxPt_S:SE.Spec:=(specO s_idxPt_s)
def s_idxPt_C:Cfg:={ muts:=[],frz:=lookN [],specs:=lookS [],loops:=fun _=>none,iters:=lookI [],rfs:=lookR [],nils:=lookM [] }
theorem s_idxPt_vc (l:(L.Sq L.Pt)) (v:L.Pt) (hp:s_idxPt_p l v):vc Tryz.prog ({ s_idxPt_C with loops:=lookL [(2,{ T:=Nat,keep:=[0,3,6,7],keepO:=[],chg:=fun i=>[(8,.p (.int .i64 i))],own:=fun _=>[],inv:=fun i=>i <= l.n/\(∀ j,j<i->L.same v (l.g j)=false),mu:=fun i=>l.n - i })],rfs:=lookR [] }) (bodyOf Tryz.f144) (st0 Tryz.f144 [.p (.sl 2 l.n (fun i=>[.int .i64 ((l.g i).x),.int .i64 ((l.g i).y)])),.p (.agg [.int .i64 v.x,.int .i64 v.y])]) (retFn Tryz.prog Tryz.f144 (s_idxPt_r l v)) :=
 @Eq.mpr _ (let I:=SV.int .i64;let T:=Int.toNat;let A4:=(↑l.n:Int);let A2:=(l.n=l.n /\ ∀ (i:Nat),let A5:=[I (l.g i).x,I (l.g i).y];i<l.n->A5=A5);(∃ (g:Nat),(0:Int)=(↑g:Int)/\g <= l.n /\ ∀ (j:Nat),j<g->L.same v (l.g j)=false) /\ ∀ (g:Nat),let A3:=(↑g:Int);let A1:=(decide (v.x=(l.g (T A3)).x) && decide (v.y=(l.g (T A3)).y));(g <= l.n /\ ∀ (j:Nat),j<g->L.same v (l.g j)=false)->(decide (A3<A4)=true->((0:Int) <= A3/\A3<A4)/\(A1=true->A3=L.ptIdx l v)/\(A1=false->InK .i64 (A3+(1:Int)) /\ ∃ (g':Nat),A3+(1:Int)=(↑g':Int)/\A4=A4/\A2/\SV.ref [I v.x,I v.y] (nat_lit 0)=SV.ref [I v.x,I v.y] (nat_lit 0)/\A2/\(g' <= l.n /\ ∀ (j:Nat),j<g'->L.same v (l.g j)=false)/\l.n - g'<l.n - g))/\(decide (A3<A4)=false->(-1:Int)=L.ptIdx l v)) (by kernel_rfl) (by
 conv=>zeta
 have hn:l.n <= 1000000:=hp
 refine ⟨⟨(0:Nat),rfl,Nat.zero_le _,fun j hj=>absurd hj (Nat.not_lt_zero _)⟩,fun g hg=>⟨fun hlt=>?_,fun hge=>?_⟩⟩
 ·have hb:(g:Int)<(l.n:Int):=of_decide_eq_true hlt
  have e0:((g:Int)).toNat=g:=by omega
  rw [e0]
  refine ⟨⟨by omega,hb⟩,fun h=>?_,fun h=>?_⟩
  ·have h:L.same v (l.g g)=true:=h
   exact (idx_at (f:=fun i=>L.same v (l.g i)) hg.2 h (by omega)).symm
  ·have h:L.same v (l.g g)=false:=h
   exact ⟨jK,g+1,by omega,rfl,⟨rfl,fun _ _=>rfl⟩,rfl,⟨rfl,fun _ _=>rfl⟩,⟨by omega,fun j hj=>by
    rcases Nat.lt_succ_iff_lt_or_eq.1 hj with h' | rfl
    ·exact hg.2 j h'
    ·exact h⟩,by omega⟩
 ·have hb:¬ (g:Int)<(l.n:Int):=of_decide_eq_false hge
  exact (idx_none (f:=fun i=>L.same v (l.g i)) (fun j hj=>hg.2 j (by omega))).symm)
theorem s_idxPt_ok:SpecOk Tryz.prog 144 s_idxPt_S:=fnX Tryz.func144 (c:=bodyOf Tryz.f144) (by kernel_rfl) mixed (fun args p r hs hp=>by
 unfold s_idxPt_s at hs
 split at hs
 ·cases hs;exact ⟨_,_,s_idxPt_vc _ _ hp.2,(.p (.sl hp.1) (.same _ .nil)),⟨show SpecsL Tryz.prog _ from SpecsL.nil,rfl,⟨show ItersL Tryz.prog _ from ItersL.nil,(TrsOk.none (fun _=>rfl))⟩⟩⟩
 ·cases hs)
theorem s_idxPt_en:Enters Tryz.prog 144:=fun args w=>by kernel_rfl
end Go.Proofs.YtpgaejicfbpcmaaGreat
namespace Go.Proofs.YtpgaejicfbpcmaaGreat
open Go.SE Go.RowKit
set_option maxRecDepth 100000
set_option maxHeartbeats 4000000
set_option linter.unusedVariables false
attribute [local irreducible] vc
instance:Inhabited L.Pt:=⟨⟨0,0⟩⟩
def L.lePt (a b:L.Pt):Prop:=L.cmpPt a b <= 0
theorem cmpPt_le {a b:L.Pt}:L.cmpPt a b <= 0 ↔ a.x<b.x\/(a.x=b.x/\a.y <= b.y):=by
 unfold L.cmpPt L.or2 L.cmp
 by_cases h1:a.x<b.x
 ·simp [h1]
 ·by_cases h2:b.x<a.x
  ·simp [h1,h2];omega
  ·by_cases h3:a.y<b.y
   ·simp [h1,h2,h3];omega
   ·by_cases h4:b.y<a.y
    ·simp [h1,h2,h3,h4];try omega
    ·simp [h1,h2,h3,h4];try omega
theorem swoPt:Go.Sort.SWO (Go.Proofs.ltOf L.cmpPt):=by
 have k:∀ x y,Go.Proofs.ltOf L.cmpPt x y=true ↔ (x.x<y.x\/(x.x=y.x/\x.y<y.y)):=fun x y=>by
  unfold Go.Proofs.ltOf;rw [decide_eq_true_iff];exact cmpPt_lt
 have kf:∀ x y,Go.Proofs.ltOf L.cmpPt x y=false ↔ ¬ (x.x<y.x\/(x.x=y.x/\x.y<y.y)):=fun x y=>by
  rw [<- k,Bool.not_eq_true]
 refine ⟨fun x=>?_,fun x y z=>?_,fun x y z=>?_⟩
 ·rw [kf];omega
 ·simp only [k];omega
 ·simp only [kf];omega
def L.insPt (p:L.Pt):List L.Pt->List L.Pt
 | []=>[p]
 | q :: r=>bif decide (L.cmpPt p q <= 0) then p :: q :: r else q :: L.insPt p r
def L.isortPt:List L.Pt->List L.Pt
 | []=>[]
 | p :: r=>L.insPt p (L.isortPt r)
def L.listPt (l:L.Sq L.Pt):List L.Pt:=(List.range l.n).map l.g
def L.sorted (l:L.Sq L.Pt):L.Sq L.Pt:=⟨l.n,fun k=>(L.isortPt (L.listPt l)).getD k ⟨0,0⟩⟩
theorem lePt_total (a b:L.Pt):L.lePt a b\/L.lePt b a:=by unfold L.lePt;simp only [cmpPt_le];omega
theorem lePt_trans {a b c:L.Pt} (h:L.lePt a b) (k:L.lePt b c):L.lePt a c:=by unfold L.lePt at *;simp only [cmpPt_le] at *;omega
theorem lePt_anti {a b:L.Pt} (h:L.lePt a b) (k:L.lePt b a):a=b:=by
 unfold L.lePt at *;simp only [cmpPt_le] at *
 obtain ⟨ax,ay⟩:=a;obtain ⟨bx,by'⟩:=b
 simp only at h k
 obtain rfl:ax=bx:=by omega
 obtain rfl:ay=by':=by omega
 rfl
theorem insPt_perm (p:L.Pt):∀ l,(L.insPt p l).Perm (p :: l)
 | []=>.refl _
 | q :: r=>by
   unfold L.insPt
   cases decide (L.cmpPt p q <= 0) with
   | true=>exact .refl _
   | false=>exact ((insPt_perm p r).cons q).trans (.swap p q r)
theorem isortPt_perm:∀ l,(L.isortPt l).Perm l
 | []=>.refl _
 | p :: r=>(insPt_perm p _).trans ((isortPt_perm r).cons p)
theorem insPt_asc {p:L.Pt}:∀ {l},l.Pairwise L.lePt->(L.insPt p l).Pairwise L.lePt
 | [],_=>List.pairwise_singleton _ _
 | q :: r,h=>by
   obtain ⟨h1,h2⟩:=List.pairwise_cons.1 h
   unfold L.insPt
   cases hd:decide (L.cmpPt p q <= 0) with
   | true =>
     have hd:L.lePt p q:=of_decide_eq_true (p:=L.cmpPt p q <= 0) hd
     exact List.pairwise_cons.2 ⟨fun x hx=>by
      rcases List.mem_cons.1 hx with rfl | hx
      ·exact hd
      ·exact lePt_trans hd (h1 x hx),h⟩
   | false =>
     have hd:¬ L.lePt p q:=of_decide_eq_false (p:=L.cmpPt p q <= 0) hd
     have hqp:L.lePt q p:=(lePt_total p q).resolve_left hd
     exact List.pairwise_cons.2 ⟨fun x hx=>by
      rcases List.mem_cons.1 ((insPt_perm p r).mem_iff.1 hx) with rfl | hx
      ·exact hqp
      ·exact h1 x hx,insPt_asc h2⟩
theorem isortPt_asc:∀ l,(L.isortPt l).Pairwise L.lePt
 | []=>.nil
 | p :: r=>insPt_asc (isortPt_asc r)
theorem sorted_is {l:L.Sq L.Pt} {u:Nat->L.Pt} (h:SortedBy L.cmpPt l.n l.g u):∀ k,k<l.n->(L.sorted l).g k=u k:=fun k hk=>by
 have e:(List.range l.n).map u=L.isortPt (L.listPt l):=by
  refine List.Perm.eq_of_pairwise (le:=L.lePt) (fun a b _ _=>lePt_anti) ?_ (isortPt_asc _) (h.perm.trans (isortPt_perm _).symm)
  rw [List.pairwise_iff_getElem]
  intro i j hi hj hij
  simp only [List.getElem_map,List.getElem_range]
  have hj:j<l.n:=by simpa using hj
  have:=h.asc i j hij hj
  rcases lePt_total (u i) (u j) with h1 | h1
  ·exact h1
  ·unfold L.lePt at *
   simp only [cmpPt_le,cmpPt_lt] at *
   omega
 show (L.isortPt (L.listPt l)).getD k ⟨0,0⟩=u k
 rw [<- e]
 simp [List.getD_eq_getElem?_getD,hk]
theorem sorted_mem (l:L.Sq L.Pt) {k:Nat} (hk:k<l.n):∃ i,i<l.n/\(L.sorted l).g k=l.g i:=by
 have hl:(L.isortPt (L.listPt l)).length=l.n:=by rw [(isortPt_perm _).length_eq];simp [L.listPt]
 have hm:(L.isortPt (L.listPt l)).getD k ⟨0,0⟩ ∈ L.isortPt (L.listPt l):=by
  rw [List.getD_eq_getElem?_getD,List.getElem?_eq_getElem (by rw [hl];exact hk)]
  exact List.getElem_mem _
 have hm:=(isortPt_perm _).mem_iff.1 hm
 unfold L.listPt at hm
 obtain ⟨i,hi,e⟩:=List.mem_map.1 hm
 exact ⟨i,List.mem_range.1 hi,e.symm⟩
def encPt (p:L.Pt):List Int:=[p.x,p.y]
def sortPt_ren:Go.Shelf.Ren:=⟨fun | 6=>196 | 15=>179 | 14=>224 | 28=>207 | 29=>208 | 20=>234 | 21=>235 | 22=>236 | 23=>237 | 24=>238 | 25=>239 | 26=>240 | 27=>241 | 46=>244 | 47=>226 | 48=>227 | 49=>245 | 50=>246 | 57=>247 | n=>n,fun | 22=>53 | 24=>48 | 25=>75 | 3=>3 | 39=>232 | 0=>0 | 53=>257 | 55=>259 | 4=>4 | 46=>250 | 45=>249 | 50=>254 | 5=>5 | 9=>9 | 66=>270 | 70=>274 | 76=>283 | 77=>284 | n=>n,fun | n=>n⟩
theorem sortPt_lay:Go.Proofs.SlLaysF0.n6 Tryz.prog sortPt_ren:={
 mixed:=by kernel_rfl
 f6:=⟨Tryz.f196.name,by decide,Tryz.func196.trans (congrArg some (by kernel_rfl))⟩
 f14:=⟨Tryz.f224.name,by decide,Tryz.func224.trans (congrArg some (by kernel_rfl))⟩
 f15:=Tryz.func179.trans (congrArg some (by kernel_rfl))
 f20:=⟨Tryz.f234.name,by decide,Tryz.func234.trans (congrArg some (by kernel_rfl))⟩
 f21:=⟨Tryz.f235.name,by decide,Tryz.func235.trans (congrArg some (by kernel_rfl))⟩
 f22:=⟨Tryz.f236.name,by decide,Tryz.func236.trans (congrArg some (by kernel_rfl))⟩
 f23:=⟨Tryz.f237.name,by decide,Tryz.func237.trans (congrArg some (by kernel_rfl))⟩
 f24:=⟨Tryz.f238.name,by decide,Tryz.func238.trans (congrArg some (by kernel_rfl))⟩
 f25:=⟨Tryz.f239.name,by decide,Tryz.func239.trans (congrArg some (by kernel_rfl))⟩
 f26:=⟨Tryz.f240.name,by decide,Tryz.func240.trans (congrArg some (by kernel_rfl))⟩
 f27:=⟨Tryz.f241.name,by decide,Tryz.func241.trans (congrArg some (by kernel_rfl))⟩
 f28:=Tryz.func207.trans (congrArg some (by kernel_rfl))
 f29:=Tryz.func208.trans (congrArg some (by kernel_rfl))
 f46:=⟨Tryz.f244.name,by decide,Tryz.func244.trans (congrArg some (by kernel_rfl))⟩
 f47:=Tryz.func226.trans (congrArg some (by kernel_rfl))
 f48:=Tryz.func227.trans (congrArg some (by kernel_rfl))
 f49:=⟨Tryz.f245.name,by decide,Tryz.func245.trans (congrArg some (by kernel_rfl))⟩
 f50:=⟨Tryz.f246.name,by decide,Tryz.func246.trans (congrArg some (by kernel_rfl))⟩
 f57:=⟨Tryz.f247.name,by decide,Tryz.func247.trans (congrArg some (by kernel_rfl))⟩
 t0:=Tryz.underlying0
 a0:=Tryz.isAgg0
 z0:=Tryz.sizeOf0
 v0:=Tryz.zeroValue0
 t3:=Tryz.underlying3
 a3:=Tryz.isAgg3
 z3:=Tryz.sizeOf3
 v3:=Tryz.zeroValue3
 t4:=Tryz.underlying4
 a4:=Tryz.isAgg4
 z4:=Tryz.sizeOf4
 v4:=Tryz.zeroValue4
 t5:=Tryz.underlying5
 a5:=Tryz.isAgg5
 z5:=Tryz.sizeOf5
 v5:=Tryz.zeroValue5
 t9:=Tryz.underlying9
 a9:=Tryz.isAgg9
 z9:=Tryz.sizeOf9
 v9:=Tryz.zeroValue9
 t22:=Tryz.underlying53
 a22:=Tryz.isAgg53
 z22:=Tryz.sizeOf53
 v22:=Tryz.zeroValue53
 t25:=Tryz.underlying75
 a25:=Tryz.isAgg75
 z25:=Tryz.sizeOf75
 v25:=Tryz.zeroValue75
 t39:=Tryz.underlying232
 a39:=Tryz.isAgg232
 z39:=Tryz.sizeOf232
 v39:=Tryz.zeroValue232
 t45:=Tryz.underlying249
 a45:=Tryz.isAgg249
 z45:=Tryz.sizeOf249
 v45:=Tryz.zeroValue249
 t46:=Tryz.underlying250
 a46:=Tryz.isAgg250
 z46:=Tryz.sizeOf250
 v46:=Tryz.zeroValue250
 t50:=Tryz.underlying254
 a50:=Tryz.isAgg254
 z50:=Tryz.sizeOf254
 v50:=Tryz.zeroValue254
 t53:=Tryz.underlying257
 a53:=Tryz.isAgg257
 z53:=Tryz.sizeOf257
 v53:=Tryz.zeroValue257
 t55:=Tryz.underlying259
 a55:=Tryz.isAgg259
 z55:=Tryz.sizeOf259
 v55:=Tryz.zeroValue259
 t66:=Tryz.underlying270
 a66:=Tryz.isAgg270
 z66:=Tryz.sizeOf270
 v66:=Tryz.zeroValue270
 t70:=Tryz.underlying274
 a70:=Tryz.isAgg274
 z70:=Tryz.sizeOf274
 v70:=Tryz.zeroValue274
 t76:=Tryz.underlying283
 a76:=Tryz.isAgg283
 z76:=Tryz.sizeOf283
 v76:=Tryz.zeroValue283
 t77:=Tryz.underlying284
 a77:=Tryz.isAgg284
 z77:=Tryz.sizeOf284
 v77:=Tryz.zeroValue284 }
abbrev s_sortP_tr:Tr:=sortTr 48 2 138 1005 encPt L.cmpPt
theorem s_sortP_tok:TrOk Tryz.prog 196 s_sortP_tr:=sortTr_ok (enc:=encPt) sortPt_lay (by decide) (fun w=>Tryz.isAgg48 w) (fun w=>Tryz.sizeOf48 w) (fun _=>rfl) swoPt p_compare_ok p_compare_en (fun x y=>show preO p_compare_s [.p (.agg [.int .i64 x.x,.int .i64 x.y]),.p (.agg [.int .i64 y.x,.int .i64 y.y])] from trivial) (fun x y=>rfl) _ _
theorem s_sortP_en:Enters Tryz.prog 196:=fun args w=>by kernel_rfl
def L.popPt (p:L.Pt):List L.Pt->List L.Pt
 | []=>[]
 | [a]=>[a]
 | b :: a :: r=>bif decide (L.cross a b p <= 0) then L.popPt p (a :: r) else b :: a :: r
def L.chainTo (l:L.Sq L.Pt):Nat->List L.Pt
 | 0=>[]
 | k+1=>l.g k :: L.popPt (l.g k) (L.chainTo l k)
def L.len (st:List L.Pt):Nat:=st.length
def L.lmem (q:L.Pt) (st:List L.Pt):Prop:=q ∈ st
def L.fromTop (st:List L.Pt) (k:Nat):L.Pt:=st.getD (st.length - 1 - k) ⟨0,0⟩
def L.chain (l:L.Sq L.Pt):L.Sq L.Pt:=⟨(L.chainTo l l.n).length - 1,fun k=>L.fromTop (L.chainTo l l.n) k⟩
theorem popPt_mem {p q:L.Pt}:∀ {st:List L.Pt},q ∈ L.popPt p st->q ∈ st
 | [],h=>h
 | [a],h=>h
 | b :: a :: r,h=>by
   unfold L.popPt at h
   cases hd:decide (L.cross a b p <= 0) with
   | true=>rw [hd] at h;exact List.mem_cons_of_mem _ (popPt_mem (st:=a :: r) h)
   | false=>rw [hd] at h;exact h
theorem popPt_len {p:L.Pt}:∀ {st:List L.Pt},(L.popPt p st).length <= st.length
 | []=>Nat.le_refl _
 | [a]=>Nat.le_refl _
 | b :: a :: r=>by
   unfold L.popPt
   cases decide (L.cross a b p <= 0) with
   | true=>exact Nat.le_trans (popPt_len (st:=a :: r)) (Nat.le_succ _)
   | false=>exact Nat.le_refl _
theorem popPt_pos {p:L.Pt}:∀ {st:List L.Pt},1 <= st.length->1 <= (L.popPt p st).length
 | [],h=>h
 | [a],h=>h
 | b :: a :: r,h=>by
   unfold L.popPt
   cases decide (L.cross a b p <= 0) with
   | true=>exact popPt_pos (st:=a :: r) (Nat.succ_le_succ (Nat.zero_le _))
   | false=>exact h
theorem chain_pos {l:L.Sq L.Pt} (h:2 <= l.n):1 <= (L.chainTo l l.n).length - 1:=by
 match hh:l.n,h with
 | m+2,_ =>
   have:=popPt_pos (p:=l.g (m+1)) (st:=L.chainTo l (m+1)) (Nat.succ_le_succ (Nat.zero_le _))
   show 1 <= (L.popPt (l.g (m+1)) (L.chainTo l (m+1))).length+1 - 1
   omega
theorem chainTo_mem {l:L.Sq L.Pt} {q:L.Pt}:∀ {k},q ∈ L.chainTo l k -> ∃ i,i<k/\q=l.g i
 | 0,h=>nomatch h
 | k+1,h=>by
   rcases List.mem_cons.1 h with rfl | h
   ·exact ⟨k,Nat.lt_succ_self _,rfl⟩
   ·obtain ⟨i,hi,e⟩:=chainTo_mem (popPt_mem h)
    exact ⟨i,Nat.lt_succ_of_lt hi,e⟩
theorem chainTo_len (l:L.Sq L.Pt):∀ k,(L.chainTo l k).length <= k
 | 0=>Nat.le_refl _
 | k+1=>Nat.succ_le_succ (Nat.le_trans popPt_len (chainTo_len l k))
theorem fromTop_mem {st:List L.Pt} {k:Nat} (h:k<st.length):L.fromTop st k ∈ st:=by
 unfold L.fromTop
 rw [List.getD_eq_getElem?_getD,List.getElem?_eq_getElem (by omega)]
 exact List.getElem_mem _
theorem fromTop_tail {a:L.Pt} {r:List L.Pt} {k:Nat} (h:k<r.length):L.fromTop (a :: r) k=L.fromTop r k:=by
 unfold L.fromTop
 rw [show (a :: r).length - 1 - k=(r.length - 1 - k)+1 by simp only [List.length_cons];omega]
 rfl
theorem fromTop_head {a:L.Pt} {r:List L.Pt}:L.fromTop (a :: r) r.length=a:=by
 unfold L.fromTop
 rw [show (a :: r).length - 1 - r.length=0 by simp only [List.length_cons];omega]
 rfl
def L.revd (l:L.Sq L.Pt):L.Sq L.Pt:=⟨l.n,fun k=>l.g (l.n - 1 - k)⟩
def L.hull (l:L.Sq L.Pt):L.Sq L.Pt:=L.catTo (L.two (L.chain (L.sorted l)) (L.chain (L.revd (L.sorted l)))) 2
theorem chain_mem (l:L.Sq L.Pt) {k:Nat} (h:k<(L.chain l).n):∃ i,i<l.n/\(L.chain l).g k=l.g i:=chainTo_mem (fromTop_mem (st:=L.chainTo l l.n) (show k<_ by have:k<(L.chainTo l l.n).length - 1:=h;omega))
theorem hull_mem (l:L.Sq L.Pt) {k:Nat} (h:k<(L.hull l).n):∃ i,i<l.n/\(L.hull l).g k=l.g i:=by
 have a1:∀ k,k<(L.chain (L.sorted l)).n -> ∃ i,i<l.n/\(L.chain (L.sorted l)).g k=l.g i:=fun k hk=>by
  obtain ⟨i,hi,e⟩:=chain_mem _ hk
  obtain ⟨j,hj,e2⟩:=sorted_mem l hi
  exact ⟨j,hj,e.trans e2⟩
 have a2:∀ k,k<(L.chain (L.revd (L.sorted l))).n -> ∃ i,i<l.n/\(L.chain (L.revd (L.sorted l))).g k=l.g i:=fun k hk=>by
  obtain ⟨i,hi,e⟩:=chain_mem _ hk
  have hi:i<l.n:=hi
  obtain ⟨j,hj,e2⟩:=sorted_mem l (k:=l.n - 1 - i) (by omega)
  exact ⟨j,hj,e.trans e2⟩
 have h:k<0+(L.chain (L.sorted l)).n+(L.chain (L.revd (L.sorted l))).n:=h
 have e:(L.hull l).g k=bif decide (k<0+(L.chain (L.sorted l)).n) then (bif decide (k<0) then (⟨0,0⟩:L.Pt) else (L.chain (L.sorted l)).g (k - 0)) else (L.chain (L.revd (L.sorted l))).g (k - (0+(L.chain (L.sorted l)).n)):=rfl
 rw [e]
 cases hd:decide (k<0+(L.chain (L.sorted l)).n) with
 | true=>have:=of_decide_eq_true hd;exact a1 k (by omega)
 | false=>have:=of_decide_eq_false hd;exact a2 _ (by omega)
def s_values1_p (l:(L.Sq L.Pt)):Prop:=l.n <= 1000000
def s_values1_n (l:(L.Sq L.Pt)):Nat:=l.n
def s_values1_i (l:(L.Sq L.Pt)):Nat->List SV:=fun k=>[(.agg [.int .i64 ((l.g (k:Int).toNat).x),.int .i64 ((l.g (k:Int).toNat).y)])]
def s_values1_ic:List SV->Option (Prop × Nat × (Nat->List SV))
 | [.ref [.sl 2 l_n l_g] 0]=>some ((∀ i,i<l_n->l_g i = [.int .i64 ((ofPt (l_g i)).x),.int .i64 ((ofPt (l_g i)).y)])/\s_values1_p (⟨l_n,fun i=>ofPt (l_g i)⟩:(L.Sq L.Pt)),s_values1_n (⟨l_n,fun i=>ofPt (l_g i)⟩:(L.Sq L.Pt)),s_values1_i (⟨l_n,fun i=>ofPt (l_g i)⟩:(L.Sq L.Pt)))
 | _=>none
abbrev s_values1_it:ItSpec:=itOf s_values1_ic
def s_values1_C:Cfg:={ muts:=[],frz:=lookN [],specs:=lookS [],loops:=fun _=>none,iters:=lookI [],rfs:=lookR [] }
theorem s_values1_vc (yl:Nat) (l:(L.Sq L.Pt)) (hp:s_values1_p l):vc Tryz.prog { s_values1_C with loops:=lookL [(1,{ T:=Nat,keep:=[0,1,5,6],keepO:=[],chg:=fun i=>[(7,.p (.int .i64 (i:Int)))],own:=fun _=>[],inv:=fun i=>i <= l.n,mu:=fun i=>l.n - i,yk:=some (fun i=>i) })],yld:=some ⟨yl,s_values1_n l,s_values1_i l⟩ } (bodyOf Tryz.f197) (st0 Tryz.f197 (.yield yl :: ([.ref [.sl 2 l.n (fun i=>[.int .i64 ((l.g i).x),.int .i64 ((l.g i).y)])] 0]:List SV).map .p)) (retIt Tryz.prog Tryz.f197 (s_values1_n l)) :=
 @Eq.mpr _ (let I:=SV.int .i64;let T:=Int.toNat;let A7:=(1:Int);let A5:=(1:Nat);let A3:=(↑l.n:Int);let A2:=[SV.sl (nat_lit 2) l.n fun (i:Nat)=>[I (l.g i).x,I (l.g i).y]];(∃ (g:Nat),nat_lit 0=g/\false=false/\(0:Int)=(↑g:Int)/\g <= l.n) /\ ∀ (g:Nat),let A1:=(↑g:Int);let A4:=[SV.agg [I (l.g (T A1)).x,I (l.g (T A1)).y]];g <= l.n->(decide (A1<A3)=true->((0:Int) <= A1/\A1<A3)/\yl=yl/\g<l.n/\A4=A4/\((false=true->g+A5=l.n\/g+A5=l.n+A5)/\(false=false->InK .i64 (A1+A7) /\ ∃ (g':Nat),g+A5=g'/\false=false/\A1+A7=(↑g':Int)/\A3=A3/\(l.n=l.n /\ ∀ (i:Nat),let A6:=[I (l.g i).x,I (l.g i).y];i<l.n->A6=A6)/\yl=yl/\SV.ref A2 (nat_lit 0)=SV.ref A2 (nat_lit 0)/\g' <= l.n/\l.n - g'<l.n - g))/\(true=true->l.n+A5=l.n\/l.n+A5=l.n+A5)/\(true=false->InK .i64 (A1+A7) /\ ∃ (g':Nat),l.n+A5=g'/\false=false/\A1+A7=(↑g':Int)/\A3=A3/\False/\yl=yl/\False/\g' <= l.n/\l.n - g'<l.n - g))/\(decide (A1<A3)=false->g=l.n\/g=l.n+A5)) (by kernel_rfl) (by
 conv=>zeta
 have hn:l.n <= 1000000:=hp
 refine ⟨⟨(0:Nat),rfl,rfl,rfl,Nat.zero_le _⟩,fun g hg=>⟨fun hlt=>?_,fun hge=>?_⟩⟩
 ·have hb:(g:Int)<(l.n:Int):=of_decide_eq_true hlt
  refine ⟨⟨by omega,hb⟩,rfl,by omega,rfl,?_⟩
  exact ⟨⟨fun h=>(by cases h),fun _=>⟨jK,g+1,rfl,rfl,by omega,rfl,⟨rfl,fun _ _=>rfl⟩,rfl,rfl,by omega,by omega⟩⟩,fun _=>.inr rfl,fun h=>(by cases h)⟩
 ·have hb:¬ (g:Int)<(l.n:Int):=of_decide_eq_false hge
  exact .inl (by omega))
theorem s_values1_itok:ItOk Tryz.prog 197 s_values1_it:=iterX Tryz.func197 (c:=bodyOf Tryz.f197) (by kernel_rfl) mixed (fun caps l p n g hs hp=>by
 unfold s_values1_ic at hs
 split at hs
 ·cases hs; exact ⟨_, _, s_values1_vc l _ hp.2, (.cons (Ext.ref rfl (fun i hi => by
  rcases i with _ | i
  ·show Ext (SV.sl _ _ _) (SV.sl _ _ _);exact (Ext.sl hp.1)
  exact absurd hi (by simp;try omega))) .nil),rfl,show SpecsL Tryz.prog _ from SpecsL.nil,⟨show ItersL Tryz.prog _ from ItersL.nil,TrsOk.none (fun _=>rfl)⟩⟩
 ·cases hs)
theorem s_values1_en:Enters Tryz.prog 197:=fun args w=>by kernel_rfl
def s_values_p (l:(L.Sq L.Pt)):Prop:=l.n <= 1000000
def s_values_r (l:(L.Sq L.Pt)):SV:=.clo 197 [.ref [(.sl 2 l.n (fun i=>[.int .i64 ((l.g i).x),.int .i64 ((l.g i).y)]))] 0]
def s_values_s:List EV->Option (Prop × SV)
 | [.p (.sl 2 l_n l_g)]=>some ((∀ i,i<l_n->l_g i = [.int .i64 ((ofPt (l_g i)).x),.int .i64 ((ofPt (l_g i)).y)])/\s_values_p (⟨l_n,fun i=>ofPt (l_g i)⟩:(L.Sq L.Pt)),s_values_r (⟨l_n,fun i=>ofPt (l_g i)⟩:(L.Sq L.Pt)))
 | _=>none
abbrev s_values_S:SE.Spec:=(specO s_values_s)
def s_values_C:Cfg:={ muts:=[],frz:=lookN [],specs:=lookS [],loops:=lookL [],iters:=lookI [],rfs:=lookR [],nils:=lookM [] }
theorem s_values_vc (l:(L.Sq L.Pt)) (hp:s_values_p l):vc Tryz.prog (s_values_C) (bodyOf Tryz.f174) (st0 Tryz.f174 [.p (.sl 2 l.n (fun i=>[.int .i64 ((l.g i).x),.int .i64 ((l.g i).y)]))]) (retFn Tryz.prog Tryz.f174 (s_values_r l)) :=
 @Eq.mpr _ (SV.clo (nat_lit 197) [SV.ref [SV.sl (nat_lit 2) l.n fun (i:Nat)=>[SV.int .i64 (l.g i).x,SV.int .i64 (l.g i).y]] (nat_lit 0)]=SV.clo (nat_lit 197) [SV.ref [SV.sl (nat_lit 2) l.n fun (i:Nat)=>[SV.int .i64 (l.g i).x,SV.int .i64 (l.g i).y]] (nat_lit 0)]) (by kernel_rfl) (by
 rfl)
theorem s_values_ok:SpecOk Tryz.prog 174 s_values_S:=fnX Tryz.func174 (c:=bodyOf Tryz.f174) (by kernel_rfl) mixed (fun args p r hs hp=>by
 unfold s_values_s at hs
 split at hs
 ·cases hs;exact ⟨_,_,s_values_vc _ hp.2,(.p (.sl hp.1) .nil),⟨show SpecsL Tryz.prog _ from SpecsL.nil,rfl,⟨show ItersL Tryz.prog _ from ItersL.nil,(TrsOk.none (fun _=>rfl))⟩⟩⟩
 ·cases hs)
theorem s_values_en:Enters Tryz.prog 174:=fun args w=>by kernel_rfl
def s_appendSeq_p (s:Nat) (l:(L.Sq L.Pt)):Prop:=l.n <= 1000000
def s_appendSeq_q (s:Nat) (l:(L.Sq L.Pt)):Nat->Prop:=fun _=>True
def s_appendSeq_n (s:Nat) (l:(L.Sq L.Pt)):Nat->Nat:=fun _=>l.n
def s_appendSeq_g (s:Nat) (l:(L.Sq L.Pt)):Nat->Nat->List SV:=fun _ k=>[.int .i64 ((l.g k).x),.int .i64 ((l.g k).y)]
def s_appendSeq_s:List EV->Option (Prop × (Nat->Prop) × (Nat->Nat) × (Nat->Nat->List SV))
 | [.p (.raw (.slice none 0 0)),.p (.clo 197 [.ref [.sl 2 l_n l_g] 0])]=>some ((∀ i,i<l_n->l_g i = [.int .i64 ((ofPt (l_g i)).x),.int .i64 ((ofPt (l_g i)).y)])/\s_appendSeq_p (0:Nat) (⟨l_n,fun i=>ofPt (l_g i)⟩:(L.Sq L.Pt)),s_appendSeq_q (0:Nat) (⟨l_n,fun i=>ofPt (l_g i)⟩:(L.Sq L.Pt)),s_appendSeq_n (0:Nat) (⟨l_n,fun i=>ofPt (l_g i)⟩:(L.Sq L.Pt)),s_appendSeq_g (0:Nat) (⟨l_n,fun i=>ofPt (l_g i)⟩:(L.Sq L.Pt)))
 | _=>none
abbrev s_appendSeq_S:SE.Spec:=(specF Nat 0 48 2 s_appendSeq_s)
def s_appendSeq_C:Cfg:={ cC with muts:=[2,5],iters:=lookI [(197,s_values1_it)],nils:=lookM [(1,[(2,10,48,2)])] }
theorem s_appendSeq_vc (s:Nat) (l:(L.Sq L.Pt)) (hp:s_appendSeq_p s l):vc Tryz.prog ({ s_appendSeq_C with loops:=lookL [],rfs:=lookR [(2,{ T:=Nat,keep:=[2],keepO:=[],own:=fun k _=>[(2,.blk 53 [.row 10]),(10,.row 48 2 k (fun k=>[.int .i64 ((l.g k).x),.int .i64 ((l.g k).y)]))],inv:=fun k _=>k <= l.n })] }) (bodyOf Tryz.f223) (st0 Tryz.f223 [.p (.raw (.slice none 0 0)),.p (.clo 197 [.ref [.sl 2 l.n (fun i=>[.int .i64 ((l.g i).x),.int .i64 ((l.g i).y)])] 0])]) (retFresh Tryz.prog Tryz.f223 (Nat) (s_appendSeq_q s l) 48 2 (s_appendSeq_n s l) (s_appendSeq_g s l)) :=
 @Eq.mpr _ (let I:=SV.int .i64;(((∀ (i:Nat),let A2:=[I (l.g i).x,I (l.g i).y];i<l.n->A2=A2)/\l.n <= (1000000:Nat)) /\ ∃ (t:Nat),(nat_lit 0=(0:Nat) /\ ∀ (i:Nat),i<nat_lit 0 -> [] = [I (l.g i).x,I (l.g i).y])/\(0:Nat) <= l.n)/\(∀ (k t:Nat) (vk:Nat->Go.Value),let A1:=(l.g (Int.toNat (↑k:Int)));k<l.n->k <= l.n->(k+nat_lit 1) * nat_lit 16 <= (140737488355328:Nat) /\ ∃ (t':Nat),nat_lit 0=nat_lit 0/\vk (nat_lit 2)=vk (nat_lit 2)/\(k+nat_lit 1=k+(1:Nat) /\ ∀ (i:Nat),i<k+nat_lit 1->appGet k (fun (k:Nat)=>[I (l.g k).x,I (l.g k).y]) (fun (x:Nat)=>[I A1.x,I A1.y]) i = [I (l.g i).x,I (l.g i).y])/\k+(1:Nat) <= l.n) /\ ∀ (t:Nat),l.n <= l.n -> ∃ (t:Nat),(l.n=l.n /\ ∀ (i:Nat),let A3:=[I (l.g i).x,I (l.g i).y];i<l.n->A3=A3)/\True) (by kernel_rfl) (by
 conv=>zeta
 have hn:l.n <= 1000000:=hp
 refine ⟨⟨⟨fun _ _=>rfl,hn⟩,(0:Nat),⟨rfl,fun i hi=>absurd hi (Nat.not_lt_zero _)⟩,Nat.zero_le _⟩,fun k t vk hk hi=>⟨show (k+1) * 16 <= 140737488355328 by omega,(0:Nat),rfl,rfl,⟨rfl,fun i hi=>?_⟩,by omega⟩,fun t hi=>⟨(0:Nat),⟨rfl,fun _ _=>rfl⟩,trivial⟩⟩
 have hi:i<k+1:=hi
 have e0:((k:Int)).toNat=k:=by omega
 unfold appGet
 by_cases h':i<k
 ·rw [if_pos h']
 ·rw [if_neg h']
  obtain rfl:i=k:=by omega
  dsimp only
  rw [e0])
theorem s_appendSeq_ok:SpecOk Tryz.prog 223 s_appendSeq_S:=freshX Tryz.func223 (c:=bodyOf Tryz.f223) (by kernel_rfl) mixed (fun args p q n g hs hp=>by
 unfold s_appendSeq_s at hs
 split at hs
 ·cases hs; exact ⟨_, _, s_appendSeq_vc _ _ hp.2, (.same _ (.p (Ext.clo rfl (fun i hi => by
  rcases i with _ | i
  ·show Ext (SV.ref _ _) (SV.ref _ _);exact (Ext.ref rfl (fun i hi=>by
  rcases i with _ | i
  ·show Ext (SV.sl _ _ _) (SV.sl _ _ _);exact (Ext.sl hp.1)
  exact absurd hi (by simp;try omega)))
  exact absurd hi (by simp;try omega))) .nil)),⟨show SpecsL Tryz.prog _ from SpecsL.nil,rfl,⟨show ItersL Tryz.prog _ from (ItersL.cons s_values1_itok s_values1_en ItersL.nil),(TrsOk.none (fun _=>rfl))⟩⟩⟩
 ·cases hs)
theorem s_appendSeq_en:Enters Tryz.prog 223:=fun args w=>by kernel_rfl
def s_collect_p (l:(L.Sq L.Pt)):Prop:=l.n <= 1000000
def s_collect_q (l:(L.Sq L.Pt)):Nat->Prop:=fun _=>True
def s_collect_n (l:(L.Sq L.Pt)):Nat->Nat:=fun _=>l.n
def s_collect_g (l:(L.Sq L.Pt)):Nat->Nat->List SV:=fun _ k=>[.int .i64 ((l.g k).x),.int .i64 ((l.g k).y)]
def s_collect_s:List EV->Option (Prop × (Nat->Prop) × (Nat->Nat) × (Nat->Nat->List SV))
 | [.p (.clo 197 [.ref [.sl 2 l_n l_g] 0])]=>some ((∀ i,i<l_n->l_g i = [.int .i64 ((ofPt (l_g i)).x),.int .i64 ((ofPt (l_g i)).y)])/\s_collect_p (⟨l_n,fun i=>ofPt (l_g i)⟩:(L.Sq L.Pt)),s_collect_q (⟨l_n,fun i=>ofPt (l_g i)⟩:(L.Sq L.Pt)),s_collect_n (⟨l_n,fun i=>ofPt (l_g i)⟩:(L.Sq L.Pt)),s_collect_g (⟨l_n,fun i=>ofPt (l_g i)⟩:(L.Sq L.Pt)))
 | _=>none
abbrev s_collect_S:SE.Spec:=(specF Nat 0 48 2 s_collect_s)
def s_collect_C:Cfg:={ cC with muts:=[4],specs:=lookS [(223,s_appendSeq_S)],raws:=[223] }
theorem s_collect_vc (l:(L.Sq L.Pt)) (hp:s_collect_p l):vc Tryz.prog (s_collect_C) (bodyOf Tryz.f195) (st0 Tryz.f195 [.p (.clo 197 [.ref [.sl 2 l.n (fun i=>[.int .i64 ((l.g i).x),.int .i64 ((l.g i).y)])] 0])]) (retFresh Tryz.prog Tryz.f195 (Nat) (s_collect_q l) 48 2 (s_collect_n l) (s_collect_g l)) :=
 @Eq.mpr _ (let I:=SV.int .i64;((∀ (i:Nat),let A1:=[I (l.g i).x,I (l.g i).y];i<l.n->A1=A1)/\l.n <= (1000000:Nat)) /\ ∀ (t:Nat),True -> ∃ (t:Nat),(l.n=l.n /\ ∀ (i:Nat),let A2:=[I (l.g i).x,I (l.g i).y];i<l.n->A2=A2)/\True) (by kernel_rfl) (by
 conv=>zeta
 exact ⟨⟨fun _ _=>rfl,hp⟩,fun t _=>⟨(0:Nat),⟨rfl,fun _ _=>rfl⟩,trivial⟩⟩)
theorem s_collect_ok:SpecOk Tryz.prog 195 s_collect_S:=freshX Tryz.func195 (c:=bodyOf Tryz.f195) (by kernel_rfl) mixed (fun args p q n g hs hp=>by
 unfold s_collect_s at hs
 split at hs
 ·cases hs; exact ⟨_, _, s_collect_vc _ hp.2, (.p (Ext.clo rfl (fun i hi => by
  rcases i with _ | i
  ·show Ext (SV.ref _ _) (SV.ref _ _);exact (Ext.ref rfl (fun i hi=>by
  rcases i with _ | i
  ·show Ext (SV.sl _ _ _) (SV.sl _ _ _);exact (Ext.sl hp.1)
  exact absurd hi (by simp;try omega)))
  exact absurd hi (by simp;try omega))) .nil),⟨show SpecsL Tryz.prog _ from (SpecsL.cons s_appendSeq_ok s_appendSeq_en SpecsL.nil),rfl,⟨show ItersL Tryz.prog _ from ItersL.nil,(TrsOk.none (fun _=>rfl))⟩⟩⟩
 ·cases hs)
theorem s_collect_en:Enters Tryz.prog 195:=fun args w=>by kernel_rfl
def s_sortedF_p (l:(L.Sq L.Pt)):Prop:=l.n <= 1000000
def s_sortedF_q (l:(L.Sq L.Pt)):Nat->Prop:=fun _=>True
def s_sortedF_n (l:(L.Sq L.Pt)):Nat->Nat:=fun _=>l.n
def s_sortedF_g (l:(L.Sq L.Pt)):Nat->Nat->List SV:=fun _ k=>[.int .i64 (((L.sorted l).g k).x),.int .i64 (((L.sorted l).g k).y)]
def s_sortedF_s:List EV->Option (Prop × (Nat->Prop) × (Nat->Nat) × (Nat->Nat->List SV))
 | [.p (.clo 197 [.ref [.sl 2 l_n l_g] 0]),.p (.clo 138 [])]=>some ((∀ i,i<l_n->l_g i = [.int .i64 ((ofPt (l_g i)).x),.int .i64 ((ofPt (l_g i)).y)])/\s_sortedF_p (⟨l_n,fun i=>ofPt (l_g i)⟩:(L.Sq L.Pt)),s_sortedF_q (⟨l_n,fun i=>ofPt (l_g i)⟩:(L.Sq L.Pt)),s_sortedF_n (⟨l_n,fun i=>ofPt (l_g i)⟩:(L.Sq L.Pt)),s_sortedF_g (⟨l_n,fun i=>ofPt (l_g i)⟩:(L.Sq L.Pt)))
 | _=>none
abbrev s_sortedF_S:SE.Spec:=(specF Nat 0 48 2 s_sortedF_s)
def s_sortedF_C:Cfg:={ cC with muts:=[7],specs:=lookS [(195,s_collect_S),(138,p_compare_S)],trs:=lookT [(196,s_sortP_tr)],ren:=fun k=>k - 998,raws:=[195] }
theorem s_sortedF_vc (l:(L.Sq L.Pt)) (hp:s_sortedF_p l):vc Tryz.prog (s_sortedF_C) (bodyOf Tryz.f173) (st0 Tryz.f173 [.p (.clo 197 [.ref [.sl 2 l.n (fun i=>[.int .i64 ((l.g i).x),.int .i64 ((l.g i).y)])] 0]),.p (.clo 138 [])]) (retFresh Tryz.prog Tryz.f173 (Nat) (s_sortedF_q l) 48 2 (s_sortedF_n l) (s_sortedF_g l)) :=
 @Eq.mpr _ (let I:=SV.int .i64;((∀ (i:Nat),let A1:=[I (l.g i).x,I (l.g i).y];i<l.n->A1=A1)/\l.n <= (1000000:Nat)) /\ ∀ (t:Nat),True -> ∃ (t:Nat × (Nat->L.Pt)),SV.clo (nat_lit 138) []=SV.clo (138:Nat) []/\(l.n=t.1 /\ ∀ (i:Nat),i<l.n -> [I (l.g i).x,I (l.g i).y] = [I (t.2 i).x,I (t.2 i).y])/\t.1 <= (1000000:Nat) /\ ∀ (u:Nat->L.Pt),SortedBy L.cmpPt t.1 t.2 u -> ∃ (t_1:Nat),(t.1=l.n /\ ∀ (i:Nat),i<t.1 -> [I (u i).x,I (u i).y] = [I ((L.sorted l).g i).x,I ((L.sorted l).g i).y])/\True) (by kernel_rfl) (by
 conv=>zeta
 have hn:l.n <= 1000000:=hp
 refine ⟨⟨fun _ _=>rfl,hn⟩,fun t _=>⟨(l.n,l.g),rfl,⟨rfl,fun _ _=>rfl⟩,hn,fun u hu=>⟨(0:Nat),⟨rfl,fun i hi=>?_⟩,trivial⟩⟩⟩
 rw [sorted_is (l:=l) hu i hi])
theorem s_sortedF_ok:SpecOk Tryz.prog 173 s_sortedF_S:=freshX Tryz.func173 (c:=bodyOf Tryz.f173) (by kernel_rfl) mixed (fun args p q n g hs hp=>by
 unfold s_sortedF_s at hs
 split at hs
 ·cases hs; exact ⟨_, _, s_sortedF_vc _ hp.2, (.p (Ext.clo rfl (fun i hi => by
  rcases i with _ | i
  ·show Ext (SV.ref _ _) (SV.ref _ _);exact (Ext.ref rfl (fun i hi=>by
  rcases i with _ | i
  ·show Ext (SV.sl _ _ _) (SV.sl _ _ _);exact (Ext.sl hp.1)
  exact absurd hi (by simp;try omega)))
  exact absurd hi (by simp;try omega))) (.p (Ext.clo rfl (fun i hi=>by
  exact absurd hi (by simp;try omega))) .nil)),⟨show SpecsL Tryz.prog _ from (SpecsL.cons s_collect_ok s_collect_en (SpecsL.cons p_compare_ok p_compare_en SpecsL.nil)),rfl,⟨show ItersL Tryz.prog _ from ItersL.nil,⟨show TrsL Tryz.prog _ from (TrsL.cons s_sortP_tok s_sortP_en TrsL.nil),⟨MksOk.no1 (fun _=>rfl),FamsOk.none (fun _=>rfl)⟩⟩⟩⟩⟩
 ·cases hs)
theorem s_sortedF_en:Enters Tryz.prog 173:=fun args w=>by kernel_rfl
def p_chain_p (l:(L.Sq L.Pt)):Prop:=1 <= l.n/\l.n <= 1000000 /\ ∀ i,i<l.n->L.bd (l.g i)
def p_chain_q (l:(L.Sq L.Pt)):Nat->Prop:=fun _=>True
def p_chain_n (l:(L.Sq L.Pt)):Nat->Nat:=fun _=>(L.chain l).n
def p_chain_g (l:(L.Sq L.Pt)):Nat->Nat->List SV:=fun _ k=>[.int .i64 (((L.chain l).g k).x),.int .i64 (((L.chain l).g k).y)]
def p_chain_s:List EV->Option (Prop × (Nat->Prop) × (Nat->Nat) × (Nat->Nat->List SV))
 | [.p (.sl 2 l_n l_g)]=>some ((∀ i,i<l_n->l_g i = [.int .i64 ((ofPt (l_g i)).x),.int .i64 ((ofPt (l_g i)).y)])/\p_chain_p (⟨l_n,fun i=>ofPt (l_g i)⟩:(L.Sq L.Pt)),p_chain_q (⟨l_n,fun i=>ofPt (l_g i)⟩:(L.Sq L.Pt)),p_chain_n (⟨l_n,fun i=>ofPt (l_g i)⟩:(L.Sq L.Pt)),p_chain_g (⟨l_n,fun i=>ofPt (l_g i)⟩:(L.Sq L.Pt)))
 | _=>none
abbrev p_chain_S:SE.Spec:=(specF Nat 0 48 2 p_chain_s)
def p_chain_C:Cfg:={ cC with muts:=[5],specs:=lookS [(137,p_cross_S)],nils:=lookM [(2,[(3,32,48,2)])],cuts:=[36,46] }
theorem p_chain_vc (l:(L.Sq L.Pt)) (hp:p_chain_p l):vc Tryz.prog ({ p_chain_C with loops:=lookL [(3,{ T:=Nat,keep:=[3,6,7],keepO:=[],chg:=fun i=>[(8,.p (.int .i64 (i:Int)))],own:=fun i=>[(32,.row 48 2 (L.len (L.chainTo l i)) (fun k=>[.int .i64 ((L.fromTop (L.chainTo l i) k).x),.int .i64 ((L.fromTop (L.chainTo l i) k).y)]))],inv:=fun i=>i <= l.n,mu:=fun i=>l.n - i }),(5,{ T:=Nat × List L.Pt,keep:=[3,5,6,7,8],keepO:=[5],tie:=fun g=>[(8,.int .i64 (g.1:Int))],chg:=fun g=>[],own:=fun g=>[(32,.row 48 2 (L.len g.2) (fun k=>[.int .i64 ((L.fromTop g.2 k).x),.int .i64 ((L.fromTop g.2 k).y)]))],inv:=fun g=>g.1<l.n/\L.popPt (l.g g.1) g.2=L.popPt (l.g g.1) (L.chainTo l g.1)/\(∀ q,L.lmem q g.2->L.lmem q (L.chainTo l g.1))/\L.len g.2 <= g.1,mu:=fun g=>L.len g.2 })],rfs:=lookR [] }) (bodyOf Tryz.f175) (st0 Tryz.f175 [.p (.sl 2 l.n (fun i=>[.int .i64 ((l.g i).x),.int .i64 ((l.g i).y)]))]) (retFresh Tryz.prog Tryz.f175 (Nat) (p_chain_q l) 48 2 (p_chain_n l) (p_chain_g l)) :=
 @Eq.mpr _ (let I:=SV.int .i64;let T:=Int.toNat;let A11:=(0:Int);let A9:=(↑l.n:Int);let A6:=(l.n=l.n /\ ∀ (i:Nat),let A15:=[I (l.g i).x,I (l.g i).y];i<l.n->A15=A15);let A3:=(1:Int);(∃ (g:Nat),A11=(↑g:Int)/\(nat_lit 0=L.len (L.chainTo l g) /\ ∀ (i:Nat),let A14:=(L.fromTop (L.chainTo l g) i);i<nat_lit 0 -> [] = [I A14.x,I A14.y])/\g <= l.n) /\ ∀ (g:Nat),let A7:=(L.chainTo l g);let A5:=(↑g:Int);let A8:=(l.g (T A5));let A4:=(↑(L.len A7):Int);g <= l.n->(decide (A5<A9)=true->(A11 <= A5/\A5<A9)/\(∃ (g_1:Nat × List L.Pt),(L.len A7=L.len g_1.2 /\ ∀ (i:Nat),i<L.len A7 -> [I (L.fromTop A7 i).x,I (L.fromTop A7 i).y] = [I (L.fromTop g_1.2 i).x,I (L.fromTop g_1.2 i).y])/\A5=(↑g_1.1:Int)/\g_1.1<l.n/\L.popPt (l.g g_1.1) g_1.2=L.popPt (l.g g_1.1) (L.chainTo l g_1.1)/\(∀ (q:L.Pt),L.lmem q g_1.2->L.lmem q (L.chainTo l g_1.1))/\L.len g_1.2 <= g_1.1) /\ ∀ (g_1:Nat × List L.Pt),let A1:=(↑(L.len g_1.2):Int);let A12:=(A1 - A3);let A17:=(L.fromTop g_1.2 (T A12));let A10:=(A1 - (2:Int));let A16:=(L.fromTop g_1.2 (T A10));let A2:=(bif decide (A3<A1) then decide (L.cross A16 A17 A8 <= A11) else false);A5=(↑g_1.1:Int)/\g_1.1<l.n/\L.popPt (l.g g_1.1) g_1.2=L.popPt (l.g g_1.1) (L.chainTo l g_1.1)/\(∀ (q:L.Pt),L.lmem q g_1.2->L.lmem q (L.chainTo l g_1.1))/\L.len g_1.2 <= g_1.1->(decide (A3<A1)=true->InK .i64 A10)/\(decide (A3<A1)=true->A11 <= A1 - (2:Int)/\A1 - (2:Int)<A1)/\(decide (A3<A1)=true->T A10<L.len g_1.2)/\(decide (A3<A1)=true->InK .i64 A12)/\(decide (A3<A1)=true->A11 <= A1 - A3/\A1 - A3<A1)/\(decide (A3<A1)=true->T A12<L.len g_1.2)/\(decide (A3<A1)=true->L.bd A16/\L.bd A17/\L.bd A8)/\(A2=true->InK .i64 A12/\(A11 <= A1 - A3/\A1 - A3 <= A1) /\ ∃ (g':Nat × List L.Pt),nat_lit 0=nat_lit 0/\A5=A5/\A9=A9/\A6/\(T A12=L.len g'.2 /\ ∀ (i:Nat),i<T A12 -> [I (L.fromTop g_1.2 i).x,I (L.fromTop g_1.2 i).y] = [I (L.fromTop g'.2 i).x,I (L.fromTop g'.2 i).y])/\A8.x=A8.x/\A8.y=A8.y/\(A5=(↑g'.1:Int)/\g'.1<l.n/\L.popPt (l.g g'.1) g'.2=L.popPt (l.g g'.1) (L.chainTo l g'.1)/\(∀ (q:L.Pt),L.lmem q g'.2->L.lmem q (L.chainTo l g'.1))/\L.len g'.2 <= g'.1)/\L.len g'.2<L.len g_1.2)/\(A2=false->(L.len g_1.2+nat_lit 1) * nat_lit 16 <= (140737488355328:Nat)/\InK .i64 (A5+A3) /\ ∃ (g':Nat),A5+A3=(↑g':Int)/\A9=A9/\A6/\(L.len g_1.2+nat_lit 1=L.len (L.chainTo l g') /\ ∀ (i:Nat),let A13:=(L.fromTop (L.chainTo l g') i);i<L.len g_1.2+nat_lit 1->appGet (L.len g_1.2) (fun (k:Nat)=>[I (L.fromTop g_1.2 k).x,I (L.fromTop g_1.2 k).y]) (fun (x:Nat)=>[I A8.x,I A8.y]) i = [I A13.x,I A13.y])/\g' <= l.n/\l.n - g'<l.n - g))/\(decide (A5<A9)=false->InK .i64 (A4 - A3)/\(A11 <= A4 - A3/\A4 - A3 <= A4) /\ ∃ (t:Nat),(T (A4 - A3)=(L.chain l).n /\ ∀ (i:Nat),i<T (A4 - A3) -> [I (L.fromTop A7 i).x,I (L.fromTop A7 i).y] = [I ((L.chain l).g i).x,I ((L.chain l).g i).y])/\True)) (by kernel_rfl) (by
 conv=>zeta
 obtain ⟨h1,hn,hb⟩:=hp
 have len0:∀ k,L.len (L.chainTo l k) <= k:=chainTo_len l
 have bdc:∀ k,k <= l.n -> ∀ q,L.lmem q (L.chainTo l k)->L.bd q:=fun k hk q hq=>by
  obtain ⟨i,hi,rfl⟩:=chainTo_mem hq
  exact hb i (by omega)
 refine ⟨⟨(0:Nat),rfl,⟨rfl,fun i hi=>absurd hi (Nat.not_lt_zero _)⟩,Nat.zero_le _⟩,fun g hg=>⟨fun hlt=>?_,fun hge=>?_⟩⟩
 ·have hb':(g:Int)<(l.n:Int):=of_decide_eq_true hlt
  have e0:((g:Int)).toNat=g:=by omega
  refine ⟨⟨by omega,hb'⟩,⟨(g,L.chainTo l g),⟨rfl,fun _ _=>rfl⟩,rfl,by omega,rfl,fun _ h=>h,len0 g⟩,fun g1 hg1=>?_⟩
  obtain ⟨g0,st⟩:=g1
  obtain ⟨e1,q1,q2,q3,q4⟩:=hg1
  have e1:(g:Int)=(g0:Int):=e1
  obtain rfl:g=g0:=by omega
  have q2:L.popPt (l.g g) st=L.popPt (l.g g) (L.chainTo l g):=q2
  have q3:∀ q,L.lmem q st->L.lmem q (L.chainTo l g):=q3
  have q4:L.len st <= g:=q4
  have mb:∀ k,k<L.len st->L.bd (L.fromTop st k):=fun k hk=>bdc g hg _ (q3 _ (fromTop_mem hk))
  rw [e0]
  dsimp only
  refine ⟨fun h=>?_,fun h=>?_,fun h=>?_,fun h=>?_,fun h=>?_,fun h=>?_,fun h=>?_,fun hc=>?_,fun hc=>?_⟩
  any_goals (try have h:(1:Int)<(L.len st:Int):=of_decide_eq_true h)
  ·exact jK
  ·omega
  ·omega
  ·exact jK
  ·omega
  ·omega
  ·exact ⟨mb _ (by omega),mb _ (by omega),hb g (by omega)⟩
  ·cases hd:decide ((1:Int)<(L.len st:Int)) with
   | false=>rw [hd] at hc;cases hc
   | true =>
     have h:(1:Int)<(L.len st:Int):=of_decide_eq_true hd
     rw [hd] at hc
     have hc:=of_decide_eq_true hc
     match st,h with
     | b :: a :: r,h =>
       have f1:(((L.len (b :: a :: r):Nat):Int) - 2).toNat=r.length:=by show (((r.length+1+1:Nat):Int) - 2).toNat=r.length;omega
       have f2:(((L.len (b :: a :: r):Nat):Int) - 1).toNat=r.length+1:=by show (((r.length+1+1:Nat):Int) - 1).toNat=r.length+1;omega
       have g1:L.fromTop (b :: a :: r) (r.length+1)=b:=fromTop_head
       have g2:L.fromTop (b :: a :: r) r.length=a:=(fromTop_tail (by simp)).trans fromTop_head
       rw [f1,f2,g1,g2] at hc
       refine ⟨jK,⟨by omega,by omega⟩,(g,a :: r),rfl,rfl,rfl,⟨rfl,fun _ _=>rfl⟩,⟨f2,fun i hi=>?_⟩,rfl,rfl,⟨rfl,q1,?_,fun q hq=>q3 q (List.mem_cons_of_mem _ hq),?_⟩,?_⟩
       ·rw [f2] at hi
        have:L.fromTop (b :: a :: r) i=L.fromTop (a :: r) i:=fromTop_tail (by simpa using hi)
        rw [this]
       ·rw [<- q2]
        show L.popPt (l.g g) (a :: r)=bif decide (L.cross a b (l.g g) <= 0) then L.popPt (l.g g) (a :: r) else b :: a :: r
        rw [decide_eq_true hc];rfl
       ·have:r.length+1+1 <= g:=q4
        show r.length+1 <= g
        omega
       ·show r.length+1<r.length+1+1
        omega
     | [],h=>exact absurd h (by show ¬ (1:Int)<((0:Nat):Int);omega)
     | [a],h=>exact absurd h (by show ¬ (1:Int)<((1:Nat):Int);omega)
  ·have hp' : L.popPt (l.g g) st = st := by
    match st,hc with
    | [],_=>rfl
    | [a],_=>rfl
    | b :: a :: r,hc =>
      have f1:(((L.len (b :: a :: r):Nat):Int) - 2).toNat=r.length:=by show (((r.length+1+1:Nat):Int) - 2).toNat=r.length;omega
      have f2:(((L.len (b :: a :: r):Nat):Int) - 1).toNat=r.length+1:=by show (((r.length+1+1:Nat):Int) - 1).toNat=r.length+1;omega
      have g1:L.fromTop (b :: a :: r) (r.length+1)=b:=fromTop_head
      have g2:L.fromTop (b :: a :: r) r.length=a:=(fromTop_tail (by simp)).trans fromTop_head
      have hl:(1:Int)<((L.len (b :: a :: r):Nat):Int):=by show (1:Int)<((r.length+1+1:Nat):Int);omega
      rw [decide_eq_true hl,f1,f2,g1,g2] at hc
      have hc:decide (L.cross a b (l.g g) <= 0)=false:=hc
      show (bif decide (L.cross a b (l.g g) <= 0) then L.popPt (l.g g) (a :: r) else b :: a :: r)=b :: a :: r
      rw [hc];rfl
   have e2:L.chainTo l (g+1)=l.g g :: st:=by
    show l.g g :: L.popPt (l.g g) (L.chainTo l g)=l.g g :: st
    rw [<- q2,hp']
   refine ⟨show (L.len st+1) * 16 <= 140737488355328 by omega,jK,g+1,by omega,rfl,⟨rfl,fun _ _=>rfl⟩,?_,by omega,by omega⟩
   rw [e2]
   refine ⟨rfl,fun i hi=>?_⟩
   have hi:i<L.len st+1:=hi
   unfold appGet
   by_cases h':i<L.len st
   ·rw [if_pos h']
    have:L.fromTop (l.g g :: st) i=L.fromTop st i:=fromTop_tail h'
    rw [this]
   ·rw [if_neg h']
    obtain rfl:i=L.len st:=by omega
    have:L.fromTop (l.g g :: st) (L.len st)=l.g g:=fromTop_head
    rw [this]
 ·have hb':¬ (g:Int)<(l.n:Int):=of_decide_eq_false hge
  obtain rfl:g=l.n:=by omega
  have l1:1 <= L.len (L.chainTo l l.n):=by
   match hh:l.n,h1 with
   | m+1,_=>exact Nat.succ_le_succ (Nat.zero_le _)
  have l2:=len0 l.n
  have e2:(((L.len (L.chainTo l l.n):Nat):Int) - 1).toNat=(L.chain l).n:=by
   show (((L.len (L.chainTo l l.n):Nat):Int) - 1).toNat=L.len (L.chainTo l l.n) - 1
   omega
  exact ⟨jK,⟨by omega,by omega⟩,(0:Nat),⟨e2,fun _ _=>rfl⟩,trivial⟩)
theorem p_chain_ok:SpecOk Tryz.prog 175 p_chain_S:=freshX Tryz.func175 (c:=bodyOf Tryz.f175) (by kernel_rfl) mixed (fun args p q n g hs hp=>by
 unfold p_chain_s at hs
 split at hs
 ·cases hs;exact ⟨_,_,p_chain_vc _ hp.2,(.p (.sl hp.1) .nil),⟨show SpecsL Tryz.prog _ from (SpecsL.cons p_cross_ok p_cross_en SpecsL.nil),rfl,⟨show ItersL Tryz.prog _ from ItersL.nil,(TrsOk.none (fun _=>rfl))⟩⟩⟩
 ·cases hs)
theorem p_chain_en:Enters Tryz.prog 175:=fun args w=>by kernel_rfl
def p_hull_p (l:(L.Sq L.Pt)):Prop:=2 <= l.n/\l.n <= 1000 /\ ∀ i,i<l.n->L.bd (l.g i)
def p_hull_q (l:(L.Sq L.Pt)):Nat->Prop:=fun _=>True
def p_hull_n (l:(L.Sq L.Pt)):Nat->Nat:=fun _=>(L.hull l).n
def p_hull_g (l:(L.Sq L.Pt)):Nat->Nat->List SV:=fun _ k=>[.int .i64 (((L.hull l).g k).x),.int .i64 (((L.hull l).g k).y)]
def p_hull_s:List EV->Option (Prop × (Nat->Prop) × (Nat->Nat) × (Nat->Nat->List SV))
 | [.p (.sl 2 l_n l_g)]=>some ((∀ i,i<l_n->l_g i = [.int .i64 ((ofPt (l_g i)).x),.int .i64 ((ofPt (l_g i)).y)])/\p_hull_p (⟨l_n,fun i=>ofPt (l_g i)⟩:(L.Sq L.Pt)),p_hull_q (⟨l_n,fun i=>ofPt (l_g i)⟩:(L.Sq L.Pt)),p_hull_n (⟨l_n,fun i=>ofPt (l_g i)⟩:(L.Sq L.Pt)),p_hull_g (⟨l_n,fun i=>ofPt (l_g i)⟩:(L.Sq L.Pt)))
 | _=>none
abbrev p_hull_S:SE.Spec:=(specF Nat 0 48 2 p_hull_s)
def p_hull_C:Cfg:={ cC with muts:=[7,18],specs:=lookS [(174,s_values_S),(173,s_sortedF_S),(175,p_chain_S),(177,s_concat_S)],trs:=lookT [(176,s_revP_tr)],ren:=fun k=>k - 998,raws:=[173] }
theorem p_hull_vc (l:(L.Sq L.Pt)) (hp:p_hull_p l):vc Tryz.prog (p_hull_C) (bodyOf Tryz.f143) (st0 Tryz.f143 [.p (.sl 2 l.n (fun i=>[.int .i64 ((l.g i).x),.int .i64 ((l.g i).y)]))]) (retFresh Tryz.prog Tryz.f143 (Nat) (p_hull_q l) 48 2 (p_hull_n l) (p_hull_g l)) :=
 @Eq.mpr _ (let I:=SV.int .i64;let A12:=(true && (true && true));let A9:=(1000000:Nat);let A8:=(1:Nat);let A7:=((∀ (i:Nat),let A15:=[I (l.g i).x,I (l.g i).y];i<l.n->A15=A15)/\l.n <= A9);let A1:=(L.Sq.mk (L.chain (L.Sq.mk l.n fun (i:Nat)=>(L.sorted (L.Sq.mk l.n fun (i:Nat)=>l.g i)).g i)).n fun (i:Nat)=>(L.chain (L.Sq.mk l.n fun (i:Nat)=>(L.sorted (L.Sq.mk l.n fun (i:Nat)=>l.g i)).g i)).g i);A7/\A7 /\ ∀ (t:Nat),True->((∀ (i:Nat),let A6:=((L.sorted (L.Sq.mk l.n fun (i:Nat)=>l.g i)).g i);i<l.n -> [I A6.x,I A6.y] = [I A6.x,I A6.y])/\A8 <= l.n/\l.n <= A9 /\ ∀ (i:Nat),i<l.n->L.bd ((L.sorted (L.Sq.mk l.n fun (i:Nat)=>l.g i)).g i)) /\ ∀ (t:Nat),True->(∀ (i:Nat),i<(L.chain (L.Sq.mk l.n fun (i:Nat)=>(L.sorted (L.Sq.mk l.n fun (i:Nat)=>l.g i)).g i)).n->A12=true) /\ ∃ (t:L.Sq L.Pt),let A3:=(L.Sq.mk (L.chain (L.Sq.mk t.n fun (i:Nat)=>t.g (t.n - A8 - i))).n fun (i:Nat)=>(L.chain (L.Sq.mk t.n fun (i:Nat)=>t.g (t.n - A8 - i))).g i);let A16:=(L.two A1 A3 (0:Nat));(l.n=t.n /\ ∀ (i:Nat),let A11:=((L.sorted (L.Sq.mk l.n fun (i:Nat)=>l.g i)).g i);i<l.n -> [I A11.x,I A11.y] = [I (t.g i).x,I (t.g i).y])/\t.n <= A9 /\ ∀ (u:Nat),True->((∀ (i:Nat),let A10:=(t.g (t.n - A8 - i));i<t.n -> [I A10.x,I A10.y] = [I A10.x,I A10.y])/\A8 <= t.n/\t.n <= A9 /\ ∀ (i:Nat),i<t.n->L.bd (t.g (t.n - A8 - i))) /\ ∀ (t_1:Nat),True->(∀ (i:Nat),i<(L.chain (L.Sq.mk t.n fun (i:Nat)=>t.g (t.n - A8 - i))).n->A12=true)/\(((∀ (i:Nat),let A4:=(L.chain (L.Sq.mk l.n fun (i:Nat)=>(L.sorted (L.Sq.mk l.n fun (i:Nat)=>l.g i)).g i));let A13:=[I (A4.g i).x,I (A4.g i).y];i<A4.n->A13=A13) /\ ∀ (i:Nat),let A5:=(L.chain (L.Sq.mk t.n fun (i:Nat)=>t.g (t.n - A8 - i)));let A14:=[I (A5.g i).x,I (A5.g i).y];i<A5.n->A14=A14)/\A8 <= A16.n+(L.two A1 A3 A8).n/\A16.n <= A9/\(L.two A1 A3 A8).n <= A9) /\ ∀ (t_2:Nat),True -> ∃ (t_3:Nat),((L.catTo (L.two A1 A3) (2:Nat)).n=(L.hull l).n /\ ∀ (i:Nat),let A2:=(L.catTo (L.two (L.Sq.mk (L.chain (L.Sq.mk l.n fun (i:Nat)=>(L.sorted (L.Sq.mk l.n fun (i:Nat)=>l.g i)).g i)).n fun (i:Nat)=>(L.chain (L.Sq.mk l.n fun (i:Nat)=>(L.sorted (L.Sq.mk l.n fun (i:Nat)=>l.g i)).g i)).g i) (L.Sq.mk (L.chain (L.Sq.mk t.n fun (i:Nat)=>t.g (t.n - A8 - i))).n fun (i:Nat)=>(L.chain (L.Sq.mk t.n fun (i:Nat)=>t.g (t.n - A8 - i))).g i)) (2:Nat));i<A2.n -> [I (A2.g i).x,I (A2.g i).y] = [I ((L.hull l).g i).x,I ((L.hull l).g i).y])/\True) (by kernel_rfl) (by
 conv=>zeta
 obtain ⟨h1,hn,hb⟩:=hp
 have sb:∀ i,i<l.n->L.bd ((L.sorted l).g i):=fun i hi=>by
  obtain ⟨j,hj,e⟩:=sorted_mem l hi
  rw [e];exact hb j hj
 have cl:∀ m:L.Sq L.Pt,(L.chain m).n <= m.n:=fun m=>by
  have:=chainTo_len m m.n
  show (L.chainTo m m.n).length - 1 <= m.n
  omega
 have c1:(L.chain (L.sorted l)).n <= l.n:=cl (L.sorted l)
 have c2:(L.chain (L.revd (L.sorted l))).n <= l.n:=cl (L.revd (L.sorted l))
 have c3:1 <= (L.chain (L.sorted l)).n:=chain_pos (l:=L.sorted l) h1
 refine ⟨⟨fun _ _=>rfl,by omega⟩,⟨fun _ _=>rfl,by omega⟩,fun t _=>⟨⟨fun _ _=>rfl,by omega,by omega,sb⟩,fun t _=>⟨fun _ _=>rfl,L.sorted l,⟨rfl,fun _ _=>rfl⟩,show l.n <= 1000000 by omega,fun u _=>⟨⟨fun _ _=>rfl,show 1 <= l.n by omega,show l.n <= 1000000 by omega,fun i hi=>sb _ ?_⟩,fun t1 _=>⟨fun _ _=>rfl,⟨⟨fun _ _=>rfl,fun _ _=>rfl⟩,?_,?_,?_⟩,fun t2 _=>⟨(0:Nat),⟨rfl,fun _ _=>rfl⟩,trivial⟩⟩⟩⟩⟩⟩
 ·have hi:i<l.n:=hi
  show l.n - 1 - i<l.n
  omega
 ·show 1 <= (L.chain (L.sorted l)).n+(L.chain (L.revd (L.sorted l))).n
  omega
 ·show (L.chain (L.sorted l)).n <= 1000000
  omega
 ·show (L.chain (L.revd (L.sorted l))).n <= 1000000
  omega)
theorem p_hull_ok:SpecOk Tryz.prog 143 p_hull_S:=freshX Tryz.func143 (c:=bodyOf Tryz.f143) (by kernel_rfl) mixed (fun args p q n g hs hp=>by
 unfold p_hull_s at hs
 split at hs
 ·cases hs;exact ⟨_,_,p_hull_vc _ hp.2,(.p (.sl hp.1) .nil),⟨show SpecsL Tryz.prog _ from (SpecsL.cons s_values_ok s_values_en (SpecsL.cons s_sortedF_ok s_sortedF_en (SpecsL.cons p_chain_ok p_chain_en (SpecsL.cons s_concat_ok s_concat_en SpecsL.nil)))),rfl,⟨show ItersL Tryz.prog _ from ItersL.nil,⟨show TrsL Tryz.prog _ from (TrsL.cons s_revP_tok s_revP_en TrsL.nil),⟨MksOk.no1 (fun _=>rfl),FamsOk.none (fun _=>rfl)⟩⟩⟩⟩⟩
 ·cases hs)
theorem p_hull_en:Enters Tryz.prog 143:=fun args w=>by kernel_rfl
end Go.Proofs.YtpgaejicfbpcmaaGreat
namespace Go.Proofs.YtpgaejicfbpcmaaGreat
open Go.SE Go.RowKit
set_option maxRecDepth 100000
set_option maxHeartbeats 4000000
set_option linter.unusedVariables false
attribute [local irreducible] vc
structure L.Pocket where
 fr:Int
 to_:Int
 area:Int
def ofPocket:List SV->L.Pocket
 | [.int _ a,.int _ b,.int _ c]=>⟨a,b,c⟩
 | _=>⟨0,0,0⟩
instance:Inhabited L.Pocket:=⟨⟨0,0,0⟩⟩
def encPk (p:L.Pocket):List Int:=[p.fr,p.to_,p.area]
def L.cmpFr (a b:L.Pocket):Int:=L.cmp a.fr b.fr
theorem swoPk:Go.Sort.SWO (Go.Proofs.ltOf L.cmpFr):=by
 have k:∀ x y,Go.Proofs.ltOf L.cmpFr x y=true ↔ x.fr<y.fr:=fun x y=>by
  unfold Go.Proofs.ltOf L.cmpFr L.cmp;rw [decide_eq_true_iff]
  by_cases h1:x.fr<y.fr
  ·simp [h1]
  ·by_cases h2:y.fr<x.fr <;> simp [h1,h2]
 have kf:∀ x y,Go.Proofs.ltOf L.cmpFr x y=false ↔ ¬ x.fr<y.fr:=fun x y=>by
  rw [<- k,Bool.not_eq_true]
 refine ⟨fun x=>?_,fun x y z=>?_,fun x y z=>?_⟩
 ·rw [kf];omega
 ·simp only [k];omega
 ·simp only [kf];omega
def L.pkFrom (l h:L.Sq L.Pt) (k:Nat):Int:=L.ptIdx l (h.g k)
def L.pkTo (l h:L.Sq L.Pt) (k:Nat):Int:=L.ptIdx l (h.g (L.next h.n k))
def L.isPk (l h:L.Sq L.Pt) (k:Nat):Bool:=!decide (L.pkTo l h k=Int.tmod (L.pkFrom l h k+1) (l.n:Int))
def L.back (n:Nat) (to_:Int) (j:Nat):Int:=Int.tmod (to_+(n:Int) - (j:Int)) (n:Int)
def L.pkLen (n:Nat) (fr to_:Int):Nat:=(Int.tmod (to_+(n:Int) - fr) (n:Int)).toNat
def L.pkRow (l:L.Sq L.Pt) (fr to_:Int):L.Sq L.Pt:=⟨L.pkLen l.n fr to_+1,fun j=>l.g (L.back l.n to_ j).toNat⟩
def L.pk (l h:L.Sq L.Pt) (k:Nat):L.Pocket:=⟨L.pkFrom l h k,L.pkTo l h k,L.areaTo (L.pkRow l (L.pkFrom l h k) (L.pkTo l h k)) (L.pkRow l (L.pkFrom l h k) (L.pkTo l h k)).n⟩
def L.pks (l:L.Sq L.Pt):L.Sq L.Pocket:=⟨L.cnt (L.isPk l (L.hull l)) (L.hull l).n,fun i=>L.pk l (L.hull l) (L.selN (L.isPk l (L.hull l)) (L.hull l).n i)⟩
def L.pkN (l:L.Sq L.Pt):Nat:=bif L.validOutline l then (L.pks l).n else 0
def sortPk_ren:Go.Shelf.Ren:=⟨fun | 6=>145 | 15=>179 | 14=>178 | 28=>207 | 29=>208 | 20=>199 | 21=>200 | 22=>201 | 23=>202 | 24=>203 | 25=>204 | 26=>205 | 27=>206 | 46=>225 | 47=>226 | 48=>227 | 49=>228 | 50=>229 | 57=>242 | n=>n,fun | 22=>81 | 24=>89 | 25=>196 | 3=>3 | 39=>232 | 0=>0 | 53=>257 | 55=>259 | 4=>4 | 46=>250 | 45=>249 | 50=>254 | 5=>5 | 9=>9 | 66=>270 | 70=>274 | 76=>283 | 77=>284 | n=>n,fun | n=>n⟩
theorem sortPk_lay:Go.Proofs.SlLaysF0.n6 Tryz.prog sortPk_ren:={
 mixed:=by kernel_rfl
 f6:=⟨Tryz.f145.name,by decide,Tryz.func145.trans (congrArg some (by kernel_rfl))⟩
 f14:=⟨Tryz.f178.name,by decide,Tryz.func178.trans (congrArg some (by kernel_rfl))⟩
 f15:=Tryz.func179.trans (congrArg some (by kernel_rfl))
 f20:=⟨Tryz.f199.name,by decide,Tryz.func199.trans (congrArg some (by kernel_rfl))⟩
 f21:=⟨Tryz.f200.name,by decide,Tryz.func200.trans (congrArg some (by kernel_rfl))⟩
 f22:=⟨Tryz.f201.name,by decide,Tryz.func201.trans (congrArg some (by kernel_rfl))⟩
 f23:=⟨Tryz.f202.name,by decide,Tryz.func202.trans (congrArg some (by kernel_rfl))⟩
 f24:=⟨Tryz.f203.name,by decide,Tryz.func203.trans (congrArg some (by kernel_rfl))⟩
 f25:=⟨Tryz.f204.name,by decide,Tryz.func204.trans (congrArg some (by kernel_rfl))⟩
 f26:=⟨Tryz.f205.name,by decide,Tryz.func205.trans (congrArg some (by kernel_rfl))⟩
 f27:=⟨Tryz.f206.name,by decide,Tryz.func206.trans (congrArg some (by kernel_rfl))⟩
 f28:=Tryz.func207.trans (congrArg some (by kernel_rfl))
 f29:=Tryz.func208.trans (congrArg some (by kernel_rfl))
 f46:=⟨Tryz.f225.name,by decide,Tryz.func225.trans (congrArg some (by kernel_rfl))⟩
 f47:=Tryz.func226.trans (congrArg some (by kernel_rfl))
 f48:=Tryz.func227.trans (congrArg some (by kernel_rfl))
 f49:=⟨Tryz.f228.name,by decide,Tryz.func228.trans (congrArg some (by kernel_rfl))⟩
 f50:=⟨Tryz.f229.name,by decide,Tryz.func229.trans (congrArg some (by kernel_rfl))⟩
 f57:=⟨Tryz.f242.name,by decide,Tryz.func242.trans (congrArg some (by kernel_rfl))⟩
 t0:=Tryz.underlying0
 a0:=Tryz.isAgg0
 z0:=Tryz.sizeOf0
 v0:=Tryz.zeroValue0
 t3:=Tryz.underlying3
 a3:=Tryz.isAgg3
 z3:=Tryz.sizeOf3
 v3:=Tryz.zeroValue3
 t4:=Tryz.underlying4
 a4:=Tryz.isAgg4
 z4:=Tryz.sizeOf4
 v4:=Tryz.zeroValue4
 t5:=Tryz.underlying5
 a5:=Tryz.isAgg5
 z5:=Tryz.sizeOf5
 v5:=Tryz.zeroValue5
 t9:=Tryz.underlying9
 a9:=Tryz.isAgg9
 z9:=Tryz.sizeOf9
 v9:=Tryz.zeroValue9
 t22:=Tryz.underlying81
 a22:=Tryz.isAgg81
 z22:=Tryz.sizeOf81
 v22:=Tryz.zeroValue81
 t25:=Tryz.underlying196
 a25:=Tryz.isAgg196
 z25:=Tryz.sizeOf196
 v25:=Tryz.zeroValue196
 t39:=Tryz.underlying232
 a39:=Tryz.isAgg232
 z39:=Tryz.sizeOf232
 v39:=Tryz.zeroValue232
 t45:=Tryz.underlying249
 a45:=Tryz.isAgg249
 z45:=Tryz.sizeOf249
 v45:=Tryz.zeroValue249
 t46:=Tryz.underlying250
 a46:=Tryz.isAgg250
 z46:=Tryz.sizeOf250
 v46:=Tryz.zeroValue250
 t50:=Tryz.underlying254
 a50:=Tryz.isAgg254
 z50:=Tryz.sizeOf254
 v50:=Tryz.zeroValue254
 t53:=Tryz.underlying257
 a53:=Tryz.isAgg257
 z53:=Tryz.sizeOf257
 v53:=Tryz.zeroValue257
 t55:=Tryz.underlying259
 a55:=Tryz.isAgg259
 z55:=Tryz.sizeOf259
 v55:=Tryz.zeroValue259
 t66:=Tryz.underlying270
 a66:=Tryz.isAgg270
 z66:=Tryz.sizeOf270
 v66:=Tryz.zeroValue270
 t70:=Tryz.underlying274
 a70:=Tryz.isAgg274
 z70:=Tryz.sizeOf274
 v70:=Tryz.zeroValue274
 t76:=Tryz.underlying283
 a76:=Tryz.isAgg283
 z76:=Tryz.sizeOf283
 v76:=Tryz.zeroValue283
 t77:=Tryz.underlying284
 a77:=Tryz.isAgg284
 z77:=Tryz.sizeOf284
 v77:=Tryz.zeroValue284 }
theorem back_bd {n:Nat} {to_:Int} (hn:0<n) (h0:0 <= to_) {j:Nat} (hj:j <= n):0 <= L.back n to_ j/\L.back n to_ j<(n:Int):=by
 unfold L.back
 exact ⟨Int.tmod_nonneg (n:Int) (by omega),Int.tmod_lt_of_pos _ (by omega)⟩
theorem back_0 {n:Nat} {to_:Int} (h0:0 <= to_) (h1:to_<(n:Int)):L.back n to_ 0=to_:=by
 unfold L.back
 rw [show to_+(n:Int) - ((0:Nat):Int)=to_+(n:Int) by omega,Int.tmod_eq_emod_of_nonneg (by omega),Int.add_emod_right,Int.emod_eq_of_lt h0 h1]
theorem back_succ {n:Nat} {to_:Int} (hn:0<n) (h0:0 <= to_) {j:Nat} (hj:j<n):Int.tmod (L.back n to_ j+(n:Int) - 1) (n:Int)=L.back n to_ (j+1):=by
 have hb:=back_bd hn h0 (j:=j) (by omega)
 unfold L.back at hb ⊢
 rw [Int.tmod_eq_emod_of_nonneg (a:=to_+(n:Int) - (j:Int)) (by omega)] at hb ⊢
 rw [Int.tmod_eq_emod_of_nonneg (by omega),Int.tmod_eq_emod_of_nonneg (a:=to_+(n:Int) - ((j+1:Nat):Int)) (by omega)]
 rw [show (to_+(n:Int) - (j:Int)) % (n:Int)+(n:Int) - 1=(to_+(n:Int) - (j:Int)) % (n:Int)+((n:Int) - 1) by omega,Int.emod_add_emod,show to_+(n:Int) - (j:Int)+((n:Int) - 1)=to_+(n:Int) - ((j+1:Nat):Int)+(n:Int) by omega,Int.add_emod_right]
theorem back_end {n:Nat} {fr to_:Int} (hf0:0 <= fr) (hf1:fr<(n:Int)) (ht0:0 <= to_) (ht1:to_<(n:Int)) {j:Nat} (hj:j <= L.pkLen n fr to_):(L.back n to_ j=fr ↔ j=L.pkLen n fr to_)/\L.pkLen n fr to_<n:=by
 unfold L.pkLen L.back at *
 rw [Int.tmod_eq_emod_of_nonneg (a:=to_+(n:Int) - fr) (by omega)] at hj ⊢
 by_cases h:fr <= to_
 ·have e1 : (to_ + (n:Int) - fr) % (n:Int) = to_ - fr := by
   rw [show to_+(n:Int) - fr=to_ - fr+(n:Int) by omega,Int.add_emod_right,Int.emod_eq_of_lt (by omega) (by omega)]
  rw [e1] at hj ⊢
  rw [Int.tmod_eq_emod_of_nonneg (by omega),show to_+(n:Int) - (j:Int)=to_ - (j:Int)+(n:Int) by omega,Int.add_emod_right,Int.emod_eq_of_lt (by omega) (by omega)]
  omega
 ·have e1:(to_+(n:Int) - fr) % (n:Int)=to_+(n:Int) - fr:=Int.emod_eq_of_lt (by omega) (by omega)
  rw [e1] at hj ⊢
  rw [Int.tmod_eq_emod_of_nonneg (by omega)]
  by_cases h2:(j:Int) <= to_
  ·rw [show to_+(n:Int) - (j:Int)=to_ - (j:Int)+(n:Int) by omega,Int.add_emod_right,Int.emod_eq_of_lt (by omega) (by omega)]
   omega
  ·rw [Int.emod_eq_of_lt (by omega) (by omega)]
   omega
theorem pkRow_small {l:L.Sq L.Pt} (hs:L.small l) {fr to_:Int} (hn:l.n <= 900) (hf0:0 <= fr) (hf1:fr<(l.n:Int)) (ht0:0 <= to_) (ht1:to_<(l.n:Int)):L.small (L.pkRow l fr to_):=by
 have hlen:=(back_end hf0 hf1 ht0 ht1 (j:=0) (Nat.zero_le _)).2
 refine ⟨show L.pkLen l.n fr to_+1 <= 1000 by omega,fun i hi=>?_⟩
 have hi:i<L.pkLen l.n fr to_+1:=hi
 have hb:=back_bd (n:=l.n) (by omega) ht0 (j:=i) (by omega)
 exact hs.2 _ (by omega)
theorem pk_idx {l:L.Sq L.Pt} {k:Nat} (hk:k<(L.hull l).n):0 <= L.ptIdx l ((L.hull l).g k)/\L.ptIdx l ((L.hull l).g k)<(l.n:Int):=by
 obtain ⟨i,hi,e⟩:=hull_mem l hk
 obtain ⟨j,hj,e2,_⟩:=ptIdx_of (l:=l) hi
 rw [e,e2];omega
def p_pk1_p (a:L.Pocket) (b:L.Pocket):Prop:=True
def p_pk1_r (a:L.Pocket) (b:L.Pocket):SV:=.int .i64 (L.cmpFr a b)
def p_pk1_s:List EV->Option (Prop × SV)
 | [.p (.agg [.int .i64 a_fr,.int .i64 a_to_,.int .i64 a_area]),.p (.agg [.int .i64 b_fr,.int .i64 b_to_,.int .i64 b_area])]=>some (p_pk1_p (⟨a_fr,a_to_,a_area⟩:L.Pocket) (⟨b_fr,b_to_,b_area⟩:L.Pocket),p_pk1_r (⟨a_fr,a_to_,a_area⟩:L.Pocket) (⟨b_fr,b_to_,b_area⟩:L.Pocket))
 | _=>none
abbrev p_pk1_S:SE.Spec:=(specO p_pk1_s)
def p_pk1_C:Cfg:={ cC with specs:=lookS [(147,c_cmp_S)] }
theorem p_pk1_vc (a:L.Pocket) (b:L.Pocket) (hp:p_pk1_p a b):vc Tryz.prog (p_pk1_C) (bodyOf Tryz.f146) (st0 Tryz.f146 [.p (.agg [.int .i64 a.fr,.int .i64 a.to_,.int .i64 a.area]),.p (.agg [.int .i64 b.fr,.int .i64 b.to_,.int .i64 b.area])]) (retFn Tryz.prog Tryz.f146 (p_pk1_r a b)) :=
 @Eq.mpr _ (True/\L.cmp a.fr b.fr=L.cmpFr a b) (by kernel_rfl) (by
 exact ⟨trivial,rfl⟩)
theorem p_pk1_ok:SpecOk Tryz.prog 146 p_pk1_S:=fnX Tryz.func146 (c:=bodyOf Tryz.f146) (by kernel_rfl) mixed (fun args p r hs hp=>by
 unfold p_pk1_s at hs
 split at hs
 ·cases hs;exact ⟨_,_,p_pk1_vc _ _ hp,(.same _ (.same _ .nil)),⟨show SpecsL Tryz.prog _ from (SpecsL.cons c_cmp_ok c_cmp_en SpecsL.nil),rfl,⟨show ItersL Tryz.prog _ from ItersL.nil,(TrsOk.none (fun _=>rfl))⟩⟩⟩
 ·cases hs)
theorem p_pk1_en:Enters Tryz.prog 146:=fun args w=>by kernel_rfl
abbrev s_sortK_tr:Tr:=sortTr 89 3 146 1005 encPk L.cmpFr
theorem s_sortK_tok:TrOk Tryz.prog 145 s_sortK_tr:=sortTr_ok (enc:=encPk) sortPk_lay (by decide) (fun w=>Tryz.isAgg89 w) (fun w=>Tryz.sizeOf89 w) (fun _=>rfl) swoPk p_pk1_ok p_pk1_en (fun x y=>show preO p_pk1_s [.p (.agg [.int .i64 x.fr,.int .i64 x.to_,.int .i64 x.area]),.p (.agg [.int .i64 y.fr,.int .i64 y.to_,.int .i64 y.area])] from trivial) (fun x y=>rfl) _ _
theorem s_sortK_en:Enters Tryz.prog 145:=fun args w=>by kernel_rfl
def p_Pockets_p (l:(L.Sq L.Pt)):Prop:=l.n <= 1000000
def p_Pockets_q (l:(L.Sq L.Pt)):(Nat->L.Pocket)->Prop:=fun u=>L.validOutline l=true->SortedBy L.cmpFr (L.pks l).n (L.pks l).g u
def p_Pockets_r (l:(L.Sq L.Pt)):(Nat->L.Pocket)->SV:=fun u=>.tup [.sl 3 (L.pkN l) (fun i=>[.int .i64 ((u i).fr),.int .i64 ((u i).to_),.int .i64 ((u i).area)]),.int .i64 (bif L.validOutline l then 0 else 1)]
def p_Pockets_s:List EV->Option (Prop × ((Nat->L.Pocket)->Prop) × ((Nat->L.Pocket)->SV))
 | [.p (.sl 2 l_n l_g)]=>some ((∀ i,i<l_n->l_g i = [.int .i64 ((ofPt (l_g i)).x),.int .i64 ((ofPt (l_g i)).y)])/\p_Pockets_p (⟨l_n,fun i=>ofPt (l_g i)⟩:(L.Sq L.Pt)),p_Pockets_q (⟨l_n,fun i=>ofPt (l_g i)⟩:(L.Sq L.Pt)),p_Pockets_r (⟨l_n,fun i=>ofPt (l_g i)⟩:(L.Sq L.Pt)))
 | _=>none
abbrev p_Pockets_S:SE.Spec:=(specR (Nat->L.Pocket) (fun _=>⟨0,0,0⟩) p_Pockets_s)
def p_Pockets_C:Cfg:={ cC with muts:=[4,5,7,40],specs:=lookS [(91,p_ValidOutline_S),(143,p_hull_S),(136,p_triples_S),(144,s_idxPt_S),(131,p_area_S),(146,p_pk1_S)],iters:=lookI [(168,p_triples1_it)],nils:=lookM [(5,[(4,68,89,3)])],trs:=lookT [(145,s_sortK_tr)],ren:=fun k=>k - 937 }
theorem p_Pockets_vc (l:(L.Sq L.Pt)) (hp:p_Pockets_p l):vc Tryz.prog ({ p_Pockets_C with loops:=lookL [(11,{ T:=Nat × Int × Int,keep:=[1,4,5,8,9,10],keepO:=[4,5,68],tie:=fun g=>[(8,.int .i64 g.2.1),(9,.int .i64 g.2.2)],chg:=fun g=>[(11,.p (.int .i64 (L.back l.n g.2.2 g.1)))],own:=fun g=>[(40,.row 48 2 (g.1+1) (fun j=>[.int .i64 ((l.g (L.back l.n g.2.2 j).toNat).x),.int .i64 ((l.g (L.back l.n g.2.2 j).toNat).y)]))],inv:=fun g=>(0 <= g.2.1/\g.2.1<(l.n:Int))/\(0 <= g.2.2/\g.2.2<(l.n:Int))/\g.1 <= L.pkLen l.n g.2.1 g.2.2,mu:=fun g=>l.n - g.1 })],rfs:=lookR [(6,{ T:=Nat,keep:=[1,4,5],keepO:=[5],own:=fun k _=>[(4,.blk 81 [.row 68]),(68,.row 89 3 (L.cnt (L.isPk l (L.hull l)) k) (fun i=>[.int .i64 ((L.pk l (L.hull l) (L.selN (L.isPk l (L.hull l)) k i)).fr),.int .i64 ((L.pk l (L.hull l) (L.selN (L.isPk l (L.hull l)) k i)).to_),.int .i64 ((L.pk l (L.hull l) (L.selN (L.isPk l (L.hull l)) k i)).area)]))],inv:=fun k _=>k <= (L.hull l).n })] }) (bodyOf Tryz.f103) (st0 Tryz.f103 [.p (.sl 2 l.n (fun i=>[.int .i64 ((l.g i).x),.int .i64 ((l.g i).y)]))]) (retRel Tryz.prog Tryz.f103 ((Nat->L.Pocket)) (p_Pockets_q l) (p_Pockets_r l)) :=
 @Eq.mpr _ (let I:=SV.int .i64;let T:=Int.toNat;let M:=Int.tmod;let A46:=(L.pks l);let A45:=(0:Nat);let A44:=(140737488355328:Nat);let A34:=(nat_lit 1);let A33:=(nat_lit 4);let A32:=(nat_lit 5);let A31:=(nat_lit 0);let A20:=(1:Int);let A18:=(0:Int);let A17:=(1:Nat);let A8:=(L.hull l);let A7:=(∀ (i:Nat),let A43:=[I (l.g i).x,I (l.g i).y];i<l.n->A43=A43);let A27:=(A7/\l.n <= (1000000:Nat));let A6:=(↑l.n:Int);let A4:=[SV.sl (nat_lit 2) l.n fun (i:Nat)=>[I (l.g i).x,I (l.g i).y]];let A2:=(L.isPk l A8);let A1:=(L.Sq.mk l.n fun (i:Nat)=>l.g i);let A9:=(L.hull A1);let A5:=((∀ (i:Nat),let A12:=(L.hull (L.Sq.mk l.n fun (i:Nat)=>l.g i));let A39:=[I (A12.g i).x,I (A12.g i).y];i<A12.n->A39=A39)/\A9.n <= (1000:Nat));A27/\((!L.validOutline A1)=true -> ∃ (t:Nat->L.Pocket),L.pkN l=A45/\(A20=bif L.validOutline l then A18 else A20)/\(L.validOutline l=true->SortedBy L.cmpFr A46.n A46.g t))/\((!L.validOutline A1)=false->(A7/\(2:Nat) <= l.n/\l.n <= (1000:Nat) /\ ∀ (i:Nat),i<l.n->L.bd (l.g i)) /\ ∀ (t:Nat),True->A5/\(A5 /\ ∃ (t:Nat),(nat_lit 0=L.cnt A2 A45 /\ ∀ (i:Nat),let A21:=(L.pk l A8 (L.selN A2 A45 i));i<nat_lit 0 -> [] = [I A21.fr,I A21.to_,I A21.area])/\A6=A6/\A45 <= A8.n)/\(∀ (k t_1:Nat) (vk:Nat->Go.Value),let A47:=(k+A17);let A36:=((↑k:Int)+A20);let A13:=(A9.g (T (↑k:Int)));let A35:=(L.ptIdx A1 A13+A20);let A3:=(T (M A36 (↑A9.n:Int)));let A26:=(A9.g A3);k<A9.n->k <= A8.n->(A18 <= A20/\A20<(↑(3:Nat):Int))/\A27/\(A18 <= (2:Int)/\(2:Int)<(↑(3:Nat):Int))/\A27/\InK .i64 A35/\A6 ≠ A18/\(decide (L.ptIdx A1 A26=M A35 A6)=true -> ∃ (t':Nat),nat_lit 0=nat_lit 0/\nat_lit 0=nat_lit 0/\SV.ref A4 A31=SV.ref A4 A31/\vk A32=vk A32/\vk A33=vk A33/\vk A34=vk A34/\(L.cnt A2 k=L.cnt A2 A47 /\ ∀ (i:Nat),let A28:=(L.pk l A8 (L.selN A2 k i));let A22:=(L.pk l A8 (L.selN A2 A47 i));i<L.cnt A2 k -> [I A28.fr,I A28.to_,I A28.area] = [I A22.fr,I A22.to_,I A22.area])/\A6=A6/\k+A17 <= A8.n)/\(decide (L.ptIdx A1 A26=M A35 A6)=false->(A18 <= L.ptIdx A1 A26/\L.ptIdx A1 A26<A6)/\(∃ (g:Nat × Int × Int),L.ptIdx A1 A26=L.back l.n g.2.2 g.1/\(nat_lit 1=g.1+A17 /\ ∀ (i:Nat),let A40:=(l.g (T (L.back l.n g.2.2 i)));let A23:=(L.Sq.mk l.n fun (i:Nat)=>l.g i);let A10:=(l.g (T (L.ptIdx A23 ((L.hull A23).g (T (M A36 (↑(L.hull A23).n:Int)))))));i<nat_lit 1->rowsOf [I A10.x,I A10.y] (nat_lit 2) i = [I A40.x,I A40.y])/\L.ptIdx A1 A13=g.2.1/\L.ptIdx A1 A26=g.2.2/\(A18 <= g.2.1/\g.2.1<A6)/\(A18 <= g.2.2/\g.2.2<A6)/\g.1 <= L.pkLen l.n g.2.1 g.2.2) /\ ∀ (g:Nat × Int × Int),let A42:=(g.1+A17);let A25:=(!decide (L.back l.n g.2.2 g.1=L.ptIdx A1 A13));let A11:=(L.back l.n g.2.2 g.1+A6 - A20);L.ptIdx A1 A13=g.2.1/\L.ptIdx A1 A26=g.2.2/\(A18 <= g.2.1/\g.2.1<A6)/\(A18 <= g.2.2/\g.2.2<A6)/\g.1 <= L.pkLen l.n g.2.1 g.2.2->(A25=true->InK .i64 (L.back l.n g.2.2 g.1+A6)/\InK .i64 A11/\A6 ≠ A18/\(A18 <= M A11 A6/\M A11 A6<A6)/\(g.1+A17+nat_lit 1) * nat_lit 16 <= A44 /\ ∃ (g':Nat × Int × Int),M A11 A6=L.back l.n g'.2.2 g'.1/\L.ptIdx A1 A26=L.ptIdx A1 A26/\L.ptIdx A1 A13=L.ptIdx A1 A13/\nat_lit 0=nat_lit 0/\nat_lit 0=nat_lit 0/\SV.ref A4 A31=SV.ref A4 A31/\vk A32=vk A32/\vk A33=vk A33/\vk A34=vk A34/\(g.1+A17+nat_lit 1=g'.1+A17 /\ ∀ (i:Nat),let A38:=(l.g (T (L.back l.n g'.2.2 i)));i<g.1+A17+nat_lit 1->appGet A42 (fun (j:Nat)=>let A41:=(l.g (T (L.back l.n g.2.2 j)));[I A41.x,I A41.y]) (fun (x:Nat)=>[I (l.g (T (M A11 A6))).x,I (l.g (T (M A11 A6))).y]) i = [I A38.x,I A38.y])/\(L.cnt A2 k=L.cnt A2 k /\ ∀ (i:Nat),let A16:=(L.pk l A8 (L.selN A2 k i));let A37:=[I A16.fr,I A16.to_,I A16.area];i<L.cnt A2 k->A37=A37)/\A6=A6/\(L.ptIdx A1 A13=g'.2.1/\L.ptIdx A1 A26=g'.2.2/\(A18 <= g'.2.1/\g'.2.1<A6)/\(A18 <= g'.2.2/\g'.2.2<A6)/\g'.1 <= L.pkLen l.n g'.2.1 g'.2.2)/\l.n - g'.1<l.n - g.1)/\(A25=false->((∀ (i:Nat),let A19:=(l.g (T (L.back l.n g.2.2 i)));i<g.1+A17 -> [I A19.x,I A19.y] = [I A19.x,I A19.y])/\L.small (L.Sq.mk A42 fun (i:Nat)=>l.g (T (L.back l.n g.2.2 i))))/\(L.cnt A2 k+nat_lit 1) * nat_lit 24 <= A44 /\ ∃ (t':Nat),nat_lit 0=nat_lit 0/\nat_lit 0=nat_lit 0/\SV.ref A4 A31=SV.ref A4 A31/\vk A32=vk A32/\vk A33=vk A33/\vk A34=vk A34/\(L.cnt A2 k+nat_lit 1=L.cnt A2 A47 /\ ∀ (i:Nat),let A24:=(L.pk l A8 (L.selN A2 A47 i));let A15:=(L.Sq.mk l.n fun (i:Nat)=>l.g i);let A48:=(L.hull A15);i<L.cnt A2 k+nat_lit 1->appGet (L.cnt A2 k) (fun (i:Nat)=>let A29:=(L.pk l A8 (L.selN A2 k i));[I A29.fr,I A29.to_,I A29.area]) (fun (x:Nat)=>[I (L.ptIdx A15 (A48.g (T (↑k:Int)))),I (L.ptIdx A15 (A48.g (T (M A36 (↑A48.n:Int))))),I (L.areaTo (L.Sq.mk A42 fun (i:Nat)=>l.g (T (L.back l.n g.2.2 i))) A42)]) i = [I A24.fr,I A24.to_,I A24.area])/\A6=A6/\k+A17 <= A8.n))) /\ ∀ (t:Nat),A9.n <= A8.n -> ∃ (t:Nat × (Nat->L.Pocket)),SV.clo (nat_lit 146) []=SV.clo (146:Nat) []/\(L.cnt A2 A9.n=t.1 /\ ∀ (i:Nat),let A30:=(L.hull (L.Sq.mk l.n fun (i:Nat)=>l.g i));let A14:=(L.pk l A8 (L.selN A2 A30.n i));i<L.cnt A2 A30.n -> [I A14.fr,I A14.to_,I A14.area] = [I (t.2 i).fr,I (t.2 i).to_,I (t.2 i).area])/\t.1 <= (1000000:Nat) /\ ∀ (u:Nat->L.Pocket),SortedBy L.cmpFr t.1 t.2 u -> ∃ (t_1:Nat->L.Pocket),(t.1=L.pkN l /\ ∀ (i:Nat),i<t.1 -> [I (u i).fr,I (u i).to_,I (u i).area] = [I (t_1 i).fr,I (t_1 i).to_,I (t_1 i).area])/\(A18=bif L.validOutline l then A18 else A20)/\(L.validOutline l=true->SortedBy L.cmpFr A46.n A46.g t_1))) (by kernel_rfl) (by
 conv=>zeta
 have hn:l.n <= 1000000:=hp
 refine ⟨⟨fun _ _=>rfl,hn⟩,fun h=>?_,fun h=>?_⟩
 ·have hv:L.validOutline l=false:=by simpa using (show (!L.validOutline l)=true from h)
  unfold L.pkN
  rw [hv];exact ⟨fun _=>⟨0,0,0⟩,rfl,rfl,fun h=>(by cases h)⟩
 have hv:L.validOutline l=true:=by simpa using (show (!L.validOutline l)=false from h)
 obtain ⟨n3,n24,hsm,hbd⟩:=validOutline_of hv
 have hHN:(L.hull l).n <= 1000:=by
  have cl:∀ m:L.Sq L.Pt,(L.chain m).n <= m.n:=fun m=>by
   have:=chainTo_len m m.n
   show (L.chainTo m m.n).length - 1 <= m.n
   omega
  have c1:(L.chain (L.sorted l)).n <= l.n:=cl (L.sorted l)
  have c2:(L.chain (L.revd (L.sorted l))).n <= l.n:=cl (L.revd (L.sorted l))
  show 0+(L.chain (L.sorted l)).n+(L.chain (L.revd (L.sorted l))).n <= 1000
  omega
 have hck:∀ k,L.cnt (L.isPk l (L.hull l)) k <= k:=fun k=>cnt_le
 refine ⟨⟨fun _ _=>rfl,by omega,by omega,hbd.2⟩,fun t _=>⟨⟨fun _ _=>rfl,hHN⟩,⟨⟨fun _ _=>rfl,hHN⟩,(0:Nat),⟨rfl,fun i hi=>absurd hi (Nat.not_lt_zero _)⟩,rfl,Nat.zero_le _⟩,fun k t1 vk hk hk'=>?_,fun t _=>?_⟩⟩
 ·have hk:k<(L.hull l).n:=hk
  have e0:((k:Int)).toNat=k:=by omega
  have e1:(Int.tmod ((k:Int)+1) ((L.hull l).n:Int)).toNat=L.next (L.hull l).n k:=rfl
  have hf:=pk_idx (l:=l) hk
  have ht:=pk_idx (l:=l) (k:=L.next (L.hull l).n k) (next_lt (by omega))
  have eF:L.ptIdx l ((L.hull l).g k)=L.pkFrom l (L.hull l) k:=rfl
  have eT:L.ptIdx l ((L.hull l).g (L.next (L.hull l).n k))=L.pkTo l (L.hull l) k:=rfl
  rw [eF] at hf
  rw [eT] at ht
  rw [e0,e1,eF,eT]
  have hkk:=hck k
  refine ⟨⟨by decide,by decide⟩,⟨fun _ _=>rfl,hn⟩,⟨by decide,by decide⟩,⟨fun _ _=>rfl,hn⟩,jK,by omega,fun hc=>?_,fun hc=>?_⟩
  ·have hp:L.isPk l (L.hull l) k=false:=by unfold L.isPk;rw [hc];rfl
   refine ⟨(0:Nat),rfl,rfl,rfl,rfl,rfl,rfl,⟨(cnt_not hp).symm,fun i hi=>?_⟩,rfl,by omega⟩
   rw [selN_not hp]
  have hp:L.isPk l (L.hull l) k=true:=by unfold L.isPk;rw [hc];rfl
  refine ⟨ht,⟨(0,L.pkFrom l (L.hull l) k,L.pkTo l (L.hull l) k),(back_0 ht.1 ht.2).symm,⟨rfl,fun i hi=>?_⟩,rfl,rfl,hf,ht,Nat.zero_le _⟩,fun g hg=>?_⟩
  ·have hi:i<1:=hi
   obtain rfl:i=0:=by omega
   dsimp only
   rw [back_0 ht.1 ht.2];rfl
  obtain ⟨j,fr,to_⟩:=g
  dsimp only at hg ⊢
  obtain ⟨e2,e3,_,_,hj⟩:=hg
  rw [<- e2,<- e3] at *
  have hlen:=back_end hf.1 hf.2 ht.1 ht.2 hj
  have hb:=back_bd (n:=l.n) (by omega) ht.1 (j:=j) (by omega)
  refine ⟨fun hd=>?_,fun hd=>?_⟩
  ·have hd : L.back l.n (L.pkTo l (L.hull l) k) j ≠ L.pkFrom l (L.hull l) k := fun e => by
    rw [decide_eq_true e] at hd;cases hd
   have hne:j ≠ L.pkLen l.n (L.pkFrom l (L.hull l) k) (L.pkTo l (L.hull l) k):=fun e=>hd (hlen.1.2 e)
   have hs:=back_succ (n:=l.n) (by omega) ht.1 (j:=j) (by omega)
   have hb2:=back_bd (n:=l.n) (by omega) ht.1 (j:=j+1) (by omega)
   rw [hs]
   refine ⟨jK,jK,by omega,hb2,show (j+1+1) * 16 <= 140737488355328 by omega,(j+1,L.pkFrom l (L.hull l) k,L.pkTo l (L.hull l) k),rfl,rfl,rfl,rfl,rfl,rfl,rfl,rfl,rfl,⟨rfl,fun i hi=>?_⟩,⟨rfl,fun _ _=>rfl⟩,rfl,⟨rfl,rfl,hf,ht,by show j+1 <= L.pkLen l.n (L.pkFrom l (L.hull l) k) (L.pkTo l (L.hull l) k);omega⟩,by show l.n - (j+1)<l.n - j;omega⟩
   have hi:i<j+1+1:=hi
   unfold appGet
   by_cases h':i<j+1
   ·rw [if_pos h']
   ·rw [if_neg h']
    obtain rfl:i=j+1:=by omega
    rfl
  ·have hd : L.back l.n (L.pkTo l (L.hull l) k) j = L.pkFrom l (L.hull l) k := by
    apply Decidable.byContradiction
    intro e
    rw [decide_eq_false e] at hd;cases hd
   have hje:=hlen.1.1 hd
   have hrow:(L.Sq.mk (j+1) fun (i:Nat)=>l.g (L.back l.n (L.pkTo l (L.hull l) k) i).toNat)=L.pkRow l (L.pkFrom l (L.hull l) k) (L.pkTo l (L.hull l) k):=by
    rw [hje];rfl
   have hj1:j+1=(L.pkRow l (L.pkFrom l (L.hull l) k) (L.pkTo l (L.hull l) k)).n:=by rw [<- hrow]
   rw [hrow,hj1]
   refine ⟨⟨fun _ _=>rfl,pkRow_small hsm (by omega) hf.1 hf.2 ht.1 ht.2⟩,show (L.cnt (L.isPk l (L.hull l)) k+1) * 24 <= 140737488355328 by omega,(0:Nat),rfl,rfl,rfl,rfl,rfl,rfl,⟨(cnt_yes hp).symm,fun i hi=>?_⟩,rfl,by omega⟩
   have hi:i<L.cnt (L.isPk l (L.hull l)) k+1:=hi
   unfold appGet
   by_cases h':i<L.cnt (L.isPk l (L.hull l)) k
   ·rw [if_pos h',selN_old (Nat.ne_of_lt h')]
   ·rw [if_neg h']
    obtain rfl:i=L.cnt (L.isPk l (L.hull l)) k:=by omega
    rw [selN_new hp];rfl
 ·have hcn:=hck (L.hull l).n
  refine ⟨((L.pks l).n,(L.pks l).g),rfl,⟨rfl,fun _ _=>rfl⟩,show L.cnt (L.isPk l (L.hull l)) (L.hull l).n <= 1000000 by omega,fun u hu=>⟨u,⟨?_,fun _ _=>rfl⟩,?_,fun _=>hu⟩⟩
  ·unfold L.pkN;rw [hv];rfl
  ·rw [hv];rfl)
theorem p_Pockets_ok:SpecOk Tryz.prog 103 p_Pockets_S:=relX Tryz.func103 (c:=bodyOf Tryz.f103) (by kernel_rfl) mixed (fun args p q r hs hp=>by
 unfold p_Pockets_s at hs
 split at hs
 ·cases hs;exact ⟨_,_,p_Pockets_vc _ hp.2,(.p (.sl hp.1) .nil),⟨show SpecsL Tryz.prog _ from (SpecsL.cons p_ValidOutline_ok p_ValidOutline_en (SpecsL.cons p_hull_ok p_hull_en (SpecsL.cons p_triples_ok p_triples_en (SpecsL.cons s_idxPt_ok s_idxPt_en (SpecsL.cons p_area_ok p_area_en (SpecsL.cons p_pk1_ok p_pk1_en SpecsL.nil)))))),rfl,⟨show ItersL Tryz.prog _ from (ItersL.cons p_triples1_itok p_triples1_en ItersL.nil),⟨show TrsL Tryz.prog _ from (TrsL.cons s_sortK_tok s_sortK_en TrsL.nil),⟨MksOk.no1 (fun _=>rfl),FamsOk.none (fun _=>rfl)⟩⟩⟩⟩⟩
 ·cases hs)
theorem p_Pockets_en:Enters Tryz.prog 103:=fun args w=>by kernel_rfl
end Go.Proofs.YtpgaejicfbpcmaaGreat
namespace Go.Proofs.YtpgaejicfbpcmaaGreat
open Go.SE Go.RowKit
set_option maxRecDepth 100000
set_option maxHeartbeats 4000000
set_option linter.unusedVariables false
attribute [local irreducible] vc
end Go.Proofs.YtpgaejicfbpcmaaGreat
namespace Go.Proofs.YtpgaejicfbpcmaaGreat
open Go.SE Go.RowKit
set_option maxRecDepth 100000
set_option maxHeartbeats 4000000
set_option linter.unusedVariables false
attribute [local irreducible] vc
end Go.Proofs.YtpgaejicfbpcmaaGreat
namespace Go.Proofs.YtpgaejicfbpcmaaGreat
open Go.SE Go.RowKit
set_option maxRecDepth 100000
set_option maxHeartbeats 4000000
set_option linter.unusedVariables false
attribute [local irreducible] vc
end Go.Proofs.YtpgaejicfbpcmaaGreat
namespace Go.Proofs.YtpgaejicfbpcmaaGreat
open Go.SE Go.RowKit
set_option maxRecDepth 100000
set_option maxHeartbeats 4000000
set_option linter.unusedVariables false
attribute [local irreducible] vc
theorem outline_all {l:L.Sq L.Pt} (hv:L.validOutline l=true):(∀ i,i<l.n->L.validPt (l.g i)=true) /\ ∀ i,i<l.n->L.cross (l.g (L.prev l.n i)) (l.g i) (l.g (L.next l.n i)) ≠ 0:=by
 unfold L.validOutline at hv
 rw [Bool.and_eq_true,Bool.and_eq_true] at hv
 constructor
 ·have h:=hv.1
  unfold L.valid3 at h
  cases h2:L.validPts l with
  | true=>exact allB_iff.1 h2
  | false =>
    rw [h2] at h
    revert h
    cases L.within (l.n:Int) 3 24 <;> intro h <;> cases h
 ·intro i hi e
  have h:=allB_iff.1 hv.2.1 i hi
  unfold L.corner at h
  rw [decide_eq_true e] at h
  cases h
end Go.Proofs.YtpgaejicfbpcmaaGreat
namespace Go.Proofs.YtpgaejicfbpcmaaGreat
open Go.SE Go.RowKit
set_option maxRecDepth 100000
set_option maxHeartbeats 4000000
set_option linter.unusedVariables false
attribute [local irreducible] vc
end Go.Proofs.YtpgaejicfbpcmaaGreat
namespace Go.Proofs.YtpgaejicfbpcmaaGreat
open Go.SE Go.RowKit
set_option maxRecDepth 100000
set_option maxHeartbeats 4000000
set_option linter.unusedVariables false
attribute [local irreducible] vc
def L.oE (l:L.Sq L.Pt):Int:=bif L.validOutline l then 0 else 1
def L.lowTo (l:L.Sq L.Pt):Nat->L.Pt
 | 0=>l.g 0
 | k+1=>⟨min (L.lowTo l k).x (l.g k).x,min (L.lowTo l k).y (l.g k).y⟩
def L.highTo (l:L.Sq L.Pt):Nat->L.Pt
 | 0=>l.g 0
 | k+1=>⟨max (L.highTo l k).x (l.g k).x,max (L.highTo l k).y (l.g k).y⟩
def L.boxL (l:L.Sq L.Pt):L.Pt:=bif L.validOutline l then L.lowTo l l.n else ⟨0,0⟩
def L.boxH (l:L.Sq L.Pt):L.Pt:=bif L.validOutline l then L.highTo l l.n else ⟨0,0⟩
structure L.Want where
 id:Int
 colour:Int
 grain:Int
 ol:L.Sq L.Pt
structure L.Sheet where
 id:Int
 colour:Int
 w:Int
 h:Int
 grain:Int
structure L.Size where
 w:Int
 h:Int
def ofWant:List SV->L.Want
 | [.int _ a,.int _ b,.int _ c,.sl _ n g]=>⟨a,b,c,⟨n,fun i=>ofPt (g i)⟩⟩
 | _=>⟨0,0,0,⟨0,fun _=>⟨0,0⟩⟩⟩
def okWant:List SV->Prop
 | [.int .i64 _,.int .i64 _,.int .i64 _,.sl 2 n g]=>∀ i,i<n->g i = [.int .i64 (ofPt (g i)).x,.int .i64 (ofPt (g i)).y]
 | _=>False
def ofSheet:List SV->L.Sheet
 | [.int _ a,.int _ b,.int _ c,.int _ d,.int _ e]=>⟨a,b,c,d,e⟩
 | _=>⟨0,0,0,0,0⟩
def ofSize:List SV->L.Size
 | [.int _ a,.int _ b]=>⟨a,b⟩
 | _=>⟨0,0⟩
theorem want_row {l:List SV} (h:okWant l):l.length=4 /\ ∀ j,j<4->Ext (SV.at l j) (SV.at [.int .i64 (ofWant l).id,.int .i64 (ofWant l).colour,.int .i64 (ofWant l).grain,.sl 2 (ofWant l).ol.n (fun i=>[.int .i64 ((ofWant l).ol.g i).x,.int .i64 ((ofWant l).ol.g i).y])] j):=by
 unfold okWant at h
 split at h
 ·rename_i a b c n g
  refine ⟨rfl,fun j hj=>?_⟩
  match j,hj with
  | 0,_=>exact .refl _
  | 1,_=>exact .refl _
  | 2,_=>exact .refl _
  | 3,_=>exact .sl h
 ·exact h.elim
theorem Want_ext {n:Nat} {g:Nat->List SV} (h:∀ i,i<n->okWant (g i)):Ext (.sl 4 n g) (.sl 4 n (fun i=>[.int .i64 (ofWant (g i)).id,.int .i64 (ofWant (g i)).colour,.int .i64 (ofWant (g i)).grain,.sl 2 (ofWant (g i)).ol.n (fun i1=>[.int .i64 ((ofWant (g i)).ol.g i1).x,.int .i64 ((ofWant (g i)).ol.g i1).y])])) :=
 .sl2 (fun i hi=>by rw [(want_row (h i hi)).1];rfl) (fun i hi j hj=>(want_row (h i hi)).2 j (by rw [(want_row (h i hi)).1] at hj;exact hj))
def L.vSheet (s:L.Sheet):Bool:=bif (bif (bif (bif L.within s.id 1 65535 then L.within s.colour 1 16 else false) then L.within s.w 1 4096 else false) then L.within s.h 1 4096 else false) then L.within s.grain 0 2 else false
def L.vWant (w:L.Want):Bool:=bif (bif (bif L.within w.id 1 65535 then L.within w.colour 1 16 else false) then L.within w.grain 0 2 else false) then L.validOutline w.ol else false
def L.alw (own grain turn:Int):Bool:=bif (bif decide (own=0) then true else decide (grain=0)) then true else (decide (turn=0) == decide (own=grain))
def L.badGT (grain turn:Int):Bool:=bif !L.within grain 0 2 then true else !L.within turn 0 1
def L.alwE (w:L.Want) (grain turn:Int):Int:=bif !L.vWant w then 50 else bif L.badGT grain turn then 1 else 0
def L.alwB (w:L.Want) (grain turn:Int):Bool:=bif !L.vWant w then false else bif L.badGT grain turn then false else L.alw w.grain grain turn
def L.box (l:L.Sq L.Pt) (turn:Int):L.Size:=bif decide (turn=1) then ⟨(L.boxH l).y - (L.boxL l).y,(L.boxH l).x - (L.boxL l).x⟩ else ⟨(L.boxH l).x - (L.boxL l).x,(L.boxH l).y - (L.boxL l).y⟩
def L.boxE (w:L.Want) (turn:Int):Int:=bif !L.vWant w then 50 else bif !L.within turn 0 1 then 1 else 0
def L.boxOf (w:L.Want) (turn:Int):L.Size:=bif decide (L.boxE w turn=0) then L.box w.ol turn else ⟨0,0⟩
theorem vPt_iff {p:L.Pt}:L.validPt p=true ↔ 0 <= p.x/\p.x <= 4096/\0 <= p.y/\p.y <= 4096:=by
 unfold L.validPt L.within
 rw [Bool.and_eq_true,Bool.and_eq_true,Bool.and_eq_true,decide_eq_true_eq,decide_eq_true_eq,decide_eq_true_eq,decide_eq_true_eq]
 omega
theorem vPts_of {l:L.Sq L.Pt} (hv:L.validOutline l=true):∀ i,i<l.n->L.validPt (l.g i)=true:=(outline_all hv).1
theorem lowTo_v {l:L.Sq L.Pt} (hn:0<l.n) (h:∀ i,i<l.n->L.validPt (l.g i)=true):∀ k,k <= l.n->L.validPt (L.lowTo l k)=true
 | 0,_=>h 0 hn
 | k+1,hk=>by
   have h1:=vPt_iff.1 (lowTo_v hn h k (by omega))
   have h2:=vPt_iff.1 (h k (by omega))
   rw [vPt_iff]
   simp only [L.lowTo]
   omega
theorem highTo_v {l:L.Sq L.Pt} (hn:0<l.n) (h:∀ i,i<l.n->L.validPt (l.g i)=true):∀ k,k <= l.n->L.validPt (L.highTo l k)=true
 | 0,_=>h 0 hn
 | k+1,hk=>by
   have h1:=vPt_iff.1 (highTo_v hn h k (by omega))
   have h2:=vPt_iff.1 (h k (by omega))
   rw [vPt_iff]
   simp only [L.highTo]
   omega
theorem lowTo_le {l:L.Sq L.Pt}:∀ k i,i<k->(L.lowTo l k).x <= (l.g i).x/\(L.lowTo l k).y <= (l.g i).y
 | 0,_,h=>absurd h (Nat.not_lt_zero _)
 | k+1,i,h=>by
   rw [L.lowTo]
   by_cases e:i=k
   ·subst e;exact ⟨by show min _ _ <= _;omega,by show min _ _ <= _;omega⟩
   ·have:=lowTo_le (l:=l) k i (by omega)
    exact ⟨by show min _ _ <= _;omega,by show min _ _ <= _;omega⟩
theorem highTo_ge {l:L.Sq L.Pt}:∀ k i,i<k->(l.g i).x <= (L.highTo l k).x/\(l.g i).y <= (L.highTo l k).y
 | 0,_,h=>absurd h (Nat.not_lt_zero _)
 | k+1,i,h=>by
   rw [L.highTo]
   by_cases e:i=k
   ·subst e;exact ⟨by show _ <= max _ _;omega,by show _ <= max _ _;omega⟩
   ·have:=highTo_ge (l:=l) k i (by omega)
    exact ⟨by show _ <= max _ _;omega,by show _ <= max _ _;omega⟩
theorem box_bd (l:L.Sq L.Pt):(0 <= (L.boxL l).x/\(L.boxL l).x <= 4096/\0 <= (L.boxL l).y/\(L.boxL l).y <= 4096)/\(0 <= (L.boxH l).x/\(L.boxH l).x <= 4096/\0 <= (L.boxH l).y/\(L.boxH l).y <= 4096):=by
 unfold L.boxL L.boxH
 cases hv:L.validOutline l with
 | false =>
   rw [cond_false]
   have h0:(0:Int) <= 0/\(0:Int) <= 4096/\(0:Int) <= 0/\(0:Int) <= 4096:=by decide
   exact ⟨h0,h0⟩
 | true =>
   rw [cond_true]
   obtain ⟨n3,_,_,_⟩:=validOutline_of hv
   exact ⟨vPt_iff.1 (lowTo_v (by omega) (vPts_of hv) _ (Nat.le_refl _)),vPt_iff.1 (highTo_v (by omega) (vPts_of hv) _ (Nat.le_refl _))⟩
theorem boxIn (l:L.Sq L.Pt):InK .i64 ((L.boxH l).x - (L.boxL l).x)/\InK .i64 ((L.boxH l).y - (L.boxL l).y):=by
 have:=box_bd l
 exact ⟨jK,jK⟩
def L.sizeA (s:L.Size):SV:=.agg [.int .i64 s.w,.int .i64 s.h]
theorem box_1 {l:L.Sq L.Pt} {t:Int} (h:decide (t=1)=true):L.sizeA ⟨(L.boxH l).y - (L.boxL l).y,(L.boxH l).x - (L.boxL l).x⟩=L.sizeA (L.box l t):=by
 unfold L.box
 rw [h];rfl
theorem box_0 {l:L.Sq L.Pt} {t:Int} (h:decide (t=1)=false):L.sizeA ⟨(L.boxH l).x - (L.boxL l).x,(L.boxH l).y - (L.boxL l).y⟩=L.sizeA (L.box l t):=by
 unfold L.box
 rw [h];rfl
def p_Box_p (l:(L.Sq L.Pt)):Prop:=l.n <= 1000000
def p_Box_r (l:(L.Sq L.Pt)):SV:=.tup [(.agg [.int .i64 ((L.boxL l).x),.int .i64 ((L.boxL l).y)]),(.agg [.int .i64 ((L.boxH l).x),.int .i64 ((L.boxH l).y)]),.int .i64 (L.oE l)]
def p_Box_s:List EV->Option (Prop × SV)
 | [.p (.sl 2 l_n l_g)]=>some ((∀ i,i<l_n->l_g i = [.int .i64 ((ofPt (l_g i)).x),.int .i64 ((ofPt (l_g i)).y)])/\p_Box_p (⟨l_n,fun i=>ofPt (l_g i)⟩:(L.Sq L.Pt)),p_Box_r (⟨l_n,fun i=>ofPt (l_g i)⟩:(L.Sq L.Pt)))
 | _=>none
abbrev p_Box_S:SE.Spec:=(specO p_Box_s)
def p_Box_C:Cfg:={ cC with muts:=[2,3,6],specs:=lookS [(91,p_ValidOutline_S)],anys:=[2,10] }
theorem p_Box_vc (l:(L.Sq L.Pt)) (hp:p_Box_p l):vc Tryz.prog ({ p_Box_C with loops:=lookL [(5,{ T:=Nat,keep:=[0,2,3,18,19],keepO:=[],chg:=fun i=>[(20,.p (.int .i64 (i:Int)))],own:=fun i=>[(2,.blk 48 [.p (.int .i64 (L.lowTo l i).x),.p (.int .i64 (L.lowTo l i).y)]),(3,.blk 48 [.p (.int .i64 (L.highTo l i).x),.p (.int .i64 (L.highTo l i).y)])],inv:=fun i=>i <= l.n,mu:=fun i=>l.n - i })],rfs:=lookR [] }) (bodyOf Tryz.f126) (st0 Tryz.f126 [.p (.sl 2 l.n (fun i=>[.int .i64 ((l.g i).x),.int .i64 ((l.g i).y)]))]) (retFn Tryz.prog Tryz.f126 (p_Box_r l)) :=
 @Eq.mpr _ (let I:=SV.int .i64;let T:=Int.toNat;let A15:=(1:Int);let A8:=(!L.validOutline (L.Sq.mk l.n fun (i:Nat)=>l.g i));let A7:=(↑l.n:Int);let A4:=[I (L.boxH l).x,I (L.boxH l).y];let A3:=[I (L.boxL l).x,I (L.boxL l).y];let A2:=(l.n=l.n /\ ∀ (i:Nat),let A13:=[I (l.g i).x,I (l.g i).y];i<l.n->A13=A13);let A1:=(0:Int);let A11:=(l.g (T A1));let A10:=[I A1,I A1];((∀ (i:Nat),let A14:=[I (l.g i).x,I (l.g i).y];i<l.n->A14=A14)/\l.n <= (1000000:Nat))/\(A8=true->(SV.agg A10=SV.agg A3/\SV.agg A10=SV.agg A4/\A15=L.oE l)/\SV.agg A10=SV.agg A3/\SV.agg A10=SV.agg A4/\A15=L.oE l)/\(A8=false->(A1 <= A1/\A1<A7)/\(A1 <= A1/\A1<A7)/\(∃ (g:Nat),A1=(↑g:Int)/\A11.x=(L.lowTo l g).x/\A11.y=(L.lowTo l g).y/\A11.x=(L.highTo l g).x/\A11.y=(L.highTo l g).y/\g <= l.n) /\ ∀ (g:Nat),let A9:=(L.lowTo l g);let A6:=(L.highTo l g);let A5:=(↑g:Int);let A12:=(l.g (T A5));g <= l.n->(decide (A5<A7)=true->(A1 <= A5/\A5<A7)/\InK .i64 (A5+A15) /\ ∃ (g':Nat),A5+A15=(↑g':Int)/\A7=A7/\A2/\nat_lit 0=nat_lit 0/\nat_lit 0=nat_lit 0/\A2/\Min.min A9.x A12.x=(L.lowTo l g').x/\Min.min A9.y A12.y=(L.lowTo l g').y/\Max.max A6.x A12.x=(L.highTo l g').x/\Max.max A6.y A12.y=(L.highTo l g').y/\g' <= l.n/\l.n - g'<l.n - g)/\(decide (A5<A7)=false->(SV.agg [I A9.x,I A9.y]=SV.agg A3/\SV.agg [I A6.x,I A6.y]=SV.agg A4/\A1=L.oE l)/\SV.agg [I A9.x,I A9.y]=SV.agg A3/\SV.agg [I A6.x,I A6.y]=SV.agg A4/\A1=L.oE l))) (by kernel_rfl) (by
 conv=>zeta
 have hn:l.n <= 1000000:=hp
 refine ⟨⟨fun _ _=>rfl,hn⟩,fun h=>?_,fun h=>?_⟩
 ·have h:L.validOutline l=false:=notT h
  have eL:L.boxL l=⟨0,0⟩:=by unfold L.boxL;rw [h];rfl
  have eH:L.boxH l=⟨0,0⟩:=by unfold L.boxH;rw [h];rfl
  have e3:L.oE l=1:=by unfold L.oE;rw [h];rfl
  rw [eL,eH,e3]
  repeat' first
   | exact rfl
   | apply And.intro
 have hv:L.validOutline l=true:=notF h
 obtain ⟨n3,n24,hsm,hbd⟩:=validOutline_of hv
 have eL:L.boxL l=L.lowTo l l.n:=by unfold L.boxL;rw [hv];rfl
 have eH:L.boxH l=L.highTo l l.n:=by unfold L.boxH;rw [hv];rfl
 have e3:L.oE l=0:=by unfold L.oE;rw [hv];rfl
 refine ⟨⟨Int.le_refl _,by omega⟩,⟨Int.le_refl _,by omega⟩,⟨(0:Nat),rfl,rfl,rfl,rfl,rfl,Nat.zero_le _⟩,fun g hg=>⟨fun hlt=>?_,fun hge=>?_⟩⟩
 ·have hlt:(g:Int)<(l.n:Int):=of_decide_eq_true hlt
  exact ⟨⟨by omega,hlt⟩,jK,g+1,by omega,rfl,⟨rfl,fun _ _=>rfl⟩,rfl,rfl,⟨rfl,fun _ _=>rfl⟩,rfl,rfl,rfl,rfl,by omega,by omega⟩
 ·have hge:¬ (g:Int)<(l.n:Int):=of_decide_eq_false hge
  obtain rfl:g=l.n:=by omega
  rw [eL,eH,e3]
  repeat' first
   | exact rfl
   | apply And.intro)
theorem p_Box_ok:SpecOk Tryz.prog 126 p_Box_S:=fnX Tryz.func126 (c:=bodyOf Tryz.f126) (by kernel_rfl) mixed (fun args p r hs hp=>by
 unfold p_Box_s at hs
 split at hs
 ·cases hs;exact ⟨_,_,p_Box_vc _ hp.2,(.p (.sl hp.1) .nil),⟨show SpecsL Tryz.prog _ from (SpecsL.cons p_ValidOutline_ok p_ValidOutline_en SpecsL.nil),rfl,⟨show ItersL Tryz.prog _ from ItersL.nil,(TrsOk.none (fun _=>rfl))⟩⟩⟩
 ·cases hs)
theorem p_Box_en:Enters Tryz.prog 126:=fun args w=>by kernel_rfl
def c_within_p (n:Int) (a:Int) (b:Int):Prop:=True
def c_within_r (n:Int) (a:Int) (b:Int):SV:=.bool (L.within n a b)
def c_within_s:List EV->Option (Prop × SV)
 | [.p (.int .i64 n),.p (.int .i64 a),.p (.int .i64 b)]=>some (c_within_p n a b,c_within_r n a b)
 | _=>none
abbrev c_within_S:SE.Spec:=(specO c_within_s)
def c_within_C:Cfg:={ muts:=[],frz:=lookN [],specs:=lookS [],loops:=lookL [],iters:=lookI [],rfs:=lookR [],nils:=lookM [] }
theorem c_within_vc (n:Int) (a:Int) (b:Int) (hp:c_within_p n a b):vc Tryz.prog (c_within_C) (bodyOf Tryz.f61) (st0 Tryz.f61 [.p (.int .i64 n),.p (.int .i64 a),.p (.int .i64 b)]) (retFn Tryz.prog Tryz.f61 (c_within_r n a b)) :=
 @Eq.mpr _ ((bif decide (a <= n) then decide (n <= b) else false)=L.within n a b) (by kernel_rfl) (by
 grind [L.within])
theorem c_within_ok:SpecOk Tryz.prog 61 c_within_S:=fnX Tryz.func61 (c:=bodyOf Tryz.f61) (by kernel_rfl) mixed (fun args p r hs hp=>by
 unfold c_within_s at hs
 split at hs
 ·cases hs;exact ⟨_,_,c_within_vc _ _ _ hp,(.same _ (.same _ (.same _ .nil))),⟨show SpecsL Tryz.prog _ from SpecsL.nil,rfl,⟨show ItersL Tryz.prog _ from ItersL.nil,(TrsOk.none (fun _=>rfl))⟩⟩⟩
 ·cases hs)
theorem c_within_en:Enters Tryz.prog 61:=fun args w=>by kernel_rfl
def r5_within_p (n:Int) (a:Int) (b:Int):Prop:=True
def r5_within_r (n:Int) (a:Int) (b:Int):SV:=.bool (L.within n a b)
def r5_within_s:List EV->Option (Prop × SV)
 | [.p (.int .i64 n),.p (.int .i64 a),.p (.int .i64 b)]=>some (r5_within_p n a b,r5_within_r n a b)
 | _=>none
abbrev r5_within_S:SE.Spec:=(specO r5_within_s)
def r5_within_C:Cfg:={ muts:=[],frz:=lookN [],specs:=lookS [],loops:=lookL [],iters:=lookI [],rfs:=lookR [],nils:=lookM [] }
theorem r5_within_vc (n:Int) (a:Int) (b:Int) (hp:r5_within_p n a b):vc Tryz.prog (r5_within_C) (bodyOf Tryz.f67) (st0 Tryz.f67 [.p (.int .i64 n),.p (.int .i64 a),.p (.int .i64 b)]) (retFn Tryz.prog Tryz.f67 (r5_within_r n a b)) :=
 @Eq.mpr _ ((bif decide (a <= n) then decide (n <= b) else false)=L.within n a b) (by kernel_rfl) (by
 grind [L.within])
theorem r5_within_ok:SpecOk Tryz.prog 67 r5_within_S:=fnX Tryz.func67 (c:=bodyOf Tryz.f67) (by kernel_rfl) mixed (fun args p r hs hp=>by
 unfold r5_within_s at hs
 split at hs
 ·cases hs;exact ⟨_,_,r5_within_vc _ _ _ hp,(.same _ (.same _ (.same _ .nil))),⟨show SpecsL Tryz.prog _ from SpecsL.nil,rfl,⟨show ItersL Tryz.prog _ from ItersL.nil,(TrsOk.none (fun _=>rfl))⟩⟩⟩
 ·cases hs)
theorem r5_within_en:Enters Tryz.prog 67:=fun args w=>by kernel_rfl
def c_boxOf_p (l:(L.Sq L.Pt)) (t:Int):Prop:=l.n <= 1000000
def c_boxOf_r (l:(L.Sq L.Pt)) (t:Int):SV:=(.agg [.int .i64 ((L.box l t).w),.int .i64 ((L.box l t).h)])
def c_boxOf_s:List EV->Option (Prop × SV)
 | [.p (.sl 2 l_n l_g),.p (.int .i64 t)]=>some ((∀ i,i<l_n->l_g i = [.int .i64 ((ofPt (l_g i)).x),.int .i64 ((ofPt (l_g i)).y)])/\c_boxOf_p (⟨l_n,fun i=>ofPt (l_g i)⟩:(L.Sq L.Pt)) t,c_boxOf_r (⟨l_n,fun i=>ofPt (l_g i)⟩:(L.Sq L.Pt)) t)
 | _=>none
abbrev c_boxOf_S:SE.Spec:=(specO c_boxOf_s)
def c_boxOf_C:Cfg:={ cC with muts:=[4,5,6,8],specs:=lookS [(126,p_Box_S)] }
theorem c_boxOf_vc (l:(L.Sq L.Pt)) (t:Int) (hp:c_boxOf_p l t):vc Tryz.prog (c_boxOf_C) (bodyOf Tryz.f77) (st0 Tryz.f77 [.p (.sl 2 l.n (fun i=>[.int .i64 ((l.g i).x),.int .i64 ((l.g i).y)])),.p (.int .i64 t)]) (retFn Tryz.prog Tryz.f77 (c_boxOf_r l t)) :=
 @Eq.mpr _ (let I:=SV.int .i64;let A4:=[I (L.box l t).w,I (L.box l t).h];let A1:=(L.Sq.mk l.n fun (i:Nat)=>l.g i);let A3:=((L.boxH A1).y - (L.boxL A1).y);let A2:=((L.boxH A1).x - (L.boxL A1).x);((∀ (i:Nat),let A5:=[I (l.g i).x,I (l.g i).y];i<l.n->A5=A5)/\l.n <= (1000000:Nat))/\InK .i64 A2/\InK .i64 A3/\(decide (t=(1:Int))=true->SV.agg [I A3,I A2]=SV.agg A4)/\(decide (t=(1:Int))=false->SV.agg [I A2,I A3]=SV.agg A4)) (by kernel_rfl) (by
 conv=>zeta
 obtain ⟨b1,b2⟩:=boxIn l
 exact ⟨⟨fun _ _=>rfl,hp⟩,b1,b2,fun h=>box_1 h,fun h=>box_0 h⟩)
theorem c_boxOf_ok:SpecOk Tryz.prog 77 c_boxOf_S:=fnX Tryz.func77 (c:=bodyOf Tryz.f77) (by kernel_rfl) mixed (fun args p r hs hp=>by
 unfold c_boxOf_s at hs
 split at hs
 ·cases hs;exact ⟨_,_,c_boxOf_vc _ _ hp.2,(.p (.sl hp.1) (.same _ .nil)),⟨show SpecsL Tryz.prog _ from (SpecsL.cons p_Box_ok p_Box_en SpecsL.nil),rfl,⟨show ItersL Tryz.prog _ from ItersL.nil,(TrsOk.none (fun _=>rfl))⟩⟩⟩
 ·cases hs)
theorem c_boxOf_en:Enters Tryz.prog 77:=fun args w=>by kernel_rfl
def c_ValidSheet_p (s:L.Sheet):Prop:=True
def c_ValidSheet_r (s:L.Sheet):SV:=.bool (L.vSheet s)
def c_ValidSheet_s:List EV->Option (Prop × SV)
 | [.p (.agg [.int .i64 s_id,.int .i64 s_colour,.int .i64 s_w,.int .i64 s_h,.int .i64 s_grain])]=>some (c_ValidSheet_p (⟨s_id,s_colour,s_w,s_h,s_grain⟩:L.Sheet),c_ValidSheet_r (⟨s_id,s_colour,s_w,s_h,s_grain⟩:L.Sheet))
 | _=>none
abbrev c_ValidSheet_S:SE.Spec:=(specO c_ValidSheet_s)
def c_ValidSheet_C:Cfg:={ cC with specs:=lookS [(61,c_within_S)] }
theorem c_ValidSheet_vc (s:L.Sheet) (hp:c_ValidSheet_p s):vc Tryz.prog (c_ValidSheet_C) (bodyOf Tryz.f41) (st0 Tryz.f41 [.p (.agg [.int .i64 s.id,.int .i64 s.colour,.int .i64 s.w,.int .i64 s.h,.int .i64 s.grain])]) (retFn Tryz.prog Tryz.f41 (c_ValidSheet_r s)) :=
 @Eq.mpr _ (let A4:=(16:Int);let A3:=(4096:Int);let A2:=(65535:Int);let A1:=(1:Int);True/\(L.within s.id A1 A2=true->True)/\((bif L.within s.id A1 A2 then L.within s.colour A1 A4 else false)=true->True)/\((bif bif L.within s.id A1 A2 then L.within s.colour A1 A4 else false then L.within s.w A1 A3 else false)=true->True)/\((bif bif bif L.within s.id A1 A2 then L.within s.colour A1 A4 else false then L.within s.w A1 A3 else false then L.within s.h A1 A3 else false)=true->True)/\(bif bif bif bif L.within s.id A1 A2 then L.within s.colour A1 A4 else false then L.within s.w A1 A3 else false then L.within s.h A1 A3 else false then L.within s.grain (0:Int) (2:Int) else false)=L.vSheet s) (by kernel_rfl) (by
 conv=>zeta
 exact ⟨trivial,fun _=>trivial,fun _=>trivial,fun _=>trivial,fun _=>trivial,rfl⟩)
theorem c_ValidSheet_ok:SpecOk Tryz.prog 41 c_ValidSheet_S:=fnX Tryz.func41 (c:=bodyOf Tryz.f41) (by kernel_rfl) mixed (fun args p r hs hp=>by
 unfold c_ValidSheet_s at hs
 split at hs
 ·cases hs;exact ⟨_,_,c_ValidSheet_vc _ hp,(.same _ .nil),⟨show SpecsL Tryz.prog _ from (SpecsL.cons c_within_ok c_within_en SpecsL.nil),rfl,⟨show ItersL Tryz.prog _ from ItersL.nil,(TrsOk.none (fun _=>rfl))⟩⟩⟩
 ·cases hs)
theorem c_ValidSheet_en:Enters Tryz.prog 41:=fun args w=>by kernel_rfl
def c_ValidWant_p (w:L.Want):Prop:=w.ol.n <= 1000000
def c_ValidWant_r (w:L.Want):SV:=.bool (L.vWant w)
def c_ValidWant_s:List EV->Option (Prop × SV)
 | [.p (.agg [.int .i64 w_id,.int .i64 w_colour,.int .i64 w_grain,.sl 2 w_ol_n w_ol_g])]=>some ((∀ i,i<w_ol_n->w_ol_g i = [.int .i64 ((ofPt (w_ol_g i)).x),.int .i64 ((ofPt (w_ol_g i)).y)])/\c_ValidWant_p (⟨w_id,w_colour,w_grain,(⟨w_ol_n,fun i=>ofPt (w_ol_g i)⟩:(L.Sq L.Pt))⟩:L.Want),c_ValidWant_r (⟨w_id,w_colour,w_grain,(⟨w_ol_n,fun i=>ofPt (w_ol_g i)⟩:(L.Sq L.Pt))⟩:L.Want))
 | _=>none
abbrev c_ValidWant_S:SE.Spec:=(specO c_ValidWant_s)
def c_ValidWant_C:Cfg:={ cC with specs:=lookS [(61,c_within_S),(91,p_ValidOutline_S)] }
theorem c_ValidWant_vc (w:L.Want) (hp:c_ValidWant_p w):vc Tryz.prog (c_ValidWant_C) (bodyOf Tryz.f40) (st0 Tryz.f40 [.p (.agg [.int .i64 w.id,.int .i64 w.colour,.int .i64 w.grain,.sl 2 w.ol.n (fun i=>[.int .i64 ((w.ol.g i).x),.int .i64 ((w.ol.g i).y)])])]) (retFn Tryz.prog Tryz.f40 (c_ValidWant_r w)) :=
 @Eq.mpr _ (let A3:=(65535:Int);let A2:=(1:Int);True/\(L.within w.id A2 A3=true->True)/\((bif L.within w.id A2 A3 then L.within w.colour A2 (16:Int) else false)=true->True)/\((bif bif L.within w.id A2 A3 then L.within w.colour A2 (16:Int) else false then L.within w.grain (0:Int) (2:Int) else false)=true->(∀ (i:Nat),let A1:=[SV.int .i64 (w.ol.g i).x,SV.int .i64 (w.ol.g i).y];i<w.ol.n->A1=A1)/\w.ol.n <= (1000000:Nat))/\(bif bif bif L.within w.id A2 A3 then L.within w.colour A2 (16:Int) else false then L.within w.grain (0:Int) (2:Int) else false then L.validOutline (L.Sq.mk w.ol.n fun (i:Nat)=>w.ol.g i) else false)=L.vWant w) (by kernel_rfl) (by
 conv=>zeta
 exact ⟨trivial,fun _=>trivial,fun _=>trivial,fun _=>⟨fun _ _=>rfl,hp⟩,rfl⟩)
theorem c_ValidWant_ok:SpecOk Tryz.prog 40 c_ValidWant_S:=fnX Tryz.func40 (c:=bodyOf Tryz.f40) (by kernel_rfl) mixed (fun args p r hs hp=>by
 unfold c_ValidWant_s at hs
 split at hs
 ·cases hs; exact ⟨_, _, c_ValidWant_vc _ hp.2, (.p (.agg rfl (fun i hi => by
  rcases i with _ | i
  ·exact (Ext.refl _:Ext _ _)
  rcases i with _ | i
  ·exact (Ext.refl _:Ext _ _)
  rcases i with _ | i
  ·exact (Ext.refl _:Ext _ _)
  rcases i with _ | i
  ·exact (Ext.sl hp.1:Ext _ _)
  exact absurd hi (by simp;try omega))) .nil),⟨show SpecsL Tryz.prog _ from (SpecsL.cons c_within_ok c_within_en (SpecsL.cons p_ValidOutline_ok p_ValidOutline_en SpecsL.nil)),rfl,⟨show ItersL Tryz.prog _ from ItersL.nil,(TrsOk.none (fun _=>rfl))⟩⟩⟩
 ·cases hs)
theorem c_ValidWant_en:Enters Tryz.prog 40:=fun args w=>by kernel_rfl
def c_allowed_p (a:Int) (b:Int) (t:Int):Prop:=True
def c_allowed_r (a:Int) (b:Int) (t:Int):SV:=.bool (L.alw a b t)
def c_allowed_s:List EV->Option (Prop × SV)
 | [.p (.int .i64 a),.p (.int .i64 b),.p (.int .i64 t)]=>some (c_allowed_p a b t,c_allowed_r a b t)
 | _=>none
abbrev c_allowed_S:SE.Spec:=(specO c_allowed_s)
def c_allowed_C:Cfg:={ muts:=[],frz:=lookN [],specs:=lookS [],loops:=lookL [],iters:=lookI [],rfs:=lookR [],nils:=lookM [] }
theorem c_allowed_vc (a:Int) (b:Int) (t:Int) (hp:c_allowed_p a b t):vc Tryz.prog (c_allowed_C) (bodyOf Tryz.f76) (st0 Tryz.f76 [.p (.int .i64 a),.p (.int .i64 b),.p (.int .i64 t)]) (retFn Tryz.prog Tryz.f76 (c_allowed_r a b t)) :=
 @Eq.mpr _ ((bif bif decide (a=(0:Int)) then true else decide (b=(0:Int)) then true else decide (t=(0:Int)) == decide (a=b))=L.alw a b t) (by kernel_rfl) (by
 rfl)
theorem c_allowed_ok:SpecOk Tryz.prog 76 c_allowed_S:=fnX Tryz.func76 (c:=bodyOf Tryz.f76) (by kernel_rfl) mixed (fun args p r hs hp=>by
 unfold c_allowed_s at hs
 split at hs
 ·cases hs;exact ⟨_,_,c_allowed_vc _ _ _ hp,(.same _ (.same _ (.same _ .nil))),⟨show SpecsL Tryz.prog _ from SpecsL.nil,rfl,⟨show ItersL Tryz.prog _ from ItersL.nil,(TrsOk.none (fun _=>rfl))⟩⟩⟩
 ·cases hs)
theorem c_allowed_en:Enters Tryz.prog 76:=fun args w=>by kernel_rfl
def c_Allowed_p (w:L.Want) (grain:Int) (t:Int):Prop:=w.ol.n <= 1000000
def c_Allowed_r (w:L.Want) (grain:Int) (t:Int):SV:=.tup [.bool (L.alwB w grain t),.int .i64 (L.alwE w grain t)]
def c_Allowed_s:List EV->Option (Prop × SV)
 | [.p (.agg [.int .i64 w_id,.int .i64 w_colour,.int .i64 w_grain,.sl 2 w_ol_n w_ol_g]),.p (.int .i64 grain),.p (.int .i64 t)]=>some ((∀ i,i<w_ol_n->w_ol_g i = [.int .i64 ((ofPt (w_ol_g i)).x),.int .i64 ((ofPt (w_ol_g i)).y)])/\c_Allowed_p (⟨w_id,w_colour,w_grain,(⟨w_ol_n,fun i=>ofPt (w_ol_g i)⟩:(L.Sq L.Pt))⟩:L.Want) grain t,c_Allowed_r (⟨w_id,w_colour,w_grain,(⟨w_ol_n,fun i=>ofPt (w_ol_g i)⟩:(L.Sq L.Pt))⟩:L.Want) grain t)
 | _=>none
abbrev c_Allowed_S:SE.Spec:=(specO c_Allowed_s)
def c_Allowed_C:Cfg:={ cC with specs:=lookS [(61,c_within_S),(40,c_ValidWant_S),(76,c_allowed_S)] }
theorem c_Allowed_vc (w:L.Want) (grain:Int) (t:Int) (hp:c_Allowed_p w grain t):vc Tryz.prog (c_Allowed_C) (bodyOf Tryz.f25) (st0 Tryz.f25 [.p (.agg [.int .i64 w.id,.int .i64 w.colour,.int .i64 w.grain,.sl 2 w.ol.n (fun i=>[.int .i64 ((w.ol.g i).x),.int .i64 ((w.ol.g i).y)])]),.p (.int .i64 grain),.p (.int .i64 t)]) (retFn Tryz.prog Tryz.f25 (c_Allowed_r w grain t)) :=
 @Eq.mpr _ (let A4:=(0:Int);let A2:=(!L.vWant (L.Want.mk w.id w.colour w.grain (L.Sq.mk w.ol.n fun (i:Nat)=>w.ol.g i)));let A1:=(bif !L.within grain A4 (2:Int) then true else !L.within t A4 (1:Int));((∀ (i:Nat),let A3:=[SV.int .i64 (w.ol.g i).x,SV.int .i64 (w.ol.g i).y];i<w.ol.n->A3=A3)/\w.ol.n <= (1000000:Nat))/\(A2=true->false=L.alwB w grain t/\(50:Int)=L.alwE w grain t)/\(A2=false->True/\((!!L.within grain A4 (2:Int))=true->True)/\(A1=true->false=L.alwB w grain t/\(1:Int)=L.alwE w grain t)/\(A1=false->True/\L.alw w.grain grain t=L.alwB w grain t/\A4=L.alwE w grain t))) (by kernel_rfl) (by
 conv=>zeta
 refine ⟨⟨fun _ _=>rfl,hp⟩,fun h=>?_,fun h=>⟨trivial,fun _=>trivial,fun h2=>?_,fun h2=>⟨trivial,?_⟩⟩⟩
 ·have h:L.vWant w=false:=notT h
  unfold L.alwB L.alwE
  rw [h];exact ⟨rfl,rfl⟩
 ·have h:L.vWant w=true:=notF h
  have h2:L.badGT grain t=true:=h2
  unfold L.alwB L.alwE
  rw [h,h2];exact ⟨rfl,rfl⟩
 ·have h:L.vWant w=true:=notF h
  have h2:L.badGT grain t=false:=h2
  unfold L.alwB L.alwE
  rw [h,h2];exact ⟨rfl,rfl⟩)
theorem c_Allowed_ok:SpecOk Tryz.prog 25 c_Allowed_S:=fnX Tryz.func25 (c:=bodyOf Tryz.f25) (by kernel_rfl) mixed (fun args p r hs hp=>by
 unfold c_Allowed_s at hs
 split at hs
 ·cases hs; exact ⟨_, _, c_Allowed_vc _ _ _ hp.2, (.p (.agg rfl (fun i hi => by
  rcases i with _ | i
  ·exact (Ext.refl _:Ext _ _)
  rcases i with _ | i
  ·exact (Ext.refl _:Ext _ _)
  rcases i with _ | i
  ·exact (Ext.refl _:Ext _ _)
  rcases i with _ | i
  ·exact (Ext.sl hp.1:Ext _ _)
  exact absurd hi (by simp;try omega))) (.same _ (.same _ .nil))),⟨show SpecsL Tryz.prog _ from (SpecsL.cons c_within_ok c_within_en (SpecsL.cons c_ValidWant_ok c_ValidWant_en (SpecsL.cons c_allowed_ok c_allowed_en SpecsL.nil))),rfl,⟨show ItersL Tryz.prog _ from ItersL.nil,(TrsOk.none (fun _=>rfl))⟩⟩⟩
 ·cases hs)
theorem c_Allowed_en:Enters Tryz.prog 25:=fun args w=>by kernel_rfl
def c_BoxOf_p (w:L.Want) (t:Int):Prop:=w.ol.n <= 1000000
def c_BoxOf_r (w:L.Want) (t:Int):SV:=.tup [(.agg [.int .i64 ((L.boxOf w t).w),.int .i64 ((L.boxOf w t).h)]),.int .i64 (L.boxE w t)]
def c_BoxOf_s:List EV->Option (Prop × SV)
 | [.p (.agg [.int .i64 w_id,.int .i64 w_colour,.int .i64 w_grain,.sl 2 w_ol_n w_ol_g]),.p (.int .i64 t)]=>some ((∀ i,i<w_ol_n->w_ol_g i = [.int .i64 ((ofPt (w_ol_g i)).x),.int .i64 ((ofPt (w_ol_g i)).y)])/\c_BoxOf_p (⟨w_id,w_colour,w_grain,(⟨w_ol_n,fun i=>ofPt (w_ol_g i)⟩:(L.Sq L.Pt))⟩:L.Want) t,c_BoxOf_r (⟨w_id,w_colour,w_grain,(⟨w_ol_n,fun i=>ofPt (w_ol_g i)⟩:(L.Sq L.Pt))⟩:L.Want) t)
 | _=>none
abbrev c_BoxOf_S:SE.Spec:=(specO c_BoxOf_s)
def c_BoxOf_C:Cfg:={ cC with muts:=[4],specs:=lookS [(61,c_within_S),(40,c_ValidWant_S),(77,c_boxOf_S)] }
theorem c_BoxOf_vc (w:L.Want) (t:Int) (hp:c_BoxOf_p w t):vc Tryz.prog (c_BoxOf_C) (bodyOf Tryz.f26) (st0 Tryz.f26 [.p (.agg [.int .i64 w.id,.int .i64 w.colour,.int .i64 w.grain,.sl 2 w.ol.n (fun i=>[.int .i64 ((w.ol.g i).x),.int .i64 ((w.ol.g i).y)])]),.p (.int .i64 t)]) (retFn Tryz.prog Tryz.f26 (c_BoxOf_r w t)) :=
 @Eq.mpr _ (let I:=SV.int .i64;let A5:=(0:Int);let A7:=(!L.within t A5 (1:Int));let A3:=[I (L.boxOf w t).w,I (L.boxOf w t).h];let A2:=(L.Sq.mk w.ol.n fun (i:Nat)=>w.ol.g i);let A4:=(!L.vWant (L.Want.mk w.id w.colour w.grain A2));let A1:=((∀ (i:Nat),let A6:=[I (w.ol.g i).x,I (w.ol.g i).y];i<w.ol.n->A6=A6)/\w.ol.n <= (1000000:Nat));A1/\(A4=true->SV.agg [I A5,I A5]=SV.agg A3/\(50:Int)=L.boxE w t)/\(A4=false->True/\(A7=true->SV.agg [I A5,I A5]=SV.agg A3/\(1:Int)=L.boxE w t)/\(A7=false->A1/\SV.agg [I (L.box A2 t).w,I (L.box A2 t).h]=SV.agg A3/\A5=L.boxE w t))) (by kernel_rfl) (by
 conv=>zeta
 refine ⟨⟨fun _ _=>rfl,hp⟩,fun h=>?_,fun h=>⟨trivial,fun h2=>?_,fun h2=>⟨⟨fun _ _=>rfl,hp⟩,?_⟩⟩⟩
 ·have e:L.boxE w t=50:=by unfold L.boxE;rw [show L.vWant w=false from notT h];rfl
  have e2:L.boxOf w t=⟨0,0⟩:=by unfold L.boxOf;rw [e];rfl
  rw [e,e2];exact ⟨rfl,rfl⟩
 ·have e:L.boxE w t=1:=by unfold L.boxE;rw [show L.vWant w=true from notF h,show L.within t 0 1=false from notT h2];rfl
  have e2:L.boxOf w t=⟨0,0⟩:=by unfold L.boxOf;rw [e];rfl
  rw [e,e2];exact ⟨rfl,rfl⟩
 ·have e:L.boxE w t=0:=by unfold L.boxE;rw [show L.vWant w=true from notF h,show L.within t 0 1=true from notF h2];rfl
  have e2:L.boxOf w t=L.box w.ol t:=by unfold L.boxOf;rw [e];rfl
  rw [e,e2];exact ⟨rfl,rfl⟩)
theorem c_BoxOf_ok:SpecOk Tryz.prog 26 c_BoxOf_S:=fnX Tryz.func26 (c:=bodyOf Tryz.f26) (by kernel_rfl) mixed (fun args p r hs hp=>by
 unfold c_BoxOf_s at hs
 split at hs
 ·cases hs; exact ⟨_, _, c_BoxOf_vc _ _ hp.2, (.p (.agg rfl (fun i hi => by
  rcases i with _ | i
  ·exact (Ext.refl _:Ext _ _)
  rcases i with _ | i
  ·exact (Ext.refl _:Ext _ _)
  rcases i with _ | i
  ·exact (Ext.refl _:Ext _ _)
  rcases i with _ | i
  ·exact (Ext.sl hp.1:Ext _ _)
  exact absurd hi (by simp;try omega))) (.same _ .nil)),⟨show SpecsL Tryz.prog _ from (SpecsL.cons c_within_ok c_within_en (SpecsL.cons c_ValidWant_ok c_ValidWant_en (SpecsL.cons c_boxOf_ok c_boxOf_en SpecsL.nil))),rfl,⟨show ItersL Tryz.prog _ from ItersL.nil,(TrsOk.none (fun _=>rfl))⟩⟩⟩
 ·cases hs)
theorem c_BoxOf_en:Enters Tryz.prog 26:=fun args w=>by kernel_rfl
def r5_ValidSheet_p (s:L.Sheet):Prop:=True
def r5_ValidSheet_r (s:L.Sheet):SV:=.bool (L.vSheet s)
def r5_ValidSheet_s:List EV->Option (Prop × SV)
 | [.p (.agg [.int .i64 s_id,.int .i64 s_colour,.int .i64 s_w,.int .i64 s_h,.int .i64 s_grain])]=>some (r5_ValidSheet_p (⟨s_id,s_colour,s_w,s_h,s_grain⟩:L.Sheet),r5_ValidSheet_r (⟨s_id,s_colour,s_w,s_h,s_grain⟩:L.Sheet))
 | _=>none
abbrev r5_ValidSheet_S:SE.Spec:=(specO r5_ValidSheet_s)
def r5_ValidSheet_C:Cfg:={ cC with specs:=lookS [(67,r5_within_S)] }
theorem r5_ValidSheet_vc (s:L.Sheet) (hp:r5_ValidSheet_p s):vc Tryz.prog (r5_ValidSheet_C) (bodyOf Tryz.f23) (st0 Tryz.f23 [.p (.agg [.int .i64 s.id,.int .i64 s.colour,.int .i64 s.w,.int .i64 s.h,.int .i64 s.grain])]) (retFn Tryz.prog Tryz.f23 (r5_ValidSheet_r s)) :=
 @Eq.mpr _ (let A4:=(16:Int);let A3:=(4096:Int);let A2:=(65535:Int);let A1:=(1:Int);True/\(L.within s.id A1 A2=true->True)/\((bif L.within s.id A1 A2 then L.within s.colour A1 A4 else false)=true->True)/\((bif bif L.within s.id A1 A2 then L.within s.colour A1 A4 else false then L.within s.w A1 A3 else false)=true->True)/\((bif bif bif L.within s.id A1 A2 then L.within s.colour A1 A4 else false then L.within s.w A1 A3 else false then L.within s.h A1 A3 else false)=true->True)/\(bif bif bif bif L.within s.id A1 A2 then L.within s.colour A1 A4 else false then L.within s.w A1 A3 else false then L.within s.h A1 A3 else false then L.within s.grain (0:Int) (2:Int) else false)=L.vSheet s) (by kernel_rfl) (by
 conv=>zeta
 exact ⟨trivial,fun _=>trivial,fun _=>trivial,fun _=>trivial,fun _=>trivial,rfl⟩)
theorem r5_ValidSheet_ok:SpecOk Tryz.prog 23 r5_ValidSheet_S:=fnX Tryz.func23 (c:=bodyOf Tryz.f23) (by kernel_rfl) mixed (fun args p r hs hp=>by
 unfold r5_ValidSheet_s at hs
 split at hs
 ·cases hs;exact ⟨_,_,r5_ValidSheet_vc _ hp,(.same _ .nil),⟨show SpecsL Tryz.prog _ from (SpecsL.cons r5_within_ok r5_within_en SpecsL.nil),rfl,⟨show ItersL Tryz.prog _ from ItersL.nil,(TrsOk.none (fun _=>rfl))⟩⟩⟩
 ·cases hs)
theorem r5_ValidSheet_en:Enters Tryz.prog 23:=fun args w=>by kernel_rfl
end Go.Proofs.YtpgaejicfbpcmaaGreat
