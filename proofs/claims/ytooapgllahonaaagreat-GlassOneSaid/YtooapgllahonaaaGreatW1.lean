/- A symbolic walk over the model, and what it shows of functions of the program: parts of the proof that the text of the row joins. -/
import Derived.Test.YtooapgllahonaaaGreatE3
import Derived.KernelRfl
import Derived.Test.YtooapgllahonaaaGreatProg
import Derived.Test.YtooapgllahonaaaGreatE4

/- Plain values that the contracts speak of. -/
namespace Go.Proofs.YtooapgllahonaaaGreat
open Go.SE Go.RowKit
namespace L
structure Pt where
  x : Int
  y : Int
structure Span where
  lo : Int
  hi : Int
structure Mark where
  edge : Int
  place : Int
  tone : Int
structure Gauge where
  edge : Span
  across : Span
  bend : Int
structure Meas where
  edge : Int
  across : Int
  bend : Int
structure Setting where
  shift : Int
  back : Bool
structure Motion where
  turn : Int
  mirror : Bool
  by_ : Pt
structure Tri where
  a : Pt
  b : Pt
  c : Pt
/-- A list: how long, and what lies where. -/
structure Sq (α : Type) where
  n : Nat
  g : Nat → α
structure Film where
  id : Int
  grey : Sq Int
structure Piece where
  id : Int
  colour : Int
  rev : Int
  made : Int
  swell : Int
  gauges : Sq Gauge
  marks : Sq Mark
end L
namespace R
end R
def intOf : List SV → Int
  | [.int _ n] => n
  | _ => 0
def boolOf : List SV → Bool
  | [.bool b] => b
  | _ => false
def ofPt : List SV → L.Pt
  | [.int _ x, .int _ y] => ⟨x, y⟩
  | _ => ⟨0, 0⟩
def ofMark : List SV → L.Mark
  | [.int _ x, .int _ y, .int _ z] => ⟨x, y, z⟩
  | _ => ⟨0, 0, 0⟩
def ofGauge : List SV → L.Gauge
  | [.int _ a, .int _ b, .int _ c, .int _ d, .int _ e] => ⟨⟨a, b⟩, ⟨c, d⟩, e⟩
  | _ => ⟨⟨0, 0⟩, ⟨0, 0⟩, 0⟩
def ofSetting : List SV → L.Setting
  | [.int _ x, .bool b] => ⟨x, b⟩
  | _ => ⟨0, false⟩
def L.allB : Nat → (Nat → Bool) → Bool
  | 0, _ => true
  | n + 1, f => L.allB n f && f n
theorem allB_iff {f : Nat → Bool} : ∀ {n : Nat}, L.allB n f = true ↔ ∀ i, i < n → f i = true
  | 0 => by simp [L.allB]
  | n + 1 => by
    simp only [L.allB, Bool.and_eq_true, allB_iff (n := n)]
    constructor
    · rintro ⟨h, k⟩ i hi
      rcases Nat.lt_succ_iff_lt_or_eq.1 hi with hi | rfl
      · exact h i hi
      · exact k
    · exact fun h => ⟨fun i hi => h i (by omega), h n (by omega)⟩
theorem allB_false {f : Nat → Bool} {n i : Nat} (hi : i < n) (h : f i = false) : L.allB n f = false := by
  cases hb : L.allB n f with
  | false => rfl
  | true => rw [allB_iff.1 hb i hi] at h; cases h
theorem mul_bd {a b : Int} {m n : Int} (h1 : -m ≤ a) (h2 : a ≤ m) (h3 : -n ≤ b) (h4 : b ≤ n) : -(m * n) ≤ a * b ∧ a * b ≤ m * n := by
  have hm : 0 ≤ m := by omega
  have hn : 0 ≤ n := by omega
  have e1 := Int.mul_nonneg (show 0 ≤ m - a by omega) (show 0 ≤ n - b by omega)
  have e2 := Int.mul_nonneg (show 0 ≤ m + a by omega) (show 0 ≤ n + b by omega)
  have e3 := Int.mul_nonneg (show 0 ≤ m - a by omega) (show 0 ≤ n + b by omega)
  have e4 := Int.mul_nonneg (show 0 ≤ m + a by omega) (show 0 ≤ n - b by omega)
  simp only [Int.sub_mul, Int.mul_sub, Int.add_mul, Int.mul_add] at e1 e2 e3 e4
  omega
/-- A bool-valued function's value. -/
def L.fbl (p : FSpec) (xs : List SV) : Bool := boolOf [p.res xs]
theorem fbl_res {p : FSpec} (h : isB p) {xs : List SV} (hp : p.pre xs) : p.res xs = .bool (L.fbl p xs) := by
  obtain ⟨b, hb⟩ := h xs hp
  rw [hb, L.fbl, hb]; rfl
def L.fil (p : FSpec) (xs : List SV) : Int := intOf [p.res xs]
theorem fil_res {p : FSpec} (h : isI p) {xs : List SV} (hp : p.pre xs) : p.res xs = .int .i64 (L.fil p xs) := by
  obtain ⟨b, hb⟩ := h xs hp
  rw [hb, L.fil, hb]; rfl
theorem mixed : Tryz.prog.follows .mixedOrders = true := by kernel_rfl
theorem InK.of {n : Int} (h : -9223372036854775808 ≤ n) (k : n ≤ 9223372036854775807) : InK .i64 n := ⟨h, k⟩
end Go.Proofs.YtooapgllahonaaaGreat

namespace Go.Proofs.YtooapgllahonaaaGreat
open Go.SE Go.RowKit
set_option maxRecDepth 100000
set_option maxHeartbeats 4000000
set_option linter.unusedVariables false
attribute [local irreducible] vc

def L.within (n a b : Int) : Bool := decide (a ≤ n) && decide (n ≤ b)
def L.earlier (a b : L.Mark) : Bool := bif decide (a.edge = b.edge) then (bif decide (a.place = b.place) then decide (a.tone < b.tone) else decide (a.place < b.place)) else decide (a.edge < b.edge)
def L.mark1 (l : L.Sq L.Mark) (i : Nat) : Bool := L.within (l.g i).place 0 16 && L.within (l.g i).tone 1 16 && (bif decide (0 < i) then L.earlier (l.g (i - 1)) (l.g i) else true)
def L.marks (l : L.Sq L.Mark) : Bool := decide (l.n ≤ 32) && L.allB l.n (L.mark1 l)
def r3_within_p (n : Int) (a : Int) (b : Int) : Prop := True
def r3_within_r (n : Int) (a : Int) (b : Int) : SV := .bool (L.within n a b)
def r3_within_s : List EV → Option (Prop × SV)
  | [.p (.int .i64 n), .p (.int .i64 a), .p (.int .i64 b)] => some (r3_within_p n a b, r3_within_r n a b)
  | _ => none
abbrev r3_within_S : SE.Spec := (specO r3_within_s)
def r3_within_C : Cfg := { muts := [], frz := lookN [], specs := lookS [], loops := lookL [], iters := lookI [], rfs := lookR [], nils := lookM [] }
theorem r3_within_vc (n : Int) (a : Int) (b : Int) (hp : r3_within_p n a b) : vc Tryz.prog (r3_within_C) (bodyOf Tryz.f100) (st0 Tryz.f100 [.p (.int .i64 n), .p (.int .i64 a), .p (.int .i64 b)]) (retFn Tryz.prog Tryz.f100 (r3_within_r n a b)) :=
  @Eq.mpr _ ((bif decide (a ≤ n) then decide (n ≤ b) else false) = L.within n a b) (by kernel_rfl) (by
    grind [L.within])
theorem r3_within_ok : SpecOk Tryz.prog 100 r3_within_S := fnX Tryz.func100 (c := bodyOf Tryz.f100) (by kernel_rfl) mixed (fun args p r hs hp => by
  unfold r3_within_s at hs
  split at hs
  · cases hs; exact ⟨_, _, r3_within_vc _ _ _ hp, (.same _ (.same _ (.same _ .nil))), ⟨show SpecsL Tryz.prog _ from SpecsL.nil, rfl, ⟨show ItersL Tryz.prog _ from ItersL.nil, (TrsOk.none (fun _ => rfl))⟩⟩⟩
  · cases hs)
theorem r3_within_en : Enters Tryz.prog 100 := fun args w => by kernel_rfl
def g_within_p (n : Int) (a : Int) (b : Int) : Prop := True
def g_within_r (n : Int) (a : Int) (b : Int) : SV := .bool (L.within n a b)
def g_within_s : List EV → Option (Prop × SV)
  | [.p (.int .i64 n), .p (.int .i64 a), .p (.int .i64 b)] => some (g_within_p n a b, g_within_r n a b)
  | _ => none
abbrev g_within_S : SE.Spec := (specO g_within_s)
def g_within_C : Cfg := { muts := [], frz := lookN [], specs := lookS [], loops := lookL [], iters := lookI [], rfs := lookR [], nils := lookM [] }
theorem g_within_vc (n : Int) (a : Int) (b : Int) (hp : g_within_p n a b) : vc Tryz.prog (g_within_C) (bodyOf Tryz.f105) (st0 Tryz.f105 [.p (.int .i64 n), .p (.int .i64 a), .p (.int .i64 b)]) (retFn Tryz.prog Tryz.f105 (g_within_r n a b)) :=
  @Eq.mpr _ ((bif decide (a ≤ n) then decide (n ≤ b) else false) = L.within n a b) (by kernel_rfl) (by
    grind [L.within])
theorem g_within_ok : SpecOk Tryz.prog 105 g_within_S := fnX Tryz.func105 (c := bodyOf Tryz.f105) (by kernel_rfl) mixed (fun args p r hs hp => by
  unfold g_within_s at hs
  split at hs
  · cases hs; exact ⟨_, _, g_within_vc _ _ _ hp, (.same _ (.same _ (.same _ .nil))), ⟨show SpecsL Tryz.prog _ from SpecsL.nil, rfl, ⟨show ItersL Tryz.prog _ from ItersL.nil, (TrsOk.none (fun _ => rfl))⟩⟩⟩
  · cases hs)
theorem g_within_en : Enters Tryz.prog 105 := fun args w => by kernel_rfl
def p_within_p (n : Int) (a : Int) (b : Int) : Prop := True
def p_within_r (n : Int) (a : Int) (b : Int) : SV := .bool (L.within n a b)
def p_within_s : List EV → Option (Prop × SV)
  | [.p (.int .i64 n), .p (.int .i64 a), .p (.int .i64 b)] => some (p_within_p n a b, p_within_r n a b)
  | _ => none
abbrev p_within_S : SE.Spec := (specO p_within_s)
def p_within_C : Cfg := { muts := [], frz := lookN [], specs := lookS [], loops := lookL [], iters := lookI [], rfs := lookR [], nils := lookM [] }
theorem p_within_vc (n : Int) (a : Int) (b : Int) (hp : p_within_p n a b) : vc Tryz.prog (p_within_C) (bodyOf Tryz.f77) (st0 Tryz.f77 [.p (.int .i64 n), .p (.int .i64 a), .p (.int .i64 b)]) (retFn Tryz.prog Tryz.f77 (p_within_r n a b)) :=
  @Eq.mpr _ ((bif decide (a ≤ n) then decide (n ≤ b) else false) = L.within n a b) (by kernel_rfl) (by
    grind [L.within])
theorem p_within_ok : SpecOk Tryz.prog 77 p_within_S := fnX Tryz.func77 (c := bodyOf Tryz.f77) (by kernel_rfl) mixed (fun args p r hs hp => by
  unfold p_within_s at hs
  split at hs
  · cases hs; exact ⟨_, _, p_within_vc _ _ _ hp, (.same _ (.same _ (.same _ .nil))), ⟨show SpecsL Tryz.prog _ from SpecsL.nil, rfl, ⟨show ItersL Tryz.prog _ from ItersL.nil, (TrsOk.none (fun _ => rfl))⟩⟩⟩
  · cases hs)
theorem p_within_en : Enters Tryz.prog 77 := fun args w => by kernel_rfl
def r3_earlier_p (a : L.Mark) (b : L.Mark) : Prop := True
def r3_earlier_r (a : L.Mark) (b : L.Mark) : SV := .bool (L.earlier a b)
def r3_earlier_s : List EV → Option (Prop × SV)
  | [.p (.agg [.int .i64 a_edge, .int .i64 a_place, .int .i64 a_tone]), .p (.agg [.int .i64 b_edge, .int .i64 b_place, .int .i64 b_tone])] => some (r3_earlier_p (⟨a_edge, a_place, a_tone⟩ : L.Mark) (⟨b_edge, b_place, b_tone⟩ : L.Mark), r3_earlier_r (⟨a_edge, a_place, a_tone⟩ : L.Mark) (⟨b_edge, b_place, b_tone⟩ : L.Mark))
  | _ => none
abbrev r3_earlier_S : SE.Spec := (specO r3_earlier_s)
def r3_earlier_C : Cfg := { muts := [], frz := lookN [], specs := lookS [], loops := lookL [], iters := lookI [], rfs := lookR [], nils := lookM [] }
theorem r3_earlier_vc (a : L.Mark) (b : L.Mark) (hp : r3_earlier_p a b) : vc Tryz.prog (r3_earlier_C) (bodyOf Tryz.f158) (st0 Tryz.f158 [.p (.agg [.int .i64 a.edge, .int .i64 a.place, .int .i64 a.tone]), .p (.agg [.int .i64 b.edge, .int .i64 b.place, .int .i64 b.tone])]) (retFn Tryz.prog Tryz.f158 (r3_earlier_r a b)) :=
  @Eq.mpr _ (((!decide (a.edge = b.edge)) = true → decide (a.edge < b.edge) = L.earlier a b) ∧ ((!decide (a.edge = b.edge)) = false → ((!decide (a.place = b.place)) = true → decide (a.place < b.place) = L.earlier a b) ∧ ((!decide (a.place = b.place)) = false → decide (a.tone < b.tone) = L.earlier a b))) (by kernel_rfl) (by
    grind [L.earlier])
theorem r3_earlier_ok : SpecOk Tryz.prog 158 r3_earlier_S := fnX Tryz.func158 (c := bodyOf Tryz.f158) (by kernel_rfl) mixed (fun args p r hs hp => by
  unfold r3_earlier_s at hs
  split at hs
  · cases hs; exact ⟨_, _, r3_earlier_vc _ _ hp, (.same _ (.same _ .nil)), ⟨show SpecsL Tryz.prog _ from SpecsL.nil, rfl, ⟨show ItersL Tryz.prog _ from ItersL.nil, (TrsOk.none (fun _ => rfl))⟩⟩⟩
  · cases hs)
theorem r3_earlier_en : Enters Tryz.prog 158 := fun args w => by kernel_rfl
def r3_marks_p (l : (L.Sq L.Mark)) : Prop := True
def r3_marks_r (l : (L.Sq L.Mark)) : SV := .bool (L.marks l)
def r3_marks_s : List EV → Option (Prop × SV)
  | [.p (.sl 3 l_n l_g)] => some ((∀ i, i < l_n → l_g i = [.int .i64 ((ofMark (l_g i)).edge), .int .i64 ((ofMark (l_g i)).place), .int .i64 ((ofMark (l_g i)).tone)]) ∧ r3_marks_p (⟨l_n, fun i => ofMark (l_g i)⟩ : (L.Sq L.Mark)), r3_marks_r (⟨l_n, fun i => ofMark (l_g i)⟩ : (L.Sq L.Mark)))
  | _ => none
abbrev r3_marks_S : SE.Spec := (specO r3_marks_s)
def r3_marks_C : Cfg := { muts := [], frz := lookN [], specs := lookS [(100, r3_within_S), (158, r3_earlier_S)], loops := fun _ => none, iters := lookI [], rfs := lookR [], nils := lookM [] }
theorem r3_marks_vc (l : (L.Sq L.Mark)) (hp : r3_marks_p l) : vc Tryz.prog ({ r3_marks_C with loops := lookL [(4, { T := Nat, keep := [0], keepO := [], chg := fun i => [(3, .p (.int .i64 i))], own := fun _ => [], inv := fun i => i ≤ l.n ∧ l.n ≤ 32 ∧ (∀ j, j < i → L.mark1 l j = true), mu := fun i => l.n - i })], rfs := lookR [] }) (bodyOf Tryz.f102) (st0 Tryz.f102 [.p (.sl 3 l.n (fun i => [.int .i64 ((l.g i).edge), .int .i64 ((l.g i).place), .int .i64 ((l.g i).tone)]))]) (retFn Tryz.prog Tryz.f102 (r3_marks_r l)) :=
  @Eq.mpr _ ((decide ((32 : Int) < (↑l.n : Int)) = true → false = L.marks l) ∧ (decide ((32 : Int) < (↑l.n : Int)) = false → (∃ (g : Nat), (0 : Int) = (↑g : Int) ∧ g ≤ l.n ∧ l.n ≤ (32 : Nat) ∧ ∀ (j : Nat), j < g → L.mark1 l j = true) ∧ ∀ (g : Nat), (g ≤ l.n ∧ l.n ≤ (32 : Nat) ∧ ∀ (j : Nat), j < g → L.mark1 l j = true) → (decide ((↑g : Int) < (↑l.n : Int))
 = true → ((0 : Int) ≤ (↑g : Int) ∧ (↑g : Int) < (↑l.n : Int)) ∧ True ∧ ((!!L.within (l.g (Int.toNat (↑g : Int))).place (0 : Int) (16 : Int)) = true → (0 : Int) ≤ (↑g : Int) ∧ (↑g : Int) < (↑l.n : Int)) ∧ ((!!L.within (l.g (Int.toNat (↑g : Int))).place (0 : Int) (16 : Int)) = true → True) ∧ (((!bif !L.within (l.g (Int.toNat (↑g : Int))).place (0 : Int) (16 : Int) then true else
 !L.within (l.g (Int.toNat (↑g : Int))).tone (1 : Int) (16 : Int)) && decide ((0 : Int) < (↑g : Int))) = true → InK .i64 ((↑g : Int) - (1 : Int))) ∧ (((!bif !L.within (l.g (Int.toNat (↑g : Int))).place (0 : Int) (16 : Int) then true else !L.within (l.g (Int.toNat (↑g : Int))).tone (1 : Int) (16 : Int)) && decide ((0 : Int) < (↑g : Int))) = true →
 (0 : Int) ≤ (↑g : Int) - (1 : Int) ∧ (↑g : Int) - (1 : Int) < (↑l.n : Int)) ∧ (((!bif !L.within (l.g (Int.toNat (↑g : Int))).place (0 : Int) (16 : Int) then true else !L.within (l.g (Int.toNat (↑g : Int))).tone (1 : Int) (16 : Int)) && decide ((0 : Int) < (↑g : Int))) = true → (0 : Int) ≤ (↑g : Int) ∧ (↑g : Int) < (↑l.n : Int)) ∧ (((!bif !L.within (l.g (Int.toNat (↑g :
 Int))).place (0 : Int) (16 : Int) then true else !L.within (l.g (Int.toNat (↑g : Int))).tone (1 : Int) (16 : Int)) && decide ((0 : Int) < (↑g : Int))) = true → True) ∧ ((bif bif !L.within (l.g (Int.toNat (↑g : Int))).place (0 : Int) (16 : Int) then true else !L.within (l.g (Int.toNat (↑g : Int))).tone (1 : Int) (16 : Int) then true else bif decide ((0 : Int)
 < (↑g : Int)) then !L.earlier (l.g (Int.toNat ((↑g : Int) - (1 : Int)))) (l.g (Int.toNat (↑g : Int))) else false) = true → false = L.marks l) ∧ ((bif bif !L.within (l.g (Int.toNat (↑g : Int))).place (0 : Int) (16 : Int) then true else !L.within (l.g (Int.toNat (↑g : Int))).tone (1 : Int) (16 : Int) then true else bif decide ((0 : Int) < (↑g : Int)) then
 !L.earlier (l.g (Int.toNat ((↑g : Int) - (1 : Int)))) (l.g (Int.toNat (↑g : Int))) else false) = false → InK .i64 ((↑g : Int) + (1 : Int)) ∧ ∃ (g' : Nat), (↑g : Int) + (1 : Int) = (↑g' : Int) ∧ (l.n = l.n ∧ ∀ (i : Nat), i < l.n → [SV.int .i64 (l.g i).edge, SV.int .i64 (l.g i).place, SV.int .i64 (l.g i).tone] = [SV.int
 .i64 (l.g i).edge, SV.int .i64 (l.g i).place, SV.int .i64 (l.g i).tone]) ∧ (g' ≤ l.n ∧ l.n ≤ (32 : Nat) ∧ ∀ (j : Nat), j < g' → L.mark1 l j = true) ∧ l.n - g' < l.n - g)) ∧ (decide ((↑g : Int) < (↑l.n : Int)) = false → true = L.marks l))) (by kernel_rfl) (by
    refine ⟨fun h => ?_, fun h => ⟨⟨(0 : Nat), by grind⟩, fun g hg => ⟨fun hlt => ?_, fun hge => ?_⟩⟩⟩
    · grind [L.marks]
    · have e : ((g : Int) - 1).toNat = g - 1 := by omega
      have e0 : ((g : Int)).toNat = g := by omega
      simp only [e, e0]
      refine ⟨by grind, trivial, by grind, fun _ => trivial, ?_, by grind, by grind, fun _ => trivial, ?_, ?_⟩
      · intro _; exact InK.of (by grind) (by grind)
      · intro hb
        have : L.mark1 l g = false := by grind [L.mark1]
        simp [L.marks, allB_false (by grind : g < l.n) this]
      · intro hb
        have : L.mark1 l g = true := by grind [L.mark1]
        refine ⟨InK.of (by grind) (by grind), (g + 1 : Nat), by grind, by grind, ?_, by grind⟩
        exact ⟨by grind, by grind, fun j hj => by grind⟩
    · have : L.allB l.n (L.mark1 l) = true := allB_iff.2 (fun i hi => hg.2.2 i (by grind))
      simp [L.marks, this, hg.2.1])
theorem r3_marks_ok : SpecOk Tryz.prog 102 r3_marks_S := fnX Tryz.func102 (c := bodyOf Tryz.f102) (by kernel_rfl) mixed (fun args p r hs hp => by
  unfold r3_marks_s at hs
  split at hs
  · cases hs; exact ⟨_, _, r3_marks_vc _ hp.2, (.p (.sl hp.1) .nil), ⟨show SpecsL Tryz.prog _ from (SpecsL.cons r3_within_ok r3_within_en (SpecsL.cons r3_earlier_ok r3_earlier_en SpecsL.nil)), rfl, ⟨show ItersL Tryz.prog _ from ItersL.nil, (TrsOk.none (fun _ => rfl))⟩⟩⟩
  · cases hs)
theorem r3_marks_en : Enters Tryz.prog 102 := fun args w => by kernel_rfl
end Go.Proofs.YtooapgllahonaaaGreat

namespace Go.Proofs.YtooapgllahonaaaGreat
open Go.SE Go.RowKit
set_option maxRecDepth 100000
set_option maxHeartbeats 4000000
set_option linter.unusedVariables false
attribute [local irreducible] vc

def L.prev (n k : Nat) : Nat := (Int.tmod ((k : Int) + (n : Int) - 1) (n : Int)).toNat
def L.next (n k : Nat) : Nat := (Int.tmod ((k : Int) + 1) (n : Int)).toNat
def L.areaTo (l : L.Sq L.Pt) : Nat → Int
  | 0 => 0
  | k + 1 => L.areaTo l k + ((l.g k).x * (l.g (L.next l.n k)).y - (l.g (L.next l.n k)).x * (l.g k).y)
theorem next_lt {n k : Nat} (h : 0 < n) : L.next n k < n := by
  have t3 := Int.tmod_nonneg (n : Int) (show 0 ≤ (k : Int) + 1 by omega)
  have t4 := Int.tmod_lt_of_pos ((k : Int) + 1) (show 0 < (n : Int) by omega)
  unfold L.next; omega
def L.small (l : L.Sq L.Pt) : Prop := l.n ≤ 1000 ∧ ∀ i, i < l.n → -4000000 ≤ (l.g i).x ∧ (l.g i).x ≤ 4000000 ∧ -4000000 ≤ (l.g i).y ∧ (l.g i).y ≤ 4000000
theorem area_term {l : L.Sq L.Pt} (h : L.small l) {k : Nat} (hk : k < l.n) : (-16000000000000 ≤ (l.g k).x * (l.g (L.next l.n k)).y ∧ (l.g k).x * (l.g (L.next l.n k)).y ≤ 16000000000000) ∧ (-16000000000000 ≤ (l.g (L.next l.n k)).x * (l.g k).y ∧ (l.g (L.next l.n k)).x * (l.g k).y ≤ 16000000000000) := by
  have h1 := h.2 k hk
  have h2 := h.2 _ (next_lt (n := l.n) (k := k) (by omega))
  have m1 := mul_bd (m := 4000000) (n := 4000000) h1.1 h1.2.1 h2.2.2.1 h2.2.2.2
  have m2 := mul_bd (m := 4000000) (n := 4000000) h2.1 h2.2.1 h1.2.2.1 h1.2.2.2
  omega
theorem areaTo_bd {l : L.Sq L.Pt} (h : L.small l) : ∀ k, k ≤ l.n → -(32000000000000 * (k : Int)) ≤ L.areaTo l k ∧ L.areaTo l k ≤ 32000000000000 * (k : Int)
  | 0, _ => by simp [L.areaTo]
  | k + 1, hk => by
    have ih := areaTo_bd h k (by omega)
    have t := area_term h (k := k) (by omega)
    simp only [L.areaTo]
    omega
def p_triples1_p (l : (L.Sq L.Pt)) : Prop := l.n ≤ 1000
def p_triples1_n (l : (L.Sq L.Pt)) : Nat := l.n
def p_triples1_i (l : (L.Sq L.Pt)) : Nat → List SV := fun k => [.int .i64 (k : Int), .agg [.int .i64 (l.g (Int.tmod ((k : Int) + (l.n : Int) - 1) (l.n : Int)).toNat).x, .int .i64 (l.g (Int.tmod ((k : Int) + (l.n : Int) - 1) (l.n : Int)).toNat).y, .int .i64 (l.g (k : Int).toNat).x, .int .i64 (l.g (k : Int).toNat).y, .int .i64 (l.g (Int.tmod ((k : Int) + 1) (l.n : Int)).toNat).x, .int .i64 (l.g (Int.tmod ((k : Int) + 1) (l.n : Int)).toNat).y]]
def p_triples1_ic : List SV → Option (Prop × Nat × (Nat → List SV))
  | [.ref [.sl 2 l_n l_g] 0] => some ((∀ i, i < l_n → l_g i = [.int .i64 ((ofPt (l_g i)).x), .int .i64 ((ofPt (l_g i)).y)]) ∧ p_triples1_p (⟨l_n, fun i => ofPt (l_g i)⟩ : (L.Sq L.Pt)), p_triples1_n (⟨l_n, fun i => ofPt (l_g i)⟩ : (L.Sq L.Pt)), p_triples1_i (⟨l_n, fun i => ofPt (l_g i)⟩ : (L.Sq L.Pt)))
  | _ => none
abbrev p_triples1_it : ItSpec := itOf p_triples1_ic
def p_triples1_C : Cfg := { muts := [], frz := lookN [], specs := lookS [], loops := fun _ => none, iters := lookI [], rfs := lookR [] }
theorem p_triples1_vc (yl : Nat) (l : (L.Sq L.Pt)) (hp : p_triples1_p l) : vc Tryz.prog { p_triples1_C with loops := lookL [(1, { T := Nat, keep := [0, 1, 5, 6], keepO := [], chg := fun i => [(7, .p (.int .i64 (i : Int)))], own := fun _ => [], inv := fun i => i ≤ l.n, mu := fun i => l.n - i, yk := some (fun i => i) })], yld := some ⟨yl, p_triples1_n l, p_triples1_i l⟩ } (bodyOf Tryz.f155) (st0 Tryz.f155 (.yield yl :: ([.ref [.sl 2 l.n (fun i => [.int .i64 ((l.g i).x), .int .i64 ((l.g i).y)])] 0] : List SV).map .p)) (retIt Tryz.prog Tryz.f155 (p_triples1_n l)) :=
  @Eq.mpr _ ((∃ (g : Nat), nat_lit 0 = g ∧ false = false ∧ (0 : Int) = (↑g : Int) ∧ g ≤ l.n) ∧ ∀ (g : Nat), g ≤ l.n → (decide ((↑g : Int) < (↑l.n : Int)) = true → ((0 : Int) ≤ (↑g : Int) ∧ (↑g : Int) < (↑l.n : Int)) ∧ InK .i64 ((↑g : Int) + (↑l.n : Int)) ∧ InK .i64 ((↑g : Int) + (↑l.n : Int) - (1 : Int)) ∧ (↑l.n : Int) ≠ (0 : Int) ∧ ((0 : Int) ≤ Int.tmod
 ((↑g : Int) + (↑l.n : Int) - (1 : Int)) (↑l.n : Int) ∧ Int.tmod ((↑g : Int) + (↑l.n : Int) - (1 : Int)) (↑l.n : Int) < (↑l.n : Int)) ∧ InK .i64 ((↑g : Int) + (1 : Int)) ∧ (↑l.n : Int) ≠ (0 : Int) ∧ ((0 : Int) ≤ Int.tmod ((↑g : Int) + (1 : Int)) (↑l.n : Int) ∧ Int.tmod ((↑g : Int) + (1 : Int)) (↑l.n : Int) < (↑l.n : Int)) ∧ yl = yl ∧ g < l.n ∧ [SV.int .i64 (↑g :
 Int), SV.agg [SV.int .i64 (l.g (Int.toNat (Int.tmod ((↑g : Int) + (↑l.n : Int) - (1 : Int)) (↑l.n : Int)))).x, SV.int .i64 (l.g (Int.toNat (Int.tmod ((↑g : Int) + (↑l.n : Int) - (1 : Int)) (↑l.n : Int)))).y, SV.int .i64 (l.g (Int.toNat (↑g : Int))).x, SV.int .i64 (l.g (Int.toNat (↑g : Int))).y, SV.int .i64 (l.g
 (Int.toNat (Int.tmod ((↑g : Int) + (1 : Int)) (↑l.n : Int)))).x, SV.int .i64 (l.g (Int.toNat (Int.tmod ((↑g : Int) + (1 : Int)) (↑l.n : Int)))).y]] = [SV.int .i64 (↑g : Int), SV.agg [SV.int .i64 (l.g (Int.toNat (Int.tmod ((↑g : Int) + (↑l.n : Int) - (1 : Int)) (↑l.n : Int)))).x, SV.int .i64 (l.g (Int.toNat (Int.tmod ((↑g : Int)
 + (↑l.n : Int) - (1 : Int)) (↑l.n : Int)))).y, SV.int .i64 (l.g (Int.toNat (↑g : Int))).x, SV.int .i64 (l.g (Int.toNat (↑g : Int))).y, SV.int .i64 (l.g (Int.toNat (Int.tmod ((↑g : Int) + (1 : Int)) (↑l.n : Int)))).x, SV.int .i64 (l.g (Int.toNat (Int.tmod ((↑g : Int) + (1 : Int)) (↑l.n : Int)))).y]] ∧ ((false = true → g + (1
 : Nat) = l.n ∨ g + (1 : Nat) = l.n + (1 : Nat)) ∧ (false = false → InK .i64 ((↑g : Int) + (1 : Int)) ∧ ∃ (g' : Nat), g + (1 : Nat) = g' ∧ false = false ∧ (↑g : Int) + (1 : Int) = (↑g' : Int) ∧ (↑l.n : Int) = (↑l.n : Int) ∧ (l.n = l.n ∧ ∀ (i : Nat), i < l.n → [SV.int .i64 (l.g i).x, SV.int .i64 (l.g i).y] = [SV.int
 .i64 (l.g i).x, SV.int .i64 (l.g i).y]) ∧ yl = yl ∧ SV.ref [SV.sl (nat_lit 2) l.n fun (i : Nat) ↦ [SV.int .i64 (l.g i).x, SV.int .i64 (l.g i).y]] (nat_lit 0) = SV.ref [SV.sl (nat_lit 2) l.n fun (i : Nat) ↦ [SV.int .i64 (l.g i).x, SV.int .i64 (l.g i).y]] (nat_lit 0) ∧ g' ≤ l.n ∧ l.n -
 g' < l.n - g)) ∧ (true = true → l.n + (1 : Nat) = l.n ∨ l.n + (1 : Nat) = l.n + (1 : Nat)) ∧ (true = false → InK .i64 ((↑g : Int) + (1 : Int)) ∧ ∃ (g' : Nat), l.n + (1 : Nat) = g' ∧ false = false ∧ (↑g : Int) + (1 : Int) = (↑g' : Int) ∧ (↑l.n : Int) = (↑l.n : Int) ∧ (l.n = l.n ∧ ∀ (i : Nat), i < l.n → [SV.int .i64 (l.g i).x,
 SV.int .i64 (l.g i).y] = [SV.int .i64 (l.g i).x, SV.int .i64 (l.g i).y]) ∧ yl = yl ∧ SV.ref [SV.sl (nat_lit 2) l.n fun (i : Nat) ↦ [SV.int .i64 (l.g i).x, SV.int .i64 (l.g i).y]] (nat_lit 0) = SV.ref [SV.sl (nat_lit 2) l.n fun (i : Nat) ↦ [SV.int .i64 (l.g i).x, SV.int
 .i64 (l.g i).y]] (nat_lit 0) ∧ g' ≤ l.n ∧ l.n - g' < l.n - g)) ∧ (decide ((↑g : Int) < (↑l.n : Int)) = false → g = l.n ∨ g = l.n + (1 : Nat))) (by kernel_rfl) (by
    refine ⟨⟨(0 : Nat), rfl, rfl, rfl, Nat.zero_le _⟩, fun g hg => ⟨fun hlt => ?_, fun hge => ?_⟩⟩
    · have hb : (g : Int) < (l.n : Int) := by simpa using hlt
      have hn : l.n ≤ 1000 := hp
      have t1 := Int.tmod_nonneg (l.n : Int) (show 0 ≤ (g : Int) + (l.n : Int) - 1 by omega)
      have t2 := Int.tmod_lt_of_pos ((g : Int) + (l.n : Int) - 1) (show 0 < (l.n : Int) by omega)
      have t3 := Int.tmod_nonneg (l.n : Int) (show 0 ≤ (g : Int) + 1 by omega)
      have t4 := Int.tmod_lt_of_pos ((g : Int) + 1) (show 0 < (l.n : Int) by omega)
      refine ⟨by omega, InK.of (by omega) (by omega), InK.of (by omega) (by omega), by omega, ⟨t1, t2⟩, InK.of (by omega) (by omega), by omega, ⟨t3, t4⟩, rfl, by omega, rfl, ?_⟩
      exact ⟨⟨fun h => (by cases h), fun _ => ⟨InK.of (by omega) (by omega), g + 1, rfl, rfl, by omega, rfl, ⟨rfl, fun _ _ => rfl⟩, rfl, rfl, by omega, by omega⟩⟩, fun _ => .inr rfl, fun h => (by cases h)⟩
    · have hb : ¬ (g : Int) < (l.n : Int) := by simpa using hge
      exact .inl (by omega))
theorem p_triples1_itok : ItOk Tryz.prog 155 p_triples1_it := iterX Tryz.func155 (c := bodyOf Tryz.f155) (by kernel_rfl) mixed (fun caps l p n g hs hp => by
  unfold p_triples1_ic at hs
  split at hs
  · cases hs; exact ⟨_, _, p_triples1_vc l _ hp.2, (.cons (Ext.ref rfl (fun i hi => by
      rcases i with _ | i
      · show Ext (SV.sl _ _ _) (SV.sl _ _ _); exact (Ext.sl hp.1)
      exact absurd hi (by simp; try omega))) .nil), rfl, show SpecsL Tryz.prog _ from SpecsL.nil, ⟨show ItersL Tryz.prog _ from ItersL.nil, TrsOk.none (fun _ => rfl)⟩⟩
  · cases hs)
theorem p_triples1_en : Enters Tryz.prog 155 := fun args w => by kernel_rfl
def p_triples_p (l : (L.Sq L.Pt)) : Prop := l.n ≤ 1000
def p_triples_r (l : (L.Sq L.Pt)) : SV := .clo 155 [.ref [(.sl 2 l.n (fun i => [.int .i64 ((l.g i).x), .int .i64 ((l.g i).y)]))] 0]
def p_triples_s : List EV → Option (Prop × SV)
  | [.p (.sl 2 l_n l_g)] => some ((∀ i, i < l_n → l_g i = [.int .i64 ((ofPt (l_g i)).x), .int .i64 ((ofPt (l_g i)).y)]) ∧ p_triples_p (⟨l_n, fun i => ofPt (l_g i)⟩ : (L.Sq L.Pt)), p_triples_r (⟨l_n, fun i => ofPt (l_g i)⟩ : (L.Sq L.Pt)))
  | _ => none
abbrev p_triples_S : SE.Spec := (specO p_triples_s)
def p_triples_C : Cfg := { muts := [], frz := lookN [], specs := lookS [], loops := lookL [], iters := lookI [], rfs := lookR [], nils := lookM [] }
theorem p_triples_vc (l : (L.Sq L.Pt)) (hp : p_triples_p l) : vc Tryz.prog (p_triples_C) (bodyOf Tryz.f90) (st0 Tryz.f90 [.p (.sl 2 l.n (fun i => [.int .i64 ((l.g i).x), .int .i64 ((l.g i).y)]))]) (retFn Tryz.prog Tryz.f90 (p_triples_r l)) :=
  @Eq.mpr _ (SV.clo (nat_lit 155) [SV.ref [SV.sl (nat_lit 2) l.n fun (i : Nat) ↦ [SV.int .i64 (l.g i).x, SV.int .i64 (l.g i).y]] (nat_lit 0)] = SV.clo (nat_lit 155) [SV.ref [SV.sl (nat_lit 2) l.n fun (i : Nat) ↦ [SV.int .i64 (l.g i).x, SV.int .i64 (l.g i).y]] (nat_lit 0)]) (by kernel_rfl) (by
    rfl)
theorem p_triples_ok : SpecOk Tryz.prog 90 p_triples_S := fnX Tryz.func90 (c := bodyOf Tryz.f90) (by kernel_rfl) mixed (fun args p r hs hp => by
  unfold p_triples_s at hs
  split at hs
  · cases hs; exact ⟨_, _, p_triples_vc _ hp.2, (.p (.sl hp.1) .nil), ⟨show SpecsL Tryz.prog _ from SpecsL.nil, rfl, ⟨show ItersL Tryz.prog _ from ItersL.nil, (TrsOk.none (fun _ => rfl))⟩⟩⟩
  · cases hs)
theorem p_triples_en : Enters Tryz.prog 90 := fun args w => by kernel_rfl
def p_area_p (l : (L.Sq L.Pt)) : Prop := L.small l
def p_area_r (l : (L.Sq L.Pt)) : SV := .int .i64 (L.areaTo l l.n)
def p_area_s : List EV → Option (Prop × SV)
  | [.p (.sl 2 l_n l_g)] => some ((∀ i, i < l_n → l_g i = [.int .i64 ((ofPt (l_g i)).x), .int .i64 ((ofPt (l_g i)).y)]) ∧ p_area_p (⟨l_n, fun i => ofPt (l_g i)⟩ : (L.Sq L.Pt)), p_area_r (⟨l_n, fun i => ofPt (l_g i)⟩ : (L.Sq L.Pt)))
  | _ => none
abbrev p_area_S : SE.Spec := (specO p_area_s)
def p_area_C : Cfg := { muts := [3, 5], frz := lookN [], specs := lookS [(90, p_triples_S)], loops := lookL [], iters := lookI [(155, p_triples1_it)], rfs := lookR [], nils := lookM [] }
theorem p_area_vc (l : (L.Sq L.Pt)) (hp : p_area_p l) : vc Tryz.prog ({ p_area_C with loops := lookL [], rfs := lookR [(3, { T := Nat, keep := [3], keepO := [], own := fun k _ => [(3, .blk 3 [.p (.int .i64 (L.areaTo l k))])], inv := fun k _ => k ≤ l.n })] }) (bodyOf Tryz.f89) (st0 Tryz.f89 [.p (.sl 2 l.n (fun i => [.int .i64 ((l.g i).x), .int .i64 ((l.g i).y)]))]) (retFn Tryz.prog Tryz.f89 (p_area_r l)) :=
  @Eq.mpr _ (((∀ (i : Nat), i < l.n → [SV.int .i64 (l.g i).x, SV.int .i64 (l.g i).y] = [SV.int .i64 (l.g i).x, SV.int .i64 (l.g i).y]) ∧ l.n ≤ (1000 : Nat)) ∧ (((∀ (i : Nat), i < l.n → [SV.int .i64 (l.g i).x, SV.int .i64 (l.g i).y] = [SV.int .i64 (l.g i).x, SV.int .i64 (l.g i).y]) ∧
 l.n ≤ (1000 : Nat)) ∧ ∃ (t : Nat), (0 : Int) = L.areaTo l (0 : Nat) ∧ (0 : Nat) ≤ l.n) ∧ (∀ (k t : Nat) (vk : Nat → Go.Value), k < l.n → k ≤ l.n → ((0 : Int) ≤ (1 : Int) ∧ (1 : Int) < (↑(3 : Nat) : Int)) ∧ ((0 : Int) ≤ (2 : Int) ∧ (2 : Int) < (↑(3 : Nat) : Int)) ∧ InK .i64 ((l.g (Int.toNat (↑k : Int))).x * (l.g (Int.toNat (Int.tmod ((↑k : Int) + (1 : Int)) (↑l.n : Int)))).y) ∧ ((0
 : Int) ≤ (2 : Int) ∧ (2 : Int) < (↑(3 : Nat) : Int)) ∧ ((0 : Int) ≤ (1 : Int) ∧ (1 : Int) < (↑(3 : Nat) : Int)) ∧ InK .i64 ((l.g (Int.toNat (Int.tmod ((↑k : Int) + (1 : Int)) (↑l.n : Int)))).x * (l.g (Int.toNat (↑k : Int))).y) ∧ InK .i64 ((l.g (Int.toNat (↑k : Int))).x * (l.g (Int.toNat (Int.tmod ((↑k : Int) + (1 : Int)) (↑l.n : Int)))).y - (l.g (Int.toNat (Int.tmod
 ((↑k : Int) + (1 : Int)) (↑l.n : Int)))).x * (l.g (Int.toNat (↑k : Int))).y) ∧ InK .i64 (L.areaTo l k + ((l.g (Int.toNat (↑k : Int))).x * (l.g (Int.toNat (Int.tmod ((↑k : Int) + (1 : Int)) (↑l.n : Int)))).y - (l.g (Int.toNat (Int.tmod ((↑k : Int) + (1 : Int)) (↑l.n : Int)))).x * (l.g (Int.toNat (↑k : Int))).y)) ∧ ∃ (t' : Nat), nat_lit 0 = nat_lit 0 ∧ vk (nat_lit 3) = vk (nat_lit 3)
 ∧ L.areaTo l k + ((l.g (Int.toNat (↑k : Int))).x * (l.g (Int.toNat (Int.tmod ((↑k : Int) + (1 : Int)) (↑l.n : Int)))).y - (l.g (Int.toNat (Int.tmod ((↑k : Int) + (1 : Int)) (↑l.n : Int)))).x * (l.g (Int.toNat (↑k : Int))).y) = L.areaTo l (k + (1 : Nat)) ∧ k + (1 : Nat) ≤ l.n) ∧ ∀ (t : Nat), l.n ≤ l.n → L.areaTo l l.n = L.areaTo l l.n) (by kernel_rfl) (by
    have hs : L.small l := hp
    refine ⟨⟨fun _ _ => rfl, hs.1⟩, ⟨⟨fun _ _ => rfl, hs.1⟩, (0 : Nat), rfl, Nat.zero_le _⟩, fun k t vk hk hi => ?_, fun _ _ => rfl⟩
    have e0 : ((k : Int)).toNat = k := by omega
    have e1 : (Int.tmod ((k : Int) + 1) (l.n : Int)).toNat = L.next l.n k := rfl
    rw [e0, e1]
    have b1 := area_term hs hk
    have b2 := areaTo_bd hs k hi
    have hn := hs.1
    refine ⟨by omega, by omega, InK.of (by omega) (by omega), by omega, by omega, InK.of (by omega) (by omega), InK.of (by omega) (by omega), InK.of (by omega) (by omega), (0 : Nat), rfl, rfl, rfl, hk⟩)
theorem p_area_ok : SpecOk Tryz.prog 89 p_area_S := fnX Tryz.func89 (c := bodyOf Tryz.f89) (by kernel_rfl) mixed (fun args p r hs hp => by
  unfold p_area_s at hs
  split at hs
  · cases hs; exact ⟨_, _, p_area_vc _ hp.2, (.p (.sl hp.1) .nil), ⟨show SpecsL Tryz.prog _ from (SpecsL.cons p_triples_ok p_triples_en SpecsL.nil), rfl, ⟨show ItersL Tryz.prog _ from (ItersL.cons p_triples1_itok p_triples1_en ItersL.nil), (TrsOk.none (fun _ => rfl))⟩⟩⟩
  · cases hs)
theorem p_area_en : Enters Tryz.prog 89 := fun args w => by kernel_rfl
end Go.Proofs.YtooapgllahonaaaGreat

namespace Go.Proofs.YtooapgllahonaaaGreat
open Go.SE Go.RowKit
set_option maxRecDepth 100000
set_option maxHeartbeats 4000000
set_option linter.unusedVariables false
attribute [local irreducible] vc

def L.cmp (a b : Int) : Int := bif decide (a < b) then -1 else bif decide (b < a) then 1 else 0
def L.or2 (a b : Int) : Int := bif decide (a = 0) then b else a
def L.firstNZ (g : Nat → Int) : Nat → Int
  | 0 => 0
  | n + 1 => L.or2 (L.firstNZ g n) (g n)
theorem firstNZ_zero {g : Nat → Int} : ∀ {n : Nat}, (∀ j, j < n → g j = 0) → L.firstNZ g n = 0
  | 0, _ => rfl
  | n + 1, h => by rw [L.firstNZ, firstNZ_zero (n := n) (fun j hj => h j (by omega)), h n (by omega)]; rfl
theorem firstNZ_at {g : Nat → Int} {i : Nat} (h0 : ∀ j, j < i → g j = 0) (hi : g i ≠ 0) : ∀ {n : Nat}, i < n → L.firstNZ g n = g i
  | n + 1, h => by
    by_cases hin : i < n
    · simp [L.firstNZ, L.or2, firstNZ_at h0 hi hin, hi]
    · have : i = n := by omega
      subst this
      simp [L.firstNZ, L.or2, firstNZ_zero h0]
def L.idx : Nat → (Nat → Bool) → Int
  | 0, _ => -1
  | n + 1, f => bif decide (0 ≤ L.idx n f) then L.idx n f else bif f n then (n : Int) else -1
def L.anyB : Nat → (Nat → Bool) → Bool
  | 0, _ => false
  | n + 1, f => L.anyB n f || f n
theorem anyB_iff {f : Nat → Bool} : ∀ {n : Nat}, L.anyB n f = true ↔ ∃ i, i < n ∧ f i = true
  | 0 => by simp [L.anyB]
  | n + 1 => by
    simp only [L.anyB, Bool.or_eq_true, anyB_iff (n := n)]
    constructor
    · rintro (⟨i, h, k⟩ | h)
      · exact ⟨i, by omega, k⟩
      · exact ⟨n, by omega, h⟩
    · rintro ⟨i, h, k⟩
      rcases Nat.lt_succ_iff_lt_or_eq.1 h with h | rfl
      · exact .inl ⟨i, h, k⟩
      · exact .inr k
theorem idx_none {f : Nat → Bool} : ∀ {n : Nat}, (∀ j, j < n → f j = false) → L.idx n f = -1
  | 0, _ => rfl
  | n + 1, h => by rw [L.idx, idx_none (n := n) (fun j hj => h j (by omega)), h n (by omega)]; rfl
theorem idx_at {f : Nat → Bool} {i : Nat} (h0 : ∀ j, j < i → f j = false) (hi : f i = true) : ∀ {n : Nat}, i < n → L.idx n f = (i : Int)
  | n + 1, h => by
    by_cases hin : i < n
    · simp [L.idx, idx_at h0 hi hin]
    · have : i = n := by omega
      subst this
      simp [L.idx, idx_none h0, hi]
theorem idx_any {f : Nat → Bool} : ∀ {n : Nat}, decide (0 ≤ L.idx n f) = L.anyB n f
  | 0 => rfl
  | n + 1 => by
    have ih := idx_any (f := f) (n := n)
    unfold L.anyB
    rw [← ih]
    cases hf : f n <;> by_cases h : 0 ≤ L.idx n f <;> simp [L.idx, hf, h]
theorem idx_lt {f : Nat → Bool} : ∀ {n : Nat}, -1 ≤ L.idx n f ∧ L.idx n f < (n : Int)
  | 0 => by simp [L.idx]
  | n + 1 => by
    have ih := idx_lt (f := f) (n := n)
    cases hf : f n <;> by_cases h : 0 ≤ L.idx n f <;> simp [L.idx, hf, h] <;> omega
def L.cnt (p : Nat → Bool) : Nat → Nat
  | 0 => 0
  | n + 1 => bif p n then L.cnt p n + 1 else L.cnt p n
theorem cnt_le {p : Nat → Bool} : ∀ {n : Nat}, L.cnt p n ≤ n
  | 0 => Nat.le_refl _
  | n + 1 => by
    have := cnt_le (p := p) (n := n)
    unfold L.cnt
    cases p n <;> simp <;> omega
def L.selN (p : Nat → Bool) : Nat → Nat → Nat
  | 0, _ => 0
  | n + 1, k => bif p n && decide (k = L.cnt p n) then n else L.selN p n k
theorem cnt_yes {p : Nat → Bool} {n : Nat} (h : p n = true) : L.cnt p (n + 1) = L.cnt p n + 1 := by simp [L.cnt, h]
theorem cnt_not {p : Nat → Bool} {n : Nat} (h : p n = false) : L.cnt p (n + 1) = L.cnt p n := by simp [L.cnt, h]
theorem selN_new {p : Nat → Bool} {n : Nat} (h : p n = true) : L.selN p (n + 1) (L.cnt p n) = n := by simp [L.selN, h]
theorem selN_old {p : Nat → Bool} {n k : Nat} (h : k ≠ L.cnt p n) : L.selN p (n + 1) k = L.selN p n k := by simp [L.selN, h]
theorem selN_not {p : Nat → Bool} {n k : Nat} (h : p n = false) : L.selN p (n + 1) k = L.selN p n k := by simp [L.selN, h]
theorem sel_in {p : Nat → Bool} : ∀ {n k : Nat}, k < L.cnt p n → L.selN p n k < n ∧ p (L.selN p n k) = true
  | 0, k, h => absurd h (Nat.not_lt_zero _)
  | n + 1, k, h => by
    cases hp : p n with
    | false =>
      rw [cnt_not hp] at h
      rw [selN_not hp]
      have := sel_in (p := p) h
      exact ⟨by omega, this.2⟩
    | true =>
      rw [cnt_yes hp] at h
      by_cases e : k = L.cnt p n
      · rw [e, selN_new hp]; exact ⟨by omega, hp⟩
      · rw [selN_old e]
        have := sel_in (p := p) (n := n) (k := k) (by omega)
        exact ⟨by omega, this.2⟩
theorem sel_of {p : Nat → Bool} {c : Nat} (hc : p c = true) : ∀ {n : Nat}, c < n → ∃ k, k < L.cnt p n ∧ L.selN p n k = c
  | 0, h => absurd h (Nat.not_lt_zero _)
  | n + 1, h => by
    rcases Nat.lt_succ_iff_lt_or_eq.1 h with h' | rfl
    · obtain ⟨k, h1, h2⟩ := sel_of hc h'
      cases hp : p n with
      | false => exact ⟨k, by rw [cnt_not hp]; exact h1, by rw [selN_not hp]; exact h2⟩
      | true => exact ⟨k, by rw [cnt_yes hp]; omega, by rw [selN_old (by omega)]; exact h2⟩
    · exact ⟨L.cnt p c, by rw [cnt_yes hc]; omega, selN_new hc⟩
theorem band (a b : Bool) : (bif a then b else false) = (a && b) := by cases a <;> rfl
theorem bor (a b : Bool) : (bif a then true else b) = (a || b) := by cases a <;> rfl
def c_isNaN_p (x : Int) : Prop := True
def c_isNaN_r (x : Int) : SV := .bool false
def c_isNaN_s : List EV → Option (Prop × SV)
  | [.p (.int .i64 x)] => some (c_isNaN_p x, c_isNaN_r x)
  | _ => none
abbrev c_isNaN_S : SE.Spec := (specO c_isNaN_s)
def c_isNaN_C : Cfg := { muts := [], frz := lookN [], specs := lookS [], loops := lookL [], iters := lookI [], rfs := lookR [], nils := lookM [] }
theorem c_isNaN_vc (x : Int) (hp : c_isNaN_p x) : vc Tryz.prog (c_isNaN_C) (bodyOf Tryz.f156) (st0 Tryz.f156 [.p (.int .i64 x)]) (retFn Tryz.prog Tryz.f156 (c_isNaN_r x)) :=
  @Eq.mpr _ ((!decide (x = x)) = false) (by kernel_rfl) (by
    simp)
theorem c_isNaN_ok : SpecOk Tryz.prog 156 c_isNaN_S := fnX Tryz.func156 (c := bodyOf Tryz.f156) (by kernel_rfl) mixed (fun args p r hs hp => by
  unfold c_isNaN_s at hs
  split at hs
  · cases hs; exact ⟨_, _, c_isNaN_vc _ hp, (.same _ .nil), ⟨show SpecsL Tryz.prog _ from SpecsL.nil, rfl, ⟨show ItersL Tryz.prog _ from ItersL.nil, (TrsOk.none (fun _ => rfl))⟩⟩⟩
  · cases hs)
theorem c_isNaN_en : Enters Tryz.prog 156 := fun args w => by kernel_rfl
def c_cmp_p (a : Int) (b : Int) : Prop := True
def c_cmp_r (a : Int) (b : Int) : SV := .int .i64 (L.cmp a b)
def c_cmp_s : List EV → Option (Prop × SV)
  | [.p (.int .i64 a), .p (.int .i64 b)] => some (c_cmp_p a b, c_cmp_r a b)
  | _ => none
abbrev c_cmp_S : SE.Spec := (specO c_cmp_s)
def c_cmp_C : Cfg := { muts := [], frz := lookN [], specs := lookS [(156, c_isNaN_S)], loops := lookL [], iters := lookI [], rfs := lookR [], nils := lookM [] }
theorem c_cmp_vc (a : Int) (b : Int) (hp : c_cmp_p a b) : vc Tryz.prog (c_cmp_C) (bodyOf Tryz.f94) (st0 Tryz.f94 [.p (.int .i64 a), .p (.int .i64 b)]) (retFn Tryz.prog Tryz.f94 (c_cmp_r a b)) :=
  @Eq.mpr _ (True ∧ True ∧ (false = true → (false = true → (0 : Int) = L.cmp a b) ∧ (false = false → (-1 : Int) = L.cmp a b)) ∧ (false = false → (false = true → (1 : Int) = L.cmp a b) ∧ (false = false → (decide (a < b) = true → (-1 : Int) = L.cmp a b) ∧ (decide (a < b) = false → (decide (b < a) = true → (1
 : Int) = L.cmp a b) ∧ (decide (b < a) = false → (0 : Int) = L.cmp a b))))) (by kernel_rfl) (by
    grind [L.cmp])
theorem c_cmp_ok : SpecOk Tryz.prog 94 c_cmp_S := fnX Tryz.func94 (c := bodyOf Tryz.f94) (by kernel_rfl) mixed (fun args p r hs hp => by
  unfold c_cmp_s at hs
  split at hs
  · cases hs; exact ⟨_, _, c_cmp_vc _ _ hp, (.same _ (.same _ .nil)), ⟨show SpecsL Tryz.prog _ from (SpecsL.cons c_isNaN_ok c_isNaN_en SpecsL.nil), rfl, ⟨show ItersL Tryz.prog _ from ItersL.nil, (TrsOk.none (fun _ => rfl))⟩⟩⟩
  · cases hs)
theorem c_cmp_en : Enters Tryz.prog 94 := fun args w => by kernel_rfl
def c_or_p (l : (L.Sq Int)) : Prop := l.n ≤ 1000000
def c_or_r (l : (L.Sq Int)) : SV := .int .i64 (L.firstNZ l.g l.n)
def c_or_s : List EV → Option (Prop × SV)
  | [.p (.sl 1 l_n l_g)] => some ((∀ i, i < l_n → l_g i = [.int .i64 ((intOf (l_g i)))]) ∧ c_or_p (⟨l_n, fun i => intOf (l_g i)⟩ : (L.Sq Int)), c_or_r (⟨l_n, fun i => intOf (l_g i)⟩ : (L.Sq Int)))
  | _ => none
abbrev c_or_S : SE.Spec := (specO c_or_s)
def c_or_C : Cfg := { muts := [], frz := lookN [], specs := lookS [], loops := fun _ => none, iters := lookI [], rfs := lookR [], nils := lookM [] }
theorem c_or_vc (l : (L.Sq Int)) (hp : c_or_p l) : vc Tryz.prog ({ c_or_C with loops := lookL [(3, { T := Nat, keep := [0, 3, 6, 7], keepO := [], chg := fun i => [(8, .p (.int .i64 i))], own := fun _ => [], inv := fun i => i ≤ l.n ∧ (∀ j, j < i → l.g j = 0), mu := fun i => l.n - i })], rfs := lookR [] }) (bodyOf Tryz.f116) (st0 Tryz.f116 [.p (.sl 1 l.n (fun i => [.int .i64 ((l.g i))]))]) (retFn Tryz.prog Tryz.f116 (c_or_r l)) :=
  @Eq.mpr _ ((∃ (g : Nat), (0 : Int) = (↑g : Int) ∧ g ≤ l.n ∧ ∀ (j : Nat), j < g → l.g j = (0 : Int)) ∧ ∀ (g : Nat), (g ≤ l.n ∧ ∀ (j : Nat), j < g → l.g j = (0 : Int)) → (decide ((↑g : Int) < (↑l.n : Int)) = true → ((0 : Int) ≤ (↑g : Int) ∧ (↑g : Int) < (↑l.n : Int)) ∧ ((!decide (l.g (Int.toNat (↑g : Int)) = (0 : Int))) = true → l.g (Int.toNat (↑g : Int)) = L.firstNZ l.g l.n) ∧
 ((!decide (l.g (Int.toNat (↑g : Int)) = (0 : Int))) = false → InK .i64 ((↑g : Int) + (1 : Int)) ∧ ∃ (g' : Nat), (↑g : Int) + (1 : Int) = (↑g' : Int) ∧ (↑l.n : Int) = (↑l.n : Int) ∧ (l.n = l.n ∧ ∀ (i : Nat), i < l.n → [SV.int .i64 (l.g i)] = [SV.int .i64 (l.g i)]) ∧ (0 : Int) = (0 : Int) ∧ (l.n = l.n ∧ ∀ (i : Nat), i < l.n →
 [SV.int .i64 (l.g i)] = [SV.int .i64 (l.g i)]) ∧ (g' ≤ l.n ∧ ∀ (j : Nat), j < g' → l.g j = (0 : Int)) ∧ l.n - g' < l.n - g)) ∧ (decide ((↑g : Int) < (↑l.n : Int)) = false → (0 : Int) = L.firstNZ l.g l.n)) (by kernel_rfl) (by
    refine ⟨⟨(0 : Nat), rfl, Nat.zero_le _, fun j hj => by omega⟩, fun g hg => ⟨fun hlt => ?_, fun hge => ?_⟩⟩
    · have hb : (g : Int) < (l.n : Int) := by simpa using hlt
      have e0 : ((g : Int)).toNat = g := by omega
      rw [e0]
      have hn : l.n ≤ 1000000 := hp
      refine ⟨by omega, fun h => ?_, fun h => ?_⟩
      · exact (firstNZ_at hg.2 (by simpa using h) (by omega)).symm
      · have h0 : l.g g = 0 := by simpa using h
        exact ⟨InK.of (by omega) (by omega), g + 1, by omega, rfl, ⟨rfl, fun _ _ => rfl⟩, rfl, ⟨rfl, fun _ _ => rfl⟩, ⟨by omega, fun j hj => by
          rcases Nat.lt_succ_iff_lt_or_eq.1 hj with h | rfl
          · exact hg.2 j h
          · exact h0⟩, by omega⟩
    · have hb : ¬ (g : Int) < (l.n : Int) := by simpa using hge
      exact (firstNZ_zero (fun j hj => hg.2 j (by omega))).symm)
theorem c_or_ok : SpecOk Tryz.prog 116 c_or_S := fnX Tryz.func116 (c := bodyOf Tryz.f116) (by kernel_rfl) mixed (fun args p r hs hp => by
  unfold c_or_s at hs
  split at hs
  · cases hs; exact ⟨_, _, c_or_vc _ hp.2, (.p (.sl hp.1) .nil), ⟨show SpecsL Tryz.prog _ from SpecsL.nil, rfl, ⟨show ItersL Tryz.prog _ from ItersL.nil, (TrsOk.none (fun _ => rfl))⟩⟩⟩
  · cases hs)
theorem c_or_en : Enters Tryz.prog 116 := fun args w => by kernel_rfl
def s_idxFI_p (l : (L.Sq Int)) (p : FSpec) : Prop := l.n ≤ 1000000 ∧ ∀ i, i < l.n → p.pre [(.int .i64 ((l.g i)))]
def s_idxFI_r (l : (L.Sq Int)) (p : FSpec) : SV := .int .i64 (L.idx l.n (fun i => L.fbl p [(.int .i64 ((l.g i)))]))
def s_idxFI_s : List EV → Option (Prop × SV)
  | [.p (.sl 1 l_n l_g), .fn p] => some ((∀ i, i < l_n → l_g i = [.int .i64 ((intOf (l_g i)))]) ∧ isB p ∧ s_idxFI_p (⟨l_n, fun i => intOf (l_g i)⟩ : (L.Sq Int)) p, s_idxFI_r (⟨l_n, fun i => intOf (l_g i)⟩ : (L.Sq Int)) p)
  | _ => none
abbrev s_idxFI_S : SE.Spec := (specO s_idxFI_s)
def s_idxFI_C : Cfg := { muts := [], frz := lookN [], specs := lookS [], loops := fun _ => none, iters := lookI [], rfs := lookR [], nils := lookM [] }
theorem s_idxFI_vc (l : (L.Sq Int)) (p : FSpec) (hp : s_idxFI_p l p) : vc Tryz.prog ({ s_idxFI_C with loops := lookL [(2, { T := Nat, keep := [0, 1, 6, 7], keepO := [], chg := fun i => [(8, .p (.int .i64 i))], own := fun _ => [], inv := fun i => i ≤ l.n ∧ (∀ j, j < i → L.fbl p [(.int .i64 ((l.g j)))] = false), mu := fun i => l.n - i })], rfs := lookR [] }) (bodyOf Tryz.f176) (st0 Tryz.f176 [.p (.sl 1 l.n (fun i => [.int .i64 ((l.g i))])), .fn ⟨p.pre, fun xs => .bool (L.fbl p xs)⟩]) (retFn Tryz.prog Tryz.f176 (s_idxFI_r l p)) :=
  @Eq.mpr _ ((∃ (g : Nat), (0 : Int) = (↑g : Int) ∧ g ≤ l.n ∧ ∀ (j : Nat), j < g → L.fbl p [SV.int .i64 (l.g j)] = false) ∧ ∀ (g : Nat), (g ≤ l.n ∧ ∀ (j : Nat), j < g → L.fbl p [SV.int .i64 (l.g j)] = false) → (decide ((↑g : Int) < (↑l.n : Int)) = true → ((0 : Int) ≤ (↑g : Int) ∧ (↑g : Int) < (↑l.n : Int)) ∧ p.1 [SV.int .i64 (l.g
 (Int.toNat (↑g : Int)))] ∧ (L.fbl p [SV.int .i64 (l.g (Int.toNat (↑g : Int)))] = true → (↑g : Int) = L.idx l.n fun (i : Nat) ↦ L.fbl p [SV.int .i64 (l.g i)]) ∧ (L.fbl p [SV.int .i64 (l.g (Int.toNat (↑g : Int)))] = false → InK .i64 ((↑g : Int) + (1 : Int)) ∧ ∃ (g' : Nat), (↑g : Int) + (1 : Int) = (↑g' : Int) ∧ (↑l.n : Int) =
 (↑l.n : Int) ∧ (l.n = l.n ∧ ∀ (i : Nat), i < l.n → [SV.int .i64 (l.g i)] = [SV.int .i64 (l.g i)]) ∧ (l.n = l.n ∧ ∀ (i : Nat), i < l.n → [SV.int .i64 (l.g i)] = [SV.int .i64 (l.g i)]) ∧ ((FSpec.mk p.pre fun (xs : List SV) ↦ SV.bool (L.fbl p xs)) = FSpec.mk p.pre fun (xs : List SV) ↦ SV.bool (L.fbl p
 xs)) ∧ (g' ≤ l.n ∧ ∀ (j : Nat), j < g' → L.fbl p [SV.int .i64 (l.g j)] = false) ∧ l.n - g' < l.n - g)) ∧ (decide ((↑g : Int) < (↑l.n : Int)) = false → (-1 : Int) = L.idx l.n fun (i : Nat) ↦ L.fbl p [SV.int .i64 (l.g i)])) (by kernel_rfl) (by
    obtain ⟨hn, hpre⟩ := hp
    refine ⟨⟨(0 : Nat), rfl, Nat.zero_le _, fun j hj => by omega⟩, fun g hg => ⟨fun hlt => ?_, fun hge => ?_⟩⟩
    · have hb : (g : Int) < (l.n : Int) := by simpa using hlt
      have e0 : ((g : Int)).toNat = g := by omega
      rw [e0]
      refine ⟨by omega, hpre g (by omega), fun h => ?_, fun h => ?_⟩
      · exact (idx_at hg.2 h (by omega)).symm
      · exact ⟨InK.of (by omega) (by omega), g + 1, by omega, rfl, ⟨rfl, fun _ _ => rfl⟩, ⟨rfl, fun _ _ => rfl⟩, rfl, ⟨by omega, fun j hj => by
          rcases Nat.lt_succ_iff_lt_or_eq.1 hj with h' | rfl
          · exact hg.2 j h'
          · exact h⟩, by omega⟩
    · have hb : ¬ (g : Int) < (l.n : Int) := by simpa using hge
      exact (idx_none (fun j hj => hg.2 j (by omega))).symm)
theorem s_idxFI_ok : SpecOk Tryz.prog 176 s_idxFI_S := fnX Tryz.func176 (c := bodyOf Tryz.f176) (by kernel_rfl) mixed (fun args p r hs hp => by
  unfold s_idxFI_s at hs
  split at hs
  · cases hs; exact ⟨_, _, s_idxFI_vc _ _ hp.2.2, (.p (.sl hp.1) (.fn (fun xs h => ⟨h, (fbl_res hp.2.1 h).symm⟩) .nil)), ⟨show SpecsL Tryz.prog _ from SpecsL.nil, rfl, ⟨show ItersL Tryz.prog _ from ItersL.nil, (TrsOk.none (fun _ => rfl))⟩⟩⟩
  · cases hs)
theorem s_idxFI_en : Enters Tryz.prog 176 := fun args w => by kernel_rfl
def s_conFI_p (l : (L.Sq Int)) (p : FSpec) : Prop := l.n ≤ 1000000 ∧ ∀ i, i < l.n → p.pre [(.int .i64 ((l.g i)))]
def s_conFI_r (l : (L.Sq Int)) (p : FSpec) : SV := .bool (L.anyB l.n (fun i => L.fbl p [(.int .i64 ((l.g i)))]))
def s_conFI_s : List EV → Option (Prop × SV)
  | [.p (.sl 1 l_n l_g), .fn p] => some ((∀ i, i < l_n → l_g i = [.int .i64 ((intOf (l_g i)))]) ∧ isB p ∧ s_conFI_p (⟨l_n, fun i => intOf (l_g i)⟩ : (L.Sq Int)) p, s_conFI_r (⟨l_n, fun i => intOf (l_g i)⟩ : (L.Sq Int)) p)
  | _ => none
abbrev s_conFI_S : SE.Spec := (specO s_conFI_s)
def s_conFI_C : Cfg := { muts := [], frz := lookN [], specs := lookS [(176, s_idxFI_S)], loops := lookL [], iters := lookI [], rfs := lookR [], nils := lookM [] }
theorem s_conFI_vc (l : (L.Sq Int)) (p : FSpec) (hp : s_conFI_p l p) : vc Tryz.prog (s_conFI_C) (bodyOf Tryz.f124) (st0 Tryz.f124 [.p (.sl 1 l.n (fun i => [.int .i64 ((l.g i))])), .fn ⟨p.pre, fun xs => .bool (L.fbl p xs)⟩]) (retFn Tryz.prog Tryz.f124 (s_conFI_r l p)) :=
  @Eq.mpr _ (((∀ (i : Nat), i < l.n → [SV.int .i64 (l.g i)] = [SV.int .i64 (l.g i)]) ∧ isB (FSpec.mk p.pre fun (xs : List SV) ↦ SV.bool (L.fbl p xs)) ∧ l.n ≤ (1000000 : Nat) ∧ ∀ (i : Nat), i < l.n → p.1 [SV.int .i64 (l.g i)]) ∧ decide ((0 : Int) ≤ L.idx l.n fun (i : Nat) ↦ L.fbl (FSpec.mk p.pre fun (xs : List SV) ↦
 SV.bool (L.fbl p xs)) [SV.int .i64 (l.g i)]) = L.anyB l.n fun (i : Nat) ↦ L.fbl p [SV.int .i64 (l.g i)]) (by kernel_rfl) (by
    refine ⟨⟨fun _ _ => rfl, fun xs _ => ⟨_, rfl⟩, hp⟩, idx_any⟩)
theorem s_conFI_ok : SpecOk Tryz.prog 124 s_conFI_S := fnX Tryz.func124 (c := bodyOf Tryz.f124) (by kernel_rfl) mixed (fun args p r hs hp => by
  unfold s_conFI_s at hs
  split at hs
  · cases hs; exact ⟨_, _, s_conFI_vc _ _ hp.2.2, (.p (.sl hp.1) (.fn (fun xs h => ⟨h, (fbl_res hp.2.1 h).symm⟩) .nil)), ⟨show SpecsL Tryz.prog _ from (SpecsL.cons s_idxFI_ok s_idxFI_en SpecsL.nil), rfl, ⟨show ItersL Tryz.prog _ from ItersL.nil, (TrsOk.none (fun _ => rfl))⟩⟩⟩
  · cases hs)
theorem s_conFI_en : Enters Tryz.prog 124 := fun args w => by kernel_rfl
def s_idxFP_p (l : (L.Sq L.Pt)) (p : FSpec) : Prop := l.n ≤ 1000000 ∧ ∀ i, i < l.n → p.pre [(.agg [.int .i64 ((l.g i).x), .int .i64 ((l.g i).y)])]
def s_idxFP_r (l : (L.Sq L.Pt)) (p : FSpec) : SV := .int .i64 (L.idx l.n (fun i => L.fbl p [(.agg [.int .i64 ((l.g i).x), .int .i64 ((l.g i).y)])]))
def s_idxFP_s : List EV → Option (Prop × SV)
  | [.p (.sl 2 l_n l_g), .fn p] => some ((∀ i, i < l_n → l_g i = [.int .i64 ((ofPt (l_g i)).x), .int .i64 ((ofPt (l_g i)).y)]) ∧ isB p ∧ s_idxFP_p (⟨l_n, fun i => ofPt (l_g i)⟩ : (L.Sq L.Pt)) p, s_idxFP_r (⟨l_n, fun i => ofPt (l_g i)⟩ : (L.Sq L.Pt)) p)
  | _ => none
abbrev s_idxFP_S : SE.Spec := (specO s_idxFP_s)
def s_idxFP_C : Cfg := { muts := [], frz := lookN [], specs := lookS [], loops := fun _ => none, iters := lookI [], rfs := lookR [], nils := lookM [] }
theorem s_idxFP_vc (l : (L.Sq L.Pt)) (p : FSpec) (hp : s_idxFP_p l p) : vc Tryz.prog ({ s_idxFP_C with loops := lookL [(2, { T := Nat, keep := [0, 1, 6, 7], keepO := [], chg := fun i => [(8, .p (.int .i64 i))], own := fun _ => [], inv := fun i => i ≤ l.n ∧ (∀ j, j < i → L.fbl p [(.agg [.int .i64 ((l.g j).x), .int .i64 ((l.g j).y)])] = false), mu := fun i => l.n - i })], rfs := lookR [] }) (bodyOf Tryz.f148) (st0 Tryz.f148 [.p (.sl 2 l.n (fun i => [.int .i64 ((l.g i).x), .int .i64 ((l.g i).y)])), .fn ⟨p.pre, fun xs => .bool (L.fbl p xs)⟩]) (retFn Tryz.prog Tryz.f148 (s_idxFP_r l p)) :=
  @Eq.mpr _ ((∃ (g : Nat), (0 : Int) = (↑g : Int) ∧ g ≤ l.n ∧ ∀ (j : Nat), j < g → L.fbl p [SV.agg [SV.int .i64 (l.g j).x, SV.int .i64 (l.g j).y]] = false) ∧ ∀ (g : Nat), (g ≤ l.n ∧ ∀ (j : Nat), j < g → L.fbl p [SV.agg [SV.int .i64 (l.g j).x, SV.int .i64 (l.g j).y]] = false) → (decide ((↑g : Int) < (↑l.n : Int)) =
 true → ((0 : Int) ≤ (↑g : Int) ∧ (↑g : Int) < (↑l.n : Int)) ∧ p.1 [SV.agg [SV.int .i64 (l.g (Int.toNat (↑g : Int))).x, SV.int .i64 (l.g (Int.toNat (↑g : Int))).y]] ∧ (L.fbl p [SV.agg [SV.int .i64 (l.g (Int.toNat (↑g : Int))).x, SV.int .i64 (l.g (Int.toNat (↑g : Int))).y]] = true → (↑g : Int) = L.idx l.n fun (i :
 Nat) ↦ L.fbl p [SV.agg [SV.int .i64 (l.g i).x, SV.int .i64 (l.g i).y]]) ∧ (L.fbl p [SV.agg [SV.int .i64 (l.g (Int.toNat (↑g : Int))).x, SV.int .i64 (l.g (Int.toNat (↑g : Int))).y]] = false → InK .i64 ((↑g : Int) + (1 : Int)) ∧ ∃ (g' : Nat), (↑g : Int) + (1 : Int) = (↑g' : Int) ∧ (↑l.n : Int) = (↑l.n :
 Int) ∧ (l.n = l.n ∧ ∀ (i : Nat), i < l.n → [SV.int .i64 (l.g i).x, SV.int .i64 (l.g i).y] = [SV.int .i64 (l.g i).x, SV.int .i64 (l.g i).y]) ∧ (l.n = l.n ∧ ∀ (i : Nat), i < l.n → [SV.int .i64 (l.g i).x, SV.int .i64 (l.g i).y] = [SV.int .i64 (l.g i).x, SV.int .i64 (l.g
 i).y]) ∧ ((FSpec.mk p.pre fun (xs : List SV) ↦ SV.bool (L.fbl p xs)) = FSpec.mk p.pre fun (xs : List SV) ↦ SV.bool (L.fbl p xs)) ∧ (g' ≤ l.n ∧ ∀ (j : Nat), j < g' → L.fbl p [SV.agg [SV.int .i64 (l.g j).x, SV.int .i64 (l.g j).y]] = false) ∧ l.n - g' < l.n - g)) ∧ (decide ((↑g : Int) < (↑l.n : Int)) = false
 → (-1 : Int) = L.idx l.n fun (i : Nat) ↦ L.fbl p [SV.agg [SV.int .i64 (l.g i).x, SV.int .i64 (l.g i).y]])) (by kernel_rfl) (by
    obtain ⟨hn, hpre⟩ := hp
    refine ⟨⟨(0 : Nat), rfl, Nat.zero_le _, fun j hj => by omega⟩, fun g hg => ⟨fun hlt => ?_, fun hge => ?_⟩⟩
    · have hb : (g : Int) < (l.n : Int) := by simpa using hlt
      have e0 : ((g : Int)).toNat = g := by omega
      rw [e0]
      refine ⟨by omega, hpre g (by omega), fun h => ?_, fun h => ?_⟩
      · exact (idx_at hg.2 h (by omega)).symm
      · exact ⟨InK.of (by omega) (by omega), g + 1, by omega, rfl, ⟨rfl, fun _ _ => rfl⟩, ⟨rfl, fun _ _ => rfl⟩, rfl, ⟨by omega, fun j hj => by
          rcases Nat.lt_succ_iff_lt_or_eq.1 hj with h' | rfl
          · exact hg.2 j h'
          · exact h⟩, by omega⟩
    · have hb : ¬ (g : Int) < (l.n : Int) := by simpa using hge
      exact (idx_none (fun j hj => hg.2 j (by omega))).symm)
theorem s_idxFP_ok : SpecOk Tryz.prog 148 s_idxFP_S := fnX Tryz.func148 (c := bodyOf Tryz.f148) (by kernel_rfl) mixed (fun args p r hs hp => by
  unfold s_idxFP_s at hs
  split at hs
  · cases hs; exact ⟨_, _, s_idxFP_vc _ _ hp.2.2, (.p (.sl hp.1) (.fn (fun xs h => ⟨h, (fbl_res hp.2.1 h).symm⟩) .nil)), ⟨show SpecsL Tryz.prog _ from SpecsL.nil, rfl, ⟨show ItersL Tryz.prog _ from ItersL.nil, (TrsOk.none (fun _ => rfl))⟩⟩⟩
  · cases hs)
theorem s_idxFP_en : Enters Tryz.prog 148 := fun args w => by kernel_rfl
def s_conFP_p (l : (L.Sq L.Pt)) (p : FSpec) : Prop := l.n ≤ 1000000 ∧ ∀ i, i < l.n → p.pre [(.agg [.int .i64 ((l.g i).x), .int .i64 ((l.g i).y)])]
def s_conFP_r (l : (L.Sq L.Pt)) (p : FSpec) : SV := .bool (L.anyB l.n (fun i => L.fbl p [(.agg [.int .i64 ((l.g i).x), .int .i64 ((l.g i).y)])]))
def s_conFP_s : List EV → Option (Prop × SV)
  | [.p (.sl 2 l_n l_g), .fn p] => some ((∀ i, i < l_n → l_g i = [.int .i64 ((ofPt (l_g i)).x), .int .i64 ((ofPt (l_g i)).y)]) ∧ isB p ∧ s_conFP_p (⟨l_n, fun i => ofPt (l_g i)⟩ : (L.Sq L.Pt)) p, s_conFP_r (⟨l_n, fun i => ofPt (l_g i)⟩ : (L.Sq L.Pt)) p)
  | _ => none
abbrev s_conFP_S : SE.Spec := (specO s_conFP_s)
def s_conFP_C : Cfg := { muts := [], frz := lookN [], specs := lookS [(148, s_idxFP_S)], loops := lookL [], iters := lookI [], rfs := lookR [], nils := lookM [] }
theorem s_conFP_vc (l : (L.Sq L.Pt)) (p : FSpec) (hp : s_conFP_p l p) : vc Tryz.prog (s_conFP_C) (bodyOf Tryz.f136) (st0 Tryz.f136 [.p (.sl 2 l.n (fun i => [.int .i64 ((l.g i).x), .int .i64 ((l.g i).y)])), .fn ⟨p.pre, fun xs => .bool (L.fbl p xs)⟩]) (retFn Tryz.prog Tryz.f136 (s_conFP_r l p)) :=
  @Eq.mpr _ (((∀ (i : Nat), i < l.n → [SV.int .i64 (l.g i).x, SV.int .i64 (l.g i).y] = [SV.int .i64 (l.g i).x, SV.int .i64 (l.g i).y]) ∧ isB (FSpec.mk p.pre fun (xs : List SV) ↦ SV.bool (L.fbl p xs)) ∧ l.n ≤ (1000000 : Nat) ∧ ∀ (i : Nat), i < l.n → p.1 [SV.agg [SV.int .i64 (l.g i).x, SV.int
 .i64 (l.g i).y]]) ∧ decide ((0 : Int) ≤ L.idx l.n fun (i : Nat) ↦ L.fbl (FSpec.mk p.pre fun (xs : List SV) ↦ SV.bool (L.fbl p xs)) [SV.agg [SV.int .i64 (l.g i).x, SV.int .i64 (l.g i).y]]) = L.anyB l.n fun (i : Nat) ↦ L.fbl p [SV.agg [SV.int .i64 (l.g i).x, SV.int .i64 (l.g i).y]]) (by kernel_rfl) (by
    refine ⟨⟨fun _ _ => rfl, fun xs _ => ⟨_, rfl⟩, hp⟩, idx_any⟩)
theorem s_conFP_ok : SpecOk Tryz.prog 136 s_conFP_S := fnX Tryz.func136 (c := bodyOf Tryz.f136) (by kernel_rfl) mixed (fun args p r hs hp => by
  unfold s_conFP_s at hs
  split at hs
  · cases hs; exact ⟨_, _, s_conFP_vc _ _ hp.2.2, (.p (.sl hp.1) (.fn (fun xs h => ⟨h, (fbl_res hp.2.1 h).symm⟩) .nil)), ⟨show SpecsL Tryz.prog _ from (SpecsL.cons s_idxFP_ok s_idxFP_en SpecsL.nil), rfl, ⟨show ItersL Tryz.prog _ from ItersL.nil, (TrsOk.none (fun _ => rfl))⟩⟩⟩
  · cases hs)
theorem s_conFP_en : Enters Tryz.prog 136 := fun args w => by kernel_rfl
def s_idxFM_p (l : (L.Sq L.Mark)) (p : FSpec) : Prop := l.n ≤ 1000000 ∧ ∀ i, i < l.n → p.pre [(.agg [.int .i64 ((l.g i).edge), .int .i64 ((l.g i).place), .int .i64 ((l.g i).tone)])]
def s_idxFM_r (l : (L.Sq L.Mark)) (p : FSpec) : SV := .int .i64 (L.idx l.n (fun i => L.fbl p [(.agg [.int .i64 ((l.g i).edge), .int .i64 ((l.g i).place), .int .i64 ((l.g i).tone)])]))
def s_idxFM_s : List EV → Option (Prop × SV)
  | [.p (.sl 3 l_n l_g), .fn p] => some ((∀ i, i < l_n → l_g i = [.int .i64 ((ofMark (l_g i)).edge), .int .i64 ((ofMark (l_g i)).place), .int .i64 ((ofMark (l_g i)).tone)]) ∧ isB p ∧ s_idxFM_p (⟨l_n, fun i => ofMark (l_g i)⟩ : (L.Sq L.Mark)) p, s_idxFM_r (⟨l_n, fun i => ofMark (l_g i)⟩ : (L.Sq L.Mark)) p)
  | _ => none
abbrev s_idxFM_S : SE.Spec := (specO s_idxFM_s)
def s_idxFM_C : Cfg := { muts := [], frz := lookN [], specs := lookS [], loops := fun _ => none, iters := lookI [], rfs := lookR [], nils := lookM [] }
theorem s_idxFM_vc (l : (L.Sq L.Mark)) (p : FSpec) (hp : s_idxFM_p l p) : vc Tryz.prog ({ s_idxFM_C with loops := lookL [(2, { T := Nat, keep := [0, 1, 6, 7], keepO := [], chg := fun i => [(8, .p (.int .i64 i))], own := fun _ => [], inv := fun i => i ≤ l.n ∧ (∀ j, j < i → L.fbl p [(.agg [.int .i64 ((l.g j).edge), .int .i64 ((l.g j).place), .int .i64 ((l.g j).tone)])] = false), mu := fun i => l.n - i })], rfs := lookR [] }) (bodyOf Tryz.f193) (st0 Tryz.f193 [.p (.sl 3 l.n (fun i => [.int .i64 ((l.g i).edge), .int .i64 ((l.g i).place), .int .i64 ((l.g i).tone)])), .fn ⟨p.pre, fun xs => .bool (L.fbl p xs)⟩]) (retFn Tryz.prog Tryz.f193 (s_idxFM_r l p)) :=
  @Eq.mpr _ ((∃ (g : Nat), (0 : Int) = (↑g : Int) ∧ g ≤ l.n ∧ ∀ (j : Nat), j < g → L.fbl p [SV.agg [SV.int .i64 (l.g j).edge, SV.int .i64 (l.g j).place, SV.int .i64 (l.g j).tone]] = false) ∧ ∀ (g : Nat), (g ≤ l.n ∧ ∀ (j : Nat), j < g → L.fbl p [SV.agg [SV.int .i64 (l.g j).edge, SV.int .i64 (l.g j).place,
 SV.int .i64 (l.g j).tone]] = false) → (decide ((↑g : Int) < (↑l.n : Int)) = true → ((0 : Int) ≤ (↑g : Int) ∧ (↑g : Int) < (↑l.n : Int)) ∧ p.1 [SV.agg [SV.int .i64 (l.g (Int.toNat (↑g : Int))).edge, SV.int .i64 (l.g (Int.toNat (↑g : Int))).place, SV.int .i64 (l.g (Int.toNat (↑g : Int))).tone]] ∧ (L.fbl p
 [SV.agg [SV.int .i64 (l.g (Int.toNat (↑g : Int))).edge, SV.int .i64 (l.g (Int.toNat (↑g : Int))).place, SV.int .i64 (l.g (Int.toNat (↑g : Int))).tone]] = true → (↑g : Int) = L.idx l.n fun (i : Nat) ↦ L.fbl p [SV.agg [SV.int .i64 (l.g i).edge, SV.int .i64 (l.g i).place, SV.int .i64 (l.g
 i).tone]]) ∧ (L.fbl p [SV.agg [SV.int .i64 (l.g (Int.toNat (↑g : Int))).edge, SV.int .i64 (l.g (Int.toNat (↑g : Int))).place, SV.int .i64 (l.g (Int.toNat (↑g : Int))).tone]] = false → InK .i64 ((↑g : Int) + (1 : Int)) ∧ ∃ (g' : Nat), (↑g : Int) + (1 : Int) = (↑g' : Int) ∧ (↑l.n : Int) = (↑l.n : Int) ∧ (l.n = l.n ∧ ∀ (i :
 Nat), i < l.n → [SV.int .i64 (l.g i).edge, SV.int .i64 (l.g i).place, SV.int .i64 (l.g i).tone] = [SV.int .i64 (l.g i).edge, SV.int .i64 (l.g i).place, SV.int .i64 (l.g i).tone]) ∧ (l.n = l.n ∧ ∀ (i : Nat), i < l.n → [SV.int .i64 (l.g i).edge, SV.int .i64 (l.g i).place,
 SV.int .i64 (l.g i).tone] = [SV.int .i64 (l.g i).edge, SV.int .i64 (l.g i).place, SV.int .i64 (l.g i).tone]) ∧ ((FSpec.mk p.pre fun (xs : List SV) ↦ SV.bool (L.fbl p xs)) = FSpec.mk p.pre fun (xs : List SV) ↦ SV.bool (L.fbl p xs)) ∧ (g' ≤ l.n ∧ ∀ (j : Nat), j < g' → L.fbl p [SV.agg
 [SV.int .i64 (l.g j).edge, SV.int .i64 (l.g j).place, SV.int .i64 (l.g j).tone]] = false) ∧ l.n - g' < l.n - g)) ∧ (decide ((↑g : Int) < (↑l.n : Int)) = false → (-1 : Int) = L.idx l.n fun (i : Nat) ↦ L.fbl p [SV.agg [SV.int .i64 (l.g i).edge, SV.int .i64 (l.g i).place, SV.int
 .i64 (l.g i).tone]])) (by kernel_rfl) (by
    obtain ⟨hn, hpre⟩ := hp
    refine ⟨⟨(0 : Nat), rfl, Nat.zero_le _, fun j hj => by omega⟩, fun g hg => ⟨fun hlt => ?_, fun hge => ?_⟩⟩
    · have hb : (g : Int) < (l.n : Int) := by simpa using hlt
      have e0 : ((g : Int)).toNat = g := by omega
      rw [e0]
      refine ⟨by omega, hpre g (by omega), fun h => ?_, fun h => ?_⟩
      · exact (idx_at hg.2 h (by omega)).symm
      · exact ⟨InK.of (by omega) (by omega), g + 1, by omega, rfl, ⟨rfl, fun _ _ => rfl⟩, ⟨rfl, fun _ _ => rfl⟩, rfl, ⟨by omega, fun j hj => by
          rcases Nat.lt_succ_iff_lt_or_eq.1 hj with h' | rfl
          · exact hg.2 j h'
          · exact h⟩, by omega⟩
    · have hb : ¬ (g : Int) < (l.n : Int) := by simpa using hge
      exact (idx_none (fun j hj => hg.2 j (by omega))).symm)
theorem s_idxFM_ok : SpecOk Tryz.prog 193 s_idxFM_S := fnX Tryz.func193 (c := bodyOf Tryz.f193) (by kernel_rfl) mixed (fun args p r hs hp => by
  unfold s_idxFM_s at hs
  split at hs
  · cases hs; exact ⟨_, _, s_idxFM_vc _ _ hp.2.2, (.p (.sl hp.1) (.fn (fun xs h => ⟨h, (fbl_res hp.2.1 h).symm⟩) .nil)), ⟨show SpecsL Tryz.prog _ from SpecsL.nil, rfl, ⟨show ItersL Tryz.prog _ from ItersL.nil, (TrsOk.none (fun _ => rfl))⟩⟩⟩
  · cases hs)
theorem s_idxFM_en : Enters Tryz.prog 193 := fun args w => by kernel_rfl
def s_conFM_p (l : (L.Sq L.Mark)) (p : FSpec) : Prop := l.n ≤ 1000000 ∧ ∀ i, i < l.n → p.pre [(.agg [.int .i64 ((l.g i).edge), .int .i64 ((l.g i).place), .int .i64 ((l.g i).tone)])]
def s_conFM_r (l : (L.Sq L.Mark)) (p : FSpec) : SV := .bool (L.anyB l.n (fun i => L.fbl p [(.agg [.int .i64 ((l.g i).edge), .int .i64 ((l.g i).place), .int .i64 ((l.g i).tone)])]))
def s_conFM_s : List EV → Option (Prop × SV)
  | [.p (.sl 3 l_n l_g), .fn p] => some ((∀ i, i < l_n → l_g i = [.int .i64 ((ofMark (l_g i)).edge), .int .i64 ((ofMark (l_g i)).place), .int .i64 ((ofMark (l_g i)).tone)]) ∧ isB p ∧ s_conFM_p (⟨l_n, fun i => ofMark (l_g i)⟩ : (L.Sq L.Mark)) p, s_conFM_r (⟨l_n, fun i => ofMark (l_g i)⟩ : (L.Sq L.Mark)) p)
  | _ => none
abbrev s_conFM_S : SE.Spec := (specO s_conFM_s)
def s_conFM_C : Cfg := { muts := [], frz := lookN [], specs := lookS [(193, s_idxFM_S)], loops := lookL [], iters := lookI [], rfs := lookR [], nils := lookM [] }
theorem s_conFM_vc (l : (L.Sq L.Mark)) (p : FSpec) (hp : s_conFM_p l p) : vc Tryz.prog (s_conFM_C) (bodyOf Tryz.f164) (st0 Tryz.f164 [.p (.sl 3 l.n (fun i => [.int .i64 ((l.g i).edge), .int .i64 ((l.g i).place), .int .i64 ((l.g i).tone)])), .fn ⟨p.pre, fun xs => .bool (L.fbl p xs)⟩]) (retFn Tryz.prog Tryz.f164 (s_conFM_r l p)) :=
  @Eq.mpr _ (((∀ (i : Nat), i < l.n → [SV.int .i64 (l.g i).edge, SV.int .i64 (l.g i).place, SV.int .i64 (l.g i).tone] = [SV.int .i64 (l.g i).edge, SV.int .i64 (l.g i).place, SV.int .i64 (l.g i).tone]) ∧ isB (FSpec.mk p.pre fun (xs : List SV) ↦ SV.bool (L.fbl p xs)) ∧ l.n ≤ (1000000 : Nat) ∧ ∀
 (i : Nat), i < l.n → p.1 [SV.agg [SV.int .i64 (l.g i).edge, SV.int .i64 (l.g i).place, SV.int .i64 (l.g i).tone]]) ∧ decide ((0 : Int) ≤ L.idx l.n fun (i : Nat) ↦ L.fbl (FSpec.mk p.pre fun (xs : List SV) ↦ SV.bool (L.fbl p xs)) [SV.agg [SV.int .i64 (l.g i).edge, SV.int .i64 (l.g
 i).place, SV.int .i64 (l.g i).tone]]) = L.anyB l.n fun (i : Nat) ↦ L.fbl p [SV.agg [SV.int .i64 (l.g i).edge, SV.int .i64 (l.g i).place, SV.int .i64 (l.g i).tone]]) (by kernel_rfl) (by
    refine ⟨⟨fun _ _ => rfl, fun xs _ => ⟨_, rfl⟩, hp⟩, idx_any⟩)
theorem s_conFM_ok : SpecOk Tryz.prog 164 s_conFM_S := fnX Tryz.func164 (c := bodyOf Tryz.f164) (by kernel_rfl) mixed (fun args p r hs hp => by
  unfold s_conFM_s at hs
  split at hs
  · cases hs; exact ⟨_, _, s_conFM_vc _ _ hp.2.2, (.p (.sl hp.1) (.fn (fun xs h => ⟨h, (fbl_res hp.2.1 h).symm⟩) .nil)), ⟨show SpecsL Tryz.prog _ from (SpecsL.cons s_idxFM_ok s_idxFM_en SpecsL.nil), rfl, ⟨show ItersL Tryz.prog _ from ItersL.nil, (TrsOk.none (fun _ => rfl))⟩⟩⟩
  · cases hs)
theorem s_conFM_en : Enters Tryz.prog 164 := fun args w => by kernel_rfl
def s_idxFG_p (l : (L.Sq L.Gauge)) (p : FSpec) : Prop := l.n ≤ 1000000 ∧ ∀ i, i < l.n → p.pre [(.agg [.int .i64 ((l.g i).edge.lo), .int .i64 ((l.g i).edge.hi), .int .i64 ((l.g i).across.lo), .int .i64 ((l.g i).across.hi), .int .i64 ((l.g i).bend)])]
def s_idxFG_r (l : (L.Sq L.Gauge)) (p : FSpec) : SV := .int .i64 (L.idx l.n (fun i => L.fbl p [(.agg [.int .i64 ((l.g i).edge.lo), .int .i64 ((l.g i).edge.hi), .int .i64 ((l.g i).across.lo), .int .i64 ((l.g i).across.hi), .int .i64 ((l.g i).bend)])]))
def s_idxFG_s : List EV → Option (Prop × SV)
  | [.p (.sl 5 l_n l_g), .fn p] => some ((∀ i, i < l_n → l_g i = [.int .i64 ((ofGauge (l_g i)).edge.lo), .int .i64 ((ofGauge (l_g i)).edge.hi), .int .i64 ((ofGauge (l_g i)).across.lo), .int .i64 ((ofGauge (l_g i)).across.hi), .int .i64 ((ofGauge (l_g i)).bend)]) ∧ isB p ∧ s_idxFG_p (⟨l_n, fun i => ofGauge (l_g i)⟩ : (L.Sq L.Gauge)) p, s_idxFG_r (⟨l_n, fun i => ofGauge (l_g i)⟩ : (L.Sq L.Gauge)) p)
  | _ => none
abbrev s_idxFG_S : SE.Spec := (specO s_idxFG_s)
def s_idxFG_C : Cfg := { muts := [], frz := lookN [], specs := lookS [], loops := fun _ => none, iters := lookI [], rfs := lookR [], nils := lookM [] }
theorem s_idxFG_vc (l : (L.Sq L.Gauge)) (p : FSpec) (hp : s_idxFG_p l p) : vc Tryz.prog ({ s_idxFG_C with loops := lookL [(2, { T := Nat, keep := [0, 1, 6, 7], keepO := [], chg := fun i => [(8, .p (.int .i64 i))], own := fun _ => [], inv := fun i => i ≤ l.n ∧ (∀ j, j < i → L.fbl p [(.agg [.int .i64 ((l.g j).edge.lo), .int .i64 ((l.g j).edge.hi), .int .i64 ((l.g j).across.lo), .int .i64 ((l.g j).across.hi), .int .i64 ((l.g j).bend)])] = false), mu := fun i => l.n - i })], rfs := lookR [] }) (bodyOf Tryz.f191) (st0 Tryz.f191 [.p (.sl 5 l.n (fun i => [.int .i64 ((l.g i).edge.lo), .int .i64 ((l.g i).edge.hi), .int .i64 ((l.g i).across.lo), .int .i64 ((l.g i).across.hi), .int .i64 ((l.g i).bend)])), .fn ⟨p.pre, fun xs => .bool (L.fbl p xs)⟩]) (retFn Tryz.prog Tryz.f191 (s_idxFG_r l p)) :=
  @Eq.mpr _ ((∃ (g : Nat), (0 : Int) = (↑g : Int) ∧ g ≤ l.n ∧ ∀ (j : Nat), j < g → L.fbl p [SV.agg [SV.int .i64 (l.g j).edge.lo, SV.int .i64 (l.g j).edge.hi, SV.int .i64 (l.g j).across.lo, SV.int .i64 (l.g j).across.hi, SV.int .i64 (l.g j).bend]] = false) ∧ ∀ (g : Nat), (g ≤ l.n ∧ ∀ (j : Nat), j < g → L.fbl p
 [SV.agg [SV.int .i64 (l.g j).edge.lo, SV.int .i64 (l.g j).edge.hi, SV.int .i64 (l.g j).across.lo, SV.int .i64 (l.g j).across.hi, SV.int .i64 (l.g j).bend]] = false) → (decide ((↑g : Int) < (↑l.n : Int)) = true → ((0 : Int) ≤ (↑g : Int) ∧ (↑g : Int) < (↑l.n : Int)) ∧ p.1 [SV.agg
 [SV.int .i64 (l.g (Int.toNat (↑g : Int))).edge.lo, SV.int .i64 (l.g (Int.toNat (↑g : Int))).edge.hi, SV.int .i64 (l.g (Int.toNat (↑g : Int))).across.lo, SV.int .i64 (l.g (Int.toNat (↑g : Int))).across.hi, SV.int .i64 (l.g (Int.toNat (↑g : Int))).bend]] ∧ (L.fbl p [SV.agg [SV.int .i64 (l.g
 (Int.toNat (↑g : Int))).edge.lo, SV.int .i64 (l.g (Int.toNat (↑g : Int))).edge.hi, SV.int .i64 (l.g (Int.toNat (↑g : Int))).across.lo, SV.int .i64 (l.g (Int.toNat (↑g : Int))).across.hi, SV.int .i64 (l.g (Int.toNat (↑g : Int))).bend]] = true → (↑g : Int) = L.idx l.n fun (i : Nat) ↦ L.fbl p [SV.agg [SV.int
 .i64 (l.g i).edge.lo, SV.int .i64 (l.g i).edge.hi, SV.int .i64 (l.g i).across.lo, SV.int .i64 (l.g i).across.hi, SV.int .i64 (l.g i).bend]]) ∧ (L.fbl p [SV.agg [SV.int .i64 (l.g (Int.toNat (↑g : Int))).edge.lo, SV.int .i64 (l.g (Int.toNat (↑g : Int))).edge.hi, SV.int .i64
 (l.g (Int.toNat (↑g : Int))).across.lo, SV.int .i64 (l.g (Int.toNat (↑g : Int))).across.hi, SV.int .i64 (l.g (Int.toNat (↑g : Int))).bend]] = false → InK .i64 ((↑g : Int) + (1 : Int)) ∧ ∃ (g' : Nat), (↑g : Int) + (1 : Int) = (↑g' : Int) ∧ (↑l.n : Int) = (↑l.n : Int) ∧ (l.n = l.n ∧ ∀ (i : Nat), i < l.n → [SV.int .i64 (l.g
 i).edge.lo, SV.int .i64 (l.g i).edge.hi, SV.int .i64 (l.g i).across.lo, SV.int .i64 (l.g i).across.hi, SV.int .i64 (l.g i).bend] = [SV.int .i64 (l.g i).edge.lo, SV.int .i64 (l.g i).edge.hi, SV.int .i64 (l.g i).across.lo, SV.int .i64 (l.g i).across.hi, SV.int
 .i64 (l.g i).bend]) ∧ (l.n = l.n ∧ ∀ (i : Nat), i < l.n → [SV.int .i64 (l.g i).edge.lo, SV.int .i64 (l.g i).edge.hi, SV.int .i64 (l.g i).across.lo, SV.int .i64 (l.g i).across.hi, SV.int .i64 (l.g i).bend] = [SV.int .i64 (l.g i).edge.lo, SV.int .i64 (l.g i).edge.hi, SV.int
 .i64 (l.g i).across.lo, SV.int .i64 (l.g i).across.hi, SV.int .i64 (l.g i).bend]) ∧ ((FSpec.mk p.pre fun (xs : List SV) ↦ SV.bool (L.fbl p xs)) = FSpec.mk p.pre fun (xs : List SV) ↦ SV.bool (L.fbl p xs)) ∧ (g' ≤ l.n ∧ ∀ (j : Nat), j < g' → L.fbl p [SV.agg [SV.int .i64 (l.g j).edge.lo, SV.int
 .i64 (l.g j).edge.hi, SV.int .i64 (l.g j).across.lo, SV.int .i64 (l.g j).across.hi, SV.int .i64 (l.g j).bend]] = false) ∧ l.n - g' < l.n - g)) ∧ (decide ((↑g : Int) < (↑l.n : Int)) = false → (-1 : Int) = L.idx l.n fun (i : Nat) ↦ L.fbl p [SV.agg [SV.int .i64 (l.g i).edge.lo, SV.int
 .i64 (l.g i).edge.hi, SV.int .i64 (l.g i).across.lo, SV.int .i64 (l.g i).across.hi, SV.int .i64 (l.g i).bend]])) (by kernel_rfl) (by
    obtain ⟨hn, hpre⟩ := hp
    refine ⟨⟨(0 : Nat), rfl, Nat.zero_le _, fun j hj => by omega⟩, fun g hg => ⟨fun hlt => ?_, fun hge => ?_⟩⟩
    · have hb : (g : Int) < (l.n : Int) := by simpa using hlt
      have e0 : ((g : Int)).toNat = g := by omega
      rw [e0]
      refine ⟨by omega, hpre g (by omega), fun h => ?_, fun h => ?_⟩
      · exact (idx_at hg.2 h (by omega)).symm
      · exact ⟨InK.of (by omega) (by omega), g + 1, by omega, rfl, ⟨rfl, fun _ _ => rfl⟩, ⟨rfl, fun _ _ => rfl⟩, rfl, ⟨by omega, fun j hj => by
          rcases Nat.lt_succ_iff_lt_or_eq.1 hj with h' | rfl
          · exact hg.2 j h'
          · exact h⟩, by omega⟩
    · have hb : ¬ (g : Int) < (l.n : Int) := by simpa using hge
      exact (idx_none (fun j hj => hg.2 j (by omega))).symm)
theorem s_idxFG_ok : SpecOk Tryz.prog 191 s_idxFG_S := fnX Tryz.func191 (c := bodyOf Tryz.f191) (by kernel_rfl) mixed (fun args p r hs hp => by
  unfold s_idxFG_s at hs
  split at hs
  · cases hs; exact ⟨_, _, s_idxFG_vc _ _ hp.2.2, (.p (.sl hp.1) (.fn (fun xs h => ⟨h, (fbl_res hp.2.1 h).symm⟩) .nil)), ⟨show SpecsL Tryz.prog _ from SpecsL.nil, rfl, ⟨show ItersL Tryz.prog _ from ItersL.nil, (TrsOk.none (fun _ => rfl))⟩⟩⟩
  · cases hs)
theorem s_idxFG_en : Enters Tryz.prog 191 := fun args w => by kernel_rfl
def s_conFG_p (l : (L.Sq L.Gauge)) (p : FSpec) : Prop := l.n ≤ 1000000 ∧ ∀ i, i < l.n → p.pre [(.agg [.int .i64 ((l.g i).edge.lo), .int .i64 ((l.g i).edge.hi), .int .i64 ((l.g i).across.lo), .int .i64 ((l.g i).across.hi), .int .i64 ((l.g i).bend)])]
def s_conFG_r (l : (L.Sq L.Gauge)) (p : FSpec) : SV := .bool (L.anyB l.n (fun i => L.fbl p [(.agg [.int .i64 ((l.g i).edge.lo), .int .i64 ((l.g i).edge.hi), .int .i64 ((l.g i).across.lo), .int .i64 ((l.g i).across.hi), .int .i64 ((l.g i).bend)])]))
def s_conFG_s : List EV → Option (Prop × SV)
  | [.p (.sl 5 l_n l_g), .fn p] => some ((∀ i, i < l_n → l_g i = [.int .i64 ((ofGauge (l_g i)).edge.lo), .int .i64 ((ofGauge (l_g i)).edge.hi), .int .i64 ((ofGauge (l_g i)).across.lo), .int .i64 ((ofGauge (l_g i)).across.hi), .int .i64 ((ofGauge (l_g i)).bend)]) ∧ isB p ∧ s_conFG_p (⟨l_n, fun i => ofGauge (l_g i)⟩ : (L.Sq L.Gauge)) p, s_conFG_r (⟨l_n, fun i => ofGauge (l_g i)⟩ : (L.Sq L.Gauge)) p)
  | _ => none
abbrev s_conFG_S : SE.Spec := (specO s_conFG_s)
def s_conFG_C : Cfg := { muts := [], frz := lookN [], specs := lookS [(191, s_idxFG_S)], loops := lookL [], iters := lookI [], rfs := lookR [], nils := lookM [] }
theorem s_conFG_vc (l : (L.Sq L.Gauge)) (p : FSpec) (hp : s_conFG_p l p) : vc Tryz.prog (s_conFG_C) (bodyOf Tryz.f159) (st0 Tryz.f159 [.p (.sl 5 l.n (fun i => [.int .i64 ((l.g i).edge.lo), .int .i64 ((l.g i).edge.hi), .int .i64 ((l.g i).across.lo), .int .i64 ((l.g i).across.hi), .int .i64 ((l.g i).bend)])), .fn ⟨p.pre, fun xs => .bool (L.fbl p xs)⟩]) (retFn Tryz.prog Tryz.f159 (s_conFG_r l p)) :=
  @Eq.mpr _ (((∀ (i : Nat), i < l.n → [SV.int .i64 (l.g i).edge.lo, SV.int .i64 (l.g i).edge.hi, SV.int .i64 (l.g i).across.lo, SV.int .i64 (l.g i).across.hi, SV.int .i64 (l.g i).bend] = [SV.int .i64 (l.g i).edge.lo, SV.int .i64 (l.g i).edge.hi, SV.int .i64 (l.g i).across.lo,
 SV.int .i64 (l.g i).across.hi, SV.int .i64 (l.g i).bend]) ∧ isB (FSpec.mk p.pre fun (xs : List SV) ↦ SV.bool (L.fbl p xs)) ∧ l.n ≤ (1000000 : Nat) ∧ ∀ (i : Nat), i < l.n → p.1 [SV.agg [SV.int .i64 (l.g i).edge.lo, SV.int .i64 (l.g i).edge.hi, SV.int .i64 (l.g i).across.lo, SV.int
 .i64 (l.g i).across.hi, SV.int .i64 (l.g i).bend]]) ∧ decide ((0 : Int) ≤ L.idx l.n fun (i : Nat) ↦ L.fbl (FSpec.mk p.pre fun (xs : List SV) ↦ SV.bool (L.fbl p xs)) [SV.agg [SV.int .i64 (l.g i).edge.lo, SV.int .i64 (l.g i).edge.hi, SV.int .i64 (l.g i).across.lo, SV.int .i64
 (l.g i).across.hi, SV.int .i64 (l.g i).bend]]) = L.anyB l.n fun (i : Nat) ↦ L.fbl p [SV.agg [SV.int .i64 (l.g i).edge.lo, SV.int .i64 (l.g i).edge.hi, SV.int .i64 (l.g i).across.lo, SV.int .i64 (l.g i).across.hi, SV.int .i64 (l.g i).bend]]) (by kernel_rfl) (by
    refine ⟨⟨fun _ _ => rfl, fun xs _ => ⟨_, rfl⟩, hp⟩, idx_any⟩)
theorem s_conFG_ok : SpecOk Tryz.prog 159 s_conFG_S := fnX Tryz.func159 (c := bodyOf Tryz.f159) (by kernel_rfl) mixed (fun args p r hs hp => by
  unfold s_conFG_s at hs
  split at hs
  · cases hs; exact ⟨_, _, s_conFG_vc _ _ hp.2.2, (.p (.sl hp.1) (.fn (fun xs h => ⟨h, (fbl_res hp.2.1 h).symm⟩) .nil)), ⟨show SpecsL Tryz.prog _ from (SpecsL.cons s_idxFG_ok s_idxFG_en SpecsL.nil), rfl, ⟨show ItersL Tryz.prog _ from ItersL.nil, (TrsOk.none (fun _ => rfl))⟩⟩⟩
  · cases hs)
theorem s_conFG_en : Enters Tryz.prog 159 := fun args w => by kernel_rfl
def s_idxI_p (l : (L.Sq Int)) (v : Int) : Prop := l.n ≤ 1000000
def s_idxI_r (l : (L.Sq Int)) (v : Int) : SV := .int .i64 (L.idx l.n (fun i => decide (v = l.g i)))
def s_idxI_s : List EV → Option (Prop × SV)
  | [.p (.sl 1 l_n l_g), .p (.int .i64 v)] => some ((∀ i, i < l_n → l_g i = [.int .i64 ((intOf (l_g i)))]) ∧ s_idxI_p (⟨l_n, fun i => intOf (l_g i)⟩ : (L.Sq Int)) v, s_idxI_r (⟨l_n, fun i => intOf (l_g i)⟩ : (L.Sq Int)) v)
  | _ => none
abbrev s_idxI_S : SE.Spec := (specO s_idxI_s)
def s_idxI_C : Cfg := { muts := [], frz := lookN [], specs := lookS [], loops := fun _ => none, iters := lookI [], rfs := lookR [], nils := lookM [] }
theorem s_idxI_vc (l : (L.Sq Int)) (v : Int) (hp : s_idxI_p l v) : vc Tryz.prog ({ s_idxI_C with loops := lookL [(2, { T := Nat, keep := [0, 1, 6, 7], keepO := [], chg := fun i => [(8, .p (.int .i64 i))], own := fun _ => [], inv := fun i => i ≤ l.n ∧ (∀ j, j < i → decide (v = l.g j) = false), mu := fun i => l.n - i })], rfs := lookR [] }) (bodyOf Tryz.f175) (st0 Tryz.f175 [.p (.sl 1 l.n (fun i => [.int .i64 ((l.g i))])), .p (.int .i64 v)]) (retFn Tryz.prog Tryz.f175 (s_idxI_r l v)) :=
  @Eq.mpr _ ((∃ (g : Nat), (0 : Int) = (↑g : Int) ∧ g ≤ l.n ∧ ∀ (j : Nat), j < g → decide (v = l.g j) = false) ∧ ∀ (g : Nat), (g ≤ l.n ∧ ∀ (j : Nat), j < g → decide (v = l.g j) = false) → (decide ((↑g : Int) < (↑l.n : Int)) = true → ((0 : Int) ≤ (↑g : Int) ∧ (↑g : Int) < (↑l.n : Int)) ∧ (decide (v = l.g (Int.toNat (↑g : Int))) = true → (↑g : Int) =
 L.idx l.n fun (i : Nat) ↦ decide (v = l.g i)) ∧ (decide (v = l.g (Int.toNat (↑g : Int))) = false → InK .i64 ((↑g : Int) + (1 : Int)) ∧ ∃ (g' : Nat), (↑g : Int) + (1 : Int) = (↑g' : Int) ∧ (↑l.n : Int) = (↑l.n : Int) ∧ (l.n = l.n ∧ ∀ (i : Nat), i < l.n → [SV.int .i64 (l.g i)] = [SV.int .i64 (l.g i)]) ∧ (l.n = l.n ∧ ∀ (i :
 Nat), i < l.n → [SV.int .i64 (l.g i)] = [SV.int .i64 (l.g i)]) ∧ v = v ∧ (g' ≤ l.n ∧ ∀ (j : Nat), j < g' → decide (v = l.g j) = false) ∧ l.n - g' < l.n - g)) ∧ (decide ((↑g : Int) < (↑l.n : Int)) = false → (-1 : Int) = L.idx l.n fun (i : Nat) ↦ decide (v = l.g i))) (by kernel_rfl) (by
    have hn : l.n ≤ 1000000 := hp
    refine ⟨⟨(0 : Nat), rfl, Nat.zero_le _, fun j hj => by omega⟩, fun g hg => ⟨fun hlt => ?_, fun hge => ?_⟩⟩
    · have hb : (g : Int) < (l.n : Int) := by simpa using hlt
      have e0 : ((g : Int)).toNat = g := by omega
      rw [e0]
      refine ⟨by omega, fun h => ?_, fun h => ?_⟩
      · exact (idx_at (f := fun i => decide (v = l.g i)) hg.2 h (by omega)).symm
      · exact ⟨InK.of (by omega) (by omega), g + 1, by omega, rfl, ⟨rfl, fun _ _ => rfl⟩, ⟨rfl, fun _ _ => rfl⟩, rfl, ⟨by omega, fun j hj => by
          rcases Nat.lt_succ_iff_lt_or_eq.1 hj with h' | rfl
          · exact hg.2 j h'
          · exact h⟩, by omega⟩
    · have hb : ¬ (g : Int) < (l.n : Int) := by simpa using hge
      exact (idx_none (f := fun i => decide (v = l.g i)) (fun j hj => hg.2 j (by omega))).symm)
theorem s_idxI_ok : SpecOk Tryz.prog 175 s_idxI_S := fnX Tryz.func175 (c := bodyOf Tryz.f175) (by kernel_rfl) mixed (fun args p r hs hp => by
  unfold s_idxI_s at hs
  split at hs
  · cases hs; exact ⟨_, _, s_idxI_vc _ _ hp.2, (.p (.sl hp.1) (.same _ .nil)), ⟨show SpecsL Tryz.prog _ from SpecsL.nil, rfl, ⟨show ItersL Tryz.prog _ from ItersL.nil, (TrsOk.none (fun _ => rfl))⟩⟩⟩
  · cases hs)
theorem s_idxI_en : Enters Tryz.prog 175 := fun args w => by kernel_rfl
def s_conI_p (l : (L.Sq Int)) (v : Int) : Prop := l.n ≤ 1000000
def s_conI_r (l : (L.Sq Int)) (v : Int) : SV := .bool (L.anyB l.n (fun i => decide (v = l.g i)))
def s_conI_s : List EV → Option (Prop × SV)
  | [.p (.sl 1 l_n l_g), .p (.int .i64 v)] => some ((∀ i, i < l_n → l_g i = [.int .i64 ((intOf (l_g i)))]) ∧ s_conI_p (⟨l_n, fun i => intOf (l_g i)⟩ : (L.Sq Int)) v, s_conI_r (⟨l_n, fun i => intOf (l_g i)⟩ : (L.Sq Int)) v)
  | _ => none
abbrev s_conI_S : SE.Spec := (specO s_conI_s)
def s_conI_C : Cfg := { muts := [], frz := lookN [], specs := lookS [(175, s_idxI_S)], loops := lookL [], iters := lookI [], rfs := lookR [], nils := lookM [] }
theorem s_conI_vc (l : (L.Sq Int)) (v : Int) (hp : s_conI_p l v) : vc Tryz.prog (s_conI_C) (bodyOf Tryz.f123) (st0 Tryz.f123 [.p (.sl 1 l.n (fun i => [.int .i64 ((l.g i))])), .p (.int .i64 v)]) (retFn Tryz.prog Tryz.f123 (s_conI_r l v)) :=
  @Eq.mpr _ (((∀ (i : Nat), i < l.n → [SV.int .i64 (l.g i)] = [SV.int .i64 (l.g i)]) ∧ l.n ≤ (1000000 : Nat)) ∧ decide ((0 : Int) ≤ L.idx l.n fun (i : Nat) ↦ decide (v = l.g i)) = L.anyB l.n fun (i : Nat) ↦ decide (v = l.g i)) (by kernel_rfl) (by
    refine ⟨⟨fun _ _ => rfl, hp⟩, idx_any⟩)
theorem s_conI_ok : SpecOk Tryz.prog 123 s_conI_S := fnX Tryz.func123 (c := bodyOf Tryz.f123) (by kernel_rfl) mixed (fun args p r hs hp => by
  unfold s_conI_s at hs
  split at hs
  · cases hs; exact ⟨_, _, s_conI_vc _ _ hp.2, (.p (.sl hp.1) (.same _ .nil)), ⟨show SpecsL Tryz.prog _ from (SpecsL.cons s_idxI_ok s_idxI_en SpecsL.nil), rfl, ⟨show ItersL Tryz.prog _ from ItersL.nil, (TrsOk.none (fun _ => rfl))⟩⟩⟩
  · cases hs)
theorem s_conI_en : Enters Tryz.prog 123 := fun args w => by kernel_rfl
end Go.Proofs.YtooapgllahonaaaGreat

namespace Go.Proofs.YtooapgllahonaaaGreat
open Go.SE Go.RowKit
set_option maxRecDepth 100000
set_option maxHeartbeats 4000000
set_option linter.unusedVariables false
attribute [local irreducible] vc

def L.cross (a b c : L.Pt) : Int := (b.x - a.x) * (c.y - a.y) - (b.y - a.y) * (c.x - a.x)
def L.dist (a b : L.Pt) : Int := (b.x - a.x) * (b.x - a.x) + (b.y - a.y) * (b.y - a.y)
def L.bd (p : L.Pt) : Prop := -4000000 ≤ p.x ∧ p.x ≤ 4000000 ∧ -4000000 ≤ p.y ∧ p.y ≤ 4000000
def L.validPt (p : L.Pt) : Bool := L.within p.x 0 4096 && L.within p.y 0 4096
theorem validPt_bd {p : L.Pt} (h : L.validPt p = true) : L.bd p := by
  simp only [L.validPt, L.within, Bool.and_eq_true, decide_eq_true_eq] at h
  unfold L.bd; omega
def L.cmpPt (a b : L.Pt) : Int := L.or2 (L.cmp a.x b.x) (L.cmp a.y b.y)
def L.on (a b p : L.Pt) : Bool := decide (L.cross a b p = 0) && L.within p.x (min a.x b.x) (max a.x b.x) && L.within p.y (min a.y b.y) (max a.y b.y)
def L.apart (a b c d : L.Pt) : Bool := decide (L.cmp (L.cross a b c) 0 * L.cmp (L.cross a b d) 0 < 0)
theorem not_anyB {f : Nat → Bool} : ∀ {n : Nat}, (!L.anyB n f) = L.allB n (fun i => !f i)
  | 0 => rfl
  | n + 1 => by simp [L.anyB, L.allB, ← not_anyB (n := n)]
theorem cmp_bd (a b : Int) : -1 ≤ L.cmp a b ∧ L.cmp a b ≤ 1 := by
  unfold L.cmp
  by_cases h : a < b <;> by_cases k : b < a <;> simp [h, k]
def p_cross_p (a : L.Pt) (b : L.Pt) (c : L.Pt) : Prop := L.bd a ∧ L.bd b ∧ L.bd c
def p_cross_r (a : L.Pt) (b : L.Pt) (c : L.Pt) : SV := .int .i64 (L.cross a b c)
def p_cross_s : List EV → Option (Prop × SV)
  | [.p (.agg [.int .i64 a_x, .int .i64 a_y]), .p (.agg [.int .i64 b_x, .int .i64 b_y]), .p (.agg [.int .i64 c_x, .int .i64 c_y])] => some (p_cross_p (⟨a_x, a_y⟩ : L.Pt) (⟨b_x, b_y⟩ : L.Pt) (⟨c_x, c_y⟩ : L.Pt), p_cross_r (⟨a_x, a_y⟩ : L.Pt) (⟨b_x, b_y⟩ : L.Pt) (⟨c_x, c_y⟩ : L.Pt))
  | _ => none
abbrev p_cross_S : SE.Spec := (specO p_cross_s)
def p_cross_C : Cfg := { muts := [], frz := lookN [], specs := lookS [], loops := lookL [], iters := lookI [], rfs := lookR [], nils := lookM [] }
theorem p_cross_vc (a : L.Pt) (b : L.Pt) (c : L.Pt) (hp : p_cross_p a b c) : vc Tryz.prog (p_cross_C) (bodyOf Tryz.f83) (st0 Tryz.f83 [.p (.agg [.int .i64 a.x, .int .i64 a.y]), .p (.agg [.int .i64 b.x, .int .i64 b.y]), .p (.agg [.int .i64 c.x, .int .i64 c.y])]) (retFn Tryz.prog Tryz.f83 (p_cross_r a b c)) :=
  @Eq.mpr _ (InK .i64 (b.x - a.x) ∧ InK .i64 (c.y - a.y) ∧ InK .i64 ((b.x - a.x) * (c.y - a.y)) ∧ InK .i64 (b.y - a.y) ∧ InK .i64 (c.x - a.x) ∧ InK .i64 ((b.y - a.y) * (c.x - a.x)) ∧ InK .i64 ((b.x - a.x) * (c.y - a.y) - (b.y - a.y) * (c.x - a.x)) ∧ (b.x - a.x) * (c.y - a.y) - (b.y - a.y) * (c.x -
 a.x) = L.cross a b c) (by kernel_rfl) (by
    obtain ⟨h1, h2, h3⟩ := hp
    unfold L.bd at h1 h2 h3
    have m1 := mul_bd (a := b.x - a.x) (b := c.y - a.y) (m := 8000000) (n := 8000000) (by omega) (by omega) (by omega) (by omega)
    have m2 := mul_bd (a := b.y - a.y) (b := c.x - a.x) (m := 8000000) (n := 8000000) (by omega) (by omega) (by omega) (by omega)
    exact ⟨InK.of (by omega) (by omega), InK.of (by omega) (by omega), InK.of (by omega) (by omega), InK.of (by omega) (by omega), InK.of (by omega) (by omega), InK.of (by omega) (by omega), InK.of (by omega) (by omega), rfl⟩)
theorem p_cross_ok : SpecOk Tryz.prog 83 p_cross_S := fnX Tryz.func83 (c := bodyOf Tryz.f83) (by kernel_rfl) mixed (fun args p r hs hp => by
  unfold p_cross_s at hs
  split at hs
  · cases hs; exact ⟨_, _, p_cross_vc _ _ _ hp, (.same _ (.same _ (.same _ .nil))), ⟨show SpecsL Tryz.prog _ from SpecsL.nil, rfl, ⟨show ItersL Tryz.prog _ from ItersL.nil, (TrsOk.none (fun _ => rfl))⟩⟩⟩
  · cases hs)
theorem p_cross_en : Enters Tryz.prog 83 := fun args w => by kernel_rfl
def p_square_p (a : L.Pt) (b : L.Pt) : Prop := L.bd a ∧ L.bd b
def p_square_r (a : L.Pt) (b : L.Pt) : SV := .int .i64 (L.dist a b)
def p_square_s : List EV → Option (Prop × SV)
  | [.p (.agg [.int .i64 a_x, .int .i64 a_y]), .p (.agg [.int .i64 b_x, .int .i64 b_y])] => some (p_square_p (⟨a_x, a_y⟩ : L.Pt) (⟨b_x, b_y⟩ : L.Pt), p_square_r (⟨a_x, a_y⟩ : L.Pt) (⟨b_x, b_y⟩ : L.Pt))
  | _ => none
abbrev p_square_S : SE.Spec := (specO p_square_s)
def p_square_C : Cfg := { muts := [], frz := lookN [], specs := lookS [], loops := lookL [], iters := lookI [], rfs := lookR [], nils := lookM [] }
theorem p_square_vc (a : L.Pt) (b : L.Pt) (hp : p_square_p a b) : vc Tryz.prog (p_square_C) (bodyOf Tryz.f170) (st0 Tryz.f170 [.p (.agg [.int .i64 a.x, .int .i64 a.y]), .p (.agg [.int .i64 b.x, .int .i64 b.y])]) (retFn Tryz.prog Tryz.f170 (p_square_r a b)) :=
  @Eq.mpr _ (InK .i64 (b.x - a.x) ∧ InK .i64 (b.x - a.x) ∧ InK .i64 ((b.x - a.x) * (b.x - a.x)) ∧ InK .i64 (b.y - a.y) ∧ InK .i64 (b.y - a.y) ∧ InK .i64 ((b.y - a.y) * (b.y - a.y)) ∧ InK .i64 ((b.x - a.x) * (b.x - a.x) + (b.y - a.y) * (b.y - a.y)) ∧ (b.x - a.x) * (b.x - a.x) + (b.y - a.y) * (b.y -
 a.y) = L.dist a b) (by kernel_rfl) (by
    obtain ⟨h1, h2⟩ := hp
    unfold L.bd at h1 h2
    have m1 := mul_bd (a := b.x - a.x) (b := b.x - a.x) (m := 8000000) (n := 8000000) (by omega) (by omega) (by omega) (by omega)
    have m2 := mul_bd (a := b.y - a.y) (b := b.y - a.y) (m := 8000000) (n := 8000000) (by omega) (by omega) (by omega) (by omega)
    exact ⟨InK.of (by omega) (by omega), InK.of (by omega) (by omega), InK.of (by omega) (by omega), InK.of (by omega) (by omega), InK.of (by omega) (by omega), InK.of (by omega) (by omega), InK.of (by omega) (by omega), rfl⟩)
theorem p_square_ok : SpecOk Tryz.prog 170 p_square_S := fnX Tryz.func170 (c := bodyOf Tryz.f170) (by kernel_rfl) mixed (fun args p r hs hp => by
  unfold p_square_s at hs
  split at hs
  · cases hs; exact ⟨_, _, p_square_vc _ _ hp, (.same _ (.same _ .nil)), ⟨show SpecsL Tryz.prog _ from SpecsL.nil, rfl, ⟨show ItersL Tryz.prog _ from ItersL.nil, (TrsOk.none (fun _ => rfl))⟩⟩⟩
  · cases hs)
theorem p_square_en : Enters Tryz.prog 170 := fun args w => by kernel_rfl
def p_validPoint_p (p : L.Pt) : Prop := True
def p_validPoint_r (p : L.Pt) : SV := .bool (L.validPt p)
def p_validPoint_s : List EV → Option (Prop × SV)
  | [.p (.agg [.int .i64 p_x, .int .i64 p_y])] => some (p_validPoint_p (⟨p_x, p_y⟩ : L.Pt), p_validPoint_r (⟨p_x, p_y⟩ : L.Pt))
  | _ => none
abbrev p_validPoint_S : SE.Spec := (specO p_validPoint_s)
def p_validPoint_C : Cfg := { muts := [], frz := lookN [], specs := lookS [(77, p_within_S)], loops := lookL [], iters := lookI [], rfs := lookR [], nils := lookM [] }
theorem p_validPoint_vc (p : L.Pt) (hp : p_validPoint_p p) : vc Tryz.prog (p_validPoint_C) (bodyOf Tryz.f141) (st0 Tryz.f141 [.p (.agg [.int .i64 p.x, .int .i64 p.y])]) (retFn Tryz.prog Tryz.f141 (p_validPoint_r p)) :=
  @Eq.mpr _ (True ∧ (L.within p.x (0 : Int) (4096 : Int) = true → True) ∧ (bif L.within p.x (0 : Int) (4096 : Int) then L.within p.y (0 : Int) (4096 : Int) else false) = L.validPt p) (by kernel_rfl) (by
    refine ⟨trivial, fun _ => trivial, ?_⟩
    unfold L.validPt
    cases L.within p.x 0 4096 <;> rfl)
theorem p_validPoint_ok : SpecOk Tryz.prog 141 p_validPoint_S := fnX Tryz.func141 (c := bodyOf Tryz.f141) (by kernel_rfl) mixed (fun args p r hs hp => by
  unfold p_validPoint_s at hs
  split at hs
  · cases hs; exact ⟨_, _, p_validPoint_vc _ hp, (.same _ .nil), ⟨show SpecsL Tryz.prog _ from (SpecsL.cons p_within_ok p_within_en SpecsL.nil), rfl, ⟨show ItersL Tryz.prog _ from ItersL.nil, (TrsOk.none (fun _ => rfl))⟩⟩⟩
  · cases hs)
theorem p_validPoint_en : Enters Tryz.prog 141 := fun args w => by kernel_rfl
def p_valid1_p (p : L.Pt) : Prop := True
def p_valid1_r (p : L.Pt) : SV := .bool (!L.validPt p)
def p_valid1_s : List EV → Option (Prop × SV)
  | [.p (.agg [.int .i64 p_x, .int .i64 p_y])] => some (p_valid1_p (⟨p_x, p_y⟩ : L.Pt), p_valid1_r (⟨p_x, p_y⟩ : L.Pt))
  | _ => none
abbrev p_valid1_S : SE.Spec := (specO p_valid1_s)
def p_valid1_C : Cfg := { muts := [], frz := lookN [], specs := lookS [(141, p_validPoint_S)], loops := lookL [], iters := lookI [], rfs := lookR [], nils := lookM [] }
theorem p_valid1_vc (p : L.Pt) (hp : p_valid1_p p) : vc Tryz.prog (p_valid1_C) (bodyOf Tryz.f140) (st0 Tryz.f140 [.p (.agg [.int .i64 p.x, .int .i64 p.y])]) (retFn Tryz.prog Tryz.f140 (p_valid1_r p)) :=
  @Eq.mpr _ (True ∧ (!L.validPt p) = !L.validPt p) (by kernel_rfl) (by
    exact ⟨trivial, rfl⟩)
theorem p_valid1_ok : SpecOk Tryz.prog 140 p_valid1_S := fnX Tryz.func140 (c := bodyOf Tryz.f140) (by kernel_rfl) mixed (fun args p r hs hp => by
  unfold p_valid1_s at hs
  split at hs
  · cases hs; exact ⟨_, _, p_valid1_vc _ hp, (.same _ .nil), ⟨show SpecsL Tryz.prog _ from (SpecsL.cons p_validPoint_ok p_validPoint_en SpecsL.nil), rfl, ⟨show ItersL Tryz.prog _ from ItersL.nil, (TrsOk.none (fun _ => rfl))⟩⟩⟩
  · cases hs)
theorem p_valid1_en : Enters Tryz.prog 140 := fun args w => by kernel_rfl
theorem p_valid1_B : ∀ args p r, p_valid1_s args = some (p, r) → ∃ b, r = .bool b := by
  intro args p r h
  unfold p_valid1_s at h
  split at h
  · cases h; exact ⟨_, rfl⟩
  · cases h
def p_valid_p (l : (L.Sq L.Pt)) : Prop := l.n ≤ 1000000
def p_valid_r (l : (L.Sq L.Pt)) : SV := .bool (L.allB l.n (fun i => L.validPt (l.g i)))
def p_valid_s : List EV → Option (Prop × SV)
  | [.p (.sl 2 l_n l_g)] => some ((∀ i, i < l_n → l_g i = [.int .i64 ((ofPt (l_g i)).x), .int .i64 ((ofPt (l_g i)).y)]) ∧ p_valid_p (⟨l_n, fun i => ofPt (l_g i)⟩ : (L.Sq L.Pt)), p_valid_r (⟨l_n, fun i => ofPt (l_g i)⟩ : (L.Sq L.Pt)))
  | _ => none
abbrev p_valid_S : SE.Spec := (specO p_valid_s)
def p_valid_C : Cfg := { muts := [], frz := lookN [], specs := lookS [(136, s_conFP_S), (140, p_valid1_S)], loops := lookL [], iters := lookI [], rfs := lookR [], nils := lookM [] }
theorem p_valid_vc (l : (L.Sq L.Pt)) (hp : p_valid_p l) : vc Tryz.prog (p_valid_C) (bodyOf Tryz.f70) (st0 Tryz.f70 [.p (.sl 2 l.n (fun i => [.int .i64 ((l.g i).x), .int .i64 ((l.g i).y)]))]) (retFn Tryz.prog Tryz.f70 (p_valid_r l)) :=
  @Eq.mpr _ (((∀ (i : Nat), i < l.n → [SV.int .i64 (l.g i).x, SV.int .i64 (l.g i).y] = [SV.int .i64 (l.g i).x, SV.int .i64 (l.g i).y]) ∧ isB (FSpec.mk (fun («as» : List SV) ↦ preO p_valid1_s (List.map EV.p «as» ++ List.map EV.p [])) fun («as» : List SV) ↦ resO p_valid1_s (List.map EV.p «as» ++
 List.map EV.p [])) ∧ l.n ≤ (1000000 : Nat) ∧ ∀ (i : Nat), i < l.n → True) ∧ (!L.anyB l.n fun (i : Nat) ↦ L.fbl (FSpec.mk (fun («as» : List SV) ↦ preO p_valid1_s (List.map EV.p «as» ++ List.map EV.p [])) fun («as» : List SV) ↦ resO p_valid1_s (List.map EV.p «as» ++ List.map EV.p [])) [SV.agg [SV.int .i64 (l.g i).x,
 SV.int .i64 (l.g i).y]]) = L.allB l.n fun (i : Nat) ↦ L.validPt (l.g i)) (by kernel_rfl) (by
    refine ⟨⟨fun _ _ => rfl, isB_of p_valid1_B _, hp, fun _ _ => trivial⟩, ?_⟩
    rw [not_anyB]
    exact congrArg (L.allB l.n) (funext fun i => Bool.not_not (L.validPt (l.g i))))
theorem p_valid_ok : SpecOk Tryz.prog 70 p_valid_S := fnX Tryz.func70 (c := bodyOf Tryz.f70) (by kernel_rfl) mixed (fun args p r hs hp => by
  unfold p_valid_s at hs
  split at hs
  · cases hs; exact ⟨_, _, p_valid_vc _ hp.2, (.p (.sl hp.1) .nil), ⟨show SpecsL Tryz.prog _ from (SpecsL.cons s_conFP_ok s_conFP_en (SpecsL.cons p_valid1_ok p_valid1_en SpecsL.nil)), rfl, ⟨show ItersL Tryz.prog _ from ItersL.nil, (TrsOk.none (fun _ => rfl))⟩⟩⟩
  · cases hs)
theorem p_valid_en : Enters Tryz.prog 70 := fun args w => by kernel_rfl
def p_Square_p (a : L.Pt) (b : L.Pt) : Prop := True
def p_Square_r (a : L.Pt) (b : L.Pt) : SV := .tup [.int .i64 (bif L.validPt a && L.validPt b then L.dist a b else 0), .int .i64 (bif L.validPt a && L.validPt b then 0 else 1)]
def p_Square_s : List EV → Option (Prop × SV)
  | [.p (.agg [.int .i64 a_x, .int .i64 a_y]), .p (.agg [.int .i64 b_x, .int .i64 b_y])] => some (p_Square_p (⟨a_x, a_y⟩ : L.Pt) (⟨b_x, b_y⟩ : L.Pt), p_Square_r (⟨a_x, a_y⟩ : L.Pt) (⟨b_x, b_y⟩ : L.Pt))
  | _ => none
abbrev p_Square_S : SE.Spec := (specO p_Square_s)
def p_Square_C : Cfg := { muts := [], frz := lookN [], specs := lookS [(70, p_valid_S), (170, p_square_S)], loops := lookL [], iters := lookI [], rfs := lookR [], nils := lookM [] }
theorem p_Square_vc (a : L.Pt) (b : L.Pt) (hp : p_Square_p a b) : vc Tryz.prog (p_Square_C) (bodyOf Tryz.f172) (st0 Tryz.f172 [.p (.agg [.int .i64 a.x, .int .i64 a.y]), .p (.agg [.int .i64 b.x, .int .i64 b.y])]) (retFn Tryz.prog Tryz.f172 (p_Square_r a b)) :=
  @Eq.mpr _ (((∀ (i : Nat), i < nat_lit 2 → rowsOf [SV.int .i64 a.x, SV.int .i64 a.y, SV.int .i64 b.x, SV.int .i64 b.y] (nat_lit 2) i = [SV.int .i64 (ofPt (rowsOf [SV.int .i64 a.x, SV.int .i64 a.y, SV.int .i64 b.x, SV.int .i64 b.y] (nat_lit 2) i)).x,
 SV.int .i64 (ofPt (rowsOf [SV.int .i64 a.x, SV.int .i64 a.y, SV.int .i64 b.x, SV.int .i64 b.y] (nat_lit 2) i)).y]) ∧ nat_lit 2 ≤ (1000000 : Nat)) ∧ ((!L.allB (nat_lit 2) fun (i : Nat) ↦ L.validPt (ofPt (rowsOf [SV.int .i64 a.x, SV.int .i64 a.y, SV.int .i64
 b.x, SV.int .i64 b.y] (nat_lit 2) i))) = true → ((0 : Int) = bif L.validPt a && L.validPt b then L.dist a b else (0 : Int)) ∧ (1 : Int) = bif L.validPt a && L.validPt b then (0 : Int) else (1 : Int)) ∧ ((!L.allB (nat_lit 2) fun (i : Nat) ↦ L.validPt (ofPt (rowsOf [SV.int .i64 a.x, SV.int .i64 a.y, SV.int .i64 b.x,
 SV.int .i64 b.y] (nat_lit 2) i))) = false → (L.bd a ∧ L.bd b) ∧ (L.dist a b = bif L.validPt a && L.validPt b then L.dist a b else (0 : Int)) ∧ (0 : Int) = bif L.validPt a && L.validPt b then (0 : Int) else (1 : Int))) (by kernel_rfl) (by
    refine ⟨⟨fun i hi => by match i, hi with | 0, _ => rfl | 1, _ => rfl, by decide⟩, fun h => ?_, fun h => ?_⟩
    · have h' : (L.validPt a && L.validPt b) = false := by simpa only [Bool.not_eq_true', Bool.not_eq_false'] using (show (!(L.validPt a && L.validPt b)) = true from h)
      rw [h']; exact ⟨rfl, rfl⟩
    · have h' : (L.validPt a && L.validPt b) = true := by simpa only [Bool.not_eq_true', Bool.not_eq_false'] using (show (!(L.validPt a && L.validPt b)) = false from h)
      obtain ⟨va, vb⟩ := Bool.and_eq_true_iff.1 h'
      rw [h']; exact ⟨⟨validPt_bd va, validPt_bd vb⟩, rfl, rfl⟩)
theorem p_Square_ok : SpecOk Tryz.prog 172 p_Square_S := fnX Tryz.func172 (c := bodyOf Tryz.f172) (by kernel_rfl) mixed (fun args p r hs hp => by
  unfold p_Square_s at hs
  split at hs
  · cases hs; exact ⟨_, _, p_Square_vc _ _ hp, (.same _ (.same _ .nil)), ⟨show SpecsL Tryz.prog _ from (SpecsL.cons p_valid_ok p_valid_en (SpecsL.cons p_square_ok p_square_en SpecsL.nil)), rfl, ⟨show ItersL Tryz.prog _ from ItersL.nil, (TrsOk.none (fun _ => rfl))⟩⟩⟩
  · cases hs)
theorem p_Square_en : Enters Tryz.prog 172 := fun args w => by kernel_rfl
def p_compare_p (a : L.Pt) (b : L.Pt) : Prop := True
def p_compare_r (a : L.Pt) (b : L.Pt) : SV := .int .i64 (L.cmpPt a b)
def p_compare_s : List EV → Option (Prop × SV)
  | [.p (.agg [.int .i64 a_x, .int .i64 a_y]), .p (.agg [.int .i64 b_x, .int .i64 b_y])] => some (p_compare_p (⟨a_x, a_y⟩ : L.Pt) (⟨b_x, b_y⟩ : L.Pt), p_compare_r (⟨a_x, a_y⟩ : L.Pt) (⟨b_x, b_y⟩ : L.Pt))
  | _ => none
abbrev p_compare_S : SE.Spec := (specO p_compare_s)
def p_compare_C : Cfg := { muts := [], frz := lookN [], specs := lookS [(94, c_cmp_S), (116, c_or_S)], loops := lookL [], iters := lookI [], rfs := lookR [], nils := lookM [] }
theorem p_compare_vc (a : L.Pt) (b : L.Pt) (hp : p_compare_p a b) : vc Tryz.prog (p_compare_C) (bodyOf Tryz.f91) (st0 Tryz.f91 [.p (.agg [.int .i64 a.x, .int .i64 a.y]), .p (.agg [.int .i64 b.x, .int .i64 b.y])]) (retFn Tryz.prog Tryz.f91 (p_compare_r a b)) :=
  @Eq.mpr _ (True ∧ True ∧ ((∀ (i : Nat), i < nat_lit 2 → rowsOf [SV.int .i64 (L.cmp a.x b.x), SV.int .i64 (L.cmp a.y b.y)] (nat_lit 1) i = [SV.int .i64 (intOf (rowsOf [SV.int .i64 (L.cmp a.x b.x), SV.int .i64 (L.cmp a.y b.y)] (nat_lit 1) i))]) ∧ nat_lit 2 ≤ (1000000 : Nat)) ∧ L.firstNZ (fun (i : Nat) ↦ intOf
 (rowsOf [SV.int .i64 (L.cmp a.x b.x), SV.int .i64 (L.cmp a.y b.y)] (nat_lit 1) i)) (2 : Nat) = L.cmpPt a b) (by kernel_rfl) (by
    exact ⟨trivial, trivial, ⟨fun i hi => by match i, hi with | 0, _ => rfl | 1, _ => rfl, by decide⟩, rfl⟩)
theorem p_compare_ok : SpecOk Tryz.prog 91 p_compare_S := fnX Tryz.func91 (c := bodyOf Tryz.f91) (by kernel_rfl) mixed (fun args p r hs hp => by
  unfold p_compare_s at hs
  split at hs
  · cases hs; exact ⟨_, _, p_compare_vc _ _ hp, (.same _ (.same _ .nil)), ⟨show SpecsL Tryz.prog _ from (SpecsL.cons c_cmp_ok c_cmp_en (SpecsL.cons c_or_ok c_or_en SpecsL.nil)), rfl, ⟨show ItersL Tryz.prog _ from ItersL.nil, (TrsOk.none (fun _ => rfl))⟩⟩⟩
  · cases hs)
theorem p_compare_en : Enters Tryz.prog 91 := fun args w => by kernel_rfl
def p_on_p (a : L.Pt) (b : L.Pt) (p : L.Pt) : Prop := L.bd a ∧ L.bd b ∧ L.bd p
def p_on_r (a : L.Pt) (b : L.Pt) (p : L.Pt) : SV := .bool (L.on a b p)
def p_on_s : List EV → Option (Prop × SV)
  | [.p (.agg [.int .i64 a_x, .int .i64 a_y]), .p (.agg [.int .i64 b_x, .int .i64 b_y]), .p (.agg [.int .i64 p_x, .int .i64 p_y])] => some (p_on_p (⟨a_x, a_y⟩ : L.Pt) (⟨b_x, b_y⟩ : L.Pt) (⟨p_x, p_y⟩ : L.Pt), p_on_r (⟨a_x, a_y⟩ : L.Pt) (⟨b_x, b_y⟩ : L.Pt) (⟨p_x, p_y⟩ : L.Pt))
  | _ => none
abbrev p_on_S : SE.Spec := (specO p_on_s)
def p_on_C : Cfg := { muts := [], frz := lookN [], specs := lookS [(83, p_cross_S), (77, p_within_S)], loops := lookL [], iters := lookI [], rfs := lookR [], nils := lookM [] }
theorem p_on_vc (a : L.Pt) (b : L.Pt) (p : L.Pt) (hp : p_on_p a b p) : vc Tryz.prog (p_on_C) (bodyOf Tryz.f188) (st0 Tryz.f188 [.p (.agg [.int .i64 a.x, .int .i64 a.y]), .p (.agg [.int .i64 b.x, .int .i64 b.y]), .p (.agg [.int .i64 p.x, .int .i64 p.y])]) (retFn Tryz.prog Tryz.f188 (p_on_r a b p)) :=
  @Eq.mpr _ ((L.bd a ∧ L.bd b ∧ L.bd p) ∧ (decide (L.cross a b p = (0 : Int)) = true → True) ∧ ((bif decide (L.cross a b p = (0 : Int)) then L.within p.x (Min.min a.x b.x) (Max.max a.x b.x) else false) = true → True) ∧ (bif bif decide (L.cross a b p = (0 : Int)) then L.within p.x (Min.min a.x b.x) (Max.max a.x b.x) else false then L.within p.y (Min.min a.y b.y)
 (Max.max a.y b.y) else false) = L.on a b p) (by kernel_rfl) (by
    refine ⟨hp, fun _ => trivial, fun _ => trivial, ?_⟩
    unfold L.on
    cases decide (L.cross a b p = 0) <;> cases L.within p.x (min a.x b.x) (max a.x b.x) <;> rfl)
theorem p_on_ok : SpecOk Tryz.prog 188 p_on_S := fnX Tryz.func188 (c := bodyOf Tryz.f188) (by kernel_rfl) mixed (fun args p r hs hp => by
  unfold p_on_s at hs
  split at hs
  · cases hs; exact ⟨_, _, p_on_vc _ _ _ hp, (.same _ (.same _ (.same _ .nil))), ⟨show SpecsL Tryz.prog _ from (SpecsL.cons p_cross_ok p_cross_en (SpecsL.cons p_within_ok p_within_en SpecsL.nil)), rfl, ⟨show ItersL Tryz.prog _ from ItersL.nil, (TrsOk.none (fun _ => rfl))⟩⟩⟩
  · cases hs)
theorem p_on_en : Enters Tryz.prog 188 := fun args w => by kernel_rfl
def p_meet1_p (a : L.Pt) (b : L.Pt) (c : L.Pt) (d : L.Pt) : Prop := L.bd a ∧ L.bd b ∧ L.bd c ∧ L.bd d
def p_meet1_r (a : L.Pt) (b : L.Pt) (c : L.Pt) (d : L.Pt) : SV := .bool (L.apart a b c d)
def p_meet1_s : List EV → Option (Prop × SV)
  | [.p (.agg [.int .i64 a_x, .int .i64 a_y]), .p (.agg [.int .i64 b_x, .int .i64 b_y]), .p (.agg [.int .i64 c_x, .int .i64 c_y]), .p (.agg [.int .i64 d_x, .int .i64 d_y])] => some (p_meet1_p (⟨a_x, a_y⟩ : L.Pt) (⟨b_x, b_y⟩ : L.Pt) (⟨c_x, c_y⟩ : L.Pt) (⟨d_x, d_y⟩ : L.Pt), p_meet1_r (⟨a_x, a_y⟩ : L.Pt) (⟨b_x, b_y⟩ : L.Pt) (⟨c_x, c_y⟩ : L.Pt) (⟨d_x, d_y⟩ : L.Pt))
  | _ => none
abbrev p_meet1_S : SE.Spec := (specO p_meet1_s)
def p_meet1_C : Cfg := { muts := [], frz := lookN [], specs := lookS [(83, p_cross_S), (94, c_cmp_S)], loops := lookL [], iters := lookI [], rfs := lookR [], nils := lookM [] }
theorem p_meet1_vc (a : L.Pt) (b : L.Pt) (c : L.Pt) (d : L.Pt) (hp : p_meet1_p a b c d) : vc Tryz.prog (p_meet1_C) (bodyOf Tryz.f189) (st0 Tryz.f189 [.p (.agg [.int .i64 a.x, .int .i64 a.y]), .p (.agg [.int .i64 b.x, .int .i64 b.y]), .p (.agg [.int .i64 c.x, .int .i64 c.y]), .p (.agg [.int .i64 d.x, .int .i64 d.y])]) (retFn Tryz.prog Tryz.f189 (p_meet1_r a b c d)) :=
  @Eq.mpr _ ((L.bd a ∧ L.bd b ∧ L.bd c) ∧ True ∧ (L.bd a ∧ L.bd b ∧ L.bd d) ∧ True ∧ InK .i64 (L.cmp (L.cross a b c) (0 : Int) * L.cmp (L.cross a b d) (0 : Int)) ∧ decide (L.cmp (L.cross a b c) (0 : Int) * L.cmp (L.cross a b d) (0 : Int) < (0 : Int)) = L.apart a b c d) (by kernel_rfl) (by
    obtain ⟨h1, h2, h3, h4⟩ := hp
    have c1 := cmp_bd (L.cross a b c) 0
    have c2 := cmp_bd (L.cross a b d) 0
    have m := mul_bd (m := 1) (n := 1) (by omega) c1.2 (by omega) c2.2
    exact ⟨⟨h1, h2, h3⟩, trivial, ⟨h1, h2, h4⟩, trivial, InK.of (by omega) (by omega), rfl⟩)
theorem p_meet1_ok : SpecOk Tryz.prog 189 p_meet1_S := fnX Tryz.func189 (c := bodyOf Tryz.f189) (by kernel_rfl) mixed (fun args p r hs hp => by
  unfold p_meet1_s at hs
  split at hs
  · cases hs; exact ⟨_, _, p_meet1_vc _ _ _ _ hp, (.same _ (.same _ (.same _ (.same _ .nil)))), ⟨show SpecsL Tryz.prog _ from (SpecsL.cons p_cross_ok p_cross_en (SpecsL.cons c_cmp_ok c_cmp_en SpecsL.nil)), rfl, ⟨show ItersL Tryz.prog _ from ItersL.nil, (TrsOk.none (fun _ => rfl))⟩⟩⟩
  · cases hs)
theorem p_meet1_en : Enters Tryz.prog 189 := fun args w => by kernel_rfl
end Go.Proofs.YtooapgllahonaaaGreat

namespace Go.Proofs.YtooapgllahonaaaGreat
open Go.SE Go.RowKit
set_option maxRecDepth 100000
set_option maxHeartbeats 4000000
set_option linter.unusedVariables false
attribute [local irreducible] vc

def L.same (p q : L.Pt) : Bool := decide (p.x = q.x) && decide (p.y = q.y)
def L.has (ks : L.Sq L.Pt) (p : L.Pt) : Bool := L.anyB ks.n (fun i => L.same p (ks.g i))
def L.put (ks : L.Sq L.Pt) (p : L.Pt) : L.Sq L.Pt := bif L.has ks p then ks else ⟨ks.n + 1, fun i => if i < ks.n then ks.g i else p⟩
def L.putIf (c : Bool) (ks : L.Sq L.Pt) (p : L.Pt) : L.Sq L.Pt := bif c then L.put ks p else ks
def L.no : L.Sq L.Pt := ⟨0, fun _ => ⟨0, 0⟩⟩
def L.pick (a b : L.Pt) (i : Nat) : L.Pt := bif decide (i = 0) then a else b
def L.k1 (a b c d : L.Pt) : Nat → L.Sq L.Pt
  | 0 => L.no
  | n + 1 => L.putIf (L.on c d (L.pick a b n)) (L.k1 a b c d n) (L.pick a b n)
def L.k2 (a b c d : L.Pt) : Nat → L.Sq L.Pt
  | 0 => L.k1 a b c d 2
  | n + 1 => L.putIf (L.on a b (L.pick c d n)) (L.k2 a b c d n) (L.pick c d n)
def L.meet (a b c d : L.Pt) : Int := bif decide (1 < ((L.k2 a b c d 2).n : Int)) then 3 else bif decide (((L.k2 a b c d 2).n : Int) = 1) then 1 else bif (bif L.apart a b c d then L.apart c d a b else false) then 2 else 0
def L.cell (ks : L.Sq L.Pt) : Nat → List SV := fun i => [.int .i64 (ks.g i).x, .int .i64 (ks.g i).y]
theorem pick_bd {a b : L.Pt} (ha : L.bd a) (hb : L.bd b) (i : Nat) : L.bd (L.pick a b i) := by
  unfold L.pick; cases decide (i = 0) <;> assumption
theorem put_has {ks : L.Sq L.Pt} {p : L.Pt} (h : ∃ i, i < ks.n ∧ (decide (p.x = (ks.g i).x) && decide (p.y = (ks.g i).y)) = true) : L.put ks p = ks := by
  have : L.has ks p = true := anyB_iff.2 h
  simp [L.put, this]
theorem put_new {ks : L.Sq L.Pt} {p : L.Pt} (h : ∀ i, i < ks.n → (decide (p.x = (ks.g i).x) && decide (p.y = (ks.g i).y)) = false) :
    ks.n + 1 = (L.put ks p).n ∧ ∀ i, i < ks.n + 1 → appGet ks.n (L.cell ks) (fun _ => [.int .i64 p.x, .int .i64 p.y]) i = L.cell (L.put ks p) i := by
  have hn : L.has ks p = false := by
    cases hb : L.has ks p with
    | false => rfl
    | true =>
      obtain ⟨i, hi, hq⟩ := anyB_iff.1 hb
      rw [show L.same p (ks.g i) = false from h i hi] at hq
      cases hq
  simp only [L.put, hn, cond_false, true_and]
  intro i hi
  unfold appGet L.cell
  by_cases hlt : i < ks.n <;> simp [hlt]
theorem putIf_step {ks : L.Sq L.Pt} {p : L.Pt} : (L.putIf false ks p = ks) ∧ L.putIf true ks p = L.put ks p := ⟨rfl, rfl⟩
def p_meet_p (a : L.Pt) (b : L.Pt) (c : L.Pt) (d : L.Pt) : Prop := L.bd a ∧ L.bd b ∧ L.bd c ∧ L.bd d
def p_meet_r (a : L.Pt) (b : L.Pt) (c : L.Pt) (d : L.Pt) : SV := .int .i64 (L.meet a b c d)
def p_meet_s : List EV → Option (Prop × SV)
  | [.p (.agg [.int .i64 a_x, .int .i64 a_y]), .p (.agg [.int .i64 b_x, .int .i64 b_y]), .p (.agg [.int .i64 c_x, .int .i64 c_y]), .p (.agg [.int .i64 d_x, .int .i64 d_y])] => some (p_meet_p (⟨a_x, a_y⟩ : L.Pt) (⟨b_x, b_y⟩ : L.Pt) (⟨c_x, c_y⟩ : L.Pt) (⟨d_x, d_y⟩ : L.Pt), p_meet_r (⟨a_x, a_y⟩ : L.Pt) (⟨b_x, b_y⟩ : L.Pt) (⟨c_x, c_y⟩ : L.Pt) (⟨d_x, d_y⟩ : L.Pt))
  | _ => none
abbrev p_meet_S : SE.Spec := (specO p_meet_s)
def p_meet_C : Cfg := { muts := [], frz := lookN [], specs := lookS [(188, p_on_S), (189, p_meet1_S)], loops := fun _ => none, iters := lookI [], rfs := lookR [], nils := lookM [] }
theorem p_meet_vc (a : L.Pt) (b : L.Pt) (c : L.Pt) (d : L.Pt) (hp : p_meet_p a b c d) : vc Tryz.prog ({ p_meet_C with loops := lookL [(3, { T := Nat, keep := [4, 5, 6, 7, 8, 9, 20], keepO := [], chg := fun i => [(21, .p (.int .i64 (i : Int))), (19, .p (.sl 2 2 (fun i => [.int .i64 ((L.pick a b i).x), .int .i64 ((L.pick a b i).y)])))], own := fun i => [(16, .mp 42 (L.k1 a b c d i).n (L.cell (L.k1 a b c d i)))], inv := fun i => i ≤ 2, mu := fun i => 2 - i }), (9, { T := Nat, keep := [4, 5, 6, 7, 8, 9, 35], keepO := [], chg := fun i => [(36, .p (.int .i64 (i : Int))), (34, .p (.sl 2 2 (fun i => [.int .i64 ((L.pick c d i).x), .int .i64 ((L.pick c d i).y)])))], own := fun i => [(16, .mp 42 (L.k2 a b c d i).n (L.cell (L.k2 a b c d i)))], inv := fun i => i ≤ 2, mu := fun i => 2 - i })], rfs := lookR [] }) (bodyOf Tryz.f152) (st0 Tryz.f152 [.p (.agg [.int .i64 a.x, .int .i64 a.y]), .p (.agg [.int .i64 b.x, .int .i64 b.y]), .p (.agg [.int .i64 c.x, .int .i64 c.y]), .p (.agg [.int .i64 d.x, .int .i64 d.y])]) (retFn Tryz.prog Tryz.f152 (p_meet_r a b c d)) :=
  @Eq.mpr _ ((∃ (g : Nat), (0 : Int) = (↑g : Int) ∧ (nat_lit 2 = (2 : Nat) ∧ ∀ (i : Nat), i < nat_lit 2 → rowsOf [SV.int .i64 a.x, SV.int .i64 a.y, SV.int .i64 b.x, SV.int .i64 b.y] (nat_lit 2) i = [SV.int .i64 (L.pick a b i).x, SV.int .i64 (L.pick a b i).y]) ∧ (nat_lit 0 = (L.k1 a b c d g).n ∧ ∀ (i : Nat), i
 < nat_lit 0 → [] = L.cell (L.k1 a b c d g) i) ∧ g ≤ (2 : Nat)) ∧ ∀ (g : Nat), g ≤ (2 : Nat) → (decide ((↑g : Int) < (↑(nat_lit 2) : Int)) = true → ((0 : Int) ≤ (↑g : Int) ∧ (↑g : Int) < (↑(nat_lit 2) : Int)) ∧ (L.bd c ∧ L.bd d ∧ L.bd (L.pick a b (Int.toNat (↑g : Int)))) ∧ (L.on c d (L.pick a b (Int.toNat (↑g : Int))) = true → (∀ (i : Nat), i < (L.k1 a b c d g).n →
 (decide ((L.pick a b (Int.toNat (↑g : Int))).x = ((L.k1 a b c d g).g i).x) && decide ((L.pick a b (Int.toNat (↑g : Int))).y = ((L.k1 a b c d g).g i).y)) = (decide ((L.pick a b (Int.toNat (↑g : Int))).x = ((L.k1 a b c d g).g i).x) && decide ((L.pick a b (Int.toNat (↑g : Int))).y = ((L.k1 a b c d g).g i).y))) ∧ ((∃ (i : Nat), i < (L.k1 a b c d g).n ∧
 (decide ((L.pick a b (Int.toNat (↑g : Int))).x = ((L.k1 a b c d g).g i).x) && decide ((L.pick a b (Int.toNat (↑g : Int))).y = ((L.k1 a b c d g).g i).y)) = true) → InK .i64 ((↑g : Int) + (1 : Int)) ∧ ∃ (g' : Nat), (↑g : Int) + (1 : Int) = (↑g' : Int) ∧ (nat_lit 2 = (2 : Nat) ∧ ∀ (i : Nat), i < nat_lit 2 → [SV.int .i64 (L.pick a b i).x,
 SV.int .i64 (L.pick a b i).y] = [SV.int .i64 (L.pick a b i).x, SV.int .i64 (L.pick a b i).y]) ∧ (↑(nat_lit 2) : Int) = (↑(nat_lit 2) : Int) ∧ (0 : Int) = (0 : Int) ∧ SV.ref [SV.int .i64 d.x, SV.int .i64 d.y] (nat_lit 0) = SV.ref [SV.int .i64 d.x, SV.int .i64 d.y] (nat_lit 0)
 ∧ SV.ref [SV.int .i64 c.x, SV.int .i64 c.y] (nat_lit 0) = SV.ref [SV.int .i64 c.x, SV.int .i64 c.y] (nat_lit 0) ∧ SV.ref [SV.int .i64 b.x, SV.int .i64 b.y] (nat_lit 0) = SV.ref [SV.int .i64 b.x, SV.int .i64 b.y] (nat_lit 0) ∧ SV.ref
 [SV.int .i64 a.x, SV.int .i64 a.y] (nat_lit 0) = SV.ref [SV.int .i64 a.x, SV.int .i64 a.y] (nat_lit 0) ∧ ((L.k1 a b c d g).n = (L.k1 a b c d g').n ∧ ∀ (i : Nat), i < (L.k1 a b c d g).n → L.cell (L.k1 a b c d g) i = L.cell (L.k1 a b c d g') i) ∧ g' ≤ (2 : Nat) ∧ (2 : Nat) - g' < (2 : Nat) - g) ∧ ((∀ (i : Nat), i < (L.k1 a b c d
 g).n → (decide ((L.pick a b (Int.toNat (↑g : Int))).x = ((L.k1 a b c d g).g i).x) && decide ((L.pick a b (Int.toNat (↑g : Int))).y = ((L.k1 a b c d g).g i).y)) = false) → InK .i64 ((↑g : Int) + (1 : Int)) ∧ ∃ (g' : Nat), (↑g : Int) + (1 : Int) = (↑g' : Int) ∧ (nat_lit 2 = (2 : Nat) ∧ ∀ (i : Nat), i < nat_lit 2 → [SV.int .i64 (L.pick a b
 i).x, SV.int .i64 (L.pick a b i).y] = [SV.int .i64 (L.pick a b i).x, SV.int .i64 (L.pick a b i).y]) ∧ (↑(nat_lit 2) : Int) = (↑(nat_lit 2) : Int) ∧ (0 : Int) = (0 : Int) ∧ SV.ref [SV.int .i64 d.x, SV.int .i64 d.y] (nat_lit 0) = SV.ref [SV.int .i64 d.x, SV.int .i64 d.y]
 (nat_lit 0) ∧ SV.ref [SV.int .i64 c.x, SV.int .i64 c.y] (nat_lit 0) = SV.ref [SV.int .i64 c.x, SV.int .i64 c.y] (nat_lit 0) ∧ SV.ref [SV.int .i64 b.x, SV.int .i64 b.y] (nat_lit 0) = SV.ref [SV.int .i64 b.x, SV.int .i64 b.y] (nat_lit 0) ∧
 SV.ref [SV.int .i64 a.x, SV.int .i64 a.y] (nat_lit 0) = SV.ref [SV.int .i64 a.x, SV.int .i64 a.y] (nat_lit 0) ∧ ((L.k1 a b c d g).n + (1 : Nat) = (L.k1 a b c d g').n ∧ ∀ (i : Nat), i < (L.k1 a b c d g).n + (1 : Nat) → appGet (L.k1 a b c d g).n (L.cell (L.k1 a b c d g)) (fun (x : Nat) ↦ [SV.int .i64
 (L.pick a b (Int.toNat (↑g : Int))).x, SV.int .i64 (L.pick a b (Int.toNat (↑g : Int))).y]) i = L.cell (L.k1 a b c d g') i) ∧ g' ≤ (2 : Nat) ∧ (2 : Nat) - g' < (2 : Nat) - g)) ∧ (L.on c d (L.pick a b (Int.toNat (↑g : Int))) = false → InK .i64 ((↑g : Int) + (1 : Int)) ∧ ∃ (g' : Nat), (↑g : Int) + (1 : Int) = (↑g' : Int) ∧ (nat_lit 2 = (2 : Nat) ∧ ∀ (i : Nat), i <
 nat_lit 2 → [SV.int .i64 (L.pick a b i).x, SV.int .i64 (L.pick a b i).y] = [SV.int .i64 (L.pick a b i).x, SV.int .i64 (L.pick a b i).y]) ∧ (↑(nat_lit 2) : Int) = (↑(nat_lit 2) : Int) ∧ (0 : Int) = (0 : Int) ∧ SV.ref [SV.int .i64 d.x, SV.int .i64 d.y] (nat_lit 0) = SV.ref [SV.int
 .i64 d.x, SV.int .i64 d.y] (nat_lit 0) ∧ SV.ref [SV.int .i64 c.x, SV.int .i64 c.y] (nat_lit 0) = SV.ref [SV.int .i64 c.x, SV.int .i64 c.y] (nat_lit 0) ∧ SV.ref [SV.int .i64 b.x, SV.int .i64 b.y] (nat_lit 0) = SV.ref [SV.int .i64 b.x,
 SV.int .i64 b.y] (nat_lit 0) ∧ SV.ref [SV.int .i64 a.x, SV.int .i64 a.y] (nat_lit 0) = SV.ref [SV.int .i64 a.x, SV.int .i64 a.y] (nat_lit 0) ∧ ((L.k1 a b c d g).n = (L.k1 a b c d g').n ∧ ∀ (i : Nat), i < (L.k1 a b c d g).n → L.cell (L.k1 a b c d g) i = L.cell (L.k1 a b c d g') i) ∧ g' ≤ (2 : Nat) ∧ (2 :
 Nat) - g' < (2 : Nat) - g)) ∧ (decide ((↑g : Int) < (↑(nat_lit 2) : Int)) = false → (∃ (g_1 : Nat), (0 : Int) = (↑g_1 : Int) ∧ (nat_lit 2 = (2 : Nat) ∧ ∀ (i : Nat), i < nat_lit 2 → rowsOf [SV.int .i64 c.x, SV.int .i64 c.y, SV.int .i64 d.x, SV.int .i64 d.y] (nat_lit 2) i = [SV.int .i64 (L.pick c d
 i).x, SV.int .i64 (L.pick c d i).y]) ∧ ((L.k1 a b c d g).n = (L.k2 a b c d g_1).n ∧ ∀ (i : Nat), i < (L.k1 a b c d g).n → L.cell (L.k1 a b c d g) i = L.cell (L.k2 a b c d g_1) i) ∧ g_1 ≤ (2 : Nat)) ∧ ∀ (g_1 : Nat), g_1 ≤ (2 : Nat) → (decide ((↑g_1 : Int) < (↑(nat_lit 2) : Int)) = true → ((0 : Int) ≤ (↑g_1 : Int) ∧ (↑g_1 : Int) < (↑(nat_lit 2) : Int)) ∧ (L.bd a ∧ L.bd
 b ∧ L.bd (L.pick c d (Int.toNat (↑g_1 : Int)))) ∧ (L.on a b (L.pick c d (Int.toNat (↑g_1 : Int))) = true → (∀ (i : Nat), i < (L.k2 a b c d g_1).n → (decide ((L.pick c d (Int.toNat (↑g_1 : Int))).x = ((L.k2 a b c d g_1).g i).x) && decide ((L.pick c d (Int.toNat (↑g_1 : Int))).y = ((L.k2 a b c d g_1).g i).y)) = (decide ((L.pick c d (Int.toNat (↑g_1 : Int))).x =
 ((L.k2 a b c d g_1).g i).x) && decide ((L.pick c d (Int.toNat (↑g_1 : Int))).y = ((L.k2 a b c d g_1).g i).y))) ∧ ((∃ (i : Nat), i < (L.k2 a b c d g_1).n ∧ (decide ((L.pick c d (Int.toNat (↑g_1 : Int))).x = ((L.k2 a b c d g_1).g i).x) && decide ((L.pick c d (Int.toNat (↑g_1 : Int))).y = ((L.k2 a b c d g_1).g i).y)) = true) → InK .i64 ((↑g_1 : Int)
 + (1 : Int)) ∧ ∃ (g' : Nat), (↑g_1 : Int) + (1 : Int) = (↑g' : Int) ∧ (nat_lit 2 = (2 : Nat) ∧ ∀ (i : Nat), i < nat_lit 2 → [SV.int .i64 (L.pick c d i).x, SV.int .i64 (L.pick c d i).y] = [SV.int .i64 (L.pick c d i).x, SV.int .i64 (L.pick c d i).y]) ∧ (↑(nat_lit 2) : Int) = (↑(nat_lit 2) : Int) ∧ (0 : Int) = (0 : Int) ∧ SV.ref
 [SV.int .i64 d.x, SV.int .i64 d.y] (nat_lit 0) = SV.ref [SV.int .i64 d.x, SV.int .i64 d.y] (nat_lit 0) ∧ SV.ref [SV.int .i64 c.x, SV.int .i64 c.y] (nat_lit 0) = SV.ref [SV.int .i64 c.x, SV.int .i64 c.y] (nat_lit 0) ∧ SV.ref [SV.int
 .i64 b.x, SV.int .i64 b.y] (nat_lit 0) = SV.ref [SV.int .i64 b.x, SV.int .i64 b.y] (nat_lit 0) ∧ SV.ref [SV.int .i64 a.x, SV.int .i64 a.y] (nat_lit 0) = SV.ref [SV.int .i64 a.x, SV.int .i64 a.y] (nat_lit 0) ∧ ((L.k2 a b c d g_1).n = (L.k2 a b c d g').n ∧ ∀ (i
 : Nat), i < (L.k2 a b c d g_1).n → L.cell (L.k2 a b c d g_1) i = L.cell (L.k2 a b c d g') i) ∧ g' ≤ (2 : Nat) ∧ (2 : Nat) - g' < (2 : Nat) - g_1) ∧ ((∀ (i : Nat), i < (L.k2 a b c d g_1).n → (decide ((L.pick c d (Int.toNat (↑g_1 : Int))).x = ((L.k2 a b c d g_1).g i).x) && decide ((L.pick c d (Int.toNat (↑g_1 : Int))).y = ((L.k2 a b c d g_1).g i).y)) = false) → InK
 .i64 ((↑g_1 : Int) + (1 : Int)) ∧ ∃ (g' : Nat), (↑g_1 : Int) + (1 : Int) = (↑g' : Int) ∧ (nat_lit 2 = (2 : Nat) ∧ ∀ (i : Nat), i < nat_lit 2 → [SV.int .i64 (L.pick c d i).x, SV.int .i64 (L.pick c d i).y] = [SV.int .i64 (L.pick c d i).x, SV.int .i64 (L.pick c d i).y]) ∧ (↑(nat_lit 2) : Int) = (↑(nat_lit 2) : Int) ∧ (0 : Int)
 = (0 : Int) ∧ SV.ref [SV.int .i64 d.x, SV.int .i64 d.y] (nat_lit 0) = SV.ref [SV.int .i64 d.x, SV.int .i64 d.y] (nat_lit 0) ∧ SV.ref [SV.int .i64 c.x, SV.int .i64 c.y] (nat_lit 0) = SV.ref [SV.int .i64 c.x, SV.int .i64 c.y] (nat_lit 0) ∧
 SV.ref [SV.int .i64 b.x, SV.int .i64 b.y] (nat_lit 0) = SV.ref [SV.int .i64 b.x, SV.int .i64 b.y] (nat_lit 0) ∧ SV.ref [SV.int .i64 a.x, SV.int .i64 a.y] (nat_lit 0) = SV.ref [SV.int .i64 a.x, SV.int .i64 a.y] (nat_lit 0) ∧ ((L.k2 a b c d g_1).n +
 (1 : Nat) = (L.k2 a b c d g').n ∧ ∀ (i : Nat), i < (L.k2 a b c d g_1).n + (1 : Nat) → appGet (L.k2 a b c d g_1).n (L.cell (L.k2 a b c d g_1)) (fun (x : Nat) ↦ [SV.int .i64 (L.pick c d (Int.toNat (↑g_1 : Int))).x, SV.int .i64 (L.pick c d (Int.toNat (↑g_1 : Int))).y]) i = L.cell (L.k2 a b c d g') i) ∧ g' ≤ (2 : Nat) ∧ (2 : Nat) - g' < (2 : Nat) - g_1)) ∧ (L.on a
 b (L.pick c d (Int.toNat (↑g_1 : Int))) = false → InK .i64 ((↑g_1 : Int) + (1 : Int)) ∧ ∃ (g' : Nat), (↑g_1 : Int) + (1 : Int) = (↑g' : Int) ∧ (nat_lit 2 = (2 : Nat) ∧ ∀ (i : Nat), i < nat_lit 2 → [SV.int .i64 (L.pick c d i).x, SV.int .i64 (L.pick c d i).y] = [SV.int .i64 (L.pick c d i).x, SV.int .i64 (L.pick c d
 i).y]) ∧ (↑(nat_lit 2) : Int) = (↑(nat_lit 2) : Int) ∧ (0 : Int) = (0 : Int) ∧ SV.ref [SV.int .i64 d.x, SV.int .i64 d.y] (nat_lit 0) = SV.ref [SV.int .i64 d.x, SV.int .i64 d.y] (nat_lit 0) ∧ SV.ref [SV.int .i64 c.x, SV.int .i64 c.y] (nat_lit 0) = SV.ref [SV.int
 .i64 c.x, SV.int .i64 c.y] (nat_lit 0) ∧ SV.ref [SV.int .i64 b.x, SV.int .i64 b.y] (nat_lit 0) = SV.ref [SV.int .i64 b.x, SV.int .i64 b.y] (nat_lit 0) ∧ SV.ref [SV.int .i64 a.x, SV.int .i64 a.y] (nat_lit 0) = SV.ref [SV.int .i64 a.x,
 SV.int .i64 a.y] (nat_lit 0) ∧ ((L.k2 a b c d g_1).n = (L.k2 a b c d g').n ∧ ∀ (i : Nat), i < (L.k2 a b c d g_1).n → L.cell (L.k2 a b c d g_1) i = L.cell (L.k2 a b c d g') i) ∧ g' ≤ (2 : Nat) ∧ (2 : Nat) - g' < (2 : Nat) - g_1)) ∧ (decide ((↑g_1 : Int) < (↑(nat_lit 2) : Int)) = false → (decide ((1 : Int) < (↑(L.k2 a b c d g_1).n : Int)) = true → (3 :
 Int) = L.meet a b c d) ∧ (decide ((1 : Int) < (↑(L.k2 a b c d g_1).n : Int)) = false → (decide ((↑(L.k2 a b c d g_1).n : Int) = (1 : Int)) = true → (1 : Int) = L.meet a b c d) ∧ (decide ((↑(L.k2 a b c d g_1).n : Int) = (1 : Int)) = false → (L.bd a ∧ L.bd b ∧ L.bd c ∧ L.bd d) ∧ (L.apart a b c d = true → L.bd c ∧ L.bd d ∧ L.bd a ∧ L.bd b) ∧ ((bif
 L.apart a b c d then L.apart c d a b else false) = true → (2 : Int) = L.meet a b c d) ∧ ((bif L.apart a b c d then L.apart c d a b else false) = false → (0 : Int) = L.meet a b c d)))))) (by kernel_rfl) (by
    obtain ⟨ha, hb, hc, hd⟩ := hp
    refine ⟨⟨(0 : Nat), rfl, ⟨rfl, fun i hi => by match i, hi with | 0, _ => rfl | 1, _ => rfl⟩, ⟨rfl, fun i hi => absurd hi (Nat.not_lt_zero _)⟩, by decide⟩, fun g hg => ⟨fun hlt => ?_, fun hge => ?_⟩⟩
    · have hb1 : (g : Int) < 2 := by simpa using hlt
      have e0 : ((g : Int)).toNat = g := by omega
      rw [e0]
      refine ⟨⟨by omega, hb1⟩, ⟨hc, hd, pick_bd ha hb g⟩, fun hon => ⟨fun _ _ => rfl, fun hex => ⟨InK.of (by omega) (by omega), g + 1, by omega, ⟨rfl, fun _ _ => rfl⟩, rfl, rfl, rfl, rfl, rfl, rfl, ?_, by omega, by omega⟩, fun hnx => ⟨InK.of (by omega) (by omega), g + 1, by omega, ⟨rfl, fun _ _ => rfl⟩, rfl, rfl, rfl, rfl, rfl, rfl, ?_, by omega, by omega⟩⟩, fun hon => ⟨InK.of (by omega) (by omega), g + 1, by omega, ⟨rfl, fun _ _ => rfl⟩, rfl, rfl, rfl, rfl, rfl, rfl, ?_, by omega, by omega⟩⟩
      · rw [show L.k1 a b c d (g + 1) = L.k1 a b c d g by rw [L.k1, hon, putIf_step.2, put_has hex]]; exact ⟨rfl, fun _ _ => rfl⟩
      · rw [L.k1, hon, putIf_step.2]; exact put_new hnx
      · rw [show L.k1 a b c d (g + 1) = L.k1 a b c d g by rw [L.k1, hon, putIf_step.1]]; exact ⟨rfl, fun _ _ => rfl⟩
    · have hb1 : ¬ (g : Int) < 2 := by simpa using hge
      obtain rfl : g = 2 := by omega
      refine ⟨⟨(0 : Nat), rfl, ⟨rfl, fun i hi => by match i, hi with | 0, _ => rfl | 1, _ => rfl⟩, ⟨rfl, fun i hi => rfl⟩, by decide⟩, fun g hg => ⟨fun hlt => ?_, fun hge => ?_⟩⟩
      · have hb1 : (g : Int) < 2 := by simpa using hlt
        have e0 : ((g : Int)).toNat = g := by omega
        rw [e0]
        refine ⟨⟨by omega, hb1⟩, ⟨ha, hb, pick_bd hc hd g⟩, fun hon => ⟨fun _ _ => rfl, fun hex => ⟨InK.of (by omega) (by omega), g + 1, by omega, ⟨rfl, fun _ _ => rfl⟩, rfl, rfl, rfl, rfl, rfl, rfl, ?_, by omega, by omega⟩, fun hnx => ⟨InK.of (by omega) (by omega), g + 1, by omega, ⟨rfl, fun _ _ => rfl⟩, rfl, rfl, rfl, rfl, rfl, rfl, ?_, by omega, by omega⟩⟩, fun hon => ⟨InK.of (by omega) (by omega), g + 1, by omega, ⟨rfl, fun _ _ => rfl⟩, rfl, rfl, rfl, rfl, rfl, rfl, ?_, by omega, by omega⟩⟩
        · rw [show L.k2 a b c d (g + 1) = L.k2 a b c d g by rw [L.k2, hon, putIf_step.2, put_has hex]]; exact ⟨rfl, fun _ _ => rfl⟩
        · rw [L.k2, hon, putIf_step.2]; exact put_new hnx
        · rw [show L.k2 a b c d (g + 1) = L.k2 a b c d g by rw [L.k2, hon, putIf_step.1]]; exact ⟨rfl, fun _ _ => rfl⟩
      · have hb1 : ¬ (g : Int) < 2 := by simpa using hge
        obtain rfl : g = 2 := by omega
        unfold L.meet
        refine ⟨fun h => by rw [h]; rfl, fun h => ⟨fun h' => by rw [h, h']; rfl, fun h' => ⟨⟨ha, hb, hc, hd⟩, fun _ => ⟨hc, hd, ha, hb⟩, fun q => by rw [h, h', q]; rfl, fun q => by rw [h, h', q]; rfl⟩⟩⟩)
theorem p_meet_ok : SpecOk Tryz.prog 152 p_meet_S := fnX Tryz.func152 (c := bodyOf Tryz.f152) (by kernel_rfl) mixed (fun args p r hs hp => by
  unfold p_meet_s at hs
  split at hs
  · cases hs; exact ⟨_, _, p_meet_vc _ _ _ _ hp, (.same _ (.same _ (.same _ (.same _ .nil)))), ⟨show SpecsL Tryz.prog _ from (SpecsL.cons p_on_ok p_on_en (SpecsL.cons p_meet1_ok p_meet1_en SpecsL.nil)), rfl, ⟨show ItersL Tryz.prog _ from ItersL.nil, (TrsOk.none (fun _ => rfl))⟩⟩⟩
  · cases hs)
theorem p_meet_en : Enters Tryz.prog 152 := fun args w => by kernel_rfl
end Go.Proofs.YtooapgllahonaaaGreat

namespace Go.Proofs.YtooapgllahonaaaGreat
open Go.SE Go.RowKit
set_option maxRecDepth 100000
set_option maxHeartbeats 4000000
set_option linter.unusedVariables false
attribute [local irreducible] vc

def L.nxt (l : L.Sq L.Pt) (i k : Nat) : Bool := bif decide ((k : Int) = (i : Int) + 1) then true else bif decide ((i : Int) = 0) then decide ((k : Int) = (l.n : Int) - 1) else false
def L.how (l : L.Sq L.Pt) (i k : Nat) : Int := L.meet (l.g i) (l.g (i + 1)) (l.g k) (l.g (L.next l.n k))
def L.okPair (l : L.Sq L.Pt) (i k : Nat) : Bool := bif L.nxt l i k then decide (L.how l i k = 1) else decide (L.how l i k = 0)
def L.simple (l : L.Sq L.Pt) : Bool := L.allB l.n (fun i => L.allB l.n (fun k => !decide (i < k) || L.okPair l i k))
def L.allBd (l : L.Sq L.Pt) : Prop := l.n ≤ 1000 ∧ ∀ i, i < l.n → L.bd (l.g i)
def p_simple_p (l : (L.Sq L.Pt)) : Prop := L.allBd l
def p_simple_r (l : (L.Sq L.Pt)) : SV := .bool (L.simple l)
def p_simple_s : List EV → Option (Prop × SV)
  | [.p (.sl 2 l_n l_g)] => some ((∀ i, i < l_n → l_g i = [.int .i64 ((ofPt (l_g i)).x), .int .i64 ((ofPt (l_g i)).y)]) ∧ p_simple_p (⟨l_n, fun i => ofPt (l_g i)⟩ : (L.Sq L.Pt)), p_simple_r (⟨l_n, fun i => ofPt (l_g i)⟩ : (L.Sq L.Pt)))
  | _ => none
abbrev p_simple_S : SE.Spec := (specO p_simple_s)
def p_simple_C : Cfg := { muts := [], frz := lookN [], specs := lookS [(152, p_meet_S)], loops := fun _ => none, iters := lookI [], rfs := lookR [], nils := lookM [] }
theorem p_simple_vc (l : (L.Sq L.Pt)) (hp : p_simple_p l) : vc Tryz.prog ({ p_simple_C with loops := lookL [(3, { T := Nat, keep := [0, 3, 11], keepO := [], chg := fun i => [(12, .p (.int .i64 (i : Int)))], own := fun _ => [], inv := fun i => i ≤ l.n ∧ ∀ j, j < i → ∀ k, j < k → k < l.n → L.okPair l j k = true, mu := fun i => l.n - i }), (6, { T := Nat × Nat, keep := [0, 3, 4, 11, 12], keepO := [], tie := fun i => [(4, .int .i64 (i.1 : Int)), (12, .int .i64 (i.1 : Int))], chg := fun i => [(5, .p (.int .i64 (i.2 : Int)))], own := fun _ => [], inv := fun i => i.1 < i.2 ∧ i.2 ≤ l.n ∧ (∀ j, j < i.1 → ∀ k, j < k → k < l.n → L.okPair l j k = true) ∧ ∀ k, i.1 < k → k < i.2 → L.okPair l i.1 k = true, mu := fun i => l.n - i.2 })], rfs := lookR [] }) (bodyOf Tryz.f84) (st0 Tryz.f84 [.p (.sl 2 l.n (fun i => [.int .i64 ((l.g i).x), .int .i64 ((l.g i).y)]))]) (retFn Tryz.prog Tryz.f84 (p_simple_r l)) :=
  @Eq.mpr _ ((∃ (g : Nat), (0 : Int) = (↑g : Int) ∧ g ≤ l.n ∧ ∀ (j : Nat), j < g → ∀ (k : Nat), j < k → k < l.n → L.okPair l j k = true) ∧ ∀ (g : Nat), (g ≤ l.n ∧ ∀ (j : Nat), j < g → ∀ (k : Nat), j < k → k < l.n → L.okPair l j k = true) → (decide ((↑g : Int) < (↑l.n : Int)) = true → InK .i64 ((↑g : Int) + (1 : Int)) ∧ (∃ (g_1 : Nat × Nat), (↑g : Int) + (1 : Int) =
 (↑g_1.2 : Int) ∧ (↑g : Int) = (↑g_1.1 : Int) ∧ (↑g : Int) = (↑g_1.1 : Int) ∧ g_1.1 < g_1.2 ∧ g_1.2 ≤ l.n ∧ (∀ (j : Nat), j < g_1.1 → ∀ (k : Nat), j < k → k < l.n → L.okPair l j k = true) ∧ ∀ (k : Nat), g_1.1 < k → k < g_1.2 → L.okPair l g_1.1 k = true) ∧ ∀ (g_1 : Nat × Nat), ((↑g : Int) = (↑g_1.1 : Int) ∧ (↑g : Int) = (↑g_1.1 : Int) ∧ g_1.1 < g_1.2 ∧ g_1.2 ≤ l.n ∧ (∀ (j : Nat), j < g_1.1
 → ∀ (k : Nat), j < k → k < l.n → L.okPair l j k = true) ∧ ∀ (k : Nat), g_1.1 < k → k < g_1.2 → L.okPair l g_1.1 k = true) → (decide ((↑g_1.2 : Int) < (↑l.n : Int)) = true → ((0 : Int) ≤ (↑g : Int) ∧ (↑g : Int) < (↑l.n : Int)) ∧ InK .i64 ((↑g : Int) + (1 : Int)) ∧ ((0 : Int) ≤ (↑g : Int) + (1 : Int) ∧ (↑g : Int) + (1 : Int) < (↑l.n : Int)) ∧ ((0 : Int) ≤
 (↑g_1.2 : Int) ∧ (↑g_1.2 : Int) < (↑l.n : Int)) ∧ InK .i64 ((↑g_1.2 : Int) + (1 : Int)) ∧ (↑l.n : Int) ≠ (0 : Int) ∧ ((0 : Int) ≤ Int.tmod ((↑g_1.2 : Int) + (1 : Int)) (↑l.n : Int) ∧ Int.tmod ((↑g_1.2 : Int) + (1 : Int)) (↑l.n : Int) < (↑l.n : Int)) ∧ (L.bd (l.g (Int.toNat (↑g : Int))) ∧ L.bd (l.g (Int.toNat ((↑g : Int) + (1 : Int)))) ∧ L.bd (l.g (Int.toNat (↑g_1.2 : Int))) ∧ L.bd
 (l.g (Int.toNat (Int.tmod ((↑g_1.2 : Int) + (1 : Int)) (↑l.n : Int))))) ∧ InK .i64 ((↑g : Int) + (1 : Int)) ∧ ((!decide ((↑g_1.2 : Int) = (↑g : Int) + (1 : Int)) && decide ((↑g : Int) = (0 : Int))) = true → InK .i64 ((↑l.n : Int) - (1 : Int))) ∧ ((bif bif bif decide ((↑g_1.2 : Int) = (↑g : Int) + (1 : Int)) then true else bif
 decide ((↑g : Int) = (0 : Int)) then decide ((↑g_1.2 : Int) = (↑l.n : Int) - (1 : Int)) else false then !decide (L.meet (l.g (Int.toNat (↑g : Int))) (l.g (Int.toNat ((↑g : Int) + (1 : Int)))) (l.g (Int.toNat (↑g_1.2 : Int))) (l.g (Int.toNat (Int.tmod ((↑g_1.2 : Int) + (1 : Int)) (↑l.n : Int)))) = (1 : Int)) else false then true else bif !bif
 decide ((↑g_1.2 : Int) = (↑g : Int) + (1 : Int)) then true else bif decide ((↑g : Int) = (0 : Int)) then decide ((↑g_1.2 : Int) = (↑l.n : Int) - (1 : Int)) else false then !decide (L.meet (l.g (Int.toNat (↑g : Int))) (l.g (Int.toNat ((↑g : Int) + (1 : Int)))) (l.g (Int.toNat (↑g_1.2 : Int))) (l.g (Int.toNat (Int.tmod ((↑g_1.2 : Int) + (1 : Int))
 (↑l.n : Int)))) = (0 : Int)) else false) = true → false = L.simple l) ∧ ((bif bif bif decide ((↑g_1.2 : Int) = (↑g : Int) + (1 : Int)) then true else bif decide ((↑g : Int) = (0 : Int)) then decide ((↑g_1.2 : Int) = (↑l.n : Int) - (1 : Int)) else false then !decide (L.meet (l.g (Int.toNat (↑g : Int))) (l.g (Int.toNat ((↑g : Int) + (1
 : Int)))) (l.g (Int.toNat (↑g_1.2 : Int))) (l.g (Int.toNat (Int.tmod ((↑g_1.2 : Int) + (1 : Int)) (↑l.n : Int)))) = (1 : Int)) else false then true else bif !bif decide ((↑g_1.2 : Int) = (↑g : Int) + (1 : Int)) then true else bif decide ((↑g : Int) = (0 : Int)) then decide ((↑g_1.2 : Int) = (↑l.n : Int) - (1 : Int)) else false then
 !decide (L.meet (l.g (Int.toNat (↑g : Int))) (l.g (Int.toNat ((↑g : Int) + (1 : Int)))) (l.g (Int.toNat (↑g_1.2 : Int))) (l.g (Int.toNat (Int.tmod ((↑g_1.2 : Int) + (1 : Int)) (↑l.n : Int)))) = (0 : Int)) else false) = false → InK .i64 ((↑g_1.2 : Int) + (1 : Int)) ∧ ∃ (g' : Nat × Nat), (↑g_1.2 : Int) + (1 : Int) = (↑g'.2 : Int) ∧ (↑g : Int) = (↑g : Int) ∧ (↑g :
 Int) = (↑g : Int) ∧ (↑l.n : Int) = (↑l.n : Int) ∧ (↑l.n : Int) = (↑l.n : Int) ∧ (l.n = l.n ∧ ∀ (i : Nat), i < l.n → [SV.int .i64 (l.g i).x, SV.int .i64 (l.g i).y] = [SV.int .i64 (l.g i).x, SV.int .i64 (l.g i).y]) ∧ ((↑g : Int) = (↑g'.1 : Int) ∧ (↑g : Int) = (↑g'.1 : Int) ∧ g'.1 < g'.2 ∧ g'.2 ≤ l.n ∧ (∀ (j : Nat), j < g'.1 → ∀ (k :
 Nat), j < k → k < l.n → L.okPair l j k = true) ∧ ∀ (k : Nat), g'.1 < k → k < g'.2 → L.okPair l g'.1 k = true) ∧ l.n - g'.2 < l.n - g_1.2)) ∧ (decide ((↑g_1.2 : Int) < (↑l.n : Int)) = false → InK .i64 ((↑g : Int) + (1 : Int)) ∧ ∃ (g' : Nat), (↑g : Int) + (1 : Int) = (↑g' : Int) ∧ (↑l.n : Int) = (↑l.n : Int) ∧ (↑l.n : Int) = (↑l.n : Int) ∧ (l.n = l.n ∧ ∀ (i :
 Nat), i < l.n → [SV.int .i64 (l.g i).x, SV.int .i64 (l.g i).y] = [SV.int .i64 (l.g i).x, SV.int .i64 (l.g i).y]) ∧ (g' ≤ l.n ∧ ∀ (j : Nat), j < g' → ∀ (k : Nat), j < k → k < l.n → L.okPair l j k = true) ∧ l.n - g' < l.n - g)) ∧ (decide ((↑g : Int) < (↑l.n : Int)) = false → true = L.simple l)) (by kernel_rfl) (by
    obtain ⟨hn, hb⟩ := hp
    have fin0 : ∀ {i k : Nat}, i < k → k < l.n → L.okPair l i k = false → false = L.simple l := fun {i k} hik hk h => by
      unfold L.simple
      rw [allB_false (i := i) (by omega) (allB_false (i := k) hk (by simp [hik, h]))]
    refine ⟨⟨(0 : Nat), rfl, Nat.zero_le _, fun j hj => absurd hj (Nat.not_lt_zero _)⟩, fun g hg => ⟨fun hlt => ?_, fun hge => ?_⟩⟩
    · have hb1 : (g : Int) < (l.n : Int) := by simpa using hlt
      refine ⟨InK.of (by omega) (by omega), ⟨(g, g + 1), by simp, rfl, rfl, by simp, by simp; omega, hg.2, fun k h1 h2 => by simp at h1 h2; omega⟩, ?_⟩
      rintro ⟨i, k⟩ ⟨e1, e2, hik, hkn, h0, h1⟩
      simp only at e1 e2 hik hkn h0 h1
      obtain rfl : i = g := by omega
      refine ⟨fun hlt2 => ?_, fun hge2 => ?_⟩
      · have hk : (k : Int) < (l.n : Int) := by simpa using hlt2
        have t3 := Int.tmod_nonneg (l.n : Int) (show 0 ≤ (k : Int) + 1 by omega)
        have t4 := Int.tmod_lt_of_pos ((k : Int) + 1) (show 0 < (l.n : Int) by omega)
        have c1 : ((i : Int)).toNat = i := by omega
        have c2 : ((i : Int) + 1).toNat = i + 1 := by omega
        have c3 : ((k : Int)).toNat = k := by omega
        have c4 : (Int.tmod ((k : Int) + 1) (l.n : Int)).toNat = L.next l.n k := rfl
        have c5 : L.next l.n k < l.n := next_lt (by omega)
        dsimp only
        rw [c1, c2, c3, c4]
        have key : (bif (bif (bif decide ((k : Int) = (i : Int) + 1) then true else bif decide ((i : Int) = 0) then decide ((k : Int) = (l.n : Int) - 1) else false) then !decide (L.meet (l.g i) (l.g (i + 1)) (l.g k) (l.g (L.next l.n k)) = 1) else false) then true else bif !(bif decide ((k : Int) = (i : Int) + 1) then true else bif decide ((i : Int) = 0) then decide ((k : Int) = (l.n : Int) - 1) else false) then !decide (L.meet (l.g i) (l.g (i + 1)) (l.g k) (l.g (L.next l.n k)) = 0) else false) = !L.okPair l i k := by
          unfold L.okPair L.nxt L.how
          generalize (bif decide ((k : Int) = (i : Int) + 1) then true else bif decide ((i : Int) = 0) then decide ((k : Int) = (l.n : Int) - 1) else false) = q
          generalize decide (L.meet (l.g i) (l.g (i + 1)) (l.g k) (l.g (L.next l.n k)) = 1) = q1
          generalize decide (L.meet (l.g i) (l.g (i + 1)) (l.g k) (l.g (L.next l.n k)) = 0) = q2
          cases q <;> cases q1 <;> cases q2 <;> rfl
        rw [key]
        refine ⟨by omega, InK.of (by omega) (by omega), by omega, by omega, InK.of (by omega) (by omega), by omega, ⟨t3, t4⟩, ⟨hb i (by omega), hb (i + 1) (by omega), hb k (by omega), hb _ c5⟩, InK.of (by omega) (by omega), fun _ => InK.of (by omega) (by omega), fun h => fin0 hik (by omega) (by simpa using h), fun h => ?_⟩
        have hok : L.okPair l i k = true := by simpa using h
        refine ⟨InK.of (by omega) (by omega), (i, k + 1), by simp, rfl, rfl, rfl, rfl, ⟨rfl, fun _ _ => rfl⟩, ⟨rfl, rfl, by simp; omega, by simp; omega, h0, fun m hm1 hm2 => ?_⟩, by simp; omega⟩
        dsimp only at hm1 hm2 ⊢
        rcases Nat.lt_succ_iff_lt_or_eq.1 hm2 with h' | rfl
        · exact h1 m hm1 h'
        · exact hok
      · have hk : ¬ (k : Int) < (l.n : Int) := by simpa using hge2
        refine ⟨InK.of (by omega) (by omega), i + 1, by omega, rfl, rfl, ⟨rfl, fun _ _ => rfl⟩, ⟨by omega, fun j hj m hm1 hm2 => ?_⟩, by omega⟩
        rcases Nat.lt_succ_iff_lt_or_eq.1 hj with h' | rfl
        · exact h0 j h' m hm1 hm2
        · exact h1 m hm1 (by omega)
    · have hb1 : ¬ (g : Int) < (l.n : Int) := by simpa using hge
      unfold L.simple
      rw [allB_iff.2 (fun i hi => allB_iff.2 (fun k hk => ?_))]
      by_cases hik : i < k
      · simp [hik, hg.2 i (by omega) k hik hk]
      · simp [hik])
theorem p_simple_ok : SpecOk Tryz.prog 84 p_simple_S := fnX Tryz.func84 (c := bodyOf Tryz.f84) (by kernel_rfl) mixed (fun args p r hs hp => by
  unfold p_simple_s at hs
  split at hs
  · cases hs; exact ⟨_, _, p_simple_vc _ hp.2, (.p (.sl hp.1) .nil), ⟨show SpecsL Tryz.prog _ from (SpecsL.cons p_meet_ok p_meet_en SpecsL.nil), rfl, ⟨show ItersL Tryz.prog _ from ItersL.nil, (TrsOk.none (fun _ => rfl))⟩⟩⟩
  · cases hs)
theorem p_simple_en : Enters Tryz.prog 84 := fun args w => by kernel_rfl
end Go.Proofs.YtooapgllahonaaaGreat

namespace Go.Proofs.YtooapgllahonaaaGreat
open Go.SE Go.RowKit
set_option maxRecDepth 100000
set_option maxHeartbeats 4000000
set_option linter.unusedVariables false
attribute [local irreducible] vc

def L.corner (l : L.Sq L.Pt) (k : Nat) : Bool := !(bif decide (L.cross (l.g (L.prev l.n k)) (l.g k) (l.g (L.next l.n k)) = 0) then true else bif decide (0 < (k : Int)) then decide (0 ≤ L.cmpPt (l.g 0) (l.g k)) else false)
def L.validPts (l : L.Sq L.Pt) : Bool := L.allB l.n (fun i => L.validPt (l.g i))
def L.valid3 (l : L.Sq L.Pt) : Bool := bif (bif !L.within (l.n : Int) 3 24 then true else !L.validPts l) then false else decide (0 < L.areaTo l l.n)
def L.validOutline (l : L.Sq L.Pt) : Bool := L.valid3 l && (L.allB l.n (L.corner l) && L.simple l)
def L.bend (l : L.Sq L.Pt) (k : Nat) : Int := L.cmp (L.cross (l.g (L.prev l.n k)) (l.g k) (l.g (L.next l.n k))) 0
theorem prev_lt {n k : Nat} (h : 0 < n) : L.prev n k < n := by
  have t3 := Int.tmod_nonneg (n : Int) (show 0 ≤ (k : Int) + (n : Int) - 1 by omega)
  have t4 := Int.tmod_lt_of_pos ((k : Int) + (n : Int) - 1) (show 0 < (n : Int) by omega)
  unfold L.prev; omega
theorem within_iff {n a b : Int} : L.within n a b = true ↔ a ≤ n ∧ n ≤ b := by simp [L.within]
theorem valid3_spec {l : L.Sq L.Pt} (h : L.within (l.n : Int) 3 24 = true) (h' : L.validPts l = true) : 3 ≤ l.n ∧ l.n ≤ 24 ∧ L.small l ∧ L.allBd l := by
  obtain ⟨h1, h2⟩ := within_iff.1 h
  have hb : ∀ i, i < l.n → L.bd (l.g i) := fun i hi => validPt_bd (allB_iff.1 h' i hi)
  exact ⟨by omega, by omega, ⟨by omega, hb⟩, ⟨by omega, hb⟩⟩
theorem valid3_eq (l : L.Sq L.Pt) : (bif (bif !L.within (l.n : Int) 3 24 then true else !(L.allB l.n fun i => L.validPt (l.g i))) then true else decide (L.areaTo l l.n ≤ 0)) = !L.valid3 l := by
  unfold L.valid3 L.validPts
  have : decide (0 < L.areaTo l l.n) = !decide (L.areaTo l l.n ≤ 0) := by
    by_cases h : L.areaTo l l.n ≤ 0 <;> simp [h] <;> omega
  rw [this]
  generalize decide (L.areaTo l l.n ≤ 0) = q
  cases L.within (l.n : Int) 3 24 <;> cases (L.allB l.n fun i => L.validPt (l.g i)) <;> cases q <;> rfl
theorem valid3_of {l : L.Sq L.Pt} (h : L.valid3 l = true) : 3 ≤ l.n ∧ l.n ≤ 24 ∧ L.small l ∧ L.allBd l := by
  unfold L.valid3 at h
  cases h1 : L.within (l.n : Int) 3 24 with
  | false => simp [h1] at h
  | true => cases h2 : L.validPts l with
    | false => simp [h1, h2] at h
    | true => exact valid3_spec h1 h2
theorem validOutline_of {l : L.Sq L.Pt} (h : L.validOutline l = true) : 3 ≤ l.n ∧ l.n ≤ 24 ∧ L.small l ∧ L.allBd l := valid3_of (Bool.and_eq_true_iff.1 h).1
theorem not_any_not {n : Nat} {f : Nat → Bool} : (!L.anyB n (fun i => !f i)) = L.allB n f := by
  rw [not_anyB]
  exact congrArg (L.allB n) (funext fun i => Bool.not_not (f i))
theorem notT {b : Bool} (h : (!b) = true) : b = false := by cases b with | false => rfl | true => cases h
theorem notF {b : Bool} (h : (!b) = false) : b = true := by cases b with | true => rfl | false => cases h
theorem anyB_no {n : Nat} {f : Nat → Bool} (h : ∀ i, i < n → f i = false) : L.anyB n f = false := by
  cases h' : L.anyB n f with
  | false => rfl
  | true =>
    obtain ⟨i, hi, h1⟩ := anyB_iff.1 h'
    rw [h i hi] at h1; cases h1
theorem anyB_congr {n : Nat} {f g : Nat → Bool} (h : ∀ i, i < n → f i = g i) : L.anyB n f = L.anyB n g := by
  rw [Bool.eq_iff_iff, anyB_iff, anyB_iff]
  exact ⟨fun ⟨i, hi, e⟩ => ⟨i, hi, by rw [← h i hi]; exact e⟩, fun ⟨i, hi, e⟩ => ⟨i, hi, by rw [h i hi]; exact e⟩⟩
def p_ValidOutline_p (l : (L.Sq L.Pt)) : Prop := l.n ≤ 1000000
def p_ValidOutline_r (l : (L.Sq L.Pt)) : SV := .bool (L.validOutline l)
def p_ValidOutline_s : List EV → Option (Prop × SV)
  | [.p (.sl 2 l_n l_g)] => some ((∀ i, i < l_n → l_g i = [.int .i64 ((ofPt (l_g i)).x), .int .i64 ((ofPt (l_g i)).y)]) ∧ p_ValidOutline_p (⟨l_n, fun i => ofPt (l_g i)⟩ : (L.Sq L.Pt)), p_ValidOutline_r (⟨l_n, fun i => ofPt (l_g i)⟩ : (L.Sq L.Pt)))
  | _ => none
abbrev p_ValidOutline_S : SE.Spec := (specO p_ValidOutline_s)
def p_ValidOutline_C : Cfg := { muts := [], frz := lookN [], specs := lookS [(77, p_within_S), (70, p_valid_S), (89, p_area_S), (90, p_triples_S), (83, p_cross_S), (91, p_compare_S), (84, p_simple_S)], loops := lookL [], iters := lookI [(155, p_triples1_it)], rfs := lookR [], nils := lookM [] }
theorem p_ValidOutline_vc (l : (L.Sq L.Pt)) (hp : p_ValidOutline_p l) : vc Tryz.prog ({ p_ValidOutline_C with loops := lookL [], rfs := lookR [(4, { T := Nat, keep := [1, 2], keepO := [2], own := fun k _ => [], inv := fun k _ => ∀ j, j < k → L.corner l j = true })] }) (bodyOf Tryz.f32) (st0 Tryz.f32 [.p (.sl 2 l.n (fun i => [.int .i64 ((l.g i).x), .int .i64 ((l.g i).y)]))]) (retFn Tryz.prog Tryz.f32 (p_ValidOutline_r l)) :=
  @Eq.mpr _ (True ∧ ((!!L.within (↑l.n : Int) (3 : Int) (24 : Int)) = true → (∀ (i : Nat), i < l.n → [SV.int .i64 (l.g i).x, SV.int .i64 (l.g i).y] = [SV.int .i64 (l.g i).x, SV.int .i64 (l.g i).y]) ∧ l.n ≤ (1000000 : Nat)) ∧ ((!bif !L.within (↑l.n : Int) (3 : Int) (24 : Int) then true else !L.allB l.n fun (i : Nat) ↦ L.validPt (l.g i)) =
 true → (∀ (i : Nat), i < l.n → [SV.int .i64 (l.g i).x, SV.int .i64 (l.g i).y] = [SV.int .i64 (l.g i).x, SV.int .i64 (l.g i).y]) ∧ L.small (L.Sq.mk l.n fun (i : Nat) ↦ l.g i)) ∧ ((bif bif !L.within (↑l.n : Int) (3 : Int) (24 : Int) then true else !L.allB l.n fun (i : Nat) ↦ L.validPt (l.g i) then true else
 decide (L.areaTo (L.Sq.mk l.n fun (i : Nat) ↦ l.g i) l.n ≤ (0 : Int))) = true → false = L.validOutline l) ∧ ((bif bif !L.within (↑l.n : Int) (3 : Int) (24 : Int) then true else !L.allB l.n fun (i : Nat) ↦ L.validPt (l.g i) then true else decide (L.areaTo (L.Sq.mk l.n fun (i : Nat) ↦ l.g i) l.n ≤ (0 : Int))) = false → ((∀ (i : Nat), i < l.n →
 [SV.int .i64 (l.g i).x, SV.int .i64 (l.g i).y] = [SV.int .i64 (l.g i).x, SV.int .i64 (l.g i).y]) ∧ l.n ≤ (1000 : Nat)) ∧ (((∀ (i : Nat), i < l.n → [SV.int .i64 (l.g i).x, SV.int .i64 (l.g i).y] = [SV.int .i64 (l.g i).x, SV.int .i64 (l.g i).y]) ∧ l.n ≤ (1000 : Nat)) ∧ ∃ (t
 : Nat), false = false ∧ ∀ (j : Nat), j < (0 : Nat) → L.corner l j = true) ∧ (∀ (k t : Nat) (vk : Nat → Go.Value), k < l.n → (∀ (j : Nat), j < k → L.corner l j = true) → ((0 : Int) ≤ (0 : Int) ∧ (0 : Int) < (↑(3 : Nat) : Int)) ∧ ((0 : Int) ≤ (1 : Int) ∧ (1 : Int) < (↑(3 : Nat) : Int)) ∧ ((0 : Int) ≤ (2 : Int) ∧ (2 : Int) < (↑(3 : Nat) : Int)) ∧ (L.bd (l.g (Int.toNat (Int.tmod
 ((↑k : Int) + (↑l.n : Int) - (1 : Int)) (↑l.n : Int)))) ∧ L.bd (l.g (Int.toNat (↑k : Int))) ∧ L.bd (l.g (Int.toNat (Int.tmod ((↑k : Int) + (1 : Int)) (↑l.n : Int))))) ∧ ((!decide (L.cross (l.g (Int.toNat (Int.tmod ((↑k : Int) + (↑l.n : Int) - (1 : Int)) (↑l.n : Int)))) (l.g (Int.toNat (↑k : Int))) (l.g (Int.toNat (Int.tmod ((↑k : Int) + (1 : Int)) (↑l.n : Int)))) = (0 : Int)) &&
 decide ((0 : Int) < (↑k : Int))) = true → (0 : Int) ≤ (0 : Int) ∧ (0 : Int) < (↑l.n : Int)) ∧ ((!decide (L.cross (l.g (Int.toNat (Int.tmod ((↑k : Int) + (↑l.n : Int) - (1 : Int)) (↑l.n : Int)))) (l.g (Int.toNat (↑k : Int))) (l.g (Int.toNat (Int.tmod ((↑k : Int) + (1 : Int)) (↑l.n : Int)))) = (0 : Int)) && decide ((0 : Int) < (↑k : Int))) = true → (0 : Int) ≤
 (1 : Int) ∧ (1 : Int) < (↑(3 : Nat) : Int)) ∧ ((!decide (L.cross (l.g (Int.toNat (Int.tmod ((↑k : Int) + (↑l.n : Int) - (1 : Int)) (↑l.n : Int)))) (l.g (Int.toNat (↑k : Int))) (l.g (Int.toNat (Int.tmod ((↑k : Int) + (1 : Int)) (↑l.n : Int)))) = (0 : Int)) && decide ((0 : Int) < (↑k : Int))) = true → True) ∧ ((bif decide (L.cross (l.g (Int.toNat (Int.tmod ((↑k :
 Int) + (↑l.n : Int) - (1 : Int)) (↑l.n : Int)))) (l.g (Int.toNat (↑k : Int))) (l.g (Int.toNat (Int.tmod ((↑k : Int) + (1 : Int)) (↑l.n : Int)))) = (0 : Int)) then true else bif decide ((0 : Int) < (↑k : Int)) then decide ((0 : Int) ≤ L.cmpPt (l.g (Int.toNat (0 : Int))) (l.g (Int.toNat (↑k : Int)))) else false) = true → nat_lit 0 = nat_lit 0 ∧ SV.ref
 [SV.sl (nat_lit 2) l.n fun (i : Nat) ↦ [SV.int .i64 (l.g i).x, SV.int .i64 (l.g i).y]] (nat_lit 0) = SV.ref [SV.sl (nat_lit 2) l.n fun (i : Nat) ↦ [SV.int .i64 (l.g i).x, SV.int .i64 (l.g i).y]] (nat_lit 0) ∧ vk (nat_lit 2) = vk (nat_lit 2) ∧ vk (nat_lit 1) = vk (nat_lit 1) ∧ false = L.validOutline l) ∧ ((bif
 decide (L.cross (l.g (Int.toNat (Int.tmod ((↑k : Int) + (↑l.n : Int) - (1 : Int)) (↑l.n : Int)))) (l.g (Int.toNat (↑k : Int))) (l.g (Int.toNat (Int.tmod ((↑k : Int) + (1 : Int)) (↑l.n : Int)))) = (0 : Int)) then true else bif decide ((0 : Int) < (↑k : Int)) then decide ((0 : Int) ≤ L.cmpPt (l.g (Int.toNat (0 : Int))) (l.g (Int.toNat (↑k : Int)))) else false)
 = false → ∃ (t' : Nat), nat_lit 0 = nat_lit 0 ∧ SV.ref [SV.sl (nat_lit 2) l.n fun (i : Nat) ↦ [SV.int .i64 (l.g i).x, SV.int .i64 (l.g i).y]] (nat_lit 0) = SV.ref [SV.sl (nat_lit 2) l.n fun (i : Nat) ↦ [SV.int .i64 (l.g i).x, SV.int .i64 (l.g i).y]] (nat_lit 0) ∧ vk (nat_lit 2) = vk (nat_lit 2) ∧ vk
 (nat_lit 1) = vk (nat_lit 1) ∧ false = false ∧ ∀ (j : Nat), j < k + (1 : Nat) → L.corner l j = true)) ∧ ∀ (t : Nat), (∀ (j : Nat), j < l.n → L.corner l j = true) → ((∀ (i : Nat), i < l.n → [SV.int .i64 (l.g i).x, SV.int .i64 (l.g i).y] = [SV.int .i64 (l.g i).x, SV.int .i64 (l.g i).y]) ∧ L.allBd (L.Sq.mk l.n fun (i
 : Nat) ↦ l.g i)) ∧ L.simple (L.Sq.mk l.n fun (i : Nat) ↦ l.g i) = L.validOutline l)) (by kernel_rfl) (by
    have hn : l.n ≤ 1000000 := hp
    have e3 := valid3_eq l
    refine ⟨trivial, fun _ => ⟨fun _ _ => rfl, hn⟩, fun h => ⟨fun _ _ => rfl, ?_⟩, fun h => ?_, fun h => ?_⟩
    · cases h1 : L.within (l.n : Int) 3 24 with
      | false => simp [h1] at h
      | true => cases h2 : L.validPts l with
        | false => rw [h1] at h; rw [show (L.allB l.n fun i => L.validPt (l.g i)) = false from h2] at h; simp at h
        | true => exact (valid3_spec h1 h2).2.2.1
    · have h := e3.symm.trans h
      have : L.valid3 l = false := by simpa using h
      unfold L.validOutline; rw [this]; rfl
    · have h := e3.symm.trans h
      have hv : L.valid3 l = true := by simpa using h
      obtain ⟨n3, n24, hsm, hbd⟩ := valid3_of hv
      refine ⟨⟨fun _ _ => rfl, by omega⟩, ⟨⟨fun _ _ => rfl, by omega⟩, (0 : Nat), rfl, fun j hj => absurd hj (Nat.not_lt_zero _)⟩, fun k t vk hk hi => ?_, fun t hi => ?_⟩
      · have c1 : (Int.tmod ((k : Int) + (l.n : Int) - 1) (l.n : Int)).toNat = L.prev l.n k := rfl
        have c2 : ((k : Int)).toNat = k := by omega
        have c3 : (Int.tmod ((k : Int) + 1) (l.n : Int)).toNat = L.next l.n k := rfl
        rw [c1, c2, c3]
        have key : (bif decide (L.cross (l.g (L.prev l.n k)) (l.g k) (l.g (L.next l.n k)) = 0) then true else bif decide (0 < (k : Int)) then decide (0 ≤ L.cmpPt (l.g (Int.toNat 0)) (l.g k)) else false) = !L.corner l k := by
          unfold L.corner; rw [Bool.not_not]; rfl
        rw [key]
        refine ⟨by omega, by omega, by omega, ⟨hbd.2 _ (prev_lt (by omega)), hbd.2 _ hk, hbd.2 _ (next_lt (by omega))⟩, fun _ => by omega, fun _ => by omega, fun _ => trivial, fun h => ⟨rfl, rfl, rfl, rfl, ?_⟩, fun h => ⟨t, rfl, rfl, rfl, rfl, rfl, fun j hj => ?_⟩⟩
        · have : L.corner l k = false := by simpa using h
          unfold L.validOutline
          rw [allB_false hk this]; simp
        · rcases Nat.lt_succ_iff_lt_or_eq.1 hj with h' | rfl
          · exact hi j h'
          · simpa using h
      · refine ⟨⟨fun _ _ => rfl, hbd⟩, ?_⟩
        unfold L.validOutline
        rw [hv, allB_iff.2 hi]; rfl)
theorem p_ValidOutline_ok : SpecOk Tryz.prog 32 p_ValidOutline_S := fnX Tryz.func32 (c := bodyOf Tryz.f32) (by kernel_rfl) mixed (fun args p r hs hp => by
  unfold p_ValidOutline_s at hs
  split at hs
  · cases hs; exact ⟨_, _, p_ValidOutline_vc _ hp.2, (.p (.sl hp.1) .nil), ⟨show SpecsL Tryz.prog _ from (SpecsL.cons p_within_ok p_within_en (SpecsL.cons p_valid_ok p_valid_en (SpecsL.cons p_area_ok p_area_en (SpecsL.cons p_triples_ok p_triples_en (SpecsL.cons p_cross_ok p_cross_en (SpecsL.cons p_compare_ok p_compare_en (SpecsL.cons p_simple_ok p_simple_en SpecsL.nil))))))), rfl, ⟨show ItersL Tryz.prog _ from (ItersL.cons p_triples1_itok p_triples1_en ItersL.nil), (TrsOk.none (fun _ => rfl))⟩⟩⟩
  · cases hs)
theorem p_ValidOutline_en : Enters Tryz.prog 32 := fun args w => by kernel_rfl
def p_Bends_p (l : (L.Sq L.Pt)) : Prop := l.n ≤ 1000000
def p_Bends_r (l : (L.Sq L.Pt)) : SV := .tup [.sl 1 (bif L.validOutline l then l.n else 0) (fun k => [.int .i64 (L.bend l k)]), .int .i64 (bif L.validOutline l then 0 else 1)]
def p_Bends_s : List EV → Option (Prop × SV)
  | [.p (.sl 2 l_n l_g)] => some ((∀ i, i < l_n → l_g i = [.int .i64 ((ofPt (l_g i)).x), .int .i64 ((ofPt (l_g i)).y)]) ∧ p_Bends_p (⟨l_n, fun i => ofPt (l_g i)⟩ : (L.Sq L.Pt)), p_Bends_r (⟨l_n, fun i => ofPt (l_g i)⟩ : (L.Sq L.Pt)))
  | _ => none
abbrev p_Bends_S : SE.Spec := (specO p_Bends_s)
def p_Bends_C : Cfg := { muts := [], frz := lookN [], specs := lookS [(32, p_ValidOutline_S), (90, p_triples_S), (83, p_cross_S), (94, c_cmp_S)], loops := lookL [], iters := lookI [(155, p_triples1_it)], rfs := lookR [], nils := lookM [] }
theorem p_Bends_vc (l : (L.Sq L.Pt)) (hp : p_Bends_p l) : vc Tryz.prog ({ p_Bends_C with loops := lookL [], rfs := lookR [(5, { T := Nat, keep := [0, 2, 3, 4], keepO := [], own := fun k _ => [(4, .blk 57 [.row 12]), (12, .row 3 1 l.n (fun i => [.int .i64 (bif decide (i < k) then L.bend l i else 0)]))], inv := fun k _ => True })] }) (bodyOf Tryz.f36) (st0 Tryz.f36 [.p (.sl 2 l.n (fun i => [.int .i64 ((l.g i).x), .int .i64 ((l.g i).y)]))]) (retFn Tryz.prog Tryz.f36 (p_Bends_r l)) :=
  @Eq.mpr _ (((∀ (i : Nat), i < l.n → [SV.int .i64 (l.g i).x, SV.int .i64 (l.g i).y] = [SV.int .i64 (l.g i).x, SV.int .i64 (l.g i).y]) ∧ l.n ≤ (1000000 : Nat)) ∧ ((!L.validOutline (L.Sq.mk l.n fun (i : Nat) ↦ l.g i)) = true → (bif L.validOutline l then l.n else (0 : Nat)) = (0 : Nat) ∧ (1 : Int) = bif L.validOutline l then (0 : Int) else (1 :
 Int)) ∧ ((!L.validOutline (L.Sq.mk l.n fun (i : Nat) ↦ l.g i)) = false → ((0 : Int) ≤ (↑l.n : Int) ∧ (↑l.n : Int) ≤ (↑l.n : Int) ∧ (↑l.n : Int) * (↑(nat_lit 8) : Int) ≤ (140737488355328 : Int)) ∧ ((∀ (i : Nat), i < l.n → [SV.int .i64 (l.g i).x, SV.int .i64 (l.g i).y] = [SV.int .i64 (l.g i).x, SV.int .i64 (l.g i).y]) ∧ l.n ≤ (1000
 : Nat)) ∧ (((∀ (i : Nat), i < l.n → [SV.int .i64 (l.g i).x, SV.int .i64 (l.g i).y] = [SV.int .i64 (l.g i).x, SV.int .i64 (l.g i).y]) ∧ l.n ≤ (1000 : Nat)) ∧ ∃ (t : Nat), (Int.toNat (↑l.n : Int) = l.n ∧ ∀ (i : Nat), i < Int.toNat (↑l.n : Int) → [SV.int .i64 (0 : Int)] = [SV.int .i64 (bif decide
 (i < (0 : Nat)) then L.bend l i else (0 : Int))]) ∧ True) ∧ (∀ (k t : Nat) (vk : Nat → Go.Value), k < l.n → True → ((0 : Int) ≤ (0 : Int) ∧ (0 : Int) < (↑(3 : Nat) : Int)) ∧ ((0 : Int) ≤ (1 : Int) ∧ (1 : Int) < (↑(3 : Nat) : Int)) ∧ ((0 : Int) ≤ (2 : Int) ∧ (2 : Int) < (↑(3 : Nat) : Int)) ∧ (L.bd (l.g (Int.toNat (Int.tmod ((↑k : Int) + (↑l.n : Int) - (1 : Int)) (↑l.n : Int)))) ∧ L.bd (l.g
 (Int.toNat (↑k : Int))) ∧ L.bd (l.g (Int.toNat (Int.tmod ((↑k : Int) + (1 : Int)) (↑l.n : Int))))) ∧ True ∧ ((0 : Int) ≤ (↑k : Int) ∧ (↑k : Int) < (↑l.n : Int)) ∧ Int.toNat (↑k : Int) < l.n ∧ ∃ (t' : Nat), nat_lit 0 = nat_lit 0 ∧ (0 : Int) = (0 : Int) ∧ Value.slice Option.none (0 : Nat) (0 : Nat) = Value.slice Option.none (0 : Nat) (0 : Nat) ∧ (l.n = l.n ∧ ∀ (i : Nat), i < l.n →
 [SV.int .i64 (l.g i).x, SV.int .i64 (l.g i).y] = [SV.int .i64 (l.g i).x, SV.int .i64 (l.g i).y]) ∧ vk (nat_lit 4) = vk (nat_lit 4) ∧ vk (nat_lit 3) = vk (nat_lit 3) ∧ vk (nat_lit 2) = vk (nat_lit 2) ∧ vk (nat_lit 0) = vk (nat_lit 0) ∧ (l.n = l.n ∧ ∀ (i : Nat), i < l.n → setRow (fun (i : Nat) ↦ [SV.int .i64 (bif
 decide (i < k) then L.bend l i else (0 : Int))]) (Int.toNat (↑k : Int)) (nat_lit 0) [SV.int .i64 (L.cmp (L.cross (l.g (Int.toNat (Int.tmod ((↑k : Int) + (↑l.n : Int) - (1 : Int)) (↑l.n : Int)))) (l.g (Int.toNat (↑k : Int))) (l.g (Int.toNat (Int.tmod ((↑k : Int) + (1 : Int)) (↑l.n : Int))))) (0 : Int))] i = [SV.int .i64 (bif decide (i < k + (1 :
 Nat)) then L.bend l i else (0 : Int))]) ∧ True) ∧ ∀ (t : Nat), True → ((l.n = bif L.validOutline l then l.n else (0 : Nat)) ∧ ∀ (i : Nat), i < l.n → [SV.int .i64 (bif decide (i < l.n) then L.bend l i else (0 : Int))] = [SV.int .i64 (L.bend l i)]) ∧ (0 : Int) = bif L.validOutline l then (0 : Int) else (1 : Int))) (by kernel_rfl) (by
    have hn : l.n ≤ 1000000 := hp
    refine ⟨⟨fun _ _ => rfl, hn⟩, fun h => ?_, fun h => ?_⟩
    · have hv : L.validOutline l = false := by simpa using (show (!L.validOutline l) = true from h)
      rw [hv]; exact ⟨rfl, rfl⟩
    · have hv : L.validOutline l = true := by simpa using (show (!L.validOutline l) = false from h)
      obtain ⟨n3, n24, hsm, hbd⟩ := validOutline_of hv
      refine ⟨⟨by omega, by omega, show (l.n : Int) * 8 ≤ 140737488355328 by omega⟩, ⟨fun _ _ => rfl, by omega⟩, ⟨⟨fun _ _ => rfl, by omega⟩, (0 : Nat), ⟨by omega, fun i hi => rfl⟩, trivial⟩, fun k t vk hk _ => ?_, fun t _ => ?_⟩
      · have c1 : (Int.tmod ((k : Int) + (l.n : Int) - 1) (l.n : Int)).toNat = L.prev l.n k := rfl
        have c2 : ((k : Int)).toNat = k := by omega
        have c3 : (Int.tmod ((k : Int) + 1) (l.n : Int)).toNat = L.next l.n k := rfl
        rw [c1, c2, c3]
        refine ⟨by omega, by omega, by omega, ⟨hbd.2 _ (prev_lt (by omega)), hbd.2 _ hk, hbd.2 _ (next_lt (by omega))⟩, trivial, by omega, hk, t, rfl, rfl, rfl, ⟨rfl, fun _ _ => rfl⟩, rfl, rfl, rfl, rfl, ⟨rfl, fun i hi => ?_⟩, trivial⟩
        unfold setRow
        by_cases hik : i = k
        · subst hik
          simp [L.bend, fillAt]
        · have e : decide (i < k + 1) = decide (i < k) := by
            by_cases h' : i < k <;> simp [h'] <;> omega
          simp [hik, e]
      · rw [hv]
        refine ⟨⟨rfl, fun i hi => ?_⟩, rfl⟩
        simp [hi])
theorem p_Bends_ok : SpecOk Tryz.prog 36 p_Bends_S := fnX Tryz.func36 (c := bodyOf Tryz.f36) (by kernel_rfl) mixed (fun args p r hs hp => by
  unfold p_Bends_s at hs
  split at hs
  · cases hs; exact ⟨_, _, p_Bends_vc _ hp.2, (.p (.sl hp.1) .nil), ⟨show SpecsL Tryz.prog _ from (SpecsL.cons p_ValidOutline_ok p_ValidOutline_en (SpecsL.cons p_triples_ok p_triples_en (SpecsL.cons p_cross_ok p_cross_en (SpecsL.cons c_cmp_ok c_cmp_en SpecsL.nil)))), rfl, ⟨show ItersL Tryz.prog _ from (ItersL.cons p_triples1_itok p_triples1_en ItersL.nil), (TrsOk.none (fun _ => rfl))⟩⟩⟩
  · cases hs)
theorem p_Bends_en : Enters Tryz.prog 36 := fun args w => by kernel_rfl
end Go.Proofs.YtooapgllahonaaaGreat

namespace Go.Proofs.YtooapgllahonaaaGreat
open Go.SE Go.RowKit
set_option maxRecDepth 100000
set_option maxHeartbeats 4000000
set_option linter.unusedVariables false
attribute [local irreducible] vc

def L.pt (l : L.Sq L.Pt) (a : Int) : L.Pt := l.g (Int.tmod (a + (l.n : Int)) (l.n : Int)).toNat
def L.sq (l : L.Sq L.Pt) (a b : Int) : Int := bif L.validPt (L.pt l a) && L.validPt (L.pt l b) then L.dist (L.pt l a) (L.pt l b) else 0
def L.kF (l : L.Sq L.Pt) (s : L.Setting) (i : Nat) : Int := Int.tmod (s.shift + (i : Int)) (l.n : Int)
def L.kB (l : L.Sq L.Pt) (s : L.Setting) (i : Nat) : Int := Int.tmod (s.shift + (l.n : Int) - (i : Int)) (l.n : Int)
def L.meas (l : L.Sq L.Pt) (s : L.Setting) (i : Nat) : L.Meas :=
  bif s.back then ⟨L.sq l (L.kB l s i) (L.kB l s i + 1), L.sq l (L.kB l s i - 1) (L.kB l s i + 1), L.bend l (L.kB l s i).toNat⟩
  else ⟨L.sq l (L.kF l s i) (L.kF l s i + 1), L.sq l (L.kF l s i) (L.kF l s i + 2), L.bend l (Int.tmod (L.kF l s i + 1) (l.n : Int)).toNat⟩
def g_meas1_p (a : Int) (b : Int) (l : (L.Sq L.Pt)) (n : Int) : Prop := n = (l.n : Int) ∧ 1 ≤ l.n ∧ l.n ≤ 1000 ∧ -1 ≤ a ∧ a ≤ 10000 ∧ -1 ≤ b ∧ b ≤ 10000
def g_meas1_r (a : Int) (b : Int) (l : (L.Sq L.Pt)) (n : Int) : SV := .int .i64 (L.sq l a b)
def g_meas1_s : List EV → Option (Prop × SV)
  | [.p (.int .i64 a), .p (.int .i64 b), .p (.ref [.sl 2 l_n l_g] 0), .p (.ref [.int .i64 n] 0)] => some ((∀ i, i < l_n → l_g i = [.int .i64 ((ofPt (l_g i)).x), .int .i64 ((ofPt (l_g i)).y)]) ∧ g_meas1_p a b (⟨l_n, fun i => ofPt (l_g i)⟩ : (L.Sq L.Pt)) n, g_meas1_r a b (⟨l_n, fun i => ofPt (l_g i)⟩ : (L.Sq L.Pt)) n)
  | _ => none
abbrev g_meas1_S : SE.Spec := (specO g_meas1_s)
def g_meas1_C : Cfg := { muts := [], frz := lookN [], specs := lookS [(172, p_Square_S)], loops := lookL [], iters := lookI [], rfs := lookR [], nils := lookM [] }
theorem g_meas1_vc (a : Int) (b : Int) (l : (L.Sq L.Pt)) (n : Int) (hp : g_meas1_p a b l n) : vc Tryz.prog (g_meas1_C) (bodyOf Tryz.f171) (st0 Tryz.f171 [.p (.int .i64 a), .p (.int .i64 b), .p (.ref [.sl 2 l.n (fun i => [.int .i64 ((l.g i).x), .int .i64 ((l.g i).y)])] 0), .p (.ref [.int .i64 n] 0)]) (retFn Tryz.prog Tryz.f171 (g_meas1_r a b l n)) :=
  @Eq.mpr _ (InK .i64 (a + n) ∧ n ≠ (0 : Int) ∧ ((0 : Int) ≤ Int.tmod (a + n) n ∧ Int.tmod (a + n) n < (↑l.n : Int)) ∧ InK .i64 (b + n) ∧ n ≠ (0 : Int) ∧ ((0 : Int) ≤ Int.tmod (b + n) n ∧ Int.tmod (b + n) n < (↑l.n : Int)) ∧ True ∧ (bif L.validPt (l.g (Int.toNat (Int.tmod (a + n) n))) && L.validPt (l.g (Int.toNat (Int.tmod (b + n) n))) then L.dist (l.g (Int.toNat (Int.tmod (a +
 n) n))) (l.g (Int.toNat (Int.tmod (b + n) n))) else (0 : Int)) = L.sq l a b) (by kernel_rfl) (by
    obtain ⟨rfl, n1, n2, a1, a2, b1, b2⟩ := hp
    have t1 := Int.tmod_nonneg (l.n : Int) (show 0 ≤ a + (l.n : Int) by omega)
    have t2 := Int.tmod_lt_of_pos (a + (l.n : Int)) (show 0 < (l.n : Int) by omega)
    have t3 := Int.tmod_nonneg (l.n : Int) (show 0 ≤ b + (l.n : Int) by omega)
    have t4 := Int.tmod_lt_of_pos (b + (l.n : Int)) (show 0 < (l.n : Int) by omega)
    exact ⟨InK.of (by omega) (by omega), by omega, ⟨t1, t2⟩, InK.of (by omega) (by omega), by omega, ⟨t3, t4⟩, trivial, rfl⟩)
theorem g_meas1_ok : SpecOk Tryz.prog 171 g_meas1_S := fnX Tryz.func171 (c := bodyOf Tryz.f171) (by kernel_rfl) mixed (fun args p r hs hp => by
  unfold g_meas1_s at hs
  split at hs
  · cases hs; exact ⟨_, _, g_meas1_vc _ _ _ _ hp.2, (.same _ (.same _ (.p (Ext.ref rfl (fun i hi => by
      rcases i with _ | i
      · show Ext (SV.sl _ _ _) (SV.sl _ _ _); exact (Ext.sl hp.1)
      exact absurd hi (by simp; try omega))) (.same _ .nil)))), ⟨show SpecsL Tryz.prog _ from (SpecsL.cons p_Square_ok p_Square_en SpecsL.nil), rfl, ⟨show ItersL Tryz.prog _ from ItersL.nil, (TrsOk.none (fun _ => rfl))⟩⟩⟩
  · cases hs)
theorem g_meas1_en : Enters Tryz.prog 171 := fun args w => by kernel_rfl
def g_meas2_p (n : Int) (s : L.Setting) (l : (L.Sq L.Pt)) (m : Int) (be : (L.Sq Int)) : Prop := n = (l.n : Int) ∧ m = (l.n : Int) ∧ be.n = l.n ∧ (∀ i, i < l.n → be.g i = L.bend l i) ∧ 1 ≤ l.n ∧ l.n ≤ 1000 ∧ 0 ≤ s.shift ∧ s.shift ≤ 1000
def g_meas2_n (n : Int) (s : L.Setting) (l : (L.Sq L.Pt)) (m : Int) (be : (L.Sq Int)) : Nat := l.n
def g_meas2_i (n : Int) (s : L.Setting) (l : (L.Sq L.Pt)) (m : Int) (be : (L.Sq Int)) : Nat → List SV := fun k => [.int .i64 (k : Int), (.agg [.int .i64 ((L.meas l s k).edge), .int .i64 ((L.meas l s k).across), .int .i64 ((L.meas l s k).bend)])]
def g_meas2_ic : List SV → Option (Prop × Nat × (Nat → List SV))
  | [.ref [.int .i64 n] 0, .ref [.int .i64 s_shift, .bool s_back] 0, .ref [.clo 171 [.ref [.sl 2 l_n l_g] 0, .ref [.int .i64 m] 0]] 0, .ref [.sl 1 be_n be_g] 0] => some ((∀ i, i < l_n → l_g i = [.int .i64 ((ofPt (l_g i)).x), .int .i64 ((ofPt (l_g i)).y)]) ∧ (∀ i, i < be_n → be_g i = [.int .i64 ((intOf (be_g i)))]) ∧ g_meas2_p n (⟨s_shift, s_back⟩ : L.Setting) (⟨l_n, fun i => ofPt (l_g i)⟩ : (L.Sq L.Pt)) m (⟨be_n, fun i => intOf (be_g i)⟩ : (L.Sq Int)), g_meas2_n n (⟨s_shift, s_back⟩ : L.Setting) (⟨l_n, fun i => ofPt (l_g i)⟩ : (L.Sq L.Pt)) m (⟨be_n, fun i => intOf (be_g i)⟩ : (L.Sq Int)), g_meas2_i n (⟨s_shift, s_back⟩ : L.Setting) (⟨l_n, fun i => ofPt (l_g i)⟩ : (L.Sq L.Pt)) m (⟨be_n, fun i => intOf (be_g i)⟩ : (L.Sq Int)))
  | _ => none
abbrev g_meas2_it : ItSpec := itOf g_meas2_ic
def g_meas2_C : Cfg := { muts := [], frz := lookN [], specs := lookS [(171, g_meas1_S)], loops := fun _ => none, iters := lookI [], rfs := lookR [] }
theorem g_meas2_vc (yl : Nat) (n : Int) (s : L.Setting) (l : (L.Sq L.Pt)) (m : Int) (be : (L.Sq Int)) (hp : g_meas2_p n s l m be) : vc Tryz.prog { g_meas2_C with loops := lookL [(1, { T := Nat, keep := [0, 1, 2, 3, 4, 9], keepO := [], chg := fun i => [(10, .p (.int .i64 (i : Int)))], own := fun _ => [], inv := fun i => i ≤ l.n, mu := fun i => l.n - i, yk := some (fun i => i) })], yld := some ⟨yl, g_meas2_n n s l m be, g_meas2_i n s l m be⟩ } (bodyOf Tryz.f173) (st0 Tryz.f173 (.yield yl :: ([.ref [.int .i64 n] 0, .ref [.int .i64 s.shift, .bool s.back] 0, .ref [.clo 171 [.ref [.sl 2 l.n (fun i => [.int .i64 ((l.g i).x), .int .i64 ((l.g i).y)])] 0, .ref [.int .i64 m] 0]] 0, .ref [.sl 1 be.n (fun i => [.int .i64 ((be.g i))])] 0] : List SV).map .p)) (retIt Tryz.prog Tryz.f173 (g_meas2_n n s l m be)) :=
  @Eq.mpr _ ((∃ (g : Nat), nat_lit 0 = g ∧ false = false ∧ (0 : Int) = (↑g : Int) ∧ g ≤ l.n) ∧ ∀ (g : Nat), g ≤ l.n → (decide ((↑g : Int) < n) = true → InK .i64 (s.shift + (↑g : Int)) ∧ n ≠ (0 : Int) ∧ InK .i64 (Int.tmod (s.shift + (↑g : Int)) n + (1 : Int)) ∧ ((∀ (i : Nat), i < l.n → [SV.int .i64 (l.g i).x, SV.int .i64
 (l.g i).y] = [SV.int .i64 (l.g i).x, SV.int .i64 (l.g i).y]) ∧ m = (↑l.n : Int) ∧ (1 : Nat) ≤ l.n ∧ l.n ≤ (1000 : Nat) ∧ (-1 : Int) ≤ Int.tmod (s.shift + (↑g : Int)) n ∧ Int.tmod (s.shift + (↑g : Int)) n ≤ (10000 : Int) ∧ (-1 : Int) ≤ Int.tmod (s.shift + (↑g : Int)) n + (1 : Int) ∧ Int.tmod (s.shift + (↑g : Int)) n + (1 : Int) ≤ (10000 : Int)) ∧ InK
 .i64 (Int.tmod (s.shift + (↑g : Int)) n + (2 : Int)) ∧ ((∀ (i : Nat), i < l.n → [SV.int .i64 (l.g i).x, SV.int .i64 (l.g i).y] = [SV.int .i64 (l.g i).x, SV.int .i64 (l.g i).y]) ∧ m = (↑l.n : Int) ∧ (1 : Nat) ≤ l.n ∧ l.n ≤ (1000 : Nat) ∧ (-1 : Int) ≤ Int.tmod (s.shift + (↑g : Int)) n ∧ Int.tmod (s.shift + (↑g : Int)) n ≤
 (10000 : Int) ∧ (-1 : Int) ≤ Int.tmod (s.shift + (↑g : Int)) n + (2 : Int) ∧ Int.tmod (s.shift + (↑g : Int)) n + (2 : Int) ≤ (10000 : Int)) ∧ InK .i64 (Int.tmod (s.shift + (↑g : Int)) n + (1 : Int)) ∧ n ≠ (0 : Int) ∧ ((0 : Int) ≤ Int.tmod (Int.tmod (s.shift + (↑g : Int)) n + (1 : Int)) n ∧ Int.tmod (Int.tmod (s.shift + (↑g : Int)) n + (1 : Int)) n < (↑be.n : Int)) ∧ (s.back =
 true → InK .i64 (s.shift + n) ∧ InK .i64 (s.shift + n - (↑g : Int)) ∧ n ≠ (0 : Int) ∧ InK .i64 (Int.tmod (s.shift + n - (↑g : Int)) n + (1 : Int)) ∧ ((∀ (i : Nat), i < l.n → [SV.int .i64 (l.g i).x, SV.int .i64 (l.g i).y] = [SV.int .i64 (l.g i).x, SV.int .i64 (l.g i).y]) ∧ m = (↑l.n
 : Int) ∧ (1 : Nat) ≤ l.n ∧ l.n ≤ (1000 : Nat) ∧ (-1 : Int) ≤ Int.tmod (s.shift + n - (↑g : Int)) n ∧ Int.tmod (s.shift + n - (↑g : Int)) n ≤ (10000 : Int) ∧ (-1 : Int) ≤ Int.tmod (s.shift + n - (↑g : Int)) n + (1 : Int) ∧ Int.tmod (s.shift + n - (↑g : Int)) n + (1 : Int) ≤ (10000 : Int)) ∧ InK .i64 (Int.tmod (s.shift + n - (↑g : Int)) n - (1 : Int)) ∧ InK .i64
 (Int.tmod (s.shift + n - (↑g : Int)) n + (1 : Int)) ∧ ((∀ (i : Nat), i < l.n → [SV.int .i64 (l.g i).x, SV.int .i64 (l.g i).y] = [SV.int .i64 (l.g i).x, SV.int .i64 (l.g i).y]) ∧ m = (↑l.n : Int) ∧ (1 : Nat) ≤ l.n ∧ l.n ≤ (1000 : Nat) ∧ (-1 : Int) ≤ Int.tmod (s.shift + n - (↑g : Int)) n - (1 : Int) ∧ Int.tmod (s.shift + n - (↑g : Int))
 n - (1 : Int) ≤ (10000 : Int) ∧ (-1 : Int) ≤ Int.tmod (s.shift + n - (↑g : Int)) n + (1 : Int) ∧ Int.tmod (s.shift + n - (↑g : Int)) n + (1 : Int) ≤ (10000 : Int)) ∧ ((0 : Int) ≤ Int.tmod (s.shift + n - (↑g : Int)) n ∧ Int.tmod (s.shift + n - (↑g : Int)) n < (↑be.n : Int)) ∧ yl = yl ∧ g < l.n ∧ [SV.int .i64 (↑g : Int), SV.agg [SV.int .i64 (L.sq (L.Sq.mk l.n
 fun (i : Nat) ↦ l.g i) (Int.tmod (s.shift + n - (↑g : Int)) n) (Int.tmod (s.shift + n - (↑g : Int)) n + (1 : Int))), SV.int .i64 (L.sq (L.Sq.mk l.n fun (i : Nat) ↦ l.g i) (Int.tmod (s.shift + n - (↑g : Int)) n - (1 : Int)) (Int.tmod (s.shift + n - (↑g : Int)) n + (1 : Int))), SV.int .i64 (be.g (Int.toNat (Int.tmod (s.shift + n - (↑g : Int)) n)))]] = [SV.int
 .i64 (↑g : Int), SV.agg [SV.int .i64 (L.meas l s g).edge, SV.int .i64 (L.meas l s g).across, SV.int .i64 (L.meas l s g).bend]] ∧ ((false = true → g + (1 : Nat) = l.n ∨ g + (1 : Nat) = l.n + (1 : Nat)) ∧ (false = false → InK .i64 ((↑g : Int) + (1 : Int)) ∧ ∃ (g' : Nat), g + (1 : Nat) = g' ∧
 false = false ∧ (↑g : Int) + (1 : Int) = (↑g' : Int) ∧ n = n ∧ yl = yl ∧ SV.ref [SV.int .i64 n] (nat_lit 0) = SV.ref [SV.int .i64 n] (nat_lit 0) ∧ SV.ref [SV.int .i64 s.shift, SV.bool s.back] (nat_lit 0) = SV.ref [SV.int .i64 s.shift, SV.bool s.back] (nat_lit 0) ∧ SV.ref
 [SV.clo (nat_lit 171) [SV.ref [SV.sl (nat_lit 2) l.n fun (i : Nat) ↦ [SV.int .i64 (l.g i).x, SV.int .i64 (l.g i).y]] (nat_lit 0), SV.ref [SV.int .i64 m] (nat_lit 0)]] (nat_lit 0) = SV.ref [SV.clo (nat_lit 171) [SV.ref [SV.sl (nat_lit 2) l.n fun (i : Nat) ↦ [SV.int .i64 (l.g i).x,
 SV.int .i64 (l.g i).y]] (nat_lit 0), SV.ref [SV.int .i64 m] (nat_lit 0)]] (nat_lit 0) ∧ SV.ref [SV.sl (nat_lit 1) be.n fun (i : Nat) ↦ [SV.int .i64 (be.g i)]] (nat_lit 0) = SV.ref [SV.sl (nat_lit 1) be.n fun (i : Nat) ↦ [SV.int .i64 (be.g i)]] (nat_lit 0) ∧ g' ≤ l.n ∧ l.n - g' < l.n - g)) ∧ (true =
 true → l.n + (1 : Nat) = l.n ∨ l.n + (1 : Nat) = l.n + (1 : Nat)) ∧ (true = false → InK .i64 ((↑g : Int) + (1 : Int)) ∧ ∃ (g' : Nat), l.n + (1 : Nat) = g' ∧ false = false ∧ (↑g : Int) + (1 : Int) = (↑g' : Int) ∧ n = n ∧ yl = yl ∧ SV.ref [SV.int .i64 n] (nat_lit 0) = SV.ref [SV.int .i64 n] (nat_lit 0) ∧
 SV.ref [SV.int .i64 s.shift, SV.bool s.back] (nat_lit 0) = SV.ref [SV.int .i64 s.shift, SV.bool s.back] (nat_lit 0) ∧ SV.ref [SV.clo (nat_lit 171) [SV.ref [SV.sl (nat_lit 2) l.n fun (i : Nat) ↦ [SV.int .i64 (l.g i).x, SV.int .i64 (l.g i).y]] (nat_lit 0), SV.ref [SV.int
 .i64 m] (nat_lit 0)]] (nat_lit 0) = SV.ref [SV.clo (nat_lit 171) [SV.ref [SV.sl (nat_lit 2) l.n fun (i : Nat) ↦ [SV.int .i64 (l.g i).x, SV.int .i64 (l.g i).y]] (nat_lit 0), SV.ref [SV.int .i64 m] (nat_lit 0)]] (nat_lit 0) ∧ SV.ref [SV.sl (nat_lit 1) be.n fun (i : Nat) ↦ [SV.int .i64
 (be.g i)]] (nat_lit 0) = SV.ref [SV.sl (nat_lit 1) be.n fun (i : Nat) ↦ [SV.int .i64 (be.g i)]] (nat_lit 0) ∧ g' ≤ l.n ∧ l.n - g' < l.n - g)) ∧ (s.back = false → yl = yl ∧ g < l.n ∧ [SV.int .i64 (↑g : Int), SV.agg [SV.int .i64 (L.sq (L.Sq.mk l.n fun (i : Nat) ↦ l.g i) (Int.tmod (s.shift + (↑g : Int)) n) (Int.tmod (s.shift + (↑g
 : Int)) n + (1 : Int))), SV.int .i64 (L.sq (L.Sq.mk l.n fun (i : Nat) ↦ l.g i) (Int.tmod (s.shift + (↑g : Int)) n) (Int.tmod (s.shift + (↑g : Int)) n + (2 : Int))), SV.int .i64 (be.g (Int.toNat (Int.tmod (Int.tmod (s.shift + (↑g : Int)) n + (1 : Int)) n)))]] = [SV.int .i64 (↑g : Int), SV.agg [SV.int .i64 (L.meas l s g).edge,
 SV.int .i64 (L.meas l s g).across, SV.int .i64 (L.meas l s g).bend]] ∧ ((false = true → g + (1 : Nat) = l.n ∨ g + (1 : Nat) = l.n + (1 : Nat)) ∧ (false = false → InK .i64 ((↑g : Int) + (1 : Int)) ∧ ∃ (g' : Nat), g + (1 : Nat) = g' ∧ false = false ∧ (↑g : Int) + (1 : Int) = (↑g' : Int) ∧ n = n ∧ yl = yl ∧ SV.ref
 [SV.int .i64 n] (nat_lit 0) = SV.ref [SV.int .i64 n] (nat_lit 0) ∧ SV.ref [SV.int .i64 s.shift, SV.bool s.back] (nat_lit 0) = SV.ref [SV.int .i64 s.shift, SV.bool s.back] (nat_lit 0) ∧ SV.ref [SV.clo (nat_lit 171) [SV.ref [SV.sl (nat_lit 2) l.n fun (i : Nat) ↦ [SV.int
 .i64 (l.g i).x, SV.int .i64 (l.g i).y]] (nat_lit 0), SV.ref [SV.int .i64 m] (nat_lit 0)]] (nat_lit 0) = SV.ref [SV.clo (nat_lit 171) [SV.ref [SV.sl (nat_lit 2) l.n fun (i : Nat) ↦ [SV.int .i64 (l.g i).x, SV.int .i64 (l.g i).y]] (nat_lit 0), SV.ref [SV.int .i64 m] (nat_lit
 0)]] (nat_lit 0) ∧ SV.ref [SV.sl (nat_lit 1) be.n fun (i : Nat) ↦ [SV.int .i64 (be.g i)]] (nat_lit 0) = SV.ref [SV.sl (nat_lit 1) be.n fun (i : Nat) ↦ [SV.int .i64 (be.g i)]] (nat_lit 0) ∧ g' ≤ l.n ∧ l.n - g' < l.n - g)) ∧ (true = true → l.n + (1 : Nat) = l.n ∨ l.n + (1 : Nat) = l.n + (1 : Nat)) ∧ (true = false → InK
 .i64 ((↑g : Int) + (1 : Int)) ∧ ∃ (g' : Nat), l.n + (1 : Nat) = g' ∧ false = false ∧ (↑g : Int) + (1 : Int) = (↑g' : Int) ∧ n = n ∧ yl = yl ∧ SV.ref [SV.int .i64 n] (nat_lit 0) = SV.ref [SV.int .i64 n] (nat_lit 0) ∧ SV.ref [SV.int .i64 s.shift, SV.bool s.back] (nat_lit 0) = SV.ref [SV.int
 .i64 s.shift, SV.bool s.back] (nat_lit 0) ∧ SV.ref [SV.clo (nat_lit 171) [SV.ref [SV.sl (nat_lit 2) l.n fun (i : Nat) ↦ [SV.int .i64 (l.g i).x, SV.int .i64 (l.g i).y]] (nat_lit 0), SV.ref [SV.int .i64 m] (nat_lit 0)]] (nat_lit 0) = SV.ref [SV.clo (nat_lit 171) [SV.ref [SV.sl
 (nat_lit 2) l.n fun (i : Nat) ↦ [SV.int .i64 (l.g i).x, SV.int .i64 (l.g i).y]] (nat_lit 0), SV.ref [SV.int .i64 m] (nat_lit 0)]] (nat_lit 0) ∧ SV.ref [SV.sl (nat_lit 1) be.n fun (i : Nat) ↦ [SV.int .i64 (be.g i)]] (nat_lit 0) = SV.ref [SV.sl (nat_lit 1) be.n fun (i : Nat) ↦ [SV.int .i64
 (be.g i)]] (nat_lit 0) ∧ g' ≤ l.n ∧ l.n - g' < l.n - g))) ∧ (decide ((↑g : Int) < n) = false → g = l.n ∨ g = l.n + (1 : Nat))) (by kernel_rfl) (by
    obtain ⟨rfl, hm, hbn, hbe, n1, n2, s1, s2⟩ := hp
    refine ⟨⟨(0 : Nat), rfl, rfl, rfl, Nat.zero_le _⟩, fun g hg => ⟨fun hlt => ?_, fun hge => ?_⟩⟩
    rotate_left
    · have : ¬ (g : Int) < (l.n : Int) := by simpa using hge
      exact .inl (by omega)
    have hb : (g : Int) < (l.n : Int) := by simpa using hlt
    have f1 := Int.tmod_nonneg (l.n : Int) (show 0 ≤ s.shift + (g : Int) by omega)
    have f2 := Int.tmod_lt_of_pos (s.shift + (g : Int)) (show 0 < (l.n : Int) by omega)
    have g1 := Int.tmod_nonneg (l.n : Int) (show 0 ≤ Int.tmod (s.shift + (g : Int)) (l.n : Int) + 1 by omega)
    have g2 := Int.tmod_lt_of_pos (Int.tmod (s.shift + (g : Int)) (l.n : Int) + 1) (show 0 < (l.n : Int) by omega)
    have h1 := Int.tmod_nonneg (l.n : Int) (show 0 ≤ s.shift + (l.n : Int) - (g : Int) by omega)
    have h2 := Int.tmod_lt_of_pos (s.shift + (l.n : Int) - (g : Int)) (show 0 < (l.n : Int) by omega)
    refine ⟨InK.of (by omega) (by omega), by omega, InK.of (by omega) (by omega), ⟨fun _ _ => rfl, hm, n1, n2, by omega, by omega, by omega, by omega⟩, InK.of (by omega) (by omega), ⟨fun _ _ => rfl, hm, n1, n2, by omega, by omega, by omega, by omega⟩, InK.of (by omega) (by omega), by omega, ⟨g1, by omega⟩, fun hback => ?_, fun hback => ?_⟩
    · refine ⟨InK.of (by omega) (by omega), InK.of (by omega) (by omega), by omega, InK.of (by omega) (by omega), ⟨fun _ _ => rfl, hm, n1, n2, by omega, by omega, by omega, by omega⟩, InK.of (by omega) (by omega), InK.of (by omega) (by omega), ⟨fun _ _ => rfl, hm, n1, n2, by omega, by omega, by omega, by omega⟩, ⟨h1, by omega⟩, rfl, by omega, ?_, ⟨fun h => (by cases h), fun _ => ⟨InK.of (by omega) (by omega), g + 1, rfl, rfl, by omega, rfl, rfl, rfl, rfl, rfl, rfl, by omega, by omega⟩⟩, fun _ => .inr rfl, fun h => (by cases h)⟩
      have e : L.meas l s g = ⟨L.sq l (L.kB l s g) (L.kB l s g + 1), L.sq l (L.kB l s g - 1) (L.kB l s g + 1), L.bend l (L.kB l s g).toNat⟩ := by
        unfold L.meas; rw [hback]; rfl
      rw [e, hbe _ (by omega)]
      rfl
    · refine ⟨rfl, by omega, ?_, ⟨fun h => (by cases h), fun _ => ⟨InK.of (by omega) (by omega), g + 1, rfl, rfl, by omega, rfl, rfl, rfl, rfl, rfl, rfl, by omega, by omega⟩⟩, fun _ => .inr rfl, fun h => (by cases h)⟩
      have e : L.meas l s g = ⟨L.sq l (L.kF l s g) (L.kF l s g + 1), L.sq l (L.kF l s g) (L.kF l s g + 2), L.bend l (Int.tmod (L.kF l s g + 1) (l.n : Int)).toNat⟩ := by
        unfold L.meas; rw [hback]; rfl
      rw [e, hbe _ (by omega)]
      rfl)
theorem g_meas2_itok : ItOk Tryz.prog 173 g_meas2_it := iterX Tryz.func173 (c := bodyOf Tryz.f173) (by kernel_rfl) mixed (fun caps l p n g hs hp => by
  unfold g_meas2_ic at hs
  split at hs
  · cases hs; exact ⟨_, _, g_meas2_vc l _ _ _ _ _ hp.2.2, (.cons (Ext.refl _) (.cons (Ext.refl _) (.cons (Ext.ref rfl (fun i hi => by
      rcases i with _ | i
      · show Ext (SV.clo _ _) (SV.clo _ _); exact (Ext.clo rfl (fun i hi => by
      rcases i with _ | i
      · show Ext (SV.ref _ _) (SV.ref _ _); exact (Ext.ref rfl (fun i hi => by
      rcases i with _ | i
      · show Ext (SV.sl _ _ _) (SV.sl _ _ _); exact (Ext.sl hp.1)
      exact absurd hi (by simp; try omega)))
      rcases i with _ | i
      · exact (Ext.refl _)
      exact absurd hi (by simp; try omega)))
      exact absurd hi (by simp; try omega))) (.cons (Ext.ref rfl (fun i hi => by
      rcases i with _ | i
      · show Ext (SV.sl _ _ _) (SV.sl _ _ _); exact (Ext.sl hp.2.1)
      exact absurd hi (by simp; try omega))) .nil)))), rfl, show SpecsL Tryz.prog _ from (SpecsL.cons g_meas1_ok g_meas1_en SpecsL.nil), ⟨show ItersL Tryz.prog _ from ItersL.nil, TrsOk.none (fun _ => rfl)⟩⟩
  · cases hs)
theorem g_meas2_en : Enters Tryz.prog 173 := fun args w => by kernel_rfl
def g_measures_p (l : (L.Sq L.Pt)) (s : L.Setting) : Prop := l.n ≤ 1000000
def g_measures_r (l : (L.Sq L.Pt)) (s : L.Setting) : SV := .clo 173 [.ref [.int .i64 (l.n : Int)] 0, .ref [.int .i64 s.shift, .bool s.back] 0, .ref [.clo 171 [.ref [(.sl 2 l.n (fun i => [.int .i64 ((l.g i).x), .int .i64 ((l.g i).y)]))] 0, .ref [.int .i64 (l.n : Int)] 0]] 0, .ref [.sl 1 (bif L.validOutline l then l.n else 0) (fun k => [.int .i64 (L.bend l k)])] 0]
def g_measures_s : List EV → Option (Prop × SV)
  | [.p (.sl 2 l_n l_g), .p (.agg [.int .i64 s_shift, .bool s_back])] => some ((∀ i, i < l_n → l_g i = [.int .i64 ((ofPt (l_g i)).x), .int .i64 ((ofPt (l_g i)).y)]) ∧ g_measures_p (⟨l_n, fun i => ofPt (l_g i)⟩ : (L.Sq L.Pt)) (⟨s_shift, s_back⟩ : L.Setting), g_measures_r (⟨l_n, fun i => ofPt (l_g i)⟩ : (L.Sq L.Pt)) (⟨s_shift, s_back⟩ : L.Setting))
  | _ => none
abbrev g_measures_S : SE.Spec := (specO g_measures_s)
def g_measures_C : Cfg := { muts := [], frz := lookN [(2, [5]), (3, [6]), (4, [7])], specs := lookS [(36, p_Bends_S)], loops := lookL [], iters := lookI [], rfs := lookR [], nils := lookM [] }
theorem g_measures_vc (l : (L.Sq L.Pt)) (s : L.Setting) (hp : g_measures_p l s) : vc Tryz.prog (g_measures_C) (bodyOf Tryz.f118) (st0 Tryz.f118 [.p (.sl 2 l.n (fun i => [.int .i64 ((l.g i).x), .int .i64 ((l.g i).y)])), .p (.agg [.int .i64 s.shift, .bool s.back])]) (retFn Tryz.prog Tryz.f118 (g_measures_r l s)) :=
  @Eq.mpr _ (((∀ (i : Nat), i < l.n → [SV.int .i64 (l.g i).x, SV.int .i64 (l.g i).y] = [SV.int .i64 (l.g i).x, SV.int .i64 (l.g i).y]) ∧ l.n ≤ (1000000 : Nat)) ∧ SV.clo (nat_lit 173) [SV.ref [SV.int .i64 (↑l.n : Int)] (nat_lit 0), SV.ref [SV.int .i64 s.shift, SV.bool s.back] (nat_lit 0),
 SV.ref [SV.clo (nat_lit 171) [SV.ref [SV.sl (nat_lit 2) l.n fun (i : Nat) ↦ [SV.int .i64 (l.g i).x, SV.int .i64 (l.g i).y]] (nat_lit 0), SV.ref [SV.int .i64 (↑l.n : Int)] (nat_lit 0)]] (nat_lit 0), SV.ref [SV.sl (nat_lit 1) (bif L.validOutline (L.Sq.mk l.n fun (i : Nat) ↦ l.g i) then l.n else (0 : Nat)) fun
 (k : Nat) ↦ [SV.int .i64 (L.bend (L.Sq.mk l.n fun (i : Nat) ↦ l.g i) k)]] (nat_lit 0)] = SV.clo (nat_lit 173) [SV.ref [SV.int .i64 (↑l.n : Int)] (nat_lit 0), SV.ref [SV.int .i64 s.shift, SV.bool s.back] (nat_lit 0), SV.ref [SV.clo (nat_lit 171) [SV.ref [SV.sl (nat_lit 2) l.n fun (i : Nat) ↦
 [SV.int .i64 (l.g i).x, SV.int .i64 (l.g i).y]] (nat_lit 0), SV.ref [SV.int .i64 (↑l.n : Int)] (nat_lit 0)]] (nat_lit 0), SV.ref [SV.sl (nat_lit 1) (bif L.validOutline l then l.n else (0 : Nat)) fun (k : Nat) ↦ [SV.int .i64 (L.bend l k)]] (nat_lit 0)]) (by kernel_rfl) (by
    exact ⟨⟨fun _ _ => rfl, hp⟩, rfl⟩)
theorem g_measures_ok : SpecOk Tryz.prog 118 g_measures_S := fnX Tryz.func118 (c := bodyOf Tryz.f118) (by kernel_rfl) mixed (fun args p r hs hp => by
  unfold g_measures_s at hs
  split at hs
  · cases hs; exact ⟨_, _, g_measures_vc _ _ hp.2, (.p (.sl hp.1) (.same _ .nil)), ⟨show SpecsL Tryz.prog _ from (SpecsL.cons p_Bends_ok p_Bends_en SpecsL.nil), rfl, ⟨show ItersL Tryz.prog _ from ItersL.nil, (TrsOk.none (fun _ => rfl))⟩⟩⟩
  · cases hs)
theorem g_measures_en : Enters Tryz.prog 118 := fun args w => by kernel_rfl
end Go.Proofs.YtooapgllahonaaaGreat

namespace Go.Proofs.YtooapgllahonaaaGreat
open Go.SE Go.RowKit
set_option maxRecDepth 100000
set_option maxHeartbeats 4000000
set_option linter.unusedVariables false
attribute [local irreducible] vc

def L.gaugeOf (l : L.Sq L.Pt) (k : Nat) : L.Gauge := ⟨⟨(L.meas l ⟨0, false⟩ k).edge, (L.meas l ⟨0, false⟩ k).edge⟩, ⟨(L.meas l ⟨0, false⟩ k).across, (L.meas l ⟨0, false⟩ k).across⟩, (L.meas l ⟨0, false⟩ k).bend⟩
def L.heldBad (sw : Int) (fl : L.Sq Int) : Bool := bif (bif !L.within sw (-64) 64 then true else decide (400 < (fl.n : Int))) then true else L.anyB fl.n (fun i => decide (fl.g i < 0))
def L.held (sw : Int) (fl : L.Sq Int) : Bool := !L.anyB fl.n (fun i => decide (fl.g i < 0 - sw))
def g_Gauges_p (l : (L.Sq L.Pt)) : Prop := l.n ≤ 1000000
def g_Gauges_r (l : (L.Sq L.Pt)) : SV := .tup [.sl 5 (bif L.validOutline l then l.n else 0) (fun k => [.int .i64 ((L.gaugeOf l k).edge.lo), .int .i64 ((L.gaugeOf l k).edge.hi), .int .i64 ((L.gaugeOf l k).across.lo), .int .i64 ((L.gaugeOf l k).across.hi), .int .i64 ((L.gaugeOf l k).bend)]), .int .i64 (bif L.validOutline l then 0 else 1)]
def g_Gauges_s : List EV → Option (Prop × SV)
  | [.p (.sl 2 l_n l_g)] => some ((∀ i, i < l_n → l_g i = [.int .i64 ((ofPt (l_g i)).x), .int .i64 ((ofPt (l_g i)).y)]) ∧ g_Gauges_p (⟨l_n, fun i => ofPt (l_g i)⟩ : (L.Sq L.Pt)), g_Gauges_r (⟨l_n, fun i => ofPt (l_g i)⟩ : (L.Sq L.Pt)))
  | _ => none
abbrev g_Gauges_S : SE.Spec := (specO g_Gauges_s)
def g_Gauges_C : Cfg := { muts := [], frz := lookN [], specs := lookS [(32, p_ValidOutline_S), (118, g_measures_S)], loops := lookL [], iters := lookI [(173, g_meas2_it)], rfs := lookR [], nils := lookM [(4, [(4, 13, 92, 5)])] }
theorem g_Gauges_vc (l : (L.Sq L.Pt)) (hp : g_Gauges_p l) : vc Tryz.prog ({ g_Gauges_C with loops := lookL [], rfs := lookR [(5, { T := Nat, keep := [0, 2, 3, 4], keepO := [], own := fun k _ => [(4, .blk 22 [.row 13]), (13, .row 92 5 k (fun i => [.int .i64 ((L.gaugeOf l i).edge.lo), .int .i64 ((L.gaugeOf l i).edge.hi), .int .i64 ((L.gaugeOf l i).across.lo), .int .i64 ((L.gaugeOf l i).across.hi), .int .i64 ((L.gaugeOf l i).bend)]))], inv := fun k _ => k ≤ l.n })] }) (bodyOf Tryz.f58) (st0 Tryz.f58 [.p (.sl 2 l.n (fun i => [.int .i64 ((l.g i).x), .int .i64 ((l.g i).y)]))]) (retFn Tryz.prog Tryz.f58 (g_Gauges_r l)) :=
  @Eq.mpr _ (((∀ (i : Nat), i < l.n → [SV.int .i64 (l.g i).x, SV.int .i64 (l.g i).y] = [SV.int .i64 (l.g i).x, SV.int .i64 (l.g i).y]) ∧ l.n ≤ (1000000 : Nat)) ∧ ((!L.validOutline (L.Sq.mk l.n fun (i : Nat) ↦ l.g i)) = true → (bif L.validOutline l then l.n else (0 : Nat)) = (0 : Nat) ∧ (1 : Int) = bif L.validOutline l then (0 : Int) else (1 :
 Int)) ∧ ((!L.validOutline (L.Sq.mk l.n fun (i : Nat) ↦ l.g i)) = false → ((∀ (i : Nat), i < l.n → [SV.int .i64 (l.g i).x, SV.int .i64 (l.g i).y] = [SV.int .i64 (l.g i).x, SV.int .i64 (l.g i).y]) ∧ l.n ≤ (1000000 : Nat)) ∧ (((∀ (i : Nat), i < l.n → [SV.int .i64 (l.g i).x, SV.int .i64 (l.g i).y] =
 [SV.int .i64 (l.g i).x, SV.int .i64 (l.g i).y]) ∧ (∀ (i : Nat), (i < bif L.validOutline (L.Sq.mk l.n fun (i : Nat) ↦ l.g i) then l.n else (0 : Nat)) → [SV.int .i64 (L.bend (L.Sq.mk l.n fun (i : Nat) ↦ l.g i) i)] = [SV.int .i64 (L.bend (L.Sq.mk l.n fun (i : Nat) ↦ l.g i) i)]) ∧ (↑l.n : Int) = (↑l.n : Int) ∧ (↑l.n : Int) = (↑l.n : Int)
 ∧ (bif L.validOutline (L.Sq.mk l.n fun (i : Nat) ↦ l.g i) then l.n else (0 : Nat)) = l.n ∧ (∀ (i : Nat), i < l.n → L.bend (L.Sq.mk l.n fun (i : Nat) ↦ l.g i) i = L.bend (L.Sq.mk l.n fun (i : Nat) ↦ l.g i) i) ∧ (1 : Nat) ≤ l.n ∧ l.n ≤ (1000 : Nat) ∧ (0 : Int) ≤ (0 : Int) ∧ (0 : Int) ≤ (1000 : Int)) ∧ ∃ (t : Nat), (nat_lit 0 = (0 : Nat) ∧ ∀ (i : Nat), i < nat_lit 0 → [] = [SV.int
 .i64 (L.gaugeOf l i).edge.lo, SV.int .i64 (L.gaugeOf l i).edge.hi, SV.int .i64 (L.gaugeOf l i).across.lo, SV.int .i64 (L.gaugeOf l i).across.hi, SV.int .i64 (L.gaugeOf l i).bend]) ∧ (0 : Nat) ≤ l.n) ∧ (∀ (k t : Nat) (vk : Nat → Go.Value), k < l.n → k ≤ l.n → (k + nat_lit 1) * nat_lit 40 ≤ (140737488355328 : Nat) ∧ ∃ (t' :
 Nat), nat_lit 0 = nat_lit 0 ∧ (0 : Int) = (0 : Int) ∧ Value.slice Option.none (0 : Nat) (0 : Nat) = Value.slice Option.none (0 : Nat) (0 : Nat) ∧ (l.n = l.n ∧ ∀ (i : Nat), i < l.n → [SV.int .i64 (l.g i).x, SV.int .i64 (l.g i).y] = [SV.int .i64 (l.g i).x, SV.int .i64 (l.g i).y]) ∧ vk (nat_lit 4) = vk (nat_lit 4) ∧ vk (nat_lit 3)
 = vk (nat_lit 3) ∧ vk (nat_lit 2) = vk (nat_lit 2) ∧ vk (nat_lit 0) = vk (nat_lit 0) ∧ (k + nat_lit 1 = k + (1 : Nat) ∧ ∀ (i : Nat), i < k + nat_lit 1 → appGet k (fun (i : Nat) ↦ [SV.int .i64 (L.gaugeOf l i).edge.lo, SV.int .i64 (L.gaugeOf l i).edge.hi, SV.int .i64 (L.gaugeOf l i).across.lo, SV.int .i64 (L.gaugeOf l
 i).across.hi, SV.int .i64 (L.gaugeOf l i).bend]) (fun (x : Nat) ↦ [SV.int .i64 (L.meas (L.Sq.mk l.n fun (i : Nat) ↦ l.g i) (L.Setting.mk (0 : Int) false) k).edge, SV.int .i64 (L.meas (L.Sq.mk l.n fun (i : Nat) ↦ l.g i) (L.Setting.mk (0 : Int) false) k).edge, SV.int .i64 (L.meas (L.Sq.mk l.n fun (i : Nat) ↦ l.g i)
 (L.Setting.mk (0 : Int) false) k).across, SV.int .i64 (L.meas (L.Sq.mk l.n fun (i : Nat) ↦ l.g i) (L.Setting.mk (0 : Int) false) k).across, SV.int .i64 (L.meas (L.Sq.mk l.n fun (i : Nat) ↦ l.g i) (L.Setting.mk (0 : Int) false) k).bend]) i = [SV.int .i64 (L.gaugeOf l i).edge.lo, SV.int .i64 (L.gaugeOf l i).edge.hi,
 SV.int .i64 (L.gaugeOf l i).across.lo, SV.int .i64 (L.gaugeOf l i).across.hi, SV.int .i64 (L.gaugeOf l i).bend]) ∧ k + (1 : Nat) ≤ l.n) ∧ ∀ (t : Nat), l.n ≤ l.n → ((l.n = bif L.validOutline l then l.n else (0 : Nat)) ∧ ∀ (i : Nat), i < l.n → [SV.int .i64 (L.gaugeOf l i).edge.lo, SV.int .i64 (L.gaugeOf l i).edge.hi,
 SV.int .i64 (L.gaugeOf l i).across.lo, SV.int .i64 (L.gaugeOf l i).across.hi, SV.int .i64 (L.gaugeOf l i).bend] = [SV.int .i64 (L.gaugeOf l i).edge.lo, SV.int .i64 (L.gaugeOf l i).edge.hi, SV.int .i64 (L.gaugeOf l i).across.lo, SV.int .i64 (L.gaugeOf l i).across.hi, SV.int
 .i64 (L.gaugeOf l i).bend]) ∧ (0 : Int) = bif L.validOutline l then (0 : Int) else (1 : Int))) (by kernel_rfl) (by
    have hn : l.n ≤ 1000000 := hp
    refine ⟨⟨fun _ _ => rfl, hn⟩, fun h => ?_, fun h => ?_⟩
    · have hv : L.validOutline l = false := by simpa using (show (!L.validOutline l) = true from h)
      rw [hv]; exact ⟨rfl, rfl⟩
    · have hv : L.validOutline l = true := by simpa using (show (!L.validOutline l) = false from h)
      obtain ⟨n3, n24, hsm, hbd⟩ := validOutline_of hv
      refine ⟨⟨fun _ _ => rfl, hn⟩, ⟨⟨fun _ _ => rfl, fun _ _ => rfl, rfl, rfl, ?_, fun _ _ => rfl, by omega, by omega, by omega, by omega⟩, (0 : Nat), ⟨rfl, fun i hi => absurd hi (Nat.not_lt_zero _)⟩, Nat.zero_le _⟩, fun k t vk hk hi => ⟨show (k + 1) * 40 ≤ 140737488355328 by omega, t, rfl, rfl, rfl, ⟨rfl, fun _ _ => rfl⟩, rfl, rfl, rfl, rfl, ⟨rfl, fun i hi => ?_⟩, by omega⟩, fun t hi => ?_⟩
      · rw [show L.validOutline (L.Sq.mk l.n fun i => l.g i) = true from hv]; rfl
      · have hi : i < k + 1 := hi
        unfold appGet
        by_cases h' : i < k
        · rw [if_pos h']
        · rw [if_neg h']
          obtain rfl : i = k := by omega
          rfl
      · rw [hv]; exact ⟨⟨rfl, fun _ _ => rfl⟩, rfl⟩)
theorem g_Gauges_ok : SpecOk Tryz.prog 58 g_Gauges_S := fnX Tryz.func58 (c := bodyOf Tryz.f58) (by kernel_rfl) mixed (fun args p r hs hp => by
  unfold g_Gauges_s at hs
  split at hs
  · cases hs; exact ⟨_, _, g_Gauges_vc _ hp.2, (.p (.sl hp.1) .nil), ⟨show SpecsL Tryz.prog _ from (SpecsL.cons p_ValidOutline_ok p_ValidOutline_en (SpecsL.cons g_measures_ok g_measures_en SpecsL.nil)), rfl, ⟨show ItersL Tryz.prog _ from (ItersL.cons g_meas2_itok g_meas2_en ItersL.nil), (TrsOk.none (fun _ => rfl))⟩⟩⟩
  · cases hs)
theorem g_Gauges_en : Enters Tryz.prog 58 := fun args w => by kernel_rfl
def g_Held1_p (n : Int) : Prop := True
def g_Held1_r (n : Int) : SV := .bool (decide (n < 0))
def g_Held1_s : List EV → Option (Prop × SV)
  | [.p (.int .i64 n)] => some (g_Held1_p n, g_Held1_r n)
  | _ => none
abbrev g_Held1_S : SE.Spec := (specO g_Held1_s)
def g_Held1_C : Cfg := { muts := [], frz := lookN [], specs := lookS [], loops := lookL [], iters := lookI [], rfs := lookR [], nils := lookM [] }
theorem g_Held1_vc (n : Int) (hp : g_Held1_p n) : vc Tryz.prog (g_Held1_C) (bodyOf Tryz.f125) (st0 Tryz.f125 [.p (.int .i64 n)]) (retFn Tryz.prog Tryz.f125 (g_Held1_r n)) :=
  @Eq.mpr _ (decide (n < (0 : Int)) = decide (n < (0 : Int))) (by kernel_rfl) (by
    rfl)
theorem g_Held1_ok : SpecOk Tryz.prog 125 g_Held1_S := fnX Tryz.func125 (c := bodyOf Tryz.f125) (by kernel_rfl) mixed (fun args p r hs hp => by
  unfold g_Held1_s at hs
  split at hs
  · cases hs; exact ⟨_, _, g_Held1_vc _ hp, (.same _ .nil), ⟨show SpecsL Tryz.prog _ from SpecsL.nil, rfl, ⟨show ItersL Tryz.prog _ from ItersL.nil, (TrsOk.none (fun _ => rfl))⟩⟩⟩
  · cases hs)
theorem g_Held1_en : Enters Tryz.prog 125 := fun args w => by kernel_rfl
theorem g_Held1_B : ∀ args p r, g_Held1_s args = some (p, r) → ∃ b, r = .bool b := by
  intro args p r h
  unfold g_Held1_s at h
  split at h
  · cases h; exact ⟨_, rfl⟩
  · cases h
def g_Held2_p (n : Int) (sw : Int) : Prop := -1000 ≤ sw ∧ sw ≤ 1000
def g_Held2_r (n : Int) (sw : Int) : SV := .bool (decide (n < 0 - sw))
def g_Held2_s : List EV → Option (Prop × SV)
  | [.p (.int .i64 n), .p (.ref [.int .i64 sw] 0)] => some (g_Held2_p n sw, g_Held2_r n sw)
  | _ => none
abbrev g_Held2_S : SE.Spec := (specO g_Held2_s)
def g_Held2_C : Cfg := { muts := [], frz := lookN [], specs := lookS [], loops := lookL [], iters := lookI [], rfs := lookR [], nils := lookM [] }
theorem g_Held2_vc (n : Int) (sw : Int) (hp : g_Held2_p n sw) : vc Tryz.prog (g_Held2_C) (bodyOf Tryz.f126) (st0 Tryz.f126 [.p (.int .i64 n), .p (.ref [.int .i64 sw] 0)]) (retFn Tryz.prog Tryz.f126 (g_Held2_r n sw)) :=
  @Eq.mpr _ (InK .i64 ((0 : Int) - sw) ∧ decide (n < (0 : Int) - sw) = decide (n < (0 : Int) - sw)) (by kernel_rfl) (by
    obtain ⟨h1, h2⟩ := hp
    exact ⟨InK.of (by omega) (by omega), rfl⟩)
theorem g_Held2_ok : SpecOk Tryz.prog 126 g_Held2_S := fnX Tryz.func126 (c := bodyOf Tryz.f126) (by kernel_rfl) mixed (fun args p r hs hp => by
  unfold g_Held2_s at hs
  split at hs
  · cases hs; exact ⟨_, _, g_Held2_vc _ _ hp, (.same _ (.same _ .nil)), ⟨show SpecsL Tryz.prog _ from SpecsL.nil, rfl, ⟨show ItersL Tryz.prog _ from ItersL.nil, (TrsOk.none (fun _ => rfl))⟩⟩⟩
  · cases hs)
theorem g_Held2_en : Enters Tryz.prog 126 := fun args w => by kernel_rfl
theorem g_Held2_B : ∀ args p r, g_Held2_s args = some (p, r) → ∃ b, r = .bool b := by
  intro args p r h
  unfold g_Held2_s at h
  split at h
  · cases h; exact ⟨_, rfl⟩
  · cases h
def g_Held_p (sw : Int) (fl : (L.Sq Int)) : Prop := fl.n ≤ 1000000
def g_Held_r (sw : Int) (fl : (L.Sq Int)) : SV := .tup [.bool (bif L.heldBad sw fl then false else L.held sw fl), .int .i64 (bif L.heldBad sw fl then 1 else 0)]
def g_Held_s : List EV → Option (Prop × SV)
  | [.p (.int .i64 sw), .p (.sl 1 fl_n fl_g)] => some ((∀ i, i < fl_n → fl_g i = [.int .i64 ((intOf (fl_g i)))]) ∧ g_Held_p sw (⟨fl_n, fun i => intOf (fl_g i)⟩ : (L.Sq Int)), g_Held_r sw (⟨fl_n, fun i => intOf (fl_g i)⟩ : (L.Sq Int)))
  | _ => none
abbrev g_Held_S : SE.Spec := (specO g_Held_s)
def g_Held_C : Cfg := { muts := [], frz := lookN [], specs := lookS [(105, g_within_S), (124, s_conFI_S), (125, g_Held1_S), (126, g_Held2_S)], loops := lookL [], iters := lookI [], rfs := lookR [], nils := lookM [] }
theorem g_Held_vc (sw : Int) (fl : (L.Sq Int)) (hp : g_Held_p sw fl) : vc Tryz.prog (g_Held_C) (bodyOf Tryz.f60) (st0 Tryz.f60 [.p (.int .i64 sw), .p (.sl 1 fl.n (fun i => [.int .i64 ((fl.g i))]))]) (retFn Tryz.prog Tryz.f60 (g_Held_r sw fl)) :=
  @Eq.mpr _ (True ∧ ((!bif !L.within sw (-64 : Int) (64 : Int) then true else decide ((400 : Int) < (↑fl.n : Int))) = true → (∀ (i : Nat), i < fl.n → [SV.int .i64 (fl.g i)] = [SV.int .i64 (fl.g i)]) ∧ isB (FSpec.mk (fun («as» : List SV) ↦ preO g_Held1_s (List.map EV.p «as» ++ List.map EV.p [])) fun («as» : List SV) ↦
 resO g_Held1_s (List.map EV.p «as» ++ List.map EV.p [])) ∧ fl.n ≤ (1000000 : Nat) ∧ ∀ (i : Nat), i < fl.n → True) ∧ ((bif bif !L.within sw (-64 : Int) (64 : Int) then true else decide ((400 : Int) < (↑fl.n : Int)) then true else L.anyB fl.n fun (i : Nat) ↦ L.fbl (FSpec.mk (fun («as» : List SV) ↦ preO g_Held1_s (List.map EV.p «as» ++
 List.map EV.p [])) fun («as» : List SV) ↦ resO g_Held1_s (List.map EV.p «as» ++ List.map EV.p [])) [SV.int .i64 (fl.g i)]) = true → (false = bif L.heldBad sw fl then false else L.held sw fl) ∧ (1 : Int) = bif L.heldBad sw fl then (1 : Int) else (0 : Int)) ∧ ((bif bif !L.within sw (-64 : Int) (64 : Int) then true else
 decide ((400 : Int) < (↑fl.n : Int)) then true else L.anyB fl.n fun (i : Nat) ↦ L.fbl (FSpec.mk (fun («as» : List SV) ↦ preO g_Held1_s (List.map EV.p «as» ++ List.map EV.p [])) fun («as» : List SV) ↦ resO g_Held1_s (List.map EV.p «as» ++ List.map EV.p [])) [SV.int .i64 (fl.g i)]) = false → ((∀ (i : Nat), i <
 fl.n → [SV.int .i64 (fl.g i)] = [SV.int .i64 (fl.g i)]) ∧ isB (FSpec.mk (fun («as» : List SV) ↦ preO g_Held2_s (List.map EV.p «as» ++ List.map EV.p [SV.ref [SV.int .i64 sw] (nat_lit 0)])) fun («as» : List SV) ↦ resO g_Held2_s (List.map EV.p «as» ++ List.map EV.p [SV.ref
 [SV.int .i64 sw] (nat_lit 0)])) ∧ fl.n ≤ (1000000 : Nat) ∧ ∀ (i : Nat), i < fl.n → (-1000 : Int) ≤ sw ∧ sw ≤ (1000 : Int)) ∧ ((!L.anyB fl.n fun (i : Nat) ↦ L.fbl (FSpec.mk (fun («as» : List SV) ↦ preO g_Held2_s (List.map EV.p «as» ++ List.map EV.p [SV.ref [SV.int .i64 sw] (nat_lit 0)])) fun («as» : List SV) ↦ resO
 g_Held2_s (List.map EV.p «as» ++ List.map EV.p [SV.ref [SV.int .i64 sw] (nat_lit 0)])) [SV.int .i64 (fl.g i)]) = bif L.heldBad sw fl then false else L.held sw fl) ∧ (0 : Int) = bif L.heldBad sw fl then (1 : Int) else (0 : Int))) (by kernel_rfl) (by
    have hn : fl.n ≤ 1000000 := hp
    refine ⟨trivial, fun _ => ⟨fun _ _ => rfl, isB_of g_Held1_B _, hn, fun _ _ => trivial⟩, fun h => ?_, fun h => ?_⟩
    · have h : L.heldBad sw fl = true := h
      rw [h]; exact ⟨rfl, rfl⟩
    · have h : L.heldBad sw fl = false := h
      cases hw : L.within sw (-64) 64 with
      | false => simp [L.heldBad, hw] at h
      | true =>
        have hw := within_iff.1 hw
        rw [h]; exact ⟨⟨fun _ _ => rfl, isB_of g_Held2_B _, hn, fun _ _ => by omega⟩, rfl, rfl⟩)
theorem g_Held_ok : SpecOk Tryz.prog 60 g_Held_S := fnX Tryz.func60 (c := bodyOf Tryz.f60) (by kernel_rfl) mixed (fun args p r hs hp => by
  unfold g_Held_s at hs
  split at hs
  · cases hs; exact ⟨_, _, g_Held_vc _ _ hp.2, (.same _ (.p (.sl hp.1) .nil)), ⟨show SpecsL Tryz.prog _ from (SpecsL.cons g_within_ok g_within_en (SpecsL.cons s_conFI_ok s_conFI_en (SpecsL.cons g_Held1_ok g_Held1_en (SpecsL.cons g_Held2_ok g_Held2_en SpecsL.nil)))), rfl, ⟨show ItersL Tryz.prog _ from ItersL.nil, (TrsOk.none (fun _ => rfl))⟩⟩⟩
  · cases hs)
theorem g_Held_en : Enters Tryz.prog 60 := fun args w => by kernel_rfl
end Go.Proofs.YtooapgllahonaaaGreat

namespace Go.Proofs.YtooapgllahonaaaGreat
open Go.SE Go.RowKit
set_option maxRecDepth 100000
set_option maxHeartbeats 4000000
set_option linter.unusedVariables false
attribute [local irreducible] vc

def L.cmpMark (a b : L.Mark) : Int := L.or2 (L.or2 (L.cmp a.edge b.edge) (L.cmp a.place b.place)) (L.cmp a.tone b.tone)
def L.rise (n : Nat) (f : Nat → Int) : Bool := L.allB n (fun i => !(bif decide (0 < (i : Int)) then decide (0 ≤ f i) else false))
def L.badMark (l : L.Sq L.Mark) (m : L.Mark) : Bool := bif (bif !decide (m.edge = (l.g 0).edge) then true else !L.within m.place 0 16) then true else !L.within m.tone 1 16
def L.oneEdge (l : L.Sq L.Mark) : Bool := bif (bif decide ((l.n : Int) ≤ 32) then L.rise l.n (fun i => L.cmpMark (l.g (i - 1)) (l.g i)) else false) then !L.anyB l.n (fun i => L.badMark l (l.g i)) else false
def g_cmpMarks_p (a : L.Mark) (b : L.Mark) : Prop := True
def g_cmpMarks_r (a : L.Mark) (b : L.Mark) : SV := .int .i64 (L.cmpMark a b)
def g_cmpMarks_s : List EV → Option (Prop × SV)
  | [.p (.agg [.int .i64 a_edge, .int .i64 a_place, .int .i64 a_tone]), .p (.agg [.int .i64 b_edge, .int .i64 b_place, .int .i64 b_tone])] => some (g_cmpMarks_p (⟨a_edge, a_place, a_tone⟩ : L.Mark) (⟨b_edge, b_place, b_tone⟩ : L.Mark), g_cmpMarks_r (⟨a_edge, a_place, a_tone⟩ : L.Mark) (⟨b_edge, b_place, b_tone⟩ : L.Mark))
  | _ => none
abbrev g_cmpMarks_S : SE.Spec := (specO g_cmpMarks_s)
def g_cmpMarks_C : Cfg := { muts := [], frz := lookN [], specs := lookS [(94, c_cmp_S), (116, c_or_S)], loops := lookL [], iters := lookI [], rfs := lookR [], nils := lookM [] }
theorem g_cmpMarks_vc (a : L.Mark) (b : L.Mark) (hp : g_cmpMarks_p a b) : vc Tryz.prog (g_cmpMarks_C) (bodyOf Tryz.f129) (st0 Tryz.f129 [.p (.agg [.int .i64 a.edge, .int .i64 a.place, .int .i64 a.tone]), .p (.agg [.int .i64 b.edge, .int .i64 b.place, .int .i64 b.tone])]) (retFn Tryz.prog Tryz.f129 (g_cmpMarks_r a b)) :=
  @Eq.mpr _ (True ∧ True ∧ True ∧ ((∀ (i : Nat), i < nat_lit 3 → rowsOf [SV.int .i64 (L.cmp a.edge b.edge), SV.int .i64 (L.cmp a.place b.place), SV.int .i64 (L.cmp a.tone b.tone)] (nat_lit 1) i = [SV.int .i64 (intOf (rowsOf [SV.int .i64 (L.cmp a.edge b.edge), SV.int .i64 (L.cmp a.place b.place),
 SV.int .i64 (L.cmp a.tone b.tone)] (nat_lit 1) i))]) ∧ nat_lit 3 ≤ (1000000 : Nat)) ∧ L.firstNZ (fun (i : Nat) ↦ intOf (rowsOf [SV.int .i64 (L.cmp a.edge b.edge), SV.int .i64 (L.cmp a.place b.place), SV.int .i64 (L.cmp a.tone b.tone)] (nat_lit 1) i)) (3 : Nat) = L.cmpMark a b) (by kernel_rfl) (by
    exact ⟨trivial, trivial, trivial, ⟨fun i hi => by match i, hi with | 0, _ => rfl | 1, _ => rfl | 2, _ => rfl, by decide⟩, rfl⟩)
theorem g_cmpMarks_ok : SpecOk Tryz.prog 129 g_cmpMarks_S := fnX Tryz.func129 (c := bodyOf Tryz.f129) (by kernel_rfl) mixed (fun args p r hs hp => by
  unfold g_cmpMarks_s at hs
  split at hs
  · cases hs; exact ⟨_, _, g_cmpMarks_vc _ _ hp, (.same _ (.same _ .nil)), ⟨show SpecsL Tryz.prog _ from (SpecsL.cons c_cmp_ok c_cmp_en (SpecsL.cons c_or_ok c_or_en SpecsL.nil)), rfl, ⟨show ItersL Tryz.prog _ from ItersL.nil, (TrsOk.none (fun _ => rfl))⟩⟩⟩
  · cases hs)
theorem g_cmpMarks_en : Enters Tryz.prog 129 := fun args w => by kernel_rfl
theorem g_cmpMarks_I : ∀ args p r, g_cmpMarks_s args = some (p, r) → ∃ n, r = .int .i64 n := by
  intro args p r h
  unfold g_cmpMarks_s at h
  split at h
  · cases h; exact ⟨_, rfl⟩
  · cases h
def g_risingM_p (l : (L.Sq L.Mark)) (p : FSpec) : Prop := l.n ≤ 1000000 ∧ ∀ i, i + 1 < l.n → p.pre [(.agg [.int .i64 ((l.g i).edge), .int .i64 ((l.g i).place), .int .i64 ((l.g i).tone)]), (.agg [.int .i64 ((l.g (i + 1)).edge), .int .i64 ((l.g (i + 1)).place), .int .i64 ((l.g (i + 1)).tone)])]
def g_risingM_r (l : (L.Sq L.Mark)) (p : FSpec) : SV := .bool (L.rise l.n (fun i => L.fil p [(.agg [.int .i64 ((l.g (i - 1)).edge), .int .i64 ((l.g (i - 1)).place), .int .i64 ((l.g (i - 1)).tone)]), (.agg [.int .i64 ((l.g i).edge), .int .i64 ((l.g i).place), .int .i64 ((l.g i).tone)])]))
def g_risingM_s : List EV → Option (Prop × SV)
  | [.p (.sl 3 l_n l_g), .fn p] => some ((∀ i, i < l_n → l_g i = [.int .i64 ((ofMark (l_g i)).edge), .int .i64 ((ofMark (l_g i)).place), .int .i64 ((ofMark (l_g i)).tone)]) ∧ isI p ∧ g_risingM_p (⟨l_n, fun i => ofMark (l_g i)⟩ : (L.Sq L.Mark)) p, g_risingM_r (⟨l_n, fun i => ofMark (l_g i)⟩ : (L.Sq L.Mark)) p)
  | _ => none
abbrev g_risingM_S : SE.Spec := (specO g_risingM_s)
def g_risingM_C : Cfg := { muts := [], frz := lookN [], specs := lookS [], loops := fun _ => none, iters := lookI [], rfs := lookR [], nils := lookM [] }
theorem g_risingM_vc (l : (L.Sq L.Mark)) (p : FSpec) (hp : g_risingM_p l p) : vc Tryz.prog ({ g_risingM_C with loops := lookL [(2, { T := Nat, keep := [0, 1, 6, 7], keepO := [], chg := fun i => [(8, .p (.int .i64 (i : Int)))], own := fun _ => [], inv := fun i => i ≤ l.n ∧ ∀ j, j < i → (!(bif decide (0 < (j : Int)) then decide (0 ≤ L.fil p [(.agg [.int .i64 ((l.g (j - 1)).edge), .int .i64 ((l.g (j - 1)).place), .int .i64 ((l.g (j - 1)).tone)]), (.agg [.int .i64 ((l.g j).edge), .int .i64 ((l.g j).place), .int .i64 ((l.g j).tone)])]) else false)) = true, mu := fun i => l.n - i })], rfs := lookR [] }) (bodyOf Tryz.f163) (st0 Tryz.f163 [.p (.sl 3 l.n (fun i => [.int .i64 ((l.g i).edge), .int .i64 ((l.g i).place), .int .i64 ((l.g i).tone)])), .fn ⟨p.pre, fun xs => .int .i64 (L.fil p xs)⟩]) (retFn Tryz.prog Tryz.f163 (g_risingM_r l p)) :=
  @Eq.mpr _ ((∃ (g : Nat), (0 : Int) = (↑g : Int) ∧ g ≤ l.n ∧ ∀ (j : Nat), j < g → (!bif decide ((0 : Int) < (↑j : Int)) then decide ((0 : Int) ≤ L.fil p [SV.agg [SV.int .i64 (l.g (j - (1 : Nat))).edge, SV.int .i64 (l.g (j - (1 : Nat))).place, SV.int .i64 (l.g (j - (1 : Nat))).tone], SV.agg [SV.int .i64 (l.g
 j).edge, SV.int .i64 (l.g j).place, SV.int .i64 (l.g j).tone]]) else false) = true) ∧ ∀ (g : Nat), (g ≤ l.n ∧ ∀ (j : Nat), j < g → (!bif decide ((0 : Int) < (↑j : Int)) then decide ((0 : Int) ≤ L.fil p [SV.agg [SV.int .i64 (l.g (j - (1 : Nat))).edge, SV.int .i64 (l.g (j - (1 : Nat))).place,
 SV.int .i64 (l.g (j - (1 : Nat))).tone], SV.agg [SV.int .i64 (l.g j).edge, SV.int .i64 (l.g j).place, SV.int .i64 (l.g j).tone]]) else false) = true) → (decide ((↑g : Int) < (↑l.n : Int)) = true → (decide ((0 : Int) < (↑g : Int)) = true → InK .i64 ((↑g : Int) - (1 : Int)))
 ∧ (decide ((0 : Int) < (↑g : Int)) = true → (0 : Int) ≤ (↑g : Int) - (1 : Int) ∧ (↑g : Int) - (1 : Int) < (↑l.n : Int)) ∧ (decide ((0 : Int) < (↑g : Int)) = true → (0 : Int) ≤ (↑g : Int) ∧ (↑g : Int) < (↑l.n : Int)) ∧ (decide ((0 : Int) < (↑g : Int)) = true → p.1 [SV.agg [SV.int .i64 (l.g (Int.toNat ((↑g : Int) - (1 : Int)))).edge,
 SV.int .i64 (l.g (Int.toNat ((↑g : Int) - (1 : Int)))).place, SV.int .i64 (l.g (Int.toNat ((↑g : Int) - (1 : Int)))).tone], SV.agg [SV.int .i64 (l.g (Int.toNat (↑g : Int))).edge, SV.int .i64 (l.g (Int.toNat (↑g : Int))).place, SV.int .i64 (l.g (Int.toNat (↑g : Int))).tone]]) ∧ ((bif decide ((0 : Int) <
 (↑g : Int)) then decide ((0 : Int) ≤ L.fil p [SV.agg [SV.int .i64 (l.g (Int.toNat ((↑g : Int) - (1 : Int)))).edge, SV.int .i64 (l.g (Int.toNat ((↑g : Int) - (1 : Int)))).place, SV.int .i64 (l.g (Int.toNat ((↑g : Int) - (1 : Int)))).tone], SV.agg [SV.int .i64 (l.g (Int.toNat (↑g : Int))).edge, SV.int
 .i64 (l.g (Int.toNat (↑g : Int))).place, SV.int .i64 (l.g (Int.toNat (↑g : Int))).tone]]) else false) = true → false = L.rise l.n fun (i : Nat) ↦ L.fil p [SV.agg [SV.int .i64 (l.g (i - (1 : Nat))).edge, SV.int .i64 (l.g (i - (1 : Nat))).place, SV.int .i64 (l.g (i - (1 : Nat))).tone], SV.agg
 [SV.int .i64 (l.g i).edge, SV.int .i64 (l.g i).place, SV.int .i64 (l.g i).tone]]) ∧ ((bif decide ((0 : Int) < (↑g : Int)) then decide ((0 : Int) ≤ L.fil p [SV.agg [SV.int .i64 (l.g (Int.toNat ((↑g : Int) - (1 : Int)))).edge, SV.int .i64 (l.g (Int.toNat ((↑g : Int) - (1 : Int)))).place,
 SV.int .i64 (l.g (Int.toNat ((↑g : Int) - (1 : Int)))).tone], SV.agg [SV.int .i64 (l.g (Int.toNat (↑g : Int))).edge, SV.int .i64 (l.g (Int.toNat (↑g : Int))).place, SV.int .i64 (l.g (Int.toNat (↑g : Int))).tone]]) else false) = false → InK .i64 ((↑g : Int) + (1 : Int)) ∧ ∃ (g' : Nat), (↑g : Int) + (1 :
 Int) = (↑g' : Int) ∧ (↑l.n : Int) = (↑l.n : Int) ∧ (l.n = l.n ∧ ∀ (i : Nat), i < l.n → [SV.int .i64 (l.g i).edge, SV.int .i64 (l.g i).place, SV.int .i64 (l.g i).tone] = [SV.int .i64 (l.g i).edge, SV.int .i64 (l.g i).place, SV.int .i64 (l.g i).tone]) ∧ (l.n = l.n ∧ ∀ (i : Nat), i < l.n → [SV.int
 .i64 (l.g i).edge, SV.int .i64 (l.g i).place, SV.int .i64 (l.g i).tone] = [SV.int .i64 (l.g i).edge, SV.int .i64 (l.g i).place, SV.int .i64 (l.g i).tone]) ∧ ((FSpec.mk p.pre fun (xs : List SV) ↦ SV.int .i64 (L.fil p xs)) = FSpec.mk p.pre fun (xs : List SV) ↦
 SV.int .i64 (L.fil p xs)) ∧ (g' ≤ l.n ∧ ∀ (j : Nat), j < g' → (!bif decide ((0 : Int) < (↑j : Int)) then decide ((0 : Int) ≤ L.fil p [SV.agg [SV.int .i64 (l.g (j - (1 : Nat))).edge, SV.int .i64 (l.g (j - (1 : Nat))).place, SV.int .i64 (l.g (j - (1 : Nat))).tone], SV.agg [SV.int .i64 (l.g
 j).edge, SV.int .i64 (l.g j).place, SV.int .i64 (l.g j).tone]]) else false) = true) ∧ l.n - g' < l.n - g)) ∧ (decide ((↑g : Int) < (↑l.n : Int)) = false → true = L.rise l.n fun (i : Nat) ↦ L.fil p [SV.agg [SV.int .i64 (l.g (i - (1 : Nat))).edge, SV.int .i64 (l.g (i - (1 : Nat))).place, SV.int
 .i64 (l.g (i - (1 : Nat))).tone], SV.agg [SV.int .i64 (l.g i).edge, SV.int .i64 (l.g i).place, SV.int .i64 (l.g i).tone]])) (by kernel_rfl) (by
    obtain ⟨hn, hpre⟩ := hp
    refine ⟨⟨(0 : Nat), rfl, Nat.zero_le _, fun j hj => absurd hj (Nat.not_lt_zero _)⟩, fun g hg => ⟨fun hlt => ?_, fun hge => ?_⟩⟩
    · have hb : (g : Int) < (l.n : Int) := by simpa using hlt
      have e0 : ((g : Int)).toNat = g := by omega
      have e1 : ((g : Int) - 1).toNat = g - 1 := by omega
      rw [e0, e1]
      refine ⟨fun _ => InK.of (by omega) (by omega), fun h => by have := of_decide_eq_true h; omega, fun _ => by omega, fun h => ?_, fun h => ?_, fun h => ?_⟩
      · have h0 : (0 : Int) < g := of_decide_eq_true h
        have := hpre (g - 1) (by omega)
        rw [show g - 1 + 1 = g by omega] at this
        exact this
      · unfold L.rise
        rw [allB_false (i := g) (by omega) (by rw [h]; rfl)]
      · exact ⟨InK.of (by omega) (by omega), g + 1, by omega, rfl, ⟨rfl, fun _ _ => rfl⟩, ⟨rfl, fun _ _ => rfl⟩, rfl, ⟨by omega, fun j hj => by
          rcases Nat.lt_succ_iff_lt_or_eq.1 hj with h' | rfl
          · exact hg.2 j h'
          · rw [h]; rfl⟩, by omega⟩
    · have hb : ¬ (g : Int) < (l.n : Int) := by simpa using hge
      unfold L.rise
      rw [allB_iff.2 (fun i hi => hg.2 i (by omega))])
theorem g_risingM_ok : SpecOk Tryz.prog 163 g_risingM_S := fnX Tryz.func163 (c := bodyOf Tryz.f163) (by kernel_rfl) mixed (fun args p r hs hp => by
  unfold g_risingM_s at hs
  split at hs
  · cases hs; exact ⟨_, _, g_risingM_vc _ _ hp.2.2, (.p (.sl hp.1) (.fn (fun xs h => ⟨h, (fil_res hp.2.1 h).symm⟩) .nil)), ⟨show SpecsL Tryz.prog _ from SpecsL.nil, rfl, ⟨show ItersL Tryz.prog _ from ItersL.nil, (TrsOk.none (fun _ => rfl))⟩⟩⟩
  · cases hs)
theorem g_risingM_en : Enters Tryz.prog 163 := fun args w => by kernel_rfl
def g_oneEdge1_p (m : L.Mark) (l : (L.Sq L.Mark)) : Prop := 1 ≤ l.n
def g_oneEdge1_r (m : L.Mark) (l : (L.Sq L.Mark)) : SV := .bool (L.badMark l m)
def g_oneEdge1_s : List EV → Option (Prop × SV)
  | [.p (.agg [.int .i64 m_edge, .int .i64 m_place, .int .i64 m_tone]), .p (.ref [.sl 3 l_n l_g] 0)] => some ((∀ i, i < l_n → l_g i = [.int .i64 ((ofMark (l_g i)).edge), .int .i64 ((ofMark (l_g i)).place), .int .i64 ((ofMark (l_g i)).tone)]) ∧ g_oneEdge1_p (⟨m_edge, m_place, m_tone⟩ : L.Mark) (⟨l_n, fun i => ofMark (l_g i)⟩ : (L.Sq L.Mark)), g_oneEdge1_r (⟨m_edge, m_place, m_tone⟩ : L.Mark) (⟨l_n, fun i => ofMark (l_g i)⟩ : (L.Sq L.Mark)))
  | _ => none
abbrev g_oneEdge1_S : SE.Spec := (specO g_oneEdge1_s)
def g_oneEdge1_C : Cfg := { muts := [], frz := lookN [], specs := lookS [(105, g_within_S)], loops := lookL [], iters := lookI [], rfs := lookR [], nils := lookM [] }
theorem g_oneEdge1_vc (m : L.Mark) (l : (L.Sq L.Mark)) (hp : g_oneEdge1_p m l) : vc Tryz.prog (g_oneEdge1_C) (bodyOf Tryz.f174) (st0 Tryz.f174 [.p (.agg [.int .i64 m.edge, .int .i64 m.place, .int .i64 m.tone]), .p (.ref [.sl 3 l.n (fun i => [.int .i64 ((l.g i).edge), .int .i64 ((l.g i).place), .int .i64 ((l.g i).tone)])] 0)]) (retFn Tryz.prog Tryz.f174 (g_oneEdge1_r m l)) :=
  @Eq.mpr _ (((0 : Int) ≤ (0 : Int) ∧ (0 : Int) < (↑l.n : Int)) ∧ ((!!decide (m.edge = (l.g (Int.toNat (0 : Int))).edge)) = true → True) ∧ ((!bif !decide (m.edge = (l.g (Int.toNat (0 : Int))).edge) then true else !L.within m.place (0 : Int) (16 : Int)) = true → True) ∧ (bif bif !decide (m.edge = (l.g (Int.toNat (0 : Int))).edge) then true else !L.within m.place
 (0 : Int) (16 : Int) then true else !L.within m.tone (1 : Int) (16 : Int)) = L.badMark l m) (by kernel_rfl) (by
    have h1 : 1 ≤ l.n := hp
    exact ⟨by omega, fun _ => trivial, fun _ => trivial, rfl⟩)
theorem g_oneEdge1_ok : SpecOk Tryz.prog 174 g_oneEdge1_S := fnX Tryz.func174 (c := bodyOf Tryz.f174) (by kernel_rfl) mixed (fun args p r hs hp => by
  unfold g_oneEdge1_s at hs
  split at hs
  · cases hs; exact ⟨_, _, g_oneEdge1_vc _ _ hp.2, (.same _ (.p (Ext.ref rfl (fun i hi => by
      rcases i with _ | i
      · show Ext (SV.sl _ _ _) (SV.sl _ _ _); exact (Ext.sl hp.1)
      exact absurd hi (by simp; try omega))) .nil)), ⟨show SpecsL Tryz.prog _ from (SpecsL.cons g_within_ok g_within_en SpecsL.nil), rfl, ⟨show ItersL Tryz.prog _ from ItersL.nil, (TrsOk.none (fun _ => rfl))⟩⟩⟩
  · cases hs)
theorem g_oneEdge1_en : Enters Tryz.prog 174 := fun args w => by kernel_rfl
theorem g_oneEdge1_B : ∀ args p r, g_oneEdge1_s args = some (p, r) → ∃ b, r = .bool b := by
  intro args p r h
  unfold g_oneEdge1_s at h
  split at h
  · cases h; exact ⟨_, rfl⟩
  · cases h
def g_oneEdge_p (l : (L.Sq L.Mark)) : Prop := l.n ≤ 1000000
def g_oneEdge_r (l : (L.Sq L.Mark)) : SV := .bool (L.oneEdge l)
def g_oneEdge_s : List EV → Option (Prop × SV)
  | [.p (.sl 3 l_n l_g)] => some ((∀ i, i < l_n → l_g i = [.int .i64 ((ofMark (l_g i)).edge), .int .i64 ((ofMark (l_g i)).place), .int .i64 ((ofMark (l_g i)).tone)]) ∧ g_oneEdge_p (⟨l_n, fun i => ofMark (l_g i)⟩ : (L.Sq L.Mark)), g_oneEdge_r (⟨l_n, fun i => ofMark (l_g i)⟩ : (L.Sq L.Mark)))
  | _ => none
abbrev g_oneEdge_S : SE.Spec := (specO g_oneEdge_s)
def g_oneEdge_C : Cfg := { muts := [], frz := lookN [], specs := lookS [(163, g_risingM_S), (129, g_cmpMarks_S), (164, s_conFM_S), (174, g_oneEdge1_S)], loops := lookL [], iters := lookI [], rfs := lookR [], nils := lookM [] }
theorem g_oneEdge_vc (l : (L.Sq L.Mark)) (hp : g_oneEdge_p l) : vc Tryz.prog (g_oneEdge_C) (bodyOf Tryz.f119) (st0 Tryz.f119 [.p (.sl 3 l.n (fun i => [.int .i64 ((l.g i).edge), .int .i64 ((l.g i).place), .int .i64 ((l.g i).tone)]))]) (retFn Tryz.prog Tryz.f119 (g_oneEdge_r l)) :=
  @Eq.mpr _ ((decide ((↑l.n : Int) ≤ (32 : Int)) = true → (∀ (i : Nat), i < l.n → [SV.int .i64 (l.g i).edge, SV.int .i64 (l.g i).place, SV.int .i64 (l.g i).tone] = [SV.int .i64 (l.g i).edge, SV.int .i64 (l.g i).place, SV.int .i64 (l.g i).tone]) ∧ isI (FSpec.mk (fun («as» : List SV) ↦
 preO g_cmpMarks_s (List.map EV.p «as» ++ List.map EV.p [])) fun («as» : List SV) ↦ resO g_cmpMarks_s (List.map EV.p «as» ++ List.map EV.p [])) ∧ l.n ≤ (1000000 : Nat) ∧ ∀ (i : Nat), i + (1 : Nat) < l.n → True) ∧ ((bif decide ((↑l.n : Int) ≤ (32 : Int)) then L.rise l.n fun (i : Nat) ↦ L.fil (FSpec.mk (fun («as» : List SV) ↦ preO
 g_cmpMarks_s (List.map EV.p «as» ++ List.map EV.p [])) fun («as» : List SV) ↦ resO g_cmpMarks_s (List.map EV.p «as» ++ List.map EV.p [])) [SV.agg [SV.int .i64 (l.g (i - (1 : Nat))).edge, SV.int .i64 (l.g (i - (1 : Nat))).place, SV.int .i64 (l.g (i - (1 : Nat))).tone], SV.agg [SV.int .i64
 (l.g i).edge, SV.int .i64 (l.g i).place, SV.int .i64 (l.g i).tone]] else false) = true → (∀ (i : Nat), i < l.n → [SV.int .i64 (l.g i).edge, SV.int .i64 (l.g i).place, SV.int .i64 (l.g i).tone] = [SV.int .i64 (l.g i).edge, SV.int .i64 (l.g i).place, SV.int .i64
 (l.g i).tone]) ∧ isB (FSpec.mk (fun («as» : List SV) ↦ preO g_oneEdge1_s (List.map EV.p «as» ++ List.map EV.p [SV.ref [SV.sl (nat_lit 3) l.n fun (i : Nat) ↦ [SV.int .i64 (l.g i).edge, SV.int .i64 (l.g i).place, SV.int .i64 (l.g i).tone]] (nat_lit 0)])) fun («as» : List SV) ↦ resO
 g_oneEdge1_s (List.map EV.p «as» ++ List.map EV.p [SV.ref [SV.sl (nat_lit 3) l.n fun (i : Nat) ↦ [SV.int .i64 (l.g i).edge, SV.int .i64 (l.g i).place, SV.int .i64 (l.g i).tone]] (nat_lit 0)])) ∧ l.n ≤ (1000000 : Nat) ∧ ∀ (i : Nat), i < l.n → (∀ (i : Nat), i < l.n → [SV.int .i64 (l.g i).edge, SV.int
 .i64 (l.g i).place, SV.int .i64 (l.g i).tone] = [SV.int .i64 (l.g i).edge, SV.int .i64 (l.g i).place, SV.int .i64 (l.g i).tone]) ∧ (1 : Nat) ≤ l.n) ∧ (bif bif decide ((↑l.n : Int) ≤ (32 : Int)) then L.rise l.n fun (i : Nat) ↦ L.fil (FSpec.mk (fun («as» : List SV) ↦ preO g_cmpMarks_s (List.map
 EV.p «as» ++ List.map EV.p [])) fun («as» : List SV) ↦ resO g_cmpMarks_s (List.map EV.p «as» ++ List.map EV.p [])) [SV.agg [SV.int .i64 (l.g (i - (1 : Nat))).edge, SV.int .i64 (l.g (i - (1 : Nat))).place, SV.int .i64 (l.g (i - (1 : Nat))).tone], SV.agg [SV.int .i64 (l.g i).edge,
 SV.int .i64 (l.g i).place, SV.int .i64 (l.g i).tone]] else false then !L.anyB l.n fun (i : Nat) ↦ L.fbl (FSpec.mk (fun («as» : List SV) ↦ preO g_oneEdge1_s (List.map EV.p «as» ++ List.map EV.p [SV.ref [SV.sl (nat_lit 3) l.n fun (i : Nat) ↦ [SV.int .i64 (l.g i).edge, SV.int .i64 (l.g
 i).place, SV.int .i64 (l.g i).tone]] (nat_lit 0)])) fun («as» : List SV) ↦ resO g_oneEdge1_s (List.map EV.p «as» ++ List.map EV.p [SV.ref [SV.sl (nat_lit 3) l.n fun (i : Nat) ↦ [SV.int .i64 (l.g i).edge, SV.int .i64 (l.g i).place, SV.int .i64 (l.g i).tone]] (nat_lit 0)])) [SV.agg [SV.int
 .i64 (l.g i).edge, SV.int .i64 (l.g i).place, SV.int .i64 (l.g i).tone]] else false) = L.oneEdge l) (by kernel_rfl) (by
    exact ⟨fun _ => ⟨fun _ _ => rfl, isI_of g_cmpMarks_I _, hp, fun _ _ => trivial⟩, fun _ => ⟨fun _ _ => rfl, isB_of g_oneEdge1_B _, hp, fun i hi => ⟨fun _ _ => rfl, Nat.lt_of_le_of_lt (Nat.zero_le _) hi⟩⟩, rfl⟩)
theorem g_oneEdge_ok : SpecOk Tryz.prog 119 g_oneEdge_S := fnX Tryz.func119 (c := bodyOf Tryz.f119) (by kernel_rfl) mixed (fun args p r hs hp => by
  unfold g_oneEdge_s at hs
  split at hs
  · cases hs; exact ⟨_, _, g_oneEdge_vc _ hp.2, (.p (.sl hp.1) .nil), ⟨show SpecsL Tryz.prog _ from (SpecsL.cons g_risingM_ok g_risingM_en (SpecsL.cons g_cmpMarks_ok g_cmpMarks_en (SpecsL.cons s_conFM_ok s_conFM_en (SpecsL.cons g_oneEdge1_ok g_oneEdge1_en SpecsL.nil)))), rfl, ⟨show ItersL Tryz.prog _ from ItersL.nil, (TrsOk.none (fun _ => rfl))⟩⟩⟩
  · cases hs)
theorem g_oneEdge_en : Enters Tryz.prog 119 := fun args w => by kernel_rfl
end Go.Proofs.YtooapgllahonaaaGreat
