/- A symbolic walk over the model, and what it shows of functions of the program: parts of the proof that the text of the row joins. -/
import Derived.Test.YtooapgllahonaaaGreatW1
import Derived.Test.YtooapgllahonaaaGreatE3
import Derived.KernelRfl
import Derived.Test.YtooapgllahonaaaGreatW2

namespace Go.Proofs.YtooapgllahonaaaGreat
open Go.SE Go.RowKit
set_option maxRecDepth 100000
set_option maxHeartbeats 4000000
set_option linter.unusedVariables false
attribute [local irreducible] Go.SE.vc

def L.sett (k : Nat) : L.Setting := ⟨Int.tdiv (k : Int) 2, decide (Int.tmod (k : Int) 2 = 1)⟩
def L.validSet (s : L.Setting) (n : Int) : Bool := bif L.within n 3 24 then L.within s.shift 0 (n - 1) else false
theorem sett_lt {k n : Nat} (h : k < 2 * n) : 0 ≤ (L.sett k).shift ∧ (L.sett k).shift < (n : Int) := by
  unfold L.sett
  dsimp only
  rw [Int.tdiv_eq_ediv_of_nonneg (by omega)]
  omega
theorem validSet_iff {s : L.Setting} {n : Int} : L.validSet s n = true ↔ (3 ≤ n ∧ n ≤ 24) ∧ 0 ≤ s.shift ∧ s.shift < n := by
  unfold L.validSet
  rw [band, Bool.and_eq_true, within_iff, within_iff]
  omega
def L.sameS (a b : L.Setting) : Bool := decide (a.shift = b.shift) && (a.back == b.back)
def L.sameSs (a b : L.Sq L.Setting) : Bool := bif decide ((a.n : Int) = b.n) then L.allB a.n (fun i => L.sameS (a.g i) (b.g i)) else false
theorem sett_even (g : Nat) : L.sett (2 * g) = ⟨(g : Int), false⟩ := by
  unfold L.sett
  rw [Int.tdiv_eq_ediv_of_nonneg (by omega), Int.tmod_eq_emod_of_nonneg (by omega), decide_eq_false (by omega), show ((2 * g : Nat) : Int) / 2 = (g : Int) by omega]
theorem sett_odd (g : Nat) : L.sett (2 * g + 1) = ⟨(g : Int), true⟩ := by
  unfold L.sett
  rw [Int.tdiv_eq_ediv_of_nonneg (by omega), Int.tmod_eq_emod_of_nonneg (by omega), decide_eq_true (by omega), show ((2 * g + 1 : Nat) : Int) / 2 = (g : Int) by omega]
theorem sameS_refl (a : L.Setting) : L.sameS a a = true := by simp [L.sameS]
theorem sameSs_refl (a : L.Sq L.Setting) : L.sameSs a a = true := by
  unfold L.sameSs
  rw [decide_eq_true rfl, allB_iff.2 (fun i _ => sameS_refl (a.g i))]; rfl
def L.lay (s : L.Setting) (n i : Int) : Int := bif s.back then Int.tmod (s.shift + n - i) n else Int.tmod (s.shift + i) n
def L.compE (s t : L.Setting) (n : Int) : Int := bif (bif !L.validSet s n then true else !L.validSet t n) then 1 else 0
def L.comp (s t : L.Setting) (n : Int) : L.Setting := bif decide (L.compE s t n = 0) then ⟨L.lay t n s.shift, !(s.back == t.back)⟩ else ⟨0, false⟩
def L.inv (s : L.Setting) (n : Int) : L.Setting := bif L.validSet s n then (bif s.back then s else ⟨Int.tmod (n - s.shift) n, false⟩) else ⟨0, false⟩
def L.invE (s : L.Setting) (n : Int) : Int := bif L.validSet s n then 0 else 1
def L.edE (s : L.Setting) (n i : Int) : Int := bif (bif !L.validSet s n then true else !L.within i 0 (n - 1)) then 1 else 0
def L.ed (s : L.Setting) (n i : Int) : Int := bif decide (L.edE s n i = 0) then L.lay s n i else 0
def p_ValidSetting_p (s : L.Setting) (n : Int) : Prop := True
def p_ValidSetting_r (s : L.Setting) (n : Int) : SV := .bool (L.validSet s n)
def p_ValidSetting_s : List EV → Option (Prop × SV)
  | [.p (.agg [.int .i64 s_shift, .bool s_back]), .p (.int .i64 n)] => some (p_ValidSetting_p (⟨s_shift, s_back⟩ : L.Setting) n, p_ValidSetting_r (⟨s_shift, s_back⟩ : L.Setting) n)
  | _ => none
abbrev p_ValidSetting_S : SE.Spec := (specO p_ValidSetting_s)
def p_ValidSetting_C : Cfg := { muts := [], frz := lookN [], specs := lookS [(77, p_within_S)], loops := lookL [], iters := lookI [], rfs := lookR [], nils := lookM [] }
theorem p_ValidSetting_vc (s : L.Setting) (n : Int) (hp : p_ValidSetting_p s n) : vc Tryz.prog (p_ValidSetting_C) (bodyOf Tryz.f103) (st0 Tryz.f103 [.p (.agg [.int .i64 s.shift, .bool s.back]), .p (.int .i64 n)]) (retFn Tryz.prog Tryz.f103 (p_ValidSetting_r s n)) :=
  @Eq.mpr _ (True ∧ (L.within n (3 : Int) (24 : Int) = Bool.true → Go.SE.InK Go.IntKind.i64 (n - (1 : Int))) ∧ (L.within n (3 : Int) (24 : Int) = Bool.true → True) ∧ (bif L.within n (3 : Int) (24 : Int) then L.within s.shift (0 : Int) (n - (1 : Int)) else Bool.false) = L.validSet s n) (by kernel_rfl) (by
    exact ⟨trivial, fun h => (by have := within_iff.1 h; exact InK.of (by omega) (by omega)), fun _ => trivial, rfl⟩)
theorem p_ValidSetting_ok : SpecOk Tryz.prog 103 p_ValidSetting_S := fnX Tryz.func103 (c := bodyOf Tryz.f103) (by kernel_rfl) mixed (fun args p r hs hp => by
  unfold p_ValidSetting_s at hs
  split at hs
  · cases hs; exact ⟨_, _, p_ValidSetting_vc _ _ hp, (.same _ (.same _ .nil)), ⟨show SpecsL Tryz.prog _ from (SpecsL.cons p_within_ok p_within_en SpecsL.nil), rfl, ⟨show ItersL Tryz.prog _ from ItersL.nil, (TrsOk.none (fun _ => rfl))⟩⟩⟩
  · cases hs)
theorem p_ValidSetting_en : Enters Tryz.prog 103 := fun args w => by kernel_rfl
theorem p_ValidSetting_B : ∀ args p r, p_ValidSetting_s args = some (p, r) → ∃ b, r = .bool b := by
  intro args p r h
  unfold p_ValidSetting_s at h
  split at h
  · cases h; exact ⟨_, rfl⟩
  · cases h
def r1_ValidSetting_p (s : L.Setting) (n : Int) : Prop := True
def r1_ValidSetting_r (s : L.Setting) (n : Int) : SV := .bool (L.validSet s n)
def r1_ValidSetting_s : List EV → Option (Prop × SV)
  | [.p (.agg [.int .i64 s_shift, .bool s_back]), .p (.int .i64 n)] => some (r1_ValidSetting_p (⟨s_shift, s_back⟩ : L.Setting) n, r1_ValidSetting_r (⟨s_shift, s_back⟩ : L.Setting) n)
  | _ => none
abbrev r1_ValidSetting_S : SE.Spec := (specO r1_ValidSetting_s)
def r1_ValidSetting_C : Cfg := { muts := [], frz := lookN [], specs := lookS [], loops := lookL [], iters := lookI [], rfs := lookR [], nils := lookM [] }
theorem r1_ValidSetting_vc (s : L.Setting) (n : Int) (hp : r1_ValidSetting_p s n) : vc Tryz.prog (r1_ValidSetting_C) (bodyOf Tryz.f44) (st0 Tryz.f44 [.p (.agg [.int .i64 s.shift, .bool s.back]), .p (.int .i64 n)]) (retFn Tryz.prog Tryz.f44 (r1_ValidSetting_r s n)) :=
  @Eq.mpr _ ((bif bif bif Decidable.decide ((3 : Int) ≤ n) then Decidable.decide (n ≤ (24 : Int)) else Bool.false then Decidable.decide ((0 : Int) ≤ s.shift) else Bool.false then Decidable.decide (s.shift < n) else Bool.false) = L.validSet s n) (by kernel_rfl) (by
    rw [Bool.eq_iff_iff, validSet_iff, band, band, band, Bool.and_eq_true, Bool.and_eq_true, Bool.and_eq_true, decide_eq_true_eq, decide_eq_true_eq, decide_eq_true_eq, decide_eq_true_eq]
    omega)
theorem r1_ValidSetting_ok : SpecOk Tryz.prog 44 r1_ValidSetting_S := fnX Tryz.func44 (c := bodyOf Tryz.f44) (by kernel_rfl) mixed (fun args p r hs hp => by
  unfold r1_ValidSetting_s at hs
  split at hs
  · cases hs; exact ⟨_, _, r1_ValidSetting_vc _ _ hp, (.same _ (.same _ .nil)), ⟨show SpecsL Tryz.prog _ from SpecsL.nil, rfl, ⟨show ItersL Tryz.prog _ from ItersL.nil, (TrsOk.none (fun _ => rfl))⟩⟩⟩
  · cases hs)
theorem r1_ValidSetting_en : Enters Tryz.prog 44 := fun args w => by kernel_rfl
theorem r1_ValidSetting_B : ∀ args p r, r1_ValidSetting_s args = some (p, r) → ∃ b, r = .bool b := by
  intro args p r h
  unfold r1_ValidSetting_s at h
  split at h
  · cases h; exact ⟨_, rfl⟩
  · cases h
def r1_All_p (n : Int) : Prop := 0 ≤ n ∧ n ≤ 1000
def r1_All_q (n : Int) : Nat → Prop := fun _ => True
def r1_All_n (n : Int) : Nat → Nat := fun _ => (2 * n).toNat
def r1_All_g (n : Int) : Nat → Nat → List SV := fun _ i => [.int .i64 ((L.sett i).shift), .bool ((L.sett i).back)]
def r1_All_s : List EV → Option (Prop × (Nat → Prop) × (Nat → Nat) × (Nat → Nat → List SV))
  | [.p (.int .i64 n)] => some (r1_All_p n, r1_All_q n, r1_All_n n, r1_All_g n)
  | _ => none
abbrev r1_All_S : SE.Spec := (specF Nat 0 27 2 r1_All_s)
def r1_All_C : Cfg := { muts := [], frz := lookN [], specs := lookS [], loops := fun _ => none, iters := lookI [], rfs := lookR [], nils := lookM [(2, [(3, 20, 27, 2)])] }
theorem r1_All_vc (n : Int) (hp : r1_All_p n) : vc Tryz.prog ({ r1_All_C with loops := lookL [(3, { T := Nat, keep := [0, 3], keepO := [], chg := fun i => [(4, .p (.int .i64 (i : Int)))], own := fun i => [(20, .row 27 2 (2 * i) (fun k => [.int .i64 ((L.sett k).shift), .bool ((L.sett k).back)]))], inv := fun i => i ≤ n.toNat, mu := fun i => n.toNat - i })], rfs := lookR [] }) (bodyOf Tryz.f111) (st0 Tryz.f111 [.p (.int .i64 n)]) (retFresh Tryz.prog Tryz.f111 (Nat) (r1_All_q n) 27 2 (r1_All_n n) (r1_All_g n)) :=
  @Eq.mpr _ ((∃ (g : Nat), (0 : Int) = (↑g : Int) ∧ (nat_lit 0 = (2 : Nat) * g ∧ ∀ (i : Nat), i < nat_lit 0 → [] = [Go.SE.SV.int Go.IntKind.i64 (L.sett i).shift, Go.SE.SV.bool (L.sett i).back]) ∧ g ≤ Int.toNat n) ∧ ∀ (g : Nat), g ≤ Int.toNat n → (Decidable.decide ((↑g : Int) < n) = Bool.true → ((2 : Nat) * g + nat_lit 1) * nat_lit 16 ≤ (140737488355328 : Nat) ∧ ((2 : Nat) * g + nat_lit 1 + nat_lit 1) * nat_lit
 16 ≤ (140737488355328 : Nat) ∧ Go.SE.InK Go.IntKind.i64 ((↑g : Int) + (1 : Int)) ∧ ∃ (g' : Nat), (↑g : Int) + (1 : Int) = (↑g' : Int) ∧ n = n ∧ ((2 : Nat) * g + nat_lit 1 + nat_lit 1 = (2 : Nat) * g' ∧ ∀ (i : Nat), i < (2 : Nat) * g + nat_lit 1 + nat_lit 1 → Go.SE.appGet ((2 : Nat) * g + nat_lit 1) (Go.SE.appGet ((2 : Nat) * g) (fun (k : Nat) ↦ [Go.SE.SV.int Go.IntKind.i64 (L.sett k).shift,
 Go.SE.SV.bool (L.sett k).back]) fun (x : Nat) ↦ [Go.SE.SV.int Go.IntKind.i64 (↑g : Int), Go.SE.SV.bool Bool.false]) (fun (x : Nat) ↦ [Go.SE.SV.int Go.IntKind.i64 (↑g : Int), Go.SE.SV.bool Bool.true]) i = [Go.SE.SV.int Go.IntKind.i64 (L.sett i).shift, Go.SE.SV.bool (L.sett i).back]) ∧ g' ≤ Int.toNat n ∧ Int.toNat n - g' < Int.toNat n - g) ∧ (Decidable.decide ((↑g : Int) < n) = Bool.false → ∃ (t :
 Nat), ((2 : Nat) * g = Int.toNat ((2 : Int) * n) ∧ ∀ (i : Nat), i < (2 : Nat) * g → [Go.SE.SV.int Go.IntKind.i64 (L.sett i).shift, Go.SE.SV.bool (L.sett i).back] = [Go.SE.SV.int Go.IntKind.i64 (L.sett i).shift, Go.SE.SV.bool (L.sett i).back]) ∧ True)) (by kernel_rfl) (by
    obtain ⟨h0, h1⟩ := hp
    refine ⟨⟨(0 : Nat), rfl, ⟨rfl, fun i hi => absurd hi (Nat.not_lt_zero _)⟩, Nat.zero_le _⟩, fun g hg => ⟨fun hlt => ?_, fun hge => ?_⟩⟩
    · have hb : (g : Int) < n := of_decide_eq_true hlt
      refine ⟨show (2 * g + 1) * 16 ≤ 140737488355328 by omega, show (2 * g + 1 + 1) * 16 ≤ 140737488355328 by omega, InK.of (by omega) (by omega), g + 1, by omega, rfl, ⟨by show 2 * g + 1 + 1 = 2 * (g + 1); omega, fun i hi => ?_⟩, by omega, by omega⟩
      have hi : i < 2 * g + 1 + 1 := hi
      unfold appGet
      by_cases c1 : i < 2 * g + 1
      · rw [if_pos c1]
        by_cases c2 : i < 2 * g
        · rw [if_pos c2]
        · obtain rfl : i = 2 * g := by omega
          rw [if_neg c2, sett_even]
      · obtain rfl : i = 2 * g + 1 := by omega
        rw [if_neg c1, sett_odd]
    · have hb : ¬ (g : Int) < n := of_decide_eq_false hge
      exact ⟨(0 : Nat), ⟨by omega, fun _ _ => rfl⟩, trivial⟩)
theorem r1_All_ok : SpecOk Tryz.prog 111 r1_All_S := freshX Tryz.func111 (c := bodyOf Tryz.f111) (by kernel_rfl) mixed (fun args p q n g hs hp => by
  unfold r1_All_s at hs
  split at hs
  · cases hs; exact ⟨_, _, r1_All_vc _ hp, (.same _ .nil), ⟨show SpecsL Tryz.prog _ from SpecsL.nil, rfl, ⟨show ItersL Tryz.prog _ from ItersL.nil, (TrsOk.none (fun _ => rfl))⟩⟩⟩
  · cases hs)
theorem r1_All_en : Enters Tryz.prog 111 := fun args w => by kernel_rfl
def r1_SameSettings_p (a : (L.Sq L.Setting)) (b : (L.Sq L.Setting)) : Prop := a.n ≤ 1000000
def r1_SameSettings_r (a : (L.Sq L.Setting)) (b : (L.Sq L.Setting)) : SV := .bool (L.sameSs a b)
def r1_SameSettings_s : List EV → Option (Prop × SV)
  | [.p (.sl 2 a_n a_g), .p (.sl 2 b_n b_g)] => some ((∀ i, i < a_n → a_g i = [.int .i64 ((ofSetting (a_g i)).shift), .bool ((ofSetting (a_g i)).back)]) ∧ (∀ i, i < b_n → b_g i = [.int .i64 ((ofSetting (b_g i)).shift), .bool ((ofSetting (b_g i)).back)]) ∧ r1_SameSettings_p (⟨a_n, fun i => ofSetting (a_g i)⟩ : (L.Sq L.Setting)) (⟨b_n, fun i => ofSetting (b_g i)⟩ : (L.Sq L.Setting)), r1_SameSettings_r (⟨a_n, fun i => ofSetting (a_g i)⟩ : (L.Sq L.Setting)) (⟨b_n, fun i => ofSetting (b_g i)⟩ : (L.Sq L.Setting)))
  | _ => none
abbrev r1_SameSettings_S : SE.Spec := (specO r1_SameSettings_s)
def r1_SameSettings_C : Cfg := { muts := [], frz := lookN [], specs := lookS [], loops := fun _ => none, iters := lookI [], rfs := lookR [], nils := lookM [] }
theorem r1_SameSettings_vc (a : (L.Sq L.Setting)) (b : (L.Sq L.Setting)) (hp : r1_SameSettings_p a b) : vc Tryz.prog ({ r1_SameSettings_C with loops := lookL [(4, { T := Nat, keep := [0, 1], keepO := [], chg := fun i => [(5, .p (.int .i64 (i : Int)))], own := fun _ => [], inv := fun i => i ≤ a.n ∧ ∀ j, j < i → L.sameS (a.g j) (b.g j) = true, mu := fun i => a.n - i })], rfs := lookR [] }) (bodyOf Tryz.f53) (st0 Tryz.f53 [.p (.sl 2 a.n (fun i => [.int .i64 ((a.g i).shift), .bool ((a.g i).back)])), .p (.sl 2 b.n (fun i => [.int .i64 ((b.g i).shift), .bool ((b.g i).back)]))]) (retFn Tryz.prog Tryz.f53 (r1_SameSettings_r a b)) :=
  @Eq.mpr _ (((!Decidable.decide ((↑a.n : Int) = (↑b.n : Int))) = Bool.true → Bool.false = L.sameSs a b) ∧ ((!Decidable.decide ((↑a.n : Int) = (↑b.n : Int))) = Bool.false → (∃ (g : Nat), (0 : Int) = (↑g : Int) ∧ g ≤ a.n ∧ ∀ (j : Nat), j < g → L.sameS (a.g j) (b.g j) = Bool.true) ∧ ∀ (g : Nat), (g ≤ a.n ∧ ∀ (j : Nat), j < g → L.sameS (a.g j) (b.g j) = Bool.true) → (Decidable.decide ((↑g : Int) < (↑a.n : Int)) =
 Bool.true → ((0 : Int) ≤ (↑g : Int) ∧ (↑g : Int) < (↑a.n : Int)) ∧ ((0 : Int) ≤ (↑g : Int) ∧ (↑g : Int) < (↑b.n : Int)) ∧ ((!(Decidable.decide ((a.g (Int.toNat (↑g : Int))).shift = (b.g (Int.toNat (↑g : Int))).shift) && (a.g (Int.toNat (↑g : Int))).back == (b.g (Int.toNat (↑g : Int))).back)) = Bool.true → Bool.false = L.sameSs a b) ∧ ((!(Decidable.decide ((a.g (Int.toNat (↑g : Int))).shift = (b.g
 (Int.toNat (↑g : Int))).shift) && (a.g (Int.toNat (↑g : Int))).back == (b.g (Int.toNat (↑g : Int))).back)) = Bool.false → Go.SE.InK Go.IntKind.i64 ((↑g : Int) + (1 : Int)) ∧ ∃ (g' : Nat), (↑g : Int) + (1 : Int) = (↑g' : Int) ∧ (a.n = a.n ∧ ∀ (i : Nat), i < a.n → [Go.SE.SV.int Go.IntKind.i64 (a.g i).shift, Go.SE.SV.bool (a.g i).back] = [Go.SE.SV.int Go.IntKind.i64 (a.g i).shift, Go.SE.SV.bool (a.g
 i).back]) ∧ (b.n = b.n ∧ ∀ (i : Nat), i < b.n → [Go.SE.SV.int Go.IntKind.i64 (b.g i).shift, Go.SE.SV.bool (b.g i).back] = [Go.SE.SV.int Go.IntKind.i64 (b.g i).shift, Go.SE.SV.bool (b.g i).back]) ∧ (g' ≤ a.n ∧ ∀ (j : Nat), j < g' → L.sameS (a.g j) (b.g j) = Bool.true) ∧ a.n - g' < a.n - g)) ∧ (Decidable.decide ((↑g : Int) < (↑a.n : Int)) = Bool.false → Bool.true = L.sameSs a b))) (by kernel_rfl) (by
    have ha : a.n ≤ 1000000 := hp
    refine ⟨fun h => ?_, fun h => ?_⟩
    · unfold L.sameSs; rw [notT h]; rfl
    have hd := notF h
    have hn := of_decide_eq_true hd
    refine ⟨⟨(0 : Nat), rfl, Nat.zero_le _, fun j hj => absurd hj (Nat.not_lt_zero _)⟩, fun g hg => ⟨fun hlt => ?_, fun hge => ?_⟩⟩
    · have hb : (g : Int) < (a.n : Int) := of_decide_eq_true hlt
      have e0 : ((g : Int)).toNat = g := by omega
      rw [e0]
      refine ⟨by omega, by omega, fun h1 => ?_, fun h1 => ?_⟩
      · have h1 : L.sameS (a.g g) (b.g g) = false := notT h1
        unfold L.sameSs; rw [hd, allB_false (i := g) (by omega) h1]; rfl
      · have h1 : L.sameS (a.g g) (b.g g) = true := notF h1
        exact ⟨InK.of (by omega) (by omega), g + 1, by omega, ⟨rfl, fun _ _ => rfl⟩, ⟨rfl, fun _ _ => rfl⟩, ⟨by omega, fun j hj => by
          rcases Nat.lt_succ_iff_lt_or_eq.1 hj with h' | rfl
          · exact hg.2 j h'
          · exact h1⟩, by omega⟩
    · have hb : ¬ (g : Int) < (a.n : Int) := of_decide_eq_false hge
      unfold L.sameSs; rw [hd, allB_iff.2 (fun i hi => hg.2 i (by omega))]; rfl)
theorem r1_SameSettings_ok : SpecOk Tryz.prog 53 r1_SameSettings_S := fnX Tryz.func53 (c := bodyOf Tryz.f53) (by kernel_rfl) mixed (fun args p r hs hp => by
  unfold r1_SameSettings_s at hs
  split at hs
  · cases hs; exact ⟨_, _, r1_SameSettings_vc _ _ hp.2.2, (.p (.sl hp.1) (.p (.sl hp.2.1) .nil)), ⟨show SpecsL Tryz.prog _ from SpecsL.nil, rfl, ⟨show ItersL Tryz.prog _ from ItersL.nil, (TrsOk.none (fun _ => rfl))⟩⟩⟩
  · cases hs)
theorem r1_SameSettings_en : Enters Tryz.prog 53 := fun args w => by kernel_rfl
theorem r1_SameSettings_B : ∀ args p r, r1_SameSettings_s args = some (p, r) → ∃ b, r = .bool b := by
  intro args p r h
  unfold r1_SameSettings_s at h
  split at h
  · cases h; exact ⟨_, rfl⟩
  · cases h
def r1_Laid_p (s : L.Setting) (n : Int) (i : Int) : Prop := 1 ≤ n ∧ n ≤ 1000000 ∧ -1000000 ≤ s.shift ∧ s.shift ≤ 1000000 ∧ -1000000 ≤ i ∧ i ≤ 1000000
def r1_Laid_r (s : L.Setting) (n : Int) (i : Int) : SV := .int .i64 (L.lay s n i)
def r1_Laid_s : List EV → Option (Prop × SV)
  | [.p (.agg [.int .i64 s_shift, .bool s_back]), .p (.int .i64 n), .p (.int .i64 i)] => some (r1_Laid_p (⟨s_shift, s_back⟩ : L.Setting) n i, r1_Laid_r (⟨s_shift, s_back⟩ : L.Setting) n i)
  | _ => none
abbrev r1_Laid_S : SE.Spec := (specO r1_Laid_s)
def r1_Laid_C : Cfg := { muts := [], frz := lookN [], specs := lookS [], loops := lookL [], iters := lookI [], rfs := lookR [], nils := lookM [] }
theorem r1_Laid_vc (s : L.Setting) (n : Int) (i : Int) (hp : r1_Laid_p s n i) : vc Tryz.prog (r1_Laid_C) (bodyOf Tryz.f130) (st0 Tryz.f130 [.p (.agg [.int .i64 s.shift, .bool s.back]), .p (.int .i64 n), .p (.int .i64 i)]) (retFn Tryz.prog Tryz.f130 (r1_Laid_r s n i)) :=
  @Eq.mpr _ ((s.back = Bool.true → Go.SE.InK Go.IntKind.i64 (s.shift + n) ∧ Go.SE.InK Go.IntKind.i64 (s.shift + n - i) ∧ n ≠ (0 : Int) ∧ Int.tmod (s.shift + n - i) n = L.lay s n i) ∧ (s.back = Bool.false → Go.SE.InK Go.IntKind.i64 (s.shift + i) ∧ n ≠ (0 : Int) ∧ Int.tmod (s.shift + i) n = L.lay s n i)) (by kernel_rfl) (by
    obtain ⟨h1, h2, h3, h4, h5, h6⟩ := hp
    refine ⟨fun h => ⟨InK.of (by omega) (by omega), InK.of (by omega) (by omega), by omega, ?_⟩, fun h => ⟨InK.of (by omega) (by omega), by omega, ?_⟩⟩
    · unfold L.lay; rw [h]; rfl
    · unfold L.lay; rw [h]; rfl)
theorem r1_Laid_ok : SpecOk Tryz.prog 130 r1_Laid_S := fnX Tryz.func130 (c := bodyOf Tryz.f130) (by kernel_rfl) mixed (fun args p r hs hp => by
  unfold r1_Laid_s at hs
  split at hs
  · cases hs; exact ⟨_, _, r1_Laid_vc _ _ _ hp, (.same _ (.same _ (.same _ .nil))), ⟨show SpecsL Tryz.prog _ from SpecsL.nil, rfl, ⟨show ItersL Tryz.prog _ from ItersL.nil, (TrsOk.none (fun _ => rfl))⟩⟩⟩
  · cases hs)
theorem r1_Laid_en : Enters Tryz.prog 130 := fun args w => by kernel_rfl
theorem r1_Laid_I : ∀ args p r, r1_Laid_s args = some (p, r) → ∃ n, r = .int .i64 n := by
  intro args p r h
  unfold r1_Laid_s at h
  split at h
  · cases h; exact ⟨_, rfl⟩
  · cases h
def p_lay_p (s : L.Setting) (n : Int) (i : Int) : Prop := 1 ≤ n ∧ n ≤ 1000000 ∧ -1000000 ≤ s.shift ∧ s.shift ≤ 1000000 ∧ -1000000 ≤ i ∧ i ≤ 1000000
def p_lay_r (s : L.Setting) (n : Int) (i : Int) : SV := .int .i64 (L.lay s n i)
def p_lay_s : List EV → Option (Prop × SV)
  | [.p (.agg [.int .i64 s_shift, .bool s_back]), .p (.int .i64 n), .p (.int .i64 i)] => some (p_lay_p (⟨s_shift, s_back⟩ : L.Setting) n i, p_lay_r (⟨s_shift, s_back⟩ : L.Setting) n i)
  | _ => none
abbrev p_lay_S : SE.Spec := (specO p_lay_s)
def p_lay_C : Cfg := { muts := [], frz := lookN [], specs := lookS [], loops := lookL [], iters := lookI [], rfs := lookR [], nils := lookM [] }
theorem p_lay_vc (s : L.Setting) (n : Int) (i : Int) (hp : p_lay_p s n i) : vc Tryz.prog (p_lay_C) (bodyOf Tryz.f104) (st0 Tryz.f104 [.p (.agg [.int .i64 s.shift, .bool s.back]), .p (.int .i64 n), .p (.int .i64 i)]) (retFn Tryz.prog Tryz.f104 (p_lay_r s n i)) :=
  @Eq.mpr _ ((s.back = Bool.true → Go.SE.InK Go.IntKind.i64 (s.shift + n) ∧ Go.SE.InK Go.IntKind.i64 (s.shift + n - i) ∧ n ≠ (0 : Int) ∧ Int.tmod (s.shift + n - i) n = L.lay s n i) ∧ (s.back = Bool.false → Go.SE.InK Go.IntKind.i64 (s.shift + i) ∧ n ≠ (0 : Int) ∧ Int.tmod (s.shift + i) n = L.lay s n i)) (by kernel_rfl) (by
    obtain ⟨h1, h2, h3, h4, h5, h6⟩ := hp
    refine ⟨fun h => ⟨InK.of (by omega) (by omega), InK.of (by omega) (by omega), by omega, ?_⟩, fun h => ⟨InK.of (by omega) (by omega), by omega, ?_⟩⟩
    · unfold L.lay; rw [h]; rfl
    · unfold L.lay; rw [h]; rfl)
theorem p_lay_ok : SpecOk Tryz.prog 104 p_lay_S := fnX Tryz.func104 (c := bodyOf Tryz.f104) (by kernel_rfl) mixed (fun args p r hs hp => by
  unfold p_lay_s at hs
  split at hs
  · cases hs; exact ⟨_, _, p_lay_vc _ _ _ hp, (.same _ (.same _ (.same _ .nil))), ⟨show SpecsL Tryz.prog _ from SpecsL.nil, rfl, ⟨show ItersL Tryz.prog _ from ItersL.nil, (TrsOk.none (fun _ => rfl))⟩⟩⟩
  · cases hs)
theorem p_lay_en : Enters Tryz.prog 104 := fun args w => by kernel_rfl
theorem p_lay_I : ∀ args p r, p_lay_s args = some (p, r) → ∃ n, r = .int .i64 n := by
  intro args p r h
  unfold p_lay_s at h
  split at h
  · cases h; exact ⟨_, rfl⟩
  · cases h
def p_Compose_p (s : L.Setting) (t : L.Setting) (n : Int) : Prop := True
def p_Compose_r (s : L.Setting) (t : L.Setting) (n : Int) : SV := .tup [(.agg [.int .i64 ((L.comp s t n).shift), .bool ((L.comp s t n).back)]), .int .i64 (L.compE s t n)]
def p_Compose_s : List EV → Option (Prop × SV)
  | [.p (.agg [.int .i64 s_shift, .bool s_back]), .p (.agg [.int .i64 t_shift, .bool t_back]), .p (.int .i64 n)] => some (p_Compose_p (⟨s_shift, s_back⟩ : L.Setting) (⟨t_shift, t_back⟩ : L.Setting) n, p_Compose_r (⟨s_shift, s_back⟩ : L.Setting) (⟨t_shift, t_back⟩ : L.Setting) n)
  | _ => none
abbrev p_Compose_S : SE.Spec := (specO p_Compose_s)
def p_Compose_C : Cfg := { muts := [6], frz := lookN [], specs := lookS [(103, p_ValidSetting_S), (104, p_lay_S)], loops := lookL [], iters := lookI [], rfs := lookR [], nils := lookM [] }
theorem p_Compose_vc (s : L.Setting) (t : L.Setting) (n : Int) (hp : p_Compose_p s t n) : vc Tryz.prog (p_Compose_C) (bodyOf Tryz.f45) (st0 Tryz.f45 [.p (.agg [.int .i64 s.shift, .bool s.back]), .p (.agg [.int .i64 t.shift, .bool t.back]), .p (.int .i64 n)]) (retFn Tryz.prog Tryz.f45 (p_Compose_r s t n)) :=
  @Eq.mpr _ (True ∧ ((!!L.validSet s n) = Bool.true → True) ∧ ((bif !L.validSet s n then Bool.true else !L.validSet t n) = Bool.true → Go.SE.SV.agg [Go.SE.SV.int Go.IntKind.i64 (0 : Int), Go.SE.SV.bool Bool.false] = Go.SE.SV.agg [Go.SE.SV.int Go.IntKind.i64 (L.comp s t n).shift, Go.SE.SV.bool (L.comp s t n).back] ∧ (1 : Int) = L.compE s t n) ∧ ((bif !L.validSet s n then Bool.true else !L.validSet t n) =
 Bool.false → ((1 : Int) ≤ n ∧ n ≤ (1000000 : Int) ∧ (-1000000 : Int) ≤ t.shift ∧ t.shift ≤ (1000000 : Int) ∧ (-1000000 : Int) ≤ s.shift ∧ s.shift ≤ (1000000 : Int)) ∧ Go.SE.SV.agg [Go.SE.SV.int Go.IntKind.i64 (L.lay t n s.shift), Go.SE.SV.bool !s.back == t.back] = Go.SE.SV.agg [Go.SE.SV.int Go.IntKind.i64 (L.comp s t n).shift, Go.SE.SV.bool (L.comp s t n).back] ∧ (0 : Int) = L.compE s t n)) (by kernel_rfl) (by
    refine ⟨trivial, fun _ => trivial, fun h => ?_, fun h => ?_⟩
    · have e : L.compE s t n = 1 := by unfold L.compE; rw [h]; rfl
      unfold L.comp; rw [e]; exact ⟨rfl, rfl⟩
    · have e : L.compE s t n = 0 := by unfold L.compE; rw [h]; rfl
      rw [bor, Bool.or_eq_false_iff] at h
      have a := validSet_iff.1 (notF h.1)
      have b := validSet_iff.1 (notF h.2)
      refine ⟨⟨by omega, by omega, by omega, by omega, by omega, by omega⟩, ?_, e.symm⟩
      unfold L.comp; rw [e]; rfl)
theorem p_Compose_ok : SpecOk Tryz.prog 45 p_Compose_S := fnX Tryz.func45 (c := bodyOf Tryz.f45) (by kernel_rfl) mixed (fun args p r hs hp => by
  unfold p_Compose_s at hs
  split at hs
  · cases hs; exact ⟨_, _, p_Compose_vc _ _ _ hp, (.same _ (.same _ (.same _ .nil))), ⟨show SpecsL Tryz.prog _ from (SpecsL.cons p_ValidSetting_ok p_ValidSetting_en (SpecsL.cons p_lay_ok p_lay_en SpecsL.nil)), rfl, ⟨show ItersL Tryz.prog _ from ItersL.nil, (TrsOk.none (fun _ => rfl))⟩⟩⟩
  · cases hs)
theorem p_Compose_en : Enters Tryz.prog 45 := fun args w => by kernel_rfl
def p_Inverse_p (s : L.Setting) (n : Int) : Prop := True
def p_Inverse_r (s : L.Setting) (n : Int) : SV := .tup [(.agg [.int .i64 ((L.inv s n).shift), .bool ((L.inv s n).back)]), .int .i64 (L.invE s n)]
def p_Inverse_s : List EV → Option (Prop × SV)
  | [.p (.agg [.int .i64 s_shift, .bool s_back]), .p (.int .i64 n)] => some (p_Inverse_p (⟨s_shift, s_back⟩ : L.Setting) n, p_Inverse_r (⟨s_shift, s_back⟩ : L.Setting) n)
  | _ => none
abbrev p_Inverse_S : SE.Spec := (specO p_Inverse_s)
def p_Inverse_C : Cfg := { muts := [4], frz := lookN [], specs := lookS [(103, p_ValidSetting_S)], loops := lookL [], iters := lookI [], rfs := lookR [], nils := lookM [] }
theorem p_Inverse_vc (s : L.Setting) (n : Int) (hp : p_Inverse_p s n) : vc Tryz.prog (p_Inverse_C) (bodyOf Tryz.f46) (st0 Tryz.f46 [.p (.agg [.int .i64 s.shift, .bool s.back]), .p (.int .i64 n)]) (retFn Tryz.prog Tryz.f46 (p_Inverse_r s n)) :=
  @Eq.mpr _ (True ∧ ((!L.validSet s n) = Bool.true → Go.SE.SV.agg [Go.SE.SV.int Go.IntKind.i64 (0 : Int), Go.SE.SV.bool Bool.false] = Go.SE.SV.agg [Go.SE.SV.int Go.IntKind.i64 (L.inv s n).shift, Go.SE.SV.bool (L.inv s n).back] ∧ (1 : Int) = L.invE s n) ∧ ((!L.validSet s n) = Bool.false → (s.back = Bool.true → Go.SE.SV.agg [Go.SE.SV.int Go.IntKind.i64 s.shift, Go.SE.SV.bool s.back] = Go.SE.SV.agg [Go.SE.SV.int
 Go.IntKind.i64 (L.inv s n).shift, Go.SE.SV.bool (L.inv s n).back] ∧ (0 : Int) = L.invE s n) ∧ (s.back = Bool.false → Go.SE.InK Go.IntKind.i64 (n - s.shift) ∧ n ≠ (0 : Int) ∧ Go.SE.SV.agg [Go.SE.SV.int Go.IntKind.i64 (Int.tmod (n - s.shift) n), Go.SE.SV.bool Bool.false] = Go.SE.SV.agg [Go.SE.SV.int Go.IntKind.i64 (L.inv s n).shift, Go.SE.SV.bool (L.inv s n).back] ∧ (0 : Int) = L.invE s n))) (by kernel_rfl) (by
    refine ⟨trivial, fun h => ?_, fun h => ⟨fun hb => ?_, fun hb => ?_⟩⟩
    · have hv : L.validSet s n = false := notT h
      unfold L.inv L.invE; rw [hv]; exact ⟨rfl, rfl⟩
    · have hv : L.validSet s n = true := notF h
      unfold L.inv L.invE; rw [hv, hb, cond_true, cond_true, hb]; exact ⟨rfl, rfl⟩
    · have hv : L.validSet s n = true := notF h
      have hs := validSet_iff.1 hv
      unfold L.inv L.invE; rw [hv, hb]; exact ⟨InK.of (by omega) (by omega), by omega, rfl, rfl⟩)
theorem p_Inverse_ok : SpecOk Tryz.prog 46 p_Inverse_S := fnX Tryz.func46 (c := bodyOf Tryz.f46) (by kernel_rfl) mixed (fun args p r hs hp => by
  unfold p_Inverse_s at hs
  split at hs
  · cases hs; exact ⟨_, _, p_Inverse_vc _ _ hp, (.same _ (.same _ .nil)), ⟨show SpecsL Tryz.prog _ from (SpecsL.cons p_ValidSetting_ok p_ValidSetting_en SpecsL.nil), rfl, ⟨show ItersL Tryz.prog _ from ItersL.nil, (TrsOk.none (fun _ => rfl))⟩⟩⟩
  · cases hs)
theorem p_Inverse_en : Enters Tryz.prog 46 := fun args w => by kernel_rfl
def p_Edge_p (s : L.Setting) (n : Int) (i : Int) : Prop := True
def p_Edge_r (s : L.Setting) (n : Int) (i : Int) : SV := .tup [.int .i64 (L.ed s n i), .int .i64 (L.edE s n i)]
def p_Edge_s : List EV → Option (Prop × SV)
  | [.p (.agg [.int .i64 s_shift, .bool s_back]), .p (.int .i64 n), .p (.int .i64 i)] => some (p_Edge_p (⟨s_shift, s_back⟩ : L.Setting) n i, p_Edge_r (⟨s_shift, s_back⟩ : L.Setting) n i)
  | _ => none
abbrev p_Edge_S : SE.Spec := (specO p_Edge_s)
def p_Edge_C : Cfg := { muts := [], frz := lookN [], specs := lookS [(103, p_ValidSetting_S), (77, p_within_S), (104, p_lay_S)], loops := lookL [], iters := lookI [], rfs := lookR [], nils := lookM [] }
theorem p_Edge_vc (s : L.Setting) (n : Int) (i : Int) (hp : p_Edge_p s n i) : vc Tryz.prog (p_Edge_C) (bodyOf Tryz.f127) (st0 Tryz.f127 [.p (.agg [.int .i64 s.shift, .bool s.back]), .p (.int .i64 n), .p (.int .i64 i)]) (retFn Tryz.prog Tryz.f127 (p_Edge_r s n i)) :=
  @Eq.mpr _ (True ∧ ((!!L.validSet s n) = Bool.true → Go.SE.InK Go.IntKind.i64 (n - (1 : Int))) ∧ ((!!L.validSet s n) = Bool.true → True) ∧ ((bif !L.validSet s n then Bool.true else !L.within i (0 : Int) (n - (1 : Int))) = Bool.true → (0 : Int) = L.ed s n i ∧ (1 : Int) = L.edE s n i) ∧ ((bif !L.validSet s n then Bool.true else !L.within i (0 : Int) (n - (1 : Int))) = Bool.false → ((1 : Int) ≤ n ∧ n ≤ (1000000
 : Int) ∧ (-1000000 : Int) ≤ s.shift ∧ s.shift ≤ (1000000 : Int) ∧ (-1000000 : Int) ≤ i ∧ i ≤ (1000000 : Int)) ∧ L.lay s n i = L.ed s n i ∧ (0 : Int) = L.edE s n i)) (by kernel_rfl) (by
    refine ⟨trivial, fun h => ?_, fun _ => trivial, fun h => ?_, fun h => ?_⟩
    · have hv : L.validSet s n = true := by simpa using (show (!!L.validSet s n) = true from h)
      have hs := validSet_iff.1 hv
      exact InK.of (by omega) (by omega)
    · have e : L.edE s n i = 1 := by unfold L.edE; rw [h]; rfl
      unfold L.ed; rw [e]; exact ⟨rfl, rfl⟩
    · have e : L.edE s n i = 0 := by unfold L.edE; rw [h]; rfl
      rw [bor, Bool.or_eq_false_iff] at h
      have hs := validSet_iff.1 (notF h.1)
      have hi := within_iff.1 (notF h.2)
      unfold L.ed; rw [e]; exact ⟨⟨by omega, by omega, by omega, by omega, by omega, by omega⟩, rfl, rfl⟩)
theorem p_Edge_ok : SpecOk Tryz.prog 127 p_Edge_S := fnX Tryz.func127 (c := bodyOf Tryz.f127) (by kernel_rfl) mixed (fun args p r hs hp => by
  unfold p_Edge_s at hs
  split at hs
  · cases hs; exact ⟨_, _, p_Edge_vc _ _ _ hp, (.same _ (.same _ (.same _ .nil))), ⟨show SpecsL Tryz.prog _ from (SpecsL.cons p_ValidSetting_ok p_ValidSetting_en (SpecsL.cons p_within_ok p_within_en (SpecsL.cons p_lay_ok p_lay_en SpecsL.nil))), rfl, ⟨show ItersL Tryz.prog _ from ItersL.nil, (TrsOk.none (fun _ => rfl))⟩⟩⟩
  · cases hs)
theorem p_Edge_en : Enters Tryz.prog 127 := fun args w => by kernel_rfl
end Go.Proofs.YtooapgllahonaaaGreat

namespace Go.Proofs.YtooapgllahonaaaGreat
open Go.SE Go.RowKit
set_option maxRecDepth 100000
set_option maxHeartbeats 4000000
set_option linter.unusedVariables false
attribute [local irreducible] Go.SE.vc

def L.sameM (a b : L.Mark) : Bool := decide (a.edge = b.edge) && (decide (a.place = b.place) && decide (a.tone = b.tone))
def L.sameMs (a b : L.Sq L.Mark) : Bool := bif decide ((a.n : Int) = b.n) then L.allB a.n (fun i => L.sameM (a.g i) (b.g i)) else false
def L.sameG (a b : L.Gauge) : Bool := (decide (a.edge.lo = b.edge.lo) && decide (a.edge.hi = b.edge.hi)) && ((decide (a.across.lo = b.across.lo) && decide (a.across.hi = b.across.hi)) && decide (a.bend = b.bend))
def L.sameGs (a b : L.Sq L.Gauge) : Bool := bif decide ((a.n : Int) = b.n) then L.allB a.n (fun i => L.sameG (a.g i) (b.g i)) else false
theorem sameM_refl (a : L.Mark) : L.sameM a a = true := by simp [L.sameM]
theorem sameMs_refl (a : L.Sq L.Mark) : L.sameMs a a = true := by
  unfold L.sameMs
  rw [decide_eq_true rfl, allB_iff.2 (fun i _ => sameM_refl (a.g i))]; rfl
theorem sameG_refl (a : L.Gauge) : L.sameG a a = true := by simp [L.sameG]
theorem sameGs_refl (a : L.Sq L.Gauge) : L.sameGs a a = true := by
  unfold L.sameGs
  rw [decide_eq_true rfl, allB_iff.2 (fun i _ => sameG_refl (a.g i))]; rfl
def s_cloneM_p (l : (L.Sq L.Mark)) : Prop := l.n ≤ 1000000
def s_cloneM_q (l : (L.Sq L.Mark)) : Nat → Prop := fun _ => True
def s_cloneM_n (l : (L.Sq L.Mark)) : Nat → Nat := fun _ => l.n
def s_cloneM_g (l : (L.Sq L.Mark)) : Nat → Nat → List SV := fun _ i => [.int .i64 ((l.g i).edge), .int .i64 ((l.g i).place), .int .i64 ((l.g i).tone)]
def s_cloneM_s : List EV → Option (Prop × (Nat → Prop) × (Nat → Nat) × (Nat → Nat → List SV))
  | [.p (.sl 3 l_n l_g)] => some ((∀ i, i < l_n → l_g i = [.int .i64 ((ofMark (l_g i)).edge), .int .i64 ((ofMark (l_g i)).place), .int .i64 ((ofMark (l_g i)).tone)]) ∧ s_cloneM_p (⟨l_n, fun i => ofMark (l_g i)⟩ : (L.Sq L.Mark)), s_cloneM_q (⟨l_n, fun i => ofMark (l_g i)⟩ : (L.Sq L.Mark)), s_cloneM_n (⟨l_n, fun i => ofMark (l_g i)⟩ : (L.Sq L.Mark)), s_cloneM_g (⟨l_n, fun i => ofMark (l_g i)⟩ : (L.Sq L.Mark)))
  | _ => none
abbrev s_cloneM_S : SE.Spec := (specF Nat 0 87 3 s_cloneM_s)
def s_cloneM_C : Cfg := { muts := [5], frz := lookN [], specs := lookS [], loops := lookL [], iters := lookI [], rfs := lookR [], nils := lookM [] }
theorem s_cloneM_vc (l : (L.Sq L.Mark)) (hp : s_cloneM_p l) : vc Tryz.prog (s_cloneM_C) (bodyOf Tryz.f114) (st0 Tryz.f114 [.p (.sl 3 l.n (fun i => [.int .i64 ((l.g i).edge), .int .i64 ((l.g i).place), .int .i64 ((l.g i).tone)]))]) (retFresh Tryz.prog Tryz.f114 (Nat) (s_cloneM_q l) 87 3 (s_cloneM_n l) (s_cloneM_g l)) :=
  @Eq.mpr _ (∀ (b : Bool), (b = !Bool.false → l.n = (0 : Nat)) → (b = Bool.true → ∃ (t : Nat), l.n = (0 : Nat) ∧ True) ∧ (b = Bool.false → (nat_lit 0 + l.n) * nat_lit 24 ≤ (140737488355328 : Nat) ∧ ∃ (t : Nat), (nat_lit 0 + l.n = l.n ∧ ∀ (i : Nat), i < nat_lit 0 + l.n → Go.SE.appGet (nat_lit 0) (Go.SE.rowsOf [] (nat_lit 3)) (fun (i : Nat) ↦ [Go.SE.SV.int Go.IntKind.i64 (l.g i).edge, Go.SE.SV.int Go.IntKind.i64
 (l.g i).place, Go.SE.SV.int Go.IntKind.i64 (l.g i).tone]) i = [Go.SE.SV.int Go.IntKind.i64 (l.g i).edge, Go.SE.SV.int Go.IntKind.i64 (l.g i).place, Go.SE.SV.int Go.IntKind.i64 (l.g i).tone]) ∧ True)) (by kernel_rfl) (by
    have hn : l.n ≤ 1000000 := hp
    refine fun b hb => ⟨fun h => ⟨(0 : Nat), hb h, trivial⟩, fun h => ⟨show (0 + l.n) * 24 ≤ 140737488355328 by omega, (0 : Nat), ⟨Nat.zero_add _, fun i hi => ?_⟩, trivial⟩⟩
    unfold appGet; rw [if_neg (Nat.not_lt_zero _)]; rfl)
theorem s_cloneM_ok : SpecOk Tryz.prog 114 s_cloneM_S := freshX Tryz.func114 (c := bodyOf Tryz.f114) (by kernel_rfl) mixed (fun args p q n g hs hp => by
  unfold s_cloneM_s at hs
  split at hs
  · cases hs; exact ⟨_, _, s_cloneM_vc _ hp.2, (.p (.sl hp.1) .nil), ⟨show SpecsL Tryz.prog _ from SpecsL.nil, rfl, ⟨show ItersL Tryz.prog _ from ItersL.nil, (TrsOk.none (fun _ => rfl))⟩⟩⟩
  · cases hs)
theorem s_cloneM_en : Enters Tryz.prog 114 := fun args w => by kernel_rfl
def r3_SameMarks_p (a : (L.Sq L.Mark)) (b : (L.Sq L.Mark)) : Prop := a.n ≤ 1000000
def r3_SameMarks_r (a : (L.Sq L.Mark)) (b : (L.Sq L.Mark)) : SV := .bool (L.sameMs a b)
def r3_SameMarks_s : List EV → Option (Prop × SV)
  | [.p (.sl 3 a_n a_g), .p (.sl 3 b_n b_g)] => some ((∀ i, i < a_n → a_g i = [.int .i64 ((ofMark (a_g i)).edge), .int .i64 ((ofMark (a_g i)).place), .int .i64 ((ofMark (a_g i)).tone)]) ∧ (∀ i, i < b_n → b_g i = [.int .i64 ((ofMark (b_g i)).edge), .int .i64 ((ofMark (b_g i)).place), .int .i64 ((ofMark (b_g i)).tone)]) ∧ r3_SameMarks_p (⟨a_n, fun i => ofMark (a_g i)⟩ : (L.Sq L.Mark)) (⟨b_n, fun i => ofMark (b_g i)⟩ : (L.Sq L.Mark)), r3_SameMarks_r (⟨a_n, fun i => ofMark (a_g i)⟩ : (L.Sq L.Mark)) (⟨b_n, fun i => ofMark (b_g i)⟩ : (L.Sq L.Mark)))
  | _ => none
abbrev r3_SameMarks_S : SE.Spec := (specO r3_SameMarks_s)
def r3_SameMarks_C : Cfg := { muts := [], frz := lookN [], specs := lookS [], loops := fun _ => none, iters := lookI [], rfs := lookR [], nils := lookM [] }
theorem r3_SameMarks_vc (a : (L.Sq L.Mark)) (b : (L.Sq L.Mark)) (hp : r3_SameMarks_p a b) : vc Tryz.prog ({ r3_SameMarks_C with loops := lookL [(4, { T := Nat, keep := [0, 1], keepO := [], chg := fun i => [(5, .p (.int .i64 (i : Int)))], own := fun _ => [], inv := fun i => i ≤ a.n ∧ ∀ j, j < i → L.sameM (a.g j) (b.g j) = true, mu := fun i => a.n - i })], rfs := lookR [] }) (bodyOf Tryz.f19) (st0 Tryz.f19 [.p (.sl 3 a.n (fun i => [.int .i64 ((a.g i).edge), .int .i64 ((a.g i).place), .int .i64 ((a.g i).tone)])), .p (.sl 3 b.n (fun i => [.int .i64 ((b.g i).edge), .int .i64 ((b.g i).place), .int .i64 ((b.g i).tone)]))]) (retFn Tryz.prog Tryz.f19 (r3_SameMarks_r a b)) :=
  @Eq.mpr _ (((!Decidable.decide ((↑a.n : Int) = (↑b.n : Int))) = Bool.true → Bool.false = L.sameMs a b) ∧ ((!Decidable.decide ((↑a.n : Int) = (↑b.n : Int))) = Bool.false → (∃ (g : Nat), (0 : Int) = (↑g : Int) ∧ g ≤ a.n ∧ ∀ (j : Nat), j < g → L.sameM (a.g j) (b.g j) = Bool.true) ∧ ∀ (g : Nat), (g ≤ a.n ∧ ∀ (j : Nat), j < g → L.sameM (a.g j) (b.g j) = Bool.true) → (Decidable.decide ((↑g : Int) < (↑a.n : Int)) =
 Bool.true → ((0 : Int) ≤ (↑g : Int) ∧ (↑g : Int) < (↑a.n : Int)) ∧ ((0 : Int) ≤ (↑g : Int) ∧ (↑g : Int) < (↑b.n : Int)) ∧ ((!(Decidable.decide ((a.g (Int.toNat (↑g : Int))).edge = (b.g (Int.toNat (↑g : Int))).edge) && (Decidable.decide ((a.g (Int.toNat (↑g : Int))).place = (b.g (Int.toNat (↑g : Int))).place) && Decidable.decide ((a.g (Int.toNat (↑g : Int))).tone = (b.g (Int.toNat (↑g :
 Int))).tone)))) = Bool.true → Bool.false = L.sameMs a b) ∧ ((!(Decidable.decide ((a.g (Int.toNat (↑g : Int))).edge = (b.g (Int.toNat (↑g : Int))).edge) && (Decidable.decide ((a.g (Int.toNat (↑g : Int))).place = (b.g (Int.toNat (↑g : Int))).place) && Decidable.decide ((a.g (Int.toNat (↑g : Int))).tone = (b.g (Int.toNat (↑g : Int))).tone)))) = Bool.false → Go.SE.InK Go.IntKind.i64 ((↑g : Int) + (1 :
 Int)) ∧ ∃ (g' : Nat), (↑g : Int) + (1 : Int) = (↑g' : Int) ∧ (a.n = a.n ∧ ∀ (i : Nat), i < a.n → [Go.SE.SV.int Go.IntKind.i64 (a.g i).edge, Go.SE.SV.int Go.IntKind.i64 (a.g i).place, Go.SE.SV.int Go.IntKind.i64 (a.g i).tone] = [Go.SE.SV.int Go.IntKind.i64 (a.g i).edge, Go.SE.SV.int Go.IntKind.i64 (a.g i).place, Go.SE.SV.int Go.IntKind.i64 (a.g i).tone]) ∧ (b.n = b.n ∧ ∀ (i : Nat), i < b.n →
 [Go.SE.SV.int Go.IntKind.i64 (b.g i).edge, Go.SE.SV.int Go.IntKind.i64 (b.g i).place, Go.SE.SV.int Go.IntKind.i64 (b.g i).tone] = [Go.SE.SV.int Go.IntKind.i64 (b.g i).edge, Go.SE.SV.int Go.IntKind.i64 (b.g i).place, Go.SE.SV.int Go.IntKind.i64 (b.g i).tone]) ∧ (g' ≤ a.n ∧ ∀ (j : Nat), j < g' → L.sameM (a.g j) (b.g j) = Bool.true) ∧ a.n - g' < a.n - g)) ∧ (Decidable.decide ((↑g : Int) < (↑a.n :
 Int)) = Bool.false → Bool.true = L.sameMs a b))) (by kernel_rfl) (by
    have ha : a.n ≤ 1000000 := hp
    refine ⟨fun h => ?_, fun h => ?_⟩
    · unfold L.sameMs; rw [notT h]; rfl
    have hd := notF h
    have hn := of_decide_eq_true hd
    refine ⟨⟨(0 : Nat), rfl, Nat.zero_le _, fun j hj => absurd hj (Nat.not_lt_zero _)⟩, fun g hg => ⟨fun hlt => ?_, fun hge => ?_⟩⟩
    · have hb : (g : Int) < (a.n : Int) := of_decide_eq_true hlt
      have e0 : ((g : Int)).toNat = g := by omega
      rw [e0]
      refine ⟨by omega, by omega, fun h1 => ?_, fun h1 => ?_⟩
      · have h1 : L.sameM (a.g g) (b.g g) = false := notT h1
        unfold L.sameMs; rw [hd, allB_false (i := g) (by omega) h1]; rfl
      · have h1 : L.sameM (a.g g) (b.g g) = true := notF h1
        exact ⟨InK.of (by omega) (by omega), g + 1, by omega, ⟨rfl, fun _ _ => rfl⟩, ⟨rfl, fun _ _ => rfl⟩, ⟨by omega, fun j hj => by
          rcases Nat.lt_succ_iff_lt_or_eq.1 hj with h' | rfl
          · exact hg.2 j h'
          · exact h1⟩, by omega⟩
    · have hb : ¬ (g : Int) < (a.n : Int) := of_decide_eq_false hge
      unfold L.sameMs; rw [hd, allB_iff.2 (fun i hi => hg.2 i (by omega))]; rfl)
theorem r3_SameMarks_ok : SpecOk Tryz.prog 19 r3_SameMarks_S := fnX Tryz.func19 (c := bodyOf Tryz.f19) (by kernel_rfl) mixed (fun args p r hs hp => by
  unfold r3_SameMarks_s at hs
  split at hs
  · cases hs; exact ⟨_, _, r3_SameMarks_vc _ _ hp.2.2, (.p (.sl hp.1) (.p (.sl hp.2.1) .nil)), ⟨show SpecsL Tryz.prog _ from SpecsL.nil, rfl, ⟨show ItersL Tryz.prog _ from ItersL.nil, (TrsOk.none (fun _ => rfl))⟩⟩⟩
  · cases hs)
theorem r3_SameMarks_en : Enters Tryz.prog 19 := fun args w => by kernel_rfl
theorem r3_SameMarks_B : ∀ args p r, r3_SameMarks_s args = some (p, r) → ∃ b, r = .bool b := by
  intro args p r h
  unfold r3_SameMarks_s at h
  split at h
  · cases h; exact ⟨_, rfl⟩
  · cases h
def s_cloneG_p (l : (L.Sq L.Gauge)) : Prop := l.n ≤ 1000000
def s_cloneG_q (l : (L.Sq L.Gauge)) : Nat → Prop := fun _ => True
def s_cloneG_n (l : (L.Sq L.Gauge)) : Nat → Nat := fun _ => l.n
def s_cloneG_g (l : (L.Sq L.Gauge)) : Nat → Nat → List SV := fun _ i => [.int .i64 ((l.g i).edge.lo), .int .i64 ((l.g i).edge.hi), .int .i64 ((l.g i).across.lo), .int .i64 ((l.g i).across.hi), .int .i64 ((l.g i).bend)]
def s_cloneG_s : List EV → Option (Prop × (Nat → Prop) × (Nat → Nat) × (Nat → Nat → List SV))
  | [.p (.sl 5 l_n l_g)] => some ((∀ i, i < l_n → l_g i = [.int .i64 ((ofGauge (l_g i)).edge.lo), .int .i64 ((ofGauge (l_g i)).edge.hi), .int .i64 ((ofGauge (l_g i)).across.lo), .int .i64 ((ofGauge (l_g i)).across.hi), .int .i64 ((ofGauge (l_g i)).bend)]) ∧ s_cloneG_p (⟨l_n, fun i => ofGauge (l_g i)⟩ : (L.Sq L.Gauge)), s_cloneG_q (⟨l_n, fun i => ofGauge (l_g i)⟩ : (L.Sq L.Gauge)), s_cloneG_n (⟨l_n, fun i => ofGauge (l_g i)⟩ : (L.Sq L.Gauge)), s_cloneG_g (⟨l_n, fun i => ofGauge (l_g i)⟩ : (L.Sq L.Gauge)))
  | _ => none
abbrev s_cloneG_S : SE.Spec := (specF Nat 0 92 5 s_cloneG_s)
def s_cloneG_C : Cfg := { muts := [5], frz := lookN [], specs := lookS [], loops := lookL [], iters := lookI [], rfs := lookR [], nils := lookM [] }
theorem s_cloneG_vc (l : (L.Sq L.Gauge)) (hp : s_cloneG_p l) : vc Tryz.prog (s_cloneG_C) (bodyOf Tryz.f113) (st0 Tryz.f113 [.p (.sl 5 l.n (fun i => [.int .i64 ((l.g i).edge.lo), .int .i64 ((l.g i).edge.hi), .int .i64 ((l.g i).across.lo), .int .i64 ((l.g i).across.hi), .int .i64 ((l.g i).bend)]))]) (retFresh Tryz.prog Tryz.f113 (Nat) (s_cloneG_q l) 92 5 (s_cloneG_n l) (s_cloneG_g l)) :=
  @Eq.mpr _ (∀ (b : Bool), (b = !Bool.false → l.n = (0 : Nat)) → (b = Bool.true → ∃ (t : Nat), l.n = (0 : Nat) ∧ True) ∧ (b = Bool.false → (nat_lit 0 + l.n) * nat_lit 40 ≤ (140737488355328 : Nat) ∧ ∃ (t : Nat), (nat_lit 0 + l.n = l.n ∧ ∀ (i : Nat), i < nat_lit 0 + l.n → Go.SE.appGet (nat_lit 0) (Go.SE.rowsOf [] (nat_lit 5)) (fun (i : Nat) ↦ [Go.SE.SV.int Go.IntKind.i64 (l.g i).edge.lo, Go.SE.SV.int
 Go.IntKind.i64 (l.g i).edge.hi, Go.SE.SV.int Go.IntKind.i64 (l.g i).across.lo, Go.SE.SV.int Go.IntKind.i64 (l.g i).across.hi, Go.SE.SV.int Go.IntKind.i64 (l.g i).bend]) i = [Go.SE.SV.int Go.IntKind.i64 (l.g i).edge.lo, Go.SE.SV.int Go.IntKind.i64 (l.g i).edge.hi, Go.SE.SV.int Go.IntKind.i64 (l.g i).across.lo, Go.SE.SV.int Go.IntKind.i64 (l.g i).across.hi, Go.SE.SV.int Go.IntKind.i64 (l.g i).bend])
 ∧ True)) (by kernel_rfl) (by
    have hn : l.n ≤ 1000000 := hp
    refine fun b hb => ⟨fun h => ⟨(0 : Nat), hb h, trivial⟩, fun h => ⟨show (0 + l.n) * 40 ≤ 140737488355328 by omega, (0 : Nat), ⟨Nat.zero_add _, fun i hi => ?_⟩, trivial⟩⟩
    unfold appGet; rw [if_neg (Nat.not_lt_zero _)]; rfl)
theorem s_cloneG_ok : SpecOk Tryz.prog 113 s_cloneG_S := freshX Tryz.func113 (c := bodyOf Tryz.f113) (by kernel_rfl) mixed (fun args p q n g hs hp => by
  unfold s_cloneG_s at hs
  split at hs
  · cases hs; exact ⟨_, _, s_cloneG_vc _ hp.2, (.p (.sl hp.1) .nil), ⟨show SpecsL Tryz.prog _ from SpecsL.nil, rfl, ⟨show ItersL Tryz.prog _ from ItersL.nil, (TrsOk.none (fun _ => rfl))⟩⟩⟩
  · cases hs)
theorem s_cloneG_en : Enters Tryz.prog 113 := fun args w => by kernel_rfl
def r3_SameGauges_p (a : (L.Sq L.Gauge)) (b : (L.Sq L.Gauge)) : Prop := a.n ≤ 1000000
def r3_SameGauges_r (a : (L.Sq L.Gauge)) (b : (L.Sq L.Gauge)) : SV := .bool (L.sameGs a b)
def r3_SameGauges_s : List EV → Option (Prop × SV)
  | [.p (.sl 5 a_n a_g), .p (.sl 5 b_n b_g)] => some ((∀ i, i < a_n → a_g i = [.int .i64 ((ofGauge (a_g i)).edge.lo), .int .i64 ((ofGauge (a_g i)).edge.hi), .int .i64 ((ofGauge (a_g i)).across.lo), .int .i64 ((ofGauge (a_g i)).across.hi), .int .i64 ((ofGauge (a_g i)).bend)]) ∧ (∀ i, i < b_n → b_g i = [.int .i64 ((ofGauge (b_g i)).edge.lo), .int .i64 ((ofGauge (b_g i)).edge.hi), .int .i64 ((ofGauge (b_g i)).across.lo), .int .i64 ((ofGauge (b_g i)).across.hi), .int .i64 ((ofGauge (b_g i)).bend)]) ∧ r3_SameGauges_p (⟨a_n, fun i => ofGauge (a_g i)⟩ : (L.Sq L.Gauge)) (⟨b_n, fun i => ofGauge (b_g i)⟩ : (L.Sq L.Gauge)), r3_SameGauges_r (⟨a_n, fun i => ofGauge (a_g i)⟩ : (L.Sq L.Gauge)) (⟨b_n, fun i => ofGauge (b_g i)⟩ : (L.Sq L.Gauge)))
  | _ => none
abbrev r3_SameGauges_S : SE.Spec := (specO r3_SameGauges_s)
def r3_SameGauges_C : Cfg := { muts := [], frz := lookN [], specs := lookS [], loops := fun _ => none, iters := lookI [], rfs := lookR [], nils := lookM [] }
theorem r3_SameGauges_vc (a : (L.Sq L.Gauge)) (b : (L.Sq L.Gauge)) (hp : r3_SameGauges_p a b) : vc Tryz.prog ({ r3_SameGauges_C with loops := lookL [(4, { T := Nat, keep := [0, 1], keepO := [], chg := fun i => [(5, .p (.int .i64 (i : Int)))], own := fun _ => [], inv := fun i => i ≤ a.n ∧ ∀ j, j < i → L.sameG (a.g j) (b.g j) = true, mu := fun i => a.n - i })], rfs := lookR [] }) (bodyOf Tryz.f64) (st0 Tryz.f64 [.p (.sl 5 a.n (fun i => [.int .i64 ((a.g i).edge.lo), .int .i64 ((a.g i).edge.hi), .int .i64 ((a.g i).across.lo), .int .i64 ((a.g i).across.hi), .int .i64 ((a.g i).bend)])), .p (.sl 5 b.n (fun i => [.int .i64 ((b.g i).edge.lo), .int .i64 ((b.g i).edge.hi), .int .i64 ((b.g i).across.lo), .int .i64 ((b.g i).across.hi), .int .i64 ((b.g i).bend)]))]) (retFn Tryz.prog Tryz.f64 (r3_SameGauges_r a b)) :=
  @Eq.mpr _ (((!Decidable.decide ((↑a.n : Int) = (↑b.n : Int))) = Bool.true → Bool.false = L.sameGs a b) ∧ ((!Decidable.decide ((↑a.n : Int) = (↑b.n : Int))) = Bool.false → (∃ (g : Nat), (0 : Int) = (↑g : Int) ∧ g ≤ a.n ∧ ∀ (j : Nat), j < g → L.sameG (a.g j) (b.g j) = Bool.true) ∧ ∀ (g : Nat), (g ≤ a.n ∧ ∀ (j : Nat), j < g → L.sameG (a.g j) (b.g j) = Bool.true) → (Decidable.decide ((↑g : Int) < (↑a.n : Int)) =
 Bool.true → ((0 : Int) ≤ (↑g : Int) ∧ (↑g : Int) < (↑a.n : Int)) ∧ ((0 : Int) ≤ (↑g : Int) ∧ (↑g : Int) < (↑b.n : Int)) ∧ ((!(Decidable.decide ((a.g (Int.toNat (↑g : Int))).edge.lo = (b.g (Int.toNat (↑g : Int))).edge.lo) && Decidable.decide ((a.g (Int.toNat (↑g : Int))).edge.hi = (b.g (Int.toNat (↑g : Int))).edge.hi) && (Decidable.decide ((a.g (Int.toNat (↑g : Int))).across.lo = (b.g (Int.toNat
 (↑g : Int))).across.lo) && Decidable.decide ((a.g (Int.toNat (↑g : Int))).across.hi = (b.g (Int.toNat (↑g : Int))).across.hi) && Decidable.decide ((a.g (Int.toNat (↑g : Int))).bend = (b.g (Int.toNat (↑g : Int))).bend)))) = Bool.true → Bool.false = L.sameGs a b) ∧ ((!(Decidable.decide ((a.g (Int.toNat (↑g : Int))).edge.lo = (b.g (Int.toNat (↑g : Int))).edge.lo) && Decidable.decide ((a.g (Int.toNat
 (↑g : Int))).edge.hi = (b.g (Int.toNat (↑g : Int))).edge.hi) && (Decidable.decide ((a.g (Int.toNat (↑g : Int))).across.lo = (b.g (Int.toNat (↑g : Int))).across.lo) && Decidable.decide ((a.g (Int.toNat (↑g : Int))).across.hi = (b.g (Int.toNat (↑g : Int))).across.hi) && Decidable.decide ((a.g (Int.toNat (↑g : Int))).bend = (b.g (Int.toNat (↑g : Int))).bend)))) = Bool.false → Go.SE.InK Go.IntKind.i64
 ((↑g : Int) + (1 : Int)) ∧ ∃ (g' : Nat), (↑g : Int) + (1 : Int) = (↑g' : Int) ∧ (a.n = a.n ∧ ∀ (i : Nat), i < a.n → [Go.SE.SV.int Go.IntKind.i64 (a.g i).edge.lo, Go.SE.SV.int Go.IntKind.i64 (a.g i).edge.hi, Go.SE.SV.int Go.IntKind.i64 (a.g i).across.lo, Go.SE.SV.int Go.IntKind.i64 (a.g i).across.hi, Go.SE.SV.int Go.IntKind.i64 (a.g i).bend] = [Go.SE.SV.int Go.IntKind.i64 (a.g i).edge.lo,
 Go.SE.SV.int Go.IntKind.i64 (a.g i).edge.hi, Go.SE.SV.int Go.IntKind.i64 (a.g i).across.lo, Go.SE.SV.int Go.IntKind.i64 (a.g i).across.hi, Go.SE.SV.int Go.IntKind.i64 (a.g i).bend]) ∧ (b.n = b.n ∧ ∀ (i : Nat), i < b.n → [Go.SE.SV.int Go.IntKind.i64 (b.g i).edge.lo, Go.SE.SV.int Go.IntKind.i64 (b.g i).edge.hi, Go.SE.SV.int Go.IntKind.i64 (b.g i).across.lo, Go.SE.SV.int Go.IntKind.i64 (b.g
 i).across.hi, Go.SE.SV.int Go.IntKind.i64 (b.g i).bend] = [Go.SE.SV.int Go.IntKind.i64 (b.g i).edge.lo, Go.SE.SV.int Go.IntKind.i64 (b.g i).edge.hi, Go.SE.SV.int Go.IntKind.i64 (b.g i).across.lo, Go.SE.SV.int Go.IntKind.i64 (b.g i).across.hi, Go.SE.SV.int Go.IntKind.i64 (b.g i).bend]) ∧ (g' ≤ a.n ∧ ∀ (j : Nat), j < g' → L.sameG (a.g j) (b.g j) = Bool.true) ∧ a.n - g' < a.n - g)) ∧
 (Decidable.decide ((↑g : Int) < (↑a.n : Int)) = Bool.false → Bool.true = L.sameGs a b))) (by kernel_rfl) (by
    have ha : a.n ≤ 1000000 := hp
    refine ⟨fun h => ?_, fun h => ?_⟩
    · unfold L.sameGs; rw [notT h]; rfl
    have hd := notF h
    have hn := of_decide_eq_true hd
    refine ⟨⟨(0 : Nat), rfl, Nat.zero_le _, fun j hj => absurd hj (Nat.not_lt_zero _)⟩, fun g hg => ⟨fun hlt => ?_, fun hge => ?_⟩⟩
    · have hb : (g : Int) < (a.n : Int) := of_decide_eq_true hlt
      have e0 : ((g : Int)).toNat = g := by omega
      rw [e0]
      refine ⟨by omega, by omega, fun h1 => ?_, fun h1 => ?_⟩
      · have h1 : L.sameG (a.g g) (b.g g) = false := notT h1
        unfold L.sameGs; rw [hd, allB_false (i := g) (by omega) h1]; rfl
      · have h1 : L.sameG (a.g g) (b.g g) = true := notF h1
        exact ⟨InK.of (by omega) (by omega), g + 1, by omega, ⟨rfl, fun _ _ => rfl⟩, ⟨rfl, fun _ _ => rfl⟩, ⟨by omega, fun j hj => by
          rcases Nat.lt_succ_iff_lt_or_eq.1 hj with h' | rfl
          · exact hg.2 j h'
          · exact h1⟩, by omega⟩
    · have hb : ¬ (g : Int) < (a.n : Int) := of_decide_eq_false hge
      unfold L.sameGs; rw [hd, allB_iff.2 (fun i hi => hg.2 i (by omega))]; rfl)
theorem r3_SameGauges_ok : SpecOk Tryz.prog 64 r3_SameGauges_S := fnX Tryz.func64 (c := bodyOf Tryz.f64) (by kernel_rfl) mixed (fun args p r hs hp => by
  unfold r3_SameGauges_s at hs
  split at hs
  · cases hs; exact ⟨_, _, r3_SameGauges_vc _ _ hp.2.2, (.p (.sl hp.1) (.p (.sl hp.2.1) .nil)), ⟨show SpecsL Tryz.prog _ from SpecsL.nil, rfl, ⟨show ItersL Tryz.prog _ from ItersL.nil, (TrsOk.none (fun _ => rfl))⟩⟩⟩
  · cases hs)
theorem r3_SameGauges_en : Enters Tryz.prog 64 := fun args w => by kernel_rfl
theorem r3_SameGauges_B : ∀ args p r, r3_SameGauges_s args = some (p, r) → ∃ b, r = .bool b := by
  intro args p r h
  unfold r3_SameGauges_s at h
  split at h
  · cases h; exact ⟨_, rfl⟩
  · cases h
end Go.Proofs.YtooapgllahonaaaGreat

namespace Go.Proofs.YtooapgllahonaaaGreat
open Go.SE Go.RowKit
set_option maxRecDepth 100000
set_option maxHeartbeats 4000000
set_option linter.unusedVariables false
attribute [local irreducible] Go.SE.vc

instance : Inhabited L.Mark := ⟨⟨0, 0, 0⟩⟩
def L.leMk (a b : L.Mark) : Prop := L.cmpMark a b ≤ 0
theorem cmpMk_lt {a b : L.Mark} : L.cmpMark a b < 0 ↔ a.edge < b.edge ∨ (a.edge = b.edge ∧ (a.place < b.place ∨ (a.place = b.place ∧ a.tone < b.tone))) := by
  unfold L.cmpMark L.or2 L.cmp
  rcases Int.lt_trichotomy a.edge b.edge with h1 | h1 | h1 <;> rcases Int.lt_trichotomy a.place b.place with h2 | h2 | h2 <;> rcases Int.lt_trichotomy a.tone b.tone with h3 | h3 | h3 <;> grind
theorem cmpMk_le {a b : L.Mark} : L.cmpMark a b ≤ 0 ↔ a.edge < b.edge ∨ (a.edge = b.edge ∧ (a.place < b.place ∨ (a.place = b.place ∧ a.tone ≤ b.tone))) := by
  unfold L.cmpMark L.or2 L.cmp
  rcases Int.lt_trichotomy a.edge b.edge with h1 | h1 | h1 <;> rcases Int.lt_trichotomy a.place b.place with h2 | h2 | h2 <;> rcases Int.lt_trichotomy a.tone b.tone with h3 | h3 | h3 <;> grind
theorem swoMk : Go.Sort.SWO (Go.Proofs.ltOf L.cmpMark) := by
  have k : ∀ x y, Go.Proofs.ltOf L.cmpMark x y = true ↔ L.cmpMark x y < 0 := fun x y => by
    unfold Go.Proofs.ltOf; rw [decide_eq_true_iff]
  have kf : ∀ x y, Go.Proofs.ltOf L.cmpMark x y = false ↔ ¬ L.cmpMark x y < 0 := fun x y => by
    rw [← k, Bool.not_eq_true]
  refine ⟨fun x => ?_, fun x y z => ?_, fun x y z => ?_⟩
  · rw [kf, cmpMk_lt]; omega
  · simp only [k, cmpMk_lt]; omega
  · simp only [kf, cmpMk_lt]; omega
def L.insMk (p : L.Mark) : List L.Mark → List L.Mark
  | [] => [p]
  | q :: r => bif decide (L.cmpMark p q ≤ 0) then p :: q :: r else q :: L.insMk p r
def L.isortMk : List L.Mark → List L.Mark
  | [] => []
  | p :: r => L.insMk p (L.isortMk r)
def L.listMk (l : L.Sq L.Mark) : List L.Mark := (List.range l.n).map l.g
def L.sortM (l : L.Sq L.Mark) : L.Sq L.Mark := ⟨l.n, fun k => (L.isortMk (L.listMk l)).getD k ⟨0, 0, 0⟩⟩
theorem leMk_total (a b : L.Mark) : L.leMk a b ∨ L.leMk b a := by unfold L.leMk; simp only [cmpMk_le]; omega
theorem leMk_trans {a b c : L.Mark} (h : L.leMk a b) (k : L.leMk b c) : L.leMk a c := by unfold L.leMk at *; simp only [cmpMk_le] at *; omega
theorem mk_ext {a b : L.Mark} (h1 : a.edge = b.edge) (h2 : a.place = b.place) (h3 : a.tone = b.tone) : a = b := by cases a; cases b; simp only at h1 h2 h3; rw [h1, h2, h3]
theorem leMk_anti {a b : L.Mark} (h : L.leMk a b) (k : L.leMk b a) : a = b := by
  unfold L.leMk at *; simp only [cmpMk_le] at *
  exact mk_ext (by omega) (by omega) (by omega)
theorem insMk_perm (p : L.Mark) : ∀ l, (L.insMk p l).Perm (p :: l)
  | [] => .refl _
  | q :: r => by
    unfold L.insMk
    cases decide (L.cmpMark p q ≤ 0) with
    | true => exact .refl _
    | false => exact ((insMk_perm p r).cons q).trans (.swap p q r)
theorem isortMk_perm : ∀ l, (L.isortMk l).Perm l
  | [] => .refl _
  | p :: r => (insMk_perm p _).trans ((isortMk_perm r).cons p)
theorem insMk_asc {p : L.Mark} : ∀ {l}, l.Pairwise L.leMk → (L.insMk p l).Pairwise L.leMk
  | [], _ => List.pairwise_singleton _ _
  | q :: r, h => by
    obtain ⟨h1, h2⟩ := List.pairwise_cons.1 h
    unfold L.insMk
    cases hd : decide (L.cmpMark p q ≤ 0) with
    | true =>
      have hd : L.leMk p q := of_decide_eq_true (p := L.cmpMark p q ≤ 0) hd
      exact List.pairwise_cons.2 ⟨fun x hx => by
        rcases List.mem_cons.1 hx with rfl | hx
        · exact hd
        · exact leMk_trans hd (h1 x hx), h⟩
    | false =>
      have hd : ¬ L.leMk p q := of_decide_eq_false (p := L.cmpMark p q ≤ 0) hd
      have hqp : L.leMk q p := (leMk_total p q).resolve_left hd
      exact List.pairwise_cons.2 ⟨fun x hx => by
        rcases List.mem_cons.1 ((insMk_perm p r).mem_iff.1 hx) with rfl | hx
        · exact hqp
        · exact h1 x hx, insMk_asc h2⟩
theorem isortMk_asc : ∀ l, (L.isortMk l).Pairwise L.leMk
  | [] => .nil
  | p :: r => insMk_asc (isortMk_asc r)
theorem sortM_is {l : L.Sq L.Mark} {u : Nat → L.Mark} (h : SortedBy L.cmpMark l.n l.g u) : ∀ k, k < l.n → (L.sortM l).g k = u k := fun k hk => by
  have e : (List.range l.n).map u = L.isortMk (L.listMk l) := by
    refine List.Perm.eq_of_pairwise (le := L.leMk) (fun a b _ _ => leMk_anti) ?_ (isortMk_asc _) (h.perm.trans (isortMk_perm _).symm)
    rw [List.pairwise_iff_getElem]
    intro i j hi hj hij
    simp only [List.getElem_map, List.getElem_range]
    have hj : j < l.n := by simpa using hj
    have := h.asc i j hij hj
    rcases leMk_total (u i) (u j) with h1 | h1
    · exact h1
    · unfold L.leMk at *
      simp only [cmpMk_le, cmpMk_lt] at *
      omega
  show (L.isortMk (L.listMk l)).getD k ⟨0, 0, 0⟩ = u k
  rw [← e]
  simp [List.getD_eq_getElem?_getD, hk]
theorem sortM_mem (l : L.Sq L.Mark) {k : Nat} (hk : k < l.n) : ∃ i, i < l.n ∧ (L.sortM l).g k = l.g i := by
  have hl : (L.isortMk (L.listMk l)).length = l.n := by rw [(isortMk_perm _).length_eq]; simp [L.listMk]
  have hm : (L.isortMk (L.listMk l)).getD k ⟨0, 0, 0⟩ ∈ L.isortMk (L.listMk l) := by
    rw [List.getD_eq_getElem?_getD, List.getElem?_eq_getElem (by rw [hl]; exact hk)]
    exact List.getElem_mem _
  have hm := (isortMk_perm _).mem_iff.1 hm
  unfold L.listMk at hm
  obtain ⟨i, hi, e⟩ := List.mem_map.1 hm
  exact ⟨i, List.mem_range.1 hi, e.symm⟩
def encMk (p : L.Mark) : List Int := [p.edge, p.place, p.tone]
def sortMk_ren : Go.Shelf.Ren := ⟨fun | 6 => 197 | 15 => 184 | 14 => 214 | 28 => 210 | 29 => 211 | 20 => 222 | 21 => 223 | 22 => 224 | 23 => 225 | 24 => 226 | 25 => 227 | 26 => 228 | 27 => 229 | 46 => 239 | 47 => 218 | 48 => 219 | 49 => 240 | 50 => 241 | 57 => 245 | n => n, fun | 22 => 23 | 24 => 87 | 25 => 156 | 3 => 3 | 39 => 199 | 0 => 0 | 53 => 224 | 55 => 226 | 4 => 4 | 46 => 217 | 45 => 216 | 50 => 221 | 5 => 5 | 9 => 9 | 66 => 231 | 70 => 235 | 76 => 247 | 77 => 248 | n => n, fun | n => n⟩
theorem sortMk_lay : Go.Proofs.SlLaysF0.n6 Tryz.prog sortMk_ren := {
  mixed := by kernel_rfl
  f6 := ⟨Tryz.f197.name, by decide, Tryz.func197.trans (congrArg some (by kernel_rfl))⟩
  f14 := ⟨Tryz.f214.name, by decide, Tryz.func214.trans (congrArg some (by kernel_rfl))⟩
  f15 := Tryz.func184.trans (congrArg some (by kernel_rfl))
  f20 := ⟨Tryz.f222.name, by decide, Tryz.func222.trans (congrArg some (by kernel_rfl))⟩
  f21 := ⟨Tryz.f223.name, by decide, Tryz.func223.trans (congrArg some (by kernel_rfl))⟩
  f22 := ⟨Tryz.f224.name, by decide, Tryz.func224.trans (congrArg some (by kernel_rfl))⟩
  f23 := ⟨Tryz.f225.name, by decide, Tryz.func225.trans (congrArg some (by kernel_rfl))⟩
  f24 := ⟨Tryz.f226.name, by decide, Tryz.func226.trans (congrArg some (by kernel_rfl))⟩
  f25 := ⟨Tryz.f227.name, by decide, Tryz.func227.trans (congrArg some (by kernel_rfl))⟩
  f26 := ⟨Tryz.f228.name, by decide, Tryz.func228.trans (congrArg some (by kernel_rfl))⟩
  f27 := ⟨Tryz.f229.name, by decide, Tryz.func229.trans (congrArg some (by kernel_rfl))⟩
  f28 := Tryz.func210.trans (congrArg some (by kernel_rfl))
  f29 := Tryz.func211.trans (congrArg some (by kernel_rfl))
  f46 := ⟨Tryz.f239.name, by decide, Tryz.func239.trans (congrArg some (by kernel_rfl))⟩
  f47 := Tryz.func218.trans (congrArg some (by kernel_rfl))
  f48 := Tryz.func219.trans (congrArg some (by kernel_rfl))
  f49 := ⟨Tryz.f240.name, by decide, Tryz.func240.trans (congrArg some (by kernel_rfl))⟩
  f50 := ⟨Tryz.f241.name, by decide, Tryz.func241.trans (congrArg some (by kernel_rfl))⟩
  f57 := ⟨Tryz.f245.name, by decide, Tryz.func245.trans (congrArg some (by kernel_rfl))⟩
  t0 := Tryz.underlying0
  a0 := Tryz.isAgg0
  z0 := Tryz.sizeOf0
  v0 := Tryz.zeroValue0
  t3 := Tryz.underlying3
  a3 := Tryz.isAgg3
  z3 := Tryz.sizeOf3
  v3 := Tryz.zeroValue3
  t4 := Tryz.underlying4
  a4 := Tryz.isAgg4
  z4 := Tryz.sizeOf4
  v4 := Tryz.zeroValue4
  t5 := Tryz.underlying5
  a5 := Tryz.isAgg5
  z5 := Tryz.sizeOf5
  v5 := Tryz.zeroValue5
  t9 := Tryz.underlying9
  a9 := Tryz.isAgg9
  z9 := Tryz.sizeOf9
  v9 := Tryz.zeroValue9
  t22 := Tryz.underlying23
  a22 := Tryz.isAgg23
  z22 := Tryz.sizeOf23
  v22 := Tryz.zeroValue23
  t25 := Tryz.underlying156
  a25 := Tryz.isAgg156
  z25 := Tryz.sizeOf156
  v25 := Tryz.zeroValue156
  t39 := Tryz.underlying199
  a39 := Tryz.isAgg199
  z39 := Tryz.sizeOf199
  v39 := Tryz.zeroValue199
  t45 := Tryz.underlying216
  a45 := Tryz.isAgg216
  z45 := Tryz.sizeOf216
  v45 := Tryz.zeroValue216
  t46 := Tryz.underlying217
  a46 := Tryz.isAgg217
  z46 := Tryz.sizeOf217
  v46 := Tryz.zeroValue217
  t50 := Tryz.underlying221
  a50 := Tryz.isAgg221
  z50 := Tryz.sizeOf221
  v50 := Tryz.zeroValue221
  t53 := Tryz.underlying224
  a53 := Tryz.isAgg224
  z53 := Tryz.sizeOf224
  v53 := Tryz.zeroValue224
  t55 := Tryz.underlying226
  a55 := Tryz.isAgg226
  z55 := Tryz.sizeOf226
  v55 := Tryz.zeroValue226
  t66 := Tryz.underlying231
  a66 := Tryz.isAgg231
  z66 := Tryz.sizeOf231
  v66 := Tryz.zeroValue231
  t70 := Tryz.underlying235
  a70 := Tryz.isAgg235
  z70 := Tryz.sizeOf235
  v70 := Tryz.zeroValue235
  t76 := Tryz.underlying247
  a76 := Tryz.isAgg247
  z76 := Tryz.sizeOf247
  v76 := Tryz.zeroValue247
  t77 := Tryz.underlying248
  a77 := Tryz.isAgg248
  z77 := Tryz.sizeOf248
  v77 := Tryz.zeroValue248 }

abbrev s_sortMk_tr : Tr := sortTr 87 3 129 1005 encMk L.cmpMark
theorem s_sortMk_tok : TrOk Tryz.prog 197 s_sortMk_tr := sortTr_ok (enc := encMk) sortMk_lay (by decide) (fun w => Tryz.isAgg87 w) (fun w => Tryz.sizeOf87 w) (fun _ => rfl) swoMk g_cmpMarks_ok g_cmpMarks_en (fun x y => show preO g_cmpMarks_s [.p (.agg [.int .i64 x.edge, .int .i64 x.place, .int .i64 x.tone]), .p (.agg [.int .i64 y.edge, .int .i64 y.place, .int .i64 y.tone])] from trivial) (fun x y => rfl) _ _
theorem s_sortMk_en : Enters Tryz.prog 197 := fun args w => by kernel_rfl
def s_valM1_p (l : (L.Sq L.Mark)) : Prop := l.n ≤ 1000000
def s_valM1_n (l : (L.Sq L.Mark)) : Nat := l.n
def s_valM1_i (l : (L.Sq L.Mark)) : Nat → List SV := fun k => [(.agg [.int .i64 ((l.g (k : Int).toNat).edge), .int .i64 ((l.g (k : Int).toNat).place), .int .i64 ((l.g (k : Int).toNat).tone)])]
def s_valM1_ic : List SV → Option (Prop × Nat × (Nat → List SV))
  | [.ref [.sl 3 l_n l_g] 0] => some ((∀ i, i < l_n → l_g i = [.int .i64 ((ofMark (l_g i)).edge), .int .i64 ((ofMark (l_g i)).place), .int .i64 ((ofMark (l_g i)).tone)]) ∧ s_valM1_p (⟨l_n, fun i => ofMark (l_g i)⟩ : (L.Sq L.Mark)), s_valM1_n (⟨l_n, fun i => ofMark (l_g i)⟩ : (L.Sq L.Mark)), s_valM1_i (⟨l_n, fun i => ofMark (l_g i)⟩ : (L.Sq L.Mark)))
  | _ => none
abbrev s_valM1_it : ItSpec := itOf s_valM1_ic
def s_valM1_C : Cfg := { muts := [], frz := lookN [], specs := lookS [], loops := fun _ => none, iters := lookI [], rfs := lookR [] }
theorem s_valM1_vc (yl : Nat) (l : (L.Sq L.Mark)) (hp : s_valM1_p l) : vc Tryz.prog { s_valM1_C with loops := lookL [(1, { T := Nat, keep := [0, 1, 5, 6], keepO := [], chg := fun i => [(7, .p (.int .i64 (i : Int)))], own := fun _ => [], inv := fun i => i ≤ l.n, mu := fun i => l.n - i, yk := some (fun i => i) })], yld := some ⟨yl, s_valM1_n l, s_valM1_i l⟩ } (bodyOf Tryz.f198) (st0 Tryz.f198 (.yield yl :: ([.ref [.sl 3 l.n (fun i => [.int .i64 ((l.g i).edge), .int .i64 ((l.g i).place), .int .i64 ((l.g i).tone)])] 0] : List SV).map .p)) (retIt Tryz.prog Tryz.f198 (s_valM1_n l)) :=
  @Eq.mpr _ ((∃ (g : Nat), nat_lit 0 = g ∧ Bool.false = Bool.false ∧ (0 : Int) = (↑g : Int) ∧ g ≤ l.n) ∧ ∀ (g : Nat), g ≤ l.n → (Decidable.decide ((↑g : Int) < (↑l.n : Int)) = Bool.true → ((0 : Int) ≤ (↑g : Int) ∧ (↑g : Int) < (↑l.n : Int)) ∧ yl = yl ∧ g < l.n ∧ [Go.SE.SV.agg [Go.SE.SV.int Go.IntKind.i64 (l.g (Int.toNat (↑g : Int))).edge, Go.SE.SV.int Go.IntKind.i64 (l.g (Int.toNat (↑g : Int))).place,
 Go.SE.SV.int Go.IntKind.i64 (l.g (Int.toNat (↑g : Int))).tone]] = [Go.SE.SV.agg [Go.SE.SV.int Go.IntKind.i64 (l.g (Int.toNat (↑g : Int))).edge, Go.SE.SV.int Go.IntKind.i64 (l.g (Int.toNat (↑g : Int))).place, Go.SE.SV.int Go.IntKind.i64 (l.g (Int.toNat (↑g : Int))).tone]] ∧ ((Bool.false = Bool.true → g + (1 : Nat) = l.n ∨ g + (1 : Nat) = l.n + (1 : Nat)) ∧ (Bool.false = Bool.false → Go.SE.InK
 Go.IntKind.i64 ((↑g : Int) + (1 : Int)) ∧ ∃ (g' : Nat), g + (1 : Nat) = g' ∧ Bool.false = Bool.false ∧ (↑g : Int) + (1 : Int) = (↑g' : Int) ∧ (↑l.n : Int) = (↑l.n : Int) ∧ (l.n = l.n ∧ ∀ (i : Nat), i < l.n → [Go.SE.SV.int Go.IntKind.i64 (l.g i).edge, Go.SE.SV.int Go.IntKind.i64 (l.g i).place, Go.SE.SV.int Go.IntKind.i64 (l.g i).tone] = [Go.SE.SV.int Go.IntKind.i64 (l.g i).edge, Go.SE.SV.int
 Go.IntKind.i64 (l.g i).place, Go.SE.SV.int Go.IntKind.i64 (l.g i).tone]) ∧ yl = yl ∧ Go.SE.SV.ref [Go.SE.SV.sl (nat_lit 3) l.n fun (i : Nat) ↦ [Go.SE.SV.int Go.IntKind.i64 (l.g i).edge, Go.SE.SV.int Go.IntKind.i64 (l.g i).place, Go.SE.SV.int Go.IntKind.i64 (l.g i).tone]] (nat_lit 0) = Go.SE.SV.ref [Go.SE.SV.sl (nat_lit 3) l.n fun (i : Nat) ↦ [Go.SE.SV.int Go.IntKind.i64 (l.g i).edge, Go.SE.SV.int
 Go.IntKind.i64 (l.g i).place, Go.SE.SV.int Go.IntKind.i64 (l.g i).tone]] (nat_lit 0) ∧ g' ≤ l.n ∧ l.n - g' < l.n - g)) ∧ (Bool.true = Bool.true → l.n + (1 : Nat) = l.n ∨ l.n + (1 : Nat) = l.n + (1 : Nat)) ∧ (Bool.true = Bool.false → Go.SE.InK Go.IntKind.i64 ((↑g : Int) + (1 : Int)) ∧ ∃ (g' : Nat), l.n + (1 : Nat) = g' ∧ Bool.false = Bool.false ∧ (↑g : Int) + (1 : Int) = (↑g' : Int) ∧ (↑l.n : Int)
 = (↑l.n : Int) ∧ (l.n = l.n ∧ ∀ (i : Nat), i < l.n → [Go.SE.SV.int Go.IntKind.i64 (l.g i).edge, Go.SE.SV.int Go.IntKind.i64 (l.g i).place, Go.SE.SV.int Go.IntKind.i64 (l.g i).tone] = [Go.SE.SV.int Go.IntKind.i64 (l.g i).edge, Go.SE.SV.int Go.IntKind.i64 (l.g i).place, Go.SE.SV.int Go.IntKind.i64 (l.g i).tone]) ∧ yl = yl ∧ Go.SE.SV.ref [Go.SE.SV.sl (nat_lit 3) l.n fun (i : Nat) ↦ [Go.SE.SV.int
 Go.IntKind.i64 (l.g i).edge, Go.SE.SV.int Go.IntKind.i64 (l.g i).place, Go.SE.SV.int Go.IntKind.i64 (l.g i).tone]] (nat_lit 0) = Go.SE.SV.ref [Go.SE.SV.sl (nat_lit 3) l.n fun (i : Nat) ↦ [Go.SE.SV.int Go.IntKind.i64 (l.g i).edge, Go.SE.SV.int Go.IntKind.i64 (l.g i).place, Go.SE.SV.int Go.IntKind.i64 (l.g i).tone]] (nat_lit 0) ∧ g' ≤ l.n ∧ l.n - g' < l.n - g)) ∧ (Decidable.decide ((↑g : Int) <
 (↑l.n : Int)) = Bool.false → g = l.n ∨ g = l.n + (1 : Nat))) (by kernel_rfl) (by
    have hn : l.n ≤ 1000000 := hp
    refine ⟨⟨(0 : Nat), rfl, rfl, rfl, Nat.zero_le _⟩, fun g hg => ⟨fun hlt => ?_, fun hge => ?_⟩⟩
    · have hb : (g : Int) < (l.n : Int) := of_decide_eq_true hlt
      refine ⟨⟨by omega, hb⟩, rfl, by omega, rfl, ?_⟩
      exact ⟨⟨fun h => (by cases h), fun _ => ⟨InK.of (by omega) (by omega), g + 1, rfl, rfl, by omega, rfl, ⟨rfl, fun _ _ => rfl⟩, rfl, rfl, by omega, by omega⟩⟩, fun _ => .inr rfl, fun h => (by cases h)⟩
    · have hb : ¬ (g : Int) < (l.n : Int) := of_decide_eq_false hge
      exact .inl (by omega))
theorem s_valM1_itok : ItOk Tryz.prog 198 s_valM1_it := iterX Tryz.func198 (c := bodyOf Tryz.f198) (by kernel_rfl) mixed (fun caps l p n g hs hp => by
  unfold s_valM1_ic at hs
  split at hs
  · cases hs; exact ⟨_, _, s_valM1_vc l _ hp.2, (.cons (Ext.ref rfl (fun i hi => by
      rcases i with _ | i
      · show Ext (SV.sl _ _ _) (SV.sl _ _ _); exact (Ext.sl hp.1)
      exact absurd hi (by simp; try omega))) .nil), rfl, show SpecsL Tryz.prog _ from SpecsL.nil, ⟨show ItersL Tryz.prog _ from ItersL.nil, TrsOk.none (fun _ => rfl)⟩⟩
  · cases hs)
theorem s_valM1_en : Enters Tryz.prog 198 := fun args w => by kernel_rfl
def s_valM_p (l : (L.Sq L.Mark)) : Prop := l.n ≤ 1000000
def s_valM_r (l : (L.Sq L.Mark)) : SV := .clo 198 [.ref [(.sl 3 l.n (fun i => [.int .i64 ((l.g i).edge), .int .i64 ((l.g i).place), .int .i64 ((l.g i).tone)]))] 0]
def s_valM_s : List EV → Option (Prop × SV)
  | [.p (.sl 3 l_n l_g)] => some ((∀ i, i < l_n → l_g i = [.int .i64 ((ofMark (l_g i)).edge), .int .i64 ((ofMark (l_g i)).place), .int .i64 ((ofMark (l_g i)).tone)]) ∧ s_valM_p (⟨l_n, fun i => ofMark (l_g i)⟩ : (L.Sq L.Mark)), s_valM_r (⟨l_n, fun i => ofMark (l_g i)⟩ : (L.Sq L.Mark)))
  | _ => none
abbrev s_valM_S : SE.Spec := (specO s_valM_s)
def s_valM_C : Cfg := { muts := [], frz := lookN [], specs := lookS [], loops := lookL [], iters := lookI [], rfs := lookR [], nils := lookM [] }
theorem s_valM_vc (l : (L.Sq L.Mark)) (hp : s_valM_p l) : vc Tryz.prog (s_valM_C) (bodyOf Tryz.f178) (st0 Tryz.f178 [.p (.sl 3 l.n (fun i => [.int .i64 ((l.g i).edge), .int .i64 ((l.g i).place), .int .i64 ((l.g i).tone)]))]) (retFn Tryz.prog Tryz.f178 (s_valM_r l)) :=
  @Eq.mpr _ (Go.SE.SV.clo (nat_lit 198) [Go.SE.SV.ref [Go.SE.SV.sl (nat_lit 3) l.n fun (i : Nat) ↦ [Go.SE.SV.int Go.IntKind.i64 (l.g i).edge, Go.SE.SV.int Go.IntKind.i64 (l.g i).place, Go.SE.SV.int Go.IntKind.i64 (l.g i).tone]] (nat_lit 0)] = Go.SE.SV.clo (nat_lit 198) [Go.SE.SV.ref [Go.SE.SV.sl (nat_lit 3) l.n fun (i : Nat) ↦ [Go.SE.SV.int Go.IntKind.i64 (l.g i).edge, Go.SE.SV.int Go.IntKind.i64 (l.g
 i).place, Go.SE.SV.int Go.IntKind.i64 (l.g i).tone]] (nat_lit 0)]) (by kernel_rfl) (by
    rfl)
theorem s_valM_ok : SpecOk Tryz.prog 178 s_valM_S := fnX Tryz.func178 (c := bodyOf Tryz.f178) (by kernel_rfl) mixed (fun args p r hs hp => by
  unfold s_valM_s at hs
  split at hs
  · cases hs; exact ⟨_, _, s_valM_vc _ hp.2, (.p (.sl hp.1) .nil), ⟨show SpecsL Tryz.prog _ from SpecsL.nil, rfl, ⟨show ItersL Tryz.prog _ from ItersL.nil, (TrsOk.none (fun _ => rfl))⟩⟩⟩
  · cases hs)
theorem s_valM_en : Enters Tryz.prog 178 := fun args w => by kernel_rfl
def s_appSeqM_p (s : Nat) (l : (L.Sq L.Mark)) : Prop := l.n ≤ 1000000
def s_appSeqM_q (s : Nat) (l : (L.Sq L.Mark)) : Nat → Prop := fun _ => True
def s_appSeqM_n (s : Nat) (l : (L.Sq L.Mark)) : Nat → Nat := fun _ => l.n
def s_appSeqM_g (s : Nat) (l : (L.Sq L.Mark)) : Nat → Nat → List SV := fun _ k => [.int .i64 ((l.g k).edge), .int .i64 ((l.g k).place), .int .i64 ((l.g k).tone)]
def s_appSeqM_s : List EV → Option (Prop × (Nat → Prop) × (Nat → Nat) × (Nat → Nat → List SV))
  | [.p (.raw (.slice none 0 0)), .p (.clo 198 [.ref [.sl 3 l_n l_g] 0])] => some ((∀ i, i < l_n → l_g i = [.int .i64 ((ofMark (l_g i)).edge), .int .i64 ((ofMark (l_g i)).place), .int .i64 ((ofMark (l_g i)).tone)]) ∧ s_appSeqM_p (0 : Nat) (⟨l_n, fun i => ofMark (l_g i)⟩ : (L.Sq L.Mark)), s_appSeqM_q (0 : Nat) (⟨l_n, fun i => ofMark (l_g i)⟩ : (L.Sq L.Mark)), s_appSeqM_n (0 : Nat) (⟨l_n, fun i => ofMark (l_g i)⟩ : (L.Sq L.Mark)), s_appSeqM_g (0 : Nat) (⟨l_n, fun i => ofMark (l_g i)⟩ : (L.Sq L.Mark)))
  | _ => none
abbrev s_appSeqM_S : SE.Spec := (specF Nat 0 87 3 s_appSeqM_s)
def s_appSeqM_C : Cfg := { muts := [2, 5], frz := lookN [], specs := lookS [], loops := lookL [], iters := lookI [(198, s_valM1_it)], rfs := lookR [], nils := lookM [(1, [(2, 10, 87, 3)])] }
theorem s_appSeqM_vc (s : Nat) (l : (L.Sq L.Mark)) (hp : s_appSeqM_p s l) : vc Tryz.prog ({ s_appSeqM_C with loops := lookL [], rfs := lookR [(2, { T := Nat, keep := [2], keepO := [], own := fun k _ => [(2, .blk 23 [.row 10]), (10, .row 87 3 k (fun k => [.int .i64 ((l.g k).edge), .int .i64 ((l.g k).place), .int .i64 ((l.g k).tone)]))], inv := fun k _ => k ≤ l.n })] }) (bodyOf Tryz.f213) (st0 Tryz.f213 [.p (.raw (.slice none 0 0)), .p (.clo 198 [.ref [.sl 3 l.n (fun i => [.int .i64 ((l.g i).edge), .int .i64 ((l.g i).place), .int .i64 ((l.g i).tone)])] 0])]) (retFresh Tryz.prog Tryz.f213 (Nat) (s_appSeqM_q s l) 87 3 (s_appSeqM_n s l) (s_appSeqM_g s l)) :=
  @Eq.mpr _ ((((∀ (i : Nat), i < l.n → [Go.SE.SV.int Go.IntKind.i64 (l.g i).edge, Go.SE.SV.int Go.IntKind.i64 (l.g i).place, Go.SE.SV.int Go.IntKind.i64 (l.g i).tone] = [Go.SE.SV.int Go.IntKind.i64 (l.g i).edge, Go.SE.SV.int Go.IntKind.i64 (l.g i).place, Go.SE.SV.int Go.IntKind.i64 (l.g i).tone]) ∧ l.n ≤ (1000000 : Nat)) ∧ ∃ (t : Nat), (nat_lit 0 = (0 : Nat) ∧ ∀ (i : Nat), i < nat_lit 0 → [] = [Go.SE.SV.int
 Go.IntKind.i64 (l.g i).edge, Go.SE.SV.int Go.IntKind.i64 (l.g i).place, Go.SE.SV.int Go.IntKind.i64 (l.g i).tone]) ∧ (0 : Nat) ≤ l.n) ∧ (∀ (k t : Nat) (vk : Nat → Go.Value), k < l.n → k ≤ l.n → (k + nat_lit 1) * nat_lit 24 ≤ (140737488355328 : Nat) ∧ ∃ (t' : Nat), nat_lit 0 = nat_lit 0 ∧ vk (nat_lit 2) = vk (nat_lit 2) ∧ (k + nat_lit 1 = k + (1 : Nat) ∧ ∀ (i : Nat), i < k + nat_lit 1 →
 Go.SE.appGet k (fun (k : Nat) ↦ [Go.SE.SV.int Go.IntKind.i64 (l.g k).edge, Go.SE.SV.int Go.IntKind.i64 (l.g k).place, Go.SE.SV.int Go.IntKind.i64 (l.g k).tone]) (fun (x : Nat) ↦ [Go.SE.SV.int Go.IntKind.i64 (l.g (Int.toNat (↑k : Int))).edge, Go.SE.SV.int Go.IntKind.i64 (l.g (Int.toNat (↑k : Int))).place, Go.SE.SV.int Go.IntKind.i64 (l.g (Int.toNat (↑k : Int))).tone]) i = [Go.SE.SV.int
 Go.IntKind.i64 (l.g i).edge, Go.SE.SV.int Go.IntKind.i64 (l.g i).place, Go.SE.SV.int Go.IntKind.i64 (l.g i).tone]) ∧ k + (1 : Nat) ≤ l.n) ∧ ∀ (t : Nat), l.n ≤ l.n → ∃ (t : Nat), (l.n = l.n ∧ ∀ (i : Nat), i < l.n → [Go.SE.SV.int Go.IntKind.i64 (l.g i).edge, Go.SE.SV.int Go.IntKind.i64 (l.g i).place, Go.SE.SV.int Go.IntKind.i64 (l.g i).tone] = [Go.SE.SV.int Go.IntKind.i64 (l.g i).edge, Go.SE.SV.int
 Go.IntKind.i64 (l.g i).place, Go.SE.SV.int Go.IntKind.i64 (l.g i).tone]) ∧ True) (by kernel_rfl) (by
    have hn : l.n ≤ 1000000 := hp
    refine ⟨⟨⟨fun _ _ => rfl, hn⟩, (0 : Nat), ⟨rfl, fun i hi => absurd hi (Nat.not_lt_zero _)⟩, Nat.zero_le _⟩, fun k t vk hk hi => ⟨show (k + 1) * 24 ≤ 140737488355328 by omega, (0 : Nat), rfl, rfl, ⟨rfl, fun i hi => ?_⟩, by omega⟩, fun t hi => ⟨(0 : Nat), ⟨rfl, fun _ _ => rfl⟩, trivial⟩⟩
    have hi : i < k + 1 := hi
    have e0 : ((k : Int)).toNat = k := by omega
    unfold appGet
    by_cases h' : i < k
    · rw [if_pos h']
    · rw [if_neg h']
      obtain rfl : i = k := by omega
      dsimp only
      rw [e0])
theorem s_appSeqM_ok : SpecOk Tryz.prog 213 s_appSeqM_S := freshX Tryz.func213 (c := bodyOf Tryz.f213) (by kernel_rfl) mixed (fun args p q n g hs hp => by
  unfold s_appSeqM_s at hs
  split at hs
  · cases hs; exact ⟨_, _, s_appSeqM_vc _ _ hp.2, (.same _ (.p (Ext.clo rfl (fun i hi => by
      rcases i with _ | i
      · show Ext (SV.ref _ _) (SV.ref _ _); exact (Ext.ref rfl (fun i hi => by
      rcases i with _ | i
      · show Ext (SV.sl _ _ _) (SV.sl _ _ _); exact (Ext.sl hp.1)
      exact absurd hi (by simp; try omega)))
      exact absurd hi (by simp; try omega))) .nil)), ⟨show SpecsL Tryz.prog _ from SpecsL.nil, rfl, ⟨show ItersL Tryz.prog _ from (ItersL.cons s_valM1_itok s_valM1_en ItersL.nil), (TrsOk.none (fun _ => rfl))⟩⟩⟩
  · cases hs)
theorem s_appSeqM_en : Enters Tryz.prog 213 := fun args w => by kernel_rfl
def s_collM_p (l : (L.Sq L.Mark)) : Prop := l.n ≤ 1000000
def s_collM_q (l : (L.Sq L.Mark)) : Nat → Prop := fun _ => True
def s_collM_n (l : (L.Sq L.Mark)) : Nat → Nat := fun _ => l.n
def s_collM_g (l : (L.Sq L.Mark)) : Nat → Nat → List SV := fun _ k => [.int .i64 ((l.g k).edge), .int .i64 ((l.g k).place), .int .i64 ((l.g k).tone)]
def s_collM_s : List EV → Option (Prop × (Nat → Prop) × (Nat → Nat) × (Nat → Nat → List SV))
  | [.p (.clo 198 [.ref [.sl 3 l_n l_g] 0])] => some ((∀ i, i < l_n → l_g i = [.int .i64 ((ofMark (l_g i)).edge), .int .i64 ((ofMark (l_g i)).place), .int .i64 ((ofMark (l_g i)).tone)]) ∧ s_collM_p (⟨l_n, fun i => ofMark (l_g i)⟩ : (L.Sq L.Mark)), s_collM_q (⟨l_n, fun i => ofMark (l_g i)⟩ : (L.Sq L.Mark)), s_collM_n (⟨l_n, fun i => ofMark (l_g i)⟩ : (L.Sq L.Mark)), s_collM_g (⟨l_n, fun i => ofMark (l_g i)⟩ : (L.Sq L.Mark)))
  | _ => none
abbrev s_collM_S : SE.Spec := (specF Nat 0 87 3 s_collM_s)
def s_collM_C : Cfg := { muts := [4], frz := lookN [], specs := lookS [(213, s_appSeqM_S)], loops := lookL [], iters := lookI [], rfs := lookR [], nils := lookM [], raws := [213] }
theorem s_collM_vc (l : (L.Sq L.Mark)) (hp : s_collM_p l) : vc Tryz.prog (s_collM_C) (bodyOf Tryz.f196) (st0 Tryz.f196 [.p (.clo 198 [.ref [.sl 3 l.n (fun i => [.int .i64 ((l.g i).edge), .int .i64 ((l.g i).place), .int .i64 ((l.g i).tone)])] 0])]) (retFresh Tryz.prog Tryz.f196 (Nat) (s_collM_q l) 87 3 (s_collM_n l) (s_collM_g l)) :=
  @Eq.mpr _ (((∀ (i : Nat), i < l.n → [Go.SE.SV.int Go.IntKind.i64 (l.g i).edge, Go.SE.SV.int Go.IntKind.i64 (l.g i).place, Go.SE.SV.int Go.IntKind.i64 (l.g i).tone] = [Go.SE.SV.int Go.IntKind.i64 (l.g i).edge, Go.SE.SV.int Go.IntKind.i64 (l.g i).place, Go.SE.SV.int Go.IntKind.i64 (l.g i).tone]) ∧ l.n ≤ (1000000 : Nat)) ∧ ∀ (t : Nat), True → ∃ (t : Nat), (l.n = l.n ∧ ∀ (i : Nat), i < l.n → [Go.SE.SV.int
 Go.IntKind.i64 (l.g i).edge, Go.SE.SV.int Go.IntKind.i64 (l.g i).place, Go.SE.SV.int Go.IntKind.i64 (l.g i).tone] = [Go.SE.SV.int Go.IntKind.i64 (l.g i).edge, Go.SE.SV.int Go.IntKind.i64 (l.g i).place, Go.SE.SV.int Go.IntKind.i64 (l.g i).tone]) ∧ True) (by kernel_rfl) (by
    exact ⟨⟨fun _ _ => rfl, hp⟩, fun t _ => ⟨(0 : Nat), ⟨rfl, fun _ _ => rfl⟩, trivial⟩⟩)
theorem s_collM_ok : SpecOk Tryz.prog 196 s_collM_S := freshX Tryz.func196 (c := bodyOf Tryz.f196) (by kernel_rfl) mixed (fun args p q n g hs hp => by
  unfold s_collM_s at hs
  split at hs
  · cases hs; exact ⟨_, _, s_collM_vc _ hp.2, (.p (Ext.clo rfl (fun i hi => by
      rcases i with _ | i
      · show Ext (SV.ref _ _) (SV.ref _ _); exact (Ext.ref rfl (fun i hi => by
      rcases i with _ | i
      · show Ext (SV.sl _ _ _) (SV.sl _ _ _); exact (Ext.sl hp.1)
      exact absurd hi (by simp; try omega)))
      exact absurd hi (by simp; try omega))) .nil), ⟨show SpecsL Tryz.prog _ from (SpecsL.cons s_appSeqM_ok s_appSeqM_en SpecsL.nil), rfl, ⟨show ItersL Tryz.prog _ from ItersL.nil, (TrsOk.none (fun _ => rfl))⟩⟩⟩
  · cases hs)
theorem s_collM_en : Enters Tryz.prog 196 := fun args w => by kernel_rfl
def s_sortedM_p (l : (L.Sq L.Mark)) : Prop := l.n ≤ 1000000
def s_sortedM_q (l : (L.Sq L.Mark)) : Nat → Prop := fun _ => True
def s_sortedM_n (l : (L.Sq L.Mark)) : Nat → Nat := fun _ => l.n
def s_sortedM_g (l : (L.Sq L.Mark)) : Nat → Nat → List SV := fun _ k => [.int .i64 (((L.sortM l).g k).edge), .int .i64 (((L.sortM l).g k).place), .int .i64 (((L.sortM l).g k).tone)]
def s_sortedM_s : List EV → Option (Prop × (Nat → Prop) × (Nat → Nat) × (Nat → Nat → List SV))
  | [.p (.clo 198 [.ref [.sl 3 l_n l_g] 0]), .p (.clo 129 [])] => some ((∀ i, i < l_n → l_g i = [.int .i64 ((ofMark (l_g i)).edge), .int .i64 ((ofMark (l_g i)).place), .int .i64 ((ofMark (l_g i)).tone)]) ∧ s_sortedM_p (⟨l_n, fun i => ofMark (l_g i)⟩ : (L.Sq L.Mark)), s_sortedM_q (⟨l_n, fun i => ofMark (l_g i)⟩ : (L.Sq L.Mark)), s_sortedM_n (⟨l_n, fun i => ofMark (l_g i)⟩ : (L.Sq L.Mark)), s_sortedM_g (⟨l_n, fun i => ofMark (l_g i)⟩ : (L.Sq L.Mark)))
  | _ => none
abbrev s_sortedM_S : SE.Spec := (specF Nat 0 87 3 s_sortedM_s)
def s_sortedM_C : Cfg := { muts := [7], frz := lookN [], specs := lookS [(196, s_collM_S), (129, g_cmpMarks_S)], loops := lookL [], iters := lookI [], rfs := lookR [], nils := lookM [], trs := lookT [(197, s_sortMk_tr)], ren := fun k => k - 998, raws := [196] }
theorem s_sortedM_vc (l : (L.Sq L.Mark)) (hp : s_sortedM_p l) : vc Tryz.prog (s_sortedM_C) (bodyOf Tryz.f177) (st0 Tryz.f177 [.p (.clo 198 [.ref [.sl 3 l.n (fun i => [.int .i64 ((l.g i).edge), .int .i64 ((l.g i).place), .int .i64 ((l.g i).tone)])] 0]), .p (.clo 129 [])]) (retFresh Tryz.prog Tryz.f177 (Nat) (s_sortedM_q l) 87 3 (s_sortedM_n l) (s_sortedM_g l)) :=
  @Eq.mpr _ (((∀ (i : Nat), i < l.n → [Go.SE.SV.int Go.IntKind.i64 (l.g i).edge, Go.SE.SV.int Go.IntKind.i64 (l.g i).place, Go.SE.SV.int Go.IntKind.i64 (l.g i).tone] = [Go.SE.SV.int Go.IntKind.i64 (l.g i).edge, Go.SE.SV.int Go.IntKind.i64 (l.g i).place, Go.SE.SV.int Go.IntKind.i64 (l.g i).tone]) ∧ l.n ≤ (1000000 : Nat)) ∧ ∀ (t : Nat), True → ∃ (t : Nat × (Nat → L.Mark)), Go.SE.SV.clo (nat_lit 129) [] =
 Go.SE.SV.clo (129 : Nat) [] ∧ (l.n = t.1 ∧ ∀ (i : Nat), i < l.n → [Go.SE.SV.int Go.IntKind.i64 (l.g i).edge, Go.SE.SV.int Go.IntKind.i64 (l.g i).place, Go.SE.SV.int Go.IntKind.i64 (l.g i).tone] = [Go.SE.SV.int Go.IntKind.i64 (t.2 i).edge, Go.SE.SV.int Go.IntKind.i64 (t.2 i).place, Go.SE.SV.int Go.IntKind.i64 (t.2 i).tone]) ∧ t.1 ≤ (1000000 : Nat) ∧ ∀ (u : Nat → L.Mark), Go.SE.SortedBy L.cmpMark
 t.1 t.2 u → ∃ (t_1 : Nat), (t.1 = l.n ∧ ∀ (i : Nat), i < t.1 → [Go.SE.SV.int Go.IntKind.i64 (u i).edge, Go.SE.SV.int Go.IntKind.i64 (u i).place, Go.SE.SV.int Go.IntKind.i64 (u i).tone] = [Go.SE.SV.int Go.IntKind.i64 ((L.sortM l).g i).edge, Go.SE.SV.int Go.IntKind.i64 ((L.sortM l).g i).place, Go.SE.SV.int Go.IntKind.i64 ((L.sortM l).g i).tone]) ∧ True) (by kernel_rfl) (by
    have hn : l.n ≤ 1000000 := hp
    refine ⟨⟨fun _ _ => rfl, hn⟩, fun t _ => ⟨(l.n, l.g), rfl, ⟨rfl, fun _ _ => rfl⟩, hn, fun u hu => ⟨(0 : Nat), ⟨rfl, fun i hi => ?_⟩, trivial⟩⟩⟩
    rw [sortM_is (l := l) hu i hi])
theorem s_sortedM_ok : SpecOk Tryz.prog 177 s_sortedM_S := freshX Tryz.func177 (c := bodyOf Tryz.f177) (by kernel_rfl) mixed (fun args p q n g hs hp => by
  unfold s_sortedM_s at hs
  split at hs
  · cases hs; exact ⟨_, _, s_sortedM_vc _ hp.2, (.p (Ext.clo rfl (fun i hi => by
      rcases i with _ | i
      · show Ext (SV.ref _ _) (SV.ref _ _); exact (Ext.ref rfl (fun i hi => by
      rcases i with _ | i
      · show Ext (SV.sl _ _ _) (SV.sl _ _ _); exact (Ext.sl hp.1)
      exact absurd hi (by simp; try omega)))
      exact absurd hi (by simp; try omega))) (.p (Ext.clo rfl (fun i hi => by
      
      exact absurd hi (by simp; try omega))) .nil)), ⟨show SpecsL Tryz.prog _ from (SpecsL.cons s_collM_ok s_collM_en (SpecsL.cons g_cmpMarks_ok g_cmpMarks_en SpecsL.nil)), rfl, ⟨show ItersL Tryz.prog _ from ItersL.nil, (show TrsL Tryz.prog _ from (TrsL.cons s_sortMk_tok s_sortMk_en TrsL.nil))⟩⟩⟩
  · cases hs)
theorem s_sortedM_en : Enters Tryz.prog 177 := fun args w => by kernel_rfl
end Go.Proofs.YtooapgllahonaaaGreat

namespace Go.Proofs.YtooapgllahonaaaGreat
open Go.SE Go.RowKit
set_option maxRecDepth 100000
set_option maxHeartbeats 4000000
set_option linter.unusedVariables false
attribute [local irreducible] Go.SE.vc

/-- Where a setting lays an edge, as a number of the whole line. -/
def L.sg (b : Bool) : Int := bif b then -1 else 1
theorem emod_lin (a e b n : Int) : (a + e * (b % n)) % n = (a + e * b) % n := by
  have h : a + e * (b % n) = a + e * b + n * (-(e * (b / n))) := by
    rw [Int.emod_def]
    simp only [Int.mul_sub, Int.mul_neg, ← Int.mul_assoc, Int.mul_comm n e, Int.mul_left_comm n e]
    omega
  rw [h, Int.add_mul_emod_self_left]
theorem lay_lin {s : L.Setting} {n i : Int} (h0 : 0 ≤ s.shift) (h1 : s.shift < n) (h2 : 0 ≤ i) (h3 : i < n) : L.lay s n i = (s.shift + L.sg s.back * i) % n := by
  unfold L.lay L.sg
  cases s.back with
  | true =>
    simp only [cond_true]
    rw [Int.tmod_eq_emod_of_nonneg (by omega), show s.shift + n - i = s.shift + -1 * i + n by omega, Int.add_emod_right]
  | false =>
    simp only [cond_false]
    rw [Int.tmod_eq_emod_of_nonneg (by omega), Int.one_mul]
theorem sg_xor (a b : Bool) : L.sg (!(a == b)) = L.sg b * L.sg a := by cases a <;> cases b <;> rfl
theorem comp_ok {s t : L.Setting} {n : Int} (hs : L.validSet s n = true) (ht : L.validSet t n = true) : L.compE s t n = 0 ∧ L.comp s t n = ⟨(t.shift + L.sg t.back * s.shift) % n, !(s.back == t.back)⟩ ∧ L.validSet (L.comp s t n) n = true := by
  have a := validSet_iff.1 hs
  have b := validSet_iff.1 ht
  have e : L.compE s t n = 0 := by unfold L.compE; rw [hs, ht]; rfl
  have e2 : L.comp s t n = ⟨(t.shift + L.sg t.back * s.shift) % n, !(s.back == t.back)⟩ := by
    unfold L.comp
    rw [e, lay_lin b.2.1 b.2.2 a.2.1 a.2.2]; rfl
  refine ⟨e, e2, validSet_iff.2 ⟨a.1, ?_⟩⟩
  rw [e2]
  exact ⟨Int.emod_nonneg _ (by omega), Int.emod_lt_of_pos _ (by omega)⟩
theorem comp_assoc {s t u : L.Setting} {n : Int} (hs : L.validSet s n = true) (ht : L.validSet t n = true) (hu : L.validSet u n = true) : L.comp (L.comp s t n) u n = L.comp s (L.comp t u n) n := by
  obtain ⟨_, e1, v1⟩ := comp_ok hs ht
  obtain ⟨_, e2, v2⟩ := comp_ok ht hu
  obtain ⟨_, e3, _⟩ := comp_ok v1 hu
  obtain ⟨_, e4, _⟩ := comp_ok hs v2
  have A : (u.shift + L.sg u.back * ((t.shift + L.sg t.back * s.shift) % n)) % n = ((u.shift + L.sg u.back * t.shift) % n + L.sg (!(t.back == u.back)) * s.shift) % n := by
    rw [emod_lin, sg_xor, Int.emod_add_emod, Int.mul_add, Int.mul_assoc, Int.add_assoc]
  have B : (!((!(s.back == t.back)) == u.back)) = !(s.back == !(t.back == u.back)) := by
    cases s.back <;> cases t.back <;> cases u.back <;> rfl
  rw [e3, e4, e1, e2]
  dsimp only
  rw [A, B]
def L.one : L.Setting := ⟨0, false⟩
theorem one_valid {s : L.Setting} {n : Int} (hs : L.validSet s n = true) : L.validSet L.one n = true := by
  have a := validSet_iff.1 hs
  exact validSet_iff.2 ⟨a.1, Int.le_refl _, show (0 : Int) < n by omega⟩
theorem set_ext {s t : L.Setting} (h : s.shift = t.shift) (k : s.back = t.back) : s = t := by cases s; cases t; simp only at h k; rw [h, k]
theorem comp_one {s : L.Setting} {n : Int} (hs : L.validSet s n = true) : L.comp s L.one n = s := by
  have a := validSet_iff.1 hs
  rw [(comp_ok hs (one_valid hs)).2.1]
  refine set_ext ?_ ?_
  · show (0 + 1 * s.shift) % n = s.shift
    rw [Int.zero_add, Int.one_mul, Int.emod_eq_of_lt a.2.1 a.2.2]
  · show (!(s.back == false)) = s.back
    cases s.back <;> rfl
theorem one_comp {s : L.Setting} {n : Int} (hs : L.validSet s n = true) : L.comp L.one s n = s := by
  have a := validSet_iff.1 hs
  rw [(comp_ok (one_valid hs) hs).2.1]
  refine set_ext ?_ ?_
  · show (s.shift + L.sg s.back * 0) % n = s.shift
    rw [Int.mul_zero, Int.add_zero, Int.emod_eq_of_lt a.2.1 a.2.2]
  · show (!(false == s.back)) = s.back
    cases s.back <;> rfl
theorem inv_ok {s : L.Setting} {n : Int} (hs : L.validSet s n = true) : L.invE s n = 0 ∧ L.validSet (L.inv s n) n = true ∧ L.comp s (L.inv s n) n = L.one := by
  have a := validSet_iff.1 hs
  have hv : L.validSet (L.inv s n) n = true := by
    unfold L.inv
    rw [hs]
    cases hb : s.back with
    | true => exact hs
    | false =>
      refine validSet_iff.2 ⟨a.1, ?_⟩
      show 0 ≤ Int.tmod (n - s.shift) n ∧ Int.tmod (n - s.shift) n < n
      exact ⟨Int.tmod_nonneg _ (by omega), Int.tmod_lt_of_pos _ (by omega)⟩
  refine ⟨by unfold L.invE; rw [hs]; rfl, hv, ?_⟩
  rw [(comp_ok hs hv).2.1]
  unfold L.inv
  rw [hs]
  cases hb : s.back with
  | true =>
    simp only [cond_true]
    refine set_ext ?_ ?_
    · show (s.shift + L.sg s.back * s.shift) % n = 0
      rw [hb]
      show (s.shift + -1 * s.shift) % n = 0
      rw [show s.shift + -1 * s.shift = 0 by omega, Int.zero_emod]
    · show (!(true == s.back)) = false
      rw [hb]; rfl
  | false =>
    simp only [cond_true, cond_false]
    refine set_ext ?_ ?_
    · show (Int.tmod (n - s.shift) n + 1 * s.shift) % n = 0
      rw [Int.tmod_eq_emod_of_nonneg (by omega), Int.emod_add_emod, Int.one_mul, show n - s.shift + s.shift = n by omega, Int.emod_self]
    · rfl
theorem lay_comp {s t : L.Setting} {n i : Int} (hs : L.validSet s n = true) (ht : L.validSet t n = true) (h0 : 0 ≤ i) (h1 : i < n) : L.lay t n (L.lay s n i) = L.lay (L.comp s t n) n i ∧ 0 ≤ L.lay s n i ∧ L.lay s n i < n := by
  have a := validSet_iff.1 hs
  have b := validSet_iff.1 ht
  obtain ⟨_, e1, v1⟩ := comp_ok hs ht
  have c := validSet_iff.1 v1
  have l1 := lay_lin a.2.1 a.2.2 h0 h1
  have r1 : 0 ≤ L.lay s n i ∧ L.lay s n i < n := by
    rw [l1]; exact ⟨Int.emod_nonneg _ (by omega), Int.emod_lt_of_pos _ (by omega)⟩
  refine ⟨?_, r1⟩
  rw [lay_lin b.2.1 b.2.2 r1.1 r1.2, lay_lin c.2.1 c.2.2 h0 h1, l1, e1]
  dsimp only
  rw [emod_lin, sg_xor, Int.emod_add_emod, Int.mul_add, Int.mul_assoc, Int.add_assoc]
theorem ed_ok {s : L.Setting} {n i : Int} (hs : L.validSet s n = true) (h0 : 0 ≤ i) (h1 : i < n) : L.edE s n i = 0 ∧ L.ed s n i = L.lay s n i := by
  have e : L.edE s n i = 0 := by
    unfold L.edE
    rw [hs, within_iff.2 ⟨h0, by omega⟩]; rfl
  exact ⟨e, by unfold L.ed; rw [e]; rfl⟩
theorem one_inv {s : L.Setting} {n : Int} (hs : L.validSet s n = true) : L.comp (L.inv s n) s n = L.one := by
  have i1 := inv_ok hs
  have i2 := inv_ok i1.2.1
  have v := (comp_ok i1.2.1 hs).2.2
  have a1 := comp_assoc i1.2.1 hs i1.2.1
  rw [i1.2.2, comp_one i1.2.1] at a1
  have a2 := comp_assoc v i1.2.1 i2.2.1
  rw [a1, i2.2.2, comp_one v] at a2
  exact a2.symm
theorem inv_of {s t : L.Setting} {n : Int} (hs : L.validSet s n = true) (ht : L.validSet t n = true) (h : L.comp s t n = L.one) : L.inv s n = t := by
  have i1 := inv_ok hs
  have a := comp_assoc i1.2.1 hs ht
  rw [one_inv hs, one_comp ht, h, comp_one i1.2.1] at a
  exact a.symm
end Go.Proofs.YtooapgllahonaaaGreat

namespace Go.Proofs.YtooapgllahonaaaGreat
open Go.SE Go.RowKit
set_option maxRecDepth 100000
set_option maxHeartbeats 4000000
set_option linter.unusedVariables false
attribute [local irreducible] Go.SE.vc

def L.rsI (s : L.Setting) (n j : Nat) : Nat := (L.lay (L.inv s n) n j).toNat
def L.rsG1 (p : L.Piece) (s : L.Setting) (i : Nat) : L.Gauge := bif s.back then ⟨(p.gauges.g i).edge, (p.gauges.g (L.prev p.gauges.n i)).across, (p.gauges.g (L.prev p.gauges.n i)).bend⟩ else p.gauges.g i
def L.rsTo (p : L.Piece) (s : L.Setting) (i j : Nat) : L.Gauge := bif decide (L.rsI s p.gauges.n j < i) then L.rsG1 p s (L.rsI s p.gauges.n j) else ⟨⟨0, 0⟩, ⟨0, 0⟩, 0⟩
def L.rsGs (p : L.Piece) (s : L.Setting) : L.Sq L.Gauge := ⟨p.gauges.n, fun j => L.rsG1 p s (L.rsI s p.gauges.n j)⟩
def L.rsM1 (s : L.Setting) (n : Nat) (m : L.Mark) : L.Mark := ⟨L.lay s n m.edge, bif s.back then 16 - m.place else m.place, m.tone⟩
def L.rsMs (l : L.Sq L.Mark) (s : L.Setting) (n : Nat) : L.Sq L.Mark := ⟨l.n, fun k => L.rsM1 s n (l.g k)⟩
def L.rsMTo (l : L.Sq L.Mark) (s : L.Setting) (n i k : Nat) : L.Mark := bif decide (k < i) then L.rsM1 s n (l.g k) else l.g k
def L.rs (p : L.Piece) (s : L.Setting) : L.Piece := ⟨p.id, bif s.back then p.rev else p.colour, bif s.back then p.colour else p.rev, p.made, p.swell, L.rsGs p s, L.sortM (L.rsMs p.marks s p.gauges.n)⟩
theorem lay_one {n i : Int} (h0 : 0 ≤ i) (h1 : i < n) : L.lay L.one n i = i := by
  rw [lay_lin (s := L.one) (Int.le_refl 0) (show (0 : Int) < n by omega) h0 h1]
  show (0 + 1 * i) % n = i
  rw [Int.zero_add, Int.one_mul, Int.emod_eq_of_lt h0 h1]
theorem rsI_lay {s : L.Setting} {n i : Nat} (hs : L.validSet s n = true) (hi : i < n) : 0 ≤ L.lay s n i ∧ L.lay s n i < n ∧ L.rsI s n (L.lay s n i).toNat = i := by
  have h := inv_ok hs
  obtain ⟨e, a, b⟩ := lay_comp hs h.2.1 (i := (i : Int)) (by omega) (by omega)
  refine ⟨a, b, ?_⟩
  unfold L.rsI
  rw [Int.toNat_of_nonneg a, e, h.2.2, lay_one (by omega) (by omega), Int.toNat_natCast]
theorem lay_rsI {s : L.Setting} {n j : Nat} (hs : L.validSet s n = true) (hj : j < n) : L.rsI s n j < n ∧ L.lay s n ((L.rsI s n j : Nat) : Int) = (j : Int) := by
  have h := inv_ok hs
  obtain ⟨e, a, b⟩ := lay_comp h.2.1 hs (i := (j : Int)) (by omega) (by omega)
  unfold L.rsI
  rw [one_inv hs, lay_one (by omega) (by omega)] at e
  exact ⟨by omega, by rw [Int.toNat_of_nonneg a, e]⟩
theorem rsTo_step {p : L.Piece} {s : L.Setting} {i : Nat} (hs : L.validSet s p.gauges.n = true) (hi : i < p.gauges.n) {j : Nat} (hj : j < p.gauges.n) : L.rsTo p s (i + 1) j = if j = (L.lay s p.gauges.n i).toNat then L.rsG1 p s i else L.rsTo p s i j := by
  obtain ⟨a, b, c⟩ := rsI_lay hs hi
  obtain ⟨d, e⟩ := lay_rsI hs hj
  unfold L.rsTo
  by_cases h : j = (L.lay s p.gauges.n i).toNat
  · rw [if_pos h, h, c, decide_eq_true (Nat.lt_succ_self i)]; rfl
  · rw [if_neg h]
    have hne : L.rsI s p.gauges.n j ≠ i := fun hx => by rw [hx] at e; omega
    by_cases hl : L.rsI s p.gauges.n j < i
    · rw [decide_eq_true hl, decide_eq_true (by omega)]
    · rw [decide_eq_false hl, decide_eq_false (by omega)]
theorem fif {p : Prop} (h : p) : (((p ∧ p ∧ p) ∧ (p ∧ p) ∧ p) ∧ (p ∧ p ∧ p) ∧ p) ∧ ((p ∧ p ∧ p) ∧ p) ∧ p := ⟨⟨⟨⟨h, h, h⟩, ⟨h, h⟩, h⟩, ⟨h, h, h⟩, h⟩, ⟨⟨h, h, h⟩, h⟩, h⟩
theorem rsI_lt (s : L.Setting) {n : Nat} (hn : 0 < n) (j : Nat) : L.rsI s n j < n := by
  have h : ∀ x : Int, Int.tmod x n < n := fun x => Int.tmod_lt_of_pos x (by omega)
  unfold L.rsI L.lay
  cases (L.inv s n).back with
  | true => have := h ((L.inv s n).shift + n - j); rw [cond_true]; omega
  | false => have := h ((L.inv s n).shift + j); rw [cond_false]; omega
theorem rsTo_full {p : L.Piece} {s : L.Setting} (hn : 0 < p.gauges.n) (j : Nat) : L.rsTo p s p.gauges.n j = L.rsG1 p s (L.rsI s p.gauges.n j) := by
  unfold L.rsTo
  rw [decide_eq_true (rsI_lt s hn j)]; rfl
theorem sortM_congr {n : Nat} {f g : Nat → L.Mark} (h : ∀ k, k < n → f k = g k) : L.sortM ⟨n, f⟩ = L.sortM ⟨n, g⟩ := by
  have : L.listMk ⟨n, f⟩ = L.listMk ⟨n, g⟩ := List.map_congr_left fun k hk => h k (List.mem_range.1 hk)
  unfold L.sortM
  rw [this]
theorem rsMTo_at {l : L.Sq L.Mark} {s : L.Setting} {n q : Nat} : L.rsMTo l s n q q = l.g q := by
  unfold L.rsMTo; rw [decide_eq_false (Nat.lt_irrefl q)]; rfl
theorem rsMTo_step {l : L.Sq L.Mark} {s : L.Setting} {n q i : Nat} : L.rsMTo l s n (q + 1) i = if i = q then L.rsM1 s n (l.g q) else L.rsMTo l s n q i := by
  unfold L.rsMTo
  by_cases h : i = q
  · rw [if_pos h, h, decide_eq_true (Nat.lt_succ_self q)]; rfl
  · rw [if_neg h]
    by_cases hl : i < q
    · rw [decide_eq_true hl, decide_eq_true (by omega)]
    · rw [decide_eq_false hl, decide_eq_false (by omega)]
theorem piece_of {p : L.Piece} (h : L.validPiece p = true) : L.nums p = true ∧ L.gauges p.gauges = true ∧ L.vMarks p.marks p.gauges.n = true := by
  unfold L.validPiece at h
  rw [band, band, Bool.and_eq_true, Bool.and_eq_true] at h
  exact ⟨h.1.1, h.1.2, h.2⟩
theorem gauges_n {l : L.Sq L.Gauge} (h : L.gauges l = true) : 3 ≤ l.n ∧ l.n ≤ 24 := by
  unfold L.gauges at h
  rw [band, Bool.and_eq_true, within_iff] at h
  omega
theorem marks_in {l : L.Sq L.Mark} {n : Int} (h : L.vMarks l n = true) : l.n ≤ 32 ∧ ∀ k, k < l.n → (0 ≤ (l.g k).edge ∧ (l.g k).edge < n) ∧ (0 ≤ (l.g k).place ∧ (l.g k).place ≤ 16) ∧ 1 ≤ (l.g k).tone ∧ (l.g k).tone ≤ 16 := by
  unfold L.vMarks L.edges L.marks at h
  simp only [band, Bool.and_eq_true, decide_eq_true_eq, allB_iff, within_iff] at h
  refine ⟨by omega, fun k hk => ?_⟩
  have a := h.1 k hk
  have b := (h.2.2 k hk)
  unfold L.mark1 at b
  simp only [band, Bool.and_eq_true, bor, Bool.or_eq_true, Bool.not_eq_true', within_iff] at b
  omega
def g_sortedM_p (l : (L.Sq L.Mark)) : Prop := l.n ≤ 1000000
def g_sortedM_q (l : (L.Sq L.Mark)) : Nat → Prop := fun _ => True
def g_sortedM_n (l : (L.Sq L.Mark)) : Nat → Nat := fun _ => l.n
def g_sortedM_g (l : (L.Sq L.Mark)) : Nat → Nat → List SV := fun _ k => [.int .i64 (((L.sortM l).g k).edge), .int .i64 (((L.sortM l).g k).place), .int .i64 (((L.sortM l).g k).tone)]
def g_sortedM_s : List EV → Option (Prop × (Nat → Prop) × (Nat → Nat) × (Nat → Nat → List SV))
  | [.p (.sl 3 l_n l_g), .p (.clo 129 [])] => some ((∀ i, i < l_n → l_g i = [.int .i64 ((ofMark (l_g i)).edge), .int .i64 ((ofMark (l_g i)).place), .int .i64 ((ofMark (l_g i)).tone)]) ∧ g_sortedM_p (⟨l_n, fun i => ofMark (l_g i)⟩ : (L.Sq L.Mark)), g_sortedM_q (⟨l_n, fun i => ofMark (l_g i)⟩ : (L.Sq L.Mark)), g_sortedM_n (⟨l_n, fun i => ofMark (l_g i)⟩ : (L.Sq L.Mark)), g_sortedM_g (⟨l_n, fun i => ofMark (l_g i)⟩ : (L.Sq L.Mark)))
  | _ => none
abbrev g_sortedM_S : SE.Spec := (specF Nat 0 87 3 g_sortedM_s)
def g_sortedM_C : Cfg := { muts := [8], frz := lookN [], specs := lookS [(178, s_valM_S), (177, s_sortedM_S)], loops := lookL [], iters := lookI [], rfs := lookR [], nils := lookM [], raws := [177] }
theorem g_sortedM_vc (l : (L.Sq L.Mark)) (hp : g_sortedM_p l) : vc Tryz.prog (g_sortedM_C) (bodyOf Tryz.f128) (st0 Tryz.f128 [.p (.sl 3 l.n (fun i => [.int .i64 ((l.g i).edge), .int .i64 ((l.g i).place), .int .i64 ((l.g i).tone)])), .p (.clo 129 [])]) (retFresh Tryz.prog Tryz.f128 (Nat) (g_sortedM_q l) 87 3 (g_sortedM_n l) (g_sortedM_g l)) :=
  @Eq.mpr _ (((∀ (i : Nat), i < l.n → [Go.SE.SV.int Go.IntKind.i64 (l.g i).edge, Go.SE.SV.int Go.IntKind.i64 (l.g i).place, Go.SE.SV.int Go.IntKind.i64 (l.g i).tone] = [Go.SE.SV.int Go.IntKind.i64 (l.g i).edge, Go.SE.SV.int Go.IntKind.i64 (l.g i).place, Go.SE.SV.int Go.IntKind.i64 (l.g i).tone]) ∧ l.n ≤ (1000000 : Nat)) ∧ ((∀ (i : Nat), i < l.n → [Go.SE.SV.int Go.IntKind.i64 (l.g i).edge, Go.SE.SV.int
 Go.IntKind.i64 (l.g i).place, Go.SE.SV.int Go.IntKind.i64 (l.g i).tone] = [Go.SE.SV.int Go.IntKind.i64 (l.g i).edge, Go.SE.SV.int Go.IntKind.i64 (l.g i).place, Go.SE.SV.int Go.IntKind.i64 (l.g i).tone]) ∧ l.n ≤ (1000000 : Nat)) ∧ ∀ (t : Nat), True → ∃ (t : Nat), (l.n = l.n ∧ ∀ (i : Nat), i < l.n → [Go.SE.SV.int Go.IntKind.i64 ((L.sortM (L.Sq.mk l.n fun (i : Nat) ↦ l.g i)).g i).edge, Go.SE.SV.int
 Go.IntKind.i64 ((L.sortM (L.Sq.mk l.n fun (i : Nat) ↦ l.g i)).g i).place, Go.SE.SV.int Go.IntKind.i64 ((L.sortM (L.Sq.mk l.n fun (i : Nat) ↦ l.g i)).g i).tone] = [Go.SE.SV.int Go.IntKind.i64 ((L.sortM l).g i).edge, Go.SE.SV.int Go.IntKind.i64 ((L.sortM l).g i).place, Go.SE.SV.int Go.IntKind.i64 ((L.sortM l).g i).tone]) ∧ True) (by kernel_rfl) (by
    have hn : l.n ≤ 1000000 := hp
    exact ⟨⟨fun _ _ => rfl, hn⟩, ⟨fun _ _ => rfl, hn⟩, fun t _ => ⟨(0 : Nat), ⟨rfl, fun _ _ => rfl⟩, trivial⟩⟩)
theorem g_sortedM_ok : SpecOk Tryz.prog 128 g_sortedM_S := freshX Tryz.func128 (c := bodyOf Tryz.f128) (by kernel_rfl) mixed (fun args p q n g hs hp => by
  unfold g_sortedM_s at hs
  split at hs
  · cases hs; exact ⟨_, _, g_sortedM_vc _ hp.2, (.p (.sl hp.1) (.p (Ext.clo rfl (fun i hi => by
      
      exact absurd hi (by simp; try omega))) .nil)), ⟨show SpecsL Tryz.prog _ from (SpecsL.cons s_valM_ok s_valM_en (SpecsL.cons s_sortedM_ok s_sortedM_en SpecsL.nil)), rfl, ⟨show ItersL Tryz.prog _ from ItersL.nil, (TrsOk.none (fun _ => rfl))⟩⟩⟩
  · cases hs)
theorem g_sortedM_en : Enters Tryz.prog 128 := fun args w => by kernel_rfl
def g_reset_p (p : L.Piece) (s : L.Setting) : Prop := L.validPiece p = true ∧ L.validSet s p.gauges.n = true
def g_reset_r (p : L.Piece) (s : L.Setting) : SV := (.agg [.int .i64 ((L.rs p s).id), .int .i64 ((L.rs p s).colour), .int .i64 ((L.rs p s).rev), .int .i64 ((L.rs p s).made), .int .i64 ((L.rs p s).swell), .sl 5 (L.rs p s).gauges.n (fun i => [.int .i64 (((L.rs p s).gauges.g i).edge.lo), .int .i64 (((L.rs p s).gauges.g i).edge.hi), .int .i64 (((L.rs p s).gauges.g i).across.lo), .int .i64 (((L.rs p s).gauges.g i).across.hi), .int .i64 (((L.rs p s).gauges.g i).bend)]), .sl 3 (L.rs p s).marks.n (fun i => [.int .i64 (((L.rs p s).marks.g i).edge), .int .i64 (((L.rs p s).marks.g i).place), .int .i64 (((L.rs p s).marks.g i).tone)])])
def g_reset_s : List EV → Option (Prop × SV)
  | [.p (.agg [.int .i64 p_id, .int .i64 p_colour, .int .i64 p_rev, .int .i64 p_made, .int .i64 p_swell, .sl 5 p_gauges_n p_gauges_g, .sl 3 p_marks_n p_marks_g]), .p (.agg [.int .i64 s_shift, .bool s_back])] => some ((∀ i, i < p_gauges_n → p_gauges_g i = [.int .i64 ((ofGauge (p_gauges_g i)).edge.lo), .int .i64 ((ofGauge (p_gauges_g i)).edge.hi), .int .i64 ((ofGauge (p_gauges_g i)).across.lo), .int .i64 ((ofGauge (p_gauges_g i)).across.hi), .int .i64 ((ofGauge (p_gauges_g i)).bend)]) ∧ (∀ i, i < p_marks_n → p_marks_g i = [.int .i64 ((ofMark (p_marks_g i)).edge), .int .i64 ((ofMark (p_marks_g i)).place), .int .i64 ((ofMark (p_marks_g i)).tone)]) ∧ g_reset_p (⟨p_id, p_colour, p_rev, p_made, p_swell, (⟨p_gauges_n, fun i => ofGauge (p_gauges_g i)⟩ : (L.Sq L.Gauge)), (⟨p_marks_n, fun i => ofMark (p_marks_g i)⟩ : (L.Sq L.Mark))⟩ : L.Piece) (⟨s_shift, s_back⟩ : L.Setting), g_reset_r (⟨p_id, p_colour, p_rev, p_made, p_swell, (⟨p_gauges_n, fun i => ofGauge (p_gauges_g i)⟩ : (L.Sq L.Gauge)), (⟨p_marks_n, fun i => ofMark (p_marks_g i)⟩ : (L.Sq L.Mark))⟩ : L.Piece) (⟨s_shift, s_back⟩ : L.Setting))
  | _ => none
abbrev g_reset_S : SE.Spec := (specO g_reset_s)
def g_reset_C : Cfg := { muts := [4, 6, 8, 11, 13, 19, 62, 98], frz := lookN [(22, [19, 98])], specs := lookS [(127, p_Edge_S), (114, s_cloneM_S), (128, g_sortedM_S), (129, g_cmpMarks_S)], loops := fun _ => none, iters := lookI [], rfs := lookR [], nils := lookM [], anys := [10, 23], raws := [128] }
theorem g_reset_vc (p : L.Piece) (s : L.Setting) (hp : g_reset_p p s) : vc Tryz.prog ({ g_reset_C with loops := lookL [(5, { T := Nat, keep := [2, 3, 4, 5, 6, 22, 23], keepO := [4, 6], chg := fun i => [(24, .p (.int .i64 (i : Int)))], own := fun i => [(19, .row 92 5 p.gauges.n (fun j => [.int .i64 ((L.rsTo p s i j).edge.lo), .int .i64 ((L.rsTo p s i j).edge.hi), .int .i64 ((L.rsTo p s i j).across.lo), .int .i64 ((L.rsTo p s i j).across.hi), .int .i64 ((L.rsTo p s i j).bend)]))], inv := fun i => i ≤ p.gauges.n, mu := fun i => p.gauges.n - i }), (15, { T := Nat, keep := [2, 3, 4, 5, 6, 65, 66], keepO := [4, 6, 19], chg := fun i => [(67, .p (.int .i64 (i : Int)))], own := fun i => [(62, .row 87 3 p.marks.n (fun k => [.int .i64 ((L.rsMTo p.marks s p.gauges.n i k).edge), .int .i64 ((L.rsMTo p.marks s p.gauges.n i k).place), .int .i64 ((L.rsMTo p.marks s p.gauges.n i k).tone)]))], inv := fun i => i ≤ p.marks.n, mu := fun i => p.marks.n - i })], rfs := lookR [] }) (bodyOf Tryz.f62) (st0 Tryz.f62 [.p (.agg [.int .i64 p.id, .int .i64 p.colour, .int .i64 p.rev, .int .i64 p.made, .int .i64 p.swell, .sl 5 p.gauges.n (fun i => [.int .i64 ((p.gauges.g i).edge.lo), .int .i64 ((p.gauges.g i).edge.hi), .int .i64 ((p.gauges.g i).across.lo), .int .i64 ((p.gauges.g i).across.hi), .int .i64 ((p.gauges.g i).bend)]), .sl 3 p.marks.n (fun i => [.int .i64 ((p.marks.g i).edge), .int .i64 ((p.marks.g i).place), .int .i64 ((p.marks.g i).tone)])]), .p (.agg [.int .i64 s.shift, .bool s.back])]) (retFn Tryz.prog Tryz.f62 (g_reset_r p s)) :=
  @Eq.mpr _ (((0 : Int) ≤ (↑p.gauges.n : Int) ∧ (↑p.gauges.n : Int) ≤ (↑p.gauges.n : Int) ∧ (↑p.gauges.n : Int) * (↑(nat_lit 40) : Int) ≤ (140737488355328 : Int)) ∧ (∃ (g : Nat), (0 : Int) = (↑g : Int) ∧ (Int.toNat (↑p.gauges.n : Int) = p.gauges.n ∧ ∀ (i : Nat), i < Int.toNat (↑p.gauges.n : Int) → [Go.SE.SV.int Go.IntKind.i64 (0 : Int), Go.SE.SV.int Go.IntKind.i64 (0 : Int), Go.SE.SV.int Go.IntKind.i64 (0 :
 Int), Go.SE.SV.int Go.IntKind.i64 (0 : Int), Go.SE.SV.int Go.IntKind.i64 (0 : Int)] = [Go.SE.SV.int Go.IntKind.i64 (L.rsTo p s g i).edge.lo, Go.SE.SV.int Go.IntKind.i64 (L.rsTo p s g i).edge.hi, Go.SE.SV.int Go.IntKind.i64 (L.rsTo p s g i).across.lo, Go.SE.SV.int Go.IntKind.i64 (L.rsTo p s g i).across.hi, Go.SE.SV.int Go.IntKind.i64 (L.rsTo p s g i).bend]) ∧ g ≤ p.gauges.n) ∧ ∀ (g : Nat), g ≤
 p.gauges.n → (Decidable.decide ((↑g : Int) < (↑p.gauges.n : Int)) = Bool.true → ((0 : Int) ≤ (↑g : Int) ∧ (↑g : Int) < (↑p.gauges.n : Int)) ∧ True ∧ (s.back = Bool.true → Go.SE.InK Go.IntKind.i64 ((↑g : Int) + (↑p.gauges.n : Int)) ∧ Go.SE.InK Go.IntKind.i64 ((↑g : Int) + (↑p.gauges.n : Int) - (1 : Int)) ∧ (↑p.gauges.n : Int) ≠ (0 : Int) ∧ ((0 : Int) ≤ Int.tmod ((↑g : Int) + (↑p.gauges.n : Int) -
 (1 : Int)) (↑p.gauges.n : Int) ∧ Int.tmod ((↑g : Int) + (↑p.gauges.n : Int) - (1 : Int)) (↑p.gauges.n : Int) < (↑p.gauges.n : Int)) ∧ ((((((0 : Int) ≤ L.ed s (↑p.gauges.n : Int) (↑g : Int) ∧ L.ed s (↑p.gauges.n : Int) (↑g : Int) < (↑p.gauges.n : Int)) ∧ Int.toNat (L.ed s (↑p.gauges.n : Int) (↑g : Int)) < p.gauges.n ∧ Go.SE.InK Go.IntKind.i64 ((↑g : Int) + (1 : Int)) ∧ ∃ (g' : Nat), (↑g : Int) + (1
 : Int) = (↑g' : Int) ∧ (↑p.gauges.n : Int) = (↑p.gauges.n : Int) ∧ (p.gauges.n = p.gauges.n ∧ ∀ (i : Nat), i < p.gauges.n → [Go.SE.SV.int Go.IntKind.i64 (p.gauges.g i).edge.lo, Go.SE.SV.int Go.IntKind.i64 (p.gauges.g i).edge.hi, Go.SE.SV.int Go.IntKind.i64 (p.gauges.g i).across.lo, Go.SE.SV.int Go.IntKind.i64 (p.gauges.g i).across.hi, Go.SE.SV.int Go.IntKind.i64 (p.gauges.g i).bend] =
 [Go.SE.SV.int Go.IntKind.i64 (p.gauges.g i).edge.lo, Go.SE.SV.int Go.IntKind.i64 (p.gauges.g i).edge.hi, Go.SE.SV.int Go.IntKind.i64 (p.gauges.g i).across.lo, Go.SE.SV.int Go.IntKind.i64 (p.gauges.g i).across.hi, Go.SE.SV.int Go.IntKind.i64 (p.gauges.g i).bend]) ∧ nat_lit 0 = nat_lit 0 ∧ (↑p.gauges.n : Int) = (↑p.gauges.n : Int) ∧ nat_lit 0 = nat_lit 0 ∧ Go.SE.SV.ref [Go.SE.SV.int Go.IntKind.i64
 s.shift, Go.SE.SV.bool s.back] (nat_lit 0) = Go.SE.SV.ref [Go.SE.SV.int Go.IntKind.i64 s.shift, Go.SE.SV.bool s.back] (nat_lit 0) ∧ Go.SE.SV.ref [Go.SE.SV.int Go.IntKind.i64 p.id, Go.SE.SV.int Go.IntKind.i64 p.colour, Go.SE.SV.int Go.IntKind.i64 p.rev, Go.SE.SV.int Go.IntKind.i64 p.made, Go.SE.SV.int Go.IntKind.i64 p.swell, Go.SE.SV.sl (nat_lit 5) p.gauges.n fun (i : Nat) ↦ [Go.SE.SV.int
 Go.IntKind.i64 (p.gauges.g i).edge.lo, Go.SE.SV.int Go.IntKind.i64 (p.gauges.g i).edge.hi, Go.SE.SV.int Go.IntKind.i64 (p.gauges.g i).across.lo, Go.SE.SV.int Go.IntKind.i64 (p.gauges.g i).across.hi, Go.SE.SV.int Go.IntKind.i64 (p.gauges.g i).bend], Go.SE.SV.sl (nat_lit 3) p.marks.n fun (i : Nat) ↦ [Go.SE.SV.int Go.IntKind.i64 (p.marks.g i).edge, Go.SE.SV.int Go.IntKind.i64 (p.marks.g i).place,
 Go.SE.SV.int Go.IntKind.i64 (p.marks.g i).tone]] (nat_lit 0) = Go.SE.SV.ref [Go.SE.SV.int Go.IntKind.i64 p.id, Go.SE.SV.int Go.IntKind.i64 p.colour, Go.SE.SV.int Go.IntKind.i64 p.rev, Go.SE.SV.int Go.IntKind.i64 p.made, Go.SE.SV.int Go.IntKind.i64 p.swell, Go.SE.SV.sl (nat_lit 5) p.gauges.n fun (i : Nat) ↦ [Go.SE.SV.int Go.IntKind.i64 (p.gauges.g i).edge.lo, Go.SE.SV.int Go.IntKind.i64 (p.gauges.g
 i).edge.hi, Go.SE.SV.int Go.IntKind.i64 (p.gauges.g i).across.lo, Go.SE.SV.int Go.IntKind.i64 (p.gauges.g i).across.hi, Go.SE.SV.int Go.IntKind.i64 (p.gauges.g i).bend], Go.SE.SV.sl (nat_lit 3) p.marks.n fun (i : Nat) ↦ [Go.SE.SV.int Go.IntKind.i64 (p.marks.g i).edge, Go.SE.SV.int Go.IntKind.i64 (p.marks.g i).place, Go.SE.SV.int Go.IntKind.i64 (p.marks.g i).tone]] (nat_lit 0) ∧ (p.gauges.n =
 p.gauges.n ∧ ∀ (i : Nat), i < p.gauges.n → Go.SE.setRow (fun (j : Nat) ↦ [Go.SE.SV.int Go.IntKind.i64 (L.rsTo p s g j).edge.lo, Go.SE.SV.int Go.IntKind.i64 (L.rsTo p s g j).edge.hi, Go.SE.SV.int Go.IntKind.i64 (L.rsTo p s g j).across.lo, Go.SE.SV.int Go.IntKind.i64 (L.rsTo p s g j).across.hi, Go.SE.SV.int Go.IntKind.i64 (L.rsTo p s g j).bend]) (Int.toNat (L.ed s (↑p.gauges.n : Int) (↑g : Int)))
 (nat_lit 0) [Go.SE.SV.int Go.IntKind.i64 (p.gauges.g (Int.toNat (↑g : Int))).edge.lo, Go.SE.SV.int Go.IntKind.i64 (p.gauges.g (Int.toNat (↑g : Int))).edge.hi, Go.SE.SV.int Go.IntKind.i64 (p.gauges.g (Int.toNat (Int.tmod ((↑g : Int) + (↑p.gauges.n : Int) - (1 : Int)) (↑p.gauges.n : Int)))).across.lo, Go.SE.SV.int Go.IntKind.i64 (p.gauges.g (Int.toNat (Int.tmod ((↑g : Int) + (↑p.gauges.n : Int) - (1
 : Int)) (↑p.gauges.n : Int)))).across.hi, Go.SE.SV.int Go.IntKind.i64 (p.gauges.g (Int.toNat (Int.tmod ((↑g : Int) + (↑p.gauges.n : Int) - (1 : Int)) (↑p.gauges.n : Int)))).bend] i = [Go.SE.SV.int Go.IntKind.i64 (L.rsTo p s g' i).edge.lo, Go.SE.SV.int Go.IntKind.i64 (L.rsTo p s g' i).edge.hi, Go.SE.SV.int Go.IntKind.i64 (L.rsTo p s g' i).across.lo, Go.SE.SV.int Go.IntKind.i64 (L.rsTo p s g'
 i).across.hi, Go.SE.SV.int Go.IntKind.i64 (L.rsTo p s g' i).bend]) ∧ p.id = p.id ∧ p.colour = p.colour ∧ p.rev = p.rev ∧ p.made = p.made ∧ p.swell = p.swell ∧ (p.marks.n = p.marks.n ∧ ∀ (i : Nat), i < p.marks.n → [Go.SE.SV.int Go.IntKind.i64 (p.marks.g i).edge, Go.SE.SV.int Go.IntKind.i64 (p.marks.g i).place, Go.SE.SV.int Go.IntKind.i64 (p.marks.g i).tone] = [Go.SE.SV.int Go.IntKind.i64 (p.marks.g
 i).edge, Go.SE.SV.int Go.IntKind.i64 (p.marks.g i).place, Go.SE.SV.int Go.IntKind.i64 (p.marks.g i).tone]) ∧ (0 : Int) = (0 : Int) ∧ (0 : Int) = (0 : Int) ∧ (0 : Int) = (0 : Int) ∧ (0 : Int) = (0 : Int) ∧ (0 : Int) = (0 : Int) ∧ Go.Value.slice Option.none (0 : Nat) (0 : Nat) = Go.Value.slice Option.none (0 : Nat) (0 : Nat) ∧ Go.Value.slice Option.none (0 : Nat) (0 : Nat) = Go.Value.slice
 Option.none (0 : Nat) (0 : Nat) ∧ g' ≤ p.gauges.n ∧ p.gauges.n - g' < p.gauges.n - g) ∧ (((0 : Int) ≤ L.ed s (↑p.gauges.n : Int) (↑g : Int) ∧ L.ed s (↑p.gauges.n : Int) (↑g : Int) < (↑p.gauges.n : Int)) ∧ Int.toNat (L.ed s (↑p.gauges.n : Int) (↑g : Int)) < p.gauges.n ∧ Go.SE.InK Go.IntKind.i64 ((↑g : Int) + (1 : Int)) ∧ ∃ (g' : Nat), (↑g : Int) + (1 : Int) = (↑g' : Int) ∧ (↑p.gauges.n : Int) =
 (↑p.gauges.n : Int) ∧ (p.gauges.n = p.gauges.n ∧ ∀ (i : Nat), i < p.gauges.n → [Go.SE.SV.int Go.IntKind.i64 (p.gauges.g i).edge.lo, Go.SE.SV.int Go.IntKind.i64 (p.gauges.g i).edge.hi, Go.SE.SV.int Go.IntKind.i64 (p.gauges.g i).across.lo, Go.SE.SV.int Go.IntKind.i64 (p.gauges.g i).across.hi, Go.SE.SV.int Go.IntKind.i64 (p.gauges.g i).bend] = [Go.SE.SV.int Go.IntKind.i64 (p.gauges.g i).edge.lo,
 Go.SE.SV.int Go.IntKind.i64 (p.gauges.g i).edge.hi, Go.SE.SV.int Go.IntKind.i64 (p.gauges.g i).across.lo, Go.SE.SV.int Go.IntKind.i64 (p.gauges.g i).across.hi, Go.SE.SV.int Go.IntKind.i64 (p.gauges.g i).bend]) ∧ nat_lit 0 = nat_lit 0 ∧ (↑p.gauges.n : Int) = (↑p.gauges.n : Int) ∧ nat_lit 0 = nat_lit 0 ∧ Go.SE.SV.ref [Go.SE.SV.int Go.IntKind.i64 s.shift, Go.SE.SV.bool s.back] (nat_lit 0) =
 Go.SE.SV.ref [Go.SE.SV.int Go.IntKind.i64 s.shift, Go.SE.SV.bool s.back] (nat_lit 0) ∧ Go.SE.SV.ref [Go.SE.SV.int Go.IntKind.i64 p.id, Go.SE.SV.int Go.IntKind.i64 p.colour, Go.SE.SV.int Go.IntKind.i64 p.rev, Go.SE.SV.int Go.IntKind.i64 p.made, Go.SE.SV.int Go.IntKind.i64 p.swell, Go.SE.SV.sl (nat_lit 5) p.gauges.n fun (i : Nat) ↦ [Go.SE.SV.int Go.IntKind.i64 (p.gauges.g i).edge.lo, Go.SE.SV.int
 Go.IntKind.i64 (p.gauges.g i).edge.hi, Go.SE.SV.int Go.IntKind.i64 (p.gauges.g i).across.lo, Go.SE.SV.int Go.IntKind.i64 (p.gauges.g i).across.hi, Go.SE.SV.int Go.IntKind.i64 (p.gauges.g i).bend], Go.SE.SV.sl (nat_lit 3) p.marks.n fun (i : Nat) ↦ [Go.SE.SV.int Go.IntKind.i64 (p.marks.g i).edge, Go.SE.SV.int Go.IntKind.i64 (p.marks.g i).place, Go.SE.SV.int Go.IntKind.i64 (p.marks.g i).tone]]
 (nat_lit 0) = Go.SE.SV.ref [Go.SE.SV.int Go.IntKind.i64 p.id, Go.SE.SV.int Go.IntKind.i64 p.colour, Go.SE.SV.int Go.IntKind.i64 p.rev, Go.SE.SV.int Go.IntKind.i64 p.made, Go.SE.SV.int Go.IntKind.i64 p.swell, Go.SE.SV.sl (nat_lit 5) p.gauges.n fun (i : Nat) ↦ [Go.SE.SV.int Go.IntKind.i64 (p.gauges.g i).edge.lo, Go.SE.SV.int Go.IntKind.i64 (p.gauges.g i).edge.hi, Go.SE.SV.int Go.IntKind.i64
 (p.gauges.g i).across.lo, Go.SE.SV.int Go.IntKind.i64 (p.gauges.g i).across.hi, Go.SE.SV.int Go.IntKind.i64 (p.gauges.g i).bend], Go.SE.SV.sl (nat_lit 3) p.marks.n fun (i : Nat) ↦ [Go.SE.SV.int Go.IntKind.i64 (p.marks.g i).edge, Go.SE.SV.int Go.IntKind.i64 (p.marks.g i).place, Go.SE.SV.int Go.IntKind.i64 (p.marks.g i).tone]] (nat_lit 0) ∧ (p.gauges.n = p.gauges.n ∧ ∀ (i : Nat), i < p.gauges.n →
 Go.SE.setRow (fun (j : Nat) ↦ [Go.SE.SV.int Go.IntKind.i64 (L.rsTo p s g j).edge.lo, Go.SE.SV.int Go.IntKind.i64 (L.rsTo p s g j).edge.hi, Go.SE.SV.int Go.IntKind.i64 (L.rsTo p s g j).across.lo, Go.SE.SV.int Go.IntKind.i64 (L.rsTo p s g j).across.hi, Go.SE.SV.int Go.IntKind.i64 (L.rsTo p s g j).bend]) (Int.toNat (L.ed s (↑p.gauges.n : Int) (↑g : Int))) (nat_lit 0) [Go.SE.SV.int Go.IntKind.i64
 (p.gauges.g (Int.toNat (↑g : Int))).edge.lo, Go.SE.SV.int Go.IntKind.i64 (p.gauges.g (Int.toNat (↑g : Int))).edge.hi, Go.SE.SV.int Go.IntKind.i64 (p.gauges.g (Int.toNat (Int.tmod ((↑g : Int) + (↑p.gauges.n : Int) - (1 : Int)) (↑p.gauges.n : Int)))).across.lo, Go.SE.SV.int Go.IntKind.i64 (p.gauges.g (Int.toNat (Int.tmod ((↑g : Int) + (↑p.gauges.n : Int) - (1 : Int)) (↑p.gauges.n :
 Int)))).across.hi, Go.SE.SV.int Go.IntKind.i64 (p.gauges.g (Int.toNat (Int.tmod ((↑g : Int) + (↑p.gauges.n : Int) - (1 : Int)) (↑p.gauges.n : Int)))).bend] i = [Go.SE.SV.int Go.IntKind.i64 (L.rsTo p s g' i).edge.lo, Go.SE.SV.int Go.IntKind.i64 (L.rsTo p s g' i).edge.hi, Go.SE.SV.int Go.IntKind.i64 (L.rsTo p s g' i).across.lo, Go.SE.SV.int Go.IntKind.i64 (L.rsTo p s g' i).across.hi, Go.SE.SV.int
 Go.IntKind.i64 (L.rsTo p s g' i).bend]) ∧ p.id = p.id ∧ p.colour = p.colour ∧ p.rev = p.rev ∧ p.made = p.made ∧ p.swell = p.swell ∧ (p.marks.n = p.marks.n ∧ ∀ (i : Nat), i < p.marks.n → [Go.SE.SV.int Go.IntKind.i64 (p.marks.g i).edge, Go.SE.SV.int Go.IntKind.i64 (p.marks.g i).place, Go.SE.SV.int Go.IntKind.i64 (p.marks.g i).tone] = [Go.SE.SV.int Go.IntKind.i64 (p.marks.g i).edge, Go.SE.SV.int
 Go.IntKind.i64 (p.marks.g i).place, Go.SE.SV.int Go.IntKind.i64 (p.marks.g i).tone]) ∧ (0 : Int) = (0 : Int) ∧ (0 : Int) = (0 : Int) ∧ (0 : Int) = (0 : Int) ∧ (0 : Int) = (0 : Int) ∧ (0 : Int) = (0 : Int) ∧ Go.Value.slice Option.none (0 : Nat) (0 : Nat) = Go.Value.slice Option.none (0 : Nat) (0 : Nat) ∧ Go.Value.slice Option.none (0 : Nat) (0 : Nat) = Go.Value.slice Option.none (0 : Nat) (0 : Nat)
 ∧ g' ≤ p.gauges.n ∧ p.gauges.n - g' < p.gauges.n - g) ∧ ((0 : Int) ≤ L.ed s (↑p.gauges.n : Int) (↑g : Int) ∧ L.ed s (↑p.gauges.n : Int) (↑g : Int) < (↑p.gauges.n : Int)) ∧ Int.toNat (L.ed s (↑p.gauges.n : Int) (↑g : Int)) < p.gauges.n ∧ Go.SE.InK Go.IntKind.i64 ((↑g : Int) + (1 : Int)) ∧ ∃ (g' : Nat), (↑g : Int) + (1 : Int) = (↑g' : Int) ∧ (↑p.gauges.n : Int) = (↑p.gauges.n : Int) ∧ (p.gauges.n =
 p.gauges.n ∧ ∀ (i : Nat), i < p.gauges.n → [Go.SE.SV.int Go.IntKind.i64 (p.gauges.g i).edge.lo, Go.SE.SV.int Go.IntKind.i64 (p.gauges.g i).edge.hi, Go.SE.SV.int Go.IntKind.i64 (p.gauges.g i).across.lo, Go.SE.SV.int Go.IntKind.i64 (p.gauges.g i).across.hi, Go.SE.SV.int Go.IntKind.i64 (p.gauges.g i).bend] = [Go.SE.SV.int Go.IntKind.i64 (p.gauges.g i).edge.lo, Go.SE.SV.int Go.IntKind.i64 (p.gauges.g
 i).edge.hi, Go.SE.SV.int Go.IntKind.i64 (p.gauges.g i).across.lo, Go.SE.SV.int Go.IntKind.i64 (p.gauges.g i).across.hi, Go.SE.SV.int Go.IntKind.i64 (p.gauges.g i).bend]) ∧ nat_lit 0 = nat_lit 0 ∧ (↑p.gauges.n : Int) = (↑p.gauges.n : Int) ∧ nat_lit 0 = nat_lit 0 ∧ Go.SE.SV.ref [Go.SE.SV.int Go.IntKind.i64 s.shift, Go.SE.SV.bool s.back] (nat_lit 0) = Go.SE.SV.ref [Go.SE.SV.int Go.IntKind.i64
 s.shift, Go.SE.SV.bool s.back] (nat_lit 0) ∧ Go.SE.SV.ref [Go.SE.SV.int Go.IntKind.i64 p.id, Go.SE.SV.int Go.IntKind.i64 p.colour, Go.SE.SV.int Go.IntKind.i64 p.rev, Go.SE.SV.int Go.IntKind.i64 p.made, Go.SE.SV.int Go.IntKind.i64 p.swell, Go.SE.SV.sl (nat_lit 5) p.gauges.n fun (i : Nat) ↦ [Go.SE.SV.int Go.IntKind.i64 (p.gauges.g i).edge.lo, Go.SE.SV.int Go.IntKind.i64 (p.gauges.g i).edge.hi,
 Go.SE.SV.int Go.IntKind.i64 (p.gauges.g i).across.lo, Go.SE.SV.int Go.IntKind.i64 (p.gauges.g i).across.hi, Go.SE.SV.int Go.IntKind.i64 (p.gauges.g i).bend], Go.SE.SV.sl (nat_lit 3) p.marks.n fun (i : Nat) ↦ [Go.SE.SV.int Go.IntKind.i64 (p.marks.g i).edge, Go.SE.SV.int Go.IntKind.i64 (p.marks.g i).place, Go.SE.SV.int Go.IntKind.i64 (p.marks.g i).tone]] (nat_lit 0) = Go.SE.SV.ref [Go.SE.SV.int
 Go.IntKind.i64 p.id, Go.SE.SV.int Go.IntKind.i64 p.colour, Go.SE.SV.int Go.IntKind.i64 p.rev, Go.SE.SV.int Go.IntKind.i64 p.made, Go.SE.SV.int Go.IntKind.i64 p.swell, Go.SE.SV.sl (nat_lit 5) p.gauges.n fun (i : Nat) ↦ [Go.SE.SV.int Go.IntKind.i64 (p.gauges.g i).edge.lo, Go.SE.SV.int Go.IntKind.i64 (p.gauges.g i).edge.hi, Go.SE.SV.int Go.IntKind.i64 (p.gauges.g i).across.lo, Go.SE.SV.int
 Go.IntKind.i64 (p.gauges.g i).across.hi, Go.SE.SV.int Go.IntKind.i64 (p.gauges.g i).bend], Go.SE.SV.sl (nat_lit 3) p.marks.n fun (i : Nat) ↦ [Go.SE.SV.int Go.IntKind.i64 (p.marks.g i).edge, Go.SE.SV.int Go.IntKind.i64 (p.marks.g i).place, Go.SE.SV.int Go.IntKind.i64 (p.marks.g i).tone]] (nat_lit 0) ∧ (p.gauges.n = p.gauges.n ∧ ∀ (i : Nat), i < p.gauges.n → Go.SE.setRow (fun (j : Nat) ↦
 [Go.SE.SV.int Go.IntKind.i64 (L.rsTo p s g j).edge.lo, Go.SE.SV.int Go.IntKind.i64 (L.rsTo p s g j).edge.hi, Go.SE.SV.int Go.IntKind.i64 (L.rsTo p s g j).across.lo, Go.SE.SV.int Go.IntKind.i64 (L.rsTo p s g j).across.hi, Go.SE.SV.int Go.IntKind.i64 (L.rsTo p s g j).bend]) (Int.toNat (L.ed s (↑p.gauges.n : Int) (↑g : Int))) (nat_lit 0) [Go.SE.SV.int Go.IntKind.i64 (p.gauges.g (Int.toNat (↑g :
 Int))).edge.lo, Go.SE.SV.int Go.IntKind.i64 (p.gauges.g (Int.toNat (↑g : Int))).edge.hi, Go.SE.SV.int Go.IntKind.i64 (p.gauges.g (Int.toNat (Int.tmod ((↑g : Int) + (↑p.gauges.n : Int) - (1 : Int)) (↑p.gauges.n : Int)))).across.lo, Go.SE.SV.int Go.IntKind.i64 (p.gauges.g (Int.toNat (Int.tmod ((↑g : Int) + (↑p.gauges.n : Int) - (1 : Int)) (↑p.gauges.n : Int)))).across.hi, Go.SE.SV.int Go.IntKind.i64
 (p.gauges.g (Int.toNat (Int.tmod ((↑g : Int) + (↑p.gauges.n : Int) - (1 : Int)) (↑p.gauges.n : Int)))).bend] i = [Go.SE.SV.int Go.IntKind.i64 (L.rsTo p s g' i).edge.lo, Go.SE.SV.int Go.IntKind.i64 (L.rsTo p s g' i).edge.hi, Go.SE.SV.int Go.IntKind.i64 (L.rsTo p s g' i).across.lo, Go.SE.SV.int Go.IntKind.i64 (L.rsTo p s g' i).across.hi, Go.SE.SV.int Go.IntKind.i64 (L.rsTo p s g' i).bend]) ∧ p.id =
 p.id ∧ p.colour = p.colour ∧ p.rev = p.rev ∧ p.made = p.made ∧ p.swell = p.swell ∧ (p.marks.n = p.marks.n ∧ ∀ (i : Nat), i < p.marks.n → [Go.SE.SV.int Go.IntKind.i64 (p.marks.g i).edge, Go.SE.SV.int Go.IntKind.i64 (p.marks.g i).place, Go.SE.SV.int Go.IntKind.i64 (p.marks.g i).tone] = [Go.SE.SV.int Go.IntKind.i64 (p.marks.g i).edge, Go.SE.SV.int Go.IntKind.i64 (p.marks.g i).place, Go.SE.SV.int
 Go.IntKind.i64 (p.marks.g i).tone]) ∧ (0 : Int) = (0 : Int) ∧ (0 : Int) = (0 : Int) ∧ (0 : Int) = (0 : Int) ∧ (0 : Int) = (0 : Int) ∧ (0 : Int) = (0 : Int) ∧ Go.Value.slice Option.none (0 : Nat) (0 : Nat) = Go.Value.slice Option.none (0 : Nat) (0 : Nat) ∧ Go.Value.slice Option.none (0 : Nat) (0 : Nat) = Go.Value.slice Option.none (0 : Nat) (0 : Nat) ∧ g' ≤ p.gauges.n ∧ p.gauges.n - g' < p.gauges.n
 - g) ∧ ((((0 : Int) ≤ L.ed s (↑p.gauges.n : Int) (↑g : Int) ∧ L.ed s (↑p.gauges.n : Int) (↑g : Int) < (↑p.gauges.n : Int)) ∧ Int.toNat (L.ed s (↑p.gauges.n : Int) (↑g : Int)) < p.gauges.n ∧ Go.SE.InK Go.IntKind.i64 ((↑g : Int) + (1 : Int)) ∧ ∃ (g' : Nat), (↑g : Int) + (1 : Int) = (↑g' : Int) ∧ (↑p.gauges.n : Int) = (↑p.gauges.n : Int) ∧ (p.gauges.n = p.gauges.n ∧ ∀ (i : Nat), i < p.gauges.n →
 [Go.SE.SV.int Go.IntKind.i64 (p.gauges.g i).edge.lo, Go.SE.SV.int Go.IntKind.i64 (p.gauges.g i).edge.hi, Go.SE.SV.int Go.IntKind.i64 (p.gauges.g i).across.lo, Go.SE.SV.int Go.IntKind.i64 (p.gauges.g i).across.hi, Go.SE.SV.int Go.IntKind.i64 (p.gauges.g i).bend] = [Go.SE.SV.int Go.IntKind.i64 (p.gauges.g i).edge.lo, Go.SE.SV.int Go.IntKind.i64 (p.gauges.g i).edge.hi, Go.SE.SV.int Go.IntKind.i64
 (p.gauges.g i).across.lo, Go.SE.SV.int Go.IntKind.i64 (p.gauges.g i).across.hi, Go.SE.SV.int Go.IntKind.i64 (p.gauges.g i).bend]) ∧ nat_lit 0 = nat_lit 0 ∧ (↑p.gauges.n : Int) = (↑p.gauges.n : Int) ∧ nat_lit 0 = nat_lit 0 ∧ Go.SE.SV.ref [Go.SE.SV.int Go.IntKind.i64 s.shift, Go.SE.SV.bool s.back] (nat_lit 0) = Go.SE.SV.ref [Go.SE.SV.int Go.IntKind.i64 s.shift, Go.SE.SV.bool s.back] (nat_lit 0) ∧
 Go.SE.SV.ref [Go.SE.SV.int Go.IntKind.i64 p.id, Go.SE.SV.int Go.IntKind.i64 p.colour, Go.SE.SV.int Go.IntKind.i64 p.rev, Go.SE.SV.int Go.IntKind.i64 p.made, Go.SE.SV.int Go.IntKind.i64 p.swell, Go.SE.SV.sl (nat_lit 5) p.gauges.n fun (i : Nat) ↦ [Go.SE.SV.int Go.IntKind.i64 (p.gauges.g i).edge.lo, Go.SE.SV.int Go.IntKind.i64 (p.gauges.g i).edge.hi, Go.SE.SV.int Go.IntKind.i64 (p.gauges.g
 i).across.lo, Go.SE.SV.int Go.IntKind.i64 (p.gauges.g i).across.hi, Go.SE.SV.int Go.IntKind.i64 (p.gauges.g i).bend], Go.SE.SV.sl (nat_lit 3) p.marks.n fun (i : Nat) ↦ [Go.SE.SV.int Go.IntKind.i64 (p.marks.g i).edge, Go.SE.SV.int Go.IntKind.i64 (p.marks.g i).place, Go.SE.SV.int Go.IntKind.i64 (p.marks.g i).tone]] (nat_lit 0) = Go.SE.SV.ref [Go.SE.SV.int Go.IntKind.i64 p.id, Go.SE.SV.int
 Go.IntKind.i64 p.colour, Go.SE.SV.int Go.IntKind.i64 p.rev, Go.SE.SV.int Go.IntKind.i64 p.made, Go.SE.SV.int Go.IntKind.i64 p.swell, Go.SE.SV.sl (nat_lit 5) p.gauges.n fun (i : Nat) ↦ [Go.SE.SV.int Go.IntKind.i64 (p.gauges.g i).edge.lo, Go.SE.SV.int Go.IntKind.i64 (p.gauges.g i).edge.hi, Go.SE.SV.int Go.IntKind.i64 (p.gauges.g i).across.lo, Go.SE.SV.int Go.IntKind.i64 (p.gauges.g i).across.hi,
 Go.SE.SV.int Go.IntKind.i64 (p.gauges.g i).bend], Go.SE.SV.sl (nat_lit 3) p.marks.n fun (i : Nat) ↦ [Go.SE.SV.int Go.IntKind.i64 (p.marks.g i).edge, Go.SE.SV.int Go.IntKind.i64 (p.marks.g i).place, Go.SE.SV.int Go.IntKind.i64 (p.marks.g i).tone]] (nat_lit 0) ∧ (p.gauges.n = p.gauges.n ∧ ∀ (i : Nat), i < p.gauges.n → Go.SE.setRow (fun (j : Nat) ↦ [Go.SE.SV.int Go.IntKind.i64 (L.rsTo p s g
 j).edge.lo, Go.SE.SV.int Go.IntKind.i64 (L.rsTo p s g j).edge.hi, Go.SE.SV.int Go.IntKind.i64 (L.rsTo p s g j).across.lo, Go.SE.SV.int Go.IntKind.i64 (L.rsTo p s g j).across.hi, Go.SE.SV.int Go.IntKind.i64 (L.rsTo p s g j).bend]) (Int.toNat (L.ed s (↑p.gauges.n : Int) (↑g : Int))) (nat_lit 0) [Go.SE.SV.int Go.IntKind.i64 (p.gauges.g (Int.toNat (↑g : Int))).edge.lo, Go.SE.SV.int Go.IntKind.i64
 (p.gauges.g (Int.toNat (↑g : Int))).edge.hi, Go.SE.SV.int Go.IntKind.i64 (p.gauges.g (Int.toNat (Int.tmod ((↑g : Int) + (↑p.gauges.n : Int) - (1 : Int)) (↑p.gauges.n : Int)))).across.lo, Go.SE.SV.int Go.IntKind.i64 (p.gauges.g (Int.toNat (Int.tmod ((↑g : Int) + (↑p.gauges.n : Int) - (1 : Int)) (↑p.gauges.n : Int)))).across.hi, Go.SE.SV.int Go.IntKind.i64 (p.gauges.g (Int.toNat (Int.tmod ((↑g :
 Int) + (↑p.gauges.n : Int) - (1 : Int)) (↑p.gauges.n : Int)))).bend] i = [Go.SE.SV.int Go.IntKind.i64 (L.rsTo p s g' i).edge.lo, Go.SE.SV.int Go.IntKind.i64 (L.rsTo p s g' i).edge.hi, Go.SE.SV.int Go.IntKind.i64 (L.rsTo p s g' i).across.lo, Go.SE.SV.int Go.IntKind.i64 (L.rsTo p s g' i).across.hi, Go.SE.SV.int Go.IntKind.i64 (L.rsTo p s g' i).bend]) ∧ p.id = p.id ∧ p.colour = p.colour ∧ p.rev =
 p.rev ∧ p.made = p.made ∧ p.swell = p.swell ∧ (p.marks.n = p.marks.n ∧ ∀ (i : Nat), i < p.marks.n → [Go.SE.SV.int Go.IntKind.i64 (p.marks.g i).edge, Go.SE.SV.int Go.IntKind.i64 (p.marks.g i).place, Go.SE.SV.int Go.IntKind.i64 (p.marks.g i).tone] = [Go.SE.SV.int Go.IntKind.i64 (p.marks.g i).edge, Go.SE.SV.int Go.IntKind.i64 (p.marks.g i).place, Go.SE.SV.int Go.IntKind.i64 (p.marks.g i).tone]) ∧ (0
 : Int) = (0 : Int) ∧ (0 : Int) = (0 : Int) ∧ (0 : Int) = (0 : Int) ∧ (0 : Int) = (0 : Int) ∧ (0 : Int) = (0 : Int) ∧ Go.Value.slice Option.none (0 : Nat) (0 : Nat) = Go.Value.slice Option.none (0 : Nat) (0 : Nat) ∧ Go.Value.slice Option.none (0 : Nat) (0 : Nat) = Go.Value.slice Option.none (0 : Nat) (0 : Nat) ∧ g' ≤ p.gauges.n ∧ p.gauges.n - g' < p.gauges.n - g) ∧ ((0 : Int) ≤ L.ed s (↑p.gauges.n
 : Int) (↑g : Int) ∧ L.ed s (↑p.gauges.n : Int) (↑g : Int) < (↑p.gauges.n : Int)) ∧ Int.toNat (L.ed s (↑p.gauges.n : Int) (↑g : Int)) < p.gauges.n ∧ Go.SE.InK Go.IntKind.i64 ((↑g : Int) + (1 : Int)) ∧ ∃ (g' : Nat), (↑g : Int) + (1 : Int) = (↑g' : Int) ∧ (↑p.gauges.n : Int) = (↑p.gauges.n : Int) ∧ (p.gauges.n = p.gauges.n ∧ ∀ (i : Nat), i < p.gauges.n → [Go.SE.SV.int Go.IntKind.i64 (p.gauges.g
 i).edge.lo, Go.SE.SV.int Go.IntKind.i64 (p.gauges.g i).edge.hi, Go.SE.SV.int Go.IntKind.i64 (p.gauges.g i).across.lo, Go.SE.SV.int Go.IntKind.i64 (p.gauges.g i).across.hi, Go.SE.SV.int Go.IntKind.i64 (p.gauges.g i).bend] = [Go.SE.SV.int Go.IntKind.i64 (p.gauges.g i).edge.lo, Go.SE.SV.int Go.IntKind.i64 (p.gauges.g i).edge.hi, Go.SE.SV.int Go.IntKind.i64 (p.gauges.g i).across.lo, Go.SE.SV.int
 Go.IntKind.i64 (p.gauges.g i).across.hi, Go.SE.SV.int Go.IntKind.i64 (p.gauges.g i).bend]) ∧ nat_lit 0 = nat_lit 0 ∧ (↑p.gauges.n : Int) = (↑p.gauges.n : Int) ∧ nat_lit 0 = nat_lit 0 ∧ Go.SE.SV.ref [Go.SE.SV.int Go.IntKind.i64 s.shift, Go.SE.SV.bool s.back] (nat_lit 0) = Go.SE.SV.ref [Go.SE.SV.int Go.IntKind.i64 s.shift, Go.SE.SV.bool s.back] (nat_lit 0) ∧ Go.SE.SV.ref [Go.SE.SV.int Go.IntKind.i64
 p.id, Go.SE.SV.int Go.IntKind.i64 p.colour, Go.SE.SV.int Go.IntKind.i64 p.rev, Go.SE.SV.int Go.IntKind.i64 p.made, Go.SE.SV.int Go.IntKind.i64 p.swell, Go.SE.SV.sl (nat_lit 5) p.gauges.n fun (i : Nat) ↦ [Go.SE.SV.int Go.IntKind.i64 (p.gauges.g i).edge.lo, Go.SE.SV.int Go.IntKind.i64 (p.gauges.g i).edge.hi, Go.SE.SV.int Go.IntKind.i64 (p.gauges.g i).across.lo, Go.SE.SV.int Go.IntKind.i64
 (p.gauges.g i).across.hi, Go.SE.SV.int Go.IntKind.i64 (p.gauges.g i).bend], Go.SE.SV.sl (nat_lit 3) p.marks.n fun (i : Nat) ↦ [Go.SE.SV.int Go.IntKind.i64 (p.marks.g i).edge, Go.SE.SV.int Go.IntKind.i64 (p.marks.g i).place, Go.SE.SV.int Go.IntKind.i64 (p.marks.g i).tone]] (nat_lit 0) = Go.SE.SV.ref [Go.SE.SV.int Go.IntKind.i64 p.id, Go.SE.SV.int Go.IntKind.i64 p.colour, Go.SE.SV.int Go.IntKind.i64
 p.rev, Go.SE.SV.int Go.IntKind.i64 p.made, Go.SE.SV.int Go.IntKind.i64 p.swell, Go.SE.SV.sl (nat_lit 5) p.gauges.n fun (i : Nat) ↦ [Go.SE.SV.int Go.IntKind.i64 (p.gauges.g i).edge.lo, Go.SE.SV.int Go.IntKind.i64 (p.gauges.g i).edge.hi, Go.SE.SV.int Go.IntKind.i64 (p.gauges.g i).across.lo, Go.SE.SV.int Go.IntKind.i64 (p.gauges.g i).across.hi, Go.SE.SV.int Go.IntKind.i64 (p.gauges.g i).bend],
 Go.SE.SV.sl (nat_lit 3) p.marks.n fun (i : Nat) ↦ [Go.SE.SV.int Go.IntKind.i64 (p.marks.g i).edge, Go.SE.SV.int Go.IntKind.i64 (p.marks.g i).place, Go.SE.SV.int Go.IntKind.i64 (p.marks.g i).tone]] (nat_lit 0) ∧ (p.gauges.n = p.gauges.n ∧ ∀ (i : Nat), i < p.gauges.n → Go.SE.setRow (fun (j : Nat) ↦ [Go.SE.SV.int Go.IntKind.i64 (L.rsTo p s g j).edge.lo, Go.SE.SV.int Go.IntKind.i64 (L.rsTo p s g
 j).edge.hi, Go.SE.SV.int Go.IntKind.i64 (L.rsTo p s g j).across.lo, Go.SE.SV.int Go.IntKind.i64 (L.rsTo p s g j).across.hi, Go.SE.SV.int Go.IntKind.i64 (L.rsTo p s g j).bend]) (Int.toNat (L.ed s (↑p.gauges.n : Int) (↑g : Int))) (nat_lit 0) [Go.SE.SV.int Go.IntKind.i64 (p.gauges.g (Int.toNat (↑g : Int))).edge.lo, Go.SE.SV.int Go.IntKind.i64 (p.gauges.g (Int.toNat (↑g : Int))).edge.hi, Go.SE.SV.int
 Go.IntKind.i64 (p.gauges.g (Int.toNat (Int.tmod ((↑g : Int) + (↑p.gauges.n : Int) - (1 : Int)) (↑p.gauges.n : Int)))).across.lo, Go.SE.SV.int Go.IntKind.i64 (p.gauges.g (Int.toNat (Int.tmod ((↑g : Int) + (↑p.gauges.n : Int) - (1 : Int)) (↑p.gauges.n : Int)))).across.hi, Go.SE.SV.int Go.IntKind.i64 (p.gauges.g (Int.toNat (Int.tmod ((↑g : Int) + (↑p.gauges.n : Int) - (1 : Int)) (↑p.gauges.n :
 Int)))).bend] i = [Go.SE.SV.int Go.IntKind.i64 (L.rsTo p s g' i).edge.lo, Go.SE.SV.int Go.IntKind.i64 (L.rsTo p s g' i).edge.hi, Go.SE.SV.int Go.IntKind.i64 (L.rsTo p s g' i).across.lo, Go.SE.SV.int Go.IntKind.i64 (L.rsTo p s g' i).across.hi, Go.SE.SV.int Go.IntKind.i64 (L.rsTo p s g' i).bend]) ∧ p.id = p.id ∧ p.colour = p.colour ∧ p.rev = p.rev ∧ p.made = p.made ∧ p.swell = p.swell ∧ (p.marks.n =
 p.marks.n ∧ ∀ (i : Nat), i < p.marks.n → [Go.SE.SV.int Go.IntKind.i64 (p.marks.g i).edge, Go.SE.SV.int Go.IntKind.i64 (p.marks.g i).place, Go.SE.SV.int Go.IntKind.i64 (p.marks.g i).tone] = [Go.SE.SV.int Go.IntKind.i64 (p.marks.g i).edge, Go.SE.SV.int Go.IntKind.i64 (p.marks.g i).place, Go.SE.SV.int Go.IntKind.i64 (p.marks.g i).tone]) ∧ (0 : Int) = (0 : Int) ∧ (0 : Int) = (0 : Int) ∧ (0 : Int) = (0
 : Int) ∧ (0 : Int) = (0 : Int) ∧ (0 : Int) = (0 : Int) ∧ Go.Value.slice Option.none (0 : Nat) (0 : Nat) = Go.Value.slice Option.none (0 : Nat) (0 : Nat) ∧ Go.Value.slice Option.none (0 : Nat) (0 : Nat) = Go.Value.slice Option.none (0 : Nat) (0 : Nat) ∧ g' ≤ p.gauges.n ∧ p.gauges.n - g' < p.gauges.n - g) ∧ ((0 : Int) ≤ L.ed s (↑p.gauges.n : Int) (↑g : Int) ∧ L.ed s (↑p.gauges.n : Int) (↑g : Int) <
 (↑p.gauges.n : Int)) ∧ Int.toNat (L.ed s (↑p.gauges.n : Int) (↑g : Int)) < p.gauges.n ∧ Go.SE.InK Go.IntKind.i64 ((↑g : Int) + (1 : Int)) ∧ ∃ (g' : Nat), (↑g : Int) + (1 : Int) = (↑g' : Int) ∧ (↑p.gauges.n : Int) = (↑p.gauges.n : Int) ∧ (p.gauges.n = p.gauges.n ∧ ∀ (i : Nat), i < p.gauges.n → [Go.SE.SV.int Go.IntKind.i64 (p.gauges.g i).edge.lo, Go.SE.SV.int Go.IntKind.i64 (p.gauges.g i).edge.hi,
 Go.SE.SV.int Go.IntKind.i64 (p.gauges.g i).across.lo, Go.SE.SV.int Go.IntKind.i64 (p.gauges.g i).across.hi, Go.SE.SV.int Go.IntKind.i64 (p.gauges.g i).bend] = [Go.SE.SV.int Go.IntKind.i64 (p.gauges.g i).edge.lo, Go.SE.SV.int Go.IntKind.i64 (p.gauges.g i).edge.hi, Go.SE.SV.int Go.IntKind.i64 (p.gauges.g i).across.lo, Go.SE.SV.int Go.IntKind.i64 (p.gauges.g i).across.hi, Go.SE.SV.int Go.IntKind.i64
 (p.gauges.g i).bend]) ∧ nat_lit 0 = nat_lit 0 ∧ (↑p.gauges.n : Int) = (↑p.gauges.n : Int) ∧ nat_lit 0 = nat_lit 0 ∧ Go.SE.SV.ref [Go.SE.SV.int Go.IntKind.i64 s.shift, Go.SE.SV.bool s.back] (nat_lit 0) = Go.SE.SV.ref [Go.SE.SV.int Go.IntKind.i64 s.shift, Go.SE.SV.bool s.back] (nat_lit 0) ∧ Go.SE.SV.ref [Go.SE.SV.int Go.IntKind.i64 p.id, Go.SE.SV.int Go.IntKind.i64 p.colour, Go.SE.SV.int
 Go.IntKind.i64 p.rev, Go.SE.SV.int Go.IntKind.i64 p.made, Go.SE.SV.int Go.IntKind.i64 p.swell, Go.SE.SV.sl (nat_lit 5) p.gauges.n fun (i : Nat) ↦ [Go.SE.SV.int Go.IntKind.i64 (p.gauges.g i).edge.lo, Go.SE.SV.int Go.IntKind.i64 (p.gauges.g i).edge.hi, Go.SE.SV.int Go.IntKind.i64 (p.gauges.g i).across.lo, Go.SE.SV.int Go.IntKind.i64 (p.gauges.g i).across.hi, Go.SE.SV.int Go.IntKind.i64 (p.gauges.g
 i).bend], Go.SE.SV.sl (nat_lit 3) p.marks.n fun (i : Nat) ↦ [Go.SE.SV.int Go.IntKind.i64 (p.marks.g i).edge, Go.SE.SV.int Go.IntKind.i64 (p.marks.g i).place, Go.SE.SV.int Go.IntKind.i64 (p.marks.g i).tone]] (nat_lit 0) = Go.SE.SV.ref [Go.SE.SV.int Go.IntKind.i64 p.id, Go.SE.SV.int Go.IntKind.i64 p.colour, Go.SE.SV.int Go.IntKind.i64 p.rev, Go.SE.SV.int Go.IntKind.i64 p.made, Go.SE.SV.int
 Go.IntKind.i64 p.swell, Go.SE.SV.sl (nat_lit 5) p.gauges.n fun (i : Nat) ↦ [Go.SE.SV.int Go.IntKind.i64 (p.gauges.g i).edge.lo, Go.SE.SV.int Go.IntKind.i64 (p.gauges.g i).edge.hi, Go.SE.SV.int Go.IntKind.i64 (p.gauges.g i).across.lo, Go.SE.SV.int Go.IntKind.i64 (p.gauges.g i).across.hi, Go.SE.SV.int Go.IntKind.i64 (p.gauges.g i).bend], Go.SE.SV.sl (nat_lit 3) p.marks.n fun (i : Nat) ↦
 [Go.SE.SV.int Go.IntKind.i64 (p.marks.g i).edge, Go.SE.SV.int Go.IntKind.i64 (p.marks.g i).place, Go.SE.SV.int Go.IntKind.i64 (p.marks.g i).tone]] (nat_lit 0) ∧ (p.gauges.n = p.gauges.n ∧ ∀ (i : Nat), i < p.gauges.n → Go.SE.setRow (fun (j : Nat) ↦ [Go.SE.SV.int Go.IntKind.i64 (L.rsTo p s g j).edge.lo, Go.SE.SV.int Go.IntKind.i64 (L.rsTo p s g j).edge.hi, Go.SE.SV.int Go.IntKind.i64 (L.rsTo p s g
 j).across.lo, Go.SE.SV.int Go.IntKind.i64 (L.rsTo p s g j).across.hi, Go.SE.SV.int Go.IntKind.i64 (L.rsTo p s g j).bend]) (Int.toNat (L.ed s (↑p.gauges.n : Int) (↑g : Int))) (nat_lit 0) [Go.SE.SV.int Go.IntKind.i64 (p.gauges.g (Int.toNat (↑g : Int))).edge.lo, Go.SE.SV.int Go.IntKind.i64 (p.gauges.g (Int.toNat (↑g : Int))).edge.hi, Go.SE.SV.int Go.IntKind.i64 (p.gauges.g (Int.toNat (Int.tmod ((↑g :
 Int) + (↑p.gauges.n : Int) - (1 : Int)) (↑p.gauges.n : Int)))).across.lo, Go.SE.SV.int Go.IntKind.i64 (p.gauges.g (Int.toNat (Int.tmod ((↑g : Int) + (↑p.gauges.n : Int) - (1 : Int)) (↑p.gauges.n : Int)))).across.hi, Go.SE.SV.int Go.IntKind.i64 (p.gauges.g (Int.toNat (Int.tmod ((↑g : Int) + (↑p.gauges.n : Int) - (1 : Int)) (↑p.gauges.n : Int)))).bend] i = [Go.SE.SV.int Go.IntKind.i64 (L.rsTo p s g'
 i).edge.lo, Go.SE.SV.int Go.IntKind.i64 (L.rsTo p s g' i).edge.hi, Go.SE.SV.int Go.IntKind.i64 (L.rsTo p s g' i).across.lo, Go.SE.SV.int Go.IntKind.i64 (L.rsTo p s g' i).across.hi, Go.SE.SV.int Go.IntKind.i64 (L.rsTo p s g' i).bend]) ∧ p.id = p.id ∧ p.colour = p.colour ∧ p.rev = p.rev ∧ p.made = p.made ∧ p.swell = p.swell ∧ (p.marks.n = p.marks.n ∧ ∀ (i : Nat), i < p.marks.n → [Go.SE.SV.int
 Go.IntKind.i64 (p.marks.g i).edge, Go.SE.SV.int Go.IntKind.i64 (p.marks.g i).place, Go.SE.SV.int Go.IntKind.i64 (p.marks.g i).tone] = [Go.SE.SV.int Go.IntKind.i64 (p.marks.g i).edge, Go.SE.SV.int Go.IntKind.i64 (p.marks.g i).place, Go.SE.SV.int Go.IntKind.i64 (p.marks.g i).tone]) ∧ (0 : Int) = (0 : Int) ∧ (0 : Int) = (0 : Int) ∧ (0 : Int) = (0 : Int) ∧ (0 : Int) = (0 : Int) ∧ (0 : Int) = (0 : Int)
 ∧ Go.Value.slice Option.none (0 : Nat) (0 : Nat) = Go.Value.slice Option.none (0 : Nat) (0 : Nat) ∧ Go.Value.slice Option.none (0 : Nat) (0 : Nat) = Go.Value.slice Option.none (0 : Nat) (0 : Nat) ∧ g' ≤ p.gauges.n ∧ p.gauges.n - g' < p.gauges.n - g) ∧ ((((0 : Int) ≤ L.ed s (↑p.gauges.n : Int) (↑g : Int) ∧ L.ed s (↑p.gauges.n : Int) (↑g : Int) < (↑p.gauges.n : Int)) ∧ Int.toNat (L.ed s (↑p.gauges.n
 : Int) (↑g : Int)) < p.gauges.n ∧ Go.SE.InK Go.IntKind.i64 ((↑g : Int) + (1 : Int)) ∧ ∃ (g' : Nat), (↑g : Int) + (1 : Int) = (↑g' : Int) ∧ (↑p.gauges.n : Int) = (↑p.gauges.n : Int) ∧ (p.gauges.n = p.gauges.n ∧ ∀ (i : Nat), i < p.gauges.n → [Go.SE.SV.int Go.IntKind.i64 (p.gauges.g i).edge.lo, Go.SE.SV.int Go.IntKind.i64 (p.gauges.g i).edge.hi, Go.SE.SV.int Go.IntKind.i64 (p.gauges.g i).across.lo,
 Go.SE.SV.int Go.IntKind.i64 (p.gauges.g i).across.hi, Go.SE.SV.int Go.IntKind.i64 (p.gauges.g i).bend] = [Go.SE.SV.int Go.IntKind.i64 (p.gauges.g i).edge.lo, Go.SE.SV.int Go.IntKind.i64 (p.gauges.g i).edge.hi, Go.SE.SV.int Go.IntKind.i64 (p.gauges.g i).across.lo, Go.SE.SV.int Go.IntKind.i64 (p.gauges.g i).across.hi, Go.SE.SV.int Go.IntKind.i64 (p.gauges.g i).bend]) ∧ nat_lit 0 = nat_lit 0 ∧
 (↑p.gauges.n : Int) = (↑p.gauges.n : Int) ∧ nat_lit 0 = nat_lit 0 ∧ Go.SE.SV.ref [Go.SE.SV.int Go.IntKind.i64 s.shift, Go.SE.SV.bool s.back] (nat_lit 0) = Go.SE.SV.ref [Go.SE.SV.int Go.IntKind.i64 s.shift, Go.SE.SV.bool s.back] (nat_lit 0) ∧ Go.SE.SV.ref [Go.SE.SV.int Go.IntKind.i64 p.id, Go.SE.SV.int Go.IntKind.i64 p.colour, Go.SE.SV.int Go.IntKind.i64 p.rev, Go.SE.SV.int Go.IntKind.i64 p.made,
 Go.SE.SV.int Go.IntKind.i64 p.swell, Go.SE.SV.sl (nat_lit 5) p.gauges.n fun (i : Nat) ↦ [Go.SE.SV.int Go.IntKind.i64 (p.gauges.g i).edge.lo, Go.SE.SV.int Go.IntKind.i64 (p.gauges.g i).edge.hi, Go.SE.SV.int Go.IntKind.i64 (p.gauges.g i).across.lo, Go.SE.SV.int Go.IntKind.i64 (p.gauges.g i).across.hi, Go.SE.SV.int Go.IntKind.i64 (p.gauges.g i).bend], Go.SE.SV.sl (nat_lit 3) p.marks.n fun (i : Nat) ↦
 [Go.SE.SV.int Go.IntKind.i64 (p.marks.g i).edge, Go.SE.SV.int Go.IntKind.i64 (p.marks.g i).place, Go.SE.SV.int Go.IntKind.i64 (p.marks.g i).tone]] (nat_lit 0) = Go.SE.SV.ref [Go.SE.SV.int Go.IntKind.i64 p.id, Go.SE.SV.int Go.IntKind.i64 p.colour, Go.SE.SV.int Go.IntKind.i64 p.rev, Go.SE.SV.int Go.IntKind.i64 p.made, Go.SE.SV.int Go.IntKind.i64 p.swell, Go.SE.SV.sl (nat_lit 5) p.gauges.n fun (i :
 Nat) ↦ [Go.SE.SV.int Go.IntKind.i64 (p.gauges.g i).edge.lo, Go.SE.SV.int Go.IntKind.i64 (p.gauges.g i).edge.hi, Go.SE.SV.int Go.IntKind.i64 (p.gauges.g i).across.lo, Go.SE.SV.int Go.IntKind.i64 (p.gauges.g i).across.hi, Go.SE.SV.int Go.IntKind.i64 (p.gauges.g i).bend], Go.SE.SV.sl (nat_lit 3) p.marks.n fun (i : Nat) ↦ [Go.SE.SV.int Go.IntKind.i64 (p.marks.g i).edge, Go.SE.SV.int Go.IntKind.i64
 (p.marks.g i).place, Go.SE.SV.int Go.IntKind.i64 (p.marks.g i).tone]] (nat_lit 0) ∧ (p.gauges.n = p.gauges.n ∧ ∀ (i : Nat), i < p.gauges.n → Go.SE.setRow (fun (j : Nat) ↦ [Go.SE.SV.int Go.IntKind.i64 (L.rsTo p s g j).edge.lo, Go.SE.SV.int Go.IntKind.i64 (L.rsTo p s g j).edge.hi, Go.SE.SV.int Go.IntKind.i64 (L.rsTo p s g j).across.lo, Go.SE.SV.int Go.IntKind.i64 (L.rsTo p s g j).across.hi,
 Go.SE.SV.int Go.IntKind.i64 (L.rsTo p s g j).bend]) (Int.toNat (L.ed s (↑p.gauges.n : Int) (↑g : Int))) (nat_lit 0) [Go.SE.SV.int Go.IntKind.i64 (p.gauges.g (Int.toNat (↑g : Int))).edge.lo, Go.SE.SV.int Go.IntKind.i64 (p.gauges.g (Int.toNat (↑g : Int))).edge.hi, Go.SE.SV.int Go.IntKind.i64 (p.gauges.g (Int.toNat (Int.tmod ((↑g : Int) + (↑p.gauges.n : Int) - (1 : Int)) (↑p.gauges.n :
 Int)))).across.lo, Go.SE.SV.int Go.IntKind.i64 (p.gauges.g (Int.toNat (Int.tmod ((↑g : Int) + (↑p.gauges.n : Int) - (1 : Int)) (↑p.gauges.n : Int)))).across.hi, Go.SE.SV.int Go.IntKind.i64 (p.gauges.g (Int.toNat (Int.tmod ((↑g : Int) + (↑p.gauges.n : Int) - (1 : Int)) (↑p.gauges.n : Int)))).bend] i = [Go.SE.SV.int Go.IntKind.i64 (L.rsTo p s g' i).edge.lo, Go.SE.SV.int Go.IntKind.i64 (L.rsTo p s g'
 i).edge.hi, Go.SE.SV.int Go.IntKind.i64 (L.rsTo p s g' i).across.lo, Go.SE.SV.int Go.IntKind.i64 (L.rsTo p s g' i).across.hi, Go.SE.SV.int Go.IntKind.i64 (L.rsTo p s g' i).bend]) ∧ p.id = p.id ∧ p.colour = p.colour ∧ p.rev = p.rev ∧ p.made = p.made ∧ p.swell = p.swell ∧ (p.marks.n = p.marks.n ∧ ∀ (i : Nat), i < p.marks.n → [Go.SE.SV.int Go.IntKind.i64 (p.marks.g i).edge, Go.SE.SV.int
 Go.IntKind.i64 (p.marks.g i).place, Go.SE.SV.int Go.IntKind.i64 (p.marks.g i).tone] = [Go.SE.SV.int Go.IntKind.i64 (p.marks.g i).edge, Go.SE.SV.int Go.IntKind.i64 (p.marks.g i).place, Go.SE.SV.int Go.IntKind.i64 (p.marks.g i).tone]) ∧ (0 : Int) = (0 : Int) ∧ (0 : Int) = (0 : Int) ∧ (0 : Int) = (0 : Int) ∧ (0 : Int) = (0 : Int) ∧ (0 : Int) = (0 : Int) ∧ Go.Value.slice Option.none (0 : Nat) (0 :
 Nat) = Go.Value.slice Option.none (0 : Nat) (0 : Nat) ∧ Go.Value.slice Option.none (0 : Nat) (0 : Nat) = Go.Value.slice Option.none (0 : Nat) (0 : Nat) ∧ g' ≤ p.gauges.n ∧ p.gauges.n - g' < p.gauges.n - g) ∧ (((0 : Int) ≤ L.ed s (↑p.gauges.n : Int) (↑g : Int) ∧ L.ed s (↑p.gauges.n : Int) (↑g : Int) < (↑p.gauges.n : Int)) ∧ Int.toNat (L.ed s (↑p.gauges.n : Int) (↑g : Int)) < p.gauges.n ∧ Go.SE.InK
 Go.IntKind.i64 ((↑g : Int) + (1 : Int)) ∧ ∃ (g' : Nat), (↑g : Int) + (1 : Int) = (↑g' : Int) ∧ (↑p.gauges.n : Int) = (↑p.gauges.n : Int) ∧ (p.gauges.n = p.gauges.n ∧ ∀ (i : Nat), i < p.gauges.n → [Go.SE.SV.int Go.IntKind.i64 (p.gauges.g i).edge.lo, Go.SE.SV.int Go.IntKind.i64 (p.gauges.g i).edge.hi, Go.SE.SV.int Go.IntKind.i64 (p.gauges.g i).across.lo, Go.SE.SV.int Go.IntKind.i64 (p.gauges.g
 i).across.hi, Go.SE.SV.int Go.IntKind.i64 (p.gauges.g i).bend] = [Go.SE.SV.int Go.IntKind.i64 (p.gauges.g i).edge.lo, Go.SE.SV.int Go.IntKind.i64 (p.gauges.g i).edge.hi, Go.SE.SV.int Go.IntKind.i64 (p.gauges.g i).across.lo, Go.SE.SV.int Go.IntKind.i64 (p.gauges.g i).across.hi, Go.SE.SV.int Go.IntKind.i64 (p.gauges.g i).bend]) ∧ nat_lit 0 = nat_lit 0 ∧ (↑p.gauges.n : Int) = (↑p.gauges.n : Int) ∧
 nat_lit 0 = nat_lit 0 ∧ Go.SE.SV.ref [Go.SE.SV.int Go.IntKind.i64 s.shift, Go.SE.SV.bool s.back] (nat_lit 0) = Go.SE.SV.ref [Go.SE.SV.int Go.IntKind.i64 s.shift, Go.SE.SV.bool s.back] (nat_lit 0) ∧ Go.SE.SV.ref [Go.SE.SV.int Go.IntKind.i64 p.id, Go.SE.SV.int Go.IntKind.i64 p.colour, Go.SE.SV.int Go.IntKind.i64 p.rev, Go.SE.SV.int Go.IntKind.i64 p.made, Go.SE.SV.int Go.IntKind.i64 p.swell,
 Go.SE.SV.sl (nat_lit 5) p.gauges.n fun (i : Nat) ↦ [Go.SE.SV.int Go.IntKind.i64 (p.gauges.g i).edge.lo, Go.SE.SV.int Go.IntKind.i64 (p.gauges.g i).edge.hi, Go.SE.SV.int Go.IntKind.i64 (p.gauges.g i).across.lo, Go.SE.SV.int Go.IntKind.i64 (p.gauges.g i).across.hi, Go.SE.SV.int Go.IntKind.i64 (p.gauges.g i).bend], Go.SE.SV.sl (nat_lit 3) p.marks.n fun (i : Nat) ↦ [Go.SE.SV.int Go.IntKind.i64
 (p.marks.g i).edge, Go.SE.SV.int Go.IntKind.i64 (p.marks.g i).place, Go.SE.SV.int Go.IntKind.i64 (p.marks.g i).tone]] (nat_lit 0) = Go.SE.SV.ref [Go.SE.SV.int Go.IntKind.i64 p.id, Go.SE.SV.int Go.IntKind.i64 p.colour, Go.SE.SV.int Go.IntKind.i64 p.rev, Go.SE.SV.int Go.IntKind.i64 p.made, Go.SE.SV.int Go.IntKind.i64 p.swell, Go.SE.SV.sl (nat_lit 5) p.gauges.n fun (i : Nat) ↦ [Go.SE.SV.int
 Go.IntKind.i64 (p.gauges.g i).edge.lo, Go.SE.SV.int Go.IntKind.i64 (p.gauges.g i).edge.hi, Go.SE.SV.int Go.IntKind.i64 (p.gauges.g i).across.lo, Go.SE.SV.int Go.IntKind.i64 (p.gauges.g i).across.hi, Go.SE.SV.int Go.IntKind.i64 (p.gauges.g i).bend], Go.SE.SV.sl (nat_lit 3) p.marks.n fun (i : Nat) ↦ [Go.SE.SV.int Go.IntKind.i64 (p.marks.g i).edge, Go.SE.SV.int Go.IntKind.i64 (p.marks.g i).place,
 Go.SE.SV.int Go.IntKind.i64 (p.marks.g i).tone]] (nat_lit 0) ∧ (p.gauges.n = p.gauges.n ∧ ∀ (i : Nat), i < p.gauges.n → Go.SE.setRow (fun (j : Nat) ↦ [Go.SE.SV.int Go.IntKind.i64 (L.rsTo p s g j).edge.lo, Go.SE.SV.int Go.IntKind.i64 (L.rsTo p s g j).edge.hi, Go.SE.SV.int Go.IntKind.i64 (L.rsTo p s g j).across.lo, Go.SE.SV.int Go.IntKind.i64 (L.rsTo p s g j).across.hi, Go.SE.SV.int Go.IntKind.i64
 (L.rsTo p s g j).bend]) (Int.toNat (L.ed s (↑p.gauges.n : Int) (↑g : Int))) (nat_lit 0) [Go.SE.SV.int Go.IntKind.i64 (p.gauges.g (Int.toNat (↑g : Int))).edge.lo, Go.SE.SV.int Go.IntKind.i64 (p.gauges.g (Int.toNat (↑g : Int))).edge.hi, Go.SE.SV.int Go.IntKind.i64 (p.gauges.g (Int.toNat (Int.tmod ((↑g : Int) + (↑p.gauges.n : Int) - (1 : Int)) (↑p.gauges.n : Int)))).across.lo, Go.SE.SV.int
 Go.IntKind.i64 (p.gauges.g (Int.toNat (Int.tmod ((↑g : Int) + (↑p.gauges.n : Int) - (1 : Int)) (↑p.gauges.n : Int)))).across.hi, Go.SE.SV.int Go.IntKind.i64 (p.gauges.g (Int.toNat (Int.tmod ((↑g : Int) + (↑p.gauges.n : Int) - (1 : Int)) (↑p.gauges.n : Int)))).bend] i = [Go.SE.SV.int Go.IntKind.i64 (L.rsTo p s g' i).edge.lo, Go.SE.SV.int Go.IntKind.i64 (L.rsTo p s g' i).edge.hi, Go.SE.SV.int
 Go.IntKind.i64 (L.rsTo p s g' i).across.lo, Go.SE.SV.int Go.IntKind.i64 (L.rsTo p s g' i).across.hi, Go.SE.SV.int Go.IntKind.i64 (L.rsTo p s g' i).bend]) ∧ p.id = p.id ∧ p.colour = p.colour ∧ p.rev = p.rev ∧ p.made = p.made ∧ p.swell = p.swell ∧ (p.marks.n = p.marks.n ∧ ∀ (i : Nat), i < p.marks.n → [Go.SE.SV.int Go.IntKind.i64 (p.marks.g i).edge, Go.SE.SV.int Go.IntKind.i64 (p.marks.g i).place,
 Go.SE.SV.int Go.IntKind.i64 (p.marks.g i).tone] = [Go.SE.SV.int Go.IntKind.i64 (p.marks.g i).edge, Go.SE.SV.int Go.IntKind.i64 (p.marks.g i).place, Go.SE.SV.int Go.IntKind.i64 (p.marks.g i).tone]) ∧ (0 : Int) = (0 : Int) ∧ (0 : Int) = (0 : Int) ∧ (0 : Int) = (0 : Int) ∧ (0 : Int) = (0 : Int) ∧ (0 : Int) = (0 : Int) ∧ Go.Value.slice Option.none (0 : Nat) (0 : Nat) = Go.Value.slice Option.none (0 :
 Nat) (0 : Nat) ∧ Go.Value.slice Option.none (0 : Nat) (0 : Nat) = Go.Value.slice Option.none (0 : Nat) (0 : Nat) ∧ g' ≤ p.gauges.n ∧ p.gauges.n - g' < p.gauges.n - g) ∧ ((0 : Int) ≤ L.ed s (↑p.gauges.n : Int) (↑g : Int) ∧ L.ed s (↑p.gauges.n : Int) (↑g : Int) < (↑p.gauges.n : Int)) ∧ Int.toNat (L.ed s (↑p.gauges.n : Int) (↑g : Int)) < p.gauges.n ∧ Go.SE.InK Go.IntKind.i64 ((↑g : Int) + (1 : Int))
 ∧ ∃ (g' : Nat), (↑g : Int) + (1 : Int) = (↑g' : Int) ∧ (↑p.gauges.n : Int) = (↑p.gauges.n : Int) ∧ (p.gauges.n = p.gauges.n ∧ ∀ (i : Nat), i < p.gauges.n → [Go.SE.SV.int Go.IntKind.i64 (p.gauges.g i).edge.lo, Go.SE.SV.int Go.IntKind.i64 (p.gauges.g i).edge.hi, Go.SE.SV.int Go.IntKind.i64 (p.gauges.g i).across.lo, Go.SE.SV.int Go.IntKind.i64 (p.gauges.g i).across.hi, Go.SE.SV.int Go.IntKind.i64
 (p.gauges.g i).bend] = [Go.SE.SV.int Go.IntKind.i64 (p.gauges.g i).edge.lo, Go.SE.SV.int Go.IntKind.i64 (p.gauges.g i).edge.hi, Go.SE.SV.int Go.IntKind.i64 (p.gauges.g i).across.lo, Go.SE.SV.int Go.IntKind.i64 (p.gauges.g i).across.hi, Go.SE.SV.int Go.IntKind.i64 (p.gauges.g i).bend]) ∧ nat_lit 0 = nat_lit 0 ∧ (↑p.gauges.n : Int) = (↑p.gauges.n : Int) ∧ nat_lit 0 = nat_lit 0 ∧ Go.SE.SV.ref
 [Go.SE.SV.int Go.IntKind.i64 s.shift, Go.SE.SV.bool s.back] (nat_lit 0) = Go.SE.SV.ref [Go.SE.SV.int Go.IntKind.i64 s.shift, Go.SE.SV.bool s.back] (nat_lit 0) ∧ Go.SE.SV.ref [Go.SE.SV.int Go.IntKind.i64 p.id, Go.SE.SV.int Go.IntKind.i64 p.colour, Go.SE.SV.int Go.IntKind.i64 p.rev, Go.SE.SV.int Go.IntKind.i64 p.made, Go.SE.SV.int Go.IntKind.i64 p.swell, Go.SE.SV.sl (nat_lit 5) p.gauges.n fun (i :
 Nat) ↦ [Go.SE.SV.int Go.IntKind.i64 (p.gauges.g i).edge.lo, Go.SE.SV.int Go.IntKind.i64 (p.gauges.g i).edge.hi, Go.SE.SV.int Go.IntKind.i64 (p.gauges.g i).across.lo, Go.SE.SV.int Go.IntKind.i64 (p.gauges.g i).across.hi, Go.SE.SV.int Go.IntKind.i64 (p.gauges.g i).bend], Go.SE.SV.sl (nat_lit 3) p.marks.n fun (i : Nat) ↦ [Go.SE.SV.int Go.IntKind.i64 (p.marks.g i).edge, Go.SE.SV.int Go.IntKind.i64
 (p.marks.g i).place, Go.SE.SV.int Go.IntKind.i64 (p.marks.g i).tone]] (nat_lit 0) = Go.SE.SV.ref [Go.SE.SV.int Go.IntKind.i64 p.id, Go.SE.SV.int Go.IntKind.i64 p.colour, Go.SE.SV.int Go.IntKind.i64 p.rev, Go.SE.SV.int Go.IntKind.i64 p.made, Go.SE.SV.int Go.IntKind.i64 p.swell, Go.SE.SV.sl (nat_lit 5) p.gauges.n fun (i : Nat) ↦ [Go.SE.SV.int Go.IntKind.i64 (p.gauges.g i).edge.lo, Go.SE.SV.int
 Go.IntKind.i64 (p.gauges.g i).edge.hi, Go.SE.SV.int Go.IntKind.i64 (p.gauges.g i).across.lo, Go.SE.SV.int Go.IntKind.i64 (p.gauges.g i).across.hi, Go.SE.SV.int Go.IntKind.i64 (p.gauges.g i).bend], Go.SE.SV.sl (nat_lit 3) p.marks.n fun (i : Nat) ↦ [Go.SE.SV.int Go.IntKind.i64 (p.marks.g i).edge, Go.SE.SV.int Go.IntKind.i64 (p.marks.g i).place, Go.SE.SV.int Go.IntKind.i64 (p.marks.g i).tone]]
 (nat_lit 0) ∧ (p.gauges.n = p.gauges.n ∧ ∀ (i : Nat), i < p.gauges.n → Go.SE.setRow (fun (j : Nat) ↦ [Go.SE.SV.int Go.IntKind.i64 (L.rsTo p s g j).edge.lo, Go.SE.SV.int Go.IntKind.i64 (L.rsTo p s g j).edge.hi, Go.SE.SV.int Go.IntKind.i64 (L.rsTo p s g j).across.lo, Go.SE.SV.int Go.IntKind.i64 (L.rsTo p s g j).across.hi, Go.SE.SV.int Go.IntKind.i64 (L.rsTo p s g j).bend]) (Int.toNat (L.ed s
 (↑p.gauges.n : Int) (↑g : Int))) (nat_lit 0) [Go.SE.SV.int Go.IntKind.i64 (p.gauges.g (Int.toNat (↑g : Int))).edge.lo, Go.SE.SV.int Go.IntKind.i64 (p.gauges.g (Int.toNat (↑g : Int))).edge.hi, Go.SE.SV.int Go.IntKind.i64 (p.gauges.g (Int.toNat (Int.tmod ((↑g : Int) + (↑p.gauges.n : Int) - (1 : Int)) (↑p.gauges.n : Int)))).across.lo, Go.SE.SV.int Go.IntKind.i64 (p.gauges.g (Int.toNat (Int.tmod ((↑g
 : Int) + (↑p.gauges.n : Int) - (1 : Int)) (↑p.gauges.n : Int)))).across.hi, Go.SE.SV.int Go.IntKind.i64 (p.gauges.g (Int.toNat (Int.tmod ((↑g : Int) + (↑p.gauges.n : Int) - (1 : Int)) (↑p.gauges.n : Int)))).bend] i = [Go.SE.SV.int Go.IntKind.i64 (L.rsTo p s g' i).edge.lo, Go.SE.SV.int Go.IntKind.i64 (L.rsTo p s g' i).edge.hi, Go.SE.SV.int Go.IntKind.i64 (L.rsTo p s g' i).across.lo, Go.SE.SV.int
 Go.IntKind.i64 (L.rsTo p s g' i).across.hi, Go.SE.SV.int Go.IntKind.i64 (L.rsTo p s g' i).bend]) ∧ p.id = p.id ∧ p.colour = p.colour ∧ p.rev = p.rev ∧ p.made = p.made ∧ p.swell = p.swell ∧ (p.marks.n = p.marks.n ∧ ∀ (i : Nat), i < p.marks.n → [Go.SE.SV.int Go.IntKind.i64 (p.marks.g i).edge, Go.SE.SV.int Go.IntKind.i64 (p.marks.g i).place, Go.SE.SV.int Go.IntKind.i64 (p.marks.g i).tone] =
 [Go.SE.SV.int Go.IntKind.i64 (p.marks.g i).edge, Go.SE.SV.int Go.IntKind.i64 (p.marks.g i).place, Go.SE.SV.int Go.IntKind.i64 (p.marks.g i).tone]) ∧ (0 : Int) = (0 : Int) ∧ (0 : Int) = (0 : Int) ∧ (0 : Int) = (0 : Int) ∧ (0 : Int) = (0 : Int) ∧ (0 : Int) = (0 : Int) ∧ Go.Value.slice Option.none (0 : Nat) (0 : Nat) = Go.Value.slice Option.none (0 : Nat) (0 : Nat) ∧ Go.Value.slice Option.none (0 :
 Nat) (0 : Nat) = Go.Value.slice Option.none (0 : Nat) (0 : Nat) ∧ g' ≤ p.gauges.n ∧ p.gauges.n - g' < p.gauges.n - g) ∧ ((0 : Int) ≤ L.ed s (↑p.gauges.n : Int) (↑g : Int) ∧ L.ed s (↑p.gauges.n : Int) (↑g : Int) < (↑p.gauges.n : Int)) ∧ Int.toNat (L.ed s (↑p.gauges.n : Int) (↑g : Int)) < p.gauges.n ∧ Go.SE.InK Go.IntKind.i64 ((↑g : Int) + (1 : Int)) ∧ ∃ (g' : Nat), (↑g : Int) + (1 : Int) = (↑g' :
 Int) ∧ (↑p.gauges.n : Int) = (↑p.gauges.n : Int) ∧ (p.gauges.n = p.gauges.n ∧ ∀ (i : Nat), i < p.gauges.n → [Go.SE.SV.int Go.IntKind.i64 (p.gauges.g i).edge.lo, Go.SE.SV.int Go.IntKind.i64 (p.gauges.g i).edge.hi, Go.SE.SV.int Go.IntKind.i64 (p.gauges.g i).across.lo, Go.SE.SV.int Go.IntKind.i64 (p.gauges.g i).across.hi, Go.SE.SV.int Go.IntKind.i64 (p.gauges.g i).bend] = [Go.SE.SV.int Go.IntKind.i64
 (p.gauges.g i).edge.lo, Go.SE.SV.int Go.IntKind.i64 (p.gauges.g i).edge.hi, Go.SE.SV.int Go.IntKind.i64 (p.gauges.g i).across.lo, Go.SE.SV.int Go.IntKind.i64 (p.gauges.g i).across.hi, Go.SE.SV.int Go.IntKind.i64 (p.gauges.g i).bend]) ∧ nat_lit 0 = nat_lit 0 ∧ (↑p.gauges.n : Int) = (↑p.gauges.n : Int) ∧ nat_lit 0 = nat_lit 0 ∧ Go.SE.SV.ref [Go.SE.SV.int Go.IntKind.i64 s.shift, Go.SE.SV.bool s.back]
 (nat_lit 0) = Go.SE.SV.ref [Go.SE.SV.int Go.IntKind.i64 s.shift, Go.SE.SV.bool s.back] (nat_lit 0) ∧ Go.SE.SV.ref [Go.SE.SV.int Go.IntKind.i64 p.id, Go.SE.SV.int Go.IntKind.i64 p.colour, Go.SE.SV.int Go.IntKind.i64 p.rev, Go.SE.SV.int Go.IntKind.i64 p.made, Go.SE.SV.int Go.IntKind.i64 p.swell, Go.SE.SV.sl (nat_lit 5) p.gauges.n fun (i : Nat) ↦ [Go.SE.SV.int Go.IntKind.i64 (p.gauges.g i).edge.lo,
 Go.SE.SV.int Go.IntKind.i64 (p.gauges.g i).edge.hi, Go.SE.SV.int Go.IntKind.i64 (p.gauges.g i).across.lo, Go.SE.SV.int Go.IntKind.i64 (p.gauges.g i).across.hi, Go.SE.SV.int Go.IntKind.i64 (p.gauges.g i).bend], Go.SE.SV.sl (nat_lit 3) p.marks.n fun (i : Nat) ↦ [Go.SE.SV.int Go.IntKind.i64 (p.marks.g i).edge, Go.SE.SV.int Go.IntKind.i64 (p.marks.g i).place, Go.SE.SV.int Go.IntKind.i64 (p.marks.g
 i).tone]] (nat_lit 0) = Go.SE.SV.ref [Go.SE.SV.int Go.IntKind.i64 p.id, Go.SE.SV.int Go.IntKind.i64 p.colour, Go.SE.SV.int Go.IntKind.i64 p.rev, Go.SE.SV.int Go.IntKind.i64 p.made, Go.SE.SV.int Go.IntKind.i64 p.swell, Go.SE.SV.sl (nat_lit 5) p.gauges.n fun (i : Nat) ↦ [Go.SE.SV.int Go.IntKind.i64 (p.gauges.g i).edge.lo, Go.SE.SV.int Go.IntKind.i64 (p.gauges.g i).edge.hi, Go.SE.SV.int
 Go.IntKind.i64 (p.gauges.g i).across.lo, Go.SE.SV.int Go.IntKind.i64 (p.gauges.g i).across.hi, Go.SE.SV.int Go.IntKind.i64 (p.gauges.g i).bend], Go.SE.SV.sl (nat_lit 3) p.marks.n fun (i : Nat) ↦ [Go.SE.SV.int Go.IntKind.i64 (p.marks.g i).edge, Go.SE.SV.int Go.IntKind.i64 (p.marks.g i).place, Go.SE.SV.int Go.IntKind.i64 (p.marks.g i).tone]] (nat_lit 0) ∧ (p.gauges.n = p.gauges.n ∧ ∀ (i : Nat), i <
 p.gauges.n → Go.SE.setRow (fun (j : Nat) ↦ [Go.SE.SV.int Go.IntKind.i64 (L.rsTo p s g j).edge.lo, Go.SE.SV.int Go.IntKind.i64 (L.rsTo p s g j).edge.hi, Go.SE.SV.int Go.IntKind.i64 (L.rsTo p s g j).across.lo, Go.SE.SV.int Go.IntKind.i64 (L.rsTo p s g j).across.hi, Go.SE.SV.int Go.IntKind.i64 (L.rsTo p s g j).bend]) (Int.toNat (L.ed s (↑p.gauges.n : Int) (↑g : Int))) (nat_lit 0) [Go.SE.SV.int
 Go.IntKind.i64 (p.gauges.g (Int.toNat (↑g : Int))).edge.lo, Go.SE.SV.int Go.IntKind.i64 (p.gauges.g (Int.toNat (↑g : Int))).edge.hi, Go.SE.SV.int Go.IntKind.i64 (p.gauges.g (Int.toNat (Int.tmod ((↑g : Int) + (↑p.gauges.n : Int) - (1 : Int)) (↑p.gauges.n : Int)))).across.lo, Go.SE.SV.int Go.IntKind.i64 (p.gauges.g (Int.toNat (Int.tmod ((↑g : Int) + (↑p.gauges.n : Int) - (1 : Int)) (↑p.gauges.n :
 Int)))).across.hi, Go.SE.SV.int Go.IntKind.i64 (p.gauges.g (Int.toNat (Int.tmod ((↑g : Int) + (↑p.gauges.n : Int) - (1 : Int)) (↑p.gauges.n : Int)))).bend] i = [Go.SE.SV.int Go.IntKind.i64 (L.rsTo p s g' i).edge.lo, Go.SE.SV.int Go.IntKind.i64 (L.rsTo p s g' i).edge.hi, Go.SE.SV.int Go.IntKind.i64 (L.rsTo p s g' i).across.lo, Go.SE.SV.int Go.IntKind.i64 (L.rsTo p s g' i).across.hi, Go.SE.SV.int
 Go.IntKind.i64 (L.rsTo p s g' i).bend]) ∧ p.id = p.id ∧ p.colour = p.colour ∧ p.rev = p.rev ∧ p.made = p.made ∧ p.swell = p.swell ∧ (p.marks.n = p.marks.n ∧ ∀ (i : Nat), i < p.marks.n → [Go.SE.SV.int Go.IntKind.i64 (p.marks.g i).edge, Go.SE.SV.int Go.IntKind.i64 (p.marks.g i).place, Go.SE.SV.int Go.IntKind.i64 (p.marks.g i).tone] = [Go.SE.SV.int Go.IntKind.i64 (p.marks.g i).edge, Go.SE.SV.int
 Go.IntKind.i64 (p.marks.g i).place, Go.SE.SV.int Go.IntKind.i64 (p.marks.g i).tone]) ∧ (0 : Int) = (0 : Int) ∧ (0 : Int) = (0 : Int) ∧ (0 : Int) = (0 : Int) ∧ (0 : Int) = (0 : Int) ∧ (0 : Int) = (0 : Int) ∧ Go.Value.slice Option.none (0 : Nat) (0 : Nat) = Go.Value.slice Option.none (0 : Nat) (0 : Nat) ∧ Go.Value.slice Option.none (0 : Nat) (0 : Nat) = Go.Value.slice Option.none (0 : Nat) (0 : Nat)
 ∧ g' ≤ p.gauges.n ∧ p.gauges.n - g' < p.gauges.n - g) ∧ (((((0 : Int) ≤ L.ed s (↑p.gauges.n : Int) (↑g : Int) ∧ L.ed s (↑p.gauges.n : Int) (↑g : Int) < (↑p.gauges.n : Int)) ∧ Int.toNat (L.ed s (↑p.gauges.n : Int) (↑g : Int)) < p.gauges.n ∧ Go.SE.InK Go.IntKind.i64 ((↑g : Int) + (1 : Int)) ∧ ∃ (g' : Nat), (↑g : Int) + (1 : Int) = (↑g' : Int) ∧ (↑p.gauges.n : Int) = (↑p.gauges.n : Int) ∧ (p.gauges.n
 = p.gauges.n ∧ ∀ (i : Nat), i < p.gauges.n → [Go.SE.SV.int Go.IntKind.i64 (p.gauges.g i).edge.lo, Go.SE.SV.int Go.IntKind.i64 (p.gauges.g i).edge.hi, Go.SE.SV.int Go.IntKind.i64 (p.gauges.g i).across.lo, Go.SE.SV.int Go.IntKind.i64 (p.gauges.g i).across.hi, Go.SE.SV.int Go.IntKind.i64 (p.gauges.g i).bend] = [Go.SE.SV.int Go.IntKind.i64 (p.gauges.g i).edge.lo, Go.SE.SV.int Go.IntKind.i64
 (p.gauges.g i).edge.hi, Go.SE.SV.int Go.IntKind.i64 (p.gauges.g i).across.lo, Go.SE.SV.int Go.IntKind.i64 (p.gauges.g i).across.hi, Go.SE.SV.int Go.IntKind.i64 (p.gauges.g i).bend]) ∧ nat_lit 0 = nat_lit 0 ∧ (↑p.gauges.n : Int) = (↑p.gauges.n : Int) ∧ nat_lit 0 = nat_lit 0 ∧ Go.SE.SV.ref [Go.SE.SV.int Go.IntKind.i64 s.shift, Go.SE.SV.bool s.back] (nat_lit 0) = Go.SE.SV.ref [Go.SE.SV.int
 Go.IntKind.i64 s.shift, Go.SE.SV.bool s.back] (nat_lit 0) ∧ Go.SE.SV.ref [Go.SE.SV.int Go.IntKind.i64 p.id, Go.SE.SV.int Go.IntKind.i64 p.colour, Go.SE.SV.int Go.IntKind.i64 p.rev, Go.SE.SV.int Go.IntKind.i64 p.made, Go.SE.SV.int Go.IntKind.i64 p.swell, Go.SE.SV.sl (nat_lit 5) p.gauges.n fun (i : Nat) ↦ [Go.SE.SV.int Go.IntKind.i64 (p.gauges.g i).edge.lo, Go.SE.SV.int Go.IntKind.i64 (p.gauges.g
 i).edge.hi, Go.SE.SV.int Go.IntKind.i64 (p.gauges.g i).across.lo, Go.SE.SV.int Go.IntKind.i64 (p.gauges.g i).across.hi, Go.SE.SV.int Go.IntKind.i64 (p.gauges.g i).bend], Go.SE.SV.sl (nat_lit 3) p.marks.n fun (i : Nat) ↦ [Go.SE.SV.int Go.IntKind.i64 (p.marks.g i).edge, Go.SE.SV.int Go.IntKind.i64 (p.marks.g i).place, Go.SE.SV.int Go.IntKind.i64 (p.marks.g i).tone]] (nat_lit 0) = Go.SE.SV.ref
 [Go.SE.SV.int Go.IntKind.i64 p.id, Go.SE.SV.int Go.IntKind.i64 p.colour, Go.SE.SV.int Go.IntKind.i64 p.rev, Go.SE.SV.int Go.IntKind.i64 p.made, Go.SE.SV.int Go.IntKind.i64 p.swell, Go.SE.SV.sl (nat_lit 5) p.gauges.n fun (i : Nat) ↦ [Go.SE.SV.int Go.IntKind.i64 (p.gauges.g i).edge.lo, Go.SE.SV.int Go.IntKind.i64 (p.gauges.g i).edge.hi, Go.SE.SV.int Go.IntKind.i64 (p.gauges.g i).across.lo,
 Go.SE.SV.int Go.IntKind.i64 (p.gauges.g i).across.hi, Go.SE.SV.int Go.IntKind.i64 (p.gauges.g i).bend], Go.SE.SV.sl (nat_lit 3) p.marks.n fun (i : Nat) ↦ [Go.SE.SV.int Go.IntKind.i64 (p.marks.g i).edge, Go.SE.SV.int Go.IntKind.i64 (p.marks.g i).place, Go.SE.SV.int Go.IntKind.i64 (p.marks.g i).tone]] (nat_lit 0) ∧ (p.gauges.n = p.gauges.n ∧ ∀ (i : Nat), i < p.gauges.n → Go.SE.setRow (fun (j : Nat)
 ↦ [Go.SE.SV.int Go.IntKind.i64 (L.rsTo p s g j).edge.lo, Go.SE.SV.int Go.IntKind.i64 (L.rsTo p s g j).edge.hi, Go.SE.SV.int Go.IntKind.i64 (L.rsTo p s g j).across.lo, Go.SE.SV.int Go.IntKind.i64 (L.rsTo p s g j).across.hi, Go.SE.SV.int Go.IntKind.i64 (L.rsTo p s g j).bend]) (Int.toNat (L.ed s (↑p.gauges.n : Int) (↑g : Int))) (nat_lit 0) [Go.SE.SV.int Go.IntKind.i64 (p.gauges.g (Int.toNat (↑g :
 Int))).edge.lo, Go.SE.SV.int Go.IntKind.i64 (p.gauges.g (Int.toNat (↑g : Int))).edge.hi, Go.SE.SV.int Go.IntKind.i64 (p.gauges.g (Int.toNat (Int.tmod ((↑g : Int) + (↑p.gauges.n : Int) - (1 : Int)) (↑p.gauges.n : Int)))).across.lo, Go.SE.SV.int Go.IntKind.i64 (p.gauges.g (Int.toNat (Int.tmod ((↑g : Int) + (↑p.gauges.n : Int) - (1 : Int)) (↑p.gauges.n : Int)))).across.hi, Go.SE.SV.int Go.IntKind.i64
 (p.gauges.g (Int.toNat (Int.tmod ((↑g : Int) + (↑p.gauges.n : Int) - (1 : Int)) (↑p.gauges.n : Int)))).bend] i = [Go.SE.SV.int Go.IntKind.i64 (L.rsTo p s g' i).edge.lo, Go.SE.SV.int Go.IntKind.i64 (L.rsTo p s g' i).edge.hi, Go.SE.SV.int Go.IntKind.i64 (L.rsTo p s g' i).across.lo, Go.SE.SV.int Go.IntKind.i64 (L.rsTo p s g' i).across.hi, Go.SE.SV.int Go.IntKind.i64 (L.rsTo p s g' i).bend]) ∧ p.id =
 p.id ∧ p.colour = p.colour ∧ p.rev = p.rev ∧ p.made = p.made ∧ p.swell = p.swell ∧ (p.marks.n = p.marks.n ∧ ∀ (i : Nat), i < p.marks.n → [Go.SE.SV.int Go.IntKind.i64 (p.marks.g i).edge, Go.SE.SV.int Go.IntKind.i64 (p.marks.g i).place, Go.SE.SV.int Go.IntKind.i64 (p.marks.g i).tone] = [Go.SE.SV.int Go.IntKind.i64 (p.marks.g i).edge, Go.SE.SV.int Go.IntKind.i64 (p.marks.g i).place, Go.SE.SV.int
 Go.IntKind.i64 (p.marks.g i).tone]) ∧ (0 : Int) = (0 : Int) ∧ (0 : Int) = (0 : Int) ∧ (0 : Int) = (0 : Int) ∧ (0 : Int) = (0 : Int) ∧ (0 : Int) = (0 : Int) ∧ Go.Value.slice Option.none (0 : Nat) (0 : Nat) = Go.Value.slice Option.none (0 : Nat) (0 : Nat) ∧ Go.Value.slice Option.none (0 : Nat) (0 : Nat) = Go.Value.slice Option.none (0 : Nat) (0 : Nat) ∧ g' ≤ p.gauges.n ∧ p.gauges.n - g' < p.gauges.n
 - g) ∧ (((0 : Int) ≤ L.ed s (↑p.gauges.n : Int) (↑g : Int) ∧ L.ed s (↑p.gauges.n : Int) (↑g : Int) < (↑p.gauges.n : Int)) ∧ Int.toNat (L.ed s (↑p.gauges.n : Int) (↑g : Int)) < p.gauges.n ∧ Go.SE.InK Go.IntKind.i64 ((↑g : Int) + (1 : Int)) ∧ ∃ (g' : Nat), (↑g : Int) + (1 : Int) = (↑g' : Int) ∧ (↑p.gauges.n : Int) = (↑p.gauges.n : Int) ∧ (p.gauges.n = p.gauges.n ∧ ∀ (i : Nat), i < p.gauges.n →
 [Go.SE.SV.int Go.IntKind.i64 (p.gauges.g i).edge.lo, Go.SE.SV.int Go.IntKind.i64 (p.gauges.g i).edge.hi, Go.SE.SV.int Go.IntKind.i64 (p.gauges.g i).across.lo, Go.SE.SV.int Go.IntKind.i64 (p.gauges.g i).across.hi, Go.SE.SV.int Go.IntKind.i64 (p.gauges.g i).bend] = [Go.SE.SV.int Go.IntKind.i64 (p.gauges.g i).edge.lo, Go.SE.SV.int Go.IntKind.i64 (p.gauges.g i).edge.hi, Go.SE.SV.int Go.IntKind.i64
 (p.gauges.g i).across.lo, Go.SE.SV.int Go.IntKind.i64 (p.gauges.g i).across.hi, Go.SE.SV.int Go.IntKind.i64 (p.gauges.g i).bend]) ∧ nat_lit 0 = nat_lit 0 ∧ (↑p.gauges.n : Int) = (↑p.gauges.n : Int) ∧ nat_lit 0 = nat_lit 0 ∧ Go.SE.SV.ref [Go.SE.SV.int Go.IntKind.i64 s.shift, Go.SE.SV.bool s.back] (nat_lit 0) = Go.SE.SV.ref [Go.SE.SV.int Go.IntKind.i64 s.shift, Go.SE.SV.bool s.back] (nat_lit 0) ∧
 Go.SE.SV.ref [Go.SE.SV.int Go.IntKind.i64 p.id, Go.SE.SV.int Go.IntKind.i64 p.colour, Go.SE.SV.int Go.IntKind.i64 p.rev, Go.SE.SV.int Go.IntKind.i64 p.made, Go.SE.SV.int Go.IntKind.i64 p.swell, Go.SE.SV.sl (nat_lit 5) p.gauges.n fun (i : Nat) ↦ [Go.SE.SV.int Go.IntKind.i64 (p.gauges.g i).edge.lo, Go.SE.SV.int Go.IntKind.i64 (p.gauges.g i).edge.hi, Go.SE.SV.int Go.IntKind.i64 (p.gauges.g
 i).across.lo, Go.SE.SV.int Go.IntKind.i64 (p.gauges.g i).across.hi, Go.SE.SV.int Go.IntKind.i64 (p.gauges.g i).bend], Go.SE.SV.sl (nat_lit 3) p.marks.n fun (i : Nat) ↦ [Go.SE.SV.int Go.IntKind.i64 (p.marks.g i).edge, Go.SE.SV.int Go.IntKind.i64 (p.marks.g i).place, Go.SE.SV.int Go.IntKind.i64 (p.marks.g i).tone]] (nat_lit 0) = Go.SE.SV.ref [Go.SE.SV.int Go.IntKind.i64 p.id, Go.SE.SV.int
 Go.IntKind.i64 p.colour, Go.SE.SV.int Go.IntKind.i64 p.rev, Go.SE.SV.int Go.IntKind.i64 p.made, Go.SE.SV.int Go.IntKind.i64 p.swell, Go.SE.SV.sl (nat_lit 5) p.gauges.n fun (i : Nat) ↦ [Go.SE.SV.int Go.IntKind.i64 (p.gauges.g i).edge.lo, Go.SE.SV.int Go.IntKind.i64 (p.gauges.g i).edge.hi, Go.SE.SV.int Go.IntKind.i64 (p.gauges.g i).across.lo, Go.SE.SV.int Go.IntKind.i64 (p.gauges.g i).across.hi,
 Go.SE.SV.int Go.IntKind.i64 (p.gauges.g i).bend], Go.SE.SV.sl (nat_lit 3) p.marks.n fun (i : Nat) ↦ [Go.SE.SV.int Go.IntKind.i64 (p.marks.g i).edge, Go.SE.SV.int Go.IntKind.i64 (p.marks.g i).place, Go.SE.SV.int Go.IntKind.i64 (p.marks.g i).tone]] (nat_lit 0) ∧ (p.gauges.n = p.gauges.n ∧ ∀ (i : Nat), i < p.gauges.n → Go.SE.setRow (fun (j : Nat) ↦ [Go.SE.SV.int Go.IntKind.i64 (L.rsTo p s g
 j).edge.lo, Go.SE.SV.int Go.IntKind.i64 (L.rsTo p s g j).edge.hi, Go.SE.SV.int Go.IntKind.i64 (L.rsTo p s g j).across.lo, Go.SE.SV.int Go.IntKind.i64 (L.rsTo p s g j).across.hi, Go.SE.SV.int Go.IntKind.i64 (L.rsTo p s g j).bend]) (Int.toNat (L.ed s (↑p.gauges.n : Int) (↑g : Int))) (nat_lit 0) [Go.SE.SV.int Go.IntKind.i64 (p.gauges.g (Int.toNat (↑g : Int))).edge.lo, Go.SE.SV.int Go.IntKind.i64
 (p.gauges.g (Int.toNat (↑g : Int))).edge.hi, Go.SE.SV.int Go.IntKind.i64 (p.gauges.g (Int.toNat (Int.tmod ((↑g : Int) + (↑p.gauges.n : Int) - (1 : Int)) (↑p.gauges.n : Int)))).across.lo, Go.SE.SV.int Go.IntKind.i64 (p.gauges.g (Int.toNat (Int.tmod ((↑g : Int) + (↑p.gauges.n : Int) - (1 : Int)) (↑p.gauges.n : Int)))).across.hi, Go.SE.SV.int Go.IntKind.i64 (p.gauges.g (Int.toNat (Int.tmod ((↑g :
 Int) + (↑p.gauges.n : Int) - (1 : Int)) (↑p.gauges.n : Int)))).bend] i = [Go.SE.SV.int Go.IntKind.i64 (L.rsTo p s g' i).edge.lo, Go.SE.SV.int Go.IntKind.i64 (L.rsTo p s g' i).edge.hi, Go.SE.SV.int Go.IntKind.i64 (L.rsTo p s g' i).across.lo, Go.SE.SV.int Go.IntKind.i64 (L.rsTo p s g' i).across.hi, Go.SE.SV.int Go.IntKind.i64 (L.rsTo p s g' i).bend]) ∧ p.id = p.id ∧ p.colour = p.colour ∧ p.rev =
 p.rev ∧ p.made = p.made ∧ p.swell = p.swell ∧ (p.marks.n = p.marks.n ∧ ∀ (i : Nat), i < p.marks.n → [Go.SE.SV.int Go.IntKind.i64 (p.marks.g i).edge, Go.SE.SV.int Go.IntKind.i64 (p.marks.g i).place, Go.SE.SV.int Go.IntKind.i64 (p.marks.g i).tone] = [Go.SE.SV.int Go.IntKind.i64 (p.marks.g i).edge, Go.SE.SV.int Go.IntKind.i64 (p.marks.g i).place, Go.SE.SV.int Go.IntKind.i64 (p.marks.g i).tone]) ∧ (0
 : Int) = (0 : Int) ∧ (0 : Int) = (0 : Int) ∧ (0 : Int) = (0 : Int) ∧ (0 : Int) = (0 : Int) ∧ (0 : Int) = (0 : Int) ∧ Go.Value.slice Option.none (0 : Nat) (0 : Nat) = Go.Value.slice Option.none (0 : Nat) (0 : Nat) ∧ Go.Value.slice Option.none (0 : Nat) (0 : Nat) = Go.Value.slice Option.none (0 : Nat) (0 : Nat) ∧ g' ≤ p.gauges.n ∧ p.gauges.n - g' < p.gauges.n - g) ∧ ((0 : Int) ≤ L.ed s (↑p.gauges.n
 : Int) (↑g : Int) ∧ L.ed s (↑p.gauges.n : Int) (↑g : Int) < (↑p.gauges.n : Int)) ∧ Int.toNat (L.ed s (↑p.gauges.n : Int) (↑g : Int)) < p.gauges.n ∧ Go.SE.InK Go.IntKind.i64 ((↑g : Int) + (1 : Int)) ∧ ∃ (g' : Nat), (↑g : Int) + (1 : Int) = (↑g' : Int) ∧ (↑p.gauges.n : Int) = (↑p.gauges.n : Int) ∧ (p.gauges.n = p.gauges.n ∧ ∀ (i : Nat), i < p.gauges.n → [Go.SE.SV.int Go.IntKind.i64 (p.gauges.g
 i).edge.lo, Go.SE.SV.int Go.IntKind.i64 (p.gauges.g i).edge.hi, Go.SE.SV.int Go.IntKind.i64 (p.gauges.g i).across.lo, Go.SE.SV.int Go.IntKind.i64 (p.gauges.g i).across.hi, Go.SE.SV.int Go.IntKind.i64 (p.gauges.g i).bend] = [Go.SE.SV.int Go.IntKind.i64 (p.gauges.g i).edge.lo, Go.SE.SV.int Go.IntKind.i64 (p.gauges.g i).edge.hi, Go.SE.SV.int Go.IntKind.i64 (p.gauges.g i).across.lo, Go.SE.SV.int
 Go.IntKind.i64 (p.gauges.g i).across.hi, Go.SE.SV.int Go.IntKind.i64 (p.gauges.g i).bend]) ∧ nat_lit 0 = nat_lit 0 ∧ (↑p.gauges.n : Int) = (↑p.gauges.n : Int) ∧ nat_lit 0 = nat_lit 0 ∧ Go.SE.SV.ref [Go.SE.SV.int Go.IntKind.i64 s.shift, Go.SE.SV.bool s.back] (nat_lit 0) = Go.SE.SV.ref [Go.SE.SV.int Go.IntKind.i64 s.shift, Go.SE.SV.bool s.back] (nat_lit 0) ∧ Go.SE.SV.ref [Go.SE.SV.int Go.IntKind.i64
 p.id, Go.SE.SV.int Go.IntKind.i64 p.colour, Go.SE.SV.int Go.IntKind.i64 p.rev, Go.SE.SV.int Go.IntKind.i64 p.made, Go.SE.SV.int Go.IntKind.i64 p.swell, Go.SE.SV.sl (nat_lit 5) p.gauges.n fun (i : Nat) ↦ [Go.SE.SV.int Go.IntKind.i64 (p.gauges.g i).edge.lo, Go.SE.SV.int Go.IntKind.i64 (p.gauges.g i).edge.hi, Go.SE.SV.int Go.IntKind.i64 (p.gauges.g i).across.lo, Go.SE.SV.int Go.IntKind.i64
 (p.gauges.g i).across.hi, Go.SE.SV.int Go.IntKind.i64 (p.gauges.g i).bend], Go.SE.SV.sl (nat_lit 3) p.marks.n fun (i : Nat) ↦ [Go.SE.SV.int Go.IntKind.i64 (p.marks.g i).edge, Go.SE.SV.int Go.IntKind.i64 (p.marks.g i).place, Go.SE.SV.int Go.IntKind.i64 (p.marks.g i).tone]] (nat_lit 0) = Go.SE.SV.ref [Go.SE.SV.int Go.IntKind.i64 p.id, Go.SE.SV.int Go.IntKind.i64 p.colour, Go.SE.SV.int Go.IntKind.i64
 p.rev, Go.SE.SV.int Go.IntKind.i64 p.made, Go.SE.SV.int Go.IntKind.i64 p.swell, Go.SE.SV.sl (nat_lit 5) p.gauges.n fun (i : Nat) ↦ [Go.SE.SV.int Go.IntKind.i64 (p.gauges.g i).edge.lo, Go.SE.SV.int Go.IntKind.i64 (p.gauges.g i).edge.hi, Go.SE.SV.int Go.IntKind.i64 (p.gauges.g i).across.lo, Go.SE.SV.int Go.IntKind.i64 (p.gauges.g i).across.hi, Go.SE.SV.int Go.IntKind.i64 (p.gauges.g i).bend],
 Go.SE.SV.sl (nat_lit 3) p.marks.n fun (i : Nat) ↦ [Go.SE.SV.int Go.IntKind.i64 (p.marks.g i).edge, Go.SE.SV.int Go.IntKind.i64 (p.marks.g i).place, Go.SE.SV.int Go.IntKind.i64 (p.marks.g i).tone]] (nat_lit 0) ∧ (p.gauges.n = p.gauges.n ∧ ∀ (i : Nat), i < p.gauges.n → Go.SE.setRow (fun (j : Nat) ↦ [Go.SE.SV.int Go.IntKind.i64 (L.rsTo p s g j).edge.lo, Go.SE.SV.int Go.IntKind.i64 (L.rsTo p s g
 j).edge.hi, Go.SE.SV.int Go.IntKind.i64 (L.rsTo p s g j).across.lo, Go.SE.SV.int Go.IntKind.i64 (L.rsTo p s g j).across.hi, Go.SE.SV.int Go.IntKind.i64 (L.rsTo p s g j).bend]) (Int.toNat (L.ed s (↑p.gauges.n : Int) (↑g : Int))) (nat_lit 0) [Go.SE.SV.int Go.IntKind.i64 (p.gauges.g (Int.toNat (↑g : Int))).edge.lo, Go.SE.SV.int Go.IntKind.i64 (p.gauges.g (Int.toNat (↑g : Int))).edge.hi, Go.SE.SV.int
 Go.IntKind.i64 (p.gauges.g (Int.toNat (Int.tmod ((↑g : Int) + (↑p.gauges.n : Int) - (1 : Int)) (↑p.gauges.n : Int)))).across.lo, Go.SE.SV.int Go.IntKind.i64 (p.gauges.g (Int.toNat (Int.tmod ((↑g : Int) + (↑p.gauges.n : Int) - (1 : Int)) (↑p.gauges.n : Int)))).across.hi, Go.SE.SV.int Go.IntKind.i64 (p.gauges.g (Int.toNat (Int.tmod ((↑g : Int) + (↑p.gauges.n : Int) - (1 : Int)) (↑p.gauges.n :
 Int)))).bend] i = [Go.SE.SV.int Go.IntKind.i64 (L.rsTo p s g' i).edge.lo, Go.SE.SV.int Go.IntKind.i64 (L.rsTo p s g' i).edge.hi, Go.SE.SV.int Go.IntKind.i64 (L.rsTo p s g' i).across.lo, Go.SE.SV.int Go.IntKind.i64 (L.rsTo p s g' i).across.hi, Go.SE.SV.int Go.IntKind.i64 (L.rsTo p s g' i).bend]) ∧ p.id = p.id ∧ p.colour = p.colour ∧ p.rev = p.rev ∧ p.made = p.made ∧ p.swell = p.swell ∧ (p.marks.n =
 p.marks.n ∧ ∀ (i : Nat), i < p.marks.n → [Go.SE.SV.int Go.IntKind.i64 (p.marks.g i).edge, Go.SE.SV.int Go.IntKind.i64 (p.marks.g i).place, Go.SE.SV.int Go.IntKind.i64 (p.marks.g i).tone] = [Go.SE.SV.int Go.IntKind.i64 (p.marks.g i).edge, Go.SE.SV.int Go.IntKind.i64 (p.marks.g i).place, Go.SE.SV.int Go.IntKind.i64 (p.marks.g i).tone]) ∧ (0 : Int) = (0 : Int) ∧ (0 : Int) = (0 : Int) ∧ (0 : Int) = (0
 : Int) ∧ (0 : Int) = (0 : Int) ∧ (0 : Int) = (0 : Int) ∧ Go.Value.slice Option.none (0 : Nat) (0 : Nat) = Go.Value.slice Option.none (0 : Nat) (0 : Nat) ∧ Go.Value.slice Option.none (0 : Nat) (0 : Nat) = Go.Value.slice Option.none (0 : Nat) (0 : Nat) ∧ g' ≤ p.gauges.n ∧ p.gauges.n - g' < p.gauges.n - g) ∧ ((0 : Int) ≤ L.ed s (↑p.gauges.n : Int) (↑g : Int) ∧ L.ed s (↑p.gauges.n : Int) (↑g : Int) <
 (↑p.gauges.n : Int)) ∧ Int.toNat (L.ed s (↑p.gauges.n : Int) (↑g : Int)) < p.gauges.n ∧ Go.SE.InK Go.IntKind.i64 ((↑g : Int) + (1 : Int)) ∧ ∃ (g' : Nat), (↑g : Int) + (1 : Int) = (↑g' : Int) ∧ (↑p.gauges.n : Int) = (↑p.gauges.n : Int) ∧ (p.gauges.n = p.gauges.n ∧ ∀ (i : Nat), i < p.gauges.n → [Go.SE.SV.int Go.IntKind.i64 (p.gauges.g i).edge.lo, Go.SE.SV.int Go.IntKind.i64 (p.gauges.g i).edge.hi,
 Go.SE.SV.int Go.IntKind.i64 (p.gauges.g i).across.lo, Go.SE.SV.int Go.IntKind.i64 (p.gauges.g i).across.hi, Go.SE.SV.int Go.IntKind.i64 (p.gauges.g i).bend] = [Go.SE.SV.int Go.IntKind.i64 (p.gauges.g i).edge.lo, Go.SE.SV.int Go.IntKind.i64 (p.gauges.g i).edge.hi, Go.SE.SV.int Go.IntKind.i64 (p.gauges.g i).across.lo, Go.SE.SV.int Go.IntKind.i64 (p.gauges.g i).across.hi, Go.SE.SV.int Go.IntKind.i64
 (p.gauges.g i).bend]) ∧ nat_lit 0 = nat_lit 0 ∧ (↑p.gauges.n : Int) = (↑p.gauges.n : Int) ∧ nat_lit 0 = nat_lit 0 ∧ Go.SE.SV.ref [Go.SE.SV.int Go.IntKind.i64 s.shift, Go.SE.SV.bool s.back] (nat_lit 0) = Go.SE.SV.ref [Go.SE.SV.int Go.IntKind.i64 s.shift, Go.SE.SV.bool s.back] (nat_lit 0) ∧ Go.SE.SV.ref [Go.SE.SV.int Go.IntKind.i64 p.id, Go.SE.SV.int Go.IntKind.i64 p.colour, Go.SE.SV.int
 Go.IntKind.i64 p.rev, Go.SE.SV.int Go.IntKind.i64 p.made, Go.SE.SV.int Go.IntKind.i64 p.swell, Go.SE.SV.sl (nat_lit 5) p.gauges.n fun (i : Nat) ↦ [Go.SE.SV.int Go.IntKind.i64 (p.gauges.g i).edge.lo, Go.SE.SV.int Go.IntKind.i64 (p.gauges.g i).edge.hi, Go.SE.SV.int Go.IntKind.i64 (p.gauges.g i).across.lo, Go.SE.SV.int Go.IntKind.i64 (p.gauges.g i).across.hi, Go.SE.SV.int Go.IntKind.i64 (p.gauges.g
 i).bend], Go.SE.SV.sl (nat_lit 3) p.marks.n fun (i : Nat) ↦ [Go.SE.SV.int Go.IntKind.i64 (p.marks.g i).edge, Go.SE.SV.int Go.IntKind.i64 (p.marks.g i).place, Go.SE.SV.int Go.IntKind.i64 (p.marks.g i).tone]] (nat_lit 0) = Go.SE.SV.ref [Go.SE.SV.int Go.IntKind.i64 p.id, Go.SE.SV.int Go.IntKind.i64 p.colour, Go.SE.SV.int Go.IntKind.i64 p.rev, Go.SE.SV.int Go.IntKind.i64 p.made, Go.SE.SV.int
 Go.IntKind.i64 p.swell, Go.SE.SV.sl (nat_lit 5) p.gauges.n fun (i : Nat) ↦ [Go.SE.SV.int Go.IntKind.i64 (p.gauges.g i).edge.lo, Go.SE.SV.int Go.IntKind.i64 (p.gauges.g i).edge.hi, Go.SE.SV.int Go.IntKind.i64 (p.gauges.g i).across.lo, Go.SE.SV.int Go.IntKind.i64 (p.gauges.g i).across.hi, Go.SE.SV.int Go.IntKind.i64 (p.gauges.g i).bend], Go.SE.SV.sl (nat_lit 3) p.marks.n fun (i : Nat) ↦
 [Go.SE.SV.int Go.IntKind.i64 (p.marks.g i).edge, Go.SE.SV.int Go.IntKind.i64 (p.marks.g i).place, Go.SE.SV.int Go.IntKind.i64 (p.marks.g i).tone]] (nat_lit 0) ∧ (p.gauges.n = p.gauges.n ∧ ∀ (i : Nat), i < p.gauges.n → Go.SE.setRow (fun (j : Nat) ↦ [Go.SE.SV.int Go.IntKind.i64 (L.rsTo p s g j).edge.lo, Go.SE.SV.int Go.IntKind.i64 (L.rsTo p s g j).edge.hi, Go.SE.SV.int Go.IntKind.i64 (L.rsTo p s g
 j).across.lo, Go.SE.SV.int Go.IntKind.i64 (L.rsTo p s g j).across.hi, Go.SE.SV.int Go.IntKind.i64 (L.rsTo p s g j).bend]) (Int.toNat (L.ed s (↑p.gauges.n : Int) (↑g : Int))) (nat_lit 0) [Go.SE.SV.int Go.IntKind.i64 (p.gauges.g (Int.toNat (↑g : Int))).edge.lo, Go.SE.SV.int Go.IntKind.i64 (p.gauges.g (Int.toNat (↑g : Int))).edge.hi, Go.SE.SV.int Go.IntKind.i64 (p.gauges.g (Int.toNat (Int.tmod ((↑g :
 Int) + (↑p.gauges.n : Int) - (1 : Int)) (↑p.gauges.n : Int)))).across.lo, Go.SE.SV.int Go.IntKind.i64 (p.gauges.g (Int.toNat (Int.tmod ((↑g : Int) + (↑p.gauges.n : Int) - (1 : Int)) (↑p.gauges.n : Int)))).across.hi, Go.SE.SV.int Go.IntKind.i64 (p.gauges.g (Int.toNat (Int.tmod ((↑g : Int) + (↑p.gauges.n : Int) - (1 : Int)) (↑p.gauges.n : Int)))).bend] i = [Go.SE.SV.int Go.IntKind.i64 (L.rsTo p s g'
 i).edge.lo, Go.SE.SV.int Go.IntKind.i64 (L.rsTo p s g' i).edge.hi, Go.SE.SV.int Go.IntKind.i64 (L.rsTo p s g' i).across.lo, Go.SE.SV.int Go.IntKind.i64 (L.rsTo p s g' i).across.hi, Go.SE.SV.int Go.IntKind.i64 (L.rsTo p s g' i).bend]) ∧ p.id = p.id ∧ p.colour = p.colour ∧ p.rev = p.rev ∧ p.made = p.made ∧ p.swell = p.swell ∧ (p.marks.n = p.marks.n ∧ ∀ (i : Nat), i < p.marks.n → [Go.SE.SV.int
 Go.IntKind.i64 (p.marks.g i).edge, Go.SE.SV.int Go.IntKind.i64 (p.marks.g i).place, Go.SE.SV.int Go.IntKind.i64 (p.marks.g i).tone] = [Go.SE.SV.int Go.IntKind.i64 (p.marks.g i).edge, Go.SE.SV.int Go.IntKind.i64 (p.marks.g i).place, Go.SE.SV.int Go.IntKind.i64 (p.marks.g i).tone]) ∧ (0 : Int) = (0 : Int) ∧ (0 : Int) = (0 : Int) ∧ (0 : Int) = (0 : Int) ∧ (0 : Int) = (0 : Int) ∧ (0 : Int) = (0 : Int)
 ∧ Go.Value.slice Option.none (0 : Nat) (0 : Nat) = Go.Value.slice Option.none (0 : Nat) (0 : Nat) ∧ Go.Value.slice Option.none (0 : Nat) (0 : Nat) = Go.Value.slice Option.none (0 : Nat) (0 : Nat) ∧ g' ≤ p.gauges.n ∧ p.gauges.n - g' < p.gauges.n - g) ∧ ((0 : Int) ≤ L.ed s (↑p.gauges.n : Int) (↑g : Int) ∧ L.ed s (↑p.gauges.n : Int) (↑g : Int) < (↑p.gauges.n : Int)) ∧ Int.toNat (L.ed s (↑p.gauges.n :
 Int) (↑g : Int)) < p.gauges.n ∧ Go.SE.InK Go.IntKind.i64 ((↑g : Int) + (1 : Int)) ∧ ∃ (g' : Nat), (↑g : Int) + (1 : Int) = (↑g' : Int) ∧ (↑p.gauges.n : Int) = (↑p.gauges.n : Int) ∧ (p.gauges.n = p.gauges.n ∧ ∀ (i : Nat), i < p.gauges.n → [Go.SE.SV.int Go.IntKind.i64 (p.gauges.g i).edge.lo, Go.SE.SV.int Go.IntKind.i64 (p.gauges.g i).edge.hi, Go.SE.SV.int Go.IntKind.i64 (p.gauges.g i).across.lo,
 Go.SE.SV.int Go.IntKind.i64 (p.gauges.g i).across.hi, Go.SE.SV.int Go.IntKind.i64 (p.gauges.g i).bend] = [Go.SE.SV.int Go.IntKind.i64 (p.gauges.g i).edge.lo, Go.SE.SV.int Go.IntKind.i64 (p.gauges.g i).edge.hi, Go.SE.SV.int Go.IntKind.i64 (p.gauges.g i).across.lo, Go.SE.SV.int Go.IntKind.i64 (p.gauges.g i).across.hi, Go.SE.SV.int Go.IntKind.i64 (p.gauges.g i).bend]) ∧ nat_lit 0 = nat_lit 0 ∧
 (↑p.gauges.n : Int) = (↑p.gauges.n : Int) ∧ nat_lit 0 = nat_lit 0 ∧ Go.SE.SV.ref [Go.SE.SV.int Go.IntKind.i64 s.shift, Go.SE.SV.bool s.back] (nat_lit 0) = Go.SE.SV.ref [Go.SE.SV.int Go.IntKind.i64 s.shift, Go.SE.SV.bool s.back] (nat_lit 0) ∧ Go.SE.SV.ref [Go.SE.SV.int Go.IntKind.i64 p.id, Go.SE.SV.int Go.IntKind.i64 p.colour, Go.SE.SV.int Go.IntKind.i64 p.rev, Go.SE.SV.int Go.IntKind.i64 p.made,
 Go.SE.SV.int Go.IntKind.i64 p.swell, Go.SE.SV.sl (nat_lit 5) p.gauges.n fun (i : Nat) ↦ [Go.SE.SV.int Go.IntKind.i64 (p.gauges.g i).edge.lo, Go.SE.SV.int Go.IntKind.i64 (p.gauges.g i).edge.hi, Go.SE.SV.int Go.IntKind.i64 (p.gauges.g i).across.lo, Go.SE.SV.int Go.IntKind.i64 (p.gauges.g i).across.hi, Go.SE.SV.int Go.IntKind.i64 (p.gauges.g i).bend], Go.SE.SV.sl (nat_lit 3) p.marks.n fun (i : Nat) ↦
 [Go.SE.SV.int Go.IntKind.i64 (p.marks.g i).edge, Go.SE.SV.int Go.IntKind.i64 (p.marks.g i).place, Go.SE.SV.int Go.IntKind.i64 (p.marks.g i).tone]] (nat_lit 0) = Go.SE.SV.ref [Go.SE.SV.int Go.IntKind.i64 p.id, Go.SE.SV.int Go.IntKind.i64 p.colour, Go.SE.SV.int Go.IntKind.i64 p.rev, Go.SE.SV.int Go.IntKind.i64 p.made, Go.SE.SV.int Go.IntKind.i64 p.swell, Go.SE.SV.sl (nat_lit 5) p.gauges.n fun (i :
 Nat) ↦ [Go.SE.SV.int Go.IntKind.i64 (p.gauges.g i).edge.lo, Go.SE.SV.int Go.IntKind.i64 (p.gauges.g i).edge.hi, Go.SE.SV.int Go.IntKind.i64 (p.gauges.g i).across.lo, Go.SE.SV.int Go.IntKind.i64 (p.gauges.g i).across.hi, Go.SE.SV.int Go.IntKind.i64 (p.gauges.g i).bend], Go.SE.SV.sl (nat_lit 3) p.marks.n fun (i : Nat) ↦ [Go.SE.SV.int Go.IntKind.i64 (p.marks.g i).edge, Go.SE.SV.int Go.IntKind.i64
 (p.marks.g i).place, Go.SE.SV.int Go.IntKind.i64 (p.marks.g i).tone]] (nat_lit 0) ∧ (p.gauges.n = p.gauges.n ∧ ∀ (i : Nat), i < p.gauges.n → Go.SE.setRow (fun (j : Nat) ↦ [Go.SE.SV.int Go.IntKind.i64 (L.rsTo p s g j).edge.lo, Go.SE.SV.int Go.IntKind.i64 (L.rsTo p s g j).edge.hi, Go.SE.SV.int Go.IntKind.i64 (L.rsTo p s g j).across.lo, Go.SE.SV.int Go.IntKind.i64 (L.rsTo p s g j).across.hi,
 Go.SE.SV.int Go.IntKind.i64 (L.rsTo p s g j).bend]) (Int.toNat (L.ed s (↑p.gauges.n : Int) (↑g : Int))) (nat_lit 0) [Go.SE.SV.int Go.IntKind.i64 (p.gauges.g (Int.toNat (↑g : Int))).edge.lo, Go.SE.SV.int Go.IntKind.i64 (p.gauges.g (Int.toNat (↑g : Int))).edge.hi, Go.SE.SV.int Go.IntKind.i64 (p.gauges.g (Int.toNat (Int.tmod ((↑g : Int) + (↑p.gauges.n : Int) - (1 : Int)) (↑p.gauges.n :
 Int)))).across.lo, Go.SE.SV.int Go.IntKind.i64 (p.gauges.g (Int.toNat (Int.tmod ((↑g : Int) + (↑p.gauges.n : Int) - (1 : Int)) (↑p.gauges.n : Int)))).across.hi, Go.SE.SV.int Go.IntKind.i64 (p.gauges.g (Int.toNat (Int.tmod ((↑g : Int) + (↑p.gauges.n : Int) - (1 : Int)) (↑p.gauges.n : Int)))).bend] i = [Go.SE.SV.int Go.IntKind.i64 (L.rsTo p s g' i).edge.lo, Go.SE.SV.int Go.IntKind.i64 (L.rsTo p s g'
 i).edge.hi, Go.SE.SV.int Go.IntKind.i64 (L.rsTo p s g' i).across.lo, Go.SE.SV.int Go.IntKind.i64 (L.rsTo p s g' i).across.hi, Go.SE.SV.int Go.IntKind.i64 (L.rsTo p s g' i).bend]) ∧ p.id = p.id ∧ p.colour = p.colour ∧ p.rev = p.rev ∧ p.made = p.made ∧ p.swell = p.swell ∧ (p.marks.n = p.marks.n ∧ ∀ (i : Nat), i < p.marks.n → [Go.SE.SV.int Go.IntKind.i64 (p.marks.g i).edge, Go.SE.SV.int
 Go.IntKind.i64 (p.marks.g i).place, Go.SE.SV.int Go.IntKind.i64 (p.marks.g i).tone] = [Go.SE.SV.int Go.IntKind.i64 (p.marks.g i).edge, Go.SE.SV.int Go.IntKind.i64 (p.marks.g i).place, Go.SE.SV.int Go.IntKind.i64 (p.marks.g i).tone]) ∧ (0 : Int) = (0 : Int) ∧ (0 : Int) = (0 : Int) ∧ (0 : Int) = (0 : Int) ∧ (0 : Int) = (0 : Int) ∧ (0 : Int) = (0 : Int) ∧ Go.Value.slice Option.none (0 : Nat) (0 :
 Nat) = Go.Value.slice Option.none (0 : Nat) (0 : Nat) ∧ Go.Value.slice Option.none (0 : Nat) (0 : Nat) = Go.Value.slice Option.none (0 : Nat) (0 : Nat) ∧ g' ≤ p.gauges.n ∧ p.gauges.n - g' < p.gauges.n - g) ∧ (s.back = Bool.false → ((0 : Int) ≤ L.ed s (↑p.gauges.n : Int) (↑g : Int) ∧ L.ed s (↑p.gauges.n : Int) (↑g : Int) < (↑p.gauges.n : Int)) ∧ Int.toNat (L.ed s (↑p.gauges.n : Int) (↑g : Int)) <
 p.gauges.n ∧ Go.SE.InK Go.IntKind.i64 ((↑g : Int) + (1 : Int)) ∧ ∃ (g' : Nat), (↑g : Int) + (1 : Int) = (↑g' : Int) ∧ (↑p.gauges.n : Int) = (↑p.gauges.n : Int) ∧ (p.gauges.n = p.gauges.n ∧ ∀ (i : Nat), i < p.gauges.n → [Go.SE.SV.int Go.IntKind.i64 (p.gauges.g i).edge.lo, Go.SE.SV.int Go.IntKind.i64 (p.gauges.g i).edge.hi, Go.SE.SV.int Go.IntKind.i64 (p.gauges.g i).across.lo, Go.SE.SV.int
 Go.IntKind.i64 (p.gauges.g i).across.hi, Go.SE.SV.int Go.IntKind.i64 (p.gauges.g i).bend] = [Go.SE.SV.int Go.IntKind.i64 (p.gauges.g i).edge.lo, Go.SE.SV.int Go.IntKind.i64 (p.gauges.g i).edge.hi, Go.SE.SV.int Go.IntKind.i64 (p.gauges.g i).across.lo, Go.SE.SV.int Go.IntKind.i64 (p.gauges.g i).across.hi, Go.SE.SV.int Go.IntKind.i64 (p.gauges.g i).bend]) ∧ nat_lit 0 = nat_lit 0 ∧ (↑p.gauges.n : Int)
 = (↑p.gauges.n : Int) ∧ nat_lit 0 = nat_lit 0 ∧ Go.SE.SV.ref [Go.SE.SV.int Go.IntKind.i64 s.shift, Go.SE.SV.bool s.back] (nat_lit 0) = Go.SE.SV.ref [Go.SE.SV.int Go.IntKind.i64 s.shift, Go.SE.SV.bool s.back] (nat_lit 0) ∧ Go.SE.SV.ref [Go.SE.SV.int Go.IntKind.i64 p.id, Go.SE.SV.int Go.IntKind.i64 p.colour, Go.SE.SV.int Go.IntKind.i64 p.rev, Go.SE.SV.int Go.IntKind.i64 p.made, Go.SE.SV.int
 Go.IntKind.i64 p.swell, Go.SE.SV.sl (nat_lit 5) p.gauges.n fun (i : Nat) ↦ [Go.SE.SV.int Go.IntKind.i64 (p.gauges.g i).edge.lo, Go.SE.SV.int Go.IntKind.i64 (p.gauges.g i).edge.hi, Go.SE.SV.int Go.IntKind.i64 (p.gauges.g i).across.lo, Go.SE.SV.int Go.IntKind.i64 (p.gauges.g i).across.hi, Go.SE.SV.int Go.IntKind.i64 (p.gauges.g i).bend], Go.SE.SV.sl (nat_lit 3) p.marks.n fun (i : Nat) ↦
 [Go.SE.SV.int Go.IntKind.i64 (p.marks.g i).edge, Go.SE.SV.int Go.IntKind.i64 (p.marks.g i).place, Go.SE.SV.int Go.IntKind.i64 (p.marks.g i).tone]] (nat_lit 0) = Go.SE.SV.ref [Go.SE.SV.int Go.IntKind.i64 p.id, Go.SE.SV.int Go.IntKind.i64 p.colour, Go.SE.SV.int Go.IntKind.i64 p.rev, Go.SE.SV.int Go.IntKind.i64 p.made, Go.SE.SV.int Go.IntKind.i64 p.swell, Go.SE.SV.sl (nat_lit 5) p.gauges.n fun (i :
 Nat) ↦ [Go.SE.SV.int Go.IntKind.i64 (p.gauges.g i).edge.lo, Go.SE.SV.int Go.IntKind.i64 (p.gauges.g i).edge.hi, Go.SE.SV.int Go.IntKind.i64 (p.gauges.g i).across.lo, Go.SE.SV.int Go.IntKind.i64 (p.gauges.g i).across.hi, Go.SE.SV.int Go.IntKind.i64 (p.gauges.g i).bend], Go.SE.SV.sl (nat_lit 3) p.marks.n fun (i : Nat) ↦ [Go.SE.SV.int Go.IntKind.i64 (p.marks.g i).edge, Go.SE.SV.int Go.IntKind.i64
 (p.marks.g i).place, Go.SE.SV.int Go.IntKind.i64 (p.marks.g i).tone]] (nat_lit 0) ∧ (p.gauges.n = p.gauges.n ∧ ∀ (i : Nat), i < p.gauges.n → Go.SE.setRow (fun (j : Nat) ↦ [Go.SE.SV.int Go.IntKind.i64 (L.rsTo p s g j).edge.lo, Go.SE.SV.int Go.IntKind.i64 (L.rsTo p s g j).edge.hi, Go.SE.SV.int Go.IntKind.i64 (L.rsTo p s g j).across.lo, Go.SE.SV.int Go.IntKind.i64 (L.rsTo p s g j).across.hi,
 Go.SE.SV.int Go.IntKind.i64 (L.rsTo p s g j).bend]) (Int.toNat (L.ed s (↑p.gauges.n : Int) (↑g : Int))) (nat_lit 0) [Go.SE.SV.int Go.IntKind.i64 (p.gauges.g (Int.toNat (↑g : Int))).edge.lo, Go.SE.SV.int Go.IntKind.i64 (p.gauges.g (Int.toNat (↑g : Int))).edge.hi, Go.SE.SV.int Go.IntKind.i64 (p.gauges.g (Int.toNat (↑g : Int))).across.lo, Go.SE.SV.int Go.IntKind.i64 (p.gauges.g (Int.toNat (↑g :
 Int))).across.hi, Go.SE.SV.int Go.IntKind.i64 (p.gauges.g (Int.toNat (↑g : Int))).bend] i = [Go.SE.SV.int Go.IntKind.i64 (L.rsTo p s g' i).edge.lo, Go.SE.SV.int Go.IntKind.i64 (L.rsTo p s g' i).edge.hi, Go.SE.SV.int Go.IntKind.i64 (L.rsTo p s g' i).across.lo, Go.SE.SV.int Go.IntKind.i64 (L.rsTo p s g' i).across.hi, Go.SE.SV.int Go.IntKind.i64 (L.rsTo p s g' i).bend]) ∧ p.id = p.id ∧ p.colour =
 p.colour ∧ p.rev = p.rev ∧ p.made = p.made ∧ p.swell = p.swell ∧ (p.marks.n = p.marks.n ∧ ∀ (i : Nat), i < p.marks.n → [Go.SE.SV.int Go.IntKind.i64 (p.marks.g i).edge, Go.SE.SV.int Go.IntKind.i64 (p.marks.g i).place, Go.SE.SV.int Go.IntKind.i64 (p.marks.g i).tone] = [Go.SE.SV.int Go.IntKind.i64 (p.marks.g i).edge, Go.SE.SV.int Go.IntKind.i64 (p.marks.g i).place, Go.SE.SV.int Go.IntKind.i64
 (p.marks.g i).tone]) ∧ (0 : Int) = (0 : Int) ∧ (0 : Int) = (0 : Int) ∧ (0 : Int) = (0 : Int) ∧ (0 : Int) = (0 : Int) ∧ (0 : Int) = (0 : Int) ∧ Go.Value.slice Option.none (0 : Nat) (0 : Nat) = Go.Value.slice Option.none (0 : Nat) (0 : Nat) ∧ Go.Value.slice Option.none (0 : Nat) (0 : Nat) = Go.Value.slice Option.none (0 : Nat) (0 : Nat) ∧ g' ≤ p.gauges.n ∧ p.gauges.n - g' < p.gauges.n - g)) ∧
 (Decidable.decide ((↑g : Int) < (↑p.gauges.n : Int)) = Bool.false → ((∀ (i : Nat), i < p.marks.n → [Go.SE.SV.int Go.IntKind.i64 (p.marks.g i).edge, Go.SE.SV.int Go.IntKind.i64 (p.marks.g i).place, Go.SE.SV.int Go.IntKind.i64 (p.marks.g i).tone] = [Go.SE.SV.int Go.IntKind.i64 (p.marks.g i).edge, Go.SE.SV.int Go.IntKind.i64 (p.marks.g i).place, Go.SE.SV.int Go.IntKind.i64 (p.marks.g i).tone]) ∧
 p.marks.n ≤ (1000000 : Nat)) ∧ ∀ (t : Nat), True → (∃ (g : Nat), (0 : Int) = (↑g : Int) ∧ (p.marks.n = p.marks.n ∧ ∀ (i : Nat), i < p.marks.n → [Go.SE.SV.int Go.IntKind.i64 (p.marks.g i).edge, Go.SE.SV.int Go.IntKind.i64 (p.marks.g i).place, Go.SE.SV.int Go.IntKind.i64 (p.marks.g i).tone] = [Go.SE.SV.int Go.IntKind.i64 (L.rsMTo p.marks s p.gauges.n g i).edge, Go.SE.SV.int Go.IntKind.i64 (L.rsMTo
 p.marks s p.gauges.n g i).place, Go.SE.SV.int Go.IntKind.i64 (L.rsMTo p.marks s p.gauges.n g i).tone]) ∧ g ≤ p.marks.n) ∧ ∀ (g_1 : Nat), g_1 ≤ p.marks.n → (Decidable.decide ((↑g_1 : Int) < (↑p.marks.n : Int)) = Bool.true → ((0 : Int) ≤ (↑g_1 : Int) ∧ (↑g_1 : Int) < (↑p.marks.n : Int)) ∧ Int.toNat (↑g_1 : Int) < p.marks.n ∧ True ∧ ((0 : Int) ≤ (↑g_1 : Int) ∧ (↑g_1 : Int) < (↑p.marks.n : Int)) ∧
 Int.toNat (↑g_1 : Int) < p.marks.n ∧ (s.back = Bool.true → Go.SE.InK Go.IntKind.i64 ((16 : Int) - (L.rsMTo p.marks s p.gauges.n g_1 (Int.toNat (↑g_1 : Int))).place) ∧ ((0 : Int) ≤ (↑g_1 : Int) ∧ (↑g_1 : Int) < (↑p.marks.n : Int)) ∧ Int.toNat (↑g_1 : Int) < p.marks.n ∧ Go.SE.InK Go.IntKind.i64 ((↑g_1 : Int) + (1 : Int)) ∧ ∃ (g' : Nat), (↑g_1 : Int) + (1 : Int) = (↑g' : Int) ∧ (↑p.marks.n : Int) =
 (↑p.marks.n : Int) ∧ nat_lit 0 = nat_lit 0 ∧ (↑p.gauges.n : Int) = (↑p.gauges.n : Int) ∧ nat_lit 0 = nat_lit 0 ∧ Go.SE.SV.ref [Go.SE.SV.int Go.IntKind.i64 s.shift, Go.SE.SV.bool s.back] (nat_lit 0) = Go.SE.SV.ref [Go.SE.SV.int Go.IntKind.i64 s.shift, Go.SE.SV.bool s.back] (nat_lit 0) ∧ Go.SE.SV.ref [Go.SE.SV.int Go.IntKind.i64 p.id, Go.SE.SV.int Go.IntKind.i64 p.colour, Go.SE.SV.int Go.IntKind.i64
 p.rev, Go.SE.SV.int Go.IntKind.i64 p.made, Go.SE.SV.int Go.IntKind.i64 p.swell, Go.SE.SV.sl (nat_lit 5) p.gauges.n fun (i : Nat) ↦ [Go.SE.SV.int Go.IntKind.i64 (p.gauges.g i).edge.lo, Go.SE.SV.int Go.IntKind.i64 (p.gauges.g i).edge.hi, Go.SE.SV.int Go.IntKind.i64 (p.gauges.g i).across.lo, Go.SE.SV.int Go.IntKind.i64 (p.gauges.g i).across.hi, Go.SE.SV.int Go.IntKind.i64 (p.gauges.g i).bend],
 Go.SE.SV.sl (nat_lit 3) p.marks.n fun (i : Nat) ↦ [Go.SE.SV.int Go.IntKind.i64 (p.marks.g i).edge, Go.SE.SV.int Go.IntKind.i64 (p.marks.g i).place, Go.SE.SV.int Go.IntKind.i64 (p.marks.g i).tone]] (nat_lit 0) = Go.SE.SV.ref [Go.SE.SV.int Go.IntKind.i64 p.id, Go.SE.SV.int Go.IntKind.i64 p.colour, Go.SE.SV.int Go.IntKind.i64 p.rev, Go.SE.SV.int Go.IntKind.i64 p.made, Go.SE.SV.int Go.IntKind.i64
 p.swell, Go.SE.SV.sl (nat_lit 5) p.gauges.n fun (i : Nat) ↦ [Go.SE.SV.int Go.IntKind.i64 (p.gauges.g i).edge.lo, Go.SE.SV.int Go.IntKind.i64 (p.gauges.g i).edge.hi, Go.SE.SV.int Go.IntKind.i64 (p.gauges.g i).across.lo, Go.SE.SV.int Go.IntKind.i64 (p.gauges.g i).across.hi, Go.SE.SV.int Go.IntKind.i64 (p.gauges.g i).bend], Go.SE.SV.sl (nat_lit 3) p.marks.n fun (i : Nat) ↦ [Go.SE.SV.int
 Go.IntKind.i64 (p.marks.g i).edge, Go.SE.SV.int Go.IntKind.i64 (p.marks.g i).place, Go.SE.SV.int Go.IntKind.i64 (p.marks.g i).tone]] (nat_lit 0) ∧ (p.marks.n = p.marks.n ∧ ∀ (i : Nat), i < p.marks.n → Go.SE.setRow (Go.SE.setRow (fun (k : Nat) ↦ [Go.SE.SV.int Go.IntKind.i64 (L.rsMTo p.marks s p.gauges.n g_1 k).edge, Go.SE.SV.int Go.IntKind.i64 (L.rsMTo p.marks s p.gauges.n g_1 k).place,
 Go.SE.SV.int Go.IntKind.i64 (L.rsMTo p.marks s p.gauges.n g_1 k).tone]) (Int.toNat (↑g_1 : Int)) (nat_lit 0) [Go.SE.SV.int Go.IntKind.i64 (L.ed s (↑p.gauges.n : Int) (L.rsMTo p.marks s p.gauges.n g_1 (Int.toNat (↑g_1 : Int))).edge)]) (Int.toNat (↑g_1 : Int)) (nat_lit 1) [Go.SE.SV.int Go.IntKind.i64 ((16 : Int) - (L.rsMTo p.marks s p.gauges.n g_1 (Int.toNat (↑g_1 : Int))).place)] i = [Go.SE.SV.int
 Go.IntKind.i64 (L.rsMTo p.marks s p.gauges.n g' i).edge, Go.SE.SV.int Go.IntKind.i64 (L.rsMTo p.marks s p.gauges.n g' i).place, Go.SE.SV.int Go.IntKind.i64 (L.rsMTo p.marks s p.gauges.n g' i).tone]) ∧ (p.gauges.n = p.gauges.n ∧ ∀ (i : Nat), i < p.gauges.n → [Go.SE.SV.int Go.IntKind.i64 (L.rsTo p s g i).edge.lo, Go.SE.SV.int Go.IntKind.i64 (L.rsTo p s g i).edge.hi, Go.SE.SV.int Go.IntKind.i64
 (L.rsTo p s g i).across.lo, Go.SE.SV.int Go.IntKind.i64 (L.rsTo p s g i).across.hi, Go.SE.SV.int Go.IntKind.i64 (L.rsTo p s g i).bend] = [Go.SE.SV.int Go.IntKind.i64 (L.rsTo p s g i).edge.lo, Go.SE.SV.int Go.IntKind.i64 (L.rsTo p s g i).edge.hi, Go.SE.SV.int Go.IntKind.i64 (L.rsTo p s g i).across.lo, Go.SE.SV.int Go.IntKind.i64 (L.rsTo p s g i).across.hi, Go.SE.SV.int Go.IntKind.i64 (L.rsTo p s g
 i).bend]) ∧ p.id = p.id ∧ p.colour = p.colour ∧ p.rev = p.rev ∧ p.made = p.made ∧ p.swell = p.swell ∧ (0 : Int) = (0 : Int) ∧ (0 : Int) = (0 : Int) ∧ (0 : Int) = (0 : Int) ∧ (0 : Int) = (0 : Int) ∧ (0 : Int) = (0 : Int) ∧ Go.Value.slice Option.none (0 : Nat) (0 : Nat) = Go.Value.slice Option.none (0 : Nat) (0 : Nat) ∧ Go.Value.slice Option.none (0 : Nat) (0 : Nat) = Go.Value.slice Option.none (0 :
 Nat) (0 : Nat) ∧ g' ≤ p.marks.n ∧ p.marks.n - g' < p.marks.n - g_1) ∧ (s.back = Bool.false → Go.SE.InK Go.IntKind.i64 ((↑g_1 : Int) + (1 : Int)) ∧ ∃ (g' : Nat), (↑g_1 : Int) + (1 : Int) = (↑g' : Int) ∧ (↑p.marks.n : Int) = (↑p.marks.n : Int) ∧ nat_lit 0 = nat_lit 0 ∧ (↑p.gauges.n : Int) = (↑p.gauges.n : Int) ∧ nat_lit 0 = nat_lit 0 ∧ Go.SE.SV.ref [Go.SE.SV.int Go.IntKind.i64 s.shift, Go.SE.SV.bool
 s.back] (nat_lit 0) = Go.SE.SV.ref [Go.SE.SV.int Go.IntKind.i64 s.shift, Go.SE.SV.bool s.back] (nat_lit 0) ∧ Go.SE.SV.ref [Go.SE.SV.int Go.IntKind.i64 p.id, Go.SE.SV.int Go.IntKind.i64 p.colour, Go.SE.SV.int Go.IntKind.i64 p.rev, Go.SE.SV.int Go.IntKind.i64 p.made, Go.SE.SV.int Go.IntKind.i64 p.swell, Go.SE.SV.sl (nat_lit 5) p.gauges.n fun (i : Nat) ↦ [Go.SE.SV.int Go.IntKind.i64 (p.gauges.g
 i).edge.lo, Go.SE.SV.int Go.IntKind.i64 (p.gauges.g i).edge.hi, Go.SE.SV.int Go.IntKind.i64 (p.gauges.g i).across.lo, Go.SE.SV.int Go.IntKind.i64 (p.gauges.g i).across.hi, Go.SE.SV.int Go.IntKind.i64 (p.gauges.g i).bend], Go.SE.SV.sl (nat_lit 3) p.marks.n fun (i : Nat) ↦ [Go.SE.SV.int Go.IntKind.i64 (p.marks.g i).edge, Go.SE.SV.int Go.IntKind.i64 (p.marks.g i).place, Go.SE.SV.int Go.IntKind.i64
 (p.marks.g i).tone]] (nat_lit 0) = Go.SE.SV.ref [Go.SE.SV.int Go.IntKind.i64 p.id, Go.SE.SV.int Go.IntKind.i64 p.colour, Go.SE.SV.int Go.IntKind.i64 p.rev, Go.SE.SV.int Go.IntKind.i64 p.made, Go.SE.SV.int Go.IntKind.i64 p.swell, Go.SE.SV.sl (nat_lit 5) p.gauges.n fun (i : Nat) ↦ [Go.SE.SV.int Go.IntKind.i64 (p.gauges.g i).edge.lo, Go.SE.SV.int Go.IntKind.i64 (p.gauges.g i).edge.hi, Go.SE.SV.int
 Go.IntKind.i64 (p.gauges.g i).across.lo, Go.SE.SV.int Go.IntKind.i64 (p.gauges.g i).across.hi, Go.SE.SV.int Go.IntKind.i64 (p.gauges.g i).bend], Go.SE.SV.sl (nat_lit 3) p.marks.n fun (i : Nat) ↦ [Go.SE.SV.int Go.IntKind.i64 (p.marks.g i).edge, Go.SE.SV.int Go.IntKind.i64 (p.marks.g i).place, Go.SE.SV.int Go.IntKind.i64 (p.marks.g i).tone]] (nat_lit 0) ∧ (p.marks.n = p.marks.n ∧ ∀ (i : Nat), i <
 p.marks.n → Go.SE.setRow (fun (k : Nat) ↦ [Go.SE.SV.int Go.IntKind.i64 (L.rsMTo p.marks s p.gauges.n g_1 k).edge, Go.SE.SV.int Go.IntKind.i64 (L.rsMTo p.marks s p.gauges.n g_1 k).place, Go.SE.SV.int Go.IntKind.i64 (L.rsMTo p.marks s p.gauges.n g_1 k).tone]) (Int.toNat (↑g_1 : Int)) (nat_lit 0) [Go.SE.SV.int Go.IntKind.i64 (L.ed s (↑p.gauges.n : Int) (L.rsMTo p.marks s p.gauges.n g_1 (Int.toNat
 (↑g_1 : Int))).edge)] i = [Go.SE.SV.int Go.IntKind.i64 (L.rsMTo p.marks s p.gauges.n g' i).edge, Go.SE.SV.int Go.IntKind.i64 (L.rsMTo p.marks s p.gauges.n g' i).place, Go.SE.SV.int Go.IntKind.i64 (L.rsMTo p.marks s p.gauges.n g' i).tone]) ∧ (p.gauges.n = p.gauges.n ∧ ∀ (i : Nat), i < p.gauges.n → [Go.SE.SV.int Go.IntKind.i64 (L.rsTo p s g i).edge.lo, Go.SE.SV.int Go.IntKind.i64 (L.rsTo p s g
 i).edge.hi, Go.SE.SV.int Go.IntKind.i64 (L.rsTo p s g i).across.lo, Go.SE.SV.int Go.IntKind.i64 (L.rsTo p s g i).across.hi, Go.SE.SV.int Go.IntKind.i64 (L.rsTo p s g i).bend] = [Go.SE.SV.int Go.IntKind.i64 (L.rsTo p s g i).edge.lo, Go.SE.SV.int Go.IntKind.i64 (L.rsTo p s g i).edge.hi, Go.SE.SV.int Go.IntKind.i64 (L.rsTo p s g i).across.lo, Go.SE.SV.int Go.IntKind.i64 (L.rsTo p s g i).across.hi,
 Go.SE.SV.int Go.IntKind.i64 (L.rsTo p s g i).bend]) ∧ p.id = p.id ∧ p.colour = p.colour ∧ p.rev = p.rev ∧ p.made = p.made ∧ p.swell = p.swell ∧ (0 : Int) = (0 : Int) ∧ (0 : Int) = (0 : Int) ∧ (0 : Int) = (0 : Int) ∧ (0 : Int) = (0 : Int) ∧ (0 : Int) = (0 : Int) ∧ Go.Value.slice Option.none (0 : Nat) (0 : Nat) = Go.Value.slice Option.none (0 : Nat) (0 : Nat) ∧ Go.Value.slice Option.none (0 : Nat)
 (0 : Nat) = Go.Value.slice Option.none (0 : Nat) (0 : Nat) ∧ g' ≤ p.marks.n ∧ p.marks.n - g' < p.marks.n - g_1)) ∧ (Decidable.decide ((↑g_1 : Int) < (↑p.marks.n : Int)) = Bool.false → ((∀ (i : Nat), i < p.marks.n → [Go.SE.SV.int Go.IntKind.i64 (L.rsMTo p.marks s p.gauges.n g_1 i).edge, Go.SE.SV.int Go.IntKind.i64 (L.rsMTo p.marks s p.gauges.n g_1 i).place, Go.SE.SV.int Go.IntKind.i64 (L.rsMTo
 p.marks s p.gauges.n g_1 i).tone] = [Go.SE.SV.int Go.IntKind.i64 (L.rsMTo p.marks s p.gauges.n g_1 i).edge, Go.SE.SV.int Go.IntKind.i64 (L.rsMTo p.marks s p.gauges.n g_1 i).place, Go.SE.SV.int Go.IntKind.i64 (L.rsMTo p.marks s p.gauges.n g_1 i).tone]) ∧ p.marks.n ≤ (1000000 : Nat)) ∧ ∀ (t : Nat), True → (∀ (i : Nat), i < p.marks.n → (Bool.true && (Bool.true && (Bool.true && Bool.true))) =
 Bool.true) ∧ (s.back = Bool.true → ((((p.id = (L.rs p s).id ∧ p.rev = (L.rs p s).colour ∧ p.colour = (L.rs p s).rev ∧ p.made = (L.rs p s).made ∧ p.swell = (L.rs p s).swell ∧ (p.gauges.n = (L.rs p s).gauges.n ∧ ∀ (i : Nat), i < p.gauges.n → [Go.SE.SV.int Go.IntKind.i64 (L.rsTo p s g i).edge.lo, Go.SE.SV.int Go.IntKind.i64 (L.rsTo p s g i).edge.hi, Go.SE.SV.int Go.IntKind.i64 (L.rsTo p s g
 i).across.lo, Go.SE.SV.int Go.IntKind.i64 (L.rsTo p s g i).across.hi, Go.SE.SV.int Go.IntKind.i64 (L.rsTo p s g i).bend] = [Go.SE.SV.int Go.IntKind.i64 ((L.rs p s).gauges.g i).edge.lo, Go.SE.SV.int Go.IntKind.i64 ((L.rs p s).gauges.g i).edge.hi, Go.SE.SV.int Go.IntKind.i64 ((L.rs p s).gauges.g i).across.lo, Go.SE.SV.int Go.IntKind.i64 ((L.rs p s).gauges.g i).across.hi, Go.SE.SV.int Go.IntKind.i64
 ((L.rs p s).gauges.g i).bend]) ∧ p.marks.n = (L.rs p s).marks.n ∧ ∀ (i : Nat), i < p.marks.n → [Go.SE.SV.int Go.IntKind.i64 ((L.sortM (L.Sq.mk p.marks.n fun (i : Nat) ↦ L.rsMTo p.marks s p.gauges.n g_1 i)).g i).edge, Go.SE.SV.int Go.IntKind.i64 ((L.sortM (L.Sq.mk p.marks.n fun (i : Nat) ↦ L.rsMTo p.marks s p.gauges.n g_1 i)).g i).place, Go.SE.SV.int Go.IntKind.i64 ((L.sortM (L.Sq.mk p.marks.n fun
 (i : Nat) ↦ L.rsMTo p.marks s p.gauges.n g_1 i)).g i).tone] = [Go.SE.SV.int Go.IntKind.i64 ((L.rs p s).marks.g i).edge, Go.SE.SV.int Go.IntKind.i64 ((L.rs p s).marks.g i).place, Go.SE.SV.int Go.IntKind.i64 ((L.rs p s).marks.g i).tone]) ∧ (p.id = (L.rs p s).id ∧ p.rev = (L.rs p s).colour ∧ p.colour = (L.rs p s).rev ∧ p.made = (L.rs p s).made ∧ p.swell = (L.rs p s).swell ∧ (p.gauges.n = (L.rs p
 s).gauges.n ∧ ∀ (i : Nat), i < p.gauges.n → [Go.SE.SV.int Go.IntKind.i64 (L.rsTo p s g i).edge.lo, Go.SE.SV.int Go.IntKind.i64 (L.rsTo p s g i).edge.hi, Go.SE.SV.int Go.IntKind.i64 (L.rsTo p s g i).across.lo, Go.SE.SV.int Go.IntKind.i64 (L.rsTo p s g i).across.hi, Go.SE.SV.int Go.IntKind.i64 (L.rsTo p s g i).bend] = [Go.SE.SV.int Go.IntKind.i64 ((L.rs p s).gauges.g i).edge.lo, Go.SE.SV.int
 Go.IntKind.i64 ((L.rs p s).gauges.g i).edge.hi, Go.SE.SV.int Go.IntKind.i64 ((L.rs p s).gauges.g i).across.lo, Go.SE.SV.int Go.IntKind.i64 ((L.rs p s).gauges.g i).across.hi, Go.SE.SV.int Go.IntKind.i64 ((L.rs p s).gauges.g i).bend]) ∧ p.marks.n = (L.rs p s).marks.n ∧ ∀ (i : Nat), i < p.marks.n → [Go.SE.SV.int Go.IntKind.i64 ((L.sortM (L.Sq.mk p.marks.n fun (i : Nat) ↦ L.rsMTo p.marks s p.gauges.n
 g_1 i)).g i).edge, Go.SE.SV.int Go.IntKind.i64 ((L.sortM (L.Sq.mk p.marks.n fun (i : Nat) ↦ L.rsMTo p.marks s p.gauges.n g_1 i)).g i).place, Go.SE.SV.int Go.IntKind.i64 ((L.sortM (L.Sq.mk p.marks.n fun (i : Nat) ↦ L.rsMTo p.marks s p.gauges.n g_1 i)).g i).tone] = [Go.SE.SV.int Go.IntKind.i64 ((L.rs p s).marks.g i).edge, Go.SE.SV.int Go.IntKind.i64 ((L.rs p s).marks.g i).place, Go.SE.SV.int
 Go.IntKind.i64 ((L.rs p s).marks.g i).tone]) ∧ p.id = (L.rs p s).id ∧ p.rev = (L.rs p s).colour ∧ p.colour = (L.rs p s).rev ∧ p.made = (L.rs p s).made ∧ p.swell = (L.rs p s).swell ∧ (p.gauges.n = (L.rs p s).gauges.n ∧ ∀ (i : Nat), i < p.gauges.n → [Go.SE.SV.int Go.IntKind.i64 (L.rsTo p s g i).edge.lo, Go.SE.SV.int Go.IntKind.i64 (L.rsTo p s g i).edge.hi, Go.SE.SV.int Go.IntKind.i64 (L.rsTo p s g
 i).across.lo, Go.SE.SV.int Go.IntKind.i64 (L.rsTo p s g i).across.hi, Go.SE.SV.int Go.IntKind.i64 (L.rsTo p s g i).bend] = [Go.SE.SV.int Go.IntKind.i64 ((L.rs p s).gauges.g i).edge.lo, Go.SE.SV.int Go.IntKind.i64 ((L.rs p s).gauges.g i).edge.hi, Go.SE.SV.int Go.IntKind.i64 ((L.rs p s).gauges.g i).across.lo, Go.SE.SV.int Go.IntKind.i64 ((L.rs p s).gauges.g i).across.hi, Go.SE.SV.int Go.IntKind.i64
 ((L.rs p s).gauges.g i).bend]) ∧ p.marks.n = (L.rs p s).marks.n ∧ ∀ (i : Nat), i < p.marks.n → [Go.SE.SV.int Go.IntKind.i64 ((L.sortM (L.Sq.mk p.marks.n fun (i : Nat) ↦ L.rsMTo p.marks s p.gauges.n g_1 i)).g i).edge, Go.SE.SV.int Go.IntKind.i64 ((L.sortM (L.Sq.mk p.marks.n fun (i : Nat) ↦ L.rsMTo p.marks s p.gauges.n g_1 i)).g i).place, Go.SE.SV.int Go.IntKind.i64 ((L.sortM (L.Sq.mk p.marks.n fun
 (i : Nat) ↦ L.rsMTo p.marks s p.gauges.n g_1 i)).g i).tone] = [Go.SE.SV.int Go.IntKind.i64 ((L.rs p s).marks.g i).edge, Go.SE.SV.int Go.IntKind.i64 ((L.rs p s).marks.g i).place, Go.SE.SV.int Go.IntKind.i64 ((L.rs p s).marks.g i).tone]) ∧ ((p.id = (L.rs p s).id ∧ p.rev = (L.rs p s).colour ∧ p.colour = (L.rs p s).rev ∧ p.made = (L.rs p s).made ∧ p.swell = (L.rs p s).swell ∧ (p.gauges.n = (L.rs p
 s).gauges.n ∧ ∀ (i : Nat), i < p.gauges.n → [Go.SE.SV.int Go.IntKind.i64 (L.rsTo p s g i).edge.lo, Go.SE.SV.int Go.IntKind.i64 (L.rsTo p s g i).edge.hi, Go.SE.SV.int Go.IntKind.i64 (L.rsTo p s g i).across.lo, Go.SE.SV.int Go.IntKind.i64 (L.rsTo p s g i).across.hi, Go.SE.SV.int Go.IntKind.i64 (L.rsTo p s g i).bend] = [Go.SE.SV.int Go.IntKind.i64 ((L.rs p s).gauges.g i).edge.lo, Go.SE.SV.int
 Go.IntKind.i64 ((L.rs p s).gauges.g i).edge.hi, Go.SE.SV.int Go.IntKind.i64 ((L.rs p s).gauges.g i).across.lo, Go.SE.SV.int Go.IntKind.i64 ((L.rs p s).gauges.g i).across.hi, Go.SE.SV.int Go.IntKind.i64 ((L.rs p s).gauges.g i).bend]) ∧ p.marks.n = (L.rs p s).marks.n ∧ ∀ (i : Nat), i < p.marks.n → [Go.SE.SV.int Go.IntKind.i64 ((L.sortM (L.Sq.mk p.marks.n fun (i : Nat) ↦ L.rsMTo p.marks s p.gauges.n
 g_1 i)).g i).edge, Go.SE.SV.int Go.IntKind.i64 ((L.sortM (L.Sq.mk p.marks.n fun (i : Nat) ↦ L.rsMTo p.marks s p.gauges.n g_1 i)).g i).place, Go.SE.SV.int Go.IntKind.i64 ((L.sortM (L.Sq.mk p.marks.n fun (i : Nat) ↦ L.rsMTo p.marks s p.gauges.n g_1 i)).g i).tone] = [Go.SE.SV.int Go.IntKind.i64 ((L.rs p s).marks.g i).edge, Go.SE.SV.int Go.IntKind.i64 ((L.rs p s).marks.g i).place, Go.SE.SV.int
 Go.IntKind.i64 ((L.rs p s).marks.g i).tone]) ∧ p.id = (L.rs p s).id ∧ p.rev = (L.rs p s).colour ∧ p.colour = (L.rs p s).rev ∧ p.made = (L.rs p s).made ∧ p.swell = (L.rs p s).swell ∧ (p.gauges.n = (L.rs p s).gauges.n ∧ ∀ (i : Nat), i < p.gauges.n → [Go.SE.SV.int Go.IntKind.i64 (L.rsTo p s g i).edge.lo, Go.SE.SV.int Go.IntKind.i64 (L.rsTo p s g i).edge.hi, Go.SE.SV.int Go.IntKind.i64 (L.rsTo p s g
 i).across.lo, Go.SE.SV.int Go.IntKind.i64 (L.rsTo p s g i).across.hi, Go.SE.SV.int Go.IntKind.i64 (L.rsTo p s g i).bend] = [Go.SE.SV.int Go.IntKind.i64 ((L.rs p s).gauges.g i).edge.lo, Go.SE.SV.int Go.IntKind.i64 ((L.rs p s).gauges.g i).edge.hi, Go.SE.SV.int Go.IntKind.i64 ((L.rs p s).gauges.g i).across.lo, Go.SE.SV.int Go.IntKind.i64 ((L.rs p s).gauges.g i).across.hi, Go.SE.SV.int Go.IntKind.i64
 ((L.rs p s).gauges.g i).bend]) ∧ p.marks.n = (L.rs p s).marks.n ∧ ∀ (i : Nat), i < p.marks.n → [Go.SE.SV.int Go.IntKind.i64 ((L.sortM (L.Sq.mk p.marks.n fun (i : Nat) ↦ L.rsMTo p.marks s p.gauges.n g_1 i)).g i).edge, Go.SE.SV.int Go.IntKind.i64 ((L.sortM (L.Sq.mk p.marks.n fun (i : Nat) ↦ L.rsMTo p.marks s p.gauges.n g_1 i)).g i).place, Go.SE.SV.int Go.IntKind.i64 ((L.sortM (L.Sq.mk p.marks.n fun
 (i : Nat) ↦ L.rsMTo p.marks s p.gauges.n g_1 i)).g i).tone] = [Go.SE.SV.int Go.IntKind.i64 ((L.rs p s).marks.g i).edge, Go.SE.SV.int Go.IntKind.i64 ((L.rs p s).marks.g i).place, Go.SE.SV.int Go.IntKind.i64 ((L.rs p s).marks.g i).tone]) ∧ p.id = (L.rs p s).id ∧ p.rev = (L.rs p s).colour ∧ p.colour = (L.rs p s).rev ∧ p.made = (L.rs p s).made ∧ p.swell = (L.rs p s).swell ∧ (p.gauges.n = (L.rs p
 s).gauges.n ∧ ∀ (i : Nat), i < p.gauges.n → [Go.SE.SV.int Go.IntKind.i64 (L.rsTo p s g i).edge.lo, Go.SE.SV.int Go.IntKind.i64 (L.rsTo p s g i).edge.hi, Go.SE.SV.int Go.IntKind.i64 (L.rsTo p s g i).across.lo, Go.SE.SV.int Go.IntKind.i64 (L.rsTo p s g i).across.hi, Go.SE.SV.int Go.IntKind.i64 (L.rsTo p s g i).bend] = [Go.SE.SV.int Go.IntKind.i64 ((L.rs p s).gauges.g i).edge.lo, Go.SE.SV.int
 Go.IntKind.i64 ((L.rs p s).gauges.g i).edge.hi, Go.SE.SV.int Go.IntKind.i64 ((L.rs p s).gauges.g i).across.lo, Go.SE.SV.int Go.IntKind.i64 ((L.rs p s).gauges.g i).across.hi, Go.SE.SV.int Go.IntKind.i64 ((L.rs p s).gauges.g i).bend]) ∧ p.marks.n = (L.rs p s).marks.n ∧ ∀ (i : Nat), i < p.marks.n → [Go.SE.SV.int Go.IntKind.i64 ((L.sortM (L.Sq.mk p.marks.n fun (i : Nat) ↦ L.rsMTo p.marks s p.gauges.n
 g_1 i)).g i).edge, Go.SE.SV.int Go.IntKind.i64 ((L.sortM (L.Sq.mk p.marks.n fun (i : Nat) ↦ L.rsMTo p.marks s p.gauges.n g_1 i)).g i).place, Go.SE.SV.int Go.IntKind.i64 ((L.sortM (L.Sq.mk p.marks.n fun (i : Nat) ↦ L.rsMTo p.marks s p.gauges.n g_1 i)).g i).tone] = [Go.SE.SV.int Go.IntKind.i64 ((L.rs p s).marks.g i).edge, Go.SE.SV.int Go.IntKind.i64 ((L.rs p s).marks.g i).place, Go.SE.SV.int
 Go.IntKind.i64 ((L.rs p s).marks.g i).tone]) ∧ ((p.id = (L.rs p s).id ∧ p.rev = (L.rs p s).colour ∧ p.colour = (L.rs p s).rev ∧ p.made = (L.rs p s).made ∧ p.swell = (L.rs p s).swell ∧ (p.gauges.n = (L.rs p s).gauges.n ∧ ∀ (i : Nat), i < p.gauges.n → [Go.SE.SV.int Go.IntKind.i64 (L.rsTo p s g i).edge.lo, Go.SE.SV.int Go.IntKind.i64 (L.rsTo p s g i).edge.hi, Go.SE.SV.int Go.IntKind.i64 (L.rsTo p s g
 i).across.lo, Go.SE.SV.int Go.IntKind.i64 (L.rsTo p s g i).across.hi, Go.SE.SV.int Go.IntKind.i64 (L.rsTo p s g i).bend] = [Go.SE.SV.int Go.IntKind.i64 ((L.rs p s).gauges.g i).edge.lo, Go.SE.SV.int Go.IntKind.i64 ((L.rs p s).gauges.g i).edge.hi, Go.SE.SV.int Go.IntKind.i64 ((L.rs p s).gauges.g i).across.lo, Go.SE.SV.int Go.IntKind.i64 ((L.rs p s).gauges.g i).across.hi, Go.SE.SV.int Go.IntKind.i64
 ((L.rs p s).gauges.g i).bend]) ∧ p.marks.n = (L.rs p s).marks.n ∧ ∀ (i : Nat), i < p.marks.n → [Go.SE.SV.int Go.IntKind.i64 ((L.sortM (L.Sq.mk p.marks.n fun (i : Nat) ↦ L.rsMTo p.marks s p.gauges.n g_1 i)).g i).edge, Go.SE.SV.int Go.IntKind.i64 ((L.sortM (L.Sq.mk p.marks.n fun (i : Nat) ↦ L.rsMTo p.marks s p.gauges.n g_1 i)).g i).place, Go.SE.SV.int Go.IntKind.i64 ((L.sortM (L.Sq.mk p.marks.n fun
 (i : Nat) ↦ L.rsMTo p.marks s p.gauges.n g_1 i)).g i).tone] = [Go.SE.SV.int Go.IntKind.i64 ((L.rs p s).marks.g i).edge, Go.SE.SV.int Go.IntKind.i64 ((L.rs p s).marks.g i).place, Go.SE.SV.int Go.IntKind.i64 ((L.rs p s).marks.g i).tone]) ∧ (p.id = (L.rs p s).id ∧ p.rev = (L.rs p s).colour ∧ p.colour = (L.rs p s).rev ∧ p.made = (L.rs p s).made ∧ p.swell = (L.rs p s).swell ∧ (p.gauges.n = (L.rs p
 s).gauges.n ∧ ∀ (i : Nat), i < p.gauges.n → [Go.SE.SV.int Go.IntKind.i64 (L.rsTo p s g i).edge.lo, Go.SE.SV.int Go.IntKind.i64 (L.rsTo p s g i).edge.hi, Go.SE.SV.int Go.IntKind.i64 (L.rsTo p s g i).across.lo, Go.SE.SV.int Go.IntKind.i64 (L.rsTo p s g i).across.hi, Go.SE.SV.int Go.IntKind.i64 (L.rsTo p s g i).bend] = [Go.SE.SV.int Go.IntKind.i64 ((L.rs p s).gauges.g i).edge.lo, Go.SE.SV.int
 Go.IntKind.i64 ((L.rs p s).gauges.g i).edge.hi, Go.SE.SV.int Go.IntKind.i64 ((L.rs p s).gauges.g i).across.lo, Go.SE.SV.int Go.IntKind.i64 ((L.rs p s).gauges.g i).across.hi, Go.SE.SV.int Go.IntKind.i64 ((L.rs p s).gauges.g i).bend]) ∧ p.marks.n = (L.rs p s).marks.n ∧ ∀ (i : Nat), i < p.marks.n → [Go.SE.SV.int Go.IntKind.i64 ((L.sortM (L.Sq.mk p.marks.n fun (i : Nat) ↦ L.rsMTo p.marks s p.gauges.n
 g_1 i)).g i).edge, Go.SE.SV.int Go.IntKind.i64 ((L.sortM (L.Sq.mk p.marks.n fun (i : Nat) ↦ L.rsMTo p.marks s p.gauges.n g_1 i)).g i).place, Go.SE.SV.int Go.IntKind.i64 ((L.sortM (L.Sq.mk p.marks.n fun (i : Nat) ↦ L.rsMTo p.marks s p.gauges.n g_1 i)).g i).tone] = [Go.SE.SV.int Go.IntKind.i64 ((L.rs p s).marks.g i).edge, Go.SE.SV.int Go.IntKind.i64 ((L.rs p s).marks.g i).place, Go.SE.SV.int
 Go.IntKind.i64 ((L.rs p s).marks.g i).tone]) ∧ p.id = (L.rs p s).id ∧ p.rev = (L.rs p s).colour ∧ p.colour = (L.rs p s).rev ∧ p.made = (L.rs p s).made ∧ p.swell = (L.rs p s).swell ∧ (p.gauges.n = (L.rs p s).gauges.n ∧ ∀ (i : Nat), i < p.gauges.n → [Go.SE.SV.int Go.IntKind.i64 (L.rsTo p s g i).edge.lo, Go.SE.SV.int Go.IntKind.i64 (L.rsTo p s g i).edge.hi, Go.SE.SV.int Go.IntKind.i64 (L.rsTo p s g
 i).across.lo, Go.SE.SV.int Go.IntKind.i64 (L.rsTo p s g i).across.hi, Go.SE.SV.int Go.IntKind.i64 (L.rsTo p s g i).bend] = [Go.SE.SV.int Go.IntKind.i64 ((L.rs p s).gauges.g i).edge.lo, Go.SE.SV.int Go.IntKind.i64 ((L.rs p s).gauges.g i).edge.hi, Go.SE.SV.int Go.IntKind.i64 ((L.rs p s).gauges.g i).across.lo, Go.SE.SV.int Go.IntKind.i64 ((L.rs p s).gauges.g i).across.hi, Go.SE.SV.int Go.IntKind.i64
 ((L.rs p s).gauges.g i).bend]) ∧ p.marks.n = (L.rs p s).marks.n ∧ ∀ (i : Nat), i < p.marks.n → [Go.SE.SV.int Go.IntKind.i64 ((L.sortM (L.Sq.mk p.marks.n fun (i : Nat) ↦ L.rsMTo p.marks s p.gauges.n g_1 i)).g i).edge, Go.SE.SV.int Go.IntKind.i64 ((L.sortM (L.Sq.mk p.marks.n fun (i : Nat) ↦ L.rsMTo p.marks s p.gauges.n g_1 i)).g i).place, Go.SE.SV.int Go.IntKind.i64 ((L.sortM (L.Sq.mk p.marks.n fun
 (i : Nat) ↦ L.rsMTo p.marks s p.gauges.n g_1 i)).g i).tone] = [Go.SE.SV.int Go.IntKind.i64 ((L.rs p s).marks.g i).edge, Go.SE.SV.int Go.IntKind.i64 ((L.rs p s).marks.g i).place, Go.SE.SV.int Go.IntKind.i64 ((L.rs p s).marks.g i).tone]) ∧ p.id = (L.rs p s).id ∧ p.rev = (L.rs p s).colour ∧ p.colour = (L.rs p s).rev ∧ p.made = (L.rs p s).made ∧ p.swell = (L.rs p s).swell ∧ (p.gauges.n = (L.rs p
 s).gauges.n ∧ ∀ (i : Nat), i < p.gauges.n → [Go.SE.SV.int Go.IntKind.i64 (L.rsTo p s g i).edge.lo, Go.SE.SV.int Go.IntKind.i64 (L.rsTo p s g i).edge.hi, Go.SE.SV.int Go.IntKind.i64 (L.rsTo p s g i).across.lo, Go.SE.SV.int Go.IntKind.i64 (L.rsTo p s g i).across.hi, Go.SE.SV.int Go.IntKind.i64 (L.rsTo p s g i).bend] = [Go.SE.SV.int Go.IntKind.i64 ((L.rs p s).gauges.g i).edge.lo, Go.SE.SV.int
 Go.IntKind.i64 ((L.rs p s).gauges.g i).edge.hi, Go.SE.SV.int Go.IntKind.i64 ((L.rs p s).gauges.g i).across.lo, Go.SE.SV.int Go.IntKind.i64 ((L.rs p s).gauges.g i).across.hi, Go.SE.SV.int Go.IntKind.i64 ((L.rs p s).gauges.g i).bend]) ∧ p.marks.n = (L.rs p s).marks.n ∧ ∀ (i : Nat), i < p.marks.n → [Go.SE.SV.int Go.IntKind.i64 ((L.sortM (L.Sq.mk p.marks.n fun (i : Nat) ↦ L.rsMTo p.marks s p.gauges.n
 g_1 i)).g i).edge, Go.SE.SV.int Go.IntKind.i64 ((L.sortM (L.Sq.mk p.marks.n fun (i : Nat) ↦ L.rsMTo p.marks s p.gauges.n g_1 i)).g i).place, Go.SE.SV.int Go.IntKind.i64 ((L.sortM (L.Sq.mk p.marks.n fun (i : Nat) ↦ L.rsMTo p.marks s p.gauges.n g_1 i)).g i).tone] = [Go.SE.SV.int Go.IntKind.i64 ((L.rs p s).marks.g i).edge, Go.SE.SV.int Go.IntKind.i64 ((L.rs p s).marks.g i).place, Go.SE.SV.int
 Go.IntKind.i64 ((L.rs p s).marks.g i).tone]) ∧ (((p.id = (L.rs p s).id ∧ p.rev = (L.rs p s).colour ∧ p.colour = (L.rs p s).rev ∧ p.made = (L.rs p s).made ∧ p.swell = (L.rs p s).swell ∧ (p.gauges.n = (L.rs p s).gauges.n ∧ ∀ (i : Nat), i < p.gauges.n → [Go.SE.SV.int Go.IntKind.i64 (L.rsTo p s g i).edge.lo, Go.SE.SV.int Go.IntKind.i64 (L.rsTo p s g i).edge.hi, Go.SE.SV.int Go.IntKind.i64 (L.rsTo p s
 g i).across.lo, Go.SE.SV.int Go.IntKind.i64 (L.rsTo p s g i).across.hi, Go.SE.SV.int Go.IntKind.i64 (L.rsTo p s g i).bend] = [Go.SE.SV.int Go.IntKind.i64 ((L.rs p s).gauges.g i).edge.lo, Go.SE.SV.int Go.IntKind.i64 ((L.rs p s).gauges.g i).edge.hi, Go.SE.SV.int Go.IntKind.i64 ((L.rs p s).gauges.g i).across.lo, Go.SE.SV.int Go.IntKind.i64 ((L.rs p s).gauges.g i).across.hi, Go.SE.SV.int
 Go.IntKind.i64 ((L.rs p s).gauges.g i).bend]) ∧ p.marks.n = (L.rs p s).marks.n ∧ ∀ (i : Nat), i < p.marks.n → [Go.SE.SV.int Go.IntKind.i64 ((L.sortM (L.Sq.mk p.marks.n fun (i : Nat) ↦ L.rsMTo p.marks s p.gauges.n g_1 i)).g i).edge, Go.SE.SV.int Go.IntKind.i64 ((L.sortM (L.Sq.mk p.marks.n fun (i : Nat) ↦ L.rsMTo p.marks s p.gauges.n g_1 i)).g i).place, Go.SE.SV.int Go.IntKind.i64 ((L.sortM (L.Sq.mk
 p.marks.n fun (i : Nat) ↦ L.rsMTo p.marks s p.gauges.n g_1 i)).g i).tone] = [Go.SE.SV.int Go.IntKind.i64 ((L.rs p s).marks.g i).edge, Go.SE.SV.int Go.IntKind.i64 ((L.rs p s).marks.g i).place, Go.SE.SV.int Go.IntKind.i64 ((L.rs p s).marks.g i).tone]) ∧ (p.id = (L.rs p s).id ∧ p.rev = (L.rs p s).colour ∧ p.colour = (L.rs p s).rev ∧ p.made = (L.rs p s).made ∧ p.swell = (L.rs p s).swell ∧ (p.gauges.n
 = (L.rs p s).gauges.n ∧ ∀ (i : Nat), i < p.gauges.n → [Go.SE.SV.int Go.IntKind.i64 (L.rsTo p s g i).edge.lo, Go.SE.SV.int Go.IntKind.i64 (L.rsTo p s g i).edge.hi, Go.SE.SV.int Go.IntKind.i64 (L.rsTo p s g i).across.lo, Go.SE.SV.int Go.IntKind.i64 (L.rsTo p s g i).across.hi, Go.SE.SV.int Go.IntKind.i64 (L.rsTo p s g i).bend] = [Go.SE.SV.int Go.IntKind.i64 ((L.rs p s).gauges.g i).edge.lo,
 Go.SE.SV.int Go.IntKind.i64 ((L.rs p s).gauges.g i).edge.hi, Go.SE.SV.int Go.IntKind.i64 ((L.rs p s).gauges.g i).across.lo, Go.SE.SV.int Go.IntKind.i64 ((L.rs p s).gauges.g i).across.hi, Go.SE.SV.int Go.IntKind.i64 ((L.rs p s).gauges.g i).bend]) ∧ p.marks.n = (L.rs p s).marks.n ∧ ∀ (i : Nat), i < p.marks.n → [Go.SE.SV.int Go.IntKind.i64 ((L.sortM (L.Sq.mk p.marks.n fun (i : Nat) ↦ L.rsMTo p.marks
 s p.gauges.n g_1 i)).g i).edge, Go.SE.SV.int Go.IntKind.i64 ((L.sortM (L.Sq.mk p.marks.n fun (i : Nat) ↦ L.rsMTo p.marks s p.gauges.n g_1 i)).g i).place, Go.SE.SV.int Go.IntKind.i64 ((L.sortM (L.Sq.mk p.marks.n fun (i : Nat) ↦ L.rsMTo p.marks s p.gauges.n g_1 i)).g i).tone] = [Go.SE.SV.int Go.IntKind.i64 ((L.rs p s).marks.g i).edge, Go.SE.SV.int Go.IntKind.i64 ((L.rs p s).marks.g i).place,
 Go.SE.SV.int Go.IntKind.i64 ((L.rs p s).marks.g i).tone]) ∧ p.id = (L.rs p s).id ∧ p.rev = (L.rs p s).colour ∧ p.colour = (L.rs p s).rev ∧ p.made = (L.rs p s).made ∧ p.swell = (L.rs p s).swell ∧ (p.gauges.n = (L.rs p s).gauges.n ∧ ∀ (i : Nat), i < p.gauges.n → [Go.SE.SV.int Go.IntKind.i64 (L.rsTo p s g i).edge.lo, Go.SE.SV.int Go.IntKind.i64 (L.rsTo p s g i).edge.hi, Go.SE.SV.int Go.IntKind.i64
 (L.rsTo p s g i).across.lo, Go.SE.SV.int Go.IntKind.i64 (L.rsTo p s g i).across.hi, Go.SE.SV.int Go.IntKind.i64 (L.rsTo p s g i).bend] = [Go.SE.SV.int Go.IntKind.i64 ((L.rs p s).gauges.g i).edge.lo, Go.SE.SV.int Go.IntKind.i64 ((L.rs p s).gauges.g i).edge.hi, Go.SE.SV.int Go.IntKind.i64 ((L.rs p s).gauges.g i).across.lo, Go.SE.SV.int Go.IntKind.i64 ((L.rs p s).gauges.g i).across.hi, Go.SE.SV.int
 Go.IntKind.i64 ((L.rs p s).gauges.g i).bend]) ∧ p.marks.n = (L.rs p s).marks.n ∧ ∀ (i : Nat), i < p.marks.n → [Go.SE.SV.int Go.IntKind.i64 ((L.sortM (L.Sq.mk p.marks.n fun (i : Nat) ↦ L.rsMTo p.marks s p.gauges.n g_1 i)).g i).edge, Go.SE.SV.int Go.IntKind.i64 ((L.sortM (L.Sq.mk p.marks.n fun (i : Nat) ↦ L.rsMTo p.marks s p.gauges.n g_1 i)).g i).place, Go.SE.SV.int Go.IntKind.i64 ((L.sortM (L.Sq.mk
 p.marks.n fun (i : Nat) ↦ L.rsMTo p.marks s p.gauges.n g_1 i)).g i).tone] = [Go.SE.SV.int Go.IntKind.i64 ((L.rs p s).marks.g i).edge, Go.SE.SV.int Go.IntKind.i64 ((L.rs p s).marks.g i).place, Go.SE.SV.int Go.IntKind.i64 ((L.rs p s).marks.g i).tone]) ∧ p.id = (L.rs p s).id ∧ p.rev = (L.rs p s).colour ∧ p.colour = (L.rs p s).rev ∧ p.made = (L.rs p s).made ∧ p.swell = (L.rs p s).swell ∧ (p.gauges.n =
 (L.rs p s).gauges.n ∧ ∀ (i : Nat), i < p.gauges.n → [Go.SE.SV.int Go.IntKind.i64 (L.rsTo p s g i).edge.lo, Go.SE.SV.int Go.IntKind.i64 (L.rsTo p s g i).edge.hi, Go.SE.SV.int Go.IntKind.i64 (L.rsTo p s g i).across.lo, Go.SE.SV.int Go.IntKind.i64 (L.rsTo p s g i).across.hi, Go.SE.SV.int Go.IntKind.i64 (L.rsTo p s g i).bend] = [Go.SE.SV.int Go.IntKind.i64 ((L.rs p s).gauges.g i).edge.lo, Go.SE.SV.int
 Go.IntKind.i64 ((L.rs p s).gauges.g i).edge.hi, Go.SE.SV.int Go.IntKind.i64 ((L.rs p s).gauges.g i).across.lo, Go.SE.SV.int Go.IntKind.i64 ((L.rs p s).gauges.g i).across.hi, Go.SE.SV.int Go.IntKind.i64 ((L.rs p s).gauges.g i).bend]) ∧ p.marks.n = (L.rs p s).marks.n ∧ ∀ (i : Nat), i < p.marks.n → [Go.SE.SV.int Go.IntKind.i64 ((L.sortM (L.Sq.mk p.marks.n fun (i : Nat) ↦ L.rsMTo p.marks s p.gauges.n
 g_1 i)).g i).edge, Go.SE.SV.int Go.IntKind.i64 ((L.sortM (L.Sq.mk p.marks.n fun (i : Nat) ↦ L.rsMTo p.marks s p.gauges.n g_1 i)).g i).place, Go.SE.SV.int Go.IntKind.i64 ((L.sortM (L.Sq.mk p.marks.n fun (i : Nat) ↦ L.rsMTo p.marks s p.gauges.n g_1 i)).g i).tone] = [Go.SE.SV.int Go.IntKind.i64 ((L.rs p s).marks.g i).edge, Go.SE.SV.int Go.IntKind.i64 ((L.rs p s).marks.g i).place, Go.SE.SV.int
 Go.IntKind.i64 ((L.rs p s).marks.g i).tone]) ∧ p.id = (L.rs p s).id ∧ p.rev = (L.rs p s).colour ∧ p.colour = (L.rs p s).rev ∧ p.made = (L.rs p s).made ∧ p.swell = (L.rs p s).swell ∧ (p.gauges.n = (L.rs p s).gauges.n ∧ ∀ (i : Nat), i < p.gauges.n → [Go.SE.SV.int Go.IntKind.i64 (L.rsTo p s g i).edge.lo, Go.SE.SV.int Go.IntKind.i64 (L.rsTo p s g i).edge.hi, Go.SE.SV.int Go.IntKind.i64 (L.rsTo p s g
 i).across.lo, Go.SE.SV.int Go.IntKind.i64 (L.rsTo p s g i).across.hi, Go.SE.SV.int Go.IntKind.i64 (L.rsTo p s g i).bend] = [Go.SE.SV.int Go.IntKind.i64 ((L.rs p s).gauges.g i).edge.lo, Go.SE.SV.int Go.IntKind.i64 ((L.rs p s).gauges.g i).edge.hi, Go.SE.SV.int Go.IntKind.i64 ((L.rs p s).gauges.g i).across.lo, Go.SE.SV.int Go.IntKind.i64 ((L.rs p s).gauges.g i).across.hi, Go.SE.SV.int Go.IntKind.i64
 ((L.rs p s).gauges.g i).bend]) ∧ p.marks.n = (L.rs p s).marks.n ∧ ∀ (i : Nat), i < p.marks.n → [Go.SE.SV.int Go.IntKind.i64 ((L.sortM (L.Sq.mk p.marks.n fun (i : Nat) ↦ L.rsMTo p.marks s p.gauges.n g_1 i)).g i).edge, Go.SE.SV.int Go.IntKind.i64 ((L.sortM (L.Sq.mk p.marks.n fun (i : Nat) ↦ L.rsMTo p.marks s p.gauges.n g_1 i)).g i).place, Go.SE.SV.int Go.IntKind.i64 ((L.sortM (L.Sq.mk p.marks.n fun
 (i : Nat) ↦ L.rsMTo p.marks s p.gauges.n g_1 i)).g i).tone] = [Go.SE.SV.int Go.IntKind.i64 ((L.rs p s).marks.g i).edge, Go.SE.SV.int Go.IntKind.i64 ((L.rs p s).marks.g i).place, Go.SE.SV.int Go.IntKind.i64 ((L.rs p s).marks.g i).tone]) ∧ (s.back = Bool.false → p.id = (L.rs p s).id ∧ p.colour = (L.rs p s).colour ∧ p.rev = (L.rs p s).rev ∧ p.made = (L.rs p s).made ∧ p.swell = (L.rs p s).swell ∧
 (p.gauges.n = (L.rs p s).gauges.n ∧ ∀ (i : Nat), i < p.gauges.n → [Go.SE.SV.int Go.IntKind.i64 (L.rsTo p s g i).edge.lo, Go.SE.SV.int Go.IntKind.i64 (L.rsTo p s g i).edge.hi, Go.SE.SV.int Go.IntKind.i64 (L.rsTo p s g i).across.lo, Go.SE.SV.int Go.IntKind.i64 (L.rsTo p s g i).across.hi, Go.SE.SV.int Go.IntKind.i64 (L.rsTo p s g i).bend] = [Go.SE.SV.int Go.IntKind.i64 ((L.rs p s).gauges.g
 i).edge.lo, Go.SE.SV.int Go.IntKind.i64 ((L.rs p s).gauges.g i).edge.hi, Go.SE.SV.int Go.IntKind.i64 ((L.rs p s).gauges.g i).across.lo, Go.SE.SV.int Go.IntKind.i64 ((L.rs p s).gauges.g i).across.hi, Go.SE.SV.int Go.IntKind.i64 ((L.rs p s).gauges.g i).bend]) ∧ p.marks.n = (L.rs p s).marks.n ∧ ∀ (i : Nat), i < p.marks.n → [Go.SE.SV.int Go.IntKind.i64 ((L.sortM (L.Sq.mk p.marks.n fun (i : Nat) ↦
 L.rsMTo p.marks s p.gauges.n g_1 i)).g i).edge, Go.SE.SV.int Go.IntKind.i64 ((L.sortM (L.Sq.mk p.marks.n fun (i : Nat) ↦ L.rsMTo p.marks s p.gauges.n g_1 i)).g i).place, Go.SE.SV.int Go.IntKind.i64 ((L.sortM (L.Sq.mk p.marks.n fun (i : Nat) ↦ L.rsMTo p.marks s p.gauges.n g_1 i)).g i).tone] = [Go.SE.SV.int Go.IntKind.i64 ((L.rs p s).marks.g i).edge, Go.SE.SV.int Go.IntKind.i64 ((L.rs p s).marks.g
 i).place, Go.SE.SV.int Go.IntKind.i64 ((L.rs p s).marks.g i).tone])))) (by kernel_rfl) (by
    obtain ⟨hv, hs⟩ := hp
    obtain ⟨_, hg0, hm0⟩ := piece_of hv
    have hgn := gauges_n hg0
    have hmk := marks_in hm0
    have hn0 : 0 < p.gauges.n := by omega
    refine ⟨⟨by omega, Int.le_refl _, show (p.gauges.n : Int) * 40 ≤ 140737488355328 by omega⟩, ⟨(0 : Nat), rfl, ⟨Int.toNat_natCast _, fun i _ => ?_⟩, Nat.zero_le _⟩, fun g hg => ⟨fun hlt => ?_, fun hge => ?_⟩⟩
    · unfold L.rsTo; rw [decide_eq_false (Nat.not_lt_zero _)]; rfl
    · have hb : (g : Int) < (p.gauges.n : Int) := of_decide_eq_true hlt
      have hgl : g < p.gauges.n := by omega
      have hE := ed_ok hs (i := (g : Int)) (by omega) hb
      obtain ⟨a1, a2, _⟩ := rsI_lay hs hgl
      have e0 : ((g : Int)).toNat = g := Int.toNat_natCast g
      rw [hE.2, e0]
      have row : ∀ v : L.Gauge, v = L.rsG1 p s g → ∀ i, i < p.gauges.n → setRow (fun (j : Nat) => [.int .i64 ((L.rsTo p s g j).edge.lo), .int .i64 ((L.rsTo p s g j).edge.hi), .int .i64 ((L.rsTo p s g j).across.lo), .int .i64 ((L.rsTo p s g j).across.hi), .int .i64 ((L.rsTo p s g j).bend)]) (L.lay s p.gauges.n g).toNat 0 [.int .i64 v.edge.lo, .int .i64 v.edge.hi, .int .i64 v.across.lo, .int .i64 v.across.hi, .int .i64 v.bend] i = [.int .i64 ((L.rsTo p s (g + 1) i).edge.lo), .int .i64 ((L.rsTo p s (g + 1) i).edge.hi), .int .i64 ((L.rsTo p s (g + 1) i).across.lo), .int .i64 ((L.rsTo p s (g + 1) i).across.hi), .int .i64 ((L.rsTo p s (g + 1) i).bend)] := fun v hv i hi => by
        rw [rsTo_step hs hgl hi]
        unfold setRow
        by_cases h : i = (L.lay s p.gauges.n g).toNat
        · rw [if_pos h, if_pos h, hv]; rfl
        · rw [if_neg h, if_neg h]
      refine ⟨⟨by omega, hb⟩, trivial, fun hk => ⟨InK.of (by omega) (by omega), InK.of (by omega) (by omega), by omega, ⟨Int.tmod_nonneg _ (by omega), Int.tmod_lt_of_pos _ (by omega)⟩, fif ?_⟩, fun hk => ?_⟩
      · have hw := row ⟨(p.gauges.g g).edge, (p.gauges.g (L.prev p.gauges.n g)).across, (p.gauges.g (L.prev p.gauges.n g)).bend⟩ (by unfold L.rsG1; rw [hk]; rfl)
        exact ⟨⟨a1, a2⟩, by omega, InK.of (by omega) (by omega), g + 1, by omega, rfl, ⟨rfl, fun _ _ => rfl⟩, rfl, rfl, rfl, rfl, rfl, ⟨rfl, hw⟩, rfl, rfl, rfl, rfl, rfl, ⟨rfl, fun _ _ => rfl⟩, rfl, rfl, rfl, rfl, rfl, rfl, rfl, by omega, by omega⟩
      · have hw := row (p.gauges.g g) (by unfold L.rsG1; rw [hk]; rfl)
        exact ⟨⟨a1, a2⟩, by omega, InK.of (by omega) (by omega), g + 1, by omega, rfl, ⟨rfl, fun _ _ => rfl⟩, rfl, rfl, rfl, rfl, rfl, ⟨rfl, hw⟩, rfl, rfl, rfl, rfl, rfl, ⟨rfl, fun _ _ => rfl⟩, rfl, rfl, rfl, rfl, rfl, rfl, rfl, by omega, by omega⟩
    have hb : ¬ (g : Int) < (p.gauges.n : Int) := of_decide_eq_false hge
    obtain rfl : g = p.gauges.n := by omega
    refine ⟨⟨fun _ _ => rfl, by omega⟩, fun t _ => ⟨⟨(0 : Nat), rfl, ⟨rfl, fun i _ => ?_⟩, Nat.zero_le _⟩, fun q hq => ⟨fun hlt => ?_, fun hge => ?_⟩⟩⟩
    · have : L.rsMTo p.marks s p.gauges.n 0 i = p.marks.g i := by unfold L.rsMTo; rw [decide_eq_false (Nat.not_lt_zero _)]; rfl
      rw [this]
    · have hq1 : (q : Int) < (p.marks.n : Int) := of_decide_eq_true hlt
      obtain ⟨m1, m2, _⟩ := hmk.2 q (by omega)
      have hE := ed_ok hs m1.1 m1.2
      have e0 : ((q : Int)).toNat = q := Int.toNat_natCast q
      rw [e0, rsMTo_at, hE.2]
      have w0 : L.rsM1 s p.gauges.n (p.marks.g q) = ⟨L.lay s p.gauges.n (p.marks.g q).edge, bif s.back then 16 - (p.marks.g q).place else (p.marks.g q).place, (p.marks.g q).tone⟩ := rfl
      refine ⟨⟨by omega, hq1⟩, by omega, trivial, ⟨by omega, hq1⟩, by omega, fun hk => ?_, fun hk => ?_⟩
      · refine ⟨InK.of (by omega) (by omega), ⟨by omega, hq1⟩, by omega, InK.of (by omega) (by omega), q + 1, by omega, rfl, rfl, rfl, rfl, rfl, rfl, ⟨rfl, fun i hi => ?_⟩, ⟨rfl, fun _ _ => rfl⟩, rfl, rfl, rfl, rfl, rfl, rfl, rfl, rfl, rfl, rfl, rfl, rfl, by omega, by omega⟩
        rw [rsMTo_step, w0, hk]
        unfold setRow
        by_cases h : i = q
        · rw [if_pos h, if_pos h, if_pos h, h]; simp only [rsMTo_at]; rfl
        · rw [if_neg h, if_neg h, if_neg h]
      · refine ⟨InK.of (by omega) (by omega), q + 1, by omega, rfl, rfl, rfl, rfl, rfl, rfl, ⟨rfl, fun i hi => ?_⟩, ⟨rfl, fun _ _ => rfl⟩, rfl, rfl, rfl, rfl, rfl, rfl, rfl, rfl, rfl, rfl, rfl, rfl, by omega, by omega⟩
        rw [rsMTo_step, w0, hk]
        unfold setRow
        by_cases h : i = q
        · rw [if_pos h, if_pos h, h]; simp only [rsMTo_at]; rfl
        · rw [if_neg h, if_neg h]
    have hq1 : ¬ (q : Int) < (p.marks.n : Int) := of_decide_eq_false hge
    obtain rfl : q = p.marks.n := by omega
    have e2 : L.sortM ⟨p.marks.n, fun i => L.rsMTo p.marks s p.gauges.n p.marks.n i⟩ = L.sortM (L.rsMs p.marks s p.gauges.n) := sortM_congr fun k hk => by
      unfold L.rsMTo; rw [decide_eq_true hk]; rfl
    have e1 : ∀ i, i < p.gauges.n → ([.int .i64 ((L.rsTo p s p.gauges.n i).edge.lo), .int .i64 ((L.rsTo p s p.gauges.n i).edge.hi), .int .i64 ((L.rsTo p s p.gauges.n i).across.lo), .int .i64 ((L.rsTo p s p.gauges.n i).across.hi), .int .i64 ((L.rsTo p s p.gauges.n i).bend)] : List SV) = [.int .i64 (((L.rs p s).gauges.g i).edge.lo), .int .i64 (((L.rs p s).gauges.g i).edge.hi), .int .i64 (((L.rs p s).gauges.g i).across.lo), .int .i64 (((L.rs p s).gauges.g i).across.hi), .int .i64 (((L.rs p s).gauges.g i).bend)] := fun i _ => by
      rw [rsTo_full (p := p) (s := s) hn0 i]; rfl
    have e3 : ∀ i, i < p.marks.n → ([.int .i64 (((L.sortM ⟨p.marks.n, fun i => L.rsMTo p.marks s p.gauges.n p.marks.n i⟩).g i).edge), .int .i64 (((L.sortM ⟨p.marks.n, fun i => L.rsMTo p.marks s p.gauges.n p.marks.n i⟩).g i).place), .int .i64 (((L.sortM ⟨p.marks.n, fun i => L.rsMTo p.marks s p.gauges.n p.marks.n i⟩).g i).tone)] : List SV) = [.int .i64 (((L.rs p s).marks.g i).edge), .int .i64 (((L.rs p s).marks.g i).place), .int .i64 (((L.rs p s).marks.g i).tone)] := fun i _ => by
      rw [e2]; rfl
    refine ⟨⟨fun _ _ => rfl, by omega⟩, fun t _ => ⟨fun _ _ => rfl, fun hk => fif ?_, fun hk => ?_⟩⟩
    · have c1 : p.rev = (L.rs p s).colour := by unfold L.rs; rw [hk]; rfl
      have c2 : p.colour = (L.rs p s).rev := by unfold L.rs; rw [hk]; rfl
      exact ⟨rfl, c1, c2, rfl, rfl, ⟨rfl, e1⟩, rfl, e3⟩
    · have c1 : p.colour = (L.rs p s).colour := by unfold L.rs; rw [hk]; rfl
      have c2 : p.rev = (L.rs p s).rev := by unfold L.rs; rw [hk]; rfl
      exact ⟨rfl, c1, c2, rfl, rfl, ⟨rfl, e1⟩, rfl, e3⟩)
theorem g_reset_ok : SpecOk Tryz.prog 62 g_reset_S := fnX Tryz.func62 (c := bodyOf Tryz.f62) (by kernel_rfl) mixed (fun args p r hs hp => by
  unfold g_reset_s at hs
  split at hs
  · cases hs; exact ⟨_, _, g_reset_vc _ _ hp.2.2, (.p (.agg rfl (fun i hi => by
      rcases i with _ | i
      · exact (Ext.refl _ : Ext _ _)
      rcases i with _ | i
      · exact (Ext.refl _ : Ext _ _)
      rcases i with _ | i
      · exact (Ext.refl _ : Ext _ _)
      rcases i with _ | i
      · exact (Ext.refl _ : Ext _ _)
      rcases i with _ | i
      · exact (Ext.refl _ : Ext _ _)
      rcases i with _ | i
      · exact (Ext.sl hp.1 : Ext _ _)
      rcases i with _ | i
      · exact (Ext.sl hp.2.1 : Ext _ _)
      exact absurd hi (by simp; try omega))) (.same _ .nil)), ⟨show SpecsL Tryz.prog _ from (SpecsL.cons p_Edge_ok p_Edge_en (SpecsL.cons s_cloneM_ok s_cloneM_en (SpecsL.cons g_sortedM_ok g_sortedM_en (SpecsL.cons g_cmpMarks_ok g_cmpMarks_en SpecsL.nil)))), rfl, ⟨show ItersL Tryz.prog _ from ItersL.nil, (TrsOk.none (fun _ => rfl))⟩⟩⟩
  · cases hs)
theorem g_reset_en : Enters Tryz.prog 62 := fun args w => by kernel_rfl
end Go.Proofs.YtooapgllahonaaaGreat
