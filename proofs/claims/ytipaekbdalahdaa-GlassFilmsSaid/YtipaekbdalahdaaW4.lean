/- A symbolic walk over the model, and what it shows of functions of the program: parts of the proof that the text of the row joins. -/
import Derived.Test.YtipaekbdalahdaaW3
import Derived.Test.YtipaekbdalahdaaE3
import Derived.KernelRfl

namespace Go.Proofs.Ytipaekbdalahdaa
open Go.SE Go.RowKit
set_option maxRecDepth 100000
set_option maxHeartbeats 4000000
set_option linter.unusedVariables false
attribute [local irreducible] Go.SE.vc

def L.sameI (a b : L.Sq Int) : Bool := bif decide ((a.n : Int) = b.n) then L.allB a.n (fun i => decide (a.g i = b.g i)) else false
def L.greyE (f : L.Film) (c : Int) : Int := bif !L.validFilm f then 32 else bif !L.within c 1 16 then 1 else bif decide (L.tab f c < 0) then 3 else 0
def L.greyV (f : L.Film) (c : Int) : Int := bif decide (L.greyE f c = 0) then L.tab f c else 0
theorem sameI_refl (a : L.Sq Int) : L.sameI a a = true := by
  unfold L.sameI
  rw [decide_eq_true rfl, allB_iff.2 (fun i _ => decide_eq_true rfl)]; rfl
theorem tab_yes {f : L.Film} {c : Int} (h1 : 1 ≤ c) (h2 : c ≤ f.grey.n) : L.tab f c = f.grey.g (c - 1).toNat := by
  unfold L.tab; rw [within_iff.2 ⟨h1, h2⟩]; rfl
theorem tab_no {f : L.Film} {c : Int} (h : ¬ (1 ≤ c ∧ c ≤ f.grey.n)) : L.tab f c = -1 := by
  unfold L.tab
  rw [show L.within c 1 f.grey.n = false from by rw [Bool.eq_false_iff, Ne, within_iff]; exact h]; rfl
theorem film_ok {f : L.Film} (hv : L.validFilm f = true) : 1 ≤ f.grey.n ∧ f.grey.n ≤ 16 ∧ ∀ i, i < f.grey.n → 0 ≤ f.grey.g i ∧ f.grey.g i ≤ 255 := by
  unfold L.validFilm at hv
  simp only [band, Bool.and_eq_true, within_iff, allB_iff] at hv
  obtain ⟨⟨_, h1⟩, h2⟩ := hv
  exact ⟨by omega, by omega, h2⟩
theorem tab_neg {f : L.Film} {c : Int} (hv : L.validFilm f = true) : L.tab f c < 0 ↔ ¬ (1 ≤ c ∧ c ≤ f.grey.n) := by
  constructor
  · rintro h ⟨h1, h2⟩
    rw [tab_yes h1 h2] at h
    have := (film_ok hv).2.2 (c - 1).toNat (by omega)
    omega
  · intro h; rw [tab_no h]; decide
theorem cnt_past {p : Nat → Bool} {n : Nat} : ∀ {m : Nat}, n ≤ m → (∀ j, n ≤ j → j < m → p j = false) → L.cnt p m = L.cnt p n
  | 0, h, _ => by obtain rfl : n = 0 := by omega
                  rfl
  | m + 1, h, hp => by
    by_cases e : n = m + 1
    · rw [e]
    · have ih := cnt_past (p := p) (n := n) (m := m) (by omega) (fun j h1 h2 => hp j h1 (by omega))
      rw [← ih]; simp [L.cnt, hp m (by omega) (by omega)]
theorem sel_past {p : Nat → Bool} {v : Nat → Int} {n : Nat} : ∀ {m : Nat}, n ≤ m → (∀ j, n ≤ j → j < m → p j = false) → ∀ k, L.sel p v m k = L.sel p v n k
  | 0, h, _, k => by obtain rfl : n = 0 := by omega
                     rfl
  | m + 1, h, hp, k => by
    by_cases e : n = m + 1
    · rw [e]
    · have ih := sel_past (p := p) (v := v) (n := n) (m := m) (by omega) (fun j h1 h2 => hp j h1 (by omega)) k
      rw [← ih]; simp [L.sel, hp m (by omega) (by omega)]
theorem shows_no {f : L.Film} {s : L.Span} {j : Nat} (h : ¬ (1 ≤ j ∧ j ≤ f.grey.n)) : L.shows f s j = false := by
  unfold L.shows
  rw [tab_no (f := f) (c := (j : Int)) (by omega)]; rfl
theorem shows_yes {f : L.Film} {s : L.Span} {j : Nat} (hv : L.validFilm f = true) (h : j < f.grey.n) : L.shows f s (j + 1) = L.within (f.grey.g j) s.lo s.hi := by
  unfold L.shows
  have e : (((j + 1 : Nat) : Int) - 1).toNat = j := by omega
  rw [tab_yes (f := f) (c := ((j + 1 : Nat) : Int)) (by omega) (by omega), e, decide_eq_true ((film_ok hv).2.2 j h).1]; rfl
def r1_SameInts_p (a : (L.Sq Int)) (b : (L.Sq Int)) : Prop := a.n ≤ 1000000
def r1_SameInts_r (a : (L.Sq Int)) (b : (L.Sq Int)) : SV := .bool (L.sameI a b)
def r1_SameInts_s : List EV → Option (Prop × SV)
  | [.p (.sl 1 a_n a_g), .p (.sl 1 b_n b_g)] => some ((∀ i, i < a_n → a_g i = [.int .i64 ((intOf (a_g i)))]) ∧ (∀ i, i < b_n → b_g i = [.int .i64 ((intOf (b_g i)))]) ∧ r1_SameInts_p (⟨a_n, fun i => intOf (a_g i)⟩ : (L.Sq Int)) (⟨b_n, fun i => intOf (b_g i)⟩ : (L.Sq Int)), r1_SameInts_r (⟨a_n, fun i => intOf (a_g i)⟩ : (L.Sq Int)) (⟨b_n, fun i => intOf (b_g i)⟩ : (L.Sq Int)))
  | _ => none
abbrev r1_SameInts_S : SE.Spec := (specO r1_SameInts_s)
def r1_SameInts_C : Cfg := { muts := [], frz := lookN [], specs := lookS [], loops := fun _ => none, iters := lookI [], rfs := lookR [], nils := lookM [] }
theorem r1_SameInts_vc (a : (L.Sq Int)) (b : (L.Sq Int)) (hp : r1_SameInts_p a b) : vc Try.prog ({ r1_SameInts_C with loops := lookL [(4, { T := Nat, keep := [0, 1], keepO := [], chg := fun i => [(5, .p (.int .i64 (i : Int)))], own := fun _ => [], inv := fun i => i ≤ a.n ∧ ∀ j, j < i → a.g j = b.g j, mu := fun i => a.n - i })], rfs := lookR [] }) (bodyOf Try.f30) (st0 Try.f30 [.p (.sl 1 a.n (fun i => [.int .i64 ((a.g i))])), .p (.sl 1 b.n (fun i => [.int .i64 ((b.g i))]))]) (retFn Try.prog Try.f30 (r1_SameInts_r a b)) :=
  @Eq.mpr _ (((!Decidable.decide ((↑a.n : Int) = (↑b.n : Int))) = Bool.true → Bool.false = L.sameI a b) ∧ ((!Decidable.decide ((↑a.n : Int) = (↑b.n : Int))) = Bool.false → (∃ (g : Nat), (0 : Int) = (↑g : Int) ∧ g ≤ a.n ∧ ∀ (j : Nat), j < g → a.g j = b.g j) ∧ ∀ (g : Nat), (g ≤ a.n ∧ ∀ (j : Nat), j < g → a.g j = b.g j) → (Decidable.decide ((↑g : Int) < (↑a.n : Int)) = Bool.true → ((0 : Int) ≤ (↑g : Int) ∧ (↑g :
 Int) < (↑a.n : Int)) ∧ ((0 : Int) ≤ (↑g : Int) ∧ (↑g : Int) < (↑b.n : Int)) ∧ ((!Decidable.decide (a.g (Int.toNat (↑g : Int)) = b.g (Int.toNat (↑g : Int)))) = Bool.true → Bool.false = L.sameI a b) ∧ ((!Decidable.decide (a.g (Int.toNat (↑g : Int)) = b.g (Int.toNat (↑g : Int)))) = Bool.false → Go.SE.InK Go.IntKind.i64 ((↑g : Int) + (1 : Int)) ∧ ∃ (g' : Nat), (↑g : Int) + (1 : Int) = (↑g' : Int) ∧
 (a.n = a.n ∧ ∀ (i : Nat), i < a.n → [Go.SE.SV.int Go.IntKind.i64 (a.g i)] = [Go.SE.SV.int Go.IntKind.i64 (a.g i)]) ∧ (b.n = b.n ∧ ∀ (i : Nat), i < b.n → [Go.SE.SV.int Go.IntKind.i64 (b.g i)] = [Go.SE.SV.int Go.IntKind.i64 (b.g i)]) ∧ (g' ≤ a.n ∧ ∀ (j : Nat), j < g' → a.g j = b.g j) ∧ a.n - g' < a.n - g)) ∧ (Decidable.decide ((↑g : Int) < (↑a.n : Int)) = Bool.false → Bool.true = L.sameI a b))) (by kernel_rfl) (by
    have ha : a.n ≤ 1000000 := hp
    refine ⟨fun h => ?_, fun h => ?_⟩
    · unfold L.sameI; rw [notT h]; rfl
    have hd := notF h
    have hn := of_decide_eq_true hd
    refine ⟨⟨(0 : Nat), rfl, Nat.zero_le _, fun j hj => absurd hj (Nat.not_lt_zero _)⟩, fun g hg => ⟨fun hlt => ?_, fun hge => ?_⟩⟩
    · have hb : (g : Int) < (a.n : Int) := of_decide_eq_true hlt
      have e0 : ((g : Int)).toNat = g := by omega
      rw [e0]
      refine ⟨by omega, by omega, fun h1 => ?_, fun h1 => ?_⟩
      · unfold L.sameI; rw [hd, allB_false (i := g) (by omega) (notT h1)]; rfl
      · have h1 : a.g g = b.g g := of_decide_eq_true (notF h1)
        exact ⟨InK.of (by omega) (by omega), g + 1, by omega, ⟨rfl, fun _ _ => rfl⟩, ⟨rfl, fun _ _ => rfl⟩, ⟨by omega, fun j hj => by
          rcases Nat.lt_succ_iff_lt_or_eq.1 hj with h' | rfl
          · exact hg.2 j h'
          · exact h1⟩, by omega⟩
    · have hb : ¬ (g : Int) < (a.n : Int) := of_decide_eq_false hge
      unfold L.sameI; rw [hd, allB_iff.2 (fun i hi => decide_eq_true (hg.2 i (by omega)))]; rfl)
theorem r1_SameInts_ok : SpecOk Try.prog 30 r1_SameInts_S := fnX Try.func30 (c := bodyOf Try.f30) (by kernel_rfl) mixed (fun args p r hs hp => by
  unfold r1_SameInts_s at hs
  split at hs
  · cases hs; exact ⟨_, _, r1_SameInts_vc _ _ hp.2.2, (.p (.sl hp.1) (.p (.sl hp.2.1) .nil)), ⟨show SpecsL Try.prog _ from SpecsL.nil, rfl, ⟨show ItersL Try.prog _ from ItersL.nil, (TrsOk.none (fun _ => rfl))⟩⟩⟩
  · cases hs)
theorem r1_SameInts_en : Enters Try.prog 30 := fun args w => by kernel_rfl
theorem r1_SameInts_B : ∀ args p r, r1_SameInts_s args = some (p, r) → ∃ b, r = .bool b := by
  intro args p r h
  unfold r1_SameInts_s at h
  split at h
  · cases h; exact ⟨_, rfl⟩
  · cases h
def r3_Held_p (sw : Int) (fl : (L.Sq Int)) : Prop := fl.n ≤ 1000000
def r3_Held_r (sw : Int) (fl : (L.Sq Int)) : SV := .tup [.bool (bif L.heldBad sw fl then false else L.held sw fl), .int .i64 (bif L.heldBad sw fl then 1 else 0)]
def r3_Held_s : List EV → Option (Prop × SV)
  | [.p (.int .i64 sw), .p (.sl 1 fl_n fl_g)] => some ((∀ i, i < fl_n → fl_g i = [.int .i64 ((intOf (fl_g i)))]) ∧ r3_Held_p sw (⟨fl_n, fun i => intOf (fl_g i)⟩ : (L.Sq Int)), r3_Held_r sw (⟨fl_n, fun i => intOf (fl_g i)⟩ : (L.Sq Int)))
  | _ => none
abbrev r3_Held_S : SE.Spec := (specO r3_Held_s)
def r3_Held_C : Cfg := { muts := [], frz := lookN [], specs := lookS [(59, r3_within_S)], loops := fun _ => none, iters := lookI [], rfs := lookR [], nils := lookM [] }
theorem r3_Held_vc (sw : Int) (fl : (L.Sq Int)) (hp : r3_Held_p sw fl) : vc Try.prog ({ r3_Held_C with loops := lookL [(5, { T := Nat, keep := [0, 1], keepO := [], chg := fun i => [(6, .p (.bool (L.allB i (fun j => decide (0 - sw ≤ fl.g j))))), (7, .p (.int .i64 (i : Int)))], own := fun _ => [], inv := fun i => i ≤ fl.n ∧ ∀ j, j < i → 0 ≤ fl.g j, mu := fun i => fl.n - i })], rfs := lookR [] }) (bodyOf Try.f38) (st0 Try.f38 [.p (.int .i64 sw), .p (.sl 1 fl.n (fun i => [.int .i64 ((fl.g i))]))]) (retFn Try.prog Try.f38 (r3_Held_r sw fl)) :=
  @Eq.mpr _ (True ∧ ((bif !L.within sw (-64 : Int) (64 : Int) then Bool.true else Decidable.decide ((400 : Int) < (↑fl.n : Int))) = Bool.true → (Bool.false = bif L.heldBad sw fl then Bool.false else L.held sw fl) ∧ (1 : Int) = bif L.heldBad sw fl then (1 : Int) else (0 : Int)) ∧ ((bif !L.within sw (-64 : Int) (64 : Int) then Bool.true else Decidable.decide ((400 : Int) < (↑fl.n : Int))) = Bool.false → (∃ (g :
 Nat), (Bool.true = L.allB g fun (j : Nat) ↦ Decidable.decide ((0 : Int) - sw ≤ fl.g j)) ∧ (0 : Int) = (↑g : Int) ∧ g ≤ fl.n ∧ ∀ (j : Nat), j < g → (0 : Int) ≤ fl.g j) ∧ ∀ (g : Nat), (g ≤ fl.n ∧ ∀ (j : Nat), j < g → (0 : Int) ≤ fl.g j) → (Decidable.decide ((↑g : Int) < (↑fl.n : Int)) = Bool.true → ((0 : Int) ≤ (↑g : Int) ∧ (↑g : Int) < (↑fl.n : Int)) ∧ (Decidable.decide (fl.g (Int.toNat (↑g : Int))
 < (0 : Int)) = Bool.true → (Bool.false = bif L.heldBad sw fl then Bool.false else L.held sw fl) ∧ (1 : Int) = bif L.heldBad sw fl then (1 : Int) else (0 : Int)) ∧ (Decidable.decide (fl.g (Int.toNat (↑g : Int)) < (0 : Int)) = Bool.false → ((L.allB g fun (j : Nat) ↦ Decidable.decide ((0 : Int) - sw ≤ fl.g j)) = Bool.true → Go.SE.InK Go.IntKind.i64 ((0 : Int) - sw)) ∧ ((L.allB g fun (j : Nat) ↦
 Decidable.decide ((0 : Int) - sw ≤ fl.g j)) = Bool.true → (0 : Int) ≤ (↑g : Int) ∧ (↑g : Int) < (↑fl.n : Int)) ∧ Go.SE.InK Go.IntKind.i64 ((↑g : Int) + (1 : Int)) ∧ ∃ (g' : Nat), ((bif L.allB g fun (j : Nat) ↦ Decidable.decide ((0 : Int) - sw ≤ fl.g j) then Decidable.decide ((0 : Int) - sw ≤ fl.g (Int.toNat (↑g : Int))) else Bool.false) = L.allB g' fun (j : Nat) ↦ Decidable.decide ((0 : Int) - sw
 ≤ fl.g j)) ∧ (↑g : Int) + (1 : Int) = (↑g' : Int) ∧ sw = sw ∧ (fl.n = fl.n ∧ ∀ (i : Nat), i < fl.n → [Go.SE.SV.int Go.IntKind.i64 (fl.g i)] = [Go.SE.SV.int Go.IntKind.i64 (fl.g i)]) ∧ (g' ≤ fl.n ∧ ∀ (j : Nat), j < g' → (0 : Int) ≤ fl.g j) ∧ fl.n - g' < fl.n - g)) ∧ (Decidable.decide ((↑g : Int) < (↑fl.n : Int)) = Bool.false → ((L.allB g fun (j : Nat) ↦ Decidable.decide ((0 : Int) - sw ≤ fl.g j)) =
 bif L.heldBad sw fl then Bool.false else L.held sw fl) ∧ (0 : Int) = bif L.heldBad sw fl then (1 : Int) else (0 : Int)))) (by kernel_rfl) (by
    have hn : fl.n ≤ 1000000 := hp
    refine ⟨trivial, fun h => ?_, fun h => ?_⟩
    · have : L.heldBad sw fl = true := by
        unfold L.heldBad; rw [h]; rfl
      rw [this]; exact ⟨rfl, rfl⟩
    have hsw : -64 ≤ sw ∧ sw ≤ 64 := by
      have h := h
      rw [bor, Bool.or_eq_false_iff] at h; exact within_iff.1 (notF h.1)
    refine ⟨⟨(0 : Nat), rfl, rfl, Nat.zero_le _, fun j hj => absurd hj (Nat.not_lt_zero _)⟩, fun g hg => ⟨fun hlt => ?_, fun hge => ?_⟩⟩
    · have hb : (g : Int) < (fl.n : Int) := of_decide_eq_true hlt
      have e0 : ((g : Int)).toNat = g := by omega
      rw [e0]
      refine ⟨by omega, fun h1 => ?_, fun h1 => ?_⟩
      · have : L.heldBad sw fl = true := by
          unfold L.heldBad; rw [anyB_iff.2 ⟨g, by omega, h1⟩, bor, Bool.or_true]
        rw [this]; exact ⟨rfl, rfl⟩
      · have h1 := of_decide_eq_false h1
        refine ⟨fun _ => InK.of (by omega) (by omega), fun _ => by omega, InK.of (by omega) (by omega), g + 1, ?_, by omega, rfl, ⟨rfl, fun _ _ => rfl⟩, ⟨by omega, fun j hj => by
          rcases Nat.lt_succ_iff_lt_or_eq.1 hj with h' | rfl
          · exact hg.2 j h'
          · omega⟩, by omega⟩
        rw [band]; rfl
    · have hb : ¬ (g : Int) < (fl.n : Int) := of_decide_eq_false hge
      obtain rfl : g = fl.n := by omega
      have hbad : L.heldBad sw fl = false := by
        unfold L.heldBad
        rw [h, anyB_no (fun i hi => decide_eq_false (by have := hg.2 i hi; omega))]; rfl
      rw [hbad]; refine ⟨?_, rfl⟩
      show L.allB fl.n (fun j => decide (0 - sw ≤ fl.g j)) = L.held sw fl
      unfold L.held; rw [not_anyB]
      refine congrArg (L.allB fl.n) (funext fun i => ?_)
      by_cases q : fl.g i < 0 - sw
      · rw [decide_eq_true q, decide_eq_false (by omega)]; rfl
      · rw [decide_eq_false q, decide_eq_true (by omega)]; rfl)
theorem r3_Held_ok : SpecOk Try.prog 38 r3_Held_S := fnX Try.func38 (c := bodyOf Try.f38) (by kernel_rfl) mixed (fun args p r hs hp => by
  unfold r3_Held_s at hs
  split at hs
  · cases hs; exact ⟨_, _, r3_Held_vc _ _ hp.2, (.same _ (.p (.sl hp.1) .nil)), ⟨show SpecsL Try.prog _ from (SpecsL.cons r3_within_ok r3_within_en SpecsL.nil), rfl, ⟨show ItersL Try.prog _ from ItersL.nil, (TrsOk.none (fun _ => rfl))⟩⟩⟩
  · cases hs)
theorem r3_Held_en : Enters Try.prog 38 := fun args w => by kernel_rfl
def r3_Grey_p (f : L.Film) (c : Int) : Prop := f.grey.n ≤ 1000000
def r3_Grey_r (f : L.Film) (c : Int) : SV := .tup [.int .i64 (L.greyV f c), .int .i64 (L.greyE f c)]
def r3_Grey_s : List EV → Option (Prop × SV)
  | [.p (.agg [.int .i64 f_id, .sl 1 f_grey_n f_grey_g]), .p (.int .i64 c)] => some ((∀ i, i < f_grey_n → f_grey_g i = [.int .i64 ((intOf (f_grey_g i)))]) ∧ r3_Grey_p (⟨f_id, (⟨f_grey_n, fun i => intOf (f_grey_g i)⟩ : (L.Sq Int))⟩ : L.Film) c, r3_Grey_r (⟨f_id, (⟨f_grey_n, fun i => intOf (f_grey_g i)⟩ : (L.Sq Int))⟩ : L.Film) c)
  | _ => none
abbrev r3_Grey_S : SE.Spec := (specO r3_Grey_s)
def r3_Grey_C : Cfg := { muts := [], frz := lookN [], specs := lookS [(59, r3_within_S), (18, r3_ValidFilm_S)], loops := lookL [], iters := lookI [], rfs := lookR [], nils := lookM [] }
theorem r3_Grey_vc (f : L.Film) (c : Int) (hp : r3_Grey_p f c) : vc Try.prog (r3_Grey_C) (bodyOf Try.f34) (st0 Try.f34 [.p (.agg [.int .i64 f.id, .sl 1 f.grey.n (fun i => [.int .i64 ((f.grey.g i))])]), .p (.int .i64 c)]) (retFn Try.prog Try.f34 (r3_Grey_r f c)) :=
  @Eq.mpr _ (((∀ (i : Nat), i < f.grey.n → [Go.SE.SV.int Go.IntKind.i64 (f.grey.g i)] = [Go.SE.SV.int Go.IntKind.i64 (f.grey.g i)]) ∧ f.grey.n ≤ (1000000 : Nat)) ∧ ((!L.validFilm (L.Film.mk f.id (L.Sq.mk f.grey.n fun (i : Nat) ↦ f.grey.g i))) = Bool.true → (0 : Int) = L.greyV f c ∧ (32 : Int) = L.greyE f c) ∧ ((!L.validFilm (L.Film.mk f.id (L.Sq.mk f.grey.n fun (i : Nat) ↦ f.grey.g i))) = Bool.false → True ∧
 ((!L.within c (1 : Int) (16 : Int)) = Bool.true → (0 : Int) = L.greyV f c ∧ (1 : Int) = L.greyE f c) ∧ ((!L.within c (1 : Int) (16 : Int)) = Bool.false → (Decidable.decide ((↑f.grey.n : Int) < c) = Bool.true → (0 : Int) = L.greyV f c ∧ (3 : Int) = L.greyE f c) ∧ (Decidable.decide ((↑f.grey.n : Int) < c) = Bool.false → Go.SE.InK Go.IntKind.i64 (c - (1 : Int)) ∧ ((0 : Int) ≤ c - (1 : Int) ∧ c - (1 :
 Int) < (↑f.grey.n : Int)) ∧ f.grey.g (Int.toNat (c - (1 : Int))) = L.greyV f c ∧ (0 : Int) = L.greyE f c)))) (by kernel_rfl) (by
    have hn : f.grey.n ≤ 1000000 := hp
    refine ⟨⟨fun _ _ => rfl, hn⟩, fun h => ?_, fun h => ⟨trivial, fun h1 => ?_, fun h1 => ⟨fun h2 => ?_, fun h2 => ?_⟩⟩⟩
    · have hv : L.validFilm f = false := notT h
      have : L.greyE f c = 32 := by unfold L.greyE; rw [hv]; rfl
      unfold L.greyV; rw [this]; exact ⟨rfl, rfl⟩
    · have hv : L.validFilm f = true := notF h
      have : L.greyE f c = 1 := by unfold L.greyE; rw [hv, notT h1]; rfl
      unfold L.greyV; rw [this]; exact ⟨rfl, rfl⟩
    · have hv : L.validFilm f = true := notF h
      have h2 := of_decide_eq_true h2
      have ht := tab_no (f := f) (c := c) (by omega)
      have : L.greyE f c = 3 := by unfold L.greyE; rw [hv, notF h1, ht]; rfl
      unfold L.greyV; rw [this]; exact ⟨rfl, rfl⟩
    · have hv : L.validFilm f = true := notF h
      have h2 := of_decide_eq_false h2
      have hw := within_iff.1 (notF h1)
      have ht := tab_yes (f := f) (c := c) (by omega) (by omega)
      have h0 := (film_ok hv).2.2 (c - 1).toNat (by omega)
      have : L.greyE f c = 0 := by unfold L.greyE; rw [hv, notF h1, decide_eq_false (by omega)]; rfl
      unfold L.greyV; rw [this]
      exact ⟨InK.of (by omega) (by omega), by omega, ht.symm, rfl⟩)
theorem r3_Grey_ok : SpecOk Try.prog 34 r3_Grey_S := fnX Try.func34 (c := bodyOf Try.f34) (by kernel_rfl) mixed (fun args p r hs hp => by
  unfold r3_Grey_s at hs
  split at hs
  · cases hs; exact ⟨_, _, r3_Grey_vc _ _ hp.2, (.p (.agg rfl (fun i hi => by
      rcases i with _ | i
      · exact (Ext.refl _ : Ext _ _)
      rcases i with _ | i
      · exact (Ext.sl hp.1 : Ext _ _)
      exact absurd hi (by simp; try omega))) (.same _ .nil)), ⟨show SpecsL Try.prog _ from (SpecsL.cons r3_within_ok r3_within_en (SpecsL.cons r3_ValidFilm_ok r3_ValidFilm_en SpecsL.nil)), rfl, ⟨show ItersL Try.prog _ from ItersL.nil, (TrsOk.none (fun _ => rfl))⟩⟩⟩
  · cases hs)
theorem r3_Grey_en : Enters Try.prog 34 := fun args w => by kernel_rfl
def g_Grey_p (f : L.Film) (c : Int) : Prop := f.grey.n ≤ 1000000
def g_Grey_r (f : L.Film) (c : Int) : SV := .tup [.int .i64 (L.greyV f c), .int .i64 (L.greyE f c)]
def g_Grey_s : List EV → Option (Prop × SV)
  | [.p (.agg [.int .i64 f_id, .sl 1 f_grey_n f_grey_g]), .p (.int .i64 c)] => some ((∀ i, i < f_grey_n → f_grey_g i = [.int .i64 ((intOf (f_grey_g i)))]) ∧ g_Grey_p (⟨f_id, (⟨f_grey_n, fun i => intOf (f_grey_g i)⟩ : (L.Sq Int))⟩ : L.Film) c, g_Grey_r (⟨f_id, (⟨f_grey_n, fun i => intOf (f_grey_g i)⟩ : (L.Sq Int))⟩ : L.Film) c)
  | _ => none
abbrev g_Grey_S : SE.Spec := (specO g_Grey_s)
def g_Grey_C : Cfg := { muts := [], frz := lookN [], specs := lookS [(52, g_within_S), (17, g_ValidFilm_S), (76, g_greys_S)], loops := lookL [], iters := lookI [], rfs := lookR [], nils := lookM [] }
theorem g_Grey_vc (f : L.Film) (c : Int) (hp : g_Grey_p f c) : vc Try.prog (g_Grey_C) (bodyOf Try.f33) (st0 Try.f33 [.p (.agg [.int .i64 f.id, .sl 1 f.grey.n (fun i => [.int .i64 ((f.grey.g i))])]), .p (.int .i64 c)]) (retFn Try.prog Try.f33 (g_Grey_r f c)) :=
  @Eq.mpr _ (((∀ (i : Nat), i < f.grey.n → [Go.SE.SV.int Go.IntKind.i64 (f.grey.g i)] = [Go.SE.SV.int Go.IntKind.i64 (f.grey.g i)]) ∧ f.grey.n ≤ (1000000 : Nat)) ∧ ((!L.validFilm (L.Film.mk f.id (L.Sq.mk f.grey.n fun (i : Nat) ↦ f.grey.g i))) = Bool.true → (0 : Int) = L.greyV f c ∧ (32 : Int) = L.greyE f c) ∧ ((!L.validFilm (L.Film.mk f.id (L.Sq.mk f.grey.n fun (i : Nat) ↦ f.grey.g i))) = Bool.false → True ∧
 ((!L.within c (1 : Int) (16 : Int)) = Bool.true → (0 : Int) = L.greyV f c ∧ (1 : Int) = L.greyE f c) ∧ ((!L.within c (1 : Int) (16 : Int)) = Bool.false → ((∀ (i : Nat), i < f.grey.n → [Go.SE.SV.int Go.IntKind.i64 (f.grey.g i)] = [Go.SE.SV.int Go.IntKind.i64 (f.grey.g i)]) ∧ f.grey.n ≤ (1000000 : Nat)) ∧ ((0 : Int) ≤ c ∧ c < (↑(17 : Nat) : Int)) ∧ (Decidable.decide ((0 : Int) ≤ Go.SE.nthI [L.tab
 (L.Film.mk f.id (L.Sq.mk f.grey.n fun (i : Nat) ↦ f.grey.g i)) (0 : Int), L.tab (L.Film.mk f.id (L.Sq.mk f.grey.n fun (i : Nat) ↦ f.grey.g i)) (1 : Int), L.tab (L.Film.mk f.id (L.Sq.mk f.grey.n fun (i : Nat) ↦ f.grey.g i)) (2 : Int), L.tab (L.Film.mk f.id (L.Sq.mk f.grey.n fun (i : Nat) ↦ f.grey.g i)) (3 : Int), L.tab (L.Film.mk f.id (L.Sq.mk f.grey.n fun (i : Nat) ↦ f.grey.g i)) (4 : Int), L.tab
 (L.Film.mk f.id (L.Sq.mk f.grey.n fun (i : Nat) ↦ f.grey.g i)) (5 : Int), L.tab (L.Film.mk f.id (L.Sq.mk f.grey.n fun (i : Nat) ↦ f.grey.g i)) (6 : Int), L.tab (L.Film.mk f.id (L.Sq.mk f.grey.n fun (i : Nat) ↦ f.grey.g i)) (7 : Int), L.tab (L.Film.mk f.id (L.Sq.mk f.grey.n fun (i : Nat) ↦ f.grey.g i)) (8 : Int), L.tab (L.Film.mk f.id (L.Sq.mk f.grey.n fun (i : Nat) ↦ f.grey.g i)) (9 : Int), L.tab
 (L.Film.mk f.id (L.Sq.mk f.grey.n fun (i : Nat) ↦ f.grey.g i)) (10 : Int), L.tab (L.Film.mk f.id (L.Sq.mk f.grey.n fun (i : Nat) ↦ f.grey.g i)) (11 : Int), L.tab (L.Film.mk f.id (L.Sq.mk f.grey.n fun (i : Nat) ↦ f.grey.g i)) (12 : Int), L.tab (L.Film.mk f.id (L.Sq.mk f.grey.n fun (i : Nat) ↦ f.grey.g i)) (13 : Int), L.tab (L.Film.mk f.id (L.Sq.mk f.grey.n fun (i : Nat) ↦ f.grey.g i)) (14 : Int),
 L.tab (L.Film.mk f.id (L.Sq.mk f.grey.n fun (i : Nat) ↦ f.grey.g i)) (15 : Int), L.tab (L.Film.mk f.id (L.Sq.mk f.grey.n fun (i : Nat) ↦ f.grey.g i)) (16 : Int)] (Int.toNat c)) = Bool.true → Go.SE.nthI [L.tab (L.Film.mk f.id (L.Sq.mk f.grey.n fun (i : Nat) ↦ f.grey.g i)) (0 : Int), L.tab (L.Film.mk f.id (L.Sq.mk f.grey.n fun (i : Nat) ↦ f.grey.g i)) (1 : Int), L.tab (L.Film.mk f.id (L.Sq.mk
 f.grey.n fun (i : Nat) ↦ f.grey.g i)) (2 : Int), L.tab (L.Film.mk f.id (L.Sq.mk f.grey.n fun (i : Nat) ↦ f.grey.g i)) (3 : Int), L.tab (L.Film.mk f.id (L.Sq.mk f.grey.n fun (i : Nat) ↦ f.grey.g i)) (4 : Int), L.tab (L.Film.mk f.id (L.Sq.mk f.grey.n fun (i : Nat) ↦ f.grey.g i)) (5 : Int), L.tab (L.Film.mk f.id (L.Sq.mk f.grey.n fun (i : Nat) ↦ f.grey.g i)) (6 : Int), L.tab (L.Film.mk f.id (L.Sq.mk
 f.grey.n fun (i : Nat) ↦ f.grey.g i)) (7 : Int), L.tab (L.Film.mk f.id (L.Sq.mk f.grey.n fun (i : Nat) ↦ f.grey.g i)) (8 : Int), L.tab (L.Film.mk f.id (L.Sq.mk f.grey.n fun (i : Nat) ↦ f.grey.g i)) (9 : Int), L.tab (L.Film.mk f.id (L.Sq.mk f.grey.n fun (i : Nat) ↦ f.grey.g i)) (10 : Int), L.tab (L.Film.mk f.id (L.Sq.mk f.grey.n fun (i : Nat) ↦ f.grey.g i)) (11 : Int), L.tab (L.Film.mk f.id
 (L.Sq.mk f.grey.n fun (i : Nat) ↦ f.grey.g i)) (12 : Int), L.tab (L.Film.mk f.id (L.Sq.mk f.grey.n fun (i : Nat) ↦ f.grey.g i)) (13 : Int), L.tab (L.Film.mk f.id (L.Sq.mk f.grey.n fun (i : Nat) ↦ f.grey.g i)) (14 : Int), L.tab (L.Film.mk f.id (L.Sq.mk f.grey.n fun (i : Nat) ↦ f.grey.g i)) (15 : Int), L.tab (L.Film.mk f.id (L.Sq.mk f.grey.n fun (i : Nat) ↦ f.grey.g i)) (16 : Int)] (Int.toNat c) =
 L.greyV f c ∧ (0 : Int) = L.greyE f c) ∧ (Decidable.decide ((0 : Int) ≤ Go.SE.nthI [L.tab (L.Film.mk f.id (L.Sq.mk f.grey.n fun (i : Nat) ↦ f.grey.g i)) (0 : Int), L.tab (L.Film.mk f.id (L.Sq.mk f.grey.n fun (i : Nat) ↦ f.grey.g i)) (1 : Int), L.tab (L.Film.mk f.id (L.Sq.mk f.grey.n fun (i : Nat) ↦ f.grey.g i)) (2 : Int), L.tab (L.Film.mk f.id (L.Sq.mk f.grey.n fun (i : Nat) ↦ f.grey.g i)) (3 :
 Int), L.tab (L.Film.mk f.id (L.Sq.mk f.grey.n fun (i : Nat) ↦ f.grey.g i)) (4 : Int), L.tab (L.Film.mk f.id (L.Sq.mk f.grey.n fun (i : Nat) ↦ f.grey.g i)) (5 : Int), L.tab (L.Film.mk f.id (L.Sq.mk f.grey.n fun (i : Nat) ↦ f.grey.g i)) (6 : Int), L.tab (L.Film.mk f.id (L.Sq.mk f.grey.n fun (i : Nat) ↦ f.grey.g i)) (7 : Int), L.tab (L.Film.mk f.id (L.Sq.mk f.grey.n fun (i : Nat) ↦ f.grey.g i)) (8 :
 Int), L.tab (L.Film.mk f.id (L.Sq.mk f.grey.n fun (i : Nat) ↦ f.grey.g i)) (9 : Int), L.tab (L.Film.mk f.id (L.Sq.mk f.grey.n fun (i : Nat) ↦ f.grey.g i)) (10 : Int), L.tab (L.Film.mk f.id (L.Sq.mk f.grey.n fun (i : Nat) ↦ f.grey.g i)) (11 : Int), L.tab (L.Film.mk f.id (L.Sq.mk f.grey.n fun (i : Nat) ↦ f.grey.g i)) (12 : Int), L.tab (L.Film.mk f.id (L.Sq.mk f.grey.n fun (i : Nat) ↦ f.grey.g i))
 (13 : Int), L.tab (L.Film.mk f.id (L.Sq.mk f.grey.n fun (i : Nat) ↦ f.grey.g i)) (14 : Int), L.tab (L.Film.mk f.id (L.Sq.mk f.grey.n fun (i : Nat) ↦ f.grey.g i)) (15 : Int), L.tab (L.Film.mk f.id (L.Sq.mk f.grey.n fun (i : Nat) ↦ f.grey.g i)) (16 : Int)] (Int.toNat c)) = Bool.false → (0 : Int) = L.greyV f c ∧ (3 : Int) = L.greyE f c)))) (by kernel_rfl) (by
    have hn : f.grey.n ≤ 1000000 := hp
    refine ⟨⟨fun _ _ => rfl, hn⟩, fun h => ?_, fun h => ⟨trivial, fun h1 => ?_, fun h1 => ?_⟩⟩
    · have hv : L.validFilm f = false := notT h
      have : L.greyE f c = 32 := by unfold L.greyE; rw [hv]; rfl
      unfold L.greyV; rw [this]; exact ⟨rfl, rfl⟩
    · have hv : L.validFilm f = true := notF h
      have : L.greyE f c = 1 := by unfold L.greyE; rw [hv, notT h1]; rfl
      unfold L.greyV; rw [this]; exact ⟨rfl, rfl⟩
    have hv : L.validFilm f = true := notF h
    have hw := within_iff.1 (notF h1)
    have ec : ((c.toNat : Nat) : Int) = c := by omega
    have e2 := nth_tab (f := f) (j := c.toNat) (by omega)
    rw [ec] at e2
    refine ⟨⟨fun _ _ => rfl, hn⟩, ⟨by omega, by show c < ((17 : Nat) : Int); omega⟩, fun h2 => ?_, fun h2 => ?_⟩
    · have h2 : decide (0 ≤ L.tab f c) = true := by rw [← e2]; exact h2
      have h2 := of_decide_eq_true h2
      have : L.greyE f c = 0 := by unfold L.greyE; rw [hv, notF h1, decide_eq_false (by omega)]; rfl
      unfold L.greyV; rw [this]
      exact ⟨e2, rfl⟩
    · have h2 : decide (0 ≤ L.tab f c) = false := by rw [← e2]; exact h2
      have h2 := of_decide_eq_false h2
      have : L.greyE f c = 3 := by unfold L.greyE; rw [hv, notF h1, decide_eq_true (by omega)]; rfl
      unfold L.greyV; rw [this]; exact ⟨rfl, rfl⟩)
theorem g_Grey_ok : SpecOk Try.prog 33 g_Grey_S := fnX Try.func33 (c := bodyOf Try.f33) (by kernel_rfl) mixed (fun args p r hs hp => by
  unfold g_Grey_s at hs
  split at hs
  · cases hs; exact ⟨_, _, g_Grey_vc _ _ hp.2, (.p (.agg rfl (fun i hi => by
      rcases i with _ | i
      · exact (Ext.refl _ : Ext _ _)
      rcases i with _ | i
      · exact (Ext.sl hp.1 : Ext _ _)
      exact absurd hi (by simp; try omega))) (.same _ .nil)), ⟨show SpecsL Try.prog _ from (SpecsL.cons g_within_ok g_within_en (SpecsL.cons g_ValidFilm_ok g_ValidFilm_en (SpecsL.cons g_greys_ok g_greys_en SpecsL.nil))), rfl, ⟨show ItersL Try.prog _ from ItersL.nil, (TrsOk.none (fun _ => rfl))⟩⟩⟩
  · cases hs)
theorem g_Grey_en : Enters Try.prog 33 := fun args w => by kernel_rfl
def r3_Colours_p (f : L.Film) (s : L.Span) : Prop := f.grey.n ≤ 1000000
def r3_Colours_r (f : L.Film) (s : L.Span) : SV := .tup [.sl 1 (bif L.validFilm f then L.cnt (L.shows f s) 17 else 0) (fun k => [.int .i64 (L.sel (L.shows f s) (fun c => (c : Int)) 17 k)]), .int .i64 (bif L.validFilm f then 0 else 32)]
def r3_Colours_s : List EV → Option (Prop × SV)
  | [.p (.agg [.int .i64 f_id, .sl 1 f_grey_n f_grey_g]), .p (.agg [.int .i64 s_lo, .int .i64 s_hi])] => some ((∀ i, i < f_grey_n → f_grey_g i = [.int .i64 ((intOf (f_grey_g i)))]) ∧ r3_Colours_p (⟨f_id, (⟨f_grey_n, fun i => intOf (f_grey_g i)⟩ : (L.Sq Int))⟩ : L.Film) (⟨s_lo, s_hi⟩ : L.Span), r3_Colours_r (⟨f_id, (⟨f_grey_n, fun i => intOf (f_grey_g i)⟩ : (L.Sq Int))⟩ : L.Film) (⟨s_lo, s_hi⟩ : L.Span))
  | _ => none
abbrev r3_Colours_S : SE.Spec := (specO r3_Colours_s)
def r3_Colours_C : Cfg := { muts := [], frz := lookN [], specs := lookS [(59, r3_within_S), (18, r3_ValidFilm_S)], loops := fun _ => none, iters := lookI [], rfs := lookR [], nils := lookM [(4, [(6, 28, 3, 1)])] }
theorem r3_Colours_vc (f : L.Film) (s : L.Span) (hp : r3_Colours_p f s) : vc Try.prog ({ r3_Colours_C with loops := lookL [(5, { T := Nat, keep := [2, 3, 6], keepO := [], chg := fun i => [(7, .p (.int .i64 (i : Int)))], own := fun i => [(28, .row 3 1 (L.cnt (L.shows f s) (i + 1)) (fun k => [.int .i64 (L.sel (L.shows f s) (fun c => (c : Int)) (i + 1) k)]))], inv := fun i => i ≤ f.grey.n, mu := fun i => f.grey.n - i })], rfs := lookR [] }) (bodyOf Try.f35) (st0 Try.f35 [.p (.agg [.int .i64 f.id, .sl 1 f.grey.n (fun i => [.int .i64 ((f.grey.g i))])]), .p (.agg [.int .i64 s.lo, .int .i64 s.hi])]) (retFn Try.prog Try.f35 (r3_Colours_r f s)) :=
  @Eq.mpr _ (((∀ (i : Nat), i < f.grey.n → [Go.SE.SV.int Go.IntKind.i64 (f.grey.g i)] = [Go.SE.SV.int Go.IntKind.i64 (f.grey.g i)]) ∧ f.grey.n ≤ (1000000 : Nat)) ∧ ((!L.validFilm (L.Film.mk f.id (L.Sq.mk f.grey.n fun (i : Nat) ↦ f.grey.g i))) = Bool.true → (bif L.validFilm f then L.cnt (L.shows f s) (17 : Nat) else (0 : Nat)) = (0 : Nat) ∧ (32 : Int) = bif L.validFilm f then (0 : Int) else (32 : Int)) ∧
 ((!L.validFilm (L.Film.mk f.id (L.Sq.mk f.grey.n fun (i : Nat) ↦ f.grey.g i))) = Bool.false → (∃ (g : Nat), (0 : Int) = (↑g : Int) ∧ (nat_lit 0 = L.cnt (L.shows f s) (g + (1 : Nat)) ∧ ∀ (i : Nat), i < nat_lit 0 → [] = [Go.SE.SV.int Go.IntKind.i64 (L.sel (L.shows f s) (fun (c : Nat) ↦ (↑c : Int)) (g + (1 : Nat)) i)]) ∧ g ≤ f.grey.n) ∧ ∀ (g : Nat), g ≤ f.grey.n → (Decidable.decide ((↑g : Int) <
 (↑f.grey.n : Int)) = Bool.true → ((0 : Int) ≤ (↑g : Int) ∧ (↑g : Int) < (↑f.grey.n : Int)) ∧ True ∧ (L.within (f.grey.g (Int.toNat (↑g : Int))) s.lo s.hi = Bool.true → Go.SE.InK Go.IntKind.i64 ((↑g : Int) + (1 : Int)) ∧ (L.cnt (L.shows f s) (g + (1 : Nat)) + nat_lit 1) * nat_lit 8 ≤ (140737488355328 : Nat) ∧ Go.SE.InK Go.IntKind.i64 ((↑g : Int) + (1 : Int)) ∧ ∃ (g' : Nat), (↑g : Int) + (1 : Int) =
 (↑g' : Int) ∧ Go.SE.SV.ref [Go.SE.SV.int Go.IntKind.i64 s.lo, Go.SE.SV.int Go.IntKind.i64 s.hi] (nat_lit 0) = Go.SE.SV.ref [Go.SE.SV.int Go.IntKind.i64 s.lo, Go.SE.SV.int Go.IntKind.i64 s.hi] (nat_lit 0) ∧ Go.SE.SV.ref [Go.SE.SV.int Go.IntKind.i64 f.id, Go.SE.SV.sl (nat_lit 1) f.grey.n fun (i : Nat) ↦ [Go.SE.SV.int Go.IntKind.i64 (f.grey.g i)]] (nat_lit 0) = Go.SE.SV.ref [Go.SE.SV.int
 Go.IntKind.i64 f.id, Go.SE.SV.sl (nat_lit 1) f.grey.n fun (i : Nat) ↦ [Go.SE.SV.int Go.IntKind.i64 (f.grey.g i)]] (nat_lit 0) ∧ (L.cnt (L.shows f s) (g + (1 : Nat)) + nat_lit 1 = L.cnt (L.shows f s) (g' + (1 : Nat)) ∧ ∀ (i : Nat), i < L.cnt (L.shows f s) (g + (1 : Nat)) + nat_lit 1 → Go.SE.appGet (L.cnt (L.shows f s) (g + (1 : Nat))) (fun (k : Nat) ↦ [Go.SE.SV.int Go.IntKind.i64 (L.sel (L.shows f
 s) (fun (c : Nat) ↦ (↑c : Int)) (g + (1 : Nat)) k)]) (fun (x : Nat) ↦ [Go.SE.SV.int Go.IntKind.i64 ((↑g : Int) + (1 : Int))]) i = [Go.SE.SV.int Go.IntKind.i64 (L.sel (L.shows f s) (fun (c : Nat) ↦ (↑c : Int)) (g' + (1 : Nat)) i)]) ∧ g' ≤ f.grey.n ∧ f.grey.n - g' < f.grey.n - g) ∧ (L.within (f.grey.g (Int.toNat (↑g : Int))) s.lo s.hi = Bool.false → Go.SE.InK Go.IntKind.i64 ((↑g : Int) + (1 : Int))
 ∧ ∃ (g' : Nat), (↑g : Int) + (1 : Int) = (↑g' : Int) ∧ Go.SE.SV.ref [Go.SE.SV.int Go.IntKind.i64 s.lo, Go.SE.SV.int Go.IntKind.i64 s.hi] (nat_lit 0) = Go.SE.SV.ref [Go.SE.SV.int Go.IntKind.i64 s.lo, Go.SE.SV.int Go.IntKind.i64 s.hi] (nat_lit 0) ∧ Go.SE.SV.ref [Go.SE.SV.int Go.IntKind.i64 f.id, Go.SE.SV.sl (nat_lit 1) f.grey.n fun (i : Nat) ↦ [Go.SE.SV.int Go.IntKind.i64 (f.grey.g i)]] (nat_lit 0)
 = Go.SE.SV.ref [Go.SE.SV.int Go.IntKind.i64 f.id, Go.SE.SV.sl (nat_lit 1) f.grey.n fun (i : Nat) ↦ [Go.SE.SV.int Go.IntKind.i64 (f.grey.g i)]] (nat_lit 0) ∧ (L.cnt (L.shows f s) (g + (1 : Nat)) = L.cnt (L.shows f s) (g' + (1 : Nat)) ∧ ∀ (i : Nat), i < L.cnt (L.shows f s) (g + (1 : Nat)) → [Go.SE.SV.int Go.IntKind.i64 (L.sel (L.shows f s) (fun (c : Nat) ↦ (↑c : Int)) (g + (1 : Nat)) i)] =
 [Go.SE.SV.int Go.IntKind.i64 (L.sel (L.shows f s) (fun (c : Nat) ↦ (↑c : Int)) (g' + (1 : Nat)) i)]) ∧ g' ≤ f.grey.n ∧ f.grey.n - g' < f.grey.n - g)) ∧ (Decidable.decide ((↑g : Int) < (↑f.grey.n : Int)) = Bool.false → ((L.cnt (L.shows f s) (g + (1 : Nat)) = bif L.validFilm f then L.cnt (L.shows f s) (17 : Nat) else (0 : Nat)) ∧ ∀ (i : Nat), i < L.cnt (L.shows f s) (g + (1 : Nat)) → [Go.SE.SV.int
 Go.IntKind.i64 (L.sel (L.shows f s) (fun (c : Nat) ↦ (↑c : Int)) (g + (1 : Nat)) i)] = [Go.SE.SV.int Go.IntKind.i64 (L.sel (L.shows f s) (fun (c : Nat) ↦ (↑c : Int)) (17 : Nat) i)]) ∧ (0 : Int) = bif L.validFilm f then (0 : Int) else (32 : Int)))) (by kernel_rfl) (by
    have hn : f.grey.n ≤ 1000000 := hp
    refine ⟨⟨fun _ _ => rfl, hn⟩, fun h => ?_, fun h => ?_⟩
    · have hv : L.validFilm f = false := notT h
      rw [hv]; exact ⟨rfl, rfl⟩
    have hv : L.validFilm f = true := notF h
    have h0 : L.shows f s 0 = false := shows_no (by omega)
    have fo := film_ok hv
    refine ⟨⟨(0 : Nat), rfl, ⟨by simp [L.cnt, h0], fun i hi => absurd hi (Nat.not_lt_zero _)⟩, Nat.zero_le _⟩, fun g hg => ⟨fun hlt => ?_, fun hge => ?_⟩⟩
    · have hb : (g : Int) < (f.grey.n : Int) := of_decide_eq_true hlt
      have hc := cnt_le (p := L.shows f s) (n := g + 1)
      have e0 : ((g : Int)).toNat = g := by omega
      rw [e0]
      have hs := shows_yes (s := s) hv (show g < f.grey.n by omega)
      refine ⟨by omega, trivial, fun h1 => ?_, fun h1 => ?_⟩
      · rw [← hs] at h1
        have c1 : L.cnt (L.shows f s) (g + 1 + 1) = L.cnt (L.shows f s) (g + 1) + 1 := by rw [L.cnt, h1]; rfl
        refine ⟨InK.of (by omega) (by omega), show (L.cnt (L.shows f s) (g + 1) + 1) * 8 ≤ 140737488355328 by omega, InK.of (by omega) (by omega), g + 1, by omega, rfl, rfl, ⟨c1.symm, fun i hi => ?_⟩, by omega, by omega⟩
        have hi : i < L.cnt (L.shows f s) (g + 1) + 1 := hi
        unfold appGet
        by_cases h' : i < L.cnt (L.shows f s) (g + 1)
        · rw [if_pos h', L.sel.eq_def (L.shows f s) _ (g + 1 + 1) i]; simp [h1, Nat.ne_of_lt h']
        · rw [if_neg h']
          have : i = L.cnt (L.shows f s) (g + 1) := by omega
          rw [L.sel.eq_def (L.shows f s) _ (g + 1 + 1) i]
          simp [h1, this]
      · rw [← hs] at h1
        have c1 : L.cnt (L.shows f s) (g + 1 + 1) = L.cnt (L.shows f s) (g + 1) := by rw [L.cnt, h1]; rfl
        refine ⟨InK.of (by omega) (by omega), g + 1, by omega, rfl, rfl, ⟨c1.symm, fun i hi => ?_⟩, by omega, by omega⟩
        rw [L.sel.eq_def (L.shows f s) _ (g + 1 + 1) i]; simp [h1]
    · have hb : ¬ (g : Int) < (f.grey.n : Int) := of_decide_eq_false hge
      obtain rfl : g = f.grey.n := by omega
      have no : ∀ j, f.grey.n + 1 ≤ j → j < 17 → L.shows f s j = false := fun j h1 _ => shows_no (by omega)
      rw [hv]
      exact ⟨⟨(cnt_past (by omega) no).symm, fun i _ => by rw [sel_past (by omega) no i]⟩, rfl⟩)
theorem r3_Colours_ok : SpecOk Try.prog 35 r3_Colours_S := fnX Try.func35 (c := bodyOf Try.f35) (by kernel_rfl) mixed (fun args p r hs hp => by
  unfold r3_Colours_s at hs
  split at hs
  · cases hs; exact ⟨_, _, r3_Colours_vc _ _ hp.2, (.p (.agg rfl (fun i hi => by
      rcases i with _ | i
      · exact (Ext.refl _ : Ext _ _)
      rcases i with _ | i
      · exact (Ext.sl hp.1 : Ext _ _)
      exact absurd hi (by simp; try omega))) (.same _ .nil)), ⟨show SpecsL Try.prog _ from (SpecsL.cons r3_within_ok r3_within_en (SpecsL.cons r3_ValidFilm_ok r3_ValidFilm_en SpecsL.nil)), rfl, ⟨show ItersL Try.prog _ from ItersL.nil, (TrsOk.none (fun _ => rfl))⟩⟩⟩
  · cases hs)
theorem r3_Colours_en : Enters Try.prog 35 := fun args w => by kernel_rfl
def r3_Greys_p (f : L.Film) (cs : (L.Sq Int)) : Prop := f.grey.n ≤ 1000000 ∧ cs.n ≤ 1000000
def r3_Greys_r (f : L.Film) (cs : (L.Sq Int)) : SV := .tup [.agg [.int .i64 (bif decide (L.gErr f cs = 0) then L.gLo f cs.g cs.n else 0), .int .i64 (bif decide (L.gErr f cs = 0) then L.gHi f cs.g cs.n else 0)], .int .i64 (L.gErr f cs)]
def r3_Greys_s : List EV → Option (Prop × SV)
  | [.p (.agg [.int .i64 f_id, .sl 1 f_grey_n f_grey_g]), .p (.sl 1 cs_n cs_g)] => some ((∀ i, i < f_grey_n → f_grey_g i = [.int .i64 ((intOf (f_grey_g i)))]) ∧ (∀ i, i < cs_n → cs_g i = [.int .i64 ((intOf (cs_g i)))]) ∧ r3_Greys_p (⟨f_id, (⟨f_grey_n, fun i => intOf (f_grey_g i)⟩ : (L.Sq Int))⟩ : L.Film) (⟨cs_n, fun i => intOf (cs_g i)⟩ : (L.Sq Int)), r3_Greys_r (⟨f_id, (⟨f_grey_n, fun i => intOf (f_grey_g i)⟩ : (L.Sq Int))⟩ : L.Film) (⟨cs_n, fun i => intOf (cs_g i)⟩ : (L.Sq Int)))
  | _ => none
abbrev r3_Greys_S : SE.Spec := (specO r3_Greys_s)
def r3_Greys_C : Cfg := { muts := [], frz := lookN [], specs := lookS [(59, r3_within_S), (18, r3_ValidFilm_S)], loops := fun _ => none, iters := lookI [], rfs := lookR [], nils := lookM [] }
theorem r3_Greys_vc (f : L.Film) (cs : (L.Sq Int)) (hp : r3_Greys_p f cs) : vc Try.prog ({ r3_Greys_C with loops := lookL [(4, { T := Nat, keep := [1, 2, 4], keepO := [4], chg := fun i => [(6, .p (.int .i64 (i : Int)))], own := fun _ => [], inv := fun i => i ≤ cs.n ∧ ∀ j, j < i → L.within (cs.g j) 1 16 = true ∧ (0 < j → cs.g (j - 1) < cs.g j), mu := fun i => cs.n - i }), (10, { T := Nat, keep := [1, 2, 4, 7], keepO := [4], chg := fun i => [(8, .p (.int .i64 (i : Int)))], own := fun i => [(7, .blk 48 [.p (.int .i64 (L.gLo f cs.g i)), .p (.int .i64 (L.gHi f cs.g i))])], inv := fun i => i ≤ cs.n ∧ ∀ j, j < i → 0 ≤ L.tab f (cs.g j), mu := fun i => cs.n - i })], rfs := lookR [] }) (bodyOf Try.f36) (st0 Try.f36 [.p (.agg [.int .i64 f.id, .sl 1 f.grey.n (fun i => [.int .i64 ((f.grey.g i))])]), .p (.sl 1 cs.n (fun i => [.int .i64 ((cs.g i))]))]) (retFn Try.prog Try.f36 (r3_Greys_r f cs)) :=
  @Eq.mpr _ (((∀ (i : Nat), i < f.grey.n → [Go.SE.SV.int Go.IntKind.i64 (f.grey.g i)] = [Go.SE.SV.int Go.IntKind.i64 (f.grey.g i)]) ∧ f.grey.n ≤ (1000000 : Nat)) ∧ ((!L.validFilm (L.Film.mk f.id (L.Sq.mk f.grey.n fun (i : Nat) ↦ f.grey.g i))) = Bool.true → Go.SE.SV.agg [Go.SE.SV.int Go.IntKind.i64 (0 : Int), Go.SE.SV.int Go.IntKind.i64 (0 : Int)] = Go.SE.SV.agg [Go.SE.SV.int Go.IntKind.i64 (bif
 Decidable.decide (L.gErr f cs = (0 : Int)) then L.gLo f cs.g cs.n else (0 : Int)), Go.SE.SV.int Go.IntKind.i64 (bif Decidable.decide (L.gErr f cs = (0 : Int)) then L.gHi f cs.g cs.n else (0 : Int))] ∧ (32 : Int) = L.gErr f cs) ∧ ((!L.validFilm (L.Film.mk f.id (L.Sq.mk f.grey.n fun (i : Nat) ↦ f.grey.g i))) = Bool.false → (∃ (g : Nat), (0 : Int) = (↑g : Int) ∧ g ≤ cs.n ∧ ∀ (j : Nat), j < g →
 L.within (cs.g j) (1 : Int) (16 : Int) = Bool.true ∧ ((0 : Nat) < j → cs.g (j - (1 : Nat)) < cs.g j)) ∧ ∀ (g : Nat), (g ≤ cs.n ∧ ∀ (j : Nat), j < g → L.within (cs.g j) (1 : Int) (16 : Int) = Bool.true ∧ ((0 : Nat) < j → cs.g (j - (1 : Nat)) < cs.g j)) → (Decidable.decide ((↑g : Int) < (↑cs.n : Int)) = Bool.true → ((0 : Int) ≤ (↑g : Int) ∧ (↑g : Int) < (↑cs.n : Int)) ∧ True ∧ ((!!L.within (cs.g
 (Int.toNat (↑g : Int))) (1 : Int) (16 : Int) && Decidable.decide ((0 : Int) < (↑g : Int))) = Bool.true → (0 : Int) ≤ (↑g : Int) ∧ (↑g : Int) < (↑cs.n : Int)) ∧ ((!!L.within (cs.g (Int.toNat (↑g : Int))) (1 : Int) (16 : Int) && Decidable.decide ((0 : Int) < (↑g : Int))) = Bool.true → Go.SE.InK Go.IntKind.i64 ((↑g : Int) - (1 : Int))) ∧ ((!!L.within (cs.g (Int.toNat (↑g : Int))) (1 : Int) (16 : Int)
 && Decidable.decide ((0 : Int) < (↑g : Int))) = Bool.true → (0 : Int) ≤ (↑g : Int) - (1 : Int) ∧ (↑g : Int) - (1 : Int) < (↑cs.n : Int)) ∧ ((bif !L.within (cs.g (Int.toNat (↑g : Int))) (1 : Int) (16 : Int) then Bool.true else bif Decidable.decide ((0 : Int) < (↑g : Int)) then Decidable.decide (cs.g (Int.toNat (↑g : Int)) ≤ cs.g (Int.toNat ((↑g : Int) - (1 : Int)))) else Bool.false) = Bool.true →
 Go.SE.SV.agg [Go.SE.SV.int Go.IntKind.i64 (0 : Int), Go.SE.SV.int Go.IntKind.i64 (0 : Int)] = Go.SE.SV.agg [Go.SE.SV.int Go.IntKind.i64 (bif Decidable.decide (L.gErr f cs = (0 : Int)) then L.gLo f cs.g cs.n else (0 : Int)), Go.SE.SV.int Go.IntKind.i64 (bif Decidable.decide (L.gErr f cs = (0 : Int)) then L.gHi f cs.g cs.n else (0 : Int))] ∧ (1 : Int) = L.gErr f cs) ∧ ((bif !L.within (cs.g
 (Int.toNat (↑g : Int))) (1 : Int) (16 : Int) then Bool.true else bif Decidable.decide ((0 : Int) < (↑g : Int)) then Decidable.decide (cs.g (Int.toNat (↑g : Int)) ≤ cs.g (Int.toNat ((↑g : Int) - (1 : Int)))) else Bool.false) = Bool.false → Go.SE.InK Go.IntKind.i64 ((↑g : Int) + (1 : Int)) ∧ ∃ (g' : Nat), (↑g : Int) + (1 : Int) = (↑g' : Int) ∧ nat_lit 0 = nat_lit 0 ∧ Go.SE.SV.ref [Go.SE.SV.int
 Go.IntKind.i64 f.id, Go.SE.SV.sl (nat_lit 1) f.grey.n fun (i : Nat) ↦ [Go.SE.SV.int Go.IntKind.i64 (f.grey.g i)]] (nat_lit 0) = Go.SE.SV.ref [Go.SE.SV.int Go.IntKind.i64 f.id, Go.SE.SV.sl (nat_lit 1) f.grey.n fun (i : Nat) ↦ [Go.SE.SV.int Go.IntKind.i64 (f.grey.g i)]] (nat_lit 0) ∧ (cs.n = cs.n ∧ ∀ (i : Nat), i < cs.n → [Go.SE.SV.int Go.IntKind.i64 (cs.g i)] = [Go.SE.SV.int Go.IntKind.i64 (cs.g
 i)]) ∧ (0 : Int) = (0 : Int) ∧ (0 : Int) = (0 : Int) ∧ (g' ≤ cs.n ∧ ∀ (j : Nat), j < g' → L.within (cs.g j) (1 : Int) (16 : Int) = Bool.true ∧ ((0 : Nat) < j → cs.g (j - (1 : Nat)) < cs.g j)) ∧ cs.n - g' < cs.n - g)) ∧ (Decidable.decide ((↑g : Int) < (↑cs.n : Int)) = Bool.false → (∃ (g : Nat), (0 : Int) = (↑g : Int) ∧ (1 : Int) = L.gLo f cs.g g ∧ (0 : Int) = L.gHi f cs.g g ∧ g ≤ cs.n ∧ ∀ (j :
 Nat), j < g → (0 : Int) ≤ L.tab f (cs.g j)) ∧ ∀ (g_1 : Nat), (g_1 ≤ cs.n ∧ ∀ (j : Nat), j < g_1 → (0 : Int) ≤ L.tab f (cs.g j)) → (Decidable.decide ((↑g_1 : Int) < (↑cs.n : Int)) = Bool.true → ((0 : Int) ≤ (↑g_1 : Int) ∧ (↑g_1 : Int) < (↑cs.n : Int)) ∧ (Decidable.decide ((↑f.grey.n : Int) < cs.g (Int.toNat (↑g_1 : Int))) = Bool.true → Go.SE.SV.agg [Go.SE.SV.int Go.IntKind.i64 (0 : Int),
 Go.SE.SV.int Go.IntKind.i64 (0 : Int)] = Go.SE.SV.agg [Go.SE.SV.int Go.IntKind.i64 (bif Decidable.decide (L.gErr f cs = (0 : Int)) then L.gLo f cs.g cs.n else (0 : Int)), Go.SE.SV.int Go.IntKind.i64 (bif Decidable.decide (L.gErr f cs = (0 : Int)) then L.gHi f cs.g cs.n else (0 : Int))] ∧ (3 : Int) = L.gErr f cs) ∧ (Decidable.decide ((↑f.grey.n : Int) < cs.g (Int.toNat (↑g_1 : Int))) = Bool.false →
 ((0 : Int) ≤ (↑g_1 : Int) ∧ (↑g_1 : Int) < (↑cs.n : Int)) ∧ Go.SE.InK Go.IntKind.i64 (cs.g (Int.toNat (↑g_1 : Int)) - (1 : Int)) ∧ ((0 : Int) ≤ cs.g (Int.toNat (↑g_1 : Int)) - (1 : Int) ∧ cs.g (Int.toNat (↑g_1 : Int)) - (1 : Int) < (↑f.grey.n : Int)) ∧ (Decidable.decide ((↑g_1 : Int) = (0 : Int)) = Bool.true → Go.SE.InK Go.IntKind.i64 ((↑g_1 : Int) + (1 : Int)) ∧ ∃ (g' : Nat), (↑g_1 : Int) + (1 :
 Int) = (↑g' : Int) ∧ nat_lit 0 = nat_lit 0 ∧ nat_lit 0 = nat_lit 0 ∧ Go.SE.SV.ref [Go.SE.SV.int Go.IntKind.i64 f.id, Go.SE.SV.sl (nat_lit 1) f.grey.n fun (i : Nat) ↦ [Go.SE.SV.int Go.IntKind.i64 (f.grey.g i)]] (nat_lit 0) = Go.SE.SV.ref [Go.SE.SV.int Go.IntKind.i64 f.id, Go.SE.SV.sl (nat_lit 1) f.grey.n fun (i : Nat) ↦ [Go.SE.SV.int Go.IntKind.i64 (f.grey.g i)]] (nat_lit 0) ∧ (cs.n = cs.n ∧ ∀ (i :
 Nat), i < cs.n → [Go.SE.SV.int Go.IntKind.i64 (cs.g i)] = [Go.SE.SV.int Go.IntKind.i64 (cs.g i)]) ∧ Min.min (f.grey.g (Int.toNat (cs.g (Int.toNat (↑g_1 : Int)) - (1 : Int)))) (f.grey.g (Int.toNat (cs.g (Int.toNat (↑g_1 : Int)) - (1 : Int)))) = L.gLo f cs.g g' ∧ Max.max (f.grey.g (Int.toNat (cs.g (Int.toNat (↑g_1 : Int)) - (1 : Int)))) (f.grey.g (Int.toNat (cs.g (Int.toNat (↑g_1 : Int)) - (1 :
 Int)))) = L.gHi f cs.g g' ∧ (0 : Int) = (0 : Int) ∧ (0 : Int) = (0 : Int) ∧ (g' ≤ cs.n ∧ ∀ (j : Nat), j < g' → (0 : Int) ≤ L.tab f (cs.g j)) ∧ cs.n - g' < cs.n - g_1) ∧ (Decidable.decide ((↑g_1 : Int) = (0 : Int)) = Bool.false → Go.SE.InK Go.IntKind.i64 ((↑g_1 : Int) + (1 : Int)) ∧ ∃ (g' : Nat), (↑g_1 : Int) + (1 : Int) = (↑g' : Int) ∧ nat_lit 0 = nat_lit 0 ∧ nat_lit 0 = nat_lit 0 ∧ Go.SE.SV.ref
 [Go.SE.SV.int Go.IntKind.i64 f.id, Go.SE.SV.sl (nat_lit 1) f.grey.n fun (i : Nat) ↦ [Go.SE.SV.int Go.IntKind.i64 (f.grey.g i)]] (nat_lit 0) = Go.SE.SV.ref [Go.SE.SV.int Go.IntKind.i64 f.id, Go.SE.SV.sl (nat_lit 1) f.grey.n fun (i : Nat) ↦ [Go.SE.SV.int Go.IntKind.i64 (f.grey.g i)]] (nat_lit 0) ∧ (cs.n = cs.n ∧ ∀ (i : Nat), i < cs.n → [Go.SE.SV.int Go.IntKind.i64 (cs.g i)] = [Go.SE.SV.int
 Go.IntKind.i64 (cs.g i)]) ∧ Min.min (L.gLo f cs.g g_1) (f.grey.g (Int.toNat (cs.g (Int.toNat (↑g_1 : Int)) - (1 : Int)))) = L.gLo f cs.g g' ∧ Max.max (L.gHi f cs.g g_1) (f.grey.g (Int.toNat (cs.g (Int.toNat (↑g_1 : Int)) - (1 : Int)))) = L.gHi f cs.g g' ∧ (0 : Int) = (0 : Int) ∧ (0 : Int) = (0 : Int) ∧ (g' ≤ cs.n ∧ ∀ (j : Nat), j < g' → (0 : Int) ≤ L.tab f (cs.g j)) ∧ cs.n - g' < cs.n - g_1))) ∧
 (Decidable.decide ((↑g_1 : Int) < (↑cs.n : Int)) = Bool.false → Go.SE.SV.agg [Go.SE.SV.int Go.IntKind.i64 (L.gLo f cs.g g_1), Go.SE.SV.int Go.IntKind.i64 (L.gHi f cs.g g_1)] = Go.SE.SV.agg [Go.SE.SV.int Go.IntKind.i64 (bif Decidable.decide (L.gErr f cs = (0 : Int)) then L.gLo f cs.g cs.n else (0 : Int)), Go.SE.SV.int Go.IntKind.i64 (bif Decidable.decide (L.gErr f cs = (0 : Int)) then L.gHi f cs.g
 cs.n else (0 : Int))] ∧ (0 : Int) = L.gErr f cs)))) (by kernel_rfl) (by
    obtain ⟨hn, hc⟩ := hp
    refine ⟨⟨fun _ _ => rfl, hn⟩, fun h => ?_, fun h => ?_⟩
    · have hv : L.validFilm f = false := notT h
      have : L.gErr f cs = 32 := by unfold L.gErr; rw [hv]; rfl
      rw [this]; exact ⟨rfl, rfl⟩
    have hv : L.validFilm f = true := notF h
    refine ⟨⟨(0 : Nat), rfl, Nat.zero_le _, fun j hj => absurd hj (Nat.not_lt_zero _)⟩, fun g hg => ⟨fun hlt => ?_, fun hge => ?_⟩⟩
    · have hb : (g : Int) < (cs.n : Int) := of_decide_eq_true hlt
      have e0 : ((g : Int)).toNat = g := by omega
      have e1 : ((g : Int) - 1).toNat = g - 1 := by omega
      rw [e0, e1]
      refine ⟨by omega, trivial, fun _ => by omega, fun _ => InK.of (by omega) (by omega), fun h1 => ?_, fun h1 => ?_, fun h1 => ?_⟩
      · rw [Bool.and_eq_true, decide_eq_true_eq] at h1; omega
      · have : L.gErr f cs = 1 := by
          unfold L.gErr
          rw [hv, show L.colsBad cs = true from ?_]; rfl
          cases hb' : L.colsBad cs with
          | true => rfl
          | false =>
            obtain ⟨q1, q2⟩ := cols_iff.1 hb' g (by omega)
            rw [q1, bor, band, Bool.or_eq_true, Bool.and_eq_true, decide_eq_true_eq, decide_eq_true_eq] at h1
            rcases h1 with h1 | h1
            · cases h1
            · have := q2 (by omega); omega
        rw [this]; exact ⟨rfl, rfl⟩
      · rw [bor, band, Bool.or_eq_false_iff, Bool.and_eq_false_iff, decide_eq_false_iff_not, decide_eq_false_iff_not] at h1
        exact ⟨InK.of (by omega) (by omega), g + 1, by omega, rfl, rfl, ⟨rfl, fun _ _ => rfl⟩, rfl, rfl, ⟨by omega, fun j hj => by
          rcases Nat.lt_succ_iff_lt_or_eq.1 hj with h' | rfl
          · exact hg.2 j h'
          · exact ⟨notF h1.1, fun _ => by have := h1.2; omega⟩⟩, by omega⟩
    have hb : ¬ (g : Int) < (cs.n : Int) := of_decide_eq_false hge
    have hcol : L.colsBad cs = false := cols_iff.2 (fun j hj => hg.2 j (by omega))
    have hin : ∀ i, i < cs.n → 1 ≤ cs.g i ∧ cs.g i ≤ 16 := fun i hi => within_iff.1 (hg.2 i (by omega)).1
    refine ⟨⟨(0 : Nat), rfl, rfl, rfl, Nat.zero_le _, fun j hj => absurd hj (Nat.not_lt_zero _)⟩, fun k hk => ⟨fun hlt2 => ?_, fun hge2 => ?_⟩⟩
    · have hb2 : (k : Int) < (cs.n : Int) := of_decide_eq_true hlt2
      have e0 : ((k : Int)).toNat = k := by omega
      obtain ⟨i1, i2⟩ := hin k (by omega)
      rw [e0]
      refine ⟨by omega, fun h1 => ?_, fun h1 => ⟨by omega, InK.of (by omega) (by omega), ?_, fun h2 => ?_, fun h2 => ?_⟩⟩
      · have h1 := of_decide_eq_true h1
        have ht := (tab_neg (c := cs.g k) hv).2 (by omega)
        have : L.gErr f cs = 3 := by
          unfold L.gErr; rw [hv, hcol, show L.gNone f cs = true from anyB_iff.2 ⟨k, by omega, decide_eq_true ht⟩]; rfl
        rw [this]; exact ⟨rfl, rfl⟩
      · have h1 := of_decide_eq_false h1
        omega
      · have h1 := of_decide_eq_false h1
        have ht := tab_yes (f := f) (c := cs.g k) (by omega) (by omega)
        have hpos := (film_ok hv).2.2 (cs.g k - 1).toNat (by omega)
        rw [← ht]
        refine ⟨InK.of (by omega) (by omega), k + 1, by omega, rfl, rfl, rfl, ⟨rfl, fun _ _ => rfl⟩, ?_, ?_, rfl, rfl, ⟨by omega, fun j hj => ?_⟩, by omega⟩
        · show _ = min (bif decide ((k : Int) = 0) then L.tab f (cs.g k) else L.gLo f cs.g k) (L.tab f (cs.g k))
          rw [h2]; rfl
        · show _ = max (bif decide ((k : Int) = 0) then L.tab f (cs.g k) else L.gHi f cs.g k) (L.tab f (cs.g k))
          rw [h2]; rfl
        · rcases Nat.lt_succ_iff_lt_or_eq.1 hj with h' | rfl
          · exact hk.2 j h'
          · omega
      · have h1 := of_decide_eq_false h1
        have ht := tab_yes (f := f) (c := cs.g k) (by omega) (by omega)
        have hpos := (film_ok hv).2.2 (cs.g k - 1).toNat (by omega)
        rw [← ht]
        refine ⟨InK.of (by omega) (by omega), k + 1, by omega, rfl, rfl, rfl, ⟨rfl, fun _ _ => rfl⟩, ?_, ?_, rfl, rfl, ⟨by omega, fun j hj => ?_⟩, by omega⟩
        · show _ = min (bif decide ((k : Int) = 0) then L.tab f (cs.g k) else L.gLo f cs.g k) (L.tab f (cs.g k))
          rw [h2]; rfl
        · show _ = max (bif decide ((k : Int) = 0) then L.tab f (cs.g k) else L.gHi f cs.g k) (L.tab f (cs.g k))
          rw [h2]; rfl
        · rcases Nat.lt_succ_iff_lt_or_eq.1 hj with h' | rfl
          · exact hk.2 j h'
          · omega
    · have hb2 : ¬ (k : Int) < (cs.n : Int) := of_decide_eq_false hge2
      obtain rfl : k = cs.n := by omega
      have hno : L.gNone f cs = false := none_iff.2 hk.2
      have : L.gErr f cs = 0 := by unfold L.gErr; rw [hv, hcol, hno]; rfl
      rw [this]; exact ⟨rfl, rfl⟩)
theorem r3_Greys_ok : SpecOk Try.prog 36 r3_Greys_S := fnX Try.func36 (c := bodyOf Try.f36) (by kernel_rfl) mixed (fun args p r hs hp => by
  unfold r3_Greys_s at hs
  split at hs
  · cases hs; exact ⟨_, _, r3_Greys_vc _ _ hp.2.2, (.p (.agg rfl (fun i hi => by
      rcases i with _ | i
      · exact (Ext.refl _ : Ext _ _)
      rcases i with _ | i
      · exact (Ext.sl hp.1 : Ext _ _)
      exact absurd hi (by simp; try omega))) (.p (.sl hp.2.1) .nil)), ⟨show SpecsL Try.prog _ from (SpecsL.cons r3_within_ok r3_within_en (SpecsL.cons r3_ValidFilm_ok r3_ValidFilm_en SpecsL.nil)), rfl, ⟨show ItersL Try.prog _ from ItersL.nil, (TrsOk.none (fun _ => rfl))⟩⟩⟩
  · cases hs)
theorem r3_Greys_en : Enters Try.prog 36 := fun args w => by kernel_rfl
def w_GlassFilms_p (f : L.Film) (c : Int) (s : L.Span) (cs : (L.Sq Int)) (sw : Int) (fl : (L.Sq Int)) : Prop := True
def w_GlassFilms_r (f : L.Film) (c : Int) (s : L.Span) (cs : (L.Sq Int)) (sw : Int) (fl : (L.Sq Int)) : SV := .bool true
def w_GlassFilms_s : List EV → Option (Prop × SV)
  | [.p (.agg [.int .i64 f_id, .sl 1 f_grey_n f_grey_g]), .p (.int .i64 c), .p (.agg [.int .i64 s_lo, .int .i64 s_hi]), .p (.sl 1 cs_n cs_g), .p (.int .i64 sw), .p (.sl 1 fl_n fl_g)] => some ((∀ i, i < f_grey_n → f_grey_g i = [.int .i64 ((intOf (f_grey_g i)))]) ∧ (∀ i, i < cs_n → cs_g i = [.int .i64 ((intOf (cs_g i)))]) ∧ (∀ i, i < fl_n → fl_g i = [.int .i64 ((intOf (fl_g i)))]) ∧ w_GlassFilms_p (⟨f_id, (⟨f_grey_n, fun i => intOf (f_grey_g i)⟩ : (L.Sq Int))⟩ : L.Film) c (⟨s_lo, s_hi⟩ : L.Span) (⟨cs_n, fun i => intOf (cs_g i)⟩ : (L.Sq Int)) sw (⟨fl_n, fun i => intOf (fl_g i)⟩ : (L.Sq Int)), w_GlassFilms_r (⟨f_id, (⟨f_grey_n, fun i => intOf (f_grey_g i)⟩ : (L.Sq Int))⟩ : L.Film) c (⟨s_lo, s_hi⟩ : L.Span) (⟨cs_n, fun i => intOf (cs_g i)⟩ : (L.Sq Int)) sw (⟨fl_n, fun i => intOf (fl_g i)⟩ : (L.Sq Int)))
  | _ => none
abbrev w_GlassFilms_S : SE.Spec := (specO w_GlassFilms_s)
def w_GlassFilms_C : Cfg := { muts := [], frz := lookN [], specs := lookS [(12, w_awake_S), (33, g_Grey_S), (34, r3_Grey_S), (31, g_Colours_S), (35, r3_Colours_S), (32, g_Greys_S), (36, r3_Greys_S), (37, g_Held_S), (38, r3_Held_S), (30, r1_SameInts_S)], loops := lookL [], iters := lookI [], rfs := lookR [], nils := lookM [] }
theorem w_GlassFilms_vc (f : L.Film) (c : Int) (s : L.Span) (cs : (L.Sq Int)) (sw : Int) (fl : (L.Sq Int)) (hp : w_GlassFilms_p f c s cs sw fl) : vc Try.prog (w_GlassFilms_C) (bodyOf Try.f8) (st0 Try.f8 [.p (.agg [.int .i64 f.id, .sl 1 f.grey.n (fun i => [.int .i64 ((f.grey.g i))])]), .p (.int .i64 c), .p (.agg [.int .i64 s.lo, .int .i64 s.hi]), .p (.sl 1 cs.n (fun i => [.int .i64 ((cs.g i))])), .p (.int .i64 sw), .p (.sl 1 fl.n (fun i => [.int .i64 ((fl.g i))]))]) (retFn Try.prog Try.f8 (w_GlassFilms_r f c s cs sw fl)) :=
  @Eq.mpr _ (True ∧ ((bif bif Decidable.decide ((100 : Int) < (↑f.grey.n : Int)) then Bool.true else Decidable.decide ((100 : Int) < (↑cs.n : Int)) then Bool.true else Decidable.decide ((500 : Int) < (↑fl.n : Int))) = Bool.true → Bool.true = Bool.true) ∧ ((bif bif Decidable.decide ((100 : Int) < (↑f.grey.n : Int)) then Bool.true else Decidable.decide ((100 : Int) < (↑cs.n : Int)) then Bool.true else
 Decidable.decide ((500 : Int) < (↑fl.n : Int))) = Bool.false → ((∀ (i : Nat), i < f.grey.n → [Go.SE.SV.int Go.IntKind.i64 (f.grey.g i)] = [Go.SE.SV.int Go.IntKind.i64 (f.grey.g i)]) ∧ f.grey.n ≤ (1000000 : Nat)) ∧ ((∀ (i : Nat), i < f.grey.n → [Go.SE.SV.int Go.IntKind.i64 (f.grey.g i)] = [Go.SE.SV.int Go.IntKind.i64 (f.grey.g i)]) ∧ f.grey.n ≤ (1000000 : Nat)) ∧ ((∀ (i : Nat), i < f.grey.n →
 [Go.SE.SV.int Go.IntKind.i64 (f.grey.g i)] = [Go.SE.SV.int Go.IntKind.i64 (f.grey.g i)]) ∧ f.grey.n ≤ (1000000 : Nat)) ∧ ((∀ (i : Nat), i < f.grey.n → [Go.SE.SV.int Go.IntKind.i64 (f.grey.g i)] = [Go.SE.SV.int Go.IntKind.i64 (f.grey.g i)]) ∧ f.grey.n ≤ (1000000 : Nat)) ∧ ((∀ (i : Nat), i < f.grey.n → [Go.SE.SV.int Go.IntKind.i64 (f.grey.g i)] = [Go.SE.SV.int Go.IntKind.i64 (f.grey.g i)]) ∧ (∀ (i :
 Nat), i < cs.n → [Go.SE.SV.int Go.IntKind.i64 (cs.g i)] = [Go.SE.SV.int Go.IntKind.i64 (cs.g i)]) ∧ f.grey.n ≤ (1000000 : Nat) ∧ cs.n ≤ (1000000 : Nat)) ∧ ((∀ (i : Nat), i < f.grey.n → [Go.SE.SV.int Go.IntKind.i64 (f.grey.g i)] = [Go.SE.SV.int Go.IntKind.i64 (f.grey.g i)]) ∧ (∀ (i : Nat), i < cs.n → [Go.SE.SV.int Go.IntKind.i64 (cs.g i)] = [Go.SE.SV.int Go.IntKind.i64 (cs.g i)]) ∧ f.grey.n ≤
 (1000000 : Nat) ∧ cs.n ≤ (1000000 : Nat)) ∧ ((∀ (i : Nat), i < fl.n → [Go.SE.SV.int Go.IntKind.i64 (fl.g i)] = [Go.SE.SV.int Go.IntKind.i64 (fl.g i)]) ∧ fl.n ≤ (1000000 : Nat)) ∧ ((∀ (i : Nat), i < fl.n → [Go.SE.SV.int Go.IntKind.i64 (fl.g i)] = [Go.SE.SV.int Go.IntKind.i64 (fl.g i)]) ∧ fl.n ≤ (1000000 : Nat)) ∧ ((bif bif bif Bool.true then Decidable.decide (L.greyV (L.Film.mk f.id (L.Sq.mk
 f.grey.n fun (i : Nat) ↦ f.grey.g i)) c = L.greyV (L.Film.mk f.id (L.Sq.mk f.grey.n fun (i : Nat) ↦ f.grey.g i)) c) else Bool.false then Decidable.decide (L.greyE (L.Film.mk f.id (L.Sq.mk f.grey.n fun (i : Nat) ↦ f.grey.g i)) c = L.greyE (L.Film.mk f.id (L.Sq.mk f.grey.n fun (i : Nat) ↦ f.grey.g i)) c) else Bool.false then Decidable.decide ((bif L.validFilm (L.Film.mk f.id (L.Sq.mk f.grey.n fun (i
 : Nat) ↦ f.grey.g i)) then (0 : Int) else (32 : Int)) = bif L.validFilm (L.Film.mk f.id (L.Sq.mk f.grey.n fun (i : Nat) ↦ f.grey.g i)) then (0 : Int) else (32 : Int)) else Bool.false) = Bool.true → (∀ (i : Nat), (i < bif L.validFilm (L.Film.mk f.id (L.Sq.mk f.grey.n fun (i : Nat) ↦ f.grey.g i)) then L.cnt (L.shows (L.Film.mk f.id (L.Sq.mk f.grey.n fun (i : Nat) ↦ f.grey.g i)) s) (17 : Nat) else (0
 : Nat)) → [Go.SE.SV.int Go.IntKind.i64 (L.sel (L.shows (L.Film.mk f.id (L.Sq.mk f.grey.n fun (i : Nat) ↦ f.grey.g i)) s) (fun (c : Nat) ↦ (↑c : Int)) (17 : Nat) i)] = [Go.SE.SV.int Go.IntKind.i64 (L.sel (L.shows (L.Film.mk f.id (L.Sq.mk f.grey.n fun (i : Nat) ↦ f.grey.g i)) s) (fun (c : Nat) ↦ (↑c : Int)) (17 : Nat) i)]) ∧ (∀ (i : Nat), (i < bif L.validFilm (L.Film.mk f.id (L.Sq.mk f.grey.n fun (i
 : Nat) ↦ f.grey.g i)) then L.cnt (L.shows (L.Film.mk f.id (L.Sq.mk f.grey.n fun (i : Nat) ↦ f.grey.g i)) s) (17 : Nat) else (0 : Nat)) → [Go.SE.SV.int Go.IntKind.i64 (L.sel (L.shows (L.Film.mk f.id (L.Sq.mk f.grey.n fun (i : Nat) ↦ f.grey.g i)) s) (fun (c : Nat) ↦ (↑c : Int)) (17 : Nat) i)] = [Go.SE.SV.int Go.IntKind.i64 (L.sel (L.shows (L.Film.mk f.id (L.Sq.mk f.grey.n fun (i : Nat) ↦ f.grey.g
 i)) s) (fun (c : Nat) ↦ (↑c : Int)) (17 : Nat) i)]) ∧ (bif L.validFilm (L.Film.mk f.id (L.Sq.mk f.grey.n fun (i : Nat) ↦ f.grey.g i)) then L.cnt (L.shows (L.Film.mk f.id (L.Sq.mk f.grey.n fun (i : Nat) ↦ f.grey.g i)) s) (17 : Nat) else (0 : Nat)) ≤ (1000000 : Nat)) ∧ (bif bif bif bif bif bif bif bif Bool.true then Decidable.decide (L.greyV (L.Film.mk f.id (L.Sq.mk f.grey.n fun (i : Nat) ↦ f.grey.g
 i)) c = L.greyV (L.Film.mk f.id (L.Sq.mk f.grey.n fun (i : Nat) ↦ f.grey.g i)) c) else Bool.false then Decidable.decide (L.greyE (L.Film.mk f.id (L.Sq.mk f.grey.n fun (i : Nat) ↦ f.grey.g i)) c = L.greyE (L.Film.mk f.id (L.Sq.mk f.grey.n fun (i : Nat) ↦ f.grey.g i)) c) else Bool.false then Decidable.decide ((bif L.validFilm (L.Film.mk f.id (L.Sq.mk f.grey.n fun (i : Nat) ↦ f.grey.g i)) then (0 :
 Int) else (32 : Int)) = bif L.validFilm (L.Film.mk f.id (L.Sq.mk f.grey.n fun (i : Nat) ↦ f.grey.g i)) then (0 : Int) else (32 : Int)) else Bool.false then L.sameI (L.Sq.mk (bif L.validFilm (L.Film.mk f.id (L.Sq.mk f.grey.n fun (i : Nat) ↦ f.grey.g i)) then L.cnt (L.shows (L.Film.mk f.id (L.Sq.mk f.grey.n fun (i : Nat) ↦ f.grey.g i)) s) (17 : Nat) else (0 : Nat)) fun (i : Nat) ↦ L.sel (L.shows
 (L.Film.mk f.id (L.Sq.mk f.grey.n fun (i : Nat) ↦ f.grey.g i)) s) (fun (c : Nat) ↦ (↑c : Int)) (17 : Nat) i) (L.Sq.mk (bif L.validFilm (L.Film.mk f.id (L.Sq.mk f.grey.n fun (i : Nat) ↦ f.grey.g i)) then L.cnt (L.shows (L.Film.mk f.id (L.Sq.mk f.grey.n fun (i : Nat) ↦ f.grey.g i)) s) (17 : Nat) else (0 : Nat)) fun (i : Nat) ↦ L.sel (L.shows (L.Film.mk f.id (L.Sq.mk f.grey.n fun (i : Nat) ↦ f.grey.g
 i)) s) (fun (c : Nat) ↦ (↑c : Int)) (17 : Nat) i) else Bool.false then Decidable.decide ((bif Decidable.decide (L.gErr (L.Film.mk f.id (L.Sq.mk f.grey.n fun (i : Nat) ↦ f.grey.g i)) (L.Sq.mk cs.n fun (i : Nat) ↦ cs.g i) = (0 : Int)) then L.gLo (L.Film.mk f.id (L.Sq.mk f.grey.n fun (i : Nat) ↦ f.grey.g i)) (fun (i : Nat) ↦ cs.g i) cs.n else (0 : Int)) = bif Decidable.decide (L.gErr (L.Film.mk f.id
 (L.Sq.mk f.grey.n fun (i : Nat) ↦ f.grey.g i)) (L.Sq.mk cs.n fun (i : Nat) ↦ cs.g i) = (0 : Int)) then L.gLo (L.Film.mk f.id (L.Sq.mk f.grey.n fun (i : Nat) ↦ f.grey.g i)) (fun (i : Nat) ↦ cs.g i) cs.n else (0 : Int)) && Decidable.decide ((bif Decidable.decide (L.gErr (L.Film.mk f.id (L.Sq.mk f.grey.n fun (i : Nat) ↦ f.grey.g i)) (L.Sq.mk cs.n fun (i : Nat) ↦ cs.g i) = (0 : Int)) then L.gHi
 (L.Film.mk f.id (L.Sq.mk f.grey.n fun (i : Nat) ↦ f.grey.g i)) (fun (i : Nat) ↦ cs.g i) cs.n else (0 : Int)) = bif Decidable.decide (L.gErr (L.Film.mk f.id (L.Sq.mk f.grey.n fun (i : Nat) ↦ f.grey.g i)) (L.Sq.mk cs.n fun (i : Nat) ↦ cs.g i) = (0 : Int)) then L.gHi (L.Film.mk f.id (L.Sq.mk f.grey.n fun (i : Nat) ↦ f.grey.g i)) (fun (i : Nat) ↦ cs.g i) cs.n else (0 : Int)) else Bool.false then
 Decidable.decide (L.gErr (L.Film.mk f.id (L.Sq.mk f.grey.n fun (i : Nat) ↦ f.grey.g i)) (L.Sq.mk cs.n fun (i : Nat) ↦ cs.g i) = L.gErr (L.Film.mk f.id (L.Sq.mk f.grey.n fun (i : Nat) ↦ f.grey.g i)) (L.Sq.mk cs.n fun (i : Nat) ↦ cs.g i)) else Bool.false then (bif L.heldBad sw (L.Sq.mk fl.n fun (i : Nat) ↦ fl.g i) then Bool.false else L.held sw (L.Sq.mk fl.n fun (i : Nat) ↦ fl.g i)) == bif L.heldBad
 sw (L.Sq.mk fl.n fun (i : Nat) ↦ fl.g i) then Bool.false else L.held sw (L.Sq.mk fl.n fun (i : Nat) ↦ fl.g i) else Bool.false then Decidable.decide ((bif L.heldBad sw (L.Sq.mk fl.n fun (i : Nat) ↦ fl.g i) then (1 : Int) else (0 : Int)) = bif L.heldBad sw (L.Sq.mk fl.n fun (i : Nat) ↦ fl.g i) then (1 : Int) else (0 : Int)) else Bool.false) = Bool.true)) (by kernel_rfl) (by
    refine ⟨trivial, fun _ => rfl, fun h => ?_⟩
    have hs : f.grey.n ≤ 100 ∧ cs.n ≤ 100 ∧ fl.n ≤ 500 := by
      simp only [bor, Bool.or_eq_false_iff, decide_eq_false_iff_not] at h; omega
    have hcn : (bif L.validFilm f then L.cnt (L.shows f s) 17 else 0) ≤ 17 := by
      cases L.validFilm f
      · exact Nat.zero_le _
      · exact cnt_le
    refine ⟨⟨fun _ _ => rfl, by omega⟩, ⟨fun _ _ => rfl, by omega⟩, ⟨fun _ _ => rfl, by omega⟩, ⟨fun _ _ => rfl, by omega⟩, ⟨fun _ _ => rfl, fun _ _ => rfl, by omega, by omega⟩, ⟨fun _ _ => rfl, fun _ _ => rfl, by omega, by omega⟩, ⟨fun _ _ => rfl, by omega⟩, ⟨fun _ _ => rfl, by omega⟩, fun _ => ⟨fun _ _ => rfl, fun _ _ => rfl, Nat.le_trans hcn (by decide)⟩, ?_⟩
    rw [sameI_refl]
    simp only [decide_true, beq_self_eq_true, cond_true, Bool.and_self])
theorem w_GlassFilms_ok : SpecOk Try.prog 8 w_GlassFilms_S := fnX Try.func8 (c := bodyOf Try.f8) (by kernel_rfl) mixed (fun args p r hs hp => by
  unfold w_GlassFilms_s at hs
  split at hs
  · cases hs; exact ⟨_, _, w_GlassFilms_vc _ _ _ _ _ _ hp.2.2.2, (.p (.agg rfl (fun i hi => by
      rcases i with _ | i
      · exact (Ext.refl _ : Ext _ _)
      rcases i with _ | i
      · exact (Ext.sl hp.1 : Ext _ _)
      exact absurd hi (by simp; try omega))) (.same _ (.same _ (.p (.sl hp.2.1) (.same _ (.p (.sl hp.2.2.1) .nil)))))), ⟨show SpecsL Try.prog _ from (SpecsL.cons w_awake_ok w_awake_en (SpecsL.cons g_Grey_ok g_Grey_en (SpecsL.cons r3_Grey_ok r3_Grey_en (SpecsL.cons g_Colours_ok g_Colours_en (SpecsL.cons r3_Colours_ok r3_Colours_en (SpecsL.cons g_Greys_ok g_Greys_en (SpecsL.cons r3_Greys_ok r3_Greys_en (SpecsL.cons g_Held_ok g_Held_en (SpecsL.cons r3_Held_ok r3_Held_en (SpecsL.cons r1_SameInts_ok r1_SameInts_en SpecsL.nil)))))))))), rfl, ⟨show ItersL Try.prog _ from ItersL.nil, (TrsOk.none (fun _ => rfl))⟩⟩⟩
  · cases hs)
theorem w_GlassFilms_en : Enters Try.prog 8 := fun args w => by kernel_rfl
theorem w_GlassFilms_B : ∀ args p r, w_GlassFilms_s args = some (p, r) → ∃ b, r = .bool b := by
  intro args p r h
  unfold w_GlassFilms_s at h
  split at h
  · cases h; exact ⟨_, rfl⟩
  · cases h
end Go.Proofs.Ytipaekbdalahdaa
