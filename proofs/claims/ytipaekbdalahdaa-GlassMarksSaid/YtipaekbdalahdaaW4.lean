/- A symbolic walk over the model, and what it shows of functions of the program: parts of the proof that the text of the row joins. -/
import Derived.Test.YtipaekbdalahdaaW3
import Derived.Test.YtipaekbdalahdaaE3
import Derived.KernelRfl

namespace Go.Proofs.Ytipaekbdalahdaa
open Go.SE Go.RowKit
set_option maxRecDepth 100000
set_option maxHeartbeats 4000000
set_option linter.unusedVariables false
attribute [local irreducible] Go.SE.vc

def L.sameI (a b : L.Sq Int) : Bool := bif decide ((a.n : Int) = b.n) then L.allB a.n (fun i => decide (a.g i = b.g i)) else false
def L.greyE (f : L.Film) (c : Int) : Int := bif !L.validFilm f then 32 else bif !L.within c 1 16 then 1 else bif decide (L.tab f c < 0) then 3 else 0
def L.greyV (f : L.Film) (c : Int) : Int := bif decide (L.greyE f c = 0) then L.tab f c else 0
theorem sameI_refl (a : L.Sq Int) : L.sameI a a = true := by
  unfold L.sameI
  rw [decide_eq_true rfl, allB_iff.2 (fun i _ => decide_eq_true rfl)]; rfl
theorem tab_yes {f : L.Film} {c : Int} (h1 : 1 ≤ c) (h2 : c ≤ f.grey.n) : L.tab f c = f.grey.g (c - 1).toNat := by
  unfold L.tab; rw [within_iff.2 ⟨h1, h2⟩]; rfl
theorem tab_no {f : L.Film} {c : Int} (h : ¬ (1 ≤ c ∧ c ≤ f.grey.n)) : L.tab f c = -1 := by
  unfold L.tab
  rw [show L.within c 1 f.grey.n = false from by rw [Bool.eq_false_iff, Ne, within_iff]; exact h]; rfl
theorem film_ok {f : L.Film} (hv : L.validFilm f = true) : 1 ≤ f.grey.n ∧ f.grey.n ≤ 16 ∧ ∀ i, i < f.grey.n → 0 ≤ f.grey.g i ∧ f.grey.g i ≤ 255 := by
  unfold L.validFilm at hv
  simp only [band, Bool.and_eq_true, within_iff, allB_iff] at hv
  obtain ⟨⟨_, h1⟩, h2⟩ := hv
  exact ⟨by omega, by omega, h2⟩
theorem tab_neg {f : L.Film} {c : Int} (hv : L.validFilm f = true) : L.tab f c < 0 ↔ ¬ (1 ≤ c ∧ c ≤ f.grey.n) := by
  constructor
  · rintro h ⟨h1, h2⟩
    rw [tab_yes h1 h2] at h
    have := (film_ok hv).2.2 (c - 1).toNat (by omega)
    omega
  · intro h; rw [tab_no h]; decide
theorem cnt_past {p : Nat → Bool} {n : Nat} : ∀ {m : Nat}, n ≤ m → (∀ j, n ≤ j → j < m → p j = false) → L.cnt p m = L.cnt p n
  | 0, h, _ => by obtain rfl : n = 0 := by omega
                  rfl
  | m + 1, h, hp => by
    by_cases e : n = m + 1
    · rw [e]
    · have ih := cnt_past (p := p) (n := n) (m := m) (by omega) (fun j h1 h2 => hp j h1 (by omega))
      rw [← ih]; simp [L.cnt, hp m (by omega) (by omega)]
theorem sel_past {p : Nat → Bool} {v : Nat → Int} {n : Nat} : ∀ {m : Nat}, n ≤ m → (∀ j, n ≤ j → j < m → p j = false) → ∀ k, L.sel p v m k = L.sel p v n k
  | 0, h, _, k => by obtain rfl : n = 0 := by omega
                     rfl
  | m + 1, h, hp, k => by
    by_cases e : n = m + 1
    · rw [e]
    · have ih := sel_past (p := p) (v := v) (n := n) (m := m) (by omega) (fun j h1 h2 => hp j h1 (by omega)) k
      rw [← ih]; simp [L.sel, hp m (by omega) (by omega)]
theorem shows_no {f : L.Film} {s : L.Span} {j : Nat} (h : ¬ (1 ≤ j ∧ j ≤ f.grey.n)) : L.shows f s j = false := by
  unfold L.shows
  rw [tab_no (f := f) (c := (j : Int)) (by omega)]; rfl
theorem shows_yes {f : L.Film} {s : L.Span} {j : Nat} (hv : L.validFilm f = true) (h : j < f.grey.n) : L.shows f s (j + 1) = L.within (f.grey.g j) s.lo s.hi := by
  unfold L.shows
  have e : (((j + 1 : Nat) : Int) - 1).toNat = j := by omega
  rw [tab_yes (f := f) (c := ((j + 1 : Nat) : Int)) (by omega) (by omega), e, decide_eq_true ((film_ok hv).2.2 j h).1]; rfl
def r1_SameInts_p (a : (L.Sq Int)) (b : (L.Sq Int)) : Prop := a.n ≤ 1000000
def r1_SameInts_r (a : (L.Sq Int)) (b : (L.Sq Int)) : SV := .bool (L.sameI a b)
def r1_SameInts_s : List EV → Option (Prop × SV)
  | [.p (.sl 1 a_n a_g), .p (.sl 1 b_n b_g)] => some ((∀ i, i < a_n → a_g i = [.int .i64 ((intOf (a_g i)))]) ∧ (∀ i, i < b_n → b_g i = [.int .i64 ((intOf (b_g i)))]) ∧ r1_SameInts_p (⟨a_n, fun i => intOf (a_g i)⟩ : (L.Sq Int)) (⟨b_n, fun i => intOf (b_g i)⟩ : (L.Sq Int)), r1_SameInts_r (⟨a_n, fun i => intOf (a_g i)⟩ : (L.Sq Int)) (⟨b_n, fun i => intOf (b_g i)⟩ : (L.Sq Int)))
  | _ => none
abbrev r1_SameInts_S : SE.Spec := (specO r1_SameInts_s)
def r1_SameInts_C : Cfg := { muts := [], frz := lookN [], specs := lookS [], loops := fun _ => none, iters := lookI [], rfs := lookR [], nils := lookM [] }
theorem r1_SameInts_vc (a : (L.Sq Int)) (b : (L.Sq Int)) (hp : r1_SameInts_p a b) : vc Try.prog ({ r1_SameInts_C with loops := lookL [(4, { T := Nat, keep := [0, 1], keepO := [], chg := fun i => [(5, .p (.int .i64 (i : Int)))], own := fun _ => [], inv := fun i => i ≤ a.n ∧ ∀ j, j < i → a.g j = b.g j, mu := fun i => a.n - i })], rfs := lookR [] }) (bodyOf Try.f30) (st0 Try.f30 [.p (.sl 1 a.n (fun i => [.int .i64 ((a.g i))])), .p (.sl 1 b.n (fun i => [.int .i64 ((b.g i))]))]) (retFn Try.prog Try.f30 (r1_SameInts_r a b)) :=
  @Eq.mpr _ (((!Decidable.decide ((↑a.n : Int) = (↑b.n : Int))) = Bool.true → Bool.false = L.sameI a b) ∧ ((!Decidable.decide ((↑a.n : Int) = (↑b.n : Int))) = Bool.false → (∃ (g : Nat), (0 : Int) = (↑g : Int) ∧ g ≤ a.n ∧ ∀ (j : Nat), j < g → a.g j = b.g j) ∧ ∀ (g : Nat), (g ≤ a.n ∧ ∀ (j : Nat), j < g → a.g j = b.g j) → (Decidable.decide ((↑g : Int) < (↑a.n : Int)) = Bool.true → ((0 : Int) ≤ (↑g : Int) ∧ (↑g :
 Int) < (↑a.n : Int)) ∧ ((0 : Int) ≤ (↑g : Int) ∧ (↑g : Int) < (↑b.n : Int)) ∧ ((!Decidable.decide (a.g (Int.toNat (↑g : Int)) = b.g (Int.toNat (↑g : Int)))) = Bool.true → Bool.false = L.sameI a b) ∧ ((!Decidable.decide (a.g (Int.toNat (↑g : Int)) = b.g (Int.toNat (↑g : Int)))) = Bool.false → Go.SE.InK Go.IntKind.i64 ((↑g : Int) + (1 : Int)) ∧ ∃ (g' : Nat), (↑g : Int) + (1 : Int) = (↑g' : Int) ∧
 (a.n = a.n ∧ ∀ (i : Nat), i < a.n → [Go.SE.SV.int Go.IntKind.i64 (a.g i)] = [Go.SE.SV.int Go.IntKind.i64 (a.g i)]) ∧ (b.n = b.n ∧ ∀ (i : Nat), i < b.n → [Go.SE.SV.int Go.IntKind.i64 (b.g i)] = [Go.SE.SV.int Go.IntKind.i64 (b.g i)]) ∧ (g' ≤ a.n ∧ ∀ (j : Nat), j < g' → a.g j = b.g j) ∧ a.n - g' < a.n - g)) ∧ (Decidable.decide ((↑g : Int) < (↑a.n : Int)) = Bool.false → Bool.true = L.sameI a b))) (by kernel_rfl) (by
    have ha : a.n ≤ 1000000 := hp
    refine ⟨fun h => ?_, fun h => ?_⟩
    · unfold L.sameI; rw [notT h]; rfl
    have hd := notF h
    have hn := of_decide_eq_true hd
    refine ⟨⟨(0 : Nat), rfl, Nat.zero_le _, fun j hj => absurd hj (Nat.not_lt_zero _)⟩, fun g hg => ⟨fun hlt => ?_, fun hge => ?_⟩⟩
    · have hb : (g : Int) < (a.n : Int) := of_decide_eq_true hlt
      have e0 : ((g : Int)).toNat = g := by omega
      rw [e0]
      refine ⟨by omega, by omega, fun h1 => ?_, fun h1 => ?_⟩
      · unfold L.sameI; rw [hd, allB_false (i := g) (by omega) (notT h1)]; rfl
      · have h1 : a.g g = b.g g := of_decide_eq_true (notF h1)
        exact ⟨InK.of (by omega) (by omega), g + 1, by omega, ⟨rfl, fun _ _ => rfl⟩, ⟨rfl, fun _ _ => rfl⟩, ⟨by omega, fun j hj => by
          rcases Nat.lt_succ_iff_lt_or_eq.1 hj with h' | rfl
          · exact hg.2 j h'
          · exact h1⟩, by omega⟩
    · have hb : ¬ (g : Int) < (a.n : Int) := of_decide_eq_false hge
      unfold L.sameI; rw [hd, allB_iff.2 (fun i hi => decide_eq_true (hg.2 i (by omega)))]; rfl)
theorem r1_SameInts_ok : SpecOk Try.prog 30 r1_SameInts_S := fnX Try.func30 (c := bodyOf Try.f30) (by kernel_rfl) mixed (fun args p r hs hp => by
  unfold r1_SameInts_s at hs
  split at hs
  · cases hs; exact ⟨_, _, r1_SameInts_vc _ _ hp.2.2, (.p (.sl hp.1) (.p (.sl hp.2.1) .nil)), ⟨show SpecsL Try.prog _ from SpecsL.nil, rfl, ⟨show ItersL Try.prog _ from ItersL.nil, (TrsOk.none (fun _ => rfl))⟩⟩⟩
  · cases hs)
theorem r1_SameInts_en : Enters Try.prog 30 := fun args w => by kernel_rfl
theorem r1_SameInts_B : ∀ args p r, r1_SameInts_s args = some (p, r) → ∃ b, r = .bool b := by
  intro args p r h
  unfold r1_SameInts_s at h
  split at h
  · cases h; exact ⟨_, rfl⟩
  · cases h
def r3_Held_p (sw : Int) (fl : (L.Sq Int)) : Prop := fl.n ≤ 1000000
def r3_Held_r (sw : Int) (fl : (L.Sq Int)) : SV := .tup [.bool (bif L.heldBad sw fl then false else L.held sw fl), .int .i64 (bif L.heldBad sw fl then 1 else 0)]
def r3_Held_s : List EV → Option (Prop × SV)
  | [.p (.int .i64 sw), .p (.sl 1 fl_n fl_g)] => some ((∀ i, i < fl_n → fl_g i = [.int .i64 ((intOf (fl_g i)))]) ∧ r3_Held_p sw (⟨fl_n, fun i => intOf (fl_g i)⟩ : (L.Sq Int)), r3_Held_r sw (⟨fl_n, fun i => intOf (fl_g i)⟩ : (L.Sq Int)))
  | _ => none
abbrev r3_Held_S : SE.Spec := (specO r3_Held_s)
def r3_Held_C : Cfg := { muts := [], frz := lookN [], specs := lookS [(59, r3_within_S)], loops := fun _ => none, iters := lookI [], rfs := lookR [], nils := lookM [] }
theorem r3_Held_vc (sw : Int) (fl : (L.Sq Int)) (hp : r3_Held_p sw fl) : vc Try.prog ({ r3_Held_C with loops := lookL [(5, { T := Nat, keep := [0, 1], keepO := [], chg := fun i => [(6, .p (.bool (L.allB i (fun j => decide (0 - sw ≤ fl.g j))))), (7, .p (.int .i64 (i : Int)))], own := fun _ => [], inv := fun i => i ≤ fl.n ∧ ∀ j, j < i → 0 ≤ fl.g j, mu := fun i => fl.n - i })], rfs := lookR [] }) (bodyOf Try.f38) (st0 Try.f38 [.p (.int .i64 sw), .p (.sl 1 fl.n (fun i => [.int .i64 ((fl.g i))]))]) (retFn Try.prog Try.f38 (r3_Held_r sw fl)) :=
  @Eq.mpr _ (True ∧ ((bif !L.within sw (-64 : Int) (64 : Int) then Bool.true else Decidable.decide ((400 : Int) < (↑fl.n : Int))) = Bool.true → (Bool.false = bif L.heldBad sw fl then Bool.false else L.held sw fl) ∧ (1 : Int) = bif L.heldBad sw fl then (1 : Int) else (0 : Int)) ∧ ((bif !L.within sw (-64 : Int) (64 : Int) then Bool.true else Decidable.decide ((400 : Int) < (↑fl.n : Int))) = Bool.false → (∃ (g :
 Nat), (Bool.true = L.allB g fun (j : Nat) ↦ Decidable.decide ((0 : Int) - sw ≤ fl.g j)) ∧ (0 : Int) = (↑g : Int) ∧ g ≤ fl.n ∧ ∀ (j : Nat), j < g → (0 : Int) ≤ fl.g j) ∧ ∀ (g : Nat), (g ≤ fl.n ∧ ∀ (j : Nat), j < g → (0 : Int) ≤ fl.g j) → (Decidable.decide ((↑g : Int) < (↑fl.n : Int)) = Bool.true → ((0 : Int) ≤ (↑g : Int) ∧ (↑g : Int) < (↑fl.n : Int)) ∧ (Decidable.decide (fl.g (Int.toNat (↑g : Int))
 < (0 : Int)) = Bool.true → (Bool.false = bif L.heldBad sw fl then Bool.false else L.held sw fl) ∧ (1 : Int) = bif L.heldBad sw fl then (1 : Int) else (0 : Int)) ∧ (Decidable.decide (fl.g (Int.toNat (↑g : Int)) < (0 : Int)) = Bool.false → ((L.allB g fun (j : Nat) ↦ Decidable.decide ((0 : Int) - sw ≤ fl.g j)) = Bool.true → Go.SE.InK Go.IntKind.i64 ((0 : Int) - sw)) ∧ ((L.allB g fun (j : Nat) ↦
 Decidable.decide ((0 : Int) - sw ≤ fl.g j)) = Bool.true → (0 : Int) ≤ (↑g : Int) ∧ (↑g : Int) < (↑fl.n : Int)) ∧ Go.SE.InK Go.IntKind.i64 ((↑g : Int) + (1 : Int)) ∧ ∃ (g' : Nat), ((bif L.allB g fun (j : Nat) ↦ Decidable.decide ((0 : Int) - sw ≤ fl.g j) then Decidable.decide ((0 : Int) - sw ≤ fl.g (Int.toNat (↑g : Int))) else Bool.false) = L.allB g' fun (j : Nat) ↦ Decidable.decide ((0 : Int) - sw
 ≤ fl.g j)) ∧ (↑g : Int) + (1 : Int) = (↑g' : Int) ∧ sw = sw ∧ (fl.n = fl.n ∧ ∀ (i : Nat), i < fl.n → [Go.SE.SV.int Go.IntKind.i64 (fl.g i)] = [Go.SE.SV.int Go.IntKind.i64 (fl.g i)]) ∧ (g' ≤ fl.n ∧ ∀ (j : Nat), j < g' → (0 : Int) ≤ fl.g j) ∧ fl.n - g' < fl.n - g)) ∧ (Decidable.decide ((↑g : Int) < (↑fl.n : Int)) = Bool.false → ((L.allB g fun (j : Nat) ↦ Decidable.decide ((0 : Int) - sw ≤ fl.g j)) =
 bif L.heldBad sw fl then Bool.false else L.held sw fl) ∧ (0 : Int) = bif L.heldBad sw fl then (1 : Int) else (0 : Int)))) (by kernel_rfl) (by
    have hn : fl.n ≤ 1000000 := hp
    refine ⟨trivial, fun h => ?_, fun h => ?_⟩
    · have : L.heldBad sw fl = true := by
        unfold L.heldBad; rw [h]; rfl
      rw [this]; exact ⟨rfl, rfl⟩
    have hsw : -64 ≤ sw ∧ sw ≤ 64 := by
      have h := h
      rw [bor, Bool.or_eq_false_iff] at h; exact within_iff.1 (notF h.1)
    refine ⟨⟨(0 : Nat), rfl, rfl, Nat.zero_le _, fun j hj => absurd hj (Nat.not_lt_zero _)⟩, fun g hg => ⟨fun hlt => ?_, fun hge => ?_⟩⟩
    · have hb : (g : Int) < (fl.n : Int) := of_decide_eq_true hlt
      have e0 : ((g : Int)).toNat = g := by omega
      rw [e0]
      refine ⟨by omega, fun h1 => ?_, fun h1 => ?_⟩
      · have : L.heldBad sw fl = true := by
          unfold L.heldBad; rw [anyB_iff.2 ⟨g, by omega, h1⟩, bor, Bool.or_true]
        rw [this]; exact ⟨rfl, rfl⟩
      · have h1 := of_decide_eq_false h1
        refine ⟨fun _ => InK.of (by omega) (by omega), fun _ => by omega, InK.of (by omega) (by omega), g + 1, ?_, by omega, rfl, ⟨rfl, fun _ _ => rfl⟩, ⟨by omega, fun j hj => by
          rcases Nat.lt_succ_iff_lt_or_eq.1 hj with h' | rfl
          · exact hg.2 j h'
          · omega⟩, by omega⟩
        rw [band]; rfl
    · have hb : ¬ (g : Int) < (fl.n : Int) := of_decide_eq_false hge
      obtain rfl : g = fl.n := by omega
      have hbad : L.heldBad sw fl = false := by
        unfold L.heldBad
        rw [h, anyB_no (fun i hi => decide_eq_false (by have := hg.2 i hi; omega))]; rfl
      rw [hbad]; refine ⟨?_, rfl⟩
      show L.allB fl.n (fun j => decide (0 - sw ≤ fl.g j)) = L.held sw fl
      unfold L.held; rw [not_anyB]
      refine congrArg (L.allB fl.n) (funext fun i => ?_)
      by_cases q : fl.g i < 0 - sw
      · rw [decide_eq_true q, decide_eq_false (by omega)]; rfl
      · rw [decide_eq_false q, decide_eq_true (by omega)]; rfl)
theorem r3_Held_ok : SpecOk Try.prog 38 r3_Held_S := fnX Try.func38 (c := bodyOf Try.f38) (by kernel_rfl) mixed (fun args p r hs hp => by
  unfold r3_Held_s at hs
  split at hs
  · cases hs; exact ⟨_, _, r3_Held_vc _ _ hp.2, (.same _ (.p (.sl hp.1) .nil)), ⟨show SpecsL Try.prog _ from (SpecsL.cons r3_within_ok r3_within_en SpecsL.nil), rfl, ⟨show ItersL Try.prog _ from ItersL.nil, (TrsOk.none (fun _ => rfl))⟩⟩⟩
  · cases hs)
theorem r3_Held_en : Enters Try.prog 38 := fun args w => by kernel_rfl
def r3_Grey_p (f : L.Film) (c : Int) : Prop := f.grey.n ≤ 1000000
def r3_Grey_r (f : L.Film) (c : Int) : SV := .tup [.int .i64 (L.greyV f c), .int .i64 (L.greyE f c)]
def r3_Grey_s : List EV → Option (Prop × SV)
  | [.p (.agg [.int .i64 f_id, .sl 1 f_grey_n f_grey_g]), .p (.int .i64 c)] => some ((∀ i, i < f_grey_n → f_grey_g i = [.int .i64 ((intOf (f_grey_g i)))]) ∧ r3_Grey_p (⟨f_id, (⟨f_grey_n, fun i => intOf (f_grey_g i)⟩ : (L.Sq Int))⟩ : L.Film) c, r3_Grey_r (⟨f_id, (⟨f_grey_n, fun i => intOf (f_grey_g i)⟩ : (L.Sq Int))⟩ : L.Film) c)
  | _ => none
abbrev r3_Grey_S : SE.Spec := (specO r3_Grey_s)
def r3_Grey_C : Cfg := { muts := [], frz := lookN [], specs := lookS [(59, r3_within_S), (18, r3_ValidFilm_S)], loops := lookL [], iters := lookI [], rfs := lookR [], nils := lookM [] }
theorem r3_Grey_vc (f : L.Film) (c : Int) (hp : r3_Grey_p f c) : vc Try.prog (r3_Grey_C) (bodyOf Try.f34) (st0 Try.f34 [.p (.agg [.int .i64 f.id, .sl 1 f.grey.n (fun i => [.int .i64 ((f.grey.g i))])]), .p (.int .i64 c)]) (retFn Try.prog Try.f34 (r3_Grey_r f c)) :=
  @Eq.mpr _ (((∀ (i : Nat), i < f.grey.n → [Go.SE.SV.int Go.IntKind.i64 (f.grey.g i)] = [Go.SE.SV.int Go.IntKind.i64 (f.grey.g i)]) ∧ f.grey.n ≤ (1000000 : Nat)) ∧ ((!L.validFilm (L.Film.mk f.id (L.Sq.mk f.grey.n fun (i : Nat) ↦ f.grey.g i))) = Bool.true → (0 : Int) = L.greyV f c ∧ (32 : Int) = L.greyE f c) ∧ ((!L.validFilm (L.Film.mk f.id (L.Sq.mk f.grey.n fun (i : Nat) ↦ f.grey.g i))) = Bool.false → True ∧
 ((!L.within c (1 : Int) (16 : Int)) = Bool.true → (0 : Int) = L.greyV f c ∧ (1 : Int) = L.greyE f c) ∧ ((!L.within c (1 : Int) (16 : Int)) = Bool.false → (Decidable.decide ((↑f.grey.n : Int) < c) = Bool.true → (0 : Int) = L.greyV f c ∧ (3 : Int) = L.greyE f c) ∧ (Decidable.decide ((↑f.grey.n : Int) < c) = Bool.false → Go.SE.InK Go.IntKind.i64 (c - (1 : Int)) ∧ ((0 : Int) ≤ c - (1 : Int) ∧ c - (1 :
 Int) < (↑f.grey.n : Int)) ∧ f.grey.g (Int.toNat (c - (1 : Int))) = L.greyV f c ∧ (0 : Int) = L.greyE f c)))) (by kernel_rfl) (by
    have hn : f.grey.n ≤ 1000000 := hp
    refine ⟨⟨fun _ _ => rfl, hn⟩, fun h => ?_, fun h => ⟨trivial, fun h1 => ?_, fun h1 => ⟨fun h2 => ?_, fun h2 => ?_⟩⟩⟩
    · have hv : L.validFilm f = false := notT h
      have : L.greyE f c = 32 := by unfold L.greyE; rw [hv]; rfl
      unfold L.greyV; rw [this]; exact ⟨rfl, rfl⟩
    · have hv : L.validFilm f = true := notF h
      have : L.greyE f c = 1 := by unfold L.greyE; rw [hv, notT h1]; rfl
      unfold L.greyV; rw [this]; exact ⟨rfl, rfl⟩
    · have hv : L.validFilm f = true := notF h
      have h2 := of_decide_eq_true h2
      have ht := tab_no (f := f) (c := c) (by omega)
      have : L.greyE f c = 3 := by unfold L.greyE; rw [hv, notF h1, ht]; rfl
      unfold L.greyV; rw [this]; exact ⟨rfl, rfl⟩
    · have hv : L.validFilm f = true := notF h
      have h2 := of_decide_eq_false h2
      have hw := within_iff.1 (notF h1)
      have ht := tab_yes (f := f) (c := c) (by omega) (by omega)
      have h0 := (film_ok hv).2.2 (c - 1).toNat (by omega)
      have : L.greyE f c = 0 := by unfold L.greyE; rw [hv, notF h1, decide_eq_false (by omega)]; rfl
      unfold L.greyV; rw [this]
      exact ⟨InK.of (by omega) (by omega), by omega, ht.symm, rfl⟩)
theorem r3_Grey_ok : SpecOk Try.prog 34 r3_Grey_S := fnX Try.func34 (c := bodyOf Try.f34) (by kernel_rfl) mixed (fun args p r hs hp => by
  unfold r3_Grey_s at hs
  split at hs
  · cases hs; exact ⟨_, _, r3_Grey_vc _ _ hp.2, (.p (.agg rfl (fun i hi => by
      rcases i with _ | i
      · exact (Ext.refl _ : Ext _ _)
      rcases i with _ | i
      · exact (Ext.sl hp.1 : Ext _ _)
      exact absurd hi (by simp; try omega))) (.same _ .nil)), ⟨show SpecsL Try.prog _ from (SpecsL.cons r3_within_ok r3_within_en (SpecsL.cons r3_ValidFilm_ok r3_ValidFilm_en SpecsL.nil)), rfl, ⟨show ItersL Try.prog _ from ItersL.nil, (TrsOk.none (fun _ => rfl))⟩⟩⟩
  · cases hs)
theorem r3_Grey_en : Enters Try.prog 34 := fun args w => by kernel_rfl
def g_Grey_p (f : L.Film) (c : Int) : Prop := f.grey.n ≤ 1000000
def g_Grey_r (f : L.Film) (c : Int) : SV := .tup [.int .i64 (L.greyV f c), .int .i64 (L.greyE f c)]
def g_Grey_s : List EV → Option (Prop × SV)
  | [.p (.agg [.int .i64 f_id, .sl 1 f_grey_n f_grey_g]), .p (.int .i64 c)] => some ((∀ i, i < f_grey_n → f_grey_g i = [.int .i64 ((intOf (f_grey_g i)))]) ∧ g_Grey_p (⟨f_id, (⟨f_grey_n, fun i => intOf (f_grey_g i)⟩ : (L.Sq Int))⟩ : L.Film) c, g_Grey_r (⟨f_id, (⟨f_grey_n, fun i => intOf (f_grey_g i)⟩ : (L.Sq Int))⟩ : L.Film) c)
  | _ => none
abbrev g_Grey_S : SE.Spec := (specO g_Grey_s)
def g_Grey_C : Cfg := { muts := [], frz := lookN [], specs := lookS [(52, g_within_S), (17, g_ValidFilm_S), (76, g_greys_S)], loops := lookL [], iters := lookI [], rfs := lookR [], nils := lookM [] }
theorem g_Grey_vc (f : L.Film) (c : Int) (hp : g_Grey_p f c) : vc Try.prog (g_Grey_C) (bodyOf Try.f33) (st0 Try.f33 [.p (.agg [.int .i64 f.id, .sl 1 f.grey.n (fun i => [.int .i64 ((f.grey.g i))])]), .p (.int .i64 c)]) (retFn Try.prog Try.f33 (g_Grey_r f c)) :=
  @Eq.mpr _ (((∀ (i : Nat), i < f.grey.n → [Go.SE.SV.int Go.IntKind.i64 (f.grey.g i)] = [Go.SE.SV.int Go.IntKind.i64 (f.grey.g i)]) ∧ f.grey.n ≤ (1000000 : Nat)) ∧ ((!L.validFilm (L.Film.mk f.id (L.Sq.mk f.grey.n fun (i : Nat) ↦ f.grey.g i))) = Bool.true → (0 : Int) = L.greyV f c ∧ (32 : Int) = L.greyE f c) ∧ ((!L.validFilm (L.Film.mk f.id (L.Sq.mk f.grey.n fun (i : Nat) ↦ f.grey.g i))) = Bool.false → True ∧
 ((!L.within c (1 : Int) (16 : Int)) = Bool.true → (0 : Int) = L.greyV f c ∧ (1 : Int) = L.greyE f c) ∧ ((!L.within c (1 : Int) (16 : Int)) = Bool.false → ((∀ (i : Nat), i < f.grey.n → [Go.SE.SV.int Go.IntKind.i64 (f.grey.g i)] = [Go.SE.SV.int Go.IntKind.i64 (f.grey.g i)]) ∧ f.grey.n ≤ (1000000 : Nat)) ∧ ((0 : Int) ≤ c ∧ c < (↑(17 : Nat) : Int)) ∧ (Decidable.decide ((0 : Int) ≤ Go.SE.nthI [L.tab
 (L.Film.mk f.id (L.Sq.mk f.grey.n fun (i : Nat) ↦ f.grey.g i)) (0 : Int), L.tab (L.Film.mk f.id (L.Sq.mk f.grey.n fun (i : Nat) ↦ f.grey.g i)) (1 : Int), L.tab (L.Film.mk f.id (L.Sq.mk f.grey.n fun (i : Nat) ↦ f.grey.g i)) (2 : Int), L.tab (L.Film.mk f.id (L.Sq.mk f.grey.n fun (i : Nat) ↦ f.grey.g i)) (3 : Int), L.tab (L.Film.mk f.id (L.Sq.mk f.grey.n fun (i : Nat) ↦ f.grey.g i)) (4 : Int), L.tab
 (L.Film.mk f.id (L.Sq.mk f.grey.n fun (i : Nat) ↦ f.grey.g i)) (5 : Int), L.tab (L.Film.mk f.id (L.Sq.mk f.grey.n fun (i : Nat) ↦ f.grey.g i)) (6 : Int), L.tab (L.Film.mk f.id (L.Sq.mk f.grey.n fun (i : Nat) ↦ f.grey.g i)) (7 : Int), L.tab (L.Film.mk f.id (L.Sq.mk f.grey.n fun (i : Nat) ↦ f.grey.g i)) (8 : Int), L.tab (L.Film.mk f.id (L.Sq.mk f.grey.n fun (i : Nat) ↦ f.grey.g i)) (9 : Int), L.tab
 (L.Film.mk f.id (L.Sq.mk f.grey.n fun (i : Nat) ↦ f.grey.g i)) (10 : Int), L.tab (L.Film.mk f.id (L.Sq.mk f.grey.n fun (i : Nat) ↦ f.grey.g i)) (11 : Int), L.tab (L.Film.mk f.id (L.Sq.mk f.grey.n fun (i : Nat) ↦ f.grey.g i)) (12 : Int), L.tab (L.Film.mk f.id (L.Sq.mk f.grey.n fun (i : Nat) ↦ f.grey.g i)) (13 : Int), L.tab (L.Film.mk f.id (L.Sq.mk f.grey.n fun (i : Nat) ↦ f.grey.g i)) (14 : Int),
 L.tab (L.Film.mk f.id (L.Sq.mk f.grey.n fun (i : Nat) ↦ f.grey.g i)) (15 : Int), L.tab (L.Film.mk f.id (L.Sq.mk f.grey.n fun (i : Nat) ↦ f.grey.g i)) (16 : Int)] (Int.toNat c)) = Bool.true → Go.SE.nthI [L.tab (L.Film.mk f.id (L.Sq.mk f.grey.n fun (i : Nat) ↦ f.grey.g i)) (0 : Int), L.tab (L.Film.mk f.id (L.Sq.mk f.grey.n fun (i : Nat) ↦ f.grey.g i)) (1 : Int), L.tab (L.Film.mk f.id (L.Sq.mk
 f.grey.n fun (i : Nat) ↦ f.grey.g i)) (2 : Int), L.tab (L.Film.mk f.id (L.Sq.mk f.grey.n fun (i : Nat) ↦ f.grey.g i)) (3 : Int), L.tab (L.Film.mk f.id (L.Sq.mk f.grey.n fun (i : Nat) ↦ f.grey.g i)) (4 : Int), L.tab (L.Film.mk f.id (L.Sq.mk f.grey.n fun (i : Nat) ↦ f.grey.g i)) (5 : Int), L.tab (L.Film.mk f.id (L.Sq.mk f.grey.n fun (i : Nat) ↦ f.grey.g i)) (6 : Int), L.tab (L.Film.mk f.id (L.Sq.mk
 f.grey.n fun (i : Nat) ↦ f.grey.g i)) (7 : Int), L.tab (L.Film.mk f.id (L.Sq.mk f.grey.n fun (i : Nat) ↦ f.grey.g i)) (8 : Int), L.tab (L.Film.mk f.id (L.Sq.mk f.grey.n fun (i : Nat) ↦ f.grey.g i)) (9 : Int), L.tab (L.Film.mk f.id (L.Sq.mk f.grey.n fun (i : Nat) ↦ f.grey.g i)) (10 : Int), L.tab (L.Film.mk f.id (L.Sq.mk f.grey.n fun (i : Nat) ↦ f.grey.g i)) (11 : Int), L.tab (L.Film.mk f.id
 (L.Sq.mk f.grey.n fun (i : Nat) ↦ f.grey.g i)) (12 : Int), L.tab (L.Film.mk f.id (L.Sq.mk f.grey.n fun (i : Nat) ↦ f.grey.g i)) (13 : Int), L.tab (L.Film.mk f.id (L.Sq.mk f.grey.n fun (i : Nat) ↦ f.grey.g i)) (14 : Int), L.tab (L.Film.mk f.id (L.Sq.mk f.grey.n fun (i : Nat) ↦ f.grey.g i)) (15 : Int), L.tab (L.Film.mk f.id (L.Sq.mk f.grey.n fun (i : Nat) ↦ f.grey.g i)) (16 : Int)] (Int.toNat c) =
 L.greyV f c ∧ (0 : Int) = L.greyE f c) ∧ (Decidable.decide ((0 : Int) ≤ Go.SE.nthI [L.tab (L.Film.mk f.id (L.Sq.mk f.grey.n fun (i : Nat) ↦ f.grey.g i)) (0 : Int), L.tab (L.Film.mk f.id (L.Sq.mk f.grey.n fun (i : Nat) ↦ f.grey.g i)) (1 : Int), L.tab (L.Film.mk f.id (L.Sq.mk f.grey.n fun (i : Nat) ↦ f.grey.g i)) (2 : Int), L.tab (L.Film.mk f.id (L.Sq.mk f.grey.n fun (i : Nat) ↦ f.grey.g i)) (3 :
 Int), L.tab (L.Film.mk f.id (L.Sq.mk f.grey.n fun (i : Nat) ↦ f.grey.g i)) (4 : Int), L.tab (L.Film.mk f.id (L.Sq.mk f.grey.n fun (i : Nat) ↦ f.grey.g i)) (5 : Int), L.tab (L.Film.mk f.id (L.Sq.mk f.grey.n fun (i : Nat) ↦ f.grey.g i)) (6 : Int), L.tab (L.Film.mk f.id (L.Sq.mk f.grey.n fun (i : Nat) ↦ f.grey.g i)) (7 : Int), L.tab (L.Film.mk f.id (L.Sq.mk f.grey.n fun (i : Nat) ↦ f.grey.g i)) (8 :
 Int), L.tab (L.Film.mk f.id (L.Sq.mk f.grey.n fun (i : Nat) ↦ f.grey.g i)) (9 : Int), L.tab (L.Film.mk f.id (L.Sq.mk f.grey.n fun (i : Nat) ↦ f.grey.g i)) (10 : Int), L.tab (L.Film.mk f.id (L.Sq.mk f.grey.n fun (i : Nat) ↦ f.grey.g i)) (11 : Int), L.tab (L.Film.mk f.id (L.Sq.mk f.grey.n fun (i : Nat) ↦ f.grey.g i)) (12 : Int), L.tab (L.Film.mk f.id (L.Sq.mk f.grey.n fun (i : Nat) ↦ f.grey.g i))
 (13 : Int), L.tab (L.Film.mk f.id (L.Sq.mk f.grey.n fun (i : Nat) ↦ f.grey.g i)) (14 : Int), L.tab (L.Film.mk f.id (L.Sq.mk f.grey.n fun (i : Nat) ↦ f.grey.g i)) (15 : Int), L.tab (L.Film.mk f.id (L.Sq.mk f.grey.n fun (i : Nat) ↦ f.grey.g i)) (16 : Int)] (Int.toNat c)) = Bool.false → (0 : Int) = L.greyV f c ∧ (3 : Int) = L.greyE f c)))) (by kernel_rfl) (by
    have hn : f.grey.n ≤ 1000000 := hp
    refine ⟨⟨fun _ _ => rfl, hn⟩, fun h => ?_, fun h => ⟨trivial, fun h1 => ?_, fun h1 => ?_⟩⟩
    · have hv : L.validFilm f = false := notT h
      have : L.greyE f c = 32 := by unfold L.greyE; rw [hv]; rfl
      unfold L.greyV; rw [this]; exact ⟨rfl, rfl⟩
    · have hv : L.validFilm f = true := notF h
      have : L.greyE f c = 1 := by unfold L.greyE; rw [hv, notT h1]; rfl
      unfold L.greyV; rw [this]; exact ⟨rfl, rfl⟩
    have hv : L.validFilm f = true := notF h
    have hw := within_iff.1 (notF h1)
    have ec : ((c.toNat : Nat) : Int) = c := by omega
    have e2 := nth_tab (f := f) (j := c.toNat) (by omega)
    rw [ec] at e2
    refine ⟨⟨fun _ _ => rfl, hn⟩, ⟨by omega, by show c < ((17 : Nat) : Int); omega⟩, fun h2 => ?_, fun h2 => ?_⟩
    · have h2 : decide (0 ≤ L.tab f c) = true := by rw [← e2]; exact h2
      have h2 := of_decide_eq_true h2
      have : L.greyE f c = 0 := by unfold L.greyE; rw [hv, notF h1, decide_eq_false (by omega)]; rfl
      unfold L.greyV; rw [this]
      exact ⟨e2, rfl⟩
    · have h2 : decide (0 ≤ L.tab f c) = false := by rw [← e2]; exact h2
      have h2 := of_decide_eq_false h2
      have : L.greyE f c = 3 := by unfold L.greyE; rw [hv, notF h1, decide_eq_true (by omega)]; rfl
      unfold L.greyV; rw [this]; exact ⟨rfl, rfl⟩)
theorem g_Grey_ok : SpecOk Try.prog 33 g_Grey_S := fnX Try.func33 (c := bodyOf Try.f33) (by kernel_rfl) mixed (fun args p r hs hp => by
  unfold g_Grey_s at hs
  split at hs
  · cases hs; exact ⟨_, _, g_Grey_vc _ _ hp.2, (.p (.agg rfl (fun i hi => by
      rcases i with _ | i
      · exact (Ext.refl _ : Ext _ _)
      rcases i with _ | i
      · exact (Ext.sl hp.1 : Ext _ _)
      exact absurd hi (by simp; try omega))) (.same _ .nil)), ⟨show SpecsL Try.prog _ from (SpecsL.cons g_within_ok g_within_en (SpecsL.cons g_ValidFilm_ok g_ValidFilm_en (SpecsL.cons g_greys_ok g_greys_en SpecsL.nil))), rfl, ⟨show ItersL Try.prog _ from ItersL.nil, (TrsOk.none (fun _ => rfl))⟩⟩⟩
  · cases hs)
theorem g_Grey_en : Enters Try.prog 33 := fun args w => by kernel_rfl
def r3_Colours_p (f : L.Film) (s : L.Span) : Prop := f.grey.n ≤ 1000000
def r3_Colours_r (f : L.Film) (s : L.Span) : SV := .tup [.sl 1 (bif L.validFilm f then L.cnt (L.shows f s) 17 else 0) (fun k => [.int .i64 (L.sel (L.shows f s) (fun c => (c : Int)) 17 k)]), .int .i64 (bif L.validFilm f then 0 else 32)]
def r3_Colours_s : List EV → Option (Prop × SV)
  | [.p (.agg [.int .i64 f_id, .sl 1 f_grey_n f_grey_g]), .p (.agg [.int .i64 s_lo, .int .i64 s_hi])] => some ((∀ i, i < f_grey_n → f_grey_g i = [.int .i64 ((intOf (f_grey_g i)))]) ∧ r3_Colours_p (⟨f_id, (⟨f_grey_n, fun i => intOf (f_grey_g i)⟩ : (L.Sq Int))⟩ : L.Film) (⟨s_lo, s_hi⟩ : L.Span), r3_Colours_r (⟨f_id, (⟨f_grey_n, fun i => intOf (f_grey_g i)⟩ : (L.Sq Int))⟩ : L.Film) (⟨s_lo, s_hi⟩ : L.Span))
  | _ => none
abbrev r3_Colours_S : SE.Spec := (specO r3_Colours_s)
def r3_Colours_C : Cfg := { muts := [], frz := lookN [], specs := lookS [(59, r3_within_S), (18, r3_ValidFilm_S)], loops := fun _ => none, iters := lookI [], rfs := lookR [], nils := lookM [(4, [(6, 28, 3, 1)])] }
theorem r3_Colours_vc (f : L.Film) (s : L.Span) (hp : r3_Colours_p f s) : vc Try.prog ({ r3_Colours_C with loops := lookL [(5, { T := Nat, keep := [2, 3, 6], keepO := [], chg := fun i => [(7, .p (.int .i64 (i : Int)))], own := fun i => [(28, .row 3 1 (L.cnt (L.shows f s) (i + 1)) (fun k => [.int .i64 (L.sel (L.shows f s) (fun c => (c : Int)) (i + 1) k)]))], inv := fun i => i ≤ f.grey.n, mu := fun i => f.grey.n - i })], rfs := lookR [] }) (bodyOf Try.f35) (st0 Try.f35 [.p (.agg [.int .i64 f.id, .sl 1 f.grey.n (fun i => [.int .i64 ((f.grey.g i))])]), .p (.agg [.int .i64 s.lo, .int .i64 s.hi])]) (retFn Try.prog Try.f35 (r3_Colours_r f s)) :=
  @Eq.mpr _ (((∀ (i : Nat), i < f.grey.n → [Go.SE.SV.int Go.IntKind.i64 (f.grey.g i)] = [Go.SE.SV.int Go.IntKind.i64 (f.grey.g i)]) ∧ f.grey.n ≤ (1000000 : Nat)) ∧ ((!L.validFilm (L.Film.mk f.id (L.Sq.mk f.grey.n fun (i : Nat) ↦ f.grey.g i))) = Bool.true → (bif L.validFilm f then L.cnt (L.shows f s) (17 : Nat) else (0 : Nat)) = (0 : Nat) ∧ (32 : Int) = bif L.validFilm f then (0 : Int) else (32 : Int)) ∧
 ((!L.validFilm (L.Film.mk f.id (L.Sq.mk f.grey.n fun (i : Nat) ↦ f.grey.g i))) = Bool.false → (∃ (g : Nat), (0 : Int) = (↑g : Int) ∧ (nat_lit 0 = L.cnt (L.shows f s) (g + (1 : Nat)) ∧ ∀ (i : Nat), i < nat_lit 0 → [] = [Go.SE.SV.int Go.IntKind.i64 (L.sel (L.shows f s) (fun (c : Nat) ↦ (↑c : Int)) (g + (1 : Nat)) i)]) ∧ g ≤ f.grey.n) ∧ ∀ (g : Nat), g ≤ f.grey.n → (Decidable.decide ((↑g : Int) <
 (↑f.grey.n : Int)) = Bool.true → ((0 : Int) ≤ (↑g : Int) ∧ (↑g : Int) < (↑f.grey.n : Int)) ∧ True ∧ (L.within (f.grey.g (Int.toNat (↑g : Int))) s.lo s.hi = Bool.true → Go.SE.InK Go.IntKind.i64 ((↑g : Int) + (1 : Int)) ∧ (L.cnt (L.shows f s) (g + (1 : Nat)) + nat_lit 1) * nat_lit 8 ≤ (140737488355328 : Nat) ∧ Go.SE.InK Go.IntKind.i64 ((↑g : Int) + (1 : Int)) ∧ ∃ (g' : Nat), (↑g : Int) + (1 : Int) =
 (↑g' : Int) ∧ Go.SE.SV.ref [Go.SE.SV.int Go.IntKind.i64 s.lo, Go.SE.SV.int Go.IntKind.i64 s.hi] (nat_lit 0) = Go.SE.SV.ref [Go.SE.SV.int Go.IntKind.i64 s.lo, Go.SE.SV.int Go.IntKind.i64 s.hi] (nat_lit 0) ∧ Go.SE.SV.ref [Go.SE.SV.int Go.IntKind.i64 f.id, Go.SE.SV.sl (nat_lit 1) f.grey.n fun (i : Nat) ↦ [Go.SE.SV.int Go.IntKind.i64 (f.grey.g i)]] (nat_lit 0) = Go.SE.SV.ref [Go.SE.SV.int
 Go.IntKind.i64 f.id, Go.SE.SV.sl (nat_lit 1) f.grey.n fun (i : Nat) ↦ [Go.SE.SV.int Go.IntKind.i64 (f.grey.g i)]] (nat_lit 0) ∧ (L.cnt (L.shows f s) (g + (1 : Nat)) + nat_lit 1 = L.cnt (L.shows f s) (g' + (1 : Nat)) ∧ ∀ (i : Nat), i < L.cnt (L.shows f s) (g + (1 : Nat)) + nat_lit 1 → Go.SE.appGet (L.cnt (L.shows f s) (g + (1 : Nat))) (fun (k : Nat) ↦ [Go.SE.SV.int Go.IntKind.i64 (L.sel (L.shows f
 s) (fun (c : Nat) ↦ (↑c : Int)) (g + (1 : Nat)) k)]) (fun (x : Nat) ↦ [Go.SE.SV.int Go.IntKind.i64 ((↑g : Int) + (1 : Int))]) i = [Go.SE.SV.int Go.IntKind.i64 (L.sel (L.shows f s) (fun (c : Nat) ↦ (↑c : Int)) (g' + (1 : Nat)) i)]) ∧ g' ≤ f.grey.n ∧ f.grey.n - g' < f.grey.n - g) ∧ (L.within (f.grey.g (Int.toNat (↑g : Int))) s.lo s.hi = Bool.false → Go.SE.InK Go.IntKind.i64 ((↑g : Int) + (1 : Int))
 ∧ ∃ (g' : Nat), (↑g : Int) + (1 : Int) = (↑g' : Int) ∧ Go.SE.SV.ref [Go.SE.SV.int Go.IntKind.i64 s.lo, Go.SE.SV.int Go.IntKind.i64 s.hi] (nat_lit 0) = Go.SE.SV.ref [Go.SE.SV.int Go.IntKind.i64 s.lo, Go.SE.SV.int Go.IntKind.i64 s.hi] (nat_lit 0) ∧ Go.SE.SV.ref [Go.SE.SV.int Go.IntKind.i64 f.id, Go.SE.SV.sl (nat_lit 1) f.grey.n fun (i : Nat) ↦ [Go.SE.SV.int Go.IntKind.i64 (f.grey.g i)]] (nat_lit 0)
 = Go.SE.SV.ref [Go.SE.SV.int Go.IntKind.i64 f.id, Go.SE.SV.sl (nat_lit 1) f.grey.n fun (i : Nat) ↦ [Go.SE.SV.int Go.IntKind.i64 (f.grey.g i)]] (nat_lit 0) ∧ (L.cnt (L.shows f s) (g + (1 : Nat)) = L.cnt (L.shows f s) (g' + (1 : Nat)) ∧ ∀ (i : Nat), i < L.cnt (L.shows f s) (g + (1 : Nat)) → [Go.SE.SV.int Go.IntKind.i64 (L.sel (L.shows f s) (fun (c : Nat) ↦ (↑c : Int)) (g + (1 : Nat)) i)] =
 [Go.SE.SV.int Go.IntKind.i64 (L.sel (L.shows f s) (fun (c : Nat) ↦ (↑c : Int)) (g' + (1 : Nat)) i)]) ∧ g' ≤ f.grey.n ∧ f.grey.n - g' < f.grey.n - g)) ∧ (Decidable.decide ((↑g : Int) < (↑f.grey.n : Int)) = Bool.false → ((L.cnt (L.shows f s) (g + (1 : Nat)) = bif L.validFilm f then L.cnt (L.shows f s) (17 : Nat) else (0 : Nat)) ∧ ∀ (i : Nat), i < L.cnt (L.shows f s) (g + (1 : Nat)) → [Go.SE.SV.int
 Go.IntKind.i64 (L.sel (L.shows f s) (fun (c : Nat) ↦ (↑c : Int)) (g + (1 : Nat)) i)] = [Go.SE.SV.int Go.IntKind.i64 (L.sel (L.shows f s) (fun (c : Nat) ↦ (↑c : Int)) (17 : Nat) i)]) ∧ (0 : Int) = bif L.validFilm f then (0 : Int) else (32 : Int)))) (by kernel_rfl) (by
    have hn : f.grey.n ≤ 1000000 := hp
    refine ⟨⟨fun _ _ => rfl, hn⟩, fun h => ?_, fun h => ?_⟩
    · have hv : L.validFilm f = false := notT h
      rw [hv]; exact ⟨rfl, rfl⟩
    have hv : L.validFilm f = true := notF h
    have h0 : L.shows f s 0 = false := shows_no (by omega)
    have fo := film_ok hv
    refine ⟨⟨(0 : Nat), rfl, ⟨by simp [L.cnt, h0], fun i hi => absurd hi (Nat.not_lt_zero _)⟩, Nat.zero_le _⟩, fun g hg => ⟨fun hlt => ?_, fun hge => ?_⟩⟩
    · have hb : (g : Int) < (f.grey.n : Int) := of_decide_eq_true hlt
      have hc := cnt_le (p := L.shows f s) (n := g + 1)
      have e0 : ((g : Int)).toNat = g := by omega
      rw [e0]
      have hs := shows_yes (s := s) hv (show g < f.grey.n by omega)
      refine ⟨by omega, trivial, fun h1 => ?_, fun h1 => ?_⟩
      · rw [← hs] at h1
        have c1 : L.cnt (L.shows f s) (g + 1 + 1) = L.cnt (L.shows f s) (g + 1) + 1 := by rw [L.cnt, h1]; rfl
        refine ⟨InK.of (by omega) (by omega), show (L.cnt (L.shows f s) (g + 1) + 1) * 8 ≤ 140737488355328 by omega, InK.of (by omega) (by omega), g + 1, by omega, rfl, rfl, ⟨c1.symm, fun i hi => ?_⟩, by omega, by omega⟩
        have hi : i < L.cnt (L.shows f s) (g + 1) + 1 := hi
        unfold appGet
        by_cases h' : i < L.cnt (L.shows f s) (g + 1)
        · rw [if_pos h', L.sel.eq_def (L.shows f s) _ (g + 1 + 1) i]; simp [h1, Nat.ne_of_lt h']
        · rw [if_neg h']
          have : i = L.cnt (L.shows f s) (g + 1) := by omega
          rw [L.sel.eq_def (L.shows f s) _ (g + 1 + 1) i]
          simp [h1, this]
      · rw [← hs] at h1
        have c1 : L.cnt (L.shows f s) (g + 1 + 1) = L.cnt (L.shows f s) (g + 1) := by rw [L.cnt, h1]; rfl
        refine ⟨InK.of (by omega) (by omega), g + 1, by omega, rfl, rfl, ⟨c1.symm, fun i hi => ?_⟩, by omega, by omega⟩
        rw [L.sel.eq_def (L.shows f s) _ (g + 1 + 1) i]; simp [h1]
    · have hb : ¬ (g : Int) < (f.grey.n : Int) := of_decide_eq_false hge
      obtain rfl : g = f.grey.n := by omega
      have no : ∀ j, f.grey.n + 1 ≤ j → j < 17 → L.shows f s j = false := fun j h1 _ => shows_no (by omega)
      rw [hv]
      exact ⟨⟨(cnt_past (by omega) no).symm, fun i _ => by rw [sel_past (by omega) no i]⟩, rfl⟩)
theorem r3_Colours_ok : SpecOk Try.prog 35 r3_Colours_S := fnX Try.func35 (c := bodyOf Try.f35) (by kernel_rfl) mixed (fun args p r hs hp => by
  unfold r3_Colours_s at hs
  split at hs
  · cases hs; exact ⟨_, _, r3_Colours_vc _ _ hp.2, (.p (.agg rfl (fun i hi => by
      rcases i with _ | i
      · exact (Ext.refl _ : Ext _ _)
      rcases i with _ | i
      · exact (Ext.sl hp.1 : Ext _ _)
      exact absurd hi (by simp; try omega))) (.same _ .nil)), ⟨show SpecsL Try.prog _ from (SpecsL.cons r3_within_ok r3_within_en (SpecsL.cons r3_ValidFilm_ok r3_ValidFilm_en SpecsL.nil)), rfl, ⟨show ItersL Try.prog _ from ItersL.nil, (TrsOk.none (fun _ => rfl))⟩⟩⟩
  · cases hs)
theorem r3_Colours_en : Enters Try.prog 35 := fun args w => by kernel_rfl
def r3_Greys_p (f : L.Film) (cs : (L.Sq Int)) : Prop := f.grey.n ≤ 1000000 ∧ cs.n ≤ 1000000
def r3_Greys_r (f : L.Film) (cs : (L.Sq Int)) : SV := .tup [.agg [.int .i64 (bif decide (L.gErr f cs = 0) then L.gLo f cs.g cs.n else 0), .int .i64 (bif decide (L.gErr f cs = 0) then L.gHi f cs.g cs.n else 0)], .int .i64 (L.gErr f cs)]
def r3_Greys_s : List EV → Option (Prop × SV)
  | [.p (.agg [.int .i64 f_id, .sl 1 f_grey_n f_grey_g]), .p (.sl 1 cs_n cs_g)] => some ((∀ i, i < f_grey_n → f_grey_g i = [.int .i64 ((intOf (f_grey_g i)))]) ∧ (∀ i, i < cs_n → cs_g i = [.int .i64 ((intOf (cs_g i)))]) ∧ r3_Greys_p (⟨f_id, (⟨f_grey_n, fun i => intOf (f_grey_g i)⟩ : (L.Sq Int))⟩ : L.Film) (⟨cs_n, fun i => intOf (cs_g i)⟩ : (L.Sq Int)), r3_Greys_r (⟨f_id, (⟨f_grey_n, fun i => intOf (f_grey_g i)⟩ : (L.Sq Int))⟩ : L.Film) (⟨cs_n, fun i => intOf (cs_g i)⟩ : (L.Sq Int)))
  | _ => none
abbrev r3_Greys_S : SE.Spec := (specO r3_Greys_s)
def r3_Greys_C : Cfg := { muts := [], frz := lookN [], specs := lookS [(59, r3_within_S), (18, r3_ValidFilm_S)], loops := fun _ => none, iters := lookI [], rfs := lookR [], nils := lookM [] }
theorem r3_Greys_vc (f : L.Film) (cs : (L.Sq Int)) (hp : r3_Greys_p f cs) : vc Try.prog ({ r3_Greys_C with loops := lookL [(4, { T := Nat, keep := [1, 2, 4], keepO := [4], chg := fun i => [(6, .p (.int .i64 (i : Int)))], own := fun _ => [], inv := fun i => i ≤ cs.n ∧ ∀ j, j < i → L.within (cs.g j) 1 16 = true ∧ (0 < j → cs.g (j - 1) < cs.g j), mu := fun i => cs.n - i }), (10, { T := Nat, keep := [1, 2, 4, 7], keepO := [4], chg := fun i => [(8, .p (.int .i64 (i : Int)))], own := fun i => [(7, .blk 48 [.p (.int .i64 (L.gLo f cs.g i)), .p (.int .i64 (L.gHi f cs.g i))])], inv := fun i => i ≤ cs.n ∧ ∀ j, j < i → 0 ≤ L.tab f (cs.g j), mu := fun i => cs.n - i })], rfs := lookR [] }) (bodyOf Try.f36) (st0 Try.f36 [.p (.agg [.int .i64 f.id, .sl 1 f.grey.n (fun i => [.int .i64 ((f.grey.g i))])]), .p (.sl 1 cs.n (fun i => [.int .i64 ((cs.g i))]))]) (retFn Try.prog Try.f36 (r3_Greys_r f cs)) :=
  @Eq.mpr _ (((∀ (i : Nat), i < f.grey.n → [Go.SE.SV.int Go.IntKind.i64 (f.grey.g i)] = [Go.SE.SV.int Go.IntKind.i64 (f.grey.g i)]) ∧ f.grey.n ≤ (1000000 : Nat)) ∧ ((!L.validFilm (L.Film.mk f.id (L.Sq.mk f.grey.n fun (i : Nat) ↦ f.grey.g i))) = Bool.true → Go.SE.SV.agg [Go.SE.SV.int Go.IntKind.i64 (0 : Int), Go.SE.SV.int Go.IntKind.i64 (0 : Int)] = Go.SE.SV.agg [Go.SE.SV.int Go.IntKind.i64 (bif
 Decidable.decide (L.gErr f cs = (0 : Int)) then L.gLo f cs.g cs.n else (0 : Int)), Go.SE.SV.int Go.IntKind.i64 (bif Decidable.decide (L.gErr f cs = (0 : Int)) then L.gHi f cs.g cs.n else (0 : Int))] ∧ (32 : Int) = L.gErr f cs) ∧ ((!L.validFilm (L.Film.mk f.id (L.Sq.mk f.grey.n fun (i : Nat) ↦ f.grey.g i))) = Bool.false → (∃ (g : Nat), (0 : Int) = (↑g : Int) ∧ g ≤ cs.n ∧ ∀ (j : Nat), j < g →
 L.within (cs.g j) (1 : Int) (16 : Int) = Bool.true ∧ ((0 : Nat) < j → cs.g (j - (1 : Nat)) < cs.g j)) ∧ ∀ (g : Nat), (g ≤ cs.n ∧ ∀ (j : Nat), j < g → L.within (cs.g j) (1 : Int) (16 : Int) = Bool.true ∧ ((0 : Nat) < j → cs.g (j - (1 : Nat)) < cs.g j)) → (Decidable.decide ((↑g : Int) < (↑cs.n : Int)) = Bool.true → ((0 : Int) ≤ (↑g : Int) ∧ (↑g : Int) < (↑cs.n : Int)) ∧ True ∧ ((!!L.within (cs.g
 (Int.toNat (↑g : Int))) (1 : Int) (16 : Int) && Decidable.decide ((0 : Int) < (↑g : Int))) = Bool.true → (0 : Int) ≤ (↑g : Int) ∧ (↑g : Int) < (↑cs.n : Int)) ∧ ((!!L.within (cs.g (Int.toNat (↑g : Int))) (1 : Int) (16 : Int) && Decidable.decide ((0 : Int) < (↑g : Int))) = Bool.true → Go.SE.InK Go.IntKind.i64 ((↑g : Int) - (1 : Int))) ∧ ((!!L.within (cs.g (Int.toNat (↑g : Int))) (1 : Int) (16 : Int)
 && Decidable.decide ((0 : Int) < (↑g : Int))) = Bool.true → (0 : Int) ≤ (↑g : Int) - (1 : Int) ∧ (↑g : Int) - (1 : Int) < (↑cs.n : Int)) ∧ ((bif !L.within (cs.g (Int.toNat (↑g : Int))) (1 : Int) (16 : Int) then Bool.true else bif Decidable.decide ((0 : Int) < (↑g : Int)) then Decidable.decide (cs.g (Int.toNat (↑g : Int)) ≤ cs.g (Int.toNat ((↑g : Int) - (1 : Int)))) else Bool.false) = Bool.true →
 Go.SE.SV.agg [Go.SE.SV.int Go.IntKind.i64 (0 : Int), Go.SE.SV.int Go.IntKind.i64 (0 : Int)] = Go.SE.SV.agg [Go.SE.SV.int Go.IntKind.i64 (bif Decidable.decide (L.gErr f cs = (0 : Int)) then L.gLo f cs.g cs.n else (0 : Int)), Go.SE.SV.int Go.IntKind.i64 (bif Decidable.decide (L.gErr f cs = (0 : Int)) then L.gHi f cs.g cs.n else (0 : Int))] ∧ (1 : Int) = L.gErr f cs) ∧ ((bif !L.within (cs.g
 (Int.toNat (↑g : Int))) (1 : Int) (16 : Int) then Bool.true else bif Decidable.decide ((0 : Int) < (↑g : Int)) then Decidable.decide (cs.g (Int.toNat (↑g : Int)) ≤ cs.g (Int.toNat ((↑g : Int) - (1 : Int)))) else Bool.false) = Bool.false → Go.SE.InK Go.IntKind.i64 ((↑g : Int) + (1 : Int)) ∧ ∃ (g' : Nat), (↑g : Int) + (1 : Int) = (↑g' : Int) ∧ nat_lit 0 = nat_lit 0 ∧ Go.SE.SV.ref [Go.SE.SV.int
 Go.IntKind.i64 f.id, Go.SE.SV.sl (nat_lit 1) f.grey.n fun (i : Nat) ↦ [Go.SE.SV.int Go.IntKind.i64 (f.grey.g i)]] (nat_lit 0) = Go.SE.SV.ref [Go.SE.SV.int Go.IntKind.i64 f.id, Go.SE.SV.sl (nat_lit 1) f.grey.n fun (i : Nat) ↦ [Go.SE.SV.int Go.IntKind.i64 (f.grey.g i)]] (nat_lit 0) ∧ (cs.n = cs.n ∧ ∀ (i : Nat), i < cs.n → [Go.SE.SV.int Go.IntKind.i64 (cs.g i)] = [Go.SE.SV.int Go.IntKind.i64 (cs.g
 i)]) ∧ (0 : Int) = (0 : Int) ∧ (0 : Int) = (0 : Int) ∧ (g' ≤ cs.n ∧ ∀ (j : Nat), j < g' → L.within (cs.g j) (1 : Int) (16 : Int) = Bool.true ∧ ((0 : Nat) < j → cs.g (j - (1 : Nat)) < cs.g j)) ∧ cs.n - g' < cs.n - g)) ∧ (Decidable.decide ((↑g : Int) < (↑cs.n : Int)) = Bool.false → (∃ (g : Nat), (0 : Int) = (↑g : Int) ∧ (1 : Int) = L.gLo f cs.g g ∧ (0 : Int) = L.gHi f cs.g g ∧ g ≤ cs.n ∧ ∀ (j :
 Nat), j < g → (0 : Int) ≤ L.tab f (cs.g j)) ∧ ∀ (g_1 : Nat), (g_1 ≤ cs.n ∧ ∀ (j : Nat), j < g_1 → (0 : Int) ≤ L.tab f (cs.g j)) → (Decidable.decide ((↑g_1 : Int) < (↑cs.n : Int)) = Bool.true → ((0 : Int) ≤ (↑g_1 : Int) ∧ (↑g_1 : Int) < (↑cs.n : Int)) ∧ (Decidable.decide ((↑f.grey.n : Int) < cs.g (Int.toNat (↑g_1 : Int))) = Bool.true → Go.SE.SV.agg [Go.SE.SV.int Go.IntKind.i64 (0 : Int),
 Go.SE.SV.int Go.IntKind.i64 (0 : Int)] = Go.SE.SV.agg [Go.SE.SV.int Go.IntKind.i64 (bif Decidable.decide (L.gErr f cs = (0 : Int)) then L.gLo f cs.g cs.n else (0 : Int)), Go.SE.SV.int Go.IntKind.i64 (bif Decidable.decide (L.gErr f cs = (0 : Int)) then L.gHi f cs.g cs.n else (0 : Int))] ∧ (3 : Int) = L.gErr f cs) ∧ (Decidable.decide ((↑f.grey.n : Int) < cs.g (Int.toNat (↑g_1 : Int))) = Bool.false →
 ((0 : Int) ≤ (↑g_1 : Int) ∧ (↑g_1 : Int) < (↑cs.n : Int)) ∧ Go.SE.InK Go.IntKind.i64 (cs.g (Int.toNat (↑g_1 : Int)) - (1 : Int)) ∧ ((0 : Int) ≤ cs.g (Int.toNat (↑g_1 : Int)) - (1 : Int) ∧ cs.g (Int.toNat (↑g_1 : Int)) - (1 : Int) < (↑f.grey.n : Int)) ∧ (Decidable.decide ((↑g_1 : Int) = (0 : Int)) = Bool.true → Go.SE.InK Go.IntKind.i64 ((↑g_1 : Int) + (1 : Int)) ∧ ∃ (g' : Nat), (↑g_1 : Int) + (1 :
 Int) = (↑g' : Int) ∧ nat_lit 0 = nat_lit 0 ∧ nat_lit 0 = nat_lit 0 ∧ Go.SE.SV.ref [Go.SE.SV.int Go.IntKind.i64 f.id, Go.SE.SV.sl (nat_lit 1) f.grey.n fun (i : Nat) ↦ [Go.SE.SV.int Go.IntKind.i64 (f.grey.g i)]] (nat_lit 0) = Go.SE.SV.ref [Go.SE.SV.int Go.IntKind.i64 f.id, Go.SE.SV.sl (nat_lit 1) f.grey.n fun (i : Nat) ↦ [Go.SE.SV.int Go.IntKind.i64 (f.grey.g i)]] (nat_lit 0) ∧ (cs.n = cs.n ∧ ∀ (i :
 Nat), i < cs.n → [Go.SE.SV.int Go.IntKind.i64 (cs.g i)] = [Go.SE.SV.int Go.IntKind.i64 (cs.g i)]) ∧ Min.min (f.grey.g (Int.toNat (cs.g (Int.toNat (↑g_1 : Int)) - (1 : Int)))) (f.grey.g (Int.toNat (cs.g (Int.toNat (↑g_1 : Int)) - (1 : Int)))) = L.gLo f cs.g g' ∧ Max.max (f.grey.g (Int.toNat (cs.g (Int.toNat (↑g_1 : Int)) - (1 : Int)))) (f.grey.g (Int.toNat (cs.g (Int.toNat (↑g_1 : Int)) - (1 :
 Int)))) = L.gHi f cs.g g' ∧ (0 : Int) = (0 : Int) ∧ (0 : Int) = (0 : Int) ∧ (g' ≤ cs.n ∧ ∀ (j : Nat), j < g' → (0 : Int) ≤ L.tab f (cs.g j)) ∧ cs.n - g' < cs.n - g_1) ∧ (Decidable.decide ((↑g_1 : Int) = (0 : Int)) = Bool.false → Go.SE.InK Go.IntKind.i64 ((↑g_1 : Int) + (1 : Int)) ∧ ∃ (g' : Nat), (↑g_1 : Int) + (1 : Int) = (↑g' : Int) ∧ nat_lit 0 = nat_lit 0 ∧ nat_lit 0 = nat_lit 0 ∧ Go.SE.SV.ref
 [Go.SE.SV.int Go.IntKind.i64 f.id, Go.SE.SV.sl (nat_lit 1) f.grey.n fun (i : Nat) ↦ [Go.SE.SV.int Go.IntKind.i64 (f.grey.g i)]] (nat_lit 0) = Go.SE.SV.ref [Go.SE.SV.int Go.IntKind.i64 f.id, Go.SE.SV.sl (nat_lit 1) f.grey.n fun (i : Nat) ↦ [Go.SE.SV.int Go.IntKind.i64 (f.grey.g i)]] (nat_lit 0) ∧ (cs.n = cs.n ∧ ∀ (i : Nat), i < cs.n → [Go.SE.SV.int Go.IntKind.i64 (cs.g i)] = [Go.SE.SV.int
 Go.IntKind.i64 (cs.g i)]) ∧ Min.min (L.gLo f cs.g g_1) (f.grey.g (Int.toNat (cs.g (Int.toNat (↑g_1 : Int)) - (1 : Int)))) = L.gLo f cs.g g' ∧ Max.max (L.gHi f cs.g g_1) (f.grey.g (Int.toNat (cs.g (Int.toNat (↑g_1 : Int)) - (1 : Int)))) = L.gHi f cs.g g' ∧ (0 : Int) = (0 : Int) ∧ (0 : Int) = (0 : Int) ∧ (g' ≤ cs.n ∧ ∀ (j : Nat), j < g' → (0 : Int) ≤ L.tab f (cs.g j)) ∧ cs.n - g' < cs.n - g_1))) ∧
 (Decidable.decide ((↑g_1 : Int) < (↑cs.n : Int)) = Bool.false → Go.SE.SV.agg [Go.SE.SV.int Go.IntKind.i64 (L.gLo f cs.g g_1), Go.SE.SV.int Go.IntKind.i64 (L.gHi f cs.g g_1)] = Go.SE.SV.agg [Go.SE.SV.int Go.IntKind.i64 (bif Decidable.decide (L.gErr f cs = (0 : Int)) then L.gLo f cs.g cs.n else (0 : Int)), Go.SE.SV.int Go.IntKind.i64 (bif Decidable.decide (L.gErr f cs = (0 : Int)) then L.gHi f cs.g
 cs.n else (0 : Int))] ∧ (0 : Int) = L.gErr f cs)))) (by kernel_rfl) (by
    obtain ⟨hn, hc⟩ := hp
    refine ⟨⟨fun _ _ => rfl, hn⟩, fun h => ?_, fun h => ?_⟩
    · have hv : L.validFilm f = false := notT h
      have : L.gErr f cs = 32 := by unfold L.gErr; rw [hv]; rfl
      rw [this]; exact ⟨rfl, rfl⟩
    have hv : L.validFilm f = true := notF h
    refine ⟨⟨(0 : Nat), rfl, Nat.zero_le _, fun j hj => absurd hj (Nat.not_lt_zero _)⟩, fun g hg => ⟨fun hlt => ?_, fun hge => ?_⟩⟩
    · have hb : (g : Int) < (cs.n : Int) := of_decide_eq_true hlt
      have e0 : ((g : Int)).toNat = g := by omega
      have e1 : ((g : Int) - 1).toNat = g - 1 := by omega
      rw [e0, e1]
      refine ⟨by omega, trivial, fun _ => by omega, fun _ => InK.of (by omega) (by omega), fun h1 => ?_, fun h1 => ?_, fun h1 => ?_⟩
      · rw [Bool.and_eq_true, decide_eq_true_eq] at h1; omega
      · have : L.gErr f cs = 1 := by
          unfold L.gErr
          rw [hv, show L.colsBad cs = true from ?_]; rfl
          cases hb' : L.colsBad cs with
          | true => rfl
          | false =>
            obtain ⟨q1, q2⟩ := cols_iff.1 hb' g (by omega)
            rw [q1, bor, band, Bool.or_eq_true, Bool.and_eq_true, decide_eq_true_eq, decide_eq_true_eq] at h1
            rcases h1 with h1 | h1
            · cases h1
            · have := q2 (by omega); omega
        rw [this]; exact ⟨rfl, rfl⟩
      · rw [bor, band, Bool.or_eq_false_iff, Bool.and_eq_false_iff, decide_eq_false_iff_not, decide_eq_false_iff_not] at h1
        exact ⟨InK.of (by omega) (by omega), g + 1, by omega, rfl, rfl, ⟨rfl, fun _ _ => rfl⟩, rfl, rfl, ⟨by omega, fun j hj => by
          rcases Nat.lt_succ_iff_lt_or_eq.1 hj with h' | rfl
          · exact hg.2 j h'
          · exact ⟨notF h1.1, fun _ => by have := h1.2; omega⟩⟩, by omega⟩
    have hb : ¬ (g : Int) < (cs.n : Int) := of_decide_eq_false hge
    have hcol : L.colsBad cs = false := cols_iff.2 (fun j hj => hg.2 j (by omega))
    have hin : ∀ i, i < cs.n → 1 ≤ cs.g i ∧ cs.g i ≤ 16 := fun i hi => within_iff.1 (hg.2 i (by omega)).1
    refine ⟨⟨(0 : Nat), rfl, rfl, rfl, Nat.zero_le _, fun j hj => absurd hj (Nat.not_lt_zero _)⟩, fun k hk => ⟨fun hlt2 => ?_, fun hge2 => ?_⟩⟩
    · have hb2 : (k : Int) < (cs.n : Int) := of_decide_eq_true hlt2
      have e0 : ((k : Int)).toNat = k := by omega
      obtain ⟨i1, i2⟩ := hin k (by omega)
      rw [e0]
      refine ⟨by omega, fun h1 => ?_, fun h1 => ⟨by omega, InK.of (by omega) (by omega), ?_, fun h2 => ?_, fun h2 => ?_⟩⟩
      · have h1 := of_decide_eq_true h1
        have ht := (tab_neg (c := cs.g k) hv).2 (by omega)
        have : L.gErr f cs = 3 := by
          unfold L.gErr; rw [hv, hcol, show L.gNone f cs = true from anyB_iff.2 ⟨k, by omega, decide_eq_true ht⟩]; rfl
        rw [this]; exact ⟨rfl, rfl⟩
      · have h1 := of_decide_eq_false h1
        omega
      · have h1 := of_decide_eq_false h1
        have ht := tab_yes (f := f) (c := cs.g k) (by omega) (by omega)
        have hpos := (film_ok hv).2.2 (cs.g k - 1).toNat (by omega)
        rw [← ht]
        refine ⟨InK.of (by omega) (by omega), k + 1, by omega, rfl, rfl, rfl, ⟨rfl, fun _ _ => rfl⟩, ?_, ?_, rfl, rfl, ⟨by omega, fun j hj => ?_⟩, by omega⟩
        · show _ = min (bif decide ((k : Int) = 0) then L.tab f (cs.g k) else L.gLo f cs.g k) (L.tab f (cs.g k))
          rw [h2]; rfl
        · show _ = max (bif decide ((k : Int) = 0) then L.tab f (cs.g k) else L.gHi f cs.g k) (L.tab f (cs.g k))
          rw [h2]; rfl
        · rcases Nat.lt_succ_iff_lt_or_eq.1 hj with h' | rfl
          · exact hk.2 j h'
          · omega
      · have h1 := of_decide_eq_false h1
        have ht := tab_yes (f := f) (c := cs.g k) (by omega) (by omega)
        have hpos := (film_ok hv).2.2 (cs.g k - 1).toNat (by omega)
        rw [← ht]
        refine ⟨InK.of (by omega) (by omega), k + 1, by omega, rfl, rfl, rfl, ⟨rfl, fun _ _ => rfl⟩, ?_, ?_, rfl, rfl, ⟨by omega, fun j hj => ?_⟩, by omega⟩
        · show _ = min (bif decide ((k : Int) = 0) then L.tab f (cs.g k) else L.gLo f cs.g k) (L.tab f (cs.g k))
          rw [h2]; rfl
        · show _ = max (bif decide ((k : Int) = 0) then L.tab f (cs.g k) else L.gHi f cs.g k) (L.tab f (cs.g k))
          rw [h2]; rfl
        · rcases Nat.lt_succ_iff_lt_or_eq.1 hj with h' | rfl
          · exact hk.2 j h'
          · omega
    · have hb2 : ¬ (k : Int) < (cs.n : Int) := of_decide_eq_false hge2
      obtain rfl : k = cs.n := by omega
      have hno : L.gNone f cs = false := none_iff.2 hk.2
      have : L.gErr f cs = 0 := by unfold L.gErr; rw [hv, hcol, hno]; rfl
      rw [this]; exact ⟨rfl, rfl⟩)
theorem r3_Greys_ok : SpecOk Try.prog 36 r3_Greys_S := fnX Try.func36 (c := bodyOf Try.f36) (by kernel_rfl) mixed (fun args p r hs hp => by
  unfold r3_Greys_s at hs
  split at hs
  · cases hs; exact ⟨_, _, r3_Greys_vc _ _ hp.2.2, (.p (.agg rfl (fun i hi => by
      rcases i with _ | i
      · exact (Ext.refl _ : Ext _ _)
      rcases i with _ | i
      · exact (Ext.sl hp.1 : Ext _ _)
      exact absurd hi (by simp; try omega))) (.p (.sl hp.2.1) .nil)), ⟨show SpecsL Try.prog _ from (SpecsL.cons r3_within_ok r3_within_en (SpecsL.cons r3_ValidFilm_ok r3_ValidFilm_en SpecsL.nil)), rfl, ⟨show ItersL Try.prog _ from ItersL.nil, (TrsOk.none (fun _ => rfl))⟩⟩⟩
  · cases hs)
theorem r3_Greys_en : Enters Try.prog 36 := fun args w => by kernel_rfl
def w_GlassFilms_p (f : L.Film) (c : Int) (s : L.Span) (cs : (L.Sq Int)) (sw : Int) (fl : (L.Sq Int)) : Prop := True
def w_GlassFilms_r (f : L.Film) (c : Int) (s : L.Span) (cs : (L.Sq Int)) (sw : Int) (fl : (L.Sq Int)) : SV := .bool true
def w_GlassFilms_s : List EV → Option (Prop × SV)
  | [.p (.agg [.int .i64 f_id, .sl 1 f_grey_n f_grey_g]), .p (.int .i64 c), .p (.agg [.int .i64 s_lo, .int .i64 s_hi]), .p (.sl 1 cs_n cs_g), .p (.int .i64 sw), .p (.sl 1 fl_n fl_g)] => some ((∀ i, i < f_grey_n → f_grey_g i = [.int .i64 ((intOf (f_grey_g i)))]) ∧ (∀ i, i < cs_n → cs_g i = [.int .i64 ((intOf (cs_g i)))]) ∧ (∀ i, i < fl_n → fl_g i = [.int .i64 ((intOf (fl_g i)))]) ∧ w_GlassFilms_p (⟨f_id, (⟨f_grey_n, fun i => intOf (f_grey_g i)⟩ : (L.Sq Int))⟩ : L.Film) c (⟨s_lo, s_hi⟩ : L.Span) (⟨cs_n, fun i => intOf (cs_g i)⟩ : (L.Sq Int)) sw (⟨fl_n, fun i => intOf (fl_g i)⟩ : (L.Sq Int)), w_GlassFilms_r (⟨f_id, (⟨f_grey_n, fun i => intOf (f_grey_g i)⟩ : (L.Sq Int))⟩ : L.Film) c (⟨s_lo, s_hi⟩ : L.Span) (⟨cs_n, fun i => intOf (cs_g i)⟩ : (L.Sq Int)) sw (⟨fl_n, fun i => intOf (fl_g i)⟩ : (L.Sq Int)))
  | _ => none
abbrev w_GlassFilms_S : SE.Spec := (specO w_GlassFilms_s)
def w_GlassFilms_C : Cfg := { muts := [], frz := lookN [], specs := lookS [(12, w_awake_S), (33, g_Grey_S), (34, r3_Grey_S), (31, g_Colours_S), (35, r3_Colours_S), (32, g_Greys_S), (36, r3_Greys_S), (37, g_Held_S), (38, r3_Held_S), (30, r1_SameInts_S)], loops := lookL [], iters := lookI [], rfs := lookR [], nils := lookM [] }
theorem w_GlassFilms_vc (f : L.Film) (c : Int) (s : L.Span) (cs : (L.Sq Int)) (sw : Int) (fl : (L.Sq Int)) (hp : w_GlassFilms_p f c s cs sw fl) : vc Try.prog (w_GlassFilms_C) (bodyOf Try.f8) (st0 Try.f8 [.p (.agg [.int .i64 f.id, .sl 1 f.grey.n (fun i => [.int .i64 ((f.grey.g i))])]), .p (.int .i64 c), .p (.agg [.int .i64 s.lo, .int .i64 s.hi]), .p (.sl 1 cs.n (fun i => [.int .i64 ((cs.g i))])), .p (.int .i64 sw), .p (.sl 1 fl.n (fun i => [.int .i64 ((fl.g i))]))]) (retFn Try.prog Try.f8 (w_GlassFilms_r f c s cs sw fl)) :=
  @Eq.mpr _ (True ∧ ((bif bif Decidable.decide ((100 : Int) < (↑f.grey.n : Int)) then Bool.true else Decidable.decide ((100 : Int) < (↑cs.n : Int)) then Bool.true else Decidable.decide ((500 : Int) < (↑fl.n : Int))) = Bool.true → Bool.true = Bool.true) ∧ ((bif bif Decidable.decide ((100 : Int) < (↑f.grey.n : Int)) then Bool.true else Decidable.decide ((100 : Int) < (↑cs.n : Int)) then Bool.true else
 Decidable.decide ((500 : Int) < (↑fl.n : Int))) = Bool.false → ((∀ (i : Nat), i < f.grey.n → [Go.SE.SV.int Go.IntKind.i64 (f.grey.g i)] = [Go.SE.SV.int Go.IntKind.i64 (f.grey.g i)]) ∧ f.grey.n ≤ (1000000 : Nat)) ∧ ((∀ (i : Nat), i < f.grey.n → [Go.SE.SV.int Go.IntKind.i64 (f.grey.g i)] = [Go.SE.SV.int Go.IntKind.i64 (f.grey.g i)]) ∧ f.grey.n ≤ (1000000 : Nat)) ∧ ((∀ (i : Nat), i < f.grey.n →
 [Go.SE.SV.int Go.IntKind.i64 (f.grey.g i)] = [Go.SE.SV.int Go.IntKind.i64 (f.grey.g i)]) ∧ f.grey.n ≤ (1000000 : Nat)) ∧ ((∀ (i : Nat), i < f.grey.n → [Go.SE.SV.int Go.IntKind.i64 (f.grey.g i)] = [Go.SE.SV.int Go.IntKind.i64 (f.grey.g i)]) ∧ f.grey.n ≤ (1000000 : Nat)) ∧ ((∀ (i : Nat), i < f.grey.n → [Go.SE.SV.int Go.IntKind.i64 (f.grey.g i)] = [Go.SE.SV.int Go.IntKind.i64 (f.grey.g i)]) ∧ (∀ (i :
 Nat), i < cs.n → [Go.SE.SV.int Go.IntKind.i64 (cs.g i)] = [Go.SE.SV.int Go.IntKind.i64 (cs.g i)]) ∧ f.grey.n ≤ (1000000 : Nat) ∧ cs.n ≤ (1000000 : Nat)) ∧ ((∀ (i : Nat), i < f.grey.n → [Go.SE.SV.int Go.IntKind.i64 (f.grey.g i)] = [Go.SE.SV.int Go.IntKind.i64 (f.grey.g i)]) ∧ (∀ (i : Nat), i < cs.n → [Go.SE.SV.int Go.IntKind.i64 (cs.g i)] = [Go.SE.SV.int Go.IntKind.i64 (cs.g i)]) ∧ f.grey.n ≤
 (1000000 : Nat) ∧ cs.n ≤ (1000000 : Nat)) ∧ ((∀ (i : Nat), i < fl.n → [Go.SE.SV.int Go.IntKind.i64 (fl.g i)] = [Go.SE.SV.int Go.IntKind.i64 (fl.g i)]) ∧ fl.n ≤ (1000000 : Nat)) ∧ ((∀ (i : Nat), i < fl.n → [Go.SE.SV.int Go.IntKind.i64 (fl.g i)] = [Go.SE.SV.int Go.IntKind.i64 (fl.g i)]) ∧ fl.n ≤ (1000000 : Nat)) ∧ ((bif bif bif Bool.true then Decidable.decide (L.greyV (L.Film.mk f.id (L.Sq.mk
 f.grey.n fun (i : Nat) ↦ f.grey.g i)) c = L.greyV (L.Film.mk f.id (L.Sq.mk f.grey.n fun (i : Nat) ↦ f.grey.g i)) c) else Bool.false then Decidable.decide (L.greyE (L.Film.mk f.id (L.Sq.mk f.grey.n fun (i : Nat) ↦ f.grey.g i)) c = L.greyE (L.Film.mk f.id (L.Sq.mk f.grey.n fun (i : Nat) ↦ f.grey.g i)) c) else Bool.false then Decidable.decide ((bif L.validFilm (L.Film.mk f.id (L.Sq.mk f.grey.n fun (i
 : Nat) ↦ f.grey.g i)) then (0 : Int) else (32 : Int)) = bif L.validFilm (L.Film.mk f.id (L.Sq.mk f.grey.n fun (i : Nat) ↦ f.grey.g i)) then (0 : Int) else (32 : Int)) else Bool.false) = Bool.true → (∀ (i : Nat), (i < bif L.validFilm (L.Film.mk f.id (L.Sq.mk f.grey.n fun (i : Nat) ↦ f.grey.g i)) then L.cnt (L.shows (L.Film.mk f.id (L.Sq.mk f.grey.n fun (i : Nat) ↦ f.grey.g i)) s) (17 : Nat) else (0
 : Nat)) → [Go.SE.SV.int Go.IntKind.i64 (L.sel (L.shows (L.Film.mk f.id (L.Sq.mk f.grey.n fun (i : Nat) ↦ f.grey.g i)) s) (fun (c : Nat) ↦ (↑c : Int)) (17 : Nat) i)] = [Go.SE.SV.int Go.IntKind.i64 (L.sel (L.shows (L.Film.mk f.id (L.Sq.mk f.grey.n fun (i : Nat) ↦ f.grey.g i)) s) (fun (c : Nat) ↦ (↑c : Int)) (17 : Nat) i)]) ∧ (∀ (i : Nat), (i < bif L.validFilm (L.Film.mk f.id (L.Sq.mk f.grey.n fun (i
 : Nat) ↦ f.grey.g i)) then L.cnt (L.shows (L.Film.mk f.id (L.Sq.mk f.grey.n fun (i : Nat) ↦ f.grey.g i)) s) (17 : Nat) else (0 : Nat)) → [Go.SE.SV.int Go.IntKind.i64 (L.sel (L.shows (L.Film.mk f.id (L.Sq.mk f.grey.n fun (i : Nat) ↦ f.grey.g i)) s) (fun (c : Nat) ↦ (↑c : Int)) (17 : Nat) i)] = [Go.SE.SV.int Go.IntKind.i64 (L.sel (L.shows (L.Film.mk f.id (L.Sq.mk f.grey.n fun (i : Nat) ↦ f.grey.g
 i)) s) (fun (c : Nat) ↦ (↑c : Int)) (17 : Nat) i)]) ∧ (bif L.validFilm (L.Film.mk f.id (L.Sq.mk f.grey.n fun (i : Nat) ↦ f.grey.g i)) then L.cnt (L.shows (L.Film.mk f.id (L.Sq.mk f.grey.n fun (i : Nat) ↦ f.grey.g i)) s) (17 : Nat) else (0 : Nat)) ≤ (1000000 : Nat)) ∧ (bif bif bif bif bif bif bif bif Bool.true then Decidable.decide (L.greyV (L.Film.mk f.id (L.Sq.mk f.grey.n fun (i : Nat) ↦ f.grey.g
 i)) c = L.greyV (L.Film.mk f.id (L.Sq.mk f.grey.n fun (i : Nat) ↦ f.grey.g i)) c) else Bool.false then Decidable.decide (L.greyE (L.Film.mk f.id (L.Sq.mk f.grey.n fun (i : Nat) ↦ f.grey.g i)) c = L.greyE (L.Film.mk f.id (L.Sq.mk f.grey.n fun (i : Nat) ↦ f.grey.g i)) c) else Bool.false then Decidable.decide ((bif L.validFilm (L.Film.mk f.id (L.Sq.mk f.grey.n fun (i : Nat) ↦ f.grey.g i)) then (0 :
 Int) else (32 : Int)) = bif L.validFilm (L.Film.mk f.id (L.Sq.mk f.grey.n fun (i : Nat) ↦ f.grey.g i)) then (0 : Int) else (32 : Int)) else Bool.false then L.sameI (L.Sq.mk (bif L.validFilm (L.Film.mk f.id (L.Sq.mk f.grey.n fun (i : Nat) ↦ f.grey.g i)) then L.cnt (L.shows (L.Film.mk f.id (L.Sq.mk f.grey.n fun (i : Nat) ↦ f.grey.g i)) s) (17 : Nat) else (0 : Nat)) fun (i : Nat) ↦ L.sel (L.shows
 (L.Film.mk f.id (L.Sq.mk f.grey.n fun (i : Nat) ↦ f.grey.g i)) s) (fun (c : Nat) ↦ (↑c : Int)) (17 : Nat) i) (L.Sq.mk (bif L.validFilm (L.Film.mk f.id (L.Sq.mk f.grey.n fun (i : Nat) ↦ f.grey.g i)) then L.cnt (L.shows (L.Film.mk f.id (L.Sq.mk f.grey.n fun (i : Nat) ↦ f.grey.g i)) s) (17 : Nat) else (0 : Nat)) fun (i : Nat) ↦ L.sel (L.shows (L.Film.mk f.id (L.Sq.mk f.grey.n fun (i : Nat) ↦ f.grey.g
 i)) s) (fun (c : Nat) ↦ (↑c : Int)) (17 : Nat) i) else Bool.false then Decidable.decide ((bif Decidable.decide (L.gErr (L.Film.mk f.id (L.Sq.mk f.grey.n fun (i : Nat) ↦ f.grey.g i)) (L.Sq.mk cs.n fun (i : Nat) ↦ cs.g i) = (0 : Int)) then L.gLo (L.Film.mk f.id (L.Sq.mk f.grey.n fun (i : Nat) ↦ f.grey.g i)) (fun (i : Nat) ↦ cs.g i) cs.n else (0 : Int)) = bif Decidable.decide (L.gErr (L.Film.mk f.id
 (L.Sq.mk f.grey.n fun (i : Nat) ↦ f.grey.g i)) (L.Sq.mk cs.n fun (i : Nat) ↦ cs.g i) = (0 : Int)) then L.gLo (L.Film.mk f.id (L.Sq.mk f.grey.n fun (i : Nat) ↦ f.grey.g i)) (fun (i : Nat) ↦ cs.g i) cs.n else (0 : Int)) && Decidable.decide ((bif Decidable.decide (L.gErr (L.Film.mk f.id (L.Sq.mk f.grey.n fun (i : Nat) ↦ f.grey.g i)) (L.Sq.mk cs.n fun (i : Nat) ↦ cs.g i) = (0 : Int)) then L.gHi
 (L.Film.mk f.id (L.Sq.mk f.grey.n fun (i : Nat) ↦ f.grey.g i)) (fun (i : Nat) ↦ cs.g i) cs.n else (0 : Int)) = bif Decidable.decide (L.gErr (L.Film.mk f.id (L.Sq.mk f.grey.n fun (i : Nat) ↦ f.grey.g i)) (L.Sq.mk cs.n fun (i : Nat) ↦ cs.g i) = (0 : Int)) then L.gHi (L.Film.mk f.id (L.Sq.mk f.grey.n fun (i : Nat) ↦ f.grey.g i)) (fun (i : Nat) ↦ cs.g i) cs.n else (0 : Int)) else Bool.false then
 Decidable.decide (L.gErr (L.Film.mk f.id (L.Sq.mk f.grey.n fun (i : Nat) ↦ f.grey.g i)) (L.Sq.mk cs.n fun (i : Nat) ↦ cs.g i) = L.gErr (L.Film.mk f.id (L.Sq.mk f.grey.n fun (i : Nat) ↦ f.grey.g i)) (L.Sq.mk cs.n fun (i : Nat) ↦ cs.g i)) else Bool.false then (bif L.heldBad sw (L.Sq.mk fl.n fun (i : Nat) ↦ fl.g i) then Bool.false else L.held sw (L.Sq.mk fl.n fun (i : Nat) ↦ fl.g i)) == bif L.heldBad
 sw (L.Sq.mk fl.n fun (i : Nat) ↦ fl.g i) then Bool.false else L.held sw (L.Sq.mk fl.n fun (i : Nat) ↦ fl.g i) else Bool.false then Decidable.decide ((bif L.heldBad sw (L.Sq.mk fl.n fun (i : Nat) ↦ fl.g i) then (1 : Int) else (0 : Int)) = bif L.heldBad sw (L.Sq.mk fl.n fun (i : Nat) ↦ fl.g i) then (1 : Int) else (0 : Int)) else Bool.false) = Bool.true)) (by kernel_rfl) (by
    refine ⟨trivial, fun _ => rfl, fun h => ?_⟩
    have hs : f.grey.n ≤ 100 ∧ cs.n ≤ 100 ∧ fl.n ≤ 500 := by
      simp only [bor, Bool.or_eq_false_iff, decide_eq_false_iff_not] at h; omega
    have hcn : (bif L.validFilm f then L.cnt (L.shows f s) 17 else 0) ≤ 17 := by
      cases L.validFilm f
      · exact Nat.zero_le _
      · exact cnt_le
    refine ⟨⟨fun _ _ => rfl, by omega⟩, ⟨fun _ _ => rfl, by omega⟩, ⟨fun _ _ => rfl, by omega⟩, ⟨fun _ _ => rfl, by omega⟩, ⟨fun _ _ => rfl, fun _ _ => rfl, by omega, by omega⟩, ⟨fun _ _ => rfl, fun _ _ => rfl, by omega, by omega⟩, ⟨fun _ _ => rfl, by omega⟩, ⟨fun _ _ => rfl, by omega⟩, fun _ => ⟨fun _ _ => rfl, fun _ _ => rfl, Nat.le_trans hcn (by decide)⟩, ?_⟩
    rw [sameI_refl]
    simp only [decide_true, beq_self_eq_true, cond_true, Bool.and_self])
theorem w_GlassFilms_ok : SpecOk Try.prog 8 w_GlassFilms_S := fnX Try.func8 (c := bodyOf Try.f8) (by kernel_rfl) mixed (fun args p r hs hp => by
  unfold w_GlassFilms_s at hs
  split at hs
  · cases hs; exact ⟨_, _, w_GlassFilms_vc _ _ _ _ _ _ hp.2.2.2, (.p (.agg rfl (fun i hi => by
      rcases i with _ | i
      · exact (Ext.refl _ : Ext _ _)
      rcases i with _ | i
      · exact (Ext.sl hp.1 : Ext _ _)
      exact absurd hi (by simp; try omega))) (.same _ (.same _ (.p (.sl hp.2.1) (.same _ (.p (.sl hp.2.2.1) .nil)))))), ⟨show SpecsL Try.prog _ from (SpecsL.cons w_awake_ok w_awake_en (SpecsL.cons g_Grey_ok g_Grey_en (SpecsL.cons r3_Grey_ok r3_Grey_en (SpecsL.cons g_Colours_ok g_Colours_en (SpecsL.cons r3_Colours_ok r3_Colours_en (SpecsL.cons g_Greys_ok g_Greys_en (SpecsL.cons r3_Greys_ok r3_Greys_en (SpecsL.cons g_Held_ok g_Held_en (SpecsL.cons r3_Held_ok r3_Held_en (SpecsL.cons r1_SameInts_ok r1_SameInts_en SpecsL.nil)))))))))), rfl, ⟨show ItersL Try.prog _ from ItersL.nil, (TrsOk.none (fun _ => rfl))⟩⟩⟩
  · cases hs)
theorem w_GlassFilms_en : Enters Try.prog 8 := fun args w => by kernel_rfl
theorem w_GlassFilms_B : ∀ args p r, w_GlassFilms_s args = some (p, r) → ∃ b, r = .bool b := by
  intro args p r h
  unfold w_GlassFilms_s at h
  split at h
  · cases h; exact ⟨_, rfl⟩
  · cases h
end Go.Proofs.Ytipaekbdalahdaa

namespace Go.Proofs.Ytipaekbdalahdaa
open Go.SE Go.RowKit
set_option maxRecDepth 100000
set_option maxHeartbeats 4000000
set_option linter.unusedVariables false
attribute [local irreducible] Go.SE.vc

def L.selN (p : Nat → Bool) : Nat → Nat → Nat
  | 0, _ => 0
  | n + 1, k => bif p n && decide (k = L.cnt p n) then n else L.selN p n k
def L.onE (l : L.Sq L.Mark) (e : Int) (i : Nat) : Bool := decide ((l.g i).edge = e)
def L.kept (l : L.Sq L.Mark) (e : Int) (j q : Nat) : L.Mark := bif decide (q < L.cnt (L.onE l e) j) then l.g (L.selN (L.onE l e) j q) else l.g q
def L.cutM (l : L.Sq L.Mark) (e : Int) (q : Nat) : L.Mark := bif decide (q < L.cnt (L.onE l e) l.n) then l.g (L.selN (L.onE l e) l.n q) else ⟨0, 0, 0⟩
def L.onBad (l : L.Sq L.Mark) (e : Int) : Bool := bif !L.vMarks l 24 then true else !L.within e 0 23
def L.onN (l : L.Sq L.Mark) (e : Int) : Nat := bif L.onBad l e then 0 else L.cnt (L.onE l e) l.n
def L.onG (l : L.Sq L.Mark) (e : Int) (k : Nat) : L.Mark := l.g (L.selN (L.onE l e) l.n k)
def L.inS (l : L.Sq L.Mark) (e : Int) (s : L.Span) (k : Nat) : Bool := L.within (L.onG l e k).place s.lo s.hi
def L.sameM (a b : L.Mark) : Bool := decide (a.edge = b.edge) && (decide (a.place = b.place) && decide (a.tone = b.tone))
def L.sameMs (a b : L.Sq L.Mark) : Bool := bif decide ((a.n : Int) = b.n) then L.allB a.n (fun i => L.sameM (a.g i) (b.g i)) else false
theorem idx_spec {f : Nat → Bool} : ∀ {n : Nat}, (L.idx n f = -1 ∧ ∀ j, j < n → f j = false) ∨ ∃ i : Nat, i < n ∧ L.idx n f = (i : Int) ∧ f i = true ∧ ∀ j, j < i → f j = false
  | 0 => .inl ⟨rfl, fun j hj => absurd hj (Nat.not_lt_zero _)⟩
  | n + 1 => by
    rcases idx_spec (f := f) (n := n) with ⟨h1, h2⟩ | ⟨i, h1, h2, h3, h4⟩
    · cases hf : f n with
      | true => exact .inr ⟨n, Nat.lt_succ_self n, by simp [L.idx, h1, hf], hf, h2⟩
      | false =>
        refine .inl ⟨by simp [L.idx, h1, hf], fun j hj => ?_⟩
        rcases Nat.lt_succ_iff_lt_or_eq.1 hj with h | rfl
        · exact h2 j h
        · exact hf
    · exact .inr ⟨i, by omega, by simp [L.idx, h2], h3, h4⟩
theorem all_kept {p : Nat → Bool} : ∀ {n : Nat}, (∀ j, j < n → p j = true) → L.cnt p n = n ∧ ∀ k, k < n → L.selN p n k = k
  | 0, _ => ⟨rfl, fun k hk => absurd hk (Nat.not_lt_zero _)⟩
  | n + 1, h => by
    obtain ⟨h1, h2⟩ := all_kept (p := p) (n := n) (fun j hj => h j (by omega))
    have hn := h n (by omega)
    refine ⟨by simp [L.cnt, hn, h1], fun k hk => ?_⟩
    by_cases e : k = n
    · subst e; simp [L.selN, hn, h1]
    · have : k < n := by omega
      simp [L.selN, hn, h1, e, h2 k this]
theorem cnt_yes {p : Nat → Bool} {n : Nat} (h : p n = true) : L.cnt p (n + 1) = L.cnt p n + 1 := by simp [L.cnt, h]
theorem cnt_not {p : Nat → Bool} {n : Nat} (h : p n = false) : L.cnt p (n + 1) = L.cnt p n := by simp [L.cnt, h]
theorem selN_new {p : Nat → Bool} {n : Nat} (h : p n = true) : L.selN p (n + 1) (L.cnt p n) = n := by simp [L.selN, h]
theorem selN_old {p : Nat → Bool} {n k : Nat} (h : k ≠ L.cnt p n) : L.selN p (n + 1) k = L.selN p n k := by simp [L.selN, h]
theorem selN_not {p : Nat → Bool} {n k : Nat} (h : p n = false) : L.selN p (n + 1) k = L.selN p n k := by simp [L.selN, h]
theorem sameM_refl (a : L.Mark) : L.sameM a a = true := by simp [L.sameM]
theorem sameMs_refl (a : L.Sq L.Mark) : L.sameMs a a = true := by
  unfold L.sameMs
  rw [decide_eq_true rfl, allB_iff.2 (fun i _ => sameM_refl (a.g i))]; rfl
section
variable {l : L.Sq L.Mark} {e : Int} {j : Nat}
theorem kept_first {i : Nat} (h : ∀ j, j < i → L.onE l e j = true) (hi : L.onE l e i = false) (q : Nat) : L.kept l e (i + 1) q = l.g q := by
  obtain ⟨h1, h2⟩ := all_kept h
  unfold L.kept
  rw [cnt_not hi, h1]
  by_cases hq : q < i
  · rw [decide_eq_true hq, selN_not hi, h2 q hq]; rfl
  · rw [decide_eq_false hq]; rfl
theorem kept_at : L.kept l e j j = l.g j := by
  unfold L.kept
  rw [decide_eq_false (by have := cnt_le (p := L.onE l e) (n := j); omega)]; rfl
theorem kept_yes (h : L.onE l e j = true) (q : Nat) : L.kept l e (j + 1) q = if q = L.cnt (L.onE l e) j then l.g j else L.kept l e j q := by
  unfold L.kept
  rw [cnt_yes h]
  by_cases e1 : q = L.cnt (L.onE l e) j
  · rw [if_pos e1, e1, decide_eq_true (Nat.lt_succ_self _), selN_new h]; rfl
  · rw [if_neg e1, selN_old e1]
    by_cases e2 : q < L.cnt (L.onE l e) j
    · rw [decide_eq_true e2, decide_eq_true (by omega)]
    · rw [decide_eq_false e2, decide_eq_false (by omega)]
theorem kept_not (h : L.onE l e j = false) (q : Nat) : L.kept l e (j + 1) q = L.kept l e j q := by
  unfold L.kept
  rw [cnt_not h, selN_not h]
theorem kept_end {q : Nat} (h : q < L.cnt (L.onE l e) l.n) : L.cutM l e q = L.kept l e l.n q := by
  unfold L.kept L.cutM
  rw [decide_eq_true h]; rfl
theorem cut_zero {q : Nat} (h : ¬ q < L.cnt (L.onE l e) l.n) : L.cutM l e q = ⟨0, 0, 0⟩ := by
  unfold L.cutM
  rw [decide_eq_false h]; rfl
end
def s_cloneM_p (l : (L.Sq L.Mark)) : Prop := l.n ≤ 1000000
def s_cloneM_q (l : (L.Sq L.Mark)) : Nat → Prop := fun _ => True
def s_cloneM_n (l : (L.Sq L.Mark)) : Nat → Nat := fun _ => l.n
def s_cloneM_g (l : (L.Sq L.Mark)) : Nat → Nat → List SV := fun _ i => [.int .i64 ((l.g i).edge), .int .i64 ((l.g i).place), .int .i64 ((l.g i).tone)]
def s_cloneM_s : List EV → Option (Prop × (Nat → Prop) × (Nat → Nat) × (Nat → Nat → List SV))
  | [.p (.sl 3 l_n l_g)] => some ((∀ i, i < l_n → l_g i = [.int .i64 ((ofMark (l_g i)).edge), .int .i64 ((ofMark (l_g i)).place), .int .i64 ((ofMark (l_g i)).tone)]) ∧ s_cloneM_p (⟨l_n, fun i => ofMark (l_g i)⟩ : (L.Sq L.Mark)), s_cloneM_q (⟨l_n, fun i => ofMark (l_g i)⟩ : (L.Sq L.Mark)), s_cloneM_n (⟨l_n, fun i => ofMark (l_g i)⟩ : (L.Sq L.Mark)), s_cloneM_g (⟨l_n, fun i => ofMark (l_g i)⟩ : (L.Sq L.Mark)))
  | _ => none
abbrev s_cloneM_S : SE.Spec := (specF Nat 0 30 3 s_cloneM_s)
def s_cloneM_C : Cfg := { muts := [5], frz := lookN [], specs := lookS [], loops := lookL [], iters := lookI [], rfs := lookR [], nils := lookM [] }
theorem s_cloneM_vc (l : (L.Sq L.Mark)) (hp : s_cloneM_p l) : vc Try.prog (s_cloneM_C) (bodyOf Try.f70) (st0 Try.f70 [.p (.sl 3 l.n (fun i => [.int .i64 ((l.g i).edge), .int .i64 ((l.g i).place), .int .i64 ((l.g i).tone)]))]) (retFresh Try.prog Try.f70 (Nat) (s_cloneM_q l) 30 3 (s_cloneM_n l) (s_cloneM_g l)) :=
  @Eq.mpr _ (∀ (b : Bool), (b = !Bool.false → l.n = (0 : Nat)) → (b = Bool.true → ∃ (t : Nat), l.n = (0 : Nat) ∧ True) ∧ (b = Bool.false → (nat_lit 0 + l.n) * nat_lit 24 ≤ (140737488355328 : Nat) ∧ ∃ (t : Nat), (nat_lit 0 + l.n = l.n ∧ ∀ (i : Nat), i < nat_lit 0 + l.n → Go.SE.appGet (nat_lit 0) (Go.SE.rowsOf [] (nat_lit 3)) (fun (i : Nat) ↦ [Go.SE.SV.int Go.IntKind.i64 (l.g i).edge, Go.SE.SV.int Go.IntKind.i64
 (l.g i).place, Go.SE.SV.int Go.IntKind.i64 (l.g i).tone]) i = [Go.SE.SV.int Go.IntKind.i64 (l.g i).edge, Go.SE.SV.int Go.IntKind.i64 (l.g i).place, Go.SE.SV.int Go.IntKind.i64 (l.g i).tone]) ∧ True)) (by kernel_rfl) (by
    have hn : l.n ≤ 1000000 := hp
    refine fun b hb => ⟨fun h => ⟨(0 : Nat), hb h, trivial⟩, fun h => ⟨show (0 + l.n) * 24 ≤ 140737488355328 by omega, (0 : Nat), ⟨Nat.zero_add _, fun i hi => ?_⟩, trivial⟩⟩
    unfold appGet; rw [if_neg (Nat.not_lt_zero _)]; rfl)
theorem s_cloneM_ok : SpecOk Try.prog 70 s_cloneM_S := freshX Try.func70 (c := bodyOf Try.f70) (by kernel_rfl) mixed (fun args p q n g hs hp => by
  unfold s_cloneM_s at hs
  split at hs
  · cases hs; exact ⟨_, _, s_cloneM_vc _ hp.2, (.p (.sl hp.1) .nil), ⟨show SpecsL Try.prog _ from SpecsL.nil, rfl, ⟨show ItersL Try.prog _ from ItersL.nil, (TrsOk.none (fun _ => rfl))⟩⟩⟩
  · cases hs)
theorem s_cloneM_en : Enters Try.prog 70 := fun args w => by kernel_rfl
def g_On1_p (m : L.Mark) (e : Int) : Prop := True
def g_On1_r (m : L.Mark) (e : Int) : SV := .bool (!decide (m.edge = e))
def g_On1_s : List EV → Option (Prop × SV)
  | [.p (.agg [.int .i64 m_edge, .int .i64 m_place, .int .i64 m_tone]), .p (.ref [.int .i64 e] 0)] => some (g_On1_p (⟨m_edge, m_place, m_tone⟩ : L.Mark) e, g_On1_r (⟨m_edge, m_place, m_tone⟩ : L.Mark) e)
  | _ => none
abbrev g_On1_S : SE.Spec := (specO g_On1_s)
def g_On1_C : Cfg := { muts := [], frz := lookN [], specs := lookS [], loops := lookL [], iters := lookI [], rfs := lookR [], nils := lookM [] }
theorem g_On1_vc (m : L.Mark) (e : Int) (hp : g_On1_p m e) : vc Try.prog (g_On1_C) (bodyOf Try.f71) (st0 Try.f71 [.p (.agg [.int .i64 m.edge, .int .i64 m.place, .int .i64 m.tone]), .p (.ref [.int .i64 e] 0)]) (retFn Try.prog Try.f71 (g_On1_r m e)) :=
  @Eq.mpr _ ((!Decidable.decide (m.edge = e)) = !Decidable.decide (m.edge = e)) (by kernel_rfl) (by
    exact rfl)
theorem g_On1_ok : SpecOk Try.prog 71 g_On1_S := fnX Try.func71 (c := bodyOf Try.f71) (by kernel_rfl) mixed (fun args p r hs hp => by
  unfold g_On1_s at hs
  split at hs
  · cases hs; exact ⟨_, _, g_On1_vc _ _ hp, (.same _ (.same _ .nil)), ⟨show SpecsL Try.prog _ from SpecsL.nil, rfl, ⟨show ItersL Try.prog _ from ItersL.nil, (TrsOk.none (fun _ => rfl))⟩⟩⟩
  · cases hs)
theorem g_On1_en : Enters Try.prog 71 := fun args w => by kernel_rfl
theorem g_On1_B : ∀ args p r, g_On1_s args = some (p, r) → ∃ b, r = .bool b := by
  intro args p r h
  unfold g_On1_s at h
  split at h
  · cases h; exact ⟨_, rfl⟩
  · cases h
abbrev s_delFM_tr : Tr := { T := (L.Sq L.Mark) × (Int), U := Nat, args := fun t => (fun l e => [.row 1015, .p (.clo 71 [.ref [.int .i64 e] 0])]) t.1 t.2, own := fun t => (fun l e => [(1015, .row 30 3 l.n (fun i => [.int .i64 ((l.g i).edge), .int .i64 ((l.g i).place), .int .i64 ((l.g i).tone)]))]) t.1 t.2, pre := fun t => (fun l e => l.n ≤ 1000000) t.1 t.2, post := fun t u => (fun l e => fun u => True) t.1 t.2 u, own' := fun t u => (fun l e => fun u => [(1015, .row 30 3 l.n (fun i => [.int .i64 ((L.cutM l e i).edge), .int .i64 ((L.cutM l e i).place), .int .i64 ((L.cutM l e i).tone)]))]) t.1 t.2 u, res := fun t u => (fun l e => fun u => .rsub 1015 3 0 (L.cnt (L.onE l e) l.n)) t.1 t.2 u }
theorem s_delFM_vc (l : L.Sq L.Mark) (e : Int) (hp : s_delFM_tr.pre (l, e)) : vc Try.prog ({ muts := [], frz := lookN [], specs := lookS [(126, s_idxFM_S), (71, g_On1_S)], loops := lookL [(5, { T := Nat, keep := [0, 1], keepO := [], chg := fun j => [(5, .p (.int .i64 (L.cnt (L.onE l e) j : Int))), (6, .p (.int .i64 (j : Int)))], own := fun j => [(1015, .row 30 3 l.n (fun i => [.int .i64 ((L.kept l e j i).edge), .int .i64 ((L.kept l e j i).place), .int .i64 ((L.kept l e j i).tone)]))], inv := fun j => j ≤ l.n ∧ L.cnt (L.onE l e) j < j, mu := fun j => l.n - j })], iters := lookI [], rfs := lookR [], nils := lookM [] }) (bodyOf Try.f69) (stTr Try.f69 (s_delFM_tr.args (l, e)) (s_delFM_tr.own (l, e))) (retTr Try.prog Try.f69 s_delFM_tr (l, e)) :=
  @Eq.mpr _ (((∀ (i : Nat), i < l.n → [Go.SE.SV.int Go.IntKind.i64 (l.g i).edge, Go.SE.SV.int Go.IntKind.i64 (l.g i).place, Go.SE.SV.int Go.IntKind.i64 (l.g i).tone] = [Go.SE.SV.int Go.IntKind.i64 (l.g i).edge, Go.SE.SV.int Go.IntKind.i64 (l.g i).place, Go.SE.SV.int Go.IntKind.i64 (l.g i).tone]) ∧ Go.SE.isB (Go.SE.FSpec.mk (fun («as» : List Go.SE.SV) ↦ Go.SE.preO g_On1_s (List.map Go.SE.EV.p «as» ++ List.map
 Go.SE.EV.p [Go.SE.SV.ref [Go.SE.SV.int Go.IntKind.i64 (l, e).snd] (nat_lit 0)])) fun («as» : List Go.SE.SV) ↦ Go.SE.resO g_On1_s (List.map Go.SE.EV.p «as» ++ List.map Go.SE.EV.p [Go.SE.SV.ref [Go.SE.SV.int Go.IntKind.i64 (l, e).snd] (nat_lit 0)])) ∧ l.n ≤ (1000000 : Nat) ∧ ∀ (i : Nat), i < l.n → True) ∧ (Decidable.decide ((L.idx l.n fun (i : Nat) ↦ L.fbl (Go.SE.FSpec.mk (fun («as» : List Go.SE.SV)
 ↦ Go.SE.preO g_On1_s (List.map Go.SE.EV.p «as» ++ List.map Go.SE.EV.p [Go.SE.SV.ref [Go.SE.SV.int Go.IntKind.i64 (l, e).snd] (nat_lit 0)])) fun («as» : List Go.SE.SV) ↦ Go.SE.resO g_On1_s (List.map Go.SE.EV.p «as» ++ List.map Go.SE.EV.p [Go.SE.SV.ref [Go.SE.SV.int Go.IntKind.i64 (l, e).snd] (nat_lit 0)])) [Go.SE.SV.agg [Go.SE.SV.int Go.IntKind.i64 (l.g i).edge, Go.SE.SV.int Go.IntKind.i64 (l.g
 i).place, Go.SE.SV.int Go.IntKind.i64 (l.g i).tone]]) = (-1 : Int)) = Bool.true → ∃ (u : Nat), ((0 : Nat) = (0 : Nat) ∧ L.cnt (L.onE l e) l.n = l.n) ∧ (l.n = l.n ∧ ∀ (i : Nat), i < l.n → [Go.SE.SV.int Go.IntKind.i64 (l.g i).edge, Go.SE.SV.int Go.IntKind.i64 (l.g i).place, Go.SE.SV.int Go.IntKind.i64 (l.g i).tone] = [Go.SE.SV.int Go.IntKind.i64 (L.cutM l e i).edge, Go.SE.SV.int Go.IntKind.i64
 (L.cutM l e i).place, Go.SE.SV.int Go.IntKind.i64 (L.cutM l e i).tone]) ∧ True) ∧ (Decidable.decide ((L.idx l.n fun (i : Nat) ↦ L.fbl (Go.SE.FSpec.mk (fun («as» : List Go.SE.SV) ↦ Go.SE.preO g_On1_s (List.map Go.SE.EV.p «as» ++ List.map Go.SE.EV.p [Go.SE.SV.ref [Go.SE.SV.int Go.IntKind.i64 (l, e).snd] (nat_lit 0)])) fun («as» : List Go.SE.SV) ↦ Go.SE.resO g_On1_s (List.map Go.SE.EV.p «as» ++
 List.map Go.SE.EV.p [Go.SE.SV.ref [Go.SE.SV.int Go.IntKind.i64 (l, e).snd] (nat_lit 0)])) [Go.SE.SV.agg [Go.SE.SV.int Go.IntKind.i64 (l.g i).edge, Go.SE.SV.int Go.IntKind.i64 (l.g i).place, Go.SE.SV.int Go.IntKind.i64 (l.g i).tone]]) = (-1 : Int)) = Bool.false → Go.SE.InK Go.IntKind.i64 ((L.idx l.n fun (i : Nat) ↦ L.fbl (Go.SE.FSpec.mk (fun («as» : List Go.SE.SV) ↦ Go.SE.preO g_On1_s (List.map
 Go.SE.EV.p «as» ++ List.map Go.SE.EV.p [Go.SE.SV.ref [Go.SE.SV.int Go.IntKind.i64 (l, e).snd] (nat_lit 0)])) fun («as» : List Go.SE.SV) ↦ Go.SE.resO g_On1_s (List.map Go.SE.EV.p «as» ++ List.map Go.SE.EV.p [Go.SE.SV.ref [Go.SE.SV.int Go.IntKind.i64 (l, e).snd] (nat_lit 0)])) [Go.SE.SV.agg [Go.SE.SV.int Go.IntKind.i64 (l.g i).edge, Go.SE.SV.int Go.IntKind.i64 (l.g i).place, Go.SE.SV.int
 Go.IntKind.i64 (l.g i).tone]]) + (1 : Int)) ∧ (∃ (g : Nat), (L.idx l.n fun (i : Nat) ↦ L.fbl (Go.SE.FSpec.mk (fun («as» : List Go.SE.SV) ↦ Go.SE.preO g_On1_s (List.map Go.SE.EV.p «as» ++ List.map Go.SE.EV.p [Go.SE.SV.ref [Go.SE.SV.int Go.IntKind.i64 (l, e).snd] (nat_lit 0)])) fun («as» : List Go.SE.SV) ↦ Go.SE.resO g_On1_s (List.map Go.SE.EV.p «as» ++ List.map Go.SE.EV.p [Go.SE.SV.ref
 [Go.SE.SV.int Go.IntKind.i64 (l, e).snd] (nat_lit 0)])) [Go.SE.SV.agg [Go.SE.SV.int Go.IntKind.i64 (l.g i).edge, Go.SE.SV.int Go.IntKind.i64 (l.g i).place, Go.SE.SV.int Go.IntKind.i64 (l.g i).tone]]) = (↑(L.cnt (L.onE l e) g) : Int) ∧ (L.idx l.n fun (i : Nat) ↦ L.fbl (Go.SE.FSpec.mk (fun («as» : List Go.SE.SV) ↦ Go.SE.preO g_On1_s (List.map Go.SE.EV.p «as» ++ List.map Go.SE.EV.p [Go.SE.SV.ref
 [Go.SE.SV.int Go.IntKind.i64 (l, e).snd] (nat_lit 0)])) fun («as» : List Go.SE.SV) ↦ Go.SE.resO g_On1_s (List.map Go.SE.EV.p «as» ++ List.map Go.SE.EV.p [Go.SE.SV.ref [Go.SE.SV.int Go.IntKind.i64 (l, e).snd] (nat_lit 0)])) [Go.SE.SV.agg [Go.SE.SV.int Go.IntKind.i64 (l.g i).edge, Go.SE.SV.int Go.IntKind.i64 (l.g i).place, Go.SE.SV.int Go.IntKind.i64 (l.g i).tone]]) + (1 : Int) = (↑g : Int) ∧ (l.n =
 l.n ∧ ∀ (i : Nat), i < l.n → [Go.SE.SV.int Go.IntKind.i64 (l.g i).edge, Go.SE.SV.int Go.IntKind.i64 (l.g i).place, Go.SE.SV.int Go.IntKind.i64 (l.g i).tone] = [Go.SE.SV.int Go.IntKind.i64 (L.kept l e g i).edge, Go.SE.SV.int Go.IntKind.i64 (L.kept l e g i).place, Go.SE.SV.int Go.IntKind.i64 (L.kept l e g i).tone]) ∧ g ≤ l.n ∧ L.cnt (L.onE l e) g < g) ∧ ∀ (g : Nat), g ≤ l.n ∧ L.cnt (L.onE l e) g < g
 → (Decidable.decide ((↑g : Int) < (↑l.n : Int)) = Bool.true → ((0 : Int) ≤ (↑g : Int) ∧ (↑g : Int) < (↑l.n : Int)) ∧ Int.toNat (↑g : Int) < l.n ∧ True ∧ ((!!Decidable.decide ((L.kept l e g (Int.toNat (↑g : Int))).edge = e)) = Bool.true → ((0 : Int) ≤ (↑(L.cnt (L.onE l e) g) : Int) ∧ (↑(L.cnt (L.onE l e) g) : Int) < (↑l.n : Int)) ∧ Int.toNat (↑(L.cnt (L.onE l e) g) : Int) < l.n ∧ Go.SE.InK
 Go.IntKind.i64 ((↑(L.cnt (L.onE l e) g) : Int) + (1 : Int)) ∧ Go.SE.InK Go.IntKind.i64 ((↑g : Int) + (1 : Int)) ∧ ∃ (g' : Nat), (↑(L.cnt (L.onE l e) g) : Int) + (1 : Int) = (↑(L.cnt (L.onE l e) g') : Int) ∧ (↑g : Int) + (1 : Int) = (↑g' : Int) ∧ Go.SE.SV.clo (nat_lit 71) [Go.SE.SV.ref [Go.SE.SV.int Go.IntKind.i64 e] (nat_lit 0)] = Go.SE.SV.clo (nat_lit 71) [Go.SE.SV.ref [Go.SE.SV.int
 Go.IntKind.i64 e] (nat_lit 0)] ∧ (l.n = l.n ∧ ∀ (i : Nat), i < l.n → Go.SE.setRow (fun (i : Nat) ↦ [Go.SE.SV.int Go.IntKind.i64 (L.kept l e g i).edge, Go.SE.SV.int Go.IntKind.i64 (L.kept l e g i).place, Go.SE.SV.int Go.IntKind.i64 (L.kept l e g i).tone]) (Int.toNat (↑(L.cnt (L.onE l e) g) : Int)) (nat_lit 0) [Go.SE.SV.int Go.IntKind.i64 (L.kept l e g (Int.toNat (↑g : Int))).edge, Go.SE.SV.int
 Go.IntKind.i64 (L.kept l e g (Int.toNat (↑g : Int))).place, Go.SE.SV.int Go.IntKind.i64 (L.kept l e g (Int.toNat (↑g : Int))).tone] i = [Go.SE.SV.int Go.IntKind.i64 (L.kept l e g' i).edge, Go.SE.SV.int Go.IntKind.i64 (L.kept l e g' i).place, Go.SE.SV.int Go.IntKind.i64 (L.kept l e g' i).tone]) ∧ (g' ≤ l.n ∧ L.cnt (L.onE l e) g' < g') ∧ l.n - g' < l.n - g) ∧ ((!!Decidable.decide ((L.kept l e g
 (Int.toNat (↑g : Int))).edge = e)) = Bool.false → Go.SE.InK Go.IntKind.i64 ((↑g : Int) + (1 : Int)) ∧ ∃ (g' : Nat), (↑(L.cnt (L.onE l e) g) : Int) = (↑(L.cnt (L.onE l e) g') : Int) ∧ (↑g : Int) + (1 : Int) = (↑g' : Int) ∧ Go.SE.SV.clo (nat_lit 71) [Go.SE.SV.ref [Go.SE.SV.int Go.IntKind.i64 e] (nat_lit 0)] = Go.SE.SV.clo (nat_lit 71) [Go.SE.SV.ref [Go.SE.SV.int Go.IntKind.i64 e] (nat_lit 0)] ∧ (l.n
 = l.n ∧ ∀ (i : Nat), i < l.n → [Go.SE.SV.int Go.IntKind.i64 (L.kept l e g i).edge, Go.SE.SV.int Go.IntKind.i64 (L.kept l e g i).place, Go.SE.SV.int Go.IntKind.i64 (L.kept l e g i).tone] = [Go.SE.SV.int Go.IntKind.i64 (L.kept l e g' i).edge, Go.SE.SV.int Go.IntKind.i64 (L.kept l e g' i).place, Go.SE.SV.int Go.IntKind.i64 (L.kept l e g' i).tone]) ∧ (g' ≤ l.n ∧ L.cnt (L.onE l e) g' < g') ∧ l.n - g' <
 l.n - g)) ∧ (Decidable.decide ((↑g : Int) < (↑l.n : Int)) = Bool.false → ((0 : Int) ≤ (↑(L.cnt (L.onE l e) g) : Int) ∧ (↑(L.cnt (L.onE l e) g) : Int) ≤ (↑l.n : Int) ∧ (↑l.n : Int) ≤ (↑l.n : Int)) ∧ Int.toNat (↑(L.cnt (L.onE l e) g) : Int) + Int.toNat ((↑l.n : Int) - (↑(L.cnt (L.onE l e) g) : Int)) ≤ l.n ∧ ((0 : Int) ≤ (0 : Int) ∧ (0 : Int) ≤ (↑(L.cnt (L.onE l e) g) : Int) ∧ (↑(L.cnt (L.onE l e) g)
 : Int) ≤ (↑l.n : Int)) ∧ ∃ (u : Nat), (nat_lit 0 = (0 : Nat) ∧ Int.toNat ((↑(L.cnt (L.onE l e) g) : Int) - (0 : Int)) = L.cnt (L.onE l e) l.n) ∧ (l.n = l.n ∧ ∀ (i : Nat), i < l.n → Go.SE.clrGet (Int.toNat (↑(L.cnt (L.onE l e) g) : Int)) (Int.toNat ((↑l.n : Int) - (↑(L.cnt (L.onE l e) g) : Int))) [Go.SE.SV.int Go.IntKind.i64 (0 : Int), Go.SE.SV.int Go.IntKind.i64 (0 : Int), Go.SE.SV.int
 Go.IntKind.i64 (0 : Int)] (fun (i : Nat) ↦ [Go.SE.SV.int Go.IntKind.i64 (L.kept l e g i).edge, Go.SE.SV.int Go.IntKind.i64 (L.kept l e g i).place, Go.SE.SV.int Go.IntKind.i64 (L.kept l e g i).tone]) i = [Go.SE.SV.int Go.IntKind.i64 (L.cutM l e i).edge, Go.SE.SV.int Go.IntKind.i64 (L.cutM l e i).place, Go.SE.SV.int Go.IntKind.i64 (L.cutM l e i).tone]) ∧ True))) (by kernel_rfl) (by
    have hn : l.n ≤ 1000000 := hp
    have hc : ∀ j, L.cnt (L.onE l e) j ≤ j := fun j => cnt_le
    refine ⟨⟨fun _ _ => rfl, isB_of g_On1_B _, hn, fun _ _ => trivial⟩, ?_⟩
    have hidx := idx_spec (f := fun i => !L.onE l e i) (n := l.n)
    generalize hx : L.idx l.n _ = x
    have hx : L.idx l.n (fun i => !L.onE l e i) = x := hx
    rw [hx] at hidx
    refine ⟨fun h => ?_, fun h => ?_⟩
    · have h := of_decide_eq_true h
      rcases hidx with ⟨_, h2⟩ | ⟨i, _, h2, _⟩
      · obtain ⟨k1, k2⟩ := all_kept (p := L.onE l e) (n := l.n) (fun j hj => notF (h2 j hj))
        refine ⟨(0 : Nat), ⟨rfl, k1⟩, ⟨rfl, fun i hi => ?_⟩, trivial⟩
        have : L.cutM l e i = l.g i := by
          unfold L.cutM; rw [k1, decide_eq_true hi, k2 i hi]; rfl
        rw [this]
      · omega
    have h := of_decide_eq_false h
    rcases hidx with ⟨h1, _⟩ | ⟨i, hi, h2, h3, h4⟩
    · exact absurd h1 h
    have h3 : L.onE l e i = false := notT h3
    have h4 : ∀ j, j < i → L.onE l e j = true := fun j hj => notF (h4 j hj)
    have k1 : L.cnt (L.onE l e) (i + 1) = i := by rw [cnt_not h3]; exact (all_kept h4).1
    subst h2
    refine ⟨InK.of (by omega) (by omega), ⟨i + 1, by rw [k1], by omega, ⟨rfl, fun q _ => by rw [kept_first h4 h3 q]⟩, by omega, by omega⟩, fun g hg => ⟨fun hlt => ?_, fun hge => ?_⟩⟩
    · have hb : (g : Int) < (l.n : Int) := of_decide_eq_true hlt
      have e0 : ((g : Int)).toNat = g := by omega
      have e1 : ((L.cnt (L.onE l e) g : Nat) : Int).toNat = L.cnt (L.onE l e) g := by omega
      have hcg := hc g
      rw [e0, e1, kept_at]
      refine ⟨by omega, by omega, trivial, fun h1 => ?_, fun h1 => ?_⟩
      · have h1 : L.onE l e g = true := notF (notT h1)
        have c1 := cnt_yes h1
        refine ⟨by omega, by omega, InK.of (by omega) (by omega), InK.of (by omega) (by omega), g + 1, by omega, by omega, rfl, ⟨rfl, fun q hq => ?_⟩, ⟨by omega, by omega⟩, by omega⟩
        rw [kept_yes h1]
        unfold setRow
        by_cases eq : q = L.cnt (L.onE l e) g
        · rw [if_pos eq, if_pos eq]; rfl
        · rw [if_neg eq, if_neg eq]
      · have h1 : L.onE l e g = false := notT (notF h1)
        have c1 := cnt_not h1
        refine ⟨InK.of (by omega) (by omega), g + 1, by omega, by omega, rfl, ⟨rfl, fun q hq => by rw [kept_not h1]⟩, ⟨by omega, by omega⟩, by omega⟩
    · have hb : ¬ (g : Int) < (l.n : Int) := of_decide_eq_false hge
      obtain rfl : g = l.n := by omega
      have hcg := hc l.n
      have e1 : ((L.cnt (L.onE l e) l.n : Nat) : Int).toNat = L.cnt (L.onE l e) l.n := by omega
      have e2 : (((L.cnt (L.onE l e) l.n : Nat) : Int) - 0).toNat = L.cnt (L.onE l e) l.n := by omega
      have e3 : ((l.n : Int) - ((L.cnt (L.onE l e) l.n : Nat) : Int)).toNat = l.n - L.cnt (L.onE l e) l.n := by omega
      rw [e1, e2, e3]
      refine ⟨by omega, by omega, by omega, (0 : Nat), ⟨rfl, rfl⟩, ⟨rfl, fun q hq => ?_⟩, trivial⟩
      unfold clrGet
      by_cases hq' : q < L.cnt (L.onE l e) l.n
      · rw [if_neg (by omega), kept_end hq']
      · rw [if_pos ⟨by omega, by have hq : q < l.n := hq; omega⟩, cut_zero hq'])
theorem s_delFM_en : Enters Try.prog 69 := fun args w => by kernel_rfl
theorem s_delFM_tok : TrOk Try.prog 69 s_delFM_tr := tr_ok (ks := [1015]) (n := 2) Try.func69 (c := bodyOf Try.f69) (by kernel_rfl) mixed ⟨fun t => rfl, fun t => rfl, fun t u => rfl, fun t u => rfl, fun t u => rfl, by kernel_rfl⟩ (fun ⟨l, e⟩ hp => ⟨_, s_delFM_vc l e hp, ⟨show SpecsL Try.prog _ from (SpecsL.cons s_idxFM_ok s_idxFM_en (SpecsL.cons g_On1_ok g_On1_en SpecsL.nil)), rfl, ⟨show ItersL Try.prog _ from ItersL.nil, (TrsOk.none (fun _ => rfl))⟩⟩⟩)
def g_On_p (l : (L.Sq L.Mark)) (e : Int) : Prop := l.n ≤ 1000000
def g_On_r (l : (L.Sq L.Mark)) (e : Int) : SV := .tup [.sl 3 (L.onN l e) (fun k => [.int .i64 ((L.onG l e k).edge), .int .i64 ((L.onG l e k).place), .int .i64 ((L.onG l e k).tone)]), .int .i64 (bif L.onBad l e then 1 else 0)]
def g_On_s : List EV → Option (Prop × SV)
  | [.p (.sl 3 l_n l_g), .p (.int .i64 e)] => some ((∀ i, i < l_n → l_g i = [.int .i64 ((ofMark (l_g i)).edge), .int .i64 ((ofMark (l_g i)).place), .int .i64 ((ofMark (l_g i)).tone)]) ∧ g_On_p (⟨l_n, fun i => ofMark (l_g i)⟩ : (L.Sq L.Mark)) e, g_On_r (⟨l_n, fun i => ofMark (l_g i)⟩ : (L.Sq L.Mark)) e)
  | _ => none
abbrev g_On_S : SE.Spec := (specO g_On_s)
def g_On_C : Cfg := { muts := [15], frz := lookN [], specs := lookS [(58, g_validMarks_S), (52, g_within_S), (70, s_cloneM_S), (71, g_On1_S)], loops := lookL [], iters := lookI [], rfs := lookR [], nils := lookM [], trs := lookT [(69, s_delFM_tr)], ren := fun k => k - 1000 }
theorem g_On_vc (l : (L.Sq L.Mark)) (e : Int) (hp : g_On_p l e) : vc Try.prog (g_On_C) (bodyOf Try.f24) (st0 Try.f24 [.p (.sl 3 l.n (fun i => [.int .i64 ((l.g i).edge), .int .i64 ((l.g i).place), .int .i64 ((l.g i).tone)])), .p (.int .i64 e)]) (retFn Try.prog Try.f24 (g_On_r l e)) :=
  @Eq.mpr _ (((∀ (i : Nat), i < l.n → [Go.SE.SV.int Go.IntKind.i64 (l.g i).edge, Go.SE.SV.int Go.IntKind.i64 (l.g i).place, Go.SE.SV.int Go.IntKind.i64 (l.g i).tone] = [Go.SE.SV.int Go.IntKind.i64 (l.g i).edge, Go.SE.SV.int Go.IntKind.i64 (l.g i).place, Go.SE.SV.int Go.IntKind.i64 (l.g i).tone]) ∧ l.n ≤ (1000000 : Nat) ∧ (-1000000 : Int) ≤ (24 : Int) ∧ (24 : Int) ≤ (1000000 : Int)) ∧ ((!!L.vMarks (L.Sq.mk l.n
 fun (i : Nat) ↦ l.g i) (24 : Int)) = Bool.true → True) ∧ ((bif !L.vMarks (L.Sq.mk l.n fun (i : Nat) ↦ l.g i) (24 : Int) then Bool.true else !L.within e (0 : Int) (23 : Int)) = Bool.true → L.onN l e = (0 : Nat) ∧ (1 : Int) = bif L.onBad l e then (1 : Int) else (0 : Int)) ∧ ((bif !L.vMarks (L.Sq.mk l.n fun (i : Nat) ↦ l.g i) (24 : Int) then Bool.true else !L.within e (0 : Int) (23 : Int)) =
 Bool.false → ((∀ (i : Nat), i < l.n → [Go.SE.SV.int Go.IntKind.i64 (l.g i).edge, Go.SE.SV.int Go.IntKind.i64 (l.g i).place, Go.SE.SV.int Go.IntKind.i64 (l.g i).tone] = [Go.SE.SV.int Go.IntKind.i64 (l.g i).edge, Go.SE.SV.int Go.IntKind.i64 (l.g i).place, Go.SE.SV.int Go.IntKind.i64 (l.g i).tone]) ∧ l.n ≤ (1000000 : Nat)) ∧ ∀ (t : Nat), True → ∃ (t : L.Sq L.Mark × Int), Go.SE.SV.clo (nat_lit 71)
 [Go.SE.SV.ref [Go.SE.SV.int Go.IntKind.i64 e] (nat_lit 0)] = Go.SE.SV.clo (71 : Nat) [Go.SE.SV.ref [Go.SE.SV.int Go.IntKind.i64 t.2] (0 : Nat)] ∧ (l.n = t.1.n ∧ ∀ (i : Nat), i < l.n → [Go.SE.SV.int Go.IntKind.i64 (l.g i).edge, Go.SE.SV.int Go.IntKind.i64 (l.g i).place, Go.SE.SV.int Go.IntKind.i64 (l.g i).tone] = [Go.SE.SV.int Go.IntKind.i64 (t.1.g i).edge, Go.SE.SV.int Go.IntKind.i64 (t.1.g
 i).place, Go.SE.SV.int Go.IntKind.i64 (t.1.g i).tone]) ∧ t.1.n ≤ (1000000 : Nat) ∧ ∀ (u : Nat), True → nat_lit 0 + L.cnt (L.onE t.1 t.2) t.1.n ≤ t.1.n ∧ (L.cnt (L.onE t.1 t.2) t.1.n = L.onN l e ∧ ∀ (i : Nat), i < L.cnt (L.onE t.1 t.2) t.1.n → [Go.SE.SV.int Go.IntKind.i64 (L.cutM t.1 t.2 (nat_lit 0 + i)).edge, Go.SE.SV.int Go.IntKind.i64 (L.cutM t.1 t.2 (nat_lit 0 + i)).place, Go.SE.SV.int
 Go.IntKind.i64 (L.cutM t.1 t.2 (nat_lit 0 + i)).tone] = [Go.SE.SV.int Go.IntKind.i64 (L.onG l e i).edge, Go.SE.SV.int Go.IntKind.i64 (L.onG l e i).place, Go.SE.SV.int Go.IntKind.i64 (L.onG l e i).tone]) ∧ (0 : Int) = bif L.onBad l e then (1 : Int) else (0 : Int))) (by kernel_rfl) (by
    have hn : l.n ≤ 1000000 := hp
    refine ⟨⟨fun _ _ => rfl, hn, by decide, by decide⟩, fun _ => trivial, fun h => ?_, fun h => ⟨⟨fun _ _ => rfl, hn⟩, fun _ _ => ⟨(l, e), rfl, ⟨rfl, fun _ _ => rfl⟩, hn, fun _ _ => ⟨?_, ⟨?_, fun i hi => ?_⟩, ?_⟩⟩⟩⟩
    · have hb : L.onBad l e = true := h
      unfold L.onN; rw [hb]; exact ⟨rfl, rfl⟩
    · have := cnt_le (p := L.onE l e) (n := l.n)
      show 0 + L.cnt (L.onE l e) l.n ≤ l.n
      omega
    · have hb : L.onBad l e = false := h
      show L.cnt (L.onE l e) l.n = L.onN l e
      unfold L.onN; rw [hb]; rfl
    · have hi : i < L.cnt (L.onE l e) l.n := hi
      have : L.cutM l e (0 + i) = L.onG l e i := by
        rw [Nat.zero_add]; unfold L.cutM L.onG; rw [decide_eq_true hi]; rfl
      exact congrArg (fun m : L.Mark => ([.int .i64 m.edge, .int .i64 m.place, .int .i64 m.tone] : List SV)) this
    · have hb : L.onBad l e = false := h
      rw [hb]; rfl)
theorem g_On_ok : SpecOk Try.prog 24 g_On_S := fnX Try.func24 (c := bodyOf Try.f24) (by kernel_rfl) mixed (fun args p r hs hp => by
  unfold g_On_s at hs
  split at hs
  · cases hs; exact ⟨_, _, g_On_vc _ _ hp.2, (.p (.sl hp.1) (.same _ .nil)), ⟨show SpecsL Try.prog _ from (SpecsL.cons g_validMarks_ok g_validMarks_en (SpecsL.cons g_within_ok g_within_en (SpecsL.cons s_cloneM_ok s_cloneM_en (SpecsL.cons g_On1_ok g_On1_en SpecsL.nil)))), rfl, ⟨show ItersL Try.prog _ from ItersL.nil, (show TrsL Try.prog _ from (TrsL.cons s_delFM_tok s_delFM_en TrsL.nil))⟩⟩⟩
  · cases hs)
theorem g_On_en : Enters Try.prog 24 := fun args w => by kernel_rfl
def g_Count_p (l : (L.Sq L.Mark)) (e : Int) (s : L.Span) : Prop := l.n ≤ 1000000
def g_Count_r (l : (L.Sq L.Mark)) (e : Int) (s : L.Span) : SV := .tup [.int .i64 (L.cnt (L.inS l e s) (L.onN l e) : Int), .int .i64 (bif L.onBad l e then 1 else 0)]
def g_Count_s : List EV → Option (Prop × SV)
  | [.p (.sl 3 l_n l_g), .p (.int .i64 e), .p (.agg [.int .i64 s_lo, .int .i64 s_hi])] => some ((∀ i, i < l_n → l_g i = [.int .i64 ((ofMark (l_g i)).edge), .int .i64 ((ofMark (l_g i)).place), .int .i64 ((ofMark (l_g i)).tone)]) ∧ g_Count_p (⟨l_n, fun i => ofMark (l_g i)⟩ : (L.Sq L.Mark)) e (⟨s_lo, s_hi⟩ : L.Span), g_Count_r (⟨l_n, fun i => ofMark (l_g i)⟩ : (L.Sq L.Mark)) e (⟨s_lo, s_hi⟩ : L.Span))
  | _ => none
abbrev g_Count_S : SE.Spec := (specO g_Count_s)
def g_Count_C : Cfg := { muts := [], frz := lookN [], specs := lookS [(24, g_On_S), (72, g_in_S)], loops := fun _ => none, iters := lookI [], rfs := lookR [], nils := lookM [] }
theorem g_Count_vc (l : (L.Sq L.Mark)) (e : Int) (s : L.Span) (hp : g_Count_p l e s) : vc Try.prog ({ g_Count_C with loops := lookL [(4, { T := Nat, keep := [5, 9, 19, 20], keepO := [], chg := fun i => [(10, .p (.int .i64 (L.cnt (L.inS l e s) i : Int))), (21, .p (.int .i64 (i : Int)))], own := fun _ => [], inv := fun i => i ≤ L.onN l e, mu := fun i => L.onN l e - i })], rfs := lookR [] }) (bodyOf Try.f26) (st0 Try.f26 [.p (.sl 3 l.n (fun i => [.int .i64 ((l.g i).edge), .int .i64 ((l.g i).place), .int .i64 ((l.g i).tone)])), .p (.int .i64 e), .p (.agg [.int .i64 s.lo, .int .i64 s.hi])]) (retFn Try.prog Try.f26 (g_Count_r l e s)) :=
  @Eq.mpr _ (((∀ (i : Nat), i < l.n → [Go.SE.SV.int Go.IntKind.i64 (l.g i).edge, Go.SE.SV.int Go.IntKind.i64 (l.g i).place, Go.SE.SV.int Go.IntKind.i64 (l.g i).tone] = [Go.SE.SV.int Go.IntKind.i64 (l.g i).edge, Go.SE.SV.int Go.IntKind.i64 (l.g i).place, Go.SE.SV.int Go.IntKind.i64 (l.g i).tone]) ∧ l.n ≤ (1000000 : Nat)) ∧ (∃ (g : Nat), (0 : Int) = (↑(L.cnt (L.inS l e s) g) : Int) ∧ (0 : Int) = (↑g : Int) ∧ g ≤
 L.onN l e) ∧ ∀ (g : Nat), g ≤ L.onN l e → (Decidable.decide ((↑g : Int) < (↑(L.onN (L.Sq.mk l.n fun (i : Nat) ↦ l.g i) e) : Int)) = Bool.true → ((0 : Int) ≤ (↑g : Int) ∧ (↑g : Int) < (↑(L.onN (L.Sq.mk l.n fun (i : Nat) ↦ l.g i) e) : Int)) ∧ True ∧ (L.within (L.onG (L.Sq.mk l.n fun (i : Nat) ↦ l.g i) e (Int.toNat (↑g : Int))).place s.lo s.hi = Bool.true → Go.SE.InK Go.IntKind.i64 ((↑(L.cnt (L.inS l
 e s) g) : Int) + (1 : Int)) ∧ Go.SE.InK Go.IntKind.i64 ((↑g : Int) + (1 : Int)) ∧ ∃ (g' : Nat), (↑(L.cnt (L.inS l e s) g) : Int) + (1 : Int) = (↑(L.cnt (L.inS l e s) g') : Int) ∧ (↑g : Int) + (1 : Int) = (↑g' : Int) ∧ (↑(L.onN (L.Sq.mk l.n fun (i : Nat) ↦ l.g i) e) : Int) = (↑(L.onN (L.Sq.mk l.n fun (i : Nat) ↦ l.g i) e) : Int) ∧ (L.onN (L.Sq.mk l.n fun (i : Nat) ↦ l.g i) e = L.onN (L.Sq.mk l.n
 fun (i : Nat) ↦ l.g i) e ∧ ∀ (i : Nat), i < L.onN (L.Sq.mk l.n fun (i : Nat) ↦ l.g i) e → [Go.SE.SV.int Go.IntKind.i64 (L.onG (L.Sq.mk l.n fun (i : Nat) ↦ l.g i) e i).edge, Go.SE.SV.int Go.IntKind.i64 (L.onG (L.Sq.mk l.n fun (i : Nat) ↦ l.g i) e i).place, Go.SE.SV.int Go.IntKind.i64 (L.onG (L.Sq.mk l.n fun (i : Nat) ↦ l.g i) e i).tone] = [Go.SE.SV.int Go.IntKind.i64 (L.onG (L.Sq.mk l.n fun (i :
 Nat) ↦ l.g i) e i).edge, Go.SE.SV.int Go.IntKind.i64 (L.onG (L.Sq.mk l.n fun (i : Nat) ↦ l.g i) e i).place, Go.SE.SV.int Go.IntKind.i64 (L.onG (L.Sq.mk l.n fun (i : Nat) ↦ l.g i) e i).tone]) ∧ ((bif L.onBad (L.Sq.mk l.n fun (i : Nat) ↦ l.g i) e then (1 : Int) else (0 : Int)) = bif L.onBad (L.Sq.mk l.n fun (i : Nat) ↦ l.g i) e then (1 : Int) else (0 : Int)) ∧ Go.SE.SV.ref [Go.SE.SV.int
 Go.IntKind.i64 s.lo, Go.SE.SV.int Go.IntKind.i64 s.hi] (nat_lit 0) = Go.SE.SV.ref [Go.SE.SV.int Go.IntKind.i64 s.lo, Go.SE.SV.int Go.IntKind.i64 s.hi] (nat_lit 0) ∧ g' ≤ L.onN l e ∧ L.onN l e - g' < L.onN l e - g) ∧ (L.within (L.onG (L.Sq.mk l.n fun (i : Nat) ↦ l.g i) e (Int.toNat (↑g : Int))).place s.lo s.hi = Bool.false → Go.SE.InK Go.IntKind.i64 ((↑g : Int) + (1 : Int)) ∧ ∃ (g' : Nat), (↑(L.cnt
 (L.inS l e s) g) : Int) = (↑(L.cnt (L.inS l e s) g') : Int) ∧ (↑g : Int) + (1 : Int) = (↑g' : Int) ∧ (↑(L.onN (L.Sq.mk l.n fun (i : Nat) ↦ l.g i) e) : Int) = (↑(L.onN (L.Sq.mk l.n fun (i : Nat) ↦ l.g i) e) : Int) ∧ (L.onN (L.Sq.mk l.n fun (i : Nat) ↦ l.g i) e = L.onN (L.Sq.mk l.n fun (i : Nat) ↦ l.g i) e ∧ ∀ (i : Nat), i < L.onN (L.Sq.mk l.n fun (i : Nat) ↦ l.g i) e → [Go.SE.SV.int Go.IntKind.i64
 (L.onG (L.Sq.mk l.n fun (i : Nat) ↦ l.g i) e i).edge, Go.SE.SV.int Go.IntKind.i64 (L.onG (L.Sq.mk l.n fun (i : Nat) ↦ l.g i) e i).place, Go.SE.SV.int Go.IntKind.i64 (L.onG (L.Sq.mk l.n fun (i : Nat) ↦ l.g i) e i).tone] = [Go.SE.SV.int Go.IntKind.i64 (L.onG (L.Sq.mk l.n fun (i : Nat) ↦ l.g i) e i).edge, Go.SE.SV.int Go.IntKind.i64 (L.onG (L.Sq.mk l.n fun (i : Nat) ↦ l.g i) e i).place, Go.SE.SV.int
 Go.IntKind.i64 (L.onG (L.Sq.mk l.n fun (i : Nat) ↦ l.g i) e i).tone]) ∧ ((bif L.onBad (L.Sq.mk l.n fun (i : Nat) ↦ l.g i) e then (1 : Int) else (0 : Int)) = bif L.onBad (L.Sq.mk l.n fun (i : Nat) ↦ l.g i) e then (1 : Int) else (0 : Int)) ∧ Go.SE.SV.ref [Go.SE.SV.int Go.IntKind.i64 s.lo, Go.SE.SV.int Go.IntKind.i64 s.hi] (nat_lit 0) = Go.SE.SV.ref [Go.SE.SV.int Go.IntKind.i64 s.lo, Go.SE.SV.int
 Go.IntKind.i64 s.hi] (nat_lit 0) ∧ g' ≤ L.onN l e ∧ L.onN l e - g' < L.onN l e - g)) ∧ (Decidable.decide ((↑g : Int) < (↑(L.onN (L.Sq.mk l.n fun (i : Nat) ↦ l.g i) e) : Int)) = Bool.false → (↑(L.cnt (L.inS l e s) g) : Int) = (↑(L.cnt (L.inS l e s) (L.onN l e)) : Int) ∧ (bif L.onBad (L.Sq.mk l.n fun (i : Nat) ↦ l.g i) e then (1 : Int) else (0 : Int)) = bif L.onBad l e then (1 : Int) else (0 : Int))) (by kernel_rfl) (by
    have hn : l.n ≤ 1000000 := hp
    have ho : L.onN l e ≤ 1000000 := by
      unfold L.onN
      cases L.onBad l e
      · exact Nat.le_trans cnt_le hn
      · exact Nat.zero_le _
    have hc : ∀ j, L.cnt (L.inS l e s) j ≤ j := fun j => cnt_le
    refine ⟨⟨fun _ _ => rfl, hn⟩, ⟨(0 : Nat), rfl, rfl, Nat.zero_le _⟩, fun g hg => ⟨fun hlt => ?_, fun hge => ?_⟩⟩
    · have hb : (g : Int) < (L.onN l e : Int) := of_decide_eq_true hlt
      have e0 : ((g : Int)).toNat = g := by omega
      have hcg := hc g
      rw [e0]
      refine ⟨⟨by omega, hb⟩, trivial, fun h1 => ?_, fun h1 => ?_⟩
      · have h1 : L.inS l e s g = true := h1
        have c1 := cnt_yes h1
        exact ⟨InK.of (by omega) (by omega), InK.of (by omega) (by omega), g + 1, by omega, by omega, rfl, ⟨rfl, fun _ _ => rfl⟩, rfl, rfl, by omega, by omega⟩
      · have h1 : L.inS l e s g = false := h1
        have c1 := cnt_not h1
        exact ⟨InK.of (by omega) (by omega), g + 1, by omega, by omega, rfl, ⟨rfl, fun _ _ => rfl⟩, rfl, rfl, by omega, by omega⟩
    · have hb : ¬ (g : Int) < (L.onN l e : Int) := of_decide_eq_false hge
      obtain rfl : g = L.onN l e := by omega
      exact ⟨rfl, rfl⟩)
theorem g_Count_ok : SpecOk Try.prog 26 g_Count_S := fnX Try.func26 (c := bodyOf Try.f26) (by kernel_rfl) mixed (fun args p r hs hp => by
  unfold g_Count_s at hs
  split at hs
  · cases hs; exact ⟨_, _, g_Count_vc _ _ _ hp.2, (.p (.sl hp.1) (.same _ (.same _ .nil))), ⟨show SpecsL Try.prog _ from (SpecsL.cons g_On_ok g_On_en (SpecsL.cons g_in_ok g_in_en SpecsL.nil)), rfl, ⟨show ItersL Try.prog _ from ItersL.nil, (TrsOk.none (fun _ => rfl))⟩⟩⟩
  · cases hs)
theorem g_Count_en : Enters Try.prog 26 := fun args w => by kernel_rfl
def r3_On_p (l : (L.Sq L.Mark)) (e : Int) : Prop := l.n ≤ 1000000
def r3_On_r (l : (L.Sq L.Mark)) (e : Int) : SV := .tup [.sl 3 (L.onN l e) (fun k => [.int .i64 ((L.onG l e k).edge), .int .i64 ((L.onG l e k).place), .int .i64 ((L.onG l e k).tone)]), .int .i64 (bif L.onBad l e then 1 else 0)]
def r3_On_s : List EV → Option (Prop × SV)
  | [.p (.sl 3 l_n l_g), .p (.int .i64 e)] => some ((∀ i, i < l_n → l_g i = [.int .i64 ((ofMark (l_g i)).edge), .int .i64 ((ofMark (l_g i)).place), .int .i64 ((ofMark (l_g i)).tone)]) ∧ r3_On_p (⟨l_n, fun i => ofMark (l_g i)⟩ : (L.Sq L.Mark)) e, r3_On_r (⟨l_n, fun i => ofMark (l_g i)⟩ : (L.Sq L.Mark)) e)
  | _ => none
abbrev r3_On_S : SE.Spec := (specO r3_On_s)
def r3_On_C : Cfg := { muts := [], frz := lookN [], specs := lookS [(59, r3_within_S), (61, r3_marks_S)], loops := fun _ => none, iters := lookI [], rfs := lookR [], nils := lookM [(9, [(7, 28, 30, 3)])] }
theorem r3_On_vc (l : (L.Sq L.Mark)) (e : Int) (hp : r3_On_p l e) : vc Try.prog ({ r3_On_C with loops := lookL [(2, { T := Nat, keep := [0, 1], keepO := [], chg := fun i => [(6, .p (.int .i64 (i : Int)))], own := fun _ => [], inv := fun i => i ≤ l.n ∧ ∀ j, j < i → L.within (l.g j).edge 0 23 = true, mu := fun i => l.n - i }), (10, { T := Nat, keep := [0, 1, 7], keepO := [], chg := fun i => [(8, .p (.int .i64 (i : Int)))], own := fun i => [(28, .row 30 3 (L.cnt (L.onE l e) i) (fun k => [.int .i64 ((l.g (L.selN (L.onE l e) i k)).edge), .int .i64 ((l.g (L.selN (L.onE l e) i k)).place), .int .i64 ((l.g (L.selN (L.onE l e) i k)).tone)]))], inv := fun i => i ≤ l.n, mu := fun i => l.n - i })], rfs := lookR [] }) (bodyOf Try.f25) (st0 Try.f25 [.p (.sl 3 l.n (fun i => [.int .i64 ((l.g i).edge), .int .i64 ((l.g i).place), .int .i64 ((l.g i).tone)])), .p (.int .i64 e)]) (retFn Try.prog Try.f25 (r3_On_r l e)) :=
  @Eq.mpr _ ((∃ (g : Nat), (0 : Int) = (↑g : Int) ∧ g ≤ l.n ∧ ∀ (j : Nat), j < g → L.within (l.g j).edge (0 : Int) (23 : Int) = Bool.true) ∧ ∀ (g : Nat), (g ≤ l.n ∧ ∀ (j : Nat), j < g → L.within (l.g j).edge (0 : Int) (23 : Int) = Bool.true) → (Decidable.decide ((↑g : Int) < (↑l.n : Int)) = Bool.true → ((0 : Int) ≤ (↑g : Int) ∧ (↑g : Int) < (↑l.n : Int)) ∧ True ∧ ((!L.within (l.g (Int.toNat (↑g : Int))).edge
 (0 : Int) (23 : Int)) = Bool.true → L.onN l e = (0 : Nat) ∧ (1 : Int) = bif L.onBad l e then (1 : Int) else (0 : Int)) ∧ ((!L.within (l.g (Int.toNat (↑g : Int))).edge (0 : Int) (23 : Int)) = Bool.false → Go.SE.InK Go.IntKind.i64 ((↑g : Int) + (1 : Int)) ∧ ∃ (g' : Nat), (↑g : Int) + (1 : Int) = (↑g' : Int) ∧ (l.n = l.n ∧ ∀ (i : Nat), i < l.n → [Go.SE.SV.int Go.IntKind.i64 (l.g i).edge, Go.SE.SV.int
 Go.IntKind.i64 (l.g i).place, Go.SE.SV.int Go.IntKind.i64 (l.g i).tone] = [Go.SE.SV.int Go.IntKind.i64 (l.g i).edge, Go.SE.SV.int Go.IntKind.i64 (l.g i).place, Go.SE.SV.int Go.IntKind.i64 (l.g i).tone]) ∧ e = e ∧ (g' ≤ l.n ∧ ∀ (j : Nat), j < g' → L.within (l.g j).edge (0 : Int) (23 : Int) = Bool.true) ∧ l.n - g' < l.n - g)) ∧ (Decidable.decide ((↑g : Int) < (↑l.n : Int)) = Bool.false → ((∀ (i :
 Nat), i < l.n → [Go.SE.SV.int Go.IntKind.i64 (l.g i).edge, Go.SE.SV.int Go.IntKind.i64 (l.g i).place, Go.SE.SV.int Go.IntKind.i64 (l.g i).tone] = [Go.SE.SV.int Go.IntKind.i64 (l.g i).edge, Go.SE.SV.int Go.IntKind.i64 (l.g i).place, Go.SE.SV.int Go.IntKind.i64 (l.g i).tone]) ∧ True) ∧ ((!!L.marks (L.Sq.mk l.n fun (i : Nat) ↦ l.g i)) = Bool.true → True) ∧ ((bif !L.marks (L.Sq.mk l.n fun (i : Nat) ↦
 l.g i) then Bool.true else !L.within e (0 : Int) (23 : Int)) = Bool.true → L.onN l e = (0 : Nat) ∧ (1 : Int) = bif L.onBad l e then (1 : Int) else (0 : Int)) ∧ ((bif !L.marks (L.Sq.mk l.n fun (i : Nat) ↦ l.g i) then Bool.true else !L.within e (0 : Int) (23 : Int)) = Bool.false → (∃ (g : Nat), (0 : Int) = (↑g : Int) ∧ (nat_lit 0 = L.cnt (L.onE l e) g ∧ ∀ (i : Nat), i < nat_lit 0 → [] =
 [Go.SE.SV.int Go.IntKind.i64 (l.g (L.selN (L.onE l e) g i)).edge, Go.SE.SV.int Go.IntKind.i64 (l.g (L.selN (L.onE l e) g i)).place, Go.SE.SV.int Go.IntKind.i64 (l.g (L.selN (L.onE l e) g i)).tone]) ∧ g ≤ l.n) ∧ ∀ (g_1 : Nat), g_1 ≤ l.n → (Decidable.decide ((↑g_1 : Int) < (↑l.n : Int)) = Bool.true → ((0 : Int) ≤ (↑g_1 : Int) ∧ (↑g_1 : Int) < (↑l.n : Int)) ∧ (Decidable.decide ((l.g (Int.toNat (↑g_1
 : Int))).edge = e) = Bool.true → ((0 : Int) ≤ (↑g_1 : Int) ∧ (↑g_1 : Int) < (↑l.n : Int)) ∧ (L.cnt (L.onE l e) g_1 + nat_lit 1) * nat_lit 24 ≤ (140737488355328 : Nat) ∧ Go.SE.InK Go.IntKind.i64 ((↑g_1 : Int) + (1 : Int)) ∧ ∃ (g' : Nat), (↑g_1 : Int) + (1 : Int) = (↑g' : Int) ∧ (l.n = l.n ∧ ∀ (i : Nat), i < l.n → [Go.SE.SV.int Go.IntKind.i64 (l.g i).edge, Go.SE.SV.int Go.IntKind.i64 (l.g i).place,
 Go.SE.SV.int Go.IntKind.i64 (l.g i).tone] = [Go.SE.SV.int Go.IntKind.i64 (l.g i).edge, Go.SE.SV.int Go.IntKind.i64 (l.g i).place, Go.SE.SV.int Go.IntKind.i64 (l.g i).tone]) ∧ e = e ∧ (L.cnt (L.onE l e) g_1 + nat_lit 1 = L.cnt (L.onE l e) g' ∧ ∀ (i : Nat), i < L.cnt (L.onE l e) g_1 + nat_lit 1 → Go.SE.appGet (L.cnt (L.onE l e) g_1) (fun (k : Nat) ↦ [Go.SE.SV.int Go.IntKind.i64 (l.g (L.selN (L.onE l
 e) g_1 k)).edge, Go.SE.SV.int Go.IntKind.i64 (l.g (L.selN (L.onE l e) g_1 k)).place, Go.SE.SV.int Go.IntKind.i64 (l.g (L.selN (L.onE l e) g_1 k)).tone]) (fun (x : Nat) ↦ [Go.SE.SV.int Go.IntKind.i64 (l.g (Int.toNat (↑g_1 : Int))).edge, Go.SE.SV.int Go.IntKind.i64 (l.g (Int.toNat (↑g_1 : Int))).place, Go.SE.SV.int Go.IntKind.i64 (l.g (Int.toNat (↑g_1 : Int))).tone]) i = [Go.SE.SV.int Go.IntKind.i64
 (l.g (L.selN (L.onE l e) g' i)).edge, Go.SE.SV.int Go.IntKind.i64 (l.g (L.selN (L.onE l e) g' i)).place, Go.SE.SV.int Go.IntKind.i64 (l.g (L.selN (L.onE l e) g' i)).tone]) ∧ g' ≤ l.n ∧ l.n - g' < l.n - g_1) ∧ (Decidable.decide ((l.g (Int.toNat (↑g_1 : Int))).edge = e) = Bool.false → Go.SE.InK Go.IntKind.i64 ((↑g_1 : Int) + (1 : Int)) ∧ ∃ (g' : Nat), (↑g_1 : Int) + (1 : Int) = (↑g' : Int) ∧ (l.n =
 l.n ∧ ∀ (i : Nat), i < l.n → [Go.SE.SV.int Go.IntKind.i64 (l.g i).edge, Go.SE.SV.int Go.IntKind.i64 (l.g i).place, Go.SE.SV.int Go.IntKind.i64 (l.g i).tone] = [Go.SE.SV.int Go.IntKind.i64 (l.g i).edge, Go.SE.SV.int Go.IntKind.i64 (l.g i).place, Go.SE.SV.int Go.IntKind.i64 (l.g i).tone]) ∧ e = e ∧ (L.cnt (L.onE l e) g_1 = L.cnt (L.onE l e) g' ∧ ∀ (i : Nat), i < L.cnt (L.onE l e) g_1 → [Go.SE.SV.int
 Go.IntKind.i64 (l.g (L.selN (L.onE l e) g_1 i)).edge, Go.SE.SV.int Go.IntKind.i64 (l.g (L.selN (L.onE l e) g_1 i)).place, Go.SE.SV.int Go.IntKind.i64 (l.g (L.selN (L.onE l e) g_1 i)).tone] = [Go.SE.SV.int Go.IntKind.i64 (l.g (L.selN (L.onE l e) g' i)).edge, Go.SE.SV.int Go.IntKind.i64 (l.g (L.selN (L.onE l e) g' i)).place, Go.SE.SV.int Go.IntKind.i64 (l.g (L.selN (L.onE l e) g' i)).tone]) ∧ g' ≤
 l.n ∧ l.n - g' < l.n - g_1)) ∧ (Decidable.decide ((↑g_1 : Int) < (↑l.n : Int)) = Bool.false → (L.cnt (L.onE l e) g_1 = L.onN l e ∧ ∀ (i : Nat), i < L.cnt (L.onE l e) g_1 → [Go.SE.SV.int Go.IntKind.i64 (l.g (L.selN (L.onE l e) g_1 i)).edge, Go.SE.SV.int Go.IntKind.i64 (l.g (L.selN (L.onE l e) g_1 i)).place, Go.SE.SV.int Go.IntKind.i64 (l.g (L.selN (L.onE l e) g_1 i)).tone] = [Go.SE.SV.int
 Go.IntKind.i64 (L.onG l e i).edge, Go.SE.SV.int Go.IntKind.i64 (L.onG l e i).place, Go.SE.SV.int Go.IntKind.i64 (L.onG l e i).tone]) ∧ (0 : Int) = bif L.onBad l e then (1 : Int) else (0 : Int))))) (by kernel_rfl) (by
    have hn : l.n ≤ 1000000 := hp
    have hc : ∀ j, L.cnt (L.onE l e) j ≤ j := fun j => cnt_le
    have bad : L.onBad l e = true → L.onN l e = 0 ∧ (1 : Int) = bif L.onBad l e then 1 else 0 := fun hb => by
      unfold L.onN; rw [hb]; exact ⟨rfl, rfl⟩
    refine ⟨⟨(0 : Nat), rfl, Nat.zero_le _, fun j hj => absurd hj (Nat.not_lt_zero _)⟩, fun g hg => ⟨fun hlt => ?_, fun hge => ?_⟩⟩
    · have hb : (g : Int) < (l.n : Int) := of_decide_eq_true hlt
      have e0 : ((g : Int)).toNat = g := by omega
      rw [e0]
      refine ⟨by omega, trivial, fun h1 => bad ?_, fun h1 => ?_⟩
      · have : L.edges l 24 = false := allB_false (i := g) (by omega) (notT h1)
        unfold L.onBad L.vMarks; rw [this]; rfl
      · exact ⟨InK.of (by omega) (by omega), g + 1, by omega, ⟨rfl, fun _ _ => rfl⟩, rfl, ⟨by omega, fun j hj => by
          rcases Nat.lt_succ_iff_lt_or_eq.1 hj with h' | rfl
          · exact hg.2 j h'
          · exact notF h1⟩, by omega⟩
    have hb : ¬ (g : Int) < (l.n : Int) := of_decide_eq_false hge
    have hE : L.edges l 24 = true := allB_iff.2 (fun i hi => hg.2 i (by omega))
    have hvm : L.vMarks l 24 = L.marks l := by unfold L.vMarks; rw [hE]; rfl
    refine ⟨⟨fun _ _ => rfl, trivial⟩, fun _ => trivial, fun h => bad ?_, fun h => ?_⟩
    · unfold L.onBad; rw [hvm]; exact h
    have hbad : L.onBad l e = false := by unfold L.onBad; rw [hvm]; exact h
    refine ⟨⟨(0 : Nat), rfl, ⟨rfl, fun i hi => absurd hi (Nat.not_lt_zero _)⟩, Nat.zero_le _⟩, fun k hk => ⟨fun hlt2 => ?_, fun hge2 => ?_⟩⟩
    · have hb2 : (k : Int) < (l.n : Int) := of_decide_eq_true hlt2
      have e0 : ((k : Int)).toNat = k := by omega
      have hck := hc k
      rw [e0]
      refine ⟨by omega, fun h1 => ?_, fun h1 => ?_⟩
      · have h1 : L.onE l e k = true := h1
        have c1 := cnt_yes h1
        refine ⟨by omega, show (L.cnt (L.onE l e) k + 1) * 24 ≤ 140737488355328 by omega, InK.of (by omega) (by omega), k + 1, by omega, ⟨rfl, fun _ _ => rfl⟩, rfl, ⟨c1.symm, fun i hi => ?_⟩, by omega, by omega⟩
        have hi : i < L.cnt (L.onE l e) k + 1 := hi
        unfold appGet
        by_cases h' : i < L.cnt (L.onE l e) k
        · rw [if_pos h', selN_old (Nat.ne_of_lt h')]
        · have : i = L.cnt (L.onE l e) k := by omega
          rw [if_neg h', this, selN_new h1]
      · have h1 : L.onE l e k = false := h1
        have c1 := cnt_not h1
        exact ⟨InK.of (by omega) (by omega), k + 1, by omega, ⟨rfl, fun _ _ => rfl⟩, rfl, ⟨c1.symm, fun i hi => by rw [selN_not h1]⟩, by omega, by omega⟩
    · have hb2 : ¬ (k : Int) < (l.n : Int) := of_decide_eq_false hge2
      obtain rfl : k = l.n := by omega
      refine ⟨⟨?_, fun _ _ => rfl⟩, by rw [hbad]; rfl⟩
      unfold L.onN; rw [hbad]; rfl)
theorem r3_On_ok : SpecOk Try.prog 25 r3_On_S := fnX Try.func25 (c := bodyOf Try.f25) (by kernel_rfl) mixed (fun args p r hs hp => by
  unfold r3_On_s at hs
  split at hs
  · cases hs; exact ⟨_, _, r3_On_vc _ _ hp.2, (.p (.sl hp.1) (.same _ .nil)), ⟨show SpecsL Try.prog _ from (SpecsL.cons r3_within_ok r3_within_en (SpecsL.cons r3_marks_ok r3_marks_en SpecsL.nil)), rfl, ⟨show ItersL Try.prog _ from ItersL.nil, (TrsOk.none (fun _ => rfl))⟩⟩⟩
  · cases hs)
theorem r3_On_en : Enters Try.prog 25 := fun args w => by kernel_rfl
def r3_Count_p (l : (L.Sq L.Mark)) (e : Int) (s : L.Span) : Prop := l.n ≤ 1000000
def r3_Count_r (l : (L.Sq L.Mark)) (e : Int) (s : L.Span) : SV := .tup [.int .i64 (L.cnt (L.inS l e s) (L.onN l e) : Int), .int .i64 (bif L.onBad l e then 1 else 0)]
def r3_Count_s : List EV → Option (Prop × SV)
  | [.p (.sl 3 l_n l_g), .p (.int .i64 e), .p (.agg [.int .i64 s_lo, .int .i64 s_hi])] => some ((∀ i, i < l_n → l_g i = [.int .i64 ((ofMark (l_g i)).edge), .int .i64 ((ofMark (l_g i)).place), .int .i64 ((ofMark (l_g i)).tone)]) ∧ r3_Count_p (⟨l_n, fun i => ofMark (l_g i)⟩ : (L.Sq L.Mark)) e (⟨s_lo, s_hi⟩ : L.Span), r3_Count_r (⟨l_n, fun i => ofMark (l_g i)⟩ : (L.Sq L.Mark)) e (⟨s_lo, s_hi⟩ : L.Span))
  | _ => none
abbrev r3_Count_S : SE.Spec := (specO r3_Count_s)
def r3_Count_C : Cfg := { muts := [], frz := lookN [], specs := lookS [(25, r3_On_S), (59, r3_within_S)], loops := fun _ => none, iters := lookI [], rfs := lookR [], nils := lookM [] }
theorem r3_Count_vc (l : (L.Sq L.Mark)) (e : Int) (s : L.Span) (hp : r3_Count_p l e s) : vc Try.prog ({ r3_Count_C with loops := lookL [(4, { T := Nat, keep := [5, 8, 9], keepO := [], chg := fun i => [(10, .p (.int .i64 (L.cnt (L.inS l e s) i : Int))), (11, .p (.int .i64 (i : Int)))], own := fun _ => [], inv := fun i => i ≤ L.onN l e, mu := fun i => L.onN l e - i })], rfs := lookR [] }) (bodyOf Try.f27) (st0 Try.f27 [.p (.sl 3 l.n (fun i => [.int .i64 ((l.g i).edge), .int .i64 ((l.g i).place), .int .i64 ((l.g i).tone)])), .p (.int .i64 e), .p (.agg [.int .i64 s.lo, .int .i64 s.hi])]) (retFn Try.prog Try.f27 (r3_Count_r l e s)) :=
  @Eq.mpr _ (((∀ (i : Nat), i < l.n → [Go.SE.SV.int Go.IntKind.i64 (l.g i).edge, Go.SE.SV.int Go.IntKind.i64 (l.g i).place, Go.SE.SV.int Go.IntKind.i64 (l.g i).tone] = [Go.SE.SV.int Go.IntKind.i64 (l.g i).edge, Go.SE.SV.int Go.IntKind.i64 (l.g i).place, Go.SE.SV.int Go.IntKind.i64 (l.g i).tone]) ∧ l.n ≤ (1000000 : Nat)) ∧ (∃ (g : Nat), (0 : Int) = (↑(L.cnt (L.inS l e s) g) : Int) ∧ (0 : Int) = (↑g : Int) ∧ g ≤
 L.onN l e) ∧ ∀ (g : Nat), g ≤ L.onN l e → (Decidable.decide ((↑g : Int) < (↑(L.onN (L.Sq.mk l.n fun (i : Nat) ↦ l.g i) e) : Int)) = Bool.true → ((0 : Int) ≤ (↑g : Int) ∧ (↑g : Int) < (↑(L.onN (L.Sq.mk l.n fun (i : Nat) ↦ l.g i) e) : Int)) ∧ True ∧ (L.within (L.onG (L.Sq.mk l.n fun (i : Nat) ↦ l.g i) e (Int.toNat (↑g : Int))).place s.lo s.hi = Bool.true → Go.SE.InK Go.IntKind.i64 ((↑(L.cnt (L.inS l
 e s) g) : Int) + (1 : Int)) ∧ Go.SE.InK Go.IntKind.i64 ((↑g : Int) + (1 : Int)) ∧ ∃ (g' : Nat), (↑(L.cnt (L.inS l e s) g) : Int) + (1 : Int) = (↑(L.cnt (L.inS l e s) g') : Int) ∧ (↑g : Int) + (1 : Int) = (↑g' : Int) ∧ ((bif L.onBad (L.Sq.mk l.n fun (i : Nat) ↦ l.g i) e then (1 : Int) else (0 : Int)) = bif L.onBad (L.Sq.mk l.n fun (i : Nat) ↦ l.g i) e then (1 : Int) else (0 : Int)) ∧ (L.onN
 (L.Sq.mk l.n fun (i : Nat) ↦ l.g i) e = L.onN (L.Sq.mk l.n fun (i : Nat) ↦ l.g i) e ∧ ∀ (i : Nat), i < L.onN (L.Sq.mk l.n fun (i : Nat) ↦ l.g i) e → [Go.SE.SV.int Go.IntKind.i64 (L.onG (L.Sq.mk l.n fun (i : Nat) ↦ l.g i) e i).edge, Go.SE.SV.int Go.IntKind.i64 (L.onG (L.Sq.mk l.n fun (i : Nat) ↦ l.g i) e i).place, Go.SE.SV.int Go.IntKind.i64 (L.onG (L.Sq.mk l.n fun (i : Nat) ↦ l.g i) e i).tone] =
 [Go.SE.SV.int Go.IntKind.i64 (L.onG (L.Sq.mk l.n fun (i : Nat) ↦ l.g i) e i).edge, Go.SE.SV.int Go.IntKind.i64 (L.onG (L.Sq.mk l.n fun (i : Nat) ↦ l.g i) e i).place, Go.SE.SV.int Go.IntKind.i64 (L.onG (L.Sq.mk l.n fun (i : Nat) ↦ l.g i) e i).tone]) ∧ Go.SE.SV.ref [Go.SE.SV.int Go.IntKind.i64 s.lo, Go.SE.SV.int Go.IntKind.i64 s.hi] (nat_lit 0) = Go.SE.SV.ref [Go.SE.SV.int Go.IntKind.i64 s.lo,
 Go.SE.SV.int Go.IntKind.i64 s.hi] (nat_lit 0) ∧ g' ≤ L.onN l e ∧ L.onN l e - g' < L.onN l e - g) ∧ (L.within (L.onG (L.Sq.mk l.n fun (i : Nat) ↦ l.g i) e (Int.toNat (↑g : Int))).place s.lo s.hi = Bool.false → Go.SE.InK Go.IntKind.i64 ((↑g : Int) + (1 : Int)) ∧ ∃ (g' : Nat), (↑(L.cnt (L.inS l e s) g) : Int) = (↑(L.cnt (L.inS l e s) g') : Int) ∧ (↑g : Int) + (1 : Int) = (↑g' : Int) ∧ ((bif L.onBad
 (L.Sq.mk l.n fun (i : Nat) ↦ l.g i) e then (1 : Int) else (0 : Int)) = bif L.onBad (L.Sq.mk l.n fun (i : Nat) ↦ l.g i) e then (1 : Int) else (0 : Int)) ∧ (L.onN (L.Sq.mk l.n fun (i : Nat) ↦ l.g i) e = L.onN (L.Sq.mk l.n fun (i : Nat) ↦ l.g i) e ∧ ∀ (i : Nat), i < L.onN (L.Sq.mk l.n fun (i : Nat) ↦ l.g i) e → [Go.SE.SV.int Go.IntKind.i64 (L.onG (L.Sq.mk l.n fun (i : Nat) ↦ l.g i) e i).edge,
 Go.SE.SV.int Go.IntKind.i64 (L.onG (L.Sq.mk l.n fun (i : Nat) ↦ l.g i) e i).place, Go.SE.SV.int Go.IntKind.i64 (L.onG (L.Sq.mk l.n fun (i : Nat) ↦ l.g i) e i).tone] = [Go.SE.SV.int Go.IntKind.i64 (L.onG (L.Sq.mk l.n fun (i : Nat) ↦ l.g i) e i).edge, Go.SE.SV.int Go.IntKind.i64 (L.onG (L.Sq.mk l.n fun (i : Nat) ↦ l.g i) e i).place, Go.SE.SV.int Go.IntKind.i64 (L.onG (L.Sq.mk l.n fun (i : Nat) ↦ l.g
 i) e i).tone]) ∧ Go.SE.SV.ref [Go.SE.SV.int Go.IntKind.i64 s.lo, Go.SE.SV.int Go.IntKind.i64 s.hi] (nat_lit 0) = Go.SE.SV.ref [Go.SE.SV.int Go.IntKind.i64 s.lo, Go.SE.SV.int Go.IntKind.i64 s.hi] (nat_lit 0) ∧ g' ≤ L.onN l e ∧ L.onN l e - g' < L.onN l e - g)) ∧ (Decidable.decide ((↑g : Int) < (↑(L.onN (L.Sq.mk l.n fun (i : Nat) ↦ l.g i) e) : Int)) = Bool.false → (↑(L.cnt (L.inS l e s) g) : Int) =
 (↑(L.cnt (L.inS l e s) (L.onN l e)) : Int) ∧ (bif L.onBad (L.Sq.mk l.n fun (i : Nat) ↦ l.g i) e then (1 : Int) else (0 : Int)) = bif L.onBad l e then (1 : Int) else (0 : Int))) (by kernel_rfl) (by
    have hn : l.n ≤ 1000000 := hp
    have ho : L.onN l e ≤ 1000000 := by
      unfold L.onN
      cases L.onBad l e
      · exact Nat.le_trans cnt_le hn
      · exact Nat.zero_le _
    have hc : ∀ j, L.cnt (L.inS l e s) j ≤ j := fun j => cnt_le
    refine ⟨⟨fun _ _ => rfl, hn⟩, ⟨(0 : Nat), rfl, rfl, Nat.zero_le _⟩, fun g hg => ⟨fun hlt => ?_, fun hge => ?_⟩⟩
    · have hb : (g : Int) < (L.onN l e : Int) := of_decide_eq_true hlt
      have e0 : ((g : Int)).toNat = g := by omega
      have hcg := hc g
      rw [e0]
      refine ⟨⟨by omega, hb⟩, trivial, fun h1 => ?_, fun h1 => ?_⟩
      · have h1 : L.inS l e s g = true := h1
        have c1 := cnt_yes h1
        exact ⟨InK.of (by omega) (by omega), InK.of (by omega) (by omega), g + 1, by omega, by omega, rfl, ⟨rfl, fun _ _ => rfl⟩, rfl, by omega, by omega⟩
      · have h1 : L.inS l e s g = false := h1
        have c1 := cnt_not h1
        exact ⟨InK.of (by omega) (by omega), g + 1, by omega, by omega, rfl, ⟨rfl, fun _ _ => rfl⟩, rfl, by omega, by omega⟩
    · have hb : ¬ (g : Int) < (L.onN l e : Int) := of_decide_eq_false hge
      obtain rfl : g = L.onN l e := by omega
      exact ⟨rfl, rfl⟩)
theorem r3_Count_ok : SpecOk Try.prog 27 r3_Count_S := fnX Try.func27 (c := bodyOf Try.f27) (by kernel_rfl) mixed (fun args p r hs hp => by
  unfold r3_Count_s at hs
  split at hs
  · cases hs; exact ⟨_, _, r3_Count_vc _ _ _ hp.2, (.p (.sl hp.1) (.same _ (.same _ .nil))), ⟨show SpecsL Try.prog _ from (SpecsL.cons r3_On_ok r3_On_en (SpecsL.cons r3_within_ok r3_within_en SpecsL.nil)), rfl, ⟨show ItersL Try.prog _ from ItersL.nil, (TrsOk.none (fun _ => rfl))⟩⟩⟩
  · cases hs)
theorem r3_Count_en : Enters Try.prog 27 := fun args w => by kernel_rfl
def r3_SameMarks_p (a : (L.Sq L.Mark)) (b : (L.Sq L.Mark)) : Prop := a.n ≤ 1000000
def r3_SameMarks_r (a : (L.Sq L.Mark)) (b : (L.Sq L.Mark)) : SV := .bool (L.sameMs a b)
def r3_SameMarks_s : List EV → Option (Prop × SV)
  | [.p (.sl 3 a_n a_g), .p (.sl 3 b_n b_g)] => some ((∀ i, i < a_n → a_g i = [.int .i64 ((ofMark (a_g i)).edge), .int .i64 ((ofMark (a_g i)).place), .int .i64 ((ofMark (a_g i)).tone)]) ∧ (∀ i, i < b_n → b_g i = [.int .i64 ((ofMark (b_g i)).edge), .int .i64 ((ofMark (b_g i)).place), .int .i64 ((ofMark (b_g i)).tone)]) ∧ r3_SameMarks_p (⟨a_n, fun i => ofMark (a_g i)⟩ : (L.Sq L.Mark)) (⟨b_n, fun i => ofMark (b_g i)⟩ : (L.Sq L.Mark)), r3_SameMarks_r (⟨a_n, fun i => ofMark (a_g i)⟩ : (L.Sq L.Mark)) (⟨b_n, fun i => ofMark (b_g i)⟩ : (L.Sq L.Mark)))
  | _ => none
abbrev r3_SameMarks_S : SE.Spec := (specO r3_SameMarks_s)
def r3_SameMarks_C : Cfg := { muts := [], frz := lookN [], specs := lookS [], loops := fun _ => none, iters := lookI [], rfs := lookR [], nils := lookM [] }
theorem r3_SameMarks_vc (a : (L.Sq L.Mark)) (b : (L.Sq L.Mark)) (hp : r3_SameMarks_p a b) : vc Try.prog ({ r3_SameMarks_C with loops := lookL [(4, { T := Nat, keep := [0, 1], keepO := [], chg := fun i => [(5, .p (.int .i64 (i : Int)))], own := fun _ => [], inv := fun i => i ≤ a.n ∧ ∀ j, j < i → L.sameM (a.g j) (b.g j) = true, mu := fun i => a.n - i })], rfs := lookR [] }) (bodyOf Try.f29) (st0 Try.f29 [.p (.sl 3 a.n (fun i => [.int .i64 ((a.g i).edge), .int .i64 ((a.g i).place), .int .i64 ((a.g i).tone)])), .p (.sl 3 b.n (fun i => [.int .i64 ((b.g i).edge), .int .i64 ((b.g i).place), .int .i64 ((b.g i).tone)]))]) (retFn Try.prog Try.f29 (r3_SameMarks_r a b)) :=
  @Eq.mpr _ (((!Decidable.decide ((↑a.n : Int) = (↑b.n : Int))) = Bool.true → Bool.false = L.sameMs a b) ∧ ((!Decidable.decide ((↑a.n : Int) = (↑b.n : Int))) = Bool.false → (∃ (g : Nat), (0 : Int) = (↑g : Int) ∧ g ≤ a.n ∧ ∀ (j : Nat), j < g → L.sameM (a.g j) (b.g j) = Bool.true) ∧ ∀ (g : Nat), (g ≤ a.n ∧ ∀ (j : Nat), j < g → L.sameM (a.g j) (b.g j) = Bool.true) → (Decidable.decide ((↑g : Int) < (↑a.n : Int)) =
 Bool.true → ((0 : Int) ≤ (↑g : Int) ∧ (↑g : Int) < (↑a.n : Int)) ∧ ((0 : Int) ≤ (↑g : Int) ∧ (↑g : Int) < (↑b.n : Int)) ∧ ((!(Decidable.decide ((a.g (Int.toNat (↑g : Int))).edge = (b.g (Int.toNat (↑g : Int))).edge) && (Decidable.decide ((a.g (Int.toNat (↑g : Int))).place = (b.g (Int.toNat (↑g : Int))).place) && Decidable.decide ((a.g (Int.toNat (↑g : Int))).tone = (b.g (Int.toNat (↑g :
 Int))).tone)))) = Bool.true → Bool.false = L.sameMs a b) ∧ ((!(Decidable.decide ((a.g (Int.toNat (↑g : Int))).edge = (b.g (Int.toNat (↑g : Int))).edge) && (Decidable.decide ((a.g (Int.toNat (↑g : Int))).place = (b.g (Int.toNat (↑g : Int))).place) && Decidable.decide ((a.g (Int.toNat (↑g : Int))).tone = (b.g (Int.toNat (↑g : Int))).tone)))) = Bool.false → Go.SE.InK Go.IntKind.i64 ((↑g : Int) + (1 :
 Int)) ∧ ∃ (g' : Nat), (↑g : Int) + (1 : Int) = (↑g' : Int) ∧ (a.n = a.n ∧ ∀ (i : Nat), i < a.n → [Go.SE.SV.int Go.IntKind.i64 (a.g i).edge, Go.SE.SV.int Go.IntKind.i64 (a.g i).place, Go.SE.SV.int Go.IntKind.i64 (a.g i).tone] = [Go.SE.SV.int Go.IntKind.i64 (a.g i).edge, Go.SE.SV.int Go.IntKind.i64 (a.g i).place, Go.SE.SV.int Go.IntKind.i64 (a.g i).tone]) ∧ (b.n = b.n ∧ ∀ (i : Nat), i < b.n →
 [Go.SE.SV.int Go.IntKind.i64 (b.g i).edge, Go.SE.SV.int Go.IntKind.i64 (b.g i).place, Go.SE.SV.int Go.IntKind.i64 (b.g i).tone] = [Go.SE.SV.int Go.IntKind.i64 (b.g i).edge, Go.SE.SV.int Go.IntKind.i64 (b.g i).place, Go.SE.SV.int Go.IntKind.i64 (b.g i).tone]) ∧ (g' ≤ a.n ∧ ∀ (j : Nat), j < g' → L.sameM (a.g j) (b.g j) = Bool.true) ∧ a.n - g' < a.n - g)) ∧ (Decidable.decide ((↑g : Int) < (↑a.n :
 Int)) = Bool.false → Bool.true = L.sameMs a b))) (by kernel_rfl) (by
    have ha : a.n ≤ 1000000 := hp
    refine ⟨fun h => ?_, fun h => ?_⟩
    · unfold L.sameMs; rw [notT h]; rfl
    have hd := notF h
    have hn := of_decide_eq_true hd
    refine ⟨⟨(0 : Nat), rfl, Nat.zero_le _, fun j hj => absurd hj (Nat.not_lt_zero _)⟩, fun g hg => ⟨fun hlt => ?_, fun hge => ?_⟩⟩
    · have hb : (g : Int) < (a.n : Int) := of_decide_eq_true hlt
      have e0 : ((g : Int)).toNat = g := by omega
      rw [e0]
      refine ⟨by omega, by omega, fun h1 => ?_, fun h1 => ?_⟩
      · have h1 : L.sameM (a.g g) (b.g g) = false := notT h1
        unfold L.sameMs; rw [hd, allB_false (i := g) (by omega) h1]; rfl
      · have h1 : L.sameM (a.g g) (b.g g) = true := notF h1
        exact ⟨InK.of (by omega) (by omega), g + 1, by omega, ⟨rfl, fun _ _ => rfl⟩, ⟨rfl, fun _ _ => rfl⟩, ⟨by omega, fun j hj => by
          rcases Nat.lt_succ_iff_lt_or_eq.1 hj with h' | rfl
          · exact hg.2 j h'
          · exact h1⟩, by omega⟩
    · have hb : ¬ (g : Int) < (a.n : Int) := of_decide_eq_false hge
      unfold L.sameMs; rw [hd, allB_iff.2 (fun i hi => hg.2 i (by omega))]; rfl)
theorem r3_SameMarks_ok : SpecOk Try.prog 29 r3_SameMarks_S := fnX Try.func29 (c := bodyOf Try.f29) (by kernel_rfl) mixed (fun args p r hs hp => by
  unfold r3_SameMarks_s at hs
  split at hs
  · cases hs; exact ⟨_, _, r3_SameMarks_vc _ _ hp.2.2, (.p (.sl hp.1) (.p (.sl hp.2.1) .nil)), ⟨show SpecsL Try.prog _ from SpecsL.nil, rfl, ⟨show ItersL Try.prog _ from ItersL.nil, (TrsOk.none (fun _ => rfl))⟩⟩⟩
  · cases hs)
theorem r3_SameMarks_en : Enters Try.prog 29 := fun args w => by kernel_rfl
theorem r3_SameMarks_B : ∀ args p r, r3_SameMarks_s args = some (p, r) → ∃ b, r = .bool b := by
  intro args p r h
  unfold r3_SameMarks_s at h
  split at h
  · cases h; exact ⟨_, rfl⟩
  · cases h
end Go.Proofs.Ytipaekbdalahdaa

namespace Go.Proofs.Ytipaekbdalahdaa
open Go.SE Go.RowKit
set_option maxRecDepth 100000
set_option maxHeartbeats 4000000
set_option linter.unusedVariables false
attribute [local irreducible] Go.SE.vc

def L.runs (a b : L.Mark) (sl : Int) : Bool := bif decide (a.tone = b.tone) then L.within (a.place + b.place - 16) (0 - sl) sl else false
def L.lastF (b : L.Sq L.Mark) (tk : Nat → Bool) (t : Int) : Nat → Int
  | 0 => -1
  | n + 1 => bif !tk n && decide ((b.g n).tone = t) then (n : Int) else L.lastF b tk t n
def L.fnd (b : L.Sq L.Mark) (tk : Nat → Bool) (t : Int) (c : Nat) : Int := bif decide ((c : Int) ≤ L.lastF b tk t b.n) then L.lastF b tk t b.n else -1
def L.mG (b : L.Sq L.Mark) (sl : Int) : Nat → (Nat → L.Mark) → (Nat → Bool) → Bool
  | 0, _, _ => true
  | r + 1, ga, tk => bif decide (L.lastF b tk (ga 0).tone b.n < 0) then false else bif L.runs (ga 0) (b.g (L.lastF b tk (ga 0).tone b.n).toNat) sl then L.mG b sl r (fun j => ga (j + 1)) (L.set tk (L.lastF b tk (ga 0).tone b.n).toNat) else false
def L.tk (f : L.Sq Int) (k : Nat) : Bool := L.anyB f.n (fun i => decide ((k : Int) = f.g i))
def L.mOk (a b : L.Sq L.Mark) (sl : Int) : Prop := a.n ≤ 1000 ∧ b.n ≤ 1000 ∧ (∀ i, i < a.n → 0 ≤ (a.g i).place ∧ (a.g i).place ≤ 16) ∧ (∀ i, i < b.n → 0 ≤ (b.g i).place ∧ (b.g i).place ≤ 16) ∧ 0 ≤ sl ∧ sl ≤ 16
theorem anyB_congr {n : Nat} {f g : Nat → Bool} (h : ∀ i, i < n → f i = g i) : L.anyB n f = L.anyB n g := by
  rw [Bool.eq_iff_iff, anyB_iff, anyB_iff]
  exact ⟨fun ⟨i, hi, e⟩ => ⟨i, hi, by rw [← h i hi]; exact e⟩, fun ⟨i, hi, e⟩ => ⟨i, hi, by rw [h i hi]; exact e⟩⟩
theorem oneEdge_eq {l : L.Sq L.Mark} : L.oneEdge l = (bif L.allB l.n (fun i => decide ((l.g i).edge = (l.g 0).edge)) then L.marks l else false) := by
  unfold L.oneEdge L.marks
  rw [not_anyB, Bool.eq_iff_iff]
  simp only [band, Bool.and_eq_true, decide_eq_true_eq, rise_iff, allB_iff, cmpMark_lt, L.badMark, L.mark1, bor, Bool.not_eq_true', Bool.or_eq_false_iff, Bool.not_eq_false']
  constructor
  · rintro ⟨⟨h1, h2⟩, h3⟩
    refine ⟨fun i hi => (h3 i hi).1.1, by omega, fun i hi => ⟨⟨(h3 i hi).1.2, (h3 i hi).2⟩, ?_⟩⟩
    by_cases h : 0 < i
    · simp [h, h2 i hi h]
    · simp [h]
  · rintro ⟨h1, h2, h3⟩
    refine ⟨⟨by omega, fun i hi h => ?_⟩, fun i hi => ⟨⟨h1 i hi, (h3 i hi).1.1⟩, (h3 i hi).1.2⟩⟩
    have := (h3 i hi).2
    simpa [h] using this
theorem oneEdge_mono {l : L.Sq L.Mark} (h : L.oneEdge l = true) : ∀ j i, i ≤ j → j < l.n → (l.g i).place ≤ (l.g j).place := by
  have h0 := h
  rw [oneEdge_eq, band, Bool.and_eq_true, allB_iff] at h0
  have hE : ∀ i, i < l.n → (l.g i).edge = (l.g 0).edge := fun i hi => of_decide_eq_true (h0.1 i hi)
  unfold L.oneEdge at h
  rw [band, Bool.and_eq_true, band, Bool.and_eq_true, rise_iff] at h
  have hR := h.1.2
  intro j
  induction j with
  | zero => intro i hi _; obtain rfl : i = 0 := by omega
            exact Int.le_refl _
  | succ j ih =>
    intro i hi hj
    by_cases e : i = j + 1
    · rw [e]; exact Int.le_refl _
    · have h1 := ih i (by omega) (by omega)
      have h2 := cmpMark_lt.1 (hR (j + 1) hj (by omega))
      have e1 : (l.g j).edge = (l.g (j + 1)).edge := by rw [hE j (by omega), hE (j + 1) hj]
      have h2 : L.earlier (l.g j) (l.g (j + 1)) = true := h2
      unfold L.earlier at h2
      rw [decide_eq_true e1] at h2
      by_cases e2 : (l.g j).place = (l.g (j + 1)).place
      · omega
      · rw [decide_eq_false e2] at h2
        have := of_decide_eq_true h2
        omega
theorem lastF_spec {b : L.Sq L.Mark} {tk : Nat → Bool} {t : Int} : ∀ {n : Nat}, (L.lastF b tk t n = -1 ∧ ∀ j, j < n → tk j = false → (b.g j).tone ≠ t) ∨
    ∃ i, i < n ∧ L.lastF b tk t n = (i : Int) ∧ tk i = false ∧ (b.g i).tone = t ∧ ∀ j, i < j → j < n → tk j = false → (b.g j).tone ≠ t
  | 0 => .inl ⟨rfl, fun j hj => absurd hj (Nat.not_lt_zero _)⟩
  | n + 1 => by
    cases hP : (!tk n && decide ((b.g n).tone = t)) with
    | true =>
      rw [Bool.and_eq_true] at hP
      exact .inr ⟨n, Nat.lt_succ_self n, by rw [L.lastF, hP.1, hP.2]; rfl, notT hP.1, of_decide_eq_true hP.2, fun j h1 h2 => by omega⟩
    | false =>
      have e : L.lastF b tk t (n + 1) = L.lastF b tk t n := by rw [L.lastF, hP]; rfl
      have hn : tk n = false → (b.g n).tone ≠ t := fun h1 h2 => by rw [h1, decide_eq_true h2] at hP; cases hP
      rw [e]
      rcases lastF_spec (b := b) (tk := tk) (t := t) (n := n) with ⟨h1, h2⟩ | ⟨i, h1, h2, h3, h4, h5⟩
      · refine .inl ⟨h1, fun j hj => ?_⟩
        rcases Nat.lt_succ_iff_lt_or_eq.1 hj with h | rfl
        · exact h2 j h
        · exact hn
      · refine .inr ⟨i, by omega, h2, h3, h4, fun j hj hj2 => ?_⟩
        rcases Nat.lt_succ_iff_lt_or_eq.1 hj2 with h | rfl
        · exact h5 j hj h
        · exact hn
theorem lastF_bd {b : L.Sq L.Mark} {tk : Nat → Bool} {t : Int} {n : Nat} : -1 ≤ L.lastF b tk t n ∧ L.lastF b tk t n < (n : Int) := by
  rcases lastF_spec (b := b) (tk := tk) (t := t) (n := n) with ⟨h1, _⟩ | ⟨i, h1, h2, _⟩ <;> omega
section
variable {b : L.Sq L.Mark} {tk : Nat → Bool} {t : Int} {k : Nat}
theorem fnd_eq (c : Nat) : (L.fnd b tk t c = L.lastF b tk t b.n ∧ (c : Int) ≤ L.lastF b tk t b.n) ∨ (L.fnd b tk t c = -1 ∧ ¬ (c : Int) ≤ L.lastF b tk t b.n) := by
  unfold L.fnd
  by_cases h : (c : Int) ≤ L.lastF b tk t b.n
  · rw [decide_eq_true h]; exact .inl ⟨rfl, h⟩
  · rw [decide_eq_false h]; exact .inr ⟨rfl, h⟩
theorem fnd_top : L.fnd b tk t b.n = -1 := by
  have := lastF_bd (b := b) (tk := tk) (t := t) (n := b.n)
  rcases fnd_eq (b := b) (tk := tk) (t := t) b.n with ⟨_, h⟩ | ⟨h, _⟩
  · omega
  · exact h
theorem fnd_zero : L.fnd b tk t 0 = L.lastF b tk t b.n := by
  have := lastF_bd (b := b) (tk := tk) (t := t) (n := b.n)
  rcases fnd_eq (b := b) (tk := tk) (t := t) 0 with ⟨h, _⟩ | ⟨h, h1⟩
  · exact h
  · omega
theorem fnd_hit (hk : k < b.n) (h1 : tk k = false) (h2 : (b.g k).tone = t) (h3 : L.fnd b tk t (k + 1) < 0) : L.fnd b tk t k = (k : Int) := by
  have h3 : ¬ ((k + 1 : Nat) : Int) ≤ L.lastF b tk t b.n := by
    rcases fnd_eq (b := b) (tk := tk) (t := t) (k + 1) with ⟨h, h'⟩ | ⟨_, h⟩
    · omega
    · exact h
  rcases lastF_spec (b := b) (tk := tk) (t := t) (n := b.n) with ⟨_, h⟩ | ⟨i, q1, q2, q3, q4, q5⟩
  · exact absurd h2 (h k hk h1)
  · have : ¬ i < k := fun h => q5 k h hk h1 h2
    have : i = k := by omega
    rcases fnd_eq (b := b) (tk := tk) (t := t) k with ⟨h, h'⟩ | ⟨_, h⟩ <;> omega
theorem fnd_miss (h : (bif bif !tk k then decide ((b.g k).tone = t) else false then decide (L.fnd b tk t (k + 1) < 0) else false) = false) : L.fnd b tk t (k + 1) = L.fnd b tk t k := by
  rcases fnd_eq (b := b) (tk := tk) (t := t) (k + 1) with ⟨e1, e2⟩ | ⟨e1, e2⟩
  · rcases fnd_eq (b := b) (tk := tk) (t := t) k with ⟨h1, h2⟩ | ⟨h1, h2⟩ <;> omega
  · rw [e1] at h
    have h : (!tk k && decide ((b.g k).tone = t)) = false := by
      rw [band, band] at h
      simpa using h
    rcases fnd_eq (b := b) (tk := tk) (t := t) k with ⟨h1, h2⟩ | ⟨h1, h2⟩
    · have e3 : L.lastF b tk t b.n = (k : Int) := by omega
      rcases lastF_spec (b := b) (tk := tk) (t := t) (n := b.n) with ⟨h', _⟩ | ⟨i, q1, q2, q3, q4, q5⟩
      · omega
      · have : i = k := by omega
        subst this
        rw [q3, decide_eq_true q4] at h; cases h
    · omega
end
section
variable {a b : L.Sq L.Mark} {sl : Int} {f : L.Sq Int} {k : Nat}
theorem tk_false (h : L.tk f k = false) : ∀ i, i < f.n → (k : Int) ≠ f.g i := fun i hi e => by
  rw [show L.tk f k = true from anyB_iff.2 ⟨i, hi, decide_eq_true e⟩] at h; cases h
theorem tk_snoc (q : Nat) : L.tk (L.snoc f (k : Int)) q = L.set (L.tk f) k q := by
  have e : L.tk (L.snoc f (k : Int)) q = (L.tk f q || decide ((q : Int) = (k : Int))) := by
    show (L.anyB f.n (fun i => decide ((q : Int) = (L.snoc f (k : Int)).g i)) || decide ((q : Int) = (L.snoc f (k : Int)).g f.n)) = _
    rw [snoc_eq, anyB_congr (g := fun i => decide ((q : Int) = f.g i)) (fun i hi => by rw [snoc_lt hi])]; rfl
  rw [e]
  unfold L.set
  by_cases h : q = k
  · subst h; simp
  · have h' : ¬ (q : Int) = (k : Int) := by omega
    rw [decide_eq_false h, decide_eq_false h', Bool.or_false]; rfl
theorem ext_snoc (hk : L.near a b sl f.n k = true) (h : L.Ext a b sl (L.snoc f (k : Int))) : L.Ext a b sl f := by
  obtain ⟨m, m1, m2, m3, m4⟩ := h
  have e0 : m f.n = k := by
    have := m3 f.n (Nat.lt_succ_self _)
    rw [snoc_eq] at this; omega
  refine ⟨m, m1, m2, fun j hj => ?_, fun j hj hjb => ?_⟩
  · have := m3 j (Nat.lt_succ_of_lt hj)
    rw [snoc_lt hj] at this; exact this
  · by_cases e : j = f.n
    · rw [e, e0]; exact hk
    · exact m4 j (show f.n + 1 ≤ j by omega) hjb
theorem ext_free {m : Nat → Nat} (hp : L.pairP a b sl f) (hf : f.n < b.n) (m2 : ∀ j j', j < b.n → j' < b.n → m j = m j' → j = j') (m3 : ∀ j, j < f.n → m j = (f.g j).toNat) {i : Nat} (hi : f.n ≤ i) (hib : i < b.n) : L.tk f (m i) = false := by
  cases h : L.tk f (m i) with
  | false => rfl
  | true =>
    obtain ⟨j, hj, e⟩ := anyB_iff.1 h
    have e := of_decide_eq_true e
    have := m3 j hj
    have := m2 j i (by omega) hib (by omega)
    omega
theorem exch (hp : L.pairP a b sl f) (hf : f.n < b.n) (ma : ∀ j i, i ≤ j → j < a.n → (a.g i).place ≤ (a.g j).place) (mb : ∀ j i, i ≤ j → j < b.n → (b.g i).place ≤ (b.g j).place) (hE : L.Ext a b sl f)
    (hk : k < b.n) (hfree : L.tk f k = false) (ht : (b.g k).tone = (a.g f.n).tone) (hmax : ∀ k', k < k' → k' < b.n → L.tk f k' = false → (b.g k').tone ≠ (a.g f.n).tone) :
    L.near a b sl f.n k = true ∧ L.Ext a b sl (L.snoc f (k : Int)) := by
  obtain ⟨m, m1, m2, m3, m4⟩ := hE
  have hab : a.n = b.n := hp.1.1
  obtain ⟨n1, n2, n3⟩ := near_iff.1 (m4 f.n (Nat.le_refl _) hf)
  have hle : m f.n ≤ k := by
    rcases Nat.lt_or_ge k (m f.n) with h | h
    · exact absurd n1.symm (hmax _ h (m1 _ hf) (ext_free hp hf m2 m3 (Nat.le_refl _) hf))
    · exact h
  obtain ⟨i, hi, ei⟩ := onto m1 m2 hk
  have hfi : f.n ≤ i := by
    rcases Nat.lt_or_ge i f.n with h | h
    · have := m3 i h
      have h0 := (hp.2.2.1 i h).1
      exact absurd (show (k : Int) = f.g i by omega) (tk_false hfree i h)
    · exact h
  obtain ⟨q1, q2, q3⟩ := near_iff.1 (m4 i hfi hi)
  rw [ei] at q1 q2 q3
  have p1 := ma i f.n hfi (by omega)
  have p2 := mb k (m f.n) hle hk
  have hn : L.near a b sl f.n k = true := near_iff.2 ⟨ht.symm, by omega, by omega⟩
  have hn' : L.near a b sl i (m f.n) = true := near_iff.2 ⟨by rw [q1, ht]; exact n1, by omega, by omega⟩
  refine ⟨hn, fun j => m (if j = f.n then i else if j = i then f.n else j), fun j hj => m1 _ (by split; exact hi; split; exact hf; exact hj), fun j j' hj hj' e => ?_, fun j hj => ?_, fun j hj hjb => ?_⟩
  · have := m2 _ _ (by split; exact hi; split; exact hf; exact hj) (by split; exact hi; split; exact hf; exact hj') e
    revert this
    repeat' split
    all_goals omega
  · have hj : j < f.n + 1 := hj
    by_cases e : j = f.n
    · subst e
      simp only [if_pos]
      rw [snoc_eq, ei]; omega
    · have h1 : ¬ j = i := by omega
      simp only [if_neg e, if_neg h1]
      rw [snoc_lt (by omega)]; exact m3 j (by omega)
  · have hj : f.n + 1 ≤ j := hj
    have e : ¬ j = f.n := by omega
    simp only [if_neg e]
    by_cases e1 : j = i
    · subst e1; simp only [if_pos]; exact hn'
    · simp only [if_neg e1]; exact m4 j (by omega) hjb
theorem mG_ext (ma : ∀ j i, i ≤ j → j < a.n → (a.g i).place ≤ (a.g j).place) (mb : ∀ j i, i ≤ j → j < b.n → (b.g i).place ≤ (b.g j).place) : ∀ (r : Nat) (f : L.Sq Int) (tk : Nat → Bool), L.pairP a b sl f → f.n + r = b.n → (∀ q, q < b.n → tk q = L.tk f q) →
    (L.mG b sl r (fun j => a.g (f.n + j)) tk = true ↔ L.Ext a b sl f)
  | 0, f, tk, hp, hr, htk => by
    refine ⟨fun _ => ⟨fun j => (f.g j).toNat, fun j hj => ?_, fun j j' hj hj' e => ?_, fun j hj => rfl, fun j h1 h2 => by omega⟩, fun _ => rfl⟩
    · have := hp.2.2.1 j (by omega)
      show (f.g j).toNat < b.n
      omega
    · have e : (f.g j).toNat = (f.g j').toNat := e
      have h1 := hp.2.2.1 j (by omega)
      have h2 := hp.2.2.1 j' (by omega)
      exact hp.2.2.2 j j' (by omega) (by omega) (by omega)
  | r + 1, f, tk, hp, hr, htk => by
    have hf : f.n < b.n := by omega
    rcases lastF_spec (b := b) (tk := tk) (t := (a.g f.n).tone) (n := b.n) with ⟨h1, h2⟩ | ⟨k, h1, h2, h3, h4, h5⟩
    · have e : L.mG b sl (r + 1) (fun j => a.g (f.n + j)) tk = false := by
        rw [L.mG]
        show (bif decide (L.lastF b tk (a.g f.n).tone b.n < 0) then false else _) = false
        rw [h1]; rfl
      rw [e]
      refine ⟨fun h => (by cases h), fun hE => ?_⟩
      obtain ⟨m, m1, m2, m3, m4⟩ := hE
      have q := m1 f.n hf
      have q1 := ext_free hp hf m2 m3 (Nat.le_refl _) hf
      rw [← htk _ q] at q1
      exact absurd (near_iff.1 (m4 f.n (Nat.le_refl _) hf)).1.symm (h2 _ q q1)
    · have hfree : L.tk f k = false := by rw [← htk k h1]; exact h3
      have hmax : ∀ k', k < k' → k' < b.n → L.tk f k' = false → (b.g k').tone ≠ (a.g f.n).tone := fun k' q1 q2 q3 => h5 k' q1 q2 (by rw [htk k' q2]; exact q3)
      have e : L.mG b sl (r + 1) (fun j => a.g (f.n + j)) tk = (bif L.near a b sl f.n k then L.mG b sl r (fun j => a.g ((L.snoc f (k : Int)).n + j)) (L.set tk k) else false) := by
        rw [L.mG]
        show (bif decide (L.lastF b tk (a.g f.n).tone b.n < 0) then false else bif L.runs (a.g f.n) (b.g (L.lastF b tk (a.g f.n).tone b.n).toNat) sl then L.mG b sl r (fun j => a.g (f.n + (j + 1))) (L.set tk (L.lastF b tk (a.g f.n).tone b.n).toNat) else false) = _
        rw [h2, decide_eq_false (by omega), Int.toNat_natCast]
        show (bif L.near a b sl f.n k then _ else false) = _
        have : (fun j => a.g (f.n + (j + 1))) = (fun j => a.g ((L.snoc f (k : Int)).n + j)) := funext fun j => by
          show a.g (f.n + (j + 1)) = a.g (f.n + 1 + j)
          congr 1; omega
        rw [this]
      rw [e]
      cases hn : L.near a b sl f.n k with
      | false => exact ⟨fun h => (by cases h), fun hE => by rw [(exch hp hf ma mb hE h1 hfree h4 hmax).1] at hn; cases hn⟩
      | true =>
        have ih := mG_ext ma mb r (L.snoc f (k : Int)) (L.set tk k) (pair_snoc hp hf h1 hfree) (show f.n + 1 + r = b.n by omega) (fun q hq => by
          rw [tk_snoc]; unfold L.set; rw [htk q hq])
        exact ⟨fun h => ext_snoc hn (ih.1 h), fun hE => ih.2 (exch hp hf ma mb hE h1 hfree h4 hmax).2⟩
theorem mG_nil (hok : L.okMarks a b sl) (ma : ∀ j i, i ≤ j → j < a.n → (a.g i).place ≤ (a.g j).place) (mb : ∀ j i, i ≤ j → j < b.n → (b.g i).place ≤ (b.g j).place) : L.mG b sl a.n a.g (fun _ => false) = true ↔ L.Ext a b sl L.nil := by
  have := mG_ext (sl := sl) ma mb b.n L.nil (fun _ => false) (run_0 hok).1 (by show 0 + b.n = b.n; omega) (fun q _ => rfl)
  rw [← this, hok.1]
  have e : (fun j => a.g (L.nil.n + j)) = a.g := funext fun j => by show a.g (0 + j) = a.g j; rw [Nat.zero_add]
  rw [e]
theorem run_uniq {r r' : L.Sq Int} (h : L.runI a b sl r) (h' : L.runI a b sl r') (hn : r.n = b.n) (hn' : r'.n = b.n) : ∀ j, j < b.n → r.g j = r'.g j := by
  have one : ∀ {r r' : L.Sq Int}, L.runI a b sl r → L.runI a b sl r' → r.n = b.n → r'.n = b.n → ∀ j, j < b.n → (∀ i, i < j → r.g i = r'.g i) → ¬ r.g j < r'.g j := by
    intro r r' h h' hn hn' j hj ih hlt
    obtain ⟨⟨_, _, c3, c4⟩, c5, _, _⟩ := h
    obtain ⟨_, _, _, d7⟩ := h'
    have b1 := c3 j (by omega)
    have hk : (((r.g j).toNat : Nat) : Int) = r.g j := by omega
    refine d7 j (r.g j).toNat (by omega) (by omega) (c5 j (by omega)) ⟨fun i => (r.g i).toNat, fun i hi => ?_, fun i i' hi hi' e => ?_, fun i hi => ?_, fun i _ hi => c5 i (by omega)⟩
    · have := c3 i (by omega)
      show (r.g i).toNat < b.n
      omega
    · have e : (r.g i).toNat = (r.g i').toNat := e
      have q := c3 i (by omega)
      have q' := c3 i' (by omega)
      exact c4 i i' (by omega) (by omega) (by omega)
    · have hi : i < j + 1 := hi
      rcases Nat.lt_succ_iff_lt_or_eq.1 hi with h1 | rfl
      · rw [snoc_lt (f := L.cutS r' j) (show i < j from h1)]
        show (r.g i).toNat = (r'.g i).toNat
        rw [ih i h1]
      · have : (L.snoc (L.cutS r' i) (((r.g i).toNat : Nat) : Int)).g i = (((r.g i).toNat : Nat) : Int) := snoc_eq (f := L.cutS r' i)
        rw [this]; rfl
  intro j
  induction j using Nat.strongRecOn with
  | ind j ih =>
    intro hj
    have ih' : ∀ i, i < j → r.g i = r'.g i := fun i hi => ih i hi (by omega)
    have h1 := one h h' hn hn' j hj ih'
    have h2 := one h' h hn' hn j hj (fun i hi => (ih' i hi).symm)
    omega
theorem run_same {r r' : L.Sq Int} {e e' : Int} (h : L.runQ a b sl r e) (h' : L.runQ a b sl r' e') : e = e' ∧ L.sameI r r' = true := by
  have nil : ∀ {r r' : L.Sq Int}, r.n = 0 → r'.n = 0 → L.sameI r r' = true := fun h1 h2 => by
    unfold L.sameI; rw [h1, h2]; rfl
  rcases h with ⟨q1, q2, q3⟩ | ⟨q1, q2, q3, q4⟩ | ⟨q1, q2, q3⟩ <;> rcases h' with ⟨p1, p2, p3⟩ | ⟨p1, p2, p3, p4⟩ | ⟨p1, p2, p3⟩
  · exact ⟨by omega, nil q2 p2⟩
  · rw [p1] at q1; cases q1
  · rw [p1] at q1; cases q1
  · rw [p1] at q1; cases q1
  · exact ⟨by omega, nil q3 p3⟩
  · exact absurd p2.1 q2
  · rw [p1] at q1; cases q1
  · exact absurd q2.1 p2
  · rcases q3 with ⟨q4, q5, q6⟩ | ⟨q4, q5, q6⟩ <;> rcases p3 with ⟨p4, p5, p6⟩ | ⟨p4, p5, p6⟩
    · exact ⟨by omega, nil q5 p5⟩
    · exact absurd (run_ext p4 p5) q4
    · exact absurd (run_ext q4 q5) p4
    · refine ⟨by omega, ?_⟩
      unfold L.sameI
      rw [decide_eq_true (show (r.n : Int) = r'.n by omega), allB_iff.2 (fun i hi => decide_eq_true (run_uniq q4 p4 q5 p5 i (by omega)))]; rfl
end
def r3_oneEdge_p (l : (L.Sq L.Mark)) : Prop := l.n ≤ 1000000
def r3_oneEdge_r (l : (L.Sq L.Mark)) : SV := .bool (L.oneEdge l)
def r3_oneEdge_s : List EV → Option (Prop × SV)
  | [.p (.sl 3 l_n l_g)] => some ((∀ i, i < l_n → l_g i = [.int .i64 ((ofMark (l_g i)).edge), .int .i64 ((ofMark (l_g i)).place), .int .i64 ((ofMark (l_g i)).tone)]) ∧ r3_oneEdge_p (⟨l_n, fun i => ofMark (l_g i)⟩ : (L.Sq L.Mark)), r3_oneEdge_r (⟨l_n, fun i => ofMark (l_g i)⟩ : (L.Sq L.Mark)))
  | _ => none
abbrev r3_oneEdge_S : SE.Spec := (specO r3_oneEdge_s)
def r3_oneEdge_C : Cfg := { muts := [], frz := lookN [], specs := lookS [(61, r3_marks_S)], loops := fun _ => none, iters := lookI [], rfs := lookR [], nils := lookM [] }
theorem r3_oneEdge_vc (l : (L.Sq L.Mark)) (hp : r3_oneEdge_p l) : vc Try.prog ({ r3_oneEdge_C with loops := lookL [(2, { T := Nat, keep := [0], keepO := [], chg := fun i => [(3, .p (.int .i64 (i : Int)))], own := fun _ => [], inv := fun i => i ≤ l.n ∧ ∀ j, j < i → (l.g j).edge = (l.g 0).edge, mu := fun i => l.n - i })], rfs := lookR [] }) (bodyOf Try.f73) (st0 Try.f73 [.p (.sl 3 l.n (fun i => [.int .i64 ((l.g i).edge), .int .i64 ((l.g i).place), .int .i64 ((l.g i).tone)]))]) (retFn Try.prog Try.f73 (r3_oneEdge_r l)) :=
  @Eq.mpr _ ((∃ (g : Nat), (0 : Int) = (↑g : Int) ∧ g ≤ l.n ∧ ∀ (j : Nat), j < g → (l.g j).edge = (l.g (0 : Nat)).edge) ∧ ∀ (g : Nat), (g ≤ l.n ∧ ∀ (j : Nat), j < g → (l.g j).edge = (l.g (0 : Nat)).edge) → (Decidable.decide ((↑g : Int) < (↑l.n : Int)) = Bool.true → ((0 : Int) ≤ (↑g : Int) ∧ (↑g : Int) < (↑l.n : Int)) ∧ ((0 : Int) ≤ (0 : Int) ∧ (0 : Int) < (↑l.n : Int)) ∧ ((!Decidable.decide ((l.g (Int.toNat
 (↑g : Int))).edge = (l.g (Int.toNat (0 : Int))).edge)) = Bool.true → Bool.false = L.oneEdge l) ∧ ((!Decidable.decide ((l.g (Int.toNat (↑g : Int))).edge = (l.g (Int.toNat (0 : Int))).edge)) = Bool.false → Go.SE.InK Go.IntKind.i64 ((↑g : Int) + (1 : Int)) ∧ ∃ (g' : Nat), (↑g : Int) + (1 : Int) = (↑g' : Int) ∧ (l.n = l.n ∧ ∀ (i : Nat), i < l.n → [Go.SE.SV.int Go.IntKind.i64 (l.g i).edge, Go.SE.SV.int
 Go.IntKind.i64 (l.g i).place, Go.SE.SV.int Go.IntKind.i64 (l.g i).tone] = [Go.SE.SV.int Go.IntKind.i64 (l.g i).edge, Go.SE.SV.int Go.IntKind.i64 (l.g i).place, Go.SE.SV.int Go.IntKind.i64 (l.g i).tone]) ∧ (g' ≤ l.n ∧ ∀ (j : Nat), j < g' → (l.g j).edge = (l.g (0 : Nat)).edge) ∧ l.n - g' < l.n - g)) ∧ (Decidable.decide ((↑g : Int) < (↑l.n : Int)) = Bool.false → ((∀ (i : Nat), i < l.n → [Go.SE.SV.int
 Go.IntKind.i64 (l.g i).edge, Go.SE.SV.int Go.IntKind.i64 (l.g i).place, Go.SE.SV.int Go.IntKind.i64 (l.g i).tone] = [Go.SE.SV.int Go.IntKind.i64 (l.g i).edge, Go.SE.SV.int Go.IntKind.i64 (l.g i).place, Go.SE.SV.int Go.IntKind.i64 (l.g i).tone]) ∧ True) ∧ L.marks (L.Sq.mk l.n fun (i : Nat) ↦ l.g i) = L.oneEdge l)) (by kernel_rfl) (by
    have hn : l.n ≤ 1000000 := hp
    refine ⟨⟨(0 : Nat), rfl, Nat.zero_le _, fun j hj => absurd hj (Nat.not_lt_zero _)⟩, fun g hg => ⟨fun hlt => ?_, fun hge => ?_⟩⟩
    · have hb : (g : Int) < (l.n : Int) := of_decide_eq_true hlt
      have e0 : ((g : Int)).toNat = g := by omega
      rw [e0]
      refine ⟨by omega, by omega, fun h1 => ?_, fun h1 => ?_⟩
      · rw [oneEdge_eq, allB_false (i := g) (by omega) (notT h1)]; rfl
      · exact ⟨InK.of (by omega) (by omega), g + 1, by omega, ⟨rfl, fun _ _ => rfl⟩, ⟨by omega, fun j hj => by
          rcases Nat.lt_succ_iff_lt_or_eq.1 hj with h' | rfl
          · exact hg.2 j h'
          · exact of_decide_eq_true (notF h1)⟩, by omega⟩
    · have hb : ¬ (g : Int) < (l.n : Int) := of_decide_eq_false hge
      refine ⟨⟨fun _ _ => rfl, trivial⟩, ?_⟩
      rw [oneEdge_eq, allB_iff.2 (fun i hi => decide_eq_true (hg.2 i (by omega)))]; rfl)
theorem r3_oneEdge_ok : SpecOk Try.prog 73 r3_oneEdge_S := fnX Try.func73 (c := bodyOf Try.f73) (by kernel_rfl) mixed (fun args p r hs hp => by
  unfold r3_oneEdge_s at hs
  split at hs
  · cases hs; exact ⟨_, _, r3_oneEdge_vc _ hp.2, (.p (.sl hp.1) .nil), ⟨show SpecsL Try.prog _ from (SpecsL.cons r3_marks_ok r3_marks_en SpecsL.nil), rfl, ⟨show ItersL Try.prog _ from ItersL.nil, (TrsOk.none (fun _ => rfl))⟩⟩⟩
  · cases hs)
theorem r3_oneEdge_en : Enters Try.prog 73 := fun args w => by kernel_rfl
theorem r3_oneEdge_B : ∀ args p r, r3_oneEdge_s args = some (p, r) → ∃ b, r = .bool b := by
  intro args p r h
  unfold r3_oneEdge_s at h
  split at h
  · cases h; exact ⟨_, rfl⟩
  · cases h
def r3_runs_p (a : L.Mark) (b : L.Mark) (sl : Int) : Prop := 0 ≤ a.place ∧ a.place ≤ 16 ∧ 0 ≤ b.place ∧ b.place ≤ 16 ∧ 0 ≤ sl ∧ sl ≤ 16
def r3_runs_r (a : L.Mark) (b : L.Mark) (sl : Int) : SV := .bool (L.runs a b sl)
def r3_runs_s : List EV → Option (Prop × SV)
  | [.p (.agg [.int .i64 a_edge, .int .i64 a_place, .int .i64 a_tone]), .p (.agg [.int .i64 b_edge, .int .i64 b_place, .int .i64 b_tone]), .p (.int .i64 sl)] => some (r3_runs_p (⟨a_edge, a_place, a_tone⟩ : L.Mark) (⟨b_edge, b_place, b_tone⟩ : L.Mark) sl, r3_runs_r (⟨a_edge, a_place, a_tone⟩ : L.Mark) (⟨b_edge, b_place, b_tone⟩ : L.Mark) sl)
  | _ => none
abbrev r3_runs_S : SE.Spec := (specO r3_runs_s)
def r3_runs_C : Cfg := { muts := [], frz := lookN [], specs := lookS [(59, r3_within_S)], loops := lookL [], iters := lookI [], rfs := lookR [], nils := lookM [] }
theorem r3_runs_vc (a : L.Mark) (b : L.Mark) (sl : Int) (hp : r3_runs_p a b sl) : vc Try.prog (r3_runs_C) (bodyOf Try.f75) (st0 Try.f75 [.p (.agg [.int .i64 a.edge, .int .i64 a.place, .int .i64 a.tone]), .p (.agg [.int .i64 b.edge, .int .i64 b.place, .int .i64 b.tone]), .p (.int .i64 sl)]) (retFn Try.prog Try.f75 (r3_runs_r a b sl)) :=
  @Eq.mpr _ (Go.SE.InK Go.IntKind.i64 (a.place + b.place) ∧ Go.SE.InK Go.IntKind.i64 (a.place + b.place - (16 : Int)) ∧ (Decidable.decide (a.tone = b.tone) = Bool.true → Go.SE.InK Go.IntKind.i64 ((0 : Int) - sl)) ∧ (Decidable.decide (a.tone = b.tone) = Bool.true → True) ∧ (bif Decidable.decide (a.tone = b.tone) then L.within (a.place + b.place - (16 : Int)) ((0 : Int) - sl) sl else Bool.false) = L.runs a b sl) (by kernel_rfl) (by
    obtain ⟨h1, h2, h3, h4, h5, h6⟩ := hp
    exact ⟨InK.of (by omega) (by omega), InK.of (by omega) (by omega), fun _ => InK.of (by omega) (by omega), fun _ => trivial, rfl⟩)
theorem r3_runs_ok : SpecOk Try.prog 75 r3_runs_S := fnX Try.func75 (c := bodyOf Try.f75) (by kernel_rfl) mixed (fun args p r hs hp => by
  unfold r3_runs_s at hs
  split at hs
  · cases hs; exact ⟨_, _, r3_runs_vc _ _ _ hp, (.same _ (.same _ (.same _ .nil))), ⟨show SpecsL Try.prog _ from (SpecsL.cons r3_within_ok r3_within_en SpecsL.nil), rfl, ⟨show ItersL Try.prog _ from ItersL.nil, (TrsOk.none (fun _ => rfl))⟩⟩⟩
  · cases hs)
theorem r3_runs_en : Enters Try.prog 75 := fun args w => by kernel_rfl
theorem r3_runs_B : ∀ args p r, r3_runs_s args = some (p, r) → ∃ b, r = .bool b := by
  intro args p r h
  unfold r3_runs_s at h
  split at h
  · cases h; exact ⟨_, rfl⟩
  · cases h
def r3_matched_p (a : (L.Sq L.Mark)) (b : (L.Sq L.Mark)) (us : (L.Sq Bool)) (sl : Int) : Prop := L.mOk a b sl ∧ us.n = b.n
def r3_matched_r (a : (L.Sq L.Mark)) (b : (L.Sq L.Mark)) (us : (L.Sq Bool)) (sl : Int) : SV := .bool (L.mG b sl a.n a.g us.g)
def r3_matched_s : List EV → Option (Prop × SV)
  | [.p (.sl 3 a_n a_g), .p (.sl 3 b_n b_g), .p (.sl 1 us_n us_g), .p (.int .i64 sl)] => some ((∀ i, i < a_n → a_g i = [.int .i64 ((ofMark (a_g i)).edge), .int .i64 ((ofMark (a_g i)).place), .int .i64 ((ofMark (a_g i)).tone)]) ∧ (∀ i, i < b_n → b_g i = [.int .i64 ((ofMark (b_g i)).edge), .int .i64 ((ofMark (b_g i)).place), .int .i64 ((ofMark (b_g i)).tone)]) ∧ (∀ i, i < us_n → us_g i = [.bool ((boolOf (us_g i)))]) ∧ r3_matched_p (⟨a_n, fun i => ofMark (a_g i)⟩ : (L.Sq L.Mark)) (⟨b_n, fun i => ofMark (b_g i)⟩ : (L.Sq L.Mark)) (⟨us_n, fun i => boolOf (us_g i)⟩ : (L.Sq Bool)) sl, r3_matched_r (⟨a_n, fun i => ofMark (a_g i)⟩ : (L.Sq L.Mark)) (⟨b_n, fun i => ofMark (b_g i)⟩ : (L.Sq L.Mark)) (⟨us_n, fun i => boolOf (us_g i)⟩ : (L.Sq Bool)) sl)
  | _ => none
abbrev r3_matched_S : SE.Spec := (specO r3_matched_s)
def r3_matched_C : Cfg := { muts := [13], frz := lookN [], specs := lookS [(75, r3_runs_S)], loops := fun _ => none, iters := lookI [], rfs := lookR [], nils := lookM [] }
theorem r3_matched_vc (a : (L.Sq L.Mark)) (b : (L.Sq L.Mark)) (us : (L.Sq Bool)) (sl : Int) (hp : r3_matched_p a b us sl) : vc Try.prog ({ r3_matched_C with loops := lookL [(3, { T := Nat × (Nat → Bool), keep := [0, 1, 3, 9], keepO := [], chg := fun g => [(10, .p (.int .i64 (g.1 : Int)))], own := fun g => [(13, .row 4 1 b.n (fun k => [.bool (g.2 k)]))], inv := fun g => g.1 ≤ a.n ∧ L.mG b sl a.n a.g us.g = L.mG b sl (a.n - g.1) (fun j => a.g (g.1 + j)) g.2, mu := fun g => a.n - g.1 }), (7, { T := Nat × (Nat → Bool) × Nat, keep := [0, 1, 3, 9, 10], keepO := [], tie := fun g => [(10, .int .i64 (g.1 : Int))], chg := fun g => [(11, .p (.int .i64 (L.fnd b g.2.1 (a.g g.1).tone g.2.2))), (12, .p (.int .i64 ((g.2.2 : Int) - 1)))], own := fun g => [(13, .row 4 1 b.n (fun k => [.bool (g.2.1 k)]))], inv := fun g => g.1 < a.n ∧ L.mG b sl a.n a.g us.g = L.mG b sl (a.n - g.1) (fun j => a.g (g.1 + j)) g.2.1 ∧ g.2.2 ≤ b.n, mu := fun g => g.2.2 })], rfs := lookR [] }) (bodyOf Try.f74) (st0 Try.f74 [.p (.sl 3 a.n (fun i => [.int .i64 ((a.g i).edge), .int .i64 ((a.g i).place), .int .i64 ((a.g i).tone)])), .p (.sl 3 b.n (fun i => [.int .i64 ((b.g i).edge), .int .i64 ((b.g i).place), .int .i64 ((b.g i).tone)])), .p (.sl 1 us.n (fun i => [.bool ((us.g i))])), .p (.int .i64 sl)]) (retFn Try.prog Try.f74 (r3_matched_r a b us sl)) :=
  @Eq.mpr _ ((nat_lit 0 + us.n) * nat_lit 1 ≤ (140737488355328 : Nat) ∧ (∃ (g : Nat × (Nat → Bool)), (0 : Int) = (↑g.1 : Int) ∧ (nat_lit 0 + us.n = b.n ∧ ∀ (i : Nat), i < nat_lit 0 + us.n → Go.SE.appGet (nat_lit 0) (Go.SE.rowsOf [] (nat_lit 1)) (fun (i : Nat) ↦ [Go.SE.SV.bool (us.g i)]) i = [Go.SE.SV.bool (g.2 i)]) ∧ g.1 ≤ a.n ∧ L.mG b sl a.n a.g us.g = L.mG b sl (a.n - g.1) (fun (j : Nat) ↦ a.g (g.1 + j))
 g.2) ∧ ∀ (g : Nat × (Nat → Bool)), g.1 ≤ a.n ∧ L.mG b sl a.n a.g us.g = L.mG b sl (a.n - g.1) (fun (j : Nat) ↦ a.g (g.1 + j)) g.2 → (Decidable.decide ((↑g.1 : Int) < (↑a.n : Int)) = Bool.true → Go.SE.InK Go.IntKind.i64 ((↑b.n : Int) - (1 : Int)) ∧ (∃ (g_1 : Nat × (Nat → Bool) × Nat), (-1 : Int) = L.fnd b g_1.2.1 (a.g g_1.1).tone g_1.2.2 ∧ (↑b.n : Int) - (1 : Int) = (↑g_1.2.2 : Int) - (1 : Int) ∧
 (b.n = b.n ∧ ∀ (i : Nat), i < b.n → [Go.SE.SV.bool (g.2 i)] = [Go.SE.SV.bool (g_1.2.1 i)]) ∧ (↑g.1 : Int) = (↑g_1.1 : Int) ∧ g_1.1 < a.n ∧ L.mG b sl a.n a.g us.g = L.mG b sl (a.n - g_1.1) (fun (j : Nat) ↦ a.g (g_1.1 + j)) g_1.2.1 ∧ g_1.2.2 ≤ b.n) ∧ ∀ (g_1 : Nat × (Nat → Bool) × Nat), (↑g.1 : Int) = (↑g_1.1 : Int) ∧ g_1.1 < a.n ∧ L.mG b sl a.n a.g us.g = L.mG b sl (a.n - g_1.1) (fun (j : Nat) ↦ a.g
 (g_1.1 + j)) g_1.2.1 ∧ g_1.2.2 ≤ b.n → (Decidable.decide ((0 : Int) ≤ (↑g_1.2.2 : Int) - (1 : Int)) = Bool.true → ((0 : Int) ≤ (↑g_1.2.2 : Int) - (1 : Int) ∧ (↑g_1.2.2 : Int) - (1 : Int) < (↑b.n : Int)) ∧ Int.toNat ((↑g_1.2.2 : Int) - (1 : Int)) < b.n ∧ ((!g_1.2.1 (Int.toNat ((↑g_1.2.2 : Int) - (1 : Int)))) = Bool.true → (0 : Int) ≤ (↑g_1.2.2 : Int) - (1 : Int) ∧ (↑g_1.2.2 : Int) - (1 : Int) <
 (↑b.n : Int)) ∧ ((!g_1.2.1 (Int.toNat ((↑g_1.2.2 : Int) - (1 : Int)))) = Bool.true → (0 : Int) ≤ (↑g.1 : Int) ∧ (↑g.1 : Int) < (↑a.n : Int)) ∧ ((bif bif !g_1.2.1 (Int.toNat ((↑g_1.2.2 : Int) - (1 : Int))) then Decidable.decide ((b.g (Int.toNat ((↑g_1.2.2 : Int) - (1 : Int)))).tone = (a.g (Int.toNat (↑g.1 : Int))).tone) else Bool.false then Decidable.decide (L.fnd b g_1.2.1 (a.g g_1.1).tone g_1.2.2
 < (0 : Int)) else Bool.false) = Bool.true → Go.SE.InK Go.IntKind.i64 ((↑g_1.2.2 : Int) - (1 : Int) - (1 : Int)) ∧ ∃ (g' : Nat × (Nat → Bool) × Nat), (↑g_1.2.2 : Int) - (1 : Int) = L.fnd b g'.2.1 (a.g g'.1).tone g'.2.2 ∧ (↑g_1.2.2 : Int) - (1 : Int) - (1 : Int) = (↑g'.2.2 : Int) - (1 : Int) ∧ (↑g.1 : Int) = (↑g.1 : Int) ∧ (a.n = a.n ∧ ∀ (i : Nat), i < a.n → [Go.SE.SV.int Go.IntKind.i64 (a.g
 i).edge, Go.SE.SV.int Go.IntKind.i64 (a.g i).place, Go.SE.SV.int Go.IntKind.i64 (a.g i).tone] = [Go.SE.SV.int Go.IntKind.i64 (a.g i).edge, Go.SE.SV.int Go.IntKind.i64 (a.g i).place, Go.SE.SV.int Go.IntKind.i64 (a.g i).tone]) ∧ (b.n = b.n ∧ ∀ (i : Nat), i < b.n → [Go.SE.SV.int Go.IntKind.i64 (b.g i).edge, Go.SE.SV.int Go.IntKind.i64 (b.g i).place, Go.SE.SV.int Go.IntKind.i64 (b.g i).tone] =
 [Go.SE.SV.int Go.IntKind.i64 (b.g i).edge, Go.SE.SV.int Go.IntKind.i64 (b.g i).place, Go.SE.SV.int Go.IntKind.i64 (b.g i).tone]) ∧ sl = sl ∧ (b.n = b.n ∧ ∀ (i : Nat), i < b.n → [Go.SE.SV.bool (g_1.2.1 i)] = [Go.SE.SV.bool (g'.2.1 i)]) ∧ ((↑g.1 : Int) = (↑g'.1 : Int) ∧ g'.1 < a.n ∧ L.mG b sl a.n a.g us.g = L.mG b sl (a.n - g'.1) (fun (j : Nat) ↦ a.g (g'.1 + j)) g'.2.1 ∧ g'.2.2 ≤ b.n) ∧ g'.2.2 <
 g_1.2.2) ∧ ((bif bif !g_1.2.1 (Int.toNat ((↑g_1.2.2 : Int) - (1 : Int))) then Decidable.decide ((b.g (Int.toNat ((↑g_1.2.2 : Int) - (1 : Int)))).tone = (a.g (Int.toNat (↑g.1 : Int))).tone) else Bool.false then Decidable.decide (L.fnd b g_1.2.1 (a.g g_1.1).tone g_1.2.2 < (0 : Int)) else Bool.false) = Bool.false → Go.SE.InK Go.IntKind.i64 ((↑g_1.2.2 : Int) - (1 : Int) - (1 : Int)) ∧ ∃ (g' : Nat ×
 (Nat → Bool) × Nat), L.fnd b g_1.2.1 (a.g g_1.1).tone g_1.2.2 = L.fnd b g'.2.1 (a.g g'.1).tone g'.2.2 ∧ (↑g_1.2.2 : Int) - (1 : Int) - (1 : Int) = (↑g'.2.2 : Int) - (1 : Int) ∧ (↑g.1 : Int) = (↑g.1 : Int) ∧ (a.n = a.n ∧ ∀ (i : Nat), i < a.n → [Go.SE.SV.int Go.IntKind.i64 (a.g i).edge, Go.SE.SV.int Go.IntKind.i64 (a.g i).place, Go.SE.SV.int Go.IntKind.i64 (a.g i).tone] = [Go.SE.SV.int
 Go.IntKind.i64 (a.g i).edge, Go.SE.SV.int Go.IntKind.i64 (a.g i).place, Go.SE.SV.int Go.IntKind.i64 (a.g i).tone]) ∧ (b.n = b.n ∧ ∀ (i : Nat), i < b.n → [Go.SE.SV.int Go.IntKind.i64 (b.g i).edge, Go.SE.SV.int Go.IntKind.i64 (b.g i).place, Go.SE.SV.int Go.IntKind.i64 (b.g i).tone] = [Go.SE.SV.int Go.IntKind.i64 (b.g i).edge, Go.SE.SV.int Go.IntKind.i64 (b.g i).place, Go.SE.SV.int Go.IntKind.i64
 (b.g i).tone]) ∧ sl = sl ∧ (b.n = b.n ∧ ∀ (i : Nat), i < b.n → [Go.SE.SV.bool (g_1.2.1 i)] = [Go.SE.SV.bool (g'.2.1 i)]) ∧ ((↑g.1 : Int) = (↑g'.1 : Int) ∧ g'.1 < a.n ∧ L.mG b sl a.n a.g us.g = L.mG b sl (a.n - g'.1) (fun (j : Nat) ↦ a.g (g'.1 + j)) g'.2.1 ∧ g'.2.2 ≤ b.n) ∧ g'.2.2 < g_1.2.2)) ∧ (Decidable.decide ((0 : Int) ≤ (↑g_1.2.2 : Int) - (1 : Int)) = Bool.false → ((!Decidable.decide (L.fnd b
 g_1.2.1 (a.g g_1.1).tone g_1.2.2 < (0 : Int))) = Bool.true → (0 : Int) ≤ (↑g.1 : Int) ∧ (↑g.1 : Int) < (↑a.n : Int)) ∧ ((!Decidable.decide (L.fnd b g_1.2.1 (a.g g_1.1).tone g_1.2.2 < (0 : Int))) = Bool.true → (0 : Int) ≤ L.fnd b g_1.2.1 (a.g g_1.1).tone g_1.2.2 ∧ L.fnd b g_1.2.1 (a.g g_1.1).tone g_1.2.2 < (↑b.n : Int)) ∧ ((!Decidable.decide (L.fnd b g_1.2.1 (a.g g_1.1).tone g_1.2.2 < (0 : Int))) =
 Bool.true → (0 : Int) ≤ (a.g (Int.toNat (↑g.1 : Int))).place ∧ (a.g (Int.toNat (↑g.1 : Int))).place ≤ (16 : Int) ∧ (0 : Int) ≤ (b.g (Int.toNat (L.fnd b g_1.2.1 (a.g g_1.1).tone g_1.2.2))).place ∧ (b.g (Int.toNat (L.fnd b g_1.2.1 (a.g g_1.1).tone g_1.2.2))).place ≤ (16 : Int) ∧ (0 : Int) ≤ sl ∧ sl ≤ (16 : Int)) ∧ ((bif Decidable.decide (L.fnd b g_1.2.1 (a.g g_1.1).tone g_1.2.2 < (0 : Int)) then
 Bool.true else !L.runs (a.g (Int.toNat (↑g.1 : Int))) (b.g (Int.toNat (L.fnd b g_1.2.1 (a.g g_1.1).tone g_1.2.2))) sl) = Bool.true → Bool.false = L.mG b sl a.n a.g us.g) ∧ ((bif Decidable.decide (L.fnd b g_1.2.1 (a.g g_1.1).tone g_1.2.2 < (0 : Int)) then Bool.true else !L.runs (a.g (Int.toNat (↑g.1 : Int))) (b.g (Int.toNat (L.fnd b g_1.2.1 (a.g g_1.1).tone g_1.2.2))) sl) = Bool.false → ((0 : Int)
 ≤ L.fnd b g_1.2.1 (a.g g_1.1).tone g_1.2.2 ∧ L.fnd b g_1.2.1 (a.g g_1.1).tone g_1.2.2 < (↑b.n : Int)) ∧ Int.toNat (L.fnd b g_1.2.1 (a.g g_1.1).tone g_1.2.2) < b.n ∧ Go.SE.InK Go.IntKind.i64 ((↑g.1 : Int) + (1 : Int)) ∧ ∃ (g' : Nat × (Nat → Bool)), (↑g.1 : Int) + (1 : Int) = (↑g'.1 : Int) ∧ (a.n = a.n ∧ ∀ (i : Nat), i < a.n → [Go.SE.SV.int Go.IntKind.i64 (a.g i).edge, Go.SE.SV.int Go.IntKind.i64
 (a.g i).place, Go.SE.SV.int Go.IntKind.i64 (a.g i).tone] = [Go.SE.SV.int Go.IntKind.i64 (a.g i).edge, Go.SE.SV.int Go.IntKind.i64 (a.g i).place, Go.SE.SV.int Go.IntKind.i64 (a.g i).tone]) ∧ (b.n = b.n ∧ ∀ (i : Nat), i < b.n → [Go.SE.SV.int Go.IntKind.i64 (b.g i).edge, Go.SE.SV.int Go.IntKind.i64 (b.g i).place, Go.SE.SV.int Go.IntKind.i64 (b.g i).tone] = [Go.SE.SV.int Go.IntKind.i64 (b.g i).edge,
 Go.SE.SV.int Go.IntKind.i64 (b.g i).place, Go.SE.SV.int Go.IntKind.i64 (b.g i).tone]) ∧ sl = sl ∧ (b.n = b.n ∧ ∀ (i : Nat), i < b.n → Go.SE.setRow (fun (k : Nat) ↦ [Go.SE.SV.bool (g_1.2.1 k)]) (Int.toNat (L.fnd b g_1.2.1 (a.g g_1.1).tone g_1.2.2)) (nat_lit 0) [Go.SE.SV.bool Bool.true] i = [Go.SE.SV.bool (g'.2 i)]) ∧ (g'.1 ≤ a.n ∧ L.mG b sl a.n a.g us.g = L.mG b sl (a.n - g'.1) (fun (j : Nat) ↦ a.g
 (g'.1 + j)) g'.2) ∧ a.n - g'.1 < a.n - g.1))) ∧ (Decidable.decide ((↑g.1 : Int) < (↑a.n : Int)) = Bool.false → Bool.true = L.mG b sl a.n a.g us.g)) (by kernel_rfl) (by
    obtain ⟨⟨hna, hnb, ha, hb, s0, s1⟩, hu⟩ := hp
    refine ⟨show (0 + us.n) * 1 ≤ 140737488355328 by omega, ⟨(0, us.g), rfl, ⟨by show 0 + us.n = b.n; omega, fun i hi => ?_⟩, Nat.zero_le _, ?_⟩, ?_⟩
    · unfold appGet; rw [if_neg (Nat.not_lt_zero _)]; rfl
    · show L.mG b sl a.n a.g us.g = L.mG b sl (a.n - 0) (fun j => a.g (0 + j)) us.g
      simp only [Nat.sub_zero, Nat.zero_add]
    rintro ⟨i, tk⟩ ⟨hi, hG⟩
    have hi : i ≤ a.n := hi
    have hG : L.mG b sl a.n a.g us.g = L.mG b sl (a.n - i) (fun j => a.g (i + j)) tk := hG
    refine ⟨fun hlt => ?_, fun hge => ?_⟩
    · have hlt : (i : Int) < (a.n : Int) := of_decide_eq_true hlt
      refine ⟨InK.of (by omega) (by omega), ⟨(i, tk, b.n), fnd_top.symm, rfl, ⟨rfl, fun _ _ => rfl⟩, rfl, by show i < a.n; omega, hG, Nat.le_refl _⟩, ?_⟩
      rintro ⟨i', tk', c⟩ ⟨e1, e2, e3, e4⟩
      have e1 : (i : Int) = (i' : Int) := e1
      obtain rfl : i = i' := by omega
      have e2 : i < a.n := e2
      have e3 : L.mG b sl a.n a.g us.g = L.mG b sl (a.n - i) (fun j => a.g (i + j)) tk' := e3
      have e4 : c ≤ b.n := e4
      have ei : ((i : Int)).toNat = i := by omega
      dsimp only
      rw [ei]
      refine ⟨fun h1 => ?_, fun h1 => ?_⟩
      · have h1 : 0 ≤ (c : Int) - 1 := of_decide_eq_true h1
        obtain ⟨k, rfl⟩ : ∃ k, c = k + 1 := ⟨c - 1, by omega⟩
        have ek : (((k + 1 : Nat) : Int) - 1).toNat = k := by omega
        rw [ek]
        refine ⟨by omega, by show k < b.n; omega, fun _ => by omega, fun _ => by omega, fun h2 => ?_, fun h2 => ?_⟩
        · refine ⟨InK.of (by omega) (by omega), (i, tk', k), ?_, by show ((k + 1 : Nat) : Int) - 1 - 1 = (k : Int) - 1; omega, rfl, ⟨rfl, fun _ _ => rfl⟩, ⟨rfl, fun _ _ => rfl⟩, rfl, ⟨rfl, fun _ _ => rfl⟩, ⟨rfl, e2, e3, by show k ≤ b.n; omega⟩, Nat.lt_succ_self k⟩
          rw [band, band, Bool.and_eq_true, Bool.and_eq_true] at h2
          show ((k + 1 : Nat) : Int) - 1 = L.fnd b tk' (a.g i).tone k
          rw [fnd_hit (by omega) (notT h2.1.1) (of_decide_eq_true h2.1.2) (of_decide_eq_true h2.2)]; omega
        · exact ⟨InK.of (by omega) (by omega), (i, tk', k), fnd_miss h2, by show ((k + 1 : Nat) : Int) - 1 - 1 = (k : Int) - 1; omega, rfl, ⟨rfl, fun _ _ => rfl⟩, ⟨rfl, fun _ _ => rfl⟩, rfl, ⟨rfl, fun _ _ => rfl⟩, ⟨rfl, e2, e3, by show k ≤ b.n; omega⟩, Nat.lt_succ_self k⟩
      · have h1 : ¬ 0 ≤ (c : Int) - 1 := of_decide_eq_false h1
        obtain rfl : c = 0 := by omega
        rw [fnd_zero]
        have hm : L.mG b sl (a.n - i) (fun j => a.g (i + j)) tk' = (bif decide (L.lastF b tk' (a.g i).tone b.n < 0) then false else bif L.runs (a.g i) (b.g (L.lastF b tk' (a.g i).tone b.n).toNat) sl then L.mG b sl (a.n - (i + 1)) (fun j => a.g (i + 1 + j)) (L.set tk' (L.lastF b tk' (a.g i).tone b.n).toNat) else false) := by
          rw [show a.n - i = (a.n - (i + 1)) + 1 by omega, L.mG]
          have : (fun j => a.g (i + (j + 1))) = (fun j => a.g (i + 1 + j)) := funext fun j => by
            congr 1; omega
          rw [← this]; rfl
        have hF := lastF_bd (b := b) (tk := tk') (t := (a.g i).tone) (n := b.n)
        generalize hFe : L.lastF b tk' (a.g i).tone b.n = F at hm hF
        have hpos : ∀ h : (!decide (F < 0)) = true, 0 ≤ F := fun h => by have := of_decide_eq_false (notT h); omega
        refine ⟨fun _ => by omega, fun h => ⟨hpos h, hF.2⟩, fun h => ?_, fun h => ?_, fun h => ?_⟩
        · have h0 := hpos h
          exact ⟨(ha i e2).1, (ha i e2).2, (hb F.toNat (by omega)).1, (hb F.toNat (by omega)).2, s0, s1⟩
        · rw [e3, hm]
          rw [bor, Bool.or_eq_true] at h
          rcases h with h | h
          · rw [h]; rfl
          · rw [notT h]; cases decide (F < 0) <;> rfl
        · rw [bor, Bool.or_eq_false_iff] at h
          have h0 : 0 ≤ F := by have := of_decide_eq_false h.1; omega
          refine ⟨⟨h0, hF.2⟩, by show F.toNat < b.n; omega, InK.of (by omega) (by omega), (i + 1, L.set tk' F.toNat), by show (i : Int) + 1 = ((i + 1 : Nat) : Int); omega, ⟨rfl, fun _ _ => rfl⟩, ⟨rfl, fun _ _ => rfl⟩, rfl, ⟨rfl, fun q _ => ?_⟩, ⟨by show i + 1 ≤ a.n; omega, ?_⟩, by show a.n - (i + 1) < a.n - i; omega⟩
          · unfold setRow
            by_cases e : q = F.toNat
            · rw [if_pos e]; subst e; simp [fillAt, set_self]
            · rw [if_neg e]; simp [set_ne e]
          · show L.mG b sl a.n a.g us.g = L.mG b sl (a.n - (i + 1)) (fun j => a.g (i + 1 + j)) (L.set tk' F.toNat)
            rw [e3, hm, h.1, notF h.2]; rfl
    · have hge : ¬ (i : Int) < (a.n : Int) := of_decide_eq_false hge
      rw [hG, show a.n - i = 0 by omega]; rfl)
theorem r3_matched_ok : SpecOk Try.prog 74 r3_matched_S := fnX Try.func74 (c := bodyOf Try.f74) (by kernel_rfl) mixed (fun args p r hs hp => by
  unfold r3_matched_s at hs
  split at hs
  · cases hs; exact ⟨_, _, r3_matched_vc _ _ _ _ hp.2.2.2, (.p (.sl hp.1) (.p (.sl hp.2.1) (.p (.sl hp.2.2.1) (.same _ .nil)))), ⟨show SpecsL Try.prog _ from (SpecsL.cons r3_runs_ok r3_runs_en SpecsL.nil), rfl, ⟨show ItersL Try.prog _ from ItersL.nil, (TrsOk.none (fun _ => rfl))⟩⟩⟩
  · cases hs)
theorem r3_matched_en : Enters Try.prog 74 := fun args w => by kernel_rfl
theorem r3_matched_B : ∀ args p r, r3_matched_s args = some (p, r) → ∃ b, r = .bool b := by
  intro args p r h
  unfold r3_matched_s at h
  split at h
  · cases h; exact ⟨_, rfl⟩
  · cases h
def r3_RunOn_p (a : (L.Sq L.Mark)) (b : (L.Sq L.Mark)) (sl : Int) : Prop := a.n ≤ 1000 ∧ b.n ≤ 1000
def r3_RunOn_q (a : (L.Sq L.Mark)) (b : (L.Sq L.Mark)) (sl : Int) : (L.Sq Int × Int) → Prop := fun t => L.runQ a b sl t.1 t.2
def r3_RunOn_r (a : (L.Sq L.Mark)) (b : (L.Sq L.Mark)) (sl : Int) : (L.Sq Int × Int) → SV := fun t => .tup [.sl 1 t.1.n (fun j => [.int .i64 (t.1.g j)]), .int .i64 t.2]
def r3_RunOn_s : List EV → Option (Prop × ((L.Sq Int × Int) → Prop) × ((L.Sq Int × Int) → SV))
  | [.p (.sl 3 a_n a_g), .p (.sl 3 b_n b_g), .p (.int .i64 sl)] => some ((∀ i, i < a_n → a_g i = [.int .i64 ((ofMark (a_g i)).edge), .int .i64 ((ofMark (a_g i)).place), .int .i64 ((ofMark (a_g i)).tone)]) ∧ (∀ i, i < b_n → b_g i = [.int .i64 ((ofMark (b_g i)).edge), .int .i64 ((ofMark (b_g i)).place), .int .i64 ((ofMark (b_g i)).tone)]) ∧ r3_RunOn_p (⟨a_n, fun i => ofMark (a_g i)⟩ : (L.Sq L.Mark)) (⟨b_n, fun i => ofMark (b_g i)⟩ : (L.Sq L.Mark)) sl, r3_RunOn_q (⟨a_n, fun i => ofMark (a_g i)⟩ : (L.Sq L.Mark)) (⟨b_n, fun i => ofMark (b_g i)⟩ : (L.Sq L.Mark)) sl, r3_RunOn_r (⟨a_n, fun i => ofMark (a_g i)⟩ : (L.Sq L.Mark)) (⟨b_n, fun i => ofMark (b_g i)⟩ : (L.Sq L.Mark)) sl)
  | _ => none
abbrev r3_RunOn_S : SE.Spec := (specR (L.Sq Int × Int) (L.nil, 0) r3_RunOn_s)
def r3_RunOn_C : Cfg := { muts := [27], frz := lookN [], specs := lookS [(73, r3_oneEdge_S), (59, r3_within_S), (74, r3_matched_S), (75, r3_runs_S)], loops := fun _ => none, iters := lookI [], rfs := lookR [], nils := lookM [(7, [(9, 20, 3, 1)])] }
theorem r3_RunOn_vc (a : (L.Sq L.Mark)) (b : (L.Sq L.Mark)) (sl : Int) (hp : r3_RunOn_p a b sl) : vc Try.prog ({ r3_RunOn_C with loops := lookL [(8, { T := L.Sq Int, keep := [0, 1, 2, 8, 9], keepO := [], chg := fun f => [(10, .p (.int .i64 (f.n : Int)))], own := fun f => [(20, .row 3 1 f.n (fun j => [.int .i64 (f.g j)])), (27, .row 4 1 b.n (fun k => [.bool (L.tk f k)]))], inv := fun f => L.runI a b sl f, mu := fun f => b.n - f.n }), (11, { T := L.Sq Int × Nat, keep := [0, 1, 2, 8, 9, 10], keepO := [], tie := fun g => [(10, .int .i64 (g.1.n : Int))], chg := fun g => [(11, .p (.int .i64 (g.2 : Int)))], own := fun g => [(20, .row 3 1 g.1.n (fun j => [.int .i64 (g.1.g j)])), (27, .row 4 1 b.n (fun k => [.bool (L.tk g.1 k)]))], inv := fun g => L.runK a b sl g.1 g.2, mu := fun g => b.n - g.2 })], rfs := lookR [] }) (bodyOf Try.f28) (st0 Try.f28 [.p (.sl 3 a.n (fun i => [.int .i64 ((a.g i).edge), .int .i64 ((a.g i).place), .int .i64 ((a.g i).tone)])), .p (.sl 3 b.n (fun i => [.int .i64 ((b.g i).edge), .int .i64 ((b.g i).place), .int .i64 ((b.g i).tone)])), .p (.int .i64 sl)]) (retRel Try.prog Try.f28 ((L.Sq Int × Int)) (r3_RunOn_q a b sl) (r3_RunOn_r a b sl)) :=
  @Eq.mpr _ (((∀ (i : Nat), i < a.n → [Go.SE.SV.int Go.IntKind.i64 (a.g i).edge, Go.SE.SV.int Go.IntKind.i64 (a.g i).place, Go.SE.SV.int Go.IntKind.i64 (a.g i).tone] = [Go.SE.SV.int Go.IntKind.i64 (a.g i).edge, Go.SE.SV.int Go.IntKind.i64 (a.g i).place, Go.SE.SV.int Go.IntKind.i64 (a.g i).tone]) ∧ a.n ≤ (1000000 : Nat)) ∧ ((!!L.oneEdge (L.Sq.mk a.n fun (i : Nat) ↦ a.g i)) = Bool.true → (∀ (i : Nat), i < b.n →
 [Go.SE.SV.int Go.IntKind.i64 (b.g i).edge, Go.SE.SV.int Go.IntKind.i64 (b.g i).place, Go.SE.SV.int Go.IntKind.i64 (b.g i).tone] = [Go.SE.SV.int Go.IntKind.i64 (b.g i).edge, Go.SE.SV.int Go.IntKind.i64 (b.g i).place, Go.SE.SV.int Go.IntKind.i64 (b.g i).tone]) ∧ b.n ≤ (1000000 : Nat)) ∧ ((!bif !L.oneEdge (L.Sq.mk a.n fun (i : Nat) ↦ a.g i) then Bool.true else !L.oneEdge (L.Sq.mk b.n fun (i : Nat) ↦
 b.g i)) = Bool.true → True) ∧ ((bif bif !L.oneEdge (L.Sq.mk a.n fun (i : Nat) ↦ a.g i) then Bool.true else !L.oneEdge (L.Sq.mk b.n fun (i : Nat) ↦ b.g i) then Bool.true else !L.within sl (0 : Int) (16 : Int)) = Bool.true → ∃ (t : L.Sq Int × Int), t.1.n = (0 : Nat) ∧ (1 : Int) = t.2 ∧ L.runQ a b sl t.1 t.2) ∧ ((bif bif !L.oneEdge (L.Sq.mk a.n fun (i : Nat) ↦ a.g i) then Bool.true else !L.oneEdge
 (L.Sq.mk b.n fun (i : Nat) ↦ b.g i) then Bool.true else !L.within sl (0 : Int) (16 : Int)) = Bool.false → ((0 : Int) ≤ (↑b.n : Int) ∧ (↑b.n : Int) ≤ (↑b.n : Int) ∧ (↑b.n : Int) * (↑(nat_lit 1) : Int) ≤ (140737488355328 : Int)) ∧ ((!!Decidable.decide ((↑a.n : Int) = (↑b.n : Int))) = Bool.true → (∀ (i : Nat), i < a.n → [Go.SE.SV.int Go.IntKind.i64 (a.g i).edge, Go.SE.SV.int Go.IntKind.i64 (a.g
 i).place, Go.SE.SV.int Go.IntKind.i64 (a.g i).tone] = [Go.SE.SV.int Go.IntKind.i64 (a.g i).edge, Go.SE.SV.int Go.IntKind.i64 (a.g i).place, Go.SE.SV.int Go.IntKind.i64 (a.g i).tone]) ∧ (∀ (i : Nat), i < b.n → [Go.SE.SV.int Go.IntKind.i64 (b.g i).edge, Go.SE.SV.int Go.IntKind.i64 (b.g i).place, Go.SE.SV.int Go.IntKind.i64 (b.g i).tone] = [Go.SE.SV.int Go.IntKind.i64 (b.g i).edge, Go.SE.SV.int
 Go.IntKind.i64 (b.g i).place, Go.SE.SV.int Go.IntKind.i64 (b.g i).tone]) ∧ (∀ (i : Nat), i < Int.toNat (↑b.n : Int) → [Go.SE.SV.bool Bool.false] = [Go.SE.SV.bool Bool.false]) ∧ L.mOk (L.Sq.mk a.n fun (i : Nat) ↦ a.g i) (L.Sq.mk b.n fun (i : Nat) ↦ b.g i) sl ∧ Int.toNat (↑b.n : Int) = b.n) ∧ ((bif !Decidable.decide ((↑a.n : Int) = (↑b.n : Int)) then Bool.true else !L.mG (L.Sq.mk b.n fun (i : Nat) ↦
 b.g i) sl a.n (fun (i : Nat) ↦ a.g i) fun (i : Nat) ↦ Bool.false) = Bool.true → ∃ (t : L.Sq Int × Int), t.1.n = (0 : Nat) ∧ (31 : Int) = t.2 ∧ L.runQ a b sl t.1 t.2) ∧ ((bif !Decidable.decide ((↑a.n : Int) = (↑b.n : Int)) then Bool.true else !L.mG (L.Sq.mk b.n fun (i : Nat) ↦ b.g i) sl a.n (fun (i : Nat) ↦ a.g i) fun (i : Nat) ↦ Bool.false) = Bool.false → (∃ (g : L.Sq Int), (0 : Int) = (↑g.n :
 Int) ∧ (nat_lit 0 = g.n ∧ ∀ (i : Nat), i < nat_lit 0 → [] = [Go.SE.SV.int Go.IntKind.i64 (g.g i)]) ∧ (Int.toNat (↑b.n : Int) = b.n ∧ ∀ (i : Nat), i < Int.toNat (↑b.n : Int) → [Go.SE.SV.bool Bool.false] = [Go.SE.SV.bool (L.tk g i)]) ∧ L.runI a b sl g) ∧ ∀ (g : L.Sq Int), L.runI a b sl g → (Decidable.decide ((↑g.n : Int) < (↑a.n : Int)) = Bool.true → (∃ (g_1 : L.Sq Int × Nat), (0 : Int) = (↑g_1.2 :
 Int) ∧ (g.n = g_1.1.n ∧ ∀ (i : Nat), i < g.n → [Go.SE.SV.int Go.IntKind.i64 (g.g i)] = [Go.SE.SV.int Go.IntKind.i64 (g_1.1.g i)]) ∧ (b.n = b.n ∧ ∀ (i : Nat), i < b.n → [Go.SE.SV.bool (L.tk g i)] = [Go.SE.SV.bool (L.tk g_1.1 i)]) ∧ (↑g.n : Int) = (↑g_1.1.n : Int) ∧ L.runK a b sl g_1.1 g_1.2) ∧ ∀ (g_1 : L.Sq Int × Nat), (↑g.n : Int) = (↑g_1.1.n : Int) ∧ L.runK a b sl g_1.1 g_1.2 → (Decidable.decide
 ((↑g_1.2 : Int) < (↑b.n : Int)) = Bool.true → ((0 : Int) ≤ (↑g_1.2 : Int) ∧ (↑g_1.2 : Int) < (↑b.n : Int)) ∧ Int.toNat (↑g_1.2 : Int) < b.n ∧ ((!L.tk g_1.1 (Int.toNat (↑g_1.2 : Int))) = Bool.true → (0 : Int) ≤ (↑g.n : Int) ∧ (↑g.n : Int) < (↑a.n : Int)) ∧ ((!L.tk g_1.1 (Int.toNat (↑g_1.2 : Int))) = Bool.true → (0 : Int) ≤ (↑g_1.2 : Int) ∧ (↑g_1.2 : Int) < (↑b.n : Int)) ∧ ((!L.tk g_1.1 (Int.toNat
 (↑g_1.2 : Int))) = Bool.true → (0 : Int) ≤ (a.g (Int.toNat (↑g.n : Int))).place ∧ (a.g (Int.toNat (↑g.n : Int))).place ≤ (16 : Int) ∧ (0 : Int) ≤ (b.g (Int.toNat (↑g_1.2 : Int))).place ∧ (b.g (Int.toNat (↑g_1.2 : Int))).place ≤ (16 : Int) ∧ (0 : Int) ≤ sl ∧ sl ≤ (16 : Int)) ∧ ((bif L.tk g_1.1 (Int.toNat (↑g_1.2 : Int)) then Bool.true else !L.runs (a.g (Int.toNat (↑g.n : Int))) (b.g (Int.toNat
 (↑g_1.2 : Int))) sl) = Bool.true → Go.SE.InK Go.IntKind.i64 ((↑g_1.2 : Int) + (1 : Int)) ∧ ∃ (g' : L.Sq Int × Nat), (↑g_1.2 : Int) + (1 : Int) = (↑g'.2 : Int) ∧ (↑g.n : Int) = (↑g.n : Int) ∧ (a.n = a.n ∧ ∀ (i : Nat), i < a.n → [Go.SE.SV.int Go.IntKind.i64 (a.g i).edge, Go.SE.SV.int Go.IntKind.i64 (a.g i).place, Go.SE.SV.int Go.IntKind.i64 (a.g i).tone] = [Go.SE.SV.int Go.IntKind.i64 (a.g i).edge,
 Go.SE.SV.int Go.IntKind.i64 (a.g i).place, Go.SE.SV.int Go.IntKind.i64 (a.g i).tone]) ∧ (b.n = b.n ∧ ∀ (i : Nat), i < b.n → [Go.SE.SV.int Go.IntKind.i64 (b.g i).edge, Go.SE.SV.int Go.IntKind.i64 (b.g i).place, Go.SE.SV.int Go.IntKind.i64 (b.g i).tone] = [Go.SE.SV.int Go.IntKind.i64 (b.g i).edge, Go.SE.SV.int Go.IntKind.i64 (b.g i).place, Go.SE.SV.int Go.IntKind.i64 (b.g i).tone]) ∧ sl = sl ∧
 (g_1.1.n = g'.1.n ∧ ∀ (i : Nat), i < g_1.1.n → [Go.SE.SV.int Go.IntKind.i64 (g_1.1.g i)] = [Go.SE.SV.int Go.IntKind.i64 (g'.1.g i)]) ∧ (b.n = b.n ∧ ∀ (i : Nat), i < b.n → [Go.SE.SV.bool (L.tk g_1.1 i)] = [Go.SE.SV.bool (L.tk g'.1 i)]) ∧ ((↑g.n : Int) = (↑g'.1.n : Int) ∧ L.runK a b sl g'.1 g'.2) ∧ b.n - g'.2 < b.n - g_1.2) ∧ ((bif L.tk g_1.1 (Int.toNat (↑g_1.2 : Int)) then Bool.true else !L.runs
 (a.g (Int.toNat (↑g.n : Int))) (b.g (Int.toNat (↑g_1.2 : Int))) sl) = Bool.false → ((0 : Int) ≤ (↑g_1.2 : Int) ∧ (↑g_1.2 : Int) < (↑b.n : Int)) ∧ Int.toNat (↑g_1.2 : Int) < b.n ∧ Go.SE.InK Go.IntKind.i64 ((↑g.n : Int) + (1 : Int)) ∧ ((0 : Int) ≤ (↑g.n : Int) + (1 : Int) ∧ (↑g.n : Int) + (1 : Int) ≤ (↑a.n : Int) ∧ (↑a.n : Int) ≤ (↑a.n : Int)) ∧ ((∀ (i : Nat), i < Int.toNat ((↑a.n : Int) - ((↑g.n :
 Int) + (1 : Int))) → [Go.SE.SV.int Go.IntKind.i64 (a.g (Int.toNat ((↑g.n : Int) + (1 : Int)) + i)).edge, Go.SE.SV.int Go.IntKind.i64 (a.g (Int.toNat ((↑g.n : Int) + (1 : Int)) + i)).place, Go.SE.SV.int Go.IntKind.i64 (a.g (Int.toNat ((↑g.n : Int) + (1 : Int)) + i)).tone] = [Go.SE.SV.int Go.IntKind.i64 (a.g (Int.toNat ((↑g.n : Int) + (1 : Int)) + i)).edge, Go.SE.SV.int Go.IntKind.i64 (a.g
 (Int.toNat ((↑g.n : Int) + (1 : Int)) + i)).place, Go.SE.SV.int Go.IntKind.i64 (a.g (Int.toNat ((↑g.n : Int) + (1 : Int)) + i)).tone]) ∧ (∀ (i : Nat), i < b.n → [Go.SE.SV.int Go.IntKind.i64 (b.g i).edge, Go.SE.SV.int Go.IntKind.i64 (b.g i).place, Go.SE.SV.int Go.IntKind.i64 (b.g i).tone] = [Go.SE.SV.int Go.IntKind.i64 (b.g i).edge, Go.SE.SV.int Go.IntKind.i64 (b.g i).place, Go.SE.SV.int
 Go.IntKind.i64 (b.g i).tone]) ∧ (∀ (i : Nat), i < b.n → Go.SE.setRow (fun (k : Nat) ↦ [Go.SE.SV.bool (L.tk g_1.1 k)]) (Int.toNat (↑g_1.2 : Int)) (nat_lit 0) [Go.SE.SV.bool Bool.true] i = [Go.SE.SV.bool (boolOf (Go.SE.setRow (fun (k : Nat) ↦ [Go.SE.SV.bool (L.tk g_1.1 k)]) (Int.toNat (↑g_1.2 : Int)) (nat_lit 0) [Go.SE.SV.bool Bool.true] i))]) ∧ L.mOk (L.Sq.mk (Int.toNat ((↑a.n : Int) - ((↑g.n :
 Int) + (1 : Int)))) fun (i : Nat) ↦ a.g (Int.toNat ((↑g.n : Int) + (1 : Int)) + i)) (L.Sq.mk b.n fun (i : Nat) ↦ b.g i) sl ∧ b.n = b.n) ∧ ((L.mG (L.Sq.mk b.n fun (i : Nat) ↦ b.g i) sl (Int.toNat ((↑a.n : Int) - ((↑g.n : Int) + (1 : Int)))) (fun (i : Nat) ↦ a.g (Int.toNat ((↑g.n : Int) + (1 : Int)) + i)) fun (i : Nat) ↦ boolOf (Go.SE.setRow (fun (k : Nat) ↦ [Go.SE.SV.bool (L.tk g_1.1 k)])
 (Int.toNat (↑g_1.2 : Int)) (nat_lit 0) [Go.SE.SV.bool Bool.true] i)) = Bool.true → (g_1.1.n + nat_lit 1) * nat_lit 8 ≤ (140737488355328 : Nat) ∧ Go.SE.InK Go.IntKind.i64 ((↑g.n : Int) + (1 : Int)) ∧ ∃ (g' : L.Sq Int), (↑g.n : Int) + (1 : Int) = (↑g'.n : Int) ∧ (a.n = a.n ∧ ∀ (i : Nat), i < a.n → [Go.SE.SV.int Go.IntKind.i64 (a.g i).edge, Go.SE.SV.int Go.IntKind.i64 (a.g i).place, Go.SE.SV.int
 Go.IntKind.i64 (a.g i).tone] = [Go.SE.SV.int Go.IntKind.i64 (a.g i).edge, Go.SE.SV.int Go.IntKind.i64 (a.g i).place, Go.SE.SV.int Go.IntKind.i64 (a.g i).tone]) ∧ (b.n = b.n ∧ ∀ (i : Nat), i < b.n → [Go.SE.SV.int Go.IntKind.i64 (b.g i).edge, Go.SE.SV.int Go.IntKind.i64 (b.g i).place, Go.SE.SV.int Go.IntKind.i64 (b.g i).tone] = [Go.SE.SV.int Go.IntKind.i64 (b.g i).edge, Go.SE.SV.int Go.IntKind.i64
 (b.g i).place, Go.SE.SV.int Go.IntKind.i64 (b.g i).tone]) ∧ sl = sl ∧ (g_1.1.n + nat_lit 1 = g'.n ∧ ∀ (i : Nat), i < g_1.1.n + nat_lit 1 → Go.SE.appGet g_1.1.n (fun (j : Nat) ↦ [Go.SE.SV.int Go.IntKind.i64 (g_1.1.g j)]) (fun (x : Nat) ↦ [Go.SE.SV.int Go.IntKind.i64 (↑g_1.2 : Int)]) i = [Go.SE.SV.int Go.IntKind.i64 (g'.g i)]) ∧ (b.n = b.n ∧ ∀ (i : Nat), i < b.n → Go.SE.setRow (fun (k : Nat) ↦
 [Go.SE.SV.bool (L.tk g_1.1 k)]) (Int.toNat (↑g_1.2 : Int)) (nat_lit 0) [Go.SE.SV.bool Bool.true] i = [Go.SE.SV.bool (L.tk g' i)]) ∧ L.runI a b sl g' ∧ b.n - g'.n < b.n - g.n) ∧ ((L.mG (L.Sq.mk b.n fun (i : Nat) ↦ b.g i) sl (Int.toNat ((↑a.n : Int) - ((↑g.n : Int) + (1 : Int)))) (fun (i : Nat) ↦ a.g (Int.toNat ((↑g.n : Int) + (1 : Int)) + i)) fun (i : Nat) ↦ boolOf (Go.SE.setRow (fun (k : Nat) ↦
 [Go.SE.SV.bool (L.tk g_1.1 k)]) (Int.toNat (↑g_1.2 : Int)) (nat_lit 0) [Go.SE.SV.bool Bool.true] i)) = Bool.false → ((0 : Int) ≤ (↑g_1.2 : Int) ∧ (↑g_1.2 : Int) < (↑b.n : Int)) ∧ Int.toNat (↑g_1.2 : Int) < b.n ∧ Go.SE.InK Go.IntKind.i64 ((↑g_1.2 : Int) + (1 : Int)) ∧ ∃ (g' : L.Sq Int × Nat), (↑g_1.2 : Int) + (1 : Int) = (↑g'.2 : Int) ∧ (↑g.n : Int) = (↑g.n : Int) ∧ (a.n = a.n ∧ ∀ (i : Nat), i <
 a.n → [Go.SE.SV.int Go.IntKind.i64 (a.g i).edge, Go.SE.SV.int Go.IntKind.i64 (a.g i).place, Go.SE.SV.int Go.IntKind.i64 (a.g i).tone] = [Go.SE.SV.int Go.IntKind.i64 (a.g i).edge, Go.SE.SV.int Go.IntKind.i64 (a.g i).place, Go.SE.SV.int Go.IntKind.i64 (a.g i).tone]) ∧ (b.n = b.n ∧ ∀ (i : Nat), i < b.n → [Go.SE.SV.int Go.IntKind.i64 (b.g i).edge, Go.SE.SV.int Go.IntKind.i64 (b.g i).place,
 Go.SE.SV.int Go.IntKind.i64 (b.g i).tone] = [Go.SE.SV.int Go.IntKind.i64 (b.g i).edge, Go.SE.SV.int Go.IntKind.i64 (b.g i).place, Go.SE.SV.int Go.IntKind.i64 (b.g i).tone]) ∧ sl = sl ∧ (g_1.1.n = g'.1.n ∧ ∀ (i : Nat), i < g_1.1.n → [Go.SE.SV.int Go.IntKind.i64 (g_1.1.g i)] = [Go.SE.SV.int Go.IntKind.i64 (g'.1.g i)]) ∧ (b.n = b.n ∧ ∀ (i : Nat), i < b.n → Go.SE.setRow (Go.SE.setRow (fun (k : Nat) ↦
 [Go.SE.SV.bool (L.tk g_1.1 k)]) (Int.toNat (↑g_1.2 : Int)) (nat_lit 0) [Go.SE.SV.bool Bool.true]) (Int.toNat (↑g_1.2 : Int)) (nat_lit 0) [Go.SE.SV.bool Bool.false] i = [Go.SE.SV.bool (L.tk g'.1 i)]) ∧ ((↑g.n : Int) = (↑g'.1.n : Int) ∧ L.runK a b sl g'.1 g'.2) ∧ b.n - g'.2 < b.n - g_1.2))) ∧ (Decidable.decide ((↑g_1.2 : Int) < (↑b.n : Int)) = Bool.false → Go.SE.InK Go.IntKind.i64 ((↑g.n : Int) + (1
 : Int)) ∧ ∃ (g' : L.Sq Int), (↑g.n : Int) + (1 : Int) = (↑g'.n : Int) ∧ (a.n = a.n ∧ ∀ (i : Nat), i < a.n → [Go.SE.SV.int Go.IntKind.i64 (a.g i).edge, Go.SE.SV.int Go.IntKind.i64 (a.g i).place, Go.SE.SV.int Go.IntKind.i64 (a.g i).tone] = [Go.SE.SV.int Go.IntKind.i64 (a.g i).edge, Go.SE.SV.int Go.IntKind.i64 (a.g i).place, Go.SE.SV.int Go.IntKind.i64 (a.g i).tone]) ∧ (b.n = b.n ∧ ∀ (i : Nat), i <
 b.n → [Go.SE.SV.int Go.IntKind.i64 (b.g i).edge, Go.SE.SV.int Go.IntKind.i64 (b.g i).place, Go.SE.SV.int Go.IntKind.i64 (b.g i).tone] = [Go.SE.SV.int Go.IntKind.i64 (b.g i).edge, Go.SE.SV.int Go.IntKind.i64 (b.g i).place, Go.SE.SV.int Go.IntKind.i64 (b.g i).tone]) ∧ sl = sl ∧ (g_1.1.n = g'.n ∧ ∀ (i : Nat), i < g_1.1.n → [Go.SE.SV.int Go.IntKind.i64 (g_1.1.g i)] = [Go.SE.SV.int Go.IntKind.i64 (g'.g
 i)]) ∧ (b.n = b.n ∧ ∀ (i : Nat), i < b.n → [Go.SE.SV.bool (L.tk g_1.1 i)] = [Go.SE.SV.bool (L.tk g' i)]) ∧ L.runI a b sl g' ∧ b.n - g'.n < b.n - g.n)) ∧ (Decidable.decide ((↑g.n : Int) < (↑a.n : Int)) = Bool.false → ∃ (t : L.Sq Int × Int), (g.n = t.1.n ∧ ∀ (i : Nat), i < g.n → [Go.SE.SV.int Go.IntKind.i64 (g.g i)] = [Go.SE.SV.int Go.IntKind.i64 (t.1.g i)]) ∧ (0 : Int) = t.2 ∧ L.runQ a b sl t.1
 t.2)))) (by kernel_rfl) (by
    obtain ⟨hna, hnb⟩ := hp
    refine ⟨⟨fun _ _ => rfl, by omega⟩, fun _ => ⟨fun _ _ => rfl, by omega⟩, fun _ => trivial, fun h => ?_, fun h => ?_⟩
    · have h : L.runBad a b sl = true := h
      exact ⟨(L.nil, 1), rfl, rfl, .inl ⟨h, rfl, rfl⟩⟩
    have hbad : L.runBad a b sl = false := h
    have hedges : L.oneEdge a = true ∧ L.oneEdge b = true := by
      have h := hbad
      unfold L.runBad at h
      rw [bor, bor, Bool.or_eq_false_iff, Bool.or_eq_false_iff] at h
      exact ⟨notF h.1.1, notF h.1.2⟩
    have ma := oneEdge_mono hedges.1
    have mb := oneEdge_mono hedges.2
    have etn : ((b.n : Int)).toNat = b.n := by omega
    rw [etn]
    refine ⟨⟨by omega, by omega, show (b.n : Int) * 1 ≤ 140737488355328 by omega⟩, fun hab => ?_, fun hE => ?_, fun hE => ?_⟩
    · have hab : a.n = b.n := by have := of_decide_eq_true (notF (notT hab)); omega
      have hok := run_ok hbad hab (by omega)
      exact ⟨fun _ _ => rfl, fun _ _ => rfl, fun _ _ => rfl, ⟨hna, hnb, hok.2.2.1, hok.2.2.2.1, hok.2.2.2.2.1, hok.2.2.2.2.2⟩, rfl⟩
    · by_cases hab : a.n = b.n
      · have hok := run_ok hbad hab (by omega)
        have hE : (bif !decide ((a.n : Int) = (b.n : Int)) then true else !L.mG b sl a.n a.g (fun _ => false)) = true := hE
        rw [decide_eq_true (show (a.n : Int) = (b.n : Int) by omega)] at hE
        have hE : L.mG b sl a.n a.g (fun _ => false) = false := notT hE
        exact ⟨(L.nil, 31), rfl, rfl, .inr (.inr ⟨hbad, hok, .inl ⟨fun hX => (by rw [(mG_nil hok ma mb).2 hX] at hE; cases hE), rfl, rfl⟩⟩)⟩
      · exact ⟨(L.nil, 31), rfl, rfl, .inr (.inl ⟨hbad, hab, rfl, rfl⟩)⟩
    have hE : (bif !decide ((a.n : Int) = (b.n : Int)) then true else !L.mG b sl a.n a.g (fun _ => false)) = false := hE
    rw [bor, Bool.or_eq_false_iff] at hE
    have hab : a.n = b.n := by have := of_decide_eq_true (notF hE.1); omega
    have hok := run_ok hbad hab (by omega)
    have hX := (mG_nil hok ma mb).1 (notF hE.2)
    refine ⟨⟨L.nil, rfl, ⟨rfl, fun i hi => absurd hi (Nat.not_lt_zero _)⟩, ⟨rfl, fun i _ => rfl⟩, run_0 hok⟩, fun f hI => ⟨fun hlt => ?_, fun hge => ?_⟩⟩
    · have hlt : (f.n : Int) < (a.n : Int) := of_decide_eq_true hlt
      refine ⟨⟨(f, 0), rfl, ⟨rfl, fun _ _ => rfl⟩, ⟨rfl, fun _ _ => rfl⟩, rfl, run_k0 hI (show f.n < b.n by omega)⟩, ?_⟩
      rintro ⟨f1, k⟩ ⟨e1, hK⟩
      have e1 : (f.n : Int) = (f1.n : Int) := e1
      have e1' : f.n = f1.n := by omega
      have hK : L.runK a b sl f1 k := hK
      have hf1 : f1.n < b.n := hK.2.1
      dsimp only
      rw [e1']
      have ek : ((k : Int)).toNat = k := by omega
      have en : ((f1.n : Int)).toNat = f1.n := by omega
      rw [ek, en]
      refine ⟨fun hlt2 => ?_, fun hge2 => ?_⟩
      · have hlt2 : (k : Int) < (b.n : Int) := of_decide_eq_true hlt2
        have hk : k < b.n := by omega
        have qa := hok.2.2.1 f1.n (by omega)
        have qb := hok.2.2.2.1 k hk
        refine ⟨by omega, by show k < b.n; exact hk, fun _ => by omega, fun _ => by omega, fun _ => ⟨qa.1, qa.2, qb.1, qb.2, hok.2.2.2.2.1, hok.2.2.2.2.2⟩, fun h2 => ?_, fun h2 => ?_⟩
        · refine ⟨InK.of (by omega) (by omega), (f1, k + 1), by show (k : Int) + 1 = ((k + 1 : Nat) : Int); omega, rfl, ⟨rfl, fun _ _ => rfl⟩, ⟨rfl, fun _ _ => rfl⟩, rfl, ⟨rfl, fun _ _ => rfl⟩, ⟨rfl, fun _ _ => rfl⟩, ⟨rfl, run_next hK hk (fun hne => ?_)⟩, by show b.n - (k + 1) < b.n - k; omega⟩
          have hne : L.runs (a.g f1.n) (b.g k) sl = true := hne
          rw [hne, bor, Bool.or_eq_true] at h2
          rcases h2 with h2 | h2
          · exact ext_in hf1 hK.1.1 h2
          · cases h2
        · rw [bor, Bool.or_eq_false_iff] at h2
          have hfree : L.tk f1 k = false := h2.1
          have hne : L.near a b sl f1.n k = true := notF h2.2
          have hfun : ∀ q, setRow (fun k => [SV.bool (L.tk f1 k)]) k 0 [SV.bool true] q = [SV.bool (L.set (L.tk f1) k q)] := fun q => by
            unfold setRow
            by_cases e : q = k
            · rw [if_pos e]; subst e; simp [fillAt, set_self]
            · rw [if_neg e]; simp [set_ne e]
          have hm : L.mG b sl ((a.n : Int) - ((f1.n : Int) + 1)).toNat (fun i => a.g (((f1.n : Int) + 1).toNat + i)) (fun i => boolOf (setRow (fun k => [SV.bool (L.tk f1 k)]) k 0 [SV.bool true] i)) = true ↔ L.Ext a b sl (L.snoc f1 (k : Int)) := by
            have := mG_ext (sl := sl) ma mb (a.n - (f1.n + 1)) (L.snoc f1 (k : Int)) (L.set (L.tk f1) k) (pair_snoc hK.1.1 hf1 hk hfree) (by show f1.n + 1 + (a.n - (f1.n + 1)) = b.n; omega) (fun q _ => (tk_snoc q).symm)
            rw [← this, show ((a.n : Int) - ((f1.n : Int) + 1)).toNat = a.n - (f1.n + 1) by omega, show ((f1.n : Int) + 1).toNat = f1.n + 1 by omega]
            rw [show (fun i => boolOf (setRow (fun k => [SV.bool (L.tk f1 k)]) k 0 [SV.bool true] i)) = L.set (L.tk f1) k from funext fun q => by rw [hfun]; rfl]
            exact Iff.rfl
          refine ⟨by omega, by show k < b.n; exact hk, InK.of (by omega) (by omega), by omega, ⟨fun _ _ => rfl, fun _ _ => rfl, fun i _ => by rw [hfun]; rfl, ⟨?_, hnb, fun i hi => ?_, hok.2.2.2.1, hok.2.2.2.2.1, hok.2.2.2.2.2⟩, rfl⟩, fun h3 => ?_, fun h3 => ?_⟩
          · show ((a.n : Int) - ((f1.n : Int) + 1)).toNat ≤ 1000
            omega
          · have hi : i < ((a.n : Int) - ((f1.n : Int) + 1)).toNat := hi
            exact hok.2.2.1 _ (by omega)
          · have hX1 := hm.1 h3
            refine ⟨show (f1.n + 1) * 8 ≤ 140737488355328 by omega, InK.of (by omega) (by omega), L.snoc f1 (k : Int), by show (f1.n : Int) + 1 = ((f1.n + 1 : Nat) : Int); omega, ⟨rfl, fun _ _ => rfl⟩, ⟨rfl, fun _ _ => rfl⟩, rfl, ⟨rfl, fun i hi => ?_⟩, ⟨rfl, fun i _ => by rw [hfun, tk_snoc]⟩, run_snoc hK hk hne hfree hX1, by show b.n - (f1.n + 1) < b.n - f1.n; omega⟩
            have hi : i < f1.n + 1 := hi
            unfold appGet
            by_cases h' : i < f1.n
            · rw [if_pos h', snoc_lt h']
            · have : i = f1.n := by omega
              rw [if_neg h', this, snoc_eq]
          · refine ⟨by omega, by show k < b.n; exact hk, InK.of (by omega) (by omega), (f1, k + 1), by show (k : Int) + 1 = ((k + 1 : Nat) : Int); omega, rfl, ⟨rfl, fun _ _ => rfl⟩, ⟨rfl, fun _ _ => rfl⟩, rfl, ⟨rfl, fun _ _ => rfl⟩, ⟨rfl, fun i _ => ?_⟩, ⟨rfl, run_next hK hk (fun _ hX1 => ?_)⟩, by show b.n - (k + 1) < b.n - k; omega⟩
            · unfold setRow
              by_cases e : i = k
              · rw [if_pos e, if_pos e]; subst e; simp [fillAt, hfree]
              · rw [if_neg e, if_neg e]
            · have h3 : L.mG b sl ((a.n : Int) - ((f1.n : Int) + 1)).toNat (fun i => a.g (((f1.n : Int) + 1).toNat + i)) (fun i => boolOf (setRow (fun k => [SV.bool (L.tk f1 k)]) k 0 [SV.bool true] i)) = false := h3
              rw [hm.2 hX1] at h3; cases h3
      · have hge2 : ¬ (k : Int) < (b.n : Int) := of_decide_eq_false hge2
        have e : k = b.n := by have := hK.2.2.1; omega
        rw [e] at hK
        exact absurd hX (run_none hK)
    · have hge : ¬ (f.n : Int) < (a.n : Int) := of_decide_eq_false hge
      exact ⟨(f, 0), ⟨rfl, fun _ _ => rfl⟩, rfl, .inr (.inr ⟨hbad, hok, .inr ⟨hI, show f.n = b.n by have := hI.1.2.1; omega, rfl⟩⟩)⟩)
theorem r3_RunOn_ok : SpecOk Try.prog 28 r3_RunOn_S := relX Try.func28 (c := bodyOf Try.f28) (by kernel_rfl) mixed (fun args p q r hs hp => by
  unfold r3_RunOn_s at hs
  split at hs
  · cases hs; exact ⟨_, _, r3_RunOn_vc _ _ _ hp.2.2, (.p (.sl hp.1) (.p (.sl hp.2.1) (.same _ .nil))), ⟨show SpecsL Try.prog _ from (SpecsL.cons r3_oneEdge_ok r3_oneEdge_en (SpecsL.cons r3_within_ok r3_within_en (SpecsL.cons r3_matched_ok r3_matched_en (SpecsL.cons r3_runs_ok r3_runs_en SpecsL.nil)))), rfl, ⟨show ItersL Try.prog _ from ItersL.nil, (TrsOk.none (fun _ => rfl))⟩⟩⟩
  · cases hs)
theorem r3_RunOn_en : Enters Try.prog 28 := fun args w => by kernel_rfl
def w_GlassMarks_p (a : (L.Sq L.Mark)) (b : (L.Sq L.Mark)) (e : Int) (s : L.Span) (sl : Int) : Prop := True
def w_GlassMarks_r (a : (L.Sq L.Mark)) (b : (L.Sq L.Mark)) (e : Int) (s : L.Span) (sl : Int) : SV := .bool true
def w_GlassMarks_s : List EV → Option (Prop × SV)
  | [.p (.sl 3 a_n a_g), .p (.sl 3 b_n b_g), .p (.int .i64 e), .p (.agg [.int .i64 s_lo, .int .i64 s_hi]), .p (.int .i64 sl)] => some ((∀ i, i < a_n → a_g i = [.int .i64 ((ofMark (a_g i)).edge), .int .i64 ((ofMark (a_g i)).place), .int .i64 ((ofMark (a_g i)).tone)]) ∧ (∀ i, i < b_n → b_g i = [.int .i64 ((ofMark (b_g i)).edge), .int .i64 ((ofMark (b_g i)).place), .int .i64 ((ofMark (b_g i)).tone)]) ∧ w_GlassMarks_p (⟨a_n, fun i => ofMark (a_g i)⟩ : (L.Sq L.Mark)) (⟨b_n, fun i => ofMark (b_g i)⟩ : (L.Sq L.Mark)) e (⟨s_lo, s_hi⟩ : L.Span) sl, w_GlassMarks_r (⟨a_n, fun i => ofMark (a_g i)⟩ : (L.Sq L.Mark)) (⟨b_n, fun i => ofMark (b_g i)⟩ : (L.Sq L.Mark)) e (⟨s_lo, s_hi⟩ : L.Span) sl)
  | _ => none
abbrev w_GlassMarks_S : SE.Spec := (specO w_GlassMarks_s)
def w_GlassMarks_C : Cfg := { muts := [], frz := lookN [], specs := lookS [(12, w_awake_S), (24, g_On_S), (25, r3_On_S), (26, g_Count_S), (27, r3_Count_S), (13, g_RunOn_S), (28, r3_RunOn_S), (29, r3_SameMarks_S), (30, r1_SameInts_S)], loops := lookL [], iters := lookI [], rfs := lookR [], nils := lookM [] }
theorem w_GlassMarks_vc (a : (L.Sq L.Mark)) (b : (L.Sq L.Mark)) (e : Int) (s : L.Span) (sl : Int) (hp : w_GlassMarks_p a b e s sl) : vc Try.prog (w_GlassMarks_C) (bodyOf Try.f6) (st0 Try.f6 [.p (.sl 3 a.n (fun i => [.int .i64 ((a.g i).edge), .int .i64 ((a.g i).place), .int .i64 ((a.g i).tone)])), .p (.sl 3 b.n (fun i => [.int .i64 ((b.g i).edge), .int .i64 ((b.g i).place), .int .i64 ((b.g i).tone)])), .p (.int .i64 e), .p (.agg [.int .i64 s.lo, .int .i64 s.hi]), .p (.int .i64 sl)]) (retFn Try.prog Try.f6 (w_GlassMarks_r a b e s sl)) :=
  @Eq.mpr _ (True ∧ ((bif Decidable.decide ((100 : Int) < (↑a.n : Int)) then Bool.true else Decidable.decide ((100 : Int) < (↑b.n : Int))) = Bool.true → Bool.true = Bool.true) ∧ ((bif Decidable.decide ((100 : Int) < (↑a.n : Int)) then Bool.true else Decidable.decide ((100 : Int) < (↑b.n : Int))) = Bool.false → ((∀ (i : Nat), i < a.n → [Go.SE.SV.int Go.IntKind.i64 (a.g i).edge, Go.SE.SV.int Go.IntKind.i64 (a.g
 i).place, Go.SE.SV.int Go.IntKind.i64 (a.g i).tone] = [Go.SE.SV.int Go.IntKind.i64 (a.g i).edge, Go.SE.SV.int Go.IntKind.i64 (a.g i).place, Go.SE.SV.int Go.IntKind.i64 (a.g i).tone]) ∧ a.n ≤ (1000000 : Nat)) ∧ ((∀ (i : Nat), i < a.n → [Go.SE.SV.int Go.IntKind.i64 (a.g i).edge, Go.SE.SV.int Go.IntKind.i64 (a.g i).place, Go.SE.SV.int Go.IntKind.i64 (a.g i).tone] = [Go.SE.SV.int Go.IntKind.i64 (a.g
 i).edge, Go.SE.SV.int Go.IntKind.i64 (a.g i).place, Go.SE.SV.int Go.IntKind.i64 (a.g i).tone]) ∧ a.n ≤ (1000000 : Nat)) ∧ ((∀ (i : Nat), i < a.n → [Go.SE.SV.int Go.IntKind.i64 (a.g i).edge, Go.SE.SV.int Go.IntKind.i64 (a.g i).place, Go.SE.SV.int Go.IntKind.i64 (a.g i).tone] = [Go.SE.SV.int Go.IntKind.i64 (a.g i).edge, Go.SE.SV.int Go.IntKind.i64 (a.g i).place, Go.SE.SV.int Go.IntKind.i64 (a.g
 i).tone]) ∧ a.n ≤ (1000000 : Nat)) ∧ ((∀ (i : Nat), i < a.n → [Go.SE.SV.int Go.IntKind.i64 (a.g i).edge, Go.SE.SV.int Go.IntKind.i64 (a.g i).place, Go.SE.SV.int Go.IntKind.i64 (a.g i).tone] = [Go.SE.SV.int Go.IntKind.i64 (a.g i).edge, Go.SE.SV.int Go.IntKind.i64 (a.g i).place, Go.SE.SV.int Go.IntKind.i64 (a.g i).tone]) ∧ a.n ≤ (1000000 : Nat)) ∧ ((∀ (i : Nat), i < a.n → [Go.SE.SV.int
 Go.IntKind.i64 (a.g i).edge, Go.SE.SV.int Go.IntKind.i64 (a.g i).place, Go.SE.SV.int Go.IntKind.i64 (a.g i).tone] = [Go.SE.SV.int Go.IntKind.i64 (a.g i).edge, Go.SE.SV.int Go.IntKind.i64 (a.g i).place, Go.SE.SV.int Go.IntKind.i64 (a.g i).tone]) ∧ (∀ (i : Nat), i < b.n → [Go.SE.SV.int Go.IntKind.i64 (b.g i).edge, Go.SE.SV.int Go.IntKind.i64 (b.g i).place, Go.SE.SV.int Go.IntKind.i64 (b.g i).tone] =
 [Go.SE.SV.int Go.IntKind.i64 (b.g i).edge, Go.SE.SV.int Go.IntKind.i64 (b.g i).place, Go.SE.SV.int Go.IntKind.i64 (b.g i).tone]) ∧ a.n ≤ (1000 : Nat) ∧ b.n ≤ (1000 : Nat)) ∧ ∀ (t : L.Sq Int × Int), L.runQ (L.Sq.mk a.n fun (i : Nat) ↦ a.g i) (L.Sq.mk b.n fun (i : Nat) ↦ b.g i) sl t.1 t.2 → ((∀ (i : Nat), i < a.n → [Go.SE.SV.int Go.IntKind.i64 (a.g i).edge, Go.SE.SV.int Go.IntKind.i64 (a.g i).place,
 Go.SE.SV.int Go.IntKind.i64 (a.g i).tone] = [Go.SE.SV.int Go.IntKind.i64 (a.g i).edge, Go.SE.SV.int Go.IntKind.i64 (a.g i).place, Go.SE.SV.int Go.IntKind.i64 (a.g i).tone]) ∧ (∀ (i : Nat), i < b.n → [Go.SE.SV.int Go.IntKind.i64 (b.g i).edge, Go.SE.SV.int Go.IntKind.i64 (b.g i).place, Go.SE.SV.int Go.IntKind.i64 (b.g i).tone] = [Go.SE.SV.int Go.IntKind.i64 (b.g i).edge, Go.SE.SV.int Go.IntKind.i64
 (b.g i).place, Go.SE.SV.int Go.IntKind.i64 (b.g i).tone]) ∧ a.n ≤ (1000 : Nat) ∧ b.n ≤ (1000 : Nat)) ∧ ∀ (t_1 : L.Sq Int × Int), L.runQ (L.Sq.mk a.n fun (i : Nat) ↦ a.g i) (L.Sq.mk b.n fun (i : Nat) ↦ b.g i) sl t_1.1 t_1.2 → ((bif Bool.true then Decidable.decide ((bif L.onBad (L.Sq.mk a.n fun (i : Nat) ↦ a.g i) e then (1 : Int) else (0 : Int)) = bif L.onBad (L.Sq.mk a.n fun (i : Nat) ↦ a.g i) e
 then (1 : Int) else (0 : Int)) else Bool.false) = Bool.true → (∀ (i : Nat), i < L.onN (L.Sq.mk a.n fun (i : Nat) ↦ a.g i) e → [Go.SE.SV.int Go.IntKind.i64 (L.onG (L.Sq.mk a.n fun (i : Nat) ↦ a.g i) e i).edge, Go.SE.SV.int Go.IntKind.i64 (L.onG (L.Sq.mk a.n fun (i : Nat) ↦ a.g i) e i).place, Go.SE.SV.int Go.IntKind.i64 (L.onG (L.Sq.mk a.n fun (i : Nat) ↦ a.g i) e i).tone] = [Go.SE.SV.int
 Go.IntKind.i64 (L.onG (L.Sq.mk a.n fun (i : Nat) ↦ a.g i) e i).edge, Go.SE.SV.int Go.IntKind.i64 (L.onG (L.Sq.mk a.n fun (i : Nat) ↦ a.g i) e i).place, Go.SE.SV.int Go.IntKind.i64 (L.onG (L.Sq.mk a.n fun (i : Nat) ↦ a.g i) e i).tone]) ∧ (∀ (i : Nat), i < L.onN (L.Sq.mk a.n fun (i : Nat) ↦ a.g i) e → [Go.SE.SV.int Go.IntKind.i64 (L.onG (L.Sq.mk a.n fun (i : Nat) ↦ a.g i) e i).edge, Go.SE.SV.int
 Go.IntKind.i64 (L.onG (L.Sq.mk a.n fun (i : Nat) ↦ a.g i) e i).place, Go.SE.SV.int Go.IntKind.i64 (L.onG (L.Sq.mk a.n fun (i : Nat) ↦ a.g i) e i).tone] = [Go.SE.SV.int Go.IntKind.i64 (L.onG (L.Sq.mk a.n fun (i : Nat) ↦ a.g i) e i).edge, Go.SE.SV.int Go.IntKind.i64 (L.onG (L.Sq.mk a.n fun (i : Nat) ↦ a.g i) e i).place, Go.SE.SV.int Go.IntKind.i64 (L.onG (L.Sq.mk a.n fun (i : Nat) ↦ a.g i) e
 i).tone]) ∧ L.onN (L.Sq.mk a.n fun (i : Nat) ↦ a.g i) e ≤ (1000000 : Nat)) ∧ ((bif bif bif bif bif Bool.true then Decidable.decide ((bif L.onBad (L.Sq.mk a.n fun (i : Nat) ↦ a.g i) e then (1 : Int) else (0 : Int)) = bif L.onBad (L.Sq.mk a.n fun (i : Nat) ↦ a.g i) e then (1 : Int) else (0 : Int)) else Bool.false then L.sameMs (L.Sq.mk (L.onN (L.Sq.mk a.n fun (i : Nat) ↦ a.g i) e) fun (i : Nat) ↦
 L.onG (L.Sq.mk a.n fun (i : Nat) ↦ a.g i) e i) (L.Sq.mk (L.onN (L.Sq.mk a.n fun (i : Nat) ↦ a.g i) e) fun (i : Nat) ↦ L.onG (L.Sq.mk a.n fun (i : Nat) ↦ a.g i) e i) else Bool.false then Decidable.decide ((↑(L.cnt (L.inS (L.Sq.mk a.n fun (i : Nat) ↦ a.g i) e s) (L.onN (L.Sq.mk a.n fun (i : Nat) ↦ a.g i) e)) : Int) = (↑(L.cnt (L.inS (L.Sq.mk a.n fun (i : Nat) ↦ a.g i) e s) (L.onN (L.Sq.mk a.n fun (i
 : Nat) ↦ a.g i) e)) : Int)) else Bool.false then Decidable.decide ((bif L.onBad (L.Sq.mk a.n fun (i : Nat) ↦ a.g i) e then (1 : Int) else (0 : Int)) = bif L.onBad (L.Sq.mk a.n fun (i : Nat) ↦ a.g i) e then (1 : Int) else (0 : Int)) else Bool.false then Decidable.decide (t.2 = t_1.2) else Bool.false) = Bool.true → (∀ (i : Nat), i < t.1.n → [Go.SE.SV.int Go.IntKind.i64 (t.1.g i)] = [Go.SE.SV.int
 Go.IntKind.i64 (t.1.g i)]) ∧ (∀ (i : Nat), i < t_1.1.n → [Go.SE.SV.int Go.IntKind.i64 (t_1.1.g i)] = [Go.SE.SV.int Go.IntKind.i64 (t_1.1.g i)]) ∧ t.1.n ≤ (1000000 : Nat)) ∧ (bif bif bif bif bif bif Bool.true then Decidable.decide ((bif L.onBad (L.Sq.mk a.n fun (i : Nat) ↦ a.g i) e then (1 : Int) else (0 : Int)) = bif L.onBad (L.Sq.mk a.n fun (i : Nat) ↦ a.g i) e then (1 : Int) else (0 : Int)) else
 Bool.false then L.sameMs (L.Sq.mk (L.onN (L.Sq.mk a.n fun (i : Nat) ↦ a.g i) e) fun (i : Nat) ↦ L.onG (L.Sq.mk a.n fun (i : Nat) ↦ a.g i) e i) (L.Sq.mk (L.onN (L.Sq.mk a.n fun (i : Nat) ↦ a.g i) e) fun (i : Nat) ↦ L.onG (L.Sq.mk a.n fun (i : Nat) ↦ a.g i) e i) else Bool.false then Decidable.decide ((↑(L.cnt (L.inS (L.Sq.mk a.n fun (i : Nat) ↦ a.g i) e s) (L.onN (L.Sq.mk a.n fun (i : Nat) ↦ a.g i)
 e)) : Int) = (↑(L.cnt (L.inS (L.Sq.mk a.n fun (i : Nat) ↦ a.g i) e s) (L.onN (L.Sq.mk a.n fun (i : Nat) ↦ a.g i) e)) : Int)) else Bool.false then Decidable.decide ((bif L.onBad (L.Sq.mk a.n fun (i : Nat) ↦ a.g i) e then (1 : Int) else (0 : Int)) = bif L.onBad (L.Sq.mk a.n fun (i : Nat) ↦ a.g i) e then (1 : Int) else (0 : Int)) else Bool.false then Decidable.decide (t.2 = t_1.2) else Bool.false
 then L.sameI (L.Sq.mk t.1.n fun (i : Nat) ↦ t.1.g i) (L.Sq.mk t_1.1.n fun (i : Nat) ↦ t_1.1.g i) else Bool.false) = Bool.true)) (by kernel_rfl) (by
    refine ⟨trivial, fun _ => rfl, fun h => ?_⟩
    have hs : a.n ≤ 100 ∧ b.n ≤ 100 := by
      simp only [bor, Bool.or_eq_false_iff, decide_eq_false_iff_not] at h; omega
    have ho : L.onN a e ≤ 1000000 := by
      unfold L.onN
      cases L.onBad a e
      · exact Nat.le_trans cnt_le (by omega)
      · exact Nat.zero_le _
    refine ⟨⟨fun _ _ => rfl, by omega⟩, ⟨fun _ _ => rfl, by omega⟩, ⟨fun _ _ => rfl, by omega⟩, ⟨fun _ _ => rfl, by omega⟩, ⟨fun _ _ => rfl, fun _ _ => rfl, by omega, by omega⟩, ?_⟩
    rintro ⟨r, x⟩ hQ
    have hQ : L.runQ a b sl r x := hQ
    refine ⟨⟨fun _ _ => rfl, fun _ _ => rfl, by omega, by omega⟩, ?_⟩
    rintro ⟨r1, x1⟩ hQ1
    have hQ1 : L.runQ a b sl r1 x1 := hQ1
    obtain ⟨s1, s2⟩ := run_same hQ hQ1
    subst s1
    have hrn : r.n ≤ 1000000 := by
      rcases hQ with ⟨_, h, _⟩ | ⟨_, _, h, _⟩ | ⟨_, _, ⟨_, h, _⟩ | ⟨_, h, _⟩⟩ <;> omega
    refine ⟨fun _ => ⟨fun _ _ => rfl, fun _ _ => rfl, ho⟩, fun _ => ⟨fun _ _ => rfl, fun _ _ => rfl, hrn⟩, ?_⟩
    have s2 : L.sameI (L.Sq.mk r.n fun (i : Nat) => r.g i) (L.Sq.mk r1.n fun (i : Nat) => r1.g i) = true := s2
    dsimp only
    rw [sameMs_refl, s2]
    simp only [decide_true, cond_true])
theorem w_GlassMarks_ok : SpecOk Try.prog 6 w_GlassMarks_S := fnX Try.func6 (c := bodyOf Try.f6) (by kernel_rfl) mixed (fun args p r hs hp => by
  unfold w_GlassMarks_s at hs
  split at hs
  · cases hs; exact ⟨_, _, w_GlassMarks_vc _ _ _ _ _ hp.2.2, (.p (.sl hp.1) (.p (.sl hp.2.1) (.same _ (.same _ (.same _ .nil))))), ⟨show SpecsL Try.prog _ from (SpecsL.cons w_awake_ok w_awake_en (SpecsL.cons g_On_ok g_On_en (SpecsL.cons r3_On_ok r3_On_en (SpecsL.cons g_Count_ok g_Count_en (SpecsL.cons r3_Count_ok r3_Count_en (SpecsL.cons g_RunOn_ok g_RunOn_en (SpecsL.cons r3_RunOn_ok r3_RunOn_en (SpecsL.cons r3_SameMarks_ok r3_SameMarks_en (SpecsL.cons r1_SameInts_ok r1_SameInts_en SpecsL.nil))))))))), rfl, ⟨show ItersL Try.prog _ from ItersL.nil, (TrsOk.none (fun _ => rfl))⟩⟩⟩
  · cases hs)
theorem w_GlassMarks_en : Enters Try.prog 6 := fun args w => by kernel_rfl
theorem w_GlassMarks_B : ∀ args p r, w_GlassMarks_s args = some (p, r) → ∃ b, r = .bool b := by
  intro args p r h
  unfold w_GlassMarks_s at h
  split at h
  · cases h; exact ⟨_, rfl⟩
  · cases h
end Go.Proofs.Ytipaekbdalahdaa
