/- A symbolic walk over the model, and what it shows of functions of the program: parts of the proof that the text of the row joins. -/
import Derived.Test.YtooapgllahonaaaGreatW1
import Derived.Test.YtooapgllahonaaaGreatE4
import Derived.KernelRfl

namespace Go.Proofs.YtooapgllahonaaaGreat
open Go.SE Go.RowKit
set_option maxRecDepth 100000
set_option maxHeartbeats 4000000
set_option linter.unusedVariables false
attribute [local irreducible] vc

def L.near (a b : L.Sq L.Mark) (sl : Int) (i k : Nat) : Bool := bif decide ((a.g i).tone = (b.g k).tone) then L.within ((a.g i).place + (b.g k).place - 16) (0 - sl) sl else false
def L.okMarks (a b : L.Sq L.Mark) (sl : Int) : Prop := a.n = b.n ∧ b.n ≤ 1000 ∧ (∀ i, i < a.n → 0 ≤ (a.g i).place ∧ (a.g i).place ≤ 16) ∧ (∀ i, i < b.n → 0 ≤ (b.g i).place ∧ (b.g i).place ≤ 16) ∧ 0 ≤ sl ∧ sl ≤ 16
def L.unseen : Nat → (Nat → Bool) → Nat
  | 0, _ => 0
  | n + 1, s => L.unseen n s + (bif s n then 0 else 1)
def L.isF (ow : Nat → Int) (c k : Nat) : Prop := 0 ≤ ow k ∧ ow k < (c : Int)
def L.placeP (a b : L.Sq L.Mark) (sl : Int) (i : Nat) (sn : Nat → Bool) (ow : Nat → Int) (f : L.Sq Int) : Prop :=
  L.okMarks a b sl ∧ f.n ≤ i ∧ i < b.n ∧ (∀ k, k < b.n → ow k < (b.n : Int)) ∧ (∀ k k', k < b.n → k' < b.n → sn k = false → sn k' = false → 0 ≤ ow k → ow k = ow k' → k = k') ∧ (∀ k, k < b.n → sn k = false → ow k ≠ (i : Int))
def L.placeQ (a b : L.Sq L.Mark) (sl : Int) (i : Nat) (sn : Nat → Bool) (ow : Nat → Int) (f : L.Sq Int) (r : Bool) (sn' : Nat → Bool) (ow' : Nat → Int) : Prop :=
  (∀ k, sn k = true → sn' k = true) ∧
  (r = false → (∀ k, k < b.n → ow' k = ow k) ∧ (∀ k, k < b.n → L.near a b sl i k = true → sn' k = true ∨ L.isF ow f.n k) ∧
    ∀ q, q < b.n → sn' q = true → sn q = false → (f.n : Int) ≤ ow q ∧ ∀ k, k < b.n → L.near a b sl (ow q).toNat k = true → sn' k = true ∨ L.isF ow f.n k) ∧
  (r = true → (∀ k, k < b.n → sn k = true → ow' k = ow k) ∧ (∀ k, k < b.n → L.isF ow f.n k → ow' k = ow k) ∧ (∀ k, k < b.n → ow' k < (b.n : Int)) ∧
    (∀ k k', k < b.n → k' < b.n → sn k = false → sn k' = false → 0 ≤ ow' k → ow' k = ow' k' → k = k') ∧
    (∀ j : Int, 0 ≤ j → ((∃ k, k < b.n ∧ sn k = false ∧ ow' k = j) ↔ ((∃ k, k < b.n ∧ sn k = false ∧ ow k = j) ∨ j = (i : Int)))) ∧
    (∀ k, k < b.n → 0 ≤ ow' k → ow' k ≠ ow k → (f.n : Int) ≤ ow' k ∧ L.near a b sl (ow' k).toNat k = true))
def L.set (s : Nat → Bool) (k : Nat) : Nat → Bool := fun j => bif decide (j = k) then true else s j
def L.own (s : Nat → Int) (k : Nat) (v : Int) : Nat → Int := fun j => bif decide (j = k) then v else s j
def L.placeI (a b : L.Sq L.Mark) (sl : Int) (i : Nat) (sn : Nat → Bool) (ow : Nat → Int) (f : L.Sq Int) (k : Nat) (s : Nat → Bool) : Prop :=
  k ≤ b.n ∧ (∀ q, sn q = true → s q = true) ∧ (∀ q, q < k → L.near a b sl i q = true → s q = true ∨ L.isF ow f.n q) ∧
  (∀ q, q < b.n → s q = true → sn q = false → (f.n : Int) ≤ ow q ∧ ∀ k', k' < b.n → L.near a b sl (ow q).toNat k' = true → s k' = true ∨ L.isF ow f.n k')
theorem set_self (s : Nat → Bool) (k : Nat) : L.set s k k = true := by simp [L.set]
theorem set_ne {s : Nat → Bool} {k j : Nat} (h : j ≠ k) : L.set s k j = s j := by simp [L.set, h]
theorem set_of {s : Nat → Bool} {k j : Nat} (h : s j = true) : L.set s k j = true := by
  by_cases e : j = k
  · subst e; exact set_self s j
  · rw [set_ne e]; exact h
theorem set_false {s : Nat → Bool} {k j : Nat} (h : L.set s k j = false) : j ≠ k ∧ s j = false := by
  have e : j ≠ k := fun e => by subst e; rw [set_self] at h; cases h
  rw [set_ne e] at h; exact ⟨e, h⟩
theorem own_self (s : Nat → Int) (k : Nat) (v : Int) : L.own s k v k = v := by simp [L.own]
theorem own_ne {s : Nat → Int} {k j : Nat} {v : Int} (h : j ≠ k) : L.own s k v j = s j := by simp [L.own, h]
theorem unseen_le {s s' : Nat → Bool} (h : ∀ q, s q = true → s' q = true) : ∀ n, L.unseen n s' ≤ L.unseen n s
  | 0 => Nat.le_refl _
  | n + 1 => by
    have ih := unseen_le h n
    simp only [L.unseen]
    cases h1 : s n with
    | true => rw [h n h1]; simp; exact ih
    | false => cases s' n <;> simp <;> omega
theorem unseen_lt {s : Nat → Bool} {k : Nat} (hs : s k = false) : ∀ {n}, k < n → L.unseen n (L.set s k) < L.unseen n s
  | n + 1, h => by
    simp only [L.unseen]
    by_cases e : k = n
    · subst e
      rw [set_self, hs]
      have := unseen_le (s := s) (s' := L.set s k) (fun q hq => set_of hq) k
      simp; omega
    · have ih := unseen_lt hs (n := n) (by omega)
      rw [set_ne (j := n) (fun h => e h.symm)]
      omega
section
variable {a b : L.Sq L.Mark} {sl : Int} {i : Nat} {sn : Nat → Bool} {ow : Nat → Int} {f : L.Sq Int} {k : Nat} {s : Nat → Bool}
theorem place_0 : L.placeI a b sl i sn ow f 0 sn := ⟨Nat.zero_le _, fun _ h => h, fun q hq => absurd hq (Nat.not_lt_zero _), fun q _ h1 h2 => by rw [h2] at h1; cases h1⟩
theorem place_skip (h : L.placeI a b sl i sn ow f k s) (hk : k < b.n) (hn : L.near a b sl i k = true → s k = true ∨ L.isF ow f.n k) : L.placeI a b sl i sn ow f (k + 1) s :=
  ⟨hk, h.2.1, fun q hq hnq => by
    rcases Nat.lt_succ_iff_lt_or_eq.1 hq with h' | rfl
    · exact h.2.2.1 q h' hnq
    · exact hn hnq, h.2.2.2⟩
theorem place_end (h : L.placeI a b sl i sn ow f b.n s) : L.placeQ a b sl i sn ow f false s ow :=
  ⟨h.2.1, fun _ => ⟨fun _ _ => rfl, fun q hq hn => h.2.2.1 q hq hn, fun q hq h1 h2 => h.2.2.2 q hq h1 h2⟩, fun h => (by cases h)⟩
theorem place_sn (h : L.placeI a b sl i sn ow f k s) {q : Nat} (hq : s q = false) : sn q = false := by
  cases hs : sn q with
  | false => rfl
  | true => rw [h.2.1 q hs] at hq; cases hq
theorem place_pre (hp : L.placeP a b sl i sn ow f) (h : L.placeI a b sl i sn ow f k s) (hk : k < b.n) (hs : s k = false) (hF : ¬ L.isF ow f.n k) (h0 : 0 ≤ ow k) :
    L.placeP a b sl (ow k).toNat (L.set s k) ow f ∧ L.unseen b.n (L.set s k) < L.unseen b.n sn := by
  obtain ⟨p1, p2, p3, p4, p5, p6⟩ := hp
  have hkb := p4 k hk
  have hfk : (f.n : Int) ≤ ow k := by
    rcases Int.lt_or_le (ow k) (f.n : Int) with h' | h'
    · exact absurd ⟨h0, h'⟩ hF
    · exact h'
  have hsnk := place_sn h hs
  refine ⟨⟨p1, by omega, by omega, p4, fun q q' hq hq' h1 h2 => p5 q q' hq hq' (place_sn h (set_false h1).2) (place_sn h (set_false h2).2), fun q hq h1 e => ?_⟩, Nat.lt_of_lt_of_le (unseen_lt hs hk) (unseen_le h.2.1 _)⟩
  obtain ⟨n1, n2⟩ := set_false h1
  exact n1 (p5 q k hq hk (place_sn h n2) hsnk (by omega) (by omega))
theorem place_no {s' : Nat → Bool} {ow' : Nat → Int} (h : L.placeI a b sl i sn ow f k s) (hk : k < b.n) (hs : s k = false) (hF : ¬ L.isF ow f.n k) (h0 : 0 ≤ ow k) (hr : L.placeQ a b sl (ow k).toNat (L.set s k) ow f false s' ow') :
    L.placeI a b sl i sn ow f (k + 1) s' ∧ ∀ q, q < b.n → ow' q = ow q := by
  obtain ⟨r1, r2, _⟩ := hr
  obtain ⟨r2, r3, r4⟩ := r2 rfl
  have up : ∀ q, s q = true → s' q = true := fun q hq => r1 q (set_of hq)
  have hfk : (f.n : Int) ≤ ow k := by
    rcases Int.lt_or_le (ow k) (f.n : Int) with h' | h'
    · exact absurd ⟨h0, h'⟩ hF
    · exact h'
  refine ⟨⟨hk, fun q hq => up q (h.2.1 q hq), fun q hq hn => ?_, fun q hq h1 h2 => ?_⟩, r2⟩
  · rcases Nat.lt_succ_iff_lt_or_eq.1 hq with h' | rfl
    · exact (h.2.2.1 q h' hn).imp (up q) id
    · exact .inl (r1 q (set_self s q))
  · cases hset : L.set s k q with
    | false => exact r4 q hq h1 hset
    | true =>
      by_cases e : q = k
      · subst e; exact ⟨hfk, r3⟩
      · rw [set_ne e] at hset
        obtain ⟨q1, q2⟩ := h.2.2.2 q hq hset h2
        exact ⟨q1, fun k' hk' hn => (q2 k' hk' hn).imp (up k') id⟩
theorem place_free (hp : L.placeP a b sl i sn ow f) (h : L.placeI a b sl i sn ow f k s) (hk : k < b.n) (hs : s k = false) (h0 : ow k < 0) (hn : L.near a b sl i k = true) :
    L.placeQ a b sl i sn ow f true (L.set s k) (L.own ow k (i : Int)) := by
  obtain ⟨p1, p2, p3, p4, p5, p6⟩ := hp
  have hsnk := place_sn h hs
  refine ⟨fun q hq => set_of (h.2.1 q hq), fun h => (by cases h), fun _ => ⟨fun q hq h1 => ?_, fun q hq h1 => ?_, fun q hq => ?_, fun q q' hq hq' h1 h2 h3 h4 => ?_, fun j hj => ⟨?_, ?_⟩, fun q hq h1 h2 => ?_⟩⟩
  · exact own_ne (fun e => by subst e; rw [hsnk] at h1; cases h1)
  · exact own_ne (fun e => by subst e; have := h1.1; omega)
  · by_cases e : q = k
    · subst e; rw [own_self]; omega
    · rw [own_ne e]; exact p4 q hq
  · by_cases e : q = k <;> by_cases e' : q' = k
    · omega
    · subst e; rw [own_self, own_ne e'] at h4; exact absurd h4.symm (p6 q' hq' h2)
    · subst e'; rw [own_self, own_ne e] at h4; exact absurd h4 (p6 q hq h1)
    · rw [own_ne e] at h3; rw [own_ne e, own_ne e'] at h4; exact p5 q q' hq hq' h1 h2 h3 h4
  · rintro ⟨q, hq, h1, h2⟩
    by_cases e : q = k
    · subst e; rw [own_self] at h2; exact .inr h2.symm
    · rw [own_ne e] at h2; exact .inl ⟨q, hq, h1, h2⟩
  · rintro (⟨q, hq, h1, h2⟩ | rfl)
    · have e : q ≠ k := fun e => by subst e; omega
      exact ⟨q, hq, h1, by rw [own_ne e]; exact h2⟩
    · exact ⟨k, hk, hsnk, own_self _ _ _⟩
  · by_cases e : q = k
    · subst e; rw [own_self]; exact ⟨by omega, by rw [Int.toNat_natCast]; exact hn⟩
    · rw [own_ne e] at h2; exact absurd rfl h2
theorem place_rec {s' : Nat → Bool} {ow' : Nat → Int} (hp : L.placeP a b sl i sn ow f) (h : L.placeI a b sl i sn ow f k s) (hk : k < b.n) (hs : s k = false) (hF : ¬ L.isF ow f.n k) (h0 : 0 ≤ ow k) (hn : L.near a b sl i k = true)
    (hr : L.placeQ a b sl (ow k).toNat (L.set s k) ow f true s' ow') : L.placeQ a b sl i sn ow f true s' (L.own ow' k (i : Int)) := by
  obtain ⟨p1, p2, p3, p4, p5, p6⟩ := hp
  obtain ⟨r1, _, r2⟩ := hr
  obtain ⟨ra, rb, rc, rd, re, rf⟩ := r2 rfl
  have hsnk := place_sn h hs
  have ej : (((ow k).toNat : Nat) : Int) = ow k := by omega
  rw [ej] at re
  have oks : ∀ q, q < b.n → L.set s k q = true → ow' q = ow q := ra
  have hki : ow k ≠ (i : Int) := p6 k hk hsnk
  -- an owner among those that were not seen
  have new : ∀ q, q < b.n → L.set s k q = false → 0 ≤ ow' q → (∃ q', q' < b.n ∧ L.set s k q' = false ∧ ow q' = ow' q) ∨ ow' q = ow k := fun q hq h1 h2 => (re (ow' q) h2).1 ⟨q, hq, h1, rfl⟩
  have noti : ∀ q, q < b.n → q ≠ k → sn q = false → ow' q ≠ (i : Int) := fun q hq hqk h1 e => by
    cases hset : L.set s k q with
    | true => rw [oks q hq hset] at e; exact p6 q hq h1 e
    | false =>
      rcases new q hq hset (by omega) with ⟨q', hq', h3, h4⟩ | h4
      · exact p6 q' hq' (place_sn h (set_false h3).2) (by omega)
      · omega
  refine ⟨fun q hq => r1 q (set_of (h.2.1 q hq)), fun h => (by cases h), fun _ => ⟨fun q hq h1 => ?_, fun q hq h1 => ?_, fun q hq => ?_, fun q q' hq hq' h1 h2 h3 h4 => ?_, fun j hj => ⟨?_, ?_⟩, fun q hq h1 h2 => ?_⟩⟩
  · have e : q ≠ k := fun e => by subst e; rw [hsnk] at h1; cases h1
    rw [own_ne e]; exact oks q hq (set_of (h.2.1 q h1))
  · have e : q ≠ k := fun e => by subst e; exact hF h1
    rw [own_ne e]; exact rb q hq h1
  · by_cases e : q = k
    · subst e; rw [own_self]; omega
    · rw [own_ne e]; exact rc q hq
  · by_cases e : q = k <;> by_cases e' : q' = k
    · omega
    · subst e; rw [own_self, own_ne e'] at h4; exact absurd h4.symm (noti q' hq' e' h2)
    · subst e'; rw [own_self, own_ne e] at h4; exact absurd h4 (noti q hq e h1)
    · rw [own_ne e] at h3; rw [own_ne e, own_ne e'] at h4
      cases hset : L.set s k q with
      | true =>
        have o1 := oks q hq hset
        cases hset' : L.set s k q' with
        | true => have o2 := oks q' hq' hset'; exact p5 q q' hq hq' h1 h2 (by omega) (by omega)
        | false =>
          rcases new q' hq' hset' (by omega) with ⟨q2, hq2, h5, h6⟩ | h6
          · have := p5 q q2 hq hq2 h1 (place_sn h (set_false h5).2) (by omega) (by omega)
            subst this; rw [hset] at h5; cases h5
          · exact absurd (p5 q k hq hk h1 hsnk (by omega) (by omega)) e
      | false =>
        cases hset' : L.set s k q' with
        | true =>
          have o2 := oks q' hq' hset'
          rcases new q hq hset (by omega) with ⟨q2, hq2, h5, h6⟩ | h6
          · have := p5 q' q2 hq' hq2 h2 (place_sn h (set_false h5).2) (by omega) (by omega)
            subst this; rw [hset'] at h5; cases h5
          · exact absurd (p5 q' k hq' hk h2 hsnk (by omega) (by omega)) e'
        | false => exact rd q q' hq hq' hset hset' h3 h4
  · rintro ⟨q, hq, h1, h2⟩
    by_cases e : q = k
    · subst e; rw [own_self] at h2; exact .inr h2.symm
    · rw [own_ne e] at h2
      cases hset : L.set s k q with
      | true => rw [oks q hq hset] at h2; exact .inl ⟨q, hq, h1, h2⟩
      | false =>
        rcases new q hq hset (by omega) with ⟨q', hq', h3, h4⟩ | h4
        · exact .inl ⟨q', hq', place_sn h (set_false h3).2, by omega⟩
        · exact .inl ⟨k, hk, hsnk, by omega⟩
  · rintro (⟨q, hq, h1, h2⟩ | rfl)
    · by_cases e : q = k
      · subst e
        obtain ⟨q', hq', h3, h4⟩ := (re j hj).2 (.inr h2.symm)
        obtain ⟨n1, n2⟩ := set_false h3
        exact ⟨q', hq', place_sn h n2, by rw [own_ne n1]; exact h4⟩
      · cases hset : L.set s k q with
        | true => exact ⟨q, hq, h1, by rw [own_ne e, oks q hq hset]; exact h2⟩
        | false =>
          obtain ⟨q', hq', h3, h4⟩ := (re j hj).2 (.inl ⟨q, hq, hset, h2⟩)
          obtain ⟨n1, n2⟩ := set_false h3
          exact ⟨q', hq', place_sn h n2, by rw [own_ne n1]; exact h4⟩
    · exact ⟨k, hk, hsnk, own_self _ _ _⟩
  · by_cases e : q = k
    · subst e; rw [own_self]; exact ⟨by omega, by rw [Int.toNat_natCast]; exact hn⟩
    · rw [own_ne e] at h1 h2 ⊢; exact rf q hq h1 h2
end
def g_near_p (i : Int) (k : Int) (a : (L.Sq L.Mark)) (b : (L.Sq L.Mark)) (sl : Int) : Prop := L.okMarks a b sl ∧ 0 ≤ i ∧ i < (a.n : Int) ∧ 0 ≤ k ∧ k < (b.n : Int)
def g_near_r (i : Int) (k : Int) (a : (L.Sq L.Mark)) (b : (L.Sq L.Mark)) (sl : Int) : SV := .bool (L.near a b sl i.toNat k.toNat)
def g_near_s : List EV → Option (Prop × SV)
  | [.p (.int .i64 i), .p (.int .i64 k), .p (.ref [.sl 3 a_n a_g] 0), .p (.ref [.sl 3 b_n b_g] 0), .p (.ref [.int .i64 sl] 0)] => some ((∀ i, i < a_n → a_g i = [.int .i64 ((ofMark (a_g i)).edge), .int .i64 ((ofMark (a_g i)).place), .int .i64 ((ofMark (a_g i)).tone)]) ∧ (∀ i, i < b_n → b_g i = [.int .i64 ((ofMark (b_g i)).edge), .int .i64 ((ofMark (b_g i)).place), .int .i64 ((ofMark (b_g i)).tone)]) ∧ g_near_p i k (⟨a_n, fun i => ofMark (a_g i)⟩ : (L.Sq L.Mark)) (⟨b_n, fun i => ofMark (b_g i)⟩ : (L.Sq L.Mark)) sl, g_near_r i k (⟨a_n, fun i => ofMark (a_g i)⟩ : (L.Sq L.Mark)) (⟨b_n, fun i => ofMark (b_g i)⟩ : (L.Sq L.Mark)) sl)
  | _ => none
abbrev g_near_S : SE.Spec := (specO g_near_s)
def g_near_C : Cfg := { muts := [], frz := lookN [], specs := lookS [(105, g_within_S)], loops := lookL [], iters := lookI [], rfs := lookR [], nils := lookM [] }
theorem g_near_vc (i : Int) (k : Int) (a : (L.Sq L.Mark)) (b : (L.Sq L.Mark)) (sl : Int) (hp : g_near_p i k a b sl) : vc Tryz.prog (g_near_C) (bodyOf Tryz.f120) (st0 Tryz.f120 [.p (.int .i64 i), .p (.int .i64 k), .p (.ref [.sl 3 a.n (fun i => [.int .i64 ((a.g i).edge), .int .i64 ((a.g i).place), .int .i64 ((a.g i).tone)])] 0), .p (.ref [.sl 3 b.n (fun i => [.int .i64 ((b.g i).edge), .int .i64 ((b.g i).place), .int .i64 ((b.g i).tone)])] 0), .p (.ref [.int .i64 sl] 0)]) (retFn Tryz.prog Tryz.f120 (g_near_r i k a b sl)) :=
  @Eq.mpr _ (((0 : Int) ≤ i ∧ i < (↑a.n : Int)) ∧ ((0 : Int) ≤ k ∧ k < (↑b.n : Int)) ∧ (decide ((a.g (Int.toNat i)).tone = (b.g (Int.toNat k)).tone) = true → (0 : Int) ≤ i ∧ i < (↑a.n : Int)) ∧ (decide ((a.g (Int.toNat i)).tone = (b.g (Int.toNat k)).tone) = true → (0 : Int) ≤ k ∧ k < (↑b.n : Int)) ∧ (decide ((a.g (Int.toNat i)).tone = (b.g (Int.toNat k)).tone) =
 true → InK .i64 ((a.g (Int.toNat i)).place + (b.g (Int.toNat k)).place)) ∧ (decide ((a.g (Int.toNat i)).tone = (b.g (Int.toNat k)).tone) = true → InK .i64 ((a.g (Int.toNat i)).place + (b.g (Int.toNat k)).place - (16 : Int))) ∧ (decide ((a.g (Int.toNat i)).tone = (b.g (Int.toNat k)).tone) = true → InK .i64 ((0 : Int)
 - sl)) ∧ (decide ((a.g (Int.toNat i)).tone = (b.g (Int.toNat k)).tone) = true → True) ∧ (bif decide ((a.g (Int.toNat i)).tone = (b.g (Int.toNat k)).tone) then L.within ((a.g (Int.toNat i)).place + (b.g (Int.toNat k)).place - (16 : Int)) ((0 : Int) - sl) sl else false) = L.near a b sl (Int.toNat i) (Int.toNat k)) (by kernel_rfl) (by
    obtain ⟨⟨hab, hn, ha, hb, s0, s1⟩, i0, i1, k0, k1⟩ := hp
    have h1 := ha i.toNat (by omega)
    have h2 := hb k.toNat (by omega)
    exact ⟨⟨i0, i1⟩, ⟨k0, k1⟩, fun _ => ⟨i0, i1⟩, fun _ => ⟨k0, k1⟩, fun _ => InK.of (by omega) (by omega), fun _ => InK.of (by omega) (by omega), fun _ => InK.of (by omega) (by omega), fun _ => trivial, rfl⟩)
theorem g_near_ok : SpecOk Tryz.prog 120 g_near_S := fnX Tryz.func120 (c := bodyOf Tryz.f120) (by kernel_rfl) mixed (fun args p r hs hp => by
  unfold g_near_s at hs
  split at hs
  · cases hs; exact ⟨_, _, g_near_vc _ _ _ _ _ hp.2.2, (.same _ (.same _ (.p (Ext.ref rfl (fun i hi => by
      rcases i with _ | i
      · show Ext (SV.sl _ _ _) (SV.sl _ _ _); exact (Ext.sl hp.1)
      exact absurd hi (by simp; try omega))) (.p (Ext.ref rfl (fun i hi => by
      rcases i with _ | i
      · show Ext (SV.sl _ _ _) (SV.sl _ _ _); exact (Ext.sl hp.2.1)
      exact absurd hi (by simp; try omega))) (.same _ .nil))))), ⟨show SpecsL Tryz.prog _ from (SpecsL.cons g_within_ok g_within_en SpecsL.nil), rfl, ⟨show ItersL Tryz.prog _ from ItersL.nil, (TrsOk.none (fun _ => rfl))⟩⟩⟩
  · cases hs)
theorem g_near_en : Enters Tryz.prog 120 := fun args w => by kernel_rfl
abbrev g_place_tr : Tr := { T := (L.Sq L.Mark) × (L.Sq L.Mark) × (Int) × (Nat) × (Nat → Bool) × (Nat → Int) × (L.Sq Int), U := Bool × (Nat → Bool) × (Nat → Int), args := fun t => (fun a b sl i sn ow f => [.p (.int .i64 (i : Int)), .p (.ref [(.sl 3 b.n (fun i => [.int .i64 ((b.g i).edge), .int .i64 ((b.g i).place), .int .i64 ((b.g i).tone)]))] 0), .p (.ref [.clo 120 [.ref [(.sl 3 a.n (fun i => [.int .i64 ((a.g i).edge), .int .i64 ((a.g i).place), .int .i64 ((a.g i).tone)]))] 0, .ref [(.sl 3 b.n (fun i => [.int .i64 ((b.g i).edge), .int .i64 ((b.g i).place), .int .i64 ((b.g i).tone)]))] 0, .ref [.int .i64 sl] 0]] 0), .loc 1009 0, .loc 1005 0, .loc 2009 0, .loc 1010 0]) t.1 t.2.1 t.2.2.1 t.2.2.2.1 t.2.2.2.2.1 t.2.2.2.2.2.1 t.2.2.2.2.2.2, own := fun t => (fun a b sl i sn ow f => [(1009, .blk 150 [.row 1047]), (1047, .row 4 1 b.n (fun k => [.bool (sn k)])), (1005, .blk 57 [.row 1014]), (1014, .row 3 1 b.n (fun k => [.int .i64 (ow k)])), (2009, .blk 57 [.row 2020]), (2020, .row 3 1 f.n (fun k => [.int .i64 (f.g k)])), (1010, .blk 151 [.cl 122 [.p (.ref [(.sl 3 b.n (fun i => [.int .i64 ((b.g i).edge), .int .i64 ((b.g i).place), .int .i64 ((b.g i).tone)]))] 0), .p (.ref [.clo 120 [.ref [(.sl 3 a.n (fun i => [.int .i64 ((a.g i).edge), .int .i64 ((a.g i).place), .int .i64 ((a.g i).tone)]))] 0, .ref [(.sl 3 b.n (fun i => [.int .i64 ((b.g i).edge), .int .i64 ((b.g i).place), .int .i64 ((b.g i).tone)]))] 0, .ref [.int .i64 sl] 0]] 0), .loc 1009 0, .loc 1005 0, .loc 2009 0, .loc 1010 0]])]) t.1 t.2.1 t.2.2.1 t.2.2.2.1 t.2.2.2.2.1 t.2.2.2.2.2.1 t.2.2.2.2.2.2, pre := fun t => (fun a b sl i sn ow f => L.placeP a b sl i sn ow f) t.1 t.2.1 t.2.2.1 t.2.2.2.1 t.2.2.2.2.1 t.2.2.2.2.2.1 t.2.2.2.2.2.2, post := fun t u => (fun a b sl i sn ow f => fun r sn1 ow1 => L.placeQ a b sl i sn ow f r sn1 ow1) t.1 t.2.1 t.2.2.1 t.2.2.2.1 t.2.2.2.2.1 t.2.2.2.2.2.1 t.2.2.2.2.2.2 u.1 u.2.1 u.2.2, own' := fun t u => (fun a b sl i sn ow f => fun r sn1 ow1 => [(1009, .blk 150 [.row 1047]), (1047, .row 4 1 b.n (fun k => [.bool (sn1 k)])), (1005, .blk 57 [.row 1014]), (1014, .row 3 1 b.n (fun k => [.int .i64 (ow1 k)])), (2009, .blk 57 [.row 2020]), (2020, .row 3 1 f.n (fun k => [.int .i64 (f.g k)])), (1010, .blk 151 [.cl 122 [.p (.ref [(.sl 3 b.n (fun i => [.int .i64 ((b.g i).edge), .int .i64 ((b.g i).place), .int .i64 ((b.g i).tone)]))] 0), .p (.ref [.clo 120 [.ref [(.sl 3 a.n (fun i => [.int .i64 ((a.g i).edge), .int .i64 ((a.g i).place), .int .i64 ((a.g i).tone)]))] 0, .ref [(.sl 3 b.n (fun i => [.int .i64 ((b.g i).edge), .int .i64 ((b.g i).place), .int .i64 ((b.g i).tone)]))] 0, .ref [.int .i64 sl] 0]] 0), .loc 1009 0, .loc 1005 0, .loc 2009 0, .loc 1010 0]])]) t.1 t.2.1 t.2.2.1 t.2.2.2.1 t.2.2.2.2.1 t.2.2.2.2.2.1 t.2.2.2.2.2.2 u.1 u.2.1 u.2.2, res := fun t u => (fun a b sl i sn ow f => fun r sn1 ow1 => .p (.bool r)) t.1 t.2.1 t.2.2.1 t.2.2.2.1 t.2.2.2.2.1 t.2.2.2.2.2.1 t.2.2.2.2.2.2 u.1 u.2.1 u.2.2 }
abbrev g_place_mu : g_place_tr.T → Nat := fun t => (fun a b sl i sn ow f => L.unseen b.n sn) t.1 t.2.1 t.2.2.1 t.2.2.2.1 t.2.2.2.2.1 t.2.2.2.2.2.1 t.2.2.2.2.2.2
theorem g_place_vc (rn : Nat) (a : L.Sq L.Mark) (b : L.Sq L.Mark) (sl : Int) (i : Nat) (sn : Nat → Bool) (ow : Nat → Int) (f : L.Sq Int) (hp : g_place_tr.pre (a, b, sl, i, sn, ow, f)) (hmu : L.unseen b.n sn < rn + 1) : vc Tryz.prog ({ muts := [], frz := lookN [], specs := lookS [(120, g_near_S)], loops := lookL [(2, { T := Nat × (Nat → Bool), keep := [0, 1, 2, 3, 4, 5, 6, 10, 11], keepO := [1009, 1005, 1014, 2009, 2020, 1010], chg := fun g => [(12, .p (.int .i64 (g.1 : Int)))], own := fun g => [(1047, .row 4 1 b.n (fun k => [.bool (g.2 k)]))], inv := fun g => L.placeI a b sl i sn ow f g.1 g.2, mu := fun g => b.n - g.1 })], iters := lookI [], rfs := lookR [], nils := lookM [], trs := lookT [(122, Tr.lt g_place_tr g_place_mu rn)], ren := fun k => k }) (bodyOf Tryz.f122) (stTr Tryz.f122 (g_place_tr.args (a, b, sl, i, sn, ow, f)) (g_place_tr.own (a, b, sl, i, sn, ow, f))) (retTr Tryz.prog Tryz.f122 g_place_tr (a, b, sl, i, sn, ow, f)) :=
  @Eq.mpr _ ((∃ (g : Nat × (Nat → Bool)), (0 : Int) = (↑g.1 : Int) ∧ (b.n = b.n ∧ ∀ (i : Nat), i < b.n → [SV.bool (sn i)] = [SV.bool (g.2 i)]) ∧ L.placeI a b sl i sn ow f g.1 g.2) ∧ ∀ (g : Nat × (Nat → Bool)), L.placeI a b sl i sn ow f g.1 g.2 → (decide ((↑g.1 : Int) < (↑b.n : Int)) = true → ((∀ (i : Nat), i < a.n → [SV.int .i64 (a.g i).edge, SV.int
 .i64 (a.g i).place, SV.int .i64 (a.g i).tone] = [SV.int .i64 (a.g i).edge, SV.int .i64 (a.g i).place, SV.int .i64 (a.g i).tone]) ∧ (∀ (i : Nat), i < b.n → [SV.int .i64 (b.g i).edge, SV.int .i64 (b.g i).place, SV.int .i64 (b.g i).tone] = [SV.int .i64 (b.g
 i).edge, SV.int .i64 (b.g i).place, SV.int .i64 (b.g i).tone]) ∧ L.okMarks (L.Sq.mk a.n fun (i : Nat) ↦ a.g i) (L.Sq.mk b.n fun (i : Nat) ↦ b.g i) sl ∧ (0 : Int) ≤ (↑i : Int) ∧ (↑i : Int) < (↑a.n : Int) ∧ (0 : Int) ≤ (↑g.1 : Int) ∧ (↑g.1 : Int) < (↑b.n : Int)) ∧ ((!!L.near (L.Sq.mk a.n fun (i : Nat) ↦ a.g i) (L.Sq.mk b.n fun (i : Nat) ↦ b.g i) sl (Int.toNat (↑i :
 Int)) (Int.toNat (↑g.1 : Int))) = true → (0 : Int) ≤ (↑g.1 : Int) ∧ (↑g.1 : Int) < (↑b.n : Int)) ∧ ((!!L.near (L.Sq.mk a.n fun (i : Nat) ↦ a.g i) (L.Sq.mk b.n fun (i : Nat) ↦ b.g i) sl (Int.toNat (↑i : Int)) (Int.toNat (↑g.1 : Int))) = true → Int.toNat (↑g.1 : Int) < b.n) ∧ ((!bif !L.near (L.Sq.mk a.n fun (i : Nat) ↦ a.g i) (L.Sq.mk b.n fun (i : Nat) ↦ b.g i) sl (Int.toNat (↑i : Int))
 (Int.toNat (↑g.1 : Int)) then true else g.2 (Int.toNat (↑g.1 : Int))) = true → (0 : Int) ≤ (↑g.1 : Int) ∧ (↑g.1 : Int) < (↑b.n : Int)) ∧ ((!bif !L.near (L.Sq.mk a.n fun (i : Nat) ↦ a.g i) (L.Sq.mk b.n fun (i : Nat) ↦ b.g i) sl (Int.toNat (↑i : Int)) (Int.toNat (↑g.1 : Int)) then true else g.2 (Int.toNat (↑g.1 : Int))) = true → Int.toNat (↑g.1 : Int) < b.n) ∧ (((!bif !L.near
 (L.Sq.mk a.n fun (i : Nat) ↦ a.g i) (L.Sq.mk b.n fun (i : Nat) ↦ b.g i) sl (Int.toNat (↑i : Int)) (Int.toNat (↑g.1 : Int)) then true else g.2 (Int.toNat (↑g.1 : Int))) && decide ((0 : Int) ≤ ow (Int.toNat (↑g.1 : Int)))) = true → (0 : Int) ≤ (↑g.1 : Int) ∧ (↑g.1 : Int) < (↑b.n : Int)) ∧ (((!bif !L.near (L.Sq.mk a.n fun (i : Nat) ↦ a.g i) (L.Sq.mk b.n fun (i : Nat) ↦ b.g i) sl
 (Int.toNat (↑i : Int)) (Int.toNat (↑g.1 : Int)) then true else g.2 (Int.toNat (↑g.1 : Int))) && decide ((0 : Int) ≤ ow (Int.toNat (↑g.1 : Int)))) = true → Int.toNat (↑g.1 : Int) < b.n) ∧ ((bif bif !L.near (L.Sq.mk a.n fun (i : Nat) ↦ a.g i) (L.Sq.mk b.n fun (i : Nat) ↦ b.g i) sl (Int.toNat (↑i : Int)) (Int.toNat (↑g.1 : Int)) then true else g.2 (Int.toNat (↑g.1 : Int))
 then true else bif decide ((0 : Int) ≤ ow (Int.toNat (↑g.1 : Int))) then decide (ow (Int.toNat (↑g.1 : Int)) < (↑f.n : Int)) else false) = true → InK .i64 ((↑g.1 : Int) + (1 : Int)) ∧ ∃ (g' : Nat × (Nat → Bool)), (↑g.1 : Int) + (1 : Int) = (↑g'.1 : Int) ∧ (↑b.n : Int) = (↑b.n : Int) ∧ (b.n = b.n ∧ ∀ (i : Nat), i < b.n → [SV.int
 .i64 (b.g i).edge, SV.int .i64 (b.g i).place, SV.int .i64 (b.g i).tone] = [SV.int .i64 (b.g i).edge, SV.int .i64 (b.g i).place, SV.int .i64 (b.g i).tone]) ∧ (↑i : Int) = (↑i : Int) ∧ SV.ref [SV.sl (nat_lit 3) b.n fun (i : Nat) ↦ [SV.int .i64 (b.g i).edge, SV.int
 .i64 (b.g i).place, SV.int .i64 (b.g i).tone]] (nat_lit 0) = SV.ref [SV.sl (nat_lit 3) b.n fun (i : Nat) ↦ [SV.int .i64 (b.g i).edge, SV.int .i64 (b.g i).place, SV.int .i64 (b.g i).tone]] (nat_lit 0) ∧ SV.ref [SV.clo (nat_lit 120) [SV.ref [SV.sl (nat_lit 3) a.n fun (i : Nat) ↦
 [SV.int .i64 (a.g i).edge, SV.int .i64 (a.g i).place, SV.int .i64 (a.g i).tone]] (nat_lit 0), SV.ref [SV.sl (nat_lit 3) b.n fun (i : Nat) ↦ [SV.int .i64 (b.g i).edge, SV.int .i64 (b.g i).place, SV.int .i64 (b.g i).tone]] (nat_lit 0), SV.ref [SV.int .i64 sl] (nat_lit
 0)]] (nat_lit 0) = SV.ref [SV.clo (nat_lit 120) [SV.ref [SV.sl (nat_lit 3) a.n fun (i : Nat) ↦ [SV.int .i64 (a.g i).edge, SV.int .i64 (a.g i).place, SV.int .i64 (a.g i).tone]] (nat_lit 0), SV.ref [SV.sl (nat_lit 3) b.n fun (i : Nat) ↦ [SV.int .i64 (b.g i).edge, SV.int .i64 (b.g
 i).place, SV.int .i64 (b.g i).tone]] (nat_lit 0), SV.ref [SV.int .i64 sl] (nat_lit 0)]] (nat_lit 0) ∧ nat_lit 0 = nat_lit 0 ∧ nat_lit 0 = nat_lit 0 ∧ nat_lit 0 = nat_lit 0 ∧ nat_lit 0 = nat_lit 0 ∧ (b.n = b.n ∧ ∀ (i : Nat), i < b.n → [SV.bool (g.2 i)] = [SV.bool (g'.2 i)]) ∧ (b.n = b.n ∧ ∀ (i : Nat), i < b.n → [SV.int .i64 (ow i)] =
 [SV.int .i64 (ow i)]) ∧ (f.n = f.n ∧ ∀ (i : Nat), i < f.n → [SV.int .i64 (f.g i)] = [SV.int .i64 (f.g i)]) ∧ EV.cl (nat_lit 122) [EV.p (SV.ref [SV.sl (nat_lit 3) b.n fun (i : Nat) ↦ [SV.int .i64 (b.g i).edge, SV.int .i64 (b.g i).place, SV.int .i64 (b.g i).tone]] (nat_lit 0)),
 EV.p (SV.ref [SV.clo (nat_lit 120) [SV.ref [SV.sl (nat_lit 3) a.n fun (i : Nat) ↦ [SV.int .i64 (a.g i).edge, SV.int .i64 (a.g i).place, SV.int .i64 (a.g i).tone]] (nat_lit 0), SV.ref [SV.sl (nat_lit 3) b.n fun (i : Nat) ↦ [SV.int .i64 (b.g i).edge, SV.int .i64 (b.g i).place,
 SV.int .i64 (b.g i).tone]] (nat_lit 0), SV.ref [SV.int .i64 sl] (nat_lit 0)]] (nat_lit 0)), EV.loc (nat_lit 1009) (nat_lit 0), EV.loc (nat_lit 1005) (nat_lit 0), EV.loc (nat_lit 2009) (nat_lit 0), EV.loc (nat_lit 1010) (nat_lit 0)] = EV.cl (nat_lit 122) [EV.p (SV.ref [SV.sl (nat_lit 3) b.n fun (i : Nat) ↦
 [SV.int .i64 (b.g i).edge, SV.int .i64 (b.g i).place, SV.int .i64 (b.g i).tone]] (nat_lit 0)), EV.p (SV.ref [SV.clo (nat_lit 120) [SV.ref [SV.sl (nat_lit 3) a.n fun (i : Nat) ↦ [SV.int .i64 (a.g i).edge, SV.int .i64 (a.g i).place, SV.int .i64 (a.g i).tone]] (nat_lit 0),
 SV.ref [SV.sl (nat_lit 3) b.n fun (i : Nat) ↦ [SV.int .i64 (b.g i).edge, SV.int .i64 (b.g i).place, SV.int .i64 (b.g i).tone]] (nat_lit 0), SV.ref [SV.int .i64 sl] (nat_lit 0)]] (nat_lit 0)), EV.loc (nat_lit 1009) (nat_lit 0), EV.loc (nat_lit 1005) (nat_lit 0), EV.loc (nat_lit 2009) (nat_lit 0),
 EV.loc (nat_lit 1010) (nat_lit 0)] ∧ L.placeI a b sl i sn ow f g'.1 g'.2 ∧ b.n - g'.1 < b.n - g.1) ∧ ((bif bif !L.near (L.Sq.mk a.n fun (i : Nat) ↦ a.g i) (L.Sq.mk b.n fun (i : Nat) ↦ b.g i) sl (Int.toNat (↑i : Int)) (Int.toNat (↑g.1 : Int)) then true else g.2 (Int.toNat (↑g.1 : Int)) then true else bif decide ((0 : Int) ≤ ow (Int.toNat (↑g.1 : Int))) then
 decide (ow (Int.toNat (↑g.1 : Int)) < (↑f.n : Int)) else false) = false → ((0 : Int) ≤ (↑g.1 : Int) ∧ (↑g.1 : Int) < (↑b.n : Int)) ∧ Int.toNat (↑g.1 : Int) < b.n ∧ ((0 : Int) ≤ (↑g.1 : Int) ∧ (↑g.1 : Int) < (↑b.n : Int)) ∧ Int.toNat (↑g.1 : Int) < b.n ∧ ((!decide (ow (Int.toNat (↑g.1 : Int)) < (0 : Int))) = true → (0 : Int) ≤ (↑g.1 : Int) ∧ (↑g.1 : Int) < (↑b.n :
 Int)) ∧ ((!decide (ow (Int.toNat (↑g.1 : Int)) < (0 : Int))) = true → Int.toNat (↑g.1 : Int) < b.n) ∧ ((!decide (ow (Int.toNat (↑g.1 : Int)) < (0 : Int))) = true → ∃ (t : L.Sq L.Mark × L.Sq L.Mark × Int × Nat × (Nat → Bool) × (Nat → Int) × L.Sq Int), ow (Int.toNat (↑g.1 : Int)) = (↑t.snd.snd.2.1 : Int) ∧ SV.ref [SV.sl (nat_lit 3) b.n fun (i : Nat) ↦
 [SV.int .i64 (b.g i).edge, SV.int .i64 (b.g i).place, SV.int .i64 (b.g i).tone]] (nat_lit 0) = SV.ref [SV.sl (3 : Nat) t.2.1.n fun (i : Nat) ↦ [SV.int .i64 (t.2.1.g i).edge, SV.int .i64 (t.2.1.g i).place, SV.int .i64 (t.2.1.g i).tone]] (0 : Nat) ∧ SV.ref [SV.clo (nat_lit 120)
 [SV.ref [SV.sl (nat_lit 3) a.n fun (i : Nat) ↦ [SV.int .i64 (a.g i).edge, SV.int .i64 (a.g i).place, SV.int .i64 (a.g i).tone]] (nat_lit 0), SV.ref [SV.sl (nat_lit 3) b.n fun (i : Nat) ↦ [SV.int .i64 (b.g i).edge, SV.int .i64 (b.g i).place, SV.int .i64 (b.g i).tone]] (nat_lit 0),
 SV.ref [SV.int .i64 sl] (nat_lit 0)]] (nat_lit 0) = SV.ref [SV.clo (120 : Nat) [SV.ref [SV.sl (3 : Nat) t.1.n fun (i : Nat) ↦ [SV.int .i64 (t.1.g i).edge, SV.int .i64 (t.1.g i).place, SV.int .i64 (t.1.g i).tone]] (0 : Nat), SV.ref [SV.sl (3 : Nat) t.2.1.n fun (i : Nat) ↦ [SV.int
 .i64 (t.2.1.g i).edge, SV.int .i64 (t.2.1.g i).place, SV.int .i64 (t.2.1.g i).tone]] (0 : Nat), SV.ref [SV.int .i64 t.snd.2.1] (0 : Nat)]] (0 : Nat) ∧ nat_lit 0 = (0 : Nat) ∧ nat_lit 0 = (0 : Nat) ∧ nat_lit 0 = (0 : Nat) ∧ nat_lit 0 = (0 : Nat) ∧ (b.n = t.2.1.n ∧ ∀ (i : Nat), i < b.n → setRow (fun (k : Nat) ↦ [SV.bool (g.2
 k)]) (Int.toNat (↑g.1 : Int)) (nat_lit 0) [SV.bool true] i = [SV.bool (t.snd.snd.snd.2.1 i)]) ∧ (b.n = t.2.1.n ∧ ∀ (i : Nat), i < b.n → [SV.int .i64 (ow i)] = [SV.int .i64 (t.snd.snd.snd.snd.2.1 i)]) ∧ (f.n = t.snd.snd.snd.snd.2.2.n ∧ ∀ (i : Nat), i < f.n → [SV.int .i64 (f.g i)] = [SV.int .i64 (t.snd.snd.snd.snd.2.2.g
 i)]) ∧ EV.cl (nat_lit 122) [EV.p (SV.ref [SV.sl (nat_lit 3) b.n fun (i : Nat) ↦ [SV.int .i64 (b.g i).edge, SV.int .i64 (b.g i).place, SV.int .i64 (b.g i).tone]] (nat_lit 0)), EV.p (SV.ref [SV.clo (nat_lit 120) [SV.ref [SV.sl (nat_lit 3) a.n fun (i : Nat) ↦ [SV.int .i64 (a.g
 i).edge, SV.int .i64 (a.g i).place, SV.int .i64 (a.g i).tone]] (nat_lit 0), SV.ref [SV.sl (nat_lit 3) b.n fun (i : Nat) ↦ [SV.int .i64 (b.g i).edge, SV.int .i64 (b.g i).place, SV.int .i64 (b.g i).tone]] (nat_lit 0), SV.ref [SV.int .i64 sl] (nat_lit 0)]] (nat_lit 0)), EV.loc
 (nat_lit 1009) (nat_lit 0), EV.loc (nat_lit 1005) (nat_lit 0), EV.loc (nat_lit 2009) (nat_lit 0), EV.loc (nat_lit 1010) (nat_lit 0)] = EV.cl (122 : Nat) [EV.p (SV.ref [SV.sl (nat_lit 3) t.2.1.n fun (i : Nat) ↦ [SV.int .i64 (t.2.1.g i).edge, SV.int .i64 (t.2.1.g i).place, SV.int .i64 (t.2.1.g i).tone]]
 (nat_lit 0)), EV.p (SV.ref [SV.clo (nat_lit 120) [SV.ref [SV.sl (nat_lit 3) t.1.n fun (i : Nat) ↦ [SV.int .i64 (t.1.g i).edge, SV.int .i64 (t.1.g i).place, SV.int .i64 (t.1.g i).tone]] (nat_lit 0), SV.ref [SV.sl (nat_lit 3) t.2.1.n fun (i : Nat) ↦ [SV.int .i64 (t.2.1.g i).edge, SV.int
 .i64 (t.2.1.g i).place, SV.int .i64 (t.2.1.g i).tone]] (nat_lit 0), SV.ref [SV.int .i64 t.snd.2.1] (nat_lit 0)]] (nat_lit 0)), EV.loc (nat_lit 1009) (nat_lit 0), EV.loc (nat_lit 1005) (nat_lit 0), EV.loc (nat_lit 2009) (nat_lit 0), EV.loc (nat_lit 1010) (nat_lit 0)] ∧ (L.placeP t.1 t.2.1 t.snd.2.1 t.snd.snd.2.1
 t.snd.snd.snd.2.1 t.snd.snd.snd.snd.2.1 t.snd.snd.snd.snd.2.2 ∧ L.unseen t.2.1.n t.snd.snd.snd.2.1 < rn) ∧ ∀ (u : Bool × (Nat → Bool) × (Nat → Int)), L.placeQ t.1 t.2.1 t.snd.2.1 t.snd.snd.2.1 t.snd.snd.snd.2.1 t.snd.snd.snd.snd.2.1 t.snd.snd.snd.snd.2.2 u.1 u.2.1 u.2.2 → ((bif decide (ow (Int.toNat (↑g.1 : Int)) < (0 : Int)) then true else u.1) = true → ((0 : Int) ≤ (↑g.1 :
 Int) ∧ (↑g.1 : Int) < (↑t.2.1.n : Int)) ∧ Int.toNat (↑g.1 : Int) < t.2.1.n ∧ ∃ (u_1 : Bool × (Nat → Bool) × (Nat → Int)), true = u_1.1 ∧ (t.2.1.n = b.n ∧ ∀ (i : Nat), i < t.2.1.n → [SV.bool (u.2.1 i)] = [SV.bool (u_1.2.1 i)]) ∧ (t.2.1.n = b.n ∧ ∀ (i_1 : Nat), i_1 < t.2.1.n → setRow (fun (k : Nat) ↦ [SV.int .i64 (u.2.2 k)]) (Int.toNat (↑g.1 : Int)) (nat_lit 0)
 [SV.int .i64 (↑i : Int)] i_1 = [SV.int .i64 (u_1.2.2 i_1)]) ∧ (t.snd.snd.snd.snd.2.2.n = f.n ∧ ∀ (i : Nat), i < t.snd.snd.snd.snd.2.2.n → [SV.int .i64 (t.snd.snd.snd.snd.2.2.g i)] = [SV.int .i64 (f.g i)]) ∧ EV.cl (nat_lit 122) [EV.p (SV.ref [SV.sl (nat_lit 3) t.2.1.n fun (i : Nat) ↦ [SV.int .i64
 (t.2.1.g i).edge, SV.int .i64 (t.2.1.g i).place, SV.int .i64 (t.2.1.g i).tone]] (nat_lit 0)), EV.p (SV.ref [SV.clo (nat_lit 120) [SV.ref [SV.sl (nat_lit 3) t.1.n fun (i : Nat) ↦ [SV.int .i64 (t.1.g i).edge, SV.int .i64 (t.1.g i).place, SV.int .i64 (t.1.g i).tone]] (nat_lit 0), SV.ref
 [SV.sl (nat_lit 3) t.2.1.n fun (i : Nat) ↦ [SV.int .i64 (t.2.1.g i).edge, SV.int .i64 (t.2.1.g i).place, SV.int .i64 (t.2.1.g i).tone]] (nat_lit 0), SV.ref [SV.int .i64 t.snd.2.1] (nat_lit 0)]] (nat_lit 0)), EV.loc (1009 : Nat) (nat_lit 0), EV.loc (1005 : Nat) (nat_lit 0), EV.loc (2009 : Nat) (nat_lit 0),
 EV.loc (1010 : Nat) (nat_lit 0)] = EV.cl (122 : Nat) [EV.p (SV.ref [SV.sl (3 : Nat) b.n fun (i : Nat) ↦ [SV.int .i64 (b.g i).edge, SV.int .i64 (b.g i).place, SV.int .i64 (b.g i).tone]] (0 : Nat)), EV.p (SV.ref [SV.clo (120 : Nat) [SV.ref [SV.sl (3 : Nat) a.n fun (i : Nat) ↦ [SV.int
 .i64 (a.g i).edge, SV.int .i64 (a.g i).place, SV.int .i64 (a.g i).tone]] (0 : Nat), SV.ref [SV.sl (3 : Nat) b.n fun (i : Nat) ↦ [SV.int .i64 (b.g i).edge, SV.int .i64 (b.g i).place, SV.int .i64 (b.g i).tone]] (0 : Nat), SV.ref [SV.int .i64 sl] (0 : Nat)]] (0 : Nat)),
 EV.loc (1009 : Nat) (0 : Nat), EV.loc (1005 : Nat) (0 : Nat), EV.loc (2009 : Nat) (0 : Nat), EV.loc (1010 : Nat) (0 : Nat)] ∧ L.placeQ a b sl i sn ow f u_1.1 u_1.2.1 u_1.2.2) ∧ ((bif decide (ow (Int.toNat (↑g.1 : Int)) < (0 : Int)) then true else u.1) = false → InK .i64 ((↑g.1 : Int) + (1 : Int)) ∧ ∃ (g' : Nat × (Nat → Bool)), (↑g.1 :
 Int) + (1 : Int) = (↑g'.1 : Int) ∧ (↑b.n : Int) = (↑b.n : Int) ∧ (b.n = b.n ∧ ∀ (i : Nat), i < b.n → [SV.int .i64 (b.g i).edge, SV.int .i64 (b.g i).place, SV.int .i64 (b.g i).tone] = [SV.int .i64 (b.g i).edge, SV.int .i64 (b.g i).place, SV.int .i64 (b.g i).tone]) ∧ (↑i : Int) = (↑i : Int) ∧ SV.ref
 [SV.sl (nat_lit 3) b.n fun (i : Nat) ↦ [SV.int .i64 (b.g i).edge, SV.int .i64 (b.g i).place, SV.int .i64 (b.g i).tone]] (nat_lit 0) = SV.ref [SV.sl (nat_lit 3) b.n fun (i : Nat) ↦ [SV.int .i64 (b.g i).edge, SV.int .i64 (b.g i).place, SV.int .i64 (b.g i).tone]] (nat_lit 0) ∧
 SV.ref [SV.clo (nat_lit 120) [SV.ref [SV.sl (nat_lit 3) a.n fun (i : Nat) ↦ [SV.int .i64 (a.g i).edge, SV.int .i64 (a.g i).place, SV.int .i64 (a.g i).tone]] (nat_lit 0), SV.ref [SV.sl (nat_lit 3) b.n fun (i : Nat) ↦ [SV.int .i64 (b.g i).edge, SV.int .i64 (b.g i).place, SV.int
 .i64 (b.g i).tone]] (nat_lit 0), SV.ref [SV.int .i64 sl] (nat_lit 0)]] (nat_lit 0) = SV.ref [SV.clo (nat_lit 120) [SV.ref [SV.sl (nat_lit 3) a.n fun (i : Nat) ↦ [SV.int .i64 (a.g i).edge, SV.int .i64 (a.g i).place, SV.int .i64 (a.g i).tone]] (nat_lit 0), SV.ref [SV.sl (nat_lit 3) b.n
 fun (i : Nat) ↦ [SV.int .i64 (b.g i).edge, SV.int .i64 (b.g i).place, SV.int .i64 (b.g i).tone]] (nat_lit 0), SV.ref [SV.int .i64 sl] (nat_lit 0)]] (nat_lit 0) ∧ nat_lit 0 = nat_lit 0 ∧ nat_lit 0 = nat_lit 0 ∧ nat_lit 0 = nat_lit 0 ∧ nat_lit 0 = nat_lit 0 ∧ (t.2.1.n = b.n ∧ ∀ (i : Nat), i < t.2.1.n → [SV.bool (u.2.1 i)] =
 [SV.bool (g'.2 i)]) ∧ (t.2.1.n = b.n ∧ ∀ (i : Nat), i < t.2.1.n → [SV.int .i64 (u.2.2 i)] = [SV.int .i64 (ow i)]) ∧ (t.snd.snd.snd.snd.2.2.n = f.n ∧ ∀ (i : Nat), i < t.snd.snd.snd.snd.2.2.n → [SV.int .i64 (t.snd.snd.snd.snd.2.2.g i)] = [SV.int .i64 (f.g i)]) ∧ EV.cl (nat_lit 122) [EV.p (SV.ref [SV.sl
 (nat_lit 3) t.2.1.n fun (i : Nat) ↦ [SV.int .i64 (t.2.1.g i).edge, SV.int .i64 (t.2.1.g i).place, SV.int .i64 (t.2.1.g i).tone]] (nat_lit 0)), EV.p (SV.ref [SV.clo (nat_lit 120) [SV.ref [SV.sl (nat_lit 3) t.1.n fun (i : Nat) ↦ [SV.int .i64 (t.1.g i).edge, SV.int .i64 (t.1.g i).place,
 SV.int .i64 (t.1.g i).tone]] (nat_lit 0), SV.ref [SV.sl (nat_lit 3) t.2.1.n fun (i : Nat) ↦ [SV.int .i64 (t.2.1.g i).edge, SV.int .i64 (t.2.1.g i).place, SV.int .i64 (t.2.1.g i).tone]] (nat_lit 0), SV.ref [SV.int .i64 t.snd.2.1] (nat_lit 0)]] (nat_lit 0)), EV.loc (1009 : Nat) (nat_lit 0),
 EV.loc (1005 : Nat) (nat_lit 0), EV.loc (2009 : Nat) (nat_lit 0), EV.loc (1010 : Nat) (nat_lit 0)] = EV.cl (nat_lit 122) [EV.p (SV.ref [SV.sl (nat_lit 3) b.n fun (i : Nat) ↦ [SV.int .i64 (b.g i).edge, SV.int .i64 (b.g i).place, SV.int .i64 (b.g i).tone]] (nat_lit 0)), EV.p (SV.ref [SV.clo
 (nat_lit 120) [SV.ref [SV.sl (nat_lit 3) a.n fun (i : Nat) ↦ [SV.int .i64 (a.g i).edge, SV.int .i64 (a.g i).place, SV.int .i64 (a.g i).tone]] (nat_lit 0), SV.ref [SV.sl (nat_lit 3) b.n fun (i : Nat) ↦ [SV.int .i64 (b.g i).edge, SV.int .i64 (b.g i).place, SV.int .i64 (b.g
 i).tone]] (nat_lit 0), SV.ref [SV.int .i64 sl] (nat_lit 0)]] (nat_lit 0)), EV.loc (nat_lit 1009) (nat_lit 0), EV.loc (nat_lit 1005) (nat_lit 0), EV.loc (nat_lit 2009) (nat_lit 0), EV.loc (nat_lit 1010) (nat_lit 0)] ∧ L.placeI a b sl i sn ow f g'.1 g'.2 ∧ b.n - g'.1 < b.n - g.1)) ∧ ((!decide (ow (Int.toNat (↑g.1 : Int)) < (0 : Int))) =
 false → ((bif decide (ow (Int.toNat (↑g.1 : Int)) < (0 : Int)) then true else false) = true → ((0 : Int) ≤ (↑g.1 : Int) ∧ (↑g.1 : Int) < (↑b.n : Int)) ∧ Int.toNat (↑g.1 : Int) < b.n ∧ ∃ (u : Bool × (Nat → Bool) × (Nat → Int)), true = u.1 ∧ (b.n = b.n ∧ ∀ (i : Nat), i < b.n → setRow (fun (k : Nat) ↦ [SV.bool (g.2 k)]) (Int.toNat (↑g.1 : Int)) (nat_lit
 0) [SV.bool true] i = [SV.bool (u.2.1 i)]) ∧ (b.n = b.n ∧ ∀ (i_1 : Nat), i_1 < b.n → setRow (fun (k : Nat) ↦ [SV.int .i64 (ow k)]) (Int.toNat (↑g.1 : Int)) (nat_lit 0) [SV.int .i64 (↑i : Int)] i_1 = [SV.int .i64 (u.2.2 i_1)]) ∧ (f.n = f.n ∧ ∀ (i : Nat), i < f.n → [SV.int .i64 (f.g i)] = [SV.int
 .i64 (f.g i)]) ∧ EV.cl (nat_lit 122) [EV.p (SV.ref [SV.sl (nat_lit 3) b.n fun (i : Nat) ↦ [SV.int .i64 (b.g i).edge, SV.int .i64 (b.g i).place, SV.int .i64 (b.g i).tone]] (nat_lit 0)), EV.p (SV.ref [SV.clo (nat_lit 120) [SV.ref [SV.sl (nat_lit 3) a.n fun (i : Nat) ↦ [SV.int
 .i64 (a.g i).edge, SV.int .i64 (a.g i).place, SV.int .i64 (a.g i).tone]] (nat_lit 0), SV.ref [SV.sl (nat_lit 3) b.n fun (i : Nat) ↦ [SV.int .i64 (b.g i).edge, SV.int .i64 (b.g i).place, SV.int .i64 (b.g i).tone]] (nat_lit 0), SV.ref [SV.int .i64 sl] (nat_lit 0)]] (nat_lit
 0)), EV.loc (nat_lit 1009) (nat_lit 0), EV.loc (nat_lit 1005) (nat_lit 0), EV.loc (nat_lit 2009) (nat_lit 0), EV.loc (nat_lit 1010) (nat_lit 0)] = EV.cl (122 : Nat) [EV.p (SV.ref [SV.sl (3 : Nat) b.n fun (i : Nat) ↦ [SV.int .i64 (b.g i).edge, SV.int .i64 (b.g i).place, SV.int .i64 (b.g i).tone]] (0 :
 Nat)), EV.p (SV.ref [SV.clo (120 : Nat) [SV.ref [SV.sl (3 : Nat) a.n fun (i : Nat) ↦ [SV.int .i64 (a.g i).edge, SV.int .i64 (a.g i).place, SV.int .i64 (a.g i).tone]] (0 : Nat), SV.ref [SV.sl (3 : Nat) b.n fun (i : Nat) ↦ [SV.int .i64 (b.g i).edge, SV.int .i64 (b.g i).place,
 SV.int .i64 (b.g i).tone]] (0 : Nat), SV.ref [SV.int .i64 sl] (0 : Nat)]] (0 : Nat)), EV.loc (1009 : Nat) (0 : Nat), EV.loc (1005 : Nat) (0 : Nat), EV.loc (2009 : Nat) (0 : Nat), EV.loc (1010 : Nat) (0 : Nat)] ∧ L.placeQ a b sl i sn ow f u.1 u.2.1 u.2.2) ∧ ((bif decide (ow (Int.toNat (↑g.1 : Int)) < (0 : Int)) then true
 else false) = false → InK .i64 ((↑g.1 : Int) + (1 : Int)) ∧ ∃ (g' : Nat × (Nat → Bool)), (↑g.1 : Int) + (1 : Int) = (↑g'.1 : Int) ∧ (↑b.n : Int) = (↑b.n : Int) ∧ (b.n = b.n ∧ ∀ (i : Nat), i < b.n → [SV.int .i64 (b.g i).edge, SV.int .i64 (b.g i).place, SV.int .i64 (b.g i).tone] = [SV.int .i64 (b.g i).edge,
 SV.int .i64 (b.g i).place, SV.int .i64 (b.g i).tone]) ∧ (↑i : Int) = (↑i : Int) ∧ SV.ref [SV.sl (nat_lit 3) b.n fun (i : Nat) ↦ [SV.int .i64 (b.g i).edge, SV.int .i64 (b.g i).place, SV.int .i64 (b.g i).tone]] (nat_lit 0) = SV.ref [SV.sl (nat_lit 3) b.n fun (i : Nat) ↦ [SV.int
 .i64 (b.g i).edge, SV.int .i64 (b.g i).place, SV.int .i64 (b.g i).tone]] (nat_lit 0) ∧ SV.ref [SV.clo (nat_lit 120) [SV.ref [SV.sl (nat_lit 3) a.n fun (i : Nat) ↦ [SV.int .i64 (a.g i).edge, SV.int .i64 (a.g i).place, SV.int .i64 (a.g i).tone]] (nat_lit 0), SV.ref [SV.sl
 (nat_lit 3) b.n fun (i : Nat) ↦ [SV.int .i64 (b.g i).edge, SV.int .i64 (b.g i).place, SV.int .i64 (b.g i).tone]] (nat_lit 0), SV.ref [SV.int .i64 sl] (nat_lit 0)]] (nat_lit 0) = SV.ref [SV.clo (nat_lit 120) [SV.ref [SV.sl (nat_lit 3) a.n fun (i : Nat) ↦ [SV.int .i64 (a.g i).edge,
 SV.int .i64 (a.g i).place, SV.int .i64 (a.g i).tone]] (nat_lit 0), SV.ref [SV.sl (nat_lit 3) b.n fun (i : Nat) ↦ [SV.int .i64 (b.g i).edge, SV.int .i64 (b.g i).place, SV.int .i64 (b.g i).tone]] (nat_lit 0), SV.ref [SV.int .i64 sl] (nat_lit 0)]] (nat_lit 0) ∧ nat_lit 0 = nat_lit 0 ∧
 nat_lit 0 = nat_lit 0 ∧ nat_lit 0 = nat_lit 0 ∧ nat_lit 0 = nat_lit 0 ∧ (b.n = b.n ∧ ∀ (i : Nat), i < b.n → setRow (fun (k : Nat) ↦ [SV.bool (g.2 k)]) (Int.toNat (↑g.1 : Int)) (nat_lit 0) [SV.bool true] i = [SV.bool (g'.2 i)]) ∧ (b.n = b.n ∧ ∀ (i : Nat), i < b.n → [SV.int .i64 (ow i)] = [SV.int .i64 (ow i)]) ∧ (f.n = f.n ∧ ∀ (i : Nat), i
 < f.n → [SV.int .i64 (f.g i)] = [SV.int .i64 (f.g i)]) ∧ EV.cl (nat_lit 122) [EV.p (SV.ref [SV.sl (nat_lit 3) b.n fun (i : Nat) ↦ [SV.int .i64 (b.g i).edge, SV.int .i64 (b.g i).place, SV.int .i64 (b.g i).tone]] (nat_lit 0)), EV.p (SV.ref [SV.clo (nat_lit 120) [SV.ref
 [SV.sl (nat_lit 3) a.n fun (i : Nat) ↦ [SV.int .i64 (a.g i).edge, SV.int .i64 (a.g i).place, SV.int .i64 (a.g i).tone]] (nat_lit 0), SV.ref [SV.sl (nat_lit 3) b.n fun (i : Nat) ↦ [SV.int .i64 (b.g i).edge, SV.int .i64 (b.g i).place, SV.int .i64 (b.g i).tone]] (nat_lit 0), SV.ref
 [SV.int .i64 sl] (nat_lit 0)]] (nat_lit 0)), EV.loc (nat_lit 1009) (nat_lit 0), EV.loc (nat_lit 1005) (nat_lit 0), EV.loc (nat_lit 2009) (nat_lit 0), EV.loc (nat_lit 1010) (nat_lit 0)] = EV.cl (nat_lit 122) [EV.p (SV.ref [SV.sl (nat_lit 3) b.n fun (i : Nat) ↦ [SV.int .i64 (b.g i).edge, SV.int .i64 (b.g
 i).place, SV.int .i64 (b.g i).tone]] (nat_lit 0)), EV.p (SV.ref [SV.clo (nat_lit 120) [SV.ref [SV.sl (nat_lit 3) a.n fun (i : Nat) ↦ [SV.int .i64 (a.g i).edge, SV.int .i64 (a.g i).place, SV.int .i64 (a.g i).tone]] (nat_lit 0), SV.ref [SV.sl (nat_lit 3) b.n fun (i : Nat) ↦ [SV.int
 .i64 (b.g i).edge, SV.int .i64 (b.g i).place, SV.int .i64 (b.g i).tone]] (nat_lit 0), SV.ref [SV.int .i64 sl] (nat_lit 0)]] (nat_lit 0)), EV.loc (nat_lit 1009) (nat_lit 0), EV.loc (nat_lit 1005) (nat_lit 0), EV.loc (nat_lit 2009) (nat_lit 0), EV.loc (nat_lit 1010) (nat_lit 0)] ∧ L.placeI a b sl i sn ow f g'.1
 g'.2 ∧ b.n - g'.1 < b.n - g.1)))) ∧ (decide ((↑g.1 : Int) < (↑b.n : Int)) = false → ∃ (u : Bool × (Nat → Bool) × (Nat → Int)), false = u.1 ∧ (b.n = b.n ∧ ∀ (i : Nat), i < b.n → [SV.bool (g.2 i)] = [SV.bool (u.2.1 i)]) ∧ (b.n = b.n ∧ ∀ (i : Nat), i < b.n → [SV.int .i64 (ow i)] = [SV.int .i64 (u.2.2 i)]) ∧ (f.n = f.n ∧ ∀ (i : Nat), i <
 f.n → [SV.int .i64 (f.g i)] = [SV.int .i64 (f.g i)]) ∧ EV.cl (nat_lit 122) [EV.p (SV.ref [SV.sl (nat_lit 3) b.n fun (i : Nat) ↦ [SV.int .i64 (b.g i).edge, SV.int .i64 (b.g i).place, SV.int .i64 (b.g i).tone]] (nat_lit 0)), EV.p (SV.ref [SV.clo (nat_lit 120) [SV.ref
 [SV.sl (nat_lit 3) a.n fun (i : Nat) ↦ [SV.int .i64 (a.g i).edge, SV.int .i64 (a.g i).place, SV.int .i64 (a.g i).tone]] (nat_lit 0), SV.ref [SV.sl (nat_lit 3) b.n fun (i : Nat) ↦ [SV.int .i64 (b.g i).edge, SV.int .i64 (b.g i).place, SV.int .i64 (b.g i).tone]] (nat_lit 0), SV.ref
 [SV.int .i64 sl] (nat_lit 0)]] (nat_lit 0)), EV.loc (nat_lit 1009) (nat_lit 0), EV.loc (nat_lit 1005) (nat_lit 0), EV.loc (nat_lit 2009) (nat_lit 0), EV.loc (nat_lit 1010) (nat_lit 0)] = EV.cl (122 : Nat) [EV.p (SV.ref [SV.sl (3 : Nat) b.n fun (i : Nat) ↦ [SV.int .i64 (b.g i).edge, SV.int .i64 (b.g
 i).place, SV.int .i64 (b.g i).tone]] (0 : Nat)), EV.p (SV.ref [SV.clo (120 : Nat) [SV.ref [SV.sl (3 : Nat) a.n fun (i : Nat) ↦ [SV.int .i64 (a.g i).edge, SV.int .i64 (a.g i).place, SV.int .i64 (a.g i).tone]] (0 : Nat), SV.ref [SV.sl (3 : Nat) b.n fun (i : Nat) ↦ [SV.int .i64
 (b.g i).edge, SV.int .i64 (b.g i).place, SV.int .i64 (b.g i).tone]] (0 : Nat), SV.ref [SV.int .i64 sl] (0 : Nat)]] (0 : Nat)), EV.loc (1009 : Nat) (0 : Nat), EV.loc (1005 : Nat) (0 : Nat), EV.loc (2009 : Nat) (0 : Nat), EV.loc (1010 : Nat) (0 : Nat)] ∧ L.placeQ a b sl i sn ow f u.1 u.2.1 u.2.2)) (by kernel_rfl) (by
    have hp : L.placeP a b sl i sn ow f := hp
    have hmu : L.unseen b.n sn < rn + 1 := hmu
    obtain ⟨⟨hab, hn, ha, hb, s0, s1⟩, hfi, hib, p4, p5, p6⟩ := id hp
    have ei : ((i : Int)).toNat = i := by omega
    refine ⟨⟨(0, sn), rfl, ⟨rfl, fun _ _ => rfl⟩, place_0⟩, ?_⟩
    rintro ⟨k, s⟩ hI
    have hI : L.placeI a b sl i sn ow f k s := hI
    refine ⟨fun hlt => ?_, fun hge => ?_⟩
    · have hk : (k : Int) < (b.n : Int) := by simpa using hlt
      have hk' : k < b.n := by omega
      have e0 : ((k : Int)).toNat = k := by omega
      dsimp only
      rw [e0, ei]
      refine ⟨⟨fun _ _ => rfl, fun _ _ => rfl, hp.1, by omega, by omega, by omega, hk⟩, fun _ => by omega, fun _ => hk', fun _ => by omega, fun _ => hk', fun _ => by omega, fun _ => hk', fun h => ?_, fun h => ?_⟩
      · have h : (bif (bif !L.near a b sl i k then true else s k) then true else bif decide (0 ≤ ow k) then decide (ow k < (f.n : Int)) else false) = true := h
        have hs : L.near a b sl i k = true → s k = true ∨ L.isF ow f.n k := fun hne => by
          rw [hne] at h
          cases hsk : s k with
          | true => exact .inl rfl
          | false =>
            right
            rw [hsk] at h
            simpa [L.isF] using h
        exact ⟨InK.of (by omega) (by omega), (k + 1, s), by simp, rfl, ⟨rfl, fun _ _ => rfl⟩, rfl, rfl, rfl, rfl, rfl, rfl, rfl, ⟨rfl, fun _ _ => rfl⟩, ⟨rfl, fun _ _ => rfl⟩, ⟨rfl, fun _ _ => rfl⟩, rfl, place_skip hI hk' hs, by simp; omega⟩
      · have h : (bif (bif !L.near a b sl i k then true else s k) then true else bif decide (0 ≤ ow k) then decide (ow k < (f.n : Int)) else false) = false := h
        cases hne : L.near a b sl i k with
        | false => rw [hne] at h; simp at h
        | true =>
          cases hsk : s k with
          | true => rw [hne, hsk] at h; simp at h
          | false =>
            rw [hne, hsk] at h
            have hF : ¬ L.isF ow f.n k := fun hf => by simp [hf.1, hf.2] at h
            have hset : ∀ q, setRow (fun (k : Nat) => [SV.bool (s k)]) k 0 [SV.bool true] q = [SV.bool (L.set s k q)] := fun q => by
              unfold setRow
              by_cases e : q = k
              · subst e; simp [fillAt, set_self]
              · simp [e, set_ne e]
            have hown : ∀ (o : Nat → Int) q, setRow (fun (k : Nat) => [SV.int .i64 (o k)]) k 0 [SV.int .i64 (i : Int)] q = [SV.int .i64 (L.own o k (i : Int) q)] := fun o q => by
              unfold setRow
              by_cases e : q = k
              · subst e; simp [fillAt, own_self]
              · simp [e, own_ne e]
            refine ⟨by omega, hk', by omega, hk', fun _ => by omega, fun _ => hk', fun h0 => ?_, fun h0 => ⟨fun _ => ?_, fun h1 => ?_⟩⟩
            · have hd : decide (ow k < 0) = false := by simpa using h0
              have h0' : 0 ≤ ow k := by simpa using hd
              obtain ⟨hpr, hlt'⟩ := place_pre hp hI hk' hsk hF h0'
              have ej : (((ow k).toNat : Nat) : Int) = ow k := by omega
              refine ⟨(a, b, sl, (ow k).toNat, L.set s k, ow, f), ej.symm, rfl, rfl, rfl, rfl, rfl, rfl, ⟨rfl, fun q _ => hset q⟩, ⟨rfl, fun _ _ => rfl⟩, ⟨rfl, fun _ _ => rfl⟩, rfl, ⟨hpr, Nat.lt_of_lt_of_le hlt' (by omega)⟩, ?_⟩
              rintro ⟨r, s2, ow2⟩ hQ
              rw [hd]
              refine ⟨fun hr => ?_, fun hr => ?_⟩
              · have hr : r = true := hr
                subst hr
                exact ⟨⟨by omega, hk⟩, hk', (true, s2, L.own ow2 k (i : Int)), rfl, ⟨rfl, fun _ _ => rfl⟩, ⟨rfl, fun q _ => hown ow2 q⟩, ⟨rfl, fun _ _ => rfl⟩, rfl, place_rec hp hI hk' hsk hF h0' hne hQ⟩
              · have hr : r = false := hr
                subst hr
                obtain ⟨n1, n2⟩ := place_no hI hk' hsk hF h0' hQ
                exact ⟨InK.of (by omega) (by omega), (k + 1, s2), by simp, rfl, ⟨rfl, fun _ _ => rfl⟩, rfl, rfl, rfl, rfl, rfl, rfl, rfl, ⟨rfl, fun _ _ => rfl⟩, ⟨rfl, fun q hq => congrArg (fun v => [SV.int .i64 v]) (n2 q hq)⟩, ⟨rfl, fun _ _ => rfl⟩, rfl, n1, by simp; omega⟩
            · have hd : decide (ow k < 0) = true := by simpa using h0
              have h0' : ow k < 0 := by simpa using hd
              exact ⟨⟨by omega, hk⟩, hk', (true, L.set s k, L.own ow k (i : Int)), rfl, ⟨rfl, fun q _ => hset q⟩, ⟨rfl, fun q _ => hown ow q⟩, ⟨rfl, fun _ _ => rfl⟩, rfl, place_free hp hI hk' hsk h0' hne⟩
            · have hd : decide (ow k < 0) = true := by simpa using h0
              rw [hd] at h1; cases h1
    · have hk : ¬ (k : Int) < (b.n : Int) := by simpa using hge
      have e : k = b.n := by have := hI.1; omega
      rw [e] at hI
      exact ⟨(false, s, ow), rfl, ⟨rfl, fun _ _ => rfl⟩, ⟨rfl, fun _ _ => rfl⟩, ⟨rfl, fun _ _ => rfl⟩, rfl, place_end hI⟩)
theorem g_place_en : Enters Tryz.prog 122 := fun args w => by kernel_rfl
theorem g_place_tok : TrOk Tryz.prog 122 g_place_tr := tr_rec g_place_mu (fun t u => rfl) (fun rn ih => tr_ok (ks := [1009, 1047, 1005, 1014, 2009, 2020, 1010]) (n := 7) Tryz.func122 (c := bodyOf Tryz.f122) (by kernel_rfl) mixed ⟨fun t => rfl, fun t => rfl, fun t u => rfl, fun t u => rfl, fun t u => rfl, by kernel_rfl⟩ (fun ⟨a, b, sl, i, sn, ow, f⟩ hp => ⟨_, g_place_vc rn a b sl i sn ow f hp.1 hp.2, ⟨show SpecsL Tryz.prog _ from (SpecsL.cons g_near_ok g_near_en SpecsL.nil), rfl, ⟨show ItersL Tryz.prog _ from ItersL.nil, (show TrsL Tryz.prog _ from (TrsL.cons ih g_place_en TrsL.nil))⟩⟩⟩))
end Go.Proofs.YtooapgllahonaaaGreat

namespace Go.Proofs.YtooapgllahonaaaGreat
open Go.SE Go.RowKit
set_option maxRecDepth 100000
set_option maxHeartbeats 4000000
set_option linter.unusedVariables false
attribute [local irreducible] vc

def L.Ext (a b : L.Sq L.Mark) (sl : Int) (f : L.Sq Int) : Prop := ∃ m : Nat → Nat, (∀ j, j < b.n → m j < b.n) ∧ (∀ j j', j < b.n → j' < b.n → m j = m j' → j = j') ∧ (∀ j, j < f.n → m j = (f.g j).toNat) ∧ ∀ j, f.n ≤ j → j < b.n → L.near a b sl j (m j) = true
def L.pairP (a b : L.Sq L.Mark) (sl : Int) (f : L.Sq Int) : Prop := L.okMarks a b sl ∧ f.n ≤ b.n ∧ (∀ j, j < f.n → 0 ≤ f.g j ∧ f.g j < (b.n : Int)) ∧ ∀ j j', j < f.n → j' < f.n → f.g j = f.g j' → j = j'
def L.pairQ (a b : L.Sq L.Mark) (sl : Int) (f : L.Sq Int) (r : Bool) : Prop := r = true ↔ L.Ext a b sl f
def L.ow0 (f : L.Sq Int) : Nat → Nat → Int
  | 0 => fun _ => -1
  | g + 1 => L.own (L.ow0 f g) (f.g g).toNat (g : Int)
def L.pairI (a b : L.Sq L.Mark) (sl : Int) (f : L.Sq Int) (i : Nat) (ow : Nat → Int) : Prop :=
  f.n ≤ i ∧ i ≤ b.n ∧ (∀ k, k < b.n → ow k < (i : Int)) ∧ (∀ k k', k < b.n → k' < b.n → 0 ≤ ow k → ow k = ow k' → k = k') ∧ (∀ j, j < i → ∃ k, k < b.n ∧ ow k = (j : Int)) ∧ (∀ j, j < f.n → ow (f.g j).toNat = (j : Int)) ∧ ∀ k, k < b.n → (f.n : Int) ≤ ow k → L.near a b sl (ow k).toNat k = true
def L.none1 : Nat → Bool := fun _ => false
theorem pigeon : ∀ (n : Nat) (f : Nat → Nat), (∀ i, i ≤ n → f i < n) → ∃ i j, i < j ∧ j ≤ n ∧ f i = f j
  | 0, f, h => absurd (h 0 (Nat.le_refl _)) (Nat.not_lt_zero _)
  | n + 1, f, h => by
    by_cases hx : ∃ i, i ≤ n ∧ f i = f (n + 1)
    · obtain ⟨i, hi, e⟩ := hx
      exact ⟨i, n + 1, by omega, Nat.le_refl _, e⟩
    · have hv := h (n + 1) (Nat.le_refl _)
      obtain ⟨i, j, hij, hj, e⟩ := pigeon n (fun i => if f i = n then f (n + 1) else f i) (fun i hi => by
        have h1 := h i (by omega)
        have h2 : f i ≠ f (n + 1) := fun e => hx ⟨i, hi, e⟩
        by_cases hin : f i = n
        · simp [hin]; omega
        · simp [hin]; omega)
      refine ⟨i, j, hij, by omega, ?_⟩
      have h1 : f i ≠ f (n + 1) := fun e => hx ⟨i, by omega, e⟩
      have h2 : f j ≠ f (n + 1) := fun e => hx ⟨j, by omega, e⟩
      by_cases hi : f i = n <;> by_cases hjn : f j = n
      · omega
      · simp [hi, hjn] at e; omega
      · simp [hi, hjn] at e; omega
      · simpa [hi, hjn] using e
section
variable {a b : L.Sq L.Mark} {sl : Int} {i : Nat} {ow : Nat → Int} {f : L.Sq Int} {sn' : Nat → Bool} {ow' : Nat → Int}
theorem ow0_val (hp : L.pairP a b sl f) : ∀ g, g ≤ f.n → (∀ k, L.ow0 f g k < (g : Int)) ∧ (∀ k, 0 ≤ L.ow0 f g k → (f.g (L.ow0 f g k).toNat).toNat = k) ∧ ∀ j, j < g → L.ow0 f g (f.g j).toNat = (j : Int)
  | 0, _ => ⟨fun k => by simp [L.ow0], fun k h => by simp [L.ow0] at h, fun j h => absurd h (Nat.not_lt_zero _)⟩
  | g + 1, hg => by
    obtain ⟨h1, h2, h3⟩ := ow0_val hp g (by omega)
    obtain ⟨_, _, p3, p4⟩ := hp
    refine ⟨fun k => ?_, fun k hk => ?_, fun j hj => ?_⟩
    · simp only [L.ow0]
      by_cases e : k = (f.g g).toNat
      · rw [e, own_self]; omega
      · rw [own_ne e]; have := h1 k; omega
    · simp only [L.ow0] at hk ⊢
      by_cases e : k = (f.g g).toNat
      · rw [e, own_self, Int.toNat_natCast]
      · rw [own_ne e] at hk ⊢; exact h2 k hk
    · simp only [L.ow0]
      rcases Nat.lt_succ_iff_lt_or_eq.1 hj with h' | rfl
      · have e : (f.g j).toNat ≠ (f.g g).toNat := fun e => by
          have q1 := p3 j (by omega)
          have q2 := p3 g (by omega)
          have := p4 j g (by omega) (by omega) (by omega)
          omega
        rw [own_ne e]; exact h3 j h'
      · rw [own_self]
theorem pair_0 (hp : L.pairP a b sl f) : L.pairI a b sl f f.n (L.ow0 f f.n) := by
  obtain ⟨h1, h2, h3⟩ := ow0_val hp f.n (Nat.le_refl _)
  refine ⟨Nat.le_refl _, hp.2.1, fun k _ => h1 k, fun k k' _ _ h0 e => ?_, fun j hj => ⟨(f.g j).toNat, ?_, h3 j hj⟩, h3, fun k _ h => ?_⟩
  · have q1 := h2 k h0
    have q2 := h2 k' (by omega)
    rw [← e] at q2; omega
  · have := hp.2.2.1 j hj; omega
  · have := h1 k; omega
theorem pair_place (hp : L.pairP a b sl f) (h : L.pairI a b sl f i ow) (hi : i < b.n) : L.placeP a b sl i L.none1 ow f := by
  obtain ⟨i1, i2, i3, i4, i5, i6, i7⟩ := h
  exact ⟨hp.1, i1, hi, fun k hk => by have := i3 k hk; omega, fun k k' hk hk' _ _ h0 e => i4 k k' hk hk' h0 e, fun k hk _ e => by have := i3 k hk; omega⟩
theorem pair_yes (hp : L.pairP a b sl f) (h : L.pairI a b sl f i ow) (hi : i < b.n) (hQ : L.placeQ a b sl i L.none1 ow f true sn' ow') : L.pairI a b sl f (i + 1) ow' := by
  obtain ⟨i1, i2, i3, i4, i5, i6, i7⟩ := h
  obtain ⟨_, _, q⟩ := hQ
  obtain ⟨q1, q2, q3, q4, q5, q6⟩ := q rfl
  have own : ∀ k, k < b.n → 0 ≤ ow' k → (∃ k', k' < b.n ∧ ow k' = ow' k) ∨ ow' k = (i : Int) := fun k hk h0 => by
    rcases (q5 (ow' k) h0).1 ⟨k, hk, rfl, rfl⟩ with ⟨k', hk', _, e⟩ | e
    · exact .inl ⟨k', hk', e⟩
    · exact .inr e
  refine ⟨by omega, hi, fun k hk => ?_, fun k k' hk hk' h0 e => q4 k k' hk hk' rfl rfl h0 e, fun j hj => ?_, fun j hj => ?_, fun k hk hf => ?_⟩
  · rcases Int.lt_or_le (ow' k) 0 with h' | h'
    · omega
    · rcases own k hk h' with ⟨k', hk', e⟩ | e
      · have := i3 k' hk'; omega
      · omega
  · rcases Nat.lt_succ_iff_lt_or_eq.1 hj with h' | rfl
    · obtain ⟨k, hk, e⟩ := i5 j h'
      obtain ⟨k', hk', _, e'⟩ := (q5 j (by omega)).2 (.inl ⟨k, hk, rfl, e⟩)
      exact ⟨k', hk', e'⟩
    · obtain ⟨k', hk', _, e'⟩ := (q5 j (by omega)).2 (.inr rfl)
      exact ⟨k', hk', e'⟩
  · have hb := hp.2.2.1 j hj
    have := i6 j hj
    rw [q2 _ (by omega) ⟨by omega, by omega⟩]; exact this
  · by_cases e : ow' k = ow k
    · rw [e] at hf ⊢; exact i7 k hk hf
    · exact (q6 k hk (by omega) e).2
theorem pair_no (hp : L.pairP a b sl f) (h : L.pairI a b sl f i ow) (hi : i < b.n) (hQ : L.placeQ a b sl i L.none1 ow f false sn' ow') : ¬ L.Ext a b sl f := by
  rintro ⟨m, m1, m2, m3, m4⟩
  obtain ⟨i1, i2, i3, i4, i5, i6, i7⟩ := h
  obtain ⟨_, q, _⟩ := hQ
  obtain ⟨_, q2, q3⟩ := q rfl
  -- where the search has been
  let C : Nat → Prop := fun x => f.n ≤ x ∧ x < b.n ∧ ∀ k, k < b.n → L.near a b sl x k = true → sn' k = true ∨ L.isF ow f.n k
  have step : ∀ x, C x → C (ow (m x)).toNat ∧ (ow (m x)).toNat < i ∧ 0 ≤ ow (m x) := fun x ⟨c1, c2, c3⟩ => by
    have hk := m1 x c2
    have hs : sn' (m x) = true := by
      rcases c3 _ hk (m4 x c1 c2) with h' | ⟨f0, f1⟩
      · exact h'
      · exfalso
        have hj : (ow (m x)).toNat < f.n := by omega
        have hb := hp.2.2.1 _ hj
        have e1 := i6 _ hj
        have e2 : m x = (f.g (ow (m x)).toNat).toNat := i4 _ _ hk (by omega) f0 (by omega)
        have e3 := m3 _ hj
        have := m2 x (ow (m x)).toNat c2 (by omega) (e2.trans e3.symm)
        omega
    obtain ⟨h1, h2⟩ := q3 _ hk hs rfl
    have := i3 _ hk
    exact ⟨⟨by omega, by omega, h2⟩, by omega, by omega⟩
  let x : Nat → Nat := fun t => Nat.rec i (fun _ y => (ow (m y)).toNat) t
  have hC : ∀ t, C (x t) := fun t => by
    induction t with
    | zero => exact ⟨i1, hi, q2⟩
    | succ t ih => exact (step _ ih).1
  have hlt : ∀ t, x (t + 1) < i := fun t => (step _ (hC t)).2.1
  have hinj : ∀ t s, x (t + 1) = x (s + 1) → x t = x s := fun t s e => by
    have e : (ow (m (x t))).toNat = (ow (m (x s))).toNat := e
    have a1 := (step _ (hC t)).2.2
    have a2 := (step _ (hC s)).2.2
    have := i4 _ _ (m1 _ (hC t).2.1) (m1 _ (hC s).2.1) a1 (by omega)
    exact m2 _ _ (hC t).2.1 (hC s).2.1 this
  have back : ∀ s d, x s = x (s + d) → x 0 = x d := fun s => by
    induction s with
    | zero => intro d e; rw [Nat.zero_add] at e; exact e
    | succ s ih =>
      intro d e
      refine ih d (hinj _ _ ?_)
      rw [show s + d + 1 = s + 1 + d by omega]; exact e
  obtain ⟨s, t, hst, _, e⟩ := pigeon b.n x (fun t _ => (hC t).2.1)
  have h0 := back s (t - s) (by rw [show s + (t - s) = t by omega]; exact e)
  have := hlt (t - s - 1)
  rw [show t - s - 1 + 1 = t - s by omega, ← h0] at this
  exact Nat.lt_irrefl _ this
theorem pair_end (hp : L.pairP a b sl f) (h : L.pairI a b sl f b.n ow) : L.Ext a b sl f := by
  obtain ⟨i1, i2, i3, i4, i5, i6, i7⟩ := h
  refine ⟨fun j => if h : j < b.n then Classical.choose (i5 j h) else 0, fun j hj => ?_, fun j j' hj hj' e => ?_, fun j hj => ?_, fun j hf hj => ?_⟩
  · simp only [hj, dif_pos]; exact (Classical.choose_spec (i5 j hj)).1
  · simp only [hj, hj', dif_pos] at e
    have h1 := (Classical.choose_spec (i5 j hj)).2
    have h2 := (Classical.choose_spec (i5 j' hj')).2
    rw [e] at h1; omega
  · have hj' : j < b.n := by omega
    simp only [hj', dif_pos]
    obtain ⟨h0, h1⟩ := Classical.choose_spec (i5 j hj')
    have h2 := i6 j hj
    have hb := hp.2.2.1 j hj
    exact i4 _ _ h0 (by omega) (by omega) (by omega)
  · simp only [hj, dif_pos]
    obtain ⟨h0, h1⟩ := Classical.choose_spec (i5 j hj)
    have := i7 _ h0 (by omega)
    rw [h1, Int.toNat_natCast] at this
    exact this
end
abbrev g_pair_tr : Tr := { T := (L.Sq L.Mark) × (L.Sq L.Mark) × (Int) × (L.Sq Int), U := Bool, args := fun t => (fun a b sl f => [.p (.ref [(.sl 3 b.n (fun i => [.int .i64 ((b.g i).edge), .int .i64 ((b.g i).place), .int .i64 ((b.g i).tone)]))] 0), .loc 1009 0, .p (.ref [.clo 120 [.ref [(.sl 3 a.n (fun i => [.int .i64 ((a.g i).edge), .int .i64 ((a.g i).place), .int .i64 ((a.g i).tone)]))] 0, .ref [(.sl 3 b.n (fun i => [.int .i64 ((b.g i).edge), .int .i64 ((b.g i).place), .int .i64 ((b.g i).tone)]))] 0, .ref [.int .i64 sl] 0]] 0), .p (.ref [(.sl 3 a.n (fun i => [.int .i64 ((a.g i).edge), .int .i64 ((a.g i).place), .int .i64 ((a.g i).tone)]))] 0)]) t.1 t.2.1 t.2.2.1 t.2.2.2, own := fun t => (fun a b sl f => [(1009, .blk 57 [.row 1020]), (1020, .row 3 1 f.n (fun k => [.int .i64 (f.g k)]))]) t.1 t.2.1 t.2.2.1 t.2.2.2, pre := fun t => (fun a b sl f => L.pairP a b sl f) t.1 t.2.1 t.2.2.1 t.2.2.2, post := fun t u => (fun a b sl f => fun r => L.pairQ a b sl f r) t.1 t.2.1 t.2.2.1 t.2.2.2 u, own' := fun t u => (fun a b sl f => fun r => [(1009, .blk 57 [.row 1020]), (1020, .row 3 1 f.n (fun k => [.int .i64 (f.g k)]))]) t.1 t.2.1 t.2.2.1 t.2.2.2 u, res := fun t u => (fun a b sl f => fun r => .p (.bool r)) t.1 t.2.1 t.2.2.1 t.2.2.2 u }
theorem g_pair_vc (a : L.Sq L.Mark) (b : L.Sq L.Mark) (sl : Int) (f : L.Sq Int) (hp : g_pair_tr.pre (a, b, sl, f)) : vc Tryz.prog ({ muts := [], frz := lookN [], specs := lookS [], loops := lookL [(3, { T := Nat, keep := [0, 1, 2, 3, 4, 5, 16], keepO := [1009, 1020], chg := fun g => [(17, .p (.int .i64 (g : Int)))], own := fun g => [(5, .blk 57 [.row 14]), (14, .row 3 1 b.n (fun k => [.int .i64 (bif decide (k < g) then -1 else 0)]))], inv := fun g => g ≤ b.n, mu := fun g => b.n - g }), (8, { T := Nat, keep := [0, 1, 2, 3, 4, 5, 24, 25], keepO := [1009, 1020], chg := fun g => [(26, .p (.int .i64 (g : Int)))], own := fun g => [(5, .blk 57 [.row 14]), (14, .row 3 1 b.n (fun k => [.int .i64 (L.ow0 f g k)]))], inv := fun g => g ≤ f.n, mu := fun g => f.n - g }), (16, { T := Nat × (Nat → Int), keep := [0, 1, 2, 3, 4, 5, 9, 10], keepO := [5, 10, 1009, 1020], chg := fun g => [(11, .p (.int .i64 (g.1 : Int)))], own := fun g => [(14, .row 3 1 b.n (fun k => [.int .i64 (g.2 k)])), (9, .blk 150 [.any])], inv := fun g => L.pairI a b sl f g.1 g.2, mu := fun g => b.n - g.1 })], iters := lookI [], rfs := lookR [], nils := lookM [], trs := lookT [(122, g_place_tr)], ren := fun k => k - 1000 }) (bodyOf Tryz.f121) (stTr Tryz.f121 (g_pair_tr.args (a, b, sl, f)) (g_pair_tr.own (a, b, sl, f))) (retTr Tryz.prog Tryz.f121 g_pair_tr (a, b, sl, f)) :=
  @Eq.mpr _ (((0 : Int) ≤ (↑b.n : Int) ∧ (↑b.n : Int) ≤ (↑b.n : Int) ∧ (↑b.n : Int) * (↑(nat_lit 8) : Int) ≤ (140737488355328 : Int)) ∧ (∃ (g : Nat), (0 : Int) = (↑g : Int) ∧ (Int.toNat (↑b.n : Int) = b.n ∧ ∀ (i : Nat), i < Int.toNat (↑b.n : Int) → [SV.int .i64 (0 : Int)] = [SV.int .i64 (bif decide (i < g) then (-1 : Int) else (0 : Int))]) ∧ g ≤ b.n) ∧ ∀ (g : Nat), g ≤
 b.n → (decide ((↑g : Int) < (↑(Int.toNat (↑b.n : Int)) : Int)) = true → ((0 : Int) ≤ (↑g : Int) ∧ (↑g : Int) < (↑b.n : Int)) ∧ Int.toNat (↑g : Int) < b.n ∧ InK .i64 ((↑g : Int) + (1 : Int)) ∧ ∃ (g' : Nat), (↑g : Int) + (1 : Int) = (↑g' : Int) ∧ (↑(Int.toNat (↑b.n : Int)) : Int) = (↑(Int.toNat (↑b.n : Int)) : Int) ∧ nat_lit 0 = nat_lit 0 ∧ false = false ∧
 SV.ref [SV.sl (nat_lit 3) b.n fun (i : Nat) ↦ [SV.int .i64 (b.g i).edge, SV.int .i64 (b.g i).place, SV.int .i64 (b.g i).tone]] (nat_lit 0) = SV.ref [SV.sl (nat_lit 3) b.n fun (i : Nat) ↦ [SV.int .i64 (b.g i).edge, SV.int .i64 (b.g i).place, SV.int .i64 (b.g i).tone]] (nat_lit 0)
 ∧ nat_lit 0 = nat_lit 0 ∧ SV.ref [SV.clo (nat_lit 120) [SV.ref [SV.sl (nat_lit 3) a.n fun (i : Nat) ↦ [SV.int .i64 (a.g i).edge, SV.int .i64 (a.g i).place, SV.int .i64 (a.g i).tone]] (nat_lit 0), SV.ref [SV.sl (nat_lit 3) b.n fun (i : Nat) ↦ [SV.int .i64 (b.g i).edge, SV.int .i64
 (b.g i).place, SV.int .i64 (b.g i).tone]] (nat_lit 0), SV.ref [SV.int .i64 sl] (nat_lit 0)]] (nat_lit 0) = SV.ref [SV.clo (nat_lit 120) [SV.ref [SV.sl (nat_lit 3) a.n fun (i : Nat) ↦ [SV.int .i64 (a.g i).edge, SV.int .i64 (a.g i).place, SV.int .i64 (a.g i).tone]] (nat_lit 0), SV.ref
 [SV.sl (nat_lit 3) b.n fun (i : Nat) ↦ [SV.int .i64 (b.g i).edge, SV.int .i64 (b.g i).place, SV.int .i64 (b.g i).tone]] (nat_lit 0), SV.ref [SV.int .i64 sl] (nat_lit 0)]] (nat_lit 0) ∧ SV.ref [SV.sl (nat_lit 3) a.n fun (i : Nat) ↦ [SV.int .i64 (a.g i).edge, SV.int .i64 (a.g
 i).place, SV.int .i64 (a.g i).tone]] (nat_lit 0) = SV.ref [SV.sl (nat_lit 3) a.n fun (i : Nat) ↦ [SV.int .i64 (a.g i).edge, SV.int .i64 (a.g i).place, SV.int .i64 (a.g i).tone]] (nat_lit 0) ∧ (b.n = b.n ∧ ∀ (i : Nat), i < b.n → setRow (fun (k : Nat) ↦ [SV.int .i64 (bif decide (k < g) then
 (-1 : Int) else (0 : Int))]) (Int.toNat (↑g : Int)) (nat_lit 0) [SV.int .i64 (-1 : Int)] i = [SV.int .i64 (bif decide (i < g') then (-1 : Int) else (0 : Int))]) ∧ (f.n = f.n ∧ ∀ (i : Nat), i < f.n → [SV.int .i64 (f.g i)] = [SV.int .i64 (f.g i)]) ∧ g' ≤ b.n ∧ b.n - g' < b.n - g) ∧ (decide ((↑g : Int) < (↑(Int.toNat
 (↑b.n : Int)) : Int)) = false → (∃ (g_1 : Nat), (0 : Int) = (↑g_1 : Int) ∧ (b.n = b.n ∧ ∀ (i : Nat), i < b.n → [SV.int .i64 (bif decide (i < g) then (-1 : Int) else (0 : Int))] = [SV.int .i64 (L.ow0 f g_1 i)]) ∧ g_1 ≤ f.n) ∧ ∀ (g_1 : Nat), g_1 ≤ f.n → (decide ((↑g_1 : Int) < (↑f.n : Int)) = true → ((0 : Int) ≤ (↑g_1 : Int) ∧ (↑g_1 :
 Int) < (↑f.n : Int)) ∧ Int.toNat (↑g_1 : Int) < f.n ∧ ((0 : Int) ≤ f.g (Int.toNat (↑g_1 : Int)) ∧ f.g (Int.toNat (↑g_1 : Int)) < (↑b.n : Int)) ∧ Int.toNat (f.g (Int.toNat (↑g_1 : Int))) < b.n ∧ InK .i64 ((↑g_1 : Int) + (1 : Int)) ∧ ∃ (g' : Nat), (↑g_1 : Int) + (1 : Int) = (↑g' : Int) ∧ (↑f.n : Int) = (↑f.n : Int) ∧ nat_lit 0 = nat_lit 0 ∧ false = false ∧ SV.ref
 [SV.sl (nat_lit 3) b.n fun (i : Nat) ↦ [SV.int .i64 (b.g i).edge, SV.int .i64 (b.g i).place, SV.int .i64 (b.g i).tone]] (nat_lit 0) = SV.ref [SV.sl (nat_lit 3) b.n fun (i : Nat) ↦ [SV.int .i64 (b.g i).edge, SV.int .i64 (b.g i).place, SV.int .i64 (b.g i).tone]] (nat_lit 0) ∧ nat_lit 0 =
 nat_lit 0 ∧ SV.ref [SV.clo (nat_lit 120) [SV.ref [SV.sl (nat_lit 3) a.n fun (i : Nat) ↦ [SV.int .i64 (a.g i).edge, SV.int .i64 (a.g i).place, SV.int .i64 (a.g i).tone]] (nat_lit 0), SV.ref [SV.sl (nat_lit 3) b.n fun (i : Nat) ↦ [SV.int .i64 (b.g i).edge, SV.int .i64 (b.g i).place,
 SV.int .i64 (b.g i).tone]] (nat_lit 0), SV.ref [SV.int .i64 sl] (nat_lit 0)]] (nat_lit 0) = SV.ref [SV.clo (nat_lit 120) [SV.ref [SV.sl (nat_lit 3) a.n fun (i : Nat) ↦ [SV.int .i64 (a.g i).edge, SV.int .i64 (a.g i).place, SV.int .i64 (a.g i).tone]] (nat_lit 0), SV.ref [SV.sl
 (nat_lit 3) b.n fun (i : Nat) ↦ [SV.int .i64 (b.g i).edge, SV.int .i64 (b.g i).place, SV.int .i64 (b.g i).tone]] (nat_lit 0), SV.ref [SV.int .i64 sl] (nat_lit 0)]] (nat_lit 0) ∧ SV.ref [SV.sl (nat_lit 3) a.n fun (i : Nat) ↦ [SV.int .i64 (a.g i).edge, SV.int .i64 (a.g i).place,
 SV.int .i64 (a.g i).tone]] (nat_lit 0) = SV.ref [SV.sl (nat_lit 3) a.n fun (i : Nat) ↦ [SV.int .i64 (a.g i).edge, SV.int .i64 (a.g i).place, SV.int .i64 (a.g i).tone]] (nat_lit 0) ∧ (b.n = b.n ∧ ∀ (i : Nat), i < b.n → setRow (fun (k : Nat) ↦ [SV.int .i64 (L.ow0 f g_1 k)]) (Int.toNat (f.g (Int.toNat
 (↑g_1 : Int)))) (nat_lit 0) [SV.int .i64 (↑g_1 : Int)] i = [SV.int .i64 (L.ow0 f g' i)]) ∧ (f.n = f.n ∧ ∀ (i : Nat), i < f.n → [SV.int .i64 (f.g i)] = [SV.int .i64 (f.g i)]) ∧ g' ≤ f.n ∧ f.n - g' < f.n - g_1) ∧ (decide ((↑g_1 : Int) < (↑f.n : Int)) = false → (∃ (g : Nat × (Nat → Int)), (↑f.n : Int) = (↑g.1 : Int) ∧ (b.n
 = b.n ∧ ∀ (i : Nat), i < b.n → [SV.int .i64 (L.ow0 f g_1 i)] = [SV.int .i64 (g.2 i)]) ∧ L.pairI a b sl f g.1 g.2) ∧ ∀ (g_2 : Nat × (Nat → Int)), L.pairI a b sl f g_2.1 g_2.2 → (decide ((↑g_2.1 : Int) < (↑a.n : Int)) = true → ((0 : Int) ≤ (↑b.n : Int) ∧ (↑b.n : Int) ≤ (↑b.n : Int) ∧ (↑b.n : Int) * (↑(nat_lit 1) : Int) ≤ (140737488355328 : Int)) ∧ ∃ (t
 : L.Sq L.Mark × L.Sq L.Mark × Int × Nat × (Nat → Bool) × (Nat → Int) × L.Sq Int), (↑g_2.1 : Int) = (↑t.snd.snd.2.1 : Int) ∧ SV.ref [SV.sl (nat_lit 3) b.n fun (i : Nat) ↦ [SV.int .i64 (b.g i).edge, SV.int .i64 (b.g i).place, SV.int .i64 (b.g i).tone]] (nat_lit 0) = SV.ref [SV.sl (3 : Nat) t.2.1.n fun (i : Nat) ↦ [SV.int
 .i64 (t.2.1.g i).edge, SV.int .i64 (t.2.1.g i).place, SV.int .i64 (t.2.1.g i).tone]] (0 : Nat) ∧ SV.ref [SV.clo (nat_lit 120) [SV.ref [SV.sl (nat_lit 3) a.n fun (i : Nat) ↦ [SV.int .i64 (a.g i).edge, SV.int .i64 (a.g i).place, SV.int .i64 (a.g i).tone]] (nat_lit 0), SV.ref
 [SV.sl (nat_lit 3) b.n fun (i : Nat) ↦ [SV.int .i64 (b.g i).edge, SV.int .i64 (b.g i).place, SV.int .i64 (b.g i).tone]] (nat_lit 0), SV.ref [SV.int .i64 sl] (nat_lit 0)]] (nat_lit 0) = SV.ref [SV.clo (120 : Nat) [SV.ref [SV.sl (3 : Nat) t.1.n fun (i : Nat) ↦ [SV.int .i64 (t.1.g
 i).edge, SV.int .i64 (t.1.g i).place, SV.int .i64 (t.1.g i).tone]] (0 : Nat), SV.ref [SV.sl (3 : Nat) t.2.1.n fun (i : Nat) ↦ [SV.int .i64 (t.2.1.g i).edge, SV.int .i64 (t.2.1.g i).place, SV.int .i64 (t.2.1.g i).tone]] (0 : Nat), SV.ref [SV.int .i64 t.snd.2.1] (0 : Nat)]] (0 : Nat) ∧
 nat_lit 0 = (0 : Nat) ∧ nat_lit 0 = (0 : Nat) ∧ nat_lit 0 = (0 : Nat) ∧ nat_lit 0 = (0 : Nat) ∧ (Int.toNat (↑b.n : Int) = t.2.1.n ∧ ∀ (i : Nat), i < Int.toNat (↑b.n : Int) → [SV.bool false] = [SV.bool (t.snd.snd.snd.2.1 i)]) ∧ (b.n = t.2.1.n ∧ ∀ (i : Nat), i < b.n → [SV.int .i64 (g_2.2 i)] = [SV.int .i64 (t.snd.snd.snd.snd.2.1 i)]) ∧ (f.n =
 t.snd.snd.snd.snd.2.2.n ∧ ∀ (i : Nat), i < f.n → [SV.int .i64 (f.g i)] = [SV.int .i64 (t.snd.snd.snd.snd.2.2.g i)]) ∧ EV.cl (nat_lit 122) [EV.p (SV.ref [SV.sl (nat_lit 3) b.n fun (i : Nat) ↦ [SV.int .i64 (b.g i).edge, SV.int .i64 (b.g i).place, SV.int .i64 (b.g i).tone]] (nat_lit 0)), EV.p
 (SV.ref [SV.clo (nat_lit 120) [SV.ref [SV.sl (nat_lit 3) a.n fun (i : Nat) ↦ [SV.int .i64 (a.g i).edge, SV.int .i64 (a.g i).place, SV.int .i64 (a.g i).tone]] (nat_lit 0), SV.ref [SV.sl (nat_lit 3) b.n fun (i : Nat) ↦ [SV.int .i64 (b.g i).edge, SV.int .i64 (b.g i).place, SV.int
 .i64 (b.g i).tone]] (nat_lit 0), SV.ref [SV.int .i64 sl] (nat_lit 0)]] (nat_lit 0)), EV.loc (nat_lit 9) (nat_lit 0), EV.loc (nat_lit 5) (nat_lit 0), EV.loc (nat_lit 1009) (nat_lit 0), EV.loc (nat_lit 10) (nat_lit 0)] = EV.cl (122 : Nat) [EV.p (SV.ref [SV.sl (nat_lit 3) t.2.1.n fun (i : Nat) ↦ [SV.int
 .i64 (t.2.1.g i).edge, SV.int .i64 (t.2.1.g i).place, SV.int .i64 (t.2.1.g i).tone]] (nat_lit 0)), EV.p (SV.ref [SV.clo (nat_lit 120) [SV.ref [SV.sl (nat_lit 3) t.1.n fun (i : Nat) ↦ [SV.int .i64 (t.1.g i).edge, SV.int .i64 (t.1.g i).place, SV.int .i64 (t.1.g i).tone]] (nat_lit
 0), SV.ref [SV.sl (nat_lit 3) t.2.1.n fun (i : Nat) ↦ [SV.int .i64 (t.2.1.g i).edge, SV.int .i64 (t.2.1.g i).place, SV.int .i64 (t.2.1.g i).tone]] (nat_lit 0), SV.ref [SV.int .i64 t.snd.2.1] (nat_lit 0)]] (nat_lit 0)), EV.loc (nat_lit 1009 - (1000 : Nat)) (nat_lit 0), EV.loc (nat_lit 1005 - (1000 : Nat))
 (nat_lit 0), EV.loc (nat_lit 2009 - (1000 : Nat)) (nat_lit 0), EV.loc (nat_lit 1010 - (1000 : Nat)) (nat_lit 0)] ∧ L.placeP t.1 t.2.1 t.snd.2.1 t.snd.snd.2.1 t.snd.snd.snd.2.1 t.snd.snd.snd.snd.2.1 t.snd.snd.snd.snd.2.2 ∧ ∀ (u : Bool × (Nat → Bool) × (Nat → Int)), L.placeQ t.1 t.2.1 t.snd.2.1 t.snd.snd.2.1 t.snd.snd.snd.2.1 t.snd.snd.snd.snd.2.1 t.snd.snd.snd.snd.2.2 u.1 u.2.1 u.2.2 →
 ((!u.1) = true → ∃ (u : Bool), false = u ∧ (t.snd.snd.snd.snd.2.2.n = f.n ∧ ∀ (i : Nat), i < t.snd.snd.snd.snd.2.2.n → [SV.int .i64 (t.snd.snd.snd.snd.2.2.g i)] = [SV.int .i64 (f.g i)]) ∧ L.pairQ a b sl f u) ∧ ((!u.1) = false → InK .i64 ((↑g_2.1 : Int) + (1 : Int)) ∧ ∃ (g' : Nat × (Nat → Int)), (↑g_2.1 : Int) + (1 : Int) = (↑g'.1 :
 Int) ∧ nat_lit 0 = nat_lit 0 ∧ nat_lit 0 = nat_lit 0 ∧ nat_lit 0 = nat_lit 0 ∧ false = false ∧ SV.ref [SV.sl (nat_lit 3) b.n fun (i : Nat) ↦ [SV.int .i64 (b.g i).edge, SV.int .i64 (b.g i).place, SV.int .i64 (b.g i).tone]] (nat_lit 0) = SV.ref [SV.sl (nat_lit 3) b.n fun (i : Nat) ↦ [SV.int .i64 (b.g
 i).edge, SV.int .i64 (b.g i).place, SV.int .i64 (b.g i).tone]] (nat_lit 0) ∧ nat_lit 0 = nat_lit 0 ∧ SV.ref [SV.clo (nat_lit 120) [SV.ref [SV.sl (nat_lit 3) a.n fun (i : Nat) ↦ [SV.int .i64 (a.g i).edge, SV.int .i64 (a.g i).place, SV.int .i64 (a.g i).tone]] (nat_lit 0), SV.ref [SV.sl
 (nat_lit 3) b.n fun (i : Nat) ↦ [SV.int .i64 (b.g i).edge, SV.int .i64 (b.g i).place, SV.int .i64 (b.g i).tone]] (nat_lit 0), SV.ref [SV.int .i64 sl] (nat_lit 0)]] (nat_lit 0) = SV.ref [SV.clo (nat_lit 120) [SV.ref [SV.sl (nat_lit 3) a.n fun (i : Nat) ↦ [SV.int .i64 (a.g i).edge,
 SV.int .i64 (a.g i).place, SV.int .i64 (a.g i).tone]] (nat_lit 0), SV.ref [SV.sl (nat_lit 3) b.n fun (i : Nat) ↦ [SV.int .i64 (b.g i).edge, SV.int .i64 (b.g i).place, SV.int .i64 (b.g i).tone]] (nat_lit 0), SV.ref [SV.int .i64 sl] (nat_lit 0)]] (nat_lit 0) ∧ SV.ref [SV.sl
 (nat_lit 3) a.n fun (i : Nat) ↦ [SV.int .i64 (a.g i).edge, SV.int .i64 (a.g i).place, SV.int .i64 (a.g i).tone]] (nat_lit 0) = SV.ref [SV.sl (nat_lit 3) a.n fun (i : Nat) ↦ [SV.int .i64 (a.g i).edge, SV.int .i64 (a.g i).place, SV.int .i64 (a.g i).tone]] (nat_lit 0) ∧ (t.2.1.n = b.n ∧ ∀ (i :
 Nat), i < t.2.1.n → [SV.int .i64 (u.2.2 i)] = [SV.int .i64 (g'.2 i)]) ∧ EV.cl (nat_lit 122) [EV.p (SV.ref [SV.sl (nat_lit 3) t.2.1.n fun (i : Nat) ↦ [SV.int .i64 (t.2.1.g i).edge, SV.int .i64 (t.2.1.g i).place, SV.int .i64 (t.2.1.g i).tone]] (nat_lit 0)), EV.p (SV.ref [SV.clo
 (nat_lit 120) [SV.ref [SV.sl (nat_lit 3) t.1.n fun (i : Nat) ↦ [SV.int .i64 (t.1.g i).edge, SV.int .i64 (t.1.g i).place, SV.int .i64 (t.1.g i).tone]] (nat_lit 0), SV.ref [SV.sl (nat_lit 3) t.2.1.n fun (i : Nat) ↦ [SV.int .i64 (t.2.1.g i).edge, SV.int .i64 (t.2.1.g i).place, SV.int
 .i64 (t.2.1.g i).tone]] (nat_lit 0), SV.ref [SV.int .i64 t.snd.2.1] (nat_lit 0)]] (nat_lit 0)), EV.loc ((1009 : Nat) - (1000 : Nat)) (nat_lit 0), EV.loc ((1005 : Nat) - (1000 : Nat)) (nat_lit 0), EV.loc ((2009 : Nat) - (1000 : Nat)) (nat_lit 0), EV.loc ((1010 : Nat) - (1000 : Nat)) (nat_lit 0)] = EV.cl (nat_lit 122) [EV.p
 (SV.ref [SV.sl (nat_lit 3) b.n fun (i : Nat) ↦ [SV.int .i64 (b.g i).edge, SV.int .i64 (b.g i).place, SV.int .i64 (b.g i).tone]] (nat_lit 0)), EV.p (SV.ref [SV.clo (nat_lit 120) [SV.ref [SV.sl (nat_lit 3) a.n fun (i : Nat) ↦ [SV.int .i64 (a.g i).edge, SV.int .i64 (a.g i).place,
 SV.int .i64 (a.g i).tone]] (nat_lit 0), SV.ref [SV.sl (nat_lit 3) b.n fun (i : Nat) ↦ [SV.int .i64 (b.g i).edge, SV.int .i64 (b.g i).place, SV.int .i64 (b.g i).tone]] (nat_lit 0), SV.ref [SV.int .i64 sl] (nat_lit 0)]] (nat_lit 0)), EV.loc (nat_lit 9) (nat_lit 0), EV.loc (nat_lit 5)
 (nat_lit 0), EV.loc (nat_lit 1009) (nat_lit 0), EV.loc (nat_lit 10) (nat_lit 0)] ∧ (t.snd.snd.snd.snd.2.2.n = f.n ∧ ∀ (i : Nat), i < t.snd.snd.snd.snd.2.2.n → [SV.int .i64 (t.snd.snd.snd.snd.2.2.g i)] = [SV.int .i64 (f.g i)]) ∧ L.pairI a b sl f g'.1 g'.2 ∧ b.n - g'.1 < b.n - g_2.1)) ∧ (decide ((↑g_2.1 : Int) < (↑a.n : Int)) = false → ∃ (u
 : Bool), true = u ∧ (f.n = f.n ∧ ∀ (i : Nat), i < f.n → [SV.int .i64 (f.g i)] = [SV.int .i64 (f.g i)]) ∧ L.pairQ a b sl f u)))) (by kernel_rfl) (by
    have hp : L.pairP a b sl f := hp
    obtain ⟨⟨hab, hn, ha, hb, s0, s1⟩, hfn, hf1, hf2⟩ := id hp
    have hown : ∀ (o : Nat → Int) (k : Nat) (v : Int) q, setRow (fun (k : Nat) => [SV.int .i64 (o k)]) k 0 [SV.int .i64 v] q = [SV.int .i64 (L.own o k v q)] := fun o k v q => by
      unfold setRow
      by_cases e : q = k
      · subst e; simp [fillAt, own_self]
      · simp [e, own_ne e]
    refine ⟨⟨by omega, by omega, show (b.n : Int) * 8 ≤ 140737488355328 by omega⟩, ⟨(0 : Nat), rfl, ⟨rfl, fun i hi => rfl⟩, Nat.zero_le _⟩, fun g hg => ⟨fun hlt => ?_, fun hge => ?_⟩⟩
    · have hb1 : (g : Int) < (b.n : Int) := by simpa using hlt
      have e0 : ((g : Int)).toNat = g := by omega
      rw [e0]
      refine ⟨by omega, by omega, InK.of (by omega) (by omega), g + 1, by omega, rfl, rfl, rfl, rfl, rfl, rfl, rfl, ⟨rfl, fun i hi => ?_⟩, ⟨rfl, fun _ _ => rfl⟩, by omega, by omega⟩
      unfold setRow
      by_cases hik : i = g
      · subst hik
        simp [fillAt]
      · have e : decide (i < g + 1) = decide (i < g) := by
          by_cases h' : i < g <;> simp [h'] <;> omega
        simp [hik, e]
    · have hb1 : ¬ (g : Int) < (b.n : Int) := by simpa using hge
      refine ⟨⟨(0 : Nat), rfl, ⟨rfl, fun i hi => ?_⟩, Nat.zero_le _⟩, fun g1 hg1 => ⟨fun hlt => ?_, fun hge => ?_⟩⟩
      · have : i < g := by omega
        simp [this, L.ow0]
      · have hb2 : (g1 : Int) < (f.n : Int) := by simpa using hlt
        have e0 : ((g1 : Int)).toNat = g1 := by omega
        rw [e0]
        have h1 := hf1 g1 (by omega)
        exact ⟨by omega, by omega, h1, by omega, InK.of (by omega) (by omega), g1 + 1, by omega, rfl, rfl, rfl, rfl, rfl, rfl, rfl, ⟨rfl, fun i hi => hown (L.ow0 f g1) _ _ i⟩, ⟨rfl, fun _ _ => rfl⟩, by omega, by omega⟩
      · have hb2 : ¬ (g1 : Int) < (f.n : Int) := by simpa using hge
        have e1 : g1 = f.n := by omega
        subst e1
        refine ⟨⟨(f.n, L.ow0 f f.n), rfl, ⟨rfl, fun i hi => rfl⟩, pair_0 hp⟩, ?_⟩
        rintro ⟨i, ow⟩ hI
        have hI : L.pairI a b sl f i ow := hI
        refine ⟨fun hlt => ?_, fun hge => ?_⟩
        · have hi : (i : Int) < (a.n : Int) := by simpa using hlt
          have hi' : i < b.n := by omega
          refine ⟨⟨by omega, by omega, show (b.n : Int) * 1 ≤ 140737488355328 by omega⟩, (a, b, sl, i, L.none1, ow, f), rfl, rfl, rfl, rfl, rfl, rfl, rfl, ⟨rfl, fun _ _ => rfl⟩, ⟨rfl, fun _ _ => rfl⟩, ⟨rfl, fun _ _ => rfl⟩, rfl, pair_place hp hI hi', ?_⟩
          rintro ⟨r, s2, ow2⟩ hQ
          refine ⟨fun hr => ?_, fun hr => ?_⟩
          · have hr : r = false := by simpa using hr
            subst hr
            exact ⟨false, rfl, ⟨rfl, fun _ _ => rfl⟩, ⟨fun h => (by cases h), fun hE => absurd hE (pair_no hp hI hi' hQ)⟩⟩
          · have hr : r = true := by simpa using hr
            subst hr
            exact ⟨InK.of (by simp; omega) (by simp; omega), (i + 1, ow2), by simp, rfl, rfl, rfl, rfl, rfl, rfl, rfl, rfl, ⟨rfl, fun _ _ => rfl⟩, rfl, ⟨rfl, fun _ _ => rfl⟩, pair_yes hp hI hi' hQ, by simp; omega⟩
        · have hi : ¬ (i : Int) < (a.n : Int) := by simpa using hge
          have e : i = b.n := by have := hI.2.1; omega
          rw [e] at hI
          exact ⟨true, rfl, ⟨rfl, fun _ _ => rfl⟩, ⟨fun _ => pair_end hp hI, fun _ => rfl⟩⟩)
theorem g_pair_en : Enters Tryz.prog 121 := fun args w => by kernel_rfl
theorem g_pair_tok : TrOk Tryz.prog 121 g_pair_tr := tr_ok (ks := [1009, 1020]) (n := 4) Tryz.func121 (c := bodyOf Tryz.f121) (by kernel_rfl) mixed ⟨fun t => rfl, fun t => rfl, fun t u => rfl, fun t u => rfl, fun t u => rfl, by kernel_rfl⟩ (fun ⟨a, b, sl, f⟩ hp => ⟨_, g_pair_vc a b sl f hp, ⟨show SpecsL Tryz.prog _ from SpecsL.nil, rfl, ⟨show ItersL Tryz.prog _ from ItersL.nil, (show TrsL Tryz.prog _ from (TrsL.cons g_place_tok g_place_en TrsL.nil))⟩⟩⟩)
end Go.Proofs.YtooapgllahonaaaGreat

namespace Go.Proofs.YtooapgllahonaaaGreat
open Go.SE Go.RowKit
set_option maxRecDepth 100000
set_option maxHeartbeats 4000000
set_option linter.unusedVariables false
attribute [local irreducible] vc

def L.snoc (f : L.Sq Int) (v : Int) : L.Sq Int := ⟨f.n + 1, fun q => if q < f.n then f.g q else v⟩
def L.cutS (f : L.Sq Int) (j : Nat) : L.Sq Int := ⟨j, f.g⟩
def L.nil : L.Sq Int := ⟨0, fun _ => 0⟩
def L.runI (a b : L.Sq L.Mark) (sl : Int) (f : L.Sq Int) : Prop := L.pairP a b sl f ∧ (∀ j, j < f.n → L.near a b sl j (f.g j).toNat = true) ∧ (f.n = 0 ∨ L.Ext a b sl f) ∧
  ∀ j k, j < f.n → k < (f.g j).toNat → L.near a b sl j k = true → ¬ L.Ext a b sl (L.snoc (L.cutS f j) (k : Int))
def L.runK (a b : L.Sq L.Mark) (sl : Int) (f : L.Sq Int) (k : Nat) : Prop := L.runI a b sl f ∧ f.n < b.n ∧ k ≤ b.n ∧ ∀ k', k' < k → L.near a b sl f.n k' = true → ¬ L.Ext a b sl (L.snoc f (k' : Int))
def L.runBad (a b : L.Sq L.Mark) (sl : Int) : Bool := bif (bif !L.oneEdge a then true else !L.oneEdge b) then true else !L.within sl 0 16
def L.runQ (a b : L.Sq L.Mark) (sl : Int) (r : L.Sq Int) (e : Int) : Prop :=
  (L.runBad a b sl = true ∧ r.n = 0 ∧ e = 1) ∨ (L.runBad a b sl = false ∧ a.n ≠ b.n ∧ r.n = 0 ∧ e = 31) ∨
  (L.runBad a b sl = false ∧ L.okMarks a b sl ∧ ((¬ L.Ext a b sl L.nil ∧ r.n = 0 ∧ e = 31) ∨ (L.runI a b sl r ∧ r.n = b.n ∧ e = 0)))
theorem oneEdge_place {l : L.Sq L.Mark} (h : L.oneEdge l = true) : ∀ i, i < l.n → 0 ≤ (l.g i).place ∧ (l.g i).place ≤ 16 := fun i hi => by
  unfold L.oneEdge at h
  have h2 : L.anyB l.n (fun i => L.badMark l (l.g i)) = false := by
    cases hx : L.anyB l.n (fun i => L.badMark l (l.g i)) with
    | false => rfl
    | true => rw [hx] at h; simp at h
  have h3 : L.badMark l (l.g i) = false := by
    cases hx : L.badMark l (l.g i) with
    | false => rfl
    | true => rw [anyB_iff.2 ⟨i, hi, hx⟩] at h2; cases h2
  unfold L.badMark at h3
  cases h4 : L.within (l.g i).place 0 16 with
  | false => rw [h4] at h3; simp at h3
  | true => exact within_iff.1 h4
theorem run_ok {a b : L.Sq L.Mark} {sl : Int} (h : L.runBad a b sl = false) (hab : a.n = b.n) (hn : b.n ≤ 1000) : L.okMarks a b sl := by
  unfold L.runBad at h
  cases h1 : L.oneEdge a with
  | false => rw [h1] at h; simp at h
  | true => cases h2 : L.oneEdge b with
    | false => rw [h1, h2] at h; simp at h
    | true =>
      rw [h1, h2] at h
      have h3 : L.within sl 0 16 = true := by simpa using h
      obtain ⟨s0, s1⟩ := within_iff.1 h3
      exact ⟨hab, hn, oneEdge_place h1, oneEdge_place h2, s0, s1⟩
section
variable {a b : L.Sq L.Mark} {sl : Int} {f : L.Sq Int} {k : Nat}
theorem snoc_lt {v : Int} {q : Nat} (h : q < f.n) : (L.snoc f v).g q = f.g q := by simp [L.snoc, h]
theorem snoc_eq {v : Int} : (L.snoc f v).g f.n = v := by simp [L.snoc]
theorem run_0 (h : L.okMarks a b sl) : L.runI a b sl L.nil := ⟨⟨h, Nat.zero_le _, fun j hj => absurd hj (Nat.not_lt_zero _), fun j j' hj => absurd hj (Nat.not_lt_zero _)⟩, fun j hj => absurd hj (Nat.not_lt_zero _), .inl rfl, fun j k hj => absurd hj (Nat.not_lt_zero _)⟩
theorem pair_snoc (h : L.pairP a b sl f) (hf : f.n < b.n) (hk : k < b.n) (hno : L.anyB f.n (fun i => decide ((k : Int) = f.g i)) = false) : L.pairP a b sl (L.snoc f (k : Int)) := by
  obtain ⟨h1, h2, h3, h4⟩ := h
  have hni : ∀ j, j < f.n → f.g j ≠ (k : Int) := fun j hj e => by
    rw [anyB_iff.2 ⟨j, hj, by simp [e]⟩] at hno; cases hno
  refine ⟨h1, hf, fun j hj => ?_, fun j j' hj hj' e => ?_⟩
  · by_cases hjn : j < f.n
    · rw [snoc_lt hjn]; exact h3 j hjn
    · have : j = f.n := by have : j < f.n + 1 := hj; omega
      subst this; rw [snoc_eq]; omega
  · have hj : j < f.n + 1 := hj
    have hj' : j' < f.n + 1 := hj'
    by_cases a1 : j < f.n <;> by_cases a2 : j' < f.n
    · rw [snoc_lt a1, snoc_lt a2] at e; exact h4 j j' a1 a2 e
    · have : j' = f.n := by omega
      subst this; rw [snoc_lt a1, snoc_eq] at e; exact absurd e (hni j a1)
    · have : j = f.n := by omega
      subst this; rw [snoc_lt a2, snoc_eq] at e; exact absurd e.symm (hni j' a2)
    · omega
theorem ext_in (hf : f.n < b.n) (h : L.pairP a b sl f) (hin : L.anyB f.n (fun i => decide ((k : Int) = f.g i)) = true) : ¬ L.Ext a b sl (L.snoc f (k : Int)) := by
  rintro ⟨m, m1, m2, m3, _⟩
  obtain ⟨j, hj, e⟩ := anyB_iff.1 hin
  have e : (k : Int) = f.g j := by simpa using e
  have e1 := m3 j (by show j < f.n + 1; omega)
  have e2 := m3 f.n (by show f.n < f.n + 1; omega)
  rw [snoc_lt hj] at e1
  rw [snoc_eq] at e2
  have := m2 j f.n (by omega) hf (by omega)
  omega
theorem run_k0 (h : L.runI a b sl f) (hf : f.n < b.n) : L.runK a b sl f 0 := ⟨h, hf, Nat.zero_le _, fun k hk => absurd hk (Nat.not_lt_zero _)⟩
theorem run_next (h : L.runK a b sl f k) (hk : k < b.n) (hne : L.near a b sl f.n k = true → ¬ L.Ext a b sl (L.snoc f (k : Int))) : L.runK a b sl f (k + 1) :=
  ⟨h.1, h.2.1, hk, fun k' hk' hn => by
    rcases Nat.lt_succ_iff_lt_or_eq.1 hk' with h' | rfl
    · exact h.2.2.2 k' h' hn
    · exact hne hn⟩
theorem run_snoc (h : L.runK a b sl f k) (hk : k < b.n) (hne : L.near a b sl f.n k = true) (hno : L.anyB f.n (fun i => decide ((k : Int) = f.g i)) = false) (hE : L.Ext a b sl (L.snoc f (k : Int))) : L.runI a b sl (L.snoc f (k : Int)) := by
  obtain ⟨⟨h1, h2, h3, h4⟩, hf, _, h5⟩ := h
  refine ⟨pair_snoc h1 hf hk hno, fun j hj => ?_, .inr hE, fun j k' hj hk' hn => ?_⟩
  · by_cases hjn : j < f.n
    · rw [snoc_lt hjn]; exact h2 j hjn
    · have : j = f.n := by have : j < f.n + 1 := hj; omega
      subst this; rw [snoc_eq, Int.toNat_natCast]; exact hne
  · by_cases hjn : j < f.n
    · rw [snoc_lt hjn] at hk'
      have e : L.snoc (L.cutS (L.snoc f (k : Int)) j) (k' : Int) = L.snoc (L.cutS f j) (k' : Int) := by
        unfold L.snoc L.cutS
        congr 1
        funext q
        by_cases hq : q < j
        · simp [hq, show q < f.n by omega]
        · simp [hq]
      rw [e]; exact h4 j k' hjn hk' hn
    · have : j = f.n := by have : j < f.n + 1 := hj; omega
      subst this
      rw [snoc_eq, Int.toNat_natCast] at hk'
      have e : L.snoc (L.cutS (L.snoc f (k : Int)) f.n) (k' : Int) = L.snoc f (k' : Int) := by
        unfold L.snoc L.cutS
        congr 1
        funext q
        by_cases hq : q < f.n <;> simp [hq]
      rw [e]; exact h5 k' hk' hn
theorem run_none (h : L.runK a b sl f b.n) : ¬ L.Ext a b sl L.nil := by
  obtain ⟨⟨h1, h2, h3, h4⟩, hf, _, h5⟩ := h
  intro hE
  have hE : L.Ext a b sl f := by
    rcases h3 with h3 | h3
    · obtain ⟨m, m1, m2, m3, m4⟩ := hE
      exact ⟨m, m1, m2, fun j hj => by omega, fun j _ hj => m4 j (Nat.zero_le _) hj⟩
    · exact h3
  obtain ⟨m, m1, m2, m3, m4⟩ := hE
  refine h5 (m f.n) (m1 _ hf) (m4 _ (Nat.le_refl _) hf) ⟨m, m1, m2, fun j hj => ?_, fun j hj hj' => m4 j (by have : f.n + 1 ≤ j := hj; omega) hj'⟩
  by_cases hjn : j < f.n
  · rw [snoc_lt hjn]; exact m3 j hjn
  · have : j = f.n := by have : j < f.n + 1 := hj; omega
    subst this; rw [snoc_eq, Int.toNat_natCast]
end
def g_RunOn_p (a : (L.Sq L.Mark)) (b : (L.Sq L.Mark)) (sl : Int) : Prop := a.n ≤ 1000 ∧ b.n ≤ 1000
def g_RunOn_q (a : (L.Sq L.Mark)) (b : (L.Sq L.Mark)) (sl : Int) : (L.Sq Int × Int) → Prop := fun t => L.runQ a b sl t.1 t.2
def g_RunOn_r (a : (L.Sq L.Mark)) (b : (L.Sq L.Mark)) (sl : Int) : (L.Sq Int × Int) → SV := fun t => .tup [.sl 1 t.1.n (fun j => [.int .i64 (t.1.g j)]), .int .i64 t.2]
def g_RunOn_s : List EV → Option (Prop × ((L.Sq Int × Int) → Prop) × ((L.Sq Int × Int) → SV))
  | [.p (.sl 3 a_n a_g), .p (.sl 3 b_n b_g), .p (.int .i64 sl)] => some ((∀ i, i < a_n → a_g i = [.int .i64 ((ofMark (a_g i)).edge), .int .i64 ((ofMark (a_g i)).place), .int .i64 ((ofMark (a_g i)).tone)]) ∧ (∀ i, i < b_n → b_g i = [.int .i64 ((ofMark (b_g i)).edge), .int .i64 ((ofMark (b_g i)).place), .int .i64 ((ofMark (b_g i)).tone)]) ∧ g_RunOn_p (⟨a_n, fun i => ofMark (a_g i)⟩ : (L.Sq L.Mark)) (⟨b_n, fun i => ofMark (b_g i)⟩ : (L.Sq L.Mark)) sl, g_RunOn_q (⟨a_n, fun i => ofMark (a_g i)⟩ : (L.Sq L.Mark)) (⟨b_n, fun i => ofMark (b_g i)⟩ : (L.Sq L.Mark)) sl, g_RunOn_r (⟨a_n, fun i => ofMark (a_g i)⟩ : (L.Sq L.Mark)) (⟨b_n, fun i => ofMark (b_g i)⟩ : (L.Sq L.Mark)) sl)
  | _ => none
abbrev g_RunOn_S : SE.Spec := (specR (L.Sq Int × Int) (L.nil, 0) g_RunOn_s)
def g_RunOn_C : Cfg := { muts := [], frz := lookN [(6, [8])], specs := lookS [(119, g_oneEdge_S), (105, g_within_S), (120, g_near_S), (123, s_conI_S)], loops := fun _ => none, iters := lookI [], rfs := lookR [], nils := lookM [(7, [(9, 20, 3, 1)])], trs := lookT [(121, g_pair_tr)], ren := fun k => k - 1000, cuts := [65] }
theorem g_RunOn_vc (a : (L.Sq L.Mark)) (b : (L.Sq L.Mark)) (sl : Int) (hp : g_RunOn_p a b sl) : vc Tryz.prog ({ g_RunOn_C with loops := lookL [(9, { T := L.Sq Int, keep := [3, 4, 5, 6, 7, 8, 9, 10, 35], keepO := [], chg := fun f => [(36, .p (.int .i64 (f.n : Int)))], own := fun f => [(9, .blk 57 [.row 20]), (20, .row 3 1 f.n (fun j => [.int .i64 (f.g j)]))], inv := fun f => L.runI a b sl f, mu := fun f => b.n - f.n }), (13, { T := L.Sq Int × Nat, keep := [3, 4, 5, 6, 7, 8, 9, 10, 11, 35, 36, 40], keepO := [], tie := fun g => [(11, .int .i64 (g.1.n : Int)), (36, .int .i64 (g.1.n : Int))], chg := fun g => [(41, .p (.int .i64 (g.2 : Int))), (12, .p (.bool false))], own := fun g => [(9, .blk 57 [.row 20]), (20, .row 3 1 g.1.n (fun j => [.int .i64 (g.1.g j)]))], inv := fun g => L.runK a b sl g.1 g.2, mu := fun g => b.n - g.2 })], rfs := lookR [] }) (bodyOf Tryz.f59) (st0 Tryz.f59 [.p (.sl 3 a.n (fun i => [.int .i64 ((a.g i).edge), .int .i64 ((a.g i).place), .int .i64 ((a.g i).tone)])), .p (.sl 3 b.n (fun i => [.int .i64 ((b.g i).edge), .int .i64 ((b.g i).place), .int .i64 ((b.g i).tone)])), .p (.int .i64 sl)]) (retRel Tryz.prog Tryz.f59 ((L.Sq Int × Int)) (g_RunOn_q a b sl) (g_RunOn_r a b sl)) :=
  @Eq.mpr _ (((∀ (i : Nat), i < a.n → [SV.int .i64 (a.g i).edge, SV.int .i64 (a.g i).place, SV.int .i64 (a.g i).tone] = [SV.int .i64 (a.g i).edge, SV.int .i64 (a.g i).place, SV.int .i64 (a.g i).tone]) ∧ a.n ≤ (1000000 : Nat)) ∧ ((!!L.oneEdge (L.Sq.mk a.n fun (i : Nat) ↦ a.g i)) = true → (∀ (i : Nat), i < b.n →
 [SV.int .i64 (b.g i).edge, SV.int .i64 (b.g i).place, SV.int .i64 (b.g i).tone] = [SV.int .i64 (b.g i).edge, SV.int .i64 (b.g i).place, SV.int .i64 (b.g i).tone]) ∧ b.n ≤ (1000000 : Nat)) ∧ ((!bif !L.oneEdge (L.Sq.mk a.n fun (i : Nat) ↦ a.g i) then true else !L.oneEdge (L.Sq.mk b.n fun (i : Nat) ↦
 b.g i)) = true → True) ∧ ((bif bif !L.oneEdge (L.Sq.mk a.n fun (i : Nat) ↦ a.g i) then true else !L.oneEdge (L.Sq.mk b.n fun (i : Nat) ↦ b.g i) then true else !L.within sl (0 : Int) (16 : Int)) = true → ∃ (t : L.Sq Int × Int), t.1.n = (0 : Nat) ∧ (1 : Int) = t.2 ∧ L.runQ a b sl t.1 t.2) ∧ ((bif bif !L.oneEdge (L.Sq.mk a.n fun (i : Nat) ↦ a.g i) then true else !L.oneEdge
 (L.Sq.mk b.n fun (i : Nat) ↦ b.g i) then true else !L.within sl (0 : Int) (16 : Int)) = false → ((!decide ((↑a.n : Int) = (↑b.n : Int))) = true → ∃ (t : L.Sq Int × Int), t.1.n = (0 : Nat) ∧ (31 : Int) = t.2 ∧ L.runQ a b sl t.1 t.2) ∧ ((!decide ((↑a.n : Int) = (↑b.n : Int))) = false → (∃ (g : L.Sq Int), (0 : Int) = (↑g.n : Int) ∧ (nat_lit 0 = g.n ∧ ∀ (i :
 Nat), i < nat_lit 0 → [] = [SV.int .i64 (g.g i)]) ∧ L.runI a b sl g) ∧ ∀ (g : L.Sq Int), L.runI a b sl g → (decide ((↑g.n : Int) < (↑a.n : Int)) = true → (∃ (g_1 : L.Sq Int × Nat), (0 : Int) = (↑g_1.2 : Int) ∧ false = false ∧ (g.n = g_1.1.n ∧ ∀ (i : Nat), i < g.n → [SV.int .i64 (g.g i)] = [SV.int .i64 (g_1.1.g i)]) ∧ (↑g.n :
 Int) = (↑g_1.1.n : Int) ∧ (↑g.n : Int) = (↑g_1.1.n : Int) ∧ L.runK a b sl g_1.1 g_1.2) ∧ ∀ (g_1 : L.Sq Int × Nat), (↑g.n : Int) = (↑g_1.1.n : Int) ∧ (↑g.n : Int) = (↑g_1.1.n : Int) ∧ L.runK a b sl g_1.1 g_1.2 → (decide ((↑g_1.2 : Int) < (↑b.n : Int)) = true → ((∀ (i : Nat), i < a.n → [SV.int .i64 (a.g i).edge, SV.int .i64 (a.g i).place, SV.int
 .i64 (a.g i).tone] = [SV.int .i64 (a.g i).edge, SV.int .i64 (a.g i).place, SV.int .i64 (a.g i).tone]) ∧ (∀ (i : Nat), i < b.n → [SV.int .i64 (b.g i).edge, SV.int .i64 (b.g i).place, SV.int .i64 (b.g i).tone] = [SV.int .i64 (b.g i).edge, SV.int .i64 (b.g
 i).place, SV.int .i64 (b.g i).tone]) ∧ L.okMarks (L.Sq.mk a.n fun (i : Nat) ↦ a.g i) (L.Sq.mk b.n fun (i : Nat) ↦ b.g i) sl ∧ (0 : Int) ≤ (↑g.n : Int) ∧ (↑g.n : Int) < (↑a.n : Int) ∧ (0 : Int) ≤ (↑g_1.2 : Int) ∧ (↑g_1.2 : Int) < (↑b.n : Int)) ∧ ((!!L.near (L.Sq.mk a.n fun (i : Nat) ↦ a.g i) (L.Sq.mk b.n fun (i : Nat) ↦ b.g i) sl (Int.toNat (↑g.n : Int)) (Int.toNat (↑g_1.2 : Int)))
 = true → (∀ (i : Nat), i < g_1.1.n → [SV.int .i64 (g_1.1.g i)] = [SV.int .i64 (g_1.1.g i)]) ∧ g_1.1.n ≤ (1000000 : Nat)) ∧ ((bif !L.near (L.Sq.mk a.n fun (i : Nat) ↦ a.g i) (L.Sq.mk b.n fun (i : Nat) ↦ b.g i) sl (Int.toNat (↑g.n : Int)) (Int.toNat (↑g_1.2 : Int)) then true else L.anyB g_1.1.n fun (i : Nat) ↦ decide ((↑g_1.2 : Int) = g_1.1.g i)) =
 true → InK .i64 ((↑g_1.2 : Int) + (1 : Int)) ∧ ∃ (g' : L.Sq Int × Nat), (↑g_1.2 : Int) + (1 : Int) = (↑g'.2 : Int) ∧ false = false ∧ (↑b.n : Int) = (↑b.n : Int) ∧ (↑g.n : Int) = (↑g.n : Int) ∧ (↑g.n : Int) = (↑g.n : Int) ∧ (↑a.n : Int) = (↑a.n : Int) ∧ EV.cl (nat_lit 121) [EV.p (SV.ref [SV.sl (nat_lit 3) b.n fun (i : Nat) ↦ [SV.int
 .i64 (b.g i).edge, SV.int .i64 (b.g i).place, SV.int .i64 (b.g i).tone]] (nat_lit 0)), EV.loc (nat_lit 9) (nat_lit 0), EV.p (SV.ref [SV.clo (nat_lit 120) [SV.ref [SV.sl (nat_lit 3) a.n fun (i : Nat) ↦ [SV.int .i64 (a.g i).edge, SV.int .i64 (a.g i).place, SV.int .i64 (a.g
 i).tone]] (nat_lit 0), SV.ref [SV.sl (nat_lit 3) b.n fun (i : Nat) ↦ [SV.int .i64 (b.g i).edge, SV.int .i64 (b.g i).place, SV.int .i64 (b.g i).tone]] (nat_lit 0), SV.ref [SV.int .i64 sl] (nat_lit 0)]] (nat_lit 0)), EV.p (SV.ref [SV.sl (nat_lit 3) a.n fun (i : Nat) ↦ [SV.int .i64 (a.g
 i).edge, SV.int .i64 (a.g i).place, SV.int .i64 (a.g i).tone]] (nat_lit 0))] = EV.cl (nat_lit 121) [EV.p (SV.ref [SV.sl (nat_lit 3) b.n fun (i : Nat) ↦ [SV.int .i64 (b.g i).edge, SV.int .i64 (b.g i).place, SV.int .i64 (b.g i).tone]] (nat_lit 0)), EV.loc (nat_lit 9) (nat_lit 0), EV.p
 (SV.ref [SV.clo (nat_lit 120) [SV.ref [SV.sl (nat_lit 3) a.n fun (i : Nat) ↦ [SV.int .i64 (a.g i).edge, SV.int .i64 (a.g i).place, SV.int .i64 (a.g i).tone]] (nat_lit 0), SV.ref [SV.sl (nat_lit 3) b.n fun (i : Nat) ↦ [SV.int .i64 (b.g i).edge, SV.int .i64 (b.g i).place, SV.int
 .i64 (b.g i).tone]] (nat_lit 0), SV.ref [SV.int .i64 sl] (nat_lit 0)]] (nat_lit 0)), EV.p (SV.ref [SV.sl (nat_lit 3) a.n fun (i : Nat) ↦ [SV.int .i64 (a.g i).edge, SV.int .i64 (a.g i).place, SV.int .i64 (a.g i).tone]] (nat_lit 0))] ∧ nat_lit 0 = nat_lit 0 ∧ SV.ref [SV.clo (nat_lit 120)
 [SV.ref [SV.sl (nat_lit 3) a.n fun (i : Nat) ↦ [SV.int .i64 (a.g i).edge, SV.int .i64 (a.g i).place, SV.int .i64 (a.g i).tone]] (nat_lit 0), SV.ref [SV.sl (nat_lit 3) b.n fun (i : Nat) ↦ [SV.int .i64 (b.g i).edge, SV.int .i64 (b.g i).place, SV.int .i64 (b.g i).tone]] (nat_lit 0),
 SV.ref [SV.int .i64 sl] (nat_lit 0)]] (nat_lit 0) = SV.ref [SV.clo (nat_lit 120) [SV.ref [SV.sl (nat_lit 3) a.n fun (i : Nat) ↦ [SV.int .i64 (a.g i).edge, SV.int .i64 (a.g i).place, SV.int .i64 (a.g i).tone]] (nat_lit 0), SV.ref [SV.sl (nat_lit 3) b.n fun (i : Nat) ↦ [SV.int
 .i64 (b.g i).edge, SV.int .i64 (b.g i).place, SV.int .i64 (b.g i).tone]] (nat_lit 0), SV.ref [SV.int .i64 sl] (nat_lit 0)]] (nat_lit 0) ∧ (0 : Int) = (0 : Int) ∧ Value.slice Option.none (0 : Nat) (0 : Nat) = Value.slice Option.none (0 : Nat) (0 : Nat) ∧ SV.ref [SV.int .i64 sl] (nat_lit 0) = SV.ref
 [SV.int .i64 sl] (nat_lit 0) ∧ SV.ref [SV.sl (nat_lit 3) b.n fun (i : Nat) ↦ [SV.int .i64 (b.g i).edge, SV.int .i64 (b.g i).place, SV.int .i64 (b.g i).tone]] (nat_lit 0) = SV.ref [SV.sl (nat_lit 3) b.n fun (i : Nat) ↦ [SV.int .i64 (b.g i).edge, SV.int .i64 (b.g i).place,
 SV.int .i64 (b.g i).tone]] (nat_lit 0) ∧ SV.ref [SV.sl (nat_lit 3) a.n fun (i : Nat) ↦ [SV.int .i64 (a.g i).edge, SV.int .i64 (a.g i).place, SV.int .i64 (a.g i).tone]] (nat_lit 0) = SV.ref [SV.sl (nat_lit 3) a.n fun (i : Nat) ↦ [SV.int .i64 (a.g i).edge, SV.int .i64 (a.g
 i).place, SV.int .i64 (a.g i).tone]] (nat_lit 0) ∧ (g_1.1.n = g'.1.n ∧ ∀ (i : Nat), i < g_1.1.n → [SV.int .i64 (g_1.1.g i)] = [SV.int .i64 (g'.1.g i)]) ∧ ((↑g.n : Int) = (↑g'.1.n : Int) ∧ (↑g.n : Int) = (↑g'.1.n : Int) ∧ L.runK a b sl g'.1 g'.2) ∧ b.n - g'.2 < b.n - g_1.2) ∧ ((bif !L.near (L.Sq.mk a.n fun (i : Nat) ↦ a.g i) (L.Sq.mk b.n fun (i : Nat)
 ↦ b.g i) sl (Int.toNat (↑g.n : Int)) (Int.toNat (↑g_1.2 : Int)) then true else L.anyB g_1.1.n fun (i : Nat) ↦ decide ((↑g_1.2 : Int) = g_1.1.g i)) = false → (g_1.1.n + nat_lit 1) * nat_lit 8 ≤ (140737488355328 : Nat) ∧ ∃ (t : L.Sq L.Mark × L.Sq L.Mark × Int × L.Sq Int), SV.ref [SV.sl (nat_lit 3) b.n fun (i : Nat) ↦ [SV.int .i64 (b.g i).edge,
 SV.int .i64 (b.g i).place, SV.int .i64 (b.g i).tone]] (nat_lit 0) = SV.ref [SV.sl (3 : Nat) t.2.1.n fun (i : Nat) ↦ [SV.int .i64 (t.2.1.g i).edge, SV.int .i64 (t.2.1.g i).place, SV.int .i64 (t.2.1.g i).tone]] (0 : Nat) ∧ nat_lit 0 = (0 : Nat) ∧ SV.ref [SV.clo (nat_lit 120) [SV.ref
 [SV.sl (nat_lit 3) a.n fun (i : Nat) ↦ [SV.int .i64 (a.g i).edge, SV.int .i64 (a.g i).place, SV.int .i64 (a.g i).tone]] (nat_lit 0), SV.ref [SV.sl (nat_lit 3) b.n fun (i : Nat) ↦ [SV.int .i64 (b.g i).edge, SV.int .i64 (b.g i).place, SV.int .i64 (b.g i).tone]] (nat_lit 0), SV.ref
 [SV.int .i64 sl] (nat_lit 0)]] (nat_lit 0) = SV.ref [SV.clo (120 : Nat) [SV.ref [SV.sl (3 : Nat) t.1.n fun (i : Nat) ↦ [SV.int .i64 (t.1.g i).edge, SV.int .i64 (t.1.g i).place, SV.int .i64 (t.1.g i).tone]] (0 : Nat), SV.ref [SV.sl (3 : Nat) t.2.1.n fun (i : Nat) ↦ [SV.int .i64
 (t.2.1.g i).edge, SV.int .i64 (t.2.1.g i).place, SV.int .i64 (t.2.1.g i).tone]] (0 : Nat), SV.ref [SV.int .i64 t.snd.2.1] (0 : Nat)]] (0 : Nat) ∧ SV.ref [SV.sl (nat_lit 3) a.n fun (i : Nat) ↦ [SV.int .i64 (a.g i).edge, SV.int .i64 (a.g i).place, SV.int .i64 (a.g i).tone]] (nat_lit 0) =
 SV.ref [SV.sl (3 : Nat) t.1.n fun (i : Nat) ↦ [SV.int .i64 (t.1.g i).edge, SV.int .i64 (t.1.g i).place, SV.int .i64 (t.1.g i).tone]] (0 : Nat) ∧ (g_1.1.n + nat_lit 1 = t.snd.2.2.n ∧ ∀ (i : Nat), i < g_1.1.n + nat_lit 1 → appGet g_1.1.n (fun (j : Nat) ↦ [SV.int .i64 (g_1.1.g j)]) (fun (x : Nat) ↦ [SV.int
 .i64 (↑g_1.2 : Int)]) i = [SV.int .i64 (t.snd.2.2.g i)]) ∧ L.pairP t.1 t.2.1 t.snd.2.1 t.snd.2.2 ∧ ∀ (u : Bool), L.pairQ t.1 t.2.1 t.snd.2.1 t.snd.2.2 u → (u = true → ((!u) = true → ∃ (t : L.Sq Int × Int), t.1.n = (0 : Nat) ∧ (31 : Int) = t.2 ∧ L.runQ a b sl t.1 t.2) ∧ ((!u) = false → InK .i64 ((↑g.n : Int) + (1 : Int)) ∧ ∃ (g' : L.Sq Int),
 (↑g.n : Int) + (1 : Int) = (↑g'.n : Int) ∧ (↑a.n : Int) = (↑a.n : Int) ∧ EV.cl (nat_lit 121) [EV.p (SV.ref [SV.sl (nat_lit 3) b.n fun (i : Nat) ↦ [SV.int .i64 (b.g i).edge, SV.int .i64 (b.g i).place, SV.int .i64 (b.g i).tone]] (nat_lit 0)), EV.loc (nat_lit 9) (nat_lit 0), EV.p (SV.ref [SV.clo (nat_lit
 120) [SV.ref [SV.sl (nat_lit 3) a.n fun (i : Nat) ↦ [SV.int .i64 (a.g i).edge, SV.int .i64 (a.g i).place, SV.int .i64 (a.g i).tone]] (nat_lit 0), SV.ref [SV.sl (nat_lit 3) b.n fun (i : Nat) ↦ [SV.int .i64 (b.g i).edge, SV.int .i64 (b.g i).place, SV.int .i64 (b.g i).tone]]
 (nat_lit 0), SV.ref [SV.int .i64 sl] (nat_lit 0)]] (nat_lit 0)), EV.p (SV.ref [SV.sl (nat_lit 3) a.n fun (i : Nat) ↦ [SV.int .i64 (a.g i).edge, SV.int .i64 (a.g i).place, SV.int .i64 (a.g i).tone]] (nat_lit 0))] = EV.cl (nat_lit 121) [EV.p (SV.ref [SV.sl (nat_lit 3) b.n fun (i : Nat) ↦
 [SV.int .i64 (b.g i).edge, SV.int .i64 (b.g i).place, SV.int .i64 (b.g i).tone]] (nat_lit 0)), EV.loc (nat_lit 9) (nat_lit 0), EV.p (SV.ref [SV.clo (nat_lit 120) [SV.ref [SV.sl (nat_lit 3) a.n fun (i : Nat) ↦ [SV.int .i64 (a.g i).edge, SV.int .i64 (a.g i).place, SV.int
 .i64 (a.g i).tone]] (nat_lit 0), SV.ref [SV.sl (nat_lit 3) b.n fun (i : Nat) ↦ [SV.int .i64 (b.g i).edge, SV.int .i64 (b.g i).place, SV.int .i64 (b.g i).tone]] (nat_lit 0), SV.ref [SV.int .i64 sl] (nat_lit 0)]] (nat_lit 0)), EV.p (SV.ref [SV.sl (nat_lit 3) a.n fun (i : Nat) ↦ [SV.int
 .i64 (a.g i).edge, SV.int .i64 (a.g i).place, SV.int .i64 (a.g i).tone]] (nat_lit 0))] ∧ nat_lit 0 = nat_lit 0 ∧ SV.ref [SV.clo (nat_lit 120) [SV.ref [SV.sl (nat_lit 3) a.n fun (i : Nat) ↦ [SV.int .i64 (a.g i).edge, SV.int .i64 (a.g i).place, SV.int .i64 (a.g i).tone]] (nat_lit 0),
 SV.ref [SV.sl (nat_lit 3) b.n fun (i : Nat) ↦ [SV.int .i64 (b.g i).edge, SV.int .i64 (b.g i).place, SV.int .i64 (b.g i).tone]] (nat_lit 0), SV.ref [SV.int .i64 sl] (nat_lit 0)]] (nat_lit 0) = SV.ref [SV.clo (nat_lit 120) [SV.ref [SV.sl (nat_lit 3) a.n fun (i : Nat) ↦ [SV.int
 .i64 (a.g i).edge, SV.int .i64 (a.g i).place, SV.int .i64 (a.g i).tone]] (nat_lit 0), SV.ref [SV.sl (nat_lit 3) b.n fun (i : Nat) ↦ [SV.int .i64 (b.g i).edge, SV.int .i64 (b.g i).place, SV.int .i64 (b.g i).tone]] (nat_lit 0), SV.ref [SV.int .i64 sl] (nat_lit 0)]] (nat_lit 0)
 ∧ (0 : Int) = (0 : Int) ∧ Value.slice Option.none (0 : Nat) (0 : Nat) = Value.slice Option.none (0 : Nat) (0 : Nat) ∧ SV.ref [SV.int .i64 sl] (nat_lit 0) = SV.ref [SV.int .i64 sl] (nat_lit 0) ∧ SV.ref [SV.sl (nat_lit 3) b.n fun (i : Nat) ↦ [SV.int .i64 (b.g i).edge, SV.int .i64 (b.g i).place, SV.int
 .i64 (b.g i).tone]] (nat_lit 0) = SV.ref [SV.sl (nat_lit 3) b.n fun (i : Nat) ↦ [SV.int .i64 (b.g i).edge, SV.int .i64 (b.g i).place, SV.int .i64 (b.g i).tone]] (nat_lit 0) ∧ SV.ref [SV.sl (nat_lit 3) a.n fun (i : Nat) ↦ [SV.int .i64 (a.g i).edge, SV.int .i64 (a.g i).place,
 SV.int .i64 (a.g i).tone]] (nat_lit 0) = SV.ref [SV.sl (nat_lit 3) a.n fun (i : Nat) ↦ [SV.int .i64 (a.g i).edge, SV.int .i64 (a.g i).place, SV.int .i64 (a.g i).tone]] (nat_lit 0) ∧ (t.snd.2.2.n = g'.n ∧ ∀ (i : Nat), i < t.snd.2.2.n → [SV.int .i64 (t.snd.2.2.g i)] = [SV.int .i64 (g'.g i)]) ∧
 L.runI a b sl g' ∧ b.n - g'.n < b.n - g.n)) ∧ (u = false → InK .i64 ((↑t.snd.2.2.n : Int) - (1 : Int)) ∧ ((0 : Int) ≤ (↑t.snd.2.2.n : Int) - (1 : Int) ∧ (↑t.snd.2.2.n : Int) - (1 : Int) ≤ (↑t.snd.2.2.n : Int)) ∧ InK .i64 ((↑g_1.2 : Int) + (1 : Int)) ∧ ∃ (g' : L.Sq Int × Nat), (↑g_1.2 : Int) + (1 : Int) = (↑g'.2 : Int) ∧ u = false ∧ (↑b.n : Int) = (↑b.n :
 Int) ∧ (↑g.n : Int) = (↑g.n : Int) ∧ (↑g.n : Int) = (↑g.n : Int) ∧ (↑a.n : Int) = (↑a.n : Int) ∧ EV.cl (nat_lit 121) [EV.p (SV.ref [SV.sl (nat_lit 3) b.n fun (i : Nat) ↦ [SV.int .i64 (b.g i).edge, SV.int .i64 (b.g i).place, SV.int .i64 (b.g i).tone]] (nat_lit 0)), EV.loc (nat_lit 9) (nat_lit 0), EV.p (SV.ref
 [SV.clo (nat_lit 120) [SV.ref [SV.sl (nat_lit 3) a.n fun (i : Nat) ↦ [SV.int .i64 (a.g i).edge, SV.int .i64 (a.g i).place, SV.int .i64 (a.g i).tone]] (nat_lit 0), SV.ref [SV.sl (nat_lit 3) b.n fun (i : Nat) ↦ [SV.int .i64 (b.g i).edge, SV.int .i64 (b.g i).place, SV.int .i64
 (b.g i).tone]] (nat_lit 0), SV.ref [SV.int .i64 sl] (nat_lit 0)]] (nat_lit 0)), EV.p (SV.ref [SV.sl (nat_lit 3) a.n fun (i : Nat) ↦ [SV.int .i64 (a.g i).edge, SV.int .i64 (a.g i).place, SV.int .i64 (a.g i).tone]] (nat_lit 0))] = EV.cl (nat_lit 121) [EV.p (SV.ref [SV.sl (nat_lit 3) b.n
 fun (i : Nat) ↦ [SV.int .i64 (b.g i).edge, SV.int .i64 (b.g i).place, SV.int .i64 (b.g i).tone]] (nat_lit 0)), EV.loc (nat_lit 9) (nat_lit 0), EV.p (SV.ref [SV.clo (nat_lit 120) [SV.ref [SV.sl (nat_lit 3) a.n fun (i : Nat) ↦ [SV.int .i64 (a.g i).edge, SV.int .i64 (a.g i).place,
 SV.int .i64 (a.g i).tone]] (nat_lit 0), SV.ref [SV.sl (nat_lit 3) b.n fun (i : Nat) ↦ [SV.int .i64 (b.g i).edge, SV.int .i64 (b.g i).place, SV.int .i64 (b.g i).tone]] (nat_lit 0), SV.ref [SV.int .i64 sl] (nat_lit 0)]] (nat_lit 0)), EV.p (SV.ref [SV.sl (nat_lit 3) a.n fun (i : Nat) ↦
 [SV.int .i64 (a.g i).edge, SV.int .i64 (a.g i).place, SV.int .i64 (a.g i).tone]] (nat_lit 0))] ∧ nat_lit 0 = nat_lit 0 ∧ SV.ref [SV.clo (nat_lit 120) [SV.ref [SV.sl (nat_lit 3) a.n fun (i : Nat) ↦ [SV.int .i64 (a.g i).edge, SV.int .i64 (a.g i).place, SV.int .i64 (a.g i).tone]]
 (nat_lit 0), SV.ref [SV.sl (nat_lit 3) b.n fun (i : Nat) ↦ [SV.int .i64 (b.g i).edge, SV.int .i64 (b.g i).place, SV.int .i64 (b.g i).tone]] (nat_lit 0), SV.ref [SV.int .i64 sl] (nat_lit 0)]] (nat_lit 0) = SV.ref [SV.clo (nat_lit 120) [SV.ref [SV.sl (nat_lit 3) a.n fun (i : Nat) ↦ [SV.int
 .i64 (a.g i).edge, SV.int .i64 (a.g i).place, SV.int .i64 (a.g i).tone]] (nat_lit 0), SV.ref [SV.sl (nat_lit 3) b.n fun (i : Nat) ↦ [SV.int .i64 (b.g i).edge, SV.int .i64 (b.g i).place, SV.int .i64 (b.g i).tone]] (nat_lit 0), SV.ref [SV.int .i64 sl] (nat_lit 0)]] (nat_lit 0)
 ∧ (0 : Int) = (0 : Int) ∧ Value.slice Option.none (0 : Nat) (0 : Nat) = Value.slice Option.none (0 : Nat) (0 : Nat) ∧ SV.ref [SV.int .i64 sl] (nat_lit 0) = SV.ref [SV.int .i64 sl] (nat_lit 0) ∧ SV.ref [SV.sl (nat_lit 3) b.n fun (i : Nat) ↦ [SV.int .i64 (b.g i).edge, SV.int .i64 (b.g i).place, SV.int
 .i64 (b.g i).tone]] (nat_lit 0) = SV.ref [SV.sl (nat_lit 3) b.n fun (i : Nat) ↦ [SV.int .i64 (b.g i).edge, SV.int .i64 (b.g i).place, SV.int .i64 (b.g i).tone]] (nat_lit 0) ∧ SV.ref [SV.sl (nat_lit 3) a.n fun (i : Nat) ↦ [SV.int .i64 (a.g i).edge, SV.int .i64 (a.g i).place,
 SV.int .i64 (a.g i).tone]] (nat_lit 0) = SV.ref [SV.sl (nat_lit 3) a.n fun (i : Nat) ↦ [SV.int .i64 (a.g i).edge, SV.int .i64 (a.g i).place, SV.int .i64 (a.g i).tone]] (nat_lit 0) ∧ (Int.toNat ((↑t.snd.2.2.n : Int) - (1 : Int)) = g'.1.n ∧ ∀ (i : Nat), i < Int.toNat ((↑t.snd.2.2.n : Int) - (1 : Int)) → [SV.int
 .i64 (t.snd.2.2.g i)] = [SV.int .i64 (g'.1.g i)]) ∧ ((↑g.n : Int) = (↑g'.1.n : Int) ∧ (↑g.n : Int) = (↑g'.1.n : Int) ∧ L.runK a b sl g'.1 g'.2) ∧ b.n - g'.2 < b.n - g_1.2))) ∧ (decide ((↑g_1.2 : Int) < (↑b.n : Int)) = false → (true = true → ∃ (t : L.Sq Int × Int), t.1.n = (0 : Nat) ∧ (31 : Int) = t.2 ∧ L.runQ a b sl t.1 t.2) ∧ (true =
 false → InK .i64 ((↑g.n : Int) + (1 : Int)) ∧ ∃ (g' : L.Sq Int), (↑g.n : Int) + (1 : Int) = (↑g'.n : Int) ∧ (↑a.n : Int) = (↑a.n : Int) ∧ EV.cl (nat_lit 121) [EV.p (SV.ref [SV.sl (nat_lit 3) b.n fun (i : Nat) ↦ [SV.int .i64 (b.g i).edge, SV.int .i64 (b.g i).place, SV.int .i64 (b.g i).tone]] (nat_lit 0)),
 EV.loc (nat_lit 9) (nat_lit 0), EV.p (SV.ref [SV.clo (nat_lit 120) [SV.ref [SV.sl (nat_lit 3) a.n fun (i : Nat) ↦ [SV.int .i64 (a.g i).edge, SV.int .i64 (a.g i).place, SV.int .i64 (a.g i).tone]] (nat_lit 0), SV.ref [SV.sl (nat_lit 3) b.n fun (i : Nat) ↦ [SV.int .i64 (b.g i).edge,
 SV.int .i64 (b.g i).place, SV.int .i64 (b.g i).tone]] (nat_lit 0), SV.ref [SV.int .i64 sl] (nat_lit 0)]] (nat_lit 0)), EV.p (SV.ref [SV.sl (nat_lit 3) a.n fun (i : Nat) ↦ [SV.int .i64 (a.g i).edge, SV.int .i64 (a.g i).place, SV.int .i64 (a.g i).tone]] (nat_lit 0))] = EV.cl
 (nat_lit 121) [EV.p (SV.ref [SV.sl (nat_lit 3) b.n fun (i : Nat) ↦ [SV.int .i64 (b.g i).edge, SV.int .i64 (b.g i).place, SV.int .i64 (b.g i).tone]] (nat_lit 0)), EV.loc (nat_lit 9) (nat_lit 0), EV.p (SV.ref [SV.clo (nat_lit 120) [SV.ref [SV.sl (nat_lit 3) a.n fun (i : Nat) ↦ [SV.int
 .i64 (a.g i).edge, SV.int .i64 (a.g i).place, SV.int .i64 (a.g i).tone]] (nat_lit 0), SV.ref [SV.sl (nat_lit 3) b.n fun (i : Nat) ↦ [SV.int .i64 (b.g i).edge, SV.int .i64 (b.g i).place, SV.int .i64 (b.g i).tone]] (nat_lit 0), SV.ref [SV.int .i64 sl] (nat_lit 0)]] (nat_lit
 0)), EV.p (SV.ref [SV.sl (nat_lit 3) a.n fun (i : Nat) ↦ [SV.int .i64 (a.g i).edge, SV.int .i64 (a.g i).place, SV.int .i64 (a.g i).tone]] (nat_lit 0))] ∧ nat_lit 0 = nat_lit 0 ∧ SV.ref [SV.clo (nat_lit 120) [SV.ref [SV.sl (nat_lit 3) a.n fun (i : Nat) ↦ [SV.int .i64 (a.g i).edge, SV.int
 .i64 (a.g i).place, SV.int .i64 (a.g i).tone]] (nat_lit 0), SV.ref [SV.sl (nat_lit 3) b.n fun (i : Nat) ↦ [SV.int .i64 (b.g i).edge, SV.int .i64 (b.g i).place, SV.int .i64 (b.g i).tone]] (nat_lit 0), SV.ref [SV.int .i64 sl] (nat_lit 0)]] (nat_lit 0) = SV.ref [SV.clo (nat_lit 120)
 [SV.ref [SV.sl (nat_lit 3) a.n fun (i : Nat) ↦ [SV.int .i64 (a.g i).edge, SV.int .i64 (a.g i).place, SV.int .i64 (a.g i).tone]] (nat_lit 0), SV.ref [SV.sl (nat_lit 3) b.n fun (i : Nat) ↦ [SV.int .i64 (b.g i).edge, SV.int .i64 (b.g i).place, SV.int .i64 (b.g i).tone]] (nat_lit 0),
 SV.ref [SV.int .i64 sl] (nat_lit 0)]] (nat_lit 0) ∧ (0 : Int) = (0 : Int) ∧ Value.slice Option.none (0 : Nat) (0 : Nat) = Value.slice Option.none (0 : Nat) (0 : Nat) ∧ SV.ref [SV.int .i64 sl] (nat_lit 0) = SV.ref [SV.int .i64 sl] (nat_lit 0) ∧ SV.ref [SV.sl (nat_lit 3) b.n fun (i : Nat) ↦ [SV.int
 .i64 (b.g i).edge, SV.int .i64 (b.g i).place, SV.int .i64 (b.g i).tone]] (nat_lit 0) = SV.ref [SV.sl (nat_lit 3) b.n fun (i : Nat) ↦ [SV.int .i64 (b.g i).edge, SV.int .i64 (b.g i).place, SV.int .i64 (b.g i).tone]] (nat_lit 0) ∧ SV.ref [SV.sl (nat_lit 3) a.n fun (i : Nat) ↦
 [SV.int .i64 (a.g i).edge, SV.int .i64 (a.g i).place, SV.int .i64 (a.g i).tone]] (nat_lit 0) = SV.ref [SV.sl (nat_lit 3) a.n fun (i : Nat) ↦ [SV.int .i64 (a.g i).edge, SV.int .i64 (a.g i).place, SV.int .i64 (a.g i).tone]] (nat_lit 0) ∧ (g_1.1.n = g'.n ∧ ∀ (i : Nat), i < g_1.1.n →
 [SV.int .i64 (g_1.1.g i)] = [SV.int .i64 (g'.g i)]) ∧ L.runI a b sl g' ∧ b.n - g'.n < b.n - g.n))) ∧ (decide ((↑g.n : Int) < (↑a.n : Int)) = false → ∃ (t : L.Sq Int × Int), (g.n = t.1.n ∧ ∀ (i : Nat), i < g.n → [SV.int .i64 (g.g i)] = [SV.int .i64 (t.1.g i)]) ∧ (0 : Int) = t.2 ∧ L.runQ a b sl t.1 t.2)))) (by kernel_rfl) (by
    obtain ⟨hna, hnb⟩ := hp
    refine ⟨⟨fun _ _ => rfl, by omega⟩, fun _ => ⟨fun _ _ => rfl, by omega⟩, fun _ => trivial, fun h => ?_, fun h => ?_⟩
    · have h : L.runBad a b sl = true := h
      exact ⟨(L.nil, 1), rfl, rfl, .inl ⟨h, rfl, rfl⟩⟩
    · have hbad : L.runBad a b sl = false := h
      refine ⟨fun hne => ?_, fun heq => ?_⟩
      · have hne : a.n ≠ b.n := fun e => by rw [e] at hne; simp at hne
        exact ⟨(L.nil, 31), rfl, rfl, .inr (.inl ⟨hbad, hne, rfl, rfl⟩)⟩
      · have hab : a.n = b.n := by
          have : (a.n : Int) = (b.n : Int) := by simpa using heq
          omega
        have hok := run_ok hbad hab hnb
        refine ⟨⟨L.nil, rfl, ⟨rfl, fun i hi => absurd hi (Nat.not_lt_zero _)⟩, run_0 hok⟩, fun f hI => ⟨fun hlt => ?_, fun hge => ?_⟩⟩
        · have hf : (f.n : Int) < (a.n : Int) := by simpa using hlt
          have hf' : f.n < b.n := by omega
          refine ⟨⟨(f, 0), rfl, rfl, ⟨rfl, fun _ _ => rfl⟩, rfl, rfl, run_k0 hI hf'⟩, ?_⟩
          rintro ⟨f1, k⟩ ⟨e1, e2, hK⟩
          have e1 : (f.n : Int) = (f1.n : Int) := e1
          have hK : L.runK a b sl f1 k := hK
          have en : f1.n = f.n := by omega
          refine ⟨fun hlt => ?_, fun hge => ?_⟩
          · have hk : (k : Int) < (b.n : Int) := by simpa using hlt
            have hk' : k < b.n := by omega
            have e0 : ((f.n : Int)).toNat = f1.n := by omega
            have ek : ((k : Int)).toNat = k := by omega
            dsimp only
            rw [e0, ek]
            refine ⟨⟨fun _ _ => rfl, fun _ _ => rfl, hok, by omega, by omega, by omega, hk⟩, fun _ => ⟨fun _ _ => rfl, by omega⟩, fun h => ?_, fun h => ?_⟩
            · have h : (bif !L.near a b sl f1.n k then true else L.anyB f1.n fun i => decide ((k : Int) = f1.g i)) = true := h
              have hs : L.near a b sl f1.n k = true → ¬ L.Ext a b sl (L.snoc f1 (k : Int)) := fun hn => by
                rw [hn] at h
                exact ext_in hK.2.1 hK.1.1 (by simpa using h)
              exact ⟨InK.of (by omega) (by omega), (f1, k + 1), by simp, rfl, rfl, rfl, rfl, rfl, rfl, rfl, rfl, rfl, rfl, rfl, rfl, rfl, ⟨rfl, fun _ _ => rfl⟩, ⟨e1, e1, run_next hK hk' hs⟩, by simp; omega⟩
            · have h : (bif !L.near a b sl f1.n k then true else L.anyB f1.n fun i => decide ((k : Int) = f1.g i)) = false := h
              cases hn : L.near a b sl f1.n k with
              | false => rw [hn] at h; simp at h
              | true =>
                have hno : (L.anyB f1.n fun i => decide ((k : Int) = f1.g i)) = false := by rw [hn] at h; simpa using h
                refine ⟨show (f1.n + 1) * 8 ≤ 140737488355328 by omega, (a, b, sl, L.snoc f1 (k : Int)), rfl, rfl, rfl, rfl, ⟨rfl, fun i hi => ?_⟩, pair_snoc hK.1.1 hK.2.1 hk' hno, fun u hQ => ⟨fun hu => ?_, fun hu => ?_⟩⟩
                · have hi : i < f1.n + 1 := hi
                  unfold appGet
                  by_cases h' : i < f1.n
                  · rw [if_pos h']; dsimp only; rw [snoc_lt h']
                  · rw [if_neg h']
                    have : i = f1.n := by omega
                    subst this
                    dsimp only; rw [snoc_eq]
                · have hE : L.Ext a b sl (L.snoc f1 (k : Int)) := hQ.1 hu
                  refine ⟨fun hx => ?_, fun _ => ⟨InK.of (by omega) (by omega), L.snoc f1 (k : Int), show (f.n : Int) + 1 = ((f1.n + 1 : Nat) : Int) by omega, rfl, rfl, rfl, rfl, rfl, rfl, rfl, rfl, rfl, ⟨rfl, fun _ _ => rfl⟩, run_snoc hK hk' hn hno hE, show b.n - (f1.n + 1) < b.n - f.n by omega⟩⟩
                  rw [hu] at hx; cases hx
                · refine ⟨InK.of (show _ ≤ ((f1.n + 1 : Nat) : Int) - 1 by omega) (show ((f1.n + 1 : Nat) : Int) - 1 ≤ _ by omega), ⟨show 0 ≤ ((f1.n + 1 : Nat) : Int) - 1 by omega, show ((f1.n + 1 : Nat) : Int) - 1 ≤ ((f1.n + 1 : Nat) : Int) by omega⟩, InK.of (by omega) (by omega), (f1, k + 1), by simp, hu, rfl, rfl, rfl, rfl, rfl, rfl, rfl, rfl, rfl, rfl, rfl, rfl, ⟨show (((f1.n + 1 : Nat) : Int) - 1).toNat = f1.n by omega, fun i hi => ?_⟩, ⟨e1, e1, run_next hK hk' (fun _ hE => ?_)⟩, by simp; omega⟩
                  · have hi : i < (((f1.n + 1 : Nat) : Int) - 1).toNat := hi
                    dsimp only; rw [snoc_lt (by omega)]
                  · have := hQ.2 hE; rw [hu] at this; cases this
          · have hk : ¬ (k : Int) < (b.n : Int) := by simpa using hge
            have e : k = b.n := by have := hK.2.2.1; omega
            rw [e] at hK
            exact ⟨fun _ => ⟨(L.nil, 31), rfl, rfl, .inr (.inr ⟨hbad, hok, .inl ⟨run_none hK, rfl, rfl⟩⟩)⟩, fun h => (by cases h)⟩
        · have hf : ¬ (f.n : Int) < (a.n : Int) := by simpa using hge
          exact ⟨(f, 0), ⟨rfl, fun _ _ => rfl⟩, rfl, .inr (.inr ⟨hbad, hok, .inr ⟨hI, show f.n = b.n by have := hI.1.2.1; omega, rfl⟩⟩)⟩)
theorem g_RunOn_ok : SpecOk Tryz.prog 59 g_RunOn_S := relX Tryz.func59 (c := bodyOf Tryz.f59) (by kernel_rfl) mixed (fun args p q r hs hp => by
  unfold g_RunOn_s at hs
  split at hs
  · cases hs; exact ⟨_, _, g_RunOn_vc _ _ _ hp.2.2, (.p (.sl hp.1) (.p (.sl hp.2.1) (.same _ .nil))), ⟨show SpecsL Tryz.prog _ from (SpecsL.cons g_oneEdge_ok g_oneEdge_en (SpecsL.cons g_within_ok g_within_en (SpecsL.cons g_near_ok g_near_en (SpecsL.cons s_conI_ok s_conI_en SpecsL.nil)))), rfl, ⟨show ItersL Tryz.prog _ from ItersL.nil, (show TrsL Tryz.prog _ from (TrsL.cons g_pair_tok g_pair_en TrsL.nil))⟩⟩⟩
  · cases hs)
theorem g_RunOn_en : Enters Tryz.prog 59 := fun args w => by kernel_rfl
end Go.Proofs.YtooapgllahonaaaGreat

namespace Go.Proofs.YtooapgllahonaaaGreat
open Go.SE Go.RowKit
set_option maxRecDepth 100000
set_option maxHeartbeats 4000000
set_option linter.unusedVariables false
attribute [local irreducible] vc

theorem aw_bad : L.runBad ⟨1, fun _ => ⟨0, 4, 1⟩⟩ ⟨1, fun _ => ⟨3, 11, 1⟩⟩ 1 = false := by kernel_rfl
theorem aw_bad2 : L.runBad ⟨1, fun _ => ⟨0, 4, 1⟩⟩ ⟨1, fun _ => ⟨3, 10, 1⟩⟩ 1 = false := by kernel_rfl
theorem aw_near : L.near ⟨1, fun _ => ⟨0, 4, 1⟩⟩ ⟨1, fun _ => ⟨3, 11, 1⟩⟩ 1 0 0 = true := by kernel_rfl
theorem aw_near2 : L.near ⟨1, fun _ => ⟨0, 4, 1⟩⟩ ⟨1, fun _ => ⟨3, 10, 1⟩⟩ 1 0 0 = false := by kernel_rfl
theorem aw1 (r : L.Sq Int) (e : Int) (h : L.runQ ⟨1, fun _ => ⟨0, 4, 1⟩⟩ ⟨1, fun _ => ⟨3, 11, 1⟩⟩ 1 r e) : e = 0 ∧ r.n = 1 ∧ r.g 0 = 0 := by
  rcases h with ⟨h, _⟩ | ⟨_, h, _⟩ | ⟨_, _, ⟨h, _⟩ | ⟨hI, hn, he⟩⟩
  · rw [aw_bad] at h; cases h
  · exact absurd rfl h
  · refine absurd ⟨fun _ => 0, fun _ _ => Nat.zero_lt_one, fun j j' hj hj' _ => ?_, fun j hj => absurd hj (Nat.not_lt_zero _), fun j _ hj => ?_⟩ h
    · have hj : j < 1 := hj
      have hj' : j' < 1 := hj'
      omega
    · have hj : j < 1 := hj
      obtain rfl : j = 0 := by omega
      exact aw_near
  · have hn : r.n = 1 := hn
    have h0 := hI.1.2.2.1 0 (by omega)
    have h1 : r.g 0 < 1 := h0.2
    exact ⟨he, hn, by omega⟩
theorem aw2 (r : L.Sq Int) (e : Int) (h : L.runQ ⟨1, fun _ => ⟨0, 4, 1⟩⟩ ⟨1, fun _ => ⟨3, 10, 1⟩⟩ 1 r e) : e = 31 := by
  rcases h with ⟨h, _⟩ | ⟨_, h, _⟩ | ⟨_, _, ⟨_, _, h⟩ | ⟨hI, hn, he⟩⟩
  · rw [aw_bad2] at h; cases h
  · exact absurd rfl h
  · exact h
  · have hn : r.n = 1 := hn
    have h0 := hI.1.2.2.1 0 (by omega)
    have h1 : r.g 0 < 1 := h0.2
    have h2 := hI.2.1 0 (by omega)
    rw [show (r.g 0).toNat = 0 by omega, aw_near2] at h2
    cases h2
def w_awake_p  : Prop := True
def w_awake_r  : SV := .bool true
def w_awake_s : List EV → Option (Prop × SV)
  | [] => some (w_awake_p , w_awake_r )
  | _ => none
abbrev w_awake_S : SE.Spec := (specO w_awake_s)
def w_awake_C : Cfg := { muts := [], frz := lookN [], specs := lookS [(58, g_Gauges_S), (59, g_RunOn_S), (60, g_Held_S)], loops := lookL [], iters := lookI [], rfs := lookR [], nils := lookM [] }
theorem w_awake_vc  (hp : w_awake_p) : vc Tryz.prog (w_awake_C) (bodyOf Tryz.f10) (st0 Tryz.f10 []) (retFn Tryz.prog Tryz.f10 (w_awake_r )) :=
  @Eq.mpr _ (((∀ (i : Nat), i < nat_lit 4 → rowsOf [SV.int .i64 (0 : Int), SV.int .i64 (0 : Int), SV.int .i64 (4 : Int), SV.int .i64 (0 : Int), SV.int .i64 (4 : Int), SV.int .i64 (2 : Int), SV.int .i64 (0 : Int), SV.int .i64 (2 : Int)] (nat_lit 2) i = [SV.int
 .i64 (ofPt (rowsOf [SV.int .i64 (0 : Int), SV.int .i64 (0 : Int), SV.int .i64 (4 : Int), SV.int .i64 (0 : Int), SV.int .i64 (4 : Int), SV.int .i64 (2 : Int), SV.int .i64 (0 : Int), SV.int .i64 (2 : Int)] (nat_lit 2) i)).x, SV.int .i64 (ofPt
 (rowsOf [SV.int .i64 (0 : Int), SV.int .i64 (0 : Int), SV.int .i64 (4 : Int), SV.int .i64 (0 : Int), SV.int .i64 (4 : Int), SV.int .i64 (2 : Int), SV.int .i64 (0 : Int), SV.int .i64 (2 : Int)] (nat_lit 2) i)).y]) ∧ nat_lit 4 ≤ (1000000 : Nat)) ∧ ((∀ (i : Nat), i <
 nat_lit 1 → [SV.int .i64 (0 : Int), SV.int .i64 (4 : Int), SV.int .i64 (1 : Int)] = [SV.int .i64 (0 : Int), SV.int .i64 (4 : Int), SV.int .i64 (1 : Int)]) ∧ (∀ (i : Nat), i < nat_lit 1 → [SV.int .i64 (3 : Int), SV.int .i64 (11 : Int), SV.int .i64 (1 :
 Int)] = [SV.int .i64 (3 : Int), SV.int .i64 (11 : Int), SV.int .i64 (1 : Int)]) ∧ nat_lit 1 ≤ (1000 : Nat) ∧ nat_lit 1 ≤ (1000 : Nat)) ∧ ∀ (t : L.Sq Int × Int), L.runQ (L.Sq.mk (nat_lit 1) fun (i : Nat) ↦ L.Mark.mk (0 : Int) (4 : Int) (1 : Int)) (L.Sq.mk (nat_lit 1) fun (i : Nat) ↦ L.Mark.mk (3 : Int) (11 : Int) (1 : Int)) (1 : Int) t.1 t.2 → ((∀ (i
 : Nat), i < nat_lit 1 → [SV.int .i64 (0 : Int), SV.int .i64 (4 : Int), SV.int .i64 (1 : Int)] = [SV.int .i64 (0 : Int), SV.int .i64 (4 : Int), SV.int .i64 (1 : Int)]) ∧ (∀ (i : Nat), i < nat_lit 1 → [SV.int .i64 (3 : Int), SV.int .i64 (10 : Int), SV.int
 .i64 (1 : Int)] = [SV.int .i64 (3 : Int), SV.int .i64 (10 : Int), SV.int .i64 (1 : Int)]) ∧ nat_lit 1 ≤ (1000 : Nat) ∧ nat_lit 1 ≤ (1000 : Nat)) ∧ ∀ (t_1 : L.Sq Int × Int), L.runQ (L.Sq.mk (nat_lit 1) fun (i : Nat) ↦ L.Mark.mk (0 : Int) (4 : Int) (1 : Int)) (L.Sq.mk (nat_lit 1) fun (i : Nat) ↦ L.Mark.mk (3 : Int) (10 : Int) (1 : Int)) (1 :
 Int) t_1.1 t_1.2 → ((∀ (i : Nat), i < nat_lit 2 → rowsOf [SV.int .i64 (2 : Int), SV.int .i64 (3 : Int)] (nat_lit 1) i = [SV.int .i64 (intOf (rowsOf [SV.int .i64 (2 : Int), SV.int .i64 (3 : Int)] (nat_lit 1) i))]) ∧ nat_lit 2 ≤ (1000000 : Nat)) ∧ (true = true → (0 : Int) ≤ (0 : Int) ∧ (0 : Int) <
 (↑(nat_lit 4) : Int)) ∧ ((bif bif true then decide (t.2 = (0 : Int)) else false then decide ((↑t.1.n : Int) = (1 : Int)) else false) = true → (0 : Int) ≤ (0 : Int) ∧ (0 : Int) < (↑t.1.n : Int)) ∧ (bif bif bif bif bif bif true then decide (t.2 = (0 : Int)) else false then decide ((↑t.1.n : Int) = (1 : Int)) else false then
 decide (t.1.g (Int.toNat (0 : Int)) = (0 : Int)) else false then decide (t_1.2 = (31 : Int)) else false then true else false then true else false) = true) (by kernel_rfl) (by
    refine ⟨⟨fun i hi => by match i, hi with | 0, _ => rfl | 1, _ => rfl | 2, _ => rfl | 3, _ => rfl, by decide⟩, ⟨fun _ _ => rfl, fun _ _ => rfl, by decide, by decide⟩, fun t h => ⟨⟨fun _ _ => rfl, fun _ _ => rfl, by decide, by decide⟩, fun t1 h1 => ?_⟩⟩
    obtain ⟨e1, e2, e3⟩ := aw1 _ _ h
    have e4 := aw2 _ _ h1
    refine ⟨⟨fun i hi => by match i, hi with | 0, _ => rfl | 1, _ => rfl, by decide⟩, fun _ => by decide, fun _ => by omega, ?_⟩
    have e3 : t.1.g (Int.toNat 0) = 0 := e3
    rw [e1, e2, e3, e4]
    rfl)
theorem w_awake_ok : SpecOk Tryz.prog 10 w_awake_S := fnX Tryz.func10 (c := bodyOf Tryz.f10) (by kernel_rfl) mixed (fun args p r hs hp => by
  unfold w_awake_s at hs
  split at hs
  · cases hs; exact ⟨_, _, w_awake_vc  hp, .nil, ⟨show SpecsL Tryz.prog _ from (SpecsL.cons g_Gauges_ok g_Gauges_en (SpecsL.cons g_RunOn_ok g_RunOn_en (SpecsL.cons g_Held_ok g_Held_en SpecsL.nil))), rfl, ⟨show ItersL Tryz.prog _ from ItersL.nil, (TrsOk.none (fun _ => rfl))⟩⟩⟩
  · cases hs)
theorem w_awake_en : Enters Tryz.prog 10 := fun args w => by kernel_rfl
end Go.Proofs.YtooapgllahonaaaGreat

namespace Go.Proofs.YtooapgllahonaaaGreat
open Go.SE Go.RowKit
set_option maxRecDepth 100000
set_option maxHeartbeats 4000000
set_option linter.unusedVariables false
attribute [local irreducible] vc

def L.vSpan (s : L.Span) (least : Int) : Bool := bif (bif decide (least ≤ s.lo) then decide (s.lo ≤ s.hi) else false) then decide (s.hi ≤ 33554432) else false
def L.vGauge (g : L.Gauge) : Bool := bif (bif L.vSpan g.edge 1 then L.vSpan g.across 0 else false) then L.within g.bend (-1) 1 else false
def L.gauges (l : L.Sq L.Gauge) : Bool := bif L.within l.n 3 24 then L.allB l.n (fun i => L.vGauge (l.g i)) else false
def L.edges (l : L.Sq L.Mark) (n : Int) : Bool := L.allB l.n (fun i => L.within (l.g i).edge 0 (n - 1))
def L.vMarks (l : L.Sq L.Mark) (n : Int) : Bool := bif L.edges l n then L.marks l else false
def L.badMk (m : L.Mark) (n : Int) : Bool := bif (bif !L.within m.edge 0 (n - 1) then true else !L.within m.place 0 16) then true else !L.within m.tone 1 16
def L.nums (p : L.Piece) : Bool := bif (bif (bif (bif L.within p.id 1 65535 then L.within p.colour 1 16 else false) then L.within p.rev 1 16 else false) then L.within p.made 0 9999 else false) then L.within p.swell (-64) 64 else false
def L.validPiece (p : L.Piece) : Bool := bif (bif L.nums p then L.gauges p.gauges else false) then L.vMarks p.marks p.gauges.n else false
theorem cmpMark_lt {a b : L.Mark} : L.cmpMark a b < 0 ↔ L.earlier a b = true := by
  unfold L.cmpMark L.or2 L.cmp L.earlier
  rcases Int.lt_trichotomy a.edge b.edge with h1 | h1 | h1 <;> rcases Int.lt_trichotomy a.place b.place with h2 | h2 | h2 <;> rcases Int.lt_trichotomy a.tone b.tone with h3 | h3 | h3 <;> grind
theorem rise_iff {n : Nat} {f : Nat → Int} : L.rise n f = true ↔ ∀ i, i < n → 0 < i → f i < 0 := by
  unfold L.rise
  rw [allB_iff]
  refine forall_congr' fun i => forall_congr' fun _ => ?_
  by_cases h : 0 < i
  · have h' : (0 : Int) < (i : Int) := by omega
    simp [h, h', Int.not_le]
  · have h' : ¬ (0 : Int) < (i : Int) := by omega
    simp [h, h']
theorem vMarks_eq {l : L.Sq L.Mark} {n : Int} : (bif (bif decide ((l.n : Int) ≤ 32) then L.rise l.n (fun i => L.cmpMark (l.g (i - 1)) (l.g i)) else false) then !L.anyB l.n (fun i => L.badMk (l.g i) n) else false) = L.vMarks l n := by
  rw [not_anyB, Bool.eq_iff_iff]
  unfold L.vMarks L.marks L.edges
  simp only [band, Bool.and_eq_true, decide_eq_true_eq, rise_iff, allB_iff, cmpMark_lt, L.badMk, L.mark1, bor, Bool.not_eq_true', Bool.or_eq_false_iff, Bool.not_eq_false']
  constructor
  · rintro ⟨⟨h1, h2⟩, h3⟩
    refine ⟨fun i hi => (h3 i hi).1.1, by omega, fun i hi => ⟨⟨(h3 i hi).1.2, (h3 i hi).2⟩, ?_⟩⟩
    by_cases h : 0 < i
    · simp [h, h2 i hi h]
    · simp [h]
  · rintro ⟨h1, h2, h3⟩
    refine ⟨⟨by omega, fun i hi h => ?_⟩, fun i hi => ⟨⟨h1 i hi, (h3 i hi).1.1⟩, (h3 i hi).1.2⟩⟩
    have := (h3 i hi).2
    simpa [h] using this
def g_validSpan_p (s : L.Span) (n : Int) : Prop := True
def g_validSpan_r (s : L.Span) (n : Int) : SV := .bool (L.vSpan s n)
def g_validSpan_s : List EV → Option (Prop × SV)
  | [.p (.agg [.int .i64 s_lo, .int .i64 s_hi]), .p (.int .i64 n)] => some (g_validSpan_p (⟨s_lo, s_hi⟩ : L.Span) n, g_validSpan_r (⟨s_lo, s_hi⟩ : L.Span) n)
  | _ => none
abbrev g_validSpan_S : SE.Spec := (specO g_validSpan_s)
def g_validSpan_C : Cfg := { muts := [], frz := lookN [], specs := lookS [], loops := lookL [], iters := lookI [], rfs := lookR [], nils := lookM [] }
theorem g_validSpan_vc (s : L.Span) (n : Int) (hp : g_validSpan_p s n) : vc Tryz.prog (g_validSpan_C) (bodyOf Tryz.f192) (st0 Tryz.f192 [.p (.agg [.int .i64 s.lo, .int .i64 s.hi]), .p (.int .i64 n)]) (retFn Tryz.prog Tryz.f192 (g_validSpan_r s n)) :=
  @Eq.mpr _ ((bif bif decide (n ≤ s.lo) then decide (s.lo ≤ s.hi) else false then decide (s.hi ≤ (33554432 : Int)) else false) = L.vSpan s n) (by kernel_rfl) (by
    rfl)
theorem g_validSpan_ok : SpecOk Tryz.prog 192 g_validSpan_S := fnX Tryz.func192 (c := bodyOf Tryz.f192) (by kernel_rfl) mixed (fun args p r hs hp => by
  unfold g_validSpan_s at hs
  split at hs
  · cases hs; exact ⟨_, _, g_validSpan_vc _ _ hp, (.same _ (.same _ .nil)), ⟨show SpecsL Tryz.prog _ from SpecsL.nil, rfl, ⟨show ItersL Tryz.prog _ from ItersL.nil, (TrsOk.none (fun _ => rfl))⟩⟩⟩
  · cases hs)
theorem g_validSpan_en : Enters Tryz.prog 192 := fun args w => by kernel_rfl
def g_validGauge_p (g : L.Gauge) : Prop := True
def g_validGauge_r (g : L.Gauge) : SV := .bool (L.vGauge g)
def g_validGauge_s : List EV → Option (Prop × SV)
  | [.p (.agg [.int .i64 g_edge_lo, .int .i64 g_edge_hi, .int .i64 g_across_lo, .int .i64 g_across_hi, .int .i64 g_bend])] => some (g_validGauge_p (⟨(⟨g_edge_lo, g_edge_hi⟩ : L.Span), (⟨g_across_lo, g_across_hi⟩ : L.Span), g_bend⟩ : L.Gauge), g_validGauge_r (⟨(⟨g_edge_lo, g_edge_hi⟩ : L.Span), (⟨g_across_lo, g_across_hi⟩ : L.Span), g_bend⟩ : L.Gauge))
  | _ => none
abbrev g_validGauge_S : SE.Spec := (specO g_validGauge_s)
def g_validGauge_C : Cfg := { muts := [], frz := lookN [], specs := lookS [(192, g_validSpan_S), (105, g_within_S)], loops := lookL [], iters := lookI [], rfs := lookR [], nils := lookM [] }
theorem g_validGauge_vc (g : L.Gauge) (hp : g_validGauge_p g) : vc Tryz.prog (g_validGauge_C) (bodyOf Tryz.f161) (st0 Tryz.f161 [.p (.agg [.int .i64 g.edge.lo, .int .i64 g.edge.hi, .int .i64 g.across.lo, .int .i64 g.across.hi, .int .i64 g.bend])]) (retFn Tryz.prog Tryz.f161 (g_validGauge_r g)) :=
  @Eq.mpr _ (True ∧ (L.vSpan g.edge (1 : Int) = true → True) ∧ ((bif L.vSpan g.edge (1 : Int) then L.vSpan g.across (0 : Int) else false) = true → True) ∧ (bif bif L.vSpan g.edge (1 : Int) then L.vSpan g.across (0 : Int) else false then L.within g.bend (-1 : Int) (1 : Int) else false) = L.vGauge g) (by kernel_rfl) (by
    exact ⟨trivial, fun _ => trivial, fun _ => trivial, rfl⟩)
theorem g_validGauge_ok : SpecOk Tryz.prog 161 g_validGauge_S := fnX Tryz.func161 (c := bodyOf Tryz.f161) (by kernel_rfl) mixed (fun args p r hs hp => by
  unfold g_validGauge_s at hs
  split at hs
  · cases hs; exact ⟨_, _, g_validGauge_vc _ hp, (.same _ .nil), ⟨show SpecsL Tryz.prog _ from (SpecsL.cons g_validSpan_ok g_validSpan_en (SpecsL.cons g_within_ok g_within_en SpecsL.nil)), rfl, ⟨show ItersL Tryz.prog _ from ItersL.nil, (TrsOk.none (fun _ => rfl))⟩⟩⟩
  · cases hs)
theorem g_validGauge_en : Enters Tryz.prog 161 := fun args w => by kernel_rfl
def g_validGauges1_p (g : L.Gauge) : Prop := True
def g_validGauges1_r (g : L.Gauge) : SV := .bool (!L.vGauge g)
def g_validGauges1_s : List EV → Option (Prop × SV)
  | [.p (.agg [.int .i64 g_edge_lo, .int .i64 g_edge_hi, .int .i64 g_across_lo, .int .i64 g_across_hi, .int .i64 g_bend])] => some (g_validGauges1_p (⟨(⟨g_edge_lo, g_edge_hi⟩ : L.Span), (⟨g_across_lo, g_across_hi⟩ : L.Span), g_bend⟩ : L.Gauge), g_validGauges1_r (⟨(⟨g_edge_lo, g_edge_hi⟩ : L.Span), (⟨g_across_lo, g_across_hi⟩ : L.Span), g_bend⟩ : L.Gauge))
  | _ => none
abbrev g_validGauges1_S : SE.Spec := (specO g_validGauges1_s)
def g_validGauges1_C : Cfg := { muts := [], frz := lookN [], specs := lookS [(161, g_validGauge_S)], loops := lookL [], iters := lookI [], rfs := lookR [], nils := lookM [] }
theorem g_validGauges1_vc (g : L.Gauge) (hp : g_validGauges1_p g) : vc Tryz.prog (g_validGauges1_C) (bodyOf Tryz.f160) (st0 Tryz.f160 [.p (.agg [.int .i64 g.edge.lo, .int .i64 g.edge.hi, .int .i64 g.across.lo, .int .i64 g.across.hi, .int .i64 g.bend])]) (retFn Tryz.prog Tryz.f160 (g_validGauges1_r g)) :=
  @Eq.mpr _ (True ∧ (!L.vGauge g) = !L.vGauge g) (by kernel_rfl) (by
    exact ⟨trivial, rfl⟩)
theorem g_validGauges1_ok : SpecOk Tryz.prog 160 g_validGauges1_S := fnX Tryz.func160 (c := bodyOf Tryz.f160) (by kernel_rfl) mixed (fun args p r hs hp => by
  unfold g_validGauges1_s at hs
  split at hs
  · cases hs; exact ⟨_, _, g_validGauges1_vc _ hp, (.same _ .nil), ⟨show SpecsL Tryz.prog _ from (SpecsL.cons g_validGauge_ok g_validGauge_en SpecsL.nil), rfl, ⟨show ItersL Tryz.prog _ from ItersL.nil, (TrsOk.none (fun _ => rfl))⟩⟩⟩
  · cases hs)
theorem g_validGauges1_en : Enters Tryz.prog 160 := fun args w => by kernel_rfl
theorem g_validGauges1_B : ∀ args p r, g_validGauges1_s args = some (p, r) → ∃ b, r = .bool b := by
  intro args p r h
  unfold g_validGauges1_s at h
  split at h
  · cases h; exact ⟨_, rfl⟩
  · cases h
def g_validGauges_p (l : (L.Sq L.Gauge)) : Prop := l.n ≤ 1000000
def g_validGauges_r (l : (L.Sq L.Gauge)) : SV := .bool (L.gauges l)
def g_validGauges_s : List EV → Option (Prop × SV)
  | [.p (.sl 5 l_n l_g)] => some ((∀ i, i < l_n → l_g i = [.int .i64 ((ofGauge (l_g i)).edge.lo), .int .i64 ((ofGauge (l_g i)).edge.hi), .int .i64 ((ofGauge (l_g i)).across.lo), .int .i64 ((ofGauge (l_g i)).across.hi), .int .i64 ((ofGauge (l_g i)).bend)]) ∧ g_validGauges_p (⟨l_n, fun i => ofGauge (l_g i)⟩ : (L.Sq L.Gauge)), g_validGauges_r (⟨l_n, fun i => ofGauge (l_g i)⟩ : (L.Sq L.Gauge)))
  | _ => none
abbrev g_validGauges_S : SE.Spec := (specO g_validGauges_s)
def g_validGauges_C : Cfg := { muts := [], frz := lookN [], specs := lookS [(105, g_within_S), (159, s_conFG_S), (160, g_validGauges1_S)], loops := lookL [], iters := lookI [], rfs := lookR [], nils := lookM [] }
theorem g_validGauges_vc (l : (L.Sq L.Gauge)) (hp : g_validGauges_p l) : vc Tryz.prog (g_validGauges_C) (bodyOf Tryz.f106) (st0 Tryz.f106 [.p (.sl 5 l.n (fun i => [.int .i64 ((l.g i).edge.lo), .int .i64 ((l.g i).edge.hi), .int .i64 ((l.g i).across.lo), .int .i64 ((l.g i).across.hi), .int .i64 ((l.g i).bend)]))]) (retFn Tryz.prog Tryz.f106 (g_validGauges_r l)) :=
  @Eq.mpr _ (True ∧ (L.within (↑l.n : Int) (3 : Int) (24 : Int) = true → (∀ (i : Nat), i < l.n → [SV.int .i64 (l.g i).edge.lo, SV.int .i64 (l.g i).edge.hi, SV.int .i64 (l.g i).across.lo, SV.int .i64 (l.g i).across.hi, SV.int .i64 (l.g i).bend] = [SV.int .i64 (l.g i).edge.lo, SV.int .i64 (l.g
 i).edge.hi, SV.int .i64 (l.g i).across.lo, SV.int .i64 (l.g i).across.hi, SV.int .i64 (l.g i).bend]) ∧ isB (FSpec.mk (fun («as» : List SV) ↦ preO g_validGauges1_s (List.map EV.p «as» ++ List.map EV.p [])) fun («as» : List SV) ↦ resO g_validGauges1_s (List.map EV.p «as» ++ List.map EV.p []))
 ∧ l.n ≤ (1000000 : Nat) ∧ ∀ (i : Nat), i < l.n → True) ∧ (bif L.within (↑l.n : Int) (3 : Int) (24 : Int) then !L.anyB l.n fun (i : Nat) ↦ L.fbl (FSpec.mk (fun («as» : List SV) ↦ preO g_validGauges1_s (List.map EV.p «as» ++ List.map EV.p [])) fun («as» : List SV) ↦ resO g_validGauges1_s (List.map EV.p «as» ++ List.map EV.p [])) [SV.agg
 [SV.int .i64 (l.g i).edge.lo, SV.int .i64 (l.g i).edge.hi, SV.int .i64 (l.g i).across.lo, SV.int .i64 (l.g i).across.hi, SV.int .i64 (l.g i).bend]] else false) = L.gauges l) (by kernel_rfl) (by
    refine ⟨trivial, fun _ => ⟨fun _ _ => rfl, isB_of g_validGauges1_B _, hp, fun _ _ => trivial⟩, ?_⟩
    exact congrArg (fun b => bif L.within l.n 3 24 then b else false) (not_any_not (f := fun i => L.vGauge (l.g i))))
theorem g_validGauges_ok : SpecOk Tryz.prog 106 g_validGauges_S := fnX Tryz.func106 (c := bodyOf Tryz.f106) (by kernel_rfl) mixed (fun args p r hs hp => by
  unfold g_validGauges_s at hs
  split at hs
  · cases hs; exact ⟨_, _, g_validGauges_vc _ hp.2, (.p (.sl hp.1) .nil), ⟨show SpecsL Tryz.prog _ from (SpecsL.cons g_within_ok g_within_en (SpecsL.cons s_conFG_ok s_conFG_en (SpecsL.cons g_validGauges1_ok g_validGauges1_en SpecsL.nil))), rfl, ⟨show ItersL Tryz.prog _ from ItersL.nil, (TrsOk.none (fun _ => rfl))⟩⟩⟩
  · cases hs)
theorem g_validGauges_en : Enters Tryz.prog 106 := fun args w => by kernel_rfl
def g_validMarks1_p (m : L.Mark) (n : Int) : Prop := -1000000 ≤ n ∧ n ≤ 1000000
def g_validMarks1_r (m : L.Mark) (n : Int) : SV := .bool (L.badMk m n)
def g_validMarks1_s : List EV → Option (Prop × SV)
  | [.p (.agg [.int .i64 m_edge, .int .i64 m_place, .int .i64 m_tone]), .p (.ref [.int .i64 n] 0)] => some (g_validMarks1_p (⟨m_edge, m_place, m_tone⟩ : L.Mark) n, g_validMarks1_r (⟨m_edge, m_place, m_tone⟩ : L.Mark) n)
  | _ => none
abbrev g_validMarks1_S : SE.Spec := (specO g_validMarks1_s)
def g_validMarks1_C : Cfg := { muts := [], frz := lookN [], specs := lookS [(105, g_within_S)], loops := lookL [], iters := lookI [], rfs := lookR [], nils := lookM [] }
theorem g_validMarks1_vc (m : L.Mark) (n : Int) (hp : g_validMarks1_p m n) : vc Tryz.prog (g_validMarks1_C) (bodyOf Tryz.f162) (st0 Tryz.f162 [.p (.agg [.int .i64 m.edge, .int .i64 m.place, .int .i64 m.tone]), .p (.ref [.int .i64 n] 0)]) (retFn Tryz.prog Tryz.f162 (g_validMarks1_r m n)) :=
  @Eq.mpr _ (InK .i64 (n - (1 : Int)) ∧ True ∧ ((!!L.within m.edge (0 : Int) (n - (1 : Int))) = true → True) ∧ ((!bif !L.within m.edge (0 : Int) (n - (1 : Int)) then true else !L.within m.place (0 : Int) (16 : Int)) = true → True) ∧ (bif bif !L.within m.edge (0 : Int) (n - (1 : Int)) then true else !L.within m.place (0 : Int) (16 : Int) then true else !L.within m.tone
 (1 : Int) (16 : Int)) = L.badMk m n) (by kernel_rfl) (by
    obtain ⟨h1, h2⟩ := hp
    exact ⟨InK.of (by omega) (by omega), trivial, fun _ => trivial, fun _ => trivial, rfl⟩)
theorem g_validMarks1_ok : SpecOk Tryz.prog 162 g_validMarks1_S := fnX Tryz.func162 (c := bodyOf Tryz.f162) (by kernel_rfl) mixed (fun args p r hs hp => by
  unfold g_validMarks1_s at hs
  split at hs
  · cases hs; exact ⟨_, _, g_validMarks1_vc _ _ hp, (.same _ (.same _ .nil)), ⟨show SpecsL Tryz.prog _ from (SpecsL.cons g_within_ok g_within_en SpecsL.nil), rfl, ⟨show ItersL Tryz.prog _ from ItersL.nil, (TrsOk.none (fun _ => rfl))⟩⟩⟩
  · cases hs)
theorem g_validMarks1_en : Enters Tryz.prog 162 := fun args w => by kernel_rfl
theorem g_validMarks1_B : ∀ args p r, g_validMarks1_s args = some (p, r) → ∃ b, r = .bool b := by
  intro args p r h
  unfold g_validMarks1_s at h
  split at h
  · cases h; exact ⟨_, rfl⟩
  · cases h
def g_validMarks_p (l : (L.Sq L.Mark)) (n : Int) : Prop := l.n ≤ 1000000 ∧ -1000000 ≤ n ∧ n ≤ 1000000
def g_validMarks_r (l : (L.Sq L.Mark)) (n : Int) : SV := .bool (L.vMarks l n)
def g_validMarks_s : List EV → Option (Prop × SV)
  | [.p (.sl 3 l_n l_g), .p (.int .i64 n)] => some ((∀ i, i < l_n → l_g i = [.int .i64 ((ofMark (l_g i)).edge), .int .i64 ((ofMark (l_g i)).place), .int .i64 ((ofMark (l_g i)).tone)]) ∧ g_validMarks_p (⟨l_n, fun i => ofMark (l_g i)⟩ : (L.Sq L.Mark)) n, g_validMarks_r (⟨l_n, fun i => ofMark (l_g i)⟩ : (L.Sq L.Mark)) n)
  | _ => none
abbrev g_validMarks_S : SE.Spec := (specO g_validMarks_s)
def g_validMarks_C : Cfg := { muts := [], frz := lookN [], specs := lookS [(163, g_risingM_S), (129, g_cmpMarks_S), (164, s_conFM_S), (162, g_validMarks1_S)], loops := lookL [], iters := lookI [], rfs := lookR [], nils := lookM [] }
theorem g_validMarks_vc (l : (L.Sq L.Mark)) (n : Int) (hp : g_validMarks_p l n) : vc Tryz.prog (g_validMarks_C) (bodyOf Tryz.f107) (st0 Tryz.f107 [.p (.sl 3 l.n (fun i => [.int .i64 ((l.g i).edge), .int .i64 ((l.g i).place), .int .i64 ((l.g i).tone)])), .p (.int .i64 n)]) (retFn Tryz.prog Tryz.f107 (g_validMarks_r l n)) :=
  @Eq.mpr _ ((decide ((↑l.n : Int) ≤ (32 : Int)) = true → (∀ (i : Nat), i < l.n → [SV.int .i64 (l.g i).edge, SV.int .i64 (l.g i).place, SV.int .i64 (l.g i).tone] = [SV.int .i64 (l.g i).edge, SV.int .i64 (l.g i).place, SV.int .i64 (l.g i).tone]) ∧ isI (FSpec.mk (fun («as» : List SV) ↦
 preO g_cmpMarks_s (List.map EV.p «as» ++ List.map EV.p [])) fun («as» : List SV) ↦ resO g_cmpMarks_s (List.map EV.p «as» ++ List.map EV.p [])) ∧ l.n ≤ (1000000 : Nat) ∧ ∀ (i : Nat), i + (1 : Nat) < l.n → True) ∧ ((bif decide ((↑l.n : Int) ≤ (32 : Int)) then L.rise l.n fun (i : Nat) ↦ L.fil (FSpec.mk (fun («as» : List SV) ↦ preO
 g_cmpMarks_s (List.map EV.p «as» ++ List.map EV.p [])) fun («as» : List SV) ↦ resO g_cmpMarks_s (List.map EV.p «as» ++ List.map EV.p [])) [SV.agg [SV.int .i64 (l.g (i - (1 : Nat))).edge, SV.int .i64 (l.g (i - (1 : Nat))).place, SV.int .i64 (l.g (i - (1 : Nat))).tone], SV.agg [SV.int .i64
 (l.g i).edge, SV.int .i64 (l.g i).place, SV.int .i64 (l.g i).tone]] else false) = true → (∀ (i : Nat), i < l.n → [SV.int .i64 (l.g i).edge, SV.int .i64 (l.g i).place, SV.int .i64 (l.g i).tone] = [SV.int .i64 (l.g i).edge, SV.int .i64 (l.g i).place, SV.int .i64
 (l.g i).tone]) ∧ isB (FSpec.mk (fun («as» : List SV) ↦ preO g_validMarks1_s (List.map EV.p «as» ++ List.map EV.p [SV.ref [SV.int .i64 n] (nat_lit 0)])) fun («as» : List SV) ↦ resO g_validMarks1_s (List.map EV.p «as» ++ List.map EV.p [SV.ref [SV.int .i64 n] (nat_lit 0)])) ∧ l.n ≤ (1000000 : Nat)
 ∧ ∀ (i : Nat), i < l.n → (-1000000 : Int) ≤ n ∧ n ≤ (1000000 : Int)) ∧ (bif bif decide ((↑l.n : Int) ≤ (32 : Int)) then L.rise l.n fun (i : Nat) ↦ L.fil (FSpec.mk (fun («as» : List SV) ↦ preO g_cmpMarks_s (List.map EV.p «as» ++ List.map EV.p [])) fun («as» : List SV) ↦ resO g_cmpMarks_s (List.map EV.p «as» ++ List.map EV.p []))
 [SV.agg [SV.int .i64 (l.g (i - (1 : Nat))).edge, SV.int .i64 (l.g (i - (1 : Nat))).place, SV.int .i64 (l.g (i - (1 : Nat))).tone], SV.agg [SV.int .i64 (l.g i).edge, SV.int .i64 (l.g i).place, SV.int .i64 (l.g i).tone]] else false then !L.anyB l.n fun (i : Nat) ↦ L.fbl (FSpec.mk
 (fun («as» : List SV) ↦ preO g_validMarks1_s (List.map EV.p «as» ++ List.map EV.p [SV.ref [SV.int .i64 n] (nat_lit 0)])) fun («as» : List SV) ↦ resO g_validMarks1_s (List.map EV.p «as» ++ List.map EV.p [SV.ref [SV.int .i64 n] (nat_lit 0)])) [SV.agg [SV.int .i64 (l.g i).edge,
 SV.int .i64 (l.g i).place, SV.int .i64 (l.g i).tone]] else false) = L.vMarks l n) (by kernel_rfl) (by
    obtain ⟨h1, h2⟩ := hp
    exact ⟨fun _ => ⟨fun _ _ => rfl, isI_of g_cmpMarks_I _, h1, fun _ _ => trivial⟩, fun _ => ⟨fun _ _ => rfl, isB_of g_validMarks1_B _, h1, fun _ _ => h2⟩, vMarks_eq⟩)
theorem g_validMarks_ok : SpecOk Tryz.prog 107 g_validMarks_S := fnX Tryz.func107 (c := bodyOf Tryz.f107) (by kernel_rfl) mixed (fun args p r hs hp => by
  unfold g_validMarks_s at hs
  split at hs
  · cases hs; exact ⟨_, _, g_validMarks_vc _ _ hp.2, (.p (.sl hp.1) (.same _ .nil)), ⟨show SpecsL Tryz.prog _ from (SpecsL.cons g_risingM_ok g_risingM_en (SpecsL.cons g_cmpMarks_ok g_cmpMarks_en (SpecsL.cons s_conFM_ok s_conFM_en (SpecsL.cons g_validMarks1_ok g_validMarks1_en SpecsL.nil)))), rfl, ⟨show ItersL Tryz.prog _ from ItersL.nil, (TrsOk.none (fun _ => rfl))⟩⟩⟩
  · cases hs)
theorem g_validMarks_en : Enters Tryz.prog 107 := fun args w => by kernel_rfl
def g_ValidPiece_p (p : L.Piece) : Prop := p.gauges.n ≤ 1000000 ∧ p.marks.n ≤ 1000000
def g_ValidPiece_r (p : L.Piece) : SV := .bool (L.validPiece p)
def g_ValidPiece_s : List EV → Option (Prop × SV)
  | [.p (.agg [.int .i64 p_id, .int .i64 p_colour, .int .i64 p_rev, .int .i64 p_made, .int .i64 p_swell, .sl 5 p_gauges_n p_gauges_g, .sl 3 p_marks_n p_marks_g])] => some ((∀ i, i < p_gauges_n → p_gauges_g i = [.int .i64 ((ofGauge (p_gauges_g i)).edge.lo), .int .i64 ((ofGauge (p_gauges_g i)).edge.hi), .int .i64 ((ofGauge (p_gauges_g i)).across.lo), .int .i64 ((ofGauge (p_gauges_g i)).across.hi), .int .i64 ((ofGauge (p_gauges_g i)).bend)]) ∧ (∀ i, i < p_marks_n → p_marks_g i = [.int .i64 ((ofMark (p_marks_g i)).edge), .int .i64 ((ofMark (p_marks_g i)).place), .int .i64 ((ofMark (p_marks_g i)).tone)]) ∧ g_ValidPiece_p (⟨p_id, p_colour, p_rev, p_made, p_swell, (⟨p_gauges_n, fun i => ofGauge (p_gauges_g i)⟩ : (L.Sq L.Gauge)), (⟨p_marks_n, fun i => ofMark (p_marks_g i)⟩ : (L.Sq L.Mark))⟩ : L.Piece), g_ValidPiece_r (⟨p_id, p_colour, p_rev, p_made, p_swell, (⟨p_gauges_n, fun i => ofGauge (p_gauges_g i)⟩ : (L.Sq L.Gauge)), (⟨p_marks_n, fun i => ofMark (p_marks_g i)⟩ : (L.Sq L.Mark))⟩ : L.Piece))
  | _ => none
abbrev g_ValidPiece_S : SE.Spec := (specO g_ValidPiece_s)
def g_ValidPiece_C : Cfg := { muts := [], frz := lookN [], specs := lookS [(105, g_within_S), (106, g_validGauges_S), (107, g_validMarks_S)], loops := lookL [], iters := lookI [], rfs := lookR [], nils := lookM [] }
theorem g_ValidPiece_vc (p : L.Piece) (hp : g_ValidPiece_p p) : vc Tryz.prog (g_ValidPiece_C) (bodyOf Tryz.f47) (st0 Tryz.f47 [.p (.agg [.int .i64 p.id, .int .i64 p.colour, .int .i64 p.rev, .int .i64 p.made, .int .i64 p.swell, .sl 5 p.gauges.n (fun i => [.int .i64 ((p.gauges.g i).edge.lo), .int .i64 ((p.gauges.g i).edge.hi), .int .i64 ((p.gauges.g i).across.lo), .int .i64 ((p.gauges.g i).across.hi), .int .i64 ((p.gauges.g i).bend)]), .sl 3 p.marks.n (fun i => [.int .i64 ((p.marks.g i).edge), .int .i64 ((p.marks.g i).place), .int .i64 ((p.marks.g i).tone)])])]) (retFn Tryz.prog Tryz.f47 (g_ValidPiece_r p)) :=
  @Eq.mpr _ (True ∧ (L.within p.id (1 : Int) (65535 : Int) = true → True) ∧ ((bif L.within p.id (1 : Int) (65535 : Int) then L.within p.colour (1 : Int) (16 : Int) else false) = true → True) ∧ ((bif bif L.within p.id (1 : Int) (65535 : Int) then L.within p.colour (1 : Int) (16 : Int) else false then L.within p.rev (1 : Int) (16 : Int) else false) = true → True) ∧ ((bif bif bif
 L.within p.id (1 : Int) (65535 : Int) then L.within p.colour (1 : Int) (16 : Int) else false then L.within p.rev (1 : Int) (16 : Int) else false then L.within p.made (0 : Int) (9999 : Int) else false) = true → True) ∧ ((bif bif bif bif L.within p.id (1 : Int) (65535 : Int) then L.within p.colour (1 : Int) (16 : Int) else false then L.within p.rev (1 : Int) (16 : Int) else
 false then L.within p.made (0 : Int) (9999 : Int) else false then L.within p.swell (-64 : Int) (64 : Int) else false) = true → (∀ (i : Nat), i < p.gauges.n → [SV.int .i64 (p.gauges.g i).edge.lo, SV.int .i64 (p.gauges.g i).edge.hi, SV.int .i64 (p.gauges.g i).across.lo, SV.int .i64 (p.gauges.g i).across.hi,
 SV.int .i64 (p.gauges.g i).bend] = [SV.int .i64 (p.gauges.g i).edge.lo, SV.int .i64 (p.gauges.g i).edge.hi, SV.int .i64 (p.gauges.g i).across.lo, SV.int .i64 (p.gauges.g i).across.hi, SV.int .i64 (p.gauges.g i).bend]) ∧ p.gauges.n ≤ (1000000 : Nat)) ∧ ((bif bif bif bif bif L.within p.id (1 : Int) (65535
 : Int) then L.within p.colour (1 : Int) (16 : Int) else false then L.within p.rev (1 : Int) (16 : Int) else false then L.within p.made (0 : Int) (9999 : Int) else false then L.within p.swell (-64 : Int) (64 : Int) else false then L.gauges (L.Sq.mk p.gauges.n fun (i : Nat) ↦ p.gauges.g i) else false) = true → (∀ (i : Nat), i < p.marks.n → [SV.int .i64
 (p.marks.g i).edge, SV.int .i64 (p.marks.g i).place, SV.int .i64 (p.marks.g i).tone] = [SV.int .i64 (p.marks.g i).edge, SV.int .i64 (p.marks.g i).place, SV.int .i64 (p.marks.g i).tone]) ∧ p.marks.n ≤ (1000000 : Nat) ∧ (-1000000 : Int) ≤ (↑p.gauges.n : Int) ∧ (↑p.gauges.n : Int) ≤ (1000000 : Int)) ∧ (bif bif bif bif bif
 bif L.within p.id (1 : Int) (65535 : Int) then L.within p.colour (1 : Int) (16 : Int) else false then L.within p.rev (1 : Int) (16 : Int) else false then L.within p.made (0 : Int) (9999 : Int) else false then L.within p.swell (-64 : Int) (64 : Int) else false then L.gauges (L.Sq.mk p.gauges.n fun (i : Nat) ↦ p.gauges.g i) else false then L.vMarks (L.Sq.mk p.marks.n fun (i
 : Nat) ↦ p.marks.g i) (↑p.gauges.n : Int) else false) = L.validPiece p) (by kernel_rfl) (by
    obtain ⟨h1, h2⟩ := hp
    exact ⟨trivial, fun _ => trivial, fun _ => trivial, fun _ => trivial, fun _ => trivial, fun _ => ⟨fun _ _ => rfl, h1⟩, fun _ => ⟨fun _ _ => rfl, h2, by omega, by omega⟩, rfl⟩)
theorem g_ValidPiece_ok : SpecOk Tryz.prog 47 g_ValidPiece_S := fnX Tryz.func47 (c := bodyOf Tryz.f47) (by kernel_rfl) mixed (fun args p r hs hp => by
  unfold g_ValidPiece_s at hs
  split at hs
  · cases hs; exact ⟨_, _, g_ValidPiece_vc _ hp.2.2, (.p (.agg rfl (fun i hi => by
      rcases i with _ | i
      · exact (Ext.refl _ : Ext _ _)
      rcases i with _ | i
      · exact (Ext.refl _ : Ext _ _)
      rcases i with _ | i
      · exact (Ext.refl _ : Ext _ _)
      rcases i with _ | i
      · exact (Ext.refl _ : Ext _ _)
      rcases i with _ | i
      · exact (Ext.refl _ : Ext _ _)
      rcases i with _ | i
      · exact (Ext.sl hp.1 : Ext _ _)
      rcases i with _ | i
      · exact (Ext.sl hp.2.1 : Ext _ _)
      exact absurd hi (by simp; try omega))) .nil), ⟨show SpecsL Tryz.prog _ from (SpecsL.cons g_within_ok g_within_en (SpecsL.cons g_validGauges_ok g_validGauges_en (SpecsL.cons g_validMarks_ok g_validMarks_en SpecsL.nil))), rfl, ⟨show ItersL Tryz.prog _ from ItersL.nil, (TrsOk.none (fun _ => rfl))⟩⟩⟩
  · cases hs)
theorem g_ValidPiece_en : Enters Tryz.prog 47 := fun args w => by kernel_rfl
def g_in_p (n : Int) (s : L.Span) : Prop := True
def g_in_r (n : Int) (s : L.Span) : SV := .bool (L.within n s.lo s.hi)
def g_in_s : List EV → Option (Prop × SV)
  | [.p (.int .i64 n), .p (.agg [.int .i64 s_lo, .int .i64 s_hi])] => some (g_in_p n (⟨s_lo, s_hi⟩ : L.Span), g_in_r n (⟨s_lo, s_hi⟩ : L.Span))
  | _ => none
abbrev g_in_S : SE.Spec := (specO g_in_s)
def g_in_C : Cfg := { muts := [], frz := lookN [], specs := lookS [(105, g_within_S)], loops := lookL [], iters := lookI [], rfs := lookR [], nils := lookM [] }
theorem g_in_vc (n : Int) (s : L.Span) (hp : g_in_p n s) : vc Tryz.prog (g_in_C) (bodyOf Tryz.f194) (st0 Tryz.f194 [.p (.int .i64 n), .p (.agg [.int .i64 s.lo, .int .i64 s.hi])]) (retFn Tryz.prog Tryz.f194 (g_in_r n s)) :=
  @Eq.mpr _ (True ∧ L.within n s.lo s.hi = L.within n s.lo s.hi) (by kernel_rfl) (by
    exact ⟨trivial, rfl⟩)
theorem g_in_ok : SpecOk Tryz.prog 194 g_in_S := fnX Tryz.func194 (c := bodyOf Tryz.f194) (by kernel_rfl) mixed (fun args p r hs hp => by
  unfold g_in_s at hs
  split at hs
  · cases hs; exact ⟨_, _, g_in_vc _ _ hp, (.same _ (.same _ .nil)), ⟨show SpecsL Tryz.prog _ from (SpecsL.cons g_within_ok g_within_en SpecsL.nil), rfl, ⟨show ItersL Tryz.prog _ from ItersL.nil, (TrsOk.none (fun _ => rfl))⟩⟩⟩
  · cases hs)
theorem g_in_en : Enters Tryz.prog 194 := fun args w => by kernel_rfl
def r3_ValidGauge_p (g : L.Gauge) : Prop := True
def r3_ValidGauge_r (g : L.Gauge) : SV := .bool (L.vGauge g)
def r3_ValidGauge_s : List EV → Option (Prop × SV)
  | [.p (.agg [.int .i64 g_edge_lo, .int .i64 g_edge_hi, .int .i64 g_across_lo, .int .i64 g_across_hi, .int .i64 g_bend])] => some (r3_ValidGauge_p (⟨(⟨g_edge_lo, g_edge_hi⟩ : L.Span), (⟨g_across_lo, g_across_hi⟩ : L.Span), g_bend⟩ : L.Gauge), r3_ValidGauge_r (⟨(⟨g_edge_lo, g_edge_hi⟩ : L.Span), (⟨g_across_lo, g_across_hi⟩ : L.Span), g_bend⟩ : L.Gauge))
  | _ => none
abbrev r3_ValidGauge_S : SE.Spec := (specO r3_ValidGauge_s)
def r3_ValidGauge_C : Cfg := { muts := [], frz := lookN [], specs := lookS [(100, r3_within_S)], loops := lookL [], iters := lookI [], rfs := lookR [], nils := lookM [] }
theorem r3_ValidGauge_vc (g : L.Gauge) (hp : r3_ValidGauge_p g) : vc Tryz.prog (r3_ValidGauge_C) (bodyOf Tryz.f157) (st0 Tryz.f157 [.p (.agg [.int .i64 g.edge.lo, .int .i64 g.edge.hi, .int .i64 g.across.lo, .int .i64 g.across.hi, .int .i64 g.bend])]) (retFn Tryz.prog Tryz.f157 (r3_ValidGauge_r g)) :=
  @Eq.mpr _ (((bif bif bif bif bif decide ((0 : Int) < g.edge.lo) then decide (g.edge.lo ≤ g.edge.hi) else false then decide (g.edge.hi ≤ (33554432 : Int)) else false then decide ((0 : Int) ≤ g.across.lo) else false then decide (g.across.lo ≤ g.across.hi) else false then decide (g.across.hi ≤ (33554432 : Int)) else false) =
 true → True) ∧ (bif bif bif bif bif bif decide ((0 : Int) < g.edge.lo) then decide (g.edge.lo ≤ g.edge.hi) else false then decide (g.edge.hi ≤ (33554432 : Int)) else false then decide ((0 : Int) ≤ g.across.lo) else false then decide (g.across.lo ≤ g.across.hi) else false then decide (g.across.hi ≤ (33554432 :
 Int)) else false then L.within g.bend (-1 : Int) (1 : Int) else false) = L.vGauge g) (by kernel_rfl) (by
    refine ⟨fun _ => trivial, ?_⟩
    rw [Bool.eq_iff_iff]
    simp only [band, L.vGauge, L.vSpan, Bool.and_eq_true, decide_eq_true_eq]
    grind)
theorem r3_ValidGauge_ok : SpecOk Tryz.prog 157 r3_ValidGauge_S := fnX Tryz.func157 (c := bodyOf Tryz.f157) (by kernel_rfl) mixed (fun args p r hs hp => by
  unfold r3_ValidGauge_s at hs
  split at hs
  · cases hs; exact ⟨_, _, r3_ValidGauge_vc _ hp, (.same _ .nil), ⟨show SpecsL Tryz.prog _ from (SpecsL.cons r3_within_ok r3_within_en SpecsL.nil), rfl, ⟨show ItersL Tryz.prog _ from ItersL.nil, (TrsOk.none (fun _ => rfl))⟩⟩⟩
  · cases hs)
theorem r3_ValidGauge_en : Enters Tryz.prog 157 := fun args w => by kernel_rfl
def r3_gauges_p (l : (L.Sq L.Gauge)) : Prop := l.n ≤ 9223372036854775807
def r3_gauges_r (l : (L.Sq L.Gauge)) : SV := .bool (L.gauges l)
def r3_gauges_s : List EV → Option (Prop × SV)
  | [.p (.sl 5 l_n l_g)] => some ((∀ i, i < l_n → l_g i = [.int .i64 ((ofGauge (l_g i)).edge.lo), .int .i64 ((ofGauge (l_g i)).edge.hi), .int .i64 ((ofGauge (l_g i)).across.lo), .int .i64 ((ofGauge (l_g i)).across.hi), .int .i64 ((ofGauge (l_g i)).bend)]) ∧ r3_gauges_p (⟨l_n, fun i => ofGauge (l_g i)⟩ : (L.Sq L.Gauge)), r3_gauges_r (⟨l_n, fun i => ofGauge (l_g i)⟩ : (L.Sq L.Gauge)))
  | _ => none
abbrev r3_gauges_S : SE.Spec := (specO r3_gauges_s)
def r3_gauges_C : Cfg := { muts := [], frz := lookN [], specs := lookS [(157, r3_ValidGauge_S)], loops := fun _ => none, iters := lookI [], rfs := lookR [], nils := lookM [] }
theorem r3_gauges_vc (l : (L.Sq L.Gauge)) (hp : r3_gauges_p l) : vc Tryz.prog ({ r3_gauges_C with loops := lookL [(4, { T := Nat, keep := [0], keepO := [], chg := fun i => [(3, .p (.int .i64 (i : Int)))], own := fun _ => [], inv := fun i => i ≤ l.n ∧ ∀ j, j < i → L.vGauge (l.g j) = true, mu := fun i => l.n - i })], rfs := lookR [] }) (bodyOf Tryz.f101) (st0 Tryz.f101 [.p (.sl 5 l.n (fun i => [.int .i64 ((l.g i).edge.lo), .int .i64 ((l.g i).edge.hi), .int .i64 ((l.g i).across.lo), .int .i64 ((l.g i).across.hi), .int .i64 ((l.g i).bend)]))]) (retFn Tryz.prog Tryz.f101 (r3_gauges_r l)) :=
  @Eq.mpr _ (((bif decide ((↑l.n : Int) < (3 : Int)) then true else decide ((24 : Int) < (↑l.n : Int))) = true → false = L.gauges l) ∧ ((bif decide ((↑l.n : Int) < (3 : Int)) then true else decide ((24 : Int) < (↑l.n : Int))) = false → (∃ (g : Nat), (0 : Int) = (↑g : Int) ∧ g ≤ l.n ∧ ∀ (j : Nat), j < g → L.vGauge (l.g j) = true) ∧ ∀ (g :
 Nat), (g ≤ l.n ∧ ∀ (j : Nat), j < g → L.vGauge (l.g j) = true) → (decide ((↑g : Int) < (↑l.n : Int)) = true → ((0 : Int) ≤ (↑g : Int) ∧ (↑g : Int) < (↑l.n : Int)) ∧ True ∧ ((!L.vGauge (l.g (Int.toNat (↑g : Int)))) = true → false = L.gauges l) ∧ ((!L.vGauge (l.g (Int.toNat (↑g : Int)))) = false → InK .i64 ((↑g : Int) + (1 : Int)) ∧ ∃ (g' : Nat),
 (↑g : Int) + (1 : Int) = (↑g' : Int) ∧ (l.n = l.n ∧ ∀ (i : Nat), i < l.n → [SV.int .i64 (l.g i).edge.lo, SV.int .i64 (l.g i).edge.hi, SV.int .i64 (l.g i).across.lo, SV.int .i64 (l.g i).across.hi, SV.int .i64 (l.g i).bend] = [SV.int .i64 (l.g i).edge.lo, SV.int .i64 (l.g i).edge.hi,
 SV.int .i64 (l.g i).across.lo, SV.int .i64 (l.g i).across.hi, SV.int .i64 (l.g i).bend]) ∧ (g' ≤ l.n ∧ ∀ (j : Nat), j < g' → L.vGauge (l.g j) = true) ∧ l.n - g' < l.n - g)) ∧ (decide ((↑g : Int) < (↑l.n : Int)) = false → true = L.gauges l))) (by kernel_rfl) (by
    have hn : l.n ≤ 9223372036854775807 := hp
    refine ⟨fun h => ?_, fun h => ⟨⟨(0 : Nat), rfl, Nat.zero_le _, fun j hj => absurd hj (Nat.not_lt_zero _)⟩, fun g hg => ⟨fun hlt => ?_, fun hge => ?_⟩⟩⟩
    · have : L.within l.n 3 24 = false := by
        rw [Bool.eq_false_iff, Ne, within_iff]; simp only [bor, Bool.or_eq_true, decide_eq_true_eq] at h; omega
      unfold L.gauges; rw [this]; rfl
    · have hb : (g : Int) < (l.n : Int) := of_decide_eq_true hlt
      have e0 : ((g : Int)).toNat = g := by omega
      rw [e0]
      refine ⟨by omega, trivial, fun h => ?_, fun h => ?_⟩
      · have h : L.vGauge (l.g g) = false := by simpa using h
        unfold L.gauges
        rw [allB_false (i := g) (by omega) h]
        cases L.within l.n 3 24 <;> rfl
      · have h : L.vGauge (l.g g) = true := by simpa using h
        exact ⟨InK.of (by omega) (by omega), g + 1, by omega, ⟨rfl, fun _ _ => rfl⟩, ⟨by omega, fun j hj => by
          rcases Nat.lt_succ_iff_lt_or_eq.1 hj with h' | rfl
          · exact hg.2 j h'
          · exact h⟩, by omega⟩
    · have hb : ¬ (g : Int) < (l.n : Int) := of_decide_eq_false hge
      have : L.within l.n 3 24 = true := by
        rw [within_iff]; simp only [bor, Bool.or_eq_false_iff, decide_eq_false_iff_not] at h; omega
      unfold L.gauges
      rw [this, allB_iff.2 (fun i hi => hg.2 i (by omega))]; rfl)
theorem r3_gauges_ok : SpecOk Tryz.prog 101 r3_gauges_S := fnX Tryz.func101 (c := bodyOf Tryz.f101) (by kernel_rfl) mixed (fun args p r hs hp => by
  unfold r3_gauges_s at hs
  split at hs
  · cases hs; exact ⟨_, _, r3_gauges_vc _ hp.2, (.p (.sl hp.1) .nil), ⟨show SpecsL Tryz.prog _ from (SpecsL.cons r3_ValidGauge_ok r3_ValidGauge_en SpecsL.nil), rfl, ⟨show ItersL Tryz.prog _ from ItersL.nil, (TrsOk.none (fun _ => rfl))⟩⟩⟩
  · cases hs)
theorem r3_gauges_en : Enters Tryz.prog 101 := fun args w => by kernel_rfl
def r3_ValidPiece_p (p : L.Piece) : Prop := p.gauges.n ≤ 9223372036854775807 ∧ p.marks.n ≤ 9223372036854775807
def r3_ValidPiece_r (p : L.Piece) : SV := .bool (L.validPiece p)
def r3_ValidPiece_s : List EV → Option (Prop × SV)
  | [.p (.agg [.int .i64 p_id, .int .i64 p_colour, .int .i64 p_rev, .int .i64 p_made, .int .i64 p_swell, .sl 5 p_gauges_n p_gauges_g, .sl 3 p_marks_n p_marks_g])] => some ((∀ i, i < p_gauges_n → p_gauges_g i = [.int .i64 ((ofGauge (p_gauges_g i)).edge.lo), .int .i64 ((ofGauge (p_gauges_g i)).edge.hi), .int .i64 ((ofGauge (p_gauges_g i)).across.lo), .int .i64 ((ofGauge (p_gauges_g i)).across.hi), .int .i64 ((ofGauge (p_gauges_g i)).bend)]) ∧ (∀ i, i < p_marks_n → p_marks_g i = [.int .i64 ((ofMark (p_marks_g i)).edge), .int .i64 ((ofMark (p_marks_g i)).place), .int .i64 ((ofMark (p_marks_g i)).tone)]) ∧ r3_ValidPiece_p (⟨p_id, p_colour, p_rev, p_made, p_swell, (⟨p_gauges_n, fun i => ofGauge (p_gauges_g i)⟩ : (L.Sq L.Gauge)), (⟨p_marks_n, fun i => ofMark (p_marks_g i)⟩ : (L.Sq L.Mark))⟩ : L.Piece), r3_ValidPiece_r (⟨p_id, p_colour, p_rev, p_made, p_swell, (⟨p_gauges_n, fun i => ofGauge (p_gauges_g i)⟩ : (L.Sq L.Gauge)), (⟨p_marks_n, fun i => ofMark (p_marks_g i)⟩ : (L.Sq L.Mark))⟩ : L.Piece))
  | _ => none
abbrev r3_ValidPiece_S : SE.Spec := (specO r3_ValidPiece_s)
def r3_ValidPiece_C : Cfg := { muts := [], frz := lookN [], specs := lookS [(100, r3_within_S), (101, r3_gauges_S), (102, r3_marks_S)], loops := fun _ => none, iters := lookI [], rfs := lookR [], nils := lookM [] }
theorem r3_ValidPiece_vc (p : L.Piece) (hp : r3_ValidPiece_p p) : vc Tryz.prog ({ r3_ValidPiece_C with loops := lookL [(2, { T := Nat, keep := [1], keepO := [], chg := fun i => [(3, .p (.int .i64 (i : Int)))], own := fun _ => [], inv := fun i => i ≤ p.marks.n ∧ ∀ j, j < i → L.within (p.marks.g j).edge 0 (p.gauges.n - 1) = true, mu := fun i => p.marks.n - i })], rfs := lookR [] }) (bodyOf Tryz.f43) (st0 Tryz.f43 [.p (.agg [.int .i64 p.id, .int .i64 p.colour, .int .i64 p.rev, .int .i64 p.made, .int .i64 p.swell, .sl 5 p.gauges.n (fun i => [.int .i64 ((p.gauges.g i).edge.lo), .int .i64 ((p.gauges.g i).edge.hi), .int .i64 ((p.gauges.g i).across.lo), .int .i64 ((p.gauges.g i).across.hi), .int .i64 ((p.gauges.g i).bend)]), .sl 3 p.marks.n (fun i => [.int .i64 ((p.marks.g i).edge), .int .i64 ((p.marks.g i).place), .int .i64 ((p.marks.g i).tone)])])]) (retFn Tryz.prog Tryz.f43 (r3_ValidPiece_r p)) :=
  @Eq.mpr _ ((∃ (g : Nat), (0 : Int) = (↑g : Int) ∧ g ≤ p.marks.n ∧ ∀ (j : Nat), j < g → L.within (p.marks.g j).edge (0 : Int) ((↑p.gauges.n : Int) - (1 : Int)) = true) ∧ ∀ (g : Nat), (g ≤ p.marks.n ∧ ∀ (j : Nat), j < g → L.within (p.marks.g j).edge (0 : Int) ((↑p.gauges.n : Int) - (1 : Int)) = true) → (decide ((↑g : Int) < (↑p.marks.n : Int)) = true → ((0 : Int) ≤ (↑g : Int) ∧ (↑g :
 Int) < (↑p.marks.n : Int)) ∧ InK .i64 ((↑p.gauges.n : Int) - (1 : Int)) ∧ True ∧ ((!L.within (p.marks.g (Int.toNat (↑g : Int))).edge (0 : Int) ((↑p.gauges.n : Int) - (1 : Int))) = true → false = L.validPiece p) ∧ ((!L.within (p.marks.g (Int.toNat (↑g : Int))).edge (0 : Int) ((↑p.gauges.n : Int) - (1 : Int))) = false → InK .i64 ((↑g : Int) + (1 : Int))
 ∧ ∃ (g' : Nat), (↑g : Int) + (1 : Int) = (↑g' : Int) ∧ SV.ref [SV.int .i64 p.id, SV.int .i64 p.colour, SV.int .i64 p.rev, SV.int .i64 p.made, SV.int .i64 p.swell, SV.sl (nat_lit 5) p.gauges.n fun (i : Nat) ↦ [SV.int .i64 (p.gauges.g i).edge.lo, SV.int .i64 (p.gauges.g
 i).edge.hi, SV.int .i64 (p.gauges.g i).across.lo, SV.int .i64 (p.gauges.g i).across.hi, SV.int .i64 (p.gauges.g i).bend], SV.sl (nat_lit 3) p.marks.n fun (i : Nat) ↦ [SV.int .i64 (p.marks.g i).edge, SV.int .i64 (p.marks.g i).place, SV.int .i64 (p.marks.g i).tone]] (nat_lit 0) = SV.ref
 [SV.int .i64 p.id, SV.int .i64 p.colour, SV.int .i64 p.rev, SV.int .i64 p.made, SV.int .i64 p.swell, SV.sl (nat_lit 5) p.gauges.n fun (i : Nat) ↦ [SV.int .i64 (p.gauges.g i).edge.lo, SV.int .i64 (p.gauges.g i).edge.hi, SV.int .i64 (p.gauges.g i).across.lo,
 SV.int .i64 (p.gauges.g i).across.hi, SV.int .i64 (p.gauges.g i).bend], SV.sl (nat_lit 3) p.marks.n fun (i : Nat) ↦ [SV.int .i64 (p.marks.g i).edge, SV.int .i64 (p.marks.g i).place, SV.int .i64 (p.marks.g i).tone]] (nat_lit 0) ∧ (g' ≤ p.marks.n ∧ ∀ (j : Nat), j < g' → L.within (p.marks.g j).edge (0 : Int)
 ((↑p.gauges.n : Int) - (1 : Int)) = true) ∧ p.marks.n - g' < p.marks.n - g)) ∧ (decide ((↑g : Int) < (↑p.marks.n : Int)) = false → True ∧ (L.within p.id (1 : Int) (65535 : Int) = true → True) ∧ ((bif L.within p.id (1 : Int) (65535 : Int) then L.within p.colour (1 : Int) (16 : Int) else false) = true → True) ∧ ((bif bif L.within p.id (1 : Int) (65535 : Int) then
 L.within p.colour (1 : Int) (16 : Int) else false then L.within p.rev (1 : Int) (16 : Int) else false) = true → True) ∧ ((bif bif bif L.within p.id (1 : Int) (65535 : Int) then L.within p.colour (1 : Int) (16 : Int) else false then L.within p.rev (1 : Int) (16 : Int) else false then L.within p.made (0 : Int) (9999 : Int) else false) = true → True) ∧ ((bif bif bif
 bif L.within p.id (1 : Int) (65535 : Int) then L.within p.colour (1 : Int) (16 : Int) else false then L.within p.rev (1 : Int) (16 : Int) else false then L.within p.made (0 : Int) (9999 : Int) else false then L.within p.swell (-64 : Int) (64 : Int) else false) = true → (∀ (i : Nat), i < p.gauges.n → [SV.int .i64 (p.gauges.g i).edge.lo, SV.int
 .i64 (p.gauges.g i).edge.hi, SV.int .i64 (p.gauges.g i).across.lo, SV.int .i64 (p.gauges.g i).across.hi, SV.int .i64 (p.gauges.g i).bend] = [SV.int .i64 (p.gauges.g i).edge.lo, SV.int .i64 (p.gauges.g i).edge.hi, SV.int .i64 (p.gauges.g i).across.lo, SV.int .i64 (p.gauges.g
 i).across.hi, SV.int .i64 (p.gauges.g i).bend]) ∧ p.gauges.n ≤ (9223372036854775807 : Nat)) ∧ ((bif bif bif bif bif L.within p.id (1 : Int) (65535 : Int) then L.within p.colour (1 : Int) (16 : Int) else false then L.within p.rev (1 : Int) (16 : Int) else false then L.within p.made (0 : Int) (9999 : Int) else false then L.within p.swell (-64 : Int) (64 : Int) else
 false then L.gauges (L.Sq.mk p.gauges.n fun (i : Nat) ↦ p.gauges.g i) else false) = true → (∀ (i : Nat), i < p.marks.n → [SV.int .i64 (p.marks.g i).edge, SV.int .i64 (p.marks.g i).place, SV.int .i64 (p.marks.g i).tone] = [SV.int .i64 (p.marks.g i).edge, SV.int .i64 (p.marks.g i).place, SV.int
 .i64 (p.marks.g i).tone]) ∧ True) ∧ (bif bif bif bif bif bif L.within p.id (1 : Int) (65535 : Int) then L.within p.colour (1 : Int) (16 : Int) else false then L.within p.rev (1 : Int) (16 : Int) else false then L.within p.made (0 : Int) (9999 : Int) else false then L.within p.swell (-64 : Int) (64 : Int) else false then L.gauges (L.Sq.mk p.gauges.n fun (i : Nat) ↦
 p.gauges.g i) else false then L.marks (L.Sq.mk p.marks.n fun (i : Nat) ↦ p.marks.g i) else false) = L.validPiece p)) (by kernel_rfl) (by
    obtain ⟨h1, h2⟩ := hp
    refine ⟨⟨(0 : Nat), rfl, Nat.zero_le _, fun j hj => absurd hj (Nat.not_lt_zero _)⟩, fun g hg => ⟨fun hlt => ?_, fun hge => ?_⟩⟩
    · have hb : (g : Int) < (p.marks.n : Int) := of_decide_eq_true hlt
      have e0 : ((g : Int)).toNat = g := by omega
      rw [e0]
      refine ⟨by omega, InK.of (by omega) (by omega), trivial, fun h => ?_, fun h => ?_⟩
      · have h : L.within (p.marks.g g).edge 0 (p.gauges.n - 1) = false := by simpa using h
        have : L.edges p.marks p.gauges.n = false := allB_false (i := g) (by omega) h
        unfold L.validPiece L.vMarks
        rw [this]
        cases L.nums p <;> cases L.gauges p.gauges <;> rfl
      · have h : L.within (p.marks.g g).edge 0 (p.gauges.n - 1) = true := by simpa using h
        exact ⟨InK.of (by omega) (by omega), g + 1, by omega, rfl, ⟨by omega, fun j hj => by
          rcases Nat.lt_succ_iff_lt_or_eq.1 hj with h' | rfl
          · exact hg.2 j h'
          · exact h⟩, by omega⟩
    · have hb : ¬ (g : Int) < (p.marks.n : Int) := of_decide_eq_false hge
      have : L.edges p.marks p.gauges.n = true := allB_iff.2 (fun i hi => hg.2 i (by omega))
      refine ⟨trivial, fun _ => trivial, fun _ => trivial, fun _ => trivial, fun _ => trivial, fun _ => ⟨fun _ _ => rfl, h1⟩, fun _ => ⟨fun _ _ => rfl, trivial⟩, ?_⟩
      unfold L.validPiece L.vMarks
      rw [this]; rfl)
theorem r3_ValidPiece_ok : SpecOk Tryz.prog 43 r3_ValidPiece_S := fnX Tryz.func43 (c := bodyOf Tryz.f43) (by kernel_rfl) mixed (fun args p r hs hp => by
  unfold r3_ValidPiece_s at hs
  split at hs
  · cases hs; exact ⟨_, _, r3_ValidPiece_vc _ hp.2.2, (.p (.agg rfl (fun i hi => by
      rcases i with _ | i
      · exact (Ext.refl _ : Ext _ _)
      rcases i with _ | i
      · exact (Ext.refl _ : Ext _ _)
      rcases i with _ | i
      · exact (Ext.refl _ : Ext _ _)
      rcases i with _ | i
      · exact (Ext.refl _ : Ext _ _)
      rcases i with _ | i
      · exact (Ext.refl _ : Ext _ _)
      rcases i with _ | i
      · exact (Ext.sl hp.1 : Ext _ _)
      rcases i with _ | i
      · exact (Ext.sl hp.2.1 : Ext _ _)
      exact absurd hi (by simp; try omega))) .nil), ⟨show SpecsL Tryz.prog _ from (SpecsL.cons r3_within_ok r3_within_en (SpecsL.cons r3_gauges_ok r3_gauges_en (SpecsL.cons r3_marks_ok r3_marks_en SpecsL.nil))), rfl, ⟨show ItersL Tryz.prog _ from ItersL.nil, (TrsOk.none (fun _ => rfl))⟩⟩⟩
  · cases hs)
theorem r3_ValidPiece_en : Enters Tryz.prog 43 := fun args w => by kernel_rfl
end Go.Proofs.YtooapgllahonaaaGreat

namespace Go.Proofs.YtooapgllahonaaaGreat
open Go.SE Go.RowKit
set_option maxRecDepth 100000
set_option maxHeartbeats 4000000
set_option linter.unusedVariables false
attribute [local irreducible] vc

def L.sett (k : Nat) : L.Setting := ⟨Int.tdiv (k : Int) 2, decide (Int.tmod (k : Int) 2 = 1)⟩
def L.validSet (s : L.Setting) (n : Int) : Bool := bif L.within n 3 24 then L.within s.shift 0 (n - 1) else false
theorem sett_lt {k n : Nat} (h : k < 2 * n) : 0 ≤ (L.sett k).shift ∧ (L.sett k).shift < (n : Int) := by
  unfold L.sett
  dsimp only
  rw [Int.tdiv_eq_ediv_of_nonneg (by omega)]
  omega
theorem validSet_iff {s : L.Setting} {n : Int} : L.validSet s n = true ↔ (3 ≤ n ∧ n ≤ 24) ∧ 0 ≤ s.shift ∧ s.shift < n := by
  unfold L.validSet
  rw [band, Bool.and_eq_true, within_iff, within_iff]
  omega
def L.sameS (a b : L.Setting) : Bool := decide (a.shift = b.shift) && (a.back == b.back)
theorem sett_even (g : Nat) : L.sett (2 * g) = ⟨(g : Int), false⟩ := by
  unfold L.sett
  rw [Int.tdiv_eq_ediv_of_nonneg (by omega), Int.tmod_eq_emod_of_nonneg (by omega), decide_eq_false (by omega), show ((2 * g : Nat) : Int) / 2 = (g : Int) by omega]
theorem sett_odd (g : Nat) : L.sett (2 * g + 1) = ⟨(g : Int), true⟩ := by
  unfold L.sett
  rw [Int.tdiv_eq_ediv_of_nonneg (by omega), Int.tmod_eq_emod_of_nonneg (by omega), decide_eq_true (by omega), show ((2 * g + 1 : Nat) : Int) / 2 = (g : Int) by omega]
theorem sameS_refl (a : L.Setting) : L.sameS a a = true := by simp [L.sameS]
def L.lay (s : L.Setting) (n i : Int) : Int := bif s.back then Int.tmod (s.shift + n - i) n else Int.tmod (s.shift + i) n
def L.compE (s t : L.Setting) (n : Int) : Int := bif (bif !L.validSet s n then true else !L.validSet t n) then 1 else 0
def L.comp (s t : L.Setting) (n : Int) : L.Setting := bif decide (L.compE s t n = 0) then ⟨L.lay t n s.shift, !(s.back == t.back)⟩ else ⟨0, false⟩
def L.inv (s : L.Setting) (n : Int) : L.Setting := bif L.validSet s n then (bif s.back then s else ⟨Int.tmod (n - s.shift) n, false⟩) else ⟨0, false⟩
def L.invE (s : L.Setting) (n : Int) : Int := bif L.validSet s n then 0 else 1
def L.edE (s : L.Setting) (n i : Int) : Int := bif (bif !L.validSet s n then true else !L.within i 0 (n - 1)) then 1 else 0
def L.ed (s : L.Setting) (n i : Int) : Int := bif decide (L.edE s n i = 0) then L.lay s n i else 0
def p_ValidSetting_p (s : L.Setting) (n : Int) : Prop := True
def p_ValidSetting_r (s : L.Setting) (n : Int) : SV := .bool (L.validSet s n)
def p_ValidSetting_s : List EV → Option (Prop × SV)
  | [.p (.agg [.int .i64 s_shift, .bool s_back]), .p (.int .i64 n)] => some (p_ValidSetting_p (⟨s_shift, s_back⟩ : L.Setting) n, p_ValidSetting_r (⟨s_shift, s_back⟩ : L.Setting) n)
  | _ => none
abbrev p_ValidSetting_S : SE.Spec := (specO p_ValidSetting_s)
def p_ValidSetting_C : Cfg := { muts := [], frz := lookN [], specs := lookS [(77, p_within_S)], loops := lookL [], iters := lookI [], rfs := lookR [], nils := lookM [] }
theorem p_ValidSetting_vc (s : L.Setting) (n : Int) (hp : p_ValidSetting_p s n) : vc Tryz.prog (p_ValidSetting_C) (bodyOf Tryz.f103) (st0 Tryz.f103 [.p (.agg [.int .i64 s.shift, .bool s.back]), .p (.int .i64 n)]) (retFn Tryz.prog Tryz.f103 (p_ValidSetting_r s n)) :=
  @Eq.mpr _ (True ∧ (L.within n (3 : Int) (24 : Int) = true → InK .i64 (n - (1 : Int))) ∧ (L.within n (3 : Int) (24 : Int) = true → True) ∧ (bif L.within n (3 : Int) (24 : Int) then L.within s.shift (0 : Int) (n - (1 : Int)) else false) = L.validSet s n) (by kernel_rfl) (by
    exact ⟨trivial, fun h => (by have := within_iff.1 h; exact InK.of (by omega) (by omega)), fun _ => trivial, rfl⟩)
theorem p_ValidSetting_ok : SpecOk Tryz.prog 103 p_ValidSetting_S := fnX Tryz.func103 (c := bodyOf Tryz.f103) (by kernel_rfl) mixed (fun args p r hs hp => by
  unfold p_ValidSetting_s at hs
  split at hs
  · cases hs; exact ⟨_, _, p_ValidSetting_vc _ _ hp, (.same _ (.same _ .nil)), ⟨show SpecsL Tryz.prog _ from (SpecsL.cons p_within_ok p_within_en SpecsL.nil), rfl, ⟨show ItersL Tryz.prog _ from ItersL.nil, (TrsOk.none (fun _ => rfl))⟩⟩⟩
  · cases hs)
theorem p_ValidSetting_en : Enters Tryz.prog 103 := fun args w => by kernel_rfl
def p_lay_p (s : L.Setting) (n : Int) (i : Int) : Prop := 1 ≤ n ∧ n ≤ 1000000 ∧ -1000000 ≤ s.shift ∧ s.shift ≤ 1000000 ∧ -1000000 ≤ i ∧ i ≤ 1000000
def p_lay_r (s : L.Setting) (n : Int) (i : Int) : SV := .int .i64 (L.lay s n i)
def p_lay_s : List EV → Option (Prop × SV)
  | [.p (.agg [.int .i64 s_shift, .bool s_back]), .p (.int .i64 n), .p (.int .i64 i)] => some (p_lay_p (⟨s_shift, s_back⟩ : L.Setting) n i, p_lay_r (⟨s_shift, s_back⟩ : L.Setting) n i)
  | _ => none
abbrev p_lay_S : SE.Spec := (specO p_lay_s)
def p_lay_C : Cfg := { muts := [], frz := lookN [], specs := lookS [], loops := lookL [], iters := lookI [], rfs := lookR [], nils := lookM [] }
theorem p_lay_vc (s : L.Setting) (n : Int) (i : Int) (hp : p_lay_p s n i) : vc Tryz.prog (p_lay_C) (bodyOf Tryz.f104) (st0 Tryz.f104 [.p (.agg [.int .i64 s.shift, .bool s.back]), .p (.int .i64 n), .p (.int .i64 i)]) (retFn Tryz.prog Tryz.f104 (p_lay_r s n i)) :=
  @Eq.mpr _ ((s.back = true → InK .i64 (s.shift + n) ∧ InK .i64 (s.shift + n - i) ∧ n ≠ (0 : Int) ∧ Int.tmod (s.shift + n - i) n = L.lay s n i) ∧ (s.back = false → InK .i64 (s.shift + i) ∧ n ≠ (0 : Int) ∧ Int.tmod (s.shift + i) n = L.lay s n i)) (by kernel_rfl) (by
    obtain ⟨h1, h2, h3, h4, h5, h6⟩ := hp
    refine ⟨fun h => ⟨InK.of (by omega) (by omega), InK.of (by omega) (by omega), by omega, ?_⟩, fun h => ⟨InK.of (by omega) (by omega), by omega, ?_⟩⟩
    · unfold L.lay; rw [h]; rfl
    · unfold L.lay; rw [h]; rfl)
theorem p_lay_ok : SpecOk Tryz.prog 104 p_lay_S := fnX Tryz.func104 (c := bodyOf Tryz.f104) (by kernel_rfl) mixed (fun args p r hs hp => by
  unfold p_lay_s at hs
  split at hs
  · cases hs; exact ⟨_, _, p_lay_vc _ _ _ hp, (.same _ (.same _ (.same _ .nil))), ⟨show SpecsL Tryz.prog _ from SpecsL.nil, rfl, ⟨show ItersL Tryz.prog _ from ItersL.nil, (TrsOk.none (fun _ => rfl))⟩⟩⟩
  · cases hs)
theorem p_lay_en : Enters Tryz.prog 104 := fun args w => by kernel_rfl
def p_Compose_p (s : L.Setting) (t : L.Setting) (n : Int) : Prop := True
def p_Compose_r (s : L.Setting) (t : L.Setting) (n : Int) : SV := .tup [(.agg [.int .i64 ((L.comp s t n).shift), .bool ((L.comp s t n).back)]), .int .i64 (L.compE s t n)]
def p_Compose_s : List EV → Option (Prop × SV)
  | [.p (.agg [.int .i64 s_shift, .bool s_back]), .p (.agg [.int .i64 t_shift, .bool t_back]), .p (.int .i64 n)] => some (p_Compose_p (⟨s_shift, s_back⟩ : L.Setting) (⟨t_shift, t_back⟩ : L.Setting) n, p_Compose_r (⟨s_shift, s_back⟩ : L.Setting) (⟨t_shift, t_back⟩ : L.Setting) n)
  | _ => none
abbrev p_Compose_S : SE.Spec := (specO p_Compose_s)
def p_Compose_C : Cfg := { muts := [6], frz := lookN [], specs := lookS [(103, p_ValidSetting_S), (104, p_lay_S)], loops := lookL [], iters := lookI [], rfs := lookR [], nils := lookM [] }
theorem p_Compose_vc (s : L.Setting) (t : L.Setting) (n : Int) (hp : p_Compose_p s t n) : vc Tryz.prog (p_Compose_C) (bodyOf Tryz.f45) (st0 Tryz.f45 [.p (.agg [.int .i64 s.shift, .bool s.back]), .p (.agg [.int .i64 t.shift, .bool t.back]), .p (.int .i64 n)]) (retFn Tryz.prog Tryz.f45 (p_Compose_r s t n)) :=
  @Eq.mpr _ (True ∧ ((!!L.validSet s n) = true → True) ∧ ((bif !L.validSet s n then true else !L.validSet t n) = true → SV.agg [SV.int .i64 (0 : Int), SV.bool false] = SV.agg [SV.int .i64 (L.comp s t n).shift, SV.bool (L.comp s t n).back] ∧ (1 : Int) = L.compE s t n) ∧ ((bif !L.validSet s n then true else !L.validSet t n) =
 false → ((1 : Int) ≤ n ∧ n ≤ (1000000 : Int) ∧ (-1000000 : Int) ≤ t.shift ∧ t.shift ≤ (1000000 : Int) ∧ (-1000000 : Int) ≤ s.shift ∧ s.shift ≤ (1000000 : Int)) ∧ SV.agg [SV.int .i64 (L.lay t n s.shift), SV.bool !s.back == t.back] = SV.agg [SV.int .i64 (L.comp s t n).shift, SV.bool (L.comp s t n).back] ∧ (0 : Int) = L.compE s t n)) (by kernel_rfl) (by
    refine ⟨trivial, fun _ => trivial, fun h => ?_, fun h => ?_⟩
    · have e : L.compE s t n = 1 := by unfold L.compE; rw [h]; rfl
      unfold L.comp; rw [e]; exact ⟨rfl, rfl⟩
    · have e : L.compE s t n = 0 := by unfold L.compE; rw [h]; rfl
      rw [bor, Bool.or_eq_false_iff] at h
      have a := validSet_iff.1 (notF h.1)
      have b := validSet_iff.1 (notF h.2)
      refine ⟨⟨by omega, by omega, by omega, by omega, by omega, by omega⟩, ?_, e.symm⟩
      unfold L.comp; rw [e]; rfl)
theorem p_Compose_ok : SpecOk Tryz.prog 45 p_Compose_S := fnX Tryz.func45 (c := bodyOf Tryz.f45) (by kernel_rfl) mixed (fun args p r hs hp => by
  unfold p_Compose_s at hs
  split at hs
  · cases hs; exact ⟨_, _, p_Compose_vc _ _ _ hp, (.same _ (.same _ (.same _ .nil))), ⟨show SpecsL Tryz.prog _ from (SpecsL.cons p_ValidSetting_ok p_ValidSetting_en (SpecsL.cons p_lay_ok p_lay_en SpecsL.nil)), rfl, ⟨show ItersL Tryz.prog _ from ItersL.nil, (TrsOk.none (fun _ => rfl))⟩⟩⟩
  · cases hs)
theorem p_Compose_en : Enters Tryz.prog 45 := fun args w => by kernel_rfl
def p_Inverse_p (s : L.Setting) (n : Int) : Prop := True
def p_Inverse_r (s : L.Setting) (n : Int) : SV := .tup [(.agg [.int .i64 ((L.inv s n).shift), .bool ((L.inv s n).back)]), .int .i64 (L.invE s n)]
def p_Inverse_s : List EV → Option (Prop × SV)
  | [.p (.agg [.int .i64 s_shift, .bool s_back]), .p (.int .i64 n)] => some (p_Inverse_p (⟨s_shift, s_back⟩ : L.Setting) n, p_Inverse_r (⟨s_shift, s_back⟩ : L.Setting) n)
  | _ => none
abbrev p_Inverse_S : SE.Spec := (specO p_Inverse_s)
def p_Inverse_C : Cfg := { muts := [4], frz := lookN [], specs := lookS [(103, p_ValidSetting_S)], loops := lookL [], iters := lookI [], rfs := lookR [], nils := lookM [] }
theorem p_Inverse_vc (s : L.Setting) (n : Int) (hp : p_Inverse_p s n) : vc Tryz.prog (p_Inverse_C) (bodyOf Tryz.f46) (st0 Tryz.f46 [.p (.agg [.int .i64 s.shift, .bool s.back]), .p (.int .i64 n)]) (retFn Tryz.prog Tryz.f46 (p_Inverse_r s n)) :=
  @Eq.mpr _ (True ∧ ((!L.validSet s n) = true → SV.agg [SV.int .i64 (0 : Int), SV.bool false] = SV.agg [SV.int .i64 (L.inv s n).shift, SV.bool (L.inv s n).back] ∧ (1 : Int) = L.invE s n) ∧ ((!L.validSet s n) = false → (s.back = true → SV.agg [SV.int .i64 s.shift, SV.bool s.back] = SV.agg [SV.int
 .i64 (L.inv s n).shift, SV.bool (L.inv s n).back] ∧ (0 : Int) = L.invE s n) ∧ (s.back = false → InK .i64 (n - s.shift) ∧ n ≠ (0 : Int) ∧ SV.agg [SV.int .i64 (Int.tmod (n - s.shift) n), SV.bool false] = SV.agg [SV.int .i64 (L.inv s n).shift, SV.bool (L.inv s n).back] ∧ (0 : Int) = L.invE s n))) (by kernel_rfl) (by
    refine ⟨trivial, fun h => ?_, fun h => ⟨fun hb => ?_, fun hb => ?_⟩⟩
    · have hv : L.validSet s n = false := notT h
      unfold L.inv L.invE; rw [hv]; exact ⟨rfl, rfl⟩
    · have hv : L.validSet s n = true := notF h
      unfold L.inv L.invE; rw [hv, hb, cond_true, cond_true, hb]; exact ⟨rfl, rfl⟩
    · have hv : L.validSet s n = true := notF h
      have hs := validSet_iff.1 hv
      unfold L.inv L.invE; rw [hv, hb]; exact ⟨InK.of (by omega) (by omega), by omega, rfl, rfl⟩)
theorem p_Inverse_ok : SpecOk Tryz.prog 46 p_Inverse_S := fnX Tryz.func46 (c := bodyOf Tryz.f46) (by kernel_rfl) mixed (fun args p r hs hp => by
  unfold p_Inverse_s at hs
  split at hs
  · cases hs; exact ⟨_, _, p_Inverse_vc _ _ hp, (.same _ (.same _ .nil)), ⟨show SpecsL Tryz.prog _ from (SpecsL.cons p_ValidSetting_ok p_ValidSetting_en SpecsL.nil), rfl, ⟨show ItersL Tryz.prog _ from ItersL.nil, (TrsOk.none (fun _ => rfl))⟩⟩⟩
  · cases hs)
theorem p_Inverse_en : Enters Tryz.prog 46 := fun args w => by kernel_rfl
def p_Edge_p (s : L.Setting) (n : Int) (i : Int) : Prop := True
def p_Edge_r (s : L.Setting) (n : Int) (i : Int) : SV := .tup [.int .i64 (L.ed s n i), .int .i64 (L.edE s n i)]
def p_Edge_s : List EV → Option (Prop × SV)
  | [.p (.agg [.int .i64 s_shift, .bool s_back]), .p (.int .i64 n), .p (.int .i64 i)] => some (p_Edge_p (⟨s_shift, s_back⟩ : L.Setting) n i, p_Edge_r (⟨s_shift, s_back⟩ : L.Setting) n i)
  | _ => none
abbrev p_Edge_S : SE.Spec := (specO p_Edge_s)
def p_Edge_C : Cfg := { muts := [], frz := lookN [], specs := lookS [(103, p_ValidSetting_S), (77, p_within_S), (104, p_lay_S)], loops := lookL [], iters := lookI [], rfs := lookR [], nils := lookM [] }
theorem p_Edge_vc (s : L.Setting) (n : Int) (i : Int) (hp : p_Edge_p s n i) : vc Tryz.prog (p_Edge_C) (bodyOf Tryz.f127) (st0 Tryz.f127 [.p (.agg [.int .i64 s.shift, .bool s.back]), .p (.int .i64 n), .p (.int .i64 i)]) (retFn Tryz.prog Tryz.f127 (p_Edge_r s n i)) :=
  @Eq.mpr _ (True ∧ ((!!L.validSet s n) = true → InK .i64 (n - (1 : Int))) ∧ ((!!L.validSet s n) = true → True) ∧ ((bif !L.validSet s n then true else !L.within i (0 : Int) (n - (1 : Int))) = true → (0 : Int) = L.ed s n i ∧ (1 : Int) = L.edE s n i) ∧ ((bif !L.validSet s n then true else !L.within i (0 : Int) (n - (1 : Int))) = false → ((1 : Int) ≤ n ∧ n ≤ (1000000
 : Int) ∧ (-1000000 : Int) ≤ s.shift ∧ s.shift ≤ (1000000 : Int) ∧ (-1000000 : Int) ≤ i ∧ i ≤ (1000000 : Int)) ∧ L.lay s n i = L.ed s n i ∧ (0 : Int) = L.edE s n i)) (by kernel_rfl) (by
    refine ⟨trivial, fun h => ?_, fun _ => trivial, fun h => ?_, fun h => ?_⟩
    · have hv : L.validSet s n = true := by simpa using (show (!!L.validSet s n) = true from h)
      have hs := validSet_iff.1 hv
      exact InK.of (by omega) (by omega)
    · have e : L.edE s n i = 1 := by unfold L.edE; rw [h]; rfl
      unfold L.ed; rw [e]; exact ⟨rfl, rfl⟩
    · have e : L.edE s n i = 0 := by unfold L.edE; rw [h]; rfl
      rw [bor, Bool.or_eq_false_iff] at h
      have hs := validSet_iff.1 (notF h.1)
      have hi := within_iff.1 (notF h.2)
      unfold L.ed; rw [e]; exact ⟨⟨by omega, by omega, by omega, by omega, by omega, by omega⟩, rfl, rfl⟩)
theorem p_Edge_ok : SpecOk Tryz.prog 127 p_Edge_S := fnX Tryz.func127 (c := bodyOf Tryz.f127) (by kernel_rfl) mixed (fun args p r hs hp => by
  unfold p_Edge_s at hs
  split at hs
  · cases hs; exact ⟨_, _, p_Edge_vc _ _ _ hp, (.same _ (.same _ (.same _ .nil))), ⟨show SpecsL Tryz.prog _ from (SpecsL.cons p_ValidSetting_ok p_ValidSetting_en (SpecsL.cons p_within_ok p_within_en (SpecsL.cons p_lay_ok p_lay_en SpecsL.nil))), rfl, ⟨show ItersL Tryz.prog _ from ItersL.nil, (TrsOk.none (fun _ => rfl))⟩⟩⟩
  · cases hs)
theorem p_Edge_en : Enters Tryz.prog 127 := fun args w => by kernel_rfl
end Go.Proofs.YtooapgllahonaaaGreat

namespace Go.Proofs.YtooapgllahonaaaGreat
open Go.SE Go.RowKit
set_option maxRecDepth 100000
set_option maxHeartbeats 4000000
set_option linter.unusedVariables false
attribute [local irreducible] vc

def L.sameM (a b : L.Mark) : Bool := decide (a.edge = b.edge) && (decide (a.place = b.place) && decide (a.tone = b.tone))
def L.sameMs (a b : L.Sq L.Mark) : Bool := bif decide ((a.n : Int) = b.n) then L.allB a.n (fun i => L.sameM (a.g i) (b.g i)) else false
def L.sameG (a b : L.Gauge) : Bool := (decide (a.edge.lo = b.edge.lo) && decide (a.edge.hi = b.edge.hi)) && ((decide (a.across.lo = b.across.lo) && decide (a.across.hi = b.across.hi)) && decide (a.bend = b.bend))
def L.sameGs (a b : L.Sq L.Gauge) : Bool := bif decide ((a.n : Int) = b.n) then L.allB a.n (fun i => L.sameG (a.g i) (b.g i)) else false
theorem sameM_refl (a : L.Mark) : L.sameM a a = true := by simp [L.sameM]
theorem sameG_refl (a : L.Gauge) : L.sameG a a = true := by simp [L.sameG]
def s_cloneM_p (l : (L.Sq L.Mark)) : Prop := l.n ≤ 1000000
def s_cloneM_q (l : (L.Sq L.Mark)) : Nat → Prop := fun _ => True
def s_cloneM_n (l : (L.Sq L.Mark)) : Nat → Nat := fun _ => l.n
def s_cloneM_g (l : (L.Sq L.Mark)) : Nat → Nat → List SV := fun _ i => [.int .i64 ((l.g i).edge), .int .i64 ((l.g i).place), .int .i64 ((l.g i).tone)]
def s_cloneM_s : List EV → Option (Prop × (Nat → Prop) × (Nat → Nat) × (Nat → Nat → List SV))
  | [.p (.sl 3 l_n l_g)] => some ((∀ i, i < l_n → l_g i = [.int .i64 ((ofMark (l_g i)).edge), .int .i64 ((ofMark (l_g i)).place), .int .i64 ((ofMark (l_g i)).tone)]) ∧ s_cloneM_p (⟨l_n, fun i => ofMark (l_g i)⟩ : (L.Sq L.Mark)), s_cloneM_q (⟨l_n, fun i => ofMark (l_g i)⟩ : (L.Sq L.Mark)), s_cloneM_n (⟨l_n, fun i => ofMark (l_g i)⟩ : (L.Sq L.Mark)), s_cloneM_g (⟨l_n, fun i => ofMark (l_g i)⟩ : (L.Sq L.Mark)))
  | _ => none
abbrev s_cloneM_S : SE.Spec := (specF Nat 0 87 3 s_cloneM_s)
def s_cloneM_C : Cfg := { muts := [5], frz := lookN [], specs := lookS [], loops := lookL [], iters := lookI [], rfs := lookR [], nils := lookM [] }
theorem s_cloneM_vc (l : (L.Sq L.Mark)) (hp : s_cloneM_p l) : vc Tryz.prog (s_cloneM_C) (bodyOf Tryz.f114) (st0 Tryz.f114 [.p (.sl 3 l.n (fun i => [.int .i64 ((l.g i).edge), .int .i64 ((l.g i).place), .int .i64 ((l.g i).tone)]))]) (retFresh Tryz.prog Tryz.f114 (Nat) (s_cloneM_q l) 87 3 (s_cloneM_n l) (s_cloneM_g l)) :=
  @Eq.mpr _ (∀ (b : Bool), (b = !false → l.n = (0 : Nat)) → (b = true → ∃ (t : Nat), l.n = (0 : Nat) ∧ True) ∧ (b = false → (nat_lit 0 + l.n) * nat_lit 24 ≤ (140737488355328 : Nat) ∧ ∃ (t : Nat), (nat_lit 0 + l.n = l.n ∧ ∀ (i : Nat), i < nat_lit 0 + l.n → appGet (nat_lit 0) (rowsOf [] (nat_lit 3)) (fun (i : Nat) ↦ [SV.int .i64 (l.g i).edge, SV.int .i64
 (l.g i).place, SV.int .i64 (l.g i).tone]) i = [SV.int .i64 (l.g i).edge, SV.int .i64 (l.g i).place, SV.int .i64 (l.g i).tone]) ∧ True)) (by kernel_rfl) (by
    have hn : l.n ≤ 1000000 := hp
    refine fun b hb => ⟨fun h => ⟨(0 : Nat), hb h, trivial⟩, fun h => ⟨show (0 + l.n) * 24 ≤ 140737488355328 by omega, (0 : Nat), ⟨Nat.zero_add _, fun i hi => ?_⟩, trivial⟩⟩
    unfold appGet; rw [if_neg (Nat.not_lt_zero _)]; rfl)
theorem s_cloneM_ok : SpecOk Tryz.prog 114 s_cloneM_S := freshX Tryz.func114 (c := bodyOf Tryz.f114) (by kernel_rfl) mixed (fun args p q n g hs hp => by
  unfold s_cloneM_s at hs
  split at hs
  · cases hs; exact ⟨_, _, s_cloneM_vc _ hp.2, (.p (.sl hp.1) .nil), ⟨show SpecsL Tryz.prog _ from SpecsL.nil, rfl, ⟨show ItersL Tryz.prog _ from ItersL.nil, (TrsOk.none (fun _ => rfl))⟩⟩⟩
  · cases hs)
theorem s_cloneM_en : Enters Tryz.prog 114 := fun args w => by kernel_rfl
def s_cloneG_p (l : (L.Sq L.Gauge)) : Prop := l.n ≤ 1000000
def s_cloneG_q (l : (L.Sq L.Gauge)) : Nat → Prop := fun _ => True
def s_cloneG_n (l : (L.Sq L.Gauge)) : Nat → Nat := fun _ => l.n
def s_cloneG_g (l : (L.Sq L.Gauge)) : Nat → Nat → List SV := fun _ i => [.int .i64 ((l.g i).edge.lo), .int .i64 ((l.g i).edge.hi), .int .i64 ((l.g i).across.lo), .int .i64 ((l.g i).across.hi), .int .i64 ((l.g i).bend)]
def s_cloneG_s : List EV → Option (Prop × (Nat → Prop) × (Nat → Nat) × (Nat → Nat → List SV))
  | [.p (.sl 5 l_n l_g)] => some ((∀ i, i < l_n → l_g i = [.int .i64 ((ofGauge (l_g i)).edge.lo), .int .i64 ((ofGauge (l_g i)).edge.hi), .int .i64 ((ofGauge (l_g i)).across.lo), .int .i64 ((ofGauge (l_g i)).across.hi), .int .i64 ((ofGauge (l_g i)).bend)]) ∧ s_cloneG_p (⟨l_n, fun i => ofGauge (l_g i)⟩ : (L.Sq L.Gauge)), s_cloneG_q (⟨l_n, fun i => ofGauge (l_g i)⟩ : (L.Sq L.Gauge)), s_cloneG_n (⟨l_n, fun i => ofGauge (l_g i)⟩ : (L.Sq L.Gauge)), s_cloneG_g (⟨l_n, fun i => ofGauge (l_g i)⟩ : (L.Sq L.Gauge)))
  | _ => none
abbrev s_cloneG_S : SE.Spec := (specF Nat 0 92 5 s_cloneG_s)
def s_cloneG_C : Cfg := { muts := [5], frz := lookN [], specs := lookS [], loops := lookL [], iters := lookI [], rfs := lookR [], nils := lookM [] }
theorem s_cloneG_vc (l : (L.Sq L.Gauge)) (hp : s_cloneG_p l) : vc Tryz.prog (s_cloneG_C) (bodyOf Tryz.f113) (st0 Tryz.f113 [.p (.sl 5 l.n (fun i => [.int .i64 ((l.g i).edge.lo), .int .i64 ((l.g i).edge.hi), .int .i64 ((l.g i).across.lo), .int .i64 ((l.g i).across.hi), .int .i64 ((l.g i).bend)]))]) (retFresh Tryz.prog Tryz.f113 (Nat) (s_cloneG_q l) 92 5 (s_cloneG_n l) (s_cloneG_g l)) :=
  @Eq.mpr _ (∀ (b : Bool), (b = !false → l.n = (0 : Nat)) → (b = true → ∃ (t : Nat), l.n = (0 : Nat) ∧ True) ∧ (b = false → (nat_lit 0 + l.n) * nat_lit 40 ≤ (140737488355328 : Nat) ∧ ∃ (t : Nat), (nat_lit 0 + l.n = l.n ∧ ∀ (i : Nat), i < nat_lit 0 + l.n → appGet (nat_lit 0) (rowsOf [] (nat_lit 5)) (fun (i : Nat) ↦ [SV.int .i64 (l.g i).edge.lo, SV.int
 .i64 (l.g i).edge.hi, SV.int .i64 (l.g i).across.lo, SV.int .i64 (l.g i).across.hi, SV.int .i64 (l.g i).bend]) i = [SV.int .i64 (l.g i).edge.lo, SV.int .i64 (l.g i).edge.hi, SV.int .i64 (l.g i).across.lo, SV.int .i64 (l.g i).across.hi, SV.int .i64 (l.g i).bend])
 ∧ True)) (by kernel_rfl) (by
    have hn : l.n ≤ 1000000 := hp
    refine fun b hb => ⟨fun h => ⟨(0 : Nat), hb h, trivial⟩, fun h => ⟨show (0 + l.n) * 40 ≤ 140737488355328 by omega, (0 : Nat), ⟨Nat.zero_add _, fun i hi => ?_⟩, trivial⟩⟩
    unfold appGet; rw [if_neg (Nat.not_lt_zero _)]; rfl)
theorem s_cloneG_ok : SpecOk Tryz.prog 113 s_cloneG_S := freshX Tryz.func113 (c := bodyOf Tryz.f113) (by kernel_rfl) mixed (fun args p q n g hs hp => by
  unfold s_cloneG_s at hs
  split at hs
  · cases hs; exact ⟨_, _, s_cloneG_vc _ hp.2, (.p (.sl hp.1) .nil), ⟨show SpecsL Tryz.prog _ from SpecsL.nil, rfl, ⟨show ItersL Tryz.prog _ from ItersL.nil, (TrsOk.none (fun _ => rfl))⟩⟩⟩
  · cases hs)
theorem s_cloneG_en : Enters Tryz.prog 113 := fun args w => by kernel_rfl
end Go.Proofs.YtooapgllahonaaaGreat

namespace Go.Proofs.YtooapgllahonaaaGreat
open Go.SE Go.RowKit
set_option maxRecDepth 100000
set_option maxHeartbeats 4000000
set_option linter.unusedVariables false
attribute [local irreducible] vc

instance : Inhabited L.Mark := ⟨⟨0, 0, 0⟩⟩
def L.leMk (a b : L.Mark) : Prop := L.cmpMark a b ≤ 0
theorem cmpMk_lt {a b : L.Mark} : L.cmpMark a b < 0 ↔ a.edge < b.edge ∨ (a.edge = b.edge ∧ (a.place < b.place ∨ (a.place = b.place ∧ a.tone < b.tone))) := by
  unfold L.cmpMark L.or2 L.cmp
  rcases Int.lt_trichotomy a.edge b.edge with h1 | h1 | h1 <;> rcases Int.lt_trichotomy a.place b.place with h2 | h2 | h2 <;> rcases Int.lt_trichotomy a.tone b.tone with h3 | h3 | h3 <;> grind
theorem cmpMk_le {a b : L.Mark} : L.cmpMark a b ≤ 0 ↔ a.edge < b.edge ∨ (a.edge = b.edge ∧ (a.place < b.place ∨ (a.place = b.place ∧ a.tone ≤ b.tone))) := by
  unfold L.cmpMark L.or2 L.cmp
  rcases Int.lt_trichotomy a.edge b.edge with h1 | h1 | h1 <;> rcases Int.lt_trichotomy a.place b.place with h2 | h2 | h2 <;> rcases Int.lt_trichotomy a.tone b.tone with h3 | h3 | h3 <;> grind
theorem swoMk : Go.Sort.SWO (Go.Proofs.ltOf L.cmpMark) := by
  have k : ∀ x y, Go.Proofs.ltOf L.cmpMark x y = true ↔ L.cmpMark x y < 0 := fun x y => by
    unfold Go.Proofs.ltOf; rw [decide_eq_true_iff]
  have kf : ∀ x y, Go.Proofs.ltOf L.cmpMark x y = false ↔ ¬ L.cmpMark x y < 0 := fun x y => by
    rw [← k, Bool.not_eq_true]
  refine ⟨fun x => ?_, fun x y z => ?_, fun x y z => ?_⟩
  · rw [kf, cmpMk_lt]; omega
  · simp only [k, cmpMk_lt]; omega
  · simp only [kf, cmpMk_lt]; omega
def L.insMk (p : L.Mark) : List L.Mark → List L.Mark
  | [] => [p]
  | q :: r => bif decide (L.cmpMark p q ≤ 0) then p :: q :: r else q :: L.insMk p r
def L.isortMk : List L.Mark → List L.Mark
  | [] => []
  | p :: r => L.insMk p (L.isortMk r)
def L.listMk (l : L.Sq L.Mark) : List L.Mark := (List.range l.n).map l.g
def L.sortM (l : L.Sq L.Mark) : L.Sq L.Mark := ⟨l.n, fun k => (L.isortMk (L.listMk l)).getD k ⟨0, 0, 0⟩⟩
theorem leMk_total (a b : L.Mark) : L.leMk a b ∨ L.leMk b a := by unfold L.leMk; simp only [cmpMk_le]; omega
theorem leMk_trans {a b c : L.Mark} (h : L.leMk a b) (k : L.leMk b c) : L.leMk a c := by unfold L.leMk at *; simp only [cmpMk_le] at *; omega
theorem mk_ext {a b : L.Mark} (h1 : a.edge = b.edge) (h2 : a.place = b.place) (h3 : a.tone = b.tone) : a = b := by cases a; cases b; simp only at h1 h2 h3; rw [h1, h2, h3]
theorem leMk_anti {a b : L.Mark} (h : L.leMk a b) (k : L.leMk b a) : a = b := by
  unfold L.leMk at *; simp only [cmpMk_le] at *
  exact mk_ext (by omega) (by omega) (by omega)
theorem insMk_perm (p : L.Mark) : ∀ l, (L.insMk p l).Perm (p :: l)
  | [] => .refl _
  | q :: r => by
    unfold L.insMk
    cases decide (L.cmpMark p q ≤ 0) with
    | true => exact .refl _
    | false => exact ((insMk_perm p r).cons q).trans (.swap p q r)
theorem isortMk_perm : ∀ l, (L.isortMk l).Perm l
  | [] => .refl _
  | p :: r => (insMk_perm p _).trans ((isortMk_perm r).cons p)
theorem insMk_asc {p : L.Mark} : ∀ {l}, l.Pairwise L.leMk → (L.insMk p l).Pairwise L.leMk
  | [], _ => List.pairwise_singleton _ _
  | q :: r, h => by
    obtain ⟨h1, h2⟩ := List.pairwise_cons.1 h
    unfold L.insMk
    cases hd : decide (L.cmpMark p q ≤ 0) with
    | true =>
      have hd : L.leMk p q := of_decide_eq_true (p := L.cmpMark p q ≤ 0) hd
      exact List.pairwise_cons.2 ⟨fun x hx => by
        rcases List.mem_cons.1 hx with rfl | hx
        · exact hd
        · exact leMk_trans hd (h1 x hx), h⟩
    | false =>
      have hd : ¬ L.leMk p q := of_decide_eq_false (p := L.cmpMark p q ≤ 0) hd
      have hqp : L.leMk q p := (leMk_total p q).resolve_left hd
      exact List.pairwise_cons.2 ⟨fun x hx => by
        rcases List.mem_cons.1 ((insMk_perm p r).mem_iff.1 hx) with rfl | hx
        · exact hqp
        · exact h1 x hx, insMk_asc h2⟩
theorem isortMk_asc : ∀ l, (L.isortMk l).Pairwise L.leMk
  | [] => .nil
  | p :: r => insMk_asc (isortMk_asc r)
theorem sortM_is {l : L.Sq L.Mark} {u : Nat → L.Mark} (h : SortedBy L.cmpMark l.n l.g u) : ∀ k, k < l.n → (L.sortM l).g k = u k := fun k hk => by
  have e : (List.range l.n).map u = L.isortMk (L.listMk l) := by
    refine List.Perm.eq_of_pairwise (le := L.leMk) (fun a b _ _ => leMk_anti) ?_ (isortMk_asc _) (h.perm.trans (isortMk_perm _).symm)
    rw [List.pairwise_iff_getElem]
    intro i j hi hj hij
    simp only [List.getElem_map, List.getElem_range]
    have hj : j < l.n := by simpa using hj
    have := h.asc i j hij hj
    rcases leMk_total (u i) (u j) with h1 | h1
    · exact h1
    · unfold L.leMk at *
      simp only [cmpMk_le, cmpMk_lt] at *
      omega
  show (L.isortMk (L.listMk l)).getD k ⟨0, 0, 0⟩ = u k
  rw [← e]
  simp [List.getD_eq_getElem?_getD, hk]
def encMk (p : L.Mark) : List Int := [p.edge, p.place, p.tone]
def sortMk_ren : Go.Shelf.Ren := ⟨fun | 6 => 197 | 15 => 184 | 14 => 214 | 28 => 210 | 29 => 211 | 20 => 222 | 21 => 223 | 22 => 224 | 23 => 225 | 24 => 226 | 25 => 227 | 26 => 228 | 27 => 229 | 46 => 239 | 47 => 218 | 48 => 219 | 49 => 240 | 50 => 241 | 57 => 245 | n => n, fun | 22 => 23 | 24 => 87 | 25 => 156 | 3 => 3 | 39 => 199 | 0 => 0 | 53 => 224 | 55 => 226 | 4 => 4 | 46 => 217 | 45 => 216 | 50 => 221 | 5 => 5 | 9 => 9 | 66 => 231 | 70 => 235 | 76 => 247 | 77 => 248 | n => n, fun | n => n⟩
theorem sortMk_lay : Go.Proofs.SlLaysF0.n6 Tryz.prog sortMk_ren := {
  mixed := by kernel_rfl
  f6 := ⟨Tryz.f197.name, by decide, Tryz.func197.trans (congrArg some (by kernel_rfl))⟩
  f14 := ⟨Tryz.f214.name, by decide, Tryz.func214.trans (congrArg some (by kernel_rfl))⟩
  f15 := Tryz.func184.trans (congrArg some (by kernel_rfl))
  f20 := ⟨Tryz.f222.name, by decide, Tryz.func222.trans (congrArg some (by kernel_rfl))⟩
  f21 := ⟨Tryz.f223.name, by decide, Tryz.func223.trans (congrArg some (by kernel_rfl))⟩
  f22 := ⟨Tryz.f224.name, by decide, Tryz.func224.trans (congrArg some (by kernel_rfl))⟩
  f23 := ⟨Tryz.f225.name, by decide, Tryz.func225.trans (congrArg some (by kernel_rfl))⟩
  f24 := ⟨Tryz.f226.name, by decide, Tryz.func226.trans (congrArg some (by kernel_rfl))⟩
  f25 := ⟨Tryz.f227.name, by decide, Tryz.func227.trans (congrArg some (by kernel_rfl))⟩
  f26 := ⟨Tryz.f228.name, by decide, Tryz.func228.trans (congrArg some (by kernel_rfl))⟩
  f27 := ⟨Tryz.f229.name, by decide, Tryz.func229.trans (congrArg some (by kernel_rfl))⟩
  f28 := Tryz.func210.trans (congrArg some (by kernel_rfl))
  f29 := Tryz.func211.trans (congrArg some (by kernel_rfl))
  f46 := ⟨Tryz.f239.name, by decide, Tryz.func239.trans (congrArg some (by kernel_rfl))⟩
  f47 := Tryz.func218.trans (congrArg some (by kernel_rfl))
  f48 := Tryz.func219.trans (congrArg some (by kernel_rfl))
  f49 := ⟨Tryz.f240.name, by decide, Tryz.func240.trans (congrArg some (by kernel_rfl))⟩
  f50 := ⟨Tryz.f241.name, by decide, Tryz.func241.trans (congrArg some (by kernel_rfl))⟩
  f57 := ⟨Tryz.f245.name, by decide, Tryz.func245.trans (congrArg some (by kernel_rfl))⟩
  t0 := Tryz.underlying0
  a0 := Tryz.isAgg0
  z0 := Tryz.sizeOf0
  v0 := Tryz.zeroValue0
  t3 := Tryz.underlying3
  a3 := Tryz.isAgg3
  z3 := Tryz.sizeOf3
  v3 := Tryz.zeroValue3
  t4 := Tryz.underlying4
  a4 := Tryz.isAgg4
  z4 := Tryz.sizeOf4
  v4 := Tryz.zeroValue4
  t5 := Tryz.underlying5
  a5 := Tryz.isAgg5
  z5 := Tryz.sizeOf5
  v5 := Tryz.zeroValue5
  t9 := Tryz.underlying9
  a9 := Tryz.isAgg9
  z9 := Tryz.sizeOf9
  v9 := Tryz.zeroValue9
  t22 := Tryz.underlying23
  a22 := Tryz.isAgg23
  z22 := Tryz.sizeOf23
  v22 := Tryz.zeroValue23
  t25 := Tryz.underlying156
  a25 := Tryz.isAgg156
  z25 := Tryz.sizeOf156
  v25 := Tryz.zeroValue156
  t39 := Tryz.underlying199
  a39 := Tryz.isAgg199
  z39 := Tryz.sizeOf199
  v39 := Tryz.zeroValue199
  t45 := Tryz.underlying216
  a45 := Tryz.isAgg216
  z45 := Tryz.sizeOf216
  v45 := Tryz.zeroValue216
  t46 := Tryz.underlying217
  a46 := Tryz.isAgg217
  z46 := Tryz.sizeOf217
  v46 := Tryz.zeroValue217
  t50 := Tryz.underlying221
  a50 := Tryz.isAgg221
  z50 := Tryz.sizeOf221
  v50 := Tryz.zeroValue221
  t53 := Tryz.underlying224
  a53 := Tryz.isAgg224
  z53 := Tryz.sizeOf224
  v53 := Tryz.zeroValue224
  t55 := Tryz.underlying226
  a55 := Tryz.isAgg226
  z55 := Tryz.sizeOf226
  v55 := Tryz.zeroValue226
  t66 := Tryz.underlying231
  a66 := Tryz.isAgg231
  z66 := Tryz.sizeOf231
  v66 := Tryz.zeroValue231
  t70 := Tryz.underlying235
  a70 := Tryz.isAgg235
  z70 := Tryz.sizeOf235
  v70 := Tryz.zeroValue235
  t76 := Tryz.underlying247
  a76 := Tryz.isAgg247
  z76 := Tryz.sizeOf247
  v76 := Tryz.zeroValue247
  t77 := Tryz.underlying248
  a77 := Tryz.isAgg248
  z77 := Tryz.sizeOf248
  v77 := Tryz.zeroValue248 }

abbrev s_sortMk_tr : Tr := sortTr 87 3 129 1005 encMk L.cmpMark
theorem s_sortMk_tok : TrOk Tryz.prog 197 s_sortMk_tr := sortTr_ok (enc := encMk) sortMk_lay (by decide) (fun w => Tryz.isAgg87 w) (fun w => Tryz.sizeOf87 w) (fun _ => rfl) swoMk g_cmpMarks_ok g_cmpMarks_en (fun x y => show preO g_cmpMarks_s [.p (.agg [.int .i64 x.edge, .int .i64 x.place, .int .i64 x.tone]), .p (.agg [.int .i64 y.edge, .int .i64 y.place, .int .i64 y.tone])] from trivial) (fun x y => rfl) _ _
theorem s_sortMk_en : Enters Tryz.prog 197 := fun args w => by kernel_rfl
def s_valM1_p (l : (L.Sq L.Mark)) : Prop := l.n ≤ 1000000
def s_valM1_n (l : (L.Sq L.Mark)) : Nat := l.n
def s_valM1_i (l : (L.Sq L.Mark)) : Nat → List SV := fun k => [(.agg [.int .i64 ((l.g (k : Int).toNat).edge), .int .i64 ((l.g (k : Int).toNat).place), .int .i64 ((l.g (k : Int).toNat).tone)])]
def s_valM1_ic : List SV → Option (Prop × Nat × (Nat → List SV))
  | [.ref [.sl 3 l_n l_g] 0] => some ((∀ i, i < l_n → l_g i = [.int .i64 ((ofMark (l_g i)).edge), .int .i64 ((ofMark (l_g i)).place), .int .i64 ((ofMark (l_g i)).tone)]) ∧ s_valM1_p (⟨l_n, fun i => ofMark (l_g i)⟩ : (L.Sq L.Mark)), s_valM1_n (⟨l_n, fun i => ofMark (l_g i)⟩ : (L.Sq L.Mark)), s_valM1_i (⟨l_n, fun i => ofMark (l_g i)⟩ : (L.Sq L.Mark)))
  | _ => none
abbrev s_valM1_it : ItSpec := itOf s_valM1_ic
def s_valM1_C : Cfg := { muts := [], frz := lookN [], specs := lookS [], loops := fun _ => none, iters := lookI [], rfs := lookR [] }
theorem s_valM1_vc (yl : Nat) (l : (L.Sq L.Mark)) (hp : s_valM1_p l) : vc Tryz.prog { s_valM1_C with loops := lookL [(1, { T := Nat, keep := [0, 1, 5, 6], keepO := [], chg := fun i => [(7, .p (.int .i64 (i : Int)))], own := fun _ => [], inv := fun i => i ≤ l.n, mu := fun i => l.n - i, yk := some (fun i => i) })], yld := some ⟨yl, s_valM1_n l, s_valM1_i l⟩ } (bodyOf Tryz.f198) (st0 Tryz.f198 (.yield yl :: ([.ref [.sl 3 l.n (fun i => [.int .i64 ((l.g i).edge), .int .i64 ((l.g i).place), .int .i64 ((l.g i).tone)])] 0] : List SV).map .p)) (retIt Tryz.prog Tryz.f198 (s_valM1_n l)) :=
  @Eq.mpr _ ((∃ (g : Nat), nat_lit 0 = g ∧ false = false ∧ (0 : Int) = (↑g : Int) ∧ g ≤ l.n) ∧ ∀ (g : Nat), g ≤ l.n → (decide ((↑g : Int) < (↑l.n : Int)) = true → ((0 : Int) ≤ (↑g : Int) ∧ (↑g : Int) < (↑l.n : Int)) ∧ yl = yl ∧ g < l.n ∧ [SV.agg [SV.int .i64 (l.g (Int.toNat (↑g : Int))).edge, SV.int .i64 (l.g (Int.toNat (↑g : Int))).place,
 SV.int .i64 (l.g (Int.toNat (↑g : Int))).tone]] = [SV.agg [SV.int .i64 (l.g (Int.toNat (↑g : Int))).edge, SV.int .i64 (l.g (Int.toNat (↑g : Int))).place, SV.int .i64 (l.g (Int.toNat (↑g : Int))).tone]] ∧ ((false = true → g + (1 : Nat) = l.n ∨ g + (1 : Nat) = l.n + (1 : Nat)) ∧ (false = false → InK
 .i64 ((↑g : Int) + (1 : Int)) ∧ ∃ (g' : Nat), g + (1 : Nat) = g' ∧ false = false ∧ (↑g : Int) + (1 : Int) = (↑g' : Int) ∧ (↑l.n : Int) = (↑l.n : Int) ∧ (l.n = l.n ∧ ∀ (i : Nat), i < l.n → [SV.int .i64 (l.g i).edge, SV.int .i64 (l.g i).place, SV.int .i64 (l.g i).tone] = [SV.int .i64 (l.g i).edge, SV.int
 .i64 (l.g i).place, SV.int .i64 (l.g i).tone]) ∧ yl = yl ∧ SV.ref [SV.sl (nat_lit 3) l.n fun (i : Nat) ↦ [SV.int .i64 (l.g i).edge, SV.int .i64 (l.g i).place, SV.int .i64 (l.g i).tone]] (nat_lit 0) = SV.ref [SV.sl (nat_lit 3) l.n fun (i : Nat) ↦ [SV.int .i64 (l.g i).edge, SV.int
 .i64 (l.g i).place, SV.int .i64 (l.g i).tone]] (nat_lit 0) ∧ g' ≤ l.n ∧ l.n - g' < l.n - g)) ∧ (true = true → l.n + (1 : Nat) = l.n ∨ l.n + (1 : Nat) = l.n + (1 : Nat)) ∧ (true = false → InK .i64 ((↑g : Int) + (1 : Int)) ∧ ∃ (g' : Nat), l.n + (1 : Nat) = g' ∧ false = false ∧ (↑g : Int) + (1 : Int) = (↑g' : Int) ∧ (↑l.n : Int)
 = (↑l.n : Int) ∧ (l.n = l.n ∧ ∀ (i : Nat), i < l.n → [SV.int .i64 (l.g i).edge, SV.int .i64 (l.g i).place, SV.int .i64 (l.g i).tone] = [SV.int .i64 (l.g i).edge, SV.int .i64 (l.g i).place, SV.int .i64 (l.g i).tone]) ∧ yl = yl ∧ SV.ref [SV.sl (nat_lit 3) l.n fun (i : Nat) ↦ [SV.int
 .i64 (l.g i).edge, SV.int .i64 (l.g i).place, SV.int .i64 (l.g i).tone]] (nat_lit 0) = SV.ref [SV.sl (nat_lit 3) l.n fun (i : Nat) ↦ [SV.int .i64 (l.g i).edge, SV.int .i64 (l.g i).place, SV.int .i64 (l.g i).tone]] (nat_lit 0) ∧ g' ≤ l.n ∧ l.n - g' < l.n - g)) ∧ (decide ((↑g : Int) <
 (↑l.n : Int)) = false → g = l.n ∨ g = l.n + (1 : Nat))) (by kernel_rfl) (by
    have hn : l.n ≤ 1000000 := hp
    refine ⟨⟨(0 : Nat), rfl, rfl, rfl, Nat.zero_le _⟩, fun g hg => ⟨fun hlt => ?_, fun hge => ?_⟩⟩
    · have hb : (g : Int) < (l.n : Int) := of_decide_eq_true hlt
      refine ⟨⟨by omega, hb⟩, rfl, by omega, rfl, ?_⟩
      exact ⟨⟨fun h => (by cases h), fun _ => ⟨InK.of (by omega) (by omega), g + 1, rfl, rfl, by omega, rfl, ⟨rfl, fun _ _ => rfl⟩, rfl, rfl, by omega, by omega⟩⟩, fun _ => .inr rfl, fun h => (by cases h)⟩
    · have hb : ¬ (g : Int) < (l.n : Int) := of_decide_eq_false hge
      exact .inl (by omega))
theorem s_valM1_itok : ItOk Tryz.prog 198 s_valM1_it := iterX Tryz.func198 (c := bodyOf Tryz.f198) (by kernel_rfl) mixed (fun caps l p n g hs hp => by
  unfold s_valM1_ic at hs
  split at hs
  · cases hs; exact ⟨_, _, s_valM1_vc l _ hp.2, (.cons (Ext.ref rfl (fun i hi => by
      rcases i with _ | i
      · show Ext (SV.sl _ _ _) (SV.sl _ _ _); exact (Ext.sl hp.1)
      exact absurd hi (by simp; try omega))) .nil), rfl, show SpecsL Tryz.prog _ from SpecsL.nil, ⟨show ItersL Tryz.prog _ from ItersL.nil, TrsOk.none (fun _ => rfl)⟩⟩
  · cases hs)
theorem s_valM1_en : Enters Tryz.prog 198 := fun args w => by kernel_rfl
def s_valM_p (l : (L.Sq L.Mark)) : Prop := l.n ≤ 1000000
def s_valM_r (l : (L.Sq L.Mark)) : SV := .clo 198 [.ref [(.sl 3 l.n (fun i => [.int .i64 ((l.g i).edge), .int .i64 ((l.g i).place), .int .i64 ((l.g i).tone)]))] 0]
def s_valM_s : List EV → Option (Prop × SV)
  | [.p (.sl 3 l_n l_g)] => some ((∀ i, i < l_n → l_g i = [.int .i64 ((ofMark (l_g i)).edge), .int .i64 ((ofMark (l_g i)).place), .int .i64 ((ofMark (l_g i)).tone)]) ∧ s_valM_p (⟨l_n, fun i => ofMark (l_g i)⟩ : (L.Sq L.Mark)), s_valM_r (⟨l_n, fun i => ofMark (l_g i)⟩ : (L.Sq L.Mark)))
  | _ => none
abbrev s_valM_S : SE.Spec := (specO s_valM_s)
def s_valM_C : Cfg := { muts := [], frz := lookN [], specs := lookS [], loops := lookL [], iters := lookI [], rfs := lookR [], nils := lookM [] }
theorem s_valM_vc (l : (L.Sq L.Mark)) (hp : s_valM_p l) : vc Tryz.prog (s_valM_C) (bodyOf Tryz.f178) (st0 Tryz.f178 [.p (.sl 3 l.n (fun i => [.int .i64 ((l.g i).edge), .int .i64 ((l.g i).place), .int .i64 ((l.g i).tone)]))]) (retFn Tryz.prog Tryz.f178 (s_valM_r l)) :=
  @Eq.mpr _ (SV.clo (nat_lit 198) [SV.ref [SV.sl (nat_lit 3) l.n fun (i : Nat) ↦ [SV.int .i64 (l.g i).edge, SV.int .i64 (l.g i).place, SV.int .i64 (l.g i).tone]] (nat_lit 0)] = SV.clo (nat_lit 198) [SV.ref [SV.sl (nat_lit 3) l.n fun (i : Nat) ↦ [SV.int .i64 (l.g i).edge, SV.int .i64 (l.g
 i).place, SV.int .i64 (l.g i).tone]] (nat_lit 0)]) (by kernel_rfl) (by
    rfl)
theorem s_valM_ok : SpecOk Tryz.prog 178 s_valM_S := fnX Tryz.func178 (c := bodyOf Tryz.f178) (by kernel_rfl) mixed (fun args p r hs hp => by
  unfold s_valM_s at hs
  split at hs
  · cases hs; exact ⟨_, _, s_valM_vc _ hp.2, (.p (.sl hp.1) .nil), ⟨show SpecsL Tryz.prog _ from SpecsL.nil, rfl, ⟨show ItersL Tryz.prog _ from ItersL.nil, (TrsOk.none (fun _ => rfl))⟩⟩⟩
  · cases hs)
theorem s_valM_en : Enters Tryz.prog 178 := fun args w => by kernel_rfl
def s_appSeqM_p (s : Nat) (l : (L.Sq L.Mark)) : Prop := l.n ≤ 1000000
def s_appSeqM_q (s : Nat) (l : (L.Sq L.Mark)) : Nat → Prop := fun _ => True
def s_appSeqM_n (s : Nat) (l : (L.Sq L.Mark)) : Nat → Nat := fun _ => l.n
def s_appSeqM_g (s : Nat) (l : (L.Sq L.Mark)) : Nat → Nat → List SV := fun _ k => [.int .i64 ((l.g k).edge), .int .i64 ((l.g k).place), .int .i64 ((l.g k).tone)]
def s_appSeqM_s : List EV → Option (Prop × (Nat → Prop) × (Nat → Nat) × (Nat → Nat → List SV))
  | [.p (.raw (.slice none 0 0)), .p (.clo 198 [.ref [.sl 3 l_n l_g] 0])] => some ((∀ i, i < l_n → l_g i = [.int .i64 ((ofMark (l_g i)).edge), .int .i64 ((ofMark (l_g i)).place), .int .i64 ((ofMark (l_g i)).tone)]) ∧ s_appSeqM_p (0 : Nat) (⟨l_n, fun i => ofMark (l_g i)⟩ : (L.Sq L.Mark)), s_appSeqM_q (0 : Nat) (⟨l_n, fun i => ofMark (l_g i)⟩ : (L.Sq L.Mark)), s_appSeqM_n (0 : Nat) (⟨l_n, fun i => ofMark (l_g i)⟩ : (L.Sq L.Mark)), s_appSeqM_g (0 : Nat) (⟨l_n, fun i => ofMark (l_g i)⟩ : (L.Sq L.Mark)))
  | _ => none
abbrev s_appSeqM_S : SE.Spec := (specF Nat 0 87 3 s_appSeqM_s)
def s_appSeqM_C : Cfg := { muts := [2, 5], frz := lookN [], specs := lookS [], loops := lookL [], iters := lookI [(198, s_valM1_it)], rfs := lookR [], nils := lookM [(1, [(2, 10, 87, 3)])] }
theorem s_appSeqM_vc (s : Nat) (l : (L.Sq L.Mark)) (hp : s_appSeqM_p s l) : vc Tryz.prog ({ s_appSeqM_C with loops := lookL [], rfs := lookR [(2, { T := Nat, keep := [2], keepO := [], own := fun k _ => [(2, .blk 23 [.row 10]), (10, .row 87 3 k (fun k => [.int .i64 ((l.g k).edge), .int .i64 ((l.g k).place), .int .i64 ((l.g k).tone)]))], inv := fun k _ => k ≤ l.n })] }) (bodyOf Tryz.f213) (st0 Tryz.f213 [.p (.raw (.slice none 0 0)), .p (.clo 198 [.ref [.sl 3 l.n (fun i => [.int .i64 ((l.g i).edge), .int .i64 ((l.g i).place), .int .i64 ((l.g i).tone)])] 0])]) (retFresh Tryz.prog Tryz.f213 (Nat) (s_appSeqM_q s l) 87 3 (s_appSeqM_n s l) (s_appSeqM_g s l)) :=
  @Eq.mpr _ ((((∀ (i : Nat), i < l.n → [SV.int .i64 (l.g i).edge, SV.int .i64 (l.g i).place, SV.int .i64 (l.g i).tone] = [SV.int .i64 (l.g i).edge, SV.int .i64 (l.g i).place, SV.int .i64 (l.g i).tone]) ∧ l.n ≤ (1000000 : Nat)) ∧ ∃ (t : Nat), (nat_lit 0 = (0 : Nat) ∧ ∀ (i : Nat), i < nat_lit 0 → [] = [SV.int
 .i64 (l.g i).edge, SV.int .i64 (l.g i).place, SV.int .i64 (l.g i).tone]) ∧ (0 : Nat) ≤ l.n) ∧ (∀ (k t : Nat) (vk : Nat → Go.Value), k < l.n → k ≤ l.n → (k + nat_lit 1) * nat_lit 24 ≤ (140737488355328 : Nat) ∧ ∃ (t' : Nat), nat_lit 0 = nat_lit 0 ∧ vk (nat_lit 2) = vk (nat_lit 2) ∧ (k + nat_lit 1 = k + (1 : Nat) ∧ ∀ (i : Nat), i < k + nat_lit 1 →
 appGet k (fun (k : Nat) ↦ [SV.int .i64 (l.g k).edge, SV.int .i64 (l.g k).place, SV.int .i64 (l.g k).tone]) (fun (x : Nat) ↦ [SV.int .i64 (l.g (Int.toNat (↑k : Int))).edge, SV.int .i64 (l.g (Int.toNat (↑k : Int))).place, SV.int .i64 (l.g (Int.toNat (↑k : Int))).tone]) i = [SV.int
 .i64 (l.g i).edge, SV.int .i64 (l.g i).place, SV.int .i64 (l.g i).tone]) ∧ k + (1 : Nat) ≤ l.n) ∧ ∀ (t : Nat), l.n ≤ l.n → ∃ (t : Nat), (l.n = l.n ∧ ∀ (i : Nat), i < l.n → [SV.int .i64 (l.g i).edge, SV.int .i64 (l.g i).place, SV.int .i64 (l.g i).tone] = [SV.int .i64 (l.g i).edge, SV.int
 .i64 (l.g i).place, SV.int .i64 (l.g i).tone]) ∧ True) (by kernel_rfl) (by
    have hn : l.n ≤ 1000000 := hp
    refine ⟨⟨⟨fun _ _ => rfl, hn⟩, (0 : Nat), ⟨rfl, fun i hi => absurd hi (Nat.not_lt_zero _)⟩, Nat.zero_le _⟩, fun k t vk hk hi => ⟨show (k + 1) * 24 ≤ 140737488355328 by omega, (0 : Nat), rfl, rfl, ⟨rfl, fun i hi => ?_⟩, by omega⟩, fun t hi => ⟨(0 : Nat), ⟨rfl, fun _ _ => rfl⟩, trivial⟩⟩
    have hi : i < k + 1 := hi
    have e0 : ((k : Int)).toNat = k := by omega
    unfold appGet
    by_cases h' : i < k
    · rw [if_pos h']
    · rw [if_neg h']
      obtain rfl : i = k := by omega
      dsimp only
      rw [e0])
theorem s_appSeqM_ok : SpecOk Tryz.prog 213 s_appSeqM_S := freshX Tryz.func213 (c := bodyOf Tryz.f213) (by kernel_rfl) mixed (fun args p q n g hs hp => by
  unfold s_appSeqM_s at hs
  split at hs
  · cases hs; exact ⟨_, _, s_appSeqM_vc _ _ hp.2, (.same _ (.p (Ext.clo rfl (fun i hi => by
      rcases i with _ | i
      · show Ext (SV.ref _ _) (SV.ref _ _); exact (Ext.ref rfl (fun i hi => by
      rcases i with _ | i
      · show Ext (SV.sl _ _ _) (SV.sl _ _ _); exact (Ext.sl hp.1)
      exact absurd hi (by simp; try omega)))
      exact absurd hi (by simp; try omega))) .nil)), ⟨show SpecsL Tryz.prog _ from SpecsL.nil, rfl, ⟨show ItersL Tryz.prog _ from (ItersL.cons s_valM1_itok s_valM1_en ItersL.nil), (TrsOk.none (fun _ => rfl))⟩⟩⟩
  · cases hs)
theorem s_appSeqM_en : Enters Tryz.prog 213 := fun args w => by kernel_rfl
def s_collM_p (l : (L.Sq L.Mark)) : Prop := l.n ≤ 1000000
def s_collM_q (l : (L.Sq L.Mark)) : Nat → Prop := fun _ => True
def s_collM_n (l : (L.Sq L.Mark)) : Nat → Nat := fun _ => l.n
def s_collM_g (l : (L.Sq L.Mark)) : Nat → Nat → List SV := fun _ k => [.int .i64 ((l.g k).edge), .int .i64 ((l.g k).place), .int .i64 ((l.g k).tone)]
def s_collM_s : List EV → Option (Prop × (Nat → Prop) × (Nat → Nat) × (Nat → Nat → List SV))
  | [.p (.clo 198 [.ref [.sl 3 l_n l_g] 0])] => some ((∀ i, i < l_n → l_g i = [.int .i64 ((ofMark (l_g i)).edge), .int .i64 ((ofMark (l_g i)).place), .int .i64 ((ofMark (l_g i)).tone)]) ∧ s_collM_p (⟨l_n, fun i => ofMark (l_g i)⟩ : (L.Sq L.Mark)), s_collM_q (⟨l_n, fun i => ofMark (l_g i)⟩ : (L.Sq L.Mark)), s_collM_n (⟨l_n, fun i => ofMark (l_g i)⟩ : (L.Sq L.Mark)), s_collM_g (⟨l_n, fun i => ofMark (l_g i)⟩ : (L.Sq L.Mark)))
  | _ => none
abbrev s_collM_S : SE.Spec := (specF Nat 0 87 3 s_collM_s)
def s_collM_C : Cfg := { muts := [4], frz := lookN [], specs := lookS [(213, s_appSeqM_S)], loops := lookL [], iters := lookI [], rfs := lookR [], nils := lookM [], raws := [213] }
theorem s_collM_vc (l : (L.Sq L.Mark)) (hp : s_collM_p l) : vc Tryz.prog (s_collM_C) (bodyOf Tryz.f196) (st0 Tryz.f196 [.p (.clo 198 [.ref [.sl 3 l.n (fun i => [.int .i64 ((l.g i).edge), .int .i64 ((l.g i).place), .int .i64 ((l.g i).tone)])] 0])]) (retFresh Tryz.prog Tryz.f196 (Nat) (s_collM_q l) 87 3 (s_collM_n l) (s_collM_g l)) :=
  @Eq.mpr _ (((∀ (i : Nat), i < l.n → [SV.int .i64 (l.g i).edge, SV.int .i64 (l.g i).place, SV.int .i64 (l.g i).tone] = [SV.int .i64 (l.g i).edge, SV.int .i64 (l.g i).place, SV.int .i64 (l.g i).tone]) ∧ l.n ≤ (1000000 : Nat)) ∧ ∀ (t : Nat), True → ∃ (t : Nat), (l.n = l.n ∧ ∀ (i : Nat), i < l.n → [SV.int
 .i64 (l.g i).edge, SV.int .i64 (l.g i).place, SV.int .i64 (l.g i).tone] = [SV.int .i64 (l.g i).edge, SV.int .i64 (l.g i).place, SV.int .i64 (l.g i).tone]) ∧ True) (by kernel_rfl) (by
    exact ⟨⟨fun _ _ => rfl, hp⟩, fun t _ => ⟨(0 : Nat), ⟨rfl, fun _ _ => rfl⟩, trivial⟩⟩)
theorem s_collM_ok : SpecOk Tryz.prog 196 s_collM_S := freshX Tryz.func196 (c := bodyOf Tryz.f196) (by kernel_rfl) mixed (fun args p q n g hs hp => by
  unfold s_collM_s at hs
  split at hs
  · cases hs; exact ⟨_, _, s_collM_vc _ hp.2, (.p (Ext.clo rfl (fun i hi => by
      rcases i with _ | i
      · show Ext (SV.ref _ _) (SV.ref _ _); exact (Ext.ref rfl (fun i hi => by
      rcases i with _ | i
      · show Ext (SV.sl _ _ _) (SV.sl _ _ _); exact (Ext.sl hp.1)
      exact absurd hi (by simp; try omega)))
      exact absurd hi (by simp; try omega))) .nil), ⟨show SpecsL Tryz.prog _ from (SpecsL.cons s_appSeqM_ok s_appSeqM_en SpecsL.nil), rfl, ⟨show ItersL Tryz.prog _ from ItersL.nil, (TrsOk.none (fun _ => rfl))⟩⟩⟩
  · cases hs)
theorem s_collM_en : Enters Tryz.prog 196 := fun args w => by kernel_rfl
def s_sortedM_p (l : (L.Sq L.Mark)) : Prop := l.n ≤ 1000000
def s_sortedM_q (l : (L.Sq L.Mark)) : Nat → Prop := fun _ => True
def s_sortedM_n (l : (L.Sq L.Mark)) : Nat → Nat := fun _ => l.n
def s_sortedM_g (l : (L.Sq L.Mark)) : Nat → Nat → List SV := fun _ k => [.int .i64 (((L.sortM l).g k).edge), .int .i64 (((L.sortM l).g k).place), .int .i64 (((L.sortM l).g k).tone)]
def s_sortedM_s : List EV → Option (Prop × (Nat → Prop) × (Nat → Nat) × (Nat → Nat → List SV))
  | [.p (.clo 198 [.ref [.sl 3 l_n l_g] 0]), .p (.clo 129 [])] => some ((∀ i, i < l_n → l_g i = [.int .i64 ((ofMark (l_g i)).edge), .int .i64 ((ofMark (l_g i)).place), .int .i64 ((ofMark (l_g i)).tone)]) ∧ s_sortedM_p (⟨l_n, fun i => ofMark (l_g i)⟩ : (L.Sq L.Mark)), s_sortedM_q (⟨l_n, fun i => ofMark (l_g i)⟩ : (L.Sq L.Mark)), s_sortedM_n (⟨l_n, fun i => ofMark (l_g i)⟩ : (L.Sq L.Mark)), s_sortedM_g (⟨l_n, fun i => ofMark (l_g i)⟩ : (L.Sq L.Mark)))
  | _ => none
abbrev s_sortedM_S : SE.Spec := (specF Nat 0 87 3 s_sortedM_s)
def s_sortedM_C : Cfg := { muts := [7], frz := lookN [], specs := lookS [(196, s_collM_S), (129, g_cmpMarks_S)], loops := lookL [], iters := lookI [], rfs := lookR [], nils := lookM [], trs := lookT [(197, s_sortMk_tr)], ren := fun k => k - 998, raws := [196] }
theorem s_sortedM_vc (l : (L.Sq L.Mark)) (hp : s_sortedM_p l) : vc Tryz.prog (s_sortedM_C) (bodyOf Tryz.f177) (st0 Tryz.f177 [.p (.clo 198 [.ref [.sl 3 l.n (fun i => [.int .i64 ((l.g i).edge), .int .i64 ((l.g i).place), .int .i64 ((l.g i).tone)])] 0]), .p (.clo 129 [])]) (retFresh Tryz.prog Tryz.f177 (Nat) (s_sortedM_q l) 87 3 (s_sortedM_n l) (s_sortedM_g l)) :=
  @Eq.mpr _ (((∀ (i : Nat), i < l.n → [SV.int .i64 (l.g i).edge, SV.int .i64 (l.g i).place, SV.int .i64 (l.g i).tone] = [SV.int .i64 (l.g i).edge, SV.int .i64 (l.g i).place, SV.int .i64 (l.g i).tone]) ∧ l.n ≤ (1000000 : Nat)) ∧ ∀ (t : Nat), True → ∃ (t : Nat × (Nat → L.Mark)), SV.clo (nat_lit 129) [] =
 SV.clo (129 : Nat) [] ∧ (l.n = t.1 ∧ ∀ (i : Nat), i < l.n → [SV.int .i64 (l.g i).edge, SV.int .i64 (l.g i).place, SV.int .i64 (l.g i).tone] = [SV.int .i64 (t.2 i).edge, SV.int .i64 (t.2 i).place, SV.int .i64 (t.2 i).tone]) ∧ t.1 ≤ (1000000 : Nat) ∧ ∀ (u : Nat → L.Mark), SortedBy L.cmpMark
 t.1 t.2 u → ∃ (t_1 : Nat), (t.1 = l.n ∧ ∀ (i : Nat), i < t.1 → [SV.int .i64 (u i).edge, SV.int .i64 (u i).place, SV.int .i64 (u i).tone] = [SV.int .i64 ((L.sortM l).g i).edge, SV.int .i64 ((L.sortM l).g i).place, SV.int .i64 ((L.sortM l).g i).tone]) ∧ True) (by kernel_rfl) (by
    have hn : l.n ≤ 1000000 := hp
    refine ⟨⟨fun _ _ => rfl, hn⟩, fun t _ => ⟨(l.n, l.g), rfl, ⟨rfl, fun _ _ => rfl⟩, hn, fun u hu => ⟨(0 : Nat), ⟨rfl, fun i hi => ?_⟩, trivial⟩⟩⟩
    rw [sortM_is (l := l) hu i hi])
theorem s_sortedM_ok : SpecOk Tryz.prog 177 s_sortedM_S := freshX Tryz.func177 (c := bodyOf Tryz.f177) (by kernel_rfl) mixed (fun args p q n g hs hp => by
  unfold s_sortedM_s at hs
  split at hs
  · cases hs; exact ⟨_, _, s_sortedM_vc _ hp.2, (.p (Ext.clo rfl (fun i hi => by
      rcases i with _ | i
      · show Ext (SV.ref _ _) (SV.ref _ _); exact (Ext.ref rfl (fun i hi => by
      rcases i with _ | i
      · show Ext (SV.sl _ _ _) (SV.sl _ _ _); exact (Ext.sl hp.1)
      exact absurd hi (by simp; try omega)))
      exact absurd hi (by simp; try omega))) (.p (Ext.clo rfl (fun i hi => by
      
      exact absurd hi (by simp; try omega))) .nil)), ⟨show SpecsL Tryz.prog _ from (SpecsL.cons s_collM_ok s_collM_en (SpecsL.cons g_cmpMarks_ok g_cmpMarks_en SpecsL.nil)), rfl, ⟨show ItersL Tryz.prog _ from ItersL.nil, (show TrsL Tryz.prog _ from (TrsL.cons s_sortMk_tok s_sortMk_en TrsL.nil))⟩⟩⟩
  · cases hs)
theorem s_sortedM_en : Enters Tryz.prog 177 := fun args w => by kernel_rfl
end Go.Proofs.YtooapgllahonaaaGreat

namespace Go.Proofs.YtooapgllahonaaaGreat
open Go.SE Go.RowKit
set_option maxRecDepth 100000
set_option maxHeartbeats 4000000
set_option linter.unusedVariables false
attribute [local irreducible] vc

/-- Where a setting lays an edge, as a number of the whole line. -/
def L.sg (b : Bool) : Int := bif b then -1 else 1
theorem emod_lin (a e b n : Int) : (a + e * (b % n)) % n = (a + e * b) % n := by
  have h : a + e * (b % n) = a + e * b + n * (-(e * (b / n))) := by
    rw [Int.emod_def]
    simp only [Int.mul_sub, Int.mul_neg, ← Int.mul_assoc, Int.mul_comm n e, Int.mul_left_comm n e]
    omega
  rw [h, Int.add_mul_emod_self_left]
theorem lay_lin {s : L.Setting} {n i : Int} (h0 : 0 ≤ s.shift) (h1 : s.shift < n) (h2 : 0 ≤ i) (h3 : i < n) : L.lay s n i = (s.shift + L.sg s.back * i) % n := by
  unfold L.lay L.sg
  cases s.back with
  | true =>
    simp only [cond_true]
    rw [Int.tmod_eq_emod_of_nonneg (by omega), show s.shift + n - i = s.shift + -1 * i + n by omega, Int.add_emod_right]
  | false =>
    simp only [cond_false]
    rw [Int.tmod_eq_emod_of_nonneg (by omega), Int.one_mul]
theorem sg_xor (a b : Bool) : L.sg (!(a == b)) = L.sg b * L.sg a := by cases a <;> cases b <;> rfl
theorem comp_ok {s t : L.Setting} {n : Int} (hs : L.validSet s n = true) (ht : L.validSet t n = true) : L.compE s t n = 0 ∧ L.comp s t n = ⟨(t.shift + L.sg t.back * s.shift) % n, !(s.back == t.back)⟩ ∧ L.validSet (L.comp s t n) n = true := by
  have a := validSet_iff.1 hs
  have b := validSet_iff.1 ht
  have e : L.compE s t n = 0 := by unfold L.compE; rw [hs, ht]; rfl
  have e2 : L.comp s t n = ⟨(t.shift + L.sg t.back * s.shift) % n, !(s.back == t.back)⟩ := by
    unfold L.comp
    rw [e, lay_lin b.2.1 b.2.2 a.2.1 a.2.2]; rfl
  refine ⟨e, e2, validSet_iff.2 ⟨a.1, ?_⟩⟩
  rw [e2]
  exact ⟨Int.emod_nonneg _ (by omega), Int.emod_lt_of_pos _ (by omega)⟩
theorem comp_assoc {s t u : L.Setting} {n : Int} (hs : L.validSet s n = true) (ht : L.validSet t n = true) (hu : L.validSet u n = true) : L.comp (L.comp s t n) u n = L.comp s (L.comp t u n) n := by
  obtain ⟨_, e1, v1⟩ := comp_ok hs ht
  obtain ⟨_, e2, v2⟩ := comp_ok ht hu
  obtain ⟨_, e3, _⟩ := comp_ok v1 hu
  obtain ⟨_, e4, _⟩ := comp_ok hs v2
  have A : (u.shift + L.sg u.back * ((t.shift + L.sg t.back * s.shift) % n)) % n = ((u.shift + L.sg u.back * t.shift) % n + L.sg (!(t.back == u.back)) * s.shift) % n := by
    rw [emod_lin, sg_xor, Int.emod_add_emod, Int.mul_add, Int.mul_assoc, Int.add_assoc]
  have B : (!((!(s.back == t.back)) == u.back)) = !(s.back == !(t.back == u.back)) := by
    cases s.back <;> cases t.back <;> cases u.back <;> rfl
  rw [e3, e4, e1, e2]
  dsimp only
  rw [A, B]
def L.one : L.Setting := ⟨0, false⟩
theorem one_valid {s : L.Setting} {n : Int} (hs : L.validSet s n = true) : L.validSet L.one n = true := by
  have a := validSet_iff.1 hs
  exact validSet_iff.2 ⟨a.1, Int.le_refl _, show (0 : Int) < n by omega⟩
theorem set_ext {s t : L.Setting} (h : s.shift = t.shift) (k : s.back = t.back) : s = t := by cases s; cases t; simp only at h k; rw [h, k]
theorem comp_one {s : L.Setting} {n : Int} (hs : L.validSet s n = true) : L.comp s L.one n = s := by
  have a := validSet_iff.1 hs
  rw [(comp_ok hs (one_valid hs)).2.1]
  refine set_ext ?_ ?_
  · show (0 + 1 * s.shift) % n = s.shift
    rw [Int.zero_add, Int.one_mul, Int.emod_eq_of_lt a.2.1 a.2.2]
  · show (!(s.back == false)) = s.back
    cases s.back <;> rfl
theorem one_comp {s : L.Setting} {n : Int} (hs : L.validSet s n = true) : L.comp L.one s n = s := by
  have a := validSet_iff.1 hs
  rw [(comp_ok (one_valid hs) hs).2.1]
  refine set_ext ?_ ?_
  · show (s.shift + L.sg s.back * 0) % n = s.shift
    rw [Int.mul_zero, Int.add_zero, Int.emod_eq_of_lt a.2.1 a.2.2]
  · show (!(false == s.back)) = s.back
    cases s.back <;> rfl
theorem inv_ok {s : L.Setting} {n : Int} (hs : L.validSet s n = true) : L.invE s n = 0 ∧ L.validSet (L.inv s n) n = true ∧ L.comp s (L.inv s n) n = L.one := by
  have a := validSet_iff.1 hs
  have hv : L.validSet (L.inv s n) n = true := by
    unfold L.inv
    rw [hs]
    cases hb : s.back with
    | true => exact hs
    | false =>
      refine validSet_iff.2 ⟨a.1, ?_⟩
      show 0 ≤ Int.tmod (n - s.shift) n ∧ Int.tmod (n - s.shift) n < n
      exact ⟨Int.tmod_nonneg _ (by omega), Int.tmod_lt_of_pos _ (by omega)⟩
  refine ⟨by unfold L.invE; rw [hs]; rfl, hv, ?_⟩
  rw [(comp_ok hs hv).2.1]
  unfold L.inv
  rw [hs]
  cases hb : s.back with
  | true =>
    simp only [cond_true]
    refine set_ext ?_ ?_
    · show (s.shift + L.sg s.back * s.shift) % n = 0
      rw [hb]
      show (s.shift + -1 * s.shift) % n = 0
      rw [show s.shift + -1 * s.shift = 0 by omega, Int.zero_emod]
    · show (!(true == s.back)) = false
      rw [hb]; rfl
  | false =>
    simp only [cond_true, cond_false]
    refine set_ext ?_ ?_
    · show (Int.tmod (n - s.shift) n + 1 * s.shift) % n = 0
      rw [Int.tmod_eq_emod_of_nonneg (by omega), Int.emod_add_emod, Int.one_mul, show n - s.shift + s.shift = n by omega, Int.emod_self]
    · rfl
theorem lay_comp {s t : L.Setting} {n i : Int} (hs : L.validSet s n = true) (ht : L.validSet t n = true) (h0 : 0 ≤ i) (h1 : i < n) : L.lay t n (L.lay s n i) = L.lay (L.comp s t n) n i ∧ 0 ≤ L.lay s n i ∧ L.lay s n i < n := by
  have a := validSet_iff.1 hs
  have b := validSet_iff.1 ht
  obtain ⟨_, e1, v1⟩ := comp_ok hs ht
  have c := validSet_iff.1 v1
  have l1 := lay_lin a.2.1 a.2.2 h0 h1
  have r1 : 0 ≤ L.lay s n i ∧ L.lay s n i < n := by
    rw [l1]; exact ⟨Int.emod_nonneg _ (by omega), Int.emod_lt_of_pos _ (by omega)⟩
  refine ⟨?_, r1⟩
  rw [lay_lin b.2.1 b.2.2 r1.1 r1.2, lay_lin c.2.1 c.2.2 h0 h1, l1, e1]
  dsimp only
  rw [emod_lin, sg_xor, Int.emod_add_emod, Int.mul_add, Int.mul_assoc, Int.add_assoc]
theorem ed_ok {s : L.Setting} {n i : Int} (hs : L.validSet s n = true) (h0 : 0 ≤ i) (h1 : i < n) : L.edE s n i = 0 ∧ L.ed s n i = L.lay s n i := by
  have e : L.edE s n i = 0 := by
    unfold L.edE
    rw [hs, within_iff.2 ⟨h0, by omega⟩]; rfl
  exact ⟨e, by unfold L.ed; rw [e]; rfl⟩
theorem one_inv {s : L.Setting} {n : Int} (hs : L.validSet s n = true) : L.comp (L.inv s n) s n = L.one := by
  have i1 := inv_ok hs
  have i2 := inv_ok i1.2.1
  have v := (comp_ok i1.2.1 hs).2.2
  have a1 := comp_assoc i1.2.1 hs i1.2.1
  rw [i1.2.2, comp_one i1.2.1] at a1
  have a2 := comp_assoc v i1.2.1 i2.2.1
  rw [a1, i2.2.2, comp_one v] at a2
  exact a2.symm
end Go.Proofs.YtooapgllahonaaaGreat
