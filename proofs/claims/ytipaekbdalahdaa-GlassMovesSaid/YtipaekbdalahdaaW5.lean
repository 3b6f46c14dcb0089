/- A symbolic walk over the model, and what it shows of functions of the program: parts of the proof that the text of the row joins. -/
import Derived.Test.YtipaekbdalahdaaW4
import Derived.Test.YtipaekbdalahdaaE3
import Derived.KernelRfl

namespace Go.Proofs.Ytipaekbdalahdaa
open Go.SE Go.RowKit
set_option maxRecDepth 100000
set_option maxHeartbeats 4000000
set_option linter.unusedVariables false
attribute [local irreducible] Go.SE.vc

theorem cmpPt_lt {a b : L.Pt} : L.cmpPt a b < 0 ↔ a.x < b.x ∨ (a.x = b.x ∧ a.y < b.y) := by
  have h := cmpPt_neg (a := a) (b := b)
  by_cases h1 : a.x < b.x
  · rw [decide_eq_true h1, cond_true, decide_eq_true_eq] at h
    exact ⟨fun _ => .inl h1, fun _ => h⟩
  · by_cases h2 : a.x = b.x
    · rw [decide_eq_false h1, decide_eq_true h2, cond_false, cond_true, decide_eq_decide] at h
      rw [h]
      exact ⟨fun h => .inr ⟨h2, h⟩, fun h => by rcases h with h | h; exact absurd h h1; exact h.2⟩
    · rw [decide_eq_false h1, decide_eq_false h2, cond_false, cond_false, decide_eq_false_iff_not] at h
      exact ⟨fun h' => absurd h' h, fun h' => by rcases h' with h' | h'; exact absurd h' h1; exact absurd h'.1 h2⟩
theorem minTo_le {l : L.Sq L.Pt} : ∀ {i j : Nat}, j ≤ i → ¬ L.cmpPt (l.g j) (L.minTo l i) < 0
  | 0, j, h => by
    obtain rfl : j = 0 := by omega
    rw [cmpPt_lt, L.minTo]; omega
  | i + 1, j, h => by
    rw [L.minTo]
    cases hd : decide (L.cmpPt (l.g (i + 1)) (L.minTo l i) < 0) with
    | false =>
      rw [cond_false]
      by_cases e : j = i + 1
      · rw [e]; exact of_decide_eq_false hd
      · exact minTo_le (by omega)
    | true =>
      rw [cond_true]
      have h1 := of_decide_eq_true hd
      by_cases e : j = i + 1
      · rw [e, cmpPt_lt]; omega
      · have h2 := minTo_le (l := l) (i := i) (j := j) (by omega)
        rw [cmpPt_lt] at h1 h2 ⊢
        omega
def L.mem (ks : L.Sq L.Pt) (p : L.Pt) : Prop := ∃ i, i < ks.n ∧ ks.g i = p
def L.nod (ks : L.Sq L.Pt) : Prop := ∀ i j, i < ks.n → j < ks.n → ks.g i = ks.g j → i = j
theorem has_iff {ks : L.Sq L.Pt} {p : L.Pt} : L.has ks p = true ↔ L.mem ks p := by
  unfold L.has L.mem
  rw [anyB_iff]
  exact ⟨fun ⟨i, h1, h2⟩ => ⟨i, h1, (same_eq h2).symm⟩, fun ⟨i, h1, h2⟩ => ⟨i, h1, by rw [h2]; exact same_refl p⟩⟩
theorem put_mem {ks : L.Sq L.Pt} {p q : L.Pt} : L.mem (L.put ks p) q ↔ L.mem ks q ∨ q = p := by
  unfold L.put
  cases h : L.has ks p with
  | true =>
    rw [cond_true]
    exact ⟨.inl, fun h' => by rcases h' with h' | rfl; exact h'; exact has_iff.1 h⟩
  | false =>
    rw [cond_false]
    constructor
    · rintro ⟨i, h1, h2⟩
      dsimp only at h1 h2
      by_cases hi : i < ks.n
      · rw [if_pos hi] at h2; exact .inl ⟨i, hi, h2⟩
      · rw [if_neg hi] at h2; exact .inr h2.symm
    · rintro (⟨i, h1, h2⟩ | rfl)
      · exact ⟨i, Nat.lt_succ_of_lt h1, by dsimp only; rw [if_pos h1]; exact h2⟩
      · exact ⟨ks.n, Nat.lt_succ_self _, by dsimp only; rw [if_neg (Nat.lt_irrefl _)]⟩
theorem put_nod {ks : L.Sq L.Pt} {p : L.Pt} (h : L.nod ks) : L.nod (L.put ks p) := by
  unfold L.put
  cases hp : L.has ks p with
  | true => exact h
  | false =>
    have hno : ∀ i, i < ks.n → ks.g i ≠ p := fun i hi e => by
      rw [has_iff.2 ⟨i, hi, e⟩] at hp; cases hp
    rw [cond_false]
    intro i j hi hj e
    dsimp only at hi hj e
    by_cases h1 : i < ks.n <;> by_cases h2 : j < ks.n
    · rw [if_pos h1, if_pos h2] at e; exact h i j h1 h2 e
    · rw [if_pos h1, if_neg h2] at e; exact absurd e (hno i h1)
    · rw [if_neg h1, if_pos h2] at e; exact absurd e.symm (hno j h2)
    · omega
theorem putIf_mem {c : Bool} {ks : L.Sq L.Pt} {p q : L.Pt} : L.mem (L.putIf c ks p) q ↔ L.mem ks q ∨ (c = true ∧ q = p) := by
  unfold L.putIf
  cases c with
  | true => rw [cond_true, put_mem]; exact ⟨fun h => h.imp id (fun e => ⟨rfl, e⟩), fun h => h.imp id (fun e => e.2)⟩
  | false => rw [cond_false]; exact ⟨.inl, fun h => by rcases h with h | h; exact h; exact absurd h.1 Bool.false_ne_true⟩
theorem putIf_nod {c : Bool} {ks : L.Sq L.Pt} {p : L.Pt} (h : L.nod ks) : L.nod (L.putIf c ks p) := by
  unfold L.putIf
  cases c with
  | true => exact put_nod h
  | false => exact h
def L.S (a b c d q : L.Pt) : Prop := (L.on c d a = true ∧ q = a) ∨ (L.on c d b = true ∧ q = b) ∨ (L.on a b c = true ∧ q = c) ∨ (L.on a b d = true ∧ q = d)
theorem no_mem {q : L.Pt} : ¬ L.mem L.no q := fun ⟨_, h, _⟩ => absurd h (Nat.not_lt_zero _)
theorem k2_mem {a b c d q : L.Pt} : L.mem (L.k2 a b c d 2) q ↔ L.S a b c d q := by
  show L.mem (L.putIf (L.on a b d) (L.putIf (L.on a b c) (L.putIf (L.on c d b) (L.putIf (L.on c d a) L.no a) b) c) d) q ↔ _
  rw [putIf_mem, putIf_mem, putIf_mem, putIf_mem]
  unfold L.S
  have := no_mem (q := q)
  constructor
  · rintro ((((h | h) | h) | h) | h)
    · exact absurd h this
    · exact .inl h
    · exact .inr (.inl h)
    · exact .inr (.inr (.inl h))
    · exact .inr (.inr (.inr h))
  · rintro (h | h | h | h)
    · exact .inl (.inl (.inl (.inr h)))
    · exact .inl (.inl (.inr h))
    · exact .inl (.inr h)
    · exact .inr h
theorem k2_nod {a b c d : L.Pt} : L.nod (L.k2 a b c d 2) := by
  show L.nod (L.putIf (L.on a b d) (L.putIf (L.on a b c) (L.putIf (L.on c d b) (L.putIf (L.on c d a) L.no a) b) c) d)
  exact putIf_nod (putIf_nod (putIf_nod (putIf_nod (fun i j hi => absurd hi (Nat.not_lt_zero _)))))
theorem n_two {ks : L.Sq L.Pt} (h : L.nod ks) : 1 < ks.n ↔ ∃ p q, L.mem ks p ∧ L.mem ks q ∧ p ≠ q := by
  constructor
  · intro h1
    refine ⟨ks.g 0, ks.g 1, ⟨0, by omega, rfl⟩, ⟨1, h1, rfl⟩, fun e => ?_⟩
    have := h 0 1 (by omega) h1 e
    omega
  · rintro ⟨p, q, ⟨i, hi, rfl⟩, ⟨j, hj, rfl⟩, hne⟩
    have : i ≠ j := fun e => hne (by rw [e])
    omega
theorem n_pos {ks : L.Sq L.Pt} : 0 < ks.n ↔ ∃ p, L.mem ks p :=
  ⟨fun h => ⟨ks.g 0, 0, h, rfl⟩, fun ⟨_, i, hi, _⟩ => by omega⟩
theorem meet_map {a b c d a' b' c' d' : L.Pt} (T : L.Pt → L.Pt) (inj : ∀ p q, T p = T q → p = q) (hS : ∀ q, L.S a' b' c' d' q ↔ ∃ p, L.S a b c d p ∧ T p = q)
    (hA : (L.apart a' b' c' d' && L.apart c' d' a' b') = (L.apart a b c d && L.apart c d a b)) : L.meet a' b' c' d' = L.meet a b c d := by
  have h2 : 1 < (L.k2 a' b' c' d' 2).n ↔ 1 < (L.k2 a b c d 2).n := by
    rw [n_two k2_nod, n_two k2_nod]
    constructor
    · rintro ⟨p, q, hp, hq, hne⟩
      rw [k2_mem, hS] at hp hq
      obtain ⟨p0, hp, rfl⟩ := hp
      obtain ⟨q0, hq, rfl⟩ := hq
      exact ⟨p0, q0, k2_mem.2 hp, k2_mem.2 hq, fun e => hne (by rw [e])⟩
    · rintro ⟨p, q, hp, hq, hne⟩
      exact ⟨T p, T q, k2_mem.2 ((hS _).2 ⟨p, k2_mem.1 hp, rfl⟩), k2_mem.2 ((hS _).2 ⟨q, k2_mem.1 hq, rfl⟩), fun e => hne (inj _ _ e)⟩
  have h0 : 0 < (L.k2 a' b' c' d' 2).n ↔ 0 < (L.k2 a b c d 2).n := by
    rw [n_pos, n_pos]
    constructor
    · rintro ⟨p, hp⟩
      rw [k2_mem, hS] at hp
      obtain ⟨p0, hp, rfl⟩ := hp
      exact ⟨p0, k2_mem.2 hp⟩
    · rintro ⟨p, hp⟩
      exact ⟨T p, k2_mem.2 ((hS _).2 ⟨p, k2_mem.1 hp, rfl⟩)⟩
  unfold L.meet
  rw [band, band, hA]
  have e1 : decide (1 < ((L.k2 a' b' c' d' 2).n : Int)) = decide (1 < ((L.k2 a b c d 2).n : Int)) := by rw [decide_eq_decide]; omega
  have e2 : decide (((L.k2 a' b' c' d' 2).n : Int) = 1) = decide (((L.k2 a b c d 2).n : Int) = 1) := by rw [decide_eq_decide]; omega
  rw [e1, e2]
theorem meet_none {a b c d : L.Pt} (h : L.meet a b c d = 0) (q : L.Pt) : ¬ L.S a b c d q := fun hS => by
  have h0 := n_pos.2 ⟨q, k2_mem.2 hS⟩
  unfold L.meet at h
  by_cases h1 : 1 < ((L.k2 a b c d 2).n : Int)
  · rw [decide_eq_true h1] at h; cases h
  · rw [decide_eq_false h1, decide_eq_true (show ((L.k2 a b c d 2).n : Int) = 1 by omega)] at h; cases h
theorem meet_swap (a b c d : L.Pt) : L.meet c d a b = L.meet a b c d := by
  refine meet_map id (fun _ _ h => h) (fun q => ?_) (Bool.and_comm _ _)
  unfold L.S
  constructor
  · rintro (h | h | h | h)
    · exact ⟨q, .inr (.inr (.inl h)), rfl⟩
    · exact ⟨q, .inr (.inr (.inr h)), rfl⟩
    · exact ⟨q, .inl h, rfl⟩
    · exact ⟨q, .inr (.inl h), rfl⟩
  · rintro ⟨p, h, rfl⟩
    rcases h with h | h | h | h
    · exact .inr (.inr (.inl h))
    · exact .inr (.inr (.inr h))
    · exact .inl h
    · exact .inr (.inl h)
theorem cross_flip (a b c : L.Pt) : L.cross b a c = - L.cross a b c := by
  unfold L.cross
  grind
theorem on_flip (a b p : L.Pt) : L.on b a p = L.on a b p := by
  unfold L.on
  rw [cross_flip, Int.min_comm b.x, Int.max_comm b.x, Int.min_comm b.y, Int.max_comm b.y]
  congr 2
  rw [decide_eq_decide]
  omega
theorem cmp0 (a : Int) : L.cmp (-a) 0 = - L.cmp a 0 := by
  unfold L.cmp
  rcases Int.lt_trichotomy a 0 with h | h | h
  · rw [decide_eq_true h, decide_eq_false (show ¬ -a < 0 by omega), decide_eq_true (show 0 < -a by omega)]; rfl
  · subst h; rfl
  · rw [decide_eq_false (show ¬ a < 0 by omega), decide_eq_true h, decide_eq_true (show -a < 0 by omega)]; rfl
theorem apart_eq {a b c d a' b' c' d' : L.Pt} {e : Int} (he : e = 1 ∨ e = -1) (h1 : L.cross a' b' c' = e * L.cross a b c) (h2 : L.cross a' b' d' = e * L.cross a b d) : L.apart a' b' c' d' = L.apart a b c d := by
  unfold L.apart
  rw [h1, h2]
  rcases he with rfl | rfl
  · rw [Int.one_mul, Int.one_mul]
  · rw [show ∀ x : Int, -1 * x = -x from fun x => by omega, show ∀ x : Int, -1 * x = -x from fun x => by omega, cmp0, cmp0, Int.neg_mul_neg]
theorem apart_sym (a b c d : L.Pt) : L.apart a b d c = L.apart a b c d := by
  unfold L.apart; rw [Int.mul_comm]
theorem meet_rev (a b c d : L.Pt) : L.meet b a c d = L.meet a b c d := by
  refine meet_map id (fun _ _ h => h) (fun q => ?_) ?_
  · unfold L.S
    rw [on_flip a b c, on_flip a b d]
    constructor
    · rintro (h | h | h | h)
      · exact ⟨q, .inr (.inl h), rfl⟩
      · exact ⟨q, .inl h, rfl⟩
      · exact ⟨q, .inr (.inr (.inl h)), rfl⟩
      · exact ⟨q, .inr (.inr (.inr h)), rfl⟩
    · rintro ⟨p, h, rfl⟩
      rcases h with h | h | h | h
      · exact .inr (.inl h)
      · exact .inl h
      · exact .inr (.inr (.inl h))
      · exact .inr (.inr (.inr h))
  · have e := apart_eq (a := a) (b := b) (c := c) (d := d) (a' := b) (b' := a) (c' := c) (d' := d) (e := -1) (.inr rfl) (by rw [cross_flip a b c]; omega) (by rw [cross_flip a b d]; omega)
    rw [apart_sym c d a b, e]
theorem meet_rev2 (a b c d : L.Pt) : L.meet b a d c = L.meet a b c d := by
  rw [meet_rev, ← meet_swap, meet_rev, meet_swap]
structure L.Iso (e : Int) (T : L.Pt → L.Pt) : Prop where
  sg : e = 1 ∨ e = -1
  ds : ∀ a b, L.dist (T a) (T b) = L.dist a b
  cr : ∀ a b c, L.cross (T a) (T b) (T c) = e * L.cross a b c
  on : ∀ a b p, L.on (T a) (T b) (T p) = L.on a b p
  inj : ∀ a b, T a = T b → a = b
theorem meet_iso {e : Int} {T : L.Pt → L.Pt} (h : L.Iso e T) (a b c d : L.Pt) : L.meet (T a) (T b) (T c) (T d) = L.meet a b c d := by
  refine meet_map T h.inj (fun q => ?_) (by rw [apart_eq h.sg (h.cr _ _ _) (h.cr _ _ _), apart_eq h.sg (h.cr _ _ _) (h.cr _ _ _)])
  unfold L.S
  rw [h.on, h.on, h.on, h.on]
  constructor
  · rintro (⟨h, rfl⟩ | ⟨h, rfl⟩ | ⟨h, rfl⟩ | ⟨h, rfl⟩)
    · exact ⟨a, .inl ⟨h, rfl⟩, rfl⟩
    · exact ⟨b, .inr (.inl ⟨h, rfl⟩), rfl⟩
    · exact ⟨c, .inr (.inr (.inl ⟨h, rfl⟩)), rfl⟩
    · exact ⟨d, .inr (.inr (.inr ⟨h, rfl⟩)), rfl⟩
  · rintro ⟨p, ⟨h, rfl⟩ | ⟨h, rfl⟩ | ⟨h, rfl⟩ | ⟨h, rfl⟩, rfl⟩
    · exact .inl ⟨h, rfl⟩
    · exact .inr (.inl ⟨h, rfl⟩)
    · exact .inr (.inr (.inl ⟨h, rfl⟩))
    · exact .inr (.inr (.inr ⟨h, rfl⟩))
theorem pt_ext {a b : L.Pt} (h1 : a.x = b.x) (h2 : a.y = b.y) : a = b := by cases a; cases b; simp only at h1 h2; rw [h1, h2]
theorem iso_comp {e f : Int} {T U : L.Pt → L.Pt} (h : L.Iso e T) (k : L.Iso f U) : L.Iso (e * f) (fun p => T (U p)) where
  sg := by rcases h.sg with rfl | rfl <;> rcases k.sg with rfl | rfl <;> decide
  ds := fun a b => by rw [h.ds, k.ds]
  cr := fun a b c => by rw [h.cr, k.cr, Int.mul_assoc]
  on := fun a b p => by rw [h.on, k.on]
  inj := fun a b e => k.inj _ _ (h.inj _ _ e)
theorem iso_id : L.Iso 1 (fun p => p) where
  sg := .inl rfl
  ds := fun _ _ => rfl
  cr := fun _ _ _ => by rw [Int.one_mul]
  on := fun _ _ _ => rfl
  inj := fun _ _ h => h
theorem iso_turn : L.Iso 1 (fun p => (⟨-p.y, p.x⟩ : L.Pt)) where
  sg := .inl rfl
  ds := fun a b => by unfold L.dist; grind
  cr := fun a b c => by unfold L.cross; grind
  on := fun a b p => by
    unfold L.on
    have e : L.cross (⟨-a.y, a.x⟩ : L.Pt) ⟨-b.y, b.x⟩ ⟨-p.y, p.x⟩ = L.cross a b p := by unfold L.cross; grind
    rw [e, Bool.eq_iff_iff]
    simp only [Bool.and_eq_true, within_iff]
    constructor
    · rintro ⟨⟨h1, h2⟩, h3⟩; exact ⟨⟨h1, by omega⟩, by omega⟩
    · rintro ⟨⟨h1, h2⟩, h3⟩; exact ⟨⟨h1, by omega⟩, by omega⟩
  inj := fun a b h => by
    have h1 := congrArg L.Pt.x h
    have h2 := congrArg L.Pt.y h
    dsimp only at h1 h2
    exact pt_ext h2 (by omega)
theorem iso_mir : L.Iso (-1) (fun p => (⟨-p.x, p.y⟩ : L.Pt)) where
  sg := .inr rfl
  ds := fun a b => by unfold L.dist; grind
  cr := fun a b c => by unfold L.cross; grind
  on := fun a b p => by
    unfold L.on
    have e : L.cross (⟨-a.x, a.y⟩ : L.Pt) ⟨-b.x, b.y⟩ ⟨-p.x, p.y⟩ = - L.cross a b p := by unfold L.cross; grind
    rw [e, Bool.eq_iff_iff]
    simp only [Bool.and_eq_true, within_iff, decide_eq_true_eq]
    constructor
    · rintro ⟨⟨h1, h2⟩, h3⟩; exact ⟨⟨by omega, by omega⟩, by omega⟩
    · rintro ⟨⟨h1, h2⟩, h3⟩; exact ⟨⟨by omega, by omega⟩, by omega⟩
  inj := fun a b h => by
    have h1 := congrArg L.Pt.x h
    have h2 := congrArg L.Pt.y h
    dsimp only at h1 h2
    exact pt_ext (by omega) h2
theorem iso_by (u : L.Pt) : L.Iso 1 (fun p => (⟨p.x + u.x, p.y + u.y⟩ : L.Pt)) where
  sg := .inl rfl
  ds := fun a b => by
    unfold L.dist
    dsimp only
    rw [show b.x + u.x - (a.x + u.x) = b.x - a.x by omega, show b.y + u.y - (a.y + u.y) = b.y - a.y by omega]
  cr := fun a b c => by
    unfold L.cross
    dsimp only
    rw [show b.x + u.x - (a.x + u.x) = b.x - a.x by omega, show b.y + u.y - (a.y + u.y) = b.y - a.y by omega, show c.x + u.x - (a.x + u.x) = c.x - a.x by omega, show c.y + u.y - (a.y + u.y) = c.y - a.y by omega, Int.one_mul]
  on := fun a b p => by
    unfold L.on
    have e : L.cross (⟨a.x + u.x, a.y + u.y⟩ : L.Pt) ⟨b.x + u.x, b.y + u.y⟩ ⟨p.x + u.x, p.y + u.y⟩ = L.cross a b p := by
      unfold L.cross
      dsimp only
      rw [show b.x + u.x - (a.x + u.x) = b.x - a.x by omega, show b.y + u.y - (a.y + u.y) = b.y - a.y by omega, show p.x + u.x - (a.x + u.x) = p.x - a.x by omega, show p.y + u.y - (a.y + u.y) = p.y - a.y by omega]
    rw [e, Bool.eq_iff_iff]
    simp only [Bool.and_eq_true, within_iff]
    constructor
    · rintro ⟨⟨h1, h2⟩, h3⟩; exact ⟨⟨h1, by omega⟩, by omega⟩
    · rintro ⟨⟨h1, h2⟩, h3⟩; exact ⟨⟨h1, by omega⟩, by omega⟩
  inj := fun a b h => by
    have h1 := congrArg L.Pt.x h
    have h2 := congrArg L.Pt.y h
    dsimp only at h1 h2
    exact pt_ext (by omega) (by omega)
theorem iso_turnN : ∀ k, L.Iso 1 (fun p => L.turnN p k)
  | 0 => iso_id
  | k + 1 => iso_comp iso_turn (iso_turnN k)
def L.sgM (m : L.Motion) : Int := bif m.mirror then -1 else 1
theorem iso_mirM (m : L.Motion) : L.Iso (L.sgM m) (L.mir m) := by
  unfold L.sgM L.mir
  cases m.mirror
  · exact iso_id
  · exact iso_mir
theorem iso_apply (m : L.Motion) : L.Iso (L.sgM m) (L.apply m) := by
  have := iso_comp (iso_by m.by_) (iso_comp (iso_turnN m.turn.toNat) (iso_mirM m))
  rw [Int.one_mul, Int.one_mul] at this
  exact this
def L.cy (l : L.Sq L.Pt) (a : Int) : L.Pt := l.g (L.ix l.n a)
theorem cy_nat {l : L.Sq L.Pt} {k : Nat} (h : k < l.n) : L.cy l (k : Int) = l.g k := by unfold L.cy; rw [ix_self h]
theorem cy_next {l : L.Sq L.Pt} {k : Nat} (h : k < l.n) : L.cy l ((k : Int) + 1) = l.g (L.next l.n k) := by unfold L.cy; rw [ix_next h]
theorem cy_congr {l : L.Sq L.Pt} {a b : Int} (hn : 0 < l.n) (h : a % (l.n : Int) = b % (l.n : Int)) (c : Int) : L.cy l (a + c) = L.cy l (b + c) := by unfold L.cy; rw [ix_congr hn h c]
theorem cy_ix {l : L.Sq L.Pt} (hn : 0 < l.n) (a c : Int) : L.cy l (((L.ix l.n a : Nat) : Int) + c) = L.cy l (a + c) := by unfold L.cy; rw [ix_ix hn c]
def L.simpC (n : Nat) (f : Int → L.Pt) : Prop := ∀ a b : Int, a % (n : Int) ≠ b % (n : Int) → L.meet (f a) (f (a + 1)) (f b) (f (b + 1)) = (if (b - a) % (n : Int) = 1 ∨ (a - b) % (n : Int) = 1 then 1 else 0)
theorem pair_cy {l : L.Sq L.Pt} {i k : Nat} (h1 : i < k) (h2 : k < l.n) : L.how l i k = L.meet (L.cy l i) (L.cy l (i + 1)) (L.cy l k) (L.cy l (k + 1)) ∧ (L.nxt l i k = true ↔ ((k : Int) - i) % (l.n : Int) = 1 ∨ ((i : Int) - k) % (l.n : Int) = 1) := by
  constructor
  · unfold L.how
    have e : L.cy l ((i : Int) + 1) = l.g (i + 1) := by
      have := cy_nat (l := l) (k := i + 1) (by omega)
      rw [← this]; congr 1
    rw [cy_nat (l := l) (k := i) (by omega), e, cy_nat h2, cy_next h2]
  · unfold L.nxt
    rw [bor, Bool.or_eq_true, band, Bool.and_eq_true, decide_eq_true_eq, decide_eq_true_eq, decide_eq_true_eq]
    have m1 : ((k : Int) - i) % (l.n : Int) = (k : Int) - i := Int.emod_eq_of_lt (by omega) (by omega)
    have m2 : ((i : Int) - k) % (l.n : Int) = (i : Int) - k + l.n := by
      rw [← Int.add_emod_right, Int.emod_eq_of_lt (by omega) (by omega)]
    rw [m1, m2]
    omega
theorem simpC_of {l : L.Sq L.Pt} (hn : 0 < l.n) (h : L.simple l = true) : L.simpC l.n (L.cy l) := by
  have hp : ∀ i k, i < k → k < l.n → L.okPair l i k = true := fun i k h1 h2 => by
    unfold L.simple at h
    have := allB_iff.1 (allB_iff.1 h i (by omega)) k h2
    rw [decide_eq_true h1] at this
    exact this
  have key : ∀ i k : Nat, i < k → k < l.n → L.meet (L.cy l i) (L.cy l (i + 1)) (L.cy l k) (L.cy l (k + 1)) = (if ((k : Int) - i) % (l.n : Int) = 1 ∨ ((i : Int) - k) % (l.n : Int) = 1 then 1 else 0) := fun i k h1 h2 => by
    obtain ⟨e1, e2⟩ := pair_cy (l := l) h1 h2
    have := hp i k h1 h2
    unfold L.okPair at this
    rw [← e1]
    cases hx : L.nxt l i k with
    | true => rw [hx] at this; rw [if_pos (e2.1 hx)]; exact of_decide_eq_true this
    | false =>
      rw [hx] at this
      rw [if_neg (fun h => by rw [e2.2 h] at hx; cases hx)]
      exact of_decide_eq_true this
  intro a b hab
  have ha := ix_emod (a := a) hn
  have hb := ix_emod (a := b) hn
  have la := ix_lt (n := l.n) (i := a) hn
  have lb := ix_lt (n := l.n) (i := b) hn
  have m : ∀ x y : Int, (((L.ix l.n x : Nat) : Int) - ((L.ix l.n y : Nat) : Int)) % (l.n : Int) = (x - y) % (l.n : Int) := fun x y => by
    rw [ix_emod hn, ix_emod hn, ← Int.sub_emod]
  have c0 : ∀ x : Int, L.cy l ((L.ix l.n x : Nat) : Int) = L.cy l x := fun x => by
    have := cy_ix hn x 0
    rwa [Int.add_zero, Int.add_zero] at this
  rcases Nat.lt_trichotomy (L.ix l.n a) (L.ix l.n b) with h1 | h1 | h1
  · have := key _ _ h1 lb
    rw [c0, c0, cy_ix hn, cy_ix hn, m, m] at this
    exact this
  · exact absurd (by rw [← ha, ← hb, h1]) hab
  · have := key _ _ h1 la
    rw [c0, c0, cy_ix hn, cy_ix hn, m, m, meet_swap] at this
    rw [this]
    by_cases c : (a - b) % (l.n : Int) = 1 ∨ (b - a) % (l.n : Int) = 1
    · rw [if_pos c, if_pos c.symm]
    · rw [if_neg c, if_neg (fun h => c h.symm)]
theorem simple_of {l : L.Sq L.Pt} (h : L.simpC l.n (L.cy l)) : L.simple l = true := by
  unfold L.simple
  refine allB_iff.2 (fun i hi => allB_iff.2 (fun k hk => ?_))
  by_cases hik : i < k
  · obtain ⟨e1, e2⟩ := pair_cy (l := l) hik hk
    have := h i k (by rw [Int.emod_eq_of_lt (by omega) (by omega), Int.emod_eq_of_lt (by omega) (by omega)]; omega)
    rw [← e1] at this
    rw [decide_eq_true hik]
    unfold L.okPair
    cases hx : L.nxt l i k with
    | true => rw [if_pos (e2.1 hx)] at this; exact decide_eq_true this
    | false =>
      rw [if_neg (fun h => by rw [e2.2 h] at hx; cases hx)] at this
      exact decide_eq_true this
  · rw [decide_eq_false hik]; rfl
theorem cross_turn (a b c : L.Pt) : L.cross a b c = - L.cross c b a := by
  unfold L.cross
  grind
theorem dist_com (a b : L.Pt) : L.dist a b = L.dist b a := by
  unfold L.dist
  rw [show a.x - b.x = -(b.x - a.x) by omega, show a.y - b.y = -(b.y - a.y) by omega, Int.neg_mul_neg, Int.neg_mul_neg]
theorem cross_cy {l : L.Sq L.Pt} (hv : L.validOutline l = true) (a : Int) : L.cross (L.cy l (a - 1)) (L.cy l a) (L.cy l (a + 1)) ≠ 0 := by
  have hn := (validOutline_of hv).1
  have hk := ix_lt (n := l.n) (i := a) (by omega)
  have hc := (outline_all hv).2 _ hk
  have e1 : L.prev l.n (L.ix l.n a) = L.ix l.n (a - 1) := by
    rw [← ix_prev hk, show ((L.ix l.n a : Nat) : Int) - 1 = ((L.ix l.n a : Nat) : Int) + -1 by omega, ix_ix (by omega)]; rfl
  have e2 : L.next l.n (L.ix l.n a) = L.ix l.n (a + 1) := by
    rw [← ix_next hk, ix_ix (by omega)]
  rw [e1, e2] at hc
  exact hc
theorem emod_eq_of {n a b : Int} (h : (b - a) % n = 1 % n) : b % n = (a + 1) % n := by
  have := Int.emod_emod_of_dvd (b - a) (Int.dvd_refl n)
  have e : b = (b - a) + a := by omega
  rw [e, Int.add_emod, h, ← Int.add_emod, Int.add_comm]
theorem cy_inj {l : L.Sq L.Pt} (hv : L.validOutline l = true) {a b : Int} (h : L.cy l a = L.cy l b) : a % (l.n : Int) = b % (l.n : Int) := by
  obtain ⟨n3, _, _, _⟩ := validOutline_of hv
  have hn : 0 < l.n := by omega
  have hs : L.simple l = true := by
    unfold L.validOutline at hv
    rw [Bool.and_eq_true, Bool.and_eq_true] at hv
    exact hv.2.2
  have next_ne : ∀ x y : Int, (y - x) % (l.n : Int) = 1 → L.cy l x ≠ L.cy l y := fun x y hxy e => by
    have h1 : y % (l.n : Int) = (x + 1) % (l.n : Int) := emod_eq_of (by rw [hxy, Int.emod_eq_of_lt (by omega) (by omega)])
    have h2 : L.cy l y = L.cy l (x + 1) := by
      have := cy_congr (l := l) hn h1 0
      rwa [Int.add_zero, Int.add_zero] at this
    refine cross_cy hv x ?_
    rw [← h2, ← e]
    unfold L.cross
    rw [Int.mul_comm]; omega
  by_cases hab : a % (l.n : Int) = b % (l.n : Int)
  · exact hab
  · have hm := simpC_of hn hs a b hab
    by_cases c1 : (b - a) % (l.n : Int) = 1
    · exact absurd h (next_ne a b c1)
    by_cases c2 : (a - b) % (l.n : Int) = 1
    · exact absurd h.symm (next_ne b a c2)
    rw [if_neg (fun h => by rcases h with h | h; exact c1 h; exact c2 h)] at hm
    exact absurd (.inl ⟨by rw [h]; exact on_left, rfl⟩) (meet_none hm (L.cy l a))
def L.tm (p q : L.Pt) : Int := p.x * q.y - q.x * p.y
def L.sm (f : Int → Int) : Nat → Int
  | 0 => 0
  | k + 1 => L.sm f k + f (k : Int)
theorem sm_congr {f g : Int → Int} (h : ∀ i, f i = g i) : ∀ k, L.sm f k = L.sm g k
  | 0 => rfl
  | k + 1 => by rw [L.sm, L.sm, sm_congr h k, h]
theorem sm_left {f : Int → Int} : ∀ k, L.sm f (k + 1) = f 0 + L.sm (fun i => f (i + 1)) k
  | 0 => by show 0 + f 0 = f 0 + 0; omega
  | k + 1 => by
    rw [L.sm, sm_left k]
    show f 0 + L.sm (fun i => f (i + 1)) k + f ((k + 1 : Nat) : Int) = f 0 + (L.sm (fun i => f (i + 1)) k + f ((k : Int) + 1))
    rw [show ((k + 1 : Nat) : Int) = (k : Int) + 1 by omega]
    omega
theorem sm_rev {f : Int → Int} : ∀ k : Nat, L.sm (fun i => f ((k : Int) - 1 - i)) k = L.sm f k
  | 0 => rfl
  | k + 1 => by
    rw [sm_left, L.sm]
    have e : L.sm (fun i => f (((k + 1 : Nat) : Int) - 1 - (i + 1))) k = L.sm (fun i => f ((k : Int) - 1 - i)) k := sm_congr (fun i => by rw [show ((k + 1 : Nat) : Int) - 1 - (i + 1) = (k : Int) - 1 - i by omega]) k
    rw [e, sm_rev k, show ((k + 1 : Nat) : Int) - 1 - 0 = (k : Int) by omega]
    omega
theorem sm_neg {f : Int → Int} : ∀ k, L.sm (fun i => - f i) k = - L.sm f k
  | 0 => rfl
  | k + 1 => by rw [L.sm, L.sm, sm_neg k]; omega
theorem sm_tele {f g : Int → Int} (e : Int) : ∀ k : Nat, L.sm (fun i => e * f i + (g (i + 1) - g i)) k = e * L.sm f k + (g (k : Int) - g 0)
  | 0 => by show 0 = e * 0 + (g 0 - g 0); rw [Int.mul_zero]; omega
  | k + 1 => by
    rw [L.sm, L.sm, sm_tele e k, Int.mul_add, show ((k + 1 : Nat) : Int) = (k : Int) + 1 by omega]
    omega
theorem sm_shift1 {f : Int → Int} {n : Nat} (hp : ∀ a, f (a + n) = f a) : L.sm (fun i => f (i + 1)) n = L.sm f n := by
  have h1 := sm_left (f := f) n
  rw [L.sm] at h1
  have h2 := hp 0
  rw [Int.zero_add] at h2
  omega
theorem sm_shift {n : Nat} : ∀ (c : Nat) {f : Int → Int}, (∀ a, f (a + n) = f a) → L.sm (fun i => f (i + c)) n = L.sm f n
  | 0, f, _ => sm_congr (fun i => by rw [show i + ((0 : Nat) : Int) = i by omega]) n
  | c + 1, f, hp => by
    have e : L.sm (fun i => f (i + ((c + 1 : Nat) : Int))) n = L.sm (fun i => (fun j => f (j + c)) (i + 1)) n := sm_congr (fun i => by
      show f (i + ((c + 1 : Nat) : Int)) = f (i + 1 + (c : Int))
      rw [show i + ((c + 1 : Nat) : Int) = i + 1 + (c : Int) by omega]) n
    rw [e, sm_shift1 (f := fun j => f (j + c)) (fun a => by
      show f (a + (n : Int) + (c : Int)) = f (a + (c : Int))
      rw [show a + (n : Int) + (c : Int) = a + c + n by omega, hp]), sm_shift c hp]
theorem sm_shiftI {f : Int → Int} {n : Nat} (hn : 0 < n) (hp : ∀ a b : Int, a % (n : Int) = b % (n : Int) → f a = f b) (c : Int) : L.sm (fun i => f (i + c)) n = L.sm f n := by
  have h0 := Int.emod_nonneg c (show (n : Int) ≠ 0 by omega)
  have e : L.sm (fun i => f (i + c)) n = L.sm (fun i => f (i + (c % (n : Int)).toNat)) n := sm_congr (fun i => hp _ _ (by
    rw [Int.toNat_of_nonneg h0, Int.add_emod_emod])) n
  rw [e, sm_shift _ (fun a => hp _ _ (by rw [Int.add_emod_right]))]
def L.ct (l : L.Sq L.Pt) (i : Int) : Int := L.tm (L.cy l i) (L.cy l (i + 1))
theorem ct_per {l : L.Sq L.Pt} (hn : 0 < l.n) (a b : Int) (h : a % (l.n : Int) = b % (l.n : Int)) : L.ct l a = L.ct l b := by
  unfold L.ct
  have h0 := cy_congr (l := l) hn h 0
  rw [Int.add_zero, Int.add_zero] at h0
  rw [h0, cy_congr hn h 1]
theorem area_sm {l : L.Sq L.Pt} : ∀ {k : Nat}, k ≤ l.n → L.areaTo l k = L.sm (L.ct l) k
  | 0, _ => rfl
  | k + 1, h => by
    rw [L.areaTo, L.sm, area_sm (k := k) (by omega)]
    unfold L.ct L.tm
    rw [cy_nat (by omega), cy_next (by omega)]
theorem tm_turnN (p q : L.Pt) : ∀ k, L.tm (L.turnN p k) (L.turnN q k) = L.tm p q
  | 0 => rfl
  | k + 1 => by
    rw [← tm_turnN p q k]
    unfold L.tm
    show -(L.turnN p k).y * (L.turnN q k).x - -(L.turnN q k).y * (L.turnN p k).x = _
    grind
theorem tm_mir (m : L.Motion) (p q : L.Pt) : L.tm (L.mir m p) (L.mir m q) = L.sgM m * L.tm p q := by
  unfold L.mir L.sgM L.tm
  cases m.mirror
  · simp only [cond_false]; omega
  · simp only [cond_true]; grind
theorem area_moved {l : L.Sq L.Pt} {m : L.Motion} (hn : 0 < l.n) : L.areaTo (L.moved l m) l.n = L.sgM m * L.areaTo l l.n := by
  have a1 := area_sm (l := L.moved l m) (k := l.n) (Nat.le_refl _)
  have a2 := area_sm (l := l) (k := l.n) (Nat.le_refl _)
  rw [a1, a2]
  have e : ∀ i, L.ct (L.moved l m) i = L.sgM m * L.ct l i + ((fun j => m.by_.x * (L.turned m (L.cy l j)).y - m.by_.y * (L.turned m (L.cy l j)).x) (i + 1) - (fun j => m.by_.x * (L.turned m (L.cy l j)).y - m.by_.y * (L.turned m (L.cy l j)).x) i) := fun i => by
    have h1 : L.tm (L.turned m (L.cy l i)) (L.turned m (L.cy l (i + 1))) = L.sgM m * L.ct l i := by
      unfold L.turned
      rw [tm_turnN, tm_mir]; rfl
    rw [← h1]
    show L.tm (L.apply m (L.cy l i)) (L.apply m (L.cy l (i + 1))) = _
    unfold L.tm L.apply
    dsimp only
    grind
  refine (sm_congr e l.n).trans ((sm_tele (f := L.ct l) (g := fun j => m.by_.x * (L.turned m (L.cy l j)).y - m.by_.y * (L.turned m (L.cy l j)).x) (L.sgM m) l.n).trans ?_)
  have h0 : L.cy l (l.n : Int) = L.cy l 0 := by
    have := cy_congr (l := l) (a := (l.n : Int)) (b := 0) hn (by rw [Int.emod_self, Int.zero_emod]) 0
    rwa [Int.add_zero, Int.add_zero] at this
  rw [h0]
  omega
theorem ix_neg {n : Nat} (hn : 0 < n) (a : Int) : n - 1 - L.ix n a = L.ix n (-1 - a) := by
  have h1 := ix_emod (a := a) hn
  have h2 := ix_emod (a := -1 - a) hn
  have h3 := ix_lt (n := n) (i := a) hn
  have h4 : (-1 - a) % (n : Int) = (n : Int) - 1 - ((L.ix n a : Nat) : Int) := by
    rw [h1]
    have e : (-1 - a) % (n : Int) = ((n : Int) - 1 - a % (n : Int)) % (n : Int) := by
      rw [Int.sub_emod (n - 1 : Int) (a % (n : Int)), Int.emod_emod, ← Int.sub_emod, show (n : Int) - 1 - a = -1 - a + n by omega, Int.add_emod_right]
    rw [e, Int.emod_eq_of_lt (by omega) (by omega)]
  omega
theorem flip_cy {l : L.Sq L.Pt} (hn : 0 < l.n) : (L.flip l).n = l.n ∧ ((L.areaTo l l.n < 0 ∧ ∀ a, L.cy (L.flip l) a = L.cy l (-1 - a)) ∨ (¬ L.areaTo l l.n < 0 ∧ ∀ a, L.cy (L.flip l) a = L.cy l a)) := by
  unfold L.flip
  by_cases h : L.areaTo l l.n < 0
  · rw [decide_eq_true h, cond_true]
    refine ⟨rfl, .inl ⟨h, fun a => ?_⟩⟩
    show l.g (l.n - 1 - L.ix l.n a) = l.g (L.ix l.n (-1 - a))
    rw [ix_neg hn]
  · rw [decide_eq_false h, cond_false]
    exact ⟨rfl, .inr ⟨h, fun _ => rfl⟩⟩
theorem norm_cy {l : L.Sq L.Pt} (hn : 0 < l.n) : ∃ K : Nat, K < l.n ∧ (L.flip l).g K = L.minTo (L.flip l) (l.n - 1) ∧ ∀ a, L.cy (L.norm l) a = L.cy (L.flip l) (K + a) := by
  have hf := (flip_cy hn).1
  obtain ⟨K, h1, h2, h3⟩ := minIdx (l := L.flip l) (by rw [hf]; omega)
  rw [hf] at h1 h2 h3
  have hk : L.minK (L.flip l) = K := by unfold L.minK; rw [hf, h2]; rfl
  refine ⟨K, h1, h3, fun a => ?_⟩
  have hx := ix_lt (n := l.n) (i := a) hn
  have e0 : L.cy (L.flip l) ((K : Int) + a) = L.cy (L.flip l) (((L.ix l.n a : Nat) : Int) + K) := by
    have := cy_ix (l := L.flip l) (by rw [hf]; exact hn) a K
    rw [hf] at this
    rw [this, Int.add_comm]
  show (L.rot (L.flip l) (L.minK (L.flip l))).g (L.ix l.n a) = _
  rw [hk, e0]
  show (bif decide (L.ix l.n a < (L.flip l).n - K) then (L.flip l).g (K + L.ix l.n a) else (L.flip l).g (L.ix l.n a - ((L.flip l).n - K))) = _
  rw [hf]
  unfold L.cy
  rw [hf]
  by_cases c : L.ix l.n a < l.n - K
  · rw [decide_eq_true c, cond_true]
    have := ix_self (n := l.n) (k := K + L.ix l.n a) (by omega)
    rw [show ((K + L.ix l.n a : Nat) : Int) = ((L.ix l.n a : Nat) : Int) + (K : Int) by omega] at this
    rw [this]
  · rw [decide_eq_false c, cond_false]
    have := ix_self (n := l.n) (k := L.ix l.n a - (l.n - K)) (by omega)
    have e2 := ix_congr (n := l.n) (a := ((L.ix l.n a - (l.n - K) : Nat) : Int)) (b := ((L.ix l.n a : Nat) : Int) + (K : Int)) hn (by rw [show ((L.ix l.n a : Nat) : Int) + (K : Int) = ((L.ix l.n a - (l.n - K) : Nat) : Int) + l.n by omega, Int.add_emod_right]) 0
    rw [Int.add_zero, Int.add_zero] at e2
    rw [← e2, this]
theorem sgM_or (m : L.Motion) : L.sgM m = 1 ∨ L.sgM m = -1 := (iso_mirM m).sg
/-- How the normal position of a moved outline lies. -/
theorem norm_map {l : L.Sq L.Pt} {m : L.Motion} (hv : L.validOutline l = true) : ∃ c : Int, ∀ a, L.cy (L.norm (L.moved l m)) a = L.cy (L.moved l m) (c + L.sgM m * a) := by
  obtain ⟨n3, _, _, _⟩ := validOutline_of hv
  have hn : 0 < (L.moved l m).n := by show 0 < l.n; omega
  have hA : 0 < L.areaTo l l.n := by
    unfold L.validOutline L.valid3 at hv
    rw [Bool.and_eq_true] at hv
    have h1 := hv.1
    cases hx : (bif !L.within (l.n : Int) 3 24 then true else !L.validPts l) with
    | true => rw [hx] at h1; cases h1
    | false => rw [hx] at h1; exact of_decide_eq_true h1
  have hM := area_moved (l := l) (m := m) (by omega)
  obtain ⟨K, h1, h2, h3⟩ := norm_cy hn
  obtain ⟨_, hf⟩ := flip_cy hn
  have hf : (L.areaTo (L.moved l m) l.n < 0 ∧ ∀ a, L.cy (L.flip (L.moved l m)) a = L.cy (L.moved l m) (-1 - a)) ∨ (¬ L.areaTo (L.moved l m) l.n < 0 ∧ ∀ a, L.cy (L.flip (L.moved l m)) a = L.cy (L.moved l m) a) := hf
  rcases sgM_or m with e | e <;> rw [e] at hM ⊢
  · rcases hf with ⟨h, _⟩ | ⟨_, hf⟩
    · omega
    · exact ⟨K, fun a => by rw [h3, hf, Int.one_mul]⟩
  · rcases hf with ⟨_, hf⟩ | ⟨h, _⟩
    · exact ⟨-1 - K, fun a => by rw [h3, hf]; congr 1; omega⟩
    · omega
theorem cy_moved (l : L.Sq L.Pt) (m : L.Motion) (a : Int) : L.cy (L.moved l m) a = L.apply m (L.cy l a) := rfl
theorem sg_sg (m : L.Motion) (a : Int) : L.sgM m * (L.sgM m * a) = a := by
  rcases sgM_or m with e | e <;> rw [e] <;> omega
theorem norm_inj {l : L.Sq L.Pt} {m : L.Motion} (hv : L.validOutline l = true) {a b : Int} (h : L.cy (L.norm (L.moved l m)) a = L.cy (L.norm (L.moved l m)) b) : a % (l.n : Int) = b % (l.n : Int) := by
  obtain ⟨c, hc⟩ := norm_map (m := m) hv
  rw [hc, hc, cy_moved, cy_moved] at h
  have h1 := cy_inj hv ((iso_apply m).inj _ _ h)
  rcases sgM_or m with e | e <;> rw [e] at h1
  · rw [Int.one_mul, Int.one_mul] at h1
    have h2 : (-c + (c + a)) % (l.n : Int) = (-c + (c + b)) % (l.n : Int) := by rw [Int.add_emod, h1, ← Int.add_emod]
    rwa [show -c + (c + a) = a by omega, show -c + (c + b) = b by omega] at h2
  · have h2 : (c - (c + -1 * a)) % (l.n : Int) = (c - (c + -1 * b)) % (l.n : Int) := by rw [Int.sub_emod, h1, ← Int.sub_emod]
    rwa [show c - (c + -1 * a) = a by omega, show c - (c + -1 * b) = b by omega] at h2
theorem norm_cross {l : L.Sq L.Pt} {m : L.Motion} (hv : L.validOutline l = true) (a : Int) : L.cross (L.cy (L.norm (L.moved l m)) (a - 1)) (L.cy (L.norm (L.moved l m)) a) (L.cy (L.norm (L.moved l m)) (a + 1)) ≠ 0 := by
  obtain ⟨c, hc⟩ := norm_map (m := m) hv
  rw [hc, hc, hc, cy_moved, cy_moved, cy_moved, (iso_apply m).cr]
  rcases sgM_or m with e | e <;> rw [e]
  · have := cross_cy hv (c + a)
    rw [show c + 1 * (a - 1) = c + a - 1 by omega, show c + 1 * a = c + a by omega, show c + 1 * (a + 1) = c + a + 1 by omega]
    omega
  · have := cross_cy hv (c - a)
    rw [cross_turn] at this
    rw [show c + -1 * (a - 1) = c - a + 1 by omega, show c + -1 * a = c - a by omega, show c + -1 * (a + 1) = c - a - 1 by omega]
    omega
theorem norm_area {l : L.Sq L.Pt} {m : L.Motion} (hv : L.validOutline l = true) : 0 < L.areaTo (L.norm (L.moved l m)) l.n := by
  obtain ⟨n3, _, _, _⟩ := validOutline_of hv
  have hn : 0 < l.n := by omega
  have hA : 0 < L.areaTo l l.n := by
    unfold L.validOutline L.valid3 at hv
    rw [Bool.and_eq_true] at hv
    have h1 := hv.1
    cases hx : (bif !L.within (l.n : Int) 3 24 then true else !L.validPts l) with
    | true => rw [hx] at h1; cases h1
    | false => rw [hx] at h1; exact of_decide_eq_true h1
  have hM := area_moved (l := l) (m := m) hn
  obtain ⟨c, hc⟩ := norm_map (m := m) hv
  have a1 := area_sm (l := L.norm (L.moved l m)) (k := l.n) (Nat.le_refl _)
  have a2 := area_sm (l := L.moved l m) (k := l.n) (Nat.le_refl _)
  rw [a1]
  rw [a2] at hM
  have per := ct_per (l := L.moved l m) hn
  have per : ∀ a b : Int, a % (l.n : Int) = b % (l.n : Int) → L.ct (L.moved l m) a = L.ct (L.moved l m) b := per
  rcases sgM_or m with e | e <;> rw [e] at hM
  · have h1 : L.sm (L.ct (L.norm (L.moved l m))) l.n = L.sm (fun i => L.ct (L.moved l m) (i + c)) l.n := sm_congr (fun i => by
      unfold L.ct
      rw [hc, hc, e, show c + 1 * i = i + c by omega, show c + 1 * (i + 1) = i + c + 1 by omega]) l.n
    rw [h1, sm_shiftI hn per]
    omega
  · have key : L.sm (fun i => - L.ct (L.moved l m) ((l.n : Int) - 1 - i + (c - (l.n : Int)))) l.n = L.sm (fun j => - L.ct (L.moved l m) (j + (c - (l.n : Int)))) l.n := sm_rev (f := fun j => - L.ct (L.moved l m) (j + (c - (l.n : Int)))) l.n
    have h1 : L.sm (L.ct (L.norm (L.moved l m))) l.n = L.sm (fun i => - L.ct (L.moved l m) ((l.n : Int) - 1 - i + (c - (l.n : Int)))) l.n := sm_congr (fun i => by
      unfold L.ct
      rw [hc, hc, e, show (l.n : Int) - 1 - i + (c - (l.n : Int)) = c - 1 - i by omega, show c + -1 * i = c - 1 - i + 1 by omega, show c + -1 * (i + 1) = c - 1 - i by omega]
      unfold L.tm
      omega) l.n
    rw [h1, key, sm_neg (f := fun j => L.ct (L.moved l m) (j + (c - (l.n : Int)))), sm_shiftI hn per]
    omega
theorem norm_simple {l : L.Sq L.Pt} {m : L.Motion} (hv : L.validOutline l = true) : L.simple (L.norm (L.moved l m)) = true := by
  obtain ⟨n3, _, _, _⟩ := validOutline_of hv
  have hn : 0 < l.n := by omega
  have hs : L.simple l = true := by
    unfold L.validOutline at hv
    rw [Bool.and_eq_true, Bool.and_eq_true] at hv
    exact hv.2.2
  have hS := simpC_of hn hs
  obtain ⟨c, hc⟩ := norm_map (m := m) hv
  refine simple_of ?_
  show L.simpC l.n (L.cy (L.norm (L.moved l m)))
  intro a b hab
  have ne : ∀ x y : Int, L.cy (L.norm (L.moved l m)) x ≠ L.cy (L.norm (L.moved l m)) y ∨ x % (l.n : Int) = y % (l.n : Int) := fun x y => by
    by_cases h : L.cy (L.norm (L.moved l m)) x = L.cy (L.norm (L.moved l m)) y
    · exact .inr (norm_inj hv h)
    · exact .inl h
  rw [hc, hc, hc, hc, cy_moved, cy_moved, cy_moved, cy_moved, meet_iso (iso_apply m)]
  rcases sgM_or m with e | e <;> rw [e]
  · have h1 : (c + a) % (l.n : Int) ≠ (c + b) % (l.n : Int) := fun h => hab (by
      have h2 : (-c + (c + a)) % (l.n : Int) = (-c + (c + b)) % (l.n : Int) := by rw [Int.add_emod, h, ← Int.add_emod]
      rwa [show -c + (c + a) = a by omega, show -c + (c + b) = b by omega] at h2)
    have := hS (c + a) (c + b) h1
    rw [show c + 1 * a = c + a by omega, show c + 1 * (a + 1) = c + a + 1 by omega, show c + 1 * b = c + b by omega, show c + 1 * (b + 1) = c + b + 1 by omega, this, show c + b - (c + a) = b - a by omega, show c + a - (c + b) = a - b by omega]
  · have h1 : (c - a - 1) % (l.n : Int) ≠ (c - b - 1) % (l.n : Int) := fun h => hab (by
      have h2 : (c - 1 - (c - a - 1)) % (l.n : Int) = (c - 1 - (c - b - 1)) % (l.n : Int) := by rw [Int.sub_emod, h, ← Int.sub_emod]
      rwa [show c - 1 - (c - a - 1) = a by omega, show c - 1 - (c - b - 1) = b by omega] at h2)
    have := hS (c - a - 1) (c - b - 1) h1
    rw [meet_rev2] at *
    rw [show c + -1 * a = c - a - 1 + 1 by omega, show c + -1 * (a + 1) = c - a - 1 by omega, show c + -1 * b = c - b - 1 + 1 by omega, show c + -1 * (b + 1) = c - b - 1 by omega, meet_rev2, this, show c - b - 1 - (c - a - 1) = a - b by omega, show c - a - 1 - (c - b - 1) = b - a by omega]
    by_cases q : (a - b) % (l.n : Int) = 1 ∨ (b - a) % (l.n : Int) = 1
    · rw [if_pos q, if_pos q.symm]
    · rw [if_neg q, if_neg (fun h => q h.symm)]
theorem norm_valid {l : L.Sq L.Pt} {m : L.Motion} (hv : L.validOutline l = true) (hp : L.validPts (L.moved l m) = true) : L.validOutline (L.norm (L.moved l m)) = true := by
  obtain ⟨n3, n24, _, _⟩ := validOutline_of hv
  have hn : 0 < l.n := by omega
  obtain ⟨c, hc⟩ := norm_map (m := m) hv
  obtain ⟨K, k1, k2, k3⟩ := norm_cy (l := L.moved l m) hn
  have hf := (flip_cy (l := L.moved l m) hn).1
  have hq : ∀ k, k < l.n → (L.norm (L.moved l m)).g k = L.cy (L.norm (L.moved l m)) (k : Int) := fun k hk => (cy_nat (l := L.norm (L.moved l m)) hk).symm
  have w1 : L.within ((L.norm (L.moved l m)).n : Int) 3 24 = true := within_iff.2 (show 3 ≤ (l.n : Int) ∧ (l.n : Int) ≤ 24 by omega)
  have w2 : L.validPts (L.norm (L.moved l m)) = true := allB_iff.2 (fun k hk => by
    have hk : k < l.n := hk
    show L.validPt ((L.norm (L.moved l m)).g k) = true
    rw [hq k hk, hc]
    exact allB_iff.1 hp _ (ix_lt (n := l.n) hn))
  have w3 := norm_area (m := m) hv
  unfold L.validOutline L.valid3
  rw [w1, w2, norm_simple hv, decide_eq_true (show 0 < L.areaTo (L.norm (L.moved l m)) (L.norm (L.moved l m)).n from w3)]
  rw [allB_iff.2 (fun k hk => ?_)]
  · rfl
  have hk : k < l.n := hk
  unfold L.corner
  have c1 := norm_cross (m := m) hv (k : Int)
  have e1 : (L.norm (L.moved l m)).g (L.prev l.n k) = L.cy (L.norm (L.moved l m)) ((k : Int) - 1) := by
    rw [← ix_prev hk]; rfl
  have e2 : (L.norm (L.moved l m)).g (L.next l.n k) = L.cy (L.norm (L.moved l m)) ((k : Int) + 1) := by
    rw [← ix_next hk]; rfl
  have d1 : decide (L.cross ((L.norm (L.moved l m)).g (L.prev (L.norm (L.moved l m)).n k)) ((L.norm (L.moved l m)).g k) ((L.norm (L.moved l m)).g (L.next (L.norm (L.moved l m)).n k)) = 0) = false := by
    refine decide_eq_false ?_
    show ¬ L.cross ((L.norm (L.moved l m)).g (L.prev l.n k)) ((L.norm (L.moved l m)).g k) ((L.norm (L.moved l m)).g (L.next l.n k)) = 0
    rw [e1, e2, hq k hk]; exact c1
  rw [d1, cond_false]
  by_cases h0 : 0 < (k : Int)
  · rw [decide_eq_true h0, cond_true]
    have g0 : (L.norm (L.moved l m)).g 0 = L.minTo (L.flip (L.moved l m)) (l.n - 1) := by
      rw [hq 0 hn, k3]
      have k2 : (L.flip (L.moved l m)).g K = L.minTo (L.flip (L.moved l m)) (l.n - 1) := k2
      have := cy_nat (l := L.flip (L.moved l m)) (k := K) (by rw [hf]; exact k1)
      rw [← k2, ← this]
      congr 1
    have gk : (L.norm (L.moved l m)).g k = (L.flip (L.moved l m)).g (L.ix l.n ((K : Int) + (k : Int))) := by
      rw [hq k hk, k3]
      unfold L.cy
      rw [hf]; rfl
    have hx := ix_lt (n := l.n) (i := (K : Int) + (k : Int)) hn
    have h1 := minTo_le (l := L.flip (L.moved l m)) (i := l.n - 1) (j := L.ix l.n ((K : Int) + (k : Int))) (by omega)
    rw [← g0, ← gk, cmpPt_lt] at h1
    have hne : (L.norm (L.moved l m)).g 0 ≠ (L.norm (L.moved l m)).g k := fun e => by
      rw [hq 0 hn, hq k hk] at e
      have := norm_inj hv e
      rw [Int.emod_eq_of_lt (by omega) (by omega), Int.emod_eq_of_lt (by omega) (by omega)] at this
      omega
    have h2 : L.cmpPt ((L.norm (L.moved l m)).g 0) ((L.norm (L.moved l m)).g k) < 0 := by
      rw [cmpPt_lt]
      by_cases hx : ((L.norm (L.moved l m)).g 0).x = ((L.norm (L.moved l m)).g k).x
      · by_cases hy : ((L.norm (L.moved l m)).g 0).y = ((L.norm (L.moved l m)).g k).y
        · exact absurd (pt_ext hx hy) hne
        · omega
      · omega
    rw [decide_eq_false (by omega)]; rfl
  · rw [decide_eq_false h0]; rfl
theorem movE_of {l : L.Sq L.Pt} {m : L.Motion} (hv : L.validOutline l = true) (hm : L.validM m = true) : (L.movE l m = 0 ∧ L.validPts (L.moved l m) = true) ∨ (L.movE l m = 2) := by
  unfold L.movE
  rw [hv, hm]
  cases h : L.validPts (L.moved l m) with
  | true => exact .inl ⟨rfl, rfl⟩
  | false => exact .inr rfl
/-- The setting of the moved outline: how its corners lie. -/
theorem movS_of {l : L.Sq L.Pt} {m : L.Motion} (hv : L.validOutline l = true) (he : L.movE l m = 0) : 0 ≤ (L.movS l m).shift ∧ (L.movS l m).shift < (l.n : Int) ∧ (L.movS l m).back = m.mirror ∧
    ∀ b : Int, L.cy (L.norm (L.moved l m)) ((L.movS l m).shift + b) = L.cy (L.moved l m) (bif m.mirror then 1 - b else b) := by
  obtain ⟨n3, n24, _, _⟩ := validOutline_of hv
  have hn : 0 < l.n := by omega
  obtain ⟨c, hc⟩ := norm_map (m := m) hv
  have find : ∀ x : Int, ∃ i : Nat, i < l.n ∧ L.ptIdx (L.norm (L.moved l m)) (L.cy (L.moved l m) x) = (i : Int) ∧ L.cy (L.norm (L.moved l m)) (i : Int) = L.cy (L.moved l m) x := fun x => by
    have e0 : L.cy (L.moved l m) x = (L.norm (L.moved l m)).g (L.ix l.n (L.sgM m * (x - c))) := by
      have := hc (L.sgM m * (x - c))
      rw [sg_sg, show c + (x - c) = x by omega] at this
      exact this.symm
    have hx := ix_lt (n := l.n) (i := L.sgM m * (x - c)) hn
    obtain ⟨i, h1, h2, h3, _⟩ := ptIdx_of (l := L.norm (L.moved l m)) (j := L.ix l.n (L.sgM m * (x - c))) hx
    rw [e0]
    exact ⟨i, by omega, h2, by rw [cy_nat (l := L.norm (L.moved l m)) (show i < l.n by omega)]; exact h3⟩
  have step : ∀ (x : Int) (i : Nat), L.cy (L.norm (L.moved l m)) (i : Int) = L.cy (L.moved l m) x → ∀ b : Int, L.cy (L.norm (L.moved l m)) ((i : Int) + b) = L.cy (L.moved l m) (x + L.sgM m * b) := fun x i h b => by
    rw [hc] at h
    rw [hc]
    have h1 : (c + L.sgM m * (i : Int)) % (l.n : Int) = x % (l.n : Int) := by
      rw [cy_moved, cy_moved] at h
      exact cy_inj hv ((iso_apply m).inj _ _ h)
    rw [Int.mul_add, ← Int.add_assoc]
    exact cy_congr (l := L.moved l m) hn h1 _
  unfold L.movS
  rw [he]
  show 0 ≤ (bif m.mirror then (⟨L.ptIdx (L.norm (L.moved l m)) (L.apply m (l.g 1)), true⟩ : L.Setting) else ⟨L.ptIdx (L.norm (L.moved l m)) (L.apply m (l.g 0)), false⟩).shift ∧ (bif m.mirror then (⟨L.ptIdx (L.norm (L.moved l m)) (L.apply m (l.g 1)), true⟩ : L.Setting) else ⟨L.ptIdx (L.norm (L.moved l m)) (L.apply m (l.g 0)), false⟩).shift < (l.n : Int) ∧ (bif m.mirror then (⟨L.ptIdx (L.norm (L.moved l m)) (L.apply m (l.g 1)), true⟩ : L.Setting) else ⟨L.ptIdx (L.norm (L.moved l m)) (L.apply m (l.g 0)), false⟩).back = m.mirror ∧ ∀ b : Int, L.cy (L.norm (L.moved l m)) ((bif m.mirror then (⟨L.ptIdx (L.norm (L.moved l m)) (L.apply m (l.g 1)), true⟩ : L.Setting) else ⟨L.ptIdx (L.norm (L.moved l m)) (L.apply m (l.g 0)), false⟩).shift + b) = L.cy (L.moved l m) (bif m.mirror then 1 - b else b)
  cases hk : m.mirror with
  | false =>
    obtain ⟨i, h1, h2, h3⟩ := find 0
    have e0 : L.apply m (l.g 0) = L.cy (L.moved l m) 0 := by
      rw [cy_moved]; exact congrArg _ (cy_nat (l := l) (k := 0) hn).symm
    simp only [cond_false]
    rw [e0, h2]
    refine ⟨by omega, by omega, trivial, fun b => ?_⟩
    rw [step 0 i h3 b]
    unfold L.sgM
    rw [hk]
    simp only [cond_false]
    congr 1; omega
  | true =>
    obtain ⟨i, h1, h2, h3⟩ := find 1
    have e0 : L.apply m (l.g 1) = L.cy (L.moved l m) 1 := by
      rw [cy_moved]; exact congrArg _ (cy_nat (l := l) (k := 1) (by omega)).symm
    simp only [cond_true]
    rw [e0, h2]
    refine ⟨by omega, by omega, trivial, fun b => ?_⟩
    rw [step 1 i h3 b]
    unfold L.sgM
    rw [hk]
    simp only [cond_true]
    congr 1; omega
theorem bendR_cy (l : L.Sq L.Pt) (a : Int) : L.bendR l a = (bif decide (0 < L.cross (L.cy l (a - 1)) (L.cy l a) (L.cy l (a + 1))) then 1 else -1) := rfl
theorem bend_same {x y : Int} (h : x = y) : (bif decide (0 < x) then (1 : Int) else -1) = (bif decide (0 < y) then 1 else -1) := by rw [h]
theorem lay_mod {s : L.Setting} {n : Nat} {i : Int} (_ : 0 < n) (h0 : 0 ≤ s.shift) (h1 : 0 ≤ i) (h2 : i < (n : Int)) : L.lay s n i = (bif s.back then s.shift - i else s.shift + i) % (n : Int) := by
  unfold L.lay
  cases s.back with
  | false => simp only [cond_false]; exact Int.tmod_eq_emod_of_nonneg (by omega)
  | true =>
    simp only [cond_true]
    rw [Int.tmod_eq_emod_of_nonneg (by omega), show s.shift + (n : Int) - i = s.shift - i + n by omega, Int.add_emod_right]
theorem meas_move {l : L.Sq L.Pt} {m : L.Motion} {s : L.Setting} (hv : L.validOutline l = true) (he : L.movE l m = 0) (s0 : 0 ≤ s.shift) (s1 : s.shift < (l.n : Int)) (i : Int) :
    L.measR (L.norm (L.moved l m)) ⟨L.lay (L.movS l m) l.n s.shift, !(s.back == (L.movS l m).back)⟩ i = L.measR l s i := by
  obtain ⟨n3, n24, _, _⟩ := validOutline_of hv
  have hn : 0 < l.n := by omega
  obtain ⟨t0, t1, tb, tc⟩ := movS_of hv he
  have hl := lay_mod (s := L.movS l m) (n := l.n) (i := s.shift) hn t0 s0 s1
  rw [tb] at hl ⊢
  have I := iso_apply m
  -- the corners of the moved outline, from the composed setting on
  have hC : ∀ b : Int, L.cy (L.norm (L.moved l m)) (L.lay (L.movS l m) l.n s.shift + b) = L.apply m (L.cy l (bif m.mirror then 1 + s.shift - b else s.shift + b)) := fun b => by
    have h1 : L.cy (L.norm (L.moved l m)) (L.lay (L.movS l m) l.n s.shift + b) = L.cy (L.norm (L.moved l m)) ((bif m.mirror then (L.movS l m).shift - s.shift else (L.movS l m).shift + s.shift) + b) :=
      cy_congr (l := L.norm (L.moved l m)) hn (by rw [hl]; exact Int.emod_emod _ _) b
    rw [h1, ← cy_moved]
    cases hk : m.mirror with
    | false =>
      simp only [cond_false]
      rw [Int.add_assoc, tc, hk]; rfl
    | true =>
      simp only [cond_true]
      rw [show (L.movS l m).shift - s.shift + b = (L.movS l m).shift + (b - s.shift) by omega, tc, hk]
      simp only [cond_true]
      congr 1; omega
  have sgk : L.sgM m = bif m.mirror then -1 else 1 := rfl
  generalize L.lay (L.movS l m) l.n s.shift = st at hC
  show (bif !(s.back == m.mirror) then (⟨L.dist (L.cy (L.norm (L.moved l m)) (st - i)) (L.cy (L.norm (L.moved l m)) (st - i + 1)), L.dist (L.cy (L.norm (L.moved l m)) (st - i - 1)) (L.cy (L.norm (L.moved l m)) (st - i + 1)), L.bendR (L.norm (L.moved l m)) (st - i)⟩ : L.Meas)
    else ⟨L.dist (L.cy (L.norm (L.moved l m)) (st + i)) (L.cy (L.norm (L.moved l m)) (st + i + 1)), L.dist (L.cy (L.norm (L.moved l m)) (st + i)) (L.cy (L.norm (L.moved l m)) (st + i + 2)), L.bendR (L.norm (L.moved l m)) (st + i + 1)⟩) =
    (bif s.back then (⟨L.dist (L.cy l (s.shift - i)) (L.cy l (s.shift - i + 1)), L.dist (L.cy l (s.shift - i - 1)) (L.cy l (s.shift - i + 1)), L.bendR l (s.shift - i)⟩ : L.Meas)
    else ⟨L.dist (L.cy l (s.shift + i)) (L.cy l (s.shift + i + 1)), L.dist (L.cy l (s.shift + i)) (L.cy l (s.shift + i + 2)), L.bendR l (s.shift + i + 1)⟩)
  rw [bendR_cy, bendR_cy, bendR_cy, bendR_cy]
  have f1 : st - i = st + -i := by omega
  have f2 : st - i + 1 = st + (-i + 1) := by omega
  have f3 : st - i - 1 = st + (-i - 1) := by omega
  have g2 : st + i + 1 = st + (i + 1) := by omega
  have g3 : st + i + 2 = st + (i + 2) := by omega
  have g4 : st + i + 1 - 1 = st + i := by omega
  have g5 : st + i + 1 + 1 = st + (i + 2) := by omega
  rw [f3, f2, f1, g4, g5, g3, g2, hC, hC, hC, hC, hC, hC, I.ds, I.ds, I.ds, I.ds, I.cr, I.cr, sgk]
  cases hk : m.mirror with
  | false =>
    cases hb : s.back with
    | false =>
      show (⟨_, _, _⟩ : L.Meas) = ⟨_, _, _⟩
      simp only [cond_false, Int.one_mul]
      rw [show s.shift + (i + 1) = s.shift + i + 1 by omega, show s.shift + (i + 2) = s.shift + i + 2 by omega, show s.shift + i + 1 - 1 = s.shift + i by omega, show s.shift + i + 1 + 1 = s.shift + i + 2 by omega]
    | true =>
      show (⟨_, _, _⟩ : L.Meas) = ⟨_, _, _⟩
      simp only [cond_false, Int.one_mul]
      rw [show s.shift + (-i + 1) = s.shift - i + 1 by omega, show s.shift + (-i - 1) = s.shift - i - 1 by omega, show s.shift + -i = s.shift - i by omega]
  | true =>
    cases hb : s.back with
    | false =>
      show (⟨_, _, _⟩ : L.Meas) = ⟨_, _, _⟩
      simp only [cond_true]
      rw [show 1 + s.shift - (-i + 1) = s.shift + i by omega, show 1 + s.shift - (-i - 1) = s.shift + i + 2 by omega, show 1 + s.shift - -i = s.shift + i + 1 by omega, show s.shift + i + 1 - 1 = s.shift + i by omega, show s.shift + i + 1 + 1 = s.shift + i + 2 by omega]
      rw [dist_com (L.cy l (s.shift + i + 1)), dist_com (L.cy l (s.shift + i + 2))]
      congr 1
      refine bend_same ?_
      rw [cross_turn (L.cy l (s.shift + i + 2))]
      omega
    | true =>
      show (⟨_, _, _⟩ : L.Meas) = ⟨_, _, _⟩
      simp only [cond_true]
      rw [show 1 + s.shift - (i + 1) = s.shift - i by omega, show 1 + s.shift - (i + 2) = s.shift - i - 1 by omega, show 1 + s.shift - i = s.shift - i + 1 by omega]
      rw [dist_com (L.cy l (s.shift - i + 1)) (L.cy l (s.shift - i)), dist_com (L.cy l (s.shift - i + 1)) (L.cy l (s.shift - i - 1))]
      congr 1
      refine bend_same ?_
      rw [cross_turn (L.cy l (s.shift - i + 1))]
      omega
theorem fits_move {p : L.Piece} {l : L.Sq L.Pt} {m : L.Motion} {s : L.Setting} (hv : L.validOutline l = true) (he : L.movE l m = 0) (hp : L.validPts (L.moved l m) = true) (s0 : 0 ≤ s.shift) (s1 : s.shift < (l.n : Int)) :
    L.fits p (L.norm (L.moved l m)) ⟨L.lay (L.movS l m) l.n s.shift, !(s.back == (L.movS l m).back)⟩ = L.fits p l s := by
  obtain ⟨n3, n24, _, _⟩ := validOutline_of hv
  obtain ⟨t0, t1, tb, tc⟩ := movS_of hv he
  have hl := lay_mod (s := L.movS l m) (n := l.n) (i := s.shift) (by omega) t0 s0 s1
  have l0 := Int.emod_nonneg (bif (L.movS l m).back then (L.movS l m).shift - s.shift else (L.movS l m).shift + s.shift) (show (l.n : Int) ≠ 0 by omega)
  have l1 := Int.emod_lt_of_pos (bif (L.movS l m).back then (L.movS l m).shift - s.shift else (L.movS l m).shift + s.shift) (show 0 < (l.n : Int) by omega)
  rw [← hl] at l0 l1
  unfold L.fits
  show (bif decide ((l.n : Int) = p.gauges.n) then L.allB l.n (fun i => L.holdsR (p.gauges.g i) (L.meas (L.norm (L.moved l m)) ⟨L.lay (L.movS l m) l.n s.shift, !(s.back == (L.movS l m).back)⟩ i)) else false) = _
  congr 1
  rw [Bool.eq_iff_iff, allB_iff, allB_iff]
  refine forall_congr' fun i => forall_congr' fun hi => ?_
  rw [meas_eq (norm_valid hv hp) l0 l1 hi, meas_eq hv s0 s1 hi, meas_move hv he s0 s1]
theorem marks_le {p : L.Piece} (h : L.validPiece p = true) : p.marks.n ≤ 32 := by
  unfold L.validPiece L.vMarks L.marks at h
  rw [band, band, band, Bool.and_eq_true, Bool.and_eq_true, Bool.and_eq_true, Bool.and_eq_true, decide_eq_true_eq] at h
  exact h.2.2.1
def w_GlassMoves_p (p : L.Piece) (l : (L.Sq L.Pt)) (s : L.Setting) (m : L.Motion) : Prop := p.gauges.n ≤ 9223372036854775807 ∧ p.marks.n ≤ 9223372036854775807
def w_GlassMoves_r (p : L.Piece) (l : (L.Sq L.Pt)) (s : L.Setting) (m : L.Motion) : SV := .bool true
def w_GlassMoves_s : List EV → Option (Prop × SV)
  | [.p (.agg [.int .i64 p_id, .int .i64 p_colour, .int .i64 p_rev, .int .i64 p_made, .int .i64 p_swell, .sl 5 p_gauges_n p_gauges_g, .sl 3 p_marks_n p_marks_g]), .p (.sl 2 l_n l_g), .p (.agg [.int .i64 s_shift, .bool s_back]), .p (.agg [.int .i64 m_turn, .bool m_mirror, .int .i64 m_by__x, .int .i64 m_by__y])] => some ((∀ i, i < p_gauges_n → p_gauges_g i = [.int .i64 ((ofGauge (p_gauges_g i)).edge.lo), .int .i64 ((ofGauge (p_gauges_g i)).edge.hi), .int .i64 ((ofGauge (p_gauges_g i)).across.lo), .int .i64 ((ofGauge (p_gauges_g i)).across.hi), .int .i64 ((ofGauge (p_gauges_g i)).bend)]) ∧ (∀ i, i < p_marks_n → p_marks_g i = [.int .i64 ((ofMark (p_marks_g i)).edge), .int .i64 ((ofMark (p_marks_g i)).place), .int .i64 ((ofMark (p_marks_g i)).tone)]) ∧ (∀ i, i < l_n → l_g i = [.int .i64 ((ofPt (l_g i)).x), .int .i64 ((ofPt (l_g i)).y)]) ∧ w_GlassMoves_p (⟨p_id, p_colour, p_rev, p_made, p_swell, (⟨p_gauges_n, fun i => ofGauge (p_gauges_g i)⟩ : (L.Sq L.Gauge)), (⟨p_marks_n, fun i => ofMark (p_marks_g i)⟩ : (L.Sq L.Mark))⟩ : L.Piece) (⟨l_n, fun i => ofPt (l_g i)⟩ : (L.Sq L.Pt)) (⟨s_shift, s_back⟩ : L.Setting) (⟨m_turn, m_mirror, (⟨m_by__x, m_by__y⟩ : L.Pt)⟩ : L.Motion), w_GlassMoves_r (⟨p_id, p_colour, p_rev, p_made, p_swell, (⟨p_gauges_n, fun i => ofGauge (p_gauges_g i)⟩ : (L.Sq L.Gauge)), (⟨p_marks_n, fun i => ofMark (p_marks_g i)⟩ : (L.Sq L.Mark))⟩ : L.Piece) (⟨l_n, fun i => ofPt (l_g i)⟩ : (L.Sq L.Pt)) (⟨s_shift, s_back⟩ : L.Setting) (⟨m_turn, m_mirror, (⟨m_by__x, m_by__y⟩ : L.Pt)⟩ : L.Motion))
  | _ => none
abbrev w_GlassMoves_S : SE.Spec := (specO w_GlassMoves_s)
def w_GlassMoves_C : Cfg := { muts := [], frz := lookN [], specs := lookS [(12, w_awake_S), (16, r3_ValidPiece_S), (44, r1_ValidOutline_S), (47, r1_ValidSetting_S), (48, r1_ValidMotion_S), (49, p_Move_S), (50, p_Compose_S), (39, g_Fits_S)], loops := lookL [], iters := lookI [], rfs := lookR [], nils := lookM [] }
theorem w_GlassMoves_vc (p : L.Piece) (l : (L.Sq L.Pt)) (s : L.Setting) (m : L.Motion) (hp : w_GlassMoves_p p l s m) : vc Try.prog (w_GlassMoves_C) (bodyOf Try.f11) (st0 Try.f11 [.p (.agg [.int .i64 p.id, .int .i64 p.colour, .int .i64 p.rev, .int .i64 p.made, .int .i64 p.swell, .sl 5 p.gauges.n (fun i => [.int .i64 ((p.gauges.g i).edge.lo), .int .i64 ((p.gauges.g i).edge.hi), .int .i64 ((p.gauges.g i).across.lo), .int .i64 ((p.gauges.g i).across.hi), .int .i64 ((p.gauges.g i).bend)]), .sl 3 p.marks.n (fun i => [.int .i64 ((p.marks.g i).edge), .int .i64 ((p.marks.g i).place), .int .i64 ((p.marks.g i).tone)])]), .p (.sl 2 l.n (fun i => [.int .i64 ((l.g i).x), .int .i64 ((l.g i).y)])), .p (.agg [.int .i64 s.shift, .bool s.back]), .p (.agg [.int .i64 m.turn, .bool m.mirror, .int .i64 m.by_.x, .int .i64 m.by_.y])]) (retFn Try.prog Try.f11 (w_GlassMoves_r p l s m)) :=
  @Eq.mpr _ (True ∧ ((∀ (i : Nat), i < p.gauges.n → [Go.SE.SV.int Go.IntKind.i64 (p.gauges.g i).edge.lo, Go.SE.SV.int Go.IntKind.i64 (p.gauges.g i).edge.hi, Go.SE.SV.int Go.IntKind.i64 (p.gauges.g i).across.lo, Go.SE.SV.int Go.IntKind.i64 (p.gauges.g i).across.hi, Go.SE.SV.int Go.IntKind.i64 (p.gauges.g i).bend] = [Go.SE.SV.int Go.IntKind.i64 (p.gauges.g i).edge.lo, Go.SE.SV.int Go.IntKind.i64 (p.gauges.g
 i).edge.hi, Go.SE.SV.int Go.IntKind.i64 (p.gauges.g i).across.lo, Go.SE.SV.int Go.IntKind.i64 (p.gauges.g i).across.hi, Go.SE.SV.int Go.IntKind.i64 (p.gauges.g i).bend]) ∧ (∀ (i : Nat), i < p.marks.n → [Go.SE.SV.int Go.IntKind.i64 (p.marks.g i).edge, Go.SE.SV.int Go.IntKind.i64 (p.marks.g i).place, Go.SE.SV.int Go.IntKind.i64 (p.marks.g i).tone] = [Go.SE.SV.int Go.IntKind.i64 (p.marks.g i).edge,
 Go.SE.SV.int Go.IntKind.i64 (p.marks.g i).place, Go.SE.SV.int Go.IntKind.i64 (p.marks.g i).tone]) ∧ p.gauges.n ≤ (9223372036854775807 : Nat) ∧ p.marks.n ≤ (9223372036854775807 : Nat)) ∧ ((!!L.validPiece (L.Piece.mk p.id p.colour p.rev p.made p.swell (L.Sq.mk p.gauges.n fun (i : Nat) ↦ p.gauges.g i) (L.Sq.mk p.marks.n fun (i : Nat) ↦ p.marks.g i))) = Bool.true → (∀ (i : Nat), i < l.n →
 [Go.SE.SV.int Go.IntKind.i64 (l.g i).x, Go.SE.SV.int Go.IntKind.i64 (l.g i).y] = [Go.SE.SV.int Go.IntKind.i64 (l.g i).x, Go.SE.SV.int Go.IntKind.i64 (l.g i).y]) ∧ True) ∧ ((!bif bif !L.validPiece (L.Piece.mk p.id p.colour p.rev p.made p.swell (L.Sq.mk p.gauges.n fun (i : Nat) ↦ p.gauges.g i) (L.Sq.mk p.marks.n fun (i : Nat) ↦ p.marks.g i)) then Bool.true else !L.validOutline (L.Sq.mk l.n fun (i :
 Nat) ↦ l.g i) then Bool.true else !Decidable.decide ((↑p.gauges.n : Int) = (↑l.n : Int))) = Bool.true → True) ∧ ((!bif bif bif !L.validPiece (L.Piece.mk p.id p.colour p.rev p.made p.swell (L.Sq.mk p.gauges.n fun (i : Nat) ↦ p.gauges.g i) (L.Sq.mk p.marks.n fun (i : Nat) ↦ p.marks.g i)) then Bool.true else !L.validOutline (L.Sq.mk l.n fun (i : Nat) ↦ l.g i) then Bool.true else !Decidable.decide
 ((↑p.gauges.n : Int) = (↑l.n : Int)) then Bool.true else !L.validSet s (↑p.gauges.n : Int)) = Bool.true → True) ∧ ((bif bif bif bif !L.validPiece (L.Piece.mk p.id p.colour p.rev p.made p.swell (L.Sq.mk p.gauges.n fun (i : Nat) ↦ p.gauges.g i) (L.Sq.mk p.marks.n fun (i : Nat) ↦ p.marks.g i)) then Bool.true else !L.validOutline (L.Sq.mk l.n fun (i : Nat) ↦ l.g i) then Bool.true else
 !Decidable.decide ((↑p.gauges.n : Int) = (↑l.n : Int)) then Bool.true else !L.validSet s (↑p.gauges.n : Int) then Bool.true else !L.validM m) = Bool.true → Bool.true = Bool.true) ∧ ((bif bif bif bif !L.validPiece (L.Piece.mk p.id p.colour p.rev p.made p.swell (L.Sq.mk p.gauges.n fun (i : Nat) ↦ p.gauges.g i) (L.Sq.mk p.marks.n fun (i : Nat) ↦ p.marks.g i)) then Bool.true else !L.validOutline
 (L.Sq.mk l.n fun (i : Nat) ↦ l.g i) then Bool.true else !Decidable.decide ((↑p.gauges.n : Int) = (↑l.n : Int)) then Bool.true else !L.validSet s (↑p.gauges.n : Int) then Bool.true else !L.validM m) = Bool.false → ((∀ (i : Nat), i < l.n → [Go.SE.SV.int Go.IntKind.i64 (l.g i).x, Go.SE.SV.int Go.IntKind.i64 (l.g i).y] = [Go.SE.SV.int Go.IntKind.i64 (l.g i).x, Go.SE.SV.int Go.IntKind.i64 (l.g i).y]) ∧
 l.n ≤ (1000000 : Nat)) ∧ ((!Decidable.decide (L.movE (L.Sq.mk l.n fun (i : Nat) ↦ l.g i) m = (0 : Int))) = Bool.true → (bif Bool.true then Decidable.decide (L.movE (L.Sq.mk l.n fun (i : Nat) ↦ l.g i) m = (2 : Int)) else Bool.false) = Bool.true) ∧ ((!Decidable.decide (L.movE (L.Sq.mk l.n fun (i : Nat) ↦ l.g i) m = (0 : Int))) = Bool.false → ((-1000000 : Int) ≤ (↑p.gauges.n : Int) ∧ (↑p.gauges.n :
 Int) ≤ (1000000 : Int)) ∧ ((∀ (i : Nat), i < p.gauges.n → [Go.SE.SV.int Go.IntKind.i64 (p.gauges.g i).edge.lo, Go.SE.SV.int Go.IntKind.i64 (p.gauges.g i).edge.hi, Go.SE.SV.int Go.IntKind.i64 (p.gauges.g i).across.lo, Go.SE.SV.int Go.IntKind.i64 (p.gauges.g i).across.hi, Go.SE.SV.int Go.IntKind.i64 (p.gauges.g i).bend] = [Go.SE.SV.int Go.IntKind.i64 (p.gauges.g i).edge.lo, Go.SE.SV.int
 Go.IntKind.i64 (p.gauges.g i).edge.hi, Go.SE.SV.int Go.IntKind.i64 (p.gauges.g i).across.lo, Go.SE.SV.int Go.IntKind.i64 (p.gauges.g i).across.hi, Go.SE.SV.int Go.IntKind.i64 (p.gauges.g i).bend]) ∧ (∀ (i : Nat), i < p.marks.n → [Go.SE.SV.int Go.IntKind.i64 (p.marks.g i).edge, Go.SE.SV.int Go.IntKind.i64 (p.marks.g i).place, Go.SE.SV.int Go.IntKind.i64 (p.marks.g i).tone] = [Go.SE.SV.int
 Go.IntKind.i64 (p.marks.g i).edge, Go.SE.SV.int Go.IntKind.i64 (p.marks.g i).place, Go.SE.SV.int Go.IntKind.i64 (p.marks.g i).tone]) ∧ (∀ (i : Nat), i < l.n → [Go.SE.SV.int Go.IntKind.i64 (l.g i).x, Go.SE.SV.int Go.IntKind.i64 (l.g i).y] = [Go.SE.SV.int Go.IntKind.i64 (l.g i).x, Go.SE.SV.int Go.IntKind.i64 (l.g i).y]) ∧ p.gauges.n ≤ (1000000 : Nat) ∧ p.marks.n ≤ (1000000 : Nat) ∧ l.n ≤ (1000000 :
 Nat)) ∧ ((∀ (i : Nat), i < p.gauges.n → [Go.SE.SV.int Go.IntKind.i64 (p.gauges.g i).edge.lo, Go.SE.SV.int Go.IntKind.i64 (p.gauges.g i).edge.hi, Go.SE.SV.int Go.IntKind.i64 (p.gauges.g i).across.lo, Go.SE.SV.int Go.IntKind.i64 (p.gauges.g i).across.hi, Go.SE.SV.int Go.IntKind.i64 (p.gauges.g i).bend] = [Go.SE.SV.int Go.IntKind.i64 (p.gauges.g i).edge.lo, Go.SE.SV.int Go.IntKind.i64 (p.gauges.g
 i).edge.hi, Go.SE.SV.int Go.IntKind.i64 (p.gauges.g i).across.lo, Go.SE.SV.int Go.IntKind.i64 (p.gauges.g i).across.hi, Go.SE.SV.int Go.IntKind.i64 (p.gauges.g i).bend]) ∧ (∀ (i : Nat), i < p.marks.n → [Go.SE.SV.int Go.IntKind.i64 (p.marks.g i).edge, Go.SE.SV.int Go.IntKind.i64 (p.marks.g i).place, Go.SE.SV.int Go.IntKind.i64 (p.marks.g i).tone] = [Go.SE.SV.int Go.IntKind.i64 (p.marks.g i).edge,
 Go.SE.SV.int Go.IntKind.i64 (p.marks.g i).place, Go.SE.SV.int Go.IntKind.i64 (p.marks.g i).tone]) ∧ (∀ (i : Nat), i < L.movN (L.Sq.mk l.n fun (i : Nat) ↦ l.g i) m → [Go.SE.SV.int Go.IntKind.i64 ((L.norm (L.moved (L.Sq.mk l.n fun (i : Nat) ↦ l.g i) m)).g i).x, Go.SE.SV.int Go.IntKind.i64 ((L.norm (L.moved (L.Sq.mk l.n fun (i : Nat) ↦ l.g i) m)).g i).y] = [Go.SE.SV.int Go.IntKind.i64 ((L.norm
 (L.moved (L.Sq.mk l.n fun (i : Nat) ↦ l.g i) m)).g i).x, Go.SE.SV.int Go.IntKind.i64 ((L.norm (L.moved (L.Sq.mk l.n fun (i : Nat) ↦ l.g i) m)).g i).y]) ∧ p.gauges.n ≤ (1000000 : Nat) ∧ p.marks.n ≤ (1000000 : Nat) ∧ L.movN (L.Sq.mk l.n fun (i : Nat) ↦ l.g i) m ≤ (1000000 : Nat)) ∧ (bif bif bif bif Bool.true then Decidable.decide (L.compE s (L.movS (L.Sq.mk l.n fun (i : Nat) ↦ l.g i) m) (↑p.gauges.n
 : Int) = (0 : Int)) else Bool.false then Decidable.decide (L.fitsE (L.Piece.mk p.id p.colour p.rev p.made p.swell (L.Sq.mk p.gauges.n fun (i : Nat) ↦ p.gauges.g i) (L.Sq.mk p.marks.n fun (i : Nat) ↦ p.marks.g i)) (L.Sq.mk l.n fun (i : Nat) ↦ l.g i) s = (0 : Int)) else Bool.false then Decidable.decide (L.fitsE (L.Piece.mk p.id p.colour p.rev p.made p.swell (L.Sq.mk p.gauges.n fun (i : Nat) ↦
 p.gauges.g i) (L.Sq.mk p.marks.n fun (i : Nat) ↦ p.marks.g i)) (L.Sq.mk (L.movN (L.Sq.mk l.n fun (i : Nat) ↦ l.g i) m) fun (i : Nat) ↦ (L.norm (L.moved (L.Sq.mk l.n fun (i : Nat) ↦ l.g i) m)).g i) (L.comp s (L.movS (L.Sq.mk l.n fun (i : Nat) ↦ l.g i) m) (↑p.gauges.n : Int)) = (0 : Int)) else Bool.false then L.fitsV (L.Piece.mk p.id p.colour p.rev p.made p.swell (L.Sq.mk p.gauges.n fun (i : Nat) ↦
 p.gauges.g i) (L.Sq.mk p.marks.n fun (i : Nat) ↦ p.marks.g i)) (L.Sq.mk l.n fun (i : Nat) ↦ l.g i) s == L.fitsV (L.Piece.mk p.id p.colour p.rev p.made p.swell (L.Sq.mk p.gauges.n fun (i : Nat) ↦ p.gauges.g i) (L.Sq.mk p.marks.n fun (i : Nat) ↦ p.marks.g i)) (L.Sq.mk (L.movN (L.Sq.mk l.n fun (i : Nat) ↦ l.g i) m) fun (i : Nat) ↦ (L.norm (L.moved (L.Sq.mk l.n fun (i : Nat) ↦ l.g i) m)).g i) (L.comp
 s (L.movS (L.Sq.mk l.n fun (i : Nat) ↦ l.g i) m) (↑p.gauges.n : Int)) else Bool.false) = Bool.true))) (by kernel_rfl) (by
    obtain ⟨b1, b2⟩ := hp
    refine ⟨trivial, ⟨fun _ _ => rfl, fun _ _ => rfl, b1, b2⟩, fun _ => ⟨fun _ _ => rfl, trivial⟩, fun _ => trivial, fun _ => trivial, fun _ => rfl, fun h => ?_⟩
    have h : (bif (bif (bif (bif !L.validPiece p then true else !L.validOutline l) then true else !decide ((p.gauges.n : Int) = (l.n : Int))) then true else !L.validSet s p.gauges.n) then true else !L.validM m) = false := h
    simp only [bor, Bool.or_eq_false_iff, Bool.not_eq_false', decide_eq_true_eq] at h
    obtain ⟨⟨⟨⟨hP, hv⟩, hn⟩, hs⟩, hm⟩ := h
    obtain ⟨⟨g3, g24⟩, _⟩ := gauge_ok (piece_gauges hP)
    have hmk := marks_le hP
    obtain ⟨_, s0, s1⟩ := validSet_iff.1 hs
    refine ⟨⟨fun _ _ => rfl, by omega⟩, fun h2 => ?_, fun h2 => ?_⟩
    · rcases movE_of hv hm with ⟨e, _⟩ | e
      · rw [e] at h2; cases h2
      · rw [e]; rfl
    rcases movE_of hv hm with ⟨e, hpts⟩ | e
    rotate_left
    · rw [e] at h2; cases h2
    have eN : L.movN l m = l.n := by unfold L.movN; rw [e]; rfl
    obtain ⟨t0, t1, tb, tc⟩ := movS_of hv e
    have hst : L.validSet (L.movS l m) p.gauges.n = true := validSet_iff.2 ⟨by omega, t0, by omega⟩
    have hc : L.compE s (L.movS l m) p.gauges.n = 0 := by unfold L.compE; rw [hs, hst]; rfl
    have hcomp : L.comp s (L.movS l m) p.gauges.n = ⟨L.lay (L.movS l m) l.n s.shift, !(s.back == (L.movS l m).back)⟩ := by
      unfold L.comp; rw [hc, hn]; rfl
    have hl := lay_mod (s := L.movS l m) (n := l.n) (i := s.shift) (by omega) t0 s0 (by omega)
    have l0 := Int.emod_nonneg (bif (L.movS l m).back then (L.movS l m).shift - s.shift else (L.movS l m).shift + s.shift) (show (l.n : Int) ≠ 0 by omega)
    have l1 := Int.emod_lt_of_pos (bif (L.movS l m).back then (L.movS l m).shift - s.shift else (L.movS l m).shift + s.shift) (show 0 < (l.n : Int) by omega)
    rw [← hl] at l0 l1
    have hvq := norm_valid hv hpts
    have f1 : L.fitsE p l s = 0 := by unfold L.fitsE; rw [hP, hv, hs]; rfl
    have hsc : L.validSet (L.comp s (L.movS l m) p.gauges.n) p.gauges.n = true := by
      rw [hcomp]
      exact validSet_iff.2 ⟨by omega, l0, by show L.lay (L.movS l m) l.n s.shift < (p.gauges.n : Int); omega⟩
    have f2 : L.fitsE p (L.norm (L.moved l m)) (L.comp s (L.movS l m) p.gauges.n) = 0 := by unfold L.fitsE; rw [hP, hvq, hsc]; rfl
    have fv : L.fitsV p (L.norm (L.moved l m)) (L.comp s (L.movS l m) p.gauges.n) = L.fitsV p l s := by
      unfold L.fitsV
      rw [f1, f2, hcomp, fits_move hv e hpts s0 (by omega)]
    refine ⟨⟨by omega, by omega⟩, ⟨fun _ _ => rfl, fun _ _ => rfl, fun _ _ => rfl, by omega, by omega, by omega⟩, ⟨fun _ _ => rfl, fun _ _ => rfl, fun _ _ => rfl, by omega, by omega, by show L.movN l m ≤ 1000000; omega⟩, ?_⟩
    have fin : (bif (bif (bif (bif true then decide (L.compE s (L.movS l m) p.gauges.n = 0) else false) then decide (L.fitsE p l s = 0) else false) then decide (L.fitsE p (L.norm (L.moved l m)) (L.comp s (L.movS l m) p.gauges.n) = 0) else false) then (L.fitsV p l s == L.fitsV p (L.norm (L.moved l m)) (L.comp s (L.movS l m) p.gauges.n)) else false) = true := by
      rw [hc, f1, f2, fv]
      simp only [decide_true, beq_self_eq_true, cond_true]
    rw [eN]
    exact fin)
theorem w_GlassMoves_ok : SpecOk Try.prog 11 w_GlassMoves_S := fnX Try.func11 (c := bodyOf Try.f11) (by kernel_rfl) mixed (fun args p r hs hp => by
  unfold w_GlassMoves_s at hs
  split at hs
  · cases hs; exact ⟨_, _, w_GlassMoves_vc _ _ _ _ hp.2.2.2, (.p (.agg rfl (fun i hi => by
      rcases i with _ | i
      · exact (Ext.refl _ : Ext _ _)
      rcases i with _ | i
      · exact (Ext.refl _ : Ext _ _)
      rcases i with _ | i
      · exact (Ext.refl _ : Ext _ _)
      rcases i with _ | i
      · exact (Ext.refl _ : Ext _ _)
      rcases i with _ | i
      · exact (Ext.refl _ : Ext _ _)
      rcases i with _ | i
      · exact (Ext.sl hp.1 : Ext _ _)
      rcases i with _ | i
      · exact (Ext.sl hp.2.1 : Ext _ _)
      exact absurd hi (by simp; try omega))) (.p (.sl hp.2.2.1) (.same _ (.same _ .nil)))), ⟨show SpecsL Try.prog _ from (SpecsL.cons w_awake_ok w_awake_en (SpecsL.cons r3_ValidPiece_ok r3_ValidPiece_en (SpecsL.cons r1_ValidOutline_ok r1_ValidOutline_en (SpecsL.cons r1_ValidSetting_ok r1_ValidSetting_en (SpecsL.cons r1_ValidMotion_ok r1_ValidMotion_en (SpecsL.cons p_Move_ok p_Move_en (SpecsL.cons p_Compose_ok p_Compose_en (SpecsL.cons g_Fits_ok g_Fits_en SpecsL.nil)))))))), rfl, ⟨show ItersL Try.prog _ from ItersL.nil, (TrsOk.none (fun _ => rfl))⟩⟩⟩
  · cases hs)
theorem w_GlassMoves_en : Enters Try.prog 11 := fun args w => by kernel_rfl
theorem w_GlassMoves_B : ∀ args p r, w_GlassMoves_s args = some (p, r) → ∃ b, r = .bool b := by
  intro args p r h
  unfold w_GlassMoves_s at h
  split at h
  · cases h; exact ⟨_, rfl⟩
  · cases h
end Go.Proofs.Ytipaekbdalahdaa
