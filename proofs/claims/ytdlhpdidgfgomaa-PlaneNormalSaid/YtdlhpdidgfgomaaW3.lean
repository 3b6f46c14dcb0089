/- A symbolic walk over the model, and what it shows of functions of the program: parts of the proof that the text of the row joins. -/
import Derived.Test.YtdlhpdidgfgomaaW2
import Derived.Test.YtdlhpdidgfgomaaE4
import Derived.KernelRfl

namespace Go.Proofs.Ytdlhpdidgfgomaa
open Go.SE Go.RowKit
set_option maxRecDepth 100000
set_option maxHeartbeats 4000000
set_option linter.unusedVariables false
attribute [local irreducible] vc
def L.cy (l : L.Sq L.Pt) (a : Int) : L.Pt := l.g (L.ix l.n a)
theorem cy_nat {l : L.Sq L.Pt} {k : Nat} (h : k < l.n) : L.cy l (k : Int) = l.g k := by unfold L.cy; rw [ix_self h]
theorem cy_next {l : L.Sq L.Pt} {k : Nat} (h : k < l.n) : L.cy l ((k : Int) + 1) = l.g (L.next l.n k) := by unfold L.cy; rw [ix_next h]
theorem cy_congr {l : L.Sq L.Pt} {a b : Int} (hn : 0 < l.n) (h : a % (l.n : Int) = b % (l.n : Int)) (c : Int) : L.cy l (a + c) = L.cy l (b + c) := by unfold L.cy; rw [ix_congr hn h c]
theorem cy_ix {l : L.Sq L.Pt} (hn : 0 < l.n) (a c : Int) : L.cy l (((L.ix l.n a : Nat) : Int) + c) = L.cy l (a + c) := by unfold L.cy; rw [ix_ix hn c]
def L.simpC (n : Nat) (f : Int → L.Pt) : Prop := ∀ a b : Int, a % (n : Int) ≠ b % (n : Int) → L.meet (f a) (f (a + 1)) (f b) (f (b + 1)) = (if (b - a) % (n : Int) = 1 ∨ (a - b) % (n : Int) = 1 then 1 else 0)
theorem pair_cy {l : L.Sq L.Pt} {i k : Nat} (h1 : i < k) (h2 : k < l.n) : L.how l i k = L.meet (L.cy l i) (L.cy l (i + 1)) (L.cy l k) (L.cy l (k + 1)) ∧ (L.nxt l i k = true ↔ ((k : Int) - i) % (l.n : Int) = 1 ∨ ((i : Int) - k) % (l.n : Int) = 1) := by
  constructor
  · unfold L.how
    have e : L.cy l ((i : Int) + 1) = l.g (i + 1) := by
      have := cy_nat (l := l) (k := i + 1) (by omega)
      rw [← this]; congr 1
    rw [cy_nat (l := l) (k := i) (by omega), e, cy_nat h2, cy_next h2]
  · unfold L.nxt
    rw [bor, Bool.or_eq_true, band, Bool.and_eq_true, decide_eq_true_eq, decide_eq_true_eq, decide_eq_true_eq]
    have m1 : ((k : Int) - i) % (l.n : Int) = (k : Int) - i := Int.emod_eq_of_lt (by omega) (by omega)
    have m2 : ((i : Int) - k) % (l.n : Int) = (i : Int) - k + l.n := by
      rw [← Int.add_emod_right, Int.emod_eq_of_lt (by omega) (by omega)]
    rw [m1, m2]
    omega
theorem simpC_of {l : L.Sq L.Pt} (hn : 0 < l.n) (h : L.simple l = true) : L.simpC l.n (L.cy l) := by
  have hp : ∀ i k, i < k → k < l.n → L.okPair l i k = true := fun i k h1 h2 => by
    unfold L.simple at h
    have := allB_iff.1 (allB_iff.1 h i (by omega)) k h2
    rw [decide_eq_true h1] at this
    exact this
  have key : ∀ i k : Nat, i < k → k < l.n → L.meet (L.cy l i) (L.cy l (i + 1)) (L.cy l k) (L.cy l (k + 1)) = (if ((k : Int) - i) % (l.n : Int) = 1 ∨ ((i : Int) - k) % (l.n : Int) = 1 then 1 else 0) := fun i k h1 h2 => by
    obtain ⟨e1, e2⟩ := pair_cy (l := l) h1 h2
    have := hp i k h1 h2
    unfold L.okPair at this
    rw [← e1]
    cases hx : L.nxt l i k with
    | true => rw [hx] at this; rw [if_pos (e2.1 hx)]; exact of_decide_eq_true this
    | false =>
      rw [hx] at this
      rw [if_neg (fun h => by rw [e2.2 h] at hx; cases hx)]
      exact of_decide_eq_true this
  intro a b hab
  have ha := ix_emod (a := a) hn
  have hb := ix_emod (a := b) hn
  have la := ix_lt (n := l.n) (i := a) hn
  have lb := ix_lt (n := l.n) (i := b) hn
  have m : ∀ x y : Int, (((L.ix l.n x : Nat) : Int) - ((L.ix l.n y : Nat) : Int)) % (l.n : Int) = (x - y) % (l.n : Int) := fun x y => by
    rw [ix_emod hn, ix_emod hn, ← Int.sub_emod]
  have c0 : ∀ x : Int, L.cy l ((L.ix l.n x : Nat) : Int) = L.cy l x := fun x => by
    have := cy_ix hn x 0
    rwa [Int.add_zero, Int.add_zero] at this
  rcases Nat.lt_trichotomy (L.ix l.n a) (L.ix l.n b) with h1 | h1 | h1
  · have := key _ _ h1 lb
    rw [c0, c0, cy_ix hn, cy_ix hn, m, m] at this
    exact this
  · exact absurd (by rw [← ha, ← hb, h1]) hab
  · have := key _ _ h1 la
    rw [c0, c0, cy_ix hn, cy_ix hn, m, m, meet_swap] at this
    rw [this]
    by_cases c : (a - b) % (l.n : Int) = 1 ∨ (b - a) % (l.n : Int) = 1
    · rw [if_pos c, if_pos c.symm]
    · rw [if_neg c, if_neg (fun h => c h.symm)]
theorem simple_of {l : L.Sq L.Pt} (h : L.simpC l.n (L.cy l)) : L.simple l = true := by
  unfold L.simple
  refine allB_iff.2 (fun i hi => allB_iff.2 (fun k hk => ?_))
  by_cases hik : i < k
  · obtain ⟨e1, e2⟩ := pair_cy (l := l) hik hk
    have := h i k (by rw [Int.emod_eq_of_lt (by omega) (by omega), Int.emod_eq_of_lt (by omega) (by omega)]; omega)
    rw [← e1] at this
    rw [decide_eq_true hik]
    unfold L.okPair
    cases hx : L.nxt l i k with
    | true => rw [if_pos (e2.1 hx)] at this; exact decide_eq_true this
    | false =>
      rw [if_neg (fun h => by rw [e2.2 h] at hx; cases hx)] at this
      exact decide_eq_true this
  · rw [decide_eq_false hik]; rfl
theorem emod_eq_of {n a b : Int} (h : (b - a) % n = 1 % n) : b % n = (a + 1) % n := by
  have := Int.emod_emod_of_dvd (b - a) (Int.dvd_refl n)
  have e : b = (b - a) + a := by omega
  rw [e, Int.add_emod, h, ← Int.add_emod, Int.add_comm]
def L.tm (p q : L.Pt) : Int := p.x * q.y - q.x * p.y
def L.sm (f : Int → Int) : Nat → Int
  | 0 => 0
  | k + 1 => L.sm f k + f (k : Int)
def L.ct (l : L.Sq L.Pt) (i : Int) : Int := L.tm (L.cy l i) (L.cy l (i + 1))
theorem area_sm {l : L.Sq L.Pt} : ∀ {k : Nat}, k ≤ l.n → L.areaTo l k = L.sm (L.ct l) k
  | 0, _ => rfl
  | k + 1, h => by
    rw [L.areaTo, L.sm, area_sm (k := k) (by omega)]
    unfold L.ct L.tm
    rw [cy_nat (by omega), cy_next (by omega)]

namespace PArea
theorem beta_pos {α β lo hi : Int} (h1 : α + β * lo < 0) (h2 : 0 < α + β * hi) (h : lo ≤ hi) : 0 < β := by
  rcases Int.lt_or_le 0 β with hb | hb
  · exact hb
  · have := Int.mul_nonneg_of_nonpos_of_nonpos hb (show lo - hi ≤ 0 by omega)
    rw [Int.mul_sub] at this
    omega
theorem up_le {β u v : Int} (hb : 0 ≤ β) (h : u ≤ v) : β * u ≤ β * v := Int.mul_le_mul_of_nonneg_left h hb
theorem dn_le {β u v : Int} (hb : β ≤ 0) (h : u ≤ v) : β * v ≤ β * u := by
  have := Int.mul_nonneg_of_nonpos_of_nonpos hb (show u - v ≤ 0 by omega)
  rw [Int.mul_sub] at this
  omega
/-- Positive at both ends: positive between. -/
theorem aff_pos {α β lo hi j : Int} (h1 : 0 < α + β * lo) (h2 : 0 < α + β * hi) (hl : lo ≤ j) (hh : j ≤ hi) : 0 < α + β * j := by
  rcases Int.le_total 0 β with hb | hb
  · have := up_le hb hl; omega
  · have := dn_le hb hh; omega
theorem aff_neg {α β lo hi j : Int} (h1 : α + β * lo < 0) (h2 : α + β * hi < 0) (hl : lo ≤ j) (hh : j ≤ hi) : α + β * j < 0 := by
  rcases Int.le_total 0 β with hb | hb
  · have := up_le hb hh; omega
  · have := dn_le hb hl; omega
theorem sgn_lt {k D u v p q : Int} (hk : k ≠ 0) (hD : 0 < D) (h1 : k * u = D * p) (h2 : k * v = D * q) (h : u * v < 0) : p * q < 0 := by
  have hkk : 0 < k * k := by
    rcases Int.lt_or_lt_of_ne hk with h | h
    · exact Int.mul_pos_of_neg_of_neg h h
    · exact Int.mul_pos h h
  have e : k * k * (u * v) = D * D * (p * q) := by
    have : k * k * (u * v) = (k * u) * (k * v) := by grind
    rw [this, h1, h2]; grind
  rcases Int.lt_or_le (p * q) 0 with hq | hq
  · exact hq
  · have h3 : k * k * (u * v) < 0 := Int.mul_neg_of_pos_of_neg hkk h
    have h4 : 0 ≤ D * D * (p * q) := Int.mul_nonneg (Int.mul_nonneg (by omega) (by omega)) hq
    omega
def cr (x y : Int → Int) (a c : Int) : Int := (x (a + 1) - x a) * (y c - y a) - (y (a + 1) - y a) * (x c - x a)
def far (n : Nat) (a b : Int) : Prop := a % (n : Int) ≠ b % (n : Int) ∧ a % (n : Int) ≠ (b + 1) % (n : Int) ∧ (a + 1) % (n : Int) ≠ b % (n : Int)
def within (y : Int → Int) (a c : Int) : Prop := min (y a) (y (a + 1)) ≤ y c ∧ y c ≤ max (y a) (y (a + 1))
structure Poly (n : Nat) (x y m : Int → Int) (D : Int) : Prop where
  hn : 3 ≤ n
  px : ∀ a b : Int, a % (n : Int) = b % (n : Int) → x a = x b
  py : ∀ a b : Int, a % (n : Int) = b % (n : Int) → y a = y b
  pm : ∀ a b : Int, a % (n : Int) = b % (n : Int) → m a = m b
  hD : 0 < D
  hm : ∀ a, m a * (y (a + 1) - y a) = D * (x (a + 1) - x a)
  hy : ∀ a b : Int, a % (n : Int) ≠ b % (n : Int) → y a ≠ y b
  on : ∀ a b : Int, far n a b → ∀ c, (c = b ∨ c = b + 1) → within y a c → cr x y a c ≠ 0
  no : ∀ a b : Int, far n a b → ¬ (cr x y a b * cr x y a (b + 1) < 0 ∧ cr x y b a * cr x y b (a + 1) < 0)
  co : ∀ a : Int, cr x y a (a + 2) ≠ 0
def X (x y m : Int → Int) (D a Y : Int) : Int := D * x a + m a * (Y - y a)
def act (y : Int → Int) (a j : Int) : Prop := (y a ≤ j ∧ j < y (a + 1)) ∨ (y (a + 1) ≤ j ∧ j < y a)
theorem far_comm {n : Nat} {a b : Int} (h : far n a b) : far n b a := ⟨fun e => h.1 e.symm, fun e => h.2.2 e.symm, fun e => h.2.1 e.symm⟩
section
variable {n : Nat} {x y m : Int → Int} {D : Int}
theorem X_lo (a : Int) : X x y m D a (y a) = D * x a := by unfold X; rw [Int.sub_self, Int.mul_zero, Int.add_zero]
theorem X_hi (P : Poly n x y m D) (a : Int) : X x y m D a (y (a + 1)) = D * x (a + 1) := by
  unfold X; rw [P.hm, Int.mul_sub]; omega
theorem R1 (P : Poly n x y m D) (a c : Int) : (y (a + 1) - y a) * (X x y m D a (y c) - D * x c) = D * cr x y a c := by
  have := P.hm a
  unfold X cr
  grind
theorem next_ne (hn : 3 ≤ n) (a : Int) : a % (n : Int) ≠ (a + 1) % (n : Int) := by
  intro e
  have h1 : ((a + 1) - a) % (n : Int) = 0 := by rw [Int.sub_emod, e, Int.sub_self, Int.zero_emod]
  rw [show a + 1 - a = 1 by omega, Int.emod_eq_of_lt (by omega) (by omega)] at h1
  omega
theorem dy_ne (P : Poly n x y m D) (a : Int) : y (a + 1) - y a ≠ 0 := by
  have := P.hy _ _ (next_ne P.hn a); omega
/-- The difference of two edges' places is a linear function of the height. -/
theorem X_sub (a b Y : Int) : X x y m D a Y - X x y m D b Y = (D * x a - m a * y a - (D * x b - m b * y b)) + (m a - m b) * Y := by
  unfold X; grind
theorem end_ne (P : Poly n x y m D) {a b c : Int} (h : far n a b) (hc : c = b ∨ c = b + 1) (hw : within y a c) : X x y m D a (y c) - X x y m D b (y c) ≠ 0 := by
  have hb : X x y m D b (y c) = D * x c := by
    rcases hc with rfl | rfl
    · exact X_lo _
    · exact X_hi P _
  rw [hb]
  intro e
  have := R1 P a c
  rw [e, Int.mul_zero] at this
  rcases Int.mul_eq_zero.1 this.symm with h1 | h1
  · have := P.hD; omega
  · exact P.on a b h c hc hw h1
theorem cross_lt (P : Poly n x y m D) {a b : Int} (h : (X x y m D a (y b) - X x y m D b (y b)) * (X x y m D a (y (b + 1)) - X x y m D b (y (b + 1))) < 0) : cr x y a b * cr x y a (b + 1) < 0 := by
  rw [X_lo, X_hi P] at h
  exact sgn_lt (dy_ne P a) P.hD (R1 P a b) (R1 P a (b + 1)) h
theorem mul_lt_of {u v : Int} (h : (u < 0 ∧ 0 < v) ∨ (0 < u ∧ v < 0)) : u * v < 0 := by
  rcases h with ⟨h1, h2⟩ | ⟨h1, h2⟩
  · exact Int.mul_neg_of_neg_of_pos h1 h2
  · exact Int.mul_neg_of_pos_of_neg h1 h2
/-- Below at one end and above at the other one: they cross. -/
theorem no_cross (P : Poly n x y m D) {a b lo hi : Int} (h : far n a b) (h1 : X x y m D a lo - X x y m D b lo < 0) (h2 : 0 < X x y m D a hi - X x y m D b hi) (hlh : lo ≤ hi)
    (la : min (y a) (y (a + 1)) ≤ lo) (lb : min (y b) (y (b + 1)) ≤ lo) (ua : hi ≤ max (y a) (y (a + 1))) (ub : hi ≤ max (y b) (y (b + 1))) : False := by
  rw [X_sub] at h1 h2
  have hb := beta_pos h1 h2 hlh
  have low : ∀ u, u ≤ lo → X x y m D a u - X x y m D b u < 0 := fun u hu => by
    rw [X_sub]; have := up_le (Int.le_of_lt hb) hu; omega
  have high : ∀ u, hi ≤ u → 0 < X x y m D a u - X x y m D b u := fun u hu => by
    rw [X_sub]; have := up_le (Int.le_of_lt hb) hu; omega
  refine P.no a b h ⟨cross_lt P (mul_lt_of ?_), cross_lt P (mul_lt_of ?_)⟩
  · rcases Int.le_total (y b) (y (b + 1)) with q | q
    · exact .inl ⟨low _ (by omega), high _ (by omega)⟩
    · exact .inr ⟨high _ (by omega), low _ (by omega)⟩
  · rcases Int.le_total (y a) (y (a + 1)) with q | q
    · have := low (y a) (by omega); have := high (y (a + 1)) (by omega)
      exact .inr ⟨by omega, by omega⟩
    · have := low (y (a + 1)) (by omega); have := high (y a) (by omega)
      exact .inl ⟨by omega, by omega⟩
theorem nc_far (P : Poly n x y m D) {a b j : Int} (h : far n a b) (ha : act y a j) (hb : act y b j) :
    (0 < X x y m D a j - X x y m D b j ∧ 0 < X x y m D a (j + 1) - X x y m D b (j + 1)) ∨ (X x y m D a j - X x y m D b j < 0 ∧ X x y m D a (j + 1) - X x y m D b (j + 1) < 0) := by
  have e1 := fun c hc hw => end_ne P (c := c) h hc hw
  have e2 := fun c hc hw => end_ne P (c := c) (far_comm h) hc hw
  obtain ⟨lo, hlo, la, lb, nlo⟩ : ∃ lo, lo ≤ j ∧ min (y a) (y (a + 1)) ≤ lo ∧ min (y b) (y (b + 1)) ≤ lo ∧ X x y m D a lo - X x y m D b lo ≠ 0 := by
    unfold act at ha hb
    rcases Int.le_total (min (y a) (y (a + 1))) (min (y b) (y (b + 1))) with q | q
    · rcases Int.le_total (y b) (y (b + 1)) with r | r
      · exact ⟨y b, by omega, by omega, by omega, e1 b (.inl rfl) ⟨by omega, by omega⟩⟩
      · exact ⟨y (b + 1), by omega, by omega, by omega, e1 (b + 1) (.inr rfl) ⟨by omega, by omega⟩⟩
    · rcases Int.le_total (y a) (y (a + 1)) with r | r
      · exact ⟨y a, by omega, by omega, by omega, fun e => e2 a (.inl rfl) ⟨by omega, by omega⟩ (by omega)⟩
      · exact ⟨y (a + 1), by omega, by omega, by omega, fun e => e2 (a + 1) (.inr rfl) ⟨by omega, by omega⟩ (by omega)⟩
  obtain ⟨hi, hhi, ua, ub, nhi⟩ : ∃ hi, j + 1 ≤ hi ∧ hi ≤ max (y a) (y (a + 1)) ∧ hi ≤ max (y b) (y (b + 1)) ∧ X x y m D a hi - X x y m D b hi ≠ 0 := by
    unfold act at ha hb
    rcases Int.le_total (max (y b) (y (b + 1))) (max (y a) (y (a + 1))) with q | q
    · rcases Int.le_total (y b) (y (b + 1)) with r | r
      · exact ⟨y (b + 1), by omega, by omega, by omega, e1 (b + 1) (.inr rfl) ⟨by omega, by omega⟩⟩
      · exact ⟨y b, by omega, by omega, by omega, e1 b (.inl rfl) ⟨by omega, by omega⟩⟩
    · rcases Int.le_total (y a) (y (a + 1)) with r | r
      · exact ⟨y (a + 1), by omega, by omega, by omega, fun e => e2 (a + 1) (.inr rfl) ⟨by omega, by omega⟩ (by omega)⟩
      · exact ⟨y a, by omega, by omega, by omega, fun e => e2 a (.inl rfl) ⟨by omega, by omega⟩ (by omega)⟩
  rcases Int.lt_or_lt_of_ne nlo with s1 | s1 <;> rcases Int.lt_or_lt_of_ne nhi with s2 | s2
  · rw [X_sub] at s1 s2
    rw [X_sub, X_sub]
    exact .inr ⟨aff_neg s1 s2 (by omega) (by omega), aff_neg s1 s2 (by omega) (by omega)⟩
  · exact (no_cross P h s1 s2 (by omega) la lb ua ub).elim
  · exact (no_cross P (far_comm h) (lo := lo) (hi := hi) (by omega) (by omega) (by omega) lb la ub ua).elim
  · rw [X_sub] at s1 s2
    rw [X_sub, X_sub]
    exact .inl ⟨aff_pos s1 s2 (by omega) (by omega), aff_pos s1 s2 (by omega) (by omega)⟩
/-- Neighbours: the shared corner is the lower or the upper end of both; elsewhere they are apart. -/
theorem nc_next (P : Poly n x y m D) {a j : Int} :
    (0 ≤ X x y m D a j - X x y m D (a + 1) j ∧ 0 ≤ X x y m D a (j + 1) - X x y m D (a + 1) (j + 1) ∨ X x y m D a j - X x y m D (a + 1) j ≤ 0 ∧ X x y m D a (j + 1) - X x y m D (a + 1) (j + 1) ≤ 0) ∧
    (X x y m D a j - X x y m D (a + 1) j = 0 ↔ y (a + 1) = j) ∧ (X x y m D a (j + 1) - X x y m D (a + 1) (j + 1) = 0 ↔ y (a + 1) = j + 1) := by
  have z : X x y m D a (y (a + 1)) - X x y m D (a + 1) (y (a + 1)) = 0 := by rw [X_hi P, X_lo]; omega
  have nz : X x y m D a (y (a + 2)) - X x y m D (a + 1) (y (a + 2)) ≠ 0 := by
    have e := X_hi P (a + 1)
    rw [show a + 1 + 1 = a + 2 by omega] at e
    rw [e]
    intro e0
    have := R1 P a (a + 2)
    rw [e0, Int.mul_zero] at this
    rcases Int.mul_eq_zero.1 this.symm with h1 | h1
    · have := P.hD; omega
    · exact P.co a h1
  rw [X_sub] at z nz
  rw [X_sub, X_sub]
  generalize (D * x a - m a * y a - (D * x (a + 1) - m (a + 1) * y (a + 1))) = α at *
  generalize m a - m (a + 1) = β at *
  have h : ∀ Y, α + β * Y = β * (Y - y (a + 1)) := fun Y => by rw [Int.mul_sub]; omega
  have hβ : β ≠ 0 := fun e => nz (by rw [h, e, Int.zero_mul])
  rw [h, h]
  refine ⟨?_, ?_, ?_⟩
  · rcases Int.le_total 0 β with q | q
    · rcases Int.lt_or_le j (y (a + 1)) with r | r
      rotate_left
      · exact .inl ⟨Int.mul_nonneg q (by omega), Int.mul_nonneg q (by omega)⟩
      · exact .inr ⟨Int.mul_nonpos_of_nonneg_of_nonpos q (by omega), Int.mul_nonpos_of_nonneg_of_nonpos q (by omega)⟩
    · rcases Int.lt_or_le j (y (a + 1)) with r | r
      rotate_left
      · exact .inr ⟨Int.mul_nonpos_of_nonpos_of_nonneg q (by omega), Int.mul_nonpos_of_nonpos_of_nonneg q (by omega)⟩
      · exact .inl ⟨Int.mul_nonneg_of_nonpos_of_nonpos q (by omega), Int.mul_nonneg_of_nonpos_of_nonpos q (by omega)⟩
  · rw [Int.mul_eq_zero]; omega
  · rw [Int.mul_eq_zero]; omega
end
end PArea
namespace PArea
def sm (f : Int → Int) : Nat → Int
  | 0 => 0
  | k + 1 => sm f k + f (k : Int)
theorem sm_cong {f g : Int → Int} : ∀ {k : Nat}, (∀ i : Nat, i < k → f (i : Int) = g (i : Int)) → sm f k = sm g k
  | 0, _ => rfl
  | k + 1, h => by rw [sm, sm, sm_cong (fun i hi => h i (by omega)), h k (by omega)]
theorem sm_zero : ∀ k, sm (fun _ => 0) k = 0
  | 0 => rfl
  | k + 1 => by rw [sm, sm_zero k]; rfl
theorem sm_sub {f g : Int → Int} : ∀ k, sm (fun i => f i - g i) k = sm f k - sm g k
  | 0 => rfl
  | k + 1 => by rw [sm, sm, sm, sm_sub k]; omega
theorem sm_tele {g : Int → Int} : ∀ k : Nat, sm (fun i => g (i + 1) - g i) k = g (k : Int) - g 0
  | 0 => by show 0 = g 0 - g 0; omega
  | k + 1 => by
    rw [sm, sm_tele k, show ((k + 1 : Nat) : Int) = (k : Int) + 1 by omega]; omega
theorem sm_left {f : Int → Int} : ∀ k, sm f (k + 1) = f 0 + sm (fun i => f (i + 1)) k
  | 0 => by show 0 + f 0 = f 0 + 0; omega
  | k + 1 => by
    rw [sm, sm_left k]
    show f 0 + sm (fun i => f (i + 1)) k + f ((k + 1 : Nat) : Int) = f 0 + (sm (fun i => f (i + 1)) k + f ((k : Int) + 1))
    rw [show ((k + 1 : Nat) : Int) = (k : Int) + 1 by omega]
    omega
def per (n : Nat) (f : Int → Int) : Prop := ∀ a b : Int, a % (n : Int) = b % (n : Int) → f a = f b
theorem per_tele {n : Nat} {g : Int → Int} (h : per n g) : sm (fun i => g (i + 1) - g i) n = 0 := by
  rw [sm_tele, h (n : Int) 0 (by rw [Int.emod_self, Int.zero_emod])]; omega
theorem sm_shift1 {n : Nat} {f : Int → Int} (h : per n f) : sm (fun i => f (i + 1)) n = sm f n := by
  have := sm_sub (f := fun i => f (i + 1)) (g := f) n
  rw [per_tele h] at this
  omega
theorem sm_shift {n : Nat} : ∀ (c : Nat) {f : Int → Int}, per n f → sm (fun i => f (i + c)) n = sm f n
  | 0, f, _ => sm_cong (fun i _ => by rw [show (i : Int) + ((0 : Nat) : Int) = i by omega])
  | c + 1, f, h => by
    have e : sm (fun i => f (i + ((c + 1 : Nat) : Int))) n = sm (fun i => (fun j => f (j + c)) (i + 1)) n := sm_cong (fun i _ => by
      show f ((i : Int) + ((c + 1 : Nat) : Int)) = f ((i : Int) + 1 + (c : Int))
      rw [show (i : Int) + ((c + 1 : Nat) : Int) = (i : Int) + 1 + (c : Int) by omega])
    rw [e, sm_shift1 (f := fun j => f (j + c)) (fun a b hab => h _ _ (by rw [Int.add_emod, hab, ← Int.add_emod])), sm_shift c h]
/-- Two periodic functions that differ at one place only. -/
theorem sm_one {n : Nat} (hn : 0 < n) {f g : Int → Int} (hf : per n f) (hg : per n g) (c : Int) (h : ∀ b : Int, b % (n : Int) ≠ c % (n : Int) → f b = g b) : sm f n - sm g n = f c - g c := by
  have h0 := Int.emod_nonneg c (show (n : Int) ≠ 0 by omega)
  rw [← sm_sub]
  have hp : per n (fun i => f i - g i) := fun a b hab => by show f a - g a = f b - g b; rw [hf a b hab, hg a b hab]
  rw [← sm_shift (c % (n : Int)).toNat hp]
  have e0 : ((c % (n : Int)).toNat : Int) = c % (n : Int) := Int.toNat_of_nonneg h0
  rw [e0]
  obtain ⟨k, rfl⟩ : ∃ k, n = k + 1 := ⟨n - 1, by omega⟩
  rw [sm_left]
  have z : sm (fun i => f (i + 1 + c % ((k + 1 : Nat) : Int)) - g (i + 1 + c % ((k + 1 : Nat) : Int))) k = sm (fun _ => 0) k := sm_cong (fun i hi => by
    have : f ((i : Int) + 1 + c % ((k + 1 : Nat) : Int)) = g ((i : Int) + 1 + c % ((k + 1 : Nat) : Int)) := h _ (fun e => by
      have h1 : ((i : Int) + 1 + c % ((k + 1 : Nat) : Int) - c) % ((k + 1 : Nat) : Int) = 0 := by rw [Int.sub_emod, e, Int.sub_self, Int.zero_emod]
      rw [Int.sub_emod, Int.add_emod_emod, ← Int.sub_emod, show (i : Int) + 1 + c - c = (i : Int) + 1 by omega, Int.emod_eq_of_lt (by omega) (by omega)] at h1
      omega)
    show _ - _ = (0 : Int)
    rw [this, Int.sub_self])
  have e2 : f (0 + c % ((k + 1 : Nat) : Int)) = f c := hf _ _ (by rw [Int.zero_add, Int.emod_emod])
  have e3 : g (0 + c % ((k + 1 : Nat) : Int)) = g c := hg _ _ (by rw [Int.zero_add, Int.emod_emod])
  show f (0 + c % ((k + 1 : Nat) : Int)) - g (0 + c % ((k + 1 : Nat) : Int)) + sm (fun i => f (i + 1 + c % ((k + 1 : Nat) : Int)) - g (i + 1 + c % ((k + 1 : Nat) : Int))) k = _
  rw [z, sm_zero, e2, e3]
  omega
def ind (p : Prop) [Decidable p] : Int := if p then 1 else 0
theorem ind_t {p : Prop} [Decidable p] (h : p) : ind p = 1 := if_pos h
theorem ind_f {p : Prop} [Decidable p] (h : ¬ p) : ind p = 0 := if_neg h
def q (y : Int → Int) (j a : Int) : Int := ind (j < y (a + 1)) - ind (j < y a)
section
variable {n : Nat} {x y m : Int → Int} {D : Int}
theorem succ_mod {a b : Int} (h : a % (n : Int) = b % (n : Int)) (c : Int) : (a + c) % (n : Int) = (b + c) % (n : Int) := by
  rw [Int.add_emod, h, ← Int.add_emod]
theorem X_per (P : Poly n x y m D) {a b : Int} (h : a % (n : Int) = b % (n : Int)) (Y : Int) : X x y m D a Y = X x y m D b Y := by
  unfold X; rw [P.px a b h, P.py a b h, P.pm a b h]
theorem y_per1 (P : Poly n x y m D) {a b : Int} (h : a % (n : Int) = b % (n : Int)) : y (a + 1) = y (b + 1) := P.py _ _ (succ_mod h 1)
theorem act_per (P : Poly n x y m D) {a b j : Int} (h : a % (n : Int) = b % (n : Int)) : act y a j ↔ act y b j := by
  unfold act; rw [P.py a b h, y_per1 P h]
theorem q_per (P : Poly n x y m D) (j : Int) : per n (q y j) := fun a b h => by unfold q; rw [P.py a b h, y_per1 P h]
theorem q_up {a j : Int} (h1 : y a ≤ j) (h2 : j < y (a + 1)) : q y j a = 1 := by unfold q; rw [ind_t h2, ind_f (by omega)]; rfl
theorem q_dn {a j : Int} (h1 : y (a + 1) ≤ j) (h2 : j < y a) : q y j a = -1 := by unfold q; rw [ind_t h2, ind_f (show ¬ j < y (a + 1) by omega)]; rfl
theorem q_no {a j : Int} (h : ¬ act y a j) : q y j a = 0 := by
  unfold act at h
  unfold q
  by_cases h1 : j < y a
  · rw [ind_t h1, ind_t (show j < y (a + 1) by omega)]; rfl
  · rw [ind_f h1, ind_f (show ¬ j < y (a + 1) by omega)]; rfl
/-- The signed count left of a place does not change where strips meet. -/
theorem count_line (P : Poly n x y m D) (Y T : Int) : sm (fun b => q y Y b * ind (X x y m D b Y < T)) n = sm (fun b => q y (Y - 1) b * ind (X x y m D b Y < T)) n := by
  have hp : per n (fun k => ind (y k = Y) * ind (D * x k < T)) := fun a b h => by show ind (y a = Y) * _ = _; rw [P.py a b h, P.px a b h]
  have key : ∀ b : Int, q y Y b * ind (X x y m D b Y < T) - q y (Y - 1) b * ind (X x y m D b Y < T) = - (ind (y (b + 1) = Y) * ind (D * x (b + 1) < T) - ind (y b = Y) * ind (D * x b < T)) := fun b => by
    have hd := dy_ne P b
    unfold q
    by_cases h1 : y b = Y
    · have e : X x y m D b Y = D * x b := by rw [← h1]; exact X_lo b
      rw [e, ind_t h1, ind_f (show ¬ y (b + 1) = Y by omega), ind_f (show ¬ Y < y b by omega), ind_t (show Y - 1 < y b by omega)]
      by_cases h2 : Y < y (b + 1)
      · rw [ind_t h2, ind_t (show Y - 1 < y (b + 1) by omega)]; omega
      · rw [ind_f h2, ind_f (show ¬ Y - 1 < y (b + 1) by omega)]; omega
    · by_cases h3 : y (b + 1) = Y
      · have e : X x y m D b Y = D * x (b + 1) := by rw [← h3]; exact X_hi P b
        rw [e, ind_t h3, ind_f h1, ind_f (show ¬ Y < y (b + 1) by omega), ind_t (show Y - 1 < y (b + 1) by omega)]
        by_cases h2 : Y < y b
        · rw [ind_t h2, ind_t (show Y - 1 < y b by omega)]; omega
        · rw [ind_f h2, ind_f (show ¬ Y - 1 < y b by omega)]; omega
      · rw [ind_f h1, ind_f h3]
        have e1 : ind (Y < y (b + 1)) = ind (Y - 1 < y (b + 1)) := by
          by_cases h : Y < y (b + 1)
          · rw [ind_t h, ind_t (by omega)]
          · rw [ind_f h, ind_f (by omega)]
        have e2 : ind (Y < y b) = ind (Y - 1 < y b) := by
          by_cases h : Y < y b
          · rw [ind_t h, ind_t (by omega)]
          · rw [ind_f h, ind_f (by omega)]
        rw [e1, e2]; omega
  have h1 := sm_sub (f := fun b => q y Y b * ind (X x y m D b Y < T)) (g := fun b => q y (Y - 1) b * ind (X x y m D b Y < T)) n
  have h2 : sm (fun b => q y Y b * ind (X x y m D b Y < T) - q y (Y - 1) b * ind (X x y m D b Y < T)) n = sm (fun b => 0 - ((fun k => ind (y k = Y) * ind (D * x k < T)) (b + 1) - (fun k => ind (y k = Y) * ind (D * x k < T)) b)) n := sm_cong (fun i _ => by rw [key]; exact (Int.zero_sub _).symm)
  rw [h2] at h1
  have h3 := sm_sub (f := fun _ => 0) (g := fun b => (fun k => ind (y k = Y) * ind (D * x k < T)) (b + 1) - (fun k => ind (y k = Y) * ind (D * x k < T)) b) n
  rw [sm_zero, per_tele hp] at h3
  rw [h3] at h1
  omega
def V (x y m : Int → Int) (D b j : Int) : Int := X x y m D b j + X x y m D b (j + 1)
/-- Two edges over one strip. -/
theorem sep (P : Poly n x y m D) {a b j : Int} (ha : act y a j) (hb : act y b j) (hab : b % (n : Int) ≠ a % (n : Int)) :
    (0 ≤ X x y m D a j - X x y m D b j ∧ 0 ≤ X x y m D a (j + 1) - X x y m D b (j + 1) ∨ X x y m D a j - X x y m D b j ≤ 0 ∧ X x y m D a (j + 1) - X x y m D b (j + 1) ≤ 0) ∧
    ¬ (X x y m D a j - X x y m D b j = 0 ∧ X x y m D a (j + 1) - X x y m D b (j + 1) = 0) ∧
    (X x y m D a (j + 1) - X x y m D b (j + 1) = 0 → (b % (n : Int) = (a + 1) % (n : Int) ∧ y (a + 1) = j + 1) ∨ ((b + 1) % (n : Int) = a % (n : Int) ∧ y a = j + 1)) ∧
    (X x y m D a j - X x y m D b j = 0 → (b % (n : Int) = (a + 1) % (n : Int) ∧ y (a + 1) = j) ∨ ((b + 1) % (n : Int) = a % (n : Int) ∧ y a = j)) := by
  by_cases h1 : b % (n : Int) = (a + 1) % (n : Int)
  · obtain ⟨q1, q2, q3⟩ := nc_next P (a := a) (j := j)
    rw [X_per P h1, X_per P h1]
    refine ⟨q1, fun e => ?_, fun e => .inl ⟨h1, q3.1 e⟩, fun e => .inl ⟨h1, q2.1 e⟩⟩
    have := q2.1 e.1; have := q3.1 e.2; omega
  · by_cases h2 : (b + 1) % (n : Int) = a % (n : Int)
    · obtain ⟨q1, q2, q3⟩ := nc_next P (a := b) (j := j)
      rw [X_per P h2, X_per P h2] at q1
      rw [X_per P h2] at q2
      rw [X_per P h2] at q3
      rw [P.py _ _ h2] at q2 q3
      refine ⟨by omega, fun e => ?_, fun e => .inr ⟨h2, q3.1 (by omega)⟩, fun e => .inr ⟨h2, q2.1 (by omega)⟩⟩
      have := q2.1 (by omega); have := q3.1 (by omega); omega
    · have := nc_far P (a := a) (b := b) (j := j) ⟨fun e => hab e.symm, fun e => h2 e.symm, fun e => h1 e.symm⟩ ha hb
      exact ⟨by omega, by omega, by omega, by omega⟩
def W (n : Nat) (x y m : Int → Int) (D a j : Int) : Int := sm (fun b => q y j b * ind (V x y m D b j < V x y m D a j)) n
def WX (n : Nat) (x y m : Int → Int) (D j Y T : Int) : Int := sm (fun b => q y j b * ind (X x y m D b Y < T)) n
theorem line (P : Poly n x y m D) (Y T : Int) : WX n x y m D Y Y T = WX n x y m D (Y - 1) Y T := count_line P Y T
/-- The edges to the left, told at the strip's upper side; c: the neighbour that ends there. -/
theorem W_top (P : Poly n x y m D) {a j : Int} (ha : act y a j) (c : Int) (hc : ∀ b, act y b j → b % (n : Int) ≠ a % (n : Int) → X x y m D a (j + 1) - X x y m D b (j + 1) = 0 → b % (n : Int) = c % (n : Int)) :
    W n x y m D a j - WX n x y m D j (j + 1) (X x y m D a (j + 1)) = q y j c * ind (V x y m D c j < V x y m D a j) - q y j c * ind (X x y m D c (j + 1) < X x y m D a (j + 1)) := by
  have hn := P.hn
  refine sm_one (f := fun b => q y j b * ind (V x y m D b j < V x y m D a j)) (g := fun b => q y j b * ind (X x y m D b (j + 1) < X x y m D a (j + 1))) (by omega) (fun s t h => ?_) (fun s t h => ?_) c fun b hb => ?_
  · show q y j s * ind (V x y m D s j < _) = _
    unfold V; rw [q_per P j s t h, X_per P h, X_per P h]
  · show q y j s * ind (X x y m D s (j + 1) < _) = _
    rw [q_per P j s t h, X_per P h]
  · show q y j b * ind (V x y m D b j < V x y m D a j) = q y j b * ind (X x y m D b (j + 1) < X x y m D a (j + 1))
    by_cases hba : b % (n : Int) = a % (n : Int)
    · unfold V
      rw [X_per P hba, X_per P hba, ind_f (by omega), ind_f (by omega)]
    · by_cases hb' : act y b j
      · obtain ⟨s1, s2, _, _⟩ := sep P ha hb' hba
        have : X x y m D a (j + 1) - X x y m D b (j + 1) ≠ 0 := fun e => hb (hc b hb' hba e)
        unfold V
        by_cases h : X x y m D b (j + 1) < X x y m D a (j + 1)
        · rw [ind_t h, ind_t (by omega)]
        · rw [ind_f h, ind_f (by omega)]
      · rw [q_no hb', Int.zero_mul, Int.zero_mul]
theorem W_bot (P : Poly n x y m D) {a j : Int} (ha : act y a j) (c : Int) (hc : ∀ b, act y b j → b % (n : Int) ≠ a % (n : Int) → X x y m D a j - X x y m D b j = 0 → b % (n : Int) = c % (n : Int)) :
    W n x y m D a j - WX n x y m D j j (X x y m D a j) = q y j c * ind (V x y m D c j < V x y m D a j) - q y j c * ind (X x y m D c j < X x y m D a j) := by
  have hn := P.hn
  refine sm_one (f := fun b => q y j b * ind (V x y m D b j < V x y m D a j)) (g := fun b => q y j b * ind (X x y m D b j < X x y m D a j)) (by omega) (fun s t h => ?_) (fun s t h => ?_) c fun b hb => ?_
  · show q y j s * ind (V x y m D s j < _) = _
    unfold V; rw [q_per P j s t h, X_per P h, X_per P h]
  · show q y j s * ind (X x y m D s j < _) = _
    rw [q_per P j s t h, X_per P h]
  · show q y j b * ind (V x y m D b j < V x y m D a j) = q y j b * ind (X x y m D b j < X x y m D a j)
    by_cases hba : b % (n : Int) = a % (n : Int)
    · unfold V
      rw [X_per P hba, X_per P hba, ind_f (by omega), ind_f (by omega)]
    · by_cases hb' : act y b j
      · obtain ⟨s1, s2, _, _⟩ := sep P ha hb' hba
        have : X x y m D a j - X x y m D b j ≠ 0 := fun e => hb (hc b hb' hba e)
        unfold V
        by_cases h : X x y m D b j < X x y m D a j
        · rw [ind_t h, ind_t (by omega)]
        · rw [ind_f h, ind_f (by omega)]
      · rw [q_no hb', Int.zero_mul, Int.zero_mul]
end
end PArea
namespace PArea
section
variable {n : Nat} {x y m : Int → Int} {D : Int}
def K (n : Nat) (x y m : Int → Int) (D a j : Int) : Int := 2 * W n x y m D a j + q y j a
theorem pred_mod {a b c : Int} (h : (a + c) % (n : Int) = (b + c) % (n : Int)) : a % (n : Int) = b % (n : Int) := by
  have := succ_mod h (-c)
  rwa [show a + c + -c = a by omega, show b + c + -c = b by omega] at this
theorem W_topN (P : Poly n x y m D) {a j : Int} (ha : act y a j) (h1 : act y (a + 1) j → y (a + 1) ≠ j + 1) (h2 : ∀ b, (b + 1) % (n : Int) = a % (n : Int) → act y b j → y a ≠ j + 1) :
    W n x y m D a j = WX n x y m D j (j + 1) (X x y m D a (j + 1)) := by
  have := W_top P ha a (fun b hb hba e => by
    rcases (sep P ha hb hba).2.2.1 e with ⟨q1, q2⟩ | ⟨q1, q2⟩
    · exact absurd q2 (h1 ((act_per P q1).1 hb))
    · exact absurd q2 (h2 b q1 hb))
  rw [ind_f (by omega), ind_f (by omega)] at this
  omega
theorem W_botN (P : Poly n x y m D) {a j : Int} (ha : act y a j) (h1 : act y (a + 1) j → y (a + 1) ≠ j) (h2 : ∀ b, (b + 1) % (n : Int) = a % (n : Int) → act y b j → y a ≠ j) :
    W n x y m D a j = WX n x y m D j j (X x y m D a j) := by
  have := W_bot P ha a (fun b hb hba e => by
    rcases (sep P ha hb hba).2.2.2 e with ⟨q1, q2⟩ | ⟨q1, q2⟩
    · exact absurd q2 (h1 ((act_per P q1).1 hb))
    · exact absurd q2 (h2 b q1 hb))
  rw [ind_f (by omega), ind_f (by omega)] at this
  omega
theorem line1 (P : Poly n x y m D) (j T : Int) : WX n x y m D (j + 1) (j + 1) T = WX n x y m D j (j + 1) T := by
  have := line P (j + 1) T
  rwa [show j + 1 - 1 = j by omega] at this
theorem K_in (P : Poly n x y m D) {a j : Int} (h : act y a j) (h' : act y a (j + 1)) : K n x y m D a j = K n x y m D a (j + 1) := by
  have e1 := W_topN P h (fun _ => by unfold act at h h'; omega) (fun _ _ _ => by unfold act at h h'; omega)
  have e2 := W_botN P h' (fun _ => by unfold act at h h'; omega) (fun _ _ _ => by unfold act at h h'; omega)
  rw [line1 P] at e2
  have e3 : q y j a = q y (j + 1) a := by
    unfold act at h h'
    rcases Int.lt_or_le (y a) (y (a + 1)) with g | g
    · rw [q_up (by omega) (by omega), q_up (by omega) (by omega)]
    · rw [q_dn (by omega) (by omega), q_dn (by omega) (by omega)]
  unfold K
  rw [e1, e2, e3]
theorem X_end (P : Poly n x y m D) {a j : Int} (h : y (a + 1) = j) : X x y m D a j = D * x (a + 1) ∧ X x y m D (a + 1) j = D * x (a + 1) := by
  rw [← h]; exact ⟨X_hi P a, X_lo _⟩
theorem aa (a : Int) : a + 1 + 1 = a + 2 := by omega
theorem K_up (P : Poly n x y m D) {a j : Int} (hj : y (a + 1) = j + 1) (h1 : y a < y (a + 1)) (h2 : y (a + 1) < y (a + 2)) : K n x y m D a j = K n x y m D (a + 1) (j + 1) := by
  have A1 : act y a j := .inl ⟨by omega, by omega⟩
  have A2 : act y (a + 1) (j + 1) := .inl ⟨by omega, by rw [aa]; omega⟩
  have e1 := W_topN P A1 (fun h => by unfold act at h; rw [aa] at h; omega) (fun _ _ _ => by omega)
  have e2 := W_botN P A2 (fun _ => by rw [aa]; omega) (fun b hb hB => by
    have := (act_per P (pred_mod hb)).1 hB
    unfold act at this; omega)
  obtain ⟨x1, x2⟩ := X_end P hj
  rw [x1] at e1
  rw [x2, line1 P] at e2
  unfold K
  rw [e1, e2, q_up (by omega) (by omega), q_up (by omega) (by rw [aa]; omega)]
theorem K_dn (P : Poly n x y m D) {a j : Int} (hj : y (a + 1) = j + 1) (h1 : y (a + 1) < y a) (h2 : y (a + 2) < y (a + 1)) : K n x y m D a (j + 1) = K n x y m D (a + 1) j := by
  have A1 : act y a (j + 1) := .inr ⟨by omega, by omega⟩
  have A2 : act y (a + 1) j := .inr ⟨by rw [aa]; omega, by omega⟩
  have e1 := W_botN P A1 (fun h => by unfold act at h; rw [aa] at h; omega) (fun _ _ _ => by omega)
  have e2 := W_topN P A2 (fun _ => by rw [aa]; omega) (fun b hb hB => by
    have := (act_per P (pred_mod hb)).1 hB
    unfold act at this; omega)
  obtain ⟨x1, x2⟩ := X_end P hj
  rw [x1, line1 P] at e1
  rw [x2] at e2
  unfold K
  rw [e1, e2, q_dn (by omega) (by omega), q_dn (by rw [aa]; omega) (by omega)]
theorem V_ne (P : Poly n x y m D) {a b j : Int} (ha : act y a j) (hb : act y b j) (hab : b % (n : Int) ≠ a % (n : Int)) : V x y m D a j ≠ V x y m D b j := by
  obtain ⟨s1, s2, _, _⟩ := sep P ha hb hab
  unfold V; omega
theorem K_max (P : Poly n x y m D) {a j : Int} (hj : y (a + 1) = j + 1) (h1 : y a < y (a + 1)) (h2 : y (a + 2) < y (a + 1)) : K n x y m D a j = K n x y m D (a + 1) j := by
  have A1 : act y a j := .inl ⟨by omega, by omega⟩
  have A2 : act y (a + 1) j := .inr ⟨by rw [aa]; omega, by omega⟩
  have e1 := W_top P A1 (a + 1) (fun b hb hba e => by
    rcases (sep P A1 hb hba).2.2.1 e with ⟨q1, _⟩ | ⟨_, q2⟩
    · exact q1
    · omega)
  have e2 := W_top P A2 a (fun b hb hba e => by
    rcases (sep P A2 hb hba).2.2.1 e with ⟨_, q2⟩ | ⟨q1, _⟩
    · rw [aa] at q2; omega
    · exact pred_mod q1)
  obtain ⟨x1, x2⟩ := X_end P hj
  rw [x1, x2, q_dn (a := a + 1) (by rw [aa]; omega) (by omega), ind_f (show ¬ D * x (a + 1) < D * x (a + 1) by omega)] at e1
  rw [x1, x2, q_up (a := a) (by omega) (by omega), ind_f (show ¬ D * x (a + 1) < D * x (a + 1) by omega)] at e2
  have hV := V_ne P A1 A2 (fun e => next_ne P.hn a e.symm)
  unfold K
  rw [q_up (a := a) (by omega) (by omega), q_dn (a := a + 1) (by rw [aa]; omega) (by omega)]
  rcases Int.lt_or_lt_of_ne hV with g | g
  · rw [ind_f (by omega)] at e1
    rw [ind_t g] at e2
    omega
  · rw [ind_t g] at e1
    rw [ind_f (by omega)] at e2
    omega
theorem K_min (P : Poly n x y m D) {a j : Int} (hj : y (a + 1) = j) (h1 : y (a + 1) < y a) (h2 : y (a + 1) < y (a + 2)) : K n x y m D a j = K n x y m D (a + 1) j := by
  have A1 : act y a j := .inr ⟨by omega, by omega⟩
  have A2 : act y (a + 1) j := .inl ⟨by omega, by rw [aa]; omega⟩
  have e1 := W_bot P A1 (a + 1) (fun b hb hba e => by
    rcases (sep P A1 hb hba).2.2.2 e with ⟨q1, _⟩ | ⟨_, q2⟩
    · exact q1
    · omega)
  have e2 := W_bot P A2 a (fun b hb hba e => by
    rcases (sep P A2 hb hba).2.2.2 e with ⟨_, q2⟩ | ⟨q1, _⟩
    · rw [aa] at q2; omega
    · exact pred_mod q1)
  obtain ⟨x1, x2⟩ := X_end P hj
  rw [x1, x2, q_up (a := a + 1) (by omega) (by rw [aa]; omega), ind_f (show ¬ D * x (a + 1) < D * x (a + 1) by omega)] at e1
  rw [x1, x2, q_dn (a := a) (by omega) (by omega), ind_f (show ¬ D * x (a + 1) < D * x (a + 1) by omega)] at e2
  have hV := V_ne P A1 A2 (fun e => next_ne P.hn a e.symm)
  unfold K
  rw [q_dn (a := a) (by omega) (by omega), q_up (a := a + 1) (by omega) (by rw [aa]; omega)]
  rcases Int.lt_or_lt_of_ne hV with g | g
  · rw [ind_f (by omega)] at e1
    rw [ind_t g] at e2
    omega
  · rw [ind_t g] at e1
    rw [ind_f (by omega)] at e2
    omega
theorem K_add (P : Poly n x y m D) {a j : Int} : ∀ d : Nat, act y a j → act y a (j + d) → K n x y m D a j = K n x y m D a (j + d)
  | 0, _, _ => by rw [show j + ((0 : Nat) : Int) = j by omega]
  | d + 1, h, h' => by
    have hm : act y a (j + d) := by unfold act at *; omega
    rw [K_add P d h hm]
    rw [show j + ((d + 1 : Nat) : Int) = j + d + 1 by omega] at h' ⊢
    exact K_in P hm h'
theorem K_edge (P : Poly n x y m D) {a j j' : Int} (h : act y a j) (h' : act y a j') : K n x y m D a j = K n x y m D a j' := by
  rcases Int.le_total j j' with g | g
  · have := K_add P (j' - j).toNat h (by rwa [show j + ((j' - j).toNat : Int) = j' by omega])
    rwa [show j + ((j' - j).toNat : Int) = j' by omega] at this
  · have := K_add P (j - j').toNat h' (by rwa [show j' + ((j - j').toNat : Int) = j by omega])
    rw [show j' + ((j - j').toNat : Int) = j by omega] at this
    exact this.symm
theorem K_vert (P : Poly n x y m D) {a j j' : Int} (h : act y a j) (h' : act y (a + 1) j') : K n x y m D a j = K n x y m D (a + 1) j' := by
  have d1 := dy_ne P a
  have d2 := dy_ne P (a + 1)
  rw [aa] at d2
  have hj : y (a + 1) = (y (a + 1) - 1) + 1 := by omega
  rcases Int.lt_or_le (y a) (y (a + 1)) with g | g <;> rcases Int.lt_or_le (y (a + 1)) (y (a + 2)) with g' | g'
  · rw [K_edge P h (j' := y (a + 1) - 1) (.inl ⟨by omega, by omega⟩), K_edge P h' (j' := y (a + 1) - 1 + 1) (.inl ⟨by omega, by rw [aa]; omega⟩)]
    exact K_up P hj g g'
  · rw [K_edge P h (j' := y (a + 1) - 1) (.inl ⟨by omega, by omega⟩), K_edge P h' (j' := y (a + 1) - 1) (.inr ⟨by rw [aa]; omega, by omega⟩)]
    exact K_max P hj g (by omega)
  · rw [K_edge P h (j' := y (a + 1)) (.inr ⟨by omega, by omega⟩), K_edge P h' (j' := y (a + 1)) (.inl ⟨by omega, by rw [aa]; omega⟩)]
    exact K_min P rfl (by omega) g'
  · rw [K_edge P h (j' := y (a + 1) - 1 + 1) (.inr ⟨by omega, by omega⟩), K_edge P h' (j' := y (a + 1) - 1) (.inr ⟨by rw [aa]; omega, by omega⟩)]
    exact K_dn P hj (by omega) (by omega)
theorem act_some (P : Poly n x y m D) (a : Int) : act y a (min (y a) (y (a + 1))) := by
  have := dy_ne P a
  unfold act; omega
theorem K_go (P : Poly n x y m D) {a j : Int} (h : act y a j) : ∀ (d : Nat) {j' : Int}, act y (a + d) j' → K n x y m D a j = K n x y m D (a + d) j'
  | 0, j', h' => by rw [show a + ((0 : Nat) : Int) = a by omega] at h' ⊢; exact K_edge P h h'
  | d + 1, j', h' => by
    rw [K_go P h d (act_some P (a + d))]
    rw [show a + ((d + 1 : Nat) : Int) = a + d + 1 by omega] at h' ⊢
    exact K_vert P (act_some P (a + d)) h'
theorem V_per (P : Poly n x y m D) {a b : Int} (h : a % (n : Int) = b % (n : Int)) (j : Int) : V x y m D a j = V x y m D b j := by
  unfold V; rw [X_per P h, X_per P h]
theorem K_per (P : Poly n x y m D) {a b j : Int} (h : a % (n : Int) = b % (n : Int)) : K n x y m D a j = K n x y m D b j := by
  unfold K W
  rw [V_per P h, q_per P j a b h]
/-- It is the same for all edges and strips. -/
theorem K_all (P : Poly n x y m D) : ∃ κ, ∀ a j, act y a j → K n x y m D a j = κ := by
  refine ⟨K n x y m D 0 (min (y 0) (y (0 + 1))), fun a j h => ?_⟩
  have hn := P.hn
  have h0 := Int.emod_nonneg a (show (n : Int) ≠ 0 by omega)
  have e : a % (n : Int) = (0 + ((a % (n : Int)).toNat : Int)) % (n : Int) := by
    rw [Int.toNat_of_nonneg h0, Int.zero_add, Int.emod_emod]
  rw [K_per P e]
  exact (K_go P (act_some P 0) _ ((act_per P e).1 h)).symm
end
end PArea
namespace PArea
theorem sm_add {f g : Int → Int} : ∀ k, sm (fun i => f i + g i) k = sm f k + sm g k
  | 0 => rfl
  | k + 1 => by rw [sm, sm, sm, sm_add k]; omega
theorem sm_mul {f : Int → Int} (c : Int) : ∀ k, sm (fun i => c * f i) k = c * sm f k
  | 0 => by show 0 = c * 0; omega
  | k + 1 => by rw [sm, sm, sm_mul c k, Int.mul_add]
theorem exists_min {p : Nat → Prop} {v : Nat → Int} : ∀ {n : Nat}, (∃ k, k < n ∧ p k) → ∃ k, k < n ∧ p k ∧ ∀ i, i < n → p i → v k ≤ v i
  | 0, ⟨_, h, _⟩ => absurd h (Nat.not_lt_zero _)
  | n + 1, ⟨k, hk, hp⟩ => by
    by_cases h : ∃ k, k < n ∧ p k
    · obtain ⟨i, h1, h2, h3⟩ := exists_min (v := v) h
      by_cases hn : p n ∧ v n < v i
      · refine ⟨n, Nat.lt_succ_self n, hn.1, fun t ht hpt => ?_⟩
        rcases Nat.lt_succ_iff_lt_or_eq.1 ht with g | rfl
        · have := h3 t g hpt; omega
        · exact Int.le_refl _
      · refine ⟨i, by omega, h2, fun t ht hpt => ?_⟩
        rcases Nat.lt_succ_iff_lt_or_eq.1 ht with g | rfl
        · exact h3 t g hpt
        · have : ¬ v t < v i := fun g => hn ⟨hpt, g⟩
          omega
    · have e : k = n := by
        rcases Nat.lt_succ_iff_lt_or_eq.1 hk with g | g
        · exact absurd ⟨k, g, hp⟩ h
        · exact g
      subst e
      refine ⟨k, hk, hp, fun t ht hpt => ?_⟩
      rcases Nat.lt_succ_iff_lt_or_eq.1 ht with g | rfl
      · exact absurd ⟨t, g, hpt⟩ h
      · exact Int.le_refl _
section
variable {n : Nat} {x y m : Int → Int} {D : Int}
/-- Over all indices, not only those below n. -/
theorem min_all (P : Poly n x y m D) {j : Int} (p : Int → Prop) (hp : ∀ a b : Int, a % (n : Int) = b % (n : Int) → (p a ↔ p b)) (s : Int) (h : ∃ a, act y a j ∧ p a) : ∃ a, act y a j ∧ p a ∧ ∀ b, act y b j → p b → s * V x y m D a j ≤ s * V x y m D b j := by
  have hn := P.hn
  have red : ∀ a : Int, ∃ k : Nat, k < n ∧ a % (n : Int) = (k : Int) % (n : Int) := fun a => by
    have h0 := Int.emod_nonneg a (show (n : Int) ≠ 0 by omega)
    have h1 := Int.emod_lt_of_pos a (show 0 < (n : Int) by omega)
    exact ⟨(a % (n : Int)).toNat, by omega, by rw [Int.toNat_of_nonneg h0, Int.emod_emod]⟩
  obtain ⟨a, h1, h2⟩ := h
  obtain ⟨k, hk, e⟩ := red a
  obtain ⟨i, _, ⟨g1, g2⟩, g3⟩ := exists_min (p := fun k => act y (k : Int) j ∧ p (k : Int)) (v := fun k => s * V x y m D (k : Int) j) (n := n) ⟨k, hk, (act_per P e).1 h1, (hp _ _ e).1 h2⟩
  refine ⟨(i : Int), g1, g2, fun b hb hpb => ?_⟩
  obtain ⟨t, ht, e⟩ := red b
  rw [V_per P e]
  exact g3 t ht ⟨(act_per P e).1 hb, (hp _ _ e).1 hpb⟩
theorem q_one {a j : Int} (h : act y a j) : q y j a = 1 ∨ q y j a = -1 := by
  rcases h with h | h
  · exact .inl (q_up h.1 h.2)
  · exact .inr (q_dn h.1 h.2)
theorem W_low (P : Poly n x y m D) {a j : Int} (hmin : ∀ b, act y b j → V x y m D a j ≤ V x y m D b j) : W n x y m D a j = 0 := by
  unfold W
  rw [← sm_zero n]
  refine sm_cong fun i _ => ?_
  by_cases h : act y (i : Int) j
  · have := hmin _ h
    rw [ind_f (by omega), Int.mul_zero]
  · rw [q_no h, Int.zero_mul]
theorem q_sum (P : Poly n x y m D) (j : Int) : sm (q y j) n = 0 := by
  have := per_tele (n := n) (g := fun a => ind (j < y a)) (fun a b h => by show ind (j < y a) = ind (j < y b); rw [P.py a b h])
  exact this
def G (n : Nat) (x y m : Int → Int) (D j t : Int) : Int := sm (fun b => q y j b * max 0 (V x y m D b j - t)) n
def Wt (n : Nat) (x y m : Int → Int) (D j t : Int) : Int := sm (fun b => q y j b * ind (V x y m D b j ≤ t)) n
theorem G_step (P : Poly n x y m D) (j t : Int) : G n x y m D j t - G n x y m D j (t + 1) = - Wt n x y m D j t := by
  have e1 := sm_sub (f := fun b => q y j b * max 0 (V x y m D b j - t)) (g := fun b => q y j b * max 0 (V x y m D b j - (t + 1))) n
  have e2 : sm (fun b => q y j b * max 0 (V x y m D b j - t) - q y j b * max 0 (V x y m D b j - (t + 1))) n = sm (fun b => q y j b - q y j b * ind (V x y m D b j ≤ t)) n := sm_cong fun i _ => by
    rw [← Int.mul_sub]
    by_cases h : V x y m D (i : Int) j ≤ t
    · rw [ind_t h, show max 0 (V x y m D (i : Int) j - t) - max 0 (V x y m D (i : Int) j - (t + 1)) = 0 by omega]; omega
    · rw [ind_f h, show max 0 (V x y m D (i : Int) j - t) - max 0 (V x y m D (i : Int) j - (t + 1)) = 1 by omega]; omega
  have e3 := sm_sub (f := fun b => q y j b) (g := fun b => q y j b * ind (V x y m D b j ≤ t)) n
  have e4 := q_sum P j
  change sm (fun b => q y j b) n = 0 at e4
  unfold G Wt
  omega
theorem Wt_top (P : Poly n x y m D) {a j t : Int} (ha : act y a j) (hat : V x y m D a j ≤ t) (hmax : ∀ b, act y b j → V x y m D b j ≤ t → V x y m D b j ≤ V x y m D a j) : Wt n x y m D j t = W n x y m D a j + q y j a := by
  have hn := P.hn
  have := sm_one (n := n) (by omega) (f := fun b => q y j b * ind (V x y m D b j ≤ t)) (g := fun b => q y j b * ind (V x y m D b j < V x y m D a j)) (fun s u h => by
      show q y j s * ind (V x y m D s j ≤ t) = _
      rw [q_per P j s u h, V_per P h]) (fun s u h => by
      show q y j s * ind (V x y m D s j < _) = _
      rw [q_per P j s u h, V_per P h]) a (fun b hb => by
      show q y j b * ind (V x y m D b j ≤ t) = q y j b * ind (V x y m D b j < V x y m D a j)
      by_cases h : act y b j
      · have hne := V_ne P ha h hb
        by_cases g : V x y m D b j ≤ t
        · have := hmax b h g
          rw [ind_t g, ind_t (by omega)]
        · rw [ind_f g, ind_f (by omega)]
      · rw [q_no h, Int.zero_mul, Int.zero_mul])
  have this : Wt n x y m D j t - W n x y m D a j = q y j a * ind (V x y m D a j ≤ t) - q y j a * ind (V x y m D a j < V x y m D a j) := this
  rw [ind_t hat, ind_f (by omega)] at this
  omega
variable {κ : Int}
theorem κ_one (P : Poly n x y m D) (hκ : ∀ a j, act y a j → K n x y m D a j = κ) : κ = 1 ∨ κ = -1 := by
  obtain ⟨a, ha, _, hmin⟩ := min_all P (j := min (y 0) (y (0 + 1))) (fun _ => True) (fun _ _ _ => Iff.rfl) 1 ⟨0, act_some P 0, trivial⟩
  have h := hκ a _ ha
  unfold K at h
  rw [W_low P (fun b hb => by have := hmin b hb trivial; omega)] at h
  rcases q_one ha with e | e <;> omega
theorem Wt_or (P : Poly n x y m D) (hκ : ∀ a j, act y a j → K n x y m D a j = κ) (j t : Int) : Wt n x y m D j t = 0 ∨ Wt n x y m D j t = κ := by
  by_cases h : ∃ a, act y a j ∧ V x y m D a j ≤ t
  · obtain ⟨a, ha, hat, hmax⟩ := min_all P (j := j) (fun a => V x y m D a j ≤ t) (fun _ _ e => by rw [V_per P e]) (-1) h
    rw [Wt_top P ha hat (fun b hb hbt => by have := hmax b hb hbt; omega)]
    have hk := hκ a j ha
    unfold K at hk
    rcases q_one ha with e | e <;> rcases κ_one P hκ with e' | e' <;> omega
  · refine .inl ?_
    unfold Wt
    rw [← sm_zero n]
    refine sm_cong fun i _ => ?_
    by_cases h' : act y (i : Int) j
    · rw [ind_f (fun g => h ⟨_, h', g⟩), Int.mul_zero]
    · rw [q_no h', Int.zero_mul]
theorem V_bd (P : Poly n x y m D) (j : Int) : ∃ B, ∀ k : Nat, k < n → V x y m D (k : Int) j ≤ B := by
  have : ∀ r : Nat, ∃ B, ∀ k : Nat, k < r → V x y m D (k : Int) j ≤ B := fun r => by
    induction r with
    | zero => exact ⟨0, fun k h => absurd h (Nat.not_lt_zero _)⟩
    | succ r ih =>
      obtain ⟨B, hB⟩ := ih
      refine ⟨max B (V x y m D (r : Int) j), fun k hk => ?_⟩
      rcases Nat.lt_succ_iff_lt_or_eq.1 hk with g | rfl
      · have := hB k g; omega
      · omega
  exact this n
theorem G_le (P : Poly n x y m D) (hκ : ∀ a j, act y a j → K n x y m D a j = κ) (j : Int) {B : Int} (hB : ∀ k : Nat, k < n → V x y m D (k : Int) j ≤ B) : ∀ (r : Nat) (t : Int), B - t ≤ r → κ * G n x y m D j t ≤ 0
  | 0, t, h => by
    have : G n x y m D j t = 0 := by
      unfold G
      refine Eq.trans (sm_cong (g := fun _ => 0) fun i hi => ?_) (sm_zero n)
      have := hB i hi
      rw [show max 0 (V x y m D (i : Int) j - t) = 0 by omega, Int.mul_zero]
    rw [this, Int.mul_zero]; exact Int.le_refl _
  | r + 1, t, h => by
    have ih := G_le P hκ j hB r (t + 1) (by omega)
    have hs := G_step P j t
    rcases κ_one P hκ with rfl | rfl <;> rcases Wt_or P hκ j t with e | e <;> omega
def S (n : Nat) (x y m : Int → Int) (D j : Int) : Int := sm (fun b => q y j b * V x y m D b j) n
theorem S_neg (P : Poly n x y m D) (hκ : ∀ a j, act y a j → K n x y m D a j = κ) {j : Int} (h : ∃ a, act y a j) : κ * S n x y m D j < 0 := by
  obtain ⟨a, ha⟩ := h
  obtain ⟨a, ha, _, hmin⟩ := min_all P (j := j) (fun _ => True) (fun _ _ _ => Iff.rfl) 1 ⟨a, ha, trivial⟩
  have hmin : ∀ b, act y b j → V x y m D a j ≤ V x y m D b j := fun b hb => by have := hmin b hb trivial; omega
  obtain ⟨B, hB⟩ := V_bd P j
  have g1 := G_le P hκ j hB (B - (V x y m D a j + 1)).toNat (V x y m D a j + 1) (by omega)
  have hs := G_step P j (V x y m D a j)
  have hw := Wt_top P ha (Int.le_refl _) (fun b _ hb => hb)
  rw [W_low P hmin] at hw
  have hk := hκ a j ha
  unfold K at hk
  rw [W_low P hmin] at hk
  have e : G n x y m D j (V x y m D a j) = S n x y m D j := by
    have e1 := sm_sub (f := fun b => q y j b * V x y m D b j) (g := fun b => V x y m D a j * q y j b) n
    rw [sm_mul, q_sum P j, Int.mul_zero] at e1
    have e2 : G n x y m D j (V x y m D a j) = sm (fun b => q y j b * V x y m D b j - V x y m D a j * q y j b) n := by
      unfold G
      refine sm_cong fun i _ => ?_
      by_cases h : act y (i : Int) j
      · have := hmin _ h
        rw [show max 0 (V x y m D (i : Int) j - V x y m D a j) = V x y m D (i : Int) j - V x y m D a j by omega, Int.mul_sub, Int.mul_comm (V x y m D a j)]
      · rw [q_no h]; omega
    unfold S
    omega
  rw [← e]
  rcases κ_one P hκ with e' | e' <;> rw [e'] at g1 hk ⊢ <;> rcases q_one ha with e2 | e2 <;> rw [e2] at hk hw <;> omega
theorem S_zero (P : Poly n x y m D) {j : Int} (h : ¬ ∃ a, act y a j) : S n x y m D j = 0 := by
  unfold S
  rw [← sm_zero n]
  refine sm_cong fun i _ => ?_
  rw [q_no (fun g => h ⟨_, g⟩), Int.zero_mul]
def F (x y m : Int → Int) (D b Y : Int) : Int := 2 * (D * x b - m b * y b) * Y + m b * (Y * Y)
theorem F_step (b Y : Int) : F x y m D b (Y + 1) - F x y m D b Y = V x y m D b Y := by
  unfold F V X; grind
theorem F_edge (P : Poly n x y m D) (b : Int) : F x y m D b (y (b + 1)) - F x y m D b (y b) = D * ((x b + x (b + 1)) * (y (b + 1) - y b)) := by
  have := P.hm b
  unfold F; grind
theorem clip (b J y0 : Int) (h : J ≤ y0) : ∀ M : Nat, sm (fun i => ind (J + i < y0) * V x y m D b (J + i)) M = F x y m D b (min y0 (J + M)) - F x y m D b J
  | 0 => by rw [show min y0 (J + ((0 : Nat) : Int)) = J by omega]; show 0 = _; omega
  | M + 1 => by
    rw [sm, clip b J y0 h M]
    by_cases g : J + (M : Int) < y0
    · rw [ind_t g, show min y0 (J + (M : Int)) = J + M by omega, show min y0 (J + ((M + 1 : Nat) : Int)) = J + M + 1 by omega, ← F_step]; omega
    · rw [ind_f g, show min y0 (J + (M : Int)) = y0 by omega, show min y0 (J + ((M + 1 : Nat) : Int)) = y0 by omega]; omega
theorem swap (f : Int → Int → Int) (n : Nat) : ∀ M : Nat, sm (fun i => sm (fun b => f i b) n) M = sm (fun b => sm (fun i => f i b) M) n
  | 0 => by show 0 = sm (fun _ => 0) n; rw [sm_zero]
  | M + 1 => by
    rw [sm, swap f n M, ← sm_add]
    rfl
theorem total (P : Poly n x y m D) (J : Int) (M : Nat) (h : ∀ b, J ≤ y b ∧ y b ≤ J + M) : sm (fun i => S n x y m D (J + i)) M = D * sm (fun b => (x b + x (b + 1)) * (y (b + 1) - y b)) n := by
  have e : sm (fun i => S n x y m D (J + i)) M = sm (fun b => sm (fun i => q y (J + i) b * V x y m D b (J + i)) M) n := swap (fun i b => q y (J + i) b * V x y m D b (J + i)) n M
  rw [e, ← sm_mul]
  refine sm_cong fun b _ => ?_
  have h1 := clip (x := x) (y := y) (m := m) (D := D) (b : Int) J (y ((b : Int) + 1)) (h _).1 M
  have h2 := clip (x := x) (y := y) (m := m) (D := D) (b : Int) J (y (b : Int)) (h _).1 M
  rw [show min (y ((b : Int) + 1)) (J + (M : Int)) = y ((b : Int) + 1) by have := (h ((b : Int) + 1)).2; omega] at h1
  rw [show min (y (b : Int)) (J + (M : Int)) = y (b : Int) by have := (h (b : Int)).2; omega] at h2
  have h3 := sm_sub (f := fun i => ind (J + i < y ((b : Int) + 1)) * V x y m D (b : Int) (J + i)) (g := fun i => ind (J + i < y (b : Int)) * V x y m D (b : Int) (J + i)) M
  have h4 : sm (fun i => q y (J + i) (b : Int) * V x y m D (b : Int) (J + i)) M = sm (fun i => ind (J + i < y ((b : Int) + 1)) * V x y m D (b : Int) (J + i) - ind (J + i < y (b : Int)) * V x y m D (b : Int) (J + i)) M := sm_cong fun i _ => by unfold q; rw [Int.sub_mul]
  have h5 := F_edge P (b : Int)
  omega
theorem y_bd (P : Poly n x y m D) : ∃ (J : Int) (M : Nat), ∀ b, J ≤ y b ∧ y b ≤ J + M := by
  have hn := P.hn
  have : ∀ r : Nat, ∃ B : Nat, ∀ k : Nat, k < r → -(B : Int) ≤ y (k : Int) ∧ y (k : Int) ≤ B := fun r => by
    induction r with
    | zero => exact ⟨0, fun k h => absurd h (Nat.not_lt_zero _)⟩
    | succ r ih =>
      obtain ⟨B, hB⟩ := ih
      refine ⟨max B (y (r : Int)).natAbs, fun k hk => ?_⟩
      rcases Nat.lt_succ_iff_lt_or_eq.1 hk with g | rfl
      · have := hB k g; omega
      · omega
  obtain ⟨B, hB⟩ := this n
  refine ⟨-(B : Int), 2 * B, fun b => ?_⟩
  have h0 := Int.emod_nonneg b (show (n : Int) ≠ 0 by omega)
  have h1 := Int.emod_lt_of_pos b (show 0 < (n : Int) by omega)
  have := hB (b % (n : Int)).toNat (by omega)
  rw [P.py b ((b % (n : Int)).toNat : Int) (by rw [Int.toNat_of_nonneg h0, Int.emod_emod])]
  omega
theorem sum_neg {f : Int → Int} (h : ∀ i, f i ≤ 0) : ∀ {M : Nat}, sm f M ≤ 0 ∧ ∀ k : Nat, k < M → f (k : Int) < 0 → sm f M < 0
  | 0 => ⟨Int.le_refl _, fun k hk => absurd hk (Nat.not_lt_zero _)⟩
  | M + 1 => by
    obtain ⟨h1, h2⟩ := sum_neg h (M := M)
    have := h (M : Int)
    refine ⟨by rw [sm]; omega, fun k hk hf => ?_⟩
    rw [sm]
    rcases Nat.lt_succ_iff_lt_or_eq.1 hk with g | rfl
    · have := h2 k g hf; omega
    · omega
/-- Twice the area is not 0. -/
theorem area_ne (P : Poly n x y m D) : sm (fun b => x b * y (b + 1) - x (b + 1) * y b) n ≠ 0 := by
  obtain ⟨κ, hκ⟩ := K_all P
  obtain ⟨J, M, hy⟩ := y_bd P
  have hS : ∀ j, κ * S n x y m D j ≤ 0 := fun j => by
    by_cases h : ∃ a, act y a j
    · exact Int.le_of_lt (S_neg P hκ h)
    · rw [S_zero P h, Int.mul_zero]; exact Int.le_refl _
  have hneg : sm (fun i => κ * S n x y m D (J + i)) M < 0 := by
    have hd := dy_ne P 0
    have h0 := hy 0
    have h1 := hy (0 + 1)
    refine (sum_neg (f := fun i => κ * S n x y m D (J + i)) (fun i => hS _) (M := M)).2 (min (y 0) (y (0 + 1)) - J).toNat (by omega) ?_
    show κ * S n x y m D (J + ((min (y 0) (y (0 + 1)) - J).toNat : Int)) < 0
    rw [show J + ((min (y 0) (y (0 + 1)) - J).toNat : Int) = min (y 0) (y (0 + 1)) by omega]
    exact S_neg P hκ ⟨0, act_some P 0⟩
  rw [sm_mul, total P J M hy] at hneg
  intro e
  have e2 : sm (fun b => (x b + x (b + 1)) * (y (b + 1) - y b)) n = 0 := by
    have t := per_tele (n := n) (g := fun b => x b * y b) (fun a b h => by show x a * y a = x b * y b; rw [P.px a b h, P.py a b h])
    have s := sm_add (f := fun b => x b * y (b + 1) - x (b + 1) * y b) (g := fun b => x (b + 1) * y (b + 1) - x b * y b) n
    have u : sm (fun b => (x b + x (b + 1)) * (y (b + 1) - y b)) n = sm (fun b => (x b * y (b + 1) - x (b + 1) * y b) + (x (b + 1) * y (b + 1) - x b * y b)) n := sm_cong fun b _ => by grind
    change sm (fun b => x (b + 1) * y (b + 1) - x b * y b) n = 0 at t
    omega
  rw [e2, Int.mul_zero, Int.mul_zero] at hneg
  exact absurd hneg (Int.lt_irrefl _)
end
end PArea

theorem sm_P (f : Int → Int) : ∀ k, L.sm f k = PArea.sm f k
  | 0 => rfl
  | k + 1 => by rw [L.sm, PArea.sm, sm_P f k]
/-- No flat corner, in the words of thin. -/
def L.sharp (l : L.Sq L.Pt) : Prop := ∀ i, i < l.n → L.outAt L.cFlat l i = false
theorem sharp_cy {l : L.Sq L.Pt} (hn : 0 < l.n) (h : L.sharp l) (a : Int) : L.cross (L.cy l (a - 1)) (L.cy l a) (L.cy l (a + 1)) ≠ 0 := by
  have hk := ix_lt (n := l.n) (i := a) hn
  have hc := h _ hk
  have e1 : L.prev l.n (L.ix l.n a) = L.ix l.n (a - 1) := by
    rw [← ix_prev hk, show ((L.ix l.n a : Nat) : Int) - 1 = ((L.ix l.n a : Nat) : Int) + -1 by omega, ix_ix hn]; rfl
  have e2 : L.next l.n (L.ix l.n a) = L.ix l.n (a + 1) := by
    rw [← ix_next hk, ix_ix hn]
  unfold L.outAt L.cFlat at hc
  rw [e1, e2] at hc
  exact of_decide_eq_false hc
theorem cy_per {l : L.Sq L.Pt} (hn : 0 < l.n) {a b : Int} (h : a % (l.n : Int) = b % (l.n : Int)) : L.cy l a = L.cy l b := by
  have := cy_congr (l := l) hn h 0
  rwa [Int.add_zero, Int.add_zero] at this
theorem far_meet {l : L.Sq L.Pt} (h3 : 3 ≤ l.n) (hs : L.simple l = true) {a b : Int} (h : PArea.far l.n a b) : L.meet (L.cy l a) (L.cy l (a + 1)) (L.cy l b) (L.cy l (b + 1)) = 0 := by
  have := simpC_of (by omega) hs a b h.1
  rw [if_neg] at this
  · exact this
  · rintro (e | e)
    · exact h.2.2 (emod_eq_of (by rw [e, Int.emod_eq_of_lt (by omega) (by omega)])).symm
    · exact h.2.1 (emod_eq_of (by rw [e, Int.emod_eq_of_lt (by omega) (by omega)]))
theorem cross_dup (a b : L.Pt) : L.cross a b b = 0 := by unfold L.cross; rw [Int.mul_comm]; omega
theorem cross_dup2 (a b : L.Pt) : L.cross a a b = 0 := by unfold L.cross; rw [Int.sub_self, Int.sub_self, Int.zero_mul, Int.zero_mul]; rfl
theorem sharp_inj {l : L.Sq L.Pt} (h3 : 3 ≤ l.n) (hs : L.simple l = true) (hc : L.sharp l) {a b : Int} (h : L.cy l a = L.cy l b) : a % (l.n : Int) = b % (l.n : Int) := by
  have hn : 0 < l.n := by omega
  have nx : ∀ x y : Int, (x + 1) % (l.n : Int) = y % (l.n : Int) → L.cy l x ≠ L.cy l y := fun x y hxy e => by
    have := sharp_cy hn hc (x + 1)
    rw [show x + 1 - 1 = x by omega, cy_per hn hxy, ← e] at this
    exact this (cross_dup2 _ _)
  by_cases hab : a % (l.n : Int) = b % (l.n : Int)
  · exact hab
  by_cases c1 : (a + 1) % (l.n : Int) = b % (l.n : Int)
  · exact absurd h (nx a b c1)
  by_cases c2 : (b + 1) % (l.n : Int) = a % (l.n : Int)
  · exact absurd h.symm (nx b a c2)
  have hm := far_meet h3 hs (a := a) (b := b) ⟨hab, fun e => c2 e.symm, c1⟩
  exact absurd (.inl ⟨by rw [h]; exact on_left, rfl⟩) (meet_none hm (L.cy l a))
theorem cmp_sg {a b : Int} (h : a * b < 0) : L.cmp a 0 * L.cmp b 0 < 0 := by
  unfold L.cmp
  rcases Int.lt_trichotomy a 0 with h1 | h1 | h1
  · rcases Int.lt_trichotomy b 0 with h2 | h2 | h2
    · have := Int.mul_pos_of_neg_of_neg h1 h2; omega
    · rw [h2, Int.mul_zero] at h; omega
    · rw [decide_eq_true h1, decide_eq_false (show ¬ b < 0 by omega), decide_eq_true h2]; exact (by decide : (-1 : Int) * 1 < 0)
  · rw [h1, Int.zero_mul] at h; omega
  · rcases Int.lt_trichotomy b 0 with h2 | h2 | h2
    · rw [decide_eq_false (show ¬ a < 0 by omega), decide_eq_true h1, decide_eq_true h2]; exact (by decide : (1 : Int) * -1 < 0)
    · rw [h2, Int.mul_zero] at h; omega
    · have := Int.mul_pos h1 h2; omega
theorem meet_noX {a b c d : L.Pt} (h : L.meet a b c d = 0) : ¬ (L.apart a b c d = true ∧ L.apart c d a b = true) := fun ⟨h1, h2⟩ => by
  unfold L.meet at h
  rw [h1, h2] at h
  revert h
  cases decide (1 < ((L.k2 a b c d 2).n : Int)) <;> cases decide (((L.k2 a b c d 2).n : Int) = 1) <;> intro h <;> cases h
theorem mult_ex (d : Nat → Int) : ∀ r : Nat, ∃ D : Int, 0 < D ∧ ∀ k, k < r → d k ≠ 0 → d k ∣ D
  | 0 => ⟨1, by decide, fun k h => absurd h (Nat.not_lt_zero _)⟩
  | r + 1 => by
    obtain ⟨D, h1, h2⟩ := mult_ex d r
    by_cases h : d r = 0
    · refine ⟨D, h1, fun k hk hne => ?_⟩
      rcases Nat.lt_succ_iff_lt_or_eq.1 hk with g | rfl
      · exact h2 k g hne
      · exact absurd h hne
    · refine ⟨D * ((d r).natAbs : Int), Int.mul_pos h1 (by omega), fun k hk hne => ?_⟩
      rcases Nat.lt_succ_iff_lt_or_eq.1 hk with g | rfl
      · exact Int.dvd_mul_of_dvd_left (h2 k g hne)
      · exact Int.dvd_mul_of_dvd_right (Int.dvd_natAbs.2 (Int.dvd_refl _))
def L.hx (l : L.Sq L.Pt) (a : Int) : Int := (L.cy l a).x
def L.hy (l : L.Sq L.Pt) (a : Int) : Int := 8000001 * (L.cy l a).y + (L.cy l a).x
theorem cr_cross (l : L.Sq L.Pt) (a c : Int) : PArea.cr (L.hx l) (L.hy l) a c = 8000001 * L.cross (L.cy l a) (L.cy l (a + 1)) (L.cy l c) := by
  unfold PArea.cr L.hx L.hy L.cross
  grind
theorem cr_neg {p q : Int} (h : 8000001 * p * (8000001 * q) < 0) : p * q < 0 := by
  have e : 8000001 * p * (8000001 * q) = 64000016000001 * (p * q) := by grind
  omega
theorem on_of {a b c : L.Pt} (h0 : L.cross a b c = 0) (hne : a ≠ b) (ba : L.bd a) (bb : L.bd b) (bc : L.bd c) (h1 : min (8000001 * a.y + a.x) (8000001 * b.y + b.x) ≤ 8000001 * c.y + c.x) (h2 : 8000001 * c.y + c.x ≤ max (8000001 * a.y + a.x) (8000001 * b.y + b.x)) : L.on a b c = true := by
  unfold L.bd at ba bb bc
  unfold L.cross at h0
  unfold L.on L.within
  have hd : 8000001 * (b.y - a.y) + (b.x - a.x) ≠ 0 := fun e => hne (by
    have e1 : b.y = a.y := by omega
    have e2 : b.x = a.x := by omega
    cases a; cases b; simp only at e1 e2; rw [e1, e2])
  have k1 : (c.x - a.x) * (8000001 * (b.y - a.y) + (b.x - a.x)) = (b.x - a.x) * (8000001 * (c.y - a.y) + (c.x - a.x)) := by grind
  have k2 : (c.y - a.y) * (8000001 * (b.y - a.y) + (b.x - a.x)) = (b.y - a.y) * (8000001 * (c.y - a.y) + (c.x - a.x)) := by grind
  have key : ∀ u w U Wd : Int, Wd * U = u * w → U ≠ 0 → (0 ≤ w ∧ w ≤ U ∨ U ≤ w ∧ w ≤ 0) → (0 ≤ Wd ∧ Wd ≤ u ∨ u ≤ Wd ∧ Wd ≤ 0) := fun u w U Wd e hU hw => by
    have tri : ∀ U w Wd u : Int, 0 < U → 0 ≤ w → w ≤ U → Wd * U = u * w → (0 ≤ Wd ∧ Wd ≤ u ∨ u ≤ Wd ∧ Wd ≤ 0) := fun U w Wd u hU h0 h1 e => by
      rcases Int.le_total 0 u with g | g
      · refine .inl ⟨?_, ?_⟩
        · rcases Int.lt_or_le Wd 0 with q | q
          · have := Int.mul_neg_of_neg_of_pos q hU
            have := Int.mul_nonneg g h0
            omega
          · exact q
        · rcases Int.lt_or_le u Wd with q | q
          · have a1 := Int.mul_lt_mul_of_pos_right q hU
            have a2 := Int.mul_le_mul_of_nonneg_left h1 g
            omega
          · exact q
      · refine .inr ⟨?_, ?_⟩
        · rcases Int.lt_or_le Wd u with q | q
          · have a1 := Int.mul_lt_mul_of_pos_right q hU
            have a2 := Int.mul_nonneg_of_nonpos_of_nonpos g (show w - U ≤ 0 by omega)
            rw [Int.mul_sub] at a2
            omega
          · exact q
        · rcases Int.lt_or_le 0 Wd with q | q
          · have := Int.mul_pos q hU
            have := Int.mul_nonpos_of_nonpos_of_nonneg g h0
            omega
          · exact q
    rcases hw with ⟨p1, p2⟩ | ⟨p1, p2⟩
    · exact tri U w Wd u (by omega) p1 p2 e
    · exact tri (-U) (-w) Wd u (by omega) (by omega) (by omega) (by rw [Int.mul_neg, Int.mul_neg, e])
  have hr : 0 ≤ 8000001 * (c.y - a.y) + (c.x - a.x) ∧ 8000001 * (c.y - a.y) + (c.x - a.x) ≤ 8000001 * (b.y - a.y) + (b.x - a.x) ∨ 8000001 * (b.y - a.y) + (b.x - a.x) ≤ 8000001 * (c.y - a.y) + (c.x - a.x) ∧ 8000001 * (c.y - a.y) + (c.x - a.x) ≤ 0 := by omega
  have r1 := key _ _ _ _ k1 hd hr
  have r2 := key _ _ _ _ k2 hd hr
  simp only [Bool.and_eq_true, decide_eq_true_eq]
  unfold L.cross
  omega
/-- Twice the area of a simple polygon without flat corners is not 0. -/
theorem area_ne0 {l : L.Sq L.Pt} (h3 : 3 ≤ l.n) (hb : L.allBd l) (hs : L.simple l = true) (hc : L.sharp l) : L.areaTo l l.n ≠ 0 := by
  have hn : 0 < l.n := by omega
  have bd : ∀ a, L.bd (L.cy l a) := fun a => hb.2 _ (ix_lt hn)
  have hne : ∀ a b : Int, a % (l.n : Int) ≠ b % (l.n : Int) → L.hy l a ≠ L.hy l b := fun a b h e => h (sharp_inj h3 hs hc (by
    have b1 := bd a
    have b2 := bd b
    unfold L.bd at b1 b2
    unfold L.hy at e
    have e1 : (L.cy l a).y = (L.cy l b).y := by omega
    have e2 : (L.cy l a).x = (L.cy l b).x := by omega
    generalize L.cy l a = p at *
    generalize L.cy l b = r at *
    cases p; cases r; simp only at e1 e2; rw [e1, e2]))
  obtain ⟨D, hD, hdv⟩ := mult_ex (fun k => L.hy l ((k : Int) + 1) - L.hy l (k : Int)) l.n
  have dv : ∀ a : Int, (L.hy l (a + 1) - L.hy l a) ∣ D := fun a => by
    have h0 := Int.emod_nonneg a (show (l.n : Int) ≠ 0 by omega)
    have h1 := Int.emod_lt_of_pos a (show 0 < (l.n : Int) by omega)
    have e : a % (l.n : Int) = (((a % (l.n : Int)).toNat : Nat) : Int) % (l.n : Int) := by rw [Int.toNat_of_nonneg h0, Int.emod_emod]
    have q1 : L.hy l a = L.hy l (((a % (l.n : Int)).toNat : Nat) : Int) := by unfold L.hy; rw [cy_per hn e]
    have q2 : L.hy l (a + 1) = L.hy l ((((a % (l.n : Int)).toNat : Nat) : Int) + 1) := by unfold L.hy; rw [cy_per hn (PArea.succ_mod e 1)]
    rw [q1, q2]
    refine hdv _ (by omega) ?_
    have := hne _ _ (PArea.next_ne h3 (((a % (l.n : Int)).toNat : Nat) : Int))
    omega
  have P : PArea.Poly l.n (L.hx l) (L.hy l) (fun a => (L.hx l (a + 1) - L.hx l a) * (D / (L.hy l (a + 1) - L.hy l a))) D :=
    { hn := h3
      px := fun a b h => by unfold L.hx; rw [cy_per hn h]
      py := fun a b h => by unfold L.hy; rw [cy_per hn h]
      pm := fun a b h => by
        show (L.hx l (a + 1) - L.hx l a) * (D / (L.hy l (a + 1) - L.hy l a)) = (L.hx l (b + 1) - L.hx l b) * (D / (L.hy l (b + 1) - L.hy l b))
        unfold L.hx L.hy; rw [cy_per hn h, cy_per hn (PArea.succ_mod h 1)]
      hD := hD
      hm := fun a => by
        show (L.hx l (a + 1) - L.hx l a) * (D / (L.hy l (a + 1) - L.hy l a)) * (L.hy l (a + 1) - L.hy l a) = _
        rw [Int.mul_assoc, Int.ediv_mul_cancel (dv a), Int.mul_comm]
      hy := hne
      on := fun a b h c hcb hw e => by
        rw [cr_cross] at e
        have e0 : L.cross (L.cy l a) (L.cy l (a + 1)) (L.cy l c) = 0 := by omega
        have hab : L.cy l a ≠ L.cy l (a + 1) := fun e => PArea.next_ne h3 a (sharp_inj h3 hs hc e)
        have ho := on_of e0 hab (bd _) (bd _) (bd _) hw.1 hw.2
        refine meet_none (far_meet h3 hs h) (L.cy l c) ?_
        rcases hcb with rfl | rfl
        · exact .inr (.inr (.inl ⟨ho, rfl⟩))
        · exact .inr (.inr (.inr ⟨ho, rfl⟩))
      no := fun a b h ⟨g1, g2⟩ => by
        rw [cr_cross, cr_cross] at g1 g2
        exact meet_noX (far_meet h3 hs h) ⟨decide_eq_true (cmp_sg (cr_neg g1)), decide_eq_true (cmp_sg (cr_neg g2))⟩
      co := fun a e => by
        rw [cr_cross] at e
        have := sharp_cy hn hc (a + 1)
        rw [show a + 1 - 1 = a by omega, show a + 1 + 1 = a + 2 by omega] at this
        exact this (by omega) }
  have := PArea.area_ne P
  rw [area_sm (Nat.le_refl _), sm_P]
  intro e
  apply this
  have u : PArea.sm (fun b => L.hx l b * L.hy l (b + 1) - L.hx l (b + 1) * L.hy l b) l.n = PArea.sm (fun b => 8000001 * L.ct l b) l.n := PArea.sm_cong fun b _ => by
    unfold L.hx L.hy L.ct L.tm; grind
  rw [u, PArea.sm_mul]
  have e' : PArea.sm (fun b => L.ct l b) l.n = 0 := e
  rw [e']; rfl
end Go.Proofs.Ytdlhpdidgfgomaa

namespace Go.Proofs.Ytdlhpdidgfgomaa
open Go.SE Go.RowKit
set_option maxRecDepth 100000
set_option maxHeartbeats 4000000
set_option linter.unusedVariables false
attribute [local irreducible] vc
namespace Conf
variable {α : Type}
def Rot (l m : List α) : Prop := ∃ u v, l = u ++ v ∧ m = v ++ u
theorem Rot.refl (l : List α) : Rot l l := ⟨[], l, rfl, (List.append_nil l).symm⟩
theorem Rot.symm {l m : List α} : Rot l m → Rot m l := fun ⟨u, v, h1, h2⟩ => ⟨v, u, h2, h1⟩
theorem Rot.trans {l m k : List α} : Rot l m → Rot m k → Rot l k := by
  rintro ⟨u, v, rfl, rfl⟩ ⟨p, q, h, rfl⟩
  rcases List.append_eq_append_iff.1 h with ⟨a, rfl, rfl⟩ | ⟨c, rfl, rfl⟩
  · exact ⟨a, q ++ v, by simp, by simp⟩
  · exact ⟨u ++ p, c, by simp, by simp⟩
theorem Rot.len {l m : List α} : Rot l m → l.length = m.length := by
  rintro ⟨u, v, rfl, rfl⟩; simp; omega
theorem Rot.rev {l m : List α} : Rot l m → Rot l.reverse m.reverse := by
  rintro ⟨u, v, rfl, rfl⟩; exact ⟨v.reverse, u.reverse, by simp, by simp⟩
theorem Rot.mem {l m : List α} (h : Rot l m) {x : α} : x ∈ l ↔ x ∈ m := by
  obtain ⟨u, v, rfl, rfl⟩ := h; simp [or_comm]
theorem Rot.nodup {l m : List α} (h : Rot l m) (hl : l.Nodup) : m.Nodup := by
  obtain ⟨u, v, rfl, rfl⟩ := h
  exact (List.perm_append_comm.nodup_iff).1 hl
/-- Two rotations of one list without repetitions that begin alike. -/
theorem Rot.eq {l m : List α} {b : α} (h : Rot (b :: l) (b :: m)) (hd : (b :: l).Nodup) : l = m := by
  obtain ⟨u, v, h1, h2⟩ := h
  cases u with
  | nil => rw [List.nil_append] at h1; rw [← h1, List.append_nil] at h2; exact (List.cons.inj h2).2.symm
  | cons x u =>
    cases v with
    | nil => rw [List.append_nil] at h1; rw [← h1, List.nil_append] at h2; exact (List.cons.inj h2).2.symm
    | cons z v =>
      obtain ⟨e1, e2⟩ := List.cons.inj h1
      obtain ⟨e3, _⟩ := List.cons.inj h2
      rw [e2, ← e3] at hd
      simp at hd
structure Ax (F : α → α → α → Prop) : Prop where
  flip : ∀ a b c, F a b c → F c b a
  line : ∀ a b c d, F a b c → F b c d → b ≠ c → F a c d ∧ F a b d
  dup : ∀ a b, F a b b
variable {F : α → α → α → Prop}
def Step (F : α → α → α → Prop) (l m : List α) : Prop := ∃ b t, Rot l (b :: t) ∧ F (t.getLastD b) b (t.headD b) ∧ Rot t m
theorem Step.rot {l l' m m' : List α} (h : Step F l m) (hl : Rot l' l) (hm : Rot m m') : Step F l' m' := by
  obtain ⟨b, t, h1, h2, h3⟩ := h
  exact ⟨b, t, hl.trans h1, h2, h3.trans hm⟩
theorem Step.len {l m : List α} (h : Step F l m) : l.length = m.length + 1 := by
  obtain ⟨b, t, h1, _, h3⟩ := h
  rw [h1.len, ← h3.len]; rfl
theorem lastD_app (l : List α) (c b : α) (m : List α) : (l ++ c :: m).getLastD b = m.getLastD c := by
  rw [List.getLastD_eq_getLast?, List.getLastD_eq_getLast?, List.getLast?_append, List.getLast?_cons]
  rfl
theorem headD_app (u : List α) (c b : α) (v : List α) : (u ++ c :: v).headD b = u.headD c := by cases u <;> rfl
theorem Step.rev (A : Ax F) {l m : List α} (h : Step F l m) : Step F l.reverse m.reverse := by
  obtain ⟨b, t, h1, h2, h3⟩ := h
  refine ⟨b, t.reverse, (h1.rev).trans ⟨t.reverse, [b], by simp, by simp⟩, ?_, h3.rev⟩
  have e1 : t.reverse.getLastD b = t.headD b := by
    cases t with
    | nil => rfl
    | cons x t => rw [List.reverse_cons]; exact lastD_app _ _ _ _
  have e2 : t.reverse.headD b = t.getLastD b := by
    rw [List.headD_eq_head?_getD, List.head?_reverse, List.getLastD_eq_getLast?]
  rw [e1, e2]
  exact A.flip _ _ _ h2
theorem diamond (A : Ax F) {l m m' : List α} (h : Step F l m) (h' : Step F l m') : Rot m m' ∨ ∃ k, Step F m k ∧ Step F m' k := by
  obtain ⟨b, t, h1, hb, h3⟩ := h
  obtain ⟨c, s, g1, hc, g3⟩ := h'
  obtain ⟨u, v, e1, e2⟩ := h1.symm.trans g1
  cases u with
  | nil =>
    rw [List.nil_append] at e1
    rw [← e1, List.append_nil] at e2
    obtain ⟨_, rfl⟩ := List.cons.inj e2
    exact .inl (h3.symm.trans g3)
  | cons x u =>
    rw [List.cons_append] at e1
    obtain ⟨rfl, rfl⟩ := List.cons.inj e1
    cases v with
    | nil =>
      rw [List.nil_append] at e2
      obtain ⟨_, rfl⟩ := List.cons.inj e2
      rw [List.append_nil] at h3
      exact .inl (h3.symm.trans g3)
    | cons z v =>
      rw [List.cons_append] at e2
      obtain ⟨rfl, rfl⟩ := List.cons.inj e2
      rw [lastD_app, headD_app] at hb hc
      have fin : ∀ k, Step F (u ++ c :: v) k → Step F (v ++ b :: u) k → Rot m m' ∨ ∃ k, Step F m k ∧ Step F m' k := fun k p q => .inr ⟨k, p.rot h3.symm (Rot.refl _), q.rot g3.symm (Rot.refl _)⟩
      cases u with
      | nil =>
        cases v with
        | nil => exact fin [] ⟨c, [], Rot.refl _, A.dup _ _, Rot.refl _⟩ ⟨b, [], Rot.refl _, A.dup _ _, Rot.refl _⟩
        | cons z v =>
          by_cases hbc : b = c
          · subst hbc
            exact .inl (h3.symm.trans (Rot.trans ⟨[b], z :: v, rfl, rfl⟩ g3))
          · obtain ⟨f1, f2⟩ := A.line _ _ _ _ hb hc hbc
            exact fin (z :: v) ⟨c, z :: v, Rot.refl _, f1, Rot.refl _⟩ ⟨b, z :: v, ⟨z :: v, [b], rfl, rfl⟩, f2, Rot.refl _⟩
      | cons x u =>
        cases v with
        | nil =>
          by_cases hbc : b = c
          · subst hbc
            exact .inl (h3.symm.trans (Rot.trans ⟨x :: u, [b], rfl, rfl⟩ g3))
          · obtain ⟨f1, f2⟩ := A.line _ _ _ _ hc hb (fun e => hbc e.symm)
            exact fin (x :: u) ⟨c, x :: u, ⟨x :: u, [c], rfl, rfl⟩, f2, Rot.refl _⟩ ⟨b, x :: u, Rot.refl _, f1, Rot.refl _⟩
        | cons z v =>
          refine fin ((z :: v) ++ (x :: u)) ⟨c, (z :: v) ++ (x :: u), ⟨x :: u, c :: z :: v, rfl, rfl⟩, ?_, Rot.refl _⟩ ⟨b, (x :: u) ++ (z :: v), ⟨z :: v, b :: x :: u, rfl, rfl⟩, ?_, ⟨x :: u, z :: v, rfl, rfl⟩⟩
          · rw [show (x :: u).getLastD b = u.getLastD x from lastD_app [] _ _ _] at hc
            rw [lastD_app]; exact hc
          · rw [show (z :: v).getLastD c = v.getLastD z from lastD_app [] _ _ _] at hb
            rw [lastD_app]; exact hb
inductive Red (F : α → α → α → Prop) : List α → List α → Prop
  | refl {l m} : Rot l m → Red F l m
  | step {l m k} : Step F l m → Red F m k → Red F l k
theorem Red.rot {l m l' : List α} (h : Red F l m) (hl : Rot l' l) : Red F l' m := by
  cases h with
  | refl h => exact .refl (hl.trans h)
  | step h1 h2 => exact .step (h1.rot hl (Rot.refl _)) h2
theorem Red.tail {l m k : List α} (h : Red F l m) (hs : Step F m k) : Red F l k := by
  induction h with
  | refl h => exact .step (hs.rot h (Rot.refl _)) (.refl (Rot.refl _))
  | step h1 _ ih => exact .step h1 (ih hs)
theorem Red.rev (A : Ax F) {l m : List α} (h : Red F l m) : Red F l.reverse m.reverse := by
  induction h with
  | refl h => exact .refl h.rev
  | step h1 _ ih => exact .step (h1.rev A) ih
def Nf (F : α → α → α → Prop) (l : List α) : Prop := ∀ m, ¬ Step F l m
theorem push (A : Ax F) {n : List α} (hn : Nf F n) : ∀ (r : Nat) {l m : List α}, l.length ≤ r → Red F l n → Step F l m → Red F m n
  | r, l, m, hr, hl, hm => by
    cases hl with
    | refl h => exact absurd (hm.rot h.symm (Rot.refl _)) (hn m)
    | step h1 h2 =>
      rename_i p
      rcases diamond A hm h1 with h | ⟨k, k1, k2⟩
      · exact h2.rot h
      · have := h1.len
        cases r with
        | zero => omega
        | succ r => exact .step k1 (push A hn r (by omega) h2 k2)
/-- Only one list, up to rotation. -/
theorem uniq (A : Ax F) {l n n' : List α} (hn : Nf F n) (hn' : Nf F n') (h : Red F l n) (h' : Red F l n') : Rot n n' := by
  induction h' with
  | refl h1 =>
    cases h with
    | refl h2 => exact h2.symm.trans h1
    | step h2 _ => exact absurd (h2.rot h1.symm (Rot.refl _)) (hn' _)
  | step h1 _ ih => exact ih hn' (push A hn _ (Nat.le_refl _) h h1)
end Conf

open Conf in
def L.Fl (a b c : L.Pt) : Prop := L.cross a b c = 0
theorem vec0 {ex ey px py qx qy : Int} (he : ex ≠ 0 ∨ ey ≠ 0) (h1 : ex * py = ey * px) (h2 : ex * qy = ey * qx) : px * qy = py * qx := by
  rcases he with he | he
  · have : ex * (px * qy - py * qx) = 0 := by grind
    rcases Int.mul_eq_zero.1 this with h | h
    · exact absurd h he
    · omega
  · have : ey * (px * qy - py * qx) = 0 := by grind
    rcases Int.mul_eq_zero.1 this with h | h
    · exact absurd h he
    · omega
theorem ax_fl : Conf.Ax L.Fl where
  flip := fun a b c h => by unfold L.Fl L.cross at *; grind
  line := fun a b c d h1 h2 hne => by
    unfold L.Fl L.cross at *
    have he : c.x - b.x ≠ 0 ∨ c.y - b.y ≠ 0 := by
      by_cases h : c.x - b.x = 0
      · refine .inr fun h' => hne ?_
        have e1 : b.x = c.x := by omega
        have e2 : b.y = c.y := by omega
        cases b; cases c; simp only at e1 e2; rw [e1, e2]
      · exact .inl h
    have k1 : (c.x - b.x) * (a.y - b.y) = (c.y - b.y) * (a.x - b.x) := by grind
    have k2 : (c.x - b.x) * (d.y - b.y) = (c.y - b.y) * (d.x - b.x) := by grind
    have k3 := vec0 he k1 k2
    exact ⟨by grind, by grind⟩
  dup := fun a b => cross_dup a b
def L.toL (x : L.Sq L.Pt) : List L.Pt := (List.range x.n).map x.g
theorem toL_get (x : L.Sq L.Pt) (k : Nat) : (L.toL x)[k]? = if k < x.n then some (x.g k) else none := by
  unfold L.toL
  rw [List.getElem?_map]
  by_cases h : k < x.n
  · rw [if_pos h, List.getElem?_range h]; rfl
  · rw [if_neg h, List.getElem?_eq_none (by rw [List.length_range]; omega)]; rfl
theorem toL_len (x : L.Sq L.Pt) : (L.toL x).length = x.n := by unfold L.toL; rw [List.length_map, List.length_range]
theorem toL_ext {x y : L.Sq L.Pt} (h : L.toL x = L.toL y) : x.n = y.n ∧ ∀ k, k < x.n → x.g k = y.g k := by
  have hn : x.n = y.n := by rw [← toL_len, h, toL_len]
  refine ⟨hn, fun k hk => ?_⟩
  have e := toL_get x k
  rw [h, toL_get, if_pos hk, if_pos (by omega)] at e
  exact (Option.some.inj e).symm
theorem toL_split {x : L.Sq L.Pt} {u v : List L.Pt} {b : L.Pt} (h : L.toL x = u ++ b :: v) : u.length < x.n ∧ x.g u.length = b ∧ x.n = u.length + 1 + v.length ∧ (∀ k, k < u.length → u[k]? = some (x.g k)) ∧ ∀ k, k < v.length → v[k]? = some (x.g (u.length + 1 + k)) := by
  have hn := toL_len x
  rw [h, List.length_append, List.length_cons] at hn
  refine ⟨by omega, ?_, by omega, fun k hk => ?_, fun k hk => ?_⟩
  · have e := toL_get x u.length
    rw [h, List.getElem?_append_right (Nat.le_refl _), Nat.sub_self, if_pos (by omega)] at e
    exact (Option.some.inj e).symm
  · have e := toL_get x k
    rw [h, List.getElem?_append_left hk, if_pos (by omega)] at e
    exact e
  · have e := toL_get x (u.length + 1 + k)
    rw [h, List.getElem?_append_right (by omega), show u.length + 1 + k - u.length = k + 1 by omega, List.getElem?_cons_succ, if_pos (by omega)] at e
    exact e
theorem split_of {x : L.Sq L.Pt} {i : Nat} (hi : i < x.n) : ∃ u v, L.toL x = u ++ x.g i :: v ∧ u.length = i := by
  have hl : i < (L.toL x).length := by rw [toL_len]; exact hi
  refine ⟨(L.toL x).take i, (L.toL x).drop (i + 1), ?_, by rw [List.length_take]; omega⟩
  have e : (L.toL x)[i] = x.g i := by
    have := toL_get x i
    rw [if_pos hi, List.getElem?_eq_getElem hl] at this
    exact Option.some.inj this
  rw [← e, ← List.drop_eq_getElem_cons hl, List.take_append_drop]
theorem prev_at {n i : Nat} (h : i < n) : L.prev n i = if i = 0 then n - 1 else i - 1 := by
  unfold L.prev
  by_cases h0 : i = 0
  · subst h0
    rw [if_pos rfl, Int.tmod_eq_of_lt (by omega) (by omega)]
    omega
  · rw [if_neg h0, Int.tmod_eq_emod_of_nonneg (by omega), show (i : Int) + (n : Int) - 1 = ((i : Int) - 1) + n by omega, Int.add_emod_right, Int.emod_eq_of_lt (by omega) (by omega)]
    omega
theorem next_at {n i : Nat} (h : i < n) : L.next n i = if i + 1 = n then 0 else i + 1 := by
  unfold L.next
  by_cases h0 : i + 1 = n
  · rw [if_pos h0, show (i : Int) + 1 = (n : Int) by omega, Int.tmod_self]; rfl
  · rw [if_neg h0, Int.tmod_eq_of_lt (by omega) (by omega)]
    omega
theorem ends {x : L.Sq L.Pt} {u v : List L.Pt} {b : L.Pt} (h : L.toL x = u ++ b :: v) : (v ++ u).getLastD b = x.g (L.prev x.n u.length) ∧ (v ++ u).headD b = x.g (L.next x.n u.length) := by
  obtain ⟨h1, h2, h3, h4, h5⟩ := toL_split h
  constructor
  · rw [prev_at h1, List.getLastD_eq_getLast?, List.getLast?_append]
    by_cases hu : u.length = 0
    · rw [if_pos hu]
      obtain rfl := List.eq_nil_of_length_eq_zero hu
      rw [List.getLast?_nil, Option.none_or, List.getLast?_eq_getElem?]
      by_cases hv : v.length = 0
      · obtain rfl := List.eq_nil_of_length_eq_zero hv
        show b = _
        rw [← h2]; congr 1; simp at h3 ⊢; omega
      · rw [h5 _ (by omega)]
        show x.g _ = x.g _
        congr 1; simp; omega
    · rw [if_neg hu, List.getLast?_eq_getElem? (l := u), h4 _ (by omega)]
      rfl
  · rw [next_at h1]
    cases v with
    | nil =>
      rw [if_pos (by simp at h3; omega), List.nil_append]
      cases u with
      | nil => exact h2.symm
      | cons z u =>
        have := h4 0 (by simp)
        exact Option.some.inj this
    | cons z v =>
      rw [if_neg (by simp at h3; omega)]
      exact Option.some.inj (h5 0 (by simp))
theorem toL_del {x : L.Sq L.Pt} {u v : List L.Pt} {b : L.Pt} (h : L.toL x = u ++ b :: v) : L.toL ⟨x.n - 1, L.delF x.g u.length x.n⟩ = u ++ v := by
  obtain ⟨h1, h2, h3, h4, h5⟩ := toL_split h
  refine List.ext_getElem? fun k => ?_
  rw [toL_get]
  show (if k < x.n - 1 then some (L.delF x.g u.length x.n k) else none) = _
  by_cases hk : k < x.n - 1
  · rw [if_pos hk]
    unfold L.delF
    by_cases hu : k < u.length
    · rw [decide_eq_true hu, List.getElem?_append_left hu, h4 k hu]; rfl
    · rw [decide_eq_false hu, decide_eq_true (show k + 1 < x.n by omega), List.getElem?_append_right (by omega), h5 _ (by omega), show u.length + 1 + (k - u.length) = k + 1 by omega]; rfl
  · rw [if_neg hk, List.getElem?_eq_none (by rw [List.length_append]; omega)]
open Conf
theorem out_step {c : L.Pt → L.Pt → L.Pt → Bool} (hc : ∀ a b d, c a b d = true → L.Fl a b d) {x : L.Sq L.Pt} {i : Nat} (hi : i < x.n) (h : L.outAt c x i = true) : Step L.Fl (L.toL x) (L.toL ⟨x.n - 1, L.delF x.g i x.n⟩) := by
  obtain ⟨u, v, e, hu⟩ := split_of hi
  obtain ⟨e1, e2⟩ := ends e
  have e3 := toL_del e
  rw [hu] at e1 e2 e3
  refine ⟨x.g i, v ++ u, ⟨u, x.g i :: v, e, rfl⟩, ?_, ?_⟩
  · rw [e1, e2]; exact hc _ _ _ h
  · rw [e3]; exact ⟨v, u, rfl, rfl⟩
theorem sharp_nf {x : L.Sq L.Pt} (h : L.sharp x) : Nf L.Fl (L.toL x) := by
  rintro m ⟨b, t, ⟨u, v, h1, h2⟩, h3, _⟩
  have fin : ∀ u v : List L.Pt, L.toL x = u ++ b :: v → t = v ++ u → False := fun u v e1 e2 => by
    obtain ⟨s1, s2, _, _, _⟩ := toL_split e1
    obtain ⟨p1, p2⟩ := ends e1
    rw [← e2] at p1 p2
    have := h _ s1
    unfold L.outAt L.cFlat at this
    rw [s2, ← p1, ← p2] at this
    exact of_decide_eq_false this h3
  cases v with
  | nil =>
    rw [List.append_nil] at h1
    rw [List.nil_append] at h2
    exact fin [] t (by rw [h1, ← h2]; rfl) (List.append_nil _).symm
  | cons z v =>
    rw [List.cons_append] at h2
    obtain ⟨rfl, rfl⟩ := List.cons.inj h2
    exact fin u v h1 rfl
theorem thin_red {c : L.Pt → L.Pt → L.Pt → Bool} (hc : ∀ a b d, c a b d = true → L.Fl a b d) (x : L.Sq L.Pt) : Red L.Fl (L.toL x) (L.toL (L.thin c x)) :=
  thin_ind (Q := fun y => Red L.Fl (L.toL x) (L.toL y)) (fun _ _ h hi he => h.tail (out_step hc hi he)) (.refl (Rot.refl _))
theorem thinF_out {c : L.Pt → L.Pt → L.Pt → Bool} : ∀ (k : Nat) (x : L.Sq L.Pt), x.n ≤ k → ∀ i, i < (L.thinF c k x).n → L.outAt c (L.thinF c k x) i = false
  | 0, x, h, i, hi => by
    have hi : i < x.n := hi
    omega
  | k + 1, x, h, i, hi => by
    revert hi
    show i < (bif decide (0 ≤ L.idx x.n (L.outAt c x)) then L.thinF c k ⟨x.n - 1, L.delF x.g (L.idx x.n (L.outAt c x)).toNat x.n⟩ else x).n → L.outAt c (bif decide (0 ≤ L.idx x.n (L.outAt c x)) then L.thinF c k ⟨x.n - 1, L.delF x.g (L.idx x.n (L.outAt c x)).toNat x.n⟩ else x) i = false
    rcases idx_cases (f := L.outAt c x) (n := x.n) with ⟨h1, h2⟩ | ⟨p, h1, h2, h3, _⟩
    · rw [h1]; exact fun hi => h2 i hi
    · rw [h2, decide_eq_true (show (0 : Int) ≤ (p : Int) by omega), cond_true]
      exact fun hi => thinF_out k _ (by show x.n - 1 ≤ k; omega) i hi
theorem dup_fl : ∀ a b d, L.cDup a b d = true → L.Fl a b d := fun a b d h => by
  have : b = d := same_eq h
  subst this
  exact cross_dup _ _
theorem flat_fl : ∀ a b d, L.cFlat a b d = true → L.Fl a b d := fun a b d h => of_decide_eq_true (p := L.cross a b d = 0) h
theorem red_trans {l m k : List L.Pt} (h : Red L.Fl l m) (h' : Red L.Fl m k) : Red L.Fl l k := by
  induction h with
  | refl h => exact h'.rot h
  | step h1 _ ih => exact .step h1 (ih h')
theorem str_red (x : L.Sq L.Pt) : Red L.Fl (L.toL x) (L.toL (L.str x)) := red_trans (thin_red dup_fl x) (thin_red flat_fl _)
theorem str_sharp (x : L.Sq L.Pt) : L.sharp (L.str x) := fun i hi => thinF_out _ _ (Nat.le_refl _) i hi
/-- The straight rest is the only one, up to rotation. -/
theorem str_uniq {x y : L.Sq L.Pt} (h : Red L.Fl (L.toL x) (L.toL y)) (hy : L.sharp y) : Rot (L.toL (L.str x)) (L.toL y) :=
  uniq ax_fl (sharp_nf (str_sharp x)) (sharp_nf hy) (str_red x) h
theorem str_rot {x y : L.Sq L.Pt} (h : Rot (L.toL x) (L.toL y)) : Rot (L.toL (L.str x)) (L.toL (L.str y)) :=
  str_uniq ((str_red y).rot h) (str_sharp y)
theorem toL_rev (x : L.Sq L.Pt) : L.toL (L.revG x) = (L.toL x).reverse := by
  refine List.ext_getElem? fun k => ?_
  rw [toL_get]
  show (if k < x.n then some (x.g (x.n - 1 - k)) else none) = _
  by_cases h : k < x.n
  · rw [if_pos h, List.getElem?_reverse (by rw [toL_len]; exact h), toL_get, toL_len, if_pos (by omega)]
  · rw [if_neg h, List.getElem?_eq_none (by rw [List.length_reverse, toL_len]; omega)]
theorem str_rotR {x y : L.Sq L.Pt} (h : Rot (L.toL x).reverse (L.toL y)) : Rot (L.toL (L.str x)).reverse (L.toL (L.str y)) := by
  have h1 := (str_red x).rev ax_fl
  have n1 : Nf L.Fl (L.toL (L.str x)).reverse := fun m hm => by
    have := hm.rev ax_fl
    rw [List.reverse_reverse] at this
    exact sharp_nf (str_sharp x) _ this
  exact uniq ax_fl n1 (sharp_nf (str_sharp y)) h1 ((str_red y).rot h)
end Go.Proofs.Ytdlhpdidgfgomaa

namespace Go.Proofs.Ytdlhpdidgfgomaa
open Go.SE Go.RowKit
set_option maxRecDepth 100000
set_option maxHeartbeats 4000000
set_option linter.unusedVariables false
attribute [local irreducible] vc
open Conf
theorem sm_congr {f g : Int → Int} (h : ∀ i, f i = g i) : ∀ k, L.sm f k = L.sm g k
  | 0 => rfl
  | k + 1 => by rw [L.sm, L.sm, sm_congr h k, h]
theorem sm_left {f : Int → Int} : ∀ k, L.sm f (k + 1) = f 0 + L.sm (fun i => f (i + 1)) k
  | 0 => by show 0 + f 0 = f 0 + 0; omega
  | k + 1 => by
    rw [L.sm, sm_left k]
    show f 0 + L.sm (fun i => f (i + 1)) k + f ((k + 1 : Nat) : Int) = f 0 + (L.sm (fun i => f (i + 1)) k + f ((k : Int) + 1))
    rw [show ((k + 1 : Nat) : Int) = (k : Int) + 1 by omega]
    omega
theorem sm_rev {f : Int → Int} : ∀ k : Nat, L.sm (fun i => f ((k : Int) - 1 - i)) k = L.sm f k
  | 0 => rfl
  | k + 1 => by
    rw [sm_left, L.sm]
    have e : L.sm (fun i => f (((k + 1 : Nat) : Int) - 1 - (i + 1))) k = L.sm (fun i => f ((k : Int) - 1 - i)) k := sm_congr (fun i => by rw [show ((k + 1 : Nat) : Int) - 1 - (i + 1) = (k : Int) - 1 - i by omega]) k
    rw [e, sm_rev k, show ((k + 1 : Nat) : Int) - 1 - 0 = (k : Int) by omega]
    omega
theorem sm_neg {f : Int → Int} : ∀ k, L.sm (fun i => - f i) k = - L.sm f k
  | 0 => rfl
  | k + 1 => by rw [L.sm, L.sm, sm_neg k]; omega
theorem ix_neg {n : Nat} (hn : 0 < n) (a : Int) : n - 1 - L.ix n a = L.ix n (-1 - a) := by
  have h1 := ix_emod (a := a) hn
  have h2 := ix_emod (a := -1 - a) hn
  have h3 := ix_lt (n := n) (i := a) hn
  have h4 : (-1 - a) % (n : Int) = (n : Int) - 1 - ((L.ix n a : Nat) : Int) := by
    rw [h1]
    have e : (-1 - a) % (n : Int) = ((n : Int) - 1 - a % (n : Int)) % (n : Int) := by
      rw [Int.sub_emod (n - 1 : Int) (a % (n : Int)), Int.emod_emod, ← Int.sub_emod, show (n : Int) - 1 - a = -1 - a + n by omega, Int.add_emod_right]
    rw [e, Int.emod_eq_of_lt (by omega) (by omega)]
  omega

theorem rot_cy {x y : L.Sq L.Pt} (hn : 0 < x.n) (h : Rot (L.toL x) (L.toL y)) : y.n = x.n ∧ ∃ c : Nat, ∀ a, L.cy y a = L.cy x (a + c) := by
  have en : y.n = x.n := by rw [← toL_len, ← toL_len x, h.len]
  refine ⟨en, ?_⟩
  obtain ⟨u, v, h1, h2⟩ := h
  have lx := toL_len x
  rw [h1, List.length_append] at lx
  refine ⟨u.length, fun a => ?_⟩
  have key : ∀ k : Nat, k < x.n → y.g k = L.cy x ((k : Int) + u.length) := fun k hk => by
    have e := toL_get y k
    rw [h2, if_pos (by omega)] at e
    by_cases hv : k < v.length
    · rw [List.getElem?_append_left hv] at e
      have e' := toL_get x (u.length + k)
      rw [h1, List.getElem?_append_right (by omega), show u.length + k - u.length = k by omega, if_pos (by omega), e] at e'
      rw [Option.some.inj e', show (k : Int) + (u.length : Int) = ((u.length + k : Nat) : Int) by omega, cy_nat (by omega)]
    · rw [List.getElem?_append_right (by omega)] at e
      have e' := toL_get x (k - v.length)
      rw [h1, List.getElem?_append_left (by omega), if_pos (by omega), e] at e'
      rw [Option.some.inj e', cy_per (l := x) hn (a := (k : Int) + u.length) (b := ((k - v.length : Nat) : Int)) (by
        rw [show (k : Int) + (u.length : Int) = ((k - v.length : Nat) : Int) + x.n by omega, Int.add_emod_right]), cy_nat (by omega)]
  have hk := ix_lt (n := x.n) (i := a) hn
  have := key _ hk
  rw [cy_ix hn] at this
  rw [← this]
  unfold L.cy
  rw [en]
theorem rev_cy {x : L.Sq L.Pt} (hn : 0 < x.n) (a : Int) : L.cy (L.revG x) a = L.cy x (-1 - a) := by
  show x.g (x.n - 1 - L.ix x.n a) = x.g (L.ix x.n (-1 - a))
  rw [ix_neg hn]
theorem ct_perP {x : L.Sq L.Pt} (hn : 0 < x.n) : PArea.per x.n (L.ct x) := fun a b h => by
  unfold L.ct; rw [cy_per hn h, cy_per hn (PArea.succ_mod h 1)]
theorem area_rot {x y : L.Sq L.Pt} (hn : 0 < x.n) (h : Rot (L.toL x) (L.toL y)) : L.areaTo y y.n = L.areaTo x x.n := by
  obtain ⟨e, c, hc⟩ := rot_cy hn h
  rw [area_sm (Nat.le_refl _), area_sm (Nat.le_refl _), e, sm_P, sm_P, ← PArea.sm_shift c (ct_perP hn)]
  refine PArea.sm_cong fun i _ => ?_
  unfold L.ct
  rw [hc, hc, show (i : Int) + 1 + (c : Int) = i + c + 1 by omega]
theorem area_rev {x : L.Sq L.Pt} (hn : 0 < x.n) : L.areaTo (L.revG x) x.n = - L.areaTo x x.n := by
  rw [show L.areaTo (L.revG x) x.n = L.sm (L.ct (L.revG x)) x.n from area_sm (l := L.revG x) (Nat.le_refl _), area_sm (Nat.le_refl _), ← sm_neg]
  have e1 : ∀ a, L.ct (L.revG x) a = - L.ct x (-2 - a) := fun a => by
    unfold L.ct
    rw [rev_cy hn, rev_cy hn, show -1 - (a + 1) = -2 - a by omega, show -2 - a + 1 = -1 - a by omega]
    unfold L.tm; omega
  rw [sm_congr e1, ← sm_rev (f := fun i => - L.ct x (-2 - i))]
  have e2 : ∀ i : Int, - L.ct x (-2 - ((x.n : Int) - 1 - i)) = - L.ct x (i + ((x.n - 1 : Nat) : Int)) := fun i => by
    rw [ct_perP hn (-2 - ((x.n : Int) - 1 - i)) (i + ((x.n - 1 : Nat) : Int)) (by
      rw [show i + ((x.n - 1 : Nat) : Int) = -2 - ((x.n : Int) - 1 - i) + x.n + x.n by omega, Int.add_emod_right, Int.add_emod_right])]
  rw [sm_congr e2, sm_neg, sm_neg, sm_P, sm_P, PArea.sm_shift _ (ct_perP hn)]
theorem simple_rot {x y : L.Sq L.Pt} (hn : 0 < x.n) (hs : L.simple x = true) (h : Rot (L.toL x) (L.toL y)) : L.simple y = true := by
  obtain ⟨e, c, hc⟩ := rot_cy hn h
  refine simple_of fun a b hab => ?_
  rw [e] at hab ⊢
  have := simpC_of hn hs (a + c) (b + c) (fun h => hab (PArea.pred_mod h))
  rw [hc, hc, hc, hc, show a + 1 + (c : Int) = a + c + 1 by omega, show b + 1 + (c : Int) = b + c + 1 by omega, this, show b + (c : Int) - (a + c) = b - a by omega, show a + (c : Int) - (b + c) = a - b by omega]
theorem simple_rev {x : L.Sq L.Pt} (hn : 0 < x.n) (hs : L.simple x = true) : L.simple (L.revG x) = true := by
  refine simple_of fun a b hab => ?_
  have hab : a % (x.n : Int) ≠ b % (x.n : Int) := hab
  show _ = if (b - a) % (x.n : Int) = 1 ∨ (a - b) % (x.n : Int) = 1 then (1 : Int) else 0
  have := simpC_of hn hs (-2 - a) (-2 - b) (fun h => hab (by
    have e1 := PArea.succ_mod h (a + b + 2)
    rw [show -2 - a + (a + b + 2) = b by omega, show -2 - b + (a + b + 2) = a by omega] at e1
    exact e1.symm))
  rw [rev_cy hn, rev_cy hn, rev_cy hn, rev_cy hn, meet_rev2, show -1 - (a + 1) = -2 - a by omega, show -1 - (b + 1) = -2 - b by omega, show -1 - a = -2 - a + 1 by omega, show -1 - b = -2 - b + 1 by omega, this, show -2 - b - (-2 - a) = a - b by omega, show -2 - a - (-2 - b) = b - a by omega]
  by_cases c : (b - a) % (x.n : Int) = 1 ∨ (a - b) % (x.n : Int) = 1
  · rw [if_pos c, if_pos c.symm]
  · rw [if_neg c, if_neg (fun h => c h.symm)]
theorem sharp_of {x : L.Sq L.Pt} (h : ∀ a, L.cross (L.cy x (a - 1)) (L.cy x a) (L.cy x (a + 1)) ≠ 0) : L.sharp x := fun i hi => by
  have := h (i : Int)
  rw [cy_nat hi, cy_next hi, show L.cy x ((i : Int) - 1) = x.g (L.prev x.n i) by unfold L.cy; rw [ix_prev hi]] at this
  exact decide_eq_false this
theorem sharp_rot {x y : L.Sq L.Pt} (hn : 0 < x.n) (hc : L.sharp x) (h : Rot (L.toL x) (L.toL y)) : L.sharp y := by
  obtain ⟨e, c, hc'⟩ := rot_cy hn h
  refine sharp_of fun a => ?_
  have := sharp_cy hn hc (a + c)
  rwa [hc', hc', hc', show a - 1 + (c : Int) = a + c - 1 by omega, show a + 1 + (c : Int) = a + c + 1 by omega]
theorem sharp_rev {x : L.Sq L.Pt} (hn : 0 < x.n) (hc : L.sharp x) : L.sharp (L.revG x) := by
  refine sharp_of fun a => ?_
  have := sharp_cy hn hc (-1 - a)
  rw [rev_cy hn, rev_cy hn, rev_cy hn, show -1 - (a - 1) = -1 - a + 1 by omega, show -1 - (a + 1) = -1 - a - 1 by omega]
  exact fun h => this (ax_fl.flip _ _ _ h)
theorem mem_toL {x : L.Sq L.Pt} {p : L.Pt} : p ∈ L.toL x ↔ ∃ k, k < x.n ∧ x.g k = p := by
  unfold L.toL
  rw [List.mem_map]
  exact ⟨fun ⟨k, h1, h2⟩ => ⟨k, List.mem_range.1 h1, h2⟩, fun ⟨k, h1, h2⟩ => ⟨k, List.mem_range.2 h1, h2⟩⟩
theorem nodup_toL {x : L.Sq L.Pt} (h3 : 3 ≤ x.n) (hs : L.simple x = true) (hc : L.sharp x) : (L.toL x).Nodup := by
  unfold L.toL List.Nodup
  rw [List.pairwise_map]
  refine List.Pairwise.imp_of_mem (R := fun a b => a < b) (fun {a b} ha hb hab e => ?_) List.pairwise_lt_range
  rw [List.mem_range] at ha hb
  have := sharp_inj h3 hs hc (a := (a : Int)) (b := (b : Int)) (by rw [cy_nat ha, cy_nat hb, e])
  rw [Int.emod_eq_of_lt (by omega) (by omega), Int.emod_eq_of_lt (by omega) (by omega)] at this
  omega
theorem norm_rot {x : L.Sq L.Pt} (h1 : 1 ≤ x.n) : Rot (L.toL (L.flip x)) (L.toL (L.norm x)) ∧ (L.norm x).g 0 = L.minTo (L.flip x) (x.n - 1) := by
  have hf := flip_n x
  obtain ⟨i, k1, k2, k3⟩ := minIdx (l := L.flip x) (by omega)
  have hK : L.minK (L.flip x) = i := by unfold L.minK; rw [k2]; rfl
  rw [hf] at k1 k3
  constructor
  · refine ⟨(L.toL (L.flip x)).take i, (L.toL (L.flip x)).drop i, (List.take_append_drop _ _).symm, ?_⟩
    have lf := toL_len (L.flip x)
    refine List.ext_getElem? fun k => ?_
    rw [toL_get]
    show (if k < x.n then some ((L.rot (L.flip x) (L.minK (L.flip x))).g k) else none) = _
    rw [hK]
    by_cases hk : k < x.n
    · rw [if_pos hk]
      show some (bif decide (k < (L.flip x).n - i) then (L.flip x).g (i + k) else (L.flip x).g (k - ((L.flip x).n - i))) = _
      by_cases hd : k < (L.flip x).n - i
      · rw [decide_eq_true hd, List.getElem?_append_left (by rw [List.length_drop]; omega), List.getElem?_drop, toL_get, if_pos (by omega)]; rfl
      · rw [decide_eq_false hd, List.getElem?_append_right (by rw [List.length_drop]; omega), List.getElem?_take, List.length_drop, lf, if_pos (by omega), toL_get, if_pos (by omega)]; rfl
    · rw [if_neg hk, List.getElem?_eq_none (by rw [List.length_append, List.length_drop, List.length_take]; omega)]
  · show (L.rot (L.flip x) (L.minK (L.flip x))).g 0 = _
    rw [hK]
    show (bif decide (0 < (L.flip x).n - i) then (L.flip x).g (i + 0) else (L.flip x).g (0 - ((L.flip x).n - i))) = _
    rw [decide_eq_true (by omega), Nat.add_zero, ← k3]; rfl
theorem cmp_anti {a b : L.Pt} (h1 : ¬ L.cmpPt a b < 0) (h2 : ¬ L.cmpPt b a < 0) : a = b := by
  rw [cmpPt_lt] at h1 h2
  have e1 : a.x = b.x := by omega
  have e2 : a.y = b.y := by omega
  cases a; cases b; simp only at e1 e2; rw [e1, e2]
theorem min_mem {x : L.Sq L.Pt} (h1 : 1 ≤ x.n) {p : L.Pt} (hp : p ∈ L.toL x) : ¬ L.cmpPt p (L.minTo x (x.n - 1)) < 0 := by
  obtain ⟨k, hk, rfl⟩ := mem_toL.1 hp
  exact minTo_le (by omega)
/-- Equal up to rotation when flipped: the same normal form. -/
theorem norm_eq {x y : L.Sq L.Pt} (h1 : 1 ≤ x.n) (hd : (L.toL (L.flip x)).Nodup) (h : Rot (L.toL (L.flip x)) (L.toL (L.flip y))) : L.toL (L.norm x) = L.toL (L.norm y) := by
  have hxy : x.n = y.n := by
    have := h.len
    rwa [toL_len, toL_len, flip_n, flip_n] at this
  obtain ⟨rx, mx⟩ := norm_rot (x := x) h1
  obtain ⟨ry, my⟩ := norm_rot (x := y) (by omega)
  have r := rx.symm.trans (h.trans ry)
  have hx : ∃ l, L.toL (L.norm x) = (L.norm x).g 0 :: l := by
    obtain ⟨u, v, e, hu⟩ := split_of (x := L.norm x) (i := 0) h1
    obtain rfl := List.eq_nil_of_length_eq_zero hu
    exact ⟨v, e⟩
  have hy : ∃ l, L.toL (L.norm y) = (L.norm y).g 0 :: l := by
    obtain ⟨u, v, e, hu⟩ := split_of (x := L.norm y) (i := 0) (show 0 < y.n by omega)
    obtain rfl := List.eq_nil_of_length_eq_zero hu
    exact ⟨v, e⟩
  obtain ⟨l, el⟩ := hx
  obtain ⟨m, em⟩ := hy
  have a1 : (L.norm y).g 0 ∈ L.toL (L.flip x) := (h.trans ry).mem.2 (by rw [em]; exact List.mem_cons_self)
  have a2 : (L.norm x).g 0 ∈ L.toL (L.flip y) := (h.symm.trans rx).mem.2 (by rw [el]; exact List.mem_cons_self)
  have b1 := min_mem (x := L.flip x) (by rw [flip_n]; exact h1) a1
  have b2 := min_mem (x := L.flip y) (by rw [flip_n]; omega) a2
  rw [flip_n, ← mx] at b1
  rw [flip_n, ← my] at b2
  have e0 := cmp_anti b2 b1
  rw [el, em, e0] at r ⊢
  rw [r.eq (by
    have := rx.nodup hd
    rwa [el, e0] at this)]
end Go.Proofs.Ytdlhpdidgfgomaa

namespace Go.Proofs.Ytdlhpdidgfgomaa
open Go.SE Go.RowKit
set_option maxRecDepth 100000
set_option maxHeartbeats 4000000
set_option linter.unusedVariables false
attribute [local irreducible] vc

open Conf
def L.good (x : L.Sq L.Pt) : Prop := 3 ≤ x.n ∧ x.n ≤ 24 ∧ L.validPts x = true ∧ L.simple x = true ∧ L.sharp x
theorem valid_mem {x : L.Sq L.Pt} : L.validPts x = true ↔ ∀ p, p ∈ L.toL x → L.validPt p = true := by
  unfold L.validPts
  rw [allB_iff]
  exact ⟨fun h p hp => by obtain ⟨k, hk, rfl⟩ := mem_toL.1 hp; exact h k hk, fun h k hk => h _ (mem_toL.2 ⟨k, hk, rfl⟩)⟩
theorem good_rot {x y : L.Sq L.Pt} (h : L.good x) (r : Rot (L.toL x) (L.toL y)) : L.good y := by
  obtain ⟨h1, h2, h3, h4, h5⟩ := h
  have e : x.n = y.n := by have := r.len; rwa [toL_len, toL_len] at this
  exact ⟨by omega, by omega, valid_mem.2 (fun p hp => valid_mem.1 h3 p (r.mem.2 hp)), simple_rot (by omega) h4 r, sharp_rot (by omega) h5 r⟩
theorem good_rev {x : L.Sq L.Pt} (h : L.good x) : L.good (L.revG x) := by
  obtain ⟨h1, h2, h3, h4, h5⟩ := h
  refine ⟨h1, h2, valid_mem.2 (fun p hp => valid_mem.1 h3 p ?_), simple_rev (by omega) h4, sharp_rev (by omega) h5⟩
  rw [toL_rev] at hp
  exact List.mem_reverse.1 hp
theorem good_bd {x : L.Sq L.Pt} (h : L.good x) : L.allBd x := small_of_valid (by have := h.2.1; omega) h.2.2.1
theorem good_area {x : L.Sq L.Pt} (h : L.good x) : L.areaTo x x.n ≠ 0 := area_ne0 h.1 (good_bd h) h.2.2.2.1 h.2.2.2.2
theorem flip_or (x : L.Sq L.Pt) : (L.areaTo x x.n < 0 ∧ L.flip x = L.revG x) ∨ (¬ L.areaTo x x.n < 0 ∧ L.flip x = x) := by
  by_cases h : L.areaTo x x.n < 0
  · exact .inl ⟨h, flip_neg (decide_eq_true h)⟩
  · exact .inr ⟨h, flip_pos (decide_eq_false h)⟩
theorem good_flip {x : L.Sq L.Pt} (h : L.good x) : L.good (L.flip x) := by
  rcases flip_or x with ⟨_, e⟩ | ⟨_, e⟩ <;> rw [e]
  · exact good_rev h
  · exact h
theorem area_flip {x : L.Sq L.Pt} (h : L.good x) : 0 < L.areaTo (L.flip x) (L.flip x).n := by
  have hne := good_area h
  have h3 := h.1
  rcases flip_or x with ⟨g, e⟩ | ⟨g, e⟩ <;> rw [e]
  · show 0 < L.areaTo (L.revG x) x.n
    rw [area_rev (by omega)]; omega
  · omega
theorem good_norm {x : L.Sq L.Pt} (h : L.good x) : L.good (L.norm x) := good_rot (good_flip h) (norm_rot (by have := h.1; omega)).1
theorem area_norm {x : L.Sq L.Pt} (h : L.good x) : 0 < L.areaTo (L.norm x) (L.norm x).n := by
  have h3 := h.1
  rw [area_rot (by rw [flip_n]; omega) (norm_rot (x := x) (by omega)).1]
  exact area_flip h
theorem flip_norm {x : L.Sq L.Pt} (h : L.good x) : L.flip (L.norm x) = L.norm x := flip_pos (decide_eq_false (by have := area_norm h; omega))
theorem nodup_good {x : L.Sq L.Pt} (h : L.good x) : (L.toL x).Nodup := nodup_toL h.1 h.2.2.2.1 h.2.2.2.2
theorem norm_norm {x : L.Sq L.Pt} (h : L.good x) : L.toL (L.norm (L.norm x)) = L.toL (L.norm x) := by
  have h3 := h.1
  refine norm_eq (x := L.norm x) (y := x) (show 1 ≤ x.n by omega) (nodup_good (good_flip (good_norm h))) ?_
  rw [flip_norm h]
  exact (norm_rot (by omega)).1.symm
/-- One normal form for what is equal up to rotation and sense. -/
theorem norm_same {x y : L.Sq L.Pt} (hx : L.good x) (h : Rot (L.toL x) (L.toL y) ∨ Rot (L.toL x).reverse (L.toL y)) : L.toL (L.norm x) = L.toL (L.norm y) := by
  have h3 := hx.1
  refine norm_eq (by omega) (nodup_good (good_flip hx)) ?_
  have hne := good_area hx
  rcases h with h | h
  · have ha := area_rot (by omega) h
    rcases flip_or x with ⟨g, e⟩ | ⟨g, e⟩ <;> rcases flip_or y with ⟨g', e'⟩ | ⟨g', e'⟩ <;> rw [e, e']
    · rw [toL_rev, toL_rev]; exact h.rev
    · omega
    · omega
    · exact h
  · have ha : L.areaTo y y.n = - L.areaTo x x.n := by
      rw [← area_rev (by omega)]
      rw [← toL_rev] at h
      exact area_rot (x := L.revG x) (by show 0 < x.n; omega) h
    rcases flip_or x with ⟨g, e⟩ | ⟨g, e⟩ <;> rcases flip_or y with ⟨g', e'⟩ | ⟨g', e'⟩ <;> rw [e, e']
    · omega
    · rw [toL_rev]; exact h
    · rw [toL_rev]
      have := h.rev
      rwa [List.reverse_reverse] at this
    · omega
theorem sameP_of {x y : L.Sq L.Pt} (h : L.toL x = L.toL y) : L.sameP x y = true := by
  obtain ⟨h1, h2⟩ := toL_ext h
  unfold L.sameP
  rw [decide_eq_true (by omega), cond_true]
  exact allB_iff.2 fun i hi => by rw [h2 i hi]; exact same_refl _
theorem valid_thin {c : L.Pt → L.Pt → L.Pt → Bool} {x : L.Sq L.Pt} (h : L.validPts x = true) : L.validPts (L.thin c x) = true :=
  thin_ind (Q := fun y => L.validPts y = true) (fun y i h hi _ => allB_iff.2 fun k hk => by
    have h := allB_iff.1 h
    have hk : k < y.n - 1 := hk
    show L.validPt (L.delF y.g i y.n k) = true
    unfold L.delF
    cases decide (k < i) with
    | true => exact h k (by omega)
    | false => rw [decide_eq_true (show k + 1 < y.n by omega)]; exact h (k + 1) (by omega)) h
theorem out_zero {l : L.Sq L.Pt} (h : L.outE l = 0) : L.good (L.str l) ∧ L.outN l = (L.str l).n := by
  have hN : L.outN l = (L.str l).n := by unfold L.outN; rw [h]; rfl
  unfold L.outE at h
  cases h1 : (bif !L.within (l.n : Int) 3 400 then true else !L.validPts l) with
  | true => rw [h1] at h; cases h
  | false =>
    rw [h1] at h
    cases h2 : L.flat l with
    | true => rw [h2] at h; cases h
    | false =>
      rw [h2] at h
      cases h3 : (bif decide (((L.str l).n : Int) < 3) then true else !L.simple (L.str l)) with
      | true => rw [h3] at h; cases h
      | false =>
        rw [h3] at h
        cases h4 : decide ((24 : Int) < ((L.str l).n : Int)) with
        | true => rw [h4] at h; cases h
        | false =>
          have m24 := of_decide_eq_false h4
          rw [bor, Bool.or_eq_false_iff] at h3
          have m3 := of_decide_eq_false h3.1
          exact ⟨⟨by omega, by omega, valid_thin (valid_thin (out_of h1).2.2), notF h3.2, str_sharp l⟩, hN⟩
theorem flat_cross {x : L.Sq L.Pt} (h : L.flat x = true) {a b c : Nat} (ha : a < x.n) (hb : b < x.n) (hc : c < x.n) : L.cross (x.g a) (x.g b) (x.g c) = 0 := by
  unfold L.flat L.far at h
  rcases idx_cases (f := fun i => !L.same (x.g i) (x.g 0)) (n := x.n) with ⟨q1, q2⟩ | ⟨i, q1, q2, q3, _⟩
  · have e : ∀ k, k < x.n → x.g k = x.g 0 := fun k hk => same_eq (notF (q2 k hk))
    rw [e a ha, e b hb, e c hc]
    exact cross_dup _ _
  · rw [q2, decide_eq_false (show ¬ (i : Int) < 0 by omega), cond_false, Int.toNat_natCast] at h
    have h := notT h
    have line : ∀ k, k < x.n → L.cross (x.g 0) (x.g i) (x.g k) = 0 := fun k hk => by
      cases e : decide (L.cross (x.g 0) (x.g i) (x.g k) = 0) with
      | true => exact of_decide_eq_true e
      | false =>
        have : L.anyB x.n (fun k => !decide (L.cross (x.g 0) (x.g i) (x.g k) = 0)) = true := anyB_iff.2 ⟨k, hk, by rw [e]; rfl⟩
        rw [h] at this; cases this
    have l1 := line a ha
    have l2 := line b hb
    have l3 := line c hc
    have q3 : (!L.same (x.g i) (x.g 0)) = true := q3
    have hne : x.g i ≠ x.g 0 := fun e => by rw [e, same_refl] at q3; cases q3
    generalize x.g a = p at *
    generalize x.g b = q at *
    generalize x.g c = r at *
    generalize x.g i = f at *
    generalize x.g 0 = o at *
    unfold L.cross at *
    have he : f.x - o.x ≠ 0 ∨ f.y - o.y ≠ 0 := by
      by_cases g : f.x - o.x = 0
      · refine .inr fun g' => hne ?_
        have e1 : f.x = o.x := by omega
        have e2 : f.y = o.y := by omega
        cases f; cases o; simp only at e1 e2; rw [e1, e2]
      · exact .inl g
    have := vec0 (ex := f.x - o.x) (ey := f.y - o.y) (px := q.x - p.x) (py := q.y - p.y) (qx := r.x - p.x) (qy := r.y - p.y) he (by grind) (by grind)
    grind
theorem not_flat {x y : L.Sq L.Pt} (h : L.good x) (hm : ∀ p, p ∈ L.toL x → p ∈ L.toL y) : L.flat y = false := by
  cases e : L.flat y with
  | false => rfl
  | true =>
    have h3 := h.1
    have hs := h.2.2.2.2 0 (by omega)
    unfold L.outAt L.cFlat at hs
    have hs := of_decide_eq_false hs
    obtain ⟨a, ha, ea⟩ := mem_toL.1 (hm _ (mem_toL.2 ⟨_, prev_lt (n := x.n) (k := 0) (by omega), rfl⟩))
    obtain ⟨b, hb, eb⟩ := mem_toL.1 (hm _ (mem_toL.2 ⟨0, by omega, rfl⟩))
    obtain ⟨c, hc, ec⟩ := mem_toL.1 (hm _ (mem_toL.2 ⟨_, next_lt (n := x.n) (k := 0) (by omega), rfl⟩))
    have := flat_cross e ha hb hc
    rw [ea, eb, ec] at this
    exact absurd this hs
theorem outE_of {y : L.Sq L.Pt} (h3 : 3 ≤ y.n) (h4 : y.n ≤ 400) (hv : L.validPts y = true) (hf : L.flat y = false) (hg : L.good (L.str y)) : L.outE y = 0 := by
  unfold L.outE
  have h1 : L.within (y.n : Int) 3 400 = true := by unfold L.within; rw [decide_eq_true (show (3 : Int) ≤ (y.n : Int) by omega), decide_eq_true (show (y.n : Int) ≤ 400 by omega)]; rfl
  have g1 := hg.1
  have g2 := hg.2.1
  rw [h1, hv, hf, hg.2.2.2.1, decide_eq_false (show ¬ ((L.str y).n : Int) < 3 by omega), decide_eq_false (show ¬ (24 : Int) < ((L.str y).n : Int) by omega)]
  rfl
/-- What Outline leaves as it is. -/
theorem str_good {x : L.Sq L.Pt} (h : L.good x) : L.str x = x := by
  have e1 : L.thin L.cDup x = x := thin_end (f := x.g) fun i hi => by
    cases e : L.outAt L.cDup ⟨x.n, x.g⟩ i with
    | false => rfl
    | true =>
      have h1 := h.2.2.2.2 i hi
      have h2 : L.cross (x.g (L.prev x.n i)) (x.g i) (x.g (L.next x.n i)) = 0 := dup_fl _ _ _ e
      unfold L.outAt L.cFlat at h1
      exact absurd h2 (of_decide_eq_false h1)
  unfold L.str
  rw [e1]
  exact thin_end (f := x.g) fun i hi => h.2.2.2.2 i hi
theorem again {x : L.Sq L.Pt} (h : L.good x) : L.outE x = 0 ∧ L.outN x = x.n := by
  have h3 := h.1
  have h24 := h.2.1
  have e : L.outE x = 0 := outE_of h3 (by omega) h.2.2.1 (not_flat h fun _ hp => hp) (by rw [str_good h]; exact h)
  refine ⟨e, ?_⟩
  unfold L.outN; rw [e, str_good h]; rfl
theorem norm_valid {x : L.Sq L.Pt} (h : L.good x) : L.validOutline (L.norm x) = true := by
  obtain ⟨h3, h24, hv, hs, hc⟩ := good_norm h
  have ha := area_norm h
  have hd := nodup_good (good_norm h)
  obtain ⟨rx, mx⟩ := norm_rot (x := x) (by have := h.1; omega)
  have h1 : L.within ((L.norm x).n : Int) 3 24 = true := by unfold L.within; rw [decide_eq_true (show (3 : Int) ≤ ((L.norm x).n : Int) by omega), decide_eq_true (show ((L.norm x).n : Int) ≤ 24 by omega)]; rfl
  unfold L.validOutline L.valid3
  rw [h1, hv, hs, decide_eq_true ha]
  rw [Bool.and_true, allB_iff.2 (fun k hk => ?_)]
  · rfl
  · unfold L.corner
    have := hc k hk
    unfold L.outAt L.cFlat at this
    rw [this, cond_false]
    by_cases hk0 : 0 < (k : Int)
    · rw [decide_eq_true hk0, cond_true]
      have hm : (L.norm x).g k ∈ L.toL (L.flip x) := rx.mem.2 (mem_toL.2 ⟨k, hk, rfl⟩)
      have h0 := min_mem (x := L.flip x) (by rw [flip_n]; have := h.1; omega) hm
      rw [flip_n, ← mx] at h0
      have hne : (L.norm x).g 0 ≠ (L.norm x).g k := fun e => by
        have := sharp_inj h3 hs hc (a := 0) (b := (k : Int)) (by
          rw [show (0 : Int) = ((0 : Nat) : Int) from rfl, cy_nat (by omega), cy_nat hk, e])
        rw [Int.zero_emod, Int.emod_eq_of_lt (by omega) (by omega)] at this
        omega
      have : ¬ 0 ≤ L.cmpPt ((L.norm x).g 0) ((L.norm x).g k) := fun g => hne (cmp_anti (by omega) h0)
      rw [decide_eq_false this]; rfl
    · rw [decide_eq_false hk0]; rfl
def L.ins (x : L.Sq L.Pt) (i : Nat) (p : L.Pt) : L.Sq L.Pt := ⟨x.n + 1, fun k => bif decide (k < i + 1) then x.g k else bif decide (k = i + 1) then p else x.g (k - 1)⟩
theorem ins_lo {x : L.Sq L.Pt} {i k : Nat} {p : L.Pt} (h : k ≤ i) : (L.ins x i p).g k = x.g k := by
  show (bif decide (k < i + 1) then x.g k else _) = _
  rw [decide_eq_true (by omega)]; rfl
theorem ins_at {x : L.Sq L.Pt} {i : Nat} {p : L.Pt} : (L.ins x i p).g (i + 1) = p := by
  show (bif decide (i + 1 < i + 1) then x.g (i + 1) else bif decide (i + 1 = i + 1) then p else x.g (i + 1 - 1)) = _
  rw [decide_eq_false (by omega), decide_eq_true rfl]; rfl
theorem ins_hi {x : L.Sq L.Pt} {i k : Nat} {p : L.Pt} (h : i + 1 ≤ k) : (L.ins x i p).g (k + 1) = x.g k := by
  show (bif decide (k + 1 < i + 1) then x.g (k + 1) else bif decide (k + 1 = i + 1) then p else x.g (k + 1 - 1)) = _
  rw [decide_eq_false (by omega), decide_eq_false (by omega), Nat.add_sub_cancel]; rfl
theorem ins_norm {x : L.Sq L.Pt} {i : Nat} {p : L.Pt} (h : L.good x) (hi : i < x.n) (hp : L.validPt p = true) (h0 : L.cross (x.g i) (x.g (L.next x.n i)) p = 0) : L.outE (L.ins x i p) = 0 ∧ L.toL (L.norm (L.str (L.ins x i p))) = L.toL (L.norm x) ∧ L.outN (L.ins x i p) = x.n := by
  have h3 := h.1
  have h24 := h.2.1
  have hMn : (L.ins x i p).n = x.n + 1 := rfl
  have ho : L.outAt L.cFlat (L.ins x i p) (i + 1) = true := by
    unfold L.outAt L.cFlat
    rw [hMn, prev_at (by omega), if_neg (by omega), Nat.add_sub_cancel, ins_lo (Nat.le_refl _), ins_at]
    have e : (L.ins x i p).g (L.next (x.n + 1) (i + 1)) = x.g (L.next x.n i) := by
      rw [next_at (by omega), next_at hi]
      by_cases g : i + 1 = x.n
      · rw [if_pos (by omega), if_pos g, ins_lo (Nat.zero_le _)]
      · rw [if_neg (by omega), if_neg g, ins_hi (Nat.le_refl _)]
    rw [e]
    refine decide_eq_true ?_
    unfold L.cross at h0 ⊢
    grind
  have hs := out_step flat_fl (x := L.ins x i p) (i := i + 1) (by omega) ho
  have ed : L.toL ⟨(L.ins x i p).n - 1, L.delF (L.ins x i p).g (i + 1) (L.ins x i p).n⟩ = L.toL x := by
    refine List.ext_getElem? fun k => ?_
    rw [toL_get, toL_get]
    show (if k < x.n + 1 - 1 then some (L.delF (L.ins x i p).g (i + 1) (x.n + 1) k) else none) = _
    rw [Nat.add_sub_cancel]
    by_cases hk : k < x.n
    · rw [if_pos hk, if_pos hk]
      unfold L.delF
      by_cases g : k < i + 1
      · rw [decide_eq_true g, cond_true, ins_lo (by omega)]
      · rw [decide_eq_false g, cond_false, decide_eq_true (show k + 1 < x.n + 1 by omega), cond_true, ins_hi (by omega)]
    · rw [if_neg hk, if_neg hk]
  rw [ed] at hs
  have r := str_uniq (x := L.ins x i p) (y := x) (.step hs (.refl (Rot.refl _))) h.2.2.2.2
  have hg : L.good (L.str (L.ins x i p)) := good_rot h r.symm
  have mem : ∀ q, q ∈ L.toL x → q ∈ L.toL (L.ins x i p) := fun q hq => by
    obtain ⟨k, hk, rfl⟩ := mem_toL.1 hq
    rcases Nat.lt_or_ge i k with g | g
    · exact mem_toL.2 ⟨k + 1, by omega, ins_hi g⟩
    · exact mem_toL.2 ⟨k, by omega, ins_lo g⟩
  have hv : L.validPts (L.ins x i p) = true := allB_iff.2 fun k hk => by
    have hx := allB_iff.1 h.2.2.1
    have hk : k < x.n + 1 := hk
    rcases Nat.lt_trichotomy k (i + 1) with g | g | g
    · rw [ins_lo (by omega)]; exact hx k (by omega)
    · rw [g, ins_at]; exact hp
    · obtain ⟨j, rfl⟩ : ∃ j, k = j + 1 := ⟨k - 1, by omega⟩
      rw [ins_hi (by omega)]; exact hx j (by omega)
  have e := outE_of (y := L.ins x i p) (by omega) (by omega) hv (not_flat h mem) hg
  refine ⟨e, norm_same hg (.inl r), ?_⟩
  have hN := (out_zero e).2
  rw [hN]
  have := r.len
  rwa [toL_len, toL_len] at this
end Go.Proofs.Ytdlhpdidgfgomaa

namespace Go.Proofs.Ytdlhpdidgfgomaa
open Go.SE Go.RowKit
set_option maxRecDepth 100000
set_option maxHeartbeats 4000000
set_option linter.unusedVariables false
attribute [local irreducible] vc
open Conf
theorem outN_le (l : L.Sq L.Pt) : L.outN l ≤ 24 := by
  unfold L.outN
  cases h : decide (L.outE l = 0) with
  | false => exact Nat.zero_le _
  | true =>
    have e := of_decide_eq_true h
    unfold L.outE at e
    rw [cond_true]
    revert e
    cases (bif !L.within (l.n : Int) 3 400 then true else !L.validPts l) <;> cases L.flat l <;> cases (bif decide (((L.str l).n : Int) < 3) then true else !L.simple (L.str l)) <;> cases h4 : decide ((24 : Int) < ((L.str l).n : Int)) <;> intro e <;> first
      | (have := of_decide_eq_false h4; omega)
      | exact absurd e (by decide)
def L.lidx (k n : Int) : Int := Int.tmod (bif decide (k < 0) then 0 - (k + 1) else k) n
theorem lidx_bd {k n : Int} (h : 0 < n) : 0 ≤ L.lidx k n ∧ L.lidx k n < n := by
  unfold L.lidx
  have : 0 ≤ (bif decide (k < 0) then 0 - (k + 1) else k) := by
    by_cases hk : k < 0
    · rw [decide_eq_true hk]; show 0 ≤ 0 - (k + 1); omega
    · rw [decide_eq_false hk]; show 0 ≤ k; omega
  exact ⟨Int.tmod_nonneg _ this, Int.tmod_lt_of_pos _ h⟩

def L.tl (l : L.Sq L.Pt) (k : Int) (back : Bool) : L.Sq L.Pt := ⟨l.n, fun i => l.g (Int.tmod (bif back then k + (l.n : Int) - (i : Int) else k + (i : Int)) (l.n : Int)).toNat⟩
theorem tl_at {n k i : Nat} (hk : k < n) (hi : i < n) : (Int.tmod ((k : Int) + (i : Int)) (n : Int)).toNat = (if k + i < n then k + i else k + i - n) ∧ (Int.tmod ((k : Int) + (n : Int) - (i : Int)) (n : Int)).toNat = (if i ≤ k then k - i else k + n - i) := by
  constructor
  · by_cases h : k + i < n
    · rw [if_pos h, Int.tmod_eq_of_lt (by omega) (by omega)]; omega
    · rw [if_neg h, Int.tmod_eq_emod_of_nonneg (by omega), show (k : Int) + (i : Int) = ((k : Int) + i - n) + n by omega, Int.add_emod_right, Int.emod_eq_of_lt (by omega) (by omega)]; omega
  · by_cases h : i ≤ k
    · rw [if_pos h, Int.tmod_eq_emod_of_nonneg (by omega), show (k : Int) + (n : Int) - (i : Int) = ((k : Int) - i) + n by omega, Int.add_emod_right, Int.emod_eq_of_lt (by omega) (by omega)]; omega
    · rw [if_neg h, Int.tmod_eq_of_lt (by omega) (by omega)]; omega
theorem tl_rot {l : L.Sq L.Pt} {k : Int} (h0 : 0 ≤ k) (h1 : k < (l.n : Int)) : Rot (L.toL l) (L.toL (L.tl l k false)) ∧ Rot (L.toL l).reverse (L.toL (L.tl l k true)) := by
  obtain ⟨K, rfl⟩ : ∃ K : Nat, k = (K : Int) := ⟨k.toNat, by omega⟩
  have hK : K < l.n := by omega
  have hl := toL_len l
  constructor
  · refine ⟨(L.toL l).take K, (L.toL l).drop K, (List.take_append_drop _ _).symm, List.ext_getElem? fun i => ?_⟩
    rw [toL_get]
    show (if i < l.n then some (l.g (Int.tmod ((K : Int) + (i : Int)) (l.n : Int)).toNat) else none) = _
    by_cases hi : i < l.n
    · rw [if_pos hi, (tl_at hK hi).1]
      by_cases h : K + i < l.n
      · rw [if_pos h, List.getElem?_append_left (by rw [List.length_drop]; omega), List.getElem?_drop, toL_get, if_pos h]
      · rw [if_neg h, List.getElem?_append_right (by rw [List.length_drop]; omega), List.getElem?_take, List.length_drop, hl, if_pos (by omega), toL_get, if_pos (by omega), show i - (l.n - K) = K + i - l.n by omega]
    · rw [if_neg hi, List.getElem?_eq_none (by rw [List.length_append, List.length_drop, List.length_take]; omega)]
  · refine ⟨((L.toL l).drop (K + 1)).reverse, ((L.toL l).take (K + 1)).reverse, by rw [← List.reverse_append, List.take_append_drop], List.ext_getElem? fun i => ?_⟩
    rw [toL_get]
    show (if i < l.n then some (l.g (Int.tmod ((K : Int) + (l.n : Int) - (i : Int)) (l.n : Int)).toNat) else none) = _
    have ht : ((L.toL l).take (K + 1)).length = K + 1 := by rw [List.length_take]; omega
    have hd : ((L.toL l).drop (K + 1)).length = l.n - (K + 1) := by rw [List.length_drop]; omega
    by_cases hi : i < l.n
    · rw [if_pos hi, (tl_at hK hi).2]
      by_cases h : i ≤ K
      · rw [if_pos h, List.getElem?_append_left (by rw [List.length_reverse]; omega), List.getElem?_reverse (by omega), ht, List.getElem?_take, if_pos (by omega), toL_get, if_pos (by omega), show K + 1 - 1 - i = K - i by omega]
      · rw [if_neg h, List.getElem?_append_right (by rw [List.length_reverse]; omega), List.length_reverse, ht, List.getElem?_reverse (by omega), hd, List.getElem?_drop, toL_get, if_pos (by omega), show K + 1 + (l.n - (K + 1) - 1 - (i - (K + 1))) = K + l.n - i by omega]
    · rw [if_neg hi, List.getElem?_eq_none (by rw [List.length_append, List.length_reverse, List.length_reverse]; omega)]
theorem tl_same {l : L.Sq L.Pt} {k : Int} {back : Bool} (h0 : 0 ≤ k) (h1 : k < (l.n : Int)) (e : L.outE l = 0) : L.toL (L.norm (L.str l)) = L.toL (L.norm (L.str (L.tl l k back))) := by
  refine norm_same (out_zero e).1 ?_
  cases back with
  | false => exact .inl (str_rot (tl_rot h0 h1).1)
  | true => exact .inr (str_rotR (tl_rot h0 h1).2)
def w_index_p (k : Int) (n : Int) : Prop := InK .i64 k ∧ 0 < n
def w_index_r (k : Int) (n : Int) : SV := .int .i64 (L.lidx k n)
def w_index_s : List EV → Option (Prop × SV)
  | [.p (.int .i64 k), .p (.int .i64 n)] => some (w_index_p k n, w_index_r k n)
  | _ => none
abbrev w_index_S : SE.Spec := (specO w_index_s)
def w_index_C : Cfg := { muts := [], frz := lookN [], specs := lookS [], loops := lookL [], iters := lookI [], rfs := lookR [], nils := lookM [] }
theorem w_index_vc (k : Int) (n : Int) (hp : w_index_p k n) : vc Try.prog (w_index_C) (bodyOf Try.f12) (st0 Try.f12 [.p (.int .i64 k), .p (.int .i64 n)]) (retFn Try.prog Try.f12 (w_index_r k n)) :=
  @Eq.mpr _ ((decide (k < (0 : Int)) = true → InK .i64 (k + (1 : Int)) ∧ InK .i64 ((0 : Int) - (k + (1 : Int))) ∧ n ≠ (0 : Int) ∧ Int.tmod ((0 : Int) - (k + (1 : Int))) n = L.lidx k n) ∧ (decide (k < (0 : Int)) = false → n ≠ (0 : Int) ∧ Int.tmod k n = L.lidx k n)) (by kernel_rfl) (by
    obtain ⟨⟨h1, h2⟩, hn⟩ := hp
    refine ⟨fun h => ?_, fun h => ?_⟩
    · have h' := of_decide_eq_true h
      unfold L.lidx
      rw [h]
      exact ⟨InK.of (by omega) (by omega), InK.of (by omega) (by omega), by omega, rfl⟩
    · unfold L.lidx
      rw [h]
      exact ⟨by omega, rfl⟩)
theorem w_index_ok : SpecOk Try.prog 12 w_index_S := fnX Try.func12 (c := bodyOf Try.f12) (by kernel_rfl) mixed (fun args p r hs hp => by
  unfold w_index_s at hs
  split at hs
  · cases hs; exact ⟨_, _, w_index_vc _ _ hp, (.same _ (.same _ .nil)), ⟨show SpecsL Try.prog _ from SpecsL.nil, rfl, ⟨show ItersL Try.prog _ from ItersL.nil, (TrsOk.none (fun _ => rfl))⟩⟩⟩
  · cases hs)
theorem w_index_en : Enters Try.prog 12 := fun args w => by kernel_rfl
def w_turned_p (l : (L.Sq L.Pt)) (k : Int) (back : Bool) : Prop := 1 ≤ l.n ∧ l.n ≤ 1000000 ∧ 0 ≤ k ∧ k < l.n
def w_turned_r (l : (L.Sq L.Pt)) (k : Int) (back : Bool) : SV := .sl 2 l.n (fun i => [.int .i64 (((L.tl l k back).g i).x), .int .i64 (((L.tl l k back).g i).y)])
def w_turned_s : List EV → Option (Prop × SV)
  | [.p (.sl 2 l_n l_g), .p (.int .i64 k), .p (.bool back)] => some ((∀ i, i < l_n → l_g i = [.int .i64 ((ofPt (l_g i)).x), .int .i64 ((ofPt (l_g i)).y)]) ∧ w_turned_p (⟨l_n, fun i => ofPt (l_g i)⟩ : (L.Sq L.Pt)) k back, w_turned_r (⟨l_n, fun i => ofPt (l_g i)⟩ : (L.Sq L.Pt)) k back)
  | _ => none
abbrev w_turned_S : SE.Spec := (specO w_turned_s)
def w_turned_C : Cfg := { muts := [], frz := lookN [], specs := lookS [], loops := fun _ => none, iters := lookI [], rfs := lookR [], nils := lookM [(2, [(7, 38, 25, 2)])] }
theorem w_turned_vc (l : (L.Sq L.Pt)) (k : Int) (back : Bool) (hp : w_turned_p l k back) : vc Try.prog ({ w_turned_C with loops := lookL [(3, { T := Nat, keep := [0, 1, 2, 7], keepO := [], chg := fun i => [(8, .p (.int .i64 (i : Int)))], own := fun i => [(38, .row 25 2 i (fun j => [.int .i64 (((L.tl l k back).g j).x), .int .i64 (((L.tl l k back).g j).y)]))], inv := fun i => i ≤ l.n, mu := fun i => l.n - i })], rfs := lookR [] }) (bodyOf Try.f14) (st0 Try.f14 [.p (.sl 2 l.n (fun i => [.int .i64 ((l.g i).x), .int .i64 ((l.g i).y)])), .p (.int .i64 k), .p (.bool back)]) (retFn Try.prog Try.f14 (w_turned_r l k back)) :=
  @Eq.mpr _ ((∃ (g : Nat), (0 : Int) = (↑g : Int) ∧ (nat_lit 0 = g ∧ ∀ (i : Nat), i < nat_lit 0 → [] = [SV.int .i64 ((L.tl l k back).g i).x, SV.int .i64 ((L.tl l k back).g i).y]) ∧ g ≤ l.n) ∧ ∀ (g : Nat), g ≤ l.n → (decide ((↑g : Int) < (↑l.n : Int)) = true → InK .i64 (k + (↑g : Int)) ∧ (↑l.n : Int) ≠ (0 : Int) ∧ (back = true → InK
 .i64 (k + (↑l.n : Int)) ∧ InK .i64 (k + (↑l.n : Int) - (↑g : Int)) ∧ (↑l.n : Int) ≠ (0 : Int) ∧ ((0 : Int) ≤ Int.tmod (k + (↑l.n : Int) - (↑g : Int)) (↑l.n : Int) ∧ Int.tmod (k + (↑l.n : Int) - (↑g : Int)) (↑l.n : Int) < (↑l.n : Int)) ∧ (g + nat_lit 1) * nat_lit 16 ≤ (140737488355328 : Nat) ∧ InK .i64 ((↑g : Int) + (1 : Int)) ∧ ∃ (g' : Nat), (↑g : Int) +
 (1 : Int) = (↑g' : Int) ∧ (l.n = l.n ∧ ∀ (i : Nat), i < l.n → [SV.int .i64 (l.g i).x, SV.int .i64 (l.g i).y] = [SV.int .i64 (l.g i).x, SV.int .i64 (l.g i).y]) ∧ k = k ∧ back = back ∧ (g + nat_lit 1 = g' ∧ ∀ (i : Nat), i < g + nat_lit 1 → appGet g (fun (j : Nat) ↦ [SV.int .i64 ((L.tl l k back).g j).x, SV.int
 .i64 ((L.tl l k back).g j).y]) (fun (x : Nat) ↦ [SV.int .i64 (l.g (Int.toNat (Int.tmod (k + (↑l.n : Int) - (↑g : Int)) (↑l.n : Int)))).x, SV.int .i64 (l.g (Int.toNat (Int.tmod (k + (↑l.n : Int) - (↑g : Int)) (↑l.n : Int)))).y]) i = [SV.int .i64 ((L.tl l k back).g i).x, SV.int .i64 ((L.tl l k back).g i).y]) ∧ g' ≤ l.n ∧ l.n -
 g' < l.n - g) ∧ (back = false → ((0 : Int) ≤ Int.tmod (k + (↑g : Int)) (↑l.n : Int) ∧ Int.tmod (k + (↑g : Int)) (↑l.n : Int) < (↑l.n : Int)) ∧ (g + nat_lit 1) * nat_lit 16 ≤ (140737488355328 : Nat) ∧ InK .i64 ((↑g : Int) + (1 : Int)) ∧ ∃ (g' : Nat), (↑g : Int) + (1 : Int) = (↑g' : Int) ∧ (l.n = l.n ∧ ∀ (i : Nat), i < l.n → [SV.int .i64 (l.g i).x, SV.int
 .i64 (l.g i).y] = [SV.int .i64 (l.g i).x, SV.int .i64 (l.g i).y]) ∧ k = k ∧ back = back ∧ (g + nat_lit 1 = g' ∧ ∀ (i : Nat), i < g + nat_lit 1 → appGet g (fun (j : Nat) ↦ [SV.int .i64 ((L.tl l k back).g j).x, SV.int .i64 ((L.tl l k back).g j).y]) (fun (x : Nat) ↦ [SV.int .i64 (l.g (Int.toNat (Int.tmod
 (k + (↑g : Int)) (↑l.n : Int)))).x, SV.int .i64 (l.g (Int.toNat (Int.tmod (k + (↑g : Int)) (↑l.n : Int)))).y]) i = [SV.int .i64 ((L.tl l k back).g i).x, SV.int .i64 ((L.tl l k back).g i).y]) ∧ g' ≤ l.n ∧ l.n - g' < l.n - g)) ∧ (decide ((↑g : Int) < (↑l.n : Int)) = false → g = l.n ∧ ∀ (i : Nat), i < g → [SV.int .i64
 ((L.tl l k back).g i).x, SV.int .i64 ((L.tl l k back).g i).y] = [SV.int .i64 ((L.tl l k back).g i).x, SV.int .i64 ((L.tl l k back).g i).y])) (by kernel_rfl) (by
    obtain ⟨h1, hn, k0, k1⟩ := hp
    refine ⟨⟨(0 : Nat), rfl, ⟨rfl, fun i hi => absurd hi (Nat.not_lt_zero _)⟩, Nat.zero_le _⟩, fun g hg => ⟨fun hlt => ?_, fun hge => ?_⟩⟩
    · have hlt : (g : Int) < (l.n : Int) := of_decide_eq_true hlt
      have t0 : ∀ a : Int, 0 ≤ a → 0 ≤ Int.tmod a (l.n : Int) ∧ Int.tmod a (l.n : Int) < (l.n : Int) := fun a ha => ⟨Int.tmod_nonneg _ ha, Int.tmod_lt_of_pos _ (by omega)⟩
      refine ⟨InK.of (by omega) (by omega), by omega, fun hb => ?_, fun hb => ?_⟩
      · subst hb
        refine ⟨InK.of (by omega) (by omega), InK.of (by omega) (by omega), by omega, t0 _ (by omega), show (g + 1) * 16 ≤ 140737488355328 by omega, InK.of (by omega) (by omega), g + 1, by omega, ⟨rfl, fun _ _ => rfl⟩, rfl, rfl, ⟨rfl, fun i hi => ?_⟩, by omega, by omega⟩
        have hi : i < g + 1 := hi
        unfold appGet
        by_cases h' : i < g
        · rw [if_pos h']
        · rw [if_neg h', show i = g by omega]; rfl
      · subst hb
        refine ⟨t0 _ (by omega), show (g + 1) * 16 ≤ 140737488355328 by omega, InK.of (by omega) (by omega), g + 1, by omega, ⟨rfl, fun _ _ => rfl⟩, rfl, rfl, ⟨rfl, fun i hi => ?_⟩, by omega, by omega⟩
        have hi : i < g + 1 := hi
        unfold appGet
        by_cases h' : i < g
        · rw [if_pos h']
        · rw [if_neg h', show i = g by omega]; rfl
    · have hge : ¬ (g : Int) < (l.n : Int) := of_decide_eq_false hge
      obtain rfl : g = l.n := by omega
      exact ⟨rfl, fun _ _ => rfl⟩)
theorem w_turned_ok : SpecOk Try.prog 14 w_turned_S := fnX Try.func14 (c := bodyOf Try.f14) (by kernel_rfl) mixed (fun args p r hs hp => by
  unfold w_turned_s at hs
  split at hs
  · cases hs; exact ⟨_, _, w_turned_vc _ _ _ hp.2, (.p (.sl hp.1) (.same _ (.same _ .nil))), ⟨show SpecsL Try.prog _ from SpecsL.nil, rfl, ⟨show ItersL Try.prog _ from ItersL.nil, (TrsOk.none (fun _ => rfl))⟩⟩⟩
  · cases hs)
theorem w_turned_en : Enters Try.prog 14 := fun args w => by kernel_rfl
def w_Normal_p (l : (L.Sq L.Pt)) (k : Int) (back : Bool) : Prop := l.n ≤ 9223372036854775807 ∧ InK .i64 k
def w_Normal_r (l : (L.Sq L.Pt)) (k : Int) (back : Bool) : SV := .bool true
def w_Normal_s : List EV → Option (Prop × SV)
  | [.p (.sl 2 l_n l_g), .p (.int .i64 k), .p (.bool back)] => some ((∀ i, i < l_n → l_g i = [.int .i64 ((ofPt (l_g i)).x), .int .i64 ((ofPt (l_g i)).y)]) ∧ w_Normal_p (⟨l_n, fun i => ofPt (l_g i)⟩ : (L.Sq L.Pt)) k back, w_Normal_r (⟨l_n, fun i => ofPt (l_g i)⟩ : (L.Sq L.Pt)) k back)
  | _ => none
abbrev w_Normal_S : SE.Spec := (specO w_Normal_s)
def w_Normal_C : Cfg := { muts := [], frz := lookN [(23, [125])], specs := lookS [(7, w_awake_S), (13, p_Outline_S), (12, w_index_S), (14, w_turned_S), (15, r1_SamePoints_S), (16, p_ValidOutline_S), (17, r1_Cross_S)], loops := lookL [], iters := lookI [], rfs := lookR [], nils := lookM [(20, [(18, 125, 25, 2)])] }
theorem w_Normal_vc (l : (L.Sq L.Pt)) (k : Int) (back : Bool) (hp : w_Normal_p l k back) : vc Try.prog (w_Normal_C) (bodyOf Try.f5) (st0 Try.f5 [.p (.sl 2 l.n (fun i => [.int .i64 ((l.g i).x), .int .i64 ((l.g i).y)])), .p (.int .i64 k), .p (.bool back)]) (retFn Try.prog Try.f5 (w_Normal_r l k back)) :=
  @Eq.mpr _ (True ∧ ((bif decide ((40 : Int) < (↑l.n : Int)) then true else decide ((↑l.n : Int) = (0 : Int))) = true → true = true) ∧ ((bif decide ((40 : Int) < (↑l.n : Int)) then true else decide ((↑l.n : Int) = (0 : Int))) = false → ((∀ (i : Nat), i < l.n → [SV.int .i64 (l.g i).x, SV.int .i64 (l.g i).y] =
 [SV.int .i64 (l.g i).x, SV.int .i64 (l.g i).y]) ∧ l.n ≤ (1000000 : Nat)) ∧ (InK .i64 k ∧ (0 : Int) < (↑l.n : Int)) ∧ ((∀ (i : Nat), i < l.n → [SV.int .i64 (l.g i).x, SV.int .i64 (l.g i).y] = [SV.int .i64 (l.g i).x, SV.int .i64 (l.g i).y]) ∧ (1 : Nat) ≤ l.n ∧ l.n ≤ (1000000 : Nat) ∧ (0 :
 Int) ≤ L.lidx k (↑l.n : Int) ∧ L.lidx k (↑l.n : Int) < (↑l.n : Int)) ∧ ((∀ (i : Nat), i < l.n → [SV.int .i64 ((L.tl (L.Sq.mk l.n fun (i : Nat) ↦ l.g i) (L.lidx k (↑l.n : Int)) back).g i).x, SV.int .i64 ((L.tl (L.Sq.mk l.n fun (i : Nat) ↦ l.g i) (L.lidx k (↑l.n : Int)) back).g i).y] = [SV.int .i64 ((L.tl (L.Sq.mk l.n fun (i : Nat) ↦ l.g i) (L.lidx k
 (↑l.n : Int)) back).g i).x, SV.int .i64 ((L.tl (L.Sq.mk l.n fun (i : Nat) ↦ l.g i) (L.lidx k (↑l.n : Int)) back).g i).y]) ∧ l.n ≤ (1000000 : Nat)) ∧ ((bif decide (L.outE (L.Sq.mk l.n fun (i : Nat) ↦ l.g i) = (0 : Int)) then decide (L.outE (L.Sq.mk l.n fun (i : Nat) ↦ (L.tl (L.Sq.mk l.n fun (i : Nat) ↦ l.g i) (L.lidx k (↑l.n : Int)) back).g i) = (0 : Int)) else
 false) = true → (∀ (i : Nat), i < L.outN (L.Sq.mk l.n fun (i : Nat) ↦ l.g i) → [SV.int .i64 ((L.norm (L.str (L.Sq.mk l.n fun (i : Nat) ↦ l.g i))).g i).x, SV.int .i64 ((L.norm (L.str (L.Sq.mk l.n fun (i : Nat) ↦ l.g i))).g i).y] = [SV.int .i64 ((L.norm (L.str (L.Sq.mk l.n fun (i : Nat) ↦ l.g i))).g i).x, SV.int .i64 ((L.norm
 (L.str (L.Sq.mk l.n fun (i : Nat) ↦ l.g i))).g i).y]) ∧ (∀ (i : Nat), i < L.outN (L.Sq.mk l.n fun (i : Nat) ↦ (L.tl (L.Sq.mk l.n fun (i : Nat) ↦ l.g i) (L.lidx k (↑l.n : Int)) back).g i) → [SV.int .i64 ((L.norm (L.str (L.Sq.mk l.n fun (i : Nat) ↦ (L.tl (L.Sq.mk l.n fun (i : Nat) ↦ l.g i) (L.lidx k (↑l.n : Int)) back).g i))).g i).x, SV.int .i64 ((L.norm (L.str
 (L.Sq.mk l.n fun (i : Nat) ↦ (L.tl (L.Sq.mk l.n fun (i : Nat) ↦ l.g i) (L.lidx k (↑l.n : Int)) back).g i))).g i).y] = [SV.int .i64 ((L.norm (L.str (L.Sq.mk l.n fun (i : Nat) ↦ (L.tl (L.Sq.mk l.n fun (i : Nat) ↦ l.g i) (L.lidx k (↑l.n : Int)) back).g i))).g i).x, SV.int .i64 ((L.norm (L.str (L.Sq.mk l.n fun (i : Nat) ↦ (L.tl (L.Sq.mk l.n fun (i : Nat) ↦ l.g i)
 (L.lidx k (↑l.n : Int)) back).g i))).g i).y]) ∧ L.outN (L.Sq.mk l.n fun (i : Nat) ↦ l.g i) ≤ (1000000 : Nat)) ∧ ((bif bif decide (L.outE (L.Sq.mk l.n fun (i : Nat) ↦ l.g i) = (0 : Int)) then decide (L.outE (L.Sq.mk l.n fun (i : Nat) ↦ (L.tl (L.Sq.mk l.n fun (i : Nat) ↦ l.g i) (L.lidx k (↑l.n : Int)) back).g i) = (0 : Int)) else false then !L.sameP (L.Sq.mk (L.outN (L.Sq.mk
 l.n fun (i : Nat) ↦ l.g i)) fun (i : Nat) ↦ (L.norm (L.str (L.Sq.mk l.n fun (i : Nat) ↦ l.g i))).g i) (L.Sq.mk (L.outN (L.Sq.mk l.n fun (i : Nat) ↦ (L.tl (L.Sq.mk l.n fun (i : Nat) ↦ l.g i) (L.lidx k (↑l.n : Int)) back).g i)) fun (i : Nat) ↦ (L.norm (L.str (L.Sq.mk l.n fun (i : Nat) ↦ (L.tl (L.Sq.mk l.n fun (i : Nat) ↦ l.g i) (L.lidx k (↑l.n : Int)) back).g i))).g i) else false) = true →
 false = true) ∧ ((bif bif decide (L.outE (L.Sq.mk l.n fun (i : Nat) ↦ l.g i) = (0 : Int)) then decide (L.outE (L.Sq.mk l.n fun (i : Nat) ↦ (L.tl (L.Sq.mk l.n fun (i : Nat) ↦ l.g i) (L.lidx k (↑l.n : Int)) back).g i) = (0 : Int)) else false then !L.sameP (L.Sq.mk (L.outN (L.Sq.mk l.n fun (i : Nat) ↦ l.g i)) fun (i : Nat) ↦ (L.norm (L.str (L.Sq.mk l.n fun (i : Nat)
 ↦ l.g i))).g i) (L.Sq.mk (L.outN (L.Sq.mk l.n fun (i : Nat) ↦ (L.tl (L.Sq.mk l.n fun (i : Nat) ↦ l.g i) (L.lidx k (↑l.n : Int)) back).g i)) fun (i : Nat) ↦ (L.norm (L.str (L.Sq.mk l.n fun (i : Nat) ↦ (L.tl (L.Sq.mk l.n fun (i : Nat) ↦ l.g i) (L.lidx k (↑l.n : Int)) back).g i))).g i) else false) = false → ((!decide (L.outE (L.Sq.mk l.n fun (i : Nat) ↦ l.g i) = (0 : Int))) =
 true → true = true) ∧ ((!decide (L.outE (L.Sq.mk l.n fun (i : Nat) ↦ l.g i) = (0 : Int))) = false → ((∀ (i : Nat), i < L.outN (L.Sq.mk l.n fun (i : Nat) ↦ l.g i) → [SV.int .i64 ((L.norm (L.str (L.Sq.mk l.n fun (i : Nat) ↦ l.g i))).g i).x, SV.int .i64 ((L.norm (L.str (L.Sq.mk l.n fun (i : Nat) ↦ l.g i))).g i).y] = [SV.int
 .i64 ((L.norm (L.str (L.Sq.mk l.n fun (i : Nat) ↦ l.g i))).g i).x, SV.int .i64 ((L.norm (L.str (L.Sq.mk l.n fun (i : Nat) ↦ l.g i))).g i).y]) ∧ L.outN (L.Sq.mk l.n fun (i : Nat) ↦ l.g i) ≤ (1000000 : Nat)) ∧ ((!!decide (L.outE (L.Sq.mk (L.outN (L.Sq.mk l.n fun (i : Nat) ↦ l.g i)) fun (i : Nat) ↦ (L.norm (L.str (L.Sq.mk l.n fun (i : Nat) ↦ l.g i))).g i) = (0 :
 Int))) = true → (∀ (i : Nat), i < L.outN (L.Sq.mk l.n fun (i : Nat) ↦ l.g i) → [SV.int .i64 ((L.norm (L.str (L.Sq.mk l.n fun (i : Nat) ↦ l.g i))).g i).x, SV.int .i64 ((L.norm (L.str (L.Sq.mk l.n fun (i : Nat) ↦ l.g i))).g i).y] = [SV.int .i64 ((L.norm (L.str (L.Sq.mk l.n fun (i : Nat) ↦ l.g i))).g i).x, SV.int .i64 ((L.norm
 (L.str (L.Sq.mk l.n fun (i : Nat) ↦ l.g i))).g i).y]) ∧ L.outN (L.Sq.mk l.n fun (i : Nat) ↦ l.g i) ≤ (1000000 : Nat)) ∧ ((!bif !decide (L.outE (L.Sq.mk (L.outN (L.Sq.mk l.n fun (i : Nat) ↦ l.g i)) fun (i : Nat) ↦ (L.norm (L.str (L.Sq.mk l.n fun (i : Nat) ↦ l.g i))).g i) = (0 : Int)) then true else !L.validOutline (L.Sq.mk (L.outN (L.Sq.mk l.n fun (i : Nat) ↦ l.g i)) fun (i : Nat) ↦
 (L.norm (L.str (L.Sq.mk l.n fun (i : Nat) ↦ l.g i))).g i)) = true → (∀ (i : Nat), i < L.outN (L.Sq.mk (L.outN (L.Sq.mk l.n fun (i : Nat) ↦ l.g i)) fun (i : Nat) ↦ (L.norm (L.str (L.Sq.mk l.n fun (i : Nat) ↦ l.g i))).g i) → [SV.int .i64 ((L.norm (L.str (L.Sq.mk (L.outN (L.Sq.mk l.n fun (i : Nat) ↦ l.g i)) fun (i : Nat) ↦ (L.norm (L.str (L.Sq.mk l.n fun (i : Nat) ↦ l.g i))).g
 i))).g i).x, SV.int .i64 ((L.norm (L.str (L.Sq.mk (L.outN (L.Sq.mk l.n fun (i : Nat) ↦ l.g i)) fun (i : Nat) ↦ (L.norm (L.str (L.Sq.mk l.n fun (i : Nat) ↦ l.g i))).g i))).g i).y] = [SV.int .i64 ((L.norm (L.str (L.Sq.mk (L.outN (L.Sq.mk l.n fun (i : Nat) ↦ l.g i)) fun (i : Nat) ↦ (L.norm (L.str (L.Sq.mk l.n fun (i : Nat) ↦ l.g i))).g i))).g i).x, SV.int
 .i64 ((L.norm (L.str (L.Sq.mk (L.outN (L.Sq.mk l.n fun (i : Nat) ↦ l.g i)) fun (i : Nat) ↦ (L.norm (L.str (L.Sq.mk l.n fun (i : Nat) ↦ l.g i))).g i))).g i).y]) ∧ (∀ (i : Nat), i < L.outN (L.Sq.mk l.n fun (i : Nat) ↦ l.g i) → [SV.int .i64 ((L.norm (L.str (L.Sq.mk l.n fun (i : Nat) ↦ l.g i))).g i).x, SV.int .i64 ((L.norm (L.str (L.Sq.mk l.n fun (i : Nat) ↦
 l.g i))).g i).y] = [SV.int .i64 ((L.norm (L.str (L.Sq.mk l.n fun (i : Nat) ↦ l.g i))).g i).x, SV.int .i64 ((L.norm (L.str (L.Sq.mk l.n fun (i : Nat) ↦ l.g i))).g i).y]) ∧ L.outN (L.Sq.mk (L.outN (L.Sq.mk l.n fun (i : Nat) ↦ l.g i)) fun (i : Nat) ↦ (L.norm (L.str (L.Sq.mk l.n fun (i : Nat) ↦ l.g i))).g i) ≤ (1000000 : Nat)) ∧ ((bif bif bif !decide (L.outE
 (L.Sq.mk (L.outN (L.Sq.mk l.n fun (i : Nat) ↦ l.g i)) fun (i : Nat) ↦ (L.norm (L.str (L.Sq.mk l.n fun (i : Nat) ↦ l.g i))).g i) = (0 : Int)) then true else !L.validOutline (L.Sq.mk (L.outN (L.Sq.mk l.n fun (i : Nat) ↦ l.g i)) fun (i : Nat) ↦ (L.norm (L.str (L.Sq.mk l.n fun (i : Nat) ↦ l.g i))).g i) then true else !L.sameP (L.Sq.mk (L.outN (L.Sq.mk (L.outN (L.Sq.mk l.n fun (i : Nat) ↦ l.g
 i)) fun (i : Nat) ↦ (L.norm (L.str (L.Sq.mk l.n fun (i : Nat) ↦ l.g i))).g i)) fun (i : Nat) ↦ (L.norm (L.str (L.Sq.mk (L.outN (L.Sq.mk l.n fun (i : Nat) ↦ l.g i)) fun (i : Nat) ↦ (L.norm (L.str (L.Sq.mk l.n fun (i : Nat) ↦ l.g i))).g i))).g i) (L.Sq.mk (L.outN (L.Sq.mk l.n fun (i : Nat) ↦ l.g i)) fun (i : Nat) ↦ (L.norm (L.str (L.Sq.mk l.n fun (i : Nat) ↦ l.g i))).g i) then true else
 decide ((↑(L.outN (L.Sq.mk l.n fun (i : Nat) ↦ l.g i)) : Int) = (0 : Int))) = true → false = true) ∧ ((bif bif bif !decide (L.outE (L.Sq.mk (L.outN (L.Sq.mk l.n fun (i : Nat) ↦ l.g i)) fun (i : Nat) ↦ (L.norm (L.str (L.Sq.mk l.n fun (i : Nat) ↦ l.g i))).g i) = (0 : Int)) then true else !L.validOutline (L.Sq.mk (L.outN (L.Sq.mk l.n fun (i : Nat) ↦ l.g i)) fun
 (i : Nat) ↦ (L.norm (L.str (L.Sq.mk l.n fun (i : Nat) ↦ l.g i))).g i) then true else !L.sameP (L.Sq.mk (L.outN (L.Sq.mk (L.outN (L.Sq.mk l.n fun (i : Nat) ↦ l.g i)) fun (i : Nat) ↦ (L.norm (L.str (L.Sq.mk l.n fun (i : Nat) ↦ l.g i))).g i)) fun (i : Nat) ↦ (L.norm (L.str (L.Sq.mk (L.outN (L.Sq.mk l.n fun (i : Nat) ↦ l.g i)) fun (i : Nat) ↦ (L.norm (L.str (L.Sq.mk l.n fun (i : Nat) ↦ l.g i))).g
 i))).g i) (L.Sq.mk (L.outN (L.Sq.mk l.n fun (i : Nat) ↦ l.g i)) fun (i : Nat) ↦ (L.norm (L.str (L.Sq.mk l.n fun (i : Nat) ↦ l.g i))).g i) then true else decide ((↑(L.outN (L.Sq.mk l.n fun (i : Nat) ↦ l.g i)) : Int) = (0 : Int))) = false → (InK .i64 k ∧ (0 : Int) < (↑(L.outN (L.Sq.mk l.n fun (i : Nat) ↦ l.g i)) : Int)) ∧ ((0 : Int) ≤ L.lidx k (↑(L.outN (L.Sq.mk
 l.n fun (i : Nat) ↦ l.g i)) : Int) ∧ L.lidx k (↑(L.outN (L.Sq.mk l.n fun (i : Nat) ↦ l.g i)) : Int) < (↑(L.outN (L.Sq.mk l.n fun (i : Nat) ↦ l.g i)) : Int)) ∧ InK .i64 (L.lidx k (↑(L.outN (L.Sq.mk l.n fun (i : Nat) ↦ l.g i)) : Int) + (1 : Int)) ∧ (↑(L.outN (L.Sq.mk l.n fun (i : Nat) ↦ l.g i)) : Int) ≠ (0 : Int) ∧ ((0 : Int) ≤ Int.tmod (L.lidx k (↑(L.outN (L.Sq.mk l.n fun (i : Nat)
 ↦ l.g i)) : Int) + (1 : Int)) (↑(L.outN (L.Sq.mk l.n fun (i : Nat) ↦ l.g i)) : Int) ∧ Int.tmod (L.lidx k (↑(L.outN (L.Sq.mk l.n fun (i : Nat) ↦ l.g i)) : Int) + (1 : Int)) (↑(L.outN (L.Sq.mk l.n fun (i : Nat) ↦ l.g i)) : Int) < (↑(L.outN (L.Sq.mk l.n fun (i : Nat) ↦ l.g i)) : Int)) ∧ InK .i64 (((L.norm (L.str (L.Sq.mk l.n fun (i : Nat) ↦ l.g i))).g (Int.toNat (L.lidx k (↑(L.outN
 (L.Sq.mk l.n fun (i : Nat) ↦ l.g i)) : Int)))).x + ((L.norm (L.str (L.Sq.mk l.n fun (i : Nat) ↦ l.g i))).g (Int.toNat (Int.tmod (L.lidx k (↑(L.outN (L.Sq.mk l.n fun (i : Nat) ↦ l.g i)) : Int) + (1 : Int)) (↑(L.outN (L.Sq.mk l.n fun (i : Nat) ↦ l.g i)) : Int)))).x) ∧ (2 : Int) ≠ (0 : Int) ∧ InK .i64 (Int.tdiv (((L.norm (L.str (L.Sq.mk l.n fun (i : Nat) ↦ l.g i))).g (Int.toNat
 (L.lidx k (↑(L.outN (L.Sq.mk l.n fun (i : Nat) ↦ l.g i)) : Int)))).x + ((L.norm (L.str (L.Sq.mk l.n fun (i : Nat) ↦ l.g i))).g (Int.toNat (Int.tmod (L.lidx k (↑(L.outN (L.Sq.mk l.n fun (i : Nat) ↦ l.g i)) : Int) + (1 : Int)) (↑(L.outN (L.Sq.mk l.n fun (i : Nat) ↦ l.g i)) : Int)))).x) (2 : Int)) ∧ InK .i64 (((L.norm (L.str (L.Sq.mk l.n fun (i : Nat) ↦ l.g i))).g (Int.toNat (L.lidx k
 (↑(L.outN (L.Sq.mk l.n fun (i : Nat) ↦ l.g i)) : Int)))).y + ((L.norm (L.str (L.Sq.mk l.n fun (i : Nat) ↦ l.g i))).g (Int.toNat (Int.tmod (L.lidx k (↑(L.outN (L.Sq.mk l.n fun (i : Nat) ↦ l.g i)) : Int) + (1 : Int)) (↑(L.outN (L.Sq.mk l.n fun (i : Nat) ↦ l.g i)) : Int)))).y) ∧ (2 : Int) ≠ (0 : Int) ∧ InK .i64 (Int.tdiv (((L.norm (L.str (L.Sq.mk l.n fun (i : Nat) ↦ l.g i))).g
 (Int.toNat (L.lidx k (↑(L.outN (L.Sq.mk l.n fun (i : Nat) ↦ l.g i)) : Int)))).y + ((L.norm (L.str (L.Sq.mk l.n fun (i : Nat) ↦ l.g i))).g (Int.toNat (Int.tmod (L.lidx k (↑(L.outN (L.Sq.mk l.n fun (i : Nat) ↦ l.g i)) : Int) + (1 : Int)) (↑(L.outN (L.Sq.mk l.n fun (i : Nat) ↦ l.g i)) : Int)))).y) (2 : Int)) ∧ (L.bd ((L.norm (L.str (L.Sq.mk l.n fun (i : Nat) ↦ l.g i))).g (Int.toNat (L.lidx k
 (↑(L.outN (L.Sq.mk l.n fun (i : Nat) ↦ l.g i)) : Int)))) ∧ L.bd ((L.norm (L.str (L.Sq.mk l.n fun (i : Nat) ↦ l.g i))).g (Int.toNat (Int.tmod (L.lidx k (↑(L.outN (L.Sq.mk l.n fun (i : Nat) ↦ l.g i)) : Int) + (1 : Int)) (↑(L.outN (L.Sq.mk l.n fun (i : Nat) ↦ l.g i)) : Int)))) ∧ L.bd (L.Pt.mk (Int.tdiv (((L.norm (L.str (L.Sq.mk l.n fun (i : Nat) ↦ l.g i))).g (Int.toNat (L.lidx k (↑(L.outN (L.Sq.mk
 l.n fun (i : Nat) ↦ l.g i)) : Int)))).x + ((L.norm (L.str (L.Sq.mk l.n fun (i : Nat) ↦ l.g i))).g (Int.toNat (Int.tmod (L.lidx k (↑(L.outN (L.Sq.mk l.n fun (i : Nat) ↦ l.g i)) : Int) + (1 : Int)) (↑(L.outN (L.Sq.mk l.n fun (i : Nat) ↦ l.g i)) : Int)))).x) (2 : Int)) (Int.tdiv (((L.norm (L.str (L.Sq.mk l.n fun (i : Nat) ↦ l.g i))).g (Int.toNat (L.lidx k (↑(L.outN (L.Sq.mk l.n fun (i : Nat) ↦ l.g
 i)) : Int)))).y + ((L.norm (L.str (L.Sq.mk l.n fun (i : Nat) ↦ l.g i))).g (Int.toNat (Int.tmod (L.lidx k (↑(L.outN (L.Sq.mk l.n fun (i : Nat) ↦ l.g i)) : Int) + (1 : Int)) (↑(L.outN (L.Sq.mk l.n fun (i : Nat) ↦ l.g i)) : Int)))).y) (2 : Int)))) ∧ ((!decide (L.cross ((L.norm (L.str (L.Sq.mk l.n fun (i : Nat) ↦ l.g i))).g (Int.toNat (L.lidx k (↑(L.outN (L.Sq.mk l.n fun (i : Nat) ↦ l.g i))
 : Int)))) ((L.norm (L.str (L.Sq.mk l.n fun (i : Nat) ↦ l.g i))).g (Int.toNat (Int.tmod (L.lidx k (↑(L.outN (L.Sq.mk l.n fun (i : Nat) ↦ l.g i)) : Int) + (1 : Int)) (↑(L.outN (L.Sq.mk l.n fun (i : Nat) ↦ l.g i)) : Int)))) (L.Pt.mk (Int.tdiv (((L.norm (L.str (L.Sq.mk l.n fun (i : Nat) ↦ l.g i))).g (Int.toNat (L.lidx k (↑(L.outN (L.Sq.mk l.n fun (i : Nat) ↦ l.g i)) : Int)))).x + ((L.norm (L.str
 (L.Sq.mk l.n fun (i : Nat) ↦ l.g i))).g (Int.toNat (Int.tmod (L.lidx k (↑(L.outN (L.Sq.mk l.n fun (i : Nat) ↦ l.g i)) : Int) + (1 : Int)) (↑(L.outN (L.Sq.mk l.n fun (i : Nat) ↦ l.g i)) : Int)))).x) (2 : Int)) (Int.tdiv (((L.norm (L.str (L.Sq.mk l.n fun (i : Nat) ↦ l.g i))).g (Int.toNat (L.lidx k (↑(L.outN (L.Sq.mk l.n fun (i : Nat) ↦ l.g i)) : Int)))).y + ((L.norm (L.str (L.Sq.mk l.n fun (i : Nat)
 ↦ l.g i))).g (Int.toNat (Int.tmod (L.lidx k (↑(L.outN (L.Sq.mk l.n fun (i : Nat) ↦ l.g i)) : Int) + (1 : Int)) (↑(L.outN (L.Sq.mk l.n fun (i : Nat) ↦ l.g i)) : Int)))).y) (2 : Int))) = (0 : Int))) = true → true = true) ∧ ((!decide (L.cross ((L.norm (L.str (L.Sq.mk l.n fun (i : Nat) ↦ l.g i))).g (Int.toNat (L.lidx k (↑(L.outN (L.Sq.mk l.n fun (i : Nat) ↦ l.g i)) : Int))))
 ((L.norm (L.str (L.Sq.mk l.n fun (i : Nat) ↦ l.g i))).g (Int.toNat (Int.tmod (L.lidx k (↑(L.outN (L.Sq.mk l.n fun (i : Nat) ↦ l.g i)) : Int) + (1 : Int)) (↑(L.outN (L.Sq.mk l.n fun (i : Nat) ↦ l.g i)) : Int)))) (L.Pt.mk (Int.tdiv (((L.norm (L.str (L.Sq.mk l.n fun (i : Nat) ↦ l.g i))).g (Int.toNat (L.lidx k (↑(L.outN (L.Sq.mk l.n fun (i : Nat) ↦ l.g i)) : Int)))).x + ((L.norm (L.str (L.Sq.mk l.n
 fun (i : Nat) ↦ l.g i))).g (Int.toNat (Int.tmod (L.lidx k (↑(L.outN (L.Sq.mk l.n fun (i : Nat) ↦ l.g i)) : Int) + (1 : Int)) (↑(L.outN (L.Sq.mk l.n fun (i : Nat) ↦ l.g i)) : Int)))).x) (2 : Int)) (Int.tdiv (((L.norm (L.str (L.Sq.mk l.n fun (i : Nat) ↦ l.g i))).g (Int.toNat (L.lidx k (↑(L.outN (L.Sq.mk l.n fun (i : Nat) ↦ l.g i)) : Int)))).y + ((L.norm (L.str (L.Sq.mk l.n fun (i : Nat) ↦ l.g i))).g
 (Int.toNat (Int.tmod (L.lidx k (↑(L.outN (L.Sq.mk l.n fun (i : Nat) ↦ l.g i)) : Int) + (1 : Int)) (↑(L.outN (L.Sq.mk l.n fun (i : Nat) ↦ l.g i)) : Int)))).y) (2 : Int))) = (0 : Int))) = false → InK .i64 (L.lidx k (↑(L.outN (L.Sq.mk l.n fun (i : Nat) ↦ l.g i)) : Int) + (1 : Int)) ∧ ((0 : Int) ≤ (0 : Int) ∧ (0 : Int) ≤ L.lidx k (↑(L.outN (L.Sq.mk l.n fun (i : Nat) ↦ l.g i)) :
 Int) + (1 : Int) ∧ L.lidx k (↑(L.outN (L.Sq.mk l.n fun (i : Nat) ↦ l.g i)) : Int) + (1 : Int) ≤ (↑(L.outN (L.Sq.mk l.n fun (i : Nat) ↦ l.g i)) : Int)) ∧ (nat_lit 0 + Int.toNat (L.lidx k (↑(L.outN (L.Sq.mk l.n fun (i : Nat) ↦ l.g i)) : Int) + (1 : Int) - (0 : Int))) * nat_lit 16 ≤ (140737488355328 : Nat) ∧ (nat_lit 0 + Int.toNat (L.lidx k (↑(L.outN (L.Sq.mk l.n fun (i : Nat) ↦ l.g i)) : Int) + (1 :
 Int) - (0 : Int)) + nat_lit 1) * nat_lit 16 ≤ (140737488355328 : Nat) ∧ InK .i64 (L.lidx k (↑(L.outN (L.Sq.mk l.n fun (i : Nat) ↦ l.g i)) : Int) + (1 : Int)) ∧ ((0 : Int) ≤ L.lidx k (↑(L.outN (L.Sq.mk l.n fun (i : Nat) ↦ l.g i)) : Int) + (1 : Int) ∧ L.lidx k (↑(L.outN (L.Sq.mk l.n fun (i : Nat) ↦ l.g i)) : Int) + (1 : Int) ≤ (↑(L.outN (L.Sq.mk l.n fun (i : Nat) ↦ l.g i)) : Int) ∧
 (↑(L.outN (L.Sq.mk l.n fun (i : Nat) ↦ l.g i)) : Int) ≤ (↑(L.outN (L.Sq.mk l.n fun (i : Nat) ↦ l.g i)) : Int)) ∧ (nat_lit 0 + Int.toNat (L.lidx k (↑(L.outN (L.Sq.mk l.n fun (i : Nat) ↦ l.g i)) : Int) + (1 : Int) - (0 : Int)) + nat_lit 1 + Int.toNat ((↑(L.outN (L.Sq.mk l.n fun (i : Nat) ↦ l.g i)) : Int) - (L.lidx k (↑(L.outN (L.Sq.mk l.n fun (i : Nat) ↦ l.g i)) : Int) + (1 : Int)))) * nat_lit 16 ≤
 (140737488355328 : Nat) ∧ ((∀ (i : Nat), i < nat_lit 0 + Int.toNat (L.lidx k (↑(L.outN (L.Sq.mk l.n fun (i : Nat) ↦ l.g i)) : Int) + (1 : Int) - (0 : Int)) + nat_lit 1 + Int.toNat ((↑(L.outN (L.Sq.mk l.n fun (i : Nat) ↦ l.g i)) : Int) - (L.lidx k (↑(L.outN (L.Sq.mk l.n fun (i : Nat) ↦ l.g i)) : Int) + (1 : Int))) → appGet (nat_lit 0 + Int.toNat (L.lidx k (↑(L.outN (L.Sq.mk l.n fun (i : Nat)
 ↦ l.g i)) : Int) + (1 : Int) - (0 : Int)) + nat_lit 1) (appGet (nat_lit 0 + Int.toNat (L.lidx k (↑(L.outN (L.Sq.mk l.n fun (i : Nat) ↦ l.g i)) : Int) + (1 : Int) - (0 : Int))) (appGet (nat_lit 0) (fun (x : Nat) ↦ []) fun (i : Nat) ↦ [SV.int .i64 ((L.norm (L.str (L.Sq.mk l.n fun (i : Nat) ↦ l.g i))).g (Int.toNat (0 : Int) + i)).x, SV.int .i64 ((L.norm
 (L.str (L.Sq.mk l.n fun (i : Nat) ↦ l.g i))).g (Int.toNat (0 : Int) + i)).y]) fun (x : Nat) ↦ [SV.int .i64 (Int.tdiv (((L.norm (L.str (L.Sq.mk l.n fun (i : Nat) ↦ l.g i))).g (Int.toNat (L.lidx k (↑(L.outN (L.Sq.mk l.n fun (i : Nat) ↦ l.g i)) : Int)))).x + ((L.norm (L.str (L.Sq.mk l.n fun (i : Nat) ↦ l.g i))).g (Int.toNat (Int.tmod (L.lidx k (↑(L.outN (L.Sq.mk l.n fun (i : Nat) ↦
 l.g i)) : Int) + (1 : Int)) (↑(L.outN (L.Sq.mk l.n fun (i : Nat) ↦ l.g i)) : Int)))).x) (2 : Int)), SV.int .i64 (Int.tdiv (((L.norm (L.str (L.Sq.mk l.n fun (i : Nat) ↦ l.g i))).g (Int.toNat (L.lidx k (↑(L.outN (L.Sq.mk l.n fun (i : Nat) ↦ l.g i)) : Int)))).y + ((L.norm (L.str (L.Sq.mk l.n fun (i : Nat) ↦ l.g i))).g (Int.toNat (Int.tmod (L.lidx k (↑(L.outN (L.Sq.mk l.n fun (i : Nat)
 ↦ l.g i)) : Int) + (1 : Int)) (↑(L.outN (L.Sq.mk l.n fun (i : Nat) ↦ l.g i)) : Int)))).y) (2 : Int))]) (fun (i : Nat) ↦ [SV.int .i64 ((L.norm (L.str (L.Sq.mk l.n fun (i : Nat) ↦ l.g i))).g (Int.toNat (L.lidx k (↑(L.outN (L.Sq.mk l.n fun (i : Nat) ↦ l.g i)) : Int) + (1 : Int)) + i)).x, SV.int .i64 ((L.norm (L.str (L.Sq.mk l.n fun (i : Nat) ↦ l.g i))).g (Int.toNat
 (L.lidx k (↑(L.outN (L.Sq.mk l.n fun (i : Nat) ↦ l.g i)) : Int) + (1 : Int)) + i)).y]) i = [SV.int .i64 (ofPt (appGet (nat_lit 0 + Int.toNat (L.lidx k (↑(L.outN (L.Sq.mk l.n fun (i : Nat) ↦ l.g i)) : Int) + (1 : Int) - (0 : Int)) + nat_lit 1) (appGet (nat_lit 0 + Int.toNat (L.lidx k (↑(L.outN (L.Sq.mk l.n fun (i : Nat) ↦ l.g i)) : Int) + (1 : Int) - (0 : Int)))
 (appGet (nat_lit 0) (fun (x : Nat) ↦ []) fun (i : Nat) ↦ [SV.int .i64 ((L.norm (L.str (L.Sq.mk l.n fun (i : Nat) ↦ l.g i))).g (Int.toNat (0 : Int) + i)).x, SV.int .i64 ((L.norm (L.str (L.Sq.mk l.n fun (i : Nat) ↦ l.g i))).g (Int.toNat (0 : Int) + i)).y]) fun (x : Nat) ↦ [SV.int .i64 (Int.tdiv (((L.norm (L.str (L.Sq.mk l.n fun (i : Nat) ↦ l.g
 i))).g (Int.toNat (L.lidx k (↑(L.outN (L.Sq.mk l.n fun (i : Nat) ↦ l.g i)) : Int)))).x + ((L.norm (L.str (L.Sq.mk l.n fun (i : Nat) ↦ l.g i))).g (Int.toNat (Int.tmod (L.lidx k (↑(L.outN (L.Sq.mk l.n fun (i : Nat) ↦ l.g i)) : Int) + (1 : Int)) (↑(L.outN (L.Sq.mk l.n fun (i : Nat) ↦ l.g i)) : Int)))).x) (2 : Int)), SV.int .i64 (Int.tdiv (((L.norm (L.str (L.Sq.mk l.n fun (i : Nat) ↦
 l.g i))).g (Int.toNat (L.lidx k (↑(L.outN (L.Sq.mk l.n fun (i : Nat) ↦ l.g i)) : Int)))).y + ((L.norm (L.str (L.Sq.mk l.n fun (i : Nat) ↦ l.g i))).g (Int.toNat (Int.tmod (L.lidx k (↑(L.outN (L.Sq.mk l.n fun (i : Nat) ↦ l.g i)) : Int) + (1 : Int)) (↑(L.outN (L.Sq.mk l.n fun (i : Nat) ↦ l.g i)) : Int)))).y) (2 : Int))]) (fun (i : Nat) ↦ [SV.int .i64 ((L.norm (L.str (L.Sq.mk l.n fun
 (i : Nat) ↦ l.g i))).g (Int.toNat (L.lidx k (↑(L.outN (L.Sq.mk l.n fun (i : Nat) ↦ l.g i)) : Int) + (1 : Int)) + i)).x, SV.int .i64 ((L.norm (L.str (L.Sq.mk l.n fun (i : Nat) ↦ l.g i))).g (Int.toNat (L.lidx k (↑(L.outN (L.Sq.mk l.n fun (i : Nat) ↦ l.g i)) : Int) + (1 : Int)) + i)).y]) i)).x, SV.int .i64 (ofPt (appGet (nat_lit 0 + Int.toNat (L.lidx k (↑(L.outN
 (L.Sq.mk l.n fun (i : Nat) ↦ l.g i)) : Int) + (1 : Int) - (0 : Int)) + nat_lit 1) (appGet (nat_lit 0 + Int.toNat (L.lidx k (↑(L.outN (L.Sq.mk l.n fun (i : Nat) ↦ l.g i)) : Int) + (1 : Int) - (0 : Int))) (appGet (nat_lit 0) (fun (x : Nat) ↦ []) fun (i : Nat) ↦ [SV.int .i64 ((L.norm (L.str (L.Sq.mk l.n fun (i : Nat) ↦ l.g i))).g (Int.toNat (0 : Int) + i)).x, SV.int
 .i64 ((L.norm (L.str (L.Sq.mk l.n fun (i : Nat) ↦ l.g i))).g (Int.toNat (0 : Int) + i)).y]) fun (x : Nat) ↦ [SV.int .i64 (Int.tdiv (((L.norm (L.str (L.Sq.mk l.n fun (i : Nat) ↦ l.g i))).g (Int.toNat (L.lidx k (↑(L.outN (L.Sq.mk l.n fun (i : Nat) ↦ l.g i)) : Int)))).x + ((L.norm (L.str (L.Sq.mk l.n fun (i : Nat) ↦ l.g i))).g (Int.toNat (Int.tmod (L.lidx k (↑(L.outN
 (L.Sq.mk l.n fun (i : Nat) ↦ l.g i)) : Int) + (1 : Int)) (↑(L.outN (L.Sq.mk l.n fun (i : Nat) ↦ l.g i)) : Int)))).x) (2 : Int)), SV.int .i64 (Int.tdiv (((L.norm (L.str (L.Sq.mk l.n fun (i : Nat) ↦ l.g i))).g (Int.toNat (L.lidx k (↑(L.outN (L.Sq.mk l.n fun (i : Nat) ↦ l.g i)) : Int)))).y + ((L.norm (L.str (L.Sq.mk l.n fun (i : Nat) ↦ l.g i))).g (Int.toNat (Int.tmod (L.lidx k
 (↑(L.outN (L.Sq.mk l.n fun (i : Nat) ↦ l.g i)) : Int) + (1 : Int)) (↑(L.outN (L.Sq.mk l.n fun (i : Nat) ↦ l.g i)) : Int)))).y) (2 : Int))]) (fun (i : Nat) ↦ [SV.int .i64 ((L.norm (L.str (L.Sq.mk l.n fun (i : Nat) ↦ l.g i))).g (Int.toNat (L.lidx k (↑(L.outN (L.Sq.mk l.n fun (i : Nat) ↦ l.g i)) : Int) + (1 : Int)) + i)).x, SV.int .i64 ((L.norm (L.str (L.Sq.mk l.n fun
 (i : Nat) ↦ l.g i))).g (Int.toNat (L.lidx k (↑(L.outN (L.Sq.mk l.n fun (i : Nat) ↦ l.g i)) : Int) + (1 : Int)) + i)).y]) i)).y]) ∧ nat_lit 0 + Int.toNat (L.lidx k (↑(L.outN (L.Sq.mk l.n fun (i : Nat) ↦ l.g i)) : Int) + (1 : Int) - (0 : Int)) + nat_lit 1 + Int.toNat ((↑(L.outN (L.Sq.mk l.n fun (i : Nat) ↦ l.g i)) : Int) - (L.lidx k (↑(L.outN (L.Sq.mk l.n fun (i : Nat) ↦ l.g i)) : Int) + (1 : Int)))
 ≤ (1000000 : Nat)) ∧ ((bif true then decide (L.outE (L.Sq.mk (nat_lit 0 + Int.toNat (L.lidx k (↑(L.outN (L.Sq.mk l.n fun (i : Nat) ↦ l.g i)) : Int) + (1 : Int) - (0 : Int)) + nat_lit 1 + Int.toNat ((↑(L.outN (L.Sq.mk l.n fun (i : Nat) ↦ l.g i)) : Int) - (L.lidx k (↑(L.outN (L.Sq.mk l.n fun (i : Nat) ↦ l.g i)) : Int) + (1 : Int)))) fun (i : Nat) ↦ ofPt (appGet (nat_lit 0 +
 Int.toNat (L.lidx k (↑(L.outN (L.Sq.mk l.n fun (i : Nat) ↦ l.g i)) : Int) + (1 : Int) - (0 : Int)) + nat_lit 1) (appGet (nat_lit 0 + Int.toNat (L.lidx k (↑(L.outN (L.Sq.mk l.n fun (i : Nat) ↦ l.g i)) : Int) + (1 : Int) - (0 : Int))) (appGet (nat_lit 0) (fun (x : Nat) ↦ []) fun (i : Nat) ↦ [SV.int .i64 ((L.norm (L.str (L.Sq.mk l.n fun (i : Nat) ↦ l.g i))).g (Int.toNat (0
 : Int) + i)).x, SV.int .i64 ((L.norm (L.str (L.Sq.mk l.n fun (i : Nat) ↦ l.g i))).g (Int.toNat (0 : Int) + i)).y]) fun (x : Nat) ↦ [SV.int .i64 (Int.tdiv (((L.norm (L.str (L.Sq.mk l.n fun (i : Nat) ↦ l.g i))).g (Int.toNat (L.lidx k (↑(L.outN (L.Sq.mk l.n fun (i : Nat) ↦ l.g i)) : Int)))).x + ((L.norm (L.str (L.Sq.mk l.n fun (i : Nat) ↦ l.g i))).g (Int.toNat
 (Int.tmod (L.lidx k (↑(L.outN (L.Sq.mk l.n fun (i : Nat) ↦ l.g i)) : Int) + (1 : Int)) (↑(L.outN (L.Sq.mk l.n fun (i : Nat) ↦ l.g i)) : Int)))).x) (2 : Int)), SV.int .i64 (Int.tdiv (((L.norm (L.str (L.Sq.mk l.n fun (i : Nat) ↦ l.g i))).g (Int.toNat (L.lidx k (↑(L.outN (L.Sq.mk l.n fun (i : Nat) ↦ l.g i)) : Int)))).y + ((L.norm (L.str (L.Sq.mk l.n fun (i : Nat) ↦ l.g i))).g
 (Int.toNat (Int.tmod (L.lidx k (↑(L.outN (L.Sq.mk l.n fun (i : Nat) ↦ l.g i)) : Int) + (1 : Int)) (↑(L.outN (L.Sq.mk l.n fun (i : Nat) ↦ l.g i)) : Int)))).y) (2 : Int))]) (fun (i : Nat) ↦ [SV.int .i64 ((L.norm (L.str (L.Sq.mk l.n fun (i : Nat) ↦ l.g i))).g (Int.toNat (L.lidx k (↑(L.outN (L.Sq.mk l.n fun (i : Nat) ↦ l.g i)) : Int) + (1 : Int)) + i)).x, SV.int .i64
 ((L.norm (L.str (L.Sq.mk l.n fun (i : Nat) ↦ l.g i))).g (Int.toNat (L.lidx k (↑(L.outN (L.Sq.mk l.n fun (i : Nat) ↦ l.g i)) : Int) + (1 : Int)) + i)).y]) i)) = (0 : Int)) else false) = true → (∀ (i : Nat), i < L.outN (L.Sq.mk (nat_lit 0 + Int.toNat (L.lidx k (↑(L.outN (L.Sq.mk l.n fun (i : Nat) ↦ l.g i)) : Int) + (1 : Int) - (0 : Int)) + nat_lit 1 + Int.toNat ((↑(L.outN (L.Sq.mk l.n fun
 (i : Nat) ↦ l.g i)) : Int) - (L.lidx k (↑(L.outN (L.Sq.mk l.n fun (i : Nat) ↦ l.g i)) : Int) + (1 : Int)))) fun (i : Nat) ↦ ofPt (appGet (nat_lit 0 + Int.toNat (L.lidx k (↑(L.outN (L.Sq.mk l.n fun (i : Nat) ↦ l.g i)) : Int) + (1 : Int) - (0 : Int)) + nat_lit 1) (appGet (nat_lit 0 + Int.toNat (L.lidx k (↑(L.outN (L.Sq.mk l.n fun (i : Nat) ↦ l.g i)) : Int) + (1 : Int) - (0 : Int)))
 (appGet (nat_lit 0) (fun (x : Nat) ↦ []) fun (i : Nat) ↦ [SV.int .i64 ((L.norm (L.str (L.Sq.mk l.n fun (i : Nat) ↦ l.g i))).g (Int.toNat (0 : Int) + i)).x, SV.int .i64 ((L.norm (L.str (L.Sq.mk l.n fun (i : Nat) ↦ l.g i))).g (Int.toNat (0 : Int) + i)).y]) fun (x : Nat) ↦ [SV.int .i64 (Int.tdiv (((L.norm (L.str (L.Sq.mk l.n fun (i : Nat) ↦ l.g
 i))).g (Int.toNat (L.lidx k (↑(L.outN (L.Sq.mk l.n fun (i : Nat) ↦ l.g i)) : Int)))).x + ((L.norm (L.str (L.Sq.mk l.n fun (i : Nat) ↦ l.g i))).g (Int.toNat (Int.tmod (L.lidx k (↑(L.outN (L.Sq.mk l.n fun (i : Nat) ↦ l.g i)) : Int) + (1 : Int)) (↑(L.outN (L.Sq.mk l.n fun (i : Nat) ↦ l.g i)) : Int)))).x) (2 : Int)), SV.int .i64 (Int.tdiv (((L.norm (L.str (L.Sq.mk l.n fun (i : Nat) ↦
 l.g i))).g (Int.toNat (L.lidx k (↑(L.outN (L.Sq.mk l.n fun (i : Nat) ↦ l.g i)) : Int)))).y + ((L.norm (L.str (L.Sq.mk l.n fun (i : Nat) ↦ l.g i))).g (Int.toNat (Int.tmod (L.lidx k (↑(L.outN (L.Sq.mk l.n fun (i : Nat) ↦ l.g i)) : Int) + (1 : Int)) (↑(L.outN (L.Sq.mk l.n fun (i : Nat) ↦ l.g i)) : Int)))).y) (2 : Int))]) (fun (i : Nat) ↦ [SV.int .i64 ((L.norm (L.str (L.Sq.mk l.n fun
 (i : Nat) ↦ l.g i))).g (Int.toNat (L.lidx k (↑(L.outN (L.Sq.mk l.n fun (i : Nat) ↦ l.g i)) : Int) + (1 : Int)) + i)).x, SV.int .i64 ((L.norm (L.str (L.Sq.mk l.n fun (i : Nat) ↦ l.g i))).g (Int.toNat (L.lidx k (↑(L.outN (L.Sq.mk l.n fun (i : Nat) ↦ l.g i)) : Int) + (1 : Int)) + i)).y]) i)) → [SV.int .i64 ((L.norm (L.str (L.Sq.mk (nat_lit 0 + Int.toNat (L.lidx k
 (↑(L.outN (L.Sq.mk l.n fun (i : Nat) ↦ l.g i)) : Int) + (1 : Int) - (0 : Int)) + nat_lit 1 + Int.toNat ((↑(L.outN (L.Sq.mk l.n fun (i : Nat) ↦ l.g i)) : Int) - (L.lidx k (↑(L.outN (L.Sq.mk l.n fun (i : Nat) ↦ l.g i)) : Int) + (1 : Int)))) fun (i : Nat) ↦ ofPt (appGet (nat_lit 0 + Int.toNat (L.lidx k (↑(L.outN (L.Sq.mk l.n fun (i : Nat) ↦ l.g i)) : Int) + (1 : Int) - (0 : Int)) + nat_lit 1)
 (appGet (nat_lit 0 + Int.toNat (L.lidx k (↑(L.outN (L.Sq.mk l.n fun (i : Nat) ↦ l.g i)) : Int) + (1 : Int) - (0 : Int))) (appGet (nat_lit 0) (fun (x : Nat) ↦ []) fun (i : Nat) ↦ [SV.int .i64 ((L.norm (L.str (L.Sq.mk l.n fun (i : Nat) ↦ l.g i))).g (Int.toNat (0 : Int) + i)).x, SV.int .i64 ((L.norm (L.str (L.Sq.mk l.n fun (i : Nat) ↦ l.g i))).g (Int.toNat
 (0 : Int) + i)).y]) fun (x : Nat) ↦ [SV.int .i64 (Int.tdiv (((L.norm (L.str (L.Sq.mk l.n fun (i : Nat) ↦ l.g i))).g (Int.toNat (L.lidx k (↑(L.outN (L.Sq.mk l.n fun (i : Nat) ↦ l.g i)) : Int)))).x + ((L.norm (L.str (L.Sq.mk l.n fun (i : Nat) ↦ l.g i))).g (Int.toNat (Int.tmod (L.lidx k (↑(L.outN (L.Sq.mk l.n fun (i : Nat) ↦ l.g i)) : Int) + (1 : Int)) (↑(L.outN (L.Sq.mk l.n fun (i :
 Nat) ↦ l.g i)) : Int)))).x) (2 : Int)), SV.int .i64 (Int.tdiv (((L.norm (L.str (L.Sq.mk l.n fun (i : Nat) ↦ l.g i))).g (Int.toNat (L.lidx k (↑(L.outN (L.Sq.mk l.n fun (i : Nat) ↦ l.g i)) : Int)))).y + ((L.norm (L.str (L.Sq.mk l.n fun (i : Nat) ↦ l.g i))).g (Int.toNat (Int.tmod (L.lidx k (↑(L.outN (L.Sq.mk l.n fun (i : Nat) ↦ l.g i)) : Int) + (1 : Int)) (↑(L.outN (L.Sq.mk l.n fun (i
 : Nat) ↦ l.g i)) : Int)))).y) (2 : Int))]) (fun (i : Nat) ↦ [SV.int .i64 ((L.norm (L.str (L.Sq.mk l.n fun (i : Nat) ↦ l.g i))).g (Int.toNat (L.lidx k (↑(L.outN (L.Sq.mk l.n fun (i : Nat) ↦ l.g i)) : Int) + (1 : Int)) + i)).x, SV.int .i64 ((L.norm (L.str (L.Sq.mk l.n fun (i : Nat) ↦ l.g i))).g (Int.toNat (L.lidx k (↑(L.outN (L.Sq.mk l.n fun (i : Nat) ↦ l.g i)) : Int)
 + (1 : Int)) + i)).y]) i)))).g i).x, SV.int .i64 ((L.norm (L.str (L.Sq.mk (nat_lit 0 + Int.toNat (L.lidx k (↑(L.outN (L.Sq.mk l.n fun (i : Nat) ↦ l.g i)) : Int) + (1 : Int) - (0 : Int)) + nat_lit 1 + Int.toNat ((↑(L.outN (L.Sq.mk l.n fun (i : Nat) ↦ l.g i)) : Int) - (L.lidx k (↑(L.outN (L.Sq.mk l.n fun (i : Nat) ↦ l.g i)) : Int) + (1 : Int)))) fun (i : Nat) ↦ ofPt (appGet
 (nat_lit 0 + Int.toNat (L.lidx k (↑(L.outN (L.Sq.mk l.n fun (i : Nat) ↦ l.g i)) : Int) + (1 : Int) - (0 : Int)) + nat_lit 1) (appGet (nat_lit 0 + Int.toNat (L.lidx k (↑(L.outN (L.Sq.mk l.n fun (i : Nat) ↦ l.g i)) : Int) + (1 : Int) - (0 : Int))) (appGet (nat_lit 0) (fun (x : Nat) ↦ []) fun (i : Nat) ↦ [SV.int .i64 ((L.norm (L.str (L.Sq.mk l.n fun (i : Nat) ↦ l.g i))).g
 (Int.toNat (0 : Int) + i)).x, SV.int .i64 ((L.norm (L.str (L.Sq.mk l.n fun (i : Nat) ↦ l.g i))).g (Int.toNat (0 : Int) + i)).y]) fun (x : Nat) ↦ [SV.int .i64 (Int.tdiv (((L.norm (L.str (L.Sq.mk l.n fun (i : Nat) ↦ l.g i))).g (Int.toNat (L.lidx k (↑(L.outN (L.Sq.mk l.n fun (i : Nat) ↦ l.g i)) : Int)))).x + ((L.norm (L.str (L.Sq.mk l.n fun (i : Nat) ↦ l.g i))).g
 (Int.toNat (Int.tmod (L.lidx k (↑(L.outN (L.Sq.mk l.n fun (i : Nat) ↦ l.g i)) : Int) + (1 : Int)) (↑(L.outN (L.Sq.mk l.n fun (i : Nat) ↦ l.g i)) : Int)))).x) (2 : Int)), SV.int .i64 (Int.tdiv (((L.norm (L.str (L.Sq.mk l.n fun (i : Nat) ↦ l.g i))).g (Int.toNat (L.lidx k (↑(L.outN (L.Sq.mk l.n fun (i : Nat) ↦ l.g i)) : Int)))).y + ((L.norm (L.str (L.Sq.mk l.n fun (i : Nat) ↦ l.g
 i))).g (Int.toNat (Int.tmod (L.lidx k (↑(L.outN (L.Sq.mk l.n fun (i : Nat) ↦ l.g i)) : Int) + (1 : Int)) (↑(L.outN (L.Sq.mk l.n fun (i : Nat) ↦ l.g i)) : Int)))).y) (2 : Int))]) (fun (i : Nat) ↦ [SV.int .i64 ((L.norm (L.str (L.Sq.mk l.n fun (i : Nat) ↦ l.g i))).g (Int.toNat (L.lidx k (↑(L.outN (L.Sq.mk l.n fun (i : Nat) ↦ l.g i)) : Int) + (1 : Int)) + i)).x, SV.int
 .i64 ((L.norm (L.str (L.Sq.mk l.n fun (i : Nat) ↦ l.g i))).g (Int.toNat (L.lidx k (↑(L.outN (L.Sq.mk l.n fun (i : Nat) ↦ l.g i)) : Int) + (1 : Int)) + i)).y]) i)))).g i).y] = [SV.int .i64 ((L.norm (L.str (L.Sq.mk (nat_lit 0 + Int.toNat (L.lidx k (↑(L.outN (L.Sq.mk l.n fun (i : Nat) ↦ l.g i)) : Int) + (1 : Int) - (0 : Int)) + nat_lit 1 + Int.toNat ((↑(L.outN (L.Sq.mk l.n
 fun (i : Nat) ↦ l.g i)) : Int) - (L.lidx k (↑(L.outN (L.Sq.mk l.n fun (i : Nat) ↦ l.g i)) : Int) + (1 : Int)))) fun (i : Nat) ↦ ofPt (appGet (nat_lit 0 + Int.toNat (L.lidx k (↑(L.outN (L.Sq.mk l.n fun (i : Nat) ↦ l.g i)) : Int) + (1 : Int) - (0 : Int)) + nat_lit 1) (appGet (nat_lit 0 + Int.toNat (L.lidx k (↑(L.outN (L.Sq.mk l.n fun (i : Nat) ↦ l.g i)) : Int) + (1 : Int) - (0 : Int)))
 (appGet (nat_lit 0) (fun (x : Nat) ↦ []) fun (i : Nat) ↦ [SV.int .i64 ((L.norm (L.str (L.Sq.mk l.n fun (i : Nat) ↦ l.g i))).g (Int.toNat (0 : Int) + i)).x, SV.int .i64 ((L.norm (L.str (L.Sq.mk l.n fun (i : Nat) ↦ l.g i))).g (Int.toNat (0 : Int) + i)).y]) fun (x : Nat) ↦ [SV.int .i64 (Int.tdiv (((L.norm (L.str (L.Sq.mk l.n fun (i : Nat) ↦ l.g
 i))).g (Int.toNat (L.lidx k (↑(L.outN (L.Sq.mk l.n fun (i : Nat) ↦ l.g i)) : Int)))).x + ((L.norm (L.str (L.Sq.mk l.n fun (i : Nat) ↦ l.g i))).g (Int.toNat (Int.tmod (L.lidx k (↑(L.outN (L.Sq.mk l.n fun (i : Nat) ↦ l.g i)) : Int) + (1 : Int)) (↑(L.outN (L.Sq.mk l.n fun (i : Nat) ↦ l.g i)) : Int)))).x) (2 : Int)), SV.int .i64 (Int.tdiv (((L.norm (L.str (L.Sq.mk l.n fun (i : Nat) ↦
 l.g i))).g (Int.toNat (L.lidx k (↑(L.outN (L.Sq.mk l.n fun (i : Nat) ↦ l.g i)) : Int)))).y + ((L.norm (L.str (L.Sq.mk l.n fun (i : Nat) ↦ l.g i))).g (Int.toNat (Int.tmod (L.lidx k (↑(L.outN (L.Sq.mk l.n fun (i : Nat) ↦ l.g i)) : Int) + (1 : Int)) (↑(L.outN (L.Sq.mk l.n fun (i : Nat) ↦ l.g i)) : Int)))).y) (2 : Int))]) (fun (i : Nat) ↦ [SV.int .i64 ((L.norm (L.str (L.Sq.mk l.n fun
 (i : Nat) ↦ l.g i))).g (Int.toNat (L.lidx k (↑(L.outN (L.Sq.mk l.n fun (i : Nat) ↦ l.g i)) : Int) + (1 : Int)) + i)).x, SV.int .i64 ((L.norm (L.str (L.Sq.mk l.n fun (i : Nat) ↦ l.g i))).g (Int.toNat (L.lidx k (↑(L.outN (L.Sq.mk l.n fun (i : Nat) ↦ l.g i)) : Int) + (1 : Int)) + i)).y]) i)))).g i).x, SV.int .i64 ((L.norm (L.str (L.Sq.mk (nat_lit 0 + Int.toNat (L.lidx
 k (↑(L.outN (L.Sq.mk l.n fun (i : Nat) ↦ l.g i)) : Int) + (1 : Int) - (0 : Int)) + nat_lit 1 + Int.toNat ((↑(L.outN (L.Sq.mk l.n fun (i : Nat) ↦ l.g i)) : Int) - (L.lidx k (↑(L.outN (L.Sq.mk l.n fun (i : Nat) ↦ l.g i)) : Int) + (1 : Int)))) fun (i : Nat) ↦ ofPt (appGet (nat_lit 0 + Int.toNat (L.lidx k (↑(L.outN (L.Sq.mk l.n fun (i : Nat) ↦ l.g i)) : Int) + (1 : Int) - (0 : Int)) + nat_lit 1)
 (appGet (nat_lit 0 + Int.toNat (L.lidx k (↑(L.outN (L.Sq.mk l.n fun (i : Nat) ↦ l.g i)) : Int) + (1 : Int) - (0 : Int))) (appGet (nat_lit 0) (fun (x : Nat) ↦ []) fun (i : Nat) ↦ [SV.int .i64 ((L.norm (L.str (L.Sq.mk l.n fun (i : Nat) ↦ l.g i))).g (Int.toNat (0 : Int) + i)).x, SV.int .i64 ((L.norm (L.str (L.Sq.mk l.n fun (i : Nat) ↦ l.g i))).g (Int.toNat
 (0 : Int) + i)).y]) fun (x : Nat) ↦ [SV.int .i64 (Int.tdiv (((L.norm (L.str (L.Sq.mk l.n fun (i : Nat) ↦ l.g i))).g (Int.toNat (L.lidx k (↑(L.outN (L.Sq.mk l.n fun (i : Nat) ↦ l.g i)) : Int)))).x + ((L.norm (L.str (L.Sq.mk l.n fun (i : Nat) ↦ l.g i))).g (Int.toNat (Int.tmod (L.lidx k (↑(L.outN (L.Sq.mk l.n fun (i : Nat) ↦ l.g i)) : Int) + (1 : Int)) (↑(L.outN (L.Sq.mk l.n fun (i :
 Nat) ↦ l.g i)) : Int)))).x) (2 : Int)), SV.int .i64 (Int.tdiv (((L.norm (L.str (L.Sq.mk l.n fun (i : Nat) ↦ l.g i))).g (Int.toNat (L.lidx k (↑(L.outN (L.Sq.mk l.n fun (i : Nat) ↦ l.g i)) : Int)))).y + ((L.norm (L.str (L.Sq.mk l.n fun (i : Nat) ↦ l.g i))).g (Int.toNat (Int.tmod (L.lidx k (↑(L.outN (L.Sq.mk l.n fun (i : Nat) ↦ l.g i)) : Int) + (1 : Int)) (↑(L.outN (L.Sq.mk l.n fun (i
 : Nat) ↦ l.g i)) : Int)))).y) (2 : Int))]) (fun (i : Nat) ↦ [SV.int .i64 ((L.norm (L.str (L.Sq.mk l.n fun (i : Nat) ↦ l.g i))).g (Int.toNat (L.lidx k (↑(L.outN (L.Sq.mk l.n fun (i : Nat) ↦ l.g i)) : Int) + (1 : Int)) + i)).x, SV.int .i64 ((L.norm (L.str (L.Sq.mk l.n fun (i : Nat) ↦ l.g i))).g (Int.toNat (L.lidx k (↑(L.outN (L.Sq.mk l.n fun (i : Nat) ↦ l.g i)) : Int)
 + (1 : Int)) + i)).y]) i)))).g i).y]) ∧ (∀ (i : Nat), i < L.outN (L.Sq.mk l.n fun (i : Nat) ↦ l.g i) → [SV.int .i64 ((L.norm (L.str (L.Sq.mk l.n fun (i : Nat) ↦ l.g i))).g i).x, SV.int .i64 ((L.norm (L.str (L.Sq.mk l.n fun (i : Nat) ↦ l.g i))).g i).y] = [SV.int .i64 ((L.norm (L.str (L.Sq.mk l.n fun (i : Nat) ↦ l.g i))).g i).x, SV.int
 .i64 ((L.norm (L.str (L.Sq.mk l.n fun (i : Nat) ↦ l.g i))).g i).y]) ∧ L.outN (L.Sq.mk (nat_lit 0 + Int.toNat (L.lidx k (↑(L.outN (L.Sq.mk l.n fun (i : Nat) ↦ l.g i)) : Int) + (1 : Int) - (0 : Int)) + nat_lit 1 + Int.toNat ((↑(L.outN (L.Sq.mk l.n fun (i : Nat) ↦ l.g i)) : Int) - (L.lidx k (↑(L.outN (L.Sq.mk l.n fun (i : Nat) ↦ l.g i)) : Int) + (1 : Int)))) fun (i : Nat) ↦ ofPt
 (appGet (nat_lit 0 + Int.toNat (L.lidx k (↑(L.outN (L.Sq.mk l.n fun (i : Nat) ↦ l.g i)) : Int) + (1 : Int) - (0 : Int)) + nat_lit 1) (appGet (nat_lit 0 + Int.toNat (L.lidx k (↑(L.outN (L.Sq.mk l.n fun (i : Nat) ↦ l.g i)) : Int) + (1 : Int) - (0 : Int))) (appGet (nat_lit 0) (fun (x : Nat) ↦ []) fun (i : Nat) ↦ [SV.int .i64 ((L.norm (L.str (L.Sq.mk l.n fun (i : Nat)
 ↦ l.g i))).g (Int.toNat (0 : Int) + i)).x, SV.int .i64 ((L.norm (L.str (L.Sq.mk l.n fun (i : Nat) ↦ l.g i))).g (Int.toNat (0 : Int) + i)).y]) fun (x : Nat) ↦ [SV.int .i64 (Int.tdiv (((L.norm (L.str (L.Sq.mk l.n fun (i : Nat) ↦ l.g i))).g (Int.toNat (L.lidx k (↑(L.outN (L.Sq.mk l.n fun (i : Nat) ↦ l.g i)) : Int)))).x + ((L.norm (L.str (L.Sq.mk l.n fun (i : Nat) ↦ l.g
 i))).g (Int.toNat (Int.tmod (L.lidx k (↑(L.outN (L.Sq.mk l.n fun (i : Nat) ↦ l.g i)) : Int) + (1 : Int)) (↑(L.outN (L.Sq.mk l.n fun (i : Nat) ↦ l.g i)) : Int)))).x) (2 : Int)), SV.int .i64 (Int.tdiv (((L.norm (L.str (L.Sq.mk l.n fun (i : Nat) ↦ l.g i))).g (Int.toNat (L.lidx k (↑(L.outN (L.Sq.mk l.n fun (i : Nat) ↦ l.g i)) : Int)))).y + ((L.norm (L.str (L.Sq.mk l.n fun (i : Nat) ↦
 l.g i))).g (Int.toNat (Int.tmod (L.lidx k (↑(L.outN (L.Sq.mk l.n fun (i : Nat) ↦ l.g i)) : Int) + (1 : Int)) (↑(L.outN (L.Sq.mk l.n fun (i : Nat) ↦ l.g i)) : Int)))).y) (2 : Int))]) (fun (i : Nat) ↦ [SV.int .i64 ((L.norm (L.str (L.Sq.mk l.n fun (i : Nat) ↦ l.g i))).g (Int.toNat (L.lidx k (↑(L.outN (L.Sq.mk l.n fun (i : Nat) ↦ l.g i)) : Int) + (1 : Int)) + i)).x, SV.int
 .i64 ((L.norm (L.str (L.Sq.mk l.n fun (i : Nat) ↦ l.g i))).g (Int.toNat (L.lidx k (↑(L.outN (L.Sq.mk l.n fun (i : Nat) ↦ l.g i)) : Int) + (1 : Int)) + i)).y]) i)) ≤ (1000000 : Nat)) ∧ (bif bif true then decide (L.outE (L.Sq.mk (nat_lit 0 + Int.toNat (L.lidx k (↑(L.outN (L.Sq.mk l.n fun (i : Nat) ↦ l.g i)) : Int) + (1 : Int) - (0 : Int)) + nat_lit 1 + Int.toNat ((↑(L.outN
 (L.Sq.mk l.n fun (i : Nat) ↦ l.g i)) : Int) - (L.lidx k (↑(L.outN (L.Sq.mk l.n fun (i : Nat) ↦ l.g i)) : Int) + (1 : Int)))) fun (i : Nat) ↦ ofPt (appGet (nat_lit 0 + Int.toNat (L.lidx k (↑(L.outN (L.Sq.mk l.n fun (i : Nat) ↦ l.g i)) : Int) + (1 : Int) - (0 : Int)) + nat_lit 1) (appGet (nat_lit 0 + Int.toNat (L.lidx k (↑(L.outN (L.Sq.mk l.n fun (i : Nat) ↦ l.g i)) : Int) + (1 : Int) -
 (0 : Int))) (appGet (nat_lit 0) (fun (x : Nat) ↦ []) fun (i : Nat) ↦ [SV.int .i64 ((L.norm (L.str (L.Sq.mk l.n fun (i : Nat) ↦ l.g i))).g (Int.toNat (0 : Int) + i)).x, SV.int .i64 ((L.norm (L.str (L.Sq.mk l.n fun (i : Nat) ↦ l.g i))).g (Int.toNat (0 : Int) + i)).y]) fun (x : Nat) ↦ [SV.int .i64 (Int.tdiv (((L.norm (L.str (L.Sq.mk l.n fun (i :
 Nat) ↦ l.g i))).g (Int.toNat (L.lidx k (↑(L.outN (L.Sq.mk l.n fun (i : Nat) ↦ l.g i)) : Int)))).x + ((L.norm (L.str (L.Sq.mk l.n fun (i : Nat) ↦ l.g i))).g (Int.toNat (Int.tmod (L.lidx k (↑(L.outN (L.Sq.mk l.n fun (i : Nat) ↦ l.g i)) : Int) + (1 : Int)) (↑(L.outN (L.Sq.mk l.n fun (i : Nat) ↦ l.g i)) : Int)))).x) (2 : Int)), SV.int .i64 (Int.tdiv (((L.norm (L.str (L.Sq.mk l.n fun (i
 : Nat) ↦ l.g i))).g (Int.toNat (L.lidx k (↑(L.outN (L.Sq.mk l.n fun (i : Nat) ↦ l.g i)) : Int)))).y + ((L.norm (L.str (L.Sq.mk l.n fun (i : Nat) ↦ l.g i))).g (Int.toNat (Int.tmod (L.lidx k (↑(L.outN (L.Sq.mk l.n fun (i : Nat) ↦ l.g i)) : Int) + (1 : Int)) (↑(L.outN (L.Sq.mk l.n fun (i : Nat) ↦ l.g i)) : Int)))).y) (2 : Int))]) (fun (i : Nat) ↦ [SV.int .i64 ((L.norm (L.str (L.Sq.mk
 l.n fun (i : Nat) ↦ l.g i))).g (Int.toNat (L.lidx k (↑(L.outN (L.Sq.mk l.n fun (i : Nat) ↦ l.g i)) : Int) + (1 : Int)) + i)).x, SV.int .i64 ((L.norm (L.str (L.Sq.mk l.n fun (i : Nat) ↦ l.g i))).g (Int.toNat (L.lidx k (↑(L.outN (L.Sq.mk l.n fun (i : Nat) ↦ l.g i)) : Int) + (1 : Int)) + i)).y]) i)) = (0 : Int)) else false then L.sameP (L.Sq.mk (L.outN (L.Sq.mk (nat_lit 0 +
 Int.toNat (L.lidx k (↑(L.outN (L.Sq.mk l.n fun (i : Nat) ↦ l.g i)) : Int) + (1 : Int) - (0 : Int)) + nat_lit 1 + Int.toNat ((↑(L.outN (L.Sq.mk l.n fun (i : Nat) ↦ l.g i)) : Int) - (L.lidx k (↑(L.outN (L.Sq.mk l.n fun (i : Nat) ↦ l.g i)) : Int) + (1 : Int)))) fun (i : Nat) ↦ ofPt (appGet (nat_lit 0 + Int.toNat (L.lidx k (↑(L.outN (L.Sq.mk l.n fun (i : Nat) ↦ l.g i)) : Int) + (1 : Int) - (0 :
 Int)) + nat_lit 1) (appGet (nat_lit 0 + Int.toNat (L.lidx k (↑(L.outN (L.Sq.mk l.n fun (i : Nat) ↦ l.g i)) : Int) + (1 : Int) - (0 : Int))) (appGet (nat_lit 0) (fun (x : Nat) ↦ []) fun (i : Nat) ↦ [SV.int .i64 ((L.norm (L.str (L.Sq.mk l.n fun (i : Nat) ↦ l.g i))).g (Int.toNat (0 : Int) + i)).x, SV.int .i64 ((L.norm (L.str (L.Sq.mk l.n fun (i : Nat) ↦ l.g
 i))).g (Int.toNat (0 : Int) + i)).y]) fun (x : Nat) ↦ [SV.int .i64 (Int.tdiv (((L.norm (L.str (L.Sq.mk l.n fun (i : Nat) ↦ l.g i))).g (Int.toNat (L.lidx k (↑(L.outN (L.Sq.mk l.n fun (i : Nat) ↦ l.g i)) : Int)))).x + ((L.norm (L.str (L.Sq.mk l.n fun (i : Nat) ↦ l.g i))).g (Int.toNat (Int.tmod (L.lidx k (↑(L.outN (L.Sq.mk l.n fun (i : Nat) ↦ l.g i)) : Int) + (1 : Int)) (↑(L.outN
 (L.Sq.mk l.n fun (i : Nat) ↦ l.g i)) : Int)))).x) (2 : Int)), SV.int .i64 (Int.tdiv (((L.norm (L.str (L.Sq.mk l.n fun (i : Nat) ↦ l.g i))).g (Int.toNat (L.lidx k (↑(L.outN (L.Sq.mk l.n fun (i : Nat) ↦ l.g i)) : Int)))).y + ((L.norm (L.str (L.Sq.mk l.n fun (i : Nat) ↦ l.g i))).g (Int.toNat (Int.tmod (L.lidx k (↑(L.outN (L.Sq.mk l.n fun (i : Nat) ↦ l.g i)) : Int) + (1 : Int))
 (↑(L.outN (L.Sq.mk l.n fun (i : Nat) ↦ l.g i)) : Int)))).y) (2 : Int))]) (fun (i : Nat) ↦ [SV.int .i64 ((L.norm (L.str (L.Sq.mk l.n fun (i : Nat) ↦ l.g i))).g (Int.toNat (L.lidx k (↑(L.outN (L.Sq.mk l.n fun (i : Nat) ↦ l.g i)) : Int) + (1 : Int)) + i)).x, SV.int .i64 ((L.norm (L.str (L.Sq.mk l.n fun (i : Nat) ↦ l.g i))).g (Int.toNat (L.lidx k (↑(L.outN (L.Sq.mk l.n
 fun (i : Nat) ↦ l.g i)) : Int) + (1 : Int)) + i)).y]) i))) fun (i : Nat) ↦ (L.norm (L.str (L.Sq.mk (nat_lit 0 + Int.toNat (L.lidx k (↑(L.outN (L.Sq.mk l.n fun (i : Nat) ↦ l.g i)) : Int) + (1 : Int) - (0 : Int)) + nat_lit 1 + Int.toNat ((↑(L.outN (L.Sq.mk l.n fun (i : Nat) ↦ l.g i)) : Int) - (L.lidx k (↑(L.outN (L.Sq.mk l.n fun (i : Nat) ↦ l.g i)) : Int) + (1 : Int)))) fun (i : Nat) ↦ ofPt
 (appGet (nat_lit 0 + Int.toNat (L.lidx k (↑(L.outN (L.Sq.mk l.n fun (i : Nat) ↦ l.g i)) : Int) + (1 : Int) - (0 : Int)) + nat_lit 1) (appGet (nat_lit 0 + Int.toNat (L.lidx k (↑(L.outN (L.Sq.mk l.n fun (i : Nat) ↦ l.g i)) : Int) + (1 : Int) - (0 : Int))) (appGet (nat_lit 0) (fun (x : Nat) ↦ []) fun (i : Nat) ↦ [SV.int .i64 ((L.norm (L.str (L.Sq.mk l.n fun (i : Nat)
 ↦ l.g i))).g (Int.toNat (0 : Int) + i)).x, SV.int .i64 ((L.norm (L.str (L.Sq.mk l.n fun (i : Nat) ↦ l.g i))).g (Int.toNat (0 : Int) + i)).y]) fun (x : Nat) ↦ [SV.int .i64 (Int.tdiv (((L.norm (L.str (L.Sq.mk l.n fun (i : Nat) ↦ l.g i))).g (Int.toNat (L.lidx k (↑(L.outN (L.Sq.mk l.n fun (i : Nat) ↦ l.g i)) : Int)))).x + ((L.norm (L.str (L.Sq.mk l.n fun (i : Nat) ↦ l.g
 i))).g (Int.toNat (Int.tmod (L.lidx k (↑(L.outN (L.Sq.mk l.n fun (i : Nat) ↦ l.g i)) : Int) + (1 : Int)) (↑(L.outN (L.Sq.mk l.n fun (i : Nat) ↦ l.g i)) : Int)))).x) (2 : Int)), SV.int .i64 (Int.tdiv (((L.norm (L.str (L.Sq.mk l.n fun (i : Nat) ↦ l.g i))).g (Int.toNat (L.lidx k (↑(L.outN (L.Sq.mk l.n fun (i : Nat) ↦ l.g i)) : Int)))).y + ((L.norm (L.str (L.Sq.mk l.n fun (i : Nat) ↦
 l.g i))).g (Int.toNat (Int.tmod (L.lidx k (↑(L.outN (L.Sq.mk l.n fun (i : Nat) ↦ l.g i)) : Int) + (1 : Int)) (↑(L.outN (L.Sq.mk l.n fun (i : Nat) ↦ l.g i)) : Int)))).y) (2 : Int))]) (fun (i : Nat) ↦ [SV.int .i64 ((L.norm (L.str (L.Sq.mk l.n fun (i : Nat) ↦ l.g i))).g (Int.toNat (L.lidx k (↑(L.outN (L.Sq.mk l.n fun (i : Nat) ↦ l.g i)) : Int) + (1 : Int)) + i)).x, SV.int
 .i64 ((L.norm (L.str (L.Sq.mk l.n fun (i : Nat) ↦ l.g i))).g (Int.toNat (L.lidx k (↑(L.outN (L.Sq.mk l.n fun (i : Nat) ↦ l.g i)) : Int) + (1 : Int)) + i)).y]) i)))).g i) (L.Sq.mk (L.outN (L.Sq.mk l.n fun (i : Nat) ↦ l.g i)) fun (i : Nat) ↦ (L.norm (L.str (L.Sq.mk l.n fun (i : Nat) ↦ l.g i))).g i) else false) = true)))))) (by kernel_rfl) (by
    obtain ⟨hln, hk⟩ := hp
    refine ⟨trivial, fun _ => rfl, fun h => ?_⟩
    rw [bor, Bool.or_eq_false_iff] at h
    have h40 := of_decide_eq_false h.1
    have h00 := of_decide_eq_false h.2
    have hl : l.n ≤ 1000000 := by omega
    have hN := outN_le l
    obtain ⟨i0, i1⟩ := lidx_bd (k := k) (n := (l.n : Int)) (by omega)
    refine ⟨⟨fun _ _ => rfl, hl⟩, ⟨hk, by omega⟩, ⟨fun _ _ => rfl, by omega, hl, i0, i1⟩, ⟨fun _ _ => rfl, hl⟩, fun _ => ⟨fun _ _ => rfl, fun _ _ => rfl, show L.outN l ≤ 1000000 by omega⟩, fun hx => ?_, fun _ => ⟨fun _ => rfl, fun he => ?_⟩⟩
    · rw [band, band] at hx
      have hx : ((decide (L.outE l = 0) && decide (L.outE (L.tl l (L.lidx k (l.n : Int)) back) = 0)) && !L.sameP ⟨L.outN l, (L.norm (L.str l)).g⟩ ⟨L.outN (L.tl l (L.lidx k (l.n : Int)) back), (L.norm (L.str (L.tl l (L.lidx k (l.n : Int)) back))).g⟩) = true := hx
      rw [Bool.and_eq_true, Bool.and_eq_true] at hx
      obtain ⟨⟨e1, e2⟩, e3⟩ := hx
      have e1 := of_decide_eq_true e1
      have e2 := of_decide_eq_true e2
      rw [(out_zero e1).2, (out_zero e2).2] at e3
      have e3 : (!L.sameP (L.norm (L.str l)) (L.norm (L.str (L.tl l (L.lidx k (l.n : Int)) back)))) = true := e3
      rw [sameP_of (tl_same i0 i1 e1)] at e3
      cases e3
    have e1 : L.outE l = 0 := of_decide_eq_true (notF he)
    obtain ⟨hg, n1⟩ := out_zero e1
    have hA := good_norm hg
    have nn := norm_norm hg
    have hv := norm_valid hg
    obtain ⟨a1, a2⟩ := again hA
    have sA := str_good hA
    have g3 := hA.1
    have g24 := hA.2.1
    have eA : (⟨L.outN l, fun i => (L.norm (L.str l)).g i⟩ : L.Sq L.Pt) = L.norm (L.str l) := by rw [n1]; rfl
    have eN : L.outN l = (L.norm (L.str l)).n := n1
    rw [eA, a1, a2, sA, hv, eN]
    generalize L.norm (L.str l) = A at *
    refine ⟨⟨fun _ _ => rfl, by omega⟩, fun _ => ⟨fun _ _ => rfl, by omega⟩, fun _ => ⟨fun _ _ => rfl, fun _ _ => rfl, by omega⟩, fun hx => ?_, fun _ => ?_⟩
    · have hx : (bif bif bif !decide ((0 : Int) = 0) then true else !true then true else !L.sameP (L.norm A) A then true else decide ((A.n : Int) = 0)) = true := hx
      rw [sameP_of nn, decide_eq_false (show ¬ (A.n : Int) = 0 by omega)] at hx
      cases hx
    obtain ⟨j0, j1⟩ := lidx_bd (k := k) (n := (A.n : Int)) (by omega)
    generalize L.lidx k (A.n : Int) = I at *
    obtain ⟨i, rfl⟩ : ∃ i : Nat, I = (i : Int) := ⟨I.toNat, by omega⟩
    have hi : i < A.n := by omega
    have e0 : ((i : Int)).toNat = i := Int.toNat_natCast i
    have e2 : (Int.tmod ((i : Int) + 1) (A.n : Int)).toNat = L.next A.n i := rfl
    rw [e0, e2]
    have hx := next_lt (n := A.n) (k := i) (by omega)
    have v1 := allB_iff.1 hA.2.2.1 i hi
    have v2 := allB_iff.1 hA.2.2.1 _ hx
    have b1 := bd_of_valid v1
    have b2 := bd_of_valid v2
    generalize hp : A.g i = p at *
    generalize hq : A.g (L.next A.n i) = q at *
    have w1 : (0 ≤ p.x ∧ p.x ≤ 4096) ∧ 0 ≤ p.y ∧ p.y ≤ 4096 := by
      have := v1
      unfold L.validPt L.within at this
      simpa [Bool.and_eq_true] using this
    have w2 : (0 ≤ q.x ∧ q.x ≤ 4096) ∧ 0 ≤ q.y ∧ q.y ≤ 4096 := by
      have := v2
      unfold L.validPt L.within at this
      simpa [Bool.and_eq_true] using this
    have d1 : Int.tdiv (p.x + q.x) 2 = (p.x + q.x) / 2 := Int.tdiv_eq_ediv_of_nonneg (by omega)
    have d2 : Int.tdiv (p.y + q.y) 2 = (p.y + q.y) / 2 := Int.tdiv_eq_ediv_of_nonneg (by omega)
    have m1 : 0 ≤ Int.tdiv (p.x + q.x) 2 ∧ Int.tdiv (p.x + q.x) 2 ≤ 4096 := by rw [d1]; omega
    have m2 : 0 ≤ Int.tdiv (p.y + q.y) 2 ∧ Int.tdiv (p.y + q.y) 2 ≤ 4096 := by rw [d2]; omega
    generalize Int.tdiv (p.x + q.x) 2 = mx at *
    generalize Int.tdiv (p.y + q.y) 2 = my at *
    have hm : L.validPt ⟨mx, my⟩ = true := by
      unfold L.validPt L.within
      simp [m1.1, m1.2, m2.1, m2.2]
    refine ⟨⟨hk, by omega⟩, ⟨j0, j1⟩, InK.of (by omega) (by omega), by omega, ⟨Int.tmod_nonneg _ (by omega), Int.tmod_lt_of_pos _ (by omega)⟩, InK.of (by omega) (by omega), by decide, InK.of (by omega) (by omega), InK.of (by omega) (by omega), by decide, InK.of (by omega) (by omega), ⟨b1, b2, bd_of_valid hm⟩, fun _ => rfl, fun hz => ?_⟩
    have c0 : L.cross p q ⟨mx, my⟩ = 0 := of_decide_eq_true (notF hz)
    have f1 : ((i : Int) + 1 - 0).toNat = i + 1 := by omega
    have f2 : ((i : Int) + 1).toNat = i + 1 := by omega
    have f3 : ((A.n : Int) - ((i : Int) + 1)).toNat = A.n - (i + 1) := by omega
    obtain ⟨r1, r2, r3⟩ := ins_norm (i := i) (p := ⟨mx, my⟩) hA hi hm (by rw [hp, hq]; exact c0)
    have r4 := (out_zero r1).2
    rw [f1, f2, f3]
    have cell : ∀ t, appGet (0 + (i + 1) + 1) (appGet (0 + (i + 1)) (appGet 0 (fun _ => []) (fun t => [SV.int .i64 (A.g ((0 : Int).toNat + t)).x, SV.int .i64 (A.g ((0 : Int).toNat + t)).y])) (fun _ => [SV.int .i64 mx, SV.int .i64 my])) (fun t => [SV.int .i64 (A.g (i + 1 + t)).x, SV.int .i64 (A.g (i + 1 + t)).y]) t = [SV.int .i64 ((L.ins A i ⟨mx, my⟩).g t).x, SV.int .i64 ((L.ins A i ⟨mx, my⟩).g t).y] := fun t => by
      unfold appGet
      rcases Nat.lt_trichotomy t (i + 1) with g | g | g
      · rw [if_pos (by omega), if_pos (by omega), if_neg (by omega), ins_lo (by omega)]
        show [SV.int .i64 (A.g ((0 : Int).toNat + (t - 0))).x, SV.int .i64 (A.g ((0 : Int).toNat + (t - 0))).y] = _
        rw [show (0 : Int).toNat + (t - 0) = t by simp]
      · subst g
        rw [if_pos (by omega), if_neg (by omega), ins_at]
      · obtain ⟨u, rfl⟩ : ∃ u, t = u + 1 := ⟨t - 1, by omega⟩
        rw [if_neg (by omega), ins_hi (by omega)]
        show [SV.int .i64 (A.g (i + 1 + (u + 1 - (0 + (i + 1) + 1)))).x, SV.int .i64 (A.g (i + 1 + (u + 1 - (0 + (i + 1) + 1)))).y] = _
        rw [show i + 1 + (u + 1 - (0 + (i + 1) + 1)) = u by omega]
    have eX : (⟨0 + (i + 1) + 1 + (A.n - (i + 1)), fun t => ofPt (appGet (0 + (i + 1) + 1) (appGet (0 + (i + 1)) (appGet 0 (fun _ => []) (fun t => [SV.int .i64 (A.g ((0 : Int).toNat + t)).x, SV.int .i64 (A.g ((0 : Int).toNat + t)).y])) (fun _ => [SV.int .i64 mx, SV.int .i64 my])) (fun t => [SV.int .i64 (A.g (i + 1 + t)).x, SV.int .i64 (A.g (i + 1 + t)).y]) t)⟩ : L.Sq L.Pt) = L.ins A i ⟨mx, my⟩ := by
      have e1 : 0 + (i + 1) + 1 + (A.n - (i + 1)) = A.n + 1 := by omega
      rw [e1]
      unfold L.ins
      congr 1
      funext t
      rw [cell t]
      rfl
    refine ⟨InK.of (by omega) (by omega), ⟨Int.le_refl _, by omega, by omega⟩, show (0 + (i + 1)) * 16 ≤ 140737488355328 by omega, show (0 + (i + 1) + 1) * 16 ≤ 140737488355328 by omega, InK.of (by omega) (by omega), ⟨by omega, by omega, Int.le_refl _⟩, show (0 + (i + 1) + 1 + (A.n - (i + 1))) * 16 ≤ 140737488355328 by omega, ⟨fun t _ => ?_, show 0 + (i + 1) + 1 + (A.n - (i + 1)) ≤ 1000000 by omega⟩, fun _ => ⟨fun _ _ => rfl, fun _ _ => rfl, ?_⟩, ?_⟩
    · refine (cell t).trans ?_
      have := congrArg (fun z : L.Sq L.Pt => [SV.int .i64 (z.g t).x, SV.int .i64 (z.g t).y]) eX
      exact this.symm
    · refine Nat.le_trans (Nat.le_of_eq (congrArg L.outN eX)) ?_
      rw [r3]; omega
    · have fin : (bif bif true then decide (L.outE (L.ins A i ⟨mx, my⟩) = 0) else false then L.sameP ⟨L.outN (L.ins A i ⟨mx, my⟩), (L.norm (L.str (L.ins A i ⟨mx, my⟩))).g⟩ A else false) = true := by
        rw [r1, r4]
        have : L.sameP (L.norm (L.str (L.ins A i ⟨mx, my⟩))) A = true := sameP_of (r2.trans nn)
        exact this
      rw [← eX] at fin
      exact fin)
theorem w_Normal_ok : SpecOk Try.prog 5 w_Normal_S := fnX Try.func5 (c := bodyOf Try.f5) (by kernel_rfl) mixed (fun args p r hs hp => by
  unfold w_Normal_s at hs
  split at hs
  · cases hs; exact ⟨_, _, w_Normal_vc _ _ _ hp.2, (.p (.sl hp.1) (.same _ (.same _ .nil))), ⟨show SpecsL Try.prog _ from (SpecsL.cons w_awake_ok w_awake_en (SpecsL.cons p_Outline_ok p_Outline_en (SpecsL.cons w_index_ok w_index_en (SpecsL.cons w_turned_ok w_turned_en (SpecsL.cons r1_SamePoints_ok r1_SamePoints_en (SpecsL.cons p_ValidOutline_ok p_ValidOutline_en (SpecsL.cons r1_Cross_ok r1_Cross_en SpecsL.nil))))))), rfl, ⟨show ItersL Try.prog _ from ItersL.nil, (TrsOk.none (fun _ => rfl))⟩⟩⟩
  · cases hs)
end Go.Proofs.Ytdlhpdidgfgomaa
