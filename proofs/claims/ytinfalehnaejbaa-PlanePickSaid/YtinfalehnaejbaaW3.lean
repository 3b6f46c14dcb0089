/- A symbolic walk over the model, and what it shows of functions of the program: parts of the proof that the text of the row joins. -/
import Derived.Test.YtinfalehnaejbaaW1
import Derived.Test.YtinfalehnaejbaaW2
import Derived.Test.YtinfalehnaejbaaE4
import Derived.KernelRfl

namespace Go.Proofs.Ytinfalehnaejbaa
open Go.SE Go.RowKit
set_option maxRecDepth 100000
set_option maxHeartbeats 4000000
set_option linter.unusedVariables false
attribute [local irreducible] vc
def L.outAt (c : L.Pt → L.Pt → L.Pt → Bool) (x : L.Sq L.Pt) (i : Nat) : Bool := c (x.g (L.prev x.n i)) (x.g i) (x.g (L.next x.n i))
def L.cFlat (a b c : L.Pt) : Bool := decide (L.cross a b c = 0)
def L.cy (l : L.Sq L.Pt) (a : Int) : L.Pt := l.g (L.ix l.n a)
theorem cy_nat {l : L.Sq L.Pt} {k : Nat} (h : k < l.n) : L.cy l (k : Int) = l.g k := by unfold L.cy; rw [ix_self h]
theorem cy_next {l : L.Sq L.Pt} {k : Nat} (h : k < l.n) : L.cy l ((k : Int) + 1) = l.g (L.next l.n k) := by unfold L.cy; rw [ix_next h]
theorem cy_congr {l : L.Sq L.Pt} {a b : Int} (hn : 0 < l.n) (h : a % (l.n : Int) = b % (l.n : Int)) (c : Int) : L.cy l (a + c) = L.cy l (b + c) := by unfold L.cy; rw [ix_congr hn h c]
theorem cy_ix {l : L.Sq L.Pt} (hn : 0 < l.n) (a c : Int) : L.cy l (((L.ix l.n a : Nat) : Int) + c) = L.cy l (a + c) := by unfold L.cy; rw [ix_ix hn c]
def L.simpC (n : Nat) (f : Int → L.Pt) : Prop := ∀ a b : Int, a % (n : Int) ≠ b % (n : Int) → L.meet (f a) (f (a + 1)) (f b) (f (b + 1)) = (if (b - a) % (n : Int) = 1 ∨ (a - b) % (n : Int) = 1 then 1 else 0)
theorem pair_cy {l : L.Sq L.Pt} {i k : Nat} (h1 : i < k) (h2 : k < l.n) : L.how l i k = L.meet (L.cy l i) (L.cy l (i + 1)) (L.cy l k) (L.cy l (k + 1)) ∧ (L.nxt l i k = true ↔ ((k : Int) - i) % (l.n : Int) = 1 ∨ ((i : Int) - k) % (l.n : Int) = 1) := by
  constructor
  · unfold L.how
    have e : L.cy l ((i : Int) + 1) = l.g (i + 1) := by
      have := cy_nat (l := l) (k := i + 1) (by omega)
      rw [← this]; congr 1
    rw [cy_nat (l := l) (k := i) (by omega), e, cy_nat h2, cy_next h2]
  · unfold L.nxt
    rw [bor, Bool.or_eq_true, band, Bool.and_eq_true, decide_eq_true_eq, decide_eq_true_eq, decide_eq_true_eq]
    have m1 : ((k : Int) - i) % (l.n : Int) = (k : Int) - i := Int.emod_eq_of_lt (by omega) (by omega)
    have m2 : ((i : Int) - k) % (l.n : Int) = (i : Int) - k + l.n := by
      rw [← Int.add_emod_right, Int.emod_eq_of_lt (by omega) (by omega)]
    rw [m1, m2]
    omega
theorem simpC_of {l : L.Sq L.Pt} (hn : 0 < l.n) (h : L.simple l = true) : L.simpC l.n (L.cy l) := by
  have hp : ∀ i k, i < k → k < l.n → L.okPair l i k = true := fun i k h1 h2 => by
    unfold L.simple at h
    have := allB_iff.1 (allB_iff.1 h i (by omega)) k h2
    rw [decide_eq_true h1] at this
    exact this
  have key : ∀ i k : Nat, i < k → k < l.n → L.meet (L.cy l i) (L.cy l (i + 1)) (L.cy l k) (L.cy l (k + 1)) = (if ((k : Int) - i) % (l.n : Int) = 1 ∨ ((i : Int) - k) % (l.n : Int) = 1 then 1 else 0) := fun i k h1 h2 => by
    obtain ⟨e1, e2⟩ := pair_cy (l := l) h1 h2
    have := hp i k h1 h2
    unfold L.okPair at this
    rw [← e1]
    cases hx : L.nxt l i k with
    | true => rw [hx] at this; rw [if_pos (e2.1 hx)]; exact of_decide_eq_true this
    | false =>
      rw [hx] at this
      rw [if_neg (fun h => by rw [e2.2 h] at hx; cases hx)]
      exact of_decide_eq_true this
  intro a b hab
  have ha := ix_emod (a := a) hn
  have hb := ix_emod (a := b) hn
  have la := ix_lt (n := l.n) (i := a) hn
  have lb := ix_lt (n := l.n) (i := b) hn
  have m : ∀ x y : Int, (((L.ix l.n x : Nat) : Int) - ((L.ix l.n y : Nat) : Int)) % (l.n : Int) = (x - y) % (l.n : Int) := fun x y => by
    rw [ix_emod hn, ix_emod hn, ← Int.sub_emod]
  have c0 : ∀ x : Int, L.cy l ((L.ix l.n x : Nat) : Int) = L.cy l x := fun x => by
    have := cy_ix hn x 0
    rwa [Int.add_zero, Int.add_zero] at this
  rcases Nat.lt_trichotomy (L.ix l.n a) (L.ix l.n b) with h1 | h1 | h1
  · have := key _ _ h1 lb
    rw [c0, c0, cy_ix hn, cy_ix hn, m, m] at this
    exact this
  · exact absurd (by rw [← ha, ← hb, h1]) hab
  · have := key _ _ h1 la
    rw [c0, c0, cy_ix hn, cy_ix hn, m, m, meet_swap] at this
    rw [this]
    by_cases c : (a - b) % (l.n : Int) = 1 ∨ (b - a) % (l.n : Int) = 1
    · rw [if_pos c, if_pos c.symm]
    · rw [if_neg c, if_neg (fun h => c h.symm)]
theorem emod_eq_of {n a b : Int} (h : (b - a) % n = 1 % n) : b % n = (a + 1) % n := by
  have := Int.emod_emod_of_dvd (b - a) (Int.dvd_refl n)
  have e : b = (b - a) + a := by omega
  rw [e, Int.add_emod, h, ← Int.add_emod, Int.add_comm]
def L.tm (p q : L.Pt) : Int := p.x * q.y - q.x * p.y
def L.sm (f : Int → Int) : Nat → Int
  | 0 => 0
  | k + 1 => L.sm f k + f (k : Int)
def L.ct (l : L.Sq L.Pt) (i : Int) : Int := L.tm (L.cy l i) (L.cy l (i + 1))
theorem area_sm {l : L.Sq L.Pt} : ∀ {k : Nat}, k ≤ l.n → L.areaTo l k = L.sm (L.ct l) k
  | 0, _ => rfl
  | k + 1, h => by
    rw [L.areaTo, L.sm, area_sm (k := k) (by omega)]
    unfold L.ct L.tm
    rw [cy_nat (by omega), cy_next (by omega)]

namespace PArea
theorem beta_pos {α β lo hi : Int} (h1 : α + β * lo < 0) (h2 : 0 < α + β * hi) (h : lo ≤ hi) : 0 < β := by
  rcases Int.lt_or_le 0 β with hb | hb
  · exact hb
  · have := Int.mul_nonneg_of_nonpos_of_nonpos hb (show lo - hi ≤ 0 by omega)
    rw [Int.mul_sub] at this
    omega
theorem up_le {β u v : Int} (hb : 0 ≤ β) (h : u ≤ v) : β * u ≤ β * v := Int.mul_le_mul_of_nonneg_left h hb
theorem dn_le {β u v : Int} (hb : β ≤ 0) (h : u ≤ v) : β * v ≤ β * u := by
  have := Int.mul_nonneg_of_nonpos_of_nonpos hb (show u - v ≤ 0 by omega)
  rw [Int.mul_sub] at this
  omega
/-- Positive at both ends: positive between. -/
theorem aff_pos {α β lo hi j : Int} (h1 : 0 < α + β * lo) (h2 : 0 < α + β * hi) (hl : lo ≤ j) (hh : j ≤ hi) : 0 < α + β * j := by
  rcases Int.le_total 0 β with hb | hb
  · have := up_le hb hl; omega
  · have := dn_le hb hh; omega
theorem aff_neg {α β lo hi j : Int} (h1 : α + β * lo < 0) (h2 : α + β * hi < 0) (hl : lo ≤ j) (hh : j ≤ hi) : α + β * j < 0 := by
  rcases Int.le_total 0 β with hb | hb
  · have := up_le hb hh; omega
  · have := dn_le hb hl; omega
theorem sgn_lt {k D u v p q : Int} (hk : k ≠ 0) (hD : 0 < D) (h1 : k * u = D * p) (h2 : k * v = D * q) (h : u * v < 0) : p * q < 0 := by
  have hkk : 0 < k * k := by
    rcases Int.lt_or_lt_of_ne hk with h | h
    · exact Int.mul_pos_of_neg_of_neg h h
    · exact Int.mul_pos h h
  have e : k * k * (u * v) = D * D * (p * q) := by
    have : k * k * (u * v) = (k * u) * (k * v) := by grind
    rw [this, h1, h2]; grind
  rcases Int.lt_or_le (p * q) 0 with hq | hq
  · exact hq
  · have h3 : k * k * (u * v) < 0 := Int.mul_neg_of_pos_of_neg hkk h
    have h4 : 0 ≤ D * D * (p * q) := Int.mul_nonneg (Int.mul_nonneg (by omega) (by omega)) hq
    omega
def cr (x y : Int → Int) (a c : Int) : Int := (x (a + 1) - x a) * (y c - y a) - (y (a + 1) - y a) * (x c - x a)
def far (n : Nat) (a b : Int) : Prop := a % (n : Int) ≠ b % (n : Int) ∧ a % (n : Int) ≠ (b + 1) % (n : Int) ∧ (a + 1) % (n : Int) ≠ b % (n : Int)
def within (y : Int → Int) (a c : Int) : Prop := min (y a) (y (a + 1)) ≤ y c ∧ y c ≤ max (y a) (y (a + 1))
structure Poly (n : Nat) (x y m : Int → Int) (D : Int) : Prop where
  hn : 3 ≤ n
  px : ∀ a b : Int, a % (n : Int) = b % (n : Int) → x a = x b
  py : ∀ a b : Int, a % (n : Int) = b % (n : Int) → y a = y b
  pm : ∀ a b : Int, a % (n : Int) = b % (n : Int) → m a = m b
  hD : 0 < D
  hm : ∀ a, m a * (y (a + 1) - y a) = D * (x (a + 1) - x a)
  hy : ∀ a b : Int, a % (n : Int) ≠ b % (n : Int) → y a ≠ y b
  on : ∀ a b : Int, far n a b → ∀ c, (c = b ∨ c = b + 1) → within y a c → cr x y a c ≠ 0
  no : ∀ a b : Int, far n a b → ¬ (cr x y a b * cr x y a (b + 1) < 0 ∧ cr x y b a * cr x y b (a + 1) < 0)
  co : ∀ a : Int, cr x y a (a + 2) = 0 → (y a < y (a + 1) ∧ y (a + 1) < y (a + 2)) ∨ (y (a + 2) < y (a + 1) ∧ y (a + 1) < y a)
def X (x y m : Int → Int) (D a Y : Int) : Int := D * x a + m a * (Y - y a)
def act (y : Int → Int) (a j : Int) : Prop := (y a ≤ j ∧ j < y (a + 1)) ∨ (y (a + 1) ≤ j ∧ j < y a)
theorem far_comm {n : Nat} {a b : Int} (h : far n a b) : far n b a := ⟨fun e => h.1 e.symm, fun e => h.2.2 e.symm, fun e => h.2.1 e.symm⟩
section
variable {n : Nat} {x y m : Int → Int} {D : Int}
theorem X_lo (a : Int) : X x y m D a (y a) = D * x a := by unfold X; rw [Int.sub_self, Int.mul_zero, Int.add_zero]
theorem X_hi (P : Poly n x y m D) (a : Int) : X x y m D a (y (a + 1)) = D * x (a + 1) := by
  unfold X; rw [P.hm, Int.mul_sub]; omega
theorem R1 (P : Poly n x y m D) (a c : Int) : (y (a + 1) - y a) * (X x y m D a (y c) - D * x c) = D * cr x y a c := by
  have := P.hm a
  unfold X cr
  grind
theorem next_ne (hn : 3 ≤ n) (a : Int) : a % (n : Int) ≠ (a + 1) % (n : Int) := by
  intro e
  have h1 : ((a + 1) - a) % (n : Int) = 0 := by rw [Int.sub_emod, e, Int.sub_self, Int.zero_emod]
  rw [show a + 1 - a = 1 by omega, Int.emod_eq_of_lt (by omega) (by omega)] at h1
  omega
theorem two_ne (hn : 3 ≤ n) (a : Int) : a % (n : Int) ≠ (a + 2) % (n : Int) := by
  intro e
  have h1 : ((a + 2) - a) % (n : Int) = 0 := by rw [Int.sub_emod, e, Int.sub_self, Int.zero_emod]
  rw [show a + 2 - a = 2 by omega, Int.emod_eq_of_lt (by omega) (by omega)] at h1
  omega
theorem dy_ne (P : Poly n x y m D) (a : Int) : y (a + 1) - y a ≠ 0 := by
  have := P.hy _ _ (next_ne P.hn a); omega
/-- The difference of two edges' places is a linear function of the height. -/
theorem X_sub (a b Y : Int) : X x y m D a Y - X x y m D b Y = (D * x a - m a * y a - (D * x b - m b * y b)) + (m a - m b) * Y := by
  unfold X; grind
theorem end_ne (P : Poly n x y m D) {a b c : Int} (h : far n a b) (hc : c = b ∨ c = b + 1) (hw : within y a c) : X x y m D a (y c) - X x y m D b (y c) ≠ 0 := by
  have hb : X x y m D b (y c) = D * x c := by
    rcases hc with rfl | rfl
    · exact X_lo _
    · exact X_hi P _
  rw [hb]
  intro e
  have := R1 P a c
  rw [e, Int.mul_zero] at this
  rcases Int.mul_eq_zero.1 this.symm with h1 | h1
  · have := P.hD; omega
  · exact P.on a b h c hc hw h1
theorem cross_lt (P : Poly n x y m D) {a b : Int} (h : (X x y m D a (y b) - X x y m D b (y b)) * (X x y m D a (y (b + 1)) - X x y m D b (y (b + 1))) < 0) : cr x y a b * cr x y a (b + 1) < 0 := by
  rw [X_lo, X_hi P] at h
  exact sgn_lt (dy_ne P a) P.hD (R1 P a b) (R1 P a (b + 1)) h
theorem mul_lt_of {u v : Int} (h : (u < 0 ∧ 0 < v) ∨ (0 < u ∧ v < 0)) : u * v < 0 := by
  rcases h with ⟨h1, h2⟩ | ⟨h1, h2⟩
  · exact Int.mul_neg_of_neg_of_pos h1 h2
  · exact Int.mul_neg_of_pos_of_neg h1 h2
/-- Below at one end and above at the other one: they cross. -/
theorem no_cross (P : Poly n x y m D) {a b lo hi : Int} (h : far n a b) (h1 : X x y m D a lo - X x y m D b lo < 0) (h2 : 0 < X x y m D a hi - X x y m D b hi) (hlh : lo ≤ hi)
    (la : min (y a) (y (a + 1)) ≤ lo) (lb : min (y b) (y (b + 1)) ≤ lo) (ua : hi ≤ max (y a) (y (a + 1))) (ub : hi ≤ max (y b) (y (b + 1))) : False := by
  rw [X_sub] at h1 h2
  have hb := beta_pos h1 h2 hlh
  have low : ∀ u, u ≤ lo → X x y m D a u - X x y m D b u < 0 := fun u hu => by
    rw [X_sub]; have := up_le (Int.le_of_lt hb) hu; omega
  have high : ∀ u, hi ≤ u → 0 < X x y m D a u - X x y m D b u := fun u hu => by
    rw [X_sub]; have := up_le (Int.le_of_lt hb) hu; omega
  refine P.no a b h ⟨cross_lt P (mul_lt_of ?_), cross_lt P (mul_lt_of ?_)⟩
  · rcases Int.le_total (y b) (y (b + 1)) with q | q
    · exact .inl ⟨low _ (by omega), high _ (by omega)⟩
    · exact .inr ⟨high _ (by omega), low _ (by omega)⟩
  · rcases Int.le_total (y a) (y (a + 1)) with q | q
    · have := low (y a) (by omega); have := high (y (a + 1)) (by omega)
      exact .inr ⟨by omega, by omega⟩
    · have := low (y (a + 1)) (by omega); have := high (y a) (by omega)
      exact .inl ⟨by omega, by omega⟩
theorem nc_far (P : Poly n x y m D) {a b j : Int} (h : far n a b) (ha : act y a j) (hb : act y b j) :
    (0 < X x y m D a j - X x y m D b j ∧ 0 < X x y m D a (j + 1) - X x y m D b (j + 1)) ∨ (X x y m D a j - X x y m D b j < 0 ∧ X x y m D a (j + 1) - X x y m D b (j + 1) < 0) := by
  have e1 := fun c hc hw => end_ne P (c := c) h hc hw
  have e2 := fun c hc hw => end_ne P (c := c) (far_comm h) hc hw
  obtain ⟨lo, hlo, la, lb, nlo⟩ : ∃ lo, lo ≤ j ∧ min (y a) (y (a + 1)) ≤ lo ∧ min (y b) (y (b + 1)) ≤ lo ∧ X x y m D a lo - X x y m D b lo ≠ 0 := by
    unfold act at ha hb
    rcases Int.le_total (min (y a) (y (a + 1))) (min (y b) (y (b + 1))) with q | q
    · rcases Int.le_total (y b) (y (b + 1)) with r | r
      · exact ⟨y b, by omega, by omega, by omega, e1 b (.inl rfl) ⟨by omega, by omega⟩⟩
      · exact ⟨y (b + 1), by omega, by omega, by omega, e1 (b + 1) (.inr rfl) ⟨by omega, by omega⟩⟩
    · rcases Int.le_total (y a) (y (a + 1)) with r | r
      · exact ⟨y a, by omega, by omega, by omega, fun e => e2 a (.inl rfl) ⟨by omega, by omega⟩ (by omega)⟩
      · exact ⟨y (a + 1), by omega, by omega, by omega, fun e => e2 (a + 1) (.inr rfl) ⟨by omega, by omega⟩ (by omega)⟩
  obtain ⟨hi, hhi, ua, ub, nhi⟩ : ∃ hi, j + 1 ≤ hi ∧ hi ≤ max (y a) (y (a + 1)) ∧ hi ≤ max (y b) (y (b + 1)) ∧ X x y m D a hi - X x y m D b hi ≠ 0 := by
    unfold act at ha hb
    rcases Int.le_total (max (y b) (y (b + 1))) (max (y a) (y (a + 1))) with q | q
    · rcases Int.le_total (y b) (y (b + 1)) with r | r
      · exact ⟨y (b + 1), by omega, by omega, by omega, e1 (b + 1) (.inr rfl) ⟨by omega, by omega⟩⟩
      · exact ⟨y b, by omega, by omega, by omega, e1 b (.inl rfl) ⟨by omega, by omega⟩⟩
    · rcases Int.le_total (y a) (y (a + 1)) with r | r
      · exact ⟨y (a + 1), by omega, by omega, by omega, fun e => e2 (a + 1) (.inr rfl) ⟨by omega, by omega⟩ (by omega)⟩
      · exact ⟨y a, by omega, by omega, by omega, fun e => e2 a (.inl rfl) ⟨by omega, by omega⟩ (by omega)⟩
  rcases Int.lt_or_lt_of_ne nlo with s1 | s1 <;> rcases Int.lt_or_lt_of_ne nhi with s2 | s2
  · rw [X_sub] at s1 s2
    rw [X_sub, X_sub]
    exact .inr ⟨aff_neg s1 s2 (by omega) (by omega), aff_neg s1 s2 (by omega) (by omega)⟩
  · exact (no_cross P h s1 s2 (by omega) la lb ua ub).elim
  · exact (no_cross P (far_comm h) (lo := lo) (hi := hi) (by omega) (by omega) (by omega) lb la ub ua).elim
  · rw [X_sub] at s1 s2
    rw [X_sub, X_sub]
    exact .inl ⟨aff_pos s1 s2 (by omega) (by omega), aff_pos s1 s2 (by omega) (by omega)⟩
/-- Neighbours: the shared corner is the lower or the upper end of both; elsewhere they are apart. -/
theorem nc_next (P : Poly n x y m D) {a j : Int} (ha : act y a j) (hb : act y (a + 1) j) :
    (0 ≤ X x y m D a j - X x y m D (a + 1) j ∧ 0 ≤ X x y m D a (j + 1) - X x y m D (a + 1) (j + 1) ∨ X x y m D a j - X x y m D (a + 1) j ≤ 0 ∧ X x y m D a (j + 1) - X x y m D (a + 1) (j + 1) ≤ 0) ∧
    (X x y m D a j - X x y m D (a + 1) j = 0 ↔ y (a + 1) = j) ∧ (X x y m D a (j + 1) - X x y m D (a + 1) (j + 1) = 0 ↔ y (a + 1) = j + 1) := by
  have z : X x y m D a (y (a + 1)) - X x y m D (a + 1) (y (a + 1)) = 0 := by rw [X_hi P, X_lo]; omega
  have nz : X x y m D a (y (a + 2)) - X x y m D (a + 1) (y (a + 2)) ≠ 0 := by
    have e := X_hi P (a + 1)
    rw [show a + 1 + 1 = a + 2 by omega] at e
    rw [e]
    intro e0
    have := R1 P a (a + 2)
    rw [e0, Int.mul_zero] at this
    rcases Int.mul_eq_zero.1 this.symm with h1 | h1
    · have := P.hD; omega
    · have h2 := P.co a h1
      unfold act at ha hb
      rw [show a + 1 + 1 = a + 2 by omega] at hb
      omega
  rw [X_sub] at z nz
  rw [X_sub, X_sub]
  generalize (D * x a - m a * y a - (D * x (a + 1) - m (a + 1) * y (a + 1))) = α at *
  generalize m a - m (a + 1) = β at *
  have h : ∀ Y, α + β * Y = β * (Y - y (a + 1)) := fun Y => by rw [Int.mul_sub]; omega
  have hβ : β ≠ 0 := fun e => nz (by rw [h, e, Int.zero_mul])
  rw [h, h]
  refine ⟨?_, ?_, ?_⟩
  · rcases Int.le_total 0 β with q | q
    · rcases Int.lt_or_le j (y (a + 1)) with r | r
      rotate_left
      · exact .inl ⟨Int.mul_nonneg q (by omega), Int.mul_nonneg q (by omega)⟩
      · exact .inr ⟨Int.mul_nonpos_of_nonneg_of_nonpos q (by omega), Int.mul_nonpos_of_nonneg_of_nonpos q (by omega)⟩
    · rcases Int.lt_or_le j (y (a + 1)) with r | r
      rotate_left
      · exact .inr ⟨Int.mul_nonpos_of_nonpos_of_nonneg q (by omega), Int.mul_nonpos_of_nonpos_of_nonneg q (by omega)⟩
      · exact .inl ⟨Int.mul_nonneg_of_nonpos_of_nonpos q (by omega), Int.mul_nonneg_of_nonpos_of_nonpos q (by omega)⟩
  · rw [Int.mul_eq_zero]; omega
  · rw [Int.mul_eq_zero]; omega
end
end PArea
namespace PArea
def sm (f : Int → Int) : Nat → Int
  | 0 => 0
  | k + 1 => sm f k + f (k : Int)
theorem sm_cong {f g : Int → Int} : ∀ {k : Nat}, (∀ i : Nat, i < k → f (i : Int) = g (i : Int)) → sm f k = sm g k
  | 0, _ => rfl
  | k + 1, h => by rw [sm, sm, sm_cong (fun i hi => h i (by omega)), h k (by omega)]
theorem sm_zero : ∀ k, sm (fun _ => 0) k = 0
  | 0 => rfl
  | k + 1 => by rw [sm, sm_zero k]; rfl
theorem sm_sub {f g : Int → Int} : ∀ k, sm (fun i => f i - g i) k = sm f k - sm g k
  | 0 => rfl
  | k + 1 => by rw [sm, sm, sm, sm_sub k]; omega
theorem sm_tele {g : Int → Int} : ∀ k : Nat, sm (fun i => g (i + 1) - g i) k = g (k : Int) - g 0
  | 0 => by show 0 = g 0 - g 0; omega
  | k + 1 => by
    rw [sm, sm_tele k, show ((k + 1 : Nat) : Int) = (k : Int) + 1 by omega]; omega
theorem sm_left {f : Int → Int} : ∀ k, sm f (k + 1) = f 0 + sm (fun i => f (i + 1)) k
  | 0 => by show 0 + f 0 = f 0 + 0; omega
  | k + 1 => by
    rw [sm, sm_left k]
    show f 0 + sm (fun i => f (i + 1)) k + f ((k + 1 : Nat) : Int) = f 0 + (sm (fun i => f (i + 1)) k + f ((k : Int) + 1))
    rw [show ((k + 1 : Nat) : Int) = (k : Int) + 1 by omega]
    omega
def per (n : Nat) (f : Int → Int) : Prop := ∀ a b : Int, a % (n : Int) = b % (n : Int) → f a = f b
theorem per_tele {n : Nat} {g : Int → Int} (h : per n g) : sm (fun i => g (i + 1) - g i) n = 0 := by
  rw [sm_tele, h (n : Int) 0 (by rw [Int.emod_self, Int.zero_emod])]; omega
theorem sm_shift1 {n : Nat} {f : Int → Int} (h : per n f) : sm (fun i => f (i + 1)) n = sm f n := by
  have := sm_sub (f := fun i => f (i + 1)) (g := f) n
  rw [per_tele h] at this
  omega
theorem sm_shift {n : Nat} : ∀ (c : Nat) {f : Int → Int}, per n f → sm (fun i => f (i + c)) n = sm f n
  | 0, f, _ => sm_cong (fun i _ => by rw [show (i : Int) + ((0 : Nat) : Int) = i by omega])
  | c + 1, f, h => by
    have e : sm (fun i => f (i + ((c + 1 : Nat) : Int))) n = sm (fun i => (fun j => f (j + c)) (i + 1)) n := sm_cong (fun i _ => by
      show f ((i : Int) + ((c + 1 : Nat) : Int)) = f ((i : Int) + 1 + (c : Int))
      rw [show (i : Int) + ((c + 1 : Nat) : Int) = (i : Int) + 1 + (c : Int) by omega])
    rw [e, sm_shift1 (f := fun j => f (j + c)) (fun a b hab => h _ _ (by rw [Int.add_emod, hab, ← Int.add_emod])), sm_shift c h]
/-- Two periodic functions that differ at one place only. -/
theorem sm_one {n : Nat} (hn : 0 < n) {f g : Int → Int} (hf : per n f) (hg : per n g) (c : Int) (h : ∀ b : Int, b % (n : Int) ≠ c % (n : Int) → f b = g b) : sm f n - sm g n = f c - g c := by
  have h0 := Int.emod_nonneg c (show (n : Int) ≠ 0 by omega)
  rw [← sm_sub]
  have hp : per n (fun i => f i - g i) := fun a b hab => by show f a - g a = f b - g b; rw [hf a b hab, hg a b hab]
  rw [← sm_shift (c % (n : Int)).toNat hp]
  have e0 : ((c % (n : Int)).toNat : Int) = c % (n : Int) := Int.toNat_of_nonneg h0
  rw [e0]
  obtain ⟨k, rfl⟩ : ∃ k, n = k + 1 := ⟨n - 1, by omega⟩
  rw [sm_left]
  have z : sm (fun i => f (i + 1 + c % ((k + 1 : Nat) : Int)) - g (i + 1 + c % ((k + 1 : Nat) : Int))) k = sm (fun _ => 0) k := sm_cong (fun i hi => by
    have : f ((i : Int) + 1 + c % ((k + 1 : Nat) : Int)) = g ((i : Int) + 1 + c % ((k + 1 : Nat) : Int)) := h _ (fun e => by
      have h1 : ((i : Int) + 1 + c % ((k + 1 : Nat) : Int) - c) % ((k + 1 : Nat) : Int) = 0 := by rw [Int.sub_emod, e, Int.sub_self, Int.zero_emod]
      rw [Int.sub_emod, Int.add_emod_emod, ← Int.sub_emod, show (i : Int) + 1 + c - c = (i : Int) + 1 by omega, Int.emod_eq_of_lt (by omega) (by omega)] at h1
      omega)
    show _ - _ = (0 : Int)
    rw [this, Int.sub_self])
  have e2 : f (0 + c % ((k + 1 : Nat) : Int)) = f c := hf _ _ (by rw [Int.zero_add, Int.emod_emod])
  have e3 : g (0 + c % ((k + 1 : Nat) : Int)) = g c := hg _ _ (by rw [Int.zero_add, Int.emod_emod])
  show f (0 + c % ((k + 1 : Nat) : Int)) - g (0 + c % ((k + 1 : Nat) : Int)) + sm (fun i => f (i + 1 + c % ((k + 1 : Nat) : Int)) - g (i + 1 + c % ((k + 1 : Nat) : Int))) k = _
  rw [z, sm_zero, e2, e3]
  omega
def ind (p : Prop) [Decidable p] : Int := if p then 1 else 0
theorem ind_t {p : Prop} [Decidable p] (h : p) : ind p = 1 := if_pos h
theorem ind_f {p : Prop} [Decidable p] (h : ¬ p) : ind p = 0 := if_neg h
def q (y : Int → Int) (j a : Int) : Int := ind (j < y (a + 1)) - ind (j < y a)
section
variable {n : Nat} {x y m : Int → Int} {D : Int}
theorem succ_mod {a b : Int} (h : a % (n : Int) = b % (n : Int)) (c : Int) : (a + c) % (n : Int) = (b + c) % (n : Int) := by
  rw [Int.add_emod, h, ← Int.add_emod]
theorem X_per (P : Poly n x y m D) {a b : Int} (h : a % (n : Int) = b % (n : Int)) (Y : Int) : X x y m D a Y = X x y m D b Y := by
  unfold X; rw [P.px a b h, P.py a b h, P.pm a b h]
theorem y_per1 (P : Poly n x y m D) {a b : Int} (h : a % (n : Int) = b % (n : Int)) : y (a + 1) = y (b + 1) := P.py _ _ (succ_mod h 1)
theorem act_per (P : Poly n x y m D) {a b j : Int} (h : a % (n : Int) = b % (n : Int)) : act y a j ↔ act y b j := by
  unfold act; rw [P.py a b h, y_per1 P h]
theorem q_per (P : Poly n x y m D) (j : Int) : per n (q y j) := fun a b h => by unfold q; rw [P.py a b h, y_per1 P h]
theorem q_up {a j : Int} (h1 : y a ≤ j) (h2 : j < y (a + 1)) : q y j a = 1 := by unfold q; rw [ind_t h2, ind_f (by omega)]; rfl
theorem q_dn {a j : Int} (h1 : y (a + 1) ≤ j) (h2 : j < y a) : q y j a = -1 := by unfold q; rw [ind_t h2, ind_f (show ¬ j < y (a + 1) by omega)]; rfl
theorem q_no {a j : Int} (h : ¬ act y a j) : q y j a = 0 := by
  unfold act at h
  unfold q
  by_cases h1 : j < y a
  · rw [ind_t h1, ind_t (show j < y (a + 1) by omega)]; rfl
  · rw [ind_f h1, ind_f (show ¬ j < y (a + 1) by omega)]; rfl
/-- The signed count left of a place does not change where strips meet. -/
theorem count_line (P : Poly n x y m D) (Y T : Int) : sm (fun b => q y Y b * ind (X x y m D b Y < T)) n = sm (fun b => q y (Y - 1) b * ind (X x y m D b Y < T)) n := by
  have hp : per n (fun k => ind (y k = Y) * ind (D * x k < T)) := fun a b h => by show ind (y a = Y) * _ = _; rw [P.py a b h, P.px a b h]
  have key : ∀ b : Int, q y Y b * ind (X x y m D b Y < T) - q y (Y - 1) b * ind (X x y m D b Y < T) = - (ind (y (b + 1) = Y) * ind (D * x (b + 1) < T) - ind (y b = Y) * ind (D * x b < T)) := fun b => by
    have hd := dy_ne P b
    unfold q
    by_cases h1 : y b = Y
    · have e : X x y m D b Y = D * x b := by rw [← h1]; exact X_lo b
      rw [e, ind_t h1, ind_f (show ¬ y (b + 1) = Y by omega), ind_f (show ¬ Y < y b by omega), ind_t (show Y - 1 < y b by omega)]
      by_cases h2 : Y < y (b + 1)
      · rw [ind_t h2, ind_t (show Y - 1 < y (b + 1) by omega)]; omega
      · rw [ind_f h2, ind_f (show ¬ Y - 1 < y (b + 1) by omega)]; omega
    · by_cases h3 : y (b + 1) = Y
      · have e : X x y m D b Y = D * x (b + 1) := by rw [← h3]; exact X_hi P b
        rw [e, ind_t h3, ind_f h1, ind_f (show ¬ Y < y (b + 1) by omega), ind_t (show Y - 1 < y (b + 1) by omega)]
        by_cases h2 : Y < y b
        · rw [ind_t h2, ind_t (show Y - 1 < y b by omega)]; omega
        · rw [ind_f h2, ind_f (show ¬ Y - 1 < y b by omega)]; omega
      · rw [ind_f h1, ind_f h3]
        have e1 : ind (Y < y (b + 1)) = ind (Y - 1 < y (b + 1)) := by
          by_cases h : Y < y (b + 1)
          · rw [ind_t h, ind_t (by omega)]
          · rw [ind_f h, ind_f (by omega)]
        have e2 : ind (Y < y b) = ind (Y - 1 < y b) := by
          by_cases h : Y < y b
          · rw [ind_t h, ind_t (by omega)]
          · rw [ind_f h, ind_f (by omega)]
        rw [e1, e2]; omega
  have h1 := sm_sub (f := fun b => q y Y b * ind (X x y m D b Y < T)) (g := fun b => q y (Y - 1) b * ind (X x y m D b Y < T)) n
  have h2 : sm (fun b => q y Y b * ind (X x y m D b Y < T) - q y (Y - 1) b * ind (X x y m D b Y < T)) n = sm (fun b => 0 - ((fun k => ind (y k = Y) * ind (D * x k < T)) (b + 1) - (fun k => ind (y k = Y) * ind (D * x k < T)) b)) n := sm_cong (fun i _ => by rw [key]; exact (Int.zero_sub _).symm)
  rw [h2] at h1
  have h3 := sm_sub (f := fun _ => 0) (g := fun b => (fun k => ind (y k = Y) * ind (D * x k < T)) (b + 1) - (fun k => ind (y k = Y) * ind (D * x k < T)) b) n
  rw [sm_zero, per_tele hp] at h3
  rw [h3] at h1
  omega
def V (x y m : Int → Int) (D b j : Int) : Int := X x y m D b j + X x y m D b (j + 1)
/-- Two edges over one strip. -/
theorem sep (P : Poly n x y m D) {a b j : Int} (ha : act y a j) (hb : act y b j) (hab : b % (n : Int) ≠ a % (n : Int)) :
    (0 ≤ X x y m D a j - X x y m D b j ∧ 0 ≤ X x y m D a (j + 1) - X x y m D b (j + 1) ∨ X x y m D a j - X x y m D b j ≤ 0 ∧ X x y m D a (j + 1) - X x y m D b (j + 1) ≤ 0) ∧
    ¬ (X x y m D a j - X x y m D b j = 0 ∧ X x y m D a (j + 1) - X x y m D b (j + 1) = 0) ∧
    (X x y m D a (j + 1) - X x y m D b (j + 1) = 0 → (b % (n : Int) = (a + 1) % (n : Int) ∧ y (a + 1) = j + 1) ∨ ((b + 1) % (n : Int) = a % (n : Int) ∧ y a = j + 1)) ∧
    (X x y m D a j - X x y m D b j = 0 → (b % (n : Int) = (a + 1) % (n : Int) ∧ y (a + 1) = j) ∨ ((b + 1) % (n : Int) = a % (n : Int) ∧ y a = j)) := by
  by_cases h1 : b % (n : Int) = (a + 1) % (n : Int)
  · obtain ⟨q1, q2, q3⟩ := nc_next P (a := a) (j := j) ha ((act_per P h1).1 hb)
    rw [X_per P h1, X_per P h1]
    refine ⟨q1, fun e => ?_, fun e => .inl ⟨h1, q3.1 e⟩, fun e => .inl ⟨h1, q2.1 e⟩⟩
    have := q2.1 e.1; have := q3.1 e.2; omega
  · by_cases h2 : (b + 1) % (n : Int) = a % (n : Int)
    · obtain ⟨q1, q2, q3⟩ := nc_next P (a := b) (j := j) hb ((act_per P h2).2 ha)
      rw [X_per P h2, X_per P h2] at q1
      rw [X_per P h2] at q2
      rw [X_per P h2] at q3
      rw [P.py _ _ h2] at q2 q3
      refine ⟨by omega, fun e => ?_, fun e => .inr ⟨h2, q3.1 (by omega)⟩, fun e => .inr ⟨h2, q2.1 (by omega)⟩⟩
      have := q2.1 (by omega); have := q3.1 (by omega); omega
    · have := nc_far P (a := a) (b := b) (j := j) ⟨fun e => hab e.symm, fun e => h2 e.symm, fun e => h1 e.symm⟩ ha hb
      exact ⟨by omega, by omega, by omega, by omega⟩
def W (n : Nat) (x y m : Int → Int) (D a j : Int) : Int := sm (fun b => q y j b * ind (V x y m D b j < V x y m D a j)) n
def WX (n : Nat) (x y m : Int → Int) (D j Y T : Int) : Int := sm (fun b => q y j b * ind (X x y m D b Y < T)) n
theorem line (P : Poly n x y m D) (Y T : Int) : WX n x y m D Y Y T = WX n x y m D (Y - 1) Y T := count_line P Y T
/-- The edges to the left, told at the strip's upper side; c: the neighbour that ends there. -/
theorem W_top (P : Poly n x y m D) {a j : Int} (ha : act y a j) (c : Int) (hc : ∀ b, act y b j → b % (n : Int) ≠ a % (n : Int) → X x y m D a (j + 1) - X x y m D b (j + 1) = 0 → b % (n : Int) = c % (n : Int)) :
    W n x y m D a j - WX n x y m D j (j + 1) (X x y m D a (j + 1)) = q y j c * ind (V x y m D c j < V x y m D a j) - q y j c * ind (X x y m D c (j + 1) < X x y m D a (j + 1)) := by
  have hn := P.hn
  refine sm_one (f := fun b => q y j b * ind (V x y m D b j < V x y m D a j)) (g := fun b => q y j b * ind (X x y m D b (j + 1) < X x y m D a (j + 1))) (by omega) (fun s t h => ?_) (fun s t h => ?_) c fun b hb => ?_
  · show q y j s * ind (V x y m D s j < _) = _
    unfold V; rw [q_per P j s t h, X_per P h, X_per P h]
  · show q y j s * ind (X x y m D s (j + 1) < _) = _
    rw [q_per P j s t h, X_per P h]
  · show q y j b * ind (V x y m D b j < V x y m D a j) = q y j b * ind (X x y m D b (j + 1) < X x y m D a (j + 1))
    by_cases hba : b % (n : Int) = a % (n : Int)
    · unfold V
      rw [X_per P hba, X_per P hba, ind_f (by omega), ind_f (by omega)]
    · by_cases hb' : act y b j
      · obtain ⟨s1, s2, _, _⟩ := sep P ha hb' hba
        have : X x y m D a (j + 1) - X x y m D b (j + 1) ≠ 0 := fun e => hb (hc b hb' hba e)
        unfold V
        by_cases h : X x y m D b (j + 1) < X x y m D a (j + 1)
        · rw [ind_t h, ind_t (by omega)]
        · rw [ind_f h, ind_f (by omega)]
      · rw [q_no hb', Int.zero_mul, Int.zero_mul]
theorem W_bot (P : Poly n x y m D) {a j : Int} (ha : act y a j) (c : Int) (hc : ∀ b, act y b j → b % (n : Int) ≠ a % (n : Int) → X x y m D a j - X x y m D b j = 0 → b % (n : Int) = c % (n : Int)) :
    W n x y m D a j - WX n x y m D j j (X x y m D a j) = q y j c * ind (V x y m D c j < V x y m D a j) - q y j c * ind (X x y m D c j < X x y m D a j) := by
  have hn := P.hn
  refine sm_one (f := fun b => q y j b * ind (V x y m D b j < V x y m D a j)) (g := fun b => q y j b * ind (X x y m D b j < X x y m D a j)) (by omega) (fun s t h => ?_) (fun s t h => ?_) c fun b hb => ?_
  · show q y j s * ind (V x y m D s j < _) = _
    unfold V; rw [q_per P j s t h, X_per P h, X_per P h]
  · show q y j s * ind (X x y m D s j < _) = _
    rw [q_per P j s t h, X_per P h]
  · show q y j b * ind (V x y m D b j < V x y m D a j) = q y j b * ind (X x y m D b j < X x y m D a j)
    by_cases hba : b % (n : Int) = a % (n : Int)
    · unfold V
      rw [X_per P hba, X_per P hba, ind_f (by omega), ind_f (by omega)]
    · by_cases hb' : act y b j
      · obtain ⟨s1, s2, _, _⟩ := sep P ha hb' hba
        have : X x y m D a j - X x y m D b j ≠ 0 := fun e => hb (hc b hb' hba e)
        unfold V
        by_cases h : X x y m D b j < X x y m D a j
        · rw [ind_t h, ind_t (by omega)]
        · rw [ind_f h, ind_f (by omega)]
      · rw [q_no hb', Int.zero_mul, Int.zero_mul]
end
end PArea
namespace PArea
section
variable {n : Nat} {x y m : Int → Int} {D : Int}
def K (n : Nat) (x y m : Int → Int) (D a j : Int) : Int := 2 * W n x y m D a j + q y j a
theorem pred_mod {a b c : Int} (h : (a + c) % (n : Int) = (b + c) % (n : Int)) : a % (n : Int) = b % (n : Int) := by
  have := succ_mod h (-c)
  rwa [show a + c + -c = a by omega, show b + c + -c = b by omega] at this
theorem W_topN (P : Poly n x y m D) {a j : Int} (ha : act y a j) (h1 : act y (a + 1) j → y (a + 1) ≠ j + 1) (h2 : ∀ b, (b + 1) % (n : Int) = a % (n : Int) → act y b j → y a ≠ j + 1) :
    W n x y m D a j = WX n x y m D j (j + 1) (X x y m D a (j + 1)) := by
  have := W_top P ha a (fun b hb hba e => by
    rcases (sep P ha hb hba).2.2.1 e with ⟨q1, q2⟩ | ⟨q1, q2⟩
    · exact absurd q2 (h1 ((act_per P q1).1 hb))
    · exact absurd q2 (h2 b q1 hb))
  rw [ind_f (by omega), ind_f (by omega)] at this
  omega
theorem W_botN (P : Poly n x y m D) {a j : Int} (ha : act y a j) (h1 : act y (a + 1) j → y (a + 1) ≠ j) (h2 : ∀ b, (b + 1) % (n : Int) = a % (n : Int) → act y b j → y a ≠ j) :
    W n x y m D a j = WX n x y m D j j (X x y m D a j) := by
  have := W_bot P ha a (fun b hb hba e => by
    rcases (sep P ha hb hba).2.2.2 e with ⟨q1, q2⟩ | ⟨q1, q2⟩
    · exact absurd q2 (h1 ((act_per P q1).1 hb))
    · exact absurd q2 (h2 b q1 hb))
  rw [ind_f (by omega), ind_f (by omega)] at this
  omega
theorem line1 (P : Poly n x y m D) (j T : Int) : WX n x y m D (j + 1) (j + 1) T = WX n x y m D j (j + 1) T := by
  have := line P (j + 1) T
  rwa [show j + 1 - 1 = j by omega] at this
theorem K_in (P : Poly n x y m D) {a j : Int} (h : act y a j) (h' : act y a (j + 1)) : K n x y m D a j = K n x y m D a (j + 1) := by
  have e1 := W_topN P h (fun _ => by unfold act at h h'; omega) (fun _ _ _ => by unfold act at h h'; omega)
  have e2 := W_botN P h' (fun _ => by unfold act at h h'; omega) (fun _ _ _ => by unfold act at h h'; omega)
  rw [line1 P] at e2
  have e3 : q y j a = q y (j + 1) a := by
    unfold act at h h'
    rcases Int.lt_or_le (y a) (y (a + 1)) with g | g
    · rw [q_up (by omega) (by omega), q_up (by omega) (by omega)]
    · rw [q_dn (by omega) (by omega), q_dn (by omega) (by omega)]
  unfold K
  rw [e1, e2, e3]
theorem X_end (P : Poly n x y m D) {a j : Int} (h : y (a + 1) = j) : X x y m D a j = D * x (a + 1) ∧ X x y m D (a + 1) j = D * x (a + 1) := by
  rw [← h]; exact ⟨X_hi P a, X_lo _⟩
theorem aa (a : Int) : a + 1 + 1 = a + 2 := by omega
theorem K_up (P : Poly n x y m D) {a j : Int} (hj : y (a + 1) = j + 1) (h1 : y a < y (a + 1)) (h2 : y (a + 1) < y (a + 2)) : K n x y m D a j = K n x y m D (a + 1) (j + 1) := by
  have A1 : act y a j := .inl ⟨by omega, by omega⟩
  have A2 : act y (a + 1) (j + 1) := .inl ⟨by omega, by rw [aa]; omega⟩
  have e1 := W_topN P A1 (fun h => by unfold act at h; rw [aa] at h; omega) (fun _ _ _ => by omega)
  have e2 := W_botN P A2 (fun _ => by rw [aa]; omega) (fun b hb hB => by
    have := (act_per P (pred_mod hb)).1 hB
    unfold act at this; omega)
  obtain ⟨x1, x2⟩ := X_end P hj
  rw [x1] at e1
  rw [x2, line1 P] at e2
  unfold K
  rw [e1, e2, q_up (by omega) (by omega), q_up (by omega) (by rw [aa]; omega)]
theorem K_dn (P : Poly n x y m D) {a j : Int} (hj : y (a + 1) = j + 1) (h1 : y (a + 1) < y a) (h2 : y (a + 2) < y (a + 1)) : K n x y m D a (j + 1) = K n x y m D (a + 1) j := by
  have A1 : act y a (j + 1) := .inr ⟨by omega, by omega⟩
  have A2 : act y (a + 1) j := .inr ⟨by rw [aa]; omega, by omega⟩
  have e1 := W_botN P A1 (fun h => by unfold act at h; rw [aa] at h; omega) (fun _ _ _ => by omega)
  have e2 := W_topN P A2 (fun _ => by rw [aa]; omega) (fun b hb hB => by
    have := (act_per P (pred_mod hb)).1 hB
    unfold act at this; omega)
  obtain ⟨x1, x2⟩ := X_end P hj
  rw [x1, line1 P] at e1
  rw [x2] at e2
  unfold K
  rw [e1, e2, q_dn (by omega) (by omega), q_dn (by rw [aa]; omega) (by omega)]
theorem V_ne (P : Poly n x y m D) {a b j : Int} (ha : act y a j) (hb : act y b j) (hab : b % (n : Int) ≠ a % (n : Int)) : V x y m D a j ≠ V x y m D b j := by
  obtain ⟨s1, s2, _, _⟩ := sep P ha hb hab
  unfold V; omega
theorem K_max (P : Poly n x y m D) {a j : Int} (hj : y (a + 1) = j + 1) (h1 : y a < y (a + 1)) (h2 : y (a + 2) < y (a + 1)) : K n x y m D a j = K n x y m D (a + 1) j := by
  have A1 : act y a j := .inl ⟨by omega, by omega⟩
  have A2 : act y (a + 1) j := .inr ⟨by rw [aa]; omega, by omega⟩
  have e1 := W_top P A1 (a + 1) (fun b hb hba e => by
    rcases (sep P A1 hb hba).2.2.1 e with ⟨q1, _⟩ | ⟨_, q2⟩
    · exact q1
    · omega)
  have e2 := W_top P A2 a (fun b hb hba e => by
    rcases (sep P A2 hb hba).2.2.1 e with ⟨_, q2⟩ | ⟨q1, _⟩
    · rw [aa] at q2; omega
    · exact pred_mod q1)
  obtain ⟨x1, x2⟩ := X_end P hj
  rw [x1, x2, q_dn (a := a + 1) (by rw [aa]; omega) (by omega), ind_f (show ¬ D * x (a + 1) < D * x (a + 1) by omega)] at e1
  rw [x1, x2, q_up (a := a) (by omega) (by omega), ind_f (show ¬ D * x (a + 1) < D * x (a + 1) by omega)] at e2
  have hV := V_ne P A1 A2 (fun e => next_ne P.hn a e.symm)
  unfold K
  rw [q_up (a := a) (by omega) (by omega), q_dn (a := a + 1) (by rw [aa]; omega) (by omega)]
  rcases Int.lt_or_lt_of_ne hV with g | g
  · rw [ind_f (by omega)] at e1
    rw [ind_t g] at e2
    omega
  · rw [ind_t g] at e1
    rw [ind_f (by omega)] at e2
    omega
theorem K_min (P : Poly n x y m D) {a j : Int} (hj : y (a + 1) = j) (h1 : y (a + 1) < y a) (h2 : y (a + 1) < y (a + 2)) : K n x y m D a j = K n x y m D (a + 1) j := by
  have A1 : act y a j := .inr ⟨by omega, by omega⟩
  have A2 : act y (a + 1) j := .inl ⟨by omega, by rw [aa]; omega⟩
  have e1 := W_bot P A1 (a + 1) (fun b hb hba e => by
    rcases (sep P A1 hb hba).2.2.2 e with ⟨q1, _⟩ | ⟨_, q2⟩
    · exact q1
    · omega)
  have e2 := W_bot P A2 a (fun b hb hba e => by
    rcases (sep P A2 hb hba).2.2.2 e with ⟨_, q2⟩ | ⟨q1, _⟩
    · rw [aa] at q2; omega
    · exact pred_mod q1)
  obtain ⟨x1, x2⟩ := X_end P hj
  rw [x1, x2, q_up (a := a + 1) (by omega) (by rw [aa]; omega), ind_f (show ¬ D * x (a + 1) < D * x (a + 1) by omega)] at e1
  rw [x1, x2, q_dn (a := a) (by omega) (by omega), ind_f (show ¬ D * x (a + 1) < D * x (a + 1) by omega)] at e2
  have hV := V_ne P A1 A2 (fun e => next_ne P.hn a e.symm)
  unfold K
  rw [q_dn (a := a) (by omega) (by omega), q_up (a := a + 1) (by omega) (by rw [aa]; omega)]
  rcases Int.lt_or_lt_of_ne hV with g | g
  · rw [ind_f (by omega)] at e1
    rw [ind_t g] at e2
    omega
  · rw [ind_t g] at e1
    rw [ind_f (by omega)] at e2
    omega
theorem K_add (P : Poly n x y m D) {a j : Int} : ∀ d : Nat, act y a j → act y a (j + d) → K n x y m D a j = K n x y m D a (j + d)
  | 0, _, _ => by rw [show j + ((0 : Nat) : Int) = j by omega]
  | d + 1, h, h' => by
    have hm : act y a (j + d) := by unfold act at *; omega
    rw [K_add P d h hm]
    rw [show j + ((d + 1 : Nat) : Int) = j + d + 1 by omega] at h' ⊢
    exact K_in P hm h'
theorem K_edge (P : Poly n x y m D) {a j j' : Int} (h : act y a j) (h' : act y a j') : K n x y m D a j = K n x y m D a j' := by
  rcases Int.le_total j j' with g | g
  · have := K_add P (j' - j).toNat h (by rwa [show j + ((j' - j).toNat : Int) = j' by omega])
    rwa [show j + ((j' - j).toNat : Int) = j' by omega] at this
  · have := K_add P (j - j').toNat h' (by rwa [show j' + ((j - j').toNat : Int) = j by omega])
    rw [show j' + ((j - j').toNat : Int) = j by omega] at this
    exact this.symm
theorem K_vert (P : Poly n x y m D) {a j j' : Int} (h : act y a j) (h' : act y (a + 1) j') : K n x y m D a j = K n x y m D (a + 1) j' := by
  have d1 := dy_ne P a
  have d2 := dy_ne P (a + 1)
  rw [aa] at d2
  have hj : y (a + 1) = (y (a + 1) - 1) + 1 := by omega
  rcases Int.lt_or_le (y a) (y (a + 1)) with g | g <;> rcases Int.lt_or_le (y (a + 1)) (y (a + 2)) with g' | g'
  · rw [K_edge P h (j' := y (a + 1) - 1) (.inl ⟨by omega, by omega⟩), K_edge P h' (j' := y (a + 1) - 1 + 1) (.inl ⟨by omega, by rw [aa]; omega⟩)]
    exact K_up P hj g g'
  · rw [K_edge P h (j' := y (a + 1) - 1) (.inl ⟨by omega, by omega⟩), K_edge P h' (j' := y (a + 1) - 1) (.inr ⟨by rw [aa]; omega, by omega⟩)]
    exact K_max P hj g (by omega)
  · rw [K_edge P h (j' := y (a + 1)) (.inr ⟨by omega, by omega⟩), K_edge P h' (j' := y (a + 1)) (.inl ⟨by omega, by rw [aa]; omega⟩)]
    exact K_min P rfl (by omega) g'
  · rw [K_edge P h (j' := y (a + 1) - 1 + 1) (.inr ⟨by omega, by omega⟩), K_edge P h' (j' := y (a + 1) - 1) (.inr ⟨by rw [aa]; omega, by omega⟩)]
    exact K_dn P hj (by omega) (by omega)
theorem act_some (P : Poly n x y m D) (a : Int) : act y a (min (y a) (y (a + 1))) := by
  have := dy_ne P a
  unfold act; omega
theorem K_go (P : Poly n x y m D) {a j : Int} (h : act y a j) : ∀ (d : Nat) {j' : Int}, act y (a + d) j' → K n x y m D a j = K n x y m D (a + d) j'
  | 0, j', h' => by rw [show a + ((0 : Nat) : Int) = a by omega] at h' ⊢; exact K_edge P h h'
  | d + 1, j', h' => by
    rw [K_go P h d (act_some P (a + d))]
    rw [show a + ((d + 1 : Nat) : Int) = a + d + 1 by omega] at h' ⊢
    exact K_vert P (act_some P (a + d)) h'
theorem V_per (P : Poly n x y m D) {a b : Int} (h : a % (n : Int) = b % (n : Int)) (j : Int) : V x y m D a j = V x y m D b j := by
  unfold V; rw [X_per P h, X_per P h]
theorem K_per (P : Poly n x y m D) {a b j : Int} (h : a % (n : Int) = b % (n : Int)) : K n x y m D a j = K n x y m D b j := by
  unfold K W
  rw [V_per P h, q_per P j a b h]
/-- It is the same for all edges and strips. -/
theorem K_all (P : Poly n x y m D) : ∃ κ, ∀ a j, act y a j → K n x y m D a j = κ := by
  refine ⟨K n x y m D 0 (min (y 0) (y (0 + 1))), fun a j h => ?_⟩
  have hn := P.hn
  have h0 := Int.emod_nonneg a (show (n : Int) ≠ 0 by omega)
  have e : a % (n : Int) = (0 + ((a % (n : Int)).toNat : Int)) % (n : Int) := by
    rw [Int.toNat_of_nonneg h0, Int.zero_add, Int.emod_emod]
  rw [K_per P e]
  exact (K_go P (act_some P 0) _ ((act_per P e).1 h)).symm
end
end PArea
namespace PArea
theorem sm_add {f g : Int → Int} : ∀ k, sm (fun i => f i + g i) k = sm f k + sm g k
  | 0 => rfl
  | k + 1 => by rw [sm, sm, sm, sm_add k]; omega
theorem sm_mul {f : Int → Int} (c : Int) : ∀ k, sm (fun i => c * f i) k = c * sm f k
  | 0 => by show 0 = c * 0; omega
  | k + 1 => by rw [sm, sm, sm_mul c k, Int.mul_add]
theorem exists_min {p : Nat → Prop} {v : Nat → Int} : ∀ {n : Nat}, (∃ k, k < n ∧ p k) → ∃ k, k < n ∧ p k ∧ ∀ i, i < n → p i → v k ≤ v i
  | 0, ⟨_, h, _⟩ => absurd h (Nat.not_lt_zero _)
  | n + 1, ⟨k, hk, hp⟩ => by
    by_cases h : ∃ k, k < n ∧ p k
    · obtain ⟨i, h1, h2, h3⟩ := exists_min (v := v) h
      by_cases hn : p n ∧ v n < v i
      · refine ⟨n, Nat.lt_succ_self n, hn.1, fun t ht hpt => ?_⟩
        rcases Nat.lt_succ_iff_lt_or_eq.1 ht with g | rfl
        · have := h3 t g hpt; omega
        · exact Int.le_refl _
      · refine ⟨i, by omega, h2, fun t ht hpt => ?_⟩
        rcases Nat.lt_succ_iff_lt_or_eq.1 ht with g | rfl
        · exact h3 t g hpt
        · have : ¬ v t < v i := fun g => hn ⟨hpt, g⟩
          omega
    · have e : k = n := by
        rcases Nat.lt_succ_iff_lt_or_eq.1 hk with g | g
        · exact absurd ⟨k, g, hp⟩ h
        · exact g
      subst e
      refine ⟨k, hk, hp, fun t ht hpt => ?_⟩
      rcases Nat.lt_succ_iff_lt_or_eq.1 ht with g | rfl
      · exact absurd ⟨t, g, hpt⟩ h
      · exact Int.le_refl _
section
variable {n : Nat} {x y m : Int → Int} {D : Int}
/-- Over all indices, not only those below n. -/
theorem min_all (P : Poly n x y m D) {j : Int} (p : Int → Prop) (hp : ∀ a b : Int, a % (n : Int) = b % (n : Int) → (p a ↔ p b)) (s : Int) (h : ∃ a, act y a j ∧ p a) : ∃ a, act y a j ∧ p a ∧ ∀ b, act y b j → p b → s * V x y m D a j ≤ s * V x y m D b j := by
  have hn := P.hn
  have red : ∀ a : Int, ∃ k : Nat, k < n ∧ a % (n : Int) = (k : Int) % (n : Int) := fun a => by
    have h0 := Int.emod_nonneg a (show (n : Int) ≠ 0 by omega)
    have h1 := Int.emod_lt_of_pos a (show 0 < (n : Int) by omega)
    exact ⟨(a % (n : Int)).toNat, by omega, by rw [Int.toNat_of_nonneg h0, Int.emod_emod]⟩
  obtain ⟨a, h1, h2⟩ := h
  obtain ⟨k, hk, e⟩ := red a
  obtain ⟨i, _, ⟨g1, g2⟩, g3⟩ := exists_min (p := fun k => act y (k : Int) j ∧ p (k : Int)) (v := fun k => s * V x y m D (k : Int) j) (n := n) ⟨k, hk, (act_per P e).1 h1, (hp _ _ e).1 h2⟩
  refine ⟨(i : Int), g1, g2, fun b hb hpb => ?_⟩
  obtain ⟨t, ht, e⟩ := red b
  rw [V_per P e]
  exact g3 t ht ⟨(act_per P e).1 hb, (hp _ _ e).1 hpb⟩
theorem q_one {a j : Int} (h : act y a j) : q y j a = 1 ∨ q y j a = -1 := by
  rcases h with h | h
  · exact .inl (q_up h.1 h.2)
  · exact .inr (q_dn h.1 h.2)
theorem W_low (P : Poly n x y m D) {a j : Int} (hmin : ∀ b, act y b j → V x y m D a j ≤ V x y m D b j) : W n x y m D a j = 0 := by
  unfold W
  rw [← sm_zero n]
  refine sm_cong fun i _ => ?_
  by_cases h : act y (i : Int) j
  · have := hmin _ h
    rw [ind_f (by omega), Int.mul_zero]
  · rw [q_no h, Int.zero_mul]
theorem q_sum (P : Poly n x y m D) (j : Int) : sm (q y j) n = 0 := by
  have := per_tele (n := n) (g := fun a => ind (j < y a)) (fun a b h => by show ind (j < y a) = ind (j < y b); rw [P.py a b h])
  exact this
def G (n : Nat) (x y m : Int → Int) (D j t : Int) : Int := sm (fun b => q y j b * max 0 (V x y m D b j - t)) n
def Wt (n : Nat) (x y m : Int → Int) (D j t : Int) : Int := sm (fun b => q y j b * ind (V x y m D b j ≤ t)) n
theorem G_step (P : Poly n x y m D) (j t : Int) : G n x y m D j t - G n x y m D j (t + 1) = - Wt n x y m D j t := by
  have e1 := sm_sub (f := fun b => q y j b * max 0 (V x y m D b j - t)) (g := fun b => q y j b * max 0 (V x y m D b j - (t + 1))) n
  have e2 : sm (fun b => q y j b * max 0 (V x y m D b j - t) - q y j b * max 0 (V x y m D b j - (t + 1))) n = sm (fun b => q y j b - q y j b * ind (V x y m D b j ≤ t)) n := sm_cong fun i _ => by
    rw [← Int.mul_sub]
    by_cases h : V x y m D (i : Int) j ≤ t
    · rw [ind_t h, show max 0 (V x y m D (i : Int) j - t) - max 0 (V x y m D (i : Int) j - (t + 1)) = 0 by omega]; omega
    · rw [ind_f h, show max 0 (V x y m D (i : Int) j - t) - max 0 (V x y m D (i : Int) j - (t + 1)) = 1 by omega]; omega
  have e3 := sm_sub (f := fun b => q y j b) (g := fun b => q y j b * ind (V x y m D b j ≤ t)) n
  have e4 := q_sum P j
  change sm (fun b => q y j b) n = 0 at e4
  unfold G Wt
  omega
theorem Wt_top (P : Poly n x y m D) {a j t : Int} (ha : act y a j) (hat : V x y m D a j ≤ t) (hmax : ∀ b, act y b j → V x y m D b j ≤ t → V x y m D b j ≤ V x y m D a j) : Wt n x y m D j t = W n x y m D a j + q y j a := by
  have hn := P.hn
  have := sm_one (n := n) (by omega) (f := fun b => q y j b * ind (V x y m D b j ≤ t)) (g := fun b => q y j b * ind (V x y m D b j < V x y m D a j)) (fun s u h => by
      show q y j s * ind (V x y m D s j ≤ t) = _
      rw [q_per P j s u h, V_per P h]) (fun s u h => by
      show q y j s * ind (V x y m D s j < _) = _
      rw [q_per P j s u h, V_per P h]) a (fun b hb => by
      show q y j b * ind (V x y m D b j ≤ t) = q y j b * ind (V x y m D b j < V x y m D a j)
      by_cases h : act y b j
      · have hne := V_ne P ha h hb
        by_cases g : V x y m D b j ≤ t
        · have := hmax b h g
          rw [ind_t g, ind_t (by omega)]
        · rw [ind_f g, ind_f (by omega)]
      · rw [q_no h, Int.zero_mul, Int.zero_mul])
  have this : Wt n x y m D j t - W n x y m D a j = q y j a * ind (V x y m D a j ≤ t) - q y j a * ind (V x y m D a j < V x y m D a j) := this
  rw [ind_t hat, ind_f (by omega)] at this
  omega
variable {κ : Int}
theorem κ_one (P : Poly n x y m D) (hκ : ∀ a j, act y a j → K n x y m D a j = κ) : κ = 1 ∨ κ = -1 := by
  obtain ⟨a, ha, _, hmin⟩ := min_all P (j := min (y 0) (y (0 + 1))) (fun _ => True) (fun _ _ _ => Iff.rfl) 1 ⟨0, act_some P 0, trivial⟩
  have h := hκ a _ ha
  unfold K at h
  rw [W_low P (fun b hb => by have := hmin b hb trivial; omega)] at h
  rcases q_one ha with e | e <;> omega
theorem Wt_or (P : Poly n x y m D) (hκ : ∀ a j, act y a j → K n x y m D a j = κ) (j t : Int) : Wt n x y m D j t = 0 ∨ Wt n x y m D j t = κ := by
  by_cases h : ∃ a, act y a j ∧ V x y m D a j ≤ t
  · obtain ⟨a, ha, hat, hmax⟩ := min_all P (j := j) (fun a => V x y m D a j ≤ t) (fun _ _ e => by rw [V_per P e]) (-1) h
    rw [Wt_top P ha hat (fun b hb hbt => by have := hmax b hb hbt; omega)]
    have hk := hκ a j ha
    unfold K at hk
    rcases q_one ha with e | e <;> rcases κ_one P hκ with e' | e' <;> omega
  · refine .inl ?_
    unfold Wt
    rw [← sm_zero n]
    refine sm_cong fun i _ => ?_
    by_cases h' : act y (i : Int) j
    · rw [ind_f (fun g => h ⟨_, h', g⟩), Int.mul_zero]
    · rw [q_no h', Int.zero_mul]
theorem V_bd (P : Poly n x y m D) (j : Int) : ∃ B, ∀ k : Nat, k < n → V x y m D (k : Int) j ≤ B := by
  have : ∀ r : Nat, ∃ B, ∀ k : Nat, k < r → V x y m D (k : Int) j ≤ B := fun r => by
    induction r with
    | zero => exact ⟨0, fun k h => absurd h (Nat.not_lt_zero _)⟩
    | succ r ih =>
      obtain ⟨B, hB⟩ := ih
      refine ⟨max B (V x y m D (r : Int) j), fun k hk => ?_⟩
      rcases Nat.lt_succ_iff_lt_or_eq.1 hk with g | rfl
      · have := hB k g; omega
      · omega
  exact this n
theorem G_le (P : Poly n x y m D) (hκ : ∀ a j, act y a j → K n x y m D a j = κ) (j : Int) {B : Int} (hB : ∀ k : Nat, k < n → V x y m D (k : Int) j ≤ B) : ∀ (r : Nat) (t : Int), B - t ≤ r → κ * G n x y m D j t ≤ 0
  | 0, t, h => by
    have : G n x y m D j t = 0 := by
      unfold G
      refine Eq.trans (sm_cong (g := fun _ => 0) fun i hi => ?_) (sm_zero n)
      have := hB i hi
      rw [show max 0 (V x y m D (i : Int) j - t) = 0 by omega, Int.mul_zero]
    rw [this, Int.mul_zero]; exact Int.le_refl _
  | r + 1, t, h => by
    have ih := G_le P hκ j hB r (t + 1) (by omega)
    have hs := G_step P j t
    rcases κ_one P hκ with rfl | rfl <;> rcases Wt_or P hκ j t with e | e <;> omega
def S (n : Nat) (x y m : Int → Int) (D j : Int) : Int := sm (fun b => q y j b * V x y m D b j) n
theorem S_neg (P : Poly n x y m D) (hκ : ∀ a j, act y a j → K n x y m D a j = κ) {j : Int} (h : ∃ a, act y a j) : κ * S n x y m D j < 0 := by
  obtain ⟨a, ha⟩ := h
  obtain ⟨a, ha, _, hmin⟩ := min_all P (j := j) (fun _ => True) (fun _ _ _ => Iff.rfl) 1 ⟨a, ha, trivial⟩
  have hmin : ∀ b, act y b j → V x y m D a j ≤ V x y m D b j := fun b hb => by have := hmin b hb trivial; omega
  obtain ⟨B, hB⟩ := V_bd P j
  have g1 := G_le P hκ j hB (B - (V x y m D a j + 1)).toNat (V x y m D a j + 1) (by omega)
  have hs := G_step P j (V x y m D a j)
  have hw := Wt_top P ha (Int.le_refl _) (fun b _ hb => hb)
  rw [W_low P hmin] at hw
  have hk := hκ a j ha
  unfold K at hk
  rw [W_low P hmin] at hk
  have e : G n x y m D j (V x y m D a j) = S n x y m D j := by
    have e1 := sm_sub (f := fun b => q y j b * V x y m D b j) (g := fun b => V x y m D a j * q y j b) n
    rw [sm_mul, q_sum P j, Int.mul_zero] at e1
    have e2 : G n x y m D j (V x y m D a j) = sm (fun b => q y j b * V x y m D b j - V x y m D a j * q y j b) n := by
      unfold G
      refine sm_cong fun i _ => ?_
      by_cases h : act y (i : Int) j
      · have := hmin _ h
        rw [show max 0 (V x y m D (i : Int) j - V x y m D a j) = V x y m D (i : Int) j - V x y m D a j by omega, Int.mul_sub, Int.mul_comm (V x y m D a j)]
      · rw [q_no h]; omega
    unfold S
    omega
  rw [← e]
  rcases κ_one P hκ with e' | e' <;> rw [e'] at g1 hk ⊢ <;> rcases q_one ha with e2 | e2 <;> rw [e2] at hk hw <;> omega
theorem S_zero (P : Poly n x y m D) {j : Int} (h : ¬ ∃ a, act y a j) : S n x y m D j = 0 := by
  unfold S
  rw [← sm_zero n]
  refine sm_cong fun i _ => ?_
  rw [q_no (fun g => h ⟨_, g⟩), Int.zero_mul]
def F (x y m : Int → Int) (D b Y : Int) : Int := 2 * (D * x b - m b * y b) * Y + m b * (Y * Y)
theorem F_step (b Y : Int) : F x y m D b (Y + 1) - F x y m D b Y = V x y m D b Y := by
  unfold F V X; grind
theorem F_edge (P : Poly n x y m D) (b : Int) : F x y m D b (y (b + 1)) - F x y m D b (y b) = D * ((x b + x (b + 1)) * (y (b + 1) - y b)) := by
  have := P.hm b
  unfold F; grind
theorem clip (b J y0 : Int) (h : J ≤ y0) : ∀ M : Nat, sm (fun i => ind (J + i < y0) * V x y m D b (J + i)) M = F x y m D b (min y0 (J + M)) - F x y m D b J
  | 0 => by rw [show min y0 (J + ((0 : Nat) : Int)) = J by omega]; show 0 = _; omega
  | M + 1 => by
    rw [sm, clip b J y0 h M]
    by_cases g : J + (M : Int) < y0
    · rw [ind_t g, show min y0 (J + (M : Int)) = J + M by omega, show min y0 (J + ((M + 1 : Nat) : Int)) = J + M + 1 by omega, ← F_step]; omega
    · rw [ind_f g, show min y0 (J + (M : Int)) = y0 by omega, show min y0 (J + ((M + 1 : Nat) : Int)) = y0 by omega]; omega
theorem swap (f : Int → Int → Int) (n : Nat) : ∀ M : Nat, sm (fun i => sm (fun b => f i b) n) M = sm (fun b => sm (fun i => f i b) M) n
  | 0 => by show 0 = sm (fun _ => 0) n; rw [sm_zero]
  | M + 1 => by
    rw [sm, swap f n M, ← sm_add]
    rfl
theorem total (P : Poly n x y m D) (J : Int) (M : Nat) (h : ∀ b, J ≤ y b ∧ y b ≤ J + M) : sm (fun i => S n x y m D (J + i)) M = D * sm (fun b => (x b + x (b + 1)) * (y (b + 1) - y b)) n := by
  have e : sm (fun i => S n x y m D (J + i)) M = sm (fun b => sm (fun i => q y (J + i) b * V x y m D b (J + i)) M) n := swap (fun i b => q y (J + i) b * V x y m D b (J + i)) n M
  rw [e, ← sm_mul]
  refine sm_cong fun b _ => ?_
  have h1 := clip (x := x) (y := y) (m := m) (D := D) (b : Int) J (y ((b : Int) + 1)) (h _).1 M
  have h2 := clip (x := x) (y := y) (m := m) (D := D) (b : Int) J (y (b : Int)) (h _).1 M
  rw [show min (y ((b : Int) + 1)) (J + (M : Int)) = y ((b : Int) + 1) by have := (h ((b : Int) + 1)).2; omega] at h1
  rw [show min (y (b : Int)) (J + (M : Int)) = y (b : Int) by have := (h (b : Int)).2; omega] at h2
  have h3 := sm_sub (f := fun i => ind (J + i < y ((b : Int) + 1)) * V x y m D (b : Int) (J + i)) (g := fun i => ind (J + i < y (b : Int)) * V x y m D (b : Int) (J + i)) M
  have h4 : sm (fun i => q y (J + i) (b : Int) * V x y m D (b : Int) (J + i)) M = sm (fun i => ind (J + i < y ((b : Int) + 1)) * V x y m D (b : Int) (J + i) - ind (J + i < y (b : Int)) * V x y m D (b : Int) (J + i)) M := sm_cong fun i _ => by unfold q; rw [Int.sub_mul]
  have h5 := F_edge P (b : Int)
  omega
theorem y_bd (P : Poly n x y m D) : ∃ (J : Int) (M : Nat), ∀ b, J ≤ y b ∧ y b ≤ J + M := by
  have hn := P.hn
  have : ∀ r : Nat, ∃ B : Nat, ∀ k : Nat, k < r → -(B : Int) ≤ y (k : Int) ∧ y (k : Int) ≤ B := fun r => by
    induction r with
    | zero => exact ⟨0, fun k h => absurd h (Nat.not_lt_zero _)⟩
    | succ r ih =>
      obtain ⟨B, hB⟩ := ih
      refine ⟨max B (y (r : Int)).natAbs, fun k hk => ?_⟩
      rcases Nat.lt_succ_iff_lt_or_eq.1 hk with g | rfl
      · have := hB k g; omega
      · omega
  obtain ⟨B, hB⟩ := this n
  refine ⟨-(B : Int), 2 * B, fun b => ?_⟩
  have h0 := Int.emod_nonneg b (show (n : Int) ≠ 0 by omega)
  have h1 := Int.emod_lt_of_pos b (show 0 < (n : Int) by omega)
  have := hB (b % (n : Int)).toNat (by omega)
  rw [P.py b ((b % (n : Int)).toNat : Int) (by rw [Int.toNat_of_nonneg h0, Int.emod_emod])]
  omega
theorem sum_neg {f : Int → Int} (h : ∀ i, f i ≤ 0) : ∀ {M : Nat}, sm f M ≤ 0 ∧ ∀ k : Nat, k < M → f (k : Int) < 0 → sm f M < 0
  | 0 => ⟨Int.le_refl _, fun k hk => absurd hk (Nat.not_lt_zero _)⟩
  | M + 1 => by
    obtain ⟨h1, h2⟩ := sum_neg h (M := M)
    have := h (M : Int)
    refine ⟨by rw [sm]; omega, fun k hk hf => ?_⟩
    rw [sm]
    rcases Nat.lt_succ_iff_lt_or_eq.1 hk with g | rfl
    · have := h2 k g hf; omega
    · omega
/-- Twice the area has the sign of the orientation. -/
theorem area_sg (P : Poly n x y m D) (hκ : ∀ a j, act y a j → K n x y m D a j = κ) : κ * sm (fun b => (x b + x (b + 1)) * (y (b + 1) - y b)) n < 0 := by
  obtain ⟨J, M, hy⟩ := y_bd P
  have hS : ∀ j, κ * S n x y m D j ≤ 0 := fun j => by
    by_cases h : ∃ a, act y a j
    · exact Int.le_of_lt (S_neg P hκ h)
    · rw [S_zero P h, Int.mul_zero]; exact Int.le_refl _
  have hneg : sm (fun i => κ * S n x y m D (J + i)) M < 0 := by
    have hd := dy_ne P 0
    have h0 := hy 0
    have h1 := hy (0 + 1)
    refine (sum_neg (f := fun i => κ * S n x y m D (J + i)) (fun i => hS _) (M := M)).2 (min (y 0) (y (0 + 1)) - J).toNat (by omega) ?_
    show κ * S n x y m D (J + ((min (y 0) (y (0 + 1)) - J).toNat : Int)) < 0
    rw [show J + ((min (y 0) (y (0 + 1)) - J).toNat : Int) = min (y 0) (y (0 + 1)) by omega]
    exact S_neg P hκ ⟨0, act_some P 0⟩
  rw [sm_mul, total P J M hy, ← Int.mul_assoc, Int.mul_comm κ, Int.mul_assoc] at hneg
  rcases Int.lt_or_le (κ * sm (fun b => (x b + x (b + 1)) * (y (b + 1) - y b)) n) 0 with g | g
  · exact g
  · have := Int.mul_nonneg (Int.le_of_lt P.hD) g; omega
end
end PArea

theorem sm_P (f : Int → Int) : ∀ k, L.sm f k = PArea.sm f k
  | 0 => rfl
  | k + 1 => by rw [L.sm, PArea.sm, sm_P f k]
/-- No flat corner, in the words of thin. -/
def L.sharp (l : L.Sq L.Pt) : Prop := ∀ i, i < l.n → L.outAt L.cFlat l i = false
theorem sharp_cy {l : L.Sq L.Pt} (hn : 0 < l.n) (h : L.sharp l) (a : Int) : L.cross (L.cy l (a - 1)) (L.cy l a) (L.cy l (a + 1)) ≠ 0 := by
  have hk := ix_lt (n := l.n) (i := a) hn
  have hc := h _ hk
  have e1 : L.prev l.n (L.ix l.n a) = L.ix l.n (a - 1) := by
    rw [← ix_prev hk, show ((L.ix l.n a : Nat) : Int) - 1 = ((L.ix l.n a : Nat) : Int) + -1 by omega, ix_ix hn]; rfl
  have e2 : L.next l.n (L.ix l.n a) = L.ix l.n (a + 1) := by
    rw [← ix_next hk, ix_ix hn]
  unfold L.outAt L.cFlat at hc
  rw [e1, e2] at hc
  exact of_decide_eq_false hc
theorem cy_per {l : L.Sq L.Pt} (hn : 0 < l.n) {a b : Int} (h : a % (l.n : Int) = b % (l.n : Int)) : L.cy l a = L.cy l b := by
  have := cy_congr (l := l) hn h 0
  rwa [Int.add_zero, Int.add_zero] at this
theorem far_meet {l : L.Sq L.Pt} (h3 : 3 ≤ l.n) (hs : L.simple l = true) {a b : Int} (h : PArea.far l.n a b) : L.meet (L.cy l a) (L.cy l (a + 1)) (L.cy l b) (L.cy l (b + 1)) = 0 := by
  have := simpC_of (by omega) hs a b h.1
  rw [if_neg] at this
  · exact this
  · rintro (e | e)
    · exact h.2.2 (emod_eq_of (by rw [e, Int.emod_eq_of_lt (by omega) (by omega)])).symm
    · exact h.2.1 (emod_eq_of (by rw [e, Int.emod_eq_of_lt (by omega) (by omega)]))
theorem cross_dup2 (a b : L.Pt) : L.cross a a b = 0 := by unfold L.cross; rw [Int.sub_self, Int.sub_self, Int.zero_mul, Int.zero_mul]; rfl
theorem sharp_inj {l : L.Sq L.Pt} (h3 : 3 ≤ l.n) (hs : L.simple l = true) (hc : L.sharp l) {a b : Int} (h : L.cy l a = L.cy l b) : a % (l.n : Int) = b % (l.n : Int) := by
  have hn : 0 < l.n := by omega
  have nx : ∀ x y : Int, (x + 1) % (l.n : Int) = y % (l.n : Int) → L.cy l x ≠ L.cy l y := fun x y hxy e => by
    have := sharp_cy hn hc (x + 1)
    rw [show x + 1 - 1 = x by omega, cy_per hn hxy, ← e] at this
    exact this (cross_dup2 _ _)
  by_cases hab : a % (l.n : Int) = b % (l.n : Int)
  · exact hab
  by_cases c1 : (a + 1) % (l.n : Int) = b % (l.n : Int)
  · exact absurd h (nx a b c1)
  by_cases c2 : (b + 1) % (l.n : Int) = a % (l.n : Int)
  · exact absurd h.symm (nx b a c2)
  have hm := far_meet h3 hs (a := a) (b := b) ⟨hab, fun e => c2 e.symm, c1⟩
  exact absurd (.inl ⟨by rw [h]; exact on_left, rfl⟩) (meet_none hm (L.cy l a))
theorem cmp_sg {a b : Int} (h : a * b < 0) : L.cmp a 0 * L.cmp b 0 < 0 := by
  unfold L.cmp
  rcases Int.lt_trichotomy a 0 with h1 | h1 | h1
  · rcases Int.lt_trichotomy b 0 with h2 | h2 | h2
    · have := Int.mul_pos_of_neg_of_neg h1 h2; omega
    · rw [h2, Int.mul_zero] at h; omega
    · rw [decide_eq_true h1, decide_eq_false (show ¬ b < 0 by omega), decide_eq_true h2]; exact (by decide : (-1 : Int) * 1 < 0)
  · rw [h1, Int.zero_mul] at h; omega
  · rcases Int.lt_trichotomy b 0 with h2 | h2 | h2
    · rw [decide_eq_false (show ¬ a < 0 by omega), decide_eq_true h1, decide_eq_true h2]; exact (by decide : (1 : Int) * -1 < 0)
    · rw [h2, Int.mul_zero] at h; omega
    · have := Int.mul_pos h1 h2; omega
theorem meet_noX {a b c d : L.Pt} (h : L.meet a b c d = 0) : ¬ (L.apart a b c d = true ∧ L.apart c d a b = true) := fun ⟨h1, h2⟩ => by
  unfold L.meet at h
  rw [h1, h2] at h
  revert h
  cases decide (1 < ((L.k2 a b c d 2).n : Int)) <;> cases decide (((L.k2 a b c d 2).n : Int) = 1) <;> intro h <;> cases h
theorem mult_ex (d : Nat → Int) : ∀ r : Nat, ∃ D : Int, 0 < D ∧ ∀ k, k < r → d k ≠ 0 → d k ∣ D
  | 0 => ⟨1, by decide, fun k h => absurd h (Nat.not_lt_zero _)⟩
  | r + 1 => by
    obtain ⟨D, h1, h2⟩ := mult_ex d r
    by_cases h : d r = 0
    · refine ⟨D, h1, fun k hk hne => ?_⟩
      rcases Nat.lt_succ_iff_lt_or_eq.1 hk with g | rfl
      · exact h2 k g hne
      · exact absurd h hne
    · refine ⟨D * ((d r).natAbs : Int), Int.mul_pos h1 (by omega), fun k hk hne => ?_⟩
      rcases Nat.lt_succ_iff_lt_or_eq.1 hk with g | rfl
      · exact Int.dvd_mul_of_dvd_left (h2 k g hne)
      · exact Int.dvd_mul_of_dvd_right (Int.dvd_natAbs.2 (Int.dvd_refl _))
def L.hx (l : L.Sq L.Pt) (a : Int) : Int := (L.cy l a).x
def L.hy (l : L.Sq L.Pt) (a : Int) : Int := 8000001 * (L.cy l a).y + (L.cy l a).x
theorem cr_cross (l : L.Sq L.Pt) (a c : Int) : PArea.cr (L.hx l) (L.hy l) a c = 8000001 * L.cross (L.cy l a) (L.cy l (a + 1)) (L.cy l c) := by
  unfold PArea.cr L.hx L.hy L.cross
  grind
theorem cr_neg {p q : Int} (h : 8000001 * p * (8000001 * q) < 0) : p * q < 0 := by
  have e : 8000001 * p * (8000001 * q) = 64000016000001 * (p * q) := by grind
  omega
theorem on_of {a b c : L.Pt} (h0 : L.cross a b c = 0) (hne : a ≠ b) (ba : L.bd a) (bb : L.bd b) (bc : L.bd c) (h1 : min (8000001 * a.y + a.x) (8000001 * b.y + b.x) ≤ 8000001 * c.y + c.x) (h2 : 8000001 * c.y + c.x ≤ max (8000001 * a.y + a.x) (8000001 * b.y + b.x)) : L.on a b c = true := by
  unfold L.bd at ba bb bc
  unfold L.cross at h0
  unfold L.on L.within
  have hd : 8000001 * (b.y - a.y) + (b.x - a.x) ≠ 0 := fun e => hne (by
    have e1 : b.y = a.y := by omega
    have e2 : b.x = a.x := by omega
    cases a; cases b; simp only at e1 e2; rw [e1, e2])
  have k1 : (c.x - a.x) * (8000001 * (b.y - a.y) + (b.x - a.x)) = (b.x - a.x) * (8000001 * (c.y - a.y) + (c.x - a.x)) := by grind
  have k2 : (c.y - a.y) * (8000001 * (b.y - a.y) + (b.x - a.x)) = (b.y - a.y) * (8000001 * (c.y - a.y) + (c.x - a.x)) := by grind
  have key : ∀ u w U Wd : Int, Wd * U = u * w → U ≠ 0 → (0 ≤ w ∧ w ≤ U ∨ U ≤ w ∧ w ≤ 0) → (0 ≤ Wd ∧ Wd ≤ u ∨ u ≤ Wd ∧ Wd ≤ 0) := fun u w U Wd e hU hw => by
    have tri : ∀ U w Wd u : Int, 0 < U → 0 ≤ w → w ≤ U → Wd * U = u * w → (0 ≤ Wd ∧ Wd ≤ u ∨ u ≤ Wd ∧ Wd ≤ 0) := fun U w Wd u hU h0 h1 e => by
      rcases Int.le_total 0 u with g | g
      · refine .inl ⟨?_, ?_⟩
        · rcases Int.lt_or_le Wd 0 with q | q
          · have := Int.mul_neg_of_neg_of_pos q hU
            have := Int.mul_nonneg g h0
            omega
          · exact q
        · rcases Int.lt_or_le u Wd with q | q
          · have a1 := Int.mul_lt_mul_of_pos_right q hU
            have a2 := Int.mul_le_mul_of_nonneg_left h1 g
            omega
          · exact q
      · refine .inr ⟨?_, ?_⟩
        · rcases Int.lt_or_le Wd u with q | q
          · have a1 := Int.mul_lt_mul_of_pos_right q hU
            have a2 := Int.mul_nonneg_of_nonpos_of_nonpos g (show w - U ≤ 0 by omega)
            rw [Int.mul_sub] at a2
            omega
          · exact q
        · rcases Int.lt_or_le 0 Wd with q | q
          · have := Int.mul_pos q hU
            have := Int.mul_nonpos_of_nonpos_of_nonneg g h0
            omega
          · exact q
    rcases hw with ⟨p1, p2⟩ | ⟨p1, p2⟩
    · exact tri U w Wd u (by omega) p1 p2 e
    · exact tri (-U) (-w) Wd u (by omega) (by omega) (by omega) (by rw [Int.mul_neg, Int.mul_neg, e])
  have hr : 0 ≤ 8000001 * (c.y - a.y) + (c.x - a.x) ∧ 8000001 * (c.y - a.y) + (c.x - a.x) ≤ 8000001 * (b.y - a.y) + (b.x - a.x) ∨ 8000001 * (b.y - a.y) + (b.x - a.x) ≤ 8000001 * (c.y - a.y) + (c.x - a.x) ∧ 8000001 * (c.y - a.y) + (c.x - a.x) ≤ 0 := by omega
  have r1 := key _ _ _ _ k1 hd hr
  have r2 := key _ _ _ _ k2 hd hr
  simp only [Bool.and_eq_true, decide_eq_true_eq]
  unfold L.cross
  omega
theorem poly_of {l : L.Sq L.Pt} (h3 : 3 ≤ l.n) (hb : L.allBd l) (hs : L.simple l = true) (hc : L.sharp l) : ∃ m D, PArea.Poly l.n (L.hx l) (L.hy l) m D := by
  have hn : 0 < l.n := by omega
  have bd : ∀ a, L.bd (L.cy l a) := fun a => hb.2 _ (ix_lt hn)
  have hne : ∀ a b : Int, a % (l.n : Int) ≠ b % (l.n : Int) → L.hy l a ≠ L.hy l b := fun a b h e => h (sharp_inj h3 hs hc (by
    have b1 := bd a
    have b2 := bd b
    unfold L.bd at b1 b2
    unfold L.hy at e
    have e1 : (L.cy l a).y = (L.cy l b).y := by omega
    have e2 : (L.cy l a).x = (L.cy l b).x := by omega
    generalize L.cy l a = p at *
    generalize L.cy l b = r at *
    cases p; cases r; simp only at e1 e2; rw [e1, e2]))
  obtain ⟨D, hD, hdv⟩ := mult_ex (fun k => L.hy l ((k : Int) + 1) - L.hy l (k : Int)) l.n
  have dv : ∀ a : Int, (L.hy l (a + 1) - L.hy l a) ∣ D := fun a => by
    have h0 := Int.emod_nonneg a (show (l.n : Int) ≠ 0 by omega)
    have h1 := Int.emod_lt_of_pos a (show 0 < (l.n : Int) by omega)
    have e : a % (l.n : Int) = (((a % (l.n : Int)).toNat : Nat) : Int) % (l.n : Int) := by rw [Int.toNat_of_nonneg h0, Int.emod_emod]
    have q1 : L.hy l a = L.hy l (((a % (l.n : Int)).toNat : Nat) : Int) := by unfold L.hy; rw [cy_per hn e]
    have q2 : L.hy l (a + 1) = L.hy l ((((a % (l.n : Int)).toNat : Nat) : Int) + 1) := by unfold L.hy; rw [cy_per hn (PArea.succ_mod e 1)]
    rw [q1, q2]
    refine hdv _ (by omega) ?_
    have := hne _ _ (PArea.next_ne h3 (((a % (l.n : Int)).toNat : Nat) : Int))
    omega
  exact ⟨fun a => (L.hx l (a + 1) - L.hx l a) * (D / (L.hy l (a + 1) - L.hy l a)), D,
    { hn := h3
      px := fun a b h => by unfold L.hx; rw [cy_per hn h]
      py := fun a b h => by unfold L.hy; rw [cy_per hn h]
      pm := fun a b h => by
        show (L.hx l (a + 1) - L.hx l a) * (D / (L.hy l (a + 1) - L.hy l a)) = (L.hx l (b + 1) - L.hx l b) * (D / (L.hy l (b + 1) - L.hy l b))
        unfold L.hx L.hy; rw [cy_per hn h, cy_per hn (PArea.succ_mod h 1)]
      hD := hD
      hm := fun a => by
        show (L.hx l (a + 1) - L.hx l a) * (D / (L.hy l (a + 1) - L.hy l a)) * (L.hy l (a + 1) - L.hy l a) = _
        rw [Int.mul_assoc, Int.ediv_mul_cancel (dv a), Int.mul_comm]
      hy := hne
      on := fun a b h c hcb hw e => by
        rw [cr_cross] at e
        have e0 : L.cross (L.cy l a) (L.cy l (a + 1)) (L.cy l c) = 0 := by omega
        have hab : L.cy l a ≠ L.cy l (a + 1) := fun e => PArea.next_ne h3 a (sharp_inj h3 hs hc e)
        have ho := on_of e0 hab (bd _) (bd _) (bd _) hw.1 hw.2
        refine meet_none (far_meet h3 hs h) (L.cy l c) ?_
        rcases hcb with rfl | rfl
        · exact .inr (.inr (.inl ⟨ho, rfl⟩))
        · exact .inr (.inr (.inr ⟨ho, rfl⟩))
      no := fun a b h ⟨g1, g2⟩ => by
        rw [cr_cross, cr_cross] at g1 g2
        exact meet_noX (far_meet h3 hs h) ⟨decide_eq_true (cmp_sg (cr_neg g1)), decide_eq_true (cmp_sg (cr_neg g2))⟩
      co := fun a e => by
        rw [cr_cross] at e
        have := sharp_cy hn hc (a + 1)
        rw [show a + 1 - 1 = a by omega, show a + 1 + 1 = a + 2 by omega] at this
        exact absurd (show L.cross (L.cy l a) (L.cy l (a + 1)) (L.cy l (a + 2)) = 0 by omega) this }⟩
def L.gridTo (l : L.Sq L.Pt) : Nat → Int
  | 0 => 0
  | k + 1 => L.gridTo l k + L.gcd ((l.g (L.next l.n k)).x - (l.g k).x) ((l.g (L.next l.n k)).y - (l.g k).y)
def L.oE (l : L.Sq L.Pt) : Int := bif L.validOutline l then 0 else 1
def L.grN (l : L.Sq L.Pt) : Int := bif L.validOutline l then L.gridTo l l.n else 0
def L.grI (l : L.Sq L.Pt) : Int := bif L.validOutline l then Int.tdiv (L.areaTo l l.n - L.gridTo l l.n + 2) 2 else 0
def L.lowTo (l : L.Sq L.Pt) : Nat → L.Pt
  | 0 => l.g 0
  | k + 1 => ⟨min (L.lowTo l k).x (l.g k).x, min (L.lowTo l k).y (l.g k).y⟩
def L.highTo (l : L.Sq L.Pt) : Nat → L.Pt
  | 0 => l.g 0
  | k + 1 => ⟨max (L.highTo l k).x (l.g k).x, max (L.highTo l k).y (l.g k).y⟩
def L.boxL (l : L.Sq L.Pt) : L.Pt := bif L.validOutline l then L.lowTo l l.n else ⟨0, 0⟩
def L.boxH (l : L.Sq L.Pt) : L.Pt := bif L.validOutline l then L.highTo l l.n else ⟨0, 0⟩
theorem gcd_bd {a b : Int} {m : Int} (ha : -m ≤ a) (ha' : a ≤ m) (hb : -m ≤ b) (hb' : b ≤ m) : 0 ≤ L.gcd a b ∧ L.gcd a b ≤ m := by
  unfold L.gcd
  refine ⟨Int.natCast_nonneg _, ?_⟩
  rcases Nat.eq_zero_or_pos a.natAbs with h | h
  · rw [h, Nat.gcd_zero_left]; omega
  · have := Nat.gcd_le_left (m := a.natAbs) b.natAbs h
    omega
theorem gridTo_bd {l : L.Sq L.Pt} (h : L.allBd l) : ∀ k, k ≤ l.n → 0 ≤ L.gridTo l k ∧ L.gridTo l k ≤ 8000000 * (k : Int)
  | 0, _ => by unfold L.gridTo; omega
  | k + 1, hk => by
    have ih := gridTo_bd h k (by omega)
    have h1 := h.2 k (by omega)
    have h2 := h.2 (L.next l.n k) (next_lt (by omega))
    unfold L.bd at h1 h2
    have := gcd_bd (a := (l.g (L.next l.n k)).x - (l.g k).x) (b := (l.g (L.next l.n k)).y - (l.g k).y) (m := 8000000) (by omega) (by omega) (by omega) (by omega)
    rw [L.gridTo]
    omega
namespace PArea
def sg (v : Int) : Int := if 0 < v then 1 else if v < 0 then -1 else 0
theorem sg_pos {v : Int} (h : 0 < v) : sg v = 1 := if_pos h
theorem sg_neg {v : Int} (h : v < 0) : sg v = -1 := by unfold sg; rw [if_neg (by omega), if_pos h]
theorem sg_mul {D u v w : Int} (hD : 0 < D) (hu : u ≠ 0) (hv : v ≠ 0) (h : u * v = D * w) : sg w = sg u * sg v := by
  have pw : 0 < u * v → 0 < w := fun h0 => by
    rcases Int.lt_or_le 0 w with g | g
    · exact g
    · have := Int.mul_nonpos_of_nonneg_of_nonpos (Int.le_of_lt hD) g; omega
  have nw : u * v < 0 → w < 0 := fun h0 => by
    rcases Int.lt_or_le w 0 with g | g
    · exact g
    · have := Int.mul_nonneg (Int.le_of_lt hD) g; omega
  rcases Int.lt_or_lt_of_ne hu with h1 | h1 <;> rcases Int.lt_or_lt_of_ne hv with h2 | h2
  · rw [sg_pos (pw (Int.mul_pos_of_neg_of_neg h1 h2)), sg_neg h1, sg_neg h2]; rfl
  · rw [sg_neg (nw (Int.mul_neg_of_neg_of_pos h1 h2)), sg_neg h1, sg_pos h2]; rfl
  · rw [sg_neg (nw (Int.mul_neg_of_pos_of_neg h1 h2)), sg_pos h1, sg_neg h2]; rfl
  · rw [sg_pos (pw (Int.mul_pos h1 h2)), sg_pos h1, sg_pos h2]; rfl
/-- What corner c sees of edge a: the side on which it passes c's height. -/
def Sv (x y : Int → Int) (c a : Int) : Int := if (y a < y c ∧ y c < y (a + 1)) ∨ (y (a + 1) < y c ∧ y c < y a) then sg (cr x y a c) else 0
/-- The turn at corner j + 1. -/
def tau (x y : Int → Int) (j : Int) : Int := Sv x y j (j + 1) + Sv x y (j + 2) j
section
variable {n : Nat} {x y m : Int → Int} {D : Int}
theorem side (P : Poly n x y m D) {a b : Int} (h : far n a b) : ∃ e : Int, (e = 1 ∨ e = -1) ∧ (∀ c, (c = b ∨ c = b + 1) → ((y a < y c ∧ y c < y (a + 1)) ∨ (y (a + 1) < y c ∧ y c < y a)) → sg (cr x y a c) = sg (y (a + 1) - y a) * e) ∧
    (∀ c, (c = a ∨ c = a + 1) → ((y b < y c ∧ y c < y (b + 1)) ∨ (y (b + 1) < y c ∧ y c < y b)) → sg (cr x y b c) = - (sg (y (b + 1) - y b) * e)) := by
  have da := dy_ne P a
  have db := dy_ne P b
  generalize hY1 : max (min (y a) (y (a + 1))) (min (y b) (y (b + 1))) = Y1
  generalize hY2 : min (max (y a) (y (a + 1))) (max (y b) (y (b + 1))) = Y2
  by_cases hlt : Y1 < Y2
  · have pick : ∀ Y, (Y = y a ∨ Y = y (a + 1) ∨ Y = y b ∨ Y = y (b + 1)) → Y1 ≤ Y → Y ≤ Y2 → X x y m D a Y - X x y m D b Y ≠ 0 := fun Y hY l1 l2 e => by
      rcases hY with rfl | rfl | rfl | rfl
      · exact end_ne P (far_comm h) (.inl rfl) ⟨by omega, by omega⟩ (by omega)
      · exact end_ne P (far_comm h) (.inr rfl) ⟨by omega, by omega⟩ (by omega)
      · exact end_ne P h (.inl rfl) ⟨by omega, by omega⟩ e
      · exact end_ne P h (.inr rfl) ⟨by omega, by omega⟩ e
    have n1 := pick Y1 (by omega) (Int.le_refl _) (by omega)
    have n2 := pick Y2 (by omega) (by omega) (Int.le_refl _)
    have same : sg (X x y m D a Y1 - X x y m D b Y1) = sg (X x y m D a Y2 - X x y m D b Y2) := by
      rcases Int.lt_or_lt_of_ne n1 with h1 | h1 <;> rcases Int.lt_or_lt_of_ne n2 with h2 | h2
      · rw [sg_neg h1, sg_neg h2]
      · exact (no_cross P h h1 h2 (by omega) (by omega) (by omega) (by omega) (by omega)).elim
      · exact (no_cross P (far_comm h) (lo := Y1) (hi := Y2) (by omega) (by omega) (by omega) (by omega) (by omega) (by omega) (by omega)).elim
      · rw [sg_pos h1, sg_pos h2]
    refine ⟨sg (X x y m D a Y1 - X x y m D b Y1), ?_, fun c hc hs => ?_, fun c hc hs => ?_⟩
    · rcases Int.lt_or_lt_of_ne n1 with h1 | h1
      · exact .inr (sg_neg h1)
      · exact .inl (sg_pos h1)
    · have hX : X x y m D b (y c) = D * x c := by
        rcases hc with rfl | rfl
        · exact X_lo _
        · exact X_hi P _
      have hY : y c = Y1 ∨ y c = Y2 := by rcases hc with rfl | rfl <;> omega
      have r := R1 P a c
      rw [← hX] at r
      have := sg_mul P.hD da (by rcases hY with e | e <;> rw [e] <;> assumption) r
      rw [this]
      rcases hY with e | e <;> rw [e]
      rw [same]
    · have hX : X x y m D a (y c) = D * x c := by
        rcases hc with rfl | rfl
        · exact X_lo _
        · exact X_hi P _
      have hY : y c = Y1 ∨ y c = Y2 := by rcases hc with rfl | rfl <;> omega
      have r := R1 P b c
      rw [← hX] at r
      have ng : ∀ u : Int, u ≠ 0 → sg (-u) = - sg u := fun u hu => by
        rcases Int.lt_or_lt_of_ne hu with q | q
        · rw [sg_neg q, sg_pos (by omega)]; rfl
        · rw [sg_pos q, sg_neg (by omega)]
      have n' : X x y m D a (y c) - X x y m D b (y c) ≠ 0 := by rcases hY with e | e <;> rw [e] <;> assumption
      have := sg_mul P.hD db (by omega) r
      rw [this, show X x y m D b (y c) - X x y m D a (y c) = -(X x y m D a (y c) - X x y m D b (y c)) by omega, ng _ n', Int.mul_neg]
      rcases hY with e | e <;> rw [e]
      rw [same]
  · exact ⟨1, .inl rfl, fun c hc hs => by rcases hc with rfl | rfl <;> omega, fun c hc hs => by rcases hc with rfl | rfl <;> omega⟩
theorem comb {p p' r r' e t1 t2 t3 t4 : Int} (g1 : (p < r ∧ r < p') ∨ (p' < r ∧ r < p) → t1 = sg (p' - p) * e) (z1 : ¬ ((p < r ∧ r < p') ∨ (p' < r ∧ r < p)) → t1 = 0)
    (g2 : (p < r' ∧ r' < p') ∨ (p' < r' ∧ r' < p) → t2 = sg (p' - p) * e) (z2 : ¬ ((p < r' ∧ r' < p') ∨ (p' < r' ∧ r' < p)) → t2 = 0)
    (g3 : (r < p' ∧ p' < r') ∨ (r' < p' ∧ p' < r) → t3 = -(sg (r' - r) * e)) (z3 : ¬ ((r < p' ∧ p' < r') ∨ (r' < p' ∧ p' < r)) → t3 = 0)
    (g4 : (r < p ∧ p < r') ∨ (r' < p ∧ p < r) → t4 = -(sg (r' - r) * e)) (z4 : ¬ ((r < p ∧ p < r') ∨ (r' < p ∧ p < r)) → t4 = 0)
    (da : p' - p ≠ 0) (db : r' - r ≠ 0) (d1 : p ≠ r) (d2 : p ≠ r') (d3 : p' ≠ r) (d4 : p' ≠ r') : t1 - t2 + t3 - t4 = 0 := by
  have c : ∀ u v w : Int, Decidable ((u < v ∧ v < w) ∨ (w < v ∧ v < u)) := fun _ _ _ => inferInstance
  rcases Int.lt_or_lt_of_ne da with ka | ka <;> rcases Int.lt_or_lt_of_ne db with kb | kb
  · rw [sg_neg ka] at g1 g2; rw [sg_neg kb] at g3 g4
    by_cases q1 : (p < r ∧ r < p') ∨ (p' < r ∧ r < p) <;> by_cases q2 : (p < r' ∧ r' < p') ∨ (p' < r' ∧ r' < p) <;> by_cases q3 : (r < p' ∧ p' < r') ∨ (r' < p' ∧ p' < r) <;> by_cases q4 : (r < p ∧ p < r') ∨ (r' < p ∧ p < r) <;> first | omega | (simp only [q1, q2, q3, q4, true_implies, not_true, not_false_eq_true, false_implies] at *; omega)
  · rw [sg_neg ka] at g1 g2; rw [sg_pos kb] at g3 g4
    by_cases q1 : (p < r ∧ r < p') ∨ (p' < r ∧ r < p) <;> by_cases q2 : (p < r' ∧ r' < p') ∨ (p' < r' ∧ r' < p) <;> by_cases q3 : (r < p' ∧ p' < r') ∨ (r' < p' ∧ p' < r) <;> by_cases q4 : (r < p ∧ p < r') ∨ (r' < p ∧ p < r) <;> omega
  · rw [sg_pos ka] at g1 g2; rw [sg_neg kb] at g3 g4
    by_cases q1 : (p < r ∧ r < p') ∨ (p' < r ∧ r < p) <;> by_cases q2 : (p < r' ∧ r' < p') ∨ (p' < r' ∧ r' < p) <;> by_cases q3 : (r < p' ∧ p' < r') ∨ (r' < p' ∧ p' < r) <;> by_cases q4 : (r < p ∧ p < r') ∨ (r' < p ∧ p < r) <;> omega
  · rw [sg_pos ka] at g1 g2; rw [sg_pos kb] at g3 g4
    by_cases q1 : (p < r ∧ r < p') ∨ (p' < r ∧ r < p) <;> by_cases q2 : (p < r' ∧ r' < p') ∨ (p' < r' ∧ r' < p) <;> by_cases q3 : (r < p' ∧ p' < r') ∨ (r' < p' ∧ p' < r) <;> by_cases q4 : (r < p ∧ p < r') ∨ (r' < p ∧ p < r) <;> omega
theorem Sv_see {c a : Int} (h : (y a < y c ∧ y c < y (a + 1)) ∨ (y (a + 1) < y c ∧ y c < y a)) : Sv x y c a = sg (cr x y a c) := if_pos h
theorem Sv_no {c a : Int} (h : ¬ ((y a < y c ∧ y c < y (a + 1)) ∨ (y (a + 1) < y c ∧ y c < y a))) : Sv x y c a = 0 := if_neg h
theorem cell (P : Poly n x y m D) {a b : Int} (h : far n a b) : Sv x y b a - Sv x y (b + 1) a + Sv x y (a + 1) b - Sv x y a b = 0 := by
  obtain ⟨e, he, h1, h2⟩ := side P h
  exact comb (fun g => (Sv_see g).trans (h1 b (.inl rfl) g)) Sv_no (fun g => (Sv_see g).trans (h1 (b + 1) (.inr rfl) g)) Sv_no (fun g => (Sv_see g).trans (h2 (a + 1) (.inr rfl) g)) Sv_no (fun g => (Sv_see g).trans (h2 a (.inl rfl) g)) Sv_no
    (dy_ne P a) (dy_ne P b) (P.hy a b h.1) (P.hy a (b + 1) h.2.1) (P.hy (a + 1) b h.2.2) (P.hy (a + 1) (b + 1) (fun q => h.1 (pred_mod q)))
theorem Sv_per (P : Poly n x y m D) {a b c d : Int} (h : a % (n : Int) = b % (n : Int)) (h' : c % (n : Int) = d % (n : Int)) : Sv x y c a = Sv x y d b := by
  unfold Sv cr
  rw [P.py a b h, y_per1 P h, P.py c d h', P.px a b h, P.px c d h', P.px _ _ (succ_mod h 1)]
theorem Sv_low (x : Int → Int) {c : Int} (h : ∀ a, y c ≤ y a) (a : Int) : Sv x y c a = 0 := by
  have := h a
  have := h (a + 1)
  unfold Sv
  rw [if_neg (by omega)]
def Bs (x y : Int → Int) (j : Int) (k : Nat) : Int := sm (fun i => Sv x y j (j + 1 + i)) k
theorem far_of {a b : Int} (h1 : 2 ≤ b - a) (h2 : b - a + 2 ≤ n) : far n a b := by
  have key : ∀ d : Int, 0 < d → d < n → ∀ u v : Int, v - u = d → u % (n : Int) ≠ v % (n : Int) := fun d d1 d2 u v e q => by
    have h1 : (v - u) % (n : Int) = 0 := by rw [Int.sub_emod, q, Int.sub_self, Int.zero_emod]
    rw [e, Int.emod_eq_of_lt (by omega) d2] at h1
    omega
  exact ⟨key (b - a) (by omega) (by omega) _ _ rfl, key (b + 1 - a) (by omega) (by omega) _ _ rfl, key (b - (a + 1)) (by omega) (by omega) _ _ rfl⟩
/-- A row of cells. -/
theorem row (P : Poly n x y m D) (a : Int) : ∀ k : Nat, (k : Int) + 3 ≤ n → Sv x y (a + 2) a - Sv x y (a + 2 + k) a + sm (fun i => Sv x y (a + 1) (a + 2 + i)) k - sm (fun i => Sv x y a (a + 2 + i)) k = 0
  | 0, _ => by show _ - Sv x y (a + 2 + ((0 : Nat) : Int)) a + 0 - 0 = 0; rw [show a + 2 + ((0 : Nat) : Int) = a + 2 by omega]; omega
  | k + 1, h => by
    have ih := row P a k (by omega)
    have c := cell P (a := a) (b := a + 2 + k) (far_of (by omega) (by omega))
    rw [sm, sm, show a + 2 + ((k + 1 : Nat) : Int) = a + 2 + k + 1 by omega]
    omega
theorem Bs_step (P : Poly n x y m D) (h0 : ∀ a, y 0 ≤ y a) {j : Nat} {k : Nat} (h1 : 1 ≤ j) (hk : j + k + 2 = n) : Bs x y j (k + 1) - Bs x y (j + 1 : Int) k = tau x y j := by
  have r := row P (j : Int) k (by omega)
  have e0 : Sv x y ((j : Int) + 2 + k) j = 0 := by
    rw [Sv_per P (a := (j : Int)) (b := (j : Int)) (c := (j : Int) + 2 + k) (d := 0) rfl (by rw [show (j : Int) + 2 + k = n by omega, Int.emod_self, Int.zero_emod])]
    exact Sv_low x h0 _
  unfold Bs tau
  rw [sm_left]
  have e1 : sm (fun i => Sv x y (j : Int) ((j : Int) + 1 + (i + 1))) k = sm (fun i => Sv x y (j : Int) ((j : Int) + 2 + i)) k := sm_cong fun i _ => by
    show Sv x y (j : Int) ((j : Int) + 1 + ((i : Int) + 1)) = _
    rw [show (j : Int) + 1 + ((i : Int) + 1) = (j : Int) + 2 + i by omega]
  have e2 : sm (fun i => Sv x y ((j : Int) + 1) ((j : Int) + 1 + 1 + i)) k = sm (fun i => Sv x y ((j : Int) + 1) ((j : Int) + 2 + i)) k := sm_cong fun i _ => by
    rw [show (j : Int) + 1 + 1 + (i : Int) = (j : Int) + 2 + i by omega]
  rw [e1, e2, show (j : Int) + 1 + 0 = j + 1 by omega]
  omega
theorem Bs_sum (P : Poly n x y m D) (h0 : ∀ a, y 0 ≤ y a) : ∀ (k r : Nat), k + r + 2 = n → Bs x y 1 (k + r) - Bs x y (1 + k : Int) r = sm (fun i => tau x y (1 + i)) k
  | 0, r, _ => by show Bs x y 1 (0 + r) - Bs x y (1 + ((0 : Nat) : Int)) r = 0; rw [Nat.zero_add, show (1 : Int) + ((0 : Nat) : Int) = 1 by omega]; omega
  | k + 1, r, h => by
    have ih := Bs_sum P h0 k (r + 1) (by omega)
    have s := Bs_step P h0 (j := 1 + k) (k := r) (by omega) (by omega)
    rw [show ((1 + k : Nat) : Int) = 1 + (k : Int) by omega] at s
    rw [sm, show (1 : Int) + ((k + 1 : Nat) : Int) = 1 + k + 1 by omega, show k + 1 + r = k + (r + 1) by omega]
    omega
theorem turn0 (P : Poly n x y m D) (h0 : ∀ a, y 0 ≤ y a) : sm (tau x y) n = 2 * tau x y (-1) := by
  have hn := P.hn
  obtain ⟨k, rfl⟩ : ∃ k, n = k + 3 := ⟨n - 3, by omega⟩
  have s := Bs_sum P h0 (k + 1) 0 (by omega)
  have r := row P 0 k (by omega)
  have z : sm (fun i => Sv x y 0 (0 + 2 + i)) k = 0 := by
    exact (sm_cong (f := fun i => Sv x y 0 (0 + 2 + i)) (g := fun _ => 0) fun i _ => Sv_low x h0 (0 + 2 + (i : Int))).trans (sm_zero k)
  have e1 : Bs x y 1 (k + 1 + 0) = sm (fun i => Sv x y (0 + 1) (0 + 2 + i)) k + Sv x y 1 (2 + k) := by
    unfold Bs
    rw [Nat.add_zero, sm]
    rfl
  have e2 : Bs x y (1 + ((k + 1 : Nat) : Int)) 0 = 0 := rfl
  have p1 : tau x y (-1) = Sv x y (2 + k) 0 + Sv x y 1 (2 + k) := by
    have q : (-1 : Int) % ((k + 3 : Nat) : Int) = (2 + (k : Int)) % ((k + 3 : Nat) : Int) := by
      rw [show (2 + (k : Int)) = -1 + ((k + 3 : Nat) : Int) by omega, Int.add_emod_right]
    unfold tau
    rw [Sv_per P (a := -1 + 1) (b := 0) (c := -1) (d := 2 + k) rfl q, Sv_per P (a := -1) (b := 2 + k) (c := -1 + 2) (d := 1) q rfl]
  have p2 : tau x y (1 + ((k + 1 : Nat) : Int)) = tau x y (-1) := by
    have q : ∀ t u : Int, u = t + ((k + 3 : Nat) : Int) → u % ((k + 3 : Nat) : Int) = t % ((k + 3 : Nat) : Int) := fun t u e => by rw [e, Int.add_emod_right]
    unfold tau
    rw [Sv_per P (q (-1 + 1) (1 + ((k + 1 : Nat) : Int) + 1) (by omega)) (q (-1) (1 + ((k + 1 : Nat) : Int)) (by omega)), Sv_per P (q (-1) (1 + ((k + 1 : Nat) : Int)) (by omega)) (q (-1 + 2) (1 + ((k + 1 : Nat) : Int) + 2) (by omega))]
  have p3 : tau x y 0 = Sv x y (0 + 2) 0 := by
    unfold tau; rw [Sv_low x h0]; omega
  rw [show k + 3 = (k + 2) + 1 by omega, sm_left]
  have e3 : sm (fun i => tau x y (i + 1)) (k + 2) = sm (fun i => tau x y (1 + i)) (k + 2) := sm_cong fun i _ => by
    show tau x y ((i : Int) + 1) = tau x y (1 + (i : Int)); rw [Int.add_comm]
  rw [e3, sm, p2, p3]
  rw [z, show (0 : Int) + 2 + k = 2 + k by omega] at r
  rw [e1, e2] at s
  omega
theorem shift (P : Poly n x y m D) (c : Int) : Poly n (fun a => x (a + c)) (fun a => y (a + c)) (fun a => m (a + c)) D := by
  have sw : ∀ a, a + 1 + c = a + c + 1 := fun a => by omega
  have sw2 : ∀ a, a + 2 + c = a + c + 2 := fun a => by omega
  have fr : ∀ {a b : Int}, far n a b → far n (a + c) (b + c) := fun {a b} h => ⟨fun e => h.1 (pred_mod e), fun e => h.2.1 (by rw [← sw] at e; exact pred_mod e), fun e => h.2.2 (by rw [← sw] at e; exact pred_mod e)⟩
  have cs : ∀ a b, cr (fun a => x (a + c)) (fun a => y (a + c)) a b = cr x y (a + c) (b + c) := fun a b => by
    show (x (a + 1 + c) - x (a + c)) * (y (b + c) - y (a + c)) - (y (a + 1 + c) - y (a + c)) * (x (b + c) - x (a + c)) = _
    rw [sw]; rfl
  refine ⟨P.hn, fun a b h => P.px _ _ (succ_mod h c), fun a b h => P.py _ _ (succ_mod h c), fun a b h => P.pm _ _ (succ_mod h c), P.hD, fun a => ?_, fun a b h => P.hy _ _ (fun e => h (pred_mod e)), fun a b h d hd hw => ?_, fun a b h => ?_, fun a => ?_⟩
  · show m (a + c) * (y (a + 1 + c) - y (a + c)) = D * (x (a + 1 + c) - x (a + c))
    rw [sw]; exact P.hm _
  · rw [cs]
    refine P.on _ _ (fr h) (d + c) ?_ ?_
    · rcases hd with rfl | rfl
      · exact .inl rfl
      · exact .inr (sw _)
    · unfold within at hw ⊢
      rw [← sw]; exact hw
  · rw [cs, cs, cs, cs, sw, sw]
    exact P.no _ _ (fr h)
  · rw [cs, sw, sw2]
    exact P.co _
theorem turn (P : Poly n x y m D) (c : Int) (h0 : ∀ a, y c ≤ y a) : sm (tau x y) n = 2 * tau x y (c - 1) := by
  have t := turn0 (shift P c) (fun a => by show y (0 + c) ≤ y (a + c); rw [Int.zero_add]; exact h0 _)
  have ts : ∀ j, tau (fun a => x (a + c)) (fun a => y (a + c)) j = tau x y (j + c) := fun j => by
    have ss : ∀ u v : Int, Sv (fun a => x (a + c)) (fun a => y (a + c)) u v = Sv x y (u + c) (v + c) := fun u v => by
      have e : v + 1 + c = v + c + 1 := by omega
      unfold Sv cr
      simp only [e]
    unfold tau
    rw [ss, ss, show j + 1 + c = j + c + 1 by omega, show j + 2 + c = j + c + 2 by omega]
  rw [ts, show -1 + c = c - 1 by omega] at t
  rw [← t]
  have hp : per n (tau x y) := fun a b h => by
    unfold tau
    rw [Sv_per P (succ_mod h 1) h, Sv_per P h (succ_mod h 2)]
  have hn := P.hn
  have h0' := Int.emod_nonneg c (show (n : Int) ≠ 0 by omega)
  rw [← sm_shift (c % (n : Int)).toNat hp]
  refine sm_cong fun i _ => ?_
  rw [ts]
  refine hp _ _ ?_
  rw [Int.toNat_of_nonneg h0', Int.add_emod_emod]
theorem cr_turn (x y : Int → Int) (j : Int) : cr x y (j + 1) j = cr x y j (j + 2) := by
  unfold cr; rw [aa]; grind
theorem tau_mono {j : Int} (h : (y j < y (j + 1) ∧ y (j + 1) < y (j + 2)) ∨ (y (j + 2) < y (j + 1) ∧ y (j + 1) < y j)) : tau x y j = 0 := by
  unfold tau Sv
  rw [aa, if_neg (by omega), if_neg (by omega)]; rfl
theorem tau_ext (P : Poly n x y m D) {j : Int} (h : (y j < y (j + 1) ∧ y (j + 2) < y (j + 1)) ∨ (y (j + 1) < y j ∧ y (j + 1) < y (j + 2))) : tau x y j = sg (cr x y j (j + 2)) := by
  have := P.hy _ _ (two_ne P.hn j)
  unfold tau Sv
  rw [aa, cr_turn]
  by_cases g : y j < y (j + 2)
  · rcases h with h | h
    · rw [if_neg (by omega), if_pos (by omega)]; omega
    · rw [if_pos (by omega), if_neg (by omega)]; omega
  · rcases h with h | h
    · rw [if_pos (by omega), if_neg (by omega)]; omega
    · rw [if_neg (by omega), if_pos (by omega)]; omega
end
end PArea
namespace PArea
section
variable {n : Nat} {x y m : Int → Int} {D κ : Int}
theorem WX_off {j T : Int} (Y : Int) (h : ∀ b, act y b j → X x y m D b Y ≠ T) : WX n x y m D j Y (T + 1) = WX n x y m D j Y T := by
  unfold WX
  refine sm_cong fun i _ => ?_
  by_cases hb : act y (i : Int) j
  · have := h _ hb
    by_cases g : X x y m D (i : Int) Y < T
    · rw [ind_t g, ind_t (by omega)]
    · rw [ind_f g, ind_f (by omega)]
  · rw [q_no hb, Int.zero_mul, Int.zero_mul]
/-- Off the border: outside or inside. -/
theorem off_or (P : Poly n x y m D) (hκ : ∀ a j, act y a j → K n x y m D a j = κ) (Y T : Int) : WX n x y m D Y Y T = 0 ∨ WX n x y m D Y Y T = κ := by
  by_cases h : ∃ a, act y a Y ∧ X x y m D a Y < T
  · obtain ⟨a, ha, hat, hmax⟩ := min_all P (j := Y) (fun a => X x y m D a Y < T) (fun _ _ e => by rw [X_per P e]) (-1) h
    have e : WX n x y m D Y Y T = Wt n x y m D Y (V x y m D a Y) := by
      unfold WX Wt
      refine sm_cong fun i _ => ?_
      by_cases hb : act y (i : Int) Y
      · by_cases g : X x y m D (i : Int) Y < T
        · have := hmax _ hb g
          rw [ind_t g, ind_t (by omega)]
        · rw [ind_f g, ind_f]
          intro hv
          by_cases hi : (i : Int) % (n : Int) = a % (n : Int)
          · rw [X_per P hi] at g; exact g hat
          · obtain ⟨s1, s2, _, _⟩ := sep P ha hb hi
            unfold V at hv
            omega
      · rw [q_no hb, Int.zero_mul, Int.zero_mul]
    rw [e]
    exact Wt_or P hκ _ _
  · refine .inl ?_
    unfold WX
    rw [← sm_zero n]
    refine sm_cong fun i _ => ?_
    by_cases h' : act y (i : Int) Y
    · rw [ind_f (fun g => h ⟨_, h', g⟩), Int.mul_zero]
    · rw [q_no h', Int.zero_mul]
/-- At an edge that alone passes there. -/
theorem on_one (P : Poly n x y m D) (hκ : ∀ a j, act y a j → K n x y m D a j = κ) {a Y : Int} (ha : act y a Y) (h1 : act y (a + 1) Y → y (a + 1) ≠ Y) (h2 : ∀ b, (b + 1) % (n : Int) = a % (n : Int) → act y b Y → y a ≠ Y) :
    WX n x y m D Y Y (X x y m D a Y) + WX n x y m D Y Y (X x y m D a Y + 1) = κ := by
  have hn := P.hn
  have e1 := W_botN P ha h1 h2
  have k := hκ a Y ha
  unfold K at k
  rw [e1] at k
  have d := sm_one (n := n) (by omega) (f := fun b => q y Y b * ind (X x y m D b Y < X x y m D a Y + 1)) (g := fun b => q y Y b * ind (X x y m D b Y < X x y m D a Y)) (fun s u h => by
      show q y Y s * ind (X x y m D s Y < _) = _
      rw [q_per P Y s u h, X_per P h]) (fun s u h => by
      show q y Y s * ind (X x y m D s Y < _) = _
      rw [q_per P Y s u h, X_per P h]) a (fun b hb => by
      show q y Y b * ind (X x y m D b Y < X x y m D a Y + 1) = q y Y b * ind (X x y m D b Y < X x y m D a Y)
      by_cases h : act y b Y
      · have hne : X x y m D a Y - X x y m D b Y ≠ 0 := fun e => by
          rcases (sep P ha h hb).2.2.2 e with ⟨q1, q2⟩ | ⟨q1, q2⟩
          · exact absurd q2 (h1 ((act_per P q1).1 h))
          · exact absurd q2 (h2 b q1 h)
        by_cases g : X x y m D b Y < X x y m D a Y
        · rw [ind_t g, ind_t (by omega)]
        · rw [ind_f g, ind_f (by omega)]
      · rw [q_no h, Int.zero_mul, Int.zero_mul])
  have d : WX n x y m D Y Y (X x y m D a Y + 1) - WX n x y m D Y Y (X x y m D a Y) = q y Y a * ind (X x y m D a Y < X x y m D a Y + 1) - q y Y a * ind (X x y m D a Y < X x y m D a Y) := d
  rw [ind_t (by omega), ind_f (by omega)] at d
  omega
/-- An edge that passes an extreme corner's height does not pass at the corner. -/
theorem other (P : Poly n x y m D) {a b : Int} (h1 : ¬ b % (n : Int) = a % (n : Int)) (h2 : ¬ b % (n : Int) = (a + 1) % (n : Int)) : y b ≠ y (a + 1) ∧ y (b + 1) ≠ y (a + 1) :=
  ⟨P.hy _ _ h2, P.hy _ _ (fun e => h1 (pred_mod e))⟩
theorem slope (P : Poly n x y m D) (a : Int) : ∃ β, (∀ Y, X x y m D a Y - X x y m D (a + 1) Y = β * (Y - y (a + 1))) ∧ (y (a + 1) - y a) * (β * (y (a + 2) - y (a + 1))) = D * cr x y a (a + 2) := by
  have z : X x y m D a (y (a + 1)) - X x y m D (a + 1) (y (a + 1)) = 0 := by rw [X_hi P, X_lo]; omega
  have e := X_hi P (a + 1)
  rw [aa] at e
  have r := R1 P a (a + 2)
  rw [← e] at r
  rw [X_sub] at z r
  refine ⟨m a - m (a + 1), fun Y => ?_, ?_⟩
  · rw [X_sub, Int.mul_sub]; omega
  · rw [← r, Int.mul_sub (m a - m (a + 1))]
    congr 1
    omega
theorem sg_cr (P : Poly n x y m D) {a β : Int} (h : (y (a + 1) - y a) * (β * (y (a + 2) - y (a + 1))) = D * cr x y a (a + 2)) (ext : (y a < y (a + 1) ∧ y (a + 2) < y (a + 1)) ∨ (y (a + 1) < y a ∧ y (a + 1) < y (a + 2))) : sg (cr x y a (a + 2)) = - sg β ∧ β ≠ 0 := by
  have hc : cr x y a (a + 2) ≠ 0 := fun e => by have := P.co a e; omega
  have hβ : β ≠ 0 := fun e => by
    rw [e, Int.zero_mul, Int.mul_zero] at h
    rcases Int.mul_eq_zero.1 h.symm with g | g
    · have := P.hD; omega
    · exact hc g
  have hu : (y (a + 1) - y a) * (y (a + 2) - y (a + 1)) < 0 := by
    rcases ext with g | g
    · exact Int.mul_neg_of_pos_of_neg (by omega) (by omega)
    · exact Int.mul_neg_of_neg_of_pos (by omega) (by omega)
  have := sg_mul P.hD (by omega) hβ (show (y (a + 1) - y a) * (y (a + 2) - y (a + 1)) * β = D * cr x y a (a + 2) by rw [← h]; grind)
  rw [this, sg_neg hu]
  exact ⟨by omega, hβ⟩
theorem at_low (P : Poly n x y m D) (hκ : ∀ a j, act y a j → K n x y m D a j = κ) {a Y : Int} (hY : y (a + 1) = Y) (h1 : Y < y a) (h2 : Y < y (a + 2)) :
    WX n x y m D Y Y (D * x (a + 1)) + WX n x y m D Y Y (D * x (a + 1) + 1) = κ + tau x y a := by
  have A1 : act y a Y := .inr ⟨by omega, by omega⟩
  have A2 : act y (a + 1) Y := .inl ⟨by omega, by rw [aa]; omega⟩
  have same : WX n x y m D Y Y (D * x (a + 1) + 1) = WX n x y m D Y Y (D * x (a + 1)) := by
    rw [line P, line P]
    refine WX_off Y fun b hb e => ?_
    obtain ⟨x1, x2⟩ := X_end P hY
    have na : ¬ b % (n : Int) = a % (n : Int) := fun q => by
      have := (act_per P q).1 hb; unfold act at this; omega
    have na' : ¬ b % (n : Int) = (a + 1) % (n : Int) := fun q => by
      have := (act_per P q).1 hb; unfold act at this; rw [aa] at this; omega
    have o := other P na na'
    have hb' : act y b Y := by unfold act at hb ⊢; omega
    rcases (sep P A1 hb' na).2.2.2 (by rw [x1, e]; omega) with ⟨q1, _⟩ | ⟨_, q2⟩
    · exact na' q1
    · omega
  have e1 := W_bot P A1 (a + 1) (fun b hb hba e => by
    rcases (sep P A1 hb hba).2.2.2 e with ⟨q1, _⟩ | ⟨_, q2⟩
    · exact q1
    · omega)
  have e2 := W_bot P A2 a (fun b hb hba e => by
    rcases (sep P A2 hb hba).2.2.2 e with ⟨_, q2⟩ | ⟨q1, _⟩
    · rw [aa] at q2; omega
    · exact pred_mod q1)
  obtain ⟨x1, x2⟩ := X_end P hY
  rw [x1, x2, ind_f (show ¬ D * x (a + 1) < D * x (a + 1) by omega)] at e1
  rw [x1, x2, ind_f (show ¬ D * x (a + 1) < D * x (a + 1) by omega)] at e2
  have k1 := hκ a Y A1
  have k2 := hκ (a + 1) Y A2
  unfold K at k1 k2
  rw [q_dn (a := a) (by omega) (by omega)] at k1 e2
  rw [q_up (a := a + 1) (by omega) (by rw [aa]; omega)] at k2 e1
  obtain ⟨β, hl, hc⟩ := slope P a
  obtain ⟨s1, s2⟩ := sg_cr P hc (.inr ⟨by omega, by omega⟩)
  rw [tau_ext P (.inr ⟨by omega, by omega⟩), s1, same]
  have l1 := hl Y
  have l2 := hl (Y + 1)
  rw [hY, Int.sub_self, Int.mul_zero] at l1
  rw [hY, show Y + 1 - Y = 1 by omega, Int.mul_one] at l2
  unfold V at e1 e2
  rcases Int.lt_or_lt_of_ne s2 with g | g
  · rw [sg_neg g]
    rw [ind_f (by omega)] at e1
    omega
  · rw [sg_pos g]
    rw [ind_f (by omega)] at e2
    omega
theorem at_high (P : Poly n x y m D) (hκ : ∀ a j, act y a j → K n x y m D a j = κ) {a j : Int} (hY : y (a + 1) = j + 1) (h1 : y a ≤ j) (h2 : y (a + 2) ≤ j) :
    WX n x y m D (j + 1) (j + 1) (D * x (a + 1)) + WX n x y m D (j + 1) (j + 1) (D * x (a + 1) + 1) = κ + tau x y a := by
  have A1 : act y a j := .inl ⟨by omega, by omega⟩
  have A2 : act y (a + 1) j := .inr ⟨by rw [aa]; omega, by omega⟩
  have same : WX n x y m D (j + 1) (j + 1) (D * x (a + 1) + 1) = WX n x y m D (j + 1) (j + 1) (D * x (a + 1)) := by
    refine WX_off (j + 1) fun b hb e => ?_
    obtain ⟨x1, x2⟩ := X_end P hY
    have na : ¬ b % (n : Int) = a % (n : Int) := fun q => by
      have := (act_per P q).1 hb; unfold act at this; omega
    have na' : ¬ b % (n : Int) = (a + 1) % (n : Int) := fun q => by
      have := (act_per P q).1 hb; unfold act at this; rw [aa] at this; omega
    have o := other P na na'
    have hb' : act y b j := by unfold act at hb ⊢; omega
    rcases (sep P A1 hb' na).2.2.1 (by rw [x1, e]; omega) with ⟨q1, _⟩ | ⟨_, q2⟩
    · exact na' q1
    · omega
  have e1 := W_top P A1 (a + 1) (fun b hb hba e => by
    rcases (sep P A1 hb hba).2.2.1 e with ⟨q1, _⟩ | ⟨_, q2⟩
    · exact q1
    · omega)
  have e2 := W_top P A2 a (fun b hb hba e => by
    rcases (sep P A2 hb hba).2.2.1 e with ⟨_, q2⟩ | ⟨q1, _⟩
    · rw [aa] at q2; omega
    · exact pred_mod q1)
  obtain ⟨x1, x2⟩ := X_end P hY
  rw [x1, x2, ind_f (show ¬ D * x (a + 1) < D * x (a + 1) by omega)] at e1
  rw [x1, x2, ind_f (show ¬ D * x (a + 1) < D * x (a + 1) by omega)] at e2
  have k1 := hκ a j A1
  have k2 := hκ (a + 1) j A2
  unfold K at k1 k2
  rw [q_up (a := a) (by omega) (by omega)] at k1 e2
  rw [q_dn (a := a + 1) (by rw [aa]; omega) (by omega)] at k2 e1
  obtain ⟨β, hl, hc⟩ := slope P a
  obtain ⟨s1, s2⟩ := sg_cr P hc (.inl ⟨by omega, by omega⟩)
  rw [tau_ext P (.inl ⟨by omega, by omega⟩), s1, same]
  have ll := line1 P j (D * x (a + 1))
  have l1 := hl j
  have l2 := hl (j + 1)
  rw [hY, show j - (j + 1) = -1 by omega] at l1
  rw [hY, Int.sub_self, Int.mul_zero] at l2
  unfold V at e1 e2
  rcases Int.lt_or_lt_of_ne s2 with g | g
  · rw [sg_neg g]
    rw [ind_f (by omega)] at e2
    omega
  · rw [sg_pos g]
    rw [ind_f (by omega)] at e1
    omega
/-- At each corner. -/
theorem at_corner (P : Poly n x y m D) (hκ : ∀ a j, act y a j → K n x y m D a j = κ) (a : Int) :
    WX n x y m D (y (a + 1)) (y (a + 1)) (D * x (a + 1)) + WX n x y m D (y (a + 1)) (y (a + 1)) (D * x (a + 1) + 1) = κ + tau x y a := by
  have d1 := dy_ne P a
  have d2 := dy_ne P (a + 1)
  rw [aa] at d2
  rcases Int.lt_or_lt_of_ne d1 with g | g <;> rcases Int.lt_or_lt_of_ne d2 with g' | g'
  · have A : act y a (y (a + 1)) := .inr ⟨Int.le_refl _, by omega⟩
    have := on_one P hκ A (fun h => by unfold act at h; rw [aa] at h; omega) (fun _ _ _ => by omega)
    rw [X_hi P] at this
    rw [this, tau_mono (.inr ⟨by omega, by omega⟩)]; omega
  · exact at_low P hκ rfl (by omega) (by omega)
  · have := at_high P hκ (a := a) (j := y (a + 1) - 1) (by omega) (by omega) (by omega)
    rwa [show y (a + 1) - 1 + 1 = y (a + 1) by omega] at this
  · have A : act y (a + 1) (y (a + 1)) := .inl ⟨Int.le_refl _, by rw [aa]; omega⟩
    have := on_one P hκ A (fun h => by rw [aa]; omega) (fun b hb h => by
      have := (act_per P (pred_mod hb)).1 h
      unfold act at this; omega)
    rw [X_lo] at this
    rw [this, tau_mono (.inl ⟨by omega, by omega⟩)]; omega
/-- Inside an edge. -/
theorem in_edge (P : Poly n x y m D) (hκ : ∀ a j, act y a j → K n x y m D a j = κ) {a Y : Int} (h : (y a < Y ∧ Y < y (a + 1)) ∨ (y (a + 1) < Y ∧ Y < y a)) :
    WX n x y m D Y Y (X x y m D a Y) + WX n x y m D Y Y (X x y m D a Y + 1) = κ :=
  on_one P hκ (by unfold act; omega) (fun _ => by omega) (fun _ _ _ => by omega)
/-- The lowest corner: nothing lies left of it. -/
theorem lowest (P : Poly n x y m D) (hκ : ∀ a j, act y a j → K n x y m D a j = κ) {a : Int} (h0 : ∀ b, y (a + 1) ≤ y b) : tau x y a = - κ := by
  have := at_corner P hκ a
  have z : ∀ T, WX n x y m D (y (a + 1)) (y (a + 1)) T = 0 := fun T => by
    rw [line P]
    unfold WX
    rw [← sm_zero n]
    refine sm_cong fun i _ => ?_
    have := h0 (i : Int)
    have := h0 ((i : Int) + 1)
    rw [q_no (by unfold act; omega), Int.zero_mul]
  rw [z, z] at this
  omega
/-- The turns add up to twice the orientation. -/
theorem turn_sum (P : Poly n x y m D) (hκ : ∀ a j, act y a j → K n x y m D a j = κ) : sm (tau x y) n = - (2 * κ) := by
  have hn := P.hn
  obtain ⟨k, _, hk⟩ : ∃ k : Nat, k < n ∧ ∀ i : Nat, i < n → y (k : Int) ≤ y (i : Int) := by
    obtain ⟨k, h1, _, h3⟩ := exists_min (p := fun _ => True) (v := fun i => y (i : Int)) (n := n) ⟨0, by omega, trivial⟩
    exact ⟨k, h1, fun i hi => h3 i hi trivial⟩
  have low : ∀ b, y (k : Int) ≤ y b := fun b => by
    have h0 := Int.emod_nonneg b (show (n : Int) ≠ 0 by omega)
    have h1 := Int.emod_lt_of_pos b (show 0 < (n : Int) by omega)
    rw [P.py b ((b % (n : Int)).toNat : Int) (by rw [Int.toNat_of_nonneg h0, Int.emod_emod])]
    exact hk _ (by omega)
  rw [turn P k low, lowest P hκ (a := (k : Int) - 1) (fun b => by rw [show (k : Int) - 1 + 1 = k by omega]; exact low b)]
  omega
end
end PArea
namespace PArea
theorem sm_app {f : Int → Int} (a : Nat) : ∀ b : Nat, sm f (a + b) = sm f a + sm (fun i => f (a + i)) b
  | 0 => by show sm f a = sm f a + 0; omega
  | b + 1 => by
    rw [← Nat.add_assoc, sm, sm, sm_app a b, show ((a + b : Nat) : Int) = (a : Int) + b by omega]; omega
theorem sm_none {f : Int → Int} {k : Nat} (h : ∀ i : Nat, i < k → f (i : Int) = 0) : sm f k = 0 := (sm_cong (g := fun _ => 0) h).trans (sm_zero k)
theorem sm_const (c : Int) : ∀ k : Nat, sm (fun _ => c) k = (k : Int) * c
  | 0 => by show 0 = ((0 : Nat) : Int) * c; omega
  | k + 1 => by rw [sm, sm_const c k, show ((k + 1 : Nat) : Int) = (k : Int) + 1 by omega, Int.add_mul]; omega
theorem window {g : Int → Int} {lo a b : Int} {k : Nat} (h1 : lo ≤ a) (h2 : a ≤ b) (h3 : b ≤ lo + k) (f : Int → Int) (hf : ∀ v, f v = if a ≤ v ∧ v < b then g (v - a) else 0) : sm (fun j => f (lo + j)) k = sm g (b - a).toNat := by
  obtain ⟨s, hs⟩ : ∃ s : Nat, (s : Int) = a - lo := ⟨(a - lo).toNat, by omega⟩
  obtain ⟨d, hd⟩ : ∃ d : Nat, (d : Int) = b - a := ⟨(b - a).toNat, by omega⟩
  obtain ⟨r, hr⟩ : ∃ r : Nat, k = s + (d + r) := ⟨k - s - d, by omega⟩
  subst hr
  rw [sm_app, sm_app, sm_none (k := s), sm_none (k := r), show (b - a).toNat = d by omega]
  · have : sm (fun i => f (lo + ((s : Int) + i))) d = sm g d := sm_cong fun i hi => by
      rw [hf, if_pos (by omega), show lo + ((s : Int) + (i : Int)) - a = i by omega]
    rw [this]; omega
  · intro i hi
    show f (lo + ((s : Int) + ((d : Int) + (i : Int)))) = 0
    rw [hf, if_neg (by omega)]
  · intro i hi
    show f (lo + (i : Int)) = 0
    rw [hf, if_neg (by omega)]
theorem cnt (lo f : Int) : ∀ k : Nat, sm (fun i => ind (f < lo + i)) k = max 0 (min (k : Int) (lo + k - 1 - f))
  | 0 => by show 0 = _; omega
  | k + 1 => by
    rw [sm, cnt lo f k]
    by_cases h : f < lo + (k : Int)
    · rw [ind_t h]; omega
    · rw [ind_f h]; omega
theorem rev (f : Int → Int) : ∀ k : Nat, sm (fun j => f ((k : Int) - j)) k = sm (fun j => f (j + 1)) k
  | 0 => rfl
  | k + 1 => by
    rw [sm_left]
    have : sm (fun j => f (((k + 1 : Nat) : Int) - (j + 1))) k = sm (fun j => f ((k : Int) - j)) k := sm_cong fun i _ => by
      rw [show ((k + 1 : Nat) : Int) - ((i : Int) + 1) = (k : Int) - i by omega]
    rw [this, rev f k, sm, show ((k + 1 : Nat) : Int) - 0 = (k : Int) + 1 by omega]
    omega
/-- A point is between two points in the order of their heights, and then of their places. -/
def Up (a1 a2 b1 b2 u v : Int) : Prop := (a2 < v ∨ a2 = v ∧ a1 ≤ u) ∧ (v < b2 ∨ v = b2 ∧ u < b1)
instance (a1 a2 b1 b2 u v : Int) : Decidable (Up a1 a2 b1 b2 u v) := by unfold Up; exact inferInstance
def crs (a1 a2 b1 b2 u v : Int) : Int := (b1 - a1) * (v - a2) - (b2 - a2) * (u - a1)
def bs (f : Int → Int → Int) (lo : Int) (k : Nat) (lo2 : Int) (k2 : Nat) : Int := sm (fun j => sm (fun i => f (lo + i) (lo2 + j)) k) k2
def fl (a1 a2 b1 b2 j : Int) : Int := a1 + ((b1 - a1) * j) / (b2 - a2)
def ce (a1 a2 b1 b2 j : Int) : Int := a1 - (-((b1 - a1) * j)) / (b2 - a2)
theorem fl_lt {a1 a2 b1 b2 u j : Int} (h : a2 < b2) : fl a1 a2 b1 b2 j < u ↔ (b1 - a1) * j - (b2 - a2) * (u - a1) < 0 := by
  have := Int.ediv_lt_iff_lt_mul (a := (b1 - a1) * j) (b := u - a1) (c := b2 - a2) (by omega)
  rw [Int.mul_comm (u - a1)] at this
  unfold fl
  omega
theorem ce_le {a1 a2 b1 b2 u j : Int} (h : a2 < b2) : ce a1 a2 b1 b2 j ≤ u ↔ (b1 - a1) * j - (b2 - a2) * (u - a1) ≤ 0 := by
  have := Int.le_ediv_iff_mul_le (a := -(u - a1)) (b := -((b1 - a1) * j)) (c := b2 - a2) (by omega)
  rw [Int.neg_mul, Int.mul_comm (u - a1)] at this
  unfold ce
  omega
theorem lin {d j e L : Int} (h0 : 0 ≤ j) (h1 : j ≤ e) (l1 : L ≤ 0) (l2 : L ≤ d) : L * e ≤ d * j := by
  rcases Int.le_total 0 d with g | g
  · have := Int.mul_nonneg g h0
    have := Int.mul_nonpos_of_nonpos_of_nonneg l1 (show 0 ≤ e by omega)
    omega
  · have := dn_le g h1
    have := Int.mul_le_mul_of_nonneg_right (a := L) (b := d) (c := e) l2 (by omega)
    omega
theorem fl_bd {a1 a2 b1 b2 lo hi j : Int} (h : a2 < b2) (h0 : 0 ≤ j) (h1 : j ≤ b2 - a2) (x1 : lo ≤ a1) (x2 : a1 ≤ hi) (x3 : lo ≤ b1) (x4 : b1 ≤ hi) :
    lo ≤ fl a1 a2 b1 b2 j ∧ fl a1 a2 b1 b2 j ≤ hi ∧ lo ≤ ce a1 a2 b1 b2 j ∧ ce a1 a2 b1 b2 j ≤ hi := by
  have p1 := lin (d := b1 - a1) (j := j) (e := b2 - a2) (L := lo - a1) h0 h1 (by omega) (by omega)
  have p2 := lin (d := -(b1 - a1)) (j := j) (e := b2 - a2) (L := a1 - hi) h0 h1 (by omega) (by omega)
  rw [Int.neg_mul] at p2
  have e1 := fl_lt (a1 := a1) (b1 := b1) (u := lo) (j := j) h
  have e2 := fl_lt (a1 := a1) (b1 := b1) (u := hi + 1) (j := j) h
  have e3 := ce_le (a1 := a1) (b1 := b1) (u := hi) (j := j) h
  have e4 := ce_le (a1 := a1) (b1 := b1) (u := lo - 1) (j := j) h
  have m1 : (b2 - a2) * (lo - a1) = (lo - a1) * (b2 - a2) := Int.mul_comm _ _
  have m2 : (b2 - a2) * (hi - a1) = -((a1 - hi) * (b2 - a2)) := by grind
  have m3 : (b2 - a2) * (hi + 1 - a1) = -((a1 - hi) * (b2 - a2)) + (b2 - a2) := by grind
  have m4 : (b2 - a2) * (lo - 1 - a1) = (lo - a1) * (b2 - a2) - (b2 - a2) := by grind
  rw [m1] at e1; rw [m3] at e2; rw [m2] at e3; rw [m4] at e4
  omega
theorem fl_ce {a1 a2 b1 b2 j : Int} (h : a2 < b2) : fl a1 a2 b1 b2 j + ce a1 a2 b1 b2 (b2 - a2 - j) = a1 + b1 := by
  have e : -((b1 - a1) * (b2 - a2 - j)) = (b1 - a1) * j + (-(b1 - a1)) * (b2 - a2) := by grind
  unfold fl ce
  rw [e, Int.add_mul_ediv_right _ _ (by omega)]
  omega
theorem fl_ce_sum {a1 a2 b1 b2 : Int} (h : a2 < b2) : sm (fun j => fl a1 a2 b1 b2 j + ce a1 a2 b1 b2 j) (b2 - a2).toNat = (b2 - a2) * (a1 + b1) - (b1 - a1) := by
  have r := rev (ce a1 a2 b1 b2) (b2 - a2).toNat
  have ek : (((b2 - a2).toNat : Nat) : Int) = b2 - a2 := by omega
  rw [ek] at r
  have t := sm_tele (g := ce a1 a2 b1 b2) (b2 - a2).toNat
  rw [sm_sub, ek] at t
  have s := sm_add (f := fl a1 a2 b1 b2) (g := fun j => ce a1 a2 b1 b2 (b2 - a2 - j)) (b2 - a2).toNat
  have c : sm (fun j => fl a1 a2 b1 b2 j + ce a1 a2 b1 b2 (b2 - a2 - j)) (b2 - a2).toNat = sm (fun _ => a1 + b1) (b2 - a2).toNat := sm_cong fun i _ => fl_ce h
  rw [c, sm_const, ek] at s
  rw [sm_add]
  have z0 : ce a1 a2 b1 b2 0 = a1 := by unfold ce; rw [Int.mul_zero, Int.neg_zero, Int.zero_ediv]; omega
  have z1 : ce a1 a2 b1 b2 (b2 - a2) = b1 := by
    unfold ce
    rw [show -((b1 - a1) * (b2 - a2)) = (-(b1 - a1)) * (b2 - a2) by rw [Int.neg_mul], Int.mul_ediv_cancel _ (by omega)]
    omega
  rw [z0, z1] at t
  change sm (fun j => fl a1 a2 b1 b2 j) (b2 - a2).toNat + sm (fun j => ce a1 a2 b1 b2 j) (b2 - a2).toNat = _
  change _ = sm (fun j => fl a1 a2 b1 b2 j) (b2 - a2).toNat + _ at s
  change _ - sm (fun j => ce a1 a2 b1 b2 j) (b2 - a2).toNat = _ at t
  omega
theorem coprime_count (d : Nat) (hd : 0 < d) : ∀ g : Nat, sm (fun j => ind ((d : Int) ∣ j)) (g * d) = g
  | 0 => by rw [Nat.zero_mul]; rfl
  | g + 1 => by
    rw [Nat.add_mul, Nat.one_mul, sm_app, coprime_count d hd g]
    obtain ⟨k, rfl⟩ : ∃ k, d = k + 1 := ⟨d - 1, by omega⟩
    rw [sm_left, sm_none]
    · rw [ind_t (show ((k + 1 : Nat) : Int) ∣ ((g * (k + 1) : Nat) : Int) + 0 by rw [Int.add_zero]; exact Int.natCast_dvd_natCast.2 (Nat.dvd_mul_left _ _))]
      omega
    · intro i hi
      refine ind_f fun h => ?_
      have h2 : ((k + 1 : Nat) : Int) ∣ ((g * (k + 1) : Nat) : Int) := Int.natCast_dvd_natCast.2 (Nat.dvd_mul_left _ _)
      have h3 := (Int.dvd_add_right h2).1 h
      have := Int.le_of_dvd (by omega) h3
      omega
/-- How many multiples of one number are multiples of the other one too. -/
theorem gcd_count {e d : Int} (hd : 0 < d) : sm (fun j => ind (d ∣ e * j)) d.toNat = ((Nat.gcd e.natAbs d.natAbs : Nat) : Int) := by
  have g0 : 0 < Nat.gcd e.natAbs d.natAbs := Nat.gcd_pos_of_pos_right _ (by omega)
  obtain ⟨d', hd'⟩ := Nat.gcd_dvd_right e.natAbs d.natAbs
  obtain ⟨e', he'⟩ := Nat.gcd_dvd_left e.natAbs d.natAbs
  have cop : Nat.Coprime e' d' := by
    have := Nat.gcd_mul_left (Nat.gcd e.natAbs d.natAbs) e' d'
    rw [← he', ← hd'] at this
    unfold Nat.Coprime
    exact Nat.eq_of_mul_eq_mul_left g0 (by rw [← this, Nat.mul_one])
  have d0 : 0 < d' := by
    rcases Nat.eq_zero_or_pos d' with q | q
    · rw [q, Nat.mul_zero] at hd'; omega
    · exact q
  have hc := coprime_count d' d0 (Nat.gcd e.natAbs d.natAbs)
  have ek : d.toNat = Nat.gcd e.natAbs d.natAbs * d' := by rw [← hd']; omega
  rw [ek]
  clear ek
  generalize Nat.gcd e.natAbs d.natAbs = G at *
  refine Eq.trans (sm_cong fun i _ => ?_) hc
  have iff : d ∣ e * (i : Int) ↔ (d' : Int) ∣ (i : Int) := by
    rw [← Int.natAbs_dvd_natAbs, Int.natAbs_mul, Int.natAbs_natCast, he', hd', Nat.mul_assoc, Nat.mul_dvd_mul_iff_left g0, Int.natCast_dvd_natCast]
    exact ⟨fun h => Nat.Coprime.dvd_of_dvd_mul_left cop.symm h, fun h => Nat.dvd_mul_left_of_dvd h _⟩
  by_cases h : d ∣ e * (i : Int)
  · rw [ind_t h, ind_t (iff.1 h)]
  · rw [ind_f h, ind_f (fun g => h (iff.2 g))]

def U0 (a1 a2 b1 b2 u v : Int) : Int := ind (Up a1 a2 b1 b2 u v ∧ crs a1 a2 b1 b2 u v < 0)
def U1 (a1 a2 b1 b2 u v : Int) : Int := ind (Up a1 a2 b1 b2 u v ∧ crs a1 a2 b1 b2 u v ≤ 0)
theorem ind_iff {p q : Prop} [Decidable p] [Decidable q] (h : p ↔ q) : ind p = ind q := by
  by_cases g : p
  · rw [ind_t g, ind_t (h.1 g)]
  · rw [ind_f g, ind_f (fun k => g (h.2 k))]
theorem row0 {a1 a2 b1 b2 v lo : Int} {k : Nat} (h1 : a2 ≤ v) (h2 : v < b2) (x1 : lo ≤ a1) (x2 : a1 < lo + k) (x3 : lo ≤ b1) (x4 : b1 < lo + k) :
    sm (fun i => U0 a1 a2 b1 b2 (lo + i) v) k = lo + k - 1 - fl a1 a2 b1 b2 (v - a2) := by
  obtain ⟨f1, f2, _, _⟩ := fl_bd (a1 := a1) (a2 := a2) (b1 := b1) (b2 := b2) (lo := lo) (hi := lo + k - 1) (j := v - a2) (by omega) (by omega) (by omega) x1 (by omega) x3 (by omega)
  have c := cnt lo (fl a1 a2 b1 b2 (v - a2)) k
  rw [show max 0 (min (k : Int) (lo + k - 1 - fl a1 a2 b1 b2 (v - a2))) = lo + k - 1 - fl a1 a2 b1 b2 (v - a2) by omega] at c
  rw [← c]
  refine sm_cong fun i _ => ind_iff ?_
  have e := fl_lt (a1 := a1) (a2 := a2) (b1 := b1) (b2 := b2) (u := lo + i) (j := v - a2) (by omega)
  rw [e]
  unfold Up crs
  constructor
  · exact fun h => h.2
  · intro h
    refine ⟨⟨?_, .inl h2⟩, h⟩
    rcases Int.lt_or_le a2 v with g | g
    · exact .inl g
    · refine .inr ⟨by omega, ?_⟩
      rw [show v - a2 = 0 by omega, Int.mul_zero] at h
      rcases Int.lt_or_le (lo + (i : Int)) a1 with q | q
      · have := Int.mul_neg_of_pos_of_neg (show 0 < b2 - a2 by omega) (show lo + (i : Int) - a1 < 0 by omega)
        omega
      · exact q
theorem row1 {a1 a2 b1 b2 v lo : Int} {k : Nat} (h1 : a2 ≤ v) (h2 : v < b2) (x1 : lo ≤ a1) (x2 : a1 < lo + k) (x3 : lo ≤ b1) (x4 : b1 < lo + k) :
    sm (fun i => U1 a1 a2 b1 b2 (lo + i) v) k = lo + k - ce a1 a2 b1 b2 (v - a2) := by
  obtain ⟨_, _, f1, f2⟩ := fl_bd (a1 := a1) (a2 := a2) (b1 := b1) (b2 := b2) (lo := lo) (hi := lo + k - 1) (j := v - a2) (by omega) (by omega) (by omega) x1 (by omega) x3 (by omega)
  have c := cnt lo (ce a1 a2 b1 b2 (v - a2) - 1) k
  rw [show max 0 (min (k : Int) (lo + k - 1 - (ce a1 a2 b1 b2 (v - a2) - 1))) = lo + k - ce a1 a2 b1 b2 (v - a2) by omega] at c
  rw [← c]
  refine sm_cong fun i _ => ind_iff ?_
  have e := ce_le (a1 := a1) (a2 := a2) (b1 := b1) (b2 := b2) (u := lo + i) (j := v - a2) (by omega)
  rw [show (ce a1 a2 b1 b2 (v - a2) - 1 < lo + (i : Int)) = (ce a1 a2 b1 b2 (v - a2) ≤ lo + (i : Int)) by apply propext; omega, e]
  unfold Up crs
  constructor
  · exact fun h => h.2
  · intro h
    refine ⟨⟨?_, .inl h2⟩, h⟩
    rcases Int.lt_or_le a2 v with g | g
    · exact .inl g
    · refine .inr ⟨by omega, ?_⟩
      rw [show v - a2 = 0 by omega, Int.mul_zero] at h
      rcases Int.lt_or_le (lo + (i : Int)) a1 with q | q
      · have := Int.mul_neg_of_pos_of_neg (show 0 < b2 - a2 by omega) (show lo + (i : Int) - a1 < 0 by omega)
        omega
      · exact q
/-- Other rows: nothing. -/
theorem row_no {a1 a2 b1 b2 v lo : Int} {k : Nat} (h : a2 < b2) (hv : ¬ (a2 ≤ v ∧ v < b2)) : sm (fun i => U0 a1 a2 b1 b2 (lo + i) v) k = 0 ∧ sm (fun i => U1 a1 a2 b1 b2 (lo + i) v) k = 0 := by
  have no : ∀ u, Up a1 a2 b1 b2 u v → 0 < crs a1 a2 b1 b2 u v := fun u hu => by
    unfold Up at hu
    obtain ⟨rfl, hu2⟩ : v = b2 ∧ u < b1 := by omega
    unfold crs
    rw [Int.mul_comm (b1 - a1), ← Int.mul_sub]
    exact Int.mul_pos (by omega) (by omega)
  constructor
  · refine sm_none fun i _ => ind_f fun g => ?_
    have := no _ g.1; omega
  · refine sm_none fun i _ => ind_f fun g => ?_
    have := no _ g.1; omega
theorem level {a1 a2 b1 v lo : Int} {k : Nat} (h : a1 < b1) (x1 : lo ≤ a1) (x4 : b1 < lo + k) : sm (fun i => U0 a1 a2 b1 a2 (lo + i) v) k = 0 ∧ sm (fun i => U1 a1 a2 b1 a2 (lo + i) v) k = if a2 ≤ v ∧ v < a2 + 1 then b1 - a1 else 0 := by
  have z : ∀ u v, Up a1 a2 b1 a2 u v → crs a1 a2 b1 a2 u v = 0 ∧ v = a2 := fun u v hu => by
    unfold Up at hu
    unfold crs
    rw [show v - a2 = 0 by omega, Int.sub_self, Int.mul_zero, Int.zero_mul]
    omega
  refine ⟨sm_none fun i _ => ind_f fun g => ?_, ?_⟩
  · have := z _ _ g.1; omega
  by_cases hv : a2 ≤ v ∧ v < a2 + 1
  · rw [if_pos hv]
    have c1 := cnt lo (a1 - 1) k
    have c2 := cnt lo (b1 - 1) k
    rw [show max 0 (min (k : Int) (lo + k - 1 - (a1 - 1))) = lo + k - a1 by omega] at c1
    rw [show max 0 (min (k : Int) (lo + k - 1 - (b1 - 1))) = lo + k - b1 by omega] at c2
    have s := sm_sub (f := fun i => ind (a1 - 1 < lo + i)) (g := fun i => ind (b1 - 1 < lo + i)) k
    have e : sm (fun i => U1 a1 a2 b1 a2 (lo + i) v) k = sm (fun i => ind (a1 - 1 < lo + i) - ind (b1 - 1 < lo + i)) k := sm_cong fun i _ => by
      show U1 a1 a2 b1 a2 (lo + (i : Int)) v = ind (a1 - 1 < lo + (i : Int)) - ind (b1 - 1 < lo + (i : Int))
      unfold U1
      by_cases hu : Up a1 a2 b1 a2 (lo + i) v
      · rw [ind_t ⟨hu, by rw [(z _ _ hu).1]; omega⟩]
        unfold Up at hu
        rw [ind_t (by omega), ind_f (by omega)]; rfl
      · rw [ind_f (fun g => hu g.1)]
        unfold Up at hu
        by_cases q : a1 - 1 < lo + (i : Int)
        · rw [ind_t q, ind_t (by omega)]; rfl
        · rw [ind_f q, ind_f (by omega)]; rfl
    rw [e, s, c1, c2]; omega
  · rw [if_neg hv]
    refine sm_none fun i _ => ind_f fun g => ?_
    have := z _ _ g.1; omega
/-- Over a box: what lies right of an edge, and what lies right of it or at it. -/
theorem box_up {a1 a2 b1 b2 lo lo2 : Int} {k k2 : Nat} (h : a2 < b2 ∨ a2 = b2 ∧ a1 < b1) (x1 : lo ≤ a1) (x2 : a1 < lo + k) (x3 : lo ≤ b1) (x4 : b1 < lo + k) (y1 : lo2 ≤ a2) (y2 : a2 < lo2 + k2) (y4 : b2 < lo2 + k2) :
    bs (U0 a1 a2 b1 b2) lo k lo2 k2 + bs (U1 a1 a2 b1 b2) lo k lo2 k2 = (2 * (lo + k - 1) + 1) * (b2 - a2) - (b2 - a2) * (a1 + b1) + (b1 - a1) ∧
    bs (U1 a1 a2 b1 b2) lo k lo2 k2 - bs (U0 a1 a2 b1 b2) lo k lo2 k2 = ((Nat.gcd (b1 - a1).natAbs (b2 - a2).natAbs : Nat) : Int) := by
  unfold bs
  rcases h with h | ⟨rfl, h⟩
  · have w0 := window (k := k2) (g := fun j => lo + k - 1 - fl a1 a2 b1 b2 j) y1 (Int.le_of_lt h) (by omega) (fun v => sm (fun i => U0 a1 a2 b1 b2 (lo + i) v) k) (fun v => by
      by_cases hv : a2 ≤ v ∧ v < b2
      · rw [if_pos hv]; exact row0 hv.1 hv.2 x1 x2 x3 x4
      · rw [if_neg hv]; exact (row_no h hv).1)
    have w1 := window (k := k2) (g := fun j => lo + k - ce a1 a2 b1 b2 j) y1 (Int.le_of_lt h) (by omega) (fun v => sm (fun i => U1 a1 a2 b1 b2 (lo + i) v) k) (fun v => by
      by_cases hv : a2 ≤ v ∧ v < b2
      · rw [if_pos hv]; exact row1 hv.1 hv.2 x1 x2 x3 x4
      · rw [if_neg hv]; exact (row_no h hv).2)
    rw [w0, w1]
    have ek : (((b2 - a2).toNat : Nat) : Int) = b2 - a2 := by omega
    have s := fl_ce_sum (a1 := a1) (b1 := b1) h
    refine ⟨?_, ?_⟩
    · rw [← sm_add]
      have e : sm (fun j => (lo + k - 1 - fl a1 a2 b1 b2 j) + (lo + k - ce a1 a2 b1 b2 j)) (b2 - a2).toNat = sm (fun j => (2 * (lo + k - 1) + 1) - (fl a1 a2 b1 b2 j + ce a1 a2 b1 b2 j)) (b2 - a2).toNat := sm_cong fun i _ => by
        show (lo + k - 1 - fl a1 a2 b1 b2 i) + (lo + k - ce a1 a2 b1 b2 i) = (2 * (lo + k - 1) + 1) - (fl a1 a2 b1 b2 i + ce a1 a2 b1 b2 i)
        omega
      rw [e, sm_sub (f := fun _ => 2 * (lo + k - 1) + 1), sm_const, s, ek, Int.mul_comm (b2 - a2) (2 * (lo + (k : Int) - 1) + 1)]
      omega
    · rw [← sm_sub, ← gcd_count (show 0 < b2 - a2 by omega)]
      refine sm_cong fun i _ => ?_
      show lo + k - ce a1 a2 b1 b2 i - (lo + k - 1 - fl a1 a2 b1 b2 i) = _
      unfold fl ce
      by_cases hd : (b2 - a2) ∣ (b1 - a1) * (i : Int)
      · rw [ind_t hd, Int.neg_ediv_of_dvd hd]
        omega
      · rw [ind_f hd, Int.neg_ediv, if_neg hd, Int.sign_eq_one_of_pos (by omega)]
        omega
  · have l := fun v => level (a2 := a2) (v := v) h x1 x4
    have z : sm (fun j => sm (fun i => U0 a1 a2 b1 a2 (lo + i) (lo2 + j)) k) k2 = 0 := sm_none fun j _ => (l (lo2 + j)).1
    have w1 := window (k := k2) (g := fun _ => b1 - a1) y1 (show a2 ≤ a2 + 1 by omega) (by omega) (fun v => sm (fun i => U1 a1 a2 b1 a2 (lo + i) v) k) (fun v => (l v).2)
    rw [z, w1, sm_const, Int.sub_self, show a2 + 1 - a2 = 1 by omega, Int.natAbs_zero, Nat.gcd_zero_right]
    simp only [Int.mul_zero, Int.zero_mul, show ((Int.toNat 1 : Nat) : Int) = 1 from rfl, Int.one_mul]
    omega
end PArea
namespace PArea
def hh (x y : Int → Int) (a : Int) : Int := 8000001 * y a + x a
def Sm (a : Int) : Prop := -4000000 ≤ a ∧ a ≤ 4000000
def lexlt (a1 a2 c1 c2 : Int) : Prop := a2 < c2 ∨ a2 = c2 ∧ a1 < c1
instance (a1 a2 c1 c2 : Int) : Decidable (lexlt a1 a2 c1 c2) := by unfold lexlt; exact inferInstance
theorem up_iff {a1 a2 c1 c2 u v : Int} (h1 : Sm a1) (h2 : Sm a2) (h3 : Sm c1) (h4 : Sm c2) (h5 : Sm u) (h6 : Sm v) : Up a1 a2 c1 c2 u v ↔ (8000001 * a2 + a1 ≤ 8000001 * v + u ∧ 8000001 * v + u < 8000001 * c2 + c1) := by
  unfold Sm at *
  unfold Up
  omega
theorem crs_neg (a1 a2 c1 c2 u v : Int) : crs c1 c2 a1 a2 u v = - crs a1 a2 c1 c2 u v := by unfold crs; grind
theorem sgn_iff {d w D c : Int} (hd : 0 < d) (hD : 0 < D) (h : d * w = D * (8000001 * c)) : (w < 0 ↔ c < 0) ∧ (w ≤ 0 ↔ c ≤ 0) := by
  rcases Int.lt_trichotomy c 0 with g | g | g <;> rcases Int.lt_trichotomy w 0 with k | k | k
  · omega
  · rw [k, Int.mul_zero] at h; have := Int.mul_neg_of_pos_of_neg hD (show 8000001 * c < 0 by omega); omega
  · have := Int.mul_pos hd k; have := Int.mul_neg_of_pos_of_neg hD (show 8000001 * c < 0 by omega); omega
  · rw [g, Int.mul_zero, Int.mul_zero] at h; have := Int.mul_neg_of_pos_of_neg hd k; omega
  · omega
  · rw [g, Int.mul_zero, Int.mul_zero] at h; have := Int.mul_pos hd k; omega
  · have := Int.mul_neg_of_pos_of_neg hd k; have := Int.mul_pos hD (show 0 < 8000001 * c by omega); omega
  · rw [k, Int.mul_zero] at h; have := Int.mul_pos hD (show 0 < 8000001 * c by omega); omega
  · omega
/-- A point is on the segment from one point to another one. -/
def onE (a1 a2 c1 c2 u v : Int) : Prop := crs a1 a2 c1 c2 u v = 0 ∧ (min a1 c1 ≤ u ∧ u ≤ max a1 c1) ∧ (min a2 c2 ≤ v ∧ v ≤ max a2 c2)
instance (a1 a2 c1 c2 u v : Int) : Decidable (onE a1 a2 c1 c2 u v) := by unfold onE; exact inferInstance
theorem onE_comm {a1 a2 c1 c2 u v : Int} : onE a1 a2 c1 c2 u v ↔ onE c1 c2 a1 a2 u v := by
  unfold onE
  rw [crs_neg]
  omega
theorem onE_up {a1 a2 c1 c2 u v : Int} (h : lexlt a1 a2 c1 c2) : onE a1 a2 c1 c2 u v ↔ (crs a1 a2 c1 c2 u v = 0 ∧ Up a1 a2 c1 c2 u v) ∨ (u = c1 ∧ v = c2) := by
  constructor
  · rintro ⟨e, h1, h2⟩
    have e' := e
    unfold crs at e'
    rcases h with h | ⟨rfl, h⟩
    · by_cases g1 : v = a2
      · rw [g1, Int.sub_self, Int.mul_zero] at e'
        rcases Int.mul_eq_zero.1 (show (c2 - a2) * (u - a1) = 0 by omega) with k | k
        · omega
        · exact .inl ⟨e, by unfold Up; omega⟩
      · by_cases g2 : v = c2
        · rw [g2, Int.mul_comm, ← Int.mul_sub] at e'
          rcases Int.mul_eq_zero.1 e' with k | k <;> omega
        · exact .inl ⟨e, by unfold Up; omega⟩
    · by_cases g : u = c1
      · omega
      · exact .inl ⟨e, by unfold Up; omega⟩
  · rintro (⟨e, hu⟩ | ⟨rfl, rfl⟩)
    · refine ⟨e, ?_⟩
      rcases h with h | ⟨rfl, h⟩
      · unfold Up at hu
        have b := fl_bd (a1 := a1) (a2 := a2) (b1 := c1) (b2 := c2) (lo := min a1 c1) (hi := max a1 c1) (j := v - a2) h (by omega) (by omega) (by omega) (by omega) (by omega) (by omega)
        have f1 := fl_lt (a1 := a1) (b1 := c1) (u := u) (j := v - a2) h
        have f2 := ce_le (a1 := a1) (b1 := c1) (u := u) (j := v - a2) h
        unfold crs at e
        rw [e] at f1 f2
        omega
      · unfold Up at hu; omega
    · refine ⟨?_, by omega, by omega⟩
      unfold crs; rw [Int.mul_comm]; omega
def E (a1 a2 c1 c2 u v : Int) : Int := if lexlt a1 a2 c1 c2 then U0 a1 a2 c1 c2 u v + U1 a1 a2 c1 c2 u v else - (U0 c1 c2 a1 a2 u v + U1 c1 c2 a1 a2 u v)
/-- An edge crosses the line to the right of a point. -/
def crP (a1 a2 c1 c2 u v : Int) : Prop := (a2 ≤ v ∧ v < c2 ∧ 0 < crs a1 a2 c1 c2 u v) ∨ (c2 ≤ v ∧ v < a2 ∧ crs a1 a2 c1 c2 u v < 0)
instance (a1 a2 c1 c2 u v : Int) : Decidable (crP a1 a2 c1 c2 u v) := by unfold crP; exact inferInstance
theorem crP_comm {a1 a2 c1 c2 u v : Int} : crP a1 a2 c1 c2 u v ↔ crP c1 c2 a1 a2 u v := by
  unfold crP; rw [crs_neg a1 a2 c1 c2]; omega
theorem par_up {a1 a2 c1 c2 u v : Int} (h : lexlt a1 a2 c1 c2) (off : ¬ onE a1 a2 c1 c2 u v) : ind (crP a1 a2 c1 c2 u v) + U0 a1 a2 c1 c2 u v = ind (v < c2) - ind (v < a2) := by
  rw [onE_up h] at off
  have hu : Up a1 a2 c1 c2 u v → crs a1 a2 c1 c2 u v ≠ 0 := fun g e => off (.inl ⟨e, g⟩)
  unfold U0
  by_cases g1 : v < a2
  · have gl : v < c2 := by unfold lexlt at h; omega
    rw [ind_f (show ¬ crP a1 a2 c1 c2 u v by unfold crP; omega), ind_f (fun g => by unfold Up at g; omega), ind_t g1, ind_t gl]; rfl
  · by_cases g2 : v < c2
    · rw [ind_t g2, ind_f g1]
      by_cases g3 : v = a2
      · have e : crs a1 a2 c1 c2 u v = - ((c2 - a2) * (u - a1)) := by unfold crs; rw [g3, Int.sub_self, Int.mul_zero]; omega
        rcases Int.lt_trichotomy u a1 with k | k | k
        · have := Int.mul_neg_of_pos_of_neg (show 0 < c2 - a2 by omega) (show u - a1 < 0 by omega)
          rw [ind_t (show crP a1 a2 c1 c2 u v by unfold crP; omega), ind_f (fun g => by omega)]; rfl
        · exact absurd (show crs a1 a2 c1 c2 u v = 0 by rw [e, k, Int.sub_self, Int.mul_zero]; rfl) (hu (by unfold Up; omega))
        · have := Int.mul_pos (show 0 < c2 - a2 by omega) (show 0 < u - a1 by omega)
          rw [ind_f (show ¬ crP a1 a2 c1 c2 u v by unfold crP; omega), ind_t ⟨by unfold Up; omega, by omega⟩]; rfl
      · have up : Up a1 a2 c1 c2 u v := by unfold Up; omega
        rcases Int.lt_or_lt_of_ne (hu up) with k | k
        · rw [ind_f (show ¬ crP a1 a2 c1 c2 u v by unfold crP; omega), ind_t ⟨up, k⟩]; rfl
        · rw [ind_t (show crP a1 a2 c1 c2 u v by unfold crP; omega), ind_f (fun g => by omega)]; rfl
    · rw [ind_f g2, ind_f g1, ind_f (show ¬ crP a1 a2 c1 c2 u v by unfold crP; unfold lexlt at h; omega), ind_f]; rfl
      rintro ⟨g3, g4⟩
      unfold Up at g3
      unfold lexlt at h
      rcases h with h | ⟨rfl, h⟩
      · have e : crs a1 a2 c1 c2 u v = (c2 - a2) * (c1 - u) := by unfold crs; rw [show v = c2 by omega]; grind
        have := Int.mul_pos (show 0 < c2 - a2 by omega) (show 0 < c1 - u by omega)
        omega
      · refine hu (by unfold Up; omega) ?_
        unfold crs; rw [Int.sub_self, Int.zero_mul, show v - a2 = 0 by omega, Int.mul_zero]; rfl
section
variable {n : Nat} {x y m : Int → Int} {D κ : Int}
structure Box (n : Nat) (x y m : Int → Int) (D : Int) (lo : Int) (k : Nat) (lo2 : Int) (k2 : Nat) : Prop where
  P : Poly n x (hh x y) m D
  yp : ∀ a b : Int, a % (n : Int) = b % (n : Int) → y a = y b
  bx : ∀ a, lo ≤ x a ∧ x a < lo + k
  b2 : ∀ a, lo2 ≤ y a ∧ y a < lo2 + k2
  s1 : -4000000 ≤ lo
  s2 : lo + k ≤ 4000001
  s3 : -4000000 ≤ lo2
  s4 : lo2 + k2 ≤ 4000001
variable {lo lo2 : Int} {k k2 : Nat}
theorem Rg (P : Poly n x (hh x y) m D) (b u v : Int) : (hh x y (b + 1) - hh x y b) * (X x (hh x y) m D b (8000001 * v + u) - D * u) = D * (8000001 * crs (x b) (y b) (x (b + 1)) (y (b + 1)) u v) := by
  have := P.hm b
  unfold X crs hh at *
  grind
theorem bs1 (B : Box n x y m D lo k lo2 k2) (a : Int) : Sm (x a) ∧ Sm (y a) := by
  have := B.bx a; have := B.b2 a; have := B.s1; have := B.s2; have := B.s3; have := B.s4
  unfold Sm; omega
theorem lex_or (B : Box n x y m D lo k lo2 k2) (b : Int) : lexlt (x b) (y b) (x (b + 1)) (y (b + 1)) ∧ hh x y b < hh x y (b + 1) ∨ ¬ lexlt (x b) (y b) (x (b + 1)) (y (b + 1)) ∧ lexlt (x (b + 1)) (y (b + 1)) (x b) (y b) ∧ hh x y (b + 1) < hh x y b := by
  have d := dy_ne B.P b
  obtain ⟨h1, h2⟩ := bs1 B b
  obtain ⟨h3, h4⟩ := bs1 B (b + 1)
  unfold Sm at *
  unfold hh lexlt at *
  omega
/-- What an edge adds to the count left of a point. -/
theorem w_edge (B : Box n x y m D lo k lo2 k2) (b : Int) {u v : Int} (h5 : Sm u) (h6 : Sm v) :
    q (hh x y) (8000001 * v + u) b * ind (X x (hh x y) m D b (8000001 * v + u) < D * u) = (if lexlt (x b) (y b) (x (b + 1)) (y (b + 1)) then U0 (x b) (y b) (x (b + 1)) (y (b + 1)) u v else - U0 (x (b + 1)) (y (b + 1)) (x b) (y b) u v) ∧
    q (hh x y) (8000001 * v + u) b * ind (X x (hh x y) m D b (8000001 * v + u) < D * u + 1) = (if lexlt (x b) (y b) (x (b + 1)) (y (b + 1)) then U1 (x b) (y b) (x (b + 1)) (y (b + 1)) u v else - U1 (x (b + 1)) (y (b + 1)) (x b) (y b) u v) := by
  obtain ⟨h1, h2⟩ := bs1 B b
  obtain ⟨h3, h4⟩ := bs1 B (b + 1)
  have r := Rg B.P b u v
  rcases lex_or B b with ⟨l, g⟩ | ⟨l, l', g⟩
  · rw [if_pos l, if_pos l]
    have i := up_iff h1 h2 h3 h4 h5 h6
    obtain ⟨s1, s2⟩ := sgn_iff (by omega) B.P.hD r
    unfold U0 U1
    by_cases hu : Up (x b) (y b) (x (b + 1)) (y (b + 1)) u v
    · obtain ⟨i1, i2⟩ := i.1 hu
      rw [q_up (a := b) i1 i2, Int.one_mul, Int.one_mul]
      exact ⟨ind_iff ⟨fun z => ⟨hu, s1.1 (by omega)⟩, fun z => by have := s1.2 z.2; omega⟩, ind_iff ⟨fun z => ⟨hu, s2.1 (by omega)⟩, fun z => by have := s2.2 z.2; omega⟩⟩
    · have : ¬ act (hh x y) b (8000001 * v + u) := fun z => hu (i.2 (by unfold act at z; unfold hh at z g; omega))
      rw [q_no this, Int.zero_mul, Int.zero_mul, ind_f (fun z => hu z.1), ind_f (fun z => hu z.1)]
      exact ⟨rfl, rfl⟩
  · rw [if_neg l, if_neg l]
    have i := up_iff h3 h4 h1 h2 h5 h6
    have r' : (hh x y b - hh x y (b + 1)) * (X x (hh x y) m D b (8000001 * v + u) - D * u) = D * (8000001 * crs (x (b + 1)) (y (b + 1)) (x b) (y b) u v) := by
      rw [crs_neg (x b)]
      grind
    obtain ⟨s1, s2⟩ := sgn_iff (by omega) B.P.hD r'
    unfold U0 U1
    by_cases hu : Up (x (b + 1)) (y (b + 1)) (x b) (y b) u v
    · obtain ⟨i1, i2⟩ := i.1 hu
      rw [q_dn (a := b) i1 i2, Int.neg_mul, Int.one_mul, Int.neg_mul, Int.one_mul]
      exact ⟨congrArg _ (ind_iff ⟨fun z => ⟨hu, s1.1 (by omega)⟩, fun z => by have := s1.2 z.2; omega⟩), congrArg _ (ind_iff ⟨fun z => ⟨hu, s2.1 (by omega)⟩, fun z => by have := s2.2 z.2; omega⟩)⟩
    · have : ¬ act (hh x y) b (8000001 * v + u) := fun z => hu (i.2 (by unfold act at z; unfold hh at z g; omega))
      rw [q_no this, Int.zero_mul, Int.zero_mul, ind_f (fun z => hu z.1), ind_f (fun z => hu z.1)]
      exact ⟨rfl, rfl⟩
def W2 (n : Nat) (x y m : Int → Int) (D u v : Int) : Int := WX n x (hh x y) m D (8000001 * v + u) (8000001 * v + u) (D * u) + WX n x (hh x y) m D (8000001 * v + u) (8000001 * v + u) (D * u + 1)
theorem W2_E (B : Box n x y m D lo k lo2 k2) {u v : Int} (h5 : Sm u) (h6 : Sm v) : W2 n x y m D u v = sm (fun b => E (x b) (y b) (x (b + 1)) (y (b + 1)) u v) n := by
  unfold W2 WX
  rw [← sm_add]
  refine sm_cong fun i _ => ?_
  obtain ⟨e1, e2⟩ := w_edge B (i : Int) h5 h6
  show q _ _ _ * ind _ + q _ _ _ * ind _ = _
  rw [e1, e2]
  unfold E
  by_cases g : lexlt (x i) (y i) (x ((i : Int) + 1)) (y ((i : Int) + 1))
  · rw [if_pos g, if_pos g, if_pos g]
  · rw [if_neg g, if_neg g, if_neg g]; omega
theorem bs_cong {f g : Int → Int → Int} (h : ∀ u v, lo ≤ u → u < lo + k → lo2 ≤ v → v < lo2 + k2 → f u v = g u v) : bs f lo k lo2 k2 = bs g lo k lo2 k2 := by
  unfold bs
  exact sm_cong fun j hj => sm_cong fun i hi => h _ _ (by omega) (by omega) (by omega) (by omega)
theorem bs_add (f g : Int → Int → Int) : bs (fun u v => f u v + g u v) lo k lo2 k2 = bs f lo k lo2 k2 + bs g lo k lo2 k2 := by
  unfold bs
  rw [← sm_add]
  exact sm_cong fun j _ => sm_add k
theorem bs_mul (c : Int) (f : Int → Int → Int) : bs (fun u v => c * f u v) lo k lo2 k2 = c * bs f lo k lo2 k2 := by
  unfold bs
  rw [← sm_mul]
  exact sm_cong fun j _ => sm_mul c k
theorem bs_sm (f : Int → Int → Int → Int) (n : Nat) : bs (fun u v => sm (fun b => f b u v) n) lo k lo2 k2 = sm (fun b => bs (f b) lo k lo2 k2) n := by
  unfold bs
  rw [← swap (fun j b => sm (fun i => f b (lo + i) (lo2 + j)) k) n k2]
  exact sm_cong fun j _ => swap (fun i b => f b (lo + i) (lo2 + j)) n k
theorem bs_pt {a1 a2 : Int} (h1 : lo ≤ a1 ∧ a1 < lo + k) (h2 : lo2 ≤ a2 ∧ a2 < lo2 + k2) : bs (fun u v => ind (u = a1 ∧ v = a2)) lo k lo2 k2 = 1 := by
  have r : ∀ v, sm (fun i => ind (lo + i = a1 ∧ v = a2)) k = if a2 ≤ v ∧ v < a2 + 1 then 1 else 0 := fun v => by
    by_cases hv : v = a2
    · rw [if_pos (by omega)]
      have w := window (k := k) (g := fun _ => 1) h1.1 (show a1 ≤ a1 + 1 by omega) (by omega) (fun u => ind (u = a1 ∧ v = a2)) (fun u => by
        by_cases hu : u = a1
        · rw [if_pos (by omega), ind_t ⟨hu, hv⟩]
        · rw [if_neg (by omega), ind_f (fun z => hu z.1)])
      rw [w, sm_const, show a1 + 1 - a1 = 1 by omega]; rfl
    · rw [if_neg (by omega)]
      exact sm_none fun i _ => ind_f fun z => hv z.2
  unfold bs
  have w := window (k := k2) (g := fun _ => 1) h2.1 (show a2 ≤ a2 + 1 by omega) (by omega) (fun v => sm (fun i => ind (lo + i = a1 ∧ v = a2)) k) r
  rw [w, sm_const, show a2 + 1 - a2 = 1 by omega]; rfl
theorem bs_E (B : Box n x y m D lo k lo2 k2) (b : Int) : bs (E (x b) (y b) (x (b + 1)) (y (b + 1))) lo k lo2 k2 = (2 * (lo + k - 1) + 1) * (y (b + 1) - y b) - (y (b + 1) - y b) * (x b + x (b + 1)) + (x (b + 1) - x b) := by
  have a1 := B.bx b; have a2 := B.b2 b; have c1 := B.bx (b + 1); have c2 := B.b2 (b + 1)
  rcases lex_or B b with ⟨l, g⟩ | ⟨l, l', g⟩
  · have h := (box_up (k := k) (k2 := k2) l a1.1 a1.2 c1.1 c1.2 a2.1 a2.2 c2.2).1
    rw [← h, ← bs_add]
    exact bs_cong fun u v _ _ _ _ => if_pos l
  · have h := (box_up (k := k) (k2 := k2) l' c1.1 c1.2 a1.1 a1.2 c2.1 c2.2 a2.2).1
    rw [← bs_add] at h
    have e : bs (E (x b) (y b) (x (b + 1)) (y (b + 1))) lo k lo2 k2 = bs (fun u v => -1 * (U0 (x (b + 1)) (y (b + 1)) (x b) (y b) u v + U1 (x (b + 1)) (y (b + 1)) (x b) (y b) u v)) lo k lo2 k2 := bs_cong fun u v _ _ _ _ => by
      unfold E; rw [if_neg l]; omega
    rw [e, bs_mul, h]
    grind
theorem sumE (B : Box n x y m D lo k lo2 k2) : bs (W2 n x y m D) lo k lo2 k2 = - sm (fun b => (x b + x (b + 1)) * (y (b + 1) - y b)) n := by
  have s1 := B.s1; have s2 := B.s2; have s3 := B.s3; have s4 := B.s4
  have e : bs (W2 n x y m D) lo k lo2 k2 = bs (fun u v => sm (fun b => E (x b) (y b) (x (b + 1)) (y (b + 1)) u v) n) lo k lo2 k2 := bs_cong fun u v _ _ _ _ => W2_E B (by unfold Sm; omega) (by unfold Sm; omega)
  rw [e, bs_sm (fun b => E (x b) (y b) (x (b + 1)) (y (b + 1)))]
  have t1 := per_tele (n := n) (g := y) B.yp
  have t2 := per_tele (n := n) (g := x) B.P.px
  have f : sm (fun b => bs (E (x b) (y b) (x (b + 1)) (y (b + 1))) lo k lo2 k2) n = sm (fun b => (2 * (lo + k - 1) + 1) * (y (b + 1) - y b) - (x b + x (b + 1)) * (y (b + 1) - y b) + (x (b + 1) - x b)) n := sm_cong fun b _ => by
    rw [bs_E B, Int.mul_comm (y ((b : Int) + 1) - y b) (x b + x ((b : Int) + 1))]
  rw [f, sm_add (f := fun b => (2 * (lo + k - 1) + 1) * (y (b + 1) - y b) - (x b + x (b + 1)) * (y (b + 1) - y b)), sm_sub (f := fun b => (2 * (lo + k - 1) + 1) * (y (b + 1) - y b)), sm_mul (f := fun b => y (b + 1) - y b), t1, t2]
  omega
end
end PArea
namespace PArea
section
variable {n : Nat} {x y m : Int → Int} {D κ : Int} {lo lo2 : Int} {k k2 : Nat}
def eOn (x y : Int → Int) (b u v : Int) : Prop := onE (x b) (y b) (x (b + 1)) (y (b + 1)) u v
instance (x y : Int → Int) (b u v : Int) : Decidable (eOn x y b u v) := by unfold eOn; exact inferInstance
/-- The point is the edge's end. -/
def cEnd (x y : Int → Int) (b u v : Int) : Prop := u = x (b + 1) ∧ v = y (b + 1)
instance (x y : Int → Int) (b u v : Int) : Decidable (cEnd x y b u v) := by unfold cEnd; exact inferInstance
theorem yper (B : Box n x y m D lo k lo2 k2) {a b : Int} (h : a % (n : Int) = b % (n : Int)) (u v : Int) : (eOn x y a u v ↔ eOn x y b u v) ∧ (cEnd x y a u v ↔ cEnd x y b u v) := by
  have s := succ_mod h 1
  unfold eOn cEnd
  rw [B.P.px a b h, B.yp a b h, B.P.px _ _ s, B.yp _ _ s]
  exact ⟨Iff.rfl, Iff.rfl⟩
theorem corner_ne (B : Box n x y m D lo k lo2 k2) {a b : Int} (h : x a = x b ∧ y a = y b) : a % (n : Int) = b % (n : Int) := by
  by_cases g : a % (n : Int) = b % (n : Int)
  · exact g
  · have := B.P.hy a b g
    unfold hh at this; omega
/-- Inside an edge: its height is strictly between, and the edge passes there. -/
theorem on_in (B : Box n x y m D lo k lo2 k2) {b u v : Int} (h : eOn x y b u v) (h1 : ¬ (u = x b ∧ v = y b)) (h2 : ¬ cEnd x y b u v) :
    ((hh x y b < 8000001 * v + u ∧ 8000001 * v + u < hh x y (b + 1)) ∨ (hh x y (b + 1) < 8000001 * v + u ∧ 8000001 * v + u < hh x y b)) ∧ X x (hh x y) m D b (8000001 * v + u) = D * u := by
  obtain ⟨e, w1, w2⟩ := h
  unfold cEnd at h2
  have b1 := bs1 B b; have b2 := bs1 B (b + 1)
  unfold Sm at b1 b2
  have r := Rg B.P b u v
  rw [e, Int.mul_zero, Int.mul_zero] at r
  have d := dy_ne B.P b
  refine ⟨?_, ?_⟩
  · rcases lex_or B b with ⟨l, g⟩ | ⟨_, l, g⟩
    · have o := (onE_up l).1 ⟨e, w1, w2⟩
      rcases o with ⟨_, o⟩ | o
      · unfold Up at o; unfold hh; omega
      · exact absurd o h2
    · have o := (onE_up l).1 (onE_comm.1 ⟨e, w1, w2⟩)
      rcases o with ⟨_, o⟩ | o
      · unfold Up at o; unfold hh; omega
      · exact absurd o h1
  · rcases Int.mul_eq_zero.1 r with z | z <;> omega
theorem act_on (B : Box n x y m D lo k lo2 k2) {b u v : Int} (h5 : Sm u) (h6 : Sm v) (ha : act (hh x y) b (8000001 * v + u)) (hX : X x (hh x y) m D b (8000001 * v + u) = D * u) : eOn x y b u v := by
  have r := Rg B.P b u v
  rw [hX, Int.sub_self, Int.mul_zero] at r
  have e : crs (x b) (y b) (x (b + 1)) (y (b + 1)) u v = 0 := by
    rcases Int.mul_eq_zero.1 r.symm with z | z
    · have := B.P.hD; omega
    · omega
  obtain ⟨b1, b2⟩ := bs1 B b; obtain ⟨b3, b4⟩ := bs1 B (b + 1)
  unfold eOn
  rcases lex_or B b with ⟨l, g⟩ | ⟨_, l, g⟩
  · exact (onE_up l).2 (.inl ⟨e, (up_iff b1 b2 b3 b4 h5 h6).2 (by unfold act at ha; unfold hh at ha g; omega)⟩)
  · refine onE_comm.2 ((onE_up l).2 (.inl ⟨by rw [crs_neg]; omega, (up_iff b3 b4 b1 b2 h5 h6).2 (by unfold act at ha; unfold hh at ha g; omega)⟩))
theorem sm_par {f : Int → Int} : ∀ {k : Nat}, (∀ i : Nat, i < k → f (i : Int) % 2 = 0) → sm f k % 2 = 0
  | 0, _ => rfl
  | k + 1, h => by
    have := sm_par (k := k) fun i hi => h i (by omega)
    have := h k (by omega)
    rw [sm]; omega
/-- Off the border the edges to the right are odd in number just inside. -/
theorem off_par (B : Box n x y m D lo k lo2 k2) {u v : Int} (h5 : Sm u) (h6 : Sm v) (off : ∀ b, ¬ eOn x y b u v) :
    (sm (fun b => ind (crP (x b) (y b) (x (b + 1)) (y (b + 1)) u v)) n + WX n x (hh x y) m D (8000001 * v + u) (8000001 * v + u) (D * u)) % 2 = 0 := by
  have s := sm_shift1 (n := n) (f := fun b => ind (v < y b)) (fun a b h => by show ind (v < y a) = ind (v < y b); rw [B.yp a b h])
  have key : sm (fun b => (ind (crP (x b) (y b) (x (b + 1)) (y (b + 1)) u v) + q (hh x y) (8000001 * v + u) b * ind (X x (hh x y) m D b (8000001 * v + u) < D * u)) + (ind (v < y (b + 1)) + ind (v < y b))) n % 2 = 0 := sm_par fun i _ => by
    show (ind (crP (x i) (y i) (x ((i : Int) + 1)) (y ((i : Int) + 1)) u v) + q (hh x y) (8000001 * v + u) i * ind (X x (hh x y) m D i (8000001 * v + u) < D * u) + (ind (v < y ((i : Int) + 1)) + ind (v < y i))) % 2 = 0
    rw [(w_edge B (i : Int) h5 h6).1]
    rcases lex_or B (i : Int) with ⟨l, g⟩ | ⟨l, l', g⟩
    · rw [if_pos l]
      have := par_up l (off i)
      omega
    · rw [if_neg l, ind_iff crP_comm]
      have := par_up l' (fun z => off i (onE_comm.1 z))
      have c : ind (crP (x ((i : Int) + 1)) (y ((i : Int) + 1)) (x i) (y i) u v) = 0 ∨ ind (crP (x ((i : Int) + 1)) (y ((i : Int) + 1)) (x i) (y i) u v) = 1 := by
        unfold ind; split
        · exact .inr rfl
        · exact .inl rfl
      omega
  rw [sm_add (f := fun b => ind (crP (x b) (y b) (x (b + 1)) (y (b + 1)) u v) + q (hh x y) (8000001 * v + u) b * ind (X x (hh x y) m D b (8000001 * v + u) < D * u)), sm_add (f := fun b => ind (crP (x b) (y b) (x (b + 1)) (y (b + 1)) u v)), sm_add (f := fun b => ind (v < y (b + 1)))] at key
  change sm (fun b => ind (v < y (b + 1))) n = sm (fun b => ind (v < y b)) n at s
  unfold WX
  omega
/-- Just one. -/
theorem sm_uni (hn : 0 < n) {f : Int → Int} (hf : per n f) (c : Int) (h : ∀ b : Int, b % (n : Int) ≠ c % (n : Int) → f b = 0) : sm f n = f c := by
  have := sm_one (n := n) hn hf (g := fun _ => 0) (fun _ _ _ => rfl) c h
  rw [sm_zero] at this
  omega
/-- The law at a point: F tells where it is. -/
def Tells (n : Nat) (x y : Int → Int) (F : Int → Int → Int) (u v : Int) : Prop :=
  ((∃ b, eOn x y b u v) → F u v = 0) ∧ ((∀ b, ¬ eOn x y b u v) → (F u v = 1 ∧ sm (fun b => ind (crP (x b) (y b) (x (b + 1)) (y (b + 1)) u v)) n % 2 = 1) ∨ (F u v = -1 ∧ sm (fun b => ind (crP (x b) (y b) (x (b + 1)) (y (b + 1)) u v)) n % 2 = 0))
theorem point (B : Box n x y m D lo k lo2 k2) (hκ : ∀ a j, act (hh x y) a j → K n x (hh x y) m D a j = -1) {F : Int → Int → Int} {u v : Int} (h5 : Sm u) (h6 : Sm v) (t : Tells n x y F u v) :
    W2 n x y m D u v = (-2 * ind (F u v = 1) + -1 * ind (F u v = 0)) + sm (fun b => tau x (hh x y) b * ind (cEnd x y b u v)) n := by
  have hn := B.P.hn
  have tp : per n (tau x (hh x y)) := fun a b h => by
    unfold tau
    rw [Sv_per B.P (succ_mod h 1) h, Sv_per B.P h (succ_mod h 2)]
  have fp : per n (fun b => tau x (hh x y) b * ind (cEnd x y b u v)) := fun a b h => by
    show tau x (hh x y) a * ind (cEnd x y a u v) = _
    rw [tp a b h, ind_iff (yper B h u v).2]
  by_cases hc : ∃ b, cEnd x y b u v
  · obtain ⟨b, rfl, rfl⟩ := hc
    have on : eOn x y b (x (b + 1)) (y (b + 1)) := by
      refine ⟨?_, by omega, by omega⟩
      unfold crs; rw [Int.mul_comm]; omega
    rw [t.1 ⟨b, on⟩, ind_f (show ¬ (0 : Int) = 1 by decide), ind_t rfl, sm_uni (by omega) fp b (fun a ha => by
      rw [ind_f (fun z => ha (pred_mod (corner_ne B ⟨z.1.symm, z.2.symm⟩))), Int.mul_zero]), ind_t ⟨rfl, rfl⟩]
    have := at_corner B.P hκ b
    unfold W2
    unfold hh at this ⊢
    omega
  · have z : sm (fun b => tau x (hh x y) b * ind (cEnd x y b u v)) n = 0 := sm_none fun i _ => by rw [ind_f (fun z => hc ⟨_, z⟩), Int.mul_zero]
    rw [z]
    by_cases ho : ∃ b, eOn x y b u v
    · obtain ⟨b, ho⟩ := ho
      rw [t.1 ⟨b, ho⟩, ind_f (show ¬ (0 : Int) = 1 by decide), ind_t rfl]
      obtain ⟨g1, g2⟩ := on_in B ho (fun z => hc ⟨b - 1, by unfold cEnd; rw [show b - 1 + 1 = b by omega]; exact z⟩) (fun z => hc ⟨b, z⟩)
      have := in_edge B.P hκ g1
      rw [g2] at this
      unfold W2
      omega
    · have off : ∀ b, ¬ eOn x y b u v := fun b z => ho ⟨b, z⟩
      have e := WX_off (n := n) (m := m) (D := D) (x := x) (y := hh x y) (j := 8000001 * v + u) (T := D * u) (8000001 * v + u) (fun b hb hX => off b (act_on B h5 h6 hb hX))
      have o := off_or B.P hκ (8000001 * v + u) (D * u)
      have p := off_par B h5 h6 off
      unfold W2
      rw [e]
      rcases t.2 off with ⟨f, g⟩ | ⟨f, g⟩
      · rw [f, ind_t rfl, ind_f (by decide)]; omega
      · rw [f, ind_f (by decide), ind_f (by decide)]; omega
/-- An edge's grid points but its end. -/
def O (x y : Int → Int) (b u v : Int) : Int := ind (eOn x y b u v ∧ ¬ cEnd x y b u v)
theorem bs_O (B : Box n x y m D lo k lo2 k2) (b : Int) : bs (O x y b) lo k lo2 k2 = ((Nat.gcd (x (b + 1) - x b).natAbs (y (b + 1) - y b).natAbs : Nat) : Int) := by
  have a1 := B.bx b; have a2 := B.b2 b; have c1 := B.bx (b + 1); have c2 := B.b2 (b + 1)
  have i2 : ∀ {p q : Prop} [Decidable p] [Decidable q], (p → q) → ind q - ind p = ind (q ∧ ¬ p) := fun {p q} _ _ h => by
    by_cases g : q
    · by_cases g' : p
      · rw [ind_t g, ind_t g', ind_f (fun z => z.2 g')]; rfl
      · rw [ind_t g, ind_f g', ind_t ⟨g, g'⟩]; rfl
    · rw [ind_f g, ind_f (fun z => g (h z)), ind_f (fun z => g z.1)]; rfl
  have du : ∀ a1 a2 c1 c2 u v, U1 a1 a2 c1 c2 u v + -1 * U0 a1 a2 c1 c2 u v = ind (crs a1 a2 c1 c2 u v = 0 ∧ Up a1 a2 c1 c2 u v) := fun a1 a2 c1 c2 u v => by
    have := i2 (p := Up a1 a2 c1 c2 u v ∧ crs a1 a2 c1 c2 u v < 0) (q := Up a1 a2 c1 c2 u v ∧ crs a1 a2 c1 c2 u v ≤ 0) (fun z => ⟨z.1, by omega⟩)
    unfold U0 U1
    rw [show ∀ a b : Int, a + -1 * b = a - b by omega, this]
    exact ind_iff ⟨fun z => ⟨by have := z.1.2; by_cases h : crs a1 a2 c1 c2 u v < 0; exact absurd ⟨z.1.1, h⟩ z.2; omega, z.1.1⟩, fun z => ⟨⟨z.2, by omega⟩, fun w => by omega⟩⟩
  rcases lex_or B b with ⟨l, g⟩ | ⟨l, l', g⟩
  · have h := (box_up (k := k) (k2 := k2) l a1.1 a1.2 c1.1 c1.2 a2.1 a2.2 c2.2).2
    rw [← h]
    have e : bs (O x y b) lo k lo2 k2 = bs (fun u v => U1 (x b) (y b) (x (b + 1)) (y (b + 1)) u v + -1 * U0 (x b) (y b) (x (b + 1)) (y (b + 1)) u v) lo k lo2 k2 := bs_cong fun u v _ _ _ _ => by
      rw [du]
      unfold O eOn cEnd
      refine ind_iff ?_
      rw [onE_up l]
      constructor
      · rintro ⟨z | z, w⟩
        · exact z
        · exact absurd z w
      · exact fun z => ⟨.inl z, fun w => by have := z.2; unfold Up at this; omega⟩
    rw [e, bs_add, bs_mul]; omega
  · have h := (box_up (k := k) (k2 := k2) l' c1.1 c1.2 a1.1 a1.2 c2.1 c2.2 a2.2).2
    have p1 := bs_pt (lo := lo) (k := k) (lo2 := lo2) (k2 := k2) a1 a2
    have p2 := bs_pt (lo := lo) (k := k) (lo2 := lo2) (k2 := k2) c1 c2
    have e : bs (O x y b) lo k lo2 k2 = bs (fun u v => (U1 (x (b + 1)) (y (b + 1)) (x b) (y b) u v + -1 * U0 (x (b + 1)) (y (b + 1)) (x b) (y b) u v) + (ind (u = x b ∧ v = y b) + -1 * ind (u = x (b + 1) ∧ v = y (b + 1)))) lo k lo2 k2 := bs_cong fun u v _ _ _ _ => by
      rw [du]
      unfold O eOn cEnd
      have o := onE_up (u := u) (v := v) l'
      rw [← onE_comm] at o
      by_cases z1 : u = x (b + 1) ∧ v = y (b + 1)
      · rw [ind_f (fun w => w.2 z1), ind_t z1]
        have : crs (x (b + 1)) (y (b + 1)) (x b) (y b) u v = 0 := by unfold crs; rw [z1.1, z1.2, Int.sub_self, Int.sub_self, Int.mul_zero, Int.mul_zero]; rfl
        rw [ind_t ⟨this, by unfold Up; unfold lexlt at l'; omega⟩, ind_f (fun w => by unfold lexlt at l'; omega)]; rfl
      · rw [ind_f z1]
        by_cases z2 : u = x b ∧ v = y b
        · rw [ind_t z2, ind_t ⟨o.2 (.inr z2), z1⟩, ind_f (fun w => by have := w.2; unfold Up at this; omega)]; rfl
        · rw [ind_f z2, show ∀ t : Int, t + (0 + -1 * 0) = t by omega]
          refine ind_iff ⟨fun w => ?_, fun w => ⟨o.2 (.inl w), z1⟩⟩
          rcases o.1 w.1 with w | w
          · exact w
          · exact absurd w z2
    rw [e, bs_add, bs_add, bs_add, bs_mul, bs_mul, p1, p2, show (x (b + 1) - x b).natAbs = (x b - x (b + 1)).natAbs by omega, show (y (b + 1) - y b).natAbs = (y b - y (b + 1)).natAbs by omega, ← h]
    omega
/-- Two edges that hold a point: it is their common corner. -/
def Two (n : Nat) (x y : Int → Int) : Prop := ∀ a b u v : Int, eOn x y a u v → eOn x y b u v → a % (n : Int) ≠ b % (n : Int) → (b % (n : Int) = (a + 1) % (n : Int) ∧ cEnd x y a u v) ∨ (a % (n : Int) = (b + 1) % (n : Int) ∧ cEnd x y b u v)
theorem sumO (B : Box n x y m D lo k lo2 k2) (h2 : Two n x y) {u v : Int} {f : Int} (h : ((∃ b, eOn x y b u v) → f = 0) ∧ ((∀ b, ¬ eOn x y b u v) → f ≠ 0)) : sm (fun b => O x y b u v) n = ind (f = 0) := by
  have hn := B.P.hn
  have op : per n (fun b => O x y b u v) := fun a b h => ind_iff (by rw [(yper B h u v).1, (yper B h u v).2])
  by_cases ho : ∃ b, eOn x y b u v
  · rw [ind_t (h.1 ho)]
    obtain ⟨b, hb, hc⟩ : ∃ b, eOn x y b u v ∧ ¬ cEnd x y b u v := by
      obtain ⟨b, hb⟩ := ho
      by_cases hc : cEnd x y b u v
      · refine ⟨b + 1, ?_, fun z => ?_⟩
        · obtain ⟨rfl, rfl⟩ := hc
          refine ⟨?_, by omega, by omega⟩
          unfold crs; rw [Int.sub_self, Int.sub_self, Int.mul_zero, Int.mul_zero]; rfl
        · exact next_ne hn (b + 1) (corner_ne B ⟨by rw [← hc.1, ← z.1], by rw [← hc.2, ← z.2]⟩)
      · exact ⟨b, hb, hc⟩
    rw [sm_uni (by omega) op b (fun a ha => ind_f fun z => by
      rcases h2 a b u v z.1 hb ha with w | w
      · exact z.2 w.2
      · exact hc w.2)]
    exact ind_t ⟨hb, hc⟩
  · rw [ind_f (h.2 fun b z => ho ⟨b, z⟩)]
    exact sm_none fun i _ => ind_f fun z => ho ⟨_, z.1⟩
/-- Pick's theorem, and the count of what is on the border. -/
theorem pick (B : Box n x y m D lo k lo2 k2) (h2 : Two n x y) {F : Int → Int → Int} (t : ∀ u v, lo ≤ u → u < lo + k → lo2 ≤ v → v < lo2 + k2 → Tells n x y F u v) (A0 : 0 < sm (fun b => (x b + x (b + 1)) * (y (b + 1) - y b)) n) :
    sm (fun b => (x b + x (b + 1)) * (y (b + 1) - y b)) n = 2 * bs (fun u v => ind (F u v = 1)) lo k lo2 k2 + bs (fun u v => ind (F u v = 0)) lo k lo2 k2 - 2 ∧
    bs (fun u v => ind (F u v = 0)) lo k lo2 k2 = sm (fun b => ((Nat.gcd (x (b + 1) - x b).natAbs (y (b + 1) - y b).natAbs : Nat) : Int)) n := by
  have s1 := B.s1; have s2 := B.s2; have s3 := B.s3; have s4 := B.s4
  obtain ⟨κ, hκ⟩ := K_all B.P
  have hneg := area_sg B.P hκ
  have e : sm (fun b => (x b + x (b + 1)) * (hh x y (b + 1) - hh x y b)) n = 8000001 * sm (fun b => (x b + x (b + 1)) * (y (b + 1) - y b)) n := by
    have t := per_tele (n := n) (g := fun b => x b * x b) (fun a b h => by show x a * x a = x b * x b; rw [B.P.px a b h])
    have s := sm_add (f := fun b => 8000001 * ((x b + x (b + 1)) * (y (b + 1) - y b))) (g := fun b => x (b + 1) * x (b + 1) - x b * x b) n
    rw [sm_mul] at s
    have u : sm (fun b => (x b + x (b + 1)) * (hh x y (b + 1) - hh x y b)) n = sm (fun b => 8000001 * ((x b + x (b + 1)) * (y (b + 1) - y b)) + (x (b + 1) * x (b + 1) - x b * x b)) n := sm_cong fun b _ => by unfold hh; grind
    change sm (fun b => x (b + 1) * x (b + 1) - x b * x b) n = 0 at t
    omega
  rw [e] at hneg
  obtain rfl : κ = -1 := by
    rcases κ_one B.P hκ with rfl | rfl
    · omega
    · rfl
  have tn := turn_sum B.P hκ
  have sE := sumE B
  have pts : bs (W2 n x y m D) lo k lo2 k2 = bs (fun u v => (-2 * ind (F u v = 1) + -1 * ind (F u v = 0)) + sm (fun b => tau x (hh x y) b * ind (cEnd x y b u v)) n) lo k lo2 k2 := bs_cong fun u v q1 q2 q3 q4 => point B hκ (by unfold Sm; omega) (by unfold Sm; omega) (t u v q1 q2 q3 q4)
  rw [bs_add, bs_add, bs_mul, bs_mul, bs_sm (fun b u v => tau x (hh x y) b * ind (cEnd x y b u v))] at pts
  have cs : sm (fun b => bs (fun u v => tau x (hh x y) b * ind (cEnd x y b u v)) lo k lo2 k2) n = sm (tau x (hh x y)) n := sm_cong fun b _ => by
    rw [bs_mul]
    have := bs_pt (lo := lo) (k := k) (lo2 := lo2) (k2 := k2) (B.bx ((b : Int) + 1)) (B.b2 ((b : Int) + 1))
    have this : bs (fun u v => ind (cEnd x y b u v)) lo k lo2 k2 = 1 := this
    rw [this, Int.mul_one]
  have on : bs (fun u v => ind (F u v = 0)) lo k lo2 k2 = bs (fun u v => sm (fun b => O x y b u v) n) lo k lo2 k2 := bs_cong fun u v q1 q2 q3 q4 => by
    have tt := t u v q1 q2 q3 q4
    refine (sumO B h2 ⟨tt.1, fun off => ?_⟩).symm
    rcases tt.2 off with w | w <;> omega
  rw [bs_sm (O x y)] at on
  refine ⟨by omega, ?_⟩
  rw [on]
  exact sm_cong fun b _ => bs_O B b
end
end PArea
namespace PArea
section
variable {n : Nat} {x y m : Int → Int} {D κ : Int} {lo lo2 : Int} {k k2 : Nat}
theorem no_in (P : Poly n x y m D) {b c : Int} (hs : (y b < y c ∧ y c < y (b + 1)) ∨ (y (b + 1) < y c ∧ y c < y b)) (hX : X x y m D b (y c) = D * x c) : False := by
  have n1 : b % (n : Int) ≠ c % (n : Int) := fun e => by rw [P.py _ _ e] at hs; omega
  have n2 : (b + 1) % (n : Int) ≠ c % (n : Int) := fun e => by rw [P.py _ _ e] at hs; omega
  by_cases h : b % (n : Int) = (c + 1) % (n : Int)
  · obtain ⟨β, hl, hc⟩ := slope P c
    have e := hl (y c)
    rw [← X_per P h, hX, X_lo, Int.sub_self] at e
    rw [P.py _ _ h, y_per1 P h, aa] at hs
    rcases Int.mul_eq_zero.1 e.symm with z | z
    · rw [z, Int.zero_mul, Int.mul_zero] at hc
      rcases Int.mul_eq_zero.1 hc.symm with w | w
      · have := P.hD; omega
      · have := P.co c w; omega
    · omega
  · refine end_ne P (a := b) (b := c) (c := c) ⟨n1, h, n2⟩ (.inl rfl) ⟨by omega, by omega⟩ ?_
    rw [hX, X_lo]; omega
theorem two (B : Box n x y m D lo k lo2 k2) : Two n x y := fun a b u v ha hb hab => by
  have P := B.P
  have hc : ∀ c, u = x c ∧ v = y c → 8000001 * v + u = hh x y c ∧ D * u = D * x c := fun c ⟨h1, h2⟩ => by rw [h1, h2]; exact ⟨rfl, rfl⟩
  by_cases b0 : u = x b ∧ v = y b
  · by_cases a0 : u = x a ∧ v = y a
    · exact absurd (corner_ne B ⟨by rw [← a0.1, ← b0.1], by rw [← a0.2, ← b0.2]⟩) hab
    · by_cases a1 : cEnd x y a u v
      · exact .inl ⟨corner_ne B ⟨by rw [← a1.1, ← b0.1], by rw [← a1.2, ← b0.2]⟩, a1⟩
      · obtain ⟨s1, s2⟩ := on_in B ha a0 a1
        obtain ⟨e1, e2⟩ := hc b b0
        rw [e1] at s1 s2; rw [e2] at s2
        exact (no_in P s1 s2).elim
  · by_cases b1 : cEnd x y b u v
    · by_cases a0 : u = x a ∧ v = y a
      · exact .inr ⟨corner_ne B ⟨by rw [← b1.1, ← a0.1], by rw [← b1.2, ← a0.2]⟩, b1⟩
      · by_cases a1 : cEnd x y a u v
        · exact absurd (pred_mod (corner_ne B (a := a + 1) (b := b + 1) ⟨by rw [← a1.1, ← b1.1], by rw [← a1.2, ← b1.2]⟩)) hab
        · obtain ⟨s1, s2⟩ := on_in B ha a0 a1
          obtain ⟨e1, e2⟩ := hc (b + 1) b1
          rw [e1] at s1 s2; rw [e2] at s2
          exact (no_in P s1 s2).elim
    · obtain ⟨s1, s2⟩ := on_in B hb b0 b1
      by_cases a0 : u = x a ∧ v = y a
      · obtain ⟨e1, e2⟩ := hc a a0
        rw [e1] at s1 s2; rw [e2] at s2
        exact (no_in P s1 s2).elim
      · by_cases a1 : cEnd x y a u v
        · obtain ⟨e1, e2⟩ := hc (a + 1) a1
          rw [e1] at s1 s2; rw [e2] at s2
          exact (no_in P s1 s2).elim
        · obtain ⟨t1, t2⟩ := on_in B ha a0 a1
          have A1 : act (hh x y) a (8000001 * v + u) := by unfold act; omega
          have A2 : act (hh x y) b (8000001 * v + u) := by unfold act; omega
          rcases (sep P A1 A2 (fun e => hab e.symm)).2.2.2 (by omega) with ⟨_, g⟩ | ⟨_, g⟩ <;> omega
end
end PArea

def L.cx (l : L.Sq L.Pt) (a : Int) : Int := (L.cy l a).x
def L.cz (l : L.Sq L.Pt) (a : Int) : Int := (L.cy l a).y
theorem cross_crs (a b : L.Pt) (u v : Int) : L.cross a b ⟨u, v⟩ = PArea.crs a.x a.y b.x b.y u v := rfl
theorem onE_on (l : L.Sq L.Pt) (b u v : Int) : PArea.eOn (L.cx l) (L.cz l) b u v ↔ L.on (L.cy l b) (L.cy l (b + 1)) ⟨u, v⟩ = true := by
  unfold L.on PArea.eOn PArea.onE L.within
  rw [cross_crs]
  simp only [Bool.and_eq_true, decide_eq_true_eq, and_assoc]
  exact Iff.rfl
theorem crE_crP (a b : L.Pt) (u v : Int) : L.crE a b ⟨u, v⟩ = true ↔ PArea.crP a.x a.y b.x b.y u v := by
  unfold L.crE L.upE PArea.crP
  rw [cross_crs]
  simp only [bor, band, Bool.or_eq_true, Bool.and_eq_true, decide_eq_true_eq, and_assoc]
theorem par_sum (l : L.Sq L.Pt) (u v : Int) : ∀ k, k ≤ l.n → (L.par l ⟨u, v⟩ k = true ↔ PArea.sm (fun b => PArea.ind (PArea.crP (L.cx l b) (L.cz l b) (L.cx l (b + 1)) (L.cz l (b + 1)) u v)) k % 2 = 1)
  | 0, _ => ⟨fun h => absurd h Bool.noConfusion, fun h => absurd h (by unfold PArea.sm; decide)⟩
  | k + 1, h => by
    have ih := par_sum l u v k (by omega)
    have e := crE_crP (l.g k) (l.g (L.next l.n k)) u v
    have e1 : L.cy l (k : Int) = l.g k := cy_nat (by omega)
    have e2 : L.cy l ((k : Int) + 1) = l.g (L.next l.n k) := cy_next (by omega)
    unfold L.par
    rw [PArea.sm]
    have eb : PArea.ind (PArea.crP (L.cx l (k : Int)) (L.cz l (k : Int)) (L.cx l ((k : Int) + 1)) (L.cz l ((k : Int) + 1)) u v) = if L.crE (l.g k) (l.g (L.next l.n k)) ⟨u, v⟩ then 1 else 0 := by
      unfold PArea.ind L.cx L.cz
      rw [e1, e2]
      by_cases g : L.crE (l.g k) (l.g (L.next l.n k)) ⟨u, v⟩ = true
      · rw [if_pos g, if_pos (e.1 g)]
      · rw [if_neg g, if_neg (fun z => g (e.2 z))]
    rw [eb]
    cases L.crE (l.g k) (l.g (L.next l.n k)) ⟨u, v⟩ <;> cases hp : L.par l ⟨u, v⟩ k <;> rw [hp] at ih <;> simp at ih ⊢ <;> omega
theorem tells {l : L.Sq L.Pt} (hn : 0 < l.n) (u v : Int) : PArea.Tells l.n (L.cx l) (L.cz l) (fun u v => L.wher l ⟨u, v⟩) u v := by
  have red : ∀ b : Int, ∃ k : Nat, k < l.n ∧ L.cy l b = l.g k ∧ L.cy l (b + 1) = l.g (L.next l.n k) := fun b => by
    refine ⟨L.ix l.n b, ix_lt hn, rfl, ?_⟩
    unfold L.cy
    rw [← ix_next (ix_lt hn), ix_ix hn]
  refine ⟨fun ⟨b, hb⟩ => ?_, fun off => ?_⟩
  · obtain ⟨k, hk, e1, e2⟩ := red b
    rw [onE_on, e1, e2] at hb
    exact (wher_on hk hb).symm
  · have no : ∀ j, j < l.n → L.onE l ⟨u, v⟩ j = false := fun j hj => by
      have := off (j : Int)
      rw [onE_on, cy_nat hj, cy_next hj] at this
      exact Bool.eq_false_iff.2 this
    have p := par_sum l u v l.n (Nat.le_refl _)
    show (L.wher l ⟨u, v⟩ = 1 ∧ _) ∨ (L.wher l ⟨u, v⟩ = -1 ∧ _)
    rw [← wher_off no]
    cases hp : L.par l ⟨u, v⟩ l.n with
    | true => exact .inl ⟨rfl, p.1 hp⟩
    | false =>
      refine .inr ⟨rfl, ?_⟩
      rw [hp] at p
      have : ¬ _ := fun z => absurd (p.2 z) Bool.noConfusion
      omega
theorem low_le (l : L.Sq L.Pt) : ∀ k i, i < k → (L.lowTo l k).x ≤ (l.g i).x ∧ (L.lowTo l k).y ≤ (l.g i).y ∧ (l.g i).x ≤ (L.highTo l k).x ∧ (l.g i).y ≤ (L.highTo l k).y
  | 0, i, h => absurd h (Nat.not_lt_zero _)
  | k + 1, i, h => by
    unfold L.lowTo L.highTo
    dsimp only
    rcases Nat.lt_succ_iff_lt_or_eq.1 h with g | rfl
    · have := low_le l k i g; omega
    · omega
theorem box_bd {l : L.Sq L.Pt} (hn : 0 < l.n) (hb : ∀ i, i < l.n → L.validPt (l.g i) = true) : ∀ k, k ≤ l.n → 0 ≤ (L.lowTo l k).x ∧ (L.lowTo l k).x ≤ 4096 ∧ 0 ≤ (L.lowTo l k).y ∧ (L.lowTo l k).y ≤ 4096 ∧ 0 ≤ (L.highTo l k).x ∧ (L.highTo l k).x ≤ 4096 ∧ 0 ≤ (L.highTo l k).y ∧ (L.highTo l k).y ≤ 4096
  | 0, _ => by
    have := hb 0 hn
    unfold L.validPt at this
    rw [Bool.and_eq_true, within_iff, within_iff] at this
    unfold L.lowTo L.highTo; omega
  | k + 1, h => by
    have ih := box_bd hn hb k (by omega)
    have := hb k (by omega)
    unfold L.validPt at this
    rw [Bool.and_eq_true, within_iff, within_iff] at this
    unfold L.lowTo L.highTo
    dsimp only
    omega
theorem gridTo_sm {l : L.Sq L.Pt} : ∀ k, k ≤ l.n → L.gridTo l k = PArea.sm (fun b => ((Nat.gcd (L.cx l (b + 1) - L.cx l b).natAbs (L.cz l (b + 1) - L.cz l b).natAbs : Nat) : Int)) k
  | 0, _ => rfl
  | k + 1, h => by
    rw [L.gridTo, PArea.sm, gridTo_sm k (by omega)]
    unfold L.cx L.cz L.gcd
    rw [cy_nat (by omega), cy_next (by omega)]
def L.kx (l : L.Sq L.Pt) : Nat := ((L.highTo l l.n).x - (L.lowTo l l.n).x + 1).toNat
def L.ky (l : L.Sq L.Pt) : Nat := ((L.highTo l l.n).y - (L.lowTo l l.n).y + 1).toNat
/-- How many points of a column, and of columns, are at a place w. -/
def L.col (l : L.Sq L.Pt) (w x : Int) (j : Nat) : Int := PArea.sm (fun i => PArea.ind (L.wher l ⟨x, (L.lowTo l l.n).y + i⟩ = w)) j
def L.cols (l : L.Sq L.Pt) (w : Int) (i : Nat) : Int := PArea.sm (fun t => L.col l w ((L.lowTo l l.n).x + t) (L.ky l)) i
theorem valid_parts {l : L.Sq L.Pt} (h : L.validOutline l = true) : L.simple l = true ∧ L.sharp l ∧ 0 < L.areaTo l l.n := by
  unfold L.validOutline at h
  rw [Bool.and_eq_true, Bool.and_eq_true] at h
  obtain ⟨h1, h2, h3⟩ := h
  refine ⟨h3, fun i hi => ?_, ?_⟩
  · have := notT (allB_iff.1 h2 i hi)
    rw [bor, Bool.or_eq_false_iff] at this
    exact this.1
  · unfold L.valid3 at h1
    cases hc : (bif !L.within (l.n : Int) 3 24 then true else !L.validPts l) with
    | true => rw [hc] at h1; exact absurd h1 Bool.noConfusion
    | false => rw [hc] at h1; exact of_decide_eq_true h1
theorem pick_l {l : L.Sq L.Pt} (h : L.validOutline l = true) : L.areaTo l l.n = 2 * L.cols l 1 (L.kx l) + L.cols l 0 (L.kx l) - 2 ∧ L.cols l 0 (L.kx l) = L.gridTo l l.n := by
  obtain ⟨n3, _, _, hbd⟩ := validOutline_of h
  obtain ⟨hs, hc, ha⟩ := valid_parts h
  have hn : 0 < l.n := by omega
  obtain ⟨m, D, P⟩ := poly_of n3 hbd hs hc
  have bb := box_bd hn (pts_valid h) l.n (Nat.le_refl _)
  have ll := low_le l l.n
  have ekx : ((L.kx l : Nat) : Int) = (L.highTo l l.n).x - (L.lowTo l l.n).x + 1 := by
    have := ll 0 hn
    unfold L.kx; omega
  have eky : ((L.ky l : Nat) : Int) = (L.highTo l l.n).y - (L.lowTo l l.n).y + 1 := by
    have := ll 0 hn
    unfold L.ky; omega
  have B : PArea.Box l.n (L.cx l) (L.cz l) m D (L.lowTo l l.n).x (L.kx l) (L.lowTo l l.n).y (L.ky l) :=
    { P := P
      yp := fun a b e => by unfold L.cz; rw [cy_per hn e]
      bx := fun a => by
        have := ll (L.ix l.n a) (ix_lt hn)
        show _ ≤ (l.g (L.ix l.n a)).x ∧ (l.g (L.ix l.n a)).x < _
        omega
      b2 := fun a => by
        have := ll (L.ix l.n a) (ix_lt hn)
        show _ ≤ (l.g (L.ix l.n a)).y ∧ (l.g (L.ix l.n a)).y < _
        omega
      s1 := by omega
      s2 := by omega
      s3 := by omega
      s4 := by omega }
  have eA : PArea.sm (fun b => (L.cx l b + L.cx l (b + 1)) * (L.cz l (b + 1) - L.cz l b)) l.n = L.areaTo l l.n := by
    rw [area_sm (Nat.le_refl _), sm_P]
    have t := PArea.per_tele (n := l.n) (g := fun b => L.cx l b * L.cz l b) (fun a b h => by show L.cx l a * L.cz l a = L.cx l b * L.cz l b; unfold L.cx L.cz; rw [cy_per hn h])
    have s := PArea.sm_add (f := fun b => L.ct l b) (g := fun b => L.cx l (b + 1) * L.cz l (b + 1) - L.cx l b * L.cz l b) l.n
    have u : PArea.sm (fun b => (L.cx l b + L.cx l (b + 1)) * (L.cz l (b + 1) - L.cz l b)) l.n = PArea.sm (fun b => L.ct l b + (L.cx l (b + 1) * L.cz l (b + 1) - L.cx l b * L.cz l b)) l.n := PArea.sm_cong fun b _ => by
      unfold L.ct L.tm L.cx L.cz; grind
    change PArea.sm (fun b => L.cx l (b + 1) * L.cz l (b + 1) - L.cx l b * L.cz l b) l.n = 0 at t
    change _ = PArea.sm (L.ct l) l.n + _ at s
    omega
  have sw : ∀ w, PArea.bs (fun u v => PArea.ind (L.wher l ⟨u, v⟩ = w)) (L.lowTo l l.n).x (L.kx l) (L.lowTo l l.n).y (L.ky l) = L.cols l w (L.kx l) := fun w =>
    PArea.swap (fun j i => PArea.ind (L.wher l ⟨(L.lowTo l l.n).x + i, (L.lowTo l l.n).y + j⟩ = w)) (L.kx l) (L.ky l)
  obtain ⟨p1, p2⟩ := PArea.pick B (PArea.two B) (F := fun u v => L.wher l ⟨u, v⟩) (fun u v _ _ _ _ => tells hn u v) (by rw [eA]; exact ha)
  have s0 := sw 0
  have s1 := sw 1
  rw [eA] at p1
  rw [← gridTo_sm l.n (Nat.le_refl _)] at p2
  rw [s0, s1] at p1
  rw [s0] at p2
  exact ⟨p1, p2⟩
end Go.Proofs.Ytinfalehnaejbaa
