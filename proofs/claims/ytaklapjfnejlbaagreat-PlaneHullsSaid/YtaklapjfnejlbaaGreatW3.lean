/- A symbolic walk over the model, and what it shows of functions of the program: parts of the proof that the text of the row joins. -/
import Derived.Test.YtaklapjfnejlbaaGreatW2
import Derived.Test.YtaklapjfnejlbaaGreatE4
import Derived.KernelRfl
namespace Go.Proofs.YtaklapjfnejlbaaGreat
open Go.SE Go.RowKit
set_option maxRecDepth 100000
set_option maxHeartbeats 4000000
set_option linter.unusedVariables false
attribute [local irreducible] vc
def L.cy (l : L.Sq L.Pt) (a:Int) : L.Pt := l.g (L.ix l.n a)
theorem cy_nat {l : L.Sq L.Pt} {k : Nat} (h : k < l.n) : L.cy l (k:Int) = l.g k := by unfold L.cy; rw [ix_self h]
theorem cy_next {l : L.Sq L.Pt} {k : Nat} (h : k < l.n) : L.cy l ((k:Int) + 1) = l.g (L.next l.n k) := by unfold L.cy; rw [ix_next h]
theorem cy_congr {l : L.Sq L.Pt} {a b : Int} (hn : 0 < l.n) (h : a % (l.n:Int) = b % (l.n:Int)) (c:Int) : L.cy l (a + c) = L.cy l (b + c) := by unfold L.cy; rw [ix_congr hn h c]
theorem cy_ix {l : L.Sq L.Pt} (hn : 0 < l.n) (a c:Int) : L.cy l (((L.ix l.n a:Nat):Int) + c) = L.cy l (a + c) := by unfold L.cy; rw [ix_ix hn c]
def L.simpC (n:Nat) (f : Int -> L.Pt) : Prop := ∀ a b : Int, a % (n:Int) ≠ b % (n:Int) -> L.meet (f a) (f (a + 1)) (f b) (f (b + 1)) = (if (b - a) % (n:Int) = 1 \/ (a - b) % (n:Int) = 1 then 1 else 0)
theorem pair_cy {l : L.Sq L.Pt} {i k : Nat} (h1 : i < k) (h2 : k < l.n) : L.how l i k = L.meet (L.cy l i) (L.cy l (i + 1)) (L.cy l k) (L.cy l (k + 1)) /\ (L.nxt l i k = true ↔ ((k:Int) - i) % (l.n:Int) = 1 \/ ((i:Int) - k) % (l.n:Int) = 1) := by
 constructor
 · unfold L.how
   have e : L.cy l ((i:Int) + 1) = l.g (i + 1) := by
     have := cy_nat (l := l) (k := i + 1) (by omega)
     rw [<- this]; congr 1
   rw [cy_nat (l := l) (k := i) (by omega), e, cy_nat h2, cy_next h2]
 · unfold L.nxt
   rw [bor, Bool.or_eq_true, band, Bool.and_eq_true, decide_eq_true_eq, decide_eq_true_eq, decide_eq_true_eq]
   have m1 : ((k:Int) - i) % (l.n:Int) = (k:Int) - i := Int.emod_eq_of_lt (by omega) (by omega)
   have m2 : ((i:Int) - k) % (l.n:Int) = (i:Int) - k + l.n := by
     rw [<- Int.add_emod_right, Int.emod_eq_of_lt (by omega) (by omega)]
   rw [m1, m2]
   omega
theorem simpC_of {l : L.Sq L.Pt} (hn : 0 < l.n) (h : L.simple l = true) : L.simpC l.n (L.cy l) := by
 have hp : ∀ i k, i < k -> k < l.n -> L.okPair l i k = true := fun i k h1 h2 => by
   unfold L.simple at h
   have := allB_iff.1 (allB_iff.1 h i (by omega)) k h2
   rw [decide_eq_true h1] at this
   exact this
 have key : ∀ i k : Nat, i < k -> k < l.n -> L.meet (L.cy l i) (L.cy l (i + 1)) (L.cy l k) (L.cy l (k + 1)) = (if ((k:Int) - i) % (l.n:Int) = 1 \/ ((i:Int) - k) % (l.n:Int) = 1 then 1 else 0) := fun i k h1 h2 => by
   obtain ⟨e1, e2⟩ := pair_cy (l := l) h1 h2
   have := hp i k h1 h2
   unfold L.okPair at this
   rw [<- e1]
   cases hx : L.nxt l i k with
   | true => rw [hx] at this; rw [if_pos (e2.1 hx)]; exact of_decide_eq_true this
   | false =>
     rw [hx] at this
     rw [if_neg (fun h => by rw [e2.2 h] at hx; cases hx)]
     exact of_decide_eq_true this
 intro a b hab
 have ha := ix_emod (a := a) hn
 have hb := ix_emod (a := b) hn
 have la := ix_lt (n := l.n) (i := a) hn
 have lb := ix_lt (n := l.n) (i := b) hn
 have m : ∀ x y : Int, (((L.ix l.n x:Nat):Int) - ((L.ix l.n y:Nat):Int)) % (l.n:Int) = (x - y) % (l.n:Int) := fun x y => by
   rw [ix_emod hn, ix_emod hn, <- Int.sub_emod]
 have c0 : ∀ x : Int, L.cy l ((L.ix l.n x:Nat):Int) = L.cy l x := fun x => by
   have := cy_ix hn x 0
   rwa [Int.add_zero, Int.add_zero] at this
 rcases Nat.lt_trichotomy (L.ix l.n a) (L.ix l.n b) with h1 | h1 | h1
 · have := key _ _ h1 lb
   rw [c0, c0, cy_ix hn, cy_ix hn, m, m] at this
   exact this
 · exact absurd (by rw [<- ha, <- hb, h1]) hab
 · have := key _ _ h1 la
   rw [c0, c0, cy_ix hn, cy_ix hn, m, m, meet_swap] at this
   rw [this]
   by_cases c : (a - b) % (l.n:Int) = 1 \/ (b - a) % (l.n:Int) = 1
   · rw [if_pos c, if_pos c.symm]
   · rw [if_neg c, if_neg (fun h => c h.symm)]
theorem simple_of {l : L.Sq L.Pt} (h : L.simpC l.n (L.cy l)) : L.simple l = true := by
 unfold L.simple
 refine allB_iff.2 (fun i hi => allB_iff.2 (fun k hk => ?_))
 by_cases hik : i < k
 · obtain ⟨e1, e2⟩ := pair_cy (l := l) hik hk
   have := h i k (by rw [Int.emod_eq_of_lt (by omega) (by omega), Int.emod_eq_of_lt (by omega) (by omega)]; omega)
   rw [<- e1] at this
   rw [decide_eq_true hik]
   unfold L.okPair
   cases hx : L.nxt l i k with
   | true => rw [if_pos (e2.1 hx)] at this; exact decide_eq_true this
   | false =>
     rw [if_neg (fun h => by rw [e2.2 h] at hx; cases hx)] at this
     exact decide_eq_true this
 · rw [decide_eq_false hik]; rfl
theorem emod_eq_of {n a b : Int} (h : (b - a) % n = 1 % n) : b % n = (a + 1) % n := by
 have := Int.emod_emod_of_dvd (b - a) (Int.dvd_refl n)
 have e : b = (b - a) + a := by omega
 rw [e, Int.add_emod, h, <- Int.add_emod, Int.add_comm]
def L.tm (p q : L.Pt) : Int := p.x * q.y - q.x * p.y
def L.sm (f : Int -> Int) : Nat -> Int
 | 0 => 0
 | k + 1 => L.sm f k + f (k:Int)
def L.ct (l : L.Sq L.Pt) (i:Int) : Int := L.tm (L.cy l i) (L.cy l (i + 1))
theorem area_sm {l : L.Sq L.Pt} : ∀ {k : Nat}, k <= l.n -> L.areaTo l k = L.sm (L.ct l) k
 | 0, _ => rfl
 | k + 1, h => by
   rw [L.areaTo, L.sm, area_sm (k := k) (by omega)]
   unfold L.ct L.tm
   rw [cy_nat (by omega), cy_next (by omega)]
namespace PArea
theorem beta_pos {α β lo hi : Int} (h1 : α + β * lo < 0) (h2 : 0 < α + β * hi) (h : lo <= hi) : 0 < β := by
 rcases Int.lt_or_le 0 β with hb | hb
 · exact hb
 · have := Int.mul_nonneg_of_nonpos_of_nonpos hb (show lo - hi <= 0 by omega)
   rw [Int.mul_sub] at this
   omega
theorem up_le {β u v : Int} (hb : 0 <= β) (h : u <= v) : β * u <= β * v := Int.mul_le_mul_of_nonneg_left h hb
theorem dn_le {β u v : Int} (hb : β <= 0) (h : u <= v) : β * v <= β * u := by
 have := Int.mul_nonneg_of_nonpos_of_nonpos hb (show u - v <= 0 by omega)
 rw [Int.mul_sub] at this
 omega
theorem aff_pos {α β lo hi j : Int} (h1 : 0 < α + β * lo) (h2 : 0 < α + β * hi) (hl : lo <= j) (hh : j <= hi) : 0 < α + β * j := by
 rcases Int.le_total 0 β with hb | hb
 · have := up_le hb hl; omega
 · have := dn_le hb hh; omega
theorem aff_neg {α β lo hi j : Int} (h1 : α + β * lo < 0) (h2 : α + β * hi < 0) (hl : lo <= j) (hh : j <= hi) : α + β * j < 0 := by
 rcases Int.le_total 0 β with hb | hb
 · have := up_le hb hh; omega
 · have := dn_le hb hl; omega
theorem sgn_lt {k D u v p q : Int} (hk : k ≠ 0) (hD : 0 < D) (h1 : k * u = D * p) (h2 : k * v = D * q) (h : u * v < 0) : p * q < 0 := by
 have hkk : 0 < k * k := by
   rcases Int.lt_or_lt_of_ne hk with h | h
   · exact Int.mul_pos_of_neg_of_neg h h
   · exact Int.mul_pos h h
 have e : k * k * (u * v) = D * D * (p * q) := by
   have : k * k * (u * v) = (k * u) * (k * v) := by grind
   rw [this, h1, h2]; grind
 rcases Int.lt_or_le (p * q) 0 with hq | hq
 · exact hq
 · have h3 : k * k * (u * v) < 0 := Int.mul_neg_of_pos_of_neg hkk h
   have h4 : 0 <= D * D * (p * q) := Int.mul_nonneg (Int.mul_nonneg (by omega) (by omega)) hq
   omega
def cr (x y : Int -> Int) (a c:Int) : Int := (x (a + 1) - x a) * (y c - y a) - (y (a + 1) - y a) * (x c - x a)
def far (n:Nat) (a b:Int) : Prop := a % (n:Int) ≠ b % (n:Int) /\ a % (n:Int) ≠ (b + 1) % (n:Int) /\ (a + 1) % (n:Int) ≠ b % (n:Int)
def within (y : Int -> Int) (a c:Int) : Prop := min (y a) (y (a + 1)) <= y c /\ y c <= max (y a) (y (a + 1))
structure Poly (n:Nat) (x y m : Int -> Int) (D:Int) : Prop where
 hn : 3 <= n
 px : ∀ a b : Int, a % (n:Int) = b % (n:Int) -> x a = x b
 py : ∀ a b : Int, a % (n:Int) = b % (n:Int) -> y a = y b
 pm : ∀ a b : Int, a % (n:Int) = b % (n:Int) -> m a = m b
 hD : 0 < D
 hm : ∀ a, m a * (y (a + 1) - y a) = D * (x (a + 1) - x a)
 hy : ∀ a b : Int, a % (n:Int) ≠ b % (n:Int) -> y a ≠ y b
 on : ∀ a b : Int, far n a b -> ∀ c, (c = b \/ c = b + 1) -> within y a c -> cr x y a c ≠ 0
 no : ∀ a b : Int, far n a b -> ¬ (cr x y a b * cr x y a (b + 1) < 0 /\ cr x y b a * cr x y b (a + 1) < 0)
 co : ∀ a : Int, cr x y a (a + 2) = 0 -> (y a < y (a + 1) /\ y (a + 1) < y (a + 2)) \/ (y (a + 2) < y (a + 1) /\ y (a + 1) < y a)
def X (x y m : Int -> Int) (D a Y:Int) : Int := D * x a + m a * (Y - y a)
def act (y : Int -> Int) (a j:Int) : Prop := (y a <= j /\ j < y (a + 1)) \/ (y (a + 1) <= j /\ j < y a)
theorem far_comm {n : Nat} {a b : Int} (h : far n a b) : far n b a := ⟨fun e => h.1 e.symm, fun e => h.2.2 e.symm, fun e => h.2.1 e.symm⟩
section
variable {n : Nat} {x y m : Int -> Int} {D : Int}
theorem X_lo (a:Int) : X x y m D a (y a) = D * x a := by unfold X; rw [Int.sub_self, Int.mul_zero, Int.add_zero]
theorem X_hi (P : Poly n x y m D) (a:Int) : X x y m D a (y (a + 1)) = D * x (a + 1) := by
 unfold X; rw [P.hm, Int.mul_sub]; omega
theorem R1 (P : Poly n x y m D) (a c:Int) : (y (a + 1) - y a) * (X x y m D a (y c) - D * x c) = D * cr x y a c := by
 have := P.hm a
 unfold X cr
 grind
theorem next_ne (hn : 3 <= n) (a:Int) : a % (n:Int) ≠ (a + 1) % (n:Int) := by
 intro e
 have h1 : ((a + 1) - a) % (n:Int) = 0 := by rw [Int.sub_emod, e, Int.sub_self, Int.zero_emod]
 rw [show a + 1 - a = 1 by omega, Int.emod_eq_of_lt (by omega) (by omega)] at h1
 omega
theorem dy_ne (P : Poly n x y m D) (a:Int) : y (a + 1) - y a ≠ 0 := by
 have := P.hy _ _ (next_ne P.hn a); omega
theorem X_sub (a b Y:Int) : X x y m D a Y - X x y m D b Y = (D * x a - m a * y a - (D * x b - m b * y b)) + (m a - m b) * Y := by
 unfold X; grind
theorem end_ne (P : Poly n x y m D) {a b c : Int} (h : far n a b) (hc : c = b \/ c = b + 1) (hw : within y a c) : X x y m D a (y c) - X x y m D b (y c) ≠ 0 := by
 have hb : X x y m D b (y c) = D * x c := by
   rcases hc with rfl | rfl
   · exact X_lo _
   · exact X_hi P _
 rw [hb]
 intro e
 have := R1 P a c
 rw [e, Int.mul_zero] at this
 rcases Int.mul_eq_zero.1 this.symm with h1 | h1
 · have := P.hD; omega
 · exact P.on a b h c hc hw h1
theorem cross_lt (P : Poly n x y m D) {a b : Int} (h : (X x y m D a (y b) - X x y m D b (y b)) * (X x y m D a (y (b + 1)) - X x y m D b (y (b + 1))) < 0) : cr x y a b * cr x y a (b + 1) < 0 := by
 rw [X_lo, X_hi P] at h
 exact sgn_lt (dy_ne P a) P.hD (R1 P a b) (R1 P a (b + 1)) h
theorem mul_lt_of {u v : Int} (h : (u < 0 /\ 0 < v) \/ (0 < u /\ v < 0)) : u * v < 0 := by
 rcases h with ⟨h1, h2⟩ | ⟨h1, h2⟩
 · exact Int.mul_neg_of_neg_of_pos h1 h2
 · exact Int.mul_neg_of_pos_of_neg h1 h2
theorem no_cross (P : Poly n x y m D) {a b lo hi : Int} (h : far n a b) (h1 : X x y m D a lo - X x y m D b lo < 0) (h2 : 0 < X x y m D a hi - X x y m D b hi) (hlh : lo <= hi)
   (la : min (y a) (y (a + 1)) <= lo) (lb : min (y b) (y (b + 1)) <= lo) (ua : hi <= max (y a) (y (a + 1))) (ub : hi <= max (y b) (y (b + 1))) : False := by
 rw [X_sub] at h1 h2
 have hb := beta_pos h1 h2 hlh
 have low : ∀ u, u <= lo -> X x y m D a u - X x y m D b u < 0 := fun u hu => by
   rw [X_sub]; have := up_le (Int.le_of_lt hb) hu; omega
 have high : ∀ u, hi <= u -> 0 < X x y m D a u - X x y m D b u := fun u hu => by
   rw [X_sub]; have := up_le (Int.le_of_lt hb) hu; omega
 refine P.no a b h ⟨cross_lt P (mul_lt_of ?_), cross_lt P (mul_lt_of ?_)⟩
 · rcases Int.le_total (y b) (y (b + 1)) with q | q
   · exact .inl ⟨low _ (by omega), high _ (by omega)⟩
   · exact .inr ⟨high _ (by omega), low _ (by omega)⟩
 · rcases Int.le_total (y a) (y (a + 1)) with q | q
   · have := low (y a) (by omega); have := high (y (a + 1)) (by omega)
     exact .inr ⟨by omega, by omega⟩
   · have := low (y (a + 1)) (by omega); have := high (y a) (by omega)
     exact .inl ⟨by omega, by omega⟩
theorem nc_far (P : Poly n x y m D) {a b j : Int} (h : far n a b) (ha : act y a j) (hb : act y b j) :
   (0 < X x y m D a j - X x y m D b j /\ 0 < X x y m D a (j + 1) - X x y m D b (j + 1)) \/ (X x y m D a j - X x y m D b j < 0 /\ X x y m D a (j + 1) - X x y m D b (j + 1) < 0) := by
 have e1 := fun c hc hw => end_ne P (c := c) h hc hw
 have e2 := fun c hc hw => end_ne P (c := c) (far_comm h) hc hw
 obtain ⟨lo, hlo, la, lb, nlo⟩ : ∃ lo, lo <= j /\ min (y a) (y (a + 1)) <= lo /\ min (y b) (y (b + 1)) <= lo /\ X x y m D a lo - X x y m D b lo ≠ 0 := by
   unfold act at ha hb
   rcases Int.le_total (min (y a) (y (a + 1))) (min (y b) (y (b + 1))) with q | q
   · rcases Int.le_total (y b) (y (b + 1)) with r | r
     · exact ⟨y b, by omega, by omega, by omega, e1 b (.inl rfl) ⟨by omega, by omega⟩⟩
     · exact ⟨y (b + 1), by omega, by omega, by omega, e1 (b + 1) (.inr rfl) ⟨by omega, by omega⟩⟩
   · rcases Int.le_total (y a) (y (a + 1)) with r | r
     · exact ⟨y a, by omega, by omega, by omega, fun e => e2 a (.inl rfl) ⟨by omega, by omega⟩ (by omega)⟩
     · exact ⟨y (a + 1), by omega, by omega, by omega, fun e => e2 (a + 1) (.inr rfl) ⟨by omega, by omega⟩ (by omega)⟩
 obtain ⟨hi, hhi, ua, ub, nhi⟩ : ∃ hi, j + 1 <= hi /\ hi <= max (y a) (y (a + 1)) /\ hi <= max (y b) (y (b + 1)) /\ X x y m D a hi - X x y m D b hi ≠ 0 := by
   unfold act at ha hb
   rcases Int.le_total (max (y b) (y (b + 1))) (max (y a) (y (a + 1))) with q | q
   · rcases Int.le_total (y b) (y (b + 1)) with r | r
     · exact ⟨y (b + 1), by omega, by omega, by omega, e1 (b + 1) (.inr rfl) ⟨by omega, by omega⟩⟩
     · exact ⟨y b, by omega, by omega, by omega, e1 b (.inl rfl) ⟨by omega, by omega⟩⟩
   · rcases Int.le_total (y a) (y (a + 1)) with r | r
     · exact ⟨y (a + 1), by omega, by omega, by omega, fun e => e2 (a + 1) (.inr rfl) ⟨by omega, by omega⟩ (by omega)⟩
     · exact ⟨y a, by omega, by omega, by omega, fun e => e2 a (.inl rfl) ⟨by omega, by omega⟩ (by omega)⟩
 rcases Int.lt_or_lt_of_ne nlo with s1 | s1 <;> rcases Int.lt_or_lt_of_ne nhi with s2 | s2
 · rw [X_sub] at s1 s2
   rw [X_sub, X_sub]
   exact .inr ⟨aff_neg s1 s2 (by omega) (by omega), aff_neg s1 s2 (by omega) (by omega)⟩
 · exact (no_cross P h s1 s2 (by omega) la lb ua ub).elim
 · exact (no_cross P (far_comm h) (lo := lo) (hi := hi) (by omega) (by omega) (by omega) lb la ub ua).elim
 · rw [X_sub] at s1 s2
   rw [X_sub, X_sub]
   exact .inl ⟨aff_pos s1 s2 (by omega) (by omega), aff_pos s1 s2 (by omega) (by omega)⟩
theorem nc_next (P : Poly n x y m D) {a j : Int} (ha : act y a j) (hb : act y (a + 1) j) :
   (0 <= X x y m D a j - X x y m D (a + 1) j /\ 0 <= X x y m D a (j + 1) - X x y m D (a + 1) (j + 1) \/ X x y m D a j - X x y m D (a + 1) j <= 0 /\ X x y m D a (j + 1) - X x y m D (a + 1) (j + 1) <= 0) /\
   (X x y m D a j - X x y m D (a + 1) j = 0 ↔ y (a + 1) = j) /\ (X x y m D a (j + 1) - X x y m D (a + 1) (j + 1) = 0 ↔ y (a + 1) = j + 1) := by
 have z : X x y m D a (y (a + 1)) - X x y m D (a + 1) (y (a + 1)) = 0 := by rw [X_hi P, X_lo]; omega
 have nz : X x y m D a (y (a + 2)) - X x y m D (a + 1) (y (a + 2)) ≠ 0 := by
   have e := X_hi P (a + 1)
   rw [show a + 1 + 1 = a + 2 by omega] at e
   rw [e]
   intro e0
   have := R1 P a (a + 2)
   rw [e0, Int.mul_zero] at this
   rcases Int.mul_eq_zero.1 this.symm with h1 | h1
   · have := P.hD; omega
   · have h2 := P.co a h1
     unfold act at ha hb
     rw [show a + 1 + 1 = a + 2 by omega] at hb
     omega
 rw [X_sub] at z nz
 rw [X_sub, X_sub]
 generalize (D * x a - m a * y a - (D * x (a + 1) - m (a + 1) * y (a + 1))) = α at *
 generalize m a - m (a + 1) = β at *
 have h : ∀ Y, α + β * Y = β * (Y - y (a + 1)) := fun Y => by rw [Int.mul_sub]; omega
 have hβ : β ≠ 0 := fun e => nz (by rw [h, e, Int.zero_mul])
 rw [h, h]
 refine ⟨?_, ?_, ?_⟩
 · rcases Int.le_total 0 β with q | q
   · rcases Int.lt_or_le j (y (a + 1)) with r | r
     rotate_left
     · exact .inl ⟨Int.mul_nonneg q (by omega), Int.mul_nonneg q (by omega)⟩
     · exact .inr ⟨Int.mul_nonpos_of_nonneg_of_nonpos q (by omega), Int.mul_nonpos_of_nonneg_of_nonpos q (by omega)⟩
   · rcases Int.lt_or_le j (y (a + 1)) with r | r
     rotate_left
     · exact .inr ⟨Int.mul_nonpos_of_nonpos_of_nonneg q (by omega), Int.mul_nonpos_of_nonpos_of_nonneg q (by omega)⟩
     · exact .inl ⟨Int.mul_nonneg_of_nonpos_of_nonpos q (by omega), Int.mul_nonneg_of_nonpos_of_nonpos q (by omega)⟩
 · rw [Int.mul_eq_zero]; omega
 · rw [Int.mul_eq_zero]; omega
end
end PArea
namespace PArea
def sm (f : Int -> Int) : Nat -> Int
 | 0 => 0
 | k + 1 => sm f k + f (k:Int)
theorem sm_cong {f g : Int -> Int} : ∀ {k : Nat}, (∀ i : Nat, i < k -> f (i:Int) = g (i:Int)) -> sm f k = sm g k
 | 0, _ => rfl
 | k + 1, h => by rw [sm, sm, sm_cong (fun i hi => h i (by omega)), h k (by omega)]
theorem sm_zero : ∀ k, sm (fun _ => 0) k = 0
 | 0 => rfl
 | k + 1 => by rw [sm, sm_zero k]; rfl
theorem sm_sub {f g : Int -> Int} : ∀ k, sm (fun i => f i - g i) k = sm f k - sm g k
 | 0 => rfl
 | k + 1 => by rw [sm, sm, sm, sm_sub k]; omega
theorem sm_tele {g : Int -> Int} : ∀ k : Nat, sm (fun i => g (i + 1) - g i) k = g (k:Int) - g 0
 | 0 => by show 0 = g 0 - g 0; omega
 | k + 1 => by
   rw [sm, sm_tele k, show ((k + 1:Nat):Int) = (k:Int) + 1 by omega]; omega
theorem sm_left {f : Int -> Int} : ∀ k, sm f (k + 1) = f 0 + sm (fun i => f (i + 1)) k
 | 0 => by show 0 + f 0 = f 0 + 0; omega
 | k + 1 => by
   rw [sm, sm_left k]
   show f 0 + sm (fun i => f (i + 1)) k + f ((k + 1:Nat):Int) = f 0 + (sm (fun i => f (i + 1)) k + f ((k:Int) + 1))
   rw [show ((k + 1:Nat):Int) = (k:Int) + 1 by omega]
   omega
def per (n:Nat) (f : Int -> Int) : Prop := ∀ a b : Int, a % (n:Int) = b % (n:Int) -> f a = f b
theorem per_tele {n : Nat} {g : Int -> Int} (h : per n g) : sm (fun i => g (i + 1) - g i) n = 0 := by
 rw [sm_tele, h (n:Int) 0 (by rw [Int.emod_self, Int.zero_emod])]; omega
theorem sm_shift1 {n : Nat} {f : Int -> Int} (h : per n f) : sm (fun i => f (i + 1)) n = sm f n := by
 have := sm_sub (f := fun i => f (i + 1)) (g := f) n
 rw [per_tele h] at this
 omega
theorem sm_shift {n : Nat} : ∀ (c:Nat) {f : Int -> Int}, per n f -> sm (fun i => f (i + c)) n = sm f n
 | 0, f, _ => sm_cong (fun i _ => by rw [show (i:Int) + ((0:Nat):Int) = i by omega])
 | c + 1, f, h => by
   have e : sm (fun i => f (i + ((c + 1:Nat):Int))) n = sm (fun i => (fun j => f (j + c)) (i + 1)) n := sm_cong (fun i _ => by
     show f ((i:Int) + ((c + 1:Nat):Int)) = f ((i:Int) + 1 + (c:Int))
     rw [show (i:Int) + ((c + 1:Nat):Int) = (i:Int) + 1 + (c:Int) by omega])
   rw [e, sm_shift1 (f := fun j => f (j + c)) (fun a b hab => h _ _ (by rw [Int.add_emod, hab, <- Int.add_emod])), sm_shift c h]
theorem sm_one {n : Nat} (hn : 0 < n) {f g : Int -> Int} (hf : per n f) (hg : per n g) (c:Int) (h : ∀ b : Int, b % (n:Int) ≠ c % (n:Int) -> f b = g b) : sm f n - sm g n = f c - g c := by
 have h0 := Int.emod_nonneg c (show (n:Int) ≠ 0 by omega)
 rw [<- sm_sub]
 have hp : per n (fun i => f i - g i) := fun a b hab => by show f a - g a = f b - g b; rw [hf a b hab, hg a b hab]
 rw [<- sm_shift (c % (n:Int)).toNat hp]
 have e0 : ((c % (n:Int)).toNat:Int) = c % (n:Int) := Int.toNat_of_nonneg h0
 rw [e0]
 obtain ⟨k, rfl⟩ : ∃ k, n = k + 1 := ⟨n - 1, by omega⟩
 rw [sm_left]
 have z : sm (fun i => f (i + 1 + c % ((k + 1:Nat):Int)) - g (i + 1 + c % ((k + 1:Nat):Int))) k = sm (fun _ => 0) k := sm_cong (fun i hi => by
   have : f ((i:Int) + 1 + c % ((k + 1:Nat):Int)) = g ((i:Int) + 1 + c % ((k + 1:Nat):Int)) := h _ (fun e => by
     have h1 : ((i:Int) + 1 + c % ((k + 1:Nat):Int) - c) % ((k + 1:Nat):Int) = 0 := by rw [Int.sub_emod, e, Int.sub_self, Int.zero_emod]
     rw [Int.sub_emod, Int.add_emod_emod, <- Int.sub_emod, show (i:Int) + 1 + c - c = (i:Int) + 1 by omega, Int.emod_eq_of_lt (by omega) (by omega)] at h1
     omega)
   show _ - _ = (0:Int)
   rw [this, Int.sub_self])
 have e2 : f (0 + c % ((k + 1:Nat):Int)) = f c := hf _ _ (by rw [Int.zero_add, Int.emod_emod])
 have e3 : g (0 + c % ((k + 1:Nat):Int)) = g c := hg _ _ (by rw [Int.zero_add, Int.emod_emod])
 show f (0 + c % ((k + 1:Nat):Int)) - g (0 + c % ((k + 1:Nat):Int)) + sm (fun i => f (i + 1 + c % ((k + 1:Nat):Int)) - g (i + 1 + c % ((k + 1:Nat):Int))) k = _
 rw [z, sm_zero, e2, e3]
 omega
def ind (p : Prop) [Decidable p] : Int := if p then 1 else 0
theorem ind_t {p : Prop} [Decidable p] (h : p) : ind p = 1 := if_pos h
theorem ind_f {p : Prop} [Decidable p] (h : ¬ p) : ind p = 0 := if_neg h
def q (y : Int -> Int) (j a:Int) : Int := ind (j < y (a + 1)) - ind (j < y a)
section
variable {n : Nat} {x y m : Int -> Int} {D : Int}
theorem succ_mod {a b : Int} (h : a % (n:Int) = b % (n:Int)) (c:Int) : (a + c) % (n:Int) = (b + c) % (n:Int) := by
 rw [Int.add_emod, h, <- Int.add_emod]
theorem X_per (P : Poly n x y m D) {a b : Int} (h : a % (n:Int) = b % (n:Int)) (Y:Int) : X x y m D a Y = X x y m D b Y := by
 unfold X; rw [P.px a b h, P.py a b h, P.pm a b h]
theorem y_per1 (P : Poly n x y m D) {a b : Int} (h : a % (n:Int) = b % (n:Int)) : y (a + 1) = y (b + 1) := P.py _ _ (succ_mod h 1)
theorem act_per (P : Poly n x y m D) {a b j : Int} (h : a % (n:Int) = b % (n:Int)) : act y a j ↔ act y b j := by
 unfold act; rw [P.py a b h, y_per1 P h]
theorem q_per (P : Poly n x y m D) (j:Int) : per n (q y j) := fun a b h => by unfold q; rw [P.py a b h, y_per1 P h]
theorem q_up {a j : Int} (h1 : y a <= j) (h2 : j < y (a + 1)) : q y j a = 1 := by unfold q; rw [ind_t h2, ind_f (by omega)]; rfl
theorem q_dn {a j : Int} (h1 : y (a + 1) <= j) (h2 : j < y a) : q y j a = -1 := by unfold q; rw [ind_t h2, ind_f (show ¬ j < y (a + 1) by omega)]; rfl
theorem q_no {a j : Int} (h : ¬ act y a j) : q y j a = 0 := by
 unfold act at h
 unfold q
 by_cases h1 : j < y a
 · rw [ind_t h1, ind_t (show j < y (a + 1) by omega)]; rfl
 · rw [ind_f h1, ind_f (show ¬ j < y (a + 1) by omega)]; rfl
theorem count_line (P : Poly n x y m D) (Y T:Int) : sm (fun b => q y Y b * ind (X x y m D b Y < T)) n = sm (fun b => q y (Y - 1) b * ind (X x y m D b Y < T)) n := by
 have hp : per n (fun k => ind (y k = Y) * ind (D * x k < T)) := fun a b h => by show ind (y a = Y) * _ = _; rw [P.py a b h, P.px a b h]
 have key : ∀ b : Int, q y Y b * ind (X x y m D b Y < T) - q y (Y - 1) b * ind (X x y m D b Y < T) = - (ind (y (b + 1) = Y) * ind (D * x (b + 1) < T) - ind (y b = Y) * ind (D * x b < T)) := fun b => by
   have hd := dy_ne P b
   unfold q
   by_cases h1 : y b = Y
   · have e : X x y m D b Y = D * x b := by rw [<- h1]; exact X_lo b
     rw [e, ind_t h1, ind_f (show ¬ y (b + 1) = Y by omega), ind_f (show ¬ Y < y b by omega), ind_t (show Y - 1 < y b by omega)]
     by_cases h2 : Y < y (b + 1)
     · rw [ind_t h2, ind_t (show Y - 1 < y (b + 1) by omega)]; omega
     · rw [ind_f h2, ind_f (show ¬ Y - 1 < y (b + 1) by omega)]; omega
   · by_cases h3 : y (b + 1) = Y
     · have e : X x y m D b Y = D * x (b + 1) := by rw [<- h3]; exact X_hi P b
       rw [e, ind_t h3, ind_f h1, ind_f (show ¬ Y < y (b + 1) by omega), ind_t (show Y - 1 < y (b + 1) by omega)]
       by_cases h2 : Y < y b
       · rw [ind_t h2, ind_t (show Y - 1 < y b by omega)]; omega
       · rw [ind_f h2, ind_f (show ¬ Y - 1 < y b by omega)]; omega
     · rw [ind_f h1, ind_f h3]
       have e1 : ind (Y < y (b + 1)) = ind (Y - 1 < y (b + 1)) := by
         by_cases h : Y < y (b + 1)
         · rw [ind_t h, ind_t (by omega)]
         · rw [ind_f h, ind_f (by omega)]
       have e2 : ind (Y < y b) = ind (Y - 1 < y b) := by
         by_cases h : Y < y b
         · rw [ind_t h, ind_t (by omega)]
         · rw [ind_f h, ind_f (by omega)]
       rw [e1, e2]; omega
 have h1 := sm_sub (f := fun b => q y Y b * ind (X x y m D b Y < T)) (g := fun b => q y (Y - 1) b * ind (X x y m D b Y < T)) n
 have h2 : sm (fun b => q y Y b * ind (X x y m D b Y < T) - q y (Y - 1) b * ind (X x y m D b Y < T)) n = sm (fun b => 0 - ((fun k => ind (y k = Y) * ind (D * x k < T)) (b + 1) - (fun k => ind (y k = Y) * ind (D * x k < T)) b)) n := sm_cong (fun i _ => by rw [key]; exact (Int.zero_sub _).symm)
 rw [h2] at h1
 have h3 := sm_sub (f := fun _ => 0) (g := fun b => (fun k => ind (y k = Y) * ind (D * x k < T)) (b + 1) - (fun k => ind (y k = Y) * ind (D * x k < T)) b) n
 rw [sm_zero, per_tele hp] at h3
 rw [h3] at h1
 omega
def V (x y m : Int -> Int) (D b j:Int) : Int := X x y m D b j + X x y m D b (j + 1)
theorem sep (P : Poly n x y m D) {a b j : Int} (ha : act y a j) (hb : act y b j) (hab : b % (n:Int) ≠ a % (n:Int)) :
   (0 <= X x y m D a j - X x y m D b j /\ 0 <= X x y m D a (j + 1) - X x y m D b (j + 1) \/ X x y m D a j - X x y m D b j <= 0 /\ X x y m D a (j + 1) - X x y m D b (j + 1) <= 0) /\
   ¬ (X x y m D a j - X x y m D b j = 0 /\ X x y m D a (j + 1) - X x y m D b (j + 1) = 0) /\
   (X x y m D a (j + 1) - X x y m D b (j + 1) = 0 -> (b % (n:Int) = (a + 1) % (n:Int) /\ y (a + 1) = j + 1) \/ ((b + 1) % (n:Int) = a % (n:Int) /\ y a = j + 1)) /\
   (X x y m D a j - X x y m D b j = 0 -> (b % (n:Int) = (a + 1) % (n:Int) /\ y (a + 1) = j) \/ ((b + 1) % (n:Int) = a % (n:Int) /\ y a = j)) := by
 by_cases h1 : b % (n:Int) = (a + 1) % (n:Int)
 · obtain ⟨q1, q2, q3⟩ := nc_next P (a := a) (j := j) ha ((act_per P h1).1 hb)
   rw [X_per P h1, X_per P h1]
   refine ⟨q1, fun e => ?_, fun e => .inl ⟨h1, q3.1 e⟩, fun e => .inl ⟨h1, q2.1 e⟩⟩
   have := q2.1 e.1; have := q3.1 e.2; omega
 · by_cases h2 : (b + 1) % (n:Int) = a % (n:Int)
   · obtain ⟨q1, q2, q3⟩ := nc_next P (a := b) (j := j) hb ((act_per P h2).2 ha)
     rw [X_per P h2, X_per P h2] at q1
     rw [X_per P h2] at q2
     rw [X_per P h2] at q3
     rw [P.py _ _ h2] at q2 q3
     refine ⟨by omega, fun e => ?_, fun e => .inr ⟨h2, q3.1 (by omega)⟩, fun e => .inr ⟨h2, q2.1 (by omega)⟩⟩
     have := q2.1 (by omega); have := q3.1 (by omega); omega
   · have := nc_far P (a := a) (b := b) (j := j) ⟨fun e => hab e.symm, fun e => h2 e.symm, fun e => h1 e.symm⟩ ha hb
     exact ⟨by omega, by omega, by omega, by omega⟩
def W (n:Nat) (x y m : Int -> Int) (D a j:Int) : Int := sm (fun b => q y j b * ind (V x y m D b j < V x y m D a j)) n
def WX (n:Nat) (x y m : Int -> Int) (D j Y T:Int) : Int := sm (fun b => q y j b * ind (X x y m D b Y < T)) n
theorem line (P : Poly n x y m D) (Y T:Int) : WX n x y m D Y Y T = WX n x y m D (Y - 1) Y T := count_line P Y T
theorem W_top (P : Poly n x y m D) {a j : Int} (ha : act y a j) (c:Int) (hc : ∀ b, act y b j -> b % (n:Int) ≠ a % (n:Int) -> X x y m D a (j + 1) - X x y m D b (j + 1) = 0 -> b % (n:Int) = c % (n:Int)) :
   W n x y m D a j - WX n x y m D j (j + 1) (X x y m D a (j + 1)) = q y j c * ind (V x y m D c j < V x y m D a j) - q y j c * ind (X x y m D c (j + 1) < X x y m D a (j + 1)) := by
 have hn := P.hn
 refine sm_one (f := fun b => q y j b * ind (V x y m D b j < V x y m D a j)) (g := fun b => q y j b * ind (X x y m D b (j + 1) < X x y m D a (j + 1))) (by omega) (fun s t h => ?_) (fun s t h => ?_) c fun b hb => ?_
 · show q y j s * ind (V x y m D s j < _) = _
   unfold V; rw [q_per P j s t h, X_per P h, X_per P h]
 · show q y j s * ind (X x y m D s (j + 1) < _) = _
   rw [q_per P j s t h, X_per P h]
 · show q y j b * ind (V x y m D b j < V x y m D a j) = q y j b * ind (X x y m D b (j + 1) < X x y m D a (j + 1))
   by_cases hba : b % (n:Int) = a % (n:Int)
   · unfold V
     rw [X_per P hba, X_per P hba, ind_f (by omega), ind_f (by omega)]
   · by_cases hb' : act y b j
     · obtain ⟨s1, s2, _, _⟩ := sep P ha hb' hba
       have : X x y m D a (j + 1) - X x y m D b (j + 1) ≠ 0 := fun e => hb (hc b hb' hba e)
       unfold V
       by_cases h : X x y m D b (j + 1) < X x y m D a (j + 1)
       · rw [ind_t h, ind_t (by omega)]
       · rw [ind_f h, ind_f (by omega)]
     · rw [q_no hb', Int.zero_mul, Int.zero_mul]
theorem W_bot (P : Poly n x y m D) {a j : Int} (ha : act y a j) (c:Int) (hc : ∀ b, act y b j -> b % (n:Int) ≠ a % (n:Int) -> X x y m D a j - X x y m D b j = 0 -> b % (n:Int) = c % (n:Int)) :
   W n x y m D a j - WX n x y m D j j (X x y m D a j) = q y j c * ind (V x y m D c j < V x y m D a j) - q y j c * ind (X x y m D c j < X x y m D a j) := by
 have hn := P.hn
 refine sm_one (f := fun b => q y j b * ind (V x y m D b j < V x y m D a j)) (g := fun b => q y j b * ind (X x y m D b j < X x y m D a j)) (by omega) (fun s t h => ?_) (fun s t h => ?_) c fun b hb => ?_
 · show q y j s * ind (V x y m D s j < _) = _
   unfold V; rw [q_per P j s t h, X_per P h, X_per P h]
 · show q y j s * ind (X x y m D s j < _) = _
   rw [q_per P j s t h, X_per P h]
 · show q y j b * ind (V x y m D b j < V x y m D a j) = q y j b * ind (X x y m D b j < X x y m D a j)
   by_cases hba : b % (n:Int) = a % (n:Int)
   · unfold V
     rw [X_per P hba, X_per P hba, ind_f (by omega), ind_f (by omega)]
   · by_cases hb' : act y b j
     · obtain ⟨s1, s2, _, _⟩ := sep P ha hb' hba
       have : X x y m D a j - X x y m D b j ≠ 0 := fun e => hb (hc b hb' hba e)
       unfold V
       by_cases h : X x y m D b j < X x y m D a j
       · rw [ind_t h, ind_t (by omega)]
       · rw [ind_f h, ind_f (by omega)]
     · rw [q_no hb', Int.zero_mul, Int.zero_mul]
end
end PArea
namespace PArea
section
variable {n : Nat} {x y m : Int -> Int} {D : Int}
def K (n:Nat) (x y m : Int -> Int) (D a j:Int) : Int := 2 * W n x y m D a j + q y j a
theorem pred_mod {a b c : Int} (h : (a + c) % (n:Int) = (b + c) % (n:Int)) : a % (n:Int) = b % (n:Int) := by
 have := succ_mod h (-c)
 rwa [show a + c + -c = a by omega, show b + c + -c = b by omega] at this
theorem W_topN (P : Poly n x y m D) {a j : Int} (ha : act y a j) (h1 : act y (a + 1) j -> y (a + 1) ≠ j + 1) (h2 : ∀ b, (b + 1) % (n:Int) = a % (n:Int) -> act y b j -> y a ≠ j + 1) :
   W n x y m D a j = WX n x y m D j (j + 1) (X x y m D a (j + 1)) := by
 have := W_top P ha a (fun b hb hba e => by
   rcases (sep P ha hb hba).2.2.1 e with ⟨q1, q2⟩ | ⟨q1, q2⟩
   · exact absurd q2 (h1 ((act_per P q1).1 hb))
   · exact absurd q2 (h2 b q1 hb))
 rw [ind_f (by omega), ind_f (by omega)] at this
 omega
theorem W_botN (P : Poly n x y m D) {a j : Int} (ha : act y a j) (h1 : act y (a + 1) j -> y (a + 1) ≠ j) (h2 : ∀ b, (b + 1) % (n:Int) = a % (n:Int) -> act y b j -> y a ≠ j) :
   W n x y m D a j = WX n x y m D j j (X x y m D a j) := by
 have := W_bot P ha a (fun b hb hba e => by
   rcases (sep P ha hb hba).2.2.2 e with ⟨q1, q2⟩ | ⟨q1, q2⟩
   · exact absurd q2 (h1 ((act_per P q1).1 hb))
   · exact absurd q2 (h2 b q1 hb))
 rw [ind_f (by omega), ind_f (by omega)] at this
 omega
theorem line1 (P : Poly n x y m D) (j T:Int) : WX n x y m D (j + 1) (j + 1) T = WX n x y m D j (j + 1) T := by
 have := line P (j + 1) T
 rwa [show j + 1 - 1 = j by omega] at this
theorem K_in (P : Poly n x y m D) {a j : Int} (h : act y a j) (h' : act y a (j + 1)) : K n x y m D a j = K n x y m D a (j + 1) := by
 have e1 := W_topN P h (fun _ => by unfold act at h h'; omega) (fun _ _ _ => by unfold act at h h'; omega)
 have e2 := W_botN P h' (fun _ => by unfold act at h h'; omega) (fun _ _ _ => by unfold act at h h'; omega)
 rw [line1 P] at e2
 have e3 : q y j a = q y (j + 1) a := by
   unfold act at h h'
   rcases Int.lt_or_le (y a) (y (a + 1)) with g | g
   · rw [q_up (by omega) (by omega), q_up (by omega) (by omega)]
   · rw [q_dn (by omega) (by omega), q_dn (by omega) (by omega)]
 unfold K
 rw [e1, e2, e3]
theorem X_end (P : Poly n x y m D) {a j : Int} (h : y (a + 1) = j) : X x y m D a j = D * x (a + 1) /\ X x y m D (a + 1) j = D * x (a + 1) := by
 rw [<- h]; exact ⟨X_hi P a, X_lo _⟩
theorem aa (a:Int) : a + 1 + 1 = a + 2 := by omega
theorem K_up (P : Poly n x y m D) {a j : Int} (hj : y (a + 1) = j + 1) (h1 : y a < y (a + 1)) (h2 : y (a + 1) < y (a + 2)) : K n x y m D a j = K n x y m D (a + 1) (j + 1) := by
 have A1 : act y a j := .inl ⟨by omega, by omega⟩
 have A2 : act y (a + 1) (j + 1) := .inl ⟨by omega, by rw [aa]; omega⟩
 have e1 := W_topN P A1 (fun h => by unfold act at h; rw [aa] at h; omega) (fun _ _ _ => by omega)
 have e2 := W_botN P A2 (fun _ => by rw [aa]; omega) (fun b hb hB => by
   have := (act_per P (pred_mod hb)).1 hB
   unfold act at this; omega)
 obtain ⟨x1, x2⟩ := X_end P hj
 rw [x1] at e1
 rw [x2, line1 P] at e2
 unfold K
 rw [e1, e2, q_up (by omega) (by omega), q_up (by omega) (by rw [aa]; omega)]
theorem K_dn (P : Poly n x y m D) {a j : Int} (hj : y (a + 1) = j + 1) (h1 : y (a + 1) < y a) (h2 : y (a + 2) < y (a + 1)) : K n x y m D a (j + 1) = K n x y m D (a + 1) j := by
 have A1 : act y a (j + 1) := .inr ⟨by omega, by omega⟩
 have A2 : act y (a + 1) j := .inr ⟨by rw [aa]; omega, by omega⟩
 have e1 := W_botN P A1 (fun h => by unfold act at h; rw [aa] at h; omega) (fun _ _ _ => by omega)
 have e2 := W_topN P A2 (fun _ => by rw [aa]; omega) (fun b hb hB => by
   have := (act_per P (pred_mod hb)).1 hB
   unfold act at this; omega)
 obtain ⟨x1, x2⟩ := X_end P hj
 rw [x1, line1 P] at e1
 rw [x2] at e2
 unfold K
 rw [e1, e2, q_dn (by omega) (by omega), q_dn (by rw [aa]; omega) (by omega)]
theorem V_ne (P : Poly n x y m D) {a b j : Int} (ha : act y a j) (hb : act y b j) (hab : b % (n:Int) ≠ a % (n:Int)) : V x y m D a j ≠ V x y m D b j := by
 obtain ⟨s1, s2, _, _⟩ := sep P ha hb hab
 unfold V; omega
theorem K_max (P : Poly n x y m D) {a j : Int} (hj : y (a + 1) = j + 1) (h1 : y a < y (a + 1)) (h2 : y (a + 2) < y (a + 1)) : K n x y m D a j = K n x y m D (a + 1) j := by
 have A1 : act y a j := .inl ⟨by omega, by omega⟩
 have A2 : act y (a + 1) j := .inr ⟨by rw [aa]; omega, by omega⟩
 have e1 := W_top P A1 (a + 1) (fun b hb hba e => by
   rcases (sep P A1 hb hba).2.2.1 e with ⟨q1, _⟩ | ⟨_, q2⟩
   · exact q1
   · omega)
 have e2 := W_top P A2 a (fun b hb hba e => by
   rcases (sep P A2 hb hba).2.2.1 e with ⟨_, q2⟩ | ⟨q1, _⟩
   · rw [aa] at q2; omega
   · exact pred_mod q1)
 obtain ⟨x1, x2⟩ := X_end P hj
 rw [x1, x2, q_dn (a := a + 1) (by rw [aa]; omega) (by omega), ind_f (show ¬ D * x (a + 1) < D * x (a + 1) by omega)] at e1
 rw [x1, x2, q_up (a := a) (by omega) (by omega), ind_f (show ¬ D * x (a + 1) < D * x (a + 1) by omega)] at e2
 have hV := V_ne P A1 A2 (fun e => next_ne P.hn a e.symm)
 unfold K
 rw [q_up (a := a) (by omega) (by omega), q_dn (a := a + 1) (by rw [aa]; omega) (by omega)]
 rcases Int.lt_or_lt_of_ne hV with g | g
 · rw [ind_f (by omega)] at e1
   rw [ind_t g] at e2
   omega
 · rw [ind_t g] at e1
   rw [ind_f (by omega)] at e2
   omega
theorem K_min (P : Poly n x y m D) {a j : Int} (hj : y (a + 1) = j) (h1 : y (a + 1) < y a) (h2 : y (a + 1) < y (a + 2)) : K n x y m D a j = K n x y m D (a + 1) j := by
 have A1 : act y a j := .inr ⟨by omega, by omega⟩
 have A2 : act y (a + 1) j := .inl ⟨by omega, by rw [aa]; omega⟩
 have e1 := W_bot P A1 (a + 1) (fun b hb hba e => by
   rcases (sep P A1 hb hba).2.2.2 e with ⟨q1, _⟩ | ⟨_, q2⟩
   · exact q1
   · omega)
 have e2 := W_bot P A2 a (fun b hb hba e => by
   rcases (sep P A2 hb hba).2.2.2 e with ⟨_, q2⟩ | ⟨q1, _⟩
   · rw [aa] at q2; omega
   · exact pred_mod q1)
 obtain ⟨x1, x2⟩ := X_end P hj
 rw [x1, x2, q_up (a := a + 1) (by omega) (by rw [aa]; omega), ind_f (show ¬ D * x (a + 1) < D * x (a + 1) by omega)] at e1
 rw [x1, x2, q_dn (a := a) (by omega) (by omega), ind_f (show ¬ D * x (a + 1) < D * x (a + 1) by omega)] at e2
 have hV := V_ne P A1 A2 (fun e => next_ne P.hn a e.symm)
 unfold K
 rw [q_dn (a := a) (by omega) (by omega), q_up (a := a + 1) (by omega) (by rw [aa]; omega)]
 rcases Int.lt_or_lt_of_ne hV with g | g
 · rw [ind_f (by omega)] at e1
   rw [ind_t g] at e2
   omega
 · rw [ind_t g] at e1
   rw [ind_f (by omega)] at e2
   omega
theorem K_add (P : Poly n x y m D) {a j : Int} : ∀ d : Nat, act y a j -> act y a (j + d) -> K n x y m D a j = K n x y m D a (j + d)
 | 0, _, _ => by rw [show j + ((0:Nat):Int) = j by omega]
 | d + 1, h, h' => by
   have hm : act y a (j + d) := by unfold act at *; omega
   rw [K_add P d h hm]
   rw [show j + ((d + 1:Nat):Int) = j + d + 1 by omega] at h' ⊢
   exact K_in P hm h'
theorem K_edge (P : Poly n x y m D) {a j j' : Int} (h : act y a j) (h' : act y a j') : K n x y m D a j = K n x y m D a j' := by
 rcases Int.le_total j j' with g | g
 · have := K_add P (j' - j).toNat h (by rwa [show j + ((j' - j).toNat:Int) = j' by omega])
   rwa [show j + ((j' - j).toNat:Int) = j' by omega] at this
 · have := K_add P (j - j').toNat h' (by rwa [show j' + ((j - j').toNat:Int) = j by omega])
   rw [show j' + ((j - j').toNat:Int) = j by omega] at this
   exact this.symm
theorem K_vert (P : Poly n x y m D) {a j j' : Int} (h : act y a j) (h' : act y (a + 1) j') : K n x y m D a j = K n x y m D (a + 1) j' := by
 have d1 := dy_ne P a
 have d2 := dy_ne P (a + 1)
 rw [aa] at d2
 have hj : y (a + 1) = (y (a + 1) - 1) + 1 := by omega
 rcases Int.lt_or_le (y a) (y (a + 1)) with g | g <;> rcases Int.lt_or_le (y (a + 1)) (y (a + 2)) with g' | g'
 · rw [K_edge P h (j' := y (a + 1) - 1) (.inl ⟨by omega, by omega⟩), K_edge P h' (j' := y (a + 1) - 1 + 1) (.inl ⟨by omega, by rw [aa]; omega⟩)]
   exact K_up P hj g g'
 · rw [K_edge P h (j' := y (a + 1) - 1) (.inl ⟨by omega, by omega⟩), K_edge P h' (j' := y (a + 1) - 1) (.inr ⟨by rw [aa]; omega, by omega⟩)]
   exact K_max P hj g (by omega)
 · rw [K_edge P h (j' := y (a + 1)) (.inr ⟨by omega, by omega⟩), K_edge P h' (j' := y (a + 1)) (.inl ⟨by omega, by rw [aa]; omega⟩)]
   exact K_min P rfl (by omega) g'
 · rw [K_edge P h (j' := y (a + 1) - 1 + 1) (.inr ⟨by omega, by omega⟩), K_edge P h' (j' := y (a + 1) - 1) (.inr ⟨by rw [aa]; omega, by omega⟩)]
   exact K_dn P hj (by omega) (by omega)
theorem act_some (P : Poly n x y m D) (a:Int) : act y a (min (y a) (y (a + 1))) := by
 have := dy_ne P a
 unfold act; omega
theorem K_go (P : Poly n x y m D) {a j : Int} (h : act y a j) : ∀ (d:Nat) {j' : Int}, act y (a + d) j' -> K n x y m D a j = K n x y m D (a + d) j'
 | 0, j', h' => by rw [show a + ((0:Nat):Int) = a by omega] at h' ⊢; exact K_edge P h h'
 | d + 1, j', h' => by
   rw [K_go P h d (act_some P (a + d))]
   rw [show a + ((d + 1:Nat):Int) = a + d + 1 by omega] at h' ⊢
   exact K_vert P (act_some P (a + d)) h'
theorem V_per (P : Poly n x y m D) {a b : Int} (h : a % (n:Int) = b % (n:Int)) (j:Int) : V x y m D a j = V x y m D b j := by
 unfold V; rw [X_per P h, X_per P h]
theorem K_per (P : Poly n x y m D) {a b j : Int} (h : a % (n:Int) = b % (n:Int)) : K n x y m D a j = K n x y m D b j := by
 unfold K W
 rw [V_per P h, q_per P j a b h]
theorem K_all (P : Poly n x y m D) : ∃ κ, ∀ a j, act y a j -> K n x y m D a j = κ := by
 refine ⟨K n x y m D 0 (min (y 0) (y (0 + 1))), fun a j h => ?_⟩
 have hn := P.hn
 have h0 := Int.emod_nonneg a (show (n:Int) ≠ 0 by omega)
 have e : a % (n:Int) = (0 + ((a % (n:Int)).toNat:Int)) % (n:Int) := by
   rw [Int.toNat_of_nonneg h0, Int.zero_add, Int.emod_emod]
 rw [K_per P e]
 exact (K_go P (act_some P 0) _ ((act_per P e).1 h)).symm
end
end PArea
namespace PArea
theorem sm_add {f g : Int -> Int} : ∀ k, sm (fun i => f i + g i) k = sm f k + sm g k
 | 0 => rfl
 | k + 1 => by rw [sm, sm, sm, sm_add k]; omega
theorem sm_mul {f : Int -> Int} (c:Int) : ∀ k, sm (fun i => c * f i) k = c * sm f k
 | 0 => by show 0 = c * 0; omega
 | k + 1 => by rw [sm, sm, sm_mul c k, Int.mul_add]
theorem exists_min {p : Nat -> Prop} {v : Nat -> Int} : ∀ {n : Nat}, (∃ k, k < n /\ p k) -> ∃ k, k < n /\ p k /\ ∀ i, i < n -> p i -> v k <= v i
 | 0, ⟨_, h, _⟩ => absurd h (Nat.not_lt_zero _)
 | n + 1, ⟨k, hk, hp⟩ => by
   by_cases h : ∃ k, k < n /\ p k
   · obtain ⟨i, h1, h2, h3⟩ := exists_min (v := v) h
     by_cases hn : p n /\ v n < v i
     · refine ⟨n, Nat.lt_succ_self n, hn.1, fun t ht hpt => ?_⟩
       rcases Nat.lt_succ_iff_lt_or_eq.1 ht with g | rfl
       · have := h3 t g hpt; omega
       · exact Int.le_refl _
     · refine ⟨i, by omega, h2, fun t ht hpt => ?_⟩
       rcases Nat.lt_succ_iff_lt_or_eq.1 ht with g | rfl
       · exact h3 t g hpt
       · have : ¬ v t < v i := fun g => hn ⟨hpt, g⟩
         omega
   · have e : k = n := by
       rcases Nat.lt_succ_iff_lt_or_eq.1 hk with g | g
       · exact absurd ⟨k, g, hp⟩ h
       · exact g
     subst e
     refine ⟨k, hk, hp, fun t ht hpt => ?_⟩
     rcases Nat.lt_succ_iff_lt_or_eq.1 ht with g | rfl
     · exact absurd ⟨t, g, hpt⟩ h
     · exact Int.le_refl _
section
variable {n : Nat} {x y m : Int -> Int} {D : Int}
theorem min_all (P : Poly n x y m D) {j : Int} (p : Int -> Prop) (hp : ∀ a b : Int, a % (n:Int) = b % (n:Int) -> (p a ↔ p b)) (s:Int) (h : ∃ a, act y a j /\ p a) : ∃ a, act y a j /\ p a /\ ∀ b, act y b j -> p b -> s * V x y m D a j <= s * V x y m D b j := by
 have hn := P.hn
 have red : ∀ a : Int, ∃ k : Nat, k < n /\ a % (n:Int) = (k:Int) % (n:Int) := fun a => by
   have h0 := Int.emod_nonneg a (show (n:Int) ≠ 0 by omega)
   have h1 := Int.emod_lt_of_pos a (show 0 < (n:Int) by omega)
   exact ⟨(a % (n:Int)).toNat, by omega, by rw [Int.toNat_of_nonneg h0, Int.emod_emod]⟩
 obtain ⟨a, h1, h2⟩ := h
 obtain ⟨k, hk, e⟩ := red a
 obtain ⟨i, _, ⟨g1, g2⟩, g3⟩ := exists_min (p := fun k => act y (k:Int) j /\ p (k:Int)) (v := fun k => s * V x y m D (k:Int) j) (n := n) ⟨k, hk, (act_per P e).1 h1, (hp _ _ e).1 h2⟩
 refine ⟨(i:Int), g1, g2, fun b hb hpb => ?_⟩
 obtain ⟨t, ht, e⟩ := red b
 rw [V_per P e]
 exact g3 t ht ⟨(act_per P e).1 hb, (hp _ _ e).1 hpb⟩
theorem q_one {a j : Int} (h : act y a j) : q y j a = 1 \/ q y j a = -1 := by
 rcases h with h | h
 · exact .inl (q_up h.1 h.2)
 · exact .inr (q_dn h.1 h.2)
theorem W_low (P : Poly n x y m D) {a j : Int} (hmin : ∀ b, act y b j -> V x y m D a j <= V x y m D b j) : W n x y m D a j = 0 := by
 unfold W
 rw [<- sm_zero n]
 refine sm_cong fun i _ => ?_
 by_cases h : act y (i:Int) j
 · have := hmin _ h
   rw [ind_f (by omega), Int.mul_zero]
 · rw [q_no h, Int.zero_mul]
theorem q_sum (P : Poly n x y m D) (j:Int) : sm (q y j) n = 0 := by
 have := per_tele (n := n) (g := fun a => ind (j < y a)) (fun a b h => by show ind (j < y a) = ind (j < y b); rw [P.py a b h])
 exact this
def G (n:Nat) (x y m : Int -> Int) (D j t:Int) : Int := sm (fun b => q y j b * max 0 (V x y m D b j - t)) n
def Wt (n:Nat) (x y m : Int -> Int) (D j t:Int) : Int := sm (fun b => q y j b * ind (V x y m D b j <= t)) n
theorem G_step (P : Poly n x y m D) (j t:Int) : G n x y m D j t - G n x y m D j (t + 1) = - Wt n x y m D j t := by
 have e1 := sm_sub (f := fun b => q y j b * max 0 (V x y m D b j - t)) (g := fun b => q y j b * max 0 (V x y m D b j - (t + 1))) n
 have e2 : sm (fun b => q y j b * max 0 (V x y m D b j - t) - q y j b * max 0 (V x y m D b j - (t + 1))) n = sm (fun b => q y j b - q y j b * ind (V x y m D b j <= t)) n := sm_cong fun i _ => by
   rw [<- Int.mul_sub]
   by_cases h : V x y m D (i:Int) j <= t
   · rw [ind_t h, show max 0 (V x y m D (i:Int) j - t) - max 0 (V x y m D (i:Int) j - (t + 1)) = 0 by omega]; omega
   · rw [ind_f h, show max 0 (V x y m D (i:Int) j - t) - max 0 (V x y m D (i:Int) j - (t + 1)) = 1 by omega]; omega
 have e3 := sm_sub (f := fun b => q y j b) (g := fun b => q y j b * ind (V x y m D b j <= t)) n
 have e4 := q_sum P j
 change sm (fun b => q y j b) n = 0 at e4
 unfold G Wt
 omega
theorem Wt_top (P : Poly n x y m D) {a j t : Int} (ha : act y a j) (hat : V x y m D a j <= t) (hmax : ∀ b, act y b j -> V x y m D b j <= t -> V x y m D b j <= V x y m D a j) : Wt n x y m D j t = W n x y m D a j + q y j a := by
 have hn := P.hn
 have := sm_one (n := n) (by omega) (f := fun b => q y j b * ind (V x y m D b j <= t)) (g := fun b => q y j b * ind (V x y m D b j < V x y m D a j)) (fun s u h => by
     show q y j s * ind (V x y m D s j <= t) = _
     rw [q_per P j s u h, V_per P h]) (fun s u h => by
     show q y j s * ind (V x y m D s j < _) = _
     rw [q_per P j s u h, V_per P h]) a (fun b hb => by
     show q y j b * ind (V x y m D b j <= t) = q y j b * ind (V x y m D b j < V x y m D a j)
     by_cases h : act y b j
     · have hne := V_ne P ha h hb
       by_cases g : V x y m D b j <= t
       · have := hmax b h g
         rw [ind_t g, ind_t (by omega)]
       · rw [ind_f g, ind_f (by omega)]
     · rw [q_no h, Int.zero_mul, Int.zero_mul])
 have this : Wt n x y m D j t - W n x y m D a j = q y j a * ind (V x y m D a j <= t) - q y j a * ind (V x y m D a j < V x y m D a j) := this
 rw [ind_t hat, ind_f (by omega)] at this
 omega
variable {κ : Int}
theorem κ_one (P : Poly n x y m D) (hκ : ∀ a j, act y a j -> K n x y m D a j = κ) : κ = 1 \/ κ = -1 := by
 obtain ⟨a, ha, _, hmin⟩ := min_all P (j := min (y 0) (y (0 + 1))) (fun _ => True) (fun _ _ _ => Iff.rfl) 1 ⟨0, act_some P 0, trivial⟩
 have h := hκ a _ ha
 unfold K at h
 rw [W_low P (fun b hb => by have := hmin b hb trivial; omega)] at h
 rcases q_one ha with e | e <;> omega
theorem Wt_or (P : Poly n x y m D) (hκ : ∀ a j, act y a j -> K n x y m D a j = κ) (j t:Int) : Wt n x y m D j t = 0 \/ Wt n x y m D j t = κ := by
 by_cases h : ∃ a, act y a j /\ V x y m D a j <= t
 · obtain ⟨a, ha, hat, hmax⟩ := min_all P (j := j) (fun a => V x y m D a j <= t) (fun _ _ e => by rw [V_per P e]) (-1) h
   rw [Wt_top P ha hat (fun b hb hbt => by have := hmax b hb hbt; omega)]
   have hk := hκ a j ha
   unfold K at hk
   rcases q_one ha with e | e <;> rcases κ_one P hκ with e' | e' <;> omega
 · refine .inl ?_
   unfold Wt
   rw [<- sm_zero n]
   refine sm_cong fun i _ => ?_
   by_cases h' : act y (i:Int) j
   · rw [ind_f (fun g => h ⟨_, h', g⟩), Int.mul_zero]
   · rw [q_no h', Int.zero_mul]
theorem V_bd (P : Poly n x y m D) (j:Int) : ∃ B, ∀ k : Nat, k < n -> V x y m D (k:Int) j <= B := by
 have : ∀ r : Nat, ∃ B, ∀ k : Nat, k < r -> V x y m D (k:Int) j <= B := fun r => by
   induction r with
   | zero => exact ⟨0, fun k h => absurd h (Nat.not_lt_zero _)⟩
   | succ r ih =>
     obtain ⟨B, hB⟩ := ih
     refine ⟨max B (V x y m D (r:Int) j), fun k hk => ?_⟩
     rcases Nat.lt_succ_iff_lt_or_eq.1 hk with g | rfl
     · have := hB k g; omega
     · omega
 exact this n
theorem G_le (P : Poly n x y m D) (hκ : ∀ a j, act y a j -> K n x y m D a j = κ) (j:Int) {B : Int} (hB : ∀ k : Nat, k < n -> V x y m D (k:Int) j <= B) : ∀ (r:Nat) (t:Int), B - t <= r -> κ * G n x y m D j t <= 0
 | 0, t, h => by
   have : G n x y m D j t = 0 := by
     unfold G
     refine Eq.trans (sm_cong (g := fun _ => 0) fun i hi => ?_) (sm_zero n)
     have := hB i hi
     rw [show max 0 (V x y m D (i:Int) j - t) = 0 by omega, Int.mul_zero]
   rw [this, Int.mul_zero]; exact Int.le_refl _
 | r + 1, t, h => by
   have ih := G_le P hκ j hB r (t + 1) (by omega)
   have hs := G_step P j t
   rcases κ_one P hκ with rfl | rfl <;> rcases Wt_or P hκ j t with e | e <;> omega
def S (n:Nat) (x y m : Int -> Int) (D j:Int) : Int := sm (fun b => q y j b * V x y m D b j) n
theorem S_neg (P : Poly n x y m D) (hκ : ∀ a j, act y a j -> K n x y m D a j = κ) {j : Int} (h : ∃ a, act y a j) : κ * S n x y m D j < 0 := by
 obtain ⟨a, ha⟩ := h
 obtain ⟨a, ha, _, hmin⟩ := min_all P (j := j) (fun _ => True) (fun _ _ _ => Iff.rfl) 1 ⟨a, ha, trivial⟩
 have hmin : ∀ b, act y b j -> V x y m D a j <= V x y m D b j := fun b hb => by have := hmin b hb trivial; omega
 obtain ⟨B, hB⟩ := V_bd P j
 have g1 := G_le P hκ j hB (B - (V x y m D a j + 1)).toNat (V x y m D a j + 1) (by omega)
 have hs := G_step P j (V x y m D a j)
 have hw := Wt_top P ha (Int.le_refl _) (fun b _ hb => hb)
 rw [W_low P hmin] at hw
 have hk := hκ a j ha
 unfold K at hk
 rw [W_low P hmin] at hk
 have e : G n x y m D j (V x y m D a j) = S n x y m D j := by
   have e1 := sm_sub (f := fun b => q y j b * V x y m D b j) (g := fun b => V x y m D a j * q y j b) n
   rw [sm_mul, q_sum P j, Int.mul_zero] at e1
   have e2 : G n x y m D j (V x y m D a j) = sm (fun b => q y j b * V x y m D b j - V x y m D a j * q y j b) n := by
     unfold G
     refine sm_cong fun i _ => ?_
     by_cases h : act y (i:Int) j
     · have := hmin _ h
       rw [show max 0 (V x y m D (i:Int) j - V x y m D a j) = V x y m D (i:Int) j - V x y m D a j by omega, Int.mul_sub, Int.mul_comm (V x y m D a j)]
     · rw [q_no h]; omega
   unfold S
   omega
 rw [<- e]
 rcases κ_one P hκ with e' | e' <;> rw [e'] at g1 hk ⊢ <;> rcases q_one ha with e2 | e2 <;> rw [e2] at hk hw <;> omega
theorem S_zero (P : Poly n x y m D) {j : Int} (h : ¬ ∃ a, act y a j) : S n x y m D j = 0 := by
 unfold S
 rw [<- sm_zero n]
 refine sm_cong fun i _ => ?_
 rw [q_no (fun g => h ⟨_, g⟩), Int.zero_mul]
def F (x y m : Int -> Int) (D b Y:Int) : Int := 2 * (D * x b - m b * y b) * Y + m b * (Y * Y)
theorem F_step (b Y:Int) : F x y m D b (Y + 1) - F x y m D b Y = V x y m D b Y := by
 unfold F V X; grind
theorem F_edge (P : Poly n x y m D) (b:Int) : F x y m D b (y (b + 1)) - F x y m D b (y b) = D * ((x b + x (b + 1)) * (y (b + 1) - y b)) := by
 have := P.hm b
 unfold F; grind
theorem clip (b J y0:Int) (h : J <= y0) : ∀ M : Nat, sm (fun i => ind (J + i < y0) * V x y m D b (J + i)) M = F x y m D b (min y0 (J + M)) - F x y m D b J
 | 0 => by rw [show min y0 (J + ((0:Nat):Int)) = J by omega]; show 0 = _; omega
 | M + 1 => by
   rw [sm, clip b J y0 h M]
   by_cases g : J + (M:Int) < y0
   · rw [ind_t g, show min y0 (J + (M:Int)) = J + M by omega, show min y0 (J + ((M + 1:Nat):Int)) = J + M + 1 by omega, <- F_step]; omega
   · rw [ind_f g, show min y0 (J + (M:Int)) = y0 by omega, show min y0 (J + ((M + 1:Nat):Int)) = y0 by omega]; omega
theorem swap (f : Int -> Int -> Int) (n:Nat) : ∀ M : Nat, sm (fun i => sm (fun b => f i b) n) M = sm (fun b => sm (fun i => f i b) M) n
 | 0 => by show 0 = sm (fun _ => 0) n; rw [sm_zero]
 | M + 1 => by
   rw [sm, swap f n M, <- sm_add]
   rfl
theorem total (P : Poly n x y m D) (J:Int) (M:Nat) (h : ∀ b, J <= y b /\ y b <= J + M) : sm (fun i => S n x y m D (J + i)) M = D * sm (fun b => (x b + x (b + 1)) * (y (b + 1) - y b)) n := by
 have e : sm (fun i => S n x y m D (J + i)) M = sm (fun b => sm (fun i => q y (J + i) b * V x y m D b (J + i)) M) n := swap (fun i b => q y (J + i) b * V x y m D b (J + i)) n M
 rw [e, <- sm_mul]
 refine sm_cong fun b _ => ?_
 have h1 := clip (x := x) (y := y) (m := m) (D := D) (b:Int) J (y ((b:Int) + 1)) (h _).1 M
 have h2 := clip (x := x) (y := y) (m := m) (D := D) (b:Int) J (y (b:Int)) (h _).1 M
 rw [show min (y ((b:Int) + 1)) (J + (M:Int)) = y ((b:Int) + 1) by have := (h ((b:Int) + 1)).2; omega] at h1
 rw [show min (y (b:Int)) (J + (M:Int)) = y (b:Int) by have := (h (b:Int)).2; omega] at h2
 have h3 := sm_sub (f := fun i => ind (J + i < y ((b:Int) + 1)) * V x y m D (b:Int) (J + i)) (g := fun i => ind (J + i < y (b:Int)) * V x y m D (b:Int) (J + i)) M
 have h4 : sm (fun i => q y (J + i) (b:Int) * V x y m D (b:Int) (J + i)) M = sm (fun i => ind (J + i < y ((b:Int) + 1)) * V x y m D (b:Int) (J + i) - ind (J + i < y (b:Int)) * V x y m D (b:Int) (J + i)) M := sm_cong fun i _ => by unfold q; rw [Int.sub_mul]
 have h5 := F_edge P (b:Int)
 omega
theorem y_bd (P : Poly n x y m D) : ∃ (J:Int) (M:Nat), ∀ b, J <= y b /\ y b <= J + M := by
 have hn := P.hn
 have : ∀ r : Nat, ∃ B : Nat, ∀ k : Nat, k < r -> -(B:Int) <= y (k:Int) /\ y (k:Int) <= B := fun r => by
   induction r with
   | zero => exact ⟨0, fun k h => absurd h (Nat.not_lt_zero _)⟩
   | succ r ih =>
     obtain ⟨B, hB⟩ := ih
     refine ⟨max B (y (r:Int)).natAbs, fun k hk => ?_⟩
     rcases Nat.lt_succ_iff_lt_or_eq.1 hk with g | rfl
     · have := hB k g; omega
     · omega
 obtain ⟨B, hB⟩ := this n
 refine ⟨-(B:Int), 2 * B, fun b => ?_⟩
 have h0 := Int.emod_nonneg b (show (n:Int) ≠ 0 by omega)
 have h1 := Int.emod_lt_of_pos b (show 0 < (n:Int) by omega)
 have := hB (b % (n:Int)).toNat (by omega)
 rw [P.py b ((b % (n:Int)).toNat:Int) (by rw [Int.toNat_of_nonneg h0, Int.emod_emod])]
 omega
theorem sum_neg {f : Int -> Int} (h : ∀ i, f i <= 0) : ∀ {M : Nat}, sm f M <= 0 /\ ∀ k : Nat, k < M -> f (k:Int) < 0 -> sm f M < 0
 | 0 => ⟨Int.le_refl _, fun k hk => absurd hk (Nat.not_lt_zero _)⟩
 | M + 1 => by
   obtain ⟨h1, h2⟩ := sum_neg h (M := M)
   have := h (M:Int)
   refine ⟨by rw [sm]; omega, fun k hk hf => ?_⟩
   rw [sm]
   rcases Nat.lt_succ_iff_lt_or_eq.1 hk with g | rfl
   · have := h2 k g hf; omega
   · omega
theorem area_ne (P : Poly n x y m D) : sm (fun b => x b * y (b + 1) - x (b + 1) * y b) n ≠ 0 := by
 obtain ⟨κ, hκ⟩ := K_all P
 obtain ⟨J, M, hy⟩ := y_bd P
 have hS : ∀ j, κ * S n x y m D j <= 0 := fun j => by
   by_cases h : ∃ a, act y a j
   · exact Int.le_of_lt (S_neg P hκ h)
   · rw [S_zero P h, Int.mul_zero]; exact Int.le_refl _
 have hneg : sm (fun i => κ * S n x y m D (J + i)) M < 0 := by
   have hd := dy_ne P 0
   have h0 := hy 0
   have h1 := hy (0 + 1)
   refine (sum_neg (f := fun i => κ * S n x y m D (J + i)) (fun i => hS _) (M := M)).2 (min (y 0) (y (0 + 1)) - J).toNat (by omega) ?_
   show κ * S n x y m D (J + ((min (y 0) (y (0 + 1)) - J).toNat:Int)) < 0
   rw [show J + ((min (y 0) (y (0 + 1)) - J).toNat:Int) = min (y 0) (y (0 + 1)) by omega]
   exact S_neg P hκ ⟨0, act_some P 0⟩
 rw [sm_mul, total P J M hy] at hneg
 intro e
 have e2 : sm (fun b => (x b + x (b + 1)) * (y (b + 1) - y b)) n = 0 := by
   have t := per_tele (n := n) (g := fun b => x b * y b) (fun a b h => by show x a * y a = x b * y b; rw [P.px a b h, P.py a b h])
   have s := sm_add (f := fun b => x b * y (b + 1) - x (b + 1) * y b) (g := fun b => x (b + 1) * y (b + 1) - x b * y b) n
   have u : sm (fun b => (x b + x (b + 1)) * (y (b + 1) - y b)) n = sm (fun b => (x b * y (b + 1) - x (b + 1) * y b) + (x (b + 1) * y (b + 1) - x b * y b)) n := sm_cong fun b _ => by grind
   change sm (fun b => x (b + 1) * y (b + 1) - x b * y b) n = 0 at t
   omega
 rw [e2, Int.mul_zero, Int.mul_zero] at hneg
 exact absurd hneg (Int.lt_irrefl _)
end
end PArea
theorem sm_P (f : Int -> Int) : ∀ k, L.sm f k = PArea.sm f k
 | 0 => rfl
 | k + 1 => by rw [L.sm, PArea.sm, sm_P f k]
def L.sharp (l : L.Sq L.Pt) : Prop := ∀ i, i < l.n -> L.outAt L.cFlat l i = false
theorem sharp_cy {l : L.Sq L.Pt} (hn : 0 < l.n) (h : L.sharp l) (a:Int) : L.cross (L.cy l (a - 1)) (L.cy l a) (L.cy l (a + 1)) ≠ 0 := by
 have hk := ix_lt (n := l.n) (i := a) hn
 have hc := h _ hk
 have e1 : L.prev l.n (L.ix l.n a) = L.ix l.n (a - 1) := by
   rw [<- ix_prev hk, show ((L.ix l.n a:Nat):Int) - 1 = ((L.ix l.n a:Nat):Int) + -1 by omega, ix_ix hn]; rfl
 have e2 : L.next l.n (L.ix l.n a) = L.ix l.n (a + 1) := by
   rw [<- ix_next hk, ix_ix hn]
 unfold L.outAt L.cFlat at hc
 rw [e1, e2] at hc
 exact of_decide_eq_false hc
theorem cy_per {l : L.Sq L.Pt} (hn : 0 < l.n) {a b : Int} (h : a % (l.n:Int) = b % (l.n:Int)) : L.cy l a = L.cy l b := by
 have := cy_congr (l := l) hn h 0
 rwa [Int.add_zero, Int.add_zero] at this
theorem far_meet {l : L.Sq L.Pt} (h3 : 3 <= l.n) (hs : L.simple l = true) {a b : Int} (h : PArea.far l.n a b) : L.meet (L.cy l a) (L.cy l (a + 1)) (L.cy l b) (L.cy l (b + 1)) = 0 := by
 have := simpC_of (by omega) hs a b h.1
 rw [if_neg] at this
 · exact this
 · rintro (e | e)
   · exact h.2.2 (emod_eq_of (by rw [e, Int.emod_eq_of_lt (by omega) (by omega)])).symm
   · exact h.2.1 (emod_eq_of (by rw [e, Int.emod_eq_of_lt (by omega) (by omega)]))
theorem cross_dup (a b : L.Pt) : L.cross a b b = 0 := by unfold L.cross; rw [Int.mul_comm]; omega
theorem cross_dup2 (a b : L.Pt) : L.cross a a b = 0 := by unfold L.cross; rw [Int.sub_self, Int.sub_self, Int.zero_mul, Int.zero_mul]; rfl
theorem sharp_inj {l : L.Sq L.Pt} (h3 : 3 <= l.n) (hs : L.simple l = true) (hc : L.sharp l) {a b : Int} (h : L.cy l a = L.cy l b) : a % (l.n:Int) = b % (l.n:Int) := by
 have hn : 0 < l.n := by omega
 have nx : ∀ x y : Int, (x + 1) % (l.n:Int) = y % (l.n:Int) -> L.cy l x ≠ L.cy l y := fun x y hxy e => by
   have := sharp_cy hn hc (x + 1)
   rw [show x + 1 - 1 = x by omega, cy_per hn hxy, <- e] at this
   exact this (cross_dup2 _ _)
 by_cases hab : a % (l.n:Int) = b % (l.n:Int)
 · exact hab
 by_cases c1 : (a + 1) % (l.n:Int) = b % (l.n:Int)
 · exact absurd h (nx a b c1)
 by_cases c2 : (b + 1) % (l.n:Int) = a % (l.n:Int)
 · exact absurd h.symm (nx b a c2)
 have hm := far_meet h3 hs (a := a) (b := b) ⟨hab, fun e => c2 e.symm, c1⟩
 exact absurd (.inl ⟨by rw [h]; exact on_left, rfl⟩) (meet_none hm (L.cy l a))
theorem cmp_sg {a b : Int} (h : a * b < 0) : L.cmp a 0 * L.cmp b 0 < 0 := by
 unfold L.cmp
 rcases Int.lt_trichotomy a 0 with h1 | h1 | h1
 · rcases Int.lt_trichotomy b 0 with h2 | h2 | h2
   · have := Int.mul_pos_of_neg_of_neg h1 h2; omega
   · rw [h2, Int.mul_zero] at h; omega
   · rw [decide_eq_true h1, decide_eq_false (show ¬ b < 0 by omega), decide_eq_true h2]; exact (by decide : (-1:Int) * 1 < 0)
 · rw [h1, Int.zero_mul] at h; omega
 · rcases Int.lt_trichotomy b 0 with h2 | h2 | h2
   · rw [decide_eq_false (show ¬ a < 0 by omega), decide_eq_true h1, decide_eq_true h2]; exact (by decide : (1:Int) * -1 < 0)
   · rw [h2, Int.mul_zero] at h; omega
   · have := Int.mul_pos h1 h2; omega
theorem meet_noX {a b c d : L.Pt} (h : L.meet a b c d = 0) : ¬ (L.apart a b c d = true /\ L.apart c d a b = true) := fun ⟨h1, h2⟩ => by
 unfold L.meet at h
 rw [h1, h2] at h
 revert h
 cases decide (1 < ((L.k2 a b c d 2).n:Int)) <;> cases decide (((L.k2 a b c d 2).n:Int) = 1) <;> intro h <;> cases h
theorem mult_ex (d : Nat -> Int) : ∀ r : Nat, ∃ D : Int, 0 < D /\ ∀ k, k < r -> d k ≠ 0 -> d k ∣ D
 | 0 => ⟨1, by decide, fun k h => absurd h (Nat.not_lt_zero _)⟩
 | r + 1 => by
   obtain ⟨D, h1, h2⟩ := mult_ex d r
   by_cases h : d r = 0
   · refine ⟨D, h1, fun k hk hne => ?_⟩
     rcases Nat.lt_succ_iff_lt_or_eq.1 hk with g | rfl
     · exact h2 k g hne
     · exact absurd h hne
   · refine ⟨D * ((d r).natAbs:Int), Int.mul_pos h1 (by omega), fun k hk hne => ?_⟩
     rcases Nat.lt_succ_iff_lt_or_eq.1 hk with g | rfl
     · exact Int.dvd_mul_of_dvd_left (h2 k g hne)
     · exact Int.dvd_mul_of_dvd_right (Int.dvd_natAbs.2 (Int.dvd_refl _))
def L.hx (l : L.Sq L.Pt) (a:Int) : Int := (L.cy l a).x
def L.hy (l : L.Sq L.Pt) (a:Int) : Int := 8000001 * (L.cy l a).y + (L.cy l a).x
theorem cr_cross (l : L.Sq L.Pt) (a c:Int) : PArea.cr (L.hx l) (L.hy l) a c = 8000001 * L.cross (L.cy l a) (L.cy l (a + 1)) (L.cy l c) := by
 unfold PArea.cr L.hx L.hy L.cross
 grind
theorem cr_neg {p q : Int} (h : 8000001 * p * (8000001 * q) < 0) : p * q < 0 := by
 have e : 8000001 * p * (8000001 * q) = 64000016000001 * (p * q) := by grind
 omega
theorem on_of {a b c : L.Pt} (h0 : L.cross a b c = 0) (hne : a ≠ b) (ba : L.bd a) (bb : L.bd b) (bc : L.bd c) (h1 : min (8000001 * a.y + a.x) (8000001 * b.y + b.x) <= 8000001 * c.y + c.x) (h2 : 8000001 * c.y + c.x <= max (8000001 * a.y + a.x) (8000001 * b.y + b.x)) : L.on a b c = true := by
 unfold L.bd at ba bb bc
 unfold L.cross at h0
 unfold L.on L.within
 have hd : 8000001 * (b.y - a.y) + (b.x - a.x) ≠ 0 := fun e => hne (by
   have e1 : b.y = a.y := by omega
   have e2 : b.x = a.x := by omega
   cases a; cases b; simp only at e1 e2; rw [e1, e2])
 have k1 : (c.x - a.x) * (8000001 * (b.y - a.y) + (b.x - a.x)) = (b.x - a.x) * (8000001 * (c.y - a.y) + (c.x - a.x)) := by grind
 have k2 : (c.y - a.y) * (8000001 * (b.y - a.y) + (b.x - a.x)) = (b.y - a.y) * (8000001 * (c.y - a.y) + (c.x - a.x)) := by grind
 have key : ∀ u w U Wd : Int, Wd * U = u * w -> U ≠ 0 -> (0 <= w /\ w <= U \/ U <= w /\ w <= 0) -> (0 <= Wd /\ Wd <= u \/ u <= Wd /\ Wd <= 0) := fun u w U Wd e hU hw => by
   have tri : ∀ U w Wd u : Int, 0 < U -> 0 <= w -> w <= U -> Wd * U = u * w -> (0 <= Wd /\ Wd <= u \/ u <= Wd /\ Wd <= 0) := fun U w Wd u hU h0 h1 e => by
     rcases Int.le_total 0 u with g | g
     · refine .inl ⟨?_, ?_⟩
       · rcases Int.lt_or_le Wd 0 with q | q
         · have := Int.mul_neg_of_neg_of_pos q hU
           have := Int.mul_nonneg g h0
           omega
         · exact q
       · rcases Int.lt_or_le u Wd with q | q
         · have a1 := Int.mul_lt_mul_of_pos_right q hU
           have a2 := Int.mul_le_mul_of_nonneg_left h1 g
           omega
         · exact q
     · refine .inr ⟨?_, ?_⟩
       · rcases Int.lt_or_le Wd u with q | q
         · have a1 := Int.mul_lt_mul_of_pos_right q hU
           have a2 := Int.mul_nonneg_of_nonpos_of_nonpos g (show w - U <= 0 by omega)
           rw [Int.mul_sub] at a2
           omega
         · exact q
       · rcases Int.lt_or_le 0 Wd with q | q
         · have := Int.mul_pos q hU
           have := Int.mul_nonpos_of_nonpos_of_nonneg g h0
           omega
         · exact q
   rcases hw with ⟨p1, p2⟩ | ⟨p1, p2⟩
   · exact tri U w Wd u (by omega) p1 p2 e
   · exact tri (-U) (-w) Wd u (by omega) (by omega) (by omega) (by rw [Int.mul_neg, Int.mul_neg, e])
 have hr : 0 <= 8000001 * (c.y - a.y) + (c.x - a.x) /\ 8000001 * (c.y - a.y) + (c.x - a.x) <= 8000001 * (b.y - a.y) + (b.x - a.x) \/ 8000001 * (b.y - a.y) + (b.x - a.x) <= 8000001 * (c.y - a.y) + (c.x - a.x) /\ 8000001 * (c.y - a.y) + (c.x - a.x) <= 0 := by omega
 have r1 := key _ _ _ _ k1 hd hr
 have r2 := key _ _ _ _ k2 hd hr
 simp only [Bool.and_eq_true, decide_eq_true_eq]
 unfold L.cross
 omega
theorem area_ne0 {l : L.Sq L.Pt} (h3 : 3 <= l.n) (hb : L.allBd l) (hs : L.simple l = true) (hc : L.sharp l) : L.areaTo l l.n ≠ 0 := by
 have hn : 0 < l.n := by omega
 have bd : ∀ a, L.bd (L.cy l a) := fun a => hb.2 _ (ix_lt hn)
 have hne : ∀ a b : Int, a % (l.n:Int) ≠ b % (l.n:Int) -> L.hy l a ≠ L.hy l b := fun a b h e => h (sharp_inj h3 hs hc (by
   have b1 := bd a
   have b2 := bd b
   unfold L.bd at b1 b2
   unfold L.hy at e
   have e1 : (L.cy l a).y = (L.cy l b).y := by omega
   have e2 : (L.cy l a).x = (L.cy l b).x := by omega
   generalize L.cy l a = p at *
   generalize L.cy l b = r at *
   cases p; cases r; simp only at e1 e2; rw [e1, e2]))
 obtain ⟨D, hD, hdv⟩ := mult_ex (fun k => L.hy l ((k:Int) + 1) - L.hy l (k:Int)) l.n
 have dv : ∀ a : Int, (L.hy l (a + 1) - L.hy l a) ∣ D := fun a => by
   have h0 := Int.emod_nonneg a (show (l.n:Int) ≠ 0 by omega)
   have h1 := Int.emod_lt_of_pos a (show 0 < (l.n:Int) by omega)
   have e : a % (l.n:Int) = (((a % (l.n:Int)).toNat:Nat):Int) % (l.n:Int) := by rw [Int.toNat_of_nonneg h0, Int.emod_emod]
   have q1 : L.hy l a = L.hy l (((a % (l.n:Int)).toNat:Nat):Int) := by unfold L.hy; rw [cy_per hn e]
   have q2 : L.hy l (a + 1) = L.hy l ((((a % (l.n:Int)).toNat:Nat):Int) + 1) := by unfold L.hy; rw [cy_per hn (PArea.succ_mod e 1)]
   rw [q1, q2]
   refine hdv _ (by omega) ?_
   have := hne _ _ (PArea.next_ne h3 (((a % (l.n:Int)).toNat:Nat):Int))
   omega
 have P : PArea.Poly l.n (L.hx l) (L.hy l) (fun a => (L.hx l (a + 1) - L.hx l a) * (D / (L.hy l (a + 1) - L.hy l a))) D :=
   { hn := h3
     px := fun a b h => by unfold L.hx; rw [cy_per hn h]
     py := fun a b h => by unfold L.hy; rw [cy_per hn h]
     pm := fun a b h => by
       show (L.hx l (a + 1) - L.hx l a) * (D / (L.hy l (a + 1) - L.hy l a)) = (L.hx l (b + 1) - L.hx l b) * (D / (L.hy l (b + 1) - L.hy l b))
       unfold L.hx L.hy; rw [cy_per hn h, cy_per hn (PArea.succ_mod h 1)]
     hD := hD
     hm := fun a => by
       show (L.hx l (a + 1) - L.hx l a) * (D / (L.hy l (a + 1) - L.hy l a)) * (L.hy l (a + 1) - L.hy l a) = _
       rw [Int.mul_assoc, Int.ediv_mul_cancel (dv a), Int.mul_comm]
     hy := hne
     on := fun a b h c hcb hw e => by
       rw [cr_cross] at e
       have e0 : L.cross (L.cy l a) (L.cy l (a + 1)) (L.cy l c) = 0 := by omega
       have hab : L.cy l a ≠ L.cy l (a + 1) := fun e => PArea.next_ne h3 a (sharp_inj h3 hs hc e)
       have ho := on_of e0 hab (bd _) (bd _) (bd _) hw.1 hw.2
       refine meet_none (far_meet h3 hs h) (L.cy l c) ?_
       rcases hcb with rfl | rfl
       · exact .inr (.inr (.inl ⟨ho, rfl⟩))
       · exact .inr (.inr (.inr ⟨ho, rfl⟩))
     no := fun a b h ⟨g1, g2⟩ => by
       rw [cr_cross, cr_cross] at g1 g2
       exact meet_noX (far_meet h3 hs h) ⟨decide_eq_true (cmp_sg (cr_neg g1)), decide_eq_true (cmp_sg (cr_neg g2))⟩
     co := fun a e => by
       rw [cr_cross] at e
       have := sharp_cy hn hc (a + 1)
       rw [show a + 1 - 1 = a by omega, show a + 1 + 1 = a + 2 by omega] at this
       exact absurd (show L.cross (L.cy l a) (L.cy l (a + 1)) (L.cy l (a + 2)) = 0 by omega) this }
 have := PArea.area_ne P
 rw [area_sm (Nat.le_refl _), sm_P]
 intro e
 apply this
 have u : PArea.sm (fun b => L.hx l b * L.hy l (b + 1) - L.hx l (b + 1) * L.hy l b) l.n = PArea.sm (fun b => 8000001 * L.ct l b) l.n := PArea.sm_cong fun b _ => by
   unfold L.hx L.hy L.ct L.tm; grind
 rw [u, PArea.sm_mul]
 have e' : PArea.sm (fun b => L.ct l b) l.n = 0 := e
 rw [e']; rfl
end Go.Proofs.YtaklapjfnejlbaaGreat
namespace Go.Proofs.YtaklapjfnejlbaaGreat
open Go.SE Go.RowKit
set_option maxRecDepth 100000
set_option maxHeartbeats 4000000
set_option linter.unusedVariables false
attribute [local irreducible] vc
namespace Conf
variable {α : Type}
def Rot (l m : List α) : Prop := ∃ u v, l = u ++ v /\ m = v ++ u
theorem Rot.refl (l : List α) : Rot l l := ⟨[], l, rfl, (List.append_nil l).symm⟩
theorem Rot.symm {l m : List α} : Rot l m -> Rot m l := fun ⟨u, v, h1, h2⟩ => ⟨v, u, h2, h1⟩
theorem Rot.trans {l m k : List α} : Rot l m -> Rot m k -> Rot l k := by
 rintro ⟨u, v, rfl, rfl⟩ ⟨p, q, h, rfl⟩
 rcases List.append_eq_append_iff.1 h with ⟨a, rfl, rfl⟩ | ⟨c, rfl, rfl⟩
 · exact ⟨a, q ++ v, by simp, by simp⟩
 · exact ⟨u ++ p, c, by simp, by simp⟩
theorem Rot.len {l m : List α} : Rot l m -> l.length = m.length := by
 rintro ⟨u, v, rfl, rfl⟩; simp; omega
theorem Rot.rev {l m : List α} : Rot l m -> Rot l.reverse m.reverse := by
 rintro ⟨u, v, rfl, rfl⟩; exact ⟨v.reverse, u.reverse, by simp, by simp⟩
theorem Rot.mem {l m : List α} (h : Rot l m) {x : α} : x ∈ l ↔ x ∈ m := by
 obtain ⟨u, v, rfl, rfl⟩ := h; simp [or_comm]
theorem Rot.nodup {l m : List α} (h : Rot l m) (hl : l.Nodup) : m.Nodup := by
 obtain ⟨u, v, rfl, rfl⟩ := h
 exact (List.perm_append_comm.nodup_iff).1 hl
theorem Rot.eq {l m : List α} {b : α} (h : Rot (b :: l) (b :: m)) (hd : (b :: l).Nodup) : l = m := by
 obtain ⟨u, v, h1, h2⟩ := h
 cases u with
 | nil => rw [List.nil_append] at h1; rw [<- h1, List.append_nil] at h2; exact (List.cons.inj h2).2.symm
 | cons x u =>
   cases v with
   | nil => rw [List.append_nil] at h1; rw [<- h1, List.nil_append] at h2; exact (List.cons.inj h2).2.symm
   | cons z v =>
     obtain ⟨e1, e2⟩ := List.cons.inj h1
     obtain ⟨e3, _⟩ := List.cons.inj h2
     rw [e2, <- e3] at hd
     simp at hd
structure Ax (F : α -> α -> α -> Prop) : Prop where
 flip : ∀ a b c, F a b c -> F c b a
 line : ∀ a b c d, F a b c -> F b c d -> b ≠ c -> F a c d /\ F a b d
 dup : ∀ a b, F a b b
variable {F : α -> α -> α -> Prop}
def Step (F : α -> α -> α -> Prop) (l m : List α) : Prop := ∃ b t, Rot l (b :: t) /\ F (t.getLastD b) b (t.headD b) /\ Rot t m
theorem Step.rot {l l' m m' : List α} (h : Step F l m) (hl : Rot l' l) (hm : Rot m m') : Step F l' m' := by
 obtain ⟨b, t, h1, h2, h3⟩ := h
 exact ⟨b, t, hl.trans h1, h2, h3.trans hm⟩
theorem Step.len {l m : List α} (h : Step F l m) : l.length = m.length + 1 := by
 obtain ⟨b, t, h1, _, h3⟩ := h
 rw [h1.len, <- h3.len]; rfl
theorem lastD_app (l : List α) (c b : α) (m : List α) : (l ++ c :: m).getLastD b = m.getLastD c := by
 rw [List.getLastD_eq_getLast?, List.getLastD_eq_getLast?, List.getLast?_append, List.getLast?_cons]
 rfl
theorem headD_app (u : List α) (c b : α) (v : List α) : (u ++ c :: v).headD b = u.headD c := by cases u <;> rfl
theorem Step.rev (A : Ax F) {l m : List α} (h : Step F l m) : Step F l.reverse m.reverse := by
 obtain ⟨b, t, h1, h2, h3⟩ := h
 refine ⟨b, t.reverse, (h1.rev).trans ⟨t.reverse, [b], by simp, by simp⟩, ?_, h3.rev⟩
 have e1 : t.reverse.getLastD b = t.headD b := by
   cases t with
   | nil => rfl
   | cons x t => rw [List.reverse_cons]; exact lastD_app _ _ _ _
 have e2 : t.reverse.headD b = t.getLastD b := by
   rw [List.headD_eq_head?_getD, List.head?_reverse, List.getLastD_eq_getLast?]
 rw [e1, e2]
 exact A.flip _ _ _ h2
theorem diamond (A : Ax F) {l m m' : List α} (h : Step F l m) (h' : Step F l m') : Rot m m' \/ ∃ k, Step F m k /\ Step F m' k := by
 obtain ⟨b, t, h1, hb, h3⟩ := h
 obtain ⟨c, s, g1, hc, g3⟩ := h'
 obtain ⟨u, v, e1, e2⟩ := h1.symm.trans g1
 cases u with
 | nil =>
   rw [List.nil_append] at e1
   rw [<- e1, List.append_nil] at e2
   obtain ⟨_, rfl⟩ := List.cons.inj e2
   exact .inl (h3.symm.trans g3)
 | cons x u =>
   rw [List.cons_append] at e1
   obtain ⟨rfl, rfl⟩ := List.cons.inj e1
   cases v with
   | nil =>
     rw [List.nil_append] at e2
     obtain ⟨_, rfl⟩ := List.cons.inj e2
     rw [List.append_nil] at h3
     exact .inl (h3.symm.trans g3)
   | cons z v =>
     rw [List.cons_append] at e2
     obtain ⟨rfl, rfl⟩ := List.cons.inj e2
     rw [lastD_app, headD_app] at hb hc
     have fin : ∀ k, Step F (u ++ c :: v) k -> Step F (v ++ b :: u) k -> Rot m m' \/ ∃ k, Step F m k /\ Step F m' k := fun k p q => .inr ⟨k, p.rot h3.symm (Rot.refl _), q.rot g3.symm (Rot.refl _)⟩
     cases u with
     | nil =>
       cases v with
       | nil => exact fin [] ⟨c, [], Rot.refl _, A.dup _ _, Rot.refl _⟩ ⟨b, [], Rot.refl _, A.dup _ _, Rot.refl _⟩
       | cons z v =>
         by_cases hbc : b = c
         · subst hbc
           exact .inl (h3.symm.trans (Rot.trans ⟨[b], z :: v, rfl, rfl⟩ g3))
         · obtain ⟨f1, f2⟩ := A.line _ _ _ _ hb hc hbc
           exact fin (z :: v) ⟨c, z :: v, Rot.refl _, f1, Rot.refl _⟩ ⟨b, z :: v, ⟨z :: v, [b], rfl, rfl⟩, f2, Rot.refl _⟩
     | cons x u =>
       cases v with
       | nil =>
         by_cases hbc : b = c
         · subst hbc
           exact .inl (h3.symm.trans (Rot.trans ⟨x :: u, [b], rfl, rfl⟩ g3))
         · obtain ⟨f1, f2⟩ := A.line _ _ _ _ hc hb (fun e => hbc e.symm)
           exact fin (x :: u) ⟨c, x :: u, ⟨x :: u, [c], rfl, rfl⟩, f2, Rot.refl _⟩ ⟨b, x :: u, Rot.refl _, f1, Rot.refl _⟩
       | cons z v =>
         refine fin ((z :: v) ++ (x :: u)) ⟨c, (z :: v) ++ (x :: u), ⟨x :: u, c :: z :: v, rfl, rfl⟩, ?_, Rot.refl _⟩ ⟨b, (x :: u) ++ (z :: v), ⟨z :: v, b :: x :: u, rfl, rfl⟩, ?_, ⟨x :: u, z :: v, rfl, rfl⟩⟩
         · rw [show (x :: u).getLastD b = u.getLastD x from lastD_app [] _ _ _] at hc
           rw [lastD_app]; exact hc
         · rw [show (z :: v).getLastD c = v.getLastD z from lastD_app [] _ _ _] at hb
           rw [lastD_app]; exact hb
inductive Red (F : α -> α -> α -> Prop) : List α -> List α -> Prop
 | refl {l m} : Rot l m -> Red F l m
 | step {l m k} : Step F l m -> Red F m k -> Red F l k
theorem Red.rot {l m l' : List α} (h : Red F l m) (hl : Rot l' l) : Red F l' m := by
 cases h with
 | refl h => exact .refl (hl.trans h)
 | step h1 h2 => exact .step (h1.rot hl (Rot.refl _)) h2
theorem Red.tail {l m k : List α} (h : Red F l m) (hs : Step F m k) : Red F l k := by
 induction h with
 | refl h => exact .step (hs.rot h (Rot.refl _)) (.refl (Rot.refl _))
 | step h1 _ ih => exact .step h1 (ih hs)
theorem Red.rev (A : Ax F) {l m : List α} (h : Red F l m) : Red F l.reverse m.reverse := by
 induction h with
 | refl h => exact .refl h.rev
 | step h1 _ ih => exact .step (h1.rev A) ih
def Nf (F : α -> α -> α -> Prop) (l : List α) : Prop := ∀ m, ¬ Step F l m
theorem push (A : Ax F) {n : List α} (hn : Nf F n) : ∀ (r:Nat) {l m : List α}, l.length <= r -> Red F l n -> Step F l m -> Red F m n
 | r, l, m, hr, hl, hm => by
   cases hl with
   | refl h => exact absurd (hm.rot h.symm (Rot.refl _)) (hn m)
   | step h1 h2 =>
     rename_i p
     rcases diamond A hm h1 with h | ⟨k, k1, k2⟩
     · exact h2.rot h
     · have := h1.len
       cases r with
       | zero => omega
       | succ r => exact .step k1 (push A hn r (by omega) h2 k2)
theorem uniq (A : Ax F) {l n n' : List α} (hn : Nf F n) (hn' : Nf F n') (h : Red F l n) (h' : Red F l n') : Rot n n' := by
 induction h' with
 | refl h1 =>
   cases h with
   | refl h2 => exact h2.symm.trans h1
   | step h2 _ => exact absurd (h2.rot h1.symm (Rot.refl _)) (hn' _)
 | step h1 _ ih => exact ih hn' (push A hn _ (Nat.le_refl _) h h1)
end Conf
open Conf in
def L.Fl (a b c : L.Pt) : Prop := L.cross a b c = 0
theorem vec0 {ex ey px py qx qy : Int} (he : ex ≠ 0 \/ ey ≠ 0) (h1 : ex * py = ey * px) (h2 : ex * qy = ey * qx) : px * qy = py * qx := by
 rcases he with he | he
 · have : ex * (px * qy - py * qx) = 0 := by grind
   rcases Int.mul_eq_zero.1 this with h | h
   · exact absurd h he
   · omega
 · have : ey * (px * qy - py * qx) = 0 := by grind
   rcases Int.mul_eq_zero.1 this with h | h
   · exact absurd h he
   · omega
theorem ax_fl : Conf.Ax L.Fl where
 flip := fun a b c h => by unfold L.Fl L.cross at *; grind
 line := fun a b c d h1 h2 hne => by
   unfold L.Fl L.cross at *
   have he : c.x - b.x ≠ 0 \/ c.y - b.y ≠ 0 := by
     by_cases h : c.x - b.x = 0
     · refine .inr fun h' => hne ?_
       have e1 : b.x = c.x := by omega
       have e2 : b.y = c.y := by omega
       cases b; cases c; simp only at e1 e2; rw [e1, e2]
     · exact .inl h
   have k1 : (c.x - b.x) * (a.y - b.y) = (c.y - b.y) * (a.x - b.x) := by grind
   have k2 : (c.x - b.x) * (d.y - b.y) = (c.y - b.y) * (d.x - b.x) := by grind
   have k3 := vec0 he k1 k2
   exact ⟨by grind, by grind⟩
 dup := fun a b => cross_dup a b
def L.toL (x : L.Sq L.Pt) : List L.Pt := (List.range x.n).map x.g
theorem toL_get (x : L.Sq L.Pt) (k:Nat) : (L.toL x)[k]? = if k < x.n then some (x.g k) else none := by
 unfold L.toL
 rw [List.getElem?_map]
 by_cases h : k < x.n
 · rw [if_pos h, List.getElem?_range h]; rfl
 · rw [if_neg h, List.getElem?_eq_none (by rw [List.length_range]; omega)]; rfl
theorem toL_len (x : L.Sq L.Pt) : (L.toL x).length = x.n := by unfold L.toL; rw [List.length_map, List.length_range]
theorem toL_ext {x y : L.Sq L.Pt} (h : L.toL x = L.toL y) : x.n = y.n /\ ∀ k, k < x.n -> x.g k = y.g k := by
 have hn : x.n = y.n := by rw [<- toL_len, h, toL_len]
 refine ⟨hn, fun k hk => ?_⟩
 have e := toL_get x k
 rw [h, toL_get, if_pos hk, if_pos (by omega)] at e
 exact (Option.some.inj e).symm
theorem toL_split {x : L.Sq L.Pt} {u v : List L.Pt} {b : L.Pt} (h : L.toL x = u ++ b :: v) : u.length < x.n /\ x.g u.length = b /\ x.n = u.length + 1 + v.length /\ (∀ k, k < u.length -> u[k]? = some (x.g k)) /\ ∀ k, k < v.length -> v[k]? = some (x.g (u.length + 1 + k)) := by
 have hn := toL_len x
 rw [h, List.length_append, List.length_cons] at hn
 refine ⟨by omega, ?_, by omega, fun k hk => ?_, fun k hk => ?_⟩
 · have e := toL_get x u.length
   rw [h, List.getElem?_append_right (Nat.le_refl _), Nat.sub_self, if_pos (by omega)] at e
   exact (Option.some.inj e).symm
 · have e := toL_get x k
   rw [h, List.getElem?_append_left hk, if_pos (by omega)] at e
   exact e
 · have e := toL_get x (u.length + 1 + k)
   rw [h, List.getElem?_append_right (by omega), show u.length + 1 + k - u.length = k + 1 by omega, List.getElem?_cons_succ, if_pos (by omega)] at e
   exact e
theorem split_of {x : L.Sq L.Pt} {i : Nat} (hi : i < x.n) : ∃ u v, L.toL x = u ++ x.g i :: v /\ u.length = i := by
 have hl : i < (L.toL x).length := by rw [toL_len]; exact hi
 refine ⟨(L.toL x).take i, (L.toL x).drop (i + 1), ?_, by rw [List.length_take]; omega⟩
 have e : (L.toL x)[i] = x.g i := by
   have := toL_get x i
   rw [if_pos hi, List.getElem?_eq_getElem hl] at this
   exact Option.some.inj this
 rw [<- e, <- List.drop_eq_getElem_cons hl, List.take_append_drop]
theorem prev_at {n i : Nat} (h : i < n) : L.prev n i = if i = 0 then n - 1 else i - 1 := by
 unfold L.prev
 by_cases h0 : i = 0
 · subst h0
   rw [if_pos rfl, Int.tmod_eq_of_lt (by omega) (by omega)]
   omega
 · rw [if_neg h0, Int.tmod_eq_emod_of_nonneg (by omega), show (i:Int) + (n:Int) - 1 = ((i:Int) - 1) + n by omega, Int.add_emod_right, Int.emod_eq_of_lt (by omega) (by omega)]
   omega
theorem next_at {n i : Nat} (h : i < n) : L.next n i = if i + 1 = n then 0 else i + 1 := by
 unfold L.next
 by_cases h0 : i + 1 = n
 · rw [if_pos h0, show (i:Int) + 1 = (n:Int) by omega, Int.tmod_self]; rfl
 · rw [if_neg h0, Int.tmod_eq_of_lt (by omega) (by omega)]
   omega
theorem ends {x : L.Sq L.Pt} {u v : List L.Pt} {b : L.Pt} (h : L.toL x = u ++ b :: v) : (v ++ u).getLastD b = x.g (L.prev x.n u.length) /\ (v ++ u).headD b = x.g (L.next x.n u.length) := by
 obtain ⟨h1, h2, h3, h4, h5⟩ := toL_split h
 constructor
 · rw [prev_at h1, List.getLastD_eq_getLast?, List.getLast?_append]
   by_cases hu : u.length = 0
   · rw [if_pos hu]
     obtain rfl := List.eq_nil_of_length_eq_zero hu
     rw [List.getLast?_nil, Option.none_or, List.getLast?_eq_getElem?]
     by_cases hv : v.length = 0
     · obtain rfl := List.eq_nil_of_length_eq_zero hv
       show b = _
       rw [<- h2]; congr 1; simp at h3 ⊢; omega
     · rw [h5 _ (by omega)]
       show x.g _ = x.g _
       congr 1; simp; omega
   · rw [if_neg hu, List.getLast?_eq_getElem? (l := u), h4 _ (by omega)]
     rfl
 · rw [next_at h1]
   cases v with
   | nil =>
     rw [if_pos (by simp at h3; omega), List.nil_append]
     cases u with
     | nil => exact h2.symm
     | cons z u =>
       have := h4 0 (by simp)
       exact Option.some.inj this
   | cons z v =>
     rw [if_neg (by simp at h3; omega)]
     exact Option.some.inj (h5 0 (by simp))
theorem toL_del {x : L.Sq L.Pt} {u v : List L.Pt} {b : L.Pt} (h : L.toL x = u ++ b :: v) : L.toL ⟨x.n - 1, L.delF x.g u.length x.n⟩ = u ++ v := by
 obtain ⟨h1, h2, h3, h4, h5⟩ := toL_split h
 refine List.ext_getElem? fun k => ?_
 rw [toL_get]
 show (if k < x.n - 1 then some (L.delF x.g u.length x.n k) else none) = _
 by_cases hk : k < x.n - 1
 · rw [if_pos hk]
   unfold L.delF
   by_cases hu : k < u.length
   · rw [decide_eq_true hu, List.getElem?_append_left hu, h4 k hu]; rfl
   · rw [decide_eq_false hu, decide_eq_true (show k + 1 < x.n by omega), List.getElem?_append_right (by omega), h5 _ (by omega), show u.length + 1 + (k - u.length) = k + 1 by omega]; rfl
 · rw [if_neg hk, List.getElem?_eq_none (by rw [List.length_append]; omega)]
open Conf
theorem out_step {c : L.Pt -> L.Pt -> L.Pt -> Bool} (hc : ∀ a b d, c a b d = true -> L.Fl a b d) {x : L.Sq L.Pt} {i : Nat} (hi : i < x.n) (h : L.outAt c x i = true) : Step L.Fl (L.toL x) (L.toL ⟨x.n - 1, L.delF x.g i x.n⟩) := by
 obtain ⟨u, v, e, hu⟩ := split_of hi
 obtain ⟨e1, e2⟩ := ends e
 have e3 := toL_del e
 rw [hu] at e1 e2 e3
 refine ⟨x.g i, v ++ u, ⟨u, x.g i :: v, e, rfl⟩, ?_, ?_⟩
 · rw [e1, e2]; exact hc _ _ _ h
 · rw [e3]; exact ⟨v, u, rfl, rfl⟩
theorem sharp_nf {x : L.Sq L.Pt} (h : L.sharp x) : Nf L.Fl (L.toL x) := by
 rintro m ⟨b, t, ⟨u, v, h1, h2⟩, h3, _⟩
 have fin : ∀ u v : List L.Pt, L.toL x = u ++ b :: v -> t = v ++ u -> False := fun u v e1 e2 => by
   obtain ⟨s1, s2, _, _, _⟩ := toL_split e1
   obtain ⟨p1, p2⟩ := ends e1
   rw [<- e2] at p1 p2
   have := h _ s1
   unfold L.outAt L.cFlat at this
   rw [s2, <- p1, <- p2] at this
   exact of_decide_eq_false this h3
 cases v with
 | nil =>
   rw [List.append_nil] at h1
   rw [List.nil_append] at h2
   exact fin [] t (by rw [h1, <- h2]; rfl) (List.append_nil _).symm
 | cons z v =>
   rw [List.cons_append] at h2
   obtain ⟨rfl, rfl⟩ := List.cons.inj h2
   exact fin u v h1 rfl
theorem thin_red {c : L.Pt -> L.Pt -> L.Pt -> Bool} (hc : ∀ a b d, c a b d = true -> L.Fl a b d) (x : L.Sq L.Pt) : Red L.Fl (L.toL x) (L.toL (L.thin c x)) :=
 thin_ind (Q := fun y => Red L.Fl (L.toL x) (L.toL y)) (fun _ _ h hi he => h.tail (out_step hc hi he)) (.refl (Rot.refl _))
theorem thinF_out {c : L.Pt -> L.Pt -> L.Pt -> Bool} : ∀ (k:Nat) (x : L.Sq L.Pt), x.n <= k -> ∀ i, i < (L.thinF c k x).n -> L.outAt c (L.thinF c k x) i = false
 | 0, x, h, i, hi => by
   have hi : i < x.n := hi
   omega
 | k + 1, x, h, i, hi => by
   revert hi
   show i < (bif decide (0 <= L.idx x.n (L.outAt c x)) then L.thinF c k ⟨x.n - 1, L.delF x.g (L.idx x.n (L.outAt c x)).toNat x.n⟩ else x).n -> L.outAt c (bif decide (0 <= L.idx x.n (L.outAt c x)) then L.thinF c k ⟨x.n - 1, L.delF x.g (L.idx x.n (L.outAt c x)).toNat x.n⟩ else x) i = false
   rcases idx_cases (f := L.outAt c x) (n := x.n) with ⟨h1, h2⟩ | ⟨p, h1, h2, h3, _⟩
   · rw [h1]; exact fun hi => h2 i hi
   · rw [h2, decide_eq_true (show (0:Int) <= (p:Int) by omega), cond_true]
     exact fun hi => thinF_out k _ (by show x.n - 1 <= k; omega) i hi
theorem dup_fl : ∀ a b d, L.cDup a b d = true -> L.Fl a b d := fun a b d h => by
 have : b = d := same_eq h
 subst this
 exact cross_dup _ _
theorem flat_fl : ∀ a b d, L.cFlat a b d = true -> L.Fl a b d := fun a b d h => of_decide_eq_true (p := L.cross a b d = 0) h
theorem red_trans {l m k : List L.Pt} (h : Red L.Fl l m) (h' : Red L.Fl m k) : Red L.Fl l k := by
 induction h with
 | refl h => exact h'.rot h
 | step h1 _ ih => exact .step h1 (ih h')
theorem str_red (x : L.Sq L.Pt) : Red L.Fl (L.toL x) (L.toL (L.str x)) := red_trans (thin_red dup_fl x) (thin_red flat_fl _)
theorem str_sharp (x : L.Sq L.Pt) : L.sharp (L.str x) := fun i hi => thinF_out _ _ (Nat.le_refl _) i hi
theorem str_uniq {x y : L.Sq L.Pt} (h : Red L.Fl (L.toL x) (L.toL y)) (hy : L.sharp y) : Rot (L.toL (L.str x)) (L.toL y) :=
 uniq ax_fl (sharp_nf (str_sharp x)) (sharp_nf hy) (str_red x) h
theorem toL_rev (x : L.Sq L.Pt) : L.toL (L.revG x) = (L.toL x).reverse := by
 refine List.ext_getElem? fun k => ?_
 rw [toL_get]
 show (if k < x.n then some (x.g (x.n - 1 - k)) else none) = _
 by_cases h : k < x.n
 · rw [if_pos h, List.getElem?_reverse (by rw [toL_len]; exact h), toL_get, toL_len, if_pos (by omega)]
 · rw [if_neg h, List.getElem?_eq_none (by rw [List.length_reverse, toL_len]; omega)]
end Go.Proofs.YtaklapjfnejlbaaGreat
namespace Go.Proofs.YtaklapjfnejlbaaGreat
open Go.SE Go.RowKit
set_option maxRecDepth 100000
set_option maxHeartbeats 4000000
set_option linter.unusedVariables false
attribute [local irreducible] vc
open Conf
theorem sm_congr {f g : Int -> Int} (h : ∀ i, f i = g i) : ∀ k, L.sm f k = L.sm g k
 | 0 => rfl
 | k + 1 => by rw [L.sm, L.sm, sm_congr h k, h]
theorem sm_left {f : Int -> Int} : ∀ k, L.sm f (k + 1) = f 0 + L.sm (fun i => f (i + 1)) k
 | 0 => by show 0 + f 0 = f 0 + 0; omega
 | k + 1 => by
   rw [L.sm, sm_left k]
   show f 0 + L.sm (fun i => f (i + 1)) k + f ((k + 1:Nat):Int) = f 0 + (L.sm (fun i => f (i + 1)) k + f ((k:Int) + 1))
   rw [show ((k + 1:Nat):Int) = (k:Int) + 1 by omega]
   omega
theorem sm_rev {f : Int -> Int} : ∀ k : Nat, L.sm (fun i => f ((k:Int) - 1 - i)) k = L.sm f k
 | 0 => rfl
 | k + 1 => by
   rw [sm_left, L.sm]
   have e : L.sm (fun i => f (((k + 1:Nat):Int) - 1 - (i + 1))) k = L.sm (fun i => f ((k:Int) - 1 - i)) k := sm_congr (fun i => by rw [show ((k + 1:Nat):Int) - 1 - (i + 1) = (k:Int) - 1 - i by omega]) k
   rw [e, sm_rev k, show ((k + 1:Nat):Int) - 1 - 0 = (k:Int) by omega]
   omega
theorem sm_neg {f : Int -> Int} : ∀ k, L.sm (fun i => - f i) k = - L.sm f k
 | 0 => rfl
 | k + 1 => by rw [L.sm, L.sm, sm_neg k]; omega
theorem ix_neg {n : Nat} (hn : 0 < n) (a:Int) : n - 1 - L.ix n a = L.ix n (-1 - a) := by
 have h1 := ix_emod (a := a) hn
 have h2 := ix_emod (a := -1 - a) hn
 have h3 := ix_lt (n := n) (i := a) hn
 have h4 : (-1 - a) % (n:Int) = (n:Int) - 1 - ((L.ix n a:Nat):Int) := by
   rw [h1]
   have e : (-1 - a) % (n:Int) = ((n:Int) - 1 - a % (n:Int)) % (n:Int) := by
     rw [Int.sub_emod (n - 1:Int) (a % (n:Int)), Int.emod_emod, <- Int.sub_emod, show (n:Int) - 1 - a = -1 - a + n by omega, Int.add_emod_right]
   rw [e, Int.emod_eq_of_lt (by omega) (by omega)]
 omega
theorem rot_cy {x y : L.Sq L.Pt} (hn : 0 < x.n) (h : Rot (L.toL x) (L.toL y)) : y.n = x.n /\ ∃ c : Nat, ∀ a, L.cy y a = L.cy x (a + c) := by
 have en : y.n = x.n := by rw [<- toL_len, <- toL_len x, h.len]
 refine ⟨en, ?_⟩
 obtain ⟨u, v, h1, h2⟩ := h
 have lx := toL_len x
 rw [h1, List.length_append] at lx
 refine ⟨u.length, fun a => ?_⟩
 have key : ∀ k : Nat, k < x.n -> y.g k = L.cy x ((k:Int) + u.length) := fun k hk => by
   have e := toL_get y k
   rw [h2, if_pos (by omega)] at e
   by_cases hv : k < v.length
   · rw [List.getElem?_append_left hv] at e
     have e' := toL_get x (u.length + k)
     rw [h1, List.getElem?_append_right (by omega), show u.length + k - u.length = k by omega, if_pos (by omega), e] at e'
     rw [Option.some.inj e', show (k:Int) + (u.length:Int) = ((u.length + k:Nat):Int) by omega, cy_nat (by omega)]
   · rw [List.getElem?_append_right (by omega)] at e
     have e' := toL_get x (k - v.length)
     rw [h1, List.getElem?_append_left (by omega), if_pos (by omega), e] at e'
     rw [Option.some.inj e', cy_per (l := x) hn (a := (k:Int) + u.length) (b := ((k - v.length:Nat):Int)) (by
       rw [show (k:Int) + (u.length:Int) = ((k - v.length:Nat):Int) + x.n by omega, Int.add_emod_right]), cy_nat (by omega)]
 have hk := ix_lt (n := x.n) (i := a) hn
 have := key _ hk
 rw [cy_ix hn] at this
 rw [<- this]
 unfold L.cy
 rw [en]
theorem rev_cy {x : L.Sq L.Pt} (hn : 0 < x.n) (a:Int) : L.cy (L.revG x) a = L.cy x (-1 - a) := by
 show x.g (x.n - 1 - L.ix x.n a) = x.g (L.ix x.n (-1 - a))
 rw [ix_neg hn]
theorem ct_perP {x : L.Sq L.Pt} (hn : 0 < x.n) : PArea.per x.n (L.ct x) := fun a b h => by
 unfold L.ct; rw [cy_per hn h, cy_per hn (PArea.succ_mod h 1)]
theorem area_rot {x y : L.Sq L.Pt} (hn : 0 < x.n) (h : Rot (L.toL x) (L.toL y)) : L.areaTo y y.n = L.areaTo x x.n := by
 obtain ⟨e, c, hc⟩ := rot_cy hn h
 rw [area_sm (Nat.le_refl _), area_sm (Nat.le_refl _), e, sm_P, sm_P, <- PArea.sm_shift c (ct_perP hn)]
 refine PArea.sm_cong fun i _ => ?_
 unfold L.ct
 rw [hc, hc, show (i:Int) + 1 + (c:Int) = i + c + 1 by omega]
theorem area_rev {x : L.Sq L.Pt} (hn : 0 < x.n) : L.areaTo (L.revG x) x.n = - L.areaTo x x.n := by
 rw [show L.areaTo (L.revG x) x.n = L.sm (L.ct (L.revG x)) x.n from area_sm (l := L.revG x) (Nat.le_refl _), area_sm (Nat.le_refl _), <- sm_neg]
 have e1 : ∀ a, L.ct (L.revG x) a = - L.ct x (-2 - a) := fun a => by
   unfold L.ct
   rw [rev_cy hn, rev_cy hn, show -1 - (a + 1) = -2 - a by omega, show -2 - a + 1 = -1 - a by omega]
   unfold L.tm; omega
 rw [sm_congr e1, <- sm_rev (f := fun i => - L.ct x (-2 - i))]
 have e2 : ∀ i : Int, - L.ct x (-2 - ((x.n:Int) - 1 - i)) = - L.ct x (i + ((x.n - 1:Nat):Int)) := fun i => by
   rw [ct_perP hn (-2 - ((x.n:Int) - 1 - i)) (i + ((x.n - 1:Nat):Int)) (by
     rw [show i + ((x.n - 1:Nat):Int) = -2 - ((x.n:Int) - 1 - i) + x.n + x.n by omega, Int.add_emod_right, Int.add_emod_right])]
 rw [sm_congr e2, sm_neg, sm_neg, sm_P, sm_P, PArea.sm_shift _ (ct_perP hn)]
theorem simple_rot {x y : L.Sq L.Pt} (hn : 0 < x.n) (hs : L.simple x = true) (h : Rot (L.toL x) (L.toL y)) : L.simple y = true := by
 obtain ⟨e, c, hc⟩ := rot_cy hn h
 refine simple_of fun a b hab => ?_
 rw [e] at hab ⊢
 have := simpC_of hn hs (a + c) (b + c) (fun h => hab (PArea.pred_mod h))
 rw [hc, hc, hc, hc, show a + 1 + (c:Int) = a + c + 1 by omega, show b + 1 + (c:Int) = b + c + 1 by omega, this, show b + (c:Int) - (a + c) = b - a by omega, show a + (c:Int) - (b + c) = a - b by omega]
theorem simple_rev {x : L.Sq L.Pt} (hn : 0 < x.n) (hs : L.simple x = true) : L.simple (L.revG x) = true := by
 refine simple_of fun a b hab => ?_
 have hab : a % (x.n:Int) ≠ b % (x.n:Int) := hab
 show _ = if (b - a) % (x.n:Int) = 1 \/ (a - b) % (x.n:Int) = 1 then (1:Int) else 0
 have := simpC_of hn hs (-2 - a) (-2 - b) (fun h => hab (by
   have e1 := PArea.succ_mod h (a + b + 2)
   rw [show -2 - a + (a + b + 2) = b by omega, show -2 - b + (a + b + 2) = a by omega] at e1
   exact e1.symm))
 rw [rev_cy hn, rev_cy hn, rev_cy hn, rev_cy hn, meet_rev2, show -1 - (a + 1) = -2 - a by omega, show -1 - (b + 1) = -2 - b by omega, show -1 - a = -2 - a + 1 by omega, show -1 - b = -2 - b + 1 by omega, this, show -2 - b - (-2 - a) = a - b by omega, show -2 - a - (-2 - b) = b - a by omega]
 by_cases c : (b - a) % (x.n:Int) = 1 \/ (a - b) % (x.n:Int) = 1
 · rw [if_pos c, if_pos c.symm]
 · rw [if_neg c, if_neg (fun h => c h.symm)]
theorem sharp_of {x : L.Sq L.Pt} (h : ∀ a, L.cross (L.cy x (a - 1)) (L.cy x a) (L.cy x (a + 1)) ≠ 0) : L.sharp x := fun i hi => by
 have := h (i:Int)
 rw [cy_nat hi, cy_next hi, show L.cy x ((i:Int) - 1) = x.g (L.prev x.n i) by unfold L.cy; rw [ix_prev hi]] at this
 exact decide_eq_false this
theorem sharp_rev {x : L.Sq L.Pt} (hn : 0 < x.n) (hc : L.sharp x) : L.sharp (L.revG x) := by
 refine sharp_of fun a => ?_
 have := sharp_cy hn hc (-1 - a)
 rw [rev_cy hn, rev_cy hn, rev_cy hn, show -1 - (a - 1) = -1 - a + 1 by omega, show -1 - (a + 1) = -1 - a - 1 by omega]
 exact fun h => this (ax_fl.flip _ _ _ h)
theorem mem_toL {x : L.Sq L.Pt} {p : L.Pt} : p ∈ L.toL x ↔ ∃ k, k < x.n /\ x.g k = p := by
 unfold L.toL
 rw [List.mem_map]
 exact ⟨fun ⟨k, h1, h2⟩ => ⟨k, List.mem_range.1 h1, h2⟩, fun ⟨k, h1, h2⟩ => ⟨k, List.mem_range.2 h1, h2⟩⟩
theorem nodup_toL {x : L.Sq L.Pt} (h3 : 3 <= x.n) (hs : L.simple x = true) (hc : L.sharp x) : (L.toL x).Nodup := by
 unfold L.toL List.Nodup
 rw [List.pairwise_map]
 refine List.Pairwise.imp_of_mem (R := fun a b => a < b) (fun {a b} ha hb hab e => ?_) List.pairwise_lt_range
 rw [List.mem_range] at ha hb
 have := sharp_inj h3 hs hc (a := (a:Int)) (b := (b:Int)) (by rw [cy_nat ha, cy_nat hb, e])
 rw [Int.emod_eq_of_lt (by omega) (by omega), Int.emod_eq_of_lt (by omega) (by omega)] at this
 omega
theorem norm_rot {x : L.Sq L.Pt} (h1 : 1 <= x.n) : Rot (L.toL (L.flip x)) (L.toL (L.norm x)) /\ (L.norm x).g 0 = L.minTo (L.flip x) (x.n - 1) := by
 have hf := flip_n x
 obtain ⟨i, k1, k2, k3⟩ := minIdx (l := L.flip x) (by omega)
 have hK : L.minK (L.flip x) = i := by unfold L.minK; rw [k2]; rfl
 rw [hf] at k1 k3
 constructor
 · refine ⟨(L.toL (L.flip x)).take i, (L.toL (L.flip x)).drop i, (List.take_append_drop _ _).symm, ?_⟩
   have lf := toL_len (L.flip x)
   refine List.ext_getElem? fun k => ?_
   rw [toL_get]
   show (if k < x.n then some ((L.rot (L.flip x) (L.minK (L.flip x))).g k) else none) = _
   rw [hK]
   by_cases hk : k < x.n
   · rw [if_pos hk]
     show some (bif decide (k < (L.flip x).n - i) then (L.flip x).g (i + k) else (L.flip x).g (k - ((L.flip x).n - i))) = _
     by_cases hd : k < (L.flip x).n - i
     · rw [decide_eq_true hd, List.getElem?_append_left (by rw [List.length_drop]; omega), List.getElem?_drop, toL_get, if_pos (by omega)]; rfl
     · rw [decide_eq_false hd, List.getElem?_append_right (by rw [List.length_drop]; omega), List.getElem?_take, List.length_drop, lf, if_pos (by omega), toL_get, if_pos (by omega)]; rfl
   · rw [if_neg hk, List.getElem?_eq_none (by rw [List.length_append, List.length_drop, List.length_take]; omega)]
 · show (L.rot (L.flip x) (L.minK (L.flip x))).g 0 = _
   rw [hK]
   show (bif decide (0 < (L.flip x).n - i) then (L.flip x).g (i + 0) else (L.flip x).g (0 - ((L.flip x).n - i))) = _
   rw [decide_eq_true (by omega), Nat.add_zero, <- k3]; rfl
theorem cmp_anti {a b : L.Pt} (h1 : ¬ L.cmpPt a b < 0) (h2 : ¬ L.cmpPt b a < 0) : a = b := by
 rw [cmpPt_lt] at h1 h2
 have e1 : a.x = b.x := by omega
 have e2 : a.y = b.y := by omega
 cases a; cases b; simp only at e1 e2; rw [e1, e2]
theorem min_mem {x : L.Sq L.Pt} (h1 : 1 <= x.n) {p : L.Pt} (hp : p ∈ L.toL x) : ¬ L.cmpPt p (L.minTo x (x.n - 1)) < 0 := by
 obtain ⟨k, hk, rfl⟩ := mem_toL.1 hp
 exact minTo_le (by omega)
theorem norm_eq {x y : L.Sq L.Pt} (h1 : 1 <= x.n) (hd : (L.toL (L.flip x)).Nodup) (h : Rot (L.toL (L.flip x)) (L.toL (L.flip y))) : L.toL (L.norm x) = L.toL (L.norm y) := by
 have hxy : x.n = y.n := by
   have := h.len
   rwa [toL_len, toL_len, flip_n, flip_n] at this
 obtain ⟨rx, mx⟩ := norm_rot (x := x) h1
 obtain ⟨ry, my⟩ := norm_rot (x := y) (by omega)
 have r := rx.symm.trans (h.trans ry)
 have hx : ∃ l, L.toL (L.norm x) = (L.norm x).g 0 :: l := by
   obtain ⟨u, v, e, hu⟩ := split_of (x := L.norm x) (i := 0) h1
   obtain rfl := List.eq_nil_of_length_eq_zero hu
   exact ⟨v, e⟩
 have hy : ∃ l, L.toL (L.norm y) = (L.norm y).g 0 :: l := by
   obtain ⟨u, v, e, hu⟩ := split_of (x := L.norm y) (i := 0) (show 0 < y.n by omega)
   obtain rfl := List.eq_nil_of_length_eq_zero hu
   exact ⟨v, e⟩
 obtain ⟨l, el⟩ := hx
 obtain ⟨m, em⟩ := hy
 have a1 : (L.norm y).g 0 ∈ L.toL (L.flip x) := (h.trans ry).mem.2 (by rw [em]; exact List.mem_cons_self)
 have a2 : (L.norm x).g 0 ∈ L.toL (L.flip y) := (h.symm.trans rx).mem.2 (by rw [el]; exact List.mem_cons_self)
 have b1 := min_mem (x := L.flip x) (by rw [flip_n]; exact h1) a1
 have b2 := min_mem (x := L.flip y) (by rw [flip_n]; omega) a2
 rw [flip_n, <- mx] at b1
 rw [flip_n, <- my] at b2
 have e0 := cmp_anti b2 b1
 rw [el, em, e0] at r ⊢
 rw [r.eq (by
   have := rx.nodup hd
   rwa [el, e0] at this)]
end Go.Proofs.YtaklapjfnejlbaaGreat
namespace Go.Proofs.YtaklapjfnejlbaaGreat
open Go.SE Go.RowKit
set_option maxRecDepth 100000
set_option maxHeartbeats 4000000
set_option linter.unusedVariables false
attribute [local irreducible] vc
open Conf
def L.good (x : L.Sq L.Pt) : Prop := 3 <= x.n /\ x.n <= 24 /\ L.validPts x = true /\ L.simple x = true /\ L.sharp x
theorem valid_mem {x : L.Sq L.Pt} : L.validPts x = true ↔ ∀ p, p ∈ L.toL x -> L.validPt p = true := by
 unfold L.validPts
 rw [allB_iff]
 exact ⟨fun h p hp => by obtain ⟨k, hk, rfl⟩ := mem_toL.1 hp; exact h k hk, fun h k hk => h _ (mem_toL.2 ⟨k, hk, rfl⟩)⟩
theorem good_rev {x : L.Sq L.Pt} (h : L.good x) : L.good (L.revG x) := by
 obtain ⟨h1, h2, h3, h4, h5⟩ := h
 refine ⟨h1, h2, valid_mem.2 (fun p hp => valid_mem.1 h3 p ?_), simple_rev (by omega) h4, sharp_rev (by omega) h5⟩
 rw [toL_rev] at hp
 exact List.mem_reverse.1 hp
theorem good_bd {x : L.Sq L.Pt} (h : L.good x) : L.allBd x := small_of_valid (by have := h.2.1; omega) h.2.2.1
theorem good_area {x : L.Sq L.Pt} (h : L.good x) : L.areaTo x x.n ≠ 0 := area_ne0 h.1 (good_bd h) h.2.2.2.1 h.2.2.2.2
theorem flip_or (x : L.Sq L.Pt) : (L.areaTo x x.n < 0 /\ L.flip x = L.revG x) \/ (¬ L.areaTo x x.n < 0 /\ L.flip x = x) := by
 by_cases h : L.areaTo x x.n < 0
 · exact .inl ⟨h, flip_neg (decide_eq_true h)⟩
 · exact .inr ⟨h, flip_pos (decide_eq_false h)⟩
theorem good_flip {x : L.Sq L.Pt} (h : L.good x) : L.good (L.flip x) := by
 rcases flip_or x with ⟨_, e⟩ | ⟨_, e⟩ <;> rw [e]
 · exact good_rev h
 · exact h
theorem nodup_good {x : L.Sq L.Pt} (h : L.good x) : (L.toL x).Nodup := nodup_toL h.1 h.2.2.2.1 h.2.2.2.2
theorem norm_same {x y : L.Sq L.Pt} (hx : L.good x) (h : Rot (L.toL x) (L.toL y) \/ Rot (L.toL x).reverse (L.toL y)) : L.toL (L.norm x) = L.toL (L.norm y) := by
 have h3 := hx.1
 refine norm_eq (by omega) (nodup_good (good_flip hx)) ?_
 have hne := good_area hx
 rcases h with h | h
 · have ha := area_rot (by omega) h
   rcases flip_or x with ⟨g, e⟩ | ⟨g, e⟩ <;> rcases flip_or y with ⟨g', e'⟩ | ⟨g', e'⟩ <;> rw [e, e']
   · rw [toL_rev, toL_rev]; exact h.rev
   · omega
   · omega
   · exact h
 · have ha : L.areaTo y y.n = - L.areaTo x x.n := by
     rw [<- area_rev (by omega)]
     rw [<- toL_rev] at h
     exact area_rot (x := L.revG x) (by show 0 < x.n; omega) h
   rcases flip_or x with ⟨g, e⟩ | ⟨g, e⟩ <;> rcases flip_or y with ⟨g', e'⟩ | ⟨g', e'⟩ <;> rw [e, e']
   · omega
   · rw [toL_rev]; exact h
   · rw [toL_rev]
     have := h.rev
     rwa [List.reverse_reverse] at this
   · omega
theorem valid_thin {c : L.Pt -> L.Pt -> L.Pt -> Bool} {x : L.Sq L.Pt} (h : L.validPts x = true) : L.validPts (L.thin c x) = true :=
 thin_ind (Q := fun y => L.validPts y = true) (fun y i h hi _ => allB_iff.2 fun k hk => by
   have h := allB_iff.1 h
   have hk : k < y.n - 1 := hk
   show L.validPt (L.delF y.g i y.n k) = true
   unfold L.delF
   cases decide (k < i) with
   | true => exact h k (by omega)
   | false => rw [decide_eq_true (show k + 1 < y.n by omega)]; exact h (k + 1) (by omega)) h
theorem out_zero {l : L.Sq L.Pt} (h : L.outE l = 0) : L.good (L.str l) /\ L.outN l = (L.str l).n := by
 have hN : L.outN l = (L.str l).n := by unfold L.outN; rw [h]; rfl
 unfold L.outE at h
 cases h1 : (bif !L.within (l.n:Int) 3 400 then true else !L.validPts l) with
 | true => rw [h1] at h; cases h
 | false =>
   rw [h1] at h
   cases h2 : L.flat l with
   | true => rw [h2] at h; cases h
   | false =>
     rw [h2] at h
     cases h3 : (bif decide (((L.str l).n:Int) < 3) then true else !L.simple (L.str l)) with
     | true => rw [h3] at h; cases h
     | false =>
       rw [h3] at h
       cases h4 : decide ((24:Int) < ((L.str l).n:Int)) with
       | true => rw [h4] at h; cases h
       | false =>
         have m24 := of_decide_eq_false h4
         rw [bor, Bool.or_eq_false_iff] at h3
         have m3 := of_decide_eq_false h3.1
         exact ⟨⟨by omega, by omega, valid_thin (valid_thin (out_of h1).2.2), notF h3.2, str_sharp l⟩, hN⟩
theorem flat_cross {x : L.Sq L.Pt} (h : L.flat x = true) {a b c : Nat} (ha : a < x.n) (hb : b < x.n) (hc : c < x.n) : L.cross (x.g a) (x.g b) (x.g c) = 0 := by
 unfold L.flat L.far at h
 rcases idx_cases (f := fun i => !L.same (x.g i) (x.g 0)) (n := x.n) with ⟨q1, q2⟩ | ⟨i, q1, q2, q3, _⟩
 · have e : ∀ k, k < x.n -> x.g k = x.g 0 := fun k hk => same_eq (notF (q2 k hk))
   rw [e a ha, e b hb, e c hc]
   exact cross_dup _ _
 · rw [q2, decide_eq_false (show ¬ (i:Int) < 0 by omega), cond_false, Int.toNat_natCast] at h
   have h := notT h
   have line : ∀ k, k < x.n -> L.cross (x.g 0) (x.g i) (x.g k) = 0 := fun k hk => by
     cases e : decide (L.cross (x.g 0) (x.g i) (x.g k) = 0) with
     | true => exact of_decide_eq_true e
     | false =>
       have : L.anyB x.n (fun k => !decide (L.cross (x.g 0) (x.g i) (x.g k) = 0)) = true := anyB_iff.2 ⟨k, hk, by rw [e]; rfl⟩
       rw [h] at this; cases this
   have l1 := line a ha
   have l2 := line b hb
   have l3 := line c hc
   have q3 : (!L.same (x.g i) (x.g 0)) = true := q3
   have hne : x.g i ≠ x.g 0 := fun e => by rw [e, same_refl] at q3; cases q3
   generalize x.g a = p at *
   generalize x.g b = q at *
   generalize x.g c = r at *
   generalize x.g i = f at *
   generalize x.g 0 = o at *
   unfold L.cross at *
   have he : f.x - o.x ≠ 0 \/ f.y - o.y ≠ 0 := by
     by_cases g : f.x - o.x = 0
     · refine .inr fun g' => hne ?_
       have e1 : f.x = o.x := by omega
       have e2 : f.y = o.y := by omega
       cases f; cases o; simp only at e1 e2; rw [e1, e2]
     · exact .inl g
   have := vec0 (ex := f.x - o.x) (ey := f.y - o.y) (px := q.x - p.x) (py := q.y - p.y) (qx := r.x - p.x) (qy := r.y - p.y) he (by grind) (by grind)
   grind
theorem not_flat {x y : L.Sq L.Pt} (h : L.good x) (hm : ∀ p, p ∈ L.toL x -> p ∈ L.toL y) : L.flat y = false := by
 cases e : L.flat y with
 | false => rfl
 | true =>
   have h3 := h.1
   have hs := h.2.2.2.2 0 (by omega)
   unfold L.outAt L.cFlat at hs
   have hs := of_decide_eq_false hs
   obtain ⟨a, ha, ea⟩ := mem_toL.1 (hm _ (mem_toL.2 ⟨_, prev_lt (n := x.n) (k := 0) (by omega), rfl⟩))
   obtain ⟨b, hb, eb⟩ := mem_toL.1 (hm _ (mem_toL.2 ⟨0, by omega, rfl⟩))
   obtain ⟨c, hc, ec⟩ := mem_toL.1 (hm _ (mem_toL.2 ⟨_, next_lt (n := x.n) (k := 0) (by omega), rfl⟩))
   have := flat_cross e ha hb hc
   rw [ea, eb, ec] at this
   exact absurd this hs
theorem outE_of {y : L.Sq L.Pt} (h3 : 3 <= y.n) (h4 : y.n <= 400) (hv : L.validPts y = true) (hf : L.flat y = false) (hg : L.good (L.str y)) : L.outE y = 0 := by
 unfold L.outE
 have h1 : L.within (y.n:Int) 3 400 = true := by unfold L.within; rw [decide_eq_true (show (3:Int) <= (y.n:Int) by omega), decide_eq_true (show (y.n:Int) <= 400 by omega)]; rfl
 have g1 := hg.1
 have g2 := hg.2.1
 rw [h1, hv, hf, hg.2.2.2.1, decide_eq_false (show ¬ ((L.str y).n:Int) < 3 by omega), decide_eq_false (show ¬ (24:Int) < ((L.str y).n:Int) by omega)]
 rfl
theorem str_good {x : L.Sq L.Pt} (h : L.good x) : L.str x = x := by
 have e1 : L.thin L.cDup x = x := thin_end (f := x.g) fun i hi => by
   cases e : L.outAt L.cDup ⟨x.n, x.g⟩ i with
   | false => rfl
   | true =>
     have h1 := h.2.2.2.2 i hi
     have h2 : L.cross (x.g (L.prev x.n i)) (x.g i) (x.g (L.next x.n i)) = 0 := dup_fl _ _ _ e
     unfold L.outAt L.cFlat at h1
     exact absurd h2 (of_decide_eq_false h1)
 unfold L.str
 rw [e1]
 exact thin_end (f := x.g) fun i hi => h.2.2.2.2 i hi
theorem again {x : L.Sq L.Pt} (h : L.good x) : L.outE x = 0 /\ L.outN x = x.n := by
 have h3 := h.1
 have h24 := h.2.1
 have e : L.outE x = 0 := outE_of h3 (by omega) h.2.2.1 (not_flat h fun _ hp => hp) (by rw [str_good h]; exact h)
 refine ⟨e, ?_⟩
 unfold L.outN; rw [e, str_good h]; rfl
end Go.Proofs.YtaklapjfnejlbaaGreat
namespace Go.Proofs.YtaklapjfnejlbaaGreat
open Go.SE Go.RowKit
set_option maxRecDepth 100000
set_option maxHeartbeats 4000000
set_option linter.unusedVariables false
attribute [local irreducible] vc
open Conf
def L.vp (x y:Int) : Prop := 0 < x \/ (x = 0 /\ 0 < y)
def L.vn (x y:Int) : Prop := 0 < x \/ (x = 0 /\ 0 <= y)
theorem half_id1 (ux uy vx vy wx wy:Int) : (ux * wy - uy * wx) * vx = (ux * vy - uy * vx) * wx + (vx * wy - vy * wx) * ux := by grind
theorem pos_of_mul {a b : Int} (hb : 0 < b) (h : 0 < a * b) : 0 < a := by
 rcases Int.lt_or_le 0 a with g | g
 · exact g
 · have := Int.mul_nonpos_of_nonpos_of_nonneg g (Int.le_of_lt hb); omega
theorem half_w {ux uy vx vy wx wy : Int} (hu : L.vn ux uy) (hv : L.vp vx vy) (hw : L.vn wx wy) (h1 : 0 <= ux * vy - uy * vx) (h2 : 0 <= vx * wy - vy * wx) : 0 <= ux * wy - uy * wx := by
 have i1 := half_id1 ux uy vx vy wx wy
 rcases hv with hv | ⟨rfl, hv⟩
 · have a1 : 0 <= (ux * vy - uy * vx) * wx := Int.mul_nonneg h1 (by unfold L.vn at hw; omega)
   have a2 : 0 <= (vx * wy - vy * wx) * ux := Int.mul_nonneg h2 (by unfold L.vn at hu; omega)
   rcases Int.lt_or_le (ux * wy - uy * wx) 0 with g | g
   · have := Int.mul_neg_of_neg_of_pos g hv; omega
   · exact g
 · have hwx : wx = 0 := by
     rcases hw with hw | hw
     · have := Int.mul_pos hv hw; rw [Int.zero_mul] at h2; omega
     · exact hw.1
   subst hwx
   have : 0 <= ux := by unfold L.vn at hu; omega
   have hwy : 0 <= wy := by unfold L.vn at hw; omega
   have := Int.mul_nonneg this hwy
   rw [Int.mul_zero]; omega
theorem half_r {ux uy vx vy wx wy : Int} (hu : L.vn ux uy) (hv : L.vp vx vy) (hw : L.vp wx wy) (h1 : 0 < ux * vy - uy * vx) (h2 : 0 <= vx * wy - vy * wx) : 0 < ux * wy - uy * wx := by
 have i1 := half_id1 ux uy vx vy wx wy
 rcases hv with hv | ⟨rfl, hv⟩
 · have hux : 0 <= ux := by unfold L.vn at hu; omega
   have a2 : 0 <= (vx * wy - vy * wx) * ux := Int.mul_nonneg h2 hux
   rcases hw with hw | ⟨rfl, hw⟩
   · have a1 := Int.mul_pos h1 hw
     exact pos_of_mul hv (by omega)
   · have hp : 0 < vx * wy := Int.mul_pos hv hw
     rcases Int.lt_or_le 0 ux with g | g
     · have := Int.mul_pos g hw; rw [Int.mul_zero]; omega
     · obtain rfl : ux = 0 := by omega
       have huy : 0 <= uy := by unfold L.vn at hu; omega
       have := Int.mul_nonneg huy (Int.le_of_lt hv)
       rw [Int.zero_mul] at h1; omega
 · have hwx : wx = 0 := by
     rcases hw with hw | hw
     · have := Int.mul_pos hv hw; rw [Int.zero_mul] at h2; omega
     · exact hw.1
   subst hwx
   have hwy : 0 < wy := by unfold L.vp at hw; omega
   have h1 : 0 < ux * vy := by rw [Int.mul_zero] at h1; omega
   have := Int.mul_pos (pos_of_mul hv h1) hwy
   rw [Int.mul_zero]; omega
theorem half_l {ux uy vx vy wx wy : Int} (hu : L.vp ux uy) (hv : L.vp vx vy) (hw : L.vn wx wy) (h1 : 0 <= ux * vy - uy * vx) (h2 : 0 < vx * wy - vy * wx) : 0 < ux * wy - uy * wx := by
 have i1 := half_id1 ux uy vx vy wx wy
 rcases hv with hv | ⟨rfl, hv⟩
 · have hwx : 0 <= wx := by unfold L.vn at hw; omega
   have a1 : 0 <= (ux * vy - uy * vx) * wx := Int.mul_nonneg h1 hwx
   rcases hu with hu | ⟨rfl, hu⟩
   · have a2 := Int.mul_pos h2 hu
     exact pos_of_mul hv (by omega)
   · have := Int.mul_pos hu hv
     rw [Int.zero_mul] at h1; omega
 · have h2 : 0 < - (vy * wx) := by rw [Int.zero_mul] at h2; omega
   have hwx : 0 <= wx := by unfold L.vn at hw; omega
   have := Int.mul_nonneg (Int.le_of_lt hv) hwx
   omega
def L.slt (s:Int) (a b : L.Pt) : Prop := L.vp (s * (b.x - a.x)) (s * (b.y - a.y))
def L.sle (s:Int) (a b : L.Pt) : Prop := L.vn (s * (b.x - a.x)) (s * (b.y - a.y))
theorem sgn_mul {s : Int} (hs : s = 1 \/ s = -1) (a b:Int) : s * a * (s * b) = a * b := by
 rcases hs with rfl | rfl <;> grind
theorem slt_sle {s : Int} {a b : L.Pt} (h : L.slt s a b) : L.sle s a b := by unfold L.slt L.sle L.vp L.vn at *; omega
theorem slt_trans {s : Int} {a b c : L.Pt} (h : L.slt s a b) (k : L.slt s b c) : L.slt s a c := by
 unfold L.slt L.vp at *
 rw [show c.x - a.x = (b.x - a.x) + (c.x - b.x) by omega, show c.y - a.y = (b.y - a.y) + (c.y - b.y) by omega, Int.mul_add, Int.mul_add]; omega
theorem slt_sle_trans {s : Int} {a b c : L.Pt} (h : L.slt s a b) (k : L.sle s b c) : L.slt s a c := by
 unfold L.slt L.sle L.vp L.vn at *
 rw [show c.x - a.x = (b.x - a.x) + (c.x - b.x) by omega, show c.y - a.y = (b.y - a.y) + (c.y - b.y) by omega, Int.mul_add, Int.mul_add]; omega
theorem sle_slt_trans {s : Int} {a b c : L.Pt} (h : L.sle s a b) (k : L.slt s b c) : L.slt s a c := by
 unfold L.slt L.sle L.vp L.vn at *
 rw [show c.x - a.x = (b.x - a.x) + (c.x - b.x) by omega, show c.y - a.y = (b.y - a.y) + (c.y - b.y) by omega, Int.mul_add, Int.mul_add]; omega
theorem sle_refl (s:Int) (a : L.Pt) : L.sle s a a := by
 unfold L.sle L.vn; rw [Int.sub_self, Int.sub_self, Int.mul_zero]; omega
theorem sle_or {s : Int} (hs : s = 1 \/ s = -1) {a b : L.Pt} (h : L.sle s a b) : a = b \/ L.slt s a b := by
 unfold L.slt L.sle L.vp L.vn at *
 obtain ⟨ax, ay⟩ := a; obtain ⟨bx, by'⟩ := b
 simp only [L.Pt.mk.injEq] at *
 rcases hs with rfl | rfl <;> omega
theorem slt_ne {s : Int} {a b : L.Pt} (h : L.slt s a b) : a ≠ b := by
 rintro rfl
 unfold L.slt L.vp at h; rw [Int.sub_self, Int.sub_self, Int.mul_zero] at h; omega
theorem cr_pos {s : Int} (hs : s = 1 \/ s = -1) (x1 y1 x2 y2:Int) : s * x1 * (s * y2) - s * y1 * (s * x2) = x1 * y2 - y1 * x2 := by rw [sgn_mul hs, sgn_mul hs]
theorem turn_r {s : Int} (hs : s = 1 \/ s = -1) {a b c q : L.Pt} (h1 : L.slt s a b) (h2 : L.slt s b c) (h3 : L.slt s b q) (ht : 0 < L.cross a b c) (hq : 0 <= L.cross b c q) : 0 < L.cross a b q := by
 have := half_r (slt_sle h1) h2 h3 (by rw [cr_pos hs]; unfold L.cross at ht; grind) (by rw [cr_pos hs]; exact hq)
 rw [cr_pos hs] at this
 unfold L.cross; grind
theorem turn_l {s : Int} (hs : s = 1 \/ s = -1) {a b c q : L.Pt} (h1 : L.slt s a b) (h2 : L.slt s b c) (h3 : L.slt s q b) (ht : 0 < L.cross a b c) (hq : 0 <= L.cross a b q) : 0 < L.cross b c q := by
 have := half_l h3 h1 (slt_sle h2) (by rw [cr_pos hs]; unfold L.cross at hq; grind) (by rw [cr_pos hs]; unfold L.cross at ht; grind)
 rw [cr_pos hs] at this
 unfold L.cross; grind
theorem pop_a {s : Int} (hs : s = 1 \/ s = -1) {a b p q : L.Pt} (h1 : L.slt s a b) (h2 : L.slt s b p) (h3 : L.sle s a q) (ht : L.cross a b p <= 0) (hq : 0 <= L.cross a b q) : 0 <= L.cross a p q := by
 have := half_w (slt_sle (slt_trans h1 h2)) h1 h3 (by rw [cr_pos hs]; unfold L.cross at ht; grind) (by rw [cr_pos hs]; exact hq)
 rw [cr_pos hs] at this
 exact this
theorem pop_b {s : Int} (hs : s = 1 \/ s = -1) {a b p q : L.Pt} (h1 : L.slt s a b) (h2 : L.slt s b p) (h3 : L.sle s q p) (ht : L.cross a b p <= 0) (hq : 0 <= L.cross b p q) : 0 <= L.cross a p q := by
 have := half_w h3 h2 (slt_sle (slt_trans h1 h2)) (by rw [cr_pos hs]; unfold L.cross at hq; grind) (by rw [cr_pos hs]; unfold L.cross at ht; grind)
 rw [cr_pos hs] at this
 unfold L.cross; grind
def L.asc (s:Int) : List L.Pt -> Prop
 | b :: a :: r => L.slt s a b /\ L.asc s (a :: r)
 | _ => True
def L.cvx : List L.Pt -> Prop
 | c :: b :: a :: r => 0 < L.cross a b c /\ L.cvx (b :: a :: r)
 | _ => True
def L.ab (s:Int) : List L.Pt -> L.Pt -> Prop
 | b :: a :: r, q => (L.sle s a q /\ L.sle s q b /\ 0 <= L.cross a b q) \/ L.ab s (a :: r) q
 | [a], q => q = a
 | [], _ => False
theorem cvx_tail {b : L.Pt} : ∀ {r : List L.Pt}, L.cvx (b :: r) -> L.cvx r
 | [], _ => trivial
 | [_], _ => trivial
 | _ :: _ :: _, h => h.2
theorem pop_all {s : Int} (hs : s = 1 \/ s = -1) {p : L.Pt} : ∀ {st : List L.Pt}, L.asc s (p :: st) -> L.cvx st -> L.asc s (p :: L.popPt p st) /\ L.cvx (p :: L.popPt p st) /\ ∀ q, L.ab s (p :: st) q -> L.ab s (p :: L.popPt p st) q
 | [], h, _ => ⟨h, trivial, fun _ h => h⟩
 | [a], h, _ => ⟨h, trivial, fun _ h => h⟩
 | b :: a :: r, h, hc => by
   obtain ⟨h1, h2, h3⟩ := h
   unfold L.popPt
   cases hd : decide (L.cross a b p <= 0) with
   | true =>
     have hd := of_decide_eq_true hd
     obtain ⟨k1, k2, k3⟩ := pop_all hs (p := p) (st := a :: r) ⟨slt_trans h2 h1, h3⟩ (cvx_tail hc)
     refine ⟨k1, k2, fun q hq => k3 q ?_⟩
     rcases hq with ⟨q1, q2, q3⟩ | ⟨q1, q2, q3⟩ | hq
     · exact .inl ⟨slt_sle (slt_sle_trans h2 q1), q2, pop_b hs h2 h1 q2 hd q3⟩
     · exact .inl ⟨q1, slt_sle (sle_slt_trans q2 h1), pop_a hs h2 h1 q1 hd q3⟩
     · exact .inr hq
   | false =>
     have hd := of_decide_eq_false hd
     exact ⟨⟨h1, h2, h3⟩, ⟨by omega, hc⟩, fun _ h => h⟩
theorem ab_le {s : Int} : ∀ {st : List L.Pt} {b q : L.Pt}, L.asc s (b :: st) -> L.ab s (b :: st) q -> L.sle s q b
 | [], b, q, _, h => by
   have h : q = b := h
   subst h; exact sle_refl _ _
 | a :: r, b, q, h, hq => by
   rcases hq with hq | hq
   · exact hq.2.1
   · exact slt_sle (sle_slt_trans (ab_le h.2 hq) h.1)
theorem ab_self {s : Int} : ∀ {st : List L.Pt} {b : L.Pt}, L.asc s (b :: st) -> L.ab s (b :: st) b
 | [], _, _ => rfl
 | a :: r, b, h => .inl ⟨slt_sle h.1, sle_refl _ _, by unfold L.cross; grind⟩
theorem cross_end (a b : L.Pt) : L.cross a b b = 0 := by unfold L.cross; grind
theorem cross_beg (a b : L.Pt) : L.cross a b a = 0 := by unfold L.cross; grind
def L.leftOf (s:Int) (a b q : L.Pt) : Prop := 0 < L.cross a b q \/ (L.cross a b q = 0 /\ L.sle s a q /\ L.sle s q b)
def L.allE (s:Int) : List L.Pt -> L.Pt -> Prop
 | b :: a :: r, q => L.leftOf s a b q /\ L.allE s (a :: r) q
 | _, _ => True
theorem below {s : Int} (hs : s = 1 \/ s = -1) {q : L.Pt} : ∀ {r : List L.Pt} {a b : L.Pt}, L.asc s (b :: a :: r) -> L.cvx (b :: a :: r) -> L.sle s a q -> 0 <= L.cross a b q -> L.allE s (a :: r) q
 | [], _, _, _, _, _, _ => trivial
 | c :: r, a, b, h, hc, h1, h2 => by
   have key : 0 < L.cross c a q \/ q = a := by
     rcases sle_or hs h1 with e | e
     · exact .inr e.symm
     · exact .inl (turn_r hs h.2.1 h.1 e hc.1 h2)
   have k0 : 0 <= L.cross c a q := by
     rcases key with e | rfl
     · omega
     · rw [cross_end]; exact Int.le_refl _
   refine ⟨?_, below hs h.2 (cvx_tail hc) (slt_sle (slt_sle_trans h.2.1 h1)) k0⟩
   rcases key with e | rfl
   · exact .inl e
   · exact .inr ⟨cross_end _ _, slt_sle h.2.1, sle_refl _ _⟩
theorem above {s : Int} (hs : s = 1 \/ s = -1) {q : L.Pt} : ∀ {r : List L.Pt} {a b : L.Pt}, L.asc s (b :: a :: r) -> L.cvx (b :: a :: r) -> L.ab s (a :: r) q -> 0 < L.cross a b q \/ q = a
 | [], _, _, _, _, h => .inr h
 | c :: r, a, b, h, hc, hq => by
   rcases hq with ⟨h1, h2, h3⟩ | hq
   · rcases sle_or hs h2 with e | e
     · exact .inr e
     · exact .inl (turn_l hs h.2.1 h.1 e hc.1 h3)
   · have hle := ab_le h.2.2 hq
     have hlt := sle_slt_trans hle h.2.1
     rcases above hs h.2 (cvx_tail hc) hq with e | e
     · exact .inl (turn_l hs h.2.1 h.1 hlt hc.1 (Int.le_of_lt e))
     · refine .inl (turn_l hs h.2.1 h.1 hlt hc.1 ?_)
       rw [e, cross_beg]; exact Int.le_refl _
theorem all_edges {s : Int} (hs : s = 1 \/ s = -1) {q : L.Pt} : ∀ {st : List L.Pt}, L.asc s st -> L.cvx st -> L.ab s st q -> L.allE s st q
 | [], _, _, _ => trivial
 | [_], _, _, _ => trivial
 | b :: a :: r, h, hc, hq => by
   rcases hq with ⟨h1, h2, h3⟩ | hq
   · refine ⟨?_, below hs h hc h1 h3⟩
     rcases Int.lt_or_eq_of_le h3 with e | e
     · exact .inl e
     · exact .inr ⟨e.symm, h1, h2⟩
   · refine ⟨?_, all_edges hs h.2 (cvx_tail hc) hq⟩
     rcases above hs h hc hq with e | rfl
     · exact .inl e
     · exact .inr ⟨cross_beg _ _, sle_refl _ _, slt_sle h.1⟩
theorem sq_lt {a b : Int} (h0 : 0 <= a) (h : a < b) : a * a < b * b := by
 have h1 : a * a <= a * b := Int.mul_le_mul_of_nonneg_left (by omega) h0
 have h2 : a * b < b * b := Int.mul_lt_mul_of_pos_right h (by omega)
 omega
theorem abs_sq (a:Int) : ((a.natAbs:Int)) * (a.natAbs:Int) = a * a := by
 have := Int.natAbs_mul_self (a := a); rw [<- Int.natCast_mul]; exact_mod_cast this
theorem seg_sq {vx vy ux uy : Int} (hv : L.vp vx vy) (hu : L.vn ux uy) (hw : L.vn (vx - ux) (vy - uy)) (h : vx * uy - vy * ux = 0) : (ux = vx /\ uy = vy) \/ ux * ux + uy * uy < vx * vx + vy * vy := by
 rcases hv with hv | ⟨rfl, hv⟩
 · have h0 : 0 <= ux := by unfold L.vn at hu; omega
   have h1 : ux <= vx := by unfold L.vn at hw; omega
   rcases Int.lt_or_eq_of_le h1 with g | g
   · right
     have s1 := sq_lt h0 g
     have e : vx * uy = vy * ux := by omega
     have e2 : (vx * vx) * (uy * uy) = (ux * ux) * (vy * vy) := by
       have : (vx * uy) * (vx * uy) = (vy * ux) * (vy * ux) := by rw [e]
       grind
     have l1 : (ux * ux) * (vy * vy) <= (vx * vx) * (vy * vy) := Int.mul_le_mul_of_nonneg_right (Int.le_of_lt s1) (by have := abs_sq vy; have := Int.mul_nonneg (Int.natCast_nonneg vy.natAbs) (Int.natCast_nonneg vy.natAbs); omega)
     have l2 : uy * uy <= vy * vy := Int.le_of_mul_le_mul_left (by rw [e2]; exact l1) (Int.mul_pos hv hv)
     omega
   · subst g
     left
     refine ⟨rfl, ?_⟩
     have : ux * uy = ux * vy := by rw [Int.mul_comm ux vy]; omega
     exact Int.eq_of_mul_eq_mul_left (by omega) this
 · have h0 : ux = 0 := by unfold L.vn at hu hw; omega
   subst h0
   have h1 : 0 <= uy := by unfold L.vn at hu; omega
   have h2 : uy <= vy := by unfold L.vn at hw; omega
   rcases Int.lt_or_eq_of_le h2 with g | g
   · right; have := sq_lt h1 g; omega
   · exact .inl ⟨rfl, g⟩
theorem seg_dist {s : Int} (hs : s = 1 \/ s = -1) {a t q : L.Pt} (h1 : L.slt s a t) (h2 : L.sle s a q) (h3 : L.sle s q t) (h : L.cross a t q = 0) : q = t \/ L.dist a q < L.dist a t := by
 have hw : L.vn (s * (t.x - a.x) - s * (q.x - a.x)) (s * (t.y - a.y) - s * (q.y - a.y)) := by
   have : L.vn (s * (t.x - q.x)) (s * (t.y - q.y)) := h3
   rw [<- Int.mul_sub, <- Int.mul_sub, show t.x - a.x - (q.x - a.x) = t.x - q.x by omega, show t.y - a.y - (q.y - a.y) = t.y - q.y by omega]; exact this
 have := seg_sq h1 h2 hw (by rw [cr_pos hs]; exact h)
 rw [sgn_mul hs, sgn_mul hs, sgn_mul hs, sgn_mul hs] at this
 rcases this with ⟨e1, e2⟩ | e
 · left
   obtain ⟨tx, ty⟩ := t; obtain ⟨qx, qy⟩ := q
   simp only [L.Pt.mk.injEq] at *
   rcases hs with rfl | rfl <;> omega
 · right; unfold L.dist; grind
def L.wrapC (f t q : L.Pt) : Bool := bif (bif decide (t.x = f.x) then decide (t.y = f.y) else false) then true else bif decide (L.cross f t q < 0) then true else bif decide (L.cross f t q = 0) then decide (L.dist f t < L.dist f q) else false
def L.scan (g : Nat -> L.Pt) (f : L.Pt) : Nat -> L.Pt
 | 0 => f
 | i + 1 => bif L.wrapC f (L.scan g f i) (g i) then g i else L.scan g f i
theorem wrapC_t {f t q : L.Pt} (h : t = f \/ L.cross f t q < 0 \/ (L.cross f t q = 0 /\ L.dist f t < L.dist f q)) : L.wrapC f t q = true := by
 unfold L.wrapC
 rcases h with rfl | h | ⟨h1, h2⟩
 · simp
 · cases (bif decide (t.x = f.x) then decide (t.y = f.y) else false)
   · rw [decide_eq_true h]; rfl
   · rfl
 · cases (bif decide (t.x = f.x) then decide (t.y = f.y) else false)
   · rw [decide_eq_false (show ¬ L.cross f t q < 0 by omega), decide_eq_true h1, decide_eq_true h2]; rfl
   · rfl
theorem wrapC_f {f t q : L.Pt} (h0 : t ≠ f) (h1 : 0 <= L.cross f t q) (h2 : L.cross f t q = 0 -> ¬ L.dist f t < L.dist f q) : L.wrapC f t q = false := by
 unfold L.wrapC
 have e : (bif decide (t.x = f.x) then decide (t.y = f.y) else false) = false := by
   obtain ⟨tx, ty⟩ := t; obtain ⟨fx, fy⟩ := f
   by_cases h : tx = fx
   · have : ty ≠ fy := fun e => h0 (by rw [h, e])
     simp [h, this]
   · simp [h]
 rw [e, decide_eq_false (show ¬ L.cross f t q < 0 by omega)]
 by_cases h : L.cross f t q = 0
 · rw [decide_eq_true h, decide_eq_false (h2 h)]; rfl
 · rw [decide_eq_false h]; rfl
theorem cross_swap (a b c : L.Pt) : L.cross a b c = - L.cross a c b := by unfold L.cross; grind
theorem scan_eq {g : Nat -> L.Pt} {n : Nat} {f t : L.Pt} (hne : t ≠ f) (hin : ∃ i, i < n /\ g i = t) (h : ∀ i, i < n -> 0 <= L.cross f t (g i) /\ (L.cross f t (g i) = 0 -> g i = t \/ L.dist f (g i) < L.dist f t)) : L.scan g f n = t := by
 obtain ⟨j, hj, hjt⟩ := hin
 have early : ∀ i, i <= n -> L.scan g f i = f \/ ∃ k, k < n /\ L.scan g f i = g k := fun i => by
   induction i with
   | zero => exact fun _ => .inl rfl
   | succ i ih =>
     intro hi
     unfold L.scan
     cases L.wrapC f (L.scan g f i) (g i) with
     | true => exact .inr ⟨i, by omega, rfl⟩
     | false => exact ih (by omega)
 have late : ∀ d, j + 1 + d <= n -> L.scan g f (j + 1 + d) = t := fun d => by
   induction d with
   | zero =>
     intro _
     show (bif L.wrapC f (L.scan g f j) (g j) then g j else L.scan g f j) = t
     by_cases e : L.scan g f j = t
     · rw [e, hjt]; cases L.wrapC f t t <;> rfl
     · have : L.wrapC f (L.scan g f j) (g j) = true := by
         rw [hjt]
         refine wrapC_t ?_
         rcases early j (by omega) with e2 | ⟨k, hk, e2⟩
         · exact .inl e2
         · right
           obtain ⟨h1, h2⟩ := h k hk
           rw [<- e2] at h1 h2
           rw [cross_swap]
           rcases Int.lt_or_eq_of_le h1 with g1 | g1
           · left; omega
           · rcases h2 g1.symm with g2 | g2
             · exact absurd g2 e
             · right; exact ⟨by omega, g2⟩
       rw [this]; exact hjt
   | succ d ih =>
     intro hd
     show (bif L.wrapC f (L.scan g f (j + 1 + d)) (g (j + 1 + d)) then g (j + 1 + d) else L.scan g f (j + 1 + d)) = t
     rw [ih (by omega)]
     obtain ⟨h1, h2⟩ := h (j + 1 + d) (by omega)
     rw [wrapC_f hne h1 (fun e => by rcases h2 e with g2 | g2
                                     · rw [g2]; omega
                                     · omega)]
     rfl
 have := late (n - (j + 1)) (by omega)
 rwa [show j + 1 + (n - (j + 1)) = n by omega] at this
def L.wrapAt (g : Nat -> L.Pt) (n:Nat) (f : L.Pt) : Nat -> L.Pt
 | 0 => f
 | k + 1 => L.scan g (L.wrapAt g n f k) n
theorem wrap_eq {g : Nat -> L.Pt} {n m : Nat} {H : Nat -> L.Pt} (hm : 0 < m) (hin : ∀ k, k < m -> ∃ i, i < n /\ g i = H k) (hne : ∀ k, k < m -> H (if k + 1 = m then 0 else k + 1) ≠ H k)
   (he : ∀ k, k < m -> ∀ i, i < n -> 0 <= L.cross (H k) (H (if k + 1 = m then 0 else k + 1)) (g i) /\ (L.cross (H k) (H (if k + 1 = m then 0 else k + 1)) (g i) = 0 -> g i = H (if k + 1 = m then 0 else k + 1) \/ L.dist (H k) (g i) < L.dist (H k) (H (if k + 1 = m then 0 else k + 1)))) :
   (∀ k, k < m -> L.wrapAt g n (H 0) k = H k) /\ L.wrapAt g n (H 0) m = H 0 := by
 have step : ∀ k, k < m -> L.wrapAt g n (H 0) k = H k -> L.wrapAt g n (H 0) (k + 1) = H (if k + 1 = m then 0 else k + 1) := fun k hk e => by
   show L.scan g (L.wrapAt g n (H 0) k) n = _
   rw [e]
   exact scan_eq (hne k hk) (hin _ (by split <;> omega)) (he k hk)
 have all : ∀ k, k < m -> L.wrapAt g n (H 0) k = H k := fun k => by
   induction k with
   | zero => exact fun _ => rfl
   | succ k ih =>
     intro hk
     rw [step k (by omega) (ih (by omega)), if_neg (by omega)]
 refine ⟨all, ?_⟩
 obtain ⟨k, rfl⟩ : ∃ k, m = k + 1 := ⟨m - 1, by omega⟩
 rw [step k (by omega) (all k (by omega)), if_pos rfl]
def L.botIs (a : L.Pt) : List L.Pt -> Prop
 | [] => False
 | [b] => b = a
 | _ :: b :: r => L.botIs a (b :: r)
theorem pop_bot {a p : L.Pt} : ∀ {st : List L.Pt}, L.botIs a st -> L.botIs a (L.popPt p st)
 | [b], h => h
 | c :: b :: r, h => by
   unfold L.popPt
   cases decide (L.cross b c p <= 0) with
   | true => exact pop_bot (st := b :: r) h
   | false => exact h
theorem bot_cons {a p : L.Pt} : ∀ {st : List L.Pt}, L.botIs a st -> L.botIs a (p :: st)
 | _ :: _, h => h
theorem bot_from {a : L.Pt} : ∀ {st : List L.Pt}, L.botIs a st -> L.fromTop st 0 = a /\ 1 <= st.length
 | [b], h => ⟨h, Nat.le_refl _⟩
 | c :: b :: r, h => by
   have ih := bot_from (st := b :: r) h
   refine ⟨?_, Nat.succ_le_succ (Nat.zero_le _)⟩
   rw [<- ih.1]
   unfold L.fromTop
   show (c :: b :: r).getD (r.length + 1 + 1 - 1 - 0) ⟨0, 0⟩ = (b :: r).getD (r.length + 1 - 1 - 0) ⟨0, 0⟩
   rw [show r.length + 1 + 1 - 1 - 0 = (r.length + 1 - 1 - 0) + 1 by omega]; rfl
structure L.ChainOk (s:Int) (g : Nat -> L.Pt) (k:Nat) (st : List L.Pt) : Prop where
 asc : L.asc s st
 cvx : L.cvx st
 ab : ∀ i, i < k -> L.ab s st (g i)
 top : ∃ r, st = g (k - 1) :: r
 bot : L.botIs (g 0) st
theorem chain_ok {s : Int} (hs : s = 1 \/ s = -1) {l : (L.Sq L.Pt)} (h : ∀ i j, i < j -> j < l.n -> L.slt s (l.g i) (l.g j)) : ∀ k, 1 <= k -> k <= l.n -> L.ChainOk s l.g k (L.chainTo l k)
 | 1, _, _ => ⟨trivial, trivial, fun i hi => by
     obtain rfl : i = 0 := by omega
     rfl, ⟨[], rfl⟩, rfl⟩
 | k + 2, _, hk => by
   have ih := chain_ok hs h (k + 1) (by omega) (by omega)
   obtain ⟨r, hr⟩ := ih.top
   have hr : L.chainTo l (k + 1) = l.g k :: r := hr
   have h1 : L.asc s (l.g (k + 1) :: L.chainTo l (k + 1)) := by
     have := ih.asc
     rw [hr] at this ⊢
     exact ⟨h k (k + 1) (by omega) (by omega), this⟩
   obtain ⟨p1, p2, p3⟩ := pop_all hs h1 ih.cvx
   refine ⟨p1, p2, fun i hi => ?_, ⟨_, rfl⟩, bot_cons (pop_bot ih.bot)⟩
   by_cases hik : i = k + 1
   · subst hik; exact ab_self p1
   · refine p3 _ ?_
     have := ih.ab i (by omega)
     rw [hr] at this ⊢
     exact .inr this
theorem asc_at {s : Int} : ∀ {st : List L.Pt}, L.asc s st -> ∀ i, i + 1 < st.length -> L.slt s (st.getD (i + 1) ⟨0, 0⟩) (st.getD i ⟨0, 0⟩)
 | _ :: _ :: _, h, 0, _ => h.1
 | b :: a :: r, h, i + 1, hi => asc_at (st := a :: r) h.2 i (by simpa using hi)
 | [_], _, _, hi => by simp at hi
 | [], _, _, hi => by simp at hi
theorem allE_at {s : Int} {q : L.Pt} : ∀ {st : List L.Pt}, L.allE s st q -> ∀ i, i + 1 < st.length -> L.leftOf s (st.getD (i + 1) ⟨0, 0⟩) (st.getD i ⟨0, 0⟩) q
 | _ :: _ :: _, h, 0, _ => h.1
 | b :: a :: r, h, i + 1, hi => allE_at (st := a :: r) h.2 i (by simpa using hi)
 | [_], _, _, hi => by simp at hi
 | [], _, _, hi => by simp at hi
structure L.Half (s:Int) (l : (L.Sq L.Pt)) (c:Nat) (F : Nat -> L.Pt) : Prop where
 c1 : 1 <= c
 f0 : F 0 = l.g 0
 fc : F c = l.g (l.n - 1)
 up : ∀ k, k < c -> L.slt s (F k) (F (k + 1))
 lf : ∀ k, k < c -> ∀ i, i < l.n -> L.leftOf s (F k) (F (k + 1)) (l.g i)
 mem : ∀ k, k <= c -> ∃ i, i < l.n /\ l.g i = F k
theorem chainTo_in {l : (L.Sq L.Pt)} {q : L.Pt} : ∀ {k}, q ∈ L.chainTo l k -> ∃ i, i < k /\ l.g i = q
 | 0, h => nomatch h
 | k + 1, h => by
   have pm : ∀ {st : List L.Pt} {p q : L.Pt}, q ∈ L.popPt p st -> q ∈ st := fun {st} => by
     induction st with
     | nil => exact fun h => h
     | cons b r ih =>
       intro p q h
       cases r with
       | nil => exact h
       | cons a r =>
         unfold L.popPt at h
         cases hd : decide (L.cross a b p <= 0) with
         | true => rw [hd] at h; exact List.mem_cons_of_mem _ (ih h)
         | false => rw [hd] at h; exact h
   rcases List.mem_cons.1 h with rfl | h
   · exact ⟨k, Nat.lt_succ_self _, rfl⟩
   · obtain ⟨i, hi, e⟩ := chainTo_in (pm h)
     exact ⟨i, Nat.lt_succ_of_lt hi, e⟩
theorem half_of {s : Int} (hs : s = 1 \/ s = -1) {l : (L.Sq L.Pt)} (h2 : 2 <= l.n) (h : ∀ i j, i < j -> j < l.n -> L.slt s (l.g i) (l.g j)) : L.Half s l ((L.chainTo l l.n).length - 1) (L.fromTop (L.chainTo l l.n)) := by
 have C := chain_ok hs h l.n (by omega) (Nat.le_refl _)
 generalize hst : L.chainTo l l.n = st at C
 obtain ⟨r, hr⟩ := C.top
 obtain ⟨b1, b2⟩ := bot_from C.bot
 have hlen : 2 <= st.length := by
   rcases Nat.lt_or_ge 1 st.length with g | g
   · exact g
   · have hr0 : r = [] := List.eq_nil_of_length_eq_zero (by rw [hr] at g; simpa using g)
     have := C.bot
     rw [hr, hr0] at this
     exact absurd this.symm (slt_ne (h 0 (l.n - 1) (by omega) (by omega)))
 have idx : ∀ k, k < st.length - 1 -> L.fromTop st k = st.getD (st.length - 1 - (k + 1) + 1) ⟨0, 0⟩ /\ L.fromTop st (k + 1) = st.getD (st.length - 1 - (k + 1)) ⟨0, 0⟩ := fun k hk => by
   refine ⟨?_, rfl⟩
   unfold L.fromTop
   rw [show st.length - 1 - k = st.length - 1 - (k + 1) + 1 by omega]
 refine ⟨by omega, b1, ?_, fun k hk => ?_, fun k hk i hi => ?_, fun k hk => ?_⟩
 · unfold L.fromTop; rw [Nat.sub_self, hr]; rfl
 · rw [(idx k hk).1, (idx k hk).2]; exact asc_at C.asc _ (by omega)
 · rw [(idx k hk).1, (idx k hk).2]; exact allE_at (all_edges hs C.asc C.cvx (C.ab i hi)) _ (by omega)
 · refine chainTo_in (k := l.n) ?_
   rw [hst]
   unfold L.fromTop
   rw [List.getD_eq_getElem?_getD, List.getElem?_eq_getElem (by omega)]
   exact List.getElem_mem _
theorem half_mono {s : Int} {l : (L.Sq L.Pt)} {c : Nat} {F : Nat -> L.Pt} (H : L.Half s l c F) : ∀ {i j}, i < j -> j <= c -> L.slt s (F i) (F j)
 | i, j + 1, h, hj => by
   rcases Nat.lt_succ_iff_lt_or_eq.1 h with g | g
   · exact slt_trans (half_mono H g (by omega)) (H.up j (by omega))
   · subst g; exact H.up i (by omega)
theorem left_wrap {s : Int} (hs : s = 1 \/ s = -1) {a b q : L.Pt} (hab : L.slt s a b) (h : L.leftOf s a b q) : 0 <= L.cross a b q /\ (L.cross a b q = 0 -> q = b \/ L.dist a q < L.dist a b) := by
 rcases h with h | ⟨h1, h2, h3⟩
 · exact ⟨by omega, fun e => by omega⟩
 · exact ⟨by omega, fun _ => seg_dist hs hab h2 h3 h1⟩
theorem hull_wrap {l : (L.Sq L.Pt)} {c1 c2 : Nat} {F1 F2 : Nat -> L.Pt} (h2 : 2 <= l.n) (A : L.Half 1 l c1 F1) (B : L.Half (-1) ⟨l.n, fun k => l.g (l.n - 1 - k)⟩ c2 F2) {g : Nat -> L.Pt} {n : Nat}
   (hg : ∀ i, i < n -> ∃ j, j < l.n /\ l.g j = g i) (hl : ∀ j, j < l.n -> ∃ i, i < n /\ g i = l.g j) :
   (∀ k, k < c1 + c2 -> L.wrapAt g n (l.g 0) k = (if k < c1 then F1 k else F2 (k - c1))) /\ L.wrapAt g n (l.g 0) (c1 + c2) = l.g 0 /\ ∀ k, 0 < k -> k < c1 + c2 -> (if k < c1 then F1 k else F2 (k - c1)) ≠ l.g 0 := by
 have a1 := A.c1
 have b1 := B.c1
 have e1 : F1 c1 = F2 0 := by rw [A.fc, B.f0]; show _ = l.g (l.n - 1 - 0); rfl
 have e2 : F2 c2 = F1 0 := by rw [A.f0, B.fc]; show l.g (l.n - 1 - (l.n - 1)) = _; rw [Nat.sub_self]
 have mB : ∀ k, k <= c2 -> ∃ i, i < l.n /\ l.g i = F2 k := fun k hk => by
   obtain ⟨i, hi, e⟩ := B.mem k hk
   exact ⟨l.n - 1 - i, by have : i < l.n := hi; omega, e⟩
 have lB : ∀ k, k < c2 -> ∀ i, i < l.n -> L.leftOf (-1) (F2 k) (F2 (k + 1)) (l.g i) := fun k hk i hi => by
   have := B.lf k hk (l.n - 1 - i) (show _ < l.n by omega)
   have this : L.leftOf (-1) (F2 k) (F2 (k + 1)) (l.g (l.n - 1 - (l.n - 1 - i))) := this
   rwa [show l.n - 1 - (l.n - 1 - i) = i by omega] at this
 -- the edge at k
 have ed : ∀ k, k < c1 + c2 -> (∃ j, j < c1 /\ (if k < c1 then F1 k else F2 (k - c1)) = F1 j /\ (if (if k + 1 = c1 + c2 then 0 else k + 1) < c1 then F1 (if k + 1 = c1 + c2 then 0 else k + 1) else F2 ((if k + 1 = c1 + c2 then 0 else k + 1) - c1)) = F1 (j + 1)) \/
     (∃ j, j < c2 /\ (if k < c1 then F1 k else F2 (k - c1)) = F2 j /\ (if (if k + 1 = c1 + c2 then 0 else k + 1) < c1 then F1 (if k + 1 = c1 + c2 then 0 else k + 1) else F2 ((if k + 1 = c1 + c2 then 0 else k + 1) - c1)) = F2 (j + 1)) := fun k hk => by
   by_cases h : k < c1
   · refine .inl ⟨k, h, if_pos h, ?_⟩
     rw [if_neg (show ¬ k + 1 = c1 + c2 by omega)]
     by_cases h' : k + 1 < c1
     · rw [if_pos h']
     · rw [if_neg h', show k + 1 = c1 by omega, Nat.sub_self, e1]
   · refine .inr ⟨k - c1, by omega, if_neg h, ?_⟩
     by_cases h' : k + 1 = c1 + c2
     · rw [if_pos h', if_pos (show 0 < c1 by omega), show k - c1 + 1 = c2 by omega, e2]
     · rw [if_neg h', if_neg (show ¬ k + 1 < c1 by omega), show k + 1 - c1 = k - c1 + 1 by omega]
 have key := wrap_eq (g := g) (n := n) (m := c1 + c2) (H := fun k => if k < c1 then F1 k else F2 (k - c1)) (by omega) (fun k hk => ?_) (fun k hk => ?_) (fun k hk i hi => ?_)
 · have h0 : (if 0 < c1 then F1 0 else F2 (0 - c1)) = l.g 0 := by
     rw [if_pos (by omega), A.f0]
   rw [h0] at key
   refine ⟨key.1, key.2, fun k hk0 hk => ?_⟩
   by_cases h : k < c1
   · rw [if_pos h, <- A.f0]; exact (slt_ne (half_mono A hk0 (by omega))).symm
   · rw [if_neg h, <- A.f0, <- e2]; exact slt_ne (half_mono B (show k - c1 < c2 by omega) (Nat.le_refl _))
 · have : ∃ i, i < l.n /\ l.g i = (if k < c1 then F1 k else F2 (k - c1)) := by
     split
     · exact A.mem k (by omega)
     · exact mB _ (by omega)
   obtain ⟨i, hi, e⟩ := this
   obtain ⟨j, hj, e'⟩ := hl i hi
   exact ⟨j, hj, e'.trans e⟩
 · rcases ed k hk with ⟨j, hj, p, q⟩ | ⟨j, hj, p, q⟩
   · rw [p, q]; exact (slt_ne (A.up j hj)).symm
   · rw [p, q]; exact (slt_ne (B.up j hj)).symm
 · obtain ⟨j', hj', e'⟩ := hg i hi
   rcases ed k hk with ⟨j, hj, p, q⟩ | ⟨j, hj, p, q⟩
   · rw [p, q, <- e']; exact left_wrap (.inl rfl) (A.up j hj) (A.lf j hj _ hj')
   · rw [p, q, <- e']; exact left_wrap (.inr rfl) (B.up j hj) (lB j hj _ hj')
theorem meet_zero {a b c d : L.Pt} : L.meet a b c d = 0 ↔ (∀ q, ¬ L.S a b c d q) /\ ¬ (L.apart a b c d = true /\ L.apart c d a b = true) := by
 refine ⟨fun h => ⟨meet_none h, meet_noX h⟩, fun ⟨h1, h2⟩ => ?_⟩
 have h0 : ¬ 0 < (L.k2 a b c d 2).n := fun h => by
   obtain ⟨p, hp⟩ := n_pos.1 h
   exact h1 p (k2_mem.1 hp)
 have hx : (bif L.apart a b c d then L.apart c d a b else false) = false := by
   cases e1 : L.apart a b c d with
   | false => rfl
   | true => cases e2 : L.apart c d a b with
     | false => rfl
     | true => exact absurd ⟨e1, e2⟩ h2
 unfold L.meet
 rw [hx, decide_eq_false (show ¬ 1 < ((L.k2 a b c d 2).n:Int) by omega), decide_eq_false (show ¬ ((L.k2 a b c d 2).n:Int) = 1 by omega)]
 rfl
theorem meet_one {a b c d : L.Pt} : L.meet a b c d = 1 ↔ ∃ q, L.S a b c d q /\ ∀ q', L.S a b c d q' -> q' = q := by
 have hn : L.meet a b c d = 1 ↔ (L.k2 a b c d 2).n = 1 := by
   unfold L.meet
   by_cases h1 : 1 < ((L.k2 a b c d 2).n:Int)
   · rw [decide_eq_true h1]
     exact ⟨fun h => (by cases h), fun h => (by omega)⟩
   · rw [decide_eq_false h1]
     by_cases h2 : ((L.k2 a b c d 2).n:Int) = 1
     · rw [decide_eq_true h2]; exact ⟨fun _ => by omega, fun _ => rfl⟩
     · rw [decide_eq_false h2]
       cases (bif L.apart a b c d then L.apart c d a b else false)
       · exact ⟨fun h => (by cases h), fun h => (by omega)⟩
       · exact ⟨fun h => (by cases h), fun h => (by omega)⟩
 rw [hn]
 constructor
 · intro h
   obtain ⟨q, hq⟩ := n_pos.1 (show 0 < (L.k2 a b c d 2).n by omega)
   refine ⟨q, k2_mem.1 hq, fun q' hq' => ?_⟩
   by_cases e : q' = q
   · exact e
   · have := (n_two k2_nod).2 ⟨q', q, k2_mem.2 hq', hq, e⟩
     omega
 · rintro ⟨q, hq, hu⟩
   have h0 := n_pos.2 ⟨q, k2_mem.2 hq⟩
   have h1 : ¬ 1 < (L.k2 a b c d 2).n := fun h => by
     obtain ⟨r, s, hr, hs, hne⟩ := (n_two k2_nod).1 h
     exact hne ((hu r (k2_mem.1 hr)).trans (hu s (k2_mem.1 hs)).symm)
   omega
def L.f (p : L.Pt) : Int := 8000001 * p.y + p.x
theorem f_inj {a b : L.Pt} (ha : L.bd a) (hb : L.bd b) (h : L.f a = L.f b) : a = b := by
 unfold L.bd at ha hb; unfold L.f at h
 have e1 : a.y = b.y := by omega
 have e2 : a.x = b.x := by omega
 cases a; cases b; simp only at e1 e2; rw [e1, e2]
theorem on_cross {a b p : L.Pt} (h : L.on a b p = true) : L.cross a b p = 0 := by
 unfold L.on at h
 simp only [Bool.and_eq_true, decide_eq_true_eq] at h
 exact h.1.1
theorem btw {U w u W : Int} (h : W * u = w * U) (hu : u ≠ 0) (hw : min 0 u <= w /\ w <= max 0 u) : min 0 U <= W /\ W <= max 0 U := by
 have tri : ∀ U w W u : Int, 0 < u -> 0 <= w -> w <= u -> W * u = w * U -> min 0 U <= W /\ W <= max 0 U := fun U w W u hu h0 h1 e => by
   rcases Int.le_total 0 U with g | g
   · refine ⟨?_, ?_⟩
     · rcases Int.lt_or_le W 0 with q | q
       · have := Int.mul_neg_of_neg_of_pos q hu
         have := Int.mul_nonneg h0 g
         omega
       · omega
     · rcases Int.lt_or_le U W with q | q
       · have a1 := Int.mul_lt_mul_of_pos_right q hu
         have a2 := Int.mul_le_mul_of_nonneg_right h1 g
         rw [Int.mul_comm U u] at a1
         omega
       · omega
   · refine ⟨?_, ?_⟩
     · rcases Int.lt_or_le W U with q | q
       · have a1 := Int.mul_lt_mul_of_pos_right q hu
         have a2 := Int.mul_le_mul_of_nonpos_right h1 g
         rw [Int.mul_comm U u] at a1
         omega
       · omega
     · rcases Int.lt_or_le 0 W with q | q
       · have := Int.mul_pos q hu
         have := Int.mul_nonpos_of_nonneg_of_nonpos h0 g
         omega
       · omega
 rcases Int.lt_or_lt_of_ne hu with g | g
 · exact tri U (-w) W (-u) (by omega) (by omega) (by omega) (by rw [Int.mul_neg, h, Int.neg_mul])
 · exact tri U w W u g (by omega) (by omega) h
theorem on_f {a b p : L.Pt} (h : L.on a b p = true) : min (L.f a) (L.f b) <= L.f p /\ L.f p <= max (L.f a) (L.f b) := by
 have h0 := on_cross h
 unfold L.on L.within at h
 simp only [Bool.and_eq_true, decide_eq_true_eq] at h
 obtain ⟨⟨_, hx⟩, hy⟩ := h
 have key : min 0 (L.f b - L.f a) <= L.f p - L.f a /\ L.f p - L.f a <= max 0 (L.f b - L.f a) := by
   by_cases hu : b.x - a.x = 0
   · unfold L.f
     omega
   · refine btw (u := b.x - a.x) (w := p.x - a.x) ?_ hu (by omega)
     unfold L.cross at h0; unfold L.f; grind
 omega
theorem on_iff {a b p : L.Pt} (hne : a ≠ b) (ba : L.bd a) (bb : L.bd b) (bp : L.bd p) : L.on a b p = true ↔ L.cross a b p = 0 /\ min (L.f a) (L.f b) <= L.f p /\ L.f p <= max (L.f a) (L.f b) :=
 ⟨fun h => ⟨on_cross h, on_f h⟩, fun h => on_of h.1 hne ba bb bp h.2.1 h.2.2⟩
theorem on_same {a p : L.Pt} (h : L.on a a p = true) : p = a := by
 unfold L.on L.within at h
 simp only [Bool.and_eq_true, decide_eq_true_eq] at h
 cases a; cases p
 simp only [L.Pt.mk.injEq] at *
 omega
theorem col3 {a c p q : L.Pt} (hne : a ≠ c) (h1 : L.cross a c p = 0) (h2 : L.cross a c q = 0) : L.cross a p q = 0 /\ L.cross p c q = 0 := by
 have e1 : (c.x - a.x) * L.cross a p q = 0 := by
   have : (c.x - a.x) * L.cross a p q = (p.x - a.x) * L.cross a c q - (q.x - a.x) * L.cross a c p := by unfold L.cross; grind
   rw [this, h1, h2, Int.mul_zero, Int.mul_zero]; rfl
 have e2 : (c.y - a.y) * L.cross a p q = 0 := by
   have : (c.y - a.y) * L.cross a p q = (p.y - a.y) * L.cross a c q - (q.y - a.y) * L.cross a c p := by unfold L.cross; grind
   rw [this, h1, h2, Int.mul_zero, Int.mul_zero]; rfl
 have z : L.cross a p q = 0 := by
   rcases Int.mul_eq_zero.1 e1 with g | g
   · rcases Int.mul_eq_zero.1 e2 with g' | g'
     · exact absurd (by cases a; cases c; simp only [L.Pt.mk.injEq] at *; omega) hne
     · exact g'
   · exact g
 refine ⟨z, ?_⟩
 have : L.cross p c q = L.cross a c q + L.cross a p c - L.cross a p q := by unfold L.cross; grind
 have s : L.cross a p c = - L.cross a c p := by unfold L.cross; grind
 omega
theorem on_split {a b c p : L.Pt} (ba : L.bd a) (bb : L.bd b) (bc : L.bd c) (bp : L.bd p) (hb : L.on a c b = true) (hp : L.on a c p = true) : L.on a b p = true \/ L.on b c p = true := by
 by_cases hac : a = c
 · subst hac
   rw [on_same hb, on_same hp]; exact .inl on_left
 by_cases hab : a = b
 · subst hab; exact .inr hp
 by_cases hbc : b = c
 · subst hbc; exact .inl hp
 obtain ⟨c1, c2⟩ := col3 hac (on_cross hb) (on_cross hp)
 have f1 := on_f hb
 have f2 := on_f hp
 rw [on_iff hab ba bb bp, on_iff hbc bb bc bp]
 rcases Int.le_total (L.f a) (L.f c) with g | g
 · rcases Int.le_total (L.f p) (L.f b) with g' | g'
   · exact .inl ⟨c1, by omega, by omega⟩
   · exact .inr ⟨c2, by omega, by omega⟩
 · rcases Int.le_total (L.f p) (L.f b) with g' | g'
   · exact .inr ⟨c2, by omega, by omega⟩
   · exact .inl ⟨c1, by omega, by omega⟩
def L.opp (u v:Int) : Prop := (u < 0 /\ 0 < v) \/ (0 < u /\ v < 0)
theorem apart_iff {a b c d : L.Pt} : L.apart a b c d = true ↔ L.opp (L.cross a b c) (L.cross a b d) := by
 unfold L.apart L.opp L.cmp
 generalize L.cross a b c = u
 generalize L.cross a b d = v
 rw [decide_eq_true_iff]
 rcases Int.lt_trichotomy u 0 with h1 | h1 | h1 <;> rcases Int.lt_trichotomy v 0 with h2 | h2 | h2 <;> simp [h1, h2, Int.lt_asymm, show ¬ 0 < 0 by omega] <;> omega
theorem opp_mul {u v k : Int} (h : L.opp u v) (hk : k ≠ 0) : L.opp (k * u) (k * v) := by
 unfold L.opp at *
 rcases Int.lt_or_lt_of_ne hk with g | g <;> rcases h with ⟨h1, h2⟩ | ⟨h1, h2⟩
 · exact .inr ⟨Int.mul_pos_of_neg_of_neg g h1, Int.mul_neg_of_neg_of_pos g h2⟩
 · exact .inl ⟨Int.mul_neg_of_neg_of_pos g h1, Int.mul_pos_of_neg_of_neg g h2⟩
 · exact .inl ⟨Int.mul_neg_of_pos_of_neg g h1, Int.mul_pos g h2⟩
 · exact .inr ⟨Int.mul_pos g h1, Int.mul_neg_of_pos_of_neg g h2⟩
theorem opp_div {u v k : Int} (h : L.opp (k * u) (k * v)) : L.opp u v := by
 unfold L.opp at *
 rcases Int.lt_trichotomy k 0 with g | g | g
 · have e : ∀ t, 0 < k * t -> t < 0 := fun t ht => by
     rcases Int.lt_or_le t 0 with q | q
     · exact q
     · have := Int.mul_nonpos_of_nonpos_of_nonneg (Int.le_of_lt g) q; omega
   have e' : ∀ t, k * t < 0 -> 0 < t := fun t ht => by
     rcases Int.lt_or_le 0 t with q | q
     · exact q
     · have := Int.mul_nonneg_of_nonpos_of_nonpos (Int.le_of_lt g) q; omega
   rcases h with ⟨h1, h2⟩ | ⟨h1, h2⟩
   · exact .inr ⟨e' _ h1, e _ h2⟩
   · exact .inl ⟨e _ h1, e' _ h2⟩
 · subst g; rw [Int.zero_mul, Int.zero_mul] at h; omega
 · have e : ∀ t, 0 < k * t -> 0 < t := fun t ht => by
     rcases Int.lt_or_le 0 t with q | q
     · exact q
     · have := Int.mul_nonpos_of_nonneg_of_nonpos (Int.le_of_lt g) q; omega
   have e' : ∀ t, k * t < 0 -> t < 0 := fun t ht => by
     rcases Int.lt_or_le t 0 with q | q
     · exact q
     · have := Int.mul_nonneg (Int.le_of_lt g) q; omega
   rcases h with ⟨h1, h2⟩ | ⟨h1, h2⟩
   · exact .inl ⟨e' _ h1, e _ h2⟩
   · exact .inr ⟨e _ h1, e' _ h2⟩
theorem cross_on {a c p q b : L.Pt} (bp : L.bd p) (bq : L.bd q) (bb : L.bd b) (h0 : L.cross p q b = 0) (h1 : L.cross a c b = 0) (ho : L.opp (L.cross a c p) (L.cross a c q)) : L.on p q b = true := by
 have hpq : p ≠ q := fun e => by subst e; unfold L.opp at ho; omega
 have e : (L.f b - L.f p) * (L.cross a c q - L.cross a c p) = (0 - L.cross a c p) * (L.f q - L.f p) := by
   have : (L.f b - L.f p) * (L.cross a c q - L.cross a c p) - (L.cross a c b - L.cross a c p) * (L.f q - L.f p) = (L.f a - L.f c) * L.cross p q b := by unfold L.f L.cross; grind
   rw [h0, h1, Int.mul_zero] at this
   omega
 have := btw e (by unfold L.opp at ho; omega) (by unfold L.opp at ho; omega)
 exact (on_iff hpq bp bq bb).2 ⟨h0, by omega, by omega⟩
theorem merge_none {a b c p q : L.Pt} (ba : L.bd a) (bb : L.bd b) (bc : L.bd c) (bp : L.bd p) (bq : L.bd q) (hb : L.on a c b = true) (h1 : L.meet a b p q = 0) (h2 : L.meet b c p q = 0) : L.meet a c p q = 0 := by
 by_cases hac : a = c
 · subst hac; rw [on_same hb] at h1; exact h1
 by_cases hab : a = b
 · subst hab; exact h2
 by_cases hbc : b = c
 · subst hbc; exact h1
 rw [meet_zero] at h1 h2 ⊢
 obtain ⟨s1, x1⟩ := h1
 obtain ⟨s2, x2⟩ := h2
 refine ⟨fun r hr => ?_, fun ⟨hx, hy⟩ => ?_⟩
 · rcases hr with ⟨h, rfl⟩ | ⟨h, rfl⟩ | ⟨h, rfl⟩ | ⟨h, rfl⟩
   · exact s1 _ (.inl ⟨h, rfl⟩)
   · exact s2 _ (.inr (.inl ⟨h, rfl⟩))
   · rcases on_split ba bb bc bp hb h with g | g
     · exact s1 _ (.inr (.inr (.inl ⟨g, rfl⟩)))
     · exact s2 _ (.inr (.inr (.inl ⟨g, rfl⟩)))
   · rcases on_split ba bb bc bq hb h with g | g
     · exact s1 _ (.inr (.inr (.inr ⟨g, rfl⟩)))
     · exact s2 _ (.inr (.inr (.inr ⟨g, rfl⟩)))
 · rw [apart_iff] at hx hy
   have hcb := on_cross hb
   have fb := on_f hb
   have nfa : L.f a ≠ L.f b := fun e => hab (f_inj ba bb e)
   have nfc : L.f b ≠ L.f c := fun e => hbc (f_inj bb bc e)
   have hsb : L.cross p q b ≠ 0 := fun e => s1 b (.inr (.inl ⟨cross_on bp bq bb e hcb hx, rfl⟩))
   have r1 : ∀ t, (L.f c - L.f a) * L.cross a b t = (L.f b - L.f a) * L.cross a c t := fun t => by
     have : (L.f c - L.f a) * L.cross a b t - (L.f b - L.f a) * L.cross a c t = - (L.f t - L.f a) * L.cross a c b := by unfold L.f L.cross; grind
     rw [hcb, Int.mul_zero] at this; omega
   have r2 : ∀ t, (L.f c - L.f a) * L.cross b c t = (L.f c - L.f b) * L.cross a c t := fun t => by
     have : (L.f c - L.f a) * L.cross b c t - (L.f c - L.f b) * L.cross a c t = (L.f t - L.f c) * L.cross a c b := by unfold L.f L.cross; grind
     rw [hcb, Int.mul_zero] at this; omega
   have hs : L.opp (L.cross p q a) (L.cross p q b) \/ L.opp (L.cross p q b) (L.cross p q c) := by
     unfold L.opp at *; omega
   rcases hs with hs | hs
   · refine x1 ⟨apart_iff.2 (opp_div (k := L.f c - L.f a) ?_), apart_iff.2 hs⟩
     rw [r1, r1]; exact opp_mul hx (by omega)
   · refine x2 ⟨apart_iff.2 (opp_div (k := L.f c - L.f a) ?_), apart_iff.2 hs⟩
     rw [r2, r2]; exact opp_mul hx (by omega)
theorem merge_touch {a b c d : L.Pt} (ba : L.bd a) (bb : L.bd b) (bc : L.bd c) (bd : L.bd d) (hb : L.on a c b = true) (h1 : L.meet a b c d = 0) (h2 : L.meet b c c d = 1) : L.meet a c c d = 1 := by
 rw [meet_zero] at h1
 rw [meet_one] at h2 ⊢
 obtain ⟨s1, _⟩ := h1
 obtain ⟨q, hq, hu⟩ := h2
 have hc : q = c := (hu c (.inr (.inl ⟨on_left, rfl⟩))).symm
 subst hc
 refine ⟨q, .inr (.inl ⟨on_left, rfl⟩), fun r hr => ?_⟩
 rcases hr with ⟨h, rfl⟩ | ⟨_, rfl⟩ | ⟨_, rfl⟩ | ⟨h, rfl⟩
 · exact absurd (.inl ⟨h, rfl⟩) (s1 r)
 · rfl
 · rfl
 · rcases on_split ba bb bc bd hb h with g | g
   · exact absurd (.inr (.inr (.inr ⟨g, rfl⟩))) (s1 r)
   · exact hu r (.inr (.inr (.inr ⟨g, rfl⟩)))
theorem flat_on {a b c : L.Pt} (ba : L.bd a) (bb : L.bd b) (bc : L.bd c) (h0 : L.cross a b c = 0) (h : L.meet a b b c = 1) : L.on a c b = true := by
 rw [meet_one] at h
 obtain ⟨q, _, hu⟩ := h
 have hq : q = b := (hu b (.inr (.inl ⟨on_left, rfl⟩))).symm
 subst hq
 by_cases hab : a = q
 · subst hab; exact on_left
 by_cases hbc : q = c
 · subst hbc; exact on_right
 have n1 : L.on q c a = false := by
   cases hx : L.on q c a with
   | false => rfl
   | true => exact absurd (hu a (.inl ⟨hx, rfl⟩)) hab
 have n2 : L.on a q c = false := by
   cases hx : L.on a q c with
   | false => rfl
   | true => exact absurd (hu c (.inr (.inr (.inr ⟨hx, rfl⟩)))).symm hbc
 have hac : a ≠ c := fun e => by subst e; rw [on_left] at n2; cases n2
 have e1 : L.cross q c a = 0 := by unfold L.cross at *; grind
 have e2 : L.cross a c q = 0 := by unfold L.cross at *; grind
 have k1 : ¬ (L.cross q c a = 0 /\ min (L.f q) (L.f c) <= L.f a /\ L.f a <= max (L.f q) (L.f c)) := fun h => by rw [(on_iff hbc bb bc ba).2 h] at n1; cases n1
 have k2 : ¬ (L.cross a q c = 0 /\ min (L.f a) (L.f q) <= L.f c /\ L.f c <= max (L.f a) (L.f q)) := fun h => by rw [(on_iff hab ba bb bc).2 h] at n2; cases n2
 exact (on_iff hac ba bc bb).2 ⟨e2, by omega, by omega⟩
theorem pair_of {x : L.Sq L.Pt} (h : L.simple x = true) {i k : Nat} (h1 : i < k) (h2 : k < x.n) : L.meet (x.g i) (x.g (i + 1)) (x.g k) (x.g (L.next x.n k)) = (if k = i + 1 \/ (i = 0 /\ k + 1 = x.n) then 1 else 0) := by
 have hp : L.okPair x i k = true := by
   unfold L.simple at h
   have := allB_iff.1 (allB_iff.1 h i (by omega)) k h2
   rw [decide_eq_true h1] at this
   exact this
 unfold L.okPair at hp
 have hx : L.nxt x i k = true ↔ k = i + 1 \/ (i = 0 /\ k + 1 = x.n) := by
   unfold L.nxt
   rw [bor, Bool.or_eq_true, band, Bool.and_eq_true, decide_eq_true_eq, decide_eq_true_eq, decide_eq_true_eq]
   omega
 show L.how x i k = _
 cases e : L.nxt x i k with
 | true => rw [e] at hp; rw [if_pos (hx.1 e)]; exact of_decide_eq_true hp
 | false =>
   rw [e] at hp
   rw [if_neg (fun h => by rw [hx.2 h] at e; cases e)]; exact of_decide_eq_true hp
theorem simple_from {x : L.Sq L.Pt} (h : ∀ i k, i < k -> k < x.n -> L.meet (x.g i) (x.g (i + 1)) (x.g k) (x.g (L.next x.n k)) = (if k = i + 1 \/ (i = 0 /\ k + 1 = x.n) then 1 else 0)) : L.simple x = true := by
 unfold L.simple
 refine allB_iff.2 fun i hi => allB_iff.2 fun k hk => ?_
 by_cases h1 : i < k
 · rw [decide_eq_true h1]
   show L.okPair x i k = true
   have := h i k h1 hk
   unfold L.okPair
   have hx : L.nxt x i k = true ↔ k = i + 1 \/ (i = 0 /\ k + 1 = x.n) := by
     unfold L.nxt
     rw [bor, Bool.or_eq_true, band, Bool.and_eq_true, decide_eq_true_eq, decide_eq_true_eq, decide_eq_true_eq]
     omega
   have this : L.how x i k = _ := this
   cases e : L.nxt x i k with
   | true => rw [if_pos (hx.1 e)] at this; exact decide_eq_true this
   | false => rw [if_neg (fun h => by rw [hx.2 h] at e; cases e)] at this; exact decide_eq_true this
 · rw [decide_eq_false h1]; rfl
theorem del_last {n : Nat} {g : Nat -> L.Pt} (hn : 3 <= n) (hb : ∀ k, k < n + 1 -> L.bd (g k)) (h : L.simple ⟨n + 1, g⟩ = true) (h0 : L.cross (g (n - 1)) (g n) (g 0) = 0) : L.simple ⟨n, g⟩ = true := by
 have P : ∀ i k, i < k -> k < n + 1 -> L.meet (g i) (g (i + 1)) (g k) (g (if k + 1 = n + 1 then 0 else k + 1)) = (if k = i + 1 \/ (i = 0 /\ k + 1 = n + 1) then 1 else 0) := fun i k h1 h2 => by
   have := pair_of h h1 h2
   rw [<- next_at (n := n + 1) h2]; exact this
 have b0 := hb 0 (by omega)
 have bn := hb n (by omega)
 have bp := hb (n - 1) (by omega)
 have e1 : n - 1 + 1 = n := by omega
 have t := P (n - 1) n (by omega) (by omega)
 rw [if_pos (Or.inl (by omega)), if_pos rfl, e1] at t
 have hon : L.on (g (n - 1)) (g 0) (g n) = true := flat_on bp bn b0 h0 t
 refine simple_from fun i k h1 h2 => ?_
 have h2 : k < n := h2
 have bi := hb i (by omega)
 have bi1 := hb (i + 1) (by omega)
 show L.meet (g i) (g (i + 1)) (g k) (g (L.next n k)) = (if k = i + 1 \/ (i = 0 /\ k + 1 = n) then 1 else 0)
 rw [next_at h2]
 by_cases hk : k + 1 = n
 · rw [if_pos hk]
   obtain rfl : k = n - 1 := by omega
   have q1 := P i n (by omega) (by omega)
   rw [if_pos rfl] at q1
   have q2 := P i (n - 1) h1 (by omega)
   rw [if_neg (show ¬ n - 1 + 1 = n + 1 by omega), e1] at q2
   by_cases c1 : n - 1 = i + 1
   · rw [if_pos (.inl c1)]
     rw [if_pos (.inl c1)] at q2
     rw [if_neg (by omega)] at q1
     rw [<- c1] at q1 q2 ⊢
     have s1 : L.meet (g 0) (g n) (g (n - 1)) (g i) = 0 := by rw [meet_rev2, meet_swap]; exact q1
     have s2 : L.meet (g n) (g (n - 1)) (g (n - 1)) (g i) = 1 := by rw [meet_rev2, meet_swap]; exact q2
     have := merge_touch b0 bn bp bi (by rw [on_flip]; exact hon) s1 s2
     rw [meet_rev2, meet_swap] at this
     exact this
   · rw [if_neg (by omega)] at q2
     by_cases c2 : i = 0
     · subst c2
       rw [if_pos (.inr ⟨rfl, e1⟩)]
       rw [if_pos (.inr ⟨rfl, rfl⟩)] at q1
       rw [<- meet_swap] at q1 q2 ⊢
       exact merge_touch bp bn b0 bi1 hon q2 q1
     · rw [if_neg (by omega)]
       rw [if_neg (by omega)] at q1
       rw [<- meet_swap] at q1 q2 ⊢
       exact merge_none bp bn b0 bi bi1 hon q2 q1
 · rw [if_neg hk]
   have := P i k h1 (by omega)
   rw [if_neg (by omega)] at this
   rw [this]
   by_cases c : k = i + 1
   · rw [if_pos (.inl c), if_pos (.inl c)]
   · rw [if_neg (by omega), if_neg (by omega)]
theorem tri_sharp {g : Nat -> L.Pt} (hb : ∀ k, k < 3 -> L.bd (g k)) (h : L.simple ⟨3, g⟩ = true) (hd : g 1 ≠ g 2 /\ g 0 ≠ g 2) : L.cross (g 1) (g 2) (g 0) ≠ 0 := fun h0 => by
 have t := pair_of h (i := 1) (k := 2) (by omega) (show 2 < 3 by omega)
 have u := pair_of h (i := 0) (k := 1) (by omega) (show 1 < 3 by omega)
 rw [if_pos (.inl rfl)] at t u
 dsimp only at t u
 rw [show L.next 3 2 = 0 by decide] at t
 rw [show L.next 3 1 = 2 by decide] at u
 have t : L.meet (g 1) (g 2) (g 2) (g 0) = 1 := t
 have u : L.meet (g 0) (g 1) (g 1) (g 2) = 1 := u
 have hon := flat_on (hb 1 (by omega)) (hb 2 (by omega)) (hb 0 (by omega)) h0 t
 obtain ⟨q, _, hu⟩ := meet_one.1 u
 have e1 := hu (g 1) (.inr (.inl ⟨on_left, rfl⟩))
 have e2 := hu (g 2) (.inr (.inr (.inr ⟨by rw [on_flip]; exact hon, rfl⟩)))
 exact hd.1 (e1.trans e2.symm)
def L.ofL (l : List L.Pt) : L.Sq L.Pt := ⟨l.length, fun k => l.getD k ⟨0, 0⟩⟩
theorem toL_ofL (l : List L.Pt) : L.toL (L.ofL l) = l := by
 apply List.ext_getElem?
 intro k
 rw [toL_get]
 show (if k < l.length then some (l.getD k ⟨0, 0⟩) else none) = _
 by_cases h : k < l.length
 · rw [if_pos h, List.getD_eq_getElem?_getD, List.getElem?_eq_getElem h]; rfl
 · rw [if_neg h, List.getElem?_eq_none (by omega)]
def L.fine (x : L.Sq L.Pt) : Prop := 3 <= x.n /\ x.n <= 1000 /\ L.simple x = true /\ (L.toL x).Nodup /\ ∀ p, p ∈ L.toL x -> L.bd p
theorem fine_rot {x y : L.Sq L.Pt} (h : L.fine x) (r : Rot (L.toL x) (L.toL y)) : L.fine y := by
 obtain ⟨h3, hn, hs, hd, hb⟩ := h
 obtain ⟨e, _⟩ := rot_cy (by omega) r
 exact ⟨by omega, by omega, simple_rot (by omega) hs r, r.nodup hd, fun p hp => hb p (r.mem.2 hp)⟩
theorem fine_step {x y : L.Sq L.Pt} (h : L.fine x) (s : Step L.Fl (L.toL x) (L.toL y)) : L.fine y := by
 obtain ⟨b, t, r1, hf, r2⟩ := s
 have r3 : Rot (L.toL x) (L.toL (L.ofL (t ++ [b]))) := by
   rw [toL_ofL]; exact r1.trans ⟨[b], t, rfl, rfl⟩
 obtain ⟨h3, hn, hs, hd, hb⟩ := fine_rot h r3
 rw [toL_ofL] at hd hb
 have hl : (L.ofL (t ++ [b])).n = t.length + 1 := by simp [L.ofL]
 have gb : ∀ k, k < t.length + 1 -> L.bd ((t ++ [b]).getD k ⟨0, 0⟩) := fun k hk => hb _ (by
   rw [List.getD_eq_getElem?_getD, List.getElem?_eq_getElem (by simp; omega)]
   exact List.getElem_mem _)
 have glast : (t ++ [b]).getD t.length ⟨0, 0⟩ = b := by
   simp [List.getD_eq_getElem?_getD]
 have gt : ∀ k, k < t.length -> (t ++ [b]).getD k ⟨0, 0⟩ = t.getD k ⟨0, 0⟩ := fun k hk => by
   rw [List.getD_eq_getElem?_getD, List.getD_eq_getElem?_getD, List.getElem?_append_left hk]
 rw [hl] at h3 hn
 have h0 : L.cross ((t ++ [b]).getD (t.length - 1) ⟨0, 0⟩) ((t ++ [b]).getD t.length ⟨0, 0⟩) ((t ++ [b]).getD 0 ⟨0, 0⟩) = 0 := by
   rw [glast, gt _ (by omega), gt 0 (by omega)]
   have e1 : t.getLastD b = t.getD (t.length - 1) ⟨0, 0⟩ := by
     rw [List.getD_eq_getElem?_getD, List.getElem?_eq_getElem (by omega), List.getLastD_eq_getLast?, List.getLast?_eq_getElem?, List.getElem?_eq_getElem (by omega)]; rfl
   have e2 : t.headD b = t.getD 0 ⟨0, 0⟩ := by
     cases t with
     | nil => simp at h3
     | cons c r => rfl
   rw [<- e1, <- e2]; exact hf
 have hs' : L.simple ⟨t.length + 1, fun k => (t ++ [b]).getD k ⟨0, 0⟩⟩ = true := by rw [<- hl]; exact hs
 have h4 : 3 <= t.length := by
   rcases Nat.lt_or_ge 2 t.length with g | g
   · exact g
   · exfalso
     have e : t.length = 2 := by omega
     match t, e with
     | [c, d], _ =>
       have hd' : ¬ (c = d \/ c = b) /\ ¬ d = b := by simpa using hd
       exact tri_sharp (g := fun k => ([c, d] ++ [b]).getD k ⟨0, 0⟩) gb hs' ⟨hd'.2, fun e => hd'.1 (.inr e)⟩ h0
 have h5 := del_last h4 gb hs' h0
 have e5 : L.toL ⟨t.length, fun k => (t ++ [b]).getD k ⟨0, 0⟩⟩ = t := by
   apply List.ext_getElem?
   intro k
   rw [toL_get]
   show (if k < t.length then some ((t ++ [b]).getD k ⟨0, 0⟩) else none) = _
   by_cases h : k < t.length
   · rw [if_pos h, gt k h, List.getD_eq_getElem?_getD, List.getElem?_eq_getElem h]; rfl
   · rw [if_neg h, List.getElem?_eq_none (by omega)]
 have hfin : L.fine ⟨t.length, fun k => (t ++ [b]).getD k ⟨0, 0⟩⟩ := ⟨h4, by show t.length <= 1000; omega, h5, by rw [e5]; exact (List.nodup_append.1 hd).1, fun p hp => hb p (by rw [e5] at hp; exact List.mem_append.2 (.inl hp))⟩
 exact fine_rot hfin (by rw [e5]; exact r2)
theorem fine_thin {c : L.Pt -> L.Pt -> L.Pt -> Bool} (hc : ∀ a b d, c a b d = true -> L.Fl a b d) {x : L.Sq L.Pt} (h : L.fine x) : L.fine (L.thin c x) :=
 thin_ind (Q := L.fine) (fun _ _ h hi he => fine_step h (out_step hc hi he)) h
theorem part_simple {x : L.Sq L.Pt} (hs : L.simple x = true) {d : Nat} (h2 : 2 <= d) (hd : d + 2 <= x.n)
   (hdi : ∀ m, m < x.n -> L.meet (x.g 0) (x.g d) (x.g m) (x.g (L.next x.n m)) = (if m = 0 \/ m = d \/ m + 1 = d \/ m + 1 = x.n then 1 else 0)) : L.simple ⟨d + 1, x.g⟩ = true := by
 refine simple_from fun i k h1 h3 => ?_
 have h3 : k < d + 1 := h3
 show L.meet (x.g i) (x.g (i + 1)) (x.g k) (x.g (L.next (d + 1) k)) = (if k = i + 1 \/ (i = 0 /\ k + 1 = d + 1) then 1 else 0)
 rw [next_at h3]
 by_cases hk : k = d
 · subst hk
   rw [if_pos rfl, <- meet_swap, meet_rev]
   have := hdi i (by omega)
   rw [next_at (by omega), if_neg (by omega)] at this
   rw [this]
   by_cases c : i = 0 \/ i + 1 = k
   · rw [if_pos (by omega), if_pos (by omega)]
   · rw [if_neg (by omega), if_neg (by omega)]
 · rw [if_neg (by omega)]
   have := pair_of hs h1 (show k < x.n by omega)
   rw [next_at (by omega), if_neg (by omega)] at this
   rw [this]
   by_cases c : k = i + 1
   · rw [if_pos (.inl c), if_pos (.inl c)]
   · rw [if_neg (by omega), if_neg (by omega)]
end Go.Proofs.YtaklapjfnejlbaaGreat
namespace Go.Proofs.YtaklapjfnejlbaaGreat
open Go.SE Go.RowKit
set_option maxRecDepth 100000
set_option maxHeartbeats 4000000
set_option linter.unusedVariables false
attribute [local irreducible] vc
def L.newP (l : L.Sq L.Pt) (i:Nat) : Bool := bif decide (i = 0) then true else !L.same (l.g i) (l.g (i - 1))
def L.cptN (l : L.Sq L.Pt) : Nat := L.cnt (L.newP l) l.n
def L.cptG (l : L.Sq L.Pt) (i:Nat) : L.Pt := bif decide (i < L.cptN l) then l.g (L.selN (L.newP l) l.n i) else ⟨0, 0⟩
def L.cpt (l : L.Sq L.Pt) : L.Sq L.Pt := ⟨L.cptN l, L.cptG l⟩
def L.cptW (l : L.Sq L.Pt) (j:Nat) (i:Nat) : L.Pt := bif decide (i < L.cnt (L.newP l) j) then l.g (L.selN (L.newP l) j i) else l.g i
theorem all_new {p : Nat -> Bool} : ∀ {k : Nat}, (∀ j, j < k -> p j = true) -> L.cnt p k = k /\ ∀ i, i < k -> L.selN p k i = i
 | 0, _ => ⟨rfl, fun i hi => absurd hi (Nat.not_lt_zero _)⟩
 | k + 1, h => by
   obtain ⟨h1, h2⟩ := all_new (p := p) (k := k) (fun j hj => h j (by omega))
   have hk := h k (by omega)
   refine ⟨by rw [cnt_yes hk, h1], fun i hi => ?_⟩
   by_cases e : i = k
   · subst e
     have := selN_new hk
     rwa [h1] at this
   · rw [selN_old (by omega), h2 i (by omega)]
theorem cptW_first {l : L.Sq L.Pt} {k : Nat} (h : ∀ j, j < k -> L.newP l j = true) (i:Nat) : L.cptW l k i = l.g i := by
 obtain ⟨h1, h2⟩ := all_new h
 unfold L.cptW
 rw [h1]
 by_cases hi : i < k
 · rw [decide_eq_true hi, h2 i hi]; rfl
 · rw [decide_eq_false hi]; rfl
theorem cptW_yes {l : L.Sq L.Pt} {j : Nat} (h : L.newP l j = true) (i:Nat) : L.cptW l (j + 1) i = if i = L.cnt (L.newP l) j then l.g j else L.cptW l j i := by
 unfold L.cptW
 rw [cnt_yes h]
 by_cases e : i = L.cnt (L.newP l) j
 · rw [if_pos e, decide_eq_true (by omega), e, selN_new h]; rfl
 · rw [if_neg e]
   by_cases hi : i < L.cnt (L.newP l) j
   · rw [decide_eq_true hi, decide_eq_true (show i < L.cnt (L.newP l) j + 1 by omega), selN_old e]
   · rw [decide_eq_false hi, decide_eq_false (show ¬ i < L.cnt (L.newP l) j + 1 by omega)]; rfl
theorem cptW_not {l : L.Sq L.Pt} {j : Nat} (h : L.newP l j = false) (i:Nat) : L.cptW l (j + 1) i = L.cptW l j i := by
 unfold L.cptW
 rw [cnt_not h, selN_not h]
theorem cptW_at {l : L.Sq L.Pt} {j i : Nat} (h : L.cnt (L.newP l) j <= i) : L.cptW l j i = l.g i := by
 unfold L.cptW; rw [decide_eq_false (by omega)]; rfl
def L.wrapP (l : L.Sq L.Pt) (i:Nat) : Bool := bif L.same (L.wrapAt l.g l.n (L.plc l 0) (i + 1)) (L.plc l 0) then true else decide ((400:Int) < ((i + 1:Nat):Int))
def L.wrapN (l : L.Sq L.Pt) : Nat := (L.idx 401 (L.wrapP l)).toNat + 1
def L.wrapG (l : L.Sq L.Pt) (k:Nat) : L.Pt := L.wrapAt l.g l.n (L.plc l 0) k
theorem scan_bd {g : Nat -> L.Pt} {f : L.Pt} (hf : L.bd f) : ∀ {n : Nat}, (∀ i, i < n -> L.bd (g i)) -> L.bd (L.scan g f n)
 | 0, _ => hf
 | n + 1, h => by
   unfold L.scan
   cases L.wrapC f (L.scan g f n) (g n) with
   | true => exact h n (by omega)
   | false => exact scan_bd hf (fun i hi => h i (by omega))
theorem plc_in {l : L.Sq L.Pt} (h1 : 1 <= l.n) : ∃ j, j < l.n /\ L.plc l 0 = l.g j := by
 obtain ⟨_, h2, _⟩ := argTo_min l (l.n - 1)
 rw [show l.n - 1 + 1 = l.n by omega] at h2
 refine ⟨L.fstK l, by unfold L.fstK; omega, ?_⟩
 unfold L.plc L.rot
 dsimp only
 rw [decide_eq_true (by unfold L.fstK; omega)]; rfl
theorem plc_min {l : L.Sq L.Pt} (h1 : 1 <= l.n) : L.plc l 0 = L.minTo l (l.n - 1) := by
 obtain ⟨h0, h2, _⟩ := argTo_min l (l.n - 1)
 rw [show l.n - 1 + 1 = l.n by omega] at h0 h2
 rw [<- h0]
 unfold L.plc L.rot
 dsimp only
 rw [decide_eq_true (by unfold L.fstK; omega)]; rfl
theorem plc_bd {l : L.Sq L.Pt} (h1 : 1 <= l.n) (h : ∀ i, i < l.n -> L.bd (l.g i)) : L.bd (L.plc l 0) := by
 obtain ⟨j, hj, e⟩ := plc_in h1
 rw [e]; exact h j hj
theorem wrapAt_bd {l : L.Sq L.Pt} (h1 : 1 <= l.n) (h : ∀ i, i < l.n -> L.bd (l.g i)) : ∀ k, L.bd (L.wrapG l k)
 | 0 => plc_bd h1 h
 | k + 1 => scan_bd (wrapAt_bd h1 h k) h
theorem wrapC_eq (f t q : L.Pt) : (bif bif (decide (t.x = f.x) && decide (t.y = f.y)) then true else decide (L.cross f t q < 0) then true else bif decide (L.cross f t q = 0) then decide (L.dist f t < L.dist f q) else false) = L.wrapC f t q := by
 unfold L.wrapC
 cases decide (t.x = f.x) <;> cases decide (t.y = f.y) <;> cases decide (L.cross f t q < 0) <;> rfl
theorem idx_spec {f : Nat -> Bool} : ∀ {n : Nat}, (L.idx n f = -1 /\ ∀ j, j < n -> f j = false) \/ ∃ i : Nat, i < n /\ L.idx n f = (i:Int) /\ f i = true /\ ∀ j, j < i -> f j = false
 | 0 => .inl ⟨rfl, fun j hj => absurd hj (Nat.not_lt_zero _)⟩
 | n + 1 => by
   rcases idx_spec (f := f) (n := n) with ⟨h1, h2⟩ | ⟨i, h1, h2, h3, h4⟩
   · cases hf : f n with
     | true => exact .inr ⟨n, Nat.lt_succ_self n, by simp [L.idx, h1, hf], hf, h2⟩
     | false =>
       refine .inl ⟨by simp [L.idx, h1, hf], fun j hj => ?_⟩
       rcases Nat.lt_succ_iff_lt_or_eq.1 hj with h | rfl
       · exact h2 j h
       · exact hf
   · exact .inr ⟨i, by omega, by simp [L.idx, h2], h3, h4⟩
theorem wrapN_at {l : L.Sq L.Pt} {g : Nat} (hg : g <= 400) (h0 : ∀ i, i < g -> L.wrapP l i = false) (h1 : L.wrapP l g = true) : L.wrapN l = g + 1 := by
 have : L.idx 401 (L.wrapP l) = (g:Int) := by
   rcases idx_spec (f := L.wrapP l) (n := 401) with ⟨_, h⟩ | ⟨i, hi, e, h2, h3⟩
   · rw [h g (by omega)] at h1; cases h1
   · rw [e]
     rcases Nat.lt_trichotomy i g with q | q | q
     · rw [h0 i q] at h2; cases h2
     · rw [q]
     · rw [h3 g q] at h1; cases h1
 unfold L.wrapN; rw [this, Int.toNat_natCast]
def L.hlE (l : L.Sq L.Pt) (m:Nat) : Int := bif (bif decide (400 < (l.n:Int)) then true else !L.validPts l) then 1 else bif L.flat l then 11 else bif decide (24 < (m:Int)) then 2 else 0
theorem lePt_sle {a b : L.Pt} : L.lePt a b ↔ L.sle 1 a b := by
 unfold L.lePt L.sle L.vn
 rw [cmpPt_le, Int.one_mul, Int.one_mul]; omega
structure L.CptOk (l : L.Sq L.Pt) (j:Nat) : Prop where
 lt : ∀ i, i < L.cnt (L.newP l) j -> L.selN (L.newP l) j i < j
 all : ∀ q, q < j -> ∃ i, i < L.cnt (L.newP l) j /\ l.g (L.selN (L.newP l) j i) = l.g q
 asc : ∀ i k, i < k -> k < L.cnt (L.newP l) j -> L.slt 1 (l.g (L.selN (L.newP l) j i)) (l.g (L.selN (L.newP l) j k))
 last : 0 < j -> 0 < L.cnt (L.newP l) j /\ l.g (L.selN (L.newP l) j (L.cnt (L.newP l) j - 1)) = l.g (j - 1)
theorem cpt_ok {l : L.Sq L.Pt} (h : ∀ i, i + 1 < l.n -> L.sle 1 (l.g i) (l.g (i + 1))) : ∀ j, j <= l.n -> L.CptOk l j
 | 0, _ => ⟨fun i hi => absurd hi (Nat.not_lt_zero _), fun q hq => absurd hq (Nat.not_lt_zero _), fun i k _ hk => absurd hk (Nat.not_lt_zero _), fun h => absurd h (Nat.lt_irrefl _)⟩
 | j + 1, hj => by
   obtain ⟨h1, h2, h3, h4⟩ := cpt_ok h j (by omega)
   cases hp : L.newP l j with
   | true =>
     have hc := cnt_yes hp
     have hn := selN_new hp
     have ho : ∀ i, i < L.cnt (L.newP l) j -> L.selN (L.newP l) (j + 1) i = L.selN (L.newP l) j i := fun i hi => selN_old (by omega)
     refine ⟨fun i hi => ?_, fun q hq => ?_, fun i k hik hk => ?_, fun _ => ?_⟩
     · rw [hc] at hi
       by_cases e : i = L.cnt (L.newP l) j
       · rw [e, hn]; omega
       · rw [ho i (by omega)]; have := h1 i (by omega); omega
     · by_cases e : q = j
       · exact ⟨L.cnt (L.newP l) j, by omega, by rw [hn, e]⟩
       · obtain ⟨i, hi, e2⟩ := h2 q (by omega)
         exact ⟨i, by omega, by rw [ho i hi]; exact e2⟩
     · rw [hc] at hk
       by_cases e : k = L.cnt (L.newP l) j
       · subst e
         rw [ho i hik, hn]
         have h0 : 0 < j := by
           rcases Nat.eq_zero_or_pos j with g | g
           · subst g; exact absurd hik (Nat.not_lt_zero _)
           · exact g
         obtain ⟨l1, l2⟩ := h4 h0
         have hlt : L.slt 1 (l.g (j - 1)) (l.g j) := by
           have hle := h (j - 1) (by omega)
           rw [show j - 1 + 1 = j by omega] at hle
           rcases sle_or (.inl rfl) hle with g | g
           · exfalso
             unfold L.newP at hp
             rw [decide_eq_false (by omega), cond_false, g, same_refl] at hp
             cases hp
           · exact g
         by_cases e2 : i = L.cnt (L.newP l) j - 1
         · rw [e2, l2]; exact hlt
         · have := h3 i (L.cnt (L.newP l) j - 1) (by omega) (by omega)
           rw [l2] at this
           exact slt_trans this hlt
       · rw [ho i (by omega), ho k (by omega)]; exact h3 i k hik (by omega)
     · rw [hc, Nat.add_sub_cancel, hn]; exact ⟨Nat.succ_pos _, rfl⟩
   | false =>
     have hc := cnt_not hp
     have ho : ∀ i, L.selN (L.newP l) (j + 1) i = L.selN (L.newP l) j i := fun i => selN_not hp
     have h0 : 0 < j := by
       rcases Nat.eq_zero_or_pos j with g | g
       · subst g; exact absurd (show L.newP l 0 = true from rfl) (by rw [hp]; exact Bool.noConfusion)
       · exact g
     have hs : l.g j = l.g (j - 1) := by
       unfold L.newP at hp
       rw [decide_eq_false (by omega), cond_false] at hp
       exact same_eq (notF hp)
     obtain ⟨l1, l2⟩ := h4 h0
     refine ⟨fun i hi => ?_, fun q hq => ?_, fun i k hik hk => ?_, fun _ => ?_⟩
     · rw [ho]; rw [hc] at hi; have := h1 i hi; omega
     · by_cases e : q = j
       · exact ⟨L.cnt (L.newP l) j - 1, by omega, by rw [ho, l2, e, hs]⟩
       · obtain ⟨i, hi, e2⟩ := h2 q (by omega)
         exact ⟨i, by omega, by rw [ho]; exact e2⟩
     · rw [ho, ho]; exact h3 i k hik (by omega)
     · rw [hc, ho]; exact ⟨l1, by rw [l2, Nat.add_sub_cancel, hs]⟩
theorem sorted_le {l : L.Sq L.Pt} {i : Nat} (h : i + 1 < l.n) : L.sle 1 ((L.sorted l).g i) ((L.sorted l).g (i + 1)) := by
 have hl : (L.isortPt (L.listPt l)).length = l.n := by rw [(isortPt_perm _).length_eq]; simp [L.listPt]
 have := List.pairwise_iff_getElem.1 (isortPt_asc (L.listPt l)) i (i + 1) (by omega) (by omega) (Nat.lt_succ_self _)
 rw [lePt_sle] at this
 show L.sle 1 ((L.isortPt (L.listPt l)).getD i ⟨0, 0⟩) ((L.isortPt (L.listPt l)).getD (i + 1) ⟨0, 0⟩)
 rw [List.getD_eq_getElem?_getD, List.getD_eq_getElem?_getD, List.getElem?_eq_getElem (by omega), List.getElem?_eq_getElem (by omega)]
 exact this
theorem sorted_all (l : L.Sq L.Pt) {i : Nat} (hi : i < l.n) : ∃ k, k < l.n /\ (L.sorted l).g k = l.g i := by
 have hl : (L.isortPt (L.listPt l)).length = l.n := by rw [(isortPt_perm _).length_eq]; simp [L.listPt]
 have hm : l.g i ∈ L.isortPt (L.listPt l) := (isortPt_perm _).mem_iff.2 (List.mem_map.2 ⟨i, List.mem_range.2 hi, rfl⟩)
 obtain ⟨k, hk, e⟩ := List.getElem_of_mem hm
 refine ⟨k, by omega, ?_⟩
 show (L.isortPt (L.listPt l)).getD k ⟨0, 0⟩ = _
 rw [List.getD_eq_getElem?_getD, List.getElem?_eq_getElem hk]; exact e
theorem cpt_sorted (l : L.Sq L.Pt) : (∀ i k, i < k -> k < (L.cpt (L.sorted l)).n -> L.slt 1 ((L.cpt (L.sorted l)).g i) ((L.cpt (L.sorted l)).g k)) /\ (∀ i, i < (L.cpt (L.sorted l)).n -> ∃ j, j < l.n /\ (L.cpt (L.sorted l)).g i = l.g j) /\ (∀ j, j < l.n -> ∃ i, i < (L.cpt (L.sorted l)).n /\ (L.cpt (L.sorted l)).g i = l.g j) /\ (L.cpt (L.sorted l)).n <= l.n := by
 obtain ⟨h1, h2, h3, _⟩ := cpt_ok (l := L.sorted l) (fun i hi => sorted_le hi) l.n (Nat.le_refl _)
 have e : ∀ i, i < L.cptN (L.sorted l) -> (L.cpt (L.sorted l)).g i = (L.sorted l).g (L.selN (L.newP (L.sorted l)) l.n i) := fun i hi => by
   show L.cptG (L.sorted l) i = _
   unfold L.cptG
   rw [decide_eq_true hi]; rfl
 refine ⟨fun i k hik hk => ?_, fun i hi => ?_, fun j hj => ?_, cnt_le⟩
 · have hk : k < L.cptN (L.sorted l) := hk
   rw [e i (by omega), e k hk]; exact h3 i k hik hk
 · obtain ⟨j, hj, e2⟩ := sorted_mem l (h1 i hi)
   exact ⟨j, hj, (e i hi).trans e2⟩
 · obtain ⟨k, hk, e2⟩ := sorted_all l hj
   obtain ⟨i, hi, e3⟩ := h2 k hk
   exact ⟨i, hi, ((e i hi).trans e3).trans e2⟩
theorem cpt_two {l : L.Sq L.Pt} (h : L.two2 l) : 2 <= (L.cpt (L.sorted l)).n := by
 obtain ⟨i, j, hi, hj, hne⟩ := h
 obtain ⟨_, _, h3, _⟩ := cpt_sorted l
 obtain ⟨a, ha, ea⟩ := h3 i hi
 obtain ⟨b, hb, eb⟩ := h3 j hj
 have : a ≠ b := fun e => hne (by rw [<- ea, <- eb, e])
 omega
theorem flat_small {l : L.Sq L.Pt} (h : l.n < 3) : L.flat l = true := by
 by_cases hall : ∀ j, j < l.n -> l.g j = l.g 0
 · exact flat_all hall
 · have h2 : l.n = 2 := by
     by_cases h0 : l.n = 2
     · exact h0
     · exact absurd (fun j hj => by rw [show j = 0 by omega]) hall
   have hne : l.g 1 ≠ l.g 0 := fun e => hall (fun j hj => by
     rcases (show j = 0 \/ j = 1 by omega) with rfl | rfl
     · rfl
     · exact e)
   have hf := far_at (l := l) (k := 1) (by omega) (fun j hj => by rw [show j = 0 by omega]) hne
   unfold L.flat
   rw [hf, decide_eq_false (show ¬ ((1:Nat):Int) < 0 by omega), cond_false, anyB_no (fun i hi => ?_)]
   · rfl
   · rcases (show i = 0 \/ i = 1 by omega) with rfl | rfl
     · show (!decide (L.cross (l.g 0) (l.g 1) (l.g 0) = 0)) = false
       rw [decide_eq_true (cross_beg _ _)]; rfl
     · show (!decide (L.cross (l.g 0) (l.g 1) (l.g 1) = 0)) = false
       rw [decide_eq_true (cross_end _ _)]; rfl
abbrev s_cptP_tr : Tr := { T := (L.Sq L.Pt), U := Nat, args := fun t => (fun l => [.row 1022]) t, own := fun t => (fun l => [(1022, .row 45 2 l.n (fun k => [.int .i64 ((l.g k).x), .int .i64 ((l.g k).y)]))]) t, pre := fun t => (fun l => l.n <= 1000000) t, post := fun t u => (fun l => fun u => True) t u, own' := fun t u => (fun l => fun u => [(1022, .row 45 2 l.n (fun k => [.int .i64 ((L.cptG l k).x), .int .i64 ((L.cptG l k).y)]))]) t u, res := fun t u => (fun l => fun u => .rsub 1022 2 0 (L.cptN l)) t u }
theorem s_cptP_vc (l : L.Sq L.Pt) (hp : s_cptP_tr.pre l) : vc Tryz.prog ({ muts := [], frz := lookN [], specs := lookS [], loops := lookL [(4, { T := Nat, keep := [0], keepO := [1022], chg := fun k => [(3, .p (.int .i64 (k:Int)))], own := fun _ => [], inv := fun k => 1 <= k /\ k <= l.n /\ ∀ j, j < k -> L.newP l j = true, mu := fun k => l.n - k }), (9, { T := Nat × Nat, keep := [0], keepO := [], chg := fun g => [(3, .p (.int .i64 (L.cnt (L.newP l) g.2:Int))), (4, .rsub 1022 2 g.1 (l.n - g.1)), (5, .p (.int .i64 ((g.2:Int) - (g.1:Int))))], own := fun g => [(1022, .row 45 2 l.n (fun k => [.int .i64 ((L.cptW l g.2 k).x), .int .i64 ((L.cptW l g.2 k).y)]))], inv := fun g => 1 <= g.1 /\ g.1 < g.2 /\ g.2 <= l.n /\ L.cnt (L.newP l) g.2 < g.2, mu := fun g => l.n - g.2 })], iters := lookI [], rfs := lookR [], nils := lookM [] }) (bodyOf Tryz.f25) (stTr Tryz.f25 (s_cptP_tr.args l) (s_cptP_tr.own l)) (retTr Tryz.prog Tryz.f25 s_cptP_tr l) :=
 @Eq.mpr _ (let I := SV.int .i64; let T := Int.toNat; let A16 := (1:Nat); let A15 := ((0:Nat) = (0:Nat) /\ L.cptN l = l.n); let A13 := (L.newP l); let A11 := (0:Int); let A10 := (l.n = l.n /\ ∀ (i:Nat), i < l.n -> [I (l.g i).x, I (l.g i).y] = [I (L.cptG l i).x, I (L.cptG l i).y]); let A8 := (1:Int); let A6 := (↑l.n:Int); (decide (A6 < (2:Int)) = true -> ∃ (u:Nat), A15 /\ A10 /\ True) /\ (decide (A6 < (2:Int)) = false -> (∃ (g:Nat), A8 = (↑g:Int) /\ A16 <= g /\ g <= l.n /\ ∀ (j:Nat), j < g -> L.newP l j = true) /\ ∀ (g:Nat), let A7 := (↑g:Int); let A20 := (A7 - A8); let A5 := (decide ((l.g (T A7)).x = (l.g (T A20)).x) && decide ((l.g (T A7)).y = (l.g (T A20)).y)); (A16 <= g /\ g <= l.n /\ ∀ (j:Nat), j < g -> L.newP l j = true) -> (decide (A7 < A6) = true -> (A11 <= A7 /\ A7 < A6) /\ T A7 < l.n /\ InK .i64 A20 /\ (A11 <= A7 - A8 /\ A7 - A8 < A6) /\ T A20 < l.n /\ (A5 = true -> (A11 <= A7 /\ A7 <= A6 /\ A6 <= A6) /\ (∃ (g_1 : Nat × Nat), A7 = (↑(L.cnt A13 g_1.2):Int) /\ (T A7 = g_1.1 /\ T (A6 - A7) = l.n - g_1.1) /\ A8 = (↑g_1.2:Int) - (↑g_1.1:Int) /\ (l.n = l.n /\ ∀ (i:Nat), i < l.n -> [I (l.g i).x, I (l.g i).y] = [I (L.cptW l g_1.2 i).x, I (L.cptW l g_1.2 i).y]) /\ A16 <= g_1.1 /\ g_1.1 < g_1.2 /\ g_1.2 <= l.n /\ L.cnt A13 g_1.2 < g_1.2) /\ ∀ (g_1 : Nat × Nat), let A12 := (↑(l.n - g_1.1):Int); let A4 := (↑g_1.1:Int); let A3 := (↑g_1.2:Int); let A19 := (A3 - A4 - A8); let A17 := (A11 <= A3 - A4 /\ A3 - A4 < A12); let A14 := (L.cptW l g_1.2 (g_1.1 + T A19)); let A9 := (L.cptW l g_1.2 (g_1.1 + T (A3 - A4))); let A2 := (!(decide (A9.x = A14.x) && decide (A9.y = A14.y))); let A1 := (↑(L.cnt A13 g_1.2):Int); A16 <= g_1.1 /\ g_1.1 < g_1.2 /\ g_1.2 <= l.n /\ L.cnt A13 g_1.2 < g_1.2 -> (decide (A3 - A4 < A12) = true -> A17 /\ g_1.1 + T (A3 - A4) < l.n /\ InK .i64 A19 /\ (A11 <= A3 - A4 - A8 /\ A3 - A4 - A8 < A12) /\ g_1.1 + T A19 < l.n /\ (A2 = true -> A17 /\ g_1.1 + T (A3 - A4) < l.n /\ (A11 <= A1 /\ A1 < A6) /\ T A1 < l.n /\ InK .i64 (A1 + A8) /\ InK .i64 (A3 - A4 + A8) /\ ∃ (g' : Nat × Nat), A1 + A8 = (↑(L.cnt A13 g'.2):Int) /\ (g_1.1 = g'.1 /\ l.n - g_1.1 = l.n - g'.1) /\ A3 - A4 + A8 = (↑g'.2:Int) - (↑g'.1:Int) /\ (l.n = l.n /\ ∀ (i:Nat), i < l.n -> setRow (fun (k:Nat) => [I (L.cptW l g_1.2 k).x, I (L.cptW l g_1.2 k).y]) (T A1) (nat_lit 0) [I A9.x, I A9.y] i = [I (L.cptW l g'.2 i).x, I (L.cptW l g'.2 i).y]) /\ (A16 <= g'.1 /\ g'.1 < g'.2 /\ g'.2 <= l.n /\ L.cnt A13 g'.2 < g'.2) /\ l.n - g'.2 < l.n - g_1.2) /\ (A2 = false -> InK .i64 (A3 - A4 + A8) /\ ∃ (g' : Nat × Nat), A1 = (↑(L.cnt A13 g'.2):Int) /\ (g_1.1 = g'.1 /\ l.n - g_1.1 = l.n - g'.1) /\ A3 - A4 + A8 = (↑g'.2:Int) - (↑g'.1:Int) /\ (l.n = l.n /\ ∀ (i:Nat), i < l.n -> [I (L.cptW l g_1.2 i).x, I (L.cptW l g_1.2 i).y] = [I (L.cptW l g'.2 i).x, I (L.cptW l g'.2 i).y]) /\ (A16 <= g'.1 /\ g'.1 < g'.2 /\ g'.2 <= l.n /\ L.cnt A13 g'.2 < g'.2) /\ l.n - g'.2 < l.n - g_1.2)) /\ (decide (A3 - A4 < A12) = false -> (A11 <= A1 /\ A1 <= A6 /\ A6 <= A6) /\ T A1 + T (A6 - A1) <= l.n /\ (A11 <= A11 /\ A11 <= A1 /\ A1 <= A6) /\ ∃ (u : Nat), (nat_lit 0 = (0:Nat) /\ T (A1 - A11) = L.cptN l) /\ (l.n = l.n /\ ∀ (i:Nat), i < l.n -> clrGet (T A1) (T (A6 - A1)) [I A11, I A11] (fun (k:Nat) => [I (L.cptW l g_1.2 k).x, I (L.cptW l g_1.2 k).y]) i = [I (L.cptG l i).x, I (L.cptG l i).y]) /\ True)) /\ (A5 = false -> InK .i64 (A7 + A8) /\ ∃ (g':Nat), A7 + A8 = (↑g':Int) /\ (l.n = l.n /\ ∀ (i:Nat), let A18 := [I (l.g i).x, I (l.g i).y]; i < l.n -> A18 = A18) /\ (A16 <= g' /\ g' <= l.n /\ ∀ (j:Nat), j < g' -> L.newP l j = true) /\ l.n - g' < l.n - g)) /\ (decide (A7 < A6) = false -> ∃ (u:Nat), A15 /\ A10 /\ True))) (by kernel_rfl) (by
 conv => zeta
 have hn : l.n <= 1000000 := hp
 have hN : ∀ j, 1 <= j -> L.newP l j = !L.same (l.g j) (l.g (j - 1)) := fun j hj => by
   unfold L.newP; rw [decide_eq_false (by omega)]; rfl
 have full : (∀ j, j < l.n -> L.newP l j = true) -> ∃ u : Nat, (0 = 0 /\ L.cptN l = l.n) /\ (l.n = l.n /\ ∀ i : Nat, i < l.n -> [SV.int .i64 (l.g i).x, SV.int .i64 (l.g i).y] = [SV.int .i64 (L.cptG l i).x, SV.int .i64 (L.cptG l i).y]) /\ True := fun h => by
   obtain ⟨c1, c2⟩ := all_new h
   refine ⟨(0:Nat), ⟨rfl, c1⟩, ⟨rfl, fun i hi => ?_⟩, trivial⟩
   have : L.cptG l i = l.g i := by
     unfold L.cptG L.cptN; rw [c1, decide_eq_true hi, c2 i hi]; rfl
   rw [this]
 refine ⟨fun h => full (fun j hj => ?_), fun h => ⟨⟨1, rfl, Nat.le_refl _, ?_, fun j hj => ?_⟩, fun g hg => ⟨fun hlt => ?_, fun hge => ?_⟩⟩⟩
 · have h := of_decide_eq_true h
   rw [show j = 0 by omega]; rfl
 · have h := of_decide_eq_false h
   omega
 · rw [show j = 0 by omega]; rfl
 rotate_left
 · have hge : ¬ (g:Int) < (l.n:Int) := of_decide_eq_false hge
   exact full (fun j hj => hg.2.2 j (by omega))
 have hlt : (g:Int) < (l.n:Int) := of_decide_eq_true hlt
 obtain ⟨g1, g2, g3⟩ := hg
 have e0 : ((g:Int)).toNat = g := Int.toNat_natCast g
 have e1 : ((g:Int) - 1).toNat = g - 1 := by omega
 rw [e0, e1]
 refine ⟨⟨by omega, hlt⟩, by omega, iK, ⟨by omega, by omega⟩, by omega, fun hd => ?_, fun hd => ?_⟩
 rotate_left
 · have hd : L.same (l.g g) (l.g (g - 1)) = false := hd
   have hp0 : L.newP l g = true := by rw [hN g g1, hd]; rfl
   refine ⟨iK, g + 1, rfl, ⟨rfl, fun _ _ => rfl⟩, ⟨by omega, by omega, fun j hj => ?_⟩, by omega⟩
   rcases Nat.lt_succ_iff_lt_or_eq.1 hj with h' | rfl
   · exact g3 j h'
   · exact hp0
 have hd : L.same (l.g g) (l.g (g - 1)) = true := hd
 have hp0 : L.newP l g = false := by rw [hN g g1, hd]; rfl
 have hcg : L.cnt (L.newP l) g = g := (all_new g3).1
 have hc1 : L.cnt (L.newP l) (g + 1) = g := by rw [cnt_not hp0, hcg]
 refine ⟨⟨by omega, by omega, Int.le_refl _⟩, ⟨(g, g + 1), by rw [hc1], ⟨rfl, by omega⟩, by show (1:Int) = ((g + 1:Nat):Int) - (g:Int); omega, ⟨rfl, fun i hi => ?_⟩, g1, by show g < g + 1; omega, by show g + 1 <= l.n; omega, by show L.cnt (L.newP l) (g + 1) < g + 1; omega⟩, fun q hq => ?_⟩
 · rw [cptW_not hp0, cptW_first g3]
 obtain ⟨k0, j⟩ := q
 obtain ⟨h1, h2, h3, h4⟩ := hq
 dsimp only at h1 h2 h3 h4 ⊢
 have e2 : k0 + ((j:Int) - (k0:Int)).toNat = j := by omega
 have e3 : k0 + ((j:Int) - (k0:Int) - 1).toNat = j - 1 := by omega
 have e4 : ((L.cnt (L.newP l) j:Nat):Int).toNat = L.cnt (L.newP l) j := Int.toNat_natCast _
 rw [e2, e3, e4, cptW_at (show L.cnt (L.newP l) j <= j by omega), cptW_at (show L.cnt (L.newP l) j <= j - 1 by omega)]
 refine ⟨fun hj => ?_, fun hj => ?_⟩
 · have hj : (j:Int) - (k0:Int) < ((l.n - k0:Nat):Int) := of_decide_eq_true hj
   have hjn : j < l.n := by omega
   refine ⟨⟨by omega, hj⟩, by omega, iK, ⟨by omega, by omega⟩, by omega, fun hd2 => ?_, fun hd2 => ?_⟩
   · have hp1 : L.newP l j = true := (hN j (by omega)).trans hd2
     have hc2 := cnt_yes hp1
     refine ⟨⟨by omega, hj⟩, by omega, ⟨by omega, by omega⟩, by omega, iK, iK, (k0, j + 1), by show _ = ((L.cnt (L.newP l) (j + 1):Nat):Int); omega, ⟨rfl, rfl⟩, by show _ = ((j + 1:Nat):Int) - (k0:Int); omega, ⟨rfl, fun i hi => ?_⟩, ⟨h1, by show k0 < j + 1; omega, by show j + 1 <= l.n; omega, by show L.cnt (L.newP l) (j + 1) < j + 1; omega⟩, by show l.n - (j + 1) < l.n - j; omega⟩
     rw [cptW_yes hp1]
     unfold setRow
     by_cases eq : i = L.cnt (L.newP l) j
     · rw [if_pos eq, if_pos eq]; rfl
     · rw [if_neg eq, if_neg eq]
   · have hp1 : L.newP l j = false := (hN j (by omega)).trans hd2
     have hc2 := cnt_not hp1
     refine ⟨iK, (k0, j + 1), by show _ = ((L.cnt (L.newP l) (j + 1):Nat):Int); omega, ⟨rfl, rfl⟩, by show _ = ((j + 1:Nat):Int) - (k0:Int); omega, ⟨rfl, fun i hi => by rw [cptW_not hp1]⟩, ⟨h1, by show k0 < j + 1; omega, by show j + 1 <= l.n; omega, by show L.cnt (L.newP l) (j + 1) < j + 1; omega⟩, by show l.n - (j + 1) < l.n - j; omega⟩
 · have hj : ¬ (j:Int) - (k0:Int) < ((l.n - k0:Nat):Int) := of_decide_eq_false hj
   obtain rfl : j = l.n := by omega
   have e5 : ((l.n:Int) - ((L.cnt (L.newP l) l.n:Nat):Int)).toNat = l.n - L.cnt (L.newP l) l.n := by omega
   refine ⟨⟨by omega, by omega, Int.le_refl _⟩, by omega, ⟨by omega, by omega, by omega⟩, (0:Nat), ⟨rfl, by show (((L.cnt (L.newP l) l.n:Nat):Int) - 0).toNat = L.cnt (L.newP l) l.n; omega⟩, ⟨rfl, fun i hi => ?_⟩, trivial⟩
   rw [e5]
   unfold clrGet
   by_cases hi' : i < L.cnt (L.newP l) l.n
   · rw [if_neg (by omega)]
     have : L.cptW l l.n i = L.cptG l i := by
       unfold L.cptW L.cptG L.cptN; rw [decide_eq_true hi']; rfl
     dsimp only
     rw [this]
   · rw [if_pos ⟨by omega, by omega⟩]
     have : L.cptG l i = ⟨0, 0⟩ := by
       unfold L.cptG L.cptN; rw [decide_eq_false hi']; rfl
     rw [this])
theorem s_cptP_en : Enters Tryz.prog 25 := fun args w => by kernel_rfl
theorem s_cptP_tok : TrOk Tryz.prog 25 s_cptP_tr := tr_ok (ks := [1022]) (n := 1) Tryz.func25 (c := bodyOf Tryz.f25) (by kernel_rfl) mixed ⟨fun t => rfl, fun t => rfl, fun t u => rfl, fun t u => rfl, fun t u => rfl, by kernel_rfl⟩ (fun l hp => ⟨_, s_cptP_vc l hp, ⟨show SpecsL Tryz.prog _ from SpecsL.nil, rfl, ⟨show ItersL Tryz.prog _ from ItersL.nil, (TrsOk.none (fun _ => rfl))⟩⟩⟩)
def r1_wrap_p (l : (L.Sq L.Pt)) : Prop := 1 <= l.n /\ l.n <= 1000 /\ ∀ k, k < l.n -> L.bd (l.g k)
def r1_wrap_r (l : (L.Sq L.Pt)) : SV := .sl 2 (L.wrapN l) (fun k => [.int .i64 ((L.wrapG l k).x), .int .i64 ((L.wrapG l k).y)])
def r1_wrap_s : List EV -> Option (Prop × SV)
 | [.p (.sl 2 l_n l_g)] => some ((∀ i, i < l_n -> l_g i = [.int .i64 ((ofPt (l_g i)).x), .int .i64 ((ofPt (l_g i)).y)]) /\ r1_wrap_p (⟨l_n, fun i => ofPt (l_g i)⟩ : (L.Sq L.Pt)), r1_wrap_r (⟨l_n, fun i => ofPt (l_g i)⟩ : (L.Sq L.Pt)))
 | _ => none
abbrev r1_wrap_S : SE.Spec := (specO r1_wrap_s)
def r1_wrap_C : Cfg := { cC with muts := [14], specs := lookS [(73, r1_placed_S), (18, r1_Cross_S), (74, r1_Dist_S)] }
theorem r1_wrap_vc (l : (L.Sq L.Pt)) (hp : r1_wrap_p l) : vc Tryz.prog ({ r1_wrap_C with loops := lookL [(3, { T := Nat, keep := [0, 3], keepO := [3], chg := fun k => [(4, .row 14)], own := fun k => [(14, .row 45 2 (k + 1) (fun k => [.int .i64 ((L.wrapG l k).x), .int .i64 ((L.wrapG l k).y)]))], inv := fun k => k <= 400 /\ ∀ i, i < k -> L.wrapP l i = false, mu := fun k => 401 - k }), (6, { T := Nat × Nat, keep := [0, 3, 4, 5, 6, 18], keepO := [3], tie := fun g => [(18, .int .i64 (g.1:Int))], chg := fun g => [(7, .p (.int .i64 (g.2:Int)))], own := fun g => [(14, .row 45 2 (g.1 + 1) (fun k => [.int .i64 ((L.wrapG l k).x), .int .i64 ((L.wrapG l k).y)])), (5, .blk 45 [.p (.int .i64 (L.wrapG l g.1).x), .p (.int .i64 (L.wrapG l g.1).y)]), (6, .blk 45 [.p (.int .i64 (L.scan l.g (L.wrapG l g.1) g.2).x), .p (.int .i64 (L.scan l.g (L.wrapG l g.1) g.2).y)])], inv := fun g => g.2 <= l.n, mu := fun g => l.n - g.2 })], rfs := lookR [] }) (bodyOf Tryz.f31) (st0 Tryz.f31 [.p (.sl 2 l.n (fun i => [.int .i64 ((l.g i).x), .int .i64 ((l.g i).y)]))]) (retFn Tryz.prog Tryz.f31 (r1_wrap_r l)) :=
 @Eq.mpr _ (let I := SV.int .i64; let T := Int.toNat; let A16 := (↑l.n:Int); let A12 := (0:Int); let A11 := (1:Int); let A10 := (1:Nat); let A8 := (l.n = l.n /\ ∀ (i:Nat), let A24 := [I (l.g i).x, I (l.g i).y]; i < l.n -> A24 = A24); let A2 := (L.plc (L.Sq.mk l.n fun (i:Nat) => l.g i) (T A12)); ((∀ (i:Nat), let A25 := [I (l.g i).x, I (l.g i).y]; i < l.n -> A25 = A25) /\ A10 <= l.n /\ l.n <= (1000000:Nat)) /\ ∀ (t:Nat), True -> (A12 <= A12 /\ A12 < A16) /\ (∃ (g:Nat), (nat_lit 1 = g + A10 /\ ∀ (i:Nat), let A15 := (L.plc (L.Sq.mk l.n fun (i:Nat) => l.g i) (T A12)); i < nat_lit 1 -> rowsOf [I A15.x, I A15.y] (nat_lit 2) i = [I (L.wrapG l i).x, I (L.wrapG l i).y]) /\ g <= (400:Nat) /\ ∀ (i:Nat), i < g -> L.wrapP l i = false) /\ ∀ (g:Nat), let A5 := (↑(g + A10):Int); let A14 := (L.wrapG l (T (A5 - A11))); (g <= (400:Nat) /\ ∀ (i:Nat), i < g -> L.wrapP l i = false) -> InK .i64 (A5 - A11) /\ (A12 <= A5 - A11 /\ A5 - A11 < A5) /\ T (A5 - A11) < g + A10 /\ (∃ (g_1 : Nat × Nat), let A17 := (L.wrapG l g_1.1); let A26 := (L.scan l.g A17 g_1.2); A12 = (↑g_1.2:Int) /\ (g + A10 = g_1.1 + A10 /\ ∀ (i:Nat), let A20 := [I (L.wrapG l i).x, I (L.wrapG l i).y]; i < g + A10 -> A20 = A20) /\ A14.x = A17.x /\ A14.y = A17.y /\ A14.x = A26.x /\ A14.y = A26.y /\ A5 - A11 = (↑g_1.1:Int) /\ g_1.2 <= l.n) /\ ∀ (g_1 : Nat × Nat), let A7 := (↑g_1.2:Int); let A27 := (A12 <= A7 /\ A7 < A16); let A13 := (l.g (T A7)); let A6 := (L.wrapG l g_1.1); let A1 := (L.scan l.g A6 g_1.2); let A9 := (bif decide (A1.x = A2.x) && decide (A1.y = A2.y) then true else decide ((400:Int) < (↑(g_1.1 + A10):Int))); let A4 := (bif bif decide (A1.x = A6.x) && decide (A1.y = A6.y) then true else decide (L.cross A6 A1 A13 < A12) then true else bif decide (L.cross A6 A1 A13 = A12) then decide (L.dist A6 A1 < L.dist A6 A13) else false); let A3 := ((!bif decide (A1.x = A6.x) && decide (A1.y = A6.y) then true else decide (L.cross A6 A1 A13 < A12)) && decide (L.cross A6 A1 A13 = A12)); A5 - A11 = (↑g_1.1:Int) /\ g_1.2 <= l.n -> (decide (A7 < A16) = true -> A27 /\ (L.bd A6 /\ L.bd A1 /\ L.bd A13) /\ (A3 = true -> A12 <= A7 /\ A7 < A16) /\ (A3 = true -> L.bd A6 /\ L.bd A13) /\ (A3 = true -> L.bd A6 /\ L.bd A1) /\ (A4 = true -> A27 /\ InK .i64 (A7 + A11) /\ ∃ (g' : Nat × Nat), let A18 := (L.wrapG l g'.1); let A28 := (L.scan l.g A18 g'.2); A7 + A11 = (↑g'.2:Int) /\ nat_lit 0 = nat_lit 0 /\ nat_lit 0 = nat_lit 0 /\ A5 - A11 = A5 - A11 /\ nat_lit 0 = nat_lit 0 /\ A8 /\ (g_1.1 + A10 = g'.1 + A10 /\ ∀ (i:Nat), let A21 := [I (L.wrapG l i).x, I (L.wrapG l i).y]; i < g_1.1 + A10 -> A21 = A21) /\ A6.x = A18.x /\ A6.y = A18.y /\ A13.x = A28.x /\ A13.y = A28.y /\ A2.x = A2.x /\ A2.y = A2.y /\ (A5 - A11 = (↑g'.1:Int) /\ g'.2 <= l.n) /\ l.n - g'.2 < l.n - g_1.2) /\ (A4 = false -> InK .i64 (A7 + A11) /\ ∃ (g' : Nat × Nat), let A19 := (L.wrapG l g'.1); let A29 := (L.scan l.g A19 g'.2); A7 + A11 = (↑g'.2:Int) /\ nat_lit 0 = nat_lit 0 /\ nat_lit 0 = nat_lit 0 /\ A5 - A11 = A5 - A11 /\ nat_lit 0 = nat_lit 0 /\ A8 /\ (g_1.1 + A10 = g'.1 + A10 /\ ∀ (i:Nat), let A22 := [I (L.wrapG l i).x, I (L.wrapG l i).y]; i < g_1.1 + A10 -> A22 = A22) /\ A6.x = A19.x /\ A6.y = A19.y /\ A1.x = A29.x /\ A1.y = A29.y /\ A2.x = A2.x /\ A2.y = A2.y /\ (A5 - A11 = (↑g'.1:Int) /\ g'.2 <= l.n) /\ l.n - g'.2 < l.n - g_1.2)) /\ (decide (A7 < A16) = false -> (A9 = true -> g_1.1 + A10 = L.wrapN l /\ ∀ (i : Nat), let A23 := [I (L.wrapG l i).x, I (L.wrapG l i).y]; i < g_1.1 + A10 -> A23 = A23) /\ (A9 = false -> (g_1.1 + A10 + nat_lit 1) * nat_lit 16 <= (140737488355328:Nat) /\ ∃ (g':Nat), nat_lit 0 = nat_lit 0 /\ A8 /\ (g_1.1 + A10 + nat_lit 1 = g' + A10 /\ ∀ (i:Nat), i < g_1.1 + A10 + nat_lit 1 -> appGet (g_1.1 + A10) (fun (k:Nat) => [I (L.wrapG l k).x, I (L.wrapG l k).y]) (fun (x:Nat) => [I A1.x, I A1.y]) i = [I (L.wrapG l i).x, I (L.wrapG l i).y]) /\ A2.x = A2.x /\ A2.y = A2.y /\ (g' <= (400:Nat) /\ ∀ (i:Nat), i < g' -> L.wrapP l i = false) /\ (401:Nat) - g' < (401:Nat) - g))) (by kernel_rfl) (by
 conv => zeta
 obtain ⟨h1, hn, hb⟩ := hp
 have hbw := wrapAt_bd h1 hb
 refine ⟨⟨fun _ _ => rfl, h1, by omega⟩, fun _ _ => ⟨⟨by omega, by omega⟩, ⟨0, ⟨rfl, fun i hi => ?_⟩, by omega, fun i hi => absurd hi (Nat.not_lt_zero _)⟩, fun g hg => ?_⟩⟩
 · have hi : i < 1 := hi
   obtain rfl : i = 0 := by omega
   rfl
 obtain ⟨hg4, hgw⟩ := hg
 have e1 : (((g + 1:Nat):Int) - 1) = (g:Int) := by omega
 have e2 : ((g:Int)).toNat = g := Int.toNat_natCast g
 rw [e1, e2]
 refine ⟨iK, ⟨by omega, by omega⟩, by omega, ⟨(g, 0), rfl, ⟨rfl, fun _ _ => rfl⟩, rfl, rfl, rfl, rfl, rfl, Nat.zero_le _⟩, ?_⟩
 rintro ⟨g0, i⟩ ⟨q1, q2⟩
 have q1 : (g:Int) = (g0:Int) := q1
 obtain rfl : g = g0 := by omega
 have q2 : i <= l.n := q2
 dsimp only
 refine ⟨fun hlt => ?_, fun hge => ?_⟩
 · have hlt : (i:Int) < (l.n:Int) := of_decide_eq_true hlt
   have e3 : ((i:Int)).toNat = i := Int.toNat_natCast i
   rw [e3, wrapC_eq]
   have bs : L.bd (L.scan l.g (L.wrapG l g) i) := scan_bd (hbw g) (fun j hj => hb j (by omega))
   have hs : L.scan l.g (L.wrapG l g) (i + 1) = bif L.wrapC (L.wrapG l g) (L.scan l.g (L.wrapG l g) i) (l.g i) then l.g i else L.scan l.g (L.wrapG l g) i := rfl
   refine ⟨⟨by omega, hlt⟩, ⟨hbw g, bs, hb i (by omega)⟩, fun _ => ⟨by omega, hlt⟩, fun _ => ⟨hbw g, hb i (by omega)⟩, fun _ => ⟨hbw g, bs⟩, fun hc => ?_, fun hc => ?_⟩
   · rw [hc] at hs
     exact ⟨⟨by omega, hlt⟩, iK, (g, i + 1), rfl, rfl, rfl, rfl, rfl, ⟨rfl, fun _ _ => rfl⟩, ⟨rfl, fun _ _ => rfl⟩, rfl, rfl, by rw [hs]; rfl, by rw [hs]; rfl, rfl, rfl, ⟨rfl, by show i + 1 <= l.n; omega⟩, by show l.n - (i + 1) < l.n - i; omega⟩
   · rw [hc] at hs
     exact ⟨iK, (g, i + 1), rfl, rfl, rfl, rfl, rfl, ⟨rfl, fun _ _ => rfl⟩, ⟨rfl, fun _ _ => rfl⟩, rfl, rfl, by rw [hs]; rfl, by rw [hs]; rfl, rfl, rfl, ⟨rfl, by show i + 1 <= l.n; omega⟩, by show l.n - (i + 1) < l.n - i; omega⟩
 · have hge : ¬ (i:Int) < (l.n:Int) := of_decide_eq_false hge
   obtain rfl : i = l.n := by omega
   refine ⟨fun hc => ?_, fun hc => ?_⟩
   · have hc : L.wrapP l g = true := hc
     exact ⟨(wrapN_at hg4 hgw hc).symm, fun _ _ => rfl⟩
   · have hc : L.wrapP l g = false := hc
     have hg3 : g ≠ 400 := fun e => by
       subst e
       unfold L.wrapP at hc
       rw [bor, Bool.or_eq_false_iff] at hc
       exact absurd hc.2 (by decide)
     refine ⟨show (g + 1 + 1) * 16 <= 140737488355328 by omega, g + 1, rfl, ⟨rfl, fun _ _ => rfl⟩, ⟨rfl, fun i hi => ?_⟩, rfl, rfl, ⟨by omega, fun j hj => ?_⟩, by omega⟩
     · unfold appGet
       by_cases h' : i < g + 1
       · rw [if_pos h']
       · rw [if_neg h']
         obtain rfl : i = g + 1 := by omega
         rfl
     · rcases Nat.lt_succ_iff_lt_or_eq.1 hj with h' | rfl
       · exact hgw j h'
       · exact hc)
theorem r1_wrap_ok : SpecOk Tryz.prog 31 r1_wrap_S := fnX Tryz.func31 (c := bodyOf Tryz.f31) (by kernel_rfl) mixed (fun args p r hs hp => by
 unfold r1_wrap_s at hs
 split at hs
 · cases hs; exact ⟨_, _, r1_wrap_vc _ hp.2, (.p (.sl hp.1) .nil), ⟨show SpecsL Tryz.prog _ from (SpecsL.cons r1_placed_ok r1_placed_en (SpecsL.cons r1_Cross_ok r1_Cross_en (SpecsL.cons r1_Dist_ok r1_Dist_en SpecsL.nil))), rfl, ⟨show ItersL Tryz.prog _ from ItersL.nil, (TrsOk.none (fun _ => rfl))⟩⟩⟩
 · cases hs)
theorem r1_wrap_en : Enters Tryz.prog 31 := fun args w => by kernel_rfl
def r1_Hull_p (l : (L.Sq L.Pt)) : Prop := l.n <= 1000000
def r1_Hull_r (l : (L.Sq L.Pt)) : SV := .tup [.sl 2 (bif decide (L.hlE l (L.wrapN l) = 0) then L.wrapN l else 0) (fun k => [.int .i64 ((L.wrapG l k).x), .int .i64 ((L.wrapG l k).y)]), .int .i64 (L.hlE l (L.wrapN l))]
def r1_Hull_s : List EV -> Option (Prop × SV)
 | [.p (.sl 2 l_n l_g)] => some ((∀ i, i < l_n -> l_g i = [.int .i64 ((ofPt (l_g i)).x), .int .i64 ((ofPt (l_g i)).y)]) /\ r1_Hull_p (⟨l_n, fun i => ofPt (l_g i)⟩ : (L.Sq L.Pt)), r1_Hull_r (⟨l_n, fun i => ofPt (l_g i)⟩ : (L.Sq L.Pt)))
 | _ => none
abbrev r1_Hull_S : SE.Spec := (specO r1_Hull_s)
def r1_Hull_C : Cfg := { cC with specs := lookS [(29, r1_points_S), (30, r1_flat_S), (31, r1_wrap_S)] }
theorem r1_Hull_vc (l : (L.Sq L.Pt)) (hp : r1_Hull_p l) : vc Tryz.prog (r1_Hull_C) (bodyOf Tryz.f7) (st0 Tryz.f7 [.p (.sl 2 l.n (fun i => [.int .i64 ((l.g i).x), .int .i64 ((l.g i).y)]))]) (retFn Tryz.prog Tryz.f7 (r1_Hull_r l)) :=
 @Eq.mpr _ (let I := SV.int .i64; let A7 := (0:Nat); let A6 := (L.wrapN l); let A3 := (∀ (i:Nat), let A8 := [I (l.g i).x, I (l.g i).y]; i < l.n -> A8 = A8); let A2 := (bif decide (L.hlE l A6 = (0:Int)) then L.wrapN l else A7); let A1 := (L.Sq.mk l.n fun (i:Nat) => l.g i); let A9 := (↑(L.wrapN A1):Int); let A4 := (bif decide ((400:Int) < (↑l.n:Int)) then true else !L.validPts A1); ((!decide ((400:Int) < (↑l.n:Int))) = true -> A3 /\ l.n <= (1000000:Nat)) /\ (A4 = true -> A2 = A7 /\ (1:Int) = L.hlE l A6) /\ (A4 = false -> (A3 /\ l.n <= (1000000:Nat) /\ ∀ (k:Nat), k < l.n -> L.bd (l.g k)) /\ (L.flat A1 = true -> A2 = A7 /\ (11:Int) = L.hlE l A6) /\ (L.flat A1 = false -> (A3 /\ (1:Nat) <= l.n /\ l.n <= (1000:Nat) /\ ∀ (k:Nat), k < l.n -> L.bd (l.g k)) /\ (decide ((24:Int) < A9) = true -> A2 = A7 /\ (2:Int) = L.hlE l A6) /\ (decide ((24:Int) < A9) = false -> ((L.wrapN A1 = bif decide (L.hlE l A6 = (0:Int)) then L.wrapN l else A7) /\ ∀ (i:Nat), let A5 := (L.Sq.mk l.n fun (i:Nat) => l.g i); i < L.wrapN A5 -> [I (L.wrapG A5 i).x, I (L.wrapG A5 i).y] = [I (L.wrapG l i).x, I (L.wrapG l i).y]) /\ (0:Int) = L.hlE l A6)))) (by kernel_rfl) (by
 conv => zeta
 have hn : l.n <= 1000000 := hp
 refine ⟨fun _ => ⟨fun _ _ => rfl, hn⟩, fun h => ?_, fun h => ?_⟩
 · have h : (bif decide (400 < (l.n:Int)) then true else !L.validPts l) = true := h
   have e : L.hlE l (L.wrapN l) = 1 := by unfold L.hlE; rw [h]; rfl
   rw [e]; exact ⟨rfl, rfl⟩
 have h0 : (bif decide (400 < (l.n:Int)) then true else !L.validPts l) = false := h
 have h1 := h0
 rw [bor, Bool.or_eq_false_iff] at h1
 have h4 := of_decide_eq_false h1.1
 have hv := notF h1.2
 have hb : ∀ k, k < l.n -> L.bd (l.g k) := fun k hk => bd_of_valid (allB_iff.1 hv k hk)
 refine ⟨⟨fun _ _ => rfl, hn, hb⟩, fun hf => ?_, fun hf => ?_⟩
 · have hf : L.flat l = true := hf
   have e : L.hlE l (L.wrapN l) = 11 := by unfold L.hlE; rw [h0, hf]; rfl
   rw [e]; exact ⟨rfl, rfl⟩
 have hf : L.flat l = false := hf
 have h3 : ¬ l.n < 3 := fun q => by rw [flat_small q] at hf; cases hf
 refine ⟨⟨fun _ _ => rfl, by omega, by omega, hb⟩, fun hw => ?_, fun hw => ?_⟩
 · have hw : decide (24 < ((L.wrapN l:Nat):Int)) = true := hw
   have e : L.hlE l (L.wrapN l) = 2 := by unfold L.hlE; rw [h0, hf, hw]; rfl
   rw [e]; exact ⟨rfl, rfl⟩
 · have hw : decide (24 < ((L.wrapN l:Nat):Int)) = false := hw
   have e : L.hlE l (L.wrapN l) = 0 := by unfold L.hlE; rw [h0, hf, hw]; rfl
   rw [e]; exact ⟨⟨rfl, fun _ _ => rfl⟩, rfl⟩)
theorem r1_Hull_ok : SpecOk Tryz.prog 7 r1_Hull_S := fnX Tryz.func7 (c := bodyOf Tryz.f7) (by kernel_rfl) mixed (fun args p r hs hp => by
 unfold r1_Hull_s at hs
 split at hs
 · cases hs; exact ⟨_, _, r1_Hull_vc _ hp.2, (.p (.sl hp.1) .nil), ⟨show SpecsL Tryz.prog _ from (SpecsL.cons r1_points_ok r1_points_en (SpecsL.cons r1_flat_ok r1_flat_en (SpecsL.cons r1_wrap_ok r1_wrap_en SpecsL.nil))), rfl, ⟨show ItersL Tryz.prog _ from ItersL.nil, (TrsOk.none (fun _ => rfl))⟩⟩⟩
 · cases hs)
theorem r1_Hull_en : Enters Tryz.prog 7 := fun args w => by kernel_rfl
def p_Hull_p (l : (L.Sq L.Pt)) : Prop := l.n <= 1000000
def p_Hull_r (l : (L.Sq L.Pt)) : SV := .tup [.sl 2 (bif decide (L.hlE l (L.hull (L.cpt (L.sorted l))).n = 0) then (L.hull (L.cpt (L.sorted l))).n else 0) (fun k => [.int .i64 (((L.hull (L.cpt (L.sorted l))).g k).x), .int .i64 (((L.hull (L.cpt (L.sorted l))).g k).y)]), .int .i64 (L.hlE l (L.hull (L.cpt (L.sorted l))).n)]
def p_Hull_s : List EV -> Option (Prop × SV)
 | [.p (.sl 2 l_n l_g)] => some ((∀ i, i < l_n -> l_g i = [.int .i64 ((ofPt (l_g i)).x), .int .i64 ((ofPt (l_g i)).y)]) /\ p_Hull_p (⟨l_n, fun i => ofPt (l_g i)⟩ : (L.Sq L.Pt)), p_Hull_r (⟨l_n, fun i => ofPt (l_g i)⟩ : (L.Sq L.Pt)))
 | _ => none
abbrev p_Hull_S : SE.Spec := (specO p_Hull_s)
def p_Hull_C : Cfg := { cC with muts := [22], specs := lookS [(22, p_valid_S), (23, p_flat_S), (27, s_values_S), (26, s_sortedF_S), (24, p_hull_S)], trs := lookT [(25, s_cptP_tr)], ren := fun k => k - 1000, raws := [26] }
theorem p_Hull_vc (l : (L.Sq L.Pt)) (hp : p_Hull_p l) : vc Tryz.prog (p_Hull_C) (bodyOf Tryz.f6) (st0 Tryz.f6 [.p (.sl 2 l.n (fun i => [.int .i64 ((l.g i).x), .int .i64 ((l.g i).y)]))]) (retFn Tryz.prog Tryz.f6 (p_Hull_r l)) :=
 @Eq.mpr _ (let I := SV.int .i64; let A12 := (0:Nat); let A11 := (↑l.n:Int); let A10 := (1000000:Nat); let A7 := (bif decide (A11 < (3:Int)) then true else L.flat (L.Sq.mk l.n fun (i:Nat) => l.g i)); let A6 := (bif decide ((400:Int) < A11) then true else !L.allB l.n fun (i:Nat) => L.validPt (l.g i)); let A2 := (∀ (i:Nat), let A13 := [I (l.g i).x, I (l.g i).y]; i < l.n -> A13 = A13); let A1 := (L.hull (L.cpt (L.sorted l))); let A3 := (bif decide (L.hlE l A1.n = (0:Int)) then A1.n else A12); ((!decide ((400:Int) < A11)) = true -> A2 /\ l.n <= A10) /\ (A6 = true -> A3 = A12 /\ (1:Int) = L.hlE l A1.n) /\ (A6 = false -> ((!decide (A11 < (3:Int))) = true -> A2 /\ (1:Nat) <= l.n /\ l.n <= A10 /\ ∀ (k : Nat), k < l.n -> L.bd (l.g k)) /\ (A7 = true -> A3 = A12 /\ (11:Int) = L.hlE l A1.n) /\ (A7 = false -> (A2 /\ l.n <= A10) /\ (A2 /\ l.n <= A10) /\ ∀ (t:Nat), True -> ∃ (t : L.Sq L.Pt), let A4 := (L.hull (L.Sq.mk (L.cptN t) fun (i:Nat) => L.cptG t (nat_lit 0 + i))); (l.n = t.n /\ ∀ (i:Nat), let A9 := ((L.sorted (L.Sq.mk l.n fun (i:Nat) => l.g i)).g i); i < l.n -> [I A9.x, I A9.y] = [I (t.g i).x, I (t.g i).y]) /\ t.n <= A10 /\ ∀ (u:Nat), True -> nat_lit 0 + L.cptN t <= t.n /\ ((∀ (i:Nat), let A8 := (L.cptG t (nat_lit 0 + i)); i < L.cptN t -> [I A8.x, I A8.y] = [I A8.x, I A8.y]) /\ (2:Nat) <= L.cptN t /\ L.cptN t <= (1000:Nat) /\ ∀ (i:Nat), i < L.cptN t -> L.bd (L.cptG t (nat_lit 0 + i))) /\ ∀ (t_1:Nat), True -> (∀ (i:Nat), i < (L.hull (L.Sq.mk (L.cptN t) fun (i:Nat) => L.cptG t (nat_lit 0 + i))).n -> (true && (true && true)) = true) /\ (decide ((24:Int) < (↑A4.n:Int)) = true -> A3 = A12 /\ (2:Int) = L.hlE l A1.n) /\ (decide ((24:Int) < (↑A4.n:Int)) = false -> ((A4.n = bif decide (L.hlE l A1.n = (0:Int)) then A1.n else A12) /\ ∀ (i:Nat), let A5 := (L.hull (L.Sq.mk (L.cptN t) fun (i:Nat) => L.cptG t (nat_lit 0 + i))); i < A5.n -> [I (A5.g i).x, I (A5.g i).y] = [I (A1.g i).x, I (A1.g i).y]) /\ (0:Int) = L.hlE l A1.n)))) (by kernel_rfl) (by
 conv => zeta
 have hn : l.n <= 1000000 := hp
 refine ⟨fun _ => ⟨fun _ _ => rfl, hn⟩, fun h => ?_, fun h => ?_⟩
 · have h : (bif decide (400 < (l.n:Int)) then true else !L.validPts l) = true := h
   have e : L.hlE l (L.hull (L.cpt (L.sorted l))).n = 1 := by unfold L.hlE; rw [h]; rfl
   rw [e]; exact ⟨rfl, rfl⟩
 have h0 : (bif decide (400 < (l.n:Int)) then true else !L.validPts l) = false := h
 have h1 := h0
 rw [bor, Bool.or_eq_false_iff] at h1
 have h4 := of_decide_eq_false h1.1
 have hv := notF h1.2
 have hb : ∀ k, k < l.n -> L.bd (l.g k) := fun k hk => bd_of_valid (allB_iff.1 hv k hk)
 refine ⟨fun h3 => ⟨fun _ _ => rfl, by have := of_decide_eq_false (notT h3); omega, hn, hb⟩, fun hf => ?_, fun hf => ?_⟩
 · have hf : L.flat l = true := by
     rw [bor, Bool.or_eq_true] at hf
     rcases hf with q | q
     · have := of_decide_eq_true q
       exact flat_small (by omega)
     · exact q
   have e : L.hlE l (L.hull (L.cpt (L.sorted l))).n = 11 := by unfold L.hlE; rw [h0, hf]; rfl
   rw [e]; exact ⟨rfl, rfl⟩
 rw [bor, Bool.or_eq_false_iff] at hf
 obtain ⟨h3, hf⟩ := hf
 have h3 := of_decide_eq_false h3
 have hf : L.flat l = false := hf
 have two := flat_two (l := l) hf (by omega)
 obtain ⟨_, c2, _, c4⟩ := cpt_sorted l
 have hc : (L.Sq.mk (L.cptN (L.sorted l)) fun i => L.cptG (L.sorted l) (0 + i)) = L.cpt (L.sorted l) := by
   unfold L.cpt; congr; funext i; rw [Nat.zero_add]
 have c4 : L.cptN (L.sorted l) <= l.n := c4
 refine ⟨⟨fun _ _ => rfl, hn⟩, ⟨fun _ _ => rfl, hn⟩, fun _ _ => ⟨L.sorted l, ⟨rfl, fun _ _ => rfl⟩, hn, fun _ _ => ?_⟩⟩
 rw [hc]
 refine ⟨by show 0 + L.cptN (L.sorted l) <= l.n; omega, ⟨fun _ _ => rfl, cpt_two two, by omega, fun i hi => ?_⟩, fun _ _ => ⟨fun _ _ => rfl, fun hw => ?_, fun hw => ?_⟩⟩
 · obtain ⟨j, hj, e⟩ := c2 i hi
   have e : L.cptG (L.sorted l) i = l.g j := e
   rw [Nat.zero_add, e]; exact hb j hj
 · have hw : decide (24 < (((L.hull (L.cpt (L.sorted l))).n:Nat):Int)) = true := hw
   have e : L.hlE l (L.hull (L.cpt (L.sorted l))).n = 2 := by unfold L.hlE; rw [h0, hf, hw]; rfl
   rw [e]; exact ⟨rfl, rfl⟩
 · have hw : decide (24 < (((L.hull (L.cpt (L.sorted l))).n:Nat):Int)) = false := hw
   have e : L.hlE l (L.hull (L.cpt (L.sorted l))).n = 0 := by unfold L.hlE; rw [h0, hf, hw]; rfl
   rw [e]; exact ⟨⟨rfl, fun _ _ => rfl⟩, rfl⟩)
theorem p_Hull_ok : SpecOk Tryz.prog 6 p_Hull_S := fnX Tryz.func6 (c := bodyOf Tryz.f6) (by kernel_rfl) mixed (fun args p r hs hp => by
 unfold p_Hull_s at hs
 split at hs
 · cases hs; exact ⟨_, _, p_Hull_vc _ hp.2, (.p (.sl hp.1) .nil), ⟨show SpecsL Tryz.prog _ from (SpecsL.cons p_valid_ok p_valid_en (SpecsL.cons p_flat_ok p_flat_en (SpecsL.cons s_values_ok s_values_en (SpecsL.cons s_sortedF_ok s_sortedF_en (SpecsL.cons p_hull_ok p_hull_en SpecsL.nil))))), rfl, ⟨show ItersL Tryz.prog _ from ItersL.nil, (show TrsL Tryz.prog _ from (TrsL.cons s_cptP_tok s_cptP_en TrsL.nil))⟩⟩⟩
 · cases hs)
theorem p_Hull_en : Enters Tryz.prog 6 := fun args w => by kernel_rfl
end Go.Proofs.YtaklapjfnejlbaaGreat
namespace Go.Proofs.YtaklapjfnejlbaaGreat
open Go.SE Go.RowKit
set_option maxRecDepth 100000
set_option maxHeartbeats 4000000
set_option linter.unusedVariables false
attribute [local irreducible] vc
open Conf
theorem cmpPt_slt {a b : L.Pt} : L.cmpPt a b < 0 ↔ L.slt 1 a b := by
 rw [cmpPt_lt]; unfold L.slt L.vp; rw [Int.one_mul, Int.one_mul]; omega
def L.setOf (l m : L.Sq L.Pt) : Prop := 2 <= m.n /\ (∀ i k, i < m.n -> k < m.n -> m.g i = m.g k -> i = k) /\ (∀ i, i < l.n -> ∃ j, j < m.n /\ m.g j = l.g i) /\ ∀ j, j < m.n -> ∃ i, i < l.n /\ l.g i = m.g j
theorem sorted_strict {m : L.Sq L.Pt} (hd : ∀ i k, i < m.n -> k < m.n -> m.g i = m.g k -> i = k) : ∀ i j, i < j -> j < m.n -> L.slt 1 ((L.sorted m).g i) ((L.sorted m).g j) := by
 have hl : (L.isortPt (L.listPt m)).length = m.n := by rw [(isortPt_perm _).length_eq]; simp [L.listPt]
 have hnd : (L.listPt m).Nodup := by
   unfold L.listPt
   rw [List.nodup_iff_pairwise_ne, List.pairwise_map, List.pairwise_iff_getElem]
   intro i j hi hj hij e
   simp only [List.getElem_range] at e
   have := hd i j (by simpa using hi) (by simpa using hj) e
   omega
 have hnd2 := (isortPt_perm (L.listPt m)).nodup_iff.2 hnd
 intro i j hij hj
 have hle := List.pairwise_iff_getElem.1 (isortPt_asc (L.listPt m)) i j (by omega) (by omega) hij
 have hne := List.pairwise_iff_getElem.1 (List.nodup_iff_pairwise_ne.1 hnd2) i j (by omega) (by omega) hij
 rw [lePt_sle] at hle
 show L.slt 1 ((L.isortPt (L.listPt m)).getD i ⟨0, 0⟩) ((L.isortPt (L.listPt m)).getD j ⟨0, 0⟩)
 rw [List.getD_eq_getElem?_getD, List.getD_eq_getElem?_getD, List.getElem?_eq_getElem (by omega), List.getElem?_eq_getElem (by omega)]
 rcases sle_or (.inl rfl) hle with e | e
 · exact absurd e hne
 · exact e
theorem slt_neg {a b : L.Pt} (h : L.slt 1 a b) : L.slt (-1) b a := by
 unfold L.slt L.vp at *; omega
theorem plc_first {l m : L.Sq L.Pt} (h : L.setOf l m) : L.plc l 0 = (L.sorted m).g 0 := by
 obtain ⟨h2, hd, hlm, hml⟩ := h
 have hs := sorted_strict hd
 obtain ⟨j0, hj0, e0⟩ := sorted_mem m (k := 0) (by omega)
 obtain ⟨i0, hi0, f0⟩ := hml j0 hj0
 have hl1 : 1 <= l.n := by omega
 obtain ⟨q, hq, eq⟩ := plc_in hl1
 obtain ⟨r, hr, er⟩ := hlm q hq
 obtain ⟨t, ht, et⟩ := sorted_all m hr
 have ep : L.plc l 0 = (L.sorted m).g t := by rw [eq, <- er, et]
 rcases Nat.eq_zero_or_pos t with h0 | h0
 · rw [ep, h0]
 · exfalso
   have h1 := hs 0 t h0 ht
   rw [<- ep] at h1
   have h3 := minTo_le (l := l) (i := l.n - 1) (j := i0) (by omega)
   rw [<- plc_min hl1, f0, <- e0] at h3
   exact h3 (cmpPt_slt.2 h1)
structure L.HullIs (l h : L.Sq L.Pt) : Prop where
 pos : 2 <= h.n
 at_ : ∀ k, k < h.n -> L.wrapG l k = h.g k
 back : L.wrapG l h.n = L.plc l 0
 first : ∀ k, 0 < k -> k < h.n -> h.g k ≠ L.plc l 0
theorem hull_is {l m : L.Sq L.Pt} (h : L.setOf l m) : L.HullIs l (L.hull m) /\ (L.hull m).n <= 2 * m.n := by
 have hf := plc_first h
 obtain ⟨h2, hd, hlm, hml⟩ := h
 have hs := sorted_strict hd
 have A := half_of (.inl rfl) (l := L.sorted m) h2 hs
 have B := half_of (.inr rfl) (l := L.revd (L.sorted m)) h2 (fun i j hij hj => slt_neg (hs (m.n - 1 - j) (m.n - 1 - i) (by have hj : j < m.n := hj; omega) (by have hj : j < m.n := hj; omega)))
 have hg : ∀ i, i < l.n -> ∃ j, j < (L.sorted m).n /\ (L.sorted m).g j = l.g i := fun i hi => by
   obtain ⟨j, hj, e⟩ := hlm i hi
   obtain ⟨k, hk, e2⟩ := sorted_all m hj
   exact ⟨k, hk, e2.trans e⟩
 have hb : ∀ j, j < (L.sorted m).n -> ∃ i, i < l.n /\ l.g i = (L.sorted m).g j := fun j hj => by
   obtain ⟨k, hk, e⟩ := sorted_mem m hj
   obtain ⟨i, hi, e2⟩ := hml k hk
   exact ⟨i, hi, e2.trans e.symm⟩
 obtain ⟨k1, k2, k3⟩ := hull_wrap (l := L.sorted m) h2 A B (g := l.g) (n := l.n) hg hb
 have hn : (L.hull m).n = ((L.chainTo (L.sorted m) (L.sorted m).n).length - 1) + ((L.chainTo (L.revd (L.sorted m)) (L.revd (L.sorted m)).n).length - 1) := by
   show 0 + ((L.chainTo (L.sorted m) (L.sorted m).n).length - 1) + _ = _
   rw [Nat.zero_add]; rfl
 have hgk : ∀ k, (L.hull m).g k = (if k < (L.chainTo (L.sorted m) (L.sorted m).n).length - 1 then L.fromTop (L.chainTo (L.sorted m) (L.sorted m).n) k else L.fromTop (L.chainTo (L.revd (L.sorted m)) (L.revd (L.sorted m)).n) (k - ((L.chainTo (L.sorted m) (L.sorted m).n).length - 1))) := fun k => by
   have e : (L.hull m).g k = bif decide (k < 0 + (L.chain (L.sorted m)).n) then (bif decide (k < 0) then (⟨0, 0⟩ : L.Pt) else (L.chain (L.sorted m)).g (k - 0)) else (L.chain (L.revd (L.sorted m))).g (k - (0 + (L.chain (L.sorted m)).n)) := rfl
   rw [e, Nat.zero_add]
   by_cases hk : k < (L.chainTo (L.sorted m) (L.sorted m).n).length - 1
   · rw [decide_eq_true (show k < (L.chain (L.sorted m)).n from hk), if_pos hk]
     rw [cond_true, decide_eq_false (Nat.not_lt_zero _)]; rfl
   · rw [decide_eq_false (show ¬ k < (L.chain (L.sorted m)).n from hk), if_neg hk]; rfl
 have c1 := chainTo_len (L.sorted m) m.n
 have c2 := chainTo_len (L.revd (L.sorted m)) m.n
 have a1 := A.c1
 have b1 := B.c1
 refine ⟨⟨by omega, fun k hk => ?_, ?_, fun k hk0 hk => ?_⟩, ?_⟩
 · unfold L.wrapG
   rw [hf, hgk, k1 k (by omega)]
 · unfold L.wrapG
   rw [hf, hn]; exact k2
 · rw [hf, hgk]; exact k3 k hk0 (by omega)
 · rw [hn]
   have e1 : (L.chainTo (L.sorted m) (L.sorted m).n).length <= m.n := c1
   have e2 : (L.chainTo (L.revd (L.sorted m)) (L.revd (L.sorted m)).n).length <= m.n := c2
   omega
theorem hull_N {l h : L.Sq L.Pt} (H : L.HullIs l h) (hn : h.n <= 400) : L.wrapN l = h.n := by
 have h2 := H.pos
 have := wrapN_at (l := l) (g := h.n - 1) (by omega) (fun i hi => ?_) ?_
 · rw [this]; omega
 · unfold L.wrapP
   rw [bor, Bool.or_eq_false_iff]
   refine ⟨?_, decide_eq_false (by omega)⟩
   cases hs : L.same (L.wrapAt l.g l.n (L.plc l 0) (i + 1)) (L.plc l 0) with
   | false => rfl
   | true =>
     have e := same_eq hs
     have e2 := H.at_ (i + 1) (by omega)
     exact absurd (e2.symm.trans e) (H.first (i + 1) (by omega) (by omega))
 · unfold L.wrapP
   have e := H.back
   unfold L.wrapG at e
   rw [show h.n - 1 + 1 = h.n by omega, e, same_refl]; rfl
theorem wrap_shift {l : L.Sq L.Pt} {i j : Nat} (h : L.wrapG l i = L.wrapG l j) : ∀ t, L.wrapG l (i + t) = L.wrapG l (j + t)
 | 0 => h
 | t + 1 => by
   have ih := wrap_shift h t
   show L.scan l.g (L.wrapG l (i + t)) l.n = L.scan l.g (L.wrapG l (j + t)) l.n
   rw [ih]
theorem hull_inj {l h : L.Sq L.Pt} (H : L.HullIs l h) {i j : Nat} (hi : i < h.n) (hj : j < h.n) (e : h.g i = h.g j) : i = j := by
 have key : ∀ i j, i < j -> j < h.n -> h.g i = h.g j -> False := fun i j hij hj e => by
   have e1 : L.wrapG l i = L.wrapG l j := by rw [H.at_ i (by omega), H.at_ j hj]; exact e
   have e2 := wrap_shift e1 (h.n - j)
   rw [show j + (h.n - j) = h.n by omega, H.back, H.at_ _ (by omega)] at e2
   exact H.first _ (by omega) (by omega) e2
 rcases Nat.lt_trichotomy i j with q | q | q
 · exact (key i j q hj e).elim
 · exact q
 · exact (key j i q hi e.symm).elim
end Go.Proofs.YtaklapjfnejlbaaGreat
