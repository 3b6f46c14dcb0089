/- A symbolic walk over the model, and what it shows of functions of the program: parts of the proof that the text of the row joins. -/
import Derived.Test.YtdlhpdidgfgomaaGreatW1
import Derived.Test.YtdlhpdidgfgomaaGreatW2
import Derived.Test.YtdlhpdidgfgomaaGreatE4
import Derived.KernelRfl

namespace Go.Proofs.YtdlhpdidgfgomaaGreat
open Go.SE Go.RowKit
set_option maxRecDepth 100000
set_option maxHeartbeats 4000000
set_option linter.unusedVariables false
attribute [local irreducible] vc
theorem minTo_mem (l : L.Sq L.Pt) : ∀ i, ∃ j, j ≤ i ∧ L.minTo l i = l.g j
  | 0 => ⟨0, Nat.le_refl _, rfl⟩
  | i + 1 => by
    obtain ⟨j, h1, h2⟩ := minTo_mem l i
    cases h : decide (L.cmpPt (l.g (i + 1)) (L.minTo l i) < 0) with
    | true => exact ⟨i + 1, Nat.le_refl _, by rw [L.minTo, h]; rfl⟩
    | false => exact ⟨j, by omega, by rw [L.minTo, h]; exact h2⟩
theorem minIdx {l : L.Sq L.Pt} (h : 1 ≤ l.n) : ∃ i, i < l.n ∧ L.ptIdx l (L.minTo l (l.n - 1)) = (i : Int) ∧ l.g i = L.minTo l (l.n - 1) := by
  obtain ⟨j, h1, h2⟩ := minTo_mem l (l.n - 1)
  obtain ⟨i, h3, h4, h5, _⟩ := ptIdx_of (l := l) (j := j) (by omega)
  rw [h2]
  exact ⟨i, by omega, h4, h5⟩
theorem norm_cat {t : L.Sq L.Pt} {K : Int} (h0 : 0 ≤ K) (h1 : K ≤ (t.n : Int)) (hn : 1 ≤ t.n) (hm : t.n ≤ 1000000) :
    (1 ≤ (L.two ⟨((t.n : Int) - K).toNat, fun i => t.g (K.toNat + i)⟩ ⟨(K - 0).toNat, fun i => t.g ((0 : Int).toNat + i)⟩ 0).n + (L.two ⟨((t.n : Int) - K).toNat, fun i => t.g (K.toNat + i)⟩ ⟨(K - 0).toNat, fun i => t.g ((0 : Int).toNat + i)⟩ 1).n ∧
     (L.two ⟨((t.n : Int) - K).toNat, fun i => t.g (K.toNat + i)⟩ ⟨(K - 0).toNat, fun i => t.g ((0 : Int).toNat + i)⟩ 0).n ≤ 1000000 ∧ (L.two ⟨((t.n : Int) - K).toNat, fun i => t.g (K.toNat + i)⟩ ⟨(K - 0).toNat, fun i => t.g ((0 : Int).toNat + i)⟩ 1).n ≤ 1000000) ∧
    (L.catTo (L.two ⟨((t.n : Int) - K).toNat, fun i => t.g (K.toNat + i)⟩ ⟨(K - 0).toNat, fun i => t.g ((0 : Int).toNat + i)⟩) 2).n = t.n ∧
    ∀ i, (L.catTo (L.two ⟨((t.n : Int) - K).toNat, fun i => t.g (K.toNat + i)⟩ ⟨(K - 0).toNat, fun i => t.g ((0 : Int).toNat + i)⟩) 2).g i = (L.rot t K.toNat).g i := by
  refine ⟨⟨?_, ?_, ?_⟩, ?_, fun i => ?_⟩
  · show 1 ≤ ((t.n : Int) - K).toNat + (K - 0).toNat
    omega
  · show ((t.n : Int) - K).toNat ≤ 1000000
    omega
  · show (K - 0).toNat ≤ 1000000
    omega
  · show 0 + ((t.n : Int) - K).toNat + (K - 0).toNat = t.n
    omega
  · show (bif decide (i < 0 + ((t.n : Int) - K).toNat) then (bif decide (i < 0) then (⟨0, 0⟩ : L.Pt) else t.g (K.toNat + (i - 0))) else t.g ((0 : Int).toNat + (i - (0 + ((t.n : Int) - K).toNat)))) = (bif decide (i < t.n - K.toNat) then t.g (K.toNat + i) else t.g (i - (t.n - K.toNat)))
    rw [decide_eq_false (Nat.not_lt_zero i), show 0 + ((t.n : Int) - K).toNat = t.n - K.toNat by omega, show (0 : Int).toNat + (i - (t.n - K.toNat)) = i - (t.n - K.toNat) by simp]
    rfl
theorem bd_of_valid {p : L.Pt} (h : L.validPt p = true) : L.bd p := by
  unfold L.validPt at h
  rw [Bool.and_eq_true, within_iff, within_iff] at h
  unfold L.bd
  omega
theorem minTo_le {l : L.Sq L.Pt} : ∀ {i j : Nat}, j ≤ i → ¬ L.cmpPt (l.g j) (L.minTo l i) < 0
  | 0, j, h => by
    obtain rfl : j = 0 := by omega
    rw [cmpPt_lt, L.minTo]; omega
  | i + 1, j, h => by
    rw [L.minTo]
    cases hd : decide (L.cmpPt (l.g (i + 1)) (L.minTo l i) < 0) with
    | false =>
      rw [cond_false]
      by_cases e : j = i + 1
      · rw [e]; exact of_decide_eq_false hd
      · exact minTo_le (by omega)
    | true =>
      rw [cond_true]
      have h1 := of_decide_eq_true hd
      by_cases e : j = i + 1
      · rw [e, cmpPt_lt]; omega
      · have h2 := minTo_le (l := l) (i := i) (j := j) (by omega)
        rw [cmpPt_lt] at h1 h2 ⊢
        omega
structure L.Iso (e : Int) (T : L.Pt → L.Pt) : Prop where
  sg : e = 1 ∨ e = -1
  ds : ∀ a b, L.dist (T a) (T b) = L.dist a b
  cr : ∀ a b c, L.cross (T a) (T b) (T c) = e * L.cross a b c
  on : ∀ a b p, L.on (T a) (T b) (T p) = L.on a b p
  inj : ∀ a b, T a = T b → a = b
def L.argTo (l : L.Sq L.Pt) : Nat → Nat
  | 0 => 0
  | i + 1 => bif decide (L.cmpPt (l.g i) (l.g (L.argTo l i)) < 0) then i else L.argTo l i
def L.fstK (l : L.Sq L.Pt) : Nat := L.argTo l l.n
def L.plc (l : L.Sq L.Pt) (k : Nat) : L.Pt := (L.rot l (L.fstK l)).g k
def L.sameP (a b : L.Sq L.Pt) : Bool := bif decide ((a.n : Int) = b.n) then L.allB a.n (fun i => L.same (a.g i) (b.g i)) else false
def L.revG (l : L.Sq L.Pt) : L.Sq L.Pt := ⟨l.n, fun k => l.g (l.n - 1 - k)⟩
theorem sameP_refl (a : L.Sq L.Pt) : L.sameP a a = true := by
  unfold L.sameP
  rw [decide_eq_true rfl]
  exact allB_iff.2 fun i _ => same_refl _
theorem argTo_min (l : L.Sq L.Pt) : ∀ i, l.g (L.argTo l (i + 1)) = L.minTo l i ∧ L.argTo l (i + 1) ≤ i ∧ ∀ j, j < L.argTo l (i + 1) → l.g j ≠ L.minTo l i
  | 0 => by
    have h : L.argTo l 1 = 0 := by
      show (bif decide (L.cmpPt (l.g 0) (l.g 0) < 0) then 0 else 0) = 0
      cases decide (L.cmpPt (l.g 0) (l.g 0) < 0) <;> rfl
    rw [h]
    exact ⟨rfl, Nat.le_refl _, fun j hj => absurd hj (Nat.not_lt_zero _)⟩
  | i + 1 => by
    obtain ⟨h1, h2, h3⟩ := argTo_min l i
    have ha : L.argTo l (i + 1 + 1) = bif decide (L.cmpPt (l.g (i + 1)) (l.g (L.argTo l (i + 1))) < 0) then i + 1 else L.argTo l (i + 1) := rfl
    have hm : L.minTo l (i + 1) = bif decide (L.cmpPt (l.g (i + 1)) (L.minTo l i) < 0) then l.g (i + 1) else L.minTo l i := rfl
    rw [ha, hm, h1]
    cases hc : decide (L.cmpPt (l.g (i + 1)) (L.minTo l i) < 0) with
    | false => exact ⟨h1, by show L.argTo l (i + 1) ≤ i + 1; omega, h3⟩
    | true =>
      refine ⟨rfl, Nat.le_refl _, fun j hj e => ?_⟩
      have hj : j < i + 1 := hj
      have e : l.g j = l.g (i + 1) := e
      have := minTo_le (l := l) (i := i) (j := j) (by omega)
      rw [e] at this
      exact this (of_decide_eq_true hc)
theorem argTo_lt {l : L.Sq L.Pt} (h : 1 ≤ l.n) : ∀ i, i ≤ l.n → L.argTo l i < l.n
  | 0, _ => h
  | i + 1, hi => by have := (argTo_min l i).2.1; omega
theorem minK_eq {l : L.Sq L.Pt} (h : 1 ≤ l.n) : L.minK l = L.fstK l := by
  obtain ⟨h1, h2, h3⟩ := argTo_min l (l.n - 1)
  rw [show l.n - 1 + 1 = l.n by omega] at h1 h2 h3
  obtain ⟨i, g1, g2, g3, _⟩ := ptIdx_of (l := l) (j := L.argTo l l.n) (by omega)
  unfold L.minK L.fstK
  rw [← h1, g2]
  rcases Nat.lt_or_ge i (L.argTo l l.n) with hi | hi
  · exact absurd (g3.trans h1) (h3 i hi)
  · have : i = L.argTo l l.n := by omega
    rw [Int.toNat_natCast, this]

def L.far (l : L.Sq L.Pt) : Int := L.idx l.n (fun i => !L.same (l.g i) (l.g 0))
def L.flat (l : L.Sq L.Pt) : Bool := bif decide (L.far l < 0) then true else !L.anyB l.n (fun i => !decide (L.cross (l.g 0) (l.g (L.far l).toNat) (l.g i) = 0))
def L.str (l : L.Sq L.Pt) : L.Sq L.Pt := L.thin L.cFlat (L.thin L.cDup l)
def L.outE (l : L.Sq L.Pt) : Int := bif (bif !L.within (l.n : Int) 3 400 then true else !L.validPts l) then 1 else bif L.flat l then 11 else bif (bif decide (((L.str l).n : Int) < 3) then true else !L.simple (L.str l)) then 10 else bif decide ((24 : Int) < ((L.str l).n : Int)) then 2 else 0
def L.outN (l : L.Sq L.Pt) : Nat := bif decide (L.outE l = 0) then (L.str l).n else 0
def L.two2 (l : L.Sq L.Pt) : Prop := ∃ i j, i < l.n ∧ j < l.n ∧ l.g i ≠ l.g j
theorem del_has {c : L.Pt → L.Pt → L.Pt → Bool} {x : L.Sq L.Pt} {i : Nat} {v : L.Pt} (hn : 2 ≤ x.n) (hi : i < x.n) (he : x.g i = x.g (L.next x.n i)) (hv : ∃ k, k < x.n ∧ x.g k = v) : ∃ k, k < x.n - 1 ∧ L.delF x.g i x.n k = v := by
  have key : ∃ k, k < x.n ∧ k ≠ i ∧ x.g k = v := by
    obtain ⟨k, hk, e⟩ := hv
    by_cases h : k = i
    · subst h
      refine ⟨L.next x.n k, next_lt (by omega), fun h => ?_, he.symm.trans e⟩
      unfold L.next at h
      by_cases e2 : k + 1 < x.n
      · rw [Int.tmod_eq_of_lt (by omega) (by omega)] at h
        omega
      · rw [show (k : Int) + 1 = (x.n : Int) by omega, Int.tmod_self] at h
        have : (0 : Int).toNat = 0 := rfl
        omega
    · exact ⟨k, hk, h, e⟩
  obtain ⟨k, hk, hne, e⟩ := key
  rcases Nat.lt_or_ge k i with h | h
  · refine ⟨k, by omega, ?_⟩
    unfold L.delF
    rw [decide_eq_true h, cond_true, e]
  · refine ⟨k - 1, by omega, ?_⟩
    unfold L.delF
    rw [decide_eq_false (show ¬ k - 1 < i by omega), cond_false, decide_eq_true (show k - 1 + 1 < x.n by omega), cond_true, show k - 1 + 1 = k by omega, e]
theorem two2_n {x : L.Sq L.Pt} (h : L.two2 x) : 2 ≤ x.n := by
  obtain ⟨i, j, hi, hj, hne⟩ := h
  have : i ≠ j := fun e => hne (by rw [e])
  omega
theorem del_two {x : L.Sq L.Pt} {i : Nat} (h : L.two2 x) (hi : i < x.n) (he : L.outAt L.cDup x i = true) : L.two2 ⟨x.n - 1, L.delF x.g i x.n⟩ := by
  have hn := two2_n h
  obtain ⟨p, q, hp, hq, hne⟩ := h
  have e : x.g i = x.g (L.next x.n i) := same_eq he
  obtain ⟨a, ha, ea⟩ := del_has (c := L.cDup) hn hi e ⟨p, hp, rfl⟩
  obtain ⟨b, hb, eb⟩ := del_has (c := L.cDup) hn hi e ⟨q, hq, rfl⟩
  exact ⟨a, b, ha, hb, fun h => hne (ea.symm.trans (h.trans eb))⟩
theorem thinF_ind {c : L.Pt → L.Pt → L.Pt → Bool} {Q : L.Sq L.Pt → Prop} (hs : ∀ x i, Q x → i < x.n → L.outAt c x i = true → Q ⟨x.n - 1, L.delF x.g i x.n⟩) : ∀ k x, Q x → Q (L.thinF c k x)
  | 0, _, h => h
  | k + 1, x, h => by
    show Q (bif decide (0 ≤ L.idx x.n (L.outAt c x)) then L.thinF c k ⟨x.n - 1, L.delF x.g (L.idx x.n (L.outAt c x)).toNat x.n⟩ else x)
    rcases idx_cases (f := L.outAt c x) (n := x.n) with ⟨h1, _⟩ | ⟨i, h1, h2, h3, _⟩
    · rw [h1]; exact h
    · rw [h2, decide_eq_true (show (0 : Int) ≤ (i : Int) by omega), cond_true, Int.toNat_natCast]
      exact thinF_ind hs k _ (hs x i h h1 h3)
theorem thin_ind {c : L.Pt → L.Pt → L.Pt → Bool} {Q : L.Sq L.Pt → Prop} (hs : ∀ x i, Q x → i < x.n → L.outAt c x i = true → Q ⟨x.n - 1, L.delF x.g i x.n⟩) {x : L.Sq L.Pt} (h : Q x) : Q (L.thin c x) := thinF_ind hs _ x h
theorem del_allBd {x : L.Sq L.Pt} {i : Nat} (h : L.allBd x) : L.allBd ⟨x.n - 1, L.delF x.g i x.n⟩ := ⟨by show x.n - 1 ≤ 1000; have := h.1; omega, fun k hk => delF_bd (n := x.n) h.2 (Nat.le_refl _) k (by have hk : k < x.n - 1 := hk; omega)⟩
theorem thin_allBd {c : L.Pt → L.Pt → L.Pt → Bool} {x : L.Sq L.Pt} (h : L.allBd x) : L.allBd (L.thin c x) := thin_ind (fun _ _ h _ _ => del_allBd h) h
theorem thin_two {x : L.Sq L.Pt} (h : L.two2 x) : L.two2 (L.thin L.cDup x) := thin_ind (fun _ _ h hi he => del_two h hi he) h
theorem far_at {l : L.Sq L.Pt} {k : Nat} (hk : k < l.n) (h0 : ∀ j, j < k → l.g j = l.g 0) (h1 : l.g k ≠ l.g 0) : L.far l = (k : Int) := by
  refine idx_at (f := fun i => !L.same (l.g i) (l.g 0)) (fun j hj => ?_) ?_ hk
  · show (!L.same (l.g j) (l.g 0)) = false
    rw [h0 j hj, same_refl]; rfl
  · show (!L.same (l.g k) (l.g 0)) = true
    cases e : L.same (l.g k) (l.g 0) with
    | true => exact absurd (same_eq e) h1
    | false => rfl
theorem flat_all {l : L.Sq L.Pt} (h : ∀ j, j < l.n → l.g j = l.g 0) : L.flat l = true := by
  unfold L.flat
  have e : L.far l = -1 := idx_none (f := fun i => !L.same (l.g i) (l.g 0)) fun j hj => by
    show (!L.same (l.g j) (l.g 0)) = false
    rw [h j hj, same_refl]; rfl
  rw [e]; rfl
theorem flat_two {l : L.Sq L.Pt} (h : L.flat l = false) (h1 : 1 ≤ l.n) : L.two2 l := by
  unfold L.flat L.far at h
  rcases idx_cases (f := fun i => !L.same (l.g i) (l.g 0)) (n := l.n) with ⟨q1, _⟩ | ⟨i, q1, q2, q3, _⟩
  · rw [q1] at h; cases h
  · refine ⟨i, 0, q1, h1, fun e => ?_⟩
    have q3 : (!L.same (l.g i) (l.g 0)) = true := q3
    rw [e, same_refl] at q3; cases q3
theorem wneg {n : Nat} : (bif decide ((n : Int) < 3) then true else decide (400 < (n : Int))) = !L.within (n : Int) 3 400 := by
  unfold L.within
  by_cases h1 : (n : Int) < 3
  · rw [decide_eq_true h1, decide_eq_false (show ¬ (3 : Int) ≤ (n : Int) by omega)]; rfl
  · rw [decide_eq_false h1, decide_eq_true (show (3 : Int) ≤ (n : Int) by omega), cond_false, Bool.true_and]
    by_cases h2 : 400 < (n : Int)
    · rw [decide_eq_true h2, decide_eq_false (show ¬ (n : Int) ≤ 400 by omega)]; rfl
    · rw [decide_eq_false h2, decide_eq_true (show (n : Int) ≤ 400 by omega)]; rfl
theorem out_of {l : L.Sq L.Pt} (h : (bif !L.within (l.n : Int) 3 400 then true else !L.validPts l) = false) : 3 ≤ l.n ∧ l.n ≤ 400 ∧ L.validPts l = true := by
  rw [bor, Bool.or_eq_false_iff] at h
  have h1 := notF h.1
  unfold L.within at h1
  rw [Bool.and_eq_true, decide_eq_true_eq, decide_eq_true_eq] at h1
  exact ⟨by omega, by omega, notF h.2⟩
theorem flip_n (x : L.Sq L.Pt) : (L.flip x).n = x.n := by
  unfold L.flip
  cases decide (L.areaTo x x.n < 0) <;> rfl
theorem plc_flip {x : L.Sq L.Pt} (h : 1 ≤ x.n) : L.plc (L.flip x) = (L.norm x).g := by
  funext k
  show (L.rot (L.flip x) (L.fstK (L.flip x))).g k = (L.rot (L.flip x) (L.minK (L.flip x))).g k
  rw [minK_eq (by rw [flip_n]; exact h)]
theorem flip_neg {x : L.Sq L.Pt} (h : decide (L.areaTo x x.n < 0) = true) : L.flip x = L.revG x := by unfold L.flip; rw [h]; rfl
theorem flip_pos {x : L.Sq L.Pt} (h : decide (L.areaTo x x.n < 0) = false) : L.flip x = x := by unfold L.flip; rw [h]; rfl
theorem far_lt {l : L.Sq L.Pt} (h : ¬ L.far l < 0) : 0 ≤ L.far l ∧ L.far l < (l.n : Int) := by
  unfold L.far at h ⊢
  rcases idx_cases (f := fun i => !L.same (l.g i) (l.g 0)) (n := l.n) with ⟨q1, _⟩ | ⟨i, q1, q2, q3, _⟩
  · rw [q1] at h; exact absurd (by decide) h
  · rw [q2]; omega
def p_normal_p (l : (L.Sq L.Pt)) : Prop := L.small l ∧ 1 ≤ l.n
def p_normal_q (l : (L.Sq L.Pt)) : Nat → Prop := fun _ => True
def p_normal_n (l : (L.Sq L.Pt)) : Nat → Nat := fun _ => l.n
def p_normal_g (l : (L.Sq L.Pt)) : Nat → Nat → List SV := fun _ k => [.int .i64 (((L.norm l).g k).x), .int .i64 (((L.norm l).g k).y)]
def p_normal_s : List EV → Option (Prop × (Nat → Prop) × (Nat → Nat) × (Nat → Nat → List SV))
  | [.p (.sl 2 l_n l_g)] => some ((∀ i, i < l_n → l_g i = [.int .i64 ((ofPt (l_g i)).x), .int .i64 ((ofPt (l_g i)).y)]) ∧ p_normal_p (⟨l_n, fun i => ofPt (l_g i)⟩ : (L.Sq L.Pt)), p_normal_q (⟨l_n, fun i => ofPt (l_g i)⟩ : (L.Sq L.Pt)), p_normal_n (⟨l_n, fun i => ofPt (l_g i)⟩ : (L.Sq L.Pt)), p_normal_g (⟨l_n, fun i => ofPt (l_g i)⟩ : (L.Sq L.Pt)))
  | _ => none
abbrev p_normal_S : SE.Spec := (specF Nat 0 38 2 p_normal_s)
def p_normal_C : Cfg := { muts := [5, 22], frz := lookN [(5, [5])], specs := lookS [(89, s_cloneP_S), (49, p_area_S), (92, s_minP_S), (65, s_idxPt_S), (77, s_concat_S), (51, p_compare_S)], loops := lookL [], iters := lookI [], rfs := lookR [], nils := lookM [], trs := lookT [(91, s_revP_tr)], ren := fun k => k - 1000 }
theorem p_normal_vc (l : (L.Sq L.Pt)) (hp : p_normal_p l) : vc Tryz.prog (p_normal_C) (bodyOf Tryz.f42) (st0 Tryz.f42 [.p (.sl 2 l.n (fun i => [.int .i64 ((l.g i).x), .int .i64 ((l.g i).y)]))]) (retFresh Tryz.prog Tryz.f42 (Nat) (p_normal_q l) 38 2 (p_normal_n l) (p_normal_g l)) :=
  @Eq.mpr _ (((∀ (i : Nat), i < l.n → [SV.int .i64 (l.g i).x, SV.int .i64 (l.g i).y] = [SV.int .i64 (l.g i).x, SV.int .i64 (l.g i).y]) ∧ l.n ≤ (1000000 : Nat)) ∧ ∀ (t : Nat), True → ((∀ (i : Nat), i < l.n → [SV.int .i64 (l.g i).x, SV.int .i64 (l.g i).y] = [SV.int .i64 (l.g i).x, SV.int
 .i64 (l.g i).y]) ∧ L.small (L.Sq.mk l.n fun (i : Nat) ↦ l.g i)) ∧ (decide (L.areaTo (L.Sq.mk l.n fun (i : Nat) ↦ l.g i) l.n < (0 : Int)) = true → ∃ (t : L.Sq L.Pt), (l.n = t.n ∧ ∀ (i : Nat), i < l.n → [SV.int .i64 (l.g i).x, SV.int .i64 (l.g i).y] = [SV.int .i64 (t.g i).x, SV.int .i64 (t.g i).y]) ∧ t.n ≤
 (1000000 : Nat) ∧ ∀ (u : Nat), True → ((∀ (i : Nat), i < t.n → [SV.int .i64 (t.g (t.n - (1 : Nat) - i)).x, SV.int .i64 (t.g (t.n - (1 : Nat) - i)).y] = [SV.int .i64 (t.g (t.n - (1 : Nat) - i)).x, SV.int .i64 (t.g (t.n - (1 : Nat) - i)).y]) ∧ isI (FSpec.mk (fun («as» : List SV) ↦ preO p_compare_s (List.map
 EV.p «as» ++ List.map EV.p [])) fun («as» : List SV) ↦ resO p_compare_s (List.map EV.p «as» ++ List.map EV.p [])) ∧ (1 : Nat) ≤ t.n ∧ t.n ≤ (1000000 : Nat) ∧ ∀ (a b : L.Pt), True ∧ L.fil (FSpec.mk (fun («as» : List SV) ↦ preO p_compare_s (List.map EV.p «as» ++ List.map EV.p [])) fun («as» : List SV) ↦ resO p_compare_s
 (List.map EV.p «as» ++ List.map EV.p [])) [SV.agg [SV.int .i64 a.x, SV.int .i64 a.y], SV.agg [SV.int .i64 b.x, SV.int .i64 b.y]] = L.cmpPt a b) ∧ ((∀ (i : Nat), i < t.n → [SV.int .i64 (t.g (t.n - (1 : Nat) - i)).x, SV.int .i64 (t.g (t.n - (1 : Nat) - i)).y] = [SV.int
 .i64 (t.g (t.n - (1 : Nat) - i)).x, SV.int .i64 (t.g (t.n - (1 : Nat) - i)).y]) ∧ t.n ≤ (1000000 : Nat)) ∧ ((0 : Int) ≤ L.ptIdx (L.Sq.mk t.n fun (i : Nat) ↦ t.g (t.n - (1 : Nat) - i)) (L.minTo (L.Sq.mk t.n fun (i : Nat) ↦ t.g (t.n - (1 : Nat) - i)) (t.n - (1 : Nat))) ∧ L.ptIdx (L.Sq.mk t.n fun (i : Nat) ↦ t.g (t.n - (1 : Nat) - i)) (L.minTo (L.Sq.mk t.n fun (i : Nat) ↦
 t.g (t.n - (1 : Nat) - i)) (t.n - (1 : Nat))) ≤ (↑t.n : Int) ∧ (↑t.n : Int) ≤ (↑t.n : Int)) ∧ ((0 : Int) ≤ (0 : Int) ∧ (0 : Int) ≤ L.ptIdx (L.Sq.mk t.n fun (i : Nat) ↦ t.g (t.n - (1 : Nat) - i)) (L.minTo (L.Sq.mk t.n fun (i : Nat) ↦ t.g (t.n - (1 : Nat) - i)) (t.n - (1 : Nat))) ∧ L.ptIdx (L.Sq.mk t.n fun (i : Nat) ↦ t.g (t.n - (1 : Nat) - i)) (L.minTo (L.Sq.mk t.n fun (i : Nat) ↦ t.g (t.n - (1 :
 Nat) - i)) (t.n - (1 : Nat))) ≤ (↑t.n : Int)) ∧ (((∀ (i : Nat), i < Int.toNat ((↑t.n : Int) - L.ptIdx (L.Sq.mk t.n fun (i : Nat) ↦ t.g (t.n - (1 : Nat) - i)) (L.minTo (L.Sq.mk t.n fun (i : Nat) ↦ t.g (t.n - (1 : Nat) - i)) (t.n - (1 : Nat)))) → [SV.int .i64 (t.g (t.n - (1 : Nat) - (Int.toNat (L.ptIdx (L.Sq.mk t.n fun (i : Nat) ↦ t.g (t.n - (1 : Nat) - i)) (L.minTo (L.Sq.mk t.n fun
 (i : Nat) ↦ t.g (t.n - (1 : Nat) - i)) (t.n - (1 : Nat)))) + i))).x, SV.int .i64 (t.g (t.n - (1 : Nat) - (Int.toNat (L.ptIdx (L.Sq.mk t.n fun (i : Nat) ↦ t.g (t.n - (1 : Nat) - i)) (L.minTo (L.Sq.mk t.n fun (i : Nat) ↦ t.g (t.n - (1 : Nat) - i)) (t.n - (1 : Nat)))) + i))).y] = [SV.int .i64 (t.g (t.n - (1 : Nat) - (Int.toNat (L.ptIdx (L.Sq.mk t.n fun (i : Nat) ↦ t.g
 (t.n - (1 : Nat) - i)) (L.minTo (L.Sq.mk t.n fun (i : Nat) ↦ t.g (t.n - (1 : Nat) - i)) (t.n - (1 : Nat)))) + i))).x, SV.int .i64 (t.g (t.n - (1 : Nat) - (Int.toNat (L.ptIdx (L.Sq.mk t.n fun (i : Nat) ↦ t.g (t.n - (1 : Nat) - i)) (L.minTo (L.Sq.mk t.n fun (i : Nat) ↦ t.g (t.n - (1 : Nat) - i)) (t.n - (1 : Nat)))) + i))).y]) ∧ ∀ (i : Nat), i < Int.toNat (L.ptIdx (L.Sq.mk t.n fun (i
 : Nat) ↦ t.g (t.n - (1 : Nat) - i)) (L.minTo (L.Sq.mk t.n fun (i : Nat) ↦ t.g (t.n - (1 : Nat) - i)) (t.n - (1 : Nat))) - (0 : Int)) → [SV.int .i64 (t.g (t.n - (1 : Nat) - (Int.toNat (0 : Int) + i))).x, SV.int .i64 (t.g (t.n - (1 : Nat) - (Int.toNat (0 : Int) + i))).y] = [SV.int .i64 (t.g (t.n - (1 : Nat) - (Int.toNat (0 : Int) + i))).x, SV.int
 .i64 (t.g (t.n - (1 : Nat) - (Int.toNat (0 : Int) + i))).y]) ∧ (1 : Nat) ≤ (L.two (L.Sq.mk (Int.toNat ((↑t.n : Int) - L.ptIdx (L.Sq.mk t.n fun (i : Nat) ↦ t.g (t.n - (1 : Nat) - i)) (L.minTo (L.Sq.mk t.n fun (i : Nat) ↦ t.g (t.n - (1 : Nat) - i)) (t.n - (1 : Nat))))) fun (i : Nat) ↦ t.g (t.n - (1 : Nat) - (Int.toNat (L.ptIdx (L.Sq.mk t.n fun (i : Nat) ↦ t.g (t.n - (1 : Nat) - i))
 (L.minTo (L.Sq.mk t.n fun (i : Nat) ↦ t.g (t.n - (1 : Nat) - i)) (t.n - (1 : Nat)))) + i))) (L.Sq.mk (Int.toNat (L.ptIdx (L.Sq.mk t.n fun (i : Nat) ↦ t.g (t.n - (1 : Nat) - i)) (L.minTo (L.Sq.mk t.n fun (i : Nat) ↦ t.g (t.n - (1 : Nat) - i)) (t.n - (1 : Nat))) - (0 : Int))) fun (i : Nat) ↦ t.g (t.n - (1 : Nat) - (Int.toNat (0 : Int) + i))) (0 : Nat)).n + (L.two (L.Sq.mk (Int.toNat ((↑t.n : Int) -
 L.ptIdx (L.Sq.mk t.n fun (i : Nat) ↦ t.g (t.n - (1 : Nat) - i)) (L.minTo (L.Sq.mk t.n fun (i : Nat) ↦ t.g (t.n - (1 : Nat) - i)) (t.n - (1 : Nat))))) fun (i : Nat) ↦ t.g (t.n - (1 : Nat) - (Int.toNat (L.ptIdx (L.Sq.mk t.n fun (i : Nat) ↦ t.g (t.n - (1 : Nat) - i)) (L.minTo (L.Sq.mk t.n fun (i : Nat) ↦ t.g (t.n - (1 : Nat) - i)) (t.n - (1 : Nat)))) + i))) (L.Sq.mk (Int.toNat (L.ptIdx (L.Sq.mk t.n
 fun (i : Nat) ↦ t.g (t.n - (1 : Nat) - i)) (L.minTo (L.Sq.mk t.n fun (i : Nat) ↦ t.g (t.n - (1 : Nat) - i)) (t.n - (1 : Nat))) - (0 : Int))) fun (i : Nat) ↦ t.g (t.n - (1 : Nat) - (Int.toNat (0 : Int) + i))) (1 : Nat)).n ∧ (L.two (L.Sq.mk (Int.toNat ((↑t.n : Int) - L.ptIdx (L.Sq.mk t.n fun (i : Nat) ↦ t.g (t.n - (1 : Nat) - i)) (L.minTo (L.Sq.mk t.n fun (i : Nat) ↦ t.g (t.n - (1 : Nat) - i)) (t.n
 - (1 : Nat))))) fun (i : Nat) ↦ t.g (t.n - (1 : Nat) - (Int.toNat (L.ptIdx (L.Sq.mk t.n fun (i : Nat) ↦ t.g (t.n - (1 : Nat) - i)) (L.minTo (L.Sq.mk t.n fun (i : Nat) ↦ t.g (t.n - (1 : Nat) - i)) (t.n - (1 : Nat)))) + i))) (L.Sq.mk (Int.toNat (L.ptIdx (L.Sq.mk t.n fun (i : Nat) ↦ t.g (t.n - (1 : Nat) - i)) (L.minTo (L.Sq.mk t.n fun (i : Nat) ↦ t.g (t.n - (1 : Nat) - i)) (t.n - (1 : Nat))) - (0 :
 Int))) fun (i : Nat) ↦ t.g (t.n - (1 : Nat) - (Int.toNat (0 : Int) + i))) (0 : Nat)).n ≤ (1000000 : Nat) ∧ (L.two (L.Sq.mk (Int.toNat ((↑t.n : Int) - L.ptIdx (L.Sq.mk t.n fun (i : Nat) ↦ t.g (t.n - (1 : Nat) - i)) (L.minTo (L.Sq.mk t.n fun (i : Nat) ↦ t.g (t.n - (1 : Nat) - i)) (t.n - (1 : Nat))))) fun (i : Nat) ↦ t.g (t.n - (1 : Nat) - (Int.toNat (L.ptIdx (L.Sq.mk t.n fun (i : Nat) ↦ t.g (t.n -
 (1 : Nat) - i)) (L.minTo (L.Sq.mk t.n fun (i : Nat) ↦ t.g (t.n - (1 : Nat) - i)) (t.n - (1 : Nat)))) + i))) (L.Sq.mk (Int.toNat (L.ptIdx (L.Sq.mk t.n fun (i : Nat) ↦ t.g (t.n - (1 : Nat) - i)) (L.minTo (L.Sq.mk t.n fun (i : Nat) ↦ t.g (t.n - (1 : Nat) - i)) (t.n - (1 : Nat))) - (0 : Int))) fun (i : Nat) ↦ t.g (t.n - (1 : Nat) - (Int.toNat (0 : Int) + i))) (1 : Nat)).n ≤ (1000000 : Nat)) ∧ ∀ (t_1 :
 Nat), True → ∃ (t_2 : Nat), ((L.catTo (L.two (L.Sq.mk (Int.toNat ((↑t.n : Int) - L.ptIdx (L.Sq.mk t.n fun (i : Nat) ↦ t.g (t.n - (1 : Nat) - i)) (L.minTo (L.Sq.mk t.n fun (i : Nat) ↦ t.g (t.n - (1 : Nat) - i)) (t.n - (1 : Nat))))) fun (i : Nat) ↦ t.g (t.n - (1 : Nat) - (Int.toNat (L.ptIdx (L.Sq.mk t.n fun (i : Nat) ↦ t.g (t.n - (1 : Nat) - i)) (L.minTo (L.Sq.mk t.n fun (i : Nat) ↦ t.g (t.n - (1 :
 Nat) - i)) (t.n - (1 : Nat)))) + i))) (L.Sq.mk (Int.toNat (L.ptIdx (L.Sq.mk t.n fun (i : Nat) ↦ t.g (t.n - (1 : Nat) - i)) (L.minTo (L.Sq.mk t.n fun (i : Nat) ↦ t.g (t.n - (1 : Nat) - i)) (t.n - (1 : Nat))) - (0 : Int))) fun (i : Nat) ↦ t.g (t.n - (1 : Nat) - (Int.toNat (0 : Int) + i)))) (2 : Nat)).n = l.n ∧ ∀ (i : Nat), i < (L.catTo (L.two (L.Sq.mk (Int.toNat ((↑t.n : Int) - L.ptIdx (L.Sq.mk t.n
 fun (i : Nat) ↦ t.g (t.n - (1 : Nat) - i)) (L.minTo (L.Sq.mk t.n fun (i : Nat) ↦ t.g (t.n - (1 : Nat) - i)) (t.n - (1 : Nat))))) fun (i : Nat) ↦ t.g (t.n - (1 : Nat) - (Int.toNat (L.ptIdx (L.Sq.mk t.n fun (i : Nat) ↦ t.g (t.n - (1 : Nat) - i)) (L.minTo (L.Sq.mk t.n fun (i : Nat) ↦ t.g (t.n - (1 : Nat) - i)) (t.n - (1 : Nat)))) + i))) (L.Sq.mk (Int.toNat (L.ptIdx (L.Sq.mk t.n fun (i : Nat) ↦ t.g
 (t.n - (1 : Nat) - i)) (L.minTo (L.Sq.mk t.n fun (i : Nat) ↦ t.g (t.n - (1 : Nat) - i)) (t.n - (1 : Nat))) - (0 : Int))) fun (i : Nat) ↦ t.g (t.n - (1 : Nat) - (Int.toNat (0 : Int) + i)))) (2 : Nat)).n → [SV.int .i64 ((L.catTo (L.two (L.Sq.mk (Int.toNat ((↑t.n : Int) - L.ptIdx (L.Sq.mk t.n fun (i : Nat) ↦ t.g (t.n - (1 : Nat) - i)) (L.minTo (L.Sq.mk t.n fun (i : Nat) ↦ t.g (t.n -
 (1 : Nat) - i)) (t.n - (1 : Nat))))) fun (i : Nat) ↦ t.g (t.n - (1 : Nat) - (Int.toNat (L.ptIdx (L.Sq.mk t.n fun (i : Nat) ↦ t.g (t.n - (1 : Nat) - i)) (L.minTo (L.Sq.mk t.n fun (i : Nat) ↦ t.g (t.n - (1 : Nat) - i)) (t.n - (1 : Nat)))) + i))) (L.Sq.mk (Int.toNat (L.ptIdx (L.Sq.mk t.n fun (i : Nat) ↦ t.g (t.n - (1 : Nat) - i)) (L.minTo (L.Sq.mk t.n fun (i : Nat) ↦ t.g (t.n - (1 : Nat) - i)) (t.n -
 (1 : Nat))) - (0 : Int))) fun (i : Nat) ↦ t.g (t.n - (1 : Nat) - (Int.toNat (0 : Int) + i)))) (2 : Nat)).g i).x, SV.int .i64 ((L.catTo (L.two (L.Sq.mk (Int.toNat ((↑t.n : Int) - L.ptIdx (L.Sq.mk t.n fun (i : Nat) ↦ t.g (t.n - (1 : Nat) - i)) (L.minTo (L.Sq.mk t.n fun (i : Nat) ↦ t.g (t.n - (1 : Nat) - i)) (t.n - (1 : Nat))))) fun (i : Nat) ↦ t.g (t.n - (1 : Nat) - (Int.toNat
 (L.ptIdx (L.Sq.mk t.n fun (i : Nat) ↦ t.g (t.n - (1 : Nat) - i)) (L.minTo (L.Sq.mk t.n fun (i : Nat) ↦ t.g (t.n - (1 : Nat) - i)) (t.n - (1 : Nat)))) + i))) (L.Sq.mk (Int.toNat (L.ptIdx (L.Sq.mk t.n fun (i : Nat) ↦ t.g (t.n - (1 : Nat) - i)) (L.minTo (L.Sq.mk t.n fun (i : Nat) ↦ t.g (t.n - (1 : Nat) - i)) (t.n - (1 : Nat))) - (0 : Int))) fun (i : Nat) ↦ t.g (t.n - (1 : Nat) - (Int.toNat (0 : Int)
 + i)))) (2 : Nat)).g i).y] = [SV.int .i64 ((L.norm l).g i).x, SV.int .i64 ((L.norm l).g i).y]) ∧ True) ∧ (decide (L.areaTo (L.Sq.mk l.n fun (i : Nat) ↦ l.g i) l.n < (0 : Int)) = false → ((∀ (i : Nat), i < l.n → [SV.int .i64 (l.g i).x, SV.int .i64 (l.g i).y] = [SV.int .i64 (l.g i).x, SV.int
 .i64 (l.g i).y]) ∧ isI (FSpec.mk (fun («as» : List SV) ↦ preO p_compare_s (List.map EV.p «as» ++ List.map EV.p [])) fun («as» : List SV) ↦ resO p_compare_s (List.map EV.p «as» ++ List.map EV.p [])) ∧ (1 : Nat) ≤ l.n ∧ l.n ≤ (1000000 : Nat) ∧ ∀ (a b : L.Pt), True ∧ L.fil (FSpec.mk (fun («as» : List SV) ↦ preO
 p_compare_s (List.map EV.p «as» ++ List.map EV.p [])) fun («as» : List SV) ↦ resO p_compare_s (List.map EV.p «as» ++ List.map EV.p [])) [SV.agg [SV.int .i64 a.x, SV.int .i64 a.y], SV.agg [SV.int .i64 b.x, SV.int .i64 b.y]] = L.cmpPt a b) ∧ ((∀ (i : Nat), i < l.n → [SV.int
 .i64 (l.g i).x, SV.int .i64 (l.g i).y] = [SV.int .i64 (l.g i).x, SV.int .i64 (l.g i).y]) ∧ l.n ≤ (1000000 : Nat)) ∧ ((0 : Int) ≤ L.ptIdx (L.Sq.mk l.n fun (i : Nat) ↦ l.g i) (L.minTo (L.Sq.mk l.n fun (i : Nat) ↦ l.g i) (l.n - (1 : Nat))) ∧ L.ptIdx (L.Sq.mk l.n fun (i : Nat) ↦ l.g i) (L.minTo (L.Sq.mk l.n fun (i : Nat) ↦ l.g i) (l.n - (1 :
 Nat))) ≤ (↑l.n : Int) ∧ (↑l.n : Int) ≤ (↑l.n : Int)) ∧ ((0 : Int) ≤ (0 : Int) ∧ (0 : Int) ≤ L.ptIdx (L.Sq.mk l.n fun (i : Nat) ↦ l.g i) (L.minTo (L.Sq.mk l.n fun (i : Nat) ↦ l.g i) (l.n - (1 : Nat))) ∧ L.ptIdx (L.Sq.mk l.n fun (i : Nat) ↦ l.g i) (L.minTo (L.Sq.mk l.n fun (i : Nat) ↦ l.g i) (l.n - (1 : Nat))) ≤ (↑l.n : Int)) ∧ (((∀ (i : Nat), i < Int.toNat ((↑l.n : Int) - L.ptIdx (L.Sq.mk l.n fun
 (i : Nat) ↦ l.g i) (L.minTo (L.Sq.mk l.n fun (i : Nat) ↦ l.g i) (l.n - (1 : Nat)))) → [SV.int .i64 (l.g (Int.toNat (L.ptIdx (L.Sq.mk l.n fun (i : Nat) ↦ l.g i) (L.minTo (L.Sq.mk l.n fun (i : Nat) ↦ l.g i) (l.n - (1 : Nat)))) + i)).x, SV.int .i64 (l.g (Int.toNat (L.ptIdx (L.Sq.mk l.n fun (i : Nat) ↦ l.g i) (L.minTo (L.Sq.mk l.n fun (i : Nat) ↦ l.g i) (l.n - (1 :
 Nat)))) + i)).y] = [SV.int .i64 (l.g (Int.toNat (L.ptIdx (L.Sq.mk l.n fun (i : Nat) ↦ l.g i) (L.minTo (L.Sq.mk l.n fun (i : Nat) ↦ l.g i) (l.n - (1 : Nat)))) + i)).x, SV.int .i64 (l.g (Int.toNat (L.ptIdx (L.Sq.mk l.n fun (i : Nat) ↦ l.g i) (L.minTo (L.Sq.mk l.n fun (i : Nat) ↦ l.g i) (l.n - (1 : Nat)))) + i)).y]) ∧ ∀ (i : Nat), i < Int.toNat (L.ptIdx (L.Sq.mk l.n
 fun (i : Nat) ↦ l.g i) (L.minTo (L.Sq.mk l.n fun (i : Nat) ↦ l.g i) (l.n - (1 : Nat))) - (0 : Int)) → [SV.int .i64 (l.g (Int.toNat (0 : Int) + i)).x, SV.int .i64 (l.g (Int.toNat (0 : Int) + i)).y] = [SV.int .i64 (l.g (Int.toNat (0 : Int) + i)).x, SV.int .i64 (l.g (Int.toNat (0 : Int) + i)).y]) ∧ (1 : Nat) ≤ (L.two (L.Sq.mk (Int.toNat
 ((↑l.n : Int) - L.ptIdx (L.Sq.mk l.n fun (i : Nat) ↦ l.g i) (L.minTo (L.Sq.mk l.n fun (i : Nat) ↦ l.g i) (l.n - (1 : Nat))))) fun (i : Nat) ↦ l.g (Int.toNat (L.ptIdx (L.Sq.mk l.n fun (i : Nat) ↦ l.g i) (L.minTo (L.Sq.mk l.n fun (i : Nat) ↦ l.g i) (l.n - (1 : Nat)))) + i)) (L.Sq.mk (Int.toNat (L.ptIdx (L.Sq.mk l.n fun (i : Nat) ↦ l.g i) (L.minTo (L.Sq.mk l.n fun (i : Nat) ↦ l.g i) (l.n - (1 :
 Nat))) - (0 : Int))) fun (i : Nat) ↦ l.g (Int.toNat (0 : Int) + i)) (0 : Nat)).n + (L.two (L.Sq.mk (Int.toNat ((↑l.n : Int) - L.ptIdx (L.Sq.mk l.n fun (i : Nat) ↦ l.g i) (L.minTo (L.Sq.mk l.n fun (i : Nat) ↦ l.g i) (l.n - (1 : Nat))))) fun (i : Nat) ↦ l.g (Int.toNat (L.ptIdx (L.Sq.mk l.n fun (i : Nat) ↦ l.g i) (L.minTo (L.Sq.mk l.n fun (i : Nat) ↦ l.g i) (l.n - (1 : Nat)))) + i)) (L.Sq.mk
 (Int.toNat (L.ptIdx (L.Sq.mk l.n fun (i : Nat) ↦ l.g i) (L.minTo (L.Sq.mk l.n fun (i : Nat) ↦ l.g i) (l.n - (1 : Nat))) - (0 : Int))) fun (i : Nat) ↦ l.g (Int.toNat (0 : Int) + i)) (1 : Nat)).n ∧ (L.two (L.Sq.mk (Int.toNat ((↑l.n : Int) - L.ptIdx (L.Sq.mk l.n fun (i : Nat) ↦ l.g i) (L.minTo (L.Sq.mk l.n fun (i : Nat) ↦ l.g i) (l.n - (1 : Nat))))) fun (i : Nat) ↦ l.g (Int.toNat (L.ptIdx (L.Sq.mk
 l.n fun (i : Nat) ↦ l.g i) (L.minTo (L.Sq.mk l.n fun (i : Nat) ↦ l.g i) (l.n - (1 : Nat)))) + i)) (L.Sq.mk (Int.toNat (L.ptIdx (L.Sq.mk l.n fun (i : Nat) ↦ l.g i) (L.minTo (L.Sq.mk l.n fun (i : Nat) ↦ l.g i) (l.n - (1 : Nat))) - (0 : Int))) fun (i : Nat) ↦ l.g (Int.toNat (0 : Int) + i)) (0 : Nat)).n ≤ (1000000 : Nat) ∧ (L.two (L.Sq.mk (Int.toNat ((↑l.n : Int) - L.ptIdx (L.Sq.mk l.n fun (i : Nat) ↦
 l.g i) (L.minTo (L.Sq.mk l.n fun (i : Nat) ↦ l.g i) (l.n - (1 : Nat))))) fun (i : Nat) ↦ l.g (Int.toNat (L.ptIdx (L.Sq.mk l.n fun (i : Nat) ↦ l.g i) (L.minTo (L.Sq.mk l.n fun (i : Nat) ↦ l.g i) (l.n - (1 : Nat)))) + i)) (L.Sq.mk (Int.toNat (L.ptIdx (L.Sq.mk l.n fun (i : Nat) ↦ l.g i) (L.minTo (L.Sq.mk l.n fun (i : Nat) ↦ l.g i) (l.n - (1 : Nat))) - (0 : Int))) fun (i : Nat) ↦ l.g (Int.toNat (0 :
 Int) + i)) (1 : Nat)).n ≤ (1000000 : Nat)) ∧ ∀ (t : Nat), True → ∃ (t : Nat), ((L.catTo (L.two (L.Sq.mk (Int.toNat ((↑l.n : Int) - L.ptIdx (L.Sq.mk l.n fun (i : Nat) ↦ l.g i) (L.minTo (L.Sq.mk l.n fun (i : Nat) ↦ l.g i) (l.n - (1 : Nat))))) fun (i : Nat) ↦ l.g (Int.toNat (L.ptIdx (L.Sq.mk l.n fun (i : Nat) ↦ l.g i) (L.minTo (L.Sq.mk l.n fun (i : Nat) ↦ l.g i) (l.n - (1 : Nat)))) + i)) (L.Sq.mk
 (Int.toNat (L.ptIdx (L.Sq.mk l.n fun (i : Nat) ↦ l.g i) (L.minTo (L.Sq.mk l.n fun (i : Nat) ↦ l.g i) (l.n - (1 : Nat))) - (0 : Int))) fun (i : Nat) ↦ l.g (Int.toNat (0 : Int) + i))) (2 : Nat)).n = l.n ∧ ∀ (i : Nat), i < (L.catTo (L.two (L.Sq.mk (Int.toNat ((↑l.n : Int) - L.ptIdx (L.Sq.mk l.n fun (i : Nat) ↦ l.g i) (L.minTo (L.Sq.mk l.n fun (i : Nat) ↦ l.g i) (l.n - (1 : Nat))))) fun (i : Nat) ↦
 l.g (Int.toNat (L.ptIdx (L.Sq.mk l.n fun (i : Nat) ↦ l.g i) (L.minTo (L.Sq.mk l.n fun (i : Nat) ↦ l.g i) (l.n - (1 : Nat)))) + i)) (L.Sq.mk (Int.toNat (L.ptIdx (L.Sq.mk l.n fun (i : Nat) ↦ l.g i) (L.minTo (L.Sq.mk l.n fun (i : Nat) ↦ l.g i) (l.n - (1 : Nat))) - (0 : Int))) fun (i : Nat) ↦ l.g (Int.toNat (0 : Int) + i))) (2 : Nat)).n → [SV.int .i64 ((L.catTo (L.two (L.Sq.mk
 (Int.toNat ((↑l.n : Int) - L.ptIdx (L.Sq.mk l.n fun (i : Nat) ↦ l.g i) (L.minTo (L.Sq.mk l.n fun (i : Nat) ↦ l.g i) (l.n - (1 : Nat))))) fun (i : Nat) ↦ l.g (Int.toNat (L.ptIdx (L.Sq.mk l.n fun (i : Nat) ↦ l.g i) (L.minTo (L.Sq.mk l.n fun (i : Nat) ↦ l.g i) (l.n - (1 : Nat)))) + i)) (L.Sq.mk (Int.toNat (L.ptIdx (L.Sq.mk l.n fun (i : Nat) ↦ l.g i) (L.minTo (L.Sq.mk l.n fun (i : Nat) ↦ l.g i) (l.n -
 (1 : Nat))) - (0 : Int))) fun (i : Nat) ↦ l.g (Int.toNat (0 : Int) + i))) (2 : Nat)).g i).x, SV.int .i64 ((L.catTo (L.two (L.Sq.mk (Int.toNat ((↑l.n : Int) - L.ptIdx (L.Sq.mk l.n fun (i : Nat) ↦ l.g i) (L.minTo (L.Sq.mk l.n fun (i : Nat) ↦ l.g i) (l.n - (1 : Nat))))) fun (i : Nat) ↦ l.g (Int.toNat (L.ptIdx (L.Sq.mk l.n fun (i : Nat) ↦ l.g i) (L.minTo (L.Sq.mk l.n fun (i : Nat) ↦
 l.g i) (l.n - (1 : Nat)))) + i)) (L.Sq.mk (Int.toNat (L.ptIdx (L.Sq.mk l.n fun (i : Nat) ↦ l.g i) (L.minTo (L.Sq.mk l.n fun (i : Nat) ↦ l.g i) (l.n - (1 : Nat))) - (0 : Int))) fun (i : Nat) ↦ l.g (Int.toNat (0 : Int) + i))) (2 : Nat)).g i).y] = [SV.int .i64 ((L.norm l).g i).x, SV.int .i64 ((L.norm l).g i).y]) ∧ True)) (by kernel_rfl) (by
    obtain ⟨hs, h1⟩ := hp
    have hn := hs.1
    refine ⟨⟨fun _ _ => rfl, by omega⟩, fun _ _ => ⟨⟨fun _ _ => rfl, hs⟩, fun hA => ?_, fun hA => ?_⟩⟩
    · have fl : L.flip l = ⟨l.n, fun k => l.g (l.n - 1 - k)⟩ := by unfold L.flip; rw [hA]; rfl
      obtain ⟨i0, k1, k2, _⟩ := minIdx (l := ⟨l.n, fun k => l.g (l.n - 1 - k)⟩) h1
      have k1 : i0 < l.n := k1
      obtain ⟨q, c1, c2⟩ := norm_cat (t := ⟨l.n, fun k => l.g (l.n - 1 - k)⟩) (K := L.ptIdx ⟨l.n, fun k => l.g (l.n - 1 - k)⟩ (L.minTo ⟨l.n, fun k => l.g (l.n - 1 - k)⟩ (l.n - 1))) (by rw [k2]; omega) (by rw [k2]; show (i0 : Int) ≤ (l.n : Int); omega) h1 (by show l.n ≤ 1000000; omega)
      have a1 : 0 ≤ L.ptIdx ⟨l.n, fun k => l.g (l.n - 1 - k)⟩ (L.minTo ⟨l.n, fun k => l.g (l.n - 1 - k)⟩ (l.n - 1)) := by rw [k2]; omega
      have a2 : L.ptIdx ⟨l.n, fun k => l.g (l.n - 1 - k)⟩ (L.minTo ⟨l.n, fun k => l.g (l.n - 1 - k)⟩ (l.n - 1)) ≤ (l.n : Int) := by rw [k2]; omega
      refine ⟨l, ⟨rfl, fun _ _ => rfl⟩, by omega, fun _ _ => ⟨⟨fun _ _ => rfl, isI_of p_compare_I _, h1, by omega, fun _ _ => ⟨trivial, rfl⟩⟩, ⟨fun _ _ => rfl, by omega⟩, ⟨a1, a2, Int.le_refl _⟩, ⟨Int.le_refl _, a1, a2⟩, ⟨⟨fun _ _ => rfl, fun _ _ => rfl⟩, q⟩, fun _ _ => ⟨(0 : Nat), ⟨c1, fun i _ => ?_⟩, trivial⟩⟩⟩
      have w : (L.norm l).g i = (L.rot ⟨l.n, fun k => l.g (l.n - 1 - k)⟩ (L.ptIdx ⟨l.n, fun k => l.g (l.n - 1 - k)⟩ (L.minTo ⟨l.n, fun k => l.g (l.n - 1 - k)⟩ (l.n - 1))).toNat).g i := by
        show (L.rot (L.flip l) (L.minK (L.flip l))).g i = _
        unfold L.minK
        rw [fl]
      rw [w, ← c2 i]
    · have fl : L.flip l = l := by unfold L.flip; rw [hA]; rfl
      obtain ⟨i0, k1, k2, _⟩ := minIdx (l := l) h1
      obtain ⟨q, c1, c2⟩ := norm_cat (t := l) (K := L.ptIdx l (L.minTo l (l.n - 1))) (by rw [k2]; omega) (by rw [k2]; omega) h1 (by omega)
      have a1 : 0 ≤ L.ptIdx l (L.minTo l (l.n - 1)) := by rw [k2]; omega
      have a2 : L.ptIdx l (L.minTo l (l.n - 1)) ≤ (l.n : Int) := by rw [k2]; omega
      refine ⟨⟨fun _ _ => rfl, isI_of p_compare_I _, h1, by omega, fun _ _ => ⟨trivial, rfl⟩⟩, ⟨fun _ _ => rfl, by omega⟩, ⟨a1, a2, Int.le_refl _⟩, ⟨Int.le_refl _, a1, a2⟩, ⟨⟨fun _ _ => rfl, fun _ _ => rfl⟩, q⟩, fun _ _ => ⟨(0 : Nat), ⟨c1, fun i _ => ?_⟩, trivial⟩⟩
      have w : (L.norm l).g i = (L.rot l (L.ptIdx l (L.minTo l (l.n - 1))).toNat).g i := by
        show (L.rot (L.flip l) (L.minK (L.flip l))).g i = _
        unfold L.minK
        rw [fl]
      rw [w, ← c2 i])
theorem p_normal_ok : SpecOk Tryz.prog 42 p_normal_S := freshX Tryz.func42 (c := bodyOf Tryz.f42) (by kernel_rfl) mixed (fun args p q n g hs hp => by
  unfold p_normal_s at hs
  split at hs
  · cases hs; exact ⟨_, _, p_normal_vc _ hp.2, (.p (.sl hp.1) .nil), ⟨show SpecsL Tryz.prog _ from (SpecsL.cons s_cloneP_ok s_cloneP_en (SpecsL.cons p_area_ok p_area_en (SpecsL.cons s_minP_ok s_minP_en (SpecsL.cons s_idxPt_ok s_idxPt_en (SpecsL.cons s_concat_ok s_concat_en (SpecsL.cons p_compare_ok p_compare_en SpecsL.nil)))))), rfl, ⟨show ItersL Tryz.prog _ from ItersL.nil, (show TrsL Tryz.prog _ from (TrsL.cons s_revP_tok s_revP_en TrsL.nil))⟩⟩⟩
  · cases hs)
theorem p_normal_en : Enters Tryz.prog 42 := fun args w => by kernel_rfl
def r1_SamePoints_p (a : (L.Sq L.Pt)) (b : (L.Sq L.Pt)) : Prop := a.n ≤ 1000000
def r1_SamePoints_r (a : (L.Sq L.Pt)) (b : (L.Sq L.Pt)) : SV := .bool (L.sameP a b)
def r1_SamePoints_s : List EV → Option (Prop × SV)
  | [.p (.sl 2 a_n a_g), .p (.sl 2 b_n b_g)] => some ((∀ i, i < a_n → a_g i = [.int .i64 ((ofPt (a_g i)).x), .int .i64 ((ofPt (a_g i)).y)]) ∧ (∀ i, i < b_n → b_g i = [.int .i64 ((ofPt (b_g i)).x), .int .i64 ((ofPt (b_g i)).y)]) ∧ r1_SamePoints_p (⟨a_n, fun i => ofPt (a_g i)⟩ : (L.Sq L.Pt)) (⟨b_n, fun i => ofPt (b_g i)⟩ : (L.Sq L.Pt)), r1_SamePoints_r (⟨a_n, fun i => ofPt (a_g i)⟩ : (L.Sq L.Pt)) (⟨b_n, fun i => ofPt (b_g i)⟩ : (L.Sq L.Pt)))
  | _ => none
abbrev r1_SamePoints_S : SE.Spec := (specO r1_SamePoints_s)
def r1_SamePoints_C : Cfg := { muts := [], frz := lookN [], specs := lookS [], loops := fun _ => none, iters := lookI [], rfs := lookR [], nils := lookM [] }
theorem r1_SamePoints_vc (a : (L.Sq L.Pt)) (b : (L.Sq L.Pt)) (hp : r1_SamePoints_p a b) : vc Tryz.prog ({ r1_SamePoints_C with loops := lookL [(4, { T := Nat, keep := [0, 1], keepO := [], chg := fun i => [(5, .p (.int .i64 (i : Int)))], own := fun _ => [], inv := fun i => i ≤ a.n ∧ ∀ j, j < i → L.same (a.g j) (b.g j) = true, mu := fun i => a.n - i })], rfs := lookR [] }) (bodyOf Tryz.f9) (st0 Tryz.f9 [.p (.sl 2 a.n (fun i => [.int .i64 ((a.g i).x), .int .i64 ((a.g i).y)])), .p (.sl 2 b.n (fun i => [.int .i64 ((b.g i).x), .int .i64 ((b.g i).y)]))]) (retFn Tryz.prog Tryz.f9 (r1_SamePoints_r a b)) :=
  @Eq.mpr _ (((!decide ((↑a.n : Int) = (↑b.n : Int))) = true → false = L.sameP a b) ∧ ((!decide ((↑a.n : Int) = (↑b.n : Int))) = false → (∃ (g : Nat), (0 : Int) = (↑g : Int) ∧ g ≤ a.n ∧ ∀ (j : Nat), j < g → L.same (a.g j) (b.g j) = true) ∧ ∀ (g : Nat), (g ≤ a.n ∧ ∀ (j : Nat), j < g → L.same (a.g j) (b.g j) = true) → (decide ((↑g : Int) < (↑a.n : Int)) =
 true → ((0 : Int) ≤ (↑g : Int) ∧ (↑g : Int) < (↑a.n : Int)) ∧ ((0 : Int) ≤ (↑g : Int) ∧ (↑g : Int) < (↑b.n : Int)) ∧ ((!(decide ((a.g (Int.toNat (↑g : Int))).x = (b.g (Int.toNat (↑g : Int))).x) && decide ((a.g (Int.toNat (↑g : Int))).y = (b.g (Int.toNat (↑g : Int))).y))) = true → false = L.sameP a b) ∧ ((!(decide ((a.g (Int.toNat (↑g : Int))).x = (b.g
 (Int.toNat (↑g : Int))).x) && decide ((a.g (Int.toNat (↑g : Int))).y = (b.g (Int.toNat (↑g : Int))).y))) = false → InK .i64 ((↑g : Int) + (1 : Int)) ∧ ∃ (g' : Nat), (↑g : Int) + (1 : Int) = (↑g' : Int) ∧ (a.n = a.n ∧ ∀ (i : Nat), i < a.n → [SV.int .i64 (a.g i).x, SV.int .i64 (a.g i).y] = [SV.int .i64 (a.g i).x,
 SV.int .i64 (a.g i).y]) ∧ (b.n = b.n ∧ ∀ (i : Nat), i < b.n → [SV.int .i64 (b.g i).x, SV.int .i64 (b.g i).y] = [SV.int .i64 (b.g i).x, SV.int .i64 (b.g i).y]) ∧ (g' ≤ a.n ∧ ∀ (j : Nat), j < g' → L.same (a.g j) (b.g j) = true) ∧ a.n - g' < a.n - g)) ∧ (decide ((↑g : Int) < (↑a.n : Int)) = false →
 true = L.sameP a b))) (by kernel_rfl) (by
    have ha : a.n ≤ 1000000 := hp
    refine ⟨fun h => ?_, fun h => ?_⟩
    · unfold L.sameP; rw [notT h]; rfl
    have hd := notF h
    have hn := of_decide_eq_true hd
    refine ⟨⟨(0 : Nat), rfl, Nat.zero_le _, fun j hj => absurd hj (Nat.not_lt_zero _)⟩, fun g hg => ⟨fun hlt => ?_, fun hge => ?_⟩⟩
    · have hb : (g : Int) < (a.n : Int) := of_decide_eq_true hlt
      have e0 : ((g : Int)).toNat = g := by omega
      rw [e0]
      refine ⟨by omega, by omega, fun h1 => ?_, fun h1 => ?_⟩
      · have h1 : L.same (a.g g) (b.g g) = false := notT h1
        unfold L.sameP; rw [hd, allB_false (i := g) (by omega) h1]; rfl
      · have h1 : L.same (a.g g) (b.g g) = true := notF h1
        exact ⟨InK.of (by omega) (by omega), g + 1, by omega, ⟨rfl, fun _ _ => rfl⟩, ⟨rfl, fun _ _ => rfl⟩, ⟨by omega, fun j hj => by
          rcases Nat.lt_succ_iff_lt_or_eq.1 hj with h' | rfl
          · exact hg.2 j h'
          · exact h1⟩, by omega⟩
    · have hb : ¬ (g : Int) < (a.n : Int) := of_decide_eq_false hge
      unfold L.sameP; rw [hd, allB_iff.2 (fun i hi => hg.2 i (by omega))]; rfl)
theorem r1_SamePoints_ok : SpecOk Tryz.prog 9 r1_SamePoints_S := fnX Tryz.func9 (c := bodyOf Tryz.f9) (by kernel_rfl) mixed (fun args p r hs hp => by
  unfold r1_SamePoints_s at hs
  split at hs
  · cases hs; exact ⟨_, _, r1_SamePoints_vc _ _ hp.2.2, (.p (.sl hp.1) (.p (.sl hp.2.1) .nil)), ⟨show SpecsL Tryz.prog _ from SpecsL.nil, rfl, ⟨show ItersL Tryz.prog _ from ItersL.nil, (TrsOk.none (fun _ => rfl))⟩⟩⟩
  · cases hs)
theorem r1_SamePoints_en : Enters Tryz.prog 9 := fun args w => by kernel_rfl
def r1_placed_p (l : (L.Sq L.Pt)) : Prop := 1 ≤ l.n ∧ l.n ≤ 1000000
def r1_placed_q (l : (L.Sq L.Pt)) : Nat → Prop := fun _ => True
def r1_placed_n (l : (L.Sq L.Pt)) : Nat → Nat := fun _ => l.n
def r1_placed_g (l : (L.Sq L.Pt)) : Nat → Nat → List SV := fun _ k => [.int .i64 ((L.plc l k).x), .int .i64 ((L.plc l k).y)]
def r1_placed_s : List EV → Option (Prop × (Nat → Prop) × (Nat → Nat) × (Nat → Nat → List SV))
  | [.p (.sl 2 l_n l_g)] => some ((∀ i, i < l_n → l_g i = [.int .i64 ((ofPt (l_g i)).x), .int .i64 ((ofPt (l_g i)).y)]) ∧ r1_placed_p (⟨l_n, fun i => ofPt (l_g i)⟩ : (L.Sq L.Pt)), r1_placed_q (⟨l_n, fun i => ofPt (l_g i)⟩ : (L.Sq L.Pt)), r1_placed_n (⟨l_n, fun i => ofPt (l_g i)⟩ : (L.Sq L.Pt)), r1_placed_g (⟨l_n, fun i => ofPt (l_g i)⟩ : (L.Sq L.Pt)))
  | _ => none
abbrev r1_placed_S : SE.Spec := (specF Nat 0 38 2 r1_placed_s)
def r1_placed_C : Cfg := { muts := [], frz := lookN [], specs := lookS [(52, r1_less_S)], loops := fun _ => none, iters := lookI [], rfs := lookR [], nils := lookM [(8, [(5, 26, 38, 2)])] }
theorem r1_placed_vc (l : (L.Sq L.Pt)) (hp : r1_placed_p l) : vc Tryz.prog ({ r1_placed_C with loops := lookL [(3, { T := Nat, keep := [0], keepO := [], chg := fun i => [(3, .p (.int .i64 ((L.argTo l i : Nat) : Int))), (4, .p (.int .i64 (i : Int)))], own := fun _ => [], inv := fun i => i ≤ l.n, mu := fun i => l.n - i })], rfs := lookR [] }) (bodyOf Tryz.f48) (st0 Tryz.f48 [.p (.sl 2 l.n (fun i => [.int .i64 ((l.g i).x), .int .i64 ((l.g i).y)]))]) (retFresh Tryz.prog Tryz.f48 (Nat) (r1_placed_q l) 38 2 (r1_placed_n l) (r1_placed_g l)) :=
  @Eq.mpr _ ((∃ (g : Nat), (0 : Int) = (↑(L.argTo l g) : Int) ∧ (0 : Int) = (↑g : Int) ∧ g ≤ l.n) ∧ ∀ (g : Nat), g ≤ l.n → (decide ((↑g : Int) < (↑l.n : Int)) = true → ((0 : Int) ≤ (↑g : Int) ∧ (↑g : Int) < (↑l.n : Int)) ∧ ((0 : Int) ≤ (↑(L.argTo l g) : Int) ∧ (↑(L.argTo l g) : Int) < (↑l.n : Int)) ∧ True ∧ (decide (L.cmpPt (l.g (Int.toNat (↑g : Int))) (l.g (Int.toNat (↑(L.argTo l g) :
 Int))) < (0 : Int)) = true → InK .i64 ((↑g : Int) + (1 : Int)) ∧ ∃ (g' : Nat), (↑g : Int) = (↑(L.argTo l g') : Int) ∧ (↑g : Int) + (1 : Int) = (↑g' : Int) ∧ (l.n = l.n ∧ ∀ (i : Nat), i < l.n → [SV.int .i64 (l.g i).x, SV.int .i64 (l.g i).y] = [SV.int .i64 (l.g i).x, SV.int .i64 (l.g i).y]) ∧ g' ≤ l.n ∧ l.n - g' <
 l.n - g) ∧ (decide (L.cmpPt (l.g (Int.toNat (↑g : Int))) (l.g (Int.toNat (↑(L.argTo l g) : Int))) < (0 : Int)) = false → InK .i64 ((↑g : Int) + (1 : Int)) ∧ ∃ (g' : Nat), (↑(L.argTo l g) : Int) = (↑(L.argTo l g') : Int) ∧ (↑g : Int) + (1 : Int) = (↑g' : Int) ∧ (l.n = l.n ∧ ∀ (i : Nat), i < l.n → [SV.int .i64 (l.g i).x, SV.int .i64 (l.g
 i).y] = [SV.int .i64 (l.g i).x, SV.int .i64 (l.g i).y]) ∧ g' ≤ l.n ∧ l.n - g' < l.n - g)) ∧ (decide ((↑g : Int) < (↑l.n : Int)) = false → ((0 : Int) ≤ (↑(L.argTo l g) : Int) ∧ (↑(L.argTo l g) : Int) ≤ (↑l.n : Int) ∧ (↑l.n : Int) ≤ (↑l.n : Int)) ∧ (nat_lit 0 + Int.toNat ((↑l.n : Int) - (↑(L.argTo l g) : Int))) * nat_lit 16 ≤ (140737488355328 : Nat) ∧
 ((0 : Int) ≤ (0 : Int) ∧ (0 : Int) ≤ (↑(L.argTo l g) : Int) ∧ (↑(L.argTo l g) : Int) ≤ (↑l.n : Int)) ∧ (nat_lit 0 + Int.toNat ((↑l.n : Int) - (↑(L.argTo l g) : Int)) + Int.toNat ((↑(L.argTo l g) : Int) - (0 : Int))) * nat_lit 16 ≤ (140737488355328 : Nat) ∧ ∃ (t : Nat), (nat_lit 0 + Int.toNat ((↑l.n : Int) - (↑(L.argTo l g) : Int)) + Int.toNat ((↑(L.argTo l g) : Int) - (0 : Int)) = l.n ∧ ∀ (i :
 Nat), i < nat_lit 0 + Int.toNat ((↑l.n : Int) - (↑(L.argTo l g) : Int)) + Int.toNat ((↑(L.argTo l g) : Int) - (0 : Int)) → appGet (nat_lit 0 + Int.toNat ((↑l.n : Int) - (↑(L.argTo l g) : Int))) (appGet (nat_lit 0) (fun (x : Nat) ↦ []) fun (i : Nat) ↦ [SV.int .i64 (l.g (Int.toNat (↑(L.argTo l g) : Int) + i)).x, SV.int .i64 (l.g (Int.toNat (↑(L.argTo l g)
 : Int) + i)).y]) (fun (i : Nat) ↦ [SV.int .i64 (l.g (Int.toNat (0 : Int) + i)).x, SV.int .i64 (l.g (Int.toNat (0 : Int) + i)).y]) i = [SV.int .i64 (L.plc l i).x, SV.int .i64 (L.plc l i).y]) ∧ True)) (by kernel_rfl) (by
    obtain ⟨h1, hn⟩ := hp
    refine ⟨⟨(0 : Nat), rfl, rfl, Nat.zero_le _⟩, fun g hg => ⟨fun hlt => ?_, fun hge => ?_⟩⟩
    · have hb : (g : Int) < (l.n : Int) := of_decide_eq_true hlt
      have e0 : ((g : Int)).toNat = g := Int.toNat_natCast g
      have ha := argTo_lt h1 g hg
      have e1 : ((L.argTo l g : Int)).toNat = L.argTo l g := Int.toNat_natCast _
      rw [e0, e1]
      have hs : L.argTo l (g + 1) = bif decide (L.cmpPt (l.g g) (l.g (L.argTo l g)) < 0) then g else L.argTo l g := rfl
      refine ⟨⟨by omega, hb⟩, ⟨by omega, by omega⟩, trivial, fun h => ?_, fun h => ?_⟩
      · rw [h] at hs
        exact ⟨InK.of (by omega) (by omega), g + 1, by rw [hs]; rfl, by omega, ⟨rfl, fun _ _ => rfl⟩, by omega, by omega⟩
      · rw [h] at hs
        exact ⟨InK.of (by omega) (by omega), g + 1, by rw [hs]; rfl, by omega, ⟨rfl, fun _ _ => rfl⟩, by omega, by omega⟩
    · have hb : ¬ (g : Int) < (l.n : Int) := of_decide_eq_false hge
      obtain rfl : g = l.n := by omega
      have ha := argTo_lt h1 l.n (Nat.le_refl _)
      have e1 : ((L.argTo l l.n : Int)).toNat = L.argTo l l.n := Int.toNat_natCast _
      refine ⟨⟨by omega, by omega, Int.le_refl _⟩, show (0 + ((l.n : Int) - (L.argTo l l.n : Int)).toNat) * 16 ≤ 140737488355328 by omega, ⟨Int.le_refl _, by omega, by omega⟩, show (0 + ((l.n : Int) - (L.argTo l l.n : Int)).toNat + ((L.argTo l l.n : Int) - 0).toNat) * 16 ≤ 140737488355328 by omega, (0 : Nat), ⟨show 0 + ((l.n : Int) - (L.argTo l l.n : Int)).toNat + ((L.argTo l l.n : Int) - 0).toNat = l.n by omega, fun i _ => ?_⟩, trivial⟩
      have e2 : 0 + ((l.n : Int) - (L.argTo l l.n : Int)).toNat = l.n - L.argTo l l.n := by omega
      rw [e1, e2]
      unfold appGet
      have w : L.plc l i = bif decide (i < l.n - L.argTo l l.n) then l.g (L.argTo l l.n + i) else l.g (i - (l.n - L.argTo l l.n)) := rfl
      by_cases h : i < l.n - L.argTo l l.n
      · rw [if_pos h, w, decide_eq_true h, if_neg (Nat.not_lt_zero _)]; rfl
      · rw [if_neg h, w, decide_eq_false h]
        show [SV.int .i64 (l.g (0 + (i - (l.n - L.argTo l l.n)))).x, SV.int .i64 (l.g (0 + (i - (l.n - L.argTo l l.n)))).y] = _
        rw [Nat.zero_add]; rfl)
theorem r1_placed_ok : SpecOk Tryz.prog 48 r1_placed_S := freshX Tryz.func48 (c := bodyOf Tryz.f48) (by kernel_rfl) mixed (fun args p q n g hs hp => by
  unfold r1_placed_s at hs
  split at hs
  · cases hs; exact ⟨_, _, r1_placed_vc _ hp.2, (.p (.sl hp.1) .nil), ⟨show SpecsL Tryz.prog _ from (SpecsL.cons r1_less_ok r1_less_en SpecsL.nil), rfl, ⟨show ItersL Tryz.prog _ from ItersL.nil, (TrsOk.none (fun _ => rfl))⟩⟩⟩
  · cases hs)
theorem r1_placed_en : Enters Tryz.prog 48 := fun args w => by kernel_rfl
def p_thin_s (args : List EV) : Option (Prop × SV) := match p_thinA_s args with
  | some x => some x
  | none => p_thinB_s args
abbrev p_thin_S : SE.Spec := specO p_thin_s
theorem p_thin_ok : SpecOk Tryz.prog 37 p_thin_S := fun M w args vals h1 h2 hp => by
  have hp : preO p_thin_s args := hp
  show CallsIn Fence.wide 0 Tryz.prog 37 vals.toArray w (Gives M w (resO p_thin_s args))
  unfold preO resO p_thin_s at *
  cases hA : p_thinA_s args with
  | some x =>
    rw [hA] at hp
    have := p_thinA_ok M w args vals h1 h2 (by show preO p_thinA_s args; unfold preO; rw [hA]; exact hp)
    have e : resO p_thinA_s args = x.2 := by unfold resO; rw [hA]
    change CallsIn Fence.wide 0 Tryz.prog _ vals.toArray w (Gives M w (resO p_thinA_s args)) at this
    rw [e] at this
    exact this
  | none =>
    rw [hA] at hp
    have := p_thinB_ok M w args vals h1 h2 (by show preO p_thinB_s args; unfold preO; exact hp)
    exact this
theorem p_thin_en : Enters Tryz.prog 37 := p_thinA_en
def p_flat1_p (p : L.Pt) (l : (L.Sq L.Pt)) : Prop := 1 ≤ l.n
def p_flat1_r (p : L.Pt) (l : (L.Sq L.Pt)) : SV := .bool (!L.same p (l.g 0))
def p_flat1_s : List EV → Option (Prop × SV)
  | [.p (.agg [.int .i64 p_x, .int .i64 p_y]), .p (.ref [.sl 2 l_n l_g] 0)] => some ((∀ i, i < l_n → l_g i = [.int .i64 ((ofPt (l_g i)).x), .int .i64 ((ofPt (l_g i)).y)]) ∧ p_flat1_p (⟨p_x, p_y⟩ : L.Pt) (⟨l_n, fun i => ofPt (l_g i)⟩ : (L.Sq L.Pt)), p_flat1_r (⟨p_x, p_y⟩ : L.Pt) (⟨l_n, fun i => ofPt (l_g i)⟩ : (L.Sq L.Pt)))
  | _ => none
abbrev p_flat1_S : SE.Spec := (specO p_flat1_s)
def p_flat1_C : Cfg := { muts := [], frz := lookN [], specs := lookS [], loops := lookL [], iters := lookI [], rfs := lookR [], nils := lookM [] }
theorem p_flat1_vc (p : L.Pt) (l : (L.Sq L.Pt)) (hp : p_flat1_p p l) : vc Tryz.prog (p_flat1_C) (bodyOf Tryz.f87) (st0 Tryz.f87 [.p (.agg [.int .i64 p.x, .int .i64 p.y]), .p (.ref [.sl 2 l.n (fun i => [.int .i64 ((l.g i).x), .int .i64 ((l.g i).y)])] 0)]) (retFn Tryz.prog Tryz.f87 (p_flat1_r p l)) :=
  @Eq.mpr _ (((0 : Int) ≤ (0 : Int) ∧ (0 : Int) < (↑l.n : Int)) ∧ (!(decide (p.x = (l.g (Int.toNat (0 : Int))).x) && decide (p.y = (l.g (Int.toNat (0 : Int))).y))) = !L.same p (l.g (0 : Nat))) (by kernel_rfl) (by
    exact ⟨⟨Int.le_refl _, by have : 1 ≤ l.n := hp; omega⟩, rfl⟩)
theorem p_flat1_ok : SpecOk Tryz.prog 87 p_flat1_S := fnX Tryz.func87 (c := bodyOf Tryz.f87) (by kernel_rfl) mixed (fun args p r hs hp => by
  unfold p_flat1_s at hs
  split at hs
  · cases hs; exact ⟨_, _, p_flat1_vc _ _ hp.2, (.same _ (.p (Ext.ref rfl (fun i hi => by
      rcases i with _ | i
      · show Ext (SV.sl _ _ _) (SV.sl _ _ _); exact (Ext.sl hp.1)
      exact absurd hi (by simp; try omega))) .nil)), ⟨show SpecsL Tryz.prog _ from SpecsL.nil, rfl, ⟨show ItersL Tryz.prog _ from ItersL.nil, (TrsOk.none (fun _ => rfl))⟩⟩⟩
  · cases hs)
theorem p_flat1_en : Enters Tryz.prog 87 := fun args w => by kernel_rfl
theorem p_flat1_B : ∀ args p r, p_flat1_s args = some (p, r) → ∃ b, r = .bool b := by
  intro args p r h
  unfold p_flat1_s at h
  split at h
  · cases h; exact ⟨_, rfl⟩
  · cases h
def p_flat2_p (p : L.Pt) (l : (L.Sq L.Pt)) (far : Int) : Prop := (0 ≤ far ∧ far < l.n) ∧ L.bd p ∧ ∀ k, k < l.n → L.bd (l.g k)
def p_flat2_r (p : L.Pt) (l : (L.Sq L.Pt)) (far : Int) : SV := .bool (!decide (L.cross (l.g 0) (l.g far.toNat) p = 0))
def p_flat2_s : List EV → Option (Prop × SV)
  | [.p (.agg [.int .i64 p_x, .int .i64 p_y]), .p (.ref [.sl 2 l_n l_g] 0), .p (.ref [.int .i64 far] 0)] => some ((∀ i, i < l_n → l_g i = [.int .i64 ((ofPt (l_g i)).x), .int .i64 ((ofPt (l_g i)).y)]) ∧ p_flat2_p (⟨p_x, p_y⟩ : L.Pt) (⟨l_n, fun i => ofPt (l_g i)⟩ : (L.Sq L.Pt)) far, p_flat2_r (⟨p_x, p_y⟩ : L.Pt) (⟨l_n, fun i => ofPt (l_g i)⟩ : (L.Sq L.Pt)) far)
  | _ => none
abbrev p_flat2_S : SE.Spec := (specO p_flat2_s)
def p_flat2_C : Cfg := { muts := [], frz := lookN [], specs := lookS [(40, p_cross_S)], loops := lookL [], iters := lookI [], rfs := lookR [], nils := lookM [] }
theorem p_flat2_vc (p : L.Pt) (l : (L.Sq L.Pt)) (far : Int) (hp : p_flat2_p p l far) : vc Tryz.prog (p_flat2_C) (bodyOf Tryz.f88) (st0 Tryz.f88 [.p (.agg [.int .i64 p.x, .int .i64 p.y]), .p (.ref [.sl 2 l.n (fun i => [.int .i64 ((l.g i).x), .int .i64 ((l.g i).y)])] 0), .p (.ref [.int .i64 far] 0)]) (retFn Tryz.prog Tryz.f88 (p_flat2_r p l far)) :=
  @Eq.mpr _ (((0 : Int) ≤ (0 : Int) ∧ (0 : Int) < (↑l.n : Int)) ∧ ((0 : Int) ≤ far ∧ far < (↑l.n : Int)) ∧ (L.bd (l.g (Int.toNat (0 : Int))) ∧ L.bd (l.g (Int.toNat far)) ∧ L.bd p) ∧ (!decide (L.cross (l.g (Int.toNat (0 : Int))) (l.g (Int.toNat far)) p = (0 : Int))) = !decide (L.cross (l.g (0 : Nat)) (l.g (Int.toNat far)) p = (0 : Int))) (by kernel_rfl) (by
    obtain ⟨⟨h1, h2⟩, hb, hl⟩ := hp
    exact ⟨⟨Int.le_refl _, by omega⟩, ⟨h1, h2⟩, ⟨hl 0 (by omega), hl far.toNat (by omega), hb⟩, rfl⟩)
theorem p_flat2_ok : SpecOk Tryz.prog 88 p_flat2_S := fnX Tryz.func88 (c := bodyOf Tryz.f88) (by kernel_rfl) mixed (fun args p r hs hp => by
  unfold p_flat2_s at hs
  split at hs
  · cases hs; exact ⟨_, _, p_flat2_vc _ _ _ hp.2, (.same _ (.p (Ext.ref rfl (fun i hi => by
      rcases i with _ | i
      · show Ext (SV.sl _ _ _) (SV.sl _ _ _); exact (Ext.sl hp.1)
      exact absurd hi (by simp; try omega))) (.same _ .nil))), ⟨show SpecsL Tryz.prog _ from (SpecsL.cons p_cross_ok p_cross_en SpecsL.nil), rfl, ⟨show ItersL Tryz.prog _ from ItersL.nil, (TrsOk.none (fun _ => rfl))⟩⟩⟩
  · cases hs)
theorem p_flat2_en : Enters Tryz.prog 88 := fun args w => by kernel_rfl
theorem p_flat2_B : ∀ args p r, p_flat2_s args = some (p, r) → ∃ b, r = .bool b := by
  intro args p r h
  unfold p_flat2_s at h
  split at h
  · cases h; exact ⟨_, rfl⟩
  · cases h
def p_flat_p (l : (L.Sq L.Pt)) : Prop := 1 ≤ l.n ∧ l.n ≤ 1000000 ∧ ∀ k, k < l.n → L.bd (l.g k)
def p_flat_r (l : (L.Sq L.Pt)) : SV := .bool (L.flat l)
def p_flat_s : List EV → Option (Prop × SV)
  | [.p (.sl 2 l_n l_g)] => some ((∀ i, i < l_n → l_g i = [.int .i64 ((ofPt (l_g i)).x), .int .i64 ((ofPt (l_g i)).y)]) ∧ p_flat_p (⟨l_n, fun i => ofPt (l_g i)⟩ : (L.Sq L.Pt)), p_flat_r (⟨l_n, fun i => ofPt (l_g i)⟩ : (L.Sq L.Pt)))
  | _ => none
abbrev p_flat_S : SE.Spec := (specO p_flat_s)
def p_flat_C : Cfg := { muts := [], frz := lookN [(2, [3])], specs := lookS [(86, s_idxFP_S), (80, s_conFP_S), (87, p_flat1_S), (88, p_flat2_S)], loops := lookL [], iters := lookI [], rfs := lookR [], nils := lookM [] }
theorem p_flat_vc (l : (L.Sq L.Pt)) (hp : p_flat_p l) : vc Tryz.prog (p_flat_C) (bodyOf Tryz.f36) (st0 Tryz.f36 [.p (.sl 2 l.n (fun i => [.int .i64 ((l.g i).x), .int .i64 ((l.g i).y)]))]) (retFn Tryz.prog Tryz.f36 (p_flat_r l)) :=
  @Eq.mpr _ (((∀ (i : Nat), i < l.n → [SV.int .i64 (l.g i).x, SV.int .i64 (l.g i).y] = [SV.int .i64 (l.g i).x, SV.int .i64 (l.g i).y]) ∧ isB (FSpec.mk (fun («as» : List SV) ↦ preO p_flat1_s (List.map EV.p «as» ++ List.map EV.p [SV.ref [SV.sl (nat_lit 2) l.n fun (i : Nat) ↦ [SV.int
 .i64 (l.g i).x, SV.int .i64 (l.g i).y]] (nat_lit 0)])) fun («as» : List SV) ↦ resO p_flat1_s (List.map EV.p «as» ++ List.map EV.p [SV.ref [SV.sl (nat_lit 2) l.n fun (i : Nat) ↦ [SV.int .i64 (l.g i).x, SV.int .i64 (l.g i).y]] (nat_lit 0)])) ∧ l.n ≤ (1000000 : Nat) ∧ ∀ (i : Nat), i < l.n → (∀ (i : Nat), i <
 l.n → [SV.int .i64 (l.g i).x, SV.int .i64 (l.g i).y] = [SV.int .i64 (l.g i).x, SV.int .i64 (l.g i).y]) ∧ (1 : Nat) ≤ l.n) ∧ ((!decide ((L.idx l.n fun (i : Nat) ↦ L.fbl (FSpec.mk (fun («as» : List SV) ↦ preO p_flat1_s (List.map EV.p «as» ++ List.map EV.p [SV.ref [SV.sl (nat_lit 2) l.n
 fun (i : Nat) ↦ [SV.int .i64 (l.g i).x, SV.int .i64 (l.g i).y]] (nat_lit 0)])) fun («as» : List SV) ↦ resO p_flat1_s (List.map EV.p «as» ++ List.map EV.p [SV.ref [SV.sl (nat_lit 2) l.n fun (i : Nat) ↦ [SV.int .i64 (l.g i).x, SV.int .i64 (l.g i).y]] (nat_lit 0)])) [SV.agg [SV.int
 .i64 (l.g i).x, SV.int .i64 (l.g i).y]]) < (0 : Int))) = true → (∀ (i : Nat), i < l.n → [SV.int .i64 (l.g i).x, SV.int .i64 (l.g i).y] = [SV.int .i64 (l.g i).x, SV.int .i64 (l.g i).y]) ∧ isB (FSpec.mk (fun («as» : List SV) ↦ preO p_flat2_s (List.map EV.p «as» ++ List.map
 EV.p [SV.ref [SV.sl (nat_lit 2) l.n fun (i : Nat) ↦ [SV.int .i64 (l.g i).x, SV.int .i64 (l.g i).y]] (nat_lit 0), SV.ref [SV.int .i64 (L.idx (L.Sq.mk l.n fun (i : Nat) ↦ ofPt ((fun (i : Nat) ↦ [SV.int .i64 (l.g i).x, SV.int .i64 (l.g i).y]) i)).n fun (i : Nat) ↦ L.fbl (FSpec.mk (fun («as» :
 List SV) ↦ preO p_flat1_s (List.map EV.p «as» ++ List.map EV.p [SV.ref [SV.sl (nat_lit 2) l.n fun (i : Nat) ↦ [SV.int .i64 (l.g i).x, SV.int .i64 (l.g i).y]] (nat_lit 0)])) fun («as» : List SV) ↦ resO p_flat1_s (List.map EV.p «as» ++ List.map EV.p [SV.ref [SV.sl (nat_lit 2) l.n fun (i : Nat) ↦
 [SV.int .i64 (l.g i).x, SV.int .i64 (l.g i).y]] (nat_lit 0)])) [SV.agg [SV.int .i64 ((L.Sq.mk l.n fun (i : Nat) ↦ ofPt ((fun (i : Nat) ↦ [SV.int .i64 (l.g i).x, SV.int .i64 (l.g i).y]) i)).g i).x, SV.int .i64 ((L.Sq.mk l.n fun (i : Nat) ↦ ofPt ((fun (i : Nat) ↦ [SV.int .i64 (l.g
 i).x, SV.int .i64 (l.g i).y]) i)).g i).y]])] (nat_lit 0)])) fun («as» : List SV) ↦ resO p_flat2_s (List.map EV.p «as» ++ List.map EV.p [SV.ref [SV.sl (nat_lit 2) l.n fun (i : Nat) ↦ [SV.int .i64 (l.g i).x, SV.int .i64 (l.g i).y]] (nat_lit 0), SV.ref [SV.int .i64 (L.idx (L.Sq.mk l.n fun (i :
 Nat) ↦ ofPt ((fun (i : Nat) ↦ [SV.int .i64 (l.g i).x, SV.int .i64 (l.g i).y]) i)).n fun (i : Nat) ↦ L.fbl (FSpec.mk (fun («as» : List SV) ↦ preO p_flat1_s (List.map EV.p «as» ++ List.map EV.p [SV.ref [SV.sl (nat_lit 2) l.n fun (i : Nat) ↦ [SV.int .i64 (l.g i).x, SV.int .i64 (l.g i).y]]
 (nat_lit 0)])) fun («as» : List SV) ↦ resO p_flat1_s (List.map EV.p «as» ++ List.map EV.p [SV.ref [SV.sl (nat_lit 2) l.n fun (i : Nat) ↦ [SV.int .i64 (l.g i).x, SV.int .i64 (l.g i).y]] (nat_lit 0)])) [SV.agg [SV.int .i64 ((L.Sq.mk l.n fun (i : Nat) ↦ ofPt ((fun (i : Nat) ↦ [SV.int .i64 (l.g
 i).x, SV.int .i64 (l.g i).y]) i)).g i).x, SV.int .i64 ((L.Sq.mk l.n fun (i : Nat) ↦ ofPt ((fun (i : Nat) ↦ [SV.int .i64 (l.g i).x, SV.int .i64 (l.g i).y]) i)).g i).y]])] (nat_lit 0)])) ∧ l.n ≤ (1000000 : Nat) ∧ ∀ (i : Nat), i < l.n → (∀ (i : Nat), i < l.n → [SV.int .i64 (l.g i).x, SV.int .i64 (l.g i).y]
 = [SV.int .i64 (l.g i).x, SV.int .i64 (l.g i).y]) ∧ (((0 : Int) ≤ L.idx l.n fun (i : Nat) ↦ L.fbl (FSpec.mk (fun («as» : List SV) ↦ preO p_flat1_s (List.map EV.p «as» ++ List.map EV.p [SV.ref [SV.sl (nat_lit 2) l.n fun (i : Nat) ↦ [SV.int .i64 (l.g i).x, SV.int .i64 (l.g i).y]] (nat_lit 0)]))
 fun («as» : List SV) ↦ resO p_flat1_s (List.map EV.p «as» ++ List.map EV.p [SV.ref [SV.sl (nat_lit 2) l.n fun (i : Nat) ↦ [SV.int .i64 (l.g i).x, SV.int .i64 (l.g i).y]] (nat_lit 0)])) [SV.agg [SV.int .i64 (l.g i).x, SV.int .i64 (l.g i).y]]) ∧ (L.idx l.n fun (i : Nat) ↦ L.fbl (FSpec.mk
 (fun («as» : List SV) ↦ preO p_flat1_s (List.map EV.p «as» ++ List.map EV.p [SV.ref [SV.sl (nat_lit 2) l.n fun (i : Nat) ↦ [SV.int .i64 (l.g i).x, SV.int .i64 (l.g i).y]] (nat_lit 0)])) fun («as» : List SV) ↦ resO p_flat1_s (List.map EV.p «as» ++ List.map EV.p [SV.ref [SV.sl (nat_lit 2) l.n fun
 (i : Nat) ↦ [SV.int .i64 (l.g i).x, SV.int .i64 (l.g i).y]] (nat_lit 0)])) [SV.agg [SV.int .i64 (l.g i).x, SV.int .i64 (l.g i).y]]) < (↑l.n : Int)) ∧ L.bd (l.g i) ∧ ∀ (k : Nat), k < l.n → L.bd (l.g k)) ∧ (bif decide ((L.idx l.n fun (i : Nat) ↦ L.fbl (FSpec.mk (fun («as» : List SV) ↦ preO p_flat1_s
 (List.map EV.p «as» ++ List.map EV.p [SV.ref [SV.sl (nat_lit 2) l.n fun (i : Nat) ↦ [SV.int .i64 (l.g i).x, SV.int .i64 (l.g i).y]] (nat_lit 0)])) fun («as» : List SV) ↦ resO p_flat1_s (List.map EV.p «as» ++ List.map EV.p [SV.ref [SV.sl (nat_lit 2) l.n fun (i : Nat) ↦ [SV.int .i64 (l.g i).x,
 SV.int .i64 (l.g i).y]] (nat_lit 0)])) [SV.agg [SV.int .i64 (l.g i).x, SV.int .i64 (l.g i).y]]) < (0 : Int)) then true else !L.anyB l.n fun (i : Nat) ↦ L.fbl (FSpec.mk (fun («as» : List SV) ↦ preO p_flat2_s (List.map EV.p «as» ++ List.map EV.p [SV.ref [SV.sl (nat_lit 2) l.n fun (i : Nat) ↦
 [SV.int .i64 (l.g i).x, SV.int .i64 (l.g i).y]] (nat_lit 0), SV.ref [SV.int .i64 (L.idx (L.Sq.mk l.n fun (i : Nat) ↦ ofPt ((fun (i : Nat) ↦ [SV.int .i64 (l.g i).x, SV.int .i64 (l.g i).y]) i)).n fun (i : Nat) ↦ L.fbl (FSpec.mk (fun («as» : List SV) ↦ preO p_flat1_s (List.map EV.p «as» ++
 List.map EV.p [SV.ref [SV.sl (nat_lit 2) l.n fun (i : Nat) ↦ [SV.int .i64 (l.g i).x, SV.int .i64 (l.g i).y]] (nat_lit 0)])) fun («as» : List SV) ↦ resO p_flat1_s (List.map EV.p «as» ++ List.map EV.p [SV.ref [SV.sl (nat_lit 2) l.n fun (i : Nat) ↦ [SV.int .i64 (l.g i).x, SV.int .i64
 (l.g i).y]] (nat_lit 0)])) [SV.agg [SV.int .i64 ((L.Sq.mk l.n fun (i : Nat) ↦ ofPt ((fun (i : Nat) ↦ [SV.int .i64 (l.g i).x, SV.int .i64 (l.g i).y]) i)).g i).x, SV.int .i64 ((L.Sq.mk l.n fun (i : Nat) ↦ ofPt ((fun (i : Nat) ↦ [SV.int .i64 (l.g i).x, SV.int .i64 (l.g i).y]) i)).g i).y]])] (nat_lit
 0)])) fun («as» : List SV) ↦ resO p_flat2_s (List.map EV.p «as» ++ List.map EV.p [SV.ref [SV.sl (nat_lit 2) l.n fun (i : Nat) ↦ [SV.int .i64 (l.g i).x, SV.int .i64 (l.g i).y]] (nat_lit 0), SV.ref [SV.int .i64 (L.idx (L.Sq.mk l.n fun (i : Nat) ↦ ofPt ((fun (i : Nat) ↦ [SV.int .i64 (l.g i).x,
 SV.int .i64 (l.g i).y]) i)).n fun (i : Nat) ↦ L.fbl (FSpec.mk (fun («as» : List SV) ↦ preO p_flat1_s (List.map EV.p «as» ++ List.map EV.p [SV.ref [SV.sl (nat_lit 2) l.n fun (i : Nat) ↦ [SV.int .i64 (l.g i).x, SV.int .i64 (l.g i).y]] (nat_lit 0)])) fun («as» : List SV) ↦ resO p_flat1_s (List.map
 EV.p «as» ++ List.map EV.p [SV.ref [SV.sl (nat_lit 2) l.n fun (i : Nat) ↦ [SV.int .i64 (l.g i).x, SV.int .i64 (l.g i).y]] (nat_lit 0)])) [SV.agg [SV.int .i64 ((L.Sq.mk l.n fun (i : Nat) ↦ ofPt ((fun (i : Nat) ↦ [SV.int .i64 (l.g i).x, SV.int .i64 (l.g i).y]) i)).g i).x, SV.int
 .i64 ((L.Sq.mk l.n fun (i : Nat) ↦ ofPt ((fun (i : Nat) ↦ [SV.int .i64 (l.g i).x, SV.int .i64 (l.g i).y]) i)).g i).y]])] (nat_lit 0)])) [SV.agg [SV.int .i64 (l.g i).x, SV.int .i64 (l.g i).y]]) = L.flat l) (by kernel_rfl) (by
    obtain ⟨h1, hn, hb⟩ := hp
    refine ⟨⟨fun _ _ => rfl, isB_of p_flat1_B _, hn, fun i hi => ⟨fun _ _ => rfl, h1⟩⟩, fun hf => ?_, rfl⟩
    have hf : (!decide (L.far l < 0)) = true := hf
    have hq := far_lt (of_decide_eq_false (notT hf))
    exact ⟨fun _ _ => rfl, isB_of p_flat2_B _, hn, fun i hi => ⟨fun _ _ => rfl, hq, hb i hi, hb⟩⟩)
theorem p_flat_ok : SpecOk Tryz.prog 36 p_flat_S := fnX Tryz.func36 (c := bodyOf Tryz.f36) (by kernel_rfl) mixed (fun args p r hs hp => by
  unfold p_flat_s at hs
  split at hs
  · cases hs; exact ⟨_, _, p_flat_vc _ hp.2, (.p (.sl hp.1) .nil), ⟨show SpecsL Tryz.prog _ from (SpecsL.cons s_idxFP_ok s_idxFP_en (SpecsL.cons s_conFP_ok s_conFP_en (SpecsL.cons p_flat1_ok p_flat1_en (SpecsL.cons p_flat2_ok p_flat2_en SpecsL.nil)))), rfl, ⟨show ItersL Tryz.prog _ from ItersL.nil, (TrsOk.none (fun _ => rfl))⟩⟩⟩
  · cases hs)
theorem p_flat_en : Enters Tryz.prog 36 := fun args w => by kernel_rfl
def p_Outline_p (l : (L.Sq L.Pt)) : Prop := l.n ≤ 1000000
def p_Outline_r (l : (L.Sq L.Pt)) : SV := .tup [.sl 2 (L.outN l) (fun k => [.int .i64 (((L.norm (L.str l)).g k).x), .int .i64 (((L.norm (L.str l)).g k).y)]), .int .i64 (L.outE l)]
def p_Outline_s : List EV → Option (Prop × SV)
  | [.p (.sl 2 l_n l_g)] => some ((∀ i, i < l_n → l_g i = [.int .i64 ((ofPt (l_g i)).x), .int .i64 ((ofPt (l_g i)).y)]) ∧ p_Outline_p (⟨l_n, fun i => ofPt (l_g i)⟩ : (L.Sq L.Pt)), p_Outline_r (⟨l_n, fun i => ofPt (l_g i)⟩ : (L.Sq L.Pt)))
  | _ => none
abbrev p_Outline_S : SE.Spec := (specO p_Outline_s)
def p_Outline_C : Cfg := { muts := [], frz := lookN [], specs := lookS [(34, p_within_S), (35, p_valid_S), (36, p_flat_S), (37, p_thin_S), (41, p_simple_S), (42, p_normal_S)], loops := lookL [], iters := lookI [], rfs := lookR [], nils := lookM [], raws := [37] }
theorem p_Outline_vc (l : (L.Sq L.Pt)) (hp : p_Outline_p l) : vc Tryz.prog (p_Outline_C) (bodyOf Tryz.f7) (st0 Tryz.f7 [.p (.sl 2 l.n (fun i => [.int .i64 ((l.g i).x), .int .i64 ((l.g i).y)]))]) (retFn Tryz.prog Tryz.f7 (p_Outline_r l)) :=
  @Eq.mpr _ (True ∧ ((!!L.within (↑l.n : Int) (3 : Int) (400 : Int)) = true → (∀ (i : Nat), i < l.n → [SV.int .i64 (l.g i).x, SV.int .i64 (l.g i).y] = [SV.int .i64 (l.g i).x, SV.int .i64 (l.g i).y]) ∧ l.n ≤ (1000000 : Nat)) ∧ ((bif !L.within (↑l.n : Int) (3 : Int) (400 : Int) then true else !L.allB l.n fun (i : Nat) ↦ L.validPt (l.g i))
 = true → L.outN l = (0 : Nat) ∧ (1 : Int) = L.outE l) ∧ ((bif !L.within (↑l.n : Int) (3 : Int) (400 : Int) then true else !L.allB l.n fun (i : Nat) ↦ L.validPt (l.g i)) = false → ((∀ (i : Nat), i < l.n → [SV.int .i64 (l.g i).x, SV.int .i64 (l.g i).y] = [SV.int .i64 (l.g i).x, SV.int .i64 (l.g i).y]) ∧ (1 : Nat) ≤ l.n ∧
 l.n ≤ (1000000 : Nat) ∧ ∀ (k : Nat), k < l.n → L.bd (l.g k)) ∧ (L.flat (L.Sq.mk l.n fun (i : Nat) ↦ l.g i) = true → L.outN l = (0 : Nat) ∧ (11 : Int) = L.outE l) ∧ (L.flat (L.Sq.mk l.n fun (i : Nat) ↦ l.g i) = false → ((∀ (i : Nat), i < l.n → [SV.int .i64 (l.g i).x, SV.int .i64 (l.g i).y] = [SV.int .i64 (l.g i).x, SV.int
 .i64 (l.g i).y]) ∧ ((1 : Nat) ≤ l.n ∧ l.n ≤ (1000 : Nat)) ∧ ∀ (k : Nat), k < l.n → L.bd (l.g k)) ∧ ((∀ (i : Nat), i < (L.thin L.cDup (L.Sq.mk l.n fun (i : Nat) ↦ l.g i)).n → [SV.int .i64 ((L.thin L.cDup (L.Sq.mk l.n fun (i : Nat) ↦ l.g i)).g i).x, SV.int .i64 ((L.thin L.cDup (L.Sq.mk l.n fun (i : Nat) ↦ l.g i)).g i).y] = [SV.int .i64
 ((L.thin L.cDup (L.Sq.mk l.n fun (i : Nat) ↦ l.g i)).g i).x, SV.int .i64 ((L.thin L.cDup (L.Sq.mk l.n fun (i : Nat) ↦ l.g i)).g i).y]) ∧ ((1 : Nat) ≤ (L.thin L.cDup (L.Sq.mk l.n fun (i : Nat) ↦ l.g i)).n ∧ (L.thin L.cDup (L.Sq.mk l.n fun (i : Nat) ↦ l.g i)).n ≤ (1000 : Nat)) ∧ ∀ (k : Nat), k < (L.thin L.cDup (L.Sq.mk l.n fun (i : Nat) ↦ l.g i)).n → L.bd ((L.thin L.cDup (L.Sq.mk l.n
 fun (i : Nat) ↦ l.g i)).g k)) ∧ ((!decide ((↑(L.thin L.cFlat (L.Sq.mk (L.thin L.cDup (L.Sq.mk l.n fun (i : Nat) ↦ l.g i)).n fun (i : Nat) ↦ (L.thin L.cDup (L.Sq.mk l.n fun (i : Nat) ↦ l.g i)).g i)).n : Int) < (3 : Int))) = true → (∀ (i : Nat), i < (L.thin L.cFlat (L.Sq.mk (L.thin L.cDup (L.Sq.mk l.n fun (i : Nat) ↦ l.g i)).n fun (i : Nat) ↦ (L.thin L.cDup (L.Sq.mk l.n fun (i : Nat)
 ↦ l.g i)).g i)).n → [SV.int .i64 ((L.thin L.cFlat (L.Sq.mk (L.thin L.cDup (L.Sq.mk l.n fun (i : Nat) ↦ l.g i)).n fun (i : Nat) ↦ (L.thin L.cDup (L.Sq.mk l.n fun (i : Nat) ↦ l.g i)).g i)).g i).x, SV.int .i64 ((L.thin L.cFlat (L.Sq.mk (L.thin L.cDup (L.Sq.mk l.n fun (i : Nat) ↦ l.g i)).n fun (i : Nat) ↦ (L.thin L.cDup (L.Sq.mk l.n fun (i : Nat) ↦ l.g i)).g i)).g i).y]
 = [SV.int .i64 ((L.thin L.cFlat (L.Sq.mk (L.thin L.cDup (L.Sq.mk l.n fun (i : Nat) ↦ l.g i)).n fun (i : Nat) ↦ (L.thin L.cDup (L.Sq.mk l.n fun (i : Nat) ↦ l.g i)).g i)).g i).x, SV.int .i64 ((L.thin L.cFlat (L.Sq.mk (L.thin L.cDup (L.Sq.mk l.n fun (i : Nat) ↦ l.g i)).n fun (i : Nat) ↦ (L.thin L.cDup (L.Sq.mk l.n fun (i : Nat) ↦ l.g i)).g i)).g i).y]) ∧ L.allBd
 (L.Sq.mk (L.thin L.cFlat (L.Sq.mk (L.thin L.cDup (L.Sq.mk l.n fun (i : Nat) ↦ l.g i)).n fun (i : Nat) ↦ (L.thin L.cDup (L.Sq.mk l.n fun (i : Nat) ↦ l.g i)).g i)).n fun (i : Nat) ↦ (L.thin L.cFlat (L.Sq.mk (L.thin L.cDup (L.Sq.mk l.n fun (i : Nat) ↦ l.g i)).n fun (i : Nat) ↦ (L.thin L.cDup (L.Sq.mk l.n fun (i : Nat) ↦ l.g i)).g i)).g i)) ∧ ((bif decide ((↑(L.thin L.cFlat (L.Sq.mk (L.thin
 L.cDup (L.Sq.mk l.n fun (i : Nat) ↦ l.g i)).n fun (i : Nat) ↦ (L.thin L.cDup (L.Sq.mk l.n fun (i : Nat) ↦ l.g i)).g i)).n : Int) < (3 : Int)) then true else !L.simple (L.Sq.mk (L.thin L.cFlat (L.Sq.mk (L.thin L.cDup (L.Sq.mk l.n fun (i : Nat) ↦ l.g i)).n fun (i : Nat) ↦ (L.thin L.cDup (L.Sq.mk l.n fun (i : Nat) ↦ l.g i)).g i)).n fun (i : Nat) ↦ (L.thin L.cFlat (L.Sq.mk (L.thin L.cDup (L.Sq.mk
 l.n fun (i : Nat) ↦ l.g i)).n fun (i : Nat) ↦ (L.thin L.cDup (L.Sq.mk l.n fun (i : Nat) ↦ l.g i)).g i)).g i)) = true → L.outN l = (0 : Nat) ∧ (10 : Int) = L.outE l) ∧ ((bif decide ((↑(L.thin L.cFlat (L.Sq.mk (L.thin L.cDup (L.Sq.mk l.n fun (i : Nat) ↦ l.g i)).n fun (i : Nat) ↦ (L.thin L.cDup (L.Sq.mk l.n fun (i : Nat) ↦ l.g i)).g i)).n : Int) < (3 : Int)) then true else
 !L.simple (L.Sq.mk (L.thin L.cFlat (L.Sq.mk (L.thin L.cDup (L.Sq.mk l.n fun (i : Nat) ↦ l.g i)).n fun (i : Nat) ↦ (L.thin L.cDup (L.Sq.mk l.n fun (i : Nat) ↦ l.g i)).g i)).n fun (i : Nat) ↦ (L.thin L.cFlat (L.Sq.mk (L.thin L.cDup (L.Sq.mk l.n fun (i : Nat) ↦ l.g i)).n fun (i : Nat) ↦ (L.thin L.cDup (L.Sq.mk l.n fun (i : Nat) ↦ l.g i)).g i)).g i)) = false → (decide ((24 : Int) <
 (↑(L.thin L.cFlat (L.Sq.mk (L.thin L.cDup (L.Sq.mk l.n fun (i : Nat) ↦ l.g i)).n fun (i : Nat) ↦ (L.thin L.cDup (L.Sq.mk l.n fun (i : Nat) ↦ l.g i)).g i)).n : Int)) = true → L.outN l = (0 : Nat) ∧ (2 : Int) = L.outE l) ∧ (decide ((24 : Int) < (↑(L.thin L.cFlat (L.Sq.mk (L.thin L.cDup (L.Sq.mk l.n fun (i : Nat) ↦ l.g i)).n fun (i : Nat) ↦ (L.thin L.cDup (L.Sq.mk l.n fun (i : Nat) ↦
 l.g i)).g i)).n : Int)) = false → ((∀ (i : Nat), i < (L.thin L.cFlat (L.Sq.mk (L.thin L.cDup (L.Sq.mk l.n fun (i : Nat) ↦ l.g i)).n fun (i : Nat) ↦ (L.thin L.cDup (L.Sq.mk l.n fun (i : Nat) ↦ l.g i)).g i)).n → [SV.int .i64 ((L.thin L.cFlat (L.Sq.mk (L.thin L.cDup (L.Sq.mk l.n fun (i : Nat) ↦ l.g i)).n fun (i : Nat) ↦ (L.thin L.cDup (L.Sq.mk l.n fun (i : Nat) ↦ l.g i)).g i)).g
 i).x, SV.int .i64 ((L.thin L.cFlat (L.Sq.mk (L.thin L.cDup (L.Sq.mk l.n fun (i : Nat) ↦ l.g i)).n fun (i : Nat) ↦ (L.thin L.cDup (L.Sq.mk l.n fun (i : Nat) ↦ l.g i)).g i)).g i).y] = [SV.int .i64 ((L.thin L.cFlat (L.Sq.mk (L.thin L.cDup (L.Sq.mk l.n fun (i : Nat) ↦ l.g i)).n fun (i : Nat) ↦ (L.thin L.cDup (L.Sq.mk l.n fun (i : Nat) ↦ l.g i)).g i)).g i).x,
 SV.int .i64 ((L.thin L.cFlat (L.Sq.mk (L.thin L.cDup (L.Sq.mk l.n fun (i : Nat) ↦ l.g i)).n fun (i : Nat) ↦ (L.thin L.cDup (L.Sq.mk l.n fun (i : Nat) ↦ l.g i)).g i)).g i).y]) ∧ L.small (L.Sq.mk (L.thin L.cFlat (L.Sq.mk (L.thin L.cDup (L.Sq.mk l.n fun (i : Nat) ↦ l.g i)).n fun (i : Nat) ↦ (L.thin L.cDup (L.Sq.mk l.n fun (i : Nat) ↦ l.g i)).g i)).n fun (i : Nat) ↦ (L.thin L.cFlat
 (L.Sq.mk (L.thin L.cDup (L.Sq.mk l.n fun (i : Nat) ↦ l.g i)).n fun (i : Nat) ↦ (L.thin L.cDup (L.Sq.mk l.n fun (i : Nat) ↦ l.g i)).g i)).g i) ∧ (1 : Nat) ≤ (L.thin L.cFlat (L.Sq.mk (L.thin L.cDup (L.Sq.mk l.n fun (i : Nat) ↦ l.g i)).n fun (i : Nat) ↦ (L.thin L.cDup (L.Sq.mk l.n fun (i : Nat) ↦ l.g i)).g i)).n) ∧ ∀ (t : Nat), True → ((L.thin L.cFlat (L.Sq.mk (L.thin L.cDup (L.Sq.mk l.n fun (i :
 Nat) ↦ l.g i)).n fun (i : Nat) ↦ (L.thin L.cDup (L.Sq.mk l.n fun (i : Nat) ↦ l.g i)).g i)).n = L.outN l ∧ ∀ (i : Nat), i < (L.thin L.cFlat (L.Sq.mk (L.thin L.cDup (L.Sq.mk l.n fun (i : Nat) ↦ l.g i)).n fun (i : Nat) ↦ (L.thin L.cDup (L.Sq.mk l.n fun (i : Nat) ↦ l.g i)).g i)).n → [SV.int .i64 ((L.norm (L.Sq.mk (L.thin L.cFlat (L.Sq.mk (L.thin L.cDup (L.Sq.mk l.n fun (i : Nat) ↦ l.g
 i)).n fun (i : Nat) ↦ (L.thin L.cDup (L.Sq.mk l.n fun (i : Nat) ↦ l.g i)).g i)).n fun (i : Nat) ↦ (L.thin L.cFlat (L.Sq.mk (L.thin L.cDup (L.Sq.mk l.n fun (i : Nat) ↦ l.g i)).n fun (i : Nat) ↦ (L.thin L.cDup (L.Sq.mk l.n fun (i : Nat) ↦ l.g i)).g i)).g i)).g i).x, SV.int .i64 ((L.norm (L.Sq.mk (L.thin L.cFlat (L.Sq.mk (L.thin L.cDup (L.Sq.mk l.n fun (i : Nat) ↦ l.g i)).n fun (i :
 Nat) ↦ (L.thin L.cDup (L.Sq.mk l.n fun (i : Nat) ↦ l.g i)).g i)).n fun (i : Nat) ↦ (L.thin L.cFlat (L.Sq.mk (L.thin L.cDup (L.Sq.mk l.n fun (i : Nat) ↦ l.g i)).n fun (i : Nat) ↦ (L.thin L.cDup (L.Sq.mk l.n fun (i : Nat) ↦ l.g i)).g i)).g i)).g i).y] = [SV.int .i64 ((L.norm (L.str l)).g i).x, SV.int .i64 ((L.norm (L.str l)).g i).y]) ∧ (0 : Int) = L.outE l))))) (by kernel_rfl) (by
    have hn : l.n ≤ 1000000 := hp
    refine ⟨trivial, fun _ => ⟨fun _ _ => rfl, hn⟩, fun h => ?_, fun h => ?_⟩
    · have h : (bif !L.within (l.n : Int) 3 400 then true else !L.validPts l) = true := h
      have e : L.outE l = 1 := by unfold L.outE; rw [h]; rfl
      unfold L.outN; rw [e]; exact ⟨rfl, rfl⟩
    have h0 : (bif !L.within (l.n : Int) 3 400 then true else !L.validPts l) = false := h
    obtain ⟨n3, n400, hv⟩ := out_of h0
    have hb : ∀ k, k < l.n → L.bd (l.g k) := fun k hk => bd_of_valid (allB_iff.1 hv k hk)
    refine ⟨⟨fun _ _ => rfl, by omega, hn, hb⟩, fun hf => ?_, fun hf => ?_⟩
    · have e : L.outE l = 11 := by unfold L.outE; rw [h0, hf]; rfl
      unfold L.outN; rw [e]; exact ⟨rfl, rfl⟩
    have ha : L.allBd l := ⟨by omega, hb⟩
    have h2 : L.two2 l := flat_two (l := l) hf (by omega)
    have ha1 := thin_allBd (c := L.cDup) (x := l) ha
    have t2 := two2_n (thin_two (x := l) h2)
    have ha2 : L.allBd (L.str l) := thin_allBd (c := L.cFlat) (x := L.thin L.cDup l) ha1
    refine ⟨⟨fun _ _ => rfl, ⟨by omega, by omega⟩, hb⟩, ⟨fun _ _ => rfl, ⟨show 1 ≤ (L.thin L.cDup l).n by omega, ha1.1⟩, ha1.2⟩, fun _ => ⟨fun _ _ => rfl, ha2⟩, fun h3 => ?_, fun h3 => ?_⟩
    · have h3 : (bif decide (((L.str l).n : Int) < 3) then true else !L.simple (L.str l)) = true := h3
      have e : L.outE l = 10 := by unfold L.outE; rw [h0, hf, h3]; rfl
      unfold L.outN; rw [e]; exact ⟨rfl, rfl⟩
    have h3 : (bif decide (((L.str l).n : Int) < 3) then true else !L.simple (L.str l)) = false := h3
    have m3 : 3 ≤ (L.str l).n := by
      have h := h3
      rw [bor, Bool.or_eq_false_iff] at h
      have := of_decide_eq_false h.1
      omega
    refine ⟨fun h4 => ?_, fun h4 => ?_⟩
    · have h4 : decide ((24 : Int) < ((L.str l).n : Int)) = true := h4
      have e : L.outE l = 2 := by unfold L.outE; rw [h0, hf, h3, h4]; rfl
      unfold L.outN; rw [e]; exact ⟨rfl, rfl⟩
    have h4 : decide ((24 : Int) < ((L.str l).n : Int)) = false := h4
    have m24 := of_decide_eq_false h4
    have e : L.outE l = 0 := by unfold L.outE; rw [h0, hf, h3, h4]; rfl
    have eN : (L.str l).n = L.outN l := by unfold L.outN; rw [e]; rfl
    exact ⟨⟨fun _ _ => rfl, ha2, by show 1 ≤ (L.str l).n; omega⟩, fun _ _ => ⟨⟨eN, fun _ _ => rfl⟩, e.symm⟩⟩)
theorem p_Outline_ok : SpecOk Tryz.prog 7 p_Outline_S := fnX Tryz.func7 (c := bodyOf Tryz.f7) (by kernel_rfl) mixed (fun args p r hs hp => by
  unfold p_Outline_s at hs
  split at hs
  · cases hs; exact ⟨_, _, p_Outline_vc _ hp.2, (.p (.sl hp.1) .nil), ⟨show SpecsL Tryz.prog _ from (SpecsL.cons p_within_ok p_within_en (SpecsL.cons p_valid_ok p_valid_en (SpecsL.cons p_flat_ok p_flat_en (SpecsL.cons p_thin_ok p_thin_en (SpecsL.cons p_simple_ok p_simple_en (SpecsL.cons p_normal_ok p_normal_en SpecsL.nil)))))), rfl, ⟨show ItersL Tryz.prog _ from ItersL.nil, (TrsOk.none (fun _ => rfl))⟩⟩⟩
  · cases hs)
theorem p_Outline_en : Enters Tryz.prog 7 := fun args w => by kernel_rfl
def r1_without_p (l : (L.Sq L.Pt)) (i : Int) : Prop := 0 ≤ i ∧ i < l.n ∧ l.n ≤ 1000000
def r1_without_r (l : (L.Sq L.Pt)) (i : Int) : SV := .sl 2 (l.n - 1) (fun k => [.int .i64 ((L.delF l.g i.toNat l.n k).x), .int .i64 ((L.delF l.g i.toNat l.n k).y)])
def r1_without_s : List EV → Option (Prop × SV)
  | [.p (.sl 2 l_n l_g), .p (.int .i64 i)] => some ((∀ i, i < l_n → l_g i = [.int .i64 ((ofPt (l_g i)).x), .int .i64 ((ofPt (l_g i)).y)]) ∧ r1_without_p (⟨l_n, fun i => ofPt (l_g i)⟩ : (L.Sq L.Pt)) i, r1_without_r (⟨l_n, fun i => ofPt (l_g i)⟩ : (L.Sq L.Pt)) i)
  | _ => none
abbrev r1_without_S : SE.Spec := (specO r1_without_s)
def r1_without_C : Cfg := { muts := [], frz := lookN [], specs := lookS [], loops := lookL [], iters := lookI [], rfs := lookR [], nils := lookM [(2, [(5, 10, 38, 2)])] }
theorem r1_without_vc (l : (L.Sq L.Pt)) (i : Int) (hp : r1_without_p l i) : vc Tryz.prog (r1_without_C) (bodyOf Tryz.f94) (st0 Tryz.f94 [.p (.sl 2 l.n (fun i => [.int .i64 ((l.g i).x), .int .i64 ((l.g i).y)])), .p (.int .i64 i)]) (retFn Tryz.prog Tryz.f94 (r1_without_r l i)) :=
  @Eq.mpr _ (((0 : Int) ≤ (0 : Int) ∧ (0 : Int) ≤ i ∧ i ≤ (↑l.n : Int)) ∧ (nat_lit 0 + Int.toNat (i - (0 : Int))) * nat_lit 16 ≤ (140737488355328 : Nat) ∧ InK .i64 (i + (1 : Int)) ∧ ((0 : Int) ≤ i + (1 : Int) ∧ i + (1 : Int) ≤ (↑l.n : Int) ∧ (↑l.n : Int) ≤ (↑l.n : Int)) ∧ (nat_lit 0 + Int.toNat (i - (0 : Int)) + Int.toNat ((↑l.n : Int) - (i + (1 : Int)))) * nat_lit 16 ≤ (140737488355328 : Nat)
 ∧ nat_lit 0 + Int.toNat (i - (0 : Int)) + Int.toNat ((↑l.n : Int) - (i + (1 : Int))) = l.n - (1 : Nat) ∧ ∀ (i_1 : Nat), i_1 < nat_lit 0 + Int.toNat (i - (0 : Int)) + Int.toNat ((↑l.n : Int) - (i + (1 : Int))) → appGet (nat_lit 0 + Int.toNat (i - (0 : Int))) (appGet (nat_lit 0) (fun (x : Nat) ↦ []) fun (i : Nat) ↦ [SV.int .i64 (l.g (Int.toNat (0 : Int) + i)).x,
 SV.int .i64 (l.g (Int.toNat (0 : Int) + i)).y]) (fun (i_2 : Nat) ↦ [SV.int .i64 (l.g (Int.toNat (i + (1 : Int)) + i_2)).x, SV.int .i64 (l.g (Int.toNat (i + (1 : Int)) + i_2)).y]) i_1 = [SV.int .i64 (L.delF l.g (Int.toNat i) l.n i_1).x, SV.int .i64 (L.delF l.g (Int.toNat i) l.n i_1).y]) (by kernel_rfl) (by
    obtain ⟨h0, h1, hn⟩ := hp
    obtain ⟨k, rfl⟩ : ∃ k : Nat, i = (k : Int) := ⟨i.toNat, by omega⟩
    have e1 : ((k : Int) - 0).toNat = k := by omega
    have e2 : ((l.n : Int) - ((k : Int) + 1)).toNat = l.n - k - 1 := by omega
    have e3 : ((k : Int) + 1).toNat = k + 1 := by omega
    refine ⟨⟨Int.le_refl _, h0, by omega⟩, show (0 + ((k : Int) - 0).toNat) * 16 ≤ 140737488355328 by rw [e1]; omega, InK.of (by omega) (by omega), ⟨by omega, by omega, Int.le_refl _⟩, show (0 + ((k : Int) - 0).toNat + ((l.n : Int) - ((k : Int) + 1)).toNat) * 16 ≤ 140737488355328 by rw [e1, e2]; omega, show 0 + ((k : Int) - 0).toNat + ((l.n : Int) - ((k : Int) + 1)).toNat = l.n - 1 by rw [e1, e2]; omega, fun j hj => ?_⟩
    have hj : j < 0 + ((k : Int) - 0).toNat + ((l.n : Int) - ((k : Int) + 1)).toNat := hj
    rw [e1, e2] at hj
    rw [e1, e3]
    unfold appGet
    rw [Nat.zero_add]
    have d : L.delF l.g ((k : Int)).toNat l.n j = bif decide (j < k) then l.g j else l.g (j + 1) := by
      rw [Int.toNat_natCast]
      unfold L.delF
      rw [decide_eq_true (show j + 1 < l.n by omega)]
      rfl
    rw [d]
    by_cases h : j < k
    · rw [if_pos h, decide_eq_true h, if_neg (Nat.not_lt_zero j)]
      show [SV.int _ (l.g (0 + (j - 0))).x, SV.int _ (l.g (0 + (j - 0))).y] = _
      rw [Nat.zero_add, Nat.sub_zero]; rfl
    · rw [if_neg h, decide_eq_false h]
      show [SV.int _ (l.g (k + 1 + (j - k))).x, SV.int _ (l.g (k + 1 + (j - k))).y] = [SV.int _ (l.g (j + 1)).x, SV.int _ (l.g (j + 1)).y]
      rw [show k + 1 + (j - k) = j + 1 by omega])
theorem r1_without_ok : SpecOk Tryz.prog 94 r1_without_S := fnX Tryz.func94 (c := bodyOf Tryz.f94) (by kernel_rfl) mixed (fun args p r hs hp => by
  unfold r1_without_s at hs
  split at hs
  · cases hs; exact ⟨_, _, r1_without_vc _ _ hp.2, (.p (.sl hp.1) (.same _ .nil)), ⟨show SpecsL Tryz.prog _ from SpecsL.nil, rfl, ⟨show ItersL Tryz.prog _ from ItersL.nil, (TrsOk.none (fun _ => rfl))⟩⟩⟩
  · cases hs)
theorem r1_without_en : Enters Tryz.prog 94 := fun args w => by kernel_rfl
def r1_flat_p (l : (L.Sq L.Pt)) : Prop := 1 ≤ l.n ∧ l.n ≤ 1000000 ∧ ∀ k, k < l.n → L.bd (l.g k)
def r1_flat_r (l : (L.Sq L.Pt)) : SV := .bool (L.flat l)
def r1_flat_s : List EV → Option (Prop × SV)
  | [.p (.sl 2 l_n l_g)] => some ((∀ i, i < l_n → l_g i = [.int .i64 ((ofPt (l_g i)).x), .int .i64 ((ofPt (l_g i)).y)]) ∧ r1_flat_p (⟨l_n, fun i => ofPt (l_g i)⟩ : (L.Sq L.Pt)), r1_flat_r (⟨l_n, fun i => ofPt (l_g i)⟩ : (L.Sq L.Pt)))
  | _ => none
abbrev r1_flat_S : SE.Spec := (specO r1_flat_s)
def r1_flat_C : Cfg := { muts := [], frz := lookN [], specs := lookS [(31, r1_Cross_S)], loops := fun _ => none, iters := lookI [], rfs := lookR [], nils := lookM [] }
theorem r1_flat_vc (l : (L.Sq L.Pt)) (hp : r1_flat_p l) : vc Tryz.prog ({ r1_flat_C with loops := lookL [(2, { T := Nat, keep := [0], keepO := [], chg := fun i => [(3, .p (.int .i64 (i : Int)))], own := fun _ => [], inv := fun i => i ≤ l.n ∧ (1 ≤ i → ∀ j, j < l.n → l.g j = l.g 0), mu := fun i => l.n - i }), (5, { T := Nat × Nat, keep := [0, 3], keepO := [], tie := fun g => [(3, .int .i64 (g.1 : Int))], chg := fun g => [(4, .p (.int .i64 (g.2 : Int)))], own := fun _ => [], inv := fun g => g.1 < g.2 ∧ g.2 ≤ l.n ∧ (1 ≤ g.1 → ∀ j, j < l.n → l.g j = l.g 0) ∧ ∀ j, g.1 ≤ j → j < g.2 → l.g j = l.g g.1, mu := fun g => l.n - g.2 }), (9, { T := Nat × Nat × Nat, keep := [0, 3, 4], keepO := [], tie := fun g => [(3, .int .i64 (g.1 : Int)), (4, .int .i64 (g.2.1 : Int))], chg := fun g => [(5, .p (.int .i64 (g.2.2 : Int)))], own := fun _ => [], inv := fun g => g.1 = 0 ∧ (0 < g.2.1 ∧ g.2.1 < l.n) ∧ L.far l = (g.2.1 : Int) ∧ g.2.2 ≤ l.n ∧ ∀ j, j < g.2.2 → L.cross (l.g 0) (l.g g.2.1) (l.g j) = 0, mu := fun g => l.n - g.2.2 })], rfs := lookR [] }) (bodyOf Tryz.f44) (st0 Tryz.f44 [.p (.sl 2 l.n (fun i => [.int .i64 ((l.g i).x), .int .i64 ((l.g i).y)]))]) (retFn Tryz.prog Tryz.f44 (r1_flat_r l)) :=
  @Eq.mpr _ ((∃ (g : Nat), (0 : Int) = (↑g : Int) ∧ g ≤ l.n ∧ ((1 : Nat) ≤ g → ∀ (j : Nat), j < l.n → l.g j = l.g (0 : Nat))) ∧ ∀ (g : Nat), g ≤ l.n ∧ ((1 : Nat) ≤ g → ∀ (j : Nat), j < l.n → l.g j = l.g (0 : Nat)) → (decide ((↑g : Int) < (↑l.n : Int)) = true → InK .i64 ((↑g : Int) + (1 : Int)) ∧ (∃ (g_1 : Nat × Nat), (↑g : Int) + (1 : Int) = (↑g_1.2 : Int) ∧ (↑g : Int) = (↑g_1.1
 : Int) ∧ g_1.1 < g_1.2 ∧ g_1.2 ≤ l.n ∧ ((1 : Nat) ≤ g_1.1 → ∀ (j : Nat), j < l.n → l.g j = l.g (0 : Nat)) ∧ ∀ (j : Nat), g_1.1 ≤ j → j < g_1.2 → l.g j = l.g g_1.1) ∧ ∀ (g_1 : Nat × Nat), ((↑g : Int) = (↑g_1.1 : Int) ∧ g_1.1 < g_1.2 ∧ g_1.2 ≤ l.n ∧ ((1 : Nat) ≤ g_1.1 → ∀ (j : Nat), j < l.n → l.g j = l.g (0 : Nat)) ∧ ∀ (j : Nat), g_1.1 ≤ j → j < g_1.2 → l.g j = l.g g_1.1) → (decide
 ((↑g_1.2 : Int) < (↑l.n : Int)) = true → ((0 : Int) ≤ (↑g : Int) ∧ (↑g : Int) < (↑l.n : Int)) ∧ ((0 : Int) ≤ (↑g_1.2 : Int) ∧ (↑g_1.2 : Int) < (↑l.n : Int)) ∧ ((decide ((l.g (Int.toNat (↑g : Int))).x = (l.g (Int.toNat (↑g_1.2 : Int))).x) && decide ((l.g (Int.toNat (↑g : Int))).y = (l.g (Int.toNat (↑g_1.2 : Int))).y)) = true → InK .i64 ((↑g_1.2 : Int) +
 (1 : Int)) ∧ ∃ (g' : Nat × Nat), (↑g_1.2 : Int) + (1 : Int) = (↑g'.2 : Int) ∧ (↑g : Int) = (↑g : Int) ∧ (l.n = l.n ∧ ∀ (i : Nat), i < l.n → [SV.int .i64 (l.g i).x, SV.int .i64 (l.g i).y] = [SV.int .i64 (l.g i).x, SV.int .i64 (l.g i).y]) ∧ ((↑g : Int) = (↑g'.1 : Int) ∧ g'.1 < g'.2 ∧ g'.2 ≤ l.n ∧ ((1 : Nat) ≤ g'.1 → ∀ (j : Nat), j < l.n
 → l.g j = l.g (0 : Nat)) ∧ ∀ (j : Nat), g'.1 ≤ j → j < g'.2 → l.g j = l.g g'.1) ∧ l.n - g'.2 < l.n - g_1.2) ∧ ((decide ((l.g (Int.toNat (↑g : Int))).x = (l.g (Int.toNat (↑g_1.2 : Int))).x) && decide ((l.g (Int.toNat (↑g : Int))).y = (l.g (Int.toNat (↑g_1.2 : Int))).y)) = false → (∃ (g_2 : Nat × Nat × Nat), (0 : Int) = (↑g_2.2.2 : Int) ∧ (↑g : Int) = (↑g_2.1 : Int) ∧
 (↑g_1.2 : Int) = (↑g_2.2.1 : Int) ∧ g_2.1 = (0 : Nat) ∧ ((0 : Nat) < g_2.2.1 ∧ g_2.2.1 < l.n) ∧ L.far l = (↑g_2.2.1 : Int) ∧ g_2.2.2 ≤ l.n ∧ ∀ (j : Nat), j < g_2.2.2 → L.cross (l.g (0 : Nat)) (l.g g_2.2.1) (l.g j) = (0 : Int)) ∧ ∀ (g_2 : Nat × Nat × Nat), ((↑g : Int) = (↑g_2.1 : Int) ∧ (↑g_1.2 : Int) = (↑g_2.2.1 : Int) ∧ g_2.1 = (0 : Nat) ∧ ((0 : Nat) < g_2.2.1 ∧ g_2.2.1 < l.n) ∧ L.far l =
 (↑g_2.2.1 : Int) ∧ g_2.2.2 ≤ l.n ∧ ∀ (j : Nat), j < g_2.2.2 → L.cross (l.g (0 : Nat)) (l.g g_2.2.1) (l.g j) = (0 : Int)) → (decide ((↑g_2.2.2 : Int) < (↑l.n : Int)) = true → ((0 : Int) ≤ (↑g : Int) ∧ (↑g : Int) < (↑l.n : Int)) ∧ ((0 : Int) ≤ (↑g_1.2 : Int) ∧ (↑g_1.2 : Int) < (↑l.n : Int)) ∧ ((0 : Int) ≤ (↑g_2.2.2 : Int) ∧ (↑g_2.2.2 : Int) < (↑l.n : Int)) ∧ (L.bd (l.g (Int.toNat (↑g
 : Int))) ∧ L.bd (l.g (Int.toNat (↑g_1.2 : Int))) ∧ L.bd (l.g (Int.toNat (↑g_2.2.2 : Int)))) ∧ ((!decide (L.cross (l.g (Int.toNat (↑g : Int))) (l.g (Int.toNat (↑g_1.2 : Int))) (l.g (Int.toNat (↑g_2.2.2 : Int))) = (0 : Int))) = true → false = L.flat l) ∧ ((!decide (L.cross (l.g (Int.toNat (↑g : Int))) (l.g (Int.toNat (↑g_1.2 : Int))) (l.g (Int.toNat (↑g_2.2.2 : Int))) =
 (0 : Int))) = false → InK .i64 ((↑g_2.2.2 : Int) + (1 : Int)) ∧ ∃ (g' : Nat × Nat × Nat), (↑g_2.2.2 : Int) + (1 : Int) = (↑g'.2.2 : Int) ∧ (↑g_1.2 : Int) = (↑g_1.2 : Int) ∧ (↑g : Int) = (↑g : Int) ∧ (l.n = l.n ∧ ∀ (i : Nat), i < l.n → [SV.int .i64 (l.g i).x, SV.int .i64 (l.g i).y] = [SV.int .i64 (l.g i).x, SV.int
 .i64 (l.g i).y]) ∧ ((↑g : Int) = (↑g'.1 : Int) ∧ (↑g_1.2 : Int) = (↑g'.2.1 : Int) ∧ g'.1 = (0 : Nat) ∧ ((0 : Nat) < g'.2.1 ∧ g'.2.1 < l.n) ∧ L.far l = (↑g'.2.1 : Int) ∧ g'.2.2 ≤ l.n ∧ ∀ (j : Nat), j < g'.2.2 → L.cross (l.g (0 : Nat)) (l.g g'.2.1) (l.g j) = (0 : Int)) ∧ l.n - g'.2.2 < l.n - g_2.2.2)) ∧ (decide ((↑g_2.2.2 : Int) < (↑l.n : Int)) = false → true = L.flat
 l))) ∧ (decide ((↑g_1.2 : Int) < (↑l.n : Int)) = false → InK .i64 ((↑g : Int) + (1 : Int)) ∧ ∃ (g' : Nat), (↑g : Int) + (1 : Int) = (↑g' : Int) ∧ (l.n = l.n ∧ ∀ (i : Nat), i < l.n → [SV.int .i64 (l.g i).x, SV.int .i64 (l.g i).y] = [SV.int .i64 (l.g i).x, SV.int .i64 (l.g i).y]) ∧ (g' ≤ l.n ∧ ((1 : Nat) ≤
 g' → ∀ (j : Nat), j < l.n → l.g j = l.g (0 : Nat))) ∧ l.n - g' < l.n - g)) ∧ (decide ((↑g : Int) < (↑l.n : Int)) = false → true = L.flat l)) (by kernel_rfl) (by
    obtain ⟨h1, hn, hb⟩ := hp
    refine ⟨⟨0, rfl, Nat.zero_le _, fun h => absurd h (by decide)⟩, fun g hg => ⟨fun hlt => ?_, fun hge => ?_⟩⟩
    rotate_left
    · have hge : ¬ (g : Int) < (l.n : Int) := of_decide_eq_false hge
      exact (flat_all (hg.2 (by omega))).symm
    have hlt : (g : Int) < (l.n : Int) := of_decide_eq_true hlt
    refine ⟨InK.of (by omega) (by omega), ⟨(g, g + 1), by show (g : Int) + 1 = ((g + 1 : Nat) : Int); omega, rfl, Nat.lt_succ_self g, by show g + 1 ≤ l.n; omega, hg.2, fun j q1 q2 => ?_⟩, ?_⟩
    · have q1 : g ≤ j := q1
      have q2 : j < g + 1 := q2
      rw [show j = g by omega]
    rintro ⟨i, k⟩ ⟨e, hik, hkn, ha, hs⟩
    have e : (g : Int) = (i : Int) := e
    obtain rfl : g = i := by omega
    have hik : g < k := hik
    have hkn : k ≤ l.n := hkn
    have ha : 1 ≤ g → ∀ j, j < l.n → l.g j = l.g 0 := ha
    have hs : ∀ j, g ≤ j → j < k → l.g j = l.g g := hs
    refine ⟨fun hk => ?_, fun hk => ?_⟩
    rotate_left
    · have hk : ¬ (k : Int) < (l.n : Int) := of_decide_eq_false hk
      refine ⟨InK.of (by omega) (by omega), g + 1, by omega, ⟨rfl, fun _ _ => rfl⟩, ⟨by omega, fun _ j hj => ?_⟩, by omega⟩
      rcases Nat.eq_zero_or_pos g with h | h
      · subst h; exact hs j (Nat.zero_le _) (by omega)
      · exact ha h j hj
    have hkl : (k : Int) < (l.n : Int) := of_decide_eq_true hk
    clear hk
    refine ⟨⟨Int.natCast_nonneg _, hlt⟩, ⟨Int.natCast_nonneg _, hkl⟩, fun h => ?_, fun h => ?_⟩
    · have e : L.same (l.g g) (l.g k) = true := h
      refine ⟨show InK .i64 ((k : Int) + 1) from InK.of (by omega) (by omega), (g, k + 1), by show (k : Int) + 1 = ((k + 1 : Nat) : Int); omega, rfl, ⟨rfl, fun _ _ => rfl⟩, ⟨rfl, by show g < k + 1; omega, by show k + 1 ≤ l.n; omega, ha, fun j q1 q2 => ?_⟩, by show l.n - (k + 1) < l.n - k; omega⟩
      have q2 : j < k + 1 := q2
      rcases Nat.lt_succ_iff_lt_or_eq.1 q2 with h | rfl
      · exact hs j q1 h
      · exact (same_eq e).symm
    have e : L.same (l.g g) (l.g k) = false := h
    have hne : l.g g ≠ l.g k := fun q => by rw [q, same_refl] at e; cases e
    have hg0 : g = 0 := by
      rcases Nat.eq_zero_or_pos g with h | h
      · exact h
      · exact absurd ((ha h g (by omega)).trans (ha h k (by omega)).symm) hne
    subst hg0
    have hf : L.far l = (k : Int) := far_at (by omega) (fun j hj => hs j (Nat.zero_le _) hj) (fun q => hne q.symm)
    have fl : L.flat l = !L.anyB l.n (fun i => !decide (L.cross (l.g 0) (l.g k) (l.g i) = 0)) := by
      unfold L.flat
      rw [hf, decide_eq_false (show ¬ (k : Int) < 0 by omega), cond_false, Int.toNat_natCast]
    refine ⟨⟨(0, k, 0), rfl, rfl, rfl, rfl, ⟨hik, by show k < l.n; omega⟩, hf, Nat.zero_le _, fun j hj => absurd hj (Nat.not_lt_zero _)⟩, ?_⟩
    rintro ⟨i, k', m⟩ ⟨_, e2, _, _, _, hm, hc⟩
    have e2 : (k : Int) = (k' : Int) := e2
    obtain rfl : k = k' := by omega
    have hm : m ≤ l.n := hm
    have hc : ∀ j, j < m → L.cross (l.g 0) (l.g k) (l.g j) = 0 := hc
    refine ⟨fun hmn => ?_, fun hmn => ?_⟩
    · have hmn : (m : Int) < (l.n : Int) := of_decide_eq_true hmn
      refine ⟨⟨Int.natCast_nonneg _, hlt⟩, ⟨Int.natCast_nonneg _, hkl⟩, ⟨Int.natCast_nonneg _, hmn⟩, ⟨hb 0 (by omega), hb k (by omega), hb m (by omega)⟩, fun h => ?_, fun h => ?_⟩
      · have h : (!decide (L.cross (l.g 0) (l.g k) (l.g m) = 0)) = true := h
        rw [fl, anyB_iff.2 ⟨m, by omega, h⟩]; rfl
      · have h : (!decide (L.cross (l.g 0) (l.g k) (l.g m) = 0)) = false := h
        refine ⟨show InK .i64 ((m : Int) + 1) from InK.of (by omega) (by omega), (0, k, m + 1), by show (m : Int) + 1 = ((m + 1 : Nat) : Int); omega, rfl, rfl, ⟨rfl, fun _ _ => rfl⟩, ⟨rfl, rfl, rfl, ⟨hik, by show k < l.n; omega⟩, hf, by show m + 1 ≤ l.n; omega, fun j hj => ?_⟩, by show l.n - (m + 1) < l.n - m; omega⟩
        have hj : j < m + 1 := hj
        rcases Nat.lt_succ_iff_lt_or_eq.1 hj with h' | rfl
        · exact hc j h'
        · exact of_decide_eq_true (notF h)
    · have hmn : ¬ (m : Int) < (l.n : Int) := of_decide_eq_false hmn
      rw [fl, anyB_no (fun i hi => by rw [decide_eq_true (hc i (by omega))]; rfl)]; rfl)
theorem r1_flat_ok : SpecOk Tryz.prog 44 r1_flat_S := fnX Tryz.func44 (c := bodyOf Tryz.f44) (by kernel_rfl) mixed (fun args p r hs hp => by
  unfold r1_flat_s at hs
  split at hs
  · cases hs; exact ⟨_, _, r1_flat_vc _ hp.2, (.p (.sl hp.1) .nil), ⟨show SpecsL Tryz.prog _ from (SpecsL.cons r1_Cross_ok r1_Cross_en SpecsL.nil), rfl, ⟨show ItersL Tryz.prog _ from ItersL.nil, (TrsOk.none (fun _ => rfl))⟩⟩⟩
  · cases hs)
theorem r1_flat_en : Enters Tryz.prog 44 := fun args w => by kernel_rfl
def r1_straight_p (l : (L.Sq L.Pt)) : Prop := L.allBd l ∧ L.two2 l
def r1_straight_r (l : (L.Sq L.Pt)) : SV := .sl 2 (L.str l).n (fun k => [.int .i64 (((L.str l).g k).x), .int .i64 (((L.str l).g k).y)])
def r1_straight_s : List EV → Option (Prop × SV)
  | [.p (.sl 2 l_n l_g)] => some ((∀ i, i < l_n → l_g i = [.int .i64 ((ofPt (l_g i)).x), .int .i64 ((ofPt (l_g i)).y)]) ∧ r1_straight_p (⟨l_n, fun i => ofPt (l_g i)⟩ : (L.Sq L.Pt)), r1_straight_r (⟨l_n, fun i => ofPt (l_g i)⟩ : (L.Sq L.Pt)))
  | _ => none
abbrev r1_straight_S : SE.Spec := (specO r1_straight_s)
def r1_straight_C : Cfg := { muts := [], frz := lookN [], specs := lookS [(53, r1_at_S), (94, r1_without_S), (31, r1_Cross_S)], loops := fun _ => none, iters := lookI [], rfs := lookR [], nils := lookM [] }
theorem r1_straight_vc (l : (L.Sq L.Pt)) (hp : r1_straight_p l) : vc Tryz.prog ({ r1_straight_C with loops := lookL [(2, { T := Nat × L.Sq L.Pt, keep := [], keepO := [], chg := fun g => [(0, .p (.sl 2 g.2.n (fun k => [.int .i64 ((g.2.g k).x), .int .i64 ((g.2.g k).y)]))), (3, .p (.int .i64 (g.1 : Int)))], own := fun _ => [], inv := fun g => g.1 ≤ g.2.n ∧ L.allBd g.2 ∧ L.two2 g.2 ∧ L.thin L.cDup l = L.thin L.cDup g.2 ∧ ∀ j, j < g.1 → L.outAt L.cDup g.2 j = false, mu := fun g => g.2.n * 1001 + (g.2.n - g.1) }), (8, { T := Nat × L.Sq L.Pt, keep := [], keepO := [], chg := fun g => [(0, .p (.sl 2 g.2.n (fun k => [.int .i64 ((g.2.g k).x), .int .i64 ((g.2.g k).y)]))), (4, .p (.int .i64 (g.1 : Int)))], own := fun _ => [], inv := fun g => g.1 ≤ g.2.n ∧ L.allBd g.2 ∧ L.str l = L.thin L.cFlat g.2 ∧ ∀ j, j < g.1 → L.outAt L.cFlat g.2 j = false, mu := fun g => g.2.n * 1001 + (g.2.n - g.1) })], rfs := lookR [] }) (bodyOf Tryz.f45) (st0 Tryz.f45 [.p (.sl 2 l.n (fun i => [.int .i64 ((l.g i).x), .int .i64 ((l.g i).y)]))]) (retFn Tryz.prog Tryz.f45 (r1_straight_r l)) :=
  @Eq.mpr _ ((∃ (g : Nat × L.Sq L.Pt), (l.n = g.2.n ∧ ∀ (i : Nat), i < l.n → [SV.int .i64 (l.g i).x, SV.int .i64 (l.g i).y] = [SV.int .i64 (g.2.g i).x, SV.int .i64 (g.2.g i).y]) ∧ (0 : Int) = (↑g.1 : Int) ∧ g.1 ≤ g.2.n ∧ L.allBd g.2 ∧ L.two2 g.2 ∧ L.thin L.cDup l = L.thin L.cDup g.2 ∧ ∀ (j : Nat), j < g.1 → L.outAt L.cDup g.2 j = false) ∧ ∀
 (g : Nat × L.Sq L.Pt), (g.1 ≤ g.2.n ∧ L.allBd g.2 ∧ L.two2 g.2 ∧ L.thin L.cDup l = L.thin L.cDup g.2 ∧ ∀ (j : Nat), j < g.1 → L.outAt L.cDup g.2 j = false) → (decide ((↑g.1 : Int) < (↑g.2.n : Int)) = true → (decide ((1 : Int) < (↑g.2.n : Int)) = true → (0 : Int) ≤ (↑g.1 : Int) ∧ (↑g.1 : Int) < (↑g.2.n : Int)) ∧ (decide ((1 : Int) < (↑g.2.n : Int)) =
 true → InK .i64 ((↑g.1 : Int) + (1 : Int))) ∧ (decide ((1 : Int) < (↑g.2.n : Int)) = true → (∀ (i : Nat), i < g.2.n → [SV.int .i64 (g.2.g i).x, SV.int .i64 (g.2.g i).y] = [SV.int .i64 (g.2.g i).x, SV.int .i64 (g.2.g i).y]) ∧ (1 : Nat) ≤ g.2.n ∧ g.2.n ≤ (1000000 : Nat) ∧ (-1000000 : Int) ≤ (↑g.1 :
 Int) + (1 : Int) ∧ (↑g.1 : Int) + (1 : Int) ≤ (1000000 : Int)) ∧ ((bif decide ((1 : Int) < (↑g.2.n : Int)) then decide ((g.2.g (Int.toNat (↑g.1 : Int))).x = (g.2.g (L.ix g.2.n ((↑g.1 : Int) + (1 : Int)))).x) && decide ((g.2.g (Int.toNat (↑g.1 : Int))).y = (g.2.g (L.ix g.2.n ((↑g.1 : Int) + (1 : Int)))).y) else false) = true → ((∀ (i : Nat), i < g.2.n →
 [SV.int .i64 (g.2.g i).x, SV.int .i64 (g.2.g i).y] = [SV.int .i64 (g.2.g i).x, SV.int .i64 (g.2.g i).y]) ∧ (0 : Int) ≤ (↑g.1 : Int) ∧ (↑g.1 : Int) < (↑g.2.n : Int) ∧ g.2.n ≤ (1000000 : Nat)) ∧ ∃ (g' : Nat × L.Sq L.Pt), (g.2.n - (1 : Nat) = g'.2.n ∧ ∀ (i : Nat), i < g.2.n - (1 : Nat) → [SV.int .i64 (L.delF (fun (i :
 Nat) ↦ g.2.g i) (Int.toNat (↑g.1 : Int)) g.2.n i).x, SV.int .i64 (L.delF (fun (i : Nat) ↦ g.2.g i) (Int.toNat (↑g.1 : Int)) g.2.n i).y] = [SV.int .i64 (g'.2.g i).x, SV.int .i64 (g'.2.g i).y]) ∧ (0 : Int) = (↑g'.1 : Int) ∧ (g'.1 ≤ g'.2.n ∧ L.allBd g'.2 ∧ L.two2 g'.2 ∧ L.thin L.cDup l = L.thin L.cDup g'.2 ∧ ∀ (j : Nat), j < g'.1 → L.outAt L.cDup g'.2 j
 = false) ∧ g'.2.n * (1001 : Nat) + (g'.2.n - g'.1) < g.2.n * (1001 : Nat) + (g.2.n - g.1)) ∧ ((bif decide ((1 : Int) < (↑g.2.n : Int)) then decide ((g.2.g (Int.toNat (↑g.1 : Int))).x = (g.2.g (L.ix g.2.n ((↑g.1 : Int) + (1 : Int)))).x) && decide ((g.2.g (Int.toNat (↑g.1 : Int))).y = (g.2.g (L.ix g.2.n ((↑g.1 : Int) + (1 : Int)))).y) else false) = false
 → InK .i64 ((↑g.1 : Int) + (1 : Int)) ∧ ∃ (g' : Nat × L.Sq L.Pt), (g.2.n = g'.2.n ∧ ∀ (i : Nat), i < g.2.n → [SV.int .i64 (g.2.g i).x, SV.int .i64 (g.2.g i).y] = [SV.int .i64 (g'.2.g i).x, SV.int .i64 (g'.2.g i).y]) ∧ (↑g.1 : Int) + (1 : Int) = (↑g'.1 : Int) ∧ (g'.1 ≤ g'.2.n ∧ L.allBd g'.2 ∧ L.two2 g'.2 ∧ L.thin L.cDup
 l = L.thin L.cDup g'.2 ∧ ∀ (j : Nat), j < g'.1 → L.outAt L.cDup g'.2 j = false) ∧ g'.2.n * (1001 : Nat) + (g'.2.n - g'.1) < g.2.n * (1001 : Nat) + (g.2.n - g.1))) ∧ (decide ((↑g.1 : Int) < (↑g.2.n : Int)) = false → (∃ (g_1 : Nat × L.Sq L.Pt), (g.2.n = g_1.2.n ∧ ∀ (i : Nat), i < g.2.n → [SV.int .i64 (g.2.g i).x, SV.int .i64 (g.2.g i).y] =
 [SV.int .i64 (g_1.2.g i).x, SV.int .i64 (g_1.2.g i).y]) ∧ (0 : Int) = (↑g_1.1 : Int) ∧ g_1.1 ≤ g_1.2.n ∧ L.allBd g_1.2 ∧ L.str l = L.thin L.cFlat g_1.2 ∧ ∀ (j : Nat), j < g_1.1 → L.outAt L.cFlat g_1.2 j = false) ∧ ∀ (g_1 : Nat × L.Sq L.Pt), (g_1.1 ≤ g_1.2.n ∧ L.allBd g_1.2 ∧ L.str l = L.thin L.cFlat g_1.2 ∧ ∀ (j : Nat), j < g_1.1 → L.outAt L.cFlat g_1.2 j =
 false) → (decide ((↑g_1.1 : Int) < (↑g_1.2.n : Int)) = true → InK .i64 ((↑g_1.1 : Int) - (1 : Int)) ∧ ((∀ (i : Nat), i < g_1.2.n → [SV.int .i64 (g_1.2.g i).x, SV.int .i64 (g_1.2.g i).y] = [SV.int .i64 (g_1.2.g i).x, SV.int .i64 (g_1.2.g i).y]) ∧ (1 : Nat) ≤ g_1.2.n ∧ g_1.2.n ≤ (1000000 : Nat) ∧
 (-1000000 : Int) ≤ (↑g_1.1 : Int) - (1 : Int) ∧ (↑g_1.1 : Int) - (1 : Int) ≤ (1000000 : Int)) ∧ ((0 : Int) ≤ (↑g_1.1 : Int) ∧ (↑g_1.1 : Int) < (↑g_1.2.n : Int)) ∧ InK .i64 ((↑g_1.1 : Int) + (1 : Int)) ∧ ((∀ (i : Nat), i < g_1.2.n → [SV.int .i64 (g_1.2.g i).x, SV.int .i64 (g_1.2.g i).y] = [SV.int .i64 (g_1.2.g i).x, SV.int
 .i64 (g_1.2.g i).y]) ∧ (1 : Nat) ≤ g_1.2.n ∧ g_1.2.n ≤ (1000000 : Nat) ∧ (-1000000 : Int) ≤ (↑g_1.1 : Int) + (1 : Int) ∧ (↑g_1.1 : Int) + (1 : Int) ≤ (1000000 : Int)) ∧ (L.bd (g_1.2.g (L.ix g_1.2.n ((↑g_1.1 : Int) - (1 : Int)))) ∧ L.bd (g_1.2.g (Int.toNat (↑g_1.1 : Int))) ∧ L.bd (g_1.2.g (L.ix g_1.2.n ((↑g_1.1 : Int) + (1 : Int))))) ∧ (decide (L.cross (g_1.2.g (L.ix g_1.2.n
 ((↑g_1.1 : Int) - (1 : Int)))) (g_1.2.g (Int.toNat (↑g_1.1 : Int))) (g_1.2.g (L.ix g_1.2.n ((↑g_1.1 : Int) + (1 : Int)))) = (0 : Int)) = true → ((∀ (i : Nat), i < g_1.2.n → [SV.int .i64 (g_1.2.g i).x, SV.int .i64 (g_1.2.g i).y] = [SV.int .i64 (g_1.2.g i).x, SV.int .i64 (g_1.2.g i).y]) ∧ (0 : Int) ≤ (↑g_1.1 : Int) ∧ (↑g_1.1 : Int)
 < (↑g_1.2.n : Int) ∧ g_1.2.n ≤ (1000000 : Nat)) ∧ ∃ (g' : Nat × L.Sq L.Pt), (g_1.2.n - (1 : Nat) = g'.2.n ∧ ∀ (i : Nat), i < g_1.2.n - (1 : Nat) → [SV.int .i64 (L.delF (fun (i : Nat) ↦ g_1.2.g i) (Int.toNat (↑g_1.1 : Int)) g_1.2.n i).x, SV.int .i64 (L.delF (fun (i : Nat) ↦ g_1.2.g i) (Int.toNat (↑g_1.1 : Int)) g_1.2.n i).y] = [SV.int .i64 (g'.2.g
 i).x, SV.int .i64 (g'.2.g i).y]) ∧ (0 : Int) = (↑g'.1 : Int) ∧ (g'.1 ≤ g'.2.n ∧ L.allBd g'.2 ∧ L.str l = L.thin L.cFlat g'.2 ∧ ∀ (j : Nat), j < g'.1 → L.outAt L.cFlat g'.2 j = false) ∧ g'.2.n * (1001 : Nat) + (g'.2.n - g'.1) < g_1.2.n * (1001 : Nat) + (g_1.2.n - g_1.1)) ∧ (decide (L.cross (g_1.2.g (L.ix g_1.2.n ((↑g_1.1 : Int) - (1 : Int)))) (g_1.2.g (Int.toNat
 (↑g_1.1 : Int))) (g_1.2.g (L.ix g_1.2.n ((↑g_1.1 : Int) + (1 : Int)))) = (0 : Int)) = false → InK .i64 ((↑g_1.1 : Int) + (1 : Int)) ∧ ∃ (g' : Nat × L.Sq L.Pt), (g_1.2.n = g'.2.n ∧ ∀ (i : Nat), i < g_1.2.n → [SV.int .i64 (g_1.2.g i).x, SV.int .i64 (g_1.2.g i).y] = [SV.int .i64 (g'.2.g i).x, SV.int .i64 (g'.2.g
 i).y]) ∧ (↑g_1.1 : Int) + (1 : Int) = (↑g'.1 : Int) ∧ (g'.1 ≤ g'.2.n ∧ L.allBd g'.2 ∧ L.str l = L.thin L.cFlat g'.2 ∧ ∀ (j : Nat), j < g'.1 → L.outAt L.cFlat g'.2 j = false) ∧ g'.2.n * (1001 : Nat) + (g'.2.n - g'.1) < g_1.2.n * (1001 : Nat) + (g_1.2.n - g_1.1))) ∧ (decide ((↑g_1.1 : Int) < (↑g_1.2.n : Int)) = false → g_1.2.n = (L.str l).n ∧ ∀ (i : Nat), i < g_1.2.n →
 [SV.int .i64 (g_1.2.g i).x, SV.int .i64 (g_1.2.g i).y] = [SV.int .i64 ((L.str l).g i).x, SV.int .i64 ((L.str l).g i).y]))) (by kernel_rfl) (by
    obtain ⟨hall, htwo⟩ := hp
    refine ⟨⟨(0, l), ⟨rfl, fun _ _ => rfl⟩, rfl, Nat.zero_le _, hall, htwo, rfl, fun j hj => absurd hj (Nat.not_lt_zero _)⟩, ?_⟩
    rintro ⟨i, x⟩ ⟨hi, hb, ht, e, h0⟩
    have hi : i ≤ x.n := hi
    have hb : L.allBd x := hb
    have ht : L.two2 x := ht
    have e : L.thin L.cDup l = L.thin L.cDup x := e
    have h0 : ∀ j, j < i → L.outAt L.cDup x j = false := h0
    have hn := hb.1
    have h2 := two2_n ht
    have d1 : decide ((1 : Int) < (x.n : Int)) = true := decide_eq_true (by omega)
    refine ⟨fun hlt => ?_, fun hge => ?_⟩
    · have hlt : (i : Int) < (x.n : Int) := of_decide_eq_true hlt
      have en : L.ix x.n ((i : Int) + 1) = L.next x.n i := ix_next (by omega)
      dsimp only
      rw [d1, en]
      refine ⟨fun _ => ⟨by omega, hlt⟩, fun _ => InK.of (by omega) (by omega), fun _ => ⟨fun _ _ => rfl, by omega, by omega, by omega, by omega⟩, fun h => ?_, fun h => ?_⟩
      · have h : L.outAt L.cDup x i = true := h
        exact ⟨⟨fun _ _ => rfl, by omega, hlt, by omega⟩, (0, ⟨x.n - 1, L.delF x.g i x.n⟩), ⟨rfl, fun _ _ => rfl⟩, rfl, ⟨Nat.zero_le _, del_allBd hb, del_two ht (by omega) h, e.trans (thin_at (f := x.g) (by omega) h0 h), fun j hj => absurd hj (Nat.not_lt_zero _)⟩, by show (x.n - 1) * 1001 + (x.n - 1 - 0) < x.n * 1001 + (x.n - i); omega⟩
      · have h : L.outAt L.cDup x i = false := h
        refine ⟨InK.of (by omega) (by omega), (i + 1, x), ⟨rfl, fun _ _ => rfl⟩, by show (i : Int) + 1 = ((i + 1 : Nat) : Int); omega, ⟨by show i + 1 ≤ x.n; omega, hb, ht, e, fun j hj => ?_⟩, by show x.n * 1001 + (x.n - (i + 1)) < x.n * 1001 + (x.n - i); omega⟩
        have hj : j < i + 1 := hj
        rcases Nat.lt_succ_iff_lt_or_eq.1 hj with h' | rfl
        · exact h0 j h'
        · exact h
    have hge : ¬ (i : Int) < (x.n : Int) := of_decide_eq_false hge
    obtain rfl : i = x.n := by omega
    have ex : L.thin L.cDup l = x := e.trans (thin_end (f := x.g) h0)
    refine ⟨⟨(0, x), ⟨rfl, fun _ _ => rfl⟩, rfl, Nat.zero_le _, hb, by unfold L.str; rw [ex], fun j hj => absurd hj (Nat.not_lt_zero _)⟩, ?_⟩
    rintro ⟨k, y⟩ ⟨hk, hy, ey, h0y⟩
    have hk : k ≤ y.n := hk
    have hy : L.allBd y := hy
    have ey : L.str l = L.thin L.cFlat y := ey
    have h0y : ∀ j, j < k → L.outAt L.cFlat y j = false := h0y
    have hny := hy.1
    refine ⟨fun hlt => ?_, fun hge => ?_⟩
    · have hlt : (k : Int) < (y.n : Int) := of_decide_eq_true hlt
      have en : L.ix y.n ((k : Int) + 1) = L.next y.n k := ix_next (by omega)
      have ep : L.ix y.n ((k : Int) - 1) = L.prev y.n k := ix_prev (by omega)
      dsimp only
      rw [en, ep]
      refine ⟨InK.of (by omega) (by omega), ⟨fun _ _ => rfl, by omega, by omega, by omega, by omega⟩, ⟨by omega, hlt⟩, InK.of (by omega) (by omega), ⟨fun _ _ => rfl, by omega, by omega, by omega, by omega⟩, ⟨hy.2 _ (prev_lt (by omega)), hy.2 k (by omega), hy.2 _ (next_lt (by omega))⟩, fun h => ?_, fun h => ?_⟩
      · have h : L.outAt L.cFlat y k = true := h
        exact ⟨⟨fun _ _ => rfl, by omega, hlt, by omega⟩, (0, ⟨y.n - 1, L.delF y.g k y.n⟩), ⟨rfl, fun _ _ => rfl⟩, rfl, ⟨Nat.zero_le _, del_allBd hy, ey.trans (thin_at (f := y.g) (by omega) h0y h), fun j hj => absurd hj (Nat.not_lt_zero _)⟩, by show (y.n - 1) * 1001 + (y.n - 1 - 0) < y.n * 1001 + (y.n - k); omega⟩
      · have h : L.outAt L.cFlat y k = false := h
        refine ⟨InK.of (by omega) (by omega), (k + 1, y), ⟨rfl, fun _ _ => rfl⟩, by show (k : Int) + 1 = ((k + 1 : Nat) : Int); omega, ⟨by show k + 1 ≤ y.n; omega, hy, ey, fun j hj => ?_⟩, by show y.n * 1001 + (y.n - (k + 1)) < y.n * 1001 + (y.n - k); omega⟩
        have hj : j < k + 1 := hj
        rcases Nat.lt_succ_iff_lt_or_eq.1 hj with h' | rfl
        · exact h0y j h'
        · exact h
    · have hge : ¬ (k : Int) < (y.n : Int) := of_decide_eq_false hge
      obtain rfl : k = y.n := by omega
      have : L.str l = y := ey.trans (thin_end (f := y.g) h0y)
      rw [this]
      exact ⟨rfl, fun _ _ => rfl⟩)
theorem r1_straight_ok : SpecOk Tryz.prog 45 r1_straight_S := fnX Tryz.func45 (c := bodyOf Tryz.f45) (by kernel_rfl) mixed (fun args p r hs hp => by
  unfold r1_straight_s at hs
  split at hs
  · cases hs; exact ⟨_, _, r1_straight_vc _ hp.2, (.p (.sl hp.1) .nil), ⟨show SpecsL Tryz.prog _ from (SpecsL.cons r1_at_ok r1_at_en (SpecsL.cons r1_without_ok r1_without_en (SpecsL.cons r1_Cross_ok r1_Cross_en SpecsL.nil))), rfl, ⟨show ItersL Tryz.prog _ from ItersL.nil, (TrsOk.none (fun _ => rfl))⟩⟩⟩
  · cases hs)
theorem r1_straight_en : Enters Tryz.prog 45 := fun args w => by kernel_rfl
def r1_Outline_p (l : (L.Sq L.Pt)) : Prop := l.n ≤ 1000000
def r1_Outline_r (l : (L.Sq L.Pt)) : SV := .tup [.sl 2 (L.outN l) (fun k => [.int .i64 (((L.norm (L.str l)).g k).x), .int .i64 (((L.norm (L.str l)).g k).y)]), .int .i64 (L.outE l)]
def r1_Outline_s : List EV → Option (Prop × SV)
  | [.p (.sl 2 l_n l_g)] => some ((∀ i, i < l_n → l_g i = [.int .i64 ((ofPt (l_g i)).x), .int .i64 ((ofPt (l_g i)).y)]) ∧ r1_Outline_p (⟨l_n, fun i => ofPt (l_g i)⟩ : (L.Sq L.Pt)), r1_Outline_r (⟨l_n, fun i => ofPt (l_g i)⟩ : (L.Sq L.Pt)))
  | _ => none
abbrev r1_Outline_S : SE.Spec := (specO r1_Outline_s)
def r1_Outline_C : Cfg := { muts := [], frz := lookN [], specs := lookS [(43, r1_points_S), (44, r1_flat_S), (45, r1_straight_S), (46, r1_simple_S), (47, r1_sum_S), (48, r1_placed_S)], loops := fun _ => none, iters := lookI [], rfs := lookR [], nils := lookM [(12, [(5, 51, 38, 2)])] }
theorem r1_Outline_vc (l : (L.Sq L.Pt)) (hp : r1_Outline_p l) : vc Tryz.prog ({ r1_Outline_C with loops := lookL [(13, { T := Nat, keep := [4, 5], keepO := [], chg := fun i => [(6, .p (.int .i64 (((L.str l).n : Int) - 1 - (i : Int))))], own := fun i => [(51, .row 38 2 i (fun k => [.int .i64 (((L.revG (L.str l)).g k).x), .int .i64 (((L.revG (L.str l)).g k).y)]))], inv := fun i => i ≤ (L.str l).n, mu := fun i => (L.str l).n - i })], rfs := lookR [] }) (bodyOf Tryz.f8) (st0 Tryz.f8 [.p (.sl 2 l.n (fun i => [.int .i64 ((l.g i).x), .int .i64 ((l.g i).y)]))]) (retFn Tryz.prog Tryz.f8 (r1_Outline_r l)) :=
  @Eq.mpr _ (((!bif decide ((↑l.n : Int) < (3 : Int)) then true else decide ((400 : Int) < (↑l.n : Int))) = true → (∀ (i : Nat), i < l.n → [SV.int .i64 (l.g i).x, SV.int .i64 (l.g i).y] = [SV.int .i64 (l.g i).x, SV.int .i64 (l.g i).y]) ∧ l.n ≤ (1000000 : Nat)) ∧ ((bif bif decide ((↑l.n : Int) < (3 : Int))
 then true else decide ((400 : Int) < (↑l.n : Int)) then true else !L.validPts (L.Sq.mk l.n fun (i : Nat) ↦ l.g i)) = true → L.outN l = (0 : Nat) ∧ (1 : Int) = L.outE l) ∧ ((bif bif decide ((↑l.n : Int) < (3 : Int)) then true else decide ((400 : Int) < (↑l.n : Int)) then true else !L.validPts (L.Sq.mk l.n fun (i : Nat) ↦ l.g i)) = false →
 ((∀ (i : Nat), i < l.n → [SV.int .i64 (l.g i).x, SV.int .i64 (l.g i).y] = [SV.int .i64 (l.g i).x, SV.int .i64 (l.g i).y]) ∧ (1 : Nat) ≤ l.n ∧ l.n ≤ (1000000 : Nat) ∧ ∀ (k : Nat), k < l.n → L.bd (l.g k)) ∧ (L.flat (L.Sq.mk l.n fun (i : Nat) ↦ l.g i) = true → L.outN l = (0 : Nat) ∧ (11 : Int) = L.outE l) ∧ (L.flat (L.Sq.mk l.n fun
 (i : Nat) ↦ l.g i) = false → ((∀ (i : Nat), i < l.n → [SV.int .i64 (l.g i).x, SV.int .i64 (l.g i).y] = [SV.int .i64 (l.g i).x, SV.int .i64 (l.g i).y]) ∧ L.allBd (L.Sq.mk l.n fun (i : Nat) ↦ l.g i) ∧ L.two2 (L.Sq.mk l.n fun (i : Nat) ↦ l.g i)) ∧ ((!decide ((↑(L.str (L.Sq.mk l.n fun (i : Nat) ↦ l.g i)).n : Int) < (3 :
 Int))) = true → (∀ (i : Nat), i < (L.str (L.Sq.mk l.n fun (i : Nat) ↦ l.g i)).n → [SV.int .i64 ((L.str (L.Sq.mk l.n fun (i : Nat) ↦ l.g i)).g i).x, SV.int .i64 ((L.str (L.Sq.mk l.n fun (i : Nat) ↦ l.g i)).g i).y] = [SV.int .i64 ((L.str (L.Sq.mk l.n fun (i : Nat) ↦ l.g i)).g i).x, SV.int .i64 ((L.str (L.Sq.mk l.n fun (i : Nat) ↦
 l.g i)).g i).y]) ∧ L.allBd (L.Sq.mk (L.str (L.Sq.mk l.n fun (i : Nat) ↦ l.g i)).n fun (i : Nat) ↦ (L.str (L.Sq.mk l.n fun (i : Nat) ↦ l.g i)).g i)) ∧ ((bif decide ((↑(L.str (L.Sq.mk l.n fun (i : Nat) ↦ l.g i)).n : Int) < (3 : Int)) then true else !L.simple (L.Sq.mk (L.str (L.Sq.mk l.n fun (i : Nat) ↦ l.g i)).n fun (i : Nat) ↦ (L.str (L.Sq.mk l.n fun (i : Nat) ↦ l.g i)).g i)) =
 true → L.outN l = (0 : Nat) ∧ (10 : Int) = L.outE l) ∧ ((bif decide ((↑(L.str (L.Sq.mk l.n fun (i : Nat) ↦ l.g i)).n : Int) < (3 : Int)) then true else !L.simple (L.Sq.mk (L.str (L.Sq.mk l.n fun (i : Nat) ↦ l.g i)).n fun (i : Nat) ↦ (L.str (L.Sq.mk l.n fun (i : Nat) ↦ l.g i)).g i)) = false → (decide ((24 : Int) < (↑(L.str (L.Sq.mk l.n fun (i : Nat) ↦ l.g i)).n :
 Int)) = true → L.outN l = (0 : Nat) ∧ (2 : Int) = L.outE l) ∧ (decide ((24 : Int) < (↑(L.str (L.Sq.mk l.n fun (i : Nat) ↦ l.g i)).n : Int)) = false → ((∀ (i : Nat), i < (L.str (L.Sq.mk l.n fun (i : Nat) ↦ l.g i)).n → [SV.int .i64 ((L.str (L.Sq.mk l.n fun (i : Nat) ↦ l.g i)).g i).x, SV.int .i64 ((L.str (L.Sq.mk l.n fun (i : Nat) ↦ l.g i)).g i).y]
 = [SV.int .i64 ((L.str (L.Sq.mk l.n fun (i : Nat) ↦ l.g i)).g i).x, SV.int .i64 ((L.str (L.Sq.mk l.n fun (i : Nat) ↦ l.g i)).g i).y]) ∧ L.small (L.Sq.mk (L.str (L.Sq.mk l.n fun (i : Nat) ↦ l.g i)).n fun (i : Nat) ↦ (L.str (L.Sq.mk l.n fun (i : Nat) ↦ l.g i)).g i)) ∧ (decide (L.areaTo (L.Sq.mk (L.str (L.Sq.mk l.n fun (i : Nat) ↦ l.g i)).n fun (i : Nat) ↦
 (L.str (L.Sq.mk l.n fun (i : Nat) ↦ l.g i)).g i) (L.str (L.Sq.mk l.n fun (i : Nat) ↦ l.g i)).n < (0 : Int)) = true → InK .i64 ((↑(L.str (L.Sq.mk l.n fun (i : Nat) ↦ l.g i)).n : Int) - (1 : Int)) ∧ (∃ (g : Nat), (↑(L.str (L.Sq.mk l.n fun (i : Nat) ↦ l.g i)).n : Int) - (1 : Int) = (↑(L.str l).n : Int) - (1 : Int) - (↑g : Int) ∧ (nat_lit 0 = g ∧ ∀ (i : Nat), i < nat_lit 0 → [] =
 [SV.int .i64 ((L.revG (L.str l)).g i).x, SV.int .i64 ((L.revG (L.str l)).g i).y]) ∧ g ≤ (L.str l).n) ∧ ∀ (g : Nat), g ≤ (L.str l).n → (decide ((0 : Int) ≤ (↑(L.str l).n : Int) - (1 : Int) - (↑g : Int)) = true → ((0 : Int) ≤ (↑(L.str l).n : Int) - (1 : Int) - (↑g : Int) ∧ (↑(L.str l).n : Int) - (1 : Int) - (↑g : Int) < (↑(L.str (L.Sq.mk l.n fun (i :
 Nat) ↦ l.g i)).n : Int)) ∧ (g + nat_lit 1) * nat_lit 16 ≤ (140737488355328 : Nat) ∧ InK .i64 ((↑(L.str l).n : Int) - (1 : Int) - (↑g : Int) - (1 : Int)) ∧ ∃ (g' : Nat), (↑(L.str l).n : Int) - (1 : Int) - (↑g : Int) - (1 : Int) = (↑(L.str l).n : Int) - (1 : Int) - (↑g' : Int) ∧ ((L.str (L.Sq.mk l.n fun (i : Nat) ↦ l.g i)).n = (L.str (L.Sq.mk l.n fun (i : Nat) ↦ l.g i)).n ∧ ∀ (i :
 Nat), i < (L.str (L.Sq.mk l.n fun (i : Nat) ↦ l.g i)).n → [SV.int .i64 ((L.str (L.Sq.mk l.n fun (i : Nat) ↦ l.g i)).g i).x, SV.int .i64 ((L.str (L.Sq.mk l.n fun (i : Nat) ↦ l.g i)).g i).y] = [SV.int .i64 ((L.str (L.Sq.mk l.n fun (i : Nat) ↦ l.g i)).g i).x, SV.int .i64 ((L.str (L.Sq.mk l.n fun (i : Nat) ↦ l.g i)).g i).y]) ∧ (g +
 nat_lit 1 = g' ∧ ∀ (i : Nat), i < g + nat_lit 1 → appGet g (fun (k : Nat) ↦ [SV.int .i64 ((L.revG (L.str l)).g k).x, SV.int .i64 ((L.revG (L.str l)).g k).y]) (fun (x : Nat) ↦ [SV.int .i64 ((L.str (L.Sq.mk l.n fun (i : Nat) ↦ l.g i)).g (Int.toNat ((↑(L.str l).n : Int) - (1 : Int) - (↑g : Int)))).x, SV.int .i64 ((L.str (L.Sq.mk
 l.n fun (i : Nat) ↦ l.g i)).g (Int.toNat ((↑(L.str l).n : Int) - (1 : Int) - (↑g : Int)))).y]) i = [SV.int .i64 ((L.revG (L.str l)).g i).x, SV.int .i64 ((L.revG (L.str l)).g i).y]) ∧ g' ≤ (L.str l).n ∧ (L.str l).n - g' < (L.str l).n - g) ∧ (decide ((0 : Int) ≤ (↑(L.str l).n : Int) - (1 : Int) - (↑g : Int)) = false → ((∀ (i : Nat), i < g →
 [SV.int .i64 ((L.revG (L.str l)).g i).x, SV.int .i64 ((L.revG (L.str l)).g i).y] = [SV.int .i64 ((L.revG (L.str l)).g i).x, SV.int .i64 ((L.revG (L.str l)).g i).y]) ∧ (1 : Nat) ≤ g ∧ g ≤ (1000000 : Nat)) ∧ ∀ (t : Nat), True → (∀ (i : Nat), i < g → (true && (true && true)) = true) ∧ (g = L.outN l ∧ ∀ (i : Nat), i <
 g → [SV.int .i64 (L.plc (L.Sq.mk g fun (i : Nat) ↦ (L.revG (L.str l)).g i) i).x, SV.int .i64 (L.plc (L.Sq.mk g fun (i : Nat) ↦ (L.revG (L.str l)).g i) i).y] = [SV.int .i64 ((L.norm (L.str l)).g i).x, SV.int .i64 ((L.norm (L.str l)).g i).y]) ∧ (0 : Int) = L.outE l)) ∧ (decide (L.areaTo (L.Sq.mk (L.str (L.Sq.mk l.n fun (i :
 Nat) ↦ l.g i)).n fun (i : Nat) ↦ (L.str (L.Sq.mk l.n fun (i : Nat) ↦ l.g i)).g i) (L.str (L.Sq.mk l.n fun (i : Nat) ↦ l.g i)).n < (0 : Int)) = false → ((∀ (i : Nat), i < (L.str (L.Sq.mk l.n fun (i : Nat) ↦ l.g i)).n → [SV.int .i64 ((L.str (L.Sq.mk l.n fun (i : Nat) ↦ l.g i)).g i).x, SV.int .i64 ((L.str (L.Sq.mk l.n fun (i : Nat) ↦ l.g i)).g i).y] =
 [SV.int .i64 ((L.str (L.Sq.mk l.n fun (i : Nat) ↦ l.g i)).g i).x, SV.int .i64 ((L.str (L.Sq.mk l.n fun (i : Nat) ↦ l.g i)).g i).y]) ∧ (1 : Nat) ≤ (L.str (L.Sq.mk l.n fun (i : Nat) ↦ l.g i)).n ∧ (L.str (L.Sq.mk l.n fun (i : Nat) ↦ l.g i)).n ≤ (1000000 : Nat)) ∧ ∀ (t : Nat), True → ((L.str (L.Sq.mk l.n fun (i : Nat) ↦ l.g i)).n = L.outN l ∧ ∀ (i : Nat), i < (L.str
 (L.Sq.mk l.n fun (i : Nat) ↦ l.g i)).n → [SV.int .i64 (L.plc (L.Sq.mk (L.str (L.Sq.mk l.n fun (i : Nat) ↦ l.g i)).n fun (i : Nat) ↦ (L.str (L.Sq.mk l.n fun (i : Nat) ↦ l.g i)).g i) i).x, SV.int .i64 (L.plc (L.Sq.mk (L.str (L.Sq.mk l.n fun (i : Nat) ↦ l.g i)).n fun (i : Nat) ↦ (L.str (L.Sq.mk l.n fun (i : Nat) ↦ l.g i)).g i) i).y] = [SV.int .i64
 ((L.norm (L.str l)).g i).x, SV.int .i64 ((L.norm (L.str l)).g i).y]) ∧ (0 : Int) = L.outE l)))))) (by kernel_rfl) (by
    have hn : l.n ≤ 1000000 := hp
    refine ⟨fun _ => ⟨fun _ _ => rfl, hn⟩, fun h => ?_, fun h => ?_⟩
    · have h : (bif !L.within (l.n : Int) 3 400 then true else !L.validPts l) = true := (by rw [wneg] at h; exact h)
      have e : L.outE l = 1 := by unfold L.outE; rw [h]; rfl
      unfold L.outN; rw [e]; exact ⟨rfl, rfl⟩
    have h0 : (bif !L.within (l.n : Int) 3 400 then true else !L.validPts l) = false := (by rw [wneg] at h; exact h)
    obtain ⟨n3, n400, hv⟩ := out_of h0
    have hb : ∀ k, k < l.n → L.bd (l.g k) := fun k hk => bd_of_valid (allB_iff.1 hv k hk)
    refine ⟨⟨fun _ _ => rfl, by omega, hn, hb⟩, fun hf => ?_, fun hf => ?_⟩
    · have e : L.outE l = 11 := by unfold L.outE; rw [h0, hf]; rfl
      unfold L.outN; rw [e]; exact ⟨rfl, rfl⟩
    have ha : L.allBd l := ⟨by omega, hb⟩
    have h2 : L.two2 l := flat_two (l := l) hf (by omega)
    have ha1 := thin_allBd (c := L.cDup) (x := l) ha
    have t2 := two2_n (thin_two (x := l) h2)
    have ha2 : L.allBd (L.str l) := thin_allBd (c := L.cFlat) (x := L.thin L.cDup l) ha1
    refine ⟨⟨fun _ _ => rfl, ha, h2⟩, fun _ => ⟨fun _ _ => rfl, ha2⟩, fun h3 => ?_, fun h3 => ?_⟩
    · have h3 : (bif decide (((L.str l).n : Int) < 3) then true else !L.simple (L.str l)) = true := h3
      have e : L.outE l = 10 := by unfold L.outE; rw [h0, hf, h3]; rfl
      unfold L.outN; rw [e]; exact ⟨rfl, rfl⟩
    have h3 : (bif decide (((L.str l).n : Int) < 3) then true else !L.simple (L.str l)) = false := h3
    have m3 : 3 ≤ (L.str l).n := by
      have h := h3
      rw [bor, Bool.or_eq_false_iff] at h
      have := of_decide_eq_false h.1
      omega
    refine ⟨fun h4 => ?_, fun h4 => ?_⟩
    · have h4 : decide ((24 : Int) < ((L.str l).n : Int)) = true := h4
      have e : L.outE l = 2 := by unfold L.outE; rw [h0, hf, h3, h4]; rfl
      unfold L.outN; rw [e]; exact ⟨rfl, rfl⟩
    have h4 : decide ((24 : Int) < ((L.str l).n : Int)) = false := h4
    have m24 := of_decide_eq_false h4
    have e : L.outE l = 0 := by unfold L.outE; rw [h0, hf, h3, h4]; rfl
    have eN : (L.str l).n = L.outN l := by unfold L.outN; rw [e]; rfl
    
    refine ⟨⟨fun _ _ => rfl, ha2⟩, fun hA => ?_, fun hA => ?_⟩
    rotate_left
    · have hA : decide (L.areaTo (L.str l) (L.str l).n < 0) = false := hA
      have ef := plc_flip (x := L.str l) (by omega)
      rw [flip_pos hA] at ef
      refine ⟨⟨fun _ _ => rfl, show 1 ≤ (L.str l).n by omega, show (L.str l).n ≤ 1000000 by omega⟩, fun _ _ => ⟨⟨eN, fun i _ => ?_⟩, e.symm⟩⟩
      rw [← ef]
    have hA : decide (L.areaTo (L.str l) (L.str l).n < 0) = true := hA
    have ef := plc_flip (x := L.str l) (by omega)
    rw [flip_neg hA] at ef
    generalize hX : L.str l = X at *
    refine ⟨InK.of (by omega) (by omega), ⟨(0 : Nat), by omega, ⟨rfl, fun i hi => absurd hi (Nat.not_lt_zero _)⟩, Nat.zero_le _⟩, fun g hg => ⟨fun hlt => ?_, fun hge => ?_⟩⟩
    · have hlt : 0 ≤ (X.n : Int) - 1 - (g : Int) := of_decide_eq_true hlt
      have e0 : ((X.n : Int) - 1 - (g : Int)).toNat = X.n - 1 - g := by omega
      rw [e0]
      refine ⟨⟨hlt, by omega⟩, show (g + 1) * 16 ≤ 140737488355328 by omega, InK.of (by omega) (by omega), g + 1, by omega, ⟨rfl, fun _ _ => rfl⟩, ⟨rfl, fun i hi => ?_⟩, by omega, by omega⟩
      have hi : i < g + 1 := hi
      unfold appGet
      by_cases h' : i < g
      · rw [if_pos h']
      · rw [if_neg h', show i = g by omega]; rfl
    · have hge : ¬ 0 ≤ (X.n : Int) - 1 - (g : Int) := of_decide_eq_false hge
      obtain rfl : g = X.n := by omega
      refine ⟨⟨fun _ _ => rfl, by omega, by omega⟩, fun _ _ => ⟨fun _ _ => rfl, ⟨eN, fun i _ => ?_⟩, e.symm⟩⟩
      rw [← ef]; rfl)
theorem r1_Outline_ok : SpecOk Tryz.prog 8 r1_Outline_S := fnX Tryz.func8 (c := bodyOf Tryz.f8) (by kernel_rfl) mixed (fun args p r hs hp => by
  unfold r1_Outline_s at hs
  split at hs
  · cases hs; exact ⟨_, _, r1_Outline_vc _ hp.2, (.p (.sl hp.1) .nil), ⟨show SpecsL Tryz.prog _ from (SpecsL.cons r1_points_ok r1_points_en (SpecsL.cons r1_flat_ok r1_flat_en (SpecsL.cons r1_straight_ok r1_straight_en (SpecsL.cons r1_simple_ok r1_simple_en (SpecsL.cons r1_sum_ok r1_sum_en (SpecsL.cons r1_placed_ok r1_placed_en SpecsL.nil)))))), rfl, ⟨show ItersL Tryz.prog _ from ItersL.nil, (TrsOk.none (fun _ => rfl))⟩⟩⟩
  · cases hs)
theorem r1_Outline_en : Enters Tryz.prog 8 := fun args w => by kernel_rfl
end Go.Proofs.YtdlhpdidgfgomaaGreat

namespace Go.Proofs.YtdlhpdidgfgomaaGreat
open Go.SE Go.RowKit
set_option maxRecDepth 100000
set_option maxHeartbeats 4000000
set_option linter.unusedVariables false
attribute [local irreducible] vc

def L.gridTo (l : L.Sq L.Pt) : Nat → Int
  | 0 => 0
  | k + 1 => L.gridTo l k + L.gcd ((l.g (L.next l.n k)).x - (l.g k).x) ((l.g (L.next l.n k)).y - (l.g k).y)
def L.oE (l : L.Sq L.Pt) : Int := bif L.validOutline l then 0 else 1
def L.grN (l : L.Sq L.Pt) : Int := bif L.validOutline l then L.gridTo l l.n else 0
def L.grI (l : L.Sq L.Pt) : Int := bif L.validOutline l then Int.tdiv (L.areaTo l l.n - L.gridTo l l.n + 2) 2 else 0
def L.lowTo (l : L.Sq L.Pt) : Nat → L.Pt
  | 0 => l.g 0
  | k + 1 => ⟨min (L.lowTo l k).x (l.g k).x, min (L.lowTo l k).y (l.g k).y⟩
def L.highTo (l : L.Sq L.Pt) : Nat → L.Pt
  | 0 => l.g 0
  | k + 1 => ⟨max (L.highTo l k).x (l.g k).x, max (L.highTo l k).y (l.g k).y⟩
def L.boxL (l : L.Sq L.Pt) : L.Pt := bif L.validOutline l then L.lowTo l l.n else ⟨0, 0⟩
def L.boxH (l : L.Sq L.Pt) : L.Pt := bif L.validOutline l then L.highTo l l.n else ⟨0, 0⟩
theorem gcd_bd {a b : Int} {m : Int} (ha : -m ≤ a) (ha' : a ≤ m) (hb : -m ≤ b) (hb' : b ≤ m) : 0 ≤ L.gcd a b ∧ L.gcd a b ≤ m := by
  unfold L.gcd
  refine ⟨Int.natCast_nonneg _, ?_⟩
  rcases Nat.eq_zero_or_pos a.natAbs with h | h
  · rw [h, Nat.gcd_zero_left]; omega
  · have := Nat.gcd_le_left (m := a.natAbs) b.natAbs h
    omega
theorem gcd_abs (a b : Int) : L.gcd ((L.nabs a : Nat) : Int) ((L.nabs b : Nat) : Int) = L.gcd a b := by
  unfold L.gcd L.nabs
  rw [Int.natAbs_natCast, Int.natAbs_natCast]
theorem gridTo_bd {l : L.Sq L.Pt} (h : L.allBd l) : ∀ k, k ≤ l.n → 0 ≤ L.gridTo l k ∧ L.gridTo l k ≤ 8000000 * (k : Int)
  | 0, _ => by unfold L.gridTo; omega
  | k + 1, hk => by
    have ih := gridTo_bd h k (by omega)
    have h1 := h.2 k (by omega)
    have h2 := h.2 (L.next l.n k) (next_lt (by omega))
    unfold L.bd at h1 h2
    have := gcd_bd (a := (l.g (L.next l.n k)).x - (l.g k).x) (b := (l.g (L.next l.n k)).y - (l.g k).y) (m := 8000000) (by omega) (by omega) (by omega) (by omega)
    rw [L.gridTo]
    omega
theorem sameIr (a : L.Sq Int) : L.sameI a a = true := by
  unfold L.sameI
  simp [allB_iff]
theorem outN_le (l : L.Sq L.Pt) : L.outN l ≤ 24 := by
  unfold L.outN
  cases h : decide (L.outE l = 0) with
  | false => exact Nat.zero_le _
  | true =>
    have e := of_decide_eq_true h
    unfold L.outE at e
    rw [cond_true]
    revert e
    cases (bif !L.within (l.n : Int) 3 400 then true else !L.validPts l) <;> cases L.flat l <;> cases (bif decide (((L.str l).n : Int) < 3) then true else !L.simple (L.str l)) <;> cases h4 : decide ((24 : Int) < ((L.str l).n : Int)) <;> intro e <;> first
      | (have := of_decide_eq_false h4; omega)
      | exact absurd e (by decide)
def r1_Area_p (l : (L.Sq L.Pt)) : Prop := l.n ≤ 1000000
def r1_Area_r (l : (L.Sq L.Pt)) : SV := .tup [.int .i64 (bif L.validOutline l then L.areaTo l l.n else 0), .int .i64 (bif L.validOutline l then 0 else 1)]
def r1_Area_s : List EV → Option (Prop × SV)
  | [.p (.sl 2 l_n l_g)] => some ((∀ i, i < l_n → l_g i = [.int .i64 ((ofPt (l_g i)).x), .int .i64 ((ofPt (l_g i)).y)]) ∧ r1_Area_p (⟨l_n, fun i => ofPt (l_g i)⟩ : (L.Sq L.Pt)), r1_Area_r (⟨l_n, fun i => ofPt (l_g i)⟩ : (L.Sq L.Pt)))
  | _ => none
abbrev r1_Area_S : SE.Spec := (specO r1_Area_s)
def r1_Area_C : Cfg := { muts := [], frz := lookN [], specs := lookS [(11, r1_ValidOutline_S), (47, r1_sum_S)], loops := lookL [], iters := lookI [], rfs := lookR [], nils := lookM [] }
theorem r1_Area_vc (l : (L.Sq L.Pt)) (hp : r1_Area_p l) : vc Tryz.prog (r1_Area_C) (bodyOf Tryz.f13) (st0 Tryz.f13 [.p (.sl 2 l.n (fun i => [.int .i64 ((l.g i).x), .int .i64 ((l.g i).y)]))]) (retFn Tryz.prog Tryz.f13 (r1_Area_r l)) :=
  @Eq.mpr _ (((∀ (i : Nat), i < l.n → [SV.int .i64 (l.g i).x, SV.int .i64 (l.g i).y] = [SV.int .i64 (l.g i).x, SV.int .i64 (l.g i).y]) ∧ True) ∧ ((!L.validOutline (L.Sq.mk l.n fun (i : Nat) ↦ l.g i)) = true → ((0 : Int) = bif L.validOutline l then L.areaTo l l.n else (0 : Int)) ∧ (1 : Int) = bif L.validOutline l then (0 : Int) else (1 : Int))
 ∧ ((!L.validOutline (L.Sq.mk l.n fun (i : Nat) ↦ l.g i)) = false → ((∀ (i : Nat), i < l.n → [SV.int .i64 (l.g i).x, SV.int .i64 (l.g i).y] = [SV.int .i64 (l.g i).x, SV.int .i64 (l.g i).y]) ∧ L.small (L.Sq.mk l.n fun (i : Nat) ↦ l.g i)) ∧ (L.areaTo (L.Sq.mk l.n fun (i : Nat) ↦ l.g i) l.n = bif L.validOutline l then L.areaTo l l.n
 else (0 : Int)) ∧ (0 : Int) = bif L.validOutline l then (0 : Int) else (1 : Int))) (by kernel_rfl) (by
    refine ⟨⟨fun _ _ => rfl, trivial⟩, fun h => ?_, fun h => ?_⟩
    · have h : L.validOutline l = false := notT h
      rw [h]; exact ⟨rfl, rfl⟩
    · have hv : L.validOutline l = true := notF h
      rw [hv]; exact ⟨⟨fun _ _ => rfl, (validOutline_of hv).2.2.1⟩, rfl, rfl⟩)
theorem r1_Area_ok : SpecOk Tryz.prog 13 r1_Area_S := fnX Tryz.func13 (c := bodyOf Tryz.f13) (by kernel_rfl) mixed (fun args p r hs hp => by
  unfold r1_Area_s at hs
  split at hs
  · cases hs; exact ⟨_, _, r1_Area_vc _ hp.2, (.p (.sl hp.1) .nil), ⟨show SpecsL Tryz.prog _ from (SpecsL.cons r1_ValidOutline_ok r1_ValidOutline_en (SpecsL.cons r1_sum_ok r1_sum_en SpecsL.nil)), rfl, ⟨show ItersL Tryz.prog _ from ItersL.nil, (TrsOk.none (fun _ => rfl))⟩⟩⟩
  · cases hs)
theorem r1_Area_en : Enters Tryz.prog 13 := fun args w => by kernel_rfl
def r1_Bends_p (l : (L.Sq L.Pt)) : Prop := l.n ≤ 1000000
def r1_Bends_r (l : (L.Sq L.Pt)) : SV := .tup [.sl 1 (bif L.validOutline l then l.n else 0) (fun k => [.int .i64 (L.bend l k)]), .int .i64 (bif L.validOutline l then 0 else 1)]
def r1_Bends_s : List EV → Option (Prop × SV)
  | [.p (.sl 2 l_n l_g)] => some ((∀ i, i < l_n → l_g i = [.int .i64 ((ofPt (l_g i)).x), .int .i64 ((ofPt (l_g i)).y)]) ∧ r1_Bends_p (⟨l_n, fun i => ofPt (l_g i)⟩ : (L.Sq L.Pt)), r1_Bends_r (⟨l_n, fun i => ofPt (l_g i)⟩ : (L.Sq L.Pt)))
  | _ => none
abbrev r1_Bends_S : SE.Spec := (specO r1_Bends_s)
def r1_Bends_C : Cfg := { muts := [], frz := lookN [], specs := lookS [(11, r1_ValidOutline_S), (53, r1_at_S), (31, r1_Cross_S), (55, r1_sign_S)], loops := fun _ => none, iters := lookI [], rfs := lookR [], nils := lookM [(4, [(4, 31, 3, 1)])] }
theorem r1_Bends_vc (l : (L.Sq L.Pt)) (hp : r1_Bends_p l) : vc Tryz.prog ({ r1_Bends_C with loops := lookL [(5, { T := Nat, keep := [0, 4], keepO := [], chg := fun i => [(5, .p (.int .i64 (i : Int)))], own := fun i => [(31, .row 3 1 i (fun k => [.int .i64 (L.bend l k)]))], inv := fun i => i ≤ l.n, mu := fun i => l.n - i })], rfs := lookR [] }) (bodyOf Tryz.f15) (st0 Tryz.f15 [.p (.sl 2 l.n (fun i => [.int .i64 ((l.g i).x), .int .i64 ((l.g i).y)]))]) (retFn Tryz.prog Tryz.f15 (r1_Bends_r l)) :=
  @Eq.mpr _ (((∀ (i : Nat), i < l.n → [SV.int .i64 (l.g i).x, SV.int .i64 (l.g i).y] = [SV.int .i64 (l.g i).x, SV.int .i64 (l.g i).y]) ∧ True) ∧ ((!L.validOutline (L.Sq.mk l.n fun (i : Nat) ↦ l.g i)) = true → (bif L.validOutline l then l.n else (0 : Nat)) = (0 : Nat) ∧ (1 : Int) = bif L.validOutline l then (0 : Int) else (1 : Int)) ∧
 ((!L.validOutline (L.Sq.mk l.n fun (i : Nat) ↦ l.g i)) = false → (∃ (g : Nat), (0 : Int) = (↑g : Int) ∧ (nat_lit 0 = g ∧ ∀ (i : Nat), i < nat_lit 0 → [] = [SV.int .i64 (L.bend l i)]) ∧ g ≤ l.n) ∧ ∀ (g : Nat), g ≤ l.n → (decide ((↑g : Int) < (↑l.n : Int)) = true → InK .i64 ((↑g : Int) - (1 : Int)) ∧ ((∀ (i : Nat), i < l.n → [SV.int
 .i64 (l.g i).x, SV.int .i64 (l.g i).y] = [SV.int .i64 (l.g i).x, SV.int .i64 (l.g i).y]) ∧ (1 : Nat) ≤ l.n ∧ l.n ≤ (1000000 : Nat) ∧ (-1000000 : Int) ≤ (↑g : Int) - (1 : Int) ∧ (↑g : Int) - (1 : Int) ≤ (1000000 : Int)) ∧ ((0 : Int) ≤ (↑g : Int) ∧ (↑g : Int) < (↑l.n : Int)) ∧ InK .i64 ((↑g : Int) + (1 : Int)) ∧ ((∀ (i : Nat),
 i < l.n → [SV.int .i64 (l.g i).x, SV.int .i64 (l.g i).y] = [SV.int .i64 (l.g i).x, SV.int .i64 (l.g i).y]) ∧ (1 : Nat) ≤ l.n ∧ l.n ≤ (1000000 : Nat) ∧ (-1000000 : Int) ≤ (↑g : Int) + (1 : Int) ∧ (↑g : Int) + (1 : Int) ≤ (1000000 : Int)) ∧ (L.bd (l.g (L.ix l.n ((↑g : Int) - (1 : Int)))) ∧ L.bd (l.g (Int.toNat (↑g : Int))) ∧ L.bd (l.g
 (L.ix l.n ((↑g : Int) + (1 : Int))))) ∧ True ∧ (g + nat_lit 1) * nat_lit 8 ≤ (140737488355328 : Nat) ∧ InK .i64 ((↑g : Int) + (1 : Int)) ∧ ∃ (g' : Nat), (↑g : Int) + (1 : Int) = (↑g' : Int) ∧ (l.n = l.n ∧ ∀ (i : Nat), i < l.n → [SV.int .i64 (l.g i).x, SV.int .i64 (l.g i).y] = [SV.int .i64 (l.g i).x, SV.int .i64 (l.g
 i).y]) ∧ (g + nat_lit 1 = g' ∧ ∀ (i : Nat), i < g + nat_lit 1 → appGet g (fun (k : Nat) ↦ [SV.int .i64 (L.bend l k)]) (fun (x : Nat) ↦ [SV.int .i64 (L.cmp (L.cross (l.g (L.ix l.n ((↑g : Int) - (1 : Int)))) (l.g (Int.toNat (↑g : Int))) (l.g (L.ix l.n ((↑g : Int) + (1 : Int))))) (0 : Int))]) i = [SV.int .i64 (L.bend l i)]) ∧ g' ≤ l.n ∧ l.n - g' <
 l.n - g) ∧ (decide ((↑g : Int) < (↑l.n : Int)) = false → ((g = bif L.validOutline l then l.n else (0 : Nat)) ∧ ∀ (i : Nat), i < g → [SV.int .i64 (L.bend l i)] = [SV.int .i64 (L.bend l i)]) ∧ (0 : Int) = bif L.validOutline l then (0 : Int) else (1 : Int)))) (by kernel_rfl) (by
    have hn : l.n ≤ 1000000 := hp
    refine ⟨⟨fun _ _ => rfl, trivial⟩, fun h => ?_, fun h => ?_⟩
    · have h : L.validOutline l = false := notT h
      rw [h]; exact ⟨rfl, rfl⟩
    have hv : L.validOutline l = true := notF h
    obtain ⟨n3, n24, _, hbd⟩ := validOutline_of hv
    refine ⟨⟨(0 : Nat), rfl, ⟨rfl, fun i hi => absurd hi (Nat.not_lt_zero _)⟩, Nat.zero_le _⟩, fun g hg => ⟨fun hlt => ?_, fun hge => ?_⟩⟩
    · have hlt : (g : Int) < (l.n : Int) := of_decide_eq_true hlt
      have hk : g < l.n := by omega
      rw [ix_next hk, ix_prev hk]
      refine ⟨InK.of (by omega) (by omega), ⟨fun _ _ => rfl, by omega, by omega, by omega, by omega⟩, ⟨by omega, hlt⟩, InK.of (by omega) (by omega), ⟨fun _ _ => rfl, by omega, by omega, by omega, by omega⟩, ⟨hbd.2 _ (prev_lt (by omega)), hbd.2 g hk, hbd.2 _ (next_lt (by omega))⟩, trivial, show (g + 1) * 8 ≤ 140737488355328 by omega, InK.of (by omega) (by omega), g + 1, by omega, ⟨rfl, fun _ _ => rfl⟩, ⟨rfl, fun i hi => ?_⟩, by omega, by omega⟩
      have hi : i < g + 1 := hi
      unfold appGet
      by_cases h' : i < g
      · rw [if_pos h']
      · rw [if_neg h', show i = g by omega]; rfl
    · have hge : ¬ (g : Int) < (l.n : Int) := of_decide_eq_false hge
      obtain rfl : g = l.n := by omega
      rw [hv]; exact ⟨⟨rfl, fun _ _ => rfl⟩, rfl⟩)
theorem r1_Bends_ok : SpecOk Tryz.prog 15 r1_Bends_S := fnX Tryz.func15 (c := bodyOf Tryz.f15) (by kernel_rfl) mixed (fun args p r hs hp => by
  unfold r1_Bends_s at hs
  split at hs
  · cases hs; exact ⟨_, _, r1_Bends_vc _ hp.2, (.p (.sl hp.1) .nil), ⟨show SpecsL Tryz.prog _ from (SpecsL.cons r1_ValidOutline_ok r1_ValidOutline_en (SpecsL.cons r1_at_ok r1_at_en (SpecsL.cons r1_Cross_ok r1_Cross_en (SpecsL.cons r1_sign_ok r1_sign_en SpecsL.nil)))), rfl, ⟨show ItersL Tryz.prog _ from ItersL.nil, (TrsOk.none (fun _ => rfl))⟩⟩⟩
  · cases hs)
theorem r1_Bends_en : Enters Tryz.prog 15 := fun args w => by kernel_rfl
def p_Grid_p (l : (L.Sq L.Pt)) : Prop := l.n ≤ 1000000
def p_Grid_r (l : (L.Sq L.Pt)) : SV := .tup [.int .i64 (L.grN l), .int .i64 (L.grI l), .int .i64 (L.oE l)]
def p_Grid_s : List EV → Option (Prop × SV)
  | [.p (.sl 2 l_n l_g)] => some ((∀ i, i < l_n → l_g i = [.int .i64 ((ofPt (l_g i)).x), .int .i64 ((ofPt (l_g i)).y)]) ∧ p_Grid_p (⟨l_n, fun i => ofPt (l_g i)⟩ : (L.Sq L.Pt)), p_Grid_r (⟨l_n, fun i => ofPt (l_g i)⟩ : (L.Sq L.Pt)))
  | _ => none
abbrev p_Grid_S : SE.Spec := (specO p_Grid_s)
def p_Grid_C : Cfg := { muts := [2, 6], frz := lookN [], specs := lookS [(10, p_ValidOutline_S), (50, p_triples_S), (56, p_gcd_S), (49, p_area_S)], loops := lookL [], iters := lookI [(96, p_triples1_it)], rfs := lookR [], nils := lookM [], anys := [6] }
theorem p_Grid_vc (l : (L.Sq L.Pt)) (hp : p_Grid_p l) : vc Tryz.prog ({ p_Grid_C with loops := lookL [], rfs := lookR [(4, { T := Nat, keep := [0, 2], keepO := [], own := fun k _ => [(2, .blk 3 [.p (.int .i64 (L.gridTo l k))])], inv := fun k _ => k ≤ l.n })] }) (bodyOf Tryz.f17) (st0 Tryz.f17 [.p (.sl 2 l.n (fun i => [.int .i64 ((l.g i).x), .int .i64 ((l.g i).y)]))]) (retFn Tryz.prog Tryz.f17 (p_Grid_r l)) :=
  @Eq.mpr _ (((∀ (i : Nat), i < l.n → [SV.int .i64 (l.g i).x, SV.int .i64 (l.g i).y] = [SV.int .i64 (l.g i).x, SV.int .i64 (l.g i).y]) ∧ l.n ≤ (1000000 : Nat)) ∧ ((!L.validOutline (L.Sq.mk l.n fun (i : Nat) ↦ l.g i)) = true → (0 : Int) = L.grN l ∧ (0 : Int) = L.grI l ∧ (1 : Int) = L.oE l) ∧ ((!L.validOutline (L.Sq.mk l.n fun (i : Nat) ↦ l.g
 i)) = false → ((∀ (i : Nat), i < l.n → [SV.int .i64 (l.g i).x, SV.int .i64 (l.g i).y] = [SV.int .i64 (l.g i).x, SV.int .i64 (l.g i).y]) ∧ l.n ≤ (1000 : Nat)) ∧ (((∀ (i : Nat), i < l.n → [SV.int .i64 (l.g i).x, SV.int .i64 (l.g i).y] = [SV.int .i64 (l.g i).x, SV.int
 .i64 (l.g i).y]) ∧ l.n ≤ (1000 : Nat)) ∧ ∃ (t : Nat), (0 : Int) = L.gridTo l (0 : Nat) ∧ (0 : Nat) ≤ l.n) ∧ (∀ (k t : Nat) (vk : Nat → Go.Value), k < l.n → k ≤ l.n → ((0 : Int) ≤ (2 : Int) ∧ (2 : Int) < (↑(3 : Nat) : Int)) ∧ ((0 : Int) ≤ (1 : Int) ∧ (1 : Int) < (↑(3 : Nat) : Int)) ∧ InK .i64 ((l.g (Int.toNat (Int.tmod ((↑k : Int) + (1 : Int)) (↑l.n : Int)))).x - (l.g
 (Int.toNat (↑k : Int))).x) ∧ ((0 : Int) ≤ (2 : Int) ∧ (2 : Int) < (↑(3 : Nat) : Int)) ∧ ((0 : Int) ≤ (1 : Int) ∧ (1 : Int) < (↑(3 : Nat) : Int)) ∧ InK .i64 ((l.g (Int.toNat (Int.tmod ((↑k : Int) + (1 : Int)) (↑l.n : Int)))).y - (l.g (Int.toNat (↑k : Int))).y) ∧ (((-4611686018427387904 : Int) ≤ (l.g (Int.toNat (Int.tmod ((↑k : Int) + (1 : Int)) (↑l.n : Int)))).x - (l.g (Int.toNat
 (↑k : Int))).x ∧ (l.g (Int.toNat (Int.tmod ((↑k : Int) + (1 : Int)) (↑l.n : Int)))).x - (l.g (Int.toNat (↑k : Int))).x ≤ (4611686018427387904 : Int)) ∧ (-4611686018427387904 : Int) ≤ (l.g (Int.toNat (Int.tmod ((↑k : Int) + (1 : Int)) (↑l.n : Int)))).y - (l.g (Int.toNat (↑k : Int))).y ∧ (l.g (Int.toNat (Int.tmod ((↑k : Int) + (1 : Int)) (↑l.n : Int)))).y - (l.g (Int.toNat (↑k : Int))).y ≤
 (4611686018427387904 : Int)) ∧ InK .i64 (L.gridTo l k + L.gcd ((l.g (Int.toNat (Int.tmod ((↑k : Int) + (1 : Int)) (↑l.n : Int)))).x - (l.g (Int.toNat (↑k : Int))).x) ((l.g (Int.toNat (Int.tmod ((↑k : Int) + (1 : Int)) (↑l.n : Int)))).y - (l.g (Int.toNat (↑k : Int))).y)) ∧ ∃ (t' : Nat), nat_lit 0 = nat_lit 0 ∧ (l.n = l.n ∧ ∀ (i : Nat), i < l.n → [SV.int .i64 (l.g
 i).x, SV.int .i64 (l.g i).y] = [SV.int .i64 (l.g i).x, SV.int .i64 (l.g i).y]) ∧ vk (nat_lit 2) = vk (nat_lit 2) ∧ vk (nat_lit 0) = vk (nat_lit 0) ∧ L.gridTo l k + L.gcd ((l.g (Int.toNat (Int.tmod ((↑k : Int) + (1 : Int)) (↑l.n : Int)))).x - (l.g (Int.toNat (↑k : Int))).x) ((l.g (Int.toNat (Int.tmod ((↑k : Int) + (1 : Int)) (↑l.n : Int)))).y - (l.g
 (Int.toNat (↑k : Int))).y) = L.gridTo l (k + (1 : Nat)) ∧ k + (1 : Nat) ≤ l.n) ∧ ∀ (t : Nat), l.n ≤ l.n → (((((∀ (i : Nat), i < l.n → [SV.int .i64 (l.g i).x, SV.int .i64 (l.g i).y] = [SV.int .i64 (l.g i).x, SV.int .i64 (l.g i).y]) ∧ L.small (L.Sq.mk l.n fun (i : Nat) ↦ l.g i)) ∧ (InK .i64 (L.areaTo (L.Sq.mk l.n fun (i
 : Nat) ↦ l.g i) l.n - L.gridTo l l.n) ∧ (InK .i64 (L.areaTo (L.Sq.mk l.n fun (i : Nat) ↦ l.g i) l.n - L.gridTo l l.n + (2 : Int)) ∧ ((2 : Int) ≠ (0 : Int) ∧ InK .i64 (Int.tdiv (L.areaTo (L.Sq.mk l.n fun (i : Nat) ↦ l.g i) l.n - L.gridTo l l.n + (2 : Int)) (2 : Int)) ∧ L.gridTo l l.n = L.grN l ∧ Int.tdiv (L.areaTo (L.Sq.mk l.n fun (i : Nat) ↦ l.g i) l.n - L.gridTo l
 l.n + (2 : Int)) (2 : Int) = L.grI l ∧ (0 : Int) = L.oE l) ∧ (2 : Int) ≠ (0 : Int) ∧ InK .i64 (Int.tdiv (L.areaTo (L.Sq.mk l.n fun (i : Nat) ↦ l.g i) l.n - L.gridTo l l.n + (2 : Int)) (2 : Int)) ∧ L.gridTo l l.n = L.grN l ∧ Int.tdiv (L.areaTo (L.Sq.mk l.n fun (i : Nat) ↦ l.g i) l.n - L.gridTo l l.n + (2 : Int)) (2 : Int) = L.grI l ∧ (0 : Int) = L.oE l) ∧ InK .i64
 (L.areaTo (L.Sq.mk l.n fun (i : Nat) ↦ l.g i) l.n - L.gridTo l l.n + (2 : Int)) ∧ (2 : Int) ≠ (0 : Int) ∧ InK .i64 (Int.tdiv (L.areaTo (L.Sq.mk l.n fun (i : Nat) ↦ l.g i) l.n - L.gridTo l l.n + (2 : Int)) (2 : Int)) ∧ L.gridTo l l.n = L.grN l ∧ Int.tdiv (L.areaTo (L.Sq.mk l.n fun (i : Nat) ↦ l.g i) l.n - L.gridTo l l.n + (2 : Int)) (2 : Int) = L.grI l ∧ (0 : Int) = L.oE l) ∧
 InK .i64 (L.areaTo (L.Sq.mk l.n fun (i : Nat) ↦ l.g i) l.n - L.gridTo l l.n) ∧ InK .i64 (L.areaTo (L.Sq.mk l.n fun (i : Nat) ↦ l.g i) l.n - L.gridTo l l.n + (2 : Int)) ∧ (2 : Int) ≠ (0 : Int) ∧ InK .i64 (Int.tdiv (L.areaTo (L.Sq.mk l.n fun (i : Nat) ↦ l.g i) l.n - L.gridTo l l.n + (2 : Int)) (2 : Int)) ∧ L.gridTo l l.n = L.grN l ∧ Int.tdiv (L.areaTo
 (L.Sq.mk l.n fun (i : Nat) ↦ l.g i) l.n - L.gridTo l l.n + (2 : Int)) (2 : Int) = L.grI l ∧ (0 : Int) = L.oE l) ∧ ((∀ (i : Nat), i < l.n → [SV.int .i64 (l.g i).x, SV.int .i64 (l.g i).y] = [SV.int .i64 (l.g i).x, SV.int .i64 (l.g i).y]) ∧ L.small (L.Sq.mk l.n fun (i : Nat) ↦ l.g i)) ∧ (InK .i64 (L.areaTo (L.Sq.mk l.n
 fun (i : Nat) ↦ l.g i) l.n - L.gridTo l l.n) ∧ (InK .i64 (L.areaTo (L.Sq.mk l.n fun (i : Nat) ↦ l.g i) l.n - L.gridTo l l.n + (2 : Int)) ∧ ((2 : Int) ≠ (0 : Int) ∧ InK .i64 (Int.tdiv (L.areaTo (L.Sq.mk l.n fun (i : Nat) ↦ l.g i) l.n - L.gridTo l l.n + (2 : Int)) (2 : Int)) ∧ L.gridTo l l.n = L.grN l ∧ Int.tdiv (L.areaTo (L.Sq.mk l.n fun (i : Nat) ↦ l.g i) l.n -
 L.gridTo l l.n + (2 : Int)) (2 : Int) = L.grI l ∧ (0 : Int) = L.oE l) ∧ (2 : Int) ≠ (0 : Int) ∧ InK .i64 (Int.tdiv (L.areaTo (L.Sq.mk l.n fun (i : Nat) ↦ l.g i) l.n - L.gridTo l l.n + (2 : Int)) (2 : Int)) ∧ L.gridTo l l.n = L.grN l ∧ Int.tdiv (L.areaTo (L.Sq.mk l.n fun (i : Nat) ↦ l.g i) l.n - L.gridTo l l.n + (2 : Int)) (2 : Int) = L.grI l ∧ (0 : Int) = L.oE l) ∧ InK
 .i64 (L.areaTo (L.Sq.mk l.n fun (i : Nat) ↦ l.g i) l.n - L.gridTo l l.n + (2 : Int)) ∧ (2 : Int) ≠ (0 : Int) ∧ InK .i64 (Int.tdiv (L.areaTo (L.Sq.mk l.n fun (i : Nat) ↦ l.g i) l.n - L.gridTo l l.n + (2 : Int)) (2 : Int)) ∧ L.gridTo l l.n = L.grN l ∧ Int.tdiv (L.areaTo (L.Sq.mk l.n fun (i : Nat) ↦ l.g i) l.n - L.gridTo l l.n + (2 : Int)) (2 : Int) = L.grI l ∧ (0 : Int) =
 L.oE l) ∧ InK .i64 (L.areaTo (L.Sq.mk l.n fun (i : Nat) ↦ l.g i) l.n - L.gridTo l l.n) ∧ InK .i64 (L.areaTo (L.Sq.mk l.n fun (i : Nat) ↦ l.g i) l.n - L.gridTo l l.n + (2 : Int)) ∧ (2 : Int) ≠ (0 : Int) ∧ InK .i64 (Int.tdiv (L.areaTo (L.Sq.mk l.n fun (i : Nat) ↦ l.g i) l.n - L.gridTo l l.n + (2 : Int)) (2 : Int)) ∧ L.gridTo l l.n = L.grN l ∧ Int.tdiv
 (L.areaTo (L.Sq.mk l.n fun (i : Nat) ↦ l.g i) l.n - L.gridTo l l.n + (2 : Int)) (2 : Int) = L.grI l ∧ (0 : Int) = L.oE l) ∧ ((∀ (i : Nat), i < l.n → [SV.int .i64 (l.g i).x, SV.int .i64 (l.g i).y] = [SV.int .i64 (l.g i).x, SV.int .i64 (l.g i).y]) ∧ L.small (L.Sq.mk l.n fun (i : Nat) ↦ l.g i)) ∧ (InK .i64 (L.areaTo
 (L.Sq.mk l.n fun (i : Nat) ↦ l.g i) l.n - L.gridTo l l.n) ∧ (InK .i64 (L.areaTo (L.Sq.mk l.n fun (i : Nat) ↦ l.g i) l.n - L.gridTo l l.n + (2 : Int)) ∧ ((2 : Int) ≠ (0 : Int) ∧ InK .i64 (Int.tdiv (L.areaTo (L.Sq.mk l.n fun (i : Nat) ↦ l.g i) l.n - L.gridTo l l.n + (2 : Int)) (2 : Int)) ∧ L.gridTo l l.n = L.grN l ∧ Int.tdiv (L.areaTo (L.Sq.mk l.n fun (i : Nat) ↦ l.g
 i) l.n - L.gridTo l l.n + (2 : Int)) (2 : Int) = L.grI l ∧ (0 : Int) = L.oE l) ∧ (2 : Int) ≠ (0 : Int) ∧ InK .i64 (Int.tdiv (L.areaTo (L.Sq.mk l.n fun (i : Nat) ↦ l.g i) l.n - L.gridTo l l.n + (2 : Int)) (2 : Int)) ∧ L.gridTo l l.n = L.grN l ∧ Int.tdiv (L.areaTo (L.Sq.mk l.n fun (i : Nat) ↦ l.g i) l.n - L.gridTo l l.n + (2 : Int)) (2 : Int) = L.grI l ∧ (0 : Int) = L.oE l) ∧
 InK .i64 (L.areaTo (L.Sq.mk l.n fun (i : Nat) ↦ l.g i) l.n - L.gridTo l l.n + (2 : Int)) ∧ (2 : Int) ≠ (0 : Int) ∧ InK .i64 (Int.tdiv (L.areaTo (L.Sq.mk l.n fun (i : Nat) ↦ l.g i) l.n - L.gridTo l l.n + (2 : Int)) (2 : Int)) ∧ L.gridTo l l.n = L.grN l ∧ Int.tdiv (L.areaTo (L.Sq.mk l.n fun (i : Nat) ↦ l.g i) l.n - L.gridTo l l.n + (2 : Int)) (2 : Int) = L.grI l ∧ (0
 : Int) = L.oE l) ∧ InK .i64 (L.areaTo (L.Sq.mk l.n fun (i : Nat) ↦ l.g i) l.n - L.gridTo l l.n) ∧ InK .i64 (L.areaTo (L.Sq.mk l.n fun (i : Nat) ↦ l.g i) l.n - L.gridTo l l.n + (2 : Int)) ∧ (2 : Int) ≠ (0 : Int) ∧ InK .i64 (Int.tdiv (L.areaTo (L.Sq.mk l.n fun (i : Nat) ↦ l.g i) l.n - L.gridTo l l.n + (2 : Int)) (2 : Int)) ∧ L.gridTo l l.n = L.grN l ∧
 Int.tdiv (L.areaTo (L.Sq.mk l.n fun (i : Nat) ↦ l.g i) l.n - L.gridTo l l.n + (2 : Int)) (2 : Int) = L.grI l ∧ (0 : Int) = L.oE l) ∧ (((((∀ (i : Nat), i < l.n → [SV.int .i64 (l.g i).x, SV.int .i64 (l.g i).y] = [SV.int .i64 (l.g i).x, SV.int .i64 (l.g i).y]) ∧ L.small (L.Sq.mk l.n fun (i : Nat) ↦ l.g i)) ∧ (InK .i64
 (L.areaTo (L.Sq.mk l.n fun (i : Nat) ↦ l.g i) l.n - L.gridTo l l.n) ∧ (InK .i64 (L.areaTo (L.Sq.mk l.n fun (i : Nat) ↦ l.g i) l.n - L.gridTo l l.n + (2 : Int)) ∧ ((2 : Int) ≠ (0 : Int) ∧ InK .i64 (Int.tdiv (L.areaTo (L.Sq.mk l.n fun (i : Nat) ↦ l.g i) l.n - L.gridTo l l.n + (2 : Int)) (2 : Int)) ∧ L.gridTo l l.n = L.grN l ∧ Int.tdiv (L.areaTo (L.Sq.mk l.n fun (i :
 Nat) ↦ l.g i) l.n - L.gridTo l l.n + (2 : Int)) (2 : Int) = L.grI l ∧ (0 : Int) = L.oE l) ∧ (2 : Int) ≠ (0 : Int) ∧ InK .i64 (Int.tdiv (L.areaTo (L.Sq.mk l.n fun (i : Nat) ↦ l.g i) l.n - L.gridTo l l.n + (2 : Int)) (2 : Int)) ∧ L.gridTo l l.n = L.grN l ∧ Int.tdiv (L.areaTo (L.Sq.mk l.n fun (i : Nat) ↦ l.g i) l.n - L.gridTo l l.n + (2 : Int)) (2 : Int) = L.grI l ∧ (0 : Int) = L.oE
 l) ∧ InK .i64 (L.areaTo (L.Sq.mk l.n fun (i : Nat) ↦ l.g i) l.n - L.gridTo l l.n + (2 : Int)) ∧ (2 : Int) ≠ (0 : Int) ∧ InK .i64 (Int.tdiv (L.areaTo (L.Sq.mk l.n fun (i : Nat) ↦ l.g i) l.n - L.gridTo l l.n + (2 : Int)) (2 : Int)) ∧ L.gridTo l l.n = L.grN l ∧ Int.tdiv (L.areaTo (L.Sq.mk l.n fun (i : Nat) ↦ l.g i) l.n - L.gridTo l l.n + (2 : Int)) (2 : Int) = L.grI l
 ∧ (0 : Int) = L.oE l) ∧ InK .i64 (L.areaTo (L.Sq.mk l.n fun (i : Nat) ↦ l.g i) l.n - L.gridTo l l.n) ∧ InK .i64 (L.areaTo (L.Sq.mk l.n fun (i : Nat) ↦ l.g i) l.n - L.gridTo l l.n + (2 : Int)) ∧ (2 : Int) ≠ (0 : Int) ∧ InK .i64 (Int.tdiv (L.areaTo (L.Sq.mk l.n fun (i : Nat) ↦ l.g i) l.n - L.gridTo l l.n + (2 : Int)) (2 : Int)) ∧ L.gridTo l l.n = L.grN
 l ∧ Int.tdiv (L.areaTo (L.Sq.mk l.n fun (i : Nat) ↦ l.g i) l.n - L.gridTo l l.n + (2 : Int)) (2 : Int) = L.grI l ∧ (0 : Int) = L.oE l) ∧ ((∀ (i : Nat), i < l.n → [SV.int .i64 (l.g i).x, SV.int .i64 (l.g i).y] = [SV.int .i64 (l.g i).x, SV.int .i64 (l.g i).y]) ∧ L.small (L.Sq.mk l.n fun (i : Nat) ↦ l.g i)) ∧ (InK .i64
 (L.areaTo (L.Sq.mk l.n fun (i : Nat) ↦ l.g i) l.n - L.gridTo l l.n) ∧ (InK .i64 (L.areaTo (L.Sq.mk l.n fun (i : Nat) ↦ l.g i) l.n - L.gridTo l l.n + (2 : Int)) ∧ ((2 : Int) ≠ (0 : Int) ∧ InK .i64 (Int.tdiv (L.areaTo (L.Sq.mk l.n fun (i : Nat) ↦ l.g i) l.n - L.gridTo l l.n + (2 : Int)) (2 : Int)) ∧ L.gridTo l l.n = L.grN l ∧ Int.tdiv (L.areaTo (L.Sq.mk l.n fun (i :
 Nat) ↦ l.g i) l.n - L.gridTo l l.n + (2 : Int)) (2 : Int) = L.grI l ∧ (0 : Int) = L.oE l) ∧ (2 : Int) ≠ (0 : Int) ∧ InK .i64 (Int.tdiv (L.areaTo (L.Sq.mk l.n fun (i : Nat) ↦ l.g i) l.n - L.gridTo l l.n + (2 : Int)) (2 : Int)) ∧ L.gridTo l l.n = L.grN l ∧ Int.tdiv (L.areaTo (L.Sq.mk l.n fun (i : Nat) ↦ l.g i) l.n - L.gridTo l l.n + (2 : Int)) (2 : Int) = L.grI l ∧ (0 : Int) = L.oE
 l) ∧ InK .i64 (L.areaTo (L.Sq.mk l.n fun (i : Nat) ↦ l.g i) l.n - L.gridTo l l.n + (2 : Int)) ∧ (2 : Int) ≠ (0 : Int) ∧ InK .i64 (Int.tdiv (L.areaTo (L.Sq.mk l.n fun (i : Nat) ↦ l.g i) l.n - L.gridTo l l.n + (2 : Int)) (2 : Int)) ∧ L.gridTo l l.n = L.grN l ∧ Int.tdiv (L.areaTo (L.Sq.mk l.n fun (i : Nat) ↦ l.g i) l.n - L.gridTo l l.n + (2 : Int)) (2 : Int) = L.grI l
 ∧ (0 : Int) = L.oE l) ∧ InK .i64 (L.areaTo (L.Sq.mk l.n fun (i : Nat) ↦ l.g i) l.n - L.gridTo l l.n) ∧ InK .i64 (L.areaTo (L.Sq.mk l.n fun (i : Nat) ↦ l.g i) l.n - L.gridTo l l.n + (2 : Int)) ∧ (2 : Int) ≠ (0 : Int) ∧ InK .i64 (Int.tdiv (L.areaTo (L.Sq.mk l.n fun (i : Nat) ↦ l.g i) l.n - L.gridTo l l.n + (2 : Int)) (2 : Int)) ∧ L.gridTo l l.n = L.grN
 l ∧ Int.tdiv (L.areaTo (L.Sq.mk l.n fun (i : Nat) ↦ l.g i) l.n - L.gridTo l l.n + (2 : Int)) (2 : Int) = L.grI l ∧ (0 : Int) = L.oE l) ∧ (((∀ (i : Nat), i < l.n → [SV.int .i64 (l.g i).x, SV.int .i64 (l.g i).y] = [SV.int .i64 (l.g i).x, SV.int .i64 (l.g i).y]) ∧ L.small (L.Sq.mk l.n fun (i : Nat) ↦ l.g i)) ∧ ((InK .i64
 (L.areaTo (L.Sq.mk l.n fun (i : Nat) ↦ l.g i) l.n - L.gridTo l l.n) ∧ (InK .i64 (L.areaTo (L.Sq.mk l.n fun (i : Nat) ↦ l.g i) l.n - L.gridTo l l.n + (2 : Int)) ∧ ((2 : Int) ≠ (0 : Int) ∧ InK .i64 (Int.tdiv (L.areaTo (L.Sq.mk l.n fun (i : Nat) ↦ l.g i) l.n - L.gridTo l l.n + (2 : Int)) (2 : Int)) ∧ L.gridTo l l.n = L.grN l ∧ Int.tdiv (L.areaTo (L.Sq.mk l.n fun (i :
 Nat) ↦ l.g i) l.n - L.gridTo l l.n + (2 : Int)) (2 : Int) = L.grI l ∧ (0 : Int) = L.oE l) ∧ (2 : Int) ≠ (0 : Int) ∧ InK .i64 (Int.tdiv (L.areaTo (L.Sq.mk l.n fun (i : Nat) ↦ l.g i) l.n - L.gridTo l l.n + (2 : Int)) (2 : Int)) ∧ L.gridTo l l.n = L.grN l ∧ Int.tdiv (L.areaTo (L.Sq.mk l.n fun (i : Nat) ↦ l.g i) l.n - L.gridTo l l.n + (2 : Int)) (2 : Int) = L.grI l ∧ (0 : Int) = L.oE
 l) ∧ InK .i64 (L.areaTo (L.Sq.mk l.n fun (i : Nat) ↦ l.g i) l.n - L.gridTo l l.n + (2 : Int)) ∧ (2 : Int) ≠ (0 : Int) ∧ InK .i64 (Int.tdiv (L.areaTo (L.Sq.mk l.n fun (i : Nat) ↦ l.g i) l.n - L.gridTo l l.n + (2 : Int)) (2 : Int)) ∧ L.gridTo l l.n = L.grN l ∧ Int.tdiv (L.areaTo (L.Sq.mk l.n fun (i : Nat) ↦ l.g i) l.n - L.gridTo l l.n + (2 : Int)) (2 : Int) = L.grI l
 ∧ (0 : Int) = L.oE l) ∧ InK .i64 (L.areaTo (L.Sq.mk l.n fun (i : Nat) ↦ l.g i) l.n - L.gridTo l l.n) ∧ InK .i64 (L.areaTo (L.Sq.mk l.n fun (i : Nat) ↦ l.g i) l.n - L.gridTo l l.n + (2 : Int)) ∧ (2 : Int) ≠ (0 : Int) ∧ InK .i64 (Int.tdiv (L.areaTo (L.Sq.mk l.n fun (i : Nat) ↦ l.g i) l.n - L.gridTo l l.n + (2 : Int)) (2 : Int)) ∧ L.gridTo l l.n = L.grN
 l ∧ Int.tdiv (L.areaTo (L.Sq.mk l.n fun (i : Nat) ↦ l.g i) l.n - L.gridTo l l.n + (2 : Int)) (2 : Int) = L.grI l ∧ (0 : Int) = L.oE l) ∧ ((InK .i64 (L.areaTo (L.Sq.mk l.n fun (i : Nat) ↦ l.g i) l.n - L.gridTo l l.n) ∧ (InK .i64 (L.areaTo (L.Sq.mk l.n fun (i : Nat) ↦ l.g i) l.n - L.gridTo l l.n + (2 : Int)) ∧ ((2 : Int) ≠ (0 : Int) ∧ InK .i64
 (Int.tdiv (L.areaTo (L.Sq.mk l.n fun (i : Nat) ↦ l.g i) l.n - L.gridTo l l.n + (2 : Int)) (2 : Int)) ∧ L.gridTo l l.n = L.grN l ∧ Int.tdiv (L.areaTo (L.Sq.mk l.n fun (i : Nat) ↦ l.g i) l.n - L.gridTo l l.n + (2 : Int)) (2 : Int) = L.grI l ∧ (0 : Int) = L.oE l) ∧ (2 : Int) ≠ (0 : Int) ∧ InK .i64 (Int.tdiv (L.areaTo (L.Sq.mk l.n fun (i : Nat) ↦ l.g i) l.n - L.gridTo l l.n + (2 :
 Int)) (2 : Int)) ∧ L.gridTo l l.n = L.grN l ∧ Int.tdiv (L.areaTo (L.Sq.mk l.n fun (i : Nat) ↦ l.g i) l.n - L.gridTo l l.n + (2 : Int)) (2 : Int) = L.grI l ∧ (0 : Int) = L.oE l) ∧ InK .i64 (L.areaTo (L.Sq.mk l.n fun (i : Nat) ↦ l.g i) l.n - L.gridTo l l.n + (2 : Int)) ∧ (2 : Int) ≠ (0 : Int) ∧ InK .i64 (Int.tdiv (L.areaTo (L.Sq.mk l.n fun (i : Nat) ↦ l.g i) l.n -
 L.gridTo l l.n + (2 : Int)) (2 : Int)) ∧ L.gridTo l l.n = L.grN l ∧ Int.tdiv (L.areaTo (L.Sq.mk l.n fun (i : Nat) ↦ l.g i) l.n - L.gridTo l l.n + (2 : Int)) (2 : Int) = L.grI l ∧ (0 : Int) = L.oE l) ∧ InK .i64 (L.areaTo (L.Sq.mk l.n fun (i : Nat) ↦ l.g i) l.n - L.gridTo l l.n) ∧ InK .i64 (L.areaTo (L.Sq.mk l.n fun (i : Nat) ↦ l.g i) l.n - L.gridTo l l.n + (2 : Int))
 ∧ (2 : Int) ≠ (0 : Int) ∧ InK .i64 (Int.tdiv (L.areaTo (L.Sq.mk l.n fun (i : Nat) ↦ l.g i) l.n - L.gridTo l l.n + (2 : Int)) (2 : Int)) ∧ L.gridTo l l.n = L.grN l ∧ Int.tdiv (L.areaTo (L.Sq.mk l.n fun (i : Nat) ↦ l.g i) l.n - L.gridTo l l.n + (2 : Int)) (2 : Int) = L.grI l ∧ (0 : Int) = L.oE l) ∧ InK .i64 (L.areaTo (L.Sq.mk l.n fun (i : Nat) ↦ l.g i) l.n - L.gridTo
 l l.n) ∧ ((InK .i64 (L.areaTo (L.Sq.mk l.n fun (i : Nat) ↦ l.g i) l.n - L.gridTo l l.n + (2 : Int)) ∧ ((2 : Int) ≠ (0 : Int) ∧ InK .i64 (Int.tdiv (L.areaTo (L.Sq.mk l.n fun (i : Nat) ↦ l.g i) l.n - L.gridTo l l.n + (2 : Int)) (2 : Int)) ∧ L.gridTo l l.n = L.grN l ∧ Int.tdiv (L.areaTo (L.Sq.mk l.n fun (i : Nat) ↦ l.g i) l.n - L.gridTo l l.n + (2 : Int)) (2 : Int) =
 L.grI l ∧ (0 : Int) = L.oE l) ∧ (2 : Int) ≠ (0 : Int) ∧ InK .i64 (Int.tdiv (L.areaTo (L.Sq.mk l.n fun (i : Nat) ↦ l.g i) l.n - L.gridTo l l.n + (2 : Int)) (2 : Int)) ∧ L.gridTo l l.n = L.grN l ∧ Int.tdiv (L.areaTo (L.Sq.mk l.n fun (i : Nat) ↦ l.g i) l.n - L.gridTo l l.n + (2 : Int)) (2 : Int) = L.grI l ∧ (0 : Int) = L.oE l) ∧ InK .i64 (L.areaTo (L.Sq.mk l.n fun (i :
 Nat) ↦ l.g i) l.n - L.gridTo l l.n + (2 : Int)) ∧ (2 : Int) ≠ (0 : Int) ∧ InK .i64 (Int.tdiv (L.areaTo (L.Sq.mk l.n fun (i : Nat) ↦ l.g i) l.n - L.gridTo l l.n + (2 : Int)) (2 : Int)) ∧ L.gridTo l l.n = L.grN l ∧ Int.tdiv (L.areaTo (L.Sq.mk l.n fun (i : Nat) ↦ l.g i) l.n - L.gridTo l l.n + (2 : Int)) (2 : Int) = L.grI l ∧ (0 : Int) = L.oE l) ∧ InK .i64 (L.areaTo
 (L.Sq.mk l.n fun (i : Nat) ↦ l.g i) l.n - L.gridTo l l.n + (2 : Int)) ∧ (((2 : Int) ≠ (0 : Int) ∧ InK .i64 (Int.tdiv (L.areaTo (L.Sq.mk l.n fun (i : Nat) ↦ l.g i) l.n - L.gridTo l l.n + (2 : Int)) (2 : Int)) ∧ L.gridTo l l.n = L.grN l ∧ Int.tdiv (L.areaTo (L.Sq.mk l.n fun (i : Nat) ↦ l.g i) l.n - L.gridTo l l.n + (2 : Int)) (2 : Int) = L.grI l ∧ (0 : Int) = L.oE l) ∧ (2 : Int) ≠ (0
 : Int) ∧ InK .i64 (Int.tdiv (L.areaTo (L.Sq.mk l.n fun (i : Nat) ↦ l.g i) l.n - L.gridTo l l.n + (2 : Int)) (2 : Int)) ∧ L.gridTo l l.n = L.grN l ∧ Int.tdiv (L.areaTo (L.Sq.mk l.n fun (i : Nat) ↦ l.g i) l.n - L.gridTo l l.n + (2 : Int)) (2 : Int) = L.grI l ∧ (0 : Int) = L.oE l) ∧ (2 : Int) ≠ (0 : Int) ∧ InK .i64 (Int.tdiv (L.areaTo (L.Sq.mk l.n fun (i : Nat) ↦ l.g
 i) l.n - L.gridTo l l.n + (2 : Int)) (2 : Int)) ∧ L.gridTo l l.n = L.grN l ∧ Int.tdiv (L.areaTo (L.Sq.mk l.n fun (i : Nat) ↦ l.g i) l.n - L.gridTo l l.n + (2 : Int)) (2 : Int) = L.grI l ∧ (0 : Int) = L.oE l) ∧ (((∀ (i : Nat), i < l.n → [SV.int .i64 (l.g i).x, SV.int .i64 (l.g i).y] = [SV.int .i64 (l.g i).x, SV.int .i64 (l.g i).y]) ∧
 L.small (L.Sq.mk l.n fun (i : Nat) ↦ l.g i)) ∧ (InK .i64 (L.areaTo (L.Sq.mk l.n fun (i : Nat) ↦ l.g i) l.n - L.gridTo l l.n) ∧ (InK .i64 (L.areaTo (L.Sq.mk l.n fun (i : Nat) ↦ l.g i) l.n - L.gridTo l l.n + (2 : Int)) ∧ ((2 : Int) ≠ (0 : Int) ∧ InK .i64 (Int.tdiv (L.areaTo (L.Sq.mk l.n fun (i : Nat) ↦ l.g i) l.n - L.gridTo l l.n + (2 : Int)) (2 :
 Int)) ∧ L.gridTo l l.n = L.grN l ∧ Int.tdiv (L.areaTo (L.Sq.mk l.n fun (i : Nat) ↦ l.g i) l.n - L.gridTo l l.n + (2 : Int)) (2 : Int) = L.grI l ∧ (0 : Int) = L.oE l) ∧ (2 : Int) ≠ (0 : Int) ∧ InK .i64 (Int.tdiv (L.areaTo (L.Sq.mk l.n fun (i : Nat) ↦ l.g i) l.n - L.gridTo l l.n + (2 : Int)) (2 : Int)) ∧ L.gridTo l l.n = L.grN l ∧ Int.tdiv (L.areaTo (L.Sq.mk l.n fun (i : Nat) ↦ l.g
 i) l.n - L.gridTo l l.n + (2 : Int)) (2 : Int) = L.grI l ∧ (0 : Int) = L.oE l) ∧ InK .i64 (L.areaTo (L.Sq.mk l.n fun (i : Nat) ↦ l.g i) l.n - L.gridTo l l.n + (2 : Int)) ∧ (2 : Int) ≠ (0 : Int) ∧ InK .i64 (Int.tdiv (L.areaTo (L.Sq.mk l.n fun (i : Nat) ↦ l.g i) l.n - L.gridTo l l.n + (2 : Int)) (2 : Int)) ∧ L.gridTo l l.n = L.grN l ∧ Int.tdiv (L.areaTo (L.Sq.mk l.n
 fun (i : Nat) ↦ l.g i) l.n - L.gridTo l l.n + (2 : Int)) (2 : Int) = L.grI l ∧ (0 : Int) = L.oE l) ∧ InK .i64 (L.areaTo (L.Sq.mk l.n fun (i : Nat) ↦ l.g i) l.n - L.gridTo l l.n) ∧ InK .i64 (L.areaTo (L.Sq.mk l.n fun (i : Nat) ↦ l.g i) l.n - L.gridTo l l.n + (2 : Int)) ∧ (2 : Int) ≠ (0 : Int) ∧ InK .i64 (Int.tdiv (L.areaTo (L.Sq.mk l.n fun (i : Nat) ↦
 l.g i) l.n - L.gridTo l l.n + (2 : Int)) (2 : Int)) ∧ L.gridTo l l.n = L.grN l ∧ Int.tdiv (L.areaTo (L.Sq.mk l.n fun (i : Nat) ↦ l.g i) l.n - L.gridTo l l.n + (2 : Int)) (2 : Int) = L.grI l ∧ (0 : Int) = L.oE l) ∧ ((∀ (i : Nat), i < l.n → [SV.int .i64 (l.g i).x, SV.int .i64 (l.g i).y] = [SV.int .i64 (l.g i).x, SV.int .i64 (l.g i).y])
 ∧ L.small (L.Sq.mk l.n fun (i : Nat) ↦ l.g i)) ∧ ((InK .i64 (L.areaTo (L.Sq.mk l.n fun (i : Nat) ↦ l.g i) l.n - L.gridTo l l.n) ∧ (InK .i64 (L.areaTo (L.Sq.mk l.n fun (i : Nat) ↦ l.g i) l.n - L.gridTo l l.n + (2 : Int)) ∧ ((2 : Int) ≠ (0 : Int) ∧ InK .i64 (Int.tdiv (L.areaTo (L.Sq.mk l.n fun (i : Nat) ↦ l.g i) l.n - L.gridTo l l.n + (2 : Int)) (2 :
 Int)) ∧ L.gridTo l l.n = L.grN l ∧ Int.tdiv (L.areaTo (L.Sq.mk l.n fun (i : Nat) ↦ l.g i) l.n - L.gridTo l l.n + (2 : Int)) (2 : Int) = L.grI l ∧ (0 : Int) = L.oE l) ∧ (2 : Int) ≠ (0 : Int) ∧ InK .i64 (Int.tdiv (L.areaTo (L.Sq.mk l.n fun (i : Nat) ↦ l.g i) l.n - L.gridTo l l.n + (2 : Int)) (2 : Int)) ∧ L.gridTo l l.n = L.grN l ∧ Int.tdiv (L.areaTo (L.Sq.mk l.n fun (i : Nat) ↦ l.g
 i) l.n - L.gridTo l l.n + (2 : Int)) (2 : Int) = L.grI l ∧ (0 : Int) = L.oE l) ∧ InK .i64 (L.areaTo (L.Sq.mk l.n fun (i : Nat) ↦ l.g i) l.n - L.gridTo l l.n + (2 : Int)) ∧ (2 : Int) ≠ (0 : Int) ∧ InK .i64 (Int.tdiv (L.areaTo (L.Sq.mk l.n fun (i : Nat) ↦ l.g i) l.n - L.gridTo l l.n + (2 : Int)) (2 : Int)) ∧ L.gridTo l l.n = L.grN l ∧ Int.tdiv (L.areaTo (L.Sq.mk l.n
 fun (i : Nat) ↦ l.g i) l.n - L.gridTo l l.n + (2 : Int)) (2 : Int) = L.grI l ∧ (0 : Int) = L.oE l) ∧ InK .i64 (L.areaTo (L.Sq.mk l.n fun (i : Nat) ↦ l.g i) l.n - L.gridTo l l.n) ∧ InK .i64 (L.areaTo (L.Sq.mk l.n fun (i : Nat) ↦ l.g i) l.n - L.gridTo l l.n + (2 : Int)) ∧ (2 : Int) ≠ (0 : Int) ∧ InK .i64 (Int.tdiv (L.areaTo (L.Sq.mk l.n fun (i : Nat) ↦
 l.g i) l.n - L.gridTo l l.n + (2 : Int)) (2 : Int)) ∧ L.gridTo l l.n = L.grN l ∧ Int.tdiv (L.areaTo (L.Sq.mk l.n fun (i : Nat) ↦ l.g i) l.n - L.gridTo l l.n + (2 : Int)) (2 : Int) = L.grI l ∧ (0 : Int) = L.oE l) ∧ InK .i64 (L.areaTo (L.Sq.mk l.n fun (i : Nat) ↦ l.g i) l.n - L.gridTo l l.n) ∧ ((InK .i64 (L.areaTo (L.Sq.mk l.n fun (i : Nat) ↦ l.g i) l.n - L.gridTo l
 l.n + (2 : Int)) ∧ ((2 : Int) ≠ (0 : Int) ∧ InK .i64 (Int.tdiv (L.areaTo (L.Sq.mk l.n fun (i : Nat) ↦ l.g i) l.n - L.gridTo l l.n + (2 : Int)) (2 : Int)) ∧ L.gridTo l l.n = L.grN l ∧ Int.tdiv (L.areaTo (L.Sq.mk l.n fun (i : Nat) ↦ l.g i) l.n - L.gridTo l l.n + (2 : Int)) (2 : Int) = L.grI l ∧ (0 : Int) = L.oE l) ∧ (2 : Int) ≠ (0 : Int) ∧ InK .i64 (Int.tdiv (L.areaTo
 (L.Sq.mk l.n fun (i : Nat) ↦ l.g i) l.n - L.gridTo l l.n + (2 : Int)) (2 : Int)) ∧ L.gridTo l l.n = L.grN l ∧ Int.tdiv (L.areaTo (L.Sq.mk l.n fun (i : Nat) ↦ l.g i) l.n - L.gridTo l l.n + (2 : Int)) (2 : Int) = L.grI l ∧ (0 : Int) = L.oE l) ∧ InK .i64 (L.areaTo (L.Sq.mk l.n fun (i : Nat) ↦ l.g i) l.n - L.gridTo l l.n + (2 : Int)) ∧ (2 : Int) ≠ (0 : Int) ∧ InK .i64
 (Int.tdiv (L.areaTo (L.Sq.mk l.n fun (i : Nat) ↦ l.g i) l.n - L.gridTo l l.n + (2 : Int)) (2 : Int)) ∧ L.gridTo l l.n = L.grN l ∧ Int.tdiv (L.areaTo (L.Sq.mk l.n fun (i : Nat) ↦ l.g i) l.n - L.gridTo l l.n + (2 : Int)) (2 : Int) = L.grI l ∧ (0 : Int) = L.oE l) ∧ InK .i64 (L.areaTo (L.Sq.mk l.n fun (i : Nat) ↦ l.g i) l.n - L.gridTo l l.n + (2 : Int)) ∧ (((2 : Int) ≠ (0 : Int) ∧
 InK .i64 (Int.tdiv (L.areaTo (L.Sq.mk l.n fun (i : Nat) ↦ l.g i) l.n - L.gridTo l l.n + (2 : Int)) (2 : Int)) ∧ L.gridTo l l.n = L.grN l ∧ Int.tdiv (L.areaTo (L.Sq.mk l.n fun (i : Nat) ↦ l.g i) l.n - L.gridTo l l.n + (2 : Int)) (2 : Int) = L.grI l ∧ (0 : Int) = L.oE l) ∧ (2 : Int) ≠ (0 : Int) ∧ InK .i64 (Int.tdiv (L.areaTo (L.Sq.mk l.n fun (i : Nat) ↦ l.g i) l.n -
 L.gridTo l l.n + (2 : Int)) (2 : Int)) ∧ L.gridTo l l.n = L.grN l ∧ Int.tdiv (L.areaTo (L.Sq.mk l.n fun (i : Nat) ↦ l.g i) l.n - L.gridTo l l.n + (2 : Int)) (2 : Int) = L.grI l ∧ (0 : Int) = L.oE l) ∧ (2 : Int) ≠ (0 : Int) ∧ InK .i64 (Int.tdiv (L.areaTo (L.Sq.mk l.n fun (i : Nat) ↦ l.g i) l.n - L.gridTo l l.n + (2 : Int)) (2 : Int)) ∧ L.gridTo l l.n = L.grN l ∧ Int.tdiv (L.areaTo
 (L.Sq.mk l.n fun (i : Nat) ↦ l.g i) l.n - L.gridTo l l.n + (2 : Int)) (2 : Int) = L.grI l ∧ (0 : Int) = L.oE l) ∧ (((∀ (i : Nat), i < l.n → [SV.int .i64 (l.g i).x, SV.int .i64 (l.g i).y] = [SV.int .i64 (l.g i).x, SV.int .i64 (l.g i).y]) ∧ L.small (L.Sq.mk l.n fun (i : Nat) ↦ l.g i)) ∧ (InK .i64 (L.areaTo (L.Sq.mk l.n
 fun (i : Nat) ↦ l.g i) l.n - L.gridTo l l.n) ∧ (InK .i64 (L.areaTo (L.Sq.mk l.n fun (i : Nat) ↦ l.g i) l.n - L.gridTo l l.n + (2 : Int)) ∧ ((2 : Int) ≠ (0 : Int) ∧ InK .i64 (Int.tdiv (L.areaTo (L.Sq.mk l.n fun (i : Nat) ↦ l.g i) l.n - L.gridTo l l.n + (2 : Int)) (2 : Int)) ∧ L.gridTo l l.n = L.grN l ∧ Int.tdiv (L.areaTo (L.Sq.mk l.n fun (i : Nat) ↦ l.g i) l.n -
 L.gridTo l l.n + (2 : Int)) (2 : Int) = L.grI l ∧ (0 : Int) = L.oE l) ∧ (2 : Int) ≠ (0 : Int) ∧ InK .i64 (Int.tdiv (L.areaTo (L.Sq.mk l.n fun (i : Nat) ↦ l.g i) l.n - L.gridTo l l.n + (2 : Int)) (2 : Int)) ∧ L.gridTo l l.n = L.grN l ∧ Int.tdiv (L.areaTo (L.Sq.mk l.n fun (i : Nat) ↦ l.g i) l.n - L.gridTo l l.n + (2 : Int)) (2 : Int) = L.grI l ∧ (0 : Int) = L.oE l) ∧ InK
 .i64 (L.areaTo (L.Sq.mk l.n fun (i : Nat) ↦ l.g i) l.n - L.gridTo l l.n + (2 : Int)) ∧ (2 : Int) ≠ (0 : Int) ∧ InK .i64 (Int.tdiv (L.areaTo (L.Sq.mk l.n fun (i : Nat) ↦ l.g i) l.n - L.gridTo l l.n + (2 : Int)) (2 : Int)) ∧ L.gridTo l l.n = L.grN l ∧ Int.tdiv (L.areaTo (L.Sq.mk l.n fun (i : Nat) ↦ l.g i) l.n - L.gridTo l l.n + (2 : Int)) (2 : Int) = L.grI l ∧ (0 : Int) =
 L.oE l) ∧ InK .i64 (L.areaTo (L.Sq.mk l.n fun (i : Nat) ↦ l.g i) l.n - L.gridTo l l.n) ∧ InK .i64 (L.areaTo (L.Sq.mk l.n fun (i : Nat) ↦ l.g i) l.n - L.gridTo l l.n + (2 : Int)) ∧ (2 : Int) ≠ (0 : Int) ∧ InK .i64 (Int.tdiv (L.areaTo (L.Sq.mk l.n fun (i : Nat) ↦ l.g i) l.n - L.gridTo l l.n + (2 : Int)) (2 : Int)) ∧ L.gridTo l l.n = L.grN l ∧ Int.tdiv
 (L.areaTo (L.Sq.mk l.n fun (i : Nat) ↦ l.g i) l.n - L.gridTo l l.n + (2 : Int)) (2 : Int) = L.grI l ∧ (0 : Int) = L.oE l) ∧ (((∀ (i : Nat), i < l.n → [SV.int .i64 (l.g i).x, SV.int .i64 (l.g i).y] = [SV.int .i64 (l.g i).x, SV.int .i64 (l.g i).y]) ∧ L.small (L.Sq.mk l.n fun (i : Nat) ↦ l.g i)) ∧ (InK .i64 (L.areaTo
 (L.Sq.mk l.n fun (i : Nat) ↦ l.g i) l.n - L.gridTo l l.n) ∧ (InK .i64 (L.areaTo (L.Sq.mk l.n fun (i : Nat) ↦ l.g i) l.n - L.gridTo l l.n + (2 : Int)) ∧ ((2 : Int) ≠ (0 : Int) ∧ InK .i64 (Int.tdiv (L.areaTo (L.Sq.mk l.n fun (i : Nat) ↦ l.g i) l.n - L.gridTo l l.n + (2 : Int)) (2 : Int)) ∧ L.gridTo l l.n = L.grN l ∧ Int.tdiv (L.areaTo (L.Sq.mk l.n fun (i : Nat) ↦ l.g
 i) l.n - L.gridTo l l.n + (2 : Int)) (2 : Int) = L.grI l ∧ (0 : Int) = L.oE l) ∧ (2 : Int) ≠ (0 : Int) ∧ InK .i64 (Int.tdiv (L.areaTo (L.Sq.mk l.n fun (i : Nat) ↦ l.g i) l.n - L.gridTo l l.n + (2 : Int)) (2 : Int)) ∧ L.gridTo l l.n = L.grN l ∧ Int.tdiv (L.areaTo (L.Sq.mk l.n fun (i : Nat) ↦ l.g i) l.n - L.gridTo l l.n + (2 : Int)) (2 : Int) = L.grI l ∧ (0 : Int) = L.oE l) ∧
 InK .i64 (L.areaTo (L.Sq.mk l.n fun (i : Nat) ↦ l.g i) l.n - L.gridTo l l.n + (2 : Int)) ∧ (2 : Int) ≠ (0 : Int) ∧ InK .i64 (Int.tdiv (L.areaTo (L.Sq.mk l.n fun (i : Nat) ↦ l.g i) l.n - L.gridTo l l.n + (2 : Int)) (2 : Int)) ∧ L.gridTo l l.n = L.grN l ∧ Int.tdiv (L.areaTo (L.Sq.mk l.n fun (i : Nat) ↦ l.g i) l.n - L.gridTo l l.n + (2 : Int)) (2 : Int) = L.grI l ∧ (0
 : Int) = L.oE l) ∧ InK .i64 (L.areaTo (L.Sq.mk l.n fun (i : Nat) ↦ l.g i) l.n - L.gridTo l l.n) ∧ InK .i64 (L.areaTo (L.Sq.mk l.n fun (i : Nat) ↦ l.g i) l.n - L.gridTo l l.n + (2 : Int)) ∧ (2 : Int) ≠ (0 : Int) ∧ InK .i64 (Int.tdiv (L.areaTo (L.Sq.mk l.n fun (i : Nat) ↦ l.g i) l.n - L.gridTo l l.n + (2 : Int)) (2 : Int)) ∧ L.gridTo l l.n = L.grN l ∧
 Int.tdiv (L.areaTo (L.Sq.mk l.n fun (i : Nat) ↦ l.g i) l.n - L.gridTo l l.n + (2 : Int)) (2 : Int) = L.grI l ∧ (0 : Int) = L.oE l) ∧ ((∀ (i : Nat), i < l.n → [SV.int .i64 (l.g i).x, SV.int .i64 (l.g i).y] = [SV.int .i64 (l.g i).x, SV.int .i64 (l.g i).y]) ∧ L.small (L.Sq.mk l.n fun (i : Nat) ↦ l.g i)) ∧ ((InK .i64
 (L.areaTo (L.Sq.mk l.n fun (i : Nat) ↦ l.g i) l.n - L.gridTo l l.n) ∧ (InK .i64 (L.areaTo (L.Sq.mk l.n fun (i : Nat) ↦ l.g i) l.n - L.gridTo l l.n + (2 : Int)) ∧ ((2 : Int) ≠ (0 : Int) ∧ InK .i64 (Int.tdiv (L.areaTo (L.Sq.mk l.n fun (i : Nat) ↦ l.g i) l.n - L.gridTo l l.n + (2 : Int)) (2 : Int)) ∧ L.gridTo l l.n = L.grN l ∧ Int.tdiv (L.areaTo (L.Sq.mk l.n fun (i :
 Nat) ↦ l.g i) l.n - L.gridTo l l.n + (2 : Int)) (2 : Int) = L.grI l ∧ (0 : Int) = L.oE l) ∧ (2 : Int) ≠ (0 : Int) ∧ InK .i64 (Int.tdiv (L.areaTo (L.Sq.mk l.n fun (i : Nat) ↦ l.g i) l.n - L.gridTo l l.n + (2 : Int)) (2 : Int)) ∧ L.gridTo l l.n = L.grN l ∧ Int.tdiv (L.areaTo (L.Sq.mk l.n fun (i : Nat) ↦ l.g i) l.n - L.gridTo l l.n + (2 : Int)) (2 : Int) = L.grI l ∧ (0 : Int) = L.oE
 l) ∧ InK .i64 (L.areaTo (L.Sq.mk l.n fun (i : Nat) ↦ l.g i) l.n - L.gridTo l l.n + (2 : Int)) ∧ (2 : Int) ≠ (0 : Int) ∧ InK .i64 (Int.tdiv (L.areaTo (L.Sq.mk l.n fun (i : Nat) ↦ l.g i) l.n - L.gridTo l l.n + (2 : Int)) (2 : Int)) ∧ L.gridTo l l.n = L.grN l ∧ Int.tdiv (L.areaTo (L.Sq.mk l.n fun (i : Nat) ↦ l.g i) l.n - L.gridTo l l.n + (2 : Int)) (2 : Int) = L.grI l
 ∧ (0 : Int) = L.oE l) ∧ InK .i64 (L.areaTo (L.Sq.mk l.n fun (i : Nat) ↦ l.g i) l.n - L.gridTo l l.n) ∧ InK .i64 (L.areaTo (L.Sq.mk l.n fun (i : Nat) ↦ l.g i) l.n - L.gridTo l l.n + (2 : Int)) ∧ (2 : Int) ≠ (0 : Int) ∧ InK .i64 (Int.tdiv (L.areaTo (L.Sq.mk l.n fun (i : Nat) ↦ l.g i) l.n - L.gridTo l l.n + (2 : Int)) (2 : Int)) ∧ L.gridTo l l.n = L.grN
 l ∧ Int.tdiv (L.areaTo (L.Sq.mk l.n fun (i : Nat) ↦ l.g i) l.n - L.gridTo l l.n + (2 : Int)) (2 : Int) = L.grI l ∧ (0 : Int) = L.oE l) ∧ InK .i64 (L.areaTo (L.Sq.mk l.n fun (i : Nat) ↦ l.g i) l.n - L.gridTo l l.n) ∧ ((InK .i64 (L.areaTo (L.Sq.mk l.n fun (i : Nat) ↦ l.g i) l.n - L.gridTo l l.n + (2 : Int)) ∧ ((2 : Int) ≠ (0 : Int) ∧ InK .i64 (Int.tdiv
 (L.areaTo (L.Sq.mk l.n fun (i : Nat) ↦ l.g i) l.n - L.gridTo l l.n + (2 : Int)) (2 : Int)) ∧ L.gridTo l l.n = L.grN l ∧ Int.tdiv (L.areaTo (L.Sq.mk l.n fun (i : Nat) ↦ l.g i) l.n - L.gridTo l l.n + (2 : Int)) (2 : Int) = L.grI l ∧ (0 : Int) = L.oE l) ∧ (2 : Int) ≠ (0 : Int) ∧ InK .i64 (Int.tdiv (L.areaTo (L.Sq.mk l.n fun (i : Nat) ↦ l.g i) l.n - L.gridTo l l.n + (2 : Int)) (2 :
 Int)) ∧ L.gridTo l l.n = L.grN l ∧ Int.tdiv (L.areaTo (L.Sq.mk l.n fun (i : Nat) ↦ l.g i) l.n - L.gridTo l l.n + (2 : Int)) (2 : Int) = L.grI l ∧ (0 : Int) = L.oE l) ∧ InK .i64 (L.areaTo (L.Sq.mk l.n fun (i : Nat) ↦ l.g i) l.n - L.gridTo l l.n + (2 : Int)) ∧ (2 : Int) ≠ (0 : Int) ∧ InK .i64 (Int.tdiv (L.areaTo (L.Sq.mk l.n fun (i : Nat) ↦ l.g i) l.n - L.gridTo l l.n
 + (2 : Int)) (2 : Int)) ∧ L.gridTo l l.n = L.grN l ∧ Int.tdiv (L.areaTo (L.Sq.mk l.n fun (i : Nat) ↦ l.g i) l.n - L.gridTo l l.n + (2 : Int)) (2 : Int) = L.grI l ∧ (0 : Int) = L.oE l) ∧ InK .i64 (L.areaTo (L.Sq.mk l.n fun (i : Nat) ↦ l.g i) l.n - L.gridTo l l.n + (2 : Int)) ∧ (((2 : Int) ≠ (0 : Int) ∧ InK .i64 (Int.tdiv (L.areaTo (L.Sq.mk l.n fun (i : Nat) ↦ l.g i)
 l.n - L.gridTo l l.n + (2 : Int)) (2 : Int)) ∧ L.gridTo l l.n = L.grN l ∧ Int.tdiv (L.areaTo (L.Sq.mk l.n fun (i : Nat) ↦ l.g i) l.n - L.gridTo l l.n + (2 : Int)) (2 : Int) = L.grI l ∧ (0 : Int) = L.oE l) ∧ (2 : Int) ≠ (0 : Int) ∧ InK .i64 (Int.tdiv (L.areaTo (L.Sq.mk l.n fun (i : Nat) ↦ l.g i) l.n - L.gridTo l l.n + (2 : Int)) (2 : Int)) ∧ L.gridTo l l.n = L.grN l ∧ Int.tdiv
 (L.areaTo (L.Sq.mk l.n fun (i : Nat) ↦ l.g i) l.n - L.gridTo l l.n + (2 : Int)) (2 : Int) = L.grI l ∧ (0 : Int) = L.oE l) ∧ (2 : Int) ≠ (0 : Int) ∧ InK .i64 (Int.tdiv (L.areaTo (L.Sq.mk l.n fun (i : Nat) ↦ l.g i) l.n - L.gridTo l l.n + (2 : Int)) (2 : Int)) ∧ L.gridTo l l.n = L.grN l ∧ Int.tdiv (L.areaTo (L.Sq.mk l.n fun (i : Nat) ↦ l.g i) l.n - L.gridTo l l.n + (2 : Int)) (2 :
 Int) = L.grI l ∧ (0 : Int) = L.oE l)) (by kernel_rfl) (by
    have hn : l.n ≤ 1000000 := hp
    refine ⟨⟨fun _ _ => rfl, hn⟩, fun h => ?_, fun h => ?_⟩
    · have h : L.validOutline l = false := notT h
      unfold L.grN L.grI L.oE
      rw [h]; exact ⟨rfl, rfl, rfl⟩
    have hv : L.validOutline l = true := notF h
    obtain ⟨n3, n24, hsm, hbd⟩ := validOutline_of hv
    refine ⟨⟨fun _ _ => rfl, by omega⟩, ⟨⟨fun _ _ => rfl, by omega⟩, (0 : Nat), rfl, Nat.zero_le _⟩, fun k t vk hk _ => ?_, fun t _ => ?_⟩
    · have c2 : ((k : Int)).toNat = k := Int.toNat_natCast k
      have c3 : (Int.tmod ((k : Int) + 1) (l.n : Int)).toNat = L.next l.n k := rfl
      rw [c2, c3]
      have h1 := hbd.2 k hk
      have h2 := hbd.2 _ (next_lt (n := l.n) (k := k) (by omega))
      unfold L.bd at h1 h2
      have b := gridTo_bd hbd k (by omega)
      have q := gcd_bd (a := (l.g (L.next l.n k)).x - (l.g k).x) (b := (l.g (L.next l.n k)).y - (l.g k).y) (m := 8000000) (by omega) (by omega) (by omega) (by omega)
      exact ⟨by omega, by omega, InK.of (by omega) (by omega), by omega, by omega, InK.of (by omega) (by omega), ⟨⟨by omega, by omega⟩, by omega, by omega⟩, InK.of (by omega) (by omega), (0 : Nat), rfl, ⟨rfl, fun _ _ => rfl⟩, rfl, rfl, rfl, hk⟩
    · have e1 : L.grN l = L.gridTo l l.n := by unfold L.grN; rw [hv]; rfl
      have e2 : L.grI l = Int.tdiv (L.areaTo l l.n - L.gridTo l l.n + 2) 2 := by unfold L.grI; rw [hv]; rfl
      have e3 : L.oE l = 0 := by unfold L.oE; rw [hv]; rfl
      have bA := areaTo_bd hsm l.n (Nat.le_refl _)
      have bG := gridTo_bd hbd l.n (Nat.le_refl _)
      have t1 := Int.tmod_add_mul_tdiv (L.areaTo l l.n - L.gridTo l l.n + 2) 2
      have t2 := Int.lt_tmod_of_pos (L.areaTo l l.n - L.gridTo l l.n + 2) (show (0 : Int) < 2 by omega)
      have t3 := Int.tmod_lt_of_pos (L.areaTo l l.n - L.gridTo l l.n + 2) (show (0 : Int) < 2 by omega)
      have f1 : InK .i64 (L.areaTo l l.n - L.gridTo l l.n) := InK.of (by omega) (by omega)
      have f2 : InK .i64 (L.areaTo l l.n - L.gridTo l l.n + 2) := InK.of (by omega) (by omega)
      have f3 : InK .i64 (Int.tdiv (L.areaTo l l.n - L.gridTo l l.n + 2) 2) := InK.of (by omega) (by omega)
      have f4 : (2 : Int) ≠ 0 := by decide
      rw [e1, e2, e3]
      repeat' first
        | exact f1
        | exact f2
        | exact f3
        | exact f4
        | exact hsm
        | exact fun _ _ => rfl
        | exact rfl
        | apply And.intro)
theorem p_Grid_ok : SpecOk Tryz.prog 17 p_Grid_S := fnX Tryz.func17 (c := bodyOf Tryz.f17) (by kernel_rfl) mixed (fun args p r hs hp => by
  unfold p_Grid_s at hs
  split at hs
  · cases hs; exact ⟨_, _, p_Grid_vc _ hp.2, (.p (.sl hp.1) .nil), ⟨show SpecsL Tryz.prog _ from (SpecsL.cons p_ValidOutline_ok p_ValidOutline_en (SpecsL.cons p_triples_ok p_triples_en (SpecsL.cons p_gcd_ok p_gcd_en (SpecsL.cons p_area_ok p_area_en SpecsL.nil)))), rfl, ⟨show ItersL Tryz.prog _ from (ItersL.cons p_triples1_itok p_triples1_en ItersL.nil), (TrsOk.none (fun _ => rfl))⟩⟩⟩
  · cases hs)
theorem p_Grid_en : Enters Tryz.prog 17 := fun args w => by kernel_rfl
def r1_Grid_p (l : (L.Sq L.Pt)) : Prop := l.n ≤ 1000000
def r1_Grid_r (l : (L.Sq L.Pt)) : SV := .tup [.int .i64 (L.grN l), .int .i64 (L.grI l), .int .i64 (L.oE l)]
def r1_Grid_s : List EV → Option (Prop × SV)
  | [.p (.sl 2 l_n l_g)] => some ((∀ i, i < l_n → l_g i = [.int .i64 ((ofPt (l_g i)).x), .int .i64 ((ofPt (l_g i)).y)]) ∧ r1_Grid_p (⟨l_n, fun i => ofPt (l_g i)⟩ : (L.Sq L.Pt)), r1_Grid_r (⟨l_n, fun i => ofPt (l_g i)⟩ : (L.Sq L.Pt)))
  | _ => none
abbrev r1_Grid_S : SE.Spec := (specO r1_Grid_s)
def r1_Grid_C : Cfg := { muts := [], frz := lookN [], specs := lookS [(11, r1_ValidOutline_S), (53, r1_at_S), (58, r1_abs_S), (57, r1_gcd_S), (47, r1_sum_S)], loops := fun _ => none, iters := lookI [], rfs := lookR [], nils := lookM [] }
theorem r1_Grid_vc (l : (L.Sq L.Pt)) (hp : r1_Grid_p l) : vc Tryz.prog ({ r1_Grid_C with loops := lookL [(5, { T := Nat, keep := [0], keepO := [], chg := fun i => [(5, .p (.int .i64 (L.gridTo l i))), (6, .p (.int .i64 (i : Int)))], own := fun _ => [], inv := fun i => i ≤ l.n, mu := fun i => l.n - i })], rfs := lookR [] }) (bodyOf Tryz.f18) (st0 Tryz.f18 [.p (.sl 2 l.n (fun i => [.int .i64 ((l.g i).x), .int .i64 ((l.g i).y)]))]) (retFn Tryz.prog Tryz.f18 (r1_Grid_r l)) :=
  @Eq.mpr _ (((∀ (i : Nat), i < l.n → [SV.int .i64 (l.g i).x, SV.int .i64 (l.g i).y] = [SV.int .i64 (l.g i).x, SV.int .i64 (l.g i).y]) ∧ True) ∧ ((!L.validOutline (L.Sq.mk l.n fun (i : Nat) ↦ l.g i)) = true → (0 : Int) = L.grN l ∧ (0 : Int) = L.grI l ∧ (1 : Int) = L.oE l) ∧ ((!L.validOutline (L.Sq.mk l.n fun (i : Nat) ↦ l.g i)) = false →
 (∃ (g : Nat), (0 : Int) = L.gridTo l g ∧ (0 : Int) = (↑g : Int) ∧ g ≤ l.n) ∧ ∀ (g : Nat), g ≤ l.n → (decide ((↑g : Int) < (↑l.n : Int)) = true → InK .i64 ((↑g : Int) + (1 : Int)) ∧ ((∀ (i : Nat), i < l.n → [SV.int .i64 (l.g i).x, SV.int .i64 (l.g i).y] = [SV.int .i64 (l.g i).x, SV.int .i64 (l.g i).y]) ∧
 (1 : Nat) ≤ l.n ∧ l.n ≤ (1000000 : Nat) ∧ (-1000000 : Int) ≤ (↑g : Int) + (1 : Int) ∧ (↑g : Int) + (1 : Int) ≤ (1000000 : Int)) ∧ ((0 : Int) ≤ (↑g : Int) ∧ (↑g : Int) < (↑l.n : Int)) ∧ InK .i64 ((l.g (L.ix l.n ((↑g : Int) + (1 : Int)))).x - (l.g (Int.toNat (↑g : Int))).x) ∧ ((-4611686018427387904 : Int) ≤ (l.g (L.ix l.n ((↑g : Int) + (1 : Int)))).x - (l.g (Int.toNat (↑g : Int))).x
 ∧ (l.g (L.ix l.n ((↑g : Int) + (1 : Int)))).x - (l.g (Int.toNat (↑g : Int))).x ≤ (4611686018427387904 : Int)) ∧ ((0 : Int) ≤ (↑g : Int) ∧ (↑g : Int) < (↑l.n : Int)) ∧ InK .i64 ((l.g (L.ix l.n ((↑g : Int) + (1 : Int)))).y - (l.g (Int.toNat (↑g : Int))).y) ∧ ((-4611686018427387904 : Int) ≤ (l.g (L.ix l.n ((↑g : Int) + (1 : Int)))).y - (l.g (Int.toNat (↑g : Int))).y ∧ (l.g (L.ix l.n
 ((↑g : Int) + (1 : Int)))).y - (l.g (Int.toNat (↑g : Int))).y ≤ (4611686018427387904 : Int)) ∧ (((0 : Int) ≤ (↑(L.nabs ((l.g (L.ix l.n ((↑g : Int) + (1 : Int)))).x - (l.g (Int.toNat (↑g : Int))).x)) : Int) ∧ (↑(L.nabs ((l.g (L.ix l.n ((↑g : Int) + (1 : Int)))).x - (l.g (Int.toNat (↑g : Int))).x)) : Int) ≤ (4611686018427387904 : Int)) ∧ (0 : Int) ≤ (↑(L.nabs ((l.g (L.ix l.n ((↑g : Int) + (1 :
 Int)))).y - (l.g (Int.toNat (↑g : Int))).y)) : Int) ∧ (↑(L.nabs ((l.g (L.ix l.n ((↑g : Int) + (1 : Int)))).y - (l.g (Int.toNat (↑g : Int))).y)) : Int) ≤ (4611686018427387904 : Int)) ∧ InK .i64 (L.gridTo l g + L.gcd (↑(L.nabs ((l.g (L.ix l.n ((↑g : Int) + (1 : Int)))).x - (l.g (Int.toNat (↑g : Int))).x)) : Int) (↑(L.nabs ((l.g (L.ix l.n ((↑g : Int) + (1 : Int)))).y - (l.g (Int.toNat
 (↑g : Int))).y)) : Int)) ∧ InK .i64 ((↑g : Int) + (1 : Int)) ∧ ∃ (g' : Nat), L.gridTo l g + L.gcd (↑(L.nabs ((l.g (L.ix l.n ((↑g : Int) + (1 : Int)))).x - (l.g (Int.toNat (↑g : Int))).x)) : Int) (↑(L.nabs ((l.g (L.ix l.n ((↑g : Int) + (1 : Int)))).y - (l.g (Int.toNat (↑g : Int))).y)) : Int) = L.gridTo l g' ∧ (↑g : Int) + (1 : Int) = (↑g' : Int) ∧ (l.n = l.n ∧ ∀ (i : Nat), i < l.n →
 [SV.int .i64 (l.g i).x, SV.int .i64 (l.g i).y] = [SV.int .i64 (l.g i).x, SV.int .i64 (l.g i).y]) ∧ g' ≤ l.n ∧ l.n - g' < l.n - g) ∧ (decide ((↑g : Int) < (↑l.n : Int)) = false → ((∀ (i : Nat), i < l.n → [SV.int .i64 (l.g i).x, SV.int .i64 (l.g i).y] = [SV.int .i64 (l.g
 i).x, SV.int .i64 (l.g i).y]) ∧ L.small (L.Sq.mk l.n fun (i : Nat) ↦ l.g i)) ∧ InK .i64 (L.areaTo (L.Sq.mk l.n fun (i : Nat) ↦ l.g i) l.n - L.gridTo l g) ∧ InK .i64 (L.areaTo (L.Sq.mk l.n fun (i : Nat) ↦ l.g i) l.n - L.gridTo l g + (2 : Int)) ∧ (2 : Int) ≠ (0 : Int) ∧ InK .i64 (Int.tdiv (L.areaTo (L.Sq.mk l.n fun (i : Nat) ↦ l.g i)
 l.n - L.gridTo l g + (2 : Int)) (2 : Int)) ∧ L.gridTo l g = L.grN l ∧ Int.tdiv (L.areaTo (L.Sq.mk l.n fun (i : Nat) ↦ l.g i) l.n - L.gridTo l g + (2 : Int)) (2 : Int) = L.grI l ∧ (0 : Int) = L.oE l))) (by kernel_rfl) (by
    have hn : l.n ≤ 1000000 := hp
    refine ⟨⟨fun _ _ => rfl, trivial⟩, fun h => ?_, fun h => ?_⟩
    · have h : L.validOutline l = false := notT h
      unfold L.grN L.grI L.oE
      rw [h]; exact ⟨rfl, rfl, rfl⟩
    have hv : L.validOutline l = true := notF h
    obtain ⟨n3, n24, hsm, hbd⟩ := validOutline_of hv
    refine ⟨⟨(0 : Nat), rfl, rfl, Nat.zero_le _⟩, fun g hg => ⟨fun hlt => ?_, fun hge => ?_⟩⟩
    · have hlt : (g : Int) < (l.n : Int) := of_decide_eq_true hlt
      have hk : g < l.n := by omega
      rw [ix_next hk, Int.toNat_natCast, gcd_abs]
      have h1 := hbd.2 g hk
      have h2 := hbd.2 _ (next_lt (n := l.n) (k := g) (by omega))
      unfold L.bd at h1 h2
      have b := gridTo_bd hbd g (by omega)
      have q := gcd_bd (a := (l.g (L.next l.n g)).x - (l.g g).x) (b := (l.g (L.next l.n g)).y - (l.g g).y) (m := 8000000) (by omega) (by omega) (by omega) (by omega)
      have na : ∀ a : Int, -8000000 ≤ a → a ≤ 8000000 → 0 ≤ ((L.nabs a : Nat) : Int) ∧ ((L.nabs a : Nat) : Int) ≤ 4611686018427387904 := fun a _ _ => by unfold L.nabs; omega
      exact ⟨InK.of (by omega) (by omega), ⟨fun _ _ => rfl, by omega, by omega, by omega, by omega⟩, ⟨by omega, hlt⟩, InK.of (by omega) (by omega), ⟨by omega, by omega⟩, ⟨by omega, hlt⟩, InK.of (by omega) (by omega), ⟨by omega, by omega⟩, ⟨na _ (by omega) (by omega), na _ (by omega) (by omega)⟩, InK.of (by omega) (by omega), InK.of (by omega) (by omega), g + 1, rfl, by omega, ⟨rfl, fun _ _ => rfl⟩, by omega, by omega⟩
    · have hge : ¬ (g : Int) < (l.n : Int) := of_decide_eq_false hge
      obtain rfl : g = l.n := by omega
      have e1 : L.grN l = L.gridTo l l.n := by unfold L.grN; rw [hv]; rfl
      have e2 : L.grI l = Int.tdiv (L.areaTo l l.n - L.gridTo l l.n + 2) 2 := by unfold L.grI; rw [hv]; rfl
      have e3 : L.oE l = 0 := by unfold L.oE; rw [hv]; rfl
      have bA := areaTo_bd hsm l.n (Nat.le_refl _)
      have bG := gridTo_bd hbd l.n (Nat.le_refl _)
      have t1 := Int.tmod_add_mul_tdiv (L.areaTo l l.n - L.gridTo l l.n + 2) 2
      have t2 := Int.lt_tmod_of_pos (L.areaTo l l.n - L.gridTo l l.n + 2) (show (0 : Int) < 2 by omega)
      have t3 := Int.tmod_lt_of_pos (L.areaTo l l.n - L.gridTo l l.n + 2) (show (0 : Int) < 2 by omega)
      have f1 : InK .i64 (L.areaTo l l.n - L.gridTo l l.n) := InK.of (by omega) (by omega)
      have f2 : InK .i64 (L.areaTo l l.n - L.gridTo l l.n + 2) := InK.of (by omega) (by omega)
      have f3 : InK .i64 (Int.tdiv (L.areaTo l l.n - L.gridTo l l.n + 2) 2) := InK.of (by omega) (by omega)
      have f4 : (2 : Int) ≠ 0 := by decide
      exact ⟨⟨fun _ _ => rfl, hsm⟩, f1, f2, f4, f3, e1.symm, e2.symm, e3.symm⟩)
theorem r1_Grid_ok : SpecOk Tryz.prog 18 r1_Grid_S := fnX Tryz.func18 (c := bodyOf Tryz.f18) (by kernel_rfl) mixed (fun args p r hs hp => by
  unfold r1_Grid_s at hs
  split at hs
  · cases hs; exact ⟨_, _, r1_Grid_vc _ hp.2, (.p (.sl hp.1) .nil), ⟨show SpecsL Tryz.prog _ from (SpecsL.cons r1_ValidOutline_ok r1_ValidOutline_en (SpecsL.cons r1_at_ok r1_at_en (SpecsL.cons r1_abs_ok r1_abs_en (SpecsL.cons r1_gcd_ok r1_gcd_en (SpecsL.cons r1_sum_ok r1_sum_en SpecsL.nil))))), rfl, ⟨show ItersL Tryz.prog _ from ItersL.nil, (TrsOk.none (fun _ => rfl))⟩⟩⟩
  · cases hs)
theorem r1_Grid_en : Enters Tryz.prog 18 := fun args w => by kernel_rfl
def p_Box_p (l : (L.Sq L.Pt)) : Prop := l.n ≤ 1000000
def p_Box_r (l : (L.Sq L.Pt)) : SV := .tup [(.agg [.int .i64 ((L.boxL l).x), .int .i64 ((L.boxL l).y)]), (.agg [.int .i64 ((L.boxH l).x), .int .i64 ((L.boxH l).y)]), .int .i64 (L.oE l)]
def p_Box_s : List EV → Option (Prop × SV)
  | [.p (.sl 2 l_n l_g)] => some ((∀ i, i < l_n → l_g i = [.int .i64 ((ofPt (l_g i)).x), .int .i64 ((ofPt (l_g i)).y)]) ∧ p_Box_p (⟨l_n, fun i => ofPt (l_g i)⟩ : (L.Sq L.Pt)), p_Box_r (⟨l_n, fun i => ofPt (l_g i)⟩ : (L.Sq L.Pt)))
  | _ => none
abbrev p_Box_S : SE.Spec := (specO p_Box_s)
def p_Box_C : Cfg := { muts := [2, 3, 6], frz := lookN [], specs := lookS [(10, p_ValidOutline_S)], loops := fun _ => none, iters := lookI [], rfs := lookR [], nils := lookM [], anys := [2, 10] }
theorem p_Box_vc (l : (L.Sq L.Pt)) (hp : p_Box_p l) : vc Tryz.prog ({ p_Box_C with loops := lookL [(5, { T := Nat, keep := [0, 2, 3, 18, 19], keepO := [], chg := fun i => [(20, .p (.int .i64 (i : Int)))], own := fun i => [(2, .blk 38 [.p (.int .i64 (L.lowTo l i).x), .p (.int .i64 (L.lowTo l i).y)]), (3, .blk 38 [.p (.int .i64 (L.highTo l i).x), .p (.int .i64 (L.highTo l i).y)])], inv := fun i => i ≤ l.n, mu := fun i => l.n - i })], rfs := lookR [] }) (bodyOf Tryz.f19) (st0 Tryz.f19 [.p (.sl 2 l.n (fun i => [.int .i64 ((l.g i).x), .int .i64 ((l.g i).y)]))]) (retFn Tryz.prog Tryz.f19 (p_Box_r l)) :=
  @Eq.mpr _ (((∀ (i : Nat), i < l.n → [SV.int .i64 (l.g i).x, SV.int .i64 (l.g i).y] = [SV.int .i64 (l.g i).x, SV.int .i64 (l.g i).y]) ∧ l.n ≤ (1000000 : Nat)) ∧ ((!L.validOutline (L.Sq.mk l.n fun (i : Nat) ↦ l.g i)) = true → ((SV.agg [SV.int .i64 (0 : Int), SV.int .i64 (0 : Int)] = SV.agg
 [SV.int .i64 (L.boxL l).x, SV.int .i64 (L.boxL l).y] ∧ SV.agg [SV.int .i64 (0 : Int), SV.int .i64 (0 : Int)] = SV.agg [SV.int .i64 (L.boxH l).x, SV.int .i64 (L.boxH l).y] ∧ (1 : Int) = L.oE l) ∧ SV.agg [SV.int .i64 (0 : Int), SV.int .i64 (0 : Int)] =
 SV.agg [SV.int .i64 (L.boxL l).x, SV.int .i64 (L.boxL l).y] ∧ SV.agg [SV.int .i64 (0 : Int), SV.int .i64 (0 : Int)] = SV.agg [SV.int .i64 (L.boxH l).x, SV.int .i64 (L.boxH l).y] ∧ (1 : Int) = L.oE l) ∧ SV.agg [SV.int .i64 (0 : Int), SV.int .i64 (0
 : Int)] = SV.agg [SV.int .i64 (L.boxL l).x, SV.int .i64 (L.boxL l).y] ∧ SV.agg [SV.int .i64 (0 : Int), SV.int .i64 (0 : Int)] = SV.agg [SV.int .i64 (L.boxH l).x, SV.int .i64 (L.boxH l).y] ∧ (1 : Int) = L.oE l) ∧ ((!L.validOutline (L.Sq.mk l.n fun (i : Nat) ↦ l.g i)) = false → ((0
 : Int) ≤ (0 : Int) ∧ (0 : Int) < (↑l.n : Int)) ∧ ((0 : Int) ≤ (0 : Int) ∧ (0 : Int) < (↑l.n : Int)) ∧ (∃ (g : Nat), (0 : Int) = (↑g : Int) ∧ (l.g (Int.toNat (0 : Int))).x = (L.lowTo l g).x ∧ (l.g (Int.toNat (0 : Int))).y = (L.lowTo l g).y ∧ (l.g (Int.toNat (0 : Int))).x = (L.highTo l g).x ∧ (l.g (Int.toNat (0 : Int))).y = (L.highTo l g).y ∧ g ≤ l.n) ∧ ∀ (g : Nat), g ≤ l.n → (decide ((↑g
 : Int) < (↑l.n : Int)) = true → ((0 : Int) ≤ (↑g : Int) ∧ (↑g : Int) < (↑l.n : Int)) ∧ InK .i64 ((↑g : Int) + (1 : Int)) ∧ ∃ (g' : Nat), (↑g : Int) + (1 : Int) = (↑g' : Int) ∧ (↑l.n : Int) = (↑l.n : Int) ∧ (l.n = l.n ∧ ∀ (i : Nat), i < l.n → [SV.int .i64 (l.g i).x, SV.int .i64 (l.g i).y] = [SV.int .i64 (l.g i).x, SV.int
 .i64 (l.g i).y]) ∧ nat_lit 0 = nat_lit 0 ∧ nat_lit 0 = nat_lit 0 ∧ (l.n = l.n ∧ ∀ (i : Nat), i < l.n → [SV.int .i64 (l.g i).x, SV.int .i64 (l.g i).y] = [SV.int .i64 (l.g i).x, SV.int .i64 (l.g i).y]) ∧ Min.min (L.lowTo l g).x (l.g (Int.toNat (↑g : Int))).x = (L.lowTo l g').x ∧ Min.min (L.lowTo l g).y (l.g (Int.toNat (↑g :
 Int))).y = (L.lowTo l g').y ∧ Max.max (L.highTo l g).x (l.g (Int.toNat (↑g : Int))).x = (L.highTo l g').x ∧ Max.max (L.highTo l g).y (l.g (Int.toNat (↑g : Int))).y = (L.highTo l g').y ∧ g' ≤ l.n ∧ l.n - g' < l.n - g) ∧ (decide ((↑g : Int) < (↑l.n : Int)) = false → ((SV.agg [SV.int .i64 (L.lowTo l g).x, SV.int .i64 (L.lowTo l g).y] = SV.agg
 [SV.int .i64 (L.boxL l).x, SV.int .i64 (L.boxL l).y] ∧ SV.agg [SV.int .i64 (L.highTo l g).x, SV.int .i64 (L.highTo l g).y] = SV.agg [SV.int .i64 (L.boxH l).x, SV.int .i64 (L.boxH l).y] ∧ (0 : Int) = L.oE l) ∧ SV.agg [SV.int .i64 (L.lowTo l g).x, SV.int
 .i64 (L.lowTo l g).y] = SV.agg [SV.int .i64 (L.boxL l).x, SV.int .i64 (L.boxL l).y] ∧ SV.agg [SV.int .i64 (L.highTo l g).x, SV.int .i64 (L.highTo l g).y] = SV.agg [SV.int .i64 (L.boxH l).x, SV.int .i64 (L.boxH l).y] ∧ (0 : Int) = L.oE l) ∧ SV.agg [SV.int
 .i64 (L.lowTo l g).x, SV.int .i64 (L.lowTo l g).y] = SV.agg [SV.int .i64 (L.boxL l).x, SV.int .i64 (L.boxL l).y] ∧ SV.agg [SV.int .i64 (L.highTo l g).x, SV.int .i64 (L.highTo l g).y] = SV.agg [SV.int .i64 (L.boxH l).x, SV.int .i64 (L.boxH l).y] ∧ (0 : Int) =
 L.oE l))) (by kernel_rfl) (by
    have hn : l.n ≤ 1000000 := hp
    refine ⟨⟨fun _ _ => rfl, hn⟩, fun h => ?_, fun h => ?_⟩
    · have h : L.validOutline l = false := notT h
      have eL : L.boxL l = ⟨0, 0⟩ := by unfold L.boxL; rw [h]; rfl
      have eH : L.boxH l = ⟨0, 0⟩ := by unfold L.boxH; rw [h]; rfl
      have e3 : L.oE l = 1 := by unfold L.oE; rw [h]; rfl
      rw [eL, eH, e3]
      repeat' first
        | exact rfl
        | apply And.intro
    have hv : L.validOutline l = true := notF h
    obtain ⟨n3, n24, hsm, hbd⟩ := validOutline_of hv
    have eL : L.boxL l = L.lowTo l l.n := by unfold L.boxL; rw [hv]; rfl
    have eH : L.boxH l = L.highTo l l.n := by unfold L.boxH; rw [hv]; rfl
    have e3 : L.oE l = 0 := by unfold L.oE; rw [hv]; rfl
    refine ⟨⟨Int.le_refl _, by omega⟩, ⟨Int.le_refl _, by omega⟩, ⟨(0 : Nat), rfl, rfl, rfl, rfl, rfl, Nat.zero_le _⟩, fun g hg => ⟨fun hlt => ?_, fun hge => ?_⟩⟩
    · have hlt : (g : Int) < (l.n : Int) := of_decide_eq_true hlt
      exact ⟨⟨by omega, hlt⟩, InK.of (by omega) (by omega), g + 1, by omega, rfl, ⟨rfl, fun _ _ => rfl⟩, rfl, rfl, ⟨rfl, fun _ _ => rfl⟩, rfl, rfl, rfl, rfl, by omega, by omega⟩
    · have hge : ¬ (g : Int) < (l.n : Int) := of_decide_eq_false hge
      obtain rfl : g = l.n := by omega
      rw [eL, eH, e3]
      repeat' first
        | exact rfl
        | apply And.intro)
theorem p_Box_ok : SpecOk Tryz.prog 19 p_Box_S := fnX Tryz.func19 (c := bodyOf Tryz.f19) (by kernel_rfl) mixed (fun args p r hs hp => by
  unfold p_Box_s at hs
  split at hs
  · cases hs; exact ⟨_, _, p_Box_vc _ hp.2, (.p (.sl hp.1) .nil), ⟨show SpecsL Tryz.prog _ from (SpecsL.cons p_ValidOutline_ok p_ValidOutline_en SpecsL.nil), rfl, ⟨show ItersL Tryz.prog _ from ItersL.nil, (TrsOk.none (fun _ => rfl))⟩⟩⟩
  · cases hs)
theorem p_Box_en : Enters Tryz.prog 19 := fun args w => by kernel_rfl
def r1_corners_p (l : (L.Sq L.Pt)) : Prop := 1 ≤ l.n ∧ l.n ≤ 1000000
def r1_corners_r (l : (L.Sq L.Pt)) : SV := .tup [(.agg [.int .i64 ((L.lowTo l l.n).x), .int .i64 ((L.lowTo l l.n).y)]), (.agg [.int .i64 ((L.highTo l l.n).x), .int .i64 ((L.highTo l l.n).y)])]
def r1_corners_s : List EV → Option (Prop × SV)
  | [.p (.sl 2 l_n l_g)] => some ((∀ i, i < l_n → l_g i = [.int .i64 ((ofPt (l_g i)).x), .int .i64 ((ofPt (l_g i)).y)]) ∧ r1_corners_p (⟨l_n, fun i => ofPt (l_g i)⟩ : (L.Sq L.Pt)), r1_corners_r (⟨l_n, fun i => ofPt (l_g i)⟩ : (L.Sq L.Pt)))
  | _ => none
abbrev r1_corners_S : SE.Spec := (specO r1_corners_s)
def r1_corners_C : Cfg := { muts := [2, 3, 4, 5], frz := lookN [], specs := lookS [], loops := fun _ => none, iters := lookI [], rfs := lookR [], nils := lookM [] }
theorem r1_corners_vc (l : (L.Sq L.Pt)) (hp : r1_corners_p l) : vc Tryz.prog ({ r1_corners_C with loops := lookL [(4, { T := Nat, keep := [0, 2, 3, 4, 5], keepO := [2, 3], chg := fun i => [(6, .p (.int .i64 (i : Int)))], own := fun i => [(4, .blk 38 [.p (.int .i64 (L.lowTo l i).x), .p (.int .i64 (L.lowTo l i).y)]), (5, .blk 38 [.p (.int .i64 (L.highTo l i).x), .p (.int .i64 (L.highTo l i).y)])], inv := fun i => i ≤ l.n, mu := fun i => l.n - i })], rfs := lookR [] }) (bodyOf Tryz.f59) (st0 Tryz.f59 [.p (.sl 2 l.n (fun i => [.int .i64 ((l.g i).x), .int .i64 ((l.g i).y)]))]) (retFn Tryz.prog Tryz.f59 (r1_corners_r l)) :=
  @Eq.mpr _ (((0 : Int) ≤ (0 : Int) ∧ (0 : Int) < (↑l.n : Int)) ∧ ((0 : Int) ≤ (0 : Int) ∧ (0 : Int) < (↑l.n : Int)) ∧ (∃ (g : Nat), (0 : Int) = (↑g : Int) ∧ (l.g (Int.toNat (0 : Int))).x = (L.lowTo l g).x ∧ (l.g (Int.toNat (0 : Int))).y = (L.lowTo l g).y ∧ (l.g (Int.toNat (0 : Int))).x = (L.highTo l g).x ∧ (l.g (Int.toNat (0 : Int))).y = (L.highTo l g).y ∧ g ≤ l.n) ∧ ∀ (g : Nat), g ≤ l.n → (decide
 ((↑g : Int) < (↑l.n : Int)) = true → ((0 : Int) ≤ (↑g : Int) ∧ (↑g : Int) < (↑l.n : Int)) ∧ ((0 : Int) ≤ (↑g : Int) ∧ (↑g : Int) < (↑l.n : Int)) ∧ ((0 : Int) ≤ (↑g : Int) ∧ (↑g : Int) < (↑l.n : Int)) ∧ ((0 : Int) ≤ (↑g : Int) ∧ (↑g : Int) < (↑l.n : Int)) ∧ InK .i64 ((↑g : Int) + (1 : Int)) ∧ ∃ (g' : Nat), (↑g : Int) + (1 : Int) = (↑g' : Int) ∧ nat_lit 0 = nat_lit 0 ∧ nat_lit 0
 = nat_lit 0 ∧ nat_lit 0 = nat_lit 0 ∧ nat_lit 0 = nat_lit 0 ∧ (l.n = l.n ∧ ∀ (i : Nat), i < l.n → [SV.int .i64 (l.g i).x, SV.int .i64 (l.g i).y] = [SV.int .i64 (l.g i).x, SV.int .i64 (l.g i).y]) ∧ Min.min (L.lowTo l g).x (l.g (Int.toNat (↑g : Int))).x = (L.lowTo l g').x ∧ Min.min (L.lowTo l g).y (l.g (Int.toNat (↑g : Int))).y =
 (L.lowTo l g').y ∧ Max.max (L.highTo l g).x (l.g (Int.toNat (↑g : Int))).x = (L.highTo l g').x ∧ Max.max (L.highTo l g).y (l.g (Int.toNat (↑g : Int))).y = (L.highTo l g').y ∧ (0 : Int) = (0 : Int) ∧ (0 : Int) = (0 : Int) ∧ (0 : Int) = (0 : Int) ∧ (0 : Int) = (0 : Int) ∧ g' ≤ l.n ∧ l.n - g' < l.n - g) ∧ (decide ((↑g : Int) < (↑l.n : Int)) = false → SV.agg [SV.int
 .i64 (L.lowTo l g).x, SV.int .i64 (L.lowTo l g).y] = SV.agg [SV.int .i64 (L.lowTo l l.n).x, SV.int .i64 (L.lowTo l l.n).y] ∧ SV.agg [SV.int .i64 (L.highTo l g).x, SV.int .i64 (L.highTo l g).y] = SV.agg [SV.int .i64 (L.highTo l l.n).x, SV.int .i64 (L.highTo l
 l.n).y])) (by kernel_rfl) (by
    obtain ⟨h1, hn⟩ := hp
    refine ⟨⟨Int.le_refl _, by omega⟩, ⟨Int.le_refl _, by omega⟩, ⟨(0 : Nat), rfl, rfl, rfl, rfl, rfl, Nat.zero_le _⟩, fun g hg => ⟨fun hlt => ?_, fun hge => ?_⟩⟩
    · have hlt : (g : Int) < (l.n : Int) := of_decide_eq_true hlt
      exact ⟨⟨by omega, hlt⟩, ⟨by omega, hlt⟩, ⟨by omega, hlt⟩, ⟨by omega, hlt⟩, InK.of (by omega) (by omega), g + 1, by omega, rfl, rfl, rfl, rfl, ⟨rfl, fun _ _ => rfl⟩, rfl, rfl, rfl, rfl, rfl, rfl, rfl, rfl, by omega, by omega⟩
    · have hge : ¬ (g : Int) < (l.n : Int) := of_decide_eq_false hge
      obtain rfl : g = l.n := by omega
      exact ⟨rfl, rfl⟩)
theorem r1_corners_ok : SpecOk Tryz.prog 59 r1_corners_S := fnX Tryz.func59 (c := bodyOf Tryz.f59) (by kernel_rfl) mixed (fun args p r hs hp => by
  unfold r1_corners_s at hs
  split at hs
  · cases hs; exact ⟨_, _, r1_corners_vc _ hp.2, (.p (.sl hp.1) .nil), ⟨show SpecsL Tryz.prog _ from SpecsL.nil, rfl, ⟨show ItersL Tryz.prog _ from ItersL.nil, (TrsOk.none (fun _ => rfl))⟩⟩⟩
  · cases hs)
theorem r1_corners_en : Enters Tryz.prog 59 := fun args w => by kernel_rfl
def r1_Box_p (l : (L.Sq L.Pt)) : Prop := l.n ≤ 1000000
def r1_Box_r (l : (L.Sq L.Pt)) : SV := .tup [(.agg [.int .i64 ((L.boxL l).x), .int .i64 ((L.boxL l).y)]), (.agg [.int .i64 ((L.boxH l).x), .int .i64 ((L.boxH l).y)]), .int .i64 (L.oE l)]
def r1_Box_s : List EV → Option (Prop × SV)
  | [.p (.sl 2 l_n l_g)] => some ((∀ i, i < l_n → l_g i = [.int .i64 ((ofPt (l_g i)).x), .int .i64 ((ofPt (l_g i)).y)]) ∧ r1_Box_p (⟨l_n, fun i => ofPt (l_g i)⟩ : (L.Sq L.Pt)), r1_Box_r (⟨l_n, fun i => ofPt (l_g i)⟩ : (L.Sq L.Pt)))
  | _ => none
abbrev r1_Box_S : SE.Spec := (specO r1_Box_s)
def r1_Box_C : Cfg := { muts := [2, 3], frz := lookN [], specs := lookS [(11, r1_ValidOutline_S), (59, r1_corners_S)], loops := lookL [], iters := lookI [], rfs := lookR [], nils := lookM [] }
theorem r1_Box_vc (l : (L.Sq L.Pt)) (hp : r1_Box_p l) : vc Tryz.prog (r1_Box_C) (bodyOf Tryz.f20) (st0 Tryz.f20 [.p (.sl 2 l.n (fun i => [.int .i64 ((l.g i).x), .int .i64 ((l.g i).y)]))]) (retFn Tryz.prog Tryz.f20 (r1_Box_r l)) :=
  @Eq.mpr _ (((∀ (i : Nat), i < l.n → [SV.int .i64 (l.g i).x, SV.int .i64 (l.g i).y] = [SV.int .i64 (l.g i).x, SV.int .i64 (l.g i).y]) ∧ True) ∧ ((!L.validOutline (L.Sq.mk l.n fun (i : Nat) ↦ l.g i)) = true → SV.agg [SV.int .i64 (0 : Int), SV.int .i64 (0 : Int)] = SV.agg [SV.int .i64
 (L.boxL l).x, SV.int .i64 (L.boxL l).y] ∧ SV.agg [SV.int .i64 (0 : Int), SV.int .i64 (0 : Int)] = SV.agg [SV.int .i64 (L.boxH l).x, SV.int .i64 (L.boxH l).y] ∧ (1 : Int) = L.oE l) ∧ ((!L.validOutline (L.Sq.mk l.n fun (i : Nat) ↦ l.g i)) = false → ((∀ (i : Nat), i < l.n → [SV.int .i64
 (l.g i).x, SV.int .i64 (l.g i).y] = [SV.int .i64 (l.g i).x, SV.int .i64 (l.g i).y]) ∧ (1 : Nat) ≤ l.n ∧ l.n ≤ (1000000 : Nat)) ∧ SV.agg [SV.int .i64 (L.lowTo (L.Sq.mk l.n fun (i : Nat) ↦ l.g i) l.n).x, SV.int .i64 (L.lowTo (L.Sq.mk l.n fun (i : Nat) ↦ l.g i) l.n).y] = SV.agg [SV.int .i64
 (L.boxL l).x, SV.int .i64 (L.boxL l).y] ∧ SV.agg [SV.int .i64 (L.highTo (L.Sq.mk l.n fun (i : Nat) ↦ l.g i) l.n).x, SV.int .i64 (L.highTo (L.Sq.mk l.n fun (i : Nat) ↦ l.g i) l.n).y] = SV.agg [SV.int .i64 (L.boxH l).x, SV.int .i64 (L.boxH l).y] ∧ (0 : Int) = L.oE l)) (by kernel_rfl) (by
    have hn : l.n ≤ 1000000 := hp
    refine ⟨⟨fun _ _ => rfl, trivial⟩, fun h => ?_, fun h => ?_⟩
    · have h : L.validOutline l = false := notT h
      have eL : L.boxL l = ⟨0, 0⟩ := by unfold L.boxL; rw [h]; rfl
      have eH : L.boxH l = ⟨0, 0⟩ := by unfold L.boxH; rw [h]; rfl
      have e3 : L.oE l = 1 := by unfold L.oE; rw [h]; rfl
      rw [eL, eH, e3]
      repeat' first
        | exact rfl
        | apply And.intro
    have hv : L.validOutline l = true := notF h
    obtain ⟨n3, n24, hsm, hbd⟩ := validOutline_of hv
    have eL : L.boxL l = L.lowTo l l.n := by unfold L.boxL; rw [hv]; rfl
    have eH : L.boxH l = L.highTo l l.n := by unfold L.boxH; rw [hv]; rfl
    have e3 : L.oE l = 0 := by unfold L.oE; rw [hv]; rfl
    rw [eL, eH, e3]
    exact ⟨⟨fun _ _ => rfl, by omega, hn⟩, rfl, rfl, rfl⟩)
theorem r1_Box_ok : SpecOk Tryz.prog 20 r1_Box_S := fnX Tryz.func20 (c := bodyOf Tryz.f20) (by kernel_rfl) mixed (fun args p r hs hp => by
  unfold r1_Box_s at hs
  split at hs
  · cases hs; exact ⟨_, _, r1_Box_vc _ hp.2, (.p (.sl hp.1) .nil), ⟨show SpecsL Tryz.prog _ from (SpecsL.cons r1_ValidOutline_ok r1_ValidOutline_en (SpecsL.cons r1_corners_ok r1_corners_en SpecsL.nil)), rfl, ⟨show ItersL Tryz.prog _ from ItersL.nil, (TrsOk.none (fun _ => rfl))⟩⟩⟩
  · cases hs)
theorem r1_Box_en : Enters Tryz.prog 20 := fun args w => by kernel_rfl
def w_Outlines_p (l : (L.Sq L.Pt)) : Prop := l.n ≤ 9223372036854775807
def w_Outlines_r (l : (L.Sq L.Pt)) : SV := .bool true
def w_Outlines_s : List EV → Option (Prop × SV)
  | [.p (.sl 2 l_n l_g)] => some ((∀ i, i < l_n → l_g i = [.int .i64 ((ofPt (l_g i)).x), .int .i64 ((ofPt (l_g i)).y)]) ∧ w_Outlines_p (⟨l_n, fun i => ofPt (l_g i)⟩ : (L.Sq L.Pt)), w_Outlines_r (⟨l_n, fun i => ofPt (l_g i)⟩ : (L.Sq L.Pt)))
  | _ => none
abbrev w_Outlines_S : SE.Spec := (specO w_Outlines_s)
def w_Outlines_C : Cfg := { muts := [], frz := lookN [], specs := lookS [(6, w_awake_S), (7, p_Outline_S), (8, r1_Outline_S), (9, r1_SamePoints_S), (10, p_ValidOutline_S), (11, r1_ValidOutline_S), (12, p_Area_S), (13, r1_Area_S), (14, p_Bends_S), (15, r1_Bends_S), (16, r1_SameI_S), (17, p_Grid_S), (18, r1_Grid_S), (19, p_Box_S), (20, r1_Box_S)], loops := lookL [], iters := lookI [], rfs := lookR [], nils := lookM [] }
theorem w_Outlines_vc (l : (L.Sq L.Pt)) (hp : w_Outlines_p l) : vc Tryz.prog (w_Outlines_C) (bodyOf Tryz.f3) (st0 Tryz.f3 [.p (.sl 2 l.n (fun i => [.int .i64 ((l.g i).x), .int .i64 ((l.g i).y)]))]) (retFn Tryz.prog Tryz.f3 (w_Outlines_r l)) :=
  @Eq.mpr _ (True ∧ ((bif bif decide ((60 : Int) < (↑l.n : Int)) then decide ((↑l.n : Int) ≤ (400 : Int)) else false then true else decide ((500 : Int) < (↑l.n : Int))) = true → true = true) ∧ ((bif bif decide ((60 : Int) < (↑l.n : Int)) then decide ((↑l.n : Int) ≤ (400 : Int)) else false then true else decide ((500
 : Int) < (↑l.n : Int))) = false → ((∀ (i : Nat), i < l.n → [SV.int .i64 (l.g i).x, SV.int .i64 (l.g i).y] = [SV.int .i64 (l.g i).x, SV.int .i64 (l.g i).y]) ∧ l.n ≤ (1000000 : Nat)) ∧ ((∀ (i : Nat), i < l.n → [SV.int .i64 (l.g i).x, SV.int .i64 (l.g i).y] = [SV.int .i64 (l.g i).x,
 SV.int .i64 (l.g i).y]) ∧ l.n ≤ (1000000 : Nat)) ∧ ((!!decide (L.outE (L.Sq.mk l.n fun (i : Nat) ↦ l.g i) = L.outE (L.Sq.mk l.n fun (i : Nat) ↦ l.g i))) = true → (∀ (i : Nat), i < L.outN (L.Sq.mk l.n fun (i : Nat) ↦ l.g i) → [SV.int .i64 ((L.norm (L.str (L.Sq.mk l.n fun (i : Nat) ↦ l.g i))).g i).x, SV.int .i64 ((L.norm (L.str (L.Sq.mk
 l.n fun (i : Nat) ↦ l.g i))).g i).y] = [SV.int .i64 ((L.norm (L.str (L.Sq.mk l.n fun (i : Nat) ↦ l.g i))).g i).x, SV.int .i64 ((L.norm (L.str (L.Sq.mk l.n fun (i : Nat) ↦ l.g i))).g i).y]) ∧ (∀ (i : Nat), i < L.outN (L.Sq.mk l.n fun (i : Nat) ↦ l.g i) → [SV.int .i64 ((L.norm (L.str (L.Sq.mk l.n fun (i : Nat) ↦ l.g i))).g i).x, SV.int
 .i64 ((L.norm (L.str (L.Sq.mk l.n fun (i : Nat) ↦ l.g i))).g i).y] = [SV.int .i64 ((L.norm (L.str (L.Sq.mk l.n fun (i : Nat) ↦ l.g i))).g i).x, SV.int .i64 ((L.norm (L.str (L.Sq.mk l.n fun (i : Nat) ↦ l.g i))).g i).y]) ∧ L.outN (L.Sq.mk l.n fun (i : Nat) ↦ l.g i) ≤ (1000000 : Nat)) ∧ ((!bif !decide (L.outE (L.Sq.mk l.n fun (i : Nat) ↦ l.g i) =
 L.outE (L.Sq.mk l.n fun (i : Nat) ↦ l.g i)) then true else !L.sameP (L.Sq.mk (L.outN (L.Sq.mk l.n fun (i : Nat) ↦ l.g i)) fun (i : Nat) ↦ (L.norm (L.str (L.Sq.mk l.n fun (i : Nat) ↦ l.g i))).g i) (L.Sq.mk (L.outN (L.Sq.mk l.n fun (i : Nat) ↦ l.g i)) fun (i : Nat) ↦ (L.norm (L.str (L.Sq.mk l.n fun (i : Nat) ↦ l.g i))).g i)) = true → (∀ (i : Nat), i < l.n → [SV.int .i64
 (l.g i).x, SV.int .i64 (l.g i).y] = [SV.int .i64 (l.g i).x, SV.int .i64 (l.g i).y]) ∧ l.n ≤ (1000000 : Nat)) ∧ ((!bif !decide (L.outE (L.Sq.mk l.n fun (i : Nat) ↦ l.g i) = L.outE (L.Sq.mk l.n fun (i : Nat) ↦ l.g i)) then true else !L.sameP (L.Sq.mk (L.outN (L.Sq.mk l.n fun (i : Nat) ↦ l.g i)) fun (i : Nat) ↦ (L.norm (L.str (L.Sq.mk l.n
 fun (i : Nat) ↦ l.g i))).g i) (L.Sq.mk (L.outN (L.Sq.mk l.n fun (i : Nat) ↦ l.g i)) fun (i : Nat) ↦ (L.norm (L.str (L.Sq.mk l.n fun (i : Nat) ↦ l.g i))).g i)) = true → (∀ (i : Nat), i < l.n → [SV.int .i64 (l.g i).x, SV.int .i64 (l.g i).y] = [SV.int .i64 (l.g i).x, SV.int .i64 (l.g i).y]) ∧ True) ∧ ((bif bif !decide
 (L.outE (L.Sq.mk l.n fun (i : Nat) ↦ l.g i) = L.outE (L.Sq.mk l.n fun (i : Nat) ↦ l.g i)) then true else !L.sameP (L.Sq.mk (L.outN (L.Sq.mk l.n fun (i : Nat) ↦ l.g i)) fun (i : Nat) ↦ (L.norm (L.str (L.Sq.mk l.n fun (i : Nat) ↦ l.g i))).g i) (L.Sq.mk (L.outN (L.Sq.mk l.n fun (i : Nat) ↦ l.g i)) fun (i : Nat) ↦ (L.norm (L.str (L.Sq.mk l.n fun (i : Nat) ↦ l.g i))).g i) then true else
 !L.validOutline (L.Sq.mk l.n fun (i : Nat) ↦ l.g i) == L.validOutline (L.Sq.mk l.n fun (i : Nat) ↦ l.g i)) = true → false = true) ∧ ((bif bif !decide (L.outE (L.Sq.mk l.n fun (i : Nat) ↦ l.g i) = L.outE (L.Sq.mk l.n fun (i : Nat) ↦ l.g i)) then true else !L.sameP (L.Sq.mk (L.outN (L.Sq.mk l.n fun (i : Nat) ↦ l.g i)) fun (i : Nat) ↦ (L.norm (L.str (L.Sq.mk l.n fun (i :
 Nat) ↦ l.g i))).g i) (L.Sq.mk (L.outN (L.Sq.mk l.n fun (i : Nat) ↦ l.g i)) fun (i : Nat) ↦ (L.norm (L.str (L.Sq.mk l.n fun (i : Nat) ↦ l.g i))).g i) then true else !L.validOutline (L.Sq.mk l.n fun (i : Nat) ↦ l.g i) == L.validOutline (L.Sq.mk l.n fun (i : Nat) ↦ l.g i)) = false → ((∀ (i : Nat), i < l.n → [SV.int .i64 (l.g i).x, SV.int .i64 (l.g i).y] =
 [SV.int .i64 (l.g i).x, SV.int .i64 (l.g i).y]) ∧ l.n ≤ (1000000 : Nat)) ∧ ((∀ (i : Nat), i < l.n → [SV.int .i64 (l.g i).x, SV.int .i64 (l.g i).y] = [SV.int .i64 (l.g i).x, SV.int .i64 (l.g i).y]) ∧ l.n ≤ (1000000 : Nat)) ∧ ((∀ (i : Nat), i < l.n → [SV.int .i64 (l.g i).x, SV.int
 .i64 (l.g i).y] = [SV.int .i64 (l.g i).x, SV.int .i64 (l.g i).y]) ∧ l.n ≤ (1000000 : Nat)) ∧ ((∀ (i : Nat), i < l.n → [SV.int .i64 (l.g i).x, SV.int .i64 (l.g i).y] = [SV.int .i64 (l.g i).x, SV.int .i64 (l.g i).y]) ∧ l.n ≤ (1000000 : Nat)) ∧ ((!bif bif !decide ((bif L.validOutline
 (L.Sq.mk l.n fun (i : Nat) ↦ l.g i) then L.areaTo (L.Sq.mk l.n fun (i : Nat) ↦ l.g i) l.n else (0 : Int)) = bif L.validOutline (L.Sq.mk l.n fun (i : Nat) ↦ l.g i) then L.areaTo (L.Sq.mk l.n fun (i : Nat) ↦ l.g i) l.n else (0 : Int)) then true else !decide ((bif L.validOutline (L.Sq.mk l.n fun (i : Nat) ↦ l.g i) then (0 : Int) else (1 : Int)) = bif L.validOutline (L.Sq.mk l.n fun (i
 : Nat) ↦ l.g i) then (0 : Int) else (1 : Int)) then true else !decide ((bif L.validOutline (L.Sq.mk l.n fun (i : Nat) ↦ l.g i) then (0 : Int) else (1 : Int)) = bif L.validOutline (L.Sq.mk l.n fun (i : Nat) ↦ l.g i) then (0 : Int) else (1 : Int))) = true → (∀ (i : Nat), (i < bif L.validOutline (L.Sq.mk l.n fun (i : Nat) ↦ l.g i) then l.n else (0 : Nat)) → [SV.int
 .i64 (L.bend (L.Sq.mk l.n fun (i : Nat) ↦ l.g i) i)] = [SV.int .i64 (L.bend (L.Sq.mk l.n fun (i : Nat) ↦ l.g i) i)]) ∧ (∀ (i : Nat), (i < bif L.validOutline (L.Sq.mk l.n fun (i : Nat) ↦ l.g i) then l.n else (0 : Nat)) → [SV.int .i64 (L.bend (L.Sq.mk l.n fun (i : Nat) ↦ l.g i) i)] = [SV.int .i64 (L.bend (L.Sq.mk l.n fun (i : Nat) ↦ l.g i)
 i)]) ∧ (bif L.validOutline (L.Sq.mk l.n fun (i : Nat) ↦ l.g i) then l.n else (0 : Nat)) ≤ (1000000 : Nat)) ∧ ((bif bif bif !decide ((bif L.validOutline (L.Sq.mk l.n fun (i : Nat) ↦ l.g i) then L.areaTo (L.Sq.mk l.n fun (i : Nat) ↦ l.g i) l.n else (0 : Int)) = bif L.validOutline (L.Sq.mk l.n fun (i : Nat) ↦ l.g i) then L.areaTo (L.Sq.mk l.n fun (i : Nat) ↦ l.g i) l.n else (0 : Int)) then
 true else !decide ((bif L.validOutline (L.Sq.mk l.n fun (i : Nat) ↦ l.g i) then (0 : Int) else (1 : Int)) = bif L.validOutline (L.Sq.mk l.n fun (i : Nat) ↦ l.g i) then (0 : Int) else (1 : Int)) then true else !decide ((bif L.validOutline (L.Sq.mk l.n fun (i : Nat) ↦ l.g i) then (0 : Int) else (1 : Int)) = bif L.validOutline (L.Sq.mk l.n fun (i : Nat) ↦ l.g i) then (0
 : Int) else (1 : Int)) then true else !L.sameI (L.Sq.mk (bif L.validOutline (L.Sq.mk l.n fun (i : Nat) ↦ l.g i) then l.n else (0 : Nat)) fun (i : Nat) ↦ L.bend (L.Sq.mk l.n fun (i : Nat) ↦ l.g i) i) (L.Sq.mk (bif L.validOutline (L.Sq.mk l.n fun (i : Nat) ↦ l.g i) then l.n else (0 : Nat)) fun (i : Nat) ↦ L.bend (L.Sq.mk l.n fun (i : Nat) ↦ l.g i) i)) = true → false = true) ∧
 ((bif bif bif !decide ((bif L.validOutline (L.Sq.mk l.n fun (i : Nat) ↦ l.g i) then L.areaTo (L.Sq.mk l.n fun (i : Nat) ↦ l.g i) l.n else (0 : Int)) = bif L.validOutline (L.Sq.mk l.n fun (i : Nat) ↦ l.g i) then L.areaTo (L.Sq.mk l.n fun (i : Nat) ↦ l.g i) l.n else (0 : Int)) then true else !decide ((bif L.validOutline (L.Sq.mk l.n fun (i : Nat) ↦ l.g i) then (0 : Int) else
 (1 : Int)) = bif L.validOutline (L.Sq.mk l.n fun (i : Nat) ↦ l.g i) then (0 : Int) else (1 : Int)) then true else !decide ((bif L.validOutline (L.Sq.mk l.n fun (i : Nat) ↦ l.g i) then (0 : Int) else (1 : Int)) = bif L.validOutline (L.Sq.mk l.n fun (i : Nat) ↦ l.g i) then (0 : Int) else (1 : Int)) then true else !L.sameI (L.Sq.mk (bif L.validOutline (L.Sq.mk l.n fun (i : Nat) ↦
 l.g i) then l.n else (0 : Nat)) fun (i : Nat) ↦ L.bend (L.Sq.mk l.n fun (i : Nat) ↦ l.g i) i) (L.Sq.mk (bif L.validOutline (L.Sq.mk l.n fun (i : Nat) ↦ l.g i) then l.n else (0 : Nat)) fun (i : Nat) ↦ L.bend (L.Sq.mk l.n fun (i : Nat) ↦ l.g i) i)) = false → ((∀ (i : Nat), i < l.n → [SV.int .i64 (l.g i).x, SV.int .i64 (l.g i).y] = [SV.int .i64
 (l.g i).x, SV.int .i64 (l.g i).y]) ∧ l.n ≤ (1000000 : Nat)) ∧ ((∀ (i : Nat), i < l.n → [SV.int .i64 (l.g i).x, SV.int .i64 (l.g i).y] = [SV.int .i64 (l.g i).x, SV.int .i64 (l.g i).y]) ∧ l.n ≤ (1000000 : Nat)) ∧ ((∀ (i : Nat), i < l.n → [SV.int .i64 (l.g i).x, SV.int .i64 (l.g i).y] =
 [SV.int .i64 (l.g i).x, SV.int .i64 (l.g i).y]) ∧ l.n ≤ (1000000 : Nat)) ∧ ((∀ (i : Nat), i < l.n → [SV.int .i64 (l.g i).x, SV.int .i64 (l.g i).y] = [SV.int .i64 (l.g i).x, SV.int .i64 (l.g i).y]) ∧ l.n ≤ (1000000 : Nat)) ∧ (bif bif bif bif bif bif true then decide (L.grN (L.Sq.mk l.n fun
 (i : Nat) ↦ l.g i) = L.grN (L.Sq.mk l.n fun (i : Nat) ↦ l.g i)) else false then decide (L.grI (L.Sq.mk l.n fun (i : Nat) ↦ l.g i) = L.grI (L.Sq.mk l.n fun (i : Nat) ↦ l.g i)) else false then decide (L.oE (L.Sq.mk l.n fun (i : Nat) ↦ l.g i) = L.oE (L.Sq.mk l.n fun (i : Nat) ↦ l.g i)) else false then decide ((L.boxL (L.Sq.mk l.n fun (i : Nat) ↦ l.g i)).x
 = (L.boxL (L.Sq.mk l.n fun (i : Nat) ↦ l.g i)).x) && decide ((L.boxL (L.Sq.mk l.n fun (i : Nat) ↦ l.g i)).y = (L.boxL (L.Sq.mk l.n fun (i : Nat) ↦ l.g i)).y) else false then decide ((L.boxH (L.Sq.mk l.n fun (i : Nat) ↦ l.g i)).x = (L.boxH (L.Sq.mk l.n fun (i : Nat) ↦ l.g i)).x) && decide ((L.boxH (L.Sq.mk l.n fun (i : Nat) ↦ l.g i)).y = (L.boxH (L.Sq.mk l.n fun
 (i : Nat) ↦ l.g i)).y) else false then decide (L.oE (L.Sq.mk l.n fun (i : Nat) ↦ l.g i) = L.oE (L.Sq.mk l.n fun (i : Nat) ↦ l.g i)) else false) = true)))) (by kernel_rfl) (by
    refine ⟨trivial, fun _ => rfl, fun h => ?_⟩
    have hl : l.n ≤ 1000000 := by
      rw [bor, Bool.or_eq_false_iff] at h
      have := of_decide_eq_false h.2
      omega
    have hN := outN_le l
    have nv : (bif L.validOutline l then l.n else 0) ≤ 1000000 := by cases L.validOutline l <;> simp [hl]
    refine ⟨⟨fun _ _ => rfl, hl⟩, ⟨fun _ _ => rfl, hl⟩, fun _ => ⟨fun _ _ => rfl, fun _ _ => rfl, show L.outN l ≤ 1000000 by omega⟩, fun _ => ⟨fun _ _ => rfl, hl⟩, fun _ => ⟨fun _ _ => rfl, trivial⟩, fun h1 => ?_, fun _ => ⟨⟨fun _ _ => rfl, hl⟩, ⟨fun _ _ => rfl, hl⟩, ⟨fun _ _ => rfl, hl⟩, ⟨fun _ _ => rfl, hl⟩, fun _ => ⟨fun _ _ => rfl, fun _ _ => rfl, nv⟩, fun h2 => ?_, fun _ => ⟨⟨fun _ _ => rfl, hl⟩, ⟨fun _ _ => rfl, hl⟩, ⟨fun _ _ => rfl, hl⟩, ⟨fun _ _ => rfl, hl⟩, ?_⟩⟩⟩
    · simp [sameP_refl] at h1
    · simp [sameIr] at h2
    · simp)
theorem w_Outlines_ok : SpecOk Tryz.prog 3 w_Outlines_S := fnX Tryz.func3 (c := bodyOf Tryz.f3) (by kernel_rfl) mixed (fun args p r hs hp => by
  unfold w_Outlines_s at hs
  split at hs
  · cases hs; exact ⟨_, _, w_Outlines_vc _ hp.2, (.p (.sl hp.1) .nil), ⟨show SpecsL Tryz.prog _ from (SpecsL.cons w_awake_ok w_awake_en (SpecsL.cons p_Outline_ok p_Outline_en (SpecsL.cons r1_Outline_ok r1_Outline_en (SpecsL.cons r1_SamePoints_ok r1_SamePoints_en (SpecsL.cons p_ValidOutline_ok p_ValidOutline_en (SpecsL.cons r1_ValidOutline_ok r1_ValidOutline_en (SpecsL.cons p_Area_ok p_Area_en (SpecsL.cons r1_Area_ok r1_Area_en (SpecsL.cons p_Bends_ok p_Bends_en (SpecsL.cons r1_Bends_ok r1_Bends_en (SpecsL.cons r1_SameI_ok r1_SameI_en (SpecsL.cons p_Grid_ok p_Grid_en (SpecsL.cons r1_Grid_ok r1_Grid_en (SpecsL.cons p_Box_ok p_Box_en (SpecsL.cons r1_Box_ok r1_Box_en SpecsL.nil))))))))))))))), rfl, ⟨show ItersL Tryz.prog _ from ItersL.nil, (TrsOk.none (fun _ => rfl))⟩⟩⟩
  · cases hs)
end Go.Proofs.YtdlhpdidgfgomaaGreat
