/- A symbolic walk over the model, and what it shows of functions of the program: parts of the proof that the text of the row joins. -/
import Derived.Test.YtooapgllahonaaaGreatW2
import Derived.Test.YtooapgllahonaaaGreatE3
import Derived.KernelRfl
import Derived.Test.YtooapgllahonaaaGreatW1

namespace Go.Proofs.YtooapgllahonaaaGreat
open Go.SE Go.RowKit
set_option maxRecDepth 100000
set_option maxHeartbeats 4000000
set_option linter.unusedVariables false
attribute [local irreducible] vc

/-- Where a setting lays an edge, as a number of the whole line. -/
def L.sg (b : Bool) : Int := bif b then -1 else 1
theorem emod_lin (a e b n : Int) : (a + e * (b % n)) % n = (a + e * b) % n := by
  have h : a + e * (b % n) = a + e * b + n * (-(e * (b / n))) := by
    rw [Int.emod_def]
    simp only [Int.mul_sub, Int.mul_neg, ← Int.mul_assoc, Int.mul_comm n e, Int.mul_left_comm n e]
    omega
  rw [h, Int.add_mul_emod_self_left]
theorem lay_lin {s : L.Setting} {n i : Int} (h0 : 0 ≤ s.shift) (h1 : s.shift < n) (h2 : 0 ≤ i) (h3 : i < n) : L.lay s n i = (s.shift + L.sg s.back * i) % n := by
  unfold L.lay L.sg
  cases s.back with
  | true =>
    simp only [cond_true]
    rw [Int.tmod_eq_emod_of_nonneg (by omega), show s.shift + n - i = s.shift + -1 * i + n by omega, Int.add_emod_right]
  | false =>
    simp only [cond_false]
    rw [Int.tmod_eq_emod_of_nonneg (by omega), Int.one_mul]
theorem sg_xor (a b : Bool) : L.sg (!(a == b)) = L.sg b * L.sg a := by cases a <;> cases b <;> rfl
theorem comp_ok {s t : L.Setting} {n : Int} (hs : L.validSet s n = true) (ht : L.validSet t n = true) : L.compE s t n = 0 ∧ L.comp s t n = ⟨(t.shift + L.sg t.back * s.shift) % n, !(s.back == t.back)⟩ ∧ L.validSet (L.comp s t n) n = true := by
  have a := validSet_iff.1 hs
  have b := validSet_iff.1 ht
  have e : L.compE s t n = 0 := by unfold L.compE; rw [hs, ht]; rfl
  have e2 : L.comp s t n = ⟨(t.shift + L.sg t.back * s.shift) % n, !(s.back == t.back)⟩ := by
    unfold L.comp
    rw [e, lay_lin b.2.1 b.2.2 a.2.1 a.2.2]; rfl
  refine ⟨e, e2, validSet_iff.2 ⟨a.1, ?_⟩⟩
  rw [e2]
  exact ⟨Int.emod_nonneg _ (by omega), Int.emod_lt_of_pos _ (by omega)⟩
theorem comp_assoc {s t u : L.Setting} {n : Int} (hs : L.validSet s n = true) (ht : L.validSet t n = true) (hu : L.validSet u n = true) : L.comp (L.comp s t n) u n = L.comp s (L.comp t u n) n := by
  obtain ⟨_, e1, v1⟩ := comp_ok hs ht
  obtain ⟨_, e2, v2⟩ := comp_ok ht hu
  obtain ⟨_, e3, _⟩ := comp_ok v1 hu
  obtain ⟨_, e4, _⟩ := comp_ok hs v2
  have A : (u.shift + L.sg u.back * ((t.shift + L.sg t.back * s.shift) % n)) % n = ((u.shift + L.sg u.back * t.shift) % n + L.sg (!(t.back == u.back)) * s.shift) % n := by
    rw [emod_lin, sg_xor, Int.emod_add_emod, Int.mul_add, Int.mul_assoc, Int.add_assoc]
  have B : (!((!(s.back == t.back)) == u.back)) = !(s.back == !(t.back == u.back)) := by
    cases s.back <;> cases t.back <;> cases u.back <;> rfl
  rw [e3, e4, e1, e2]
  dsimp only
  rw [A, B]
def L.one : L.Setting := ⟨0, false⟩
theorem one_valid {s : L.Setting} {n : Int} (hs : L.validSet s n = true) : L.validSet L.one n = true := by
  have a := validSet_iff.1 hs
  exact validSet_iff.2 ⟨a.1, Int.le_refl _, show (0 : Int) < n by omega⟩
theorem set_ext {s t : L.Setting} (h : s.shift = t.shift) (k : s.back = t.back) : s = t := by cases s; cases t; simp only at h k; rw [h, k]
theorem comp_one {s : L.Setting} {n : Int} (hs : L.validSet s n = true) : L.comp s L.one n = s := by
  have a := validSet_iff.1 hs
  rw [(comp_ok hs (one_valid hs)).2.1]
  refine set_ext ?_ ?_
  · show (0 + 1 * s.shift) % n = s.shift
    rw [Int.zero_add, Int.one_mul, Int.emod_eq_of_lt a.2.1 a.2.2]
  · show (!(s.back == false)) = s.back
    cases s.back <;> rfl
theorem inv_ok {s : L.Setting} {n : Int} (hs : L.validSet s n = true) : L.invE s n = 0 ∧ L.validSet (L.inv s n) n = true ∧ L.comp s (L.inv s n) n = L.one := by
  have a := validSet_iff.1 hs
  have hv : L.validSet (L.inv s n) n = true := by
    unfold L.inv
    rw [hs]
    cases hb : s.back with
    | true => exact hs
    | false =>
      refine validSet_iff.2 ⟨a.1, ?_⟩
      show 0 ≤ Int.tmod (n - s.shift) n ∧ Int.tmod (n - s.shift) n < n
      exact ⟨Int.tmod_nonneg _ (by omega), Int.tmod_lt_of_pos _ (by omega)⟩
  refine ⟨by unfold L.invE; rw [hs]; rfl, hv, ?_⟩
  rw [(comp_ok hs hv).2.1]
  unfold L.inv
  rw [hs]
  cases hb : s.back with
  | true =>
    simp only [cond_true]
    refine set_ext ?_ ?_
    · show (s.shift + L.sg s.back * s.shift) % n = 0
      rw [hb]
      show (s.shift + -1 * s.shift) % n = 0
      rw [show s.shift + -1 * s.shift = 0 by omega, Int.zero_emod]
    · show (!(true == s.back)) = false
      rw [hb]; rfl
  | false =>
    simp only [cond_true, cond_false]
    refine set_ext ?_ ?_
    · show (Int.tmod (n - s.shift) n + 1 * s.shift) % n = 0
      rw [Int.tmod_eq_emod_of_nonneg (by omega), Int.emod_add_emod, Int.one_mul, show n - s.shift + s.shift = n by omega, Int.emod_self]
    · rfl
theorem lay_comp {s t : L.Setting} {n i : Int} (hs : L.validSet s n = true) (ht : L.validSet t n = true) (h0 : 0 ≤ i) (h1 : i < n) : L.lay t n (L.lay s n i) = L.lay (L.comp s t n) n i ∧ 0 ≤ L.lay s n i ∧ L.lay s n i < n := by
  have a := validSet_iff.1 hs
  have b := validSet_iff.1 ht
  obtain ⟨_, e1, v1⟩ := comp_ok hs ht
  have c := validSet_iff.1 v1
  have l1 := lay_lin a.2.1 a.2.2 h0 h1
  have r1 : 0 ≤ L.lay s n i ∧ L.lay s n i < n := by
    rw [l1]; exact ⟨Int.emod_nonneg _ (by omega), Int.emod_lt_of_pos _ (by omega)⟩
  refine ⟨?_, r1⟩
  rw [lay_lin b.2.1 b.2.2 r1.1 r1.2, lay_lin c.2.1 c.2.2 h0 h1, l1, e1]
  dsimp only
  rw [emod_lin, sg_xor, Int.emod_add_emod, Int.mul_add, Int.mul_assoc, Int.add_assoc]
theorem ed_ok {s : L.Setting} {n i : Int} (hs : L.validSet s n = true) (h0 : 0 ≤ i) (h1 : i < n) : L.edE s n i = 0 ∧ L.ed s n i = L.lay s n i := by
  have e : L.edE s n i = 0 := by
    unfold L.edE
    rw [hs, within_iff.2 ⟨h0, by omega⟩]; rfl
  exact ⟨e, by unfold L.ed; rw [e]; rfl⟩
theorem one_inv {s : L.Setting} {n : Int} (hs : L.validSet s n = true) : L.comp (L.inv s n) s n = L.one := by
  have i1 := inv_ok hs
  have i2 := inv_ok i1.2.1
  have v := (comp_ok i1.2.1 hs).2.2
  have a1 := comp_assoc i1.2.1 hs i1.2.1
  rw [i1.2.2, comp_one i1.2.1] at a1
  have a2 := comp_assoc v i1.2.1 i2.2.1
  rw [a1, i2.2.2, comp_one v] at a2
  exact a2.symm
end Go.Proofs.YtooapgllahonaaaGreat

namespace Go.Proofs.YtooapgllahonaaaGreat
open Go.SE Go.RowKit
set_option maxRecDepth 100000
set_option maxHeartbeats 4000000
set_option linter.unusedVariables false
attribute [local irreducible] vc

def L.rsI (s : L.Setting) (n j : Nat) : Nat := (L.lay (L.inv s n) n j).toNat
def L.rsG1 (p : L.Piece) (s : L.Setting) (i : Nat) : L.Gauge := bif s.back then ⟨(p.gauges.g i).edge, (p.gauges.g (L.prev p.gauges.n i)).across, (p.gauges.g (L.prev p.gauges.n i)).bend⟩ else p.gauges.g i
def L.rsTo (p : L.Piece) (s : L.Setting) (i j : Nat) : L.Gauge := bif decide (L.rsI s p.gauges.n j < i) then L.rsG1 p s (L.rsI s p.gauges.n j) else ⟨⟨0, 0⟩, ⟨0, 0⟩, 0⟩
def L.rsGs (p : L.Piece) (s : L.Setting) : L.Sq L.Gauge := ⟨p.gauges.n, fun j => L.rsG1 p s (L.rsI s p.gauges.n j)⟩
def L.rsM1 (s : L.Setting) (n : Nat) (m : L.Mark) : L.Mark := ⟨L.lay s n m.edge, bif s.back then 16 - m.place else m.place, m.tone⟩
def L.rsMs (l : L.Sq L.Mark) (s : L.Setting) (n : Nat) : L.Sq L.Mark := ⟨l.n, fun k => L.rsM1 s n (l.g k)⟩
def L.rsMTo (l : L.Sq L.Mark) (s : L.Setting) (n i k : Nat) : L.Mark := bif decide (k < i) then L.rsM1 s n (l.g k) else l.g k
def L.rs (p : L.Piece) (s : L.Setting) : L.Piece := ⟨p.id, bif s.back then p.rev else p.colour, bif s.back then p.colour else p.rev, p.made, p.swell, L.rsGs p s, L.sortM (L.rsMs p.marks s p.gauges.n)⟩
theorem lay_one {n i : Int} (h0 : 0 ≤ i) (h1 : i < n) : L.lay L.one n i = i := by
  rw [lay_lin (s := L.one) (Int.le_refl 0) (show (0 : Int) < n by omega) h0 h1]
  show (0 + 1 * i) % n = i
  rw [Int.zero_add, Int.one_mul, Int.emod_eq_of_lt h0 h1]
theorem rsI_lay {s : L.Setting} {n i : Nat} (hs : L.validSet s n = true) (hi : i < n) : 0 ≤ L.lay s n i ∧ L.lay s n i < n ∧ L.rsI s n (L.lay s n i).toNat = i := by
  have h := inv_ok hs
  obtain ⟨e, a, b⟩ := lay_comp hs h.2.1 (i := (i : Int)) (by omega) (by omega)
  refine ⟨a, b, ?_⟩
  unfold L.rsI
  rw [Int.toNat_of_nonneg a, e, h.2.2, lay_one (by omega) (by omega), Int.toNat_natCast]
theorem lay_rsI {s : L.Setting} {n j : Nat} (hs : L.validSet s n = true) (hj : j < n) : L.rsI s n j < n ∧ L.lay s n ((L.rsI s n j : Nat) : Int) = (j : Int) := by
  have h := inv_ok hs
  obtain ⟨e, a, b⟩ := lay_comp h.2.1 hs (i := (j : Int)) (by omega) (by omega)
  unfold L.rsI
  rw [one_inv hs, lay_one (by omega) (by omega)] at e
  exact ⟨by omega, by rw [Int.toNat_of_nonneg a, e]⟩
theorem rsTo_step {p : L.Piece} {s : L.Setting} {i : Nat} (hs : L.validSet s p.gauges.n = true) (hi : i < p.gauges.n) {j : Nat} (hj : j < p.gauges.n) : L.rsTo p s (i + 1) j = if j = (L.lay s p.gauges.n i).toNat then L.rsG1 p s i else L.rsTo p s i j := by
  obtain ⟨a, b, c⟩ := rsI_lay hs hi
  obtain ⟨d, e⟩ := lay_rsI hs hj
  unfold L.rsTo
  by_cases h : j = (L.lay s p.gauges.n i).toNat
  · rw [if_pos h, h, c, decide_eq_true (Nat.lt_succ_self i)]; rfl
  · rw [if_neg h]
    have hne : L.rsI s p.gauges.n j ≠ i := fun hx => by rw [hx] at e; omega
    by_cases hl : L.rsI s p.gauges.n j < i
    · rw [decide_eq_true hl, decide_eq_true (by omega)]
    · rw [decide_eq_false hl, decide_eq_false (by omega)]
theorem fif {p : Prop} (h : p) : (((p ∧ p ∧ p) ∧ (p ∧ p) ∧ p) ∧ (p ∧ p ∧ p) ∧ p) ∧ ((p ∧ p ∧ p) ∧ p) ∧ p := ⟨⟨⟨⟨h, h, h⟩, ⟨h, h⟩, h⟩, ⟨h, h, h⟩, h⟩, ⟨⟨h, h, h⟩, h⟩, h⟩
theorem rsI_lt (s : L.Setting) {n : Nat} (hn : 0 < n) (j : Nat) : L.rsI s n j < n := by
  have h : ∀ x : Int, Int.tmod x n < n := fun x => Int.tmod_lt_of_pos x (by omega)
  unfold L.rsI L.lay
  cases (L.inv s n).back with
  | true => have := h ((L.inv s n).shift + n - j); rw [cond_true]; omega
  | false => have := h ((L.inv s n).shift + j); rw [cond_false]; omega
theorem rsTo_full {p : L.Piece} {s : L.Setting} (hn : 0 < p.gauges.n) (j : Nat) : L.rsTo p s p.gauges.n j = L.rsG1 p s (L.rsI s p.gauges.n j) := by
  unfold L.rsTo
  rw [decide_eq_true (rsI_lt s hn j)]; rfl
theorem sortM_congr {n : Nat} {f g : Nat → L.Mark} (h : ∀ k, k < n → f k = g k) : L.sortM ⟨n, f⟩ = L.sortM ⟨n, g⟩ := by
  have : L.listMk ⟨n, f⟩ = L.listMk ⟨n, g⟩ := List.map_congr_left fun k hk => h k (List.mem_range.1 hk)
  unfold L.sortM
  rw [this]
theorem rsMTo_at {l : L.Sq L.Mark} {s : L.Setting} {n q : Nat} : L.rsMTo l s n q q = l.g q := by
  unfold L.rsMTo; rw [decide_eq_false (Nat.lt_irrefl q)]; rfl
theorem rsMTo_step {l : L.Sq L.Mark} {s : L.Setting} {n q i : Nat} : L.rsMTo l s n (q + 1) i = if i = q then L.rsM1 s n (l.g q) else L.rsMTo l s n q i := by
  unfold L.rsMTo
  by_cases h : i = q
  · rw [if_pos h, h, decide_eq_true (Nat.lt_succ_self q)]; rfl
  · rw [if_neg h]
    by_cases hl : i < q
    · rw [decide_eq_true hl, decide_eq_true (by omega)]
    · rw [decide_eq_false hl, decide_eq_false (by omega)]
theorem piece_of {p : L.Piece} (h : L.validPiece p = true) : L.nums p = true ∧ L.gauges p.gauges = true ∧ L.vMarks p.marks p.gauges.n = true := by
  unfold L.validPiece at h
  rw [band, band, Bool.and_eq_true, Bool.and_eq_true] at h
  exact ⟨h.1.1, h.1.2, h.2⟩
theorem gauges_n {l : L.Sq L.Gauge} (h : L.gauges l = true) : 3 ≤ l.n ∧ l.n ≤ 24 := by
  unfold L.gauges at h
  rw [band, Bool.and_eq_true, within_iff] at h
  omega
theorem marks_in {l : L.Sq L.Mark} {n : Int} (h : L.vMarks l n = true) : l.n ≤ 32 ∧ ∀ k, k < l.n → (0 ≤ (l.g k).edge ∧ (l.g k).edge < n) ∧ (0 ≤ (l.g k).place ∧ (l.g k).place ≤ 16) ∧ 1 ≤ (l.g k).tone ∧ (l.g k).tone ≤ 16 := by
  unfold L.vMarks L.edges L.marks at h
  simp only [band, Bool.and_eq_true, decide_eq_true_eq, allB_iff, within_iff] at h
  refine ⟨by omega, fun k hk => ?_⟩
  have a := h.1 k hk
  have b := (h.2.2 k hk)
  unfold L.mark1 at b
  simp only [band, Bool.and_eq_true, bor, Bool.or_eq_true, Bool.not_eq_true', within_iff] at b
  omega
def g_sortedM_p (l : (L.Sq L.Mark)) : Prop := l.n ≤ 1000000
def g_sortedM_q (l : (L.Sq L.Mark)) : Nat → Prop := fun _ => True
def g_sortedM_n (l : (L.Sq L.Mark)) : Nat → Nat := fun _ => l.n
def g_sortedM_g (l : (L.Sq L.Mark)) : Nat → Nat → List SV := fun _ k => [.int .i64 (((L.sortM l).g k).edge), .int .i64 (((L.sortM l).g k).place), .int .i64 (((L.sortM l).g k).tone)]
def g_sortedM_s : List EV → Option (Prop × (Nat → Prop) × (Nat → Nat) × (Nat → Nat → List SV))
  | [.p (.sl 3 l_n l_g), .p (.clo 129 [])] => some ((∀ i, i < l_n → l_g i = [.int .i64 ((ofMark (l_g i)).edge), .int .i64 ((ofMark (l_g i)).place), .int .i64 ((ofMark (l_g i)).tone)]) ∧ g_sortedM_p (⟨l_n, fun i => ofMark (l_g i)⟩ : (L.Sq L.Mark)), g_sortedM_q (⟨l_n, fun i => ofMark (l_g i)⟩ : (L.Sq L.Mark)), g_sortedM_n (⟨l_n, fun i => ofMark (l_g i)⟩ : (L.Sq L.Mark)), g_sortedM_g (⟨l_n, fun i => ofMark (l_g i)⟩ : (L.Sq L.Mark)))
  | _ => none
abbrev g_sortedM_S : SE.Spec := (specF Nat 0 87 3 g_sortedM_s)
def g_sortedM_C : Cfg := { muts := [8], frz := lookN [], specs := lookS [(178, s_valM_S), (177, s_sortedM_S)], loops := lookL [], iters := lookI [], rfs := lookR [], nils := lookM [], raws := [177] }
theorem g_sortedM_vc (l : (L.Sq L.Mark)) (hp : g_sortedM_p l) : vc Tryz.prog (g_sortedM_C) (bodyOf Tryz.f128) (st0 Tryz.f128 [.p (.sl 3 l.n (fun i => [.int .i64 ((l.g i).edge), .int .i64 ((l.g i).place), .int .i64 ((l.g i).tone)])), .p (.clo 129 [])]) (retFresh Tryz.prog Tryz.f128 (Nat) (g_sortedM_q l) 87 3 (g_sortedM_n l) (g_sortedM_g l)) :=
  @Eq.mpr _ (((∀ (i : Nat), i < l.n → [SV.int .i64 (l.g i).edge, SV.int .i64 (l.g i).place, SV.int .i64 (l.g i).tone] = [SV.int .i64 (l.g i).edge, SV.int .i64 (l.g i).place, SV.int .i64 (l.g i).tone]) ∧ l.n ≤ (1000000 : Nat)) ∧ ((∀ (i : Nat), i < l.n → [SV.int .i64 (l.g i).edge, SV.int
 .i64 (l.g i).place, SV.int .i64 (l.g i).tone] = [SV.int .i64 (l.g i).edge, SV.int .i64 (l.g i).place, SV.int .i64 (l.g i).tone]) ∧ l.n ≤ (1000000 : Nat)) ∧ ∀ (t : Nat), True → ∃ (t : Nat), (l.n = l.n ∧ ∀ (i : Nat), i < l.n → [SV.int .i64 ((L.sortM (L.Sq.mk l.n fun (i : Nat) ↦ l.g i)).g i).edge, SV.int
 .i64 ((L.sortM (L.Sq.mk l.n fun (i : Nat) ↦ l.g i)).g i).place, SV.int .i64 ((L.sortM (L.Sq.mk l.n fun (i : Nat) ↦ l.g i)).g i).tone] = [SV.int .i64 ((L.sortM l).g i).edge, SV.int .i64 ((L.sortM l).g i).place, SV.int .i64 ((L.sortM l).g i).tone]) ∧ True) (by kernel_rfl) (by
    have hn : l.n ≤ 1000000 := hp
    exact ⟨⟨fun _ _ => rfl, hn⟩, ⟨fun _ _ => rfl, hn⟩, fun t _ => ⟨(0 : Nat), ⟨rfl, fun _ _ => rfl⟩, trivial⟩⟩)
theorem g_sortedM_ok : SpecOk Tryz.prog 128 g_sortedM_S := freshX Tryz.func128 (c := bodyOf Tryz.f128) (by kernel_rfl) mixed (fun args p q n g hs hp => by
  unfold g_sortedM_s at hs
  split at hs
  · cases hs; exact ⟨_, _, g_sortedM_vc _ hp.2, (.p (.sl hp.1) (.p (Ext.clo rfl (fun i hi => by
      
      exact absurd hi (by simp; try omega))) .nil)), ⟨show SpecsL Tryz.prog _ from (SpecsL.cons s_valM_ok s_valM_en (SpecsL.cons s_sortedM_ok s_sortedM_en SpecsL.nil)), rfl, ⟨show ItersL Tryz.prog _ from ItersL.nil, (TrsOk.none (fun _ => rfl))⟩⟩⟩
  · cases hs)
theorem g_sortedM_en : Enters Tryz.prog 128 := fun args w => by kernel_rfl
def g_reset_p (p : L.Piece) (s : L.Setting) : Prop := L.validPiece p = true ∧ L.validSet s p.gauges.n = true
def g_reset_r (p : L.Piece) (s : L.Setting) : SV := (.agg [.int .i64 ((L.rs p s).id), .int .i64 ((L.rs p s).colour), .int .i64 ((L.rs p s).rev), .int .i64 ((L.rs p s).made), .int .i64 ((L.rs p s).swell), .sl 5 (L.rs p s).gauges.n (fun i => [.int .i64 (((L.rs p s).gauges.g i).edge.lo), .int .i64 (((L.rs p s).gauges.g i).edge.hi), .int .i64 (((L.rs p s).gauges.g i).across.lo), .int .i64 (((L.rs p s).gauges.g i).across.hi), .int .i64 (((L.rs p s).gauges.g i).bend)]), .sl 3 (L.rs p s).marks.n (fun i => [.int .i64 (((L.rs p s).marks.g i).edge), .int .i64 (((L.rs p s).marks.g i).place), .int .i64 (((L.rs p s).marks.g i).tone)])])
def g_reset_s : List EV → Option (Prop × SV)
  | [.p (.agg [.int .i64 p_id, .int .i64 p_colour, .int .i64 p_rev, .int .i64 p_made, .int .i64 p_swell, .sl 5 p_gauges_n p_gauges_g, .sl 3 p_marks_n p_marks_g]), .p (.agg [.int .i64 s_shift, .bool s_back])] => some ((∀ i, i < p_gauges_n → p_gauges_g i = [.int .i64 ((ofGauge (p_gauges_g i)).edge.lo), .int .i64 ((ofGauge (p_gauges_g i)).edge.hi), .int .i64 ((ofGauge (p_gauges_g i)).across.lo), .int .i64 ((ofGauge (p_gauges_g i)).across.hi), .int .i64 ((ofGauge (p_gauges_g i)).bend)]) ∧ (∀ i, i < p_marks_n → p_marks_g i = [.int .i64 ((ofMark (p_marks_g i)).edge), .int .i64 ((ofMark (p_marks_g i)).place), .int .i64 ((ofMark (p_marks_g i)).tone)]) ∧ g_reset_p (⟨p_id, p_colour, p_rev, p_made, p_swell, (⟨p_gauges_n, fun i => ofGauge (p_gauges_g i)⟩ : (L.Sq L.Gauge)), (⟨p_marks_n, fun i => ofMark (p_marks_g i)⟩ : (L.Sq L.Mark))⟩ : L.Piece) (⟨s_shift, s_back⟩ : L.Setting), g_reset_r (⟨p_id, p_colour, p_rev, p_made, p_swell, (⟨p_gauges_n, fun i => ofGauge (p_gauges_g i)⟩ : (L.Sq L.Gauge)), (⟨p_marks_n, fun i => ofMark (p_marks_g i)⟩ : (L.Sq L.Mark))⟩ : L.Piece) (⟨s_shift, s_back⟩ : L.Setting))
  | _ => none
abbrev g_reset_S : SE.Spec := (specO g_reset_s)
def g_reset_C : Cfg := { muts := [4, 6, 8, 11, 13, 19, 62, 98], frz := lookN [(22, [19, 98])], specs := lookS [(127, p_Edge_S), (114, s_cloneM_S), (128, g_sortedM_S), (129, g_cmpMarks_S)], loops := fun _ => none, iters := lookI [], rfs := lookR [], nils := lookM [], anys := [10, 23], raws := [128] }
theorem g_reset_vc (p : L.Piece) (s : L.Setting) (hp : g_reset_p p s) : vc Tryz.prog ({ g_reset_C with loops := lookL [(5, { T := Nat, keep := [2, 3, 4, 5, 6, 22, 23], keepO := [4, 6], chg := fun i => [(24, .p (.int .i64 (i : Int)))], own := fun i => [(19, .row 92 5 p.gauges.n (fun j => [.int .i64 ((L.rsTo p s i j).edge.lo), .int .i64 ((L.rsTo p s i j).edge.hi), .int .i64 ((L.rsTo p s i j).across.lo), .int .i64 ((L.rsTo p s i j).across.hi), .int .i64 ((L.rsTo p s i j).bend)]))], inv := fun i => i ≤ p.gauges.n, mu := fun i => p.gauges.n - i }), (15, { T := Nat, keep := [2, 3, 4, 5, 6, 65, 66], keepO := [4, 6, 19], chg := fun i => [(67, .p (.int .i64 (i : Int)))], own := fun i => [(62, .row 87 3 p.marks.n (fun k => [.int .i64 ((L.rsMTo p.marks s p.gauges.n i k).edge), .int .i64 ((L.rsMTo p.marks s p.gauges.n i k).place), .int .i64 ((L.rsMTo p.marks s p.gauges.n i k).tone)]))], inv := fun i => i ≤ p.marks.n, mu := fun i => p.marks.n - i })], rfs := lookR [] }) (bodyOf Tryz.f62) (st0 Tryz.f62 [.p (.agg [.int .i64 p.id, .int .i64 p.colour, .int .i64 p.rev, .int .i64 p.made, .int .i64 p.swell, .sl 5 p.gauges.n (fun i => [.int .i64 ((p.gauges.g i).edge.lo), .int .i64 ((p.gauges.g i).edge.hi), .int .i64 ((p.gauges.g i).across.lo), .int .i64 ((p.gauges.g i).across.hi), .int .i64 ((p.gauges.g i).bend)]), .sl 3 p.marks.n (fun i => [.int .i64 ((p.marks.g i).edge), .int .i64 ((p.marks.g i).place), .int .i64 ((p.marks.g i).tone)])]), .p (.agg [.int .i64 s.shift, .bool s.back])]) (retFn Tryz.prog Tryz.f62 (g_reset_r p s)) :=
  @Eq.mpr _ (((0 : Int) ≤ (↑p.gauges.n : Int) ∧ (↑p.gauges.n : Int) ≤ (↑p.gauges.n : Int) ∧ (↑p.gauges.n : Int) * (↑(nat_lit 40) : Int) ≤ (140737488355328 : Int)) ∧ (∃ (g : Nat), (0 : Int) = (↑g : Int) ∧ (Int.toNat (↑p.gauges.n : Int) = p.gauges.n ∧ ∀ (i : Nat), i < Int.toNat (↑p.gauges.n : Int) → [SV.int .i64 (0 : Int), SV.int .i64 (0 : Int), SV.int .i64 (0 :
 Int), SV.int .i64 (0 : Int), SV.int .i64 (0 : Int)] = [SV.int .i64 (L.rsTo p s g i).edge.lo, SV.int .i64 (L.rsTo p s g i).edge.hi, SV.int .i64 (L.rsTo p s g i).across.lo, SV.int .i64 (L.rsTo p s g i).across.hi, SV.int .i64 (L.rsTo p s g i).bend]) ∧ g ≤ p.gauges.n) ∧ ∀ (g : Nat), g ≤
 p.gauges.n → (decide ((↑g : Int) < (↑p.gauges.n : Int)) = true → ((0 : Int) ≤ (↑g : Int) ∧ (↑g : Int) < (↑p.gauges.n : Int)) ∧ True ∧ (s.back = true → InK .i64 ((↑g : Int) + (↑p.gauges.n : Int)) ∧ InK .i64 ((↑g : Int) + (↑p.gauges.n : Int) - (1 : Int)) ∧ (↑p.gauges.n : Int) ≠ (0 : Int) ∧ ((0 : Int) ≤ Int.tmod ((↑g : Int) + (↑p.gauges.n : Int) -
 (1 : Int)) (↑p.gauges.n : Int) ∧ Int.tmod ((↑g : Int) + (↑p.gauges.n : Int) - (1 : Int)) (↑p.gauges.n : Int) < (↑p.gauges.n : Int)) ∧ ((((((0 : Int) ≤ L.ed s (↑p.gauges.n : Int) (↑g : Int) ∧ L.ed s (↑p.gauges.n : Int) (↑g : Int) < (↑p.gauges.n : Int)) ∧ Int.toNat (L.ed s (↑p.gauges.n : Int) (↑g : Int)) < p.gauges.n ∧ InK .i64 ((↑g : Int) + (1 : Int)) ∧ ∃ (g' : Nat), (↑g : Int) + (1
 : Int) = (↑g' : Int) ∧ (↑p.gauges.n : Int) = (↑p.gauges.n : Int) ∧ (p.gauges.n = p.gauges.n ∧ ∀ (i : Nat), i < p.gauges.n → [SV.int .i64 (p.gauges.g i).edge.lo, SV.int .i64 (p.gauges.g i).edge.hi, SV.int .i64 (p.gauges.g i).across.lo, SV.int .i64 (p.gauges.g i).across.hi, SV.int .i64 (p.gauges.g i).bend] =
 [SV.int .i64 (p.gauges.g i).edge.lo, SV.int .i64 (p.gauges.g i).edge.hi, SV.int .i64 (p.gauges.g i).across.lo, SV.int .i64 (p.gauges.g i).across.hi, SV.int .i64 (p.gauges.g i).bend]) ∧ nat_lit 0 = nat_lit 0 ∧ (↑p.gauges.n : Int) = (↑p.gauges.n : Int) ∧ nat_lit 0 = nat_lit 0 ∧ SV.ref [SV.int .i64
 s.shift, SV.bool s.back] (nat_lit 0) = SV.ref [SV.int .i64 s.shift, SV.bool s.back] (nat_lit 0) ∧ SV.ref [SV.int .i64 p.id, SV.int .i64 p.colour, SV.int .i64 p.rev, SV.int .i64 p.made, SV.int .i64 p.swell, SV.sl (nat_lit 5) p.gauges.n fun (i : Nat) ↦ [SV.int
 .i64 (p.gauges.g i).edge.lo, SV.int .i64 (p.gauges.g i).edge.hi, SV.int .i64 (p.gauges.g i).across.lo, SV.int .i64 (p.gauges.g i).across.hi, SV.int .i64 (p.gauges.g i).bend], SV.sl (nat_lit 3) p.marks.n fun (i : Nat) ↦ [SV.int .i64 (p.marks.g i).edge, SV.int .i64 (p.marks.g i).place,
 SV.int .i64 (p.marks.g i).tone]] (nat_lit 0) = SV.ref [SV.int .i64 p.id, SV.int .i64 p.colour, SV.int .i64 p.rev, SV.int .i64 p.made, SV.int .i64 p.swell, SV.sl (nat_lit 5) p.gauges.n fun (i : Nat) ↦ [SV.int .i64 (p.gauges.g i).edge.lo, SV.int .i64 (p.gauges.g
 i).edge.hi, SV.int .i64 (p.gauges.g i).across.lo, SV.int .i64 (p.gauges.g i).across.hi, SV.int .i64 (p.gauges.g i).bend], SV.sl (nat_lit 3) p.marks.n fun (i : Nat) ↦ [SV.int .i64 (p.marks.g i).edge, SV.int .i64 (p.marks.g i).place, SV.int .i64 (p.marks.g i).tone]] (nat_lit 0) ∧ (p.gauges.n =
 p.gauges.n ∧ ∀ (i : Nat), i < p.gauges.n → setRow (fun (j : Nat) ↦ [SV.int .i64 (L.rsTo p s g j).edge.lo, SV.int .i64 (L.rsTo p s g j).edge.hi, SV.int .i64 (L.rsTo p s g j).across.lo, SV.int .i64 (L.rsTo p s g j).across.hi, SV.int .i64 (L.rsTo p s g j).bend]) (Int.toNat (L.ed s (↑p.gauges.n : Int) (↑g : Int)))
 (nat_lit 0) [SV.int .i64 (p.gauges.g (Int.toNat (↑g : Int))).edge.lo, SV.int .i64 (p.gauges.g (Int.toNat (↑g : Int))).edge.hi, SV.int .i64 (p.gauges.g (Int.toNat (Int.tmod ((↑g : Int) + (↑p.gauges.n : Int) - (1 : Int)) (↑p.gauges.n : Int)))).across.lo, SV.int .i64 (p.gauges.g (Int.toNat (Int.tmod ((↑g : Int) + (↑p.gauges.n : Int) - (1
 : Int)) (↑p.gauges.n : Int)))).across.hi, SV.int .i64 (p.gauges.g (Int.toNat (Int.tmod ((↑g : Int) + (↑p.gauges.n : Int) - (1 : Int)) (↑p.gauges.n : Int)))).bend] i = [SV.int .i64 (L.rsTo p s g' i).edge.lo, SV.int .i64 (L.rsTo p s g' i).edge.hi, SV.int .i64 (L.rsTo p s g' i).across.lo, SV.int .i64 (L.rsTo p s g'
 i).across.hi, SV.int .i64 (L.rsTo p s g' i).bend]) ∧ p.id = p.id ∧ p.colour = p.colour ∧ p.rev = p.rev ∧ p.made = p.made ∧ p.swell = p.swell ∧ (p.marks.n = p.marks.n ∧ ∀ (i : Nat), i < p.marks.n → [SV.int .i64 (p.marks.g i).edge, SV.int .i64 (p.marks.g i).place, SV.int .i64 (p.marks.g i).tone] = [SV.int .i64 (p.marks.g
 i).edge, SV.int .i64 (p.marks.g i).place, SV.int .i64 (p.marks.g i).tone]) ∧ (0 : Int) = (0 : Int) ∧ (0 : Int) = (0 : Int) ∧ (0 : Int) = (0 : Int) ∧ (0 : Int) = (0 : Int) ∧ (0 : Int) = (0 : Int) ∧ Value.slice Option.none (0 : Nat) (0 : Nat) = Value.slice Option.none (0 : Nat) (0 : Nat) ∧ Value.slice Option.none (0 : Nat) (0 : Nat) = Value.slice
 Option.none (0 : Nat) (0 : Nat) ∧ g' ≤ p.gauges.n ∧ p.gauges.n - g' < p.gauges.n - g) ∧ (((0 : Int) ≤ L.ed s (↑p.gauges.n : Int) (↑g : Int) ∧ L.ed s (↑p.gauges.n : Int) (↑g : Int) < (↑p.gauges.n : Int)) ∧ Int.toNat (L.ed s (↑p.gauges.n : Int) (↑g : Int)) < p.gauges.n ∧ InK .i64 ((↑g : Int) + (1 : Int)) ∧ ∃ (g' : Nat), (↑g : Int) + (1 : Int) = (↑g' : Int) ∧ (↑p.gauges.n : Int) =
 (↑p.gauges.n : Int) ∧ (p.gauges.n = p.gauges.n ∧ ∀ (i : Nat), i < p.gauges.n → [SV.int .i64 (p.gauges.g i).edge.lo, SV.int .i64 (p.gauges.g i).edge.hi, SV.int .i64 (p.gauges.g i).across.lo, SV.int .i64 (p.gauges.g i).across.hi, SV.int .i64 (p.gauges.g i).bend] = [SV.int .i64 (p.gauges.g i).edge.lo,
 SV.int .i64 (p.gauges.g i).edge.hi, SV.int .i64 (p.gauges.g i).across.lo, SV.int .i64 (p.gauges.g i).across.hi, SV.int .i64 (p.gauges.g i).bend]) ∧ nat_lit 0 = nat_lit 0 ∧ (↑p.gauges.n : Int) = (↑p.gauges.n : Int) ∧ nat_lit 0 = nat_lit 0 ∧ SV.ref [SV.int .i64 s.shift, SV.bool s.back] (nat_lit 0) =
 SV.ref [SV.int .i64 s.shift, SV.bool s.back] (nat_lit 0) ∧ SV.ref [SV.int .i64 p.id, SV.int .i64 p.colour, SV.int .i64 p.rev, SV.int .i64 p.made, SV.int .i64 p.swell, SV.sl (nat_lit 5) p.gauges.n fun (i : Nat) ↦ [SV.int .i64 (p.gauges.g i).edge.lo, SV.int
 .i64 (p.gauges.g i).edge.hi, SV.int .i64 (p.gauges.g i).across.lo, SV.int .i64 (p.gauges.g i).across.hi, SV.int .i64 (p.gauges.g i).bend], SV.sl (nat_lit 3) p.marks.n fun (i : Nat) ↦ [SV.int .i64 (p.marks.g i).edge, SV.int .i64 (p.marks.g i).place, SV.int .i64 (p.marks.g i).tone]]
 (nat_lit 0) = SV.ref [SV.int .i64 p.id, SV.int .i64 p.colour, SV.int .i64 p.rev, SV.int .i64 p.made, SV.int .i64 p.swell, SV.sl (nat_lit 5) p.gauges.n fun (i : Nat) ↦ [SV.int .i64 (p.gauges.g i).edge.lo, SV.int .i64 (p.gauges.g i).edge.hi, SV.int .i64
 (p.gauges.g i).across.lo, SV.int .i64 (p.gauges.g i).across.hi, SV.int .i64 (p.gauges.g i).bend], SV.sl (nat_lit 3) p.marks.n fun (i : Nat) ↦ [SV.int .i64 (p.marks.g i).edge, SV.int .i64 (p.marks.g i).place, SV.int .i64 (p.marks.g i).tone]] (nat_lit 0) ∧ (p.gauges.n = p.gauges.n ∧ ∀ (i : Nat), i < p.gauges.n →
 setRow (fun (j : Nat) ↦ [SV.int .i64 (L.rsTo p s g j).edge.lo, SV.int .i64 (L.rsTo p s g j).edge.hi, SV.int .i64 (L.rsTo p s g j).across.lo, SV.int .i64 (L.rsTo p s g j).across.hi, SV.int .i64 (L.rsTo p s g j).bend]) (Int.toNat (L.ed s (↑p.gauges.n : Int) (↑g : Int))) (nat_lit 0) [SV.int .i64
 (p.gauges.g (Int.toNat (↑g : Int))).edge.lo, SV.int .i64 (p.gauges.g (Int.toNat (↑g : Int))).edge.hi, SV.int .i64 (p.gauges.g (Int.toNat (Int.tmod ((↑g : Int) + (↑p.gauges.n : Int) - (1 : Int)) (↑p.gauges.n : Int)))).across.lo, SV.int .i64 (p.gauges.g (Int.toNat (Int.tmod ((↑g : Int) + (↑p.gauges.n : Int) - (1 : Int)) (↑p.gauges.n :
 Int)))).across.hi, SV.int .i64 (p.gauges.g (Int.toNat (Int.tmod ((↑g : Int) + (↑p.gauges.n : Int) - (1 : Int)) (↑p.gauges.n : Int)))).bend] i = [SV.int .i64 (L.rsTo p s g' i).edge.lo, SV.int .i64 (L.rsTo p s g' i).edge.hi, SV.int .i64 (L.rsTo p s g' i).across.lo, SV.int .i64 (L.rsTo p s g' i).across.hi, SV.int
 .i64 (L.rsTo p s g' i).bend]) ∧ p.id = p.id ∧ p.colour = p.colour ∧ p.rev = p.rev ∧ p.made = p.made ∧ p.swell = p.swell ∧ (p.marks.n = p.marks.n ∧ ∀ (i : Nat), i < p.marks.n → [SV.int .i64 (p.marks.g i).edge, SV.int .i64 (p.marks.g i).place, SV.int .i64 (p.marks.g i).tone] = [SV.int .i64 (p.marks.g i).edge, SV.int
 .i64 (p.marks.g i).place, SV.int .i64 (p.marks.g i).tone]) ∧ (0 : Int) = (0 : Int) ∧ (0 : Int) = (0 : Int) ∧ (0 : Int) = (0 : Int) ∧ (0 : Int) = (0 : Int) ∧ (0 : Int) = (0 : Int) ∧ Value.slice Option.none (0 : Nat) (0 : Nat) = Value.slice Option.none (0 : Nat) (0 : Nat) ∧ Value.slice Option.none (0 : Nat) (0 : Nat) = Value.slice Option.none (0 : Nat) (0 : Nat)
 ∧ g' ≤ p.gauges.n ∧ p.gauges.n - g' < p.gauges.n - g) ∧ ((0 : Int) ≤ L.ed s (↑p.gauges.n : Int) (↑g : Int) ∧ L.ed s (↑p.gauges.n : Int) (↑g : Int) < (↑p.gauges.n : Int)) ∧ Int.toNat (L.ed s (↑p.gauges.n : Int) (↑g : Int)) < p.gauges.n ∧ InK .i64 ((↑g : Int) + (1 : Int)) ∧ ∃ (g' : Nat), (↑g : Int) + (1 : Int) = (↑g' : Int) ∧ (↑p.gauges.n : Int) = (↑p.gauges.n : Int) ∧ (p.gauges.n =
 p.gauges.n ∧ ∀ (i : Nat), i < p.gauges.n → [SV.int .i64 (p.gauges.g i).edge.lo, SV.int .i64 (p.gauges.g i).edge.hi, SV.int .i64 (p.gauges.g i).across.lo, SV.int .i64 (p.gauges.g i).across.hi, SV.int .i64 (p.gauges.g i).bend] = [SV.int .i64 (p.gauges.g i).edge.lo, SV.int .i64 (p.gauges.g
 i).edge.hi, SV.int .i64 (p.gauges.g i).across.lo, SV.int .i64 (p.gauges.g i).across.hi, SV.int .i64 (p.gauges.g i).bend]) ∧ nat_lit 0 = nat_lit 0 ∧ (↑p.gauges.n : Int) = (↑p.gauges.n : Int) ∧ nat_lit 0 = nat_lit 0 ∧ SV.ref [SV.int .i64 s.shift, SV.bool s.back] (nat_lit 0) = SV.ref [SV.int .i64
 s.shift, SV.bool s.back] (nat_lit 0) ∧ SV.ref [SV.int .i64 p.id, SV.int .i64 p.colour, SV.int .i64 p.rev, SV.int .i64 p.made, SV.int .i64 p.swell, SV.sl (nat_lit 5) p.gauges.n fun (i : Nat) ↦ [SV.int .i64 (p.gauges.g i).edge.lo, SV.int .i64 (p.gauges.g i).edge.hi,
 SV.int .i64 (p.gauges.g i).across.lo, SV.int .i64 (p.gauges.g i).across.hi, SV.int .i64 (p.gauges.g i).bend], SV.sl (nat_lit 3) p.marks.n fun (i : Nat) ↦ [SV.int .i64 (p.marks.g i).edge, SV.int .i64 (p.marks.g i).place, SV.int .i64 (p.marks.g i).tone]] (nat_lit 0) = SV.ref [SV.int
 .i64 p.id, SV.int .i64 p.colour, SV.int .i64 p.rev, SV.int .i64 p.made, SV.int .i64 p.swell, SV.sl (nat_lit 5) p.gauges.n fun (i : Nat) ↦ [SV.int .i64 (p.gauges.g i).edge.lo, SV.int .i64 (p.gauges.g i).edge.hi, SV.int .i64 (p.gauges.g i).across.lo, SV.int
 .i64 (p.gauges.g i).across.hi, SV.int .i64 (p.gauges.g i).bend], SV.sl (nat_lit 3) p.marks.n fun (i : Nat) ↦ [SV.int .i64 (p.marks.g i).edge, SV.int .i64 (p.marks.g i).place, SV.int .i64 (p.marks.g i).tone]] (nat_lit 0) ∧ (p.gauges.n = p.gauges.n ∧ ∀ (i : Nat), i < p.gauges.n → setRow (fun (j : Nat) ↦
 [SV.int .i64 (L.rsTo p s g j).edge.lo, SV.int .i64 (L.rsTo p s g j).edge.hi, SV.int .i64 (L.rsTo p s g j).across.lo, SV.int .i64 (L.rsTo p s g j).across.hi, SV.int .i64 (L.rsTo p s g j).bend]) (Int.toNat (L.ed s (↑p.gauges.n : Int) (↑g : Int))) (nat_lit 0) [SV.int .i64 (p.gauges.g (Int.toNat (↑g :
 Int))).edge.lo, SV.int .i64 (p.gauges.g (Int.toNat (↑g : Int))).edge.hi, SV.int .i64 (p.gauges.g (Int.toNat (Int.tmod ((↑g : Int) + (↑p.gauges.n : Int) - (1 : Int)) (↑p.gauges.n : Int)))).across.lo, SV.int .i64 (p.gauges.g (Int.toNat (Int.tmod ((↑g : Int) + (↑p.gauges.n : Int) - (1 : Int)) (↑p.gauges.n : Int)))).across.hi, SV.int .i64
 (p.gauges.g (Int.toNat (Int.tmod ((↑g : Int) + (↑p.gauges.n : Int) - (1 : Int)) (↑p.gauges.n : Int)))).bend] i = [SV.int .i64 (L.rsTo p s g' i).edge.lo, SV.int .i64 (L.rsTo p s g' i).edge.hi, SV.int .i64 (L.rsTo p s g' i).across.lo, SV.int .i64 (L.rsTo p s g' i).across.hi, SV.int .i64 (L.rsTo p s g' i).bend]) ∧ p.id =
 p.id ∧ p.colour = p.colour ∧ p.rev = p.rev ∧ p.made = p.made ∧ p.swell = p.swell ∧ (p.marks.n = p.marks.n ∧ ∀ (i : Nat), i < p.marks.n → [SV.int .i64 (p.marks.g i).edge, SV.int .i64 (p.marks.g i).place, SV.int .i64 (p.marks.g i).tone] = [SV.int .i64 (p.marks.g i).edge, SV.int .i64 (p.marks.g i).place, SV.int
 .i64 (p.marks.g i).tone]) ∧ (0 : Int) = (0 : Int) ∧ (0 : Int) = (0 : Int) ∧ (0 : Int) = (0 : Int) ∧ (0 : Int) = (0 : Int) ∧ (0 : Int) = (0 : Int) ∧ Value.slice Option.none (0 : Nat) (0 : Nat) = Value.slice Option.none (0 : Nat) (0 : Nat) ∧ Value.slice Option.none (0 : Nat) (0 : Nat) = Value.slice Option.none (0 : Nat) (0 : Nat) ∧ g' ≤ p.gauges.n ∧ p.gauges.n - g' < p.gauges.n
 - g) ∧ ((((0 : Int) ≤ L.ed s (↑p.gauges.n : Int) (↑g : Int) ∧ L.ed s (↑p.gauges.n : Int) (↑g : Int) < (↑p.gauges.n : Int)) ∧ Int.toNat (L.ed s (↑p.gauges.n : Int) (↑g : Int)) < p.gauges.n ∧ InK .i64 ((↑g : Int) + (1 : Int)) ∧ ∃ (g' : Nat), (↑g : Int) + (1 : Int) = (↑g' : Int) ∧ (↑p.gauges.n : Int) = (↑p.gauges.n : Int) ∧ (p.gauges.n = p.gauges.n ∧ ∀ (i : Nat), i < p.gauges.n →
 [SV.int .i64 (p.gauges.g i).edge.lo, SV.int .i64 (p.gauges.g i).edge.hi, SV.int .i64 (p.gauges.g i).across.lo, SV.int .i64 (p.gauges.g i).across.hi, SV.int .i64 (p.gauges.g i).bend] = [SV.int .i64 (p.gauges.g i).edge.lo, SV.int .i64 (p.gauges.g i).edge.hi, SV.int .i64
 (p.gauges.g i).across.lo, SV.int .i64 (p.gauges.g i).across.hi, SV.int .i64 (p.gauges.g i).bend]) ∧ nat_lit 0 = nat_lit 0 ∧ (↑p.gauges.n : Int) = (↑p.gauges.n : Int) ∧ nat_lit 0 = nat_lit 0 ∧ SV.ref [SV.int .i64 s.shift, SV.bool s.back] (nat_lit 0) = SV.ref [SV.int .i64 s.shift, SV.bool s.back] (nat_lit 0) ∧
 SV.ref [SV.int .i64 p.id, SV.int .i64 p.colour, SV.int .i64 p.rev, SV.int .i64 p.made, SV.int .i64 p.swell, SV.sl (nat_lit 5) p.gauges.n fun (i : Nat) ↦ [SV.int .i64 (p.gauges.g i).edge.lo, SV.int .i64 (p.gauges.g i).edge.hi, SV.int .i64 (p.gauges.g
 i).across.lo, SV.int .i64 (p.gauges.g i).across.hi, SV.int .i64 (p.gauges.g i).bend], SV.sl (nat_lit 3) p.marks.n fun (i : Nat) ↦ [SV.int .i64 (p.marks.g i).edge, SV.int .i64 (p.marks.g i).place, SV.int .i64 (p.marks.g i).tone]] (nat_lit 0) = SV.ref [SV.int .i64 p.id, SV.int
 .i64 p.colour, SV.int .i64 p.rev, SV.int .i64 p.made, SV.int .i64 p.swell, SV.sl (nat_lit 5) p.gauges.n fun (i : Nat) ↦ [SV.int .i64 (p.gauges.g i).edge.lo, SV.int .i64 (p.gauges.g i).edge.hi, SV.int .i64 (p.gauges.g i).across.lo, SV.int .i64 (p.gauges.g i).across.hi,
 SV.int .i64 (p.gauges.g i).bend], SV.sl (nat_lit 3) p.marks.n fun (i : Nat) ↦ [SV.int .i64 (p.marks.g i).edge, SV.int .i64 (p.marks.g i).place, SV.int .i64 (p.marks.g i).tone]] (nat_lit 0) ∧ (p.gauges.n = p.gauges.n ∧ ∀ (i : Nat), i < p.gauges.n → setRow (fun (j : Nat) ↦ [SV.int .i64 (L.rsTo p s g
 j).edge.lo, SV.int .i64 (L.rsTo p s g j).edge.hi, SV.int .i64 (L.rsTo p s g j).across.lo, SV.int .i64 (L.rsTo p s g j).across.hi, SV.int .i64 (L.rsTo p s g j).bend]) (Int.toNat (L.ed s (↑p.gauges.n : Int) (↑g : Int))) (nat_lit 0) [SV.int .i64 (p.gauges.g (Int.toNat (↑g : Int))).edge.lo, SV.int .i64
 (p.gauges.g (Int.toNat (↑g : Int))).edge.hi, SV.int .i64 (p.gauges.g (Int.toNat (Int.tmod ((↑g : Int) + (↑p.gauges.n : Int) - (1 : Int)) (↑p.gauges.n : Int)))).across.lo, SV.int .i64 (p.gauges.g (Int.toNat (Int.tmod ((↑g : Int) + (↑p.gauges.n : Int) - (1 : Int)) (↑p.gauges.n : Int)))).across.hi, SV.int .i64 (p.gauges.g (Int.toNat (Int.tmod ((↑g :
 Int) + (↑p.gauges.n : Int) - (1 : Int)) (↑p.gauges.n : Int)))).bend] i = [SV.int .i64 (L.rsTo p s g' i).edge.lo, SV.int .i64 (L.rsTo p s g' i).edge.hi, SV.int .i64 (L.rsTo p s g' i).across.lo, SV.int .i64 (L.rsTo p s g' i).across.hi, SV.int .i64 (L.rsTo p s g' i).bend]) ∧ p.id = p.id ∧ p.colour = p.colour ∧ p.rev =
 p.rev ∧ p.made = p.made ∧ p.swell = p.swell ∧ (p.marks.n = p.marks.n ∧ ∀ (i : Nat), i < p.marks.n → [SV.int .i64 (p.marks.g i).edge, SV.int .i64 (p.marks.g i).place, SV.int .i64 (p.marks.g i).tone] = [SV.int .i64 (p.marks.g i).edge, SV.int .i64 (p.marks.g i).place, SV.int .i64 (p.marks.g i).tone]) ∧ (0
 : Int) = (0 : Int) ∧ (0 : Int) = (0 : Int) ∧ (0 : Int) = (0 : Int) ∧ (0 : Int) = (0 : Int) ∧ (0 : Int) = (0 : Int) ∧ Value.slice Option.none (0 : Nat) (0 : Nat) = Value.slice Option.none (0 : Nat) (0 : Nat) ∧ Value.slice Option.none (0 : Nat) (0 : Nat) = Value.slice Option.none (0 : Nat) (0 : Nat) ∧ g' ≤ p.gauges.n ∧ p.gauges.n - g' < p.gauges.n - g) ∧ ((0 : Int) ≤ L.ed s (↑p.gauges.n
 : Int) (↑g : Int) ∧ L.ed s (↑p.gauges.n : Int) (↑g : Int) < (↑p.gauges.n : Int)) ∧ Int.toNat (L.ed s (↑p.gauges.n : Int) (↑g : Int)) < p.gauges.n ∧ InK .i64 ((↑g : Int) + (1 : Int)) ∧ ∃ (g' : Nat), (↑g : Int) + (1 : Int) = (↑g' : Int) ∧ (↑p.gauges.n : Int) = (↑p.gauges.n : Int) ∧ (p.gauges.n = p.gauges.n ∧ ∀ (i : Nat), i < p.gauges.n → [SV.int .i64 (p.gauges.g
 i).edge.lo, SV.int .i64 (p.gauges.g i).edge.hi, SV.int .i64 (p.gauges.g i).across.lo, SV.int .i64 (p.gauges.g i).across.hi, SV.int .i64 (p.gauges.g i).bend] = [SV.int .i64 (p.gauges.g i).edge.lo, SV.int .i64 (p.gauges.g i).edge.hi, SV.int .i64 (p.gauges.g i).across.lo, SV.int
 .i64 (p.gauges.g i).across.hi, SV.int .i64 (p.gauges.g i).bend]) ∧ nat_lit 0 = nat_lit 0 ∧ (↑p.gauges.n : Int) = (↑p.gauges.n : Int) ∧ nat_lit 0 = nat_lit 0 ∧ SV.ref [SV.int .i64 s.shift, SV.bool s.back] (nat_lit 0) = SV.ref [SV.int .i64 s.shift, SV.bool s.back] (nat_lit 0) ∧ SV.ref [SV.int .i64
 p.id, SV.int .i64 p.colour, SV.int .i64 p.rev, SV.int .i64 p.made, SV.int .i64 p.swell, SV.sl (nat_lit 5) p.gauges.n fun (i : Nat) ↦ [SV.int .i64 (p.gauges.g i).edge.lo, SV.int .i64 (p.gauges.g i).edge.hi, SV.int .i64 (p.gauges.g i).across.lo, SV.int .i64
 (p.gauges.g i).across.hi, SV.int .i64 (p.gauges.g i).bend], SV.sl (nat_lit 3) p.marks.n fun (i : Nat) ↦ [SV.int .i64 (p.marks.g i).edge, SV.int .i64 (p.marks.g i).place, SV.int .i64 (p.marks.g i).tone]] (nat_lit 0) = SV.ref [SV.int .i64 p.id, SV.int .i64 p.colour, SV.int .i64
 p.rev, SV.int .i64 p.made, SV.int .i64 p.swell, SV.sl (nat_lit 5) p.gauges.n fun (i : Nat) ↦ [SV.int .i64 (p.gauges.g i).edge.lo, SV.int .i64 (p.gauges.g i).edge.hi, SV.int .i64 (p.gauges.g i).across.lo, SV.int .i64 (p.gauges.g i).across.hi, SV.int .i64 (p.gauges.g i).bend],
 SV.sl (nat_lit 3) p.marks.n fun (i : Nat) ↦ [SV.int .i64 (p.marks.g i).edge, SV.int .i64 (p.marks.g i).place, SV.int .i64 (p.marks.g i).tone]] (nat_lit 0) ∧ (p.gauges.n = p.gauges.n ∧ ∀ (i : Nat), i < p.gauges.n → setRow (fun (j : Nat) ↦ [SV.int .i64 (L.rsTo p s g j).edge.lo, SV.int .i64 (L.rsTo p s g
 j).edge.hi, SV.int .i64 (L.rsTo p s g j).across.lo, SV.int .i64 (L.rsTo p s g j).across.hi, SV.int .i64 (L.rsTo p s g j).bend]) (Int.toNat (L.ed s (↑p.gauges.n : Int) (↑g : Int))) (nat_lit 0) [SV.int .i64 (p.gauges.g (Int.toNat (↑g : Int))).edge.lo, SV.int .i64 (p.gauges.g (Int.toNat (↑g : Int))).edge.hi, SV.int
 .i64 (p.gauges.g (Int.toNat (Int.tmod ((↑g : Int) + (↑p.gauges.n : Int) - (1 : Int)) (↑p.gauges.n : Int)))).across.lo, SV.int .i64 (p.gauges.g (Int.toNat (Int.tmod ((↑g : Int) + (↑p.gauges.n : Int) - (1 : Int)) (↑p.gauges.n : Int)))).across.hi, SV.int .i64 (p.gauges.g (Int.toNat (Int.tmod ((↑g : Int) + (↑p.gauges.n : Int) - (1 : Int)) (↑p.gauges.n :
 Int)))).bend] i = [SV.int .i64 (L.rsTo p s g' i).edge.lo, SV.int .i64 (L.rsTo p s g' i).edge.hi, SV.int .i64 (L.rsTo p s g' i).across.lo, SV.int .i64 (L.rsTo p s g' i).across.hi, SV.int .i64 (L.rsTo p s g' i).bend]) ∧ p.id = p.id ∧ p.colour = p.colour ∧ p.rev = p.rev ∧ p.made = p.made ∧ p.swell = p.swell ∧ (p.marks.n =
 p.marks.n ∧ ∀ (i : Nat), i < p.marks.n → [SV.int .i64 (p.marks.g i).edge, SV.int .i64 (p.marks.g i).place, SV.int .i64 (p.marks.g i).tone] = [SV.int .i64 (p.marks.g i).edge, SV.int .i64 (p.marks.g i).place, SV.int .i64 (p.marks.g i).tone]) ∧ (0 : Int) = (0 : Int) ∧ (0 : Int) = (0 : Int) ∧ (0 : Int) = (0
 : Int) ∧ (0 : Int) = (0 : Int) ∧ (0 : Int) = (0 : Int) ∧ Value.slice Option.none (0 : Nat) (0 : Nat) = Value.slice Option.none (0 : Nat) (0 : Nat) ∧ Value.slice Option.none (0 : Nat) (0 : Nat) = Value.slice Option.none (0 : Nat) (0 : Nat) ∧ g' ≤ p.gauges.n ∧ p.gauges.n - g' < p.gauges.n - g) ∧ ((0 : Int) ≤ L.ed s (↑p.gauges.n : Int) (↑g : Int) ∧ L.ed s (↑p.gauges.n : Int) (↑g : Int) <
 (↑p.gauges.n : Int)) ∧ Int.toNat (L.ed s (↑p.gauges.n : Int) (↑g : Int)) < p.gauges.n ∧ InK .i64 ((↑g : Int) + (1 : Int)) ∧ ∃ (g' : Nat), (↑g : Int) + (1 : Int) = (↑g' : Int) ∧ (↑p.gauges.n : Int) = (↑p.gauges.n : Int) ∧ (p.gauges.n = p.gauges.n ∧ ∀ (i : Nat), i < p.gauges.n → [SV.int .i64 (p.gauges.g i).edge.lo, SV.int .i64 (p.gauges.g i).edge.hi,
 SV.int .i64 (p.gauges.g i).across.lo, SV.int .i64 (p.gauges.g i).across.hi, SV.int .i64 (p.gauges.g i).bend] = [SV.int .i64 (p.gauges.g i).edge.lo, SV.int .i64 (p.gauges.g i).edge.hi, SV.int .i64 (p.gauges.g i).across.lo, SV.int .i64 (p.gauges.g i).across.hi, SV.int .i64
 (p.gauges.g i).bend]) ∧ nat_lit 0 = nat_lit 0 ∧ (↑p.gauges.n : Int) = (↑p.gauges.n : Int) ∧ nat_lit 0 = nat_lit 0 ∧ SV.ref [SV.int .i64 s.shift, SV.bool s.back] (nat_lit 0) = SV.ref [SV.int .i64 s.shift, SV.bool s.back] (nat_lit 0) ∧ SV.ref [SV.int .i64 p.id, SV.int .i64 p.colour, SV.int
 .i64 p.rev, SV.int .i64 p.made, SV.int .i64 p.swell, SV.sl (nat_lit 5) p.gauges.n fun (i : Nat) ↦ [SV.int .i64 (p.gauges.g i).edge.lo, SV.int .i64 (p.gauges.g i).edge.hi, SV.int .i64 (p.gauges.g i).across.lo, SV.int .i64 (p.gauges.g i).across.hi, SV.int .i64 (p.gauges.g
 i).bend], SV.sl (nat_lit 3) p.marks.n fun (i : Nat) ↦ [SV.int .i64 (p.marks.g i).edge, SV.int .i64 (p.marks.g i).place, SV.int .i64 (p.marks.g i).tone]] (nat_lit 0) = SV.ref [SV.int .i64 p.id, SV.int .i64 p.colour, SV.int .i64 p.rev, SV.int .i64 p.made, SV.int
 .i64 p.swell, SV.sl (nat_lit 5) p.gauges.n fun (i : Nat) ↦ [SV.int .i64 (p.gauges.g i).edge.lo, SV.int .i64 (p.gauges.g i).edge.hi, SV.int .i64 (p.gauges.g i).across.lo, SV.int .i64 (p.gauges.g i).across.hi, SV.int .i64 (p.gauges.g i).bend], SV.sl (nat_lit 3) p.marks.n fun (i : Nat) ↦
 [SV.int .i64 (p.marks.g i).edge, SV.int .i64 (p.marks.g i).place, SV.int .i64 (p.marks.g i).tone]] (nat_lit 0) ∧ (p.gauges.n = p.gauges.n ∧ ∀ (i : Nat), i < p.gauges.n → setRow (fun (j : Nat) ↦ [SV.int .i64 (L.rsTo p s g j).edge.lo, SV.int .i64 (L.rsTo p s g j).edge.hi, SV.int .i64 (L.rsTo p s g
 j).across.lo, SV.int .i64 (L.rsTo p s g j).across.hi, SV.int .i64 (L.rsTo p s g j).bend]) (Int.toNat (L.ed s (↑p.gauges.n : Int) (↑g : Int))) (nat_lit 0) [SV.int .i64 (p.gauges.g (Int.toNat (↑g : Int))).edge.lo, SV.int .i64 (p.gauges.g (Int.toNat (↑g : Int))).edge.hi, SV.int .i64 (p.gauges.g (Int.toNat (Int.tmod ((↑g :
 Int) + (↑p.gauges.n : Int) - (1 : Int)) (↑p.gauges.n : Int)))).across.lo, SV.int .i64 (p.gauges.g (Int.toNat (Int.tmod ((↑g : Int) + (↑p.gauges.n : Int) - (1 : Int)) (↑p.gauges.n : Int)))).across.hi, SV.int .i64 (p.gauges.g (Int.toNat (Int.tmod ((↑g : Int) + (↑p.gauges.n : Int) - (1 : Int)) (↑p.gauges.n : Int)))).bend] i = [SV.int .i64 (L.rsTo p s g'
 i).edge.lo, SV.int .i64 (L.rsTo p s g' i).edge.hi, SV.int .i64 (L.rsTo p s g' i).across.lo, SV.int .i64 (L.rsTo p s g' i).across.hi, SV.int .i64 (L.rsTo p s g' i).bend]) ∧ p.id = p.id ∧ p.colour = p.colour ∧ p.rev = p.rev ∧ p.made = p.made ∧ p.swell = p.swell ∧ (p.marks.n = p.marks.n ∧ ∀ (i : Nat), i < p.marks.n → [SV.int
 .i64 (p.marks.g i).edge, SV.int .i64 (p.marks.g i).place, SV.int .i64 (p.marks.g i).tone] = [SV.int .i64 (p.marks.g i).edge, SV.int .i64 (p.marks.g i).place, SV.int .i64 (p.marks.g i).tone]) ∧ (0 : Int) = (0 : Int) ∧ (0 : Int) = (0 : Int) ∧ (0 : Int) = (0 : Int) ∧ (0 : Int) = (0 : Int) ∧ (0 : Int) = (0 : Int)
 ∧ Value.slice Option.none (0 : Nat) (0 : Nat) = Value.slice Option.none (0 : Nat) (0 : Nat) ∧ Value.slice Option.none (0 : Nat) (0 : Nat) = Value.slice Option.none (0 : Nat) (0 : Nat) ∧ g' ≤ p.gauges.n ∧ p.gauges.n - g' < p.gauges.n - g) ∧ ((((0 : Int) ≤ L.ed s (↑p.gauges.n : Int) (↑g : Int) ∧ L.ed s (↑p.gauges.n : Int) (↑g : Int) < (↑p.gauges.n : Int)) ∧ Int.toNat (L.ed s (↑p.gauges.n
 : Int) (↑g : Int)) < p.gauges.n ∧ InK .i64 ((↑g : Int) + (1 : Int)) ∧ ∃ (g' : Nat), (↑g : Int) + (1 : Int) = (↑g' : Int) ∧ (↑p.gauges.n : Int) = (↑p.gauges.n : Int) ∧ (p.gauges.n = p.gauges.n ∧ ∀ (i : Nat), i < p.gauges.n → [SV.int .i64 (p.gauges.g i).edge.lo, SV.int .i64 (p.gauges.g i).edge.hi, SV.int .i64 (p.gauges.g i).across.lo,
 SV.int .i64 (p.gauges.g i).across.hi, SV.int .i64 (p.gauges.g i).bend] = [SV.int .i64 (p.gauges.g i).edge.lo, SV.int .i64 (p.gauges.g i).edge.hi, SV.int .i64 (p.gauges.g i).across.lo, SV.int .i64 (p.gauges.g i).across.hi, SV.int .i64 (p.gauges.g i).bend]) ∧ nat_lit 0 = nat_lit 0 ∧
 (↑p.gauges.n : Int) = (↑p.gauges.n : Int) ∧ nat_lit 0 = nat_lit 0 ∧ SV.ref [SV.int .i64 s.shift, SV.bool s.back] (nat_lit 0) = SV.ref [SV.int .i64 s.shift, SV.bool s.back] (nat_lit 0) ∧ SV.ref [SV.int .i64 p.id, SV.int .i64 p.colour, SV.int .i64 p.rev, SV.int .i64 p.made,
 SV.int .i64 p.swell, SV.sl (nat_lit 5) p.gauges.n fun (i : Nat) ↦ [SV.int .i64 (p.gauges.g i).edge.lo, SV.int .i64 (p.gauges.g i).edge.hi, SV.int .i64 (p.gauges.g i).across.lo, SV.int .i64 (p.gauges.g i).across.hi, SV.int .i64 (p.gauges.g i).bend], SV.sl (nat_lit 3) p.marks.n fun (i : Nat) ↦
 [SV.int .i64 (p.marks.g i).edge, SV.int .i64 (p.marks.g i).place, SV.int .i64 (p.marks.g i).tone]] (nat_lit 0) = SV.ref [SV.int .i64 p.id, SV.int .i64 p.colour, SV.int .i64 p.rev, SV.int .i64 p.made, SV.int .i64 p.swell, SV.sl (nat_lit 5) p.gauges.n fun (i :
 Nat) ↦ [SV.int .i64 (p.gauges.g i).edge.lo, SV.int .i64 (p.gauges.g i).edge.hi, SV.int .i64 (p.gauges.g i).across.lo, SV.int .i64 (p.gauges.g i).across.hi, SV.int .i64 (p.gauges.g i).bend], SV.sl (nat_lit 3) p.marks.n fun (i : Nat) ↦ [SV.int .i64 (p.marks.g i).edge, SV.int .i64
 (p.marks.g i).place, SV.int .i64 (p.marks.g i).tone]] (nat_lit 0) ∧ (p.gauges.n = p.gauges.n ∧ ∀ (i : Nat), i < p.gauges.n → setRow (fun (j : Nat) ↦ [SV.int .i64 (L.rsTo p s g j).edge.lo, SV.int .i64 (L.rsTo p s g j).edge.hi, SV.int .i64 (L.rsTo p s g j).across.lo, SV.int .i64 (L.rsTo p s g j).across.hi,
 SV.int .i64 (L.rsTo p s g j).bend]) (Int.toNat (L.ed s (↑p.gauges.n : Int) (↑g : Int))) (nat_lit 0) [SV.int .i64 (p.gauges.g (Int.toNat (↑g : Int))).edge.lo, SV.int .i64 (p.gauges.g (Int.toNat (↑g : Int))).edge.hi, SV.int .i64 (p.gauges.g (Int.toNat (Int.tmod ((↑g : Int) + (↑p.gauges.n : Int) - (1 : Int)) (↑p.gauges.n :
 Int)))).across.lo, SV.int .i64 (p.gauges.g (Int.toNat (Int.tmod ((↑g : Int) + (↑p.gauges.n : Int) - (1 : Int)) (↑p.gauges.n : Int)))).across.hi, SV.int .i64 (p.gauges.g (Int.toNat (Int.tmod ((↑g : Int) + (↑p.gauges.n : Int) - (1 : Int)) (↑p.gauges.n : Int)))).bend] i = [SV.int .i64 (L.rsTo p s g' i).edge.lo, SV.int .i64 (L.rsTo p s g'
 i).edge.hi, SV.int .i64 (L.rsTo p s g' i).across.lo, SV.int .i64 (L.rsTo p s g' i).across.hi, SV.int .i64 (L.rsTo p s g' i).bend]) ∧ p.id = p.id ∧ p.colour = p.colour ∧ p.rev = p.rev ∧ p.made = p.made ∧ p.swell = p.swell ∧ (p.marks.n = p.marks.n ∧ ∀ (i : Nat), i < p.marks.n → [SV.int .i64 (p.marks.g i).edge, SV.int
 .i64 (p.marks.g i).place, SV.int .i64 (p.marks.g i).tone] = [SV.int .i64 (p.marks.g i).edge, SV.int .i64 (p.marks.g i).place, SV.int .i64 (p.marks.g i).tone]) ∧ (0 : Int) = (0 : Int) ∧ (0 : Int) = (0 : Int) ∧ (0 : Int) = (0 : Int) ∧ (0 : Int) = (0 : Int) ∧ (0 : Int) = (0 : Int) ∧ Value.slice Option.none (0 : Nat) (0 :
 Nat) = Value.slice Option.none (0 : Nat) (0 : Nat) ∧ Value.slice Option.none (0 : Nat) (0 : Nat) = Value.slice Option.none (0 : Nat) (0 : Nat) ∧ g' ≤ p.gauges.n ∧ p.gauges.n - g' < p.gauges.n - g) ∧ (((0 : Int) ≤ L.ed s (↑p.gauges.n : Int) (↑g : Int) ∧ L.ed s (↑p.gauges.n : Int) (↑g : Int) < (↑p.gauges.n : Int)) ∧ Int.toNat (L.ed s (↑p.gauges.n : Int) (↑g : Int)) < p.gauges.n ∧ InK
 .i64 ((↑g : Int) + (1 : Int)) ∧ ∃ (g' : Nat), (↑g : Int) + (1 : Int) = (↑g' : Int) ∧ (↑p.gauges.n : Int) = (↑p.gauges.n : Int) ∧ (p.gauges.n = p.gauges.n ∧ ∀ (i : Nat), i < p.gauges.n → [SV.int .i64 (p.gauges.g i).edge.lo, SV.int .i64 (p.gauges.g i).edge.hi, SV.int .i64 (p.gauges.g i).across.lo, SV.int .i64 (p.gauges.g
 i).across.hi, SV.int .i64 (p.gauges.g i).bend] = [SV.int .i64 (p.gauges.g i).edge.lo, SV.int .i64 (p.gauges.g i).edge.hi, SV.int .i64 (p.gauges.g i).across.lo, SV.int .i64 (p.gauges.g i).across.hi, SV.int .i64 (p.gauges.g i).bend]) ∧ nat_lit 0 = nat_lit 0 ∧ (↑p.gauges.n : Int) = (↑p.gauges.n : Int) ∧
 nat_lit 0 = nat_lit 0 ∧ SV.ref [SV.int .i64 s.shift, SV.bool s.back] (nat_lit 0) = SV.ref [SV.int .i64 s.shift, SV.bool s.back] (nat_lit 0) ∧ SV.ref [SV.int .i64 p.id, SV.int .i64 p.colour, SV.int .i64 p.rev, SV.int .i64 p.made, SV.int .i64 p.swell,
 SV.sl (nat_lit 5) p.gauges.n fun (i : Nat) ↦ [SV.int .i64 (p.gauges.g i).edge.lo, SV.int .i64 (p.gauges.g i).edge.hi, SV.int .i64 (p.gauges.g i).across.lo, SV.int .i64 (p.gauges.g i).across.hi, SV.int .i64 (p.gauges.g i).bend], SV.sl (nat_lit 3) p.marks.n fun (i : Nat) ↦ [SV.int .i64
 (p.marks.g i).edge, SV.int .i64 (p.marks.g i).place, SV.int .i64 (p.marks.g i).tone]] (nat_lit 0) = SV.ref [SV.int .i64 p.id, SV.int .i64 p.colour, SV.int .i64 p.rev, SV.int .i64 p.made, SV.int .i64 p.swell, SV.sl (nat_lit 5) p.gauges.n fun (i : Nat) ↦ [SV.int
 .i64 (p.gauges.g i).edge.lo, SV.int .i64 (p.gauges.g i).edge.hi, SV.int .i64 (p.gauges.g i).across.lo, SV.int .i64 (p.gauges.g i).across.hi, SV.int .i64 (p.gauges.g i).bend], SV.sl (nat_lit 3) p.marks.n fun (i : Nat) ↦ [SV.int .i64 (p.marks.g i).edge, SV.int .i64 (p.marks.g i).place,
 SV.int .i64 (p.marks.g i).tone]] (nat_lit 0) ∧ (p.gauges.n = p.gauges.n ∧ ∀ (i : Nat), i < p.gauges.n → setRow (fun (j : Nat) ↦ [SV.int .i64 (L.rsTo p s g j).edge.lo, SV.int .i64 (L.rsTo p s g j).edge.hi, SV.int .i64 (L.rsTo p s g j).across.lo, SV.int .i64 (L.rsTo p s g j).across.hi, SV.int .i64
 (L.rsTo p s g j).bend]) (Int.toNat (L.ed s (↑p.gauges.n : Int) (↑g : Int))) (nat_lit 0) [SV.int .i64 (p.gauges.g (Int.toNat (↑g : Int))).edge.lo, SV.int .i64 (p.gauges.g (Int.toNat (↑g : Int))).edge.hi, SV.int .i64 (p.gauges.g (Int.toNat (Int.tmod ((↑g : Int) + (↑p.gauges.n : Int) - (1 : Int)) (↑p.gauges.n : Int)))).across.lo, SV.int
 .i64 (p.gauges.g (Int.toNat (Int.tmod ((↑g : Int) + (↑p.gauges.n : Int) - (1 : Int)) (↑p.gauges.n : Int)))).across.hi, SV.int .i64 (p.gauges.g (Int.toNat (Int.tmod ((↑g : Int) + (↑p.gauges.n : Int) - (1 : Int)) (↑p.gauges.n : Int)))).bend] i = [SV.int .i64 (L.rsTo p s g' i).edge.lo, SV.int .i64 (L.rsTo p s g' i).edge.hi, SV.int
 .i64 (L.rsTo p s g' i).across.lo, SV.int .i64 (L.rsTo p s g' i).across.hi, SV.int .i64 (L.rsTo p s g' i).bend]) ∧ p.id = p.id ∧ p.colour = p.colour ∧ p.rev = p.rev ∧ p.made = p.made ∧ p.swell = p.swell ∧ (p.marks.n = p.marks.n ∧ ∀ (i : Nat), i < p.marks.n → [SV.int .i64 (p.marks.g i).edge, SV.int .i64 (p.marks.g i).place,
 SV.int .i64 (p.marks.g i).tone] = [SV.int .i64 (p.marks.g i).edge, SV.int .i64 (p.marks.g i).place, SV.int .i64 (p.marks.g i).tone]) ∧ (0 : Int) = (0 : Int) ∧ (0 : Int) = (0 : Int) ∧ (0 : Int) = (0 : Int) ∧ (0 : Int) = (0 : Int) ∧ (0 : Int) = (0 : Int) ∧ Value.slice Option.none (0 : Nat) (0 : Nat) = Value.slice Option.none (0 :
 Nat) (0 : Nat) ∧ Value.slice Option.none (0 : Nat) (0 : Nat) = Value.slice Option.none (0 : Nat) (0 : Nat) ∧ g' ≤ p.gauges.n ∧ p.gauges.n - g' < p.gauges.n - g) ∧ ((0 : Int) ≤ L.ed s (↑p.gauges.n : Int) (↑g : Int) ∧ L.ed s (↑p.gauges.n : Int) (↑g : Int) < (↑p.gauges.n : Int)) ∧ Int.toNat (L.ed s (↑p.gauges.n : Int) (↑g : Int)) < p.gauges.n ∧ InK .i64 ((↑g : Int) + (1 : Int))
 ∧ ∃ (g' : Nat), (↑g : Int) + (1 : Int) = (↑g' : Int) ∧ (↑p.gauges.n : Int) = (↑p.gauges.n : Int) ∧ (p.gauges.n = p.gauges.n ∧ ∀ (i : Nat), i < p.gauges.n → [SV.int .i64 (p.gauges.g i).edge.lo, SV.int .i64 (p.gauges.g i).edge.hi, SV.int .i64 (p.gauges.g i).across.lo, SV.int .i64 (p.gauges.g i).across.hi, SV.int .i64
 (p.gauges.g i).bend] = [SV.int .i64 (p.gauges.g i).edge.lo, SV.int .i64 (p.gauges.g i).edge.hi, SV.int .i64 (p.gauges.g i).across.lo, SV.int .i64 (p.gauges.g i).across.hi, SV.int .i64 (p.gauges.g i).bend]) ∧ nat_lit 0 = nat_lit 0 ∧ (↑p.gauges.n : Int) = (↑p.gauges.n : Int) ∧ nat_lit 0 = nat_lit 0 ∧ SV.ref
 [SV.int .i64 s.shift, SV.bool s.back] (nat_lit 0) = SV.ref [SV.int .i64 s.shift, SV.bool s.back] (nat_lit 0) ∧ SV.ref [SV.int .i64 p.id, SV.int .i64 p.colour, SV.int .i64 p.rev, SV.int .i64 p.made, SV.int .i64 p.swell, SV.sl (nat_lit 5) p.gauges.n fun (i :
 Nat) ↦ [SV.int .i64 (p.gauges.g i).edge.lo, SV.int .i64 (p.gauges.g i).edge.hi, SV.int .i64 (p.gauges.g i).across.lo, SV.int .i64 (p.gauges.g i).across.hi, SV.int .i64 (p.gauges.g i).bend], SV.sl (nat_lit 3) p.marks.n fun (i : Nat) ↦ [SV.int .i64 (p.marks.g i).edge, SV.int .i64
 (p.marks.g i).place, SV.int .i64 (p.marks.g i).tone]] (nat_lit 0) = SV.ref [SV.int .i64 p.id, SV.int .i64 p.colour, SV.int .i64 p.rev, SV.int .i64 p.made, SV.int .i64 p.swell, SV.sl (nat_lit 5) p.gauges.n fun (i : Nat) ↦ [SV.int .i64 (p.gauges.g i).edge.lo, SV.int
 .i64 (p.gauges.g i).edge.hi, SV.int .i64 (p.gauges.g i).across.lo, SV.int .i64 (p.gauges.g i).across.hi, SV.int .i64 (p.gauges.g i).bend], SV.sl (nat_lit 3) p.marks.n fun (i : Nat) ↦ [SV.int .i64 (p.marks.g i).edge, SV.int .i64 (p.marks.g i).place, SV.int .i64 (p.marks.g i).tone]]
 (nat_lit 0) ∧ (p.gauges.n = p.gauges.n ∧ ∀ (i : Nat), i < p.gauges.n → setRow (fun (j : Nat) ↦ [SV.int .i64 (L.rsTo p s g j).edge.lo, SV.int .i64 (L.rsTo p s g j).edge.hi, SV.int .i64 (L.rsTo p s g j).across.lo, SV.int .i64 (L.rsTo p s g j).across.hi, SV.int .i64 (L.rsTo p s g j).bend]) (Int.toNat (L.ed s
 (↑p.gauges.n : Int) (↑g : Int))) (nat_lit 0) [SV.int .i64 (p.gauges.g (Int.toNat (↑g : Int))).edge.lo, SV.int .i64 (p.gauges.g (Int.toNat (↑g : Int))).edge.hi, SV.int .i64 (p.gauges.g (Int.toNat (Int.tmod ((↑g : Int) + (↑p.gauges.n : Int) - (1 : Int)) (↑p.gauges.n : Int)))).across.lo, SV.int .i64 (p.gauges.g (Int.toNat (Int.tmod ((↑g
 : Int) + (↑p.gauges.n : Int) - (1 : Int)) (↑p.gauges.n : Int)))).across.hi, SV.int .i64 (p.gauges.g (Int.toNat (Int.tmod ((↑g : Int) + (↑p.gauges.n : Int) - (1 : Int)) (↑p.gauges.n : Int)))).bend] i = [SV.int .i64 (L.rsTo p s g' i).edge.lo, SV.int .i64 (L.rsTo p s g' i).edge.hi, SV.int .i64 (L.rsTo p s g' i).across.lo, SV.int
 .i64 (L.rsTo p s g' i).across.hi, SV.int .i64 (L.rsTo p s g' i).bend]) ∧ p.id = p.id ∧ p.colour = p.colour ∧ p.rev = p.rev ∧ p.made = p.made ∧ p.swell = p.swell ∧ (p.marks.n = p.marks.n ∧ ∀ (i : Nat), i < p.marks.n → [SV.int .i64 (p.marks.g i).edge, SV.int .i64 (p.marks.g i).place, SV.int .i64 (p.marks.g i).tone] =
 [SV.int .i64 (p.marks.g i).edge, SV.int .i64 (p.marks.g i).place, SV.int .i64 (p.marks.g i).tone]) ∧ (0 : Int) = (0 : Int) ∧ (0 : Int) = (0 : Int) ∧ (0 : Int) = (0 : Int) ∧ (0 : Int) = (0 : Int) ∧ (0 : Int) = (0 : Int) ∧ Value.slice Option.none (0 : Nat) (0 : Nat) = Value.slice Option.none (0 : Nat) (0 : Nat) ∧ Value.slice Option.none (0 :
 Nat) (0 : Nat) = Value.slice Option.none (0 : Nat) (0 : Nat) ∧ g' ≤ p.gauges.n ∧ p.gauges.n - g' < p.gauges.n - g) ∧ ((0 : Int) ≤ L.ed s (↑p.gauges.n : Int) (↑g : Int) ∧ L.ed s (↑p.gauges.n : Int) (↑g : Int) < (↑p.gauges.n : Int)) ∧ Int.toNat (L.ed s (↑p.gauges.n : Int) (↑g : Int)) < p.gauges.n ∧ InK .i64 ((↑g : Int) + (1 : Int)) ∧ ∃ (g' : Nat), (↑g : Int) + (1 : Int) = (↑g' :
 Int) ∧ (↑p.gauges.n : Int) = (↑p.gauges.n : Int) ∧ (p.gauges.n = p.gauges.n ∧ ∀ (i : Nat), i < p.gauges.n → [SV.int .i64 (p.gauges.g i).edge.lo, SV.int .i64 (p.gauges.g i).edge.hi, SV.int .i64 (p.gauges.g i).across.lo, SV.int .i64 (p.gauges.g i).across.hi, SV.int .i64 (p.gauges.g i).bend] = [SV.int .i64
 (p.gauges.g i).edge.lo, SV.int .i64 (p.gauges.g i).edge.hi, SV.int .i64 (p.gauges.g i).across.lo, SV.int .i64 (p.gauges.g i).across.hi, SV.int .i64 (p.gauges.g i).bend]) ∧ nat_lit 0 = nat_lit 0 ∧ (↑p.gauges.n : Int) = (↑p.gauges.n : Int) ∧ nat_lit 0 = nat_lit 0 ∧ SV.ref [SV.int .i64 s.shift, SV.bool s.back]
 (nat_lit 0) = SV.ref [SV.int .i64 s.shift, SV.bool s.back] (nat_lit 0) ∧ SV.ref [SV.int .i64 p.id, SV.int .i64 p.colour, SV.int .i64 p.rev, SV.int .i64 p.made, SV.int .i64 p.swell, SV.sl (nat_lit 5) p.gauges.n fun (i : Nat) ↦ [SV.int .i64 (p.gauges.g i).edge.lo,
 SV.int .i64 (p.gauges.g i).edge.hi, SV.int .i64 (p.gauges.g i).across.lo, SV.int .i64 (p.gauges.g i).across.hi, SV.int .i64 (p.gauges.g i).bend], SV.sl (nat_lit 3) p.marks.n fun (i : Nat) ↦ [SV.int .i64 (p.marks.g i).edge, SV.int .i64 (p.marks.g i).place, SV.int .i64 (p.marks.g
 i).tone]] (nat_lit 0) = SV.ref [SV.int .i64 p.id, SV.int .i64 p.colour, SV.int .i64 p.rev, SV.int .i64 p.made, SV.int .i64 p.swell, SV.sl (nat_lit 5) p.gauges.n fun (i : Nat) ↦ [SV.int .i64 (p.gauges.g i).edge.lo, SV.int .i64 (p.gauges.g i).edge.hi, SV.int
 .i64 (p.gauges.g i).across.lo, SV.int .i64 (p.gauges.g i).across.hi, SV.int .i64 (p.gauges.g i).bend], SV.sl (nat_lit 3) p.marks.n fun (i : Nat) ↦ [SV.int .i64 (p.marks.g i).edge, SV.int .i64 (p.marks.g i).place, SV.int .i64 (p.marks.g i).tone]] (nat_lit 0) ∧ (p.gauges.n = p.gauges.n ∧ ∀ (i : Nat), i <
 p.gauges.n → setRow (fun (j : Nat) ↦ [SV.int .i64 (L.rsTo p s g j).edge.lo, SV.int .i64 (L.rsTo p s g j).edge.hi, SV.int .i64 (L.rsTo p s g j).across.lo, SV.int .i64 (L.rsTo p s g j).across.hi, SV.int .i64 (L.rsTo p s g j).bend]) (Int.toNat (L.ed s (↑p.gauges.n : Int) (↑g : Int))) (nat_lit 0) [SV.int
 .i64 (p.gauges.g (Int.toNat (↑g : Int))).edge.lo, SV.int .i64 (p.gauges.g (Int.toNat (↑g : Int))).edge.hi, SV.int .i64 (p.gauges.g (Int.toNat (Int.tmod ((↑g : Int) + (↑p.gauges.n : Int) - (1 : Int)) (↑p.gauges.n : Int)))).across.lo, SV.int .i64 (p.gauges.g (Int.toNat (Int.tmod ((↑g : Int) + (↑p.gauges.n : Int) - (1 : Int)) (↑p.gauges.n :
 Int)))).across.hi, SV.int .i64 (p.gauges.g (Int.toNat (Int.tmod ((↑g : Int) + (↑p.gauges.n : Int) - (1 : Int)) (↑p.gauges.n : Int)))).bend] i = [SV.int .i64 (L.rsTo p s g' i).edge.lo, SV.int .i64 (L.rsTo p s g' i).edge.hi, SV.int .i64 (L.rsTo p s g' i).across.lo, SV.int .i64 (L.rsTo p s g' i).across.hi, SV.int
 .i64 (L.rsTo p s g' i).bend]) ∧ p.id = p.id ∧ p.colour = p.colour ∧ p.rev = p.rev ∧ p.made = p.made ∧ p.swell = p.swell ∧ (p.marks.n = p.marks.n ∧ ∀ (i : Nat), i < p.marks.n → [SV.int .i64 (p.marks.g i).edge, SV.int .i64 (p.marks.g i).place, SV.int .i64 (p.marks.g i).tone] = [SV.int .i64 (p.marks.g i).edge, SV.int
 .i64 (p.marks.g i).place, SV.int .i64 (p.marks.g i).tone]) ∧ (0 : Int) = (0 : Int) ∧ (0 : Int) = (0 : Int) ∧ (0 : Int) = (0 : Int) ∧ (0 : Int) = (0 : Int) ∧ (0 : Int) = (0 : Int) ∧ Value.slice Option.none (0 : Nat) (0 : Nat) = Value.slice Option.none (0 : Nat) (0 : Nat) ∧ Value.slice Option.none (0 : Nat) (0 : Nat) = Value.slice Option.none (0 : Nat) (0 : Nat)
 ∧ g' ≤ p.gauges.n ∧ p.gauges.n - g' < p.gauges.n - g) ∧ (((((0 : Int) ≤ L.ed s (↑p.gauges.n : Int) (↑g : Int) ∧ L.ed s (↑p.gauges.n : Int) (↑g : Int) < (↑p.gauges.n : Int)) ∧ Int.toNat (L.ed s (↑p.gauges.n : Int) (↑g : Int)) < p.gauges.n ∧ InK .i64 ((↑g : Int) + (1 : Int)) ∧ ∃ (g' : Nat), (↑g : Int) + (1 : Int) = (↑g' : Int) ∧ (↑p.gauges.n : Int) = (↑p.gauges.n : Int) ∧ (p.gauges.n
 = p.gauges.n ∧ ∀ (i : Nat), i < p.gauges.n → [SV.int .i64 (p.gauges.g i).edge.lo, SV.int .i64 (p.gauges.g i).edge.hi, SV.int .i64 (p.gauges.g i).across.lo, SV.int .i64 (p.gauges.g i).across.hi, SV.int .i64 (p.gauges.g i).bend] = [SV.int .i64 (p.gauges.g i).edge.lo, SV.int .i64
 (p.gauges.g i).edge.hi, SV.int .i64 (p.gauges.g i).across.lo, SV.int .i64 (p.gauges.g i).across.hi, SV.int .i64 (p.gauges.g i).bend]) ∧ nat_lit 0 = nat_lit 0 ∧ (↑p.gauges.n : Int) = (↑p.gauges.n : Int) ∧ nat_lit 0 = nat_lit 0 ∧ SV.ref [SV.int .i64 s.shift, SV.bool s.back] (nat_lit 0) = SV.ref [SV.int
 .i64 s.shift, SV.bool s.back] (nat_lit 0) ∧ SV.ref [SV.int .i64 p.id, SV.int .i64 p.colour, SV.int .i64 p.rev, SV.int .i64 p.made, SV.int .i64 p.swell, SV.sl (nat_lit 5) p.gauges.n fun (i : Nat) ↦ [SV.int .i64 (p.gauges.g i).edge.lo, SV.int .i64 (p.gauges.g
 i).edge.hi, SV.int .i64 (p.gauges.g i).across.lo, SV.int .i64 (p.gauges.g i).across.hi, SV.int .i64 (p.gauges.g i).bend], SV.sl (nat_lit 3) p.marks.n fun (i : Nat) ↦ [SV.int .i64 (p.marks.g i).edge, SV.int .i64 (p.marks.g i).place, SV.int .i64 (p.marks.g i).tone]] (nat_lit 0) = SV.ref
 [SV.int .i64 p.id, SV.int .i64 p.colour, SV.int .i64 p.rev, SV.int .i64 p.made, SV.int .i64 p.swell, SV.sl (nat_lit 5) p.gauges.n fun (i : Nat) ↦ [SV.int .i64 (p.gauges.g i).edge.lo, SV.int .i64 (p.gauges.g i).edge.hi, SV.int .i64 (p.gauges.g i).across.lo,
 SV.int .i64 (p.gauges.g i).across.hi, SV.int .i64 (p.gauges.g i).bend], SV.sl (nat_lit 3) p.marks.n fun (i : Nat) ↦ [SV.int .i64 (p.marks.g i).edge, SV.int .i64 (p.marks.g i).place, SV.int .i64 (p.marks.g i).tone]] (nat_lit 0) ∧ (p.gauges.n = p.gauges.n ∧ ∀ (i : Nat), i < p.gauges.n → setRow (fun (j : Nat)
 ↦ [SV.int .i64 (L.rsTo p s g j).edge.lo, SV.int .i64 (L.rsTo p s g j).edge.hi, SV.int .i64 (L.rsTo p s g j).across.lo, SV.int .i64 (L.rsTo p s g j).across.hi, SV.int .i64 (L.rsTo p s g j).bend]) (Int.toNat (L.ed s (↑p.gauges.n : Int) (↑g : Int))) (nat_lit 0) [SV.int .i64 (p.gauges.g (Int.toNat (↑g :
 Int))).edge.lo, SV.int .i64 (p.gauges.g (Int.toNat (↑g : Int))).edge.hi, SV.int .i64 (p.gauges.g (Int.toNat (Int.tmod ((↑g : Int) + (↑p.gauges.n : Int) - (1 : Int)) (↑p.gauges.n : Int)))).across.lo, SV.int .i64 (p.gauges.g (Int.toNat (Int.tmod ((↑g : Int) + (↑p.gauges.n : Int) - (1 : Int)) (↑p.gauges.n : Int)))).across.hi, SV.int .i64
 (p.gauges.g (Int.toNat (Int.tmod ((↑g : Int) + (↑p.gauges.n : Int) - (1 : Int)) (↑p.gauges.n : Int)))).bend] i = [SV.int .i64 (L.rsTo p s g' i).edge.lo, SV.int .i64 (L.rsTo p s g' i).edge.hi, SV.int .i64 (L.rsTo p s g' i).across.lo, SV.int .i64 (L.rsTo p s g' i).across.hi, SV.int .i64 (L.rsTo p s g' i).bend]) ∧ p.id =
 p.id ∧ p.colour = p.colour ∧ p.rev = p.rev ∧ p.made = p.made ∧ p.swell = p.swell ∧ (p.marks.n = p.marks.n ∧ ∀ (i : Nat), i < p.marks.n → [SV.int .i64 (p.marks.g i).edge, SV.int .i64 (p.marks.g i).place, SV.int .i64 (p.marks.g i).tone] = [SV.int .i64 (p.marks.g i).edge, SV.int .i64 (p.marks.g i).place, SV.int
 .i64 (p.marks.g i).tone]) ∧ (0 : Int) = (0 : Int) ∧ (0 : Int) = (0 : Int) ∧ (0 : Int) = (0 : Int) ∧ (0 : Int) = (0 : Int) ∧ (0 : Int) = (0 : Int) ∧ Value.slice Option.none (0 : Nat) (0 : Nat) = Value.slice Option.none (0 : Nat) (0 : Nat) ∧ Value.slice Option.none (0 : Nat) (0 : Nat) = Value.slice Option.none (0 : Nat) (0 : Nat) ∧ g' ≤ p.gauges.n ∧ p.gauges.n - g' < p.gauges.n
 - g) ∧ (((0 : Int) ≤ L.ed s (↑p.gauges.n : Int) (↑g : Int) ∧ L.ed s (↑p.gauges.n : Int) (↑g : Int) < (↑p.gauges.n : Int)) ∧ Int.toNat (L.ed s (↑p.gauges.n : Int) (↑g : Int)) < p.gauges.n ∧ InK .i64 ((↑g : Int) + (1 : Int)) ∧ ∃ (g' : Nat), (↑g : Int) + (1 : Int) = (↑g' : Int) ∧ (↑p.gauges.n : Int) = (↑p.gauges.n : Int) ∧ (p.gauges.n = p.gauges.n ∧ ∀ (i : Nat), i < p.gauges.n →
 [SV.int .i64 (p.gauges.g i).edge.lo, SV.int .i64 (p.gauges.g i).edge.hi, SV.int .i64 (p.gauges.g i).across.lo, SV.int .i64 (p.gauges.g i).across.hi, SV.int .i64 (p.gauges.g i).bend] = [SV.int .i64 (p.gauges.g i).edge.lo, SV.int .i64 (p.gauges.g i).edge.hi, SV.int .i64
 (p.gauges.g i).across.lo, SV.int .i64 (p.gauges.g i).across.hi, SV.int .i64 (p.gauges.g i).bend]) ∧ nat_lit 0 = nat_lit 0 ∧ (↑p.gauges.n : Int) = (↑p.gauges.n : Int) ∧ nat_lit 0 = nat_lit 0 ∧ SV.ref [SV.int .i64 s.shift, SV.bool s.back] (nat_lit 0) = SV.ref [SV.int .i64 s.shift, SV.bool s.back] (nat_lit 0) ∧
 SV.ref [SV.int .i64 p.id, SV.int .i64 p.colour, SV.int .i64 p.rev, SV.int .i64 p.made, SV.int .i64 p.swell, SV.sl (nat_lit 5) p.gauges.n fun (i : Nat) ↦ [SV.int .i64 (p.gauges.g i).edge.lo, SV.int .i64 (p.gauges.g i).edge.hi, SV.int .i64 (p.gauges.g
 i).across.lo, SV.int .i64 (p.gauges.g i).across.hi, SV.int .i64 (p.gauges.g i).bend], SV.sl (nat_lit 3) p.marks.n fun (i : Nat) ↦ [SV.int .i64 (p.marks.g i).edge, SV.int .i64 (p.marks.g i).place, SV.int .i64 (p.marks.g i).tone]] (nat_lit 0) = SV.ref [SV.int .i64 p.id, SV.int
 .i64 p.colour, SV.int .i64 p.rev, SV.int .i64 p.made, SV.int .i64 p.swell, SV.sl (nat_lit 5) p.gauges.n fun (i : Nat) ↦ [SV.int .i64 (p.gauges.g i).edge.lo, SV.int .i64 (p.gauges.g i).edge.hi, SV.int .i64 (p.gauges.g i).across.lo, SV.int .i64 (p.gauges.g i).across.hi,
 SV.int .i64 (p.gauges.g i).bend], SV.sl (nat_lit 3) p.marks.n fun (i : Nat) ↦ [SV.int .i64 (p.marks.g i).edge, SV.int .i64 (p.marks.g i).place, SV.int .i64 (p.marks.g i).tone]] (nat_lit 0) ∧ (p.gauges.n = p.gauges.n ∧ ∀ (i : Nat), i < p.gauges.n → setRow (fun (j : Nat) ↦ [SV.int .i64 (L.rsTo p s g
 j).edge.lo, SV.int .i64 (L.rsTo p s g j).edge.hi, SV.int .i64 (L.rsTo p s g j).across.lo, SV.int .i64 (L.rsTo p s g j).across.hi, SV.int .i64 (L.rsTo p s g j).bend]) (Int.toNat (L.ed s (↑p.gauges.n : Int) (↑g : Int))) (nat_lit 0) [SV.int .i64 (p.gauges.g (Int.toNat (↑g : Int))).edge.lo, SV.int .i64
 (p.gauges.g (Int.toNat (↑g : Int))).edge.hi, SV.int .i64 (p.gauges.g (Int.toNat (Int.tmod ((↑g : Int) + (↑p.gauges.n : Int) - (1 : Int)) (↑p.gauges.n : Int)))).across.lo, SV.int .i64 (p.gauges.g (Int.toNat (Int.tmod ((↑g : Int) + (↑p.gauges.n : Int) - (1 : Int)) (↑p.gauges.n : Int)))).across.hi, SV.int .i64 (p.gauges.g (Int.toNat (Int.tmod ((↑g :
 Int) + (↑p.gauges.n : Int) - (1 : Int)) (↑p.gauges.n : Int)))).bend] i = [SV.int .i64 (L.rsTo p s g' i).edge.lo, SV.int .i64 (L.rsTo p s g' i).edge.hi, SV.int .i64 (L.rsTo p s g' i).across.lo, SV.int .i64 (L.rsTo p s g' i).across.hi, SV.int .i64 (L.rsTo p s g' i).bend]) ∧ p.id = p.id ∧ p.colour = p.colour ∧ p.rev =
 p.rev ∧ p.made = p.made ∧ p.swell = p.swell ∧ (p.marks.n = p.marks.n ∧ ∀ (i : Nat), i < p.marks.n → [SV.int .i64 (p.marks.g i).edge, SV.int .i64 (p.marks.g i).place, SV.int .i64 (p.marks.g i).tone] = [SV.int .i64 (p.marks.g i).edge, SV.int .i64 (p.marks.g i).place, SV.int .i64 (p.marks.g i).tone]) ∧ (0
 : Int) = (0 : Int) ∧ (0 : Int) = (0 : Int) ∧ (0 : Int) = (0 : Int) ∧ (0 : Int) = (0 : Int) ∧ (0 : Int) = (0 : Int) ∧ Value.slice Option.none (0 : Nat) (0 : Nat) = Value.slice Option.none (0 : Nat) (0 : Nat) ∧ Value.slice Option.none (0 : Nat) (0 : Nat) = Value.slice Option.none (0 : Nat) (0 : Nat) ∧ g' ≤ p.gauges.n ∧ p.gauges.n - g' < p.gauges.n - g) ∧ ((0 : Int) ≤ L.ed s (↑p.gauges.n
 : Int) (↑g : Int) ∧ L.ed s (↑p.gauges.n : Int) (↑g : Int) < (↑p.gauges.n : Int)) ∧ Int.toNat (L.ed s (↑p.gauges.n : Int) (↑g : Int)) < p.gauges.n ∧ InK .i64 ((↑g : Int) + (1 : Int)) ∧ ∃ (g' : Nat), (↑g : Int) + (1 : Int) = (↑g' : Int) ∧ (↑p.gauges.n : Int) = (↑p.gauges.n : Int) ∧ (p.gauges.n = p.gauges.n ∧ ∀ (i : Nat), i < p.gauges.n → [SV.int .i64 (p.gauges.g
 i).edge.lo, SV.int .i64 (p.gauges.g i).edge.hi, SV.int .i64 (p.gauges.g i).across.lo, SV.int .i64 (p.gauges.g i).across.hi, SV.int .i64 (p.gauges.g i).bend] = [SV.int .i64 (p.gauges.g i).edge.lo, SV.int .i64 (p.gauges.g i).edge.hi, SV.int .i64 (p.gauges.g i).across.lo, SV.int
 .i64 (p.gauges.g i).across.hi, SV.int .i64 (p.gauges.g i).bend]) ∧ nat_lit 0 = nat_lit 0 ∧ (↑p.gauges.n : Int) = (↑p.gauges.n : Int) ∧ nat_lit 0 = nat_lit 0 ∧ SV.ref [SV.int .i64 s.shift, SV.bool s.back] (nat_lit 0) = SV.ref [SV.int .i64 s.shift, SV.bool s.back] (nat_lit 0) ∧ SV.ref [SV.int .i64
 p.id, SV.int .i64 p.colour, SV.int .i64 p.rev, SV.int .i64 p.made, SV.int .i64 p.swell, SV.sl (nat_lit 5) p.gauges.n fun (i : Nat) ↦ [SV.int .i64 (p.gauges.g i).edge.lo, SV.int .i64 (p.gauges.g i).edge.hi, SV.int .i64 (p.gauges.g i).across.lo, SV.int .i64
 (p.gauges.g i).across.hi, SV.int .i64 (p.gauges.g i).bend], SV.sl (nat_lit 3) p.marks.n fun (i : Nat) ↦ [SV.int .i64 (p.marks.g i).edge, SV.int .i64 (p.marks.g i).place, SV.int .i64 (p.marks.g i).tone]] (nat_lit 0) = SV.ref [SV.int .i64 p.id, SV.int .i64 p.colour, SV.int .i64
 p.rev, SV.int .i64 p.made, SV.int .i64 p.swell, SV.sl (nat_lit 5) p.gauges.n fun (i : Nat) ↦ [SV.int .i64 (p.gauges.g i).edge.lo, SV.int .i64 (p.gauges.g i).edge.hi, SV.int .i64 (p.gauges.g i).across.lo, SV.int .i64 (p.gauges.g i).across.hi, SV.int .i64 (p.gauges.g i).bend],
 SV.sl (nat_lit 3) p.marks.n fun (i : Nat) ↦ [SV.int .i64 (p.marks.g i).edge, SV.int .i64 (p.marks.g i).place, SV.int .i64 (p.marks.g i).tone]] (nat_lit 0) ∧ (p.gauges.n = p.gauges.n ∧ ∀ (i : Nat), i < p.gauges.n → setRow (fun (j : Nat) ↦ [SV.int .i64 (L.rsTo p s g j).edge.lo, SV.int .i64 (L.rsTo p s g
 j).edge.hi, SV.int .i64 (L.rsTo p s g j).across.lo, SV.int .i64 (L.rsTo p s g j).across.hi, SV.int .i64 (L.rsTo p s g j).bend]) (Int.toNat (L.ed s (↑p.gauges.n : Int) (↑g : Int))) (nat_lit 0) [SV.int .i64 (p.gauges.g (Int.toNat (↑g : Int))).edge.lo, SV.int .i64 (p.gauges.g (Int.toNat (↑g : Int))).edge.hi, SV.int
 .i64 (p.gauges.g (Int.toNat (Int.tmod ((↑g : Int) + (↑p.gauges.n : Int) - (1 : Int)) (↑p.gauges.n : Int)))).across.lo, SV.int .i64 (p.gauges.g (Int.toNat (Int.tmod ((↑g : Int) + (↑p.gauges.n : Int) - (1 : Int)) (↑p.gauges.n : Int)))).across.hi, SV.int .i64 (p.gauges.g (Int.toNat (Int.tmod ((↑g : Int) + (↑p.gauges.n : Int) - (1 : Int)) (↑p.gauges.n :
 Int)))).bend] i = [SV.int .i64 (L.rsTo p s g' i).edge.lo, SV.int .i64 (L.rsTo p s g' i).edge.hi, SV.int .i64 (L.rsTo p s g' i).across.lo, SV.int .i64 (L.rsTo p s g' i).across.hi, SV.int .i64 (L.rsTo p s g' i).bend]) ∧ p.id = p.id ∧ p.colour = p.colour ∧ p.rev = p.rev ∧ p.made = p.made ∧ p.swell = p.swell ∧ (p.marks.n =
 p.marks.n ∧ ∀ (i : Nat), i < p.marks.n → [SV.int .i64 (p.marks.g i).edge, SV.int .i64 (p.marks.g i).place, SV.int .i64 (p.marks.g i).tone] = [SV.int .i64 (p.marks.g i).edge, SV.int .i64 (p.marks.g i).place, SV.int .i64 (p.marks.g i).tone]) ∧ (0 : Int) = (0 : Int) ∧ (0 : Int) = (0 : Int) ∧ (0 : Int) = (0
 : Int) ∧ (0 : Int) = (0 : Int) ∧ (0 : Int) = (0 : Int) ∧ Value.slice Option.none (0 : Nat) (0 : Nat) = Value.slice Option.none (0 : Nat) (0 : Nat) ∧ Value.slice Option.none (0 : Nat) (0 : Nat) = Value.slice Option.none (0 : Nat) (0 : Nat) ∧ g' ≤ p.gauges.n ∧ p.gauges.n - g' < p.gauges.n - g) ∧ ((0 : Int) ≤ L.ed s (↑p.gauges.n : Int) (↑g : Int) ∧ L.ed s (↑p.gauges.n : Int) (↑g : Int) <
 (↑p.gauges.n : Int)) ∧ Int.toNat (L.ed s (↑p.gauges.n : Int) (↑g : Int)) < p.gauges.n ∧ InK .i64 ((↑g : Int) + (1 : Int)) ∧ ∃ (g' : Nat), (↑g : Int) + (1 : Int) = (↑g' : Int) ∧ (↑p.gauges.n : Int) = (↑p.gauges.n : Int) ∧ (p.gauges.n = p.gauges.n ∧ ∀ (i : Nat), i < p.gauges.n → [SV.int .i64 (p.gauges.g i).edge.lo, SV.int .i64 (p.gauges.g i).edge.hi,
 SV.int .i64 (p.gauges.g i).across.lo, SV.int .i64 (p.gauges.g i).across.hi, SV.int .i64 (p.gauges.g i).bend] = [SV.int .i64 (p.gauges.g i).edge.lo, SV.int .i64 (p.gauges.g i).edge.hi, SV.int .i64 (p.gauges.g i).across.lo, SV.int .i64 (p.gauges.g i).across.hi, SV.int .i64
 (p.gauges.g i).bend]) ∧ nat_lit 0 = nat_lit 0 ∧ (↑p.gauges.n : Int) = (↑p.gauges.n : Int) ∧ nat_lit 0 = nat_lit 0 ∧ SV.ref [SV.int .i64 s.shift, SV.bool s.back] (nat_lit 0) = SV.ref [SV.int .i64 s.shift, SV.bool s.back] (nat_lit 0) ∧ SV.ref [SV.int .i64 p.id, SV.int .i64 p.colour, SV.int
 .i64 p.rev, SV.int .i64 p.made, SV.int .i64 p.swell, SV.sl (nat_lit 5) p.gauges.n fun (i : Nat) ↦ [SV.int .i64 (p.gauges.g i).edge.lo, SV.int .i64 (p.gauges.g i).edge.hi, SV.int .i64 (p.gauges.g i).across.lo, SV.int .i64 (p.gauges.g i).across.hi, SV.int .i64 (p.gauges.g
 i).bend], SV.sl (nat_lit 3) p.marks.n fun (i : Nat) ↦ [SV.int .i64 (p.marks.g i).edge, SV.int .i64 (p.marks.g i).place, SV.int .i64 (p.marks.g i).tone]] (nat_lit 0) = SV.ref [SV.int .i64 p.id, SV.int .i64 p.colour, SV.int .i64 p.rev, SV.int .i64 p.made, SV.int
 .i64 p.swell, SV.sl (nat_lit 5) p.gauges.n fun (i : Nat) ↦ [SV.int .i64 (p.gauges.g i).edge.lo, SV.int .i64 (p.gauges.g i).edge.hi, SV.int .i64 (p.gauges.g i).across.lo, SV.int .i64 (p.gauges.g i).across.hi, SV.int .i64 (p.gauges.g i).bend], SV.sl (nat_lit 3) p.marks.n fun (i : Nat) ↦
 [SV.int .i64 (p.marks.g i).edge, SV.int .i64 (p.marks.g i).place, SV.int .i64 (p.marks.g i).tone]] (nat_lit 0) ∧ (p.gauges.n = p.gauges.n ∧ ∀ (i : Nat), i < p.gauges.n → setRow (fun (j : Nat) ↦ [SV.int .i64 (L.rsTo p s g j).edge.lo, SV.int .i64 (L.rsTo p s g j).edge.hi, SV.int .i64 (L.rsTo p s g
 j).across.lo, SV.int .i64 (L.rsTo p s g j).across.hi, SV.int .i64 (L.rsTo p s g j).bend]) (Int.toNat (L.ed s (↑p.gauges.n : Int) (↑g : Int))) (nat_lit 0) [SV.int .i64 (p.gauges.g (Int.toNat (↑g : Int))).edge.lo, SV.int .i64 (p.gauges.g (Int.toNat (↑g : Int))).edge.hi, SV.int .i64 (p.gauges.g (Int.toNat (Int.tmod ((↑g :
 Int) + (↑p.gauges.n : Int) - (1 : Int)) (↑p.gauges.n : Int)))).across.lo, SV.int .i64 (p.gauges.g (Int.toNat (Int.tmod ((↑g : Int) + (↑p.gauges.n : Int) - (1 : Int)) (↑p.gauges.n : Int)))).across.hi, SV.int .i64 (p.gauges.g (Int.toNat (Int.tmod ((↑g : Int) + (↑p.gauges.n : Int) - (1 : Int)) (↑p.gauges.n : Int)))).bend] i = [SV.int .i64 (L.rsTo p s g'
 i).edge.lo, SV.int .i64 (L.rsTo p s g' i).edge.hi, SV.int .i64 (L.rsTo p s g' i).across.lo, SV.int .i64 (L.rsTo p s g' i).across.hi, SV.int .i64 (L.rsTo p s g' i).bend]) ∧ p.id = p.id ∧ p.colour = p.colour ∧ p.rev = p.rev ∧ p.made = p.made ∧ p.swell = p.swell ∧ (p.marks.n = p.marks.n ∧ ∀ (i : Nat), i < p.marks.n → [SV.int
 .i64 (p.marks.g i).edge, SV.int .i64 (p.marks.g i).place, SV.int .i64 (p.marks.g i).tone] = [SV.int .i64 (p.marks.g i).edge, SV.int .i64 (p.marks.g i).place, SV.int .i64 (p.marks.g i).tone]) ∧ (0 : Int) = (0 : Int) ∧ (0 : Int) = (0 : Int) ∧ (0 : Int) = (0 : Int) ∧ (0 : Int) = (0 : Int) ∧ (0 : Int) = (0 : Int)
 ∧ Value.slice Option.none (0 : Nat) (0 : Nat) = Value.slice Option.none (0 : Nat) (0 : Nat) ∧ Value.slice Option.none (0 : Nat) (0 : Nat) = Value.slice Option.none (0 : Nat) (0 : Nat) ∧ g' ≤ p.gauges.n ∧ p.gauges.n - g' < p.gauges.n - g) ∧ ((0 : Int) ≤ L.ed s (↑p.gauges.n : Int) (↑g : Int) ∧ L.ed s (↑p.gauges.n : Int) (↑g : Int) < (↑p.gauges.n : Int)) ∧ Int.toNat (L.ed s (↑p.gauges.n :
 Int) (↑g : Int)) < p.gauges.n ∧ InK .i64 ((↑g : Int) + (1 : Int)) ∧ ∃ (g' : Nat), (↑g : Int) + (1 : Int) = (↑g' : Int) ∧ (↑p.gauges.n : Int) = (↑p.gauges.n : Int) ∧ (p.gauges.n = p.gauges.n ∧ ∀ (i : Nat), i < p.gauges.n → [SV.int .i64 (p.gauges.g i).edge.lo, SV.int .i64 (p.gauges.g i).edge.hi, SV.int .i64 (p.gauges.g i).across.lo,
 SV.int .i64 (p.gauges.g i).across.hi, SV.int .i64 (p.gauges.g i).bend] = [SV.int .i64 (p.gauges.g i).edge.lo, SV.int .i64 (p.gauges.g i).edge.hi, SV.int .i64 (p.gauges.g i).across.lo, SV.int .i64 (p.gauges.g i).across.hi, SV.int .i64 (p.gauges.g i).bend]) ∧ nat_lit 0 = nat_lit 0 ∧
 (↑p.gauges.n : Int) = (↑p.gauges.n : Int) ∧ nat_lit 0 = nat_lit 0 ∧ SV.ref [SV.int .i64 s.shift, SV.bool s.back] (nat_lit 0) = SV.ref [SV.int .i64 s.shift, SV.bool s.back] (nat_lit 0) ∧ SV.ref [SV.int .i64 p.id, SV.int .i64 p.colour, SV.int .i64 p.rev, SV.int .i64 p.made,
 SV.int .i64 p.swell, SV.sl (nat_lit 5) p.gauges.n fun (i : Nat) ↦ [SV.int .i64 (p.gauges.g i).edge.lo, SV.int .i64 (p.gauges.g i).edge.hi, SV.int .i64 (p.gauges.g i).across.lo, SV.int .i64 (p.gauges.g i).across.hi, SV.int .i64 (p.gauges.g i).bend], SV.sl (nat_lit 3) p.marks.n fun (i : Nat) ↦
 [SV.int .i64 (p.marks.g i).edge, SV.int .i64 (p.marks.g i).place, SV.int .i64 (p.marks.g i).tone]] (nat_lit 0) = SV.ref [SV.int .i64 p.id, SV.int .i64 p.colour, SV.int .i64 p.rev, SV.int .i64 p.made, SV.int .i64 p.swell, SV.sl (nat_lit 5) p.gauges.n fun (i :
 Nat) ↦ [SV.int .i64 (p.gauges.g i).edge.lo, SV.int .i64 (p.gauges.g i).edge.hi, SV.int .i64 (p.gauges.g i).across.lo, SV.int .i64 (p.gauges.g i).across.hi, SV.int .i64 (p.gauges.g i).bend], SV.sl (nat_lit 3) p.marks.n fun (i : Nat) ↦ [SV.int .i64 (p.marks.g i).edge, SV.int .i64
 (p.marks.g i).place, SV.int .i64 (p.marks.g i).tone]] (nat_lit 0) ∧ (p.gauges.n = p.gauges.n ∧ ∀ (i : Nat), i < p.gauges.n → setRow (fun (j : Nat) ↦ [SV.int .i64 (L.rsTo p s g j).edge.lo, SV.int .i64 (L.rsTo p s g j).edge.hi, SV.int .i64 (L.rsTo p s g j).across.lo, SV.int .i64 (L.rsTo p s g j).across.hi,
 SV.int .i64 (L.rsTo p s g j).bend]) (Int.toNat (L.ed s (↑p.gauges.n : Int) (↑g : Int))) (nat_lit 0) [SV.int .i64 (p.gauges.g (Int.toNat (↑g : Int))).edge.lo, SV.int .i64 (p.gauges.g (Int.toNat (↑g : Int))).edge.hi, SV.int .i64 (p.gauges.g (Int.toNat (Int.tmod ((↑g : Int) + (↑p.gauges.n : Int) - (1 : Int)) (↑p.gauges.n :
 Int)))).across.lo, SV.int .i64 (p.gauges.g (Int.toNat (Int.tmod ((↑g : Int) + (↑p.gauges.n : Int) - (1 : Int)) (↑p.gauges.n : Int)))).across.hi, SV.int .i64 (p.gauges.g (Int.toNat (Int.tmod ((↑g : Int) + (↑p.gauges.n : Int) - (1 : Int)) (↑p.gauges.n : Int)))).bend] i = [SV.int .i64 (L.rsTo p s g' i).edge.lo, SV.int .i64 (L.rsTo p s g'
 i).edge.hi, SV.int .i64 (L.rsTo p s g' i).across.lo, SV.int .i64 (L.rsTo p s g' i).across.hi, SV.int .i64 (L.rsTo p s g' i).bend]) ∧ p.id = p.id ∧ p.colour = p.colour ∧ p.rev = p.rev ∧ p.made = p.made ∧ p.swell = p.swell ∧ (p.marks.n = p.marks.n ∧ ∀ (i : Nat), i < p.marks.n → [SV.int .i64 (p.marks.g i).edge, SV.int
 .i64 (p.marks.g i).place, SV.int .i64 (p.marks.g i).tone] = [SV.int .i64 (p.marks.g i).edge, SV.int .i64 (p.marks.g i).place, SV.int .i64 (p.marks.g i).tone]) ∧ (0 : Int) = (0 : Int) ∧ (0 : Int) = (0 : Int) ∧ (0 : Int) = (0 : Int) ∧ (0 : Int) = (0 : Int) ∧ (0 : Int) = (0 : Int) ∧ Value.slice Option.none (0 : Nat) (0 :
 Nat) = Value.slice Option.none (0 : Nat) (0 : Nat) ∧ Value.slice Option.none (0 : Nat) (0 : Nat) = Value.slice Option.none (0 : Nat) (0 : Nat) ∧ g' ≤ p.gauges.n ∧ p.gauges.n - g' < p.gauges.n - g) ∧ (s.back = false → ((0 : Int) ≤ L.ed s (↑p.gauges.n : Int) (↑g : Int) ∧ L.ed s (↑p.gauges.n : Int) (↑g : Int) < (↑p.gauges.n : Int)) ∧ Int.toNat (L.ed s (↑p.gauges.n : Int) (↑g : Int)) <
 p.gauges.n ∧ InK .i64 ((↑g : Int) + (1 : Int)) ∧ ∃ (g' : Nat), (↑g : Int) + (1 : Int) = (↑g' : Int) ∧ (↑p.gauges.n : Int) = (↑p.gauges.n : Int) ∧ (p.gauges.n = p.gauges.n ∧ ∀ (i : Nat), i < p.gauges.n → [SV.int .i64 (p.gauges.g i).edge.lo, SV.int .i64 (p.gauges.g i).edge.hi, SV.int .i64 (p.gauges.g i).across.lo, SV.int
 .i64 (p.gauges.g i).across.hi, SV.int .i64 (p.gauges.g i).bend] = [SV.int .i64 (p.gauges.g i).edge.lo, SV.int .i64 (p.gauges.g i).edge.hi, SV.int .i64 (p.gauges.g i).across.lo, SV.int .i64 (p.gauges.g i).across.hi, SV.int .i64 (p.gauges.g i).bend]) ∧ nat_lit 0 = nat_lit 0 ∧ (↑p.gauges.n : Int)
 = (↑p.gauges.n : Int) ∧ nat_lit 0 = nat_lit 0 ∧ SV.ref [SV.int .i64 s.shift, SV.bool s.back] (nat_lit 0) = SV.ref [SV.int .i64 s.shift, SV.bool s.back] (nat_lit 0) ∧ SV.ref [SV.int .i64 p.id, SV.int .i64 p.colour, SV.int .i64 p.rev, SV.int .i64 p.made, SV.int
 .i64 p.swell, SV.sl (nat_lit 5) p.gauges.n fun (i : Nat) ↦ [SV.int .i64 (p.gauges.g i).edge.lo, SV.int .i64 (p.gauges.g i).edge.hi, SV.int .i64 (p.gauges.g i).across.lo, SV.int .i64 (p.gauges.g i).across.hi, SV.int .i64 (p.gauges.g i).bend], SV.sl (nat_lit 3) p.marks.n fun (i : Nat) ↦
 [SV.int .i64 (p.marks.g i).edge, SV.int .i64 (p.marks.g i).place, SV.int .i64 (p.marks.g i).tone]] (nat_lit 0) = SV.ref [SV.int .i64 p.id, SV.int .i64 p.colour, SV.int .i64 p.rev, SV.int .i64 p.made, SV.int .i64 p.swell, SV.sl (nat_lit 5) p.gauges.n fun (i :
 Nat) ↦ [SV.int .i64 (p.gauges.g i).edge.lo, SV.int .i64 (p.gauges.g i).edge.hi, SV.int .i64 (p.gauges.g i).across.lo, SV.int .i64 (p.gauges.g i).across.hi, SV.int .i64 (p.gauges.g i).bend], SV.sl (nat_lit 3) p.marks.n fun (i : Nat) ↦ [SV.int .i64 (p.marks.g i).edge, SV.int .i64
 (p.marks.g i).place, SV.int .i64 (p.marks.g i).tone]] (nat_lit 0) ∧ (p.gauges.n = p.gauges.n ∧ ∀ (i : Nat), i < p.gauges.n → setRow (fun (j : Nat) ↦ [SV.int .i64 (L.rsTo p s g j).edge.lo, SV.int .i64 (L.rsTo p s g j).edge.hi, SV.int .i64 (L.rsTo p s g j).across.lo, SV.int .i64 (L.rsTo p s g j).across.hi,
 SV.int .i64 (L.rsTo p s g j).bend]) (Int.toNat (L.ed s (↑p.gauges.n : Int) (↑g : Int))) (nat_lit 0) [SV.int .i64 (p.gauges.g (Int.toNat (↑g : Int))).edge.lo, SV.int .i64 (p.gauges.g (Int.toNat (↑g : Int))).edge.hi, SV.int .i64 (p.gauges.g (Int.toNat (↑g : Int))).across.lo, SV.int .i64 (p.gauges.g (Int.toNat (↑g :
 Int))).across.hi, SV.int .i64 (p.gauges.g (Int.toNat (↑g : Int))).bend] i = [SV.int .i64 (L.rsTo p s g' i).edge.lo, SV.int .i64 (L.rsTo p s g' i).edge.hi, SV.int .i64 (L.rsTo p s g' i).across.lo, SV.int .i64 (L.rsTo p s g' i).across.hi, SV.int .i64 (L.rsTo p s g' i).bend]) ∧ p.id = p.id ∧ p.colour =
 p.colour ∧ p.rev = p.rev ∧ p.made = p.made ∧ p.swell = p.swell ∧ (p.marks.n = p.marks.n ∧ ∀ (i : Nat), i < p.marks.n → [SV.int .i64 (p.marks.g i).edge, SV.int .i64 (p.marks.g i).place, SV.int .i64 (p.marks.g i).tone] = [SV.int .i64 (p.marks.g i).edge, SV.int .i64 (p.marks.g i).place, SV.int .i64
 (p.marks.g i).tone]) ∧ (0 : Int) = (0 : Int) ∧ (0 : Int) = (0 : Int) ∧ (0 : Int) = (0 : Int) ∧ (0 : Int) = (0 : Int) ∧ (0 : Int) = (0 : Int) ∧ Value.slice Option.none (0 : Nat) (0 : Nat) = Value.slice Option.none (0 : Nat) (0 : Nat) ∧ Value.slice Option.none (0 : Nat) (0 : Nat) = Value.slice Option.none (0 : Nat) (0 : Nat) ∧ g' ≤ p.gauges.n ∧ p.gauges.n - g' < p.gauges.n - g)) ∧
 (decide ((↑g : Int) < (↑p.gauges.n : Int)) = false → ((∀ (i : Nat), i < p.marks.n → [SV.int .i64 (p.marks.g i).edge, SV.int .i64 (p.marks.g i).place, SV.int .i64 (p.marks.g i).tone] = [SV.int .i64 (p.marks.g i).edge, SV.int .i64 (p.marks.g i).place, SV.int .i64 (p.marks.g i).tone]) ∧
 p.marks.n ≤ (1000000 : Nat)) ∧ ∀ (t : Nat), True → (∃ (g : Nat), (0 : Int) = (↑g : Int) ∧ (p.marks.n = p.marks.n ∧ ∀ (i : Nat), i < p.marks.n → [SV.int .i64 (p.marks.g i).edge, SV.int .i64 (p.marks.g i).place, SV.int .i64 (p.marks.g i).tone] = [SV.int .i64 (L.rsMTo p.marks s p.gauges.n g i).edge, SV.int .i64 (L.rsMTo
 p.marks s p.gauges.n g i).place, SV.int .i64 (L.rsMTo p.marks s p.gauges.n g i).tone]) ∧ g ≤ p.marks.n) ∧ ∀ (g_1 : Nat), g_1 ≤ p.marks.n → (decide ((↑g_1 : Int) < (↑p.marks.n : Int)) = true → ((0 : Int) ≤ (↑g_1 : Int) ∧ (↑g_1 : Int) < (↑p.marks.n : Int)) ∧ Int.toNat (↑g_1 : Int) < p.marks.n ∧ True ∧ ((0 : Int) ≤ (↑g_1 : Int) ∧ (↑g_1 : Int) < (↑p.marks.n : Int)) ∧
 Int.toNat (↑g_1 : Int) < p.marks.n ∧ (s.back = true → InK .i64 ((16 : Int) - (L.rsMTo p.marks s p.gauges.n g_1 (Int.toNat (↑g_1 : Int))).place) ∧ ((0 : Int) ≤ (↑g_1 : Int) ∧ (↑g_1 : Int) < (↑p.marks.n : Int)) ∧ Int.toNat (↑g_1 : Int) < p.marks.n ∧ InK .i64 ((↑g_1 : Int) + (1 : Int)) ∧ ∃ (g' : Nat), (↑g_1 : Int) + (1 : Int) = (↑g' : Int) ∧ (↑p.marks.n : Int) =
 (↑p.marks.n : Int) ∧ nat_lit 0 = nat_lit 0 ∧ (↑p.gauges.n : Int) = (↑p.gauges.n : Int) ∧ nat_lit 0 = nat_lit 0 ∧ SV.ref [SV.int .i64 s.shift, SV.bool s.back] (nat_lit 0) = SV.ref [SV.int .i64 s.shift, SV.bool s.back] (nat_lit 0) ∧ SV.ref [SV.int .i64 p.id, SV.int .i64 p.colour, SV.int .i64
 p.rev, SV.int .i64 p.made, SV.int .i64 p.swell, SV.sl (nat_lit 5) p.gauges.n fun (i : Nat) ↦ [SV.int .i64 (p.gauges.g i).edge.lo, SV.int .i64 (p.gauges.g i).edge.hi, SV.int .i64 (p.gauges.g i).across.lo, SV.int .i64 (p.gauges.g i).across.hi, SV.int .i64 (p.gauges.g i).bend],
 SV.sl (nat_lit 3) p.marks.n fun (i : Nat) ↦ [SV.int .i64 (p.marks.g i).edge, SV.int .i64 (p.marks.g i).place, SV.int .i64 (p.marks.g i).tone]] (nat_lit 0) = SV.ref [SV.int .i64 p.id, SV.int .i64 p.colour, SV.int .i64 p.rev, SV.int .i64 p.made, SV.int .i64
 p.swell, SV.sl (nat_lit 5) p.gauges.n fun (i : Nat) ↦ [SV.int .i64 (p.gauges.g i).edge.lo, SV.int .i64 (p.gauges.g i).edge.hi, SV.int .i64 (p.gauges.g i).across.lo, SV.int .i64 (p.gauges.g i).across.hi, SV.int .i64 (p.gauges.g i).bend], SV.sl (nat_lit 3) p.marks.n fun (i : Nat) ↦ [SV.int
 .i64 (p.marks.g i).edge, SV.int .i64 (p.marks.g i).place, SV.int .i64 (p.marks.g i).tone]] (nat_lit 0) ∧ (p.marks.n = p.marks.n ∧ ∀ (i : Nat), i < p.marks.n → setRow (setRow (fun (k : Nat) ↦ [SV.int .i64 (L.rsMTo p.marks s p.gauges.n g_1 k).edge, SV.int .i64 (L.rsMTo p.marks s p.gauges.n g_1 k).place,
 SV.int .i64 (L.rsMTo p.marks s p.gauges.n g_1 k).tone]) (Int.toNat (↑g_1 : Int)) (nat_lit 0) [SV.int .i64 (L.ed s (↑p.gauges.n : Int) (L.rsMTo p.marks s p.gauges.n g_1 (Int.toNat (↑g_1 : Int))).edge)]) (Int.toNat (↑g_1 : Int)) (nat_lit 1) [SV.int .i64 ((16 : Int) - (L.rsMTo p.marks s p.gauges.n g_1 (Int.toNat (↑g_1 : Int))).place)] i = [SV.int
 .i64 (L.rsMTo p.marks s p.gauges.n g' i).edge, SV.int .i64 (L.rsMTo p.marks s p.gauges.n g' i).place, SV.int .i64 (L.rsMTo p.marks s p.gauges.n g' i).tone]) ∧ (p.gauges.n = p.gauges.n ∧ ∀ (i : Nat), i < p.gauges.n → [SV.int .i64 (L.rsTo p s g i).edge.lo, SV.int .i64 (L.rsTo p s g i).edge.hi, SV.int .i64
 (L.rsTo p s g i).across.lo, SV.int .i64 (L.rsTo p s g i).across.hi, SV.int .i64 (L.rsTo p s g i).bend] = [SV.int .i64 (L.rsTo p s g i).edge.lo, SV.int .i64 (L.rsTo p s g i).edge.hi, SV.int .i64 (L.rsTo p s g i).across.lo, SV.int .i64 (L.rsTo p s g i).across.hi, SV.int .i64 (L.rsTo p s g
 i).bend]) ∧ p.id = p.id ∧ p.colour = p.colour ∧ p.rev = p.rev ∧ p.made = p.made ∧ p.swell = p.swell ∧ (0 : Int) = (0 : Int) ∧ (0 : Int) = (0 : Int) ∧ (0 : Int) = (0 : Int) ∧ (0 : Int) = (0 : Int) ∧ (0 : Int) = (0 : Int) ∧ Value.slice Option.none (0 : Nat) (0 : Nat) = Value.slice Option.none (0 : Nat) (0 : Nat) ∧ Value.slice Option.none (0 : Nat) (0 : Nat) = Value.slice Option.none (0 :
 Nat) (0 : Nat) ∧ g' ≤ p.marks.n ∧ p.marks.n - g' < p.marks.n - g_1) ∧ (s.back = false → InK .i64 ((↑g_1 : Int) + (1 : Int)) ∧ ∃ (g' : Nat), (↑g_1 : Int) + (1 : Int) = (↑g' : Int) ∧ (↑p.marks.n : Int) = (↑p.marks.n : Int) ∧ nat_lit 0 = nat_lit 0 ∧ (↑p.gauges.n : Int) = (↑p.gauges.n : Int) ∧ nat_lit 0 = nat_lit 0 ∧ SV.ref [SV.int .i64 s.shift, SV.bool
 s.back] (nat_lit 0) = SV.ref [SV.int .i64 s.shift, SV.bool s.back] (nat_lit 0) ∧ SV.ref [SV.int .i64 p.id, SV.int .i64 p.colour, SV.int .i64 p.rev, SV.int .i64 p.made, SV.int .i64 p.swell, SV.sl (nat_lit 5) p.gauges.n fun (i : Nat) ↦ [SV.int .i64 (p.gauges.g
 i).edge.lo, SV.int .i64 (p.gauges.g i).edge.hi, SV.int .i64 (p.gauges.g i).across.lo, SV.int .i64 (p.gauges.g i).across.hi, SV.int .i64 (p.gauges.g i).bend], SV.sl (nat_lit 3) p.marks.n fun (i : Nat) ↦ [SV.int .i64 (p.marks.g i).edge, SV.int .i64 (p.marks.g i).place, SV.int .i64
 (p.marks.g i).tone]] (nat_lit 0) = SV.ref [SV.int .i64 p.id, SV.int .i64 p.colour, SV.int .i64 p.rev, SV.int .i64 p.made, SV.int .i64 p.swell, SV.sl (nat_lit 5) p.gauges.n fun (i : Nat) ↦ [SV.int .i64 (p.gauges.g i).edge.lo, SV.int .i64 (p.gauges.g i).edge.hi, SV.int
 .i64 (p.gauges.g i).across.lo, SV.int .i64 (p.gauges.g i).across.hi, SV.int .i64 (p.gauges.g i).bend], SV.sl (nat_lit 3) p.marks.n fun (i : Nat) ↦ [SV.int .i64 (p.marks.g i).edge, SV.int .i64 (p.marks.g i).place, SV.int .i64 (p.marks.g i).tone]] (nat_lit 0) ∧ (p.marks.n = p.marks.n ∧ ∀ (i : Nat), i <
 p.marks.n → setRow (fun (k : Nat) ↦ [SV.int .i64 (L.rsMTo p.marks s p.gauges.n g_1 k).edge, SV.int .i64 (L.rsMTo p.marks s p.gauges.n g_1 k).place, SV.int .i64 (L.rsMTo p.marks s p.gauges.n g_1 k).tone]) (Int.toNat (↑g_1 : Int)) (nat_lit 0) [SV.int .i64 (L.ed s (↑p.gauges.n : Int) (L.rsMTo p.marks s p.gauges.n g_1 (Int.toNat
 (↑g_1 : Int))).edge)] i = [SV.int .i64 (L.rsMTo p.marks s p.gauges.n g' i).edge, SV.int .i64 (L.rsMTo p.marks s p.gauges.n g' i).place, SV.int .i64 (L.rsMTo p.marks s p.gauges.n g' i).tone]) ∧ (p.gauges.n = p.gauges.n ∧ ∀ (i : Nat), i < p.gauges.n → [SV.int .i64 (L.rsTo p s g i).edge.lo, SV.int .i64 (L.rsTo p s g
 i).edge.hi, SV.int .i64 (L.rsTo p s g i).across.lo, SV.int .i64 (L.rsTo p s g i).across.hi, SV.int .i64 (L.rsTo p s g i).bend] = [SV.int .i64 (L.rsTo p s g i).edge.lo, SV.int .i64 (L.rsTo p s g i).edge.hi, SV.int .i64 (L.rsTo p s g i).across.lo, SV.int .i64 (L.rsTo p s g i).across.hi,
 SV.int .i64 (L.rsTo p s g i).bend]) ∧ p.id = p.id ∧ p.colour = p.colour ∧ p.rev = p.rev ∧ p.made = p.made ∧ p.swell = p.swell ∧ (0 : Int) = (0 : Int) ∧ (0 : Int) = (0 : Int) ∧ (0 : Int) = (0 : Int) ∧ (0 : Int) = (0 : Int) ∧ (0 : Int) = (0 : Int) ∧ Value.slice Option.none (0 : Nat) (0 : Nat) = Value.slice Option.none (0 : Nat) (0 : Nat) ∧ Value.slice Option.none (0 : Nat)
 (0 : Nat) = Value.slice Option.none (0 : Nat) (0 : Nat) ∧ g' ≤ p.marks.n ∧ p.marks.n - g' < p.marks.n - g_1)) ∧ (decide ((↑g_1 : Int) < (↑p.marks.n : Int)) = false → ((∀ (i : Nat), i < p.marks.n → [SV.int .i64 (L.rsMTo p.marks s p.gauges.n g_1 i).edge, SV.int .i64 (L.rsMTo p.marks s p.gauges.n g_1 i).place, SV.int .i64 (L.rsMTo
 p.marks s p.gauges.n g_1 i).tone] = [SV.int .i64 (L.rsMTo p.marks s p.gauges.n g_1 i).edge, SV.int .i64 (L.rsMTo p.marks s p.gauges.n g_1 i).place, SV.int .i64 (L.rsMTo p.marks s p.gauges.n g_1 i).tone]) ∧ p.marks.n ≤ (1000000 : Nat)) ∧ ∀ (t : Nat), True → (∀ (i : Nat), i < p.marks.n → (true && (true && (true && true))) =
 true) ∧ (s.back = true → ((((p.id = (L.rs p s).id ∧ p.rev = (L.rs p s).colour ∧ p.colour = (L.rs p s).rev ∧ p.made = (L.rs p s).made ∧ p.swell = (L.rs p s).swell ∧ (p.gauges.n = (L.rs p s).gauges.n ∧ ∀ (i : Nat), i < p.gauges.n → [SV.int .i64 (L.rsTo p s g i).edge.lo, SV.int .i64 (L.rsTo p s g i).edge.hi, SV.int .i64 (L.rsTo p s g
 i).across.lo, SV.int .i64 (L.rsTo p s g i).across.hi, SV.int .i64 (L.rsTo p s g i).bend] = [SV.int .i64 ((L.rs p s).gauges.g i).edge.lo, SV.int .i64 ((L.rs p s).gauges.g i).edge.hi, SV.int .i64 ((L.rs p s).gauges.g i).across.lo, SV.int .i64 ((L.rs p s).gauges.g i).across.hi, SV.int .i64
 ((L.rs p s).gauges.g i).bend]) ∧ p.marks.n = (L.rs p s).marks.n ∧ ∀ (i : Nat), i < p.marks.n → [SV.int .i64 ((L.sortM (L.Sq.mk p.marks.n fun (i : Nat) ↦ L.rsMTo p.marks s p.gauges.n g_1 i)).g i).edge, SV.int .i64 ((L.sortM (L.Sq.mk p.marks.n fun (i : Nat) ↦ L.rsMTo p.marks s p.gauges.n g_1 i)).g i).place, SV.int .i64 ((L.sortM (L.Sq.mk p.marks.n fun
 (i : Nat) ↦ L.rsMTo p.marks s p.gauges.n g_1 i)).g i).tone] = [SV.int .i64 ((L.rs p s).marks.g i).edge, SV.int .i64 ((L.rs p s).marks.g i).place, SV.int .i64 ((L.rs p s).marks.g i).tone]) ∧ (p.id = (L.rs p s).id ∧ p.rev = (L.rs p s).colour ∧ p.colour = (L.rs p s).rev ∧ p.made = (L.rs p s).made ∧ p.swell = (L.rs p s).swell ∧ (p.gauges.n = (L.rs p
 s).gauges.n ∧ ∀ (i : Nat), i < p.gauges.n → [SV.int .i64 (L.rsTo p s g i).edge.lo, SV.int .i64 (L.rsTo p s g i).edge.hi, SV.int .i64 (L.rsTo p s g i).across.lo, SV.int .i64 (L.rsTo p s g i).across.hi, SV.int .i64 (L.rsTo p s g i).bend] = [SV.int .i64 ((L.rs p s).gauges.g i).edge.lo, SV.int
 .i64 ((L.rs p s).gauges.g i).edge.hi, SV.int .i64 ((L.rs p s).gauges.g i).across.lo, SV.int .i64 ((L.rs p s).gauges.g i).across.hi, SV.int .i64 ((L.rs p s).gauges.g i).bend]) ∧ p.marks.n = (L.rs p s).marks.n ∧ ∀ (i : Nat), i < p.marks.n → [SV.int .i64 ((L.sortM (L.Sq.mk p.marks.n fun (i : Nat) ↦ L.rsMTo p.marks s p.gauges.n
 g_1 i)).g i).edge, SV.int .i64 ((L.sortM (L.Sq.mk p.marks.n fun (i : Nat) ↦ L.rsMTo p.marks s p.gauges.n g_1 i)).g i).place, SV.int .i64 ((L.sortM (L.Sq.mk p.marks.n fun (i : Nat) ↦ L.rsMTo p.marks s p.gauges.n g_1 i)).g i).tone] = [SV.int .i64 ((L.rs p s).marks.g i).edge, SV.int .i64 ((L.rs p s).marks.g i).place, SV.int
 .i64 ((L.rs p s).marks.g i).tone]) ∧ p.id = (L.rs p s).id ∧ p.rev = (L.rs p s).colour ∧ p.colour = (L.rs p s).rev ∧ p.made = (L.rs p s).made ∧ p.swell = (L.rs p s).swell ∧ (p.gauges.n = (L.rs p s).gauges.n ∧ ∀ (i : Nat), i < p.gauges.n → [SV.int .i64 (L.rsTo p s g i).edge.lo, SV.int .i64 (L.rsTo p s g i).edge.hi, SV.int .i64 (L.rsTo p s g
 i).across.lo, SV.int .i64 (L.rsTo p s g i).across.hi, SV.int .i64 (L.rsTo p s g i).bend] = [SV.int .i64 ((L.rs p s).gauges.g i).edge.lo, SV.int .i64 ((L.rs p s).gauges.g i).edge.hi, SV.int .i64 ((L.rs p s).gauges.g i).across.lo, SV.int .i64 ((L.rs p s).gauges.g i).across.hi, SV.int .i64
 ((L.rs p s).gauges.g i).bend]) ∧ p.marks.n = (L.rs p s).marks.n ∧ ∀ (i : Nat), i < p.marks.n → [SV.int .i64 ((L.sortM (L.Sq.mk p.marks.n fun (i : Nat) ↦ L.rsMTo p.marks s p.gauges.n g_1 i)).g i).edge, SV.int .i64 ((L.sortM (L.Sq.mk p.marks.n fun (i : Nat) ↦ L.rsMTo p.marks s p.gauges.n g_1 i)).g i).place, SV.int .i64 ((L.sortM (L.Sq.mk p.marks.n fun
 (i : Nat) ↦ L.rsMTo p.marks s p.gauges.n g_1 i)).g i).tone] = [SV.int .i64 ((L.rs p s).marks.g i).edge, SV.int .i64 ((L.rs p s).marks.g i).place, SV.int .i64 ((L.rs p s).marks.g i).tone]) ∧ ((p.id = (L.rs p s).id ∧ p.rev = (L.rs p s).colour ∧ p.colour = (L.rs p s).rev ∧ p.made = (L.rs p s).made ∧ p.swell = (L.rs p s).swell ∧ (p.gauges.n = (L.rs p
 s).gauges.n ∧ ∀ (i : Nat), i < p.gauges.n → [SV.int .i64 (L.rsTo p s g i).edge.lo, SV.int .i64 (L.rsTo p s g i).edge.hi, SV.int .i64 (L.rsTo p s g i).across.lo, SV.int .i64 (L.rsTo p s g i).across.hi, SV.int .i64 (L.rsTo p s g i).bend] = [SV.int .i64 ((L.rs p s).gauges.g i).edge.lo, SV.int
 .i64 ((L.rs p s).gauges.g i).edge.hi, SV.int .i64 ((L.rs p s).gauges.g i).across.lo, SV.int .i64 ((L.rs p s).gauges.g i).across.hi, SV.int .i64 ((L.rs p s).gauges.g i).bend]) ∧ p.marks.n = (L.rs p s).marks.n ∧ ∀ (i : Nat), i < p.marks.n → [SV.int .i64 ((L.sortM (L.Sq.mk p.marks.n fun (i : Nat) ↦ L.rsMTo p.marks s p.gauges.n
 g_1 i)).g i).edge, SV.int .i64 ((L.sortM (L.Sq.mk p.marks.n fun (i : Nat) ↦ L.rsMTo p.marks s p.gauges.n g_1 i)).g i).place, SV.int .i64 ((L.sortM (L.Sq.mk p.marks.n fun (i : Nat) ↦ L.rsMTo p.marks s p.gauges.n g_1 i)).g i).tone] = [SV.int .i64 ((L.rs p s).marks.g i).edge, SV.int .i64 ((L.rs p s).marks.g i).place, SV.int
 .i64 ((L.rs p s).marks.g i).tone]) ∧ p.id = (L.rs p s).id ∧ p.rev = (L.rs p s).colour ∧ p.colour = (L.rs p s).rev ∧ p.made = (L.rs p s).made ∧ p.swell = (L.rs p s).swell ∧ (p.gauges.n = (L.rs p s).gauges.n ∧ ∀ (i : Nat), i < p.gauges.n → [SV.int .i64 (L.rsTo p s g i).edge.lo, SV.int .i64 (L.rsTo p s g i).edge.hi, SV.int .i64 (L.rsTo p s g
 i).across.lo, SV.int .i64 (L.rsTo p s g i).across.hi, SV.int .i64 (L.rsTo p s g i).bend] = [SV.int .i64 ((L.rs p s).gauges.g i).edge.lo, SV.int .i64 ((L.rs p s).gauges.g i).edge.hi, SV.int .i64 ((L.rs p s).gauges.g i).across.lo, SV.int .i64 ((L.rs p s).gauges.g i).across.hi, SV.int .i64
 ((L.rs p s).gauges.g i).bend]) ∧ p.marks.n = (L.rs p s).marks.n ∧ ∀ (i : Nat), i < p.marks.n → [SV.int .i64 ((L.sortM (L.Sq.mk p.marks.n fun (i : Nat) ↦ L.rsMTo p.marks s p.gauges.n g_1 i)).g i).edge, SV.int .i64 ((L.sortM (L.Sq.mk p.marks.n fun (i : Nat) ↦ L.rsMTo p.marks s p.gauges.n g_1 i)).g i).place, SV.int .i64 ((L.sortM (L.Sq.mk p.marks.n fun
 (i : Nat) ↦ L.rsMTo p.marks s p.gauges.n g_1 i)).g i).tone] = [SV.int .i64 ((L.rs p s).marks.g i).edge, SV.int .i64 ((L.rs p s).marks.g i).place, SV.int .i64 ((L.rs p s).marks.g i).tone]) ∧ p.id = (L.rs p s).id ∧ p.rev = (L.rs p s).colour ∧ p.colour = (L.rs p s).rev ∧ p.made = (L.rs p s).made ∧ p.swell = (L.rs p s).swell ∧ (p.gauges.n = (L.rs p
 s).gauges.n ∧ ∀ (i : Nat), i < p.gauges.n → [SV.int .i64 (L.rsTo p s g i).edge.lo, SV.int .i64 (L.rsTo p s g i).edge.hi, SV.int .i64 (L.rsTo p s g i).across.lo, SV.int .i64 (L.rsTo p s g i).across.hi, SV.int .i64 (L.rsTo p s g i).bend] = [SV.int .i64 ((L.rs p s).gauges.g i).edge.lo, SV.int
 .i64 ((L.rs p s).gauges.g i).edge.hi, SV.int .i64 ((L.rs p s).gauges.g i).across.lo, SV.int .i64 ((L.rs p s).gauges.g i).across.hi, SV.int .i64 ((L.rs p s).gauges.g i).bend]) ∧ p.marks.n = (L.rs p s).marks.n ∧ ∀ (i : Nat), i < p.marks.n → [SV.int .i64 ((L.sortM (L.Sq.mk p.marks.n fun (i : Nat) ↦ L.rsMTo p.marks s p.gauges.n
 g_1 i)).g i).edge, SV.int .i64 ((L.sortM (L.Sq.mk p.marks.n fun (i : Nat) ↦ L.rsMTo p.marks s p.gauges.n g_1 i)).g i).place, SV.int .i64 ((L.sortM (L.Sq.mk p.marks.n fun (i : Nat) ↦ L.rsMTo p.marks s p.gauges.n g_1 i)).g i).tone] = [SV.int .i64 ((L.rs p s).marks.g i).edge, SV.int .i64 ((L.rs p s).marks.g i).place, SV.int
 .i64 ((L.rs p s).marks.g i).tone]) ∧ ((p.id = (L.rs p s).id ∧ p.rev = (L.rs p s).colour ∧ p.colour = (L.rs p s).rev ∧ p.made = (L.rs p s).made ∧ p.swell = (L.rs p s).swell ∧ (p.gauges.n = (L.rs p s).gauges.n ∧ ∀ (i : Nat), i < p.gauges.n → [SV.int .i64 (L.rsTo p s g i).edge.lo, SV.int .i64 (L.rsTo p s g i).edge.hi, SV.int .i64 (L.rsTo p s g
 i).across.lo, SV.int .i64 (L.rsTo p s g i).across.hi, SV.int .i64 (L.rsTo p s g i).bend] = [SV.int .i64 ((L.rs p s).gauges.g i).edge.lo, SV.int .i64 ((L.rs p s).gauges.g i).edge.hi, SV.int .i64 ((L.rs p s).gauges.g i).across.lo, SV.int .i64 ((L.rs p s).gauges.g i).across.hi, SV.int .i64
 ((L.rs p s).gauges.g i).bend]) ∧ p.marks.n = (L.rs p s).marks.n ∧ ∀ (i : Nat), i < p.marks.n → [SV.int .i64 ((L.sortM (L.Sq.mk p.marks.n fun (i : Nat) ↦ L.rsMTo p.marks s p.gauges.n g_1 i)).g i).edge, SV.int .i64 ((L.sortM (L.Sq.mk p.marks.n fun (i : Nat) ↦ L.rsMTo p.marks s p.gauges.n g_1 i)).g i).place, SV.int .i64 ((L.sortM (L.Sq.mk p.marks.n fun
 (i : Nat) ↦ L.rsMTo p.marks s p.gauges.n g_1 i)).g i).tone] = [SV.int .i64 ((L.rs p s).marks.g i).edge, SV.int .i64 ((L.rs p s).marks.g i).place, SV.int .i64 ((L.rs p s).marks.g i).tone]) ∧ (p.id = (L.rs p s).id ∧ p.rev = (L.rs p s).colour ∧ p.colour = (L.rs p s).rev ∧ p.made = (L.rs p s).made ∧ p.swell = (L.rs p s).swell ∧ (p.gauges.n = (L.rs p
 s).gauges.n ∧ ∀ (i : Nat), i < p.gauges.n → [SV.int .i64 (L.rsTo p s g i).edge.lo, SV.int .i64 (L.rsTo p s g i).edge.hi, SV.int .i64 (L.rsTo p s g i).across.lo, SV.int .i64 (L.rsTo p s g i).across.hi, SV.int .i64 (L.rsTo p s g i).bend] = [SV.int .i64 ((L.rs p s).gauges.g i).edge.lo, SV.int
 .i64 ((L.rs p s).gauges.g i).edge.hi, SV.int .i64 ((L.rs p s).gauges.g i).across.lo, SV.int .i64 ((L.rs p s).gauges.g i).across.hi, SV.int .i64 ((L.rs p s).gauges.g i).bend]) ∧ p.marks.n = (L.rs p s).marks.n ∧ ∀ (i : Nat), i < p.marks.n → [SV.int .i64 ((L.sortM (L.Sq.mk p.marks.n fun (i : Nat) ↦ L.rsMTo p.marks s p.gauges.n
 g_1 i)).g i).edge, SV.int .i64 ((L.sortM (L.Sq.mk p.marks.n fun (i : Nat) ↦ L.rsMTo p.marks s p.gauges.n g_1 i)).g i).place, SV.int .i64 ((L.sortM (L.Sq.mk p.marks.n fun (i : Nat) ↦ L.rsMTo p.marks s p.gauges.n g_1 i)).g i).tone] = [SV.int .i64 ((L.rs p s).marks.g i).edge, SV.int .i64 ((L.rs p s).marks.g i).place, SV.int
 .i64 ((L.rs p s).marks.g i).tone]) ∧ p.id = (L.rs p s).id ∧ p.rev = (L.rs p s).colour ∧ p.colour = (L.rs p s).rev ∧ p.made = (L.rs p s).made ∧ p.swell = (L.rs p s).swell ∧ (p.gauges.n = (L.rs p s).gauges.n ∧ ∀ (i : Nat), i < p.gauges.n → [SV.int .i64 (L.rsTo p s g i).edge.lo, SV.int .i64 (L.rsTo p s g i).edge.hi, SV.int .i64 (L.rsTo p s g
 i).across.lo, SV.int .i64 (L.rsTo p s g i).across.hi, SV.int .i64 (L.rsTo p s g i).bend] = [SV.int .i64 ((L.rs p s).gauges.g i).edge.lo, SV.int .i64 ((L.rs p s).gauges.g i).edge.hi, SV.int .i64 ((L.rs p s).gauges.g i).across.lo, SV.int .i64 ((L.rs p s).gauges.g i).across.hi, SV.int .i64
 ((L.rs p s).gauges.g i).bend]) ∧ p.marks.n = (L.rs p s).marks.n ∧ ∀ (i : Nat), i < p.marks.n → [SV.int .i64 ((L.sortM (L.Sq.mk p.marks.n fun (i : Nat) ↦ L.rsMTo p.marks s p.gauges.n g_1 i)).g i).edge, SV.int .i64 ((L.sortM (L.Sq.mk p.marks.n fun (i : Nat) ↦ L.rsMTo p.marks s p.gauges.n g_1 i)).g i).place, SV.int .i64 ((L.sortM (L.Sq.mk p.marks.n fun
 (i : Nat) ↦ L.rsMTo p.marks s p.gauges.n g_1 i)).g i).tone] = [SV.int .i64 ((L.rs p s).marks.g i).edge, SV.int .i64 ((L.rs p s).marks.g i).place, SV.int .i64 ((L.rs p s).marks.g i).tone]) ∧ p.id = (L.rs p s).id ∧ p.rev = (L.rs p s).colour ∧ p.colour = (L.rs p s).rev ∧ p.made = (L.rs p s).made ∧ p.swell = (L.rs p s).swell ∧ (p.gauges.n = (L.rs p
 s).gauges.n ∧ ∀ (i : Nat), i < p.gauges.n → [SV.int .i64 (L.rsTo p s g i).edge.lo, SV.int .i64 (L.rsTo p s g i).edge.hi, SV.int .i64 (L.rsTo p s g i).across.lo, SV.int .i64 (L.rsTo p s g i).across.hi, SV.int .i64 (L.rsTo p s g i).bend] = [SV.int .i64 ((L.rs p s).gauges.g i).edge.lo, SV.int
 .i64 ((L.rs p s).gauges.g i).edge.hi, SV.int .i64 ((L.rs p s).gauges.g i).across.lo, SV.int .i64 ((L.rs p s).gauges.g i).across.hi, SV.int .i64 ((L.rs p s).gauges.g i).bend]) ∧ p.marks.n = (L.rs p s).marks.n ∧ ∀ (i : Nat), i < p.marks.n → [SV.int .i64 ((L.sortM (L.Sq.mk p.marks.n fun (i : Nat) ↦ L.rsMTo p.marks s p.gauges.n
 g_1 i)).g i).edge, SV.int .i64 ((L.sortM (L.Sq.mk p.marks.n fun (i : Nat) ↦ L.rsMTo p.marks s p.gauges.n g_1 i)).g i).place, SV.int .i64 ((L.sortM (L.Sq.mk p.marks.n fun (i : Nat) ↦ L.rsMTo p.marks s p.gauges.n g_1 i)).g i).tone] = [SV.int .i64 ((L.rs p s).marks.g i).edge, SV.int .i64 ((L.rs p s).marks.g i).place, SV.int
 .i64 ((L.rs p s).marks.g i).tone]) ∧ (((p.id = (L.rs p s).id ∧ p.rev = (L.rs p s).colour ∧ p.colour = (L.rs p s).rev ∧ p.made = (L.rs p s).made ∧ p.swell = (L.rs p s).swell ∧ (p.gauges.n = (L.rs p s).gauges.n ∧ ∀ (i : Nat), i < p.gauges.n → [SV.int .i64 (L.rsTo p s g i).edge.lo, SV.int .i64 (L.rsTo p s g i).edge.hi, SV.int .i64 (L.rsTo p s
 g i).across.lo, SV.int .i64 (L.rsTo p s g i).across.hi, SV.int .i64 (L.rsTo p s g i).bend] = [SV.int .i64 ((L.rs p s).gauges.g i).edge.lo, SV.int .i64 ((L.rs p s).gauges.g i).edge.hi, SV.int .i64 ((L.rs p s).gauges.g i).across.lo, SV.int .i64 ((L.rs p s).gauges.g i).across.hi, SV.int
 .i64 ((L.rs p s).gauges.g i).bend]) ∧ p.marks.n = (L.rs p s).marks.n ∧ ∀ (i : Nat), i < p.marks.n → [SV.int .i64 ((L.sortM (L.Sq.mk p.marks.n fun (i : Nat) ↦ L.rsMTo p.marks s p.gauges.n g_1 i)).g i).edge, SV.int .i64 ((L.sortM (L.Sq.mk p.marks.n fun (i : Nat) ↦ L.rsMTo p.marks s p.gauges.n g_1 i)).g i).place, SV.int .i64 ((L.sortM (L.Sq.mk
 p.marks.n fun (i : Nat) ↦ L.rsMTo p.marks s p.gauges.n g_1 i)).g i).tone] = [SV.int .i64 ((L.rs p s).marks.g i).edge, SV.int .i64 ((L.rs p s).marks.g i).place, SV.int .i64 ((L.rs p s).marks.g i).tone]) ∧ (p.id = (L.rs p s).id ∧ p.rev = (L.rs p s).colour ∧ p.colour = (L.rs p s).rev ∧ p.made = (L.rs p s).made ∧ p.swell = (L.rs p s).swell ∧ (p.gauges.n
 = (L.rs p s).gauges.n ∧ ∀ (i : Nat), i < p.gauges.n → [SV.int .i64 (L.rsTo p s g i).edge.lo, SV.int .i64 (L.rsTo p s g i).edge.hi, SV.int .i64 (L.rsTo p s g i).across.lo, SV.int .i64 (L.rsTo p s g i).across.hi, SV.int .i64 (L.rsTo p s g i).bend] = [SV.int .i64 ((L.rs p s).gauges.g i).edge.lo,
 SV.int .i64 ((L.rs p s).gauges.g i).edge.hi, SV.int .i64 ((L.rs p s).gauges.g i).across.lo, SV.int .i64 ((L.rs p s).gauges.g i).across.hi, SV.int .i64 ((L.rs p s).gauges.g i).bend]) ∧ p.marks.n = (L.rs p s).marks.n ∧ ∀ (i : Nat), i < p.marks.n → [SV.int .i64 ((L.sortM (L.Sq.mk p.marks.n fun (i : Nat) ↦ L.rsMTo p.marks
 s p.gauges.n g_1 i)).g i).edge, SV.int .i64 ((L.sortM (L.Sq.mk p.marks.n fun (i : Nat) ↦ L.rsMTo p.marks s p.gauges.n g_1 i)).g i).place, SV.int .i64 ((L.sortM (L.Sq.mk p.marks.n fun (i : Nat) ↦ L.rsMTo p.marks s p.gauges.n g_1 i)).g i).tone] = [SV.int .i64 ((L.rs p s).marks.g i).edge, SV.int .i64 ((L.rs p s).marks.g i).place,
 SV.int .i64 ((L.rs p s).marks.g i).tone]) ∧ p.id = (L.rs p s).id ∧ p.rev = (L.rs p s).colour ∧ p.colour = (L.rs p s).rev ∧ p.made = (L.rs p s).made ∧ p.swell = (L.rs p s).swell ∧ (p.gauges.n = (L.rs p s).gauges.n ∧ ∀ (i : Nat), i < p.gauges.n → [SV.int .i64 (L.rsTo p s g i).edge.lo, SV.int .i64 (L.rsTo p s g i).edge.hi, SV.int .i64
 (L.rsTo p s g i).across.lo, SV.int .i64 (L.rsTo p s g i).across.hi, SV.int .i64 (L.rsTo p s g i).bend] = [SV.int .i64 ((L.rs p s).gauges.g i).edge.lo, SV.int .i64 ((L.rs p s).gauges.g i).edge.hi, SV.int .i64 ((L.rs p s).gauges.g i).across.lo, SV.int .i64 ((L.rs p s).gauges.g i).across.hi, SV.int
 .i64 ((L.rs p s).gauges.g i).bend]) ∧ p.marks.n = (L.rs p s).marks.n ∧ ∀ (i : Nat), i < p.marks.n → [SV.int .i64 ((L.sortM (L.Sq.mk p.marks.n fun (i : Nat) ↦ L.rsMTo p.marks s p.gauges.n g_1 i)).g i).edge, SV.int .i64 ((L.sortM (L.Sq.mk p.marks.n fun (i : Nat) ↦ L.rsMTo p.marks s p.gauges.n g_1 i)).g i).place, SV.int .i64 ((L.sortM (L.Sq.mk
 p.marks.n fun (i : Nat) ↦ L.rsMTo p.marks s p.gauges.n g_1 i)).g i).tone] = [SV.int .i64 ((L.rs p s).marks.g i).edge, SV.int .i64 ((L.rs p s).marks.g i).place, SV.int .i64 ((L.rs p s).marks.g i).tone]) ∧ p.id = (L.rs p s).id ∧ p.rev = (L.rs p s).colour ∧ p.colour = (L.rs p s).rev ∧ p.made = (L.rs p s).made ∧ p.swell = (L.rs p s).swell ∧ (p.gauges.n =
 (L.rs p s).gauges.n ∧ ∀ (i : Nat), i < p.gauges.n → [SV.int .i64 (L.rsTo p s g i).edge.lo, SV.int .i64 (L.rsTo p s g i).edge.hi, SV.int .i64 (L.rsTo p s g i).across.lo, SV.int .i64 (L.rsTo p s g i).across.hi, SV.int .i64 (L.rsTo p s g i).bend] = [SV.int .i64 ((L.rs p s).gauges.g i).edge.lo, SV.int
 .i64 ((L.rs p s).gauges.g i).edge.hi, SV.int .i64 ((L.rs p s).gauges.g i).across.lo, SV.int .i64 ((L.rs p s).gauges.g i).across.hi, SV.int .i64 ((L.rs p s).gauges.g i).bend]) ∧ p.marks.n = (L.rs p s).marks.n ∧ ∀ (i : Nat), i < p.marks.n → [SV.int .i64 ((L.sortM (L.Sq.mk p.marks.n fun (i : Nat) ↦ L.rsMTo p.marks s p.gauges.n
 g_1 i)).g i).edge, SV.int .i64 ((L.sortM (L.Sq.mk p.marks.n fun (i : Nat) ↦ L.rsMTo p.marks s p.gauges.n g_1 i)).g i).place, SV.int .i64 ((L.sortM (L.Sq.mk p.marks.n fun (i : Nat) ↦ L.rsMTo p.marks s p.gauges.n g_1 i)).g i).tone] = [SV.int .i64 ((L.rs p s).marks.g i).edge, SV.int .i64 ((L.rs p s).marks.g i).place, SV.int
 .i64 ((L.rs p s).marks.g i).tone]) ∧ p.id = (L.rs p s).id ∧ p.rev = (L.rs p s).colour ∧ p.colour = (L.rs p s).rev ∧ p.made = (L.rs p s).made ∧ p.swell = (L.rs p s).swell ∧ (p.gauges.n = (L.rs p s).gauges.n ∧ ∀ (i : Nat), i < p.gauges.n → [SV.int .i64 (L.rsTo p s g i).edge.lo, SV.int .i64 (L.rsTo p s g i).edge.hi, SV.int .i64 (L.rsTo p s g
 i).across.lo, SV.int .i64 (L.rsTo p s g i).across.hi, SV.int .i64 (L.rsTo p s g i).bend] = [SV.int .i64 ((L.rs p s).gauges.g i).edge.lo, SV.int .i64 ((L.rs p s).gauges.g i).edge.hi, SV.int .i64 ((L.rs p s).gauges.g i).across.lo, SV.int .i64 ((L.rs p s).gauges.g i).across.hi, SV.int .i64
 ((L.rs p s).gauges.g i).bend]) ∧ p.marks.n = (L.rs p s).marks.n ∧ ∀ (i : Nat), i < p.marks.n → [SV.int .i64 ((L.sortM (L.Sq.mk p.marks.n fun (i : Nat) ↦ L.rsMTo p.marks s p.gauges.n g_1 i)).g i).edge, SV.int .i64 ((L.sortM (L.Sq.mk p.marks.n fun (i : Nat) ↦ L.rsMTo p.marks s p.gauges.n g_1 i)).g i).place, SV.int .i64 ((L.sortM (L.Sq.mk p.marks.n fun
 (i : Nat) ↦ L.rsMTo p.marks s p.gauges.n g_1 i)).g i).tone] = [SV.int .i64 ((L.rs p s).marks.g i).edge, SV.int .i64 ((L.rs p s).marks.g i).place, SV.int .i64 ((L.rs p s).marks.g i).tone]) ∧ (s.back = false → p.id = (L.rs p s).id ∧ p.colour = (L.rs p s).colour ∧ p.rev = (L.rs p s).rev ∧ p.made = (L.rs p s).made ∧ p.swell = (L.rs p s).swell ∧
 (p.gauges.n = (L.rs p s).gauges.n ∧ ∀ (i : Nat), i < p.gauges.n → [SV.int .i64 (L.rsTo p s g i).edge.lo, SV.int .i64 (L.rsTo p s g i).edge.hi, SV.int .i64 (L.rsTo p s g i).across.lo, SV.int .i64 (L.rsTo p s g i).across.hi, SV.int .i64 (L.rsTo p s g i).bend] = [SV.int .i64 ((L.rs p s).gauges.g
 i).edge.lo, SV.int .i64 ((L.rs p s).gauges.g i).edge.hi, SV.int .i64 ((L.rs p s).gauges.g i).across.lo, SV.int .i64 ((L.rs p s).gauges.g i).across.hi, SV.int .i64 ((L.rs p s).gauges.g i).bend]) ∧ p.marks.n = (L.rs p s).marks.n ∧ ∀ (i : Nat), i < p.marks.n → [SV.int .i64 ((L.sortM (L.Sq.mk p.marks.n fun (i : Nat) ↦
 L.rsMTo p.marks s p.gauges.n g_1 i)).g i).edge, SV.int .i64 ((L.sortM (L.Sq.mk p.marks.n fun (i : Nat) ↦ L.rsMTo p.marks s p.gauges.n g_1 i)).g i).place, SV.int .i64 ((L.sortM (L.Sq.mk p.marks.n fun (i : Nat) ↦ L.rsMTo p.marks s p.gauges.n g_1 i)).g i).tone] = [SV.int .i64 ((L.rs p s).marks.g i).edge, SV.int .i64 ((L.rs p s).marks.g
 i).place, SV.int .i64 ((L.rs p s).marks.g i).tone])))) (by kernel_rfl) (by
    obtain ⟨hv, hs⟩ := hp
    obtain ⟨_, hg0, hm0⟩ := piece_of hv
    have hgn := gauges_n hg0
    have hmk := marks_in hm0
    have hn0 : 0 < p.gauges.n := by omega
    refine ⟨⟨by omega, Int.le_refl _, show (p.gauges.n : Int) * 40 ≤ 140737488355328 by omega⟩, ⟨(0 : Nat), rfl, ⟨Int.toNat_natCast _, fun i _ => ?_⟩, Nat.zero_le _⟩, fun g hg => ⟨fun hlt => ?_, fun hge => ?_⟩⟩
    · unfold L.rsTo; rw [decide_eq_false (Nat.not_lt_zero _)]; rfl
    · have hb : (g : Int) < (p.gauges.n : Int) := of_decide_eq_true hlt
      have hgl : g < p.gauges.n := by omega
      have hE := ed_ok hs (i := (g : Int)) (by omega) hb
      obtain ⟨a1, a2, _⟩ := rsI_lay hs hgl
      have e0 : ((g : Int)).toNat = g := Int.toNat_natCast g
      rw [hE.2, e0]
      have row : ∀ v : L.Gauge, v = L.rsG1 p s g → ∀ i, i < p.gauges.n → setRow (fun (j : Nat) => [.int .i64 ((L.rsTo p s g j).edge.lo), .int .i64 ((L.rsTo p s g j).edge.hi), .int .i64 ((L.rsTo p s g j).across.lo), .int .i64 ((L.rsTo p s g j).across.hi), .int .i64 ((L.rsTo p s g j).bend)]) (L.lay s p.gauges.n g).toNat 0 [.int .i64 v.edge.lo, .int .i64 v.edge.hi, .int .i64 v.across.lo, .int .i64 v.across.hi, .int .i64 v.bend] i = [.int .i64 ((L.rsTo p s (g + 1) i).edge.lo), .int .i64 ((L.rsTo p s (g + 1) i).edge.hi), .int .i64 ((L.rsTo p s (g + 1) i).across.lo), .int .i64 ((L.rsTo p s (g + 1) i).across.hi), .int .i64 ((L.rsTo p s (g + 1) i).bend)] := fun v hv i hi => by
        rw [rsTo_step hs hgl hi]
        unfold setRow
        by_cases h : i = (L.lay s p.gauges.n g).toNat
        · rw [if_pos h, if_pos h, hv]; rfl
        · rw [if_neg h, if_neg h]
      refine ⟨⟨by omega, hb⟩, trivial, fun hk => ⟨InK.of (by omega) (by omega), InK.of (by omega) (by omega), by omega, ⟨Int.tmod_nonneg _ (by omega), Int.tmod_lt_of_pos _ (by omega)⟩, fif ?_⟩, fun hk => ?_⟩
      · have hw := row ⟨(p.gauges.g g).edge, (p.gauges.g (L.prev p.gauges.n g)).across, (p.gauges.g (L.prev p.gauges.n g)).bend⟩ (by unfold L.rsG1; rw [hk]; rfl)
        exact ⟨⟨a1, a2⟩, by omega, InK.of (by omega) (by omega), g + 1, by omega, rfl, ⟨rfl, fun _ _ => rfl⟩, rfl, rfl, rfl, rfl, rfl, ⟨rfl, hw⟩, rfl, rfl, rfl, rfl, rfl, ⟨rfl, fun _ _ => rfl⟩, rfl, rfl, rfl, rfl, rfl, rfl, rfl, by omega, by omega⟩
      · have hw := row (p.gauges.g g) (by unfold L.rsG1; rw [hk]; rfl)
        exact ⟨⟨a1, a2⟩, by omega, InK.of (by omega) (by omega), g + 1, by omega, rfl, ⟨rfl, fun _ _ => rfl⟩, rfl, rfl, rfl, rfl, rfl, ⟨rfl, hw⟩, rfl, rfl, rfl, rfl, rfl, ⟨rfl, fun _ _ => rfl⟩, rfl, rfl, rfl, rfl, rfl, rfl, rfl, by omega, by omega⟩
    have hb : ¬ (g : Int) < (p.gauges.n : Int) := of_decide_eq_false hge
    obtain rfl : g = p.gauges.n := by omega
    refine ⟨⟨fun _ _ => rfl, by omega⟩, fun t _ => ⟨⟨(0 : Nat), rfl, ⟨rfl, fun i _ => ?_⟩, Nat.zero_le _⟩, fun q hq => ⟨fun hlt => ?_, fun hge => ?_⟩⟩⟩
    · have : L.rsMTo p.marks s p.gauges.n 0 i = p.marks.g i := by unfold L.rsMTo; rw [decide_eq_false (Nat.not_lt_zero _)]; rfl
      rw [this]
    · have hq1 : (q : Int) < (p.marks.n : Int) := of_decide_eq_true hlt
      obtain ⟨m1, m2, _⟩ := hmk.2 q (by omega)
      have hE := ed_ok hs m1.1 m1.2
      have e0 : ((q : Int)).toNat = q := Int.toNat_natCast q
      rw [e0, rsMTo_at, hE.2]
      have w0 : L.rsM1 s p.gauges.n (p.marks.g q) = ⟨L.lay s p.gauges.n (p.marks.g q).edge, bif s.back then 16 - (p.marks.g q).place else (p.marks.g q).place, (p.marks.g q).tone⟩ := rfl
      refine ⟨⟨by omega, hq1⟩, by omega, trivial, ⟨by omega, hq1⟩, by omega, fun hk => ?_, fun hk => ?_⟩
      · refine ⟨InK.of (by omega) (by omega), ⟨by omega, hq1⟩, by omega, InK.of (by omega) (by omega), q + 1, by omega, rfl, rfl, rfl, rfl, rfl, rfl, ⟨rfl, fun i hi => ?_⟩, ⟨rfl, fun _ _ => rfl⟩, rfl, rfl, rfl, rfl, rfl, rfl, rfl, rfl, rfl, rfl, rfl, rfl, by omega, by omega⟩
        rw [rsMTo_step, w0, hk]
        unfold setRow
        by_cases h : i = q
        · rw [if_pos h, if_pos h, if_pos h, h]; simp only [rsMTo_at]; rfl
        · rw [if_neg h, if_neg h, if_neg h]
      · refine ⟨InK.of (by omega) (by omega), q + 1, by omega, rfl, rfl, rfl, rfl, rfl, rfl, ⟨rfl, fun i hi => ?_⟩, ⟨rfl, fun _ _ => rfl⟩, rfl, rfl, rfl, rfl, rfl, rfl, rfl, rfl, rfl, rfl, rfl, rfl, by omega, by omega⟩
        rw [rsMTo_step, w0, hk]
        unfold setRow
        by_cases h : i = q
        · rw [if_pos h, if_pos h, h]; simp only [rsMTo_at]; rfl
        · rw [if_neg h, if_neg h]
    have hq1 : ¬ (q : Int) < (p.marks.n : Int) := of_decide_eq_false hge
    obtain rfl : q = p.marks.n := by omega
    have e2 : L.sortM ⟨p.marks.n, fun i => L.rsMTo p.marks s p.gauges.n p.marks.n i⟩ = L.sortM (L.rsMs p.marks s p.gauges.n) := sortM_congr fun k hk => by
      unfold L.rsMTo; rw [decide_eq_true hk]; rfl
    have e1 : ∀ i, i < p.gauges.n → ([.int .i64 ((L.rsTo p s p.gauges.n i).edge.lo), .int .i64 ((L.rsTo p s p.gauges.n i).edge.hi), .int .i64 ((L.rsTo p s p.gauges.n i).across.lo), .int .i64 ((L.rsTo p s p.gauges.n i).across.hi), .int .i64 ((L.rsTo p s p.gauges.n i).bend)] : List SV) = [.int .i64 (((L.rs p s).gauges.g i).edge.lo), .int .i64 (((L.rs p s).gauges.g i).edge.hi), .int .i64 (((L.rs p s).gauges.g i).across.lo), .int .i64 (((L.rs p s).gauges.g i).across.hi), .int .i64 (((L.rs p s).gauges.g i).bend)] := fun i _ => by
      rw [rsTo_full (p := p) (s := s) hn0 i]; rfl
    have e3 : ∀ i, i < p.marks.n → ([.int .i64 (((L.sortM ⟨p.marks.n, fun i => L.rsMTo p.marks s p.gauges.n p.marks.n i⟩).g i).edge), .int .i64 (((L.sortM ⟨p.marks.n, fun i => L.rsMTo p.marks s p.gauges.n p.marks.n i⟩).g i).place), .int .i64 (((L.sortM ⟨p.marks.n, fun i => L.rsMTo p.marks s p.gauges.n p.marks.n i⟩).g i).tone)] : List SV) = [.int .i64 (((L.rs p s).marks.g i).edge), .int .i64 (((L.rs p s).marks.g i).place), .int .i64 (((L.rs p s).marks.g i).tone)] := fun i _ => by
      rw [e2]; rfl
    refine ⟨⟨fun _ _ => rfl, by omega⟩, fun t _ => ⟨fun _ _ => rfl, fun hk => fif ?_, fun hk => ?_⟩⟩
    · have c1 : p.rev = (L.rs p s).colour := by unfold L.rs; rw [hk]; rfl
      have c2 : p.colour = (L.rs p s).rev := by unfold L.rs; rw [hk]; rfl
      exact ⟨rfl, c1, c2, rfl, rfl, ⟨rfl, e1⟩, rfl, e3⟩
    · have c1 : p.colour = (L.rs p s).colour := by unfold L.rs; rw [hk]; rfl
      have c2 : p.rev = (L.rs p s).rev := by unfold L.rs; rw [hk]; rfl
      exact ⟨rfl, c1, c2, rfl, rfl, ⟨rfl, e1⟩, rfl, e3⟩)
theorem g_reset_ok : SpecOk Tryz.prog 62 g_reset_S := fnX Tryz.func62 (c := bodyOf Tryz.f62) (by kernel_rfl) mixed (fun args p r hs hp => by
  unfold g_reset_s at hs
  split at hs
  · cases hs; exact ⟨_, _, g_reset_vc _ _ hp.2.2, (.p (.agg rfl (fun i hi => by
      rcases i with _ | i
      · exact (Ext.refl _ : Ext _ _)
      rcases i with _ | i
      · exact (Ext.refl _ : Ext _ _)
      rcases i with _ | i
      · exact (Ext.refl _ : Ext _ _)
      rcases i with _ | i
      · exact (Ext.refl _ : Ext _ _)
      rcases i with _ | i
      · exact (Ext.refl _ : Ext _ _)
      rcases i with _ | i
      · exact (Ext.sl hp.1 : Ext _ _)
      rcases i with _ | i
      · exact (Ext.sl hp.2.1 : Ext _ _)
      exact absurd hi (by simp; try omega))) (.same _ .nil)), ⟨show SpecsL Tryz.prog _ from (SpecsL.cons p_Edge_ok p_Edge_en (SpecsL.cons s_cloneM_ok s_cloneM_en (SpecsL.cons g_sortedM_ok g_sortedM_en (SpecsL.cons g_cmpMarks_ok g_cmpMarks_en SpecsL.nil)))), rfl, ⟨show ItersL Tryz.prog _ from ItersL.nil, (TrsOk.none (fun _ => rfl))⟩⟩⟩
  · cases hs)
theorem g_reset_en : Enters Tryz.prog 62 := fun args w => by kernel_rfl
end Go.Proofs.YtooapgllahonaaaGreat

namespace Go.Proofs.YtooapgllahonaaaGreat
open Go.SE Go.RowKit
set_option maxRecDepth 100000
set_option maxHeartbeats 4000000
set_option linter.unusedVariables false
attribute [local irreducible] vc

theorem leMk_of_lt {a b : L.Mark} (h : L.cmpMark a b < 0) : L.leMk a b := Int.le_of_lt h
end Go.Proofs.YtooapgllahonaaaGreat

namespace Go.Proofs.YtooapgllahonaaaGreat
open Go.SE Go.RowKit
set_option maxRecDepth 100000
set_option maxHeartbeats 4000000
set_option linter.unusedVariables false
attribute [local irreducible] vc

def L.zeroP : L.Piece := ⟨0, 0, 0, 0, 0, ⟨0, fun _ => ⟨⟨0, 0⟩, ⟨0, 0⟩, 0⟩⟩, ⟨0, fun _ => ⟨0, 0, 0⟩⟩⟩
def L.wrE (p : L.Piece) (s : L.Setting) : Int := bif !L.validPiece p then 30 else bif !L.validSet s p.gauges.n then 1 else 0
def L.rsV (p : L.Piece) (s : L.Setting) : L.Piece := bif decide (L.wrE p s = 0) then L.rs p s else L.zeroP
def L.samePc (a b : L.Piece) : Bool := bif (bif (bif (bif (bif (bif decide (a.id = b.id) then decide (a.colour = b.colour) else false) then decide (a.rev = b.rev) else false) then decide (a.made = b.made) else false) then decide (a.swell = b.swell) else false) then L.sameGs a.gauges b.gauges else false) then L.sameMs a.marks b.marks else false
theorem wrE_cases (p : L.Piece) (s : L.Setting) : (L.wrE p s = 0 ∧ L.validPiece p = true ∧ L.validSet s p.gauges.n = true ∧ L.rsV p s = L.rs p s) ∨ (L.wrE p s ≠ 0 ∧ L.rsV p s = L.zeroP) := by
  unfold L.rsV
  cases h1 : L.validPiece p with
  | false =>
    have : L.wrE p s = 30 := by unfold L.wrE; rw [h1]; rfl
    rw [this]
    exact .inr ⟨by decide, rfl⟩
  | true =>
    cases h2 : L.validSet s p.gauges.n with
    | false =>
      have : L.wrE p s = 1 := by unfold L.wrE; rw [h1, h2]; rfl
      rw [this]
      exact .inr ⟨by decide, rfl⟩
    | true =>
      have : L.wrE p s = 0 := by unfold L.wrE; rw [h1, h2]; rfl
      rw [this]
      exact .inl ⟨rfl, rfl, rfl, rfl⟩
theorem rsV_len (p : L.Piece) (s : L.Setting) : (L.rsV p s).gauges.n ≤ p.gauges.n ∧ (L.rsV p s).marks.n ≤ p.marks.n := by
  rcases wrE_cases p s with ⟨_, _, _, e⟩ | ⟨_, e⟩ <;> rw [e]
  · exact ⟨Nat.le_refl _, Nat.le_refl _⟩
  · exact ⟨Nat.zero_le _, Nat.zero_le _⟩
def g_wrong_p (p : L.Piece) (s : L.Setting) : Prop := p.gauges.n ≤ 1000000 ∧ p.marks.n ≤ 1000000
def g_wrong_r (p : L.Piece) (s : L.Setting) : SV := .int .i64 (L.wrE p s)
def g_wrong_s : List EV → Option (Prop × SV)
  | [.p (.agg [.int .i64 p_id, .int .i64 p_colour, .int .i64 p_rev, .int .i64 p_made, .int .i64 p_swell, .sl 5 p_gauges_n p_gauges_g, .sl 3 p_marks_n p_marks_g]), .p (.agg [.int .i64 s_shift, .bool s_back])] => some ((∀ i, i < p_gauges_n → p_gauges_g i = [.int .i64 ((ofGauge (p_gauges_g i)).edge.lo), .int .i64 ((ofGauge (p_gauges_g i)).edge.hi), .int .i64 ((ofGauge (p_gauges_g i)).across.lo), .int .i64 ((ofGauge (p_gauges_g i)).across.hi), .int .i64 ((ofGauge (p_gauges_g i)).bend)]) ∧ (∀ i, i < p_marks_n → p_marks_g i = [.int .i64 ((ofMark (p_marks_g i)).edge), .int .i64 ((ofMark (p_marks_g i)).place), .int .i64 ((ofMark (p_marks_g i)).tone)]) ∧ g_wrong_p (⟨p_id, p_colour, p_rev, p_made, p_swell, (⟨p_gauges_n, fun i => ofGauge (p_gauges_g i)⟩ : (L.Sq L.Gauge)), (⟨p_marks_n, fun i => ofMark (p_marks_g i)⟩ : (L.Sq L.Mark))⟩ : L.Piece) (⟨s_shift, s_back⟩ : L.Setting), g_wrong_r (⟨p_id, p_colour, p_rev, p_made, p_swell, (⟨p_gauges_n, fun i => ofGauge (p_gauges_g i)⟩ : (L.Sq L.Gauge)), (⟨p_marks_n, fun i => ofMark (p_marks_g i)⟩ : (L.Sq L.Mark))⟩ : L.Piece) (⟨s_shift, s_back⟩ : L.Setting))
  | _ => none
abbrev g_wrong_S : SE.Spec := (specO g_wrong_s)
def g_wrong_C : Cfg := { muts := [], frz := lookN [], specs := lookS [(47, g_ValidPiece_S), (103, p_ValidSetting_S)], loops := lookL [], iters := lookI [], rfs := lookR [], nils := lookM [] }
theorem g_wrong_vc (p : L.Piece) (s : L.Setting) (hp : g_wrong_p p s) : vc Tryz.prog (g_wrong_C) (bodyOf Tryz.f61) (st0 Tryz.f61 [.p (.agg [.int .i64 p.id, .int .i64 p.colour, .int .i64 p.rev, .int .i64 p.made, .int .i64 p.swell, .sl 5 p.gauges.n (fun i => [.int .i64 ((p.gauges.g i).edge.lo), .int .i64 ((p.gauges.g i).edge.hi), .int .i64 ((p.gauges.g i).across.lo), .int .i64 ((p.gauges.g i).across.hi), .int .i64 ((p.gauges.g i).bend)]), .sl 3 p.marks.n (fun i => [.int .i64 ((p.marks.g i).edge), .int .i64 ((p.marks.g i).place), .int .i64 ((p.marks.g i).tone)])]), .p (.agg [.int .i64 s.shift, .bool s.back])]) (retFn Tryz.prog Tryz.f61 (g_wrong_r p s)) :=
  @Eq.mpr _ (((∀ (i : Nat), i < p.gauges.n → [SV.int .i64 (p.gauges.g i).edge.lo, SV.int .i64 (p.gauges.g i).edge.hi, SV.int .i64 (p.gauges.g i).across.lo, SV.int .i64 (p.gauges.g i).across.hi, SV.int .i64 (p.gauges.g i).bend] = [SV.int .i64 (p.gauges.g i).edge.lo, SV.int .i64 (p.gauges.g i).edge.hi,
 SV.int .i64 (p.gauges.g i).across.lo, SV.int .i64 (p.gauges.g i).across.hi, SV.int .i64 (p.gauges.g i).bend]) ∧ (∀ (i : Nat), i < p.marks.n → [SV.int .i64 (p.marks.g i).edge, SV.int .i64 (p.marks.g i).place, SV.int .i64 (p.marks.g i).tone] = [SV.int .i64 (p.marks.g i).edge, SV.int
 .i64 (p.marks.g i).place, SV.int .i64 (p.marks.g i).tone]) ∧ p.gauges.n ≤ (1000000 : Nat) ∧ p.marks.n ≤ (1000000 : Nat)) ∧ ((!L.validPiece (L.Piece.mk p.id p.colour p.rev p.made p.swell (L.Sq.mk p.gauges.n fun (i : Nat) ↦ p.gauges.g i) (L.Sq.mk p.marks.n fun (i : Nat) ↦ p.marks.g i))) = true → (30 : Int) = L.wrE p s) ∧ ((!L.validPiece (L.Piece.mk p.id p.colour p.rev
 p.made p.swell (L.Sq.mk p.gauges.n fun (i : Nat) ↦ p.gauges.g i) (L.Sq.mk p.marks.n fun (i : Nat) ↦ p.marks.g i))) = false → True ∧ ((!L.validSet s (↑p.gauges.n : Int)) = true → (1 : Int) = L.wrE p s) ∧ ((!L.validSet s (↑p.gauges.n : Int)) = false → (0 : Int) = L.wrE p s))) (by kernel_rfl) (by
    refine ⟨⟨fun _ _ => rfl, fun _ _ => rfl, hp.1, hp.2⟩, fun h => ?_, fun h => ⟨trivial, fun k => ?_, fun k => ?_⟩⟩
    · have h : (!L.validPiece p) = true := h
      unfold L.wrE; rw [h]; rfl
    · have h : (!L.validPiece p) = false := h
      unfold L.wrE; rw [h, k]; rfl
    · have h : (!L.validPiece p) = false := h
      unfold L.wrE; rw [h, k]; rfl)
theorem g_wrong_ok : SpecOk Tryz.prog 61 g_wrong_S := fnX Tryz.func61 (c := bodyOf Tryz.f61) (by kernel_rfl) mixed (fun args p r hs hp => by
  unfold g_wrong_s at hs
  split at hs
  · cases hs; exact ⟨_, _, g_wrong_vc _ _ hp.2.2, (.p (.agg rfl (fun i hi => by
      rcases i with _ | i
      · exact (Ext.refl _ : Ext _ _)
      rcases i with _ | i
      · exact (Ext.refl _ : Ext _ _)
      rcases i with _ | i
      · exact (Ext.refl _ : Ext _ _)
      rcases i with _ | i
      · exact (Ext.refl _ : Ext _ _)
      rcases i with _ | i
      · exact (Ext.refl _ : Ext _ _)
      rcases i with _ | i
      · exact (Ext.sl hp.1 : Ext _ _)
      rcases i with _ | i
      · exact (Ext.sl hp.2.1 : Ext _ _)
      exact absurd hi (by simp; try omega))) (.same _ .nil)), ⟨show SpecsL Tryz.prog _ from (SpecsL.cons g_ValidPiece_ok g_ValidPiece_en (SpecsL.cons p_ValidSetting_ok p_ValidSetting_en SpecsL.nil)), rfl, ⟨show ItersL Tryz.prog _ from ItersL.nil, (TrsOk.none (fun _ => rfl))⟩⟩⟩
  · cases hs)
theorem g_wrong_en : Enters Tryz.prog 61 := fun args w => by kernel_rfl
def g_Reset_p (p : L.Piece) (s : L.Setting) : Prop := p.gauges.n ≤ 1000000 ∧ p.marks.n ≤ 1000000
def g_Reset_r (p : L.Piece) (s : L.Setting) : SV := .tup [(.agg [.int .i64 ((L.rsV p s).id), .int .i64 ((L.rsV p s).colour), .int .i64 ((L.rsV p s).rev), .int .i64 ((L.rsV p s).made), .int .i64 ((L.rsV p s).swell), .sl 5 (L.rsV p s).gauges.n (fun i => [.int .i64 (((L.rsV p s).gauges.g i).edge.lo), .int .i64 (((L.rsV p s).gauges.g i).edge.hi), .int .i64 (((L.rsV p s).gauges.g i).across.lo), .int .i64 (((L.rsV p s).gauges.g i).across.hi), .int .i64 (((L.rsV p s).gauges.g i).bend)]), .sl 3 (L.rsV p s).marks.n (fun i => [.int .i64 (((L.rsV p s).marks.g i).edge), .int .i64 (((L.rsV p s).marks.g i).place), .int .i64 (((L.rsV p s).marks.g i).tone)])]), .int .i64 (L.wrE p s)]
def g_Reset_s : List EV → Option (Prop × SV)
  | [.p (.agg [.int .i64 p_id, .int .i64 p_colour, .int .i64 p_rev, .int .i64 p_made, .int .i64 p_swell, .sl 5 p_gauges_n p_gauges_g, .sl 3 p_marks_n p_marks_g]), .p (.agg [.int .i64 s_shift, .bool s_back])] => some ((∀ i, i < p_gauges_n → p_gauges_g i = [.int .i64 ((ofGauge (p_gauges_g i)).edge.lo), .int .i64 ((ofGauge (p_gauges_g i)).edge.hi), .int .i64 ((ofGauge (p_gauges_g i)).across.lo), .int .i64 ((ofGauge (p_gauges_g i)).across.hi), .int .i64 ((ofGauge (p_gauges_g i)).bend)]) ∧ (∀ i, i < p_marks_n → p_marks_g i = [.int .i64 ((ofMark (p_marks_g i)).edge), .int .i64 ((ofMark (p_marks_g i)).place), .int .i64 ((ofMark (p_marks_g i)).tone)]) ∧ g_Reset_p (⟨p_id, p_colour, p_rev, p_made, p_swell, (⟨p_gauges_n, fun i => ofGauge (p_gauges_g i)⟩ : (L.Sq L.Gauge)), (⟨p_marks_n, fun i => ofMark (p_marks_g i)⟩ : (L.Sq L.Mark))⟩ : L.Piece) (⟨s_shift, s_back⟩ : L.Setting), g_Reset_r (⟨p_id, p_colour, p_rev, p_made, p_swell, (⟨p_gauges_n, fun i => ofGauge (p_gauges_g i)⟩ : (L.Sq L.Gauge)), (⟨p_marks_n, fun i => ofMark (p_marks_g i)⟩ : (L.Sq L.Mark))⟩ : L.Piece) (⟨s_shift, s_back⟩ : L.Setting))
  | _ => none
abbrev g_Reset_S : SE.Spec := (specO g_Reset_s)
def g_Reset_C : Cfg := { muts := [4], frz := lookN [], specs := lookS [(61, g_wrong_S), (62, g_reset_S)], loops := lookL [], iters := lookI [], rfs := lookR [], nils := lookM [] }
theorem g_Reset_vc (p : L.Piece) (s : L.Setting) (hp : g_Reset_p p s) : vc Tryz.prog (g_Reset_C) (bodyOf Tryz.f12) (st0 Tryz.f12 [.p (.agg [.int .i64 p.id, .int .i64 p.colour, .int .i64 p.rev, .int .i64 p.made, .int .i64 p.swell, .sl 5 p.gauges.n (fun i => [.int .i64 ((p.gauges.g i).edge.lo), .int .i64 ((p.gauges.g i).edge.hi), .int .i64 ((p.gauges.g i).across.lo), .int .i64 ((p.gauges.g i).across.hi), .int .i64 ((p.gauges.g i).bend)]), .sl 3 p.marks.n (fun i => [.int .i64 ((p.marks.g i).edge), .int .i64 ((p.marks.g i).place), .int .i64 ((p.marks.g i).tone)])]), .p (.agg [.int .i64 s.shift, .bool s.back])]) (retFn Tryz.prog Tryz.f12 (g_Reset_r p s)) :=
  @Eq.mpr _ (((∀ (i : Nat), i < p.gauges.n → [SV.int .i64 (p.gauges.g i).edge.lo, SV.int .i64 (p.gauges.g i).edge.hi, SV.int .i64 (p.gauges.g i).across.lo, SV.int .i64 (p.gauges.g i).across.hi, SV.int .i64 (p.gauges.g i).bend] = [SV.int .i64 (p.gauges.g i).edge.lo, SV.int .i64 (p.gauges.g i).edge.hi,
 SV.int .i64 (p.gauges.g i).across.lo, SV.int .i64 (p.gauges.g i).across.hi, SV.int .i64 (p.gauges.g i).bend]) ∧ (∀ (i : Nat), i < p.marks.n → [SV.int .i64 (p.marks.g i).edge, SV.int .i64 (p.marks.g i).place, SV.int .i64 (p.marks.g i).tone] = [SV.int .i64 (p.marks.g i).edge, SV.int
 .i64 (p.marks.g i).place, SV.int .i64 (p.marks.g i).tone]) ∧ p.gauges.n ≤ (1000000 : Nat) ∧ p.marks.n ≤ (1000000 : Nat)) ∧ ((!decide (L.wrE (L.Piece.mk p.id p.colour p.rev p.made p.swell (L.Sq.mk p.gauges.n fun (i : Nat) ↦ p.gauges.g i) (L.Sq.mk p.marks.n fun (i : Nat) ↦ p.marks.g i)) s = (0 : Int))) = true → (0 : Int) = (L.rsV p s).id ∧ (0 : Int) = (L.rsV
 p s).colour ∧ (0 : Int) = (L.rsV p s).rev ∧ (0 : Int) = (L.rsV p s).made ∧ (0 : Int) = (L.rsV p s).swell ∧ (L.rsV p s).gauges.n = (0 : Nat) ∧ (L.rsV p s).marks.n = (0 : Nat) ∧ L.wrE (L.Piece.mk p.id p.colour p.rev p.made p.swell (L.Sq.mk p.gauges.n fun (i : Nat) ↦ p.gauges.g i) (L.Sq.mk p.marks.n fun (i : Nat) ↦ p.marks.g i)) s = L.wrE p s) ∧ ((!decide (L.wrE (L.Piece.mk p.id p.colour
 p.rev p.made p.swell (L.Sq.mk p.gauges.n fun (i : Nat) ↦ p.gauges.g i) (L.Sq.mk p.marks.n fun (i : Nat) ↦ p.marks.g i)) s = (0 : Int))) = false → ((∀ (i : Nat), i < p.gauges.n → [SV.int .i64 (p.gauges.g i).edge.lo, SV.int .i64 (p.gauges.g i).edge.hi, SV.int .i64 (p.gauges.g i).across.lo, SV.int .i64 (p.gauges.g i).across.hi,
 SV.int .i64 (p.gauges.g i).bend] = [SV.int .i64 (p.gauges.g i).edge.lo, SV.int .i64 (p.gauges.g i).edge.hi, SV.int .i64 (p.gauges.g i).across.lo, SV.int .i64 (p.gauges.g i).across.hi, SV.int .i64 (p.gauges.g i).bend]) ∧ (∀ (i : Nat), i < p.marks.n → [SV.int .i64 (p.marks.g i).edge,
 SV.int .i64 (p.marks.g i).place, SV.int .i64 (p.marks.g i).tone] = [SV.int .i64 (p.marks.g i).edge, SV.int .i64 (p.marks.g i).place, SV.int .i64 (p.marks.g i).tone]) ∧ L.validPiece (L.Piece.mk p.id p.colour p.rev p.made p.swell (L.Sq.mk p.gauges.n fun (i : Nat) ↦ p.gauges.g i) (L.Sq.mk p.marks.n fun (i : Nat) ↦
 p.marks.g i)) = true ∧ L.validSet s (↑p.gauges.n : Int) = true) ∧ (L.rs (L.Piece.mk p.id p.colour p.rev p.made p.swell (L.Sq.mk p.gauges.n fun (i : Nat) ↦ p.gauges.g i) (L.Sq.mk p.marks.n fun (i : Nat) ↦ p.marks.g i)) s).id = (L.rsV p s).id ∧ (L.rs (L.Piece.mk p.id p.colour p.rev p.made p.swell (L.Sq.mk p.gauges.n fun (i : Nat) ↦ p.gauges.g i) (L.Sq.mk p.marks.n fun (i : Nat) ↦ p.marks.g
 i)) s).colour = (L.rsV p s).colour ∧ (L.rs (L.Piece.mk p.id p.colour p.rev p.made p.swell (L.Sq.mk p.gauges.n fun (i : Nat) ↦ p.gauges.g i) (L.Sq.mk p.marks.n fun (i : Nat) ↦ p.marks.g i)) s).rev = (L.rsV p s).rev ∧ (L.rs (L.Piece.mk p.id p.colour p.rev p.made p.swell (L.Sq.mk p.gauges.n fun (i : Nat) ↦ p.gauges.g i) (L.Sq.mk p.marks.n fun (i : Nat) ↦ p.marks.g i)) s).made = (L.rsV p s).made ∧
 (L.rs (L.Piece.mk p.id p.colour p.rev p.made p.swell (L.Sq.mk p.gauges.n fun (i : Nat) ↦ p.gauges.g i) (L.Sq.mk p.marks.n fun (i : Nat) ↦ p.marks.g i)) s).swell = (L.rsV p s).swell ∧ ((L.rs (L.Piece.mk p.id p.colour p.rev p.made p.swell (L.Sq.mk p.gauges.n fun (i : Nat) ↦ p.gauges.g i) (L.Sq.mk p.marks.n fun (i : Nat) ↦ p.marks.g i)) s).gauges.n = (L.rsV p s).gauges.n ∧ ∀ (i : Nat), i < (L.rs
 (L.Piece.mk p.id p.colour p.rev p.made p.swell (L.Sq.mk p.gauges.n fun (i : Nat) ↦ p.gauges.g i) (L.Sq.mk p.marks.n fun (i : Nat) ↦ p.marks.g i)) s).gauges.n → [SV.int .i64 ((L.rs (L.Piece.mk p.id p.colour p.rev p.made p.swell (L.Sq.mk p.gauges.n fun (i : Nat) ↦ p.gauges.g i) (L.Sq.mk p.marks.n fun (i : Nat) ↦ p.marks.g i)) s).gauges.g i).edge.lo, SV.int .i64 ((L.rs
 (L.Piece.mk p.id p.colour p.rev p.made p.swell (L.Sq.mk p.gauges.n fun (i : Nat) ↦ p.gauges.g i) (L.Sq.mk p.marks.n fun (i : Nat) ↦ p.marks.g i)) s).gauges.g i).edge.hi, SV.int .i64 ((L.rs (L.Piece.mk p.id p.colour p.rev p.made p.swell (L.Sq.mk p.gauges.n fun (i : Nat) ↦ p.gauges.g i) (L.Sq.mk p.marks.n fun (i : Nat) ↦ p.marks.g i)) s).gauges.g i).across.lo, SV.int
 .i64 ((L.rs (L.Piece.mk p.id p.colour p.rev p.made p.swell (L.Sq.mk p.gauges.n fun (i : Nat) ↦ p.gauges.g i) (L.Sq.mk p.marks.n fun (i : Nat) ↦ p.marks.g i)) s).gauges.g i).across.hi, SV.int .i64 ((L.rs (L.Piece.mk p.id p.colour p.rev p.made p.swell (L.Sq.mk p.gauges.n fun (i : Nat) ↦ p.gauges.g i) (L.Sq.mk p.marks.n fun (i : Nat) ↦ p.marks.g i)) s).gauges.g i).bend] =
 [SV.int .i64 ((L.rsV p s).gauges.g i).edge.lo, SV.int .i64 ((L.rsV p s).gauges.g i).edge.hi, SV.int .i64 ((L.rsV p s).gauges.g i).across.lo, SV.int .i64 ((L.rsV p s).gauges.g i).across.hi, SV.int .i64 ((L.rsV p s).gauges.g i).bend]) ∧ ((L.rs (L.Piece.mk p.id p.colour p.rev p.made p.swell (L.Sq.mk p.gauges.n fun (i :
 Nat) ↦ p.gauges.g i) (L.Sq.mk p.marks.n fun (i : Nat) ↦ p.marks.g i)) s).marks.n = (L.rsV p s).marks.n ∧ ∀ (i : Nat), i < (L.rs (L.Piece.mk p.id p.colour p.rev p.made p.swell (L.Sq.mk p.gauges.n fun (i : Nat) ↦ p.gauges.g i) (L.Sq.mk p.marks.n fun (i : Nat) ↦ p.marks.g i)) s).marks.n → [SV.int .i64 ((L.rs (L.Piece.mk p.id p.colour p.rev p.made p.swell (L.Sq.mk p.gauges.n fun (i :
 Nat) ↦ p.gauges.g i) (L.Sq.mk p.marks.n fun (i : Nat) ↦ p.marks.g i)) s).marks.g i).edge, SV.int .i64 ((L.rs (L.Piece.mk p.id p.colour p.rev p.made p.swell (L.Sq.mk p.gauges.n fun (i : Nat) ↦ p.gauges.g i) (L.Sq.mk p.marks.n fun (i : Nat) ↦ p.marks.g i)) s).marks.g i).place, SV.int .i64 ((L.rs (L.Piece.mk p.id p.colour p.rev p.made p.swell (L.Sq.mk p.gauges.n fun (i
 : Nat) ↦ p.gauges.g i) (L.Sq.mk p.marks.n fun (i : Nat) ↦ p.marks.g i)) s).marks.g i).tone] = [SV.int .i64 ((L.rsV p s).marks.g i).edge, SV.int .i64 ((L.rsV p s).marks.g i).place, SV.int .i64 ((L.rsV p s).marks.g i).tone]) ∧ (0 : Int) = L.wrE p s)) (by kernel_rfl) (by
    refine ⟨⟨fun _ _ => rfl, fun _ _ => rfl, hp.1, hp.2⟩, fun h => ?_, fun h => ?_⟩
    · have hne : L.wrE p s ≠ 0 := of_decide_eq_false (notT h)
      rcases wrE_cases p s with ⟨e, _⟩ | ⟨_, e⟩
      · exact absurd e hne
      · rw [e]; exact ⟨rfl, rfl, rfl, rfl, rfl, rfl, rfl, rfl⟩
    · have h0 : L.wrE p s = 0 := of_decide_eq_true (notF h)
      rcases wrE_cases p s with ⟨_, hv, hs, e⟩ | ⟨hne, _⟩
      · rw [e]; exact ⟨⟨fun _ _ => rfl, fun _ _ => rfl, hv, hs⟩, rfl, rfl, rfl, rfl, rfl, ⟨rfl, fun _ _ => rfl⟩, ⟨rfl, fun _ _ => rfl⟩, h0.symm⟩
      · exact absurd h0 hne)
theorem g_Reset_ok : SpecOk Tryz.prog 12 g_Reset_S := fnX Tryz.func12 (c := bodyOf Tryz.f12) (by kernel_rfl) mixed (fun args p r hs hp => by
  unfold g_Reset_s at hs
  split at hs
  · cases hs; exact ⟨_, _, g_Reset_vc _ _ hp.2.2, (.p (.agg rfl (fun i hi => by
      rcases i with _ | i
      · exact (Ext.refl _ : Ext _ _)
      rcases i with _ | i
      · exact (Ext.refl _ : Ext _ _)
      rcases i with _ | i
      · exact (Ext.refl _ : Ext _ _)
      rcases i with _ | i
      · exact (Ext.refl _ : Ext _ _)
      rcases i with _ | i
      · exact (Ext.refl _ : Ext _ _)
      rcases i with _ | i
      · exact (Ext.sl hp.1 : Ext _ _)
      rcases i with _ | i
      · exact (Ext.sl hp.2.1 : Ext _ _)
      exact absurd hi (by simp; try omega))) (.same _ .nil)), ⟨show SpecsL Tryz.prog _ from (SpecsL.cons g_wrong_ok g_wrong_en (SpecsL.cons g_reset_ok g_reset_en SpecsL.nil)), rfl, ⟨show ItersL Tryz.prog _ from ItersL.nil, (TrsOk.none (fun _ => rfl))⟩⟩⟩
  · cases hs)
theorem g_Reset_en : Enters Tryz.prog 12 := fun args w => by kernel_rfl
def g_Shows_p (p : L.Piece) (s : L.Setting) : Prop := p.gauges.n ≤ 1000000 ∧ p.marks.n ≤ 1000000
def g_Shows_r (p : L.Piece) (s : L.Setting) : SV := .tup [.int .i64 (L.rsV p s).colour, .int .i64 (L.wrE p s)]
def g_Shows_s : List EV → Option (Prop × SV)
  | [.p (.agg [.int .i64 p_id, .int .i64 p_colour, .int .i64 p_rev, .int .i64 p_made, .int .i64 p_swell, .sl 5 p_gauges_n p_gauges_g, .sl 3 p_marks_n p_marks_g]), .p (.agg [.int .i64 s_shift, .bool s_back])] => some ((∀ i, i < p_gauges_n → p_gauges_g i = [.int .i64 ((ofGauge (p_gauges_g i)).edge.lo), .int .i64 ((ofGauge (p_gauges_g i)).edge.hi), .int .i64 ((ofGauge (p_gauges_g i)).across.lo), .int .i64 ((ofGauge (p_gauges_g i)).across.hi), .int .i64 ((ofGauge (p_gauges_g i)).bend)]) ∧ (∀ i, i < p_marks_n → p_marks_g i = [.int .i64 ((ofMark (p_marks_g i)).edge), .int .i64 ((ofMark (p_marks_g i)).place), .int .i64 ((ofMark (p_marks_g i)).tone)]) ∧ g_Shows_p (⟨p_id, p_colour, p_rev, p_made, p_swell, (⟨p_gauges_n, fun i => ofGauge (p_gauges_g i)⟩ : (L.Sq L.Gauge)), (⟨p_marks_n, fun i => ofMark (p_marks_g i)⟩ : (L.Sq L.Mark))⟩ : L.Piece) (⟨s_shift, s_back⟩ : L.Setting), g_Shows_r (⟨p_id, p_colour, p_rev, p_made, p_swell, (⟨p_gauges_n, fun i => ofGauge (p_gauges_g i)⟩ : (L.Sq L.Gauge)), (⟨p_marks_n, fun i => ofMark (p_marks_g i)⟩ : (L.Sq L.Mark))⟩ : L.Piece) (⟨s_shift, s_back⟩ : L.Setting))
  | _ => none
abbrev g_Shows_S : SE.Spec := (specO g_Shows_s)
def g_Shows_C : Cfg := { muts := [], frz := lookN [], specs := lookS [(61, g_wrong_S)], loops := lookL [], iters := lookI [], rfs := lookR [], nils := lookM [] }
theorem g_Shows_vc (p : L.Piece) (s : L.Setting) (hp : g_Shows_p p s) : vc Tryz.prog (g_Shows_C) (bodyOf Tryz.f14) (st0 Tryz.f14 [.p (.agg [.int .i64 p.id, .int .i64 p.colour, .int .i64 p.rev, .int .i64 p.made, .int .i64 p.swell, .sl 5 p.gauges.n (fun i => [.int .i64 ((p.gauges.g i).edge.lo), .int .i64 ((p.gauges.g i).edge.hi), .int .i64 ((p.gauges.g i).across.lo), .int .i64 ((p.gauges.g i).across.hi), .int .i64 ((p.gauges.g i).bend)]), .sl 3 p.marks.n (fun i => [.int .i64 ((p.marks.g i).edge), .int .i64 ((p.marks.g i).place), .int .i64 ((p.marks.g i).tone)])]), .p (.agg [.int .i64 s.shift, .bool s.back])]) (retFn Tryz.prog Tryz.f14 (g_Shows_r p s)) :=
  @Eq.mpr _ (((∀ (i : Nat), i < p.gauges.n → [SV.int .i64 (p.gauges.g i).edge.lo, SV.int .i64 (p.gauges.g i).edge.hi, SV.int .i64 (p.gauges.g i).across.lo, SV.int .i64 (p.gauges.g i).across.hi, SV.int .i64 (p.gauges.g i).bend] = [SV.int .i64 (p.gauges.g i).edge.lo, SV.int .i64 (p.gauges.g i).edge.hi,
 SV.int .i64 (p.gauges.g i).across.lo, SV.int .i64 (p.gauges.g i).across.hi, SV.int .i64 (p.gauges.g i).bend]) ∧ (∀ (i : Nat), i < p.marks.n → [SV.int .i64 (p.marks.g i).edge, SV.int .i64 (p.marks.g i).place, SV.int .i64 (p.marks.g i).tone] = [SV.int .i64 (p.marks.g i).edge, SV.int
 .i64 (p.marks.g i).place, SV.int .i64 (p.marks.g i).tone]) ∧ p.gauges.n ≤ (1000000 : Nat) ∧ p.marks.n ≤ (1000000 : Nat)) ∧ ((!decide (L.wrE (L.Piece.mk p.id p.colour p.rev p.made p.swell (L.Sq.mk p.gauges.n fun (i : Nat) ↦ p.gauges.g i) (L.Sq.mk p.marks.n fun (i : Nat) ↦ p.marks.g i)) s = (0 : Int))) = true → (0 : Int) = (L.rsV p s).colour ∧ L.wrE
 (L.Piece.mk p.id p.colour p.rev p.made p.swell (L.Sq.mk p.gauges.n fun (i : Nat) ↦ p.gauges.g i) (L.Sq.mk p.marks.n fun (i : Nat) ↦ p.marks.g i)) s = L.wrE p s) ∧ ((!decide (L.wrE (L.Piece.mk p.id p.colour p.rev p.made p.swell (L.Sq.mk p.gauges.n fun (i : Nat) ↦ p.gauges.g i) (L.Sq.mk p.marks.n fun (i : Nat) ↦ p.marks.g i)) s = (0 : Int))) = false → (s.back = true → p.rev =
 (L.rsV p s).colour ∧ (0 : Int) = L.wrE p s) ∧ (s.back = false → p.colour = (L.rsV p s).colour ∧ (0 : Int) = L.wrE p s))) (by kernel_rfl) (by
    refine ⟨⟨fun _ _ => rfl, fun _ _ => rfl, hp.1, hp.2⟩, fun h => ?_, fun h => ?_⟩
    · have hne : L.wrE p s ≠ 0 := of_decide_eq_false (notT h)
      rcases wrE_cases p s with ⟨e, _⟩ | ⟨_, e⟩
      · exact absurd e hne
      · rw [e]; exact ⟨rfl, rfl⟩
    · have h0 : L.wrE p s = 0 := of_decide_eq_true (notF h)
      rcases wrE_cases p s with ⟨_, hv, hs, e⟩ | ⟨hne, _⟩
      · rw [e]
        refine ⟨fun hk => ⟨?_, h0.symm⟩, fun hk => ⟨?_, h0.symm⟩⟩
        · unfold L.rs; rw [hk]; rfl
        · unfold L.rs; rw [hk]; rfl
      · exact absurd h0 hne)
theorem g_Shows_ok : SpecOk Tryz.prog 14 g_Shows_S := fnX Tryz.func14 (c := bodyOf Tryz.f14) (by kernel_rfl) mixed (fun args p r hs hp => by
  unfold g_Shows_s at hs
  split at hs
  · cases hs; exact ⟨_, _, g_Shows_vc _ _ hp.2.2, (.p (.agg rfl (fun i hi => by
      rcases i with _ | i
      · exact (Ext.refl _ : Ext _ _)
      rcases i with _ | i
      · exact (Ext.refl _ : Ext _ _)
      rcases i with _ | i
      · exact (Ext.refl _ : Ext _ _)
      rcases i with _ | i
      · exact (Ext.refl _ : Ext _ _)
      rcases i with _ | i
      · exact (Ext.refl _ : Ext _ _)
      rcases i with _ | i
      · exact (Ext.sl hp.1 : Ext _ _)
      rcases i with _ | i
      · exact (Ext.sl hp.2.1 : Ext _ _)
      exact absurd hi (by simp; try omega))) (.same _ .nil)), ⟨show SpecsL Tryz.prog _ from (SpecsL.cons g_wrong_ok g_wrong_en SpecsL.nil), rfl, ⟨show ItersL Tryz.prog _ from ItersL.nil, (TrsOk.none (fun _ => rfl))⟩⟩⟩
  · cases hs)
theorem g_Shows_en : Enters Tryz.prog 14 := fun args w => by kernel_rfl
def r3_SamePiece_p (p : L.Piece) (q : L.Piece) : Prop := p.gauges.n ≤ 1000000 ∧ p.marks.n ≤ 1000000
def r3_SamePiece_r (p : L.Piece) (q : L.Piece) : SV := .bool (L.samePc p q)
def r3_SamePiece_s : List EV → Option (Prop × SV)
  | [.p (.agg [.int .i64 p_id, .int .i64 p_colour, .int .i64 p_rev, .int .i64 p_made, .int .i64 p_swell, .sl 5 p_gauges_n p_gauges_g, .sl 3 p_marks_n p_marks_g]), .p (.agg [.int .i64 q_id, .int .i64 q_colour, .int .i64 q_rev, .int .i64 q_made, .int .i64 q_swell, .sl 5 q_gauges_n q_gauges_g, .sl 3 q_marks_n q_marks_g])] => some ((∀ i, i < p_gauges_n → p_gauges_g i = [.int .i64 ((ofGauge (p_gauges_g i)).edge.lo), .int .i64 ((ofGauge (p_gauges_g i)).edge.hi), .int .i64 ((ofGauge (p_gauges_g i)).across.lo), .int .i64 ((ofGauge (p_gauges_g i)).across.hi), .int .i64 ((ofGauge (p_gauges_g i)).bend)]) ∧ (∀ i, i < p_marks_n → p_marks_g i = [.int .i64 ((ofMark (p_marks_g i)).edge), .int .i64 ((ofMark (p_marks_g i)).place), .int .i64 ((ofMark (p_marks_g i)).tone)]) ∧ (∀ i, i < q_gauges_n → q_gauges_g i = [.int .i64 ((ofGauge (q_gauges_g i)).edge.lo), .int .i64 ((ofGauge (q_gauges_g i)).edge.hi), .int .i64 ((ofGauge (q_gauges_g i)).across.lo), .int .i64 ((ofGauge (q_gauges_g i)).across.hi), .int .i64 ((ofGauge (q_gauges_g i)).bend)]) ∧ (∀ i, i < q_marks_n → q_marks_g i = [.int .i64 ((ofMark (q_marks_g i)).edge), .int .i64 ((ofMark (q_marks_g i)).place), .int .i64 ((ofMark (q_marks_g i)).tone)]) ∧ r3_SamePiece_p (⟨p_id, p_colour, p_rev, p_made, p_swell, (⟨p_gauges_n, fun i => ofGauge (p_gauges_g i)⟩ : (L.Sq L.Gauge)), (⟨p_marks_n, fun i => ofMark (p_marks_g i)⟩ : (L.Sq L.Mark))⟩ : L.Piece) (⟨q_id, q_colour, q_rev, q_made, q_swell, (⟨q_gauges_n, fun i => ofGauge (q_gauges_g i)⟩ : (L.Sq L.Gauge)), (⟨q_marks_n, fun i => ofMark (q_marks_g i)⟩ : (L.Sq L.Mark))⟩ : L.Piece), r3_SamePiece_r (⟨p_id, p_colour, p_rev, p_made, p_swell, (⟨p_gauges_n, fun i => ofGauge (p_gauges_g i)⟩ : (L.Sq L.Gauge)), (⟨p_marks_n, fun i => ofMark (p_marks_g i)⟩ : (L.Sq L.Mark))⟩ : L.Piece) (⟨q_id, q_colour, q_rev, q_made, q_swell, (⟨q_gauges_n, fun i => ofGauge (q_gauges_g i)⟩ : (L.Sq L.Gauge)), (⟨q_marks_n, fun i => ofMark (q_marks_g i)⟩ : (L.Sq L.Mark))⟩ : L.Piece))
  | _ => none
abbrev r3_SamePiece_S : SE.Spec := (specO r3_SamePiece_s)
def r3_SamePiece_C : Cfg := { muts := [], frz := lookN [], specs := lookS [(64, r3_SameGauges_S), (19, r3_SameMarks_S)], loops := lookL [], iters := lookI [], rfs := lookR [], nils := lookM [] }
theorem r3_SamePiece_vc (p : L.Piece) (q : L.Piece) (hp : r3_SamePiece_p p q) : vc Tryz.prog (r3_SamePiece_C) (bodyOf Tryz.f18) (st0 Tryz.f18 [.p (.agg [.int .i64 p.id, .int .i64 p.colour, .int .i64 p.rev, .int .i64 p.made, .int .i64 p.swell, .sl 5 p.gauges.n (fun i => [.int .i64 ((p.gauges.g i).edge.lo), .int .i64 ((p.gauges.g i).edge.hi), .int .i64 ((p.gauges.g i).across.lo), .int .i64 ((p.gauges.g i).across.hi), .int .i64 ((p.gauges.g i).bend)]), .sl 3 p.marks.n (fun i => [.int .i64 ((p.marks.g i).edge), .int .i64 ((p.marks.g i).place), .int .i64 ((p.marks.g i).tone)])]), .p (.agg [.int .i64 q.id, .int .i64 q.colour, .int .i64 q.rev, .int .i64 q.made, .int .i64 q.swell, .sl 5 q.gauges.n (fun i => [.int .i64 ((q.gauges.g i).edge.lo), .int .i64 ((q.gauges.g i).edge.hi), .int .i64 ((q.gauges.g i).across.lo), .int .i64 ((q.gauges.g i).across.hi), .int .i64 ((q.gauges.g i).bend)]), .sl 3 q.marks.n (fun i => [.int .i64 ((q.marks.g i).edge), .int .i64 ((q.marks.g i).place), .int .i64 ((q.marks.g i).tone)])])]) (retFn Tryz.prog Tryz.f18 (r3_SamePiece_r p q)) :=
  @Eq.mpr _ (((bif bif bif bif decide (p.id = q.id) then decide (p.colour = q.colour) else false then decide (p.rev = q.rev) else false then decide (p.made = q.made) else false then decide (p.swell = q.swell) else false) = true → (∀ (i : Nat), i < p.gauges.n → [SV.int .i64 (p.gauges.g i).edge.lo, SV.int
 .i64 (p.gauges.g i).edge.hi, SV.int .i64 (p.gauges.g i).across.lo, SV.int .i64 (p.gauges.g i).across.hi, SV.int .i64 (p.gauges.g i).bend] = [SV.int .i64 (p.gauges.g i).edge.lo, SV.int .i64 (p.gauges.g i).edge.hi, SV.int .i64 (p.gauges.g i).across.lo, SV.int .i64 (p.gauges.g
 i).across.hi, SV.int .i64 (p.gauges.g i).bend]) ∧ (∀ (i : Nat), i < q.gauges.n → [SV.int .i64 (q.gauges.g i).edge.lo, SV.int .i64 (q.gauges.g i).edge.hi, SV.int .i64 (q.gauges.g i).across.lo, SV.int .i64 (q.gauges.g i).across.hi, SV.int .i64 (q.gauges.g i).bend] = [SV.int .i64
 (q.gauges.g i).edge.lo, SV.int .i64 (q.gauges.g i).edge.hi, SV.int .i64 (q.gauges.g i).across.lo, SV.int .i64 (q.gauges.g i).across.hi, SV.int .i64 (q.gauges.g i).bend]) ∧ p.gauges.n ≤ (1000000 : Nat)) ∧ ((bif bif bif bif bif decide (p.id = q.id) then decide (p.colour = q.colour) else false then
 decide (p.rev = q.rev) else false then decide (p.made = q.made) else false then decide (p.swell = q.swell) else false then L.sameGs (L.Sq.mk p.gauges.n fun (i : Nat) ↦ p.gauges.g i) (L.Sq.mk q.gauges.n fun (i : Nat) ↦ q.gauges.g i) else false) = true → (∀ (i : Nat), i < p.marks.n → [SV.int .i64 (p.marks.g i).edge, SV.int
 .i64 (p.marks.g i).place, SV.int .i64 (p.marks.g i).tone] = [SV.int .i64 (p.marks.g i).edge, SV.int .i64 (p.marks.g i).place, SV.int .i64 (p.marks.g i).tone]) ∧ (∀ (i : Nat), i < q.marks.n → [SV.int .i64 (q.marks.g i).edge, SV.int .i64 (q.marks.g i).place, SV.int .i64
 (q.marks.g i).tone] = [SV.int .i64 (q.marks.g i).edge, SV.int .i64 (q.marks.g i).place, SV.int .i64 (q.marks.g i).tone]) ∧ p.marks.n ≤ (1000000 : Nat)) ∧ (bif bif bif bif bif bif decide (p.id = q.id) then decide (p.colour = q.colour) else false then decide (p.rev = q.rev) else false then decide
 (p.made = q.made) else false then decide (p.swell = q.swell) else false then L.sameGs (L.Sq.mk p.gauges.n fun (i : Nat) ↦ p.gauges.g i) (L.Sq.mk q.gauges.n fun (i : Nat) ↦ q.gauges.g i) else false then L.sameMs (L.Sq.mk p.marks.n fun (i : Nat) ↦ p.marks.g i) (L.Sq.mk q.marks.n fun (i : Nat) ↦ q.marks.g i) else false) = L.samePc p q) (by kernel_rfl) (by
    exact ⟨fun _ => ⟨fun _ _ => rfl, fun _ _ => rfl, hp.1⟩, fun _ => ⟨fun _ _ => rfl, fun _ _ => rfl, hp.2⟩, rfl⟩)
theorem r3_SamePiece_ok : SpecOk Tryz.prog 18 r3_SamePiece_S := fnX Tryz.func18 (c := bodyOf Tryz.f18) (by kernel_rfl) mixed (fun args p r hs hp => by
  unfold r3_SamePiece_s at hs
  split at hs
  · cases hs; exact ⟨_, _, r3_SamePiece_vc _ _ hp.2.2.2.2, (.p (.agg rfl (fun i hi => by
      rcases i with _ | i
      · exact (Ext.refl _ : Ext _ _)
      rcases i with _ | i
      · exact (Ext.refl _ : Ext _ _)
      rcases i with _ | i
      · exact (Ext.refl _ : Ext _ _)
      rcases i with _ | i
      · exact (Ext.refl _ : Ext _ _)
      rcases i with _ | i
      · exact (Ext.refl _ : Ext _ _)
      rcases i with _ | i
      · exact (Ext.sl hp.1 : Ext _ _)
      rcases i with _ | i
      · exact (Ext.sl hp.2.1 : Ext _ _)
      exact absurd hi (by simp; try omega))) (.p (.agg rfl (fun i hi => by
      rcases i with _ | i
      · exact (Ext.refl _ : Ext _ _)
      rcases i with _ | i
      · exact (Ext.refl _ : Ext _ _)
      rcases i with _ | i
      · exact (Ext.refl _ : Ext _ _)
      rcases i with _ | i
      · exact (Ext.refl _ : Ext _ _)
      rcases i with _ | i
      · exact (Ext.refl _ : Ext _ _)
      rcases i with _ | i
      · exact (Ext.sl hp.2.2.1 : Ext _ _)
      rcases i with _ | i
      · exact (Ext.sl hp.2.2.2.1 : Ext _ _)
      exact absurd hi (by simp; try omega))) .nil)), ⟨show SpecsL Tryz.prog _ from (SpecsL.cons r3_SameGauges_ok r3_SameGauges_en (SpecsL.cons r3_SameMarks_ok r3_SameMarks_en SpecsL.nil)), rfl, ⟨show ItersL Tryz.prog _ from ItersL.nil, (TrsOk.none (fun _ => rfl))⟩⟩⟩
  · cases hs)
theorem r3_SamePiece_en : Enters Tryz.prog 18 := fun args w => by kernel_rfl
end Go.Proofs.YtooapgllahonaaaGreat

namespace Go.Proofs.YtooapgllahonaaaGreat
open Go.SE Go.RowKit
set_option maxRecDepth 100000
set_option maxHeartbeats 4000000
set_option linter.unusedVariables false
attribute [local irreducible] vc

def L.ix (n : Nat) (i : Int) : Nat := (Int.tmod (Int.tmod i (n : Int) + (n : Int)) (n : Int)).toNat
theorem tmod_add {m n : Int} (h0 : 0 ≤ m) (h1 : m < n) : Int.tmod (m + n) n = m := by
  rw [Int.tmod_eq_emod_of_nonneg (by omega), Int.add_emod_right, Int.emod_eq_of_lt h0 h1]
theorem ix_self {n k : Nat} (h : k < n) : L.ix n (k : Int) = k := by
  unfold L.ix
  rw [Int.tmod_eq_of_lt (show 0 ≤ (k : Int) by omega) (show (k : Int) < n by omega), tmod_add (by omega) (by omega)]
  omega
theorem ix_next {n k : Nat} (h : k < n) : L.ix n ((k : Int) + 1) = L.next n k := by
  unfold L.ix L.next
  by_cases e : k + 1 < n
  · rw [Int.tmod_eq_of_lt (show 0 ≤ (k : Int) + 1 by omega) (show (k : Int) + 1 < n by omega), tmod_add (by omega) (by omega)]
  · rw [show (k : Int) + 1 = (n : Int) by omega, Int.tmod_self, Int.zero_add, Int.tmod_self]
theorem ix_prev {n k : Nat} (h : k < n) : L.ix n ((k : Int) - 1) = L.prev n k := by
  unfold L.ix L.prev
  by_cases e : 1 ≤ k
  · rw [Int.tmod_eq_of_lt (show 0 ≤ (k : Int) - 1 by omega) (show (k : Int) - 1 < n by omega), show (k : Int) + (n : Int) - 1 = (k : Int) - 1 + n by omega]
  · obtain rfl : k = 0 := by omega
    by_cases e1 : n = 1
    · subst e1; rfl
    · rw [show ((0 : Nat) : Int) - 1 = -(1 : Int) by omega, Int.neg_tmod, Int.tmod_eq_of_lt (show 0 ≤ (1 : Int) by omega) (show (1 : Int) < n by omega), show -(1 : Int) + (n : Int) = ((0 : Nat) : Int) + (n : Int) - 1 by omega]
theorem ix_bd {n : Nat} {i : Int} (h : 0 < n) : 0 ≤ Int.tmod i (n : Int) + (n : Int) ∧ Int.tmod i (n : Int) + (n : Int) ≤ 2 * (n : Int) ∧ 0 ≤ Int.tmod (Int.tmod i (n : Int) + (n : Int)) (n : Int) ∧ Int.tmod (Int.tmod i (n : Int) + (n : Int)) (n : Int) < (n : Int) := by
  have h1 := Int.lt_tmod_of_pos i (show 0 < (n : Int) by omega)
  have h2 := Int.tmod_lt_of_pos i (show 0 < (n : Int) by omega)
  exact ⟨by omega, by omega, Int.tmod_nonneg _ (by omega), Int.tmod_lt_of_pos _ (by omega)⟩
theorem ix_lt {n : Nat} {i : Int} (h : 0 < n) : L.ix n i < n := by
  have := ix_bd (i := i) h
  unfold L.ix; omega
theorem cmpPt_neg {a b : L.Pt} : decide (L.cmpPt a b < 0) = (bif decide (a.x < b.x) then true else bif decide (a.x = b.x) then decide (a.y < b.y) else false) := by
  unfold L.cmpPt L.or2 L.cmp
  rcases Int.lt_trichotomy a.x b.x with h1 | h1 | h1 <;> rcases Int.lt_trichotomy a.y b.y with h2 | h2 | h2 <;> grind
theorem ix_emod {n : Nat} {a : Int} (h : 0 < n) : ((L.ix n a : Nat) : Int) = a % (n : Int) := by
  obtain ⟨q1, q2, q3, q4⟩ := ix_bd (i := a) h
  unfold L.ix
  rw [Int.toNat_of_nonneg q3, Int.tmod_eq_emod_of_nonneg q1, Int.add_emod_right]
  have := Int.tmod_add_mul_tdiv a (n : Int)
  conv => rhs; rw [← this]
  rw [Int.add_mul_emod_self_left]
theorem ix_congr {n : Nat} {a b : Int} (hn : 0 < n) (h : a % (n : Int) = b % (n : Int)) (c : Int) : L.ix n (a + c) = L.ix n (b + c) := by
  have h1 := ix_emod (a := a + c) hn
  have h2 := ix_emod (a := b + c) hn
  rw [← Int.emod_add_emod, h, Int.emod_add_emod] at h1
  omega
theorem ix_ix {n : Nat} {a : Int} (hn : 0 < n) (c : Int) : L.ix n (((L.ix n a : Nat) : Int) + c) = L.ix n (a + c) :=
  ix_congr hn (by rw [ix_emod hn, Int.emod_emod]) c
theorem outline_all {l : L.Sq L.Pt} (hv : L.validOutline l = true) : (∀ i, i < l.n → L.validPt (l.g i) = true) ∧ ∀ i, i < l.n → L.cross (l.g (L.prev l.n i)) (l.g i) (l.g (L.next l.n i)) ≠ 0 := by
  unfold L.validOutline at hv
  rw [Bool.and_eq_true, Bool.and_eq_true] at hv
  constructor
  · have h := hv.1
    unfold L.valid3 at h
    cases h2 : L.validPts l with
    | true => exact allB_iff.1 h2
    | false =>
      rw [h2] at h
      revert h
      cases L.within (l.n : Int) 3 24 <;> intro h <;> cases h
  · intro i hi e
    have h := allB_iff.1 hv.2.1 i hi
    unfold L.corner at h
    rw [decide_eq_true e] at h
    cases h
def r1_ValidPoint_p (p : L.Pt) : Prop := True
def r1_ValidPoint_r (p : L.Pt) : SV := .bool (L.validPt p)
def r1_ValidPoint_s : List EV → Option (Prop × SV)
  | [.p (.agg [.int .i64 p_x, .int .i64 p_y])] => some (r1_ValidPoint_p (⟨p_x, p_y⟩ : L.Pt), r1_ValidPoint_r (⟨p_x, p_y⟩ : L.Pt))
  | _ => none
abbrev r1_ValidPoint_S : SE.Spec := (specO r1_ValidPoint_s)
def r1_ValidPoint_C : Cfg := { muts := [], frz := lookN [], specs := lookS [], loops := lookL [], iters := lookI [], rfs := lookR [], nils := lookM [] }
theorem r1_ValidPoint_vc (p : L.Pt) (hp : r1_ValidPoint_p p) : vc Tryz.prog (r1_ValidPoint_C) (bodyOf Tryz.f147) (st0 Tryz.f147 [.p (.agg [.int .i64 p.x, .int .i64 p.y])]) (retFn Tryz.prog Tryz.f147 (r1_ValidPoint_r p)) :=
  @Eq.mpr _ ((bif bif bif decide ((0 : Int) ≤ p.x) then decide (p.x ≤ (4096 : Int)) else false then decide ((0 : Int) ≤ p.y) else false then decide (p.y ≤ (4096 : Int)) else false) = L.validPt p) (by kernel_rfl) (by
    unfold L.validPt L.within
    rw [band, band, band]
    cases decide (0 ≤ p.x) <;> cases decide (p.x ≤ 4096) <;> cases decide (0 ≤ p.y) <;> cases decide (p.y ≤ 4096) <;> rfl)
theorem r1_ValidPoint_ok : SpecOk Tryz.prog 147 r1_ValidPoint_S := fnX Tryz.func147 (c := bodyOf Tryz.f147) (by kernel_rfl) mixed (fun args p r hs hp => by
  unfold r1_ValidPoint_s at hs
  split at hs
  · cases hs; exact ⟨_, _, r1_ValidPoint_vc _ hp, (.same _ .nil), ⟨show SpecsL Tryz.prog _ from SpecsL.nil, rfl, ⟨show ItersL Tryz.prog _ from ItersL.nil, (TrsOk.none (fun _ => rfl))⟩⟩⟩
  · cases hs)
theorem r1_ValidPoint_en : Enters Tryz.prog 147 := fun args w => by kernel_rfl
def r1_points_p (l : (L.Sq L.Pt)) : Prop := l.n ≤ 1000000
def r1_points_r (l : (L.Sq L.Pt)) : SV := .bool (L.validPts l)
def r1_points_s : List EV → Option (Prop × SV)
  | [.p (.sl 2 l_n l_g)] => some ((∀ i, i < l_n → l_g i = [.int .i64 ((ofPt (l_g i)).x), .int .i64 ((ofPt (l_g i)).y)]) ∧ r1_points_p (⟨l_n, fun i => ofPt (l_g i)⟩ : (L.Sq L.Pt)), r1_points_r (⟨l_n, fun i => ofPt (l_g i)⟩ : (L.Sq L.Pt)))
  | _ => none
abbrev r1_points_S : SE.Spec := (specO r1_points_s)
def r1_points_C : Cfg := { muts := [], frz := lookN [], specs := lookS [(147, r1_ValidPoint_S)], loops := fun _ => none, iters := lookI [], rfs := lookR [], nils := lookM [] }
theorem r1_points_vc (l : (L.Sq L.Pt)) (hp : r1_points_p l) : vc Tryz.prog ({ r1_points_C with loops := lookL [(2, { T := Nat, keep := [0], keepO := [], chg := fun i => [(3, .p (.int .i64 (i : Int)))], own := fun _ => [], inv := fun i => i ≤ l.n ∧ ∀ j, j < i → L.validPt (l.g j) = true, mu := fun i => l.n - i })], rfs := lookR [] }) (bodyOf Tryz.f74) (st0 Tryz.f74 [.p (.sl 2 l.n (fun i => [.int .i64 ((l.g i).x), .int .i64 ((l.g i).y)]))]) (retFn Tryz.prog Tryz.f74 (r1_points_r l)) :=
  @Eq.mpr _ ((∃ (g : Nat), (0 : Int) = (↑g : Int) ∧ g ≤ l.n ∧ ∀ (j : Nat), j < g → L.validPt (l.g j) = true) ∧ ∀ (g : Nat), (g ≤ l.n ∧ ∀ (j : Nat), j < g → L.validPt (l.g j) = true) → (decide ((↑g : Int) < (↑l.n : Int)) = true → ((0 : Int) ≤ (↑g : Int) ∧ (↑g : Int) < (↑l.n : Int)) ∧ True ∧ ((!L.validPt (l.g (Int.toNat (↑g : Int)))) = true → false = L.validPts l) ∧
 ((!L.validPt (l.g (Int.toNat (↑g : Int)))) = false → InK .i64 ((↑g : Int) + (1 : Int)) ∧ ∃ (g' : Nat), (↑g : Int) + (1 : Int) = (↑g' : Int) ∧ (l.n = l.n ∧ ∀ (i : Nat), i < l.n → [SV.int .i64 (l.g i).x, SV.int .i64 (l.g i).y] = [SV.int .i64 (l.g i).x, SV.int .i64 (l.g i).y]) ∧ (g' ≤ l.n ∧ ∀ (j : Nat), j < g' →
 L.validPt (l.g j) = true) ∧ l.n - g' < l.n - g)) ∧ (decide ((↑g : Int) < (↑l.n : Int)) = false → true = L.validPts l)) (by kernel_rfl) (by
    have hn : l.n ≤ 1000000 := hp
    refine ⟨⟨(0 : Nat), rfl, Nat.zero_le _, fun j hj => absurd hj (Nat.not_lt_zero _)⟩, fun g hg => ⟨fun hlt => ?_, fun hge => ?_⟩⟩
    · have hb : (g : Int) < (l.n : Int) := of_decide_eq_true hlt
      have e0 : ((g : Int)).toNat = g := by omega
      rw [e0]
      refine ⟨by omega, trivial, fun h1 => ?_, fun h1 => ?_⟩
      · unfold L.validPts; rw [allB_false (i := g) (by omega) (notT h1)]
      · exact ⟨InK.of (by omega) (by omega), g + 1, by omega, ⟨rfl, fun _ _ => rfl⟩, ⟨by omega, fun j hj => by
          rcases Nat.lt_succ_iff_lt_or_eq.1 hj with h' | rfl
          · exact hg.2 j h'
          · exact notF h1⟩, by omega⟩
    · have hb : ¬ (g : Int) < (l.n : Int) := of_decide_eq_false hge
      exact (allB_iff.2 (fun i hi => hg.2 i (by omega))).symm)
theorem r1_points_ok : SpecOk Tryz.prog 74 r1_points_S := fnX Tryz.func74 (c := bodyOf Tryz.f74) (by kernel_rfl) mixed (fun args p r hs hp => by
  unfold r1_points_s at hs
  split at hs
  · cases hs; exact ⟨_, _, r1_points_vc _ hp.2, (.p (.sl hp.1) .nil), ⟨show SpecsL Tryz.prog _ from (SpecsL.cons r1_ValidPoint_ok r1_ValidPoint_en SpecsL.nil), rfl, ⟨show ItersL Tryz.prog _ from ItersL.nil, (TrsOk.none (fun _ => rfl))⟩⟩⟩
  · cases hs)
theorem r1_points_en : Enters Tryz.prog 74 := fun args w => by kernel_rfl
def r1_Cross_p (a : L.Pt) (b : L.Pt) (c : L.Pt) : Prop := L.bd a ∧ L.bd b ∧ L.bd c
def r1_Cross_r (a : L.Pt) (b : L.Pt) (c : L.Pt) : SV := .int .i64 (L.cross a b c)
def r1_Cross_s : List EV → Option (Prop × SV)
  | [.p (.agg [.int .i64 a_x, .int .i64 a_y]), .p (.agg [.int .i64 b_x, .int .i64 b_y]), .p (.agg [.int .i64 c_x, .int .i64 c_y])] => some (r1_Cross_p (⟨a_x, a_y⟩ : L.Pt) (⟨b_x, b_y⟩ : L.Pt) (⟨c_x, c_y⟩ : L.Pt), r1_Cross_r (⟨a_x, a_y⟩ : L.Pt) (⟨b_x, b_y⟩ : L.Pt) (⟨c_x, c_y⟩ : L.Pt))
  | _ => none
abbrev r1_Cross_S : SE.Spec := (specO r1_Cross_s)
def r1_Cross_C : Cfg := { muts := [], frz := lookN [], specs := lookS [], loops := lookL [], iters := lookI [], rfs := lookR [], nils := lookM [] }
theorem r1_Cross_vc (a : L.Pt) (b : L.Pt) (c : L.Pt) (hp : r1_Cross_p a b c) : vc Tryz.prog (r1_Cross_C) (bodyOf Tryz.f93) (st0 Tryz.f93 [.p (.agg [.int .i64 a.x, .int .i64 a.y]), .p (.agg [.int .i64 b.x, .int .i64 b.y]), .p (.agg [.int .i64 c.x, .int .i64 c.y])]) (retFn Tryz.prog Tryz.f93 (r1_Cross_r a b c)) :=
  @Eq.mpr _ (InK .i64 (b.x - a.x) ∧ InK .i64 (c.y - a.y) ∧ InK .i64 ((b.x - a.x) * (c.y - a.y)) ∧ InK .i64 (b.y - a.y) ∧ InK .i64 (c.x - a.x) ∧ InK .i64 ((b.y - a.y) * (c.x - a.x)) ∧ InK .i64 ((b.x - a.x) * (c.y - a.y) - (b.y - a.y) * (c.x - a.x)) ∧ (b.x - a.x) * (c.y - a.y) - (b.y - a.y) * (c.x -
 a.x) = L.cross a b c) (by kernel_rfl) (by
    obtain ⟨h1, h2, h3⟩ := hp
    unfold L.bd at h1 h2 h3
    have m1 := mul_bd (a := b.x - a.x) (b := c.y - a.y) (m := 8000000) (n := 8000000) (by omega) (by omega) (by omega) (by omega)
    have m2 := mul_bd (a := b.y - a.y) (b := c.x - a.x) (m := 8000000) (n := 8000000) (by omega) (by omega) (by omega) (by omega)
    exact ⟨InK.of (by omega) (by omega), InK.of (by omega) (by omega), InK.of (by omega) (by omega), InK.of (by omega) (by omega), InK.of (by omega) (by omega), InK.of (by omega) (by omega), InK.of (by omega) (by omega), rfl⟩)
theorem r1_Cross_ok : SpecOk Tryz.prog 93 r1_Cross_S := fnX Tryz.func93 (c := bodyOf Tryz.f93) (by kernel_rfl) mixed (fun args p r hs hp => by
  unfold r1_Cross_s at hs
  split at hs
  · cases hs; exact ⟨_, _, r1_Cross_vc _ _ _ hp, (.same _ (.same _ (.same _ .nil))), ⟨show SpecsL Tryz.prog _ from SpecsL.nil, rfl, ⟨show ItersL Tryz.prog _ from ItersL.nil, (TrsOk.none (fun _ => rfl))⟩⟩⟩
  · cases hs)
theorem r1_Cross_en : Enters Tryz.prog 93 := fun args w => by kernel_rfl
def r1_less_p (a : L.Pt) (b : L.Pt) : Prop := True
def r1_less_r (a : L.Pt) (b : L.Pt) : SV := .bool (decide (L.cmpPt a b < 0))
def r1_less_s : List EV → Option (Prop × SV)
  | [.p (.agg [.int .i64 a_x, .int .i64 a_y]), .p (.agg [.int .i64 b_x, .int .i64 b_y])] => some (r1_less_p (⟨a_x, a_y⟩ : L.Pt) (⟨b_x, b_y⟩ : L.Pt), r1_less_r (⟨a_x, a_y⟩ : L.Pt) (⟨b_x, b_y⟩ : L.Pt))
  | _ => none
abbrev r1_less_S : SE.Spec := (specO r1_less_s)
def r1_less_C : Cfg := { muts := [], frz := lookN [], specs := lookS [], loops := lookL [], iters := lookI [], rfs := lookR [], nils := lookM [] }
theorem r1_less_vc (a : L.Pt) (b : L.Pt) (hp : r1_less_p a b) : vc Tryz.prog (r1_less_C) (bodyOf Tryz.f92) (st0 Tryz.f92 [.p (.agg [.int .i64 a.x, .int .i64 a.y]), .p (.agg [.int .i64 b.x, .int .i64 b.y])]) (retFn Tryz.prog Tryz.f92 (r1_less_r a b)) :=
  @Eq.mpr _ ((bif decide (a.x < b.x) then true else bif decide (a.x = b.x) then decide (a.y < b.y) else false) = decide (L.cmpPt a b < (0 : Int))) (by kernel_rfl) (by
    exact cmpPt_neg.symm)
theorem r1_less_ok : SpecOk Tryz.prog 92 r1_less_S := fnX Tryz.func92 (c := bodyOf Tryz.f92) (by kernel_rfl) mixed (fun args p r hs hp => by
  unfold r1_less_s at hs
  split at hs
  · cases hs; exact ⟨_, _, r1_less_vc _ _ hp, (.same _ (.same _ .nil)), ⟨show SpecsL Tryz.prog _ from SpecsL.nil, rfl, ⟨show ItersL Tryz.prog _ from ItersL.nil, (TrsOk.none (fun _ => rfl))⟩⟩⟩
  · cases hs)
theorem r1_less_en : Enters Tryz.prog 92 := fun args w => by kernel_rfl
def r1_On_p (a : L.Pt) (b : L.Pt) (p : L.Pt) : Prop := L.bd a ∧ L.bd b ∧ L.bd p
def r1_On_r (a : L.Pt) (b : L.Pt) (p : L.Pt) : SV := .bool (L.on a b p)
def r1_On_s : List EV → Option (Prop × SV)
  | [.p (.agg [.int .i64 a_x, .int .i64 a_y]), .p (.agg [.int .i64 b_x, .int .i64 b_y]), .p (.agg [.int .i64 p_x, .int .i64 p_y])] => some (r1_On_p (⟨a_x, a_y⟩ : L.Pt) (⟨b_x, b_y⟩ : L.Pt) (⟨p_x, p_y⟩ : L.Pt), r1_On_r (⟨a_x, a_y⟩ : L.Pt) (⟨b_x, b_y⟩ : L.Pt) (⟨p_x, p_y⟩ : L.Pt))
  | _ => none
abbrev r1_On_S : SE.Spec := (specO r1_On_s)
def r1_On_C : Cfg := { muts := [], frz := lookN [], specs := lookS [(93, r1_Cross_S)], loops := lookL [], iters := lookI [], rfs := lookR [], nils := lookM [] }
theorem r1_On_vc (a : L.Pt) (b : L.Pt) (p : L.Pt) (hp : r1_On_p a b p) : vc Tryz.prog (r1_On_C) (bodyOf Tryz.f190) (st0 Tryz.f190 [.p (.agg [.int .i64 a.x, .int .i64 a.y]), .p (.agg [.int .i64 b.x, .int .i64 b.y]), .p (.agg [.int .i64 p.x, .int .i64 p.y])]) (retFn Tryz.prog Tryz.f190 (r1_On_r a b p)) :=
  @Eq.mpr _ ((L.bd a ∧ L.bd b ∧ L.bd p) ∧ (bif bif bif bif decide (L.cross a b p = (0 : Int)) then decide (Min.min a.x b.x ≤ p.x) else false then decide (p.x ≤ Max.max a.x b.x) else false then decide (Min.min a.y b.y ≤ p.y) else false then decide (p.y ≤ Max.max a.y b.y) else false) = L.on a b p) (by kernel_rfl) (by
    obtain ⟨h1, h2, h3⟩ := hp
    refine ⟨⟨h1, h2, h3⟩, ?_⟩
    unfold L.on L.within
    rw [band, band, band, band]
    cases decide (L.cross a b p = 0) <;> cases decide (min a.x b.x ≤ p.x) <;> cases decide (p.x ≤ max a.x b.x) <;> cases decide (min a.y b.y ≤ p.y) <;> cases decide (p.y ≤ max a.y b.y) <;> rfl)
theorem r1_On_ok : SpecOk Tryz.prog 190 r1_On_S := fnX Tryz.func190 (c := bodyOf Tryz.f190) (by kernel_rfl) mixed (fun args p r hs hp => by
  unfold r1_On_s at hs
  split at hs
  · cases hs; exact ⟨_, _, r1_On_vc _ _ _ hp, (.same _ (.same _ (.same _ .nil))), ⟨show SpecsL Tryz.prog _ from (SpecsL.cons r1_Cross_ok r1_Cross_en SpecsL.nil), rfl, ⟨show ItersL Tryz.prog _ from ItersL.nil, (TrsOk.none (fun _ => rfl))⟩⟩⟩
  · cases hs)
theorem r1_On_en : Enters Tryz.prog 190 := fun args w => by kernel_rfl
def r1_sign_p (n : Int) : Prop := True
def r1_sign_r (n : Int) : SV := .int .i64 (L.cmp n 0)
def r1_sign_s : List EV → Option (Prop × SV)
  | [.p (.int .i64 n)] => some (r1_sign_p n, r1_sign_r n)
  | _ => none
abbrev r1_sign_S : SE.Spec := (specO r1_sign_s)
def r1_sign_C : Cfg := { muts := [], frz := lookN [], specs := lookS [], loops := lookL [], iters := lookI [], rfs := lookR [], nils := lookM [] }
theorem r1_sign_vc (n : Int) (hp : r1_sign_p n) : vc Tryz.prog (r1_sign_C) (bodyOf Tryz.f95) (st0 Tryz.f95 [.p (.int .i64 n)]) (retFn Tryz.prog Tryz.f95 (r1_sign_r n)) :=
  @Eq.mpr _ ((decide ((0 : Int) < n) = true → (1 : Int) = L.cmp n (0 : Int)) ∧ (decide ((0 : Int) < n) = false → (decide (n < (0 : Int)) = true → (-1 : Int) = L.cmp n (0 : Int)) ∧ (decide (n < (0 : Int)) = false → (0 : Int) = L.cmp n (0 : Int)))) (by kernel_rfl) (by
    refine ⟨fun h => ?_, fun h => ⟨fun h1 => ?_, fun h1 => ?_⟩⟩
    · have h := of_decide_eq_true h
      unfold L.cmp; rw [decide_eq_false (by omega), decide_eq_true h]; rfl
    · have h1 := of_decide_eq_true h1
      unfold L.cmp; rw [decide_eq_true h1]; rfl
    · unfold L.cmp; rw [h1, h]; rfl)
theorem r1_sign_ok : SpecOk Tryz.prog 95 r1_sign_S := fnX Tryz.func95 (c := bodyOf Tryz.f95) (by kernel_rfl) mixed (fun args p r hs hp => by
  unfold r1_sign_s at hs
  split at hs
  · cases hs; exact ⟨_, _, r1_sign_vc _ hp, (.same _ .nil), ⟨show SpecsL Tryz.prog _ from SpecsL.nil, rfl, ⟨show ItersL Tryz.prog _ from ItersL.nil, (TrsOk.none (fun _ => rfl))⟩⟩⟩
  · cases hs)
theorem r1_sign_en : Enters Tryz.prog 95 := fun args w => by kernel_rfl
def r1_at_p (l : (L.Sq L.Pt)) (i : Int) : Prop := 1 ≤ l.n ∧ l.n ≤ 1000000 ∧ -1000000 ≤ i ∧ i ≤ 1000000
def r1_at_r (l : (L.Sq L.Pt)) (i : Int) : SV := (.agg [.int .i64 ((l.g (L.ix l.n i)).x), .int .i64 ((l.g (L.ix l.n i)).y)])
def r1_at_s : List EV → Option (Prop × SV)
  | [.p (.sl 2 l_n l_g), .p (.int .i64 i)] => some ((∀ i, i < l_n → l_g i = [.int .i64 ((ofPt (l_g i)).x), .int .i64 ((ofPt (l_g i)).y)]) ∧ r1_at_p (⟨l_n, fun i => ofPt (l_g i)⟩ : (L.Sq L.Pt)) i, r1_at_r (⟨l_n, fun i => ofPt (l_g i)⟩ : (L.Sq L.Pt)) i)
  | _ => none
abbrev r1_at_S : SE.Spec := (specO r1_at_s)
def r1_at_C : Cfg := { muts := [], frz := lookN [], specs := lookS [], loops := lookL [], iters := lookI [], rfs := lookR [], nils := lookM [] }
theorem r1_at_vc (l : (L.Sq L.Pt)) (i : Int) (hp : r1_at_p l i) : vc Tryz.prog (r1_at_C) (bodyOf Tryz.f76) (st0 Tryz.f76 [.p (.sl 2 l.n (fun i => [.int .i64 ((l.g i).x), .int .i64 ((l.g i).y)])), .p (.int .i64 i)]) (retFn Tryz.prog Tryz.f76 (r1_at_r l i)) :=
  @Eq.mpr _ ((↑l.n : Int) ≠ (0 : Int) ∧ InK .i64 (Int.tmod i (↑l.n : Int) + (↑l.n : Int)) ∧ (↑l.n : Int) ≠ (0 : Int) ∧ ((0 : Int) ≤ Int.tmod (Int.tmod i (↑l.n : Int) + (↑l.n : Int)) (↑l.n : Int) ∧ Int.tmod (Int.tmod i (↑l.n : Int) + (↑l.n : Int)) (↑l.n : Int) < (↑l.n : Int)) ∧ SV.agg [SV.int .i64 (l.g (Int.toNat (Int.tmod (Int.tmod i (↑l.n : Int) + (↑l.n : Int)) (↑l.n :
 Int)))).x, SV.int .i64 (l.g (Int.toNat (Int.tmod (Int.tmod i (↑l.n : Int) + (↑l.n : Int)) (↑l.n : Int)))).y] = SV.agg [SV.int .i64 (l.g (L.ix l.n i)).x, SV.int .i64 (l.g (L.ix l.n i)).y]) (by kernel_rfl) (by
    obtain ⟨h1, h2, h3, h4⟩ := hp
    obtain ⟨q1, q2, q3, q4⟩ := ix_bd (n := l.n) (i := i) (by omega)
    exact ⟨by omega, InK.of (by omega) (by omega), by omega, ⟨q3, q4⟩, rfl⟩)
theorem r1_at_ok : SpecOk Tryz.prog 76 r1_at_S := fnX Tryz.func76 (c := bodyOf Tryz.f76) (by kernel_rfl) mixed (fun args p r hs hp => by
  unfold r1_at_s at hs
  split at hs
  · cases hs; exact ⟨_, _, r1_at_vc _ _ hp.2, (.p (.sl hp.1) (.same _ .nil)), ⟨show SpecsL Tryz.prog _ from SpecsL.nil, rfl, ⟨show ItersL Tryz.prog _ from ItersL.nil, (TrsOk.none (fun _ => rfl))⟩⟩⟩
  · cases hs)
theorem r1_at_en : Enters Tryz.prog 76 := fun args w => by kernel_rfl
def r1_sum_p (l : (L.Sq L.Pt)) : Prop := L.small l
def r1_sum_r (l : (L.Sq L.Pt)) : SV := .int .i64 (L.areaTo l l.n)
def r1_sum_s : List EV → Option (Prop × SV)
  | [.p (.sl 2 l_n l_g)] => some ((∀ i, i < l_n → l_g i = [.int .i64 ((ofPt (l_g i)).x), .int .i64 ((ofPt (l_g i)).y)]) ∧ r1_sum_p (⟨l_n, fun i => ofPt (l_g i)⟩ : (L.Sq L.Pt)), r1_sum_r (⟨l_n, fun i => ofPt (l_g i)⟩ : (L.Sq L.Pt)))
  | _ => none
abbrev r1_sum_S : SE.Spec := (specO r1_sum_s)
def r1_sum_C : Cfg := { muts := [], frz := lookN [], specs := lookS [(76, r1_at_S)], loops := fun _ => none, iters := lookI [], rfs := lookR [], nils := lookM [] }
theorem r1_sum_vc (l : (L.Sq L.Pt)) (hp : r1_sum_p l) : vc Tryz.prog ({ r1_sum_C with loops := lookL [(3, { T := Nat, keep := [0], keepO := [], chg := fun i => [(3, .p (.int .i64 (L.areaTo l i))), (4, .p (.int .i64 (i : Int)))], own := fun _ => [], inv := fun i => i ≤ l.n, mu := fun i => l.n - i })], rfs := lookR [] }) (bodyOf Tryz.f88) (st0 Tryz.f88 [.p (.sl 2 l.n (fun i => [.int .i64 ((l.g i).x), .int .i64 ((l.g i).y)]))]) (retFn Tryz.prog Tryz.f88 (r1_sum_r l)) :=
  @Eq.mpr _ ((∃ (g : Nat), (0 : Int) = L.areaTo l g ∧ (0 : Int) = (↑g : Int) ∧ g ≤ l.n) ∧ ∀ (g : Nat), g ≤ l.n → (decide ((↑g : Int) < (↑l.n : Int)) = true → ((∀ (i : Nat), i < l.n → [SV.int .i64 (l.g i).x, SV.int .i64 (l.g i).y] = [SV.int .i64 (l.g i).x, SV.int .i64 (l.g i).y]) ∧ (1 : Nat) ≤ l.n ∧ l.n ≤ (1000000 : Nat) ∧ (-1000000
 : Int) ≤ (↑g : Int) ∧ (↑g : Int) ≤ (1000000 : Int)) ∧ InK .i64 ((↑g : Int) + (1 : Int)) ∧ ((∀ (i : Nat), i < l.n → [SV.int .i64 (l.g i).x, SV.int .i64 (l.g i).y] = [SV.int .i64 (l.g i).x, SV.int .i64 (l.g i).y]) ∧ (1 : Nat) ≤ l.n ∧ l.n ≤ (1000000 : Nat) ∧ (-1000000 : Int) ≤ (↑g : Int) + (1 : Int) ∧ (↑g : Int) + (1 :
 Int) ≤ (1000000 : Int)) ∧ InK .i64 ((l.g (L.ix l.n (↑g : Int))).x * (l.g (L.ix l.n ((↑g : Int) + (1 : Int)))).y) ∧ InK .i64 ((l.g (L.ix l.n ((↑g : Int) + (1 : Int)))).x * (l.g (L.ix l.n (↑g : Int))).y) ∧ InK .i64 ((l.g (L.ix l.n (↑g : Int))).x * (l.g (L.ix l.n ((↑g : Int) + (1 : Int)))).y - (l.g (L.ix l.n ((↑g : Int) + (1 : Int)))).x * (l.g (L.ix l.n
 (↑g : Int))).y) ∧ InK .i64 (L.areaTo l g + ((l.g (L.ix l.n (↑g : Int))).x * (l.g (L.ix l.n ((↑g : Int) + (1 : Int)))).y - (l.g (L.ix l.n ((↑g : Int) + (1 : Int)))).x * (l.g (L.ix l.n (↑g : Int))).y)) ∧ InK .i64 ((↑g : Int) + (1 : Int)) ∧ ∃ (g' : Nat), L.areaTo l g + ((l.g (L.ix l.n (↑g : Int))).x * (l.g (L.ix l.n ((↑g : Int) + (1 : Int)))).y - (l.g (L.ix l.n ((↑g :
 Int) + (1 : Int)))).x * (l.g (L.ix l.n (↑g : Int))).y) = L.areaTo l g' ∧ (↑g : Int) + (1 : Int) = (↑g' : Int) ∧ (l.n = l.n ∧ ∀ (i : Nat), i < l.n → [SV.int .i64 (l.g i).x, SV.int .i64 (l.g i).y] = [SV.int .i64 (l.g i).x, SV.int .i64 (l.g i).y]) ∧ g' ≤ l.n ∧ l.n - g' < l.n - g) ∧ (decide ((↑g : Int) < (↑l.n : Int)) =
 false → L.areaTo l g = L.areaTo l l.n)) (by kernel_rfl) (by
    have hs : L.small l := hp
    have hn := hs.1
    refine ⟨⟨(0 : Nat), rfl, rfl, Nat.zero_le _⟩, fun g hg => ⟨fun hlt => ?_, fun hge => ?_⟩⟩
    · have hb : (g : Int) < (l.n : Int) := of_decide_eq_true hlt
      have hk : g < l.n := by omega
      rw [ix_self hk, ix_next hk]
      have b1 := area_term hs hk
      have b2 := areaTo_bd hs g hg
      exact ⟨⟨fun _ _ => rfl, by omega, by omega, by omega, by omega⟩, InK.of (by omega) (by omega), ⟨fun _ _ => rfl, by omega, by omega, by omega, by omega⟩, InK.of (by omega) (by omega), InK.of (by omega) (by omega), InK.of (by omega) (by omega), InK.of (by omega) (by omega), InK.of (by omega) (by omega), g + 1, rfl, by omega, ⟨rfl, fun _ _ => rfl⟩, by omega, by omega⟩
    · have hb : ¬ (g : Int) < (l.n : Int) := of_decide_eq_false hge
      obtain rfl : g = l.n := by omega
      rfl)
theorem r1_sum_ok : SpecOk Tryz.prog 88 r1_sum_S := fnX Tryz.func88 (c := bodyOf Tryz.f88) (by kernel_rfl) mixed (fun args p r hs hp => by
  unfold r1_sum_s at hs
  split at hs
  · cases hs; exact ⟨_, _, r1_sum_vc _ hp.2, (.p (.sl hp.1) .nil), ⟨show SpecsL Tryz.prog _ from (SpecsL.cons r1_at_ok r1_at_en SpecsL.nil), rfl, ⟨show ItersL Tryz.prog _ from ItersL.nil, (TrsOk.none (fun _ => rfl))⟩⟩⟩
  · cases hs)
theorem r1_sum_en : Enters Tryz.prog 88 := fun args w => by kernel_rfl
end Go.Proofs.YtooapgllahonaaaGreat

namespace Go.Proofs.YtooapgllahonaaaGreat
open Go.SE Go.RowKit
set_option maxRecDepth 100000
set_option maxHeartbeats 4000000
set_option linter.unusedVariables false
attribute [local irreducible] vc

def L.pick4 (a b c d : L.Pt) (i : Nat) : L.Pt := bif decide (i = 0) then a else bif decide (i = 1) then b else bif decide (i = 2) then c else d
def L.onB (a b c d p : L.Pt) : Bool := L.on a b p && L.on c d p
def L.cm (a b c d : L.Pt) : Nat → L.Sq L.Pt
  | 0 => L.no
  | n + 1 => L.putIf (L.onB a b c d (L.pick4 a b c d n)) (L.cm a b c d n) (L.pick4 a b c d n)
theorem on_left {a b : L.Pt} : L.on a b a = true := by
  unfold L.on
  rw [Bool.and_eq_true, Bool.and_eq_true, within_iff, within_iff]
  refine ⟨⟨decide_eq_true ?_, by omega⟩, by omega⟩
  unfold L.cross; simp
theorem on_right {a b : L.Pt} : L.on a b b = true := by
  unfold L.on
  rw [Bool.and_eq_true, Bool.and_eq_true, within_iff, within_iff]
  refine ⟨⟨decide_eq_true ?_, by omega⟩, by omega⟩
  unfold L.cross; rw [Int.mul_comm]; omega
theorem cm_eq {a b c d : L.Pt} : L.cm a b c d 4 = L.k2 a b c d 2 := by
  have h1 : L.onB a b c d a = L.on c d a := by unfold L.onB; rw [on_left]; rfl
  have h2 : L.onB a b c d b = L.on c d b := by unfold L.onB; rw [on_right]; rfl
  have h3 : L.onB a b c d c = L.on a b c := by unfold L.onB; rw [on_left (a := c), Bool.and_true]
  have h4 : L.onB a b c d d = L.on a b d := by unfold L.onB; rw [on_right (a := c), Bool.and_true]
  show L.putIf (L.onB a b c d d) (L.putIf (L.onB a b c d c) (L.putIf (L.onB a b c d b) (L.putIf (L.onB a b c d a) L.no a) b) c) d = _
  rw [h1, h2, h3, h4]; rfl
theorem same_sym (p q : L.Pt) : L.same p q = L.same q p := by
  unfold L.same
  rw [show decide (p.x = q.x) = decide (q.x = p.x) from by by_cases h : p.x = q.x <;> simp [h, eq_comm], show decide (p.y = q.y) = decide (q.y = p.y) from by by_cases h : p.y = q.y <;> simp [h, eq_comm]]
theorem put_n {ks : L.Sq L.Pt} {p : L.Pt} : (L.put ks p).n ≤ ks.n + 1 := by
  unfold L.put
  cases L.has ks p
  · exact Nat.le_refl _
  · exact Nat.le_succ _
theorem cm_n {a b c d : L.Pt} : ∀ {i : Nat}, (L.cm a b c d i).n ≤ i
  | 0 => Nat.le_refl _
  | i + 1 => by
    have ih := cm_n (a := a) (b := b) (c := c) (d := d) (i := i)
    rw [L.cm]
    cases L.onB a b c d (L.pick4 a b c d i)
    · exact Nat.le_trans ih (Nat.le_succ _)
    · exact Nat.le_trans put_n (Nat.succ_le_succ ih)
theorem corner_eq {l : L.Sq L.Pt} {k : Nat} : (bif bif decide (0 < (k : Int)) then !decide (L.cmpPt (l.g 0) (l.g k) < 0) else false then true else decide (L.cross (l.g (L.prev l.n k)) (l.g k) (l.g (L.next l.n k)) = 0)) = !L.corner l k := by
  unfold L.corner
  have : decide (0 ≤ L.cmpPt (l.g 0) (l.g k)) = !decide (L.cmpPt (l.g 0) (l.g k) < 0) := by
    by_cases h : L.cmpPt (l.g 0) (l.g k) < 0
    · rw [decide_eq_true h, decide_eq_false (by omega)]; rfl
    · rw [decide_eq_false h, decide_eq_true (by omega)]; rfl
  rw [this, Bool.not_not]
  cases decide (0 < (k : Int)) <;> cases decide (L.cmpPt (l.g 0) (l.g k) < 0) <;> cases decide (L.cross (l.g (L.prev l.n k)) (l.g k) (l.g (L.next l.n k)) = 0) <;> rfl
def r1_meet_p (a : L.Pt) (b : L.Pt) (c : L.Pt) (d : L.Pt) : Prop := L.bd a ∧ L.bd b ∧ L.bd c ∧ L.bd d
def r1_meet_r (a : L.Pt) (b : L.Pt) (c : L.Pt) (d : L.Pt) : SV := .int .i64 (L.meet a b c d)
def r1_meet_s : List EV → Option (Prop × SV)
  | [.p (.agg [.int .i64 a_x, .int .i64 a_y]), .p (.agg [.int .i64 b_x, .int .i64 b_y]), .p (.agg [.int .i64 c_x, .int .i64 c_y]), .p (.agg [.int .i64 d_x, .int .i64 d_y])] => some (r1_meet_p (⟨a_x, a_y⟩ : L.Pt) (⟨b_x, b_y⟩ : L.Pt) (⟨c_x, c_y⟩ : L.Pt) (⟨d_x, d_y⟩ : L.Pt), r1_meet_r (⟨a_x, a_y⟩ : L.Pt) (⟨b_x, b_y⟩ : L.Pt) (⟨c_x, c_y⟩ : L.Pt) (⟨d_x, d_y⟩ : L.Pt))
  | _ => none
abbrev r1_meet_S : SE.Spec := (specO r1_meet_s)
def r1_meet_C : Cfg := { muts := [], frz := lookN [], specs := lookS [(190, r1_On_S), (93, r1_Cross_S), (95, r1_sign_S)], loops := fun _ => none, iters := lookI [], rfs := lookR [], nils := lookM [(2, [(9, 20, 42, 2)])] }
theorem r1_meet_vc (a : L.Pt) (b : L.Pt) (c : L.Pt) (d : L.Pt) (hp : r1_meet_p a b c d) : vc Tryz.prog ({ r1_meet_C with loops := lookL [(4, { T := Nat, keep := [4, 5, 6, 7, 9], keepO := [], chg := fun i => [(10, .p (.sl 2 4 (fun j => [.int .i64 ((L.pick4 a b c d j).x), .int .i64 ((L.pick4 a b c d j).y)]))), (11, .p (.int .i64 (i : Int)))], own := fun i => [(20, .row 42 2 (L.cm a b c d i).n (fun j => [.int .i64 (((L.cm a b c d i).g j).x), .int .i64 (((L.cm a b c d i).g j).y)]))], inv := fun i => i ≤ 4, mu := fun i => 4 - i }), (9, { T := Nat × Nat, keep := [4, 5, 6, 7, 9, 10, 11], keepO := [], tie := fun g => [(11, .int .i64 (g.1 : Int))], chg := fun g => [(12, .p (.bool (L.anyB g.2 (fun j => L.same ((L.cm a b c d g.1).g j) (L.pick4 a b c d g.1))))), (13, .p (.int .i64 (g.2 : Int)))], own := fun g => [(20, .row 42 2 (L.cm a b c d g.1).n (fun j => [.int .i64 (((L.cm a b c d g.1).g j).x), .int .i64 (((L.cm a b c d g.1).g j).y)]))], inv := fun g => g.1 < 4 ∧ g.2 ≤ (L.cm a b c d g.1).n, mu := fun g => (L.cm a b c d g.1).n - g.2 })], rfs := lookR [] }) (bodyOf Tryz.f154) (st0 Tryz.f154 [.p (.agg [.int .i64 a.x, .int .i64 a.y]), .p (.agg [.int .i64 b.x, .int .i64 b.y]), .p (.agg [.int .i64 c.x, .int .i64 c.y]), .p (.agg [.int .i64 d.x, .int .i64 d.y])]) (retFn Tryz.prog Tryz.f154 (r1_meet_r a b c d)) :=
  @Eq.mpr _ ((∃ (g : Nat), (nat_lit 4 = (4 : Nat) ∧ ∀ (i : Nat), i < nat_lit 4 → rowsOf [SV.int .i64 a.x, SV.int .i64 a.y, SV.int .i64 b.x, SV.int .i64 b.y, SV.int .i64 c.x, SV.int .i64 c.y, SV.int .i64 d.x, SV.int .i64 d.y] (nat_lit 2) i = [SV.int .i64 (L.pick4
 a b c d i).x, SV.int .i64 (L.pick4 a b c d i).y]) ∧ (0 : Int) = (↑g : Int) ∧ (nat_lit 0 = (L.cm a b c d g).n ∧ ∀ (i : Nat), i < nat_lit 0 → [] = [SV.int .i64 ((L.cm a b c d g).g i).x, SV.int .i64 ((L.cm a b c d g).g i).y]) ∧ g ≤ (4 : Nat)) ∧ ∀ (g : Nat), g ≤ (4 : Nat) → (decide ((↑g : Int) < (4 : Int)) = true → ((0 : Int) ≤ (↑g : Int)
 ∧ (↑g : Int) < (↑(nat_lit 4) : Int)) ∧ (L.bd a ∧ L.bd b ∧ L.bd (L.pick4 a b c d (Int.toNat (↑g : Int)))) ∧ ((!!L.on a b (L.pick4 a b c d (Int.toNat (↑g : Int)))) = true → (0 : Int) ≤ (↑g : Int) ∧ (↑g : Int) < (↑(nat_lit 4) : Int)) ∧ ((!!L.on a b (L.pick4 a b c d (Int.toNat (↑g : Int)))) = true → L.bd c ∧ L.bd d ∧ L.bd (L.pick4 a b c d (Int.toNat (↑g : Int)))) ∧ ((bif !L.on a b (L.pick4 a
 b c d (Int.toNat (↑g : Int))) then true else !L.on c d (L.pick4 a b c d (Int.toNat (↑g : Int)))) = true → InK .i64 ((↑g : Int) + (1 : Int)) ∧ ∃ (g' : Nat), (nat_lit 4 = (4 : Nat) ∧ ∀ (i : Nat), i < nat_lit 4 → [SV.int .i64 (L.pick4 a b c d i).x, SV.int .i64 (L.pick4 a b c d i).y] = [SV.int .i64 (L.pick4 a b c d i).x,
 SV.int .i64 (L.pick4 a b c d i).y]) ∧ (↑g : Int) + (1 : Int) = (↑g' : Int) ∧ SV.ref [SV.int .i64 d.x, SV.int .i64 d.y] (nat_lit 0) = SV.ref [SV.int .i64 d.x, SV.int .i64 d.y] (nat_lit 0) ∧ SV.ref [SV.int .i64 c.x, SV.int .i64 c.y] (nat_lit 0) = SV.ref
 [SV.int .i64 c.x, SV.int .i64 c.y] (nat_lit 0) ∧ SV.ref [SV.int .i64 b.x, SV.int .i64 b.y] (nat_lit 0) = SV.ref [SV.int .i64 b.x, SV.int .i64 b.y] (nat_lit 0) ∧ SV.ref [SV.int .i64 a.x, SV.int .i64 a.y] (nat_lit 0) = SV.ref [SV.int
 .i64 a.x, SV.int .i64 a.y] (nat_lit 0) ∧ ((L.cm a b c d g).n = (L.cm a b c d g').n ∧ ∀ (i : Nat), i < (L.cm a b c d g).n → [SV.int .i64 ((L.cm a b c d g).g i).x, SV.int .i64 ((L.cm a b c d g).g i).y] = [SV.int .i64 ((L.cm a b c d g').g i).x, SV.int .i64 ((L.cm a b c d g').g i).y]) ∧ g' ≤ (4 : Nat) ∧ (4 : Nat)
 - g' < (4 : Nat) - g) ∧ ((bif !L.on a b (L.pick4 a b c d (Int.toNat (↑g : Int))) then true else !L.on c d (L.pick4 a b c d (Int.toNat (↑g : Int)))) = false → (∃ (g_1 : Nat × Nat), (false = L.anyB g_1.2 fun (j : Nat) ↦ L.same ((L.cm a b c d g_1.1).g j) (L.pick4 a b c d g_1.1)) ∧ (0 : Int) = (↑g_1.2 : Int) ∧ ((L.cm a b c d g).n = (L.cm a b c d g_1.1).n ∧ ∀ (i : Nat), i < (L.cm a b c d
 g).n → [SV.int .i64 ((L.cm a b c d g).g i).x, SV.int .i64 ((L.cm a b c d g).g i).y] = [SV.int .i64 ((L.cm a b c d g_1.1).g i).x, SV.int .i64 ((L.cm a b c d g_1.1).g i).y]) ∧ (↑g : Int) = (↑g_1.1 : Int) ∧ g_1.1 < (4 : Nat) ∧ g_1.2 ≤ (L.cm a b c d g_1.1).n) ∧ ∀ (g_1 : Nat × Nat), (↑g : Int) = (↑g_1.1 : Int) ∧ g_1.1 < (4 : Nat) ∧ g_1.2 ≤
 (L.cm a b c d g_1.1).n → (decide ((↑g_1.2 : Int) < (↑(L.cm a b c d g_1.1).n : Int)) = true → ((!L.anyB g_1.2 fun (j : Nat) ↦ L.same ((L.cm a b c d g_1.1).g j) (L.pick4 a b c d g_1.1)) = true → (0 : Int) ≤ (↑g_1.2 : Int) ∧ (↑g_1.2 : Int) < (↑(L.cm a b c d g_1.1).n : Int)) ∧ ((!L.anyB g_1.2 fun (j : Nat) ↦ L.same ((L.cm a b c d g_1.1).g j) (L.pick4 a b c d g_1.1)) = true →
 Int.toNat (↑g_1.2 : Int) < (L.cm a b c d g_1.1).n) ∧ ((!L.anyB g_1.2 fun (j : Nat) ↦ L.same ((L.cm a b c d g_1.1).g j) (L.pick4 a b c d g_1.1)) = true → (0 : Int) ≤ (↑g : Int) ∧ (↑g : Int) < (↑(nat_lit 4) : Int)) ∧ InK .i64 ((↑g_1.2 : Int) + (1 : Int)) ∧ ∃ (g' : Nat × Nat), ((bif L.anyB g_1.2 fun (j : Nat) ↦ L.same ((L.cm a b c d g_1.1).g j) (L.pick4 a b c d g_1.1) then
 true else decide (((L.cm a b c d g_1.1).g (Int.toNat (↑g_1.2 : Int))).x = (L.pick4 a b c d (Int.toNat (↑g : Int))).x) && decide (((L.cm a b c d g_1.1).g (Int.toNat (↑g_1.2 : Int))).y = (L.pick4 a b c d (Int.toNat (↑g : Int))).y)) = L.anyB g'.2 fun (j : Nat) ↦ L.same ((L.cm a b c d g'.1).g j) (L.pick4 a b c d g'.1)) ∧ (↑g_1.2 : Int) + (1 : Int) = (↑g'.2 : Int) ∧ (nat_lit 4
 = nat_lit 4 ∧ ∀ (i : Nat), i < nat_lit 4 → [SV.int .i64 (L.pick4 a b c d i).x, SV.int .i64 (L.pick4 a b c d i).y] = [SV.int .i64 (L.pick4 a b c d i).x, SV.int .i64 (L.pick4 a b c d i).y]) ∧ (↑g : Int) = (↑g : Int) ∧ SV.ref [SV.int .i64 d.x, SV.int .i64 d.y] (nat_lit 0) = SV.ref [SV.int
 .i64 d.x, SV.int .i64 d.y] (nat_lit 0) ∧ SV.ref [SV.int .i64 c.x, SV.int .i64 c.y] (nat_lit 0) = SV.ref [SV.int .i64 c.x, SV.int .i64 c.y] (nat_lit 0) ∧ SV.ref [SV.int .i64 b.x, SV.int .i64 b.y] (nat_lit 0) = SV.ref [SV.int .i64 b.x,
 SV.int .i64 b.y] (nat_lit 0) ∧ SV.ref [SV.int .i64 a.x, SV.int .i64 a.y] (nat_lit 0) = SV.ref [SV.int .i64 a.x, SV.int .i64 a.y] (nat_lit 0) ∧ ((L.cm a b c d g_1.1).n = (L.cm a b c d g'.1).n ∧ ∀ (i : Nat), i < (L.cm a b c d g_1.1).n → [SV.int .i64 ((L.cm a b c d g_1.1).g i).x, SV.int
 .i64 ((L.cm a b c d g_1.1).g i).y] = [SV.int .i64 ((L.cm a b c d g'.1).g i).x, SV.int .i64 ((L.cm a b c d g'.1).g i).y]) ∧ ((↑g : Int) = (↑g'.1 : Int) ∧ g'.1 < (4 : Nat) ∧ g'.2 ≤ (L.cm a b c d g'.1).n) ∧ (L.cm a b c d g'.1).n - g'.2 < (L.cm a b c d g_1.1).n - g_1.2) ∧ (decide ((↑g_1.2 : Int) < (↑(L.cm a b c d g_1.1).n : Int)) = false →
 ((!L.anyB g_1.2 fun (j : Nat) ↦ L.same ((L.cm a b c d g_1.1).g j) (L.pick4 a b c d g_1.1)) = true → ((0 : Int) ≤ (↑g : Int) ∧ (↑g : Int) < (↑(nat_lit 4) : Int)) ∧ ((L.cm a b c d g_1.1).n + nat_lit 1) * nat_lit 16 ≤ (140737488355328 : Nat) ∧ InK .i64 ((↑g : Int) + (1 : Int)) ∧ ∃ (g' : Nat), (nat_lit 4 = (4 : Nat) ∧ ∀ (i : Nat), i < nat_lit 4 → [SV.int .i64
 (L.pick4 a b c d i).x, SV.int .i64 (L.pick4 a b c d i).y] = [SV.int .i64 (L.pick4 a b c d i).x, SV.int .i64 (L.pick4 a b c d i).y]) ∧ (↑g : Int) + (1 : Int) = (↑g' : Int) ∧ SV.ref [SV.int .i64 d.x, SV.int .i64 d.y] (nat_lit 0) = SV.ref [SV.int .i64 d.x, SV.int .i64 d.y]
 (nat_lit 0) ∧ SV.ref [SV.int .i64 c.x, SV.int .i64 c.y] (nat_lit 0) = SV.ref [SV.int .i64 c.x, SV.int .i64 c.y] (nat_lit 0) ∧ SV.ref [SV.int .i64 b.x, SV.int .i64 b.y] (nat_lit 0) = SV.ref [SV.int .i64 b.x, SV.int .i64 b.y] (nat_lit 0) ∧
 SV.ref [SV.int .i64 a.x, SV.int .i64 a.y] (nat_lit 0) = SV.ref [SV.int .i64 a.x, SV.int .i64 a.y] (nat_lit 0) ∧ ((L.cm a b c d g_1.1).n + nat_lit 1 = (L.cm a b c d g').n ∧ ∀ (i : Nat), i < (L.cm a b c d g_1.1).n + nat_lit 1 → appGet (L.cm a b c d g_1.1).n (fun (j : Nat) ↦ [SV.int .i64 ((L.cm a b c d
 g_1.1).g j).x, SV.int .i64 ((L.cm a b c d g_1.1).g j).y]) (fun (x : Nat) ↦ [SV.int .i64 (L.pick4 a b c d (Int.toNat (↑g : Int))).x, SV.int .i64 (L.pick4 a b c d (Int.toNat (↑g : Int))).y]) i = [SV.int .i64 ((L.cm a b c d g').g i).x, SV.int .i64 ((L.cm a b c d g').g i).y]) ∧ g' ≤ (4 : Nat) ∧ (4 : Nat) - g' < (4 : Nat) -
 g) ∧ ((!L.anyB g_1.2 fun (j : Nat) ↦ L.same ((L.cm a b c d g_1.1).g j) (L.pick4 a b c d g_1.1)) = false → InK .i64 ((↑g : Int) + (1 : Int)) ∧ ∃ (g' : Nat), (nat_lit 4 = (4 : Nat) ∧ ∀ (i : Nat), i < nat_lit 4 → [SV.int .i64 (L.pick4 a b c d i).x, SV.int .i64 (L.pick4 a b c d i).y] = [SV.int .i64 (L.pick4 a b c d i).x, SV.int
 .i64 (L.pick4 a b c d i).y]) ∧ (↑g : Int) + (1 : Int) = (↑g' : Int) ∧ SV.ref [SV.int .i64 d.x, SV.int .i64 d.y] (nat_lit 0) = SV.ref [SV.int .i64 d.x, SV.int .i64 d.y] (nat_lit 0) ∧ SV.ref [SV.int .i64 c.x, SV.int .i64 c.y] (nat_lit 0) = SV.ref [SV.int
 .i64 c.x, SV.int .i64 c.y] (nat_lit 0) ∧ SV.ref [SV.int .i64 b.x, SV.int .i64 b.y] (nat_lit 0) = SV.ref [SV.int .i64 b.x, SV.int .i64 b.y] (nat_lit 0) ∧ SV.ref [SV.int .i64 a.x, SV.int .i64 a.y] (nat_lit 0) = SV.ref [SV.int .i64 a.x,
 SV.int .i64 a.y] (nat_lit 0) ∧ ((L.cm a b c d g_1.1).n = (L.cm a b c d g').n ∧ ∀ (i : Nat), i < (L.cm a b c d g_1.1).n → [SV.int .i64 ((L.cm a b c d g_1.1).g i).x, SV.int .i64 ((L.cm a b c d g_1.1).g i).y] = [SV.int .i64 ((L.cm a b c d g').g i).x, SV.int .i64 ((L.cm a b c d g').g i).y]) ∧ g' ≤ (4 : Nat) ∧ (4 : Nat) -
 g' < (4 : Nat) - g)))) ∧ (decide ((↑g : Int) < (4 : Int)) = false → (decide ((1 : Int) < (↑(L.cm a b c d g).n : Int)) = true → (3 : Int) = L.meet a b c d) ∧ (decide ((1 : Int) < (↑(L.cm a b c d g).n : Int)) = false → (decide ((↑(L.cm a b c d g).n : Int) = (1 : Int)) = true → (1 : Int) = L.meet a b c d) ∧ (decide ((↑(L.cm a b c d
 g).n : Int) = (1 : Int)) = false → (L.bd a ∧ L.bd b ∧ L.bd c) ∧ True ∧ (L.bd a ∧ L.bd b ∧ L.bd d) ∧ True ∧ InK .i64 (L.cmp (L.cross a b c) (0 : Int) * L.cmp (L.cross a b d) (0 : Int)) ∧ (decide (L.cmp (L.cross a b c) (0 : Int) * L.cmp (L.cross a b d) (0 : Int) < (0 : Int)) = true → L.bd c ∧ L.bd d ∧ L.bd a) ∧ (decide (L.cmp (L.cross a b c) (0 : Int) *
 L.cmp (L.cross a b d) (0 : Int) < (0 : Int)) = true → True) ∧ (decide (L.cmp (L.cross a b c) (0 : Int) * L.cmp (L.cross a b d) (0 : Int) < (0 : Int)) = true → L.bd c ∧ L.bd d ∧ L.bd b) ∧ (decide (L.cmp (L.cross a b c) (0 : Int) * L.cmp (L.cross a b d) (0 : Int) < (0 : Int)) = true → True) ∧ (decide (L.cmp (L.cross a b c) (0 : Int) * L.cmp (L.cross a b
 d) (0 : Int) < (0 : Int)) = true → InK .i64 (L.cmp (L.cross c d a) (0 : Int) * L.cmp (L.cross c d b) (0 : Int))) ∧ ((bif decide (L.cmp (L.cross a b c) (0 : Int) * L.cmp (L.cross a b d) (0 : Int) < (0 : Int)) then decide (L.cmp (L.cross c d a) (0 : Int) * L.cmp (L.cross c d b) (0 : Int) < (0 : Int)) else false) = true → (2 : Int) = L.meet a b c d)
 ∧ ((bif decide (L.cmp (L.cross a b c) (0 : Int) * L.cmp (L.cross a b d) (0 : Int) < (0 : Int)) then decide (L.cmp (L.cross c d a) (0 : Int) * L.cmp (L.cross c d b) (0 : Int) < (0 : Int)) else false) = false → (0 : Int) = L.meet a b c d))))) (by kernel_rfl) (by
    obtain ⟨ha, hb, hc, hd⟩ := hp
    have hp4 : ∀ i, L.bd (L.pick4 a b c d i) := fun i => by
      unfold L.pick4
      cases decide (i = 0) <;> cases decide (i = 1) <;> cases decide (i = 2) <;> assumption
    refine ⟨⟨(0 : Nat), ⟨rfl, fun i hi => by match i, hi with | 0, _ => rfl | 1, _ => rfl | 2, _ => rfl | 3, _ => rfl⟩, rfl, ⟨rfl, fun i hi => absurd hi (Nat.not_lt_zero _)⟩, by decide⟩, fun g hg => ⟨fun hlt => ?_, fun hge => ?_⟩⟩
    · have hb1 : (g : Int) < 4 := of_decide_eq_true hlt
      have e0 : ((g : Int)).toNat = g := by omega
      rw [e0]
      refine ⟨⟨by omega, hb1⟩, ⟨ha, hb, hp4 g⟩, fun _ => ⟨by omega, hb1⟩, fun _ => ⟨hc, hd, hp4 g⟩, fun h1 => ?_, fun h1 => ?_⟩
      · have hoff : L.onB a b c d (L.pick4 a b c d g) = false := by
          unfold L.onB
          revert h1
          cases L.on a b (L.pick4 a b c d g) <;> cases L.on c d (L.pick4 a b c d g) <;> intro h1 <;> first | rfl | cases h1
        have e : L.cm a b c d (g + 1) = L.cm a b c d g := by rw [L.cm, hoff]; rfl
        refine ⟨InK.of (by omega) (by omega), g + 1, ⟨rfl, fun _ _ => rfl⟩, by omega, rfl, rfl, rfl, rfl, ?_, by omega, by omega⟩
        rw [e]; exact ⟨rfl, fun _ _ => rfl⟩
      · have hon : L.onB a b c d (L.pick4 a b c d g) = true := by
          unfold L.onB
          revert h1
          cases L.on a b (L.pick4 a b c d g) <;> cases L.on c d (L.pick4 a b c d g) <;> intro h1 <;> first | rfl | cases h1
        refine ⟨⟨(g, 0), rfl, rfl, ⟨rfl, fun _ _ => rfl⟩, rfl, by show g < 4; omega, Nat.zero_le _⟩, ?_⟩
        rintro ⟨g', k⟩ ⟨e1, e2, e3⟩
        have e1 : (g : Int) = (g' : Int) := e1
        obtain rfl : g = g' := by omega
        have e3 : k ≤ (L.cm a b c d g).n := e3
        have ek : ((k : Int)).toNat = k := by omega
        have hcn := cm_n (a := a) (b := b) (c := c) (d := d) (i := g)
        dsimp only
        rw [ek]
        refine ⟨fun hlt2 => ?_, fun hge2 => ?_⟩
        · have hk : (k : Int) < ((L.cm a b c d g).n : Int) := of_decide_eq_true hlt2
          refine ⟨fun _ => ⟨by omega, hk⟩, fun _ => (show k < (L.cm a b c d g).n by omega), fun _ => ⟨by omega, hb1⟩, InK.of (by omega) (by omega), (g, k + 1), ?_, by show (k : Int) + 1 = ((k + 1 : Nat) : Int); omega, ⟨rfl, fun _ _ => rfl⟩, rfl, rfl, rfl, rfl, rfl, ⟨rfl, fun _ _ => rfl⟩, ⟨rfl, by show g < 4; omega, by show k + 1 ≤ (L.cm a b c d g).n; omega⟩, by show (L.cm a b c d g).n - (k + 1) < (L.cm a b c d g).n - k; omega⟩
          rw [bor]; rfl
        · have hk : ¬ (k : Int) < ((L.cm a b c d g).n : Int) := of_decide_eq_false hge2
          obtain rfl : k = (L.cm a b c d g).n := by omega
          have hhas : L.anyB (L.cm a b c d g).n (fun j => L.same ((L.cm a b c d g).g j) (L.pick4 a b c d g)) = L.has (L.cm a b c d g) (L.pick4 a b c d g) :=
            anyB_congr (fun i _ => same_sym _ _)
          rw [hhas]
          refine ⟨fun h2 => ?_, fun h2 => ?_⟩
          · have e : L.cm a b c d (g + 1) = ⟨(L.cm a b c d g).n + 1, fun i => if i < (L.cm a b c d g).n then (L.cm a b c d g).g i else L.pick4 a b c d g⟩ := by
              rw [L.cm, hon]
              show L.put _ _ = _
              unfold L.put; rw [notT h2]; rfl
            refine ⟨⟨by omega, hb1⟩, show ((L.cm a b c d g).n + 1) * 16 ≤ 140737488355328 by omega, InK.of (by omega) (by omega), g + 1, ⟨rfl, fun _ _ => rfl⟩, by omega, rfl, rfl, rfl, rfl, ?_, by omega, by omega⟩
            rw [e]
            refine ⟨rfl, fun i hi => ?_⟩
            unfold appGet
            dsimp only
            by_cases h' : i < (L.cm a b c d g).n
            · rw [if_pos h', if_pos h']
            · rw [if_neg h', if_neg h']
          · have e : L.cm a b c d (g + 1) = L.cm a b c d g := by
              rw [L.cm, hon]
              show L.put _ _ = _
              unfold L.put; rw [notF h2]; rfl
            refine ⟨InK.of (by omega) (by omega), g + 1, ⟨rfl, fun _ _ => rfl⟩, by omega, rfl, rfl, rfl, rfl, ?_, by omega, by omega⟩
            rw [e]; exact ⟨rfl, fun _ _ => rfl⟩
    · have hb1 : ¬ (g : Int) < 4 := of_decide_eq_false hge
      obtain rfl : g = 4 := by omega
      rw [cm_eq]
      have q1 := cmp_bd (L.cross a b c) 0
      have q2 := cmp_bd (L.cross a b d) 0
      have q3 := cmp_bd (L.cross c d a) 0
      have q4 := cmp_bd (L.cross c d b) 0
      have m1 := mul_bd (m := 1) (n := 1) q1.1 q1.2 q2.1 q2.2
      have m2 := mul_bd (m := 1) (n := 1) q3.1 q3.2 q4.1 q4.2
      refine ⟨fun h1 => ?_, fun h1 => ⟨fun h2 => ?_, fun h2 => ⟨⟨ha, hb, hc⟩, trivial, ⟨ha, hb, hd⟩, trivial, InK.of (by omega) (by omega), fun _ => ⟨hc, hd, ha⟩, fun _ => trivial, fun _ => ⟨hc, hd, hb⟩, fun _ => trivial, fun _ => InK.of (by omega) (by omega), fun h3 => ?_, fun h3 => ?_⟩⟩⟩
      · unfold L.meet; rw [h1]; rfl
      · unfold L.meet; rw [h1, h2]; rfl
      · have h3 : (bif L.apart a b c d then L.apart c d a b else false) = true := h3
        unfold L.meet; rw [h1, h2, h3]; rfl
      · have h3 : (bif L.apart a b c d then L.apart c d a b else false) = false := h3
        unfold L.meet; rw [h1, h2, h3]; rfl)
theorem r1_meet_ok : SpecOk Tryz.prog 154 r1_meet_S := fnX Tryz.func154 (c := bodyOf Tryz.f154) (by kernel_rfl) mixed (fun args p r hs hp => by
  unfold r1_meet_s at hs
  split at hs
  · cases hs; exact ⟨_, _, r1_meet_vc _ _ _ _ hp, (.same _ (.same _ (.same _ (.same _ .nil)))), ⟨show SpecsL Tryz.prog _ from (SpecsL.cons r1_On_ok r1_On_en (SpecsL.cons r1_Cross_ok r1_Cross_en (SpecsL.cons r1_sign_ok r1_sign_en SpecsL.nil))), rfl, ⟨show ItersL Tryz.prog _ from ItersL.nil, (TrsOk.none (fun _ => rfl))⟩⟩⟩
  · cases hs)
theorem r1_meet_en : Enters Tryz.prog 154 := fun args w => by kernel_rfl
def r1_simple_p (l : (L.Sq L.Pt)) : Prop := L.allBd l
def r1_simple_r (l : (L.Sq L.Pt)) : SV := .bool (L.simple l)
def r1_simple_s : List EV → Option (Prop × SV)
  | [.p (.sl 2 l_n l_g)] => some ((∀ i, i < l_n → l_g i = [.int .i64 ((ofPt (l_g i)).x), .int .i64 ((ofPt (l_g i)).y)]) ∧ r1_simple_p (⟨l_n, fun i => ofPt (l_g i)⟩ : (L.Sq L.Pt)), r1_simple_r (⟨l_n, fun i => ofPt (l_g i)⟩ : (L.Sq L.Pt)))
  | _ => none
abbrev r1_simple_S : SE.Spec := (specO r1_simple_s)
def r1_simple_C : Cfg := { muts := [], frz := lookN [], specs := lookS [(76, r1_at_S), (154, r1_meet_S)], loops := fun _ => none, iters := lookI [], rfs := lookR [], nils := lookM [] }
theorem r1_simple_vc (l : (L.Sq L.Pt)) (hp : r1_simple_p l) : vc Tryz.prog ({ r1_simple_C with loops := lookL [(3, { T := Nat, keep := [0, 3], keepO := [], chg := fun i => [(4, .p (.int .i64 (i : Int)))], own := fun _ => [], inv := fun i => i ≤ l.n ∧ ∀ j, j < i → ∀ k, j < k → k < l.n → L.okPair l j k = true, mu := fun i => l.n - i }), (6, { T := Nat × Nat, keep := [0, 3, 4], keepO := [], tie := fun i => [(4, .int .i64 (i.1 : Int))], chg := fun i => [(5, .p (.int .i64 (i.2 : Int)))], own := fun _ => [], inv := fun i => i.1 < i.2 ∧ i.2 ≤ l.n ∧ (∀ j, j < i.1 → ∀ k, j < k → k < l.n → L.okPair l j k = true) ∧ ∀ k, i.1 < k → k < i.2 → L.okPair l i.1 k = true, mu := fun i => l.n - i.2 })], rfs := lookR [] }) (bodyOf Tryz.f87) (st0 Tryz.f87 [.p (.sl 2 l.n (fun i => [.int .i64 ((l.g i).x), .int .i64 ((l.g i).y)]))]) (retFn Tryz.prog Tryz.f87 (r1_simple_r l)) :=
  @Eq.mpr _ ((∃ (g : Nat), (0 : Int) = (↑g : Int) ∧ g ≤ l.n ∧ ∀ (j : Nat), j < g → ∀ (k : Nat), j < k → k < l.n → L.okPair l j k = true) ∧ ∀ (g : Nat), (g ≤ l.n ∧ ∀ (j : Nat), j < g → ∀ (k : Nat), j < k → k < l.n → L.okPair l j k = true) → (decide ((↑g : Int) < (↑l.n : Int)) = true → InK .i64 ((↑g : Int) + (1 : Int)) ∧ (∃ (g_1 : Nat × Nat), (↑g : Int) + (1 : Int) =
 (↑g_1.2 : Int) ∧ (↑g : Int) = (↑g_1.1 : Int) ∧ g_1.1 < g_1.2 ∧ g_1.2 ≤ l.n ∧ (∀ (j : Nat), j < g_1.1 → ∀ (k : Nat), j < k → k < l.n → L.okPair l j k = true) ∧ ∀ (k : Nat), g_1.1 < k → k < g_1.2 → L.okPair l g_1.1 k = true) ∧ ∀ (g_1 : Nat × Nat), ((↑g : Int) = (↑g_1.1 : Int) ∧ g_1.1 < g_1.2 ∧ g_1.2 ≤ l.n ∧ (∀ (j : Nat), j < g_1.1 → ∀ (k : Nat), j < k → k < l.n → L.okPair l j k =
 true) ∧ ∀ (k : Nat), g_1.1 < k → k < g_1.2 → L.okPair l g_1.1 k = true) → (decide ((↑g_1.2 : Int) < (↑l.n : Int)) = true → ((∀ (i : Nat), i < l.n → [SV.int .i64 (l.g i).x, SV.int .i64 (l.g i).y] = [SV.int .i64 (l.g i).x, SV.int .i64 (l.g i).y]) ∧ (1 : Nat) ≤ l.n ∧ l.n ≤ (1000000 : Nat) ∧ (-1000000 : Int) ≤ (↑g
 : Int) ∧ (↑g : Int) ≤ (1000000 : Int)) ∧ InK .i64 ((↑g : Int) + (1 : Int)) ∧ ((∀ (i : Nat), i < l.n → [SV.int .i64 (l.g i).x, SV.int .i64 (l.g i).y] = [SV.int .i64 (l.g i).x, SV.int .i64 (l.g i).y]) ∧ (1 : Nat) ≤ l.n ∧ l.n ≤ (1000000 : Nat) ∧ (-1000000 : Int) ≤ (↑g : Int) + (1 : Int) ∧ (↑g : Int) + (1 : Int) ≤ (1000000
 : Int)) ∧ ((∀ (i : Nat), i < l.n → [SV.int .i64 (l.g i).x, SV.int .i64 (l.g i).y] = [SV.int .i64 (l.g i).x, SV.int .i64 (l.g i).y]) ∧ (1 : Nat) ≤ l.n ∧ l.n ≤ (1000000 : Nat) ∧ (-1000000 : Int) ≤ (↑g_1.2 : Int) ∧ (↑g_1.2 : Int) ≤ (1000000 : Int)) ∧ InK .i64 ((↑g_1.2 : Int) + (1 : Int)) ∧ ((∀ (i : Nat), i < l.n →
 [SV.int .i64 (l.g i).x, SV.int .i64 (l.g i).y] = [SV.int .i64 (l.g i).x, SV.int .i64 (l.g i).y]) ∧ (1 : Nat) ≤ l.n ∧ l.n ≤ (1000000 : Nat) ∧ (-1000000 : Int) ≤ (↑g_1.2 : Int) + (1 : Int) ∧ (↑g_1.2 : Int) + (1 : Int) ≤ (1000000 : Int)) ∧ (L.bd (l.g (L.ix l.n (↑g : Int))) ∧ L.bd (l.g (L.ix l.n ((↑g : Int) + (1 : Int)))) ∧ L.bd (l.g
 (L.ix l.n (↑g_1.2 : Int))) ∧ L.bd (l.g (L.ix l.n ((↑g_1.2 : Int) + (1 : Int))))) ∧ InK .i64 ((↑g : Int) + (1 : Int)) ∧ ((!decide ((↑g_1.2 : Int) = (↑g : Int) + (1 : Int)) && decide ((↑g : Int) = (0 : Int))) = true → InK .i64 ((↑l.n : Int) - (1 : Int))) ∧ ((bif bif bif decide ((↑g_1.2 : Int) = (↑g : Int) + (1 : Int)) then true
 else bif decide ((↑g : Int) = (0 : Int)) then decide ((↑g_1.2 : Int) = (↑l.n : Int) - (1 : Int)) else false then !decide (L.meet (l.g (L.ix l.n (↑g : Int))) (l.g (L.ix l.n ((↑g : Int) + (1 : Int)))) (l.g (L.ix l.n (↑g_1.2 : Int))) (l.g (L.ix l.n ((↑g_1.2 : Int) + (1 : Int)))) = (1 : Int)) else false then true else bif !bif decide ((↑g_1.2 :
 Int) = (↑g : Int) + (1 : Int)) then true else bif decide ((↑g : Int) = (0 : Int)) then decide ((↑g_1.2 : Int) = (↑l.n : Int) - (1 : Int)) else false then !decide (L.meet (l.g (L.ix l.n (↑g : Int))) (l.g (L.ix l.n ((↑g : Int) + (1 : Int)))) (l.g (L.ix l.n (↑g_1.2 : Int))) (l.g (L.ix l.n ((↑g_1.2 : Int) + (1 : Int)))) = (0 : Int)) else false) = true
 → false = L.simple l) ∧ ((bif bif bif decide ((↑g_1.2 : Int) = (↑g : Int) + (1 : Int)) then true else bif decide ((↑g : Int) = (0 : Int)) then decide ((↑g_1.2 : Int) = (↑l.n : Int) - (1 : Int)) else false then !decide (L.meet (l.g (L.ix l.n (↑g : Int))) (l.g (L.ix l.n ((↑g : Int) + (1 : Int)))) (l.g (L.ix l.n (↑g_1.2 : Int))) (l.g (L.ix l.n
 ((↑g_1.2 : Int) + (1 : Int)))) = (1 : Int)) else false then true else bif !bif decide ((↑g_1.2 : Int) = (↑g : Int) + (1 : Int)) then true else bif decide ((↑g : Int) = (0 : Int)) then decide ((↑g_1.2 : Int) = (↑l.n : Int) - (1 : Int)) else false then !decide (L.meet (l.g (L.ix l.n (↑g : Int))) (l.g (L.ix l.n ((↑g : Int) + (1 : Int))))
 (l.g (L.ix l.n (↑g_1.2 : Int))) (l.g (L.ix l.n ((↑g_1.2 : Int) + (1 : Int)))) = (0 : Int)) else false) = false → InK .i64 ((↑g_1.2 : Int) + (1 : Int)) ∧ ∃ (g' : Nat × Nat), (↑g_1.2 : Int) + (1 : Int) = (↑g'.2 : Int) ∧ (↑g : Int) = (↑g : Int) ∧ (↑l.n : Int) = (↑l.n : Int) ∧ (l.n = l.n ∧ ∀ (i : Nat), i < l.n → [SV.int .i64 (l.g i).x, SV.int
 .i64 (l.g i).y] = [SV.int .i64 (l.g i).x, SV.int .i64 (l.g i).y]) ∧ ((↑g : Int) = (↑g'.1 : Int) ∧ g'.1 < g'.2 ∧ g'.2 ≤ l.n ∧ (∀ (j : Nat), j < g'.1 → ∀ (k : Nat), j < k → k < l.n → L.okPair l j k = true) ∧ ∀ (k : Nat), g'.1 < k → k < g'.2 → L.okPair l g'.1 k = true) ∧ l.n - g'.2 < l.n - g_1.2)) ∧ (decide ((↑g_1.2 : Int) < (↑l.n : Int))
 = false → InK .i64 ((↑g : Int) + (1 : Int)) ∧ ∃ (g' : Nat), (↑g : Int) + (1 : Int) = (↑g' : Int) ∧ (↑l.n : Int) = (↑l.n : Int) ∧ (l.n = l.n ∧ ∀ (i : Nat), i < l.n → [SV.int .i64 (l.g i).x, SV.int .i64 (l.g i).y] = [SV.int .i64 (l.g i).x, SV.int .i64 (l.g i).y]) ∧ (g' ≤ l.n ∧ ∀ (j : Nat), j < g' → ∀ (k : Nat), j <
 k → k < l.n → L.okPair l j k = true) ∧ l.n - g' < l.n - g)) ∧ (decide ((↑g : Int) < (↑l.n : Int)) = false → true = L.simple l)) (by kernel_rfl) (by
    obtain ⟨hn, hb⟩ := hp
    have fin0 : ∀ {i k : Nat}, i < k → k < l.n → L.okPair l i k = false → false = L.simple l := fun {i k} hik hk h => by
      unfold L.simple
      rw [allB_false (i := i) (by omega) (allB_false (i := k) hk (by simp [hik, h]))]
    refine ⟨⟨(0 : Nat), rfl, Nat.zero_le _, fun j hj => absurd hj (Nat.not_lt_zero _)⟩, fun g hg => ⟨fun hlt => ?_, fun hge => ?_⟩⟩
    · have hb1 : (g : Int) < (l.n : Int) := of_decide_eq_true hlt
      refine ⟨InK.of (by omega) (by omega), ⟨(g, g + 1), by show (g : Int) + 1 = ((g + 1 : Nat) : Int); omega, rfl, Nat.lt_succ_self g, by show g + 1 ≤ l.n; omega, hg.2, fun k h1 h2 => ?_⟩, ?_⟩
      · have h1 : g < k := h1
        have h2 : k < g + 1 := h2
        omega
      rintro ⟨i, k⟩ ⟨e1, hik, hkn, h0, h1⟩
      have e1 : (g : Int) = (i : Int) := e1
      obtain rfl : g = i := by omega
      have hik : g < k := hik
      have hkn : k ≤ l.n := hkn
      have h0 : ∀ j, j < g → ∀ k, j < k → k < l.n → L.okPair l j k = true := h0
      have h1 : ∀ m, g < m → m < k → L.okPair l g m = true := h1
      dsimp only
      refine ⟨fun hlt2 => ?_, fun hge2 => ?_⟩
      · have hk : (k : Int) < (l.n : Int) := of_decide_eq_true hlt2
        have c5 : L.next l.n k < l.n := next_lt (by omega)
        have c2 : L.ix l.n ((g : Int) + 1) = g + 1 := by
          rw [show (g : Int) + 1 = ((g + 1 : Nat) : Int) by omega, ix_self (by omega)]
        rw [ix_self (n := l.n) (k := g) (by omega), c2, ix_self (n := l.n) (k := k) (by omega), ix_next (n := l.n) (k := k) (by omega)]
        have key : (bif (bif (bif decide ((k : Int) = (g : Int) + 1) then true else bif decide ((g : Int) = 0) then decide ((k : Int) = (l.n : Int) - 1) else false) then !decide (L.meet (l.g g) (l.g (g + 1)) (l.g k) (l.g (L.next l.n k)) = 1) else false) then true else bif !(bif decide ((k : Int) = (g : Int) + 1) then true else bif decide ((g : Int) = 0) then decide ((k : Int) = (l.n : Int) - 1) else false) then !decide (L.meet (l.g g) (l.g (g + 1)) (l.g k) (l.g (L.next l.n k)) = 0) else false) = !L.okPair l g k := by
          unfold L.okPair L.nxt L.how
          generalize (bif decide ((k : Int) = (g : Int) + 1) then true else bif decide ((g : Int) = 0) then decide ((k : Int) = (l.n : Int) - 1) else false) = q
          generalize decide (L.meet (l.g g) (l.g (g + 1)) (l.g k) (l.g (L.next l.n k)) = 1) = q1
          generalize decide (L.meet (l.g g) (l.g (g + 1)) (l.g k) (l.g (L.next l.n k)) = 0) = q2
          cases q <;> cases q1 <;> cases q2 <;> rfl
        rw [key]
        refine ⟨⟨fun _ _ => rfl, by omega, by omega, by omega, by omega⟩, InK.of (by omega) (by omega), ⟨fun _ _ => rfl, by omega, by omega, by omega, by omega⟩, ⟨fun _ _ => rfl, by omega, by omega, by omega, by omega⟩, InK.of (by omega) (by omega), ⟨fun _ _ => rfl, by omega, by omega, by omega, by omega⟩, ⟨hb g (by omega), hb (g + 1) (by omega), hb k (by omega), hb _ c5⟩, InK.of (by omega) (by omega), fun _ => InK.of (by omega) (by omega), fun h => fin0 hik (by omega) (notT h), fun h => ?_⟩
        have hok : L.okPair l g k = true := notF h
        refine ⟨InK.of (by omega) (by omega), (g, k + 1), by show (k : Int) + 1 = ((k + 1 : Nat) : Int); omega, rfl, rfl, ⟨rfl, fun _ _ => rfl⟩, ⟨rfl, by show g < k + 1; omega, by show k + 1 ≤ l.n; omega, h0, fun m hm1 hm2 => ?_⟩, by show l.n - (k + 1) < l.n - k; omega⟩
        have hm1 : g < m := hm1
        have hm2 : m < k + 1 := hm2
        show L.okPair l g m = true
        rcases Nat.lt_succ_iff_lt_or_eq.1 hm2 with h' | rfl
        · exact h1 m hm1 h'
        · exact hok
      · have hk : ¬ (k : Int) < (l.n : Int) := of_decide_eq_false hge2
        refine ⟨InK.of (by omega) (by omega), g + 1, by omega, rfl, ⟨rfl, fun _ _ => rfl⟩, ⟨by omega, fun j hj m hm1 hm2 => ?_⟩, by omega⟩
        rcases Nat.lt_succ_iff_lt_or_eq.1 hj with h' | rfl
        · exact h0 j h' m hm1 hm2
        · exact h1 m hm1 (by omega)
    · have hb1 : ¬ (g : Int) < (l.n : Int) := of_decide_eq_false hge
      unfold L.simple
      rw [allB_iff.2 (fun i hi => allB_iff.2 (fun k hk => ?_))]
      by_cases hik : i < k
      · simp [hik, hg.2 i (by omega) k hik hk]
      · simp [hik])
theorem r1_simple_ok : SpecOk Tryz.prog 87 r1_simple_S := fnX Tryz.func87 (c := bodyOf Tryz.f87) (by kernel_rfl) mixed (fun args p r hs hp => by
  unfold r1_simple_s at hs
  split at hs
  · cases hs; exact ⟨_, _, r1_simple_vc _ hp.2, (.p (.sl hp.1) .nil), ⟨show SpecsL Tryz.prog _ from (SpecsL.cons r1_at_ok r1_at_en (SpecsL.cons r1_meet_ok r1_meet_en SpecsL.nil)), rfl, ⟨show ItersL Tryz.prog _ from ItersL.nil, (TrsOk.none (fun _ => rfl))⟩⟩⟩
  · cases hs)
theorem r1_simple_en : Enters Tryz.prog 87 := fun args w => by kernel_rfl
def r1_ValidOutline_p (l : (L.Sq L.Pt)) : Prop := True
def r1_ValidOutline_r (l : (L.Sq L.Pt)) : SV := .bool (L.validOutline l)
def r1_ValidOutline_s : List EV → Option (Prop × SV)
  | [.p (.sl 2 l_n l_g)] => some ((∀ i, i < l_n → l_g i = [.int .i64 ((ofPt (l_g i)).x), .int .i64 ((ofPt (l_g i)).y)]) ∧ r1_ValidOutline_p (⟨l_n, fun i => ofPt (l_g i)⟩ : (L.Sq L.Pt)), r1_ValidOutline_r (⟨l_n, fun i => ofPt (l_g i)⟩ : (L.Sq L.Pt)))
  | _ => none
abbrev r1_ValidOutline_S : SE.Spec := (specO r1_ValidOutline_s)
def r1_ValidOutline_C : Cfg := { muts := [], frz := lookN [], specs := lookS [(74, r1_points_S), (87, r1_simple_S), (88, r1_sum_S), (92, r1_less_S), (76, r1_at_S), (93, r1_Cross_S)], loops := fun _ => none, iters := lookI [], rfs := lookR [], nils := lookM [] }
theorem r1_ValidOutline_vc (l : (L.Sq L.Pt)) (hp : r1_ValidOutline_p l) : vc Tryz.prog ({ r1_ValidOutline_C with loops := lookL [(4, { T := Nat, keep := [0], keepO := [], chg := fun i => [(3, .p (.int .i64 (i : Int)))], own := fun _ => [], inv := fun i => i ≤ l.n ∧ ∀ j, j < i → L.corner l j = true, mu := fun i => l.n - i })], rfs := lookR [] }) (bodyOf Tryz.f33) (st0 Tryz.f33 [.p (.sl 2 l.n (fun i => [.int .i64 ((l.g i).x), .int .i64 ((l.g i).y)]))]) (retFn Tryz.prog Tryz.f33 (r1_ValidOutline_r l)) :=
  @Eq.mpr _ (((!bif decide ((↑l.n : Int) < (3 : Int)) then true else decide ((24 : Int) < (↑l.n : Int))) = true → (∀ (i : Nat), i < l.n → [SV.int .i64 (l.g i).x, SV.int .i64 (l.g i).y] = [SV.int .i64 (l.g i).x, SV.int .i64 (l.g i).y]) ∧ l.n ≤ (1000000 : Nat)) ∧ ((!bif bif decide ((↑l.n : Int) < (3 : Int))
 then true else decide ((24 : Int) < (↑l.n : Int)) then true else !L.validPts (L.Sq.mk l.n fun (i : Nat) ↦ l.g i)) = true → (∀ (i : Nat), i < l.n → [SV.int .i64 (l.g i).x, SV.int .i64 (l.g i).y] = [SV.int .i64 (l.g i).x, SV.int .i64 (l.g i).y]) ∧ L.allBd (L.Sq.mk l.n fun (i : Nat) ↦ l.g i)) ∧ ((!bif bif bif
 decide ((↑l.n : Int) < (3 : Int)) then true else decide ((24 : Int) < (↑l.n : Int)) then true else !L.validPts (L.Sq.mk l.n fun (i : Nat) ↦ l.g i) then true else !L.simple (L.Sq.mk l.n fun (i : Nat) ↦ l.g i)) = true → (∀ (i : Nat), i < l.n → [SV.int .i64 (l.g i).x, SV.int .i64 (l.g i).y] = [SV.int .i64 (l.g
 i).x, SV.int .i64 (l.g i).y]) ∧ L.small (L.Sq.mk l.n fun (i : Nat) ↦ l.g i)) ∧ ((bif bif bif bif decide ((↑l.n : Int) < (3 : Int)) then true else decide ((24 : Int) < (↑l.n : Int)) then true else !L.validPts (L.Sq.mk l.n fun (i : Nat) ↦ l.g i) then true else !L.simple (L.Sq.mk l.n fun (i : Nat) ↦ l.g i) then true else decide
 (L.areaTo (L.Sq.mk l.n fun (i : Nat) ↦ l.g i) l.n ≤ (0 : Int))) = true → false = L.validOutline l) ∧ ((bif bif bif bif decide ((↑l.n : Int) < (3 : Int)) then true else decide ((24 : Int) < (↑l.n : Int)) then true else !L.validPts (L.Sq.mk l.n fun (i : Nat) ↦ l.g i) then true else !L.simple (L.Sq.mk l.n fun (i : Nat) ↦ l.g i) then true else
 decide (L.areaTo (L.Sq.mk l.n fun (i : Nat) ↦ l.g i) l.n ≤ (0 : Int))) = false → (∃ (g : Nat), (0 : Int) = (↑g : Int) ∧ g ≤ l.n ∧ ∀ (j : Nat), j < g → L.corner l j = true) ∧ ∀ (g : Nat), (g ≤ l.n ∧ ∀ (j : Nat), j < g → L.corner l j = true) → (decide ((↑g : Int) < (↑l.n : Int)) = true → (decide ((0 : Int) < (↑g : Int)) = true → (0 : Int) ≤ (0 :
 Int) ∧ (0 : Int) < (↑l.n : Int)) ∧ (decide ((0 : Int) < (↑g : Int)) = true → (0 : Int) ≤ (↑g : Int) ∧ (↑g : Int) < (↑l.n : Int)) ∧ (decide ((0 : Int) < (↑g : Int)) = true → True) ∧ ((!bif decide ((0 : Int) < (↑g : Int)) then !decide (L.cmpPt (l.g (Int.toNat (0 : Int))) (l.g (Int.toNat (↑g : Int))) < (0 : Int)) else false) = true →
 InK .i64 ((↑g : Int) - (1 : Int))) ∧ ((!bif decide ((0 : Int) < (↑g : Int)) then !decide (L.cmpPt (l.g (Int.toNat (0 : Int))) (l.g (Int.toNat (↑g : Int))) < (0 : Int)) else false) = true → (∀ (i : Nat), i < l.n → [SV.int .i64 (l.g i).x, SV.int .i64 (l.g i).y] = [SV.int .i64 (l.g i).x, SV.int
 .i64 (l.g i).y]) ∧ (1 : Nat) ≤ l.n ∧ l.n ≤ (1000000 : Nat) ∧ (-1000000 : Int) ≤ (↑g : Int) - (1 : Int) ∧ (↑g : Int) - (1 : Int) ≤ (1000000 : Int)) ∧ ((!bif decide ((0 : Int) < (↑g : Int)) then !decide (L.cmpPt (l.g (Int.toNat (0 : Int))) (l.g (Int.toNat (↑g : Int))) < (0 : Int)) else false) = true → (0 : Int) ≤ (↑g : Int) ∧ (↑g : Int) < (↑l.n : Int)) ∧
 ((!bif decide ((0 : Int) < (↑g : Int)) then !decide (L.cmpPt (l.g (Int.toNat (0 : Int))) (l.g (Int.toNat (↑g : Int))) < (0 : Int)) else false) = true → InK .i64 ((↑g : Int) + (1 : Int))) ∧ ((!bif decide ((0 : Int) < (↑g : Int)) then !decide (L.cmpPt (l.g (Int.toNat (0 : Int))) (l.g (Int.toNat (↑g : Int))) < (0 : Int)) else
 false) = true → (∀ (i : Nat), i < l.n → [SV.int .i64 (l.g i).x, SV.int .i64 (l.g i).y] = [SV.int .i64 (l.g i).x, SV.int .i64 (l.g i).y]) ∧ (1 : Nat) ≤ l.n ∧ l.n ≤ (1000000 : Nat) ∧ (-1000000 : Int) ≤ (↑g : Int) + (1 : Int) ∧ (↑g : Int) + (1 : Int) ≤ (1000000 : Int)) ∧ ((!bif decide ((0 : Int) < (↑g : Int)) then
 !decide (L.cmpPt (l.g (Int.toNat (0 : Int))) (l.g (Int.toNat (↑g : Int))) < (0 : Int)) else false) = true → L.bd (l.g (L.ix l.n ((↑g : Int) - (1 : Int)))) ∧ L.bd (l.g (Int.toNat (↑g : Int))) ∧ L.bd (l.g (L.ix l.n ((↑g : Int) + (1 : Int))))) ∧ ((bif bif decide ((0 : Int) < (↑g : Int)) then !decide (L.cmpPt (l.g (Int.toNat (0 : Int))) (l.g (Int.toNat (↑g :
 Int))) < (0 : Int)) else false then true else decide (L.cross (l.g (L.ix l.n ((↑g : Int) - (1 : Int)))) (l.g (Int.toNat (↑g : Int))) (l.g (L.ix l.n ((↑g : Int) + (1 : Int)))) = (0 : Int))) = true → false = L.validOutline l) ∧ ((bif bif decide ((0 : Int) < (↑g : Int)) then !decide (L.cmpPt (l.g (Int.toNat (0 : Int))) (l.g (Int.toNat (↑g : Int))) <
 (0 : Int)) else false then true else decide (L.cross (l.g (L.ix l.n ((↑g : Int) - (1 : Int)))) (l.g (Int.toNat (↑g : Int))) (l.g (L.ix l.n ((↑g : Int) + (1 : Int)))) = (0 : Int))) = false → InK .i64 ((↑g : Int) + (1 : Int)) ∧ ∃ (g' : Nat), (↑g : Int) + (1 : Int) = (↑g' : Int) ∧ (l.n = l.n ∧ ∀ (i : Nat), i < l.n → [SV.int .i64 (l.g i).x,
 SV.int .i64 (l.g i).y] = [SV.int .i64 (l.g i).x, SV.int .i64 (l.g i).y]) ∧ (g' ≤ l.n ∧ ∀ (j : Nat), j < g' → L.corner l j = true) ∧ l.n - g' < l.n - g)) ∧ (decide ((↑g : Int) < (↑l.n : Int)) = false → true = L.validOutline l))) (by kernel_rfl) (by
    have c1 : (bif decide ((l.n : Int) < 3) then true else decide (24 < (l.n : Int))) = !L.within (l.n : Int) 3 24 := by
      rw [bor, Bool.eq_iff_iff, Bool.or_eq_true, decide_eq_true_eq, decide_eq_true_eq, Bool.not_eq_true', Bool.eq_false_iff, Ne, within_iff]
      omega
    rw [c1]
    have sp : L.within (l.n : Int) 3 24 = true → L.validPts l = true → 3 ≤ l.n ∧ l.n ≤ 24 ∧ L.small l ∧ L.allBd l := valid3_spec
    refine ⟨fun h => ⟨fun _ _ => rfl, ?_⟩, fun h => ⟨fun _ _ => rfl, ?_⟩, fun h => ⟨fun _ _ => rfl, ?_⟩, fun h => ?_, fun h => ?_⟩
    · have := within_iff.1 (notF (notT h)); omega
    · have h := notT h
      rw [bor, Bool.or_eq_false_iff] at h
      exact (sp (notF h.1) (notF h.2)).2.2.2
    · have h := notT h
      rw [bor, bor, Bool.or_eq_false_iff, Bool.or_eq_false_iff] at h
      exact (sp (notF h.1.1) (notF h.1.2)).2.2.1
    · have h : (bif bif bif !L.within (l.n : Int) 3 24 then true else !L.validPts l then true else !L.simple l then true else decide (L.areaTo l l.n ≤ 0)) = true := h
      have e3 : L.valid3 l = false ∨ L.simple l = false := by
        rw [bor, bor, bor, Bool.or_eq_true, Bool.or_eq_true, Bool.or_eq_true] at h
        unfold L.valid3
        rcases h with ((h | h) | h) | h
        · rw [notT h]; exact .inl rfl
        · rw [notT h]; left; cases L.within (l.n : Int) 3 24 <;> rfl
        · exact .inr (notT h)
        · left
          have := of_decide_eq_true h
          rw [decide_eq_false (show ¬ 0 < L.areaTo l l.n by omega)]
          cases L.within (l.n : Int) 3 24 <;> cases L.validPts l <;> rfl
      unfold L.validOutline
      rcases e3 with e3 | e3 <;> rw [e3] <;> simp
    have h : (bif bif bif !L.within (l.n : Int) 3 24 then true else !L.validPts l then true else !L.simple l then true else decide (L.areaTo l l.n ≤ 0)) = false := h
    rw [bor, bor, bor, Bool.or_eq_false_iff, Bool.or_eq_false_iff, Bool.or_eq_false_iff] at h
    obtain ⟨⟨⟨h1, h2⟩, h3⟩, h4⟩ := h
    have h1 := notF h1
    have h2 := notF h2
    have h3 := notF h3
    have h4 := of_decide_eq_false h4
    obtain ⟨n3, n24, hsm, hbd⟩ := sp h1 h2
    have hv : L.valid3 l = true := by
      unfold L.valid3; rw [h1, h2, decide_eq_true (show 0 < L.areaTo l l.n by omega)]; rfl
    refine ⟨⟨(0 : Nat), rfl, Nat.zero_le _, fun j hj => absurd hj (Nat.not_lt_zero _)⟩, fun g hg => ⟨fun hlt => ?_, fun hge => ?_⟩⟩
    · have hb : (g : Int) < (l.n : Int) := of_decide_eq_true hlt
      have hk : g < l.n := by omega
      have e0 : ((g : Int)).toNat = g := by omega
      have key := corner_eq (l := l) (k := g)
      rw [e0, ix_prev hk, ix_next hk]
      refine ⟨fun _ => by omega, fun _ => by omega, fun _ => trivial, fun _ => InK.of (by omega) (by omega), fun _ => ⟨fun _ _ => rfl, by omega, by omega, by omega, by omega⟩, fun _ => by omega, fun _ => InK.of (by omega) (by omega), fun _ => ⟨fun _ _ => rfl, by omega, by omega, by omega, by omega⟩, fun _ => ⟨hbd.2 _ (prev_lt (by omega)), hbd.2 _ hk, hbd.2 _ (next_lt (by omega))⟩, fun h => ?_, fun h => ?_⟩
      · have h : L.corner l g = false := notT (key.symm.trans h)
        unfold L.validOutline
        rw [allB_false hk h]; simp
      · have h : L.corner l g = true := notF (key.symm.trans h)
        exact ⟨InK.of (by omega) (by omega), g + 1, by omega, ⟨rfl, fun _ _ => rfl⟩, ⟨by omega, fun j hj => by
          rcases Nat.lt_succ_iff_lt_or_eq.1 hj with h' | rfl
          · exact hg.2 j h'
          · exact h⟩, by omega⟩
    · have hb : ¬ (g : Int) < (l.n : Int) := of_decide_eq_false hge
      unfold L.validOutline
      rw [hv, allB_iff.2 (fun i hi => hg.2 i (by omega)), h3]; rfl)
theorem r1_ValidOutline_ok : SpecOk Tryz.prog 33 r1_ValidOutline_S := fnX Tryz.func33 (c := bodyOf Tryz.f33) (by kernel_rfl) mixed (fun args p r hs hp => by
  unfold r1_ValidOutline_s at hs
  split at hs
  · cases hs; exact ⟨_, _, r1_ValidOutline_vc _ hp.2, (.p (.sl hp.1) .nil), ⟨show SpecsL Tryz.prog _ from (SpecsL.cons r1_points_ok r1_points_en (SpecsL.cons r1_simple_ok r1_simple_en (SpecsL.cons r1_sum_ok r1_sum_en (SpecsL.cons r1_less_ok r1_less_en (SpecsL.cons r1_at_ok r1_at_en (SpecsL.cons r1_Cross_ok r1_Cross_en SpecsL.nil)))))), rfl, ⟨show ItersL Tryz.prog _ from ItersL.nil, (TrsOk.none (fun _ => rfl))⟩⟩⟩
  · cases hs)
theorem r1_ValidOutline_en : Enters Tryz.prog 33 := fun args w => by kernel_rfl
end Go.Proofs.YtooapgllahonaaaGreat

namespace Go.Proofs.YtooapgllahonaaaGreat
open Go.SE Go.RowKit
set_option maxRecDepth 100000
set_option maxHeartbeats 4000000
set_option linter.unusedVariables false
attribute [local irreducible] vc

def L.bendR (l : L.Sq L.Pt) (i : Int) : Int := bif decide (0 < L.cross (l.g (L.ix l.n (i - 1))) (l.g (L.ix l.n i)) (l.g (L.ix l.n (i + 1)))) then 1 else -1
def L.measR (l : L.Sq L.Pt) (s : L.Setting) (i : Int) : L.Meas :=
  bif s.back then ⟨L.dist (l.g (L.ix l.n (s.shift - i))) (l.g (L.ix l.n (s.shift - i + 1))), L.dist (l.g (L.ix l.n (s.shift - i - 1))) (l.g (L.ix l.n (s.shift - i + 1))), L.bendR l (s.shift - i)⟩
  else ⟨L.dist (l.g (L.ix l.n (s.shift + i))) (l.g (L.ix l.n (s.shift + i + 1))), L.dist (l.g (L.ix l.n (s.shift + i))) (l.g (L.ix l.n (s.shift + i + 2))), L.bendR l (s.shift + i + 1)⟩
theorem pt_ix {l : L.Sq L.Pt} {a : Int} (hn : 0 < l.n) (h : 0 ≤ a + (l.n : Int)) : L.pt l a = l.g (L.ix l.n a) := by
  unfold L.pt
  have h1 := ix_emod (a := a) hn
  rw [Int.tmod_eq_emod_of_nonneg h, Int.add_emod_right, ← h1, Int.toNat_natCast]
theorem bend_ix {l : L.Sq L.Pt} (hv : L.validOutline l = true) (a : Int) : L.bend l (L.ix l.n a) = L.bendR l a := by
  have hn := (validOutline_of hv).1
  have hk := ix_lt (n := l.n) (i := a) (by omega)
  have hc := (outline_all hv).2 _ hk
  unfold L.bend L.bendR
  have e1 : L.prev l.n (L.ix l.n a) = L.ix l.n (a - 1) := by
    rw [← ix_prev hk, show ((L.ix l.n a : Nat) : Int) - 1 = ((L.ix l.n a : Nat) : Int) + -1 by omega, ix_ix (by omega)]; rfl
  have e2 : L.next l.n (L.ix l.n a) = L.ix l.n (a + 1) := by
    rw [← ix_next hk, ix_ix (by omega)]
  rw [e1, e2] at hc ⊢
  generalize L.cross (l.g (L.ix l.n (a - 1))) (l.g (L.ix l.n a)) (l.g (L.ix l.n (a + 1))) = q at hc ⊢
  unfold L.cmp
  by_cases h : 0 < q
  · rw [decide_eq_true h, decide_eq_false (by omega)]; rfl
  · rw [decide_eq_false h, decide_eq_true (show q < 0 by omega)]; rfl
theorem sq_ix {l : L.Sq L.Pt} (hv : L.validOutline l = true) {a b : Int} (ha : 0 ≤ a + (l.n : Int)) (hb : 0 ≤ b + (l.n : Int)) : L.sq l a b = L.dist (l.g (L.ix l.n a)) (l.g (L.ix l.n b)) := by
  have hn := (validOutline_of hv).1
  unfold L.sq
  rw [pt_ix (by omega) ha, pt_ix (by omega) hb, (outline_all hv).1 _ (ix_lt (by omega)), (outline_all hv).1 _ (ix_lt (by omega))]; rfl
theorem meas_eq {l : L.Sq L.Pt} {s : L.Setting} {i : Nat} (hv : L.validOutline l = true) (h1 : 0 ≤ s.shift) (h2 : s.shift < (l.n : Int)) (hi : i < l.n) : L.meas l s i = L.measR l s (i : Int) := by
  have hn : 0 < l.n := by have := (validOutline_of hv).1; omega
  unfold L.meas L.measR
  cases s.back with
  | false =>
    have hK0 := Int.tmod_nonneg (l.n : Int) (show 0 ≤ s.shift + (i : Int) by omega)
    have hK1 := Int.tmod_lt_of_pos (s.shift + (i : Int)) (show 0 < (l.n : Int) by omega)
    have hK : L.kF l s i % (l.n : Int) = (s.shift + (i : Int)) % (l.n : Int) := by
      unfold L.kF; rw [Int.tmod_eq_emod_of_nonneg (by omega), Int.emod_emod]
    have hk0 : 0 ≤ L.kF l s i := hK0
    have e0 : L.ix l.n (L.kF l s i) = L.ix l.n (s.shift + (i : Int)) := by
      have := ix_congr hn hK 0
      rwa [Int.add_zero, Int.add_zero] at this
    have e3 : (Int.tmod (L.kF l s i + 1) (l.n : Int)).toNat = L.ix l.n (s.shift + (i : Int) + 1) := by
      rw [← ix_congr hn hK 1]
      have := ix_emod (a := L.kF l s i + 1) hn
      rw [Int.tmod_eq_emod_of_nonneg (by omega), ← this, Int.toNat_natCast]
    simp only [cond_false]
    rw [sq_ix hv (by omega) (by omega), sq_ix hv (by omega) (by omega), e0, ix_congr hn hK 1, ix_congr hn hK 2, e3, bend_ix hv]
  | true =>
    have hK0 := Int.tmod_nonneg (l.n : Int) (show 0 ≤ s.shift + (l.n : Int) - (i : Int) by omega)
    have hK1 := Int.tmod_lt_of_pos (s.shift + (l.n : Int) - (i : Int)) (show 0 < (l.n : Int) by omega)
    have hK : L.kB l s i % (l.n : Int) = (s.shift - (i : Int)) % (l.n : Int) := by
      unfold L.kB
      rw [Int.tmod_eq_emod_of_nonneg (by omega), Int.emod_emod, show s.shift + (l.n : Int) - (i : Int) = s.shift - (i : Int) + (l.n : Int) by omega, Int.add_emod_right]
    have hk0 : 0 ≤ L.kB l s i := hK0
    have hk1 : L.kB l s i < (l.n : Int) := hK1
    have e0 : L.ix l.n (L.kB l s i) = L.ix l.n (s.shift - (i : Int)) := by
      have := ix_congr hn hK 0
      rwa [Int.add_zero, Int.add_zero] at this
    have e3 : (L.kB l s i).toNat = L.ix l.n (s.shift - (i : Int)) := by
      rw [← e0]
      have := ix_self (n := l.n) (k := (L.kB l s i).toNat) (by omega)
      rw [Int.toNat_of_nonneg hk0] at this
      exact this.symm
    simp only [cond_true]
    rw [sq_ix hv (by omega) (by omega), sq_ix hv (by omega) (by omega), e0, ix_congr hn hK 1, show L.kB l s i - 1 = L.kB l s i + -1 by omega, ix_congr hn hK (-1), e3, bend_ix hv]
    rfl
theorem gauge_ok {l : L.Sq L.Gauge} (h : L.gauges l = true) : (3 ≤ l.n ∧ l.n ≤ 24) ∧ ∀ i, i < l.n → 1 ≤ (l.g i).edge.lo ∧ (l.g i).edge.lo ≤ (l.g i).edge.hi ∧ (l.g i).edge.hi ≤ 33554432 ∧ 0 ≤ (l.g i).across.lo ∧ (l.g i).across.lo ≤ (l.g i).across.hi ∧ (l.g i).across.hi ≤ 33554432 ∧ -1 ≤ (l.g i).bend ∧ (l.g i).bend ≤ 1 := by
  unfold L.gauges at h
  rw [band, Bool.and_eq_true, within_iff, allB_iff] at h
  refine ⟨by omega, fun i hi => ?_⟩
  have := h.2 i hi
  unfold L.vGauge L.vSpan at this
  simp only [band, Bool.and_eq_true, decide_eq_true_eq, within_iff] at this
  omega
end Go.Proofs.YtooapgllahonaaaGreat
