/- A symbolic walk over the model, and what it shows of functions of the program: parts of the proof that the text of the row joins. -/
import Derived.Test.YtooapgllahonaaaGreatW2
import Derived.Test.YtooapgllahonaaaGreatE4
import Derived.KernelRfl
import Derived.Test.YtooapgllahonaaaGreatW1

namespace Go.Proofs.YtooapgllahonaaaGreat
open Go.SE Go.RowKit
set_option maxRecDepth 100000
set_option maxHeartbeats 4000000
set_option linter.unusedVariables false
attribute [local irreducible] vc

def L.rsI (s : L.Setting) (n j : Nat) : Nat := (L.lay (L.inv s n) n j).toNat
def L.rsG1 (p : L.Piece) (s : L.Setting) (i : Nat) : L.Gauge := bif s.back then ⟨(p.gauges.g i).edge, (p.gauges.g (L.prev p.gauges.n i)).across, (p.gauges.g (L.prev p.gauges.n i)).bend⟩ else p.gauges.g i
def L.rsTo (p : L.Piece) (s : L.Setting) (i j : Nat) : L.Gauge := bif decide (L.rsI s p.gauges.n j < i) then L.rsG1 p s (L.rsI s p.gauges.n j) else ⟨⟨0, 0⟩, ⟨0, 0⟩, 0⟩
def L.rsGs (p : L.Piece) (s : L.Setting) : L.Sq L.Gauge := ⟨p.gauges.n, fun j => L.rsG1 p s (L.rsI s p.gauges.n j)⟩
def L.rsM1 (s : L.Setting) (n : Nat) (m : L.Mark) : L.Mark := ⟨L.lay s n m.edge, bif s.back then 16 - m.place else m.place, m.tone⟩
def L.rsMs (l : L.Sq L.Mark) (s : L.Setting) (n : Nat) : L.Sq L.Mark := ⟨l.n, fun k => L.rsM1 s n (l.g k)⟩
def L.rsMTo (l : L.Sq L.Mark) (s : L.Setting) (n i k : Nat) : L.Mark := bif decide (k < i) then L.rsM1 s n (l.g k) else l.g k
def L.rs (p : L.Piece) (s : L.Setting) : L.Piece := ⟨p.id, bif s.back then p.rev else p.colour, bif s.back then p.colour else p.rev, p.made, p.swell, L.rsGs p s, L.sortM (L.rsMs p.marks s p.gauges.n)⟩
theorem lay_one {n i : Int} (h0 : 0 ≤ i) (h1 : i < n) : L.lay L.one n i = i := by
  rw [lay_lin (s := L.one) (Int.le_refl 0) (show (0 : Int) < n by omega) h0 h1]
  show (0 + 1 * i) % n = i
  rw [Int.zero_add, Int.one_mul, Int.emod_eq_of_lt h0 h1]
theorem rsI_lay {s : L.Setting} {n i : Nat} (hs : L.validSet s n = true) (hi : i < n) : 0 ≤ L.lay s n i ∧ L.lay s n i < n ∧ L.rsI s n (L.lay s n i).toNat = i := by
  have h := inv_ok hs
  obtain ⟨e, a, b⟩ := lay_comp hs h.2.1 (i := (i : Int)) (by omega) (by omega)
  refine ⟨a, b, ?_⟩
  unfold L.rsI
  rw [Int.toNat_of_nonneg a, e, h.2.2, lay_one (by omega) (by omega), Int.toNat_natCast]
theorem lay_rsI {s : L.Setting} {n j : Nat} (hs : L.validSet s n = true) (hj : j < n) : L.rsI s n j < n ∧ L.lay s n ((L.rsI s n j : Nat) : Int) = (j : Int) := by
  have h := inv_ok hs
  obtain ⟨e, a, b⟩ := lay_comp h.2.1 hs (i := (j : Int)) (by omega) (by omega)
  unfold L.rsI
  rw [one_inv hs, lay_one (by omega) (by omega)] at e
  exact ⟨by omega, by rw [Int.toNat_of_nonneg a, e]⟩
theorem rsTo_step {p : L.Piece} {s : L.Setting} {i : Nat} (hs : L.validSet s p.gauges.n = true) (hi : i < p.gauges.n) {j : Nat} (hj : j < p.gauges.n) : L.rsTo p s (i + 1) j = if j = (L.lay s p.gauges.n i).toNat then L.rsG1 p s i else L.rsTo p s i j := by
  obtain ⟨a, b, c⟩ := rsI_lay hs hi
  obtain ⟨d, e⟩ := lay_rsI hs hj
  unfold L.rsTo
  by_cases h : j = (L.lay s p.gauges.n i).toNat
  · rw [if_pos h, h, c, decide_eq_true (Nat.lt_succ_self i)]; rfl
  · rw [if_neg h]
    have hne : L.rsI s p.gauges.n j ≠ i := fun hx => by rw [hx] at e; omega
    by_cases hl : L.rsI s p.gauges.n j < i
    · rw [decide_eq_true hl, decide_eq_true (by omega)]
    · rw [decide_eq_false hl, decide_eq_false (by omega)]
theorem fif {p : Prop} (h : p) : (((p ∧ p ∧ p) ∧ (p ∧ p) ∧ p) ∧ (p ∧ p ∧ p) ∧ p) ∧ ((p ∧ p ∧ p) ∧ p) ∧ p := ⟨⟨⟨⟨h, h, h⟩, ⟨h, h⟩, h⟩, ⟨h, h, h⟩, h⟩, ⟨⟨h, h, h⟩, h⟩, h⟩
theorem rsI_lt (s : L.Setting) {n : Nat} (hn : 0 < n) (j : Nat) : L.rsI s n j < n := by
  have h : ∀ x : Int, Int.tmod x n < n := fun x => Int.tmod_lt_of_pos x (by omega)
  unfold L.rsI L.lay
  cases (L.inv s n).back with
  | true => have := h ((L.inv s n).shift + n - j); rw [cond_true]; omega
  | false => have := h ((L.inv s n).shift + j); rw [cond_false]; omega
theorem rsTo_full {p : L.Piece} {s : L.Setting} (hn : 0 < p.gauges.n) (j : Nat) : L.rsTo p s p.gauges.n j = L.rsG1 p s (L.rsI s p.gauges.n j) := by
  unfold L.rsTo
  rw [decide_eq_true (rsI_lt s hn j)]; rfl
theorem sortM_congr {n : Nat} {f g : Nat → L.Mark} (h : ∀ k, k < n → f k = g k) : L.sortM ⟨n, f⟩ = L.sortM ⟨n, g⟩ := by
  have : L.listMk ⟨n, f⟩ = L.listMk ⟨n, g⟩ := List.map_congr_left fun k hk => h k (List.mem_range.1 hk)
  unfold L.sortM
  rw [this]
theorem rsMTo_at {l : L.Sq L.Mark} {s : L.Setting} {n q : Nat} : L.rsMTo l s n q q = l.g q := by
  unfold L.rsMTo; rw [decide_eq_false (Nat.lt_irrefl q)]; rfl
theorem rsMTo_step {l : L.Sq L.Mark} {s : L.Setting} {n q i : Nat} : L.rsMTo l s n (q + 1) i = if i = q then L.rsM1 s n (l.g q) else L.rsMTo l s n q i := by
  unfold L.rsMTo
  by_cases h : i = q
  · rw [if_pos h, h, decide_eq_true (Nat.lt_succ_self q)]; rfl
  · rw [if_neg h]
    by_cases hl : i < q
    · rw [decide_eq_true hl, decide_eq_true (by omega)]
    · rw [decide_eq_false hl, decide_eq_false (by omega)]
theorem piece_of {p : L.Piece} (h : L.validPiece p = true) : L.nums p = true ∧ L.gauges p.gauges = true ∧ L.vMarks p.marks p.gauges.n = true := by
  unfold L.validPiece at h
  rw [band, band, Bool.and_eq_true, Bool.and_eq_true] at h
  exact ⟨h.1.1, h.1.2, h.2⟩
theorem gauges_n {l : L.Sq L.Gauge} (h : L.gauges l = true) : 3 ≤ l.n ∧ l.n ≤ 24 := by
  unfold L.gauges at h
  rw [band, Bool.and_eq_true, within_iff] at h
  omega
theorem marks_in {l : L.Sq L.Mark} {n : Int} (h : L.vMarks l n = true) : l.n ≤ 32 ∧ ∀ k, k < l.n → (0 ≤ (l.g k).edge ∧ (l.g k).edge < n) ∧ (0 ≤ (l.g k).place ∧ (l.g k).place ≤ 16) ∧ 1 ≤ (l.g k).tone ∧ (l.g k).tone ≤ 16 := by
  unfold L.vMarks L.edges L.marks at h
  simp only [band, Bool.and_eq_true, decide_eq_true_eq, allB_iff, within_iff] at h
  refine ⟨by omega, fun k hk => ?_⟩
  have a := h.1 k hk
  have b := (h.2.2 k hk)
  unfold L.mark1 at b
  simp only [band, Bool.and_eq_true, bor, Bool.or_eq_true, Bool.not_eq_true', within_iff] at b
  omega
def g_sortedM_p (l : (L.Sq L.Mark)) : Prop := l.n ≤ 1000000
def g_sortedM_q (l : (L.Sq L.Mark)) : Nat → Prop := fun _ => True
def g_sortedM_n (l : (L.Sq L.Mark)) : Nat → Nat := fun _ => l.n
def g_sortedM_g (l : (L.Sq L.Mark)) : Nat → Nat → List SV := fun _ k => [.int .i64 (((L.sortM l).g k).edge), .int .i64 (((L.sortM l).g k).place), .int .i64 (((L.sortM l).g k).tone)]
def g_sortedM_s : List EV → Option (Prop × (Nat → Prop) × (Nat → Nat) × (Nat → Nat → List SV))
  | [.p (.sl 3 l_n l_g), .p (.clo 129 [])] => some ((∀ i, i < l_n → l_g i = [.int .i64 ((ofMark (l_g i)).edge), .int .i64 ((ofMark (l_g i)).place), .int .i64 ((ofMark (l_g i)).tone)]) ∧ g_sortedM_p (⟨l_n, fun i => ofMark (l_g i)⟩ : (L.Sq L.Mark)), g_sortedM_q (⟨l_n, fun i => ofMark (l_g i)⟩ : (L.Sq L.Mark)), g_sortedM_n (⟨l_n, fun i => ofMark (l_g i)⟩ : (L.Sq L.Mark)), g_sortedM_g (⟨l_n, fun i => ofMark (l_g i)⟩ : (L.Sq L.Mark)))
  | _ => none
abbrev g_sortedM_S : SE.Spec := (specF Nat 0 87 3 g_sortedM_s)
def g_sortedM_C : Cfg := { muts := [8], frz := lookN [], specs := lookS [(178, s_valM_S), (177, s_sortedM_S)], loops := lookL [], iters := lookI [], rfs := lookR [], nils := lookM [], raws := [177] }
theorem g_sortedM_vc (l : (L.Sq L.Mark)) (hp : g_sortedM_p l) : vc Tryz.prog (g_sortedM_C) (bodyOf Tryz.f128) (st0 Tryz.f128 [.p (.sl 3 l.n (fun i => [.int .i64 ((l.g i).edge), .int .i64 ((l.g i).place), .int .i64 ((l.g i).tone)])), .p (.clo 129 [])]) (retFresh Tryz.prog Tryz.f128 (Nat) (g_sortedM_q l) 87 3 (g_sortedM_n l) (g_sortedM_g l)) :=
  @Eq.mpr _ (((∀ (i : Nat), i < l.n → [SV.int .i64 (l.g i).edge, SV.int .i64 (l.g i).place, SV.int .i64 (l.g i).tone] = [SV.int .i64 (l.g i).edge, SV.int .i64 (l.g i).place, SV.int .i64 (l.g i).tone]) ∧ l.n ≤ (1000000 : Nat)) ∧ ((∀ (i : Nat), i < l.n → [SV.int .i64 (l.g i).edge, SV.int
 .i64 (l.g i).place, SV.int .i64 (l.g i).tone] = [SV.int .i64 (l.g i).edge, SV.int .i64 (l.g i).place, SV.int .i64 (l.g i).tone]) ∧ l.n ≤ (1000000 : Nat)) ∧ ∀ (t : Nat), True → ∃ (t : Nat), (l.n = l.n ∧ ∀ (i : Nat), i < l.n → [SV.int .i64 ((L.sortM (L.Sq.mk l.n fun (i : Nat) ↦ l.g i)).g i).edge, SV.int
 .i64 ((L.sortM (L.Sq.mk l.n fun (i : Nat) ↦ l.g i)).g i).place, SV.int .i64 ((L.sortM (L.Sq.mk l.n fun (i : Nat) ↦ l.g i)).g i).tone] = [SV.int .i64 ((L.sortM l).g i).edge, SV.int .i64 ((L.sortM l).g i).place, SV.int .i64 ((L.sortM l).g i).tone]) ∧ True) (by kernel_rfl) (by
    have hn : l.n ≤ 1000000 := hp
    exact ⟨⟨fun _ _ => rfl, hn⟩, ⟨fun _ _ => rfl, hn⟩, fun t _ => ⟨(0 : Nat), ⟨rfl, fun _ _ => rfl⟩, trivial⟩⟩)
theorem g_sortedM_ok : SpecOk Tryz.prog 128 g_sortedM_S := freshX Tryz.func128 (c := bodyOf Tryz.f128) (by kernel_rfl) mixed (fun args p q n g hs hp => by
  unfold g_sortedM_s at hs
  split at hs
  · cases hs; exact ⟨_, _, g_sortedM_vc _ hp.2, (.p (.sl hp.1) (.p (Ext.clo rfl (fun i hi => by
      
      exact absurd hi (by simp; try omega))) .nil)), ⟨show SpecsL Tryz.prog _ from (SpecsL.cons s_valM_ok s_valM_en (SpecsL.cons s_sortedM_ok s_sortedM_en SpecsL.nil)), rfl, ⟨show ItersL Tryz.prog _ from ItersL.nil, (TrsOk.none (fun _ => rfl))⟩⟩⟩
  · cases hs)
theorem g_sortedM_en : Enters Tryz.prog 128 := fun args w => by kernel_rfl
def g_reset_p (p : L.Piece) (s : L.Setting) : Prop := L.validPiece p = true ∧ L.validSet s p.gauges.n = true
def g_reset_r (p : L.Piece) (s : L.Setting) : SV := (.agg [.int .i64 ((L.rs p s).id), .int .i64 ((L.rs p s).colour), .int .i64 ((L.rs p s).rev), .int .i64 ((L.rs p s).made), .int .i64 ((L.rs p s).swell), .sl 5 (L.rs p s).gauges.n (fun i => [.int .i64 (((L.rs p s).gauges.g i).edge.lo), .int .i64 (((L.rs p s).gauges.g i).edge.hi), .int .i64 (((L.rs p s).gauges.g i).across.lo), .int .i64 (((L.rs p s).gauges.g i).across.hi), .int .i64 (((L.rs p s).gauges.g i).bend)]), .sl 3 (L.rs p s).marks.n (fun i => [.int .i64 (((L.rs p s).marks.g i).edge), .int .i64 (((L.rs p s).marks.g i).place), .int .i64 (((L.rs p s).marks.g i).tone)])])
def g_reset_s : List EV → Option (Prop × SV)
  | [.p (.agg [.int .i64 p_id, .int .i64 p_colour, .int .i64 p_rev, .int .i64 p_made, .int .i64 p_swell, .sl 5 p_gauges_n p_gauges_g, .sl 3 p_marks_n p_marks_g]), .p (.agg [.int .i64 s_shift, .bool s_back])] => some ((∀ i, i < p_gauges_n → p_gauges_g i = [.int .i64 ((ofGauge (p_gauges_g i)).edge.lo), .int .i64 ((ofGauge (p_gauges_g i)).edge.hi), .int .i64 ((ofGauge (p_gauges_g i)).across.lo), .int .i64 ((ofGauge (p_gauges_g i)).across.hi), .int .i64 ((ofGauge (p_gauges_g i)).bend)]) ∧ (∀ i, i < p_marks_n → p_marks_g i = [.int .i64 ((ofMark (p_marks_g i)).edge), .int .i64 ((ofMark (p_marks_g i)).place), .int .i64 ((ofMark (p_marks_g i)).tone)]) ∧ g_reset_p (⟨p_id, p_colour, p_rev, p_made, p_swell, (⟨p_gauges_n, fun i => ofGauge (p_gauges_g i)⟩ : (L.Sq L.Gauge)), (⟨p_marks_n, fun i => ofMark (p_marks_g i)⟩ : (L.Sq L.Mark))⟩ : L.Piece) (⟨s_shift, s_back⟩ : L.Setting), g_reset_r (⟨p_id, p_colour, p_rev, p_made, p_swell, (⟨p_gauges_n, fun i => ofGauge (p_gauges_g i)⟩ : (L.Sq L.Gauge)), (⟨p_marks_n, fun i => ofMark (p_marks_g i)⟩ : (L.Sq L.Mark))⟩ : L.Piece) (⟨s_shift, s_back⟩ : L.Setting))
  | _ => none
abbrev g_reset_S : SE.Spec := (specO g_reset_s)
def g_reset_C : Cfg := { muts := [4, 6, 8, 11, 13, 19, 62, 98], frz := lookN [(22, [19, 98])], specs := lookS [(127, p_Edge_S), (114, s_cloneM_S), (128, g_sortedM_S), (129, g_cmpMarks_S)], loops := fun _ => none, iters := lookI [], rfs := lookR [], nils := lookM [], anys := [10, 23], raws := [128] }
theorem g_reset_vc (p : L.Piece) (s : L.Setting) (hp : g_reset_p p s) : vc Tryz.prog ({ g_reset_C with loops := lookL [(5, { T := Nat, keep := [2, 3, 4, 5, 6, 22, 23], keepO := [4, 6], chg := fun i => [(24, .p (.int .i64 (i : Int)))], own := fun i => [(19, .row 92 5 p.gauges.n (fun j => [.int .i64 ((L.rsTo p s i j).edge.lo), .int .i64 ((L.rsTo p s i j).edge.hi), .int .i64 ((L.rsTo p s i j).across.lo), .int .i64 ((L.rsTo p s i j).across.hi), .int .i64 ((L.rsTo p s i j).bend)]))], inv := fun i => i ≤ p.gauges.n, mu := fun i => p.gauges.n - i }), (15, { T := Nat, keep := [2, 3, 4, 5, 6, 65, 66], keepO := [4, 6, 19], chg := fun i => [(67, .p (.int .i64 (i : Int)))], own := fun i => [(62, .row 87 3 p.marks.n (fun k => [.int .i64 ((L.rsMTo p.marks s p.gauges.n i k).edge), .int .i64 ((L.rsMTo p.marks s p.gauges.n i k).place), .int .i64 ((L.rsMTo p.marks s p.gauges.n i k).tone)]))], inv := fun i => i ≤ p.marks.n, mu := fun i => p.marks.n - i })], rfs := lookR [] }) (bodyOf Tryz.f62) (st0 Tryz.f62 [.p (.agg [.int .i64 p.id, .int .i64 p.colour, .int .i64 p.rev, .int .i64 p.made, .int .i64 p.swell, .sl 5 p.gauges.n (fun i => [.int .i64 ((p.gauges.g i).edge.lo), .int .i64 ((p.gauges.g i).edge.hi), .int .i64 ((p.gauges.g i).across.lo), .int .i64 ((p.gauges.g i).across.hi), .int .i64 ((p.gauges.g i).bend)]), .sl 3 p.marks.n (fun i => [.int .i64 ((p.marks.g i).edge), .int .i64 ((p.marks.g i).place), .int .i64 ((p.marks.g i).tone)])]), .p (.agg [.int .i64 s.shift, .bool s.back])]) (retFn Tryz.prog Tryz.f62 (g_reset_r p s)) :=
  @Eq.mpr _ (((0 : Int) ≤ (↑p.gauges.n : Int) ∧ (↑p.gauges.n : Int) ≤ (↑p.gauges.n : Int) ∧ (↑p.gauges.n : Int) * (↑(nat_lit 40) : Int) ≤ (140737488355328 : Int)) ∧ (∃ (g : Nat), (0 : Int) = (↑g : Int) ∧ (Int.toNat (↑p.gauges.n : Int) = p.gauges.n ∧ ∀ (i : Nat), i < Int.toNat (↑p.gauges.n : Int) → [SV.int .i64 (0 : Int), SV.int .i64 (0 : Int), SV.int .i64 (0 :
 Int), SV.int .i64 (0 : Int), SV.int .i64 (0 : Int)] = [SV.int .i64 (L.rsTo p s g i).edge.lo, SV.int .i64 (L.rsTo p s g i).edge.hi, SV.int .i64 (L.rsTo p s g i).across.lo, SV.int .i64 (L.rsTo p s g i).across.hi, SV.int .i64 (L.rsTo p s g i).bend]) ∧ g ≤ p.gauges.n) ∧ ∀ (g : Nat), g ≤
 p.gauges.n → (decide ((↑g : Int) < (↑p.gauges.n : Int)) = true → ((0 : Int) ≤ (↑g : Int) ∧ (↑g : Int) < (↑p.gauges.n : Int)) ∧ True ∧ (s.back = true → InK .i64 ((↑g : Int) + (↑p.gauges.n : Int)) ∧ InK .i64 ((↑g : Int) + (↑p.gauges.n : Int) - (1 : Int)) ∧ (↑p.gauges.n : Int) ≠ (0 : Int) ∧ ((0 : Int) ≤ Int.tmod ((↑g : Int) + (↑p.gauges.n : Int) -
 (1 : Int)) (↑p.gauges.n : Int) ∧ Int.tmod ((↑g : Int) + (↑p.gauges.n : Int) - (1 : Int)) (↑p.gauges.n : Int) < (↑p.gauges.n : Int)) ∧ ((((((0 : Int) ≤ L.ed s (↑p.gauges.n : Int) (↑g : Int) ∧ L.ed s (↑p.gauges.n : Int) (↑g : Int) < (↑p.gauges.n : Int)) ∧ Int.toNat (L.ed s (↑p.gauges.n : Int) (↑g : Int)) < p.gauges.n ∧ InK .i64 ((↑g : Int) + (1 : Int)) ∧ ∃ (g' : Nat), (↑g : Int) + (1
 : Int) = (↑g' : Int) ∧ (↑p.gauges.n : Int) = (↑p.gauges.n : Int) ∧ (p.gauges.n = p.gauges.n ∧ ∀ (i : Nat), i < p.gauges.n → [SV.int .i64 (p.gauges.g i).edge.lo, SV.int .i64 (p.gauges.g i).edge.hi, SV.int .i64 (p.gauges.g i).across.lo, SV.int .i64 (p.gauges.g i).across.hi, SV.int .i64 (p.gauges.g i).bend] =
 [SV.int .i64 (p.gauges.g i).edge.lo, SV.int .i64 (p.gauges.g i).edge.hi, SV.int .i64 (p.gauges.g i).across.lo, SV.int .i64 (p.gauges.g i).across.hi, SV.int .i64 (p.gauges.g i).bend]) ∧ nat_lit 0 = nat_lit 0 ∧ (↑p.gauges.n : Int) = (↑p.gauges.n : Int) ∧ nat_lit 0 = nat_lit 0 ∧ SV.ref [SV.int .i64
 s.shift, SV.bool s.back] (nat_lit 0) = SV.ref [SV.int .i64 s.shift, SV.bool s.back] (nat_lit 0) ∧ SV.ref [SV.int .i64 p.id, SV.int .i64 p.colour, SV.int .i64 p.rev, SV.int .i64 p.made, SV.int .i64 p.swell, SV.sl (nat_lit 5) p.gauges.n fun (i : Nat) ↦ [SV.int
 .i64 (p.gauges.g i).edge.lo, SV.int .i64 (p.gauges.g i).edge.hi, SV.int .i64 (p.gauges.g i).across.lo, SV.int .i64 (p.gauges.g i).across.hi, SV.int .i64 (p.gauges.g i).bend], SV.sl (nat_lit 3) p.marks.n fun (i : Nat) ↦ [SV.int .i64 (p.marks.g i).edge, SV.int .i64 (p.marks.g i).place,
 SV.int .i64 (p.marks.g i).tone]] (nat_lit 0) = SV.ref [SV.int .i64 p.id, SV.int .i64 p.colour, SV.int .i64 p.rev, SV.int .i64 p.made, SV.int .i64 p.swell, SV.sl (nat_lit 5) p.gauges.n fun (i : Nat) ↦ [SV.int .i64 (p.gauges.g i).edge.lo, SV.int .i64 (p.gauges.g
 i).edge.hi, SV.int .i64 (p.gauges.g i).across.lo, SV.int .i64 (p.gauges.g i).across.hi, SV.int .i64 (p.gauges.g i).bend], SV.sl (nat_lit 3) p.marks.n fun (i : Nat) ↦ [SV.int .i64 (p.marks.g i).edge, SV.int .i64 (p.marks.g i).place, SV.int .i64 (p.marks.g i).tone]] (nat_lit 0) ∧ (p.gauges.n =
 p.gauges.n ∧ ∀ (i : Nat), i < p.gauges.n → setRow (fun (j : Nat) ↦ [SV.int .i64 (L.rsTo p s g j).edge.lo, SV.int .i64 (L.rsTo p s g j).edge.hi, SV.int .i64 (L.rsTo p s g j).across.lo, SV.int .i64 (L.rsTo p s g j).across.hi, SV.int .i64 (L.rsTo p s g j).bend]) (Int.toNat (L.ed s (↑p.gauges.n : Int) (↑g : Int)))
 (nat_lit 0) [SV.int .i64 (p.gauges.g (Int.toNat (↑g : Int))).edge.lo, SV.int .i64 (p.gauges.g (Int.toNat (↑g : Int))).edge.hi, SV.int .i64 (p.gauges.g (Int.toNat (Int.tmod ((↑g : Int) + (↑p.gauges.n : Int) - (1 : Int)) (↑p.gauges.n : Int)))).across.lo, SV.int .i64 (p.gauges.g (Int.toNat (Int.tmod ((↑g : Int) + (↑p.gauges.n : Int) - (1
 : Int)) (↑p.gauges.n : Int)))).across.hi, SV.int .i64 (p.gauges.g (Int.toNat (Int.tmod ((↑g : Int) + (↑p.gauges.n : Int) - (1 : Int)) (↑p.gauges.n : Int)))).bend] i = [SV.int .i64 (L.rsTo p s g' i).edge.lo, SV.int .i64 (L.rsTo p s g' i).edge.hi, SV.int .i64 (L.rsTo p s g' i).across.lo, SV.int .i64 (L.rsTo p s g'
 i).across.hi, SV.int .i64 (L.rsTo p s g' i).bend]) ∧ p.id = p.id ∧ p.colour = p.colour ∧ p.rev = p.rev ∧ p.made = p.made ∧ p.swell = p.swell ∧ (p.marks.n = p.marks.n ∧ ∀ (i : Nat), i < p.marks.n → [SV.int .i64 (p.marks.g i).edge, SV.int .i64 (p.marks.g i).place, SV.int .i64 (p.marks.g i).tone] = [SV.int .i64 (p.marks.g
 i).edge, SV.int .i64 (p.marks.g i).place, SV.int .i64 (p.marks.g i).tone]) ∧ (0 : Int) = (0 : Int) ∧ (0 : Int) = (0 : Int) ∧ (0 : Int) = (0 : Int) ∧ (0 : Int) = (0 : Int) ∧ (0 : Int) = (0 : Int) ∧ Value.slice Option.none (0 : Nat) (0 : Nat) = Value.slice Option.none (0 : Nat) (0 : Nat) ∧ Value.slice Option.none (0 : Nat) (0 : Nat) = Value.slice
 Option.none (0 : Nat) (0 : Nat) ∧ g' ≤ p.gauges.n ∧ p.gauges.n - g' < p.gauges.n - g) ∧ (((0 : Int) ≤ L.ed s (↑p.gauges.n : Int) (↑g : Int) ∧ L.ed s (↑p.gauges.n : Int) (↑g : Int) < (↑p.gauges.n : Int)) ∧ Int.toNat (L.ed s (↑p.gauges.n : Int) (↑g : Int)) < p.gauges.n ∧ InK .i64 ((↑g : Int) + (1 : Int)) ∧ ∃ (g' : Nat), (↑g : Int) + (1 : Int) = (↑g' : Int) ∧ (↑p.gauges.n : Int) =
 (↑p.gauges.n : Int) ∧ (p.gauges.n = p.gauges.n ∧ ∀ (i : Nat), i < p.gauges.n → [SV.int .i64 (p.gauges.g i).edge.lo, SV.int .i64 (p.gauges.g i).edge.hi, SV.int .i64 (p.gauges.g i).across.lo, SV.int .i64 (p.gauges.g i).across.hi, SV.int .i64 (p.gauges.g i).bend] = [SV.int .i64 (p.gauges.g i).edge.lo,
 SV.int .i64 (p.gauges.g i).edge.hi, SV.int .i64 (p.gauges.g i).across.lo, SV.int .i64 (p.gauges.g i).across.hi, SV.int .i64 (p.gauges.g i).bend]) ∧ nat_lit 0 = nat_lit 0 ∧ (↑p.gauges.n : Int) = (↑p.gauges.n : Int) ∧ nat_lit 0 = nat_lit 0 ∧ SV.ref [SV.int .i64 s.shift, SV.bool s.back] (nat_lit 0) =
 SV.ref [SV.int .i64 s.shift, SV.bool s.back] (nat_lit 0) ∧ SV.ref [SV.int .i64 p.id, SV.int .i64 p.colour, SV.int .i64 p.rev, SV.int .i64 p.made, SV.int .i64 p.swell, SV.sl (nat_lit 5) p.gauges.n fun (i : Nat) ↦ [SV.int .i64 (p.gauges.g i).edge.lo, SV.int
 .i64 (p.gauges.g i).edge.hi, SV.int .i64 (p.gauges.g i).across.lo, SV.int .i64 (p.gauges.g i).across.hi, SV.int .i64 (p.gauges.g i).bend], SV.sl (nat_lit 3) p.marks.n fun (i : Nat) ↦ [SV.int .i64 (p.marks.g i).edge, SV.int .i64 (p.marks.g i).place, SV.int .i64 (p.marks.g i).tone]]
 (nat_lit 0) = SV.ref [SV.int .i64 p.id, SV.int .i64 p.colour, SV.int .i64 p.rev, SV.int .i64 p.made, SV.int .i64 p.swell, SV.sl (nat_lit 5) p.gauges.n fun (i : Nat) ↦ [SV.int .i64 (p.gauges.g i).edge.lo, SV.int .i64 (p.gauges.g i).edge.hi, SV.int .i64
 (p.gauges.g i).across.lo, SV.int .i64 (p.gauges.g i).across.hi, SV.int .i64 (p.gauges.g i).bend], SV.sl (nat_lit 3) p.marks.n fun (i : Nat) ↦ [SV.int .i64 (p.marks.g i).edge, SV.int .i64 (p.marks.g i).place, SV.int .i64 (p.marks.g i).tone]] (nat_lit 0) ∧ (p.gauges.n = p.gauges.n ∧ ∀ (i : Nat), i < p.gauges.n →
 setRow (fun (j : Nat) ↦ [SV.int .i64 (L.rsTo p s g j).edge.lo, SV.int .i64 (L.rsTo p s g j).edge.hi, SV.int .i64 (L.rsTo p s g j).across.lo, SV.int .i64 (L.rsTo p s g j).across.hi, SV.int .i64 (L.rsTo p s g j).bend]) (Int.toNat (L.ed s (↑p.gauges.n : Int) (↑g : Int))) (nat_lit 0) [SV.int .i64
 (p.gauges.g (Int.toNat (↑g : Int))).edge.lo, SV.int .i64 (p.gauges.g (Int.toNat (↑g : Int))).edge.hi, SV.int .i64 (p.gauges.g (Int.toNat (Int.tmod ((↑g : Int) + (↑p.gauges.n : Int) - (1 : Int)) (↑p.gauges.n : Int)))).across.lo, SV.int .i64 (p.gauges.g (Int.toNat (Int.tmod ((↑g : Int) + (↑p.gauges.n : Int) - (1 : Int)) (↑p.gauges.n :
 Int)))).across.hi, SV.int .i64 (p.gauges.g (Int.toNat (Int.tmod ((↑g : Int) + (↑p.gauges.n : Int) - (1 : Int)) (↑p.gauges.n : Int)))).bend] i = [SV.int .i64 (L.rsTo p s g' i).edge.lo, SV.int .i64 (L.rsTo p s g' i).edge.hi, SV.int .i64 (L.rsTo p s g' i).across.lo, SV.int .i64 (L.rsTo p s g' i).across.hi, SV.int
 .i64 (L.rsTo p s g' i).bend]) ∧ p.id = p.id ∧ p.colour = p.colour ∧ p.rev = p.rev ∧ p.made = p.made ∧ p.swell = p.swell ∧ (p.marks.n = p.marks.n ∧ ∀ (i : Nat), i < p.marks.n → [SV.int .i64 (p.marks.g i).edge, SV.int .i64 (p.marks.g i).place, SV.int .i64 (p.marks.g i).tone] = [SV.int .i64 (p.marks.g i).edge, SV.int
 .i64 (p.marks.g i).place, SV.int .i64 (p.marks.g i).tone]) ∧ (0 : Int) = (0 : Int) ∧ (0 : Int) = (0 : Int) ∧ (0 : Int) = (0 : Int) ∧ (0 : Int) = (0 : Int) ∧ (0 : Int) = (0 : Int) ∧ Value.slice Option.none (0 : Nat) (0 : Nat) = Value.slice Option.none (0 : Nat) (0 : Nat) ∧ Value.slice Option.none (0 : Nat) (0 : Nat) = Value.slice Option.none (0 : Nat) (0 : Nat)
 ∧ g' ≤ p.gauges.n ∧ p.gauges.n - g' < p.gauges.n - g) ∧ ((0 : Int) ≤ L.ed s (↑p.gauges.n : Int) (↑g : Int) ∧ L.ed s (↑p.gauges.n : Int) (↑g : Int) < (↑p.gauges.n : Int)) ∧ Int.toNat (L.ed s (↑p.gauges.n : Int) (↑g : Int)) < p.gauges.n ∧ InK .i64 ((↑g : Int) + (1 : Int)) ∧ ∃ (g' : Nat), (↑g : Int) + (1 : Int) = (↑g' : Int) ∧ (↑p.gauges.n : Int) = (↑p.gauges.n : Int) ∧ (p.gauges.n =
 p.gauges.n ∧ ∀ (i : Nat), i < p.gauges.n → [SV.int .i64 (p.gauges.g i).edge.lo, SV.int .i64 (p.gauges.g i).edge.hi, SV.int .i64 (p.gauges.g i).across.lo, SV.int .i64 (p.gauges.g i).across.hi, SV.int .i64 (p.gauges.g i).bend] = [SV.int .i64 (p.gauges.g i).edge.lo, SV.int .i64 (p.gauges.g
 i).edge.hi, SV.int .i64 (p.gauges.g i).across.lo, SV.int .i64 (p.gauges.g i).across.hi, SV.int .i64 (p.gauges.g i).bend]) ∧ nat_lit 0 = nat_lit 0 ∧ (↑p.gauges.n : Int) = (↑p.gauges.n : Int) ∧ nat_lit 0 = nat_lit 0 ∧ SV.ref [SV.int .i64 s.shift, SV.bool s.back] (nat_lit 0) = SV.ref [SV.int .i64
 s.shift, SV.bool s.back] (nat_lit 0) ∧ SV.ref [SV.int .i64 p.id, SV.int .i64 p.colour, SV.int .i64 p.rev, SV.int .i64 p.made, SV.int .i64 p.swell, SV.sl (nat_lit 5) p.gauges.n fun (i : Nat) ↦ [SV.int .i64 (p.gauges.g i).edge.lo, SV.int .i64 (p.gauges.g i).edge.hi,
 SV.int .i64 (p.gauges.g i).across.lo, SV.int .i64 (p.gauges.g i).across.hi, SV.int .i64 (p.gauges.g i).bend], SV.sl (nat_lit 3) p.marks.n fun (i : Nat) ↦ [SV.int .i64 (p.marks.g i).edge, SV.int .i64 (p.marks.g i).place, SV.int .i64 (p.marks.g i).tone]] (nat_lit 0) = SV.ref [SV.int
 .i64 p.id, SV.int .i64 p.colour, SV.int .i64 p.rev, SV.int .i64 p.made, SV.int .i64 p.swell, SV.sl (nat_lit 5) p.gauges.n fun (i : Nat) ↦ [SV.int .i64 (p.gauges.g i).edge.lo, SV.int .i64 (p.gauges.g i).edge.hi, SV.int .i64 (p.gauges.g i).across.lo, SV.int
 .i64 (p.gauges.g i).across.hi, SV.int .i64 (p.gauges.g i).bend], SV.sl (nat_lit 3) p.marks.n fun (i : Nat) ↦ [SV.int .i64 (p.marks.g i).edge, SV.int .i64 (p.marks.g i).place, SV.int .i64 (p.marks.g i).tone]] (nat_lit 0) ∧ (p.gauges.n = p.gauges.n ∧ ∀ (i : Nat), i < p.gauges.n → setRow (fun (j : Nat) ↦
 [SV.int .i64 (L.rsTo p s g j).edge.lo, SV.int .i64 (L.rsTo p s g j).edge.hi, SV.int .i64 (L.rsTo p s g j).across.lo, SV.int .i64 (L.rsTo p s g j).across.hi, SV.int .i64 (L.rsTo p s g j).bend]) (Int.toNat (L.ed s (↑p.gauges.n : Int) (↑g : Int))) (nat_lit 0) [SV.int .i64 (p.gauges.g (Int.toNat (↑g :
 Int))).edge.lo, SV.int .i64 (p.gauges.g (Int.toNat (↑g : Int))).edge.hi, SV.int .i64 (p.gauges.g (Int.toNat (Int.tmod ((↑g : Int) + (↑p.gauges.n : Int) - (1 : Int)) (↑p.gauges.n : Int)))).across.lo, SV.int .i64 (p.gauges.g (Int.toNat (Int.tmod ((↑g : Int) + (↑p.gauges.n : Int) - (1 : Int)) (↑p.gauges.n : Int)))).across.hi, SV.int .i64
 (p.gauges.g (Int.toNat (Int.tmod ((↑g : Int) + (↑p.gauges.n : Int) - (1 : Int)) (↑p.gauges.n : Int)))).bend] i = [SV.int .i64 (L.rsTo p s g' i).edge.lo, SV.int .i64 (L.rsTo p s g' i).edge.hi, SV.int .i64 (L.rsTo p s g' i).across.lo, SV.int .i64 (L.rsTo p s g' i).across.hi, SV.int .i64 (L.rsTo p s g' i).bend]) ∧ p.id =
 p.id ∧ p.colour = p.colour ∧ p.rev = p.rev ∧ p.made = p.made ∧ p.swell = p.swell ∧ (p.marks.n = p.marks.n ∧ ∀ (i : Nat), i < p.marks.n → [SV.int .i64 (p.marks.g i).edge, SV.int .i64 (p.marks.g i).place, SV.int .i64 (p.marks.g i).tone] = [SV.int .i64 (p.marks.g i).edge, SV.int .i64 (p.marks.g i).place, SV.int
 .i64 (p.marks.g i).tone]) ∧ (0 : Int) = (0 : Int) ∧ (0 : Int) = (0 : Int) ∧ (0 : Int) = (0 : Int) ∧ (0 : Int) = (0 : Int) ∧ (0 : Int) = (0 : Int) ∧ Value.slice Option.none (0 : Nat) (0 : Nat) = Value.slice Option.none (0 : Nat) (0 : Nat) ∧ Value.slice Option.none (0 : Nat) (0 : Nat) = Value.slice Option.none (0 : Nat) (0 : Nat) ∧ g' ≤ p.gauges.n ∧ p.gauges.n - g' < p.gauges.n
 - g) ∧ ((((0 : Int) ≤ L.ed s (↑p.gauges.n : Int) (↑g : Int) ∧ L.ed s (↑p.gauges.n : Int) (↑g : Int) < (↑p.gauges.n : Int)) ∧ Int.toNat (L.ed s (↑p.gauges.n : Int) (↑g : Int)) < p.gauges.n ∧ InK .i64 ((↑g : Int) + (1 : Int)) ∧ ∃ (g' : Nat), (↑g : Int) + (1 : Int) = (↑g' : Int) ∧ (↑p.gauges.n : Int) = (↑p.gauges.n : Int) ∧ (p.gauges.n = p.gauges.n ∧ ∀ (i : Nat), i < p.gauges.n →
 [SV.int .i64 (p.gauges.g i).edge.lo, SV.int .i64 (p.gauges.g i).edge.hi, SV.int .i64 (p.gauges.g i).across.lo, SV.int .i64 (p.gauges.g i).across.hi, SV.int .i64 (p.gauges.g i).bend] = [SV.int .i64 (p.gauges.g i).edge.lo, SV.int .i64 (p.gauges.g i).edge.hi, SV.int .i64
 (p.gauges.g i).across.lo, SV.int .i64 (p.gauges.g i).across.hi, SV.int .i64 (p.gauges.g i).bend]) ∧ nat_lit 0 = nat_lit 0 ∧ (↑p.gauges.n : Int) = (↑p.gauges.n : Int) ∧ nat_lit 0 = nat_lit 0 ∧ SV.ref [SV.int .i64 s.shift, SV.bool s.back] (nat_lit 0) = SV.ref [SV.int .i64 s.shift, SV.bool s.back] (nat_lit 0) ∧
 SV.ref [SV.int .i64 p.id, SV.int .i64 p.colour, SV.int .i64 p.rev, SV.int .i64 p.made, SV.int .i64 p.swell, SV.sl (nat_lit 5) p.gauges.n fun (i : Nat) ↦ [SV.int .i64 (p.gauges.g i).edge.lo, SV.int .i64 (p.gauges.g i).edge.hi, SV.int .i64 (p.gauges.g
 i).across.lo, SV.int .i64 (p.gauges.g i).across.hi, SV.int .i64 (p.gauges.g i).bend], SV.sl (nat_lit 3) p.marks.n fun (i : Nat) ↦ [SV.int .i64 (p.marks.g i).edge, SV.int .i64 (p.marks.g i).place, SV.int .i64 (p.marks.g i).tone]] (nat_lit 0) = SV.ref [SV.int .i64 p.id, SV.int
 .i64 p.colour, SV.int .i64 p.rev, SV.int .i64 p.made, SV.int .i64 p.swell, SV.sl (nat_lit 5) p.gauges.n fun (i : Nat) ↦ [SV.int .i64 (p.gauges.g i).edge.lo, SV.int .i64 (p.gauges.g i).edge.hi, SV.int .i64 (p.gauges.g i).across.lo, SV.int .i64 (p.gauges.g i).across.hi,
 SV.int .i64 (p.gauges.g i).bend], SV.sl (nat_lit 3) p.marks.n fun (i : Nat) ↦ [SV.int .i64 (p.marks.g i).edge, SV.int .i64 (p.marks.g i).place, SV.int .i64 (p.marks.g i).tone]] (nat_lit 0) ∧ (p.gauges.n = p.gauges.n ∧ ∀ (i : Nat), i < p.gauges.n → setRow (fun (j : Nat) ↦ [SV.int .i64 (L.rsTo p s g
 j).edge.lo, SV.int .i64 (L.rsTo p s g j).edge.hi, SV.int .i64 (L.rsTo p s g j).across.lo, SV.int .i64 (L.rsTo p s g j).across.hi, SV.int .i64 (L.rsTo p s g j).bend]) (Int.toNat (L.ed s (↑p.gauges.n : Int) (↑g : Int))) (nat_lit 0) [SV.int .i64 (p.gauges.g (Int.toNat (↑g : Int))).edge.lo, SV.int .i64
 (p.gauges.g (Int.toNat (↑g : Int))).edge.hi, SV.int .i64 (p.gauges.g (Int.toNat (Int.tmod ((↑g : Int) + (↑p.gauges.n : Int) - (1 : Int)) (↑p.gauges.n : Int)))).across.lo, SV.int .i64 (p.gauges.g (Int.toNat (Int.tmod ((↑g : Int) + (↑p.gauges.n : Int) - (1 : Int)) (↑p.gauges.n : Int)))).across.hi, SV.int .i64 (p.gauges.g (Int.toNat (Int.tmod ((↑g :
 Int) + (↑p.gauges.n : Int) - (1 : Int)) (↑p.gauges.n : Int)))).bend] i = [SV.int .i64 (L.rsTo p s g' i).edge.lo, SV.int .i64 (L.rsTo p s g' i).edge.hi, SV.int .i64 (L.rsTo p s g' i).across.lo, SV.int .i64 (L.rsTo p s g' i).across.hi, SV.int .i64 (L.rsTo p s g' i).bend]) ∧ p.id = p.id ∧ p.colour = p.colour ∧ p.rev =
 p.rev ∧ p.made = p.made ∧ p.swell = p.swell ∧ (p.marks.n = p.marks.n ∧ ∀ (i : Nat), i < p.marks.n → [SV.int .i64 (p.marks.g i).edge, SV.int .i64 (p.marks.g i).place, SV.int .i64 (p.marks.g i).tone] = [SV.int .i64 (p.marks.g i).edge, SV.int .i64 (p.marks.g i).place, SV.int .i64 (p.marks.g i).tone]) ∧ (0
 : Int) = (0 : Int) ∧ (0 : Int) = (0 : Int) ∧ (0 : Int) = (0 : Int) ∧ (0 : Int) = (0 : Int) ∧ (0 : Int) = (0 : Int) ∧ Value.slice Option.none (0 : Nat) (0 : Nat) = Value.slice Option.none (0 : Nat) (0 : Nat) ∧ Value.slice Option.none (0 : Nat) (0 : Nat) = Value.slice Option.none (0 : Nat) (0 : Nat) ∧ g' ≤ p.gauges.n ∧ p.gauges.n - g' < p.gauges.n - g) ∧ ((0 : Int) ≤ L.ed s (↑p.gauges.n
 : Int) (↑g : Int) ∧ L.ed s (↑p.gauges.n : Int) (↑g : Int) < (↑p.gauges.n : Int)) ∧ Int.toNat (L.ed s (↑p.gauges.n : Int) (↑g : Int)) < p.gauges.n ∧ InK .i64 ((↑g : Int) + (1 : Int)) ∧ ∃ (g' : Nat), (↑g : Int) + (1 : Int) = (↑g' : Int) ∧ (↑p.gauges.n : Int) = (↑p.gauges.n : Int) ∧ (p.gauges.n = p.gauges.n ∧ ∀ (i : Nat), i < p.gauges.n → [SV.int .i64 (p.gauges.g
 i).edge.lo, SV.int .i64 (p.gauges.g i).edge.hi, SV.int .i64 (p.gauges.g i).across.lo, SV.int .i64 (p.gauges.g i).across.hi, SV.int .i64 (p.gauges.g i).bend] = [SV.int .i64 (p.gauges.g i).edge.lo, SV.int .i64 (p.gauges.g i).edge.hi, SV.int .i64 (p.gauges.g i).across.lo, SV.int
 .i64 (p.gauges.g i).across.hi, SV.int .i64 (p.gauges.g i).bend]) ∧ nat_lit 0 = nat_lit 0 ∧ (↑p.gauges.n : Int) = (↑p.gauges.n : Int) ∧ nat_lit 0 = nat_lit 0 ∧ SV.ref [SV.int .i64 s.shift, SV.bool s.back] (nat_lit 0) = SV.ref [SV.int .i64 s.shift, SV.bool s.back] (nat_lit 0) ∧ SV.ref [SV.int .i64
 p.id, SV.int .i64 p.colour, SV.int .i64 p.rev, SV.int .i64 p.made, SV.int .i64 p.swell, SV.sl (nat_lit 5) p.gauges.n fun (i : Nat) ↦ [SV.int .i64 (p.gauges.g i).edge.lo, SV.int .i64 (p.gauges.g i).edge.hi, SV.int .i64 (p.gauges.g i).across.lo, SV.int .i64
 (p.gauges.g i).across.hi, SV.int .i64 (p.gauges.g i).bend], SV.sl (nat_lit 3) p.marks.n fun (i : Nat) ↦ [SV.int .i64 (p.marks.g i).edge, SV.int .i64 (p.marks.g i).place, SV.int .i64 (p.marks.g i).tone]] (nat_lit 0) = SV.ref [SV.int .i64 p.id, SV.int .i64 p.colour, SV.int .i64
 p.rev, SV.int .i64 p.made, SV.int .i64 p.swell, SV.sl (nat_lit 5) p.gauges.n fun (i : Nat) ↦ [SV.int .i64 (p.gauges.g i).edge.lo, SV.int .i64 (p.gauges.g i).edge.hi, SV.int .i64 (p.gauges.g i).across.lo, SV.int .i64 (p.gauges.g i).across.hi, SV.int .i64 (p.gauges.g i).bend],
 SV.sl (nat_lit 3) p.marks.n fun (i : Nat) ↦ [SV.int .i64 (p.marks.g i).edge, SV.int .i64 (p.marks.g i).place, SV.int .i64 (p.marks.g i).tone]] (nat_lit 0) ∧ (p.gauges.n = p.gauges.n ∧ ∀ (i : Nat), i < p.gauges.n → setRow (fun (j : Nat) ↦ [SV.int .i64 (L.rsTo p s g j).edge.lo, SV.int .i64 (L.rsTo p s g
 j).edge.hi, SV.int .i64 (L.rsTo p s g j).across.lo, SV.int .i64 (L.rsTo p s g j).across.hi, SV.int .i64 (L.rsTo p s g j).bend]) (Int.toNat (L.ed s (↑p.gauges.n : Int) (↑g : Int))) (nat_lit 0) [SV.int .i64 (p.gauges.g (Int.toNat (↑g : Int))).edge.lo, SV.int .i64 (p.gauges.g (Int.toNat (↑g : Int))).edge.hi, SV.int
 .i64 (p.gauges.g (Int.toNat (Int.tmod ((↑g : Int) + (↑p.gauges.n : Int) - (1 : Int)) (↑p.gauges.n : Int)))).across.lo, SV.int .i64 (p.gauges.g (Int.toNat (Int.tmod ((↑g : Int) + (↑p.gauges.n : Int) - (1 : Int)) (↑p.gauges.n : Int)))).across.hi, SV.int .i64 (p.gauges.g (Int.toNat (Int.tmod ((↑g : Int) + (↑p.gauges.n : Int) - (1 : Int)) (↑p.gauges.n :
 Int)))).bend] i = [SV.int .i64 (L.rsTo p s g' i).edge.lo, SV.int .i64 (L.rsTo p s g' i).edge.hi, SV.int .i64 (L.rsTo p s g' i).across.lo, SV.int .i64 (L.rsTo p s g' i).across.hi, SV.int .i64 (L.rsTo p s g' i).bend]) ∧ p.id = p.id ∧ p.colour = p.colour ∧ p.rev = p.rev ∧ p.made = p.made ∧ p.swell = p.swell ∧ (p.marks.n =
 p.marks.n ∧ ∀ (i : Nat), i < p.marks.n → [SV.int .i64 (p.marks.g i).edge, SV.int .i64 (p.marks.g i).place, SV.int .i64 (p.marks.g i).tone] = [SV.int .i64 (p.marks.g i).edge, SV.int .i64 (p.marks.g i).place, SV.int .i64 (p.marks.g i).tone]) ∧ (0 : Int) = (0 : Int) ∧ (0 : Int) = (0 : Int) ∧ (0 : Int) = (0
 : Int) ∧ (0 : Int) = (0 : Int) ∧ (0 : Int) = (0 : Int) ∧ Value.slice Option.none (0 : Nat) (0 : Nat) = Value.slice Option.none (0 : Nat) (0 : Nat) ∧ Value.slice Option.none (0 : Nat) (0 : Nat) = Value.slice Option.none (0 : Nat) (0 : Nat) ∧ g' ≤ p.gauges.n ∧ p.gauges.n - g' < p.gauges.n - g) ∧ ((0 : Int) ≤ L.ed s (↑p.gauges.n : Int) (↑g : Int) ∧ L.ed s (↑p.gauges.n : Int) (↑g : Int) <
 (↑p.gauges.n : Int)) ∧ Int.toNat (L.ed s (↑p.gauges.n : Int) (↑g : Int)) < p.gauges.n ∧ InK .i64 ((↑g : Int) + (1 : Int)) ∧ ∃ (g' : Nat), (↑g : Int) + (1 : Int) = (↑g' : Int) ∧ (↑p.gauges.n : Int) = (↑p.gauges.n : Int) ∧ (p.gauges.n = p.gauges.n ∧ ∀ (i : Nat), i < p.gauges.n → [SV.int .i64 (p.gauges.g i).edge.lo, SV.int .i64 (p.gauges.g i).edge.hi,
 SV.int .i64 (p.gauges.g i).across.lo, SV.int .i64 (p.gauges.g i).across.hi, SV.int .i64 (p.gauges.g i).bend] = [SV.int .i64 (p.gauges.g i).edge.lo, SV.int .i64 (p.gauges.g i).edge.hi, SV.int .i64 (p.gauges.g i).across.lo, SV.int .i64 (p.gauges.g i).across.hi, SV.int .i64
 (p.gauges.g i).bend]) ∧ nat_lit 0 = nat_lit 0 ∧ (↑p.gauges.n : Int) = (↑p.gauges.n : Int) ∧ nat_lit 0 = nat_lit 0 ∧ SV.ref [SV.int .i64 s.shift, SV.bool s.back] (nat_lit 0) = SV.ref [SV.int .i64 s.shift, SV.bool s.back] (nat_lit 0) ∧ SV.ref [SV.int .i64 p.id, SV.int .i64 p.colour, SV.int
 .i64 p.rev, SV.int .i64 p.made, SV.int .i64 p.swell, SV.sl (nat_lit 5) p.gauges.n fun (i : Nat) ↦ [SV.int .i64 (p.gauges.g i).edge.lo, SV.int .i64 (p.gauges.g i).edge.hi, SV.int .i64 (p.gauges.g i).across.lo, SV.int .i64 (p.gauges.g i).across.hi, SV.int .i64 (p.gauges.g
 i).bend], SV.sl (nat_lit 3) p.marks.n fun (i : Nat) ↦ [SV.int .i64 (p.marks.g i).edge, SV.int .i64 (p.marks.g i).place, SV.int .i64 (p.marks.g i).tone]] (nat_lit 0) = SV.ref [SV.int .i64 p.id, SV.int .i64 p.colour, SV.int .i64 p.rev, SV.int .i64 p.made, SV.int
 .i64 p.swell, SV.sl (nat_lit 5) p.gauges.n fun (i : Nat) ↦ [SV.int .i64 (p.gauges.g i).edge.lo, SV.int .i64 (p.gauges.g i).edge.hi, SV.int .i64 (p.gauges.g i).across.lo, SV.int .i64 (p.gauges.g i).across.hi, SV.int .i64 (p.gauges.g i).bend], SV.sl (nat_lit 3) p.marks.n fun (i : Nat) ↦
 [SV.int .i64 (p.marks.g i).edge, SV.int .i64 (p.marks.g i).place, SV.int .i64 (p.marks.g i).tone]] (nat_lit 0) ∧ (p.gauges.n = p.gauges.n ∧ ∀ (i : Nat), i < p.gauges.n → setRow (fun (j : Nat) ↦ [SV.int .i64 (L.rsTo p s g j).edge.lo, SV.int .i64 (L.rsTo p s g j).edge.hi, SV.int .i64 (L.rsTo p s g
 j).across.lo, SV.int .i64 (L.rsTo p s g j).across.hi, SV.int .i64 (L.rsTo p s g j).bend]) (Int.toNat (L.ed s (↑p.gauges.n : Int) (↑g : Int))) (nat_lit 0) [SV.int .i64 (p.gauges.g (Int.toNat (↑g : Int))).edge.lo, SV.int .i64 (p.gauges.g (Int.toNat (↑g : Int))).edge.hi, SV.int .i64 (p.gauges.g (Int.toNat (Int.tmod ((↑g :
 Int) + (↑p.gauges.n : Int) - (1 : Int)) (↑p.gauges.n : Int)))).across.lo, SV.int .i64 (p.gauges.g (Int.toNat (Int.tmod ((↑g : Int) + (↑p.gauges.n : Int) - (1 : Int)) (↑p.gauges.n : Int)))).across.hi, SV.int .i64 (p.gauges.g (Int.toNat (Int.tmod ((↑g : Int) + (↑p.gauges.n : Int) - (1 : Int)) (↑p.gauges.n : Int)))).bend] i = [SV.int .i64 (L.rsTo p s g'
 i).edge.lo, SV.int .i64 (L.rsTo p s g' i).edge.hi, SV.int .i64 (L.rsTo p s g' i).across.lo, SV.int .i64 (L.rsTo p s g' i).across.hi, SV.int .i64 (L.rsTo p s g' i).bend]) ∧ p.id = p.id ∧ p.colour = p.colour ∧ p.rev = p.rev ∧ p.made = p.made ∧ p.swell = p.swell ∧ (p.marks.n = p.marks.n ∧ ∀ (i : Nat), i < p.marks.n → [SV.int
 .i64 (p.marks.g i).edge, SV.int .i64 (p.marks.g i).place, SV.int .i64 (p.marks.g i).tone] = [SV.int .i64 (p.marks.g i).edge, SV.int .i64 (p.marks.g i).place, SV.int .i64 (p.marks.g i).tone]) ∧ (0 : Int) = (0 : Int) ∧ (0 : Int) = (0 : Int) ∧ (0 : Int) = (0 : Int) ∧ (0 : Int) = (0 : Int) ∧ (0 : Int) = (0 : Int)
 ∧ Value.slice Option.none (0 : Nat) (0 : Nat) = Value.slice Option.none (0 : Nat) (0 : Nat) ∧ Value.slice Option.none (0 : Nat) (0 : Nat) = Value.slice Option.none (0 : Nat) (0 : Nat) ∧ g' ≤ p.gauges.n ∧ p.gauges.n - g' < p.gauges.n - g) ∧ ((((0 : Int) ≤ L.ed s (↑p.gauges.n : Int) (↑g : Int) ∧ L.ed s (↑p.gauges.n : Int) (↑g : Int) < (↑p.gauges.n : Int)) ∧ Int.toNat (L.ed s (↑p.gauges.n
 : Int) (↑g : Int)) < p.gauges.n ∧ InK .i64 ((↑g : Int) + (1 : Int)) ∧ ∃ (g' : Nat), (↑g : Int) + (1 : Int) = (↑g' : Int) ∧ (↑p.gauges.n : Int) = (↑p.gauges.n : Int) ∧ (p.gauges.n = p.gauges.n ∧ ∀ (i : Nat), i < p.gauges.n → [SV.int .i64 (p.gauges.g i).edge.lo, SV.int .i64 (p.gauges.g i).edge.hi, SV.int .i64 (p.gauges.g i).across.lo,
 SV.int .i64 (p.gauges.g i).across.hi, SV.int .i64 (p.gauges.g i).bend] = [SV.int .i64 (p.gauges.g i).edge.lo, SV.int .i64 (p.gauges.g i).edge.hi, SV.int .i64 (p.gauges.g i).across.lo, SV.int .i64 (p.gauges.g i).across.hi, SV.int .i64 (p.gauges.g i).bend]) ∧ nat_lit 0 = nat_lit 0 ∧
 (↑p.gauges.n : Int) = (↑p.gauges.n : Int) ∧ nat_lit 0 = nat_lit 0 ∧ SV.ref [SV.int .i64 s.shift, SV.bool s.back] (nat_lit 0) = SV.ref [SV.int .i64 s.shift, SV.bool s.back] (nat_lit 0) ∧ SV.ref [SV.int .i64 p.id, SV.int .i64 p.colour, SV.int .i64 p.rev, SV.int .i64 p.made,
 SV.int .i64 p.swell, SV.sl (nat_lit 5) p.gauges.n fun (i : Nat) ↦ [SV.int .i64 (p.gauges.g i).edge.lo, SV.int .i64 (p.gauges.g i).edge.hi, SV.int .i64 (p.gauges.g i).across.lo, SV.int .i64 (p.gauges.g i).across.hi, SV.int .i64 (p.gauges.g i).bend], SV.sl (nat_lit 3) p.marks.n fun (i : Nat) ↦
 [SV.int .i64 (p.marks.g i).edge, SV.int .i64 (p.marks.g i).place, SV.int .i64 (p.marks.g i).tone]] (nat_lit 0) = SV.ref [SV.int .i64 p.id, SV.int .i64 p.colour, SV.int .i64 p.rev, SV.int .i64 p.made, SV.int .i64 p.swell, SV.sl (nat_lit 5) p.gauges.n fun (i :
 Nat) ↦ [SV.int .i64 (p.gauges.g i).edge.lo, SV.int .i64 (p.gauges.g i).edge.hi, SV.int .i64 (p.gauges.g i).across.lo, SV.int .i64 (p.gauges.g i).across.hi, SV.int .i64 (p.gauges.g i).bend], SV.sl (nat_lit 3) p.marks.n fun (i : Nat) ↦ [SV.int .i64 (p.marks.g i).edge, SV.int .i64
 (p.marks.g i).place, SV.int .i64 (p.marks.g i).tone]] (nat_lit 0) ∧ (p.gauges.n = p.gauges.n ∧ ∀ (i : Nat), i < p.gauges.n → setRow (fun (j : Nat) ↦ [SV.int .i64 (L.rsTo p s g j).edge.lo, SV.int .i64 (L.rsTo p s g j).edge.hi, SV.int .i64 (L.rsTo p s g j).across.lo, SV.int .i64 (L.rsTo p s g j).across.hi,
 SV.int .i64 (L.rsTo p s g j).bend]) (Int.toNat (L.ed s (↑p.gauges.n : Int) (↑g : Int))) (nat_lit 0) [SV.int .i64 (p.gauges.g (Int.toNat (↑g : Int))).edge.lo, SV.int .i64 (p.gauges.g (Int.toNat (↑g : Int))).edge.hi, SV.int .i64 (p.gauges.g (Int.toNat (Int.tmod ((↑g : Int) + (↑p.gauges.n : Int) - (1 : Int)) (↑p.gauges.n :
 Int)))).across.lo, SV.int .i64 (p.gauges.g (Int.toNat (Int.tmod ((↑g : Int) + (↑p.gauges.n : Int) - (1 : Int)) (↑p.gauges.n : Int)))).across.hi, SV.int .i64 (p.gauges.g (Int.toNat (Int.tmod ((↑g : Int) + (↑p.gauges.n : Int) - (1 : Int)) (↑p.gauges.n : Int)))).bend] i = [SV.int .i64 (L.rsTo p s g' i).edge.lo, SV.int .i64 (L.rsTo p s g'
 i).edge.hi, SV.int .i64 (L.rsTo p s g' i).across.lo, SV.int .i64 (L.rsTo p s g' i).across.hi, SV.int .i64 (L.rsTo p s g' i).bend]) ∧ p.id = p.id ∧ p.colour = p.colour ∧ p.rev = p.rev ∧ p.made = p.made ∧ p.swell = p.swell ∧ (p.marks.n = p.marks.n ∧ ∀ (i : Nat), i < p.marks.n → [SV.int .i64 (p.marks.g i).edge, SV.int
 .i64 (p.marks.g i).place, SV.int .i64 (p.marks.g i).tone] = [SV.int .i64 (p.marks.g i).edge, SV.int .i64 (p.marks.g i).place, SV.int .i64 (p.marks.g i).tone]) ∧ (0 : Int) = (0 : Int) ∧ (0 : Int) = (0 : Int) ∧ (0 : Int) = (0 : Int) ∧ (0 : Int) = (0 : Int) ∧ (0 : Int) = (0 : Int) ∧ Value.slice Option.none (0 : Nat) (0 :
 Nat) = Value.slice Option.none (0 : Nat) (0 : Nat) ∧ Value.slice Option.none (0 : Nat) (0 : Nat) = Value.slice Option.none (0 : Nat) (0 : Nat) ∧ g' ≤ p.gauges.n ∧ p.gauges.n - g' < p.gauges.n - g) ∧ (((0 : Int) ≤ L.ed s (↑p.gauges.n : Int) (↑g : Int) ∧ L.ed s (↑p.gauges.n : Int) (↑g : Int) < (↑p.gauges.n : Int)) ∧ Int.toNat (L.ed s (↑p.gauges.n : Int) (↑g : Int)) < p.gauges.n ∧ InK
 .i64 ((↑g : Int) + (1 : Int)) ∧ ∃ (g' : Nat), (↑g : Int) + (1 : Int) = (↑g' : Int) ∧ (↑p.gauges.n : Int) = (↑p.gauges.n : Int) ∧ (p.gauges.n = p.gauges.n ∧ ∀ (i : Nat), i < p.gauges.n → [SV.int .i64 (p.gauges.g i).edge.lo, SV.int .i64 (p.gauges.g i).edge.hi, SV.int .i64 (p.gauges.g i).across.lo, SV.int .i64 (p.gauges.g
 i).across.hi, SV.int .i64 (p.gauges.g i).bend] = [SV.int .i64 (p.gauges.g i).edge.lo, SV.int .i64 (p.gauges.g i).edge.hi, SV.int .i64 (p.gauges.g i).across.lo, SV.int .i64 (p.gauges.g i).across.hi, SV.int .i64 (p.gauges.g i).bend]) ∧ nat_lit 0 = nat_lit 0 ∧ (↑p.gauges.n : Int) = (↑p.gauges.n : Int) ∧
 nat_lit 0 = nat_lit 0 ∧ SV.ref [SV.int .i64 s.shift, SV.bool s.back] (nat_lit 0) = SV.ref [SV.int .i64 s.shift, SV.bool s.back] (nat_lit 0) ∧ SV.ref [SV.int .i64 p.id, SV.int .i64 p.colour, SV.int .i64 p.rev, SV.int .i64 p.made, SV.int .i64 p.swell,
 SV.sl (nat_lit 5) p.gauges.n fun (i : Nat) ↦ [SV.int .i64 (p.gauges.g i).edge.lo, SV.int .i64 (p.gauges.g i).edge.hi, SV.int .i64 (p.gauges.g i).across.lo, SV.int .i64 (p.gauges.g i).across.hi, SV.int .i64 (p.gauges.g i).bend], SV.sl (nat_lit 3) p.marks.n fun (i : Nat) ↦ [SV.int .i64
 (p.marks.g i).edge, SV.int .i64 (p.marks.g i).place, SV.int .i64 (p.marks.g i).tone]] (nat_lit 0) = SV.ref [SV.int .i64 p.id, SV.int .i64 p.colour, SV.int .i64 p.rev, SV.int .i64 p.made, SV.int .i64 p.swell, SV.sl (nat_lit 5) p.gauges.n fun (i : Nat) ↦ [SV.int
 .i64 (p.gauges.g i).edge.lo, SV.int .i64 (p.gauges.g i).edge.hi, SV.int .i64 (p.gauges.g i).across.lo, SV.int .i64 (p.gauges.g i).across.hi, SV.int .i64 (p.gauges.g i).bend], SV.sl (nat_lit 3) p.marks.n fun (i : Nat) ↦ [SV.int .i64 (p.marks.g i).edge, SV.int .i64 (p.marks.g i).place,
 SV.int .i64 (p.marks.g i).tone]] (nat_lit 0) ∧ (p.gauges.n = p.gauges.n ∧ ∀ (i : Nat), i < p.gauges.n → setRow (fun (j : Nat) ↦ [SV.int .i64 (L.rsTo p s g j).edge.lo, SV.int .i64 (L.rsTo p s g j).edge.hi, SV.int .i64 (L.rsTo p s g j).across.lo, SV.int .i64 (L.rsTo p s g j).across.hi, SV.int .i64
 (L.rsTo p s g j).bend]) (Int.toNat (L.ed s (↑p.gauges.n : Int) (↑g : Int))) (nat_lit 0) [SV.int .i64 (p.gauges.g (Int.toNat (↑g : Int))).edge.lo, SV.int .i64 (p.gauges.g (Int.toNat (↑g : Int))).edge.hi, SV.int .i64 (p.gauges.g (Int.toNat (Int.tmod ((↑g : Int) + (↑p.gauges.n : Int) - (1 : Int)) (↑p.gauges.n : Int)))).across.lo, SV.int
 .i64 (p.gauges.g (Int.toNat (Int.tmod ((↑g : Int) + (↑p.gauges.n : Int) - (1 : Int)) (↑p.gauges.n : Int)))).across.hi, SV.int .i64 (p.gauges.g (Int.toNat (Int.tmod ((↑g : Int) + (↑p.gauges.n : Int) - (1 : Int)) (↑p.gauges.n : Int)))).bend] i = [SV.int .i64 (L.rsTo p s g' i).edge.lo, SV.int .i64 (L.rsTo p s g' i).edge.hi, SV.int
 .i64 (L.rsTo p s g' i).across.lo, SV.int .i64 (L.rsTo p s g' i).across.hi, SV.int .i64 (L.rsTo p s g' i).bend]) ∧ p.id = p.id ∧ p.colour = p.colour ∧ p.rev = p.rev ∧ p.made = p.made ∧ p.swell = p.swell ∧ (p.marks.n = p.marks.n ∧ ∀ (i : Nat), i < p.marks.n → [SV.int .i64 (p.marks.g i).edge, SV.int .i64 (p.marks.g i).place,
 SV.int .i64 (p.marks.g i).tone] = [SV.int .i64 (p.marks.g i).edge, SV.int .i64 (p.marks.g i).place, SV.int .i64 (p.marks.g i).tone]) ∧ (0 : Int) = (0 : Int) ∧ (0 : Int) = (0 : Int) ∧ (0 : Int) = (0 : Int) ∧ (0 : Int) = (0 : Int) ∧ (0 : Int) = (0 : Int) ∧ Value.slice Option.none (0 : Nat) (0 : Nat) = Value.slice Option.none (0 :
 Nat) (0 : Nat) ∧ Value.slice Option.none (0 : Nat) (0 : Nat) = Value.slice Option.none (0 : Nat) (0 : Nat) ∧ g' ≤ p.gauges.n ∧ p.gauges.n - g' < p.gauges.n - g) ∧ ((0 : Int) ≤ L.ed s (↑p.gauges.n : Int) (↑g : Int) ∧ L.ed s (↑p.gauges.n : Int) (↑g : Int) < (↑p.gauges.n : Int)) ∧ Int.toNat (L.ed s (↑p.gauges.n : Int) (↑g : Int)) < p.gauges.n ∧ InK .i64 ((↑g : Int) + (1 : Int))
 ∧ ∃ (g' : Nat), (↑g : Int) + (1 : Int) = (↑g' : Int) ∧ (↑p.gauges.n : Int) = (↑p.gauges.n : Int) ∧ (p.gauges.n = p.gauges.n ∧ ∀ (i : Nat), i < p.gauges.n → [SV.int .i64 (p.gauges.g i).edge.lo, SV.int .i64 (p.gauges.g i).edge.hi, SV.int .i64 (p.gauges.g i).across.lo, SV.int .i64 (p.gauges.g i).across.hi, SV.int .i64
 (p.gauges.g i).bend] = [SV.int .i64 (p.gauges.g i).edge.lo, SV.int .i64 (p.gauges.g i).edge.hi, SV.int .i64 (p.gauges.g i).across.lo, SV.int .i64 (p.gauges.g i).across.hi, SV.int .i64 (p.gauges.g i).bend]) ∧ nat_lit 0 = nat_lit 0 ∧ (↑p.gauges.n : Int) = (↑p.gauges.n : Int) ∧ nat_lit 0 = nat_lit 0 ∧ SV.ref
 [SV.int .i64 s.shift, SV.bool s.back] (nat_lit 0) = SV.ref [SV.int .i64 s.shift, SV.bool s.back] (nat_lit 0) ∧ SV.ref [SV.int .i64 p.id, SV.int .i64 p.colour, SV.int .i64 p.rev, SV.int .i64 p.made, SV.int .i64 p.swell, SV.sl (nat_lit 5) p.gauges.n fun (i :
 Nat) ↦ [SV.int .i64 (p.gauges.g i).edge.lo, SV.int .i64 (p.gauges.g i).edge.hi, SV.int .i64 (p.gauges.g i).across.lo, SV.int .i64 (p.gauges.g i).across.hi, SV.int .i64 (p.gauges.g i).bend], SV.sl (nat_lit 3) p.marks.n fun (i : Nat) ↦ [SV.int .i64 (p.marks.g i).edge, SV.int .i64
 (p.marks.g i).place, SV.int .i64 (p.marks.g i).tone]] (nat_lit 0) = SV.ref [SV.int .i64 p.id, SV.int .i64 p.colour, SV.int .i64 p.rev, SV.int .i64 p.made, SV.int .i64 p.swell, SV.sl (nat_lit 5) p.gauges.n fun (i : Nat) ↦ [SV.int .i64 (p.gauges.g i).edge.lo, SV.int
 .i64 (p.gauges.g i).edge.hi, SV.int .i64 (p.gauges.g i).across.lo, SV.int .i64 (p.gauges.g i).across.hi, SV.int .i64 (p.gauges.g i).bend], SV.sl (nat_lit 3) p.marks.n fun (i : Nat) ↦ [SV.int .i64 (p.marks.g i).edge, SV.int .i64 (p.marks.g i).place, SV.int .i64 (p.marks.g i).tone]]
 (nat_lit 0) ∧ (p.gauges.n = p.gauges.n ∧ ∀ (i : Nat), i < p.gauges.n → setRow (fun (j : Nat) ↦ [SV.int .i64 (L.rsTo p s g j).edge.lo, SV.int .i64 (L.rsTo p s g j).edge.hi, SV.int .i64 (L.rsTo p s g j).across.lo, SV.int .i64 (L.rsTo p s g j).across.hi, SV.int .i64 (L.rsTo p s g j).bend]) (Int.toNat (L.ed s
 (↑p.gauges.n : Int) (↑g : Int))) (nat_lit 0) [SV.int .i64 (p.gauges.g (Int.toNat (↑g : Int))).edge.lo, SV.int .i64 (p.gauges.g (Int.toNat (↑g : Int))).edge.hi, SV.int .i64 (p.gauges.g (Int.toNat (Int.tmod ((↑g : Int) + (↑p.gauges.n : Int) - (1 : Int)) (↑p.gauges.n : Int)))).across.lo, SV.int .i64 (p.gauges.g (Int.toNat (Int.tmod ((↑g
 : Int) + (↑p.gauges.n : Int) - (1 : Int)) (↑p.gauges.n : Int)))).across.hi, SV.int .i64 (p.gauges.g (Int.toNat (Int.tmod ((↑g : Int) + (↑p.gauges.n : Int) - (1 : Int)) (↑p.gauges.n : Int)))).bend] i = [SV.int .i64 (L.rsTo p s g' i).edge.lo, SV.int .i64 (L.rsTo p s g' i).edge.hi, SV.int .i64 (L.rsTo p s g' i).across.lo, SV.int
 .i64 (L.rsTo p s g' i).across.hi, SV.int .i64 (L.rsTo p s g' i).bend]) ∧ p.id = p.id ∧ p.colour = p.colour ∧ p.rev = p.rev ∧ p.made = p.made ∧ p.swell = p.swell ∧ (p.marks.n = p.marks.n ∧ ∀ (i : Nat), i < p.marks.n → [SV.int .i64 (p.marks.g i).edge, SV.int .i64 (p.marks.g i).place, SV.int .i64 (p.marks.g i).tone] =
 [SV.int .i64 (p.marks.g i).edge, SV.int .i64 (p.marks.g i).place, SV.int .i64 (p.marks.g i).tone]) ∧ (0 : Int) = (0 : Int) ∧ (0 : Int) = (0 : Int) ∧ (0 : Int) = (0 : Int) ∧ (0 : Int) = (0 : Int) ∧ (0 : Int) = (0 : Int) ∧ Value.slice Option.none (0 : Nat) (0 : Nat) = Value.slice Option.none (0 : Nat) (0 : Nat) ∧ Value.slice Option.none (0 :
 Nat) (0 : Nat) = Value.slice Option.none (0 : Nat) (0 : Nat) ∧ g' ≤ p.gauges.n ∧ p.gauges.n - g' < p.gauges.n - g) ∧ ((0 : Int) ≤ L.ed s (↑p.gauges.n : Int) (↑g : Int) ∧ L.ed s (↑p.gauges.n : Int) (↑g : Int) < (↑p.gauges.n : Int)) ∧ Int.toNat (L.ed s (↑p.gauges.n : Int) (↑g : Int)) < p.gauges.n ∧ InK .i64 ((↑g : Int) + (1 : Int)) ∧ ∃ (g' : Nat), (↑g : Int) + (1 : Int) = (↑g' :
 Int) ∧ (↑p.gauges.n : Int) = (↑p.gauges.n : Int) ∧ (p.gauges.n = p.gauges.n ∧ ∀ (i : Nat), i < p.gauges.n → [SV.int .i64 (p.gauges.g i).edge.lo, SV.int .i64 (p.gauges.g i).edge.hi, SV.int .i64 (p.gauges.g i).across.lo, SV.int .i64 (p.gauges.g i).across.hi, SV.int .i64 (p.gauges.g i).bend] = [SV.int .i64
 (p.gauges.g i).edge.lo, SV.int .i64 (p.gauges.g i).edge.hi, SV.int .i64 (p.gauges.g i).across.lo, SV.int .i64 (p.gauges.g i).across.hi, SV.int .i64 (p.gauges.g i).bend]) ∧ nat_lit 0 = nat_lit 0 ∧ (↑p.gauges.n : Int) = (↑p.gauges.n : Int) ∧ nat_lit 0 = nat_lit 0 ∧ SV.ref [SV.int .i64 s.shift, SV.bool s.back]
 (nat_lit 0) = SV.ref [SV.int .i64 s.shift, SV.bool s.back] (nat_lit 0) ∧ SV.ref [SV.int .i64 p.id, SV.int .i64 p.colour, SV.int .i64 p.rev, SV.int .i64 p.made, SV.int .i64 p.swell, SV.sl (nat_lit 5) p.gauges.n fun (i : Nat) ↦ [SV.int .i64 (p.gauges.g i).edge.lo,
 SV.int .i64 (p.gauges.g i).edge.hi, SV.int .i64 (p.gauges.g i).across.lo, SV.int .i64 (p.gauges.g i).across.hi, SV.int .i64 (p.gauges.g i).bend], SV.sl (nat_lit 3) p.marks.n fun (i : Nat) ↦ [SV.int .i64 (p.marks.g i).edge, SV.int .i64 (p.marks.g i).place, SV.int .i64 (p.marks.g
 i).tone]] (nat_lit 0) = SV.ref [SV.int .i64 p.id, SV.int .i64 p.colour, SV.int .i64 p.rev, SV.int .i64 p.made, SV.int .i64 p.swell, SV.sl (nat_lit 5) p.gauges.n fun (i : Nat) ↦ [SV.int .i64 (p.gauges.g i).edge.lo, SV.int .i64 (p.gauges.g i).edge.hi, SV.int
 .i64 (p.gauges.g i).across.lo, SV.int .i64 (p.gauges.g i).across.hi, SV.int .i64 (p.gauges.g i).bend], SV.sl (nat_lit 3) p.marks.n fun (i : Nat) ↦ [SV.int .i64 (p.marks.g i).edge, SV.int .i64 (p.marks.g i).place, SV.int .i64 (p.marks.g i).tone]] (nat_lit 0) ∧ (p.gauges.n = p.gauges.n ∧ ∀ (i : Nat), i <
 p.gauges.n → setRow (fun (j : Nat) ↦ [SV.int .i64 (L.rsTo p s g j).edge.lo, SV.int .i64 (L.rsTo p s g j).edge.hi, SV.int .i64 (L.rsTo p s g j).across.lo, SV.int .i64 (L.rsTo p s g j).across.hi, SV.int .i64 (L.rsTo p s g j).bend]) (Int.toNat (L.ed s (↑p.gauges.n : Int) (↑g : Int))) (nat_lit 0) [SV.int
 .i64 (p.gauges.g (Int.toNat (↑g : Int))).edge.lo, SV.int .i64 (p.gauges.g (Int.toNat (↑g : Int))).edge.hi, SV.int .i64 (p.gauges.g (Int.toNat (Int.tmod ((↑g : Int) + (↑p.gauges.n : Int) - (1 : Int)) (↑p.gauges.n : Int)))).across.lo, SV.int .i64 (p.gauges.g (Int.toNat (Int.tmod ((↑g : Int) + (↑p.gauges.n : Int) - (1 : Int)) (↑p.gauges.n :
 Int)))).across.hi, SV.int .i64 (p.gauges.g (Int.toNat (Int.tmod ((↑g : Int) + (↑p.gauges.n : Int) - (1 : Int)) (↑p.gauges.n : Int)))).bend] i = [SV.int .i64 (L.rsTo p s g' i).edge.lo, SV.int .i64 (L.rsTo p s g' i).edge.hi, SV.int .i64 (L.rsTo p s g' i).across.lo, SV.int .i64 (L.rsTo p s g' i).across.hi, SV.int
 .i64 (L.rsTo p s g' i).bend]) ∧ p.id = p.id ∧ p.colour = p.colour ∧ p.rev = p.rev ∧ p.made = p.made ∧ p.swell = p.swell ∧ (p.marks.n = p.marks.n ∧ ∀ (i : Nat), i < p.marks.n → [SV.int .i64 (p.marks.g i).edge, SV.int .i64 (p.marks.g i).place, SV.int .i64 (p.marks.g i).tone] = [SV.int .i64 (p.marks.g i).edge, SV.int
 .i64 (p.marks.g i).place, SV.int .i64 (p.marks.g i).tone]) ∧ (0 : Int) = (0 : Int) ∧ (0 : Int) = (0 : Int) ∧ (0 : Int) = (0 : Int) ∧ (0 : Int) = (0 : Int) ∧ (0 : Int) = (0 : Int) ∧ Value.slice Option.none (0 : Nat) (0 : Nat) = Value.slice Option.none (0 : Nat) (0 : Nat) ∧ Value.slice Option.none (0 : Nat) (0 : Nat) = Value.slice Option.none (0 : Nat) (0 : Nat)
 ∧ g' ≤ p.gauges.n ∧ p.gauges.n - g' < p.gauges.n - g) ∧ (((((0 : Int) ≤ L.ed s (↑p.gauges.n : Int) (↑g : Int) ∧ L.ed s (↑p.gauges.n : Int) (↑g : Int) < (↑p.gauges.n : Int)) ∧ Int.toNat (L.ed s (↑p.gauges.n : Int) (↑g : Int)) < p.gauges.n ∧ InK .i64 ((↑g : Int) + (1 : Int)) ∧ ∃ (g' : Nat), (↑g : Int) + (1 : Int) = (↑g' : Int) ∧ (↑p.gauges.n : Int) = (↑p.gauges.n : Int) ∧ (p.gauges.n
 = p.gauges.n ∧ ∀ (i : Nat), i < p.gauges.n → [SV.int .i64 (p.gauges.g i).edge.lo, SV.int .i64 (p.gauges.g i).edge.hi, SV.int .i64 (p.gauges.g i).across.lo, SV.int .i64 (p.gauges.g i).across.hi, SV.int .i64 (p.gauges.g i).bend] = [SV.int .i64 (p.gauges.g i).edge.lo, SV.int .i64
 (p.gauges.g i).edge.hi, SV.int .i64 (p.gauges.g i).across.lo, SV.int .i64 (p.gauges.g i).across.hi, SV.int .i64 (p.gauges.g i).bend]) ∧ nat_lit 0 = nat_lit 0 ∧ (↑p.gauges.n : Int) = (↑p.gauges.n : Int) ∧ nat_lit 0 = nat_lit 0 ∧ SV.ref [SV.int .i64 s.shift, SV.bool s.back] (nat_lit 0) = SV.ref [SV.int
 .i64 s.shift, SV.bool s.back] (nat_lit 0) ∧ SV.ref [SV.int .i64 p.id, SV.int .i64 p.colour, SV.int .i64 p.rev, SV.int .i64 p.made, SV.int .i64 p.swell, SV.sl (nat_lit 5) p.gauges.n fun (i : Nat) ↦ [SV.int .i64 (p.gauges.g i).edge.lo, SV.int .i64 (p.gauges.g
 i).edge.hi, SV.int .i64 (p.gauges.g i).across.lo, SV.int .i64 (p.gauges.g i).across.hi, SV.int .i64 (p.gauges.g i).bend], SV.sl (nat_lit 3) p.marks.n fun (i : Nat) ↦ [SV.int .i64 (p.marks.g i).edge, SV.int .i64 (p.marks.g i).place, SV.int .i64 (p.marks.g i).tone]] (nat_lit 0) = SV.ref
 [SV.int .i64 p.id, SV.int .i64 p.colour, SV.int .i64 p.rev, SV.int .i64 p.made, SV.int .i64 p.swell, SV.sl (nat_lit 5) p.gauges.n fun (i : Nat) ↦ [SV.int .i64 (p.gauges.g i).edge.lo, SV.int .i64 (p.gauges.g i).edge.hi, SV.int .i64 (p.gauges.g i).across.lo,
 SV.int .i64 (p.gauges.g i).across.hi, SV.int .i64 (p.gauges.g i).bend], SV.sl (nat_lit 3) p.marks.n fun (i : Nat) ↦ [SV.int .i64 (p.marks.g i).edge, SV.int .i64 (p.marks.g i).place, SV.int .i64 (p.marks.g i).tone]] (nat_lit 0) ∧ (p.gauges.n = p.gauges.n ∧ ∀ (i : Nat), i < p.gauges.n → setRow (fun (j : Nat)
 ↦ [SV.int .i64 (L.rsTo p s g j).edge.lo, SV.int .i64 (L.rsTo p s g j).edge.hi, SV.int .i64 (L.rsTo p s g j).across.lo, SV.int .i64 (L.rsTo p s g j).across.hi, SV.int .i64 (L.rsTo p s g j).bend]) (Int.toNat (L.ed s (↑p.gauges.n : Int) (↑g : Int))) (nat_lit 0) [SV.int .i64 (p.gauges.g (Int.toNat (↑g :
 Int))).edge.lo, SV.int .i64 (p.gauges.g (Int.toNat (↑g : Int))).edge.hi, SV.int .i64 (p.gauges.g (Int.toNat (Int.tmod ((↑g : Int) + (↑p.gauges.n : Int) - (1 : Int)) (↑p.gauges.n : Int)))).across.lo, SV.int .i64 (p.gauges.g (Int.toNat (Int.tmod ((↑g : Int) + (↑p.gauges.n : Int) - (1 : Int)) (↑p.gauges.n : Int)))).across.hi, SV.int .i64
 (p.gauges.g (Int.toNat (Int.tmod ((↑g : Int) + (↑p.gauges.n : Int) - (1 : Int)) (↑p.gauges.n : Int)))).bend] i = [SV.int .i64 (L.rsTo p s g' i).edge.lo, SV.int .i64 (L.rsTo p s g' i).edge.hi, SV.int .i64 (L.rsTo p s g' i).across.lo, SV.int .i64 (L.rsTo p s g' i).across.hi, SV.int .i64 (L.rsTo p s g' i).bend]) ∧ p.id =
 p.id ∧ p.colour = p.colour ∧ p.rev = p.rev ∧ p.made = p.made ∧ p.swell = p.swell ∧ (p.marks.n = p.marks.n ∧ ∀ (i : Nat), i < p.marks.n → [SV.int .i64 (p.marks.g i).edge, SV.int .i64 (p.marks.g i).place, SV.int .i64 (p.marks.g i).tone] = [SV.int .i64 (p.marks.g i).edge, SV.int .i64 (p.marks.g i).place, SV.int
 .i64 (p.marks.g i).tone]) ∧ (0 : Int) = (0 : Int) ∧ (0 : Int) = (0 : Int) ∧ (0 : Int) = (0 : Int) ∧ (0 : Int) = (0 : Int) ∧ (0 : Int) = (0 : Int) ∧ Value.slice Option.none (0 : Nat) (0 : Nat) = Value.slice Option.none (0 : Nat) (0 : Nat) ∧ Value.slice Option.none (0 : Nat) (0 : Nat) = Value.slice Option.none (0 : Nat) (0 : Nat) ∧ g' ≤ p.gauges.n ∧ p.gauges.n - g' < p.gauges.n
 - g) ∧ (((0 : Int) ≤ L.ed s (↑p.gauges.n : Int) (↑g : Int) ∧ L.ed s (↑p.gauges.n : Int) (↑g : Int) < (↑p.gauges.n : Int)) ∧ Int.toNat (L.ed s (↑p.gauges.n : Int) (↑g : Int)) < p.gauges.n ∧ InK .i64 ((↑g : Int) + (1 : Int)) ∧ ∃ (g' : Nat), (↑g : Int) + (1 : Int) = (↑g' : Int) ∧ (↑p.gauges.n : Int) = (↑p.gauges.n : Int) ∧ (p.gauges.n = p.gauges.n ∧ ∀ (i : Nat), i < p.gauges.n →
 [SV.int .i64 (p.gauges.g i).edge.lo, SV.int .i64 (p.gauges.g i).edge.hi, SV.int .i64 (p.gauges.g i).across.lo, SV.int .i64 (p.gauges.g i).across.hi, SV.int .i64 (p.gauges.g i).bend] = [SV.int .i64 (p.gauges.g i).edge.lo, SV.int .i64 (p.gauges.g i).edge.hi, SV.int .i64
 (p.gauges.g i).across.lo, SV.int .i64 (p.gauges.g i).across.hi, SV.int .i64 (p.gauges.g i).bend]) ∧ nat_lit 0 = nat_lit 0 ∧ (↑p.gauges.n : Int) = (↑p.gauges.n : Int) ∧ nat_lit 0 = nat_lit 0 ∧ SV.ref [SV.int .i64 s.shift, SV.bool s.back] (nat_lit 0) = SV.ref [SV.int .i64 s.shift, SV.bool s.back] (nat_lit 0) ∧
 SV.ref [SV.int .i64 p.id, SV.int .i64 p.colour, SV.int .i64 p.rev, SV.int .i64 p.made, SV.int .i64 p.swell, SV.sl (nat_lit 5) p.gauges.n fun (i : Nat) ↦ [SV.int .i64 (p.gauges.g i).edge.lo, SV.int .i64 (p.gauges.g i).edge.hi, SV.int .i64 (p.gauges.g
 i).across.lo, SV.int .i64 (p.gauges.g i).across.hi, SV.int .i64 (p.gauges.g i).bend], SV.sl (nat_lit 3) p.marks.n fun (i : Nat) ↦ [SV.int .i64 (p.marks.g i).edge, SV.int .i64 (p.marks.g i).place, SV.int .i64 (p.marks.g i).tone]] (nat_lit 0) = SV.ref [SV.int .i64 p.id, SV.int
 .i64 p.colour, SV.int .i64 p.rev, SV.int .i64 p.made, SV.int .i64 p.swell, SV.sl (nat_lit 5) p.gauges.n fun (i : Nat) ↦ [SV.int .i64 (p.gauges.g i).edge.lo, SV.int .i64 (p.gauges.g i).edge.hi, SV.int .i64 (p.gauges.g i).across.lo, SV.int .i64 (p.gauges.g i).across.hi,
 SV.int .i64 (p.gauges.g i).bend], SV.sl (nat_lit 3) p.marks.n fun (i : Nat) ↦ [SV.int .i64 (p.marks.g i).edge, SV.int .i64 (p.marks.g i).place, SV.int .i64 (p.marks.g i).tone]] (nat_lit 0) ∧ (p.gauges.n = p.gauges.n ∧ ∀ (i : Nat), i < p.gauges.n → setRow (fun (j : Nat) ↦ [SV.int .i64 (L.rsTo p s g
 j).edge.lo, SV.int .i64 (L.rsTo p s g j).edge.hi, SV.int .i64 (L.rsTo p s g j).across.lo, SV.int .i64 (L.rsTo p s g j).across.hi, SV.int .i64 (L.rsTo p s g j).bend]) (Int.toNat (L.ed s (↑p.gauges.n : Int) (↑g : Int))) (nat_lit 0) [SV.int .i64 (p.gauges.g (Int.toNat (↑g : Int))).edge.lo, SV.int .i64
 (p.gauges.g (Int.toNat (↑g : Int))).edge.hi, SV.int .i64 (p.gauges.g (Int.toNat (Int.tmod ((↑g : Int) + (↑p.gauges.n : Int) - (1 : Int)) (↑p.gauges.n : Int)))).across.lo, SV.int .i64 (p.gauges.g (Int.toNat (Int.tmod ((↑g : Int) + (↑p.gauges.n : Int) - (1 : Int)) (↑p.gauges.n : Int)))).across.hi, SV.int .i64 (p.gauges.g (Int.toNat (Int.tmod ((↑g :
 Int) + (↑p.gauges.n : Int) - (1 : Int)) (↑p.gauges.n : Int)))).bend] i = [SV.int .i64 (L.rsTo p s g' i).edge.lo, SV.int .i64 (L.rsTo p s g' i).edge.hi, SV.int .i64 (L.rsTo p s g' i).across.lo, SV.int .i64 (L.rsTo p s g' i).across.hi, SV.int .i64 (L.rsTo p s g' i).bend]) ∧ p.id = p.id ∧ p.colour = p.colour ∧ p.rev =
 p.rev ∧ p.made = p.made ∧ p.swell = p.swell ∧ (p.marks.n = p.marks.n ∧ ∀ (i : Nat), i < p.marks.n → [SV.int .i64 (p.marks.g i).edge, SV.int .i64 (p.marks.g i).place, SV.int .i64 (p.marks.g i).tone] = [SV.int .i64 (p.marks.g i).edge, SV.int .i64 (p.marks.g i).place, SV.int .i64 (p.marks.g i).tone]) ∧ (0
 : Int) = (0 : Int) ∧ (0 : Int) = (0 : Int) ∧ (0 : Int) = (0 : Int) ∧ (0 : Int) = (0 : Int) ∧ (0 : Int) = (0 : Int) ∧ Value.slice Option.none (0 : Nat) (0 : Nat) = Value.slice Option.none (0 : Nat) (0 : Nat) ∧ Value.slice Option.none (0 : Nat) (0 : Nat) = Value.slice Option.none (0 : Nat) (0 : Nat) ∧ g' ≤ p.gauges.n ∧ p.gauges.n - g' < p.gauges.n - g) ∧ ((0 : Int) ≤ L.ed s (↑p.gauges.n
 : Int) (↑g : Int) ∧ L.ed s (↑p.gauges.n : Int) (↑g : Int) < (↑p.gauges.n : Int)) ∧ Int.toNat (L.ed s (↑p.gauges.n : Int) (↑g : Int)) < p.gauges.n ∧ InK .i64 ((↑g : Int) + (1 : Int)) ∧ ∃ (g' : Nat), (↑g : Int) + (1 : Int) = (↑g' : Int) ∧ (↑p.gauges.n : Int) = (↑p.gauges.n : Int) ∧ (p.gauges.n = p.gauges.n ∧ ∀ (i : Nat), i < p.gauges.n → [SV.int .i64 (p.gauges.g
 i).edge.lo, SV.int .i64 (p.gauges.g i).edge.hi, SV.int .i64 (p.gauges.g i).across.lo, SV.int .i64 (p.gauges.g i).across.hi, SV.int .i64 (p.gauges.g i).bend] = [SV.int .i64 (p.gauges.g i).edge.lo, SV.int .i64 (p.gauges.g i).edge.hi, SV.int .i64 (p.gauges.g i).across.lo, SV.int
 .i64 (p.gauges.g i).across.hi, SV.int .i64 (p.gauges.g i).bend]) ∧ nat_lit 0 = nat_lit 0 ∧ (↑p.gauges.n : Int) = (↑p.gauges.n : Int) ∧ nat_lit 0 = nat_lit 0 ∧ SV.ref [SV.int .i64 s.shift, SV.bool s.back] (nat_lit 0) = SV.ref [SV.int .i64 s.shift, SV.bool s.back] (nat_lit 0) ∧ SV.ref [SV.int .i64
 p.id, SV.int .i64 p.colour, SV.int .i64 p.rev, SV.int .i64 p.made, SV.int .i64 p.swell, SV.sl (nat_lit 5) p.gauges.n fun (i : Nat) ↦ [SV.int .i64 (p.gauges.g i).edge.lo, SV.int .i64 (p.gauges.g i).edge.hi, SV.int .i64 (p.gauges.g i).across.lo, SV.int .i64
 (p.gauges.g i).across.hi, SV.int .i64 (p.gauges.g i).bend], SV.sl (nat_lit 3) p.marks.n fun (i : Nat) ↦ [SV.int .i64 (p.marks.g i).edge, SV.int .i64 (p.marks.g i).place, SV.int .i64 (p.marks.g i).tone]] (nat_lit 0) = SV.ref [SV.int .i64 p.id, SV.int .i64 p.colour, SV.int .i64
 p.rev, SV.int .i64 p.made, SV.int .i64 p.swell, SV.sl (nat_lit 5) p.gauges.n fun (i : Nat) ↦ [SV.int .i64 (p.gauges.g i).edge.lo, SV.int .i64 (p.gauges.g i).edge.hi, SV.int .i64 (p.gauges.g i).across.lo, SV.int .i64 (p.gauges.g i).across.hi, SV.int .i64 (p.gauges.g i).bend],
 SV.sl (nat_lit 3) p.marks.n fun (i : Nat) ↦ [SV.int .i64 (p.marks.g i).edge, SV.int .i64 (p.marks.g i).place, SV.int .i64 (p.marks.g i).tone]] (nat_lit 0) ∧ (p.gauges.n = p.gauges.n ∧ ∀ (i : Nat), i < p.gauges.n → setRow (fun (j : Nat) ↦ [SV.int .i64 (L.rsTo p s g j).edge.lo, SV.int .i64 (L.rsTo p s g
 j).edge.hi, SV.int .i64 (L.rsTo p s g j).across.lo, SV.int .i64 (L.rsTo p s g j).across.hi, SV.int .i64 (L.rsTo p s g j).bend]) (Int.toNat (L.ed s (↑p.gauges.n : Int) (↑g : Int))) (nat_lit 0) [SV.int .i64 (p.gauges.g (Int.toNat (↑g : Int))).edge.lo, SV.int .i64 (p.gauges.g (Int.toNat (↑g : Int))).edge.hi, SV.int
 .i64 (p.gauges.g (Int.toNat (Int.tmod ((↑g : Int) + (↑p.gauges.n : Int) - (1 : Int)) (↑p.gauges.n : Int)))).across.lo, SV.int .i64 (p.gauges.g (Int.toNat (Int.tmod ((↑g : Int) + (↑p.gauges.n : Int) - (1 : Int)) (↑p.gauges.n : Int)))).across.hi, SV.int .i64 (p.gauges.g (Int.toNat (Int.tmod ((↑g : Int) + (↑p.gauges.n : Int) - (1 : Int)) (↑p.gauges.n :
 Int)))).bend] i = [SV.int .i64 (L.rsTo p s g' i).edge.lo, SV.int .i64 (L.rsTo p s g' i).edge.hi, SV.int .i64 (L.rsTo p s g' i).across.lo, SV.int .i64 (L.rsTo p s g' i).across.hi, SV.int .i64 (L.rsTo p s g' i).bend]) ∧ p.id = p.id ∧ p.colour = p.colour ∧ p.rev = p.rev ∧ p.made = p.made ∧ p.swell = p.swell ∧ (p.marks.n =
 p.marks.n ∧ ∀ (i : Nat), i < p.marks.n → [SV.int .i64 (p.marks.g i).edge, SV.int .i64 (p.marks.g i).place, SV.int .i64 (p.marks.g i).tone] = [SV.int .i64 (p.marks.g i).edge, SV.int .i64 (p.marks.g i).place, SV.int .i64 (p.marks.g i).tone]) ∧ (0 : Int) = (0 : Int) ∧ (0 : Int) = (0 : Int) ∧ (0 : Int) = (0
 : Int) ∧ (0 : Int) = (0 : Int) ∧ (0 : Int) = (0 : Int) ∧ Value.slice Option.none (0 : Nat) (0 : Nat) = Value.slice Option.none (0 : Nat) (0 : Nat) ∧ Value.slice Option.none (0 : Nat) (0 : Nat) = Value.slice Option.none (0 : Nat) (0 : Nat) ∧ g' ≤ p.gauges.n ∧ p.gauges.n - g' < p.gauges.n - g) ∧ ((0 : Int) ≤ L.ed s (↑p.gauges.n : Int) (↑g : Int) ∧ L.ed s (↑p.gauges.n : Int) (↑g : Int) <
 (↑p.gauges.n : Int)) ∧ Int.toNat (L.ed s (↑p.gauges.n : Int) (↑g : Int)) < p.gauges.n ∧ InK .i64 ((↑g : Int) + (1 : Int)) ∧ ∃ (g' : Nat), (↑g : Int) + (1 : Int) = (↑g' : Int) ∧ (↑p.gauges.n : Int) = (↑p.gauges.n : Int) ∧ (p.gauges.n = p.gauges.n ∧ ∀ (i : Nat), i < p.gauges.n → [SV.int .i64 (p.gauges.g i).edge.lo, SV.int .i64 (p.gauges.g i).edge.hi,
 SV.int .i64 (p.gauges.g i).across.lo, SV.int .i64 (p.gauges.g i).across.hi, SV.int .i64 (p.gauges.g i).bend] = [SV.int .i64 (p.gauges.g i).edge.lo, SV.int .i64 (p.gauges.g i).edge.hi, SV.int .i64 (p.gauges.g i).across.lo, SV.int .i64 (p.gauges.g i).across.hi, SV.int .i64
 (p.gauges.g i).bend]) ∧ nat_lit 0 = nat_lit 0 ∧ (↑p.gauges.n : Int) = (↑p.gauges.n : Int) ∧ nat_lit 0 = nat_lit 0 ∧ SV.ref [SV.int .i64 s.shift, SV.bool s.back] (nat_lit 0) = SV.ref [SV.int .i64 s.shift, SV.bool s.back] (nat_lit 0) ∧ SV.ref [SV.int .i64 p.id, SV.int .i64 p.colour, SV.int
 .i64 p.rev, SV.int .i64 p.made, SV.int .i64 p.swell, SV.sl (nat_lit 5) p.gauges.n fun (i : Nat) ↦ [SV.int .i64 (p.gauges.g i).edge.lo, SV.int .i64 (p.gauges.g i).edge.hi, SV.int .i64 (p.gauges.g i).across.lo, SV.int .i64 (p.gauges.g i).across.hi, SV.int .i64 (p.gauges.g
 i).bend], SV.sl (nat_lit 3) p.marks.n fun (i : Nat) ↦ [SV.int .i64 (p.marks.g i).edge, SV.int .i64 (p.marks.g i).place, SV.int .i64 (p.marks.g i).tone]] (nat_lit 0) = SV.ref [SV.int .i64 p.id, SV.int .i64 p.colour, SV.int .i64 p.rev, SV.int .i64 p.made, SV.int
 .i64 p.swell, SV.sl (nat_lit 5) p.gauges.n fun (i : Nat) ↦ [SV.int .i64 (p.gauges.g i).edge.lo, SV.int .i64 (p.gauges.g i).edge.hi, SV.int .i64 (p.gauges.g i).across.lo, SV.int .i64 (p.gauges.g i).across.hi, SV.int .i64 (p.gauges.g i).bend], SV.sl (nat_lit 3) p.marks.n fun (i : Nat) ↦
 [SV.int .i64 (p.marks.g i).edge, SV.int .i64 (p.marks.g i).place, SV.int .i64 (p.marks.g i).tone]] (nat_lit 0) ∧ (p.gauges.n = p.gauges.n ∧ ∀ (i : Nat), i < p.gauges.n → setRow (fun (j : Nat) ↦ [SV.int .i64 (L.rsTo p s g j).edge.lo, SV.int .i64 (L.rsTo p s g j).edge.hi, SV.int .i64 (L.rsTo p s g
 j).across.lo, SV.int .i64 (L.rsTo p s g j).across.hi, SV.int .i64 (L.rsTo p s g j).bend]) (Int.toNat (L.ed s (↑p.gauges.n : Int) (↑g : Int))) (nat_lit 0) [SV.int .i64 (p.gauges.g (Int.toNat (↑g : Int))).edge.lo, SV.int .i64 (p.gauges.g (Int.toNat (↑g : Int))).edge.hi, SV.int .i64 (p.gauges.g (Int.toNat (Int.tmod ((↑g :
 Int) + (↑p.gauges.n : Int) - (1 : Int)) (↑p.gauges.n : Int)))).across.lo, SV.int .i64 (p.gauges.g (Int.toNat (Int.tmod ((↑g : Int) + (↑p.gauges.n : Int) - (1 : Int)) (↑p.gauges.n : Int)))).across.hi, SV.int .i64 (p.gauges.g (Int.toNat (Int.tmod ((↑g : Int) + (↑p.gauges.n : Int) - (1 : Int)) (↑p.gauges.n : Int)))).bend] i = [SV.int .i64 (L.rsTo p s g'
 i).edge.lo, SV.int .i64 (L.rsTo p s g' i).edge.hi, SV.int .i64 (L.rsTo p s g' i).across.lo, SV.int .i64 (L.rsTo p s g' i).across.hi, SV.int .i64 (L.rsTo p s g' i).bend]) ∧ p.id = p.id ∧ p.colour = p.colour ∧ p.rev = p.rev ∧ p.made = p.made ∧ p.swell = p.swell ∧ (p.marks.n = p.marks.n ∧ ∀ (i : Nat), i < p.marks.n → [SV.int
 .i64 (p.marks.g i).edge, SV.int .i64 (p.marks.g i).place, SV.int .i64 (p.marks.g i).tone] = [SV.int .i64 (p.marks.g i).edge, SV.int .i64 (p.marks.g i).place, SV.int .i64 (p.marks.g i).tone]) ∧ (0 : Int) = (0 : Int) ∧ (0 : Int) = (0 : Int) ∧ (0 : Int) = (0 : Int) ∧ (0 : Int) = (0 : Int) ∧ (0 : Int) = (0 : Int)
 ∧ Value.slice Option.none (0 : Nat) (0 : Nat) = Value.slice Option.none (0 : Nat) (0 : Nat) ∧ Value.slice Option.none (0 : Nat) (0 : Nat) = Value.slice Option.none (0 : Nat) (0 : Nat) ∧ g' ≤ p.gauges.n ∧ p.gauges.n - g' < p.gauges.n - g) ∧ ((0 : Int) ≤ L.ed s (↑p.gauges.n : Int) (↑g : Int) ∧ L.ed s (↑p.gauges.n : Int) (↑g : Int) < (↑p.gauges.n : Int)) ∧ Int.toNat (L.ed s (↑p.gauges.n :
 Int) (↑g : Int)) < p.gauges.n ∧ InK .i64 ((↑g : Int) + (1 : Int)) ∧ ∃ (g' : Nat), (↑g : Int) + (1 : Int) = (↑g' : Int) ∧ (↑p.gauges.n : Int) = (↑p.gauges.n : Int) ∧ (p.gauges.n = p.gauges.n ∧ ∀ (i : Nat), i < p.gauges.n → [SV.int .i64 (p.gauges.g i).edge.lo, SV.int .i64 (p.gauges.g i).edge.hi, SV.int .i64 (p.gauges.g i).across.lo,
 SV.int .i64 (p.gauges.g i).across.hi, SV.int .i64 (p.gauges.g i).bend] = [SV.int .i64 (p.gauges.g i).edge.lo, SV.int .i64 (p.gauges.g i).edge.hi, SV.int .i64 (p.gauges.g i).across.lo, SV.int .i64 (p.gauges.g i).across.hi, SV.int .i64 (p.gauges.g i).bend]) ∧ nat_lit 0 = nat_lit 0 ∧
 (↑p.gauges.n : Int) = (↑p.gauges.n : Int) ∧ nat_lit 0 = nat_lit 0 ∧ SV.ref [SV.int .i64 s.shift, SV.bool s.back] (nat_lit 0) = SV.ref [SV.int .i64 s.shift, SV.bool s.back] (nat_lit 0) ∧ SV.ref [SV.int .i64 p.id, SV.int .i64 p.colour, SV.int .i64 p.rev, SV.int .i64 p.made,
 SV.int .i64 p.swell, SV.sl (nat_lit 5) p.gauges.n fun (i : Nat) ↦ [SV.int .i64 (p.gauges.g i).edge.lo, SV.int .i64 (p.gauges.g i).edge.hi, SV.int .i64 (p.gauges.g i).across.lo, SV.int .i64 (p.gauges.g i).across.hi, SV.int .i64 (p.gauges.g i).bend], SV.sl (nat_lit 3) p.marks.n fun (i : Nat) ↦
 [SV.int .i64 (p.marks.g i).edge, SV.int .i64 (p.marks.g i).place, SV.int .i64 (p.marks.g i).tone]] (nat_lit 0) = SV.ref [SV.int .i64 p.id, SV.int .i64 p.colour, SV.int .i64 p.rev, SV.int .i64 p.made, SV.int .i64 p.swell, SV.sl (nat_lit 5) p.gauges.n fun (i :
 Nat) ↦ [SV.int .i64 (p.gauges.g i).edge.lo, SV.int .i64 (p.gauges.g i).edge.hi, SV.int .i64 (p.gauges.g i).across.lo, SV.int .i64 (p.gauges.g i).across.hi, SV.int .i64 (p.gauges.g i).bend], SV.sl (nat_lit 3) p.marks.n fun (i : Nat) ↦ [SV.int .i64 (p.marks.g i).edge, SV.int .i64
 (p.marks.g i).place, SV.int .i64 (p.marks.g i).tone]] (nat_lit 0) ∧ (p.gauges.n = p.gauges.n ∧ ∀ (i : Nat), i < p.gauges.n → setRow (fun (j : Nat) ↦ [SV.int .i64 (L.rsTo p s g j).edge.lo, SV.int .i64 (L.rsTo p s g j).edge.hi, SV.int .i64 (L.rsTo p s g j).across.lo, SV.int .i64 (L.rsTo p s g j).across.hi,
 SV.int .i64 (L.rsTo p s g j).bend]) (Int.toNat (L.ed s (↑p.gauges.n : Int) (↑g : Int))) (nat_lit 0) [SV.int .i64 (p.gauges.g (Int.toNat (↑g : Int))).edge.lo, SV.int .i64 (p.gauges.g (Int.toNat (↑g : Int))).edge.hi, SV.int .i64 (p.gauges.g (Int.toNat (Int.tmod ((↑g : Int) + (↑p.gauges.n : Int) - (1 : Int)) (↑p.gauges.n :
 Int)))).across.lo, SV.int .i64 (p.gauges.g (Int.toNat (Int.tmod ((↑g : Int) + (↑p.gauges.n : Int) - (1 : Int)) (↑p.gauges.n : Int)))).across.hi, SV.int .i64 (p.gauges.g (Int.toNat (Int.tmod ((↑g : Int) + (↑p.gauges.n : Int) - (1 : Int)) (↑p.gauges.n : Int)))).bend] i = [SV.int .i64 (L.rsTo p s g' i).edge.lo, SV.int .i64 (L.rsTo p s g'
 i).edge.hi, SV.int .i64 (L.rsTo p s g' i).across.lo, SV.int .i64 (L.rsTo p s g' i).across.hi, SV.int .i64 (L.rsTo p s g' i).bend]) ∧ p.id = p.id ∧ p.colour = p.colour ∧ p.rev = p.rev ∧ p.made = p.made ∧ p.swell = p.swell ∧ (p.marks.n = p.marks.n ∧ ∀ (i : Nat), i < p.marks.n → [SV.int .i64 (p.marks.g i).edge, SV.int
 .i64 (p.marks.g i).place, SV.int .i64 (p.marks.g i).tone] = [SV.int .i64 (p.marks.g i).edge, SV.int .i64 (p.marks.g i).place, SV.int .i64 (p.marks.g i).tone]) ∧ (0 : Int) = (0 : Int) ∧ (0 : Int) = (0 : Int) ∧ (0 : Int) = (0 : Int) ∧ (0 : Int) = (0 : Int) ∧ (0 : Int) = (0 : Int) ∧ Value.slice Option.none (0 : Nat) (0 :
 Nat) = Value.slice Option.none (0 : Nat) (0 : Nat) ∧ Value.slice Option.none (0 : Nat) (0 : Nat) = Value.slice Option.none (0 : Nat) (0 : Nat) ∧ g' ≤ p.gauges.n ∧ p.gauges.n - g' < p.gauges.n - g) ∧ (s.back = false → ((0 : Int) ≤ L.ed s (↑p.gauges.n : Int) (↑g : Int) ∧ L.ed s (↑p.gauges.n : Int) (↑g : Int) < (↑p.gauges.n : Int)) ∧ Int.toNat (L.ed s (↑p.gauges.n : Int) (↑g : Int)) <
 p.gauges.n ∧ InK .i64 ((↑g : Int) + (1 : Int)) ∧ ∃ (g' : Nat), (↑g : Int) + (1 : Int) = (↑g' : Int) ∧ (↑p.gauges.n : Int) = (↑p.gauges.n : Int) ∧ (p.gauges.n = p.gauges.n ∧ ∀ (i : Nat), i < p.gauges.n → [SV.int .i64 (p.gauges.g i).edge.lo, SV.int .i64 (p.gauges.g i).edge.hi, SV.int .i64 (p.gauges.g i).across.lo, SV.int
 .i64 (p.gauges.g i).across.hi, SV.int .i64 (p.gauges.g i).bend] = [SV.int .i64 (p.gauges.g i).edge.lo, SV.int .i64 (p.gauges.g i).edge.hi, SV.int .i64 (p.gauges.g i).across.lo, SV.int .i64 (p.gauges.g i).across.hi, SV.int .i64 (p.gauges.g i).bend]) ∧ nat_lit 0 = nat_lit 0 ∧ (↑p.gauges.n : Int)
 = (↑p.gauges.n : Int) ∧ nat_lit 0 = nat_lit 0 ∧ SV.ref [SV.int .i64 s.shift, SV.bool s.back] (nat_lit 0) = SV.ref [SV.int .i64 s.shift, SV.bool s.back] (nat_lit 0) ∧ SV.ref [SV.int .i64 p.id, SV.int .i64 p.colour, SV.int .i64 p.rev, SV.int .i64 p.made, SV.int
 .i64 p.swell, SV.sl (nat_lit 5) p.gauges.n fun (i : Nat) ↦ [SV.int .i64 (p.gauges.g i).edge.lo, SV.int .i64 (p.gauges.g i).edge.hi, SV.int .i64 (p.gauges.g i).across.lo, SV.int .i64 (p.gauges.g i).across.hi, SV.int .i64 (p.gauges.g i).bend], SV.sl (nat_lit 3) p.marks.n fun (i : Nat) ↦
 [SV.int .i64 (p.marks.g i).edge, SV.int .i64 (p.marks.g i).place, SV.int .i64 (p.marks.g i).tone]] (nat_lit 0) = SV.ref [SV.int .i64 p.id, SV.int .i64 p.colour, SV.int .i64 p.rev, SV.int .i64 p.made, SV.int .i64 p.swell, SV.sl (nat_lit 5) p.gauges.n fun (i :
 Nat) ↦ [SV.int .i64 (p.gauges.g i).edge.lo, SV.int .i64 (p.gauges.g i).edge.hi, SV.int .i64 (p.gauges.g i).across.lo, SV.int .i64 (p.gauges.g i).across.hi, SV.int .i64 (p.gauges.g i).bend], SV.sl (nat_lit 3) p.marks.n fun (i : Nat) ↦ [SV.int .i64 (p.marks.g i).edge, SV.int .i64
 (p.marks.g i).place, SV.int .i64 (p.marks.g i).tone]] (nat_lit 0) ∧ (p.gauges.n = p.gauges.n ∧ ∀ (i : Nat), i < p.gauges.n → setRow (fun (j : Nat) ↦ [SV.int .i64 (L.rsTo p s g j).edge.lo, SV.int .i64 (L.rsTo p s g j).edge.hi, SV.int .i64 (L.rsTo p s g j).across.lo, SV.int .i64 (L.rsTo p s g j).across.hi,
 SV.int .i64 (L.rsTo p s g j).bend]) (Int.toNat (L.ed s (↑p.gauges.n : Int) (↑g : Int))) (nat_lit 0) [SV.int .i64 (p.gauges.g (Int.toNat (↑g : Int))).edge.lo, SV.int .i64 (p.gauges.g (Int.toNat (↑g : Int))).edge.hi, SV.int .i64 (p.gauges.g (Int.toNat (↑g : Int))).across.lo, SV.int .i64 (p.gauges.g (Int.toNat (↑g :
 Int))).across.hi, SV.int .i64 (p.gauges.g (Int.toNat (↑g : Int))).bend] i = [SV.int .i64 (L.rsTo p s g' i).edge.lo, SV.int .i64 (L.rsTo p s g' i).edge.hi, SV.int .i64 (L.rsTo p s g' i).across.lo, SV.int .i64 (L.rsTo p s g' i).across.hi, SV.int .i64 (L.rsTo p s g' i).bend]) ∧ p.id = p.id ∧ p.colour =
 p.colour ∧ p.rev = p.rev ∧ p.made = p.made ∧ p.swell = p.swell ∧ (p.marks.n = p.marks.n ∧ ∀ (i : Nat), i < p.marks.n → [SV.int .i64 (p.marks.g i).edge, SV.int .i64 (p.marks.g i).place, SV.int .i64 (p.marks.g i).tone] = [SV.int .i64 (p.marks.g i).edge, SV.int .i64 (p.marks.g i).place, SV.int .i64
 (p.marks.g i).tone]) ∧ (0 : Int) = (0 : Int) ∧ (0 : Int) = (0 : Int) ∧ (0 : Int) = (0 : Int) ∧ (0 : Int) = (0 : Int) ∧ (0 : Int) = (0 : Int) ∧ Value.slice Option.none (0 : Nat) (0 : Nat) = Value.slice Option.none (0 : Nat) (0 : Nat) ∧ Value.slice Option.none (0 : Nat) (0 : Nat) = Value.slice Option.none (0 : Nat) (0 : Nat) ∧ g' ≤ p.gauges.n ∧ p.gauges.n - g' < p.gauges.n - g)) ∧
 (decide ((↑g : Int) < (↑p.gauges.n : Int)) = false → ((∀ (i : Nat), i < p.marks.n → [SV.int .i64 (p.marks.g i).edge, SV.int .i64 (p.marks.g i).place, SV.int .i64 (p.marks.g i).tone] = [SV.int .i64 (p.marks.g i).edge, SV.int .i64 (p.marks.g i).place, SV.int .i64 (p.marks.g i).tone]) ∧
 p.marks.n ≤ (1000000 : Nat)) ∧ ∀ (t : Nat), True → (∃ (g : Nat), (0 : Int) = (↑g : Int) ∧ (p.marks.n = p.marks.n ∧ ∀ (i : Nat), i < p.marks.n → [SV.int .i64 (p.marks.g i).edge, SV.int .i64 (p.marks.g i).place, SV.int .i64 (p.marks.g i).tone] = [SV.int .i64 (L.rsMTo p.marks s p.gauges.n g i).edge, SV.int .i64 (L.rsMTo
 p.marks s p.gauges.n g i).place, SV.int .i64 (L.rsMTo p.marks s p.gauges.n g i).tone]) ∧ g ≤ p.marks.n) ∧ ∀ (g_1 : Nat), g_1 ≤ p.marks.n → (decide ((↑g_1 : Int) < (↑p.marks.n : Int)) = true → ((0 : Int) ≤ (↑g_1 : Int) ∧ (↑g_1 : Int) < (↑p.marks.n : Int)) ∧ Int.toNat (↑g_1 : Int) < p.marks.n ∧ True ∧ ((0 : Int) ≤ (↑g_1 : Int) ∧ (↑g_1 : Int) < (↑p.marks.n : Int)) ∧
 Int.toNat (↑g_1 : Int) < p.marks.n ∧ (s.back = true → InK .i64 ((16 : Int) - (L.rsMTo p.marks s p.gauges.n g_1 (Int.toNat (↑g_1 : Int))).place) ∧ ((0 : Int) ≤ (↑g_1 : Int) ∧ (↑g_1 : Int) < (↑p.marks.n : Int)) ∧ Int.toNat (↑g_1 : Int) < p.marks.n ∧ InK .i64 ((↑g_1 : Int) + (1 : Int)) ∧ ∃ (g' : Nat), (↑g_1 : Int) + (1 : Int) = (↑g' : Int) ∧ (↑p.marks.n : Int) =
 (↑p.marks.n : Int) ∧ nat_lit 0 = nat_lit 0 ∧ (↑p.gauges.n : Int) = (↑p.gauges.n : Int) ∧ nat_lit 0 = nat_lit 0 ∧ SV.ref [SV.int .i64 s.shift, SV.bool s.back] (nat_lit 0) = SV.ref [SV.int .i64 s.shift, SV.bool s.back] (nat_lit 0) ∧ SV.ref [SV.int .i64 p.id, SV.int .i64 p.colour, SV.int .i64
 p.rev, SV.int .i64 p.made, SV.int .i64 p.swell, SV.sl (nat_lit 5) p.gauges.n fun (i : Nat) ↦ [SV.int .i64 (p.gauges.g i).edge.lo, SV.int .i64 (p.gauges.g i).edge.hi, SV.int .i64 (p.gauges.g i).across.lo, SV.int .i64 (p.gauges.g i).across.hi, SV.int .i64 (p.gauges.g i).bend],
 SV.sl (nat_lit 3) p.marks.n fun (i : Nat) ↦ [SV.int .i64 (p.marks.g i).edge, SV.int .i64 (p.marks.g i).place, SV.int .i64 (p.marks.g i).tone]] (nat_lit 0) = SV.ref [SV.int .i64 p.id, SV.int .i64 p.colour, SV.int .i64 p.rev, SV.int .i64 p.made, SV.int .i64
 p.swell, SV.sl (nat_lit 5) p.gauges.n fun (i : Nat) ↦ [SV.int .i64 (p.gauges.g i).edge.lo, SV.int .i64 (p.gauges.g i).edge.hi, SV.int .i64 (p.gauges.g i).across.lo, SV.int .i64 (p.gauges.g i).across.hi, SV.int .i64 (p.gauges.g i).bend], SV.sl (nat_lit 3) p.marks.n fun (i : Nat) ↦ [SV.int
 .i64 (p.marks.g i).edge, SV.int .i64 (p.marks.g i).place, SV.int .i64 (p.marks.g i).tone]] (nat_lit 0) ∧ (p.marks.n = p.marks.n ∧ ∀ (i : Nat), i < p.marks.n → setRow (setRow (fun (k : Nat) ↦ [SV.int .i64 (L.rsMTo p.marks s p.gauges.n g_1 k).edge, SV.int .i64 (L.rsMTo p.marks s p.gauges.n g_1 k).place,
 SV.int .i64 (L.rsMTo p.marks s p.gauges.n g_1 k).tone]) (Int.toNat (↑g_1 : Int)) (nat_lit 0) [SV.int .i64 (L.ed s (↑p.gauges.n : Int) (L.rsMTo p.marks s p.gauges.n g_1 (Int.toNat (↑g_1 : Int))).edge)]) (Int.toNat (↑g_1 : Int)) (nat_lit 1) [SV.int .i64 ((16 : Int) - (L.rsMTo p.marks s p.gauges.n g_1 (Int.toNat (↑g_1 : Int))).place)] i = [SV.int
 .i64 (L.rsMTo p.marks s p.gauges.n g' i).edge, SV.int .i64 (L.rsMTo p.marks s p.gauges.n g' i).place, SV.int .i64 (L.rsMTo p.marks s p.gauges.n g' i).tone]) ∧ (p.gauges.n = p.gauges.n ∧ ∀ (i : Nat), i < p.gauges.n → [SV.int .i64 (L.rsTo p s g i).edge.lo, SV.int .i64 (L.rsTo p s g i).edge.hi, SV.int .i64
 (L.rsTo p s g i).across.lo, SV.int .i64 (L.rsTo p s g i).across.hi, SV.int .i64 (L.rsTo p s g i).bend] = [SV.int .i64 (L.rsTo p s g i).edge.lo, SV.int .i64 (L.rsTo p s g i).edge.hi, SV.int .i64 (L.rsTo p s g i).across.lo, SV.int .i64 (L.rsTo p s g i).across.hi, SV.int .i64 (L.rsTo p s g
 i).bend]) ∧ p.id = p.id ∧ p.colour = p.colour ∧ p.rev = p.rev ∧ p.made = p.made ∧ p.swell = p.swell ∧ (0 : Int) = (0 : Int) ∧ (0 : Int) = (0 : Int) ∧ (0 : Int) = (0 : Int) ∧ (0 : Int) = (0 : Int) ∧ (0 : Int) = (0 : Int) ∧ Value.slice Option.none (0 : Nat) (0 : Nat) = Value.slice Option.none (0 : Nat) (0 : Nat) ∧ Value.slice Option.none (0 : Nat) (0 : Nat) = Value.slice Option.none (0 :
 Nat) (0 : Nat) ∧ g' ≤ p.marks.n ∧ p.marks.n - g' < p.marks.n - g_1) ∧ (s.back = false → InK .i64 ((↑g_1 : Int) + (1 : Int)) ∧ ∃ (g' : Nat), (↑g_1 : Int) + (1 : Int) = (↑g' : Int) ∧ (↑p.marks.n : Int) = (↑p.marks.n : Int) ∧ nat_lit 0 = nat_lit 0 ∧ (↑p.gauges.n : Int) = (↑p.gauges.n : Int) ∧ nat_lit 0 = nat_lit 0 ∧ SV.ref [SV.int .i64 s.shift, SV.bool
 s.back] (nat_lit 0) = SV.ref [SV.int .i64 s.shift, SV.bool s.back] (nat_lit 0) ∧ SV.ref [SV.int .i64 p.id, SV.int .i64 p.colour, SV.int .i64 p.rev, SV.int .i64 p.made, SV.int .i64 p.swell, SV.sl (nat_lit 5) p.gauges.n fun (i : Nat) ↦ [SV.int .i64 (p.gauges.g
 i).edge.lo, SV.int .i64 (p.gauges.g i).edge.hi, SV.int .i64 (p.gauges.g i).across.lo, SV.int .i64 (p.gauges.g i).across.hi, SV.int .i64 (p.gauges.g i).bend], SV.sl (nat_lit 3) p.marks.n fun (i : Nat) ↦ [SV.int .i64 (p.marks.g i).edge, SV.int .i64 (p.marks.g i).place, SV.int .i64
 (p.marks.g i).tone]] (nat_lit 0) = SV.ref [SV.int .i64 p.id, SV.int .i64 p.colour, SV.int .i64 p.rev, SV.int .i64 p.made, SV.int .i64 p.swell, SV.sl (nat_lit 5) p.gauges.n fun (i : Nat) ↦ [SV.int .i64 (p.gauges.g i).edge.lo, SV.int .i64 (p.gauges.g i).edge.hi, SV.int
 .i64 (p.gauges.g i).across.lo, SV.int .i64 (p.gauges.g i).across.hi, SV.int .i64 (p.gauges.g i).bend], SV.sl (nat_lit 3) p.marks.n fun (i : Nat) ↦ [SV.int .i64 (p.marks.g i).edge, SV.int .i64 (p.marks.g i).place, SV.int .i64 (p.marks.g i).tone]] (nat_lit 0) ∧ (p.marks.n = p.marks.n ∧ ∀ (i : Nat), i <
 p.marks.n → setRow (fun (k : Nat) ↦ [SV.int .i64 (L.rsMTo p.marks s p.gauges.n g_1 k).edge, SV.int .i64 (L.rsMTo p.marks s p.gauges.n g_1 k).place, SV.int .i64 (L.rsMTo p.marks s p.gauges.n g_1 k).tone]) (Int.toNat (↑g_1 : Int)) (nat_lit 0) [SV.int .i64 (L.ed s (↑p.gauges.n : Int) (L.rsMTo p.marks s p.gauges.n g_1 (Int.toNat
 (↑g_1 : Int))).edge)] i = [SV.int .i64 (L.rsMTo p.marks s p.gauges.n g' i).edge, SV.int .i64 (L.rsMTo p.marks s p.gauges.n g' i).place, SV.int .i64 (L.rsMTo p.marks s p.gauges.n g' i).tone]) ∧ (p.gauges.n = p.gauges.n ∧ ∀ (i : Nat), i < p.gauges.n → [SV.int .i64 (L.rsTo p s g i).edge.lo, SV.int .i64 (L.rsTo p s g
 i).edge.hi, SV.int .i64 (L.rsTo p s g i).across.lo, SV.int .i64 (L.rsTo p s g i).across.hi, SV.int .i64 (L.rsTo p s g i).bend] = [SV.int .i64 (L.rsTo p s g i).edge.lo, SV.int .i64 (L.rsTo p s g i).edge.hi, SV.int .i64 (L.rsTo p s g i).across.lo, SV.int .i64 (L.rsTo p s g i).across.hi,
 SV.int .i64 (L.rsTo p s g i).bend]) ∧ p.id = p.id ∧ p.colour = p.colour ∧ p.rev = p.rev ∧ p.made = p.made ∧ p.swell = p.swell ∧ (0 : Int) = (0 : Int) ∧ (0 : Int) = (0 : Int) ∧ (0 : Int) = (0 : Int) ∧ (0 : Int) = (0 : Int) ∧ (0 : Int) = (0 : Int) ∧ Value.slice Option.none (0 : Nat) (0 : Nat) = Value.slice Option.none (0 : Nat) (0 : Nat) ∧ Value.slice Option.none (0 : Nat)
 (0 : Nat) = Value.slice Option.none (0 : Nat) (0 : Nat) ∧ g' ≤ p.marks.n ∧ p.marks.n - g' < p.marks.n - g_1)) ∧ (decide ((↑g_1 : Int) < (↑p.marks.n : Int)) = false → ((∀ (i : Nat), i < p.marks.n → [SV.int .i64 (L.rsMTo p.marks s p.gauges.n g_1 i).edge, SV.int .i64 (L.rsMTo p.marks s p.gauges.n g_1 i).place, SV.int .i64 (L.rsMTo
 p.marks s p.gauges.n g_1 i).tone] = [SV.int .i64 (L.rsMTo p.marks s p.gauges.n g_1 i).edge, SV.int .i64 (L.rsMTo p.marks s p.gauges.n g_1 i).place, SV.int .i64 (L.rsMTo p.marks s p.gauges.n g_1 i).tone]) ∧ p.marks.n ≤ (1000000 : Nat)) ∧ ∀ (t : Nat), True → (∀ (i : Nat), i < p.marks.n → (true && (true && (true && true))) =
 true) ∧ (s.back = true → ((((p.id = (L.rs p s).id ∧ p.rev = (L.rs p s).colour ∧ p.colour = (L.rs p s).rev ∧ p.made = (L.rs p s).made ∧ p.swell = (L.rs p s).swell ∧ (p.gauges.n = (L.rs p s).gauges.n ∧ ∀ (i : Nat), i < p.gauges.n → [SV.int .i64 (L.rsTo p s g i).edge.lo, SV.int .i64 (L.rsTo p s g i).edge.hi, SV.int .i64 (L.rsTo p s g
 i).across.lo, SV.int .i64 (L.rsTo p s g i).across.hi, SV.int .i64 (L.rsTo p s g i).bend] = [SV.int .i64 ((L.rs p s).gauges.g i).edge.lo, SV.int .i64 ((L.rs p s).gauges.g i).edge.hi, SV.int .i64 ((L.rs p s).gauges.g i).across.lo, SV.int .i64 ((L.rs p s).gauges.g i).across.hi, SV.int .i64
 ((L.rs p s).gauges.g i).bend]) ∧ p.marks.n = (L.rs p s).marks.n ∧ ∀ (i : Nat), i < p.marks.n → [SV.int .i64 ((L.sortM (L.Sq.mk p.marks.n fun (i : Nat) ↦ L.rsMTo p.marks s p.gauges.n g_1 i)).g i).edge, SV.int .i64 ((L.sortM (L.Sq.mk p.marks.n fun (i : Nat) ↦ L.rsMTo p.marks s p.gauges.n g_1 i)).g i).place, SV.int .i64 ((L.sortM (L.Sq.mk p.marks.n fun
 (i : Nat) ↦ L.rsMTo p.marks s p.gauges.n g_1 i)).g i).tone] = [SV.int .i64 ((L.rs p s).marks.g i).edge, SV.int .i64 ((L.rs p s).marks.g i).place, SV.int .i64 ((L.rs p s).marks.g i).tone]) ∧ (p.id = (L.rs p s).id ∧ p.rev = (L.rs p s).colour ∧ p.colour = (L.rs p s).rev ∧ p.made = (L.rs p s).made ∧ p.swell = (L.rs p s).swell ∧ (p.gauges.n = (L.rs p
 s).gauges.n ∧ ∀ (i : Nat), i < p.gauges.n → [SV.int .i64 (L.rsTo p s g i).edge.lo, SV.int .i64 (L.rsTo p s g i).edge.hi, SV.int .i64 (L.rsTo p s g i).across.lo, SV.int .i64 (L.rsTo p s g i).across.hi, SV.int .i64 (L.rsTo p s g i).bend] = [SV.int .i64 ((L.rs p s).gauges.g i).edge.lo, SV.int
 .i64 ((L.rs p s).gauges.g i).edge.hi, SV.int .i64 ((L.rs p s).gauges.g i).across.lo, SV.int .i64 ((L.rs p s).gauges.g i).across.hi, SV.int .i64 ((L.rs p s).gauges.g i).bend]) ∧ p.marks.n = (L.rs p s).marks.n ∧ ∀ (i : Nat), i < p.marks.n → [SV.int .i64 ((L.sortM (L.Sq.mk p.marks.n fun (i : Nat) ↦ L.rsMTo p.marks s p.gauges.n
 g_1 i)).g i).edge, SV.int .i64 ((L.sortM (L.Sq.mk p.marks.n fun (i : Nat) ↦ L.rsMTo p.marks s p.gauges.n g_1 i)).g i).place, SV.int .i64 ((L.sortM (L.Sq.mk p.marks.n fun (i : Nat) ↦ L.rsMTo p.marks s p.gauges.n g_1 i)).g i).tone] = [SV.int .i64 ((L.rs p s).marks.g i).edge, SV.int .i64 ((L.rs p s).marks.g i).place, SV.int
 .i64 ((L.rs p s).marks.g i).tone]) ∧ p.id = (L.rs p s).id ∧ p.rev = (L.rs p s).colour ∧ p.colour = (L.rs p s).rev ∧ p.made = (L.rs p s).made ∧ p.swell = (L.rs p s).swell ∧ (p.gauges.n = (L.rs p s).gauges.n ∧ ∀ (i : Nat), i < p.gauges.n → [SV.int .i64 (L.rsTo p s g i).edge.lo, SV.int .i64 (L.rsTo p s g i).edge.hi, SV.int .i64 (L.rsTo p s g
 i).across.lo, SV.int .i64 (L.rsTo p s g i).across.hi, SV.int .i64 (L.rsTo p s g i).bend] = [SV.int .i64 ((L.rs p s).gauges.g i).edge.lo, SV.int .i64 ((L.rs p s).gauges.g i).edge.hi, SV.int .i64 ((L.rs p s).gauges.g i).across.lo, SV.int .i64 ((L.rs p s).gauges.g i).across.hi, SV.int .i64
 ((L.rs p s).gauges.g i).bend]) ∧ p.marks.n = (L.rs p s).marks.n ∧ ∀ (i : Nat), i < p.marks.n → [SV.int .i64 ((L.sortM (L.Sq.mk p.marks.n fun (i : Nat) ↦ L.rsMTo p.marks s p.gauges.n g_1 i)).g i).edge, SV.int .i64 ((L.sortM (L.Sq.mk p.marks.n fun (i : Nat) ↦ L.rsMTo p.marks s p.gauges.n g_1 i)).g i).place, SV.int .i64 ((L.sortM (L.Sq.mk p.marks.n fun
 (i : Nat) ↦ L.rsMTo p.marks s p.gauges.n g_1 i)).g i).tone] = [SV.int .i64 ((L.rs p s).marks.g i).edge, SV.int .i64 ((L.rs p s).marks.g i).place, SV.int .i64 ((L.rs p s).marks.g i).tone]) ∧ ((p.id = (L.rs p s).id ∧ p.rev = (L.rs p s).colour ∧ p.colour = (L.rs p s).rev ∧ p.made = (L.rs p s).made ∧ p.swell = (L.rs p s).swell ∧ (p.gauges.n = (L.rs p
 s).gauges.n ∧ ∀ (i : Nat), i < p.gauges.n → [SV.int .i64 (L.rsTo p s g i).edge.lo, SV.int .i64 (L.rsTo p s g i).edge.hi, SV.int .i64 (L.rsTo p s g i).across.lo, SV.int .i64 (L.rsTo p s g i).across.hi, SV.int .i64 (L.rsTo p s g i).bend] = [SV.int .i64 ((L.rs p s).gauges.g i).edge.lo, SV.int
 .i64 ((L.rs p s).gauges.g i).edge.hi, SV.int .i64 ((L.rs p s).gauges.g i).across.lo, SV.int .i64 ((L.rs p s).gauges.g i).across.hi, SV.int .i64 ((L.rs p s).gauges.g i).bend]) ∧ p.marks.n = (L.rs p s).marks.n ∧ ∀ (i : Nat), i < p.marks.n → [SV.int .i64 ((L.sortM (L.Sq.mk p.marks.n fun (i : Nat) ↦ L.rsMTo p.marks s p.gauges.n
 g_1 i)).g i).edge, SV.int .i64 ((L.sortM (L.Sq.mk p.marks.n fun (i : Nat) ↦ L.rsMTo p.marks s p.gauges.n g_1 i)).g i).place, SV.int .i64 ((L.sortM (L.Sq.mk p.marks.n fun (i : Nat) ↦ L.rsMTo p.marks s p.gauges.n g_1 i)).g i).tone] = [SV.int .i64 ((L.rs p s).marks.g i).edge, SV.int .i64 ((L.rs p s).marks.g i).place, SV.int
 .i64 ((L.rs p s).marks.g i).tone]) ∧ p.id = (L.rs p s).id ∧ p.rev = (L.rs p s).colour ∧ p.colour = (L.rs p s).rev ∧ p.made = (L.rs p s).made ∧ p.swell = (L.rs p s).swell ∧ (p.gauges.n = (L.rs p s).gauges.n ∧ ∀ (i : Nat), i < p.gauges.n → [SV.int .i64 (L.rsTo p s g i).edge.lo, SV.int .i64 (L.rsTo p s g i).edge.hi, SV.int .i64 (L.rsTo p s g
 i).across.lo, SV.int .i64 (L.rsTo p s g i).across.hi, SV.int .i64 (L.rsTo p s g i).bend] = [SV.int .i64 ((L.rs p s).gauges.g i).edge.lo, SV.int .i64 ((L.rs p s).gauges.g i).edge.hi, SV.int .i64 ((L.rs p s).gauges.g i).across.lo, SV.int .i64 ((L.rs p s).gauges.g i).across.hi, SV.int .i64
 ((L.rs p s).gauges.g i).bend]) ∧ p.marks.n = (L.rs p s).marks.n ∧ ∀ (i : Nat), i < p.marks.n → [SV.int .i64 ((L.sortM (L.Sq.mk p.marks.n fun (i : Nat) ↦ L.rsMTo p.marks s p.gauges.n g_1 i)).g i).edge, SV.int .i64 ((L.sortM (L.Sq.mk p.marks.n fun (i : Nat) ↦ L.rsMTo p.marks s p.gauges.n g_1 i)).g i).place, SV.int .i64 ((L.sortM (L.Sq.mk p.marks.n fun
 (i : Nat) ↦ L.rsMTo p.marks s p.gauges.n g_1 i)).g i).tone] = [SV.int .i64 ((L.rs p s).marks.g i).edge, SV.int .i64 ((L.rs p s).marks.g i).place, SV.int .i64 ((L.rs p s).marks.g i).tone]) ∧ p.id = (L.rs p s).id ∧ p.rev = (L.rs p s).colour ∧ p.colour = (L.rs p s).rev ∧ p.made = (L.rs p s).made ∧ p.swell = (L.rs p s).swell ∧ (p.gauges.n = (L.rs p
 s).gauges.n ∧ ∀ (i : Nat), i < p.gauges.n → [SV.int .i64 (L.rsTo p s g i).edge.lo, SV.int .i64 (L.rsTo p s g i).edge.hi, SV.int .i64 (L.rsTo p s g i).across.lo, SV.int .i64 (L.rsTo p s g i).across.hi, SV.int .i64 (L.rsTo p s g i).bend] = [SV.int .i64 ((L.rs p s).gauges.g i).edge.lo, SV.int
 .i64 ((L.rs p s).gauges.g i).edge.hi, SV.int .i64 ((L.rs p s).gauges.g i).across.lo, SV.int .i64 ((L.rs p s).gauges.g i).across.hi, SV.int .i64 ((L.rs p s).gauges.g i).bend]) ∧ p.marks.n = (L.rs p s).marks.n ∧ ∀ (i : Nat), i < p.marks.n → [SV.int .i64 ((L.sortM (L.Sq.mk p.marks.n fun (i : Nat) ↦ L.rsMTo p.marks s p.gauges.n
 g_1 i)).g i).edge, SV.int .i64 ((L.sortM (L.Sq.mk p.marks.n fun (i : Nat) ↦ L.rsMTo p.marks s p.gauges.n g_1 i)).g i).place, SV.int .i64 ((L.sortM (L.Sq.mk p.marks.n fun (i : Nat) ↦ L.rsMTo p.marks s p.gauges.n g_1 i)).g i).tone] = [SV.int .i64 ((L.rs p s).marks.g i).edge, SV.int .i64 ((L.rs p s).marks.g i).place, SV.int
 .i64 ((L.rs p s).marks.g i).tone]) ∧ ((p.id = (L.rs p s).id ∧ p.rev = (L.rs p s).colour ∧ p.colour = (L.rs p s).rev ∧ p.made = (L.rs p s).made ∧ p.swell = (L.rs p s).swell ∧ (p.gauges.n = (L.rs p s).gauges.n ∧ ∀ (i : Nat), i < p.gauges.n → [SV.int .i64 (L.rsTo p s g i).edge.lo, SV.int .i64 (L.rsTo p s g i).edge.hi, SV.int .i64 (L.rsTo p s g
 i).across.lo, SV.int .i64 (L.rsTo p s g i).across.hi, SV.int .i64 (L.rsTo p s g i).bend] = [SV.int .i64 ((L.rs p s).gauges.g i).edge.lo, SV.int .i64 ((L.rs p s).gauges.g i).edge.hi, SV.int .i64 ((L.rs p s).gauges.g i).across.lo, SV.int .i64 ((L.rs p s).gauges.g i).across.hi, SV.int .i64
 ((L.rs p s).gauges.g i).bend]) ∧ p.marks.n = (L.rs p s).marks.n ∧ ∀ (i : Nat), i < p.marks.n → [SV.int .i64 ((L.sortM (L.Sq.mk p.marks.n fun (i : Nat) ↦ L.rsMTo p.marks s p.gauges.n g_1 i)).g i).edge, SV.int .i64 ((L.sortM (L.Sq.mk p.marks.n fun (i : Nat) ↦ L.rsMTo p.marks s p.gauges.n g_1 i)).g i).place, SV.int .i64 ((L.sortM (L.Sq.mk p.marks.n fun
 (i : Nat) ↦ L.rsMTo p.marks s p.gauges.n g_1 i)).g i).tone] = [SV.int .i64 ((L.rs p s).marks.g i).edge, SV.int .i64 ((L.rs p s).marks.g i).place, SV.int .i64 ((L.rs p s).marks.g i).tone]) ∧ (p.id = (L.rs p s).id ∧ p.rev = (L.rs p s).colour ∧ p.colour = (L.rs p s).rev ∧ p.made = (L.rs p s).made ∧ p.swell = (L.rs p s).swell ∧ (p.gauges.n = (L.rs p
 s).gauges.n ∧ ∀ (i : Nat), i < p.gauges.n → [SV.int .i64 (L.rsTo p s g i).edge.lo, SV.int .i64 (L.rsTo p s g i).edge.hi, SV.int .i64 (L.rsTo p s g i).across.lo, SV.int .i64 (L.rsTo p s g i).across.hi, SV.int .i64 (L.rsTo p s g i).bend] = [SV.int .i64 ((L.rs p s).gauges.g i).edge.lo, SV.int
 .i64 ((L.rs p s).gauges.g i).edge.hi, SV.int .i64 ((L.rs p s).gauges.g i).across.lo, SV.int .i64 ((L.rs p s).gauges.g i).across.hi, SV.int .i64 ((L.rs p s).gauges.g i).bend]) ∧ p.marks.n = (L.rs p s).marks.n ∧ ∀ (i : Nat), i < p.marks.n → [SV.int .i64 ((L.sortM (L.Sq.mk p.marks.n fun (i : Nat) ↦ L.rsMTo p.marks s p.gauges.n
 g_1 i)).g i).edge, SV.int .i64 ((L.sortM (L.Sq.mk p.marks.n fun (i : Nat) ↦ L.rsMTo p.marks s p.gauges.n g_1 i)).g i).place, SV.int .i64 ((L.sortM (L.Sq.mk p.marks.n fun (i : Nat) ↦ L.rsMTo p.marks s p.gauges.n g_1 i)).g i).tone] = [SV.int .i64 ((L.rs p s).marks.g i).edge, SV.int .i64 ((L.rs p s).marks.g i).place, SV.int
 .i64 ((L.rs p s).marks.g i).tone]) ∧ p.id = (L.rs p s).id ∧ p.rev = (L.rs p s).colour ∧ p.colour = (L.rs p s).rev ∧ p.made = (L.rs p s).made ∧ p.swell = (L.rs p s).swell ∧ (p.gauges.n = (L.rs p s).gauges.n ∧ ∀ (i : Nat), i < p.gauges.n → [SV.int .i64 (L.rsTo p s g i).edge.lo, SV.int .i64 (L.rsTo p s g i).edge.hi, SV.int .i64 (L.rsTo p s g
 i).across.lo, SV.int .i64 (L.rsTo p s g i).across.hi, SV.int .i64 (L.rsTo p s g i).bend] = [SV.int .i64 ((L.rs p s).gauges.g i).edge.lo, SV.int .i64 ((L.rs p s).gauges.g i).edge.hi, SV.int .i64 ((L.rs p s).gauges.g i).across.lo, SV.int .i64 ((L.rs p s).gauges.g i).across.hi, SV.int .i64
 ((L.rs p s).gauges.g i).bend]) ∧ p.marks.n = (L.rs p s).marks.n ∧ ∀ (i : Nat), i < p.marks.n → [SV.int .i64 ((L.sortM (L.Sq.mk p.marks.n fun (i : Nat) ↦ L.rsMTo p.marks s p.gauges.n g_1 i)).g i).edge, SV.int .i64 ((L.sortM (L.Sq.mk p.marks.n fun (i : Nat) ↦ L.rsMTo p.marks s p.gauges.n g_1 i)).g i).place, SV.int .i64 ((L.sortM (L.Sq.mk p.marks.n fun
 (i : Nat) ↦ L.rsMTo p.marks s p.gauges.n g_1 i)).g i).tone] = [SV.int .i64 ((L.rs p s).marks.g i).edge, SV.int .i64 ((L.rs p s).marks.g i).place, SV.int .i64 ((L.rs p s).marks.g i).tone]) ∧ p.id = (L.rs p s).id ∧ p.rev = (L.rs p s).colour ∧ p.colour = (L.rs p s).rev ∧ p.made = (L.rs p s).made ∧ p.swell = (L.rs p s).swell ∧ (p.gauges.n = (L.rs p
 s).gauges.n ∧ ∀ (i : Nat), i < p.gauges.n → [SV.int .i64 (L.rsTo p s g i).edge.lo, SV.int .i64 (L.rsTo p s g i).edge.hi, SV.int .i64 (L.rsTo p s g i).across.lo, SV.int .i64 (L.rsTo p s g i).across.hi, SV.int .i64 (L.rsTo p s g i).bend] = [SV.int .i64 ((L.rs p s).gauges.g i).edge.lo, SV.int
 .i64 ((L.rs p s).gauges.g i).edge.hi, SV.int .i64 ((L.rs p s).gauges.g i).across.lo, SV.int .i64 ((L.rs p s).gauges.g i).across.hi, SV.int .i64 ((L.rs p s).gauges.g i).bend]) ∧ p.marks.n = (L.rs p s).marks.n ∧ ∀ (i : Nat), i < p.marks.n → [SV.int .i64 ((L.sortM (L.Sq.mk p.marks.n fun (i : Nat) ↦ L.rsMTo p.marks s p.gauges.n
 g_1 i)).g i).edge, SV.int .i64 ((L.sortM (L.Sq.mk p.marks.n fun (i : Nat) ↦ L.rsMTo p.marks s p.gauges.n g_1 i)).g i).place, SV.int .i64 ((L.sortM (L.Sq.mk p.marks.n fun (i : Nat) ↦ L.rsMTo p.marks s p.gauges.n g_1 i)).g i).tone] = [SV.int .i64 ((L.rs p s).marks.g i).edge, SV.int .i64 ((L.rs p s).marks.g i).place, SV.int
 .i64 ((L.rs p s).marks.g i).tone]) ∧ (((p.id = (L.rs p s).id ∧ p.rev = (L.rs p s).colour ∧ p.colour = (L.rs p s).rev ∧ p.made = (L.rs p s).made ∧ p.swell = (L.rs p s).swell ∧ (p.gauges.n = (L.rs p s).gauges.n ∧ ∀ (i : Nat), i < p.gauges.n → [SV.int .i64 (L.rsTo p s g i).edge.lo, SV.int .i64 (L.rsTo p s g i).edge.hi, SV.int .i64 (L.rsTo p s
 g i).across.lo, SV.int .i64 (L.rsTo p s g i).across.hi, SV.int .i64 (L.rsTo p s g i).bend] = [SV.int .i64 ((L.rs p s).gauges.g i).edge.lo, SV.int .i64 ((L.rs p s).gauges.g i).edge.hi, SV.int .i64 ((L.rs p s).gauges.g i).across.lo, SV.int .i64 ((L.rs p s).gauges.g i).across.hi, SV.int
 .i64 ((L.rs p s).gauges.g i).bend]) ∧ p.marks.n = (L.rs p s).marks.n ∧ ∀ (i : Nat), i < p.marks.n → [SV.int .i64 ((L.sortM (L.Sq.mk p.marks.n fun (i : Nat) ↦ L.rsMTo p.marks s p.gauges.n g_1 i)).g i).edge, SV.int .i64 ((L.sortM (L.Sq.mk p.marks.n fun (i : Nat) ↦ L.rsMTo p.marks s p.gauges.n g_1 i)).g i).place, SV.int .i64 ((L.sortM (L.Sq.mk
 p.marks.n fun (i : Nat) ↦ L.rsMTo p.marks s p.gauges.n g_1 i)).g i).tone] = [SV.int .i64 ((L.rs p s).marks.g i).edge, SV.int .i64 ((L.rs p s).marks.g i).place, SV.int .i64 ((L.rs p s).marks.g i).tone]) ∧ (p.id = (L.rs p s).id ∧ p.rev = (L.rs p s).colour ∧ p.colour = (L.rs p s).rev ∧ p.made = (L.rs p s).made ∧ p.swell = (L.rs p s).swell ∧ (p.gauges.n
 = (L.rs p s).gauges.n ∧ ∀ (i : Nat), i < p.gauges.n → [SV.int .i64 (L.rsTo p s g i).edge.lo, SV.int .i64 (L.rsTo p s g i).edge.hi, SV.int .i64 (L.rsTo p s g i).across.lo, SV.int .i64 (L.rsTo p s g i).across.hi, SV.int .i64 (L.rsTo p s g i).bend] = [SV.int .i64 ((L.rs p s).gauges.g i).edge.lo,
 SV.int .i64 ((L.rs p s).gauges.g i).edge.hi, SV.int .i64 ((L.rs p s).gauges.g i).across.lo, SV.int .i64 ((L.rs p s).gauges.g i).across.hi, SV.int .i64 ((L.rs p s).gauges.g i).bend]) ∧ p.marks.n = (L.rs p s).marks.n ∧ ∀ (i : Nat), i < p.marks.n → [SV.int .i64 ((L.sortM (L.Sq.mk p.marks.n fun (i : Nat) ↦ L.rsMTo p.marks
 s p.gauges.n g_1 i)).g i).edge, SV.int .i64 ((L.sortM (L.Sq.mk p.marks.n fun (i : Nat) ↦ L.rsMTo p.marks s p.gauges.n g_1 i)).g i).place, SV.int .i64 ((L.sortM (L.Sq.mk p.marks.n fun (i : Nat) ↦ L.rsMTo p.marks s p.gauges.n g_1 i)).g i).tone] = [SV.int .i64 ((L.rs p s).marks.g i).edge, SV.int .i64 ((L.rs p s).marks.g i).place,
 SV.int .i64 ((L.rs p s).marks.g i).tone]) ∧ p.id = (L.rs p s).id ∧ p.rev = (L.rs p s).colour ∧ p.colour = (L.rs p s).rev ∧ p.made = (L.rs p s).made ∧ p.swell = (L.rs p s).swell ∧ (p.gauges.n = (L.rs p s).gauges.n ∧ ∀ (i : Nat), i < p.gauges.n → [SV.int .i64 (L.rsTo p s g i).edge.lo, SV.int .i64 (L.rsTo p s g i).edge.hi, SV.int .i64
 (L.rsTo p s g i).across.lo, SV.int .i64 (L.rsTo p s g i).across.hi, SV.int .i64 (L.rsTo p s g i).bend] = [SV.int .i64 ((L.rs p s).gauges.g i).edge.lo, SV.int .i64 ((L.rs p s).gauges.g i).edge.hi, SV.int .i64 ((L.rs p s).gauges.g i).across.lo, SV.int .i64 ((L.rs p s).gauges.g i).across.hi, SV.int
 .i64 ((L.rs p s).gauges.g i).bend]) ∧ p.marks.n = (L.rs p s).marks.n ∧ ∀ (i : Nat), i < p.marks.n → [SV.int .i64 ((L.sortM (L.Sq.mk p.marks.n fun (i : Nat) ↦ L.rsMTo p.marks s p.gauges.n g_1 i)).g i).edge, SV.int .i64 ((L.sortM (L.Sq.mk p.marks.n fun (i : Nat) ↦ L.rsMTo p.marks s p.gauges.n g_1 i)).g i).place, SV.int .i64 ((L.sortM (L.Sq.mk
 p.marks.n fun (i : Nat) ↦ L.rsMTo p.marks s p.gauges.n g_1 i)).g i).tone] = [SV.int .i64 ((L.rs p s).marks.g i).edge, SV.int .i64 ((L.rs p s).marks.g i).place, SV.int .i64 ((L.rs p s).marks.g i).tone]) ∧ p.id = (L.rs p s).id ∧ p.rev = (L.rs p s).colour ∧ p.colour = (L.rs p s).rev ∧ p.made = (L.rs p s).made ∧ p.swell = (L.rs p s).swell ∧ (p.gauges.n =
 (L.rs p s).gauges.n ∧ ∀ (i : Nat), i < p.gauges.n → [SV.int .i64 (L.rsTo p s g i).edge.lo, SV.int .i64 (L.rsTo p s g i).edge.hi, SV.int .i64 (L.rsTo p s g i).across.lo, SV.int .i64 (L.rsTo p s g i).across.hi, SV.int .i64 (L.rsTo p s g i).bend] = [SV.int .i64 ((L.rs p s).gauges.g i).edge.lo, SV.int
 .i64 ((L.rs p s).gauges.g i).edge.hi, SV.int .i64 ((L.rs p s).gauges.g i).across.lo, SV.int .i64 ((L.rs p s).gauges.g i).across.hi, SV.int .i64 ((L.rs p s).gauges.g i).bend]) ∧ p.marks.n = (L.rs p s).marks.n ∧ ∀ (i : Nat), i < p.marks.n → [SV.int .i64 ((L.sortM (L.Sq.mk p.marks.n fun (i : Nat) ↦ L.rsMTo p.marks s p.gauges.n
 g_1 i)).g i).edge, SV.int .i64 ((L.sortM (L.Sq.mk p.marks.n fun (i : Nat) ↦ L.rsMTo p.marks s p.gauges.n g_1 i)).g i).place, SV.int .i64 ((L.sortM (L.Sq.mk p.marks.n fun (i : Nat) ↦ L.rsMTo p.marks s p.gauges.n g_1 i)).g i).tone] = [SV.int .i64 ((L.rs p s).marks.g i).edge, SV.int .i64 ((L.rs p s).marks.g i).place, SV.int
 .i64 ((L.rs p s).marks.g i).tone]) ∧ p.id = (L.rs p s).id ∧ p.rev = (L.rs p s).colour ∧ p.colour = (L.rs p s).rev ∧ p.made = (L.rs p s).made ∧ p.swell = (L.rs p s).swell ∧ (p.gauges.n = (L.rs p s).gauges.n ∧ ∀ (i : Nat), i < p.gauges.n → [SV.int .i64 (L.rsTo p s g i).edge.lo, SV.int .i64 (L.rsTo p s g i).edge.hi, SV.int .i64 (L.rsTo p s g
 i).across.lo, SV.int .i64 (L.rsTo p s g i).across.hi, SV.int .i64 (L.rsTo p s g i).bend] = [SV.int .i64 ((L.rs p s).gauges.g i).edge.lo, SV.int .i64 ((L.rs p s).gauges.g i).edge.hi, SV.int .i64 ((L.rs p s).gauges.g i).across.lo, SV.int .i64 ((L.rs p s).gauges.g i).across.hi, SV.int .i64
 ((L.rs p s).gauges.g i).bend]) ∧ p.marks.n = (L.rs p s).marks.n ∧ ∀ (i : Nat), i < p.marks.n → [SV.int .i64 ((L.sortM (L.Sq.mk p.marks.n fun (i : Nat) ↦ L.rsMTo p.marks s p.gauges.n g_1 i)).g i).edge, SV.int .i64 ((L.sortM (L.Sq.mk p.marks.n fun (i : Nat) ↦ L.rsMTo p.marks s p.gauges.n g_1 i)).g i).place, SV.int .i64 ((L.sortM (L.Sq.mk p.marks.n fun
 (i : Nat) ↦ L.rsMTo p.marks s p.gauges.n g_1 i)).g i).tone] = [SV.int .i64 ((L.rs p s).marks.g i).edge, SV.int .i64 ((L.rs p s).marks.g i).place, SV.int .i64 ((L.rs p s).marks.g i).tone]) ∧ (s.back = false → p.id = (L.rs p s).id ∧ p.colour = (L.rs p s).colour ∧ p.rev = (L.rs p s).rev ∧ p.made = (L.rs p s).made ∧ p.swell = (L.rs p s).swell ∧
 (p.gauges.n = (L.rs p s).gauges.n ∧ ∀ (i : Nat), i < p.gauges.n → [SV.int .i64 (L.rsTo p s g i).edge.lo, SV.int .i64 (L.rsTo p s g i).edge.hi, SV.int .i64 (L.rsTo p s g i).across.lo, SV.int .i64 (L.rsTo p s g i).across.hi, SV.int .i64 (L.rsTo p s g i).bend] = [SV.int .i64 ((L.rs p s).gauges.g
 i).edge.lo, SV.int .i64 ((L.rs p s).gauges.g i).edge.hi, SV.int .i64 ((L.rs p s).gauges.g i).across.lo, SV.int .i64 ((L.rs p s).gauges.g i).across.hi, SV.int .i64 ((L.rs p s).gauges.g i).bend]) ∧ p.marks.n = (L.rs p s).marks.n ∧ ∀ (i : Nat), i < p.marks.n → [SV.int .i64 ((L.sortM (L.Sq.mk p.marks.n fun (i : Nat) ↦
 L.rsMTo p.marks s p.gauges.n g_1 i)).g i).edge, SV.int .i64 ((L.sortM (L.Sq.mk p.marks.n fun (i : Nat) ↦ L.rsMTo p.marks s p.gauges.n g_1 i)).g i).place, SV.int .i64 ((L.sortM (L.Sq.mk p.marks.n fun (i : Nat) ↦ L.rsMTo p.marks s p.gauges.n g_1 i)).g i).tone] = [SV.int .i64 ((L.rs p s).marks.g i).edge, SV.int .i64 ((L.rs p s).marks.g
 i).place, SV.int .i64 ((L.rs p s).marks.g i).tone])))) (by kernel_rfl) (by
    obtain ⟨hv, hs⟩ := hp
    obtain ⟨_, hg0, hm0⟩ := piece_of hv
    have hgn := gauges_n hg0
    have hmk := marks_in hm0
    have hn0 : 0 < p.gauges.n := by omega
    refine ⟨⟨by omega, Int.le_refl _, show (p.gauges.n : Int) * 40 ≤ 140737488355328 by omega⟩, ⟨(0 : Nat), rfl, ⟨Int.toNat_natCast _, fun i _ => ?_⟩, Nat.zero_le _⟩, fun g hg => ⟨fun hlt => ?_, fun hge => ?_⟩⟩
    · unfold L.rsTo; rw [decide_eq_false (Nat.not_lt_zero _)]; rfl
    · have hb : (g : Int) < (p.gauges.n : Int) := of_decide_eq_true hlt
      have hgl : g < p.gauges.n := by omega
      have hE := ed_ok hs (i := (g : Int)) (by omega) hb
      obtain ⟨a1, a2, _⟩ := rsI_lay hs hgl
      have e0 : ((g : Int)).toNat = g := Int.toNat_natCast g
      rw [hE.2, e0]
      have row : ∀ v : L.Gauge, v = L.rsG1 p s g → ∀ i, i < p.gauges.n → setRow (fun (j : Nat) => [.int .i64 ((L.rsTo p s g j).edge.lo), .int .i64 ((L.rsTo p s g j).edge.hi), .int .i64 ((L.rsTo p s g j).across.lo), .int .i64 ((L.rsTo p s g j).across.hi), .int .i64 ((L.rsTo p s g j).bend)]) (L.lay s p.gauges.n g).toNat 0 [.int .i64 v.edge.lo, .int .i64 v.edge.hi, .int .i64 v.across.lo, .int .i64 v.across.hi, .int .i64 v.bend] i = [.int .i64 ((L.rsTo p s (g + 1) i).edge.lo), .int .i64 ((L.rsTo p s (g + 1) i).edge.hi), .int .i64 ((L.rsTo p s (g + 1) i).across.lo), .int .i64 ((L.rsTo p s (g + 1) i).across.hi), .int .i64 ((L.rsTo p s (g + 1) i).bend)] := fun v hv i hi => by
        rw [rsTo_step hs hgl hi]
        unfold setRow
        by_cases h : i = (L.lay s p.gauges.n g).toNat
        · rw [if_pos h, if_pos h, hv]; rfl
        · rw [if_neg h, if_neg h]
      refine ⟨⟨by omega, hb⟩, trivial, fun hk => ⟨InK.of (by omega) (by omega), InK.of (by omega) (by omega), by omega, ⟨Int.tmod_nonneg _ (by omega), Int.tmod_lt_of_pos _ (by omega)⟩, fif ?_⟩, fun hk => ?_⟩
      · have hw := row ⟨(p.gauges.g g).edge, (p.gauges.g (L.prev p.gauges.n g)).across, (p.gauges.g (L.prev p.gauges.n g)).bend⟩ (by unfold L.rsG1; rw [hk]; rfl)
        exact ⟨⟨a1, a2⟩, by omega, InK.of (by omega) (by omega), g + 1, by omega, rfl, ⟨rfl, fun _ _ => rfl⟩, rfl, rfl, rfl, rfl, rfl, ⟨rfl, hw⟩, rfl, rfl, rfl, rfl, rfl, ⟨rfl, fun _ _ => rfl⟩, rfl, rfl, rfl, rfl, rfl, rfl, rfl, by omega, by omega⟩
      · have hw := row (p.gauges.g g) (by unfold L.rsG1; rw [hk]; rfl)
        exact ⟨⟨a1, a2⟩, by omega, InK.of (by omega) (by omega), g + 1, by omega, rfl, ⟨rfl, fun _ _ => rfl⟩, rfl, rfl, rfl, rfl, rfl, ⟨rfl, hw⟩, rfl, rfl, rfl, rfl, rfl, ⟨rfl, fun _ _ => rfl⟩, rfl, rfl, rfl, rfl, rfl, rfl, rfl, by omega, by omega⟩
    have hb : ¬ (g : Int) < (p.gauges.n : Int) := of_decide_eq_false hge
    obtain rfl : g = p.gauges.n := by omega
    refine ⟨⟨fun _ _ => rfl, by omega⟩, fun t _ => ⟨⟨(0 : Nat), rfl, ⟨rfl, fun i _ => ?_⟩, Nat.zero_le _⟩, fun q hq => ⟨fun hlt => ?_, fun hge => ?_⟩⟩⟩
    · have : L.rsMTo p.marks s p.gauges.n 0 i = p.marks.g i := by unfold L.rsMTo; rw [decide_eq_false (Nat.not_lt_zero _)]; rfl
      rw [this]
    · have hq1 : (q : Int) < (p.marks.n : Int) := of_decide_eq_true hlt
      obtain ⟨m1, m2, _⟩ := hmk.2 q (by omega)
      have hE := ed_ok hs m1.1 m1.2
      have e0 : ((q : Int)).toNat = q := Int.toNat_natCast q
      rw [e0, rsMTo_at, hE.2]
      have w0 : L.rsM1 s p.gauges.n (p.marks.g q) = ⟨L.lay s p.gauges.n (p.marks.g q).edge, bif s.back then 16 - (p.marks.g q).place else (p.marks.g q).place, (p.marks.g q).tone⟩ := rfl
      refine ⟨⟨by omega, hq1⟩, by omega, trivial, ⟨by omega, hq1⟩, by omega, fun hk => ?_, fun hk => ?_⟩
      · refine ⟨InK.of (by omega) (by omega), ⟨by omega, hq1⟩, by omega, InK.of (by omega) (by omega), q + 1, by omega, rfl, rfl, rfl, rfl, rfl, rfl, ⟨rfl, fun i hi => ?_⟩, ⟨rfl, fun _ _ => rfl⟩, rfl, rfl, rfl, rfl, rfl, rfl, rfl, rfl, rfl, rfl, rfl, rfl, by omega, by omega⟩
        rw [rsMTo_step, w0, hk]
        unfold setRow
        by_cases h : i = q
        · rw [if_pos h, if_pos h, if_pos h, h]; simp only [rsMTo_at]; rfl
        · rw [if_neg h, if_neg h, if_neg h]
      · refine ⟨InK.of (by omega) (by omega), q + 1, by omega, rfl, rfl, rfl, rfl, rfl, rfl, ⟨rfl, fun i hi => ?_⟩, ⟨rfl, fun _ _ => rfl⟩, rfl, rfl, rfl, rfl, rfl, rfl, rfl, rfl, rfl, rfl, rfl, rfl, by omega, by omega⟩
        rw [rsMTo_step, w0, hk]
        unfold setRow
        by_cases h : i = q
        · rw [if_pos h, if_pos h, h]; simp only [rsMTo_at]; rfl
        · rw [if_neg h, if_neg h]
    have hq1 : ¬ (q : Int) < (p.marks.n : Int) := of_decide_eq_false hge
    obtain rfl : q = p.marks.n := by omega
    have e2 : L.sortM ⟨p.marks.n, fun i => L.rsMTo p.marks s p.gauges.n p.marks.n i⟩ = L.sortM (L.rsMs p.marks s p.gauges.n) := sortM_congr fun k hk => by
      unfold L.rsMTo; rw [decide_eq_true hk]; rfl
    have e1 : ∀ i, i < p.gauges.n → ([.int .i64 ((L.rsTo p s p.gauges.n i).edge.lo), .int .i64 ((L.rsTo p s p.gauges.n i).edge.hi), .int .i64 ((L.rsTo p s p.gauges.n i).across.lo), .int .i64 ((L.rsTo p s p.gauges.n i).across.hi), .int .i64 ((L.rsTo p s p.gauges.n i).bend)] : List SV) = [.int .i64 (((L.rs p s).gauges.g i).edge.lo), .int .i64 (((L.rs p s).gauges.g i).edge.hi), .int .i64 (((L.rs p s).gauges.g i).across.lo), .int .i64 (((L.rs p s).gauges.g i).across.hi), .int .i64 (((L.rs p s).gauges.g i).bend)] := fun i _ => by
      rw [rsTo_full (p := p) (s := s) hn0 i]; rfl
    have e3 : ∀ i, i < p.marks.n → ([.int .i64 (((L.sortM ⟨p.marks.n, fun i => L.rsMTo p.marks s p.gauges.n p.marks.n i⟩).g i).edge), .int .i64 (((L.sortM ⟨p.marks.n, fun i => L.rsMTo p.marks s p.gauges.n p.marks.n i⟩).g i).place), .int .i64 (((L.sortM ⟨p.marks.n, fun i => L.rsMTo p.marks s p.gauges.n p.marks.n i⟩).g i).tone)] : List SV) = [.int .i64 (((L.rs p s).marks.g i).edge), .int .i64 (((L.rs p s).marks.g i).place), .int .i64 (((L.rs p s).marks.g i).tone)] := fun i _ => by
      rw [e2]; rfl
    refine ⟨⟨fun _ _ => rfl, by omega⟩, fun t _ => ⟨fun _ _ => rfl, fun hk => fif ?_, fun hk => ?_⟩⟩
    · have c1 : p.rev = (L.rs p s).colour := by unfold L.rs; rw [hk]; rfl
      have c2 : p.colour = (L.rs p s).rev := by unfold L.rs; rw [hk]; rfl
      exact ⟨rfl, c1, c2, rfl, rfl, ⟨rfl, e1⟩, rfl, e3⟩
    · have c1 : p.colour = (L.rs p s).colour := by unfold L.rs; rw [hk]; rfl
      have c2 : p.rev = (L.rs p s).rev := by unfold L.rs; rw [hk]; rfl
      exact ⟨rfl, c1, c2, rfl, rfl, ⟨rfl, e1⟩, rfl, e3⟩)
theorem g_reset_ok : SpecOk Tryz.prog 62 g_reset_S := fnX Tryz.func62 (c := bodyOf Tryz.f62) (by kernel_rfl) mixed (fun args p r hs hp => by
  unfold g_reset_s at hs
  split at hs
  · cases hs; exact ⟨_, _, g_reset_vc _ _ hp.2.2, (.p (.agg rfl (fun i hi => by
      rcases i with _ | i
      · exact (Ext.refl _ : Ext _ _)
      rcases i with _ | i
      · exact (Ext.refl _ : Ext _ _)
      rcases i with _ | i
      · exact (Ext.refl _ : Ext _ _)
      rcases i with _ | i
      · exact (Ext.refl _ : Ext _ _)
      rcases i with _ | i
      · exact (Ext.refl _ : Ext _ _)
      rcases i with _ | i
      · exact (Ext.sl hp.1 : Ext _ _)
      rcases i with _ | i
      · exact (Ext.sl hp.2.1 : Ext _ _)
      exact absurd hi (by simp; try omega))) (.same _ .nil)), ⟨show SpecsL Tryz.prog _ from (SpecsL.cons p_Edge_ok p_Edge_en (SpecsL.cons s_cloneM_ok s_cloneM_en (SpecsL.cons g_sortedM_ok g_sortedM_en (SpecsL.cons g_cmpMarks_ok g_cmpMarks_en SpecsL.nil)))), rfl, ⟨show ItersL Tryz.prog _ from ItersL.nil, (TrsOk.none (fun _ => rfl))⟩⟩⟩
  · cases hs)
theorem g_reset_en : Enters Tryz.prog 62 := fun args w => by kernel_rfl
end Go.Proofs.YtooapgllahonaaaGreat

namespace Go.Proofs.YtooapgllahonaaaGreat
open Go.SE Go.RowKit
set_option maxRecDepth 100000
set_option maxHeartbeats 4000000
set_option linter.unusedVariables false
attribute [local irreducible] vc

theorem leMk_of_lt {a b : L.Mark} (h : L.cmpMark a b < 0) : L.leMk a b := Int.le_of_lt h
end Go.Proofs.YtooapgllahonaaaGreat

namespace Go.Proofs.YtooapgllahonaaaGreat
open Go.SE Go.RowKit
set_option maxRecDepth 100000
set_option maxHeartbeats 4000000
set_option linter.unusedVariables false
attribute [local irreducible] vc

def L.zeroP : L.Piece := ⟨0, 0, 0, 0, 0, ⟨0, fun _ => ⟨⟨0, 0⟩, ⟨0, 0⟩, 0⟩⟩, ⟨0, fun _ => ⟨0, 0, 0⟩⟩⟩
def L.wrE (p : L.Piece) (s : L.Setting) : Int := bif !L.validPiece p then 30 else bif !L.validSet s p.gauges.n then 1 else 0
def L.rsV (p : L.Piece) (s : L.Setting) : L.Piece := bif decide (L.wrE p s = 0) then L.rs p s else L.zeroP
def L.samePc (a b : L.Piece) : Bool := bif (bif (bif (bif (bif (bif decide (a.id = b.id) then decide (a.colour = b.colour) else false) then decide (a.rev = b.rev) else false) then decide (a.made = b.made) else false) then decide (a.swell = b.swell) else false) then L.sameGs a.gauges b.gauges else false) then L.sameMs a.marks b.marks else false
theorem wrE_cases (p : L.Piece) (s : L.Setting) : (L.wrE p s = 0 ∧ L.validPiece p = true ∧ L.validSet s p.gauges.n = true ∧ L.rsV p s = L.rs p s) ∨ (L.wrE p s ≠ 0 ∧ L.rsV p s = L.zeroP) := by
  unfold L.rsV
  cases h1 : L.validPiece p with
  | false =>
    have : L.wrE p s = 30 := by unfold L.wrE; rw [h1]; rfl
    rw [this]
    exact .inr ⟨by decide, rfl⟩
  | true =>
    cases h2 : L.validSet s p.gauges.n with
    | false =>
      have : L.wrE p s = 1 := by unfold L.wrE; rw [h1, h2]; rfl
      rw [this]
      exact .inr ⟨by decide, rfl⟩
    | true =>
      have : L.wrE p s = 0 := by unfold L.wrE; rw [h1, h2]; rfl
      rw [this]
      exact .inl ⟨rfl, rfl, rfl, rfl⟩
def g_wrong_p (p : L.Piece) (s : L.Setting) : Prop := p.gauges.n ≤ 1000000 ∧ p.marks.n ≤ 1000000
def g_wrong_r (p : L.Piece) (s : L.Setting) : SV := .int .i64 (L.wrE p s)
def g_wrong_s : List EV → Option (Prop × SV)
  | [.p (.agg [.int .i64 p_id, .int .i64 p_colour, .int .i64 p_rev, .int .i64 p_made, .int .i64 p_swell, .sl 5 p_gauges_n p_gauges_g, .sl 3 p_marks_n p_marks_g]), .p (.agg [.int .i64 s_shift, .bool s_back])] => some ((∀ i, i < p_gauges_n → p_gauges_g i = [.int .i64 ((ofGauge (p_gauges_g i)).edge.lo), .int .i64 ((ofGauge (p_gauges_g i)).edge.hi), .int .i64 ((ofGauge (p_gauges_g i)).across.lo), .int .i64 ((ofGauge (p_gauges_g i)).across.hi), .int .i64 ((ofGauge (p_gauges_g i)).bend)]) ∧ (∀ i, i < p_marks_n → p_marks_g i = [.int .i64 ((ofMark (p_marks_g i)).edge), .int .i64 ((ofMark (p_marks_g i)).place), .int .i64 ((ofMark (p_marks_g i)).tone)]) ∧ g_wrong_p (⟨p_id, p_colour, p_rev, p_made, p_swell, (⟨p_gauges_n, fun i => ofGauge (p_gauges_g i)⟩ : (L.Sq L.Gauge)), (⟨p_marks_n, fun i => ofMark (p_marks_g i)⟩ : (L.Sq L.Mark))⟩ : L.Piece) (⟨s_shift, s_back⟩ : L.Setting), g_wrong_r (⟨p_id, p_colour, p_rev, p_made, p_swell, (⟨p_gauges_n, fun i => ofGauge (p_gauges_g i)⟩ : (L.Sq L.Gauge)), (⟨p_marks_n, fun i => ofMark (p_marks_g i)⟩ : (L.Sq L.Mark))⟩ : L.Piece) (⟨s_shift, s_back⟩ : L.Setting))
  | _ => none
abbrev g_wrong_S : SE.Spec := (specO g_wrong_s)
def g_wrong_C : Cfg := { muts := [], frz := lookN [], specs := lookS [(47, g_ValidPiece_S), (103, p_ValidSetting_S)], loops := lookL [], iters := lookI [], rfs := lookR [], nils := lookM [] }
theorem g_wrong_vc (p : L.Piece) (s : L.Setting) (hp : g_wrong_p p s) : vc Tryz.prog (g_wrong_C) (bodyOf Tryz.f61) (st0 Tryz.f61 [.p (.agg [.int .i64 p.id, .int .i64 p.colour, .int .i64 p.rev, .int .i64 p.made, .int .i64 p.swell, .sl 5 p.gauges.n (fun i => [.int .i64 ((p.gauges.g i).edge.lo), .int .i64 ((p.gauges.g i).edge.hi), .int .i64 ((p.gauges.g i).across.lo), .int .i64 ((p.gauges.g i).across.hi), .int .i64 ((p.gauges.g i).bend)]), .sl 3 p.marks.n (fun i => [.int .i64 ((p.marks.g i).edge), .int .i64 ((p.marks.g i).place), .int .i64 ((p.marks.g i).tone)])]), .p (.agg [.int .i64 s.shift, .bool s.back])]) (retFn Tryz.prog Tryz.f61 (g_wrong_r p s)) :=
  @Eq.mpr _ (((∀ (i : Nat), i < p.gauges.n → [SV.int .i64 (p.gauges.g i).edge.lo, SV.int .i64 (p.gauges.g i).edge.hi, SV.int .i64 (p.gauges.g i).across.lo, SV.int .i64 (p.gauges.g i).across.hi, SV.int .i64 (p.gauges.g i).bend] = [SV.int .i64 (p.gauges.g i).edge.lo, SV.int .i64 (p.gauges.g i).edge.hi,
 SV.int .i64 (p.gauges.g i).across.lo, SV.int .i64 (p.gauges.g i).across.hi, SV.int .i64 (p.gauges.g i).bend]) ∧ (∀ (i : Nat), i < p.marks.n → [SV.int .i64 (p.marks.g i).edge, SV.int .i64 (p.marks.g i).place, SV.int .i64 (p.marks.g i).tone] = [SV.int .i64 (p.marks.g i).edge, SV.int
 .i64 (p.marks.g i).place, SV.int .i64 (p.marks.g i).tone]) ∧ p.gauges.n ≤ (1000000 : Nat) ∧ p.marks.n ≤ (1000000 : Nat)) ∧ ((!L.validPiece (L.Piece.mk p.id p.colour p.rev p.made p.swell (L.Sq.mk p.gauges.n fun (i : Nat) ↦ p.gauges.g i) (L.Sq.mk p.marks.n fun (i : Nat) ↦ p.marks.g i))) = true → (30 : Int) = L.wrE p s) ∧ ((!L.validPiece (L.Piece.mk p.id p.colour p.rev
 p.made p.swell (L.Sq.mk p.gauges.n fun (i : Nat) ↦ p.gauges.g i) (L.Sq.mk p.marks.n fun (i : Nat) ↦ p.marks.g i))) = false → True ∧ ((!L.validSet s (↑p.gauges.n : Int)) = true → (1 : Int) = L.wrE p s) ∧ ((!L.validSet s (↑p.gauges.n : Int)) = false → (0 : Int) = L.wrE p s))) (by kernel_rfl) (by
    refine ⟨⟨fun _ _ => rfl, fun _ _ => rfl, hp.1, hp.2⟩, fun h => ?_, fun h => ⟨trivial, fun k => ?_, fun k => ?_⟩⟩
    · have h : (!L.validPiece p) = true := h
      unfold L.wrE; rw [h]; rfl
    · have h : (!L.validPiece p) = false := h
      unfold L.wrE; rw [h, k]; rfl
    · have h : (!L.validPiece p) = false := h
      unfold L.wrE; rw [h, k]; rfl)
theorem g_wrong_ok : SpecOk Tryz.prog 61 g_wrong_S := fnX Tryz.func61 (c := bodyOf Tryz.f61) (by kernel_rfl) mixed (fun args p r hs hp => by
  unfold g_wrong_s at hs
  split at hs
  · cases hs; exact ⟨_, _, g_wrong_vc _ _ hp.2.2, (.p (.agg rfl (fun i hi => by
      rcases i with _ | i
      · exact (Ext.refl _ : Ext _ _)
      rcases i with _ | i
      · exact (Ext.refl _ : Ext _ _)
      rcases i with _ | i
      · exact (Ext.refl _ : Ext _ _)
      rcases i with _ | i
      · exact (Ext.refl _ : Ext _ _)
      rcases i with _ | i
      · exact (Ext.refl _ : Ext _ _)
      rcases i with _ | i
      · exact (Ext.sl hp.1 : Ext _ _)
      rcases i with _ | i
      · exact (Ext.sl hp.2.1 : Ext _ _)
      exact absurd hi (by simp; try omega))) (.same _ .nil)), ⟨show SpecsL Tryz.prog _ from (SpecsL.cons g_ValidPiece_ok g_ValidPiece_en (SpecsL.cons p_ValidSetting_ok p_ValidSetting_en SpecsL.nil)), rfl, ⟨show ItersL Tryz.prog _ from ItersL.nil, (TrsOk.none (fun _ => rfl))⟩⟩⟩
  · cases hs)
theorem g_wrong_en : Enters Tryz.prog 61 := fun args w => by kernel_rfl
end Go.Proofs.YtooapgllahonaaaGreat

namespace Go.Proofs.YtooapgllahonaaaGreat
open Go.SE Go.RowKit
set_option maxRecDepth 100000
set_option maxHeartbeats 4000000
set_option linter.unusedVariables false
attribute [local irreducible] vc

theorem isortMk_congr {l1 l2 : List L.Mark} (h : l1.Perm l2) : L.isortMk l1 = L.isortMk l2 :=
  List.Perm.eq_of_pairwise (le := L.leMk) (fun a b _ _ => leMk_anti) (isortMk_asc _) (isortMk_asc _) ((isortMk_perm _).trans (h.trans (isortMk_perm _).symm))
theorem isortMk_id {l : List L.Mark} (h : l.Pairwise L.leMk) : L.isortMk l = l :=
  List.Perm.eq_of_pairwise (le := L.leMk) (fun a b _ _ => leMk_anti) (isortMk_asc _) h (isortMk_perm _)
theorem list_sortM (l : L.Sq L.Mark) : L.listMk (L.sortM l) = L.isortMk (L.listMk l) := by
  have hl : (L.isortMk (L.listMk l)).length = l.n := by rw [(isortMk_perm _).length_eq]; simp [L.listMk]
  refine List.ext_getElem (by rw [hl]; simp [L.listMk, L.sortM]) fun k h1 h2 => ?_
  have hk : k < l.n := by rw [hl] at h2; exact h2
  have hh : (L.listMk (L.sortM l))[k] = (L.sortM l).g k := by simp [L.listMk]
  rw [hh]
  show (L.isortMk (L.listMk l)).getD k ⟨0, 0, 0⟩ = _
  rw [List.getD_eq_getElem?_getD, List.getElem?_eq_getElem (by rw [hl]; exact hk)]
  rfl
theorem list_rsMs (l : L.Sq L.Mark) (s : L.Setting) (n : Nat) : L.listMk (L.rsMs l s n) = (L.listMk l).map (L.rsM1 s n) := by
  unfold L.listMk L.rsMs
  rw [List.map_map]; rfl
theorem mem_listMk {l : L.Sq L.Mark} {m : L.Mark} : m ∈ L.listMk l ↔ ∃ k, k < l.n ∧ l.g k = m := by
  unfold L.listMk
  rw [List.mem_map]
  exact ⟨fun ⟨k, h1, h2⟩ => ⟨k, List.mem_range.1 h1, h2⟩, fun ⟨k, h1, h2⟩ => ⟨k, List.mem_range.2 h1, h2⟩⟩
theorem rsM1_comp {s t : L.Setting} {n : Nat} {m : L.Mark} (hs : L.validSet s n = true) (ht : L.validSet t n = true) (h0 : 0 ≤ m.edge) (h1 : m.edge < n) : L.rsM1 t n (L.rsM1 s n m) = L.rsM1 (L.comp s t n) n m := by
  obtain ⟨e, _, _⟩ := lay_comp hs ht h0 h1
  obtain ⟨_, ec, _⟩ := comp_ok hs ht
  have eb : (L.comp s t n).back = !(s.back == t.back) := by rw [ec]
  refine mk_ext e ?_ rfl
  show (bif t.back then 16 - (bif s.back then 16 - m.place else m.place) else (bif s.back then 16 - m.place else m.place)) = (bif (L.comp s t n).back then 16 - m.place else m.place)
  rw [eb]
  cases s.back <;> cases t.back <;> simp <;> omega
theorem marks_comp {l : L.Sq L.Mark} {s t : L.Setting} {n : Nat} (hs : L.validSet s n = true) (ht : L.validSet t n = true) (h : ∀ k, k < l.n → 0 ≤ (l.g k).edge ∧ (l.g k).edge < n) : L.listMk (L.sortM (L.rsMs (L.sortM (L.rsMs l s n)) t n)) = L.listMk (L.sortM (L.rsMs l (L.comp s t n) n)) := by
  rw [list_sortM, list_sortM, list_rsMs, list_sortM, list_rsMs, list_rsMs]
  refine isortMk_congr (((isortMk_perm _).map _).trans ?_)
  rw [List.map_map]
  have : (L.listMk l).map (L.rsM1 t n ∘ L.rsM1 s n) = (L.listMk l).map (L.rsM1 (L.comp s t n) n) := List.map_congr_left fun m hm => by
    obtain ⟨k, hk, rfl⟩ := mem_listMk.1 hm
    exact rsM1_comp hs ht (h k hk).1 (h k hk).2
  rw [this]
theorem sortM_list {a b : L.Sq L.Mark} (h : L.listMk (L.sortM a) = L.listMk (L.sortM b)) : ∀ k, (L.sortM a).g k = (L.sortM b).g k := fun k => by
  rw [list_sortM, list_sortM] at h
  show (L.isortMk (L.listMk a)).getD k _ = (L.isortMk (L.listMk b)).getD k _
  rw [h]
theorem prev_int {n k : Nat} (hn : 0 < n) : ((L.prev n k : Nat) : Int) = ((k : Int) - 1) % n := by
  have h0 : 0 ≤ Int.tmod ((k : Int) + n - 1) n := Int.tmod_nonneg _ (by omega)
  unfold L.prev
  rw [Int.toNat_of_nonneg h0, Int.tmod_eq_emod_of_nonneg (by omega), show (k : Int) + n - 1 = (k : Int) - 1 + n by omega, Int.add_emod_right]
theorem prevI_lt {n k : Nat} (hn : 0 < n) : L.prev n k < n := by
  have := prev_int (n := n) (k := k) hn
  have := Int.emod_lt_of_pos ((k : Int) - 1) (show (0 : Int) < n by omega)
  omega
theorem rsI_int {s : L.Setting} {n j : Nat} (hs : L.validSet s n = true) (hj : j < n) : ((L.rsI s n j : Nat) : Int) = (L.sg s.back * ((j : Int) - s.shift)) % n := by
  have v := validSet_iff.1 hs
  have i := validSet_iff.1 (inv_ok hs).2.1
  have e := lay_lin (s := L.inv s n) (n := n) (i := j) i.2.1 i.2.2 (by omega) (by omega)
  have h0 : 0 ≤ L.lay (L.inv s n) n j := by rw [e]; exact Int.emod_nonneg _ (by omega)
  unfold L.rsI
  rw [Int.toNat_of_nonneg h0, e]
  have hi : L.inv s n = bif s.back then s else ⟨Int.tmod (n - s.shift) n, false⟩ := by unfold L.inv; rw [hs]; rfl
  rw [hi]
  unfold L.sg
  cases hb : s.back with
  | true =>
    rw [cond_true, hb, cond_true]
    congr 1; omega
  | false =>
    simp only [cond_false]
    rw [Int.tmod_eq_emod_of_nonneg (by omega), Int.emod_add_emod, show (n : Int) - s.shift + 1 * j = 1 * ((j : Int) - s.shift) + n by omega, Int.add_emod_right]
theorem rsI_prev {s : L.Setting} {n j : Nat} (hs : L.validSet s n = true) (hj : j < n) : s.back = false → L.rsI s n (L.prev n j) = L.prev n (L.rsI s n j) := fun hb => by
  have hn : 0 < n := by omega
  have h1 := rsI_int hs (prevI_lt (k := j) hn)
  have h2 := rsI_int hs hj
  have h3 := prev_int (n := n) (k := L.rsI s n j) hn
  rw [prev_int hn, hb] at h1
  rw [h2, hb] at h3
  unfold L.sg at h1 h3
  rw [cond_false, Int.one_mul, Int.emod_sub_emod] at h1
  rw [cond_false, Int.one_mul, Int.emod_sub_emod] at h3
  rw [show (j : Int) - 1 - s.shift = (j : Int) - s.shift - 1 by omega, ← h3] at h1
  omega
theorem rsI_prev2 {s : L.Setting} {n j : Nat} (hs : L.validSet s n = true) (hj : j < n) : s.back = true → L.prev n (L.rsI s n (L.prev n j)) = L.rsI s n j := fun hb => by
  have hn : 0 < n := by omega
  have h1 := rsI_int hs (prevI_lt (k := j) hn)
  have h2 := rsI_int hs hj
  have h3 := prev_int (n := n) (k := L.rsI s n (L.prev n j)) hn
  rw [prev_int hn, hb] at h1
  rw [h1] at h3
  rw [hb] at h2
  unfold L.sg at h2 h3
  rw [cond_true] at h2 h3
  rw [Int.emod_sub_emod, show -1 * (((j : Int) - 1) % n - s.shift) - 1 = s.shift - 1 + -1 * (((j : Int) - 1) % n) by omega, emod_lin, show s.shift - 1 + -1 * ((j : Int) - 1) = -1 * ((j : Int) - s.shift) by omega, ← h2] at h3
  omega
theorem rsI_comp {s t : L.Setting} {n j : Nat} (hs : L.validSet s n = true) (ht : L.validSet t n = true) (hj : j < n) : L.rsI (L.comp s t n) n j = L.rsI s n (L.rsI t n j) := by
  obtain ⟨a1, a2⟩ := lay_rsI ht hj
  obtain ⟨b1, b2⟩ := lay_rsI hs a1
  obtain ⟨e, c1, c2⟩ := lay_comp hs ht (i := ((L.rsI s n (L.rsI t n j) : Nat) : Int)) (by omega) (by omega)
  rw [b2, a2] at e
  have := (rsI_lay (s := L.comp s t n) (comp_ok hs ht).2.2 b1).2.2
  rw [← e, Int.toNat_natCast] at this
  exact this
theorem rsG_comp {p : L.Piece} {s t : L.Setting} (hs : L.validSet s p.gauges.n = true) (ht : L.validSet t p.gauges.n = true) {j : Nat} (hj : j < p.gauges.n) : (L.rs (L.rs p s) t).gauges.g j = (L.rs p (L.comp s t p.gauges.n)).gauges.g j := by
  show L.rsG1 (L.rs p s) t (L.rsI t p.gauges.n j) = L.rsG1 p (L.comp s t p.gauges.n) (L.rsI (L.comp s t p.gauges.n) p.gauges.n j)
  have hn : 0 < p.gauges.n := by omega
  rw [rsI_comp hs ht hj]
  obtain ⟨a1, _⟩ := lay_rsI ht hj
  generalize L.rsI t p.gauges.n j = i at a1
  have eb : (L.comp s t p.gauges.n).back = !(s.back == t.back) := by rw [(comp_ok hs ht).2.1]
  have G : ∀ q, (L.rs p s).gauges.g q = L.rsG1 p s (L.rsI s p.gauges.n q) := fun q => rfl
  have gn : (L.rs p s).gauges.n = p.gauges.n := rfl
  unfold L.rsG1
  rw [gn, G, G, eb]
  unfold L.rsG1
  cases hb : s.back with
  | false =>
    have h1 := rsI_prev hs a1 hb
    cases t.back with
    | false => rfl
    | true => simp only [cond_true, cond_false]; rw [h1]; rfl
  | true =>
    have h1 := rsI_prev2 hs a1 hb
    cases t.back with
    | false => rfl
    | true => simp only [cond_true]; rw [h1]; rfl
theorem sameGs_of {a b : L.Sq L.Gauge} (hn : a.n = b.n) (h : ∀ k, k < b.n → a.g k = b.g k) : L.sameGs a b = true := by
  unfold L.sameGs
  rw [hn, decide_eq_true rfl]
  exact allB_iff.2 fun i hi => by
    have := h i hi
    show L.sameG (a.g i) (b.g i) = true
    rw [this]; exact sameG_refl _
theorem sameMs_of {a b : L.Sq L.Mark} (hn : a.n = b.n) (h : ∀ k, k < b.n → a.g k = b.g k) : L.sameMs a b = true := by
  unfold L.sameMs
  rw [hn, decide_eq_true rfl]
  exact allB_iff.2 fun i hi => by
    have := h i hi
    show L.sameM (a.g i) (b.g i) = true
    rw [this]; exact sameM_refl _
theorem samePc_of {a b : L.Piece} (h1 : a.id = b.id) (h2 : a.colour = b.colour) (h3 : a.rev = b.rev) (h4 : a.made = b.made) (h5 : a.swell = b.swell) (h6 : L.sameGs a.gauges b.gauges = true) (h7 : L.sameMs a.marks b.marks = true) : L.samePc a b = true := by
  unfold L.samePc
  rw [decide_eq_true h1, decide_eq_true h2, decide_eq_true h3, decide_eq_true h4, decide_eq_true h5, h6, h7]; rfl
theorem rs_comp {p : L.Piece} {s t : L.Setting} (hv : L.validPiece p = true) (hs : L.validSet s p.gauges.n = true) (ht : L.validSet t p.gauges.n = true) : L.samePc (L.rs (L.rs p s) t) (L.rs p (L.comp s t p.gauges.n)) = true := by
  obtain ⟨_, _, hm⟩ := piece_of hv
  have hmk := marks_in hm
  have eb : (L.comp s t p.gauges.n).back = !(s.back == t.back) := by rw [(comp_ok hs ht).2.1]
  refine samePc_of rfl ?_ ?_ rfl rfl (sameGs_of rfl fun k hk => rsG_comp hs ht hk) (sameMs_of rfl fun k _ => sortM_list (a := L.rsMs (L.sortM (L.rsMs p.marks s p.gauges.n)) t p.gauges.n) (b := L.rsMs p.marks (L.comp s t p.gauges.n) p.gauges.n) (marks_comp hs ht fun k hk => (hmk.2 k hk).1) k)
  · unfold L.rs
    dsimp only
    rw [eb]
    cases s.back <;> cases t.back <;> rfl
  · unfold L.rs
    dsimp only
    rw [eb]
    cases s.back <;> cases t.back <;> rfl
theorem marks_asc {l : L.Sq L.Mark} {n : Int} (h : L.vMarks l n = true) : (L.listMk l).Pairwise (fun a b => L.cmpMark a b < 0) := by
  have step : ∀ i, i + 1 < l.n → L.cmpMark (l.g i) (l.g (i + 1)) < 0 := fun i hi => by
    unfold L.vMarks L.marks at h
    simp only [band, Bool.and_eq_true, decide_eq_true_eq, allB_iff] at h
    have h2 := h.2.2 (i + 1) hi
    unfold L.mark1 at h2
    rw [cmpMark_lt]
    have e : (0 : Int) < ((i + 1 : Nat) : Int) := by omega
    simp only [band, bor, Bool.and_eq_true, Bool.or_eq_true, Bool.not_eq_true', decide_eq_true e] at h2
    simpa using h2.2
  have far : ∀ d i, i + d + 1 < l.n → L.cmpMark (l.g i) (l.g (i + d + 1)) < 0 := by
    intro d
    induction d with
    | zero => exact step
    | succ d ih =>
      intro i hi
      have a := ih i (by omega)
      have b := step (i + d + 1) (by omega)
      rw [show i + (d + 1) + 1 = i + d + 1 + 1 by omega]
      rw [cmpMk_lt] at a b ⊢
      omega
  unfold L.listMk
  rw [List.pairwise_iff_getElem]
  intro i j hi hj hij
  simp only [List.getElem_map, List.getElem_range]
  have hj : j < l.n := by simpa using hj
  have := far (j - i - 1) i (by omega)
  rwa [show i + (j - i - 1) + 1 = j by omega] at this
theorem rs_one {p : L.Piece} (hv : L.validPiece p = true) : L.samePc (L.rs p L.one) p = true := by
  obtain ⟨_, hg, hm⟩ := piece_of hv
  have hgn := gauges_n hg
  have hmk := marks_in hm
  have hone : L.validSet L.one p.gauges.n = true := validSet_iff.2 ⟨⟨by omega, by omega⟩, Int.le_refl _, by show (0 : Int) < p.gauges.n; omega⟩
  refine samePc_of rfl rfl rfl rfl rfl (sameGs_of rfl fun k hk => ?_) (sameMs_of rfl fun k hk => ?_)
  · show L.rsG1 p L.one (L.rsI L.one p.gauges.n k) = p.gauges.g k
    have := rsI_int hone hk
    have e : L.sg L.one.back * ((k : Int) - L.one.shift) = (k : Int) := by show 1 * ((k : Int) - 0) = k; omega
    rw [e, Int.emod_eq_of_lt (by omega) (by omega)] at this
    have : L.rsI L.one p.gauges.n k = k := by omega
    rw [this]; rfl
  · have e : L.listMk (L.rsMs p.marks L.one p.gauges.n) = L.listMk p.marks := by
      rw [list_rsMs]
      refine (List.map_congr_left fun m hm => ?_).trans (List.map_id _)
      obtain ⟨q, hq, rfl⟩ := mem_listMk.1 hm
      have := (hmk.2 q hq).1
      exact mk_ext (lay_one this.1 this.2) rfl rfl
    have e2 : L.isortMk (L.listMk p.marks) = L.listMk p.marks := isortMk_id ((marks_asc hm).imp fun h => leMk_of_lt h)
    have hk : k < p.marks.n := hk
    show (L.isortMk (L.listMk (L.rsMs p.marks L.one p.gauges.n))).getD k ⟨0, 0, 0⟩ = p.marks.g k
    rw [e, e2]
    unfold L.listMk
    rw [List.getD_eq_getElem?_getD, List.getElem?_eq_getElem (by simpa using hk)]
    simp
end Go.Proofs.YtooapgllahonaaaGreat

namespace Go.Proofs.YtooapgllahonaaaGreat
open Go.SE Go.RowKit
set_option maxRecDepth 100000
set_option maxHeartbeats 4000000
set_option linter.unusedVariables false
attribute [local irreducible] vc

abbrev cG (g : L.Gauge) : List SV := [.int .i64 g.edge.lo, .int .i64 g.edge.hi, .int .i64 g.across.lo, .int .i64 g.across.hi, .int .i64 g.bend]
abbrev cM (m : L.Mark) : List SV := [.int .i64 m.edge, .int .i64 m.place, .int .i64 m.tone]
abbrev cP (p : L.Pt) : List SV := [.int .i64 p.x, .int .i64 p.y]
theorem sameG_eq {a b : L.Gauge} (h : L.sameG a b = true) : a = b := by
  unfold L.sameG at h
  simp only [Bool.and_eq_true, decide_eq_true_eq] at h
  obtain ⟨⟨h1, h2⟩, ⟨h3, h4⟩, h5⟩ := h
  cases a with | mk e c d => cases e with | mk e1 e2 => cases c with | mk c1 c2 => cases b with | mk e' c' d' => cases e' with | mk e1' e2' => cases c' with | mk c1' c2' =>
  simp only at h1 h2 h3 h4 h5
  rw [h1, h2, h3, h4, h5]
theorem sameM_eq {a b : L.Mark} (h : L.sameM a b = true) : a = b := by
  unfold L.sameM at h
  simp only [Bool.and_eq_true, decide_eq_true_eq] at h
  exact mk_ext h.1 h.2.1 h.2.2
theorem samePc_iff {a b : L.Piece} : L.samePc a b = true ↔ a.id = b.id ∧ a.colour = b.colour ∧ a.rev = b.rev ∧ a.made = b.made ∧ a.swell = b.swell ∧ (a.gauges.n = b.gauges.n ∧ ∀ i, i < b.gauges.n → a.gauges.g i = b.gauges.g i) ∧ (a.marks.n = b.marks.n ∧ ∀ i, i < b.marks.n → a.marks.g i = b.marks.g i) := by
  constructor
  · intro h
    unfold L.samePc L.sameGs L.sameMs at h
    simp only [band, Bool.and_eq_true, decide_eq_true_eq, allB_iff] at h
    obtain ⟨⟨⟨⟨⟨⟨h1, h2⟩, h3⟩, h4⟩, h5⟩, h6, h7⟩, h8, h9⟩ := h
    exact ⟨h1, h2, h3, h4, h5, ⟨by omega, fun i hi => sameG_eq (h7 i (by omega))⟩, by omega, fun i hi => sameM_eq (h9 i (by omega))⟩
  · rintro ⟨h1, h2, h3, h4, h5, ⟨h6, h7⟩, h8, h9⟩
    exact samePc_of h1 h2 h3 h4 h5 (sameGs_of h6 h7) (sameMs_of h8 h9)
theorem samePc_trans {a b c : L.Piece} (h : L.samePc a b = true) (k : L.samePc b c = true) : L.samePc a c = true := by
  rw [samePc_iff] at h k ⊢
  obtain ⟨h1, h2, h3, h4, h5, ⟨h6, h7⟩, h8, h9⟩ := h
  obtain ⟨k1, k2, k3, k4, k5, ⟨k6, k7⟩, k8, k9⟩ := k
  exact ⟨h1.trans k1, h2.trans k2, h3.trans k3, h4.trans k4, h5.trans k5, ⟨h6.trans k6, fun i hi => (h7 i (by omega)).trans (k7 i hi)⟩, h8.trans k8, fun i hi => (h9 i (by omega)).trans (k9 i hi)⟩
theorem wrE_of {p : L.Piece} {s : L.Setting} (hv : L.validPiece p = true) (hs : L.validSet s p.gauges.n = true) : L.wrE p s = 0 ∧ L.rsV p s = L.rs p s := by
  have e : L.wrE p s = 0 := by unfold L.wrE; rw [hv, hs]; rfl
  rcases wrE_cases p s with ⟨_, _, _, h⟩ | ⟨h, _⟩
  · exact ⟨e, h⟩
  · exact absurd e h
end Go.Proofs.YtooapgllahonaaaGreat

namespace Go.Proofs.YtooapgllahonaaaGreat
open Go.SE Go.RowKit
set_option maxRecDepth 100000
set_option maxHeartbeats 4000000
set_option linter.unusedVariables false
attribute [local irreducible] vc
def g_all1_p (n : Int) : Prop := 0 ≤ n ∧ n ≤ 1000
def g_all1_n (n : Int) : Nat := (2 * n).toNat
def g_all1_i (n : Int) : Nat → List SV := fun k => [(.agg [.int .i64 ((L.sett k).shift), .bool ((L.sett k).back)])]
def g_all1_ic : List SV → Option (Prop × Nat × (Nat → List SV))
  | [.ref [.int .i64 n] 0] => some (g_all1_p n, g_all1_n n, g_all1_i n)
  | _ => none
abbrev g_all1_it : ItSpec := itOf g_all1_ic
def g_all1_C : Cfg := { muts := [], frz := lookN [], specs := lookS [], loops := fun _ => none, iters := lookI [], rfs := lookR [] }
theorem g_all1_vc (yl : Nat) (n : Int) (hp : g_all1_p n) : vc Tryz.prog { g_all1_C with loops := lookL [(1, { T := Nat, keep := [0, 1, 5], keepO := [], chg := fun i => [(6, .p (.int .i64 (i : Int)))], own := fun _ => [], inv := fun i => i ≤ (2 * n).toNat, mu := fun i => (2 * n).toNat - i, yk := some (fun i => i) })], yld := some ⟨yl, g_all1_n n, g_all1_i n⟩ } (bodyOf Tryz.f166) (st0 Tryz.f166 (.yield yl :: ([.ref [.int .i64 n] 0] : List SV).map .p)) (retIt Tryz.prog Tryz.f166 (g_all1_n n)) :=
  @Eq.mpr _ (InK .i64 ((2 : Int) * n) ∧ (∃ (g : Nat), nat_lit 0 = g ∧ false = false ∧ (0 : Int) = (↑g : Int) ∧ g ≤ Int.toNat ((2 : Int) * n)) ∧ ∀ (g : Nat), g ≤ Int.toNat ((2 : Int) * n) → (decide ((↑g : Int) < (2 : Int) * n) = true → (2 : Int) ≠ (0 : Int) ∧ InK .i64 (Int.tdiv (↑g : Int) (2 : Int)) ∧ (2 : Int) ≠ (0 : Int) ∧ yl = yl ∧ g < Int.toNat ((2 :
 Int) * n) ∧ [SV.agg [SV.int .i64 (Int.tdiv (↑g : Int) (2 : Int)), SV.bool (decide (Int.tmod (↑g : Int) (2 : Int) = (1 : Int)))]] = [SV.agg [SV.int .i64 (L.sett g).shift, SV.bool (L.sett g).back]] ∧ ((false = true → g + (1 : Nat) = Int.toNat ((2 : Int) * n) ∨ g + (1 : Nat) = Int.toNat ((2 : Int) * n) + (1 : Nat)) ∧
 (false = false → InK .i64 ((↑g : Int) + (1 : Int)) ∧ ∃ (g' : Nat), g + (1 : Nat) = g' ∧ false = false ∧ (↑g : Int) + (1 : Int) = (↑g' : Int) ∧ (2 : Int) * n = (2 : Int) * n ∧ yl = yl ∧ SV.ref [SV.int .i64 n] (nat_lit 0) = SV.ref [SV.int .i64 n] (nat_lit 0) ∧ g' ≤ Int.toNat ((2 : Int) * n) ∧ Int.toNat ((2 : Int) * n) -
 g' < Int.toNat ((2 : Int) * n) - g)) ∧ (true = true → Int.toNat ((2 : Int) * n) + (1 : Nat) = Int.toNat ((2 : Int) * n) ∨ Int.toNat ((2 : Int) * n) + (1 : Nat) = Int.toNat ((2 : Int) * n) + (1 : Nat)) ∧ (true = false → InK .i64 ((↑g : Int) + (1 : Int)) ∧ ∃ (g' : Nat), Int.toNat ((2 : Int) * n) + (1 : Nat) = g' ∧ false = false ∧ (↑g : Int) + (1 : Int) =
 (↑g' : Int) ∧ (2 : Int) * n = (2 : Int) * n ∧ yl = yl ∧ SV.ref [SV.int .i64 n] (nat_lit 0) = SV.ref [SV.int .i64 n] (nat_lit 0) ∧ g' ≤ Int.toNat ((2 : Int) * n) ∧ Int.toNat ((2 : Int) * n) - g' < Int.toNat ((2 : Int) * n) - g)) ∧ (decide ((↑g : Int) < (2 : Int) * n) = false → g = Int.toNat ((2 : Int) * n) ∨ g = Int.toNat ((2 : Int) * n) +
 (1 : Nat))) (by kernel_rfl) (by
    obtain ⟨h0, h1⟩ := hp
    refine ⟨InK.of (by omega) (by omega), ⟨(0 : Nat), rfl, rfl, rfl, Nat.zero_le _⟩, fun g hg => ⟨fun hlt => ?_, fun hge => ?_⟩⟩
    rotate_left
    · have : ¬ (g : Int) < 2 * n := of_decide_eq_false hge
      exact .inl (by omega)
    have hb : (g : Int) < 2 * n := of_decide_eq_true hlt
    have t1 : 0 ≤ Int.tdiv (g : Int) 2 ∧ Int.tdiv (g : Int) 2 ≤ (g : Int) := by
      rw [Int.tdiv_eq_ediv_of_nonneg (by omega)]; omega
    exact ⟨by omega, InK.of (by omega) (by omega), by omega, rfl, by omega, rfl, ⟨fun h => (by cases h), fun _ => ⟨InK.of (by omega) (by omega), g + 1, rfl, rfl, by omega, rfl, rfl, rfl, by omega, by omega⟩⟩, fun _ => .inr rfl, fun h => (by cases h)⟩)
theorem g_all1_itok : ItOk Tryz.prog 166 g_all1_it := iterX Tryz.func166 (c := bodyOf Tryz.f166) (by kernel_rfl) mixed (fun caps l p n g hs hp => by
  unfold g_all1_ic at hs
  split at hs
  · cases hs; exact ⟨_, _, g_all1_vc l _ hp, (.cons (Ext.refl _) .nil), rfl, show SpecsL Tryz.prog _ from SpecsL.nil, ⟨show ItersL Tryz.prog _ from ItersL.nil, TrsOk.none (fun _ => rfl)⟩⟩
  · cases hs)
theorem g_all1_en : Enters Tryz.prog 166 := fun args w => by kernel_rfl
def g_all_p (n : Int) : Prop := True
def g_all_r (n : Int) : SV := .clo 166 [.ref [.int .i64 n] 0]
def g_all_s : List EV → Option (Prop × SV)
  | [.p (.int .i64 n)] => some (g_all_p n, g_all_r n)
  | _ => none
abbrev g_all_S : SE.Spec := (specO g_all_s)
def g_all_C : Cfg := { muts := [], frz := lookN [], specs := lookS [], loops := lookL [], iters := lookI [], rfs := lookR [], nils := lookM [] }
theorem g_all_vc (n : Int) (hp : g_all_p n) : vc Tryz.prog (g_all_C) (bodyOf Tryz.f109) (st0 Tryz.f109 [.p (.int .i64 n)]) (retFn Tryz.prog Tryz.f109 (g_all_r n)) :=
  @Eq.mpr _ (SV.clo (nat_lit 166) [SV.ref [SV.int .i64 n] (nat_lit 0)] = SV.clo (nat_lit 166) [SV.ref [SV.int .i64 n] (nat_lit 0)]) (by kernel_rfl) (by
    exact rfl)
theorem g_all_ok : SpecOk Tryz.prog 109 g_all_S := fnX Tryz.func109 (c := bodyOf Tryz.f109) (by kernel_rfl) mixed (fun args p r hs hp => by
  unfold g_all_s at hs
  split at hs
  · cases hs; exact ⟨_, _, g_all_vc _ hp, (.same _ .nil), ⟨show SpecsL Tryz.prog _ from SpecsL.nil, rfl, ⟨show ItersL Tryz.prog _ from ItersL.nil, (TrsOk.none (fun _ => rfl))⟩⟩⟩
  · cases hs)
theorem g_all_en : Enters Tryz.prog 109 := fun args w => by kernel_rfl
end Go.Proofs.YtooapgllahonaaaGreat

namespace Go.Proofs.YtooapgllahonaaaGreat
open Go.SE Go.RowKit
set_option maxRecDepth 100000
set_option maxHeartbeats 4000000
set_option linter.unusedVariables false
attribute [local irreducible] vc

def L.bothS (a b : L.Span) : L.Span := ⟨max a.lo b.lo, min a.hi b.hi⟩
def L.agG (g h : L.Gauge) : Bool := !(bif (bif decide ((L.bothS g.edge h.edge).hi < (L.bothS g.edge h.edge).lo) then true else decide ((L.bothS g.across h.across).hi < (L.bothS g.across h.across).lo)) then true else (bif (bif !decide (g.bend = h.bend) then !decide (g.bend = 0) else false) then !decide (h.bend = 0) else false))
def L.agNum (r q : L.Piece) : Bool := bif (bif (bif (bif (bif (bif !decide ((r.gauges.n : Int) = q.gauges.n) then true else !decide (r.colour = q.colour)) then true else !decide (r.rev = q.rev)) then true else !decide (r.made = q.made)) then true else !decide (r.swell = q.swell)) then true else !L.sameMs r.marks q.marks) then false else true
def L.agr (r q : L.Piece) : Bool := L.agNum r q && L.allB r.gauges.n (fun i => L.agG (r.gauges.g i) (q.gauges.g i))
def L.agrK (p q : L.Piece) (k : Nat) : Bool := L.agr (L.rs p (L.sett k)) q
def L.agE (p q : L.Piece) : Int := bif (bif !L.validPiece p then true else !L.validPiece q) then 30 else 0
def L.agN (p q : L.Piece) : Nat := bif decide (L.agE p q = 0) then L.cnt (L.agrK p q) (2 * p.gauges.n) else 0
def L.agS (p q : L.Piece) (k : Nat) : L.Setting := L.sett (L.selN (L.agrK p q) (2 * p.gauges.n) k)
def L.mgG (g h : L.Gauge) : L.Gauge := ⟨L.bothS g.edge h.edge, L.bothS g.across h.across, L.or2 h.bend g.bend⟩
def L.mg (r q : L.Piece) : L.Piece := ⟨q.id, q.colour, q.rev, q.made, q.swell, ⟨q.gauges.n, fun i => L.mgG (r.gauges.g i) (q.gauges.g i)⟩, q.marks⟩
def L.mgTo (r q : L.Piece) (i k : Nat) : L.Gauge := bif decide (k < i) then L.mgG (r.gauges.g k) (q.gauges.g k) else q.gauges.g k
def L.mgE (p q : L.Piece) (s : L.Setting) : Int := bif !L.validPiece q then 30 else bif !decide (L.wrE p s = 0) then L.wrE p s else bif !L.agr (L.rs p s) q then 31 else 0
def L.mgV (p q : L.Piece) (s : L.Setting) : L.Piece := bif decide (L.mgE p q s = 0) then L.mg (L.rs p s) q else L.zeroP
def g_both_p (a : L.Span) (b : L.Span) : Prop := True
def g_both_r (a : L.Span) (b : L.Span) : SV := (.agg [.int .i64 ((L.bothS a b).lo), .int .i64 ((L.bothS a b).hi)])
def g_both_s : List EV → Option (Prop × SV)
  | [.p (.agg [.int .i64 a_lo, .int .i64 a_hi]), .p (.agg [.int .i64 b_lo, .int .i64 b_hi])] => some (g_both_p (⟨a_lo, a_hi⟩ : L.Span) (⟨b_lo, b_hi⟩ : L.Span), g_both_r (⟨a_lo, a_hi⟩ : L.Span) (⟨b_lo, b_hi⟩ : L.Span))
  | _ => none
abbrev g_both_S : SE.Spec := (specO g_both_s)
def g_both_C : Cfg := { muts := [4], frz := lookN [], specs := lookS [], loops := lookL [], iters := lookI [], rfs := lookR [], nils := lookM [] }
theorem g_both_vc (a : L.Span) (b : L.Span) (hp : g_both_p a b) : vc Tryz.prog (g_both_C) (bodyOf Tryz.f115) (st0 Tryz.f115 [.p (.agg [.int .i64 a.lo, .int .i64 a.hi]), .p (.agg [.int .i64 b.lo, .int .i64 b.hi])]) (retFn Tryz.prog Tryz.f115 (g_both_r a b)) :=
  @Eq.mpr _ (SV.agg [SV.int .i64 (Max.max a.lo b.lo), SV.int .i64 (Min.min a.hi b.hi)] = SV.agg [SV.int .i64 (L.bothS a b).lo, SV.int .i64 (L.bothS a b).hi]) (by kernel_rfl) (by
    rfl)
theorem g_both_ok : SpecOk Tryz.prog 115 g_both_S := fnX Tryz.func115 (c := bodyOf Tryz.f115) (by kernel_rfl) mixed (fun args p r hs hp => by
  unfold g_both_s at hs
  split at hs
  · cases hs; exact ⟨_, _, g_both_vc _ _ hp, (.same _ (.same _ .nil)), ⟨show SpecsL Tryz.prog _ from SpecsL.nil, rfl, ⟨show ItersL Tryz.prog _ from ItersL.nil, (TrsOk.none (fun _ => rfl))⟩⟩⟩
  · cases hs)
theorem g_both_en : Enters Tryz.prog 115 := fun args w => by kernel_rfl
def s_eqM_p (a : (L.Sq L.Mark)) (b : (L.Sq L.Mark)) : Prop := a.n ≤ 1000000
def s_eqM_r (a : (L.Sq L.Mark)) (b : (L.Sq L.Mark)) : SV := .bool (L.sameMs a b)
def s_eqM_s : List EV → Option (Prop × SV)
  | [.p (.sl 3 a_n a_g), .p (.sl 3 b_n b_g)] => some ((∀ i, i < a_n → a_g i = [.int .i64 ((ofMark (a_g i)).edge), .int .i64 ((ofMark (a_g i)).place), .int .i64 ((ofMark (a_g i)).tone)]) ∧ (∀ i, i < b_n → b_g i = [.int .i64 ((ofMark (b_g i)).edge), .int .i64 ((ofMark (b_g i)).place), .int .i64 ((ofMark (b_g i)).tone)]) ∧ s_eqM_p (⟨a_n, fun i => ofMark (a_g i)⟩ : (L.Sq L.Mark)) (⟨b_n, fun i => ofMark (b_g i)⟩ : (L.Sq L.Mark)), s_eqM_r (⟨a_n, fun i => ofMark (a_g i)⟩ : (L.Sq L.Mark)) (⟨b_n, fun i => ofMark (b_g i)⟩ : (L.Sq L.Mark)))
  | _ => none
abbrev s_eqM_S : SE.Spec := (specO s_eqM_s)
def s_eqM_C : Cfg := { muts := [], frz := lookN [], specs := lookS [], loops := fun _ => none, iters := lookI [], rfs := lookR [], nils := lookM [] }
theorem s_eqM_vc (a : (L.Sq L.Mark)) (b : (L.Sq L.Mark)) (hp : s_eqM_p a b) : vc Tryz.prog ({ s_eqM_C with loops := lookL [(4, { T := Nat, keep := [0, 1, 12], keepO := [], chg := fun i => [(13, .p (.int .i64 (i : Int)))], own := fun _ => [], inv := fun i => i ≤ a.n ∧ ∀ j, j < i → L.sameM (a.g j) (b.g j) = true, mu := fun i => a.n - i })], rfs := lookR [] }) (bodyOf Tryz.f167) (st0 Tryz.f167 [.p (.sl 3 a.n (fun i => [.int .i64 ((a.g i).edge), .int .i64 ((a.g i).place), .int .i64 ((a.g i).tone)])), .p (.sl 3 b.n (fun i => [.int .i64 ((b.g i).edge), .int .i64 ((b.g i).place), .int .i64 ((b.g i).tone)]))]) (retFn Tryz.prog Tryz.f167 (s_eqM_r a b)) :=
  @Eq.mpr _ (((!decide ((↑a.n : Int) = (↑b.n : Int))) = true → false = L.sameMs a b) ∧ ((!decide ((↑a.n : Int) = (↑b.n : Int))) = false → (∃ (g : Nat), (0 : Int) = (↑g : Int) ∧ g ≤ a.n ∧ ∀ (j : Nat), j < g → L.sameM (a.g j) (b.g j) = true) ∧ ∀ (g : Nat), (g ≤ a.n ∧ ∀ (j : Nat), j < g → L.sameM (a.g j) (b.g j) = true) → (decide ((↑g : Int) < (↑a.n : Int)) = true → ((0 : Int) ≤ (↑g : Int) ∧ (↑g : Int) < (↑a.n :
 Int)) ∧ ((0 : Int) ≤ (↑g : Int) ∧ (↑g : Int) < (↑b.n : Int)) ∧ ((!(decide ((a.g (Int.toNat (↑g : Int))).edge = (b.g (Int.toNat (↑g : Int))).edge) && (decide ((a.g (Int.toNat (↑g : Int))).place = (b.g (Int.toNat (↑g : Int))).place) && decide ((a.g (Int.toNat (↑g : Int))).tone = (b.g (Int.toNat (↑g : Int))).tone)))) = true → false = L.sameMs a b) ∧ ((!(decide ((a.g (Int.toNat (↑g : Int))).edge =
 (b.g (Int.toNat (↑g : Int))).edge) && (decide ((a.g (Int.toNat (↑g : Int))).place = (b.g (Int.toNat (↑g : Int))).place) && decide ((a.g (Int.toNat (↑g : Int))).tone = (b.g (Int.toNat (↑g : Int))).tone)))) = false → InK .i64 ((↑g : Int) + (1 : Int)) ∧ ∃ (g' : Nat), (↑g : Int) + (1 : Int) = (↑g' : Int) ∧ (↑a.n : Int) = (↑a.n : Int) ∧ (a.n = a.n ∧ ∀ (i : Nat), i < a.n → (cM (a.g i)) = (cM (a.g i))) ∧
 (b.n = b.n ∧ ∀ (i : Nat), i < b.n → (cM (b.g i)) = (cM (b.g i))) ∧ (g' ≤ a.n ∧ ∀ (j : Nat), j < g' → L.sameM (a.g j) (b.g j) = true) ∧ a.n - g' < a.n - g)) ∧ (decide ((↑g : Int) < (↑a.n : Int)) = false → true = L.sameMs a b))) (by kernel_rfl) (by
    have ha : a.n ≤ 1000000 := hp
    refine ⟨fun h => ?_, fun h => ?_⟩
    · unfold L.sameMs; rw [notT h]; rfl
    have hd := notF h
    have hn := of_decide_eq_true hd
    refine ⟨⟨(0 : Nat), rfl, Nat.zero_le _, fun j hj => absurd hj (Nat.not_lt_zero _)⟩, fun g hg => ⟨fun hlt => ?_, fun hge => ?_⟩⟩
    · have hb : (g : Int) < (a.n : Int) := of_decide_eq_true hlt
      have e0 : ((g : Int)).toNat = g := by omega
      rw [e0]
      refine ⟨⟨by omega, hb⟩, ⟨by omega, by omega⟩, fun h1 => ?_, fun h1 => ?_⟩
      · have h1 : L.sameM (a.g g) (b.g g) = false := notT h1
        unfold L.sameMs; rw [hd, allB_false (i := g) (by omega) h1]; rfl
      · have h1 : L.sameM (a.g g) (b.g g) = true := notF h1
        exact ⟨InK.of (by omega) (by omega), g + 1, by omega, rfl, ⟨rfl, fun _ _ => rfl⟩, ⟨rfl, fun _ _ => rfl⟩, ⟨by omega, fun j hj => by
          rcases Nat.lt_succ_iff_lt_or_eq.1 hj with h' | rfl
          · exact hg.2 j h'
          · exact h1⟩, by omega⟩
    · have hb : ¬ (g : Int) < (a.n : Int) := of_decide_eq_false hge
      unfold L.sameMs; rw [hd, allB_iff.2 (fun i hi => hg.2 i (by omega))]; rfl)
theorem s_eqM_ok : SpecOk Tryz.prog 167 s_eqM_S := fnX Tryz.func167 (c := bodyOf Tryz.f167) (by kernel_rfl) mixed (fun args p r hs hp => by
  unfold s_eqM_s at hs
  split at hs
  · cases hs; exact ⟨_, _, s_eqM_vc _ _ hp.2.2, (.p (.sl hp.1) (.p (.sl hp.2.1) .nil)), ⟨show SpecsL Tryz.prog _ from SpecsL.nil, rfl, ⟨show ItersL Tryz.prog _ from ItersL.nil, (TrsOk.none (fun _ => rfl))⟩⟩⟩
  · cases hs)
theorem s_eqM_en : Enters Tryz.prog 167 := fun args w => by kernel_rfl
def g_agree_p (r : L.Piece) (q : L.Piece) : Prop := r.gauges.n ≤ 1000000 ∧ r.marks.n ≤ 1000000 ∧ q.gauges.n ≤ 1000000 ∧ q.marks.n ≤ 1000000
def g_agree_r (r : L.Piece) (q : L.Piece) : SV := .bool (L.agr r q)
def g_agree_s : List EV → Option (Prop × SV)
  | [.p (.agg [.int .i64 r_id, .int .i64 r_colour, .int .i64 r_rev, .int .i64 r_made, .int .i64 r_swell, .sl 5 r_gauges_n r_gauges_g, .sl 3 r_marks_n r_marks_g]), .p (.agg [.int .i64 q_id, .int .i64 q_colour, .int .i64 q_rev, .int .i64 q_made, .int .i64 q_swell, .sl 5 q_gauges_n q_gauges_g, .sl 3 q_marks_n q_marks_g])] => some ((∀ i, i < r_gauges_n → r_gauges_g i = [.int .i64 ((ofGauge (r_gauges_g i)).edge.lo), .int .i64 ((ofGauge (r_gauges_g i)).edge.hi), .int .i64 ((ofGauge (r_gauges_g i)).across.lo), .int .i64 ((ofGauge (r_gauges_g i)).across.hi), .int .i64 ((ofGauge (r_gauges_g i)).bend)]) ∧ (∀ i, i < r_marks_n → r_marks_g i = [.int .i64 ((ofMark (r_marks_g i)).edge), .int .i64 ((ofMark (r_marks_g i)).place), .int .i64 ((ofMark (r_marks_g i)).tone)]) ∧ (∀ i, i < q_gauges_n → q_gauges_g i = [.int .i64 ((ofGauge (q_gauges_g i)).edge.lo), .int .i64 ((ofGauge (q_gauges_g i)).edge.hi), .int .i64 ((ofGauge (q_gauges_g i)).across.lo), .int .i64 ((ofGauge (q_gauges_g i)).across.hi), .int .i64 ((ofGauge (q_gauges_g i)).bend)]) ∧ (∀ i, i < q_marks_n → q_marks_g i = [.int .i64 ((ofMark (q_marks_g i)).edge), .int .i64 ((ofMark (q_marks_g i)).place), .int .i64 ((ofMark (q_marks_g i)).tone)]) ∧ g_agree_p (⟨r_id, r_colour, r_rev, r_made, r_swell, (⟨r_gauges_n, fun i => ofGauge (r_gauges_g i)⟩ : (L.Sq L.Gauge)), (⟨r_marks_n, fun i => ofMark (r_marks_g i)⟩ : (L.Sq L.Mark))⟩ : L.Piece) (⟨q_id, q_colour, q_rev, q_made, q_swell, (⟨q_gauges_n, fun i => ofGauge (q_gauges_g i)⟩ : (L.Sq L.Gauge)), (⟨q_marks_n, fun i => ofMark (q_marks_g i)⟩ : (L.Sq L.Mark))⟩ : L.Piece), g_agree_r (⟨r_id, r_colour, r_rev, r_made, r_swell, (⟨r_gauges_n, fun i => ofGauge (r_gauges_g i)⟩ : (L.Sq L.Gauge)), (⟨r_marks_n, fun i => ofMark (r_marks_g i)⟩ : (L.Sq L.Mark))⟩ : L.Piece) (⟨q_id, q_colour, q_rev, q_made, q_swell, (⟨q_gauges_n, fun i => ofGauge (q_gauges_g i)⟩ : (L.Sq L.Gauge)), (⟨q_marks_n, fun i => ofMark (q_marks_g i)⟩ : (L.Sq L.Mark))⟩ : L.Piece))
  | _ => none
abbrev g_agree_S : SE.Spec := (specO g_agree_s)
def g_agree_C : Cfg := { muts := [6, 7, 8, 9], frz := lookN [], specs := lookS [(167, s_eqM_S), (115, g_both_S)], loops := fun _ => none, iters := lookI [], rfs := lookR [], nils := lookM [] }
theorem g_agree_vc (r : L.Piece) (q : L.Piece) (hp : g_agree_p r q) : vc Tryz.prog ({ g_agree_C with loops := lookL [(4, { T := Nat, keep := [2, 3, 54, 55], keepO := [], chg := fun i => [(56, .p (.int .i64 (i : Int)))], own := fun _ => [], inv := fun i => i ≤ r.gauges.n ∧ ∀ j, j < i → L.agG (r.gauges.g j) (q.gauges.g j) = true, mu := fun i => r.gauges.n - i })], rfs := lookR [] }) (bodyOf Tryz.f110) (st0 Tryz.f110 [.p (.agg [.int .i64 r.id, .int .i64 r.colour, .int .i64 r.rev, .int .i64 r.made, .int .i64 r.swell, .sl 5 r.gauges.n (fun i => [.int .i64 ((r.gauges.g i).edge.lo), .int .i64 ((r.gauges.g i).edge.hi), .int .i64 ((r.gauges.g i).across.lo), .int .i64 ((r.gauges.g i).across.hi), .int .i64 ((r.gauges.g i).bend)]), .sl 3 r.marks.n (fun i => [.int .i64 ((r.marks.g i).edge), .int .i64 ((r.marks.g i).place), .int .i64 ((r.marks.g i).tone)])]), .p (.agg [.int .i64 q.id, .int .i64 q.colour, .int .i64 q.rev, .int .i64 q.made, .int .i64 q.swell, .sl 5 q.gauges.n (fun i => [.int .i64 ((q.gauges.g i).edge.lo), .int .i64 ((q.gauges.g i).edge.hi), .int .i64 ((q.gauges.g i).across.lo), .int .i64 ((q.gauges.g i).across.hi), .int .i64 ((q.gauges.g i).bend)]), .sl 3 q.marks.n (fun i => [.int .i64 ((q.marks.g i).edge), .int .i64 ((q.marks.g i).place), .int .i64 ((q.marks.g i).tone)])])]) (retFn Tryz.prog Tryz.f110 (g_agree_r r q)) :=
  @Eq.mpr _ (((!bif bif bif bif !decide ((↑r.gauges.n : Int) = (↑q.gauges.n : Int)) then true else !decide (r.colour = q.colour) then true else !decide (r.rev = q.rev) then true else !decide (r.made = q.made) then true else !decide (r.swell = q.swell)) = true → (∀ (i : Nat), i < r.marks.n → (cM (r.marks.g i)) = (cM (r.marks.g i))) ∧ (∀ (i : Nat), i < q.marks.n → (cM (q.marks.g i)) = (cM (q.marks.g i))) ∧
 r.marks.n ≤ (1000000 : Nat)) ∧ ((bif bif bif bif bif !decide ((↑r.gauges.n : Int) = (↑q.gauges.n : Int)) then true else !decide (r.colour = q.colour) then true else !decide (r.rev = q.rev) then true else !decide (r.made = q.made) then true else !decide (r.swell = q.swell) then true else !L.sameMs r.marks q.marks) = true → false = L.agr r q) ∧ ((bif bif bif bif bif !decide ((↑r.gauges.n : Int) =
 (↑q.gauges.n : Int)) then true else !decide (r.colour = q.colour) then true else !decide (r.rev = q.rev) then true else !decide (r.made = q.made) then true else !decide (r.swell = q.swell) then true else !L.sameMs r.marks q.marks) = false → (∃ (g : Nat), (0 : Int) = (↑g : Int) ∧ g ≤ r.gauges.n ∧ ∀ (j : Nat), j < g → L.agG (r.gauges.g j) (q.gauges.g j) = true) ∧ ∀ (g : Nat), (g ≤ r.gauges.n ∧ ∀ (j
 : Nat), j < g → L.agG (r.gauges.g j) (q.gauges.g j) = true) → (decide ((↑g : Int) < (↑r.gauges.n : Int)) = true → ((0 : Int) ≤ (↑g : Int) ∧ (↑g : Int) < (↑r.gauges.n : Int)) ∧ ((0 : Int) ≤ (↑g : Int) ∧ (↑g : Int) < (↑q.gauges.n : Int)) ∧ True ∧ True ∧ ((bif bif decide ((L.bothS (r.gauges.g (Int.toNat (↑g : Int))).edge (q.gauges.g (Int.toNat (↑g : Int))).edge).hi < (L.bothS (r.gauges.g (Int.toNat
 (↑g : Int))).edge (q.gauges.g (Int.toNat (↑g : Int))).edge).lo) then true else decide ((L.bothS (r.gauges.g (Int.toNat (↑g : Int))).across (q.gauges.g (Int.toNat (↑g : Int))).across).hi < (L.bothS (r.gauges.g (Int.toNat (↑g : Int))).across (q.gauges.g (Int.toNat (↑g : Int))).across).lo) then true else bif bif !decide ((r.gauges.g (Int.toNat (↑g : Int))).bend = (q.gauges.g (Int.toNat (↑g :
 Int))).bend) then !decide ((r.gauges.g (Int.toNat (↑g : Int))).bend = (0 : Int)) else false then !decide ((q.gauges.g (Int.toNat (↑g : Int))).bend = (0 : Int)) else false) = true → false = L.agr r q) ∧ ((bif bif decide ((L.bothS (r.gauges.g (Int.toNat (↑g : Int))).edge (q.gauges.g (Int.toNat (↑g : Int))).edge).hi < (L.bothS (r.gauges.g (Int.toNat (↑g : Int))).edge (q.gauges.g (Int.toNat (↑g :
 Int))).edge).lo) then true else decide ((L.bothS (r.gauges.g (Int.toNat (↑g : Int))).across (q.gauges.g (Int.toNat (↑g : Int))).across).hi < (L.bothS (r.gauges.g (Int.toNat (↑g : Int))).across (q.gauges.g (Int.toNat (↑g : Int))).across).lo) then true else bif bif !decide ((r.gauges.g (Int.toNat (↑g : Int))).bend = (q.gauges.g (Int.toNat (↑g : Int))).bend) then !decide ((r.gauges.g (Int.toNat (↑g :
 Int))).bend = (0 : Int)) else false then !decide ((q.gauges.g (Int.toNat (↑g : Int))).bend = (0 : Int)) else false) = false → InK .i64 ((↑g : Int) + (1 : Int)) ∧ ∃ (g' : Nat), (↑g : Int) + (1 : Int) = (↑g' : Int) ∧ (↑r.gauges.n : Int) = (↑r.gauges.n : Int) ∧ (r.gauges.n = r.gauges.n ∧ ∀ (i : Nat), i < r.gauges.n → (cG (r.gauges.g i)) = (cG (r.gauges.g i))) ∧ SV.ref [SV.int .i64 q.id, SV.int .i64
 q.colour, SV.int .i64 q.rev, SV.int .i64 q.made, SV.int .i64 q.swell, SV.sl (nat_lit 5) q.gauges.n fun (i : Nat) ↦ (cG (q.gauges.g i)), SV.sl (nat_lit 3) q.marks.n fun (i : Nat) ↦ (cM (q.marks.g i))] (nat_lit 0) = SV.ref [SV.int .i64 q.id, SV.int .i64 q.colour, SV.int .i64 q.rev, SV.int .i64 q.made, SV.int .i64 q.swell, SV.sl (nat_lit 5) q.gauges.n fun (i : Nat) ↦ (cG (q.gauges.g i)), SV.sl
 (nat_lit 3) q.marks.n fun (i : Nat) ↦ (cM (q.marks.g i))] (nat_lit 0) ∧ SV.ref [SV.int .i64 r.id, SV.int .i64 r.colour, SV.int .i64 r.rev, SV.int .i64 r.made, SV.int .i64 r.swell, SV.sl (nat_lit 5) r.gauges.n fun (i : Nat) ↦ (cG (r.gauges.g i)), SV.sl (nat_lit 3) r.marks.n fun (i : Nat) ↦ (cM (r.marks.g i))] (nat_lit 0) = SV.ref [SV.int .i64 r.id, SV.int .i64 r.colour, SV.int .i64 r.rev, SV.int
 .i64 r.made, SV.int .i64 r.swell, SV.sl (nat_lit 5) r.gauges.n fun (i : Nat) ↦ (cG (r.gauges.g i)), SV.sl (nat_lit 3) r.marks.n fun (i : Nat) ↦ (cM (r.marks.g i))] (nat_lit 0) ∧ (g' ≤ r.gauges.n ∧ ∀ (j : Nat), j < g' → L.agG (r.gauges.g j) (q.gauges.g j) = true) ∧ r.gauges.n - g' < r.gauges.n - g)) ∧ (decide ((↑g : Int) < (↑r.gauges.n : Int)) = false → true = L.agr r q))) (by kernel_rfl) (by
    obtain ⟨h1, h2, h3, h4⟩ := hp
    refine ⟨fun _ => ⟨fun _ _ => rfl, fun _ _ => rfl, h2⟩, fun h => ?_, fun h => ?_⟩
    · unfold L.agr L.agNum; rw [h]; rfl
    have hN : L.agNum r q = true := by unfold L.agNum; rw [h]; rfl
    have hn : (r.gauges.n : Int) = q.gauges.n := by
      simp only [bor, Bool.or_eq_false_iff] at h
      exact of_decide_eq_true (notF h.1.1.1.1.1)
    refine ⟨⟨(0 : Nat), rfl, Nat.zero_le _, fun j hj => absurd hj (Nat.not_lt_zero _)⟩, fun g hg => ⟨fun hlt => ?_, fun hge => ?_⟩⟩
    · have hb : (g : Int) < (r.gauges.n : Int) := of_decide_eq_true hlt
      have e0 : ((g : Int)).toNat = g := Int.toNat_natCast g
      rw [e0]
      refine ⟨⟨by omega, hb⟩, ⟨by omega, by omega⟩, trivial, trivial, fun h5 => ?_, fun h5 => ?_⟩
      · have h6 : L.agG (r.gauges.g g) (q.gauges.g g) = false := by unfold L.agG; rw [h5]; rfl
        unfold L.agr; rw [hN, allB_false (i := g) (by omega) h6]; rfl
      · have h6 : L.agG (r.gauges.g g) (q.gauges.g g) = true := by unfold L.agG; rw [h5]; rfl
        exact ⟨InK.of (by omega) (by omega), g + 1, by omega, rfl, ⟨rfl, fun _ _ => rfl⟩, rfl, rfl, ⟨by omega, fun j hj => by
          rcases Nat.lt_succ_iff_lt_or_eq.1 hj with h' | rfl
          · exact hg.2 j h'
          · exact h6⟩, by omega⟩
    · have hb : ¬ (g : Int) < (r.gauges.n : Int) := of_decide_eq_false hge
      unfold L.agr; rw [hN, allB_iff.2 (fun i hi => hg.2 i (by omega))]; rfl)
theorem g_agree_ok : SpecOk Tryz.prog 110 g_agree_S := fnX Tryz.func110 (c := bodyOf Tryz.f110) (by kernel_rfl) mixed (fun args p r hs hp => by
  unfold g_agree_s at hs
  split at hs
  · cases hs; exact ⟨_, _, g_agree_vc _ _ hp.2.2.2.2, (.p (.agg rfl (fun i hi => by
      rcases i with _ | i
      · exact (Ext.refl _ : Ext _ _)
      rcases i with _ | i
      · exact (Ext.refl _ : Ext _ _)
      rcases i with _ | i
      · exact (Ext.refl _ : Ext _ _)
      rcases i with _ | i
      · exact (Ext.refl _ : Ext _ _)
      rcases i with _ | i
      · exact (Ext.refl _ : Ext _ _)
      rcases i with _ | i
      · exact (Ext.sl hp.1 : Ext _ _)
      rcases i with _ | i
      · exact (Ext.sl hp.2.1 : Ext _ _)
      exact absurd hi (by simp; try omega))) (.p (.agg rfl (fun i hi => by
      rcases i with _ | i
      · exact (Ext.refl _ : Ext _ _)
      rcases i with _ | i
      · exact (Ext.refl _ : Ext _ _)
      rcases i with _ | i
      · exact (Ext.refl _ : Ext _ _)
      rcases i with _ | i
      · exact (Ext.refl _ : Ext _ _)
      rcases i with _ | i
      · exact (Ext.refl _ : Ext _ _)
      rcases i with _ | i
      · exact (Ext.sl hp.2.2.1 : Ext _ _)
      rcases i with _ | i
      · exact (Ext.sl hp.2.2.2.1 : Ext _ _)
      exact absurd hi (by simp; try omega))) .nil)), ⟨show SpecsL Tryz.prog _ from (SpecsL.cons s_eqM_ok s_eqM_en (SpecsL.cons g_both_ok g_both_en SpecsL.nil)), rfl, ⟨show ItersL Tryz.prog _ from ItersL.nil, (TrsOk.none (fun _ => rfl))⟩⟩⟩
  · cases hs)
theorem g_agree_en : Enters Tryz.prog 110 := fun args w => by kernel_rfl
def g_Agree_p (p : L.Piece) (q : L.Piece) : Prop := p.gauges.n ≤ 1000000 ∧ p.marks.n ≤ 1000000 ∧ q.gauges.n ≤ 1000000 ∧ q.marks.n ≤ 1000000
def g_Agree_r (p : L.Piece) (q : L.Piece) : SV := .tup [.sl 2 (L.agN p q) (fun k => [.int .i64 ((L.agS p q k).shift), .bool ((L.agS p q k).back)]), .int .i64 (L.agE p q)]
def g_Agree_s : List EV → Option (Prop × SV)
  | [.p (.agg [.int .i64 p_id, .int .i64 p_colour, .int .i64 p_rev, .int .i64 p_made, .int .i64 p_swell, .sl 5 p_gauges_n p_gauges_g, .sl 3 p_marks_n p_marks_g]), .p (.agg [.int .i64 q_id, .int .i64 q_colour, .int .i64 q_rev, .int .i64 q_made, .int .i64 q_swell, .sl 5 q_gauges_n q_gauges_g, .sl 3 q_marks_n q_marks_g])] => some ((∀ i, i < p_gauges_n → p_gauges_g i = [.int .i64 ((ofGauge (p_gauges_g i)).edge.lo), .int .i64 ((ofGauge (p_gauges_g i)).edge.hi), .int .i64 ((ofGauge (p_gauges_g i)).across.lo), .int .i64 ((ofGauge (p_gauges_g i)).across.hi), .int .i64 ((ofGauge (p_gauges_g i)).bend)]) ∧ (∀ i, i < p_marks_n → p_marks_g i = [.int .i64 ((ofMark (p_marks_g i)).edge), .int .i64 ((ofMark (p_marks_g i)).place), .int .i64 ((ofMark (p_marks_g i)).tone)]) ∧ (∀ i, i < q_gauges_n → q_gauges_g i = [.int .i64 ((ofGauge (q_gauges_g i)).edge.lo), .int .i64 ((ofGauge (q_gauges_g i)).edge.hi), .int .i64 ((ofGauge (q_gauges_g i)).across.lo), .int .i64 ((ofGauge (q_gauges_g i)).across.hi), .int .i64 ((ofGauge (q_gauges_g i)).bend)]) ∧ (∀ i, i < q_marks_n → q_marks_g i = [.int .i64 ((ofMark (q_marks_g i)).edge), .int .i64 ((ofMark (q_marks_g i)).place), .int .i64 ((ofMark (q_marks_g i)).tone)]) ∧ g_Agree_p (⟨p_id, p_colour, p_rev, p_made, p_swell, (⟨p_gauges_n, fun i => ofGauge (p_gauges_g i)⟩ : (L.Sq L.Gauge)), (⟨p_marks_n, fun i => ofMark (p_marks_g i)⟩ : (L.Sq L.Mark))⟩ : L.Piece) (⟨q_id, q_colour, q_rev, q_made, q_swell, (⟨q_gauges_n, fun i => ofGauge (q_gauges_g i)⟩ : (L.Sq L.Gauge)), (⟨q_marks_n, fun i => ofMark (q_marks_g i)⟩ : (L.Sq L.Mark))⟩ : L.Piece), g_Agree_r (⟨p_id, p_colour, p_rev, p_made, p_swell, (⟨p_gauges_n, fun i => ofGauge (p_gauges_g i)⟩ : (L.Sq L.Gauge)), (⟨p_marks_n, fun i => ofMark (p_marks_g i)⟩ : (L.Sq L.Mark))⟩ : L.Piece) (⟨q_id, q_colour, q_rev, q_made, q_swell, (⟨q_gauges_n, fun i => ofGauge (q_gauges_g i)⟩ : (L.Sq L.Gauge)), (⟨q_marks_n, fun i => ofMark (q_marks_g i)⟩ : (L.Sq L.Mark))⟩ : L.Piece))
  | _ => none
abbrev g_Agree_S : SE.Spec := (specO g_Agree_s)
def g_Agree_C : Cfg := { muts := [], frz := lookN [], specs := lookS [(47, g_ValidPiece_S), (109, g_all_S), (62, g_reset_S), (110, g_agree_S)], loops := lookL [], iters := lookI [(166, g_all1_it)], rfs := lookR [], nils := lookM [(4, [(6, 29, 27, 2)])] }
theorem g_Agree_vc (p : L.Piece) (q : L.Piece) (hp : g_Agree_p p q) : vc Tryz.prog ({ g_Agree_C with loops := lookL [], rfs := lookR [(5, { T := Nat, keep := [2, 3, 6], keepO := [], own := fun k _ => [(6, .blk 73 [.row 29]), (29, .row 27 2 (L.cnt (L.agrK p q) k) (fun i => [.int .i64 ((L.sett (L.selN (L.agrK p q) k i)).shift), .bool ((L.sett (L.selN (L.agrK p q) k i)).back)]))], inv := fun k _ => k ≤ 2 * p.gauges.n })] }) (bodyOf Tryz.f49) (st0 Tryz.f49 [.p (.agg [.int .i64 p.id, .int .i64 p.colour, .int .i64 p.rev, .int .i64 p.made, .int .i64 p.swell, .sl 5 p.gauges.n (fun i => [.int .i64 ((p.gauges.g i).edge.lo), .int .i64 ((p.gauges.g i).edge.hi), .int .i64 ((p.gauges.g i).across.lo), .int .i64 ((p.gauges.g i).across.hi), .int .i64 ((p.gauges.g i).bend)]), .sl 3 p.marks.n (fun i => [.int .i64 ((p.marks.g i).edge), .int .i64 ((p.marks.g i).place), .int .i64 ((p.marks.g i).tone)])]), .p (.agg [.int .i64 q.id, .int .i64 q.colour, .int .i64 q.rev, .int .i64 q.made, .int .i64 q.swell, .sl 5 q.gauges.n (fun i => [.int .i64 ((q.gauges.g i).edge.lo), .int .i64 ((q.gauges.g i).edge.hi), .int .i64 ((q.gauges.g i).across.lo), .int .i64 ((q.gauges.g i).across.hi), .int .i64 ((q.gauges.g i).bend)]), .sl 3 q.marks.n (fun i => [.int .i64 ((q.marks.g i).edge), .int .i64 ((q.marks.g i).place), .int .i64 ((q.marks.g i).tone)])])]) (retFn Tryz.prog Tryz.f49 (g_Agree_r p q)) :=
  @Eq.mpr _ (((∀ (i : Nat), i < p.gauges.n → (cG (p.gauges.g i)) = (cG (p.gauges.g i))) ∧ (∀ (i : Nat), i < p.marks.n → (cM (p.marks.g i)) = (cM (p.marks.g i))) ∧ p.gauges.n ≤ (1000000 : Nat) ∧ p.marks.n ≤ (1000000 : Nat)) ∧ ((!!L.validPiece p) = true → (∀ (i : Nat), i < q.gauges.n → (cG (q.gauges.g i)) = (cG (q.gauges.g i))) ∧ (∀ (i : Nat), i < q.marks.n → (cM (q.marks.g i)) = (cM (q.marks.g i))) ∧ q.gauges.n
 ≤ (1000000 : Nat) ∧ q.marks.n ≤ (1000000 : Nat)) ∧ ((bif !L.validPiece p then true else !L.validPiece q) = true → L.agN p q = (0 : Nat) ∧ (30 : Int) = L.agE p q) ∧ ((bif !L.validPiece p then true else !L.validPiece q) = false → True ∧ (((0 : Int) ≤ (↑p.gauges.n : Int) ∧ (↑p.gauges.n : Int) ≤ (1000 : Int)) ∧ ∃ (t : Nat), (nat_lit 0 = L.cnt (L.agrK p q) (0 : Nat) ∧ ∀ (i : Nat), i < nat_lit 0 → [] =
 [SV.int .i64 (L.sett (L.selN (L.agrK p q) (0 : Nat) i)).shift, SV.bool (L.sett (L.selN (L.agrK p q) (0 : Nat) i)).back]) ∧ (0 : Nat) ≤ (2 : Nat) * p.gauges.n) ∧ (∀ (k t : Nat) (vk : Nat → Go.Value), k < Int.toNat ((2 : Int) * (↑p.gauges.n : Int)) → k ≤ (2 : Nat) * p.gauges.n → ((∀ (i : Nat), i < p.gauges.n → (cG (p.gauges.g i)) = (cG (p.gauges.g i))) ∧ (∀ (i : Nat), i < p.marks.n → (cM (p.marks.g
 i)) = (cM (p.marks.g i))) ∧ L.validPiece p = true ∧ L.validSet (L.sett k) (↑p.gauges.n : Int) = true) ∧ ((∀ (i : Nat), i < (L.rs p (L.sett k)).gauges.n → (cG ((L.rs p (L.sett k)).gauges.g i)) = (cG ((L.rs p (L.sett k)).gauges.g i))) ∧ (∀ (i : Nat), i < (L.rs p (L.sett k)).marks.n → (cM ((L.rs p (L.sett k)).marks.g i)) = (cM ((L.rs p (L.sett k)).marks.g i))) ∧ (∀ (i : Nat), i < q.gauges.n → (cG
 (q.gauges.g i)) = (cG (q.gauges.g i))) ∧ (∀ (i : Nat), i < q.marks.n → (cM (q.marks.g i)) = (cM (q.marks.g i))) ∧ (L.rs p (L.sett k)).gauges.n ≤ (1000000 : Nat) ∧ (L.rs p (L.sett k)).marks.n ≤ (1000000 : Nat) ∧ q.gauges.n ≤ (1000000 : Nat) ∧ q.marks.n ≤ (1000000 : Nat)) ∧ (L.agr (L.rs p (L.sett k)) q = true → (L.cnt (L.agrK p q) k + nat_lit 1) * nat_lit 16 ≤ (140737488355328 : Nat) ∧ ∃ (t' : Nat),
 nat_lit 0 = nat_lit 0 ∧ SV.ref [SV.int .i64 q.id, SV.int .i64 q.colour, SV.int .i64 q.rev, SV.int .i64 q.made, SV.int .i64 q.swell, SV.sl (nat_lit 5) q.gauges.n fun (i : Nat) ↦ (cG (q.gauges.g i)), SV.sl (nat_lit 3) q.marks.n fun (i : Nat) ↦ (cM (q.marks.g i))] (nat_lit 0) = SV.ref [SV.int .i64 q.id, SV.int .i64 q.colour, SV.int .i64 q.rev, SV.int .i64 q.made, SV.int .i64 q.swell, SV.sl (nat_lit
 5) q.gauges.n fun (i : Nat) ↦ (cG (q.gauges.g i)), SV.sl (nat_lit 3) q.marks.n fun (i : Nat) ↦ (cM (q.marks.g i))] (nat_lit 0) ∧ SV.ref [SV.int .i64 p.id, SV.int .i64 p.colour, SV.int .i64 p.rev, SV.int .i64 p.made, SV.int .i64 p.swell, SV.sl (nat_lit 5) p.gauges.n fun (i : Nat) ↦ (cG (p.gauges.g i)), SV.sl (nat_lit 3) p.marks.n fun (i : Nat) ↦ (cM (p.marks.g i))] (nat_lit 0) = SV.ref [SV.int .i64
 p.id, SV.int .i64 p.colour, SV.int .i64 p.rev, SV.int .i64 p.made, SV.int .i64 p.swell, SV.sl (nat_lit 5) p.gauges.n fun (i : Nat) ↦ (cG (p.gauges.g i)), SV.sl (nat_lit 3) p.marks.n fun (i : Nat) ↦ (cM (p.marks.g i))] (nat_lit 0) ∧ vk (nat_lit 6) = vk (nat_lit 6) ∧ vk (nat_lit 3) = vk (nat_lit 3) ∧ vk (nat_lit 2) = vk (nat_lit 2) ∧ (L.cnt (L.agrK p q) k + nat_lit 1 = L.cnt (L.agrK p q) (k + (1 :
 Nat)) ∧ ∀ (i : Nat), i < L.cnt (L.agrK p q) k + nat_lit 1 → appGet (L.cnt (L.agrK p q) k) (fun (i : Nat) ↦ [SV.int .i64 (L.sett (L.selN (L.agrK p q) k i)).shift, SV.bool (L.sett (L.selN (L.agrK p q) k i)).back]) (fun (x : Nat) ↦ [SV.int .i64 (L.sett k).shift, SV.bool (L.sett k).back]) i = [SV.int .i64 (L.sett (L.selN (L.agrK p q) (k + (1 : Nat)) i)).shift, SV.bool (L.sett (L.selN (L.agrK p q) (k +
 (1 : Nat)) i)).back]) ∧ k + (1 : Nat) ≤ (2 : Nat) * p.gauges.n) ∧ (L.agr (L.rs p (L.sett k)) q = false → ∃ (t' : Nat), nat_lit 0 = nat_lit 0 ∧ SV.ref [SV.int .i64 q.id, SV.int .i64 q.colour, SV.int .i64 q.rev, SV.int .i64 q.made, SV.int .i64 q.swell, SV.sl (nat_lit 5) q.gauges.n fun (i : Nat) ↦ (cG (q.gauges.g i)), SV.sl (nat_lit 3) q.marks.n fun (i : Nat) ↦ (cM (q.marks.g i))] (nat_lit 0) =
 SV.ref [SV.int .i64 q.id, SV.int .i64 q.colour, SV.int .i64 q.rev, SV.int .i64 q.made, SV.int .i64 q.swell, SV.sl (nat_lit 5) q.gauges.n fun (i : Nat) ↦ (cG (q.gauges.g i)), SV.sl (nat_lit 3) q.marks.n fun (i : Nat) ↦ (cM (q.marks.g i))] (nat_lit 0) ∧ SV.ref [SV.int .i64 p.id, SV.int .i64 p.colour, SV.int .i64 p.rev, SV.int .i64 p.made, SV.int .i64 p.swell, SV.sl (nat_lit 5) p.gauges.n fun (i :
 Nat) ↦ (cG (p.gauges.g i)), SV.sl (nat_lit 3) p.marks.n fun (i : Nat) ↦ (cM (p.marks.g i))] (nat_lit 0) = SV.ref [SV.int .i64 p.id, SV.int .i64 p.colour, SV.int .i64 p.rev, SV.int .i64 p.made, SV.int .i64 p.swell, SV.sl (nat_lit 5) p.gauges.n fun (i : Nat) ↦ (cG (p.gauges.g i)), SV.sl (nat_lit 3) p.marks.n fun (i : Nat) ↦ (cM (p.marks.g i))] (nat_lit 0) ∧ vk (nat_lit 6) = vk (nat_lit 6) ∧ vk
 (nat_lit 3) = vk (nat_lit 3) ∧ vk (nat_lit 2) = vk (nat_lit 2) ∧ (L.cnt (L.agrK p q) k = L.cnt (L.agrK p q) (k + (1 : Nat)) ∧ ∀ (i : Nat), i < L.cnt (L.agrK p q) k → [SV.int .i64 (L.sett (L.selN (L.agrK p q) k i)).shift, SV.bool (L.sett (L.selN (L.agrK p q) k i)).back] = [SV.int .i64 (L.sett (L.selN (L.agrK p q) (k + (1 : Nat)) i)).shift, SV.bool (L.sett (L.selN (L.agrK p q) (k + (1 : Nat))
 i)).back]) ∧ k + (1 : Nat) ≤ (2 : Nat) * p.gauges.n)) ∧ ∀ (t : Nat), Int.toNat ((2 : Int) * (↑p.gauges.n : Int)) ≤ (2 : Nat) * p.gauges.n → (L.cnt (L.agrK p q) (Int.toNat ((2 : Int) * (↑p.gauges.n : Int))) = L.agN p q ∧ ∀ (i : Nat), i < L.cnt (L.agrK p q) (Int.toNat ((2 : Int) * (↑p.gauges.n : Int))) → [SV.int .i64 (L.sett (L.selN (L.agrK p q) (Int.toNat ((2 : Int) * (↑p.gauges.n : Int)))
 i)).shift, SV.bool (L.sett (L.selN (L.agrK p q) (Int.toNat ((2 : Int) * (↑p.gauges.n : Int))) i)).back] = [SV.int .i64 (L.agS p q i).shift, SV.bool (L.agS p q i).back]) ∧ (0 : Int) = L.agE p q)) (by kernel_rfl) (by
    obtain ⟨h1, h2, h3, h4⟩ := hp
    refine ⟨⟨fun _ _ => rfl, fun _ _ => rfl, h1, h2⟩, fun _ => ⟨fun _ _ => rfl, fun _ _ => rfl, h3, h4⟩, fun h => ?_, fun h => ?_⟩
    · have e : L.agE p q = 30 := by unfold L.agE; rw [h]; rfl
      unfold L.agN; rw [e]; exact ⟨rfl, rfl⟩
    have e : L.agE p q = 0 := by unfold L.agE; rw [h]; rfl
    rw [bor, Bool.or_eq_false_iff] at h
    have hv : L.validPiece p = true := notF h.1
    have hgn := gauges_n (piece_of hv).2.1
    have hmk := (marks_in (piece_of hv).2.2).1
    have et : (2 * (p.gauges.n : Int)).toNat = 2 * p.gauges.n := by omega
    rw [et]
    refine ⟨trivial, ⟨⟨by omega, by omega⟩, (0 : Nat), ⟨rfl, fun i hi => absurd hi (Nat.not_lt_zero _)⟩, Nat.zero_le _⟩, fun k t vk hk hi => ?_, fun t _ => ⟨⟨?_, fun i hi => rfl⟩, e.symm⟩⟩
    · have hs := sett_lt hk
      have hsv : L.validSet (L.sett k) p.gauges.n = true := validSet_iff.2 ⟨⟨by omega, by omega⟩, hs.1, hs.2⟩
      have hc := cnt_le (p := L.agrK p q) (n := k)
      refine ⟨⟨fun _ _ => rfl, fun _ _ => rfl, hv, hsv⟩, ⟨fun _ _ => rfl, fun _ _ => rfl, fun _ _ => rfl, fun _ _ => rfl, h1, h2, h3, h4⟩, fun h5 => ?_, fun h5 => ?_⟩
      · have h5 : L.agrK p q k = true := h5
        have c1 := cnt_yes h5
        refine ⟨show (L.cnt (L.agrK p q) k + 1) * 16 ≤ 140737488355328 by omega, t, rfl, rfl, rfl, rfl, rfl, rfl, ⟨c1.symm, fun i hi => ?_⟩, by omega⟩
        have hi : i < L.cnt (L.agrK p q) k + 1 := hi
        unfold appGet
        by_cases h' : i < L.cnt (L.agrK p q) k
        · rw [if_pos h', selN_old (Nat.ne_of_lt h')]
        · have : i = L.cnt (L.agrK p q) k := by omega
          rw [if_neg h', this, selN_new h5]
      · have h5 : L.agrK p q k = false := h5
        exact ⟨t, rfl, rfl, rfl, rfl, rfl, rfl, ⟨(cnt_not h5).symm, fun i hi => by rw [selN_not h5]⟩, by omega⟩
    · unfold L.agN; rw [e]; rfl)
theorem g_Agree_ok : SpecOk Tryz.prog 49 g_Agree_S := fnX Tryz.func49 (c := bodyOf Tryz.f49) (by kernel_rfl) mixed (fun args p r hs hp => by
  unfold g_Agree_s at hs
  split at hs
  · cases hs; exact ⟨_, _, g_Agree_vc _ _ hp.2.2.2.2, (.p (.agg rfl (fun i hi => by
      rcases i with _ | i
      · exact (Ext.refl _ : Ext _ _)
      rcases i with _ | i
      · exact (Ext.refl _ : Ext _ _)
      rcases i with _ | i
      · exact (Ext.refl _ : Ext _ _)
      rcases i with _ | i
      · exact (Ext.refl _ : Ext _ _)
      rcases i with _ | i
      · exact (Ext.refl _ : Ext _ _)
      rcases i with _ | i
      · exact (Ext.sl hp.1 : Ext _ _)
      rcases i with _ | i
      · exact (Ext.sl hp.2.1 : Ext _ _)
      exact absurd hi (by simp; try omega))) (.p (.agg rfl (fun i hi => by
      rcases i with _ | i
      · exact (Ext.refl _ : Ext _ _)
      rcases i with _ | i
      · exact (Ext.refl _ : Ext _ _)
      rcases i with _ | i
      · exact (Ext.refl _ : Ext _ _)
      rcases i with _ | i
      · exact (Ext.refl _ : Ext _ _)
      rcases i with _ | i
      · exact (Ext.refl _ : Ext _ _)
      rcases i with _ | i
      · exact (Ext.sl hp.2.2.1 : Ext _ _)
      rcases i with _ | i
      · exact (Ext.sl hp.2.2.2.1 : Ext _ _)
      exact absurd hi (by simp; try omega))) .nil)), ⟨show SpecsL Tryz.prog _ from (SpecsL.cons g_ValidPiece_ok g_ValidPiece_en (SpecsL.cons g_all_ok g_all_en (SpecsL.cons g_reset_ok g_reset_en (SpecsL.cons g_agree_ok g_agree_en SpecsL.nil)))), rfl, ⟨show ItersL Tryz.prog _ from (ItersL.cons g_all1_itok g_all1_en ItersL.nil), (TrsOk.none (fun _ => rfl))⟩⟩⟩
  · cases hs)
theorem g_Agree_en : Enters Tryz.prog 49 := fun args w => by kernel_rfl
end Go.Proofs.YtooapgllahonaaaGreat

namespace Go.Proofs.YtooapgllahonaaaGreat
open Go.SE Go.RowKit
set_option maxRecDepth 100000
set_option maxHeartbeats 4000000
set_option linter.unusedVariables false
attribute [local irreducible] vc

theorem agr_n {r q : L.Piece} (h : L.agr r q = true) : r.gauges.n = q.gauges.n := by
  unfold L.agr at h
  rw [Bool.and_eq_true] at h
  have h1 := h.1
  unfold L.agNum at h1
  cases hx : decide ((r.gauges.n : Int) = q.gauges.n) with
  | true => have := of_decide_eq_true hx; omega
  | false => rw [hx] at h1; simp at h1
def g_Merge_p (p : L.Piece) (q : L.Piece) (s : L.Setting) : Prop := p.gauges.n ≤ 1000000 ∧ p.marks.n ≤ 1000000 ∧ q.gauges.n ≤ 1000000 ∧ q.marks.n ≤ 1000000
def g_Merge_r (p : L.Piece) (q : L.Piece) (s : L.Setting) : SV := .tup [(.agg [.int .i64 ((L.mgV p q s).id), .int .i64 ((L.mgV p q s).colour), .int .i64 ((L.mgV p q s).rev), .int .i64 ((L.mgV p q s).made), .int .i64 ((L.mgV p q s).swell), .sl 5 (L.mgV p q s).gauges.n (fun i => [.int .i64 (((L.mgV p q s).gauges.g i).edge.lo), .int .i64 (((L.mgV p q s).gauges.g i).edge.hi), .int .i64 (((L.mgV p q s).gauges.g i).across.lo), .int .i64 (((L.mgV p q s).gauges.g i).across.hi), .int .i64 (((L.mgV p q s).gauges.g i).bend)]), .sl 3 (L.mgV p q s).marks.n (fun i => [.int .i64 (((L.mgV p q s).marks.g i).edge), .int .i64 (((L.mgV p q s).marks.g i).place), .int .i64 (((L.mgV p q s).marks.g i).tone)])]), .int .i64 (L.mgE p q s)]
def g_Merge_s : List EV → Option (Prop × SV)
  | [.p (.agg [.int .i64 p_id, .int .i64 p_colour, .int .i64 p_rev, .int .i64 p_made, .int .i64 p_swell, .sl 5 p_gauges_n p_gauges_g, .sl 3 p_marks_n p_marks_g]), .p (.agg [.int .i64 q_id, .int .i64 q_colour, .int .i64 q_rev, .int .i64 q_made, .int .i64 q_swell, .sl 5 q_gauges_n q_gauges_g, .sl 3 q_marks_n q_marks_g]), .p (.agg [.int .i64 s_shift, .bool s_back])] => some ((∀ i, i < p_gauges_n → p_gauges_g i = [.int .i64 ((ofGauge (p_gauges_g i)).edge.lo), .int .i64 ((ofGauge (p_gauges_g i)).edge.hi), .int .i64 ((ofGauge (p_gauges_g i)).across.lo), .int .i64 ((ofGauge (p_gauges_g i)).across.hi), .int .i64 ((ofGauge (p_gauges_g i)).bend)]) ∧ (∀ i, i < p_marks_n → p_marks_g i = [.int .i64 ((ofMark (p_marks_g i)).edge), .int .i64 ((ofMark (p_marks_g i)).place), .int .i64 ((ofMark (p_marks_g i)).tone)]) ∧ (∀ i, i < q_gauges_n → q_gauges_g i = [.int .i64 ((ofGauge (q_gauges_g i)).edge.lo), .int .i64 ((ofGauge (q_gauges_g i)).edge.hi), .int .i64 ((ofGauge (q_gauges_g i)).across.lo), .int .i64 ((ofGauge (q_gauges_g i)).across.hi), .int .i64 ((ofGauge (q_gauges_g i)).bend)]) ∧ (∀ i, i < q_marks_n → q_marks_g i = [.int .i64 ((ofMark (q_marks_g i)).edge), .int .i64 ((ofMark (q_marks_g i)).place), .int .i64 ((ofMark (q_marks_g i)).tone)]) ∧ g_Merge_p (⟨p_id, p_colour, p_rev, p_made, p_swell, (⟨p_gauges_n, fun i => ofGauge (p_gauges_g i)⟩ : (L.Sq L.Gauge)), (⟨p_marks_n, fun i => ofMark (p_marks_g i)⟩ : (L.Sq L.Mark))⟩ : L.Piece) (⟨q_id, q_colour, q_rev, q_made, q_swell, (⟨q_gauges_n, fun i => ofGauge (q_gauges_g i)⟩ : (L.Sq L.Gauge)), (⟨q_marks_n, fun i => ofMark (q_marks_g i)⟩ : (L.Sq L.Mark))⟩ : L.Piece) (⟨s_shift, s_back⟩ : L.Setting), g_Merge_r (⟨p_id, p_colour, p_rev, p_made, p_swell, (⟨p_gauges_n, fun i => ofGauge (p_gauges_g i)⟩ : (L.Sq L.Gauge)), (⟨p_marks_n, fun i => ofMark (p_marks_g i)⟩ : (L.Sq L.Mark))⟩ : L.Piece) (⟨q_id, q_colour, q_rev, q_made, q_swell, (⟨q_gauges_n, fun i => ofGauge (q_gauges_g i)⟩ : (L.Sq L.Gauge)), (⟨q_marks_n, fun i => ofMark (q_marks_g i)⟩ : (L.Sq L.Mark))⟩ : L.Piece) (⟨s_shift, s_back⟩ : L.Setting))
  | _ => none
abbrev g_Merge_S : SE.Spec := (specO g_Merge_s)
def g_Merge_C : Cfg := { muts := [6, 9, 10, 12, 36, 40], frz := lookN [(19, [36, 40])], specs := lookS [(47, g_ValidPiece_S), (61, g_wrong_S), (62, g_reset_S), (110, g_agree_S), (113, s_cloneG_S), (114, s_cloneM_S), (115, g_both_S), (116, c_or_S)], loops := fun _ => none, iters := lookI [], rfs := lookR [], nils := lookM [], cuts := [78] }
theorem g_Merge_vc (p : L.Piece) (q : L.Piece) (s : L.Setting) (hp : g_Merge_p p q s) : vc Tryz.prog ({ g_Merge_C with loops := lookL [(13, { T := Nat, keep := [3, 4, 5, 6, 7, 9, 10, 43, 44], keepO := [6, 9, 10, 40], chg := fun i => [(45, .p (.int .i64 (i : Int)))], own := fun i => [(36, .row 92 5 q.gauges.n (fun k => [.int .i64 ((L.mgTo (L.rs p s) q i k).edge.lo), .int .i64 ((L.mgTo (L.rs p s) q i k).edge.hi), .int .i64 ((L.mgTo (L.rs p s) q i k).across.lo), .int .i64 ((L.mgTo (L.rs p s) q i k).across.hi), .int .i64 ((L.mgTo (L.rs p s) q i k).bend)]))], inv := fun i => i ≤ q.gauges.n, mu := fun i => q.gauges.n - i })], rfs := lookR [] }) (bodyOf Tryz.f51) (st0 Tryz.f51 [.p (.agg [.int .i64 p.id, .int .i64 p.colour, .int .i64 p.rev, .int .i64 p.made, .int .i64 p.swell, .sl 5 p.gauges.n (fun i => [.int .i64 ((p.gauges.g i).edge.lo), .int .i64 ((p.gauges.g i).edge.hi), .int .i64 ((p.gauges.g i).across.lo), .int .i64 ((p.gauges.g i).across.hi), .int .i64 ((p.gauges.g i).bend)]), .sl 3 p.marks.n (fun i => [.int .i64 ((p.marks.g i).edge), .int .i64 ((p.marks.g i).place), .int .i64 ((p.marks.g i).tone)])]), .p (.agg [.int .i64 q.id, .int .i64 q.colour, .int .i64 q.rev, .int .i64 q.made, .int .i64 q.swell, .sl 5 q.gauges.n (fun i => [.int .i64 ((q.gauges.g i).edge.lo), .int .i64 ((q.gauges.g i).edge.hi), .int .i64 ((q.gauges.g i).across.lo), .int .i64 ((q.gauges.g i).across.hi), .int .i64 ((q.gauges.g i).bend)]), .sl 3 q.marks.n (fun i => [.int .i64 ((q.marks.g i).edge), .int .i64 ((q.marks.g i).place), .int .i64 ((q.marks.g i).tone)])]), .p (.agg [.int .i64 s.shift, .bool s.back])]) (retFn Tryz.prog Tryz.f51 (g_Merge_r p q s)) :=
  @Eq.mpr _ (((∀ (i : Nat), i < q.gauges.n → (cG (q.gauges.g i)) = (cG (q.gauges.g i))) ∧ (∀ (i : Nat), i < q.marks.n → (cM (q.marks.g i)) = (cM (q.marks.g i))) ∧ q.gauges.n ≤ (1000000 : Nat) ∧ q.marks.n ≤ (1000000 : Nat)) ∧ ((!L.validPiece q) = true → (0 : Int) = (L.mgV p q s).id ∧ (0 : Int) = (L.mgV p q s).colour ∧ (0 : Int) = (L.mgV p q s).rev ∧ (0 : Int) = (L.mgV p q s).made ∧ (0 : Int) = (L.mgV p q
 s).swell ∧ (L.mgV p q s).gauges.n = (0 : Nat) ∧ (L.mgV p q s).marks.n = (0 : Nat) ∧ (30 : Int) = L.mgE p q s) ∧ ((!L.validPiece q) = false → ((∀ (i : Nat), i < p.gauges.n → (cG (p.gauges.g i)) = (cG (p.gauges.g i))) ∧ (∀ (i : Nat), i < p.marks.n → (cM (p.marks.g i)) = (cM (p.marks.g i))) ∧ p.gauges.n ≤ (1000000 : Nat) ∧ p.marks.n ≤ (1000000 : Nat)) ∧ ((!decide (L.wrE p s = (0 : Int))) = true → (0
 : Int) = (L.mgV p q s).id ∧ (0 : Int) = (L.mgV p q s).colour ∧ (0 : Int) = (L.mgV p q s).rev ∧ (0 : Int) = (L.mgV p q s).made ∧ (0 : Int) = (L.mgV p q s).swell ∧ (L.mgV p q s).gauges.n = (0 : Nat) ∧ (L.mgV p q s).marks.n = (0 : Nat) ∧ L.wrE p s = L.mgE p q s) ∧ ((!decide (L.wrE p s = (0 : Int))) = false → ((∀ (i : Nat), i < p.gauges.n → (cG (p.gauges.g i)) = (cG (p.gauges.g i))) ∧ (∀ (i : Nat), i
 < p.marks.n → (cM (p.marks.g i)) = (cM (p.marks.g i))) ∧ L.validPiece p = true ∧ L.validSet s (↑p.gauges.n : Int) = true) ∧ ((∀ (i : Nat), i < (L.rs p s).gauges.n → (cG ((L.rs p s).gauges.g i)) = (cG ((L.rs p s).gauges.g i))) ∧ (∀ (i : Nat), i < (L.rs p s).marks.n → (cM ((L.rs p s).marks.g i)) = (cM ((L.rs p s).marks.g i))) ∧ (∀ (i : Nat), i < q.gauges.n → (cG (q.gauges.g i)) = (cG (q.gauges.g
 i))) ∧ (∀ (i : Nat), i < q.marks.n → (cM (q.marks.g i)) = (cM (q.marks.g i))) ∧ (L.rs p s).gauges.n ≤ (1000000 : Nat) ∧ (L.rs p s).marks.n ≤ (1000000 : Nat) ∧ q.gauges.n ≤ (1000000 : Nat) ∧ q.marks.n ≤ (1000000 : Nat)) ∧ ((!L.agr (L.rs p s) q) = true → (0 : Int) = (L.mgV p q s).id ∧ (0 : Int) = (L.mgV p q s).colour ∧ (0 : Int) = (L.mgV p q s).rev ∧ (0 : Int) = (L.mgV p q s).made ∧ (0 : Int) =
 (L.mgV p q s).swell ∧ (L.mgV p q s).gauges.n = (0 : Nat) ∧ (L.mgV p q s).marks.n = (0 : Nat) ∧ (31 : Int) = L.mgE p q s) ∧ ((!L.agr (L.rs p s) q) = false → ((∀ (i : Nat), i < q.gauges.n → (cG (q.gauges.g i)) = (cG (q.gauges.g i))) ∧ q.gauges.n ≤ (1000000 : Nat)) ∧ ∀ (t : Nat), True → ((∀ (i : Nat), i < q.marks.n → (cM (q.marks.g i)) = (cM (q.marks.g i))) ∧ q.marks.n ≤ (1000000 : Nat)) ∧ ∀ (t_1 :
 Nat), True → (∃ (g : Nat), (0 : Int) = (↑g : Int) ∧ (q.gauges.n = q.gauges.n ∧ ∀ (i : Nat), i < q.gauges.n → (cG (q.gauges.g i)) = (cG (L.mgTo (L.rs p s) q g i))) ∧ g ≤ q.gauges.n) ∧ ∀ (g : Nat), g ≤ q.gauges.n → (decide ((↑g : Int) < (↑(L.rs p s).gauges.n : Int)) = true → ((0 : Int) ≤ (↑g : Int) ∧ (↑g : Int) < (↑(L.rs p s).gauges.n : Int)) ∧ ((0 : Int) ≤ (↑g : Int) ∧ (↑g : Int) < (↑q.gauges.n :
 Int)) ∧ Int.toNat (↑g : Int) < q.gauges.n ∧ True ∧ Int.toNat (↑g : Int) < q.gauges.n ∧ True ∧ Int.toNat (↑g : Int) < q.gauges.n ∧ Int.toNat (↑g : Int) < q.gauges.n ∧ Int.toNat (↑g : Int) < q.gauges.n ∧ SV.at (setRow (setRow (fun (k : Nat) ↦ (cG (L.mgTo (L.rs p s) q g k))) (Int.toNat (↑g : Int)) (nat_lit 0) (cellsOf (SV.agg [SV.int .i64 (L.bothS ((L.rs p s).gauges.g (Int.toNat (↑g : Int))).edge
 (L.mgTo (L.rs p s) q g (Int.toNat (↑g : Int))).edge).lo, SV.int .i64 (L.bothS ((L.rs p s).gauges.g (Int.toNat (↑g : Int))).edge (L.mgTo (L.rs p s) q g (Int.toNat (↑g : Int))).edge).hi]))) (Int.toNat (↑g : Int)) (nat_lit 2) (cellsOf (SV.agg [SV.int .i64 (L.bothS ((L.rs p s).gauges.g (Int.toNat (↑g : Int))).across (L.mgTo (L.rs p s) q g (Int.toNat (↑g : Int))).across).lo, SV.int .i64 (L.bothS ((L.rs
 p s).gauges.g (Int.toNat (↑g : Int))).across (L.mgTo (L.rs p s) q g (Int.toNat (↑g : Int))).across).hi])) (Int.toNat (↑g : Int))) (nat_lit 0 + (4 : Nat)) = SV.int .i64 (intV (SV.at (setRow (setRow (fun (k : Nat) ↦ (cG (L.mgTo (L.rs p s) q g k))) (Int.toNat (↑g : Int)) (nat_lit 0) (cellsOf (SV.agg [SV.int .i64 (L.bothS ((L.rs p s).gauges.g (Int.toNat (↑g : Int))).edge (L.mgTo (L.rs p s) q g
 (Int.toNat (↑g : Int))).edge).lo, SV.int .i64 (L.bothS ((L.rs p s).gauges.g (Int.toNat (↑g : Int))).edge (L.mgTo (L.rs p s) q g (Int.toNat (↑g : Int))).edge).hi]))) (Int.toNat (↑g : Int)) (nat_lit 2) (cellsOf (SV.agg [SV.int .i64 (L.bothS ((L.rs p s).gauges.g (Int.toNat (↑g : Int))).across (L.mgTo (L.rs p s) q g (Int.toNat (↑g : Int))).across).lo, SV.int .i64 (L.bothS ((L.rs p s).gauges.g
 (Int.toNat (↑g : Int))).across (L.mgTo (L.rs p s) q g (Int.toNat (↑g : Int))).across).hi])) (Int.toNat (↑g : Int))) (nat_lit 0 + (4 : Nat)))) ∧ ((∀ (i : Nat), i < nat_lit 2 → rowsOf [SV.int .i64 (intV (SV.at (setRow (setRow (fun (k : Nat) ↦ (cG (L.mgTo (L.rs p s) q g k))) (Int.toNat (↑g : Int)) (nat_lit 0) (cellsOf (SV.agg [SV.int .i64 (L.bothS ((L.rs p s).gauges.g (Int.toNat (↑g : Int))).edge
 (L.mgTo (L.rs p s) q g (Int.toNat (↑g : Int))).edge).lo, SV.int .i64 (L.bothS ((L.rs p s).gauges.g (Int.toNat (↑g : Int))).edge (L.mgTo (L.rs p s) q g (Int.toNat (↑g : Int))).edge).hi]))) (Int.toNat (↑g : Int)) (nat_lit 2) (cellsOf (SV.agg [SV.int .i64 (L.bothS ((L.rs p s).gauges.g (Int.toNat (↑g : Int))).across (L.mgTo (L.rs p s) q g (Int.toNat (↑g : Int))).across).lo, SV.int .i64 (L.bothS ((L.rs
 p s).gauges.g (Int.toNat (↑g : Int))).across (L.mgTo (L.rs p s) q g (Int.toNat (↑g : Int))).across).hi])) (Int.toNat (↑g : Int))) (nat_lit 0 + (4 : Nat)))), SV.int .i64 ((L.rs p s).gauges.g (Int.toNat (↑g : Int))).bend] (nat_lit 1) i = [SV.int .i64 (intOf (rowsOf [SV.int .i64 (intV (SV.at (setRow (setRow (fun (k : Nat) ↦ (cG (L.mgTo (L.rs p s) q g k))) (Int.toNat (↑g : Int)) (nat_lit 0) (cellsOf
 (SV.agg [SV.int .i64 (L.bothS ((L.rs p s).gauges.g (Int.toNat (↑g : Int))).edge (L.mgTo (L.rs p s) q g (Int.toNat (↑g : Int))).edge).lo, SV.int .i64 (L.bothS ((L.rs p s).gauges.g (Int.toNat (↑g : Int))).edge (L.mgTo (L.rs p s) q g (Int.toNat (↑g : Int))).edge).hi]))) (Int.toNat (↑g : Int)) (nat_lit 2) (cellsOf (SV.agg [SV.int .i64 (L.bothS ((L.rs p s).gauges.g (Int.toNat (↑g : Int))).across
 (L.mgTo (L.rs p s) q g (Int.toNat (↑g : Int))).across).lo, SV.int .i64 (L.bothS ((L.rs p s).gauges.g (Int.toNat (↑g : Int))).across (L.mgTo (L.rs p s) q g (Int.toNat (↑g : Int))).across).hi])) (Int.toNat (↑g : Int))) (nat_lit 0 + (4 : Nat)))), SV.int .i64 ((L.rs p s).gauges.g (Int.toNat (↑g : Int))).bend] (nat_lit 1) i))]) ∧ nat_lit 2 ≤ (1000000 : Nat)) ∧ Int.toNat (↑g : Int) < q.gauges.n ∧ InK
 .i64 ((↑g : Int) + (1 : Int)) ∧ ∃ (g' : Nat), (↑g : Int) + (1 : Int) = (↑g' : Int) ∧ (↑(L.rs p s).gauges.n : Int) = (↑(L.rs p s).gauges.n : Int) ∧ ((L.rs p s).gauges.n = (L.rs p s).gauges.n ∧ ∀ (i : Nat), i < (L.rs p s).gauges.n → (cG ((L.rs p s).gauges.g i)) = (cG ((L.rs p s).gauges.g i))) ∧ nat_lit 0 = nat_lit 0 ∧ nat_lit 0 = nat_lit 0 ∧ (0 : Int) = (0 : Int) ∧ nat_lit 0 = nat_lit 0 ∧ SV.ref
 [SV.int .i64 s.shift, SV.bool s.back] (nat_lit 0) = SV.ref [SV.int .i64 s.shift, SV.bool s.back] (nat_lit 0) ∧ SV.ref [SV.int .i64 q.id, SV.int .i64 q.colour, SV.int .i64 q.rev, SV.int .i64 q.made, SV.int .i64 q.swell, SV.sl (nat_lit 5) q.gauges.n fun (i : Nat) ↦ (cG (q.gauges.g i)), SV.sl (nat_lit 3) q.marks.n fun (i : Nat) ↦ (cM (q.marks.g i))] (nat_lit 0) = SV.ref [SV.int .i64 q.id, SV.int .i64
 q.colour, SV.int .i64 q.rev, SV.int .i64 q.made, SV.int .i64 q.swell, SV.sl (nat_lit 5) q.gauges.n fun (i : Nat) ↦ (cG (q.gauges.g i)), SV.sl (nat_lit 3) q.marks.n fun (i : Nat) ↦ (cM (q.marks.g i))] (nat_lit 0) ∧ SV.ref [SV.int .i64 p.id, SV.int .i64 p.colour, SV.int .i64 p.rev, SV.int .i64 p.made, SV.int .i64 p.swell, SV.sl (nat_lit 5) p.gauges.n fun (i : Nat) ↦ (cG (p.gauges.g i)), SV.sl
 (nat_lit 3) p.marks.n fun (i : Nat) ↦ (cM (p.marks.g i))] (nat_lit 0) = SV.ref [SV.int .i64 p.id, SV.int .i64 p.colour, SV.int .i64 p.rev, SV.int .i64 p.made, SV.int .i64 p.swell, SV.sl (nat_lit 5) p.gauges.n fun (i : Nat) ↦ (cG (p.gauges.g i)), SV.sl (nat_lit 3) p.marks.n fun (i : Nat) ↦ (cM (p.marks.g i))] (nat_lit 0) ∧ (q.gauges.n = q.gauges.n ∧ ∀ (i : Nat), i < q.gauges.n → setRow (setRow
 (setRow (fun (k : Nat) ↦ (cG (L.mgTo (L.rs p s) q g k))) (Int.toNat (↑g : Int)) (nat_lit 0) [SV.int .i64 (L.bothS ((L.rs p s).gauges.g (Int.toNat (↑g : Int))).edge (L.mgTo (L.rs p s) q g (Int.toNat (↑g : Int))).edge).lo, SV.int .i64 (L.bothS ((L.rs p s).gauges.g (Int.toNat (↑g : Int))).edge (L.mgTo (L.rs p s) q g (Int.toNat (↑g : Int))).edge).hi]) (Int.toNat (↑g : Int)) (nat_lit 2) [SV.int .i64
 (L.bothS ((L.rs p s).gauges.g (Int.toNat (↑g : Int))).across (L.mgTo (L.rs p s) q g (Int.toNat (↑g : Int))).across).lo, SV.int .i64 (L.bothS ((L.rs p s).gauges.g (Int.toNat (↑g : Int))).across (L.mgTo (L.rs p s) q g (Int.toNat (↑g : Int))).across).hi]) (Int.toNat (↑g : Int)) (nat_lit 4) [SV.int .i64 (L.firstNZ (fun (i : Nat) ↦ intOf (rowsOf [SV.int .i64 (intV (SV.at (setRow (setRow (fun (k : Nat)
 ↦ (cG (L.mgTo (L.rs p s) q g k))) (Int.toNat (↑g : Int)) (nat_lit 0) (cellsOf (SV.agg [SV.int .i64 (L.bothS ((L.rs p s).gauges.g (Int.toNat (↑g : Int))).edge (L.mgTo (L.rs p s) q g (Int.toNat (↑g : Int))).edge).lo, SV.int .i64 (L.bothS ((L.rs p s).gauges.g (Int.toNat (↑g : Int))).edge (L.mgTo (L.rs p s) q g (Int.toNat (↑g : Int))).edge).hi]))) (Int.toNat (↑g : Int)) (nat_lit 2) (cellsOf (SV.agg
 [SV.int .i64 (L.bothS ((L.rs p s).gauges.g (Int.toNat (↑g : Int))).across (L.mgTo (L.rs p s) q g (Int.toNat (↑g : Int))).across).lo, SV.int .i64 (L.bothS ((L.rs p s).gauges.g (Int.toNat (↑g : Int))).across (L.mgTo (L.rs p s) q g (Int.toNat (↑g : Int))).across).hi])) (Int.toNat (↑g : Int))) (nat_lit 0 + (4 : Nat)))), SV.int .i64 ((L.rs p s).gauges.g (Int.toNat (↑g : Int))).bend] (nat_lit 1) i)) (2
 : Nat))] i = (cG (L.mgTo (L.rs p s) q g' i))) ∧ (q.marks.n = q.marks.n ∧ ∀ (i : Nat), i < q.marks.n → (cM (q.marks.g i)) = (cM (q.marks.g i))) ∧ q.id = q.id ∧ q.colour = q.colour ∧ q.rev = q.rev ∧ q.made = q.made ∧ q.swell = q.swell ∧ (L.rs p s).id = (L.rs p s).id ∧ (L.rs p s).colour = (L.rs p s).colour ∧ (L.rs p s).rev = (L.rs p s).rev ∧ (L.rs p s).made = (L.rs p s).made ∧ (L.rs p s).swell =
 (L.rs p s).swell ∧ ((L.rs p s).gauges.n = (L.rs p s).gauges.n ∧ ∀ (i : Nat), i < (L.rs p s).gauges.n → (cG ((L.rs p s).gauges.g i)) = (cG ((L.rs p s).gauges.g i))) ∧ ((L.rs p s).marks.n = (L.rs p s).marks.n ∧ ∀ (i : Nat), i < (L.rs p s).marks.n → (cM ((L.rs p s).marks.g i)) = (cM ((L.rs p s).marks.g i))) ∧ (0 : Int) = (0 : Int) ∧ (0 : Int) = (0 : Int) ∧ (0 : Int) = (0 : Int) ∧ (0 : Int) = (0 :
 Int) ∧ (0 : Int) = (0 : Int) ∧ Value.slice Option.none (0 : Nat) (0 : Nat) = Value.slice Option.none (0 : Nat) (0 : Nat) ∧ Value.slice Option.none (0 : Nat) (0 : Nat) = Value.slice Option.none (0 : Nat) (0 : Nat) ∧ g' ≤ q.gauges.n ∧ q.gauges.n - g' < q.gauges.n - g) ∧ (decide ((↑g : Int) < (↑(L.rs p s).gauges.n : Int)) = false → q.id = (L.mgV p q s).id ∧ q.colour = (L.mgV p q s).colour ∧ q.rev =
 (L.mgV p q s).rev ∧ q.made = (L.mgV p q s).made ∧ q.swell = (L.mgV p q s).swell ∧ (q.gauges.n = (L.mgV p q s).gauges.n ∧ ∀ (i : Nat), i < q.gauges.n → (cG (L.mgTo (L.rs p s) q g i)) = (cG ((L.mgV p q s).gauges.g i))) ∧ (q.marks.n = (L.mgV p q s).marks.n ∧ ∀ (i : Nat), i < q.marks.n → (cM (q.marks.g i)) = (cM ((L.mgV p q s).marks.g i))) ∧ (0 : Int) = L.mgE p q s))))) (by kernel_rfl) (by
    obtain ⟨h1, h2, h3, h4⟩ := hp
    have zero : ∀ e : Int, e ≠ 0 → L.mgE p q s = e → (0 = (L.mgV p q s).id ∧ 0 = (L.mgV p q s).colour ∧ 0 = (L.mgV p q s).rev ∧ 0 = (L.mgV p q s).made ∧ 0 = (L.mgV p q s).swell ∧ (L.mgV p q s).gauges.n = 0 ∧ (L.mgV p q s).marks.n = 0 ∧ e = L.mgE p q s) := fun e he h => by
      have V : L.mgV p q s = L.zeroP := by unfold L.mgV; rw [h, decide_eq_false he]; rfl
      rw [V]; exact ⟨rfl, rfl, rfl, rfl, rfl, rfl, rfl, h.symm⟩
    refine ⟨⟨fun _ _ => rfl, fun _ _ => rfl, h3, h4⟩, fun h => ?_, fun h => ⟨⟨fun _ _ => rfl, fun _ _ => rfl, h1, h2⟩, fun k => ?_, fun k => ?_⟩⟩
    · exact zero 30 (by decide) (by unfold L.mgE; rw [h]; rfl)
    · exact zero _ (of_decide_eq_false (notT k)) (by unfold L.mgE; rw [h, k]; rfl)
    have hw : L.wrE p s = 0 := of_decide_eq_true (notF k)
    obtain ⟨hv, hs⟩ : L.validPiece p = true ∧ L.validSet s p.gauges.n = true := by
      rcases wrE_cases p s with ⟨_, a, b, _⟩ | ⟨a, _⟩
      · exact ⟨a, b⟩
      · exact absurd hw a
    refine ⟨⟨fun _ _ => rfl, fun _ _ => rfl, hv, hs⟩, ⟨fun _ _ => rfl, fun _ _ => rfl, fun _ _ => rfl, fun _ _ => rfl, h1, h2, h3, h4⟩, fun m => ?_, fun m => ?_⟩
    · exact zero 31 (by decide) (by unfold L.mgE; rw [h, k, m]; rfl)
    have e0 : L.mgE p q s = 0 := by unfold L.mgE; rw [h, k, m]; rfl
    have V : L.mgV p q s = L.mg (L.rs p s) q := by unfold L.mgV; rw [e0]; rfl
    have hn : (L.rs p s).gauges.n = q.gauges.n := agr_n (notF m)
    refine ⟨⟨fun _ _ => rfl, h3⟩, fun t _ => ⟨⟨fun _ _ => rfl, h4⟩, fun t1 _ => ⟨⟨(0 : Nat), rfl, ⟨rfl, fun i _ => ?_⟩, Nat.zero_le _⟩, fun g hg => ⟨fun hlt => ?_, fun hge => ?_⟩⟩⟩⟩
    · have : L.mgTo (L.rs p s) q 0 i = q.gauges.g i := by unfold L.mgTo; rw [decide_eq_false (Nat.not_lt_zero _)]; rfl
      rw [this]
    · have hb : (g : Int) < ((L.rs p s).gauges.n : Int) := of_decide_eq_true hlt
      have eT : L.mgTo (L.rs p s) q g g = q.gauges.g g := by unfold L.mgTo; rw [decide_eq_false (Nat.lt_irrefl g)]; rfl
      have hc : ∀ l, cellsOf (SV.agg l) = l := fun _ => rfl
      have hX : ∀ a b c d : SV, SV.at (setRow (setRow (fun (k : Nat) => (cG (L.mgTo (L.rs p s) q g k))) g 0 [a, b]) g 2 [c, d] g) (0 + 4) = .int .i64 (q.gauges.g g).bend := fun a b c d => by
        unfold setRow
        rw [if_pos rfl, if_pos rfl]
        show SV.at (fillAt (fillAt (cG (L.mgTo (L.rs p s) q g g)) 0 [a, b]) 2 [c, d]) (0 + 4) = _
        rw [eT]; rfl
      rw [Int.toNat_natCast, hc, hc]
      have hg2 : g < q.gauges.n := by omega
      have row : ∀ i, i < q.gauges.n → setRow (setRow (setRow (fun (k : Nat) => (cG (L.mgTo (L.rs p s) q g k))) g 0 [SV.int .i64 (L.bothS ((L.rs p s).gauges.g g).edge (L.mgTo (L.rs p s) q g g).edge).lo, SV.int .i64 (L.bothS ((L.rs p s).gauges.g g).edge (L.mgTo (L.rs p s) q g g).edge).hi]) g 2 [SV.int .i64 (L.bothS ((L.rs p s).gauges.g g).across (L.mgTo (L.rs p s) q g g).across).lo, SV.int .i64 (L.bothS ((L.rs p s).gauges.g g).across (L.mgTo (L.rs p s) q g g).across).hi]) g 4 [SV.int .i64 (L.or2 (q.gauges.g g).bend ((L.rs p s).gauges.g g).bend)] i = (cG (L.mgTo (L.rs p s) q (g + 1) i)) := fun i hi => by
        unfold setRow
        by_cases hi2 : i = g
        · rw [if_pos hi2, if_pos hi2, if_pos hi2, hi2]
          have w : L.mgTo (L.rs p s) q (g + 1) g = L.mgG ((L.rs p s).gauges.g g) (q.gauges.g g) := by unfold L.mgTo; rw [decide_eq_true (Nat.lt_succ_self g)]; rfl
          rw [w, eT]; rfl
        · rw [if_neg hi2, if_neg hi2, if_neg hi2]
          have w : L.mgTo (L.rs p s) q (g + 1) i = L.mgTo (L.rs p s) q g i := by
            unfold L.mgTo
            by_cases h5 : i < g
            · rw [decide_eq_true h5, decide_eq_true (by omega)]
            · rw [decide_eq_false h5, decide_eq_false (by omega)]
          rw [w]
      rw [hX]
      exact ⟨⟨by omega, hb⟩, ⟨by omega, by omega⟩, hg2, trivial, hg2, trivial, hg2, hg2, hg2, rfl, ⟨fun i hi => by match i, hi with | 0, _ => rfl | 1, _ => rfl, show 2 ≤ 1000000 by decide⟩, hg2, InK.of (by omega) (by omega), g + 1, by omega, rfl, ⟨rfl, fun _ _ => rfl⟩, rfl, rfl, rfl, rfl, rfl, rfl, rfl, ⟨rfl, row⟩, ⟨rfl, fun _ _ => rfl⟩, rfl, rfl, rfl, rfl, rfl, rfl, rfl, rfl, rfl, rfl, ⟨rfl, fun _ _ => rfl⟩, ⟨rfl, fun _ _ => rfl⟩, rfl, rfl, rfl, rfl, rfl, rfl, rfl, by omega, by omega⟩
    · have hb : ¬ (g : Int) < ((L.rs p s).gauges.n : Int) := of_decide_eq_false hge
      obtain rfl : g = q.gauges.n := by omega
      rw [V, e0]
      refine ⟨rfl, rfl, rfl, rfl, rfl, ⟨rfl, fun i hi => ?_⟩, ⟨rfl, fun _ _ => rfl⟩, rfl⟩
      have w : L.mgTo (L.rs p s) q q.gauges.n i = L.mgG ((L.rs p s).gauges.g i) (q.gauges.g i) := by unfold L.mgTo; rw [decide_eq_true hi]; rfl
      rw [w]; rfl)
theorem g_Merge_ok : SpecOk Tryz.prog 51 g_Merge_S := fnX Tryz.func51 (c := bodyOf Tryz.f51) (by kernel_rfl) mixed (fun args p r hs hp => by
  unfold g_Merge_s at hs
  split at hs
  · cases hs; exact ⟨_, _, g_Merge_vc _ _ _ hp.2.2.2.2, (.p (.agg rfl (fun i hi => by
      rcases i with _ | i
      · exact (Ext.refl _ : Ext _ _)
      rcases i with _ | i
      · exact (Ext.refl _ : Ext _ _)
      rcases i with _ | i
      · exact (Ext.refl _ : Ext _ _)
      rcases i with _ | i
      · exact (Ext.refl _ : Ext _ _)
      rcases i with _ | i
      · exact (Ext.refl _ : Ext _ _)
      rcases i with _ | i
      · exact (Ext.sl hp.1 : Ext _ _)
      rcases i with _ | i
      · exact (Ext.sl hp.2.1 : Ext _ _)
      exact absurd hi (by simp; try omega))) (.p (.agg rfl (fun i hi => by
      rcases i with _ | i
      · exact (Ext.refl _ : Ext _ _)
      rcases i with _ | i
      · exact (Ext.refl _ : Ext _ _)
      rcases i with _ | i
      · exact (Ext.refl _ : Ext _ _)
      rcases i with _ | i
      · exact (Ext.refl _ : Ext _ _)
      rcases i with _ | i
      · exact (Ext.refl _ : Ext _ _)
      rcases i with _ | i
      · exact (Ext.sl hp.2.2.1 : Ext _ _)
      rcases i with _ | i
      · exact (Ext.sl hp.2.2.2.1 : Ext _ _)
      exact absurd hi (by simp; try omega))) (.same _ .nil))), ⟨show SpecsL Tryz.prog _ from (SpecsL.cons g_ValidPiece_ok g_ValidPiece_en (SpecsL.cons g_wrong_ok g_wrong_en (SpecsL.cons g_reset_ok g_reset_en (SpecsL.cons g_agree_ok g_agree_en (SpecsL.cons s_cloneG_ok s_cloneG_en (SpecsL.cons s_cloneM_ok s_cloneM_en (SpecsL.cons g_both_ok g_both_en (SpecsL.cons c_or_ok c_or_en SpecsL.nil)))))))), rfl, ⟨show ItersL Tryz.prog _ from ItersL.nil, (TrsOk.none (fun _ => rfl))⟩⟩⟩
  · cases hs)
theorem g_Merge_en : Enters Tryz.prog 51 := fun args w => by kernel_rfl
end Go.Proofs.YtooapgllahonaaaGreat

namespace Go.Proofs.YtooapgllahonaaaGreat
open Go.SE Go.RowKit
set_option maxRecDepth 100000
set_option maxHeartbeats 4000000
set_option linter.unusedVariables false
attribute [local irreducible] vc

end Go.Proofs.YtooapgllahonaaaGreat

namespace Go.Proofs.YtooapgllahonaaaGreat
open Go.SE Go.RowKit
set_option maxRecDepth 100000
set_option maxHeartbeats 4000000
set_option linter.unusedVariables false
attribute [local irreducible] vc

theorem agN_le (p q : L.Piece) : L.agN p q ≤ 2 * p.gauges.n := by
  unfold L.agN
  have := cnt_le (p := L.agrK p q) (n := 2 * p.gauges.n)
  cases decide (L.agE p q = 0)
  · exact Nat.zero_le _
  · exact this
theorem mgV_le (p q : L.Piece) (s : L.Setting) : (L.mgV p q s).gauges.n ≤ q.gauges.n ∧ (L.mgV p q s).marks.n ≤ q.marks.n := by
  unfold L.mgV
  cases decide (L.mgE p q s = 0)
  · exact ⟨Nat.zero_le _, Nat.zero_le _⟩
  · exact ⟨Nat.le_refl _, Nat.le_refl _⟩
end Go.Proofs.YtooapgllahonaaaGreat

namespace Go.Proofs.YtooapgllahonaaaGreat
open Go.SE Go.RowKit
set_option maxRecDepth 100000
set_option maxHeartbeats 4000000
set_option linter.unusedVariables false
attribute [local irreducible] vc

def L.ix (n : Nat) (i : Int) : Nat := (Int.tmod (Int.tmod i (n : Int) + (n : Int)) (n : Int)).toNat
theorem tmod_add {m n : Int} (h0 : 0 ≤ m) (h1 : m < n) : Int.tmod (m + n) n = m := by
  rw [Int.tmod_eq_emod_of_nonneg (by omega), Int.add_emod_right, Int.emod_eq_of_lt h0 h1]
theorem ix_self {n k : Nat} (h : k < n) : L.ix n (k : Int) = k := by
  unfold L.ix
  rw [Int.tmod_eq_of_lt (show 0 ≤ (k : Int) by omega) (show (k : Int) < n by omega), tmod_add (by omega) (by omega)]
  omega
theorem ix_next {n k : Nat} (h : k < n) : L.ix n ((k : Int) + 1) = L.next n k := by
  unfold L.ix L.next
  by_cases e : k + 1 < n
  · rw [Int.tmod_eq_of_lt (show 0 ≤ (k : Int) + 1 by omega) (show (k : Int) + 1 < n by omega), tmod_add (by omega) (by omega)]
  · rw [show (k : Int) + 1 = (n : Int) by omega, Int.tmod_self, Int.zero_add, Int.tmod_self]
theorem ix_prev {n k : Nat} (h : k < n) : L.ix n ((k : Int) - 1) = L.prev n k := by
  unfold L.ix L.prev
  by_cases e : 1 ≤ k
  · rw [Int.tmod_eq_of_lt (show 0 ≤ (k : Int) - 1 by omega) (show (k : Int) - 1 < n by omega), show (k : Int) + (n : Int) - 1 = (k : Int) - 1 + n by omega]
  · obtain rfl : k = 0 := by omega
    by_cases e1 : n = 1
    · subst e1; rfl
    · rw [show ((0 : Nat) : Int) - 1 = -(1 : Int) by omega, Int.neg_tmod, Int.tmod_eq_of_lt (show 0 ≤ (1 : Int) by omega) (show (1 : Int) < n by omega), show -(1 : Int) + (n : Int) = ((0 : Nat) : Int) + (n : Int) - 1 by omega]
theorem ix_bd {n : Nat} {i : Int} (h : 0 < n) : 0 ≤ Int.tmod i (n : Int) + (n : Int) ∧ Int.tmod i (n : Int) + (n : Int) ≤ 2 * (n : Int) ∧ 0 ≤ Int.tmod (Int.tmod i (n : Int) + (n : Int)) (n : Int) ∧ Int.tmod (Int.tmod i (n : Int) + (n : Int)) (n : Int) < (n : Int) := by
  have h1 := Int.lt_tmod_of_pos i (show 0 < (n : Int) by omega)
  have h2 := Int.tmod_lt_of_pos i (show 0 < (n : Int) by omega)
  exact ⟨by omega, by omega, Int.tmod_nonneg _ (by omega), Int.tmod_lt_of_pos _ (by omega)⟩
theorem ix_lt {n : Nat} {i : Int} (h : 0 < n) : L.ix n i < n := by
  have := ix_bd (i := i) h
  unfold L.ix; omega
theorem cmpPt_neg {a b : L.Pt} : decide (L.cmpPt a b < 0) = (bif decide (a.x < b.x) then true else bif decide (a.x = b.x) then decide (a.y < b.y) else false) := by
  unfold L.cmpPt L.or2 L.cmp
  rcases Int.lt_trichotomy a.x b.x with h1 | h1 | h1 <;> rcases Int.lt_trichotomy a.y b.y with h2 | h2 | h2 <;> grind
theorem ix_emod {n : Nat} {a : Int} (h : 0 < n) : ((L.ix n a : Nat) : Int) = a % (n : Int) := by
  obtain ⟨q1, q2, q3, q4⟩ := ix_bd (i := a) h
  unfold L.ix
  rw [Int.toNat_of_nonneg q3, Int.tmod_eq_emod_of_nonneg q1, Int.add_emod_right]
  have := Int.tmod_add_mul_tdiv a (n : Int)
  conv => rhs; rw [← this]
  rw [Int.add_mul_emod_self_left]
theorem ix_congr {n : Nat} {a b : Int} (hn : 0 < n) (h : a % (n : Int) = b % (n : Int)) (c : Int) : L.ix n (a + c) = L.ix n (b + c) := by
  have h1 := ix_emod (a := a + c) hn
  have h2 := ix_emod (a := b + c) hn
  rw [← Int.emod_add_emod, h, Int.emod_add_emod] at h1
  omega
theorem ix_ix {n : Nat} {a : Int} (hn : 0 < n) (c : Int) : L.ix n (((L.ix n a : Nat) : Int) + c) = L.ix n (a + c) :=
  ix_congr hn (by rw [ix_emod hn, Int.emod_emod]) c
theorem outline_all {l : L.Sq L.Pt} (hv : L.validOutline l = true) : (∀ i, i < l.n → L.validPt (l.g i) = true) ∧ ∀ i, i < l.n → L.cross (l.g (L.prev l.n i)) (l.g i) (l.g (L.next l.n i)) ≠ 0 := by
  unfold L.validOutline at hv
  rw [Bool.and_eq_true, Bool.and_eq_true] at hv
  constructor
  · have h := hv.1
    unfold L.valid3 at h
    cases h2 : L.validPts l with
    | true => exact allB_iff.1 h2
    | false =>
      rw [h2] at h
      revert h
      cases L.within (l.n : Int) 3 24 <;> intro h <;> cases h
  · intro i hi e
    have h := allB_iff.1 hv.2.1 i hi
    unfold L.corner at h
    rw [decide_eq_true e] at h
    cases h
def r1_ValidPoint_p (p : L.Pt) : Prop := True
def r1_ValidPoint_r (p : L.Pt) : SV := .bool (L.validPt p)
def r1_ValidPoint_s : List EV → Option (Prop × SV)
  | [.p (.agg [.int .i64 p_x, .int .i64 p_y])] => some (r1_ValidPoint_p (⟨p_x, p_y⟩ : L.Pt), r1_ValidPoint_r (⟨p_x, p_y⟩ : L.Pt))
  | _ => none
abbrev r1_ValidPoint_S : SE.Spec := (specO r1_ValidPoint_s)
def r1_ValidPoint_C : Cfg := { muts := [], frz := lookN [], specs := lookS [], loops := lookL [], iters := lookI [], rfs := lookR [], nils := lookM [] }
theorem r1_ValidPoint_vc (p : L.Pt) (hp : r1_ValidPoint_p p) : vc Tryz.prog (r1_ValidPoint_C) (bodyOf Tryz.f147) (st0 Tryz.f147 [.p (.agg [.int .i64 p.x, .int .i64 p.y])]) (retFn Tryz.prog Tryz.f147 (r1_ValidPoint_r p)) :=
  @Eq.mpr _ ((bif bif bif decide ((0 : Int) ≤ p.x) then decide (p.x ≤ (4096 : Int)) else false then decide ((0 : Int) ≤ p.y) else false then decide (p.y ≤ (4096 : Int)) else false) = L.validPt p) (by kernel_rfl) (by
    unfold L.validPt L.within
    rw [band, band, band]
    cases decide (0 ≤ p.x) <;> cases decide (p.x ≤ 4096) <;> cases decide (0 ≤ p.y) <;> cases decide (p.y ≤ 4096) <;> rfl)
theorem r1_ValidPoint_ok : SpecOk Tryz.prog 147 r1_ValidPoint_S := fnX Tryz.func147 (c := bodyOf Tryz.f147) (by kernel_rfl) mixed (fun args p r hs hp => by
  unfold r1_ValidPoint_s at hs
  split at hs
  · cases hs; exact ⟨_, _, r1_ValidPoint_vc _ hp, (.same _ .nil), ⟨show SpecsL Tryz.prog _ from SpecsL.nil, rfl, ⟨show ItersL Tryz.prog _ from ItersL.nil, (TrsOk.none (fun _ => rfl))⟩⟩⟩
  · cases hs)
theorem r1_ValidPoint_en : Enters Tryz.prog 147 := fun args w => by kernel_rfl
def r1_points_p (l : (L.Sq L.Pt)) : Prop := l.n ≤ 1000000
def r1_points_r (l : (L.Sq L.Pt)) : SV := .bool (L.validPts l)
def r1_points_s : List EV → Option (Prop × SV)
  | [.p (.sl 2 l_n l_g)] => some ((∀ i, i < l_n → l_g i = [.int .i64 ((ofPt (l_g i)).x), .int .i64 ((ofPt (l_g i)).y)]) ∧ r1_points_p (⟨l_n, fun i => ofPt (l_g i)⟩ : (L.Sq L.Pt)), r1_points_r (⟨l_n, fun i => ofPt (l_g i)⟩ : (L.Sq L.Pt)))
  | _ => none
abbrev r1_points_S : SE.Spec := (specO r1_points_s)
def r1_points_C : Cfg := { muts := [], frz := lookN [], specs := lookS [(147, r1_ValidPoint_S)], loops := fun _ => none, iters := lookI [], rfs := lookR [], nils := lookM [] }
theorem r1_points_vc (l : (L.Sq L.Pt)) (hp : r1_points_p l) : vc Tryz.prog ({ r1_points_C with loops := lookL [(2, { T := Nat, keep := [0], keepO := [], chg := fun i => [(3, .p (.int .i64 (i : Int)))], own := fun _ => [], inv := fun i => i ≤ l.n ∧ ∀ j, j < i → L.validPt (l.g j) = true, mu := fun i => l.n - i })], rfs := lookR [] }) (bodyOf Tryz.f74) (st0 Tryz.f74 [.p (.sl 2 l.n (fun i => [.int .i64 ((l.g i).x), .int .i64 ((l.g i).y)]))]) (retFn Tryz.prog Tryz.f74 (r1_points_r l)) :=
  @Eq.mpr _ ((∃ (g : Nat), (0 : Int) = (↑g : Int) ∧ g ≤ l.n ∧ ∀ (j : Nat), j < g → L.validPt (l.g j) = true) ∧ ∀ (g : Nat), (g ≤ l.n ∧ ∀ (j : Nat), j < g → L.validPt (l.g j) = true) → (decide ((↑g : Int) < (↑l.n : Int)) = true → ((0 : Int) ≤ (↑g : Int) ∧ (↑g : Int) < (↑l.n : Int)) ∧ True ∧ ((!L.validPt (l.g (Int.toNat (↑g : Int)))) = true → false = L.validPts l) ∧
 ((!L.validPt (l.g (Int.toNat (↑g : Int)))) = false → InK .i64 ((↑g : Int) + (1 : Int)) ∧ ∃ (g' : Nat), (↑g : Int) + (1 : Int) = (↑g' : Int) ∧ (l.n = l.n ∧ ∀ (i : Nat), i < l.n → [SV.int .i64 (l.g i).x, SV.int .i64 (l.g i).y] = [SV.int .i64 (l.g i).x, SV.int .i64 (l.g i).y]) ∧ (g' ≤ l.n ∧ ∀ (j : Nat), j < g' →
 L.validPt (l.g j) = true) ∧ l.n - g' < l.n - g)) ∧ (decide ((↑g : Int) < (↑l.n : Int)) = false → true = L.validPts l)) (by kernel_rfl) (by
    have hn : l.n ≤ 1000000 := hp
    refine ⟨⟨(0 : Nat), rfl, Nat.zero_le _, fun j hj => absurd hj (Nat.not_lt_zero _)⟩, fun g hg => ⟨fun hlt => ?_, fun hge => ?_⟩⟩
    · have hb : (g : Int) < (l.n : Int) := of_decide_eq_true hlt
      have e0 : ((g : Int)).toNat = g := by omega
      rw [e0]
      refine ⟨by omega, trivial, fun h1 => ?_, fun h1 => ?_⟩
      · unfold L.validPts; rw [allB_false (i := g) (by omega) (notT h1)]
      · exact ⟨InK.of (by omega) (by omega), g + 1, by omega, ⟨rfl, fun _ _ => rfl⟩, ⟨by omega, fun j hj => by
          rcases Nat.lt_succ_iff_lt_or_eq.1 hj with h' | rfl
          · exact hg.2 j h'
          · exact notF h1⟩, by omega⟩
    · have hb : ¬ (g : Int) < (l.n : Int) := of_decide_eq_false hge
      exact (allB_iff.2 (fun i hi => hg.2 i (by omega))).symm)
theorem r1_points_ok : SpecOk Tryz.prog 74 r1_points_S := fnX Tryz.func74 (c := bodyOf Tryz.f74) (by kernel_rfl) mixed (fun args p r hs hp => by
  unfold r1_points_s at hs
  split at hs
  · cases hs; exact ⟨_, _, r1_points_vc _ hp.2, (.p (.sl hp.1) .nil), ⟨show SpecsL Tryz.prog _ from (SpecsL.cons r1_ValidPoint_ok r1_ValidPoint_en SpecsL.nil), rfl, ⟨show ItersL Tryz.prog _ from ItersL.nil, (TrsOk.none (fun _ => rfl))⟩⟩⟩
  · cases hs)
theorem r1_points_en : Enters Tryz.prog 74 := fun args w => by kernel_rfl
def r1_Cross_p (a : L.Pt) (b : L.Pt) (c : L.Pt) : Prop := L.bd a ∧ L.bd b ∧ L.bd c
def r1_Cross_r (a : L.Pt) (b : L.Pt) (c : L.Pt) : SV := .int .i64 (L.cross a b c)
def r1_Cross_s : List EV → Option (Prop × SV)
  | [.p (.agg [.int .i64 a_x, .int .i64 a_y]), .p (.agg [.int .i64 b_x, .int .i64 b_y]), .p (.agg [.int .i64 c_x, .int .i64 c_y])] => some (r1_Cross_p (⟨a_x, a_y⟩ : L.Pt) (⟨b_x, b_y⟩ : L.Pt) (⟨c_x, c_y⟩ : L.Pt), r1_Cross_r (⟨a_x, a_y⟩ : L.Pt) (⟨b_x, b_y⟩ : L.Pt) (⟨c_x, c_y⟩ : L.Pt))
  | _ => none
abbrev r1_Cross_S : SE.Spec := (specO r1_Cross_s)
def r1_Cross_C : Cfg := { muts := [], frz := lookN [], specs := lookS [], loops := lookL [], iters := lookI [], rfs := lookR [], nils := lookM [] }
theorem r1_Cross_vc (a : L.Pt) (b : L.Pt) (c : L.Pt) (hp : r1_Cross_p a b c) : vc Tryz.prog (r1_Cross_C) (bodyOf Tryz.f93) (st0 Tryz.f93 [.p (.agg [.int .i64 a.x, .int .i64 a.y]), .p (.agg [.int .i64 b.x, .int .i64 b.y]), .p (.agg [.int .i64 c.x, .int .i64 c.y])]) (retFn Tryz.prog Tryz.f93 (r1_Cross_r a b c)) :=
  @Eq.mpr _ (InK .i64 (b.x - a.x) ∧ InK .i64 (c.y - a.y) ∧ InK .i64 ((b.x - a.x) * (c.y - a.y)) ∧ InK .i64 (b.y - a.y) ∧ InK .i64 (c.x - a.x) ∧ InK .i64 ((b.y - a.y) * (c.x - a.x)) ∧ InK .i64 ((b.x - a.x) * (c.y - a.y) - (b.y - a.y) * (c.x - a.x)) ∧ (b.x - a.x) * (c.y - a.y) - (b.y - a.y) * (c.x -
 a.x) = L.cross a b c) (by kernel_rfl) (by
    obtain ⟨h1, h2, h3⟩ := hp
    unfold L.bd at h1 h2 h3
    have m1 := mul_bd (a := b.x - a.x) (b := c.y - a.y) (m := 8000000) (n := 8000000) (by omega) (by omega) (by omega) (by omega)
    have m2 := mul_bd (a := b.y - a.y) (b := c.x - a.x) (m := 8000000) (n := 8000000) (by omega) (by omega) (by omega) (by omega)
    exact ⟨InK.of (by omega) (by omega), InK.of (by omega) (by omega), InK.of (by omega) (by omega), InK.of (by omega) (by omega), InK.of (by omega) (by omega), InK.of (by omega) (by omega), InK.of (by omega) (by omega), rfl⟩)
theorem r1_Cross_ok : SpecOk Tryz.prog 93 r1_Cross_S := fnX Tryz.func93 (c := bodyOf Tryz.f93) (by kernel_rfl) mixed (fun args p r hs hp => by
  unfold r1_Cross_s at hs
  split at hs
  · cases hs; exact ⟨_, _, r1_Cross_vc _ _ _ hp, (.same _ (.same _ (.same _ .nil))), ⟨show SpecsL Tryz.prog _ from SpecsL.nil, rfl, ⟨show ItersL Tryz.prog _ from ItersL.nil, (TrsOk.none (fun _ => rfl))⟩⟩⟩
  · cases hs)
theorem r1_Cross_en : Enters Tryz.prog 93 := fun args w => by kernel_rfl
def r1_less_p (a : L.Pt) (b : L.Pt) : Prop := True
def r1_less_r (a : L.Pt) (b : L.Pt) : SV := .bool (decide (L.cmpPt a b < 0))
def r1_less_s : List EV → Option (Prop × SV)
  | [.p (.agg [.int .i64 a_x, .int .i64 a_y]), .p (.agg [.int .i64 b_x, .int .i64 b_y])] => some (r1_less_p (⟨a_x, a_y⟩ : L.Pt) (⟨b_x, b_y⟩ : L.Pt), r1_less_r (⟨a_x, a_y⟩ : L.Pt) (⟨b_x, b_y⟩ : L.Pt))
  | _ => none
abbrev r1_less_S : SE.Spec := (specO r1_less_s)
def r1_less_C : Cfg := { muts := [], frz := lookN [], specs := lookS [], loops := lookL [], iters := lookI [], rfs := lookR [], nils := lookM [] }
theorem r1_less_vc (a : L.Pt) (b : L.Pt) (hp : r1_less_p a b) : vc Tryz.prog (r1_less_C) (bodyOf Tryz.f92) (st0 Tryz.f92 [.p (.agg [.int .i64 a.x, .int .i64 a.y]), .p (.agg [.int .i64 b.x, .int .i64 b.y])]) (retFn Tryz.prog Tryz.f92 (r1_less_r a b)) :=
  @Eq.mpr _ ((bif decide (a.x < b.x) then true else bif decide (a.x = b.x) then decide (a.y < b.y) else false) = decide (L.cmpPt a b < (0 : Int))) (by kernel_rfl) (by
    exact cmpPt_neg.symm)
theorem r1_less_ok : SpecOk Tryz.prog 92 r1_less_S := fnX Tryz.func92 (c := bodyOf Tryz.f92) (by kernel_rfl) mixed (fun args p r hs hp => by
  unfold r1_less_s at hs
  split at hs
  · cases hs; exact ⟨_, _, r1_less_vc _ _ hp, (.same _ (.same _ .nil)), ⟨show SpecsL Tryz.prog _ from SpecsL.nil, rfl, ⟨show ItersL Tryz.prog _ from ItersL.nil, (TrsOk.none (fun _ => rfl))⟩⟩⟩
  · cases hs)
theorem r1_less_en : Enters Tryz.prog 92 := fun args w => by kernel_rfl
def r1_On_p (a : L.Pt) (b : L.Pt) (p : L.Pt) : Prop := L.bd a ∧ L.bd b ∧ L.bd p
def r1_On_r (a : L.Pt) (b : L.Pt) (p : L.Pt) : SV := .bool (L.on a b p)
def r1_On_s : List EV → Option (Prop × SV)
  | [.p (.agg [.int .i64 a_x, .int .i64 a_y]), .p (.agg [.int .i64 b_x, .int .i64 b_y]), .p (.agg [.int .i64 p_x, .int .i64 p_y])] => some (r1_On_p (⟨a_x, a_y⟩ : L.Pt) (⟨b_x, b_y⟩ : L.Pt) (⟨p_x, p_y⟩ : L.Pt), r1_On_r (⟨a_x, a_y⟩ : L.Pt) (⟨b_x, b_y⟩ : L.Pt) (⟨p_x, p_y⟩ : L.Pt))
  | _ => none
abbrev r1_On_S : SE.Spec := (specO r1_On_s)
def r1_On_C : Cfg := { muts := [], frz := lookN [], specs := lookS [(93, r1_Cross_S)], loops := lookL [], iters := lookI [], rfs := lookR [], nils := lookM [] }
theorem r1_On_vc (a : L.Pt) (b : L.Pt) (p : L.Pt) (hp : r1_On_p a b p) : vc Tryz.prog (r1_On_C) (bodyOf Tryz.f190) (st0 Tryz.f190 [.p (.agg [.int .i64 a.x, .int .i64 a.y]), .p (.agg [.int .i64 b.x, .int .i64 b.y]), .p (.agg [.int .i64 p.x, .int .i64 p.y])]) (retFn Tryz.prog Tryz.f190 (r1_On_r a b p)) :=
  @Eq.mpr _ ((L.bd a ∧ L.bd b ∧ L.bd p) ∧ (bif bif bif bif decide (L.cross a b p = (0 : Int)) then decide (Min.min a.x b.x ≤ p.x) else false then decide (p.x ≤ Max.max a.x b.x) else false then decide (Min.min a.y b.y ≤ p.y) else false then decide (p.y ≤ Max.max a.y b.y) else false) = L.on a b p) (by kernel_rfl) (by
    obtain ⟨h1, h2, h3⟩ := hp
    refine ⟨⟨h1, h2, h3⟩, ?_⟩
    unfold L.on L.within
    rw [band, band, band, band]
    cases decide (L.cross a b p = 0) <;> cases decide (min a.x b.x ≤ p.x) <;> cases decide (p.x ≤ max a.x b.x) <;> cases decide (min a.y b.y ≤ p.y) <;> cases decide (p.y ≤ max a.y b.y) <;> rfl)
theorem r1_On_ok : SpecOk Tryz.prog 190 r1_On_S := fnX Tryz.func190 (c := bodyOf Tryz.f190) (by kernel_rfl) mixed (fun args p r hs hp => by
  unfold r1_On_s at hs
  split at hs
  · cases hs; exact ⟨_, _, r1_On_vc _ _ _ hp, (.same _ (.same _ (.same _ .nil))), ⟨show SpecsL Tryz.prog _ from (SpecsL.cons r1_Cross_ok r1_Cross_en SpecsL.nil), rfl, ⟨show ItersL Tryz.prog _ from ItersL.nil, (TrsOk.none (fun _ => rfl))⟩⟩⟩
  · cases hs)
theorem r1_On_en : Enters Tryz.prog 190 := fun args w => by kernel_rfl
def r1_sign_p (n : Int) : Prop := True
def r1_sign_r (n : Int) : SV := .int .i64 (L.cmp n 0)
def r1_sign_s : List EV → Option (Prop × SV)
  | [.p (.int .i64 n)] => some (r1_sign_p n, r1_sign_r n)
  | _ => none
abbrev r1_sign_S : SE.Spec := (specO r1_sign_s)
def r1_sign_C : Cfg := { muts := [], frz := lookN [], specs := lookS [], loops := lookL [], iters := lookI [], rfs := lookR [], nils := lookM [] }
theorem r1_sign_vc (n : Int) (hp : r1_sign_p n) : vc Tryz.prog (r1_sign_C) (bodyOf Tryz.f95) (st0 Tryz.f95 [.p (.int .i64 n)]) (retFn Tryz.prog Tryz.f95 (r1_sign_r n)) :=
  @Eq.mpr _ ((decide ((0 : Int) < n) = true → (1 : Int) = L.cmp n (0 : Int)) ∧ (decide ((0 : Int) < n) = false → (decide (n < (0 : Int)) = true → (-1 : Int) = L.cmp n (0 : Int)) ∧ (decide (n < (0 : Int)) = false → (0 : Int) = L.cmp n (0 : Int)))) (by kernel_rfl) (by
    refine ⟨fun h => ?_, fun h => ⟨fun h1 => ?_, fun h1 => ?_⟩⟩
    · have h := of_decide_eq_true h
      unfold L.cmp; rw [decide_eq_false (by omega), decide_eq_true h]; rfl
    · have h1 := of_decide_eq_true h1
      unfold L.cmp; rw [decide_eq_true h1]; rfl
    · unfold L.cmp; rw [h1, h]; rfl)
theorem r1_sign_ok : SpecOk Tryz.prog 95 r1_sign_S := fnX Tryz.func95 (c := bodyOf Tryz.f95) (by kernel_rfl) mixed (fun args p r hs hp => by
  unfold r1_sign_s at hs
  split at hs
  · cases hs; exact ⟨_, _, r1_sign_vc _ hp, (.same _ .nil), ⟨show SpecsL Tryz.prog _ from SpecsL.nil, rfl, ⟨show ItersL Tryz.prog _ from ItersL.nil, (TrsOk.none (fun _ => rfl))⟩⟩⟩
  · cases hs)
theorem r1_sign_en : Enters Tryz.prog 95 := fun args w => by kernel_rfl
def r1_at_p (l : (L.Sq L.Pt)) (i : Int) : Prop := 1 ≤ l.n ∧ l.n ≤ 1000000 ∧ -1000000 ≤ i ∧ i ≤ 1000000
def r1_at_r (l : (L.Sq L.Pt)) (i : Int) : SV := (.agg [.int .i64 ((l.g (L.ix l.n i)).x), .int .i64 ((l.g (L.ix l.n i)).y)])
def r1_at_s : List EV → Option (Prop × SV)
  | [.p (.sl 2 l_n l_g), .p (.int .i64 i)] => some ((∀ i, i < l_n → l_g i = [.int .i64 ((ofPt (l_g i)).x), .int .i64 ((ofPt (l_g i)).y)]) ∧ r1_at_p (⟨l_n, fun i => ofPt (l_g i)⟩ : (L.Sq L.Pt)) i, r1_at_r (⟨l_n, fun i => ofPt (l_g i)⟩ : (L.Sq L.Pt)) i)
  | _ => none
abbrev r1_at_S : SE.Spec := (specO r1_at_s)
def r1_at_C : Cfg := { muts := [], frz := lookN [], specs := lookS [], loops := lookL [], iters := lookI [], rfs := lookR [], nils := lookM [] }
theorem r1_at_vc (l : (L.Sq L.Pt)) (i : Int) (hp : r1_at_p l i) : vc Tryz.prog (r1_at_C) (bodyOf Tryz.f76) (st0 Tryz.f76 [.p (.sl 2 l.n (fun i => [.int .i64 ((l.g i).x), .int .i64 ((l.g i).y)])), .p (.int .i64 i)]) (retFn Tryz.prog Tryz.f76 (r1_at_r l i)) :=
  @Eq.mpr _ ((↑l.n : Int) ≠ (0 : Int) ∧ InK .i64 (Int.tmod i (↑l.n : Int) + (↑l.n : Int)) ∧ (↑l.n : Int) ≠ (0 : Int) ∧ ((0 : Int) ≤ Int.tmod (Int.tmod i (↑l.n : Int) + (↑l.n : Int)) (↑l.n : Int) ∧ Int.tmod (Int.tmod i (↑l.n : Int) + (↑l.n : Int)) (↑l.n : Int) < (↑l.n : Int)) ∧ SV.agg [SV.int .i64 (l.g (Int.toNat (Int.tmod (Int.tmod i (↑l.n : Int) + (↑l.n : Int)) (↑l.n :
 Int)))).x, SV.int .i64 (l.g (Int.toNat (Int.tmod (Int.tmod i (↑l.n : Int) + (↑l.n : Int)) (↑l.n : Int)))).y] = SV.agg [SV.int .i64 (l.g (L.ix l.n i)).x, SV.int .i64 (l.g (L.ix l.n i)).y]) (by kernel_rfl) (by
    obtain ⟨h1, h2, h3, h4⟩ := hp
    obtain ⟨q1, q2, q3, q4⟩ := ix_bd (n := l.n) (i := i) (by omega)
    exact ⟨by omega, InK.of (by omega) (by omega), by omega, ⟨q3, q4⟩, rfl⟩)
theorem r1_at_ok : SpecOk Tryz.prog 76 r1_at_S := fnX Tryz.func76 (c := bodyOf Tryz.f76) (by kernel_rfl) mixed (fun args p r hs hp => by
  unfold r1_at_s at hs
  split at hs
  · cases hs; exact ⟨_, _, r1_at_vc _ _ hp.2, (.p (.sl hp.1) (.same _ .nil)), ⟨show SpecsL Tryz.prog _ from SpecsL.nil, rfl, ⟨show ItersL Tryz.prog _ from ItersL.nil, (TrsOk.none (fun _ => rfl))⟩⟩⟩
  · cases hs)
theorem r1_at_en : Enters Tryz.prog 76 := fun args w => by kernel_rfl
def r1_sum_p (l : (L.Sq L.Pt)) : Prop := L.small l
def r1_sum_r (l : (L.Sq L.Pt)) : SV := .int .i64 (L.areaTo l l.n)
def r1_sum_s : List EV → Option (Prop × SV)
  | [.p (.sl 2 l_n l_g)] => some ((∀ i, i < l_n → l_g i = [.int .i64 ((ofPt (l_g i)).x), .int .i64 ((ofPt (l_g i)).y)]) ∧ r1_sum_p (⟨l_n, fun i => ofPt (l_g i)⟩ : (L.Sq L.Pt)), r1_sum_r (⟨l_n, fun i => ofPt (l_g i)⟩ : (L.Sq L.Pt)))
  | _ => none
abbrev r1_sum_S : SE.Spec := (specO r1_sum_s)
def r1_sum_C : Cfg := { muts := [], frz := lookN [], specs := lookS [(76, r1_at_S)], loops := fun _ => none, iters := lookI [], rfs := lookR [], nils := lookM [] }
theorem r1_sum_vc (l : (L.Sq L.Pt)) (hp : r1_sum_p l) : vc Tryz.prog ({ r1_sum_C with loops := lookL [(3, { T := Nat, keep := [0], keepO := [], chg := fun i => [(3, .p (.int .i64 (L.areaTo l i))), (4, .p (.int .i64 (i : Int)))], own := fun _ => [], inv := fun i => i ≤ l.n, mu := fun i => l.n - i })], rfs := lookR [] }) (bodyOf Tryz.f88) (st0 Tryz.f88 [.p (.sl 2 l.n (fun i => [.int .i64 ((l.g i).x), .int .i64 ((l.g i).y)]))]) (retFn Tryz.prog Tryz.f88 (r1_sum_r l)) :=
  @Eq.mpr _ ((∃ (g : Nat), (0 : Int) = L.areaTo l g ∧ (0 : Int) = (↑g : Int) ∧ g ≤ l.n) ∧ ∀ (g : Nat), g ≤ l.n → (decide ((↑g : Int) < (↑l.n : Int)) = true → ((∀ (i : Nat), i < l.n → [SV.int .i64 (l.g i).x, SV.int .i64 (l.g i).y] = [SV.int .i64 (l.g i).x, SV.int .i64 (l.g i).y]) ∧ (1 : Nat) ≤ l.n ∧ l.n ≤ (1000000 : Nat) ∧ (-1000000
 : Int) ≤ (↑g : Int) ∧ (↑g : Int) ≤ (1000000 : Int)) ∧ InK .i64 ((↑g : Int) + (1 : Int)) ∧ ((∀ (i : Nat), i < l.n → [SV.int .i64 (l.g i).x, SV.int .i64 (l.g i).y] = [SV.int .i64 (l.g i).x, SV.int .i64 (l.g i).y]) ∧ (1 : Nat) ≤ l.n ∧ l.n ≤ (1000000 : Nat) ∧ (-1000000 : Int) ≤ (↑g : Int) + (1 : Int) ∧ (↑g : Int) + (1 :
 Int) ≤ (1000000 : Int)) ∧ InK .i64 ((l.g (L.ix l.n (↑g : Int))).x * (l.g (L.ix l.n ((↑g : Int) + (1 : Int)))).y) ∧ InK .i64 ((l.g (L.ix l.n ((↑g : Int) + (1 : Int)))).x * (l.g (L.ix l.n (↑g : Int))).y) ∧ InK .i64 ((l.g (L.ix l.n (↑g : Int))).x * (l.g (L.ix l.n ((↑g : Int) + (1 : Int)))).y - (l.g (L.ix l.n ((↑g : Int) + (1 : Int)))).x * (l.g (L.ix l.n
 (↑g : Int))).y) ∧ InK .i64 (L.areaTo l g + ((l.g (L.ix l.n (↑g : Int))).x * (l.g (L.ix l.n ((↑g : Int) + (1 : Int)))).y - (l.g (L.ix l.n ((↑g : Int) + (1 : Int)))).x * (l.g (L.ix l.n (↑g : Int))).y)) ∧ InK .i64 ((↑g : Int) + (1 : Int)) ∧ ∃ (g' : Nat), L.areaTo l g + ((l.g (L.ix l.n (↑g : Int))).x * (l.g (L.ix l.n ((↑g : Int) + (1 : Int)))).y - (l.g (L.ix l.n ((↑g :
 Int) + (1 : Int)))).x * (l.g (L.ix l.n (↑g : Int))).y) = L.areaTo l g' ∧ (↑g : Int) + (1 : Int) = (↑g' : Int) ∧ (l.n = l.n ∧ ∀ (i : Nat), i < l.n → [SV.int .i64 (l.g i).x, SV.int .i64 (l.g i).y] = [SV.int .i64 (l.g i).x, SV.int .i64 (l.g i).y]) ∧ g' ≤ l.n ∧ l.n - g' < l.n - g) ∧ (decide ((↑g : Int) < (↑l.n : Int)) =
 false → L.areaTo l g = L.areaTo l l.n)) (by kernel_rfl) (by
    have hs : L.small l := hp
    have hn := hs.1
    refine ⟨⟨(0 : Nat), rfl, rfl, Nat.zero_le _⟩, fun g hg => ⟨fun hlt => ?_, fun hge => ?_⟩⟩
    · have hb : (g : Int) < (l.n : Int) := of_decide_eq_true hlt
      have hk : g < l.n := by omega
      rw [ix_self hk, ix_next hk]
      have b1 := area_term hs hk
      have b2 := areaTo_bd hs g hg
      exact ⟨⟨fun _ _ => rfl, by omega, by omega, by omega, by omega⟩, InK.of (by omega) (by omega), ⟨fun _ _ => rfl, by omega, by omega, by omega, by omega⟩, InK.of (by omega) (by omega), InK.of (by omega) (by omega), InK.of (by omega) (by omega), InK.of (by omega) (by omega), InK.of (by omega) (by omega), g + 1, rfl, by omega, ⟨rfl, fun _ _ => rfl⟩, by omega, by omega⟩
    · have hb : ¬ (g : Int) < (l.n : Int) := of_decide_eq_false hge
      obtain rfl : g = l.n := by omega
      rfl)
theorem r1_sum_ok : SpecOk Tryz.prog 88 r1_sum_S := fnX Tryz.func88 (c := bodyOf Tryz.f88) (by kernel_rfl) mixed (fun args p r hs hp => by
  unfold r1_sum_s at hs
  split at hs
  · cases hs; exact ⟨_, _, r1_sum_vc _ hp.2, (.p (.sl hp.1) .nil), ⟨show SpecsL Tryz.prog _ from (SpecsL.cons r1_at_ok r1_at_en SpecsL.nil), rfl, ⟨show ItersL Tryz.prog _ from ItersL.nil, (TrsOk.none (fun _ => rfl))⟩⟩⟩
  · cases hs)
theorem r1_sum_en : Enters Tryz.prog 88 := fun args w => by kernel_rfl
end Go.Proofs.YtooapgllahonaaaGreat
