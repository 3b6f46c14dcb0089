/- A symbolic walk over the model, and what it shows of functions of the program: parts of the proof that the text of the row joins. -/
import Derived.Test.YtooapgllahonaaaGreatW3
import Derived.Test.YtooapgllahonaaaGreatW2
import Derived.Test.YtooapgllahonaaaGreatE3
import Derived.KernelRfl

namespace Go.Proofs.YtooapgllahonaaaGreat
open Go.SE Go.RowKit
set_option maxRecDepth 100000
set_option maxHeartbeats 4000000
set_option linter.unusedVariables false
attribute [local irreducible] vc

def L.holdsR (g : L.Gauge) (m : L.Meas) : Bool := bif (bif L.within m.edge g.edge.lo g.edge.hi then L.within m.across g.across.lo g.across.hi else false) then (bif decide (g.bend = 0) then true else decide (g.bend = m.bend)) else false
def L.fits (p : L.Piece) (l : L.Sq L.Pt) (s : L.Setting) : Bool := bif decide ((l.n : Int) = p.gauges.n) then L.allB l.n (fun i => L.holdsR (p.gauges.g i) (L.meas l s i)) else false
def L.fitP (p : L.Piece) (l : L.Sq L.Pt) (s : L.Setting) : Prop := L.validOutline l = true ∧ L.gauges p.gauges = true ∧ 0 ≤ s.shift ∧ s.shift < (p.gauges.n : Int)
def L.fitK (p : L.Piece) (l : L.Sq L.Pt) (k : Nat) : Bool := L.fits p l (L.sett k)
def L.fitsE (p : L.Piece) (l : L.Sq L.Pt) (s : L.Setting) : Int := bif !L.validPiece p then 30 else bif (bif !L.validOutline l then true else !L.validSet s p.gauges.n) then 1 else 0
def L.fitsV (p : L.Piece) (l : L.Sq L.Pt) (s : L.Setting) : Bool := bif decide (L.fitsE p l s = 0) then L.fits p l s else false
theorem piece_gauges {p : L.Piece} (h : L.validPiece p = true) : L.gauges p.gauges = true := by
  unfold L.validPiece at h
  rw [band, band, Bool.and_eq_true, Bool.and_eq_true] at h
  exact h.1.2
def g_holds_p (g : L.Gauge) (m : L.Meas) : Prop := g.edge.lo ≤ g.edge.hi ∧ g.across.lo ≤ g.across.hi
def g_holds_r (g : L.Gauge) (m : L.Meas) : SV := .bool (L.holdsR g m)
def g_holds_s : List EV → Option (Prop × SV)
  | [.p (.agg [.int .i64 g_edge_lo, .int .i64 g_edge_hi, .int .i64 g_across_lo, .int .i64 g_across_hi, .int .i64 g_bend]), .p (.agg [.int .i64 m_edge, .int .i64 m_across, .int .i64 m_bend])] => some (g_holds_p (⟨(⟨g_edge_lo, g_edge_hi⟩ : L.Span), (⟨g_across_lo, g_across_hi⟩ : L.Span), g_bend⟩ : L.Gauge) (⟨m_edge, m_across, m_bend⟩ : L.Meas), g_holds_r (⟨(⟨g_edge_lo, g_edge_hi⟩ : L.Span), (⟨g_across_lo, g_across_hi⟩ : L.Span), g_bend⟩ : L.Gauge) (⟨m_edge, m_across, m_bend⟩ : L.Meas))
  | _ => none
abbrev g_holds_S : SE.Spec := (specO g_holds_s)
def g_holds_C : Cfg := { muts := [], frz := lookN [], specs := lookS [(194, g_in_S)], loops := lookL [], iters := lookI [], rfs := lookR [], nils := lookM [] }
theorem g_holds_vc (g : L.Gauge) (m : L.Meas) (hp : g_holds_p g m) : vc Tryz.prog (g_holds_C) (bodyOf Tryz.f165) (st0 Tryz.f165 [.p (.agg [.int .i64 g.edge.lo, .int .i64 g.edge.hi, .int .i64 g.across.lo, .int .i64 g.across.hi, .int .i64 g.bend]), .p (.agg [.int .i64 m.edge, .int .i64 m.across, .int .i64 m.bend])]) (retFn Tryz.prog Tryz.f165 (g_holds_r g m)) :=
  @Eq.mpr _ (((decide (m.edge = g.edge.lo) && (decide (m.across = g.across.lo) && decide (m.bend = g.bend))) = true → true = L.holdsR g m) ∧ ((decide (m.edge = g.edge.lo) && (decide (m.across = g.across.lo) && decide (m.bend = g.bend))) = false → True ∧ (L.within m.edge g.edge.lo g.edge.hi = true → True) ∧ (bif bif L.within m.edge
 g.edge.lo g.edge.hi then L.within m.across g.across.lo g.across.hi else false then bif decide (g.bend = (0 : Int)) then true else decide (g.bend = m.bend) else false) = L.holdsR g m)) (by kernel_rfl) (by
    obtain ⟨h1, h2⟩ := hp
    refine ⟨fun h => ?_, fun h => ⟨trivial, fun _ => trivial, rfl⟩⟩
    rw [Bool.and_eq_true, Bool.and_eq_true, decide_eq_true_eq, decide_eq_true_eq, decide_eq_true_eq] at h
    unfold L.holdsR
    rw [within_iff.2 (show g.edge.lo ≤ m.edge ∧ m.edge ≤ g.edge.hi by omega), within_iff.2 (show g.across.lo ≤ m.across ∧ m.across ≤ g.across.hi by omega), decide_eq_true (show g.bend = m.bend by omega)]
    cases decide (g.bend = 0) <;> rfl)
theorem g_holds_ok : SpecOk Tryz.prog 165 g_holds_S := fnX Tryz.func165 (c := bodyOf Tryz.f165) (by kernel_rfl) mixed (fun args p r hs hp => by
  unfold g_holds_s at hs
  split at hs
  · cases hs; exact ⟨_, _, g_holds_vc _ _ hp, (.same _ (.same _ .nil)), ⟨show SpecsL Tryz.prog _ from (SpecsL.cons g_in_ok g_in_en SpecsL.nil), rfl, ⟨show ItersL Tryz.prog _ from ItersL.nil, (TrsOk.none (fun _ => rfl))⟩⟩⟩
  · cases hs)
theorem g_holds_en : Enters Tryz.prog 165 := fun args w => by kernel_rfl
def g_fits_p (p : L.Piece) (l : (L.Sq L.Pt)) (s : L.Setting) : Prop := L.fitP p l s
def g_fits_r (p : L.Piece) (l : (L.Sq L.Pt)) (s : L.Setting) : SV := .bool (L.fits p l s)
def g_fits_s : List EV → Option (Prop × SV)
  | [.p (.agg [.int .i64 p_id, .int .i64 p_colour, .int .i64 p_rev, .int .i64 p_made, .int .i64 p_swell, .sl 5 p_gauges_n p_gauges_g, .sl 3 p_marks_n p_marks_g]), .p (.sl 2 l_n l_g), .p (.agg [.int .i64 s_shift, .bool s_back])] => some ((∀ i, i < p_gauges_n → p_gauges_g i = [.int .i64 ((ofGauge (p_gauges_g i)).edge.lo), .int .i64 ((ofGauge (p_gauges_g i)).edge.hi), .int .i64 ((ofGauge (p_gauges_g i)).across.lo), .int .i64 ((ofGauge (p_gauges_g i)).across.hi), .int .i64 ((ofGauge (p_gauges_g i)).bend)]) ∧ (∀ i, i < p_marks_n → p_marks_g i = [.int .i64 ((ofMark (p_marks_g i)).edge), .int .i64 ((ofMark (p_marks_g i)).place), .int .i64 ((ofMark (p_marks_g i)).tone)]) ∧ (∀ i, i < l_n → l_g i = [.int .i64 ((ofPt (l_g i)).x), .int .i64 ((ofPt (l_g i)).y)]) ∧ g_fits_p (⟨p_id, p_colour, p_rev, p_made, p_swell, (⟨p_gauges_n, fun i => ofGauge (p_gauges_g i)⟩ : (L.Sq L.Gauge)), (⟨p_marks_n, fun i => ofMark (p_marks_g i)⟩ : (L.Sq L.Mark))⟩ : L.Piece) (⟨l_n, fun i => ofPt (l_g i)⟩ : (L.Sq L.Pt)) (⟨s_shift, s_back⟩ : L.Setting), g_fits_r (⟨p_id, p_colour, p_rev, p_made, p_swell, (⟨p_gauges_n, fun i => ofGauge (p_gauges_g i)⟩ : (L.Sq L.Gauge)), (⟨p_marks_n, fun i => ofMark (p_marks_g i)⟩ : (L.Sq L.Mark))⟩ : L.Piece) (⟨l_n, fun i => ofPt (l_g i)⟩ : (L.Sq L.Pt)) (⟨s_shift, s_back⟩ : L.Setting))
  | _ => none
abbrev g_fits_S : SE.Spec := (specO g_fits_s)
def g_fits_C : Cfg := { muts := [], frz := lookN [], specs := lookS [(118, g_measures_S), (165, g_holds_S)], loops := lookL [], iters := lookI [(173, g_meas2_it)], rfs := lookR [], nils := lookM [] }
theorem g_fits_vc (p : L.Piece) (l : (L.Sq L.Pt)) (s : L.Setting) (hp : g_fits_p p l s) : vc Tryz.prog ({ g_fits_C with loops := lookL [], rfs := lookR [(4, { T := Nat, keep := [3, 6], keepO := [6], own := fun k _ => [], inv := fun k _ => ∀ j, j < k → L.holdsR (p.gauges.g j) (L.meas l s j) = true })] }) (bodyOf Tryz.f108) (st0 Tryz.f108 [.p (.agg [.int .i64 p.id, .int .i64 p.colour, .int .i64 p.rev, .int .i64 p.made, .int .i64 p.swell, .sl 5 p.gauges.n (fun i => [.int .i64 ((p.gauges.g i).edge.lo), .int .i64 ((p.gauges.g i).edge.hi), .int .i64 ((p.gauges.g i).across.lo), .int .i64 ((p.gauges.g i).across.hi), .int .i64 ((p.gauges.g i).bend)]), .sl 3 p.marks.n (fun i => [.int .i64 ((p.marks.g i).edge), .int .i64 ((p.marks.g i).place), .int .i64 ((p.marks.g i).tone)])]), .p (.sl 2 l.n (fun i => [.int .i64 ((l.g i).x), .int .i64 ((l.g i).y)])), .p (.agg [.int .i64 s.shift, .bool s.back])]) (retFn Tryz.prog Tryz.f108 (g_fits_r p l s)) :=
  @Eq.mpr _ (((!decide ((↑l.n : Int) = (↑p.gauges.n : Int))) = true → false = L.fits p l s) ∧ ((!decide ((↑l.n : Int) = (↑p.gauges.n : Int))) = false → ((∀ (i : Nat), i < l.n → [SV.int .i64 (l.g i).x, SV.int .i64 (l.g i).y] = [SV.int .i64 (l.g i).x, SV.int .i64 (l.g i).y]) ∧ l.n ≤ (1000000 : Nat)) ∧ (((∀ (i :
 Nat), i < l.n → [SV.int .i64 (l.g i).x, SV.int .i64 (l.g i).y] = [SV.int .i64 (l.g i).x, SV.int .i64 (l.g i).y]) ∧ (∀ (i : Nat), (i < bif L.validOutline (L.Sq.mk l.n fun (i : Nat) ↦ l.g i) then l.n else (0 : Nat)) → [SV.int .i64 (L.bend (L.Sq.mk l.n fun (i : Nat) ↦ l.g i) i)] = [SV.int .i64 (L.bend
 (L.Sq.mk l.n fun (i : Nat) ↦ l.g i) i)]) ∧ (↑l.n : Int) = (↑l.n : Int) ∧ (↑l.n : Int) = (↑l.n : Int) ∧ (bif L.validOutline (L.Sq.mk l.n fun (i : Nat) ↦ l.g i) then l.n else (0 : Nat)) = l.n ∧ (∀ (i : Nat), i < l.n → L.bend (L.Sq.mk l.n fun (i : Nat) ↦ l.g i) i = L.bend (L.Sq.mk l.n fun (i : Nat) ↦ l.g i) i) ∧ (1 : Nat) ≤ l.n ∧ l.n ≤ (1000 : Nat) ∧ (0 : Int) ≤ s.shift ∧ s.shift ≤ (1000 : Int)) ∧ ∃
 (t : Nat), false = false ∧ ∀ (j : Nat), j < (0 : Nat) → L.holdsR (p.gauges.g j) (L.meas l s j) = true) ∧ (∀ (k t : Nat) (vk : Nat → Go.Value), k < l.n → (∀ (j : Nat), j < k → L.holdsR (p.gauges.g j) (L.meas l s j) = true) → ((0 : Int) ≤ (↑k : Int) ∧ (↑k : Int) < (↑p.gauges.n : Int)) ∧ ((p.gauges.g (Int.toNat (↑k : Int))).edge.lo ≤ (p.gauges.g (Int.toNat (↑k : Int))).edge.hi ∧
 (p.gauges.g (Int.toNat (↑k : Int))).across.lo ≤ (p.gauges.g (Int.toNat (↑k : Int))).across.hi) ∧ ((!L.holdsR (p.gauges.g (Int.toNat (↑k : Int))) (L.meas (L.Sq.mk l.n fun (i : Nat) ↦ l.g i) s k)) = true → nat_lit 0 = nat_lit 0 ∧ SV.ref [SV.int .i64 p.id, SV.int .i64 p.colour, SV.int .i64 p.rev, SV.int .i64 p.made,
 SV.int .i64 p.swell, SV.sl (nat_lit 5) p.gauges.n fun (i : Nat) ↦ [SV.int .i64 (p.gauges.g i).edge.lo, SV.int .i64 (p.gauges.g i).edge.hi, SV.int .i64 (p.gauges.g i).across.lo, SV.int .i64 (p.gauges.g i).across.hi, SV.int .i64 (p.gauges.g i).bend], SV.sl (nat_lit 3) p.marks.n fun (i : Nat) ↦
 [SV.int .i64 (p.marks.g i).edge, SV.int .i64 (p.marks.g i).place, SV.int .i64 (p.marks.g i).tone]] (nat_lit 0) = SV.ref [SV.int .i64 p.id, SV.int .i64 p.colour, SV.int .i64 p.rev, SV.int .i64 p.made, SV.int .i64 p.swell, SV.sl (nat_lit 5) p.gauges.n fun (i :
 Nat) ↦ [SV.int .i64 (p.gauges.g i).edge.lo, SV.int .i64 (p.gauges.g i).edge.hi, SV.int .i64 (p.gauges.g i).across.lo, SV.int .i64 (p.gauges.g i).across.hi, SV.int .i64 (p.gauges.g i).bend], SV.sl (nat_lit 3) p.marks.n fun (i : Nat) ↦ [SV.int .i64 (p.marks.g i).edge, SV.int .i64
 (p.marks.g i).place, SV.int .i64 (p.marks.g i).tone]] (nat_lit 0) ∧ vk (nat_lit 6) = vk (nat_lit 6) ∧ vk (nat_lit 3) = vk (nat_lit 3) ∧ false = L.fits p l s) ∧ ((!L.holdsR (p.gauges.g (Int.toNat (↑k : Int))) (L.meas (L.Sq.mk l.n fun (i : Nat) ↦ l.g i) s k)) = false → ∃ (t' : Nat), nat_lit 0 = nat_lit 0 ∧ SV.ref [SV.int .i64 p.id, SV.int
 .i64 p.colour, SV.int .i64 p.rev, SV.int .i64 p.made, SV.int .i64 p.swell, SV.sl (nat_lit 5) p.gauges.n fun (i : Nat) ↦ [SV.int .i64 (p.gauges.g i).edge.lo, SV.int .i64 (p.gauges.g i).edge.hi, SV.int .i64 (p.gauges.g i).across.lo, SV.int .i64 (p.gauges.g i).across.hi,
 SV.int .i64 (p.gauges.g i).bend], SV.sl (nat_lit 3) p.marks.n fun (i : Nat) ↦ [SV.int .i64 (p.marks.g i).edge, SV.int .i64 (p.marks.g i).place, SV.int .i64 (p.marks.g i).tone]] (nat_lit 0) = SV.ref [SV.int .i64 p.id, SV.int .i64 p.colour, SV.int .i64 p.rev, SV.int
 .i64 p.made, SV.int .i64 p.swell, SV.sl (nat_lit 5) p.gauges.n fun (i : Nat) ↦ [SV.int .i64 (p.gauges.g i).edge.lo, SV.int .i64 (p.gauges.g i).edge.hi, SV.int .i64 (p.gauges.g i).across.lo, SV.int .i64 (p.gauges.g i).across.hi, SV.int .i64 (p.gauges.g i).bend], SV.sl (nat_lit 3)
 p.marks.n fun (i : Nat) ↦ [SV.int .i64 (p.marks.g i).edge, SV.int .i64 (p.marks.g i).place, SV.int .i64 (p.marks.g i).tone]] (nat_lit 0) ∧ vk (nat_lit 6) = vk (nat_lit 6) ∧ vk (nat_lit 3) = vk (nat_lit 3) ∧ false = false ∧ ∀ (j : Nat), j < k + (1 : Nat) → L.holdsR (p.gauges.g j) (L.meas l s j) = true)) ∧ ∀ (t : Nat), (∀ (j : Nat), j <
 l.n → L.holdsR (p.gauges.g j) (L.meas l s j) = true) → true = L.fits p l s)) (by kernel_rfl) (by
    obtain ⟨hv, hgg, s0, s1⟩ := hp
    obtain ⟨⟨g3, g24⟩, hg⟩ := gauge_ok hgg
    refine ⟨fun h => ?_, fun h => ?_⟩
    · unfold L.fits; rw [notT h]; rfl
    have hd := notF h
    have hn : l.n = p.gauges.n := by have := of_decide_eq_true hd; omega
    refine ⟨⟨fun _ _ => rfl, by omega⟩, ⟨⟨fun _ _ => rfl, fun _ _ => rfl, rfl, rfl, ?_, fun _ _ => rfl, by omega, by omega, by omega, by omega⟩, (0 : Nat), rfl, fun j hj => absurd hj (Nat.not_lt_zero _)⟩, fun k t vk hk hi => ?_, fun t hi => ?_⟩
    · rw [show L.validOutline (L.Sq.mk l.n fun i => l.g i) = true from hv]; rfl
    · have e0 : ((k : Int)).toNat = k := by omega
      have hgk := hg k (by omega)
      rw [e0]
      refine ⟨by omega, ⟨by omega, by omega⟩, fun h1 => ⟨rfl, rfl, rfl, rfl, ?_⟩, fun h1 => ⟨t, rfl, rfl, rfl, rfl, rfl, fun j hj => ?_⟩⟩
      · have h1 : L.holdsR (p.gauges.g k) (L.meas l s k) = false := notT h1
        unfold L.fits; rw [hd, allB_false (i := k) hk h1]; rfl
      · rcases Nat.lt_succ_iff_lt_or_eq.1 hj with h' | rfl
        · exact hi j h'
        · exact notF h1
    · unfold L.fits; rw [hd, allB_iff.2 hi]; rfl)
theorem g_fits_ok : SpecOk Tryz.prog 108 g_fits_S := fnX Tryz.func108 (c := bodyOf Tryz.f108) (by kernel_rfl) mixed (fun args p r hs hp => by
  unfold g_fits_s at hs
  split at hs
  · cases hs; exact ⟨_, _, g_fits_vc _ _ _ hp.2.2.2, (.p (.agg rfl (fun i hi => by
      rcases i with _ | i
      · exact (Ext.refl _ : Ext _ _)
      rcases i with _ | i
      · exact (Ext.refl _ : Ext _ _)
      rcases i with _ | i
      · exact (Ext.refl _ : Ext _ _)
      rcases i with _ | i
      · exact (Ext.refl _ : Ext _ _)
      rcases i with _ | i
      · exact (Ext.refl _ : Ext _ _)
      rcases i with _ | i
      · exact (Ext.sl hp.1 : Ext _ _)
      rcases i with _ | i
      · exact (Ext.sl hp.2.1 : Ext _ _)
      exact absurd hi (by simp; try omega))) (.p (.sl hp.2.2.1) (.same _ .nil))), ⟨show SpecsL Tryz.prog _ from (SpecsL.cons g_measures_ok g_measures_en (SpecsL.cons g_holds_ok g_holds_en SpecsL.nil)), rfl, ⟨show ItersL Tryz.prog _ from (ItersL.cons g_meas2_itok g_meas2_en ItersL.nil), (TrsOk.none (fun _ => rfl))⟩⟩⟩
  · cases hs)
theorem g_fits_en : Enters Tryz.prog 108 := fun args w => by kernel_rfl
def g_Fits_p (p : L.Piece) (l : (L.Sq L.Pt)) (s : L.Setting) : Prop := p.gauges.n ≤ 1000000 ∧ p.marks.n ≤ 1000000 ∧ l.n ≤ 1000000
def g_Fits_r (p : L.Piece) (l : (L.Sq L.Pt)) (s : L.Setting) : SV := .tup [.bool (L.fitsV p l s), .int .i64 (L.fitsE p l s)]
def g_Fits_s : List EV → Option (Prop × SV)
  | [.p (.agg [.int .i64 p_id, .int .i64 p_colour, .int .i64 p_rev, .int .i64 p_made, .int .i64 p_swell, .sl 5 p_gauges_n p_gauges_g, .sl 3 p_marks_n p_marks_g]), .p (.sl 2 l_n l_g), .p (.agg [.int .i64 s_shift, .bool s_back])] => some ((∀ i, i < p_gauges_n → p_gauges_g i = [.int .i64 ((ofGauge (p_gauges_g i)).edge.lo), .int .i64 ((ofGauge (p_gauges_g i)).edge.hi), .int .i64 ((ofGauge (p_gauges_g i)).across.lo), .int .i64 ((ofGauge (p_gauges_g i)).across.hi), .int .i64 ((ofGauge (p_gauges_g i)).bend)]) ∧ (∀ i, i < p_marks_n → p_marks_g i = [.int .i64 ((ofMark (p_marks_g i)).edge), .int .i64 ((ofMark (p_marks_g i)).place), .int .i64 ((ofMark (p_marks_g i)).tone)]) ∧ (∀ i, i < l_n → l_g i = [.int .i64 ((ofPt (l_g i)).x), .int .i64 ((ofPt (l_g i)).y)]) ∧ g_Fits_p (⟨p_id, p_colour, p_rev, p_made, p_swell, (⟨p_gauges_n, fun i => ofGauge (p_gauges_g i)⟩ : (L.Sq L.Gauge)), (⟨p_marks_n, fun i => ofMark (p_marks_g i)⟩ : (L.Sq L.Mark))⟩ : L.Piece) (⟨l_n, fun i => ofPt (l_g i)⟩ : (L.Sq L.Pt)) (⟨s_shift, s_back⟩ : L.Setting), g_Fits_r (⟨p_id, p_colour, p_rev, p_made, p_swell, (⟨p_gauges_n, fun i => ofGauge (p_gauges_g i)⟩ : (L.Sq L.Gauge)), (⟨p_marks_n, fun i => ofMark (p_marks_g i)⟩ : (L.Sq L.Mark))⟩ : L.Piece) (⟨l_n, fun i => ofPt (l_g i)⟩ : (L.Sq L.Pt)) (⟨s_shift, s_back⟩ : L.Setting))
  | _ => none
abbrev g_Fits_S : SE.Spec := (specO g_Fits_s)
def g_Fits_C : Cfg := { muts := [], frz := lookN [], specs := lookS [(47, g_ValidPiece_S), (32, p_ValidOutline_S), (103, p_ValidSetting_S), (108, g_fits_S)], loops := lookL [], iters := lookI [], rfs := lookR [], nils := lookM [] }
theorem g_Fits_vc (p : L.Piece) (l : (L.Sq L.Pt)) (s : L.Setting) (hp : g_Fits_p p l s) : vc Tryz.prog (g_Fits_C) (bodyOf Tryz.f48) (st0 Tryz.f48 [.p (.agg [.int .i64 p.id, .int .i64 p.colour, .int .i64 p.rev, .int .i64 p.made, .int .i64 p.swell, .sl 5 p.gauges.n (fun i => [.int .i64 ((p.gauges.g i).edge.lo), .int .i64 ((p.gauges.g i).edge.hi), .int .i64 ((p.gauges.g i).across.lo), .int .i64 ((p.gauges.g i).across.hi), .int .i64 ((p.gauges.g i).bend)]), .sl 3 p.marks.n (fun i => [.int .i64 ((p.marks.g i).edge), .int .i64 ((p.marks.g i).place), .int .i64 ((p.marks.g i).tone)])]), .p (.sl 2 l.n (fun i => [.int .i64 ((l.g i).x), .int .i64 ((l.g i).y)])), .p (.agg [.int .i64 s.shift, .bool s.back])]) (retFn Tryz.prog Tryz.f48 (g_Fits_r p l s)) :=
  @Eq.mpr _ (((∀ (i : Nat), i < p.gauges.n → [SV.int .i64 (p.gauges.g i).edge.lo, SV.int .i64 (p.gauges.g i).edge.hi, SV.int .i64 (p.gauges.g i).across.lo, SV.int .i64 (p.gauges.g i).across.hi, SV.int .i64 (p.gauges.g i).bend] = [SV.int .i64 (p.gauges.g i).edge.lo, SV.int .i64 (p.gauges.g i).edge.hi,
 SV.int .i64 (p.gauges.g i).across.lo, SV.int .i64 (p.gauges.g i).across.hi, SV.int .i64 (p.gauges.g i).bend]) ∧ (∀ (i : Nat), i < p.marks.n → [SV.int .i64 (p.marks.g i).edge, SV.int .i64 (p.marks.g i).place, SV.int .i64 (p.marks.g i).tone] = [SV.int .i64 (p.marks.g i).edge, SV.int
 .i64 (p.marks.g i).place, SV.int .i64 (p.marks.g i).tone]) ∧ p.gauges.n ≤ (1000000 : Nat) ∧ p.marks.n ≤ (1000000 : Nat)) ∧ ((!L.validPiece (L.Piece.mk p.id p.colour p.rev p.made p.swell (L.Sq.mk p.gauges.n fun (i : Nat) ↦ p.gauges.g i) (L.Sq.mk p.marks.n fun (i : Nat) ↦ p.marks.g i))) = true → false = L.fitsV p l s ∧ (30 : Int) = L.fitsE p l s) ∧ ((!L.validPiece
 (L.Piece.mk p.id p.colour p.rev p.made p.swell (L.Sq.mk p.gauges.n fun (i : Nat) ↦ p.gauges.g i) (L.Sq.mk p.marks.n fun (i : Nat) ↦ p.marks.g i))) = false → ((∀ (i : Nat), i < l.n → [SV.int .i64 (l.g i).x, SV.int .i64 (l.g i).y] = [SV.int .i64 (l.g i).x, SV.int .i64 (l.g i).y]) ∧ l.n ≤ (1000000 : Nat)) ∧ ((!!L.validOutline
 (L.Sq.mk l.n fun (i : Nat) ↦ l.g i)) = true → True) ∧ ((bif !L.validOutline (L.Sq.mk l.n fun (i : Nat) ↦ l.g i) then true else !L.validSet s (↑p.gauges.n : Int)) = true → false = L.fitsV p l s ∧ (1 : Int) = L.fitsE p l s) ∧ ((bif !L.validOutline (L.Sq.mk l.n fun (i : Nat) ↦ l.g i) then true else !L.validSet s (↑p.gauges.n : Int)) = false → ((∀ (i : Nat), i <
 p.gauges.n → [SV.int .i64 (p.gauges.g i).edge.lo, SV.int .i64 (p.gauges.g i).edge.hi, SV.int .i64 (p.gauges.g i).across.lo, SV.int .i64 (p.gauges.g i).across.hi, SV.int .i64 (p.gauges.g i).bend] = [SV.int .i64 (p.gauges.g i).edge.lo, SV.int .i64 (p.gauges.g i).edge.hi, SV.int
 .i64 (p.gauges.g i).across.lo, SV.int .i64 (p.gauges.g i).across.hi, SV.int .i64 (p.gauges.g i).bend]) ∧ (∀ (i : Nat), i < p.marks.n → [SV.int .i64 (p.marks.g i).edge, SV.int .i64 (p.marks.g i).place, SV.int .i64 (p.marks.g i).tone] = [SV.int .i64 (p.marks.g i).edge, SV.int
 .i64 (p.marks.g i).place, SV.int .i64 (p.marks.g i).tone]) ∧ (∀ (i : Nat), i < l.n → [SV.int .i64 (l.g i).x, SV.int .i64 (l.g i).y] = [SV.int .i64 (l.g i).x, SV.int .i64 (l.g i).y]) ∧ L.fitP (L.Piece.mk p.id p.colour p.rev p.made p.swell (L.Sq.mk p.gauges.n fun (i : Nat) ↦ p.gauges.g i) (L.Sq.mk p.marks.n fun
 (i : Nat) ↦ p.marks.g i)) (L.Sq.mk l.n fun (i : Nat) ↦ l.g i) s) ∧ L.fits (L.Piece.mk p.id p.colour p.rev p.made p.swell (L.Sq.mk p.gauges.n fun (i : Nat) ↦ p.gauges.g i) (L.Sq.mk p.marks.n fun (i : Nat) ↦ p.marks.g i)) (L.Sq.mk l.n fun (i : Nat) ↦ l.g i) s = L.fitsV p l s ∧ (0 : Int) = L.fitsE p l s))) (by kernel_rfl) (by
    obtain ⟨h1, h2, h3⟩ := hp
    refine ⟨⟨fun _ _ => rfl, fun _ _ => rfl, h1, h2⟩, fun h => ?_, fun h => ⟨⟨fun _ _ => rfl, h3⟩, fun _ => trivial, fun h4 => ?_, fun h4 => ?_⟩⟩
    · have hv : L.validPiece p = false := notT h
      have e : L.fitsE p l s = 30 := by unfold L.fitsE; rw [hv]; rfl
      unfold L.fitsV; rw [e]; exact ⟨rfl, rfl⟩
    · have hv : L.validPiece p = true := notF h
      have h4 : (bif !L.validOutline l then true else !L.validSet s p.gauges.n) = true := h4
      have e : L.fitsE p l s = 1 := by unfold L.fitsE; rw [hv, h4]; rfl
      unfold L.fitsV; rw [e]; exact ⟨rfl, rfl⟩
    · have hv : L.validPiece p = true := notF h
      have h4 : (bif !L.validOutline l then true else !L.validSet s p.gauges.n) = false := h4
      have e : L.fitsE p l s = 0 := by unfold L.fitsE; rw [hv, h4]; rfl
      rw [bor, Bool.or_eq_false_iff] at h4
      have hs := validSet_iff.1 (notF h4.2)
      refine ⟨⟨fun _ _ => rfl, fun _ _ => rfl, fun _ _ => rfl, notF h4.1, piece_gauges hv, hs.2.1, hs.2.2⟩, ?_, e.symm⟩
      unfold L.fitsV; rw [e]; rfl)
theorem g_Fits_ok : SpecOk Tryz.prog 48 g_Fits_S := fnX Tryz.func48 (c := bodyOf Tryz.f48) (by kernel_rfl) mixed (fun args p r hs hp => by
  unfold g_Fits_s at hs
  split at hs
  · cases hs; exact ⟨_, _, g_Fits_vc _ _ _ hp.2.2.2, (.p (.agg rfl (fun i hi => by
      rcases i with _ | i
      · exact (Ext.refl _ : Ext _ _)
      rcases i with _ | i
      · exact (Ext.refl _ : Ext _ _)
      rcases i with _ | i
      · exact (Ext.refl _ : Ext _ _)
      rcases i with _ | i
      · exact (Ext.refl _ : Ext _ _)
      rcases i with _ | i
      · exact (Ext.refl _ : Ext _ _)
      rcases i with _ | i
      · exact (Ext.sl hp.1 : Ext _ _)
      rcases i with _ | i
      · exact (Ext.sl hp.2.1 : Ext _ _)
      exact absurd hi (by simp; try omega))) (.p (.sl hp.2.2.1) (.same _ .nil))), ⟨show SpecsL Tryz.prog _ from (SpecsL.cons g_ValidPiece_ok g_ValidPiece_en (SpecsL.cons p_ValidOutline_ok p_ValidOutline_en (SpecsL.cons p_ValidSetting_ok p_ValidSetting_en (SpecsL.cons g_fits_ok g_fits_en SpecsL.nil)))), rfl, ⟨show ItersL Tryz.prog _ from ItersL.nil, (TrsOk.none (fun _ => rfl))⟩⟩⟩
  · cases hs)
theorem g_Fits_en : Enters Tryz.prog 48 := fun args w => by kernel_rfl
end Go.Proofs.YtooapgllahonaaaGreat

namespace Go.Proofs.YtooapgllahonaaaGreat
open Go.SE Go.RowKit
set_option maxRecDepth 100000
set_option maxHeartbeats 4000000
set_option linter.unusedVariables false
attribute [local irreducible] vc

theorem isortMk_congr {l1 l2 : List L.Mark} (h : l1.Perm l2) : L.isortMk l1 = L.isortMk l2 :=
  List.Perm.eq_of_pairwise (le := L.leMk) (fun a b _ _ => leMk_anti) (isortMk_asc _) (isortMk_asc _) ((isortMk_perm _).trans (h.trans (isortMk_perm _).symm))
theorem isortMk_id {l : List L.Mark} (h : l.Pairwise L.leMk) : L.isortMk l = l :=
  List.Perm.eq_of_pairwise (le := L.leMk) (fun a b _ _ => leMk_anti) (isortMk_asc _) h (isortMk_perm _)
theorem list_sortM (l : L.Sq L.Mark) : L.listMk (L.sortM l) = L.isortMk (L.listMk l) := by
  have hl : (L.isortMk (L.listMk l)).length = l.n := by rw [(isortMk_perm _).length_eq]; simp [L.listMk]
  refine List.ext_getElem (by rw [hl]; simp [L.listMk, L.sortM]) fun k h1 h2 => ?_
  have hk : k < l.n := by rw [hl] at h2; exact h2
  have hh : (L.listMk (L.sortM l))[k] = (L.sortM l).g k := by simp [L.listMk]
  rw [hh]
  show (L.isortMk (L.listMk l)).getD k ⟨0, 0, 0⟩ = _
  rw [List.getD_eq_getElem?_getD, List.getElem?_eq_getElem (by rw [hl]; exact hk)]
  rfl
theorem list_rsMs (l : L.Sq L.Mark) (s : L.Setting) (n : Nat) : L.listMk (L.rsMs l s n) = (L.listMk l).map (L.rsM1 s n) := by
  unfold L.listMk L.rsMs
  rw [List.map_map]; rfl
theorem mem_listMk {l : L.Sq L.Mark} {m : L.Mark} : m ∈ L.listMk l ↔ ∃ k, k < l.n ∧ l.g k = m := by
  unfold L.listMk
  rw [List.mem_map]
  exact ⟨fun ⟨k, h1, h2⟩ => ⟨k, List.mem_range.1 h1, h2⟩, fun ⟨k, h1, h2⟩ => ⟨k, List.mem_range.2 h1, h2⟩⟩
theorem rsM1_comp {s t : L.Setting} {n : Nat} {m : L.Mark} (hs : L.validSet s n = true) (ht : L.validSet t n = true) (h0 : 0 ≤ m.edge) (h1 : m.edge < n) : L.rsM1 t n (L.rsM1 s n m) = L.rsM1 (L.comp s t n) n m := by
  obtain ⟨e, _, _⟩ := lay_comp hs ht h0 h1
  obtain ⟨_, ec, _⟩ := comp_ok hs ht
  have eb : (L.comp s t n).back = !(s.back == t.back) := by rw [ec]
  refine mk_ext e ?_ rfl
  show (bif t.back then 16 - (bif s.back then 16 - m.place else m.place) else (bif s.back then 16 - m.place else m.place)) = (bif (L.comp s t n).back then 16 - m.place else m.place)
  rw [eb]
  cases s.back <;> cases t.back <;> simp <;> omega
theorem marks_comp {l : L.Sq L.Mark} {s t : L.Setting} {n : Nat} (hs : L.validSet s n = true) (ht : L.validSet t n = true) (h : ∀ k, k < l.n → 0 ≤ (l.g k).edge ∧ (l.g k).edge < n) : L.listMk (L.sortM (L.rsMs (L.sortM (L.rsMs l s n)) t n)) = L.listMk (L.sortM (L.rsMs l (L.comp s t n) n)) := by
  rw [list_sortM, list_sortM, list_rsMs, list_sortM, list_rsMs, list_rsMs]
  refine isortMk_congr (((isortMk_perm _).map _).trans ?_)
  rw [List.map_map]
  have : (L.listMk l).map (L.rsM1 t n ∘ L.rsM1 s n) = (L.listMk l).map (L.rsM1 (L.comp s t n) n) := List.map_congr_left fun m hm => by
    obtain ⟨k, hk, rfl⟩ := mem_listMk.1 hm
    exact rsM1_comp hs ht (h k hk).1 (h k hk).2
  rw [this]
theorem sortM_list {a b : L.Sq L.Mark} (h : L.listMk (L.sortM a) = L.listMk (L.sortM b)) : ∀ k, (L.sortM a).g k = (L.sortM b).g k := fun k => by
  rw [list_sortM, list_sortM] at h
  show (L.isortMk (L.listMk a)).getD k _ = (L.isortMk (L.listMk b)).getD k _
  rw [h]
theorem prev_int {n k : Nat} (hn : 0 < n) : ((L.prev n k : Nat) : Int) = ((k : Int) - 1) % n := by
  have h0 : 0 ≤ Int.tmod ((k : Int) + n - 1) n := Int.tmod_nonneg _ (by omega)
  unfold L.prev
  rw [Int.toNat_of_nonneg h0, Int.tmod_eq_emod_of_nonneg (by omega), show (k : Int) + n - 1 = (k : Int) - 1 + n by omega, Int.add_emod_right]
theorem prevI_lt {n k : Nat} (hn : 0 < n) : L.prev n k < n := by
  have := prev_int (n := n) (k := k) hn
  have := Int.emod_lt_of_pos ((k : Int) - 1) (show (0 : Int) < n by omega)
  omega
theorem rsI_int {s : L.Setting} {n j : Nat} (hs : L.validSet s n = true) (hj : j < n) : ((L.rsI s n j : Nat) : Int) = (L.sg s.back * ((j : Int) - s.shift)) % n := by
  have v := validSet_iff.1 hs
  have i := validSet_iff.1 (inv_ok hs).2.1
  have e := lay_lin (s := L.inv s n) (n := n) (i := j) i.2.1 i.2.2 (by omega) (by omega)
  have h0 : 0 ≤ L.lay (L.inv s n) n j := by rw [e]; exact Int.emod_nonneg _ (by omega)
  unfold L.rsI
  rw [Int.toNat_of_nonneg h0, e]
  have hi : L.inv s n = bif s.back then s else ⟨Int.tmod (n - s.shift) n, false⟩ := by unfold L.inv; rw [hs]; rfl
  rw [hi]
  unfold L.sg
  cases hb : s.back with
  | true =>
    rw [cond_true, hb, cond_true]
    congr 1; omega
  | false =>
    simp only [cond_false]
    rw [Int.tmod_eq_emod_of_nonneg (by omega), Int.emod_add_emod, show (n : Int) - s.shift + 1 * j = 1 * ((j : Int) - s.shift) + n by omega, Int.add_emod_right]
theorem rsI_prev {s : L.Setting} {n j : Nat} (hs : L.validSet s n = true) (hj : j < n) : s.back = false → L.rsI s n (L.prev n j) = L.prev n (L.rsI s n j) := fun hb => by
  have hn : 0 < n := by omega
  have h1 := rsI_int hs (prevI_lt (k := j) hn)
  have h2 := rsI_int hs hj
  have h3 := prev_int (n := n) (k := L.rsI s n j) hn
  rw [prev_int hn, hb] at h1
  rw [h2, hb] at h3
  unfold L.sg at h1 h3
  rw [cond_false, Int.one_mul, Int.emod_sub_emod] at h1
  rw [cond_false, Int.one_mul, Int.emod_sub_emod] at h3
  rw [show (j : Int) - 1 - s.shift = (j : Int) - s.shift - 1 by omega, ← h3] at h1
  omega
theorem rsI_prev2 {s : L.Setting} {n j : Nat} (hs : L.validSet s n = true) (hj : j < n) : s.back = true → L.prev n (L.rsI s n (L.prev n j)) = L.rsI s n j := fun hb => by
  have hn : 0 < n := by omega
  have h1 := rsI_int hs (prevI_lt (k := j) hn)
  have h2 := rsI_int hs hj
  have h3 := prev_int (n := n) (k := L.rsI s n (L.prev n j)) hn
  rw [prev_int hn, hb] at h1
  rw [h1] at h3
  rw [hb] at h2
  unfold L.sg at h2 h3
  rw [cond_true] at h2 h3
  rw [Int.emod_sub_emod, show -1 * (((j : Int) - 1) % n - s.shift) - 1 = s.shift - 1 + -1 * (((j : Int) - 1) % n) by omega, emod_lin, show s.shift - 1 + -1 * ((j : Int) - 1) = -1 * ((j : Int) - s.shift) by omega, ← h2] at h3
  omega
theorem rsI_comp {s t : L.Setting} {n j : Nat} (hs : L.validSet s n = true) (ht : L.validSet t n = true) (hj : j < n) : L.rsI (L.comp s t n) n j = L.rsI s n (L.rsI t n j) := by
  obtain ⟨a1, a2⟩ := lay_rsI ht hj
  obtain ⟨b1, b2⟩ := lay_rsI hs a1
  obtain ⟨e, c1, c2⟩ := lay_comp hs ht (i := ((L.rsI s n (L.rsI t n j) : Nat) : Int)) (by omega) (by omega)
  rw [b2, a2] at e
  have := (rsI_lay (s := L.comp s t n) (comp_ok hs ht).2.2 b1).2.2
  rw [← e, Int.toNat_natCast] at this
  exact this
theorem rsG_comp {p : L.Piece} {s t : L.Setting} (hs : L.validSet s p.gauges.n = true) (ht : L.validSet t p.gauges.n = true) {j : Nat} (hj : j < p.gauges.n) : (L.rs (L.rs p s) t).gauges.g j = (L.rs p (L.comp s t p.gauges.n)).gauges.g j := by
  show L.rsG1 (L.rs p s) t (L.rsI t p.gauges.n j) = L.rsG1 p (L.comp s t p.gauges.n) (L.rsI (L.comp s t p.gauges.n) p.gauges.n j)
  have hn : 0 < p.gauges.n := by omega
  rw [rsI_comp hs ht hj]
  obtain ⟨a1, _⟩ := lay_rsI ht hj
  generalize L.rsI t p.gauges.n j = i at a1
  have eb : (L.comp s t p.gauges.n).back = !(s.back == t.back) := by rw [(comp_ok hs ht).2.1]
  have G : ∀ q, (L.rs p s).gauges.g q = L.rsG1 p s (L.rsI s p.gauges.n q) := fun q => rfl
  have gn : (L.rs p s).gauges.n = p.gauges.n := rfl
  unfold L.rsG1
  rw [gn, G, G, eb]
  unfold L.rsG1
  cases hb : s.back with
  | false =>
    have h1 := rsI_prev hs a1 hb
    cases t.back with
    | false => rfl
    | true => simp only [cond_true, cond_false]; rw [h1]; rfl
  | true =>
    have h1 := rsI_prev2 hs a1 hb
    cases t.back with
    | false => rfl
    | true => simp only [cond_true]; rw [h1]; rfl
theorem sameGs_of {a b : L.Sq L.Gauge} (hn : a.n = b.n) (h : ∀ k, k < b.n → a.g k = b.g k) : L.sameGs a b = true := by
  unfold L.sameGs
  rw [hn, decide_eq_true rfl]
  exact allB_iff.2 fun i hi => by
    have := h i hi
    show L.sameG (a.g i) (b.g i) = true
    rw [this]; exact sameG_refl _
theorem sameMs_of {a b : L.Sq L.Mark} (hn : a.n = b.n) (h : ∀ k, k < b.n → a.g k = b.g k) : L.sameMs a b = true := by
  unfold L.sameMs
  rw [hn, decide_eq_true rfl]
  exact allB_iff.2 fun i hi => by
    have := h i hi
    show L.sameM (a.g i) (b.g i) = true
    rw [this]; exact sameM_refl _
theorem samePc_of {a b : L.Piece} (h1 : a.id = b.id) (h2 : a.colour = b.colour) (h3 : a.rev = b.rev) (h4 : a.made = b.made) (h5 : a.swell = b.swell) (h6 : L.sameGs a.gauges b.gauges = true) (h7 : L.sameMs a.marks b.marks = true) : L.samePc a b = true := by
  unfold L.samePc
  rw [decide_eq_true h1, decide_eq_true h2, decide_eq_true h3, decide_eq_true h4, decide_eq_true h5, h6, h7]; rfl
theorem rs_comp {p : L.Piece} {s t : L.Setting} (hv : L.validPiece p = true) (hs : L.validSet s p.gauges.n = true) (ht : L.validSet t p.gauges.n = true) : L.samePc (L.rs (L.rs p s) t) (L.rs p (L.comp s t p.gauges.n)) = true := by
  obtain ⟨_, _, hm⟩ := piece_of hv
  have hmk := marks_in hm
  have eb : (L.comp s t p.gauges.n).back = !(s.back == t.back) := by rw [(comp_ok hs ht).2.1]
  refine samePc_of rfl ?_ ?_ rfl rfl (sameGs_of rfl fun k hk => rsG_comp hs ht hk) (sameMs_of rfl fun k _ => sortM_list (a := L.rsMs (L.sortM (L.rsMs p.marks s p.gauges.n)) t p.gauges.n) (b := L.rsMs p.marks (L.comp s t p.gauges.n) p.gauges.n) (marks_comp hs ht fun k hk => (hmk.2 k hk).1) k)
  · unfold L.rs
    dsimp only
    rw [eb]
    cases s.back <;> cases t.back <;> rfl
  · unfold L.rs
    dsimp only
    rw [eb]
    cases s.back <;> cases t.back <;> rfl
theorem marks_asc {l : L.Sq L.Mark} {n : Int} (h : L.vMarks l n = true) : (L.listMk l).Pairwise (fun a b => L.cmpMark a b < 0) := by
  have step : ∀ i, i + 1 < l.n → L.cmpMark (l.g i) (l.g (i + 1)) < 0 := fun i hi => by
    unfold L.vMarks L.marks at h
    simp only [band, Bool.and_eq_true, decide_eq_true_eq, allB_iff] at h
    have h2 := h.2.2 (i + 1) hi
    unfold L.mark1 at h2
    rw [cmpMark_lt]
    have e : (0 : Int) < ((i + 1 : Nat) : Int) := by omega
    simp only [band, bor, Bool.and_eq_true, Bool.or_eq_true, Bool.not_eq_true', decide_eq_true e] at h2
    simpa using h2.2
  have far : ∀ d i, i + d + 1 < l.n → L.cmpMark (l.g i) (l.g (i + d + 1)) < 0 := by
    intro d
    induction d with
    | zero => exact step
    | succ d ih =>
      intro i hi
      have a := ih i (by omega)
      have b := step (i + d + 1) (by omega)
      rw [show i + (d + 1) + 1 = i + d + 1 + 1 by omega]
      rw [cmpMk_lt] at a b ⊢
      omega
  unfold L.listMk
  rw [List.pairwise_iff_getElem]
  intro i j hi hj hij
  simp only [List.getElem_map, List.getElem_range]
  have hj : j < l.n := by simpa using hj
  have := far (j - i - 1) i (by omega)
  rwa [show i + (j - i - 1) + 1 = j by omega] at this
theorem rs_one {p : L.Piece} (hv : L.validPiece p = true) : L.samePc (L.rs p L.one) p = true := by
  obtain ⟨_, hg, hm⟩ := piece_of hv
  have hgn := gauges_n hg
  have hmk := marks_in hm
  have hone : L.validSet L.one p.gauges.n = true := validSet_iff.2 ⟨⟨by omega, by omega⟩, Int.le_refl _, by show (0 : Int) < p.gauges.n; omega⟩
  refine samePc_of rfl rfl rfl rfl rfl (sameGs_of rfl fun k hk => ?_) (sameMs_of rfl fun k hk => ?_)
  · show L.rsG1 p L.one (L.rsI L.one p.gauges.n k) = p.gauges.g k
    have := rsI_int hone hk
    have e : L.sg L.one.back * ((k : Int) - L.one.shift) = (k : Int) := by show 1 * ((k : Int) - 0) = k; omega
    rw [e, Int.emod_eq_of_lt (by omega) (by omega)] at this
    have : L.rsI L.one p.gauges.n k = k := by omega
    rw [this]; rfl
  · have e : L.listMk (L.rsMs p.marks L.one p.gauges.n) = L.listMk p.marks := by
      rw [list_rsMs]
      refine (List.map_congr_left fun m hm => ?_).trans (List.map_id _)
      obtain ⟨q, hq, rfl⟩ := mem_listMk.1 hm
      have := (hmk.2 q hq).1
      exact mk_ext (lay_one this.1 this.2) rfl rfl
    have e2 : L.isortMk (L.listMk p.marks) = L.listMk p.marks := isortMk_id ((marks_asc hm).imp fun h => leMk_of_lt h)
    have hk : k < p.marks.n := hk
    show (L.isortMk (L.listMk (L.rsMs p.marks L.one p.gauges.n))).getD k ⟨0, 0, 0⟩ = p.marks.g k
    rw [e, e2]
    unfold L.listMk
    rw [List.getD_eq_getElem?_getD, List.getElem?_eq_getElem (by simpa using hk)]
    simp
end Go.Proofs.YtooapgllahonaaaGreat

namespace Go.Proofs.YtooapgllahonaaaGreat
open Go.SE Go.RowKit
set_option maxRecDepth 100000
set_option maxHeartbeats 4000000
set_option linter.unusedVariables false
attribute [local irreducible] vc

theorem rsM1_inj {s : L.Setting} {n : Nat} {a b : L.Mark} (hs : L.validSet s n = true) (a0 : 0 ≤ a.edge) (a1 : a.edge < n) (b0 : 0 ≤ b.edge) (b1 : b.edge < n) (h : L.rsM1 s n a = L.rsM1 s n b) : a = b := by
  have i := inv_ok hs
  have e1 := rsM1_comp hs i.2.1 a0 a1
  have e2 := rsM1_comp hs i.2.1 b0 b1
  rw [h, e2, i.2.2] at e1
  have one : ∀ m : L.Mark, 0 ≤ m.edge → m.edge < n → L.rsM1 L.one n m = m := fun m h0 h1 => mk_ext (lay_one h0 h1) rfl rfl
  rw [one a a0 a1, one b b0 b1] at e1
  exact e1.symm
theorem rs_marks {p : L.Piece} {s : L.Setting} (hv : L.validPiece p = true) (hs : L.validSet s p.gauges.n = true) : L.vMarks (L.rs p s).marks p.gauges.n = true := by
  obtain ⟨_, hg, hm⟩ := piece_of hv
  have hmk := marks_in hm
  have hasc := marks_asc hm
  have hL : L.listMk (L.rs p s).marks = L.isortMk ((L.listMk p.marks).map (L.rsM1 s p.gauges.n)) := by
    show L.listMk (L.sortM (L.rsMs p.marks s p.gauges.n)) = _
    rw [list_sortM, list_rsMs]
  have hn : (L.rs p s).marks.n = p.marks.n := rfl
  have hnd : (L.listMk (L.rs p s).marks).Pairwise (fun a b => a ≠ b) := by
    rw [hL]
    refine ((isortMk_perm _).pairwise_iff (fun {a b} h e => h e.symm)).2 ?_
    rw [List.pairwise_map]
    refine hasc.imp_of_mem fun {a b} ha hb h e => ?_
    obtain ⟨i, hi, rfl⟩ := mem_listMk.1 ha
    obtain ⟨j, hj, rfl⟩ := mem_listMk.1 hb
    have := rsM1_inj hs (hmk.2 i hi).1.1 (hmk.2 i hi).1.2 (hmk.2 j hj).1.1 (hmk.2 j hj).1.2 e
    rw [this, cmpMk_lt] at h
    omega
  have hle : (L.listMk (L.rs p s).marks).Pairwise L.leMk := by rw [hL]; exact isortMk_asc _
  have hlt : ∀ i, i + 1 < p.marks.n → L.cmpMark ((L.rs p s).marks.g i) ((L.rs p s).marks.g (i + 1)) < 0 := fun i hi => by
    have h1 := List.pairwise_iff_getElem.1 hle i (i + 1) (by simp [L.listMk, hn]; omega) (by simp [L.listMk, hn]; omega) (Nat.lt_succ_self i)
    have h2 := List.pairwise_iff_getElem.1 hnd i (i + 1) (by simp [L.listMk, hn]; omega) (by simp [L.listMk, hn]; omega) (Nat.lt_succ_self i)
    simp only [L.listMk, List.getElem_map, List.getElem_range] at h1 h2
    unfold L.leMk at h1
    rw [cmpMk_le] at h1
    rw [cmpMk_lt]
    have h3 : ¬ (((L.rs p s).marks.g i).edge = ((L.rs p s).marks.g (i + 1)).edge ∧ ((L.rs p s).marks.g i).place = ((L.rs p s).marks.g (i + 1)).place ∧ ((L.rs p s).marks.g i).tone = ((L.rs p s).marks.g (i + 1)).tone) := fun h => h2 (mk_ext h.1 h.2.1 h.2.2)
    omega
  have hin : ∀ i, i < p.marks.n → ∃ q, q < p.marks.n ∧ (L.rs p s).marks.g i = L.rsM1 s p.gauges.n (p.marks.g q) := fun i hi => by
    have h1 : (L.rs p s).marks.g i ∈ L.listMk (L.rs p s).marks := mem_listMk.2 ⟨i, hi, rfl⟩
    rw [hL] at h1
    obtain ⟨m, h2, h3⟩ := List.mem_map.1 ((isortMk_perm _).mem_iff.1 h1)
    obtain ⟨q, h4, rfl⟩ := mem_listMk.1 h2
    exact ⟨q, h4, h3.symm⟩
  unfold L.vMarks L.marks L.edges
  simp only [band, Bool.and_eq_true, decide_eq_true_eq, allB_iff]
  refine ⟨fun i hi => ?_, by rw [hn]; omega, fun i hi => ?_⟩
  · obtain ⟨q, h1, h2⟩ := hin i hi
    have m := hmk.2 q h1
    obtain ⟨_, a, b⟩ := lay_comp hs hs m.1.1 m.1.2
    rw [h2]
    exact within_iff.2 ⟨a, by show L.lay s p.gauges.n (p.marks.g q).edge ≤ _; omega⟩
  · obtain ⟨q, h1, h2⟩ := hin i hi
    have m := (hmk.2 q h1).2
    unfold L.mark1
    rw [Bool.and_eq_true, Bool.and_eq_true]
    refine ⟨⟨?_, ?_⟩, ?_⟩
    · rw [h2]
      show L.within (bif s.back then 16 - (p.marks.g q).place else (p.marks.g q).place) 0 16 = true
      refine within_iff.2 ?_
      cases s.back
      · exact m.1
      · rw [cond_true]; omega
    · rw [h2]
      exact within_iff.2 m.2
    · by_cases h0 : 0 < i
      · rw [decide_eq_true h0, cond_true, ← cmpMark_lt]
        have := hlt (i - 1) (by rw [hn] at hi; omega)
        rwa [show i - 1 + 1 = i by omega] at this
      · rw [decide_eq_false h0]; rfl
theorem gauge_in {l : L.Sq L.Gauge} (h : L.gauges l = true) : ∀ i, i < l.n → L.vGauge (l.g i) = true := by
  unfold L.gauges at h
  rw [band, Bool.and_eq_true, allB_iff] at h
  exact h.2
theorem rs_valid {p : L.Piece} {s : L.Setting} (hv : L.validPiece p = true) (hs : L.validSet s p.gauges.n = true) : L.validPiece (L.rs p s) = true := by
  obtain ⟨hnum, hg, hm⟩ := piece_of hv
  have hgn := gauges_n hg
  have hgi := gauge_in hg
  have hn0 : 0 < p.gauges.n := by omega
  have w1 : L.nums (L.rs p s) = true := by
    unfold L.nums at hnum ⊢
    simp only [band, Bool.and_eq_true] at hnum ⊢
    obtain ⟨⟨⟨⟨a, b⟩, c⟩, d⟩, e⟩ := hnum
    refine ⟨⟨⟨⟨a, ?_⟩, ?_⟩, d⟩, e⟩
    · show L.within (bif s.back then p.rev else p.colour) 1 16 = true
      cases s.back
      · exact b
      · exact c
    · show L.within (bif s.back then p.colour else p.rev) 1 16 = true
      cases s.back
      · exact c
      · exact b
  have w2 : L.gauges (L.rs p s).gauges = true := by
    unfold L.gauges
    rw [band, Bool.and_eq_true, allB_iff]
    refine ⟨within_iff.2 (show 3 ≤ (p.gauges.n : Int) ∧ (p.gauges.n : Int) ≤ 24 by omega), fun j hj => ?_⟩
    show L.vGauge (L.rsG1 p s (L.rsI s p.gauges.n j)) = true
    have h1 := hgi _ (rsI_lt s hn0 j)
    have h2 := hgi _ (prevI_lt (k := L.rsI s p.gauges.n j) hn0)
    unfold L.rsG1
    cases s.back with
    | false => exact h1
    | true =>
      unfold L.vGauge at h1 h2 ⊢
      simp only [band, Bool.and_eq_true, cond_true] at h1 h2 ⊢
      exact ⟨⟨h1.1.1, h2.1.2⟩, h2.2⟩
  unfold L.validPiece
  rw [w1, w2, show (L.rs p s).gauges.n = p.gauges.n from rfl, rs_marks hv hs]; rfl
def L.mB (l : L.Sq L.Pt) (x : Int) : L.Meas := ⟨L.dist (l.g (L.ix l.n x)) (l.g (L.ix l.n (x + 1))), L.dist (l.g (L.ix l.n (x - 1))) (l.g (L.ix l.n (x + 1))), L.bendR l x⟩
def L.mF (l : L.Sq L.Pt) (x : Int) : L.Meas := ⟨L.dist (l.g (L.ix l.n x)) (l.g (L.ix l.n (x + 1))), L.dist (l.g (L.ix l.n x)) (l.g (L.ix l.n (x + 2))), L.bendR l (x + 1)⟩
theorem measR_is (l : L.Sq L.Pt) (s : L.Setting) (a : Int) : L.measR l s a = bif s.back then L.mB l (s.shift - a) else L.mF l (s.shift + a) := by
  unfold L.measR
  cases s.back <;> rfl
theorem ix_0 {n : Nat} {x y : Int} (hn : 0 < n) (h : x % (n : Int) = y % (n : Int)) : L.ix n x = L.ix n y := by
  have := ix_congr hn h 0
  rwa [Int.add_zero, Int.add_zero] at this
theorem bendR_mod {l : L.Sq L.Pt} {x y : Int} (hn : 0 < l.n) (h : x % (l.n : Int) = y % (l.n : Int)) (c : Int) : L.bendR l (x + c) = L.bendR l (y + c) := by
  unfold L.bendR
  rw [show x + c - 1 = x + (c - 1) by omega, show y + c - 1 = y + (c - 1) by omega, show x + c + 1 = x + (c + 1) by omega, show y + c + 1 = y + (c + 1) by omega, ix_congr hn h, ix_congr hn h, ix_congr hn h]
theorem mB_mod {l : L.Sq L.Pt} {x y : Int} (hn : 0 < l.n) (h : x % (l.n : Int) = y % (l.n : Int)) : L.mB l x = L.mB l y := by
  unfold L.mB
  have := bendR_mod hn h 0
  rw [Int.add_zero, Int.add_zero] at this
  rw [ix_0 hn h, ix_congr hn h, show x - 1 = x + -1 by omega, show y - 1 = y + -1 by omega, ix_congr hn h, this]
theorem mF_mod {l : L.Sq L.Pt} {x y : Int} (hn : 0 < l.n) (h : x % (l.n : Int) = y % (l.n : Int)) : L.mF l x = L.mF l y := by
  unfold L.mF
  rw [ix_0 hn h, ix_congr hn h, ix_congr hn h, bendR_mod hn h]
theorem mB_next (l : L.Sq L.Pt) (x : Int) : (L.mB l (x + 1)).across = (L.mF l x).across ∧ (L.mB l (x + 1)).bend = (L.mF l x).bend := by
  unfold L.mB L.mF
  dsimp only
  rw [show x + 1 - 1 = x by omega, show x + 1 + 1 = x + 2 by omega]
  exact ⟨rfl, rfl⟩
theorem measR_mod {l : L.Sq L.Pt} {s : L.Setting} {a b : Int} (hn : 0 < l.n) (h : a % (l.n : Int) = b % (l.n : Int)) : L.measR l s a = L.measR l s b := by
  rw [measR_is, measR_is]
  cases s.back with
  | false => exact mF_mod hn (by rw [Int.add_emod, h, ← Int.add_emod])
  | true => exact mB_mod hn (by rw [Int.sub_emod, h, ← Int.sub_emod])
theorem meas_comp {l : L.Sq L.Pt} {s t : L.Setting} (hn : 0 < l.n) (hs : L.validSet s l.n = true) (ht : L.validSet t l.n = true) (a : Int) : (L.measR l t (s.shift + L.sg s.back * a)).edge = (L.measR l (L.comp s t l.n) a).edge ∧
    (L.measR l t (s.shift + L.sg s.back * a)).across = (L.measR l (L.comp s t l.n) (bif s.back then a - 1 else a)).across ∧ (L.measR l t (s.shift + L.sg s.back * a)).bend = (L.measR l (L.comp s t l.n) (bif s.back then a - 1 else a)).bend := by
  obtain ⟨_, ec, _⟩ := comp_ok hs ht
  have k : ∀ a b : Bool, (!(a == b)) = (bif a then !b else b) := fun a b => by cases a <;> cases b <;> rfl
  rw [ec, measR_is, measR_is, measR_is, k]
  dsimp only
  have F : ∀ x y : Int, x % (l.n : Int) = y % (l.n : Int) → ∀ c : Int, L.mF l (x + c) = L.mF l (y + c) := fun x y h c => mF_mod hn (by rw [Int.add_emod, h, ← Int.add_emod])
  have B : ∀ x y : Int, x % (l.n : Int) = y % (l.n : Int) → ∀ c : Int, L.mB l (x + c) = L.mB l (y + c) := fun x y h c => mB_mod hn (by rw [Int.add_emod, h, ← Int.add_emod])
  have E : ((t.shift + L.sg t.back * s.shift) % (l.n : Int)) % (l.n : Int) = (t.shift + L.sg t.back * s.shift) % (l.n : Int) := Int.emod_emod _ _
  cases hs1 : s.back <;> cases ht1 : t.back <;> rw [ht1] at E <;> simp only [L.sg, cond_true, cond_false, Bool.not_false, Bool.not_true] at E ⊢
  · rw [F _ _ E a, show t.shift + (s.shift + 1 * a) = t.shift + 1 * s.shift + a by omega]
    exact ⟨rfl, rfl, rfl⟩
  · have := B _ _ E (-a)
    rw [show ∀ x : Int, x - a = x + -a from fun x => by omega, this, show t.shift - (s.shift + 1 * a) = t.shift + -1 * s.shift + -a by omega]
    exact ⟨rfl, rfl, rfl⟩
  · have h1 := B _ _ E (-a)
    have h2 := B _ _ E (-a + 1)
    rw [show ∀ x : Int, x - a = x + -a from fun x => by omega, show ∀ x : Int, x - (a - 1) = x + (-a + 1) from fun x => by omega, h1, h2, show t.shift + (s.shift + -1 * a) = t.shift + 1 * s.shift + -a by omega, show t.shift + 1 * s.shift + (-a + 1) = t.shift + 1 * s.shift + -a + 1 by omega]
    have h3 := mB_next l (t.shift + 1 * s.shift + -a)
    exact ⟨rfl, h3.1.symm, h3.2.symm⟩
  · have h1 := F _ _ E a
    have h2 := F _ _ E (a - 1)
    rw [h1, h2, show t.shift - (s.shift + -1 * a) = t.shift + -1 * s.shift + (a - 1) + 1 by omega, show t.shift + -1 * s.shift + a = t.shift + -1 * s.shift + (a - 1) + 1 by omega]
    have h3 := mB_next l (t.shift + -1 * s.shift + (a - 1))
    exact ⟨rfl, h3.1, h3.2⟩
end Go.Proofs.YtooapgllahonaaaGreat

namespace Go.Proofs.YtooapgllahonaaaGreat
open Go.SE Go.RowKit
set_option maxRecDepth 100000
set_option maxHeartbeats 4000000
set_option linter.unusedVariables false
attribute [local irreducible] vc

def L.pE (p : L.Piece) (l : L.Sq L.Pt) (s : L.Setting) (i : Nat) : Prop := L.within (L.measR l s i).edge (p.gauges.g i).edge.lo (p.gauges.g i).edge.hi = true
def L.pA (p : L.Piece) (l : L.Sq L.Pt) (s : L.Setting) (i : Nat) : Prop := L.within (L.measR l s i).across (p.gauges.g i).across.lo (p.gauges.g i).across.hi = true ∧ ((p.gauges.g i).bend = 0 ∨ (p.gauges.g i).bend = (L.measR l s i).bend)
theorem holds_iff {g : L.Gauge} {m : L.Meas} : L.holdsR g m = true ↔ L.within m.edge g.edge.lo g.edge.hi = true ∧ L.within m.across g.across.lo g.across.hi = true ∧ (g.bend = 0 ∨ g.bend = m.bend) := by
  unfold L.holdsR
  rw [band, band, bor, Bool.and_eq_true, Bool.and_eq_true, Bool.or_eq_true, decide_eq_true_eq, decide_eq_true_eq, and_assoc]
theorem holds_rs {p : L.Piece} {l : L.Sq L.Pt} {s t : L.Setting} (hn : l.n = p.gauges.n) (hs : L.validSet s p.gauges.n = true) (ht : L.validSet t p.gauges.n = true) {i : Nat} (hi : i < p.gauges.n) : L.holdsR (L.rsG1 p s i) (L.measR l t (L.lay s p.gauges.n i)) = true ↔ L.pE p l (L.comp s t p.gauges.n) i ∧ L.pA p l (L.comp s t p.gauges.n) (bif s.back then L.prev p.gauges.n i else i) := by
  have vs := validSet_iff.1 hs
  have hn0 : 0 < l.n := by omega
  obtain ⟨m1, m2, m3⟩ := meas_comp (l := l) hn0 (by rw [hn]; exact hs) (by rw [hn]; exact ht) (i : Int)
  have hlay := lay_lin (s := s) (n := p.gauges.n) (i := i) vs.2.1 vs.2.2 (by omega) (by omega)
  have hm : L.measR l t (L.lay s p.gauges.n i) = L.measR l t (s.shift + L.sg s.back * i) := measR_mod hn0 (by rw [hlay, hn, Int.emod_emod])
  rw [hm, holds_iff, m1, m2, m3, hn]
  unfold L.pE L.pA L.rsG1
  cases s.back with
  | false => exact Iff.rfl
  | true =>
    have hp : L.measR l (L.comp s t p.gauges.n) ((i : Int) - 1) = L.measR l (L.comp s t p.gauges.n) ((L.prev p.gauges.n i : Nat) : Int) := measR_mod hn0 (by rw [prev_int (by omega), hn, Int.emod_emod])
    simp only [cond_true]
    rw [hp]
theorem all_prev {n : Nat} {P : Nat → Prop} (h : ∀ i, i < n → P (L.prev n i)) : ∀ i, i < n → P i := fun i hi => by
  have hn : 0 < n := by omega
  have h1 := ix_lt (n := n) (i := (i : Int) + 1) hn
  have h2 := ix_emod (n := n) (a := (i : Int) + 1) hn
  have h3 := prev_int (n := n) (k := L.ix n ((i : Int) + 1)) hn
  rw [h2, Int.emod_sub_emod, show (i : Int) + 1 - 1 = i by omega, Int.emod_eq_of_lt (by omega) (by omega)] at h3
  have h4 : L.prev n (L.ix n ((i : Int) + 1)) = i := by omega
  have := h _ h1
  rwa [h4] at this
theorem fits_comp {p : L.Piece} {l : L.Sq L.Pt} {s t : L.Setting} (hl : L.validOutline l = true) (hs : L.validSet s p.gauges.n = true) (ht : L.validSet t p.gauges.n = true) : L.fits (L.rs p s) l t = L.fits p l (L.comp s t p.gauges.n) := by
  have gn : (L.rs p s).gauges.n = p.gauges.n := rfl
  have vt := validSet_iff.1 ht
  have vc := validSet_iff.1 (comp_ok hs ht).2.2
  unfold L.fits
  rw [gn]
  by_cases hn : l.n = p.gauges.n
  · rw [decide_eq_true (show (l.n : Int) = (p.gauges.n : Int) by omega), cond_true, cond_true, Bool.eq_iff_iff, allB_iff, allB_iff]
    have e1 : ∀ j, j < l.n → L.meas l t j = L.measR l t j := fun j hj => meas_eq hl vt.2.1 (by rw [hn]; exact vt.2.2) hj
    have e2 : ∀ j, j < l.n → L.meas l (L.comp s t p.gauges.n) j = L.measR l (L.comp s t p.gauges.n) j := fun j hj => meas_eq hl vc.2.1 (by rw [hn]; exact vc.2.2) hj
    have key : (∀ j, j < l.n → L.holdsR ((L.rs p s).gauges.g j) (L.meas l t j) = true) ↔ ∀ i, i < p.gauges.n → L.pE p l (L.comp s t p.gauges.n) i ∧ L.pA p l (L.comp s t p.gauges.n) (bif s.back then L.prev p.gauges.n i else i) := by
      constructor
      · intro h i hi
        obtain ⟨a, b, c⟩ := rsI_lay hs hi
        have h1 := h (L.lay s p.gauges.n i).toNat (by omega)
        rw [e1 _ (by omega)] at h1
        have h2 : (L.rs p s).gauges.g (L.lay s p.gauges.n i).toNat = L.rsG1 p s (L.rsI s p.gauges.n (L.lay s p.gauges.n i).toNat) := rfl
        rw [h2, c, Int.toNat_of_nonneg a] at h1
        exact (holds_rs hn hs ht hi).1 h1
      · intro h j hj
        obtain ⟨a, b⟩ := lay_rsI hs (show j < p.gauges.n by omega)
        have h1 := (holds_rs hn hs ht a).2 (h _ a)
        rw [b] at h1
        rw [e1 j hj]
        exact h1
    have key2 : (∀ i, i < l.n → L.holdsR (p.gauges.g i) (L.meas l (L.comp s t p.gauges.n) i) = true) ↔ ∀ i, i < p.gauges.n → L.pE p l (L.comp s t p.gauges.n) i ∧ L.pA p l (L.comp s t p.gauges.n) i := by
      constructor
      · intro h i hi
        have h1 := h i (by omega)
        rw [e2 i (by omega)] at h1
        exact holds_iff.1 h1
      · intro h i hi
        rw [e2 i hi]
        exact holds_iff.2 (h i (by omega))
    rw [key, key2]
    cases s.back with
    | false => exact Iff.rfl
    | true =>
      have pl : ∀ i, i < p.gauges.n → L.prev p.gauges.n i < p.gauges.n := fun i hi => prevI_lt (by omega)
      exact ⟨fun h i hi => ⟨(h i hi).1, all_prev (P := fun i => L.pA p l (L.comp s t p.gauges.n) i) (fun i hi => (h i hi).2) i hi⟩, fun h i hi => ⟨(h i hi).1, (h _ (pl i hi)).2⟩⟩
  · rw [decide_eq_false (show ¬ (l.n : Int) = (p.gauges.n : Int) by omega)]; rfl
end Go.Proofs.YtooapgllahonaaaGreat

namespace Go.Proofs.YtooapgllahonaaaGreat
open Go.SE Go.RowKit
set_option maxRecDepth 100000
set_option maxHeartbeats 4000000
set_option linter.unusedVariables false
attribute [local irreducible] vc

abbrev cG (g : L.Gauge) : List SV := [.int .i64 g.edge.lo, .int .i64 g.edge.hi, .int .i64 g.across.lo, .int .i64 g.across.hi, .int .i64 g.bend]
abbrev cM (m : L.Mark) : List SV := [.int .i64 m.edge, .int .i64 m.place, .int .i64 m.tone]
abbrev cP (p : L.Pt) : List SV := [.int .i64 p.x, .int .i64 p.y]
theorem sameG_eq {a b : L.Gauge} (h : L.sameG a b = true) : a = b := by
  unfold L.sameG at h
  simp only [Bool.and_eq_true, decide_eq_true_eq] at h
  obtain ⟨⟨h1, h2⟩, ⟨h3, h4⟩, h5⟩ := h
  cases a with | mk e c d => cases e with | mk e1 e2 => cases c with | mk c1 c2 => cases b with | mk e' c' d' => cases e' with | mk e1' e2' => cases c' with | mk c1' c2' =>
  simp only at h1 h2 h3 h4 h5
  rw [h1, h2, h3, h4, h5]
theorem sameM_eq {a b : L.Mark} (h : L.sameM a b = true) : a = b := by
  unfold L.sameM at h
  simp only [Bool.and_eq_true, decide_eq_true_eq] at h
  exact mk_ext h.1 h.2.1 h.2.2
theorem samePc_iff {a b : L.Piece} : L.samePc a b = true ↔ a.id = b.id ∧ a.colour = b.colour ∧ a.rev = b.rev ∧ a.made = b.made ∧ a.swell = b.swell ∧ (a.gauges.n = b.gauges.n ∧ ∀ i, i < b.gauges.n → a.gauges.g i = b.gauges.g i) ∧ (a.marks.n = b.marks.n ∧ ∀ i, i < b.marks.n → a.marks.g i = b.marks.g i) := by
  constructor
  · intro h
    unfold L.samePc L.sameGs L.sameMs at h
    simp only [band, Bool.and_eq_true, decide_eq_true_eq, allB_iff] at h
    obtain ⟨⟨⟨⟨⟨⟨h1, h2⟩, h3⟩, h4⟩, h5⟩, h6, h7⟩, h8, h9⟩ := h
    exact ⟨h1, h2, h3, h4, h5, ⟨by omega, fun i hi => sameG_eq (h7 i (by omega))⟩, by omega, fun i hi => sameM_eq (h9 i (by omega))⟩
  · rintro ⟨h1, h2, h3, h4, h5, ⟨h6, h7⟩, h8, h9⟩
    exact samePc_of h1 h2 h3 h4 h5 (sameGs_of h6 h7) (sameMs_of h8 h9)
theorem samePc_trans {a b c : L.Piece} (h : L.samePc a b = true) (k : L.samePc b c = true) : L.samePc a c = true := by
  rw [samePc_iff] at h k ⊢
  obtain ⟨h1, h2, h3, h4, h5, ⟨h6, h7⟩, h8, h9⟩ := h
  obtain ⟨k1, k2, k3, k4, k5, ⟨k6, k7⟩, k8, k9⟩ := k
  exact ⟨h1.trans k1, h2.trans k2, h3.trans k3, h4.trans k4, h5.trans k5, ⟨h6.trans k6, fun i hi => (h7 i (by omega)).trans (k7 i hi)⟩, h8.trans k8, fun i hi => (h9 i (by omega)).trans (k9 i hi)⟩
theorem wrE_of {p : L.Piece} {s : L.Setting} (hv : L.validPiece p = true) (hs : L.validSet s p.gauges.n = true) : L.wrE p s = 0 ∧ L.rsV p s = L.rs p s := by
  have e : L.wrE p s = 0 := by unfold L.wrE; rw [hv, hs]; rfl
  rcases wrE_cases p s with ⟨_, _, _, h⟩ | ⟨h, _⟩
  · exact ⟨e, h⟩
  · exact absurd e h
theorem fits_of {p : L.Piece} {l : L.Sq L.Pt} {s : L.Setting} (hv : L.validPiece p = true) (hl : L.validOutline l = true) (hs : L.validSet s p.gauges.n = true) : L.fitsE p l s = 0 ∧ L.fitsV p l s = L.fits p l s := by
  have e : L.fitsE p l s = 0 := by unfold L.fitsE; rw [hv, hl, hs]; rfl
  refine ⟨e, ?_⟩
  unfold L.fitsV; rw [e]; rfl
def w_Composes_p (p : L.Piece) (l : (L.Sq L.Pt)) (s : L.Setting) (t : L.Setting) : Prop := p.gauges.n ≤ 9223372036854775807 ∧ p.marks.n ≤ 9223372036854775807 ∧ l.n ≤ 9223372036854775807
def w_Composes_r (p : L.Piece) (l : (L.Sq L.Pt)) (s : L.Setting) (t : L.Setting) : SV := .bool true
def w_Composes_s : List EV → Option (Prop × SV)
  | [.p (.agg [.int .i64 p_id, .int .i64 p_colour, .int .i64 p_rev, .int .i64 p_made, .int .i64 p_swell, .sl 5 p_gauges_n p_gauges_g, .sl 3 p_marks_n p_marks_g]), .p (.sl 2 l_n l_g), .p (.agg [.int .i64 s_shift, .bool s_back]), .p (.agg [.int .i64 t_shift, .bool t_back])] => some ((∀ i, i < p_gauges_n → p_gauges_g i = [.int .i64 ((ofGauge (p_gauges_g i)).edge.lo), .int .i64 ((ofGauge (p_gauges_g i)).edge.hi), .int .i64 ((ofGauge (p_gauges_g i)).across.lo), .int .i64 ((ofGauge (p_gauges_g i)).across.hi), .int .i64 ((ofGauge (p_gauges_g i)).bend)]) ∧ (∀ i, i < p_marks_n → p_marks_g i = [.int .i64 ((ofMark (p_marks_g i)).edge), .int .i64 ((ofMark (p_marks_g i)).place), .int .i64 ((ofMark (p_marks_g i)).tone)]) ∧ (∀ i, i < l_n → l_g i = [.int .i64 ((ofPt (l_g i)).x), .int .i64 ((ofPt (l_g i)).y)]) ∧ w_Composes_p (⟨p_id, p_colour, p_rev, p_made, p_swell, (⟨p_gauges_n, fun i => ofGauge (p_gauges_g i)⟩ : (L.Sq L.Gauge)), (⟨p_marks_n, fun i => ofMark (p_marks_g i)⟩ : (L.Sq L.Mark))⟩ : L.Piece) (⟨l_n, fun i => ofPt (l_g i)⟩ : (L.Sq L.Pt)) (⟨s_shift, s_back⟩ : L.Setting) (⟨t_shift, t_back⟩ : L.Setting), w_Composes_r (⟨p_id, p_colour, p_rev, p_made, p_swell, (⟨p_gauges_n, fun i => ofGauge (p_gauges_g i)⟩ : (L.Sq L.Gauge)), (⟨p_marks_n, fun i => ofMark (p_marks_g i)⟩ : (L.Sq L.Mark))⟩ : L.Piece) (⟨l_n, fun i => ofPt (l_g i)⟩ : (L.Sq L.Pt)) (⟨s_shift, s_back⟩ : L.Setting) (⟨t_shift, t_back⟩ : L.Setting))
  | _ => none
abbrev w_Composes_S : SE.Spec := (specO w_Composes_s)
def w_Composes_C : Cfg := { muts := [11, 13, 15, 21, 23, 25, 27], frz := lookN [], specs := lookS [(10, w_awake_S), (43, r3_ValidPiece_S), (33, r1_ValidOutline_S), (44, r1_ValidSetting_S), (12, g_Reset_S), (45, p_Compose_S), (46, p_Inverse_S), (47, g_ValidPiece_S), (48, g_Fits_S), (14, g_Shows_S), (18, r3_SamePiece_S)], loops := lookL [], iters := lookI [], rfs := lookR [], nils := lookM [] }
theorem w_Composes_vc (p : L.Piece) (l : (L.Sq L.Pt)) (s : L.Setting) (t : L.Setting) (hp : w_Composes_p p l s t) : vc Tryz.prog (w_Composes_C) (bodyOf Tryz.f6) (st0 Tryz.f6 [.p (.agg [.int .i64 p.id, .int .i64 p.colour, .int .i64 p.rev, .int .i64 p.made, .int .i64 p.swell, .sl 5 p.gauges.n (fun i => [.int .i64 ((p.gauges.g i).edge.lo), .int .i64 ((p.gauges.g i).edge.hi), .int .i64 ((p.gauges.g i).across.lo), .int .i64 ((p.gauges.g i).across.hi), .int .i64 ((p.gauges.g i).bend)]), .sl 3 p.marks.n (fun i => [.int .i64 ((p.marks.g i).edge), .int .i64 ((p.marks.g i).place), .int .i64 ((p.marks.g i).tone)])]), .p (.sl 2 l.n (fun i => [.int .i64 ((l.g i).x), .int .i64 ((l.g i).y)])), .p (.agg [.int .i64 s.shift, .bool s.back]), .p (.agg [.int .i64 t.shift, .bool t.back])]) (retFn Tryz.prog Tryz.f6 (w_Composes_r p l s t)) :=
  @Eq.mpr _ (True ∧ ((∀ (i : Nat), i < p.gauges.n → (cG (p.gauges.g i)) = (cG (p.gauges.g i))) ∧ (∀ (i : Nat), i < p.marks.n → (cM (p.marks.g i)) = (cM (p.marks.g i))) ∧ p.gauges.n ≤ (9223372036854775807 : Nat) ∧ p.marks.n ≤ (9223372036854775807 : Nat)) ∧ ((!!L.validPiece p) = true → (∀ (i : Nat), i < l.n → (cP (l.g i)) = (cP (l.g i))) ∧ True) ∧ ((!bif !L.validPiece p then true else !L.validOutline l) = true →
 True) ∧ ((!bif bif !L.validPiece p then true else !L.validOutline l then true else !L.validSet s (↑p.gauges.n : Int)) = true → True) ∧ ((bif bif bif !L.validPiece p then true else !L.validOutline l then true else !L.validSet s (↑p.gauges.n : Int) then true else !L.validSet t (↑p.gauges.n : Int)) = true → true = true) ∧ ((bif bif bif !L.validPiece p then true else !L.validOutline l then true else
 !L.validSet s (↑p.gauges.n : Int) then true else !L.validSet t (↑p.gauges.n : Int)) = false → ((∀ (i : Nat), i < p.gauges.n → (cG (p.gauges.g i)) = (cG (p.gauges.g i))) ∧ (∀ (i : Nat), i < p.marks.n → (cM (p.marks.g i)) = (cM (p.marks.g i))) ∧ p.gauges.n ≤ (1000000 : Nat) ∧ p.marks.n ≤ (1000000 : Nat)) ∧ True ∧ True ∧ ((!bif bif !decide (L.wrE p s = (0 : Int)) then true else !decide (L.compE s t
 (↑p.gauges.n : Int) = (0 : Int)) then true else !decide (L.invE s (↑p.gauges.n : Int) = (0 : Int))) = true → (∀ (i : Nat), i < (L.rsV p s).gauges.n → (cG ((L.rsV p s).gauges.g i)) = (cG ((L.rsV p s).gauges.g i))) ∧ (∀ (i : Nat), i < (L.rsV p s).marks.n → (cM ((L.rsV p s).marks.g i)) = (cM ((L.rsV p s).marks.g i))) ∧ (L.rsV p s).gauges.n ≤ (1000000 : Nat) ∧ (L.rsV p s).marks.n ≤ (1000000 : Nat)) ∧
 ((bif bif bif !decide (L.wrE p s = (0 : Int)) then true else !decide (L.compE s t (↑p.gauges.n : Int) = (0 : Int)) then true else !decide (L.invE s (↑p.gauges.n : Int) = (0 : Int)) then true else !L.validPiece (L.rsV p s)) = true → false = true) ∧ ((bif bif bif !decide (L.wrE p s = (0 : Int)) then true else !decide (L.compE s t (↑p.gauges.n : Int) = (0 : Int)) then true else !decide (L.invE s
 (↑p.gauges.n : Int) = (0 : Int)) then true else !L.validPiece (L.rsV p s)) = false → ((∀ (i : Nat), i < (L.rsV p s).gauges.n → (cG ((L.rsV p s).gauges.g i)) = (cG ((L.rsV p s).gauges.g i))) ∧ (∀ (i : Nat), i < (L.rsV p s).marks.n → (cM ((L.rsV p s).marks.g i)) = (cM ((L.rsV p s).marks.g i))) ∧ (∀ (i : Nat), i < l.n → (cP (l.g i)) = (cP (l.g i))) ∧ (L.rsV p s).gauges.n ≤ (1000000 : Nat) ∧ (L.rsV p
 s).marks.n ≤ (1000000 : Nat) ∧ l.n ≤ (1000000 : Nat)) ∧ ((∀ (i : Nat), i < p.gauges.n → (cG (p.gauges.g i)) = (cG (p.gauges.g i))) ∧ (∀ (i : Nat), i < p.marks.n → (cM (p.marks.g i)) = (cM (p.marks.g i))) ∧ (∀ (i : Nat), i < l.n → (cP (l.g i)) = (cP (l.g i))) ∧ p.gauges.n ≤ (1000000 : Nat) ∧ p.marks.n ≤ (1000000 : Nat) ∧ l.n ≤ (1000000 : Nat)) ∧ ((∀ (i : Nat), i < (L.rsV p s).gauges.n → (cG ((L.rsV
 p s).gauges.g i)) = (cG ((L.rsV p s).gauges.g i))) ∧ (∀ (i : Nat), i < (L.rsV p s).marks.n → (cM ((L.rsV p s).marks.g i)) = (cM ((L.rsV p s).marks.g i))) ∧ (L.rsV p s).gauges.n ≤ (1000000 : Nat) ∧ (L.rsV p s).marks.n ≤ (1000000 : Nat)) ∧ ((∀ (i : Nat), i < p.gauges.n → (cG (p.gauges.g i)) = (cG (p.gauges.g i))) ∧ (∀ (i : Nat), i < p.marks.n → (cM (p.marks.g i)) = (cM (p.marks.g i))) ∧ p.gauges.n ≤
 (1000000 : Nat) ∧ p.marks.n ≤ (1000000 : Nat)) ∧ ((∀ (i : Nat), i < (L.rsV p s).gauges.n → (cG ((L.rsV p s).gauges.g i)) = (cG ((L.rsV p s).gauges.g i))) ∧ (∀ (i : Nat), i < (L.rsV p s).marks.n → (cM ((L.rsV p s).marks.g i)) = (cM ((L.rsV p s).marks.g i))) ∧ (L.rsV p s).gauges.n ≤ (1000000 : Nat) ∧ (L.rsV p s).marks.n ≤ (1000000 : Nat)) ∧ ((∀ (i : Nat), i < p.gauges.n → (cG (p.gauges.g i)) = (cG
 (p.gauges.g i))) ∧ (∀ (i : Nat), i < p.marks.n → (cM (p.marks.g i)) = (cM (p.marks.g i))) ∧ p.gauges.n ≤ (1000000 : Nat) ∧ p.marks.n ≤ (1000000 : Nat)) ∧ ((∀ (i : Nat), i < p.gauges.n → (cG (p.gauges.g i)) = (cG (p.gauges.g i))) ∧ (∀ (i : Nat), i < p.marks.n → (cM (p.marks.g i)) = (cM (p.marks.g i))) ∧ p.gauges.n ≤ (1000000 : Nat) ∧ p.marks.n ≤ (1000000 : Nat)) ∧ ((!bif bif bif bif !decide
 (L.fitsE (L.rsV p s) l t = (0 : Int)) then true else !decide (L.fitsE p l (L.comp s t (↑p.gauges.n : Int)) = (0 : Int)) then true else !L.fitsV (L.rsV p s) l t == L.fitsV p l (L.comp s t (↑p.gauges.n : Int)) then true else !decide (L.wrE (L.rsV p s) t = (0 : Int)) then true else !decide (L.wrE p (L.comp s t (↑p.gauges.n : Int)) = (0 : Int))) = true → (∀ (i : Nat), i < (L.rsV (L.rsV p s)
 t).gauges.n → (cG ((L.rsV (L.rsV p s) t).gauges.g i)) = (cG ((L.rsV (L.rsV p s) t).gauges.g i))) ∧ (∀ (i : Nat), i < (L.rsV (L.rsV p s) t).marks.n → (cM ((L.rsV (L.rsV p s) t).marks.g i)) = (cM ((L.rsV (L.rsV p s) t).marks.g i))) ∧ (∀ (i : Nat), i < (L.rsV p (L.comp s t (↑p.gauges.n : Int))).gauges.n → (cG ((L.rsV p (L.comp s t (↑p.gauges.n : Int))).gauges.g i)) = (cG ((L.rsV p (L.comp s t
 (↑p.gauges.n : Int))).gauges.g i))) ∧ (∀ (i : Nat), i < (L.rsV p (L.comp s t (↑p.gauges.n : Int))).marks.n → (cM ((L.rsV p (L.comp s t (↑p.gauges.n : Int))).marks.g i)) = (cM ((L.rsV p (L.comp s t (↑p.gauges.n : Int))).marks.g i))) ∧ (L.rsV (L.rsV p s) t).gauges.n ≤ (1000000 : Nat) ∧ (L.rsV (L.rsV p s) t).marks.n ≤ (1000000 : Nat)) ∧ ((bif bif bif bif bif !decide (L.fitsE (L.rsV p s) l t = (0 :
 Int)) then true else !decide (L.fitsE p l (L.comp s t (↑p.gauges.n : Int)) = (0 : Int)) then true else !L.fitsV (L.rsV p s) l t == L.fitsV p l (L.comp s t (↑p.gauges.n : Int)) then true else !decide (L.wrE (L.rsV p s) t = (0 : Int)) then true else !decide (L.wrE p (L.comp s t (↑p.gauges.n : Int)) = (0 : Int)) then true else !L.samePc (L.rsV (L.rsV p s) t) (L.rsV p (L.comp s t (↑p.gauges.n :
 Int)))) = true → false = true) ∧ ((bif bif bif bif bif !decide (L.fitsE (L.rsV p s) l t = (0 : Int)) then true else !decide (L.fitsE p l (L.comp s t (↑p.gauges.n : Int)) = (0 : Int)) then true else !L.fitsV (L.rsV p s) l t == L.fitsV p l (L.comp s t (↑p.gauges.n : Int)) then true else !decide (L.wrE (L.rsV p s) t = (0 : Int)) then true else !decide (L.wrE p (L.comp s t (↑p.gauges.n : Int)) = (0 :
 Int)) then true else !L.samePc (L.rsV (L.rsV p s) t) (L.rsV p (L.comp s t (↑p.gauges.n : Int)))) = false → ((bif bif bif true then decide (L.wrE (L.rsV p s) (L.inv s (↑p.gauges.n : Int)) = (0 : Int)) else false then decide (L.wrE p (L.Setting.mk (0 : Int) false) = (0 : Int)) else false then decide (L.wrE p s = (0 : Int)) else false) = true → (∀ (i : Nat), i < (L.rsV (L.rsV p s) (L.inv s
 (↑p.gauges.n : Int))).gauges.n → (cG ((L.rsV (L.rsV p s) (L.inv s (↑p.gauges.n : Int))).gauges.g i)) = (cG ((L.rsV (L.rsV p s) (L.inv s (↑p.gauges.n : Int))).gauges.g i))) ∧ (∀ (i : Nat), i < (L.rsV (L.rsV p s) (L.inv s (↑p.gauges.n : Int))).marks.n → (cM ((L.rsV (L.rsV p s) (L.inv s (↑p.gauges.n : Int))).marks.g i)) = (cM ((L.rsV (L.rsV p s) (L.inv s (↑p.gauges.n : Int))).marks.g i))) ∧ (∀ (i :
 Nat), i < p.gauges.n → (cG (p.gauges.g i)) = (cG (p.gauges.g i))) ∧ (∀ (i : Nat), i < p.marks.n → (cM (p.marks.g i)) = (cM (p.marks.g i))) ∧ (L.rsV (L.rsV p s) (L.inv s (↑p.gauges.n : Int))).gauges.n ≤ (1000000 : Nat) ∧ (L.rsV (L.rsV p s) (L.inv s (↑p.gauges.n : Int))).marks.n ≤ (1000000 : Nat)) ∧ ((bif bif bif bif true then decide (L.wrE (L.rsV p s) (L.inv s (↑p.gauges.n : Int)) = (0 : Int)) else
 false then decide (L.wrE p (L.Setting.mk (0 : Int) false) = (0 : Int)) else false then decide (L.wrE p s = (0 : Int)) else false then L.samePc (L.rsV (L.rsV p s) (L.inv s (↑p.gauges.n : Int))) p else false) = true → (∀ (i : Nat), i < (L.rsV p (L.Setting.mk (0 : Int) false)).gauges.n → (cG ((L.rsV p (L.Setting.mk (0 : Int) false)).gauges.g i)) = (cG ((L.rsV p (L.Setting.mk (0 : Int)
 false)).gauges.g i))) ∧ (∀ (i : Nat), i < (L.rsV p (L.Setting.mk (0 : Int) false)).marks.n → (cM ((L.rsV p (L.Setting.mk (0 : Int) false)).marks.g i)) = (cM ((L.rsV p (L.Setting.mk (0 : Int) false)).marks.g i))) ∧ (∀ (i : Nat), i < p.gauges.n → (cG (p.gauges.g i)) = (cG (p.gauges.g i))) ∧ (∀ (i : Nat), i < p.marks.n → (cM (p.marks.g i)) = (cM (p.marks.g i))) ∧ (L.rsV p (L.Setting.mk (0 : Int)
 false)).gauges.n ≤ (1000000 : Nat) ∧ (L.rsV p (L.Setting.mk (0 : Int) false)).marks.n ≤ (1000000 : Nat)) ∧ (bif bif bif bif bif bif true then decide (L.wrE (L.rsV p s) (L.inv s (↑p.gauges.n : Int)) = (0 : Int)) else false then decide (L.wrE p (L.Setting.mk (0 : Int) false) = (0 : Int)) else false then decide (L.wrE p s = (0 : Int)) else false then L.samePc (L.rsV (L.rsV p s) (L.inv s (↑p.gauges.n
 : Int))) p else false then L.samePc (L.rsV p (L.Setting.mk (0 : Int) false)) p else false then decide ((L.rsV p s).colour = (L.rsV p s).colour) else false) = true)))) (by kernel_rfl) (by
    obtain ⟨p1, p2, p3⟩ := hp
    refine ⟨trivial, ⟨fun _ _ => rfl, fun _ _ => rfl, p1, p2⟩, fun _ => ⟨fun _ _ => rfl, trivial⟩, fun _ => trivial, fun _ => trivial, fun _ => rfl, fun h => ?_⟩
    simp only [bor, Bool.or_eq_false_iff] at h
    obtain ⟨⟨⟨h1, h2⟩, h3⟩, h4⟩ := h
    have hv : L.validPiece p = true := notF h1
    have hl : L.validOutline l = true := notF h2
    have hs := notF h3
    have ht := notF h4
    obtain ⟨_, hg, hm⟩ := piece_of hv
    have hgn := gauges_n hg
    have hmk := marks_in hm
    obtain ⟨n3, n24, _, _⟩ := validOutline_of hl
    have E1 := wrE_of hv hs
    have hqv := rs_valid hv hs
    have C := comp_ok hs ht
    have I := inv_ok hs
    have hone : L.validSet ⟨0, false⟩ p.gauges.n = true := validSet_iff.2 ⟨⟨by omega, by omega⟩, Int.le_refl _, by show (0 : Int) < p.gauges.n; omega⟩
    have E2 := wrE_of (p := L.rs p s) (s := t) hqv ht
    have E3 := wrE_of hv C.2.2
    have E4 := wrE_of (p := L.rs p s) (s := L.inv s p.gauges.n) hqv I.2.1
    have E5 := wrE_of hv hone
    have F1 := fits_of (p := L.rs p s) (s := t) hqv hl ht
    have F2 := fits_of hv hl C.2.2
    have hfit : L.fitsV (L.rs p s) l t = L.fitsV p l (L.comp s t p.gauges.n) := by rw [F1.2, F2.2]; exact fits_comp hl hs ht
    have s1 : L.samePc (L.rsV (L.rs p s) t) (L.rsV p (L.comp s t p.gauges.n)) = true := by rw [E2.2, E3.2]; exact rs_comp hv hs ht
    have s3 : L.samePc (L.rsV p ⟨0, false⟩) p = true := by rw [E5.2]; exact rs_one hv
    have s2 : L.samePc (L.rsV (L.rs p s) (L.inv s p.gauges.n)) p = true := by
      rw [E4.2]
      have := rs_comp hv hs I.2.1
      rw [I.2.2] at this
      exact samePc_trans this (rs_one hv)
    have W : p.gauges.n ≤ 1000000 ∧ p.marks.n ≤ 1000000 := by omega
    have hln : l.n ≤ 1000000 := by omega
    rw [E1.2]
    have WQ : (L.rs p s).gauges.n ≤ 1000000 ∧ (L.rs p s).marks.n ≤ 1000000 := W
    have WX := rsV_len (L.rs p s) t
    have WY := rsV_len (L.rs p s) (L.inv s p.gauges.n)
    have WZ := rsV_len p ⟨0, false⟩
    refine ⟨⟨fun _ _ => rfl, fun _ _ => rfl, W⟩, trivial, trivial, fun _ => ⟨fun _ _ => rfl, fun _ _ => rfl, WQ⟩, fun h => ?_, fun _ => ⟨⟨fun _ _ => rfl, fun _ _ => rfl, fun _ _ => rfl, WQ.1, WQ.2, hln⟩, ⟨fun _ _ => rfl, fun _ _ => rfl, fun _ _ => rfl, W.1, W.2, hln⟩, ⟨fun _ _ => rfl, fun _ _ => rfl, WQ⟩, ⟨fun _ _ => rfl, fun _ _ => rfl, W⟩, ⟨fun _ _ => rfl, fun _ _ => rfl, WQ⟩, ⟨fun _ _ => rfl, fun _ _ => rfl, W⟩, ⟨fun _ _ => rfl, fun _ _ => rfl, W⟩, fun _ => ⟨fun _ _ => rfl, fun _ _ => rfl, fun _ _ => rfl, fun _ _ => rfl, Nat.le_trans WX.1 WQ.1, Nat.le_trans WX.2 WQ.2⟩, fun h => ?_, fun _ => ⟨fun _ => ⟨fun _ _ => rfl, fun _ _ => rfl, fun _ _ => rfl, fun _ _ => rfl, Nat.le_trans WY.1 WQ.1, Nat.le_trans WY.2 WQ.2⟩, fun _ => ⟨fun _ _ => rfl, fun _ _ => rfl, fun _ _ => rfl, fun _ _ => rfl, Nat.le_trans WZ.1 W.1, Nat.le_trans WZ.2 W.2⟩, ?_⟩⟩⟩
    · exfalso
      simp [E1.1, C.1, I.1, hqv] at h
    · exfalso
      simp [F1.1, F2.1, hfit, E2.1, E3.1, s1] at h
    · simp [E4.1, E5.1, E1.1, s2, s3])
theorem w_Composes_ok : SpecOk Tryz.prog 6 w_Composes_S := fnX Tryz.func6 (c := bodyOf Tryz.f6) (by kernel_rfl) mixed (fun args p r hs hp => by
  unfold w_Composes_s at hs
  split at hs
  · cases hs; exact ⟨_, _, w_Composes_vc _ _ _ _ hp.2.2.2, (.p (.agg rfl (fun i hi => by
      rcases i with _ | i
      · exact (Ext.refl _ : Ext _ _)
      rcases i with _ | i
      · exact (Ext.refl _ : Ext _ _)
      rcases i with _ | i
      · exact (Ext.refl _ : Ext _ _)
      rcases i with _ | i
      · exact (Ext.refl _ : Ext _ _)
      rcases i with _ | i
      · exact (Ext.refl _ : Ext _ _)
      rcases i with _ | i
      · exact (Ext.sl hp.1 : Ext _ _)
      rcases i with _ | i
      · exact (Ext.sl hp.2.1 : Ext _ _)
      exact absurd hi (by simp; try omega))) (.p (.sl hp.2.2.1) (.same _ (.same _ .nil)))), ⟨show SpecsL Tryz.prog _ from (SpecsL.cons w_awake_ok w_awake_en (SpecsL.cons r3_ValidPiece_ok r3_ValidPiece_en (SpecsL.cons r1_ValidOutline_ok r1_ValidOutline_en (SpecsL.cons r1_ValidSetting_ok r1_ValidSetting_en (SpecsL.cons g_Reset_ok g_Reset_en (SpecsL.cons p_Compose_ok p_Compose_en (SpecsL.cons p_Inverse_ok p_Inverse_en (SpecsL.cons g_ValidPiece_ok g_ValidPiece_en (SpecsL.cons g_Fits_ok g_Fits_en (SpecsL.cons g_Shows_ok g_Shows_en (SpecsL.cons r3_SamePiece_ok r3_SamePiece_en SpecsL.nil))))))))))), rfl, ⟨show ItersL Tryz.prog _ from ItersL.nil, (TrsOk.none (fun _ => rfl))⟩⟩⟩
  · cases hs)
end Go.Proofs.YtooapgllahonaaaGreat
