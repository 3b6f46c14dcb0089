/- A symbolic walk over the model, and what it shows of functions of the program: parts of the proof that the text of the row joins. -/
import Derived.Test.YtipaekbdalahdaaW3
import Derived.Test.YtipaekbdalahdaaE3
import Derived.KernelRfl

namespace Go.Proofs.Ytipaekbdalahdaa
open Go.SE Go.RowKit
set_option maxRecDepth 100000
set_option maxHeartbeats 4000000
set_option linter.unusedVariables false
attribute [local irreducible] Go.SE.vc

def L.holdsR (g : L.Gauge) (m : L.Meas) : Bool := bif (bif L.within m.edge g.edge.lo g.edge.hi then L.within m.across g.across.lo g.across.hi else false) then (bif decide (g.bend = 0) then true else decide (g.bend = m.bend)) else false
def L.fits (p : L.Piece) (l : L.Sq L.Pt) (s : L.Setting) : Bool := bif decide ((l.n : Int) = p.gauges.n) then L.allB l.n (fun i => L.holdsR (p.gauges.g i) (L.meas l s i)) else false
def L.fitP (p : L.Piece) (l : L.Sq L.Pt) (s : L.Setting) : Prop := L.validOutline l = true ∧ L.gauges p.gauges = true ∧ 0 ≤ s.shift ∧ s.shift < (p.gauges.n : Int)
def L.sett (k : Nat) : L.Setting := ⟨Int.tdiv (k : Int) 2, decide (Int.tmod (k : Int) 2 = 1)⟩
def L.fitK (p : L.Piece) (l : L.Sq L.Pt) (k : Nat) : Bool := L.fits p l (L.sett k)
def L.validSet (s : L.Setting) (n : Int) : Bool := bif L.within n 3 24 then L.within s.shift 0 (n - 1) else false
def L.fitsE (p : L.Piece) (l : L.Sq L.Pt) (s : L.Setting) : Int := bif !L.validPiece p then 30 else bif (bif !L.validOutline l then true else !L.validSet s p.gauges.n) then 1 else 0
def L.fitsV (p : L.Piece) (l : L.Sq L.Pt) (s : L.Setting) : Bool := bif decide (L.fitsE p l s = 0) then L.fits p l s else false
def L.setE (p : L.Piece) (l : L.Sq L.Pt) : Int := bif !L.validPiece p then 30 else bif !L.validOutline l then 1 else 0
def L.setN (p : L.Piece) (l : L.Sq L.Pt) : Nat := bif decide (L.setE p l = 0) then L.cnt (L.fitK p l) (2 * p.gauges.n) else 0
def L.setG (p : L.Piece) (l : L.Sq L.Pt) (k : Nat) : L.Setting := L.sett (L.selN (L.fitK p l) (2 * p.gauges.n) k)
theorem sett_lt {k n : Nat} (h : k < 2 * n) : 0 ≤ (L.sett k).shift ∧ (L.sett k).shift < (n : Int) := by
  unfold L.sett
  dsimp only
  rw [Int.tdiv_eq_ediv_of_nonneg (by omega)]
  omega
theorem piece_gauges {p : L.Piece} (h : L.validPiece p = true) : L.gauges p.gauges = true := by
  unfold L.validPiece at h
  rw [band, band, Bool.and_eq_true, Bool.and_eq_true] at h
  exact h.1.2
theorem validSet_iff {s : L.Setting} {n : Int} : L.validSet s n = true ↔ (3 ≤ n ∧ n ≤ 24) ∧ 0 ≤ s.shift ∧ s.shift < n := by
  unfold L.validSet
  rw [band, Bool.and_eq_true, within_iff, within_iff]
  omega
def g_holds_p (g : L.Gauge) (m : L.Meas) : Prop := g.edge.lo ≤ g.edge.hi ∧ g.across.lo ≤ g.across.hi
def g_holds_r (g : L.Gauge) (m : L.Meas) : SV := .bool (L.holdsR g m)
def g_holds_s : List EV → Option (Prop × SV)
  | [.p (.agg [.int .i64 g_edge_lo, .int .i64 g_edge_hi, .int .i64 g_across_lo, .int .i64 g_across_hi, .int .i64 g_bend]), .p (.agg [.int .i64 m_edge, .int .i64 m_across, .int .i64 m_bend])] => some (g_holds_p (⟨(⟨g_edge_lo, g_edge_hi⟩ : L.Span), (⟨g_across_lo, g_across_hi⟩ : L.Span), g_bend⟩ : L.Gauge) (⟨m_edge, m_across, m_bend⟩ : L.Meas), g_holds_r (⟨(⟨g_edge_lo, g_edge_hi⟩ : L.Span), (⟨g_across_lo, g_across_hi⟩ : L.Span), g_bend⟩ : L.Gauge) (⟨m_edge, m_across, m_bend⟩ : L.Meas))
  | _ => none
abbrev g_holds_S : SE.Spec := (specO g_holds_s)
def g_holds_C : Cfg := { muts := [], frz := lookN [], specs := lookS [(72, g_in_S)], loops := lookL [], iters := lookI [], rfs := lookR [], nils := lookM [] }
theorem g_holds_vc (g : L.Gauge) (m : L.Meas) (hp : g_holds_p g m) : vc Try.prog (g_holds_C) (bodyOf Try.f128) (st0 Try.f128 [.p (.agg [.int .i64 g.edge.lo, .int .i64 g.edge.hi, .int .i64 g.across.lo, .int .i64 g.across.hi, .int .i64 g.bend]), .p (.agg [.int .i64 m.edge, .int .i64 m.across, .int .i64 m.bend])]) (retFn Try.prog Try.f128 (g_holds_r g m)) :=
  @Eq.mpr _ (((Decidable.decide (m.edge = g.edge.lo) && (Decidable.decide (m.across = g.across.lo) && Decidable.decide (m.bend = g.bend))) = Bool.true → Bool.true = L.holdsR g m) ∧ ((Decidable.decide (m.edge = g.edge.lo) && (Decidable.decide (m.across = g.across.lo) && Decidable.decide (m.bend = g.bend))) = Bool.false → True ∧ (L.within m.edge g.edge.lo g.edge.hi = Bool.true → True) ∧ (bif bif L.within m.edge
 g.edge.lo g.edge.hi then L.within m.across g.across.lo g.across.hi else Bool.false then bif Decidable.decide (g.bend = (0 : Int)) then Bool.true else Decidable.decide (g.bend = m.bend) else Bool.false) = L.holdsR g m)) (by kernel_rfl) (by
    obtain ⟨h1, h2⟩ := hp
    refine ⟨fun h => ?_, fun h => ⟨trivial, fun _ => trivial, rfl⟩⟩
    rw [Bool.and_eq_true, Bool.and_eq_true, decide_eq_true_eq, decide_eq_true_eq, decide_eq_true_eq] at h
    unfold L.holdsR
    rw [within_iff.2 (show g.edge.lo ≤ m.edge ∧ m.edge ≤ g.edge.hi by omega), within_iff.2 (show g.across.lo ≤ m.across ∧ m.across ≤ g.across.hi by omega), decide_eq_true (show g.bend = m.bend by omega)]
    cases decide (g.bend = 0) <;> rfl)
theorem g_holds_ok : SpecOk Try.prog 128 g_holds_S := fnX Try.func128 (c := bodyOf Try.f128) (by kernel_rfl) mixed (fun args p r hs hp => by
  unfold g_holds_s at hs
  split at hs
  · cases hs; exact ⟨_, _, g_holds_vc _ _ hp, (.same _ (.same _ .nil)), ⟨show SpecsL Try.prog _ from (SpecsL.cons g_in_ok g_in_en SpecsL.nil), rfl, ⟨show ItersL Try.prog _ from ItersL.nil, (TrsOk.none (fun _ => rfl))⟩⟩⟩
  · cases hs)
theorem g_holds_en : Enters Try.prog 128 := fun args w => by kernel_rfl
theorem g_holds_B : ∀ args p r, g_holds_s args = some (p, r) → ∃ b, r = .bool b := by
  intro args p r h
  unfold g_holds_s at h
  split at h
  · cases h; exact ⟨_, rfl⟩
  · cases h
def g_fits_p (p : L.Piece) (l : (L.Sq L.Pt)) (s : L.Setting) : Prop := L.fitP p l s
def g_fits_r (p : L.Piece) (l : (L.Sq L.Pt)) (s : L.Setting) : SV := .bool (L.fits p l s)
def g_fits_s : List EV → Option (Prop × SV)
  | [.p (.agg [.int .i64 p_id, .int .i64 p_colour, .int .i64 p_rev, .int .i64 p_made, .int .i64 p_swell, .sl 5 p_gauges_n p_gauges_g, .sl 3 p_marks_n p_marks_g]), .p (.sl 2 l_n l_g), .p (.agg [.int .i64 s_shift, .bool s_back])] => some ((∀ i, i < p_gauges_n → p_gauges_g i = [.int .i64 ((ofGauge (p_gauges_g i)).edge.lo), .int .i64 ((ofGauge (p_gauges_g i)).edge.hi), .int .i64 ((ofGauge (p_gauges_g i)).across.lo), .int .i64 ((ofGauge (p_gauges_g i)).across.hi), .int .i64 ((ofGauge (p_gauges_g i)).bend)]) ∧ (∀ i, i < p_marks_n → p_marks_g i = [.int .i64 ((ofMark (p_marks_g i)).edge), .int .i64 ((ofMark (p_marks_g i)).place), .int .i64 ((ofMark (p_marks_g i)).tone)]) ∧ (∀ i, i < l_n → l_g i = [.int .i64 ((ofPt (l_g i)).x), .int .i64 ((ofPt (l_g i)).y)]) ∧ g_fits_p (⟨p_id, p_colour, p_rev, p_made, p_swell, (⟨p_gauges_n, fun i => ofGauge (p_gauges_g i)⟩ : (L.Sq L.Gauge)), (⟨p_marks_n, fun i => ofMark (p_marks_g i)⟩ : (L.Sq L.Mark))⟩ : L.Piece) (⟨l_n, fun i => ofPt (l_g i)⟩ : (L.Sq L.Pt)) (⟨s_shift, s_back⟩ : L.Setting), g_fits_r (⟨p_id, p_colour, p_rev, p_made, p_swell, (⟨p_gauges_n, fun i => ofGauge (p_gauges_g i)⟩ : (L.Sq L.Gauge)), (⟨p_marks_n, fun i => ofMark (p_marks_g i)⟩ : (L.Sq L.Mark))⟩ : L.Piece) (⟨l_n, fun i => ofPt (l_g i)⟩ : (L.Sq L.Pt)) (⟨s_shift, s_back⟩ : L.Setting))
  | _ => none
abbrev g_fits_S : SE.Spec := (specO g_fits_s)
def g_fits_C : Cfg := { muts := [], frz := lookN [], specs := lookS [(65, g_measures_S), (128, g_holds_S)], loops := lookL [], iters := lookI [(122, g_meas2_it)], rfs := lookR [], nils := lookM [] }
theorem g_fits_vc (p : L.Piece) (l : (L.Sq L.Pt)) (s : L.Setting) (hp : g_fits_p p l s) : vc Try.prog ({ g_fits_C with loops := lookL [], rfs := lookR [(4, { T := Nat, keep := [3, 6], keepO := [6], own := fun k _ => [], inv := fun k _ => ∀ j, j < k → L.holdsR (p.gauges.g j) (L.meas l s j) = true })] }) (bodyOf Try.f83) (st0 Try.f83 [.p (.agg [.int .i64 p.id, .int .i64 p.colour, .int .i64 p.rev, .int .i64 p.made, .int .i64 p.swell, .sl 5 p.gauges.n (fun i => [.int .i64 ((p.gauges.g i).edge.lo), .int .i64 ((p.gauges.g i).edge.hi), .int .i64 ((p.gauges.g i).across.lo), .int .i64 ((p.gauges.g i).across.hi), .int .i64 ((p.gauges.g i).bend)]), .sl 3 p.marks.n (fun i => [.int .i64 ((p.marks.g i).edge), .int .i64 ((p.marks.g i).place), .int .i64 ((p.marks.g i).tone)])]), .p (.sl 2 l.n (fun i => [.int .i64 ((l.g i).x), .int .i64 ((l.g i).y)])), .p (.agg [.int .i64 s.shift, .bool s.back])]) (retFn Try.prog Try.f83 (g_fits_r p l s)) :=
  @Eq.mpr _ (((!Decidable.decide ((↑l.n : Int) = (↑p.gauges.n : Int))) = Bool.true → Bool.false = L.fits p l s) ∧ ((!Decidable.decide ((↑l.n : Int) = (↑p.gauges.n : Int))) = Bool.false → ((∀ (i : Nat), i < l.n → [Go.SE.SV.int Go.IntKind.i64 (l.g i).x, Go.SE.SV.int Go.IntKind.i64 (l.g i).y] = [Go.SE.SV.int Go.IntKind.i64 (l.g i).x, Go.SE.SV.int Go.IntKind.i64 (l.g i).y]) ∧ l.n ≤ (1000000 : Nat)) ∧ (((∀ (i :
 Nat), i < l.n → [Go.SE.SV.int Go.IntKind.i64 (l.g i).x, Go.SE.SV.int Go.IntKind.i64 (l.g i).y] = [Go.SE.SV.int Go.IntKind.i64 (l.g i).x, Go.SE.SV.int Go.IntKind.i64 (l.g i).y]) ∧ (∀ (i : Nat), (i < bif L.validOutline (L.Sq.mk l.n fun (i : Nat) ↦ l.g i) then l.n else (0 : Nat)) → [Go.SE.SV.int Go.IntKind.i64 (L.bend (L.Sq.mk l.n fun (i : Nat) ↦ l.g i) i)] = [Go.SE.SV.int Go.IntKind.i64 (L.bend
 (L.Sq.mk l.n fun (i : Nat) ↦ l.g i) i)]) ∧ (↑l.n : Int) = (↑l.n : Int) ∧ (↑l.n : Int) = (↑l.n : Int) ∧ (bif L.validOutline (L.Sq.mk l.n fun (i : Nat) ↦ l.g i) then l.n else (0 : Nat)) = l.n ∧ (∀ (i : Nat), i < l.n → L.bend (L.Sq.mk l.n fun (i : Nat) ↦ l.g i) i = L.bend (L.Sq.mk l.n fun (i : Nat) ↦ l.g i) i) ∧ (1 : Nat) ≤ l.n ∧ l.n ≤ (1000 : Nat) ∧ (0 : Int) ≤ s.shift ∧ s.shift ≤ (1000 : Int)) ∧ ∃
 (t : Nat), Bool.false = Bool.false ∧ ∀ (j : Nat), j < (0 : Nat) → L.holdsR (p.gauges.g j) (L.meas l s j) = Bool.true) ∧ (∀ (k t : Nat) (vk : Nat → Go.Value), k < l.n → (∀ (j : Nat), j < k → L.holdsR (p.gauges.g j) (L.meas l s j) = Bool.true) → ((0 : Int) ≤ (↑k : Int) ∧ (↑k : Int) < (↑p.gauges.n : Int)) ∧ ((p.gauges.g (Int.toNat (↑k : Int))).edge.lo ≤ (p.gauges.g (Int.toNat (↑k : Int))).edge.hi ∧
 (p.gauges.g (Int.toNat (↑k : Int))).across.lo ≤ (p.gauges.g (Int.toNat (↑k : Int))).across.hi) ∧ ((!L.holdsR (p.gauges.g (Int.toNat (↑k : Int))) (L.meas (L.Sq.mk l.n fun (i : Nat) ↦ l.g i) s k)) = Bool.true → nat_lit 0 = nat_lit 0 ∧ Go.SE.SV.ref [Go.SE.SV.int Go.IntKind.i64 p.id, Go.SE.SV.int Go.IntKind.i64 p.colour, Go.SE.SV.int Go.IntKind.i64 p.rev, Go.SE.SV.int Go.IntKind.i64 p.made,
 Go.SE.SV.int Go.IntKind.i64 p.swell, Go.SE.SV.sl (nat_lit 5) p.gauges.n fun (i : Nat) ↦ [Go.SE.SV.int Go.IntKind.i64 (p.gauges.g i).edge.lo, Go.SE.SV.int Go.IntKind.i64 (p.gauges.g i).edge.hi, Go.SE.SV.int Go.IntKind.i64 (p.gauges.g i).across.lo, Go.SE.SV.int Go.IntKind.i64 (p.gauges.g i).across.hi, Go.SE.SV.int Go.IntKind.i64 (p.gauges.g i).bend], Go.SE.SV.sl (nat_lit 3) p.marks.n fun (i : Nat) ↦
 [Go.SE.SV.int Go.IntKind.i64 (p.marks.g i).edge, Go.SE.SV.int Go.IntKind.i64 (p.marks.g i).place, Go.SE.SV.int Go.IntKind.i64 (p.marks.g i).tone]] (nat_lit 0) = Go.SE.SV.ref [Go.SE.SV.int Go.IntKind.i64 p.id, Go.SE.SV.int Go.IntKind.i64 p.colour, Go.SE.SV.int Go.IntKind.i64 p.rev, Go.SE.SV.int Go.IntKind.i64 p.made, Go.SE.SV.int Go.IntKind.i64 p.swell, Go.SE.SV.sl (nat_lit 5) p.gauges.n fun (i :
 Nat) ↦ [Go.SE.SV.int Go.IntKind.i64 (p.gauges.g i).edge.lo, Go.SE.SV.int Go.IntKind.i64 (p.gauges.g i).edge.hi, Go.SE.SV.int Go.IntKind.i64 (p.gauges.g i).across.lo, Go.SE.SV.int Go.IntKind.i64 (p.gauges.g i).across.hi, Go.SE.SV.int Go.IntKind.i64 (p.gauges.g i).bend], Go.SE.SV.sl (nat_lit 3) p.marks.n fun (i : Nat) ↦ [Go.SE.SV.int Go.IntKind.i64 (p.marks.g i).edge, Go.SE.SV.int Go.IntKind.i64
 (p.marks.g i).place, Go.SE.SV.int Go.IntKind.i64 (p.marks.g i).tone]] (nat_lit 0) ∧ vk (nat_lit 6) = vk (nat_lit 6) ∧ vk (nat_lit 3) = vk (nat_lit 3) ∧ Bool.false = L.fits p l s) ∧ ((!L.holdsR (p.gauges.g (Int.toNat (↑k : Int))) (L.meas (L.Sq.mk l.n fun (i : Nat) ↦ l.g i) s k)) = Bool.false → ∃ (t' : Nat), nat_lit 0 = nat_lit 0 ∧ Go.SE.SV.ref [Go.SE.SV.int Go.IntKind.i64 p.id, Go.SE.SV.int
 Go.IntKind.i64 p.colour, Go.SE.SV.int Go.IntKind.i64 p.rev, Go.SE.SV.int Go.IntKind.i64 p.made, Go.SE.SV.int Go.IntKind.i64 p.swell, Go.SE.SV.sl (nat_lit 5) p.gauges.n fun (i : Nat) ↦ [Go.SE.SV.int Go.IntKind.i64 (p.gauges.g i).edge.lo, Go.SE.SV.int Go.IntKind.i64 (p.gauges.g i).edge.hi, Go.SE.SV.int Go.IntKind.i64 (p.gauges.g i).across.lo, Go.SE.SV.int Go.IntKind.i64 (p.gauges.g i).across.hi,
 Go.SE.SV.int Go.IntKind.i64 (p.gauges.g i).bend], Go.SE.SV.sl (nat_lit 3) p.marks.n fun (i : Nat) ↦ [Go.SE.SV.int Go.IntKind.i64 (p.marks.g i).edge, Go.SE.SV.int Go.IntKind.i64 (p.marks.g i).place, Go.SE.SV.int Go.IntKind.i64 (p.marks.g i).tone]] (nat_lit 0) = Go.SE.SV.ref [Go.SE.SV.int Go.IntKind.i64 p.id, Go.SE.SV.int Go.IntKind.i64 p.colour, Go.SE.SV.int Go.IntKind.i64 p.rev, Go.SE.SV.int
 Go.IntKind.i64 p.made, Go.SE.SV.int Go.IntKind.i64 p.swell, Go.SE.SV.sl (nat_lit 5) p.gauges.n fun (i : Nat) ↦ [Go.SE.SV.int Go.IntKind.i64 (p.gauges.g i).edge.lo, Go.SE.SV.int Go.IntKind.i64 (p.gauges.g i).edge.hi, Go.SE.SV.int Go.IntKind.i64 (p.gauges.g i).across.lo, Go.SE.SV.int Go.IntKind.i64 (p.gauges.g i).across.hi, Go.SE.SV.int Go.IntKind.i64 (p.gauges.g i).bend], Go.SE.SV.sl (nat_lit 3)
 p.marks.n fun (i : Nat) ↦ [Go.SE.SV.int Go.IntKind.i64 (p.marks.g i).edge, Go.SE.SV.int Go.IntKind.i64 (p.marks.g i).place, Go.SE.SV.int Go.IntKind.i64 (p.marks.g i).tone]] (nat_lit 0) ∧ vk (nat_lit 6) = vk (nat_lit 6) ∧ vk (nat_lit 3) = vk (nat_lit 3) ∧ Bool.false = Bool.false ∧ ∀ (j : Nat), j < k + (1 : Nat) → L.holdsR (p.gauges.g j) (L.meas l s j) = Bool.true)) ∧ ∀ (t : Nat), (∀ (j : Nat), j <
 l.n → L.holdsR (p.gauges.g j) (L.meas l s j) = Bool.true) → Bool.true = L.fits p l s)) (by kernel_rfl) (by
    obtain ⟨hv, hgg, s0, s1⟩ := hp
    obtain ⟨⟨g3, g24⟩, hg⟩ := gauge_ok hgg
    refine ⟨fun h => ?_, fun h => ?_⟩
    · unfold L.fits; rw [notT h]; rfl
    have hd := notF h
    have hn : l.n = p.gauges.n := by have := of_decide_eq_true hd; omega
    refine ⟨⟨fun _ _ => rfl, by omega⟩, ⟨⟨fun _ _ => rfl, fun _ _ => rfl, rfl, rfl, ?_, fun _ _ => rfl, by omega, by omega, by omega, by omega⟩, (0 : Nat), rfl, fun j hj => absurd hj (Nat.not_lt_zero _)⟩, fun k t vk hk hi => ?_, fun t hi => ?_⟩
    · rw [show L.validOutline (L.Sq.mk l.n fun i => l.g i) = true from hv]; rfl
    · have e0 : ((k : Int)).toNat = k := by omega
      have hgk := hg k (by omega)
      rw [e0]
      refine ⟨by omega, ⟨by omega, by omega⟩, fun h1 => ⟨rfl, rfl, rfl, rfl, ?_⟩, fun h1 => ⟨t, rfl, rfl, rfl, rfl, rfl, fun j hj => ?_⟩⟩
      · have h1 : L.holdsR (p.gauges.g k) (L.meas l s k) = false := notT h1
        unfold L.fits; rw [hd, allB_false (i := k) hk h1]; rfl
      · rcases Nat.lt_succ_iff_lt_or_eq.1 hj with h' | rfl
        · exact hi j h'
        · exact notF h1
    · unfold L.fits; rw [hd, allB_iff.2 hi]; rfl)
theorem g_fits_ok : SpecOk Try.prog 83 g_fits_S := fnX Try.func83 (c := bodyOf Try.f83) (by kernel_rfl) mixed (fun args p r hs hp => by
  unfold g_fits_s at hs
  split at hs
  · cases hs; exact ⟨_, _, g_fits_vc _ _ _ hp.2.2.2, (.p (.agg rfl (fun i hi => by
      rcases i with _ | i
      · exact (Ext.refl _ : Ext _ _)
      rcases i with _ | i
      · exact (Ext.refl _ : Ext _ _)
      rcases i with _ | i
      · exact (Ext.refl _ : Ext _ _)
      rcases i with _ | i
      · exact (Ext.refl _ : Ext _ _)
      rcases i with _ | i
      · exact (Ext.refl _ : Ext _ _)
      rcases i with _ | i
      · exact (Ext.sl hp.1 : Ext _ _)
      rcases i with _ | i
      · exact (Ext.sl hp.2.1 : Ext _ _)
      exact absurd hi (by simp; try omega))) (.p (.sl hp.2.2.1) (.same _ .nil))), ⟨show SpecsL Try.prog _ from (SpecsL.cons g_measures_ok g_measures_en (SpecsL.cons g_holds_ok g_holds_en SpecsL.nil)), rfl, ⟨show ItersL Try.prog _ from (ItersL.cons g_meas2_itok g_meas2_en ItersL.nil), (TrsOk.none (fun _ => rfl))⟩⟩⟩
  · cases hs)
theorem g_fits_en : Enters Try.prog 83 := fun args w => by kernel_rfl
theorem g_fits_B : ∀ args p r, g_fits_s args = some (p, r) → ∃ b, r = .bool b := by
  intro args p r h
  unfold g_fits_s at h
  split at h
  · cases h; exact ⟨_, rfl⟩
  · cases h
def g_all1_p (n : Int) : Prop := 0 ≤ n ∧ n ≤ 1000
def g_all1_n (n : Int) : Nat := (2 * n).toNat
def g_all1_i (n : Int) : Nat → List SV := fun k => [(.agg [.int .i64 ((L.sett k).shift), .bool ((L.sett k).back)])]
def g_all1_ic : List SV → Option (Prop × Nat × (Nat → List SV))
  | [.ref [.int .i64 n] 0] => some (g_all1_p n, g_all1_n n, g_all1_i n)
  | _ => none
abbrev g_all1_it : ItSpec := itOf g_all1_ic
def g_all1_C : Cfg := { muts := [], frz := lookN [], specs := lookS [], loops := fun _ => none, iters := lookI [], rfs := lookR [] }
theorem g_all1_vc (yl : Nat) (n : Int) (hp : g_all1_p n) : vc Try.prog { g_all1_C with loops := lookL [(1, { T := Nat, keep := [0, 1, 5], keepO := [], chg := fun i => [(6, .p (.int .i64 (i : Int)))], own := fun _ => [], inv := fun i => i ≤ (2 * n).toNat, mu := fun i => (2 * n).toNat - i, yk := some (fun i => i) })], yld := some ⟨yl, g_all1_n n, g_all1_i n⟩ } (bodyOf Try.f130) (st0 Try.f130 (.yield yl :: ([.ref [.int .i64 n] 0] : List SV).map .p)) (retIt Try.prog Try.f130 (g_all1_n n)) :=
  @Eq.mpr _ (Go.SE.InK Go.IntKind.i64 ((2 : Int) * n) ∧ (∃ (g : Nat), nat_lit 0 = g ∧ Bool.false = Bool.false ∧ (0 : Int) = (↑g : Int) ∧ g ≤ Int.toNat ((2 : Int) * n)) ∧ ∀ (g : Nat), g ≤ Int.toNat ((2 : Int) * n) → (Decidable.decide ((↑g : Int) < (2 : Int) * n) = Bool.true → (2 : Int) ≠ (0 : Int) ∧ Go.SE.InK Go.IntKind.i64 (Int.tdiv (↑g : Int) (2 : Int)) ∧ (2 : Int) ≠ (0 : Int) ∧ yl = yl ∧ g < Int.toNat ((2 :
 Int) * n) ∧ [Go.SE.SV.agg [Go.SE.SV.int Go.IntKind.i64 (Int.tdiv (↑g : Int) (2 : Int)), Go.SE.SV.bool (Decidable.decide (Int.tmod (↑g : Int) (2 : Int) = (1 : Int)))]] = [Go.SE.SV.agg [Go.SE.SV.int Go.IntKind.i64 (L.sett g).shift, Go.SE.SV.bool (L.sett g).back]] ∧ ((Bool.false = Bool.true → g + (1 : Nat) = Int.toNat ((2 : Int) * n) ∨ g + (1 : Nat) = Int.toNat ((2 : Int) * n) + (1 : Nat)) ∧
 (Bool.false = Bool.false → Go.SE.InK Go.IntKind.i64 ((↑g : Int) + (1 : Int)) ∧ ∃ (g' : Nat), g + (1 : Nat) = g' ∧ Bool.false = Bool.false ∧ (↑g : Int) + (1 : Int) = (↑g' : Int) ∧ (2 : Int) * n = (2 : Int) * n ∧ yl = yl ∧ Go.SE.SV.ref [Go.SE.SV.int Go.IntKind.i64 n] (nat_lit 0) = Go.SE.SV.ref [Go.SE.SV.int Go.IntKind.i64 n] (nat_lit 0) ∧ g' ≤ Int.toNat ((2 : Int) * n) ∧ Int.toNat ((2 : Int) * n) -
 g' < Int.toNat ((2 : Int) * n) - g)) ∧ (Bool.true = Bool.true → Int.toNat ((2 : Int) * n) + (1 : Nat) = Int.toNat ((2 : Int) * n) ∨ Int.toNat ((2 : Int) * n) + (1 : Nat) = Int.toNat ((2 : Int) * n) + (1 : Nat)) ∧ (Bool.true = Bool.false → Go.SE.InK Go.IntKind.i64 ((↑g : Int) + (1 : Int)) ∧ ∃ (g' : Nat), Int.toNat ((2 : Int) * n) + (1 : Nat) = g' ∧ Bool.false = Bool.false ∧ (↑g : Int) + (1 : Int) =
 (↑g' : Int) ∧ (2 : Int) * n = (2 : Int) * n ∧ yl = yl ∧ Go.SE.SV.ref [Go.SE.SV.int Go.IntKind.i64 n] (nat_lit 0) = Go.SE.SV.ref [Go.SE.SV.int Go.IntKind.i64 n] (nat_lit 0) ∧ g' ≤ Int.toNat ((2 : Int) * n) ∧ Int.toNat ((2 : Int) * n) - g' < Int.toNat ((2 : Int) * n) - g)) ∧ (Decidable.decide ((↑g : Int) < (2 : Int) * n) = Bool.false → g = Int.toNat ((2 : Int) * n) ∨ g = Int.toNat ((2 : Int) * n) +
 (1 : Nat))) (by kernel_rfl) (by
    obtain ⟨h0, h1⟩ := hp
    refine ⟨InK.of (by omega) (by omega), ⟨(0 : Nat), rfl, rfl, rfl, Nat.zero_le _⟩, fun g hg => ⟨fun hlt => ?_, fun hge => ?_⟩⟩
    rotate_left
    · have : ¬ (g : Int) < 2 * n := of_decide_eq_false hge
      exact .inl (by omega)
    have hb : (g : Int) < 2 * n := of_decide_eq_true hlt
    have t1 : 0 ≤ Int.tdiv (g : Int) 2 ∧ Int.tdiv (g : Int) 2 ≤ (g : Int) := by
      rw [Int.tdiv_eq_ediv_of_nonneg (by omega)]; omega
    exact ⟨by omega, InK.of (by omega) (by omega), by omega, rfl, by omega, rfl, ⟨fun h => (by cases h), fun _ => ⟨InK.of (by omega) (by omega), g + 1, rfl, rfl, by omega, rfl, rfl, rfl, by omega, by omega⟩⟩, fun _ => .inr rfl, fun h => (by cases h)⟩)
theorem g_all1_itok : ItOk Try.prog 130 g_all1_it := iterX Try.func130 (c := bodyOf Try.f130) (by kernel_rfl) mixed (fun caps l p n g hs hp => by
  unfold g_all1_ic at hs
  split at hs
  · cases hs; exact ⟨_, _, g_all1_vc l _ hp, (.cons (Ext.refl _) .nil), rfl, show SpecsL Try.prog _ from SpecsL.nil, ⟨show ItersL Try.prog _ from ItersL.nil, TrsOk.none (fun _ => rfl)⟩⟩
  · cases hs)
theorem g_all1_en : Enters Try.prog 130 := fun args w => by kernel_rfl
def g_all_p (n : Int) : Prop := True
def g_all_r (n : Int) : SV := .clo 130 [.ref [.int .i64 n] 0]
def g_all_s : List EV → Option (Prop × SV)
  | [.p (.int .i64 n)] => some (g_all_p n, g_all_r n)
  | _ => none
abbrev g_all_S : SE.Spec := (specO g_all_s)
def g_all_C : Cfg := { muts := [], frz := lookN [], specs := lookS [], loops := lookL [], iters := lookI [], rfs := lookR [], nils := lookM [] }
theorem g_all_vc (n : Int) (hp : g_all_p n) : vc Try.prog (g_all_C) (bodyOf Try.f85) (st0 Try.f85 [.p (.int .i64 n)]) (retFn Try.prog Try.f85 (g_all_r n)) :=
  @Eq.mpr _ (Go.SE.SV.clo (nat_lit 130) [Go.SE.SV.ref [Go.SE.SV.int Go.IntKind.i64 n] (nat_lit 0)] = Go.SE.SV.clo (nat_lit 130) [Go.SE.SV.ref [Go.SE.SV.int Go.IntKind.i64 n] (nat_lit 0)]) (by kernel_rfl) (by
    exact rfl)
theorem g_all_ok : SpecOk Try.prog 85 g_all_S := fnX Try.func85 (c := bodyOf Try.f85) (by kernel_rfl) mixed (fun args p r hs hp => by
  unfold g_all_s at hs
  split at hs
  · cases hs; exact ⟨_, _, g_all_vc _ hp, (.same _ .nil), ⟨show SpecsL Try.prog _ from SpecsL.nil, rfl, ⟨show ItersL Try.prog _ from ItersL.nil, (TrsOk.none (fun _ => rfl))⟩⟩⟩
  · cases hs)
theorem g_all_en : Enters Try.prog 85 := fun args w => by kernel_rfl
def p_ValidSetting_p (s : L.Setting) (n : Int) : Prop := -1000000 ≤ n ∧ n ≤ 1000000
def p_ValidSetting_r (s : L.Setting) (n : Int) : SV := .bool (L.validSet s n)
def p_ValidSetting_s : List EV → Option (Prop × SV)
  | [.p (.agg [.int .i64 s_shift, .bool s_back]), .p (.int .i64 n)] => some (p_ValidSetting_p (⟨s_shift, s_back⟩ : L.Setting) n, p_ValidSetting_r (⟨s_shift, s_back⟩ : L.Setting) n)
  | _ => none
abbrev p_ValidSetting_S : SE.Spec := (specO p_ValidSetting_s)
def p_ValidSetting_C : Cfg := { muts := [], frz := lookN [], specs := lookS [(113, p_within_S)], loops := lookL [], iters := lookI [], rfs := lookR [], nils := lookM [] }
theorem p_ValidSetting_vc (s : L.Setting) (n : Int) (hp : p_ValidSetting_p s n) : vc Try.prog (p_ValidSetting_C) (bodyOf Try.f82) (st0 Try.f82 [.p (.agg [.int .i64 s.shift, .bool s.back]), .p (.int .i64 n)]) (retFn Try.prog Try.f82 (p_ValidSetting_r s n)) :=
  @Eq.mpr _ (True ∧ (L.within n (3 : Int) (24 : Int) = Bool.true → Go.SE.InK Go.IntKind.i64 (n - (1 : Int))) ∧ (L.within n (3 : Int) (24 : Int) = Bool.true → True) ∧ (bif L.within n (3 : Int) (24 : Int) then L.within s.shift (0 : Int) (n - (1 : Int)) else Bool.false) = L.validSet s n) (by kernel_rfl) (by
    obtain ⟨h1, h2⟩ := hp
    exact ⟨trivial, fun _ => InK.of (by omega) (by omega), fun _ => trivial, rfl⟩)
theorem p_ValidSetting_ok : SpecOk Try.prog 82 p_ValidSetting_S := fnX Try.func82 (c := bodyOf Try.f82) (by kernel_rfl) mixed (fun args p r hs hp => by
  unfold p_ValidSetting_s at hs
  split at hs
  · cases hs; exact ⟨_, _, p_ValidSetting_vc _ _ hp, (.same _ (.same _ .nil)), ⟨show SpecsL Try.prog _ from (SpecsL.cons p_within_ok p_within_en SpecsL.nil), rfl, ⟨show ItersL Try.prog _ from ItersL.nil, (TrsOk.none (fun _ => rfl))⟩⟩⟩
  · cases hs)
theorem p_ValidSetting_en : Enters Try.prog 82 := fun args w => by kernel_rfl
theorem p_ValidSetting_B : ∀ args p r, p_ValidSetting_s args = some (p, r) → ∃ b, r = .bool b := by
  intro args p r h
  unfold p_ValidSetting_s at h
  split at h
  · cases h; exact ⟨_, rfl⟩
  · cases h
def g_Fits_p (p : L.Piece) (l : (L.Sq L.Pt)) (s : L.Setting) : Prop := p.gauges.n ≤ 1000000 ∧ p.marks.n ≤ 1000000 ∧ l.n ≤ 1000000
def g_Fits_r (p : L.Piece) (l : (L.Sq L.Pt)) (s : L.Setting) : SV := .tup [.bool (L.fitsV p l s), .int .i64 (L.fitsE p l s)]
def g_Fits_s : List EV → Option (Prop × SV)
  | [.p (.agg [.int .i64 p_id, .int .i64 p_colour, .int .i64 p_rev, .int .i64 p_made, .int .i64 p_swell, .sl 5 p_gauges_n p_gauges_g, .sl 3 p_marks_n p_marks_g]), .p (.sl 2 l_n l_g), .p (.agg [.int .i64 s_shift, .bool s_back])] => some ((∀ i, i < p_gauges_n → p_gauges_g i = [.int .i64 ((ofGauge (p_gauges_g i)).edge.lo), .int .i64 ((ofGauge (p_gauges_g i)).edge.hi), .int .i64 ((ofGauge (p_gauges_g i)).across.lo), .int .i64 ((ofGauge (p_gauges_g i)).across.hi), .int .i64 ((ofGauge (p_gauges_g i)).bend)]) ∧ (∀ i, i < p_marks_n → p_marks_g i = [.int .i64 ((ofMark (p_marks_g i)).edge), .int .i64 ((ofMark (p_marks_g i)).place), .int .i64 ((ofMark (p_marks_g i)).tone)]) ∧ (∀ i, i < l_n → l_g i = [.int .i64 ((ofPt (l_g i)).x), .int .i64 ((ofPt (l_g i)).y)]) ∧ g_Fits_p (⟨p_id, p_colour, p_rev, p_made, p_swell, (⟨p_gauges_n, fun i => ofGauge (p_gauges_g i)⟩ : (L.Sq L.Gauge)), (⟨p_marks_n, fun i => ofMark (p_marks_g i)⟩ : (L.Sq L.Mark))⟩ : L.Piece) (⟨l_n, fun i => ofPt (l_g i)⟩ : (L.Sq L.Pt)) (⟨s_shift, s_back⟩ : L.Setting), g_Fits_r (⟨p_id, p_colour, p_rev, p_made, p_swell, (⟨p_gauges_n, fun i => ofGauge (p_gauges_g i)⟩ : (L.Sq L.Gauge)), (⟨p_marks_n, fun i => ofMark (p_marks_g i)⟩ : (L.Sq L.Mark))⟩ : L.Piece) (⟨l_n, fun i => ofPt (l_g i)⟩ : (L.Sq L.Pt)) (⟨s_shift, s_back⟩ : L.Setting))
  | _ => none
abbrev g_Fits_S : SE.Spec := (specO g_Fits_s)
def g_Fits_C : Cfg := { muts := [], frz := lookN [], specs := lookS [(15, g_ValidPiece_S), (64, p_ValidOutline_S), (82, p_ValidSetting_S), (83, g_fits_S)], loops := lookL [], iters := lookI [], rfs := lookR [], nils := lookM [] }
theorem g_Fits_vc (p : L.Piece) (l : (L.Sq L.Pt)) (s : L.Setting) (hp : g_Fits_p p l s) : vc Try.prog (g_Fits_C) (bodyOf Try.f39) (st0 Try.f39 [.p (.agg [.int .i64 p.id, .int .i64 p.colour, .int .i64 p.rev, .int .i64 p.made, .int .i64 p.swell, .sl 5 p.gauges.n (fun i => [.int .i64 ((p.gauges.g i).edge.lo), .int .i64 ((p.gauges.g i).edge.hi), .int .i64 ((p.gauges.g i).across.lo), .int .i64 ((p.gauges.g i).across.hi), .int .i64 ((p.gauges.g i).bend)]), .sl 3 p.marks.n (fun i => [.int .i64 ((p.marks.g i).edge), .int .i64 ((p.marks.g i).place), .int .i64 ((p.marks.g i).tone)])]), .p (.sl 2 l.n (fun i => [.int .i64 ((l.g i).x), .int .i64 ((l.g i).y)])), .p (.agg [.int .i64 s.shift, .bool s.back])]) (retFn Try.prog Try.f39 (g_Fits_r p l s)) :=
  @Eq.mpr _ (((∀ (i : Nat), i < p.gauges.n → [Go.SE.SV.int Go.IntKind.i64 (p.gauges.g i).edge.lo, Go.SE.SV.int Go.IntKind.i64 (p.gauges.g i).edge.hi, Go.SE.SV.int Go.IntKind.i64 (p.gauges.g i).across.lo, Go.SE.SV.int Go.IntKind.i64 (p.gauges.g i).across.hi, Go.SE.SV.int Go.IntKind.i64 (p.gauges.g i).bend] = [Go.SE.SV.int Go.IntKind.i64 (p.gauges.g i).edge.lo, Go.SE.SV.int Go.IntKind.i64 (p.gauges.g i).edge.hi,
 Go.SE.SV.int Go.IntKind.i64 (p.gauges.g i).across.lo, Go.SE.SV.int Go.IntKind.i64 (p.gauges.g i).across.hi, Go.SE.SV.int Go.IntKind.i64 (p.gauges.g i).bend]) ∧ (∀ (i : Nat), i < p.marks.n → [Go.SE.SV.int Go.IntKind.i64 (p.marks.g i).edge, Go.SE.SV.int Go.IntKind.i64 (p.marks.g i).place, Go.SE.SV.int Go.IntKind.i64 (p.marks.g i).tone] = [Go.SE.SV.int Go.IntKind.i64 (p.marks.g i).edge, Go.SE.SV.int
 Go.IntKind.i64 (p.marks.g i).place, Go.SE.SV.int Go.IntKind.i64 (p.marks.g i).tone]) ∧ p.gauges.n ≤ (1000000 : Nat) ∧ p.marks.n ≤ (1000000 : Nat)) ∧ ((!L.validPiece (L.Piece.mk p.id p.colour p.rev p.made p.swell (L.Sq.mk p.gauges.n fun (i : Nat) ↦ p.gauges.g i) (L.Sq.mk p.marks.n fun (i : Nat) ↦ p.marks.g i))) = Bool.true → Bool.false = L.fitsV p l s ∧ (30 : Int) = L.fitsE p l s) ∧ ((!L.validPiece
 (L.Piece.mk p.id p.colour p.rev p.made p.swell (L.Sq.mk p.gauges.n fun (i : Nat) ↦ p.gauges.g i) (L.Sq.mk p.marks.n fun (i : Nat) ↦ p.marks.g i))) = Bool.false → ((∀ (i : Nat), i < l.n → [Go.SE.SV.int Go.IntKind.i64 (l.g i).x, Go.SE.SV.int Go.IntKind.i64 (l.g i).y] = [Go.SE.SV.int Go.IntKind.i64 (l.g i).x, Go.SE.SV.int Go.IntKind.i64 (l.g i).y]) ∧ l.n ≤ (1000000 : Nat)) ∧ ((!!L.validOutline
 (L.Sq.mk l.n fun (i : Nat) ↦ l.g i)) = Bool.true → (-1000000 : Int) ≤ (↑p.gauges.n : Int) ∧ (↑p.gauges.n : Int) ≤ (1000000 : Int)) ∧ ((bif !L.validOutline (L.Sq.mk l.n fun (i : Nat) ↦ l.g i) then Bool.true else !L.validSet s (↑p.gauges.n : Int)) = Bool.true → Bool.false = L.fitsV p l s ∧ (1 : Int) = L.fitsE p l s) ∧ ((bif !L.validOutline (L.Sq.mk l.n fun (i : Nat) ↦ l.g i) then Bool.true else
 !L.validSet s (↑p.gauges.n : Int)) = Bool.false → ((∀ (i : Nat), i < p.gauges.n → [Go.SE.SV.int Go.IntKind.i64 (p.gauges.g i).edge.lo, Go.SE.SV.int Go.IntKind.i64 (p.gauges.g i).edge.hi, Go.SE.SV.int Go.IntKind.i64 (p.gauges.g i).across.lo, Go.SE.SV.int Go.IntKind.i64 (p.gauges.g i).across.hi, Go.SE.SV.int Go.IntKind.i64 (p.gauges.g i).bend] = [Go.SE.SV.int Go.IntKind.i64 (p.gauges.g i).edge.lo,
 Go.SE.SV.int Go.IntKind.i64 (p.gauges.g i).edge.hi, Go.SE.SV.int Go.IntKind.i64 (p.gauges.g i).across.lo, Go.SE.SV.int Go.IntKind.i64 (p.gauges.g i).across.hi, Go.SE.SV.int Go.IntKind.i64 (p.gauges.g i).bend]) ∧ (∀ (i : Nat), i < p.marks.n → [Go.SE.SV.int Go.IntKind.i64 (p.marks.g i).edge, Go.SE.SV.int Go.IntKind.i64 (p.marks.g i).place, Go.SE.SV.int Go.IntKind.i64 (p.marks.g i).tone] =
 [Go.SE.SV.int Go.IntKind.i64 (p.marks.g i).edge, Go.SE.SV.int Go.IntKind.i64 (p.marks.g i).place, Go.SE.SV.int Go.IntKind.i64 (p.marks.g i).tone]) ∧ (∀ (i : Nat), i < l.n → [Go.SE.SV.int Go.IntKind.i64 (l.g i).x, Go.SE.SV.int Go.IntKind.i64 (l.g i).y] = [Go.SE.SV.int Go.IntKind.i64 (l.g i).x, Go.SE.SV.int Go.IntKind.i64 (l.g i).y]) ∧ L.fitP (L.Piece.mk p.id p.colour p.rev p.made p.swell (L.Sq.mk
 p.gauges.n fun (i : Nat) ↦ p.gauges.g i) (L.Sq.mk p.marks.n fun (i : Nat) ↦ p.marks.g i)) (L.Sq.mk l.n fun (i : Nat) ↦ l.g i) s) ∧ L.fits (L.Piece.mk p.id p.colour p.rev p.made p.swell (L.Sq.mk p.gauges.n fun (i : Nat) ↦ p.gauges.g i) (L.Sq.mk p.marks.n fun (i : Nat) ↦ p.marks.g i)) (L.Sq.mk l.n fun (i : Nat) ↦ l.g i) s = L.fitsV p l s ∧ (0 : Int) = L.fitsE p l s))) (by kernel_rfl) (by
    obtain ⟨h1, h2, h3⟩ := hp
    refine ⟨⟨fun _ _ => rfl, fun _ _ => rfl, h1, h2⟩, fun h => ?_, fun h => ⟨⟨fun _ _ => rfl, h3⟩, fun _ => by omega, fun h4 => ?_, fun h4 => ?_⟩⟩
    · have hv : L.validPiece p = false := notT h
      have e : L.fitsE p l s = 30 := by unfold L.fitsE; rw [hv]; rfl
      unfold L.fitsV; rw [e]; exact ⟨rfl, rfl⟩
    · have hv : L.validPiece p = true := notF h
      have h4 : (bif !L.validOutline l then true else !L.validSet s p.gauges.n) = true := h4
      have e : L.fitsE p l s = 1 := by unfold L.fitsE; rw [hv, h4]; rfl
      unfold L.fitsV; rw [e]; exact ⟨rfl, rfl⟩
    · have hv : L.validPiece p = true := notF h
      have h4 : (bif !L.validOutline l then true else !L.validSet s p.gauges.n) = false := h4
      have e : L.fitsE p l s = 0 := by unfold L.fitsE; rw [hv, h4]; rfl
      rw [bor, Bool.or_eq_false_iff] at h4
      have hs := validSet_iff.1 (notF h4.2)
      refine ⟨⟨fun _ _ => rfl, fun _ _ => rfl, fun _ _ => rfl, notF h4.1, piece_gauges hv, hs.2.1, hs.2.2⟩, ?_, e.symm⟩
      unfold L.fitsV; rw [e]; rfl)
theorem g_Fits_ok : SpecOk Try.prog 39 g_Fits_S := fnX Try.func39 (c := bodyOf Try.f39) (by kernel_rfl) mixed (fun args p r hs hp => by
  unfold g_Fits_s at hs
  split at hs
  · cases hs; exact ⟨_, _, g_Fits_vc _ _ _ hp.2.2.2, (.p (.agg rfl (fun i hi => by
      rcases i with _ | i
      · exact (Ext.refl _ : Ext _ _)
      rcases i with _ | i
      · exact (Ext.refl _ : Ext _ _)
      rcases i with _ | i
      · exact (Ext.refl _ : Ext _ _)
      rcases i with _ | i
      · exact (Ext.refl _ : Ext _ _)
      rcases i with _ | i
      · exact (Ext.refl _ : Ext _ _)
      rcases i with _ | i
      · exact (Ext.sl hp.1 : Ext _ _)
      rcases i with _ | i
      · exact (Ext.sl hp.2.1 : Ext _ _)
      exact absurd hi (by simp; try omega))) (.p (.sl hp.2.2.1) (.same _ .nil))), ⟨show SpecsL Try.prog _ from (SpecsL.cons g_ValidPiece_ok g_ValidPiece_en (SpecsL.cons p_ValidOutline_ok p_ValidOutline_en (SpecsL.cons p_ValidSetting_ok p_ValidSetting_en (SpecsL.cons g_fits_ok g_fits_en SpecsL.nil)))), rfl, ⟨show ItersL Try.prog _ from ItersL.nil, (TrsOk.none (fun _ => rfl))⟩⟩⟩
  · cases hs)
theorem g_Fits_en : Enters Try.prog 39 := fun args w => by kernel_rfl
def g_Settings_p (p : L.Piece) (l : (L.Sq L.Pt)) : Prop := p.gauges.n ≤ 1000000 ∧ p.marks.n ≤ 1000000 ∧ l.n ≤ 1000000
def g_Settings_r (p : L.Piece) (l : (L.Sq L.Pt)) : SV := .tup [.sl 2 (L.setN p l) (fun k => [.int .i64 ((L.setG p l k).shift), .bool ((L.setG p l k).back)]), .int .i64 (L.setE p l)]
def g_Settings_s : List EV → Option (Prop × SV)
  | [.p (.agg [.int .i64 p_id, .int .i64 p_colour, .int .i64 p_rev, .int .i64 p_made, .int .i64 p_swell, .sl 5 p_gauges_n p_gauges_g, .sl 3 p_marks_n p_marks_g]), .p (.sl 2 l_n l_g)] => some ((∀ i, i < p_gauges_n → p_gauges_g i = [.int .i64 ((ofGauge (p_gauges_g i)).edge.lo), .int .i64 ((ofGauge (p_gauges_g i)).edge.hi), .int .i64 ((ofGauge (p_gauges_g i)).across.lo), .int .i64 ((ofGauge (p_gauges_g i)).across.hi), .int .i64 ((ofGauge (p_gauges_g i)).bend)]) ∧ (∀ i, i < p_marks_n → p_marks_g i = [.int .i64 ((ofMark (p_marks_g i)).edge), .int .i64 ((ofMark (p_marks_g i)).place), .int .i64 ((ofMark (p_marks_g i)).tone)]) ∧ (∀ i, i < l_n → l_g i = [.int .i64 ((ofPt (l_g i)).x), .int .i64 ((ofPt (l_g i)).y)]) ∧ g_Settings_p (⟨p_id, p_colour, p_rev, p_made, p_swell, (⟨p_gauges_n, fun i => ofGauge (p_gauges_g i)⟩ : (L.Sq L.Gauge)), (⟨p_marks_n, fun i => ofMark (p_marks_g i)⟩ : (L.Sq L.Mark))⟩ : L.Piece) (⟨l_n, fun i => ofPt (l_g i)⟩ : (L.Sq L.Pt)), g_Settings_r (⟨p_id, p_colour, p_rev, p_made, p_swell, (⟨p_gauges_n, fun i => ofGauge (p_gauges_g i)⟩ : (L.Sq L.Gauge)), (⟨p_marks_n, fun i => ofMark (p_marks_g i)⟩ : (L.Sq L.Mark))⟩ : L.Piece) (⟨l_n, fun i => ofPt (l_g i)⟩ : (L.Sq L.Pt)))
  | _ => none
abbrev g_Settings_S : SE.Spec := (specO g_Settings_s)
def g_Settings_C : Cfg := { muts := [], frz := lookN [], specs := lookS [(15, g_ValidPiece_S), (64, p_ValidOutline_S), (85, g_all_S), (83, g_fits_S)], loops := lookL [], iters := lookI [(130, g_all1_it)], rfs := lookR [], nils := lookM [(6, [(6, 13, 65, 2)])] }
theorem g_Settings_vc (p : L.Piece) (l : (L.Sq L.Pt)) (hp : g_Settings_p p l) : vc Try.prog ({ g_Settings_C with loops := lookL [], rfs := lookR [(7, { T := Nat, keep := [2, 3, 6], keepO := [], own := fun k _ => [(6, .blk 67 [.row 13]), (13, .row 65 2 (L.cnt (L.fitK p l) k) (fun i => [.int .i64 ((L.sett (L.selN (L.fitK p l) k i)).shift), .bool ((L.sett (L.selN (L.fitK p l) k i)).back)]))], inv := fun k _ => k ≤ 2 * p.gauges.n })] }) (bodyOf Try.f41) (st0 Try.f41 [.p (.agg [.int .i64 p.id, .int .i64 p.colour, .int .i64 p.rev, .int .i64 p.made, .int .i64 p.swell, .sl 5 p.gauges.n (fun i => [.int .i64 ((p.gauges.g i).edge.lo), .int .i64 ((p.gauges.g i).edge.hi), .int .i64 ((p.gauges.g i).across.lo), .int .i64 ((p.gauges.g i).across.hi), .int .i64 ((p.gauges.g i).bend)]), .sl 3 p.marks.n (fun i => [.int .i64 ((p.marks.g i).edge), .int .i64 ((p.marks.g i).place), .int .i64 ((p.marks.g i).tone)])]), .p (.sl 2 l.n (fun i => [.int .i64 ((l.g i).x), .int .i64 ((l.g i).y)]))]) (retFn Try.prog Try.f41 (g_Settings_r p l)) :=
  @Eq.mpr _ (((∀ (i : Nat), i < p.gauges.n → [Go.SE.SV.int Go.IntKind.i64 (p.gauges.g i).edge.lo, Go.SE.SV.int Go.IntKind.i64 (p.gauges.g i).edge.hi, Go.SE.SV.int Go.IntKind.i64 (p.gauges.g i).across.lo, Go.SE.SV.int Go.IntKind.i64 (p.gauges.g i).across.hi, Go.SE.SV.int Go.IntKind.i64 (p.gauges.g i).bend] = [Go.SE.SV.int Go.IntKind.i64 (p.gauges.g i).edge.lo, Go.SE.SV.int Go.IntKind.i64 (p.gauges.g i).edge.hi,
 Go.SE.SV.int Go.IntKind.i64 (p.gauges.g i).across.lo, Go.SE.SV.int Go.IntKind.i64 (p.gauges.g i).across.hi, Go.SE.SV.int Go.IntKind.i64 (p.gauges.g i).bend]) ∧ (∀ (i : Nat), i < p.marks.n → [Go.SE.SV.int Go.IntKind.i64 (p.marks.g i).edge, Go.SE.SV.int Go.IntKind.i64 (p.marks.g i).place, Go.SE.SV.int Go.IntKind.i64 (p.marks.g i).tone] = [Go.SE.SV.int Go.IntKind.i64 (p.marks.g i).edge, Go.SE.SV.int
 Go.IntKind.i64 (p.marks.g i).place, Go.SE.SV.int Go.IntKind.i64 (p.marks.g i).tone]) ∧ p.gauges.n ≤ (1000000 : Nat) ∧ p.marks.n ≤ (1000000 : Nat)) ∧ ((!L.validPiece (L.Piece.mk p.id p.colour p.rev p.made p.swell (L.Sq.mk p.gauges.n fun (i : Nat) ↦ p.gauges.g i) (L.Sq.mk p.marks.n fun (i : Nat) ↦ p.marks.g i))) = Bool.true → L.setN p l = (0 : Nat) ∧ (30 : Int) = L.setE p l) ∧ ((!L.validPiece
 (L.Piece.mk p.id p.colour p.rev p.made p.swell (L.Sq.mk p.gauges.n fun (i : Nat) ↦ p.gauges.g i) (L.Sq.mk p.marks.n fun (i : Nat) ↦ p.marks.g i))) = Bool.false → ((∀ (i : Nat), i < l.n → [Go.SE.SV.int Go.IntKind.i64 (l.g i).x, Go.SE.SV.int Go.IntKind.i64 (l.g i).y] = [Go.SE.SV.int Go.IntKind.i64 (l.g i).x, Go.SE.SV.int Go.IntKind.i64 (l.g i).y]) ∧ l.n ≤ (1000000 : Nat)) ∧ ((!L.validOutline
 (L.Sq.mk l.n fun (i : Nat) ↦ l.g i)) = Bool.true → L.setN p l = (0 : Nat) ∧ (1 : Int) = L.setE p l) ∧ ((!L.validOutline (L.Sq.mk l.n fun (i : Nat) ↦ l.g i)) = Bool.false → True ∧ (((0 : Int) ≤ (↑p.gauges.n : Int) ∧ (↑p.gauges.n : Int) ≤ (1000 : Int)) ∧ ∃ (t : Nat), (nat_lit 0 = L.cnt (L.fitK p l) (0 : Nat) ∧ ∀ (i : Nat), i < nat_lit 0 → [] = [Go.SE.SV.int Go.IntKind.i64 (L.sett (L.selN (L.fitK p
 l) (0 : Nat) i)).shift, Go.SE.SV.bool (L.sett (L.selN (L.fitK p l) (0 : Nat) i)).back]) ∧ (0 : Nat) ≤ (2 : Nat) * p.gauges.n) ∧ (∀ (k t : Nat) (vk : Nat → Go.Value), k < Int.toNat ((2 : Int) * (↑p.gauges.n : Int)) → k ≤ (2 : Nat) * p.gauges.n → ((∀ (i : Nat), i < p.gauges.n → [Go.SE.SV.int Go.IntKind.i64 (p.gauges.g i).edge.lo, Go.SE.SV.int Go.IntKind.i64 (p.gauges.g i).edge.hi, Go.SE.SV.int
 Go.IntKind.i64 (p.gauges.g i).across.lo, Go.SE.SV.int Go.IntKind.i64 (p.gauges.g i).across.hi, Go.SE.SV.int Go.IntKind.i64 (p.gauges.g i).bend] = [Go.SE.SV.int Go.IntKind.i64 (p.gauges.g i).edge.lo, Go.SE.SV.int Go.IntKind.i64 (p.gauges.g i).edge.hi, Go.SE.SV.int Go.IntKind.i64 (p.gauges.g i).across.lo, Go.SE.SV.int Go.IntKind.i64 (p.gauges.g i).across.hi, Go.SE.SV.int Go.IntKind.i64 (p.gauges.g
 i).bend]) ∧ (∀ (i : Nat), i < p.marks.n → [Go.SE.SV.int Go.IntKind.i64 (p.marks.g i).edge, Go.SE.SV.int Go.IntKind.i64 (p.marks.g i).place, Go.SE.SV.int Go.IntKind.i64 (p.marks.g i).tone] = [Go.SE.SV.int Go.IntKind.i64 (p.marks.g i).edge, Go.SE.SV.int Go.IntKind.i64 (p.marks.g i).place, Go.SE.SV.int Go.IntKind.i64 (p.marks.g i).tone]) ∧ (∀ (i : Nat), i < l.n → [Go.SE.SV.int Go.IntKind.i64 (l.g
 i).x, Go.SE.SV.int Go.IntKind.i64 (l.g i).y] = [Go.SE.SV.int Go.IntKind.i64 (l.g i).x, Go.SE.SV.int Go.IntKind.i64 (l.g i).y]) ∧ L.fitP (L.Piece.mk p.id p.colour p.rev p.made p.swell (L.Sq.mk p.gauges.n fun (i : Nat) ↦ p.gauges.g i) (L.Sq.mk p.marks.n fun (i : Nat) ↦ p.marks.g i)) (L.Sq.mk l.n fun (i : Nat) ↦ l.g i) (L.sett k)) ∧ (L.fits (L.Piece.mk p.id p.colour p.rev p.made p.swell (L.Sq.mk
 p.gauges.n fun (i : Nat) ↦ p.gauges.g i) (L.Sq.mk p.marks.n fun (i : Nat) ↦ p.marks.g i)) (L.Sq.mk l.n fun (i : Nat) ↦ l.g i) (L.sett k) = Bool.true → (L.cnt (L.fitK p l) k + nat_lit 1) * nat_lit 16 ≤ (140737488355328 : Nat) ∧ ∃ (t' : Nat), nat_lit 0 = nat_lit 0 ∧ Go.SE.SV.ref [Go.SE.SV.sl (nat_lit 2) l.n fun (i : Nat) ↦ [Go.SE.SV.int Go.IntKind.i64 (l.g i).x, Go.SE.SV.int Go.IntKind.i64 (l.g
 i).y]] (nat_lit 0) = Go.SE.SV.ref [Go.SE.SV.sl (nat_lit 2) l.n fun (i : Nat) ↦ [Go.SE.SV.int Go.IntKind.i64 (l.g i).x, Go.SE.SV.int Go.IntKind.i64 (l.g i).y]] (nat_lit 0) ∧ Go.SE.SV.ref [Go.SE.SV.int Go.IntKind.i64 p.id, Go.SE.SV.int Go.IntKind.i64 p.colour, Go.SE.SV.int Go.IntKind.i64 p.rev, Go.SE.SV.int Go.IntKind.i64 p.made, Go.SE.SV.int Go.IntKind.i64 p.swell, Go.SE.SV.sl (nat_lit 5)
 p.gauges.n fun (i : Nat) ↦ [Go.SE.SV.int Go.IntKind.i64 (p.gauges.g i).edge.lo, Go.SE.SV.int Go.IntKind.i64 (p.gauges.g i).edge.hi, Go.SE.SV.int Go.IntKind.i64 (p.gauges.g i).across.lo, Go.SE.SV.int Go.IntKind.i64 (p.gauges.g i).across.hi, Go.SE.SV.int Go.IntKind.i64 (p.gauges.g i).bend], Go.SE.SV.sl (nat_lit 3) p.marks.n fun (i : Nat) ↦ [Go.SE.SV.int Go.IntKind.i64 (p.marks.g i).edge,
 Go.SE.SV.int Go.IntKind.i64 (p.marks.g i).place, Go.SE.SV.int Go.IntKind.i64 (p.marks.g i).tone]] (nat_lit 0) = Go.SE.SV.ref [Go.SE.SV.int Go.IntKind.i64 p.id, Go.SE.SV.int Go.IntKind.i64 p.colour, Go.SE.SV.int Go.IntKind.i64 p.rev, Go.SE.SV.int Go.IntKind.i64 p.made, Go.SE.SV.int Go.IntKind.i64 p.swell, Go.SE.SV.sl (nat_lit 5) p.gauges.n fun (i : Nat) ↦ [Go.SE.SV.int Go.IntKind.i64 (p.gauges.g
 i).edge.lo, Go.SE.SV.int Go.IntKind.i64 (p.gauges.g i).edge.hi, Go.SE.SV.int Go.IntKind.i64 (p.gauges.g i).across.lo, Go.SE.SV.int Go.IntKind.i64 (p.gauges.g i).across.hi, Go.SE.SV.int Go.IntKind.i64 (p.gauges.g i).bend], Go.SE.SV.sl (nat_lit 3) p.marks.n fun (i : Nat) ↦ [Go.SE.SV.int Go.IntKind.i64 (p.marks.g i).edge, Go.SE.SV.int Go.IntKind.i64 (p.marks.g i).place, Go.SE.SV.int Go.IntKind.i64
 (p.marks.g i).tone]] (nat_lit 0) ∧ vk (nat_lit 6) = vk (nat_lit 6) ∧ vk (nat_lit 3) = vk (nat_lit 3) ∧ vk (nat_lit 2) = vk (nat_lit 2) ∧ (L.cnt (L.fitK p l) k + nat_lit 1 = L.cnt (L.fitK p l) (k + (1 : Nat)) ∧ ∀ (i : Nat), i < L.cnt (L.fitK p l) k + nat_lit 1 → Go.SE.appGet (L.cnt (L.fitK p l) k) (fun (i : Nat) ↦ [Go.SE.SV.int Go.IntKind.i64 (L.sett (L.selN (L.fitK p l) k i)).shift, Go.SE.SV.bool
 (L.sett (L.selN (L.fitK p l) k i)).back]) (fun (x : Nat) ↦ [Go.SE.SV.int Go.IntKind.i64 (L.sett k).shift, Go.SE.SV.bool (L.sett k).back]) i = [Go.SE.SV.int Go.IntKind.i64 (L.sett (L.selN (L.fitK p l) (k + (1 : Nat)) i)).shift, Go.SE.SV.bool (L.sett (L.selN (L.fitK p l) (k + (1 : Nat)) i)).back]) ∧ k + (1 : Nat) ≤ (2 : Nat) * p.gauges.n) ∧ (L.fits (L.Piece.mk p.id p.colour p.rev p.made p.swell
 (L.Sq.mk p.gauges.n fun (i : Nat) ↦ p.gauges.g i) (L.Sq.mk p.marks.n fun (i : Nat) ↦ p.marks.g i)) (L.Sq.mk l.n fun (i : Nat) ↦ l.g i) (L.sett k) = Bool.false → ∃ (t' : Nat), nat_lit 0 = nat_lit 0 ∧ Go.SE.SV.ref [Go.SE.SV.sl (nat_lit 2) l.n fun (i : Nat) ↦ [Go.SE.SV.int Go.IntKind.i64 (l.g i).x, Go.SE.SV.int Go.IntKind.i64 (l.g i).y]] (nat_lit 0) = Go.SE.SV.ref [Go.SE.SV.sl (nat_lit 2) l.n fun (i
 : Nat) ↦ [Go.SE.SV.int Go.IntKind.i64 (l.g i).x, Go.SE.SV.int Go.IntKind.i64 (l.g i).y]] (nat_lit 0) ∧ Go.SE.SV.ref [Go.SE.SV.int Go.IntKind.i64 p.id, Go.SE.SV.int Go.IntKind.i64 p.colour, Go.SE.SV.int Go.IntKind.i64 p.rev, Go.SE.SV.int Go.IntKind.i64 p.made, Go.SE.SV.int Go.IntKind.i64 p.swell, Go.SE.SV.sl (nat_lit 5) p.gauges.n fun (i : Nat) ↦ [Go.SE.SV.int Go.IntKind.i64 (p.gauges.g i).edge.lo,
 Go.SE.SV.int Go.IntKind.i64 (p.gauges.g i).edge.hi, Go.SE.SV.int Go.IntKind.i64 (p.gauges.g i).across.lo, Go.SE.SV.int Go.IntKind.i64 (p.gauges.g i).across.hi, Go.SE.SV.int Go.IntKind.i64 (p.gauges.g i).bend], Go.SE.SV.sl (nat_lit 3) p.marks.n fun (i : Nat) ↦ [Go.SE.SV.int Go.IntKind.i64 (p.marks.g i).edge, Go.SE.SV.int Go.IntKind.i64 (p.marks.g i).place, Go.SE.SV.int Go.IntKind.i64 (p.marks.g
 i).tone]] (nat_lit 0) = Go.SE.SV.ref [Go.SE.SV.int Go.IntKind.i64 p.id, Go.SE.SV.int Go.IntKind.i64 p.colour, Go.SE.SV.int Go.IntKind.i64 p.rev, Go.SE.SV.int Go.IntKind.i64 p.made, Go.SE.SV.int Go.IntKind.i64 p.swell, Go.SE.SV.sl (nat_lit 5) p.gauges.n fun (i : Nat) ↦ [Go.SE.SV.int Go.IntKind.i64 (p.gauges.g i).edge.lo, Go.SE.SV.int Go.IntKind.i64 (p.gauges.g i).edge.hi, Go.SE.SV.int
 Go.IntKind.i64 (p.gauges.g i).across.lo, Go.SE.SV.int Go.IntKind.i64 (p.gauges.g i).across.hi, Go.SE.SV.int Go.IntKind.i64 (p.gauges.g i).bend], Go.SE.SV.sl (nat_lit 3) p.marks.n fun (i : Nat) ↦ [Go.SE.SV.int Go.IntKind.i64 (p.marks.g i).edge, Go.SE.SV.int Go.IntKind.i64 (p.marks.g i).place, Go.SE.SV.int Go.IntKind.i64 (p.marks.g i).tone]] (nat_lit 0) ∧ vk (nat_lit 6) = vk (nat_lit 6) ∧ vk
 (nat_lit 3) = vk (nat_lit 3) ∧ vk (nat_lit 2) = vk (nat_lit 2) ∧ (L.cnt (L.fitK p l) k = L.cnt (L.fitK p l) (k + (1 : Nat)) ∧ ∀ (i : Nat), i < L.cnt (L.fitK p l) k → [Go.SE.SV.int Go.IntKind.i64 (L.sett (L.selN (L.fitK p l) k i)).shift, Go.SE.SV.bool (L.sett (L.selN (L.fitK p l) k i)).back] = [Go.SE.SV.int Go.IntKind.i64 (L.sett (L.selN (L.fitK p l) (k + (1 : Nat)) i)).shift, Go.SE.SV.bool (L.sett
 (L.selN (L.fitK p l) (k + (1 : Nat)) i)).back]) ∧ k + (1 : Nat) ≤ (2 : Nat) * p.gauges.n)) ∧ ∀ (t : Nat), Int.toNat ((2 : Int) * (↑p.gauges.n : Int)) ≤ (2 : Nat) * p.gauges.n → (L.cnt (L.fitK p l) (Int.toNat ((2 : Int) * (↑p.gauges.n : Int))) = L.setN p l ∧ ∀ (i : Nat), i < L.cnt (L.fitK p l) (Int.toNat ((2 : Int) * (↑p.gauges.n : Int))) → [Go.SE.SV.int Go.IntKind.i64 (L.sett (L.selN (L.fitK p l)
 (Int.toNat ((2 : Int) * (↑p.gauges.n : Int))) i)).shift, Go.SE.SV.bool (L.sett (L.selN (L.fitK p l) (Int.toNat ((2 : Int) * (↑p.gauges.n : Int))) i)).back] = [Go.SE.SV.int Go.IntKind.i64 (L.setG p l i).shift, Go.SE.SV.bool (L.setG p l i).back]) ∧ (0 : Int) = L.setE p l))) (by kernel_rfl) (by
    obtain ⟨h1, h2, h3⟩ := hp
    refine ⟨⟨fun _ _ => rfl, fun _ _ => rfl, h1, h2⟩, fun h => ?_, fun h => ⟨⟨fun _ _ => rfl, h3⟩, fun h4 => ?_, fun h4 => ?_⟩⟩
    · have hv : L.validPiece p = false := notT h
      have e : L.setE p l = 30 := by unfold L.setE; rw [hv]; rfl
      unfold L.setN; rw [e]; exact ⟨rfl, rfl⟩
    · have hv : L.validPiece p = true := notF h
      have hv2 : L.validOutline l = false := notT h4
      have e : L.setE p l = 1 := by unfold L.setE; rw [hv, hv2]; rfl
      unfold L.setN; rw [e]; exact ⟨rfl, rfl⟩
    have hv : L.validPiece p = true := notF h
    have hv2 : L.validOutline l = true := notF h4
    have e : L.setE p l = 0 := by unfold L.setE; rw [hv, hv2]; rfl
    have hgg := piece_gauges hv
    obtain ⟨⟨g3, g24⟩, hg⟩ := gauge_ok hgg
    have et : (2 * (p.gauges.n : Int)).toNat = 2 * p.gauges.n := by omega
    rw [et]
    refine ⟨trivial, ⟨by omega, (0 : Nat), ⟨rfl, fun i hi => absurd hi (Nat.not_lt_zero _)⟩, Nat.zero_le _⟩, fun k t vk hk hi => ?_, fun t _ => ⟨⟨?_, fun i hi => rfl⟩, e.symm⟩⟩
    · have hs := sett_lt hk
      have hc := cnt_le (p := L.fitK p l) (n := k)
      refine ⟨⟨fun _ _ => rfl, fun _ _ => rfl, fun _ _ => rfl, hv2, hgg, hs.1, hs.2⟩, fun h5 => ?_, fun h5 => ?_⟩
      · have h5 : L.fitK p l k = true := h5
        have c1 := cnt_yes h5
        refine ⟨show (L.cnt (L.fitK p l) k + 1) * 16 ≤ 140737488355328 by omega, t, rfl, rfl, rfl, rfl, rfl, rfl, ⟨c1.symm, fun i hi => ?_⟩, by omega⟩
        have hi : i < L.cnt (L.fitK p l) k + 1 := hi
        unfold appGet
        by_cases h' : i < L.cnt (L.fitK p l) k
        · rw [if_pos h', selN_old (Nat.ne_of_lt h')]
        · have : i = L.cnt (L.fitK p l) k := by omega
          rw [if_neg h', this, selN_new h5]
      · have h5 : L.fitK p l k = false := h5
        exact ⟨t, rfl, rfl, rfl, rfl, rfl, rfl, ⟨(cnt_not h5).symm, fun i hi => by rw [selN_not h5]⟩, by omega⟩
    · unfold L.setN; rw [e]; rfl)
theorem g_Settings_ok : SpecOk Try.prog 41 g_Settings_S := fnX Try.func41 (c := bodyOf Try.f41) (by kernel_rfl) mixed (fun args p r hs hp => by
  unfold g_Settings_s at hs
  split at hs
  · cases hs; exact ⟨_, _, g_Settings_vc _ _ hp.2.2.2, (.p (.agg rfl (fun i hi => by
      rcases i with _ | i
      · exact (Ext.refl _ : Ext _ _)
      rcases i with _ | i
      · exact (Ext.refl _ : Ext _ _)
      rcases i with _ | i
      · exact (Ext.refl _ : Ext _ _)
      rcases i with _ | i
      · exact (Ext.refl _ : Ext _ _)
      rcases i with _ | i
      · exact (Ext.refl _ : Ext _ _)
      rcases i with _ | i
      · exact (Ext.sl hp.1 : Ext _ _)
      rcases i with _ | i
      · exact (Ext.sl hp.2.1 : Ext _ _)
      exact absurd hi (by simp; try omega))) (.p (.sl hp.2.2.1) .nil)), ⟨show SpecsL Try.prog _ from (SpecsL.cons g_ValidPiece_ok g_ValidPiece_en (SpecsL.cons p_ValidOutline_ok p_ValidOutline_en (SpecsL.cons g_all_ok g_all_en (SpecsL.cons g_fits_ok g_fits_en SpecsL.nil)))), rfl, ⟨show ItersL Try.prog _ from (ItersL.cons g_all1_itok g_all1_en ItersL.nil), (TrsOk.none (fun _ => rfl))⟩⟩⟩
  · cases hs)
theorem g_Settings_en : Enters Try.prog 41 := fun args w => by kernel_rfl
end Go.Proofs.Ytipaekbdalahdaa

namespace Go.Proofs.Ytipaekbdalahdaa
open Go.SE Go.RowKit
set_option maxRecDepth 100000
set_option maxHeartbeats 4000000
set_option linter.unusedVariables false
attribute [local irreducible] Go.SE.vc

def L.sameS (a b : L.Setting) : Bool := decide (a.shift = b.shift) && (a.back == b.back)
def L.sameSs (a b : L.Sq L.Setting) : Bool := bif decide ((a.n : Int) = b.n) then L.allB a.n (fun i => L.sameS (a.g i) (b.g i)) else false
theorem sett_even (g : Nat) : L.sett (2 * g) = ⟨(g : Int), false⟩ := by
  unfold L.sett
  rw [Int.tdiv_eq_ediv_of_nonneg (by omega), Int.tmod_eq_emod_of_nonneg (by omega), decide_eq_false (by omega), show ((2 * g : Nat) : Int) / 2 = (g : Int) by omega]
theorem sett_odd (g : Nat) : L.sett (2 * g + 1) = ⟨(g : Int), true⟩ := by
  unfold L.sett
  rw [Int.tdiv_eq_ediv_of_nonneg (by omega), Int.tmod_eq_emod_of_nonneg (by omega), decide_eq_true (by omega), show ((2 * g + 1 : Nat) : Int) / 2 = (g : Int) by omega]
theorem sameS_refl (a : L.Setting) : L.sameS a a = true := by simp [L.sameS]
theorem sameSs_refl (a : L.Sq L.Setting) : L.sameSs a a = true := by
  unfold L.sameSs
  rw [decide_eq_true rfl, allB_iff.2 (fun i _ => sameS_refl (a.g i))]; rfl
def r1_ValidSetting_p (s : L.Setting) (n : Int) : Prop := True
def r1_ValidSetting_r (s : L.Setting) (n : Int) : SV := .bool (L.validSet s n)
def r1_ValidSetting_s : List EV → Option (Prop × SV)
  | [.p (.agg [.int .i64 s_shift, .bool s_back]), .p (.int .i64 n)] => some (r1_ValidSetting_p (⟨s_shift, s_back⟩ : L.Setting) n, r1_ValidSetting_r (⟨s_shift, s_back⟩ : L.Setting) n)
  | _ => none
abbrev r1_ValidSetting_S : SE.Spec := (specO r1_ValidSetting_s)
def r1_ValidSetting_C : Cfg := { muts := [], frz := lookN [], specs := lookS [], loops := lookL [], iters := lookI [], rfs := lookR [], nils := lookM [] }
theorem r1_ValidSetting_vc (s : L.Setting) (n : Int) (hp : r1_ValidSetting_p s n) : vc Try.prog (r1_ValidSetting_C) (bodyOf Try.f47) (st0 Try.f47 [.p (.agg [.int .i64 s.shift, .bool s.back]), .p (.int .i64 n)]) (retFn Try.prog Try.f47 (r1_ValidSetting_r s n)) :=
  @Eq.mpr _ ((bif bif bif Decidable.decide ((3 : Int) ≤ n) then Decidable.decide (n ≤ (24 : Int)) else Bool.false then Decidable.decide ((0 : Int) ≤ s.shift) else Bool.false then Decidable.decide (s.shift < n) else Bool.false) = L.validSet s n) (by kernel_rfl) (by
    rw [Bool.eq_iff_iff, validSet_iff, band, band, band, Bool.and_eq_true, Bool.and_eq_true, Bool.and_eq_true, decide_eq_true_eq, decide_eq_true_eq, decide_eq_true_eq, decide_eq_true_eq]
    omega)
theorem r1_ValidSetting_ok : SpecOk Try.prog 47 r1_ValidSetting_S := fnX Try.func47 (c := bodyOf Try.f47) (by kernel_rfl) mixed (fun args p r hs hp => by
  unfold r1_ValidSetting_s at hs
  split at hs
  · cases hs; exact ⟨_, _, r1_ValidSetting_vc _ _ hp, (.same _ (.same _ .nil)), ⟨show SpecsL Try.prog _ from SpecsL.nil, rfl, ⟨show ItersL Try.prog _ from ItersL.nil, (TrsOk.none (fun _ => rfl))⟩⟩⟩
  · cases hs)
theorem r1_ValidSetting_en : Enters Try.prog 47 := fun args w => by kernel_rfl
theorem r1_ValidSetting_B : ∀ args p r, r1_ValidSetting_s args = some (p, r) → ∃ b, r = .bool b := by
  intro args p r h
  unfold r1_ValidSetting_s at h
  split at h
  · cases h; exact ⟨_, rfl⟩
  · cases h
def r1_All_p (n : Int) : Prop := 0 ≤ n ∧ n ≤ 1000
def r1_All_q (n : Int) : Nat → Prop := fun _ => True
def r1_All_n (n : Int) : Nat → Nat := fun _ => (2 * n).toNat
def r1_All_g (n : Int) : Nat → Nat → List SV := fun _ i => [.int .i64 ((L.sett i).shift), .bool ((L.sett i).back)]
def r1_All_s : List EV → Option (Prop × (Nat → Prop) × (Nat → Nat) × (Nat → Nat → List SV))
  | [.p (.int .i64 n)] => some (r1_All_p n, r1_All_q n, r1_All_n n, r1_All_g n)
  | _ => none
abbrev r1_All_S : SE.Spec := (specF Nat 0 65 2 r1_All_s)
def r1_All_C : Cfg := { muts := [], frz := lookN [], specs := lookS [], loops := fun _ => none, iters := lookI [], rfs := lookR [], nils := lookM [(2, [(3, 20, 65, 2)])] }
theorem r1_All_vc (n : Int) (hp : r1_All_p n) : vc Try.prog ({ r1_All_C with loops := lookL [(3, { T := Nat, keep := [0, 3], keepO := [], chg := fun i => [(4, .p (.int .i64 (i : Int)))], own := fun i => [(20, .row 65 2 (2 * i) (fun k => [.int .i64 ((L.sett k).shift), .bool ((L.sett k).back)]))], inv := fun i => i ≤ n.toNat, mu := fun i => n.toNat - i })], rfs := lookR [] }) (bodyOf Try.f86) (st0 Try.f86 [.p (.int .i64 n)]) (retFresh Try.prog Try.f86 (Nat) (r1_All_q n) 65 2 (r1_All_n n) (r1_All_g n)) :=
  @Eq.mpr _ ((∃ (g : Nat), (0 : Int) = (↑g : Int) ∧ (nat_lit 0 = (2 : Nat) * g ∧ ∀ (i : Nat), i < nat_lit 0 → [] = [Go.SE.SV.int Go.IntKind.i64 (L.sett i).shift, Go.SE.SV.bool (L.sett i).back]) ∧ g ≤ Int.toNat n) ∧ ∀ (g : Nat), g ≤ Int.toNat n → (Decidable.decide ((↑g : Int) < n) = Bool.true → ((2 : Nat) * g + nat_lit 1) * nat_lit 16 ≤ (140737488355328 : Nat) ∧ ((2 : Nat) * g + nat_lit 1 + nat_lit 1) * nat_lit
 16 ≤ (140737488355328 : Nat) ∧ Go.SE.InK Go.IntKind.i64 ((↑g : Int) + (1 : Int)) ∧ ∃ (g' : Nat), (↑g : Int) + (1 : Int) = (↑g' : Int) ∧ n = n ∧ ((2 : Nat) * g + nat_lit 1 + nat_lit 1 = (2 : Nat) * g' ∧ ∀ (i : Nat), i < (2 : Nat) * g + nat_lit 1 + nat_lit 1 → Go.SE.appGet ((2 : Nat) * g + nat_lit 1) (Go.SE.appGet ((2 : Nat) * g) (fun (k : Nat) ↦ [Go.SE.SV.int Go.IntKind.i64 (L.sett k).shift,
 Go.SE.SV.bool (L.sett k).back]) fun (x : Nat) ↦ [Go.SE.SV.int Go.IntKind.i64 (↑g : Int), Go.SE.SV.bool Bool.false]) (fun (x : Nat) ↦ [Go.SE.SV.int Go.IntKind.i64 (↑g : Int), Go.SE.SV.bool Bool.true]) i = [Go.SE.SV.int Go.IntKind.i64 (L.sett i).shift, Go.SE.SV.bool (L.sett i).back]) ∧ g' ≤ Int.toNat n ∧ Int.toNat n - g' < Int.toNat n - g) ∧ (Decidable.decide ((↑g : Int) < n) = Bool.false → ∃ (t :
 Nat), ((2 : Nat) * g = Int.toNat ((2 : Int) * n) ∧ ∀ (i : Nat), i < (2 : Nat) * g → [Go.SE.SV.int Go.IntKind.i64 (L.sett i).shift, Go.SE.SV.bool (L.sett i).back] = [Go.SE.SV.int Go.IntKind.i64 (L.sett i).shift, Go.SE.SV.bool (L.sett i).back]) ∧ True)) (by kernel_rfl) (by
    obtain ⟨h0, h1⟩ := hp
    refine ⟨⟨(0 : Nat), rfl, ⟨rfl, fun i hi => absurd hi (Nat.not_lt_zero _)⟩, Nat.zero_le _⟩, fun g hg => ⟨fun hlt => ?_, fun hge => ?_⟩⟩
    · have hb : (g : Int) < n := of_decide_eq_true hlt
      refine ⟨show (2 * g + 1) * 16 ≤ 140737488355328 by omega, show (2 * g + 1 + 1) * 16 ≤ 140737488355328 by omega, InK.of (by omega) (by omega), g + 1, by omega, rfl, ⟨by show 2 * g + 1 + 1 = 2 * (g + 1); omega, fun i hi => ?_⟩, by omega, by omega⟩
      have hi : i < 2 * g + 1 + 1 := hi
      unfold appGet
      by_cases c1 : i < 2 * g + 1
      · rw [if_pos c1]
        by_cases c2 : i < 2 * g
        · rw [if_pos c2]
        · obtain rfl : i = 2 * g := by omega
          rw [if_neg c2, sett_even]
      · obtain rfl : i = 2 * g + 1 := by omega
        rw [if_neg c1, sett_odd]
    · have hb : ¬ (g : Int) < n := of_decide_eq_false hge
      exact ⟨(0 : Nat), ⟨by omega, fun _ _ => rfl⟩, trivial⟩)
theorem r1_All_ok : SpecOk Try.prog 86 r1_All_S := freshX Try.func86 (c := bodyOf Try.f86) (by kernel_rfl) mixed (fun args p q n g hs hp => by
  unfold r1_All_s at hs
  split at hs
  · cases hs; exact ⟨_, _, r1_All_vc _ hp, (.same _ .nil), ⟨show SpecsL Try.prog _ from SpecsL.nil, rfl, ⟨show ItersL Try.prog _ from ItersL.nil, (TrsOk.none (fun _ => rfl))⟩⟩⟩
  · cases hs)
theorem r1_All_en : Enters Try.prog 86 := fun args w => by kernel_rfl
def r1_SameSettings_p (a : (L.Sq L.Setting)) (b : (L.Sq L.Setting)) : Prop := a.n ≤ 1000000
def r1_SameSettings_r (a : (L.Sq L.Setting)) (b : (L.Sq L.Setting)) : SV := .bool (L.sameSs a b)
def r1_SameSettings_s : List EV → Option (Prop × SV)
  | [.p (.sl 2 a_n a_g), .p (.sl 2 b_n b_g)] => some ((∀ i, i < a_n → a_g i = [.int .i64 ((ofSetting (a_g i)).shift), .bool ((ofSetting (a_g i)).back)]) ∧ (∀ i, i < b_n → b_g i = [.int .i64 ((ofSetting (b_g i)).shift), .bool ((ofSetting (b_g i)).back)]) ∧ r1_SameSettings_p (⟨a_n, fun i => ofSetting (a_g i)⟩ : (L.Sq L.Setting)) (⟨b_n, fun i => ofSetting (b_g i)⟩ : (L.Sq L.Setting)), r1_SameSettings_r (⟨a_n, fun i => ofSetting (a_g i)⟩ : (L.Sq L.Setting)) (⟨b_n, fun i => ofSetting (b_g i)⟩ : (L.Sq L.Setting)))
  | _ => none
abbrev r1_SameSettings_S : SE.Spec := (specO r1_SameSettings_s)
def r1_SameSettings_C : Cfg := { muts := [], frz := lookN [], specs := lookS [], loops := fun _ => none, iters := lookI [], rfs := lookR [], nils := lookM [] }
theorem r1_SameSettings_vc (a : (L.Sq L.Setting)) (b : (L.Sq L.Setting)) (hp : r1_SameSettings_p a b) : vc Try.prog ({ r1_SameSettings_C with loops := lookL [(4, { T := Nat, keep := [0, 1], keepO := [], chg := fun i => [(5, .p (.int .i64 (i : Int)))], own := fun _ => [], inv := fun i => i ≤ a.n ∧ ∀ j, j < i → L.sameS (a.g j) (b.g j) = true, mu := fun i => a.n - i })], rfs := lookR [] }) (bodyOf Try.f43) (st0 Try.f43 [.p (.sl 2 a.n (fun i => [.int .i64 ((a.g i).shift), .bool ((a.g i).back)])), .p (.sl 2 b.n (fun i => [.int .i64 ((b.g i).shift), .bool ((b.g i).back)]))]) (retFn Try.prog Try.f43 (r1_SameSettings_r a b)) :=
  @Eq.mpr _ (((!Decidable.decide ((↑a.n : Int) = (↑b.n : Int))) = Bool.true → Bool.false = L.sameSs a b) ∧ ((!Decidable.decide ((↑a.n : Int) = (↑b.n : Int))) = Bool.false → (∃ (g : Nat), (0 : Int) = (↑g : Int) ∧ g ≤ a.n ∧ ∀ (j : Nat), j < g → L.sameS (a.g j) (b.g j) = Bool.true) ∧ ∀ (g : Nat), (g ≤ a.n ∧ ∀ (j : Nat), j < g → L.sameS (a.g j) (b.g j) = Bool.true) → (Decidable.decide ((↑g : Int) < (↑a.n : Int)) =
 Bool.true → ((0 : Int) ≤ (↑g : Int) ∧ (↑g : Int) < (↑a.n : Int)) ∧ ((0 : Int) ≤ (↑g : Int) ∧ (↑g : Int) < (↑b.n : Int)) ∧ ((!(Decidable.decide ((a.g (Int.toNat (↑g : Int))).shift = (b.g (Int.toNat (↑g : Int))).shift) && (a.g (Int.toNat (↑g : Int))).back == (b.g (Int.toNat (↑g : Int))).back)) = Bool.true → Bool.false = L.sameSs a b) ∧ ((!(Decidable.decide ((a.g (Int.toNat (↑g : Int))).shift = (b.g
 (Int.toNat (↑g : Int))).shift) && (a.g (Int.toNat (↑g : Int))).back == (b.g (Int.toNat (↑g : Int))).back)) = Bool.false → Go.SE.InK Go.IntKind.i64 ((↑g : Int) + (1 : Int)) ∧ ∃ (g' : Nat), (↑g : Int) + (1 : Int) = (↑g' : Int) ∧ (a.n = a.n ∧ ∀ (i : Nat), i < a.n → [Go.SE.SV.int Go.IntKind.i64 (a.g i).shift, Go.SE.SV.bool (a.g i).back] = [Go.SE.SV.int Go.IntKind.i64 (a.g i).shift, Go.SE.SV.bool (a.g
 i).back]) ∧ (b.n = b.n ∧ ∀ (i : Nat), i < b.n → [Go.SE.SV.int Go.IntKind.i64 (b.g i).shift, Go.SE.SV.bool (b.g i).back] = [Go.SE.SV.int Go.IntKind.i64 (b.g i).shift, Go.SE.SV.bool (b.g i).back]) ∧ (g' ≤ a.n ∧ ∀ (j : Nat), j < g' → L.sameS (a.g j) (b.g j) = Bool.true) ∧ a.n - g' < a.n - g)) ∧ (Decidable.decide ((↑g : Int) < (↑a.n : Int)) = Bool.false → Bool.true = L.sameSs a b))) (by kernel_rfl) (by
    have ha : a.n ≤ 1000000 := hp
    refine ⟨fun h => ?_, fun h => ?_⟩
    · unfold L.sameSs; rw [notT h]; rfl
    have hd := notF h
    have hn := of_decide_eq_true hd
    refine ⟨⟨(0 : Nat), rfl, Nat.zero_le _, fun j hj => absurd hj (Nat.not_lt_zero _)⟩, fun g hg => ⟨fun hlt => ?_, fun hge => ?_⟩⟩
    · have hb : (g : Int) < (a.n : Int) := of_decide_eq_true hlt
      have e0 : ((g : Int)).toNat = g := by omega
      rw [e0]
      refine ⟨by omega, by omega, fun h1 => ?_, fun h1 => ?_⟩
      · have h1 : L.sameS (a.g g) (b.g g) = false := notT h1
        unfold L.sameSs; rw [hd, allB_false (i := g) (by omega) h1]; rfl
      · have h1 : L.sameS (a.g g) (b.g g) = true := notF h1
        exact ⟨InK.of (by omega) (by omega), g + 1, by omega, ⟨rfl, fun _ _ => rfl⟩, ⟨rfl, fun _ _ => rfl⟩, ⟨by omega, fun j hj => by
          rcases Nat.lt_succ_iff_lt_or_eq.1 hj with h' | rfl
          · exact hg.2 j h'
          · exact h1⟩, by omega⟩
    · have hb : ¬ (g : Int) < (a.n : Int) := of_decide_eq_false hge
      unfold L.sameSs; rw [hd, allB_iff.2 (fun i hi => hg.2 i (by omega))]; rfl)
theorem r1_SameSettings_ok : SpecOk Try.prog 43 r1_SameSettings_S := fnX Try.func43 (c := bodyOf Try.f43) (by kernel_rfl) mixed (fun args p r hs hp => by
  unfold r1_SameSettings_s at hs
  split at hs
  · cases hs; exact ⟨_, _, r1_SameSettings_vc _ _ hp.2.2, (.p (.sl hp.1) (.p (.sl hp.2.1) .nil)), ⟨show SpecsL Try.prog _ from SpecsL.nil, rfl, ⟨show ItersL Try.prog _ from ItersL.nil, (TrsOk.none (fun _ => rfl))⟩⟩⟩
  · cases hs)
theorem r1_SameSettings_en : Enters Try.prog 43 := fun args w => by kernel_rfl
theorem r1_SameSettings_B : ∀ args p r, r1_SameSettings_s args = some (p, r) → ∃ b, r = .bool b := by
  intro args p r h
  unfold r1_SameSettings_s at h
  split at h
  · cases h; exact ⟨_, rfl⟩
  · cases h
def r3_Holds_p (g : L.Gauge) (m : L.Meas) : Prop := True
def r3_Holds_r (g : L.Gauge) (m : L.Meas) : SV := .bool (L.holdsR g m)
def r3_Holds_s : List EV → Option (Prop × SV)
  | [.p (.agg [.int .i64 g_edge_lo, .int .i64 g_edge_hi, .int .i64 g_across_lo, .int .i64 g_across_hi, .int .i64 g_bend]), .p (.agg [.int .i64 m_edge, .int .i64 m_across, .int .i64 m_bend])] => some (r3_Holds_p (⟨(⟨g_edge_lo, g_edge_hi⟩ : L.Span), (⟨g_across_lo, g_across_hi⟩ : L.Span), g_bend⟩ : L.Gauge) (⟨m_edge, m_across, m_bend⟩ : L.Meas), r3_Holds_r (⟨(⟨g_edge_lo, g_edge_hi⟩ : L.Span), (⟨g_across_lo, g_across_hi⟩ : L.Span), g_bend⟩ : L.Gauge) (⟨m_edge, m_across, m_bend⟩ : L.Meas))
  | _ => none
abbrev r3_Holds_S : SE.Spec := (specO r3_Holds_s)
def r3_Holds_C : Cfg := { muts := [], frz := lookN [], specs := lookS [(59, r3_within_S)], loops := lookL [], iters := lookI [], rfs := lookR [], nils := lookM [] }
theorem r3_Holds_vc (g : L.Gauge) (m : L.Meas) (hp : r3_Holds_p g m) : vc Try.prog (r3_Holds_C) (bodyOf Try.f129) (st0 Try.f129 [.p (.agg [.int .i64 g.edge.lo, .int .i64 g.edge.hi, .int .i64 g.across.lo, .int .i64 g.across.hi, .int .i64 g.bend]), .p (.agg [.int .i64 m.edge, .int .i64 m.across, .int .i64 m.bend])]) (retFn Try.prog Try.f129 (r3_Holds_r g m)) :=
  @Eq.mpr _ (True ∧ (L.within m.edge g.edge.lo g.edge.hi = Bool.true → True) ∧ (bif bif L.within m.edge g.edge.lo g.edge.hi then L.within m.across g.across.lo g.across.hi else Bool.false then bif Decidable.decide (g.bend = (0 : Int)) then Bool.true else Decidable.decide (g.bend = m.bend) else Bool.false) = L.holdsR g m) (by kernel_rfl) (by
    exact ⟨trivial, fun _ => trivial, rfl⟩)
theorem r3_Holds_ok : SpecOk Try.prog 129 r3_Holds_S := fnX Try.func129 (c := bodyOf Try.f129) (by kernel_rfl) mixed (fun args p r hs hp => by
  unfold r3_Holds_s at hs
  split at hs
  · cases hs; exact ⟨_, _, r3_Holds_vc _ _ hp, (.same _ (.same _ .nil)), ⟨show SpecsL Try.prog _ from (SpecsL.cons r3_within_ok r3_within_en SpecsL.nil), rfl, ⟨show ItersL Try.prog _ from ItersL.nil, (TrsOk.none (fun _ => rfl))⟩⟩⟩
  · cases hs)
theorem r3_Holds_en : Enters Try.prog 129 := fun args w => by kernel_rfl
theorem r3_Holds_B : ∀ args p r, r3_Holds_s args = some (p, r) → ∃ b, r = .bool b := by
  intro args p r h
  unfold r3_Holds_s at h
  split at h
  · cases h; exact ⟨_, rfl⟩
  · cases h
def r3_fits_p (p : L.Piece) (l : (L.Sq L.Pt)) (s : L.Setting) : Prop := L.fitP p l s
def r3_fits_r (p : L.Piece) (l : (L.Sq L.Pt)) (s : L.Setting) : SV := .bool (L.fits p l s)
def r3_fits_s : List EV → Option (Prop × SV)
  | [.p (.agg [.int .i64 p_id, .int .i64 p_colour, .int .i64 p_rev, .int .i64 p_made, .int .i64 p_swell, .sl 5 p_gauges_n p_gauges_g, .sl 3 p_marks_n p_marks_g]), .p (.sl 2 l_n l_g), .p (.agg [.int .i64 s_shift, .bool s_back])] => some ((∀ i, i < p_gauges_n → p_gauges_g i = [.int .i64 ((ofGauge (p_gauges_g i)).edge.lo), .int .i64 ((ofGauge (p_gauges_g i)).edge.hi), .int .i64 ((ofGauge (p_gauges_g i)).across.lo), .int .i64 ((ofGauge (p_gauges_g i)).across.hi), .int .i64 ((ofGauge (p_gauges_g i)).bend)]) ∧ (∀ i, i < p_marks_n → p_marks_g i = [.int .i64 ((ofMark (p_marks_g i)).edge), .int .i64 ((ofMark (p_marks_g i)).place), .int .i64 ((ofMark (p_marks_g i)).tone)]) ∧ (∀ i, i < l_n → l_g i = [.int .i64 ((ofPt (l_g i)).x), .int .i64 ((ofPt (l_g i)).y)]) ∧ r3_fits_p (⟨p_id, p_colour, p_rev, p_made, p_swell, (⟨p_gauges_n, fun i => ofGauge (p_gauges_g i)⟩ : (L.Sq L.Gauge)), (⟨p_marks_n, fun i => ofMark (p_marks_g i)⟩ : (L.Sq L.Mark))⟩ : L.Piece) (⟨l_n, fun i => ofPt (l_g i)⟩ : (L.Sq L.Pt)) (⟨s_shift, s_back⟩ : L.Setting), r3_fits_r (⟨p_id, p_colour, p_rev, p_made, p_swell, (⟨p_gauges_n, fun i => ofGauge (p_gauges_g i)⟩ : (L.Sq L.Gauge)), (⟨p_marks_n, fun i => ofMark (p_marks_g i)⟩ : (L.Sq L.Mark))⟩ : L.Piece) (⟨l_n, fun i => ofPt (l_g i)⟩ : (L.Sq L.Pt)) (⟨s_shift, s_back⟩ : L.Setting))
  | _ => none
abbrev r3_fits_S : SE.Spec := (specO r3_fits_s)
def r3_fits_C : Cfg := { muts := [], frz := lookN [], specs := lookS [(66, r3_measure_S), (129, r3_Holds_S)], loops := fun _ => none, iters := lookI [], rfs := lookR [], nils := lookM [] }
theorem r3_fits_vc (p : L.Piece) (l : (L.Sq L.Pt)) (s : L.Setting) (hp : r3_fits_p p l s) : vc Try.prog ({ r3_fits_C with loops := lookL [(4, { T := Nat, keep := [1, 3, 5], keepO := [], chg := fun i => [(7, .p (.int .i64 (i : Int)))], own := fun _ => [], inv := fun i => i ≤ l.n ∧ ∀ j, j < i → L.holdsR (p.gauges.g j) (L.meas l s j) = true, mu := fun i => l.n - i })], rfs := lookR [] }) (bodyOf Try.f84) (st0 Try.f84 [.p (.agg [.int .i64 p.id, .int .i64 p.colour, .int .i64 p.rev, .int .i64 p.made, .int .i64 p.swell, .sl 5 p.gauges.n (fun i => [.int .i64 ((p.gauges.g i).edge.lo), .int .i64 ((p.gauges.g i).edge.hi), .int .i64 ((p.gauges.g i).across.lo), .int .i64 ((p.gauges.g i).across.hi), .int .i64 ((p.gauges.g i).bend)]), .sl 3 p.marks.n (fun i => [.int .i64 ((p.marks.g i).edge), .int .i64 ((p.marks.g i).place), .int .i64 ((p.marks.g i).tone)])]), .p (.sl 2 l.n (fun i => [.int .i64 ((l.g i).x), .int .i64 ((l.g i).y)])), .p (.agg [.int .i64 s.shift, .bool s.back])]) (retFn Try.prog Try.f84 (r3_fits_r p l s)) :=
  @Eq.mpr _ (((!Decidable.decide ((↑p.gauges.n : Int) = (↑l.n : Int))) = Bool.true → Bool.false = L.fits p l s) ∧ ((!Decidable.decide ((↑p.gauges.n : Int) = (↑l.n : Int))) = Bool.false → (∃ (g : Nat), (0 : Int) = (↑g : Int) ∧ g ≤ l.n ∧ ∀ (j : Nat), j < g → L.holdsR (p.gauges.g j) (L.meas l s j) = Bool.true) ∧ ∀ (g : Nat), (g ≤ l.n ∧ ∀ (j : Nat), j < g → L.holdsR (p.gauges.g j) (L.meas l s j) = Bool.true) →
 (Decidable.decide ((↑g : Int) < (↑l.n : Int)) = Bool.true → ((0 : Int) ≤ (↑g : Int) ∧ (↑g : Int) < (↑p.gauges.n : Int)) ∧ ((∀ (i : Nat), i < l.n → [Go.SE.SV.int Go.IntKind.i64 (l.g i).x, Go.SE.SV.int Go.IntKind.i64 (l.g i).y] = [Go.SE.SV.int Go.IntKind.i64 (l.g i).x, Go.SE.SV.int Go.IntKind.i64 (l.g i).y]) ∧ L.allBd (L.Sq.mk l.n fun (i : Nat) ↦ l.g i) ∧ (1 : Nat) ≤ l.n ∧ (-10000 : Int) ≤ (↑g :
 Int) ∧ (↑g : Int) ≤ (10000 : Int) ∧ (-10000 : Int) ≤ s.shift ∧ s.shift ≤ (10000 : Int)) ∧ True ∧ ((!L.holdsR (p.gauges.g (Int.toNat (↑g : Int))) (L.measR (L.Sq.mk l.n fun (i : Nat) ↦ l.g i) s (↑g : Int))) = Bool.true → Bool.false = L.fits p l s) ∧ ((!L.holdsR (p.gauges.g (Int.toNat (↑g : Int))) (L.measR (L.Sq.mk l.n fun (i : Nat) ↦ l.g i) s (↑g : Int))) = Bool.false → Go.SE.InK Go.IntKind.i64 ((↑g
 : Int) + (1 : Int)) ∧ ∃ (g' : Nat), (↑g : Int) + (1 : Int) = (↑g' : Int) ∧ Go.SE.SV.ref [Go.SE.SV.int Go.IntKind.i64 s.shift, Go.SE.SV.bool s.back] (nat_lit 0) = Go.SE.SV.ref [Go.SE.SV.int Go.IntKind.i64 s.shift, Go.SE.SV.bool s.back] (nat_lit 0) ∧ Go.SE.SV.ref [Go.SE.SV.int Go.IntKind.i64 p.id, Go.SE.SV.int Go.IntKind.i64 p.colour, Go.SE.SV.int Go.IntKind.i64 p.rev, Go.SE.SV.int Go.IntKind.i64
 p.made, Go.SE.SV.int Go.IntKind.i64 p.swell, Go.SE.SV.sl (nat_lit 5) p.gauges.n fun (i : Nat) ↦ [Go.SE.SV.int Go.IntKind.i64 (p.gauges.g i).edge.lo, Go.SE.SV.int Go.IntKind.i64 (p.gauges.g i).edge.hi, Go.SE.SV.int Go.IntKind.i64 (p.gauges.g i).across.lo, Go.SE.SV.int Go.IntKind.i64 (p.gauges.g i).across.hi, Go.SE.SV.int Go.IntKind.i64 (p.gauges.g i).bend], Go.SE.SV.sl (nat_lit 3) p.marks.n fun (i
 : Nat) ↦ [Go.SE.SV.int Go.IntKind.i64 (p.marks.g i).edge, Go.SE.SV.int Go.IntKind.i64 (p.marks.g i).place, Go.SE.SV.int Go.IntKind.i64 (p.marks.g i).tone]] (nat_lit 0) = Go.SE.SV.ref [Go.SE.SV.int Go.IntKind.i64 p.id, Go.SE.SV.int Go.IntKind.i64 p.colour, Go.SE.SV.int Go.IntKind.i64 p.rev, Go.SE.SV.int Go.IntKind.i64 p.made, Go.SE.SV.int Go.IntKind.i64 p.swell, Go.SE.SV.sl (nat_lit 5) p.gauges.n
 fun (i : Nat) ↦ [Go.SE.SV.int Go.IntKind.i64 (p.gauges.g i).edge.lo, Go.SE.SV.int Go.IntKind.i64 (p.gauges.g i).edge.hi, Go.SE.SV.int Go.IntKind.i64 (p.gauges.g i).across.lo, Go.SE.SV.int Go.IntKind.i64 (p.gauges.g i).across.hi, Go.SE.SV.int Go.IntKind.i64 (p.gauges.g i).bend], Go.SE.SV.sl (nat_lit 3) p.marks.n fun (i : Nat) ↦ [Go.SE.SV.int Go.IntKind.i64 (p.marks.g i).edge, Go.SE.SV.int
 Go.IntKind.i64 (p.marks.g i).place, Go.SE.SV.int Go.IntKind.i64 (p.marks.g i).tone]] (nat_lit 0) ∧ (l.n = l.n ∧ ∀ (i : Nat), i < l.n → [Go.SE.SV.int Go.IntKind.i64 (l.g i).x, Go.SE.SV.int Go.IntKind.i64 (l.g i).y] = [Go.SE.SV.int Go.IntKind.i64 (l.g i).x, Go.SE.SV.int Go.IntKind.i64 (l.g i).y]) ∧ (g' ≤ l.n ∧ ∀ (j : Nat), j < g' → L.holdsR (p.gauges.g j) (L.meas l s j) = Bool.true) ∧ l.n - g' < l.n
 - g)) ∧ (Decidable.decide ((↑g : Int) < (↑l.n : Int)) = Bool.false → Bool.true = L.fits p l s))) (by kernel_rfl) (by
    obtain ⟨hv, hgg, s0, s1⟩ := hp
    obtain ⟨⟨g3, g24⟩, hg⟩ := gauge_ok hgg
    obtain ⟨n3, n24, hsm, hbd⟩ := validOutline_of hv
    refine ⟨fun h => ?_, fun h => ?_⟩
    · have := of_decide_eq_false (notT h)
      unfold L.fits; rw [decide_eq_false (show ¬ (l.n : Int) = (p.gauges.n : Int) by omega)]; rfl
    have hn : l.n = p.gauges.n := by have := of_decide_eq_true (notF h); omega
    have hd : decide ((l.n : Int) = (p.gauges.n : Int)) = true := decide_eq_true (by omega)
    refine ⟨⟨(0 : Nat), rfl, Nat.zero_le _, fun j hj => absurd hj (Nat.not_lt_zero _)⟩, fun g hgl => ⟨fun hlt => ?_, fun hge => ?_⟩⟩
    · have hb : (g : Int) < (l.n : Int) := of_decide_eq_true hlt
      have e0 : ((g : Int)).toNat = g := by omega
      have hm : L.measR (L.Sq.mk l.n fun i => l.g i) s (g : Int) = L.meas l s g := (meas_eq hv s0 (by omega) (by omega)).symm
      rw [e0, hm]
      refine ⟨by omega, ⟨fun _ _ => rfl, hbd, by omega, by omega, by omega, by omega, by omega⟩, trivial, fun h1 => ?_, fun h1 => ?_⟩
      · unfold L.fits; rw [hd, allB_false (i := g) (by omega) (notT h1)]; rfl
      · exact ⟨InK.of (by omega) (by omega), g + 1, by omega, rfl, rfl, ⟨rfl, fun _ _ => rfl⟩, ⟨by omega, fun j hj => by
          rcases Nat.lt_succ_iff_lt_or_eq.1 hj with h' | rfl
          · exact hgl.2 j h'
          · exact notF h1⟩, by omega⟩
    · have hb : ¬ (g : Int) < (l.n : Int) := of_decide_eq_false hge
      unfold L.fits; rw [hd, allB_iff.2 (fun i hi => hgl.2 i (by omega))]; rfl)
theorem r3_fits_ok : SpecOk Try.prog 84 r3_fits_S := fnX Try.func84 (c := bodyOf Try.f84) (by kernel_rfl) mixed (fun args p r hs hp => by
  unfold r3_fits_s at hs
  split at hs
  · cases hs; exact ⟨_, _, r3_fits_vc _ _ _ hp.2.2.2, (.p (.agg rfl (fun i hi => by
      rcases i with _ | i
      · exact (Ext.refl _ : Ext _ _)
      rcases i with _ | i
      · exact (Ext.refl _ : Ext _ _)
      rcases i with _ | i
      · exact (Ext.refl _ : Ext _ _)
      rcases i with _ | i
      · exact (Ext.refl _ : Ext _ _)
      rcases i with _ | i
      · exact (Ext.refl _ : Ext _ _)
      rcases i with _ | i
      · exact (Ext.sl hp.1 : Ext _ _)
      rcases i with _ | i
      · exact (Ext.sl hp.2.1 : Ext _ _)
      exact absurd hi (by simp; try omega))) (.p (.sl hp.2.2.1) (.same _ .nil))), ⟨show SpecsL Try.prog _ from (SpecsL.cons r3_measure_ok r3_measure_en (SpecsL.cons r3_Holds_ok r3_Holds_en SpecsL.nil)), rfl, ⟨show ItersL Try.prog _ from ItersL.nil, (TrsOk.none (fun _ => rfl))⟩⟩⟩
  · cases hs)
theorem r3_fits_en : Enters Try.prog 84 := fun args w => by kernel_rfl
theorem r3_fits_B : ∀ args p r, r3_fits_s args = some (p, r) → ∃ b, r = .bool b := by
  intro args p r h
  unfold r3_fits_s at h
  split at h
  · cases h; exact ⟨_, rfl⟩
  · cases h
def r3_Fits_p (p : L.Piece) (l : (L.Sq L.Pt)) (s : L.Setting) : Prop := p.gauges.n ≤ 1000000 ∧ p.marks.n ≤ 1000000 ∧ l.n ≤ 1000000
def r3_Fits_r (p : L.Piece) (l : (L.Sq L.Pt)) (s : L.Setting) : SV := .tup [.bool (L.fitsV p l s), .int .i64 (L.fitsE p l s)]
def r3_Fits_s : List EV → Option (Prop × SV)
  | [.p (.agg [.int .i64 p_id, .int .i64 p_colour, .int .i64 p_rev, .int .i64 p_made, .int .i64 p_swell, .sl 5 p_gauges_n p_gauges_g, .sl 3 p_marks_n p_marks_g]), .p (.sl 2 l_n l_g), .p (.agg [.int .i64 s_shift, .bool s_back])] => some ((∀ i, i < p_gauges_n → p_gauges_g i = [.int .i64 ((ofGauge (p_gauges_g i)).edge.lo), .int .i64 ((ofGauge (p_gauges_g i)).edge.hi), .int .i64 ((ofGauge (p_gauges_g i)).across.lo), .int .i64 ((ofGauge (p_gauges_g i)).across.hi), .int .i64 ((ofGauge (p_gauges_g i)).bend)]) ∧ (∀ i, i < p_marks_n → p_marks_g i = [.int .i64 ((ofMark (p_marks_g i)).edge), .int .i64 ((ofMark (p_marks_g i)).place), .int .i64 ((ofMark (p_marks_g i)).tone)]) ∧ (∀ i, i < l_n → l_g i = [.int .i64 ((ofPt (l_g i)).x), .int .i64 ((ofPt (l_g i)).y)]) ∧ r3_Fits_p (⟨p_id, p_colour, p_rev, p_made, p_swell, (⟨p_gauges_n, fun i => ofGauge (p_gauges_g i)⟩ : (L.Sq L.Gauge)), (⟨p_marks_n, fun i => ofMark (p_marks_g i)⟩ : (L.Sq L.Mark))⟩ : L.Piece) (⟨l_n, fun i => ofPt (l_g i)⟩ : (L.Sq L.Pt)) (⟨s_shift, s_back⟩ : L.Setting), r3_Fits_r (⟨p_id, p_colour, p_rev, p_made, p_swell, (⟨p_gauges_n, fun i => ofGauge (p_gauges_g i)⟩ : (L.Sq L.Gauge)), (⟨p_marks_n, fun i => ofMark (p_marks_g i)⟩ : (L.Sq L.Mark))⟩ : L.Piece) (⟨l_n, fun i => ofPt (l_g i)⟩ : (L.Sq L.Pt)) (⟨s_shift, s_back⟩ : L.Setting))
  | _ => none
abbrev r3_Fits_S : SE.Spec := (specO r3_Fits_s)
def r3_Fits_C : Cfg := { muts := [], frz := lookN [], specs := lookS [(16, r3_ValidPiece_S), (44, r1_ValidOutline_S), (47, r1_ValidSetting_S), (84, r3_fits_S)], loops := lookL [], iters := lookI [], rfs := lookR [], nils := lookM [] }
theorem r3_Fits_vc (p : L.Piece) (l : (L.Sq L.Pt)) (s : L.Setting) (hp : r3_Fits_p p l s) : vc Try.prog (r3_Fits_C) (bodyOf Try.f40) (st0 Try.f40 [.p (.agg [.int .i64 p.id, .int .i64 p.colour, .int .i64 p.rev, .int .i64 p.made, .int .i64 p.swell, .sl 5 p.gauges.n (fun i => [.int .i64 ((p.gauges.g i).edge.lo), .int .i64 ((p.gauges.g i).edge.hi), .int .i64 ((p.gauges.g i).across.lo), .int .i64 ((p.gauges.g i).across.hi), .int .i64 ((p.gauges.g i).bend)]), .sl 3 p.marks.n (fun i => [.int .i64 ((p.marks.g i).edge), .int .i64 ((p.marks.g i).place), .int .i64 ((p.marks.g i).tone)])]), .p (.sl 2 l.n (fun i => [.int .i64 ((l.g i).x), .int .i64 ((l.g i).y)])), .p (.agg [.int .i64 s.shift, .bool s.back])]) (retFn Try.prog Try.f40 (r3_Fits_r p l s)) :=
  @Eq.mpr _ (((∀ (i : Nat), i < p.gauges.n → [Go.SE.SV.int Go.IntKind.i64 (p.gauges.g i).edge.lo, Go.SE.SV.int Go.IntKind.i64 (p.gauges.g i).edge.hi, Go.SE.SV.int Go.IntKind.i64 (p.gauges.g i).across.lo, Go.SE.SV.int Go.IntKind.i64 (p.gauges.g i).across.hi, Go.SE.SV.int Go.IntKind.i64 (p.gauges.g i).bend] = [Go.SE.SV.int Go.IntKind.i64 (p.gauges.g i).edge.lo, Go.SE.SV.int Go.IntKind.i64 (p.gauges.g i).edge.hi,
 Go.SE.SV.int Go.IntKind.i64 (p.gauges.g i).across.lo, Go.SE.SV.int Go.IntKind.i64 (p.gauges.g i).across.hi, Go.SE.SV.int Go.IntKind.i64 (p.gauges.g i).bend]) ∧ (∀ (i : Nat), i < p.marks.n → [Go.SE.SV.int Go.IntKind.i64 (p.marks.g i).edge, Go.SE.SV.int Go.IntKind.i64 (p.marks.g i).place, Go.SE.SV.int Go.IntKind.i64 (p.marks.g i).tone] = [Go.SE.SV.int Go.IntKind.i64 (p.marks.g i).edge, Go.SE.SV.int
 Go.IntKind.i64 (p.marks.g i).place, Go.SE.SV.int Go.IntKind.i64 (p.marks.g i).tone]) ∧ p.gauges.n ≤ (1000000 : Nat) ∧ p.marks.n ≤ (1000000 : Nat)) ∧ ((!L.validPiece (L.Piece.mk p.id p.colour p.rev p.made p.swell (L.Sq.mk p.gauges.n fun (i : Nat) ↦ p.gauges.g i) (L.Sq.mk p.marks.n fun (i : Nat) ↦ p.marks.g i))) = Bool.true → Bool.false = L.fitsV p l s ∧ (30 : Int) = L.fitsE p l s) ∧ ((!L.validPiece
 (L.Piece.mk p.id p.colour p.rev p.made p.swell (L.Sq.mk p.gauges.n fun (i : Nat) ↦ p.gauges.g i) (L.Sq.mk p.marks.n fun (i : Nat) ↦ p.marks.g i))) = Bool.false → ((∀ (i : Nat), i < l.n → [Go.SE.SV.int Go.IntKind.i64 (l.g i).x, Go.SE.SV.int Go.IntKind.i64 (l.g i).y] = [Go.SE.SV.int Go.IntKind.i64 (l.g i).x, Go.SE.SV.int Go.IntKind.i64 (l.g i).y]) ∧ True) ∧ ((!!L.validOutline (L.Sq.mk l.n fun (i :
 Nat) ↦ l.g i)) = Bool.true → True) ∧ ((bif !L.validOutline (L.Sq.mk l.n fun (i : Nat) ↦ l.g i) then Bool.true else !L.validSet s (↑p.gauges.n : Int)) = Bool.true → Bool.false = L.fitsV p l s ∧ (1 : Int) = L.fitsE p l s) ∧ ((bif !L.validOutline (L.Sq.mk l.n fun (i : Nat) ↦ l.g i) then Bool.true else !L.validSet s (↑p.gauges.n : Int)) = Bool.false → ((∀ (i : Nat), i < p.gauges.n → [Go.SE.SV.int
 Go.IntKind.i64 (p.gauges.g i).edge.lo, Go.SE.SV.int Go.IntKind.i64 (p.gauges.g i).edge.hi, Go.SE.SV.int Go.IntKind.i64 (p.gauges.g i).across.lo, Go.SE.SV.int Go.IntKind.i64 (p.gauges.g i).across.hi, Go.SE.SV.int Go.IntKind.i64 (p.gauges.g i).bend] = [Go.SE.SV.int Go.IntKind.i64 (p.gauges.g i).edge.lo, Go.SE.SV.int Go.IntKind.i64 (p.gauges.g i).edge.hi, Go.SE.SV.int Go.IntKind.i64 (p.gauges.g
 i).across.lo, Go.SE.SV.int Go.IntKind.i64 (p.gauges.g i).across.hi, Go.SE.SV.int Go.IntKind.i64 (p.gauges.g i).bend]) ∧ (∀ (i : Nat), i < p.marks.n → [Go.SE.SV.int Go.IntKind.i64 (p.marks.g i).edge, Go.SE.SV.int Go.IntKind.i64 (p.marks.g i).place, Go.SE.SV.int Go.IntKind.i64 (p.marks.g i).tone] = [Go.SE.SV.int Go.IntKind.i64 (p.marks.g i).edge, Go.SE.SV.int Go.IntKind.i64 (p.marks.g i).place,
 Go.SE.SV.int Go.IntKind.i64 (p.marks.g i).tone]) ∧ (∀ (i : Nat), i < l.n → [Go.SE.SV.int Go.IntKind.i64 (l.g i).x, Go.SE.SV.int Go.IntKind.i64 (l.g i).y] = [Go.SE.SV.int Go.IntKind.i64 (l.g i).x, Go.SE.SV.int Go.IntKind.i64 (l.g i).y]) ∧ L.fitP (L.Piece.mk p.id p.colour p.rev p.made p.swell (L.Sq.mk p.gauges.n fun (i : Nat) ↦ p.gauges.g i) (L.Sq.mk p.marks.n fun (i : Nat) ↦ p.marks.g i)) (L.Sq.mk
 l.n fun (i : Nat) ↦ l.g i) s) ∧ L.fits (L.Piece.mk p.id p.colour p.rev p.made p.swell (L.Sq.mk p.gauges.n fun (i : Nat) ↦ p.gauges.g i) (L.Sq.mk p.marks.n fun (i : Nat) ↦ p.marks.g i)) (L.Sq.mk l.n fun (i : Nat) ↦ l.g i) s = L.fitsV p l s ∧ (0 : Int) = L.fitsE p l s))) (by kernel_rfl) (by
    obtain ⟨h1, h2, h3⟩ := hp
    refine ⟨⟨fun _ _ => rfl, fun _ _ => rfl, h1, h2⟩, fun h => ?_, fun h => ⟨⟨fun _ _ => rfl, trivial⟩, fun _ => trivial, fun h4 => ?_, fun h4 => ?_⟩⟩
    · have hv : L.validPiece p = false := notT h
      have e : L.fitsE p l s = 30 := by unfold L.fitsE; rw [hv]; rfl
      unfold L.fitsV; rw [e]; exact ⟨rfl, rfl⟩
    · have hv : L.validPiece p = true := notF h
      have h4 : (bif !L.validOutline l then true else !L.validSet s p.gauges.n) = true := h4
      have e : L.fitsE p l s = 1 := by unfold L.fitsE; rw [hv, h4]; rfl
      unfold L.fitsV; rw [e]; exact ⟨rfl, rfl⟩
    · have hv : L.validPiece p = true := notF h
      have h4 : (bif !L.validOutline l then true else !L.validSet s p.gauges.n) = false := h4
      have e : L.fitsE p l s = 0 := by unfold L.fitsE; rw [hv, h4]; rfl
      rw [bor, Bool.or_eq_false_iff] at h4
      have hs := validSet_iff.1 (notF h4.2)
      refine ⟨⟨fun _ _ => rfl, fun _ _ => rfl, fun _ _ => rfl, notF h4.1, piece_gauges hv, hs.2.1, hs.2.2⟩, ?_, e.symm⟩
      unfold L.fitsV; rw [e]; rfl)
theorem r3_Fits_ok : SpecOk Try.prog 40 r3_Fits_S := fnX Try.func40 (c := bodyOf Try.f40) (by kernel_rfl) mixed (fun args p r hs hp => by
  unfold r3_Fits_s at hs
  split at hs
  · cases hs; exact ⟨_, _, r3_Fits_vc _ _ _ hp.2.2.2, (.p (.agg rfl (fun i hi => by
      rcases i with _ | i
      · exact (Ext.refl _ : Ext _ _)
      rcases i with _ | i
      · exact (Ext.refl _ : Ext _ _)
      rcases i with _ | i
      · exact (Ext.refl _ : Ext _ _)
      rcases i with _ | i
      · exact (Ext.refl _ : Ext _ _)
      rcases i with _ | i
      · exact (Ext.refl _ : Ext _ _)
      rcases i with _ | i
      · exact (Ext.sl hp.1 : Ext _ _)
      rcases i with _ | i
      · exact (Ext.sl hp.2.1 : Ext _ _)
      exact absurd hi (by simp; try omega))) (.p (.sl hp.2.2.1) (.same _ .nil))), ⟨show SpecsL Try.prog _ from (SpecsL.cons r3_ValidPiece_ok r3_ValidPiece_en (SpecsL.cons r1_ValidOutline_ok r1_ValidOutline_en (SpecsL.cons r1_ValidSetting_ok r1_ValidSetting_en (SpecsL.cons r3_fits_ok r3_fits_en SpecsL.nil)))), rfl, ⟨show ItersL Try.prog _ from ItersL.nil, (TrsOk.none (fun _ => rfl))⟩⟩⟩
  · cases hs)
theorem r3_Fits_en : Enters Try.prog 40 := fun args w => by kernel_rfl
def r3_Settings_p (p : L.Piece) (l : (L.Sq L.Pt)) : Prop := p.gauges.n ≤ 1000000 ∧ p.marks.n ≤ 1000000 ∧ l.n ≤ 1000000
def r3_Settings_r (p : L.Piece) (l : (L.Sq L.Pt)) : SV := .tup [.sl 2 (L.setN p l) (fun k => [.int .i64 ((L.setG p l k).shift), .bool ((L.setG p l k).back)]), .int .i64 (L.setE p l)]
def r3_Settings_s : List EV → Option (Prop × SV)
  | [.p (.agg [.int .i64 p_id, .int .i64 p_colour, .int .i64 p_rev, .int .i64 p_made, .int .i64 p_swell, .sl 5 p_gauges_n p_gauges_g, .sl 3 p_marks_n p_marks_g]), .p (.sl 2 l_n l_g)] => some ((∀ i, i < p_gauges_n → p_gauges_g i = [.int .i64 ((ofGauge (p_gauges_g i)).edge.lo), .int .i64 ((ofGauge (p_gauges_g i)).edge.hi), .int .i64 ((ofGauge (p_gauges_g i)).across.lo), .int .i64 ((ofGauge (p_gauges_g i)).across.hi), .int .i64 ((ofGauge (p_gauges_g i)).bend)]) ∧ (∀ i, i < p_marks_n → p_marks_g i = [.int .i64 ((ofMark (p_marks_g i)).edge), .int .i64 ((ofMark (p_marks_g i)).place), .int .i64 ((ofMark (p_marks_g i)).tone)]) ∧ (∀ i, i < l_n → l_g i = [.int .i64 ((ofPt (l_g i)).x), .int .i64 ((ofPt (l_g i)).y)]) ∧ r3_Settings_p (⟨p_id, p_colour, p_rev, p_made, p_swell, (⟨p_gauges_n, fun i => ofGauge (p_gauges_g i)⟩ : (L.Sq L.Gauge)), (⟨p_marks_n, fun i => ofMark (p_marks_g i)⟩ : (L.Sq L.Mark))⟩ : L.Piece) (⟨l_n, fun i => ofPt (l_g i)⟩ : (L.Sq L.Pt)), r3_Settings_r (⟨p_id, p_colour, p_rev, p_made, p_swell, (⟨p_gauges_n, fun i => ofGauge (p_gauges_g i)⟩ : (L.Sq L.Gauge)), (⟨p_marks_n, fun i => ofMark (p_marks_g i)⟩ : (L.Sq L.Mark))⟩ : L.Piece) (⟨l_n, fun i => ofPt (l_g i)⟩ : (L.Sq L.Pt)))
  | _ => none
abbrev r3_Settings_S : SE.Spec := (specO r3_Settings_s)
def r3_Settings_C : Cfg := { muts := [], frz := lookN [], specs := lookS [(16, r3_ValidPiece_S), (44, r1_ValidOutline_S), (86, r1_All_S), (84, r3_fits_S)], loops := fun _ => none, iters := lookI [], rfs := lookR [], nils := lookM [(6, [(6, 28, 65, 2)])] }
theorem r3_Settings_vc (p : L.Piece) (l : (L.Sq L.Pt)) (hp : r3_Settings_p p l) : vc Try.prog ({ r3_Settings_C with loops := lookL [(8, { T := Nat, keep := [1, 2, 6, 7], keepO := [], chg := fun i => [(8, .p (.int .i64 (i : Int)))], own := fun i => [(28, .row 65 2 (L.cnt (L.fitK p l) i) (fun k => [.int .i64 ((L.sett (L.selN (L.fitK p l) i k)).shift), .bool ((L.sett (L.selN (L.fitK p l) i k)).back)]))], inv := fun i => i ≤ 2 * p.gauges.n, mu := fun i => 2 * p.gauges.n - i })], rfs := lookR [] }) (bodyOf Try.f42) (st0 Try.f42 [.p (.agg [.int .i64 p.id, .int .i64 p.colour, .int .i64 p.rev, .int .i64 p.made, .int .i64 p.swell, .sl 5 p.gauges.n (fun i => [.int .i64 ((p.gauges.g i).edge.lo), .int .i64 ((p.gauges.g i).edge.hi), .int .i64 ((p.gauges.g i).across.lo), .int .i64 ((p.gauges.g i).across.hi), .int .i64 ((p.gauges.g i).bend)]), .sl 3 p.marks.n (fun i => [.int .i64 ((p.marks.g i).edge), .int .i64 ((p.marks.g i).place), .int .i64 ((p.marks.g i).tone)])]), .p (.sl 2 l.n (fun i => [.int .i64 ((l.g i).x), .int .i64 ((l.g i).y)]))]) (retFn Try.prog Try.f42 (r3_Settings_r p l)) :=
  @Eq.mpr _ (((∀ (i : Nat), i < p.gauges.n → [Go.SE.SV.int Go.IntKind.i64 (p.gauges.g i).edge.lo, Go.SE.SV.int Go.IntKind.i64 (p.gauges.g i).edge.hi, Go.SE.SV.int Go.IntKind.i64 (p.gauges.g i).across.lo, Go.SE.SV.int Go.IntKind.i64 (p.gauges.g i).across.hi, Go.SE.SV.int Go.IntKind.i64 (p.gauges.g i).bend] = [Go.SE.SV.int Go.IntKind.i64 (p.gauges.g i).edge.lo, Go.SE.SV.int Go.IntKind.i64 (p.gauges.g i).edge.hi,
 Go.SE.SV.int Go.IntKind.i64 (p.gauges.g i).across.lo, Go.SE.SV.int Go.IntKind.i64 (p.gauges.g i).across.hi, Go.SE.SV.int Go.IntKind.i64 (p.gauges.g i).bend]) ∧ (∀ (i : Nat), i < p.marks.n → [Go.SE.SV.int Go.IntKind.i64 (p.marks.g i).edge, Go.SE.SV.int Go.IntKind.i64 (p.marks.g i).place, Go.SE.SV.int Go.IntKind.i64 (p.marks.g i).tone] = [Go.SE.SV.int Go.IntKind.i64 (p.marks.g i).edge, Go.SE.SV.int
 Go.IntKind.i64 (p.marks.g i).place, Go.SE.SV.int Go.IntKind.i64 (p.marks.g i).tone]) ∧ p.gauges.n ≤ (1000000 : Nat) ∧ p.marks.n ≤ (1000000 : Nat)) ∧ ((!L.validPiece (L.Piece.mk p.id p.colour p.rev p.made p.swell (L.Sq.mk p.gauges.n fun (i : Nat) ↦ p.gauges.g i) (L.Sq.mk p.marks.n fun (i : Nat) ↦ p.marks.g i))) = Bool.true → L.setN p l = (0 : Nat) ∧ (30 : Int) = L.setE p l) ∧ ((!L.validPiece
 (L.Piece.mk p.id p.colour p.rev p.made p.swell (L.Sq.mk p.gauges.n fun (i : Nat) ↦ p.gauges.g i) (L.Sq.mk p.marks.n fun (i : Nat) ↦ p.marks.g i))) = Bool.false → ((∀ (i : Nat), i < l.n → [Go.SE.SV.int Go.IntKind.i64 (l.g i).x, Go.SE.SV.int Go.IntKind.i64 (l.g i).y] = [Go.SE.SV.int Go.IntKind.i64 (l.g i).x, Go.SE.SV.int Go.IntKind.i64 (l.g i).y]) ∧ True) ∧ ((!L.validOutline (L.Sq.mk l.n fun (i :
 Nat) ↦ l.g i)) = Bool.true → L.setN p l = (0 : Nat) ∧ (1 : Int) = L.setE p l) ∧ ((!L.validOutline (L.Sq.mk l.n fun (i : Nat) ↦ l.g i)) = Bool.false → ((0 : Int) ≤ (↑p.gauges.n : Int) ∧ (↑p.gauges.n : Int) ≤ (1000 : Int)) ∧ ∀ (t : Nat), True → (∃ (g : Nat), (0 : Int) = (↑g : Int) ∧ (nat_lit 0 = L.cnt (L.fitK p l) g ∧ ∀ (i : Nat), i < nat_lit 0 → [] = [Go.SE.SV.int Go.IntKind.i64 (L.sett (L.selN
 (L.fitK p l) g i)).shift, Go.SE.SV.bool (L.sett (L.selN (L.fitK p l) g i)).back]) ∧ g ≤ (2 : Nat) * p.gauges.n) ∧ ∀ (g : Nat), g ≤ (2 : Nat) * p.gauges.n → (Decidable.decide ((↑g : Int) < (↑(Int.toNat ((2 : Int) * (↑p.gauges.n : Int))) : Int)) = Bool.true → ((0 : Int) ≤ (↑g : Int) ∧ (↑g : Int) < (↑(Int.toNat ((2 : Int) * (↑p.gauges.n : Int))) : Int)) ∧ ((∀ (i : Nat), i < p.gauges.n → [Go.SE.SV.int
 Go.IntKind.i64 (p.gauges.g i).edge.lo, Go.SE.SV.int Go.IntKind.i64 (p.gauges.g i).edge.hi, Go.SE.SV.int Go.IntKind.i64 (p.gauges.g i).across.lo, Go.SE.SV.int Go.IntKind.i64 (p.gauges.g i).across.hi, Go.SE.SV.int Go.IntKind.i64 (p.gauges.g i).bend] = [Go.SE.SV.int Go.IntKind.i64 (p.gauges.g i).edge.lo, Go.SE.SV.int Go.IntKind.i64 (p.gauges.g i).edge.hi, Go.SE.SV.int Go.IntKind.i64 (p.gauges.g
 i).across.lo, Go.SE.SV.int Go.IntKind.i64 (p.gauges.g i).across.hi, Go.SE.SV.int Go.IntKind.i64 (p.gauges.g i).bend]) ∧ (∀ (i : Nat), i < p.marks.n → [Go.SE.SV.int Go.IntKind.i64 (p.marks.g i).edge, Go.SE.SV.int Go.IntKind.i64 (p.marks.g i).place, Go.SE.SV.int Go.IntKind.i64 (p.marks.g i).tone] = [Go.SE.SV.int Go.IntKind.i64 (p.marks.g i).edge, Go.SE.SV.int Go.IntKind.i64 (p.marks.g i).place,
 Go.SE.SV.int Go.IntKind.i64 (p.marks.g i).tone]) ∧ (∀ (i : Nat), i < l.n → [Go.SE.SV.int Go.IntKind.i64 (l.g i).x, Go.SE.SV.int Go.IntKind.i64 (l.g i).y] = [Go.SE.SV.int Go.IntKind.i64 (l.g i).x, Go.SE.SV.int Go.IntKind.i64 (l.g i).y]) ∧ L.fitP (L.Piece.mk p.id p.colour p.rev p.made p.swell (L.Sq.mk p.gauges.n fun (i : Nat) ↦ p.gauges.g i) (L.Sq.mk p.marks.n fun (i : Nat) ↦ p.marks.g i)) (L.Sq.mk
 l.n fun (i : Nat) ↦ l.g i) (L.sett (Int.toNat (↑g : Int)))) ∧ (L.fits (L.Piece.mk p.id p.colour p.rev p.made p.swell (L.Sq.mk p.gauges.n fun (i : Nat) ↦ p.gauges.g i) (L.Sq.mk p.marks.n fun (i : Nat) ↦ p.marks.g i)) (L.Sq.mk l.n fun (i : Nat) ↦ l.g i) (L.sett (Int.toNat (↑g : Int))) = Bool.true → ((0 : Int) ≤ (↑g : Int) ∧ (↑g : Int) < (↑(Int.toNat ((2 : Int) * (↑p.gauges.n : Int))) : Int)) ∧
 (L.cnt (L.fitK p l) g + nat_lit 1) * nat_lit 16 ≤ (140737488355328 : Nat) ∧ Go.SE.InK Go.IntKind.i64 ((↑g : Int) + (1 : Int)) ∧ ∃ (g' : Nat), (↑g : Int) + (1 : Int) = (↑g' : Int) ∧ (Int.toNat ((2 : Int) * (↑p.gauges.n : Int)) = Int.toNat ((2 : Int) * (↑p.gauges.n : Int)) ∧ ∀ (i : Nat), i < Int.toNat ((2 : Int) * (↑p.gauges.n : Int)) → [Go.SE.SV.int Go.IntKind.i64 (L.sett i).shift, Go.SE.SV.bool
 (L.sett i).back] = [Go.SE.SV.int Go.IntKind.i64 (L.sett i).shift, Go.SE.SV.bool (L.sett i).back]) ∧ Go.SE.SV.ref [Go.SE.SV.int Go.IntKind.i64 p.id, Go.SE.SV.int Go.IntKind.i64 p.colour, Go.SE.SV.int Go.IntKind.i64 p.rev, Go.SE.SV.int Go.IntKind.i64 p.made, Go.SE.SV.int Go.IntKind.i64 p.swell, Go.SE.SV.sl (nat_lit 5) p.gauges.n fun (i : Nat) ↦ [Go.SE.SV.int Go.IntKind.i64 (p.gauges.g i).edge.lo,
 Go.SE.SV.int Go.IntKind.i64 (p.gauges.g i).edge.hi, Go.SE.SV.int Go.IntKind.i64 (p.gauges.g i).across.lo, Go.SE.SV.int Go.IntKind.i64 (p.gauges.g i).across.hi, Go.SE.SV.int Go.IntKind.i64 (p.gauges.g i).bend], Go.SE.SV.sl (nat_lit 3) p.marks.n fun (i : Nat) ↦ [Go.SE.SV.int Go.IntKind.i64 (p.marks.g i).edge, Go.SE.SV.int Go.IntKind.i64 (p.marks.g i).place, Go.SE.SV.int Go.IntKind.i64 (p.marks.g
 i).tone]] (nat_lit 0) = Go.SE.SV.ref [Go.SE.SV.int Go.IntKind.i64 p.id, Go.SE.SV.int Go.IntKind.i64 p.colour, Go.SE.SV.int Go.IntKind.i64 p.rev, Go.SE.SV.int Go.IntKind.i64 p.made, Go.SE.SV.int Go.IntKind.i64 p.swell, Go.SE.SV.sl (nat_lit 5) p.gauges.n fun (i : Nat) ↦ [Go.SE.SV.int Go.IntKind.i64 (p.gauges.g i).edge.lo, Go.SE.SV.int Go.IntKind.i64 (p.gauges.g i).edge.hi, Go.SE.SV.int
 Go.IntKind.i64 (p.gauges.g i).across.lo, Go.SE.SV.int Go.IntKind.i64 (p.gauges.g i).across.hi, Go.SE.SV.int Go.IntKind.i64 (p.gauges.g i).bend], Go.SE.SV.sl (nat_lit 3) p.marks.n fun (i : Nat) ↦ [Go.SE.SV.int Go.IntKind.i64 (p.marks.g i).edge, Go.SE.SV.int Go.IntKind.i64 (p.marks.g i).place, Go.SE.SV.int Go.IntKind.i64 (p.marks.g i).tone]] (nat_lit 0) ∧ (l.n = l.n ∧ ∀ (i : Nat), i < l.n →
 [Go.SE.SV.int Go.IntKind.i64 (l.g i).x, Go.SE.SV.int Go.IntKind.i64 (l.g i).y] = [Go.SE.SV.int Go.IntKind.i64 (l.g i).x, Go.SE.SV.int Go.IntKind.i64 (l.g i).y]) ∧ (L.cnt (L.fitK p l) g + nat_lit 1 = L.cnt (L.fitK p l) g' ∧ ∀ (i : Nat), i < L.cnt (L.fitK p l) g + nat_lit 1 → Go.SE.appGet (L.cnt (L.fitK p l) g) (fun (k : Nat) ↦ [Go.SE.SV.int Go.IntKind.i64 (L.sett (L.selN (L.fitK p l) g k)).shift,
 Go.SE.SV.bool (L.sett (L.selN (L.fitK p l) g k)).back]) (fun (x : Nat) ↦ [Go.SE.SV.int Go.IntKind.i64 (L.sett (Int.toNat (↑g : Int))).shift, Go.SE.SV.bool (L.sett (Int.toNat (↑g : Int))).back]) i = [Go.SE.SV.int Go.IntKind.i64 (L.sett (L.selN (L.fitK p l) g' i)).shift, Go.SE.SV.bool (L.sett (L.selN (L.fitK p l) g' i)).back]) ∧ g' ≤ (2 : Nat) * p.gauges.n ∧ (2 : Nat) * p.gauges.n - g' < (2 : Nat) *
 p.gauges.n - g) ∧ (L.fits (L.Piece.mk p.id p.colour p.rev p.made p.swell (L.Sq.mk p.gauges.n fun (i : Nat) ↦ p.gauges.g i) (L.Sq.mk p.marks.n fun (i : Nat) ↦ p.marks.g i)) (L.Sq.mk l.n fun (i : Nat) ↦ l.g i) (L.sett (Int.toNat (↑g : Int))) = Bool.false → Go.SE.InK Go.IntKind.i64 ((↑g : Int) + (1 : Int)) ∧ ∃ (g' : Nat), (↑g : Int) + (1 : Int) = (↑g' : Int) ∧ (Int.toNat ((2 : Int) * (↑p.gauges.n :
 Int)) = Int.toNat ((2 : Int) * (↑p.gauges.n : Int)) ∧ ∀ (i : Nat), i < Int.toNat ((2 : Int) * (↑p.gauges.n : Int)) → [Go.SE.SV.int Go.IntKind.i64 (L.sett i).shift, Go.SE.SV.bool (L.sett i).back] = [Go.SE.SV.int Go.IntKind.i64 (L.sett i).shift, Go.SE.SV.bool (L.sett i).back]) ∧ Go.SE.SV.ref [Go.SE.SV.int Go.IntKind.i64 p.id, Go.SE.SV.int Go.IntKind.i64 p.colour, Go.SE.SV.int Go.IntKind.i64 p.rev,
 Go.SE.SV.int Go.IntKind.i64 p.made, Go.SE.SV.int Go.IntKind.i64 p.swell, Go.SE.SV.sl (nat_lit 5) p.gauges.n fun (i : Nat) ↦ [Go.SE.SV.int Go.IntKind.i64 (p.gauges.g i).edge.lo, Go.SE.SV.int Go.IntKind.i64 (p.gauges.g i).edge.hi, Go.SE.SV.int Go.IntKind.i64 (p.gauges.g i).across.lo, Go.SE.SV.int Go.IntKind.i64 (p.gauges.g i).across.hi, Go.SE.SV.int Go.IntKind.i64 (p.gauges.g i).bend], Go.SE.SV.sl
 (nat_lit 3) p.marks.n fun (i : Nat) ↦ [Go.SE.SV.int Go.IntKind.i64 (p.marks.g i).edge, Go.SE.SV.int Go.IntKind.i64 (p.marks.g i).place, Go.SE.SV.int Go.IntKind.i64 (p.marks.g i).tone]] (nat_lit 0) = Go.SE.SV.ref [Go.SE.SV.int Go.IntKind.i64 p.id, Go.SE.SV.int Go.IntKind.i64 p.colour, Go.SE.SV.int Go.IntKind.i64 p.rev, Go.SE.SV.int Go.IntKind.i64 p.made, Go.SE.SV.int Go.IntKind.i64 p.swell,
 Go.SE.SV.sl (nat_lit 5) p.gauges.n fun (i : Nat) ↦ [Go.SE.SV.int Go.IntKind.i64 (p.gauges.g i).edge.lo, Go.SE.SV.int Go.IntKind.i64 (p.gauges.g i).edge.hi, Go.SE.SV.int Go.IntKind.i64 (p.gauges.g i).across.lo, Go.SE.SV.int Go.IntKind.i64 (p.gauges.g i).across.hi, Go.SE.SV.int Go.IntKind.i64 (p.gauges.g i).bend], Go.SE.SV.sl (nat_lit 3) p.marks.n fun (i : Nat) ↦ [Go.SE.SV.int Go.IntKind.i64
 (p.marks.g i).edge, Go.SE.SV.int Go.IntKind.i64 (p.marks.g i).place, Go.SE.SV.int Go.IntKind.i64 (p.marks.g i).tone]] (nat_lit 0) ∧ (l.n = l.n ∧ ∀ (i : Nat), i < l.n → [Go.SE.SV.int Go.IntKind.i64 (l.g i).x, Go.SE.SV.int Go.IntKind.i64 (l.g i).y] = [Go.SE.SV.int Go.IntKind.i64 (l.g i).x, Go.SE.SV.int Go.IntKind.i64 (l.g i).y]) ∧ (L.cnt (L.fitK p l) g = L.cnt (L.fitK p l) g' ∧ ∀ (i : Nat), i <
 L.cnt (L.fitK p l) g → [Go.SE.SV.int Go.IntKind.i64 (L.sett (L.selN (L.fitK p l) g i)).shift, Go.SE.SV.bool (L.sett (L.selN (L.fitK p l) g i)).back] = [Go.SE.SV.int Go.IntKind.i64 (L.sett (L.selN (L.fitK p l) g' i)).shift, Go.SE.SV.bool (L.sett (L.selN (L.fitK p l) g' i)).back]) ∧ g' ≤ (2 : Nat) * p.gauges.n ∧ (2 : Nat) * p.gauges.n - g' < (2 : Nat) * p.gauges.n - g)) ∧ (Decidable.decide ((↑g :
 Int) < (↑(Int.toNat ((2 : Int) * (↑p.gauges.n : Int))) : Int)) = Bool.false → (L.cnt (L.fitK p l) g = L.setN p l ∧ ∀ (i : Nat), i < L.cnt (L.fitK p l) g → [Go.SE.SV.int Go.IntKind.i64 (L.sett (L.selN (L.fitK p l) g i)).shift, Go.SE.SV.bool (L.sett (L.selN (L.fitK p l) g i)).back] = [Go.SE.SV.int Go.IntKind.i64 (L.setG p l i).shift, Go.SE.SV.bool (L.setG p l i).back]) ∧ (0 : Int) = L.setE p l)))) (by kernel_rfl) (by
    obtain ⟨h1, h2, h3⟩ := hp
    refine ⟨⟨fun _ _ => rfl, fun _ _ => rfl, h1, h2⟩, fun h => ?_, fun h => ⟨⟨fun _ _ => rfl, trivial⟩, fun h4 => ?_, fun h4 => ?_⟩⟩
    · have hv : L.validPiece p = false := notT h
      have e : L.setE p l = 30 := by unfold L.setE; rw [hv]; rfl
      unfold L.setN; rw [e]; exact ⟨rfl, rfl⟩
    · have hv : L.validPiece p = true := notF h
      have hv2 : L.validOutline l = false := notT h4
      have e : L.setE p l = 1 := by unfold L.setE; rw [hv, hv2]; rfl
      unfold L.setN; rw [e]; exact ⟨rfl, rfl⟩
    have hv : L.validPiece p = true := notF h
    have hv2 : L.validOutline l = true := notF h4
    have e : L.setE p l = 0 := by unfold L.setE; rw [hv, hv2]; rfl
    have hgg := piece_gauges hv
    obtain ⟨⟨g3, g24⟩, hg⟩ := gauge_ok hgg
    have et : (2 * (p.gauges.n : Int)).toNat = 2 * p.gauges.n := by omega
    rw [et]
    refine ⟨by omega, fun _ _ => ⟨⟨(0 : Nat), rfl, ⟨rfl, fun i hi => absurd hi (Nat.not_lt_zero _)⟩, Nat.zero_le _⟩, fun k hk' => ⟨fun hlt => ?_, fun hge => ?_⟩⟩⟩
    · have hb : (k : Int) < ((2 * p.gauges.n : Nat) : Int) := of_decide_eq_true hlt
      have hk : k < 2 * p.gauges.n := by omega
      have e0 : ((k : Int)).toNat = k := by omega
      have hs := sett_lt hk
      have hc := cnt_le (p := L.fitK p l) (n := k)
      rw [e0]
      refine ⟨⟨by omega, hb⟩, ⟨fun _ _ => rfl, fun _ _ => rfl, fun _ _ => rfl, hv2, hgg, hs.1, hs.2⟩, fun h5 => ?_, fun h5 => ?_⟩
      · have h5 : L.fitK p l k = true := h5
        have c1 := cnt_yes h5
        refine ⟨⟨by omega, hb⟩, show (L.cnt (L.fitK p l) k + 1) * 16 ≤ 140737488355328 by omega, InK.of (by omega) (by omega), k + 1, by omega, ⟨rfl, fun _ _ => rfl⟩, rfl, ⟨rfl, fun _ _ => rfl⟩, ⟨c1.symm, fun i hi => ?_⟩, by omega, by omega⟩
        have hi : i < L.cnt (L.fitK p l) k + 1 := hi
        unfold appGet
        by_cases h' : i < L.cnt (L.fitK p l) k
        · rw [if_pos h', selN_old (Nat.ne_of_lt h')]
        · have : i = L.cnt (L.fitK p l) k := by omega
          rw [if_neg h', this, selN_new h5]
      · have h5 : L.fitK p l k = false := h5
        exact ⟨InK.of (by omega) (by omega), k + 1, by omega, ⟨rfl, fun _ _ => rfl⟩, rfl, ⟨rfl, fun _ _ => rfl⟩, ⟨(cnt_not h5).symm, fun i hi => by rw [selN_not h5]⟩, by omega, by omega⟩
    · have hb : ¬ (k : Int) < ((2 * p.gauges.n : Nat) : Int) := of_decide_eq_false hge
      obtain rfl : k = 2 * p.gauges.n := by omega
      refine ⟨⟨?_, fun _ _ => rfl⟩, e.symm⟩
      unfold L.setN; rw [e]; rfl)
theorem r3_Settings_ok : SpecOk Try.prog 42 r3_Settings_S := fnX Try.func42 (c := bodyOf Try.f42) (by kernel_rfl) mixed (fun args p r hs hp => by
  unfold r3_Settings_s at hs
  split at hs
  · cases hs; exact ⟨_, _, r3_Settings_vc _ _ hp.2.2.2, (.p (.agg rfl (fun i hi => by
      rcases i with _ | i
      · exact (Ext.refl _ : Ext _ _)
      rcases i with _ | i
      · exact (Ext.refl _ : Ext _ _)
      rcases i with _ | i
      · exact (Ext.refl _ : Ext _ _)
      rcases i with _ | i
      · exact (Ext.refl _ : Ext _ _)
      rcases i with _ | i
      · exact (Ext.refl _ : Ext _ _)
      rcases i with _ | i
      · exact (Ext.sl hp.1 : Ext _ _)
      rcases i with _ | i
      · exact (Ext.sl hp.2.1 : Ext _ _)
      exact absurd hi (by simp; try omega))) (.p (.sl hp.2.2.1) .nil)), ⟨show SpecsL Try.prog _ from (SpecsL.cons r3_ValidPiece_ok r3_ValidPiece_en (SpecsL.cons r1_ValidOutline_ok r1_ValidOutline_en (SpecsL.cons r1_All_ok r1_All_en (SpecsL.cons r3_fits_ok r3_fits_en SpecsL.nil)))), rfl, ⟨show ItersL Try.prog _ from ItersL.nil, (TrsOk.none (fun _ => rfl))⟩⟩⟩
  · cases hs)
theorem r3_Settings_en : Enters Try.prog 42 := fun args w => by kernel_rfl
def w_GlassFits_p (p : L.Piece) (l : (L.Sq L.Pt)) (s : L.Setting) : Prop := True
def w_GlassFits_r (p : L.Piece) (l : (L.Sq L.Pt)) (s : L.Setting) : SV := .bool true
def w_GlassFits_s : List EV → Option (Prop × SV)
  | [.p (.agg [.int .i64 p_id, .int .i64 p_colour, .int .i64 p_rev, .int .i64 p_made, .int .i64 p_swell, .sl 5 p_gauges_n p_gauges_g, .sl 3 p_marks_n p_marks_g]), .p (.sl 2 l_n l_g), .p (.agg [.int .i64 s_shift, .bool s_back])] => some ((∀ i, i < p_gauges_n → p_gauges_g i = [.int .i64 ((ofGauge (p_gauges_g i)).edge.lo), .int .i64 ((ofGauge (p_gauges_g i)).edge.hi), .int .i64 ((ofGauge (p_gauges_g i)).across.lo), .int .i64 ((ofGauge (p_gauges_g i)).across.hi), .int .i64 ((ofGauge (p_gauges_g i)).bend)]) ∧ (∀ i, i < p_marks_n → p_marks_g i = [.int .i64 ((ofMark (p_marks_g i)).edge), .int .i64 ((ofMark (p_marks_g i)).place), .int .i64 ((ofMark (p_marks_g i)).tone)]) ∧ (∀ i, i < l_n → l_g i = [.int .i64 ((ofPt (l_g i)).x), .int .i64 ((ofPt (l_g i)).y)]) ∧ w_GlassFits_p (⟨p_id, p_colour, p_rev, p_made, p_swell, (⟨p_gauges_n, fun i => ofGauge (p_gauges_g i)⟩ : (L.Sq L.Gauge)), (⟨p_marks_n, fun i => ofMark (p_marks_g i)⟩ : (L.Sq L.Mark))⟩ : L.Piece) (⟨l_n, fun i => ofPt (l_g i)⟩ : (L.Sq L.Pt)) (⟨s_shift, s_back⟩ : L.Setting), w_GlassFits_r (⟨p_id, p_colour, p_rev, p_made, p_swell, (⟨p_gauges_n, fun i => ofGauge (p_gauges_g i)⟩ : (L.Sq L.Gauge)), (⟨p_marks_n, fun i => ofMark (p_marks_g i)⟩ : (L.Sq L.Mark))⟩ : L.Piece) (⟨l_n, fun i => ofPt (l_g i)⟩ : (L.Sq L.Pt)) (⟨s_shift, s_back⟩ : L.Setting))
  | _ => none
abbrev w_GlassFits_S : SE.Spec := (specO w_GlassFits_s)
def w_GlassFits_C : Cfg := { muts := [], frz := lookN [], specs := lookS [(12, w_awake_S), (14, w_few_S), (39, g_Fits_S), (40, r3_Fits_S), (41, g_Settings_S), (42, r3_Settings_S), (43, r1_SameSettings_S)], loops := lookL [], iters := lookI [], rfs := lookR [], nils := lookM [] }
theorem w_GlassFits_vc (p : L.Piece) (l : (L.Sq L.Pt)) (s : L.Setting) (hp : w_GlassFits_p p l s) : vc Try.prog (w_GlassFits_C) (bodyOf Try.f9) (st0 Try.f9 [.p (.agg [.int .i64 p.id, .int .i64 p.colour, .int .i64 p.rev, .int .i64 p.made, .int .i64 p.swell, .sl 5 p.gauges.n (fun i => [.int .i64 ((p.gauges.g i).edge.lo), .int .i64 ((p.gauges.g i).edge.hi), .int .i64 ((p.gauges.g i).across.lo), .int .i64 ((p.gauges.g i).across.hi), .int .i64 ((p.gauges.g i).bend)]), .sl 3 p.marks.n (fun i => [.int .i64 ((p.marks.g i).edge), .int .i64 ((p.marks.g i).place), .int .i64 ((p.marks.g i).tone)])]), .p (.sl 2 l.n (fun i => [.int .i64 ((l.g i).x), .int .i64 ((l.g i).y)])), .p (.agg [.int .i64 s.shift, .bool s.back])]) (retFn Try.prog Try.f9 (w_GlassFits_r p l s)) :=
  @Eq.mpr _ (True ∧ ((∀ (i : Nat), i < p.gauges.n → [Go.SE.SV.int Go.IntKind.i64 (p.gauges.g i).edge.lo, Go.SE.SV.int Go.IntKind.i64 (p.gauges.g i).edge.hi, Go.SE.SV.int Go.IntKind.i64 (p.gauges.g i).across.lo, Go.SE.SV.int Go.IntKind.i64 (p.gauges.g i).across.hi, Go.SE.SV.int Go.IntKind.i64 (p.gauges.g i).bend] = [Go.SE.SV.int Go.IntKind.i64 (p.gauges.g i).edge.lo, Go.SE.SV.int Go.IntKind.i64 (p.gauges.g
 i).edge.hi, Go.SE.SV.int Go.IntKind.i64 (p.gauges.g i).across.lo, Go.SE.SV.int Go.IntKind.i64 (p.gauges.g i).across.hi, Go.SE.SV.int Go.IntKind.i64 (p.gauges.g i).bend]) ∧ (∀ (i : Nat), i < p.marks.n → [Go.SE.SV.int Go.IntKind.i64 (p.marks.g i).edge, Go.SE.SV.int Go.IntKind.i64 (p.marks.g i).place, Go.SE.SV.int Go.IntKind.i64 (p.marks.g i).tone] = [Go.SE.SV.int Go.IntKind.i64 (p.marks.g i).edge,
 Go.SE.SV.int Go.IntKind.i64 (p.marks.g i).place, Go.SE.SV.int Go.IntKind.i64 (p.marks.g i).tone]) ∧ (∀ (i : Nat), i < l.n → [Go.SE.SV.int Go.IntKind.i64 (l.g i).x, Go.SE.SV.int Go.IntKind.i64 (l.g i).y] = [Go.SE.SV.int Go.IntKind.i64 (l.g i).x, Go.SE.SV.int Go.IntKind.i64 (l.g i).y]) ∧ True) ∧ ((!L.few (L.Piece.mk p.id p.colour p.rev p.made p.swell (L.Sq.mk p.gauges.n fun (i : Nat) ↦ p.gauges.g i)
 (L.Sq.mk p.marks.n fun (i : Nat) ↦ p.marks.g i)) (L.Sq.mk l.n fun (i : Nat) ↦ l.g i)) = Bool.true → Bool.true = Bool.true) ∧ ((!L.few (L.Piece.mk p.id p.colour p.rev p.made p.swell (L.Sq.mk p.gauges.n fun (i : Nat) ↦ p.gauges.g i) (L.Sq.mk p.marks.n fun (i : Nat) ↦ p.marks.g i)) (L.Sq.mk l.n fun (i : Nat) ↦ l.g i)) = Bool.false → ((∀ (i : Nat), i < p.gauges.n → [Go.SE.SV.int Go.IntKind.i64
 (p.gauges.g i).edge.lo, Go.SE.SV.int Go.IntKind.i64 (p.gauges.g i).edge.hi, Go.SE.SV.int Go.IntKind.i64 (p.gauges.g i).across.lo, Go.SE.SV.int Go.IntKind.i64 (p.gauges.g i).across.hi, Go.SE.SV.int Go.IntKind.i64 (p.gauges.g i).bend] = [Go.SE.SV.int Go.IntKind.i64 (p.gauges.g i).edge.lo, Go.SE.SV.int Go.IntKind.i64 (p.gauges.g i).edge.hi, Go.SE.SV.int Go.IntKind.i64 (p.gauges.g i).across.lo,
 Go.SE.SV.int Go.IntKind.i64 (p.gauges.g i).across.hi, Go.SE.SV.int Go.IntKind.i64 (p.gauges.g i).bend]) ∧ (∀ (i : Nat), i < p.marks.n → [Go.SE.SV.int Go.IntKind.i64 (p.marks.g i).edge, Go.SE.SV.int Go.IntKind.i64 (p.marks.g i).place, Go.SE.SV.int Go.IntKind.i64 (p.marks.g i).tone] = [Go.SE.SV.int Go.IntKind.i64 (p.marks.g i).edge, Go.SE.SV.int Go.IntKind.i64 (p.marks.g i).place, Go.SE.SV.int
 Go.IntKind.i64 (p.marks.g i).tone]) ∧ (∀ (i : Nat), i < l.n → [Go.SE.SV.int Go.IntKind.i64 (l.g i).x, Go.SE.SV.int Go.IntKind.i64 (l.g i).y] = [Go.SE.SV.int Go.IntKind.i64 (l.g i).x, Go.SE.SV.int Go.IntKind.i64 (l.g i).y]) ∧ p.gauges.n ≤ (1000000 : Nat) ∧ p.marks.n ≤ (1000000 : Nat) ∧ l.n ≤ (1000000 : Nat)) ∧ ((∀ (i : Nat), i < p.gauges.n → [Go.SE.SV.int Go.IntKind.i64 (p.gauges.g i).edge.lo,
 Go.SE.SV.int Go.IntKind.i64 (p.gauges.g i).edge.hi, Go.SE.SV.int Go.IntKind.i64 (p.gauges.g i).across.lo, Go.SE.SV.int Go.IntKind.i64 (p.gauges.g i).across.hi, Go.SE.SV.int Go.IntKind.i64 (p.gauges.g i).bend] = [Go.SE.SV.int Go.IntKind.i64 (p.gauges.g i).edge.lo, Go.SE.SV.int Go.IntKind.i64 (p.gauges.g i).edge.hi, Go.SE.SV.int Go.IntKind.i64 (p.gauges.g i).across.lo, Go.SE.SV.int Go.IntKind.i64
 (p.gauges.g i).across.hi, Go.SE.SV.int Go.IntKind.i64 (p.gauges.g i).bend]) ∧ (∀ (i : Nat), i < p.marks.n → [Go.SE.SV.int Go.IntKind.i64 (p.marks.g i).edge, Go.SE.SV.int Go.IntKind.i64 (p.marks.g i).place, Go.SE.SV.int Go.IntKind.i64 (p.marks.g i).tone] = [Go.SE.SV.int Go.IntKind.i64 (p.marks.g i).edge, Go.SE.SV.int Go.IntKind.i64 (p.marks.g i).place, Go.SE.SV.int Go.IntKind.i64 (p.marks.g
 i).tone]) ∧ (∀ (i : Nat), i < l.n → [Go.SE.SV.int Go.IntKind.i64 (l.g i).x, Go.SE.SV.int Go.IntKind.i64 (l.g i).y] = [Go.SE.SV.int Go.IntKind.i64 (l.g i).x, Go.SE.SV.int Go.IntKind.i64 (l.g i).y]) ∧ p.gauges.n ≤ (1000000 : Nat) ∧ p.marks.n ≤ (1000000 : Nat) ∧ l.n ≤ (1000000 : Nat)) ∧ ((∀ (i : Nat), i < p.gauges.n → [Go.SE.SV.int Go.IntKind.i64 (p.gauges.g i).edge.lo, Go.SE.SV.int Go.IntKind.i64
 (p.gauges.g i).edge.hi, Go.SE.SV.int Go.IntKind.i64 (p.gauges.g i).across.lo, Go.SE.SV.int Go.IntKind.i64 (p.gauges.g i).across.hi, Go.SE.SV.int Go.IntKind.i64 (p.gauges.g i).bend] = [Go.SE.SV.int Go.IntKind.i64 (p.gauges.g i).edge.lo, Go.SE.SV.int Go.IntKind.i64 (p.gauges.g i).edge.hi, Go.SE.SV.int Go.IntKind.i64 (p.gauges.g i).across.lo, Go.SE.SV.int Go.IntKind.i64 (p.gauges.g i).across.hi,
 Go.SE.SV.int Go.IntKind.i64 (p.gauges.g i).bend]) ∧ (∀ (i : Nat), i < p.marks.n → [Go.SE.SV.int Go.IntKind.i64 (p.marks.g i).edge, Go.SE.SV.int Go.IntKind.i64 (p.marks.g i).place, Go.SE.SV.int Go.IntKind.i64 (p.marks.g i).tone] = [Go.SE.SV.int Go.IntKind.i64 (p.marks.g i).edge, Go.SE.SV.int Go.IntKind.i64 (p.marks.g i).place, Go.SE.SV.int Go.IntKind.i64 (p.marks.g i).tone]) ∧ (∀ (i : Nat), i < l.n
 → [Go.SE.SV.int Go.IntKind.i64 (l.g i).x, Go.SE.SV.int Go.IntKind.i64 (l.g i).y] = [Go.SE.SV.int Go.IntKind.i64 (l.g i).x, Go.SE.SV.int Go.IntKind.i64 (l.g i).y]) ∧ p.gauges.n ≤ (1000000 : Nat) ∧ p.marks.n ≤ (1000000 : Nat) ∧ l.n ≤ (1000000 : Nat)) ∧ ((∀ (i : Nat), i < p.gauges.n → [Go.SE.SV.int Go.IntKind.i64 (p.gauges.g i).edge.lo, Go.SE.SV.int Go.IntKind.i64 (p.gauges.g i).edge.hi, Go.SE.SV.int
 Go.IntKind.i64 (p.gauges.g i).across.lo, Go.SE.SV.int Go.IntKind.i64 (p.gauges.g i).across.hi, Go.SE.SV.int Go.IntKind.i64 (p.gauges.g i).bend] = [Go.SE.SV.int Go.IntKind.i64 (p.gauges.g i).edge.lo, Go.SE.SV.int Go.IntKind.i64 (p.gauges.g i).edge.hi, Go.SE.SV.int Go.IntKind.i64 (p.gauges.g i).across.lo, Go.SE.SV.int Go.IntKind.i64 (p.gauges.g i).across.hi, Go.SE.SV.int Go.IntKind.i64 (p.gauges.g
 i).bend]) ∧ (∀ (i : Nat), i < p.marks.n → [Go.SE.SV.int Go.IntKind.i64 (p.marks.g i).edge, Go.SE.SV.int Go.IntKind.i64 (p.marks.g i).place, Go.SE.SV.int Go.IntKind.i64 (p.marks.g i).tone] = [Go.SE.SV.int Go.IntKind.i64 (p.marks.g i).edge, Go.SE.SV.int Go.IntKind.i64 (p.marks.g i).place, Go.SE.SV.int Go.IntKind.i64 (p.marks.g i).tone]) ∧ (∀ (i : Nat), i < l.n → [Go.SE.SV.int Go.IntKind.i64 (l.g
 i).x, Go.SE.SV.int Go.IntKind.i64 (l.g i).y] = [Go.SE.SV.int Go.IntKind.i64 (l.g i).x, Go.SE.SV.int Go.IntKind.i64 (l.g i).y]) ∧ p.gauges.n ≤ (1000000 : Nat) ∧ p.marks.n ≤ (1000000 : Nat) ∧ l.n ≤ (1000000 : Nat)) ∧ ((bif bif bif Bool.true then L.fitsV (L.Piece.mk p.id p.colour p.rev p.made p.swell (L.Sq.mk p.gauges.n fun (i : Nat) ↦ p.gauges.g i) (L.Sq.mk p.marks.n fun (i : Nat) ↦ p.marks.g i))
 (L.Sq.mk l.n fun (i : Nat) ↦ l.g i) s == L.fitsV (L.Piece.mk p.id p.colour p.rev p.made p.swell (L.Sq.mk p.gauges.n fun (i : Nat) ↦ p.gauges.g i) (L.Sq.mk p.marks.n fun (i : Nat) ↦ p.marks.g i)) (L.Sq.mk l.n fun (i : Nat) ↦ l.g i) s else Bool.false then Decidable.decide (L.fitsE (L.Piece.mk p.id p.colour p.rev p.made p.swell (L.Sq.mk p.gauges.n fun (i : Nat) ↦ p.gauges.g i) (L.Sq.mk p.marks.n fun
 (i : Nat) ↦ p.marks.g i)) (L.Sq.mk l.n fun (i : Nat) ↦ l.g i) s = L.fitsE (L.Piece.mk p.id p.colour p.rev p.made p.swell (L.Sq.mk p.gauges.n fun (i : Nat) ↦ p.gauges.g i) (L.Sq.mk p.marks.n fun (i : Nat) ↦ p.marks.g i)) (L.Sq.mk l.n fun (i : Nat) ↦ l.g i) s) else Bool.false then Decidable.decide (L.setE (L.Piece.mk p.id p.colour p.rev p.made p.swell (L.Sq.mk p.gauges.n fun (i : Nat) ↦ p.gauges.g
 i) (L.Sq.mk p.marks.n fun (i : Nat) ↦ p.marks.g i)) (L.Sq.mk l.n fun (i : Nat) ↦ l.g i) = L.setE (L.Piece.mk p.id p.colour p.rev p.made p.swell (L.Sq.mk p.gauges.n fun (i : Nat) ↦ p.gauges.g i) (L.Sq.mk p.marks.n fun (i : Nat) ↦ p.marks.g i)) (L.Sq.mk l.n fun (i : Nat) ↦ l.g i)) else Bool.false) = Bool.true → (∀ (i : Nat), i < L.setN (L.Piece.mk p.id p.colour p.rev p.made p.swell (L.Sq.mk
 p.gauges.n fun (i : Nat) ↦ p.gauges.g i) (L.Sq.mk p.marks.n fun (i : Nat) ↦ p.marks.g i)) (L.Sq.mk l.n fun (i : Nat) ↦ l.g i) → [Go.SE.SV.int Go.IntKind.i64 (L.setG (L.Piece.mk p.id p.colour p.rev p.made p.swell (L.Sq.mk p.gauges.n fun (i : Nat) ↦ p.gauges.g i) (L.Sq.mk p.marks.n fun (i : Nat) ↦ p.marks.g i)) (L.Sq.mk l.n fun (i : Nat) ↦ l.g i) i).shift, Go.SE.SV.bool (L.setG (L.Piece.mk p.id
 p.colour p.rev p.made p.swell (L.Sq.mk p.gauges.n fun (i : Nat) ↦ p.gauges.g i) (L.Sq.mk p.marks.n fun (i : Nat) ↦ p.marks.g i)) (L.Sq.mk l.n fun (i : Nat) ↦ l.g i) i).back] = [Go.SE.SV.int Go.IntKind.i64 (L.setG (L.Piece.mk p.id p.colour p.rev p.made p.swell (L.Sq.mk p.gauges.n fun (i : Nat) ↦ p.gauges.g i) (L.Sq.mk p.marks.n fun (i : Nat) ↦ p.marks.g i)) (L.Sq.mk l.n fun (i : Nat) ↦ l.g i)
 i).shift, Go.SE.SV.bool (L.setG (L.Piece.mk p.id p.colour p.rev p.made p.swell (L.Sq.mk p.gauges.n fun (i : Nat) ↦ p.gauges.g i) (L.Sq.mk p.marks.n fun (i : Nat) ↦ p.marks.g i)) (L.Sq.mk l.n fun (i : Nat) ↦ l.g i) i).back]) ∧ (∀ (i : Nat), i < L.setN (L.Piece.mk p.id p.colour p.rev p.made p.swell (L.Sq.mk p.gauges.n fun (i : Nat) ↦ p.gauges.g i) (L.Sq.mk p.marks.n fun (i : Nat) ↦ p.marks.g i))
 (L.Sq.mk l.n fun (i : Nat) ↦ l.g i) → [Go.SE.SV.int Go.IntKind.i64 (L.setG (L.Piece.mk p.id p.colour p.rev p.made p.swell (L.Sq.mk p.gauges.n fun (i : Nat) ↦ p.gauges.g i) (L.Sq.mk p.marks.n fun (i : Nat) ↦ p.marks.g i)) (L.Sq.mk l.n fun (i : Nat) ↦ l.g i) i).shift, Go.SE.SV.bool (L.setG (L.Piece.mk p.id p.colour p.rev p.made p.swell (L.Sq.mk p.gauges.n fun (i : Nat) ↦ p.gauges.g i) (L.Sq.mk
 p.marks.n fun (i : Nat) ↦ p.marks.g i)) (L.Sq.mk l.n fun (i : Nat) ↦ l.g i) i).back] = [Go.SE.SV.int Go.IntKind.i64 (L.setG (L.Piece.mk p.id p.colour p.rev p.made p.swell (L.Sq.mk p.gauges.n fun (i : Nat) ↦ p.gauges.g i) (L.Sq.mk p.marks.n fun (i : Nat) ↦ p.marks.g i)) (L.Sq.mk l.n fun (i : Nat) ↦ l.g i) i).shift, Go.SE.SV.bool (L.setG (L.Piece.mk p.id p.colour p.rev p.made p.swell (L.Sq.mk
 p.gauges.n fun (i : Nat) ↦ p.gauges.g i) (L.Sq.mk p.marks.n fun (i : Nat) ↦ p.marks.g i)) (L.Sq.mk l.n fun (i : Nat) ↦ l.g i) i).back]) ∧ L.setN (L.Piece.mk p.id p.colour p.rev p.made p.swell (L.Sq.mk p.gauges.n fun (i : Nat) ↦ p.gauges.g i) (L.Sq.mk p.marks.n fun (i : Nat) ↦ p.marks.g i)) (L.Sq.mk l.n fun (i : Nat) ↦ l.g i) ≤ (1000000 : Nat)) ∧ (bif bif bif bif Bool.true then L.fitsV (L.Piece.mk
 p.id p.colour p.rev p.made p.swell (L.Sq.mk p.gauges.n fun (i : Nat) ↦ p.gauges.g i) (L.Sq.mk p.marks.n fun (i : Nat) ↦ p.marks.g i)) (L.Sq.mk l.n fun (i : Nat) ↦ l.g i) s == L.fitsV (L.Piece.mk p.id p.colour p.rev p.made p.swell (L.Sq.mk p.gauges.n fun (i : Nat) ↦ p.gauges.g i) (L.Sq.mk p.marks.n fun (i : Nat) ↦ p.marks.g i)) (L.Sq.mk l.n fun (i : Nat) ↦ l.g i) s else Bool.false then
 Decidable.decide (L.fitsE (L.Piece.mk p.id p.colour p.rev p.made p.swell (L.Sq.mk p.gauges.n fun (i : Nat) ↦ p.gauges.g i) (L.Sq.mk p.marks.n fun (i : Nat) ↦ p.marks.g i)) (L.Sq.mk l.n fun (i : Nat) ↦ l.g i) s = L.fitsE (L.Piece.mk p.id p.colour p.rev p.made p.swell (L.Sq.mk p.gauges.n fun (i : Nat) ↦ p.gauges.g i) (L.Sq.mk p.marks.n fun (i : Nat) ↦ p.marks.g i)) (L.Sq.mk l.n fun (i : Nat) ↦ l.g
 i) s) else Bool.false then Decidable.decide (L.setE (L.Piece.mk p.id p.colour p.rev p.made p.swell (L.Sq.mk p.gauges.n fun (i : Nat) ↦ p.gauges.g i) (L.Sq.mk p.marks.n fun (i : Nat) ↦ p.marks.g i)) (L.Sq.mk l.n fun (i : Nat) ↦ l.g i) = L.setE (L.Piece.mk p.id p.colour p.rev p.made p.swell (L.Sq.mk p.gauges.n fun (i : Nat) ↦ p.gauges.g i) (L.Sq.mk p.marks.n fun (i : Nat) ↦ p.marks.g i)) (L.Sq.mk
 l.n fun (i : Nat) ↦ l.g i)) else Bool.false then L.sameSs (L.Sq.mk (L.setN (L.Piece.mk p.id p.colour p.rev p.made p.swell (L.Sq.mk p.gauges.n fun (i : Nat) ↦ p.gauges.g i) (L.Sq.mk p.marks.n fun (i : Nat) ↦ p.marks.g i)) (L.Sq.mk l.n fun (i : Nat) ↦ l.g i)) fun (i : Nat) ↦ L.setG (L.Piece.mk p.id p.colour p.rev p.made p.swell (L.Sq.mk p.gauges.n fun (i : Nat) ↦ p.gauges.g i) (L.Sq.mk p.marks.n fun
 (i : Nat) ↦ p.marks.g i)) (L.Sq.mk l.n fun (i : Nat) ↦ l.g i) i) (L.Sq.mk (L.setN (L.Piece.mk p.id p.colour p.rev p.made p.swell (L.Sq.mk p.gauges.n fun (i : Nat) ↦ p.gauges.g i) (L.Sq.mk p.marks.n fun (i : Nat) ↦ p.marks.g i)) (L.Sq.mk l.n fun (i : Nat) ↦ l.g i)) fun (i : Nat) ↦ L.setG (L.Piece.mk p.id p.colour p.rev p.made p.swell (L.Sq.mk p.gauges.n fun (i : Nat) ↦ p.gauges.g i) (L.Sq.mk
 p.marks.n fun (i : Nat) ↦ p.marks.g i)) (L.Sq.mk l.n fun (i : Nat) ↦ l.g i) i) else Bool.false) = Bool.true)) (by kernel_rfl) (by
    refine ⟨trivial, ⟨fun _ _ => rfl, fun _ _ => rfl, fun _ _ => rfl, trivial⟩, fun _ => rfl, fun h => ?_⟩
    have hs : p.gauges.n ≤ 60 ∧ p.marks.n ≤ 100 ∧ l.n ≤ 60 := few_iff.1 (notF (b := L.few p l) h)
    have hN : L.setN p l ≤ 1000000 := by
      unfold L.setN
      cases decide (L.setE p l = 0)
      · exact Nat.zero_le _
      · have := cnt_le (p := L.fitK p l) (n := 2 * p.gauges.n)
        show L.cnt (L.fitK p l) (2 * p.gauges.n) ≤ 1000000
        omega
    refine ⟨⟨fun _ _ => rfl, fun _ _ => rfl, fun _ _ => rfl, by omega, by omega, by omega⟩, ⟨fun _ _ => rfl, fun _ _ => rfl, fun _ _ => rfl, by omega, by omega, by omega⟩, ⟨fun _ _ => rfl, fun _ _ => rfl, fun _ _ => rfl, by omega, by omega, by omega⟩, ⟨fun _ _ => rfl, fun _ _ => rfl, fun _ _ => rfl, by omega, by omega, by omega⟩, fun _ => ⟨fun _ _ => rfl, fun _ _ => rfl, hN⟩, ?_⟩
    rw [sameSs_refl]
    simp only [decide_true, beq_self_eq_true, cond_true])
theorem w_GlassFits_ok : SpecOk Try.prog 9 w_GlassFits_S := fnX Try.func9 (c := bodyOf Try.f9) (by kernel_rfl) mixed (fun args p r hs hp => by
  unfold w_GlassFits_s at hs
  split at hs
  · cases hs; exact ⟨_, _, w_GlassFits_vc _ _ _ hp.2.2.2, (.p (.agg rfl (fun i hi => by
      rcases i with _ | i
      · exact (Ext.refl _ : Ext _ _)
      rcases i with _ | i
      · exact (Ext.refl _ : Ext _ _)
      rcases i with _ | i
      · exact (Ext.refl _ : Ext _ _)
      rcases i with _ | i
      · exact (Ext.refl _ : Ext _ _)
      rcases i with _ | i
      · exact (Ext.refl _ : Ext _ _)
      rcases i with _ | i
      · exact (Ext.sl hp.1 : Ext _ _)
      rcases i with _ | i
      · exact (Ext.sl hp.2.1 : Ext _ _)
      exact absurd hi (by simp; try omega))) (.p (.sl hp.2.2.1) (.same _ .nil))), ⟨show SpecsL Try.prog _ from (SpecsL.cons w_awake_ok w_awake_en (SpecsL.cons w_few_ok w_few_en (SpecsL.cons g_Fits_ok g_Fits_en (SpecsL.cons r3_Fits_ok r3_Fits_en (SpecsL.cons g_Settings_ok g_Settings_en (SpecsL.cons r3_Settings_ok r3_Settings_en (SpecsL.cons r1_SameSettings_ok r1_SameSettings_en SpecsL.nil))))))), rfl, ⟨show ItersL Try.prog _ from ItersL.nil, (TrsOk.none (fun _ => rfl))⟩⟩⟩
  · cases hs)
theorem w_GlassFits_en : Enters Try.prog 9 := fun args w => by kernel_rfl
theorem w_GlassFits_B : ∀ args p r, w_GlassFits_s args = some (p, r) → ∃ b, r = .bool b := by
  intro args p r h
  unfold w_GlassFits_s at h
  split at h
  · cases h; exact ⟨_, rfl⟩
  · cases h
end Go.Proofs.Ytipaekbdalahdaa

namespace Go.Proofs.Ytipaekbdalahdaa
open Go.SE Go.RowKit
set_option maxRecDepth 100000
set_option maxHeartbeats 4000000
set_option linter.unusedVariables false
attribute [local irreducible] Go.SE.vc

def L.cor (s : L.Setting) (n : Int) (i : Int) : Int := bif s.back then Int.tmod (s.shift + n - i + 1) n else Int.tmod (s.shift + i) n
def L.laid (q : L.Sq L.Pt) (s : L.Setting) (n : Nat) (i : Nat) : L.Pt := q.g (L.cor s n (i : Int)).toNat
def L.laidTo (q : L.Sq L.Pt) (s : L.Setting) (n i k : Nat) : L.Pt := bif decide (k < i) then L.laid q s n k else ⟨0, 0⟩
def L.conD (p q : L.Sq L.Pt) (s : L.Setting) (i k : Nat) : Bool := decide (L.dist (p.g i) (p.g k) = L.dist (L.laid q s p.n i) (L.laid q s p.n k))
def L.conB (p q : L.Sq L.Pt) (s : L.Setting) (i : Nat) : Bool := decide (0 < L.cross (p.g (L.prev p.n i)) (p.g i) (p.g (L.next p.n i))) == !(decide (0 < L.cross (L.laid q s p.n (L.prev p.n i)) (L.laid q s p.n i) (L.laid q s p.n (L.next p.n i))) == s.back)
def L.conI (p q : L.Sq L.Pt) (s : L.Setting) (i : Nat) : Bool := L.allB i (L.conD p q s i) && L.conB p q s i
def L.congr (p q : L.Sq L.Pt) (s : L.Setting) : Bool := L.allB p.n (L.conI p q s)
def L.conK (p q : L.Sq L.Pt) (k : Nat) : Bool := L.congr p q (L.sett k)
def L.conE (p q : L.Sq L.Pt) : Int := bif (bif !L.validOutline p then true else !L.validOutline q) then 1 else 0
def L.conN (p q : L.Sq L.Pt) : Nat := bif decide (L.conE p q = 0) then (bif decide ((p.n : Int) = q.n) then L.cnt (L.conK p q) (2 * p.n) else 0) else 0
def L.conG (p q : L.Sq L.Pt) (k : Nat) : L.Setting := L.sett (L.selN (L.conK p q) (2 * p.n) k)
def L.among (l : L.Sq L.Setting) (s : L.Setting) : Bool := L.anyB l.n (fun i => L.sameS (l.g i) s)
def p_corner_p (s : L.Setting) (n : Int) (i : Int) : Prop := 1 ≤ n ∧ n ≤ 1000 ∧ 0 ≤ s.shift ∧ s.shift ≤ 1000 ∧ 0 ≤ i ∧ i ≤ 1000
def p_corner_r (s : L.Setting) (n : Int) (i : Int) : SV := .int .i64 (L.cor s n i)
def p_corner_s : List EV → Option (Prop × SV)
  | [.p (.agg [.int .i64 s_shift, .bool s_back]), .p (.int .i64 n), .p (.int .i64 i)] => some (p_corner_p (⟨s_shift, s_back⟩ : L.Setting) n i, p_corner_r (⟨s_shift, s_back⟩ : L.Setting) n i)
  | _ => none
abbrev p_corner_S : SE.Spec := (specO p_corner_s)
def p_corner_C : Cfg := { muts := [], frz := lookN [], specs := lookS [], loops := lookL [], iters := lookI [], rfs := lookR [], nils := lookM [] }
theorem p_corner_vc (s : L.Setting) (n : Int) (i : Int) (hp : p_corner_p s n i) : vc Try.prog (p_corner_C) (bodyOf Try.f133) (st0 Try.f133 [.p (.agg [.int .i64 s.shift, .bool s.back]), .p (.int .i64 n), .p (.int .i64 i)]) (retFn Try.prog Try.f133 (p_corner_r s n i)) :=
  @Eq.mpr _ ((s.back = Bool.true → Go.SE.InK Go.IntKind.i64 (s.shift + n) ∧ Go.SE.InK Go.IntKind.i64 (s.shift + n - i) ∧ Go.SE.InK Go.IntKind.i64 (s.shift + n - i + (1 : Int)) ∧ n ≠ (0 : Int) ∧ Int.tmod (s.shift + n - i + (1 : Int)) n = L.cor s n i) ∧ (s.back = Bool.false → Go.SE.InK Go.IntKind.i64 (s.shift + i) ∧ n ≠ (0 : Int) ∧ Int.tmod (s.shift + i) n = L.cor s n i)) (by kernel_rfl) (by
    obtain ⟨h1, h2, h3, h4, h5, h6⟩ := hp
    refine ⟨fun h => ⟨InK.of (by omega) (by omega), InK.of (by omega) (by omega), InK.of (by omega) (by omega), by omega, ?_⟩, fun h => ⟨InK.of (by omega) (by omega), by omega, ?_⟩⟩
    · unfold L.cor; rw [h]; rfl
    · unfold L.cor; rw [h]; rfl)
theorem p_corner_ok : SpecOk Try.prog 133 p_corner_S := fnX Try.func133 (c := bodyOf Try.f133) (by kernel_rfl) mixed (fun args p r hs hp => by
  unfold p_corner_s at hs
  split at hs
  · cases hs; exact ⟨_, _, p_corner_vc _ _ _ hp, (.same _ (.same _ (.same _ .nil))), ⟨show SpecsL Try.prog _ from SpecsL.nil, rfl, ⟨show ItersL Try.prog _ from ItersL.nil, (TrsOk.none (fun _ => rfl))⟩⟩⟩
  · cases hs)
theorem p_corner_en : Enters Try.prog 133 := fun args w => by kernel_rfl
theorem p_corner_I : ∀ args p r, p_corner_s args = some (p, r) → ∃ n, r = .int .i64 n := by
  intro args p r h
  unfold p_corner_s at h
  split at h
  · cases h; exact ⟨_, rfl⟩
  · cases h
def p_congruent_p (p : (L.Sq L.Pt)) (q : (L.Sq L.Pt)) (s : L.Setting) : Prop := L.allBd p ∧ L.allBd q ∧ p.n = q.n ∧ 1 ≤ p.n ∧ 0 ≤ s.shift ∧ s.shift < (p.n : Int)
def p_congruent_r (p : (L.Sq L.Pt)) (q : (L.Sq L.Pt)) (s : L.Setting) : SV := .bool (L.congr p q s)
def p_congruent_s : List EV → Option (Prop × SV)
  | [.p (.sl 2 p_n p_g), .p (.sl 2 q_n q_g), .p (.agg [.int .i64 s_shift, .bool s_back])] => some ((∀ i, i < p_n → p_g i = [.int .i64 ((ofPt (p_g i)).x), .int .i64 ((ofPt (p_g i)).y)]) ∧ (∀ i, i < q_n → q_g i = [.int .i64 ((ofPt (q_g i)).x), .int .i64 ((ofPt (q_g i)).y)]) ∧ p_congruent_p (⟨p_n, fun i => ofPt (p_g i)⟩ : (L.Sq L.Pt)) (⟨q_n, fun i => ofPt (q_g i)⟩ : (L.Sq L.Pt)) (⟨s_shift, s_back⟩ : L.Setting), p_congruent_r (⟨p_n, fun i => ofPt (p_g i)⟩ : (L.Sq L.Pt)) (⟨q_n, fun i => ofPt (q_g i)⟩ : (L.Sq L.Pt)) (⟨s_shift, s_back⟩ : L.Setting))
  | _ => none
abbrev p_congruent_S : SE.Spec := (specO p_congruent_s)
def p_congruent_C : Cfg := { muts := [], frz := lookN [], specs := lookS [(133, p_corner_S), (134, p_square_S), (116, p_cross_S)], loops := fun _ => none, iters := lookI [], rfs := lookR [], nils := lookM [] }
theorem p_congruent_vc (p : (L.Sq L.Pt)) (q : (L.Sq L.Pt)) (s : L.Setting) (hp : p_congruent_p p q s) : vc Try.prog ({ p_congruent_C with loops := lookL [(4, { T := Nat, keep := [0, 1, 5, 7, 8, 19], keepO := [], chg := fun i => [(20, .p (.int .i64 (i : Int)))], own := fun i => [(17, .row 77 2 p.n (fun k => [.int .i64 ((L.laidTo q s p.n i k).x), .int .i64 ((L.laidTo q s p.n i k).y)]))], inv := fun i => i ≤ p.n, mu := fun i => p.n - i }), (9, { T := Nat, keep := [0, 5, 7, 8, 35], keepO := [], chg := fun i => [(36, .p (.int .i64 (i : Int)))], own := fun i => [(17, .row 77 2 p.n (fun k => [.int .i64 ((L.laidTo q s p.n p.n k).x), .int .i64 ((L.laidTo q s p.n p.n k).y)]))], inv := fun i => i ≤ p.n ∧ ∀ j, j < i → L.conI p q s j = true, mu := fun i => p.n - i }), (12, { T := Nat × Nat, keep := [0, 5, 7, 8, 10, 35, 36, 39], keepO := [], tie := fun g => [(10, .int .i64 (g.1 : Int)), (36, .int .i64 (g.1 : Int)), (39, .int .i64 (g.1 : Int))], chg := fun g => [(40, .p (.int .i64 (g.2 : Int)))], own := fun g => [(17, .row 77 2 p.n (fun k => [.int .i64 ((L.laidTo q s p.n p.n k).x), .int .i64 ((L.laidTo q s p.n p.n k).y)]))], inv := fun g => g.1 < p.n ∧ g.2 ≤ g.1 ∧ (∀ j, j < g.1 → L.conI p q s j = true) ∧ ∀ j, j < g.2 → L.conD p q s g.1 j = true, mu := fun g => g.1 - g.2 })], rfs := lookR [] }) (bodyOf Try.f93) (st0 Try.f93 [.p (.sl 2 p.n (fun i => [.int .i64 ((p.g i).x), .int .i64 ((p.g i).y)])), .p (.sl 2 q.n (fun i => [.int .i64 ((q.g i).x), .int .i64 ((q.g i).y)])), .p (.agg [.int .i64 s.shift, .bool s.back])]) (retFn Try.prog Try.f93 (p_congruent_r p q s)) :=
  @Eq.mpr _ (((0 : Int) ≤ (↑p.n : Int) ∧ (↑p.n : Int) ≤ (↑p.n : Int) ∧ (↑p.n : Int) * (↑(nat_lit 16) : Int) ≤ (140737488355328 : Int)) ∧ (∃ (g : Nat), (0 : Int) = (↑g : Int) ∧ (Int.toNat (↑p.n : Int) = p.n ∧ ∀ (i : Nat), i < Int.toNat (↑p.n : Int) → [Go.SE.SV.int Go.IntKind.i64 (0 : Int), Go.SE.SV.int Go.IntKind.i64 (0 : Int)] = [Go.SE.SV.int Go.IntKind.i64 (L.laidTo q s p.n g i).x, Go.SE.SV.int Go.IntKind.i64
 (L.laidTo q s p.n g i).y]) ∧ g ≤ p.n) ∧ ∀ (g : Nat), g ≤ p.n → (Decidable.decide ((↑g : Int) < (↑(Int.toNat (↑p.n : Int)) : Int)) = Bool.true → ((1 : Int) ≤ (↑p.n : Int) ∧ (↑p.n : Int) ≤ (1000 : Int) ∧ (0 : Int) ≤ s.shift ∧ s.shift ≤ (1000 : Int) ∧ (0 : Int) ≤ (↑g : Int) ∧ (↑g : Int) ≤ (1000 : Int)) ∧ ((0 : Int) ≤ L.cor s (↑p.n : Int) (↑g : Int) ∧ L.cor s (↑p.n : Int) (↑g : Int) < (↑q.n : Int)) ∧
 ((0 : Int) ≤ (↑g : Int) ∧ (↑g : Int) < (↑p.n : Int)) ∧ Int.toNat (↑g : Int) < p.n ∧ Go.SE.InK Go.IntKind.i64 ((↑g : Int) + (1 : Int)) ∧ ∃ (g' : Nat), (↑g : Int) + (1 : Int) = (↑g' : Int) ∧ (↑(Int.toNat (↑p.n : Int)) : Int) = (↑(Int.toNat (↑p.n : Int)) : Int) ∧ (↑p.n : Int) = (↑p.n : Int) ∧ Go.SE.SV.ref [Go.SE.SV.int Go.IntKind.i64 s.shift, Go.SE.SV.bool s.back] (nat_lit 0) = Go.SE.SV.ref
 [Go.SE.SV.int Go.IntKind.i64 s.shift, Go.SE.SV.bool s.back] (nat_lit 0) ∧ (p.n = p.n ∧ ∀ (i : Nat), i < p.n → [Go.SE.SV.int Go.IntKind.i64 (p.g i).x, Go.SE.SV.int Go.IntKind.i64 (p.g i).y] = [Go.SE.SV.int Go.IntKind.i64 (p.g i).x, Go.SE.SV.int Go.IntKind.i64 (p.g i).y]) ∧ (q.n = q.n ∧ ∀ (i : Nat), i < q.n → [Go.SE.SV.int Go.IntKind.i64 (q.g i).x, Go.SE.SV.int Go.IntKind.i64 (q.g i).y] =
 [Go.SE.SV.int Go.IntKind.i64 (q.g i).x, Go.SE.SV.int Go.IntKind.i64 (q.g i).y]) ∧ (p.n = p.n ∧ ∀ (i : Nat), i < p.n → Go.SE.setRow (fun (k : Nat) ↦ [Go.SE.SV.int Go.IntKind.i64 (L.laidTo q s p.n g k).x, Go.SE.SV.int Go.IntKind.i64 (L.laidTo q s p.n g k).y]) (Int.toNat (↑g : Int)) (nat_lit 0) [Go.SE.SV.int Go.IntKind.i64 (q.g (Int.toNat (L.cor s (↑p.n : Int) (↑g : Int)))).x, Go.SE.SV.int
 Go.IntKind.i64 (q.g (Int.toNat (L.cor s (↑p.n : Int) (↑g : Int)))).y] i = [Go.SE.SV.int Go.IntKind.i64 (L.laidTo q s p.n g' i).x, Go.SE.SV.int Go.IntKind.i64 (L.laidTo q s p.n g' i).y]) ∧ g' ≤ p.n ∧ p.n - g' < p.n - g) ∧ (Decidable.decide ((↑g : Int) < (↑(Int.toNat (↑p.n : Int)) : Int)) = Bool.false → (∃ (g_1 : Nat), (0 : Int) = (↑g_1 : Int) ∧ (p.n = p.n ∧ ∀ (i : Nat), i < p.n → [Go.SE.SV.int
 Go.IntKind.i64 (L.laidTo q s p.n g i).x, Go.SE.SV.int Go.IntKind.i64 (L.laidTo q s p.n g i).y] = [Go.SE.SV.int Go.IntKind.i64 (L.laidTo q s p.n p.n i).x, Go.SE.SV.int Go.IntKind.i64 (L.laidTo q s p.n p.n i).y]) ∧ g_1 ≤ p.n ∧ ∀ (j : Nat), j < g_1 → L.conI p q s j = Bool.true) ∧ ∀ (g_1 : Nat), (g_1 ≤ p.n ∧ ∀ (j : Nat), j < g_1 → L.conI p q s j = Bool.true) → (Decidable.decide ((↑g_1 : Int) < (↑p.n :
 Int)) = Bool.true → (∃ (g : Nat × Nat), (0 : Int) = (↑g.2 : Int) ∧ (p.n = p.n ∧ ∀ (i : Nat), i < p.n → [Go.SE.SV.int Go.IntKind.i64 (L.laidTo q s p.n p.n i).x, Go.SE.SV.int Go.IntKind.i64 (L.laidTo q s p.n p.n i).y] = [Go.SE.SV.int Go.IntKind.i64 (L.laidTo q s p.n p.n i).x, Go.SE.SV.int Go.IntKind.i64 (L.laidTo q s p.n p.n i).y]) ∧ (↑g_1 : Int) = (↑g.1 : Int) ∧ (↑g_1 : Int) = (↑g.1 : Int) ∧ (↑g_1
 : Int) = (↑g.1 : Int) ∧ g.1 < p.n ∧ g.2 ≤ g.1 ∧ (∀ (j : Nat), j < g.1 → L.conI p q s j = Bool.true) ∧ ∀ (j : Nat), j < g.2 → L.conD p q s g.1 j = Bool.true) ∧ ∀ (g_2 : Nat × Nat), ((↑g_1 : Int) = (↑g_2.1 : Int) ∧ (↑g_1 : Int) = (↑g_2.1 : Int) ∧ (↑g_1 : Int) = (↑g_2.1 : Int) ∧ g_2.1 < p.n ∧ g_2.2 ≤ g_2.1 ∧ (∀ (j : Nat), j < g_2.1 → L.conI p q s j = Bool.true) ∧ ∀ (j : Nat), j < g_2.2 → L.conD p q s
 g_2.1 j = Bool.true) → (Decidable.decide ((↑g_2.2 : Int) < (↑g_1 : Int)) = Bool.true → ((0 : Int) ≤ (↑g_1 : Int) ∧ (↑g_1 : Int) < (↑p.n : Int)) ∧ ((0 : Int) ≤ (↑g_2.2 : Int) ∧ (↑g_2.2 : Int) < (↑p.n : Int)) ∧ (L.bd (p.g (Int.toNat (↑g_1 : Int))) ∧ L.bd (p.g (Int.toNat (↑g_2.2 : Int)))) ∧ ((0 : Int) ≤ (↑g_1 : Int) ∧ (↑g_1 : Int) < (↑p.n : Int)) ∧ Int.toNat (↑g_1 : Int) < p.n ∧ ((0 : Int) ≤ (↑g_2.2
 : Int) ∧ (↑g_2.2 : Int) < (↑p.n : Int)) ∧ Int.toNat (↑g_2.2 : Int) < p.n ∧ (L.bd (L.laidTo q s p.n p.n (Int.toNat (↑g_1 : Int))) ∧ L.bd (L.laidTo q s p.n p.n (Int.toNat (↑g_2.2 : Int)))) ∧ ((!Decidable.decide (L.dist (p.g (Int.toNat (↑g_1 : Int))) (p.g (Int.toNat (↑g_2.2 : Int))) = L.dist (L.laidTo q s p.n p.n (Int.toNat (↑g_1 : Int))) (L.laidTo q s p.n p.n (Int.toNat (↑g_2.2 : Int))))) =
 Bool.true → Bool.false = L.congr p q s) ∧ ((!Decidable.decide (L.dist (p.g (Int.toNat (↑g_1 : Int))) (p.g (Int.toNat (↑g_2.2 : Int))) = L.dist (L.laidTo q s p.n p.n (Int.toNat (↑g_1 : Int))) (L.laidTo q s p.n p.n (Int.toNat (↑g_2.2 : Int))))) = Bool.false → Go.SE.InK Go.IntKind.i64 ((↑g_2.2 : Int) + (1 : Int)) ∧ ∃ (g' : Nat × Nat), (↑g_2.2 : Int) + (1 : Int) = (↑g'.2 : Int) ∧ (↑g_1 : Int) = (↑g_1
 : Int) ∧ (↑g_1 : Int) = (↑g_1 : Int) ∧ (↑g_1 : Int) = (↑g_1 : Int) ∧ (↑p.n : Int) = (↑p.n : Int) ∧ (↑p.n : Int) = (↑p.n : Int) ∧ Go.SE.SV.ref [Go.SE.SV.int Go.IntKind.i64 s.shift, Go.SE.SV.bool s.back] (nat_lit 0) = Go.SE.SV.ref [Go.SE.SV.int Go.IntKind.i64 s.shift, Go.SE.SV.bool s.back] (nat_lit 0) ∧ (p.n = p.n ∧ ∀ (i : Nat), i < p.n → [Go.SE.SV.int Go.IntKind.i64 (p.g i).x, Go.SE.SV.int
 Go.IntKind.i64 (p.g i).y] = [Go.SE.SV.int Go.IntKind.i64 (p.g i).x, Go.SE.SV.int Go.IntKind.i64 (p.g i).y]) ∧ (p.n = p.n ∧ ∀ (i : Nat), i < p.n → [Go.SE.SV.int Go.IntKind.i64 (L.laidTo q s p.n p.n i).x, Go.SE.SV.int Go.IntKind.i64 (L.laidTo q s p.n p.n i).y] = [Go.SE.SV.int Go.IntKind.i64 (L.laidTo q s p.n p.n i).x, Go.SE.SV.int Go.IntKind.i64 (L.laidTo q s p.n p.n i).y]) ∧ ((↑g_1 : Int) = (↑g'.1
 : Int) ∧ (↑g_1 : Int) = (↑g'.1 : Int) ∧ (↑g_1 : Int) = (↑g'.1 : Int) ∧ g'.1 < p.n ∧ g'.2 ≤ g'.1 ∧ (∀ (j : Nat), j < g'.1 → L.conI p q s j = Bool.true) ∧ ∀ (j : Nat), j < g'.2 → L.conD p q s g'.1 j = Bool.true) ∧ g'.1 - g'.2 < g_2.1 - g_2.2)) ∧ (Decidable.decide ((↑g_2.2 : Int) < (↑g_1 : Int)) = Bool.false → Go.SE.InK Go.IntKind.i64 ((↑g_1 : Int) + (↑p.n : Int)) ∧ Go.SE.InK Go.IntKind.i64 ((↑g_1 :
 Int) + (↑p.n : Int) - (1 : Int)) ∧ (↑p.n : Int) ≠ (0 : Int) ∧ ((0 : Int) ≤ Int.tmod ((↑g_1 : Int) + (↑p.n : Int) - (1 : Int)) (↑p.n : Int) ∧ Int.tmod ((↑g_1 : Int) + (↑p.n : Int) - (1 : Int)) (↑p.n : Int) < (↑p.n : Int)) ∧ ((0 : Int) ≤ (↑g_1 : Int) ∧ (↑g_1 : Int) < (↑p.n : Int)) ∧ Go.SE.InK Go.IntKind.i64 ((↑g_1 : Int) + (1 : Int)) ∧ (↑p.n : Int) ≠ (0 : Int) ∧ ((0 : Int) ≤ Int.tmod ((↑g_1 : Int) +
 (1 : Int)) (↑p.n : Int) ∧ Int.tmod ((↑g_1 : Int) + (1 : Int)) (↑p.n : Int) < (↑p.n : Int)) ∧ (L.bd (p.g (Int.toNat (Int.tmod ((↑g_1 : Int) + (↑p.n : Int) - (1 : Int)) (↑p.n : Int)))) ∧ L.bd (p.g (Int.toNat (↑g_1 : Int))) ∧ L.bd (p.g (Int.toNat (Int.tmod ((↑g_1 : Int) + (1 : Int)) (↑p.n : Int))))) ∧ Go.SE.InK Go.IntKind.i64 ((↑g_1 : Int) + (↑p.n : Int)) ∧ Go.SE.InK Go.IntKind.i64 ((↑g_1 : Int) +
 (↑p.n : Int) - (1 : Int)) ∧ (↑p.n : Int) ≠ (0 : Int) ∧ ((0 : Int) ≤ Int.tmod ((↑g_1 : Int) + (↑p.n : Int) - (1 : Int)) (↑p.n : Int) ∧ Int.tmod ((↑g_1 : Int) + (↑p.n : Int) - (1 : Int)) (↑p.n : Int) < (↑p.n : Int)) ∧ Int.toNat (Int.tmod ((↑g_1 : Int) + (↑p.n : Int) - (1 : Int)) (↑p.n : Int)) < p.n ∧ ((0 : Int) ≤ (↑g_1 : Int) ∧ (↑g_1 : Int) < (↑p.n : Int)) ∧ Int.toNat (↑g_1 : Int) < p.n ∧ Go.SE.InK
 Go.IntKind.i64 ((↑g_1 : Int) + (1 : Int)) ∧ (↑p.n : Int) ≠ (0 : Int) ∧ ((0 : Int) ≤ Int.tmod ((↑g_1 : Int) + (1 : Int)) (↑p.n : Int) ∧ Int.tmod ((↑g_1 : Int) + (1 : Int)) (↑p.n : Int) < (↑p.n : Int)) ∧ Int.toNat (Int.tmod ((↑g_1 : Int) + (1 : Int)) (↑p.n : Int)) < p.n ∧ (L.bd (L.laidTo q s p.n p.n (Int.toNat (Int.tmod ((↑g_1 : Int) + (↑p.n : Int) - (1 : Int)) (↑p.n : Int)))) ∧ L.bd (L.laidTo q s
 p.n p.n (Int.toNat (↑g_1 : Int))) ∧ L.bd (L.laidTo q s p.n p.n (Int.toNat (Int.tmod ((↑g_1 : Int) + (1 : Int)) (↑p.n : Int))))) ∧ ((!Decidable.decide ((0 : Int) < L.cross (p.g (Int.toNat (Int.tmod ((↑g_1 : Int) + (↑p.n : Int) - (1 : Int)) (↑p.n : Int)))) (p.g (Int.toNat (↑g_1 : Int))) (p.g (Int.toNat (Int.tmod ((↑g_1 : Int) + (1 : Int)) (↑p.n : Int))))) == !Decidable.decide ((0 : Int) < L.cross
 (L.laidTo q s p.n p.n (Int.toNat (Int.tmod ((↑g_1 : Int) + (↑p.n : Int) - (1 : Int)) (↑p.n : Int)))) (L.laidTo q s p.n p.n (Int.toNat (↑g_1 : Int))) (L.laidTo q s p.n p.n (Int.toNat (Int.tmod ((↑g_1 : Int) + (1 : Int)) (↑p.n : Int))))) == s.back) = Bool.true → Bool.false = L.congr p q s) ∧ ((!Decidable.decide ((0 : Int) < L.cross (p.g (Int.toNat (Int.tmod ((↑g_1 : Int) + (↑p.n : Int) - (1 : Int))
 (↑p.n : Int)))) (p.g (Int.toNat (↑g_1 : Int))) (p.g (Int.toNat (Int.tmod ((↑g_1 : Int) + (1 : Int)) (↑p.n : Int))))) == !Decidable.decide ((0 : Int) < L.cross (L.laidTo q s p.n p.n (Int.toNat (Int.tmod ((↑g_1 : Int) + (↑p.n : Int) - (1 : Int)) (↑p.n : Int)))) (L.laidTo q s p.n p.n (Int.toNat (↑g_1 : Int))) (L.laidTo q s p.n p.n (Int.toNat (Int.tmod ((↑g_1 : Int) + (1 : Int)) (↑p.n : Int))))) ==
 s.back) = Bool.false → Go.SE.InK Go.IntKind.i64 ((↑g_1 : Int) + (1 : Int)) ∧ ∃ (g' : Nat), (↑g_1 : Int) + (1 : Int) = (↑g' : Int) ∧ (↑p.n : Int) = (↑p.n : Int) ∧ (↑p.n : Int) = (↑p.n : Int) ∧ Go.SE.SV.ref [Go.SE.SV.int Go.IntKind.i64 s.shift, Go.SE.SV.bool s.back] (nat_lit 0) = Go.SE.SV.ref [Go.SE.SV.int Go.IntKind.i64 s.shift, Go.SE.SV.bool s.back] (nat_lit 0) ∧ (p.n = p.n ∧ ∀ (i : Nat), i < p.n
 → [Go.SE.SV.int Go.IntKind.i64 (p.g i).x, Go.SE.SV.int Go.IntKind.i64 (p.g i).y] = [Go.SE.SV.int Go.IntKind.i64 (p.g i).x, Go.SE.SV.int Go.IntKind.i64 (p.g i).y]) ∧ (p.n = p.n ∧ ∀ (i : Nat), i < p.n → [Go.SE.SV.int Go.IntKind.i64 (L.laidTo q s p.n p.n i).x, Go.SE.SV.int Go.IntKind.i64 (L.laidTo q s p.n p.n i).y] = [Go.SE.SV.int Go.IntKind.i64 (L.laidTo q s p.n p.n i).x, Go.SE.SV.int Go.IntKind.i64
 (L.laidTo q s p.n p.n i).y]) ∧ (g' ≤ p.n ∧ ∀ (j : Nat), j < g' → L.conI p q s j = Bool.true) ∧ p.n - g' < p.n - g_1))) ∧ (Decidable.decide ((↑g_1 : Int) < (↑p.n : Int)) = Bool.false → Bool.true = L.congr p q s))) (by kernel_rfl) (by
    obtain ⟨hbp, hbq, hn, h1, s0, s1⟩ := hp
    have hpn := hbp.1
    have hc : ∀ k : Nat, k < p.n → 0 ≤ L.cor s (p.n : Int) (k : Int) ∧ L.cor s (p.n : Int) (k : Int) < (q.n : Int) := fun k hk => by
      unfold L.cor
      rw [← hn]
      cases s.back
      · exact ⟨Int.tmod_nonneg _ (by omega), Int.tmod_lt_of_pos _ (by omega)⟩
      · exact ⟨Int.tmod_nonneg _ (by omega), Int.tmod_lt_of_pos _ (by omega)⟩
    have hl : ∀ k, k < p.n → L.laidTo q s p.n p.n k = L.laid q s p.n k := fun k hk => by
      unfold L.laidTo; rw [decide_eq_true hk]; rfl
    have hlb : ∀ k, k < p.n → L.bd (L.laidTo q s p.n p.n k) := fun k hk => by
      rw [hl k hk]; exact hbq.2 _ (by have := hc k hk; omega)
    have fin0 : ∀ {i : Nat}, i < p.n → L.conI p q s i = false → false = L.congr p q s := fun {i} hi h => by
      unfold L.congr; rw [allB_false hi h]
    have et : ((p.n : Int)).toNat = p.n := by omega
    rw [et]
    refine ⟨⟨by omega, by omega, by show (p.n : Int) * 16 ≤ 140737488355328; omega⟩, ⟨(0 : Nat), rfl, ⟨rfl, fun i hi => rfl⟩, Nat.zero_le _⟩, fun g hg => ⟨fun hlt => ?_, fun hge => ⟨⟨(0 : Nat), rfl, ⟨rfl, fun i hi => ?_⟩, Nat.zero_le _, fun j hj => absurd hj (Nat.not_lt_zero _)⟩, fun g1 hg1 => ⟨fun hlt1 => ?_, fun hge1 => ?_⟩⟩⟩⟩
    · have hb : (g : Int) < (p.n : Int) := of_decide_eq_true hlt
      have e0 : ((g : Int)).toNat = g := by omega
      rw [e0]
      refine ⟨⟨by omega, by omega, by omega, by omega, by omega, by omega⟩, hc g (by omega), ⟨by omega, hb⟩, by omega, InK.of (by omega) (by omega), g + 1, by omega, rfl, rfl, rfl, ⟨rfl, fun _ _ => rfl⟩, ⟨rfl, fun _ _ => rfl⟩, ⟨rfl, fun i hi => ?_⟩, by omega, by omega⟩
      unfold setRow
      by_cases e : i = g
      · subst e
        rw [if_pos rfl]
        unfold L.laidTo
        rw [decide_eq_true (Nat.lt_succ_self i)]; rfl
      · rw [if_neg e]
        dsimp only
        have w : L.laidTo q s p.n (g + 1) i = L.laidTo q s p.n g i := by
          unfold L.laidTo
          by_cases c : i < g
          · rw [decide_eq_true c, decide_eq_true (by omega)]
          · rw [decide_eq_false c, decide_eq_false (by omega)]
        rw [w]
    · have hb : ¬ (g : Int) < (p.n : Int) := of_decide_eq_false hge
      obtain rfl : g = p.n := by omega
      rfl
    · have hb1 : (g1 : Int) < (p.n : Int) := of_decide_eq_true hlt1
      have hk1 : g1 < p.n := by omega
      have e1 : ((g1 : Int)).toNat = g1 := by omega
      rw [e1]
      refine ⟨⟨(g1, 0), rfl, ⟨rfl, fun _ _ => rfl⟩, rfl, rfl, rfl, hk1, Nat.zero_le _, hg1.2, fun j hj => absurd hj (Nat.not_lt_zero _)⟩, ?_⟩
      rintro ⟨i, k⟩ ⟨t1, _, _, _, hki, h0, hD⟩
      have t1 : (g1 : Int) = (i : Int) := t1
      obtain rfl : g1 = i := by omega
      have hki : k ≤ g1 := hki
      have h0 : ∀ j, j < g1 → L.conI p q s j = true := h0
      have hD : ∀ j, j < k → L.conD p q s g1 j = true := hD
      dsimp only
      have ek : ((k : Int)).toNat = k := by omega
      rw [ek]
      refine ⟨fun hlt2 => ?_, fun hge2 => ?_⟩
      · have hk : (k : Int) < (g1 : Int) := of_decide_eq_true hlt2
        have key : decide (L.dist (p.g g1) (p.g k) = L.dist (L.laidTo q s p.n p.n g1) (L.laidTo q s p.n p.n k)) = L.conD p q s g1 k := by
          rw [hl g1 hk1, hl k (by omega)]; rfl
        rw [key]
        refine ⟨⟨by omega, hb1⟩, ⟨by omega, by omega⟩, ⟨hbp.2 _ hk1, hbp.2 _ (by omega)⟩, ⟨by omega, hb1⟩, hk1, ⟨by omega, by omega⟩, by omega, ⟨hlb _ hk1, hlb _ (by omega)⟩, fun h => ?_, fun h => ?_⟩
        · refine fin0 hk1 ?_
          unfold L.conI
          rw [allB_false (i := k) (by omega) (notT h)]; rfl
        · refine ⟨InK.of (by omega) (by omega), (g1, k + 1), by show (k : Int) + 1 = ((k + 1 : Nat) : Int); omega, rfl, rfl, rfl, rfl, rfl, rfl, ⟨rfl, fun _ _ => rfl⟩, ⟨rfl, fun _ _ => rfl⟩, ⟨rfl, rfl, rfl, hk1, by show k + 1 ≤ g1; omega, h0, fun j hj => ?_⟩, by show g1 - (k + 1) < g1 - k; omega⟩
          have hj : j < k + 1 := hj
          show L.conD p q s g1 j = true
          rcases Nat.lt_succ_iff_lt_or_eq.1 hj with h' | rfl
          · exact hD j h'
          · exact notF h
      · have hk : ¬ (k : Int) < (g1 : Int) := of_decide_eq_false hge2
        have hpv : L.prev p.n g1 < p.n := prev_lt (by omega)
        have hnx : L.next p.n g1 < p.n := next_lt (by omega)
        have hp0 := Int.tmod_nonneg (p.n : Int) (show 0 ≤ (g1 : Int) + (p.n : Int) - 1 by omega)
        have hp1 := Int.tmod_lt_of_pos ((g1 : Int) + (p.n : Int) - 1) (show 0 < (p.n : Int) by omega)
        have hn0 := Int.tmod_nonneg (p.n : Int) (show 0 ≤ (g1 : Int) + 1 by omega)
        have hn1 := Int.tmod_lt_of_pos ((g1 : Int) + 1) (show 0 < (p.n : Int) by omega)
        have key : (decide (0 < L.cross (p.g (L.prev p.n g1)) (p.g g1) (p.g (L.next p.n g1))) == !(decide (0 < L.cross (L.laidTo q s p.n p.n (L.prev p.n g1)) (L.laidTo q s p.n p.n g1) (L.laidTo q s p.n p.n (L.next p.n g1))) == s.back)) = L.conB p q s g1 := by
          rw [hl g1 hk1, hl _ hpv, hl _ hnx]; rfl
        refine ⟨InK.of (by omega) (by omega), InK.of (by omega) (by omega), by omega, ⟨hp0, hp1⟩, ⟨by omega, hb1⟩, InK.of (by omega) (by omega), by omega, ⟨hn0, hn1⟩, ⟨hbp.2 _ hpv, hbp.2 _ hk1, hbp.2 _ hnx⟩, InK.of (by omega) (by omega), InK.of (by omega) (by omega), by omega, ⟨hp0, hp1⟩, hpv, ⟨by omega, hb1⟩, hk1, InK.of (by omega) (by omega), by omega, ⟨hn0, hn1⟩, hnx, ⟨hlb _ hpv, hlb _ hk1, hlb _ hnx⟩, fun h => ?_, fun h => ?_⟩
        · have h : (!(decide (0 < L.cross (p.g (L.prev p.n g1)) (p.g g1) (p.g (L.next p.n g1))) == !(decide (0 < L.cross (L.laidTo q s p.n p.n (L.prev p.n g1)) (L.laidTo q s p.n p.n g1) (L.laidTo q s p.n p.n (L.next p.n g1))) == s.back))) = true := h
          rw [key] at h
          refine fin0 hk1 ?_
          unfold L.conI
          rw [notT h, Bool.and_false]
        · have h : (!(decide (0 < L.cross (p.g (L.prev p.n g1)) (p.g g1) (p.g (L.next p.n g1))) == !(decide (0 < L.cross (L.laidTo q s p.n p.n (L.prev p.n g1)) (L.laidTo q s p.n p.n g1) (L.laidTo q s p.n p.n (L.next p.n g1))) == s.back))) = false := h
          rw [key] at h
          refine ⟨InK.of (by omega) (by omega), g1 + 1, by omega, rfl, rfl, rfl, ⟨rfl, fun _ _ => rfl⟩, ⟨rfl, fun _ _ => rfl⟩, ⟨by omega, fun j hj => ?_⟩, by omega⟩
          rcases Nat.lt_succ_iff_lt_or_eq.1 hj with h' | rfl
          · exact h0 j h'
          · unfold L.conI
            rw [allB_iff.2 (fun m hm => hD m (by omega)), notF h]; rfl
    · have hb1 : ¬ (g1 : Int) < (p.n : Int) := of_decide_eq_false hge1
      unfold L.congr
      rw [allB_iff.2 (fun i hi => hg1.2 i (by omega))])
theorem p_congruent_ok : SpecOk Try.prog 93 p_congruent_S := fnX Try.func93 (c := bodyOf Try.f93) (by kernel_rfl) mixed (fun args p r hs hp => by
  unfold p_congruent_s at hs
  split at hs
  · cases hs; exact ⟨_, _, p_congruent_vc _ _ _ hp.2.2, (.p (.sl hp.1) (.p (.sl hp.2.1) (.same _ .nil))), ⟨show SpecsL Try.prog _ from (SpecsL.cons p_corner_ok p_corner_en (SpecsL.cons p_square_ok p_square_en (SpecsL.cons p_cross_ok p_cross_en SpecsL.nil))), rfl, ⟨show ItersL Try.prog _ from ItersL.nil, (TrsOk.none (fun _ => rfl))⟩⟩⟩
  · cases hs)
theorem p_congruent_en : Enters Try.prog 93 := fun args w => by kernel_rfl
theorem p_congruent_B : ∀ args p r, p_congruent_s args = some (p, r) → ∃ b, r = .bool b := by
  intro args p r h
  unfold p_congruent_s at h
  split at h
  · cases h; exact ⟨_, rfl⟩
  · cases h
def p_Settings_p (p : (L.Sq L.Pt)) (q : (L.Sq L.Pt)) : Prop := p.n ≤ 1000000 ∧ q.n ≤ 1000000
def p_Settings_r (p : (L.Sq L.Pt)) (q : (L.Sq L.Pt)) : SV := .tup [.sl 2 (L.conN p q) (fun k => [.int .i64 ((L.conG p q k).shift), .bool ((L.conG p q k).back)]), .int .i64 (L.conE p q)]
def p_Settings_s : List EV → Option (Prop × SV)
  | [.p (.sl 2 p_n p_g), .p (.sl 2 q_n q_g)] => some ((∀ i, i < p_n → p_g i = [.int .i64 ((ofPt (p_g i)).x), .int .i64 ((ofPt (p_g i)).y)]) ∧ (∀ i, i < q_n → q_g i = [.int .i64 ((ofPt (q_g i)).x), .int .i64 ((ofPt (q_g i)).y)]) ∧ p_Settings_p (⟨p_n, fun i => ofPt (p_g i)⟩ : (L.Sq L.Pt)) (⟨q_n, fun i => ofPt (q_g i)⟩ : (L.Sq L.Pt)), p_Settings_r (⟨p_n, fun i => ofPt (p_g i)⟩ : (L.Sq L.Pt)) (⟨q_n, fun i => ofPt (q_g i)⟩ : (L.Sq L.Pt)))
  | _ => none
abbrev p_Settings_S : SE.Spec := (specO p_Settings_s)
def p_Settings_C : Cfg := { muts := [], frz := lookN [], specs := lookS [(64, p_ValidOutline_S), (93, p_congruent_S)], loops := fun _ => none, iters := lookI [], rfs := lookR [], nils := lookM [(6, [(6, 28, 65, 2)])] }
theorem p_Settings_vc (p : (L.Sq L.Pt)) (q : (L.Sq L.Pt)) (hp : p_Settings_p p q) : vc Try.prog ({ p_Settings_C with loops := lookL [(7, { T := Nat, keep := [0, 1, 6, 24], keepO := [], chg := fun i => [(25, .p (.int .i64 (i : Int)))], own := fun i => [(28, .row 65 2 (L.cnt (L.conK p q) i) (fun k => [.int .i64 ((L.sett (L.selN (L.conK p q) i k)).shift), .bool ((L.sett (L.selN (L.conK p q) i k)).back)]))], inv := fun i => i ≤ 2 * p.n, mu := fun i => 2 * p.n - i })], rfs := lookR [] }) (bodyOf Try.f45) (st0 Try.f45 [.p (.sl 2 p.n (fun i => [.int .i64 ((p.g i).x), .int .i64 ((p.g i).y)])), .p (.sl 2 q.n (fun i => [.int .i64 ((q.g i).x), .int .i64 ((q.g i).y)]))]) (retFn Try.prog Try.f45 (p_Settings_r p q)) :=
  @Eq.mpr _ (((∀ (i : Nat), i < p.n → [Go.SE.SV.int Go.IntKind.i64 (p.g i).x, Go.SE.SV.int Go.IntKind.i64 (p.g i).y] = [Go.SE.SV.int Go.IntKind.i64 (p.g i).x, Go.SE.SV.int Go.IntKind.i64 (p.g i).y]) ∧ p.n ≤ (1000000 : Nat)) ∧ ((!!L.validOutline (L.Sq.mk p.n fun (i : Nat) ↦ p.g i)) = Bool.true → (∀ (i : Nat), i < q.n → [Go.SE.SV.int Go.IntKind.i64 (q.g i).x, Go.SE.SV.int Go.IntKind.i64 (q.g i).y] =
 [Go.SE.SV.int Go.IntKind.i64 (q.g i).x, Go.SE.SV.int Go.IntKind.i64 (q.g i).y]) ∧ q.n ≤ (1000000 : Nat)) ∧ ((bif !L.validOutline (L.Sq.mk p.n fun (i : Nat) ↦ p.g i) then Bool.true else !L.validOutline (L.Sq.mk q.n fun (i : Nat) ↦ q.g i)) = Bool.true → L.conN p q = (0 : Nat) ∧ (1 : Int) = L.conE p q) ∧ ((bif !L.validOutline (L.Sq.mk p.n fun (i : Nat) ↦ p.g i) then Bool.true else !L.validOutline
 (L.Sq.mk q.n fun (i : Nat) ↦ q.g i)) = Bool.false → ((!Decidable.decide ((↑p.n : Int) = (↑q.n : Int))) = Bool.true → L.conN p q = (0 : Nat) ∧ (0 : Int) = L.conE p q) ∧ ((!Decidable.decide ((↑p.n : Int) = (↑q.n : Int))) = Bool.false → Go.SE.InK Go.IntKind.i64 ((2 : Int) * (↑p.n : Int)) ∧ (∃ (g : Nat), (0 : Int) = (↑g : Int) ∧ (nat_lit 0 = L.cnt (L.conK p q) g ∧ ∀ (i : Nat), i < nat_lit 0 → [] =
 [Go.SE.SV.int Go.IntKind.i64 (L.sett (L.selN (L.conK p q) g i)).shift, Go.SE.SV.bool (L.sett (L.selN (L.conK p q) g i)).back]) ∧ g ≤ (2 : Nat) * p.n) ∧ ∀ (g : Nat), g ≤ (2 : Nat) * p.n → (Decidable.decide ((↑g : Int) < (2 : Int) * (↑p.n : Int)) = Bool.true → (2 : Int) ≠ (0 : Int) ∧ Go.SE.InK Go.IntKind.i64 (Int.tdiv (↑g : Int) (2 : Int)) ∧ (2 : Int) ≠ (0 : Int) ∧ ((∀ (i : Nat), i < p.n →
 [Go.SE.SV.int Go.IntKind.i64 (p.g i).x, Go.SE.SV.int Go.IntKind.i64 (p.g i).y] = [Go.SE.SV.int Go.IntKind.i64 (p.g i).x, Go.SE.SV.int Go.IntKind.i64 (p.g i).y]) ∧ (∀ (i : Nat), i < q.n → [Go.SE.SV.int Go.IntKind.i64 (q.g i).x, Go.SE.SV.int Go.IntKind.i64 (q.g i).y] = [Go.SE.SV.int Go.IntKind.i64 (q.g i).x, Go.SE.SV.int Go.IntKind.i64 (q.g i).y]) ∧ L.allBd (L.Sq.mk p.n fun (i : Nat) ↦ p.g i) ∧
 L.allBd (L.Sq.mk q.n fun (i : Nat) ↦ q.g i) ∧ p.n = q.n ∧ (1 : Nat) ≤ p.n ∧ (0 : Int) ≤ Int.tdiv (↑g : Int) (2 : Int) ∧ Int.tdiv (↑g : Int) (2 : Int) < (↑p.n : Int)) ∧ (L.congr (L.Sq.mk p.n fun (i : Nat) ↦ p.g i) (L.Sq.mk q.n fun (i : Nat) ↦ q.g i) (L.Setting.mk (Int.tdiv (↑g : Int) (2 : Int)) (Decidable.decide (Int.tmod (↑g : Int) (2 : Int) = (1 : Int)))) = Bool.true → (L.cnt (L.conK p q) g +
 nat_lit 1) * nat_lit 16 ≤ (140737488355328 : Nat) ∧ Go.SE.InK Go.IntKind.i64 ((↑g : Int) + (1 : Int)) ∧ ∃ (g' : Nat), (↑g : Int) + (1 : Int) = (↑g' : Int) ∧ (2 : Int) * (↑p.n : Int) = (2 : Int) * (↑p.n : Int) ∧ (p.n = p.n ∧ ∀ (i : Nat), i < p.n → [Go.SE.SV.int Go.IntKind.i64 (p.g i).x, Go.SE.SV.int Go.IntKind.i64 (p.g i).y] = [Go.SE.SV.int Go.IntKind.i64 (p.g i).x, Go.SE.SV.int Go.IntKind.i64 (p.g
 i).y]) ∧ (q.n = q.n ∧ ∀ (i : Nat), i < q.n → [Go.SE.SV.int Go.IntKind.i64 (q.g i).x, Go.SE.SV.int Go.IntKind.i64 (q.g i).y] = [Go.SE.SV.int Go.IntKind.i64 (q.g i).x, Go.SE.SV.int Go.IntKind.i64 (q.g i).y]) ∧ (L.cnt (L.conK p q) g + nat_lit 1 = L.cnt (L.conK p q) g' ∧ ∀ (i : Nat), i < L.cnt (L.conK p q) g + nat_lit 1 → Go.SE.appGet (L.cnt (L.conK p q) g) (fun (k : Nat) ↦ [Go.SE.SV.int
 Go.IntKind.i64 (L.sett (L.selN (L.conK p q) g k)).shift, Go.SE.SV.bool (L.sett (L.selN (L.conK p q) g k)).back]) (fun (x : Nat) ↦ [Go.SE.SV.int Go.IntKind.i64 (Int.tdiv (↑g : Int) (2 : Int)), Go.SE.SV.bool (Decidable.decide (Int.tmod (↑g : Int) (2 : Int) = (1 : Int)))]) i = [Go.SE.SV.int Go.IntKind.i64 (L.sett (L.selN (L.conK p q) g' i)).shift, Go.SE.SV.bool (L.sett (L.selN (L.conK p q) g'
 i)).back]) ∧ g' ≤ (2 : Nat) * p.n ∧ (2 : Nat) * p.n - g' < (2 : Nat) * p.n - g) ∧ (L.congr (L.Sq.mk p.n fun (i : Nat) ↦ p.g i) (L.Sq.mk q.n fun (i : Nat) ↦ q.g i) (L.Setting.mk (Int.tdiv (↑g : Int) (2 : Int)) (Decidable.decide (Int.tmod (↑g : Int) (2 : Int) = (1 : Int)))) = Bool.false → Go.SE.InK Go.IntKind.i64 ((↑g : Int) + (1 : Int)) ∧ ∃ (g' : Nat), (↑g : Int) + (1 : Int) = (↑g' : Int) ∧ (2 :
 Int) * (↑p.n : Int) = (2 : Int) * (↑p.n : Int) ∧ (p.n = p.n ∧ ∀ (i : Nat), i < p.n → [Go.SE.SV.int Go.IntKind.i64 (p.g i).x, Go.SE.SV.int Go.IntKind.i64 (p.g i).y] = [Go.SE.SV.int Go.IntKind.i64 (p.g i).x, Go.SE.SV.int Go.IntKind.i64 (p.g i).y]) ∧ (q.n = q.n ∧ ∀ (i : Nat), i < q.n → [Go.SE.SV.int Go.IntKind.i64 (q.g i).x, Go.SE.SV.int Go.IntKind.i64 (q.g i).y] = [Go.SE.SV.int Go.IntKind.i64 (q.g
 i).x, Go.SE.SV.int Go.IntKind.i64 (q.g i).y]) ∧ (L.cnt (L.conK p q) g = L.cnt (L.conK p q) g' ∧ ∀ (i : Nat), i < L.cnt (L.conK p q) g → [Go.SE.SV.int Go.IntKind.i64 (L.sett (L.selN (L.conK p q) g i)).shift, Go.SE.SV.bool (L.sett (L.selN (L.conK p q) g i)).back] = [Go.SE.SV.int Go.IntKind.i64 (L.sett (L.selN (L.conK p q) g' i)).shift, Go.SE.SV.bool (L.sett (L.selN (L.conK p q) g' i)).back]) ∧ g' ≤
 (2 : Nat) * p.n ∧ (2 : Nat) * p.n - g' < (2 : Nat) * p.n - g)) ∧ (Decidable.decide ((↑g : Int) < (2 : Int) * (↑p.n : Int)) = Bool.false → (L.cnt (L.conK p q) g = L.conN p q ∧ ∀ (i : Nat), i < L.cnt (L.conK p q) g → [Go.SE.SV.int Go.IntKind.i64 (L.sett (L.selN (L.conK p q) g i)).shift, Go.SE.SV.bool (L.sett (L.selN (L.conK p q) g i)).back] = [Go.SE.SV.int Go.IntKind.i64 (L.conG p q i).shift,
 Go.SE.SV.bool (L.conG p q i).back]) ∧ (0 : Int) = L.conE p q)))) (by kernel_rfl) (by
    obtain ⟨h1, h2⟩ := hp
    refine ⟨⟨fun _ _ => rfl, h1⟩, fun _ => ⟨fun _ _ => rfl, h2⟩, fun h => ?_, fun h => ⟨fun h3 => ?_, fun h3 => ?_⟩⟩
    · have h : (bif !L.validOutline p then true else !L.validOutline q) = true := h
      have e : L.conE p q = 1 := by unfold L.conE; rw [h]; rfl
      unfold L.conN; rw [e]; exact ⟨rfl, rfl⟩
    · have h : (bif !L.validOutline p then true else !L.validOutline q) = false := h
      have e : L.conE p q = 0 := by unfold L.conE; rw [h]; rfl
      unfold L.conN; rw [e, notT h3]; exact ⟨rfl, rfl⟩
    have h : (bif !L.validOutline p then true else !L.validOutline q) = false := h
    have e : L.conE p q = 0 := by unfold L.conE; rw [h]; rfl
    rw [bor, Bool.or_eq_false_iff] at h
    obtain ⟨n3, n24, _, hbp⟩ := validOutline_of (notF h.1)
    obtain ⟨_, _, _, hbq⟩ := validOutline_of (notF h.2)
    have hd := notF h3
    have hn : p.n = q.n := by have := of_decide_eq_true hd; omega
    refine ⟨InK.of (by omega) (by omega), ⟨(0 : Nat), rfl, ⟨rfl, fun i hi => absurd hi (Nat.not_lt_zero _)⟩, Nat.zero_le _⟩, fun k hk' => ⟨fun hlt => ?_, fun hge => ?_⟩⟩
    · have hb : (k : Int) < 2 * (p.n : Int) := of_decide_eq_true hlt
      have hk : k < 2 * p.n := by omega
      have hs := sett_lt hk
      have hc := cnt_le (p := L.conK p q) (n := k)
      refine ⟨by decide, InK.of (by rw [Int.tdiv_eq_ediv_of_nonneg (by omega)]; omega) (by rw [Int.tdiv_eq_ediv_of_nonneg (by omega)]; omega), by decide, ⟨fun _ _ => rfl, fun _ _ => rfl, hbp, hbq, hn, by omega, hs.1, hs.2⟩, fun h5 => ?_, fun h5 => ?_⟩
      · have h5 : L.conK p q k = true := h5
        have c1 := cnt_yes h5
        refine ⟨show (L.cnt (L.conK p q) k + 1) * 16 ≤ 140737488355328 by omega, InK.of (by omega) (by omega), k + 1, by omega, rfl, ⟨rfl, fun _ _ => rfl⟩, ⟨rfl, fun _ _ => rfl⟩, ⟨c1.symm, fun i hi => ?_⟩, by omega, by omega⟩
        have hi : i < L.cnt (L.conK p q) k + 1 := hi
        unfold appGet
        by_cases h' : i < L.cnt (L.conK p q) k
        · rw [if_pos h', selN_old (Nat.ne_of_lt h')]
        · have : i = L.cnt (L.conK p q) k := by omega
          rw [if_neg h', this, selN_new h5]; rfl
      · have h5 : L.conK p q k = false := h5
        exact ⟨InK.of (by omega) (by omega), k + 1, by omega, rfl, ⟨rfl, fun _ _ => rfl⟩, ⟨rfl, fun _ _ => rfl⟩, ⟨(cnt_not h5).symm, fun i hi => by rw [selN_not h5]⟩, by omega, by omega⟩
    · have hb : ¬ (k : Int) < 2 * (p.n : Int) := of_decide_eq_false hge
      obtain rfl : k = 2 * p.n := by omega
      refine ⟨⟨?_, fun _ _ => rfl⟩, e.symm⟩
      unfold L.conN; rw [e, hd]; rfl)
theorem p_Settings_ok : SpecOk Try.prog 45 p_Settings_S := fnX Try.func45 (c := bodyOf Try.f45) (by kernel_rfl) mixed (fun args p r hs hp => by
  unfold p_Settings_s at hs
  split at hs
  · cases hs; exact ⟨_, _, p_Settings_vc _ _ hp.2.2, (.p (.sl hp.1) (.p (.sl hp.2.1) .nil)), ⟨show SpecsL Try.prog _ from (SpecsL.cons p_ValidOutline_ok p_ValidOutline_en (SpecsL.cons p_congruent_ok p_congruent_en SpecsL.nil)), rfl, ⟨show ItersL Try.prog _ from ItersL.nil, (TrsOk.none (fun _ => rfl))⟩⟩⟩
  · cases hs)
theorem p_Settings_en : Enters Try.prog 45 := fun args w => by kernel_rfl
def w_among_p (l : (L.Sq L.Setting)) (s : L.Setting) : Prop := l.n ≤ 1000000
def w_among_r (l : (L.Sq L.Setting)) (s : L.Setting) : SV := .bool (L.among l s)
def w_among_s : List EV → Option (Prop × SV)
  | [.p (.sl 2 l_n l_g), .p (.agg [.int .i64 s_shift, .bool s_back])] => some ((∀ i, i < l_n → l_g i = [.int .i64 ((ofSetting (l_g i)).shift), .bool ((ofSetting (l_g i)).back)]) ∧ w_among_p (⟨l_n, fun i => ofSetting (l_g i)⟩ : (L.Sq L.Setting)) (⟨s_shift, s_back⟩ : L.Setting), w_among_r (⟨l_n, fun i => ofSetting (l_g i)⟩ : (L.Sq L.Setting)) (⟨s_shift, s_back⟩ : L.Setting))
  | _ => none
abbrev w_among_S : SE.Spec := (specO w_among_s)
def w_among_C : Cfg := { muts := [], frz := lookN [], specs := lookS [], loops := fun _ => none, iters := lookI [], rfs := lookR [], nils := lookM [] }
theorem w_among_vc (l : (L.Sq L.Setting)) (s : L.Setting) (hp : w_among_p l s) : vc Try.prog ({ w_among_C with loops := lookL [(2, { T := Nat, keep := [0, 3], keepO := [], chg := fun i => [(5, .p (.int .i64 (i : Int)))], own := fun _ => [], inv := fun i => i ≤ l.n ∧ ∀ j, j < i → L.sameS (l.g j) s = false, mu := fun i => l.n - i })], rfs := lookR [] }) (bodyOf Try.f46) (st0 Try.f46 [.p (.sl 2 l.n (fun i => [.int .i64 ((l.g i).shift), .bool ((l.g i).back)])), .p (.agg [.int .i64 s.shift, .bool s.back])]) (retFn Try.prog Try.f46 (w_among_r l s)) :=
  @Eq.mpr _ ((∃ (g : Nat), (0 : Int) = (↑g : Int) ∧ g ≤ l.n ∧ ∀ (j : Nat), j < g → L.sameS (l.g j) s = Bool.false) ∧ ∀ (g : Nat), (g ≤ l.n ∧ ∀ (j : Nat), j < g → L.sameS (l.g j) s = Bool.false) → (Decidable.decide ((↑g : Int) < (↑l.n : Int)) = Bool.true → ((0 : Int) ≤ (↑g : Int) ∧ (↑g : Int) < (↑l.n : Int)) ∧ ((Decidable.decide ((l.g (Int.toNat (↑g : Int))).shift = s.shift) && (l.g (Int.toNat (↑g : Int))).back
 == s.back) = Bool.true → Bool.true = L.among l s) ∧ ((Decidable.decide ((l.g (Int.toNat (↑g : Int))).shift = s.shift) && (l.g (Int.toNat (↑g : Int))).back == s.back) = Bool.false → Go.SE.InK Go.IntKind.i64 ((↑g : Int) + (1 : Int)) ∧ ∃ (g' : Nat), (↑g : Int) + (1 : Int) = (↑g' : Int) ∧ Go.SE.SV.ref [Go.SE.SV.int Go.IntKind.i64 s.shift, Go.SE.SV.bool s.back] (nat_lit 0) = Go.SE.SV.ref [Go.SE.SV.int
 Go.IntKind.i64 s.shift, Go.SE.SV.bool s.back] (nat_lit 0) ∧ (l.n = l.n ∧ ∀ (i : Nat), i < l.n → [Go.SE.SV.int Go.IntKind.i64 (l.g i).shift, Go.SE.SV.bool (l.g i).back] = [Go.SE.SV.int Go.IntKind.i64 (l.g i).shift, Go.SE.SV.bool (l.g i).back]) ∧ (g' ≤ l.n ∧ ∀ (j : Nat), j < g' → L.sameS (l.g j) s = Bool.false) ∧ l.n - g' < l.n - g)) ∧ (Decidable.decide ((↑g : Int) < (↑l.n : Int)) = Bool.false →
 Bool.false = L.among l s)) (by kernel_rfl) (by
    have hn : l.n ≤ 1000000 := hp
    refine ⟨⟨(0 : Nat), rfl, Nat.zero_le _, fun j hj => absurd hj (Nat.not_lt_zero _)⟩, fun g hg => ⟨fun hlt => ?_, fun hge => ?_⟩⟩
    · have hb : (g : Int) < (l.n : Int) := of_decide_eq_true hlt
      have e0 : ((g : Int)).toNat = g := by omega
      rw [e0]
      refine ⟨⟨by omega, hb⟩, fun h => ?_, fun h => ?_⟩
      · have h : L.sameS (l.g g) s = true := h
        exact (anyB_iff.2 ⟨g, by omega, h⟩).symm
      · have h : L.sameS (l.g g) s = false := h
        exact ⟨InK.of (by omega) (by omega), g + 1, by omega, rfl, ⟨rfl, fun _ _ => rfl⟩, ⟨by omega, fun j hj => by
          rcases Nat.lt_succ_iff_lt_or_eq.1 hj with h' | rfl
          · exact hg.2 j h'
          · exact h⟩, by omega⟩
    · have hb : ¬ (g : Int) < (l.n : Int) := of_decide_eq_false hge
      exact (anyB_no (fun i hi => hg.2 i (by omega))).symm)
theorem w_among_ok : SpecOk Try.prog 46 w_among_S := fnX Try.func46 (c := bodyOf Try.f46) (by kernel_rfl) mixed (fun args p r hs hp => by
  unfold w_among_s at hs
  split at hs
  · cases hs; exact ⟨_, _, w_among_vc _ _ hp.2, (.p (.sl hp.1) (.same _ .nil)), ⟨show SpecsL Try.prog _ from SpecsL.nil, rfl, ⟨show ItersL Try.prog _ from ItersL.nil, (TrsOk.none (fun _ => rfl))⟩⟩⟩
  · cases hs)
theorem w_among_en : Enters Try.prog 46 := fun args w => by kernel_rfl
theorem w_among_B : ∀ args p r, w_among_s args = some (p, r) → ∃ b, r = .bool b := by
  intro args p r h
  unfold w_among_s at h
  split at h
  · cases h; exact ⟨_, rfl⟩
  · cases h
end Go.Proofs.Ytipaekbdalahdaa

namespace Go.Proofs.Ytipaekbdalahdaa
open Go.SE Go.RowKit
set_option maxRecDepth 100000
set_option maxHeartbeats 4000000
set_option linter.unusedVariables false
attribute [local irreducible] Go.SE.vc

def L.gaugesOf (l : L.Sq L.Pt) : L.Sq L.Gauge := ⟨bif L.validOutline l then l.n else 0, fun i => L.gaugeOf l i⟩
def L.oneP (g : L.Sq L.Gauge) : L.Piece := ⟨1, 1, 1, 0, 0, g, ⟨0, fun _ => ⟨0, 0, 0⟩⟩⟩
def L.exactP (l : L.Sq L.Pt) : L.Piece := L.oneP (L.gaugesOf l)
def L.widened (g : L.Sq L.Gauge) (a : Int) : L.Sq L.Gauge := ⟨L.wN g a, fun k => L.widen (g.g k) a⟩
def L.wideP (l : L.Sq L.Pt) (a : Int) : L.Piece := L.oneP (L.widened (L.gaugesOf l) a)
def L.exBad (l m : L.Sq L.Pt) (a b : Int) : Bool := bif (bif (bif (bif (bif (bif !decide ((bif L.validOutline l then (0 : Int) else 1) = 0) then true else !decide (L.conE l m = 0)) then true else !decide (L.setE (L.exactP l) m = 0)) then true else !decide ((bif L.wBad (L.gaugesOf l) a then (1 : Int) else 0) = 0)) then true else !decide ((bif L.wBad (L.widened (L.gaugesOf l) a) b then (1 : Int) else 0) = 0)) then true else !decide ((bif L.wBad (L.gaugesOf l) (a + b) then (1 : Int) else 0) = 0)) then true else !L.sameGs (L.widened (L.widened (L.gaugesOf l) a) b) (L.widened (L.gaugesOf l) (a + b))
theorem dist_sym (a b : L.Pt) : L.dist a b = L.dist b a := by
  unfold L.dist
  rw [show a.x - b.x = -(b.x - a.x) by omega, show a.y - b.y = -(b.y - a.y) by omega, Int.neg_mul_neg, Int.neg_mul_neg]
theorem dist_self (a : L.Pt) : L.dist a a = 0 := by
  unfold L.dist; rw [Int.sub_self, Int.sub_self]; rfl
theorem sq_pos {d : Int} (h : d ≠ 0) : 1 ≤ d * d := by
  have : d * d ≠ 0 := Int.mul_ne_zero h h
  have h0 : 0 ≤ d * d := by
    rcases Int.le_total 0 d with h1 | h1
    · exact Int.mul_nonneg h1 h1
    · have := Int.mul_nonneg (show 0 ≤ -d by omega) (show 0 ≤ -d by omega)
      rwa [Int.neg_mul_neg] at this
  omega
theorem sq_ge (d : Int) : 0 ≤ d * d := by
  by_cases h : d = 0
  · subst h; decide
  · have := sq_pos h; omega
theorem dist_ge (a b : L.Pt) : 0 ≤ L.dist a b := by
  unfold L.dist
  have h1 := sq_ge (b.x - a.x)
  have h2 := sq_ge (b.y - a.y)
  omega
theorem validPt_iff {p : L.Pt} : L.validPt p = true ↔ 0 ≤ p.x ∧ p.x ≤ 4096 ∧ 0 ≤ p.y ∧ p.y ≤ 4096 := by
  unfold L.validPt
  rw [Bool.and_eq_true, within_iff, within_iff]
  omega
theorem dist_le {a b : L.Pt} (ha : L.validPt a = true) (hb : L.validPt b = true) : L.dist a b ≤ 33554432 := by
  rw [validPt_iff] at ha hb
  have m1 := mul_bd (a := b.x - a.x) (b := b.x - a.x) (m := 4096) (n := 4096) (by omega) (by omega) (by omega) (by omega)
  have m2 := mul_bd (a := b.y - a.y) (b := b.y - a.y) (m := 4096) (n := 4096) (by omega) (by omega) (by omega) (by omega)
  unfold L.dist
  omega
theorem dist_one {a b c : L.Pt} (h : L.cross a b c ≠ 0) : 1 ≤ L.dist b c := by
  have hne : b.x ≠ c.x ∨ b.y ≠ c.y := by
    by_cases h1 : b.x = c.x
    · by_cases h2 : b.y = c.y
      · exact absurd (by unfold L.cross; rw [h1, h2, Int.mul_comm]; omega) h
      · exact .inr h2
    · exact .inl h1
  unfold L.dist
  have g1 := sq_ge (c.x - b.x)
  have g2 := sq_ge (c.y - b.y)
  rcases hne with h | h
  · have := sq_pos (show c.x - b.x ≠ 0 by omega)
    omega
  · have := sq_pos (show c.y - b.y ≠ 0 by omega)
    omega
theorem cross_ix {l : L.Sq L.Pt} (hv : L.validOutline l = true) (a : Int) : L.cross (l.g (L.ix l.n (a - 1))) (l.g (L.ix l.n a)) (l.g (L.ix l.n (a + 1))) ≠ 0 := by
  have hn := (validOutline_of hv).1
  have hk := ix_lt (n := l.n) (i := a) (by omega)
  have hc := (outline_all hv).2 _ hk
  have e1 : L.prev l.n (L.ix l.n a) = L.ix l.n (a - 1) := by
    rw [← ix_prev hk, show ((L.ix l.n a : Nat) : Int) - 1 = ((L.ix l.n a : Nat) : Int) + -1 by omega, ix_ix (by omega)]; rfl
  have e2 : L.next l.n (L.ix l.n a) = L.ix l.n (a + 1) := by
    rw [← ix_next hk, ix_ix (by omega)]
  rwa [e1, e2] at hc
theorem meas0 {l : L.Sq L.Pt} {i : Nat} (hv : L.validOutline l = true) (hi : i < l.n) : L.meas l ⟨0, false⟩ i = ⟨L.dist (l.g i) (l.g (L.ix l.n ((i : Int) + 1))), L.dist (l.g i) (l.g (L.ix l.n ((i : Int) + 2))), L.bendR l ((i : Int) + 1)⟩ := by
  rw [meas_eq hv (Int.le_refl 0) (show (0 : Int) < (l.n : Int) by omega) hi]
  unfold L.measR
  simp only [cond_false, Int.zero_add]
  rw [ix_self hi]
theorem bendR_or (l : L.Sq L.Pt) (a : Int) : L.bendR l a = 1 ∨ L.bendR l a = -1 := by
  unfold L.bendR
  cases decide (0 < L.cross (l.g (L.ix l.n (a - 1))) (l.g (L.ix l.n a)) (l.g (L.ix l.n (a + 1))))
  · exact .inr rfl
  · exact .inl rfl
def L.okG (g : L.Gauge) : Prop := 1 ≤ g.edge.lo ∧ g.edge.lo ≤ g.edge.hi ∧ g.edge.hi ≤ 33554432 ∧ 0 ≤ g.across.lo ∧ g.across.lo ≤ g.across.hi ∧ g.across.hi ≤ 33554432 ∧ -1 ≤ g.bend ∧ g.bend ≤ 1
theorem gauges_of {g : L.Sq L.Gauge} (h1 : 3 ≤ g.n) (h2 : g.n ≤ 24) (h : ∀ i, i < g.n → L.okG (g.g i)) : L.gauges g = true := by
  unfold L.gauges
  rw [band, Bool.and_eq_true, within_iff, allB_iff]
  refine ⟨by omega, fun i hi => ?_⟩
  have := h i hi
  unfold L.okG at this
  unfold L.vGauge L.vSpan
  simp only [band, Bool.and_eq_true, decide_eq_true_eq, within_iff]
  omega
theorem exact_ok {l : L.Sq L.Pt} (hv : L.validOutline l = true) : (L.gaugesOf l).n = l.n ∧ (3 ≤ l.n ∧ l.n ≤ 24) ∧ ∀ i, i < l.n → L.okG (L.gaugeOf l i) := by
  obtain ⟨n3, n24, _, _⟩ := validOutline_of hv
  refine ⟨by unfold L.gaugesOf; rw [hv]; rfl, ⟨n3, n24⟩, fun i hi => ?_⟩
  have hp := (outline_all hv).1
  have hx : ∀ a, L.validPt (l.g (L.ix l.n a)) = true := fun a => hp _ (ix_lt (by omega))
  have hc := cross_ix hv (i : Int)
  rw [ix_self hi] at hc
  have d1 := dist_one hc
  have d2 := dist_le (hp i hi) (hx ((i : Int) + 1))
  have d3 := dist_le (hp i hi) (hx ((i : Int) + 2))
  have d4 := dist_ge (l.g i) (l.g (L.ix l.n ((i : Int) + 2)))
  have hb := bendR_or l ((i : Int) + 1)
  unfold L.gaugeOf L.okG
  rw [meas0 hv hi]
  dsimp only
  refine ⟨d1, Int.le_refl _, d2, d4, Int.le_refl _, d3, ?_, ?_⟩ <;> rcases hb with hb | hb <;> rw [hb] <;> decide
theorem widen_ok {g : L.Gauge} {a : Int} (h : L.okG g) (ha : 0 ≤ a) : L.okG (L.widen g a) := by
  unfold L.okG at h ⊢
  unfold L.widen L.wSpan
  dsimp only
  omega
theorem widen_two {g : L.Gauge} {a b : Int} (ha : 0 ≤ a) (hb : 0 ≤ b) : L.widen (L.widen g a) b = L.widen g (a + b) := by
  have e1 : ∀ t lo hi : Int, L.wSpan (L.wSpan ⟨lo, hi⟩ t a) t b = L.wSpan ⟨lo, hi⟩ t (a + b) := fun t lo hi => by
    unfold L.wSpan
    dsimp only
    rw [show max t (max t (lo - a) - b) = max t (lo - (a + b)) by omega, show min 33554432 (min 33554432 (hi + a) + b) = min 33554432 (hi + (a + b)) by omega]
  unfold L.widen
  dsimp only
  rw [e1 1 g.edge.lo g.edge.hi, e1 0 g.across.lo g.across.hi]
theorem wBad_no {g : L.Sq L.Gauge} {a : Int} (h : L.gauges g = true) (h0 : 0 ≤ a) (h1 : a ≤ 33554432) : L.wBad g a = false := by
  unfold L.wBad
  rw [h, within_iff.2 ⟨h0, h1⟩]; rfl
theorem wN_eq {g : L.Sq L.Gauge} {a : Int} (h : L.wBad g a = false) : L.wN g a = g.n := by unfold L.wN; rw [h]; rfl
theorem oneP_ok {g : L.Sq L.Gauge} (h : L.gauges g = true) : L.validPiece (L.oneP g) = true := by
  unfold L.validPiece
  rw [show L.gauges (L.oneP g).gauges = true from h]
  rfl
theorem sel_in {p : Nat → Bool} : ∀ {n k : Nat}, k < L.cnt p n → L.selN p n k < n ∧ p (L.selN p n k) = true
  | 0, k, h => absurd h (Nat.not_lt_zero _)
  | n + 1, k, h => by
    cases hp : p n with
    | false =>
      rw [cnt_not hp] at h
      rw [selN_not hp]
      have := sel_in (p := p) h
      exact ⟨by omega, this.2⟩
    | true =>
      rw [cnt_yes hp] at h
      by_cases e : k = L.cnt p n
      · rw [e, selN_new hp]; exact ⟨by omega, hp⟩
      · rw [selN_old e]
        have := sel_in (p := p) (n := n) (k := k) (by omega)
        exact ⟨by omega, this.2⟩
theorem sel_of {p : Nat → Bool} {c : Nat} (hc : p c = true) : ∀ {n : Nat}, c < n → ∃ k, k < L.cnt p n ∧ L.selN p n k = c
  | 0, h => absurd h (Nat.not_lt_zero _)
  | n + 1, h => by
    rcases Nat.lt_succ_iff_lt_or_eq.1 h with h' | rfl
    · obtain ⟨k, h1, h2⟩ := sel_of hc h'
      cases hp : p n with
      | false => exact ⟨k, by rw [cnt_not hp]; exact h1, by rw [selN_not hp]; exact h2⟩
      | true => exact ⟨k, by rw [cnt_yes hp]; omega, by rw [selN_old (by omega)]; exact h2⟩
    · exact ⟨L.cnt p c, by rw [cnt_yes hc]; omega, selN_new hc⟩
theorem among_of {p q : Nat → Bool} {n g : Nat} (h : ∀ c, c < n → p c = true → q c = true) (hg : g < L.cnt p n) : L.among ⟨L.cnt q n, fun k => L.sett (L.selN q n k)⟩ (L.sett (L.selN p n g)) = true := by
  obtain ⟨h1, h2⟩ := sel_in hg
  obtain ⟨k, h3, h4⟩ := sel_of (h _ h1 h2) h1
  unfold L.among
  refine anyB_iff.2 ⟨k, h3, ?_⟩
  dsimp only
  rw [h4]; exact sameS_refl _
theorem laid_ix {q : L.Sq L.Pt} {s : L.Setting} {n : Nat} (hn : 0 < n) (s0 : 0 ≤ s.shift) (a : Int) : L.laid q s n (L.ix n a) = q.g (L.ix n (bif s.back then s.shift - a + 1 else s.shift + a)) := by
  have hk := ix_lt (n := n) (i := a) hn
  have he := ix_emod (a := a) hn
  unfold L.laid L.cor
  cases s.back with
  | false =>
    simp only [cond_false]
    have h1 : ((L.ix n (s.shift + a) : Nat) : Int) = Int.tmod (s.shift + ((L.ix n a : Nat) : Int)) (n : Int) := by
      rw [ix_emod hn, Int.tmod_eq_emod_of_nonneg (by omega), he, Int.add_emod_emod]
    rw [← h1, Int.toNat_natCast]
  | true =>
    simp only [cond_true]
    have h1 : ((L.ix n (s.shift - a + 1) : Nat) : Int) = Int.tmod (s.shift + (n : Int) - ((L.ix n a : Nat) : Int) + 1) (n : Int) := by
      rw [ix_emod hn, Int.tmod_eq_emod_of_nonneg (by omega), he]
      rw [show s.shift + (n : Int) - a % (n : Int) + 1 = (s.shift + 1 - a % (n : Int)) + (n : Int) by omega, Int.add_emod_right, show s.shift - a + 1 = s.shift + 1 - a by omega]
      rw [Int.sub_emod, Int.sub_emod (s.shift + 1) (a % (n : Int)), Int.emod_emod]
    rw [← h1, Int.toNat_natCast]
theorem congr_of {p q : L.Sq L.Pt} {s : L.Setting} (h : L.congr p q s = true) : (∀ i j, i < p.n → j < p.n → L.dist (p.g i) (p.g j) = L.dist (L.laid q s p.n i) (L.laid q s p.n j)) ∧ ∀ i, i < p.n → L.conB p q s i = true := by
  have h1 : ∀ i, i < p.n → L.conI p q s i = true := allB_iff.1 h
  have h2 : ∀ i k, i < p.n → k < i → L.dist (p.g i) (p.g k) = L.dist (L.laid q s p.n i) (L.laid q s p.n k) := fun i k hi hk => by
    have := h1 i hi
    unfold L.conI at this
    rw [Bool.and_eq_true] at this
    exact of_decide_eq_true (allB_iff.1 this.1 k hk)
  refine ⟨fun i j hi hj => ?_, fun i hi => ?_⟩
  · rcases Nat.lt_trichotomy i j with h | h | h
    · rw [dist_sym, h2 j i hj h, dist_sym]
    · subst h; rw [dist_self, dist_self]
    · exact h2 i j hi h
  · have := h1 i hi
    unfold L.conI at this
    rw [Bool.and_eq_true] at this
    exact this.2
theorem cross_rev (a b c : L.Pt) : L.cross a b c = - L.cross c b a := by
  unfold L.cross
  grind
theorem congr_fits {l m : L.Sq L.Pt} {s : L.Setting} (hv : L.validOutline l = true) (hw : L.validOutline m = true) (hn : l.n = m.n) (s0 : 0 ≤ s.shift) (s1 : s.shift < (l.n : Int)) (h : L.congr l m s = true) : L.fits (L.exactP l) m s = true := by
  obtain ⟨hD, hB⟩ := congr_of h
  obtain ⟨e1, ⟨n3, n24⟩, _⟩ := exact_ok hv
  have h0 : 0 < l.n := by omega
  unfold L.fits
  rw [decide_eq_true (show (m.n : Int) = ((L.exactP l).gauges.n : Int) by rw [show (L.exactP l).gauges.n = l.n from e1, hn])]
  refine allB_iff.2 (fun i hi => ?_)
  have hi' : i < l.n := by omega
  show L.holdsR (L.gaugeOf l i) (L.meas m s i) = true
  have hL := laid_ix (q := m) (s := s) (n := l.n) h0 s0
  have x0 := hL (i : Int)
  have x1 := hL ((i : Int) + 1)
  have x2 := hL ((i : Int) + 2)
  rw [ix_self hi'] at x0
  have d1 := hD i (L.ix l.n ((i : Int) + 1)) hi' (ix_lt h0)
  have d2 := hD i (L.ix l.n ((i : Int) + 2)) hi' (ix_lt h0)
  have b1 := hB (L.ix l.n ((i : Int) + 1)) (ix_lt h0)
  have p1 : L.prev l.n (L.ix l.n ((i : Int) + 1)) = L.ix l.n (i : Int) := by
    rw [← ix_prev (ix_lt h0), show ((L.ix l.n ((i : Int) + 1) : Nat) : Int) - 1 = ((L.ix l.n ((i : Int) + 1) : Nat) : Int) + -1 by omega, ix_ix h0, show (i : Int) + 1 + -1 = (i : Int) by omega]
  have p2 : L.next l.n (L.ix l.n ((i : Int) + 1)) = L.ix l.n ((i : Int) + 2) := by
    rw [← ix_next (ix_lt h0), ix_ix h0, show (i : Int) + 1 + 1 = (i : Int) + 2 by omega]
  have hb : L.bendR l ((i : Int) + 1) = (L.measR m s (i : Int)).bend := by
    have y0 := hL (i : Int)
    unfold L.conB at b1
    rw [p1, p2] at b1
    unfold L.bendR
    rw [show (i : Int) + 1 - 1 = (i : Int) by omega, show (i : Int) + 1 + 1 = (i : Int) + 2 by omega]
    have b1 := beq_iff_eq.1 b1
    rw [b1]
    unfold L.measR
    cases hk : s.back with
    | false =>
      rw [hk] at y0 x1 x2
      simp only [cond_false] at y0 x1 x2 ⊢
      unfold L.bendR
      rw [y0, x1, x2]
      rw [hn, show s.shift + (i : Int) + 1 - 1 = s.shift + (i : Int) by omega, show s.shift + (i : Int) + 1 + 1 = s.shift + ((i : Int) + 2) by omega, show s.shift + (i : Int) + 1 = s.shift + ((i : Int) + 1) by omega]
      cases decide (0 < L.cross (m.g (L.ix m.n (s.shift + (i : Int)))) (m.g (L.ix m.n (s.shift + ((i : Int) + 1)))) (m.g (L.ix m.n (s.shift + ((i : Int) + 2))))) <;> rfl
    | true =>
      rw [hk] at y0 x1 x2
      simp only [cond_true] at y0 x1 x2 ⊢
      unfold L.bendR
      have hc := cross_ix hw (s.shift - (i : Int))
      rw [y0, x1, x2, hn, show s.shift - ((i : Int) + 1) + 1 = s.shift - (i : Int) by omega, show s.shift - ((i : Int) + 2) + 1 = s.shift - (i : Int) - 1 by omega, cross_rev (m.g (L.ix m.n (s.shift - (i : Int) + 1)))]
      generalize L.cross (m.g (L.ix m.n (s.shift - (i : Int) - 1))) (m.g (L.ix m.n (s.shift - (i : Int)))) (m.g (L.ix m.n (s.shift - (i : Int) + 1))) = q at hc ⊢
      by_cases hq : 0 < q
      · rw [decide_eq_true hq, decide_eq_false (show ¬ 0 < -q by omega)]; rfl
      · rw [decide_eq_false hq, decide_eq_true (show 0 < -q by omega)]; rfl
  have he : (L.measR m s (i : Int)).edge = L.dist (l.g i) (l.g (L.ix l.n ((i : Int) + 1))) ∧ (L.measR m s (i : Int)).across = L.dist (l.g i) (l.g (L.ix l.n ((i : Int) + 2))) := by
    rw [d1, d2, x0, x1, x2]
    unfold L.measR
    cases s.back with
    | false =>
      simp only [cond_false]
      rw [hn, show s.shift + (i : Int) + 1 = s.shift + ((i : Int) + 1) by omega, show s.shift + (i : Int) + 2 = s.shift + ((i : Int) + 2) by omega]
      exact ⟨rfl, rfl⟩
    | true =>
      simp only [cond_true]
      rw [hn, show s.shift - ((i : Int) + 1) + 1 = s.shift - (i : Int) by omega, show s.shift - ((i : Int) + 2) + 1 = s.shift - (i : Int) - 1 by omega]
      exact ⟨dist_sym _ _, dist_sym _ _⟩
  rw [meas_eq hw s0 (by omega) hi]
  unfold L.gaugeOf L.holdsR
  rw [meas0 hv hi']
  dsimp only
  rw [he.1, he.2, hb, within_iff.2 ⟨Int.le_refl _, Int.le_refl _⟩, within_iff.2 ⟨Int.le_refl _, Int.le_refl _⟩, decide_eq_true (rfl : (L.measR m s (i : Int)).bend = (L.measR m s (i : Int)).bend)]
  cases decide ((L.measR m s (i : Int)).bend = 0) <;> rfl
theorem holds_wide {g : L.Gauge} {x : L.Meas} {a : Int} (hg : L.okG g) (ha : 0 ≤ a) (h : L.holdsR g x = true) : L.holdsR (L.widen g a) x = true := by
  unfold L.okG at hg
  unfold L.holdsR at h ⊢
  rw [band, band, Bool.and_eq_true, Bool.and_eq_true, within_iff, within_iff] at h ⊢
  unfold L.widen L.wSpan
  dsimp only
  exact ⟨by omega, h.2⟩
theorem fits_wide {l m : L.Sq L.Pt} {s : L.Setting} {a : Int} (hv : L.validOutline l = true) (ha : 0 ≤ a) (hN : (L.widened (L.gaugesOf l) a).n = l.n) (h : L.fits (L.exactP l) m s = true) : L.fits (L.wideP l a) m s = true := by
  obtain ⟨e1, _, hg⟩ := exact_ok hv
  unfold L.fits at h ⊢
  rw [show (L.wideP l a).gauges.n = l.n from hN]
  rw [show (L.exactP l).gauges.n = l.n from e1] at h
  rw [band, Bool.and_eq_true, allB_iff] at h ⊢
  have := of_decide_eq_true h.1
  exact ⟨h.1, fun i hi => holds_wide (hg i (by omega)) ha (h.2 i hi)⟩
theorem setN_le {p : L.Piece} {l : L.Sq L.Pt} (h : p.gauges.n ≤ 24) : L.setN p l ≤ 1000000 := by
  unfold L.setN
  have := cnt_le (p := L.fitK p l) (n := 2 * p.gauges.n)
  cases decide (L.setE p l = 0)
  · exact Nat.zero_le _
  · show L.cnt (L.fitK p l) (2 * p.gauges.n) ≤ 1000000
    omega
def w_GlassExact_p (l : (L.Sq L.Pt)) (m : (L.Sq L.Pt)) (a : Int) (b : Int) : Prop := True
def w_GlassExact_r (l : (L.Sq L.Pt)) (m : (L.Sq L.Pt)) (a : Int) (b : Int) : SV := .bool true
def w_GlassExact_s : List EV → Option (Prop × SV)
  | [.p (.sl 2 l_n l_g), .p (.sl 2 m_n m_g), .p (.int .i64 a), .p (.int .i64 b)] => some ((∀ i, i < l_n → l_g i = [.int .i64 ((ofPt (l_g i)).x), .int .i64 ((ofPt (l_g i)).y)]) ∧ (∀ i, i < m_n → m_g i = [.int .i64 ((ofPt (m_g i)).x), .int .i64 ((ofPt (m_g i)).y)]) ∧ w_GlassExact_p (⟨l_n, fun i => ofPt (l_g i)⟩ : (L.Sq L.Pt)) (⟨m_n, fun i => ofPt (m_g i)⟩ : (L.Sq L.Pt)) a b, w_GlassExact_r (⟨l_n, fun i => ofPt (l_g i)⟩ : (L.Sq L.Pt)) (⟨m_n, fun i => ofPt (m_g i)⟩ : (L.Sq L.Pt)) a b)
  | _ => none
abbrev w_GlassExact_S : SE.Spec := (specO w_GlassExact_s)
def w_GlassExact_C : Cfg := { muts := [14, 23], frz := lookN [], specs := lookS [(12, w_awake_S), (44, r1_ValidOutline_S), (19, g_Gauges_S), (45, p_Settings_S), (41, g_Settings_S), (21, g_Widen_S), (23, r3_SameGauges_S), (46, w_among_S)], loops := fun _ => none, iters := lookI [], rfs := lookR [], nils := lookM [] }
theorem w_GlassExact_vc (l : (L.Sq L.Pt)) (m : (L.Sq L.Pt)) (a : Int) (b : Int) (hp : w_GlassExact_p l m a b) : vc Try.prog ({ w_GlassExact_C with loops := lookL [(19, { T := Nat, keep := [9, 12, 15, 24], keepO := [], chg := fun i => [(26, .p (.int .i64 (i : Int)))], own := fun _ => [], inv := fun i => i ≤ L.conN l m, mu := fun i => L.conN l m - i }), (24, { T := Nat, keep := [9, 15, 24], keepO := [], chg := fun i => [(27, .p (.int .i64 (i : Int)))], own := fun _ => [], inv := fun i => i ≤ L.setN (L.exactP l) m, mu := fun i => L.setN (L.exactP l) m - i })], rfs := lookR [] }) (bodyOf Try.f10) (st0 Try.f10 [.p (.sl 2 l.n (fun i => [.int .i64 ((l.g i).x), .int .i64 ((l.g i).y)])), .p (.sl 2 m.n (fun i => [.int .i64 ((m.g i).x), .int .i64 ((m.g i).y)])), .p (.int .i64 a), .p (.int .i64 b)]) (retFn Try.prog Try.f10 (w_GlassExact_r l m a b)) :=
  @Eq.mpr _ (True ∧ ((∀ (i : Nat), i < l.n → [Go.SE.SV.int Go.IntKind.i64 (l.g i).x, Go.SE.SV.int Go.IntKind.i64 (l.g i).y] = [Go.SE.SV.int Go.IntKind.i64 (l.g i).x, Go.SE.SV.int Go.IntKind.i64 (l.g i).y]) ∧ True) ∧ ((!!L.validOutline (L.Sq.mk l.n fun (i : Nat) ↦ l.g i)) = Bool.true → (∀ (i : Nat), i < m.n → [Go.SE.SV.int Go.IntKind.i64 (m.g i).x, Go.SE.SV.int Go.IntKind.i64 (m.g i).y] = [Go.SE.SV.int
 Go.IntKind.i64 (m.g i).x, Go.SE.SV.int Go.IntKind.i64 (m.g i).y]) ∧ True) ∧ ((bif bif bif bif bif !L.validOutline (L.Sq.mk l.n fun (i : Nat) ↦ l.g i) then Bool.true else !L.validOutline (L.Sq.mk m.n fun (i : Nat) ↦ m.g i) then Bool.true else Decidable.decide (a < (0 : Int)) then Bool.true else Decidable.decide (b < (0 : Int)) then Bool.true else Decidable.decide ((1000000 : Int) < a) then
 Bool.true else Decidable.decide ((1000000 : Int) < b)) = Bool.true → Bool.true = Bool.true) ∧ ((bif bif bif bif bif !L.validOutline (L.Sq.mk l.n fun (i : Nat) ↦ l.g i) then Bool.true else !L.validOutline (L.Sq.mk m.n fun (i : Nat) ↦ m.g i) then Bool.true else Decidable.decide (a < (0 : Int)) then Bool.true else Decidable.decide (b < (0 : Int)) then Bool.true else Decidable.decide ((1000000 : Int)
 < a) then Bool.true else Decidable.decide ((1000000 : Int) < b)) = Bool.false → ((∀ (i : Nat), i < l.n → [Go.SE.SV.int Go.IntKind.i64 (l.g i).x, Go.SE.SV.int Go.IntKind.i64 (l.g i).y] = [Go.SE.SV.int Go.IntKind.i64 (l.g i).x, Go.SE.SV.int Go.IntKind.i64 (l.g i).y]) ∧ l.n ≤ (1000000 : Nat)) ∧ ((∀ (i : Nat), i < l.n → [Go.SE.SV.int Go.IntKind.i64 (l.g i).x, Go.SE.SV.int Go.IntKind.i64 (l.g i).y] =
 [Go.SE.SV.int Go.IntKind.i64 (l.g i).x, Go.SE.SV.int Go.IntKind.i64 (l.g i).y]) ∧ (∀ (i : Nat), i < m.n → [Go.SE.SV.int Go.IntKind.i64 (m.g i).x, Go.SE.SV.int Go.IntKind.i64 (m.g i).y] = [Go.SE.SV.int Go.IntKind.i64 (m.g i).x, Go.SE.SV.int Go.IntKind.i64 (m.g i).y]) ∧ l.n ≤ (1000000 : Nat) ∧ m.n ≤ (1000000 : Nat)) ∧ ((∀ (i : Nat), (i < bif L.validOutline (L.Sq.mk l.n fun (i : Nat) ↦ l.g i) then
 l.n else (0 : Nat)) → [Go.SE.SV.int Go.IntKind.i64 (L.gaugeOf (L.Sq.mk l.n fun (i : Nat) ↦ l.g i) i).edge.lo, Go.SE.SV.int Go.IntKind.i64 (L.gaugeOf (L.Sq.mk l.n fun (i : Nat) ↦ l.g i) i).edge.hi, Go.SE.SV.int Go.IntKind.i64 (L.gaugeOf (L.Sq.mk l.n fun (i : Nat) ↦ l.g i) i).across.lo, Go.SE.SV.int Go.IntKind.i64 (L.gaugeOf (L.Sq.mk l.n fun (i : Nat) ↦ l.g i) i).across.hi, Go.SE.SV.int
 Go.IntKind.i64 (L.gaugeOf (L.Sq.mk l.n fun (i : Nat) ↦ l.g i) i).bend] = [Go.SE.SV.int Go.IntKind.i64 (L.gaugeOf (L.Sq.mk l.n fun (i : Nat) ↦ l.g i) i).edge.lo, Go.SE.SV.int Go.IntKind.i64 (L.gaugeOf (L.Sq.mk l.n fun (i : Nat) ↦ l.g i) i).edge.hi, Go.SE.SV.int Go.IntKind.i64 (L.gaugeOf (L.Sq.mk l.n fun (i : Nat) ↦ l.g i) i).across.lo, Go.SE.SV.int Go.IntKind.i64 (L.gaugeOf (L.Sq.mk l.n fun (i :
 Nat) ↦ l.g i) i).across.hi, Go.SE.SV.int Go.IntKind.i64 (L.gaugeOf (L.Sq.mk l.n fun (i : Nat) ↦ l.g i) i).bend]) ∧ (∀ (i : Nat), i < nat_lit 0 → [] = [Go.SE.SV.int Go.IntKind.i64 (0 : Int), Go.SE.SV.int Go.IntKind.i64 (0 : Int), Go.SE.SV.int Go.IntKind.i64 (0 : Int)]) ∧ (∀ (i : Nat), i < m.n → [Go.SE.SV.int Go.IntKind.i64 (m.g i).x, Go.SE.SV.int Go.IntKind.i64 (m.g i).y] = [Go.SE.SV.int
 Go.IntKind.i64 (m.g i).x, Go.SE.SV.int Go.IntKind.i64 (m.g i).y]) ∧ (bif L.validOutline (L.Sq.mk l.n fun (i : Nat) ↦ l.g i) then l.n else (0 : Nat)) ≤ (1000000 : Nat) ∧ nat_lit 0 ≤ (1000000 : Nat) ∧ m.n ≤ (1000000 : Nat)) ∧ ((∀ (i : Nat), (i < bif L.validOutline (L.Sq.mk l.n fun (i : Nat) ↦ l.g i) then l.n else (0 : Nat)) → [Go.SE.SV.int Go.IntKind.i64 (L.gaugeOf (L.Sq.mk l.n fun (i : Nat) ↦ l.g
 i) i).edge.lo, Go.SE.SV.int Go.IntKind.i64 (L.gaugeOf (L.Sq.mk l.n fun (i : Nat) ↦ l.g i) i).edge.hi, Go.SE.SV.int Go.IntKind.i64 (L.gaugeOf (L.Sq.mk l.n fun (i : Nat) ↦ l.g i) i).across.lo, Go.SE.SV.int Go.IntKind.i64 (L.gaugeOf (L.Sq.mk l.n fun (i : Nat) ↦ l.g i) i).across.hi, Go.SE.SV.int Go.IntKind.i64 (L.gaugeOf (L.Sq.mk l.n fun (i : Nat) ↦ l.g i) i).bend] = [Go.SE.SV.int Go.IntKind.i64
 (L.gaugeOf (L.Sq.mk l.n fun (i : Nat) ↦ l.g i) i).edge.lo, Go.SE.SV.int Go.IntKind.i64 (L.gaugeOf (L.Sq.mk l.n fun (i : Nat) ↦ l.g i) i).edge.hi, Go.SE.SV.int Go.IntKind.i64 (L.gaugeOf (L.Sq.mk l.n fun (i : Nat) ↦ l.g i) i).across.lo, Go.SE.SV.int Go.IntKind.i64 (L.gaugeOf (L.Sq.mk l.n fun (i : Nat) ↦ l.g i) i).across.hi, Go.SE.SV.int Go.IntKind.i64 (L.gaugeOf (L.Sq.mk l.n fun (i : Nat) ↦ l.g i)
 i).bend]) ∧ (bif L.validOutline (L.Sq.mk l.n fun (i : Nat) ↦ l.g i) then l.n else (0 : Nat)) ≤ (1000000 : Nat)) ∧ ((∀ (i : Nat), i < L.wN (L.Sq.mk (bif L.validOutline (L.Sq.mk l.n fun (i : Nat) ↦ l.g i) then l.n else (0 : Nat)) fun (i : Nat) ↦ L.gaugeOf (L.Sq.mk l.n fun (i : Nat) ↦ l.g i) i) a → [Go.SE.SV.int Go.IntKind.i64 (L.widen (L.gaugeOf (L.Sq.mk l.n fun (i : Nat) ↦ l.g i) i) a).edge.lo,
 Go.SE.SV.int Go.IntKind.i64 (L.widen (L.gaugeOf (L.Sq.mk l.n fun (i : Nat) ↦ l.g i) i) a).edge.hi, Go.SE.SV.int Go.IntKind.i64 (L.widen (L.gaugeOf (L.Sq.mk l.n fun (i : Nat) ↦ l.g i) i) a).across.lo, Go.SE.SV.int Go.IntKind.i64 (L.widen (L.gaugeOf (L.Sq.mk l.n fun (i : Nat) ↦ l.g i) i) a).across.hi, Go.SE.SV.int Go.IntKind.i64 (L.widen (L.gaugeOf (L.Sq.mk l.n fun (i : Nat) ↦ l.g i) i) a).bend] =
 [Go.SE.SV.int Go.IntKind.i64 (L.widen (L.gaugeOf (L.Sq.mk l.n fun (i : Nat) ↦ l.g i) i) a).edge.lo, Go.SE.SV.int Go.IntKind.i64 (L.widen (L.gaugeOf (L.Sq.mk l.n fun (i : Nat) ↦ l.g i) i) a).edge.hi, Go.SE.SV.int Go.IntKind.i64 (L.widen (L.gaugeOf (L.Sq.mk l.n fun (i : Nat) ↦ l.g i) i) a).across.lo, Go.SE.SV.int Go.IntKind.i64 (L.widen (L.gaugeOf (L.Sq.mk l.n fun (i : Nat) ↦ l.g i) i) a).across.hi,
 Go.SE.SV.int Go.IntKind.i64 (L.widen (L.gaugeOf (L.Sq.mk l.n fun (i : Nat) ↦ l.g i) i) a).bend]) ∧ L.wN (L.Sq.mk (bif L.validOutline (L.Sq.mk l.n fun (i : Nat) ↦ l.g i) then l.n else (0 : Nat)) fun (i : Nat) ↦ L.gaugeOf (L.Sq.mk l.n fun (i : Nat) ↦ l.g i) i) a ≤ (1000000 : Nat)) ∧ Go.SE.InK Go.IntKind.i64 (a + b) ∧ ((∀ (i : Nat), (i < bif L.validOutline (L.Sq.mk l.n fun (i : Nat) ↦ l.g i) then l.n
 else (0 : Nat)) → [Go.SE.SV.int Go.IntKind.i64 (L.gaugeOf (L.Sq.mk l.n fun (i : Nat) ↦ l.g i) i).edge.lo, Go.SE.SV.int Go.IntKind.i64 (L.gaugeOf (L.Sq.mk l.n fun (i : Nat) ↦ l.g i) i).edge.hi, Go.SE.SV.int Go.IntKind.i64 (L.gaugeOf (L.Sq.mk l.n fun (i : Nat) ↦ l.g i) i).across.lo, Go.SE.SV.int Go.IntKind.i64 (L.gaugeOf (L.Sq.mk l.n fun (i : Nat) ↦ l.g i) i).across.hi, Go.SE.SV.int Go.IntKind.i64
 (L.gaugeOf (L.Sq.mk l.n fun (i : Nat) ↦ l.g i) i).bend] = [Go.SE.SV.int Go.IntKind.i64 (L.gaugeOf (L.Sq.mk l.n fun (i : Nat) ↦ l.g i) i).edge.lo, Go.SE.SV.int Go.IntKind.i64 (L.gaugeOf (L.Sq.mk l.n fun (i : Nat) ↦ l.g i) i).edge.hi, Go.SE.SV.int Go.IntKind.i64 (L.gaugeOf (L.Sq.mk l.n fun (i : Nat) ↦ l.g i) i).across.lo, Go.SE.SV.int Go.IntKind.i64 (L.gaugeOf (L.Sq.mk l.n fun (i : Nat) ↦ l.g i)
 i).across.hi, Go.SE.SV.int Go.IntKind.i64 (L.gaugeOf (L.Sq.mk l.n fun (i : Nat) ↦ l.g i) i).bend]) ∧ (bif L.validOutline (L.Sq.mk l.n fun (i : Nat) ↦ l.g i) then l.n else (0 : Nat)) ≤ (1000000 : Nat)) ∧ ((!bif bif bif bif bif !Decidable.decide ((bif L.validOutline (L.Sq.mk l.n fun (i : Nat) ↦ l.g i) then (0 : Int) else (1 : Int)) = (0 : Int)) then Bool.true else !Decidable.decide (L.conE (L.Sq.mk
 l.n fun (i : Nat) ↦ l.g i) (L.Sq.mk m.n fun (i : Nat) ↦ m.g i) = (0 : Int)) then Bool.true else !Decidable.decide (L.setE (L.Piece.mk (1 : Int) (1 : Int) (1 : Int) (0 : Int) (0 : Int) (L.Sq.mk (bif L.validOutline (L.Sq.mk l.n fun (i : Nat) ↦ l.g i) then l.n else (0 : Nat)) fun (i : Nat) ↦ L.gaugeOf (L.Sq.mk l.n fun (i : Nat) ↦ l.g i) i) (L.Sq.mk (nat_lit 0) fun (i : Nat) ↦ L.Mark.mk (0 : Int) (0 :
 Int) (0 : Int))) (L.Sq.mk m.n fun (i : Nat) ↦ m.g i) = (0 : Int)) then Bool.true else !Decidable.decide ((bif L.wBad (L.Sq.mk (bif L.validOutline (L.Sq.mk l.n fun (i : Nat) ↦ l.g i) then l.n else (0 : Nat)) fun (i : Nat) ↦ L.gaugeOf (L.Sq.mk l.n fun (i : Nat) ↦ l.g i) i) a then (1 : Int) else (0 : Int)) = (0 : Int)) then Bool.true else !Decidable.decide ((bif L.wBad (L.Sq.mk (L.wN (L.Sq.mk (bif
 L.validOutline (L.Sq.mk l.n fun (i : Nat) ↦ l.g i) then l.n else (0 : Nat)) fun (i : Nat) ↦ L.gaugeOf (L.Sq.mk l.n fun (i : Nat) ↦ l.g i) i) a) fun (i : Nat) ↦ L.widen (L.gaugeOf (L.Sq.mk l.n fun (i : Nat) ↦ l.g i) i) a) b then (1 : Int) else (0 : Int)) = (0 : Int)) then Bool.true else !Decidable.decide ((bif L.wBad (L.Sq.mk (bif L.validOutline (L.Sq.mk l.n fun (i : Nat) ↦ l.g i) then l.n else (0
 : Nat)) fun (i : Nat) ↦ L.gaugeOf (L.Sq.mk l.n fun (i : Nat) ↦ l.g i) i) (a + b) then (1 : Int) else (0 : Int)) = (0 : Int))) = Bool.true → (∀ (i : Nat), i < L.wN (L.Sq.mk (L.wN (L.Sq.mk (bif L.validOutline (L.Sq.mk l.n fun (i : Nat) ↦ l.g i) then l.n else (0 : Nat)) fun (i : Nat) ↦ L.gaugeOf (L.Sq.mk l.n fun (i : Nat) ↦ l.g i) i) a) fun (i : Nat) ↦ L.widen (L.gaugeOf (L.Sq.mk l.n fun (i : Nat) ↦
 l.g i) i) a) b → [Go.SE.SV.int Go.IntKind.i64 (L.widen (L.widen (L.gaugeOf (L.Sq.mk l.n fun (i : Nat) ↦ l.g i) i) a) b).edge.lo, Go.SE.SV.int Go.IntKind.i64 (L.widen (L.widen (L.gaugeOf (L.Sq.mk l.n fun (i : Nat) ↦ l.g i) i) a) b).edge.hi, Go.SE.SV.int Go.IntKind.i64 (L.widen (L.widen (L.gaugeOf (L.Sq.mk l.n fun (i : Nat) ↦ l.g i) i) a) b).across.lo, Go.SE.SV.int Go.IntKind.i64 (L.widen (L.widen
 (L.gaugeOf (L.Sq.mk l.n fun (i : Nat) ↦ l.g i) i) a) b).across.hi, Go.SE.SV.int Go.IntKind.i64 (L.widen (L.widen (L.gaugeOf (L.Sq.mk l.n fun (i : Nat) ↦ l.g i) i) a) b).bend] = [Go.SE.SV.int Go.IntKind.i64 (L.widen (L.widen (L.gaugeOf (L.Sq.mk l.n fun (i : Nat) ↦ l.g i) i) a) b).edge.lo, Go.SE.SV.int Go.IntKind.i64 (L.widen (L.widen (L.gaugeOf (L.Sq.mk l.n fun (i : Nat) ↦ l.g i) i) a) b).edge.hi,
 Go.SE.SV.int Go.IntKind.i64 (L.widen (L.widen (L.gaugeOf (L.Sq.mk l.n fun (i : Nat) ↦ l.g i) i) a) b).across.lo, Go.SE.SV.int Go.IntKind.i64 (L.widen (L.widen (L.gaugeOf (L.Sq.mk l.n fun (i : Nat) ↦ l.g i) i) a) b).across.hi, Go.SE.SV.int Go.IntKind.i64 (L.widen (L.widen (L.gaugeOf (L.Sq.mk l.n fun (i : Nat) ↦ l.g i) i) a) b).bend]) ∧ (∀ (i : Nat), i < L.wN (L.Sq.mk (bif L.validOutline (L.Sq.mk
 l.n fun (i : Nat) ↦ l.g i) then l.n else (0 : Nat)) fun (i : Nat) ↦ L.gaugeOf (L.Sq.mk l.n fun (i : Nat) ↦ l.g i) i) (a + b) → [Go.SE.SV.int Go.IntKind.i64 (L.widen (L.gaugeOf (L.Sq.mk l.n fun (i : Nat) ↦ l.g i) i) (a + b)).edge.lo, Go.SE.SV.int Go.IntKind.i64 (L.widen (L.gaugeOf (L.Sq.mk l.n fun (i : Nat) ↦ l.g i) i) (a + b)).edge.hi, Go.SE.SV.int Go.IntKind.i64 (L.widen (L.gaugeOf (L.Sq.mk l.n
 fun (i : Nat) ↦ l.g i) i) (a + b)).across.lo, Go.SE.SV.int Go.IntKind.i64 (L.widen (L.gaugeOf (L.Sq.mk l.n fun (i : Nat) ↦ l.g i) i) (a + b)).across.hi, Go.SE.SV.int Go.IntKind.i64 (L.widen (L.gaugeOf (L.Sq.mk l.n fun (i : Nat) ↦ l.g i) i) (a + b)).bend] = [Go.SE.SV.int Go.IntKind.i64 (L.widen (L.gaugeOf (L.Sq.mk l.n fun (i : Nat) ↦ l.g i) i) (a + b)).edge.lo, Go.SE.SV.int Go.IntKind.i64 (L.widen
 (L.gaugeOf (L.Sq.mk l.n fun (i : Nat) ↦ l.g i) i) (a + b)).edge.hi, Go.SE.SV.int Go.IntKind.i64 (L.widen (L.gaugeOf (L.Sq.mk l.n fun (i : Nat) ↦ l.g i) i) (a + b)).across.lo, Go.SE.SV.int Go.IntKind.i64 (L.widen (L.gaugeOf (L.Sq.mk l.n fun (i : Nat) ↦ l.g i) i) (a + b)).across.hi, Go.SE.SV.int Go.IntKind.i64 (L.widen (L.gaugeOf (L.Sq.mk l.n fun (i : Nat) ↦ l.g i) i) (a + b)).bend]) ∧ L.wN (L.Sq.mk
 (L.wN (L.Sq.mk (bif L.validOutline (L.Sq.mk l.n fun (i : Nat) ↦ l.g i) then l.n else (0 : Nat)) fun (i : Nat) ↦ L.gaugeOf (L.Sq.mk l.n fun (i : Nat) ↦ l.g i) i) a) fun (i : Nat) ↦ L.widen (L.gaugeOf (L.Sq.mk l.n fun (i : Nat) ↦ l.g i) i) a) b ≤ (1000000 : Nat)) ∧ ((bif bif bif bif bif bif !Decidable.decide ((bif L.validOutline (L.Sq.mk l.n fun (i : Nat) ↦ l.g i) then (0 : Int) else (1 : Int)) = (0
 : Int)) then Bool.true else !Decidable.decide (L.conE (L.Sq.mk l.n fun (i : Nat) ↦ l.g i) (L.Sq.mk m.n fun (i : Nat) ↦ m.g i) = (0 : Int)) then Bool.true else !Decidable.decide (L.setE (L.Piece.mk (1 : Int) (1 : Int) (1 : Int) (0 : Int) (0 : Int) (L.Sq.mk (bif L.validOutline (L.Sq.mk l.n fun (i : Nat) ↦ l.g i) then l.n else (0 : Nat)) fun (i : Nat) ↦ L.gaugeOf (L.Sq.mk l.n fun (i : Nat) ↦ l.g i)
 i) (L.Sq.mk (nat_lit 0) fun (i : Nat) ↦ L.Mark.mk (0 : Int) (0 : Int) (0 : Int))) (L.Sq.mk m.n fun (i : Nat) ↦ m.g i) = (0 : Int)) then Bool.true else !Decidable.decide ((bif L.wBad (L.Sq.mk (bif L.validOutline (L.Sq.mk l.n fun (i : Nat) ↦ l.g i) then l.n else (0 : Nat)) fun (i : Nat) ↦ L.gaugeOf (L.Sq.mk l.n fun (i : Nat) ↦ l.g i) i) a then (1 : Int) else (0 : Int)) = (0 : Int)) then Bool.true
 else !Decidable.decide ((bif L.wBad (L.Sq.mk (L.wN (L.Sq.mk (bif L.validOutline (L.Sq.mk l.n fun (i : Nat) ↦ l.g i) then l.n else (0 : Nat)) fun (i : Nat) ↦ L.gaugeOf (L.Sq.mk l.n fun (i : Nat) ↦ l.g i) i) a) fun (i : Nat) ↦ L.widen (L.gaugeOf (L.Sq.mk l.n fun (i : Nat) ↦ l.g i) i) a) b then (1 : Int) else (0 : Int)) = (0 : Int)) then Bool.true else !Decidable.decide ((bif L.wBad (L.Sq.mk (bif
 L.validOutline (L.Sq.mk l.n fun (i : Nat) ↦ l.g i) then l.n else (0 : Nat)) fun (i : Nat) ↦ L.gaugeOf (L.Sq.mk l.n fun (i : Nat) ↦ l.g i) i) (a + b) then (1 : Int) else (0 : Int)) = (0 : Int)) then Bool.true else !L.sameGs (L.Sq.mk (L.wN (L.Sq.mk (L.wN (L.Sq.mk (bif L.validOutline (L.Sq.mk l.n fun (i : Nat) ↦ l.g i) then l.n else (0 : Nat)) fun (i : Nat) ↦ L.gaugeOf (L.Sq.mk l.n fun (i : Nat) ↦
 l.g i) i) a) fun (i : Nat) ↦ L.widen (L.gaugeOf (L.Sq.mk l.n fun (i : Nat) ↦ l.g i) i) a) b) fun (i : Nat) ↦ L.widen (L.widen (L.gaugeOf (L.Sq.mk l.n fun (i : Nat) ↦ l.g i) i) a) b) (L.Sq.mk (L.wN (L.Sq.mk (bif L.validOutline (L.Sq.mk l.n fun (i : Nat) ↦ l.g i) then l.n else (0 : Nat)) fun (i : Nat) ↦ L.gaugeOf (L.Sq.mk l.n fun (i : Nat) ↦ l.g i) i) (a + b)) fun (i : Nat) ↦ L.widen (L.gaugeOf
 (L.Sq.mk l.n fun (i : Nat) ↦ l.g i) i) (a + b))) = Bool.true → Bool.false = Bool.true) ∧ ((bif bif bif bif bif bif !Decidable.decide ((bif L.validOutline (L.Sq.mk l.n fun (i : Nat) ↦ l.g i) then (0 : Int) else (1 : Int)) = (0 : Int)) then Bool.true else !Decidable.decide (L.conE (L.Sq.mk l.n fun (i : Nat) ↦ l.g i) (L.Sq.mk m.n fun (i : Nat) ↦ m.g i) = (0 : Int)) then Bool.true else
 !Decidable.decide (L.setE (L.Piece.mk (1 : Int) (1 : Int) (1 : Int) (0 : Int) (0 : Int) (L.Sq.mk (bif L.validOutline (L.Sq.mk l.n fun (i : Nat) ↦ l.g i) then l.n else (0 : Nat)) fun (i : Nat) ↦ L.gaugeOf (L.Sq.mk l.n fun (i : Nat) ↦ l.g i) i) (L.Sq.mk (nat_lit 0) fun (i : Nat) ↦ L.Mark.mk (0 : Int) (0 : Int) (0 : Int))) (L.Sq.mk m.n fun (i : Nat) ↦ m.g i) = (0 : Int)) then Bool.true else
 !Decidable.decide ((bif L.wBad (L.Sq.mk (bif L.validOutline (L.Sq.mk l.n fun (i : Nat) ↦ l.g i) then l.n else (0 : Nat)) fun (i : Nat) ↦ L.gaugeOf (L.Sq.mk l.n fun (i : Nat) ↦ l.g i) i) a then (1 : Int) else (0 : Int)) = (0 : Int)) then Bool.true else !Decidable.decide ((bif L.wBad (L.Sq.mk (L.wN (L.Sq.mk (bif L.validOutline (L.Sq.mk l.n fun (i : Nat) ↦ l.g i) then l.n else (0 : Nat)) fun (i :
 Nat) ↦ L.gaugeOf (L.Sq.mk l.n fun (i : Nat) ↦ l.g i) i) a) fun (i : Nat) ↦ L.widen (L.gaugeOf (L.Sq.mk l.n fun (i : Nat) ↦ l.g i) i) a) b then (1 : Int) else (0 : Int)) = (0 : Int)) then Bool.true else !Decidable.decide ((bif L.wBad (L.Sq.mk (bif L.validOutline (L.Sq.mk l.n fun (i : Nat) ↦ l.g i) then l.n else (0 : Nat)) fun (i : Nat) ↦ L.gaugeOf (L.Sq.mk l.n fun (i : Nat) ↦ l.g i) i) (a + b) then
 (1 : Int) else (0 : Int)) = (0 : Int)) then Bool.true else !L.sameGs (L.Sq.mk (L.wN (L.Sq.mk (L.wN (L.Sq.mk (bif L.validOutline (L.Sq.mk l.n fun (i : Nat) ↦ l.g i) then l.n else (0 : Nat)) fun (i : Nat) ↦ L.gaugeOf (L.Sq.mk l.n fun (i : Nat) ↦ l.g i) i) a) fun (i : Nat) ↦ L.widen (L.gaugeOf (L.Sq.mk l.n fun (i : Nat) ↦ l.g i) i) a) b) fun (i : Nat) ↦ L.widen (L.widen (L.gaugeOf (L.Sq.mk l.n fun (i
 : Nat) ↦ l.g i) i) a) b) (L.Sq.mk (L.wN (L.Sq.mk (bif L.validOutline (L.Sq.mk l.n fun (i : Nat) ↦ l.g i) then l.n else (0 : Nat)) fun (i : Nat) ↦ L.gaugeOf (L.Sq.mk l.n fun (i : Nat) ↦ l.g i) i) (a + b)) fun (i : Nat) ↦ L.widen (L.gaugeOf (L.Sq.mk l.n fun (i : Nat) ↦ l.g i) i) (a + b))) = Bool.false → ((∀ (i : Nat), i < L.wN (L.Sq.mk (bif L.validOutline (L.Sq.mk l.n fun (i : Nat) ↦ l.g i) then l.n
 else (0 : Nat)) fun (i : Nat) ↦ L.gaugeOf (L.Sq.mk l.n fun (i : Nat) ↦ l.g i) i) a → [Go.SE.SV.int Go.IntKind.i64 (L.widen (L.gaugeOf (L.Sq.mk l.n fun (i : Nat) ↦ l.g i) i) a).edge.lo, Go.SE.SV.int Go.IntKind.i64 (L.widen (L.gaugeOf (L.Sq.mk l.n fun (i : Nat) ↦ l.g i) i) a).edge.hi, Go.SE.SV.int Go.IntKind.i64 (L.widen (L.gaugeOf (L.Sq.mk l.n fun (i : Nat) ↦ l.g i) i) a).across.lo, Go.SE.SV.int
 Go.IntKind.i64 (L.widen (L.gaugeOf (L.Sq.mk l.n fun (i : Nat) ↦ l.g i) i) a).across.hi, Go.SE.SV.int Go.IntKind.i64 (L.widen (L.gaugeOf (L.Sq.mk l.n fun (i : Nat) ↦ l.g i) i) a).bend] = [Go.SE.SV.int Go.IntKind.i64 (L.widen (L.gaugeOf (L.Sq.mk l.n fun (i : Nat) ↦ l.g i) i) a).edge.lo, Go.SE.SV.int Go.IntKind.i64 (L.widen (L.gaugeOf (L.Sq.mk l.n fun (i : Nat) ↦ l.g i) i) a).edge.hi, Go.SE.SV.int
 Go.IntKind.i64 (L.widen (L.gaugeOf (L.Sq.mk l.n fun (i : Nat) ↦ l.g i) i) a).across.lo, Go.SE.SV.int Go.IntKind.i64 (L.widen (L.gaugeOf (L.Sq.mk l.n fun (i : Nat) ↦ l.g i) i) a).across.hi, Go.SE.SV.int Go.IntKind.i64 (L.widen (L.gaugeOf (L.Sq.mk l.n fun (i : Nat) ↦ l.g i) i) a).bend]) ∧ (∀ (i : Nat), i < nat_lit 0 → [] = [Go.SE.SV.int Go.IntKind.i64 (0 : Int), Go.SE.SV.int Go.IntKind.i64 (0 :
 Int), Go.SE.SV.int Go.IntKind.i64 (0 : Int)]) ∧ (∀ (i : Nat), i < m.n → [Go.SE.SV.int Go.IntKind.i64 (m.g i).x, Go.SE.SV.int Go.IntKind.i64 (m.g i).y] = [Go.SE.SV.int Go.IntKind.i64 (m.g i).x, Go.SE.SV.int Go.IntKind.i64 (m.g i).y]) ∧ L.wN (L.Sq.mk (bif L.validOutline (L.Sq.mk l.n fun (i : Nat) ↦ l.g i) then l.n else (0 : Nat)) fun (i : Nat) ↦ L.gaugeOf (L.Sq.mk l.n fun (i : Nat) ↦ l.g i) i) a ≤
 (1000000 : Nat) ∧ nat_lit 0 ≤ (1000000 : Nat) ∧ m.n ≤ (1000000 : Nat)) ∧ ((!Decidable.decide (L.setE (L.Piece.mk (1 : Int) (1 : Int) (1 : Int) (0 : Int) (0 : Int) (L.Sq.mk (L.wN (L.Sq.mk (bif L.validOutline (L.Sq.mk l.n fun (i : Nat) ↦ l.g i) then l.n else (0 : Nat)) fun (i : Nat) ↦ L.gaugeOf (L.Sq.mk l.n fun (i : Nat) ↦ l.g i) i) a) fun (i : Nat) ↦ L.widen (L.gaugeOf (L.Sq.mk l.n fun (i : Nat) ↦
 l.g i) i) a) (L.Sq.mk (nat_lit 0) fun (i : Nat) ↦ L.Mark.mk (0 : Int) (0 : Int) (0 : Int))) (L.Sq.mk m.n fun (i : Nat) ↦ m.g i) = (0 : Int))) = Bool.true → Bool.false = Bool.true) ∧ ((!Decidable.decide (L.setE (L.Piece.mk (1 : Int) (1 : Int) (1 : Int) (0 : Int) (0 : Int) (L.Sq.mk (L.wN (L.Sq.mk (bif L.validOutline (L.Sq.mk l.n fun (i : Nat) ↦ l.g i) then l.n else (0 : Nat)) fun (i : Nat) ↦
 L.gaugeOf (L.Sq.mk l.n fun (i : Nat) ↦ l.g i) i) a) fun (i : Nat) ↦ L.widen (L.gaugeOf (L.Sq.mk l.n fun (i : Nat) ↦ l.g i) i) a) (L.Sq.mk (nat_lit 0) fun (i : Nat) ↦ L.Mark.mk (0 : Int) (0 : Int) (0 : Int))) (L.Sq.mk m.n fun (i : Nat) ↦ m.g i) = (0 : Int))) = Bool.false → (∃ (g : Nat), (0 : Int) = (↑g : Int) ∧ g ≤ L.conN l m) ∧ ∀ (g : Nat), g ≤ L.conN l m → (Decidable.decide ((↑g : Int) <
 (↑(L.conN (L.Sq.mk l.n fun (i : Nat) ↦ l.g i) (L.Sq.mk m.n fun (i : Nat) ↦ m.g i)) : Int)) = Bool.true → ((0 : Int) ≤ (↑g : Int) ∧ (↑g : Int) < (↑(L.conN (L.Sq.mk l.n fun (i : Nat) ↦ l.g i) (L.Sq.mk m.n fun (i : Nat) ↦ m.g i)) : Int)) ∧ ((∀ (i : Nat), i < L.setN (L.Piece.mk (1 : Int) (1 : Int) (1 : Int) (0 : Int) (0 : Int) (L.Sq.mk (bif L.validOutline (L.Sq.mk l.n fun (i : Nat) ↦ l.g i) then l.n
 else (0 : Nat)) fun (i : Nat) ↦ L.gaugeOf (L.Sq.mk l.n fun (i : Nat) ↦ l.g i) i) (L.Sq.mk (nat_lit 0) fun (i : Nat) ↦ L.Mark.mk (0 : Int) (0 : Int) (0 : Int))) (L.Sq.mk m.n fun (i : Nat) ↦ m.g i) → [Go.SE.SV.int Go.IntKind.i64 (L.setG (L.Piece.mk (1 : Int) (1 : Int) (1 : Int) (0 : Int) (0 : Int) (L.Sq.mk (bif L.validOutline (L.Sq.mk l.n fun (i : Nat) ↦ l.g i) then l.n else (0 : Nat)) fun (i : Nat)
 ↦ L.gaugeOf (L.Sq.mk l.n fun (i : Nat) ↦ l.g i) i) (L.Sq.mk (nat_lit 0) fun (i : Nat) ↦ L.Mark.mk (0 : Int) (0 : Int) (0 : Int))) (L.Sq.mk m.n fun (i : Nat) ↦ m.g i) i).shift, Go.SE.SV.bool (L.setG (L.Piece.mk (1 : Int) (1 : Int) (1 : Int) (0 : Int) (0 : Int) (L.Sq.mk (bif L.validOutline (L.Sq.mk l.n fun (i : Nat) ↦ l.g i) then l.n else (0 : Nat)) fun (i : Nat) ↦ L.gaugeOf (L.Sq.mk l.n fun (i :
 Nat) ↦ l.g i) i) (L.Sq.mk (nat_lit 0) fun (i : Nat) ↦ L.Mark.mk (0 : Int) (0 : Int) (0 : Int))) (L.Sq.mk m.n fun (i : Nat) ↦ m.g i) i).back] = [Go.SE.SV.int Go.IntKind.i64 (L.setG (L.Piece.mk (1 : Int) (1 : Int) (1 : Int) (0 : Int) (0 : Int) (L.Sq.mk (bif L.validOutline (L.Sq.mk l.n fun (i : Nat) ↦ l.g i) then l.n else (0 : Nat)) fun (i : Nat) ↦ L.gaugeOf (L.Sq.mk l.n fun (i : Nat) ↦ l.g i) i)
 (L.Sq.mk (nat_lit 0) fun (i : Nat) ↦ L.Mark.mk (0 : Int) (0 : Int) (0 : Int))) (L.Sq.mk m.n fun (i : Nat) ↦ m.g i) i).shift, Go.SE.SV.bool (L.setG (L.Piece.mk (1 : Int) (1 : Int) (1 : Int) (0 : Int) (0 : Int) (L.Sq.mk (bif L.validOutline (L.Sq.mk l.n fun (i : Nat) ↦ l.g i) then l.n else (0 : Nat)) fun (i : Nat) ↦ L.gaugeOf (L.Sq.mk l.n fun (i : Nat) ↦ l.g i) i) (L.Sq.mk (nat_lit 0) fun (i : Nat) ↦
 L.Mark.mk (0 : Int) (0 : Int) (0 : Int))) (L.Sq.mk m.n fun (i : Nat) ↦ m.g i) i).back]) ∧ L.setN (L.Piece.mk (1 : Int) (1 : Int) (1 : Int) (0 : Int) (0 : Int) (L.Sq.mk (bif L.validOutline (L.Sq.mk l.n fun (i : Nat) ↦ l.g i) then l.n else (0 : Nat)) fun (i : Nat) ↦ L.gaugeOf (L.Sq.mk l.n fun (i : Nat) ↦ l.g i) i) (L.Sq.mk (nat_lit 0) fun (i : Nat) ↦ L.Mark.mk (0 : Int) (0 : Int) (0 : Int)))
 (L.Sq.mk m.n fun (i : Nat) ↦ m.g i) ≤ (1000000 : Nat)) ∧ ((!L.among (L.Sq.mk (L.setN (L.Piece.mk (1 : Int) (1 : Int) (1 : Int) (0 : Int) (0 : Int) (L.Sq.mk (bif L.validOutline (L.Sq.mk l.n fun (i : Nat) ↦ l.g i) then l.n else (0 : Nat)) fun (i : Nat) ↦ L.gaugeOf (L.Sq.mk l.n fun (i : Nat) ↦ l.g i) i) (L.Sq.mk (nat_lit 0) fun (i : Nat) ↦ L.Mark.mk (0 : Int) (0 : Int) (0 : Int))) (L.Sq.mk m.n fun (i
 : Nat) ↦ m.g i)) fun (i : Nat) ↦ L.setG (L.Piece.mk (1 : Int) (1 : Int) (1 : Int) (0 : Int) (0 : Int) (L.Sq.mk (bif L.validOutline (L.Sq.mk l.n fun (i : Nat) ↦ l.g i) then l.n else (0 : Nat)) fun (i : Nat) ↦ L.gaugeOf (L.Sq.mk l.n fun (i : Nat) ↦ l.g i) i) (L.Sq.mk (nat_lit 0) fun (i : Nat) ↦ L.Mark.mk (0 : Int) (0 : Int) (0 : Int))) (L.Sq.mk m.n fun (i : Nat) ↦ m.g i) i) (L.conG (L.Sq.mk l.n fun
 (i : Nat) ↦ l.g i) (L.Sq.mk m.n fun (i : Nat) ↦ m.g i) (Int.toNat (↑g : Int)))) = Bool.true → Bool.false = Bool.true) ∧ ((!L.among (L.Sq.mk (L.setN (L.Piece.mk (1 : Int) (1 : Int) (1 : Int) (0 : Int) (0 : Int) (L.Sq.mk (bif L.validOutline (L.Sq.mk l.n fun (i : Nat) ↦ l.g i) then l.n else (0 : Nat)) fun (i : Nat) ↦ L.gaugeOf (L.Sq.mk l.n fun (i : Nat) ↦ l.g i) i) (L.Sq.mk (nat_lit 0) fun (i : Nat)
 ↦ L.Mark.mk (0 : Int) (0 : Int) (0 : Int))) (L.Sq.mk m.n fun (i : Nat) ↦ m.g i)) fun (i : Nat) ↦ L.setG (L.Piece.mk (1 : Int) (1 : Int) (1 : Int) (0 : Int) (0 : Int) (L.Sq.mk (bif L.validOutline (L.Sq.mk l.n fun (i : Nat) ↦ l.g i) then l.n else (0 : Nat)) fun (i : Nat) ↦ L.gaugeOf (L.Sq.mk l.n fun (i : Nat) ↦ l.g i) i) (L.Sq.mk (nat_lit 0) fun (i : Nat) ↦ L.Mark.mk (0 : Int) (0 : Int) (0 : Int)))
 (L.Sq.mk m.n fun (i : Nat) ↦ m.g i) i) (L.conG (L.Sq.mk l.n fun (i : Nat) ↦ l.g i) (L.Sq.mk m.n fun (i : Nat) ↦ m.g i) (Int.toNat (↑g : Int)))) = Bool.false → Go.SE.InK Go.IntKind.i64 ((↑g : Int) + (1 : Int)) ∧ ∃ (g' : Nat), (↑g : Int) + (1 : Int) = (↑g' : Int) ∧ (L.setN (L.Piece.mk (1 : Int) (1 : Int) (1 : Int) (0 : Int) (0 : Int) (L.Sq.mk (L.wN (L.Sq.mk (bif L.validOutline (L.Sq.mk l.n fun (i :
 Nat) ↦ l.g i) then l.n else (0 : Nat)) fun (i : Nat) ↦ L.gaugeOf (L.Sq.mk l.n fun (i : Nat) ↦ l.g i) i) a) fun (i : Nat) ↦ L.widen (L.gaugeOf (L.Sq.mk l.n fun (i : Nat) ↦ l.g i) i) a) (L.Sq.mk (nat_lit 0) fun (i : Nat) ↦ L.Mark.mk (0 : Int) (0 : Int) (0 : Int))) (L.Sq.mk m.n fun (i : Nat) ↦ m.g i) = L.setN (L.Piece.mk (1 : Int) (1 : Int) (1 : Int) (0 : Int) (0 : Int) (L.Sq.mk (L.wN (L.Sq.mk (bif
 L.validOutline (L.Sq.mk l.n fun (i : Nat) ↦ l.g i) then l.n else (0 : Nat)) fun (i : Nat) ↦ L.gaugeOf (L.Sq.mk l.n fun (i : Nat) ↦ l.g i) i) a) fun (i : Nat) ↦ L.widen (L.gaugeOf (L.Sq.mk l.n fun (i : Nat) ↦ l.g i) i) a) (L.Sq.mk (nat_lit 0) fun (i : Nat) ↦ L.Mark.mk (0 : Int) (0 : Int) (0 : Int))) (L.Sq.mk m.n fun (i : Nat) ↦ m.g i) ∧ ∀ (i : Nat), i < L.setN (L.Piece.mk (1 : Int) (1 : Int) (1 :
 Int) (0 : Int) (0 : Int) (L.Sq.mk (L.wN (L.Sq.mk (bif L.validOutline (L.Sq.mk l.n fun (i : Nat) ↦ l.g i) then l.n else (0 : Nat)) fun (i : Nat) ↦ L.gaugeOf (L.Sq.mk l.n fun (i : Nat) ↦ l.g i) i) a) fun (i : Nat) ↦ L.widen (L.gaugeOf (L.Sq.mk l.n fun (i : Nat) ↦ l.g i) i) a) (L.Sq.mk (nat_lit 0) fun (i : Nat) ↦ L.Mark.mk (0 : Int) (0 : Int) (0 : Int))) (L.Sq.mk m.n fun (i : Nat) ↦ m.g i) →
 [Go.SE.SV.int Go.IntKind.i64 (L.setG (L.Piece.mk (1 : Int) (1 : Int) (1 : Int) (0 : Int) (0 : Int) (L.Sq.mk (L.wN (L.Sq.mk (bif L.validOutline (L.Sq.mk l.n fun (i : Nat) ↦ l.g i) then l.n else (0 : Nat)) fun (i : Nat) ↦ L.gaugeOf (L.Sq.mk l.n fun (i : Nat) ↦ l.g i) i) a) fun (i : Nat) ↦ L.widen (L.gaugeOf (L.Sq.mk l.n fun (i : Nat) ↦ l.g i) i) a) (L.Sq.mk (nat_lit 0) fun (i : Nat) ↦ L.Mark.mk (0 :
 Int) (0 : Int) (0 : Int))) (L.Sq.mk m.n fun (i : Nat) ↦ m.g i) i).shift, Go.SE.SV.bool (L.setG (L.Piece.mk (1 : Int) (1 : Int) (1 : Int) (0 : Int) (0 : Int) (L.Sq.mk (L.wN (L.Sq.mk (bif L.validOutline (L.Sq.mk l.n fun (i : Nat) ↦ l.g i) then l.n else (0 : Nat)) fun (i : Nat) ↦ L.gaugeOf (L.Sq.mk l.n fun (i : Nat) ↦ l.g i) i) a) fun (i : Nat) ↦ L.widen (L.gaugeOf (L.Sq.mk l.n fun (i : Nat) ↦ l.g i)
 i) a) (L.Sq.mk (nat_lit 0) fun (i : Nat) ↦ L.Mark.mk (0 : Int) (0 : Int) (0 : Int))) (L.Sq.mk m.n fun (i : Nat) ↦ m.g i) i).back] = [Go.SE.SV.int Go.IntKind.i64 (L.setG (L.Piece.mk (1 : Int) (1 : Int) (1 : Int) (0 : Int) (0 : Int) (L.Sq.mk (L.wN (L.Sq.mk (bif L.validOutline (L.Sq.mk l.n fun (i : Nat) ↦ l.g i) then l.n else (0 : Nat)) fun (i : Nat) ↦ L.gaugeOf (L.Sq.mk l.n fun (i : Nat) ↦ l.g i) i)
 a) fun (i : Nat) ↦ L.widen (L.gaugeOf (L.Sq.mk l.n fun (i : Nat) ↦ l.g i) i) a) (L.Sq.mk (nat_lit 0) fun (i : Nat) ↦ L.Mark.mk (0 : Int) (0 : Int) (0 : Int))) (L.Sq.mk m.n fun (i : Nat) ↦ m.g i) i).shift, Go.SE.SV.bool (L.setG (L.Piece.mk (1 : Int) (1 : Int) (1 : Int) (0 : Int) (0 : Int) (L.Sq.mk (L.wN (L.Sq.mk (bif L.validOutline (L.Sq.mk l.n fun (i : Nat) ↦ l.g i) then l.n else (0 : Nat)) fun (i
 : Nat) ↦ L.gaugeOf (L.Sq.mk l.n fun (i : Nat) ↦ l.g i) i) a) fun (i : Nat) ↦ L.widen (L.gaugeOf (L.Sq.mk l.n fun (i : Nat) ↦ l.g i) i) a) (L.Sq.mk (nat_lit 0) fun (i : Nat) ↦ L.Mark.mk (0 : Int) (0 : Int) (0 : Int))) (L.Sq.mk m.n fun (i : Nat) ↦ m.g i) i).back]) ∧ (L.setN (L.Piece.mk (1 : Int) (1 : Int) (1 : Int) (0 : Int) (0 : Int) (L.Sq.mk (bif L.validOutline (L.Sq.mk l.n fun (i : Nat) ↦ l.g i)
 then l.n else (0 : Nat)) fun (i : Nat) ↦ L.gaugeOf (L.Sq.mk l.n fun (i : Nat) ↦ l.g i) i) (L.Sq.mk (nat_lit 0) fun (i : Nat) ↦ L.Mark.mk (0 : Int) (0 : Int) (0 : Int))) (L.Sq.mk m.n fun (i : Nat) ↦ m.g i) = L.setN (L.Piece.mk (1 : Int) (1 : Int) (1 : Int) (0 : Int) (0 : Int) (L.Sq.mk (bif L.validOutline (L.Sq.mk l.n fun (i : Nat) ↦ l.g i) then l.n else (0 : Nat)) fun (i : Nat) ↦ L.gaugeOf (L.Sq.mk
 l.n fun (i : Nat) ↦ l.g i) i) (L.Sq.mk (nat_lit 0) fun (i : Nat) ↦ L.Mark.mk (0 : Int) (0 : Int) (0 : Int))) (L.Sq.mk m.n fun (i : Nat) ↦ m.g i) ∧ ∀ (i : Nat), i < L.setN (L.Piece.mk (1 : Int) (1 : Int) (1 : Int) (0 : Int) (0 : Int) (L.Sq.mk (bif L.validOutline (L.Sq.mk l.n fun (i : Nat) ↦ l.g i) then l.n else (0 : Nat)) fun (i : Nat) ↦ L.gaugeOf (L.Sq.mk l.n fun (i : Nat) ↦ l.g i) i) (L.Sq.mk
 (nat_lit 0) fun (i : Nat) ↦ L.Mark.mk (0 : Int) (0 : Int) (0 : Int))) (L.Sq.mk m.n fun (i : Nat) ↦ m.g i) → [Go.SE.SV.int Go.IntKind.i64 (L.setG (L.Piece.mk (1 : Int) (1 : Int) (1 : Int) (0 : Int) (0 : Int) (L.Sq.mk (bif L.validOutline (L.Sq.mk l.n fun (i : Nat) ↦ l.g i) then l.n else (0 : Nat)) fun (i : Nat) ↦ L.gaugeOf (L.Sq.mk l.n fun (i : Nat) ↦ l.g i) i) (L.Sq.mk (nat_lit 0) fun (i : Nat) ↦
 L.Mark.mk (0 : Int) (0 : Int) (0 : Int))) (L.Sq.mk m.n fun (i : Nat) ↦ m.g i) i).shift, Go.SE.SV.bool (L.setG (L.Piece.mk (1 : Int) (1 : Int) (1 : Int) (0 : Int) (0 : Int) (L.Sq.mk (bif L.validOutline (L.Sq.mk l.n fun (i : Nat) ↦ l.g i) then l.n else (0 : Nat)) fun (i : Nat) ↦ L.gaugeOf (L.Sq.mk l.n fun (i : Nat) ↦ l.g i) i) (L.Sq.mk (nat_lit 0) fun (i : Nat) ↦ L.Mark.mk (0 : Int) (0 : Int) (0 :
 Int))) (L.Sq.mk m.n fun (i : Nat) ↦ m.g i) i).back] = [Go.SE.SV.int Go.IntKind.i64 (L.setG (L.Piece.mk (1 : Int) (1 : Int) (1 : Int) (0 : Int) (0 : Int) (L.Sq.mk (bif L.validOutline (L.Sq.mk l.n fun (i : Nat) ↦ l.g i) then l.n else (0 : Nat)) fun (i : Nat) ↦ L.gaugeOf (L.Sq.mk l.n fun (i : Nat) ↦ l.g i) i) (L.Sq.mk (nat_lit 0) fun (i : Nat) ↦ L.Mark.mk (0 : Int) (0 : Int) (0 : Int))) (L.Sq.mk m.n
 fun (i : Nat) ↦ m.g i) i).shift, Go.SE.SV.bool (L.setG (L.Piece.mk (1 : Int) (1 : Int) (1 : Int) (0 : Int) (0 : Int) (L.Sq.mk (bif L.validOutline (L.Sq.mk l.n fun (i : Nat) ↦ l.g i) then l.n else (0 : Nat)) fun (i : Nat) ↦ L.gaugeOf (L.Sq.mk l.n fun (i : Nat) ↦ l.g i) i) (L.Sq.mk (nat_lit 0) fun (i : Nat) ↦ L.Mark.mk (0 : Int) (0 : Int) (0 : Int))) (L.Sq.mk m.n fun (i : Nat) ↦ m.g i) i).back]) ∧
 (L.conN (L.Sq.mk l.n fun (i : Nat) ↦ l.g i) (L.Sq.mk m.n fun (i : Nat) ↦ m.g i) = L.conN (L.Sq.mk l.n fun (i : Nat) ↦ l.g i) (L.Sq.mk m.n fun (i : Nat) ↦ m.g i) ∧ ∀ (i : Nat), i < L.conN (L.Sq.mk l.n fun (i : Nat) ↦ l.g i) (L.Sq.mk m.n fun (i : Nat) ↦ m.g i) → [Go.SE.SV.int Go.IntKind.i64 (L.conG (L.Sq.mk l.n fun (i : Nat) ↦ l.g i) (L.Sq.mk m.n fun (i : Nat) ↦ m.g i) i).shift, Go.SE.SV.bool
 (L.conG (L.Sq.mk l.n fun (i : Nat) ↦ l.g i) (L.Sq.mk m.n fun (i : Nat) ↦ m.g i) i).back] = [Go.SE.SV.int Go.IntKind.i64 (L.conG (L.Sq.mk l.n fun (i : Nat) ↦ l.g i) (L.Sq.mk m.n fun (i : Nat) ↦ m.g i) i).shift, Go.SE.SV.bool (L.conG (L.Sq.mk l.n fun (i : Nat) ↦ l.g i) (L.Sq.mk m.n fun (i : Nat) ↦ m.g i) i).back]) ∧ Bool.true = Bool.true ∧ g' ≤ L.conN l m ∧ L.conN l m - g' < L.conN l m - g)) ∧
 (Decidable.decide ((↑g : Int) < (↑(L.conN (L.Sq.mk l.n fun (i : Nat) ↦ l.g i) (L.Sq.mk m.n fun (i : Nat) ↦ m.g i)) : Int)) = Bool.false → (∃ (g : Nat), (0 : Int) = (↑g : Int) ∧ g ≤ L.setN (L.exactP l) m) ∧ ∀ (g_1 : Nat), g_1 ≤ L.setN (L.exactP l) m → (Decidable.decide ((↑g_1 : Int) < (↑(L.setN (L.Piece.mk (1 : Int) (1 : Int) (1 : Int) (0 : Int) (0 : Int) (L.Sq.mk (bif L.validOutline (L.Sq.mk l.n
 fun (i : Nat) ↦ l.g i) then l.n else (0 : Nat)) fun (i : Nat) ↦ L.gaugeOf (L.Sq.mk l.n fun (i : Nat) ↦ l.g i) i) (L.Sq.mk (nat_lit 0) fun (i : Nat) ↦ L.Mark.mk (0 : Int) (0 : Int) (0 : Int))) (L.Sq.mk m.n fun (i : Nat) ↦ m.g i)) : Int)) = Bool.true → ((0 : Int) ≤ (↑g_1 : Int) ∧ (↑g_1 : Int) < (↑(L.setN (L.Piece.mk (1 : Int) (1 : Int) (1 : Int) (0 : Int) (0 : Int) (L.Sq.mk (bif L.validOutline
 (L.Sq.mk l.n fun (i : Nat) ↦ l.g i) then l.n else (0 : Nat)) fun (i : Nat) ↦ L.gaugeOf (L.Sq.mk l.n fun (i : Nat) ↦ l.g i) i) (L.Sq.mk (nat_lit 0) fun (i : Nat) ↦ L.Mark.mk (0 : Int) (0 : Int) (0 : Int))) (L.Sq.mk m.n fun (i : Nat) ↦ m.g i)) : Int)) ∧ ((∀ (i : Nat), i < L.setN (L.Piece.mk (1 : Int) (1 : Int) (1 : Int) (0 : Int) (0 : Int) (L.Sq.mk (L.wN (L.Sq.mk (bif L.validOutline (L.Sq.mk l.n fun
 (i : Nat) ↦ l.g i) then l.n else (0 : Nat)) fun (i : Nat) ↦ L.gaugeOf (L.Sq.mk l.n fun (i : Nat) ↦ l.g i) i) a) fun (i : Nat) ↦ L.widen (L.gaugeOf (L.Sq.mk l.n fun (i : Nat) ↦ l.g i) i) a) (L.Sq.mk (nat_lit 0) fun (i : Nat) ↦ L.Mark.mk (0 : Int) (0 : Int) (0 : Int))) (L.Sq.mk m.n fun (i : Nat) ↦ m.g i) → [Go.SE.SV.int Go.IntKind.i64 (L.setG (L.Piece.mk (1 : Int) (1 : Int) (1 : Int) (0 : Int) (0 :
 Int) (L.Sq.mk (L.wN (L.Sq.mk (bif L.validOutline (L.Sq.mk l.n fun (i : Nat) ↦ l.g i) then l.n else (0 : Nat)) fun (i : Nat) ↦ L.gaugeOf (L.Sq.mk l.n fun (i : Nat) ↦ l.g i) i) a) fun (i : Nat) ↦ L.widen (L.gaugeOf (L.Sq.mk l.n fun (i : Nat) ↦ l.g i) i) a) (L.Sq.mk (nat_lit 0) fun (i : Nat) ↦ L.Mark.mk (0 : Int) (0 : Int) (0 : Int))) (L.Sq.mk m.n fun (i : Nat) ↦ m.g i) i).shift, Go.SE.SV.bool
 (L.setG (L.Piece.mk (1 : Int) (1 : Int) (1 : Int) (0 : Int) (0 : Int) (L.Sq.mk (L.wN (L.Sq.mk (bif L.validOutline (L.Sq.mk l.n fun (i : Nat) ↦ l.g i) then l.n else (0 : Nat)) fun (i : Nat) ↦ L.gaugeOf (L.Sq.mk l.n fun (i : Nat) ↦ l.g i) i) a) fun (i : Nat) ↦ L.widen (L.gaugeOf (L.Sq.mk l.n fun (i : Nat) ↦ l.g i) i) a) (L.Sq.mk (nat_lit 0) fun (i : Nat) ↦ L.Mark.mk (0 : Int) (0 : Int) (0 : Int)))
 (L.Sq.mk m.n fun (i : Nat) ↦ m.g i) i).back] = [Go.SE.SV.int Go.IntKind.i64 (L.setG (L.Piece.mk (1 : Int) (1 : Int) (1 : Int) (0 : Int) (0 : Int) (L.Sq.mk (L.wN (L.Sq.mk (bif L.validOutline (L.Sq.mk l.n fun (i : Nat) ↦ l.g i) then l.n else (0 : Nat)) fun (i : Nat) ↦ L.gaugeOf (L.Sq.mk l.n fun (i : Nat) ↦ l.g i) i) a) fun (i : Nat) ↦ L.widen (L.gaugeOf (L.Sq.mk l.n fun (i : Nat) ↦ l.g i) i) a)
 (L.Sq.mk (nat_lit 0) fun (i : Nat) ↦ L.Mark.mk (0 : Int) (0 : Int) (0 : Int))) (L.Sq.mk m.n fun (i : Nat) ↦ m.g i) i).shift, Go.SE.SV.bool (L.setG (L.Piece.mk (1 : Int) (1 : Int) (1 : Int) (0 : Int) (0 : Int) (L.Sq.mk (L.wN (L.Sq.mk (bif L.validOutline (L.Sq.mk l.n fun (i : Nat) ↦ l.g i) then l.n else (0 : Nat)) fun (i : Nat) ↦ L.gaugeOf (L.Sq.mk l.n fun (i : Nat) ↦ l.g i) i) a) fun (i : Nat) ↦
 L.widen (L.gaugeOf (L.Sq.mk l.n fun (i : Nat) ↦ l.g i) i) a) (L.Sq.mk (nat_lit 0) fun (i : Nat) ↦ L.Mark.mk (0 : Int) (0 : Int) (0 : Int))) (L.Sq.mk m.n fun (i : Nat) ↦ m.g i) i).back]) ∧ L.setN (L.Piece.mk (1 : Int) (1 : Int) (1 : Int) (0 : Int) (0 : Int) (L.Sq.mk (L.wN (L.Sq.mk (bif L.validOutline (L.Sq.mk l.n fun (i : Nat) ↦ l.g i) then l.n else (0 : Nat)) fun (i : Nat) ↦ L.gaugeOf (L.Sq.mk l.n
 fun (i : Nat) ↦ l.g i) i) a) fun (i : Nat) ↦ L.widen (L.gaugeOf (L.Sq.mk l.n fun (i : Nat) ↦ l.g i) i) a) (L.Sq.mk (nat_lit 0) fun (i : Nat) ↦ L.Mark.mk (0 : Int) (0 : Int) (0 : Int))) (L.Sq.mk m.n fun (i : Nat) ↦ m.g i) ≤ (1000000 : Nat)) ∧ ((!L.among (L.Sq.mk (L.setN (L.Piece.mk (1 : Int) (1 : Int) (1 : Int) (0 : Int) (0 : Int) (L.Sq.mk (L.wN (L.Sq.mk (bif L.validOutline (L.Sq.mk l.n fun (i :
 Nat) ↦ l.g i) then l.n else (0 : Nat)) fun (i : Nat) ↦ L.gaugeOf (L.Sq.mk l.n fun (i : Nat) ↦ l.g i) i) a) fun (i : Nat) ↦ L.widen (L.gaugeOf (L.Sq.mk l.n fun (i : Nat) ↦ l.g i) i) a) (L.Sq.mk (nat_lit 0) fun (i : Nat) ↦ L.Mark.mk (0 : Int) (0 : Int) (0 : Int))) (L.Sq.mk m.n fun (i : Nat) ↦ m.g i)) fun (i : Nat) ↦ L.setG (L.Piece.mk (1 : Int) (1 : Int) (1 : Int) (0 : Int) (0 : Int) (L.Sq.mk (L.wN
 (L.Sq.mk (bif L.validOutline (L.Sq.mk l.n fun (i : Nat) ↦ l.g i) then l.n else (0 : Nat)) fun (i : Nat) ↦ L.gaugeOf (L.Sq.mk l.n fun (i : Nat) ↦ l.g i) i) a) fun (i : Nat) ↦ L.widen (L.gaugeOf (L.Sq.mk l.n fun (i : Nat) ↦ l.g i) i) a) (L.Sq.mk (nat_lit 0) fun (i : Nat) ↦ L.Mark.mk (0 : Int) (0 : Int) (0 : Int))) (L.Sq.mk m.n fun (i : Nat) ↦ m.g i) i) (L.setG (L.Piece.mk (1 : Int) (1 : Int) (1 :
 Int) (0 : Int) (0 : Int) (L.Sq.mk (bif L.validOutline (L.Sq.mk l.n fun (i : Nat) ↦ l.g i) then l.n else (0 : Nat)) fun (i : Nat) ↦ L.gaugeOf (L.Sq.mk l.n fun (i : Nat) ↦ l.g i) i) (L.Sq.mk (nat_lit 0) fun (i : Nat) ↦ L.Mark.mk (0 : Int) (0 : Int) (0 : Int))) (L.Sq.mk m.n fun (i : Nat) ↦ m.g i) (Int.toNat (↑g_1 : Int)))) = Bool.true → Bool.false = Bool.true) ∧ ((!L.among (L.Sq.mk (L.setN
 (L.Piece.mk (1 : Int) (1 : Int) (1 : Int) (0 : Int) (0 : Int) (L.Sq.mk (L.wN (L.Sq.mk (bif L.validOutline (L.Sq.mk l.n fun (i : Nat) ↦ l.g i) then l.n else (0 : Nat)) fun (i : Nat) ↦ L.gaugeOf (L.Sq.mk l.n fun (i : Nat) ↦ l.g i) i) a) fun (i : Nat) ↦ L.widen (L.gaugeOf (L.Sq.mk l.n fun (i : Nat) ↦ l.g i) i) a) (L.Sq.mk (nat_lit 0) fun (i : Nat) ↦ L.Mark.mk (0 : Int) (0 : Int) (0 : Int))) (L.Sq.mk
 m.n fun (i : Nat) ↦ m.g i)) fun (i : Nat) ↦ L.setG (L.Piece.mk (1 : Int) (1 : Int) (1 : Int) (0 : Int) (0 : Int) (L.Sq.mk (L.wN (L.Sq.mk (bif L.validOutline (L.Sq.mk l.n fun (i : Nat) ↦ l.g i) then l.n else (0 : Nat)) fun (i : Nat) ↦ L.gaugeOf (L.Sq.mk l.n fun (i : Nat) ↦ l.g i) i) a) fun (i : Nat) ↦ L.widen (L.gaugeOf (L.Sq.mk l.n fun (i : Nat) ↦ l.g i) i) a) (L.Sq.mk (nat_lit 0) fun (i : Nat) ↦
 L.Mark.mk (0 : Int) (0 : Int) (0 : Int))) (L.Sq.mk m.n fun (i : Nat) ↦ m.g i) i) (L.setG (L.Piece.mk (1 : Int) (1 : Int) (1 : Int) (0 : Int) (0 : Int) (L.Sq.mk (bif L.validOutline (L.Sq.mk l.n fun (i : Nat) ↦ l.g i) then l.n else (0 : Nat)) fun (i : Nat) ↦ L.gaugeOf (L.Sq.mk l.n fun (i : Nat) ↦ l.g i) i) (L.Sq.mk (nat_lit 0) fun (i : Nat) ↦ L.Mark.mk (0 : Int) (0 : Int) (0 : Int))) (L.Sq.mk m.n
 fun (i : Nat) ↦ m.g i) (Int.toNat (↑g_1 : Int)))) = Bool.false → Go.SE.InK Go.IntKind.i64 ((↑g_1 : Int) + (1 : Int)) ∧ ∃ (g' : Nat), (↑g_1 : Int) + (1 : Int) = (↑g' : Int) ∧ (L.setN (L.Piece.mk (1 : Int) (1 : Int) (1 : Int) (0 : Int) (0 : Int) (L.Sq.mk (L.wN (L.Sq.mk (bif L.validOutline (L.Sq.mk l.n fun (i : Nat) ↦ l.g i) then l.n else (0 : Nat)) fun (i : Nat) ↦ L.gaugeOf (L.Sq.mk l.n fun (i :
 Nat) ↦ l.g i) i) a) fun (i : Nat) ↦ L.widen (L.gaugeOf (L.Sq.mk l.n fun (i : Nat) ↦ l.g i) i) a) (L.Sq.mk (nat_lit 0) fun (i : Nat) ↦ L.Mark.mk (0 : Int) (0 : Int) (0 : Int))) (L.Sq.mk m.n fun (i : Nat) ↦ m.g i) = L.setN (L.Piece.mk (1 : Int) (1 : Int) (1 : Int) (0 : Int) (0 : Int) (L.Sq.mk (L.wN (L.Sq.mk (bif L.validOutline (L.Sq.mk l.n fun (i : Nat) ↦ l.g i) then l.n else (0 : Nat)) fun (i :
 Nat) ↦ L.gaugeOf (L.Sq.mk l.n fun (i : Nat) ↦ l.g i) i) a) fun (i : Nat) ↦ L.widen (L.gaugeOf (L.Sq.mk l.n fun (i : Nat) ↦ l.g i) i) a) (L.Sq.mk (nat_lit 0) fun (i : Nat) ↦ L.Mark.mk (0 : Int) (0 : Int) (0 : Int))) (L.Sq.mk m.n fun (i : Nat) ↦ m.g i) ∧ ∀ (i : Nat), i < L.setN (L.Piece.mk (1 : Int) (1 : Int) (1 : Int) (0 : Int) (0 : Int) (L.Sq.mk (L.wN (L.Sq.mk (bif L.validOutline (L.Sq.mk l.n fun
 (i : Nat) ↦ l.g i) then l.n else (0 : Nat)) fun (i : Nat) ↦ L.gaugeOf (L.Sq.mk l.n fun (i : Nat) ↦ l.g i) i) a) fun (i : Nat) ↦ L.widen (L.gaugeOf (L.Sq.mk l.n fun (i : Nat) ↦ l.g i) i) a) (L.Sq.mk (nat_lit 0) fun (i : Nat) ↦ L.Mark.mk (0 : Int) (0 : Int) (0 : Int))) (L.Sq.mk m.n fun (i : Nat) ↦ m.g i) → [Go.SE.SV.int Go.IntKind.i64 (L.setG (L.Piece.mk (1 : Int) (1 : Int) (1 : Int) (0 : Int) (0 :
 Int) (L.Sq.mk (L.wN (L.Sq.mk (bif L.validOutline (L.Sq.mk l.n fun (i : Nat) ↦ l.g i) then l.n else (0 : Nat)) fun (i : Nat) ↦ L.gaugeOf (L.Sq.mk l.n fun (i : Nat) ↦ l.g i) i) a) fun (i : Nat) ↦ L.widen (L.gaugeOf (L.Sq.mk l.n fun (i : Nat) ↦ l.g i) i) a) (L.Sq.mk (nat_lit 0) fun (i : Nat) ↦ L.Mark.mk (0 : Int) (0 : Int) (0 : Int))) (L.Sq.mk m.n fun (i : Nat) ↦ m.g i) i).shift, Go.SE.SV.bool
 (L.setG (L.Piece.mk (1 : Int) (1 : Int) (1 : Int) (0 : Int) (0 : Int) (L.Sq.mk (L.wN (L.Sq.mk (bif L.validOutline (L.Sq.mk l.n fun (i : Nat) ↦ l.g i) then l.n else (0 : Nat)) fun (i : Nat) ↦ L.gaugeOf (L.Sq.mk l.n fun (i : Nat) ↦ l.g i) i) a) fun (i : Nat) ↦ L.widen (L.gaugeOf (L.Sq.mk l.n fun (i : Nat) ↦ l.g i) i) a) (L.Sq.mk (nat_lit 0) fun (i : Nat) ↦ L.Mark.mk (0 : Int) (0 : Int) (0 : Int)))
 (L.Sq.mk m.n fun (i : Nat) ↦ m.g i) i).back] = [Go.SE.SV.int Go.IntKind.i64 (L.setG (L.Piece.mk (1 : Int) (1 : Int) (1 : Int) (0 : Int) (0 : Int) (L.Sq.mk (L.wN (L.Sq.mk (bif L.validOutline (L.Sq.mk l.n fun (i : Nat) ↦ l.g i) then l.n else (0 : Nat)) fun (i : Nat) ↦ L.gaugeOf (L.Sq.mk l.n fun (i : Nat) ↦ l.g i) i) a) fun (i : Nat) ↦ L.widen (L.gaugeOf (L.Sq.mk l.n fun (i : Nat) ↦ l.g i) i) a)
 (L.Sq.mk (nat_lit 0) fun (i : Nat) ↦ L.Mark.mk (0 : Int) (0 : Int) (0 : Int))) (L.Sq.mk m.n fun (i : Nat) ↦ m.g i) i).shift, Go.SE.SV.bool (L.setG (L.Piece.mk (1 : Int) (1 : Int) (1 : Int) (0 : Int) (0 : Int) (L.Sq.mk (L.wN (L.Sq.mk (bif L.validOutline (L.Sq.mk l.n fun (i : Nat) ↦ l.g i) then l.n else (0 : Nat)) fun (i : Nat) ↦ L.gaugeOf (L.Sq.mk l.n fun (i : Nat) ↦ l.g i) i) a) fun (i : Nat) ↦
 L.widen (L.gaugeOf (L.Sq.mk l.n fun (i : Nat) ↦ l.g i) i) a) (L.Sq.mk (nat_lit 0) fun (i : Nat) ↦ L.Mark.mk (0 : Int) (0 : Int) (0 : Int))) (L.Sq.mk m.n fun (i : Nat) ↦ m.g i) i).back]) ∧ (L.setN (L.Piece.mk (1 : Int) (1 : Int) (1 : Int) (0 : Int) (0 : Int) (L.Sq.mk (bif L.validOutline (L.Sq.mk l.n fun (i : Nat) ↦ l.g i) then l.n else (0 : Nat)) fun (i : Nat) ↦ L.gaugeOf (L.Sq.mk l.n fun (i : Nat)
 ↦ l.g i) i) (L.Sq.mk (nat_lit 0) fun (i : Nat) ↦ L.Mark.mk (0 : Int) (0 : Int) (0 : Int))) (L.Sq.mk m.n fun (i : Nat) ↦ m.g i) = L.setN (L.Piece.mk (1 : Int) (1 : Int) (1 : Int) (0 : Int) (0 : Int) (L.Sq.mk (bif L.validOutline (L.Sq.mk l.n fun (i : Nat) ↦ l.g i) then l.n else (0 : Nat)) fun (i : Nat) ↦ L.gaugeOf (L.Sq.mk l.n fun (i : Nat) ↦ l.g i) i) (L.Sq.mk (nat_lit 0) fun (i : Nat) ↦ L.Mark.mk
 (0 : Int) (0 : Int) (0 : Int))) (L.Sq.mk m.n fun (i : Nat) ↦ m.g i) ∧ ∀ (i : Nat), i < L.setN (L.Piece.mk (1 : Int) (1 : Int) (1 : Int) (0 : Int) (0 : Int) (L.Sq.mk (bif L.validOutline (L.Sq.mk l.n fun (i : Nat) ↦ l.g i) then l.n else (0 : Nat)) fun (i : Nat) ↦ L.gaugeOf (L.Sq.mk l.n fun (i : Nat) ↦ l.g i) i) (L.Sq.mk (nat_lit 0) fun (i : Nat) ↦ L.Mark.mk (0 : Int) (0 : Int) (0 : Int))) (L.Sq.mk
 m.n fun (i : Nat) ↦ m.g i) → [Go.SE.SV.int Go.IntKind.i64 (L.setG (L.Piece.mk (1 : Int) (1 : Int) (1 : Int) (0 : Int) (0 : Int) (L.Sq.mk (bif L.validOutline (L.Sq.mk l.n fun (i : Nat) ↦ l.g i) then l.n else (0 : Nat)) fun (i : Nat) ↦ L.gaugeOf (L.Sq.mk l.n fun (i : Nat) ↦ l.g i) i) (L.Sq.mk (nat_lit 0) fun (i : Nat) ↦ L.Mark.mk (0 : Int) (0 : Int) (0 : Int))) (L.Sq.mk m.n fun (i : Nat) ↦ m.g i)
 i).shift, Go.SE.SV.bool (L.setG (L.Piece.mk (1 : Int) (1 : Int) (1 : Int) (0 : Int) (0 : Int) (L.Sq.mk (bif L.validOutline (L.Sq.mk l.n fun (i : Nat) ↦ l.g i) then l.n else (0 : Nat)) fun (i : Nat) ↦ L.gaugeOf (L.Sq.mk l.n fun (i : Nat) ↦ l.g i) i) (L.Sq.mk (nat_lit 0) fun (i : Nat) ↦ L.Mark.mk (0 : Int) (0 : Int) (0 : Int))) (L.Sq.mk m.n fun (i : Nat) ↦ m.g i) i).back] = [Go.SE.SV.int
 Go.IntKind.i64 (L.setG (L.Piece.mk (1 : Int) (1 : Int) (1 : Int) (0 : Int) (0 : Int) (L.Sq.mk (bif L.validOutline (L.Sq.mk l.n fun (i : Nat) ↦ l.g i) then l.n else (0 : Nat)) fun (i : Nat) ↦ L.gaugeOf (L.Sq.mk l.n fun (i : Nat) ↦ l.g i) i) (L.Sq.mk (nat_lit 0) fun (i : Nat) ↦ L.Mark.mk (0 : Int) (0 : Int) (0 : Int))) (L.Sq.mk m.n fun (i : Nat) ↦ m.g i) i).shift, Go.SE.SV.bool (L.setG (L.Piece.mk
 (1 : Int) (1 : Int) (1 : Int) (0 : Int) (0 : Int) (L.Sq.mk (bif L.validOutline (L.Sq.mk l.n fun (i : Nat) ↦ l.g i) then l.n else (0 : Nat)) fun (i : Nat) ↦ L.gaugeOf (L.Sq.mk l.n fun (i : Nat) ↦ l.g i) i) (L.Sq.mk (nat_lit 0) fun (i : Nat) ↦ L.Mark.mk (0 : Int) (0 : Int) (0 : Int))) (L.Sq.mk m.n fun (i : Nat) ↦ m.g i) i).back]) ∧ Bool.true = Bool.true ∧ g' ≤ L.setN (L.exactP l) m ∧ L.setN
 (L.exactP l) m - g' < L.setN (L.exactP l) m - g_1)) ∧ (Decidable.decide ((↑g_1 : Int) < (↑(L.setN (L.Piece.mk (1 : Int) (1 : Int) (1 : Int) (0 : Int) (0 : Int) (L.Sq.mk (bif L.validOutline (L.Sq.mk l.n fun (i : Nat) ↦ l.g i) then l.n else (0 : Nat)) fun (i : Nat) ↦ L.gaugeOf (L.Sq.mk l.n fun (i : Nat) ↦ l.g i) i) (L.Sq.mk (nat_lit 0) fun (i : Nat) ↦ L.Mark.mk (0 : Int) (0 : Int) (0 : Int)))
 (L.Sq.mk m.n fun (i : Nat) ↦ m.g i)) : Int)) = Bool.false → Bool.true = Bool.true)))))) (by kernel_rfl) (by
    refine ⟨trivial, ⟨fun _ _ => rfl, trivial⟩, fun _ => ⟨fun _ _ => rfl, trivial⟩, fun _ => rfl, fun h => ?_⟩
    have h : (bif (bif (bif (bif (bif !L.validOutline l then true else !L.validOutline m) then true else decide (a < 0)) then true else decide (b < 0)) then true else decide (1000000 < a)) then true else decide (1000000 < b)) = false := h
    simp only [bor, Bool.or_eq_false_iff, decide_eq_false_iff_not, Bool.not_eq_false'] at h
    obtain ⟨⟨⟨⟨⟨hv, hw⟩, ha⟩, hb⟩, ha'⟩, hb'⟩ := h
    obtain ⟨eG, ⟨n3, n24⟩, hok⟩ := exact_ok hv
    obtain ⟨m3, m24, _, _⟩ := validOutline_of hw
    have hG : L.gauges (L.gaugesOf l) = true := gauges_of (by rw [eG]; exact n3) (by rw [eG]; exact n24) (fun i hi => hok i (by rw [eG] at hi; exact hi))
    have hBa : L.wBad (L.gaugesOf l) a = false := wBad_no hG (by omega) (by omega)
    have hBab : L.wBad (L.gaugesOf l) (a + b) = false := wBad_no hG (by omega) (by omega)
    have eA : L.wN (L.gaugesOf l) a = l.n := (wN_eq hBa).trans eG
    have eAB : L.wN (L.gaugesOf l) (a + b) = l.n := (wN_eq hBab).trans eG
    have hGA : L.gauges (L.widened (L.gaugesOf l) a) = true := gauges_of (by show 3 ≤ L.wN (L.gaugesOf l) a; rw [eA]; exact n3) (by show L.wN (L.gaugesOf l) a ≤ 24; rw [eA]; exact n24) (fun i hi => widen_ok (hok i (by have hi : i < L.wN (L.gaugesOf l) a := hi; rw [eA] at hi; exact hi)) (by omega))
    have hBb : L.wBad (L.widened (L.gaugesOf l) a) b = false := wBad_no hGA (by omega) (by omega)
    have eB : L.wN (L.widened (L.gaugesOf l) a) b = l.n := (wN_eq hBb).trans eA
    have cE : L.conE l m = 0 := by unfold L.conE; rw [hv, hw]; rfl
    have sP : L.setE (L.exactP l) m = 0 := by
      unfold L.setE
      rw [show L.validPiece (L.exactP l) = true from oneP_ok hG, hw]; rfl
    have sQ : L.setE (L.wideP l a) m = 0 := by
      unfold L.setE
      rw [show L.validPiece (L.wideP l a) = true from oneP_ok hGA, hw]; rfl
    have hS : L.sameGs (L.widened (L.widened (L.gaugesOf l) a) b) (L.widened (L.gaugesOf l) (a + b)) = true := by
      unfold L.sameGs
      rw [show decide (((L.widened (L.widened (L.gaugesOf l) a) b).n : Int) = ((L.widened (L.gaugesOf l) (a + b)).n : Int)) = true from decide_eq_true (by
        show ((L.wN (L.widened (L.gaugesOf l) a) b : Nat) : Int) = ((L.wN (L.gaugesOf l) (a + b) : Nat) : Int)
        rw [eB, eAB])]
      refine allB_iff.2 (fun i _ => ?_)
      show L.sameG (L.widen (L.widen (L.gaugeOf l i) a) b) (L.widen (L.gaugeOf l i) (a + b)) = true
      rw [widen_two (by omega) (by omega)]; exact sameG_refl _
    have hX : L.exBad l m a b = false := by
      unfold L.exBad
      rw [hv, cE, sP, hBa, hBb, hBab, hS]; rfl
    have N1 : (L.gaugesOf l).n ≤ 1000000 := by rw [eG]; omega
    have NA : L.wN (L.gaugesOf l) a ≤ 1000000 := by rw [eA]; omega
    have NB : L.wN (L.widened (L.gaugesOf l) a) b ≤ 1000000 := by rw [eB]; omega
    have gP : (L.exactP l).gauges.n = l.n := eG
    have gQ : (L.wideP l a).gauges.n = l.n := eA
    have SP : L.setN (L.exactP l) m ≤ 1000000 := setN_le (by rw [gP]; exact n24)
    have SQ : L.setN (L.wideP l a) m ≤ 1000000 := setN_le (by rw [gQ]; exact n24)
    have eSP : L.setN (L.exactP l) m = L.cnt (L.fitK (L.exactP l) m) (2 * l.n) := by unfold L.setN; rw [sP, gP]; rfl
    have eSQ : L.setN (L.wideP l a) m = L.cnt (L.fitK (L.wideP l a) m) (2 * l.n) := by unfold L.setN; rw [sQ, gQ]; rfl
    have kP : ∀ g, g < L.conN l m → L.among ⟨L.setN (L.exactP l) m, fun i => L.setG (L.exactP l) m i⟩ (L.conG l m g) = true := fun g hg => by
      unfold L.conN at hg
      rw [cE] at hg
      by_cases hn : (l.n : Int) = (m.n : Int)
      · rw [decide_eq_true hn] at hg
        have hn' : l.n = m.n := by omega
        unfold L.setG L.conG
        rw [eSP, gP]
        exact among_of (fun c hc h => congr_fits hv hw hn' (sett_lt hc).1 (sett_lt hc).2 h) hg
      · rw [decide_eq_false hn] at hg
        exact absurd hg (Nat.not_lt_zero _)
    have kQ : ∀ g, g < L.setN (L.exactP l) m → L.among ⟨L.setN (L.wideP l a) m, fun i => L.setG (L.wideP l a) m i⟩ (L.setG (L.exactP l) m g) = true := fun g hg => by
      rw [eSP] at hg
      unfold L.setG
      rw [eSQ, gP, gQ]
      exact among_of (fun c hc h => fits_wide hv (by omega) eA h) hg
    refine ⟨⟨fun _ _ => rfl, by omega⟩, ⟨fun _ _ => rfl, fun _ _ => rfl, by omega, by omega⟩, ⟨fun _ _ => rfl, fun i hi => absurd hi (Nat.not_lt_zero _), fun _ _ => rfl, N1, Nat.zero_le _, by omega⟩, ⟨fun _ _ => rfl, N1⟩, ⟨fun _ _ => rfl, NA⟩, InK.of (by omega) (by omega), ⟨fun _ _ => rfl, N1⟩, fun _ => ⟨fun _ _ => rfl, fun _ _ => rfl, NB⟩, fun h => absurd (hX.symm.trans h) Bool.false_ne_true, fun _ => ⟨⟨fun _ _ => rfl, fun i hi => absurd hi (Nat.not_lt_zero _), fun _ _ => rfl, NA, Nat.zero_le _, by omega⟩, fun h => ?_, fun _ => ⟨⟨(0 : Nat), rfl, Nat.zero_le _⟩, fun g hg => ⟨fun hlt => ?_, fun _ => ⟨⟨(0 : Nat), rfl, Nat.zero_le _⟩, fun g1 hg1 => ⟨fun hlt1 => ?_, fun _ => rfl⟩⟩⟩⟩⟩⟩
    · have h : (!decide (L.setE (L.wideP l a) m = 0)) = true := h
      rw [sQ] at h; cases h
    · have hb : (g : Int) < (L.conN l m : Int) := of_decide_eq_true hlt
      have e0 : ((g : Int)).toNat = g := by omega
      have hc : L.conN l m ≤ 1000000 := by
        unfold L.conN
        have := cnt_le (p := L.conK l m) (n := 2 * l.n)
        cases decide (L.conE l m = 0) <;> cases decide ((l.n : Int) = (m.n : Int)) <;> first | exact Nat.zero_le _ | (show L.cnt (L.conK l m) (2 * l.n) ≤ 1000000; omega)
      have key := kP g (by omega)
      rw [e0]
      exact ⟨⟨by omega, hb⟩, ⟨fun _ _ => rfl, SP⟩, fun h => absurd ((notT h).symm.trans key) Bool.false_ne_true, fun _ => ⟨InK.of (by omega) (by omega), g + 1, by omega, ⟨rfl, fun _ _ => rfl⟩, ⟨rfl, fun _ _ => rfl⟩, ⟨rfl, fun _ _ => rfl⟩, rfl, by omega, by omega⟩⟩
    · have hb : (g1 : Int) < (L.setN (L.exactP l) m : Int) := of_decide_eq_true hlt1
      have e0 : ((g1 : Int)).toNat = g1 := by omega
      have key := kQ g1 (by omega)
      rw [e0]
      exact ⟨⟨by omega, hb⟩, ⟨fun _ _ => rfl, SQ⟩, fun h => absurd ((notT h).symm.trans key) Bool.false_ne_true, fun _ => ⟨InK.of (by omega) (by omega), g1 + 1, by omega, ⟨rfl, fun _ _ => rfl⟩, ⟨rfl, fun _ _ => rfl⟩, rfl, by omega, by omega⟩⟩)
theorem w_GlassExact_ok : SpecOk Try.prog 10 w_GlassExact_S := fnX Try.func10 (c := bodyOf Try.f10) (by kernel_rfl) mixed (fun args p r hs hp => by
  unfold w_GlassExact_s at hs
  split at hs
  · cases hs; exact ⟨_, _, w_GlassExact_vc _ _ _ _ hp.2.2, (.p (.sl hp.1) (.p (.sl hp.2.1) (.same _ (.same _ .nil)))), ⟨show SpecsL Try.prog _ from (SpecsL.cons w_awake_ok w_awake_en (SpecsL.cons r1_ValidOutline_ok r1_ValidOutline_en (SpecsL.cons g_Gauges_ok g_Gauges_en (SpecsL.cons p_Settings_ok p_Settings_en (SpecsL.cons g_Settings_ok g_Settings_en (SpecsL.cons g_Widen_ok g_Widen_en (SpecsL.cons r3_SameGauges_ok r3_SameGauges_en (SpecsL.cons w_among_ok w_among_en SpecsL.nil)))))))), rfl, ⟨show ItersL Try.prog _ from ItersL.nil, (TrsOk.none (fun _ => rfl))⟩⟩⟩
  · cases hs)
theorem w_GlassExact_en : Enters Try.prog 10 := fun args w => by kernel_rfl
theorem w_GlassExact_B : ∀ args p r, w_GlassExact_s args = some (p, r) → ∃ b, r = .bool b := by
  intro args p r h
  unfold w_GlassExact_s at h
  split at h
  · cases h; exact ⟨_, rfl⟩
  · cases h
end Go.Proofs.Ytipaekbdalahdaa
