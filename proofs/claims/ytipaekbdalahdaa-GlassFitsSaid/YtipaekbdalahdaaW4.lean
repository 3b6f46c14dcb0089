/- A symbolic walk over the model, and what it shows of functions of the program: parts of the proof that the text of the row joins. -/
import Derived.Test.YtipaekbdalahdaaW3
import Derived.Test.YtipaekbdalahdaaE3
import Derived.KernelRfl

namespace Go.Proofs.Ytipaekbdalahdaa
open Go.SE Go.RowKit
set_option maxRecDepth 100000
set_option maxHeartbeats 4000000
set_option linter.unusedVariables false
attribute [local irreducible] Go.SE.vc

def L.holdsR (g : L.Gauge) (m : L.Meas) : Bool := bif (bif L.within m.edge g.edge.lo g.edge.hi then L.within m.across g.across.lo g.across.hi else false) then (bif decide (g.bend = 0) then true else decide (g.bend = m.bend)) else false
def L.fits (p : L.Piece) (l : L.Sq L.Pt) (s : L.Setting) : Bool := bif decide ((l.n : Int) = p.gauges.n) then L.allB l.n (fun i => L.holdsR (p.gauges.g i) (L.meas l s i)) else false
def L.fitP (p : L.Piece) (l : L.Sq L.Pt) (s : L.Setting) : Prop := L.validOutline l = true ∧ L.gauges p.gauges = true ∧ 0 ≤ s.shift ∧ s.shift < (p.gauges.n : Int)
def L.sett (k : Nat) : L.Setting := ⟨Int.tdiv (k : Int) 2, decide (Int.tmod (k : Int) 2 = 1)⟩
def L.fitK (p : L.Piece) (l : L.Sq L.Pt) (k : Nat) : Bool := L.fits p l (L.sett k)
def L.validSet (s : L.Setting) (n : Int) : Bool := bif L.within n 3 24 then L.within s.shift 0 (n - 1) else false
def L.fitsE (p : L.Piece) (l : L.Sq L.Pt) (s : L.Setting) : Int := bif !L.validPiece p then 30 else bif (bif !L.validOutline l then true else !L.validSet s p.gauges.n) then 1 else 0
def L.fitsV (p : L.Piece) (l : L.Sq L.Pt) (s : L.Setting) : Bool := bif decide (L.fitsE p l s = 0) then L.fits p l s else false
def L.setE (p : L.Piece) (l : L.Sq L.Pt) : Int := bif !L.validPiece p then 30 else bif !L.validOutline l then 1 else 0
def L.setN (p : L.Piece) (l : L.Sq L.Pt) : Nat := bif decide (L.setE p l = 0) then L.cnt (L.fitK p l) (2 * p.gauges.n) else 0
def L.setG (p : L.Piece) (l : L.Sq L.Pt) (k : Nat) : L.Setting := L.sett (L.selN (L.fitK p l) (2 * p.gauges.n) k)
theorem sett_lt {k n : Nat} (h : k < 2 * n) : 0 ≤ (L.sett k).shift ∧ (L.sett k).shift < (n : Int) := by
  unfold L.sett
  dsimp only
  rw [Int.tdiv_eq_ediv_of_nonneg (by omega)]
  omega
theorem piece_gauges {p : L.Piece} (h : L.validPiece p = true) : L.gauges p.gauges = true := by
  unfold L.validPiece at h
  rw [band, band, Bool.and_eq_true, Bool.and_eq_true] at h
  exact h.1.2
theorem validSet_iff {s : L.Setting} {n : Int} : L.validSet s n = true ↔ (3 ≤ n ∧ n ≤ 24) ∧ 0 ≤ s.shift ∧ s.shift < n := by
  unfold L.validSet
  rw [band, Bool.and_eq_true, within_iff, within_iff]
  omega
def g_holds_p (g : L.Gauge) (m : L.Meas) : Prop := g.edge.lo ≤ g.edge.hi ∧ g.across.lo ≤ g.across.hi
def g_holds_r (g : L.Gauge) (m : L.Meas) : SV := .bool (L.holdsR g m)
def g_holds_s : List EV → Option (Prop × SV)
  | [.p (.agg [.int .i64 g_edge_lo, .int .i64 g_edge_hi, .int .i64 g_across_lo, .int .i64 g_across_hi, .int .i64 g_bend]), .p (.agg [.int .i64 m_edge, .int .i64 m_across, .int .i64 m_bend])] => some (g_holds_p (⟨(⟨g_edge_lo, g_edge_hi⟩ : L.Span), (⟨g_across_lo, g_across_hi⟩ : L.Span), g_bend⟩ : L.Gauge) (⟨m_edge, m_across, m_bend⟩ : L.Meas), g_holds_r (⟨(⟨g_edge_lo, g_edge_hi⟩ : L.Span), (⟨g_across_lo, g_across_hi⟩ : L.Span), g_bend⟩ : L.Gauge) (⟨m_edge, m_across, m_bend⟩ : L.Meas))
  | _ => none
abbrev g_holds_S : SE.Spec := (specO g_holds_s)
def g_holds_C : Cfg := { muts := [], frz := lookN [], specs := lookS [(72, g_in_S)], loops := lookL [], iters := lookI [], rfs := lookR [], nils := lookM [] }
theorem g_holds_vc (g : L.Gauge) (m : L.Meas) (hp : g_holds_p g m) : vc Try.prog (g_holds_C) (bodyOf Try.f128) (st0 Try.f128 [.p (.agg [.int .i64 g.edge.lo, .int .i64 g.edge.hi, .int .i64 g.across.lo, .int .i64 g.across.hi, .int .i64 g.bend]), .p (.agg [.int .i64 m.edge, .int .i64 m.across, .int .i64 m.bend])]) (retFn Try.prog Try.f128 (g_holds_r g m)) :=
  @Eq.mpr _ (((Decidable.decide (m.edge = g.edge.lo) && (Decidable.decide (m.across = g.across.lo) && Decidable.decide (m.bend = g.bend))) = Bool.true → Bool.true = L.holdsR g m) ∧ ((Decidable.decide (m.edge = g.edge.lo) && (Decidable.decide (m.across = g.across.lo) && Decidable.decide (m.bend = g.bend))) = Bool.false → True ∧ (L.within m.edge g.edge.lo g.edge.hi = Bool.true → True) ∧ (bif bif L.within m.edge
 g.edge.lo g.edge.hi then L.within m.across g.across.lo g.across.hi else Bool.false then bif Decidable.decide (g.bend = (0 : Int)) then Bool.true else Decidable.decide (g.bend = m.bend) else Bool.false) = L.holdsR g m)) (by kernel_rfl) (by
    obtain ⟨h1, h2⟩ := hp
    refine ⟨fun h => ?_, fun h => ⟨trivial, fun _ => trivial, rfl⟩⟩
    rw [Bool.and_eq_true, Bool.and_eq_true, decide_eq_true_eq, decide_eq_true_eq, decide_eq_true_eq] at h
    unfold L.holdsR
    rw [within_iff.2 (show g.edge.lo ≤ m.edge ∧ m.edge ≤ g.edge.hi by omega), within_iff.2 (show g.across.lo ≤ m.across ∧ m.across ≤ g.across.hi by omega), decide_eq_true (show g.bend = m.bend by omega)]
    cases decide (g.bend = 0) <;> rfl)
theorem g_holds_ok : SpecOk Try.prog 128 g_holds_S := fnX Try.func128 (c := bodyOf Try.f128) (by kernel_rfl) mixed (fun args p r hs hp => by
  unfold g_holds_s at hs
  split at hs
  · cases hs; exact ⟨_, _, g_holds_vc _ _ hp, (.same _ (.same _ .nil)), ⟨show SpecsL Try.prog _ from (SpecsL.cons g_in_ok g_in_en SpecsL.nil), rfl, ⟨show ItersL Try.prog _ from ItersL.nil, (TrsOk.none (fun _ => rfl))⟩⟩⟩
  · cases hs)
theorem g_holds_en : Enters Try.prog 128 := fun args w => by kernel_rfl
theorem g_holds_B : ∀ args p r, g_holds_s args = some (p, r) → ∃ b, r = .bool b := by
  intro args p r h
  unfold g_holds_s at h
  split at h
  · cases h; exact ⟨_, rfl⟩
  · cases h
def g_fits_p (p : L.Piece) (l : (L.Sq L.Pt)) (s : L.Setting) : Prop := L.fitP p l s
def g_fits_r (p : L.Piece) (l : (L.Sq L.Pt)) (s : L.Setting) : SV := .bool (L.fits p l s)
def g_fits_s : List EV → Option (Prop × SV)
  | [.p (.agg [.int .i64 p_id, .int .i64 p_colour, .int .i64 p_rev, .int .i64 p_made, .int .i64 p_swell, .sl 5 p_gauges_n p_gauges_g, .sl 3 p_marks_n p_marks_g]), .p (.sl 2 l_n l_g), .p (.agg [.int .i64 s_shift, .bool s_back])] => some ((∀ i, i < p_gauges_n → p_gauges_g i = [.int .i64 ((ofGauge (p_gauges_g i)).edge.lo), .int .i64 ((ofGauge (p_gauges_g i)).edge.hi), .int .i64 ((ofGauge (p_gauges_g i)).across.lo), .int .i64 ((ofGauge (p_gauges_g i)).across.hi), .int .i64 ((ofGauge (p_gauges_g i)).bend)]) ∧ (∀ i, i < p_marks_n → p_marks_g i = [.int .i64 ((ofMark (p_marks_g i)).edge), .int .i64 ((ofMark (p_marks_g i)).place), .int .i64 ((ofMark (p_marks_g i)).tone)]) ∧ (∀ i, i < l_n → l_g i = [.int .i64 ((ofPt (l_g i)).x), .int .i64 ((ofPt (l_g i)).y)]) ∧ g_fits_p (⟨p_id, p_colour, p_rev, p_made, p_swell, (⟨p_gauges_n, fun i => ofGauge (p_gauges_g i)⟩ : (L.Sq L.Gauge)), (⟨p_marks_n, fun i => ofMark (p_marks_g i)⟩ : (L.Sq L.Mark))⟩ : L.Piece) (⟨l_n, fun i => ofPt (l_g i)⟩ : (L.Sq L.Pt)) (⟨s_shift, s_back⟩ : L.Setting), g_fits_r (⟨p_id, p_colour, p_rev, p_made, p_swell, (⟨p_gauges_n, fun i => ofGauge (p_gauges_g i)⟩ : (L.Sq L.Gauge)), (⟨p_marks_n, fun i => ofMark (p_marks_g i)⟩ : (L.Sq L.Mark))⟩ : L.Piece) (⟨l_n, fun i => ofPt (l_g i)⟩ : (L.Sq L.Pt)) (⟨s_shift, s_back⟩ : L.Setting))
  | _ => none
abbrev g_fits_S : SE.Spec := (specO g_fits_s)
def g_fits_C : Cfg := { muts := [], frz := lookN [], specs := lookS [(65, g_measures_S), (128, g_holds_S)], loops := lookL [], iters := lookI [(122, g_meas2_it)], rfs := lookR [], nils := lookM [] }
theorem g_fits_vc (p : L.Piece) (l : (L.Sq L.Pt)) (s : L.Setting) (hp : g_fits_p p l s) : vc Try.prog ({ g_fits_C with loops := lookL [], rfs := lookR [(4, { T := Nat, keep := [3, 6], keepO := [6], own := fun k _ => [], inv := fun k _ => ∀ j, j < k → L.holdsR (p.gauges.g j) (L.meas l s j) = true })] }) (bodyOf Try.f83) (st0 Try.f83 [.p (.agg [.int .i64 p.id, .int .i64 p.colour, .int .i64 p.rev, .int .i64 p.made, .int .i64 p.swell, .sl 5 p.gauges.n (fun i => [.int .i64 ((p.gauges.g i).edge.lo), .int .i64 ((p.gauges.g i).edge.hi), .int .i64 ((p.gauges.g i).across.lo), .int .i64 ((p.gauges.g i).across.hi), .int .i64 ((p.gauges.g i).bend)]), .sl 3 p.marks.n (fun i => [.int .i64 ((p.marks.g i).edge), .int .i64 ((p.marks.g i).place), .int .i64 ((p.marks.g i).tone)])]), .p (.sl 2 l.n (fun i => [.int .i64 ((l.g i).x), .int .i64 ((l.g i).y)])), .p (.agg [.int .i64 s.shift, .bool s.back])]) (retFn Try.prog Try.f83 (g_fits_r p l s)) :=
  @Eq.mpr _ (((!Decidable.decide ((↑l.n : Int) = (↑p.gauges.n : Int))) = Bool.true → Bool.false = L.fits p l s) ∧ ((!Decidable.decide ((↑l.n : Int) = (↑p.gauges.n : Int))) = Bool.false → ((∀ (i : Nat), i < l.n → [Go.SE.SV.int Go.IntKind.i64 (l.g i).x, Go.SE.SV.int Go.IntKind.i64 (l.g i).y] = [Go.SE.SV.int Go.IntKind.i64 (l.g i).x, Go.SE.SV.int Go.IntKind.i64 (l.g i).y]) ∧ l.n ≤ (1000000 : Nat)) ∧ (((∀ (i :
 Nat), i < l.n → [Go.SE.SV.int Go.IntKind.i64 (l.g i).x, Go.SE.SV.int Go.IntKind.i64 (l.g i).y] = [Go.SE.SV.int Go.IntKind.i64 (l.g i).x, Go.SE.SV.int Go.IntKind.i64 (l.g i).y]) ∧ (∀ (i : Nat), (i < bif L.validOutline (L.Sq.mk l.n fun (i : Nat) ↦ l.g i) then l.n else (0 : Nat)) → [Go.SE.SV.int Go.IntKind.i64 (L.bend (L.Sq.mk l.n fun (i : Nat) ↦ l.g i) i)] = [Go.SE.SV.int Go.IntKind.i64 (L.bend
 (L.Sq.mk l.n fun (i : Nat) ↦ l.g i) i)]) ∧ (↑l.n : Int) = (↑l.n : Int) ∧ (↑l.n : Int) = (↑l.n : Int) ∧ (bif L.validOutline (L.Sq.mk l.n fun (i : Nat) ↦ l.g i) then l.n else (0 : Nat)) = l.n ∧ (∀ (i : Nat), i < l.n → L.bend (L.Sq.mk l.n fun (i : Nat) ↦ l.g i) i = L.bend (L.Sq.mk l.n fun (i : Nat) ↦ l.g i) i) ∧ (1 : Nat) ≤ l.n ∧ l.n ≤ (1000 : Nat) ∧ (0 : Int) ≤ s.shift ∧ s.shift ≤ (1000 : Int)) ∧ ∃
 (t : Nat), Bool.false = Bool.false ∧ ∀ (j : Nat), j < (0 : Nat) → L.holdsR (p.gauges.g j) (L.meas l s j) = Bool.true) ∧ (∀ (k t : Nat) (vk : Nat → Go.Value), k < l.n → (∀ (j : Nat), j < k → L.holdsR (p.gauges.g j) (L.meas l s j) = Bool.true) → ((0 : Int) ≤ (↑k : Int) ∧ (↑k : Int) < (↑p.gauges.n : Int)) ∧ ((p.gauges.g (Int.toNat (↑k : Int))).edge.lo ≤ (p.gauges.g (Int.toNat (↑k : Int))).edge.hi ∧
 (p.gauges.g (Int.toNat (↑k : Int))).across.lo ≤ (p.gauges.g (Int.toNat (↑k : Int))).across.hi) ∧ ((!L.holdsR (p.gauges.g (Int.toNat (↑k : Int))) (L.meas (L.Sq.mk l.n fun (i : Nat) ↦ l.g i) s k)) = Bool.true → nat_lit 0 = nat_lit 0 ∧ Go.SE.SV.ref [Go.SE.SV.int Go.IntKind.i64 p.id, Go.SE.SV.int Go.IntKind.i64 p.colour, Go.SE.SV.int Go.IntKind.i64 p.rev, Go.SE.SV.int Go.IntKind.i64 p.made,
 Go.SE.SV.int Go.IntKind.i64 p.swell, Go.SE.SV.sl (nat_lit 5) p.gauges.n fun (i : Nat) ↦ [Go.SE.SV.int Go.IntKind.i64 (p.gauges.g i).edge.lo, Go.SE.SV.int Go.IntKind.i64 (p.gauges.g i).edge.hi, Go.SE.SV.int Go.IntKind.i64 (p.gauges.g i).across.lo, Go.SE.SV.int Go.IntKind.i64 (p.gauges.g i).across.hi, Go.SE.SV.int Go.IntKind.i64 (p.gauges.g i).bend], Go.SE.SV.sl (nat_lit 3) p.marks.n fun (i : Nat) ↦
 [Go.SE.SV.int Go.IntKind.i64 (p.marks.g i).edge, Go.SE.SV.int Go.IntKind.i64 (p.marks.g i).place, Go.SE.SV.int Go.IntKind.i64 (p.marks.g i).tone]] (nat_lit 0) = Go.SE.SV.ref [Go.SE.SV.int Go.IntKind.i64 p.id, Go.SE.SV.int Go.IntKind.i64 p.colour, Go.SE.SV.int Go.IntKind.i64 p.rev, Go.SE.SV.int Go.IntKind.i64 p.made, Go.SE.SV.int Go.IntKind.i64 p.swell, Go.SE.SV.sl (nat_lit 5) p.gauges.n fun (i :
 Nat) ↦ [Go.SE.SV.int Go.IntKind.i64 (p.gauges.g i).edge.lo, Go.SE.SV.int Go.IntKind.i64 (p.gauges.g i).edge.hi, Go.SE.SV.int Go.IntKind.i64 (p.gauges.g i).across.lo, Go.SE.SV.int Go.IntKind.i64 (p.gauges.g i).across.hi, Go.SE.SV.int Go.IntKind.i64 (p.gauges.g i).bend], Go.SE.SV.sl (nat_lit 3) p.marks.n fun (i : Nat) ↦ [Go.SE.SV.int Go.IntKind.i64 (p.marks.g i).edge, Go.SE.SV.int Go.IntKind.i64
 (p.marks.g i).place, Go.SE.SV.int Go.IntKind.i64 (p.marks.g i).tone]] (nat_lit 0) ∧ vk (nat_lit 6) = vk (nat_lit 6) ∧ vk (nat_lit 3) = vk (nat_lit 3) ∧ Bool.false = L.fits p l s) ∧ ((!L.holdsR (p.gauges.g (Int.toNat (↑k : Int))) (L.meas (L.Sq.mk l.n fun (i : Nat) ↦ l.g i) s k)) = Bool.false → ∃ (t' : Nat), nat_lit 0 = nat_lit 0 ∧ Go.SE.SV.ref [Go.SE.SV.int Go.IntKind.i64 p.id, Go.SE.SV.int
 Go.IntKind.i64 p.colour, Go.SE.SV.int Go.IntKind.i64 p.rev, Go.SE.SV.int Go.IntKind.i64 p.made, Go.SE.SV.int Go.IntKind.i64 p.swell, Go.SE.SV.sl (nat_lit 5) p.gauges.n fun (i : Nat) ↦ [Go.SE.SV.int Go.IntKind.i64 (p.gauges.g i).edge.lo, Go.SE.SV.int Go.IntKind.i64 (p.gauges.g i).edge.hi, Go.SE.SV.int Go.IntKind.i64 (p.gauges.g i).across.lo, Go.SE.SV.int Go.IntKind.i64 (p.gauges.g i).across.hi,
 Go.SE.SV.int Go.IntKind.i64 (p.gauges.g i).bend], Go.SE.SV.sl (nat_lit 3) p.marks.n fun (i : Nat) ↦ [Go.SE.SV.int Go.IntKind.i64 (p.marks.g i).edge, Go.SE.SV.int Go.IntKind.i64 (p.marks.g i).place, Go.SE.SV.int Go.IntKind.i64 (p.marks.g i).tone]] (nat_lit 0) = Go.SE.SV.ref [Go.SE.SV.int Go.IntKind.i64 p.id, Go.SE.SV.int Go.IntKind.i64 p.colour, Go.SE.SV.int Go.IntKind.i64 p.rev, Go.SE.SV.int
 Go.IntKind.i64 p.made, Go.SE.SV.int Go.IntKind.i64 p.swell, Go.SE.SV.sl (nat_lit 5) p.gauges.n fun (i : Nat) ↦ [Go.SE.SV.int Go.IntKind.i64 (p.gauges.g i).edge.lo, Go.SE.SV.int Go.IntKind.i64 (p.gauges.g i).edge.hi, Go.SE.SV.int Go.IntKind.i64 (p.gauges.g i).across.lo, Go.SE.SV.int Go.IntKind.i64 (p.gauges.g i).across.hi, Go.SE.SV.int Go.IntKind.i64 (p.gauges.g i).bend], Go.SE.SV.sl (nat_lit 3)
 p.marks.n fun (i : Nat) ↦ [Go.SE.SV.int Go.IntKind.i64 (p.marks.g i).edge, Go.SE.SV.int Go.IntKind.i64 (p.marks.g i).place, Go.SE.SV.int Go.IntKind.i64 (p.marks.g i).tone]] (nat_lit 0) ∧ vk (nat_lit 6) = vk (nat_lit 6) ∧ vk (nat_lit 3) = vk (nat_lit 3) ∧ Bool.false = Bool.false ∧ ∀ (j : Nat), j < k + (1 : Nat) → L.holdsR (p.gauges.g j) (L.meas l s j) = Bool.true)) ∧ ∀ (t : Nat), (∀ (j : Nat), j <
 l.n → L.holdsR (p.gauges.g j) (L.meas l s j) = Bool.true) → Bool.true = L.fits p l s)) (by kernel_rfl) (by
    obtain ⟨hv, hgg, s0, s1⟩ := hp
    obtain ⟨⟨g3, g24⟩, hg⟩ := gauge_ok hgg
    refine ⟨fun h => ?_, fun h => ?_⟩
    · unfold L.fits; rw [notT h]; rfl
    have hd := notF h
    have hn : l.n = p.gauges.n := by have := of_decide_eq_true hd; omega
    refine ⟨⟨fun _ _ => rfl, by omega⟩, ⟨⟨fun _ _ => rfl, fun _ _ => rfl, rfl, rfl, ?_, fun _ _ => rfl, by omega, by omega, by omega, by omega⟩, (0 : Nat), rfl, fun j hj => absurd hj (Nat.not_lt_zero _)⟩, fun k t vk hk hi => ?_, fun t hi => ?_⟩
    · rw [show L.validOutline (L.Sq.mk l.n fun i => l.g i) = true from hv]; rfl
    · have e0 : ((k : Int)).toNat = k := by omega
      have hgk := hg k (by omega)
      rw [e0]
      refine ⟨by omega, ⟨by omega, by omega⟩, fun h1 => ⟨rfl, rfl, rfl, rfl, ?_⟩, fun h1 => ⟨t, rfl, rfl, rfl, rfl, rfl, fun j hj => ?_⟩⟩
      · have h1 : L.holdsR (p.gauges.g k) (L.meas l s k) = false := notT h1
        unfold L.fits; rw [hd, allB_false (i := k) hk h1]; rfl
      · rcases Nat.lt_succ_iff_lt_or_eq.1 hj with h' | rfl
        · exact hi j h'
        · exact notF h1
    · unfold L.fits; rw [hd, allB_iff.2 hi]; rfl)
theorem g_fits_ok : SpecOk Try.prog 83 g_fits_S := fnX Try.func83 (c := bodyOf Try.f83) (by kernel_rfl) mixed (fun args p r hs hp => by
  unfold g_fits_s at hs
  split at hs
  · cases hs; exact ⟨_, _, g_fits_vc _ _ _ hp.2.2.2, (.p (.agg rfl (fun i hi => by
      rcases i with _ | i
      · exact (Ext.refl _ : Ext _ _)
      rcases i with _ | i
      · exact (Ext.refl _ : Ext _ _)
      rcases i with _ | i
      · exact (Ext.refl _ : Ext _ _)
      rcases i with _ | i
      · exact (Ext.refl _ : Ext _ _)
      rcases i with _ | i
      · exact (Ext.refl _ : Ext _ _)
      rcases i with _ | i
      · exact (Ext.sl hp.1 : Ext _ _)
      rcases i with _ | i
      · exact (Ext.sl hp.2.1 : Ext _ _)
      exact absurd hi (by simp; try omega))) (.p (.sl hp.2.2.1) (.same _ .nil))), ⟨show SpecsL Try.prog _ from (SpecsL.cons g_measures_ok g_measures_en (SpecsL.cons g_holds_ok g_holds_en SpecsL.nil)), rfl, ⟨show ItersL Try.prog _ from (ItersL.cons g_meas2_itok g_meas2_en ItersL.nil), (TrsOk.none (fun _ => rfl))⟩⟩⟩
  · cases hs)
theorem g_fits_en : Enters Try.prog 83 := fun args w => by kernel_rfl
theorem g_fits_B : ∀ args p r, g_fits_s args = some (p, r) → ∃ b, r = .bool b := by
  intro args p r h
  unfold g_fits_s at h
  split at h
  · cases h; exact ⟨_, rfl⟩
  · cases h
def g_all1_p (n : Int) : Prop := 0 ≤ n ∧ n ≤ 1000
def g_all1_n (n : Int) : Nat := (2 * n).toNat
def g_all1_i (n : Int) : Nat → List SV := fun k => [(.agg [.int .i64 ((L.sett k).shift), .bool ((L.sett k).back)])]
def g_all1_ic : List SV → Option (Prop × Nat × (Nat → List SV))
  | [.ref [.int .i64 n] 0] => some (g_all1_p n, g_all1_n n, g_all1_i n)
  | _ => none
abbrev g_all1_it : ItSpec := itOf g_all1_ic
def g_all1_C : Cfg := { muts := [], frz := lookN [], specs := lookS [], loops := fun _ => none, iters := lookI [], rfs := lookR [] }
theorem g_all1_vc (yl : Nat) (n : Int) (hp : g_all1_p n) : vc Try.prog { g_all1_C with loops := lookL [(1, { T := Nat, keep := [0, 1, 5], keepO := [], chg := fun i => [(6, .p (.int .i64 (i : Int)))], own := fun _ => [], inv := fun i => i ≤ (2 * n).toNat, mu := fun i => (2 * n).toNat - i, yk := some (fun i => i) })], yld := some ⟨yl, g_all1_n n, g_all1_i n⟩ } (bodyOf Try.f130) (st0 Try.f130 (.yield yl :: ([.ref [.int .i64 n] 0] : List SV).map .p)) (retIt Try.prog Try.f130 (g_all1_n n)) :=
  @Eq.mpr _ (Go.SE.InK Go.IntKind.i64 ((2 : Int) * n) ∧ (∃ (g : Nat), nat_lit 0 = g ∧ Bool.false = Bool.false ∧ (0 : Int) = (↑g : Int) ∧ g ≤ Int.toNat ((2 : Int) * n)) ∧ ∀ (g : Nat), g ≤ Int.toNat ((2 : Int) * n) → (Decidable.decide ((↑g : Int) < (2 : Int) * n) = Bool.true → (2 : Int) ≠ (0 : Int) ∧ Go.SE.InK Go.IntKind.i64 (Int.tdiv (↑g : Int) (2 : Int)) ∧ (2 : Int) ≠ (0 : Int) ∧ yl = yl ∧ g < Int.toNat ((2 :
 Int) * n) ∧ [Go.SE.SV.agg [Go.SE.SV.int Go.IntKind.i64 (Int.tdiv (↑g : Int) (2 : Int)), Go.SE.SV.bool (Decidable.decide (Int.tmod (↑g : Int) (2 : Int) = (1 : Int)))]] = [Go.SE.SV.agg [Go.SE.SV.int Go.IntKind.i64 (L.sett g).shift, Go.SE.SV.bool (L.sett g).back]] ∧ ((Bool.false = Bool.true → g + (1 : Nat) = Int.toNat ((2 : Int) * n) ∨ g + (1 : Nat) = Int.toNat ((2 : Int) * n) + (1 : Nat)) ∧
 (Bool.false = Bool.false → Go.SE.InK Go.IntKind.i64 ((↑g : Int) + (1 : Int)) ∧ ∃ (g' : Nat), g + (1 : Nat) = g' ∧ Bool.false = Bool.false ∧ (↑g : Int) + (1 : Int) = (↑g' : Int) ∧ (2 : Int) * n = (2 : Int) * n ∧ yl = yl ∧ Go.SE.SV.ref [Go.SE.SV.int Go.IntKind.i64 n] (nat_lit 0) = Go.SE.SV.ref [Go.SE.SV.int Go.IntKind.i64 n] (nat_lit 0) ∧ g' ≤ Int.toNat ((2 : Int) * n) ∧ Int.toNat ((2 : Int) * n) -
 g' < Int.toNat ((2 : Int) * n) - g)) ∧ (Bool.true = Bool.true → Int.toNat ((2 : Int) * n) + (1 : Nat) = Int.toNat ((2 : Int) * n) ∨ Int.toNat ((2 : Int) * n) + (1 : Nat) = Int.toNat ((2 : Int) * n) + (1 : Nat)) ∧ (Bool.true = Bool.false → Go.SE.InK Go.IntKind.i64 ((↑g : Int) + (1 : Int)) ∧ ∃ (g' : Nat), Int.toNat ((2 : Int) * n) + (1 : Nat) = g' ∧ Bool.false = Bool.false ∧ (↑g : Int) + (1 : Int) =
 (↑g' : Int) ∧ (2 : Int) * n = (2 : Int) * n ∧ yl = yl ∧ Go.SE.SV.ref [Go.SE.SV.int Go.IntKind.i64 n] (nat_lit 0) = Go.SE.SV.ref [Go.SE.SV.int Go.IntKind.i64 n] (nat_lit 0) ∧ g' ≤ Int.toNat ((2 : Int) * n) ∧ Int.toNat ((2 : Int) * n) - g' < Int.toNat ((2 : Int) * n) - g)) ∧ (Decidable.decide ((↑g : Int) < (2 : Int) * n) = Bool.false → g = Int.toNat ((2 : Int) * n) ∨ g = Int.toNat ((2 : Int) * n) +
 (1 : Nat))) (by kernel_rfl) (by
    obtain ⟨h0, h1⟩ := hp
    refine ⟨InK.of (by omega) (by omega), ⟨(0 : Nat), rfl, rfl, rfl, Nat.zero_le _⟩, fun g hg => ⟨fun hlt => ?_, fun hge => ?_⟩⟩
    rotate_left
    · have : ¬ (g : Int) < 2 * n := of_decide_eq_false hge
      exact .inl (by omega)
    have hb : (g : Int) < 2 * n := of_decide_eq_true hlt
    have t1 : 0 ≤ Int.tdiv (g : Int) 2 ∧ Int.tdiv (g : Int) 2 ≤ (g : Int) := by
      rw [Int.tdiv_eq_ediv_of_nonneg (by omega)]; omega
    exact ⟨by omega, InK.of (by omega) (by omega), by omega, rfl, by omega, rfl, ⟨fun h => (by cases h), fun _ => ⟨InK.of (by omega) (by omega), g + 1, rfl, rfl, by omega, rfl, rfl, rfl, by omega, by omega⟩⟩, fun _ => .inr rfl, fun h => (by cases h)⟩)
theorem g_all1_itok : ItOk Try.prog 130 g_all1_it := iterX Try.func130 (c := bodyOf Try.f130) (by kernel_rfl) mixed (fun caps l p n g hs hp => by
  unfold g_all1_ic at hs
  split at hs
  · cases hs; exact ⟨_, _, g_all1_vc l _ hp, (.cons (Ext.refl _) .nil), rfl, show SpecsL Try.prog _ from SpecsL.nil, ⟨show ItersL Try.prog _ from ItersL.nil, TrsOk.none (fun _ => rfl)⟩⟩
  · cases hs)
theorem g_all1_en : Enters Try.prog 130 := fun args w => by kernel_rfl
def g_all_p (n : Int) : Prop := True
def g_all_r (n : Int) : SV := .clo 130 [.ref [.int .i64 n] 0]
def g_all_s : List EV → Option (Prop × SV)
  | [.p (.int .i64 n)] => some (g_all_p n, g_all_r n)
  | _ => none
abbrev g_all_S : SE.Spec := (specO g_all_s)
def g_all_C : Cfg := { muts := [], frz := lookN [], specs := lookS [], loops := lookL [], iters := lookI [], rfs := lookR [], nils := lookM [] }
theorem g_all_vc (n : Int) (hp : g_all_p n) : vc Try.prog (g_all_C) (bodyOf Try.f85) (st0 Try.f85 [.p (.int .i64 n)]) (retFn Try.prog Try.f85 (g_all_r n)) :=
  @Eq.mpr _ (Go.SE.SV.clo (nat_lit 130) [Go.SE.SV.ref [Go.SE.SV.int Go.IntKind.i64 n] (nat_lit 0)] = Go.SE.SV.clo (nat_lit 130) [Go.SE.SV.ref [Go.SE.SV.int Go.IntKind.i64 n] (nat_lit 0)]) (by kernel_rfl) (by
    exact rfl)
theorem g_all_ok : SpecOk Try.prog 85 g_all_S := fnX Try.func85 (c := bodyOf Try.f85) (by kernel_rfl) mixed (fun args p r hs hp => by
  unfold g_all_s at hs
  split at hs
  · cases hs; exact ⟨_, _, g_all_vc _ hp, (.same _ .nil), ⟨show SpecsL Try.prog _ from SpecsL.nil, rfl, ⟨show ItersL Try.prog _ from ItersL.nil, (TrsOk.none (fun _ => rfl))⟩⟩⟩
  · cases hs)
theorem g_all_en : Enters Try.prog 85 := fun args w => by kernel_rfl
def p_ValidSetting_p (s : L.Setting) (n : Int) : Prop := -1000000 ≤ n ∧ n ≤ 1000000
def p_ValidSetting_r (s : L.Setting) (n : Int) : SV := .bool (L.validSet s n)
def p_ValidSetting_s : List EV → Option (Prop × SV)
  | [.p (.agg [.int .i64 s_shift, .bool s_back]), .p (.int .i64 n)] => some (p_ValidSetting_p (⟨s_shift, s_back⟩ : L.Setting) n, p_ValidSetting_r (⟨s_shift, s_back⟩ : L.Setting) n)
  | _ => none
abbrev p_ValidSetting_S : SE.Spec := (specO p_ValidSetting_s)
def p_ValidSetting_C : Cfg := { muts := [], frz := lookN [], specs := lookS [(113, p_within_S)], loops := lookL [], iters := lookI [], rfs := lookR [], nils := lookM [] }
theorem p_ValidSetting_vc (s : L.Setting) (n : Int) (hp : p_ValidSetting_p s n) : vc Try.prog (p_ValidSetting_C) (bodyOf Try.f82) (st0 Try.f82 [.p (.agg [.int .i64 s.shift, .bool s.back]), .p (.int .i64 n)]) (retFn Try.prog Try.f82 (p_ValidSetting_r s n)) :=
  @Eq.mpr _ (True ∧ (L.within n (3 : Int) (24 : Int) = Bool.true → Go.SE.InK Go.IntKind.i64 (n - (1 : Int))) ∧ (L.within n (3 : Int) (24 : Int) = Bool.true → True) ∧ (bif L.within n (3 : Int) (24 : Int) then L.within s.shift (0 : Int) (n - (1 : Int)) else Bool.false) = L.validSet s n) (by kernel_rfl) (by
    obtain ⟨h1, h2⟩ := hp
    exact ⟨trivial, fun _ => InK.of (by omega) (by omega), fun _ => trivial, rfl⟩)
theorem p_ValidSetting_ok : SpecOk Try.prog 82 p_ValidSetting_S := fnX Try.func82 (c := bodyOf Try.f82) (by kernel_rfl) mixed (fun args p r hs hp => by
  unfold p_ValidSetting_s at hs
  split at hs
  · cases hs; exact ⟨_, _, p_ValidSetting_vc _ _ hp, (.same _ (.same _ .nil)), ⟨show SpecsL Try.prog _ from (SpecsL.cons p_within_ok p_within_en SpecsL.nil), rfl, ⟨show ItersL Try.prog _ from ItersL.nil, (TrsOk.none (fun _ => rfl))⟩⟩⟩
  · cases hs)
theorem p_ValidSetting_en : Enters Try.prog 82 := fun args w => by kernel_rfl
theorem p_ValidSetting_B : ∀ args p r, p_ValidSetting_s args = some (p, r) → ∃ b, r = .bool b := by
  intro args p r h
  unfold p_ValidSetting_s at h
  split at h
  · cases h; exact ⟨_, rfl⟩
  · cases h
def g_Fits_p (p : L.Piece) (l : (L.Sq L.Pt)) (s : L.Setting) : Prop := p.gauges.n ≤ 1000000 ∧ p.marks.n ≤ 1000000 ∧ l.n ≤ 1000000
def g_Fits_r (p : L.Piece) (l : (L.Sq L.Pt)) (s : L.Setting) : SV := .tup [.bool (L.fitsV p l s), .int .i64 (L.fitsE p l s)]
def g_Fits_s : List EV → Option (Prop × SV)
  | [.p (.agg [.int .i64 p_id, .int .i64 p_colour, .int .i64 p_rev, .int .i64 p_made, .int .i64 p_swell, .sl 5 p_gauges_n p_gauges_g, .sl 3 p_marks_n p_marks_g]), .p (.sl 2 l_n l_g), .p (.agg [.int .i64 s_shift, .bool s_back])] => some ((∀ i, i < p_gauges_n → p_gauges_g i = [.int .i64 ((ofGauge (p_gauges_g i)).edge.lo), .int .i64 ((ofGauge (p_gauges_g i)).edge.hi), .int .i64 ((ofGauge (p_gauges_g i)).across.lo), .int .i64 ((ofGauge (p_gauges_g i)).across.hi), .int .i64 ((ofGauge (p_gauges_g i)).bend)]) ∧ (∀ i, i < p_marks_n → p_marks_g i = [.int .i64 ((ofMark (p_marks_g i)).edge), .int .i64 ((ofMark (p_marks_g i)).place), .int .i64 ((ofMark (p_marks_g i)).tone)]) ∧ (∀ i, i < l_n → l_g i = [.int .i64 ((ofPt (l_g i)).x), .int .i64 ((ofPt (l_g i)).y)]) ∧ g_Fits_p (⟨p_id, p_colour, p_rev, p_made, p_swell, (⟨p_gauges_n, fun i => ofGauge (p_gauges_g i)⟩ : (L.Sq L.Gauge)), (⟨p_marks_n, fun i => ofMark (p_marks_g i)⟩ : (L.Sq L.Mark))⟩ : L.Piece) (⟨l_n, fun i => ofPt (l_g i)⟩ : (L.Sq L.Pt)) (⟨s_shift, s_back⟩ : L.Setting), g_Fits_r (⟨p_id, p_colour, p_rev, p_made, p_swell, (⟨p_gauges_n, fun i => ofGauge (p_gauges_g i)⟩ : (L.Sq L.Gauge)), (⟨p_marks_n, fun i => ofMark (p_marks_g i)⟩ : (L.Sq L.Mark))⟩ : L.Piece) (⟨l_n, fun i => ofPt (l_g i)⟩ : (L.Sq L.Pt)) (⟨s_shift, s_back⟩ : L.Setting))
  | _ => none
abbrev g_Fits_S : SE.Spec := (specO g_Fits_s)
def g_Fits_C : Cfg := { muts := [], frz := lookN [], specs := lookS [(15, g_ValidPiece_S), (64, p_ValidOutline_S), (82, p_ValidSetting_S), (83, g_fits_S)], loops := lookL [], iters := lookI [], rfs := lookR [], nils := lookM [] }
theorem g_Fits_vc (p : L.Piece) (l : (L.Sq L.Pt)) (s : L.Setting) (hp : g_Fits_p p l s) : vc Try.prog (g_Fits_C) (bodyOf Try.f39) (st0 Try.f39 [.p (.agg [.int .i64 p.id, .int .i64 p.colour, .int .i64 p.rev, .int .i64 p.made, .int .i64 p.swell, .sl 5 p.gauges.n (fun i => [.int .i64 ((p.gauges.g i).edge.lo), .int .i64 ((p.gauges.g i).edge.hi), .int .i64 ((p.gauges.g i).across.lo), .int .i64 ((p.gauges.g i).across.hi), .int .i64 ((p.gauges.g i).bend)]), .sl 3 p.marks.n (fun i => [.int .i64 ((p.marks.g i).edge), .int .i64 ((p.marks.g i).place), .int .i64 ((p.marks.g i).tone)])]), .p (.sl 2 l.n (fun i => [.int .i64 ((l.g i).x), .int .i64 ((l.g i).y)])), .p (.agg [.int .i64 s.shift, .bool s.back])]) (retFn Try.prog Try.f39 (g_Fits_r p l s)) :=
  @Eq.mpr _ (((∀ (i : Nat), i < p.gauges.n → [Go.SE.SV.int Go.IntKind.i64 (p.gauges.g i).edge.lo, Go.SE.SV.int Go.IntKind.i64 (p.gauges.g i).edge.hi, Go.SE.SV.int Go.IntKind.i64 (p.gauges.g i).across.lo, Go.SE.SV.int Go.IntKind.i64 (p.gauges.g i).across.hi, Go.SE.SV.int Go.IntKind.i64 (p.gauges.g i).bend] = [Go.SE.SV.int Go.IntKind.i64 (p.gauges.g i).edge.lo, Go.SE.SV.int Go.IntKind.i64 (p.gauges.g i).edge.hi,
 Go.SE.SV.int Go.IntKind.i64 (p.gauges.g i).across.lo, Go.SE.SV.int Go.IntKind.i64 (p.gauges.g i).across.hi, Go.SE.SV.int Go.IntKind.i64 (p.gauges.g i).bend]) ∧ (∀ (i : Nat), i < p.marks.n → [Go.SE.SV.int Go.IntKind.i64 (p.marks.g i).edge, Go.SE.SV.int Go.IntKind.i64 (p.marks.g i).place, Go.SE.SV.int Go.IntKind.i64 (p.marks.g i).tone] = [Go.SE.SV.int Go.IntKind.i64 (p.marks.g i).edge, Go.SE.SV.int
 Go.IntKind.i64 (p.marks.g i).place, Go.SE.SV.int Go.IntKind.i64 (p.marks.g i).tone]) ∧ p.gauges.n ≤ (1000000 : Nat) ∧ p.marks.n ≤ (1000000 : Nat)) ∧ ((!L.validPiece (L.Piece.mk p.id p.colour p.rev p.made p.swell (L.Sq.mk p.gauges.n fun (i : Nat) ↦ p.gauges.g i) (L.Sq.mk p.marks.n fun (i : Nat) ↦ p.marks.g i))) = Bool.true → Bool.false = L.fitsV p l s ∧ (30 : Int) = L.fitsE p l s) ∧ ((!L.validPiece
 (L.Piece.mk p.id p.colour p.rev p.made p.swell (L.Sq.mk p.gauges.n fun (i : Nat) ↦ p.gauges.g i) (L.Sq.mk p.marks.n fun (i : Nat) ↦ p.marks.g i))) = Bool.false → ((∀ (i : Nat), i < l.n → [Go.SE.SV.int Go.IntKind.i64 (l.g i).x, Go.SE.SV.int Go.IntKind.i64 (l.g i).y] = [Go.SE.SV.int Go.IntKind.i64 (l.g i).x, Go.SE.SV.int Go.IntKind.i64 (l.g i).y]) ∧ l.n ≤ (1000000 : Nat)) ∧ ((!!L.validOutline
 (L.Sq.mk l.n fun (i : Nat) ↦ l.g i)) = Bool.true → (-1000000 : Int) ≤ (↑p.gauges.n : Int) ∧ (↑p.gauges.n : Int) ≤ (1000000 : Int)) ∧ ((bif !L.validOutline (L.Sq.mk l.n fun (i : Nat) ↦ l.g i) then Bool.true else !L.validSet s (↑p.gauges.n : Int)) = Bool.true → Bool.false = L.fitsV p l s ∧ (1 : Int) = L.fitsE p l s) ∧ ((bif !L.validOutline (L.Sq.mk l.n fun (i : Nat) ↦ l.g i) then Bool.true else
 !L.validSet s (↑p.gauges.n : Int)) = Bool.false → ((∀ (i : Nat), i < p.gauges.n → [Go.SE.SV.int Go.IntKind.i64 (p.gauges.g i).edge.lo, Go.SE.SV.int Go.IntKind.i64 (p.gauges.g i).edge.hi, Go.SE.SV.int Go.IntKind.i64 (p.gauges.g i).across.lo, Go.SE.SV.int Go.IntKind.i64 (p.gauges.g i).across.hi, Go.SE.SV.int Go.IntKind.i64 (p.gauges.g i).bend] = [Go.SE.SV.int Go.IntKind.i64 (p.gauges.g i).edge.lo,
 Go.SE.SV.int Go.IntKind.i64 (p.gauges.g i).edge.hi, Go.SE.SV.int Go.IntKind.i64 (p.gauges.g i).across.lo, Go.SE.SV.int Go.IntKind.i64 (p.gauges.g i).across.hi, Go.SE.SV.int Go.IntKind.i64 (p.gauges.g i).bend]) ∧ (∀ (i : Nat), i < p.marks.n → [Go.SE.SV.int Go.IntKind.i64 (p.marks.g i).edge, Go.SE.SV.int Go.IntKind.i64 (p.marks.g i).place, Go.SE.SV.int Go.IntKind.i64 (p.marks.g i).tone] =
 [Go.SE.SV.int Go.IntKind.i64 (p.marks.g i).edge, Go.SE.SV.int Go.IntKind.i64 (p.marks.g i).place, Go.SE.SV.int Go.IntKind.i64 (p.marks.g i).tone]) ∧ (∀ (i : Nat), i < l.n → [Go.SE.SV.int Go.IntKind.i64 (l.g i).x, Go.SE.SV.int Go.IntKind.i64 (l.g i).y] = [Go.SE.SV.int Go.IntKind.i64 (l.g i).x, Go.SE.SV.int Go.IntKind.i64 (l.g i).y]) ∧ L.fitP (L.Piece.mk p.id p.colour p.rev p.made p.swell (L.Sq.mk
 p.gauges.n fun (i : Nat) ↦ p.gauges.g i) (L.Sq.mk p.marks.n fun (i : Nat) ↦ p.marks.g i)) (L.Sq.mk l.n fun (i : Nat) ↦ l.g i) s) ∧ L.fits (L.Piece.mk p.id p.colour p.rev p.made p.swell (L.Sq.mk p.gauges.n fun (i : Nat) ↦ p.gauges.g i) (L.Sq.mk p.marks.n fun (i : Nat) ↦ p.marks.g i)) (L.Sq.mk l.n fun (i : Nat) ↦ l.g i) s = L.fitsV p l s ∧ (0 : Int) = L.fitsE p l s))) (by kernel_rfl) (by
    obtain ⟨h1, h2, h3⟩ := hp
    refine ⟨⟨fun _ _ => rfl, fun _ _ => rfl, h1, h2⟩, fun h => ?_, fun h => ⟨⟨fun _ _ => rfl, h3⟩, fun _ => by omega, fun h4 => ?_, fun h4 => ?_⟩⟩
    · have hv : L.validPiece p = false := notT h
      have e : L.fitsE p l s = 30 := by unfold L.fitsE; rw [hv]; rfl
      unfold L.fitsV; rw [e]; exact ⟨rfl, rfl⟩
    · have hv : L.validPiece p = true := notF h
      have h4 : (bif !L.validOutline l then true else !L.validSet s p.gauges.n) = true := h4
      have e : L.fitsE p l s = 1 := by unfold L.fitsE; rw [hv, h4]; rfl
      unfold L.fitsV; rw [e]; exact ⟨rfl, rfl⟩
    · have hv : L.validPiece p = true := notF h
      have h4 : (bif !L.validOutline l then true else !L.validSet s p.gauges.n) = false := h4
      have e : L.fitsE p l s = 0 := by unfold L.fitsE; rw [hv, h4]; rfl
      rw [bor, Bool.or_eq_false_iff] at h4
      have hs := validSet_iff.1 (notF h4.2)
      refine ⟨⟨fun _ _ => rfl, fun _ _ => rfl, fun _ _ => rfl, notF h4.1, piece_gauges hv, hs.2.1, hs.2.2⟩, ?_, e.symm⟩
      unfold L.fitsV; rw [e]; rfl)
theorem g_Fits_ok : SpecOk Try.prog 39 g_Fits_S := fnX Try.func39 (c := bodyOf Try.f39) (by kernel_rfl) mixed (fun args p r hs hp => by
  unfold g_Fits_s at hs
  split at hs
  · cases hs; exact ⟨_, _, g_Fits_vc _ _ _ hp.2.2.2, (.p (.agg rfl (fun i hi => by
      rcases i with _ | i
      · exact (Ext.refl _ : Ext _ _)
      rcases i with _ | i
      · exact (Ext.refl _ : Ext _ _)
      rcases i with _ | i
      · exact (Ext.refl _ : Ext _ _)
      rcases i with _ | i
      · exact (Ext.refl _ : Ext _ _)
      rcases i with _ | i
      · exact (Ext.refl _ : Ext _ _)
      rcases i with _ | i
      · exact (Ext.sl hp.1 : Ext _ _)
      rcases i with _ | i
      · exact (Ext.sl hp.2.1 : Ext _ _)
      exact absurd hi (by simp; try omega))) (.p (.sl hp.2.2.1) (.same _ .nil))), ⟨show SpecsL Try.prog _ from (SpecsL.cons g_ValidPiece_ok g_ValidPiece_en (SpecsL.cons p_ValidOutline_ok p_ValidOutline_en (SpecsL.cons p_ValidSetting_ok p_ValidSetting_en (SpecsL.cons g_fits_ok g_fits_en SpecsL.nil)))), rfl, ⟨show ItersL Try.prog _ from ItersL.nil, (TrsOk.none (fun _ => rfl))⟩⟩⟩
  · cases hs)
theorem g_Fits_en : Enters Try.prog 39 := fun args w => by kernel_rfl
def g_Settings_p (p : L.Piece) (l : (L.Sq L.Pt)) : Prop := p.gauges.n ≤ 1000000 ∧ p.marks.n ≤ 1000000 ∧ l.n ≤ 1000000
def g_Settings_r (p : L.Piece) (l : (L.Sq L.Pt)) : SV := .tup [.sl 2 (L.setN p l) (fun k => [.int .i64 ((L.setG p l k).shift), .bool ((L.setG p l k).back)]), .int .i64 (L.setE p l)]
def g_Settings_s : List EV → Option (Prop × SV)
  | [.p (.agg [.int .i64 p_id, .int .i64 p_colour, .int .i64 p_rev, .int .i64 p_made, .int .i64 p_swell, .sl 5 p_gauges_n p_gauges_g, .sl 3 p_marks_n p_marks_g]), .p (.sl 2 l_n l_g)] => some ((∀ i, i < p_gauges_n → p_gauges_g i = [.int .i64 ((ofGauge (p_gauges_g i)).edge.lo), .int .i64 ((ofGauge (p_gauges_g i)).edge.hi), .int .i64 ((ofGauge (p_gauges_g i)).across.lo), .int .i64 ((ofGauge (p_gauges_g i)).across.hi), .int .i64 ((ofGauge (p_gauges_g i)).bend)]) ∧ (∀ i, i < p_marks_n → p_marks_g i = [.int .i64 ((ofMark (p_marks_g i)).edge), .int .i64 ((ofMark (p_marks_g i)).place), .int .i64 ((ofMark (p_marks_g i)).tone)]) ∧ (∀ i, i < l_n → l_g i = [.int .i64 ((ofPt (l_g i)).x), .int .i64 ((ofPt (l_g i)).y)]) ∧ g_Settings_p (⟨p_id, p_colour, p_rev, p_made, p_swell, (⟨p_gauges_n, fun i => ofGauge (p_gauges_g i)⟩ : (L.Sq L.Gauge)), (⟨p_marks_n, fun i => ofMark (p_marks_g i)⟩ : (L.Sq L.Mark))⟩ : L.Piece) (⟨l_n, fun i => ofPt (l_g i)⟩ : (L.Sq L.Pt)), g_Settings_r (⟨p_id, p_colour, p_rev, p_made, p_swell, (⟨p_gauges_n, fun i => ofGauge (p_gauges_g i)⟩ : (L.Sq L.Gauge)), (⟨p_marks_n, fun i => ofMark (p_marks_g i)⟩ : (L.Sq L.Mark))⟩ : L.Piece) (⟨l_n, fun i => ofPt (l_g i)⟩ : (L.Sq L.Pt)))
  | _ => none
abbrev g_Settings_S : SE.Spec := (specO g_Settings_s)
def g_Settings_C : Cfg := { muts := [], frz := lookN [], specs := lookS [(15, g_ValidPiece_S), (64, p_ValidOutline_S), (85, g_all_S), (83, g_fits_S)], loops := lookL [], iters := lookI [(130, g_all1_it)], rfs := lookR [], nils := lookM [(6, [(6, 13, 65, 2)])] }
theorem g_Settings_vc (p : L.Piece) (l : (L.Sq L.Pt)) (hp : g_Settings_p p l) : vc Try.prog ({ g_Settings_C with loops := lookL [], rfs := lookR [(7, { T := Nat, keep := [2, 3, 6], keepO := [], own := fun k _ => [(6, .blk 67 [.row 13]), (13, .row 65 2 (L.cnt (L.fitK p l) k) (fun i => [.int .i64 ((L.sett (L.selN (L.fitK p l) k i)).shift), .bool ((L.sett (L.selN (L.fitK p l) k i)).back)]))], inv := fun k _ => k ≤ 2 * p.gauges.n })] }) (bodyOf Try.f41) (st0 Try.f41 [.p (.agg [.int .i64 p.id, .int .i64 p.colour, .int .i64 p.rev, .int .i64 p.made, .int .i64 p.swell, .sl 5 p.gauges.n (fun i => [.int .i64 ((p.gauges.g i).edge.lo), .int .i64 ((p.gauges.g i).edge.hi), .int .i64 ((p.gauges.g i).across.lo), .int .i64 ((p.gauges.g i).across.hi), .int .i64 ((p.gauges.g i).bend)]), .sl 3 p.marks.n (fun i => [.int .i64 ((p.marks.g i).edge), .int .i64 ((p.marks.g i).place), .int .i64 ((p.marks.g i).tone)])]), .p (.sl 2 l.n (fun i => [.int .i64 ((l.g i).x), .int .i64 ((l.g i).y)]))]) (retFn Try.prog Try.f41 (g_Settings_r p l)) :=
  @Eq.mpr _ (((∀ (i : Nat), i < p.gauges.n → [Go.SE.SV.int Go.IntKind.i64 (p.gauges.g i).edge.lo, Go.SE.SV.int Go.IntKind.i64 (p.gauges.g i).edge.hi, Go.SE.SV.int Go.IntKind.i64 (p.gauges.g i).across.lo, Go.SE.SV.int Go.IntKind.i64 (p.gauges.g i).across.hi, Go.SE.SV.int Go.IntKind.i64 (p.gauges.g i).bend] = [Go.SE.SV.int Go.IntKind.i64 (p.gauges.g i).edge.lo, Go.SE.SV.int Go.IntKind.i64 (p.gauges.g i).edge.hi,
 Go.SE.SV.int Go.IntKind.i64 (p.gauges.g i).across.lo, Go.SE.SV.int Go.IntKind.i64 (p.gauges.g i).across.hi, Go.SE.SV.int Go.IntKind.i64 (p.gauges.g i).bend]) ∧ (∀ (i : Nat), i < p.marks.n → [Go.SE.SV.int Go.IntKind.i64 (p.marks.g i).edge, Go.SE.SV.int Go.IntKind.i64 (p.marks.g i).place, Go.SE.SV.int Go.IntKind.i64 (p.marks.g i).tone] = [Go.SE.SV.int Go.IntKind.i64 (p.marks.g i).edge, Go.SE.SV.int
 Go.IntKind.i64 (p.marks.g i).place, Go.SE.SV.int Go.IntKind.i64 (p.marks.g i).tone]) ∧ p.gauges.n ≤ (1000000 : Nat) ∧ p.marks.n ≤ (1000000 : Nat)) ∧ ((!L.validPiece (L.Piece.mk p.id p.colour p.rev p.made p.swell (L.Sq.mk p.gauges.n fun (i : Nat) ↦ p.gauges.g i) (L.Sq.mk p.marks.n fun (i : Nat) ↦ p.marks.g i))) = Bool.true → L.setN p l = (0 : Nat) ∧ (30 : Int) = L.setE p l) ∧ ((!L.validPiece
 (L.Piece.mk p.id p.colour p.rev p.made p.swell (L.Sq.mk p.gauges.n fun (i : Nat) ↦ p.gauges.g i) (L.Sq.mk p.marks.n fun (i : Nat) ↦ p.marks.g i))) = Bool.false → ((∀ (i : Nat), i < l.n → [Go.SE.SV.int Go.IntKind.i64 (l.g i).x, Go.SE.SV.int Go.IntKind.i64 (l.g i).y] = [Go.SE.SV.int Go.IntKind.i64 (l.g i).x, Go.SE.SV.int Go.IntKind.i64 (l.g i).y]) ∧ l.n ≤ (1000000 : Nat)) ∧ ((!L.validOutline
 (L.Sq.mk l.n fun (i : Nat) ↦ l.g i)) = Bool.true → L.setN p l = (0 : Nat) ∧ (1 : Int) = L.setE p l) ∧ ((!L.validOutline (L.Sq.mk l.n fun (i : Nat) ↦ l.g i)) = Bool.false → True ∧ (((0 : Int) ≤ (↑p.gauges.n : Int) ∧ (↑p.gauges.n : Int) ≤ (1000 : Int)) ∧ ∃ (t : Nat), (nat_lit 0 = L.cnt (L.fitK p l) (0 : Nat) ∧ ∀ (i : Nat), i < nat_lit 0 → [] = [Go.SE.SV.int Go.IntKind.i64 (L.sett (L.selN (L.fitK p
 l) (0 : Nat) i)).shift, Go.SE.SV.bool (L.sett (L.selN (L.fitK p l) (0 : Nat) i)).back]) ∧ (0 : Nat) ≤ (2 : Nat) * p.gauges.n) ∧ (∀ (k t : Nat) (vk : Nat → Go.Value), k < Int.toNat ((2 : Int) * (↑p.gauges.n : Int)) → k ≤ (2 : Nat) * p.gauges.n → ((∀ (i : Nat), i < p.gauges.n → [Go.SE.SV.int Go.IntKind.i64 (p.gauges.g i).edge.lo, Go.SE.SV.int Go.IntKind.i64 (p.gauges.g i).edge.hi, Go.SE.SV.int
 Go.IntKind.i64 (p.gauges.g i).across.lo, Go.SE.SV.int Go.IntKind.i64 (p.gauges.g i).across.hi, Go.SE.SV.int Go.IntKind.i64 (p.gauges.g i).bend] = [Go.SE.SV.int Go.IntKind.i64 (p.gauges.g i).edge.lo, Go.SE.SV.int Go.IntKind.i64 (p.gauges.g i).edge.hi, Go.SE.SV.int Go.IntKind.i64 (p.gauges.g i).across.lo, Go.SE.SV.int Go.IntKind.i64 (p.gauges.g i).across.hi, Go.SE.SV.int Go.IntKind.i64 (p.gauges.g
 i).bend]) ∧ (∀ (i : Nat), i < p.marks.n → [Go.SE.SV.int Go.IntKind.i64 (p.marks.g i).edge, Go.SE.SV.int Go.IntKind.i64 (p.marks.g i).place, Go.SE.SV.int Go.IntKind.i64 (p.marks.g i).tone] = [Go.SE.SV.int Go.IntKind.i64 (p.marks.g i).edge, Go.SE.SV.int Go.IntKind.i64 (p.marks.g i).place, Go.SE.SV.int Go.IntKind.i64 (p.marks.g i).tone]) ∧ (∀ (i : Nat), i < l.n → [Go.SE.SV.int Go.IntKind.i64 (l.g
 i).x, Go.SE.SV.int Go.IntKind.i64 (l.g i).y] = [Go.SE.SV.int Go.IntKind.i64 (l.g i).x, Go.SE.SV.int Go.IntKind.i64 (l.g i).y]) ∧ L.fitP (L.Piece.mk p.id p.colour p.rev p.made p.swell (L.Sq.mk p.gauges.n fun (i : Nat) ↦ p.gauges.g i) (L.Sq.mk p.marks.n fun (i : Nat) ↦ p.marks.g i)) (L.Sq.mk l.n fun (i : Nat) ↦ l.g i) (L.sett k)) ∧ (L.fits (L.Piece.mk p.id p.colour p.rev p.made p.swell (L.Sq.mk
 p.gauges.n fun (i : Nat) ↦ p.gauges.g i) (L.Sq.mk p.marks.n fun (i : Nat) ↦ p.marks.g i)) (L.Sq.mk l.n fun (i : Nat) ↦ l.g i) (L.sett k) = Bool.true → (L.cnt (L.fitK p l) k + nat_lit 1) * nat_lit 16 ≤ (140737488355328 : Nat) ∧ ∃ (t' : Nat), nat_lit 0 = nat_lit 0 ∧ Go.SE.SV.ref [Go.SE.SV.sl (nat_lit 2) l.n fun (i : Nat) ↦ [Go.SE.SV.int Go.IntKind.i64 (l.g i).x, Go.SE.SV.int Go.IntKind.i64 (l.g
 i).y]] (nat_lit 0) = Go.SE.SV.ref [Go.SE.SV.sl (nat_lit 2) l.n fun (i : Nat) ↦ [Go.SE.SV.int Go.IntKind.i64 (l.g i).x, Go.SE.SV.int Go.IntKind.i64 (l.g i).y]] (nat_lit 0) ∧ Go.SE.SV.ref [Go.SE.SV.int Go.IntKind.i64 p.id, Go.SE.SV.int Go.IntKind.i64 p.colour, Go.SE.SV.int Go.IntKind.i64 p.rev, Go.SE.SV.int Go.IntKind.i64 p.made, Go.SE.SV.int Go.IntKind.i64 p.swell, Go.SE.SV.sl (nat_lit 5)
 p.gauges.n fun (i : Nat) ↦ [Go.SE.SV.int Go.IntKind.i64 (p.gauges.g i).edge.lo, Go.SE.SV.int Go.IntKind.i64 (p.gauges.g i).edge.hi, Go.SE.SV.int Go.IntKind.i64 (p.gauges.g i).across.lo, Go.SE.SV.int Go.IntKind.i64 (p.gauges.g i).across.hi, Go.SE.SV.int Go.IntKind.i64 (p.gauges.g i).bend], Go.SE.SV.sl (nat_lit 3) p.marks.n fun (i : Nat) ↦ [Go.SE.SV.int Go.IntKind.i64 (p.marks.g i).edge,
 Go.SE.SV.int Go.IntKind.i64 (p.marks.g i).place, Go.SE.SV.int Go.IntKind.i64 (p.marks.g i).tone]] (nat_lit 0) = Go.SE.SV.ref [Go.SE.SV.int Go.IntKind.i64 p.id, Go.SE.SV.int Go.IntKind.i64 p.colour, Go.SE.SV.int Go.IntKind.i64 p.rev, Go.SE.SV.int Go.IntKind.i64 p.made, Go.SE.SV.int Go.IntKind.i64 p.swell, Go.SE.SV.sl (nat_lit 5) p.gauges.n fun (i : Nat) ↦ [Go.SE.SV.int Go.IntKind.i64 (p.gauges.g
 i).edge.lo, Go.SE.SV.int Go.IntKind.i64 (p.gauges.g i).edge.hi, Go.SE.SV.int Go.IntKind.i64 (p.gauges.g i).across.lo, Go.SE.SV.int Go.IntKind.i64 (p.gauges.g i).across.hi, Go.SE.SV.int Go.IntKind.i64 (p.gauges.g i).bend], Go.SE.SV.sl (nat_lit 3) p.marks.n fun (i : Nat) ↦ [Go.SE.SV.int Go.IntKind.i64 (p.marks.g i).edge, Go.SE.SV.int Go.IntKind.i64 (p.marks.g i).place, Go.SE.SV.int Go.IntKind.i64
 (p.marks.g i).tone]] (nat_lit 0) ∧ vk (nat_lit 6) = vk (nat_lit 6) ∧ vk (nat_lit 3) = vk (nat_lit 3) ∧ vk (nat_lit 2) = vk (nat_lit 2) ∧ (L.cnt (L.fitK p l) k + nat_lit 1 = L.cnt (L.fitK p l) (k + (1 : Nat)) ∧ ∀ (i : Nat), i < L.cnt (L.fitK p l) k + nat_lit 1 → Go.SE.appGet (L.cnt (L.fitK p l) k) (fun (i : Nat) ↦ [Go.SE.SV.int Go.IntKind.i64 (L.sett (L.selN (L.fitK p l) k i)).shift, Go.SE.SV.bool
 (L.sett (L.selN (L.fitK p l) k i)).back]) (fun (x : Nat) ↦ [Go.SE.SV.int Go.IntKind.i64 (L.sett k).shift, Go.SE.SV.bool (L.sett k).back]) i = [Go.SE.SV.int Go.IntKind.i64 (L.sett (L.selN (L.fitK p l) (k + (1 : Nat)) i)).shift, Go.SE.SV.bool (L.sett (L.selN (L.fitK p l) (k + (1 : Nat)) i)).back]) ∧ k + (1 : Nat) ≤ (2 : Nat) * p.gauges.n) ∧ (L.fits (L.Piece.mk p.id p.colour p.rev p.made p.swell
 (L.Sq.mk p.gauges.n fun (i : Nat) ↦ p.gauges.g i) (L.Sq.mk p.marks.n fun (i : Nat) ↦ p.marks.g i)) (L.Sq.mk l.n fun (i : Nat) ↦ l.g i) (L.sett k) = Bool.false → ∃ (t' : Nat), nat_lit 0 = nat_lit 0 ∧ Go.SE.SV.ref [Go.SE.SV.sl (nat_lit 2) l.n fun (i : Nat) ↦ [Go.SE.SV.int Go.IntKind.i64 (l.g i).x, Go.SE.SV.int Go.IntKind.i64 (l.g i).y]] (nat_lit 0) = Go.SE.SV.ref [Go.SE.SV.sl (nat_lit 2) l.n fun (i
 : Nat) ↦ [Go.SE.SV.int Go.IntKind.i64 (l.g i).x, Go.SE.SV.int Go.IntKind.i64 (l.g i).y]] (nat_lit 0) ∧ Go.SE.SV.ref [Go.SE.SV.int Go.IntKind.i64 p.id, Go.SE.SV.int Go.IntKind.i64 p.colour, Go.SE.SV.int Go.IntKind.i64 p.rev, Go.SE.SV.int Go.IntKind.i64 p.made, Go.SE.SV.int Go.IntKind.i64 p.swell, Go.SE.SV.sl (nat_lit 5) p.gauges.n fun (i : Nat) ↦ [Go.SE.SV.int Go.IntKind.i64 (p.gauges.g i).edge.lo,
 Go.SE.SV.int Go.IntKind.i64 (p.gauges.g i).edge.hi, Go.SE.SV.int Go.IntKind.i64 (p.gauges.g i).across.lo, Go.SE.SV.int Go.IntKind.i64 (p.gauges.g i).across.hi, Go.SE.SV.int Go.IntKind.i64 (p.gauges.g i).bend], Go.SE.SV.sl (nat_lit 3) p.marks.n fun (i : Nat) ↦ [Go.SE.SV.int Go.IntKind.i64 (p.marks.g i).edge, Go.SE.SV.int Go.IntKind.i64 (p.marks.g i).place, Go.SE.SV.int Go.IntKind.i64 (p.marks.g
 i).tone]] (nat_lit 0) = Go.SE.SV.ref [Go.SE.SV.int Go.IntKind.i64 p.id, Go.SE.SV.int Go.IntKind.i64 p.colour, Go.SE.SV.int Go.IntKind.i64 p.rev, Go.SE.SV.int Go.IntKind.i64 p.made, Go.SE.SV.int Go.IntKind.i64 p.swell, Go.SE.SV.sl (nat_lit 5) p.gauges.n fun (i : Nat) ↦ [Go.SE.SV.int Go.IntKind.i64 (p.gauges.g i).edge.lo, Go.SE.SV.int Go.IntKind.i64 (p.gauges.g i).edge.hi, Go.SE.SV.int
 Go.IntKind.i64 (p.gauges.g i).across.lo, Go.SE.SV.int Go.IntKind.i64 (p.gauges.g i).across.hi, Go.SE.SV.int Go.IntKind.i64 (p.gauges.g i).bend], Go.SE.SV.sl (nat_lit 3) p.marks.n fun (i : Nat) ↦ [Go.SE.SV.int Go.IntKind.i64 (p.marks.g i).edge, Go.SE.SV.int Go.IntKind.i64 (p.marks.g i).place, Go.SE.SV.int Go.IntKind.i64 (p.marks.g i).tone]] (nat_lit 0) ∧ vk (nat_lit 6) = vk (nat_lit 6) ∧ vk
 (nat_lit 3) = vk (nat_lit 3) ∧ vk (nat_lit 2) = vk (nat_lit 2) ∧ (L.cnt (L.fitK p l) k = L.cnt (L.fitK p l) (k + (1 : Nat)) ∧ ∀ (i : Nat), i < L.cnt (L.fitK p l) k → [Go.SE.SV.int Go.IntKind.i64 (L.sett (L.selN (L.fitK p l) k i)).shift, Go.SE.SV.bool (L.sett (L.selN (L.fitK p l) k i)).back] = [Go.SE.SV.int Go.IntKind.i64 (L.sett (L.selN (L.fitK p l) (k + (1 : Nat)) i)).shift, Go.SE.SV.bool (L.sett
 (L.selN (L.fitK p l) (k + (1 : Nat)) i)).back]) ∧ k + (1 : Nat) ≤ (2 : Nat) * p.gauges.n)) ∧ ∀ (t : Nat), Int.toNat ((2 : Int) * (↑p.gauges.n : Int)) ≤ (2 : Nat) * p.gauges.n → (L.cnt (L.fitK p l) (Int.toNat ((2 : Int) * (↑p.gauges.n : Int))) = L.setN p l ∧ ∀ (i : Nat), i < L.cnt (L.fitK p l) (Int.toNat ((2 : Int) * (↑p.gauges.n : Int))) → [Go.SE.SV.int Go.IntKind.i64 (L.sett (L.selN (L.fitK p l)
 (Int.toNat ((2 : Int) * (↑p.gauges.n : Int))) i)).shift, Go.SE.SV.bool (L.sett (L.selN (L.fitK p l) (Int.toNat ((2 : Int) * (↑p.gauges.n : Int))) i)).back] = [Go.SE.SV.int Go.IntKind.i64 (L.setG p l i).shift, Go.SE.SV.bool (L.setG p l i).back]) ∧ (0 : Int) = L.setE p l))) (by kernel_rfl) (by
    obtain ⟨h1, h2, h3⟩ := hp
    refine ⟨⟨fun _ _ => rfl, fun _ _ => rfl, h1, h2⟩, fun h => ?_, fun h => ⟨⟨fun _ _ => rfl, h3⟩, fun h4 => ?_, fun h4 => ?_⟩⟩
    · have hv : L.validPiece p = false := notT h
      have e : L.setE p l = 30 := by unfold L.setE; rw [hv]; rfl
      unfold L.setN; rw [e]; exact ⟨rfl, rfl⟩
    · have hv : L.validPiece p = true := notF h
      have hv2 : L.validOutline l = false := notT h4
      have e : L.setE p l = 1 := by unfold L.setE; rw [hv, hv2]; rfl
      unfold L.setN; rw [e]; exact ⟨rfl, rfl⟩
    have hv : L.validPiece p = true := notF h
    have hv2 : L.validOutline l = true := notF h4
    have e : L.setE p l = 0 := by unfold L.setE; rw [hv, hv2]; rfl
    have hgg := piece_gauges hv
    obtain ⟨⟨g3, g24⟩, hg⟩ := gauge_ok hgg
    have et : (2 * (p.gauges.n : Int)).toNat = 2 * p.gauges.n := by omega
    rw [et]
    refine ⟨trivial, ⟨by omega, (0 : Nat), ⟨rfl, fun i hi => absurd hi (Nat.not_lt_zero _)⟩, Nat.zero_le _⟩, fun k t vk hk hi => ?_, fun t _ => ⟨⟨?_, fun i hi => rfl⟩, e.symm⟩⟩
    · have hs := sett_lt hk
      have hc := cnt_le (p := L.fitK p l) (n := k)
      refine ⟨⟨fun _ _ => rfl, fun _ _ => rfl, fun _ _ => rfl, hv2, hgg, hs.1, hs.2⟩, fun h5 => ?_, fun h5 => ?_⟩
      · have h5 : L.fitK p l k = true := h5
        have c1 := cnt_yes h5
        refine ⟨show (L.cnt (L.fitK p l) k + 1) * 16 ≤ 140737488355328 by omega, t, rfl, rfl, rfl, rfl, rfl, rfl, ⟨c1.symm, fun i hi => ?_⟩, by omega⟩
        have hi : i < L.cnt (L.fitK p l) k + 1 := hi
        unfold appGet
        by_cases h' : i < L.cnt (L.fitK p l) k
        · rw [if_pos h', selN_old (Nat.ne_of_lt h')]
        · have : i = L.cnt (L.fitK p l) k := by omega
          rw [if_neg h', this, selN_new h5]
      · have h5 : L.fitK p l k = false := h5
        exact ⟨t, rfl, rfl, rfl, rfl, rfl, rfl, ⟨(cnt_not h5).symm, fun i hi => by rw [selN_not h5]⟩, by omega⟩
    · unfold L.setN; rw [e]; rfl)
theorem g_Settings_ok : SpecOk Try.prog 41 g_Settings_S := fnX Try.func41 (c := bodyOf Try.f41) (by kernel_rfl) mixed (fun args p r hs hp => by
  unfold g_Settings_s at hs
  split at hs
  · cases hs; exact ⟨_, _, g_Settings_vc _ _ hp.2.2.2, (.p (.agg rfl (fun i hi => by
      rcases i with _ | i
      · exact (Ext.refl _ : Ext _ _)
      rcases i with _ | i
      · exact (Ext.refl _ : Ext _ _)
      rcases i with _ | i
      · exact (Ext.refl _ : Ext _ _)
      rcases i with _ | i
      · exact (Ext.refl _ : Ext _ _)
      rcases i with _ | i
      · exact (Ext.refl _ : Ext _ _)
      rcases i with _ | i
      · exact (Ext.sl hp.1 : Ext _ _)
      rcases i with _ | i
      · exact (Ext.sl hp.2.1 : Ext _ _)
      exact absurd hi (by simp; try omega))) (.p (.sl hp.2.2.1) .nil)), ⟨show SpecsL Try.prog _ from (SpecsL.cons g_ValidPiece_ok g_ValidPiece_en (SpecsL.cons p_ValidOutline_ok p_ValidOutline_en (SpecsL.cons g_all_ok g_all_en (SpecsL.cons g_fits_ok g_fits_en SpecsL.nil)))), rfl, ⟨show ItersL Try.prog _ from (ItersL.cons g_all1_itok g_all1_en ItersL.nil), (TrsOk.none (fun _ => rfl))⟩⟩⟩
  · cases hs)
theorem g_Settings_en : Enters Try.prog 41 := fun args w => by kernel_rfl
end Go.Proofs.Ytipaekbdalahdaa

namespace Go.Proofs.Ytipaekbdalahdaa
open Go.SE Go.RowKit
set_option maxRecDepth 100000
set_option maxHeartbeats 4000000
set_option linter.unusedVariables false
attribute [local irreducible] Go.SE.vc

def L.sameS (a b : L.Setting) : Bool := decide (a.shift = b.shift) && (a.back == b.back)
def L.sameSs (a b : L.Sq L.Setting) : Bool := bif decide ((a.n : Int) = b.n) then L.allB a.n (fun i => L.sameS (a.g i) (b.g i)) else false
theorem sett_even (g : Nat) : L.sett (2 * g) = ⟨(g : Int), false⟩ := by
  unfold L.sett
  rw [Int.tdiv_eq_ediv_of_nonneg (by omega), Int.tmod_eq_emod_of_nonneg (by omega), decide_eq_false (by omega), show ((2 * g : Nat) : Int) / 2 = (g : Int) by omega]
theorem sett_odd (g : Nat) : L.sett (2 * g + 1) = ⟨(g : Int), true⟩ := by
  unfold L.sett
  rw [Int.tdiv_eq_ediv_of_nonneg (by omega), Int.tmod_eq_emod_of_nonneg (by omega), decide_eq_true (by omega), show ((2 * g + 1 : Nat) : Int) / 2 = (g : Int) by omega]
theorem sameS_refl (a : L.Setting) : L.sameS a a = true := by simp [L.sameS]
theorem sameSs_refl (a : L.Sq L.Setting) : L.sameSs a a = true := by
  unfold L.sameSs
  rw [decide_eq_true rfl, allB_iff.2 (fun i _ => sameS_refl (a.g i))]; rfl
def r1_ValidSetting_p (s : L.Setting) (n : Int) : Prop := True
def r1_ValidSetting_r (s : L.Setting) (n : Int) : SV := .bool (L.validSet s n)
def r1_ValidSetting_s : List EV → Option (Prop × SV)
  | [.p (.agg [.int .i64 s_shift, .bool s_back]), .p (.int .i64 n)] => some (r1_ValidSetting_p (⟨s_shift, s_back⟩ : L.Setting) n, r1_ValidSetting_r (⟨s_shift, s_back⟩ : L.Setting) n)
  | _ => none
abbrev r1_ValidSetting_S : SE.Spec := (specO r1_ValidSetting_s)
def r1_ValidSetting_C : Cfg := { muts := [], frz := lookN [], specs := lookS [], loops := lookL [], iters := lookI [], rfs := lookR [], nils := lookM [] }
theorem r1_ValidSetting_vc (s : L.Setting) (n : Int) (hp : r1_ValidSetting_p s n) : vc Try.prog (r1_ValidSetting_C) (bodyOf Try.f47) (st0 Try.f47 [.p (.agg [.int .i64 s.shift, .bool s.back]), .p (.int .i64 n)]) (retFn Try.prog Try.f47 (r1_ValidSetting_r s n)) :=
  @Eq.mpr _ ((bif bif bif Decidable.decide ((3 : Int) ≤ n) then Decidable.decide (n ≤ (24 : Int)) else Bool.false then Decidable.decide ((0 : Int) ≤ s.shift) else Bool.false then Decidable.decide (s.shift < n) else Bool.false) = L.validSet s n) (by kernel_rfl) (by
    rw [Bool.eq_iff_iff, validSet_iff, band, band, band, Bool.and_eq_true, Bool.and_eq_true, Bool.and_eq_true, decide_eq_true_eq, decide_eq_true_eq, decide_eq_true_eq, decide_eq_true_eq]
    omega)
theorem r1_ValidSetting_ok : SpecOk Try.prog 47 r1_ValidSetting_S := fnX Try.func47 (c := bodyOf Try.f47) (by kernel_rfl) mixed (fun args p r hs hp => by
  unfold r1_ValidSetting_s at hs
  split at hs
  · cases hs; exact ⟨_, _, r1_ValidSetting_vc _ _ hp, (.same _ (.same _ .nil)), ⟨show SpecsL Try.prog _ from SpecsL.nil, rfl, ⟨show ItersL Try.prog _ from ItersL.nil, (TrsOk.none (fun _ => rfl))⟩⟩⟩
  · cases hs)
theorem r1_ValidSetting_en : Enters Try.prog 47 := fun args w => by kernel_rfl
theorem r1_ValidSetting_B : ∀ args p r, r1_ValidSetting_s args = some (p, r) → ∃ b, r = .bool b := by
  intro args p r h
  unfold r1_ValidSetting_s at h
  split at h
  · cases h; exact ⟨_, rfl⟩
  · cases h
def r1_All_p (n : Int) : Prop := 0 ≤ n ∧ n ≤ 1000
def r1_All_q (n : Int) : Nat → Prop := fun _ => True
def r1_All_n (n : Int) : Nat → Nat := fun _ => (2 * n).toNat
def r1_All_g (n : Int) : Nat → Nat → List SV := fun _ i => [.int .i64 ((L.sett i).shift), .bool ((L.sett i).back)]
def r1_All_s : List EV → Option (Prop × (Nat → Prop) × (Nat → Nat) × (Nat → Nat → List SV))
  | [.p (.int .i64 n)] => some (r1_All_p n, r1_All_q n, r1_All_n n, r1_All_g n)
  | _ => none
abbrev r1_All_S : SE.Spec := (specF Nat 0 65 2 r1_All_s)
def r1_All_C : Cfg := { muts := [], frz := lookN [], specs := lookS [], loops := fun _ => none, iters := lookI [], rfs := lookR [], nils := lookM [(2, [(3, 20, 65, 2)])] }
theorem r1_All_vc (n : Int) (hp : r1_All_p n) : vc Try.prog ({ r1_All_C with loops := lookL [(3, { T := Nat, keep := [0, 3], keepO := [], chg := fun i => [(4, .p (.int .i64 (i : Int)))], own := fun i => [(20, .row 65 2 (2 * i) (fun k => [.int .i64 ((L.sett k).shift), .bool ((L.sett k).back)]))], inv := fun i => i ≤ n.toNat, mu := fun i => n.toNat - i })], rfs := lookR [] }) (bodyOf Try.f86) (st0 Try.f86 [.p (.int .i64 n)]) (retFresh Try.prog Try.f86 (Nat) (r1_All_q n) 65 2 (r1_All_n n) (r1_All_g n)) :=
  @Eq.mpr _ ((∃ (g : Nat), (0 : Int) = (↑g : Int) ∧ (nat_lit 0 = (2 : Nat) * g ∧ ∀ (i : Nat), i < nat_lit 0 → [] = [Go.SE.SV.int Go.IntKind.i64 (L.sett i).shift, Go.SE.SV.bool (L.sett i).back]) ∧ g ≤ Int.toNat n) ∧ ∀ (g : Nat), g ≤ Int.toNat n → (Decidable.decide ((↑g : Int) < n) = Bool.true → ((2 : Nat) * g + nat_lit 1) * nat_lit 16 ≤ (140737488355328 : Nat) ∧ ((2 : Nat) * g + nat_lit 1 + nat_lit 1) * nat_lit
 16 ≤ (140737488355328 : Nat) ∧ Go.SE.InK Go.IntKind.i64 ((↑g : Int) + (1 : Int)) ∧ ∃ (g' : Nat), (↑g : Int) + (1 : Int) = (↑g' : Int) ∧ n = n ∧ ((2 : Nat) * g + nat_lit 1 + nat_lit 1 = (2 : Nat) * g' ∧ ∀ (i : Nat), i < (2 : Nat) * g + nat_lit 1 + nat_lit 1 → Go.SE.appGet ((2 : Nat) * g + nat_lit 1) (Go.SE.appGet ((2 : Nat) * g) (fun (k : Nat) ↦ [Go.SE.SV.int Go.IntKind.i64 (L.sett k).shift,
 Go.SE.SV.bool (L.sett k).back]) fun (x : Nat) ↦ [Go.SE.SV.int Go.IntKind.i64 (↑g : Int), Go.SE.SV.bool Bool.false]) (fun (x : Nat) ↦ [Go.SE.SV.int Go.IntKind.i64 (↑g : Int), Go.SE.SV.bool Bool.true]) i = [Go.SE.SV.int Go.IntKind.i64 (L.sett i).shift, Go.SE.SV.bool (L.sett i).back]) ∧ g' ≤ Int.toNat n ∧ Int.toNat n - g' < Int.toNat n - g) ∧ (Decidable.decide ((↑g : Int) < n) = Bool.false → ∃ (t :
 Nat), ((2 : Nat) * g = Int.toNat ((2 : Int) * n) ∧ ∀ (i : Nat), i < (2 : Nat) * g → [Go.SE.SV.int Go.IntKind.i64 (L.sett i).shift, Go.SE.SV.bool (L.sett i).back] = [Go.SE.SV.int Go.IntKind.i64 (L.sett i).shift, Go.SE.SV.bool (L.sett i).back]) ∧ True)) (by kernel_rfl) (by
    obtain ⟨h0, h1⟩ := hp
    refine ⟨⟨(0 : Nat), rfl, ⟨rfl, fun i hi => absurd hi (Nat.not_lt_zero _)⟩, Nat.zero_le _⟩, fun g hg => ⟨fun hlt => ?_, fun hge => ?_⟩⟩
    · have hb : (g : Int) < n := of_decide_eq_true hlt
      refine ⟨show (2 * g + 1) * 16 ≤ 140737488355328 by omega, show (2 * g + 1 + 1) * 16 ≤ 140737488355328 by omega, InK.of (by omega) (by omega), g + 1, by omega, rfl, ⟨by show 2 * g + 1 + 1 = 2 * (g + 1); omega, fun i hi => ?_⟩, by omega, by omega⟩
      have hi : i < 2 * g + 1 + 1 := hi
      unfold appGet
      by_cases c1 : i < 2 * g + 1
      · rw [if_pos c1]
        by_cases c2 : i < 2 * g
        · rw [if_pos c2]
        · obtain rfl : i = 2 * g := by omega
          rw [if_neg c2, sett_even]
      · obtain rfl : i = 2 * g + 1 := by omega
        rw [if_neg c1, sett_odd]
    · have hb : ¬ (g : Int) < n := of_decide_eq_false hge
      exact ⟨(0 : Nat), ⟨by omega, fun _ _ => rfl⟩, trivial⟩)
theorem r1_All_ok : SpecOk Try.prog 86 r1_All_S := freshX Try.func86 (c := bodyOf Try.f86) (by kernel_rfl) mixed (fun args p q n g hs hp => by
  unfold r1_All_s at hs
  split at hs
  · cases hs; exact ⟨_, _, r1_All_vc _ hp, (.same _ .nil), ⟨show SpecsL Try.prog _ from SpecsL.nil, rfl, ⟨show ItersL Try.prog _ from ItersL.nil, (TrsOk.none (fun _ => rfl))⟩⟩⟩
  · cases hs)
theorem r1_All_en : Enters Try.prog 86 := fun args w => by kernel_rfl
def r1_SameSettings_p (a : (L.Sq L.Setting)) (b : (L.Sq L.Setting)) : Prop := a.n ≤ 1000000
def r1_SameSettings_r (a : (L.Sq L.Setting)) (b : (L.Sq L.Setting)) : SV := .bool (L.sameSs a b)
def r1_SameSettings_s : List EV → Option (Prop × SV)
  | [.p (.sl 2 a_n a_g), .p (.sl 2 b_n b_g)] => some ((∀ i, i < a_n → a_g i = [.int .i64 ((ofSetting (a_g i)).shift), .bool ((ofSetting (a_g i)).back)]) ∧ (∀ i, i < b_n → b_g i = [.int .i64 ((ofSetting (b_g i)).shift), .bool ((ofSetting (b_g i)).back)]) ∧ r1_SameSettings_p (⟨a_n, fun i => ofSetting (a_g i)⟩ : (L.Sq L.Setting)) (⟨b_n, fun i => ofSetting (b_g i)⟩ : (L.Sq L.Setting)), r1_SameSettings_r (⟨a_n, fun i => ofSetting (a_g i)⟩ : (L.Sq L.Setting)) (⟨b_n, fun i => ofSetting (b_g i)⟩ : (L.Sq L.Setting)))
  | _ => none
abbrev r1_SameSettings_S : SE.Spec := (specO r1_SameSettings_s)
def r1_SameSettings_C : Cfg := { muts := [], frz := lookN [], specs := lookS [], loops := fun _ => none, iters := lookI [], rfs := lookR [], nils := lookM [] }
theorem r1_SameSettings_vc (a : (L.Sq L.Setting)) (b : (L.Sq L.Setting)) (hp : r1_SameSettings_p a b) : vc Try.prog ({ r1_SameSettings_C with loops := lookL [(4, { T := Nat, keep := [0, 1], keepO := [], chg := fun i => [(5, .p (.int .i64 (i : Int)))], own := fun _ => [], inv := fun i => i ≤ a.n ∧ ∀ j, j < i → L.sameS (a.g j) (b.g j) = true, mu := fun i => a.n - i })], rfs := lookR [] }) (bodyOf Try.f43) (st0 Try.f43 [.p (.sl 2 a.n (fun i => [.int .i64 ((a.g i).shift), .bool ((a.g i).back)])), .p (.sl 2 b.n (fun i => [.int .i64 ((b.g i).shift), .bool ((b.g i).back)]))]) (retFn Try.prog Try.f43 (r1_SameSettings_r a b)) :=
  @Eq.mpr _ (((!Decidable.decide ((↑a.n : Int) = (↑b.n : Int))) = Bool.true → Bool.false = L.sameSs a b) ∧ ((!Decidable.decide ((↑a.n : Int) = (↑b.n : Int))) = Bool.false → (∃ (g : Nat), (0 : Int) = (↑g : Int) ∧ g ≤ a.n ∧ ∀ (j : Nat), j < g → L.sameS (a.g j) (b.g j) = Bool.true) ∧ ∀ (g : Nat), (g ≤ a.n ∧ ∀ (j : Nat), j < g → L.sameS (a.g j) (b.g j) = Bool.true) → (Decidable.decide ((↑g : Int) < (↑a.n : Int)) =
 Bool.true → ((0 : Int) ≤ (↑g : Int) ∧ (↑g : Int) < (↑a.n : Int)) ∧ ((0 : Int) ≤ (↑g : Int) ∧ (↑g : Int) < (↑b.n : Int)) ∧ ((!(Decidable.decide ((a.g (Int.toNat (↑g : Int))).shift = (b.g (Int.toNat (↑g : Int))).shift) && (a.g (Int.toNat (↑g : Int))).back == (b.g (Int.toNat (↑g : Int))).back)) = Bool.true → Bool.false = L.sameSs a b) ∧ ((!(Decidable.decide ((a.g (Int.toNat (↑g : Int))).shift = (b.g
 (Int.toNat (↑g : Int))).shift) && (a.g (Int.toNat (↑g : Int))).back == (b.g (Int.toNat (↑g : Int))).back)) = Bool.false → Go.SE.InK Go.IntKind.i64 ((↑g : Int) + (1 : Int)) ∧ ∃ (g' : Nat), (↑g : Int) + (1 : Int) = (↑g' : Int) ∧ (a.n = a.n ∧ ∀ (i : Nat), i < a.n → [Go.SE.SV.int Go.IntKind.i64 (a.g i).shift, Go.SE.SV.bool (a.g i).back] = [Go.SE.SV.int Go.IntKind.i64 (a.g i).shift, Go.SE.SV.bool (a.g
 i).back]) ∧ (b.n = b.n ∧ ∀ (i : Nat), i < b.n → [Go.SE.SV.int Go.IntKind.i64 (b.g i).shift, Go.SE.SV.bool (b.g i).back] = [Go.SE.SV.int Go.IntKind.i64 (b.g i).shift, Go.SE.SV.bool (b.g i).back]) ∧ (g' ≤ a.n ∧ ∀ (j : Nat), j < g' → L.sameS (a.g j) (b.g j) = Bool.true) ∧ a.n - g' < a.n - g)) ∧ (Decidable.decide ((↑g : Int) < (↑a.n : Int)) = Bool.false → Bool.true = L.sameSs a b))) (by kernel_rfl) (by
    have ha : a.n ≤ 1000000 := hp
    refine ⟨fun h => ?_, fun h => ?_⟩
    · unfold L.sameSs; rw [notT h]; rfl
    have hd := notF h
    have hn := of_decide_eq_true hd
    refine ⟨⟨(0 : Nat), rfl, Nat.zero_le _, fun j hj => absurd hj (Nat.not_lt_zero _)⟩, fun g hg => ⟨fun hlt => ?_, fun hge => ?_⟩⟩
    · have hb : (g : Int) < (a.n : Int) := of_decide_eq_true hlt
      have e0 : ((g : Int)).toNat = g := by omega
      rw [e0]
      refine ⟨by omega, by omega, fun h1 => ?_, fun h1 => ?_⟩
      · have h1 : L.sameS (a.g g) (b.g g) = false := notT h1
        unfold L.sameSs; rw [hd, allB_false (i := g) (by omega) h1]; rfl
      · have h1 : L.sameS (a.g g) (b.g g) = true := notF h1
        exact ⟨InK.of (by omega) (by omega), g + 1, by omega, ⟨rfl, fun _ _ => rfl⟩, ⟨rfl, fun _ _ => rfl⟩, ⟨by omega, fun j hj => by
          rcases Nat.lt_succ_iff_lt_or_eq.1 hj with h' | rfl
          · exact hg.2 j h'
          · exact h1⟩, by omega⟩
    · have hb : ¬ (g : Int) < (a.n : Int) := of_decide_eq_false hge
      unfold L.sameSs; rw [hd, allB_iff.2 (fun i hi => hg.2 i (by omega))]; rfl)
theorem r1_SameSettings_ok : SpecOk Try.prog 43 r1_SameSettings_S := fnX Try.func43 (c := bodyOf Try.f43) (by kernel_rfl) mixed (fun args p r hs hp => by
  unfold r1_SameSettings_s at hs
  split at hs
  · cases hs; exact ⟨_, _, r1_SameSettings_vc _ _ hp.2.2, (.p (.sl hp.1) (.p (.sl hp.2.1) .nil)), ⟨show SpecsL Try.prog _ from SpecsL.nil, rfl, ⟨show ItersL Try.prog _ from ItersL.nil, (TrsOk.none (fun _ => rfl))⟩⟩⟩
  · cases hs)
theorem r1_SameSettings_en : Enters Try.prog 43 := fun args w => by kernel_rfl
theorem r1_SameSettings_B : ∀ args p r, r1_SameSettings_s args = some (p, r) → ∃ b, r = .bool b := by
  intro args p r h
  unfold r1_SameSettings_s at h
  split at h
  · cases h; exact ⟨_, rfl⟩
  · cases h
def r3_Holds_p (g : L.Gauge) (m : L.Meas) : Prop := True
def r3_Holds_r (g : L.Gauge) (m : L.Meas) : SV := .bool (L.holdsR g m)
def r3_Holds_s : List EV → Option (Prop × SV)
  | [.p (.agg [.int .i64 g_edge_lo, .int .i64 g_edge_hi, .int .i64 g_across_lo, .int .i64 g_across_hi, .int .i64 g_bend]), .p (.agg [.int .i64 m_edge, .int .i64 m_across, .int .i64 m_bend])] => some (r3_Holds_p (⟨(⟨g_edge_lo, g_edge_hi⟩ : L.Span), (⟨g_across_lo, g_across_hi⟩ : L.Span), g_bend⟩ : L.Gauge) (⟨m_edge, m_across, m_bend⟩ : L.Meas), r3_Holds_r (⟨(⟨g_edge_lo, g_edge_hi⟩ : L.Span), (⟨g_across_lo, g_across_hi⟩ : L.Span), g_bend⟩ : L.Gauge) (⟨m_edge, m_across, m_bend⟩ : L.Meas))
  | _ => none
abbrev r3_Holds_S : SE.Spec := (specO r3_Holds_s)
def r3_Holds_C : Cfg := { muts := [], frz := lookN [], specs := lookS [(59, r3_within_S)], loops := lookL [], iters := lookI [], rfs := lookR [], nils := lookM [] }
theorem r3_Holds_vc (g : L.Gauge) (m : L.Meas) (hp : r3_Holds_p g m) : vc Try.prog (r3_Holds_C) (bodyOf Try.f129) (st0 Try.f129 [.p (.agg [.int .i64 g.edge.lo, .int .i64 g.edge.hi, .int .i64 g.across.lo, .int .i64 g.across.hi, .int .i64 g.bend]), .p (.agg [.int .i64 m.edge, .int .i64 m.across, .int .i64 m.bend])]) (retFn Try.prog Try.f129 (r3_Holds_r g m)) :=
  @Eq.mpr _ (True ∧ (L.within m.edge g.edge.lo g.edge.hi = Bool.true → True) ∧ (bif bif L.within m.edge g.edge.lo g.edge.hi then L.within m.across g.across.lo g.across.hi else Bool.false then bif Decidable.decide (g.bend = (0 : Int)) then Bool.true else Decidable.decide (g.bend = m.bend) else Bool.false) = L.holdsR g m) (by kernel_rfl) (by
    exact ⟨trivial, fun _ => trivial, rfl⟩)
theorem r3_Holds_ok : SpecOk Try.prog 129 r3_Holds_S := fnX Try.func129 (c := bodyOf Try.f129) (by kernel_rfl) mixed (fun args p r hs hp => by
  unfold r3_Holds_s at hs
  split at hs
  · cases hs; exact ⟨_, _, r3_Holds_vc _ _ hp, (.same _ (.same _ .nil)), ⟨show SpecsL Try.prog _ from (SpecsL.cons r3_within_ok r3_within_en SpecsL.nil), rfl, ⟨show ItersL Try.prog _ from ItersL.nil, (TrsOk.none (fun _ => rfl))⟩⟩⟩
  · cases hs)
theorem r3_Holds_en : Enters Try.prog 129 := fun args w => by kernel_rfl
theorem r3_Holds_B : ∀ args p r, r3_Holds_s args = some (p, r) → ∃ b, r = .bool b := by
  intro args p r h
  unfold r3_Holds_s at h
  split at h
  · cases h; exact ⟨_, rfl⟩
  · cases h
def r3_fits_p (p : L.Piece) (l : (L.Sq L.Pt)) (s : L.Setting) : Prop := L.fitP p l s
def r3_fits_r (p : L.Piece) (l : (L.Sq L.Pt)) (s : L.Setting) : SV := .bool (L.fits p l s)
def r3_fits_s : List EV → Option (Prop × SV)
  | [.p (.agg [.int .i64 p_id, .int .i64 p_colour, .int .i64 p_rev, .int .i64 p_made, .int .i64 p_swell, .sl 5 p_gauges_n p_gauges_g, .sl 3 p_marks_n p_marks_g]), .p (.sl 2 l_n l_g), .p (.agg [.int .i64 s_shift, .bool s_back])] => some ((∀ i, i < p_gauges_n → p_gauges_g i = [.int .i64 ((ofGauge (p_gauges_g i)).edge.lo), .int .i64 ((ofGauge (p_gauges_g i)).edge.hi), .int .i64 ((ofGauge (p_gauges_g i)).across.lo), .int .i64 ((ofGauge (p_gauges_g i)).across.hi), .int .i64 ((ofGauge (p_gauges_g i)).bend)]) ∧ (∀ i, i < p_marks_n → p_marks_g i = [.int .i64 ((ofMark (p_marks_g i)).edge), .int .i64 ((ofMark (p_marks_g i)).place), .int .i64 ((ofMark (p_marks_g i)).tone)]) ∧ (∀ i, i < l_n → l_g i = [.int .i64 ((ofPt (l_g i)).x), .int .i64 ((ofPt (l_g i)).y)]) ∧ r3_fits_p (⟨p_id, p_colour, p_rev, p_made, p_swell, (⟨p_gauges_n, fun i => ofGauge (p_gauges_g i)⟩ : (L.Sq L.Gauge)), (⟨p_marks_n, fun i => ofMark (p_marks_g i)⟩ : (L.Sq L.Mark))⟩ : L.Piece) (⟨l_n, fun i => ofPt (l_g i)⟩ : (L.Sq L.Pt)) (⟨s_shift, s_back⟩ : L.Setting), r3_fits_r (⟨p_id, p_colour, p_rev, p_made, p_swell, (⟨p_gauges_n, fun i => ofGauge (p_gauges_g i)⟩ : (L.Sq L.Gauge)), (⟨p_marks_n, fun i => ofMark (p_marks_g i)⟩ : (L.Sq L.Mark))⟩ : L.Piece) (⟨l_n, fun i => ofPt (l_g i)⟩ : (L.Sq L.Pt)) (⟨s_shift, s_back⟩ : L.Setting))
  | _ => none
abbrev r3_fits_S : SE.Spec := (specO r3_fits_s)
def r3_fits_C : Cfg := { muts := [], frz := lookN [], specs := lookS [(66, r3_measure_S), (129, r3_Holds_S)], loops := fun _ => none, iters := lookI [], rfs := lookR [], nils := lookM [] }
theorem r3_fits_vc (p : L.Piece) (l : (L.Sq L.Pt)) (s : L.Setting) (hp : r3_fits_p p l s) : vc Try.prog ({ r3_fits_C with loops := lookL [(4, { T := Nat, keep := [1, 3, 5], keepO := [], chg := fun i => [(7, .p (.int .i64 (i : Int)))], own := fun _ => [], inv := fun i => i ≤ l.n ∧ ∀ j, j < i → L.holdsR (p.gauges.g j) (L.meas l s j) = true, mu := fun i => l.n - i })], rfs := lookR [] }) (bodyOf Try.f84) (st0 Try.f84 [.p (.agg [.int .i64 p.id, .int .i64 p.colour, .int .i64 p.rev, .int .i64 p.made, .int .i64 p.swell, .sl 5 p.gauges.n (fun i => [.int .i64 ((p.gauges.g i).edge.lo), .int .i64 ((p.gauges.g i).edge.hi), .int .i64 ((p.gauges.g i).across.lo), .int .i64 ((p.gauges.g i).across.hi), .int .i64 ((p.gauges.g i).bend)]), .sl 3 p.marks.n (fun i => [.int .i64 ((p.marks.g i).edge), .int .i64 ((p.marks.g i).place), .int .i64 ((p.marks.g i).tone)])]), .p (.sl 2 l.n (fun i => [.int .i64 ((l.g i).x), .int .i64 ((l.g i).y)])), .p (.agg [.int .i64 s.shift, .bool s.back])]) (retFn Try.prog Try.f84 (r3_fits_r p l s)) :=
  @Eq.mpr _ (((!Decidable.decide ((↑p.gauges.n : Int) = (↑l.n : Int))) = Bool.true → Bool.false = L.fits p l s) ∧ ((!Decidable.decide ((↑p.gauges.n : Int) = (↑l.n : Int))) = Bool.false → (∃ (g : Nat), (0 : Int) = (↑g : Int) ∧ g ≤ l.n ∧ ∀ (j : Nat), j < g → L.holdsR (p.gauges.g j) (L.meas l s j) = Bool.true) ∧ ∀ (g : Nat), (g ≤ l.n ∧ ∀ (j : Nat), j < g → L.holdsR (p.gauges.g j) (L.meas l s j) = Bool.true) →
 (Decidable.decide ((↑g : Int) < (↑l.n : Int)) = Bool.true → ((0 : Int) ≤ (↑g : Int) ∧ (↑g : Int) < (↑p.gauges.n : Int)) ∧ ((∀ (i : Nat), i < l.n → [Go.SE.SV.int Go.IntKind.i64 (l.g i).x, Go.SE.SV.int Go.IntKind.i64 (l.g i).y] = [Go.SE.SV.int Go.IntKind.i64 (l.g i).x, Go.SE.SV.int Go.IntKind.i64 (l.g i).y]) ∧ L.allBd (L.Sq.mk l.n fun (i : Nat) ↦ l.g i) ∧ (1 : Nat) ≤ l.n ∧ (-10000 : Int) ≤ (↑g :
 Int) ∧ (↑g : Int) ≤ (10000 : Int) ∧ (-10000 : Int) ≤ s.shift ∧ s.shift ≤ (10000 : Int)) ∧ True ∧ ((!L.holdsR (p.gauges.g (Int.toNat (↑g : Int))) (L.measR (L.Sq.mk l.n fun (i : Nat) ↦ l.g i) s (↑g : Int))) = Bool.true → Bool.false = L.fits p l s) ∧ ((!L.holdsR (p.gauges.g (Int.toNat (↑g : Int))) (L.measR (L.Sq.mk l.n fun (i : Nat) ↦ l.g i) s (↑g : Int))) = Bool.false → Go.SE.InK Go.IntKind.i64 ((↑g
 : Int) + (1 : Int)) ∧ ∃ (g' : Nat), (↑g : Int) + (1 : Int) = (↑g' : Int) ∧ Go.SE.SV.ref [Go.SE.SV.int Go.IntKind.i64 s.shift, Go.SE.SV.bool s.back] (nat_lit 0) = Go.SE.SV.ref [Go.SE.SV.int Go.IntKind.i64 s.shift, Go.SE.SV.bool s.back] (nat_lit 0) ∧ Go.SE.SV.ref [Go.SE.SV.int Go.IntKind.i64 p.id, Go.SE.SV.int Go.IntKind.i64 p.colour, Go.SE.SV.int Go.IntKind.i64 p.rev, Go.SE.SV.int Go.IntKind.i64
 p.made, Go.SE.SV.int Go.IntKind.i64 p.swell, Go.SE.SV.sl (nat_lit 5) p.gauges.n fun (i : Nat) ↦ [Go.SE.SV.int Go.IntKind.i64 (p.gauges.g i).edge.lo, Go.SE.SV.int Go.IntKind.i64 (p.gauges.g i).edge.hi, Go.SE.SV.int Go.IntKind.i64 (p.gauges.g i).across.lo, Go.SE.SV.int Go.IntKind.i64 (p.gauges.g i).across.hi, Go.SE.SV.int Go.IntKind.i64 (p.gauges.g i).bend], Go.SE.SV.sl (nat_lit 3) p.marks.n fun (i
 : Nat) ↦ [Go.SE.SV.int Go.IntKind.i64 (p.marks.g i).edge, Go.SE.SV.int Go.IntKind.i64 (p.marks.g i).place, Go.SE.SV.int Go.IntKind.i64 (p.marks.g i).tone]] (nat_lit 0) = Go.SE.SV.ref [Go.SE.SV.int Go.IntKind.i64 p.id, Go.SE.SV.int Go.IntKind.i64 p.colour, Go.SE.SV.int Go.IntKind.i64 p.rev, Go.SE.SV.int Go.IntKind.i64 p.made, Go.SE.SV.int Go.IntKind.i64 p.swell, Go.SE.SV.sl (nat_lit 5) p.gauges.n
 fun (i : Nat) ↦ [Go.SE.SV.int Go.IntKind.i64 (p.gauges.g i).edge.lo, Go.SE.SV.int Go.IntKind.i64 (p.gauges.g i).edge.hi, Go.SE.SV.int Go.IntKind.i64 (p.gauges.g i).across.lo, Go.SE.SV.int Go.IntKind.i64 (p.gauges.g i).across.hi, Go.SE.SV.int Go.IntKind.i64 (p.gauges.g i).bend], Go.SE.SV.sl (nat_lit 3) p.marks.n fun (i : Nat) ↦ [Go.SE.SV.int Go.IntKind.i64 (p.marks.g i).edge, Go.SE.SV.int
 Go.IntKind.i64 (p.marks.g i).place, Go.SE.SV.int Go.IntKind.i64 (p.marks.g i).tone]] (nat_lit 0) ∧ (l.n = l.n ∧ ∀ (i : Nat), i < l.n → [Go.SE.SV.int Go.IntKind.i64 (l.g i).x, Go.SE.SV.int Go.IntKind.i64 (l.g i).y] = [Go.SE.SV.int Go.IntKind.i64 (l.g i).x, Go.SE.SV.int Go.IntKind.i64 (l.g i).y]) ∧ (g' ≤ l.n ∧ ∀ (j : Nat), j < g' → L.holdsR (p.gauges.g j) (L.meas l s j) = Bool.true) ∧ l.n - g' < l.n
 - g)) ∧ (Decidable.decide ((↑g : Int) < (↑l.n : Int)) = Bool.false → Bool.true = L.fits p l s))) (by kernel_rfl) (by
    obtain ⟨hv, hgg, s0, s1⟩ := hp
    obtain ⟨⟨g3, g24⟩, hg⟩ := gauge_ok hgg
    obtain ⟨n3, n24, hsm, hbd⟩ := validOutline_of hv
    refine ⟨fun h => ?_, fun h => ?_⟩
    · have := of_decide_eq_false (notT h)
      unfold L.fits; rw [decide_eq_false (show ¬ (l.n : Int) = (p.gauges.n : Int) by omega)]; rfl
    have hn : l.n = p.gauges.n := by have := of_decide_eq_true (notF h); omega
    have hd : decide ((l.n : Int) = (p.gauges.n : Int)) = true := decide_eq_true (by omega)
    refine ⟨⟨(0 : Nat), rfl, Nat.zero_le _, fun j hj => absurd hj (Nat.not_lt_zero _)⟩, fun g hgl => ⟨fun hlt => ?_, fun hge => ?_⟩⟩
    · have hb : (g : Int) < (l.n : Int) := of_decide_eq_true hlt
      have e0 : ((g : Int)).toNat = g := by omega
      have hm : L.measR (L.Sq.mk l.n fun i => l.g i) s (g : Int) = L.meas l s g := (meas_eq hv s0 (by omega) (by omega)).symm
      rw [e0, hm]
      refine ⟨by omega, ⟨fun _ _ => rfl, hbd, by omega, by omega, by omega, by omega, by omega⟩, trivial, fun h1 => ?_, fun h1 => ?_⟩
      · unfold L.fits; rw [hd, allB_false (i := g) (by omega) (notT h1)]; rfl
      · exact ⟨InK.of (by omega) (by omega), g + 1, by omega, rfl, rfl, ⟨rfl, fun _ _ => rfl⟩, ⟨by omega, fun j hj => by
          rcases Nat.lt_succ_iff_lt_or_eq.1 hj with h' | rfl
          · exact hgl.2 j h'
          · exact notF h1⟩, by omega⟩
    · have hb : ¬ (g : Int) < (l.n : Int) := of_decide_eq_false hge
      unfold L.fits; rw [hd, allB_iff.2 (fun i hi => hgl.2 i (by omega))]; rfl)
theorem r3_fits_ok : SpecOk Try.prog 84 r3_fits_S := fnX Try.func84 (c := bodyOf Try.f84) (by kernel_rfl) mixed (fun args p r hs hp => by
  unfold r3_fits_s at hs
  split at hs
  · cases hs; exact ⟨_, _, r3_fits_vc _ _ _ hp.2.2.2, (.p (.agg rfl (fun i hi => by
      rcases i with _ | i
      · exact (Ext.refl _ : Ext _ _)
      rcases i with _ | i
      · exact (Ext.refl _ : Ext _ _)
      rcases i with _ | i
      · exact (Ext.refl _ : Ext _ _)
      rcases i with _ | i
      · exact (Ext.refl _ : Ext _ _)
      rcases i with _ | i
      · exact (Ext.refl _ : Ext _ _)
      rcases i with _ | i
      · exact (Ext.sl hp.1 : Ext _ _)
      rcases i with _ | i
      · exact (Ext.sl hp.2.1 : Ext _ _)
      exact absurd hi (by simp; try omega))) (.p (.sl hp.2.2.1) (.same _ .nil))), ⟨show SpecsL Try.prog _ from (SpecsL.cons r3_measure_ok r3_measure_en (SpecsL.cons r3_Holds_ok r3_Holds_en SpecsL.nil)), rfl, ⟨show ItersL Try.prog _ from ItersL.nil, (TrsOk.none (fun _ => rfl))⟩⟩⟩
  · cases hs)
theorem r3_fits_en : Enters Try.prog 84 := fun args w => by kernel_rfl
theorem r3_fits_B : ∀ args p r, r3_fits_s args = some (p, r) → ∃ b, r = .bool b := by
  intro args p r h
  unfold r3_fits_s at h
  split at h
  · cases h; exact ⟨_, rfl⟩
  · cases h
def r3_Fits_p (p : L.Piece) (l : (L.Sq L.Pt)) (s : L.Setting) : Prop := p.gauges.n ≤ 1000000 ∧ p.marks.n ≤ 1000000 ∧ l.n ≤ 1000000
def r3_Fits_r (p : L.Piece) (l : (L.Sq L.Pt)) (s : L.Setting) : SV := .tup [.bool (L.fitsV p l s), .int .i64 (L.fitsE p l s)]
def r3_Fits_s : List EV → Option (Prop × SV)
  | [.p (.agg [.int .i64 p_id, .int .i64 p_colour, .int .i64 p_rev, .int .i64 p_made, .int .i64 p_swell, .sl 5 p_gauges_n p_gauges_g, .sl 3 p_marks_n p_marks_g]), .p (.sl 2 l_n l_g), .p (.agg [.int .i64 s_shift, .bool s_back])] => some ((∀ i, i < p_gauges_n → p_gauges_g i = [.int .i64 ((ofGauge (p_gauges_g i)).edge.lo), .int .i64 ((ofGauge (p_gauges_g i)).edge.hi), .int .i64 ((ofGauge (p_gauges_g i)).across.lo), .int .i64 ((ofGauge (p_gauges_g i)).across.hi), .int .i64 ((ofGauge (p_gauges_g i)).bend)]) ∧ (∀ i, i < p_marks_n → p_marks_g i = [.int .i64 ((ofMark (p_marks_g i)).edge), .int .i64 ((ofMark (p_marks_g i)).place), .int .i64 ((ofMark (p_marks_g i)).tone)]) ∧ (∀ i, i < l_n → l_g i = [.int .i64 ((ofPt (l_g i)).x), .int .i64 ((ofPt (l_g i)).y)]) ∧ r3_Fits_p (⟨p_id, p_colour, p_rev, p_made, p_swell, (⟨p_gauges_n, fun i => ofGauge (p_gauges_g i)⟩ : (L.Sq L.Gauge)), (⟨p_marks_n, fun i => ofMark (p_marks_g i)⟩ : (L.Sq L.Mark))⟩ : L.Piece) (⟨l_n, fun i => ofPt (l_g i)⟩ : (L.Sq L.Pt)) (⟨s_shift, s_back⟩ : L.Setting), r3_Fits_r (⟨p_id, p_colour, p_rev, p_made, p_swell, (⟨p_gauges_n, fun i => ofGauge (p_gauges_g i)⟩ : (L.Sq L.Gauge)), (⟨p_marks_n, fun i => ofMark (p_marks_g i)⟩ : (L.Sq L.Mark))⟩ : L.Piece) (⟨l_n, fun i => ofPt (l_g i)⟩ : (L.Sq L.Pt)) (⟨s_shift, s_back⟩ : L.Setting))
  | _ => none
abbrev r3_Fits_S : SE.Spec := (specO r3_Fits_s)
def r3_Fits_C : Cfg := { muts := [], frz := lookN [], specs := lookS [(16, r3_ValidPiece_S), (44, r1_ValidOutline_S), (47, r1_ValidSetting_S), (84, r3_fits_S)], loops := lookL [], iters := lookI [], rfs := lookR [], nils := lookM [] }
theorem r3_Fits_vc (p : L.Piece) (l : (L.Sq L.Pt)) (s : L.Setting) (hp : r3_Fits_p p l s) : vc Try.prog (r3_Fits_C) (bodyOf Try.f40) (st0 Try.f40 [.p (.agg [.int .i64 p.id, .int .i64 p.colour, .int .i64 p.rev, .int .i64 p.made, .int .i64 p.swell, .sl 5 p.gauges.n (fun i => [.int .i64 ((p.gauges.g i).edge.lo), .int .i64 ((p.gauges.g i).edge.hi), .int .i64 ((p.gauges.g i).across.lo), .int .i64 ((p.gauges.g i).across.hi), .int .i64 ((p.gauges.g i).bend)]), .sl 3 p.marks.n (fun i => [.int .i64 ((p.marks.g i).edge), .int .i64 ((p.marks.g i).place), .int .i64 ((p.marks.g i).tone)])]), .p (.sl 2 l.n (fun i => [.int .i64 ((l.g i).x), .int .i64 ((l.g i).y)])), .p (.agg [.int .i64 s.shift, .bool s.back])]) (retFn Try.prog Try.f40 (r3_Fits_r p l s)) :=
  @Eq.mpr _ (((∀ (i : Nat), i < p.gauges.n → [Go.SE.SV.int Go.IntKind.i64 (p.gauges.g i).edge.lo, Go.SE.SV.int Go.IntKind.i64 (p.gauges.g i).edge.hi, Go.SE.SV.int Go.IntKind.i64 (p.gauges.g i).across.lo, Go.SE.SV.int Go.IntKind.i64 (p.gauges.g i).across.hi, Go.SE.SV.int Go.IntKind.i64 (p.gauges.g i).bend] = [Go.SE.SV.int Go.IntKind.i64 (p.gauges.g i).edge.lo, Go.SE.SV.int Go.IntKind.i64 (p.gauges.g i).edge.hi,
 Go.SE.SV.int Go.IntKind.i64 (p.gauges.g i).across.lo, Go.SE.SV.int Go.IntKind.i64 (p.gauges.g i).across.hi, Go.SE.SV.int Go.IntKind.i64 (p.gauges.g i).bend]) ∧ (∀ (i : Nat), i < p.marks.n → [Go.SE.SV.int Go.IntKind.i64 (p.marks.g i).edge, Go.SE.SV.int Go.IntKind.i64 (p.marks.g i).place, Go.SE.SV.int Go.IntKind.i64 (p.marks.g i).tone] = [Go.SE.SV.int Go.IntKind.i64 (p.marks.g i).edge, Go.SE.SV.int
 Go.IntKind.i64 (p.marks.g i).place, Go.SE.SV.int Go.IntKind.i64 (p.marks.g i).tone]) ∧ p.gauges.n ≤ (1000000 : Nat) ∧ p.marks.n ≤ (1000000 : Nat)) ∧ ((!L.validPiece (L.Piece.mk p.id p.colour p.rev p.made p.swell (L.Sq.mk p.gauges.n fun (i : Nat) ↦ p.gauges.g i) (L.Sq.mk p.marks.n fun (i : Nat) ↦ p.marks.g i))) = Bool.true → Bool.false = L.fitsV p l s ∧ (30 : Int) = L.fitsE p l s) ∧ ((!L.validPiece
 (L.Piece.mk p.id p.colour p.rev p.made p.swell (L.Sq.mk p.gauges.n fun (i : Nat) ↦ p.gauges.g i) (L.Sq.mk p.marks.n fun (i : Nat) ↦ p.marks.g i))) = Bool.false → ((∀ (i : Nat), i < l.n → [Go.SE.SV.int Go.IntKind.i64 (l.g i).x, Go.SE.SV.int Go.IntKind.i64 (l.g i).y] = [Go.SE.SV.int Go.IntKind.i64 (l.g i).x, Go.SE.SV.int Go.IntKind.i64 (l.g i).y]) ∧ l.n ≤ (1000000 : Nat)) ∧ ((!!L.validOutline
 (L.Sq.mk l.n fun (i : Nat) ↦ l.g i)) = Bool.true → True) ∧ ((bif !L.validOutline (L.Sq.mk l.n fun (i : Nat) ↦ l.g i) then Bool.true else !L.validSet s (↑p.gauges.n : Int)) = Bool.true → Bool.false = L.fitsV p l s ∧ (1 : Int) = L.fitsE p l s) ∧ ((bif !L.validOutline (L.Sq.mk l.n fun (i : Nat) ↦ l.g i) then Bool.true else !L.validSet s (↑p.gauges.n : Int)) = Bool.false → ((∀ (i : Nat), i <
 p.gauges.n → [Go.SE.SV.int Go.IntKind.i64 (p.gauges.g i).edge.lo, Go.SE.SV.int Go.IntKind.i64 (p.gauges.g i).edge.hi, Go.SE.SV.int Go.IntKind.i64 (p.gauges.g i).across.lo, Go.SE.SV.int Go.IntKind.i64 (p.gauges.g i).across.hi, Go.SE.SV.int Go.IntKind.i64 (p.gauges.g i).bend] = [Go.SE.SV.int Go.IntKind.i64 (p.gauges.g i).edge.lo, Go.SE.SV.int Go.IntKind.i64 (p.gauges.g i).edge.hi, Go.SE.SV.int
 Go.IntKind.i64 (p.gauges.g i).across.lo, Go.SE.SV.int Go.IntKind.i64 (p.gauges.g i).across.hi, Go.SE.SV.int Go.IntKind.i64 (p.gauges.g i).bend]) ∧ (∀ (i : Nat), i < p.marks.n → [Go.SE.SV.int Go.IntKind.i64 (p.marks.g i).edge, Go.SE.SV.int Go.IntKind.i64 (p.marks.g i).place, Go.SE.SV.int Go.IntKind.i64 (p.marks.g i).tone] = [Go.SE.SV.int Go.IntKind.i64 (p.marks.g i).edge, Go.SE.SV.int
 Go.IntKind.i64 (p.marks.g i).place, Go.SE.SV.int Go.IntKind.i64 (p.marks.g i).tone]) ∧ (∀ (i : Nat), i < l.n → [Go.SE.SV.int Go.IntKind.i64 (l.g i).x, Go.SE.SV.int Go.IntKind.i64 (l.g i).y] = [Go.SE.SV.int Go.IntKind.i64 (l.g i).x, Go.SE.SV.int Go.IntKind.i64 (l.g i).y]) ∧ L.fitP (L.Piece.mk p.id p.colour p.rev p.made p.swell (L.Sq.mk p.gauges.n fun (i : Nat) ↦ p.gauges.g i) (L.Sq.mk p.marks.n fun
 (i : Nat) ↦ p.marks.g i)) (L.Sq.mk l.n fun (i : Nat) ↦ l.g i) s) ∧ L.fits (L.Piece.mk p.id p.colour p.rev p.made p.swell (L.Sq.mk p.gauges.n fun (i : Nat) ↦ p.gauges.g i) (L.Sq.mk p.marks.n fun (i : Nat) ↦ p.marks.g i)) (L.Sq.mk l.n fun (i : Nat) ↦ l.g i) s = L.fitsV p l s ∧ (0 : Int) = L.fitsE p l s))) (by kernel_rfl) (by
    obtain ⟨h1, h2, h3⟩ := hp
    refine ⟨⟨fun _ _ => rfl, fun _ _ => rfl, h1, h2⟩, fun h => ?_, fun h => ⟨⟨fun _ _ => rfl, h3⟩, fun _ => trivial, fun h4 => ?_, fun h4 => ?_⟩⟩
    · have hv : L.validPiece p = false := notT h
      have e : L.fitsE p l s = 30 := by unfold L.fitsE; rw [hv]; rfl
      unfold L.fitsV; rw [e]; exact ⟨rfl, rfl⟩
    · have hv : L.validPiece p = true := notF h
      have h4 : (bif !L.validOutline l then true else !L.validSet s p.gauges.n) = true := h4
      have e : L.fitsE p l s = 1 := by unfold L.fitsE; rw [hv, h4]; rfl
      unfold L.fitsV; rw [e]; exact ⟨rfl, rfl⟩
    · have hv : L.validPiece p = true := notF h
      have h4 : (bif !L.validOutline l then true else !L.validSet s p.gauges.n) = false := h4
      have e : L.fitsE p l s = 0 := by unfold L.fitsE; rw [hv, h4]; rfl
      rw [bor, Bool.or_eq_false_iff] at h4
      have hs := validSet_iff.1 (notF h4.2)
      refine ⟨⟨fun _ _ => rfl, fun _ _ => rfl, fun _ _ => rfl, notF h4.1, piece_gauges hv, hs.2.1, hs.2.2⟩, ?_, e.symm⟩
      unfold L.fitsV; rw [e]; rfl)
theorem r3_Fits_ok : SpecOk Try.prog 40 r3_Fits_S := fnX Try.func40 (c := bodyOf Try.f40) (by kernel_rfl) mixed (fun args p r hs hp => by
  unfold r3_Fits_s at hs
  split at hs
  · cases hs; exact ⟨_, _, r3_Fits_vc _ _ _ hp.2.2.2, (.p (.agg rfl (fun i hi => by
      rcases i with _ | i
      · exact (Ext.refl _ : Ext _ _)
      rcases i with _ | i
      · exact (Ext.refl _ : Ext _ _)
      rcases i with _ | i
      · exact (Ext.refl _ : Ext _ _)
      rcases i with _ | i
      · exact (Ext.refl _ : Ext _ _)
      rcases i with _ | i
      · exact (Ext.refl _ : Ext _ _)
      rcases i with _ | i
      · exact (Ext.sl hp.1 : Ext _ _)
      rcases i with _ | i
      · exact (Ext.sl hp.2.1 : Ext _ _)
      exact absurd hi (by simp; try omega))) (.p (.sl hp.2.2.1) (.same _ .nil))), ⟨show SpecsL Try.prog _ from (SpecsL.cons r3_ValidPiece_ok r3_ValidPiece_en (SpecsL.cons r1_ValidOutline_ok r1_ValidOutline_en (SpecsL.cons r1_ValidSetting_ok r1_ValidSetting_en (SpecsL.cons r3_fits_ok r3_fits_en SpecsL.nil)))), rfl, ⟨show ItersL Try.prog _ from ItersL.nil, (TrsOk.none (fun _ => rfl))⟩⟩⟩
  · cases hs)
theorem r3_Fits_en : Enters Try.prog 40 := fun args w => by kernel_rfl
def r3_Settings_p (p : L.Piece) (l : (L.Sq L.Pt)) : Prop := p.gauges.n ≤ 1000000 ∧ p.marks.n ≤ 1000000 ∧ l.n ≤ 1000000
def r3_Settings_r (p : L.Piece) (l : (L.Sq L.Pt)) : SV := .tup [.sl 2 (L.setN p l) (fun k => [.int .i64 ((L.setG p l k).shift), .bool ((L.setG p l k).back)]), .int .i64 (L.setE p l)]
def r3_Settings_s : List EV → Option (Prop × SV)
  | [.p (.agg [.int .i64 p_id, .int .i64 p_colour, .int .i64 p_rev, .int .i64 p_made, .int .i64 p_swell, .sl 5 p_gauges_n p_gauges_g, .sl 3 p_marks_n p_marks_g]), .p (.sl 2 l_n l_g)] => some ((∀ i, i < p_gauges_n → p_gauges_g i = [.int .i64 ((ofGauge (p_gauges_g i)).edge.lo), .int .i64 ((ofGauge (p_gauges_g i)).edge.hi), .int .i64 ((ofGauge (p_gauges_g i)).across.lo), .int .i64 ((ofGauge (p_gauges_g i)).across.hi), .int .i64 ((ofGauge (p_gauges_g i)).bend)]) ∧ (∀ i, i < p_marks_n → p_marks_g i = [.int .i64 ((ofMark (p_marks_g i)).edge), .int .i64 ((ofMark (p_marks_g i)).place), .int .i64 ((ofMark (p_marks_g i)).tone)]) ∧ (∀ i, i < l_n → l_g i = [.int .i64 ((ofPt (l_g i)).x), .int .i64 ((ofPt (l_g i)).y)]) ∧ r3_Settings_p (⟨p_id, p_colour, p_rev, p_made, p_swell, (⟨p_gauges_n, fun i => ofGauge (p_gauges_g i)⟩ : (L.Sq L.Gauge)), (⟨p_marks_n, fun i => ofMark (p_marks_g i)⟩ : (L.Sq L.Mark))⟩ : L.Piece) (⟨l_n, fun i => ofPt (l_g i)⟩ : (L.Sq L.Pt)), r3_Settings_r (⟨p_id, p_colour, p_rev, p_made, p_swell, (⟨p_gauges_n, fun i => ofGauge (p_gauges_g i)⟩ : (L.Sq L.Gauge)), (⟨p_marks_n, fun i => ofMark (p_marks_g i)⟩ : (L.Sq L.Mark))⟩ : L.Piece) (⟨l_n, fun i => ofPt (l_g i)⟩ : (L.Sq L.Pt)))
  | _ => none
abbrev r3_Settings_S : SE.Spec := (specO r3_Settings_s)
def r3_Settings_C : Cfg := { muts := [], frz := lookN [], specs := lookS [(16, r3_ValidPiece_S), (44, r1_ValidOutline_S), (86, r1_All_S), (84, r3_fits_S)], loops := fun _ => none, iters := lookI [], rfs := lookR [], nils := lookM [(6, [(6, 28, 65, 2)])] }
theorem r3_Settings_vc (p : L.Piece) (l : (L.Sq L.Pt)) (hp : r3_Settings_p p l) : vc Try.prog ({ r3_Settings_C with loops := lookL [(8, { T := Nat, keep := [1, 2, 6, 7], keepO := [], chg := fun i => [(8, .p (.int .i64 (i : Int)))], own := fun i => [(28, .row 65 2 (L.cnt (L.fitK p l) i) (fun k => [.int .i64 ((L.sett (L.selN (L.fitK p l) i k)).shift), .bool ((L.sett (L.selN (L.fitK p l) i k)).back)]))], inv := fun i => i ≤ 2 * p.gauges.n, mu := fun i => 2 * p.gauges.n - i })], rfs := lookR [] }) (bodyOf Try.f42) (st0 Try.f42 [.p (.agg [.int .i64 p.id, .int .i64 p.colour, .int .i64 p.rev, .int .i64 p.made, .int .i64 p.swell, .sl 5 p.gauges.n (fun i => [.int .i64 ((p.gauges.g i).edge.lo), .int .i64 ((p.gauges.g i).edge.hi), .int .i64 ((p.gauges.g i).across.lo), .int .i64 ((p.gauges.g i).across.hi), .int .i64 ((p.gauges.g i).bend)]), .sl 3 p.marks.n (fun i => [.int .i64 ((p.marks.g i).edge), .int .i64 ((p.marks.g i).place), .int .i64 ((p.marks.g i).tone)])]), .p (.sl 2 l.n (fun i => [.int .i64 ((l.g i).x), .int .i64 ((l.g i).y)]))]) (retFn Try.prog Try.f42 (r3_Settings_r p l)) :=
  @Eq.mpr _ (((∀ (i : Nat), i < p.gauges.n → [Go.SE.SV.int Go.IntKind.i64 (p.gauges.g i).edge.lo, Go.SE.SV.int Go.IntKind.i64 (p.gauges.g i).edge.hi, Go.SE.SV.int Go.IntKind.i64 (p.gauges.g i).across.lo, Go.SE.SV.int Go.IntKind.i64 (p.gauges.g i).across.hi, Go.SE.SV.int Go.IntKind.i64 (p.gauges.g i).bend] = [Go.SE.SV.int Go.IntKind.i64 (p.gauges.g i).edge.lo, Go.SE.SV.int Go.IntKind.i64 (p.gauges.g i).edge.hi,
 Go.SE.SV.int Go.IntKind.i64 (p.gauges.g i).across.lo, Go.SE.SV.int Go.IntKind.i64 (p.gauges.g i).across.hi, Go.SE.SV.int Go.IntKind.i64 (p.gauges.g i).bend]) ∧ (∀ (i : Nat), i < p.marks.n → [Go.SE.SV.int Go.IntKind.i64 (p.marks.g i).edge, Go.SE.SV.int Go.IntKind.i64 (p.marks.g i).place, Go.SE.SV.int Go.IntKind.i64 (p.marks.g i).tone] = [Go.SE.SV.int Go.IntKind.i64 (p.marks.g i).edge, Go.SE.SV.int
 Go.IntKind.i64 (p.marks.g i).place, Go.SE.SV.int Go.IntKind.i64 (p.marks.g i).tone]) ∧ p.gauges.n ≤ (1000000 : Nat) ∧ p.marks.n ≤ (1000000 : Nat)) ∧ ((!L.validPiece (L.Piece.mk p.id p.colour p.rev p.made p.swell (L.Sq.mk p.gauges.n fun (i : Nat) ↦ p.gauges.g i) (L.Sq.mk p.marks.n fun (i : Nat) ↦ p.marks.g i))) = Bool.true → L.setN p l = (0 : Nat) ∧ (30 : Int) = L.setE p l) ∧ ((!L.validPiece
 (L.Piece.mk p.id p.colour p.rev p.made p.swell (L.Sq.mk p.gauges.n fun (i : Nat) ↦ p.gauges.g i) (L.Sq.mk p.marks.n fun (i : Nat) ↦ p.marks.g i))) = Bool.false → ((∀ (i : Nat), i < l.n → [Go.SE.SV.int Go.IntKind.i64 (l.g i).x, Go.SE.SV.int Go.IntKind.i64 (l.g i).y] = [Go.SE.SV.int Go.IntKind.i64 (l.g i).x, Go.SE.SV.int Go.IntKind.i64 (l.g i).y]) ∧ l.n ≤ (1000000 : Nat)) ∧ ((!L.validOutline
 (L.Sq.mk l.n fun (i : Nat) ↦ l.g i)) = Bool.true → L.setN p l = (0 : Nat) ∧ (1 : Int) = L.setE p l) ∧ ((!L.validOutline (L.Sq.mk l.n fun (i : Nat) ↦ l.g i)) = Bool.false → ((0 : Int) ≤ (↑p.gauges.n : Int) ∧ (↑p.gauges.n : Int) ≤ (1000 : Int)) ∧ ∀ (t : Nat), True → (∃ (g : Nat), (0 : Int) = (↑g : Int) ∧ (nat_lit 0 = L.cnt (L.fitK p l) g ∧ ∀ (i : Nat), i < nat_lit 0 → [] = [Go.SE.SV.int
 Go.IntKind.i64 (L.sett (L.selN (L.fitK p l) g i)).shift, Go.SE.SV.bool (L.sett (L.selN (L.fitK p l) g i)).back]) ∧ g ≤ (2 : Nat) * p.gauges.n) ∧ ∀ (g : Nat), g ≤ (2 : Nat) * p.gauges.n → (Decidable.decide ((↑g : Int) < (↑(Int.toNat ((2 : Int) * (↑p.gauges.n : Int))) : Int)) = Bool.true → ((0 : Int) ≤ (↑g : Int) ∧ (↑g : Int) < (↑(Int.toNat ((2 : Int) * (↑p.gauges.n : Int))) : Int)) ∧ ((∀ (i : Nat),
 i < p.gauges.n → [Go.SE.SV.int Go.IntKind.i64 (p.gauges.g i).edge.lo, Go.SE.SV.int Go.IntKind.i64 (p.gauges.g i).edge.hi, Go.SE.SV.int Go.IntKind.i64 (p.gauges.g i).across.lo, Go.SE.SV.int Go.IntKind.i64 (p.gauges.g i).across.hi, Go.SE.SV.int Go.IntKind.i64 (p.gauges.g i).bend] = [Go.SE.SV.int Go.IntKind.i64 (p.gauges.g i).edge.lo, Go.SE.SV.int Go.IntKind.i64 (p.gauges.g i).edge.hi, Go.SE.SV.int
 Go.IntKind.i64 (p.gauges.g i).across.lo, Go.SE.SV.int Go.IntKind.i64 (p.gauges.g i).across.hi, Go.SE.SV.int Go.IntKind.i64 (p.gauges.g i).bend]) ∧ (∀ (i : Nat), i < p.marks.n → [Go.SE.SV.int Go.IntKind.i64 (p.marks.g i).edge, Go.SE.SV.int Go.IntKind.i64 (p.marks.g i).place, Go.SE.SV.int Go.IntKind.i64 (p.marks.g i).tone] = [Go.SE.SV.int Go.IntKind.i64 (p.marks.g i).edge, Go.SE.SV.int
 Go.IntKind.i64 (p.marks.g i).place, Go.SE.SV.int Go.IntKind.i64 (p.marks.g i).tone]) ∧ (∀ (i : Nat), i < l.n → [Go.SE.SV.int Go.IntKind.i64 (l.g i).x, Go.SE.SV.int Go.IntKind.i64 (l.g i).y] = [Go.SE.SV.int Go.IntKind.i64 (l.g i).x, Go.SE.SV.int Go.IntKind.i64 (l.g i).y]) ∧ L.fitP (L.Piece.mk p.id p.colour p.rev p.made p.swell (L.Sq.mk p.gauges.n fun (i : Nat) ↦ p.gauges.g i) (L.Sq.mk p.marks.n fun
 (i : Nat) ↦ p.marks.g i)) (L.Sq.mk l.n fun (i : Nat) ↦ l.g i) (L.sett (Int.toNat (↑g : Int)))) ∧ (L.fits (L.Piece.mk p.id p.colour p.rev p.made p.swell (L.Sq.mk p.gauges.n fun (i : Nat) ↦ p.gauges.g i) (L.Sq.mk p.marks.n fun (i : Nat) ↦ p.marks.g i)) (L.Sq.mk l.n fun (i : Nat) ↦ l.g i) (L.sett (Int.toNat (↑g : Int))) = Bool.true → ((0 : Int) ≤ (↑g : Int) ∧ (↑g : Int) < (↑(Int.toNat ((2 : Int) *
 (↑p.gauges.n : Int))) : Int)) ∧ (L.cnt (L.fitK p l) g + nat_lit 1) * nat_lit 16 ≤ (140737488355328 : Nat) ∧ Go.SE.InK Go.IntKind.i64 ((↑g : Int) + (1 : Int)) ∧ ∃ (g' : Nat), (↑g : Int) + (1 : Int) = (↑g' : Int) ∧ (Int.toNat ((2 : Int) * (↑p.gauges.n : Int)) = Int.toNat ((2 : Int) * (↑p.gauges.n : Int)) ∧ ∀ (i : Nat), i < Int.toNat ((2 : Int) * (↑p.gauges.n : Int)) → [Go.SE.SV.int Go.IntKind.i64
 (L.sett i).shift, Go.SE.SV.bool (L.sett i).back] = [Go.SE.SV.int Go.IntKind.i64 (L.sett i).shift, Go.SE.SV.bool (L.sett i).back]) ∧ Go.SE.SV.ref [Go.SE.SV.int Go.IntKind.i64 p.id, Go.SE.SV.int Go.IntKind.i64 p.colour, Go.SE.SV.int Go.IntKind.i64 p.rev, Go.SE.SV.int Go.IntKind.i64 p.made, Go.SE.SV.int Go.IntKind.i64 p.swell, Go.SE.SV.sl (nat_lit 5) p.gauges.n fun (i : Nat) ↦ [Go.SE.SV.int
 Go.IntKind.i64 (p.gauges.g i).edge.lo, Go.SE.SV.int Go.IntKind.i64 (p.gauges.g i).edge.hi, Go.SE.SV.int Go.IntKind.i64 (p.gauges.g i).across.lo, Go.SE.SV.int Go.IntKind.i64 (p.gauges.g i).across.hi, Go.SE.SV.int Go.IntKind.i64 (p.gauges.g i).bend], Go.SE.SV.sl (nat_lit 3) p.marks.n fun (i : Nat) ↦ [Go.SE.SV.int Go.IntKind.i64 (p.marks.g i).edge, Go.SE.SV.int Go.IntKind.i64 (p.marks.g i).place,
 Go.SE.SV.int Go.IntKind.i64 (p.marks.g i).tone]] (nat_lit 0) = Go.SE.SV.ref [Go.SE.SV.int Go.IntKind.i64 p.id, Go.SE.SV.int Go.IntKind.i64 p.colour, Go.SE.SV.int Go.IntKind.i64 p.rev, Go.SE.SV.int Go.IntKind.i64 p.made, Go.SE.SV.int Go.IntKind.i64 p.swell, Go.SE.SV.sl (nat_lit 5) p.gauges.n fun (i : Nat) ↦ [Go.SE.SV.int Go.IntKind.i64 (p.gauges.g i).edge.lo, Go.SE.SV.int Go.IntKind.i64 (p.gauges.g
 i).edge.hi, Go.SE.SV.int Go.IntKind.i64 (p.gauges.g i).across.lo, Go.SE.SV.int Go.IntKind.i64 (p.gauges.g i).across.hi, Go.SE.SV.int Go.IntKind.i64 (p.gauges.g i).bend], Go.SE.SV.sl (nat_lit 3) p.marks.n fun (i : Nat) ↦ [Go.SE.SV.int Go.IntKind.i64 (p.marks.g i).edge, Go.SE.SV.int Go.IntKind.i64 (p.marks.g i).place, Go.SE.SV.int Go.IntKind.i64 (p.marks.g i).tone]] (nat_lit 0) ∧ (l.n = l.n ∧ ∀ (i :
 Nat), i < l.n → [Go.SE.SV.int Go.IntKind.i64 (l.g i).x, Go.SE.SV.int Go.IntKind.i64 (l.g i).y] = [Go.SE.SV.int Go.IntKind.i64 (l.g i).x, Go.SE.SV.int Go.IntKind.i64 (l.g i).y]) ∧ (L.cnt (L.fitK p l) g + nat_lit 1 = L.cnt (L.fitK p l) g' ∧ ∀ (i : Nat), i < L.cnt (L.fitK p l) g + nat_lit 1 → Go.SE.appGet (L.cnt (L.fitK p l) g) (fun (k : Nat) ↦ [Go.SE.SV.int Go.IntKind.i64 (L.sett (L.selN (L.fitK p
 l) g k)).shift, Go.SE.SV.bool (L.sett (L.selN (L.fitK p l) g k)).back]) (fun (x : Nat) ↦ [Go.SE.SV.int Go.IntKind.i64 (L.sett (Int.toNat (↑g : Int))).shift, Go.SE.SV.bool (L.sett (Int.toNat (↑g : Int))).back]) i = [Go.SE.SV.int Go.IntKind.i64 (L.sett (L.selN (L.fitK p l) g' i)).shift, Go.SE.SV.bool (L.sett (L.selN (L.fitK p l) g' i)).back]) ∧ g' ≤ (2 : Nat) * p.gauges.n ∧ (2 : Nat) * p.gauges.n -
 g' < (2 : Nat) * p.gauges.n - g) ∧ (L.fits (L.Piece.mk p.id p.colour p.rev p.made p.swell (L.Sq.mk p.gauges.n fun (i : Nat) ↦ p.gauges.g i) (L.Sq.mk p.marks.n fun (i : Nat) ↦ p.marks.g i)) (L.Sq.mk l.n fun (i : Nat) ↦ l.g i) (L.sett (Int.toNat (↑g : Int))) = Bool.false → Go.SE.InK Go.IntKind.i64 ((↑g : Int) + (1 : Int)) ∧ ∃ (g' : Nat), (↑g : Int) + (1 : Int) = (↑g' : Int) ∧ (Int.toNat ((2 : Int) *
 (↑p.gauges.n : Int)) = Int.toNat ((2 : Int) * (↑p.gauges.n : Int)) ∧ ∀ (i : Nat), i < Int.toNat ((2 : Int) * (↑p.gauges.n : Int)) → [Go.SE.SV.int Go.IntKind.i64 (L.sett i).shift, Go.SE.SV.bool (L.sett i).back] = [Go.SE.SV.int Go.IntKind.i64 (L.sett i).shift, Go.SE.SV.bool (L.sett i).back]) ∧ Go.SE.SV.ref [Go.SE.SV.int Go.IntKind.i64 p.id, Go.SE.SV.int Go.IntKind.i64 p.colour, Go.SE.SV.int
 Go.IntKind.i64 p.rev, Go.SE.SV.int Go.IntKind.i64 p.made, Go.SE.SV.int Go.IntKind.i64 p.swell, Go.SE.SV.sl (nat_lit 5) p.gauges.n fun (i : Nat) ↦ [Go.SE.SV.int Go.IntKind.i64 (p.gauges.g i).edge.lo, Go.SE.SV.int Go.IntKind.i64 (p.gauges.g i).edge.hi, Go.SE.SV.int Go.IntKind.i64 (p.gauges.g i).across.lo, Go.SE.SV.int Go.IntKind.i64 (p.gauges.g i).across.hi, Go.SE.SV.int Go.IntKind.i64 (p.gauges.g
 i).bend], Go.SE.SV.sl (nat_lit 3) p.marks.n fun (i : Nat) ↦ [Go.SE.SV.int Go.IntKind.i64 (p.marks.g i).edge, Go.SE.SV.int Go.IntKind.i64 (p.marks.g i).place, Go.SE.SV.int Go.IntKind.i64 (p.marks.g i).tone]] (nat_lit 0) = Go.SE.SV.ref [Go.SE.SV.int Go.IntKind.i64 p.id, Go.SE.SV.int Go.IntKind.i64 p.colour, Go.SE.SV.int Go.IntKind.i64 p.rev, Go.SE.SV.int Go.IntKind.i64 p.made, Go.SE.SV.int
 Go.IntKind.i64 p.swell, Go.SE.SV.sl (nat_lit 5) p.gauges.n fun (i : Nat) ↦ [Go.SE.SV.int Go.IntKind.i64 (p.gauges.g i).edge.lo, Go.SE.SV.int Go.IntKind.i64 (p.gauges.g i).edge.hi, Go.SE.SV.int Go.IntKind.i64 (p.gauges.g i).across.lo, Go.SE.SV.int Go.IntKind.i64 (p.gauges.g i).across.hi, Go.SE.SV.int Go.IntKind.i64 (p.gauges.g i).bend], Go.SE.SV.sl (nat_lit 3) p.marks.n fun (i : Nat) ↦
 [Go.SE.SV.int Go.IntKind.i64 (p.marks.g i).edge, Go.SE.SV.int Go.IntKind.i64 (p.marks.g i).place, Go.SE.SV.int Go.IntKind.i64 (p.marks.g i).tone]] (nat_lit 0) ∧ (l.n = l.n ∧ ∀ (i : Nat), i < l.n → [Go.SE.SV.int Go.IntKind.i64 (l.g i).x, Go.SE.SV.int Go.IntKind.i64 (l.g i).y] = [Go.SE.SV.int Go.IntKind.i64 (l.g i).x, Go.SE.SV.int Go.IntKind.i64 (l.g i).y]) ∧ (L.cnt (L.fitK p l) g = L.cnt (L.fitK p
 l) g' ∧ ∀ (i : Nat), i < L.cnt (L.fitK p l) g → [Go.SE.SV.int Go.IntKind.i64 (L.sett (L.selN (L.fitK p l) g i)).shift, Go.SE.SV.bool (L.sett (L.selN (L.fitK p l) g i)).back] = [Go.SE.SV.int Go.IntKind.i64 (L.sett (L.selN (L.fitK p l) g' i)).shift, Go.SE.SV.bool (L.sett (L.selN (L.fitK p l) g' i)).back]) ∧ g' ≤ (2 : Nat) * p.gauges.n ∧ (2 : Nat) * p.gauges.n - g' < (2 : Nat) * p.gauges.n - g)) ∧
 (Decidable.decide ((↑g : Int) < (↑(Int.toNat ((2 : Int) * (↑p.gauges.n : Int))) : Int)) = Bool.false → (L.cnt (L.fitK p l) g = L.setN p l ∧ ∀ (i : Nat), i < L.cnt (L.fitK p l) g → [Go.SE.SV.int Go.IntKind.i64 (L.sett (L.selN (L.fitK p l) g i)).shift, Go.SE.SV.bool (L.sett (L.selN (L.fitK p l) g i)).back] = [Go.SE.SV.int Go.IntKind.i64 (L.setG p l i).shift, Go.SE.SV.bool (L.setG p l i).back]) ∧ (0
 : Int) = L.setE p l)))) (by kernel_rfl) (by
    obtain ⟨h1, h2, h3⟩ := hp
    refine ⟨⟨fun _ _ => rfl, fun _ _ => rfl, h1, h2⟩, fun h => ?_, fun h => ⟨⟨fun _ _ => rfl, h3⟩, fun h4 => ?_, fun h4 => ?_⟩⟩
    · have hv : L.validPiece p = false := notT h
      have e : L.setE p l = 30 := by unfold L.setE; rw [hv]; rfl
      unfold L.setN; rw [e]; exact ⟨rfl, rfl⟩
    · have hv : L.validPiece p = true := notF h
      have hv2 : L.validOutline l = false := notT h4
      have e : L.setE p l = 1 := by unfold L.setE; rw [hv, hv2]; rfl
      unfold L.setN; rw [e]; exact ⟨rfl, rfl⟩
    have hv : L.validPiece p = true := notF h
    have hv2 : L.validOutline l = true := notF h4
    have e : L.setE p l = 0 := by unfold L.setE; rw [hv, hv2]; rfl
    have hgg := piece_gauges hv
    obtain ⟨⟨g3, g24⟩, hg⟩ := gauge_ok hgg
    have et : (2 * (p.gauges.n : Int)).toNat = 2 * p.gauges.n := by omega
    rw [et]
    refine ⟨by omega, fun _ _ => ⟨⟨(0 : Nat), rfl, ⟨rfl, fun i hi => absurd hi (Nat.not_lt_zero _)⟩, Nat.zero_le _⟩, fun k hk' => ⟨fun hlt => ?_, fun hge => ?_⟩⟩⟩
    · have hb : (k : Int) < ((2 * p.gauges.n : Nat) : Int) := of_decide_eq_true hlt
      have hk : k < 2 * p.gauges.n := by omega
      have e0 : ((k : Int)).toNat = k := by omega
      have hs := sett_lt hk
      have hc := cnt_le (p := L.fitK p l) (n := k)
      rw [e0]
      refine ⟨⟨by omega, hb⟩, ⟨fun _ _ => rfl, fun _ _ => rfl, fun _ _ => rfl, hv2, hgg, hs.1, hs.2⟩, fun h5 => ?_, fun h5 => ?_⟩
      · have h5 : L.fitK p l k = true := h5
        have c1 := cnt_yes h5
        refine ⟨⟨by omega, hb⟩, show (L.cnt (L.fitK p l) k + 1) * 16 ≤ 140737488355328 by omega, InK.of (by omega) (by omega), k + 1, by omega, ⟨rfl, fun _ _ => rfl⟩, rfl, ⟨rfl, fun _ _ => rfl⟩, ⟨c1.symm, fun i hi => ?_⟩, by omega, by omega⟩
        have hi : i < L.cnt (L.fitK p l) k + 1 := hi
        unfold appGet
        by_cases h' : i < L.cnt (L.fitK p l) k
        · rw [if_pos h', selN_old (Nat.ne_of_lt h')]
        · have : i = L.cnt (L.fitK p l) k := by omega
          rw [if_neg h', this, selN_new h5]
      · have h5 : L.fitK p l k = false := h5
        exact ⟨InK.of (by omega) (by omega), k + 1, by omega, ⟨rfl, fun _ _ => rfl⟩, rfl, ⟨rfl, fun _ _ => rfl⟩, ⟨(cnt_not h5).symm, fun i hi => by rw [selN_not h5]⟩, by omega, by omega⟩
    · have hb : ¬ (k : Int) < ((2 * p.gauges.n : Nat) : Int) := of_decide_eq_false hge
      obtain rfl : k = 2 * p.gauges.n := by omega
      refine ⟨⟨?_, fun _ _ => rfl⟩, e.symm⟩
      unfold L.setN; rw [e]; rfl)
theorem r3_Settings_ok : SpecOk Try.prog 42 r3_Settings_S := fnX Try.func42 (c := bodyOf Try.f42) (by kernel_rfl) mixed (fun args p r hs hp => by
  unfold r3_Settings_s at hs
  split at hs
  · cases hs; exact ⟨_, _, r3_Settings_vc _ _ hp.2.2.2, (.p (.agg rfl (fun i hi => by
      rcases i with _ | i
      · exact (Ext.refl _ : Ext _ _)
      rcases i with _ | i
      · exact (Ext.refl _ : Ext _ _)
      rcases i with _ | i
      · exact (Ext.refl _ : Ext _ _)
      rcases i with _ | i
      · exact (Ext.refl _ : Ext _ _)
      rcases i with _ | i
      · exact (Ext.refl _ : Ext _ _)
      rcases i with _ | i
      · exact (Ext.sl hp.1 : Ext _ _)
      rcases i with _ | i
      · exact (Ext.sl hp.2.1 : Ext _ _)
      exact absurd hi (by simp; try omega))) (.p (.sl hp.2.2.1) .nil)), ⟨show SpecsL Try.prog _ from (SpecsL.cons r3_ValidPiece_ok r3_ValidPiece_en (SpecsL.cons r1_ValidOutline_ok r1_ValidOutline_en (SpecsL.cons r1_All_ok r1_All_en (SpecsL.cons r3_fits_ok r3_fits_en SpecsL.nil)))), rfl, ⟨show ItersL Try.prog _ from ItersL.nil, (TrsOk.none (fun _ => rfl))⟩⟩⟩
  · cases hs)
theorem r3_Settings_en : Enters Try.prog 42 := fun args w => by kernel_rfl
def w_GlassFits_p (p : L.Piece) (l : (L.Sq L.Pt)) (s : L.Setting) : Prop := True
def w_GlassFits_r (p : L.Piece) (l : (L.Sq L.Pt)) (s : L.Setting) : SV := .bool true
def w_GlassFits_s : List EV → Option (Prop × SV)
  | [.p (.agg [.int .i64 p_id, .int .i64 p_colour, .int .i64 p_rev, .int .i64 p_made, .int .i64 p_swell, .sl 5 p_gauges_n p_gauges_g, .sl 3 p_marks_n p_marks_g]), .p (.sl 2 l_n l_g), .p (.agg [.int .i64 s_shift, .bool s_back])] => some ((∀ i, i < p_gauges_n → p_gauges_g i = [.int .i64 ((ofGauge (p_gauges_g i)).edge.lo), .int .i64 ((ofGauge (p_gauges_g i)).edge.hi), .int .i64 ((ofGauge (p_gauges_g i)).across.lo), .int .i64 ((ofGauge (p_gauges_g i)).across.hi), .int .i64 ((ofGauge (p_gauges_g i)).bend)]) ∧ (∀ i, i < p_marks_n → p_marks_g i = [.int .i64 ((ofMark (p_marks_g i)).edge), .int .i64 ((ofMark (p_marks_g i)).place), .int .i64 ((ofMark (p_marks_g i)).tone)]) ∧ (∀ i, i < l_n → l_g i = [.int .i64 ((ofPt (l_g i)).x), .int .i64 ((ofPt (l_g i)).y)]) ∧ w_GlassFits_p (⟨p_id, p_colour, p_rev, p_made, p_swell, (⟨p_gauges_n, fun i => ofGauge (p_gauges_g i)⟩ : (L.Sq L.Gauge)), (⟨p_marks_n, fun i => ofMark (p_marks_g i)⟩ : (L.Sq L.Mark))⟩ : L.Piece) (⟨l_n, fun i => ofPt (l_g i)⟩ : (L.Sq L.Pt)) (⟨s_shift, s_back⟩ : L.Setting), w_GlassFits_r (⟨p_id, p_colour, p_rev, p_made, p_swell, (⟨p_gauges_n, fun i => ofGauge (p_gauges_g i)⟩ : (L.Sq L.Gauge)), (⟨p_marks_n, fun i => ofMark (p_marks_g i)⟩ : (L.Sq L.Mark))⟩ : L.Piece) (⟨l_n, fun i => ofPt (l_g i)⟩ : (L.Sq L.Pt)) (⟨s_shift, s_back⟩ : L.Setting))
  | _ => none
abbrev w_GlassFits_S : SE.Spec := (specO w_GlassFits_s)
def w_GlassFits_C : Cfg := { muts := [], frz := lookN [], specs := lookS [(12, w_awake_S), (14, w_few_S), (39, g_Fits_S), (40, r3_Fits_S), (41, g_Settings_S), (42, r3_Settings_S), (43, r1_SameSettings_S)], loops := lookL [], iters := lookI [], rfs := lookR [], nils := lookM [] }
theorem w_GlassFits_vc (p : L.Piece) (l : (L.Sq L.Pt)) (s : L.Setting) (hp : w_GlassFits_p p l s) : vc Try.prog (w_GlassFits_C) (bodyOf Try.f9) (st0 Try.f9 [.p (.agg [.int .i64 p.id, .int .i64 p.colour, .int .i64 p.rev, .int .i64 p.made, .int .i64 p.swell, .sl 5 p.gauges.n (fun i => [.int .i64 ((p.gauges.g i).edge.lo), .int .i64 ((p.gauges.g i).edge.hi), .int .i64 ((p.gauges.g i).across.lo), .int .i64 ((p.gauges.g i).across.hi), .int .i64 ((p.gauges.g i).bend)]), .sl 3 p.marks.n (fun i => [.int .i64 ((p.marks.g i).edge), .int .i64 ((p.marks.g i).place), .int .i64 ((p.marks.g i).tone)])]), .p (.sl 2 l.n (fun i => [.int .i64 ((l.g i).x), .int .i64 ((l.g i).y)])), .p (.agg [.int .i64 s.shift, .bool s.back])]) (retFn Try.prog Try.f9 (w_GlassFits_r p l s)) :=
  @Eq.mpr _ (True ∧ ((∀ (i : Nat), i < p.gauges.n → [Go.SE.SV.int Go.IntKind.i64 (p.gauges.g i).edge.lo, Go.SE.SV.int Go.IntKind.i64 (p.gauges.g i).edge.hi, Go.SE.SV.int Go.IntKind.i64 (p.gauges.g i).across.lo, Go.SE.SV.int Go.IntKind.i64 (p.gauges.g i).across.hi, Go.SE.SV.int Go.IntKind.i64 (p.gauges.g i).bend] = [Go.SE.SV.int Go.IntKind.i64 (p.gauges.g i).edge.lo, Go.SE.SV.int Go.IntKind.i64 (p.gauges.g
 i).edge.hi, Go.SE.SV.int Go.IntKind.i64 (p.gauges.g i).across.lo, Go.SE.SV.int Go.IntKind.i64 (p.gauges.g i).across.hi, Go.SE.SV.int Go.IntKind.i64 (p.gauges.g i).bend]) ∧ (∀ (i : Nat), i < p.marks.n → [Go.SE.SV.int Go.IntKind.i64 (p.marks.g i).edge, Go.SE.SV.int Go.IntKind.i64 (p.marks.g i).place, Go.SE.SV.int Go.IntKind.i64 (p.marks.g i).tone] = [Go.SE.SV.int Go.IntKind.i64 (p.marks.g i).edge,
 Go.SE.SV.int Go.IntKind.i64 (p.marks.g i).place, Go.SE.SV.int Go.IntKind.i64 (p.marks.g i).tone]) ∧ (∀ (i : Nat), i < l.n → [Go.SE.SV.int Go.IntKind.i64 (l.g i).x, Go.SE.SV.int Go.IntKind.i64 (l.g i).y] = [Go.SE.SV.int Go.IntKind.i64 (l.g i).x, Go.SE.SV.int Go.IntKind.i64 (l.g i).y]) ∧ True) ∧ ((!L.few (L.Piece.mk p.id p.colour p.rev p.made p.swell (L.Sq.mk p.gauges.n fun (i : Nat) ↦ p.gauges.g i)
 (L.Sq.mk p.marks.n fun (i : Nat) ↦ p.marks.g i)) (L.Sq.mk l.n fun (i : Nat) ↦ l.g i)) = Bool.true → Bool.true = Bool.true) ∧ ((!L.few (L.Piece.mk p.id p.colour p.rev p.made p.swell (L.Sq.mk p.gauges.n fun (i : Nat) ↦ p.gauges.g i) (L.Sq.mk p.marks.n fun (i : Nat) ↦ p.marks.g i)) (L.Sq.mk l.n fun (i : Nat) ↦ l.g i)) = Bool.false → ((∀ (i : Nat), i < p.gauges.n → [Go.SE.SV.int Go.IntKind.i64
 (p.gauges.g i).edge.lo, Go.SE.SV.int Go.IntKind.i64 (p.gauges.g i).edge.hi, Go.SE.SV.int Go.IntKind.i64 (p.gauges.g i).across.lo, Go.SE.SV.int Go.IntKind.i64 (p.gauges.g i).across.hi, Go.SE.SV.int Go.IntKind.i64 (p.gauges.g i).bend] = [Go.SE.SV.int Go.IntKind.i64 (p.gauges.g i).edge.lo, Go.SE.SV.int Go.IntKind.i64 (p.gauges.g i).edge.hi, Go.SE.SV.int Go.IntKind.i64 (p.gauges.g i).across.lo,
 Go.SE.SV.int Go.IntKind.i64 (p.gauges.g i).across.hi, Go.SE.SV.int Go.IntKind.i64 (p.gauges.g i).bend]) ∧ (∀ (i : Nat), i < p.marks.n → [Go.SE.SV.int Go.IntKind.i64 (p.marks.g i).edge, Go.SE.SV.int Go.IntKind.i64 (p.marks.g i).place, Go.SE.SV.int Go.IntKind.i64 (p.marks.g i).tone] = [Go.SE.SV.int Go.IntKind.i64 (p.marks.g i).edge, Go.SE.SV.int Go.IntKind.i64 (p.marks.g i).place, Go.SE.SV.int
 Go.IntKind.i64 (p.marks.g i).tone]) ∧ (∀ (i : Nat), i < l.n → [Go.SE.SV.int Go.IntKind.i64 (l.g i).x, Go.SE.SV.int Go.IntKind.i64 (l.g i).y] = [Go.SE.SV.int Go.IntKind.i64 (l.g i).x, Go.SE.SV.int Go.IntKind.i64 (l.g i).y]) ∧ p.gauges.n ≤ (1000000 : Nat) ∧ p.marks.n ≤ (1000000 : Nat) ∧ l.n ≤ (1000000 : Nat)) ∧ ((∀ (i : Nat), i < p.gauges.n → [Go.SE.SV.int Go.IntKind.i64 (p.gauges.g i).edge.lo,
 Go.SE.SV.int Go.IntKind.i64 (p.gauges.g i).edge.hi, Go.SE.SV.int Go.IntKind.i64 (p.gauges.g i).across.lo, Go.SE.SV.int Go.IntKind.i64 (p.gauges.g i).across.hi, Go.SE.SV.int Go.IntKind.i64 (p.gauges.g i).bend] = [Go.SE.SV.int Go.IntKind.i64 (p.gauges.g i).edge.lo, Go.SE.SV.int Go.IntKind.i64 (p.gauges.g i).edge.hi, Go.SE.SV.int Go.IntKind.i64 (p.gauges.g i).across.lo, Go.SE.SV.int Go.IntKind.i64
 (p.gauges.g i).across.hi, Go.SE.SV.int Go.IntKind.i64 (p.gauges.g i).bend]) ∧ (∀ (i : Nat), i < p.marks.n → [Go.SE.SV.int Go.IntKind.i64 (p.marks.g i).edge, Go.SE.SV.int Go.IntKind.i64 (p.marks.g i).place, Go.SE.SV.int Go.IntKind.i64 (p.marks.g i).tone] = [Go.SE.SV.int Go.IntKind.i64 (p.marks.g i).edge, Go.SE.SV.int Go.IntKind.i64 (p.marks.g i).place, Go.SE.SV.int Go.IntKind.i64 (p.marks.g
 i).tone]) ∧ (∀ (i : Nat), i < l.n → [Go.SE.SV.int Go.IntKind.i64 (l.g i).x, Go.SE.SV.int Go.IntKind.i64 (l.g i).y] = [Go.SE.SV.int Go.IntKind.i64 (l.g i).x, Go.SE.SV.int Go.IntKind.i64 (l.g i).y]) ∧ p.gauges.n ≤ (1000000 : Nat) ∧ p.marks.n ≤ (1000000 : Nat) ∧ l.n ≤ (1000000 : Nat)) ∧ ((∀ (i : Nat), i < p.gauges.n → [Go.SE.SV.int Go.IntKind.i64 (p.gauges.g i).edge.lo, Go.SE.SV.int Go.IntKind.i64
 (p.gauges.g i).edge.hi, Go.SE.SV.int Go.IntKind.i64 (p.gauges.g i).across.lo, Go.SE.SV.int Go.IntKind.i64 (p.gauges.g i).across.hi, Go.SE.SV.int Go.IntKind.i64 (p.gauges.g i).bend] = [Go.SE.SV.int Go.IntKind.i64 (p.gauges.g i).edge.lo, Go.SE.SV.int Go.IntKind.i64 (p.gauges.g i).edge.hi, Go.SE.SV.int Go.IntKind.i64 (p.gauges.g i).across.lo, Go.SE.SV.int Go.IntKind.i64 (p.gauges.g i).across.hi,
 Go.SE.SV.int Go.IntKind.i64 (p.gauges.g i).bend]) ∧ (∀ (i : Nat), i < p.marks.n → [Go.SE.SV.int Go.IntKind.i64 (p.marks.g i).edge, Go.SE.SV.int Go.IntKind.i64 (p.marks.g i).place, Go.SE.SV.int Go.IntKind.i64 (p.marks.g i).tone] = [Go.SE.SV.int Go.IntKind.i64 (p.marks.g i).edge, Go.SE.SV.int Go.IntKind.i64 (p.marks.g i).place, Go.SE.SV.int Go.IntKind.i64 (p.marks.g i).tone]) ∧ (∀ (i : Nat), i < l.n
 → [Go.SE.SV.int Go.IntKind.i64 (l.g i).x, Go.SE.SV.int Go.IntKind.i64 (l.g i).y] = [Go.SE.SV.int Go.IntKind.i64 (l.g i).x, Go.SE.SV.int Go.IntKind.i64 (l.g i).y]) ∧ p.gauges.n ≤ (1000000 : Nat) ∧ p.marks.n ≤ (1000000 : Nat) ∧ l.n ≤ (1000000 : Nat)) ∧ ((∀ (i : Nat), i < p.gauges.n → [Go.SE.SV.int Go.IntKind.i64 (p.gauges.g i).edge.lo, Go.SE.SV.int Go.IntKind.i64 (p.gauges.g i).edge.hi, Go.SE.SV.int
 Go.IntKind.i64 (p.gauges.g i).across.lo, Go.SE.SV.int Go.IntKind.i64 (p.gauges.g i).across.hi, Go.SE.SV.int Go.IntKind.i64 (p.gauges.g i).bend] = [Go.SE.SV.int Go.IntKind.i64 (p.gauges.g i).edge.lo, Go.SE.SV.int Go.IntKind.i64 (p.gauges.g i).edge.hi, Go.SE.SV.int Go.IntKind.i64 (p.gauges.g i).across.lo, Go.SE.SV.int Go.IntKind.i64 (p.gauges.g i).across.hi, Go.SE.SV.int Go.IntKind.i64 (p.gauges.g
 i).bend]) ∧ (∀ (i : Nat), i < p.marks.n → [Go.SE.SV.int Go.IntKind.i64 (p.marks.g i).edge, Go.SE.SV.int Go.IntKind.i64 (p.marks.g i).place, Go.SE.SV.int Go.IntKind.i64 (p.marks.g i).tone] = [Go.SE.SV.int Go.IntKind.i64 (p.marks.g i).edge, Go.SE.SV.int Go.IntKind.i64 (p.marks.g i).place, Go.SE.SV.int Go.IntKind.i64 (p.marks.g i).tone]) ∧ (∀ (i : Nat), i < l.n → [Go.SE.SV.int Go.IntKind.i64 (l.g
 i).x, Go.SE.SV.int Go.IntKind.i64 (l.g i).y] = [Go.SE.SV.int Go.IntKind.i64 (l.g i).x, Go.SE.SV.int Go.IntKind.i64 (l.g i).y]) ∧ p.gauges.n ≤ (1000000 : Nat) ∧ p.marks.n ≤ (1000000 : Nat) ∧ l.n ≤ (1000000 : Nat)) ∧ ((bif bif bif Bool.true then L.fitsV (L.Piece.mk p.id p.colour p.rev p.made p.swell (L.Sq.mk p.gauges.n fun (i : Nat) ↦ p.gauges.g i) (L.Sq.mk p.marks.n fun (i : Nat) ↦ p.marks.g i))
 (L.Sq.mk l.n fun (i : Nat) ↦ l.g i) s == L.fitsV (L.Piece.mk p.id p.colour p.rev p.made p.swell (L.Sq.mk p.gauges.n fun (i : Nat) ↦ p.gauges.g i) (L.Sq.mk p.marks.n fun (i : Nat) ↦ p.marks.g i)) (L.Sq.mk l.n fun (i : Nat) ↦ l.g i) s else Bool.false then Decidable.decide (L.fitsE (L.Piece.mk p.id p.colour p.rev p.made p.swell (L.Sq.mk p.gauges.n fun (i : Nat) ↦ p.gauges.g i) (L.Sq.mk p.marks.n fun
 (i : Nat) ↦ p.marks.g i)) (L.Sq.mk l.n fun (i : Nat) ↦ l.g i) s = L.fitsE (L.Piece.mk p.id p.colour p.rev p.made p.swell (L.Sq.mk p.gauges.n fun (i : Nat) ↦ p.gauges.g i) (L.Sq.mk p.marks.n fun (i : Nat) ↦ p.marks.g i)) (L.Sq.mk l.n fun (i : Nat) ↦ l.g i) s) else Bool.false then Decidable.decide (L.setE (L.Piece.mk p.id p.colour p.rev p.made p.swell (L.Sq.mk p.gauges.n fun (i : Nat) ↦ p.gauges.g
 i) (L.Sq.mk p.marks.n fun (i : Nat) ↦ p.marks.g i)) (L.Sq.mk l.n fun (i : Nat) ↦ l.g i) = L.setE (L.Piece.mk p.id p.colour p.rev p.made p.swell (L.Sq.mk p.gauges.n fun (i : Nat) ↦ p.gauges.g i) (L.Sq.mk p.marks.n fun (i : Nat) ↦ p.marks.g i)) (L.Sq.mk l.n fun (i : Nat) ↦ l.g i)) else Bool.false) = Bool.true → (∀ (i : Nat), i < L.setN (L.Piece.mk p.id p.colour p.rev p.made p.swell (L.Sq.mk
 p.gauges.n fun (i : Nat) ↦ p.gauges.g i) (L.Sq.mk p.marks.n fun (i : Nat) ↦ p.marks.g i)) (L.Sq.mk l.n fun (i : Nat) ↦ l.g i) → [Go.SE.SV.int Go.IntKind.i64 (L.setG (L.Piece.mk p.id p.colour p.rev p.made p.swell (L.Sq.mk p.gauges.n fun (i : Nat) ↦ p.gauges.g i) (L.Sq.mk p.marks.n fun (i : Nat) ↦ p.marks.g i)) (L.Sq.mk l.n fun (i : Nat) ↦ l.g i) i).shift, Go.SE.SV.bool (L.setG (L.Piece.mk p.id
 p.colour p.rev p.made p.swell (L.Sq.mk p.gauges.n fun (i : Nat) ↦ p.gauges.g i) (L.Sq.mk p.marks.n fun (i : Nat) ↦ p.marks.g i)) (L.Sq.mk l.n fun (i : Nat) ↦ l.g i) i).back] = [Go.SE.SV.int Go.IntKind.i64 (L.setG (L.Piece.mk p.id p.colour p.rev p.made p.swell (L.Sq.mk p.gauges.n fun (i : Nat) ↦ p.gauges.g i) (L.Sq.mk p.marks.n fun (i : Nat) ↦ p.marks.g i)) (L.Sq.mk l.n fun (i : Nat) ↦ l.g i)
 i).shift, Go.SE.SV.bool (L.setG (L.Piece.mk p.id p.colour p.rev p.made p.swell (L.Sq.mk p.gauges.n fun (i : Nat) ↦ p.gauges.g i) (L.Sq.mk p.marks.n fun (i : Nat) ↦ p.marks.g i)) (L.Sq.mk l.n fun (i : Nat) ↦ l.g i) i).back]) ∧ (∀ (i : Nat), i < L.setN (L.Piece.mk p.id p.colour p.rev p.made p.swell (L.Sq.mk p.gauges.n fun (i : Nat) ↦ p.gauges.g i) (L.Sq.mk p.marks.n fun (i : Nat) ↦ p.marks.g i))
 (L.Sq.mk l.n fun (i : Nat) ↦ l.g i) → [Go.SE.SV.int Go.IntKind.i64 (L.setG (L.Piece.mk p.id p.colour p.rev p.made p.swell (L.Sq.mk p.gauges.n fun (i : Nat) ↦ p.gauges.g i) (L.Sq.mk p.marks.n fun (i : Nat) ↦ p.marks.g i)) (L.Sq.mk l.n fun (i : Nat) ↦ l.g i) i).shift, Go.SE.SV.bool (L.setG (L.Piece.mk p.id p.colour p.rev p.made p.swell (L.Sq.mk p.gauges.n fun (i : Nat) ↦ p.gauges.g i) (L.Sq.mk
 p.marks.n fun (i : Nat) ↦ p.marks.g i)) (L.Sq.mk l.n fun (i : Nat) ↦ l.g i) i).back] = [Go.SE.SV.int Go.IntKind.i64 (L.setG (L.Piece.mk p.id p.colour p.rev p.made p.swell (L.Sq.mk p.gauges.n fun (i : Nat) ↦ p.gauges.g i) (L.Sq.mk p.marks.n fun (i : Nat) ↦ p.marks.g i)) (L.Sq.mk l.n fun (i : Nat) ↦ l.g i) i).shift, Go.SE.SV.bool (L.setG (L.Piece.mk p.id p.colour p.rev p.made p.swell (L.Sq.mk
 p.gauges.n fun (i : Nat) ↦ p.gauges.g i) (L.Sq.mk p.marks.n fun (i : Nat) ↦ p.marks.g i)) (L.Sq.mk l.n fun (i : Nat) ↦ l.g i) i).back]) ∧ L.setN (L.Piece.mk p.id p.colour p.rev p.made p.swell (L.Sq.mk p.gauges.n fun (i : Nat) ↦ p.gauges.g i) (L.Sq.mk p.marks.n fun (i : Nat) ↦ p.marks.g i)) (L.Sq.mk l.n fun (i : Nat) ↦ l.g i) ≤ (1000000 : Nat)) ∧ (bif bif bif bif Bool.true then L.fitsV (L.Piece.mk
 p.id p.colour p.rev p.made p.swell (L.Sq.mk p.gauges.n fun (i : Nat) ↦ p.gauges.g i) (L.Sq.mk p.marks.n fun (i : Nat) ↦ p.marks.g i)) (L.Sq.mk l.n fun (i : Nat) ↦ l.g i) s == L.fitsV (L.Piece.mk p.id p.colour p.rev p.made p.swell (L.Sq.mk p.gauges.n fun (i : Nat) ↦ p.gauges.g i) (L.Sq.mk p.marks.n fun (i : Nat) ↦ p.marks.g i)) (L.Sq.mk l.n fun (i : Nat) ↦ l.g i) s else Bool.false then
 Decidable.decide (L.fitsE (L.Piece.mk p.id p.colour p.rev p.made p.swell (L.Sq.mk p.gauges.n fun (i : Nat) ↦ p.gauges.g i) (L.Sq.mk p.marks.n fun (i : Nat) ↦ p.marks.g i)) (L.Sq.mk l.n fun (i : Nat) ↦ l.g i) s = L.fitsE (L.Piece.mk p.id p.colour p.rev p.made p.swell (L.Sq.mk p.gauges.n fun (i : Nat) ↦ p.gauges.g i) (L.Sq.mk p.marks.n fun (i : Nat) ↦ p.marks.g i)) (L.Sq.mk l.n fun (i : Nat) ↦ l.g
 i) s) else Bool.false then Decidable.decide (L.setE (L.Piece.mk p.id p.colour p.rev p.made p.swell (L.Sq.mk p.gauges.n fun (i : Nat) ↦ p.gauges.g i) (L.Sq.mk p.marks.n fun (i : Nat) ↦ p.marks.g i)) (L.Sq.mk l.n fun (i : Nat) ↦ l.g i) = L.setE (L.Piece.mk p.id p.colour p.rev p.made p.swell (L.Sq.mk p.gauges.n fun (i : Nat) ↦ p.gauges.g i) (L.Sq.mk p.marks.n fun (i : Nat) ↦ p.marks.g i)) (L.Sq.mk
 l.n fun (i : Nat) ↦ l.g i)) else Bool.false then L.sameSs (L.Sq.mk (L.setN (L.Piece.mk p.id p.colour p.rev p.made p.swell (L.Sq.mk p.gauges.n fun (i : Nat) ↦ p.gauges.g i) (L.Sq.mk p.marks.n fun (i : Nat) ↦ p.marks.g i)) (L.Sq.mk l.n fun (i : Nat) ↦ l.g i)) fun (i : Nat) ↦ L.setG (L.Piece.mk p.id p.colour p.rev p.made p.swell (L.Sq.mk p.gauges.n fun (i : Nat) ↦ p.gauges.g i) (L.Sq.mk p.marks.n fun
 (i : Nat) ↦ p.marks.g i)) (L.Sq.mk l.n fun (i : Nat) ↦ l.g i) i) (L.Sq.mk (L.setN (L.Piece.mk p.id p.colour p.rev p.made p.swell (L.Sq.mk p.gauges.n fun (i : Nat) ↦ p.gauges.g i) (L.Sq.mk p.marks.n fun (i : Nat) ↦ p.marks.g i)) (L.Sq.mk l.n fun (i : Nat) ↦ l.g i)) fun (i : Nat) ↦ L.setG (L.Piece.mk p.id p.colour p.rev p.made p.swell (L.Sq.mk p.gauges.n fun (i : Nat) ↦ p.gauges.g i) (L.Sq.mk
 p.marks.n fun (i : Nat) ↦ p.marks.g i)) (L.Sq.mk l.n fun (i : Nat) ↦ l.g i) i) else Bool.false) = Bool.true)) (by kernel_rfl) (by
    refine ⟨trivial, ⟨fun _ _ => rfl, fun _ _ => rfl, fun _ _ => rfl, trivial⟩, fun _ => rfl, fun h => ?_⟩
    have hs : p.gauges.n ≤ 60 ∧ p.marks.n ≤ 100 ∧ l.n ≤ 60 := few_iff.1 (notF (b := L.few p l) h)
    have hN : L.setN p l ≤ 1000000 := by
      unfold L.setN
      cases decide (L.setE p l = 0)
      · exact Nat.zero_le _
      · have := cnt_le (p := L.fitK p l) (n := 2 * p.gauges.n)
        show L.cnt (L.fitK p l) (2 * p.gauges.n) ≤ 1000000
        omega
    refine ⟨⟨fun _ _ => rfl, fun _ _ => rfl, fun _ _ => rfl, by omega, by omega, by omega⟩, ⟨fun _ _ => rfl, fun _ _ => rfl, fun _ _ => rfl, by omega, by omega, by omega⟩, ⟨fun _ _ => rfl, fun _ _ => rfl, fun _ _ => rfl, by omega, by omega, by omega⟩, ⟨fun _ _ => rfl, fun _ _ => rfl, fun _ _ => rfl, by omega, by omega, by omega⟩, fun _ => ⟨fun _ _ => rfl, fun _ _ => rfl, hN⟩, ?_⟩
    rw [sameSs_refl]
    simp only [decide_true, beq_self_eq_true, cond_true])
theorem w_GlassFits_ok : SpecOk Try.prog 9 w_GlassFits_S := fnX Try.func9 (c := bodyOf Try.f9) (by kernel_rfl) mixed (fun args p r hs hp => by
  unfold w_GlassFits_s at hs
  split at hs
  · cases hs; exact ⟨_, _, w_GlassFits_vc _ _ _ hp.2.2.2, (.p (.agg rfl (fun i hi => by
      rcases i with _ | i
      · exact (Ext.refl _ : Ext _ _)
      rcases i with _ | i
      · exact (Ext.refl _ : Ext _ _)
      rcases i with _ | i
      · exact (Ext.refl _ : Ext _ _)
      rcases i with _ | i
      · exact (Ext.refl _ : Ext _ _)
      rcases i with _ | i
      · exact (Ext.refl _ : Ext _ _)
      rcases i with _ | i
      · exact (Ext.sl hp.1 : Ext _ _)
      rcases i with _ | i
      · exact (Ext.sl hp.2.1 : Ext _ _)
      exact absurd hi (by simp; try omega))) (.p (.sl hp.2.2.1) (.same _ .nil))), ⟨show SpecsL Try.prog _ from (SpecsL.cons w_awake_ok w_awake_en (SpecsL.cons w_few_ok w_few_en (SpecsL.cons g_Fits_ok g_Fits_en (SpecsL.cons r3_Fits_ok r3_Fits_en (SpecsL.cons g_Settings_ok g_Settings_en (SpecsL.cons r3_Settings_ok r3_Settings_en (SpecsL.cons r1_SameSettings_ok r1_SameSettings_en SpecsL.nil))))))), rfl, ⟨show ItersL Try.prog _ from ItersL.nil, (TrsOk.none (fun _ => rfl))⟩⟩⟩
  · cases hs)
theorem w_GlassFits_en : Enters Try.prog 9 := fun args w => by kernel_rfl
theorem w_GlassFits_B : ∀ args p r, w_GlassFits_s args = some (p, r) → ∃ b, r = .bool b := by
  intro args p r h
  unfold w_GlassFits_s at h
  split at h
  · cases h; exact ⟨_, rfl⟩
  · cases h
end Go.Proofs.Ytipaekbdalahdaa
