/- A symbolic walk over the model, and what it shows of functions of the program: parts of the proof that the text of the row joins. -/
import Derived.Test.YtipaekbdalahdaaW3
import Derived.Test.YtipaekbdalahdaaE3
import Derived.KernelRfl

namespace Go.Proofs.Ytipaekbdalahdaa
open Go.SE Go.RowKit
set_option maxRecDepth 100000
set_option maxHeartbeats 4000000
set_option linter.unusedVariables false
attribute [local irreducible] Go.SE.vc

def L.holdsR (g : L.Gauge) (m : L.Meas) : Bool := bif (bif L.within m.edge g.edge.lo g.edge.hi then L.within m.across g.across.lo g.across.hi else false) then (bif decide (g.bend = 0) then true else decide (g.bend = m.bend)) else false
def L.fits (p : L.Piece) (l : L.Sq L.Pt) (s : L.Setting) : Bool := bif decide ((l.n : Int) = p.gauges.n) then L.allB l.n (fun i => L.holdsR (p.gauges.g i) (L.meas l s i)) else false
def L.fitP (p : L.Piece) (l : L.Sq L.Pt) (s : L.Setting) : Prop := L.validOutline l = true ∧ L.gauges p.gauges = true ∧ 0 ≤ s.shift ∧ s.shift < (p.gauges.n : Int)
def L.sett (k : Nat) : L.Setting := ⟨Int.tdiv (k : Int) 2, decide (Int.tmod (k : Int) 2 = 1)⟩
def L.fitK (p : L.Piece) (l : L.Sq L.Pt) (k : Nat) : Bool := L.fits p l (L.sett k)
def L.validSet (s : L.Setting) (n : Int) : Bool := bif L.within n 3 24 then L.within s.shift 0 (n - 1) else false
def L.fitsE (p : L.Piece) (l : L.Sq L.Pt) (s : L.Setting) : Int := bif !L.validPiece p then 30 else bif (bif !L.validOutline l then true else !L.validSet s p.gauges.n) then 1 else 0
def L.fitsV (p : L.Piece) (l : L.Sq L.Pt) (s : L.Setting) : Bool := bif decide (L.fitsE p l s = 0) then L.fits p l s else false
def L.setE (p : L.Piece) (l : L.Sq L.Pt) : Int := bif !L.validPiece p then 30 else bif !L.validOutline l then 1 else 0
def L.setN (p : L.Piece) (l : L.Sq L.Pt) : Nat := bif decide (L.setE p l = 0) then L.cnt (L.fitK p l) (2 * p.gauges.n) else 0
def L.setG (p : L.Piece) (l : L.Sq L.Pt) (k : Nat) : L.Setting := L.sett (L.selN (L.fitK p l) (2 * p.gauges.n) k)
theorem sett_lt {k n : Nat} (h : k < 2 * n) : 0 ≤ (L.sett k).shift ∧ (L.sett k).shift < (n : Int) := by
  unfold L.sett
  dsimp only
  rw [Int.tdiv_eq_ediv_of_nonneg (by omega)]
  omega
theorem piece_gauges {p : L.Piece} (h : L.validPiece p = true) : L.gauges p.gauges = true := by
  unfold L.validPiece at h
  rw [band, band, Bool.and_eq_true, Bool.and_eq_true] at h
  exact h.1.2
theorem validSet_iff {s : L.Setting} {n : Int} : L.validSet s n = true ↔ (3 ≤ n ∧ n ≤ 24) ∧ 0 ≤ s.shift ∧ s.shift < n := by
  unfold L.validSet
  rw [band, Bool.and_eq_true, within_iff, within_iff]
  omega
def g_holds_p (g : L.Gauge) (m : L.Meas) : Prop := g.edge.lo ≤ g.edge.hi ∧ g.across.lo ≤ g.across.hi
def g_holds_r (g : L.Gauge) (m : L.Meas) : SV := .bool (L.holdsR g m)
def g_holds_s : List EV → Option (Prop × SV)
  | [.p (.agg [.int .i64 g_edge_lo, .int .i64 g_edge_hi, .int .i64 g_across_lo, .int .i64 g_across_hi, .int .i64 g_bend]), .p (.agg [.int .i64 m_edge, .int .i64 m_across, .int .i64 m_bend])] => some (g_holds_p (⟨(⟨g_edge_lo, g_edge_hi⟩ : L.Span), (⟨g_across_lo, g_across_hi⟩ : L.Span), g_bend⟩ : L.Gauge) (⟨m_edge, m_across, m_bend⟩ : L.Meas), g_holds_r (⟨(⟨g_edge_lo, g_edge_hi⟩ : L.Span), (⟨g_across_lo, g_across_hi⟩ : L.Span), g_bend⟩ : L.Gauge) (⟨m_edge, m_across, m_bend⟩ : L.Meas))
  | _ => none
abbrev g_holds_S : SE.Spec := (specO g_holds_s)
def g_holds_C : Cfg := { muts := [], frz := lookN [], specs := lookS [(72, g_in_S)], loops := lookL [], iters := lookI [], rfs := lookR [], nils := lookM [] }
theorem g_holds_vc (g : L.Gauge) (m : L.Meas) (hp : g_holds_p g m) : vc Try.prog (g_holds_C) (bodyOf Try.f128) (st0 Try.f128 [.p (.agg [.int .i64 g.edge.lo, .int .i64 g.edge.hi, .int .i64 g.across.lo, .int .i64 g.across.hi, .int .i64 g.bend]), .p (.agg [.int .i64 m.edge, .int .i64 m.across, .int .i64 m.bend])]) (retFn Try.prog Try.f128 (g_holds_r g m)) :=
  @Eq.mpr _ (((Decidable.decide (m.edge = g.edge.lo) && (Decidable.decide (m.across = g.across.lo) && Decidable.decide (m.bend = g.bend))) = Bool.true → Bool.true = L.holdsR g m) ∧ ((Decidable.decide (m.edge = g.edge.lo) && (Decidable.decide (m.across = g.across.lo) && Decidable.decide (m.bend = g.bend))) = Bool.false → True ∧ (L.within m.edge g.edge.lo g.edge.hi = Bool.true → True) ∧ (bif bif L.within m.edge
 g.edge.lo g.edge.hi then L.within m.across g.across.lo g.across.hi else Bool.false then bif Decidable.decide (g.bend = (0 : Int)) then Bool.true else Decidable.decide (g.bend = m.bend) else Bool.false) = L.holdsR g m)) (by kernel_rfl) (by
    obtain ⟨h1, h2⟩ := hp
    refine ⟨fun h => ?_, fun h => ⟨trivial, fun _ => trivial, rfl⟩⟩
    rw [Bool.and_eq_true, Bool.and_eq_true, decide_eq_true_eq, decide_eq_true_eq, decide_eq_true_eq] at h
    unfold L.holdsR
    rw [within_iff.2 (show g.edge.lo ≤ m.edge ∧ m.edge ≤ g.edge.hi by omega), within_iff.2 (show g.across.lo ≤ m.across ∧ m.across ≤ g.across.hi by omega), decide_eq_true (show g.bend = m.bend by omega)]
    cases decide (g.bend = 0) <;> rfl)
theorem g_holds_ok : SpecOk Try.prog 128 g_holds_S := fnX Try.func128 (c := bodyOf Try.f128) (by kernel_rfl) mixed (fun args p r hs hp => by
  unfold g_holds_s at hs
  split at hs
  · cases hs; exact ⟨_, _, g_holds_vc _ _ hp, (.same _ (.same _ .nil)), ⟨show SpecsL Try.prog _ from (SpecsL.cons g_in_ok g_in_en SpecsL.nil), rfl, ⟨show ItersL Try.prog _ from ItersL.nil, (TrsOk.none (fun _ => rfl))⟩⟩⟩
  · cases hs)
theorem g_holds_en : Enters Try.prog 128 := fun args w => by kernel_rfl
theorem g_holds_B : ∀ args p r, g_holds_s args = some (p, r) → ∃ b, r = .bool b := by
  intro args p r h
  unfold g_holds_s at h
  split at h
  · cases h; exact ⟨_, rfl⟩
  · cases h
def g_fits_p (p : L.Piece) (l : (L.Sq L.Pt)) (s : L.Setting) : Prop := L.fitP p l s
def g_fits_r (p : L.Piece) (l : (L.Sq L.Pt)) (s : L.Setting) : SV := .bool (L.fits p l s)
def g_fits_s : List EV → Option (Prop × SV)
  | [.p (.agg [.int .i64 p_id, .int .i64 p_colour, .int .i64 p_rev, .int .i64 p_made, .int .i64 p_swell, .sl 5 p_gauges_n p_gauges_g, .sl 3 p_marks_n p_marks_g]), .p (.sl 2 l_n l_g), .p (.agg [.int .i64 s_shift, .bool s_back])] => some ((∀ i, i < p_gauges_n → p_gauges_g i = [.int .i64 ((ofGauge (p_gauges_g i)).edge.lo), .int .i64 ((ofGauge (p_gauges_g i)).edge.hi), .int .i64 ((ofGauge (p_gauges_g i)).across.lo), .int .i64 ((ofGauge (p_gauges_g i)).across.hi), .int .i64 ((ofGauge (p_gauges_g i)).bend)]) ∧ (∀ i, i < p_marks_n → p_marks_g i = [.int .i64 ((ofMark (p_marks_g i)).edge), .int .i64 ((ofMark (p_marks_g i)).place), .int .i64 ((ofMark (p_marks_g i)).tone)]) ∧ (∀ i, i < l_n → l_g i = [.int .i64 ((ofPt (l_g i)).x), .int .i64 ((ofPt (l_g i)).y)]) ∧ g_fits_p (⟨p_id, p_colour, p_rev, p_made, p_swell, (⟨p_gauges_n, fun i => ofGauge (p_gauges_g i)⟩ : (L.Sq L.Gauge)), (⟨p_marks_n, fun i => ofMark (p_marks_g i)⟩ : (L.Sq L.Mark))⟩ : L.Piece) (⟨l_n, fun i => ofPt (l_g i)⟩ : (L.Sq L.Pt)) (⟨s_shift, s_back⟩ : L.Setting), g_fits_r (⟨p_id, p_colour, p_rev, p_made, p_swell, (⟨p_gauges_n, fun i => ofGauge (p_gauges_g i)⟩ : (L.Sq L.Gauge)), (⟨p_marks_n, fun i => ofMark (p_marks_g i)⟩ : (L.Sq L.Mark))⟩ : L.Piece) (⟨l_n, fun i => ofPt (l_g i)⟩ : (L.Sq L.Pt)) (⟨s_shift, s_back⟩ : L.Setting))
  | _ => none
abbrev g_fits_S : SE.Spec := (specO g_fits_s)
def g_fits_C : Cfg := { muts := [], frz := lookN [], specs := lookS [(65, g_measures_S), (128, g_holds_S)], loops := lookL [], iters := lookI [(122, g_meas2_it)], rfs := lookR [], nils := lookM [] }
theorem g_fits_vc (p : L.Piece) (l : (L.Sq L.Pt)) (s : L.Setting) (hp : g_fits_p p l s) : vc Try.prog ({ g_fits_C with loops := lookL [], rfs := lookR [(4, { T := Nat, keep := [3, 6], keepO := [6], own := fun k _ => [], inv := fun k _ => ∀ j, j < k → L.holdsR (p.gauges.g j) (L.meas l s j) = true })] }) (bodyOf Try.f83) (st0 Try.f83 [.p (.agg [.int .i64 p.id, .int .i64 p.colour, .int .i64 p.rev, .int .i64 p.made, .int .i64 p.swell, .sl 5 p.gauges.n (fun i => [.int .i64 ((p.gauges.g i).edge.lo), .int .i64 ((p.gauges.g i).edge.hi), .int .i64 ((p.gauges.g i).across.lo), .int .i64 ((p.gauges.g i).across.hi), .int .i64 ((p.gauges.g i).bend)]), .sl 3 p.marks.n (fun i => [.int .i64 ((p.marks.g i).edge), .int .i64 ((p.marks.g i).place), .int .i64 ((p.marks.g i).tone)])]), .p (.sl 2 l.n (fun i => [.int .i64 ((l.g i).x), .int .i64 ((l.g i).y)])), .p (.agg [.int .i64 s.shift, .bool s.back])]) (retFn Try.prog Try.f83 (g_fits_r p l s)) :=
  @Eq.mpr _ (((!Decidable.decide ((↑l.n : Int) = (↑p.gauges.n : Int))) = Bool.true → Bool.false = L.fits p l s) ∧ ((!Decidable.decide ((↑l.n : Int) = (↑p.gauges.n : Int))) = Bool.false → ((∀ (i : Nat), i < l.n → [Go.SE.SV.int Go.IntKind.i64 (l.g i).x, Go.SE.SV.int Go.IntKind.i64 (l.g i).y] = [Go.SE.SV.int Go.IntKind.i64 (l.g i).x, Go.SE.SV.int Go.IntKind.i64 (l.g i).y]) ∧ l.n ≤ (1000000 : Nat)) ∧ (((∀ (i :
 Nat), i < l.n → [Go.SE.SV.int Go.IntKind.i64 (l.g i).x, Go.SE.SV.int Go.IntKind.i64 (l.g i).y] = [Go.SE.SV.int Go.IntKind.i64 (l.g i).x, Go.SE.SV.int Go.IntKind.i64 (l.g i).y]) ∧ (∀ (i : Nat), (i < bif L.validOutline (L.Sq.mk l.n fun (i : Nat) ↦ l.g i) then l.n else (0 : Nat)) → [Go.SE.SV.int Go.IntKind.i64 (L.bend (L.Sq.mk l.n fun (i : Nat) ↦ l.g i) i)] = [Go.SE.SV.int Go.IntKind.i64 (L.bend
 (L.Sq.mk l.n fun (i : Nat) ↦ l.g i) i)]) ∧ (↑l.n : Int) = (↑l.n : Int) ∧ (↑l.n : Int) = (↑l.n : Int) ∧ (bif L.validOutline (L.Sq.mk l.n fun (i : Nat) ↦ l.g i) then l.n else (0 : Nat)) = l.n ∧ (∀ (i : Nat), i < l.n → L.bend (L.Sq.mk l.n fun (i : Nat) ↦ l.g i) i = L.bend (L.Sq.mk l.n fun (i : Nat) ↦ l.g i) i) ∧ (1 : Nat) ≤ l.n ∧ l.n ≤ (1000 : Nat) ∧ (0 : Int) ≤ s.shift ∧ s.shift ≤ (1000 : Int)) ∧ ∃
 (t : Nat), Bool.false = Bool.false ∧ ∀ (j : Nat), j < (0 : Nat) → L.holdsR (p.gauges.g j) (L.meas l s j) = Bool.true) ∧ (∀ (k t : Nat) (vk : Nat → Go.Value), k < l.n → (∀ (j : Nat), j < k → L.holdsR (p.gauges.g j) (L.meas l s j) = Bool.true) → ((0 : Int) ≤ (↑k : Int) ∧ (↑k : Int) < (↑p.gauges.n : Int)) ∧ ((p.gauges.g (Int.toNat (↑k : Int))).edge.lo ≤ (p.gauges.g (Int.toNat (↑k : Int))).edge.hi ∧
 (p.gauges.g (Int.toNat (↑k : Int))).across.lo ≤ (p.gauges.g (Int.toNat (↑k : Int))).across.hi) ∧ ((!L.holdsR (p.gauges.g (Int.toNat (↑k : Int))) (L.meas (L.Sq.mk l.n fun (i : Nat) ↦ l.g i) s k)) = Bool.true → nat_lit 0 = nat_lit 0 ∧ Go.SE.SV.ref [Go.SE.SV.int Go.IntKind.i64 p.id, Go.SE.SV.int Go.IntKind.i64 p.colour, Go.SE.SV.int Go.IntKind.i64 p.rev, Go.SE.SV.int Go.IntKind.i64 p.made,
 Go.SE.SV.int Go.IntKind.i64 p.swell, Go.SE.SV.sl (nat_lit 5) p.gauges.n fun (i : Nat) ↦ [Go.SE.SV.int Go.IntKind.i64 (p.gauges.g i).edge.lo, Go.SE.SV.int Go.IntKind.i64 (p.gauges.g i).edge.hi, Go.SE.SV.int Go.IntKind.i64 (p.gauges.g i).across.lo, Go.SE.SV.int Go.IntKind.i64 (p.gauges.g i).across.hi, Go.SE.SV.int Go.IntKind.i64 (p.gauges.g i).bend], Go.SE.SV.sl (nat_lit 3) p.marks.n fun (i : Nat) ↦
 [Go.SE.SV.int Go.IntKind.i64 (p.marks.g i).edge, Go.SE.SV.int Go.IntKind.i64 (p.marks.g i).place, Go.SE.SV.int Go.IntKind.i64 (p.marks.g i).tone]] (nat_lit 0) = Go.SE.SV.ref [Go.SE.SV.int Go.IntKind.i64 p.id, Go.SE.SV.int Go.IntKind.i64 p.colour, Go.SE.SV.int Go.IntKind.i64 p.rev, Go.SE.SV.int Go.IntKind.i64 p.made, Go.SE.SV.int Go.IntKind.i64 p.swell, Go.SE.SV.sl (nat_lit 5) p.gauges.n fun (i :
 Nat) ↦ [Go.SE.SV.int Go.IntKind.i64 (p.gauges.g i).edge.lo, Go.SE.SV.int Go.IntKind.i64 (p.gauges.g i).edge.hi, Go.SE.SV.int Go.IntKind.i64 (p.gauges.g i).across.lo, Go.SE.SV.int Go.IntKind.i64 (p.gauges.g i).across.hi, Go.SE.SV.int Go.IntKind.i64 (p.gauges.g i).bend], Go.SE.SV.sl (nat_lit 3) p.marks.n fun (i : Nat) ↦ [Go.SE.SV.int Go.IntKind.i64 (p.marks.g i).edge, Go.SE.SV.int Go.IntKind.i64
 (p.marks.g i).place, Go.SE.SV.int Go.IntKind.i64 (p.marks.g i).tone]] (nat_lit 0) ∧ vk (nat_lit 6) = vk (nat_lit 6) ∧ vk (nat_lit 3) = vk (nat_lit 3) ∧ Bool.false = L.fits p l s) ∧ ((!L.holdsR (p.gauges.g (Int.toNat (↑k : Int))) (L.meas (L.Sq.mk l.n fun (i : Nat) ↦ l.g i) s k)) = Bool.false → ∃ (t' : Nat), nat_lit 0 = nat_lit 0 ∧ Go.SE.SV.ref [Go.SE.SV.int Go.IntKind.i64 p.id, Go.SE.SV.int
 Go.IntKind.i64 p.colour, Go.SE.SV.int Go.IntKind.i64 p.rev, Go.SE.SV.int Go.IntKind.i64 p.made, Go.SE.SV.int Go.IntKind.i64 p.swell, Go.SE.SV.sl (nat_lit 5) p.gauges.n fun (i : Nat) ↦ [Go.SE.SV.int Go.IntKind.i64 (p.gauges.g i).edge.lo, Go.SE.SV.int Go.IntKind.i64 (p.gauges.g i).edge.hi, Go.SE.SV.int Go.IntKind.i64 (p.gauges.g i).across.lo, Go.SE.SV.int Go.IntKind.i64 (p.gauges.g i).across.hi,
 Go.SE.SV.int Go.IntKind.i64 (p.gauges.g i).bend], Go.SE.SV.sl (nat_lit 3) p.marks.n fun (i : Nat) ↦ [Go.SE.SV.int Go.IntKind.i64 (p.marks.g i).edge, Go.SE.SV.int Go.IntKind.i64 (p.marks.g i).place, Go.SE.SV.int Go.IntKind.i64 (p.marks.g i).tone]] (nat_lit 0) = Go.SE.SV.ref [Go.SE.SV.int Go.IntKind.i64 p.id, Go.SE.SV.int Go.IntKind.i64 p.colour, Go.SE.SV.int Go.IntKind.i64 p.rev, Go.SE.SV.int
 Go.IntKind.i64 p.made, Go.SE.SV.int Go.IntKind.i64 p.swell, Go.SE.SV.sl (nat_lit 5) p.gauges.n fun (i : Nat) ↦ [Go.SE.SV.int Go.IntKind.i64 (p.gauges.g i).edge.lo, Go.SE.SV.int Go.IntKind.i64 (p.gauges.g i).edge.hi, Go.SE.SV.int Go.IntKind.i64 (p.gauges.g i).across.lo, Go.SE.SV.int Go.IntKind.i64 (p.gauges.g i).across.hi, Go.SE.SV.int Go.IntKind.i64 (p.gauges.g i).bend], Go.SE.SV.sl (nat_lit 3)
 p.marks.n fun (i : Nat) ↦ [Go.SE.SV.int Go.IntKind.i64 (p.marks.g i).edge, Go.SE.SV.int Go.IntKind.i64 (p.marks.g i).place, Go.SE.SV.int Go.IntKind.i64 (p.marks.g i).tone]] (nat_lit 0) ∧ vk (nat_lit 6) = vk (nat_lit 6) ∧ vk (nat_lit 3) = vk (nat_lit 3) ∧ Bool.false = Bool.false ∧ ∀ (j : Nat), j < k + (1 : Nat) → L.holdsR (p.gauges.g j) (L.meas l s j) = Bool.true)) ∧ ∀ (t : Nat), (∀ (j : Nat), j <
 l.n → L.holdsR (p.gauges.g j) (L.meas l s j) = Bool.true) → Bool.true = L.fits p l s)) (by kernel_rfl) (by
    obtain ⟨hv, hgg, s0, s1⟩ := hp
    obtain ⟨⟨g3, g24⟩, hg⟩ := gauge_ok hgg
    refine ⟨fun h => ?_, fun h => ?_⟩
    · unfold L.fits; rw [notT h]; rfl
    have hd := notF h
    have hn : l.n = p.gauges.n := by have := of_decide_eq_true hd; omega
    refine ⟨⟨fun _ _ => rfl, by omega⟩, ⟨⟨fun _ _ => rfl, fun _ _ => rfl, rfl, rfl, ?_, fun _ _ => rfl, by omega, by omega, by omega, by omega⟩, (0 : Nat), rfl, fun j hj => absurd hj (Nat.not_lt_zero _)⟩, fun k t vk hk hi => ?_, fun t hi => ?_⟩
    · rw [show L.validOutline (L.Sq.mk l.n fun i => l.g i) = true from hv]; rfl
    · have e0 : ((k : Int)).toNat = k := by omega
      have hgk := hg k (by omega)
      rw [e0]
      refine ⟨by omega, ⟨by omega, by omega⟩, fun h1 => ⟨rfl, rfl, rfl, rfl, ?_⟩, fun h1 => ⟨t, rfl, rfl, rfl, rfl, rfl, fun j hj => ?_⟩⟩
      · have h1 : L.holdsR (p.gauges.g k) (L.meas l s k) = false := notT h1
        unfold L.fits; rw [hd, allB_false (i := k) hk h1]; rfl
      · rcases Nat.lt_succ_iff_lt_or_eq.1 hj with h' | rfl
        · exact hi j h'
        · exact notF h1
    · unfold L.fits; rw [hd, allB_iff.2 hi]; rfl)
theorem g_fits_ok : SpecOk Try.prog 83 g_fits_S := fnX Try.func83 (c := bodyOf Try.f83) (by kernel_rfl) mixed (fun args p r hs hp => by
  unfold g_fits_s at hs
  split at hs
  · cases hs; exact ⟨_, _, g_fits_vc _ _ _ hp.2.2.2, (.p (.agg rfl (fun i hi => by
      rcases i with _ | i
      · exact (Ext.refl _ : Ext _ _)
      rcases i with _ | i
      · exact (Ext.refl _ : Ext _ _)
      rcases i with _ | i
      · exact (Ext.refl _ : Ext _ _)
      rcases i with _ | i
      · exact (Ext.refl _ : Ext _ _)
      rcases i with _ | i
      · exact (Ext.refl _ : Ext _ _)
      rcases i with _ | i
      · exact (Ext.sl hp.1 : Ext _ _)
      rcases i with _ | i
      · exact (Ext.sl hp.2.1 : Ext _ _)
      exact absurd hi (by simp; try omega))) (.p (.sl hp.2.2.1) (.same _ .nil))), ⟨show SpecsL Try.prog _ from (SpecsL.cons g_measures_ok g_measures_en (SpecsL.cons g_holds_ok g_holds_en SpecsL.nil)), rfl, ⟨show ItersL Try.prog _ from (ItersL.cons g_meas2_itok g_meas2_en ItersL.nil), (TrsOk.none (fun _ => rfl))⟩⟩⟩
  · cases hs)
theorem g_fits_en : Enters Try.prog 83 := fun args w => by kernel_rfl
theorem g_fits_B : ∀ args p r, g_fits_s args = some (p, r) → ∃ b, r = .bool b := by
  intro args p r h
  unfold g_fits_s at h
  split at h
  · cases h; exact ⟨_, rfl⟩
  · cases h
def g_all1_p (n : Int) : Prop := 0 ≤ n ∧ n ≤ 1000
def g_all1_n (n : Int) : Nat := (2 * n).toNat
def g_all1_i (n : Int) : Nat → List SV := fun k => [(.agg [.int .i64 ((L.sett k).shift), .bool ((L.sett k).back)])]
def g_all1_ic : List SV → Option (Prop × Nat × (Nat → List SV))
  | [.ref [.int .i64 n] 0] => some (g_all1_p n, g_all1_n n, g_all1_i n)
  | _ => none
abbrev g_all1_it : ItSpec := itOf g_all1_ic
def g_all1_C : Cfg := { muts := [], frz := lookN [], specs := lookS [], loops := fun _ => none, iters := lookI [], rfs := lookR [] }
theorem g_all1_vc (yl : Nat) (n : Int) (hp : g_all1_p n) : vc Try.prog { g_all1_C with loops := lookL [(1, { T := Nat, keep := [0, 1, 5], keepO := [], chg := fun i => [(6, .p (.int .i64 (i : Int)))], own := fun _ => [], inv := fun i => i ≤ (2 * n).toNat, mu := fun i => (2 * n).toNat - i, yk := some (fun i => i) })], yld := some ⟨yl, g_all1_n n, g_all1_i n⟩ } (bodyOf Try.f130) (st0 Try.f130 (.yield yl :: ([.ref [.int .i64 n] 0] : List SV).map .p)) (retIt Try.prog Try.f130 (g_all1_n n)) :=
  @Eq.mpr _ (Go.SE.InK Go.IntKind.i64 ((2 : Int) * n) ∧ (∃ (g : Nat), nat_lit 0 = g ∧ Bool.false = Bool.false ∧ (0 : Int) = (↑g : Int) ∧ g ≤ Int.toNat ((2 : Int) * n)) ∧ ∀ (g : Nat), g ≤ Int.toNat ((2 : Int) * n) → (Decidable.decide ((↑g : Int) < (2 : Int) * n) = Bool.true → (2 : Int) ≠ (0 : Int) ∧ Go.SE.InK Go.IntKind.i64 (Int.tdiv (↑g : Int) (2 : Int)) ∧ (2 : Int) ≠ (0 : Int) ∧ yl = yl ∧ g < Int.toNat ((2 :
 Int) * n) ∧ [Go.SE.SV.agg [Go.SE.SV.int Go.IntKind.i64 (Int.tdiv (↑g : Int) (2 : Int)), Go.SE.SV.bool (Decidable.decide (Int.tmod (↑g : Int) (2 : Int) = (1 : Int)))]] = [Go.SE.SV.agg [Go.SE.SV.int Go.IntKind.i64 (L.sett g).shift, Go.SE.SV.bool (L.sett g).back]] ∧ ((Bool.false = Bool.true → g + (1 : Nat) = Int.toNat ((2 : Int) * n) ∨ g + (1 : Nat) = Int.toNat ((2 : Int) * n) + (1 : Nat)) ∧
 (Bool.false = Bool.false → Go.SE.InK Go.IntKind.i64 ((↑g : Int) + (1 : Int)) ∧ ∃ (g' : Nat), g + (1 : Nat) = g' ∧ Bool.false = Bool.false ∧ (↑g : Int) + (1 : Int) = (↑g' : Int) ∧ (2 : Int) * n = (2 : Int) * n ∧ yl = yl ∧ Go.SE.SV.ref [Go.SE.SV.int Go.IntKind.i64 n] (nat_lit 0) = Go.SE.SV.ref [Go.SE.SV.int Go.IntKind.i64 n] (nat_lit 0) ∧ g' ≤ Int.toNat ((2 : Int) * n) ∧ Int.toNat ((2 : Int) * n) -
 g' < Int.toNat ((2 : Int) * n) - g)) ∧ (Bool.true = Bool.true → Int.toNat ((2 : Int) * n) + (1 : Nat) = Int.toNat ((2 : Int) * n) ∨ Int.toNat ((2 : Int) * n) + (1 : Nat) = Int.toNat ((2 : Int) * n) + (1 : Nat)) ∧ (Bool.true = Bool.false → Go.SE.InK Go.IntKind.i64 ((↑g : Int) + (1 : Int)) ∧ ∃ (g' : Nat), Int.toNat ((2 : Int) * n) + (1 : Nat) = g' ∧ Bool.false = Bool.false ∧ (↑g : Int) + (1 : Int) =
 (↑g' : Int) ∧ (2 : Int) * n = (2 : Int) * n ∧ yl = yl ∧ Go.SE.SV.ref [Go.SE.SV.int Go.IntKind.i64 n] (nat_lit 0) = Go.SE.SV.ref [Go.SE.SV.int Go.IntKind.i64 n] (nat_lit 0) ∧ g' ≤ Int.toNat ((2 : Int) * n) ∧ Int.toNat ((2 : Int) * n) - g' < Int.toNat ((2 : Int) * n) - g)) ∧ (Decidable.decide ((↑g : Int) < (2 : Int) * n) = Bool.false → g = Int.toNat ((2 : Int) * n) ∨ g = Int.toNat ((2 : Int) * n) +
 (1 : Nat))) (by kernel_rfl) (by
    obtain ⟨h0, h1⟩ := hp
    refine ⟨InK.of (by omega) (by omega), ⟨(0 : Nat), rfl, rfl, rfl, Nat.zero_le _⟩, fun g hg => ⟨fun hlt => ?_, fun hge => ?_⟩⟩
    rotate_left
    · have : ¬ (g : Int) < 2 * n := of_decide_eq_false hge
      exact .inl (by omega)
    have hb : (g : Int) < 2 * n := of_decide_eq_true hlt
    have t1 : 0 ≤ Int.tdiv (g : Int) 2 ∧ Int.tdiv (g : Int) 2 ≤ (g : Int) := by
      rw [Int.tdiv_eq_ediv_of_nonneg (by omega)]; omega
    exact ⟨by omega, InK.of (by omega) (by omega), by omega, rfl, by omega, rfl, ⟨fun h => (by cases h), fun _ => ⟨InK.of (by omega) (by omega), g + 1, rfl, rfl, by omega, rfl, rfl, rfl, by omega, by omega⟩⟩, fun _ => .inr rfl, fun h => (by cases h)⟩)
theorem g_all1_itok : ItOk Try.prog 130 g_all1_it := iterX Try.func130 (c := bodyOf Try.f130) (by kernel_rfl) mixed (fun caps l p n g hs hp => by
  unfold g_all1_ic at hs
  split at hs
  · cases hs; exact ⟨_, _, g_all1_vc l _ hp, (.cons (Ext.refl _) .nil), rfl, show SpecsL Try.prog _ from SpecsL.nil, ⟨show ItersL Try.prog _ from ItersL.nil, TrsOk.none (fun _ => rfl)⟩⟩
  · cases hs)
theorem g_all1_en : Enters Try.prog 130 := fun args w => by kernel_rfl
def g_all_p (n : Int) : Prop := True
def g_all_r (n : Int) : SV := .clo 130 [.ref [.int .i64 n] 0]
def g_all_s : List EV → Option (Prop × SV)
  | [.p (.int .i64 n)] => some (g_all_p n, g_all_r n)
  | _ => none
abbrev g_all_S : SE.Spec := (specO g_all_s)
def g_all_C : Cfg := { muts := [], frz := lookN [], specs := lookS [], loops := lookL [], iters := lookI [], rfs := lookR [], nils := lookM [] }
theorem g_all_vc (n : Int) (hp : g_all_p n) : vc Try.prog (g_all_C) (bodyOf Try.f85) (st0 Try.f85 [.p (.int .i64 n)]) (retFn Try.prog Try.f85 (g_all_r n)) :=
  @Eq.mpr _ (Go.SE.SV.clo (nat_lit 130) [Go.SE.SV.ref [Go.SE.SV.int Go.IntKind.i64 n] (nat_lit 0)] = Go.SE.SV.clo (nat_lit 130) [Go.SE.SV.ref [Go.SE.SV.int Go.IntKind.i64 n] (nat_lit 0)]) (by kernel_rfl) (by
    exact rfl)
theorem g_all_ok : SpecOk Try.prog 85 g_all_S := fnX Try.func85 (c := bodyOf Try.f85) (by kernel_rfl) mixed (fun args p r hs hp => by
  unfold g_all_s at hs
  split at hs
  · cases hs; exact ⟨_, _, g_all_vc _ hp, (.same _ .nil), ⟨show SpecsL Try.prog _ from SpecsL.nil, rfl, ⟨show ItersL Try.prog _ from ItersL.nil, (TrsOk.none (fun _ => rfl))⟩⟩⟩
  · cases hs)
theorem g_all_en : Enters Try.prog 85 := fun args w => by kernel_rfl
def p_ValidSetting_p (s : L.Setting) (n : Int) : Prop := -1000000 ≤ n ∧ n ≤ 1000000
def p_ValidSetting_r (s : L.Setting) (n : Int) : SV := .bool (L.validSet s n)
def p_ValidSetting_s : List EV → Option (Prop × SV)
  | [.p (.agg [.int .i64 s_shift, .bool s_back]), .p (.int .i64 n)] => some (p_ValidSetting_p (⟨s_shift, s_back⟩ : L.Setting) n, p_ValidSetting_r (⟨s_shift, s_back⟩ : L.Setting) n)
  | _ => none
abbrev p_ValidSetting_S : SE.Spec := (specO p_ValidSetting_s)
def p_ValidSetting_C : Cfg := { muts := [], frz := lookN [], specs := lookS [(113, p_within_S)], loops := lookL [], iters := lookI [], rfs := lookR [], nils := lookM [] }
theorem p_ValidSetting_vc (s : L.Setting) (n : Int) (hp : p_ValidSetting_p s n) : vc Try.prog (p_ValidSetting_C) (bodyOf Try.f82) (st0 Try.f82 [.p (.agg [.int .i64 s.shift, .bool s.back]), .p (.int .i64 n)]) (retFn Try.prog Try.f82 (p_ValidSetting_r s n)) :=
  @Eq.mpr _ (True ∧ (L.within n (3 : Int) (24 : Int) = Bool.true → Go.SE.InK Go.IntKind.i64 (n - (1 : Int))) ∧ (L.within n (3 : Int) (24 : Int) = Bool.true → True) ∧ (bif L.within n (3 : Int) (24 : Int) then L.within s.shift (0 : Int) (n - (1 : Int)) else Bool.false) = L.validSet s n) (by kernel_rfl) (by
    obtain ⟨h1, h2⟩ := hp
    exact ⟨trivial, fun _ => InK.of (by omega) (by omega), fun _ => trivial, rfl⟩)
theorem p_ValidSetting_ok : SpecOk Try.prog 82 p_ValidSetting_S := fnX Try.func82 (c := bodyOf Try.f82) (by kernel_rfl) mixed (fun args p r hs hp => by
  unfold p_ValidSetting_s at hs
  split at hs
  · cases hs; exact ⟨_, _, p_ValidSetting_vc _ _ hp, (.same _ (.same _ .nil)), ⟨show SpecsL Try.prog _ from (SpecsL.cons p_within_ok p_within_en SpecsL.nil), rfl, ⟨show ItersL Try.prog _ from ItersL.nil, (TrsOk.none (fun _ => rfl))⟩⟩⟩
  · cases hs)
theorem p_ValidSetting_en : Enters Try.prog 82 := fun args w => by kernel_rfl
theorem p_ValidSetting_B : ∀ args p r, p_ValidSetting_s args = some (p, r) → ∃ b, r = .bool b := by
  intro args p r h
  unfold p_ValidSetting_s at h
  split at h
  · cases h; exact ⟨_, rfl⟩
  · cases h
def g_Fits_p (p : L.Piece) (l : (L.Sq L.Pt)) (s : L.Setting) : Prop := p.gauges.n ≤ 1000000 ∧ p.marks.n ≤ 1000000 ∧ l.n ≤ 1000000
def g_Fits_r (p : L.Piece) (l : (L.Sq L.Pt)) (s : L.Setting) : SV := .tup [.bool (L.fitsV p l s), .int .i64 (L.fitsE p l s)]
def g_Fits_s : List EV → Option (Prop × SV)
  | [.p (.agg [.int .i64 p_id, .int .i64 p_colour, .int .i64 p_rev, .int .i64 p_made, .int .i64 p_swell, .sl 5 p_gauges_n p_gauges_g, .sl 3 p_marks_n p_marks_g]), .p (.sl 2 l_n l_g), .p (.agg [.int .i64 s_shift, .bool s_back])] => some ((∀ i, i < p_gauges_n → p_gauges_g i = [.int .i64 ((ofGauge (p_gauges_g i)).edge.lo), .int .i64 ((ofGauge (p_gauges_g i)).edge.hi), .int .i64 ((ofGauge (p_gauges_g i)).across.lo), .int .i64 ((ofGauge (p_gauges_g i)).across.hi), .int .i64 ((ofGauge (p_gauges_g i)).bend)]) ∧ (∀ i, i < p_marks_n → p_marks_g i = [.int .i64 ((ofMark (p_marks_g i)).edge), .int .i64 ((ofMark (p_marks_g i)).place), .int .i64 ((ofMark (p_marks_g i)).tone)]) ∧ (∀ i, i < l_n → l_g i = [.int .i64 ((ofPt (l_g i)).x), .int .i64 ((ofPt (l_g i)).y)]) ∧ g_Fits_p (⟨p_id, p_colour, p_rev, p_made, p_swell, (⟨p_gauges_n, fun i => ofGauge (p_gauges_g i)⟩ : (L.Sq L.Gauge)), (⟨p_marks_n, fun i => ofMark (p_marks_g i)⟩ : (L.Sq L.Mark))⟩ : L.Piece) (⟨l_n, fun i => ofPt (l_g i)⟩ : (L.Sq L.Pt)) (⟨s_shift, s_back⟩ : L.Setting), g_Fits_r (⟨p_id, p_colour, p_rev, p_made, p_swell, (⟨p_gauges_n, fun i => ofGauge (p_gauges_g i)⟩ : (L.Sq L.Gauge)), (⟨p_marks_n, fun i => ofMark (p_marks_g i)⟩ : (L.Sq L.Mark))⟩ : L.Piece) (⟨l_n, fun i => ofPt (l_g i)⟩ : (L.Sq L.Pt)) (⟨s_shift, s_back⟩ : L.Setting))
  | _ => none
abbrev g_Fits_S : SE.Spec := (specO g_Fits_s)
def g_Fits_C : Cfg := { muts := [], frz := lookN [], specs := lookS [(15, g_ValidPiece_S), (64, p_ValidOutline_S), (82, p_ValidSetting_S), (83, g_fits_S)], loops := lookL [], iters := lookI [], rfs := lookR [], nils := lookM [] }
theorem g_Fits_vc (p : L.Piece) (l : (L.Sq L.Pt)) (s : L.Setting) (hp : g_Fits_p p l s) : vc Try.prog (g_Fits_C) (bodyOf Try.f39) (st0 Try.f39 [.p (.agg [.int .i64 p.id, .int .i64 p.colour, .int .i64 p.rev, .int .i64 p.made, .int .i64 p.swell, .sl 5 p.gauges.n (fun i => [.int .i64 ((p.gauges.g i).edge.lo), .int .i64 ((p.gauges.g i).edge.hi), .int .i64 ((p.gauges.g i).across.lo), .int .i64 ((p.gauges.g i).across.hi), .int .i64 ((p.gauges.g i).bend)]), .sl 3 p.marks.n (fun i => [.int .i64 ((p.marks.g i).edge), .int .i64 ((p.marks.g i).place), .int .i64 ((p.marks.g i).tone)])]), .p (.sl 2 l.n (fun i => [.int .i64 ((l.g i).x), .int .i64 ((l.g i).y)])), .p (.agg [.int .i64 s.shift, .bool s.back])]) (retFn Try.prog Try.f39 (g_Fits_r p l s)) :=
  @Eq.mpr _ (((∀ (i : Nat), i < p.gauges.n → [Go.SE.SV.int Go.IntKind.i64 (p.gauges.g i).edge.lo, Go.SE.SV.int Go.IntKind.i64 (p.gauges.g i).edge.hi, Go.SE.SV.int Go.IntKind.i64 (p.gauges.g i).across.lo, Go.SE.SV.int Go.IntKind.i64 (p.gauges.g i).across.hi, Go.SE.SV.int Go.IntKind.i64 (p.gauges.g i).bend] = [Go.SE.SV.int Go.IntKind.i64 (p.gauges.g i).edge.lo, Go.SE.SV.int Go.IntKind.i64 (p.gauges.g i).edge.hi,
 Go.SE.SV.int Go.IntKind.i64 (p.gauges.g i).across.lo, Go.SE.SV.int Go.IntKind.i64 (p.gauges.g i).across.hi, Go.SE.SV.int Go.IntKind.i64 (p.gauges.g i).bend]) ∧ (∀ (i : Nat), i < p.marks.n → [Go.SE.SV.int Go.IntKind.i64 (p.marks.g i).edge, Go.SE.SV.int Go.IntKind.i64 (p.marks.g i).place, Go.SE.SV.int Go.IntKind.i64 (p.marks.g i).tone] = [Go.SE.SV.int Go.IntKind.i64 (p.marks.g i).edge, Go.SE.SV.int
 Go.IntKind.i64 (p.marks.g i).place, Go.SE.SV.int Go.IntKind.i64 (p.marks.g i).tone]) ∧ p.gauges.n ≤ (1000000 : Nat) ∧ p.marks.n ≤ (1000000 : Nat)) ∧ ((!L.validPiece (L.Piece.mk p.id p.colour p.rev p.made p.swell (L.Sq.mk p.gauges.n fun (i : Nat) ↦ p.gauges.g i) (L.Sq.mk p.marks.n fun (i : Nat) ↦ p.marks.g i))) = Bool.true → Bool.false = L.fitsV p l s ∧ (30 : Int) = L.fitsE p l s) ∧ ((!L.validPiece
 (L.Piece.mk p.id p.colour p.rev p.made p.swell (L.Sq.mk p.gauges.n fun (i : Nat) ↦ p.gauges.g i) (L.Sq.mk p.marks.n fun (i : Nat) ↦ p.marks.g i))) = Bool.false → ((∀ (i : Nat), i < l.n → [Go.SE.SV.int Go.IntKind.i64 (l.g i).x, Go.SE.SV.int Go.IntKind.i64 (l.g i).y] = [Go.SE.SV.int Go.IntKind.i64 (l.g i).x, Go.SE.SV.int Go.IntKind.i64 (l.g i).y]) ∧ l.n ≤ (1000000 : Nat)) ∧ ((!!L.validOutline
 (L.Sq.mk l.n fun (i : Nat) ↦ l.g i)) = Bool.true → (-1000000 : Int) ≤ (↑p.gauges.n : Int) ∧ (↑p.gauges.n : Int) ≤ (1000000 : Int)) ∧ ((bif !L.validOutline (L.Sq.mk l.n fun (i : Nat) ↦ l.g i) then Bool.true else !L.validSet s (↑p.gauges.n : Int)) = Bool.true → Bool.false = L.fitsV p l s ∧ (1 : Int) = L.fitsE p l s) ∧ ((bif !L.validOutline (L.Sq.mk l.n fun (i : Nat) ↦ l.g i) then Bool.true else
 !L.validSet s (↑p.gauges.n : Int)) = Bool.false → ((∀ (i : Nat), i < p.gauges.n → [Go.SE.SV.int Go.IntKind.i64 (p.gauges.g i).edge.lo, Go.SE.SV.int Go.IntKind.i64 (p.gauges.g i).edge.hi, Go.SE.SV.int Go.IntKind.i64 (p.gauges.g i).across.lo, Go.SE.SV.int Go.IntKind.i64 (p.gauges.g i).across.hi, Go.SE.SV.int Go.IntKind.i64 (p.gauges.g i).bend] = [Go.SE.SV.int Go.IntKind.i64 (p.gauges.g i).edge.lo,
 Go.SE.SV.int Go.IntKind.i64 (p.gauges.g i).edge.hi, Go.SE.SV.int Go.IntKind.i64 (p.gauges.g i).across.lo, Go.SE.SV.int Go.IntKind.i64 (p.gauges.g i).across.hi, Go.SE.SV.int Go.IntKind.i64 (p.gauges.g i).bend]) ∧ (∀ (i : Nat), i < p.marks.n → [Go.SE.SV.int Go.IntKind.i64 (p.marks.g i).edge, Go.SE.SV.int Go.IntKind.i64 (p.marks.g i).place, Go.SE.SV.int Go.IntKind.i64 (p.marks.g i).tone] =
 [Go.SE.SV.int Go.IntKind.i64 (p.marks.g i).edge, Go.SE.SV.int Go.IntKind.i64 (p.marks.g i).place, Go.SE.SV.int Go.IntKind.i64 (p.marks.g i).tone]) ∧ (∀ (i : Nat), i < l.n → [Go.SE.SV.int Go.IntKind.i64 (l.g i).x, Go.SE.SV.int Go.IntKind.i64 (l.g i).y] = [Go.SE.SV.int Go.IntKind.i64 (l.g i).x, Go.SE.SV.int Go.IntKind.i64 (l.g i).y]) ∧ L.fitP (L.Piece.mk p.id p.colour p.rev p.made p.swell (L.Sq.mk
 p.gauges.n fun (i : Nat) ↦ p.gauges.g i) (L.Sq.mk p.marks.n fun (i : Nat) ↦ p.marks.g i)) (L.Sq.mk l.n fun (i : Nat) ↦ l.g i) s) ∧ L.fits (L.Piece.mk p.id p.colour p.rev p.made p.swell (L.Sq.mk p.gauges.n fun (i : Nat) ↦ p.gauges.g i) (L.Sq.mk p.marks.n fun (i : Nat) ↦ p.marks.g i)) (L.Sq.mk l.n fun (i : Nat) ↦ l.g i) s = L.fitsV p l s ∧ (0 : Int) = L.fitsE p l s))) (by kernel_rfl) (by
    obtain ⟨h1, h2, h3⟩ := hp
    refine ⟨⟨fun _ _ => rfl, fun _ _ => rfl, h1, h2⟩, fun h => ?_, fun h => ⟨⟨fun _ _ => rfl, h3⟩, fun _ => by omega, fun h4 => ?_, fun h4 => ?_⟩⟩
    · have hv : L.validPiece p = false := notT h
      have e : L.fitsE p l s = 30 := by unfold L.fitsE; rw [hv]; rfl
      unfold L.fitsV; rw [e]; exact ⟨rfl, rfl⟩
    · have hv : L.validPiece p = true := notF h
      have h4 : (bif !L.validOutline l then true else !L.validSet s p.gauges.n) = true := h4
      have e : L.fitsE p l s = 1 := by unfold L.fitsE; rw [hv, h4]; rfl
      unfold L.fitsV; rw [e]; exact ⟨rfl, rfl⟩
    · have hv : L.validPiece p = true := notF h
      have h4 : (bif !L.validOutline l then true else !L.validSet s p.gauges.n) = false := h4
      have e : L.fitsE p l s = 0 := by unfold L.fitsE; rw [hv, h4]; rfl
      rw [bor, Bool.or_eq_false_iff] at h4
      have hs := validSet_iff.1 (notF h4.2)
      refine ⟨⟨fun _ _ => rfl, fun _ _ => rfl, fun _ _ => rfl, notF h4.1, piece_gauges hv, hs.2.1, hs.2.2⟩, ?_, e.symm⟩
      unfold L.fitsV; rw [e]; rfl)
theorem g_Fits_ok : SpecOk Try.prog 39 g_Fits_S := fnX Try.func39 (c := bodyOf Try.f39) (by kernel_rfl) mixed (fun args p r hs hp => by
  unfold g_Fits_s at hs
  split at hs
  · cases hs; exact ⟨_, _, g_Fits_vc _ _ _ hp.2.2.2, (.p (.agg rfl (fun i hi => by
      rcases i with _ | i
      · exact (Ext.refl _ : Ext _ _)
      rcases i with _ | i
      · exact (Ext.refl _ : Ext _ _)
      rcases i with _ | i
      · exact (Ext.refl _ : Ext _ _)
      rcases i with _ | i
      · exact (Ext.refl _ : Ext _ _)
      rcases i with _ | i
      · exact (Ext.refl _ : Ext _ _)
      rcases i with _ | i
      · exact (Ext.sl hp.1 : Ext _ _)
      rcases i with _ | i
      · exact (Ext.sl hp.2.1 : Ext _ _)
      exact absurd hi (by simp; try omega))) (.p (.sl hp.2.2.1) (.same _ .nil))), ⟨show SpecsL Try.prog _ from (SpecsL.cons g_ValidPiece_ok g_ValidPiece_en (SpecsL.cons p_ValidOutline_ok p_ValidOutline_en (SpecsL.cons p_ValidSetting_ok p_ValidSetting_en (SpecsL.cons g_fits_ok g_fits_en SpecsL.nil)))), rfl, ⟨show ItersL Try.prog _ from ItersL.nil, (TrsOk.none (fun _ => rfl))⟩⟩⟩
  · cases hs)
theorem g_Fits_en : Enters Try.prog 39 := fun args w => by kernel_rfl
def g_Settings_p (p : L.Piece) (l : (L.Sq L.Pt)) : Prop := p.gauges.n ≤ 1000000 ∧ p.marks.n ≤ 1000000 ∧ l.n ≤ 1000000
def g_Settings_r (p : L.Piece) (l : (L.Sq L.Pt)) : SV := .tup [.sl 2 (L.setN p l) (fun k => [.int .i64 ((L.setG p l k).shift), .bool ((L.setG p l k).back)]), .int .i64 (L.setE p l)]
def g_Settings_s : List EV → Option (Prop × SV)
  | [.p (.agg [.int .i64 p_id, .int .i64 p_colour, .int .i64 p_rev, .int .i64 p_made, .int .i64 p_swell, .sl 5 p_gauges_n p_gauges_g, .sl 3 p_marks_n p_marks_g]), .p (.sl 2 l_n l_g)] => some ((∀ i, i < p_gauges_n → p_gauges_g i = [.int .i64 ((ofGauge (p_gauges_g i)).edge.lo), .int .i64 ((ofGauge (p_gauges_g i)).edge.hi), .int .i64 ((ofGauge (p_gauges_g i)).across.lo), .int .i64 ((ofGauge (p_gauges_g i)).across.hi), .int .i64 ((ofGauge (p_gauges_g i)).bend)]) ∧ (∀ i, i < p_marks_n → p_marks_g i = [.int .i64 ((ofMark (p_marks_g i)).edge), .int .i64 ((ofMark (p_marks_g i)).place), .int .i64 ((ofMark (p_marks_g i)).tone)]) ∧ (∀ i, i < l_n → l_g i = [.int .i64 ((ofPt (l_g i)).x), .int .i64 ((ofPt (l_g i)).y)]) ∧ g_Settings_p (⟨p_id, p_colour, p_rev, p_made, p_swell, (⟨p_gauges_n, fun i => ofGauge (p_gauges_g i)⟩ : (L.Sq L.Gauge)), (⟨p_marks_n, fun i => ofMark (p_marks_g i)⟩ : (L.Sq L.Mark))⟩ : L.Piece) (⟨l_n, fun i => ofPt (l_g i)⟩ : (L.Sq L.Pt)), g_Settings_r (⟨p_id, p_colour, p_rev, p_made, p_swell, (⟨p_gauges_n, fun i => ofGauge (p_gauges_g i)⟩ : (L.Sq L.Gauge)), (⟨p_marks_n, fun i => ofMark (p_marks_g i)⟩ : (L.Sq L.Mark))⟩ : L.Piece) (⟨l_n, fun i => ofPt (l_g i)⟩ : (L.Sq L.Pt)))
  | _ => none
abbrev g_Settings_S : SE.Spec := (specO g_Settings_s)
def g_Settings_C : Cfg := { muts := [], frz := lookN [], specs := lookS [(15, g_ValidPiece_S), (64, p_ValidOutline_S), (85, g_all_S), (83, g_fits_S)], loops := lookL [], iters := lookI [(130, g_all1_it)], rfs := lookR [], nils := lookM [(6, [(6, 13, 65, 2)])] }
theorem g_Settings_vc (p : L.Piece) (l : (L.Sq L.Pt)) (hp : g_Settings_p p l) : vc Try.prog ({ g_Settings_C with loops := lookL [], rfs := lookR [(7, { T := Nat, keep := [2, 3, 6], keepO := [], own := fun k _ => [(6, .blk 67 [.row 13]), (13, .row 65 2 (L.cnt (L.fitK p l) k) (fun i => [.int .i64 ((L.sett (L.selN (L.fitK p l) k i)).shift), .bool ((L.sett (L.selN (L.fitK p l) k i)).back)]))], inv := fun k _ => k ≤ 2 * p.gauges.n })] }) (bodyOf Try.f41) (st0 Try.f41 [.p (.agg [.int .i64 p.id, .int .i64 p.colour, .int .i64 p.rev, .int .i64 p.made, .int .i64 p.swell, .sl 5 p.gauges.n (fun i => [.int .i64 ((p.gauges.g i).edge.lo), .int .i64 ((p.gauges.g i).edge.hi), .int .i64 ((p.gauges.g i).across.lo), .int .i64 ((p.gauges.g i).across.hi), .int .i64 ((p.gauges.g i).bend)]), .sl 3 p.marks.n (fun i => [.int .i64 ((p.marks.g i).edge), .int .i64 ((p.marks.g i).place), .int .i64 ((p.marks.g i).tone)])]), .p (.sl 2 l.n (fun i => [.int .i64 ((l.g i).x), .int .i64 ((l.g i).y)]))]) (retFn Try.prog Try.f41 (g_Settings_r p l)) :=
  @Eq.mpr _ (((∀ (i : Nat), i < p.gauges.n → [Go.SE.SV.int Go.IntKind.i64 (p.gauges.g i).edge.lo, Go.SE.SV.int Go.IntKind.i64 (p.gauges.g i).edge.hi, Go.SE.SV.int Go.IntKind.i64 (p.gauges.g i).across.lo, Go.SE.SV.int Go.IntKind.i64 (p.gauges.g i).across.hi, Go.SE.SV.int Go.IntKind.i64 (p.gauges.g i).bend] = [Go.SE.SV.int Go.IntKind.i64 (p.gauges.g i).edge.lo, Go.SE.SV.int Go.IntKind.i64 (p.gauges.g i).edge.hi,
 Go.SE.SV.int Go.IntKind.i64 (p.gauges.g i).across.lo, Go.SE.SV.int Go.IntKind.i64 (p.gauges.g i).across.hi, Go.SE.SV.int Go.IntKind.i64 (p.gauges.g i).bend]) ∧ (∀ (i : Nat), i < p.marks.n → [Go.SE.SV.int Go.IntKind.i64 (p.marks.g i).edge, Go.SE.SV.int Go.IntKind.i64 (p.marks.g i).place, Go.SE.SV.int Go.IntKind.i64 (p.marks.g i).tone] = [Go.SE.SV.int Go.IntKind.i64 (p.marks.g i).edge, Go.SE.SV.int
 Go.IntKind.i64 (p.marks.g i).place, Go.SE.SV.int Go.IntKind.i64 (p.marks.g i).tone]) ∧ p.gauges.n ≤ (1000000 : Nat) ∧ p.marks.n ≤ (1000000 : Nat)) ∧ ((!L.validPiece (L.Piece.mk p.id p.colour p.rev p.made p.swell (L.Sq.mk p.gauges.n fun (i : Nat) ↦ p.gauges.g i) (L.Sq.mk p.marks.n fun (i : Nat) ↦ p.marks.g i))) = Bool.true → L.setN p l = (0 : Nat) ∧ (30 : Int) = L.setE p l) ∧ ((!L.validPiece
 (L.Piece.mk p.id p.colour p.rev p.made p.swell (L.Sq.mk p.gauges.n fun (i : Nat) ↦ p.gauges.g i) (L.Sq.mk p.marks.n fun (i : Nat) ↦ p.marks.g i))) = Bool.false → ((∀ (i : Nat), i < l.n → [Go.SE.SV.int Go.IntKind.i64 (l.g i).x, Go.SE.SV.int Go.IntKind.i64 (l.g i).y] = [Go.SE.SV.int Go.IntKind.i64 (l.g i).x, Go.SE.SV.int Go.IntKind.i64 (l.g i).y]) ∧ l.n ≤ (1000000 : Nat)) ∧ ((!L.validOutline
 (L.Sq.mk l.n fun (i : Nat) ↦ l.g i)) = Bool.true → L.setN p l = (0 : Nat) ∧ (1 : Int) = L.setE p l) ∧ ((!L.validOutline (L.Sq.mk l.n fun (i : Nat) ↦ l.g i)) = Bool.false → True ∧ (((0 : Int) ≤ (↑p.gauges.n : Int) ∧ (↑p.gauges.n : Int) ≤ (1000 : Int)) ∧ ∃ (t : Nat), (nat_lit 0 = L.cnt (L.fitK p l) (0 : Nat) ∧ ∀ (i : Nat), i < nat_lit 0 → [] = [Go.SE.SV.int Go.IntKind.i64 (L.sett (L.selN (L.fitK p
 l) (0 : Nat) i)).shift, Go.SE.SV.bool (L.sett (L.selN (L.fitK p l) (0 : Nat) i)).back]) ∧ (0 : Nat) ≤ (2 : Nat) * p.gauges.n) ∧ (∀ (k t : Nat) (vk : Nat → Go.Value), k < Int.toNat ((2 : Int) * (↑p.gauges.n : Int)) → k ≤ (2 : Nat) * p.gauges.n → ((∀ (i : Nat), i < p.gauges.n → [Go.SE.SV.int Go.IntKind.i64 (p.gauges.g i).edge.lo, Go.SE.SV.int Go.IntKind.i64 (p.gauges.g i).edge.hi, Go.SE.SV.int
 Go.IntKind.i64 (p.gauges.g i).across.lo, Go.SE.SV.int Go.IntKind.i64 (p.gauges.g i).across.hi, Go.SE.SV.int Go.IntKind.i64 (p.gauges.g i).bend] = [Go.SE.SV.int Go.IntKind.i64 (p.gauges.g i).edge.lo, Go.SE.SV.int Go.IntKind.i64 (p.gauges.g i).edge.hi, Go.SE.SV.int Go.IntKind.i64 (p.gauges.g i).across.lo, Go.SE.SV.int Go.IntKind.i64 (p.gauges.g i).across.hi, Go.SE.SV.int Go.IntKind.i64 (p.gauges.g
 i).bend]) ∧ (∀ (i : Nat), i < p.marks.n → [Go.SE.SV.int Go.IntKind.i64 (p.marks.g i).edge, Go.SE.SV.int Go.IntKind.i64 (p.marks.g i).place, Go.SE.SV.int Go.IntKind.i64 (p.marks.g i).tone] = [Go.SE.SV.int Go.IntKind.i64 (p.marks.g i).edge, Go.SE.SV.int Go.IntKind.i64 (p.marks.g i).place, Go.SE.SV.int Go.IntKind.i64 (p.marks.g i).tone]) ∧ (∀ (i : Nat), i < l.n → [Go.SE.SV.int Go.IntKind.i64 (l.g
 i).x, Go.SE.SV.int Go.IntKind.i64 (l.g i).y] = [Go.SE.SV.int Go.IntKind.i64 (l.g i).x, Go.SE.SV.int Go.IntKind.i64 (l.g i).y]) ∧ L.fitP (L.Piece.mk p.id p.colour p.rev p.made p.swell (L.Sq.mk p.gauges.n fun (i : Nat) ↦ p.gauges.g i) (L.Sq.mk p.marks.n fun (i : Nat) ↦ p.marks.g i)) (L.Sq.mk l.n fun (i : Nat) ↦ l.g i) (L.sett k)) ∧ (L.fits (L.Piece.mk p.id p.colour p.rev p.made p.swell (L.Sq.mk
 p.gauges.n fun (i : Nat) ↦ p.gauges.g i) (L.Sq.mk p.marks.n fun (i : Nat) ↦ p.marks.g i)) (L.Sq.mk l.n fun (i : Nat) ↦ l.g i) (L.sett k) = Bool.true → (L.cnt (L.fitK p l) k + nat_lit 1) * nat_lit 16 ≤ (140737488355328 : Nat) ∧ ∃ (t' : Nat), nat_lit 0 = nat_lit 0 ∧ Go.SE.SV.ref [Go.SE.SV.sl (nat_lit 2) l.n fun (i : Nat) ↦ [Go.SE.SV.int Go.IntKind.i64 (l.g i).x, Go.SE.SV.int Go.IntKind.i64 (l.g
 i).y]] (nat_lit 0) = Go.SE.SV.ref [Go.SE.SV.sl (nat_lit 2) l.n fun (i : Nat) ↦ [Go.SE.SV.int Go.IntKind.i64 (l.g i).x, Go.SE.SV.int Go.IntKind.i64 (l.g i).y]] (nat_lit 0) ∧ Go.SE.SV.ref [Go.SE.SV.int Go.IntKind.i64 p.id, Go.SE.SV.int Go.IntKind.i64 p.colour, Go.SE.SV.int Go.IntKind.i64 p.rev, Go.SE.SV.int Go.IntKind.i64 p.made, Go.SE.SV.int Go.IntKind.i64 p.swell, Go.SE.SV.sl (nat_lit 5)
 p.gauges.n fun (i : Nat) ↦ [Go.SE.SV.int Go.IntKind.i64 (p.gauges.g i).edge.lo, Go.SE.SV.int Go.IntKind.i64 (p.gauges.g i).edge.hi, Go.SE.SV.int Go.IntKind.i64 (p.gauges.g i).across.lo, Go.SE.SV.int Go.IntKind.i64 (p.gauges.g i).across.hi, Go.SE.SV.int Go.IntKind.i64 (p.gauges.g i).bend], Go.SE.SV.sl (nat_lit 3) p.marks.n fun (i : Nat) ↦ [Go.SE.SV.int Go.IntKind.i64 (p.marks.g i).edge,
 Go.SE.SV.int Go.IntKind.i64 (p.marks.g i).place, Go.SE.SV.int Go.IntKind.i64 (p.marks.g i).tone]] (nat_lit 0) = Go.SE.SV.ref [Go.SE.SV.int Go.IntKind.i64 p.id, Go.SE.SV.int Go.IntKind.i64 p.colour, Go.SE.SV.int Go.IntKind.i64 p.rev, Go.SE.SV.int Go.IntKind.i64 p.made, Go.SE.SV.int Go.IntKind.i64 p.swell, Go.SE.SV.sl (nat_lit 5) p.gauges.n fun (i : Nat) ↦ [Go.SE.SV.int Go.IntKind.i64 (p.gauges.g
 i).edge.lo, Go.SE.SV.int Go.IntKind.i64 (p.gauges.g i).edge.hi, Go.SE.SV.int Go.IntKind.i64 (p.gauges.g i).across.lo, Go.SE.SV.int Go.IntKind.i64 (p.gauges.g i).across.hi, Go.SE.SV.int Go.IntKind.i64 (p.gauges.g i).bend], Go.SE.SV.sl (nat_lit 3) p.marks.n fun (i : Nat) ↦ [Go.SE.SV.int Go.IntKind.i64 (p.marks.g i).edge, Go.SE.SV.int Go.IntKind.i64 (p.marks.g i).place, Go.SE.SV.int Go.IntKind.i64
 (p.marks.g i).tone]] (nat_lit 0) ∧ vk (nat_lit 6) = vk (nat_lit 6) ∧ vk (nat_lit 3) = vk (nat_lit 3) ∧ vk (nat_lit 2) = vk (nat_lit 2) ∧ (L.cnt (L.fitK p l) k + nat_lit 1 = L.cnt (L.fitK p l) (k + (1 : Nat)) ∧ ∀ (i : Nat), i < L.cnt (L.fitK p l) k + nat_lit 1 → Go.SE.appGet (L.cnt (L.fitK p l) k) (fun (i : Nat) ↦ [Go.SE.SV.int Go.IntKind.i64 (L.sett (L.selN (L.fitK p l) k i)).shift, Go.SE.SV.bool
 (L.sett (L.selN (L.fitK p l) k i)).back]) (fun (x : Nat) ↦ [Go.SE.SV.int Go.IntKind.i64 (L.sett k).shift, Go.SE.SV.bool (L.sett k).back]) i = [Go.SE.SV.int Go.IntKind.i64 (L.sett (L.selN (L.fitK p l) (k + (1 : Nat)) i)).shift, Go.SE.SV.bool (L.sett (L.selN (L.fitK p l) (k + (1 : Nat)) i)).back]) ∧ k + (1 : Nat) ≤ (2 : Nat) * p.gauges.n) ∧ (L.fits (L.Piece.mk p.id p.colour p.rev p.made p.swell
 (L.Sq.mk p.gauges.n fun (i : Nat) ↦ p.gauges.g i) (L.Sq.mk p.marks.n fun (i : Nat) ↦ p.marks.g i)) (L.Sq.mk l.n fun (i : Nat) ↦ l.g i) (L.sett k) = Bool.false → ∃ (t' : Nat), nat_lit 0 = nat_lit 0 ∧ Go.SE.SV.ref [Go.SE.SV.sl (nat_lit 2) l.n fun (i : Nat) ↦ [Go.SE.SV.int Go.IntKind.i64 (l.g i).x, Go.SE.SV.int Go.IntKind.i64 (l.g i).y]] (nat_lit 0) = Go.SE.SV.ref [Go.SE.SV.sl (nat_lit 2) l.n fun (i
 : Nat) ↦ [Go.SE.SV.int Go.IntKind.i64 (l.g i).x, Go.SE.SV.int Go.IntKind.i64 (l.g i).y]] (nat_lit 0) ∧ Go.SE.SV.ref [Go.SE.SV.int Go.IntKind.i64 p.id, Go.SE.SV.int Go.IntKind.i64 p.colour, Go.SE.SV.int Go.IntKind.i64 p.rev, Go.SE.SV.int Go.IntKind.i64 p.made, Go.SE.SV.int Go.IntKind.i64 p.swell, Go.SE.SV.sl (nat_lit 5) p.gauges.n fun (i : Nat) ↦ [Go.SE.SV.int Go.IntKind.i64 (p.gauges.g i).edge.lo,
 Go.SE.SV.int Go.IntKind.i64 (p.gauges.g i).edge.hi, Go.SE.SV.int Go.IntKind.i64 (p.gauges.g i).across.lo, Go.SE.SV.int Go.IntKind.i64 (p.gauges.g i).across.hi, Go.SE.SV.int Go.IntKind.i64 (p.gauges.g i).bend], Go.SE.SV.sl (nat_lit 3) p.marks.n fun (i : Nat) ↦ [Go.SE.SV.int Go.IntKind.i64 (p.marks.g i).edge, Go.SE.SV.int Go.IntKind.i64 (p.marks.g i).place, Go.SE.SV.int Go.IntKind.i64 (p.marks.g
 i).tone]] (nat_lit 0) = Go.SE.SV.ref [Go.SE.SV.int Go.IntKind.i64 p.id, Go.SE.SV.int Go.IntKind.i64 p.colour, Go.SE.SV.int Go.IntKind.i64 p.rev, Go.SE.SV.int Go.IntKind.i64 p.made, Go.SE.SV.int Go.IntKind.i64 p.swell, Go.SE.SV.sl (nat_lit 5) p.gauges.n fun (i : Nat) ↦ [Go.SE.SV.int Go.IntKind.i64 (p.gauges.g i).edge.lo, Go.SE.SV.int Go.IntKind.i64 (p.gauges.g i).edge.hi, Go.SE.SV.int
 Go.IntKind.i64 (p.gauges.g i).across.lo, Go.SE.SV.int Go.IntKind.i64 (p.gauges.g i).across.hi, Go.SE.SV.int Go.IntKind.i64 (p.gauges.g i).bend], Go.SE.SV.sl (nat_lit 3) p.marks.n fun (i : Nat) ↦ [Go.SE.SV.int Go.IntKind.i64 (p.marks.g i).edge, Go.SE.SV.int Go.IntKind.i64 (p.marks.g i).place, Go.SE.SV.int Go.IntKind.i64 (p.marks.g i).tone]] (nat_lit 0) ∧ vk (nat_lit 6) = vk (nat_lit 6) ∧ vk
 (nat_lit 3) = vk (nat_lit 3) ∧ vk (nat_lit 2) = vk (nat_lit 2) ∧ (L.cnt (L.fitK p l) k = L.cnt (L.fitK p l) (k + (1 : Nat)) ∧ ∀ (i : Nat), i < L.cnt (L.fitK p l) k → [Go.SE.SV.int Go.IntKind.i64 (L.sett (L.selN (L.fitK p l) k i)).shift, Go.SE.SV.bool (L.sett (L.selN (L.fitK p l) k i)).back] = [Go.SE.SV.int Go.IntKind.i64 (L.sett (L.selN (L.fitK p l) (k + (1 : Nat)) i)).shift, Go.SE.SV.bool (L.sett
 (L.selN (L.fitK p l) (k + (1 : Nat)) i)).back]) ∧ k + (1 : Nat) ≤ (2 : Nat) * p.gauges.n)) ∧ ∀ (t : Nat), Int.toNat ((2 : Int) * (↑p.gauges.n : Int)) ≤ (2 : Nat) * p.gauges.n → (L.cnt (L.fitK p l) (Int.toNat ((2 : Int) * (↑p.gauges.n : Int))) = L.setN p l ∧ ∀ (i : Nat), i < L.cnt (L.fitK p l) (Int.toNat ((2 : Int) * (↑p.gauges.n : Int))) → [Go.SE.SV.int Go.IntKind.i64 (L.sett (L.selN (L.fitK p l)
 (Int.toNat ((2 : Int) * (↑p.gauges.n : Int))) i)).shift, Go.SE.SV.bool (L.sett (L.selN (L.fitK p l) (Int.toNat ((2 : Int) * (↑p.gauges.n : Int))) i)).back] = [Go.SE.SV.int Go.IntKind.i64 (L.setG p l i).shift, Go.SE.SV.bool (L.setG p l i).back]) ∧ (0 : Int) = L.setE p l))) (by kernel_rfl) (by
    obtain ⟨h1, h2, h3⟩ := hp
    refine ⟨⟨fun _ _ => rfl, fun _ _ => rfl, h1, h2⟩, fun h => ?_, fun h => ⟨⟨fun _ _ => rfl, h3⟩, fun h4 => ?_, fun h4 => ?_⟩⟩
    · have hv : L.validPiece p = false := notT h
      have e : L.setE p l = 30 := by unfold L.setE; rw [hv]; rfl
      unfold L.setN; rw [e]; exact ⟨rfl, rfl⟩
    · have hv : L.validPiece p = true := notF h
      have hv2 : L.validOutline l = false := notT h4
      have e : L.setE p l = 1 := by unfold L.setE; rw [hv, hv2]; rfl
      unfold L.setN; rw [e]; exact ⟨rfl, rfl⟩
    have hv : L.validPiece p = true := notF h
    have hv2 : L.validOutline l = true := notF h4
    have e : L.setE p l = 0 := by unfold L.setE; rw [hv, hv2]; rfl
    have hgg := piece_gauges hv
    obtain ⟨⟨g3, g24⟩, hg⟩ := gauge_ok hgg
    have et : (2 * (p.gauges.n : Int)).toNat = 2 * p.gauges.n := by omega
    rw [et]
    refine ⟨trivial, ⟨by omega, (0 : Nat), ⟨rfl, fun i hi => absurd hi (Nat.not_lt_zero _)⟩, Nat.zero_le _⟩, fun k t vk hk hi => ?_, fun t _ => ⟨⟨?_, fun i hi => rfl⟩, e.symm⟩⟩
    · have hs := sett_lt hk
      have hc := cnt_le (p := L.fitK p l) (n := k)
      refine ⟨⟨fun _ _ => rfl, fun _ _ => rfl, fun _ _ => rfl, hv2, hgg, hs.1, hs.2⟩, fun h5 => ?_, fun h5 => ?_⟩
      · have h5 : L.fitK p l k = true := h5
        have c1 := cnt_yes h5
        refine ⟨show (L.cnt (L.fitK p l) k + 1) * 16 ≤ 140737488355328 by omega, t, rfl, rfl, rfl, rfl, rfl, rfl, ⟨c1.symm, fun i hi => ?_⟩, by omega⟩
        have hi : i < L.cnt (L.fitK p l) k + 1 := hi
        unfold appGet
        by_cases h' : i < L.cnt (L.fitK p l) k
        · rw [if_pos h', selN_old (Nat.ne_of_lt h')]
        · have : i = L.cnt (L.fitK p l) k := by omega
          rw [if_neg h', this, selN_new h5]
      · have h5 : L.fitK p l k = false := h5
        exact ⟨t, rfl, rfl, rfl, rfl, rfl, rfl, ⟨(cnt_not h5).symm, fun i hi => by rw [selN_not h5]⟩, by omega⟩
    · unfold L.setN; rw [e]; rfl)
theorem g_Settings_ok : SpecOk Try.prog 41 g_Settings_S := fnX Try.func41 (c := bodyOf Try.f41) (by kernel_rfl) mixed (fun args p r hs hp => by
  unfold g_Settings_s at hs
  split at hs
  · cases hs; exact ⟨_, _, g_Settings_vc _ _ hp.2.2.2, (.p (.agg rfl (fun i hi => by
      rcases i with _ | i
      · exact (Ext.refl _ : Ext _ _)
      rcases i with _ | i
      · exact (Ext.refl _ : Ext _ _)
      rcases i with _ | i
      · exact (Ext.refl _ : Ext _ _)
      rcases i with _ | i
      · exact (Ext.refl _ : Ext _ _)
      rcases i with _ | i
      · exact (Ext.refl _ : Ext _ _)
      rcases i with _ | i
      · exact (Ext.sl hp.1 : Ext _ _)
      rcases i with _ | i
      · exact (Ext.sl hp.2.1 : Ext _ _)
      exact absurd hi (by simp; try omega))) (.p (.sl hp.2.2.1) .nil)), ⟨show SpecsL Try.prog _ from (SpecsL.cons g_ValidPiece_ok g_ValidPiece_en (SpecsL.cons p_ValidOutline_ok p_ValidOutline_en (SpecsL.cons g_all_ok g_all_en (SpecsL.cons g_fits_ok g_fits_en SpecsL.nil)))), rfl, ⟨show ItersL Try.prog _ from (ItersL.cons g_all1_itok g_all1_en ItersL.nil), (TrsOk.none (fun _ => rfl))⟩⟩⟩
  · cases hs)
theorem g_Settings_en : Enters Try.prog 41 := fun args w => by kernel_rfl
end Go.Proofs.Ytipaekbdalahdaa

namespace Go.Proofs.Ytipaekbdalahdaa
open Go.SE Go.RowKit
set_option maxRecDepth 100000
set_option maxHeartbeats 4000000
set_option linter.unusedVariables false
attribute [local irreducible] Go.SE.vc

def L.sameS (a b : L.Setting) : Bool := decide (a.shift = b.shift) && (a.back == b.back)
def L.sameSs (a b : L.Sq L.Setting) : Bool := bif decide ((a.n : Int) = b.n) then L.allB a.n (fun i => L.sameS (a.g i) (b.g i)) else false
theorem sett_even (g : Nat) : L.sett (2 * g) = ⟨(g : Int), false⟩ := by
  unfold L.sett
  rw [Int.tdiv_eq_ediv_of_nonneg (by omega), Int.tmod_eq_emod_of_nonneg (by omega), decide_eq_false (by omega), show ((2 * g : Nat) : Int) / 2 = (g : Int) by omega]
theorem sett_odd (g : Nat) : L.sett (2 * g + 1) = ⟨(g : Int), true⟩ := by
  unfold L.sett
  rw [Int.tdiv_eq_ediv_of_nonneg (by omega), Int.tmod_eq_emod_of_nonneg (by omega), decide_eq_true (by omega), show ((2 * g + 1 : Nat) : Int) / 2 = (g : Int) by omega]
theorem sameS_refl (a : L.Setting) : L.sameS a a = true := by simp [L.sameS]
theorem sameSs_refl (a : L.Sq L.Setting) : L.sameSs a a = true := by
  unfold L.sameSs
  rw [decide_eq_true rfl, allB_iff.2 (fun i _ => sameS_refl (a.g i))]; rfl
def r1_ValidSetting_p (s : L.Setting) (n : Int) : Prop := True
def r1_ValidSetting_r (s : L.Setting) (n : Int) : SV := .bool (L.validSet s n)
def r1_ValidSetting_s : List EV → Option (Prop × SV)
  | [.p (.agg [.int .i64 s_shift, .bool s_back]), .p (.int .i64 n)] => some (r1_ValidSetting_p (⟨s_shift, s_back⟩ : L.Setting) n, r1_ValidSetting_r (⟨s_shift, s_back⟩ : L.Setting) n)
  | _ => none
abbrev r1_ValidSetting_S : SE.Spec := (specO r1_ValidSetting_s)
def r1_ValidSetting_C : Cfg := { muts := [], frz := lookN [], specs := lookS [], loops := lookL [], iters := lookI [], rfs := lookR [], nils := lookM [] }
theorem r1_ValidSetting_vc (s : L.Setting) (n : Int) (hp : r1_ValidSetting_p s n) : vc Try.prog (r1_ValidSetting_C) (bodyOf Try.f47) (st0 Try.f47 [.p (.agg [.int .i64 s.shift, .bool s.back]), .p (.int .i64 n)]) (retFn Try.prog Try.f47 (r1_ValidSetting_r s n)) :=
  @Eq.mpr _ ((bif bif bif Decidable.decide ((3 : Int) ≤ n) then Decidable.decide (n ≤ (24 : Int)) else Bool.false then Decidable.decide ((0 : Int) ≤ s.shift) else Bool.false then Decidable.decide (s.shift < n) else Bool.false) = L.validSet s n) (by kernel_rfl) (by
    rw [Bool.eq_iff_iff, validSet_iff, band, band, band, Bool.and_eq_true, Bool.and_eq_true, Bool.and_eq_true, decide_eq_true_eq, decide_eq_true_eq, decide_eq_true_eq, decide_eq_true_eq]
    omega)
theorem r1_ValidSetting_ok : SpecOk Try.prog 47 r1_ValidSetting_S := fnX Try.func47 (c := bodyOf Try.f47) (by kernel_rfl) mixed (fun args p r hs hp => by
  unfold r1_ValidSetting_s at hs
  split at hs
  · cases hs; exact ⟨_, _, r1_ValidSetting_vc _ _ hp, (.same _ (.same _ .nil)), ⟨show SpecsL Try.prog _ from SpecsL.nil, rfl, ⟨show ItersL Try.prog _ from ItersL.nil, (TrsOk.none (fun _ => rfl))⟩⟩⟩
  · cases hs)
theorem r1_ValidSetting_en : Enters Try.prog 47 := fun args w => by kernel_rfl
theorem r1_ValidSetting_B : ∀ args p r, r1_ValidSetting_s args = some (p, r) → ∃ b, r = .bool b := by
  intro args p r h
  unfold r1_ValidSetting_s at h
  split at h
  · cases h; exact ⟨_, rfl⟩
  · cases h
def r1_All_p (n : Int) : Prop := 0 ≤ n ∧ n ≤ 1000
def r1_All_q (n : Int) : Nat → Prop := fun _ => True
def r1_All_n (n : Int) : Nat → Nat := fun _ => (2 * n).toNat
def r1_All_g (n : Int) : Nat → Nat → List SV := fun _ i => [.int .i64 ((L.sett i).shift), .bool ((L.sett i).back)]
def r1_All_s : List EV → Option (Prop × (Nat → Prop) × (Nat → Nat) × (Nat → Nat → List SV))
  | [.p (.int .i64 n)] => some (r1_All_p n, r1_All_q n, r1_All_n n, r1_All_g n)
  | _ => none
abbrev r1_All_S : SE.Spec := (specF Nat 0 65 2 r1_All_s)
def r1_All_C : Cfg := { muts := [], frz := lookN [], specs := lookS [], loops := fun _ => none, iters := lookI [], rfs := lookR [], nils := lookM [(2, [(3, 20, 65, 2)])] }
theorem r1_All_vc (n : Int) (hp : r1_All_p n) : vc Try.prog ({ r1_All_C with loops := lookL [(3, { T := Nat, keep := [0, 3], keepO := [], chg := fun i => [(4, .p (.int .i64 (i : Int)))], own := fun i => [(20, .row 65 2 (2 * i) (fun k => [.int .i64 ((L.sett k).shift), .bool ((L.sett k).back)]))], inv := fun i => i ≤ n.toNat, mu := fun i => n.toNat - i })], rfs := lookR [] }) (bodyOf Try.f86) (st0 Try.f86 [.p (.int .i64 n)]) (retFresh Try.prog Try.f86 (Nat) (r1_All_q n) 65 2 (r1_All_n n) (r1_All_g n)) :=
  @Eq.mpr _ ((∃ (g : Nat), (0 : Int) = (↑g : Int) ∧ (nat_lit 0 = (2 : Nat) * g ∧ ∀ (i : Nat), i < nat_lit 0 → [] = [Go.SE.SV.int Go.IntKind.i64 (L.sett i).shift, Go.SE.SV.bool (L.sett i).back]) ∧ g ≤ Int.toNat n) ∧ ∀ (g : Nat), g ≤ Int.toNat n → (Decidable.decide ((↑g : Int) < n) = Bool.true → ((2 : Nat) * g + nat_lit 1) * nat_lit 16 ≤ (140737488355328 : Nat) ∧ ((2 : Nat) * g + nat_lit 1 + nat_lit 1) * nat_lit
 16 ≤ (140737488355328 : Nat) ∧ Go.SE.InK Go.IntKind.i64 ((↑g : Int) + (1 : Int)) ∧ ∃ (g' : Nat), (↑g : Int) + (1 : Int) = (↑g' : Int) ∧ n = n ∧ ((2 : Nat) * g + nat_lit 1 + nat_lit 1 = (2 : Nat) * g' ∧ ∀ (i : Nat), i < (2 : Nat) * g + nat_lit 1 + nat_lit 1 → Go.SE.appGet ((2 : Nat) * g + nat_lit 1) (Go.SE.appGet ((2 : Nat) * g) (fun (k : Nat) ↦ [Go.SE.SV.int Go.IntKind.i64 (L.sett k).shift,
 Go.SE.SV.bool (L.sett k).back]) fun (x : Nat) ↦ [Go.SE.SV.int Go.IntKind.i64 (↑g : Int), Go.SE.SV.bool Bool.false]) (fun (x : Nat) ↦ [Go.SE.SV.int Go.IntKind.i64 (↑g : Int), Go.SE.SV.bool Bool.true]) i = [Go.SE.SV.int Go.IntKind.i64 (L.sett i).shift, Go.SE.SV.bool (L.sett i).back]) ∧ g' ≤ Int.toNat n ∧ Int.toNat n - g' < Int.toNat n - g) ∧ (Decidable.decide ((↑g : Int) < n) = Bool.false → ∃ (t :
 Nat), ((2 : Nat) * g = Int.toNat ((2 : Int) * n) ∧ ∀ (i : Nat), i < (2 : Nat) * g → [Go.SE.SV.int Go.IntKind.i64 (L.sett i).shift, Go.SE.SV.bool (L.sett i).back] = [Go.SE.SV.int Go.IntKind.i64 (L.sett i).shift, Go.SE.SV.bool (L.sett i).back]) ∧ True)) (by kernel_rfl) (by
    obtain ⟨h0, h1⟩ := hp
    refine ⟨⟨(0 : Nat), rfl, ⟨rfl, fun i hi => absurd hi (Nat.not_lt_zero _)⟩, Nat.zero_le _⟩, fun g hg => ⟨fun hlt => ?_, fun hge => ?_⟩⟩
    · have hb : (g : Int) < n := of_decide_eq_true hlt
      refine ⟨show (2 * g + 1) * 16 ≤ 140737488355328 by omega, show (2 * g + 1 + 1) * 16 ≤ 140737488355328 by omega, InK.of (by omega) (by omega), g + 1, by omega, rfl, ⟨by show 2 * g + 1 + 1 = 2 * (g + 1); omega, fun i hi => ?_⟩, by omega, by omega⟩
      have hi : i < 2 * g + 1 + 1 := hi
      unfold appGet
      by_cases c1 : i < 2 * g + 1
      · rw [if_pos c1]
        by_cases c2 : i < 2 * g
        · rw [if_pos c2]
        · obtain rfl : i = 2 * g := by omega
          rw [if_neg c2, sett_even]
      · obtain rfl : i = 2 * g + 1 := by omega
        rw [if_neg c1, sett_odd]
    · have hb : ¬ (g : Int) < n := of_decide_eq_false hge
      exact ⟨(0 : Nat), ⟨by omega, fun _ _ => rfl⟩, trivial⟩)
theorem r1_All_ok : SpecOk Try.prog 86 r1_All_S := freshX Try.func86 (c := bodyOf Try.f86) (by kernel_rfl) mixed (fun args p q n g hs hp => by
  unfold r1_All_s at hs
  split at hs
  · cases hs; exact ⟨_, _, r1_All_vc _ hp, (.same _ .nil), ⟨show SpecsL Try.prog _ from SpecsL.nil, rfl, ⟨show ItersL Try.prog _ from ItersL.nil, (TrsOk.none (fun _ => rfl))⟩⟩⟩
  · cases hs)
theorem r1_All_en : Enters Try.prog 86 := fun args w => by kernel_rfl
def r1_SameSettings_p (a : (L.Sq L.Setting)) (b : (L.Sq L.Setting)) : Prop := a.n ≤ 1000000
def r1_SameSettings_r (a : (L.Sq L.Setting)) (b : (L.Sq L.Setting)) : SV := .bool (L.sameSs a b)
def r1_SameSettings_s : List EV → Option (Prop × SV)
  | [.p (.sl 2 a_n a_g), .p (.sl 2 b_n b_g)] => some ((∀ i, i < a_n → a_g i = [.int .i64 ((ofSetting (a_g i)).shift), .bool ((ofSetting (a_g i)).back)]) ∧ (∀ i, i < b_n → b_g i = [.int .i64 ((ofSetting (b_g i)).shift), .bool ((ofSetting (b_g i)).back)]) ∧ r1_SameSettings_p (⟨a_n, fun i => ofSetting (a_g i)⟩ : (L.Sq L.Setting)) (⟨b_n, fun i => ofSetting (b_g i)⟩ : (L.Sq L.Setting)), r1_SameSettings_r (⟨a_n, fun i => ofSetting (a_g i)⟩ : (L.Sq L.Setting)) (⟨b_n, fun i => ofSetting (b_g i)⟩ : (L.Sq L.Setting)))
  | _ => none
abbrev r1_SameSettings_S : SE.Spec := (specO r1_SameSettings_s)
def r1_SameSettings_C : Cfg := { muts := [], frz := lookN [], specs := lookS [], loops := fun _ => none, iters := lookI [], rfs := lookR [], nils := lookM [] }
theorem r1_SameSettings_vc (a : (L.Sq L.Setting)) (b : (L.Sq L.Setting)) (hp : r1_SameSettings_p a b) : vc Try.prog ({ r1_SameSettings_C with loops := lookL [(4, { T := Nat, keep := [0, 1], keepO := [], chg := fun i => [(5, .p (.int .i64 (i : Int)))], own := fun _ => [], inv := fun i => i ≤ a.n ∧ ∀ j, j < i → L.sameS (a.g j) (b.g j) = true, mu := fun i => a.n - i })], rfs := lookR [] }) (bodyOf Try.f43) (st0 Try.f43 [.p (.sl 2 a.n (fun i => [.int .i64 ((a.g i).shift), .bool ((a.g i).back)])), .p (.sl 2 b.n (fun i => [.int .i64 ((b.g i).shift), .bool ((b.g i).back)]))]) (retFn Try.prog Try.f43 (r1_SameSettings_r a b)) :=
  @Eq.mpr _ (((!Decidable.decide ((↑a.n : Int) = (↑b.n : Int))) = Bool.true → Bool.false = L.sameSs a b) ∧ ((!Decidable.decide ((↑a.n : Int) = (↑b.n : Int))) = Bool.false → (∃ (g : Nat), (0 : Int) = (↑g : Int) ∧ g ≤ a.n ∧ ∀ (j : Nat), j < g → L.sameS (a.g j) (b.g j) = Bool.true) ∧ ∀ (g : Nat), (g ≤ a.n ∧ ∀ (j : Nat), j < g → L.sameS (a.g j) (b.g j) = Bool.true) → (Decidable.decide ((↑g : Int) < (↑a.n : Int)) =
 Bool.true → ((0 : Int) ≤ (↑g : Int) ∧ (↑g : Int) < (↑a.n : Int)) ∧ ((0 : Int) ≤ (↑g : Int) ∧ (↑g : Int) < (↑b.n : Int)) ∧ ((!(Decidable.decide ((a.g (Int.toNat (↑g : Int))).shift = (b.g (Int.toNat (↑g : Int))).shift) && (a.g (Int.toNat (↑g : Int))).back == (b.g (Int.toNat (↑g : Int))).back)) = Bool.true → Bool.false = L.sameSs a b) ∧ ((!(Decidable.decide ((a.g (Int.toNat (↑g : Int))).shift = (b.g
 (Int.toNat (↑g : Int))).shift) && (a.g (Int.toNat (↑g : Int))).back == (b.g (Int.toNat (↑g : Int))).back)) = Bool.false → Go.SE.InK Go.IntKind.i64 ((↑g : Int) + (1 : Int)) ∧ ∃ (g' : Nat), (↑g : Int) + (1 : Int) = (↑g' : Int) ∧ (a.n = a.n ∧ ∀ (i : Nat), i < a.n → [Go.SE.SV.int Go.IntKind.i64 (a.g i).shift, Go.SE.SV.bool (a.g i).back] = [Go.SE.SV.int Go.IntKind.i64 (a.g i).shift, Go.SE.SV.bool (a.g
 i).back]) ∧ (b.n = b.n ∧ ∀ (i : Nat), i < b.n → [Go.SE.SV.int Go.IntKind.i64 (b.g i).shift, Go.SE.SV.bool (b.g i).back] = [Go.SE.SV.int Go.IntKind.i64 (b.g i).shift, Go.SE.SV.bool (b.g i).back]) ∧ (g' ≤ a.n ∧ ∀ (j : Nat), j < g' → L.sameS (a.g j) (b.g j) = Bool.true) ∧ a.n - g' < a.n - g)) ∧ (Decidable.decide ((↑g : Int) < (↑a.n : Int)) = Bool.false → Bool.true = L.sameSs a b))) (by kernel_rfl) (by
    have ha : a.n ≤ 1000000 := hp
    refine ⟨fun h => ?_, fun h => ?_⟩
    · unfold L.sameSs; rw [notT h]; rfl
    have hd := notF h
    have hn := of_decide_eq_true hd
    refine ⟨⟨(0 : Nat), rfl, Nat.zero_le _, fun j hj => absurd hj (Nat.not_lt_zero _)⟩, fun g hg => ⟨fun hlt => ?_, fun hge => ?_⟩⟩
    · have hb : (g : Int) < (a.n : Int) := of_decide_eq_true hlt
      have e0 : ((g : Int)).toNat = g := by omega
      rw [e0]
      refine ⟨by omega, by omega, fun h1 => ?_, fun h1 => ?_⟩
      · have h1 : L.sameS (a.g g) (b.g g) = false := notT h1
        unfold L.sameSs; rw [hd, allB_false (i := g) (by omega) h1]; rfl
      · have h1 : L.sameS (a.g g) (b.g g) = true := notF h1
        exact ⟨InK.of (by omega) (by omega), g + 1, by omega, ⟨rfl, fun _ _ => rfl⟩, ⟨rfl, fun _ _ => rfl⟩, ⟨by omega, fun j hj => by
          rcases Nat.lt_succ_iff_lt_or_eq.1 hj with h' | rfl
          · exact hg.2 j h'
          · exact h1⟩, by omega⟩
    · have hb : ¬ (g : Int) < (a.n : Int) := of_decide_eq_false hge
      unfold L.sameSs; rw [hd, allB_iff.2 (fun i hi => hg.2 i (by omega))]; rfl)
theorem r1_SameSettings_ok : SpecOk Try.prog 43 r1_SameSettings_S := fnX Try.func43 (c := bodyOf Try.f43) (by kernel_rfl) mixed (fun args p r hs hp => by
  unfold r1_SameSettings_s at hs
  split at hs
  · cases hs; exact ⟨_, _, r1_SameSettings_vc _ _ hp.2.2, (.p (.sl hp.1) (.p (.sl hp.2.1) .nil)), ⟨show SpecsL Try.prog _ from SpecsL.nil, rfl, ⟨show ItersL Try.prog _ from ItersL.nil, (TrsOk.none (fun _ => rfl))⟩⟩⟩
  · cases hs)
theorem r1_SameSettings_en : Enters Try.prog 43 := fun args w => by kernel_rfl
theorem r1_SameSettings_B : ∀ args p r, r1_SameSettings_s args = some (p, r) → ∃ b, r = .bool b := by
  intro args p r h
  unfold r1_SameSettings_s at h
  split at h
  · cases h; exact ⟨_, rfl⟩
  · cases h
def r3_Holds_p (g : L.Gauge) (m : L.Meas) : Prop := True
def r3_Holds_r (g : L.Gauge) (m : L.Meas) : SV := .bool (L.holdsR g m)
def r3_Holds_s : List EV → Option (Prop × SV)
  | [.p (.agg [.int .i64 g_edge_lo, .int .i64 g_edge_hi, .int .i64 g_across_lo, .int .i64 g_across_hi, .int .i64 g_bend]), .p (.agg [.int .i64 m_edge, .int .i64 m_across, .int .i64 m_bend])] => some (r3_Holds_p (⟨(⟨g_edge_lo, g_edge_hi⟩ : L.Span), (⟨g_across_lo, g_across_hi⟩ : L.Span), g_bend⟩ : L.Gauge) (⟨m_edge, m_across, m_bend⟩ : L.Meas), r3_Holds_r (⟨(⟨g_edge_lo, g_edge_hi⟩ : L.Span), (⟨g_across_lo, g_across_hi⟩ : L.Span), g_bend⟩ : L.Gauge) (⟨m_edge, m_across, m_bend⟩ : L.Meas))
  | _ => none
abbrev r3_Holds_S : SE.Spec := (specO r3_Holds_s)
def r3_Holds_C : Cfg := { muts := [], frz := lookN [], specs := lookS [(59, r3_within_S)], loops := lookL [], iters := lookI [], rfs := lookR [], nils := lookM [] }
theorem r3_Holds_vc (g : L.Gauge) (m : L.Meas) (hp : r3_Holds_p g m) : vc Try.prog (r3_Holds_C) (bodyOf Try.f129) (st0 Try.f129 [.p (.agg [.int .i64 g.edge.lo, .int .i64 g.edge.hi, .int .i64 g.across.lo, .int .i64 g.across.hi, .int .i64 g.bend]), .p (.agg [.int .i64 m.edge, .int .i64 m.across, .int .i64 m.bend])]) (retFn Try.prog Try.f129 (r3_Holds_r g m)) :=
  @Eq.mpr _ (True ∧ (L.within m.edge g.edge.lo g.edge.hi = Bool.true → True) ∧ (bif bif L.within m.edge g.edge.lo g.edge.hi then L.within m.across g.across.lo g.across.hi else Bool.false then bif Decidable.decide (g.bend = (0 : Int)) then Bool.true else Decidable.decide (g.bend = m.bend) else Bool.false) = L.holdsR g m) (by kernel_rfl) (by
    exact ⟨trivial, fun _ => trivial, rfl⟩)
theorem r3_Holds_ok : SpecOk Try.prog 129 r3_Holds_S := fnX Try.func129 (c := bodyOf Try.f129) (by kernel_rfl) mixed (fun args p r hs hp => by
  unfold r3_Holds_s at hs
  split at hs
  · cases hs; exact ⟨_, _, r3_Holds_vc _ _ hp, (.same _ (.same _ .nil)), ⟨show SpecsL Try.prog _ from (SpecsL.cons r3_within_ok r3_within_en SpecsL.nil), rfl, ⟨show ItersL Try.prog _ from ItersL.nil, (TrsOk.none (fun _ => rfl))⟩⟩⟩
  · cases hs)
theorem r3_Holds_en : Enters Try.prog 129 := fun args w => by kernel_rfl
theorem r3_Holds_B : ∀ args p r, r3_Holds_s args = some (p, r) → ∃ b, r = .bool b := by
  intro args p r h
  unfold r3_Holds_s at h
  split at h
  · cases h; exact ⟨_, rfl⟩
  · cases h
def r3_fits_p (p : L.Piece) (l : (L.Sq L.Pt)) (s : L.Setting) : Prop := L.fitP p l s
def r3_fits_r (p : L.Piece) (l : (L.Sq L.Pt)) (s : L.Setting) : SV := .bool (L.fits p l s)
def r3_fits_s : List EV → Option (Prop × SV)
  | [.p (.agg [.int .i64 p_id, .int .i64 p_colour, .int .i64 p_rev, .int .i64 p_made, .int .i64 p_swell, .sl 5 p_gauges_n p_gauges_g, .sl 3 p_marks_n p_marks_g]), .p (.sl 2 l_n l_g), .p (.agg [.int .i64 s_shift, .bool s_back])] => some ((∀ i, i < p_gauges_n → p_gauges_g i = [.int .i64 ((ofGauge (p_gauges_g i)).edge.lo), .int .i64 ((ofGauge (p_gauges_g i)).edge.hi), .int .i64 ((ofGauge (p_gauges_g i)).across.lo), .int .i64 ((ofGauge (p_gauges_g i)).across.hi), .int .i64 ((ofGauge (p_gauges_g i)).bend)]) ∧ (∀ i, i < p_marks_n → p_marks_g i = [.int .i64 ((ofMark (p_marks_g i)).edge), .int .i64 ((ofMark (p_marks_g i)).place), .int .i64 ((ofMark (p_marks_g i)).tone)]) ∧ (∀ i, i < l_n → l_g i = [.int .i64 ((ofPt (l_g i)).x), .int .i64 ((ofPt (l_g i)).y)]) ∧ r3_fits_p (⟨p_id, p_colour, p_rev, p_made, p_swell, (⟨p_gauges_n, fun i => ofGauge (p_gauges_g i)⟩ : (L.Sq L.Gauge)), (⟨p_marks_n, fun i => ofMark (p_marks_g i)⟩ : (L.Sq L.Mark))⟩ : L.Piece) (⟨l_n, fun i => ofPt (l_g i)⟩ : (L.Sq L.Pt)) (⟨s_shift, s_back⟩ : L.Setting), r3_fits_r (⟨p_id, p_colour, p_rev, p_made, p_swell, (⟨p_gauges_n, fun i => ofGauge (p_gauges_g i)⟩ : (L.Sq L.Gauge)), (⟨p_marks_n, fun i => ofMark (p_marks_g i)⟩ : (L.Sq L.Mark))⟩ : L.Piece) (⟨l_n, fun i => ofPt (l_g i)⟩ : (L.Sq L.Pt)) (⟨s_shift, s_back⟩ : L.Setting))
  | _ => none
abbrev r3_fits_S : SE.Spec := (specO r3_fits_s)
def r3_fits_C : Cfg := { muts := [], frz := lookN [], specs := lookS [(66, r3_measure_S), (129, r3_Holds_S)], loops := fun _ => none, iters := lookI [], rfs := lookR [], nils := lookM [] }
theorem r3_fits_vc (p : L.Piece) (l : (L.Sq L.Pt)) (s : L.Setting) (hp : r3_fits_p p l s) : vc Try.prog ({ r3_fits_C with loops := lookL [(4, { T := Nat, keep := [1, 3, 5], keepO := [], chg := fun i => [(7, .p (.int .i64 (i : Int)))], own := fun _ => [], inv := fun i => i ≤ l.n ∧ ∀ j, j < i → L.holdsR (p.gauges.g j) (L.meas l s j) = true, mu := fun i => l.n - i })], rfs := lookR [] }) (bodyOf Try.f84) (st0 Try.f84 [.p (.agg [.int .i64 p.id, .int .i64 p.colour, .int .i64 p.rev, .int .i64 p.made, .int .i64 p.swell, .sl 5 p.gauges.n (fun i => [.int .i64 ((p.gauges.g i).edge.lo), .int .i64 ((p.gauges.g i).edge.hi), .int .i64 ((p.gauges.g i).across.lo), .int .i64 ((p.gauges.g i).across.hi), .int .i64 ((p.gauges.g i).bend)]), .sl 3 p.marks.n (fun i => [.int .i64 ((p.marks.g i).edge), .int .i64 ((p.marks.g i).place), .int .i64 ((p.marks.g i).tone)])]), .p (.sl 2 l.n (fun i => [.int .i64 ((l.g i).x), .int .i64 ((l.g i).y)])), .p (.agg [.int .i64 s.shift, .bool s.back])]) (retFn Try.prog Try.f84 (r3_fits_r p l s)) :=
  @Eq.mpr _ (((!Decidable.decide ((↑p.gauges.n : Int) = (↑l.n : Int))) = Bool.true → Bool.false = L.fits p l s) ∧ ((!Decidable.decide ((↑p.gauges.n : Int) = (↑l.n : Int))) = Bool.false → (∃ (g : Nat), (0 : Int) = (↑g : Int) ∧ g ≤ l.n ∧ ∀ (j : Nat), j < g → L.holdsR (p.gauges.g j) (L.meas l s j) = Bool.true) ∧ ∀ (g : Nat), (g ≤ l.n ∧ ∀ (j : Nat), j < g → L.holdsR (p.gauges.g j) (L.meas l s j) = Bool.true) →
 (Decidable.decide ((↑g : Int) < (↑l.n : Int)) = Bool.true → ((0 : Int) ≤ (↑g : Int) ∧ (↑g : Int) < (↑p.gauges.n : Int)) ∧ ((∀ (i : Nat), i < l.n → [Go.SE.SV.int Go.IntKind.i64 (l.g i).x, Go.SE.SV.int Go.IntKind.i64 (l.g i).y] = [Go.SE.SV.int Go.IntKind.i64 (l.g i).x, Go.SE.SV.int Go.IntKind.i64 (l.g i).y]) ∧ L.allBd (L.Sq.mk l.n fun (i : Nat) ↦ l.g i) ∧ (1 : Nat) ≤ l.n ∧ (-10000 : Int) ≤ (↑g :
 Int) ∧ (↑g : Int) ≤ (10000 : Int) ∧ (-10000 : Int) ≤ s.shift ∧ s.shift ≤ (10000 : Int)) ∧ True ∧ ((!L.holdsR (p.gauges.g (Int.toNat (↑g : Int))) (L.measR (L.Sq.mk l.n fun (i : Nat) ↦ l.g i) s (↑g : Int))) = Bool.true → Bool.false = L.fits p l s) ∧ ((!L.holdsR (p.gauges.g (Int.toNat (↑g : Int))) (L.measR (L.Sq.mk l.n fun (i : Nat) ↦ l.g i) s (↑g : Int))) = Bool.false → Go.SE.InK Go.IntKind.i64 ((↑g
 : Int) + (1 : Int)) ∧ ∃ (g' : Nat), (↑g : Int) + (1 : Int) = (↑g' : Int) ∧ Go.SE.SV.ref [Go.SE.SV.int Go.IntKind.i64 s.shift, Go.SE.SV.bool s.back] (nat_lit 0) = Go.SE.SV.ref [Go.SE.SV.int Go.IntKind.i64 s.shift, Go.SE.SV.bool s.back] (nat_lit 0) ∧ Go.SE.SV.ref [Go.SE.SV.int Go.IntKind.i64 p.id, Go.SE.SV.int Go.IntKind.i64 p.colour, Go.SE.SV.int Go.IntKind.i64 p.rev, Go.SE.SV.int Go.IntKind.i64
 p.made, Go.SE.SV.int Go.IntKind.i64 p.swell, Go.SE.SV.sl (nat_lit 5) p.gauges.n fun (i : Nat) ↦ [Go.SE.SV.int Go.IntKind.i64 (p.gauges.g i).edge.lo, Go.SE.SV.int Go.IntKind.i64 (p.gauges.g i).edge.hi, Go.SE.SV.int Go.IntKind.i64 (p.gauges.g i).across.lo, Go.SE.SV.int Go.IntKind.i64 (p.gauges.g i).across.hi, Go.SE.SV.int Go.IntKind.i64 (p.gauges.g i).bend], Go.SE.SV.sl (nat_lit 3) p.marks.n fun (i
 : Nat) ↦ [Go.SE.SV.int Go.IntKind.i64 (p.marks.g i).edge, Go.SE.SV.int Go.IntKind.i64 (p.marks.g i).place, Go.SE.SV.int Go.IntKind.i64 (p.marks.g i).tone]] (nat_lit 0) = Go.SE.SV.ref [Go.SE.SV.int Go.IntKind.i64 p.id, Go.SE.SV.int Go.IntKind.i64 p.colour, Go.SE.SV.int Go.IntKind.i64 p.rev, Go.SE.SV.int Go.IntKind.i64 p.made, Go.SE.SV.int Go.IntKind.i64 p.swell, Go.SE.SV.sl (nat_lit 5) p.gauges.n
 fun (i : Nat) ↦ [Go.SE.SV.int Go.IntKind.i64 (p.gauges.g i).edge.lo, Go.SE.SV.int Go.IntKind.i64 (p.gauges.g i).edge.hi, Go.SE.SV.int Go.IntKind.i64 (p.gauges.g i).across.lo, Go.SE.SV.int Go.IntKind.i64 (p.gauges.g i).across.hi, Go.SE.SV.int Go.IntKind.i64 (p.gauges.g i).bend], Go.SE.SV.sl (nat_lit 3) p.marks.n fun (i : Nat) ↦ [Go.SE.SV.int Go.IntKind.i64 (p.marks.g i).edge, Go.SE.SV.int
 Go.IntKind.i64 (p.marks.g i).place, Go.SE.SV.int Go.IntKind.i64 (p.marks.g i).tone]] (nat_lit 0) ∧ (l.n = l.n ∧ ∀ (i : Nat), i < l.n → [Go.SE.SV.int Go.IntKind.i64 (l.g i).x, Go.SE.SV.int Go.IntKind.i64 (l.g i).y] = [Go.SE.SV.int Go.IntKind.i64 (l.g i).x, Go.SE.SV.int Go.IntKind.i64 (l.g i).y]) ∧ (g' ≤ l.n ∧ ∀ (j : Nat), j < g' → L.holdsR (p.gauges.g j) (L.meas l s j) = Bool.true) ∧ l.n - g' < l.n
 - g)) ∧ (Decidable.decide ((↑g : Int) < (↑l.n : Int)) = Bool.false → Bool.true = L.fits p l s))) (by kernel_rfl) (by
    obtain ⟨hv, hgg, s0, s1⟩ := hp
    obtain ⟨⟨g3, g24⟩, hg⟩ := gauge_ok hgg
    obtain ⟨n3, n24, hsm, hbd⟩ := validOutline_of hv
    refine ⟨fun h => ?_, fun h => ?_⟩
    · have := of_decide_eq_false (notT h)
      unfold L.fits; rw [decide_eq_false (show ¬ (l.n : Int) = (p.gauges.n : Int) by omega)]; rfl
    have hn : l.n = p.gauges.n := by have := of_decide_eq_true (notF h); omega
    have hd : decide ((l.n : Int) = (p.gauges.n : Int)) = true := decide_eq_true (by omega)
    refine ⟨⟨(0 : Nat), rfl, Nat.zero_le _, fun j hj => absurd hj (Nat.not_lt_zero _)⟩, fun g hgl => ⟨fun hlt => ?_, fun hge => ?_⟩⟩
    · have hb : (g : Int) < (l.n : Int) := of_decide_eq_true hlt
      have e0 : ((g : Int)).toNat = g := by omega
      have hm : L.measR (L.Sq.mk l.n fun i => l.g i) s (g : Int) = L.meas l s g := (meas_eq hv s0 (by omega) (by omega)).symm
      rw [e0, hm]
      refine ⟨by omega, ⟨fun _ _ => rfl, hbd, by omega, by omega, by omega, by omega, by omega⟩, trivial, fun h1 => ?_, fun h1 => ?_⟩
      · unfold L.fits; rw [hd, allB_false (i := g) (by omega) (notT h1)]; rfl
      · exact ⟨InK.of (by omega) (by omega), g + 1, by omega, rfl, rfl, ⟨rfl, fun _ _ => rfl⟩, ⟨by omega, fun j hj => by
          rcases Nat.lt_succ_iff_lt_or_eq.1 hj with h' | rfl
          · exact hgl.2 j h'
          · exact notF h1⟩, by omega⟩
    · have hb : ¬ (g : Int) < (l.n : Int) := of_decide_eq_false hge
      unfold L.fits; rw [hd, allB_iff.2 (fun i hi => hgl.2 i (by omega))]; rfl)
theorem r3_fits_ok : SpecOk Try.prog 84 r3_fits_S := fnX Try.func84 (c := bodyOf Try.f84) (by kernel_rfl) mixed (fun args p r hs hp => by
  unfold r3_fits_s at hs
  split at hs
  · cases hs; exact ⟨_, _, r3_fits_vc _ _ _ hp.2.2.2, (.p (.agg rfl (fun i hi => by
      rcases i with _ | i
      · exact (Ext.refl _ : Ext _ _)
      rcases i with _ | i
      · exact (Ext.refl _ : Ext _ _)
      rcases i with _ | i
      · exact (Ext.refl _ : Ext _ _)
      rcases i with _ | i
      · exact (Ext.refl _ : Ext _ _)
      rcases i with _ | i
      · exact (Ext.refl _ : Ext _ _)
      rcases i with _ | i
      · exact (Ext.sl hp.1 : Ext _ _)
      rcases i with _ | i
      · exact (Ext.sl hp.2.1 : Ext _ _)
      exact absurd hi (by simp; try omega))) (.p (.sl hp.2.2.1) (.same _ .nil))), ⟨show SpecsL Try.prog _ from (SpecsL.cons r3_measure_ok r3_measure_en (SpecsL.cons r3_Holds_ok r3_Holds_en SpecsL.nil)), rfl, ⟨show ItersL Try.prog _ from ItersL.nil, (TrsOk.none (fun _ => rfl))⟩⟩⟩
  · cases hs)
theorem r3_fits_en : Enters Try.prog 84 := fun args w => by kernel_rfl
theorem r3_fits_B : ∀ args p r, r3_fits_s args = some (p, r) → ∃ b, r = .bool b := by
  intro args p r h
  unfold r3_fits_s at h
  split at h
  · cases h; exact ⟨_, rfl⟩
  · cases h
def r3_Fits_p (p : L.Piece) (l : (L.Sq L.Pt)) (s : L.Setting) : Prop := p.gauges.n ≤ 1000000 ∧ p.marks.n ≤ 1000000 ∧ l.n ≤ 1000000
def r3_Fits_r (p : L.Piece) (l : (L.Sq L.Pt)) (s : L.Setting) : SV := .tup [.bool (L.fitsV p l s), .int .i64 (L.fitsE p l s)]
def r3_Fits_s : List EV → Option (Prop × SV)
  | [.p (.agg [.int .i64 p_id, .int .i64 p_colour, .int .i64 p_rev, .int .i64 p_made, .int .i64 p_swell, .sl 5 p_gauges_n p_gauges_g, .sl 3 p_marks_n p_marks_g]), .p (.sl 2 l_n l_g), .p (.agg [.int .i64 s_shift, .bool s_back])] => some ((∀ i, i < p_gauges_n → p_gauges_g i = [.int .i64 ((ofGauge (p_gauges_g i)).edge.lo), .int .i64 ((ofGauge (p_gauges_g i)).edge.hi), .int .i64 ((ofGauge (p_gauges_g i)).across.lo), .int .i64 ((ofGauge (p_gauges_g i)).across.hi), .int .i64 ((ofGauge (p_gauges_g i)).bend)]) ∧ (∀ i, i < p_marks_n → p_marks_g i = [.int .i64 ((ofMark (p_marks_g i)).edge), .int .i64 ((ofMark (p_marks_g i)).place), .int .i64 ((ofMark (p_marks_g i)).tone)]) ∧ (∀ i, i < l_n → l_g i = [.int .i64 ((ofPt (l_g i)).x), .int .i64 ((ofPt (l_g i)).y)]) ∧ r3_Fits_p (⟨p_id, p_colour, p_rev, p_made, p_swell, (⟨p_gauges_n, fun i => ofGauge (p_gauges_g i)⟩ : (L.Sq L.Gauge)), (⟨p_marks_n, fun i => ofMark (p_marks_g i)⟩ : (L.Sq L.Mark))⟩ : L.Piece) (⟨l_n, fun i => ofPt (l_g i)⟩ : (L.Sq L.Pt)) (⟨s_shift, s_back⟩ : L.Setting), r3_Fits_r (⟨p_id, p_colour, p_rev, p_made, p_swell, (⟨p_gauges_n, fun i => ofGauge (p_gauges_g i)⟩ : (L.Sq L.Gauge)), (⟨p_marks_n, fun i => ofMark (p_marks_g i)⟩ : (L.Sq L.Mark))⟩ : L.Piece) (⟨l_n, fun i => ofPt (l_g i)⟩ : (L.Sq L.Pt)) (⟨s_shift, s_back⟩ : L.Setting))
  | _ => none
abbrev r3_Fits_S : SE.Spec := (specO r3_Fits_s)
def r3_Fits_C : Cfg := { muts := [], frz := lookN [], specs := lookS [(16, r3_ValidPiece_S), (44, r1_ValidOutline_S), (47, r1_ValidSetting_S), (84, r3_fits_S)], loops := lookL [], iters := lookI [], rfs := lookR [], nils := lookM [] }
theorem r3_Fits_vc (p : L.Piece) (l : (L.Sq L.Pt)) (s : L.Setting) (hp : r3_Fits_p p l s) : vc Try.prog (r3_Fits_C) (bodyOf Try.f40) (st0 Try.f40 [.p (.agg [.int .i64 p.id, .int .i64 p.colour, .int .i64 p.rev, .int .i64 p.made, .int .i64 p.swell, .sl 5 p.gauges.n (fun i => [.int .i64 ((p.gauges.g i).edge.lo), .int .i64 ((p.gauges.g i).edge.hi), .int .i64 ((p.gauges.g i).across.lo), .int .i64 ((p.gauges.g i).across.hi), .int .i64 ((p.gauges.g i).bend)]), .sl 3 p.marks.n (fun i => [.int .i64 ((p.marks.g i).edge), .int .i64 ((p.marks.g i).place), .int .i64 ((p.marks.g i).tone)])]), .p (.sl 2 l.n (fun i => [.int .i64 ((l.g i).x), .int .i64 ((l.g i).y)])), .p (.agg [.int .i64 s.shift, .bool s.back])]) (retFn Try.prog Try.f40 (r3_Fits_r p l s)) :=
  @Eq.mpr _ (((∀ (i : Nat), i < p.gauges.n → [Go.SE.SV.int Go.IntKind.i64 (p.gauges.g i).edge.lo, Go.SE.SV.int Go.IntKind.i64 (p.gauges.g i).edge.hi, Go.SE.SV.int Go.IntKind.i64 (p.gauges.g i).across.lo, Go.SE.SV.int Go.IntKind.i64 (p.gauges.g i).across.hi, Go.SE.SV.int Go.IntKind.i64 (p.gauges.g i).bend] = [Go.SE.SV.int Go.IntKind.i64 (p.gauges.g i).edge.lo, Go.SE.SV.int Go.IntKind.i64 (p.gauges.g i).edge.hi,
 Go.SE.SV.int Go.IntKind.i64 (p.gauges.g i).across.lo, Go.SE.SV.int Go.IntKind.i64 (p.gauges.g i).across.hi, Go.SE.SV.int Go.IntKind.i64 (p.gauges.g i).bend]) ∧ (∀ (i : Nat), i < p.marks.n → [Go.SE.SV.int Go.IntKind.i64 (p.marks.g i).edge, Go.SE.SV.int Go.IntKind.i64 (p.marks.g i).place, Go.SE.SV.int Go.IntKind.i64 (p.marks.g i).tone] = [Go.SE.SV.int Go.IntKind.i64 (p.marks.g i).edge, Go.SE.SV.int
 Go.IntKind.i64 (p.marks.g i).place, Go.SE.SV.int Go.IntKind.i64 (p.marks.g i).tone]) ∧ p.gauges.n ≤ (9223372036854775807 : Nat) ∧ p.marks.n ≤ (9223372036854775807 : Nat)) ∧ ((!L.validPiece (L.Piece.mk p.id p.colour p.rev p.made p.swell (L.Sq.mk p.gauges.n fun (i : Nat) ↦ p.gauges.g i) (L.Sq.mk p.marks.n fun (i : Nat) ↦ p.marks.g i))) = Bool.true → Bool.false = L.fitsV p l s ∧ (30 : Int) = L.fitsE
 p l s) ∧ ((!L.validPiece (L.Piece.mk p.id p.colour p.rev p.made p.swell (L.Sq.mk p.gauges.n fun (i : Nat) ↦ p.gauges.g i) (L.Sq.mk p.marks.n fun (i : Nat) ↦ p.marks.g i))) = Bool.false → ((∀ (i : Nat), i < l.n → [Go.SE.SV.int Go.IntKind.i64 (l.g i).x, Go.SE.SV.int Go.IntKind.i64 (l.g i).y] = [Go.SE.SV.int Go.IntKind.i64 (l.g i).x, Go.SE.SV.int Go.IntKind.i64 (l.g i).y]) ∧ True) ∧
 ((!!L.validOutline (L.Sq.mk l.n fun (i : Nat) ↦ l.g i)) = Bool.true → True) ∧ ((bif !L.validOutline (L.Sq.mk l.n fun (i : Nat) ↦ l.g i) then Bool.true else !L.validSet s (↑p.gauges.n : Int)) = Bool.true → Bool.false = L.fitsV p l s ∧ (1 : Int) = L.fitsE p l s) ∧ ((bif !L.validOutline (L.Sq.mk l.n fun (i : Nat) ↦ l.g i) then Bool.true else !L.validSet s (↑p.gauges.n : Int)) = Bool.false → ((∀ (i :
 Nat), i < p.gauges.n → [Go.SE.SV.int Go.IntKind.i64 (p.gauges.g i).edge.lo, Go.SE.SV.int Go.IntKind.i64 (p.gauges.g i).edge.hi, Go.SE.SV.int Go.IntKind.i64 (p.gauges.g i).across.lo, Go.SE.SV.int Go.IntKind.i64 (p.gauges.g i).across.hi, Go.SE.SV.int Go.IntKind.i64 (p.gauges.g i).bend] = [Go.SE.SV.int Go.IntKind.i64 (p.gauges.g i).edge.lo, Go.SE.SV.int Go.IntKind.i64 (p.gauges.g i).edge.hi,
 Go.SE.SV.int Go.IntKind.i64 (p.gauges.g i).across.lo, Go.SE.SV.int Go.IntKind.i64 (p.gauges.g i).across.hi, Go.SE.SV.int Go.IntKind.i64 (p.gauges.g i).bend]) ∧ (∀ (i : Nat), i < p.marks.n → [Go.SE.SV.int Go.IntKind.i64 (p.marks.g i).edge, Go.SE.SV.int Go.IntKind.i64 (p.marks.g i).place, Go.SE.SV.int Go.IntKind.i64 (p.marks.g i).tone] = [Go.SE.SV.int Go.IntKind.i64 (p.marks.g i).edge, Go.SE.SV.int
 Go.IntKind.i64 (p.marks.g i).place, Go.SE.SV.int Go.IntKind.i64 (p.marks.g i).tone]) ∧ (∀ (i : Nat), i < l.n → [Go.SE.SV.int Go.IntKind.i64 (l.g i).x, Go.SE.SV.int Go.IntKind.i64 (l.g i).y] = [Go.SE.SV.int Go.IntKind.i64 (l.g i).x, Go.SE.SV.int Go.IntKind.i64 (l.g i).y]) ∧ L.fitP (L.Piece.mk p.id p.colour p.rev p.made p.swell (L.Sq.mk p.gauges.n fun (i : Nat) ↦ p.gauges.g i) (L.Sq.mk p.marks.n fun
 (i : Nat) ↦ p.marks.g i)) (L.Sq.mk l.n fun (i : Nat) ↦ l.g i) s) ∧ L.fits (L.Piece.mk p.id p.colour p.rev p.made p.swell (L.Sq.mk p.gauges.n fun (i : Nat) ↦ p.gauges.g i) (L.Sq.mk p.marks.n fun (i : Nat) ↦ p.marks.g i)) (L.Sq.mk l.n fun (i : Nat) ↦ l.g i) s = L.fitsV p l s ∧ (0 : Int) = L.fitsE p l s))) (by kernel_rfl) (by
    obtain ⟨h1, h2, h3⟩ := hp
    refine ⟨⟨fun _ _ => rfl, fun _ _ => rfl, by omega, by omega⟩, fun h => ?_, fun h => ⟨⟨fun _ _ => rfl, trivial⟩, fun _ => trivial, fun h4 => ?_, fun h4 => ?_⟩⟩
    · have hv : L.validPiece p = false := notT h
      have e : L.fitsE p l s = 30 := by unfold L.fitsE; rw [hv]; rfl
      unfold L.fitsV; rw [e]; exact ⟨rfl, rfl⟩
    · have hv : L.validPiece p = true := notF h
      have h4 : (bif !L.validOutline l then true else !L.validSet s p.gauges.n) = true := h4
      have e : L.fitsE p l s = 1 := by unfold L.fitsE; rw [hv, h4]; rfl
      unfold L.fitsV; rw [e]; exact ⟨rfl, rfl⟩
    · have hv : L.validPiece p = true := notF h
      have h4 : (bif !L.validOutline l then true else !L.validSet s p.gauges.n) = false := h4
      have e : L.fitsE p l s = 0 := by unfold L.fitsE; rw [hv, h4]; rfl
      rw [bor, Bool.or_eq_false_iff] at h4
      have hs := validSet_iff.1 (notF h4.2)
      refine ⟨⟨fun _ _ => rfl, fun _ _ => rfl, fun _ _ => rfl, notF h4.1, piece_gauges hv, hs.2.1, hs.2.2⟩, ?_, e.symm⟩
      unfold L.fitsV; rw [e]; rfl)
theorem r3_Fits_ok : SpecOk Try.prog 40 r3_Fits_S := fnX Try.func40 (c := bodyOf Try.f40) (by kernel_rfl) mixed (fun args p r hs hp => by
  unfold r3_Fits_s at hs
  split at hs
  · cases hs; exact ⟨_, _, r3_Fits_vc _ _ _ hp.2.2.2, (.p (.agg rfl (fun i hi => by
      rcases i with _ | i
      · exact (Ext.refl _ : Ext _ _)
      rcases i with _ | i
      · exact (Ext.refl _ : Ext _ _)
      rcases i with _ | i
      · exact (Ext.refl _ : Ext _ _)
      rcases i with _ | i
      · exact (Ext.refl _ : Ext _ _)
      rcases i with _ | i
      · exact (Ext.refl _ : Ext _ _)
      rcases i with _ | i
      · exact (Ext.sl hp.1 : Ext _ _)
      rcases i with _ | i
      · exact (Ext.sl hp.2.1 : Ext _ _)
      exact absurd hi (by simp; try omega))) (.p (.sl hp.2.2.1) (.same _ .nil))), ⟨show SpecsL Try.prog _ from (SpecsL.cons r3_ValidPiece_ok r3_ValidPiece_en (SpecsL.cons r1_ValidOutline_ok r1_ValidOutline_en (SpecsL.cons r1_ValidSetting_ok r1_ValidSetting_en (SpecsL.cons r3_fits_ok r3_fits_en SpecsL.nil)))), rfl, ⟨show ItersL Try.prog _ from ItersL.nil, (TrsOk.none (fun _ => rfl))⟩⟩⟩
  · cases hs)
theorem r3_Fits_en : Enters Try.prog 40 := fun args w => by kernel_rfl
def r3_Settings_p (p : L.Piece) (l : (L.Sq L.Pt)) : Prop := p.gauges.n ≤ 1000000 ∧ p.marks.n ≤ 1000000 ∧ l.n ≤ 1000000
def r3_Settings_r (p : L.Piece) (l : (L.Sq L.Pt)) : SV := .tup [.sl 2 (L.setN p l) (fun k => [.int .i64 ((L.setG p l k).shift), .bool ((L.setG p l k).back)]), .int .i64 (L.setE p l)]
def r3_Settings_s : List EV → Option (Prop × SV)
  | [.p (.agg [.int .i64 p_id, .int .i64 p_colour, .int .i64 p_rev, .int .i64 p_made, .int .i64 p_swell, .sl 5 p_gauges_n p_gauges_g, .sl 3 p_marks_n p_marks_g]), .p (.sl 2 l_n l_g)] => some ((∀ i, i < p_gauges_n → p_gauges_g i = [.int .i64 ((ofGauge (p_gauges_g i)).edge.lo), .int .i64 ((ofGauge (p_gauges_g i)).edge.hi), .int .i64 ((ofGauge (p_gauges_g i)).across.lo), .int .i64 ((ofGauge (p_gauges_g i)).across.hi), .int .i64 ((ofGauge (p_gauges_g i)).bend)]) ∧ (∀ i, i < p_marks_n → p_marks_g i = [.int .i64 ((ofMark (p_marks_g i)).edge), .int .i64 ((ofMark (p_marks_g i)).place), .int .i64 ((ofMark (p_marks_g i)).tone)]) ∧ (∀ i, i < l_n → l_g i = [.int .i64 ((ofPt (l_g i)).x), .int .i64 ((ofPt (l_g i)).y)]) ∧ r3_Settings_p (⟨p_id, p_colour, p_rev, p_made, p_swell, (⟨p_gauges_n, fun i => ofGauge (p_gauges_g i)⟩ : (L.Sq L.Gauge)), (⟨p_marks_n, fun i => ofMark (p_marks_g i)⟩ : (L.Sq L.Mark))⟩ : L.Piece) (⟨l_n, fun i => ofPt (l_g i)⟩ : (L.Sq L.Pt)), r3_Settings_r (⟨p_id, p_colour, p_rev, p_made, p_swell, (⟨p_gauges_n, fun i => ofGauge (p_gauges_g i)⟩ : (L.Sq L.Gauge)), (⟨p_marks_n, fun i => ofMark (p_marks_g i)⟩ : (L.Sq L.Mark))⟩ : L.Piece) (⟨l_n, fun i => ofPt (l_g i)⟩ : (L.Sq L.Pt)))
  | _ => none
abbrev r3_Settings_S : SE.Spec := (specO r3_Settings_s)
def r3_Settings_C : Cfg := { muts := [], frz := lookN [], specs := lookS [(16, r3_ValidPiece_S), (44, r1_ValidOutline_S), (86, r1_All_S), (84, r3_fits_S)], loops := fun _ => none, iters := lookI [], rfs := lookR [], nils := lookM [(6, [(6, 28, 65, 2)])] }
theorem r3_Settings_vc (p : L.Piece) (l : (L.Sq L.Pt)) (hp : r3_Settings_p p l) : vc Try.prog ({ r3_Settings_C with loops := lookL [(8, { T := Nat, keep := [1, 2, 6, 7], keepO := [], chg := fun i => [(8, .p (.int .i64 (i : Int)))], own := fun i => [(28, .row 65 2 (L.cnt (L.fitK p l) i) (fun k => [.int .i64 ((L.sett (L.selN (L.fitK p l) i k)).shift), .bool ((L.sett (L.selN (L.fitK p l) i k)).back)]))], inv := fun i => i ≤ 2 * p.gauges.n, mu := fun i => 2 * p.gauges.n - i })], rfs := lookR [] }) (bodyOf Try.f42) (st0 Try.f42 [.p (.agg [.int .i64 p.id, .int .i64 p.colour, .int .i64 p.rev, .int .i64 p.made, .int .i64 p.swell, .sl 5 p.gauges.n (fun i => [.int .i64 ((p.gauges.g i).edge.lo), .int .i64 ((p.gauges.g i).edge.hi), .int .i64 ((p.gauges.g i).across.lo), .int .i64 ((p.gauges.g i).across.hi), .int .i64 ((p.gauges.g i).bend)]), .sl 3 p.marks.n (fun i => [.int .i64 ((p.marks.g i).edge), .int .i64 ((p.marks.g i).place), .int .i64 ((p.marks.g i).tone)])]), .p (.sl 2 l.n (fun i => [.int .i64 ((l.g i).x), .int .i64 ((l.g i).y)]))]) (retFn Try.prog Try.f42 (r3_Settings_r p l)) :=
  @Eq.mpr _ (((∀ (i : Nat), i < p.gauges.n → [Go.SE.SV.int Go.IntKind.i64 (p.gauges.g i).edge.lo, Go.SE.SV.int Go.IntKind.i64 (p.gauges.g i).edge.hi, Go.SE.SV.int Go.IntKind.i64 (p.gauges.g i).across.lo, Go.SE.SV.int Go.IntKind.i64 (p.gauges.g i).across.hi, Go.SE.SV.int Go.IntKind.i64 (p.gauges.g i).bend] = [Go.SE.SV.int Go.IntKind.i64 (p.gauges.g i).edge.lo, Go.SE.SV.int Go.IntKind.i64 (p.gauges.g i).edge.hi,
 Go.SE.SV.int Go.IntKind.i64 (p.gauges.g i).across.lo, Go.SE.SV.int Go.IntKind.i64 (p.gauges.g i).across.hi, Go.SE.SV.int Go.IntKind.i64 (p.gauges.g i).bend]) ∧ (∀ (i : Nat), i < p.marks.n → [Go.SE.SV.int Go.IntKind.i64 (p.marks.g i).edge, Go.SE.SV.int Go.IntKind.i64 (p.marks.g i).place, Go.SE.SV.int Go.IntKind.i64 (p.marks.g i).tone] = [Go.SE.SV.int Go.IntKind.i64 (p.marks.g i).edge, Go.SE.SV.int
 Go.IntKind.i64 (p.marks.g i).place, Go.SE.SV.int Go.IntKind.i64 (p.marks.g i).tone]) ∧ p.gauges.n ≤ (9223372036854775807 : Nat) ∧ p.marks.n ≤ (9223372036854775807 : Nat)) ∧ ((!L.validPiece (L.Piece.mk p.id p.colour p.rev p.made p.swell (L.Sq.mk p.gauges.n fun (i : Nat) ↦ p.gauges.g i) (L.Sq.mk p.marks.n fun (i : Nat) ↦ p.marks.g i))) = Bool.true → L.setN p l = (0 : Nat) ∧ (30 : Int) = L.setE p l)
 ∧ ((!L.validPiece (L.Piece.mk p.id p.colour p.rev p.made p.swell (L.Sq.mk p.gauges.n fun (i : Nat) ↦ p.gauges.g i) (L.Sq.mk p.marks.n fun (i : Nat) ↦ p.marks.g i))) = Bool.false → ((∀ (i : Nat), i < l.n → [Go.SE.SV.int Go.IntKind.i64 (l.g i).x, Go.SE.SV.int Go.IntKind.i64 (l.g i).y] = [Go.SE.SV.int Go.IntKind.i64 (l.g i).x, Go.SE.SV.int Go.IntKind.i64 (l.g i).y]) ∧ True) ∧ ((!L.validOutline
 (L.Sq.mk l.n fun (i : Nat) ↦ l.g i)) = Bool.true → L.setN p l = (0 : Nat) ∧ (1 : Int) = L.setE p l) ∧ ((!L.validOutline (L.Sq.mk l.n fun (i : Nat) ↦ l.g i)) = Bool.false → ((0 : Int) ≤ (↑p.gauges.n : Int) ∧ (↑p.gauges.n : Int) ≤ (1000 : Int)) ∧ ∀ (t : Nat), True → (∃ (g : Nat), (0 : Int) = (↑g : Int) ∧ (nat_lit 0 = L.cnt (L.fitK p l) g ∧ ∀ (i : Nat), i < nat_lit 0 → [] = [Go.SE.SV.int
 Go.IntKind.i64 (L.sett (L.selN (L.fitK p l) g i)).shift, Go.SE.SV.bool (L.sett (L.selN (L.fitK p l) g i)).back]) ∧ g ≤ (2 : Nat) * p.gauges.n) ∧ ∀ (g : Nat), g ≤ (2 : Nat) * p.gauges.n → (Decidable.decide ((↑g : Int) < (↑(Int.toNat ((2 : Int) * (↑p.gauges.n : Int))) : Int)) = Bool.true → ((0 : Int) ≤ (↑g : Int) ∧ (↑g : Int) < (↑(Int.toNat ((2 : Int) * (↑p.gauges.n : Int))) : Int)) ∧ ((∀ (i : Nat),
 i < p.gauges.n → [Go.SE.SV.int Go.IntKind.i64 (p.gauges.g i).edge.lo, Go.SE.SV.int Go.IntKind.i64 (p.gauges.g i).edge.hi, Go.SE.SV.int Go.IntKind.i64 (p.gauges.g i).across.lo, Go.SE.SV.int Go.IntKind.i64 (p.gauges.g i).across.hi, Go.SE.SV.int Go.IntKind.i64 (p.gauges.g i).bend] = [Go.SE.SV.int Go.IntKind.i64 (p.gauges.g i).edge.lo, Go.SE.SV.int Go.IntKind.i64 (p.gauges.g i).edge.hi, Go.SE.SV.int
 Go.IntKind.i64 (p.gauges.g i).across.lo, Go.SE.SV.int Go.IntKind.i64 (p.gauges.g i).across.hi, Go.SE.SV.int Go.IntKind.i64 (p.gauges.g i).bend]) ∧ (∀ (i : Nat), i < p.marks.n → [Go.SE.SV.int Go.IntKind.i64 (p.marks.g i).edge, Go.SE.SV.int Go.IntKind.i64 (p.marks.g i).place, Go.SE.SV.int Go.IntKind.i64 (p.marks.g i).tone] = [Go.SE.SV.int Go.IntKind.i64 (p.marks.g i).edge, Go.SE.SV.int
 Go.IntKind.i64 (p.marks.g i).place, Go.SE.SV.int Go.IntKind.i64 (p.marks.g i).tone]) ∧ (∀ (i : Nat), i < l.n → [Go.SE.SV.int Go.IntKind.i64 (l.g i).x, Go.SE.SV.int Go.IntKind.i64 (l.g i).y] = [Go.SE.SV.int Go.IntKind.i64 (l.g i).x, Go.SE.SV.int Go.IntKind.i64 (l.g i).y]) ∧ L.fitP (L.Piece.mk p.id p.colour p.rev p.made p.swell (L.Sq.mk p.gauges.n fun (i : Nat) ↦ p.gauges.g i) (L.Sq.mk p.marks.n fun
 (i : Nat) ↦ p.marks.g i)) (L.Sq.mk l.n fun (i : Nat) ↦ l.g i) (L.sett (Int.toNat (↑g : Int)))) ∧ (L.fits (L.Piece.mk p.id p.colour p.rev p.made p.swell (L.Sq.mk p.gauges.n fun (i : Nat) ↦ p.gauges.g i) (L.Sq.mk p.marks.n fun (i : Nat) ↦ p.marks.g i)) (L.Sq.mk l.n fun (i : Nat) ↦ l.g i) (L.sett (Int.toNat (↑g : Int))) = Bool.true → ((0 : Int) ≤ (↑g : Int) ∧ (↑g : Int) < (↑(Int.toNat ((2 : Int) *
 (↑p.gauges.n : Int))) : Int)) ∧ (L.cnt (L.fitK p l) g + nat_lit 1) * nat_lit 16 ≤ (140737488355328 : Nat) ∧ Go.SE.InK Go.IntKind.i64 ((↑g : Int) + (1 : Int)) ∧ ∃ (g' : Nat), (↑g : Int) + (1 : Int) = (↑g' : Int) ∧ (Int.toNat ((2 : Int) * (↑p.gauges.n : Int)) = Int.toNat ((2 : Int) * (↑p.gauges.n : Int)) ∧ ∀ (i : Nat), i < Int.toNat ((2 : Int) * (↑p.gauges.n : Int)) → [Go.SE.SV.int Go.IntKind.i64
 (L.sett i).shift, Go.SE.SV.bool (L.sett i).back] = [Go.SE.SV.int Go.IntKind.i64 (L.sett i).shift, Go.SE.SV.bool (L.sett i).back]) ∧ Go.SE.SV.ref [Go.SE.SV.int Go.IntKind.i64 p.id, Go.SE.SV.int Go.IntKind.i64 p.colour, Go.SE.SV.int Go.IntKind.i64 p.rev, Go.SE.SV.int Go.IntKind.i64 p.made, Go.SE.SV.int Go.IntKind.i64 p.swell, Go.SE.SV.sl (nat_lit 5) p.gauges.n fun (i : Nat) ↦ [Go.SE.SV.int
 Go.IntKind.i64 (p.gauges.g i).edge.lo, Go.SE.SV.int Go.IntKind.i64 (p.gauges.g i).edge.hi, Go.SE.SV.int Go.IntKind.i64 (p.gauges.g i).across.lo, Go.SE.SV.int Go.IntKind.i64 (p.gauges.g i).across.hi, Go.SE.SV.int Go.IntKind.i64 (p.gauges.g i).bend], Go.SE.SV.sl (nat_lit 3) p.marks.n fun (i : Nat) ↦ [Go.SE.SV.int Go.IntKind.i64 (p.marks.g i).edge, Go.SE.SV.int Go.IntKind.i64 (p.marks.g i).place,
 Go.SE.SV.int Go.IntKind.i64 (p.marks.g i).tone]] (nat_lit 0) = Go.SE.SV.ref [Go.SE.SV.int Go.IntKind.i64 p.id, Go.SE.SV.int Go.IntKind.i64 p.colour, Go.SE.SV.int Go.IntKind.i64 p.rev, Go.SE.SV.int Go.IntKind.i64 p.made, Go.SE.SV.int Go.IntKind.i64 p.swell, Go.SE.SV.sl (nat_lit 5) p.gauges.n fun (i : Nat) ↦ [Go.SE.SV.int Go.IntKind.i64 (p.gauges.g i).edge.lo, Go.SE.SV.int Go.IntKind.i64 (p.gauges.g
 i).edge.hi, Go.SE.SV.int Go.IntKind.i64 (p.gauges.g i).across.lo, Go.SE.SV.int Go.IntKind.i64 (p.gauges.g i).across.hi, Go.SE.SV.int Go.IntKind.i64 (p.gauges.g i).bend], Go.SE.SV.sl (nat_lit 3) p.marks.n fun (i : Nat) ↦ [Go.SE.SV.int Go.IntKind.i64 (p.marks.g i).edge, Go.SE.SV.int Go.IntKind.i64 (p.marks.g i).place, Go.SE.SV.int Go.IntKind.i64 (p.marks.g i).tone]] (nat_lit 0) ∧ (l.n = l.n ∧ ∀ (i :
 Nat), i < l.n → [Go.SE.SV.int Go.IntKind.i64 (l.g i).x, Go.SE.SV.int Go.IntKind.i64 (l.g i).y] = [Go.SE.SV.int Go.IntKind.i64 (l.g i).x, Go.SE.SV.int Go.IntKind.i64 (l.g i).y]) ∧ (L.cnt (L.fitK p l) g + nat_lit 1 = L.cnt (L.fitK p l) g' ∧ ∀ (i : Nat), i < L.cnt (L.fitK p l) g + nat_lit 1 → Go.SE.appGet (L.cnt (L.fitK p l) g) (fun (k : Nat) ↦ [Go.SE.SV.int Go.IntKind.i64 (L.sett (L.selN (L.fitK p
 l) g k)).shift, Go.SE.SV.bool (L.sett (L.selN (L.fitK p l) g k)).back]) (fun (x : Nat) ↦ [Go.SE.SV.int Go.IntKind.i64 (L.sett (Int.toNat (↑g : Int))).shift, Go.SE.SV.bool (L.sett (Int.toNat (↑g : Int))).back]) i = [Go.SE.SV.int Go.IntKind.i64 (L.sett (L.selN (L.fitK p l) g' i)).shift, Go.SE.SV.bool (L.sett (L.selN (L.fitK p l) g' i)).back]) ∧ g' ≤ (2 : Nat) * p.gauges.n ∧ (2 : Nat) * p.gauges.n -
 g' < (2 : Nat) * p.gauges.n - g) ∧ (L.fits (L.Piece.mk p.id p.colour p.rev p.made p.swell (L.Sq.mk p.gauges.n fun (i : Nat) ↦ p.gauges.g i) (L.Sq.mk p.marks.n fun (i : Nat) ↦ p.marks.g i)) (L.Sq.mk l.n fun (i : Nat) ↦ l.g i) (L.sett (Int.toNat (↑g : Int))) = Bool.false → Go.SE.InK Go.IntKind.i64 ((↑g : Int) + (1 : Int)) ∧ ∃ (g' : Nat), (↑g : Int) + (1 : Int) = (↑g' : Int) ∧ (Int.toNat ((2 : Int) *
 (↑p.gauges.n : Int)) = Int.toNat ((2 : Int) * (↑p.gauges.n : Int)) ∧ ∀ (i : Nat), i < Int.toNat ((2 : Int) * (↑p.gauges.n : Int)) → [Go.SE.SV.int Go.IntKind.i64 (L.sett i).shift, Go.SE.SV.bool (L.sett i).back] = [Go.SE.SV.int Go.IntKind.i64 (L.sett i).shift, Go.SE.SV.bool (L.sett i).back]) ∧ Go.SE.SV.ref [Go.SE.SV.int Go.IntKind.i64 p.id, Go.SE.SV.int Go.IntKind.i64 p.colour, Go.SE.SV.int
 Go.IntKind.i64 p.rev, Go.SE.SV.int Go.IntKind.i64 p.made, Go.SE.SV.int Go.IntKind.i64 p.swell, Go.SE.SV.sl (nat_lit 5) p.gauges.n fun (i : Nat) ↦ [Go.SE.SV.int Go.IntKind.i64 (p.gauges.g i).edge.lo, Go.SE.SV.int Go.IntKind.i64 (p.gauges.g i).edge.hi, Go.SE.SV.int Go.IntKind.i64 (p.gauges.g i).across.lo, Go.SE.SV.int Go.IntKind.i64 (p.gauges.g i).across.hi, Go.SE.SV.int Go.IntKind.i64 (p.gauges.g
 i).bend], Go.SE.SV.sl (nat_lit 3) p.marks.n fun (i : Nat) ↦ [Go.SE.SV.int Go.IntKind.i64 (p.marks.g i).edge, Go.SE.SV.int Go.IntKind.i64 (p.marks.g i).place, Go.SE.SV.int Go.IntKind.i64 (p.marks.g i).tone]] (nat_lit 0) = Go.SE.SV.ref [Go.SE.SV.int Go.IntKind.i64 p.id, Go.SE.SV.int Go.IntKind.i64 p.colour, Go.SE.SV.int Go.IntKind.i64 p.rev, Go.SE.SV.int Go.IntKind.i64 p.made, Go.SE.SV.int
 Go.IntKind.i64 p.swell, Go.SE.SV.sl (nat_lit 5) p.gauges.n fun (i : Nat) ↦ [Go.SE.SV.int Go.IntKind.i64 (p.gauges.g i).edge.lo, Go.SE.SV.int Go.IntKind.i64 (p.gauges.g i).edge.hi, Go.SE.SV.int Go.IntKind.i64 (p.gauges.g i).across.lo, Go.SE.SV.int Go.IntKind.i64 (p.gauges.g i).across.hi, Go.SE.SV.int Go.IntKind.i64 (p.gauges.g i).bend], Go.SE.SV.sl (nat_lit 3) p.marks.n fun (i : Nat) ↦
 [Go.SE.SV.int Go.IntKind.i64 (p.marks.g i).edge, Go.SE.SV.int Go.IntKind.i64 (p.marks.g i).place, Go.SE.SV.int Go.IntKind.i64 (p.marks.g i).tone]] (nat_lit 0) ∧ (l.n = l.n ∧ ∀ (i : Nat), i < l.n → [Go.SE.SV.int Go.IntKind.i64 (l.g i).x, Go.SE.SV.int Go.IntKind.i64 (l.g i).y] = [Go.SE.SV.int Go.IntKind.i64 (l.g i).x, Go.SE.SV.int Go.IntKind.i64 (l.g i).y]) ∧ (L.cnt (L.fitK p l) g = L.cnt (L.fitK p
 l) g' ∧ ∀ (i : Nat), i < L.cnt (L.fitK p l) g → [Go.SE.SV.int Go.IntKind.i64 (L.sett (L.selN (L.fitK p l) g i)).shift, Go.SE.SV.bool (L.sett (L.selN (L.fitK p l) g i)).back] = [Go.SE.SV.int Go.IntKind.i64 (L.sett (L.selN (L.fitK p l) g' i)).shift, Go.SE.SV.bool (L.sett (L.selN (L.fitK p l) g' i)).back]) ∧ g' ≤ (2 : Nat) * p.gauges.n ∧ (2 : Nat) * p.gauges.n - g' < (2 : Nat) * p.gauges.n - g)) ∧
 (Decidable.decide ((↑g : Int) < (↑(Int.toNat ((2 : Int) * (↑p.gauges.n : Int))) : Int)) = Bool.false → (L.cnt (L.fitK p l) g = L.setN p l ∧ ∀ (i : Nat), i < L.cnt (L.fitK p l) g → [Go.SE.SV.int Go.IntKind.i64 (L.sett (L.selN (L.fitK p l) g i)).shift, Go.SE.SV.bool (L.sett (L.selN (L.fitK p l) g i)).back] = [Go.SE.SV.int Go.IntKind.i64 (L.setG p l i).shift, Go.SE.SV.bool (L.setG p l i).back]) ∧ (0
 : Int) = L.setE p l)))) (by kernel_rfl) (by
    obtain ⟨h1, h2, h3⟩ := hp
    refine ⟨⟨fun _ _ => rfl, fun _ _ => rfl, by omega, by omega⟩, fun h => ?_, fun h => ⟨⟨fun _ _ => rfl, trivial⟩, fun h4 => ?_, fun h4 => ?_⟩⟩
    · have hv : L.validPiece p = false := notT h
      have e : L.setE p l = 30 := by unfold L.setE; rw [hv]; rfl
      unfold L.setN; rw [e]; exact ⟨rfl, rfl⟩
    · have hv : L.validPiece p = true := notF h
      have hv2 : L.validOutline l = false := notT h4
      have e : L.setE p l = 1 := by unfold L.setE; rw [hv, hv2]; rfl
      unfold L.setN; rw [e]; exact ⟨rfl, rfl⟩
    have hv : L.validPiece p = true := notF h
    have hv2 : L.validOutline l = true := notF h4
    have e : L.setE p l = 0 := by unfold L.setE; rw [hv, hv2]; rfl
    have hgg := piece_gauges hv
    obtain ⟨⟨g3, g24⟩, hg⟩ := gauge_ok hgg
    have et : (2 * (p.gauges.n : Int)).toNat = 2 * p.gauges.n := by omega
    rw [et]
    refine ⟨by omega, fun _ _ => ⟨⟨(0 : Nat), rfl, ⟨rfl, fun i hi => absurd hi (Nat.not_lt_zero _)⟩, Nat.zero_le _⟩, fun k hk' => ⟨fun hlt => ?_, fun hge => ?_⟩⟩⟩
    · have hb : (k : Int) < ((2 * p.gauges.n : Nat) : Int) := of_decide_eq_true hlt
      have hk : k < 2 * p.gauges.n := by omega
      have e0 : ((k : Int)).toNat = k := by omega
      have hs := sett_lt hk
      have hc := cnt_le (p := L.fitK p l) (n := k)
      rw [e0]
      refine ⟨⟨by omega, hb⟩, ⟨fun _ _ => rfl, fun _ _ => rfl, fun _ _ => rfl, hv2, hgg, hs.1, hs.2⟩, fun h5 => ?_, fun h5 => ?_⟩
      · have h5 : L.fitK p l k = true := h5
        have c1 := cnt_yes h5
        refine ⟨⟨by omega, hb⟩, show (L.cnt (L.fitK p l) k + 1) * 16 ≤ 140737488355328 by omega, InK.of (by omega) (by omega), k + 1, by omega, ⟨rfl, fun _ _ => rfl⟩, rfl, ⟨rfl, fun _ _ => rfl⟩, ⟨c1.symm, fun i hi => ?_⟩, by omega, by omega⟩
        have hi : i < L.cnt (L.fitK p l) k + 1 := hi
        unfold appGet
        by_cases h' : i < L.cnt (L.fitK p l) k
        · rw [if_pos h', selN_old (Nat.ne_of_lt h')]
        · have : i = L.cnt (L.fitK p l) k := by omega
          rw [if_neg h', this, selN_new h5]
      · have h5 : L.fitK p l k = false := h5
        exact ⟨InK.of (by omega) (by omega), k + 1, by omega, ⟨rfl, fun _ _ => rfl⟩, rfl, ⟨rfl, fun _ _ => rfl⟩, ⟨(cnt_not h5).symm, fun i hi => by rw [selN_not h5]⟩, by omega, by omega⟩
    · have hb : ¬ (k : Int) < ((2 * p.gauges.n : Nat) : Int) := of_decide_eq_false hge
      obtain rfl : k = 2 * p.gauges.n := by omega
      refine ⟨⟨?_, fun _ _ => rfl⟩, e.symm⟩
      unfold L.setN; rw [e]; rfl)
theorem r3_Settings_ok : SpecOk Try.prog 42 r3_Settings_S := fnX Try.func42 (c := bodyOf Try.f42) (by kernel_rfl) mixed (fun args p r hs hp => by
  unfold r3_Settings_s at hs
  split at hs
  · cases hs; exact ⟨_, _, r3_Settings_vc _ _ hp.2.2.2, (.p (.agg rfl (fun i hi => by
      rcases i with _ | i
      · exact (Ext.refl _ : Ext _ _)
      rcases i with _ | i
      · exact (Ext.refl _ : Ext _ _)
      rcases i with _ | i
      · exact (Ext.refl _ : Ext _ _)
      rcases i with _ | i
      · exact (Ext.refl _ : Ext _ _)
      rcases i with _ | i
      · exact (Ext.refl _ : Ext _ _)
      rcases i with _ | i
      · exact (Ext.sl hp.1 : Ext _ _)
      rcases i with _ | i
      · exact (Ext.sl hp.2.1 : Ext _ _)
      exact absurd hi (by simp; try omega))) (.p (.sl hp.2.2.1) .nil)), ⟨show SpecsL Try.prog _ from (SpecsL.cons r3_ValidPiece_ok r3_ValidPiece_en (SpecsL.cons r1_ValidOutline_ok r1_ValidOutline_en (SpecsL.cons r1_All_ok r1_All_en (SpecsL.cons r3_fits_ok r3_fits_en SpecsL.nil)))), rfl, ⟨show ItersL Try.prog _ from ItersL.nil, (TrsOk.none (fun _ => rfl))⟩⟩⟩
  · cases hs)
theorem r3_Settings_en : Enters Try.prog 42 := fun args w => by kernel_rfl
def w_GlassFits_p (p : L.Piece) (l : (L.Sq L.Pt)) (s : L.Setting) : Prop := True
def w_GlassFits_r (p : L.Piece) (l : (L.Sq L.Pt)) (s : L.Setting) : SV := .bool true
def w_GlassFits_s : List EV → Option (Prop × SV)
  | [.p (.agg [.int .i64 p_id, .int .i64 p_colour, .int .i64 p_rev, .int .i64 p_made, .int .i64 p_swell, .sl 5 p_gauges_n p_gauges_g, .sl 3 p_marks_n p_marks_g]), .p (.sl 2 l_n l_g), .p (.agg [.int .i64 s_shift, .bool s_back])] => some ((∀ i, i < p_gauges_n → p_gauges_g i = [.int .i64 ((ofGauge (p_gauges_g i)).edge.lo), .int .i64 ((ofGauge (p_gauges_g i)).edge.hi), .int .i64 ((ofGauge (p_gauges_g i)).across.lo), .int .i64 ((ofGauge (p_gauges_g i)).across.hi), .int .i64 ((ofGauge (p_gauges_g i)).bend)]) ∧ (∀ i, i < p_marks_n → p_marks_g i = [.int .i64 ((ofMark (p_marks_g i)).edge), .int .i64 ((ofMark (p_marks_g i)).place), .int .i64 ((ofMark (p_marks_g i)).tone)]) ∧ (∀ i, i < l_n → l_g i = [.int .i64 ((ofPt (l_g i)).x), .int .i64 ((ofPt (l_g i)).y)]) ∧ w_GlassFits_p (⟨p_id, p_colour, p_rev, p_made, p_swell, (⟨p_gauges_n, fun i => ofGauge (p_gauges_g i)⟩ : (L.Sq L.Gauge)), (⟨p_marks_n, fun i => ofMark (p_marks_g i)⟩ : (L.Sq L.Mark))⟩ : L.Piece) (⟨l_n, fun i => ofPt (l_g i)⟩ : (L.Sq L.Pt)) (⟨s_shift, s_back⟩ : L.Setting), w_GlassFits_r (⟨p_id, p_colour, p_rev, p_made, p_swell, (⟨p_gauges_n, fun i => ofGauge (p_gauges_g i)⟩ : (L.Sq L.Gauge)), (⟨p_marks_n, fun i => ofMark (p_marks_g i)⟩ : (L.Sq L.Mark))⟩ : L.Piece) (⟨l_n, fun i => ofPt (l_g i)⟩ : (L.Sq L.Pt)) (⟨s_shift, s_back⟩ : L.Setting))
  | _ => none
abbrev w_GlassFits_S : SE.Spec := (specO w_GlassFits_s)
def w_GlassFits_C : Cfg := { muts := [], frz := lookN [], specs := lookS [(12, w_awake_S), (14, w_few_S), (39, g_Fits_S), (40, r3_Fits_S), (41, g_Settings_S), (42, r3_Settings_S), (43, r1_SameSettings_S)], loops := lookL [], iters := lookI [], rfs := lookR [], nils := lookM [] }
theorem w_GlassFits_vc (p : L.Piece) (l : (L.Sq L.Pt)) (s : L.Setting) (hp : w_GlassFits_p p l s) : vc Try.prog (w_GlassFits_C) (bodyOf Try.f9) (st0 Try.f9 [.p (.agg [.int .i64 p.id, .int .i64 p.colour, .int .i64 p.rev, .int .i64 p.made, .int .i64 p.swell, .sl 5 p.gauges.n (fun i => [.int .i64 ((p.gauges.g i).edge.lo), .int .i64 ((p.gauges.g i).edge.hi), .int .i64 ((p.gauges.g i).across.lo), .int .i64 ((p.gauges.g i).across.hi), .int .i64 ((p.gauges.g i).bend)]), .sl 3 p.marks.n (fun i => [.int .i64 ((p.marks.g i).edge), .int .i64 ((p.marks.g i).place), .int .i64 ((p.marks.g i).tone)])]), .p (.sl 2 l.n (fun i => [.int .i64 ((l.g i).x), .int .i64 ((l.g i).y)])), .p (.agg [.int .i64 s.shift, .bool s.back])]) (retFn Try.prog Try.f9 (w_GlassFits_r p l s)) :=
  @Eq.mpr _ (True ∧ ((∀ (i : Nat), i < p.gauges.n → [Go.SE.SV.int Go.IntKind.i64 (p.gauges.g i).edge.lo, Go.SE.SV.int Go.IntKind.i64 (p.gauges.g i).edge.hi, Go.SE.SV.int Go.IntKind.i64 (p.gauges.g i).across.lo, Go.SE.SV.int Go.IntKind.i64 (p.gauges.g i).across.hi, Go.SE.SV.int Go.IntKind.i64 (p.gauges.g i).bend] = [Go.SE.SV.int Go.IntKind.i64 (p.gauges.g i).edge.lo, Go.SE.SV.int Go.IntKind.i64 (p.gauges.g
 i).edge.hi, Go.SE.SV.int Go.IntKind.i64 (p.gauges.g i).across.lo, Go.SE.SV.int Go.IntKind.i64 (p.gauges.g i).across.hi, Go.SE.SV.int Go.IntKind.i64 (p.gauges.g i).bend]) ∧ (∀ (i : Nat), i < p.marks.n → [Go.SE.SV.int Go.IntKind.i64 (p.marks.g i).edge, Go.SE.SV.int Go.IntKind.i64 (p.marks.g i).place, Go.SE.SV.int Go.IntKind.i64 (p.marks.g i).tone] = [Go.SE.SV.int Go.IntKind.i64 (p.marks.g i).edge,
 Go.SE.SV.int Go.IntKind.i64 (p.marks.g i).place, Go.SE.SV.int Go.IntKind.i64 (p.marks.g i).tone]) ∧ (∀ (i : Nat), i < l.n → [Go.SE.SV.int Go.IntKind.i64 (l.g i).x, Go.SE.SV.int Go.IntKind.i64 (l.g i).y] = [Go.SE.SV.int Go.IntKind.i64 (l.g i).x, Go.SE.SV.int Go.IntKind.i64 (l.g i).y]) ∧ True) ∧ ((!L.few (L.Piece.mk p.id p.colour p.rev p.made p.swell (L.Sq.mk p.gauges.n fun (i : Nat) ↦ p.gauges.g i)
 (L.Sq.mk p.marks.n fun (i : Nat) ↦ p.marks.g i)) (L.Sq.mk l.n fun (i : Nat) ↦ l.g i)) = Bool.true → Bool.true = Bool.true) ∧ ((!L.few (L.Piece.mk p.id p.colour p.rev p.made p.swell (L.Sq.mk p.gauges.n fun (i : Nat) ↦ p.gauges.g i) (L.Sq.mk p.marks.n fun (i : Nat) ↦ p.marks.g i)) (L.Sq.mk l.n fun (i : Nat) ↦ l.g i)) = Bool.false → ((∀ (i : Nat), i < p.gauges.n → [Go.SE.SV.int Go.IntKind.i64
 (p.gauges.g i).edge.lo, Go.SE.SV.int Go.IntKind.i64 (p.gauges.g i).edge.hi, Go.SE.SV.int Go.IntKind.i64 (p.gauges.g i).across.lo, Go.SE.SV.int Go.IntKind.i64 (p.gauges.g i).across.hi, Go.SE.SV.int Go.IntKind.i64 (p.gauges.g i).bend] = [Go.SE.SV.int Go.IntKind.i64 (p.gauges.g i).edge.lo, Go.SE.SV.int Go.IntKind.i64 (p.gauges.g i).edge.hi, Go.SE.SV.int Go.IntKind.i64 (p.gauges.g i).across.lo,
 Go.SE.SV.int Go.IntKind.i64 (p.gauges.g i).across.hi, Go.SE.SV.int Go.IntKind.i64 (p.gauges.g i).bend]) ∧ (∀ (i : Nat), i < p.marks.n → [Go.SE.SV.int Go.IntKind.i64 (p.marks.g i).edge, Go.SE.SV.int Go.IntKind.i64 (p.marks.g i).place, Go.SE.SV.int Go.IntKind.i64 (p.marks.g i).tone] = [Go.SE.SV.int Go.IntKind.i64 (p.marks.g i).edge, Go.SE.SV.int Go.IntKind.i64 (p.marks.g i).place, Go.SE.SV.int
 Go.IntKind.i64 (p.marks.g i).tone]) ∧ (∀ (i : Nat), i < l.n → [Go.SE.SV.int Go.IntKind.i64 (l.g i).x, Go.SE.SV.int Go.IntKind.i64 (l.g i).y] = [Go.SE.SV.int Go.IntKind.i64 (l.g i).x, Go.SE.SV.int Go.IntKind.i64 (l.g i).y]) ∧ p.gauges.n ≤ (1000000 : Nat) ∧ p.marks.n ≤ (1000000 : Nat) ∧ l.n ≤ (1000000 : Nat)) ∧ ((∀ (i : Nat), i < p.gauges.n → [Go.SE.SV.int Go.IntKind.i64 (p.gauges.g i).edge.lo,
 Go.SE.SV.int Go.IntKind.i64 (p.gauges.g i).edge.hi, Go.SE.SV.int Go.IntKind.i64 (p.gauges.g i).across.lo, Go.SE.SV.int Go.IntKind.i64 (p.gauges.g i).across.hi, Go.SE.SV.int Go.IntKind.i64 (p.gauges.g i).bend] = [Go.SE.SV.int Go.IntKind.i64 (p.gauges.g i).edge.lo, Go.SE.SV.int Go.IntKind.i64 (p.gauges.g i).edge.hi, Go.SE.SV.int Go.IntKind.i64 (p.gauges.g i).across.lo, Go.SE.SV.int Go.IntKind.i64
 (p.gauges.g i).across.hi, Go.SE.SV.int Go.IntKind.i64 (p.gauges.g i).bend]) ∧ (∀ (i : Nat), i < p.marks.n → [Go.SE.SV.int Go.IntKind.i64 (p.marks.g i).edge, Go.SE.SV.int Go.IntKind.i64 (p.marks.g i).place, Go.SE.SV.int Go.IntKind.i64 (p.marks.g i).tone] = [Go.SE.SV.int Go.IntKind.i64 (p.marks.g i).edge, Go.SE.SV.int Go.IntKind.i64 (p.marks.g i).place, Go.SE.SV.int Go.IntKind.i64 (p.marks.g
 i).tone]) ∧ (∀ (i : Nat), i < l.n → [Go.SE.SV.int Go.IntKind.i64 (l.g i).x, Go.SE.SV.int Go.IntKind.i64 (l.g i).y] = [Go.SE.SV.int Go.IntKind.i64 (l.g i).x, Go.SE.SV.int Go.IntKind.i64 (l.g i).y]) ∧ p.gauges.n ≤ (1000000 : Nat) ∧ p.marks.n ≤ (1000000 : Nat) ∧ l.n ≤ (1000000 : Nat)) ∧ ((∀ (i : Nat), i < p.gauges.n → [Go.SE.SV.int Go.IntKind.i64 (p.gauges.g i).edge.lo, Go.SE.SV.int Go.IntKind.i64
 (p.gauges.g i).edge.hi, Go.SE.SV.int Go.IntKind.i64 (p.gauges.g i).across.lo, Go.SE.SV.int Go.IntKind.i64 (p.gauges.g i).across.hi, Go.SE.SV.int Go.IntKind.i64 (p.gauges.g i).bend] = [Go.SE.SV.int Go.IntKind.i64 (p.gauges.g i).edge.lo, Go.SE.SV.int Go.IntKind.i64 (p.gauges.g i).edge.hi, Go.SE.SV.int Go.IntKind.i64 (p.gauges.g i).across.lo, Go.SE.SV.int Go.IntKind.i64 (p.gauges.g i).across.hi,
 Go.SE.SV.int Go.IntKind.i64 (p.gauges.g i).bend]) ∧ (∀ (i : Nat), i < p.marks.n → [Go.SE.SV.int Go.IntKind.i64 (p.marks.g i).edge, Go.SE.SV.int Go.IntKind.i64 (p.marks.g i).place, Go.SE.SV.int Go.IntKind.i64 (p.marks.g i).tone] = [Go.SE.SV.int Go.IntKind.i64 (p.marks.g i).edge, Go.SE.SV.int Go.IntKind.i64 (p.marks.g i).place, Go.SE.SV.int Go.IntKind.i64 (p.marks.g i).tone]) ∧ (∀ (i : Nat), i < l.n
 → [Go.SE.SV.int Go.IntKind.i64 (l.g i).x, Go.SE.SV.int Go.IntKind.i64 (l.g i).y] = [Go.SE.SV.int Go.IntKind.i64 (l.g i).x, Go.SE.SV.int Go.IntKind.i64 (l.g i).y]) ∧ p.gauges.n ≤ (1000000 : Nat) ∧ p.marks.n ≤ (1000000 : Nat) ∧ l.n ≤ (1000000 : Nat)) ∧ ((∀ (i : Nat), i < p.gauges.n → [Go.SE.SV.int Go.IntKind.i64 (p.gauges.g i).edge.lo, Go.SE.SV.int Go.IntKind.i64 (p.gauges.g i).edge.hi, Go.SE.SV.int
 Go.IntKind.i64 (p.gauges.g i).across.lo, Go.SE.SV.int Go.IntKind.i64 (p.gauges.g i).across.hi, Go.SE.SV.int Go.IntKind.i64 (p.gauges.g i).bend] = [Go.SE.SV.int Go.IntKind.i64 (p.gauges.g i).edge.lo, Go.SE.SV.int Go.IntKind.i64 (p.gauges.g i).edge.hi, Go.SE.SV.int Go.IntKind.i64 (p.gauges.g i).across.lo, Go.SE.SV.int Go.IntKind.i64 (p.gauges.g i).across.hi, Go.SE.SV.int Go.IntKind.i64 (p.gauges.g
 i).bend]) ∧ (∀ (i : Nat), i < p.marks.n → [Go.SE.SV.int Go.IntKind.i64 (p.marks.g i).edge, Go.SE.SV.int Go.IntKind.i64 (p.marks.g i).place, Go.SE.SV.int Go.IntKind.i64 (p.marks.g i).tone] = [Go.SE.SV.int Go.IntKind.i64 (p.marks.g i).edge, Go.SE.SV.int Go.IntKind.i64 (p.marks.g i).place, Go.SE.SV.int Go.IntKind.i64 (p.marks.g i).tone]) ∧ (∀ (i : Nat), i < l.n → [Go.SE.SV.int Go.IntKind.i64 (l.g
 i).x, Go.SE.SV.int Go.IntKind.i64 (l.g i).y] = [Go.SE.SV.int Go.IntKind.i64 (l.g i).x, Go.SE.SV.int Go.IntKind.i64 (l.g i).y]) ∧ p.gauges.n ≤ (1000000 : Nat) ∧ p.marks.n ≤ (1000000 : Nat) ∧ l.n ≤ (1000000 : Nat)) ∧ ((bif bif bif Bool.true then L.fitsV (L.Piece.mk p.id p.colour p.rev p.made p.swell (L.Sq.mk p.gauges.n fun (i : Nat) ↦ p.gauges.g i) (L.Sq.mk p.marks.n fun (i : Nat) ↦ p.marks.g i))
 (L.Sq.mk l.n fun (i : Nat) ↦ l.g i) s == L.fitsV (L.Piece.mk p.id p.colour p.rev p.made p.swell (L.Sq.mk p.gauges.n fun (i : Nat) ↦ p.gauges.g i) (L.Sq.mk p.marks.n fun (i : Nat) ↦ p.marks.g i)) (L.Sq.mk l.n fun (i : Nat) ↦ l.g i) s else Bool.false then Decidable.decide (L.fitsE (L.Piece.mk p.id p.colour p.rev p.made p.swell (L.Sq.mk p.gauges.n fun (i : Nat) ↦ p.gauges.g i) (L.Sq.mk p.marks.n fun
 (i : Nat) ↦ p.marks.g i)) (L.Sq.mk l.n fun (i : Nat) ↦ l.g i) s = L.fitsE (L.Piece.mk p.id p.colour p.rev p.made p.swell (L.Sq.mk p.gauges.n fun (i : Nat) ↦ p.gauges.g i) (L.Sq.mk p.marks.n fun (i : Nat) ↦ p.marks.g i)) (L.Sq.mk l.n fun (i : Nat) ↦ l.g i) s) else Bool.false then Decidable.decide (L.setE (L.Piece.mk p.id p.colour p.rev p.made p.swell (L.Sq.mk p.gauges.n fun (i : Nat) ↦ p.gauges.g
 i) (L.Sq.mk p.marks.n fun (i : Nat) ↦ p.marks.g i)) (L.Sq.mk l.n fun (i : Nat) ↦ l.g i) = L.setE (L.Piece.mk p.id p.colour p.rev p.made p.swell (L.Sq.mk p.gauges.n fun (i : Nat) ↦ p.gauges.g i) (L.Sq.mk p.marks.n fun (i : Nat) ↦ p.marks.g i)) (L.Sq.mk l.n fun (i : Nat) ↦ l.g i)) else Bool.false) = Bool.true → (∀ (i : Nat), i < L.setN (L.Piece.mk p.id p.colour p.rev p.made p.swell (L.Sq.mk
 p.gauges.n fun (i : Nat) ↦ p.gauges.g i) (L.Sq.mk p.marks.n fun (i : Nat) ↦ p.marks.g i)) (L.Sq.mk l.n fun (i : Nat) ↦ l.g i) → [Go.SE.SV.int Go.IntKind.i64 (L.setG (L.Piece.mk p.id p.colour p.rev p.made p.swell (L.Sq.mk p.gauges.n fun (i : Nat) ↦ p.gauges.g i) (L.Sq.mk p.marks.n fun (i : Nat) ↦ p.marks.g i)) (L.Sq.mk l.n fun (i : Nat) ↦ l.g i) i).shift, Go.SE.SV.bool (L.setG (L.Piece.mk p.id
 p.colour p.rev p.made p.swell (L.Sq.mk p.gauges.n fun (i : Nat) ↦ p.gauges.g i) (L.Sq.mk p.marks.n fun (i : Nat) ↦ p.marks.g i)) (L.Sq.mk l.n fun (i : Nat) ↦ l.g i) i).back] = [Go.SE.SV.int Go.IntKind.i64 (L.setG (L.Piece.mk p.id p.colour p.rev p.made p.swell (L.Sq.mk p.gauges.n fun (i : Nat) ↦ p.gauges.g i) (L.Sq.mk p.marks.n fun (i : Nat) ↦ p.marks.g i)) (L.Sq.mk l.n fun (i : Nat) ↦ l.g i)
 i).shift, Go.SE.SV.bool (L.setG (L.Piece.mk p.id p.colour p.rev p.made p.swell (L.Sq.mk p.gauges.n fun (i : Nat) ↦ p.gauges.g i) (L.Sq.mk p.marks.n fun (i : Nat) ↦ p.marks.g i)) (L.Sq.mk l.n fun (i : Nat) ↦ l.g i) i).back]) ∧ (∀ (i : Nat), i < L.setN (L.Piece.mk p.id p.colour p.rev p.made p.swell (L.Sq.mk p.gauges.n fun (i : Nat) ↦ p.gauges.g i) (L.Sq.mk p.marks.n fun (i : Nat) ↦ p.marks.g i))
 (L.Sq.mk l.n fun (i : Nat) ↦ l.g i) → [Go.SE.SV.int Go.IntKind.i64 (L.setG (L.Piece.mk p.id p.colour p.rev p.made p.swell (L.Sq.mk p.gauges.n fun (i : Nat) ↦ p.gauges.g i) (L.Sq.mk p.marks.n fun (i : Nat) ↦ p.marks.g i)) (L.Sq.mk l.n fun (i : Nat) ↦ l.g i) i).shift, Go.SE.SV.bool (L.setG (L.Piece.mk p.id p.colour p.rev p.made p.swell (L.Sq.mk p.gauges.n fun (i : Nat) ↦ p.gauges.g i) (L.Sq.mk
 p.marks.n fun (i : Nat) ↦ p.marks.g i)) (L.Sq.mk l.n fun (i : Nat) ↦ l.g i) i).back] = [Go.SE.SV.int Go.IntKind.i64 (L.setG (L.Piece.mk p.id p.colour p.rev p.made p.swell (L.Sq.mk p.gauges.n fun (i : Nat) ↦ p.gauges.g i) (L.Sq.mk p.marks.n fun (i : Nat) ↦ p.marks.g i)) (L.Sq.mk l.n fun (i : Nat) ↦ l.g i) i).shift, Go.SE.SV.bool (L.setG (L.Piece.mk p.id p.colour p.rev p.made p.swell (L.Sq.mk
 p.gauges.n fun (i : Nat) ↦ p.gauges.g i) (L.Sq.mk p.marks.n fun (i : Nat) ↦ p.marks.g i)) (L.Sq.mk l.n fun (i : Nat) ↦ l.g i) i).back]) ∧ L.setN (L.Piece.mk p.id p.colour p.rev p.made p.swell (L.Sq.mk p.gauges.n fun (i : Nat) ↦ p.gauges.g i) (L.Sq.mk p.marks.n fun (i : Nat) ↦ p.marks.g i)) (L.Sq.mk l.n fun (i : Nat) ↦ l.g i) ≤ (1000000 : Nat)) ∧ (bif bif bif bif Bool.true then L.fitsV (L.Piece.mk
 p.id p.colour p.rev p.made p.swell (L.Sq.mk p.gauges.n fun (i : Nat) ↦ p.gauges.g i) (L.Sq.mk p.marks.n fun (i : Nat) ↦ p.marks.g i)) (L.Sq.mk l.n fun (i : Nat) ↦ l.g i) s == L.fitsV (L.Piece.mk p.id p.colour p.rev p.made p.swell (L.Sq.mk p.gauges.n fun (i : Nat) ↦ p.gauges.g i) (L.Sq.mk p.marks.n fun (i : Nat) ↦ p.marks.g i)) (L.Sq.mk l.n fun (i : Nat) ↦ l.g i) s else Bool.false then
 Decidable.decide (L.fitsE (L.Piece.mk p.id p.colour p.rev p.made p.swell (L.Sq.mk p.gauges.n fun (i : Nat) ↦ p.gauges.g i) (L.Sq.mk p.marks.n fun (i : Nat) ↦ p.marks.g i)) (L.Sq.mk l.n fun (i : Nat) ↦ l.g i) s = L.fitsE (L.Piece.mk p.id p.colour p.rev p.made p.swell (L.Sq.mk p.gauges.n fun (i : Nat) ↦ p.gauges.g i) (L.Sq.mk p.marks.n fun (i : Nat) ↦ p.marks.g i)) (L.Sq.mk l.n fun (i : Nat) ↦ l.g
 i) s) else Bool.false then Decidable.decide (L.setE (L.Piece.mk p.id p.colour p.rev p.made p.swell (L.Sq.mk p.gauges.n fun (i : Nat) ↦ p.gauges.g i) (L.Sq.mk p.marks.n fun (i : Nat) ↦ p.marks.g i)) (L.Sq.mk l.n fun (i : Nat) ↦ l.g i) = L.setE (L.Piece.mk p.id p.colour p.rev p.made p.swell (L.Sq.mk p.gauges.n fun (i : Nat) ↦ p.gauges.g i) (L.Sq.mk p.marks.n fun (i : Nat) ↦ p.marks.g i)) (L.Sq.mk
 l.n fun (i : Nat) ↦ l.g i)) else Bool.false then L.sameSs (L.Sq.mk (L.setN (L.Piece.mk p.id p.colour p.rev p.made p.swell (L.Sq.mk p.gauges.n fun (i : Nat) ↦ p.gauges.g i) (L.Sq.mk p.marks.n fun (i : Nat) ↦ p.marks.g i)) (L.Sq.mk l.n fun (i : Nat) ↦ l.g i)) fun (i : Nat) ↦ L.setG (L.Piece.mk p.id p.colour p.rev p.made p.swell (L.Sq.mk p.gauges.n fun (i : Nat) ↦ p.gauges.g i) (L.Sq.mk p.marks.n fun
 (i : Nat) ↦ p.marks.g i)) (L.Sq.mk l.n fun (i : Nat) ↦ l.g i) i) (L.Sq.mk (L.setN (L.Piece.mk p.id p.colour p.rev p.made p.swell (L.Sq.mk p.gauges.n fun (i : Nat) ↦ p.gauges.g i) (L.Sq.mk p.marks.n fun (i : Nat) ↦ p.marks.g i)) (L.Sq.mk l.n fun (i : Nat) ↦ l.g i)) fun (i : Nat) ↦ L.setG (L.Piece.mk p.id p.colour p.rev p.made p.swell (L.Sq.mk p.gauges.n fun (i : Nat) ↦ p.gauges.g i) (L.Sq.mk
 p.marks.n fun (i : Nat) ↦ p.marks.g i)) (L.Sq.mk l.n fun (i : Nat) ↦ l.g i) i) else Bool.false) = Bool.true)) (by kernel_rfl) (by
    refine ⟨trivial, ⟨fun _ _ => rfl, fun _ _ => rfl, fun _ _ => rfl, trivial⟩, fun _ => rfl, fun h => ?_⟩
    have hs : p.gauges.n ≤ 60 ∧ p.marks.n ≤ 100 ∧ l.n ≤ 60 := few_iff.1 (notF (b := L.few p l) h)
    have hN : L.setN p l ≤ 1000000 := by
      unfold L.setN
      cases decide (L.setE p l = 0)
      · exact Nat.zero_le _
      · have := cnt_le (p := L.fitK p l) (n := 2 * p.gauges.n)
        show L.cnt (L.fitK p l) (2 * p.gauges.n) ≤ 1000000
        omega
    refine ⟨⟨fun _ _ => rfl, fun _ _ => rfl, fun _ _ => rfl, by omega, by omega, by omega⟩, ⟨fun _ _ => rfl, fun _ _ => rfl, fun _ _ => rfl, by omega, by omega, by omega⟩, ⟨fun _ _ => rfl, fun _ _ => rfl, fun _ _ => rfl, by omega, by omega, by omega⟩, ⟨fun _ _ => rfl, fun _ _ => rfl, fun _ _ => rfl, by omega, by omega, by omega⟩, fun _ => ⟨fun _ _ => rfl, fun _ _ => rfl, hN⟩, ?_⟩
    rw [sameSs_refl]
    simp only [decide_true, beq_self_eq_true, cond_true])
theorem w_GlassFits_ok : SpecOk Try.prog 9 w_GlassFits_S := fnX Try.func9 (c := bodyOf Try.f9) (by kernel_rfl) mixed (fun args p r hs hp => by
  unfold w_GlassFits_s at hs
  split at hs
  · cases hs; exact ⟨_, _, w_GlassFits_vc _ _ _ hp.2.2.2, (.p (.agg rfl (fun i hi => by
      rcases i with _ | i
      · exact (Ext.refl _ : Ext _ _)
      rcases i with _ | i
      · exact (Ext.refl _ : Ext _ _)
      rcases i with _ | i
      · exact (Ext.refl _ : Ext _ _)
      rcases i with _ | i
      · exact (Ext.refl _ : Ext _ _)
      rcases i with _ | i
      · exact (Ext.refl _ : Ext _ _)
      rcases i with _ | i
      · exact (Ext.sl hp.1 : Ext _ _)
      rcases i with _ | i
      · exact (Ext.sl hp.2.1 : Ext _ _)
      exact absurd hi (by simp; try omega))) (.p (.sl hp.2.2.1) (.same _ .nil))), ⟨show SpecsL Try.prog _ from (SpecsL.cons w_awake_ok w_awake_en (SpecsL.cons w_few_ok w_few_en (SpecsL.cons g_Fits_ok g_Fits_en (SpecsL.cons r3_Fits_ok r3_Fits_en (SpecsL.cons g_Settings_ok g_Settings_en (SpecsL.cons r3_Settings_ok r3_Settings_en (SpecsL.cons r1_SameSettings_ok r1_SameSettings_en SpecsL.nil))))))), rfl, ⟨show ItersL Try.prog _ from ItersL.nil, (TrsOk.none (fun _ => rfl))⟩⟩⟩
  · cases hs)
theorem w_GlassFits_en : Enters Try.prog 9 := fun args w => by kernel_rfl
theorem w_GlassFits_B : ∀ args p r, w_GlassFits_s args = some (p, r) → ∃ b, r = .bool b := by
  intro args p r h
  unfold w_GlassFits_s at h
  split at h
  · cases h; exact ⟨_, rfl⟩
  · cases h
end Go.Proofs.Ytipaekbdalahdaa

namespace Go.Proofs.Ytipaekbdalahdaa
open Go.SE Go.RowKit
set_option maxRecDepth 100000
set_option maxHeartbeats 4000000
set_option linter.unusedVariables false
attribute [local irreducible] Go.SE.vc

def ofSqPt : List SV → L.Sq L.Pt
  | [.sl _ n g] => ⟨n, fun i => ofPt (g i)⟩
  | _ => ⟨0, fun _ => ⟨0, 0⟩⟩
def rowPt : List SV → Prop
  | [.sl 2 n g] => ∀ i, i < n → g i = [.int .i64 (ofPt (g i)).x, .int .i64 (ofPt (g i)).y]
  | _ => False
theorem row_len {l : List SV} (h : rowPt l) : l.length = 1 ∧ Ext (SV.at l 0) (.sl 2 (ofSqPt l).n (fun k => [.int .i64 ((ofSqPt l).g k).x, .int .i64 ((ofSqPt l).g k).y])) := by
  unfold rowPt at h
  split at h
  · rename_i n g
    exact ⟨rfl, .sl h⟩
  · exact h.elim
def L.two (a b : L.Sq L.Pt) (i : Nat) : L.Sq L.Pt := bif decide (i = 0) then a else b
theorem rows_ext {g : Nat → List SV} (h : rowPt (g 0) ∧ rowPt (g 1)) : Ext (.sl 1 2 g) (.sl 1 2 (fun i => [.sl 2 (L.two (ofSqPt (g 0)) (ofSqPt (g 1)) i).n (fun k => [.int .i64 ((L.two (ofSqPt (g 0)) (ofSqPt (g 1)) i).g k).x, .int .i64 ((L.two (ofSqPt (g 0)) (ofSqPt (g 1)) i).g k).y])])) := by
  have key : ∀ i, i < 2 → rowPt (g i) ∧ L.two (ofSqPt (g 0)) (ofSqPt (g 1)) i = ofSqPt (g i) := fun i hi => by
    match i, hi with
    | 0, _ => exact ⟨h.1, rfl⟩
    | 1, _ => exact ⟨h.2, rfl⟩
  refine .sl2 (fun i hi => (row_len (key i hi).1).1.symm) (fun i hi j hj => ?_)
  rw [(row_len (key i hi).1).1] at hj
  obtain rfl : j = 0 := by omega
  rw [(key i hi).2]
  exact (row_len (key i hi).1).2
def L.catTo (c : Nat → L.Sq L.Pt) : Nat → L.Sq L.Pt
  | 0 => ⟨0, fun _ => ⟨0, 0⟩⟩
  | i + 1 => ⟨(L.catTo c i).n + (c i).n, fun k => bif decide (k < (L.catTo c i).n) then (L.catTo c i).g k else (c i).g (k - (L.catTo c i).n)⟩
def L.revTo (l : L.Sq L.Pt) (i k : Nat) : L.Pt := bif decide (k < i) || decide (l.n ≤ k + i) then l.g (l.n - 1 - k) else l.g k
def L.minTo (l : L.Sq L.Pt) : Nat → L.Pt
  | 0 => l.g 0
  | i + 1 => bif decide (L.cmpPt (l.g (i + 1)) (L.minTo l i) < 0) then l.g (i + 1) else L.minTo l i
def L.ptIdx (l : L.Sq L.Pt) (v : L.Pt) : Int := L.idx l.n (fun i => L.same v (l.g i))
def L.flip (l : L.Sq L.Pt) : L.Sq L.Pt := bif decide (L.areaTo l l.n < 0) then ⟨l.n, fun k => l.g (l.n - 1 - k)⟩ else l
def L.minK (l : L.Sq L.Pt) : Nat := (L.ptIdx l (L.minTo l (l.n - 1))).toNat
def L.rot (l : L.Sq L.Pt) (d : Nat) : L.Sq L.Pt := ⟨l.n, fun k => bif decide (k < l.n - d) then l.g (d + k) else l.g (k - (l.n - d))⟩
def L.norm (l : L.Sq L.Pt) : L.Sq L.Pt := ⟨l.n, fun k => (L.rot (L.flip l) (L.minK (L.flip l))).g k⟩
def s_cloneP_p (l : (L.Sq L.Pt)) : Prop := l.n ≤ 1000000
def s_cloneP_q (l : (L.Sq L.Pt)) : Nat → Prop := fun _ => True
def s_cloneP_n (l : (L.Sq L.Pt)) : Nat → Nat := fun _ => l.n
def s_cloneP_g (l : (L.Sq L.Pt)) : Nat → Nat → List SV := fun _ i => [.int .i64 ((l.g i).x), .int .i64 ((l.g i).y)]
def s_cloneP_s : List EV → Option (Prop × (Nat → Prop) × (Nat → Nat) × (Nat → Nat → List SV))
  | [.p (.sl 2 l_n l_g)] => some ((∀ i, i < l_n → l_g i = [.int .i64 ((ofPt (l_g i)).x), .int .i64 ((ofPt (l_g i)).y)]) ∧ s_cloneP_p (⟨l_n, fun i => ofPt (l_g i)⟩ : (L.Sq L.Pt)), s_cloneP_q (⟨l_n, fun i => ofPt (l_g i)⟩ : (L.Sq L.Pt)), s_cloneP_n (⟨l_n, fun i => ofPt (l_g i)⟩ : (L.Sq L.Pt)), s_cloneP_g (⟨l_n, fun i => ofPt (l_g i)⟩ : (L.Sq L.Pt)))
  | _ => none
abbrev s_cloneP_S : SE.Spec := (specF Nat 0 77 2 s_cloneP_s)
def s_cloneP_C : Cfg := { muts := [5], frz := lookN [], specs := lookS [], loops := lookL [], iters := lookI [], rfs := lookR [], nils := lookM [] }
theorem s_cloneP_vc (l : (L.Sq L.Pt)) (hp : s_cloneP_p l) : vc Try.prog (s_cloneP_C) (bodyOf Try.f139) (st0 Try.f139 [.p (.sl 2 l.n (fun i => [.int .i64 ((l.g i).x), .int .i64 ((l.g i).y)]))]) (retFresh Try.prog Try.f139 (Nat) (s_cloneP_q l) 77 2 (s_cloneP_n l) (s_cloneP_g l)) :=
  @Eq.mpr _ (∀ (b : Bool), (b = !Bool.false → l.n = (0 : Nat)) → (b = Bool.true → ∃ (t : Nat), l.n = (0 : Nat) ∧ True) ∧ (b = Bool.false → (nat_lit 0 + l.n) * nat_lit 16 ≤ (140737488355328 : Nat) ∧ ∃ (t : Nat), (nat_lit 0 + l.n = l.n ∧ ∀ (i : Nat), i < nat_lit 0 + l.n → Go.SE.appGet (nat_lit 0) (Go.SE.rowsOf [] (nat_lit 2)) (fun (i : Nat) ↦ [Go.SE.SV.int Go.IntKind.i64 (l.g i).x, Go.SE.SV.int Go.IntKind.i64
 (l.g i).y]) i = [Go.SE.SV.int Go.IntKind.i64 (l.g i).x, Go.SE.SV.int Go.IntKind.i64 (l.g i).y]) ∧ True)) (by kernel_rfl) (by
    have hn : l.n ≤ 1000000 := hp
    refine fun b hb => ⟨fun h => ⟨(0 : Nat), hb h, trivial⟩, fun h => ⟨show (0 + l.n) * 16 ≤ 140737488355328 by omega, (0 : Nat), ⟨Nat.zero_add _, fun i hi => ?_⟩, trivial⟩⟩
    unfold appGet; rw [if_neg (Nat.not_lt_zero _)]; rfl)
theorem s_cloneP_ok : SpecOk Try.prog 139 s_cloneP_S := freshX Try.func139 (c := bodyOf Try.f139) (by kernel_rfl) mixed (fun args p q n g hs hp => by
  unfold s_cloneP_s at hs
  split at hs
  · cases hs; exact ⟨_, _, s_cloneP_vc _ hp.2, (.p (.sl hp.1) .nil), ⟨show SpecsL Try.prog _ from SpecsL.nil, rfl, ⟨show ItersL Try.prog _ from ItersL.nil, (TrsOk.none (fun _ => rfl))⟩⟩⟩
  · cases hs)
theorem s_cloneP_en : Enters Try.prog 139 := fun args w => by kernel_rfl
def s_grow_p (s : Nat) (n : Int) : Prop := 1 ≤ n ∧ n ≤ 2000000
def s_grow_q (s : Nat) (n : Int) : Nat → Prop := fun _ => True
def s_grow_n (s : Nat) (n : Int) : Nat → Nat := fun _ => 0
def s_grow_g (s : Nat) (n : Int) : Nat → Nat → List SV := fun _ _ => []
def s_grow_s : List EV → Option (Prop × (Nat → Prop) × (Nat → Nat) × (Nat → Nat → List SV))
  | [.p (.raw (.slice none 0 0)), .p (.int .i64 n)] => some (s_grow_p (0 : Nat) n, s_grow_q (0 : Nat) n, s_grow_n (0 : Nat) n, s_grow_g (0 : Nat) n)
  | _ => none
abbrev s_grow_S : SE.Spec := (specF Nat 0 77 2 s_grow_s)
def s_grow_C : Cfg := { muts := [22], frz := lookN [], specs := lookS [], loops := lookL [], iters := lookI [], rfs := lookR [], nils := lookM [], cuts := [25] }
theorem s_grow_vc (s : Nat) (n : Int) (hp : s_grow_p s n) : vc Try.prog (s_grow_C) (bodyOf Try.f151) (st0 Try.f151 [.p (.raw (.slice none 0 0)), .p (.int .i64 n)]) (retFresh Try.prog Try.f151 (Nat) (s_grow_q s n) 77 2 (s_grow_n s n) (s_grow_g s n)) :=
  @Eq.mpr _ ((Decidable.decide (n < (0 : Int)) = Bool.true → False) ∧ (Decidable.decide (n < (0 : Int)) = Bool.false → Go.SE.InK Go.IntKind.i64 ((↑(0 : Nat) : Int) - (↑(0 : Nat) : Int)) ∧ Go.SE.InK Go.IntKind.i64 (n - ((↑(0 : Nat) : Int) - (↑(0 : Nat) : Int))) ∧ (Decidable.decide ((0 : Int) < n - ((↑(0 : Nat) : Int) - (↑(0 : Nat) : Int))) = Bool.true → ((0 : Int) ≤ (0 : Int) ∧ (0 : Int) ≤ (↑(0 : Nat) : Int) ∧
 (↑(0 : Nat) : Int) ≤ (0 : Int)) ∧ ((0 : Int) < n - ((↑(0 : Nat) : Int) - (↑(0 : Nat) : Int)) ∧ (n - ((↑(0 : Nat) : Int) - (↑(0 : Nat) : Int))) * (↑(nat_lit 16) : Int) ≤ (140737488355328 : Int)) ∧ ((0 : Int) ≤ (↑(0 : Nat) : Int) ∧ (↑(0 : Nat) : Int) ≤ (↑(Int.toNat (n - ((↑(0 : Nat) : Int) - (↑(0 : Nat) : Int)))) : Int)) ∧ ∃ (t : Nat), (nat_lit 0 = (0 : Nat) ∧ ∀ (i : Nat), i < nat_lit 0 →
 [Go.SE.SV.int Go.IntKind.i64 (0 : Int), Go.SE.SV.int Go.IntKind.i64 (0 : Int)] = []) ∧ True) ∧ (Decidable.decide ((0 : Int) < n - ((↑(0 : Nat) : Int) - (↑(0 : Nat) : Int))) = Bool.false → ∃ (t : Nat), (0 : Nat) = (0 : Nat) ∧ True))) (by kernel_rfl) (by
    obtain ⟨h1, h2⟩ := hp
    refine ⟨fun h => ?_, fun _ => ⟨InK.of (by omega) (by omega), InK.of (by omega) (by omega), fun h => ⟨⟨by omega, by omega, by omega⟩, ⟨by omega, show (n - (((0 : Nat) : Int) - ((0 : Nat) : Int))) * 16 ≤ 140737488355328 by omega⟩, ⟨by omega, by omega⟩, (0 : Nat), ⟨rfl, fun i hi => absurd hi (Nat.not_lt_zero _)⟩, trivial⟩, fun h => ⟨(0 : Nat), rfl, trivial⟩⟩⟩
    have := of_decide_eq_true h
    omega)
theorem s_grow_ok : SpecOk Try.prog 151 s_grow_S := freshX Try.func151 (c := bodyOf Try.f151) (by kernel_rfl) mixed (fun args p q n g hs hp => by
  unfold s_grow_s at hs
  split at hs
  · cases hs; exact ⟨_, _, s_grow_vc _ _ hp, (.same _ (.same _ .nil)), ⟨show SpecsL Try.prog _ from SpecsL.nil, rfl, ⟨show ItersL Try.prog _ from ItersL.nil, (TrsOk.none (fun _ => rfl))⟩⟩⟩
  · cases hs)
theorem s_grow_en : Enters Try.prog 151 := fun args w => by kernel_rfl
def s_concat_p (c : (Nat → L.Sq L.Pt)) : Prop := 1 ≤ (c 0).n + (c 1).n ∧ (c 0).n ≤ 1000000 ∧ (c 1).n ≤ 1000000
def s_concat_q (c : (Nat → L.Sq L.Pt)) : Nat → Prop := fun _ => True
def s_concat_n (c : (Nat → L.Sq L.Pt)) : Nat → Nat := fun _ => (L.catTo c 2).n
def s_concat_g (c : (Nat → L.Sq L.Pt)) : Nat → Nat → List SV := fun _ k => [.int .i64 (((L.catTo c 2).g k).x), .int .i64 (((L.catTo c 2).g k).y)]
def s_concat_s : List EV → Option (Prop × (Nat → Prop) × (Nat → Nat) × (Nat → Nat → List SV))
  | [.p (.sl 1 2 c_g)] => some ((rowPt (c_g 0) ∧ rowPt (c_g 1)) ∧ s_concat_p (L.two (ofSqPt (c_g 0)) (ofSqPt (c_g 1))), s_concat_q (L.two (ofSqPt (c_g 0)) (ofSqPt (c_g 1))), s_concat_n (L.two (ofSqPt (c_g 0)) (ofSqPt (c_g 1))), s_concat_g (L.two (ofSqPt (c_g 0)) (ofSqPt (c_g 1))))
  | _ => none
abbrev s_concat_S : SE.Spec := (specF Nat 0 77 2 s_concat_s)
def s_concat_C : Cfg := { muts := [24], frz := lookN [], specs := lookS [(151, s_grow_S)], loops := fun _ => none, iters := lookI [], rfs := lookR [], nils := lookM [], raws := [151] }
theorem s_concat_vc (c : (Nat → L.Sq L.Pt)) (hp : s_concat_p c) : vc Try.prog ({ s_concat_C with loops := lookL [(3, { T := Nat, keep := [0, 9, 10], keepO := [], chg := fun i => [(3, .p (.int .i64 ((L.catTo c i).n : Int))), (11, .p (.int .i64 (i : Int)))], own := fun _ => [], inv := fun i => i ≤ 2, mu := fun i => 2 - i }), (11, { T := Nat, keep := [0, 6, 25, 26], keepO := [], chg := fun i => [(27, .p (.int .i64 (i : Int)))], own := fun i => [(24, .row 77 2 (L.catTo c i).n (fun k => [.int .i64 (((L.catTo c i).g k).x), .int .i64 (((L.catTo c i).g k).y)]))], inv := fun i => i ≤ 2, mu := fun i => 2 - i })], rfs := lookR [] }) (bodyOf Try.f142) (st0 Try.f142 [.p (.sl 1 2 (fun i => [.sl 2 (c i).n (fun k => [.int .i64 ((c i).g k).x, .int .i64 ((c i).g k).y])]))]) (retFresh Try.prog Try.f142 (Nat) (s_concat_q c) 77 2 (s_concat_n c) (s_concat_g c)) :=
  @Eq.mpr _ ((∃ (g : Nat), (0 : Int) = (↑(L.catTo c g).n : Int) ∧ (0 : Int) = (↑g : Int) ∧ g ≤ (2 : Nat)) ∧ ∀ (g : Nat), g ≤ (2 : Nat) → (Decidable.decide ((↑g : Int) < (↑(nat_lit 2) : Int)) = Bool.true → ((0 : Int) ≤ (↑g : Int) ∧ (↑g : Int) < (↑(nat_lit 2) : Int)) ∧ Go.SE.InK Go.IntKind.i64 ((↑(L.catTo c g).n : Int) + (↑(c (Int.toNat (↑g : Int))).n : Int)) ∧ (Bool.false = Bool.true → False) ∧ (Bool.false =
 Bool.false → Go.SE.InK Go.IntKind.i64 ((↑g : Int) + (1 : Int)) ∧ ∃ (g' : Nat), (↑(L.catTo c g).n : Int) + (↑(c (Int.toNat (↑g : Int))).n : Int) = (↑(L.catTo c g').n : Int) ∧ (↑g : Int) + (1 : Int) = (↑g' : Int) ∧ (↑(nat_lit 2) : Int) = (↑(nat_lit 2) : Int) ∧ (nat_lit 2 = nat_lit 2 ∧ ∀ (i : Nat), i < nat_lit 2 → [Go.SE.SV.sl (2 : Nat) (c i).n fun (k : Nat) ↦ [Go.SE.SV.int Go.IntKind.i64 ((c i).g
 k).x, Go.SE.SV.int Go.IntKind.i64 ((c i).g k).y]] = [Go.SE.SV.sl (2 : Nat) (c i).n fun (k : Nat) ↦ [Go.SE.SV.int Go.IntKind.i64 ((c i).g k).x, Go.SE.SV.int Go.IntKind.i64 ((c i).g k).y]]) ∧ (nat_lit 2 = nat_lit 2 ∧ ∀ (i : Nat), i < nat_lit 2 → [Go.SE.SV.sl (2 : Nat) (c i).n fun (k : Nat) ↦ [Go.SE.SV.int Go.IntKind.i64 ((c i).g k).x, Go.SE.SV.int Go.IntKind.i64 ((c i).g k).y]] = [Go.SE.SV.sl (2 :
 Nat) (c i).n fun (k : Nat) ↦ [Go.SE.SV.int Go.IntKind.i64 ((c i).g k).x, Go.SE.SV.int Go.IntKind.i64 ((c i).g k).y]]) ∧ g' ≤ (2 : Nat) ∧ (2 : Nat) - g' < (2 : Nat) - g)) ∧ (Decidable.decide ((↑g : Int) < (↑(nat_lit 2) : Int)) = Bool.false → ((1 : Int) ≤ (↑(L.catTo c g).n : Int) ∧ (↑(L.catTo c g).n : Int) ≤ (2000000 : Int)) ∧ ∀ (t : Nat), True → (∃ (g : Nat), (0 : Int) = (↑g : Int) ∧ ((0 : Nat) =
 (L.catTo c g).n ∧ ∀ (i : Nat), i < (0 : Nat) → [] = [Go.SE.SV.int Go.IntKind.i64 ((L.catTo c g).g i).x, Go.SE.SV.int Go.IntKind.i64 ((L.catTo c g).g i).y]) ∧ g ≤ (2 : Nat)) ∧ ∀ (g_1 : Nat), g_1 ≤ (2 : Nat) → (Decidable.decide ((↑g_1 : Int) < (↑(nat_lit 2) : Int)) = Bool.true → ((0 : Int) ≤ (↑g_1 : Int) ∧ (↑g_1 : Int) < (↑(nat_lit 2) : Int)) ∧ ((L.catTo c g_1).n + (c (Int.toNat (↑g_1 : Int))).n) *
 nat_lit 16 ≤ (140737488355328 : Nat) ∧ Go.SE.InK Go.IntKind.i64 ((↑g_1 : Int) + (1 : Int)) ∧ ∃ (g' : Nat), (↑g_1 : Int) + (1 : Int) = (↑g' : Int) ∧ (↑(nat_lit 2) : Int) = (↑(nat_lit 2) : Int) ∧ (nat_lit 2 = nat_lit 2 ∧ ∀ (i : Nat), i < nat_lit 2 → [Go.SE.SV.sl (2 : Nat) (c i).n fun (k : Nat) ↦ [Go.SE.SV.int Go.IntKind.i64 ((c i).g k).x, Go.SE.SV.int Go.IntKind.i64 ((c i).g k).y]] = [Go.SE.SV.sl (2
 : Nat) (c i).n fun (k : Nat) ↦ [Go.SE.SV.int Go.IntKind.i64 ((c i).g k).x, Go.SE.SV.int Go.IntKind.i64 ((c i).g k).y]]) ∧ (nat_lit 2 = nat_lit 2 ∧ ∀ (i : Nat), i < nat_lit 2 → [Go.SE.SV.sl (2 : Nat) (c i).n fun (k : Nat) ↦ [Go.SE.SV.int Go.IntKind.i64 ((c i).g k).x, Go.SE.SV.int Go.IntKind.i64 ((c i).g k).y]] = [Go.SE.SV.sl (2 : Nat) (c i).n fun (k : Nat) ↦ [Go.SE.SV.int Go.IntKind.i64 ((c i).g
 k).x, Go.SE.SV.int Go.IntKind.i64 ((c i).g k).y]]) ∧ ((L.catTo c g_1).n + (c (Int.toNat (↑g_1 : Int))).n = (L.catTo c g').n ∧ ∀ (i : Nat), i < (L.catTo c g_1).n + (c (Int.toNat (↑g_1 : Int))).n → Go.SE.appGet (L.catTo c g_1).n (fun (k : Nat) ↦ [Go.SE.SV.int Go.IntKind.i64 ((L.catTo c g_1).g k).x, Go.SE.SV.int Go.IntKind.i64 ((L.catTo c g_1).g k).y]) (fun (k : Nat) ↦ [Go.SE.SV.int Go.IntKind.i64
 ((c (Int.toNat (↑g_1 : Int))).g k).x, Go.SE.SV.int Go.IntKind.i64 ((c (Int.toNat (↑g_1 : Int))).g k).y]) i = [Go.SE.SV.int Go.IntKind.i64 ((L.catTo c g').g i).x, Go.SE.SV.int Go.IntKind.i64 ((L.catTo c g').g i).y]) ∧ g' ≤ (2 : Nat) ∧ (2 : Nat) - g' < (2 : Nat) - g_1) ∧ (Decidable.decide ((↑g_1 : Int) < (↑(nat_lit 2) : Int)) = Bool.false → ∃ (t : Nat), ((L.catTo c g_1).n = (L.catTo c (2 : Nat)).n ∧
 ∀ (i : Nat), i < (L.catTo c g_1).n → [Go.SE.SV.int Go.IntKind.i64 ((L.catTo c g_1).g i).x, Go.SE.SV.int Go.IntKind.i64 ((L.catTo c g_1).g i).y] = [Go.SE.SV.int Go.IntKind.i64 ((L.catTo c (2 : Nat)).g i).x, Go.SE.SV.int Go.IntKind.i64 ((L.catTo c (2 : Nat)).g i).y]) ∧ True))) (by kernel_rfl) (by
    obtain ⟨h1, h2, h3⟩ := hp
    have hc : ∀ i, i < 2 → (c i).n ≤ 1000000 := fun i hi => by
      match i, hi with
      | 0, _ => exact h2
      | 1, _ => exact h3
    have e1 : (L.catTo c 1).n = 0 + (c 0).n := rfl
    have e2 : (L.catTo c 2).n = 0 + (c 0).n + (c 1).n := rfl
    have ht : ∀ i, i ≤ 2 → (L.catTo c i).n ≤ 2000000 := fun i hi => by
      match i, hi with
      | 0, _ => exact Nat.zero_le _
      | 1, _ => omega
      | 2, _ => omega
    refine ⟨⟨(0 : Nat), rfl, rfl, Nat.zero_le _⟩, fun g hg => ⟨fun hlt => ?_, fun hge => ?_⟩⟩
    · have hb : (g : Int) < 2 := of_decide_eq_true hlt
      have e0 : ((g : Int)).toNat = g := by omega
      have hcg := hc g (by omega)
      have htg := ht g hg
      rw [e0]
      exact ⟨⟨by omega, hb⟩, InK.of (by omega) (by omega), fun h => Bool.false_ne_true h, fun _ => ⟨InK.of (by omega) (by omega), g + 1, by show ((L.catTo c g).n : Int) + ((c g).n : Int) = (((L.catTo c g).n + (c g).n : Nat) : Int); omega, by omega, rfl, ⟨rfl, fun _ _ => rfl⟩, ⟨rfl, fun _ _ => rfl⟩, by omega, by omega⟩⟩
    · have hb : ¬ (g : Int) < 2 := of_decide_eq_false hge
      obtain rfl : g = 2 := by omega
      refine ⟨⟨by omega, by omega⟩, fun _ _ => ⟨⟨(0 : Nat), rfl, ⟨rfl, fun i hi => absurd hi (Nat.not_lt_zero _)⟩, Nat.zero_le _⟩, fun k hk => ⟨fun hlt => ?_, fun hge => ?_⟩⟩⟩
      · have hb : (k : Int) < 2 := of_decide_eq_true hlt
        have e0 : ((k : Int)).toNat = k := by omega
        have hck := hc k (by omega)
        have htk := ht k hk
        rw [e0]
        refine ⟨⟨by omega, hb⟩, show ((L.catTo c k).n + (c k).n) * 16 ≤ 140737488355328 by omega, InK.of (by omega) (by omega), k + 1, by omega, rfl, ⟨rfl, fun _ _ => rfl⟩, ⟨rfl, fun _ _ => rfl⟩, ⟨rfl, fun i hi => ?_⟩, by omega, by omega⟩
        unfold appGet
        by_cases h : i < (L.catTo c k).n
        · have w : (L.catTo c (k + 1)).g i = (L.catTo c k).g i := by
            show (bif decide (i < (L.catTo c k).n) then _ else _) = _
            rw [decide_eq_true h]; rfl
          rw [if_pos h, w]
        · have w : (L.catTo c (k + 1)).g i = (c k).g (i - (L.catTo c k).n) := by
            show (bif decide (i < (L.catTo c k).n) then _ else _) = _
            rw [decide_eq_false h]; rfl
          rw [if_neg h, w]
      · have hb : ¬ (k : Int) < 2 := of_decide_eq_false hge
        obtain rfl : k = 2 := by omega
        exact ⟨(0 : Nat), ⟨rfl, fun _ _ => rfl⟩, trivial⟩)
theorem s_concat_ok : SpecOk Try.prog 142 s_concat_S := freshX Try.func142 (c := bodyOf Try.f142) (by kernel_rfl) mixed (fun args p q n g hs hp => by
  unfold s_concat_s at hs
  split at hs
  · cases hs; exact ⟨_, _, s_concat_vc _ hp.2, (.p (rows_ext hp.1) .nil), ⟨show SpecsL Try.prog _ from (SpecsL.cons s_grow_ok s_grow_en SpecsL.nil), rfl, ⟨show ItersL Try.prog _ from ItersL.nil, (TrsOk.none (fun _ => rfl))⟩⟩⟩
  · cases hs)
theorem s_concat_en : Enters Try.prog 142 := fun args w => by kernel_rfl
abbrev s_revP_tr : Tr := { T := (L.Sq L.Pt), U := Nat, args := fun t => (fun l => [.row 1005]) t, own := fun t => (fun l => [(1005, .row 77 2 l.n (fun k => [.int .i64 ((l.g k).x), .int .i64 ((l.g k).y)]))]) t, pre := fun t => (fun l => l.n ≤ 1000000) t, post := fun t u => (fun l => fun u => True) t u, own' := fun t u => (fun l => fun u => [(1005, .row 77 2 l.n (fun k => [.int .i64 ((l.g (l.n - 1 - k)).x), .int .i64 ((l.g (l.n - 1 - k)).y)]))]) t u, res := fun t u => (fun l => fun u => .p (.tup [])) t u }
theorem s_revP_vc (l : L.Sq L.Pt) (hp : s_revP_tr.pre l) : vc Try.prog ({ muts := [], frz := lookN [], specs := lookS [], loops := lookL [(1, { T := Nat, keep := [0], keepO := [], chg := fun i => [(2, .p (.int .i64 (i : Int))), (3, .p (.int .i64 ((l.n : Int) - 1 - (i : Int))))], own := fun i => [(1005, .row 77 2 l.n (fun k => [.int .i64 ((L.revTo l i k).x), .int .i64 ((L.revTo l i k).y)]))], inv := fun i => 2 * i ≤ l.n, mu := fun i => l.n - i })], iters := lookI [], rfs := lookR [], nils := lookM [] }) (bodyOf Try.f140) (stTr Try.f140 (s_revP_tr.args l) (s_revP_tr.own l)) (retTr Try.prog Try.f140 s_revP_tr l) :=
  @Eq.mpr _ (Go.SE.InK Go.IntKind.i64 ((↑l.n : Int) - (1 : Int)) ∧ (∃ (g : Nat), (0 : Int) = (↑g : Int) ∧ (↑l.n : Int) - (1 : Int) = (↑l.n : Int) - (1 : Int) - (↑g : Int) ∧ (l.n = l.n ∧ ∀ (i : Nat), i < l.n → [Go.SE.SV.int Go.IntKind.i64 (l.g i).x, Go.SE.SV.int Go.IntKind.i64 (l.g i).y] = [Go.SE.SV.int Go.IntKind.i64 (L.revTo l g i).x, Go.SE.SV.int Go.IntKind.i64 (L.revTo l g i).y]) ∧ (2 : Nat) * g ≤ l.n) ∧ ∀
 (g : Nat), (2 : Nat) * g ≤ l.n → (Decidable.decide ((↑g : Int) < (↑l.n : Int) - (1 : Int) - (↑g : Int)) = Bool.true → ((0 : Int) ≤ (↑l.n : Int) - (1 : Int) - (↑g : Int) ∧ (↑l.n : Int) - (1 : Int) - (↑g : Int) < (↑l.n : Int)) ∧ Int.toNat ((↑l.n : Int) - (1 : Int) - (↑g : Int)) < l.n ∧ ((0 : Int) ≤ (↑g : Int) ∧ (↑g : Int) < (↑l.n : Int)) ∧ Int.toNat (↑g : Int) < l.n ∧ ((0 : Int) ≤ (↑g : Int) ∧ (↑g :
 Int) < (↑l.n : Int)) ∧ Int.toNat (↑g : Int) < l.n ∧ ((0 : Int) ≤ (↑l.n : Int) - (1 : Int) - (↑g : Int) ∧ (↑l.n : Int) - (1 : Int) - (↑g : Int) < (↑l.n : Int)) ∧ Int.toNat ((↑l.n : Int) - (1 : Int) - (↑g : Int)) < l.n ∧ Go.SE.InK Go.IntKind.i64 ((↑g : Int) + (1 : Int)) ∧ Go.SE.InK Go.IntKind.i64 ((↑l.n : Int) - (1 : Int) - (↑g : Int) - (1 : Int)) ∧ ∃ (g' : Nat), (↑g : Int) + (1 : Int) = (↑g' : Int)
 ∧ (↑l.n : Int) - (1 : Int) - (↑g : Int) - (1 : Int) = (↑l.n : Int) - (1 : Int) - (↑g' : Int) ∧ (l.n = l.n ∧ ∀ (i : Nat), i < l.n → Go.SE.setRow (Go.SE.setRow (fun (k : Nat) ↦ [Go.SE.SV.int Go.IntKind.i64 (L.revTo l g k).x, Go.SE.SV.int Go.IntKind.i64 (L.revTo l g k).y]) (Int.toNat (↑g : Int)) (nat_lit 0) [Go.SE.SV.int Go.IntKind.i64 (L.revTo l g (Int.toNat ((↑l.n : Int) - (1 : Int) - (↑g :
 Int)))).x, Go.SE.SV.int Go.IntKind.i64 (L.revTo l g (Int.toNat ((↑l.n : Int) - (1 : Int) - (↑g : Int)))).y]) (Int.toNat ((↑l.n : Int) - (1 : Int) - (↑g : Int))) (nat_lit 0) [Go.SE.SV.int Go.IntKind.i64 (L.revTo l g (Int.toNat (↑g : Int))).x, Go.SE.SV.int Go.IntKind.i64 (L.revTo l g (Int.toNat (↑g : Int))).y] i = [Go.SE.SV.int Go.IntKind.i64 (L.revTo l g' i).x, Go.SE.SV.int Go.IntKind.i64 (L.revTo
 l g' i).y]) ∧ (2 : Nat) * g' ≤ l.n ∧ l.n - g' < l.n - g) ∧ (Decidable.decide ((↑g : Int) < (↑l.n : Int) - (1 : Int) - (↑g : Int)) = Bool.false → ∃ (u : Nat), (l.n = l.n ∧ ∀ (i : Nat), i < l.n → [Go.SE.SV.int Go.IntKind.i64 (L.revTo l g i).x, Go.SE.SV.int Go.IntKind.i64 (L.revTo l g i).y] = [Go.SE.SV.int Go.IntKind.i64 (l.g (l.n - (1 : Nat) - i)).x, Go.SE.SV.int Go.IntKind.i64 (l.g (l.n - (1 : Nat)
 - i)).y]) ∧ True)) (by kernel_rfl) (by
    have hn : l.n ≤ 1000000 := hp
    refine ⟨InK.of (by omega) (by omega), ⟨(0 : Nat), rfl, by omega, ⟨rfl, fun i hi => ?_⟩, Nat.zero_le _⟩, fun g hg => ⟨fun hlt => ?_, fun hge => ?_⟩⟩
    · have hi : i < l.n := hi
      have w : L.revTo l 0 i = l.g i := by unfold L.revTo; rw [decide_eq_false (Nat.not_lt_zero _), decide_eq_false (by omega)]; rfl
      rw [w]
    · have hb : (g : Int) < (l.n : Int) - 1 - (g : Int) := of_decide_eq_true hlt
      have e0 : ((g : Int)).toNat = g := by omega
      have e1 : ((l.n : Int) - 1 - (g : Int)).toNat = l.n - 1 - g := by omega
      rw [e0, e1]
      refine ⟨⟨by omega, by omega⟩, by omega, ⟨by omega, by omega⟩, by omega, ⟨by omega, by omega⟩, by omega, ⟨by omega, by omega⟩, by omega, InK.of (by omega) (by omega), InK.of (by omega) (by omega), g + 1, by omega, by omega, ⟨rfl, fun i hi => ?_⟩, by omega, by omega⟩
      have hi : i < l.n := hi
      have r0 : ∀ k, ¬ k < g → ¬ l.n ≤ k + g → L.revTo l g k = l.g k := fun k h1 h2 => by
        unfold L.revTo; rw [decide_eq_false h1, decide_eq_false h2]; rfl
      have r1 : ∀ j k, k < j ∨ l.n ≤ k + j → L.revTo l j k = l.g (l.n - 1 - k) := fun j k h => by
        unfold L.revTo
        rcases h with h | h
        · rw [decide_eq_true h]; rfl
        · rw [decide_eq_true h, Bool.or_true]; rfl
      unfold setRow
      by_cases c1 : i = l.n - 1 - g
      · subst c1
        rw [if_pos rfl, r0 g (by omega) (by omega), r1 (g + 1) _ (.inr (by omega)), show l.n - 1 - (l.n - 1 - g) = g by omega]
        rw [if_neg (show ¬ (l.n - 1 - g = g) by omega)]
        rfl
      · rw [if_neg c1]
        by_cases c2 : i = g
        · subst c2
          rw [if_pos rfl, r0 (l.n - 1 - i) (by omega) (by omega), r1 (i + 1) i (.inl (by omega))]
          rfl
        · rw [if_neg c2]
          dsimp only
          by_cases c3 : i < g ∨ l.n ≤ i + g
          · rw [r1 g i c3, r1 (g + 1) i (by omega)]
          · rw [r0 i (by omega) (by omega)]
            have : L.revTo l (g + 1) i = l.g i := by
              unfold L.revTo; rw [decide_eq_false (by omega), decide_eq_false (by omega)]; rfl
            rw [this]
    · have hb : ¬ (g : Int) < (l.n : Int) - 1 - (g : Int) := of_decide_eq_false hge
      refine ⟨(0 : Nat), ⟨rfl, fun i hi => ?_⟩, trivial⟩
      have hi : i < l.n := hi
      have w : L.revTo l g i = l.g (l.n - 1 - i) := by
        unfold L.revTo
        by_cases c1 : i < g
        · rw [decide_eq_true c1]; rfl
        · by_cases c2 : l.n ≤ i + g
          · rw [decide_eq_true c2, Bool.or_true]; rfl
          · rw [decide_eq_false c1, decide_eq_false c2, show l.n - 1 - i = i by omega]; rfl
      rw [w])
theorem s_revP_en : Enters Try.prog 140 := fun args w => by kernel_rfl
theorem s_revP_tok : TrOk Try.prog 140 s_revP_tr := tr_ok (ks := [1005]) (n := 1) Try.func140 (c := bodyOf Try.f140) (by kernel_rfl) mixed ⟨fun t => rfl, fun t => rfl, fun t u => rfl, fun t u => rfl, fun t u => rfl, by kernel_rfl⟩ (fun l hp => ⟨_, s_revP_vc l hp, ⟨show SpecsL Try.prog _ from SpecsL.nil, rfl, ⟨show ItersL Try.prog _ from ItersL.nil, (TrsOk.none (fun _ => rfl))⟩⟩⟩)
def s_minP_p (l : (L.Sq L.Pt)) (f : FSpec) : Prop := 1 ≤ l.n ∧ l.n ≤ 1000000 ∧ ∀ a b : L.Pt, f.pre [(.agg [.int .i64 ((a).x), .int .i64 ((a).y)]), (.agg [.int .i64 ((b).x), .int .i64 ((b).y)])] ∧ L.fil f [(.agg [.int .i64 ((a).x), .int .i64 ((a).y)]), (.agg [.int .i64 ((b).x), .int .i64 ((b).y)])] = L.cmpPt a b
def s_minP_r (l : (L.Sq L.Pt)) (f : FSpec) : SV := (.agg [.int .i64 ((L.minTo l (l.n - 1)).x), .int .i64 ((L.minTo l (l.n - 1)).y)])
def s_minP_s : List EV → Option (Prop × SV)
  | [.p (.sl 2 l_n l_g), .fn f] => some ((∀ i, i < l_n → l_g i = [.int .i64 ((ofPt (l_g i)).x), .int .i64 ((ofPt (l_g i)).y)]) ∧ isI f ∧ s_minP_p (⟨l_n, fun i => ofPt (l_g i)⟩ : (L.Sq L.Pt)) f, s_minP_r (⟨l_n, fun i => ofPt (l_g i)⟩ : (L.Sq L.Pt)) f)
  | _ => none
abbrev s_minP_S : SE.Spec := (specO s_minP_s)
def s_minP_C : Cfg := { muts := [4, 5], frz := lookN [], specs := lookS [], loops := fun _ => none, iters := lookI [], rfs := lookR [], nils := lookM [] }
theorem s_minP_vc (l : (L.Sq L.Pt)) (f : FSpec) (hp : s_minP_p l f) : vc Try.prog ({ s_minP_C with loops := lookL [(5, { T := Nat, keep := [0, 1, 4, 5], keepO := [4], chg := fun i => [(6, .p (.int .i64 ((i : Int) + 1)))], own := fun i => [(5, .blk 77 [.p (.int .i64 (L.minTo l i).x), .p (.int .i64 (L.minTo l i).y)])], inv := fun i => i + 1 ≤ l.n, mu := fun i => l.n - i })], rfs := lookR [] }) (bodyOf Try.f141) (st0 Try.f141 [.p (.sl 2 l.n (fun i => [.int .i64 ((l.g i).x), .int .i64 ((l.g i).y)])), .fn ⟨f.pre, fun xs => .int .i64 (L.fil f xs)⟩]) (retFn Try.prog Try.f141 (s_minP_r l f)) :=
  @Eq.mpr _ ((Decidable.decide ((↑l.n : Int) < (1 : Int)) = Bool.true → False) ∧ (Decidable.decide ((↑l.n : Int) < (1 : Int)) = Bool.false → ((0 : Int) ≤ (0 : Int) ∧ (0 : Int) < (↑l.n : Int)) ∧ (∃ (g : Nat), (1 : Int) = (↑g : Int) + (1 : Int) ∧ (l.g (Int.toNat (0 : Int))).x = (L.minTo l g).x ∧ (l.g (Int.toNat (0 : Int))).y = (L.minTo l g).y ∧ g + (1 : Nat) ≤ l.n) ∧ ∀ (g : Nat), g + (1 : Nat) ≤ l.n →
 (Decidable.decide ((↑g : Int) + (1 : Int) < (↑l.n : Int)) = Bool.true → ((0 : Int) ≤ (↑g : Int) + (1 : Int) ∧ (↑g : Int) + (1 : Int) < (↑l.n : Int)) ∧ f.1 [Go.SE.SV.agg [Go.SE.SV.int Go.IntKind.i64 (l.g (Int.toNat ((↑g : Int) + (1 : Int)))).x, Go.SE.SV.int Go.IntKind.i64 (l.g (Int.toNat ((↑g : Int) + (1 : Int)))).y], Go.SE.SV.agg [Go.SE.SV.int Go.IntKind.i64 (L.minTo l g).x, Go.SE.SV.int
 Go.IntKind.i64 (L.minTo l g).y]] ∧ (Decidable.decide (L.fil f [Go.SE.SV.agg [Go.SE.SV.int Go.IntKind.i64 (l.g (Int.toNat ((↑g : Int) + (1 : Int)))).x, Go.SE.SV.int Go.IntKind.i64 (l.g (Int.toNat ((↑g : Int) + (1 : Int)))).y], Go.SE.SV.agg [Go.SE.SV.int Go.IntKind.i64 (L.minTo l g).x, Go.SE.SV.int Go.IntKind.i64 (L.minTo l g).y]] < (0 : Int)) = Bool.true → ((0 : Int) ≤ (↑g : Int) + (1 : Int) ∧ (↑g
 : Int) + (1 : Int) < (↑l.n : Int)) ∧ Go.SE.InK Go.IntKind.i64 ((↑g : Int) + (1 : Int) + (1 : Int)) ∧ ∃ (g' : Nat), (↑g : Int) + (1 : Int) + (1 : Int) = (↑g' : Int) + (1 : Int) ∧ nat_lit 0 = nat_lit 0 ∧ nat_lit 0 = nat_lit 0 ∧ (l.n = l.n ∧ ∀ (i : Nat), i < l.n → [Go.SE.SV.int Go.IntKind.i64 (l.g i).x, Go.SE.SV.int Go.IntKind.i64 (l.g i).y] = [Go.SE.SV.int Go.IntKind.i64 (l.g i).x, Go.SE.SV.int
 Go.IntKind.i64 (l.g i).y]) ∧ ((Go.SE.FSpec.mk f.pre fun (xs : List Go.SE.SV) ↦ Go.SE.SV.int Go.IntKind.i64 (L.fil f xs)) = Go.SE.FSpec.mk f.pre fun (xs : List Go.SE.SV) ↦ Go.SE.SV.int Go.IntKind.i64 (L.fil f xs)) ∧ (l.g (Int.toNat ((↑g : Int) + (1 : Int)))).x = (L.minTo l g').x ∧ (l.g (Int.toNat ((↑g : Int) + (1 : Int)))).y = (L.minTo l g').y ∧ (0 : Int) = (0 : Int) ∧ (0 : Int) = (0 : Int) ∧ g' +
 (1 : Nat) ≤ l.n ∧ l.n - g' < l.n - g) ∧ (Decidable.decide (L.fil f [Go.SE.SV.agg [Go.SE.SV.int Go.IntKind.i64 (l.g (Int.toNat ((↑g : Int) + (1 : Int)))).x, Go.SE.SV.int Go.IntKind.i64 (l.g (Int.toNat ((↑g : Int) + (1 : Int)))).y], Go.SE.SV.agg [Go.SE.SV.int Go.IntKind.i64 (L.minTo l g).x, Go.SE.SV.int Go.IntKind.i64 (L.minTo l g).y]] < (0 : Int)) = Bool.false → Go.SE.InK Go.IntKind.i64 ((↑g : Int)
 + (1 : Int) + (1 : Int)) ∧ ∃ (g' : Nat), (↑g : Int) + (1 : Int) + (1 : Int) = (↑g' : Int) + (1 : Int) ∧ nat_lit 0 = nat_lit 0 ∧ nat_lit 0 = nat_lit 0 ∧ (l.n = l.n ∧ ∀ (i : Nat), i < l.n → [Go.SE.SV.int Go.IntKind.i64 (l.g i).x, Go.SE.SV.int Go.IntKind.i64 (l.g i).y] = [Go.SE.SV.int Go.IntKind.i64 (l.g i).x, Go.SE.SV.int Go.IntKind.i64 (l.g i).y]) ∧ ((Go.SE.FSpec.mk f.pre fun (xs : List Go.SE.SV) ↦
 Go.SE.SV.int Go.IntKind.i64 (L.fil f xs)) = Go.SE.FSpec.mk f.pre fun (xs : List Go.SE.SV) ↦ Go.SE.SV.int Go.IntKind.i64 (L.fil f xs)) ∧ (L.minTo l g).x = (L.minTo l g').x ∧ (L.minTo l g).y = (L.minTo l g').y ∧ (0 : Int) = (0 : Int) ∧ (0 : Int) = (0 : Int) ∧ g' + (1 : Nat) ≤ l.n ∧ l.n - g' < l.n - g)) ∧ (Decidable.decide ((↑g : Int) + (1 : Int) < (↑l.n : Int)) = Bool.false → Go.SE.SV.agg
 [Go.SE.SV.int Go.IntKind.i64 (L.minTo l g).x, Go.SE.SV.int Go.IntKind.i64 (L.minTo l g).y] = Go.SE.SV.agg [Go.SE.SV.int Go.IntKind.i64 (L.minTo l (l.n - (1 : Nat))).x, Go.SE.SV.int Go.IntKind.i64 (L.minTo l (l.n - (1 : Nat))).y]))) (by kernel_rfl) (by
    obtain ⟨h1, h2, hf⟩ := hp
    refine ⟨fun h => ?_, fun _ => ⟨⟨by omega, by omega⟩, ⟨(0 : Nat), rfl, rfl, rfl, by omega⟩, fun g hg => ⟨fun hlt => ?_, fun hge => ?_⟩⟩⟩
    · have := of_decide_eq_true h
      omega
    · have hb : (g : Int) + 1 < (l.n : Int) := of_decide_eq_true hlt
      have e0 : ((g : Int) + 1).toNat = g + 1 := by omega
      obtain ⟨q1, q2⟩ := hf (l.g (g + 1)) (L.minTo l g)
      rw [e0, q2]
      refine ⟨⟨by omega, hb⟩, q1, fun h => ⟨⟨by omega, hb⟩, InK.of (by omega) (by omega), g + 1, by omega, rfl, rfl, ⟨rfl, fun _ _ => rfl⟩, rfl, ?_, ?_, rfl, rfl, by omega, by omega⟩, fun h => ⟨InK.of (by omega) (by omega), g + 1, by omega, rfl, rfl, ⟨rfl, fun _ _ => rfl⟩, rfl, ?_, ?_, rfl, rfl, by omega, by omega⟩⟩ <;> rw [L.minTo, h] <;> rfl
    · have hb : ¬ (g : Int) + 1 < (l.n : Int) := of_decide_eq_false hge
      obtain rfl : g = l.n - 1 := by omega
      rfl)
theorem s_minP_ok : SpecOk Try.prog 141 s_minP_S := fnX Try.func141 (c := bodyOf Try.f141) (by kernel_rfl) mixed (fun args p r hs hp => by
  unfold s_minP_s at hs
  split at hs
  · cases hs; exact ⟨_, _, s_minP_vc _ _ hp.2.2, (.p (.sl hp.1) (.fn (fun xs h => ⟨h, (fil_res hp.2.1 h).symm⟩) .nil)), ⟨show SpecsL Try.prog _ from SpecsL.nil, rfl, ⟨show ItersL Try.prog _ from ItersL.nil, (TrsOk.none (fun _ => rfl))⟩⟩⟩
  · cases hs)
theorem s_minP_en : Enters Try.prog 141 := fun args w => by kernel_rfl
def s_idxPt_p (l : (L.Sq L.Pt)) (v : L.Pt) : Prop := l.n ≤ 1000000
def s_idxPt_r (l : (L.Sq L.Pt)) (v : L.Pt) : SV := .int .i64 (L.ptIdx l v)
def s_idxPt_s : List EV → Option (Prop × SV)
  | [.p (.sl 2 l_n l_g), .p (.agg [.int .i64 v_x, .int .i64 v_y])] => some ((∀ i, i < l_n → l_g i = [.int .i64 ((ofPt (l_g i)).x), .int .i64 ((ofPt (l_g i)).y)]) ∧ s_idxPt_p (⟨l_n, fun i => ofPt (l_g i)⟩ : (L.Sq L.Pt)) (⟨v_x, v_y⟩ : L.Pt), s_idxPt_r (⟨l_n, fun i => ofPt (l_g i)⟩ : (L.Sq L.Pt)) (⟨v_x, v_y⟩ : L.Pt))
  | _ => none
abbrev s_idxPt_S : SE.Spec := (specO s_idxPt_s)
def s_idxPt_C : Cfg := { muts := [], frz := lookN [], specs := lookS [], loops := fun _ => none, iters := lookI [], rfs := lookR [], nils := lookM [] }
theorem s_idxPt_vc (l : (L.Sq L.Pt)) (v : L.Pt) (hp : s_idxPt_p l v) : vc Try.prog ({ s_idxPt_C with loops := lookL [(2, { T := Nat, keep := [0, 3, 6, 7], keepO := [], chg := fun i => [(8, .p (.int .i64 i))], own := fun _ => [], inv := fun i => i ≤ l.n ∧ (∀ j, j < i → L.same v (l.g j) = false), mu := fun i => l.n - i })], rfs := lookR [] }) (bodyOf Try.f99) (st0 Try.f99 [.p (.sl 2 l.n (fun i => [.int .i64 ((l.g i).x), .int .i64 ((l.g i).y)])), .p (.agg [.int .i64 v.x, .int .i64 v.y])]) (retFn Try.prog Try.f99 (s_idxPt_r l v)) :=
  @Eq.mpr _ ((∃ (g : Nat), (0 : Int) = (↑g : Int) ∧ g ≤ l.n ∧ ∀ (j : Nat), j < g → L.same v (l.g j) = Bool.false) ∧ ∀ (g : Nat), (g ≤ l.n ∧ ∀ (j : Nat), j < g → L.same v (l.g j) = Bool.false) → (Decidable.decide ((↑g : Int) < (↑l.n : Int)) = Bool.true → ((0 : Int) ≤ (↑g : Int) ∧ (↑g : Int) < (↑l.n : Int)) ∧ ((Decidable.decide (v.x = (l.g (Int.toNat (↑g : Int))).x) && Decidable.decide (v.y = (l.g (Int.toNat (↑g
 : Int))).y)) = Bool.true → (↑g : Int) = L.ptIdx l v) ∧ ((Decidable.decide (v.x = (l.g (Int.toNat (↑g : Int))).x) && Decidable.decide (v.y = (l.g (Int.toNat (↑g : Int))).y)) = Bool.false → Go.SE.InK Go.IntKind.i64 ((↑g : Int) + (1 : Int)) ∧ ∃ (g' : Nat), (↑g : Int) + (1 : Int) = (↑g' : Int) ∧ (↑l.n : Int) = (↑l.n : Int) ∧ (l.n = l.n ∧ ∀ (i : Nat), i < l.n → [Go.SE.SV.int Go.IntKind.i64 (l.g i).x,
 Go.SE.SV.int Go.IntKind.i64 (l.g i).y] = [Go.SE.SV.int Go.IntKind.i64 (l.g i).x, Go.SE.SV.int Go.IntKind.i64 (l.g i).y]) ∧ Go.SE.SV.ref [Go.SE.SV.int Go.IntKind.i64 v.x, Go.SE.SV.int Go.IntKind.i64 v.y] (nat_lit 0) = Go.SE.SV.ref [Go.SE.SV.int Go.IntKind.i64 v.x, Go.SE.SV.int Go.IntKind.i64 v.y] (nat_lit 0) ∧ (l.n = l.n ∧ ∀ (i : Nat), i < l.n → [Go.SE.SV.int Go.IntKind.i64 (l.g i).x, Go.SE.SV.int
 Go.IntKind.i64 (l.g i).y] = [Go.SE.SV.int Go.IntKind.i64 (l.g i).x, Go.SE.SV.int Go.IntKind.i64 (l.g i).y]) ∧ (g' ≤ l.n ∧ ∀ (j : Nat), j < g' → L.same v (l.g j) = Bool.false) ∧ l.n - g' < l.n - g)) ∧ (Decidable.decide ((↑g : Int) < (↑l.n : Int)) = Bool.false → (-1 : Int) = L.ptIdx l v)) (by kernel_rfl) (by
    have hn : l.n ≤ 1000000 := hp
    refine ⟨⟨(0 : Nat), rfl, Nat.zero_le _, fun j hj => absurd hj (Nat.not_lt_zero _)⟩, fun g hg => ⟨fun hlt => ?_, fun hge => ?_⟩⟩
    · have hb : (g : Int) < (l.n : Int) := of_decide_eq_true hlt
      have e0 : ((g : Int)).toNat = g := by omega
      rw [e0]
      refine ⟨⟨by omega, hb⟩, fun h => ?_, fun h => ?_⟩
      · have h : L.same v (l.g g) = true := h
        exact (idx_at (f := fun i => L.same v (l.g i)) hg.2 h (by omega)).symm
      · have h : L.same v (l.g g) = false := h
        exact ⟨InK.of (by omega) (by omega), g + 1, by omega, rfl, ⟨rfl, fun _ _ => rfl⟩, rfl, ⟨rfl, fun _ _ => rfl⟩, ⟨by omega, fun j hj => by
          rcases Nat.lt_succ_iff_lt_or_eq.1 hj with h' | rfl
          · exact hg.2 j h'
          · exact h⟩, by omega⟩
    · have hb : ¬ (g : Int) < (l.n : Int) := of_decide_eq_false hge
      exact (idx_none (f := fun i => L.same v (l.g i)) (fun j hj => hg.2 j (by omega))).symm)
theorem s_idxPt_ok : SpecOk Try.prog 99 s_idxPt_S := fnX Try.func99 (c := bodyOf Try.f99) (by kernel_rfl) mixed (fun args p r hs hp => by
  unfold s_idxPt_s at hs
  split at hs
  · cases hs; exact ⟨_, _, s_idxPt_vc _ _ hp.2, (.p (.sl hp.1) (.same _ .nil)), ⟨show SpecsL Try.prog _ from SpecsL.nil, rfl, ⟨show ItersL Try.prog _ from ItersL.nil, (TrsOk.none (fun _ => rfl))⟩⟩⟩
  · cases hs)
theorem s_idxPt_en : Enters Try.prog 99 := fun args w => by kernel_rfl
theorem s_idxPt_I : ∀ args p r, s_idxPt_s args = some (p, r) → ∃ n, r = .int .i64 n := by
  intro args p r h
  unfold s_idxPt_s at h
  split at h
  · cases h; exact ⟨_, rfl⟩
  · cases h
end Go.Proofs.Ytipaekbdalahdaa

namespace Go.Proofs.Ytipaekbdalahdaa
open Go.SE Go.RowKit
set_option maxRecDepth 100000
set_option maxHeartbeats 4000000
set_option linter.unusedVariables false
attribute [local irreducible] Go.SE.vc

def L.isP (f : FSpec) : Prop := ∀ xs, f.pre xs → ∃ a b, f.res xs = .agg [.int .i64 a, .int .i64 b]
theorem isP_of {s : List EV → Option (Prop × SV)} (h : ∀ args p r, s args = some (p, r) → ∃ a b, r = .agg [.int .i64 a, .int .i64 b]) (g : List SV → List EV) : L.isP ⟨fun xs => preO s (g xs), fun xs => resO s (g xs)⟩ := fun xs hp => by
  simp only [preO, resO] at hp ⊢
  cases hs : s (g xs) with
  | none => simp [hs] at hp
  | some q =>
    obtain ⟨p, r⟩ := q
    obtain ⟨a, b, hb⟩ := h _ p r hs
    exact ⟨a, b, hb⟩
def L.fpl (p : FSpec) (xs : List SV) : L.Pt := match p.res xs with
  | .agg cs => ofPt cs
  | _ => ⟨0, 0⟩
theorem fpl_res {p : FSpec} (h : L.isP p) {xs : List SV} (hp : p.pre xs) : p.res xs = .agg [.int .i64 (L.fpl p xs).x, .int .i64 (L.fpl p xs).y] := by
  obtain ⟨a, b, hb⟩ := h xs hp
  rw [hb, L.fpl, hb]; rfl
def L.mapTo (l : L.Sq L.Pt) (f : FSpec) (i k : Nat) : L.Pt := bif decide (k < i) then L.fpl f [(.agg [.int .i64 ((l.g k).x), .int .i64 ((l.g k).y)])] else ⟨0, 0⟩
def L.fmap (f : FSpec) (g : Nat → L.Pt) : Nat → L.Pt := fun i => L.fpl f [(.agg [.int .i64 ((g i).x), .int .i64 ((g i).y)])]
def L.turnN (p : L.Pt) : Nat → L.Pt
  | 0 => p
  | i + 1 => ⟨-(L.turnN p i).y, (L.turnN p i).x⟩
def L.mir (m : L.Motion) (p : L.Pt) : L.Pt := bif m.mirror then ⟨-p.x, p.y⟩ else p
def L.turned (m : L.Motion) (p : L.Pt) : L.Pt := L.turnN (L.mir m p) m.turn.toNat
def L.apply (m : L.Motion) (p : L.Pt) : L.Pt := ⟨(L.turned m p).x + m.by_.x, (L.turned m p).y + m.by_.y⟩
def L.validM (m : L.Motion) : Bool := (L.within m.turn 0 3 && L.within m.by_.x (-8192) 8192) && L.within m.by_.y (-8192) 8192
def L.lay (s : L.Setting) (n i : Int) : Int := bif s.back then Int.tmod (s.shift + n - i) n else Int.tmod (s.shift + i) n
def L.compE (s t : L.Setting) (n : Int) : Int := bif (bif !L.validSet s n then true else !L.validSet t n) then 1 else 0
def L.comp (s t : L.Setting) (n : Int) : L.Setting := bif decide (L.compE s t n = 0) then ⟨L.lay t n s.shift, !(s.back == t.back)⟩ else ⟨0, false⟩
def L.moved (l : L.Sq L.Pt) (m : L.Motion) : L.Sq L.Pt := ⟨l.n, fun k => L.apply m (l.g k)⟩
def L.movE (l : L.Sq L.Pt) (m : L.Motion) : Int := bif (bif !L.validOutline l then true else !L.validM m) then 1 else bif !L.validPts (L.moved l m) then 2 else 0
def L.movN (l : L.Sq L.Pt) (m : L.Motion) : Nat := bif decide (L.movE l m = 0) then l.n else 0
def L.movS (l : L.Sq L.Pt) (m : L.Motion) : L.Setting := bif decide (L.movE l m = 0) then (bif m.mirror then ⟨L.ptIdx (L.norm (L.moved l m)) (L.apply m (l.g 1)), true⟩ else ⟨L.ptIdx (L.norm (L.moved l m)) (L.apply m (l.g 0)), false⟩) else ⟨0, false⟩
theorem turnN_bd {p : L.Pt} (h : L.bd p) : ∀ i, L.bd (L.turnN p i)
  | 0 => h
  | i + 1 => by
    have := turnN_bd h i
    unfold L.bd at this ⊢
    show -4000000 ≤ -(L.turnN p i).y ∧ -(L.turnN p i).y ≤ 4000000 ∧ -4000000 ≤ (L.turnN p i).x ∧ (L.turnN p i).x ≤ 4000000
    omega
theorem mir_bd {m : L.Motion} {p : L.Pt} (h : L.bd p) : L.bd (L.mir m p) := by
  unfold L.mir
  cases m.mirror
  · exact h
  · unfold L.bd at h ⊢
    show -4000000 ≤ -p.x ∧ -p.x ≤ 4000000 ∧ -4000000 ≤ p.y ∧ p.y ≤ 4000000
    omega
theorem idx_cases {f : Nat → Bool} : ∀ {n : Nat}, (L.idx n f = -1 ∧ ∀ j, j < n → f j = false) ∨ ∃ i, i < n ∧ L.idx n f = (i : Int) ∧ f i = true ∧ ∀ j, j < i → f j = false
  | 0 => .inl ⟨rfl, fun j hj => absurd hj (Nat.not_lt_zero _)⟩
  | n + 1 => by
    rcases idx_cases (f := f) (n := n) with ⟨h1, h2⟩ | ⟨i, h1, h2, h3, h4⟩
    · cases hf : f n with
      | true => exact .inr ⟨n, Nat.lt_succ_self n, by simp [L.idx, h1, hf], hf, h2⟩
      | false => exact .inl ⟨by simp [L.idx, h1, hf], fun j hj => by
          rcases Nat.lt_succ_iff_lt_or_eq.1 hj with h | rfl
          · exact h2 j h
          · exact hf⟩
    · exact .inr ⟨i, by omega, by simp [L.idx, h2], h3, h4⟩
theorem same_eq {a b : L.Pt} (h : L.same a b = true) : a = b := by
  unfold L.same at h
  rw [Bool.and_eq_true, decide_eq_true_eq, decide_eq_true_eq] at h
  cases a; cases b
  simp only at h
  rw [h.1, h.2]
theorem same_refl (a : L.Pt) : L.same a a = true := by simp [L.same]
theorem minTo_mem (l : L.Sq L.Pt) : ∀ i, ∃ j, j ≤ i ∧ L.minTo l i = l.g j
  | 0 => ⟨0, Nat.le_refl _, rfl⟩
  | i + 1 => by
    obtain ⟨j, h1, h2⟩ := minTo_mem l i
    cases h : decide (L.cmpPt (l.g (i + 1)) (L.minTo l i) < 0) with
    | true => exact ⟨i + 1, Nat.le_refl _, by rw [L.minTo, h]; rfl⟩
    | false => exact ⟨j, by omega, by rw [L.minTo, h]; exact h2⟩
theorem ptIdx_of {l : L.Sq L.Pt} {j : Nat} (hj : j < l.n) : ∃ i, i ≤ j ∧ L.ptIdx l (l.g j) = (i : Int) ∧ l.g i = l.g j ∧ ∀ k, k < i → l.g k ≠ l.g j := by
  unfold L.ptIdx
  rcases idx_cases (f := fun i => L.same (l.g j) (l.g i)) (n := l.n) with ⟨_, h2⟩ | ⟨i, h1, h2, h3, h4⟩
  · have := h2 j hj
    rw [same_refl] at this; cases this
  · refine ⟨i, ?_, h2, (same_eq h3).symm, fun k hk e => ?_⟩
    · rcases Nat.lt_or_ge j i with h | h
      · have := h4 j h
        rw [same_refl] at this; cases this
      · exact h
    · have := h4 k hk
      rw [e, same_refl] at this; cases this
theorem minIdx {l : L.Sq L.Pt} (h : 1 ≤ l.n) : ∃ i, i < l.n ∧ L.ptIdx l (L.minTo l (l.n - 1)) = (i : Int) ∧ l.g i = L.minTo l (l.n - 1) := by
  obtain ⟨j, h1, h2⟩ := minTo_mem l (l.n - 1)
  obtain ⟨i, h3, h4, h5, _⟩ := ptIdx_of (l := l) (j := j) (by omega)
  rw [h2]
  exact ⟨i, by omega, h4, h5⟩
theorem norm_cat {t : L.Sq L.Pt} {K : Int} (h0 : 0 ≤ K) (h1 : K ≤ (t.n : Int)) (hn : 1 ≤ t.n) (hm : t.n ≤ 1000000) :
    (1 ≤ (L.two ⟨((t.n : Int) - K).toNat, fun i => t.g (K.toNat + i)⟩ ⟨(K - 0).toNat, fun i => t.g ((0 : Int).toNat + i)⟩ 0).n + (L.two ⟨((t.n : Int) - K).toNat, fun i => t.g (K.toNat + i)⟩ ⟨(K - 0).toNat, fun i => t.g ((0 : Int).toNat + i)⟩ 1).n ∧
     (L.two ⟨((t.n : Int) - K).toNat, fun i => t.g (K.toNat + i)⟩ ⟨(K - 0).toNat, fun i => t.g ((0 : Int).toNat + i)⟩ 0).n ≤ 1000000 ∧ (L.two ⟨((t.n : Int) - K).toNat, fun i => t.g (K.toNat + i)⟩ ⟨(K - 0).toNat, fun i => t.g ((0 : Int).toNat + i)⟩ 1).n ≤ 1000000) ∧
    (L.catTo (L.two ⟨((t.n : Int) - K).toNat, fun i => t.g (K.toNat + i)⟩ ⟨(K - 0).toNat, fun i => t.g ((0 : Int).toNat + i)⟩) 2).n = t.n ∧
    ∀ i, (L.catTo (L.two ⟨((t.n : Int) - K).toNat, fun i => t.g (K.toNat + i)⟩ ⟨(K - 0).toNat, fun i => t.g ((0 : Int).toNat + i)⟩) 2).g i = (L.rot t K.toNat).g i := by
  refine ⟨⟨?_, ?_, ?_⟩, ?_, fun i => ?_⟩
  · show 1 ≤ ((t.n : Int) - K).toNat + (K - 0).toNat
    omega
  · show ((t.n : Int) - K).toNat ≤ 1000000
    omega
  · show (K - 0).toNat ≤ 1000000
    omega
  · show 0 + ((t.n : Int) - K).toNat + (K - 0).toNat = t.n
    omega
  · show (bif decide (i < 0 + ((t.n : Int) - K).toNat) then (bif decide (i < 0) then (⟨0, 0⟩ : L.Pt) else t.g (K.toNat + (i - 0))) else t.g ((0 : Int).toNat + (i - (0 + ((t.n : Int) - K).toNat)))) = (bif decide (i < t.n - K.toNat) then t.g (K.toNat + i) else t.g (i - (t.n - K.toNat)))
    rw [decide_eq_false (Nat.not_lt_zero i), show 0 + ((t.n : Int) - K).toNat = t.n - K.toNat by omega, show (0 : Int).toNat + (i - (t.n - K.toNat)) = i - (t.n - K.toNat) by simp]
    rfl
theorem validM_iff {m : L.Motion} : L.validM m = true ↔ (0 ≤ m.turn ∧ m.turn ≤ 3) ∧ (-8192 ≤ m.by_.x ∧ m.by_.x ≤ 8192) ∧ -8192 ≤ m.by_.y ∧ m.by_.y ≤ 8192 := by
  unfold L.validM
  rw [Bool.and_eq_true, Bool.and_eq_true, within_iff, within_iff, within_iff]
  omega
theorem bd_of_valid {p : L.Pt} (h : L.validPt p = true) : L.bd p := by
  unfold L.validPt at h
  rw [Bool.and_eq_true, within_iff, within_iff] at h
  unfold L.bd
  omega
theorem small_of_valid {l : L.Sq L.Pt} (hn : l.n ≤ 1000) (h : L.validPts l = true) : L.small l :=
  ⟨hn, fun i hi => bd_of_valid (allB_iff.1 h i hi)⟩
def p_normal_p (l : (L.Sq L.Pt)) : Prop := L.small l ∧ 1 ≤ l.n
def p_normal_q (l : (L.Sq L.Pt)) : Nat → Prop := fun _ => True
def p_normal_n (l : (L.Sq L.Pt)) : Nat → Nat := fun _ => l.n
def p_normal_g (l : (L.Sq L.Pt)) : Nat → Nat → List SV := fun _ k => [.int .i64 (((L.norm l).g k).x), .int .i64 (((L.norm l).g k).y)]
def p_normal_s : List EV → Option (Prop × (Nat → Prop) × (Nat → Nat) × (Nat → Nat → List SV))
  | [.p (.sl 2 l_n l_g)] => some ((∀ i, i < l_n → l_g i = [.int .i64 ((ofPt (l_g i)).x), .int .i64 ((ofPt (l_g i)).y)]) ∧ p_normal_p (⟨l_n, fun i => ofPt (l_g i)⟩ : (L.Sq L.Pt)), p_normal_q (⟨l_n, fun i => ofPt (l_g i)⟩ : (L.Sq L.Pt)), p_normal_n (⟨l_n, fun i => ofPt (l_g i)⟩ : (L.Sq L.Pt)), p_normal_g (⟨l_n, fun i => ofPt (l_g i)⟩ : (L.Sq L.Pt)))
  | _ => none
abbrev p_normal_S : SE.Spec := (specF Nat 0 77 2 p_normal_s)
def p_normal_C : Cfg := { muts := [5, 22], frz := lookN [(5, [5])], specs := lookS [(139, s_cloneP_S), (114, p_area_S), (141, s_minP_S), (99, s_idxPt_S), (142, s_concat_S), (117, p_compare_S)], loops := lookL [], iters := lookI [], rfs := lookR [], nils := lookM [], trs := lookT [(140, s_revP_tr)], ren := fun k => k - 1000 }
theorem p_normal_vc (l : (L.Sq L.Pt)) (hp : p_normal_p l) : vc Try.prog (p_normal_C) (bodyOf Try.f98) (st0 Try.f98 [.p (.sl 2 l.n (fun i => [.int .i64 ((l.g i).x), .int .i64 ((l.g i).y)]))]) (retFresh Try.prog Try.f98 (Nat) (p_normal_q l) 77 2 (p_normal_n l) (p_normal_g l)) :=
  @Eq.mpr _ (((∀ (i : Nat), i < l.n → [Go.SE.SV.int Go.IntKind.i64 (l.g i).x, Go.SE.SV.int Go.IntKind.i64 (l.g i).y] = [Go.SE.SV.int Go.IntKind.i64 (l.g i).x, Go.SE.SV.int Go.IntKind.i64 (l.g i).y]) ∧ l.n ≤ (1000000 : Nat)) ∧ ∀ (t : Nat), True → ((∀ (i : Nat), i < l.n → [Go.SE.SV.int Go.IntKind.i64 (l.g i).x, Go.SE.SV.int Go.IntKind.i64 (l.g i).y] = [Go.SE.SV.int Go.IntKind.i64 (l.g i).x, Go.SE.SV.int
 Go.IntKind.i64 (l.g i).y]) ∧ L.small (L.Sq.mk l.n fun (i : Nat) ↦ l.g i)) ∧ (Decidable.decide (L.areaTo (L.Sq.mk l.n fun (i : Nat) ↦ l.g i) l.n < (0 : Int)) = Bool.true → ∃ (t : L.Sq L.Pt), (l.n = t.n ∧ ∀ (i : Nat), i < l.n → [Go.SE.SV.int Go.IntKind.i64 (l.g i).x, Go.SE.SV.int Go.IntKind.i64 (l.g i).y] = [Go.SE.SV.int Go.IntKind.i64 (t.g i).x, Go.SE.SV.int Go.IntKind.i64 (t.g i).y]) ∧ t.n ≤
 (1000000 : Nat) ∧ ∀ (u : Nat), True → ((∀ (i : Nat), i < t.n → [Go.SE.SV.int Go.IntKind.i64 (t.g (t.n - (1 : Nat) - i)).x, Go.SE.SV.int Go.IntKind.i64 (t.g (t.n - (1 : Nat) - i)).y] = [Go.SE.SV.int Go.IntKind.i64 (t.g (t.n - (1 : Nat) - i)).x, Go.SE.SV.int Go.IntKind.i64 (t.g (t.n - (1 : Nat) - i)).y]) ∧ Go.SE.isI (Go.SE.FSpec.mk (fun («as» : List Go.SE.SV) ↦ Go.SE.preO p_compare_s (List.map
 Go.SE.EV.p «as» ++ List.map Go.SE.EV.p [])) fun («as» : List Go.SE.SV) ↦ Go.SE.resO p_compare_s (List.map Go.SE.EV.p «as» ++ List.map Go.SE.EV.p [])) ∧ (1 : Nat) ≤ t.n ∧ t.n ≤ (1000000 : Nat) ∧ ∀ (a b : L.Pt), True ∧ L.fil (Go.SE.FSpec.mk (fun («as» : List Go.SE.SV) ↦ Go.SE.preO p_compare_s (List.map Go.SE.EV.p «as» ++ List.map Go.SE.EV.p [])) fun («as» : List Go.SE.SV) ↦ Go.SE.resO p_compare_s
 (List.map Go.SE.EV.p «as» ++ List.map Go.SE.EV.p [])) [Go.SE.SV.agg [Go.SE.SV.int Go.IntKind.i64 a.x, Go.SE.SV.int Go.IntKind.i64 a.y], Go.SE.SV.agg [Go.SE.SV.int Go.IntKind.i64 b.x, Go.SE.SV.int Go.IntKind.i64 b.y]] = L.cmpPt a b) ∧ ((∀ (i : Nat), i < t.n → [Go.SE.SV.int Go.IntKind.i64 (t.g (t.n - (1 : Nat) - i)).x, Go.SE.SV.int Go.IntKind.i64 (t.g (t.n - (1 : Nat) - i)).y] = [Go.SE.SV.int
 Go.IntKind.i64 (t.g (t.n - (1 : Nat) - i)).x, Go.SE.SV.int Go.IntKind.i64 (t.g (t.n - (1 : Nat) - i)).y]) ∧ t.n ≤ (1000000 : Nat)) ∧ ((0 : Int) ≤ L.ptIdx (L.Sq.mk t.n fun (i : Nat) ↦ t.g (t.n - (1 : Nat) - i)) (L.minTo (L.Sq.mk t.n fun (i : Nat) ↦ t.g (t.n - (1 : Nat) - i)) (t.n - (1 : Nat))) ∧ L.ptIdx (L.Sq.mk t.n fun (i : Nat) ↦ t.g (t.n - (1 : Nat) - i)) (L.minTo (L.Sq.mk t.n fun (i : Nat) ↦
 t.g (t.n - (1 : Nat) - i)) (t.n - (1 : Nat))) ≤ (↑t.n : Int) ∧ (↑t.n : Int) ≤ (↑t.n : Int)) ∧ ((0 : Int) ≤ (0 : Int) ∧ (0 : Int) ≤ L.ptIdx (L.Sq.mk t.n fun (i : Nat) ↦ t.g (t.n - (1 : Nat) - i)) (L.minTo (L.Sq.mk t.n fun (i : Nat) ↦ t.g (t.n - (1 : Nat) - i)) (t.n - (1 : Nat))) ∧ L.ptIdx (L.Sq.mk t.n fun (i : Nat) ↦ t.g (t.n - (1 : Nat) - i)) (L.minTo (L.Sq.mk t.n fun (i : Nat) ↦ t.g (t.n - (1 :
 Nat) - i)) (t.n - (1 : Nat))) ≤ (↑t.n : Int)) ∧ (((∀ (i : Nat), i < Int.toNat ((↑t.n : Int) - L.ptIdx (L.Sq.mk t.n fun (i : Nat) ↦ t.g (t.n - (1 : Nat) - i)) (L.minTo (L.Sq.mk t.n fun (i : Nat) ↦ t.g (t.n - (1 : Nat) - i)) (t.n - (1 : Nat)))) → [Go.SE.SV.int Go.IntKind.i64 (t.g (t.n - (1 : Nat) - (Int.toNat (L.ptIdx (L.Sq.mk t.n fun (i : Nat) ↦ t.g (t.n - (1 : Nat) - i)) (L.minTo (L.Sq.mk t.n fun
 (i : Nat) ↦ t.g (t.n - (1 : Nat) - i)) (t.n - (1 : Nat)))) + i))).x, Go.SE.SV.int Go.IntKind.i64 (t.g (t.n - (1 : Nat) - (Int.toNat (L.ptIdx (L.Sq.mk t.n fun (i : Nat) ↦ t.g (t.n - (1 : Nat) - i)) (L.minTo (L.Sq.mk t.n fun (i : Nat) ↦ t.g (t.n - (1 : Nat) - i)) (t.n - (1 : Nat)))) + i))).y] = [Go.SE.SV.int Go.IntKind.i64 (t.g (t.n - (1 : Nat) - (Int.toNat (L.ptIdx (L.Sq.mk t.n fun (i : Nat) ↦ t.g
 (t.n - (1 : Nat) - i)) (L.minTo (L.Sq.mk t.n fun (i : Nat) ↦ t.g (t.n - (1 : Nat) - i)) (t.n - (1 : Nat)))) + i))).x, Go.SE.SV.int Go.IntKind.i64 (t.g (t.n - (1 : Nat) - (Int.toNat (L.ptIdx (L.Sq.mk t.n fun (i : Nat) ↦ t.g (t.n - (1 : Nat) - i)) (L.minTo (L.Sq.mk t.n fun (i : Nat) ↦ t.g (t.n - (1 : Nat) - i)) (t.n - (1 : Nat)))) + i))).y]) ∧ ∀ (i : Nat), i < Int.toNat (L.ptIdx (L.Sq.mk t.n fun (i
 : Nat) ↦ t.g (t.n - (1 : Nat) - i)) (L.minTo (L.Sq.mk t.n fun (i : Nat) ↦ t.g (t.n - (1 : Nat) - i)) (t.n - (1 : Nat))) - (0 : Int)) → [Go.SE.SV.int Go.IntKind.i64 (t.g (t.n - (1 : Nat) - (Int.toNat (0 : Int) + i))).x, Go.SE.SV.int Go.IntKind.i64 (t.g (t.n - (1 : Nat) - (Int.toNat (0 : Int) + i))).y] = [Go.SE.SV.int Go.IntKind.i64 (t.g (t.n - (1 : Nat) - (Int.toNat (0 : Int) + i))).x, Go.SE.SV.int
 Go.IntKind.i64 (t.g (t.n - (1 : Nat) - (Int.toNat (0 : Int) + i))).y]) ∧ (1 : Nat) ≤ (L.two (L.Sq.mk (Int.toNat ((↑t.n : Int) - L.ptIdx (L.Sq.mk t.n fun (i : Nat) ↦ t.g (t.n - (1 : Nat) - i)) (L.minTo (L.Sq.mk t.n fun (i : Nat) ↦ t.g (t.n - (1 : Nat) - i)) (t.n - (1 : Nat))))) fun (i : Nat) ↦ t.g (t.n - (1 : Nat) - (Int.toNat (L.ptIdx (L.Sq.mk t.n fun (i : Nat) ↦ t.g (t.n - (1 : Nat) - i))
 (L.minTo (L.Sq.mk t.n fun (i : Nat) ↦ t.g (t.n - (1 : Nat) - i)) (t.n - (1 : Nat)))) + i))) (L.Sq.mk (Int.toNat (L.ptIdx (L.Sq.mk t.n fun (i : Nat) ↦ t.g (t.n - (1 : Nat) - i)) (L.minTo (L.Sq.mk t.n fun (i : Nat) ↦ t.g (t.n - (1 : Nat) - i)) (t.n - (1 : Nat))) - (0 : Int))) fun (i : Nat) ↦ t.g (t.n - (1 : Nat) - (Int.toNat (0 : Int) + i))) (0 : Nat)).n + (L.two (L.Sq.mk (Int.toNat ((↑t.n : Int) -
 L.ptIdx (L.Sq.mk t.n fun (i : Nat) ↦ t.g (t.n - (1 : Nat) - i)) (L.minTo (L.Sq.mk t.n fun (i : Nat) ↦ t.g (t.n - (1 : Nat) - i)) (t.n - (1 : Nat))))) fun (i : Nat) ↦ t.g (t.n - (1 : Nat) - (Int.toNat (L.ptIdx (L.Sq.mk t.n fun (i : Nat) ↦ t.g (t.n - (1 : Nat) - i)) (L.minTo (L.Sq.mk t.n fun (i : Nat) ↦ t.g (t.n - (1 : Nat) - i)) (t.n - (1 : Nat)))) + i))) (L.Sq.mk (Int.toNat (L.ptIdx (L.Sq.mk t.n
 fun (i : Nat) ↦ t.g (t.n - (1 : Nat) - i)) (L.minTo (L.Sq.mk t.n fun (i : Nat) ↦ t.g (t.n - (1 : Nat) - i)) (t.n - (1 : Nat))) - (0 : Int))) fun (i : Nat) ↦ t.g (t.n - (1 : Nat) - (Int.toNat (0 : Int) + i))) (1 : Nat)).n ∧ (L.two (L.Sq.mk (Int.toNat ((↑t.n : Int) - L.ptIdx (L.Sq.mk t.n fun (i : Nat) ↦ t.g (t.n - (1 : Nat) - i)) (L.minTo (L.Sq.mk t.n fun (i : Nat) ↦ t.g (t.n - (1 : Nat) - i)) (t.n
 - (1 : Nat))))) fun (i : Nat) ↦ t.g (t.n - (1 : Nat) - (Int.toNat (L.ptIdx (L.Sq.mk t.n fun (i : Nat) ↦ t.g (t.n - (1 : Nat) - i)) (L.minTo (L.Sq.mk t.n fun (i : Nat) ↦ t.g (t.n - (1 : Nat) - i)) (t.n - (1 : Nat)))) + i))) (L.Sq.mk (Int.toNat (L.ptIdx (L.Sq.mk t.n fun (i : Nat) ↦ t.g (t.n - (1 : Nat) - i)) (L.minTo (L.Sq.mk t.n fun (i : Nat) ↦ t.g (t.n - (1 : Nat) - i)) (t.n - (1 : Nat))) - (0 :
 Int))) fun (i : Nat) ↦ t.g (t.n - (1 : Nat) - (Int.toNat (0 : Int) + i))) (0 : Nat)).n ≤ (1000000 : Nat) ∧ (L.two (L.Sq.mk (Int.toNat ((↑t.n : Int) - L.ptIdx (L.Sq.mk t.n fun (i : Nat) ↦ t.g (t.n - (1 : Nat) - i)) (L.minTo (L.Sq.mk t.n fun (i : Nat) ↦ t.g (t.n - (1 : Nat) - i)) (t.n - (1 : Nat))))) fun (i : Nat) ↦ t.g (t.n - (1 : Nat) - (Int.toNat (L.ptIdx (L.Sq.mk t.n fun (i : Nat) ↦ t.g (t.n -
 (1 : Nat) - i)) (L.minTo (L.Sq.mk t.n fun (i : Nat) ↦ t.g (t.n - (1 : Nat) - i)) (t.n - (1 : Nat)))) + i))) (L.Sq.mk (Int.toNat (L.ptIdx (L.Sq.mk t.n fun (i : Nat) ↦ t.g (t.n - (1 : Nat) - i)) (L.minTo (L.Sq.mk t.n fun (i : Nat) ↦ t.g (t.n - (1 : Nat) - i)) (t.n - (1 : Nat))) - (0 : Int))) fun (i : Nat) ↦ t.g (t.n - (1 : Nat) - (Int.toNat (0 : Int) + i))) (1 : Nat)).n ≤ (1000000 : Nat)) ∧ ∀ (t_1 :
 Nat), True → ∃ (t_2 : Nat), ((L.catTo (L.two (L.Sq.mk (Int.toNat ((↑t.n : Int) - L.ptIdx (L.Sq.mk t.n fun (i : Nat) ↦ t.g (t.n - (1 : Nat) - i)) (L.minTo (L.Sq.mk t.n fun (i : Nat) ↦ t.g (t.n - (1 : Nat) - i)) (t.n - (1 : Nat))))) fun (i : Nat) ↦ t.g (t.n - (1 : Nat) - (Int.toNat (L.ptIdx (L.Sq.mk t.n fun (i : Nat) ↦ t.g (t.n - (1 : Nat) - i)) (L.minTo (L.Sq.mk t.n fun (i : Nat) ↦ t.g (t.n - (1 :
 Nat) - i)) (t.n - (1 : Nat)))) + i))) (L.Sq.mk (Int.toNat (L.ptIdx (L.Sq.mk t.n fun (i : Nat) ↦ t.g (t.n - (1 : Nat) - i)) (L.minTo (L.Sq.mk t.n fun (i : Nat) ↦ t.g (t.n - (1 : Nat) - i)) (t.n - (1 : Nat))) - (0 : Int))) fun (i : Nat) ↦ t.g (t.n - (1 : Nat) - (Int.toNat (0 : Int) + i)))) (2 : Nat)).n = l.n ∧ ∀ (i : Nat), i < (L.catTo (L.two (L.Sq.mk (Int.toNat ((↑t.n : Int) - L.ptIdx (L.Sq.mk t.n
 fun (i : Nat) ↦ t.g (t.n - (1 : Nat) - i)) (L.minTo (L.Sq.mk t.n fun (i : Nat) ↦ t.g (t.n - (1 : Nat) - i)) (t.n - (1 : Nat))))) fun (i : Nat) ↦ t.g (t.n - (1 : Nat) - (Int.toNat (L.ptIdx (L.Sq.mk t.n fun (i : Nat) ↦ t.g (t.n - (1 : Nat) - i)) (L.minTo (L.Sq.mk t.n fun (i : Nat) ↦ t.g (t.n - (1 : Nat) - i)) (t.n - (1 : Nat)))) + i))) (L.Sq.mk (Int.toNat (L.ptIdx (L.Sq.mk t.n fun (i : Nat) ↦ t.g
 (t.n - (1 : Nat) - i)) (L.minTo (L.Sq.mk t.n fun (i : Nat) ↦ t.g (t.n - (1 : Nat) - i)) (t.n - (1 : Nat))) - (0 : Int))) fun (i : Nat) ↦ t.g (t.n - (1 : Nat) - (Int.toNat (0 : Int) + i)))) (2 : Nat)).n → [Go.SE.SV.int Go.IntKind.i64 ((L.catTo (L.two (L.Sq.mk (Int.toNat ((↑t.n : Int) - L.ptIdx (L.Sq.mk t.n fun (i : Nat) ↦ t.g (t.n - (1 : Nat) - i)) (L.minTo (L.Sq.mk t.n fun (i : Nat) ↦ t.g (t.n -
 (1 : Nat) - i)) (t.n - (1 : Nat))))) fun (i : Nat) ↦ t.g (t.n - (1 : Nat) - (Int.toNat (L.ptIdx (L.Sq.mk t.n fun (i : Nat) ↦ t.g (t.n - (1 : Nat) - i)) (L.minTo (L.Sq.mk t.n fun (i : Nat) ↦ t.g (t.n - (1 : Nat) - i)) (t.n - (1 : Nat)))) + i))) (L.Sq.mk (Int.toNat (L.ptIdx (L.Sq.mk t.n fun (i : Nat) ↦ t.g (t.n - (1 : Nat) - i)) (L.minTo (L.Sq.mk t.n fun (i : Nat) ↦ t.g (t.n - (1 : Nat) - i)) (t.n -
 (1 : Nat))) - (0 : Int))) fun (i : Nat) ↦ t.g (t.n - (1 : Nat) - (Int.toNat (0 : Int) + i)))) (2 : Nat)).g i).x, Go.SE.SV.int Go.IntKind.i64 ((L.catTo (L.two (L.Sq.mk (Int.toNat ((↑t.n : Int) - L.ptIdx (L.Sq.mk t.n fun (i : Nat) ↦ t.g (t.n - (1 : Nat) - i)) (L.minTo (L.Sq.mk t.n fun (i : Nat) ↦ t.g (t.n - (1 : Nat) - i)) (t.n - (1 : Nat))))) fun (i : Nat) ↦ t.g (t.n - (1 : Nat) - (Int.toNat
 (L.ptIdx (L.Sq.mk t.n fun (i : Nat) ↦ t.g (t.n - (1 : Nat) - i)) (L.minTo (L.Sq.mk t.n fun (i : Nat) ↦ t.g (t.n - (1 : Nat) - i)) (t.n - (1 : Nat)))) + i))) (L.Sq.mk (Int.toNat (L.ptIdx (L.Sq.mk t.n fun (i : Nat) ↦ t.g (t.n - (1 : Nat) - i)) (L.minTo (L.Sq.mk t.n fun (i : Nat) ↦ t.g (t.n - (1 : Nat) - i)) (t.n - (1 : Nat))) - (0 : Int))) fun (i : Nat) ↦ t.g (t.n - (1 : Nat) - (Int.toNat (0 : Int)
 + i)))) (2 : Nat)).g i).y] = [Go.SE.SV.int Go.IntKind.i64 ((L.norm l).g i).x, Go.SE.SV.int Go.IntKind.i64 ((L.norm l).g i).y]) ∧ True) ∧ (Decidable.decide (L.areaTo (L.Sq.mk l.n fun (i : Nat) ↦ l.g i) l.n < (0 : Int)) = Bool.false → ((∀ (i : Nat), i < l.n → [Go.SE.SV.int Go.IntKind.i64 (l.g i).x, Go.SE.SV.int Go.IntKind.i64 (l.g i).y] = [Go.SE.SV.int Go.IntKind.i64 (l.g i).x, Go.SE.SV.int
 Go.IntKind.i64 (l.g i).y]) ∧ Go.SE.isI (Go.SE.FSpec.mk (fun («as» : List Go.SE.SV) ↦ Go.SE.preO p_compare_s (List.map Go.SE.EV.p «as» ++ List.map Go.SE.EV.p [])) fun («as» : List Go.SE.SV) ↦ Go.SE.resO p_compare_s (List.map Go.SE.EV.p «as» ++ List.map Go.SE.EV.p [])) ∧ (1 : Nat) ≤ l.n ∧ l.n ≤ (1000000 : Nat) ∧ ∀ (a b : L.Pt), True ∧ L.fil (Go.SE.FSpec.mk (fun («as» : List Go.SE.SV) ↦ Go.SE.preO
 p_compare_s (List.map Go.SE.EV.p «as» ++ List.map Go.SE.EV.p [])) fun («as» : List Go.SE.SV) ↦ Go.SE.resO p_compare_s (List.map Go.SE.EV.p «as» ++ List.map Go.SE.EV.p [])) [Go.SE.SV.agg [Go.SE.SV.int Go.IntKind.i64 a.x, Go.SE.SV.int Go.IntKind.i64 a.y], Go.SE.SV.agg [Go.SE.SV.int Go.IntKind.i64 b.x, Go.SE.SV.int Go.IntKind.i64 b.y]] = L.cmpPt a b) ∧ ((∀ (i : Nat), i < l.n → [Go.SE.SV.int
 Go.IntKind.i64 (l.g i).x, Go.SE.SV.int Go.IntKind.i64 (l.g i).y] = [Go.SE.SV.int Go.IntKind.i64 (l.g i).x, Go.SE.SV.int Go.IntKind.i64 (l.g i).y]) ∧ l.n ≤ (1000000 : Nat)) ∧ ((0 : Int) ≤ L.ptIdx (L.Sq.mk l.n fun (i : Nat) ↦ l.g i) (L.minTo (L.Sq.mk l.n fun (i : Nat) ↦ l.g i) (l.n - (1 : Nat))) ∧ L.ptIdx (L.Sq.mk l.n fun (i : Nat) ↦ l.g i) (L.minTo (L.Sq.mk l.n fun (i : Nat) ↦ l.g i) (l.n - (1 :
 Nat))) ≤ (↑l.n : Int) ∧ (↑l.n : Int) ≤ (↑l.n : Int)) ∧ ((0 : Int) ≤ (0 : Int) ∧ (0 : Int) ≤ L.ptIdx (L.Sq.mk l.n fun (i : Nat) ↦ l.g i) (L.minTo (L.Sq.mk l.n fun (i : Nat) ↦ l.g i) (l.n - (1 : Nat))) ∧ L.ptIdx (L.Sq.mk l.n fun (i : Nat) ↦ l.g i) (L.minTo (L.Sq.mk l.n fun (i : Nat) ↦ l.g i) (l.n - (1 : Nat))) ≤ (↑l.n : Int)) ∧ (((∀ (i : Nat), i < Int.toNat ((↑l.n : Int) - L.ptIdx (L.Sq.mk l.n fun
 (i : Nat) ↦ l.g i) (L.minTo (L.Sq.mk l.n fun (i : Nat) ↦ l.g i) (l.n - (1 : Nat)))) → [Go.SE.SV.int Go.IntKind.i64 (l.g (Int.toNat (L.ptIdx (L.Sq.mk l.n fun (i : Nat) ↦ l.g i) (L.minTo (L.Sq.mk l.n fun (i : Nat) ↦ l.g i) (l.n - (1 : Nat)))) + i)).x, Go.SE.SV.int Go.IntKind.i64 (l.g (Int.toNat (L.ptIdx (L.Sq.mk l.n fun (i : Nat) ↦ l.g i) (L.minTo (L.Sq.mk l.n fun (i : Nat) ↦ l.g i) (l.n - (1 :
 Nat)))) + i)).y] = [Go.SE.SV.int Go.IntKind.i64 (l.g (Int.toNat (L.ptIdx (L.Sq.mk l.n fun (i : Nat) ↦ l.g i) (L.minTo (L.Sq.mk l.n fun (i : Nat) ↦ l.g i) (l.n - (1 : Nat)))) + i)).x, Go.SE.SV.int Go.IntKind.i64 (l.g (Int.toNat (L.ptIdx (L.Sq.mk l.n fun (i : Nat) ↦ l.g i) (L.minTo (L.Sq.mk l.n fun (i : Nat) ↦ l.g i) (l.n - (1 : Nat)))) + i)).y]) ∧ ∀ (i : Nat), i < Int.toNat (L.ptIdx (L.Sq.mk l.n
 fun (i : Nat) ↦ l.g i) (L.minTo (L.Sq.mk l.n fun (i : Nat) ↦ l.g i) (l.n - (1 : Nat))) - (0 : Int)) → [Go.SE.SV.int Go.IntKind.i64 (l.g (Int.toNat (0 : Int) + i)).x, Go.SE.SV.int Go.IntKind.i64 (l.g (Int.toNat (0 : Int) + i)).y] = [Go.SE.SV.int Go.IntKind.i64 (l.g (Int.toNat (0 : Int) + i)).x, Go.SE.SV.int Go.IntKind.i64 (l.g (Int.toNat (0 : Int) + i)).y]) ∧ (1 : Nat) ≤ (L.two (L.Sq.mk (Int.toNat
 ((↑l.n : Int) - L.ptIdx (L.Sq.mk l.n fun (i : Nat) ↦ l.g i) (L.minTo (L.Sq.mk l.n fun (i : Nat) ↦ l.g i) (l.n - (1 : Nat))))) fun (i : Nat) ↦ l.g (Int.toNat (L.ptIdx (L.Sq.mk l.n fun (i : Nat) ↦ l.g i) (L.minTo (L.Sq.mk l.n fun (i : Nat) ↦ l.g i) (l.n - (1 : Nat)))) + i)) (L.Sq.mk (Int.toNat (L.ptIdx (L.Sq.mk l.n fun (i : Nat) ↦ l.g i) (L.minTo (L.Sq.mk l.n fun (i : Nat) ↦ l.g i) (l.n - (1 :
 Nat))) - (0 : Int))) fun (i : Nat) ↦ l.g (Int.toNat (0 : Int) + i)) (0 : Nat)).n + (L.two (L.Sq.mk (Int.toNat ((↑l.n : Int) - L.ptIdx (L.Sq.mk l.n fun (i : Nat) ↦ l.g i) (L.minTo (L.Sq.mk l.n fun (i : Nat) ↦ l.g i) (l.n - (1 : Nat))))) fun (i : Nat) ↦ l.g (Int.toNat (L.ptIdx (L.Sq.mk l.n fun (i : Nat) ↦ l.g i) (L.minTo (L.Sq.mk l.n fun (i : Nat) ↦ l.g i) (l.n - (1 : Nat)))) + i)) (L.Sq.mk
 (Int.toNat (L.ptIdx (L.Sq.mk l.n fun (i : Nat) ↦ l.g i) (L.minTo (L.Sq.mk l.n fun (i : Nat) ↦ l.g i) (l.n - (1 : Nat))) - (0 : Int))) fun (i : Nat) ↦ l.g (Int.toNat (0 : Int) + i)) (1 : Nat)).n ∧ (L.two (L.Sq.mk (Int.toNat ((↑l.n : Int) - L.ptIdx (L.Sq.mk l.n fun (i : Nat) ↦ l.g i) (L.minTo (L.Sq.mk l.n fun (i : Nat) ↦ l.g i) (l.n - (1 : Nat))))) fun (i : Nat) ↦ l.g (Int.toNat (L.ptIdx (L.Sq.mk
 l.n fun (i : Nat) ↦ l.g i) (L.minTo (L.Sq.mk l.n fun (i : Nat) ↦ l.g i) (l.n - (1 : Nat)))) + i)) (L.Sq.mk (Int.toNat (L.ptIdx (L.Sq.mk l.n fun (i : Nat) ↦ l.g i) (L.minTo (L.Sq.mk l.n fun (i : Nat) ↦ l.g i) (l.n - (1 : Nat))) - (0 : Int))) fun (i : Nat) ↦ l.g (Int.toNat (0 : Int) + i)) (0 : Nat)).n ≤ (1000000 : Nat) ∧ (L.two (L.Sq.mk (Int.toNat ((↑l.n : Int) - L.ptIdx (L.Sq.mk l.n fun (i : Nat) ↦
 l.g i) (L.minTo (L.Sq.mk l.n fun (i : Nat) ↦ l.g i) (l.n - (1 : Nat))))) fun (i : Nat) ↦ l.g (Int.toNat (L.ptIdx (L.Sq.mk l.n fun (i : Nat) ↦ l.g i) (L.minTo (L.Sq.mk l.n fun (i : Nat) ↦ l.g i) (l.n - (1 : Nat)))) + i)) (L.Sq.mk (Int.toNat (L.ptIdx (L.Sq.mk l.n fun (i : Nat) ↦ l.g i) (L.minTo (L.Sq.mk l.n fun (i : Nat) ↦ l.g i) (l.n - (1 : Nat))) - (0 : Int))) fun (i : Nat) ↦ l.g (Int.toNat (0 :
 Int) + i)) (1 : Nat)).n ≤ (1000000 : Nat)) ∧ ∀ (t : Nat), True → ∃ (t : Nat), ((L.catTo (L.two (L.Sq.mk (Int.toNat ((↑l.n : Int) - L.ptIdx (L.Sq.mk l.n fun (i : Nat) ↦ l.g i) (L.minTo (L.Sq.mk l.n fun (i : Nat) ↦ l.g i) (l.n - (1 : Nat))))) fun (i : Nat) ↦ l.g (Int.toNat (L.ptIdx (L.Sq.mk l.n fun (i : Nat) ↦ l.g i) (L.minTo (L.Sq.mk l.n fun (i : Nat) ↦ l.g i) (l.n - (1 : Nat)))) + i)) (L.Sq.mk
 (Int.toNat (L.ptIdx (L.Sq.mk l.n fun (i : Nat) ↦ l.g i) (L.minTo (L.Sq.mk l.n fun (i : Nat) ↦ l.g i) (l.n - (1 : Nat))) - (0 : Int))) fun (i : Nat) ↦ l.g (Int.toNat (0 : Int) + i))) (2 : Nat)).n = l.n ∧ ∀ (i : Nat), i < (L.catTo (L.two (L.Sq.mk (Int.toNat ((↑l.n : Int) - L.ptIdx (L.Sq.mk l.n fun (i : Nat) ↦ l.g i) (L.minTo (L.Sq.mk l.n fun (i : Nat) ↦ l.g i) (l.n - (1 : Nat))))) fun (i : Nat) ↦
 l.g (Int.toNat (L.ptIdx (L.Sq.mk l.n fun (i : Nat) ↦ l.g i) (L.minTo (L.Sq.mk l.n fun (i : Nat) ↦ l.g i) (l.n - (1 : Nat)))) + i)) (L.Sq.mk (Int.toNat (L.ptIdx (L.Sq.mk l.n fun (i : Nat) ↦ l.g i) (L.minTo (L.Sq.mk l.n fun (i : Nat) ↦ l.g i) (l.n - (1 : Nat))) - (0 : Int))) fun (i : Nat) ↦ l.g (Int.toNat (0 : Int) + i))) (2 : Nat)).n → [Go.SE.SV.int Go.IntKind.i64 ((L.catTo (L.two (L.Sq.mk
 (Int.toNat ((↑l.n : Int) - L.ptIdx (L.Sq.mk l.n fun (i : Nat) ↦ l.g i) (L.minTo (L.Sq.mk l.n fun (i : Nat) ↦ l.g i) (l.n - (1 : Nat))))) fun (i : Nat) ↦ l.g (Int.toNat (L.ptIdx (L.Sq.mk l.n fun (i : Nat) ↦ l.g i) (L.minTo (L.Sq.mk l.n fun (i : Nat) ↦ l.g i) (l.n - (1 : Nat)))) + i)) (L.Sq.mk (Int.toNat (L.ptIdx (L.Sq.mk l.n fun (i : Nat) ↦ l.g i) (L.minTo (L.Sq.mk l.n fun (i : Nat) ↦ l.g i) (l.n -
 (1 : Nat))) - (0 : Int))) fun (i : Nat) ↦ l.g (Int.toNat (0 : Int) + i))) (2 : Nat)).g i).x, Go.SE.SV.int Go.IntKind.i64 ((L.catTo (L.two (L.Sq.mk (Int.toNat ((↑l.n : Int) - L.ptIdx (L.Sq.mk l.n fun (i : Nat) ↦ l.g i) (L.minTo (L.Sq.mk l.n fun (i : Nat) ↦ l.g i) (l.n - (1 : Nat))))) fun (i : Nat) ↦ l.g (Int.toNat (L.ptIdx (L.Sq.mk l.n fun (i : Nat) ↦ l.g i) (L.minTo (L.Sq.mk l.n fun (i : Nat) ↦
 l.g i) (l.n - (1 : Nat)))) + i)) (L.Sq.mk (Int.toNat (L.ptIdx (L.Sq.mk l.n fun (i : Nat) ↦ l.g i) (L.minTo (L.Sq.mk l.n fun (i : Nat) ↦ l.g i) (l.n - (1 : Nat))) - (0 : Int))) fun (i : Nat) ↦ l.g (Int.toNat (0 : Int) + i))) (2 : Nat)).g i).y] = [Go.SE.SV.int Go.IntKind.i64 ((L.norm l).g i).x, Go.SE.SV.int Go.IntKind.i64 ((L.norm l).g i).y]) ∧ True)) (by kernel_rfl) (by
    obtain ⟨hs, h1⟩ := hp
    have hn := hs.1
    refine ⟨⟨fun _ _ => rfl, by omega⟩, fun _ _ => ⟨⟨fun _ _ => rfl, hs⟩, fun hA => ?_, fun hA => ?_⟩⟩
    · have fl : L.flip l = ⟨l.n, fun k => l.g (l.n - 1 - k)⟩ := by unfold L.flip; rw [hA]; rfl
      obtain ⟨i0, k1, k2, _⟩ := minIdx (l := ⟨l.n, fun k => l.g (l.n - 1 - k)⟩) h1
      have k1 : i0 < l.n := k1
      obtain ⟨q, c1, c2⟩ := norm_cat (t := ⟨l.n, fun k => l.g (l.n - 1 - k)⟩) (K := L.ptIdx ⟨l.n, fun k => l.g (l.n - 1 - k)⟩ (L.minTo ⟨l.n, fun k => l.g (l.n - 1 - k)⟩ (l.n - 1))) (by rw [k2]; omega) (by rw [k2]; show (i0 : Int) ≤ (l.n : Int); omega) h1 (by show l.n ≤ 1000000; omega)
      have a1 : 0 ≤ L.ptIdx ⟨l.n, fun k => l.g (l.n - 1 - k)⟩ (L.minTo ⟨l.n, fun k => l.g (l.n - 1 - k)⟩ (l.n - 1)) := by rw [k2]; omega
      have a2 : L.ptIdx ⟨l.n, fun k => l.g (l.n - 1 - k)⟩ (L.minTo ⟨l.n, fun k => l.g (l.n - 1 - k)⟩ (l.n - 1)) ≤ (l.n : Int) := by rw [k2]; omega
      refine ⟨l, ⟨rfl, fun _ _ => rfl⟩, by omega, fun _ _ => ⟨⟨fun _ _ => rfl, isI_of p_compare_I _, h1, by omega, fun _ _ => ⟨trivial, rfl⟩⟩, ⟨fun _ _ => rfl, by omega⟩, ⟨a1, a2, Int.le_refl _⟩, ⟨Int.le_refl _, a1, a2⟩, ⟨⟨fun _ _ => rfl, fun _ _ => rfl⟩, q⟩, fun _ _ => ⟨(0 : Nat), ⟨c1, fun i _ => ?_⟩, trivial⟩⟩⟩
      have w : (L.norm l).g i = (L.rot ⟨l.n, fun k => l.g (l.n - 1 - k)⟩ (L.ptIdx ⟨l.n, fun k => l.g (l.n - 1 - k)⟩ (L.minTo ⟨l.n, fun k => l.g (l.n - 1 - k)⟩ (l.n - 1))).toNat).g i := by
        show (L.rot (L.flip l) (L.minK (L.flip l))).g i = _
        unfold L.minK
        rw [fl]
      rw [w, ← c2 i]
    · have fl : L.flip l = l := by unfold L.flip; rw [hA]; rfl
      obtain ⟨i0, k1, k2, _⟩ := minIdx (l := l) h1
      obtain ⟨q, c1, c2⟩ := norm_cat (t := l) (K := L.ptIdx l (L.minTo l (l.n - 1))) (by rw [k2]; omega) (by rw [k2]; omega) h1 (by omega)
      have a1 : 0 ≤ L.ptIdx l (L.minTo l (l.n - 1)) := by rw [k2]; omega
      have a2 : L.ptIdx l (L.minTo l (l.n - 1)) ≤ (l.n : Int) := by rw [k2]; omega
      refine ⟨⟨fun _ _ => rfl, isI_of p_compare_I _, h1, by omega, fun _ _ => ⟨trivial, rfl⟩⟩, ⟨fun _ _ => rfl, by omega⟩, ⟨a1, a2, Int.le_refl _⟩, ⟨Int.le_refl _, a1, a2⟩, ⟨⟨fun _ _ => rfl, fun _ _ => rfl⟩, q⟩, fun _ _ => ⟨(0 : Nat), ⟨c1, fun i _ => ?_⟩, trivial⟩⟩
      have w : (L.norm l).g i = (L.rot l (L.ptIdx l (L.minTo l (l.n - 1))).toNat).g i := by
        show (L.rot (L.flip l) (L.minK (L.flip l))).g i = _
        unfold L.minK
        rw [fl]
      rw [w, ← c2 i])
theorem p_normal_ok : SpecOk Try.prog 98 p_normal_S := freshX Try.func98 (c := bodyOf Try.f98) (by kernel_rfl) mixed (fun args p q n g hs hp => by
  unfold p_normal_s at hs
  split at hs
  · cases hs; exact ⟨_, _, p_normal_vc _ hp.2, (.p (.sl hp.1) .nil), ⟨show SpecsL Try.prog _ from (SpecsL.cons s_cloneP_ok s_cloneP_en (SpecsL.cons p_area_ok p_area_en (SpecsL.cons s_minP_ok s_minP_en (SpecsL.cons s_idxPt_ok s_idxPt_en (SpecsL.cons s_concat_ok s_concat_en (SpecsL.cons p_compare_ok p_compare_en SpecsL.nil)))))), rfl, ⟨show ItersL Try.prog _ from ItersL.nil, (show TrsL Try.prog _ from (TrsL.cons s_revP_tok s_revP_en TrsL.nil))⟩⟩⟩
  · cases hs)
theorem p_normal_en : Enters Try.prog 98 := fun args w => by kernel_rfl
def p_turned_p (m : L.Motion) (p : L.Pt) : Prop := L.bd p ∧ 0 ≤ m.turn ∧ m.turn ≤ 3
def p_turned_r (m : L.Motion) (p : L.Pt) : SV := (.agg [.int .i64 ((L.turned m p).x), .int .i64 ((L.turned m p).y)])
def p_turned_s : List EV → Option (Prop × SV)
  | [.p (.agg [.int .i64 m_turn, .bool m_mirror, .int .i64 m_by__x, .int .i64 m_by__y]), .p (.agg [.int .i64 p_x, .int .i64 p_y])] => some (p_turned_p (⟨m_turn, m_mirror, (⟨m_by__x, m_by__y⟩ : L.Pt)⟩ : L.Motion) (⟨p_x, p_y⟩ : L.Pt), p_turned_r (⟨m_turn, m_mirror, (⟨m_by__x, m_by__y⟩ : L.Pt)⟩ : L.Motion) (⟨p_x, p_y⟩ : L.Pt))
  | _ => none
abbrev p_turned_S : SE.Spec := (specO p_turned_s)
def p_turned_C : Cfg := { muts := [3, 4], frz := lookN [], specs := lookS [], loops := fun _ => none, iters := lookI [], rfs := lookR [], nils := lookM [] }
theorem p_turned_vc (m : L.Motion) (p : L.Pt) (hp : p_turned_p m p) : vc Try.prog ({ p_turned_C with loops := lookL [(4, { T := Nat, keep := [2, 3, 4, 12], keepO := [4], chg := fun i => [(13, .p (.int .i64 (i : Int)))], own := fun i => [(3, .blk 77 [.p (.int .i64 (L.turnN (L.mir m p) i).x), .p (.int .i64 (L.turnN (L.mir m p) i).y)])], inv := fun i => i ≤ m.turn.toNat, mu := fun i => m.turn.toNat - i })], rfs := lookR [] }) (bodyOf Try.f135) (st0 Try.f135 [.p (.agg [.int .i64 m.turn, .bool m.mirror, .int .i64 m.by_.x, .int .i64 m.by_.y]), .p (.agg [.int .i64 p.x, .int .i64 p.y])]) (retFn Try.prog Try.f135 (p_turned_r m p)) :=
  @Eq.mpr _ ((m.mirror = Bool.true → Go.SE.InK Go.IntKind.i64 ((0 : Int) - p.x) ∧ (∃ (g : Nat), (0 : Int) = (↑g : Int) ∧ (0 : Int) - p.x = (L.turnN (L.mir m p) g).x ∧ p.y = (L.turnN (L.mir m p) g).y ∧ g ≤ Int.toNat m.turn) ∧ ∀ (g : Nat), g ≤ Int.toNat m.turn → (Decidable.decide ((↑g : Int) < m.turn) = Bool.true → Go.SE.InK Go.IntKind.i64 ((0 : Int) - (L.turnN (L.mir m p) g).y) ∧ Go.SE.InK Go.IntKind.i64 ((↑g :
 Int) + (1 : Int)) ∧ ∃ (g' : Nat), (↑g : Int) + (1 : Int) = (↑g' : Int) ∧ m.turn = m.turn ∧ nat_lit 0 = nat_lit 0 ∧ nat_lit 0 = nat_lit 0 ∧ Go.SE.SV.ref [Go.SE.SV.int Go.IntKind.i64 m.turn, Go.SE.SV.bool m.mirror, Go.SE.SV.int Go.IntKind.i64 m.by_.x, Go.SE.SV.int Go.IntKind.i64 m.by_.y] (nat_lit 0) = Go.SE.SV.ref [Go.SE.SV.int Go.IntKind.i64 m.turn, Go.SE.SV.bool m.mirror, Go.SE.SV.int
 Go.IntKind.i64 m.by_.x, Go.SE.SV.int Go.IntKind.i64 m.by_.y] (nat_lit 0) ∧ (0 : Int) - (L.turnN (L.mir m p) g).y = (L.turnN (L.mir m p) g').x ∧ (L.turnN (L.mir m p) g).x = (L.turnN (L.mir m p) g').y ∧ (0 : Int) = (0 : Int) ∧ (0 : Int) = (0 : Int) ∧ g' ≤ Int.toNat m.turn ∧ Int.toNat m.turn - g' < Int.toNat m.turn - g) ∧ (Decidable.decide ((↑g : Int) < m.turn) = Bool.false → Go.SE.SV.agg
 [Go.SE.SV.int Go.IntKind.i64 (L.turnN (L.mir m p) g).x, Go.SE.SV.int Go.IntKind.i64 (L.turnN (L.mir m p) g).y] = Go.SE.SV.agg [Go.SE.SV.int Go.IntKind.i64 (L.turned m p).x, Go.SE.SV.int Go.IntKind.i64 (L.turned m p).y])) ∧ (m.mirror = Bool.false → (∃ (g : Nat), (0 : Int) = (↑g : Int) ∧ p.x = (L.turnN (L.mir m p) g).x ∧ p.y = (L.turnN (L.mir m p) g).y ∧ g ≤ Int.toNat m.turn) ∧ ∀ (g : Nat), g ≤
 Int.toNat m.turn → (Decidable.decide ((↑g : Int) < m.turn) = Bool.true → Go.SE.InK Go.IntKind.i64 ((0 : Int) - (L.turnN (L.mir m p) g).y) ∧ Go.SE.InK Go.IntKind.i64 ((↑g : Int) + (1 : Int)) ∧ ∃ (g' : Nat), (↑g : Int) + (1 : Int) = (↑g' : Int) ∧ m.turn = m.turn ∧ nat_lit 0 = nat_lit 0 ∧ nat_lit 0 = nat_lit 0 ∧ Go.SE.SV.ref [Go.SE.SV.int Go.IntKind.i64 m.turn, Go.SE.SV.bool m.mirror, Go.SE.SV.int
 Go.IntKind.i64 m.by_.x, Go.SE.SV.int Go.IntKind.i64 m.by_.y] (nat_lit 0) = Go.SE.SV.ref [Go.SE.SV.int Go.IntKind.i64 m.turn, Go.SE.SV.bool m.mirror, Go.SE.SV.int Go.IntKind.i64 m.by_.x, Go.SE.SV.int Go.IntKind.i64 m.by_.y] (nat_lit 0) ∧ (0 : Int) - (L.turnN (L.mir m p) g).y = (L.turnN (L.mir m p) g').x ∧ (L.turnN (L.mir m p) g).x = (L.turnN (L.mir m p) g').y ∧ (0 : Int) = (0 : Int) ∧ (0 : Int) =
 (0 : Int) ∧ g' ≤ Int.toNat m.turn ∧ Int.toNat m.turn - g' < Int.toNat m.turn - g) ∧ (Decidable.decide ((↑g : Int) < m.turn) = Bool.false → Go.SE.SV.agg [Go.SE.SV.int Go.IntKind.i64 (L.turnN (L.mir m p) g).x, Go.SE.SV.int Go.IntKind.i64 (L.turnN (L.mir m p) g).y] = Go.SE.SV.agg [Go.SE.SV.int Go.IntKind.i64 (L.turned m p).x, Go.SE.SV.int Go.IntKind.i64 (L.turned m p).y]))) (by kernel_rfl) (by
    obtain ⟨hb, t0, t3⟩ := hp
    have hb' : ∀ i, L.bd (L.turnN (L.mir m p) i) := turnN_bd (mir_bd hb)
    unfold L.bd at hb
    refine ⟨fun hm => ⟨InK.of (by omega) (by omega), ⟨(0 : Nat), rfl, ?_, ?_, Nat.zero_le _⟩, fun g hg => ⟨fun hlt => ?_, fun hge => ?_⟩⟩, fun hm => ⟨⟨(0 : Nat), rfl, ?_, ?_, Nat.zero_le _⟩, fun g hg => ⟨fun hlt => ?_, fun hge => ?_⟩⟩⟩
    · show 0 - p.x = (L.mir m p).x
      unfold L.mir; rw [hm]; show 0 - p.x = -p.x; omega
    · show p.y = (L.mir m p).y
      unfold L.mir; rw [hm]; rfl
    · have h := of_decide_eq_true hlt
      have hbg := hb' g
      unfold L.bd at hbg
      exact ⟨InK.of (by omega) (by omega), InK.of (by omega) (by omega), g + 1, by omega, rfl, rfl, rfl, rfl, by show 0 - (L.turnN (L.mir m p) g).y = -(L.turnN (L.mir m p) g).y; omega, rfl, rfl, rfl, by omega, by omega⟩
    · have h := of_decide_eq_false hge
      obtain rfl : g = m.turn.toNat := by omega
      rfl
    · show p.x = (L.mir m p).x
      unfold L.mir; rw [hm]; rfl
    · show p.y = (L.mir m p).y
      unfold L.mir; rw [hm]; rfl
    · have h := of_decide_eq_true hlt
      have hbg := hb' g
      unfold L.bd at hbg
      exact ⟨InK.of (by omega) (by omega), InK.of (by omega) (by omega), g + 1, by omega, rfl, rfl, rfl, rfl, by show 0 - (L.turnN (L.mir m p) g).y = -(L.turnN (L.mir m p) g).y; omega, rfl, rfl, rfl, by omega, by omega⟩
    · have h := of_decide_eq_false hge
      obtain rfl : g = m.turn.toNat := by omega
      rfl)
theorem p_turned_ok : SpecOk Try.prog 135 p_turned_S := fnX Try.func135 (c := bodyOf Try.f135) (by kernel_rfl) mixed (fun args p r hs hp => by
  unfold p_turned_s at hs
  split at hs
  · cases hs; exact ⟨_, _, p_turned_vc _ _ hp, (.same _ (.same _ .nil)), ⟨show SpecsL Try.prog _ from SpecsL.nil, rfl, ⟨show ItersL Try.prog _ from ItersL.nil, (TrsOk.none (fun _ => rfl))⟩⟩⟩
  · cases hs)
theorem p_turned_en : Enters Try.prog 135 := fun args w => by kernel_rfl
def p_apply_p (m : L.Motion) (p : L.Pt) : Prop := L.validPt p ∧ L.validM m
def p_apply_r (m : L.Motion) (p : L.Pt) : SV := (.agg [.int .i64 ((L.apply m p).x), .int .i64 ((L.apply m p).y)])
def p_apply_s : List EV → Option (Prop × SV)
  | [.p (.agg [.int .i64 m_turn, .bool m_mirror, .int .i64 m_by__x, .int .i64 m_by__y]), .p (.agg [.int .i64 p_x, .int .i64 p_y])] => some (p_apply_p (⟨m_turn, m_mirror, (⟨m_by__x, m_by__y⟩ : L.Pt)⟩ : L.Motion) (⟨p_x, p_y⟩ : L.Pt), p_apply_r (⟨m_turn, m_mirror, (⟨m_by__x, m_by__y⟩ : L.Pt)⟩ : L.Motion) (⟨p_x, p_y⟩ : L.Pt))
  | _ => none
abbrev p_apply_S : SE.Spec := (specO p_apply_s)
def p_apply_C : Cfg := { muts := [3, 4], frz := lookN [], specs := lookS [(135, p_turned_S)], loops := lookL [], iters := lookI [], rfs := lookR [], nils := lookM [] }
theorem p_apply_vc (m : L.Motion) (p : L.Pt) (hp : p_apply_p m p) : vc Try.prog (p_apply_C) (bodyOf Try.f96) (st0 Try.f96 [.p (.agg [.int .i64 m.turn, .bool m.mirror, .int .i64 m.by_.x, .int .i64 m.by_.y]), .p (.agg [.int .i64 p.x, .int .i64 p.y])]) (retFn Try.prog Try.f96 (p_apply_r m p)) :=
  @Eq.mpr _ ((L.bd p ∧ (0 : Int) ≤ m.turn ∧ m.turn ≤ (3 : Int)) ∧ Go.SE.InK Go.IntKind.i64 ((L.turned m p).x + m.by_.x) ∧ Go.SE.InK Go.IntKind.i64 ((L.turned m p).y + m.by_.y) ∧ Go.SE.SV.agg [Go.SE.SV.int Go.IntKind.i64 ((L.turned m p).x + m.by_.x), Go.SE.SV.int Go.IntKind.i64 ((L.turned m p).y + m.by_.y)] = Go.SE.SV.agg [Go.SE.SV.int Go.IntKind.i64 (L.apply m p).x, Go.SE.SV.int Go.IntKind.i64 (L.apply m p).y]) (by kernel_rfl) (by
    obtain ⟨hv, hm⟩ := hp
    have hb := bd_of_valid hv
    have hm := validM_iff.1 hm
    have hb' := turnN_bd (mir_bd (m := m) hb) m.turn.toNat
    have hb' : L.bd (L.turned m p) := hb'
    unfold L.bd at hb'
    exact ⟨⟨hb, hm.1.1, hm.1.2⟩, InK.of (by omega) (by omega), InK.of (by omega) (by omega), rfl⟩)
theorem p_apply_ok : SpecOk Try.prog 96 p_apply_S := fnX Try.func96 (c := bodyOf Try.f96) (by kernel_rfl) mixed (fun args p r hs hp => by
  unfold p_apply_s at hs
  split at hs
  · cases hs; exact ⟨_, _, p_apply_vc _ _ hp, (.same _ (.same _ .nil)), ⟨show SpecsL Try.prog _ from (SpecsL.cons p_turned_ok p_turned_en SpecsL.nil), rfl, ⟨show ItersL Try.prog _ from ItersL.nil, (TrsOk.none (fun _ => rfl))⟩⟩⟩
  · cases hs)
theorem p_apply_en : Enters Try.prog 96 := fun args w => by kernel_rfl
theorem p_apply_P : ∀ args p r, p_apply_s args = some (p, r) → ∃ a b, r = .agg [.int .i64 a, .int .i64 b] := by
  intro args p r h
  unfold p_apply_s at h
  split at h
  · cases h; exact ⟨_, _, rfl⟩
  · cases h
def p_mapped_p (l : (L.Sq L.Pt)) (f : FSpec) : Prop := l.n ≤ 1000000 ∧ ∀ i, i < l.n → f.pre [(.agg [.int .i64 ((l.g i).x), .int .i64 ((l.g i).y)])]
def p_mapped_q (l : (L.Sq L.Pt)) (f : FSpec) : (Nat → L.Pt) → Prop := fun t => t = L.fmap f l.g
def p_mapped_n (l : (L.Sq L.Pt)) (f : FSpec) : (Nat → L.Pt) → Nat := fun _ => l.n
def p_mapped_g (l : (L.Sq L.Pt)) (f : FSpec) : (Nat → L.Pt) → Nat → List SV := fun t k => [.int .i64 ((t k).x), .int .i64 ((t k).y)]
def p_mapped_s : List EV → Option (Prop × ((Nat → L.Pt) → Prop) × ((Nat → L.Pt) → Nat) × ((Nat → L.Pt) → Nat → List SV))
  | [.p (.sl 2 l_n l_g), .fn f] => some ((∀ i, i < l_n → l_g i = [.int .i64 ((ofPt (l_g i)).x), .int .i64 ((ofPt (l_g i)).y)]) ∧ L.isP f ∧ p_mapped_p (⟨l_n, fun i => ofPt (l_g i)⟩ : (L.Sq L.Pt)) f, p_mapped_q (⟨l_n, fun i => ofPt (l_g i)⟩ : (L.Sq L.Pt)) f, p_mapped_n (⟨l_n, fun i => ofPt (l_g i)⟩ : (L.Sq L.Pt)) f, p_mapped_g (⟨l_n, fun i => ofPt (l_g i)⟩ : (L.Sq L.Pt)) f)
  | _ => none
abbrev p_mapped_S : SE.Spec := (specF (Nat → L.Pt) (fun _ => ⟨0, 0⟩) 77 2 p_mapped_s)
def p_mapped_C : Cfg := { muts := [7, 10], frz := lookN [], specs := lookS [], loops := fun _ => none, iters := lookI [], rfs := lookR [], nils := lookM [] }
theorem p_mapped_vc (l : (L.Sq L.Pt)) (f : FSpec) (hp : p_mapped_p l f) : vc Try.prog ({ p_mapped_C with loops := lookL [(3, { T := Nat, keep := [1, 5, 11, 12], keepO := [], chg := fun i => [(13, .p (.int .i64 (i : Int)))], own := fun i => [(10, .row 77 2 l.n (fun k => [.int .i64 ((L.mapTo l f i k).x), .int .i64 ((L.mapTo l f i k).y)]))], inv := fun i => i ≤ l.n, mu := fun i => l.n - i })], rfs := lookR [] }) (bodyOf Try.f95) (st0 Try.f95 [.p (.sl 2 l.n (fun i => [.int .i64 ((l.g i).x), .int .i64 ((l.g i).y)])), .fn ⟨f.pre, fun xs => .agg [.int .i64 (L.fpl f xs).x, .int .i64 (L.fpl f xs).y]⟩]) (retFresh Try.prog Try.f95 ((Nat → L.Pt)) (p_mapped_q l f) 77 2 (p_mapped_n l f) (p_mapped_g l f)) :=
  @Eq.mpr _ (((0 : Int) ≤ (↑l.n : Int) ∧ (↑l.n : Int) ≤ (↑l.n : Int) ∧ (↑l.n : Int) * (↑(nat_lit 16) : Int) ≤ (140737488355328 : Int)) ∧ (∃ (g : Nat), (0 : Int) = (↑g : Int) ∧ (Int.toNat (↑l.n : Int) = l.n ∧ ∀ (i : Nat), i < Int.toNat (↑l.n : Int) → [Go.SE.SV.int Go.IntKind.i64 (0 : Int), Go.SE.SV.int Go.IntKind.i64 (0 : Int)] = [Go.SE.SV.int Go.IntKind.i64 (L.mapTo l f g i).x, Go.SE.SV.int Go.IntKind.i64
 (L.mapTo l f g i).y]) ∧ g ≤ l.n) ∧ ∀ (g : Nat), g ≤ l.n → (Decidable.decide ((↑g : Int) < (↑l.n : Int)) = Bool.true → ((0 : Int) ≤ (↑g : Int) ∧ (↑g : Int) < (↑l.n : Int)) ∧ f.1 [Go.SE.SV.agg [Go.SE.SV.int Go.IntKind.i64 (l.g (Int.toNat (↑g : Int))).x, Go.SE.SV.int Go.IntKind.i64 (l.g (Int.toNat (↑g : Int))).y]] ∧ ((0 : Int) ≤ (↑g : Int) ∧ (↑g : Int) < (↑l.n : Int)) ∧ Int.toNat (↑g : Int) < l.n ∧
 Go.SE.InK Go.IntKind.i64 ((↑g : Int) + (1 : Int)) ∧ ∃ (g' : Nat), (↑g : Int) + (1 : Int) = (↑g' : Int) ∧ (↑l.n : Int) = (↑l.n : Int) ∧ (l.n = l.n ∧ ∀ (i : Nat), i < l.n → [Go.SE.SV.int Go.IntKind.i64 (l.g i).x, Go.SE.SV.int Go.IntKind.i64 (l.g i).y] = [Go.SE.SV.int Go.IntKind.i64 (l.g i).x, Go.SE.SV.int Go.IntKind.i64 (l.g i).y]) ∧ ((Go.SE.FSpec.mk f.pre fun (xs : List Go.SE.SV) ↦ Go.SE.SV.agg
 [Go.SE.SV.int Go.IntKind.i64 (L.fpl f xs).x, Go.SE.SV.int Go.IntKind.i64 (L.fpl f xs).y]) = Go.SE.FSpec.mk f.pre fun (xs : List Go.SE.SV) ↦ Go.SE.SV.agg [Go.SE.SV.int Go.IntKind.i64 (L.fpl f xs).x, Go.SE.SV.int Go.IntKind.i64 (L.fpl f xs).y]) ∧ (l.n = l.n ∧ ∀ (i : Nat), i < l.n → Go.SE.setRow (fun (k : Nat) ↦ [Go.SE.SV.int Go.IntKind.i64 (L.mapTo l f g k).x, Go.SE.SV.int Go.IntKind.i64 (L.mapTo l
 f g k).y]) (Int.toNat (↑g : Int)) (nat_lit 0) [Go.SE.SV.int Go.IntKind.i64 (L.fpl f [Go.SE.SV.agg [Go.SE.SV.int Go.IntKind.i64 (l.g (Int.toNat (↑g : Int))).x, Go.SE.SV.int Go.IntKind.i64 (l.g (Int.toNat (↑g : Int))).y]]).x, Go.SE.SV.int Go.IntKind.i64 (L.fpl f [Go.SE.SV.agg [Go.SE.SV.int Go.IntKind.i64 (l.g (Int.toNat (↑g : Int))).x, Go.SE.SV.int Go.IntKind.i64 (l.g (Int.toNat (↑g : Int))).y]]).y]
 i = [Go.SE.SV.int Go.IntKind.i64 (L.mapTo l f g' i).x, Go.SE.SV.int Go.IntKind.i64 (L.mapTo l f g' i).y]) ∧ g' ≤ l.n ∧ l.n - g' < l.n - g) ∧ (Decidable.decide ((↑g : Int) < (↑l.n : Int)) = Bool.false → ∃ (t : Nat → L.Pt), (l.n = l.n ∧ ∀ (i : Nat), i < l.n → [Go.SE.SV.int Go.IntKind.i64 (L.mapTo l f g i).x, Go.SE.SV.int Go.IntKind.i64 (L.mapTo l f g i).y] = [Go.SE.SV.int Go.IntKind.i64 (t i).x,
 Go.SE.SV.int Go.IntKind.i64 (t i).y]) ∧ t = L.fmap f l.g)) (by kernel_rfl) (by
    obtain ⟨hn, hf⟩ := hp
    refine ⟨⟨by omega, by omega, by show (l.n : Int) * 16 ≤ 140737488355328; omega⟩, ⟨(0 : Nat), rfl, ⟨by omega, fun i hi => rfl⟩, Nat.zero_le _⟩, fun g hg => ⟨fun hlt => ?_, fun hge => ?_⟩⟩
    · have hb : (g : Int) < (l.n : Int) := of_decide_eq_true hlt
      have e0 : ((g : Int)).toNat = g := by omega
      rw [e0]
      refine ⟨⟨by omega, hb⟩, hf g (by omega), ⟨by omega, hb⟩, by omega, InK.of (by omega) (by omega), g + 1, by omega, rfl, ⟨rfl, fun _ _ => rfl⟩, rfl, ⟨rfl, fun i hi => ?_⟩, by omega, by omega⟩
      unfold setRow
      by_cases e : i = g
      · subst e
        rw [if_pos rfl]
        have w : L.mapTo l f (i + 1) i = L.fpl f [.agg [.int .i64 (l.g i).x, .int .i64 (l.g i).y]] := by
          unfold L.mapTo; rw [decide_eq_true (Nat.lt_succ_self i)]; rfl
        rw [w]; rfl
      · rw [if_neg e]
        dsimp only
        have w : L.mapTo l f (g + 1) i = L.mapTo l f g i := by
          unfold L.mapTo
          by_cases c : i < g
          · rw [decide_eq_true c, decide_eq_true (by omega)]
          · rw [decide_eq_false c, decide_eq_false (by omega)]
        rw [w]
    · have hb : ¬ (g : Int) < (l.n : Int) := of_decide_eq_false hge
      obtain rfl : g = l.n := by omega
      refine ⟨L.fmap f l.g, ⟨rfl, fun i hi => ?_⟩, rfl⟩
      have w : L.mapTo l f l.n i = L.fmap f l.g i := by
        unfold L.mapTo; rw [decide_eq_true hi]; rfl
      rw [w])
theorem p_mapped_ok : SpecOk Try.prog 95 p_mapped_S := freshX Try.func95 (c := bodyOf Try.f95) (by kernel_rfl) mixed (fun args p q n g hs hp => by
  unfold p_mapped_s at hs
  split at hs
  · cases hs; exact ⟨_, _, p_mapped_vc _ _ hp.2.2, (.p (.sl hp.1) (.fn (fun xs h => ⟨h, (fpl_res hp.2.1 h).symm⟩) .nil)), ⟨show SpecsL Try.prog _ from SpecsL.nil, rfl, ⟨show ItersL Try.prog _ from ItersL.nil, (TrsOk.none (fun _ => rfl))⟩⟩⟩
  · cases hs)
theorem p_mapped_en : Enters Try.prog 95 := fun args w => by kernel_rfl
def p_ValidMotion_p (m : L.Motion) : Prop := True
def p_ValidMotion_r (m : L.Motion) : SV := .bool (L.validM m)
def p_ValidMotion_s : List EV → Option (Prop × SV)
  | [.p (.agg [.int .i64 m_turn, .bool m_mirror, .int .i64 m_by__x, .int .i64 m_by__y])] => some (p_ValidMotion_p (⟨m_turn, m_mirror, (⟨m_by__x, m_by__y⟩ : L.Pt)⟩ : L.Motion), p_ValidMotion_r (⟨m_turn, m_mirror, (⟨m_by__x, m_by__y⟩ : L.Pt)⟩ : L.Motion))
  | _ => none
abbrev p_ValidMotion_S : SE.Spec := (specO p_ValidMotion_s)
def p_ValidMotion_C : Cfg := { muts := [], frz := lookN [], specs := lookS [(113, p_within_S)], loops := lookL [], iters := lookI [], rfs := lookR [], nils := lookM [] }
theorem p_ValidMotion_vc (m : L.Motion) (hp : p_ValidMotion_p m) : vc Try.prog (p_ValidMotion_C) (bodyOf Try.f94) (st0 Try.f94 [.p (.agg [.int .i64 m.turn, .bool m.mirror, .int .i64 m.by_.x, .int .i64 m.by_.y])]) (retFn Try.prog Try.f94 (p_ValidMotion_r m)) :=
  @Eq.mpr _ (True ∧ (L.within m.turn (0 : Int) (3 : Int) = Bool.true → True) ∧ ((bif L.within m.turn (0 : Int) (3 : Int) then L.within m.by_.x (-8192 : Int) (8192 : Int) else Bool.false) = Bool.true → True) ∧ (bif bif L.within m.turn (0 : Int) (3 : Int) then L.within m.by_.x (-8192 : Int) (8192 : Int) else Bool.false then L.within m.by_.y (-8192 : Int) (8192 : Int) else Bool.false) = L.validM m) (by kernel_rfl) (by
    refine ⟨trivial, fun _ => trivial, fun _ => trivial, ?_⟩
    rw [band, band]; rfl)
theorem p_ValidMotion_ok : SpecOk Try.prog 94 p_ValidMotion_S := fnX Try.func94 (c := bodyOf Try.f94) (by kernel_rfl) mixed (fun args p r hs hp => by
  unfold p_ValidMotion_s at hs
  split at hs
  · cases hs; exact ⟨_, _, p_ValidMotion_vc _ hp, (.same _ .nil), ⟨show SpecsL Try.prog _ from (SpecsL.cons p_within_ok p_within_en SpecsL.nil), rfl, ⟨show ItersL Try.prog _ from ItersL.nil, (TrsOk.none (fun _ => rfl))⟩⟩⟩
  · cases hs)
theorem p_ValidMotion_en : Enters Try.prog 94 := fun args w => by kernel_rfl
theorem p_ValidMotion_B : ∀ args p r, p_ValidMotion_s args = some (p, r) → ∃ b, r = .bool b := by
  intro args p r h
  unfold p_ValidMotion_s at h
  split at h
  · cases h; exact ⟨_, rfl⟩
  · cases h
def r1_ValidMotion_p (m : L.Motion) : Prop := True
def r1_ValidMotion_r (m : L.Motion) : SV := .bool (L.validM m)
def r1_ValidMotion_s : List EV → Option (Prop × SV)
  | [.p (.agg [.int .i64 m_turn, .bool m_mirror, .int .i64 m_by__x, .int .i64 m_by__y])] => some (r1_ValidMotion_p (⟨m_turn, m_mirror, (⟨m_by__x, m_by__y⟩ : L.Pt)⟩ : L.Motion), r1_ValidMotion_r (⟨m_turn, m_mirror, (⟨m_by__x, m_by__y⟩ : L.Pt)⟩ : L.Motion))
  | _ => none
abbrev r1_ValidMotion_S : SE.Spec := (specO r1_ValidMotion_s)
def r1_ValidMotion_C : Cfg := { muts := [], frz := lookN [], specs := lookS [], loops := lookL [], iters := lookI [], rfs := lookR [], nils := lookM [] }
theorem r1_ValidMotion_vc (m : L.Motion) (hp : r1_ValidMotion_p m) : vc Try.prog (r1_ValidMotion_C) (bodyOf Try.f48) (st0 Try.f48 [.p (.agg [.int .i64 m.turn, .bool m.mirror, .int .i64 m.by_.x, .int .i64 m.by_.y])]) (retFn Try.prog Try.f48 (r1_ValidMotion_r m)) :=
  @Eq.mpr _ (((bif Decidable.decide ((0 : Int) ≤ m.turn) then Decidable.decide (m.turn ≤ (3 : Int)) else Bool.false) = Bool.true → Go.SE.InK Go.IntKind.i64 ((0 : Int) - (8192 : Int))) ∧ ((bif bif bif Decidable.decide ((0 : Int) ≤ m.turn) then Decidable.decide (m.turn ≤ (3 : Int)) else Bool.false then Decidable.decide ((0 : Int) - (8192 : Int) ≤ m.by_.x) else Bool.false then Decidable.decide (m.by_.x ≤ (8192 :
 Int)) else Bool.false) = Bool.true → Go.SE.InK Go.IntKind.i64 ((0 : Int) - (8192 : Int))) ∧ (bif bif bif bif bif Decidable.decide ((0 : Int) ≤ m.turn) then Decidable.decide (m.turn ≤ (3 : Int)) else Bool.false then Decidable.decide ((0 : Int) - (8192 : Int) ≤ m.by_.x) else Bool.false then Decidable.decide (m.by_.x ≤ (8192 : Int)) else Bool.false then Decidable.decide ((0 : Int) - (8192 : Int) ≤
 m.by_.y) else Bool.false then Decidable.decide (m.by_.y ≤ (8192 : Int)) else Bool.false) = L.validM m) (by kernel_rfl) (by
    refine ⟨fun _ => InK.of (by omega) (by omega), fun _ => InK.of (by omega) (by omega), ?_⟩
    rw [Bool.eq_iff_iff, validM_iff]
    simp only [band, Bool.and_eq_true, decide_eq_true_eq]
    omega)
theorem r1_ValidMotion_ok : SpecOk Try.prog 48 r1_ValidMotion_S := fnX Try.func48 (c := bodyOf Try.f48) (by kernel_rfl) mixed (fun args p r hs hp => by
  unfold r1_ValidMotion_s at hs
  split at hs
  · cases hs; exact ⟨_, _, r1_ValidMotion_vc _ hp, (.same _ .nil), ⟨show SpecsL Try.prog _ from SpecsL.nil, rfl, ⟨show ItersL Try.prog _ from ItersL.nil, (TrsOk.none (fun _ => rfl))⟩⟩⟩
  · cases hs)
theorem r1_ValidMotion_en : Enters Try.prog 48 := fun args w => by kernel_rfl
theorem r1_ValidMotion_B : ∀ args p r, r1_ValidMotion_s args = some (p, r) → ∃ b, r = .bool b := by
  intro args p r h
  unfold r1_ValidMotion_s at h
  split at h
  · cases h; exact ⟨_, rfl⟩
  · cases h
def p_lay_p (s : L.Setting) (n : Int) (i : Int) : Prop := 1 ≤ n ∧ n ≤ 1000000 ∧ -1000000 ≤ s.shift ∧ s.shift ≤ 1000000 ∧ -1000000 ≤ i ∧ i ≤ 1000000
def p_lay_r (s : L.Setting) (n : Int) (i : Int) : SV := .int .i64 (L.lay s n i)
def p_lay_s : List EV → Option (Prop × SV)
  | [.p (.agg [.int .i64 s_shift, .bool s_back]), .p (.int .i64 n), .p (.int .i64 i)] => some (p_lay_p (⟨s_shift, s_back⟩ : L.Setting) n i, p_lay_r (⟨s_shift, s_back⟩ : L.Setting) n i)
  | _ => none
abbrev p_lay_S : SE.Spec := (specO p_lay_s)
def p_lay_C : Cfg := { muts := [], frz := lookN [], specs := lookS [], loops := lookL [], iters := lookI [], rfs := lookR [], nils := lookM [] }
theorem p_lay_vc (s : L.Setting) (n : Int) (i : Int) (hp : p_lay_p s n i) : vc Try.prog (p_lay_C) (bodyOf Try.f100) (st0 Try.f100 [.p (.agg [.int .i64 s.shift, .bool s.back]), .p (.int .i64 n), .p (.int .i64 i)]) (retFn Try.prog Try.f100 (p_lay_r s n i)) :=
  @Eq.mpr _ ((s.back = Bool.true → Go.SE.InK Go.IntKind.i64 (s.shift + n) ∧ Go.SE.InK Go.IntKind.i64 (s.shift + n - i) ∧ n ≠ (0 : Int) ∧ Int.tmod (s.shift + n - i) n = L.lay s n i) ∧ (s.back = Bool.false → Go.SE.InK Go.IntKind.i64 (s.shift + i) ∧ n ≠ (0 : Int) ∧ Int.tmod (s.shift + i) n = L.lay s n i)) (by kernel_rfl) (by
    obtain ⟨h1, h2, h3, h4, h5, h6⟩ := hp
    refine ⟨fun h => ⟨InK.of (by omega) (by omega), InK.of (by omega) (by omega), by omega, ?_⟩, fun h => ⟨InK.of (by omega) (by omega), by omega, ?_⟩⟩
    · unfold L.lay; rw [h]; rfl
    · unfold L.lay; rw [h]; rfl)
theorem p_lay_ok : SpecOk Try.prog 100 p_lay_S := fnX Try.func100 (c := bodyOf Try.f100) (by kernel_rfl) mixed (fun args p r hs hp => by
  unfold p_lay_s at hs
  split at hs
  · cases hs; exact ⟨_, _, p_lay_vc _ _ _ hp, (.same _ (.same _ (.same _ .nil))), ⟨show SpecsL Try.prog _ from SpecsL.nil, rfl, ⟨show ItersL Try.prog _ from ItersL.nil, (TrsOk.none (fun _ => rfl))⟩⟩⟩
  · cases hs)
theorem p_lay_en : Enters Try.prog 100 := fun args w => by kernel_rfl
theorem p_lay_I : ∀ args p r, p_lay_s args = some (p, r) → ∃ n, r = .int .i64 n := by
  intro args p r h
  unfold p_lay_s at h
  split at h
  · cases h; exact ⟨_, rfl⟩
  · cases h
def p_Compose_p (s : L.Setting) (t : L.Setting) (n : Int) : Prop := -1000000 ≤ n ∧ n ≤ 1000000
def p_Compose_r (s : L.Setting) (t : L.Setting) (n : Int) : SV := .tup [(.agg [.int .i64 ((L.comp s t n).shift), .bool ((L.comp s t n).back)]), .int .i64 (L.compE s t n)]
def p_Compose_s : List EV → Option (Prop × SV)
  | [.p (.agg [.int .i64 s_shift, .bool s_back]), .p (.agg [.int .i64 t_shift, .bool t_back]), .p (.int .i64 n)] => some (p_Compose_p (⟨s_shift, s_back⟩ : L.Setting) (⟨t_shift, t_back⟩ : L.Setting) n, p_Compose_r (⟨s_shift, s_back⟩ : L.Setting) (⟨t_shift, t_back⟩ : L.Setting) n)
  | _ => none
abbrev p_Compose_S : SE.Spec := (specO p_Compose_s)
def p_Compose_C : Cfg := { muts := [6], frz := lookN [], specs := lookS [(82, p_ValidSetting_S), (100, p_lay_S)], loops := lookL [], iters := lookI [], rfs := lookR [], nils := lookM [] }
theorem p_Compose_vc (s : L.Setting) (t : L.Setting) (n : Int) (hp : p_Compose_p s t n) : vc Try.prog (p_Compose_C) (bodyOf Try.f50) (st0 Try.f50 [.p (.agg [.int .i64 s.shift, .bool s.back]), .p (.agg [.int .i64 t.shift, .bool t.back]), .p (.int .i64 n)]) (retFn Try.prog Try.f50 (p_Compose_r s t n)) :=
  @Eq.mpr _ (((-1000000 : Int) ≤ n ∧ n ≤ (1000000 : Int)) ∧ ((!!L.validSet s n) = Bool.true → (-1000000 : Int) ≤ n ∧ n ≤ (1000000 : Int)) ∧ ((bif !L.validSet s n then Bool.true else !L.validSet t n) = Bool.true → Go.SE.SV.agg [Go.SE.SV.int Go.IntKind.i64 (0 : Int), Go.SE.SV.bool Bool.false] = Go.SE.SV.agg [Go.SE.SV.int Go.IntKind.i64 (L.comp s t n).shift, Go.SE.SV.bool (L.comp s t n).back] ∧ (1 : Int) =
 L.compE s t n) ∧ ((bif !L.validSet s n then Bool.true else !L.validSet t n) = Bool.false → ((1 : Int) ≤ n ∧ n ≤ (1000000 : Int) ∧ (-1000000 : Int) ≤ t.shift ∧ t.shift ≤ (1000000 : Int) ∧ (-1000000 : Int) ≤ s.shift ∧ s.shift ≤ (1000000 : Int)) ∧ Go.SE.SV.agg [Go.SE.SV.int Go.IntKind.i64 (L.lay t n s.shift), Go.SE.SV.bool !s.back == t.back] = Go.SE.SV.agg [Go.SE.SV.int Go.IntKind.i64 (L.comp s t
 n).shift, Go.SE.SV.bool (L.comp s t n).back] ∧ (0 : Int) = L.compE s t n)) (by kernel_rfl) (by
    obtain ⟨h1, h2⟩ := hp
    refine ⟨⟨h1, h2⟩, fun _ => ⟨h1, h2⟩, fun h => ?_, fun h => ?_⟩
    · have e : L.compE s t n = 1 := by unfold L.compE; rw [h]; rfl
      unfold L.comp; rw [e]; exact ⟨rfl, rfl⟩
    · have e : L.compE s t n = 0 := by unfold L.compE; rw [h]; rfl
      rw [bor, Bool.or_eq_false_iff] at h
      have a := validSet_iff.1 (notF h.1)
      have b := validSet_iff.1 (notF h.2)
      refine ⟨⟨by omega, by omega, by omega, by omega, by omega, by omega⟩, ?_, e.symm⟩
      unfold L.comp; rw [e]; rfl)
theorem p_Compose_ok : SpecOk Try.prog 50 p_Compose_S := fnX Try.func50 (c := bodyOf Try.f50) (by kernel_rfl) mixed (fun args p r hs hp => by
  unfold p_Compose_s at hs
  split at hs
  · cases hs; exact ⟨_, _, p_Compose_vc _ _ _ hp, (.same _ (.same _ (.same _ .nil))), ⟨show SpecsL Try.prog _ from (SpecsL.cons p_ValidSetting_ok p_ValidSetting_en (SpecsL.cons p_lay_ok p_lay_en SpecsL.nil)), rfl, ⟨show ItersL Try.prog _ from ItersL.nil, (TrsOk.none (fun _ => rfl))⟩⟩⟩
  · cases hs)
theorem p_Compose_en : Enters Try.prog 50 := fun args w => by kernel_rfl
def p_Move_p (l : (L.Sq L.Pt)) (m : L.Motion) : Prop := l.n ≤ 1000000
def p_Move_r (l : (L.Sq L.Pt)) (m : L.Motion) : SV := .tup [.sl 2 (L.movN l m) (fun k => [.int .i64 (((L.norm (L.moved l m)).g k).x), .int .i64 (((L.norm (L.moved l m)).g k).y)]), (.agg [.int .i64 ((L.movS l m).shift), .bool ((L.movS l m).back)]), .int .i64 (L.movE l m)]
def p_Move_s : List EV → Option (Prop × SV)
  | [.p (.sl 2 l_n l_g), .p (.agg [.int .i64 m_turn, .bool m_mirror, .int .i64 m_by__x, .int .i64 m_by__y])] => some ((∀ i, i < l_n → l_g i = [.int .i64 ((ofPt (l_g i)).x), .int .i64 ((ofPt (l_g i)).y)]) ∧ p_Move_p (⟨l_n, fun i => ofPt (l_g i)⟩ : (L.Sq L.Pt)) (⟨m_turn, m_mirror, (⟨m_by__x, m_by__y⟩ : L.Pt)⟩ : L.Motion), p_Move_r (⟨l_n, fun i => ofPt (l_g i)⟩ : (L.Sq L.Pt)) (⟨m_turn, m_mirror, (⟨m_by__x, m_by__y⟩ : L.Pt)⟩ : L.Motion))
  | _ => none
abbrev p_Move_S : SE.Spec := (specO p_Move_s)
def p_Move_C : Cfg := { muts := [5], frz := lookN [], specs := lookS [(64, p_ValidOutline_S), (94, p_ValidMotion_S), (96, p_apply_S), (95, p_mapped_S), (97, p_valid_S), (98, p_normal_S), (99, s_idxPt_S)], loops := lookL [], iters := lookI [], rfs := lookR [], nils := lookM [] }
theorem p_Move_vc (l : (L.Sq L.Pt)) (m : L.Motion) (hp : p_Move_p l m) : vc Try.prog (p_Move_C) (bodyOf Try.f49) (st0 Try.f49 [.p (.sl 2 l.n (fun i => [.int .i64 ((l.g i).x), .int .i64 ((l.g i).y)])), .p (.agg [.int .i64 m.turn, .bool m.mirror, .int .i64 m.by_.x, .int .i64 m.by_.y])]) (retFn Try.prog Try.f49 (p_Move_r l m)) :=
  @Eq.mpr _ (((∀ (i : Nat), i < l.n → [Go.SE.SV.int Go.IntKind.i64 (l.g i).x, Go.SE.SV.int Go.IntKind.i64 (l.g i).y] = [Go.SE.SV.int Go.IntKind.i64 (l.g i).x, Go.SE.SV.int Go.IntKind.i64 (l.g i).y]) ∧ l.n ≤ (1000000 : Nat)) ∧ ((!!L.validOutline (L.Sq.mk l.n fun (i : Nat) ↦ l.g i)) = Bool.true → True) ∧ ((bif !L.validOutline (L.Sq.mk l.n fun (i : Nat) ↦ l.g i) then Bool.true else !L.validM m) = Bool.true →
 L.movN l m = (0 : Nat) ∧ Go.SE.SV.agg [Go.SE.SV.int Go.IntKind.i64 (0 : Int), Go.SE.SV.bool Bool.false] = Go.SE.SV.agg [Go.SE.SV.int Go.IntKind.i64 (L.movS l m).shift, Go.SE.SV.bool (L.movS l m).back] ∧ (1 : Int) = L.movE l m) ∧ ((bif !L.validOutline (L.Sq.mk l.n fun (i : Nat) ↦ l.g i) then Bool.true else !L.validM m) = Bool.false → ((∀ (i : Nat), i < l.n → [Go.SE.SV.int Go.IntKind.i64 (l.g i).x,
 Go.SE.SV.int Go.IntKind.i64 (l.g i).y] = [Go.SE.SV.int Go.IntKind.i64 (l.g i).x, Go.SE.SV.int Go.IntKind.i64 (l.g i).y]) ∧ L.isP (Go.SE.FSpec.mk (fun (xs : List Go.SE.SV) ↦ Go.SE.preO p_apply_s (List.map Go.SE.EV.p [Go.SE.SV.agg [Go.SE.SV.int Go.IntKind.i64 m.turn, Go.SE.SV.bool m.mirror, Go.SE.SV.int Go.IntKind.i64 m.by_.x, Go.SE.SV.int Go.IntKind.i64 m.by_.y]] ++ List.map Go.SE.EV.p xs)) fun (xs
 : List Go.SE.SV) ↦ Go.SE.resO p_apply_s (List.map Go.SE.EV.p [Go.SE.SV.agg [Go.SE.SV.int Go.IntKind.i64 m.turn, Go.SE.SV.bool m.mirror, Go.SE.SV.int Go.IntKind.i64 m.by_.x, Go.SE.SV.int Go.IntKind.i64 m.by_.y]] ++ List.map Go.SE.EV.p xs)) ∧ l.n ≤ (1000000 : Nat) ∧ ∀ (i : Nat), i < l.n → L.validPt (l.g i) = Bool.true ∧ L.validM m = Bool.true) ∧ ∀ (t : Nat → L.Pt), (t = L.fmap (Go.SE.FSpec.mk (fun
 (xs : List Go.SE.SV) ↦ Go.SE.preO p_apply_s (List.map Go.SE.EV.p [Go.SE.SV.agg [Go.SE.SV.int Go.IntKind.i64 m.turn, Go.SE.SV.bool m.mirror, Go.SE.SV.int Go.IntKind.i64 m.by_.x, Go.SE.SV.int Go.IntKind.i64 m.by_.y]] ++ List.map Go.SE.EV.p xs)) fun (xs : List Go.SE.SV) ↦ Go.SE.resO p_apply_s (List.map Go.SE.EV.p [Go.SE.SV.agg [Go.SE.SV.int Go.IntKind.i64 m.turn, Go.SE.SV.bool m.mirror, Go.SE.SV.int
 Go.IntKind.i64 m.by_.x, Go.SE.SV.int Go.IntKind.i64 m.by_.y]] ++ List.map Go.SE.EV.p xs)) fun (i : Nat) ↦ l.g i) → ((∀ (i : Nat), i < l.n → [Go.SE.SV.int Go.IntKind.i64 (t i).x, Go.SE.SV.int Go.IntKind.i64 (t i).y] = [Go.SE.SV.int Go.IntKind.i64 (t i).x, Go.SE.SV.int Go.IntKind.i64 (t i).y]) ∧ l.n ≤ (1000000 : Nat)) ∧ ((!L.allB l.n fun (i : Nat) ↦ L.validPt (t i)) = Bool.true → L.movN l m = (0 :
 Nat) ∧ Go.SE.SV.agg [Go.SE.SV.int Go.IntKind.i64 (0 : Int), Go.SE.SV.bool Bool.false] = Go.SE.SV.agg [Go.SE.SV.int Go.IntKind.i64 (L.movS l m).shift, Go.SE.SV.bool (L.movS l m).back] ∧ (2 : Int) = L.movE l m) ∧ ((!L.allB l.n fun (i : Nat) ↦ L.validPt (t i)) = Bool.false → ((∀ (i : Nat), i < l.n → [Go.SE.SV.int Go.IntKind.i64 (t i).x, Go.SE.SV.int Go.IntKind.i64 (t i).y] = [Go.SE.SV.int
 Go.IntKind.i64 (t i).x, Go.SE.SV.int Go.IntKind.i64 (t i).y]) ∧ L.small (L.Sq.mk l.n fun (i : Nat) ↦ t i) ∧ (1 : Nat) ≤ l.n) ∧ ∀ (t_1 : Nat), True → ((0 : Int) ≤ (0 : Int) ∧ (0 : Int) < (↑l.n : Int)) ∧ ((∀ (i : Nat), i < l.n → [Go.SE.SV.int Go.IntKind.i64 ((L.norm (L.Sq.mk l.n fun (i : Nat) ↦ t i)).g i).x, Go.SE.SV.int Go.IntKind.i64 ((L.norm (L.Sq.mk l.n fun (i : Nat) ↦ t i)).g i).y] =
 [Go.SE.SV.int Go.IntKind.i64 ((L.norm (L.Sq.mk l.n fun (i : Nat) ↦ t i)).g i).x, Go.SE.SV.int Go.IntKind.i64 ((L.norm (L.Sq.mk l.n fun (i : Nat) ↦ t i)).g i).y]) ∧ l.n ≤ (1000000 : Nat)) ∧ ((0 : Int) ≤ (1 : Int) ∧ (1 : Int) < (↑l.n : Int)) ∧ ((∀ (i : Nat), i < l.n → [Go.SE.SV.int Go.IntKind.i64 ((L.norm (L.Sq.mk l.n fun (i : Nat) ↦ t i)).g i).x, Go.SE.SV.int Go.IntKind.i64 ((L.norm (L.Sq.mk l.n
 fun (i : Nat) ↦ t i)).g i).y] = [Go.SE.SV.int Go.IntKind.i64 ((L.norm (L.Sq.mk l.n fun (i : Nat) ↦ t i)).g i).x, Go.SE.SV.int Go.IntKind.i64 ((L.norm (L.Sq.mk l.n fun (i : Nat) ↦ t i)).g i).y]) ∧ l.n ≤ (1000000 : Nat)) ∧ (m.mirror = Bool.true → (l.n = L.movN l m ∧ ∀ (i : Nat), i < l.n → [Go.SE.SV.int Go.IntKind.i64 ((L.norm (L.Sq.mk l.n fun (i : Nat) ↦ t i)).g i).x, Go.SE.SV.int Go.IntKind.i64
 ((L.norm (L.Sq.mk l.n fun (i : Nat) ↦ t i)).g i).y] = [Go.SE.SV.int Go.IntKind.i64 ((L.norm (L.moved l m)).g i).x, Go.SE.SV.int Go.IntKind.i64 ((L.norm (L.moved l m)).g i).y]) ∧ Go.SE.SV.agg [Go.SE.SV.int Go.IntKind.i64 (L.ptIdx (L.Sq.mk l.n fun (i : Nat) ↦ (L.norm (L.Sq.mk l.n fun (i : Nat) ↦ t i)).g i) (t (Int.toNat (1 : Int)))), Go.SE.SV.bool Bool.true] = Go.SE.SV.agg [Go.SE.SV.int
 Go.IntKind.i64 (L.movS l m).shift, Go.SE.SV.bool (L.movS l m).back] ∧ (0 : Int) = L.movE l m) ∧ (m.mirror = Bool.false → (l.n = L.movN l m ∧ ∀ (i : Nat), i < l.n → [Go.SE.SV.int Go.IntKind.i64 ((L.norm (L.Sq.mk l.n fun (i : Nat) ↦ t i)).g i).x, Go.SE.SV.int Go.IntKind.i64 ((L.norm (L.Sq.mk l.n fun (i : Nat) ↦ t i)).g i).y] = [Go.SE.SV.int Go.IntKind.i64 ((L.norm (L.moved l m)).g i).x, Go.SE.SV.int
 Go.IntKind.i64 ((L.norm (L.moved l m)).g i).y]) ∧ Go.SE.SV.agg [Go.SE.SV.int Go.IntKind.i64 (L.ptIdx (L.Sq.mk l.n fun (i : Nat) ↦ (L.norm (L.Sq.mk l.n fun (i : Nat) ↦ t i)).g i) (t (Int.toNat (0 : Int)))), Go.SE.SV.bool Bool.false] = Go.SE.SV.agg [Go.SE.SV.int Go.IntKind.i64 (L.movS l m).shift, Go.SE.SV.bool (L.movS l m).back] ∧ (0 : Int) = L.movE l m)))) (by kernel_rfl) (by
    have hn : l.n ≤ 1000000 := hp
    refine ⟨⟨fun _ _ => rfl, hn⟩, fun _ => trivial, fun h => ?_, fun h => ?_⟩
    · have h : (bif !L.validOutline l then true else !L.validM m) = true := h
      have e : L.movE l m = 1 := by unfold L.movE; rw [h]; rfl
      unfold L.movN L.movS; rw [e]; exact ⟨rfl, rfl, rfl⟩
    have h0 : (bif !L.validOutline l then true else !L.validM m) = false := h
    have h := h0
    rw [bor, Bool.or_eq_false_iff] at h
    have hv := notF h.1
    have hm := notF h.2
    obtain ⟨n3, n24, _, _⟩ := validOutline_of hv
    have hvp := (outline_all hv).1
    refine ⟨⟨fun _ _ => rfl, isP_of p_apply_P (fun xs => List.map EV.p [.agg [.int .i64 m.turn, .bool m.mirror, .int .i64 m.by_.x, .int .i64 m.by_.y]] ++ List.map EV.p xs), hn, fun i hi => ⟨hvp i hi, hm⟩⟩, fun t ht => ?_⟩
    have ht : t = (L.moved l m).g := ht
    subst ht
    refine ⟨⟨fun _ _ => rfl, hn⟩, fun h2 => ?_, fun h2 => ?_⟩
    · have h2 : L.validPts (L.moved l m) = false := notT h2
      have e : L.movE l m = 2 := by unfold L.movE; rw [h0, h2]; rfl
      unfold L.movN L.movS; rw [e]; exact ⟨rfl, rfl, rfl⟩
    have h2 : L.validPts (L.moved l m) = true := notF h2
    have e : L.movE l m = 0 := by unfold L.movE; rw [h0, h2]; rfl
    have eN : l.n = L.movN l m := by unfold L.movN; rw [e]; rfl
    refine ⟨⟨fun _ _ => rfl, small_of_valid (by show l.n ≤ 1000; omega) h2, by omega⟩, fun _ _ => ⟨⟨by omega, by omega⟩, ⟨fun _ _ => rfl, hn⟩, ⟨by omega, by omega⟩, ⟨fun _ _ => rfl, hn⟩, fun hk => ⟨⟨eN, fun _ _ => rfl⟩, ?_, e.symm⟩, fun hk => ⟨⟨eN, fun _ _ => rfl⟩, ?_, e.symm⟩⟩⟩
    · unfold L.movS; rw [e, hk]; rfl
    · unfold L.movS; rw [e, hk]; rfl)
theorem p_Move_ok : SpecOk Try.prog 49 p_Move_S := fnX Try.func49 (c := bodyOf Try.f49) (by kernel_rfl) mixed (fun args p r hs hp => by
  unfold p_Move_s at hs
  split at hs
  · cases hs; exact ⟨_, _, p_Move_vc _ _ hp.2, (.p (.sl hp.1) (.same _ .nil)), ⟨show SpecsL Try.prog _ from (SpecsL.cons p_ValidOutline_ok p_ValidOutline_en (SpecsL.cons p_ValidMotion_ok p_ValidMotion_en (SpecsL.cons p_apply_ok p_apply_en (SpecsL.cons p_mapped_ok p_mapped_en (SpecsL.cons p_valid_ok p_valid_en (SpecsL.cons p_normal_ok p_normal_en (SpecsL.cons s_idxPt_ok s_idxPt_en SpecsL.nil))))))), rfl, ⟨show ItersL Try.prog _ from ItersL.nil, (TrsOk.none (fun _ => rfl))⟩⟩⟩
  · cases hs)
theorem p_Move_en : Enters Try.prog 49 := fun args w => by kernel_rfl
end Go.Proofs.Ytipaekbdalahdaa
