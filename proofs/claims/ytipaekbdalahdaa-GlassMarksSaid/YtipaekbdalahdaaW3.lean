/- A symbolic walk over the model, and what it shows of functions of the program: parts of the proof that the text of the row joins. -/
import Derived.Test.YtipaekbdalahdaaW2
import Derived.Test.YtipaekbdalahdaaE3
import Derived.KernelRfl

namespace Go.Proofs.Ytipaekbdalahdaa
open Go.SE Go.RowKit
set_option maxRecDepth 100000
set_option maxHeartbeats 4000000
set_option linter.unusedVariables false
attribute [local irreducible] Go.SE.vc

def L.vSpan (s : L.Span) (least : Int) : Bool := bif (bif decide (least ≤ s.lo) then decide (s.lo ≤ s.hi) else false) then decide (s.hi ≤ 33554432) else false
def L.vGauge (g : L.Gauge) : Bool := bif (bif L.vSpan g.edge 1 then L.vSpan g.across 0 else false) then L.within g.bend (-1) 1 else false
def L.gauges (l : L.Sq L.Gauge) : Bool := bif L.within l.n 3 24 then L.allB l.n (fun i => L.vGauge (l.g i)) else false
def L.edges (l : L.Sq L.Mark) (n : Int) : Bool := L.allB l.n (fun i => L.within (l.g i).edge 0 (n - 1))
def L.vMarks (l : L.Sq L.Mark) (n : Int) : Bool := bif L.edges l n then L.marks l else false
def L.badMk (m : L.Mark) (n : Int) : Bool := bif (bif !L.within m.edge 0 (n - 1) then true else !L.within m.place 0 16) then true else !L.within m.tone 1 16
def L.nums (p : L.Piece) : Bool := bif (bif (bif (bif L.within p.id 1 65535 then L.within p.colour 1 16 else false) then L.within p.rev 1 16 else false) then L.within p.made 0 9999 else false) then L.within p.swell (-64) 64 else false
def L.validPiece (p : L.Piece) : Bool := bif (bif L.nums p then L.gauges p.gauges else false) then L.vMarks p.marks p.gauges.n else false
def L.validFilm (f : L.Film) : Bool := bif (bif L.within f.id 1 65535 then L.within f.grey.n 1 16 else false) then L.allB f.grey.n (fun i => L.within (f.grey.g i) 0 255) else false
def L.few (p : L.Piece) (l : L.Sq L.Pt) : Bool := bif (bif decide ((p.gauges.n : Int) ≤ 60) then decide ((p.marks.n : Int) ≤ 100) else false) then decide ((l.n : Int) ≤ 60) else false
theorem band (a b : Bool) : (bif a then b else false) = (a && b) := by cases a <;> rfl
theorem bor (a b : Bool) : (bif a then true else b) = (a || b) := by cases a <;> rfl
theorem not_any_not {n : Nat} {f : Nat → Bool} : (!L.anyB n (fun i => !f i)) = L.allB n f := by
  rw [not_anyB]
  exact congrArg (L.allB n) (funext fun i => Bool.not_not (f i))
theorem cmpMark_lt {a b : L.Mark} : L.cmpMark a b < 0 ↔ L.earlier a b = true := by
  unfold L.cmpMark L.or2 L.cmp L.earlier
  rcases Int.lt_trichotomy a.edge b.edge with h1 | h1 | h1 <;> rcases Int.lt_trichotomy a.place b.place with h2 | h2 | h2 <;> rcases Int.lt_trichotomy a.tone b.tone with h3 | h3 | h3 <;> grind
theorem rise_iff {n : Nat} {f : Nat → Int} : L.rise n f = true ↔ ∀ i, i < n → 0 < i → f i < 0 := by
  unfold L.rise
  rw [allB_iff]
  refine forall_congr' fun i => forall_congr' fun _ => ?_
  by_cases h : 0 < i
  · have h' : (0 : Int) < (i : Int) := by omega
    simp [h, h', Int.not_le]
  · have h' : ¬ (0 : Int) < (i : Int) := by omega
    simp [h, h']
theorem vMarks_eq {l : L.Sq L.Mark} {n : Int} : (bif (bif decide ((l.n : Int) ≤ 32) then L.rise l.n (fun i => L.cmpMark (l.g (i - 1)) (l.g i)) else false) then !L.anyB l.n (fun i => L.badMk (l.g i) n) else false) = L.vMarks l n := by
  rw [not_anyB, Bool.eq_iff_iff]
  unfold L.vMarks L.marks L.edges
  simp only [band, Bool.and_eq_true, decide_eq_true_eq, rise_iff, allB_iff, cmpMark_lt, L.badMk, L.mark1, bor, Bool.not_eq_true', Bool.or_eq_false_iff, Bool.not_eq_false']
  constructor
  · rintro ⟨⟨h1, h2⟩, h3⟩
    refine ⟨fun i hi => (h3 i hi).1.1, by omega, fun i hi => ⟨⟨(h3 i hi).1.2, (h3 i hi).2⟩, ?_⟩⟩
    by_cases h : 0 < i
    · simp [h, h2 i hi h]
    · simp [h]
  · rintro ⟨h1, h2, h3⟩
    refine ⟨⟨by omega, fun i hi h => ?_⟩, fun i hi => ⟨⟨h1 i hi, (h3 i hi).1.1⟩, (h3 i hi).1.2⟩⟩
    have := (h3 i hi).2
    simpa [h] using this
theorem few_iff {p : L.Piece} {l : L.Sq L.Pt} : L.few p l = true ↔ p.gauges.n ≤ 60 ∧ p.marks.n ≤ 100 ∧ l.n ≤ 60 := by
  unfold L.few
  simp only [band, Bool.and_eq_true, decide_eq_true_eq]
  omega
def ofFilm : List SV → L.Film
  | [.int _ a, .sl _ n g] => ⟨a, ⟨n, fun i => intOf (g i)⟩⟩
  | _ => ⟨0, ⟨0, fun _ => 0⟩⟩
def g_validSpan_p (s : L.Span) (n : Int) : Prop := True
def g_validSpan_r (s : L.Span) (n : Int) : SV := .bool (L.vSpan s n)
def g_validSpan_s : List EV → Option (Prop × SV)
  | [.p (.agg [.int .i64 s_lo, .int .i64 s_hi]), .p (.int .i64 n)] => some (g_validSpan_p (⟨s_lo, s_hi⟩ : L.Span) n, g_validSpan_r (⟨s_lo, s_hi⟩ : L.Span) n)
  | _ => none
abbrev g_validSpan_S : SE.Spec := (specO g_validSpan_s)
def g_validSpan_C : Cfg := { muts := [], frz := lookN [], specs := lookS [], loops := lookL [], iters := lookI [], rfs := lookR [], nils := lookM [] }
theorem g_validSpan_vc (s : L.Span) (n : Int) (hp : g_validSpan_p s n) : vc Try.prog (g_validSpan_C) (bodyOf Try.f145) (st0 Try.f145 [.p (.agg [.int .i64 s.lo, .int .i64 s.hi]), .p (.int .i64 n)]) (retFn Try.prog Try.f145 (g_validSpan_r s n)) :=
  @Eq.mpr _ ((bif bif Decidable.decide (n ≤ s.lo) then Decidable.decide (s.lo ≤ s.hi) else Bool.false then Decidable.decide (s.hi ≤ (33554432 : Int)) else Bool.false) = L.vSpan s n) (by kernel_rfl) (by
    rfl)
theorem g_validSpan_ok : SpecOk Try.prog 145 g_validSpan_S := fnX Try.func145 (c := bodyOf Try.f145) (by kernel_rfl) mixed (fun args p r hs hp => by
  unfold g_validSpan_s at hs
  split at hs
  · cases hs; exact ⟨_, _, g_validSpan_vc _ _ hp, (.same _ (.same _ .nil)), ⟨show SpecsL Try.prog _ from SpecsL.nil, rfl, ⟨show ItersL Try.prog _ from ItersL.nil, (TrsOk.none (fun _ => rfl))⟩⟩⟩
  · cases hs)
theorem g_validSpan_en : Enters Try.prog 145 := fun args w => by kernel_rfl
theorem g_validSpan_B : ∀ args p r, g_validSpan_s args = some (p, r) → ∃ b, r = .bool b := by
  intro args p r h
  unfold g_validSpan_s at h
  split at h
  · cases h; exact ⟨_, rfl⟩
  · cases h
def g_validGauge_p (g : L.Gauge) : Prop := True
def g_validGauge_r (g : L.Gauge) : SV := .bool (L.vGauge g)
def g_validGauge_s : List EV → Option (Prop × SV)
  | [.p (.agg [.int .i64 g_edge_lo, .int .i64 g_edge_hi, .int .i64 g_across_lo, .int .i64 g_across_hi, .int .i64 g_bend])] => some (g_validGauge_p (⟨(⟨g_edge_lo, g_edge_hi⟩ : L.Span), (⟨g_across_lo, g_across_hi⟩ : L.Span), g_bend⟩ : L.Gauge), g_validGauge_r (⟨(⟨g_edge_lo, g_edge_hi⟩ : L.Span), (⟨g_across_lo, g_across_hi⟩ : L.Span), g_bend⟩ : L.Gauge))
  | _ => none
abbrev g_validGauge_S : SE.Spec := (specO g_validGauge_s)
def g_validGauge_C : Cfg := { muts := [], frz := lookN [], specs := lookS [(145, g_validSpan_S), (52, g_within_S)], loops := lookL [], iters := lookI [], rfs := lookR [], nils := lookM [] }
theorem g_validGauge_vc (g : L.Gauge) (hp : g_validGauge_p g) : vc Try.prog (g_validGauge_C) (bodyOf Try.f108) (st0 Try.f108 [.p (.agg [.int .i64 g.edge.lo, .int .i64 g.edge.hi, .int .i64 g.across.lo, .int .i64 g.across.hi, .int .i64 g.bend])]) (retFn Try.prog Try.f108 (g_validGauge_r g)) :=
  @Eq.mpr _ (True ∧ (L.vSpan g.edge (1 : Int) = Bool.true → True) ∧ ((bif L.vSpan g.edge (1 : Int) then L.vSpan g.across (0 : Int) else Bool.false) = Bool.true → True) ∧ (bif bif L.vSpan g.edge (1 : Int) then L.vSpan g.across (0 : Int) else Bool.false then L.within g.bend (-1 : Int) (1 : Int) else Bool.false) = L.vGauge g) (by kernel_rfl) (by
    exact ⟨trivial, fun _ => trivial, fun _ => trivial, rfl⟩)
theorem g_validGauge_ok : SpecOk Try.prog 108 g_validGauge_S := fnX Try.func108 (c := bodyOf Try.f108) (by kernel_rfl) mixed (fun args p r hs hp => by
  unfold g_validGauge_s at hs
  split at hs
  · cases hs; exact ⟨_, _, g_validGauge_vc _ hp, (.same _ .nil), ⟨show SpecsL Try.prog _ from (SpecsL.cons g_validSpan_ok g_validSpan_en (SpecsL.cons g_within_ok g_within_en SpecsL.nil)), rfl, ⟨show ItersL Try.prog _ from ItersL.nil, (TrsOk.none (fun _ => rfl))⟩⟩⟩
  · cases hs)
theorem g_validGauge_en : Enters Try.prog 108 := fun args w => by kernel_rfl
theorem g_validGauge_B : ∀ args p r, g_validGauge_s args = some (p, r) → ∃ b, r = .bool b := by
  intro args p r h
  unfold g_validGauge_s at h
  split at h
  · cases h; exact ⟨_, rfl⟩
  · cases h
def g_validGauges1_p (g : L.Gauge) : Prop := True
def g_validGauges1_r (g : L.Gauge) : SV := .bool (!L.vGauge g)
def g_validGauges1_s : List EV → Option (Prop × SV)
  | [.p (.agg [.int .i64 g_edge_lo, .int .i64 g_edge_hi, .int .i64 g_across_lo, .int .i64 g_across_hi, .int .i64 g_bend])] => some (g_validGauges1_p (⟨(⟨g_edge_lo, g_edge_hi⟩ : L.Span), (⟨g_across_lo, g_across_hi⟩ : L.Span), g_bend⟩ : L.Gauge), g_validGauges1_r (⟨(⟨g_edge_lo, g_edge_hi⟩ : L.Span), (⟨g_across_lo, g_across_hi⟩ : L.Span), g_bend⟩ : L.Gauge))
  | _ => none
abbrev g_validGauges1_S : SE.Spec := (specO g_validGauges1_s)
def g_validGauges1_C : Cfg := { muts := [], frz := lookN [], specs := lookS [(108, g_validGauge_S)], loops := lookL [], iters := lookI [], rfs := lookR [], nils := lookM [] }
theorem g_validGauges1_vc (g : L.Gauge) (hp : g_validGauges1_p g) : vc Try.prog (g_validGauges1_C) (bodyOf Try.f107) (st0 Try.f107 [.p (.agg [.int .i64 g.edge.lo, .int .i64 g.edge.hi, .int .i64 g.across.lo, .int .i64 g.across.hi, .int .i64 g.bend])]) (retFn Try.prog Try.f107 (g_validGauges1_r g)) :=
  @Eq.mpr _ (True ∧ (!L.vGauge g) = !L.vGauge g) (by kernel_rfl) (by
    exact ⟨trivial, rfl⟩)
theorem g_validGauges1_ok : SpecOk Try.prog 107 g_validGauges1_S := fnX Try.func107 (c := bodyOf Try.f107) (by kernel_rfl) mixed (fun args p r hs hp => by
  unfold g_validGauges1_s at hs
  split at hs
  · cases hs; exact ⟨_, _, g_validGauges1_vc _ hp, (.same _ .nil), ⟨show SpecsL Try.prog _ from (SpecsL.cons g_validGauge_ok g_validGauge_en SpecsL.nil), rfl, ⟨show ItersL Try.prog _ from ItersL.nil, (TrsOk.none (fun _ => rfl))⟩⟩⟩
  · cases hs)
theorem g_validGauges1_en : Enters Try.prog 107 := fun args w => by kernel_rfl
theorem g_validGauges1_B : ∀ args p r, g_validGauges1_s args = some (p, r) → ∃ b, r = .bool b := by
  intro args p r h
  unfold g_validGauges1_s at h
  split at h
  · cases h; exact ⟨_, rfl⟩
  · cases h
def g_validGauges_p (l : (L.Sq L.Gauge)) : Prop := l.n ≤ 1000000
def g_validGauges_r (l : (L.Sq L.Gauge)) : SV := .bool (L.gauges l)
def g_validGauges_s : List EV → Option (Prop × SV)
  | [.p (.sl 5 l_n l_g)] => some ((∀ i, i < l_n → l_g i = [.int .i64 ((ofGauge (l_g i)).edge.lo), .int .i64 ((ofGauge (l_g i)).edge.hi), .int .i64 ((ofGauge (l_g i)).across.lo), .int .i64 ((ofGauge (l_g i)).across.hi), .int .i64 ((ofGauge (l_g i)).bend)]) ∧ g_validGauges_p (⟨l_n, fun i => ofGauge (l_g i)⟩ : (L.Sq L.Gauge)), g_validGauges_r (⟨l_n, fun i => ofGauge (l_g i)⟩ : (L.Sq L.Gauge)))
  | _ => none
abbrev g_validGauges_S : SE.Spec := (specO g_validGauges_s)
def g_validGauges_C : Cfg := { muts := [], frz := lookN [], specs := lookS [(52, g_within_S), (106, s_conFG_S), (107, g_validGauges1_S)], loops := lookL [], iters := lookI [], rfs := lookR [], nils := lookM [] }
theorem g_validGauges_vc (l : (L.Sq L.Gauge)) (hp : g_validGauges_p l) : vc Try.prog (g_validGauges_C) (bodyOf Try.f57) (st0 Try.f57 [.p (.sl 5 l.n (fun i => [.int .i64 ((l.g i).edge.lo), .int .i64 ((l.g i).edge.hi), .int .i64 ((l.g i).across.lo), .int .i64 ((l.g i).across.hi), .int .i64 ((l.g i).bend)]))]) (retFn Try.prog Try.f57 (g_validGauges_r l)) :=
  @Eq.mpr _ (True ∧ (L.within (↑l.n : Int) (3 : Int) (24 : Int) = Bool.true → (∀ (i : Nat), i < l.n → [Go.SE.SV.int Go.IntKind.i64 (l.g i).edge.lo, Go.SE.SV.int Go.IntKind.i64 (l.g i).edge.hi, Go.SE.SV.int Go.IntKind.i64 (l.g i).across.lo, Go.SE.SV.int Go.IntKind.i64 (l.g i).across.hi, Go.SE.SV.int Go.IntKind.i64 (l.g i).bend] = [Go.SE.SV.int Go.IntKind.i64 (l.g i).edge.lo, Go.SE.SV.int Go.IntKind.i64 (l.g
 i).edge.hi, Go.SE.SV.int Go.IntKind.i64 (l.g i).across.lo, Go.SE.SV.int Go.IntKind.i64 (l.g i).across.hi, Go.SE.SV.int Go.IntKind.i64 (l.g i).bend]) ∧ Go.SE.isB (Go.SE.FSpec.mk (fun («as» : List Go.SE.SV) ↦ Go.SE.preO g_validGauges1_s (List.map Go.SE.EV.p «as» ++ List.map Go.SE.EV.p [])) fun («as» : List Go.SE.SV) ↦ Go.SE.resO g_validGauges1_s (List.map Go.SE.EV.p «as» ++ List.map Go.SE.EV.p []))
 ∧ l.n ≤ (1000000 : Nat) ∧ ∀ (i : Nat), i < l.n → True) ∧ (bif L.within (↑l.n : Int) (3 : Int) (24 : Int) then !L.anyB l.n fun (i : Nat) ↦ L.fbl (Go.SE.FSpec.mk (fun («as» : List Go.SE.SV) ↦ Go.SE.preO g_validGauges1_s (List.map Go.SE.EV.p «as» ++ List.map Go.SE.EV.p [])) fun («as» : List Go.SE.SV) ↦ Go.SE.resO g_validGauges1_s (List.map Go.SE.EV.p «as» ++ List.map Go.SE.EV.p [])) [Go.SE.SV.agg
 [Go.SE.SV.int Go.IntKind.i64 (l.g i).edge.lo, Go.SE.SV.int Go.IntKind.i64 (l.g i).edge.hi, Go.SE.SV.int Go.IntKind.i64 (l.g i).across.lo, Go.SE.SV.int Go.IntKind.i64 (l.g i).across.hi, Go.SE.SV.int Go.IntKind.i64 (l.g i).bend]] else Bool.false) = L.gauges l) (by kernel_rfl) (by
    refine ⟨trivial, fun _ => ⟨fun _ _ => rfl, isB_of g_validGauges1_B _, hp, fun _ _ => trivial⟩, ?_⟩
    exact congrArg (fun b => bif L.within l.n 3 24 then b else false) (not_any_not (f := fun i => L.vGauge (l.g i))))
theorem g_validGauges_ok : SpecOk Try.prog 57 g_validGauges_S := fnX Try.func57 (c := bodyOf Try.f57) (by kernel_rfl) mixed (fun args p r hs hp => by
  unfold g_validGauges_s at hs
  split at hs
  · cases hs; exact ⟨_, _, g_validGauges_vc _ hp.2, (.p (.sl hp.1) .nil), ⟨show SpecsL Try.prog _ from (SpecsL.cons g_within_ok g_within_en (SpecsL.cons s_conFG_ok s_conFG_en (SpecsL.cons g_validGauges1_ok g_validGauges1_en SpecsL.nil))), rfl, ⟨show ItersL Try.prog _ from ItersL.nil, (TrsOk.none (fun _ => rfl))⟩⟩⟩
  · cases hs)
theorem g_validGauges_en : Enters Try.prog 57 := fun args w => by kernel_rfl
theorem g_validGauges_B : ∀ args p r, g_validGauges_s args = some (p, r) → ∃ b, r = .bool b := by
  intro args p r h
  unfold g_validGauges_s at h
  split at h
  · cases h; exact ⟨_, rfl⟩
  · cases h
def g_validMarks1_p (m : L.Mark) (n : Int) : Prop := -1000000 ≤ n ∧ n ≤ 1000000
def g_validMarks1_r (m : L.Mark) (n : Int) : SV := .bool (L.badMk m n)
def g_validMarks1_s : List EV → Option (Prop × SV)
  | [.p (.agg [.int .i64 m_edge, .int .i64 m_place, .int .i64 m_tone]), .p (.ref [.int .i64 n] 0)] => some (g_validMarks1_p (⟨m_edge, m_place, m_tone⟩ : L.Mark) n, g_validMarks1_r (⟨m_edge, m_place, m_tone⟩ : L.Mark) n)
  | _ => none
abbrev g_validMarks1_S : SE.Spec := (specO g_validMarks1_s)
def g_validMarks1_C : Cfg := { muts := [], frz := lookN [], specs := lookS [(52, g_within_S)], loops := lookL [], iters := lookI [], rfs := lookR [], nils := lookM [] }
theorem g_validMarks1_vc (m : L.Mark) (n : Int) (hp : g_validMarks1_p m n) : vc Try.prog (g_validMarks1_C) (bodyOf Try.f109) (st0 Try.f109 [.p (.agg [.int .i64 m.edge, .int .i64 m.place, .int .i64 m.tone]), .p (.ref [.int .i64 n] 0)]) (retFn Try.prog Try.f109 (g_validMarks1_r m n)) :=
  @Eq.mpr _ (Go.SE.InK Go.IntKind.i64 (n - (1 : Int)) ∧ True ∧ ((!!L.within m.edge (0 : Int) (n - (1 : Int))) = Bool.true → True) ∧ ((!bif !L.within m.edge (0 : Int) (n - (1 : Int)) then Bool.true else !L.within m.place (0 : Int) (16 : Int)) = Bool.true → True) ∧ (bif bif !L.within m.edge (0 : Int) (n - (1 : Int)) then Bool.true else !L.within m.place (0 : Int) (16 : Int) then Bool.true else !L.within m.tone
 (1 : Int) (16 : Int)) = L.badMk m n) (by kernel_rfl) (by
    obtain ⟨h1, h2⟩ := hp
    exact ⟨InK.of (by omega) (by omega), trivial, fun _ => trivial, fun _ => trivial, rfl⟩)
theorem g_validMarks1_ok : SpecOk Try.prog 109 g_validMarks1_S := fnX Try.func109 (c := bodyOf Try.f109) (by kernel_rfl) mixed (fun args p r hs hp => by
  unfold g_validMarks1_s at hs
  split at hs
  · cases hs; exact ⟨_, _, g_validMarks1_vc _ _ hp, (.same _ (.same _ .nil)), ⟨show SpecsL Try.prog _ from (SpecsL.cons g_within_ok g_within_en SpecsL.nil), rfl, ⟨show ItersL Try.prog _ from ItersL.nil, (TrsOk.none (fun _ => rfl))⟩⟩⟩
  · cases hs)
theorem g_validMarks1_en : Enters Try.prog 109 := fun args w => by kernel_rfl
theorem g_validMarks1_B : ∀ args p r, g_validMarks1_s args = some (p, r) → ∃ b, r = .bool b := by
  intro args p r h
  unfold g_validMarks1_s at h
  split at h
  · cases h; exact ⟨_, rfl⟩
  · cases h
def g_validMarks_p (l : (L.Sq L.Mark)) (n : Int) : Prop := l.n ≤ 1000000 ∧ -1000000 ≤ n ∧ n ≤ 1000000
def g_validMarks_r (l : (L.Sq L.Mark)) (n : Int) : SV := .bool (L.vMarks l n)
def g_validMarks_s : List EV → Option (Prop × SV)
  | [.p (.sl 3 l_n l_g), .p (.int .i64 n)] => some ((∀ i, i < l_n → l_g i = [.int .i64 ((ofMark (l_g i)).edge), .int .i64 ((ofMark (l_g i)).place), .int .i64 ((ofMark (l_g i)).tone)]) ∧ g_validMarks_p (⟨l_n, fun i => ofMark (l_g i)⟩ : (L.Sq L.Mark)) n, g_validMarks_r (⟨l_n, fun i => ofMark (l_g i)⟩ : (L.Sq L.Mark)) n)
  | _ => none
abbrev g_validMarks_S : SE.Spec := (specO g_validMarks_s)
def g_validMarks_C : Cfg := { muts := [], frz := lookN [], specs := lookS [(102, g_risingM_S), (103, g_cmpMarks_S), (104, s_conFM_S), (109, g_validMarks1_S)], loops := lookL [], iters := lookI [], rfs := lookR [], nils := lookM [] }
theorem g_validMarks_vc (l : (L.Sq L.Mark)) (n : Int) (hp : g_validMarks_p l n) : vc Try.prog (g_validMarks_C) (bodyOf Try.f58) (st0 Try.f58 [.p (.sl 3 l.n (fun i => [.int .i64 ((l.g i).edge), .int .i64 ((l.g i).place), .int .i64 ((l.g i).tone)])), .p (.int .i64 n)]) (retFn Try.prog Try.f58 (g_validMarks_r l n)) :=
  @Eq.mpr _ ((Decidable.decide ((↑l.n : Int) ≤ (32 : Int)) = Bool.true → (∀ (i : Nat), i < l.n → [Go.SE.SV.int Go.IntKind.i64 (l.g i).edge, Go.SE.SV.int Go.IntKind.i64 (l.g i).place, Go.SE.SV.int Go.IntKind.i64 (l.g i).tone] = [Go.SE.SV.int Go.IntKind.i64 (l.g i).edge, Go.SE.SV.int Go.IntKind.i64 (l.g i).place, Go.SE.SV.int Go.IntKind.i64 (l.g i).tone]) ∧ Go.SE.isI (Go.SE.FSpec.mk (fun («as» : List Go.SE.SV) ↦
 Go.SE.preO g_cmpMarks_s (List.map Go.SE.EV.p «as» ++ List.map Go.SE.EV.p [])) fun («as» : List Go.SE.SV) ↦ Go.SE.resO g_cmpMarks_s (List.map Go.SE.EV.p «as» ++ List.map Go.SE.EV.p [])) ∧ l.n ≤ (1000000 : Nat) ∧ ∀ (i : Nat), i + (1 : Nat) < l.n → True) ∧ ((bif Decidable.decide ((↑l.n : Int) ≤ (32 : Int)) then L.rise l.n fun (i : Nat) ↦ L.fil (Go.SE.FSpec.mk (fun («as» : List Go.SE.SV) ↦ Go.SE.preO
 g_cmpMarks_s (List.map Go.SE.EV.p «as» ++ List.map Go.SE.EV.p [])) fun («as» : List Go.SE.SV) ↦ Go.SE.resO g_cmpMarks_s (List.map Go.SE.EV.p «as» ++ List.map Go.SE.EV.p [])) [Go.SE.SV.agg [Go.SE.SV.int Go.IntKind.i64 (l.g (i - (1 : Nat))).edge, Go.SE.SV.int Go.IntKind.i64 (l.g (i - (1 : Nat))).place, Go.SE.SV.int Go.IntKind.i64 (l.g (i - (1 : Nat))).tone], Go.SE.SV.agg [Go.SE.SV.int Go.IntKind.i64
 (l.g i).edge, Go.SE.SV.int Go.IntKind.i64 (l.g i).place, Go.SE.SV.int Go.IntKind.i64 (l.g i).tone]] else Bool.false) = Bool.true → (∀ (i : Nat), i < l.n → [Go.SE.SV.int Go.IntKind.i64 (l.g i).edge, Go.SE.SV.int Go.IntKind.i64 (l.g i).place, Go.SE.SV.int Go.IntKind.i64 (l.g i).tone] = [Go.SE.SV.int Go.IntKind.i64 (l.g i).edge, Go.SE.SV.int Go.IntKind.i64 (l.g i).place, Go.SE.SV.int Go.IntKind.i64
 (l.g i).tone]) ∧ Go.SE.isB (Go.SE.FSpec.mk (fun («as» : List Go.SE.SV) ↦ Go.SE.preO g_validMarks1_s (List.map Go.SE.EV.p «as» ++ List.map Go.SE.EV.p [Go.SE.SV.ref [Go.SE.SV.int Go.IntKind.i64 n] (nat_lit 0)])) fun («as» : List Go.SE.SV) ↦ Go.SE.resO g_validMarks1_s (List.map Go.SE.EV.p «as» ++ List.map Go.SE.EV.p [Go.SE.SV.ref [Go.SE.SV.int Go.IntKind.i64 n] (nat_lit 0)])) ∧ l.n ≤ (1000000 : Nat)
 ∧ ∀ (i : Nat), i < l.n → (-1000000 : Int) ≤ n ∧ n ≤ (1000000 : Int)) ∧ (bif bif Decidable.decide ((↑l.n : Int) ≤ (32 : Int)) then L.rise l.n fun (i : Nat) ↦ L.fil (Go.SE.FSpec.mk (fun («as» : List Go.SE.SV) ↦ Go.SE.preO g_cmpMarks_s (List.map Go.SE.EV.p «as» ++ List.map Go.SE.EV.p [])) fun («as» : List Go.SE.SV) ↦ Go.SE.resO g_cmpMarks_s (List.map Go.SE.EV.p «as» ++ List.map Go.SE.EV.p []))
 [Go.SE.SV.agg [Go.SE.SV.int Go.IntKind.i64 (l.g (i - (1 : Nat))).edge, Go.SE.SV.int Go.IntKind.i64 (l.g (i - (1 : Nat))).place, Go.SE.SV.int Go.IntKind.i64 (l.g (i - (1 : Nat))).tone], Go.SE.SV.agg [Go.SE.SV.int Go.IntKind.i64 (l.g i).edge, Go.SE.SV.int Go.IntKind.i64 (l.g i).place, Go.SE.SV.int Go.IntKind.i64 (l.g i).tone]] else Bool.false then !L.anyB l.n fun (i : Nat) ↦ L.fbl (Go.SE.FSpec.mk
 (fun («as» : List Go.SE.SV) ↦ Go.SE.preO g_validMarks1_s (List.map Go.SE.EV.p «as» ++ List.map Go.SE.EV.p [Go.SE.SV.ref [Go.SE.SV.int Go.IntKind.i64 n] (nat_lit 0)])) fun («as» : List Go.SE.SV) ↦ Go.SE.resO g_validMarks1_s (List.map Go.SE.EV.p «as» ++ List.map Go.SE.EV.p [Go.SE.SV.ref [Go.SE.SV.int Go.IntKind.i64 n] (nat_lit 0)])) [Go.SE.SV.agg [Go.SE.SV.int Go.IntKind.i64 (l.g i).edge,
 Go.SE.SV.int Go.IntKind.i64 (l.g i).place, Go.SE.SV.int Go.IntKind.i64 (l.g i).tone]] else Bool.false) = L.vMarks l n) (by kernel_rfl) (by
    obtain ⟨h1, h2⟩ := hp
    exact ⟨fun _ => ⟨fun _ _ => rfl, isI_of g_cmpMarks_I _, h1, fun _ _ => trivial⟩, fun _ => ⟨fun _ _ => rfl, isB_of g_validMarks1_B _, h1, fun _ _ => h2⟩, vMarks_eq⟩)
theorem g_validMarks_ok : SpecOk Try.prog 58 g_validMarks_S := fnX Try.func58 (c := bodyOf Try.f58) (by kernel_rfl) mixed (fun args p r hs hp => by
  unfold g_validMarks_s at hs
  split at hs
  · cases hs; exact ⟨_, _, g_validMarks_vc _ _ hp.2, (.p (.sl hp.1) (.same _ .nil)), ⟨show SpecsL Try.prog _ from (SpecsL.cons g_risingM_ok g_risingM_en (SpecsL.cons g_cmpMarks_ok g_cmpMarks_en (SpecsL.cons s_conFM_ok s_conFM_en (SpecsL.cons g_validMarks1_ok g_validMarks1_en SpecsL.nil)))), rfl, ⟨show ItersL Try.prog _ from ItersL.nil, (TrsOk.none (fun _ => rfl))⟩⟩⟩
  · cases hs)
theorem g_validMarks_en : Enters Try.prog 58 := fun args w => by kernel_rfl
theorem g_validMarks_B : ∀ args p r, g_validMarks_s args = some (p, r) → ∃ b, r = .bool b := by
  intro args p r h
  unfold g_validMarks_s at h
  split at h
  · cases h; exact ⟨_, rfl⟩
  · cases h
def g_ValidPiece_p (p : L.Piece) : Prop := p.gauges.n ≤ 1000000 ∧ p.marks.n ≤ 1000000
def g_ValidPiece_r (p : L.Piece) : SV := .bool (L.validPiece p)
def g_ValidPiece_s : List EV → Option (Prop × SV)
  | [.p (.agg [.int .i64 p_id, .int .i64 p_colour, .int .i64 p_rev, .int .i64 p_made, .int .i64 p_swell, .sl 5 p_gauges_n p_gauges_g, .sl 3 p_marks_n p_marks_g])] => some ((∀ i, i < p_gauges_n → p_gauges_g i = [.int .i64 ((ofGauge (p_gauges_g i)).edge.lo), .int .i64 ((ofGauge (p_gauges_g i)).edge.hi), .int .i64 ((ofGauge (p_gauges_g i)).across.lo), .int .i64 ((ofGauge (p_gauges_g i)).across.hi), .int .i64 ((ofGauge (p_gauges_g i)).bend)]) ∧ (∀ i, i < p_marks_n → p_marks_g i = [.int .i64 ((ofMark (p_marks_g i)).edge), .int .i64 ((ofMark (p_marks_g i)).place), .int .i64 ((ofMark (p_marks_g i)).tone)]) ∧ g_ValidPiece_p (⟨p_id, p_colour, p_rev, p_made, p_swell, (⟨p_gauges_n, fun i => ofGauge (p_gauges_g i)⟩ : (L.Sq L.Gauge)), (⟨p_marks_n, fun i => ofMark (p_marks_g i)⟩ : (L.Sq L.Mark))⟩ : L.Piece), g_ValidPiece_r (⟨p_id, p_colour, p_rev, p_made, p_swell, (⟨p_gauges_n, fun i => ofGauge (p_gauges_g i)⟩ : (L.Sq L.Gauge)), (⟨p_marks_n, fun i => ofMark (p_marks_g i)⟩ : (L.Sq L.Mark))⟩ : L.Piece))
  | _ => none
abbrev g_ValidPiece_S : SE.Spec := (specO g_ValidPiece_s)
def g_ValidPiece_C : Cfg := { muts := [], frz := lookN [], specs := lookS [(52, g_within_S), (57, g_validGauges_S), (58, g_validMarks_S)], loops := lookL [], iters := lookI [], rfs := lookR [], nils := lookM [] }
theorem g_ValidPiece_vc (p : L.Piece) (hp : g_ValidPiece_p p) : vc Try.prog (g_ValidPiece_C) (bodyOf Try.f15) (st0 Try.f15 [.p (.agg [.int .i64 p.id, .int .i64 p.colour, .int .i64 p.rev, .int .i64 p.made, .int .i64 p.swell, .sl 5 p.gauges.n (fun i => [.int .i64 ((p.gauges.g i).edge.lo), .int .i64 ((p.gauges.g i).edge.hi), .int .i64 ((p.gauges.g i).across.lo), .int .i64 ((p.gauges.g i).across.hi), .int .i64 ((p.gauges.g i).bend)]), .sl 3 p.marks.n (fun i => [.int .i64 ((p.marks.g i).edge), .int .i64 ((p.marks.g i).place), .int .i64 ((p.marks.g i).tone)])])]) (retFn Try.prog Try.f15 (g_ValidPiece_r p)) :=
  @Eq.mpr _ (True ∧ (L.within p.id (1 : Int) (65535 : Int) = Bool.true → True) ∧ ((bif L.within p.id (1 : Int) (65535 : Int) then L.within p.colour (1 : Int) (16 : Int) else Bool.false) = Bool.true → True) ∧ ((bif bif L.within p.id (1 : Int) (65535 : Int) then L.within p.colour (1 : Int) (16 : Int) else Bool.false then L.within p.rev (1 : Int) (16 : Int) else Bool.false) = Bool.true → True) ∧ ((bif bif bif
 L.within p.id (1 : Int) (65535 : Int) then L.within p.colour (1 : Int) (16 : Int) else Bool.false then L.within p.rev (1 : Int) (16 : Int) else Bool.false then L.within p.made (0 : Int) (9999 : Int) else Bool.false) = Bool.true → True) ∧ ((bif bif bif bif L.within p.id (1 : Int) (65535 : Int) then L.within p.colour (1 : Int) (16 : Int) else Bool.false then L.within p.rev (1 : Int) (16 : Int) else
 Bool.false then L.within p.made (0 : Int) (9999 : Int) else Bool.false then L.within p.swell (-64 : Int) (64 : Int) else Bool.false) = Bool.true → (∀ (i : Nat), i < p.gauges.n → [Go.SE.SV.int Go.IntKind.i64 (p.gauges.g i).edge.lo, Go.SE.SV.int Go.IntKind.i64 (p.gauges.g i).edge.hi, Go.SE.SV.int Go.IntKind.i64 (p.gauges.g i).across.lo, Go.SE.SV.int Go.IntKind.i64 (p.gauges.g i).across.hi,
 Go.SE.SV.int Go.IntKind.i64 (p.gauges.g i).bend] = [Go.SE.SV.int Go.IntKind.i64 (p.gauges.g i).edge.lo, Go.SE.SV.int Go.IntKind.i64 (p.gauges.g i).edge.hi, Go.SE.SV.int Go.IntKind.i64 (p.gauges.g i).across.lo, Go.SE.SV.int Go.IntKind.i64 (p.gauges.g i).across.hi, Go.SE.SV.int Go.IntKind.i64 (p.gauges.g i).bend]) ∧ p.gauges.n ≤ (1000000 : Nat)) ∧ ((bif bif bif bif bif L.within p.id (1 : Int) (65535
 : Int) then L.within p.colour (1 : Int) (16 : Int) else Bool.false then L.within p.rev (1 : Int) (16 : Int) else Bool.false then L.within p.made (0 : Int) (9999 : Int) else Bool.false then L.within p.swell (-64 : Int) (64 : Int) else Bool.false then L.gauges (L.Sq.mk p.gauges.n fun (i : Nat) ↦ p.gauges.g i) else Bool.false) = Bool.true → (∀ (i : Nat), i < p.marks.n → [Go.SE.SV.int Go.IntKind.i64
 (p.marks.g i).edge, Go.SE.SV.int Go.IntKind.i64 (p.marks.g i).place, Go.SE.SV.int Go.IntKind.i64 (p.marks.g i).tone] = [Go.SE.SV.int Go.IntKind.i64 (p.marks.g i).edge, Go.SE.SV.int Go.IntKind.i64 (p.marks.g i).place, Go.SE.SV.int Go.IntKind.i64 (p.marks.g i).tone]) ∧ p.marks.n ≤ (1000000 : Nat) ∧ (-1000000 : Int) ≤ (↑p.gauges.n : Int) ∧ (↑p.gauges.n : Int) ≤ (1000000 : Int)) ∧ (bif bif bif bif bif
 bif L.within p.id (1 : Int) (65535 : Int) then L.within p.colour (1 : Int) (16 : Int) else Bool.false then L.within p.rev (1 : Int) (16 : Int) else Bool.false then L.within p.made (0 : Int) (9999 : Int) else Bool.false then L.within p.swell (-64 : Int) (64 : Int) else Bool.false then L.gauges (L.Sq.mk p.gauges.n fun (i : Nat) ↦ p.gauges.g i) else Bool.false then L.vMarks (L.Sq.mk p.marks.n fun (i
 : Nat) ↦ p.marks.g i) (↑p.gauges.n : Int) else Bool.false) = L.validPiece p) (by kernel_rfl) (by
    obtain ⟨h1, h2⟩ := hp
    exact ⟨trivial, fun _ => trivial, fun _ => trivial, fun _ => trivial, fun _ => trivial, fun _ => ⟨fun _ _ => rfl, h1⟩, fun _ => ⟨fun _ _ => rfl, h2, by omega, by omega⟩, rfl⟩)
theorem g_ValidPiece_ok : SpecOk Try.prog 15 g_ValidPiece_S := fnX Try.func15 (c := bodyOf Try.f15) (by kernel_rfl) mixed (fun args p r hs hp => by
  unfold g_ValidPiece_s at hs
  split at hs
  · cases hs; exact ⟨_, _, g_ValidPiece_vc _ hp.2.2, (.p (.agg rfl (fun i hi => by
      rcases i with _ | i
      · exact (Ext.refl _ : Ext _ _)
      rcases i with _ | i
      · exact (Ext.refl _ : Ext _ _)
      rcases i with _ | i
      · exact (Ext.refl _ : Ext _ _)
      rcases i with _ | i
      · exact (Ext.refl _ : Ext _ _)
      rcases i with _ | i
      · exact (Ext.refl _ : Ext _ _)
      rcases i with _ | i
      · exact (Ext.sl hp.1 : Ext _ _)
      rcases i with _ | i
      · exact (Ext.sl hp.2.1 : Ext _ _)
      exact absurd hi (by simp; try omega))) .nil), ⟨show SpecsL Try.prog _ from (SpecsL.cons g_within_ok g_within_en (SpecsL.cons g_validGauges_ok g_validGauges_en (SpecsL.cons g_validMarks_ok g_validMarks_en SpecsL.nil))), rfl, ⟨show ItersL Try.prog _ from ItersL.nil, (TrsOk.none (fun _ => rfl))⟩⟩⟩
  · cases hs)
theorem g_ValidPiece_en : Enters Try.prog 15 := fun args w => by kernel_rfl
theorem g_ValidPiece_B : ∀ args p r, g_ValidPiece_s args = some (p, r) → ∃ b, r = .bool b := by
  intro args p r h
  unfold g_ValidPiece_s at h
  split at h
  · cases h; exact ⟨_, rfl⟩
  · cases h
def g_ValidFilm1_p (n : Int) : Prop := True
def g_ValidFilm1_r (n : Int) : SV := .bool (!L.within n 0 255)
def g_ValidFilm1_s : List EV → Option (Prop × SV)
  | [.p (.int .i64 n)] => some (g_ValidFilm1_p n, g_ValidFilm1_r n)
  | _ => none
abbrev g_ValidFilm1_S : SE.Spec := (specO g_ValidFilm1_s)
def g_ValidFilm1_C : Cfg := { muts := [], frz := lookN [], specs := lookS [(52, g_within_S)], loops := lookL [], iters := lookI [], rfs := lookR [], nils := lookM [] }
theorem g_ValidFilm1_vc (n : Int) (hp : g_ValidFilm1_p n) : vc Try.prog (g_ValidFilm1_C) (bodyOf Try.f63) (st0 Try.f63 [.p (.int .i64 n)]) (retFn Try.prog Try.f63 (g_ValidFilm1_r n)) :=
  @Eq.mpr _ (True ∧ (!L.within n (0 : Int) (255 : Int)) = !L.within n (0 : Int) (255 : Int)) (by kernel_rfl) (by
    exact ⟨trivial, rfl⟩)
theorem g_ValidFilm1_ok : SpecOk Try.prog 63 g_ValidFilm1_S := fnX Try.func63 (c := bodyOf Try.f63) (by kernel_rfl) mixed (fun args p r hs hp => by
  unfold g_ValidFilm1_s at hs
  split at hs
  · cases hs; exact ⟨_, _, g_ValidFilm1_vc _ hp, (.same _ .nil), ⟨show SpecsL Try.prog _ from (SpecsL.cons g_within_ok g_within_en SpecsL.nil), rfl, ⟨show ItersL Try.prog _ from ItersL.nil, (TrsOk.none (fun _ => rfl))⟩⟩⟩
  · cases hs)
theorem g_ValidFilm1_en : Enters Try.prog 63 := fun args w => by kernel_rfl
theorem g_ValidFilm1_B : ∀ args p r, g_ValidFilm1_s args = some (p, r) → ∃ b, r = .bool b := by
  intro args p r h
  unfold g_ValidFilm1_s at h
  split at h
  · cases h; exact ⟨_, rfl⟩
  · cases h
def g_ValidFilm_p (f : L.Film) : Prop := f.grey.n ≤ 1000000
def g_ValidFilm_r (f : L.Film) : SV := .bool (L.validFilm f)
def g_ValidFilm_s : List EV → Option (Prop × SV)
  | [.p (.agg [.int .i64 f_id, .sl 1 f_grey_n f_grey_g])] => some ((∀ i, i < f_grey_n → f_grey_g i = [.int .i64 ((intOf (f_grey_g i)))]) ∧ g_ValidFilm_p (⟨f_id, (⟨f_grey_n, fun i => intOf (f_grey_g i)⟩ : (L.Sq Int))⟩ : L.Film), g_ValidFilm_r (⟨f_id, (⟨f_grey_n, fun i => intOf (f_grey_g i)⟩ : (L.Sq Int))⟩ : L.Film))
  | _ => none
abbrev g_ValidFilm_S : SE.Spec := (specO g_ValidFilm_s)
def g_ValidFilm_C : Cfg := { muts := [], frz := lookN [], specs := lookS [(52, g_within_S), (62, s_conFI_S), (63, g_ValidFilm1_S)], loops := lookL [], iters := lookI [], rfs := lookR [], nils := lookM [] }
theorem g_ValidFilm_vc (f : L.Film) (hp : g_ValidFilm_p f) : vc Try.prog (g_ValidFilm_C) (bodyOf Try.f17) (st0 Try.f17 [.p (.agg [.int .i64 f.id, .sl 1 f.grey.n (fun i => [.int .i64 ((f.grey.g i))])])]) (retFn Try.prog Try.f17 (g_ValidFilm_r f)) :=
  @Eq.mpr _ (True ∧ (L.within f.id (1 : Int) (65535 : Int) = Bool.true → True) ∧ ((bif L.within f.id (1 : Int) (65535 : Int) then L.within (↑f.grey.n : Int) (1 : Int) (16 : Int) else Bool.false) = Bool.true → (∀ (i : Nat), i < f.grey.n → [Go.SE.SV.int Go.IntKind.i64 (f.grey.g i)] = [Go.SE.SV.int Go.IntKind.i64 (f.grey.g i)]) ∧ Go.SE.isB (Go.SE.FSpec.mk (fun («as» : List Go.SE.SV) ↦ Go.SE.preO g_ValidFilm1_s
 (List.map Go.SE.EV.p «as» ++ List.map Go.SE.EV.p [])) fun («as» : List Go.SE.SV) ↦ Go.SE.resO g_ValidFilm1_s (List.map Go.SE.EV.p «as» ++ List.map Go.SE.EV.p [])) ∧ f.grey.n ≤ (1000000 : Nat) ∧ ∀ (i : Nat), i < f.grey.n → True) ∧ (bif bif L.within f.id (1 : Int) (65535 : Int) then L.within (↑f.grey.n : Int) (1 : Int) (16 : Int) else Bool.false then !L.anyB f.grey.n fun (i : Nat) ↦ L.fbl
 (Go.SE.FSpec.mk (fun («as» : List Go.SE.SV) ↦ Go.SE.preO g_ValidFilm1_s (List.map Go.SE.EV.p «as» ++ List.map Go.SE.EV.p [])) fun («as» : List Go.SE.SV) ↦ Go.SE.resO g_ValidFilm1_s (List.map Go.SE.EV.p «as» ++ List.map Go.SE.EV.p [])) [Go.SE.SV.int Go.IntKind.i64 (f.grey.g i)] else Bool.false) = L.validFilm f) (by kernel_rfl) (by
    refine ⟨trivial, fun _ => trivial, fun _ => ⟨fun _ _ => rfl, isB_of g_ValidFilm1_B _, hp, fun _ _ => trivial⟩, ?_⟩
    exact congrArg (fun b => bif (bif L.within f.id 1 65535 then L.within f.grey.n 1 16 else false) then b else false) (not_any_not (f := fun i => L.within (f.grey.g i) 0 255)))
theorem g_ValidFilm_ok : SpecOk Try.prog 17 g_ValidFilm_S := fnX Try.func17 (c := bodyOf Try.f17) (by kernel_rfl) mixed (fun args p r hs hp => by
  unfold g_ValidFilm_s at hs
  split at hs
  · cases hs; exact ⟨_, _, g_ValidFilm_vc _ hp.2, (.p (.agg rfl (fun i hi => by
      rcases i with _ | i
      · exact (Ext.refl _ : Ext _ _)
      rcases i with _ | i
      · exact (Ext.sl hp.1 : Ext _ _)
      exact absurd hi (by simp; try omega))) .nil), ⟨show SpecsL Try.prog _ from (SpecsL.cons g_within_ok g_within_en (SpecsL.cons s_conFI_ok s_conFI_en (SpecsL.cons g_ValidFilm1_ok g_ValidFilm1_en SpecsL.nil))), rfl, ⟨show ItersL Try.prog _ from ItersL.nil, (TrsOk.none (fun _ => rfl))⟩⟩⟩
  · cases hs)
theorem g_ValidFilm_en : Enters Try.prog 17 := fun args w => by kernel_rfl
theorem g_ValidFilm_B : ∀ args p r, g_ValidFilm_s args = some (p, r) → ∃ b, r = .bool b := by
  intro args p r h
  unfold g_ValidFilm_s at h
  split at h
  · cases h; exact ⟨_, rfl⟩
  · cases h
def r3_ValidGauge_p (g : L.Gauge) : Prop := True
def r3_ValidGauge_r (g : L.Gauge) : SV := .bool (L.vGauge g)
def r3_ValidGauge_s : List EV → Option (Prop × SV)
  | [.p (.agg [.int .i64 g_edge_lo, .int .i64 g_edge_hi, .int .i64 g_across_lo, .int .i64 g_across_hi, .int .i64 g_bend])] => some (r3_ValidGauge_p (⟨(⟨g_edge_lo, g_edge_hi⟩ : L.Span), (⟨g_across_lo, g_across_hi⟩ : L.Span), g_bend⟩ : L.Gauge), r3_ValidGauge_r (⟨(⟨g_edge_lo, g_edge_hi⟩ : L.Span), (⟨g_across_lo, g_across_hi⟩ : L.Span), g_bend⟩ : L.Gauge))
  | _ => none
abbrev r3_ValidGauge_S : SE.Spec := (specO r3_ValidGauge_s)
def r3_ValidGauge_C : Cfg := { muts := [], frz := lookN [], specs := lookS [(59, r3_within_S)], loops := lookL [], iters := lookI [], rfs := lookR [], nils := lookM [] }
theorem r3_ValidGauge_vc (g : L.Gauge) (hp : r3_ValidGauge_p g) : vc Try.prog (r3_ValidGauge_C) (bodyOf Try.f110) (st0 Try.f110 [.p (.agg [.int .i64 g.edge.lo, .int .i64 g.edge.hi, .int .i64 g.across.lo, .int .i64 g.across.hi, .int .i64 g.bend])]) (retFn Try.prog Try.f110 (r3_ValidGauge_r g)) :=
  @Eq.mpr _ (((bif bif bif bif bif Decidable.decide ((0 : Int) < g.edge.lo) then Decidable.decide (g.edge.lo ≤ g.edge.hi) else Bool.false then Decidable.decide (g.edge.hi ≤ (33554432 : Int)) else Bool.false then Decidable.decide ((0 : Int) ≤ g.across.lo) else Bool.false then Decidable.decide (g.across.lo ≤ g.across.hi) else Bool.false then Decidable.decide (g.across.hi ≤ (33554432 : Int)) else Bool.false) =
 Bool.true → True) ∧ (bif bif bif bif bif bif Decidable.decide ((0 : Int) < g.edge.lo) then Decidable.decide (g.edge.lo ≤ g.edge.hi) else Bool.false then Decidable.decide (g.edge.hi ≤ (33554432 : Int)) else Bool.false then Decidable.decide ((0 : Int) ≤ g.across.lo) else Bool.false then Decidable.decide (g.across.lo ≤ g.across.hi) else Bool.false then Decidable.decide (g.across.hi ≤ (33554432 :
 Int)) else Bool.false then L.within g.bend (-1 : Int) (1 : Int) else Bool.false) = L.vGauge g) (by kernel_rfl) (by
    refine ⟨fun _ => trivial, ?_⟩
    rw [Bool.eq_iff_iff]
    simp only [band, L.vGauge, L.vSpan, Bool.and_eq_true, decide_eq_true_eq]
    grind)
theorem r3_ValidGauge_ok : SpecOk Try.prog 110 r3_ValidGauge_S := fnX Try.func110 (c := bodyOf Try.f110) (by kernel_rfl) mixed (fun args p r hs hp => by
  unfold r3_ValidGauge_s at hs
  split at hs
  · cases hs; exact ⟨_, _, r3_ValidGauge_vc _ hp, (.same _ .nil), ⟨show SpecsL Try.prog _ from (SpecsL.cons r3_within_ok r3_within_en SpecsL.nil), rfl, ⟨show ItersL Try.prog _ from ItersL.nil, (TrsOk.none (fun _ => rfl))⟩⟩⟩
  · cases hs)
theorem r3_ValidGauge_en : Enters Try.prog 110 := fun args w => by kernel_rfl
theorem r3_ValidGauge_B : ∀ args p r, r3_ValidGauge_s args = some (p, r) → ∃ b, r = .bool b := by
  intro args p r h
  unfold r3_ValidGauge_s at h
  split at h
  · cases h; exact ⟨_, rfl⟩
  · cases h
def r3_gauges_p (l : (L.Sq L.Gauge)) : Prop := l.n ≤ 1000000
def r3_gauges_r (l : (L.Sq L.Gauge)) : SV := .bool (L.gauges l)
def r3_gauges_s : List EV → Option (Prop × SV)
  | [.p (.sl 5 l_n l_g)] => some ((∀ i, i < l_n → l_g i = [.int .i64 ((ofGauge (l_g i)).edge.lo), .int .i64 ((ofGauge (l_g i)).edge.hi), .int .i64 ((ofGauge (l_g i)).across.lo), .int .i64 ((ofGauge (l_g i)).across.hi), .int .i64 ((ofGauge (l_g i)).bend)]) ∧ r3_gauges_p (⟨l_n, fun i => ofGauge (l_g i)⟩ : (L.Sq L.Gauge)), r3_gauges_r (⟨l_n, fun i => ofGauge (l_g i)⟩ : (L.Sq L.Gauge)))
  | _ => none
abbrev r3_gauges_S : SE.Spec := (specO r3_gauges_s)
def r3_gauges_C : Cfg := { muts := [], frz := lookN [], specs := lookS [(110, r3_ValidGauge_S)], loops := fun _ => none, iters := lookI [], rfs := lookR [], nils := lookM [] }
theorem r3_gauges_vc (l : (L.Sq L.Gauge)) (hp : r3_gauges_p l) : vc Try.prog ({ r3_gauges_C with loops := lookL [(4, { T := Nat, keep := [0], keepO := [], chg := fun i => [(3, .p (.int .i64 (i : Int)))], own := fun _ => [], inv := fun i => i ≤ l.n ∧ ∀ j, j < i → L.vGauge (l.g j) = true, mu := fun i => l.n - i })], rfs := lookR [] }) (bodyOf Try.f60) (st0 Try.f60 [.p (.sl 5 l.n (fun i => [.int .i64 ((l.g i).edge.lo), .int .i64 ((l.g i).edge.hi), .int .i64 ((l.g i).across.lo), .int .i64 ((l.g i).across.hi), .int .i64 ((l.g i).bend)]))]) (retFn Try.prog Try.f60 (r3_gauges_r l)) :=
  @Eq.mpr _ (((bif Decidable.decide ((↑l.n : Int) < (3 : Int)) then Bool.true else Decidable.decide ((24 : Int) < (↑l.n : Int))) = Bool.true → Bool.false = L.gauges l) ∧ ((bif Decidable.decide ((↑l.n : Int) < (3 : Int)) then Bool.true else Decidable.decide ((24 : Int) < (↑l.n : Int))) = Bool.false → (∃ (g : Nat), (0 : Int) = (↑g : Int) ∧ g ≤ l.n ∧ ∀ (j : Nat), j < g → L.vGauge (l.g j) = Bool.true) ∧ ∀ (g :
 Nat), (g ≤ l.n ∧ ∀ (j : Nat), j < g → L.vGauge (l.g j) = Bool.true) → (Decidable.decide ((↑g : Int) < (↑l.n : Int)) = Bool.true → ((0 : Int) ≤ (↑g : Int) ∧ (↑g : Int) < (↑l.n : Int)) ∧ True ∧ ((!L.vGauge (l.g (Int.toNat (↑g : Int)))) = Bool.true → Bool.false = L.gauges l) ∧ ((!L.vGauge (l.g (Int.toNat (↑g : Int)))) = Bool.false → Go.SE.InK Go.IntKind.i64 ((↑g : Int) + (1 : Int)) ∧ ∃ (g' : Nat),
 (↑g : Int) + (1 : Int) = (↑g' : Int) ∧ (l.n = l.n ∧ ∀ (i : Nat), i < l.n → [Go.SE.SV.int Go.IntKind.i64 (l.g i).edge.lo, Go.SE.SV.int Go.IntKind.i64 (l.g i).edge.hi, Go.SE.SV.int Go.IntKind.i64 (l.g i).across.lo, Go.SE.SV.int Go.IntKind.i64 (l.g i).across.hi, Go.SE.SV.int Go.IntKind.i64 (l.g i).bend] = [Go.SE.SV.int Go.IntKind.i64 (l.g i).edge.lo, Go.SE.SV.int Go.IntKind.i64 (l.g i).edge.hi,
 Go.SE.SV.int Go.IntKind.i64 (l.g i).across.lo, Go.SE.SV.int Go.IntKind.i64 (l.g i).across.hi, Go.SE.SV.int Go.IntKind.i64 (l.g i).bend]) ∧ (g' ≤ l.n ∧ ∀ (j : Nat), j < g' → L.vGauge (l.g j) = Bool.true) ∧ l.n - g' < l.n - g)) ∧ (Decidable.decide ((↑g : Int) < (↑l.n : Int)) = Bool.false → Bool.true = L.gauges l))) (by kernel_rfl) (by
    have hn : l.n ≤ 1000000 := hp
    refine ⟨fun h => ?_, fun h => ⟨⟨(0 : Nat), rfl, Nat.zero_le _, fun j hj => absurd hj (Nat.not_lt_zero _)⟩, fun g hg => ⟨fun hlt => ?_, fun hge => ?_⟩⟩⟩
    · have : L.within l.n 3 24 = false := by
        rw [Bool.eq_false_iff, Ne, within_iff]; simp only [bor, Bool.or_eq_true, decide_eq_true_eq] at h; omega
      unfold L.gauges; rw [this]; rfl
    · have hb : (g : Int) < (l.n : Int) := of_decide_eq_true hlt
      have e0 : ((g : Int)).toNat = g := by omega
      rw [e0]
      refine ⟨by omega, trivial, fun h => ?_, fun h => ?_⟩
      · have h : L.vGauge (l.g g) = false := by simpa using h
        unfold L.gauges
        rw [allB_false (i := g) (by omega) h]
        cases L.within l.n 3 24 <;> rfl
      · have h : L.vGauge (l.g g) = true := by simpa using h
        exact ⟨InK.of (by omega) (by omega), g + 1, by omega, ⟨rfl, fun _ _ => rfl⟩, ⟨by omega, fun j hj => by
          rcases Nat.lt_succ_iff_lt_or_eq.1 hj with h' | rfl
          · exact hg.2 j h'
          · exact h⟩, by omega⟩
    · have hb : ¬ (g : Int) < (l.n : Int) := of_decide_eq_false hge
      have : L.within l.n 3 24 = true := by
        rw [within_iff]; simp only [bor, Bool.or_eq_false_iff, decide_eq_false_iff_not] at h; omega
      unfold L.gauges
      rw [this, allB_iff.2 (fun i hi => hg.2 i (by omega))]; rfl)
theorem r3_gauges_ok : SpecOk Try.prog 60 r3_gauges_S := fnX Try.func60 (c := bodyOf Try.f60) (by kernel_rfl) mixed (fun args p r hs hp => by
  unfold r3_gauges_s at hs
  split at hs
  · cases hs; exact ⟨_, _, r3_gauges_vc _ hp.2, (.p (.sl hp.1) .nil), ⟨show SpecsL Try.prog _ from (SpecsL.cons r3_ValidGauge_ok r3_ValidGauge_en SpecsL.nil), rfl, ⟨show ItersL Try.prog _ from ItersL.nil, (TrsOk.none (fun _ => rfl))⟩⟩⟩
  · cases hs)
theorem r3_gauges_en : Enters Try.prog 60 := fun args w => by kernel_rfl
theorem r3_gauges_B : ∀ args p r, r3_gauges_s args = some (p, r) → ∃ b, r = .bool b := by
  intro args p r h
  unfold r3_gauges_s at h
  split at h
  · cases h; exact ⟨_, rfl⟩
  · cases h
def r3_ValidPiece_p (p : L.Piece) : Prop := p.gauges.n ≤ 1000000 ∧ p.marks.n ≤ 1000000
def r3_ValidPiece_r (p : L.Piece) : SV := .bool (L.validPiece p)
def r3_ValidPiece_s : List EV → Option (Prop × SV)
  | [.p (.agg [.int .i64 p_id, .int .i64 p_colour, .int .i64 p_rev, .int .i64 p_made, .int .i64 p_swell, .sl 5 p_gauges_n p_gauges_g, .sl 3 p_marks_n p_marks_g])] => some ((∀ i, i < p_gauges_n → p_gauges_g i = [.int .i64 ((ofGauge (p_gauges_g i)).edge.lo), .int .i64 ((ofGauge (p_gauges_g i)).edge.hi), .int .i64 ((ofGauge (p_gauges_g i)).across.lo), .int .i64 ((ofGauge (p_gauges_g i)).across.hi), .int .i64 ((ofGauge (p_gauges_g i)).bend)]) ∧ (∀ i, i < p_marks_n → p_marks_g i = [.int .i64 ((ofMark (p_marks_g i)).edge), .int .i64 ((ofMark (p_marks_g i)).place), .int .i64 ((ofMark (p_marks_g i)).tone)]) ∧ r3_ValidPiece_p (⟨p_id, p_colour, p_rev, p_made, p_swell, (⟨p_gauges_n, fun i => ofGauge (p_gauges_g i)⟩ : (L.Sq L.Gauge)), (⟨p_marks_n, fun i => ofMark (p_marks_g i)⟩ : (L.Sq L.Mark))⟩ : L.Piece), r3_ValidPiece_r (⟨p_id, p_colour, p_rev, p_made, p_swell, (⟨p_gauges_n, fun i => ofGauge (p_gauges_g i)⟩ : (L.Sq L.Gauge)), (⟨p_marks_n, fun i => ofMark (p_marks_g i)⟩ : (L.Sq L.Mark))⟩ : L.Piece))
  | _ => none
abbrev r3_ValidPiece_S : SE.Spec := (specO r3_ValidPiece_s)
def r3_ValidPiece_C : Cfg := { muts := [], frz := lookN [], specs := lookS [(59, r3_within_S), (60, r3_gauges_S), (61, r3_marks_S)], loops := fun _ => none, iters := lookI [], rfs := lookR [], nils := lookM [] }
theorem r3_ValidPiece_vc (p : L.Piece) (hp : r3_ValidPiece_p p) : vc Try.prog ({ r3_ValidPiece_C with loops := lookL [(2, { T := Nat, keep := [1], keepO := [], chg := fun i => [(3, .p (.int .i64 (i : Int)))], own := fun _ => [], inv := fun i => i ≤ p.marks.n ∧ ∀ j, j < i → L.within (p.marks.g j).edge 0 (p.gauges.n - 1) = true, mu := fun i => p.marks.n - i })], rfs := lookR [] }) (bodyOf Try.f16) (st0 Try.f16 [.p (.agg [.int .i64 p.id, .int .i64 p.colour, .int .i64 p.rev, .int .i64 p.made, .int .i64 p.swell, .sl 5 p.gauges.n (fun i => [.int .i64 ((p.gauges.g i).edge.lo), .int .i64 ((p.gauges.g i).edge.hi), .int .i64 ((p.gauges.g i).across.lo), .int .i64 ((p.gauges.g i).across.hi), .int .i64 ((p.gauges.g i).bend)]), .sl 3 p.marks.n (fun i => [.int .i64 ((p.marks.g i).edge), .int .i64 ((p.marks.g i).place), .int .i64 ((p.marks.g i).tone)])])]) (retFn Try.prog Try.f16 (r3_ValidPiece_r p)) :=
  @Eq.mpr _ ((∃ (g : Nat), (0 : Int) = (↑g : Int) ∧ g ≤ p.marks.n ∧ ∀ (j : Nat), j < g → L.within (p.marks.g j).edge (0 : Int) ((↑p.gauges.n : Int) - (1 : Int)) = Bool.true) ∧ ∀ (g : Nat), (g ≤ p.marks.n ∧ ∀ (j : Nat), j < g → L.within (p.marks.g j).edge (0 : Int) ((↑p.gauges.n : Int) - (1 : Int)) = Bool.true) → (Decidable.decide ((↑g : Int) < (↑p.marks.n : Int)) = Bool.true → ((0 : Int) ≤ (↑g : Int) ∧ (↑g :
 Int) < (↑p.marks.n : Int)) ∧ Go.SE.InK Go.IntKind.i64 ((↑p.gauges.n : Int) - (1 : Int)) ∧ True ∧ ((!L.within (p.marks.g (Int.toNat (↑g : Int))).edge (0 : Int) ((↑p.gauges.n : Int) - (1 : Int))) = Bool.true → Bool.false = L.validPiece p) ∧ ((!L.within (p.marks.g (Int.toNat (↑g : Int))).edge (0 : Int) ((↑p.gauges.n : Int) - (1 : Int))) = Bool.false → Go.SE.InK Go.IntKind.i64 ((↑g : Int) + (1 : Int))
 ∧ ∃ (g' : Nat), (↑g : Int) + (1 : Int) = (↑g' : Int) ∧ Go.SE.SV.ref [Go.SE.SV.int Go.IntKind.i64 p.id, Go.SE.SV.int Go.IntKind.i64 p.colour, Go.SE.SV.int Go.IntKind.i64 p.rev, Go.SE.SV.int Go.IntKind.i64 p.made, Go.SE.SV.int Go.IntKind.i64 p.swell, Go.SE.SV.sl (nat_lit 5) p.gauges.n fun (i : Nat) ↦ [Go.SE.SV.int Go.IntKind.i64 (p.gauges.g i).edge.lo, Go.SE.SV.int Go.IntKind.i64 (p.gauges.g
 i).edge.hi, Go.SE.SV.int Go.IntKind.i64 (p.gauges.g i).across.lo, Go.SE.SV.int Go.IntKind.i64 (p.gauges.g i).across.hi, Go.SE.SV.int Go.IntKind.i64 (p.gauges.g i).bend], Go.SE.SV.sl (nat_lit 3) p.marks.n fun (i : Nat) ↦ [Go.SE.SV.int Go.IntKind.i64 (p.marks.g i).edge, Go.SE.SV.int Go.IntKind.i64 (p.marks.g i).place, Go.SE.SV.int Go.IntKind.i64 (p.marks.g i).tone]] (nat_lit 0) = Go.SE.SV.ref
 [Go.SE.SV.int Go.IntKind.i64 p.id, Go.SE.SV.int Go.IntKind.i64 p.colour, Go.SE.SV.int Go.IntKind.i64 p.rev, Go.SE.SV.int Go.IntKind.i64 p.made, Go.SE.SV.int Go.IntKind.i64 p.swell, Go.SE.SV.sl (nat_lit 5) p.gauges.n fun (i : Nat) ↦ [Go.SE.SV.int Go.IntKind.i64 (p.gauges.g i).edge.lo, Go.SE.SV.int Go.IntKind.i64 (p.gauges.g i).edge.hi, Go.SE.SV.int Go.IntKind.i64 (p.gauges.g i).across.lo,
 Go.SE.SV.int Go.IntKind.i64 (p.gauges.g i).across.hi, Go.SE.SV.int Go.IntKind.i64 (p.gauges.g i).bend], Go.SE.SV.sl (nat_lit 3) p.marks.n fun (i : Nat) ↦ [Go.SE.SV.int Go.IntKind.i64 (p.marks.g i).edge, Go.SE.SV.int Go.IntKind.i64 (p.marks.g i).place, Go.SE.SV.int Go.IntKind.i64 (p.marks.g i).tone]] (nat_lit 0) ∧ (g' ≤ p.marks.n ∧ ∀ (j : Nat), j < g' → L.within (p.marks.g j).edge (0 : Int)
 ((↑p.gauges.n : Int) - (1 : Int)) = Bool.true) ∧ p.marks.n - g' < p.marks.n - g)) ∧ (Decidable.decide ((↑g : Int) < (↑p.marks.n : Int)) = Bool.false → True ∧ (L.within p.id (1 : Int) (65535 : Int) = Bool.true → True) ∧ ((bif L.within p.id (1 : Int) (65535 : Int) then L.within p.colour (1 : Int) (16 : Int) else Bool.false) = Bool.true → True) ∧ ((bif bif L.within p.id (1 : Int) (65535 : Int) then
 L.within p.colour (1 : Int) (16 : Int) else Bool.false then L.within p.rev (1 : Int) (16 : Int) else Bool.false) = Bool.true → True) ∧ ((bif bif bif L.within p.id (1 : Int) (65535 : Int) then L.within p.colour (1 : Int) (16 : Int) else Bool.false then L.within p.rev (1 : Int) (16 : Int) else Bool.false then L.within p.made (0 : Int) (9999 : Int) else Bool.false) = Bool.true → True) ∧ ((bif bif bif
 bif L.within p.id (1 : Int) (65535 : Int) then L.within p.colour (1 : Int) (16 : Int) else Bool.false then L.within p.rev (1 : Int) (16 : Int) else Bool.false then L.within p.made (0 : Int) (9999 : Int) else Bool.false then L.within p.swell (-64 : Int) (64 : Int) else Bool.false) = Bool.true → (∀ (i : Nat), i < p.gauges.n → [Go.SE.SV.int Go.IntKind.i64 (p.gauges.g i).edge.lo, Go.SE.SV.int
 Go.IntKind.i64 (p.gauges.g i).edge.hi, Go.SE.SV.int Go.IntKind.i64 (p.gauges.g i).across.lo, Go.SE.SV.int Go.IntKind.i64 (p.gauges.g i).across.hi, Go.SE.SV.int Go.IntKind.i64 (p.gauges.g i).bend] = [Go.SE.SV.int Go.IntKind.i64 (p.gauges.g i).edge.lo, Go.SE.SV.int Go.IntKind.i64 (p.gauges.g i).edge.hi, Go.SE.SV.int Go.IntKind.i64 (p.gauges.g i).across.lo, Go.SE.SV.int Go.IntKind.i64 (p.gauges.g
 i).across.hi, Go.SE.SV.int Go.IntKind.i64 (p.gauges.g i).bend]) ∧ p.gauges.n ≤ (1000000 : Nat)) ∧ ((bif bif bif bif bif L.within p.id (1 : Int) (65535 : Int) then L.within p.colour (1 : Int) (16 : Int) else Bool.false then L.within p.rev (1 : Int) (16 : Int) else Bool.false then L.within p.made (0 : Int) (9999 : Int) else Bool.false then L.within p.swell (-64 : Int) (64 : Int) else Bool.false then
 L.gauges (L.Sq.mk p.gauges.n fun (i : Nat) ↦ p.gauges.g i) else Bool.false) = Bool.true → (∀ (i : Nat), i < p.marks.n → [Go.SE.SV.int Go.IntKind.i64 (p.marks.g i).edge, Go.SE.SV.int Go.IntKind.i64 (p.marks.g i).place, Go.SE.SV.int Go.IntKind.i64 (p.marks.g i).tone] = [Go.SE.SV.int Go.IntKind.i64 (p.marks.g i).edge, Go.SE.SV.int Go.IntKind.i64 (p.marks.g i).place, Go.SE.SV.int Go.IntKind.i64
 (p.marks.g i).tone]) ∧ True) ∧ (bif bif bif bif bif bif L.within p.id (1 : Int) (65535 : Int) then L.within p.colour (1 : Int) (16 : Int) else Bool.false then L.within p.rev (1 : Int) (16 : Int) else Bool.false then L.within p.made (0 : Int) (9999 : Int) else Bool.false then L.within p.swell (-64 : Int) (64 : Int) else Bool.false then L.gauges (L.Sq.mk p.gauges.n fun (i : Nat) ↦ p.gauges.g i) else
 Bool.false then L.marks (L.Sq.mk p.marks.n fun (i : Nat) ↦ p.marks.g i) else Bool.false) = L.validPiece p)) (by kernel_rfl) (by
    obtain ⟨h1, h2⟩ := hp
    refine ⟨⟨(0 : Nat), rfl, Nat.zero_le _, fun j hj => absurd hj (Nat.not_lt_zero _)⟩, fun g hg => ⟨fun hlt => ?_, fun hge => ?_⟩⟩
    · have hb : (g : Int) < (p.marks.n : Int) := of_decide_eq_true hlt
      have e0 : ((g : Int)).toNat = g := by omega
      rw [e0]
      refine ⟨by omega, InK.of (by omega) (by omega), trivial, fun h => ?_, fun h => ?_⟩
      · have h : L.within (p.marks.g g).edge 0 (p.gauges.n - 1) = false := by simpa using h
        have : L.edges p.marks p.gauges.n = false := allB_false (i := g) (by omega) h
        unfold L.validPiece L.vMarks
        rw [this]
        cases L.nums p <;> cases L.gauges p.gauges <;> rfl
      · have h : L.within (p.marks.g g).edge 0 (p.gauges.n - 1) = true := by simpa using h
        exact ⟨InK.of (by omega) (by omega), g + 1, by omega, rfl, ⟨by omega, fun j hj => by
          rcases Nat.lt_succ_iff_lt_or_eq.1 hj with h' | rfl
          · exact hg.2 j h'
          · exact h⟩, by omega⟩
    · have hb : ¬ (g : Int) < (p.marks.n : Int) := of_decide_eq_false hge
      have : L.edges p.marks p.gauges.n = true := allB_iff.2 (fun i hi => hg.2 i (by omega))
      refine ⟨trivial, fun _ => trivial, fun _ => trivial, fun _ => trivial, fun _ => trivial, fun _ => ⟨fun _ _ => rfl, h1⟩, fun _ => ⟨fun _ _ => rfl, trivial⟩, ?_⟩
      unfold L.validPiece L.vMarks
      rw [this]; rfl)
theorem r3_ValidPiece_ok : SpecOk Try.prog 16 r3_ValidPiece_S := fnX Try.func16 (c := bodyOf Try.f16) (by kernel_rfl) mixed (fun args p r hs hp => by
  unfold r3_ValidPiece_s at hs
  split at hs
  · cases hs; exact ⟨_, _, r3_ValidPiece_vc _ hp.2.2, (.p (.agg rfl (fun i hi => by
      rcases i with _ | i
      · exact (Ext.refl _ : Ext _ _)
      rcases i with _ | i
      · exact (Ext.refl _ : Ext _ _)
      rcases i with _ | i
      · exact (Ext.refl _ : Ext _ _)
      rcases i with _ | i
      · exact (Ext.refl _ : Ext _ _)
      rcases i with _ | i
      · exact (Ext.refl _ : Ext _ _)
      rcases i with _ | i
      · exact (Ext.sl hp.1 : Ext _ _)
      rcases i with _ | i
      · exact (Ext.sl hp.2.1 : Ext _ _)
      exact absurd hi (by simp; try omega))) .nil), ⟨show SpecsL Try.prog _ from (SpecsL.cons r3_within_ok r3_within_en (SpecsL.cons r3_gauges_ok r3_gauges_en (SpecsL.cons r3_marks_ok r3_marks_en SpecsL.nil))), rfl, ⟨show ItersL Try.prog _ from ItersL.nil, (TrsOk.none (fun _ => rfl))⟩⟩⟩
  · cases hs)
theorem r3_ValidPiece_en : Enters Try.prog 16 := fun args w => by kernel_rfl
theorem r3_ValidPiece_B : ∀ args p r, r3_ValidPiece_s args = some (p, r) → ∃ b, r = .bool b := by
  intro args p r h
  unfold r3_ValidPiece_s at h
  split at h
  · cases h; exact ⟨_, rfl⟩
  · cases h
def r3_ValidFilm_p (f : L.Film) : Prop := f.grey.n ≤ 1000000
def r3_ValidFilm_r (f : L.Film) : SV := .bool (L.validFilm f)
def r3_ValidFilm_s : List EV → Option (Prop × SV)
  | [.p (.agg [.int .i64 f_id, .sl 1 f_grey_n f_grey_g])] => some ((∀ i, i < f_grey_n → f_grey_g i = [.int .i64 ((intOf (f_grey_g i)))]) ∧ r3_ValidFilm_p (⟨f_id, (⟨f_grey_n, fun i => intOf (f_grey_g i)⟩ : (L.Sq Int))⟩ : L.Film), r3_ValidFilm_r (⟨f_id, (⟨f_grey_n, fun i => intOf (f_grey_g i)⟩ : (L.Sq Int))⟩ : L.Film))
  | _ => none
abbrev r3_ValidFilm_S : SE.Spec := (specO r3_ValidFilm_s)
def r3_ValidFilm_C : Cfg := { muts := [], frz := lookN [], specs := lookS [(59, r3_within_S)], loops := fun _ => none, iters := lookI [], rfs := lookR [], nils := lookM [] }
theorem r3_ValidFilm_vc (f : L.Film) (hp : r3_ValidFilm_p f) : vc Try.prog ({ r3_ValidFilm_C with loops := lookL [(4, { T := Nat, keep := [1], keepO := [], chg := fun i => [(3, .p (.int .i64 (i : Int)))], own := fun _ => [], inv := fun i => i ≤ f.grey.n ∧ ∀ j, j < i → L.within (f.grey.g j) 0 255 = true, mu := fun i => f.grey.n - i })], rfs := lookR [] }) (bodyOf Try.f18) (st0 Try.f18 [.p (.agg [.int .i64 f.id, .sl 1 f.grey.n (fun i => [.int .i64 ((f.grey.g i))])])]) (retFn Try.prog Try.f18 (r3_ValidFilm_r f)) :=
  @Eq.mpr _ (True ∧ ((bif bif !L.within f.id (1 : Int) (65535 : Int) then Bool.true else Decidable.decide ((↑f.grey.n : Int) < (1 : Int)) then Bool.true else Decidable.decide ((16 : Int) < (↑f.grey.n : Int))) = Bool.true → Bool.false = L.validFilm f) ∧ ((bif bif !L.within f.id (1 : Int) (65535 : Int) then Bool.true else Decidable.decide ((↑f.grey.n : Int) < (1 : Int)) then Bool.true else Decidable.decide ((16
 : Int) < (↑f.grey.n : Int))) = Bool.false → (∃ (g : Nat), (0 : Int) = (↑g : Int) ∧ g ≤ f.grey.n ∧ ∀ (j : Nat), j < g → L.within (f.grey.g j) (0 : Int) (255 : Int) = Bool.true) ∧ ∀ (g : Nat), (g ≤ f.grey.n ∧ ∀ (j : Nat), j < g → L.within (f.grey.g j) (0 : Int) (255 : Int) = Bool.true) → (Decidable.decide ((↑g : Int) < (↑f.grey.n : Int)) = Bool.true → ((0 : Int) ≤ (↑g : Int) ∧ (↑g : Int) <
 (↑f.grey.n : Int)) ∧ True ∧ ((!L.within (f.grey.g (Int.toNat (↑g : Int))) (0 : Int) (255 : Int)) = Bool.true → Bool.false = L.validFilm f) ∧ ((!L.within (f.grey.g (Int.toNat (↑g : Int))) (0 : Int) (255 : Int)) = Bool.false → Go.SE.InK Go.IntKind.i64 ((↑g : Int) + (1 : Int)) ∧ ∃ (g' : Nat), (↑g : Int) + (1 : Int) = (↑g' : Int) ∧ Go.SE.SV.ref [Go.SE.SV.int Go.IntKind.i64 f.id, Go.SE.SV.sl (nat_lit
 1) f.grey.n fun (i : Nat) ↦ [Go.SE.SV.int Go.IntKind.i64 (f.grey.g i)]] (nat_lit 0) = Go.SE.SV.ref [Go.SE.SV.int Go.IntKind.i64 f.id, Go.SE.SV.sl (nat_lit 1) f.grey.n fun (i : Nat) ↦ [Go.SE.SV.int Go.IntKind.i64 (f.grey.g i)]] (nat_lit 0) ∧ (g' ≤ f.grey.n ∧ ∀ (j : Nat), j < g' → L.within (f.grey.g j) (0 : Int) (255 : Int) = Bool.true) ∧ f.grey.n - g' < f.grey.n - g)) ∧ (Decidable.decide ((↑g :
 Int) < (↑f.grey.n : Int)) = Bool.false → Bool.true = L.validFilm f))) (by kernel_rfl) (by
    have hn : f.grey.n ≤ 1000000 := hp
    refine ⟨trivial, fun h => ?_, fun h => ⟨⟨(0 : Nat), rfl, Nat.zero_le _, fun j hj => absurd hj (Nat.not_lt_zero _)⟩, fun g hg => ⟨fun hlt => ?_, fun hge => ?_⟩⟩⟩
    · have : (bif L.within f.id 1 65535 then L.within f.grey.n 1 16 else false) = false := by
        simp only [bor, band, Bool.or_eq_true, decide_eq_true_eq, Bool.not_eq_true', Bool.and_eq_false_iff] at h ⊢
        rcases h with (h | h) | h
        · exact .inl h
        · right; rw [Bool.eq_false_iff, Ne, within_iff]; omega
        · right; rw [Bool.eq_false_iff, Ne, within_iff]; omega
      unfold L.validFilm; rw [this]; rfl
    · have hb : (g : Int) < (f.grey.n : Int) := of_decide_eq_true hlt
      have e0 : ((g : Int)).toNat = g := by omega
      rw [e0]
      refine ⟨by omega, trivial, fun h => ?_, fun h => ?_⟩
      · have h : L.within (f.grey.g g) 0 255 = false := by simpa using h
        unfold L.validFilm
        rw [allB_false (i := g) (by omega) h]
        cases L.within f.id 1 65535 <;> cases L.within f.grey.n 1 16 <;> rfl
      · have h : L.within (f.grey.g g) 0 255 = true := by simpa using h
        exact ⟨InK.of (by omega) (by omega), g + 1, by omega, rfl, ⟨by omega, fun j hj => by
          rcases Nat.lt_succ_iff_lt_or_eq.1 hj with h' | rfl
          · exact hg.2 j h'
          · exact h⟩, by omega⟩
    · have hb : ¬ (g : Int) < (f.grey.n : Int) := of_decide_eq_false hge
      have h3 : L.within f.id 1 65535 = true ∧ L.within f.grey.n 1 16 = true := by
        simp only [bor, Bool.or_eq_false_iff, decide_eq_false_iff_not, Bool.not_eq_false'] at h
        exact ⟨h.1.1, within_iff.2 (by omega)⟩
      unfold L.validFilm
      rw [h3.1, h3.2, allB_iff.2 (fun i hi => hg.2 i (by omega))]; rfl)
theorem r3_ValidFilm_ok : SpecOk Try.prog 18 r3_ValidFilm_S := fnX Try.func18 (c := bodyOf Try.f18) (by kernel_rfl) mixed (fun args p r hs hp => by
  unfold r3_ValidFilm_s at hs
  split at hs
  · cases hs; exact ⟨_, _, r3_ValidFilm_vc _ hp.2, (.p (.agg rfl (fun i hi => by
      rcases i with _ | i
      · exact (Ext.refl _ : Ext _ _)
      rcases i with _ | i
      · exact (Ext.sl hp.1 : Ext _ _)
      exact absurd hi (by simp; try omega))) .nil), ⟨show SpecsL Try.prog _ from (SpecsL.cons r3_within_ok r3_within_en SpecsL.nil), rfl, ⟨show ItersL Try.prog _ from ItersL.nil, (TrsOk.none (fun _ => rfl))⟩⟩⟩
  · cases hs)
theorem r3_ValidFilm_en : Enters Try.prog 18 := fun args w => by kernel_rfl
theorem r3_ValidFilm_B : ∀ args p r, r3_ValidFilm_s args = some (p, r) → ∃ b, r = .bool b := by
  intro args p r h
  unfold r3_ValidFilm_s at h
  split at h
  · cases h; exact ⟨_, rfl⟩
  · cases h
def w_few_p (p : L.Piece) (l : (L.Sq L.Pt)) : Prop := True
def w_few_r (p : L.Piece) (l : (L.Sq L.Pt)) : SV := .bool (L.few p l)
def w_few_s : List EV → Option (Prop × SV)
  | [.p (.agg [.int .i64 p_id, .int .i64 p_colour, .int .i64 p_rev, .int .i64 p_made, .int .i64 p_swell, .sl 5 p_gauges_n p_gauges_g, .sl 3 p_marks_n p_marks_g]), .p (.sl 2 l_n l_g)] => some ((∀ i, i < p_gauges_n → p_gauges_g i = [.int .i64 ((ofGauge (p_gauges_g i)).edge.lo), .int .i64 ((ofGauge (p_gauges_g i)).edge.hi), .int .i64 ((ofGauge (p_gauges_g i)).across.lo), .int .i64 ((ofGauge (p_gauges_g i)).across.hi), .int .i64 ((ofGauge (p_gauges_g i)).bend)]) ∧ (∀ i, i < p_marks_n → p_marks_g i = [.int .i64 ((ofMark (p_marks_g i)).edge), .int .i64 ((ofMark (p_marks_g i)).place), .int .i64 ((ofMark (p_marks_g i)).tone)]) ∧ (∀ i, i < l_n → l_g i = [.int .i64 ((ofPt (l_g i)).x), .int .i64 ((ofPt (l_g i)).y)]) ∧ w_few_p (⟨p_id, p_colour, p_rev, p_made, p_swell, (⟨p_gauges_n, fun i => ofGauge (p_gauges_g i)⟩ : (L.Sq L.Gauge)), (⟨p_marks_n, fun i => ofMark (p_marks_g i)⟩ : (L.Sq L.Mark))⟩ : L.Piece) (⟨l_n, fun i => ofPt (l_g i)⟩ : (L.Sq L.Pt)), w_few_r (⟨p_id, p_colour, p_rev, p_made, p_swell, (⟨p_gauges_n, fun i => ofGauge (p_gauges_g i)⟩ : (L.Sq L.Gauge)), (⟨p_marks_n, fun i => ofMark (p_marks_g i)⟩ : (L.Sq L.Mark))⟩ : L.Piece) (⟨l_n, fun i => ofPt (l_g i)⟩ : (L.Sq L.Pt)))
  | _ => none
abbrev w_few_S : SE.Spec := (specO w_few_s)
def w_few_C : Cfg := { muts := [], frz := lookN [], specs := lookS [], loops := lookL [], iters := lookI [], rfs := lookR [], nils := lookM [] }
theorem w_few_vc (p : L.Piece) (l : (L.Sq L.Pt)) (hp : w_few_p p l) : vc Try.prog (w_few_C) (bodyOf Try.f14) (st0 Try.f14 [.p (.agg [.int .i64 p.id, .int .i64 p.colour, .int .i64 p.rev, .int .i64 p.made, .int .i64 p.swell, .sl 5 p.gauges.n (fun i => [.int .i64 ((p.gauges.g i).edge.lo), .int .i64 ((p.gauges.g i).edge.hi), .int .i64 ((p.gauges.g i).across.lo), .int .i64 ((p.gauges.g i).across.hi), .int .i64 ((p.gauges.g i).bend)]), .sl 3 p.marks.n (fun i => [.int .i64 ((p.marks.g i).edge), .int .i64 ((p.marks.g i).place), .int .i64 ((p.marks.g i).tone)])]), .p (.sl 2 l.n (fun i => [.int .i64 ((l.g i).x), .int .i64 ((l.g i).y)]))]) (retFn Try.prog Try.f14 (w_few_r p l)) :=
  @Eq.mpr _ ((bif bif Decidable.decide ((↑p.gauges.n : Int) ≤ (60 : Int)) then Decidable.decide ((↑p.marks.n : Int) ≤ (100 : Int)) else Bool.false then Decidable.decide ((↑l.n : Int) ≤ (60 : Int)) else Bool.false) = L.few p l) (by kernel_rfl) (by
    rfl)
theorem w_few_ok : SpecOk Try.prog 14 w_few_S := fnX Try.func14 (c := bodyOf Try.f14) (by kernel_rfl) mixed (fun args p r hs hp => by
  unfold w_few_s at hs
  split at hs
  · cases hs; exact ⟨_, _, w_few_vc _ _ hp.2.2.2, (.p (.agg rfl (fun i hi => by
      rcases i with _ | i
      · exact (Ext.refl _ : Ext _ _)
      rcases i with _ | i
      · exact (Ext.refl _ : Ext _ _)
      rcases i with _ | i
      · exact (Ext.refl _ : Ext _ _)
      rcases i with _ | i
      · exact (Ext.refl _ : Ext _ _)
      rcases i with _ | i
      · exact (Ext.refl _ : Ext _ _)
      rcases i with _ | i
      · exact (Ext.sl hp.1 : Ext _ _)
      rcases i with _ | i
      · exact (Ext.sl hp.2.1 : Ext _ _)
      exact absurd hi (by simp; try omega))) (.p (.sl hp.2.2.1) .nil)), ⟨show SpecsL Try.prog _ from SpecsL.nil, rfl, ⟨show ItersL Try.prog _ from ItersL.nil, (TrsOk.none (fun _ => rfl))⟩⟩⟩
  · cases hs)
theorem w_few_en : Enters Try.prog 14 := fun args w => by kernel_rfl
theorem w_few_B : ∀ args p r, w_few_s args = some (p, r) → ∃ b, r = .bool b := by
  intro args p r h
  unfold w_few_s at h
  split at h
  · cases h; exact ⟨_, rfl⟩
  · cases h
def w_GlassValid_p (p : L.Piece) (f : L.Film) : Prop := True
def w_GlassValid_r (p : L.Piece) (f : L.Film) : SV := .bool true
def w_GlassValid_s : List EV → Option (Prop × SV)
  | [.p (.agg [.int .i64 p_id, .int .i64 p_colour, .int .i64 p_rev, .int .i64 p_made, .int .i64 p_swell, .sl 5 p_gauges_n p_gauges_g, .sl 3 p_marks_n p_marks_g]), .p (.agg [.int .i64 f_id, .sl 1 f_grey_n f_grey_g])] => some ((∀ i, i < p_gauges_n → p_gauges_g i = [.int .i64 ((ofGauge (p_gauges_g i)).edge.lo), .int .i64 ((ofGauge (p_gauges_g i)).edge.hi), .int .i64 ((ofGauge (p_gauges_g i)).across.lo), .int .i64 ((ofGauge (p_gauges_g i)).across.hi), .int .i64 ((ofGauge (p_gauges_g i)).bend)]) ∧ (∀ i, i < p_marks_n → p_marks_g i = [.int .i64 ((ofMark (p_marks_g i)).edge), .int .i64 ((ofMark (p_marks_g i)).place), .int .i64 ((ofMark (p_marks_g i)).tone)]) ∧ (∀ i, i < f_grey_n → f_grey_g i = [.int .i64 ((intOf (f_grey_g i)))]) ∧ w_GlassValid_p (⟨p_id, p_colour, p_rev, p_made, p_swell, (⟨p_gauges_n, fun i => ofGauge (p_gauges_g i)⟩ : (L.Sq L.Gauge)), (⟨p_marks_n, fun i => ofMark (p_marks_g i)⟩ : (L.Sq L.Mark))⟩ : L.Piece) (⟨f_id, (⟨f_grey_n, fun i => intOf (f_grey_g i)⟩ : (L.Sq Int))⟩ : L.Film), w_GlassValid_r (⟨p_id, p_colour, p_rev, p_made, p_swell, (⟨p_gauges_n, fun i => ofGauge (p_gauges_g i)⟩ : (L.Sq L.Gauge)), (⟨p_marks_n, fun i => ofMark (p_marks_g i)⟩ : (L.Sq L.Mark))⟩ : L.Piece) (⟨f_id, (⟨f_grey_n, fun i => intOf (f_grey_g i)⟩ : (L.Sq Int))⟩ : L.Film))
  | _ => none
abbrev w_GlassValid_S : SE.Spec := (specO w_GlassValid_s)
def w_GlassValid_C : Cfg := { muts := [], frz := lookN [], specs := lookS [(12, w_awake_S), (14, w_few_S), (15, g_ValidPiece_S), (16, r3_ValidPiece_S), (17, g_ValidFilm_S), (18, r3_ValidFilm_S)], loops := lookL [], iters := lookI [], rfs := lookR [], nils := lookM [] }
theorem w_GlassValid_vc (p : L.Piece) (f : L.Film) (hp : w_GlassValid_p p f) : vc Try.prog (w_GlassValid_C) (bodyOf Try.f4) (st0 Try.f4 [.p (.agg [.int .i64 p.id, .int .i64 p.colour, .int .i64 p.rev, .int .i64 p.made, .int .i64 p.swell, .sl 5 p.gauges.n (fun i => [.int .i64 ((p.gauges.g i).edge.lo), .int .i64 ((p.gauges.g i).edge.hi), .int .i64 ((p.gauges.g i).across.lo), .int .i64 ((p.gauges.g i).across.hi), .int .i64 ((p.gauges.g i).bend)]), .sl 3 p.marks.n (fun i => [.int .i64 ((p.marks.g i).edge), .int .i64 ((p.marks.g i).place), .int .i64 ((p.marks.g i).tone)])]), .p (.agg [.int .i64 f.id, .sl 1 f.grey.n (fun i => [.int .i64 ((f.grey.g i))])])]) (retFn Try.prog Try.f4 (w_GlassValid_r p f)) :=
  @Eq.mpr _ (True ∧ ((∀ (i : Nat), i < p.gauges.n → [Go.SE.SV.int Go.IntKind.i64 (p.gauges.g i).edge.lo, Go.SE.SV.int Go.IntKind.i64 (p.gauges.g i).edge.hi, Go.SE.SV.int Go.IntKind.i64 (p.gauges.g i).across.lo, Go.SE.SV.int Go.IntKind.i64 (p.gauges.g i).across.hi, Go.SE.SV.int Go.IntKind.i64 (p.gauges.g i).bend] = [Go.SE.SV.int Go.IntKind.i64 (p.gauges.g i).edge.lo, Go.SE.SV.int Go.IntKind.i64 (p.gauges.g
 i).edge.hi, Go.SE.SV.int Go.IntKind.i64 (p.gauges.g i).across.lo, Go.SE.SV.int Go.IntKind.i64 (p.gauges.g i).across.hi, Go.SE.SV.int Go.IntKind.i64 (p.gauges.g i).bend]) ∧ (∀ (i : Nat), i < p.marks.n → [Go.SE.SV.int Go.IntKind.i64 (p.marks.g i).edge, Go.SE.SV.int Go.IntKind.i64 (p.marks.g i).place, Go.SE.SV.int Go.IntKind.i64 (p.marks.g i).tone] = [Go.SE.SV.int Go.IntKind.i64 (p.marks.g i).edge,
 Go.SE.SV.int Go.IntKind.i64 (p.marks.g i).place, Go.SE.SV.int Go.IntKind.i64 (p.marks.g i).tone]) ∧ (∀ (i : Nat), i < nat_lit 0 → [] = [Go.SE.SV.int Go.IntKind.i64 (0 : Int), Go.SE.SV.int Go.IntKind.i64 (0 : Int)]) ∧ True) ∧ ((bif !L.few (L.Piece.mk p.id p.colour p.rev p.made p.swell (L.Sq.mk p.gauges.n fun (i : Nat) ↦ p.gauges.g i) (L.Sq.mk p.marks.n fun (i : Nat) ↦ p.marks.g i)) (L.Sq.mk
 (nat_lit 0) fun (i : Nat) ↦ L.Pt.mk (0 : Int) (0 : Int)) then Bool.true else Decidable.decide ((100 : Int) < (↑f.grey.n : Int))) = Bool.true → Bool.true = Bool.true) ∧ ((bif !L.few (L.Piece.mk p.id p.colour p.rev p.made p.swell (L.Sq.mk p.gauges.n fun (i : Nat) ↦ p.gauges.g i) (L.Sq.mk p.marks.n fun (i : Nat) ↦ p.marks.g i)) (L.Sq.mk (nat_lit 0) fun (i : Nat) ↦ L.Pt.mk (0 : Int) (0 : Int)) then
 Bool.true else Decidable.decide ((100 : Int) < (↑f.grey.n : Int))) = Bool.false → (Bool.true = Bool.true → (∀ (i : Nat), i < p.gauges.n → [Go.SE.SV.int Go.IntKind.i64 (p.gauges.g i).edge.lo, Go.SE.SV.int Go.IntKind.i64 (p.gauges.g i).edge.hi, Go.SE.SV.int Go.IntKind.i64 (p.gauges.g i).across.lo, Go.SE.SV.int Go.IntKind.i64 (p.gauges.g i).across.hi, Go.SE.SV.int Go.IntKind.i64 (p.gauges.g i).bend]
 = [Go.SE.SV.int Go.IntKind.i64 (p.gauges.g i).edge.lo, Go.SE.SV.int Go.IntKind.i64 (p.gauges.g i).edge.hi, Go.SE.SV.int Go.IntKind.i64 (p.gauges.g i).across.lo, Go.SE.SV.int Go.IntKind.i64 (p.gauges.g i).across.hi, Go.SE.SV.int Go.IntKind.i64 (p.gauges.g i).bend]) ∧ (∀ (i : Nat), i < p.marks.n → [Go.SE.SV.int Go.IntKind.i64 (p.marks.g i).edge, Go.SE.SV.int Go.IntKind.i64 (p.marks.g i).place,
 Go.SE.SV.int Go.IntKind.i64 (p.marks.g i).tone] = [Go.SE.SV.int Go.IntKind.i64 (p.marks.g i).edge, Go.SE.SV.int Go.IntKind.i64 (p.marks.g i).place, Go.SE.SV.int Go.IntKind.i64 (p.marks.g i).tone]) ∧ p.gauges.n ≤ (1000000 : Nat) ∧ p.marks.n ≤ (1000000 : Nat)) ∧ (Bool.true = Bool.true → (∀ (i : Nat), i < p.gauges.n → [Go.SE.SV.int Go.IntKind.i64 (p.gauges.g i).edge.lo, Go.SE.SV.int Go.IntKind.i64
 (p.gauges.g i).edge.hi, Go.SE.SV.int Go.IntKind.i64 (p.gauges.g i).across.lo, Go.SE.SV.int Go.IntKind.i64 (p.gauges.g i).across.hi, Go.SE.SV.int Go.IntKind.i64 (p.gauges.g i).bend] = [Go.SE.SV.int Go.IntKind.i64 (p.gauges.g i).edge.lo, Go.SE.SV.int Go.IntKind.i64 (p.gauges.g i).edge.hi, Go.SE.SV.int Go.IntKind.i64 (p.gauges.g i).across.lo, Go.SE.SV.int Go.IntKind.i64 (p.gauges.g i).across.hi,
 Go.SE.SV.int Go.IntKind.i64 (p.gauges.g i).bend]) ∧ (∀ (i : Nat), i < p.marks.n → [Go.SE.SV.int Go.IntKind.i64 (p.marks.g i).edge, Go.SE.SV.int Go.IntKind.i64 (p.marks.g i).place, Go.SE.SV.int Go.IntKind.i64 (p.marks.g i).tone] = [Go.SE.SV.int Go.IntKind.i64 (p.marks.g i).edge, Go.SE.SV.int Go.IntKind.i64 (p.marks.g i).place, Go.SE.SV.int Go.IntKind.i64 (p.marks.g i).tone]) ∧ p.gauges.n ≤ (1000000
 : Nat) ∧ p.marks.n ≤ (1000000 : Nat)) ∧ ((bif Bool.true then L.validPiece (L.Piece.mk p.id p.colour p.rev p.made p.swell (L.Sq.mk p.gauges.n fun (i : Nat) ↦ p.gauges.g i) (L.Sq.mk p.marks.n fun (i : Nat) ↦ p.marks.g i)) == L.validPiece (L.Piece.mk p.id p.colour p.rev p.made p.swell (L.Sq.mk p.gauges.n fun (i : Nat) ↦ p.gauges.g i) (L.Sq.mk p.marks.n fun (i : Nat) ↦ p.marks.g i)) else Bool.false) =
 Bool.true → (∀ (i : Nat), i < f.grey.n → [Go.SE.SV.int Go.IntKind.i64 (f.grey.g i)] = [Go.SE.SV.int Go.IntKind.i64 (f.grey.g i)]) ∧ f.grey.n ≤ (1000000 : Nat)) ∧ ((bif Bool.true then L.validPiece (L.Piece.mk p.id p.colour p.rev p.made p.swell (L.Sq.mk p.gauges.n fun (i : Nat) ↦ p.gauges.g i) (L.Sq.mk p.marks.n fun (i : Nat) ↦ p.marks.g i)) == L.validPiece (L.Piece.mk p.id p.colour p.rev p.made
 p.swell (L.Sq.mk p.gauges.n fun (i : Nat) ↦ p.gauges.g i) (L.Sq.mk p.marks.n fun (i : Nat) ↦ p.marks.g i)) else Bool.false) = Bool.true → (∀ (i : Nat), i < f.grey.n → [Go.SE.SV.int Go.IntKind.i64 (f.grey.g i)] = [Go.SE.SV.int Go.IntKind.i64 (f.grey.g i)]) ∧ f.grey.n ≤ (1000000 : Nat)) ∧ (bif bif Bool.true then L.validPiece (L.Piece.mk p.id p.colour p.rev p.made p.swell (L.Sq.mk p.gauges.n fun (i :
 Nat) ↦ p.gauges.g i) (L.Sq.mk p.marks.n fun (i : Nat) ↦ p.marks.g i)) == L.validPiece (L.Piece.mk p.id p.colour p.rev p.made p.swell (L.Sq.mk p.gauges.n fun (i : Nat) ↦ p.gauges.g i) (L.Sq.mk p.marks.n fun (i : Nat) ↦ p.marks.g i)) else Bool.false then L.validFilm (L.Film.mk f.id (L.Sq.mk f.grey.n fun (i : Nat) ↦ f.grey.g i)) == L.validFilm (L.Film.mk f.id (L.Sq.mk f.grey.n fun (i : Nat) ↦
 f.grey.g i)) else Bool.false) = Bool.true)) (by kernel_rfl) (by
    refine ⟨trivial, ⟨fun _ _ => rfl, fun _ _ => rfl, fun i hi => absurd hi (Nat.not_lt_zero _), trivial⟩, fun _ => rfl, fun h => ?_⟩
    have hs : p.gauges.n ≤ 60 ∧ p.marks.n ≤ 100 ∧ f.grey.n ≤ 100 := by
      have h : (bif !L.few p ⟨0, fun _ => ⟨0, 0⟩⟩ then true else decide (100 < (f.grey.n : Int))) = false := h
      simp only [bor, Bool.or_eq_false_iff, Bool.not_eq_false', decide_eq_false_iff_not, few_iff] at h
      omega
    refine ⟨fun _ => ⟨fun _ _ => rfl, fun _ _ => rfl, by omega, by omega⟩, fun _ => ⟨fun _ _ => rfl, fun _ _ => rfl, by omega, by omega⟩, fun _ => ⟨fun _ _ => rfl, by omega⟩, fun _ => ⟨fun _ _ => rfl, by omega⟩, ?_⟩
    show (bif (bif true then (L.validPiece p == L.validPiece p) else false) then (L.validFilm f == L.validFilm f) else false) = true
    rw [beq_self_eq_true, beq_self_eq_true]; rfl)
theorem w_GlassValid_ok : SpecOk Try.prog 4 w_GlassValid_S := fnX Try.func4 (c := bodyOf Try.f4) (by kernel_rfl) mixed (fun args p r hs hp => by
  unfold w_GlassValid_s at hs
  split at hs
  · cases hs; exact ⟨_, _, w_GlassValid_vc _ _ hp.2.2.2, (.p (.agg rfl (fun i hi => by
      rcases i with _ | i
      · exact (Ext.refl _ : Ext _ _)
      rcases i with _ | i
      · exact (Ext.refl _ : Ext _ _)
      rcases i with _ | i
      · exact (Ext.refl _ : Ext _ _)
      rcases i with _ | i
      · exact (Ext.refl _ : Ext _ _)
      rcases i with _ | i
      · exact (Ext.refl _ : Ext _ _)
      rcases i with _ | i
      · exact (Ext.sl hp.1 : Ext _ _)
      rcases i with _ | i
      · exact (Ext.sl hp.2.1 : Ext _ _)
      exact absurd hi (by simp; try omega))) (.p (.agg rfl (fun i hi => by
      rcases i with _ | i
      · exact (Ext.refl _ : Ext _ _)
      rcases i with _ | i
      · exact (Ext.sl hp.2.2.1 : Ext _ _)
      exact absurd hi (by simp; try omega))) .nil)), ⟨show SpecsL Try.prog _ from (SpecsL.cons w_awake_ok w_awake_en (SpecsL.cons w_few_ok w_few_en (SpecsL.cons g_ValidPiece_ok g_ValidPiece_en (SpecsL.cons r3_ValidPiece_ok r3_ValidPiece_en (SpecsL.cons g_ValidFilm_ok g_ValidFilm_en (SpecsL.cons r3_ValidFilm_ok r3_ValidFilm_en SpecsL.nil)))))), rfl, ⟨show ItersL Try.prog _ from ItersL.nil, (TrsOk.none (fun _ => rfl))⟩⟩⟩
  · cases hs)
theorem w_GlassValid_en : Enters Try.prog 4 := fun args w => by kernel_rfl
theorem w_GlassValid_B : ∀ args p r, w_GlassValid_s args = some (p, r) → ∃ b, r = .bool b := by
  intro args p r h
  unfold w_GlassValid_s at h
  split at h
  · cases h; exact ⟨_, rfl⟩
  · cases h
end Go.Proofs.Ytipaekbdalahdaa

namespace Go.Proofs.Ytipaekbdalahdaa
open Go.SE Go.RowKit
set_option maxRecDepth 100000
set_option maxHeartbeats 4000000
set_option linter.unusedVariables false
attribute [local irreducible] Go.SE.vc

def L.tab (f : L.Film) (c : Int) : Int := bif L.within c 1 f.grey.n then f.grey.g (c - 1).toNat else -1
theorem nth_tab {f : L.Film} {j : Nat} (h : j < 17) : nthI [L.tab f 0, L.tab f 1, L.tab f 2, L.tab f 3, L.tab f 4, L.tab f 5, L.tab f 6, L.tab f 7, L.tab f 8, L.tab f 9, L.tab f 10, L.tab f 11, L.tab f 12, L.tab f 13, L.tab f 14, L.tab f 15, L.tab f 16] j = L.tab f (j : Int) := by
  match j, h with
  | 0, _ => rfl
  | 1, _ => rfl
  | 2, _ => rfl
  | 3, _ => rfl
  | 4, _ => rfl
  | 5, _ => rfl
  | 6, _ => rfl
  | 7, _ => rfl
  | 8, _ => rfl
  | 9, _ => rfl
  | 10, _ => rfl
  | 11, _ => rfl
  | 12, _ => rfl
  | 13, _ => rfl
  | 14, _ => rfl
  | 15, _ => rfl
  | 16, _ => rfl
  | n + 17, h => exact absurd h (by omega)
def L.cnt (p : Nat → Bool) : Nat → Nat
  | 0 => 0
  | n + 1 => bif p n then L.cnt p n + 1 else L.cnt p n
def L.sel (p : Nat → Bool) (v : Nat → Int) : Nat → Nat → Int
  | 0, _ => 0
  | n + 1, k => bif p n && decide (k = L.cnt p n) then v n else L.sel p v n k
theorem cnt_le {p : Nat → Bool} : ∀ {n : Nat}, L.cnt p n ≤ n
  | 0 => Nat.le_refl _
  | n + 1 => by
    have := cnt_le (p := p) (n := n)
    unfold L.cnt
    cases p n <;> simp <;> omega
def L.shows (f : L.Film) (s : L.Span) (c : Nat) : Bool := bif decide (0 ≤ L.tab f c) then L.within (L.tab f c) s.lo s.hi else false
def L.riseI (n : Nat) (g : Nat → Int) : Bool := L.rise n (fun i => L.cmp (g (i - 1)) (g i))
def L.colsBad (cs : L.Sq Int) : Bool := bif !L.riseI cs.n cs.g then true else L.anyB cs.n (fun i => !L.within (cs.g i) 1 16)
def L.gNone (f : L.Film) (cs : L.Sq Int) : Bool := L.anyB cs.n (fun i => decide (L.tab f (cs.g i) < 0))
def L.gLo (f : L.Film) (g : Nat → Int) : Nat → Int
  | 0 => 1
  | n + 1 => min (bif decide ((n : Int) = 0) then L.tab f (g n) else L.gLo f g n) (L.tab f (g n))
def L.gHi (f : L.Film) (g : Nat → Int) : Nat → Int
  | 0 => 0
  | n + 1 => max (bif decide ((n : Int) = 0) then L.tab f (g n) else L.gHi f g n) (L.tab f (g n))
def L.gErr (f : L.Film) (cs : L.Sq Int) : Int := bif !L.validFilm f then 32 else bif L.colsBad cs then 1 else bif L.gNone f cs then 3 else 0
def g_in_p (n : Int) (s : L.Span) : Prop := True
def g_in_r (n : Int) (s : L.Span) : SV := .bool (L.within n s.lo s.hi)
def g_in_s : List EV → Option (Prop × SV)
  | [.p (.int .i64 n), .p (.agg [.int .i64 s_lo, .int .i64 s_hi])] => some (g_in_p n (⟨s_lo, s_hi⟩ : L.Span), g_in_r n (⟨s_lo, s_hi⟩ : L.Span))
  | _ => none
abbrev g_in_S : SE.Spec := (specO g_in_s)
def g_in_C : Cfg := { muts := [], frz := lookN [], specs := lookS [(52, g_within_S)], loops := lookL [], iters := lookI [], rfs := lookR [], nils := lookM [] }
theorem g_in_vc (n : Int) (s : L.Span) (hp : g_in_p n s) : vc Try.prog (g_in_C) (bodyOf Try.f72) (st0 Try.f72 [.p (.int .i64 n), .p (.agg [.int .i64 s.lo, .int .i64 s.hi])]) (retFn Try.prog Try.f72 (g_in_r n s)) :=
  @Eq.mpr _ (True ∧ L.within n s.lo s.hi = L.within n s.lo s.hi) (by kernel_rfl) (by
    exact ⟨trivial, rfl⟩)
theorem g_in_ok : SpecOk Try.prog 72 g_in_S := fnX Try.func72 (c := bodyOf Try.f72) (by kernel_rfl) mixed (fun args p r hs hp => by
  unfold g_in_s at hs
  split at hs
  · cases hs; exact ⟨_, _, g_in_vc _ _ hp, (.same _ (.same _ .nil)), ⟨show SpecsL Try.prog _ from (SpecsL.cons g_within_ok g_within_en SpecsL.nil), rfl, ⟨show ItersL Try.prog _ from ItersL.nil, (TrsOk.none (fun _ => rfl))⟩⟩⟩
  · cases hs)
theorem g_in_en : Enters Try.prog 72 := fun args w => by kernel_rfl
theorem g_in_B : ∀ args p r, g_in_s args = some (p, r) → ∃ b, r = .bool b := by
  intro args p r h
  unfold g_in_s at h
  split at h
  · cases h; exact ⟨_, rfl⟩
  · cases h
def g_greys_p (f : L.Film) : Prop := f.grey.n ≤ 1000000
def g_greys_r (f : L.Film) : SV := .agg [.int .i64 (L.tab f 0), .int .i64 (L.tab f 1), .int .i64 (L.tab f 2), .int .i64 (L.tab f 3), .int .i64 (L.tab f 4), .int .i64 (L.tab f 5), .int .i64 (L.tab f 6), .int .i64 (L.tab f 7), .int .i64 (L.tab f 8), .int .i64 (L.tab f 9), .int .i64 (L.tab f 10), .int .i64 (L.tab f 11), .int .i64 (L.tab f 12), .int .i64 (L.tab f 13), .int .i64 (L.tab f 14), .int .i64 (L.tab f 15), .int .i64 (L.tab f 16)]
def g_greys_s : List EV → Option (Prop × SV)
  | [.p (.agg [.int .i64 f_id, .sl 1 f_grey_n f_grey_g])] => some ((∀ i, i < f_grey_n → f_grey_g i = [.int .i64 ((intOf (f_grey_g i)))]) ∧ g_greys_p (⟨f_id, (⟨f_grey_n, fun i => intOf (f_grey_g i)⟩ : (L.Sq Int))⟩ : L.Film), g_greys_r (⟨f_id, (⟨f_grey_n, fun i => intOf (f_grey_g i)⟩ : (L.Sq Int))⟩ : L.Film))
  | _ => none
abbrev g_greys_S : SE.Spec := (specO g_greys_s)
def g_greys_C : Cfg := { muts := [], frz := lookN [], specs := lookS [(52, g_within_S)], loops := fun _ => none, iters := lookI [], rfs := lookR [], nils := lookM [], arrs := [2, 3] }
theorem g_greys_vc (f : L.Film) (hp : g_greys_p f) : vc Try.prog ({ g_greys_C with loops := lookL [(3, { T := Nat, keep := [1, 2, 3], keepO := [2], chg := fun i => [(5, .p (.int .i64 (i : Int)))], own := fun i => [(3, .row 114 1 17 (fun j => [.int .i64 (bif decide (j < i) then L.tab f (j : Int) else 0)]))], inv := fun i => i ≤ 17, mu := fun i => 17 - i })], rfs := lookR [] }) (bodyOf Try.f76) (st0 Try.f76 [.p (.agg [.int .i64 f.id, .sl 1 f.grey.n (fun i => [.int .i64 ((f.grey.g i))])])]) (retFn Try.prog Try.f76 (g_greys_r f)) :=
  @Eq.mpr _ ((∃ (g : Nat), (0 : Int) = (↑g : Int) ∧ (nat_lit 17 = (17 : Nat) ∧ ∀ (i : Nat), i < nat_lit 17 → [Go.SE.SV.int Go.IntKind.i64 (0 : Int)] = [Go.SE.SV.int Go.IntKind.i64 (bif Decidable.decide (i < g) then L.tab f (↑i : Int) else (0 : Int))]) ∧ g ≤ (17 : Nat)) ∧ ∀ (g : Nat), g ≤ (17 : Nat) → (Decidable.decide ((↑g : Int) < (17 : Int)) = Bool.true → ((0 : Int) ≤ (↑g : Int) ∧ (↑g : Int) < (↑(17 : Nat) :
 Int)) ∧ nat_lit 0 + Int.toNat (↑g : Int) < nat_lit 17 ∧ True ∧ (L.within (↑g : Int) (1 : Int) (↑f.grey.n : Int) = Bool.true → Go.SE.InK Go.IntKind.i64 ((↑g : Int) - (1 : Int)) ∧ ((0 : Int) ≤ (↑g : Int) - (1 : Int) ∧ (↑g : Int) - (1 : Int) < (↑f.grey.n : Int)) ∧ ((0 : Int) ≤ (↑g : Int) ∧ (↑g : Int) < (↑(17 : Nat) : Int)) ∧ nat_lit 0 + Int.toNat (↑g : Int) < nat_lit 17 ∧ Go.SE.InK Go.IntKind.i64
 ((↑g : Int) + (1 : Int)) ∧ ∃ (g' : Nat), (↑g : Int) + (1 : Int) = (↑g' : Int) ∧ (nat_lit 0 = nat_lit 0 ∧ nat_lit 0 = nat_lit 0) ∧ (nat_lit 0 = nat_lit 0 ∧ nat_lit 0 = nat_lit 0) ∧ Go.SE.SV.ref [Go.SE.SV.int Go.IntKind.i64 f.id, Go.SE.SV.sl (nat_lit 1) f.grey.n fun (i : Nat) ↦ [Go.SE.SV.int Go.IntKind.i64 (f.grey.g i)]] (nat_lit 0) = Go.SE.SV.ref [Go.SE.SV.int Go.IntKind.i64 f.id, Go.SE.SV.sl
 (nat_lit 1) f.grey.n fun (i : Nat) ↦ [Go.SE.SV.int Go.IntKind.i64 (f.grey.g i)]] (nat_lit 0) ∧ (nat_lit 17 = (17 : Nat) ∧ ∀ (i : Nat), i < nat_lit 17 → Go.SE.setRow (Go.SE.setRow (fun (j : Nat) ↦ [Go.SE.SV.int Go.IntKind.i64 (bif Decidable.decide (j < g) then L.tab f (↑j : Int) else (0 : Int))]) (nat_lit 0 + Int.toNat (↑g : Int)) (nat_lit 0) [Go.SE.SV.int Go.IntKind.i64 (-1 : Int)]) (nat_lit 0 +
 Int.toNat (↑g : Int)) (nat_lit 0) [Go.SE.SV.int Go.IntKind.i64 (f.grey.g (Int.toNat ((↑g : Int) - (1 : Int))))] i = [Go.SE.SV.int Go.IntKind.i64 (bif Decidable.decide (i < g') then L.tab f (↑i : Int) else (0 : Int))]) ∧ (nat_lit 17 = nat_lit 17 ∧ ∀ (i : Nat), i < nat_lit 17 → [Go.SE.SV.int Go.IntKind.i64 (0 : Int)] = [Go.SE.SV.int Go.IntKind.i64 (0 : Int)]) ∧ g' ≤ (17 : Nat) ∧ (17 : Nat) - g' <
 (17 : Nat) - g) ∧ (L.within (↑g : Int) (1 : Int) (↑f.grey.n : Int) = Bool.false → Go.SE.InK Go.IntKind.i64 ((↑g : Int) + (1 : Int)) ∧ ∃ (g' : Nat), (↑g : Int) + (1 : Int) = (↑g' : Int) ∧ (nat_lit 0 = nat_lit 0 ∧ nat_lit 0 = nat_lit 0) ∧ (nat_lit 0 = nat_lit 0 ∧ nat_lit 0 = nat_lit 0) ∧ Go.SE.SV.ref [Go.SE.SV.int Go.IntKind.i64 f.id, Go.SE.SV.sl (nat_lit 1) f.grey.n fun (i : Nat) ↦ [Go.SE.SV.int
 Go.IntKind.i64 (f.grey.g i)]] (nat_lit 0) = Go.SE.SV.ref [Go.SE.SV.int Go.IntKind.i64 f.id, Go.SE.SV.sl (nat_lit 1) f.grey.n fun (i : Nat) ↦ [Go.SE.SV.int Go.IntKind.i64 (f.grey.g i)]] (nat_lit 0) ∧ (nat_lit 17 = (17 : Nat) ∧ ∀ (i : Nat), i < nat_lit 17 → Go.SE.setRow (fun (j : Nat) ↦ [Go.SE.SV.int Go.IntKind.i64 (bif Decidable.decide (j < g) then L.tab f (↑j : Int) else (0 : Int))]) (nat_lit 0 +
 Int.toNat (↑g : Int)) (nat_lit 0) [Go.SE.SV.int Go.IntKind.i64 (-1 : Int)] i = [Go.SE.SV.int Go.IntKind.i64 (bif Decidable.decide (i < g') then L.tab f (↑i : Int) else (0 : Int))]) ∧ (nat_lit 17 = nat_lit 17 ∧ ∀ (i : Nat), i < nat_lit 17 → [Go.SE.SV.int Go.IntKind.i64 (0 : Int)] = [Go.SE.SV.int Go.IntKind.i64 (0 : Int)]) ∧ g' ≤ (17 : Nat) ∧ (17 : Nat) - g' < (17 : Nat) - g)) ∧ (Decidable.decide
 ((↑g : Int) < (17 : Int)) = Bool.false → Go.SE.SV.agg [Go.SE.SV.int Go.IntKind.i64 (bif Decidable.decide (nat_lit 0 < g) then L.tab f (↑(nat_lit 0) : Int) else (0 : Int)), Go.SE.SV.int Go.IntKind.i64 (bif Decidable.decide (nat_lit 1 < g) then L.tab f (↑(nat_lit 1) : Int) else (0 : Int)), Go.SE.SV.int Go.IntKind.i64 (bif Decidable.decide (nat_lit 2 < g) then L.tab f (↑(nat_lit 2) : Int) else (0 :
 Int)), Go.SE.SV.int Go.IntKind.i64 (bif Decidable.decide (nat_lit 3 < g) then L.tab f (↑(nat_lit 3) : Int) else (0 : Int)), Go.SE.SV.int Go.IntKind.i64 (bif Decidable.decide (nat_lit 4 < g) then L.tab f (↑(nat_lit 4) : Int) else (0 : Int)), Go.SE.SV.int Go.IntKind.i64 (bif Decidable.decide (nat_lit 5 < g) then L.tab f (↑(nat_lit 5) : Int) else (0 : Int)), Go.SE.SV.int Go.IntKind.i64 (bif
 Decidable.decide (nat_lit 6 < g) then L.tab f (↑(nat_lit 6) : Int) else (0 : Int)), Go.SE.SV.int Go.IntKind.i64 (bif Decidable.decide (nat_lit 7 < g) then L.tab f (↑(nat_lit 7) : Int) else (0 : Int)), Go.SE.SV.int Go.IntKind.i64 (bif Decidable.decide (nat_lit 8 < g) then L.tab f (↑(nat_lit 8) : Int) else (0 : Int)), Go.SE.SV.int Go.IntKind.i64 (bif Decidable.decide (nat_lit 9 < g) then L.tab f
 (↑(nat_lit 9) : Int) else (0 : Int)), Go.SE.SV.int Go.IntKind.i64 (bif Decidable.decide (nat_lit 10 < g) then L.tab f (↑(nat_lit 10) : Int) else (0 : Int)), Go.SE.SV.int Go.IntKind.i64 (bif Decidable.decide (nat_lit 11 < g) then L.tab f (↑(nat_lit 11) : Int) else (0 : Int)), Go.SE.SV.int Go.IntKind.i64 (bif Decidable.decide (nat_lit 12 < g) then L.tab f (↑(nat_lit 12) : Int) else (0 : Int)),
 Go.SE.SV.int Go.IntKind.i64 (bif Decidable.decide (nat_lit 13 < g) then L.tab f (↑(nat_lit 13) : Int) else (0 : Int)), Go.SE.SV.int Go.IntKind.i64 (bif Decidable.decide (nat_lit 14 < g) then L.tab f (↑(nat_lit 14) : Int) else (0 : Int)), Go.SE.SV.int Go.IntKind.i64 (bif Decidable.decide (nat_lit 15 < g) then L.tab f (↑(nat_lit 15) : Int) else (0 : Int)), Go.SE.SV.int Go.IntKind.i64 (bif
 Decidable.decide (nat_lit 16 < g) then L.tab f (↑(nat_lit 16) : Int) else (0 : Int))] = Go.SE.SV.agg [Go.SE.SV.int Go.IntKind.i64 (L.tab f (0 : Int)), Go.SE.SV.int Go.IntKind.i64 (L.tab f (1 : Int)), Go.SE.SV.int Go.IntKind.i64 (L.tab f (2 : Int)), Go.SE.SV.int Go.IntKind.i64 (L.tab f (3 : Int)), Go.SE.SV.int Go.IntKind.i64 (L.tab f (4 : Int)), Go.SE.SV.int Go.IntKind.i64 (L.tab f (5 : Int)),
 Go.SE.SV.int Go.IntKind.i64 (L.tab f (6 : Int)), Go.SE.SV.int Go.IntKind.i64 (L.tab f (7 : Int)), Go.SE.SV.int Go.IntKind.i64 (L.tab f (8 : Int)), Go.SE.SV.int Go.IntKind.i64 (L.tab f (9 : Int)), Go.SE.SV.int Go.IntKind.i64 (L.tab f (10 : Int)), Go.SE.SV.int Go.IntKind.i64 (L.tab f (11 : Int)), Go.SE.SV.int Go.IntKind.i64 (L.tab f (12 : Int)), Go.SE.SV.int Go.IntKind.i64 (L.tab f (13 : Int)),
 Go.SE.SV.int Go.IntKind.i64 (L.tab f (14 : Int)), Go.SE.SV.int Go.IntKind.i64 (L.tab f (15 : Int)), Go.SE.SV.int Go.IntKind.i64 (L.tab f (16 : Int))])) (by kernel_rfl) (by
    have hn : f.grey.n ≤ 1000000 := hp
    refine ⟨⟨(0 : Nat), rfl, ⟨rfl, fun i hi => rfl⟩, Nat.zero_le _⟩, fun g hg => ⟨fun hlt => ?_, fun hge => ?_⟩⟩
    · have hb : (g : Int) < 17 := of_decide_eq_true hlt
      have e0 : 0 + ((g : Int)).toNat = g := by omega
      rw [e0]
      refine ⟨⟨by omega, by show (g : Int) < ((17 : Nat) : Int); omega⟩, by show g < 17; omega, trivial, fun h => ?_, fun h => ?_⟩
      · have hw := within_iff.1 h
        refine ⟨InK.of (by omega) (by omega), by omega, ⟨by omega, by show (g : Int) < ((17 : Nat) : Int); omega⟩, by show g < 17; omega, InK.of (by omega) (by omega), g + 1, by omega, ⟨rfl, rfl⟩, ⟨rfl, rfl⟩, rfl, ⟨rfl, fun i hi => ?_⟩, ⟨rfl, fun _ _ => rfl⟩, by omega, by omega⟩
        by_cases e : i = g
        · subst e
          simp [setRow, fillAt, L.tab, h]
        · have : decide (i < g + 1) = decide (i < g) := by
            by_cases q : i < g
            · simp [q, show i < g + 1 by omega]
            · simp [q, show ¬ i < g + 1 by omega]
          simp [setRow, e, this]
      · refine ⟨InK.of (by omega) (by omega), g + 1, by omega, ⟨rfl, rfl⟩, ⟨rfl, rfl⟩, rfl, ⟨rfl, fun i hi => ?_⟩, ⟨rfl, fun _ _ => rfl⟩, by omega, by omega⟩
        by_cases e : i = g
        · subst e
          simp [setRow, fillAt, L.tab, h]
        · have : decide (i < g + 1) = decide (i < g) := by
            by_cases q : i < g
            · simp [q, show i < g + 1 by omega]
            · simp [q, show ¬ i < g + 1 by omega]
          simp [setRow, e, this]
    · have hb : ¬ (g : Int) < 17 := of_decide_eq_false hge
      obtain rfl : g = 17 := by omega
      rfl)
theorem g_greys_ok : SpecOk Try.prog 76 g_greys_S := fnX Try.func76 (c := bodyOf Try.f76) (by kernel_rfl) mixed (fun args p r hs hp => by
  unfold g_greys_s at hs
  split at hs
  · cases hs; exact ⟨_, _, g_greys_vc _ hp.2, (.p (.agg rfl (fun i hi => by
      rcases i with _ | i
      · exact (Ext.refl _ : Ext _ _)
      rcases i with _ | i
      · exact (Ext.sl hp.1 : Ext _ _)
      exact absurd hi (by simp; try omega))) .nil), ⟨show SpecsL Try.prog _ from (SpecsL.cons g_within_ok g_within_en SpecsL.nil), rfl, ⟨show ItersL Try.prog _ from ItersL.nil, (TrsOk.none (fun _ => rfl))⟩⟩⟩
  · cases hs)
theorem g_greys_en : Enters Try.prog 76 := fun args w => by kernel_rfl
def g_Colours_p (f : L.Film) (s : L.Span) : Prop := f.grey.n ≤ 1000000
def g_Colours_r (f : L.Film) (s : L.Span) : SV := .tup [.sl 1 (bif L.validFilm f then L.cnt (L.shows f s) 17 else 0) (fun k => [.int .i64 (L.sel (L.shows f s) (fun c => (c : Int)) 17 k)]), .int .i64 (bif L.validFilm f then 0 else 32)]
def g_Colours_s : List EV → Option (Prop × SV)
  | [.p (.agg [.int .i64 f_id, .sl 1 f_grey_n f_grey_g]), .p (.agg [.int .i64 s_lo, .int .i64 s_hi])] => some ((∀ i, i < f_grey_n → f_grey_g i = [.int .i64 ((intOf (f_grey_g i)))]) ∧ g_Colours_p (⟨f_id, (⟨f_grey_n, fun i => intOf (f_grey_g i)⟩ : (L.Sq Int))⟩ : L.Film) (⟨s_lo, s_hi⟩ : L.Span), g_Colours_r (⟨f_id, (⟨f_grey_n, fun i => intOf (f_grey_g i)⟩ : (L.Sq Int))⟩ : L.Film) (⟨s_lo, s_hi⟩ : L.Span))
  | _ => none
abbrev g_Colours_S : SE.Spec := (specO g_Colours_s)
def g_Colours_C : Cfg := { muts := [], frz := lookN [], specs := lookS [(17, g_ValidFilm_S), (76, g_greys_S), (72, g_in_S)], loops := fun _ => none, iters := lookI [], rfs := lookR [], nils := lookM [(4, [(6, 28, 3, 1)])] }
theorem g_Colours_vc (f : L.Film) (s : L.Span) (hp : g_Colours_p f s) : vc Try.prog ({ g_Colours_C with loops := lookL [(5, { T := Nat, keep := [3, 6, 13], keepO := [], chg := fun i => [(14, .p (.int .i64 (i : Int)))], own := fun i => [(28, .row 3 1 (L.cnt (L.shows f s) i) (fun k => [.int .i64 (L.sel (L.shows f s) (fun c => (c : Int)) i k)]))], inv := fun i => i ≤ 17, mu := fun i => 17 - i })], rfs := lookR [] }) (bodyOf Try.f31) (st0 Try.f31 [.p (.agg [.int .i64 f.id, .sl 1 f.grey.n (fun i => [.int .i64 ((f.grey.g i))])]), .p (.agg [.int .i64 s.lo, .int .i64 s.hi])]) (retFn Try.prog Try.f31 (g_Colours_r f s)) :=
  @Eq.mpr _ (((∀ (i : Nat), i < f.grey.n → [Go.SE.SV.int Go.IntKind.i64 (f.grey.g i)] = [Go.SE.SV.int Go.IntKind.i64 (f.grey.g i)]) ∧ f.grey.n ≤ (1000000 : Nat)) ∧ ((!L.validFilm (L.Film.mk f.id (L.Sq.mk f.grey.n fun (i : Nat) ↦ f.grey.g i))) = Bool.true → (bif L.validFilm f then L.cnt (L.shows f s) (17 : Nat) else (0 : Nat)) = (0 : Nat) ∧ (32 : Int) = bif L.validFilm f then (0 : Int) else (32 : Int)) ∧
 ((!L.validFilm (L.Film.mk f.id (L.Sq.mk f.grey.n fun (i : Nat) ↦ f.grey.g i))) = Bool.false → ((∀ (i : Nat), i < f.grey.n → [Go.SE.SV.int Go.IntKind.i64 (f.grey.g i)] = [Go.SE.SV.int Go.IntKind.i64 (f.grey.g i)]) ∧ f.grey.n ≤ (1000000 : Nat)) ∧ (∃ (g : Nat), (0 : Int) = (↑g : Int) ∧ (nat_lit 0 = L.cnt (L.shows f s) g ∧ ∀ (i : Nat), i < nat_lit 0 → [] = [Go.SE.SV.int Go.IntKind.i64 (L.sel (L.shows
 f s) (fun (c : Nat) ↦ (↑c : Int)) g i)]) ∧ g ≤ (17 : Nat)) ∧ ∀ (g : Nat), g ≤ (17 : Nat) → (Decidable.decide ((↑g : Int) < (17 : Int)) = Bool.true → ((0 : Int) ≤ (↑g : Int) ∧ (↑g : Int) < (↑(17 : Nat) : Int)) ∧ (Decidable.decide ((0 : Int) ≤ Go.SE.nthI [L.tab (L.Film.mk f.id (L.Sq.mk f.grey.n fun (i : Nat) ↦ f.grey.g i)) (0 : Int), L.tab (L.Film.mk f.id (L.Sq.mk f.grey.n fun (i : Nat) ↦ f.grey.g
 i)) (1 : Int), L.tab (L.Film.mk f.id (L.Sq.mk f.grey.n fun (i : Nat) ↦ f.grey.g i)) (2 : Int), L.tab (L.Film.mk f.id (L.Sq.mk f.grey.n fun (i : Nat) ↦ f.grey.g i)) (3 : Int), L.tab (L.Film.mk f.id (L.Sq.mk f.grey.n fun (i : Nat) ↦ f.grey.g i)) (4 : Int), L.tab (L.Film.mk f.id (L.Sq.mk f.grey.n fun (i : Nat) ↦ f.grey.g i)) (5 : Int), L.tab (L.Film.mk f.id (L.Sq.mk f.grey.n fun (i : Nat) ↦ f.grey.g
 i)) (6 : Int), L.tab (L.Film.mk f.id (L.Sq.mk f.grey.n fun (i : Nat) ↦ f.grey.g i)) (7 : Int), L.tab (L.Film.mk f.id (L.Sq.mk f.grey.n fun (i : Nat) ↦ f.grey.g i)) (8 : Int), L.tab (L.Film.mk f.id (L.Sq.mk f.grey.n fun (i : Nat) ↦ f.grey.g i)) (9 : Int), L.tab (L.Film.mk f.id (L.Sq.mk f.grey.n fun (i : Nat) ↦ f.grey.g i)) (10 : Int), L.tab (L.Film.mk f.id (L.Sq.mk f.grey.n fun (i : Nat) ↦ f.grey.g
 i)) (11 : Int), L.tab (L.Film.mk f.id (L.Sq.mk f.grey.n fun (i : Nat) ↦ f.grey.g i)) (12 : Int), L.tab (L.Film.mk f.id (L.Sq.mk f.grey.n fun (i : Nat) ↦ f.grey.g i)) (13 : Int), L.tab (L.Film.mk f.id (L.Sq.mk f.grey.n fun (i : Nat) ↦ f.grey.g i)) (14 : Int), L.tab (L.Film.mk f.id (L.Sq.mk f.grey.n fun (i : Nat) ↦ f.grey.g i)) (15 : Int), L.tab (L.Film.mk f.id (L.Sq.mk f.grey.n fun (i : Nat) ↦
 f.grey.g i)) (16 : Int)] (Int.toNat (↑g : Int))) = Bool.true → True) ∧ ((bif Decidable.decide ((0 : Int) ≤ Go.SE.nthI [L.tab (L.Film.mk f.id (L.Sq.mk f.grey.n fun (i : Nat) ↦ f.grey.g i)) (0 : Int), L.tab (L.Film.mk f.id (L.Sq.mk f.grey.n fun (i : Nat) ↦ f.grey.g i)) (1 : Int), L.tab (L.Film.mk f.id (L.Sq.mk f.grey.n fun (i : Nat) ↦ f.grey.g i)) (2 : Int), L.tab (L.Film.mk f.id (L.Sq.mk f.grey.n
 fun (i : Nat) ↦ f.grey.g i)) (3 : Int), L.tab (L.Film.mk f.id (L.Sq.mk f.grey.n fun (i : Nat) ↦ f.grey.g i)) (4 : Int), L.tab (L.Film.mk f.id (L.Sq.mk f.grey.n fun (i : Nat) ↦ f.grey.g i)) (5 : Int), L.tab (L.Film.mk f.id (L.Sq.mk f.grey.n fun (i : Nat) ↦ f.grey.g i)) (6 : Int), L.tab (L.Film.mk f.id (L.Sq.mk f.grey.n fun (i : Nat) ↦ f.grey.g i)) (7 : Int), L.tab (L.Film.mk f.id (L.Sq.mk f.grey.n
 fun (i : Nat) ↦ f.grey.g i)) (8 : Int), L.tab (L.Film.mk f.id (L.Sq.mk f.grey.n fun (i : Nat) ↦ f.grey.g i)) (9 : Int), L.tab (L.Film.mk f.id (L.Sq.mk f.grey.n fun (i : Nat) ↦ f.grey.g i)) (10 : Int), L.tab (L.Film.mk f.id (L.Sq.mk f.grey.n fun (i : Nat) ↦ f.grey.g i)) (11 : Int), L.tab (L.Film.mk f.id (L.Sq.mk f.grey.n fun (i : Nat) ↦ f.grey.g i)) (12 : Int), L.tab (L.Film.mk f.id (L.Sq.mk
 f.grey.n fun (i : Nat) ↦ f.grey.g i)) (13 : Int), L.tab (L.Film.mk f.id (L.Sq.mk f.grey.n fun (i : Nat) ↦ f.grey.g i)) (14 : Int), L.tab (L.Film.mk f.id (L.Sq.mk f.grey.n fun (i : Nat) ↦ f.grey.g i)) (15 : Int), L.tab (L.Film.mk f.id (L.Sq.mk f.grey.n fun (i : Nat) ↦ f.grey.g i)) (16 : Int)] (Int.toNat (↑g : Int))) then L.within (Go.SE.nthI [L.tab (L.Film.mk f.id (L.Sq.mk f.grey.n fun (i : Nat) ↦
 f.grey.g i)) (0 : Int), L.tab (L.Film.mk f.id (L.Sq.mk f.grey.n fun (i : Nat) ↦ f.grey.g i)) (1 : Int), L.tab (L.Film.mk f.id (L.Sq.mk f.grey.n fun (i : Nat) ↦ f.grey.g i)) (2 : Int), L.tab (L.Film.mk f.id (L.Sq.mk f.grey.n fun (i : Nat) ↦ f.grey.g i)) (3 : Int), L.tab (L.Film.mk f.id (L.Sq.mk f.grey.n fun (i : Nat) ↦ f.grey.g i)) (4 : Int), L.tab (L.Film.mk f.id (L.Sq.mk f.grey.n fun (i : Nat) ↦
 f.grey.g i)) (5 : Int), L.tab (L.Film.mk f.id (L.Sq.mk f.grey.n fun (i : Nat) ↦ f.grey.g i)) (6 : Int), L.tab (L.Film.mk f.id (L.Sq.mk f.grey.n fun (i : Nat) ↦ f.grey.g i)) (7 : Int), L.tab (L.Film.mk f.id (L.Sq.mk f.grey.n fun (i : Nat) ↦ f.grey.g i)) (8 : Int), L.tab (L.Film.mk f.id (L.Sq.mk f.grey.n fun (i : Nat) ↦ f.grey.g i)) (9 : Int), L.tab (L.Film.mk f.id (L.Sq.mk f.grey.n fun (i : Nat) ↦
 f.grey.g i)) (10 : Int), L.tab (L.Film.mk f.id (L.Sq.mk f.grey.n fun (i : Nat) ↦ f.grey.g i)) (11 : Int), L.tab (L.Film.mk f.id (L.Sq.mk f.grey.n fun (i : Nat) ↦ f.grey.g i)) (12 : Int), L.tab (L.Film.mk f.id (L.Sq.mk f.grey.n fun (i : Nat) ↦ f.grey.g i)) (13 : Int), L.tab (L.Film.mk f.id (L.Sq.mk f.grey.n fun (i : Nat) ↦ f.grey.g i)) (14 : Int), L.tab (L.Film.mk f.id (L.Sq.mk f.grey.n fun (i :
 Nat) ↦ f.grey.g i)) (15 : Int), L.tab (L.Film.mk f.id (L.Sq.mk f.grey.n fun (i : Nat) ↦ f.grey.g i)) (16 : Int)] (Int.toNat (↑g : Int))) s.lo s.hi else Bool.false) = Bool.true → (L.cnt (L.shows f s) g + nat_lit 1) * nat_lit 8 ≤ (140737488355328 : Nat) ∧ Go.SE.InK Go.IntKind.i64 ((↑g : Int) + (1 : Int)) ∧ ∃ (g' : Nat), (↑g : Int) + (1 : Int) = (↑g' : Int) ∧ Go.SE.SV.agg [Go.SE.SV.int Go.IntKind.i64
 (L.tab (L.Film.mk f.id (L.Sq.mk f.grey.n fun (i : Nat) ↦ f.grey.g i)) (0 : Int)), Go.SE.SV.int Go.IntKind.i64 (L.tab (L.Film.mk f.id (L.Sq.mk f.grey.n fun (i : Nat) ↦ f.grey.g i)) (1 : Int)), Go.SE.SV.int Go.IntKind.i64 (L.tab (L.Film.mk f.id (L.Sq.mk f.grey.n fun (i : Nat) ↦ f.grey.g i)) (2 : Int)), Go.SE.SV.int Go.IntKind.i64 (L.tab (L.Film.mk f.id (L.Sq.mk f.grey.n fun (i : Nat) ↦ f.grey.g i))
 (3 : Int)), Go.SE.SV.int Go.IntKind.i64 (L.tab (L.Film.mk f.id (L.Sq.mk f.grey.n fun (i : Nat) ↦ f.grey.g i)) (4 : Int)), Go.SE.SV.int Go.IntKind.i64 (L.tab (L.Film.mk f.id (L.Sq.mk f.grey.n fun (i : Nat) ↦ f.grey.g i)) (5 : Int)), Go.SE.SV.int Go.IntKind.i64 (L.tab (L.Film.mk f.id (L.Sq.mk f.grey.n fun (i : Nat) ↦ f.grey.g i)) (6 : Int)), Go.SE.SV.int Go.IntKind.i64 (L.tab (L.Film.mk f.id
 (L.Sq.mk f.grey.n fun (i : Nat) ↦ f.grey.g i)) (7 : Int)), Go.SE.SV.int Go.IntKind.i64 (L.tab (L.Film.mk f.id (L.Sq.mk f.grey.n fun (i : Nat) ↦ f.grey.g i)) (8 : Int)), Go.SE.SV.int Go.IntKind.i64 (L.tab (L.Film.mk f.id (L.Sq.mk f.grey.n fun (i : Nat) ↦ f.grey.g i)) (9 : Int)), Go.SE.SV.int Go.IntKind.i64 (L.tab (L.Film.mk f.id (L.Sq.mk f.grey.n fun (i : Nat) ↦ f.grey.g i)) (10 : Int)),
 Go.SE.SV.int Go.IntKind.i64 (L.tab (L.Film.mk f.id (L.Sq.mk f.grey.n fun (i : Nat) ↦ f.grey.g i)) (11 : Int)), Go.SE.SV.int Go.IntKind.i64 (L.tab (L.Film.mk f.id (L.Sq.mk f.grey.n fun (i : Nat) ↦ f.grey.g i)) (12 : Int)), Go.SE.SV.int Go.IntKind.i64 (L.tab (L.Film.mk f.id (L.Sq.mk f.grey.n fun (i : Nat) ↦ f.grey.g i)) (13 : Int)), Go.SE.SV.int Go.IntKind.i64 (L.tab (L.Film.mk f.id (L.Sq.mk
 f.grey.n fun (i : Nat) ↦ f.grey.g i)) (14 : Int)), Go.SE.SV.int Go.IntKind.i64 (L.tab (L.Film.mk f.id (L.Sq.mk f.grey.n fun (i : Nat) ↦ f.grey.g i)) (15 : Int)), Go.SE.SV.int Go.IntKind.i64 (L.tab (L.Film.mk f.id (L.Sq.mk f.grey.n fun (i : Nat) ↦ f.grey.g i)) (16 : Int))] = Go.SE.SV.agg [Go.SE.SV.int Go.IntKind.i64 (L.tab (L.Film.mk f.id (L.Sq.mk f.grey.n fun (i : Nat) ↦ f.grey.g i)) (0 : Int)),
 Go.SE.SV.int Go.IntKind.i64 (L.tab (L.Film.mk f.id (L.Sq.mk f.grey.n fun (i : Nat) ↦ f.grey.g i)) (1 : Int)), Go.SE.SV.int Go.IntKind.i64 (L.tab (L.Film.mk f.id (L.Sq.mk f.grey.n fun (i : Nat) ↦ f.grey.g i)) (2 : Int)), Go.SE.SV.int Go.IntKind.i64 (L.tab (L.Film.mk f.id (L.Sq.mk f.grey.n fun (i : Nat) ↦ f.grey.g i)) (3 : Int)), Go.SE.SV.int Go.IntKind.i64 (L.tab (L.Film.mk f.id (L.Sq.mk f.grey.n
 fun (i : Nat) ↦ f.grey.g i)) (4 : Int)), Go.SE.SV.int Go.IntKind.i64 (L.tab (L.Film.mk f.id (L.Sq.mk f.grey.n fun (i : Nat) ↦ f.grey.g i)) (5 : Int)), Go.SE.SV.int Go.IntKind.i64 (L.tab (L.Film.mk f.id (L.Sq.mk f.grey.n fun (i : Nat) ↦ f.grey.g i)) (6 : Int)), Go.SE.SV.int Go.IntKind.i64 (L.tab (L.Film.mk f.id (L.Sq.mk f.grey.n fun (i : Nat) ↦ f.grey.g i)) (7 : Int)), Go.SE.SV.int Go.IntKind.i64
 (L.tab (L.Film.mk f.id (L.Sq.mk f.grey.n fun (i : Nat) ↦ f.grey.g i)) (8 : Int)), Go.SE.SV.int Go.IntKind.i64 (L.tab (L.Film.mk f.id (L.Sq.mk f.grey.n fun (i : Nat) ↦ f.grey.g i)) (9 : Int)), Go.SE.SV.int Go.IntKind.i64 (L.tab (L.Film.mk f.id (L.Sq.mk f.grey.n fun (i : Nat) ↦ f.grey.g i)) (10 : Int)), Go.SE.SV.int Go.IntKind.i64 (L.tab (L.Film.mk f.id (L.Sq.mk f.grey.n fun (i : Nat) ↦ f.grey.g i))
 (11 : Int)), Go.SE.SV.int Go.IntKind.i64 (L.tab (L.Film.mk f.id (L.Sq.mk f.grey.n fun (i : Nat) ↦ f.grey.g i)) (12 : Int)), Go.SE.SV.int Go.IntKind.i64 (L.tab (L.Film.mk f.id (L.Sq.mk f.grey.n fun (i : Nat) ↦ f.grey.g i)) (13 : Int)), Go.SE.SV.int Go.IntKind.i64 (L.tab (L.Film.mk f.id (L.Sq.mk f.grey.n fun (i : Nat) ↦ f.grey.g i)) (14 : Int)), Go.SE.SV.int Go.IntKind.i64 (L.tab (L.Film.mk f.id
 (L.Sq.mk f.grey.n fun (i : Nat) ↦ f.grey.g i)) (15 : Int)), Go.SE.SV.int Go.IntKind.i64 (L.tab (L.Film.mk f.id (L.Sq.mk f.grey.n fun (i : Nat) ↦ f.grey.g i)) (16 : Int))] ∧ Go.SE.SV.ref [Go.SE.SV.int Go.IntKind.i64 s.lo, Go.SE.SV.int Go.IntKind.i64 s.hi] (nat_lit 0) = Go.SE.SV.ref [Go.SE.SV.int Go.IntKind.i64 s.lo, Go.SE.SV.int Go.IntKind.i64 s.hi] (nat_lit 0) ∧ (L.cnt (L.shows f s) g + nat_lit 1
 = L.cnt (L.shows f s) g' ∧ ∀ (i : Nat), i < L.cnt (L.shows f s) g + nat_lit 1 → Go.SE.appGet (L.cnt (L.shows f s) g) (fun (k : Nat) ↦ [Go.SE.SV.int Go.IntKind.i64 (L.sel (L.shows f s) (fun (c : Nat) ↦ (↑c : Int)) g k)]) (fun (x : Nat) ↦ [Go.SE.SV.int Go.IntKind.i64 (↑g : Int)]) i = [Go.SE.SV.int Go.IntKind.i64 (L.sel (L.shows f s) (fun (c : Nat) ↦ (↑c : Int)) g' i)]) ∧ g' ≤ (17 : Nat) ∧ (17 : Nat)
 - g' < (17 : Nat) - g) ∧ ((bif Decidable.decide ((0 : Int) ≤ Go.SE.nthI [L.tab (L.Film.mk f.id (L.Sq.mk f.grey.n fun (i : Nat) ↦ f.grey.g i)) (0 : Int), L.tab (L.Film.mk f.id (L.Sq.mk f.grey.n fun (i : Nat) ↦ f.grey.g i)) (1 : Int), L.tab (L.Film.mk f.id (L.Sq.mk f.grey.n fun (i : Nat) ↦ f.grey.g i)) (2 : Int), L.tab (L.Film.mk f.id (L.Sq.mk f.grey.n fun (i : Nat) ↦ f.grey.g i)) (3 : Int), L.tab
 (L.Film.mk f.id (L.Sq.mk f.grey.n fun (i : Nat) ↦ f.grey.g i)) (4 : Int), L.tab (L.Film.mk f.id (L.Sq.mk f.grey.n fun (i : Nat) ↦ f.grey.g i)) (5 : Int), L.tab (L.Film.mk f.id (L.Sq.mk f.grey.n fun (i : Nat) ↦ f.grey.g i)) (6 : Int), L.tab (L.Film.mk f.id (L.Sq.mk f.grey.n fun (i : Nat) ↦ f.grey.g i)) (7 : Int), L.tab (L.Film.mk f.id (L.Sq.mk f.grey.n fun (i : Nat) ↦ f.grey.g i)) (8 : Int), L.tab
 (L.Film.mk f.id (L.Sq.mk f.grey.n fun (i : Nat) ↦ f.grey.g i)) (9 : Int), L.tab (L.Film.mk f.id (L.Sq.mk f.grey.n fun (i : Nat) ↦ f.grey.g i)) (10 : Int), L.tab (L.Film.mk f.id (L.Sq.mk f.grey.n fun (i : Nat) ↦ f.grey.g i)) (11 : Int), L.tab (L.Film.mk f.id (L.Sq.mk f.grey.n fun (i : Nat) ↦ f.grey.g i)) (12 : Int), L.tab (L.Film.mk f.id (L.Sq.mk f.grey.n fun (i : Nat) ↦ f.grey.g i)) (13 : Int),
 L.tab (L.Film.mk f.id (L.Sq.mk f.grey.n fun (i : Nat) ↦ f.grey.g i)) (14 : Int), L.tab (L.Film.mk f.id (L.Sq.mk f.grey.n fun (i : Nat) ↦ f.grey.g i)) (15 : Int), L.tab (L.Film.mk f.id (L.Sq.mk f.grey.n fun (i : Nat) ↦ f.grey.g i)) (16 : Int)] (Int.toNat (↑g : Int))) then L.within (Go.SE.nthI [L.tab (L.Film.mk f.id (L.Sq.mk f.grey.n fun (i : Nat) ↦ f.grey.g i)) (0 : Int), L.tab (L.Film.mk f.id
 (L.Sq.mk f.grey.n fun (i : Nat) ↦ f.grey.g i)) (1 : Int), L.tab (L.Film.mk f.id (L.Sq.mk f.grey.n fun (i : Nat) ↦ f.grey.g i)) (2 : Int), L.tab (L.Film.mk f.id (L.Sq.mk f.grey.n fun (i : Nat) ↦ f.grey.g i)) (3 : Int), L.tab (L.Film.mk f.id (L.Sq.mk f.grey.n fun (i : Nat) ↦ f.grey.g i)) (4 : Int), L.tab (L.Film.mk f.id (L.Sq.mk f.grey.n fun (i : Nat) ↦ f.grey.g i)) (5 : Int), L.tab (L.Film.mk f.id
 (L.Sq.mk f.grey.n fun (i : Nat) ↦ f.grey.g i)) (6 : Int), L.tab (L.Film.mk f.id (L.Sq.mk f.grey.n fun (i : Nat) ↦ f.grey.g i)) (7 : Int), L.tab (L.Film.mk f.id (L.Sq.mk f.grey.n fun (i : Nat) ↦ f.grey.g i)) (8 : Int), L.tab (L.Film.mk f.id (L.Sq.mk f.grey.n fun (i : Nat) ↦ f.grey.g i)) (9 : Int), L.tab (L.Film.mk f.id (L.Sq.mk f.grey.n fun (i : Nat) ↦ f.grey.g i)) (10 : Int), L.tab (L.Film.mk f.id
 (L.Sq.mk f.grey.n fun (i : Nat) ↦ f.grey.g i)) (11 : Int), L.tab (L.Film.mk f.id (L.Sq.mk f.grey.n fun (i : Nat) ↦ f.grey.g i)) (12 : Int), L.tab (L.Film.mk f.id (L.Sq.mk f.grey.n fun (i : Nat) ↦ f.grey.g i)) (13 : Int), L.tab (L.Film.mk f.id (L.Sq.mk f.grey.n fun (i : Nat) ↦ f.grey.g i)) (14 : Int), L.tab (L.Film.mk f.id (L.Sq.mk f.grey.n fun (i : Nat) ↦ f.grey.g i)) (15 : Int), L.tab (L.Film.mk
 f.id (L.Sq.mk f.grey.n fun (i : Nat) ↦ f.grey.g i)) (16 : Int)] (Int.toNat (↑g : Int))) s.lo s.hi else Bool.false) = Bool.false → Go.SE.InK Go.IntKind.i64 ((↑g : Int) + (1 : Int)) ∧ ∃ (g' : Nat), (↑g : Int) + (1 : Int) = (↑g' : Int) ∧ Go.SE.SV.agg [Go.SE.SV.int Go.IntKind.i64 (L.tab (L.Film.mk f.id (L.Sq.mk f.grey.n fun (i : Nat) ↦ f.grey.g i)) (0 : Int)), Go.SE.SV.int Go.IntKind.i64 (L.tab
 (L.Film.mk f.id (L.Sq.mk f.grey.n fun (i : Nat) ↦ f.grey.g i)) (1 : Int)), Go.SE.SV.int Go.IntKind.i64 (L.tab (L.Film.mk f.id (L.Sq.mk f.grey.n fun (i : Nat) ↦ f.grey.g i)) (2 : Int)), Go.SE.SV.int Go.IntKind.i64 (L.tab (L.Film.mk f.id (L.Sq.mk f.grey.n fun (i : Nat) ↦ f.grey.g i)) (3 : Int)), Go.SE.SV.int Go.IntKind.i64 (L.tab (L.Film.mk f.id (L.Sq.mk f.grey.n fun (i : Nat) ↦ f.grey.g i)) (4 :
 Int)), Go.SE.SV.int Go.IntKind.i64 (L.tab (L.Film.mk f.id (L.Sq.mk f.grey.n fun (i : Nat) ↦ f.grey.g i)) (5 : Int)), Go.SE.SV.int Go.IntKind.i64 (L.tab (L.Film.mk f.id (L.Sq.mk f.grey.n fun (i : Nat) ↦ f.grey.g i)) (6 : Int)), Go.SE.SV.int Go.IntKind.i64 (L.tab (L.Film.mk f.id (L.Sq.mk f.grey.n fun (i : Nat) ↦ f.grey.g i)) (7 : Int)), Go.SE.SV.int Go.IntKind.i64 (L.tab (L.Film.mk f.id (L.Sq.mk
 f.grey.n fun (i : Nat) ↦ f.grey.g i)) (8 : Int)), Go.SE.SV.int Go.IntKind.i64 (L.tab (L.Film.mk f.id (L.Sq.mk f.grey.n fun (i : Nat) ↦ f.grey.g i)) (9 : Int)), Go.SE.SV.int Go.IntKind.i64 (L.tab (L.Film.mk f.id (L.Sq.mk f.grey.n fun (i : Nat) ↦ f.grey.g i)) (10 : Int)), Go.SE.SV.int Go.IntKind.i64 (L.tab (L.Film.mk f.id (L.Sq.mk f.grey.n fun (i : Nat) ↦ f.grey.g i)) (11 : Int)), Go.SE.SV.int
 Go.IntKind.i64 (L.tab (L.Film.mk f.id (L.Sq.mk f.grey.n fun (i : Nat) ↦ f.grey.g i)) (12 : Int)), Go.SE.SV.int Go.IntKind.i64 (L.tab (L.Film.mk f.id (L.Sq.mk f.grey.n fun (i : Nat) ↦ f.grey.g i)) (13 : Int)), Go.SE.SV.int Go.IntKind.i64 (L.tab (L.Film.mk f.id (L.Sq.mk f.grey.n fun (i : Nat) ↦ f.grey.g i)) (14 : Int)), Go.SE.SV.int Go.IntKind.i64 (L.tab (L.Film.mk f.id (L.Sq.mk f.grey.n fun (i :
 Nat) ↦ f.grey.g i)) (15 : Int)), Go.SE.SV.int Go.IntKind.i64 (L.tab (L.Film.mk f.id (L.Sq.mk f.grey.n fun (i : Nat) ↦ f.grey.g i)) (16 : Int))] = Go.SE.SV.agg [Go.SE.SV.int Go.IntKind.i64 (L.tab (L.Film.mk f.id (L.Sq.mk f.grey.n fun (i : Nat) ↦ f.grey.g i)) (0 : Int)), Go.SE.SV.int Go.IntKind.i64 (L.tab (L.Film.mk f.id (L.Sq.mk f.grey.n fun (i : Nat) ↦ f.grey.g i)) (1 : Int)), Go.SE.SV.int
 Go.IntKind.i64 (L.tab (L.Film.mk f.id (L.Sq.mk f.grey.n fun (i : Nat) ↦ f.grey.g i)) (2 : Int)), Go.SE.SV.int Go.IntKind.i64 (L.tab (L.Film.mk f.id (L.Sq.mk f.grey.n fun (i : Nat) ↦ f.grey.g i)) (3 : Int)), Go.SE.SV.int Go.IntKind.i64 (L.tab (L.Film.mk f.id (L.Sq.mk f.grey.n fun (i : Nat) ↦ f.grey.g i)) (4 : Int)), Go.SE.SV.int Go.IntKind.i64 (L.tab (L.Film.mk f.id (L.Sq.mk f.grey.n fun (i : Nat)
 ↦ f.grey.g i)) (5 : Int)), Go.SE.SV.int Go.IntKind.i64 (L.tab (L.Film.mk f.id (L.Sq.mk f.grey.n fun (i : Nat) ↦ f.grey.g i)) (6 : Int)), Go.SE.SV.int Go.IntKind.i64 (L.tab (L.Film.mk f.id (L.Sq.mk f.grey.n fun (i : Nat) ↦ f.grey.g i)) (7 : Int)), Go.SE.SV.int Go.IntKind.i64 (L.tab (L.Film.mk f.id (L.Sq.mk f.grey.n fun (i : Nat) ↦ f.grey.g i)) (8 : Int)), Go.SE.SV.int Go.IntKind.i64 (L.tab
 (L.Film.mk f.id (L.Sq.mk f.grey.n fun (i : Nat) ↦ f.grey.g i)) (9 : Int)), Go.SE.SV.int Go.IntKind.i64 (L.tab (L.Film.mk f.id (L.Sq.mk f.grey.n fun (i : Nat) ↦ f.grey.g i)) (10 : Int)), Go.SE.SV.int Go.IntKind.i64 (L.tab (L.Film.mk f.id (L.Sq.mk f.grey.n fun (i : Nat) ↦ f.grey.g i)) (11 : Int)), Go.SE.SV.int Go.IntKind.i64 (L.tab (L.Film.mk f.id (L.Sq.mk f.grey.n fun (i : Nat) ↦ f.grey.g i)) (12 :
 Int)), Go.SE.SV.int Go.IntKind.i64 (L.tab (L.Film.mk f.id (L.Sq.mk f.grey.n fun (i : Nat) ↦ f.grey.g i)) (13 : Int)), Go.SE.SV.int Go.IntKind.i64 (L.tab (L.Film.mk f.id (L.Sq.mk f.grey.n fun (i : Nat) ↦ f.grey.g i)) (14 : Int)), Go.SE.SV.int Go.IntKind.i64 (L.tab (L.Film.mk f.id (L.Sq.mk f.grey.n fun (i : Nat) ↦ f.grey.g i)) (15 : Int)), Go.SE.SV.int Go.IntKind.i64 (L.tab (L.Film.mk f.id (L.Sq.mk
 f.grey.n fun (i : Nat) ↦ f.grey.g i)) (16 : Int))] ∧ Go.SE.SV.ref [Go.SE.SV.int Go.IntKind.i64 s.lo, Go.SE.SV.int Go.IntKind.i64 s.hi] (nat_lit 0) = Go.SE.SV.ref [Go.SE.SV.int Go.IntKind.i64 s.lo, Go.SE.SV.int Go.IntKind.i64 s.hi] (nat_lit 0) ∧ (L.cnt (L.shows f s) g = L.cnt (L.shows f s) g' ∧ ∀ (i : Nat), i < L.cnt (L.shows f s) g → [Go.SE.SV.int Go.IntKind.i64 (L.sel (L.shows f s) (fun (c : Nat)
 ↦ (↑c : Int)) g i)] = [Go.SE.SV.int Go.IntKind.i64 (L.sel (L.shows f s) (fun (c : Nat) ↦ (↑c : Int)) g' i)]) ∧ g' ≤ (17 : Nat) ∧ (17 : Nat) - g' < (17 : Nat) - g)) ∧ (Decidable.decide ((↑g : Int) < (17 : Int)) = Bool.false → ((L.cnt (L.shows f s) g = bif L.validFilm f then L.cnt (L.shows f s) (17 : Nat) else (0 : Nat)) ∧ ∀ (i : Nat), i < L.cnt (L.shows f s) g → [Go.SE.SV.int Go.IntKind.i64 (L.sel
 (L.shows f s) (fun (c : Nat) ↦ (↑c : Int)) g i)] = [Go.SE.SV.int Go.IntKind.i64 (L.sel (L.shows f s) (fun (c : Nat) ↦ (↑c : Int)) (17 : Nat) i)]) ∧ (0 : Int) = bif L.validFilm f then (0 : Int) else (32 : Int)))) (by kernel_rfl) (by
    have hn : f.grey.n ≤ 1000000 := hp
    refine ⟨⟨fun _ _ => rfl, hn⟩, fun h => ?_, fun h => ?_⟩
    · have hv : L.validFilm f = false := by simpa using (show (!L.validFilm f) = true from h)
      rw [hv]; exact ⟨rfl, rfl⟩
    · have hv : L.validFilm f = true := by simpa using (show (!L.validFilm f) = false from h)
      refine ⟨⟨fun _ _ => rfl, hn⟩, ⟨(0 : Nat), rfl, ⟨rfl, fun i hi => absurd hi (Nat.not_lt_zero _)⟩, Nat.zero_le _⟩, fun g hg => ⟨fun hlt => ?_, fun hge => ?_⟩⟩
      · have hb : (g : Int) < 17 := of_decide_eq_true hlt
        have hc := cnt_le (p := L.shows f s) (n := g)
        refine ⟨⟨by omega, by show (g : Int) < ((17 : Nat) : Int); omega⟩, fun _ => trivial, fun h => ?_, fun h => ?_⟩
        · have h1 : L.shows f s g = true := by
            unfold L.shows; rw [← nth_tab (f := f) (show g < 17 by omega)]; exact h
          have c1 : L.cnt (L.shows f s) (g + 1) = L.cnt (L.shows f s) g + 1 := by simp [L.cnt, h1]
          refine ⟨show (L.cnt (L.shows f s) g + 1) * 8 ≤ 140737488355328 by omega, InK.of (by omega) (by omega), g + 1, by omega, rfl, rfl, ⟨c1.symm, fun i hi => ?_⟩, by omega, by omega⟩
          have hi : i < L.cnt (L.shows f s) g + 1 := hi
          unfold appGet
          by_cases h' : i < L.cnt (L.shows f s) g
          · rw [if_pos h']; simp [L.sel, h1, Nat.ne_of_lt h']
          · rw [if_neg h']
            have : i = L.cnt (L.shows f s) g := by omega
            simp [L.sel, h1, this]
        · have h1 : L.shows f s g = false := by
            unfold L.shows; rw [← nth_tab (f := f) (show g < 17 by omega)]; exact h
          refine ⟨InK.of (by omega) (by omega), g + 1, by omega, rfl, rfl, ⟨by simp [L.cnt, h1], fun i hi => by simp [L.sel, h1]⟩, by omega, by omega⟩
      · have hb : ¬ (g : Int) < 17 := of_decide_eq_false hge
        obtain rfl : g = 17 := by omega
        rw [hv]; exact ⟨⟨rfl, fun _ _ => rfl⟩, rfl⟩)
theorem g_Colours_ok : SpecOk Try.prog 31 g_Colours_S := fnX Try.func31 (c := bodyOf Try.f31) (by kernel_rfl) mixed (fun args p r hs hp => by
  unfold g_Colours_s at hs
  split at hs
  · cases hs; exact ⟨_, _, g_Colours_vc _ _ hp.2, (.p (.agg rfl (fun i hi => by
      rcases i with _ | i
      · exact (Ext.refl _ : Ext _ _)
      rcases i with _ | i
      · exact (Ext.sl hp.1 : Ext _ _)
      exact absurd hi (by simp; try omega))) (.same _ .nil)), ⟨show SpecsL Try.prog _ from (SpecsL.cons g_ValidFilm_ok g_ValidFilm_en (SpecsL.cons g_greys_ok g_greys_en (SpecsL.cons g_in_ok g_in_en SpecsL.nil))), rfl, ⟨show ItersL Try.prog _ from ItersL.nil, (TrsOk.none (fun _ => rfl))⟩⟩⟩
  · cases hs)
theorem g_Colours_en : Enters Try.prog 31 := fun args w => by kernel_rfl
def g_risingI_p (l : (L.Sq Int)) (p : FSpec) : Prop := l.n ≤ 1000000 ∧ ∀ i, i + 1 < l.n → p.pre [.int .i64 (l.g i), .int .i64 (l.g (i + 1))]
def g_risingI_r (l : (L.Sq Int)) (p : FSpec) : SV := .bool (L.rise l.n (fun i => L.fil p [.int .i64 (l.g (i - 1)), .int .i64 (l.g i)]))
def g_risingI_s : List EV → Option (Prop × SV)
  | [.p (.sl 1 l_n l_g), .fn p] => some ((∀ i, i < l_n → l_g i = [.int .i64 ((intOf (l_g i)))]) ∧ isI p ∧ g_risingI_p (⟨l_n, fun i => intOf (l_g i)⟩ : (L.Sq Int)) p, g_risingI_r (⟨l_n, fun i => intOf (l_g i)⟩ : (L.Sq Int)) p)
  | _ => none
abbrev g_risingI_S : SE.Spec := (specO g_risingI_s)
def g_risingI_C : Cfg := { muts := [], frz := lookN [], specs := lookS [], loops := fun _ => none, iters := lookI [], rfs := lookR [], nils := lookM [] }
theorem g_risingI_vc (l : (L.Sq Int)) (p : FSpec) (hp : g_risingI_p l p) : vc Try.prog ({ g_risingI_C with loops := lookL [(2, { T := Nat, keep := [0, 1, 6, 7], keepO := [], chg := fun i => [(8, .p (.int .i64 (i : Int)))], own := fun _ => [], inv := fun i => i ≤ l.n ∧ ∀ j, j < i → (!(bif decide (0 < (j : Int)) then decide (0 ≤ L.fil p [.int .i64 (l.g (j - 1)), .int .i64 (l.g j)]) else false)) = true, mu := fun i => l.n - i })], rfs := lookR [] }) (bodyOf Try.f77) (st0 Try.f77 [.p (.sl 1 l.n (fun i => [.int .i64 ((l.g i))])), .fn ⟨p.pre, fun xs => .int .i64 (L.fil p xs)⟩]) (retFn Try.prog Try.f77 (g_risingI_r l p)) :=
  @Eq.mpr _ ((∃ (g : Nat), (0 : Int) = (↑g : Int) ∧ g ≤ l.n ∧ ∀ (j : Nat), j < g → (!bif Decidable.decide ((0 : Int) < (↑j : Int)) then Decidable.decide ((0 : Int) ≤ L.fil p [Go.SE.SV.int Go.IntKind.i64 (l.g (j - (1 : Nat))), Go.SE.SV.int Go.IntKind.i64 (l.g j)]) else Bool.false) = Bool.true) ∧ ∀ (g : Nat), (g ≤ l.n ∧ ∀ (j : Nat), j < g → (!bif Decidable.decide ((0 : Int) < (↑j : Int)) then Decidable.decide
 ((0 : Int) ≤ L.fil p [Go.SE.SV.int Go.IntKind.i64 (l.g (j - (1 : Nat))), Go.SE.SV.int Go.IntKind.i64 (l.g j)]) else Bool.false) = Bool.true) → (Decidable.decide ((↑g : Int) < (↑l.n : Int)) = Bool.true → (Decidable.decide ((0 : Int) < (↑g : Int)) = Bool.true → Go.SE.InK Go.IntKind.i64 ((↑g : Int) - (1 : Int))) ∧ (Decidable.decide ((0 : Int) < (↑g : Int)) = Bool.true → (0 : Int) ≤ (↑g : Int) - (1 :
 Int) ∧ (↑g : Int) - (1 : Int) < (↑l.n : Int)) ∧ (Decidable.decide ((0 : Int) < (↑g : Int)) = Bool.true → (0 : Int) ≤ (↑g : Int) ∧ (↑g : Int) < (↑l.n : Int)) ∧ (Decidable.decide ((0 : Int) < (↑g : Int)) = Bool.true → p.1 [Go.SE.SV.int Go.IntKind.i64 (l.g (Int.toNat ((↑g : Int) - (1 : Int)))), Go.SE.SV.int Go.IntKind.i64 (l.g (Int.toNat (↑g : Int)))]) ∧ ((bif Decidable.decide ((0 : Int) < (↑g :
 Int)) then Decidable.decide ((0 : Int) ≤ L.fil p [Go.SE.SV.int Go.IntKind.i64 (l.g (Int.toNat ((↑g : Int) - (1 : Int)))), Go.SE.SV.int Go.IntKind.i64 (l.g (Int.toNat (↑g : Int)))]) else Bool.false) = Bool.true → Bool.false = L.rise l.n fun (i : Nat) ↦ L.fil p [Go.SE.SV.int Go.IntKind.i64 (l.g (i - (1 : Nat))), Go.SE.SV.int Go.IntKind.i64 (l.g i)]) ∧ ((bif Decidable.decide ((0 : Int) < (↑g : Int))
 then Decidable.decide ((0 : Int) ≤ L.fil p [Go.SE.SV.int Go.IntKind.i64 (l.g (Int.toNat ((↑g : Int) - (1 : Int)))), Go.SE.SV.int Go.IntKind.i64 (l.g (Int.toNat (↑g : Int)))]) else Bool.false) = Bool.false → Go.SE.InK Go.IntKind.i64 ((↑g : Int) + (1 : Int)) ∧ ∃ (g' : Nat), (↑g : Int) + (1 : Int) = (↑g' : Int) ∧ (↑l.n : Int) = (↑l.n : Int) ∧ (l.n = l.n ∧ ∀ (i : Nat), i < l.n → [Go.SE.SV.int
 Go.IntKind.i64 (l.g i)] = [Go.SE.SV.int Go.IntKind.i64 (l.g i)]) ∧ (l.n = l.n ∧ ∀ (i : Nat), i < l.n → [Go.SE.SV.int Go.IntKind.i64 (l.g i)] = [Go.SE.SV.int Go.IntKind.i64 (l.g i)]) ∧ ((Go.SE.FSpec.mk p.pre fun (xs : List Go.SE.SV) ↦ Go.SE.SV.int Go.IntKind.i64 (L.fil p xs)) = Go.SE.FSpec.mk p.pre fun (xs : List Go.SE.SV) ↦ Go.SE.SV.int Go.IntKind.i64 (L.fil p xs)) ∧ (g' ≤ l.n ∧ ∀ (j : Nat), j <
 g' → (!bif Decidable.decide ((0 : Int) < (↑j : Int)) then Decidable.decide ((0 : Int) ≤ L.fil p [Go.SE.SV.int Go.IntKind.i64 (l.g (j - (1 : Nat))), Go.SE.SV.int Go.IntKind.i64 (l.g j)]) else Bool.false) = Bool.true) ∧ l.n - g' < l.n - g)) ∧ (Decidable.decide ((↑g : Int) < (↑l.n : Int)) = Bool.false → Bool.true = L.rise l.n fun (i : Nat) ↦ L.fil p [Go.SE.SV.int Go.IntKind.i64 (l.g (i - (1 : Nat))),
 Go.SE.SV.int Go.IntKind.i64 (l.g i)])) (by kernel_rfl) (by
    obtain ⟨hn, hpre⟩ := hp
    refine ⟨⟨(0 : Nat), rfl, Nat.zero_le _, fun j hj => absurd hj (Nat.not_lt_zero _)⟩, fun g hg => ⟨fun hlt => ?_, fun hge => ?_⟩⟩
    · have hb : (g : Int) < (l.n : Int) := by simpa using hlt
      have e0 : ((g : Int)).toNat = g := by omega
      have e1 : ((g : Int) - 1).toNat = g - 1 := by omega
      rw [e0, e1]
      refine ⟨fun _ => InK.of (by omega) (by omega), fun h => by have := of_decide_eq_true h; omega, fun _ => by omega, fun h => ?_, fun h => ?_, fun h => ?_⟩
      · have h0 : (0 : Int) < g := of_decide_eq_true h
        have := hpre (g - 1) (by omega)
        rw [show g - 1 + 1 = g by omega] at this
        exact this
      · unfold L.rise
        rw [allB_false (i := g) (by omega) (by rw [h]; rfl)]
      · exact ⟨InK.of (by omega) (by omega), g + 1, by omega, rfl, ⟨rfl, fun _ _ => rfl⟩, ⟨rfl, fun _ _ => rfl⟩, rfl, ⟨by omega, fun j hj => by
          rcases Nat.lt_succ_iff_lt_or_eq.1 hj with h' | rfl
          · exact hg.2 j h'
          · rw [h]; rfl⟩, by omega⟩
    · have hb : ¬ (g : Int) < (l.n : Int) := by simpa using hge
      unfold L.rise
      rw [allB_iff.2 (fun i hi => hg.2 i (by omega))])
theorem g_risingI_ok : SpecOk Try.prog 77 g_risingI_S := fnX Try.func77 (c := bodyOf Try.f77) (by kernel_rfl) mixed (fun args p r hs hp => by
  unfold g_risingI_s at hs
  split at hs
  · cases hs; exact ⟨_, _, g_risingI_vc _ _ hp.2.2, (.p (.sl hp.1) (.fn (fun xs h => ⟨h, (fil_res hp.2.1 h).symm⟩) .nil)), ⟨show SpecsL Try.prog _ from SpecsL.nil, rfl, ⟨show ItersL Try.prog _ from ItersL.nil, (TrsOk.none (fun _ => rfl))⟩⟩⟩
  · cases hs)
theorem g_risingI_en : Enters Try.prog 77 := fun args w => by kernel_rfl
theorem g_risingI_B : ∀ args p r, g_risingI_s args = some (p, r) → ∃ b, r = .bool b := by
  intro args p r h
  unfold g_risingI_s at h
  split at h
  · cases h; exact ⟨_, rfl⟩
  · cases h
def g_Greys1_p (c : Int) : Prop := True
def g_Greys1_r (c : Int) : SV := .bool (!L.within c 1 16)
def g_Greys1_s : List EV → Option (Prop × SV)
  | [.p (.int .i64 c)] => some (g_Greys1_p c, g_Greys1_r c)
  | _ => none
abbrev g_Greys1_S : SE.Spec := (specO g_Greys1_s)
def g_Greys1_C : Cfg := { muts := [], frz := lookN [], specs := lookS [(52, g_within_S)], loops := lookL [], iters := lookI [], rfs := lookR [], nils := lookM [] }
theorem g_Greys1_vc (c : Int) (hp : g_Greys1_p c) : vc Try.prog (g_Greys1_C) (bodyOf Try.f79) (st0 Try.f79 [.p (.int .i64 c)]) (retFn Try.prog Try.f79 (g_Greys1_r c)) :=
  @Eq.mpr _ (True ∧ (!L.within c (1 : Int) (16 : Int)) = !L.within c (1 : Int) (16 : Int)) (by kernel_rfl) (by
    exact ⟨trivial, rfl⟩)
theorem g_Greys1_ok : SpecOk Try.prog 79 g_Greys1_S := fnX Try.func79 (c := bodyOf Try.f79) (by kernel_rfl) mixed (fun args p r hs hp => by
  unfold g_Greys1_s at hs
  split at hs
  · cases hs; exact ⟨_, _, g_Greys1_vc _ hp, (.same _ .nil), ⟨show SpecsL Try.prog _ from (SpecsL.cons g_within_ok g_within_en SpecsL.nil), rfl, ⟨show ItersL Try.prog _ from ItersL.nil, (TrsOk.none (fun _ => rfl))⟩⟩⟩
  · cases hs)
theorem g_Greys1_en : Enters Try.prog 79 := fun args w => by kernel_rfl
theorem g_Greys1_B : ∀ args p r, g_Greys1_s args = some (p, r) → ∃ b, r = .bool b := by
  intro args p r h
  unfold g_Greys1_s at h
  split at h
  · cases h; exact ⟨_, rfl⟩
  · cases h
def g_Greys_p (f : L.Film) (cs : (L.Sq Int)) : Prop := f.grey.n ≤ 1000000 ∧ cs.n ≤ 1000000
def g_Greys_r (f : L.Film) (cs : (L.Sq Int)) : SV := .tup [.agg [.int .i64 (bif decide (L.gErr f cs = 0) then L.gLo f cs.g cs.n else 0), .int .i64 (bif decide (L.gErr f cs = 0) then L.gHi f cs.g cs.n else 0)], .int .i64 (L.gErr f cs)]
def g_Greys_s : List EV → Option (Prop × SV)
  | [.p (.agg [.int .i64 f_id, .sl 1 f_grey_n f_grey_g]), .p (.sl 1 cs_n cs_g)] => some ((∀ i, i < f_grey_n → f_grey_g i = [.int .i64 ((intOf (f_grey_g i)))]) ∧ (∀ i, i < cs_n → cs_g i = [.int .i64 ((intOf (cs_g i)))]) ∧ g_Greys_p (⟨f_id, (⟨f_grey_n, fun i => intOf (f_grey_g i)⟩ : (L.Sq Int))⟩ : L.Film) (⟨cs_n, fun i => intOf (cs_g i)⟩ : (L.Sq Int)), g_Greys_r (⟨f_id, (⟨f_grey_n, fun i => intOf (f_grey_g i)⟩ : (L.Sq Int))⟩ : L.Film) (⟨cs_n, fun i => intOf (cs_g i)⟩ : (L.Sq Int)))
  | _ => none
abbrev g_Greys_S : SE.Spec := (specO g_Greys_s)
def g_Greys_C : Cfg := { muts := [], frz := lookN [], specs := lookS [(17, g_ValidFilm_S), (76, g_greys_S), (77, g_risingI_S), (78, c_cmp_S), (62, s_conFI_S), (79, g_Greys1_S)], loops := fun _ => none, iters := lookI [], rfs := lookR [], nils := lookM [], arrs := [6] }
theorem g_Greys_vc (f : L.Film) (cs : (L.Sq Int)) (hp : g_Greys_p f cs) : vc Try.prog ({ g_Greys_C with loops := lookL [(8, { T := Nat, keep := [4, 5, 6, 7, 26, 27], keepO := [4, 6], chg := fun i => [(28, .p (.int .i64 (i : Int)))], own := fun i => [(7, .blk 48 [.p (.int .i64 (L.gLo f cs.g i)), .p (.int .i64 (L.gHi f cs.g i))])], inv := fun i => i ≤ cs.n ∧ ∀ j, j < i → 0 ≤ L.tab f (cs.g j), mu := fun i => cs.n - i })], rfs := lookR [] }) (bodyOf Try.f32) (st0 Try.f32 [.p (.agg [.int .i64 f.id, .sl 1 f.grey.n (fun i => [.int .i64 ((f.grey.g i))])]), .p (.sl 1 cs.n (fun i => [.int .i64 ((cs.g i))]))]) (retFn Try.prog Try.f32 (g_Greys_r f cs)) :=
  @Eq.mpr _ (((∀ (i : Nat), i < f.grey.n → [Go.SE.SV.int Go.IntKind.i64 (f.grey.g i)] = [Go.SE.SV.int Go.IntKind.i64 (f.grey.g i)]) ∧ f.grey.n ≤ (1000000 : Nat)) ∧ ((!L.validFilm (L.Film.mk f.id (L.Sq.mk f.grey.n fun (i : Nat) ↦ f.grey.g i))) = Bool.true → Go.SE.SV.agg [Go.SE.SV.int Go.IntKind.i64 (0 : Int), Go.SE.SV.int Go.IntKind.i64 (0 : Int)] = Go.SE.SV.agg [Go.SE.SV.int Go.IntKind.i64 (bif
 Decidable.decide (L.gErr f cs = (0 : Int)) then L.gLo f cs.g cs.n else (0 : Int)), Go.SE.SV.int Go.IntKind.i64 (bif Decidable.decide (L.gErr f cs = (0 : Int)) then L.gHi f cs.g cs.n else (0 : Int))] ∧ (32 : Int) = L.gErr f cs) ∧ ((!L.validFilm (L.Film.mk f.id (L.Sq.mk f.grey.n fun (i : Nat) ↦ f.grey.g i))) = Bool.false → ((∀ (i : Nat), i < cs.n → [Go.SE.SV.int Go.IntKind.i64 (cs.g i)] =
 [Go.SE.SV.int Go.IntKind.i64 (cs.g i)]) ∧ Go.SE.isI (Go.SE.FSpec.mk (fun («as» : List Go.SE.SV) ↦ Go.SE.preO c_cmp_s (List.map Go.SE.EV.p «as» ++ List.map Go.SE.EV.p [])) fun («as» : List Go.SE.SV) ↦ Go.SE.resO c_cmp_s (List.map Go.SE.EV.p «as» ++ List.map Go.SE.EV.p [])) ∧ cs.n ≤ (1000000 : Nat) ∧ ∀ (i : Nat), i + (1 : Nat) < cs.n → True) ∧ ((!!L.rise cs.n fun (i : Nat) ↦ L.fil (Go.SE.FSpec.mk
 (fun («as» : List Go.SE.SV) ↦ Go.SE.preO c_cmp_s (List.map Go.SE.EV.p «as» ++ List.map Go.SE.EV.p [])) fun («as» : List Go.SE.SV) ↦ Go.SE.resO c_cmp_s (List.map Go.SE.EV.p «as» ++ List.map Go.SE.EV.p [])) [Go.SE.SV.int Go.IntKind.i64 (cs.g (i - (1 : Nat))), Go.SE.SV.int Go.IntKind.i64 (cs.g i)]) = Bool.true → (∀ (i : Nat), i < cs.n → [Go.SE.SV.int Go.IntKind.i64 (cs.g i)] = [Go.SE.SV.int
 Go.IntKind.i64 (cs.g i)]) ∧ Go.SE.isB (Go.SE.FSpec.mk (fun («as» : List Go.SE.SV) ↦ Go.SE.preO g_Greys1_s (List.map Go.SE.EV.p «as» ++ List.map Go.SE.EV.p [])) fun («as» : List Go.SE.SV) ↦ Go.SE.resO g_Greys1_s (List.map Go.SE.EV.p «as» ++ List.map Go.SE.EV.p [])) ∧ cs.n ≤ (1000000 : Nat) ∧ ∀ (i : Nat), i < cs.n → True) ∧ ((bif !L.rise cs.n fun (i : Nat) ↦ L.fil (Go.SE.FSpec.mk (fun («as» : List
 Go.SE.SV) ↦ Go.SE.preO c_cmp_s (List.map Go.SE.EV.p «as» ++ List.map Go.SE.EV.p [])) fun («as» : List Go.SE.SV) ↦ Go.SE.resO c_cmp_s (List.map Go.SE.EV.p «as» ++ List.map Go.SE.EV.p [])) [Go.SE.SV.int Go.IntKind.i64 (cs.g (i - (1 : Nat))), Go.SE.SV.int Go.IntKind.i64 (cs.g i)] then Bool.true else L.anyB cs.n fun (i : Nat) ↦ L.fbl (Go.SE.FSpec.mk (fun («as» : List Go.SE.SV) ↦ Go.SE.preO g_Greys1_s
 (List.map Go.SE.EV.p «as» ++ List.map Go.SE.EV.p [])) fun («as» : List Go.SE.SV) ↦ Go.SE.resO g_Greys1_s (List.map Go.SE.EV.p «as» ++ List.map Go.SE.EV.p [])) [Go.SE.SV.int Go.IntKind.i64 (cs.g i)]) = Bool.true → Go.SE.SV.agg [Go.SE.SV.int Go.IntKind.i64 (0 : Int), Go.SE.SV.int Go.IntKind.i64 (0 : Int)] = Go.SE.SV.agg [Go.SE.SV.int Go.IntKind.i64 (bif Decidable.decide (L.gErr f cs = (0 : Int))
 then L.gLo f cs.g cs.n else (0 : Int)), Go.SE.SV.int Go.IntKind.i64 (bif Decidable.decide (L.gErr f cs = (0 : Int)) then L.gHi f cs.g cs.n else (0 : Int))] ∧ (1 : Int) = L.gErr f cs) ∧ ((bif !L.rise cs.n fun (i : Nat) ↦ L.fil (Go.SE.FSpec.mk (fun («as» : List Go.SE.SV) ↦ Go.SE.preO c_cmp_s (List.map Go.SE.EV.p «as» ++ List.map Go.SE.EV.p [])) fun («as» : List Go.SE.SV) ↦ Go.SE.resO c_cmp_s
 (List.map Go.SE.EV.p «as» ++ List.map Go.SE.EV.p [])) [Go.SE.SV.int Go.IntKind.i64 (cs.g (i - (1 : Nat))), Go.SE.SV.int Go.IntKind.i64 (cs.g i)] then Bool.true else L.anyB cs.n fun (i : Nat) ↦ L.fbl (Go.SE.FSpec.mk (fun («as» : List Go.SE.SV) ↦ Go.SE.preO g_Greys1_s (List.map Go.SE.EV.p «as» ++ List.map Go.SE.EV.p [])) fun («as» : List Go.SE.SV) ↦ Go.SE.resO g_Greys1_s (List.map Go.SE.EV.p «as» ++
 List.map Go.SE.EV.p [])) [Go.SE.SV.int Go.IntKind.i64 (cs.g i)]) = Bool.false → ((∀ (i : Nat), i < f.grey.n → [Go.SE.SV.int Go.IntKind.i64 (f.grey.g i)] = [Go.SE.SV.int Go.IntKind.i64 (f.grey.g i)]) ∧ f.grey.n ≤ (1000000 : Nat)) ∧ (∃ (g : Nat), (0 : Int) = (↑g : Int) ∧ (1 : Int) = L.gLo f cs.g g ∧ (0 : Int) = L.gHi f cs.g g ∧ g ≤ cs.n ∧ ∀ (j : Nat), j < g → (0 : Int) ≤ L.tab f (cs.g j)) ∧ ∀ (g :
 Nat), (g ≤ cs.n ∧ ∀ (j : Nat), j < g → (0 : Int) ≤ L.tab f (cs.g j)) → (Decidable.decide ((↑g : Int) < (↑cs.n : Int)) = Bool.true → ((0 : Int) ≤ (↑g : Int) ∧ (↑g : Int) < (↑cs.n : Int)) ∧ ((0 : Int) ≤ cs.g (Int.toNat (↑g : Int)) ∧ cs.g (Int.toNat (↑g : Int)) < (↑(17 : Nat) : Int)) ∧ nat_lit 0 + Int.toNat (cs.g (Int.toNat (↑g : Int))) < nat_lit 17 ∧ (Decidable.decide (Go.SE.nthI [L.tab (L.Film.mk
 f.id (L.Sq.mk f.grey.n fun (i : Nat) ↦ f.grey.g i)) (0 : Int), L.tab (L.Film.mk f.id (L.Sq.mk f.grey.n fun (i : Nat) ↦ f.grey.g i)) (1 : Int), L.tab (L.Film.mk f.id (L.Sq.mk f.grey.n fun (i : Nat) ↦ f.grey.g i)) (2 : Int), L.tab (L.Film.mk f.id (L.Sq.mk f.grey.n fun (i : Nat) ↦ f.grey.g i)) (3 : Int), L.tab (L.Film.mk f.id (L.Sq.mk f.grey.n fun (i : Nat) ↦ f.grey.g i)) (4 : Int), L.tab (L.Film.mk
 f.id (L.Sq.mk f.grey.n fun (i : Nat) ↦ f.grey.g i)) (5 : Int), L.tab (L.Film.mk f.id (L.Sq.mk f.grey.n fun (i : Nat) ↦ f.grey.g i)) (6 : Int), L.tab (L.Film.mk f.id (L.Sq.mk f.grey.n fun (i : Nat) ↦ f.grey.g i)) (7 : Int), L.tab (L.Film.mk f.id (L.Sq.mk f.grey.n fun (i : Nat) ↦ f.grey.g i)) (8 : Int), L.tab (L.Film.mk f.id (L.Sq.mk f.grey.n fun (i : Nat) ↦ f.grey.g i)) (9 : Int), L.tab (L.Film.mk
 f.id (L.Sq.mk f.grey.n fun (i : Nat) ↦ f.grey.g i)) (10 : Int), L.tab (L.Film.mk f.id (L.Sq.mk f.grey.n fun (i : Nat) ↦ f.grey.g i)) (11 : Int), L.tab (L.Film.mk f.id (L.Sq.mk f.grey.n fun (i : Nat) ↦ f.grey.g i)) (12 : Int), L.tab (L.Film.mk f.id (L.Sq.mk f.grey.n fun (i : Nat) ↦ f.grey.g i)) (13 : Int), L.tab (L.Film.mk f.id (L.Sq.mk f.grey.n fun (i : Nat) ↦ f.grey.g i)) (14 : Int), L.tab
 (L.Film.mk f.id (L.Sq.mk f.grey.n fun (i : Nat) ↦ f.grey.g i)) (15 : Int), L.tab (L.Film.mk f.id (L.Sq.mk f.grey.n fun (i : Nat) ↦ f.grey.g i)) (16 : Int)] (nat_lit 0 + Int.toNat (cs.g (Int.toNat (↑g : Int)))) < (0 : Int)) = Bool.true → Go.SE.SV.agg [Go.SE.SV.int Go.IntKind.i64 (0 : Int), Go.SE.SV.int Go.IntKind.i64 (0 : Int)] = Go.SE.SV.agg [Go.SE.SV.int Go.IntKind.i64 (bif Decidable.decide
 (L.gErr f cs = (0 : Int)) then L.gLo f cs.g cs.n else (0 : Int)), Go.SE.SV.int Go.IntKind.i64 (bif Decidable.decide (L.gErr f cs = (0 : Int)) then L.gHi f cs.g cs.n else (0 : Int))] ∧ (3 : Int) = L.gErr f cs) ∧ (Decidable.decide (Go.SE.nthI [L.tab (L.Film.mk f.id (L.Sq.mk f.grey.n fun (i : Nat) ↦ f.grey.g i)) (0 : Int), L.tab (L.Film.mk f.id (L.Sq.mk f.grey.n fun (i : Nat) ↦ f.grey.g i)) (1 :
 Int), L.tab (L.Film.mk f.id (L.Sq.mk f.grey.n fun (i : Nat) ↦ f.grey.g i)) (2 : Int), L.tab (L.Film.mk f.id (L.Sq.mk f.grey.n fun (i : Nat) ↦ f.grey.g i)) (3 : Int), L.tab (L.Film.mk f.id (L.Sq.mk f.grey.n fun (i : Nat) ↦ f.grey.g i)) (4 : Int), L.tab (L.Film.mk f.id (L.Sq.mk f.grey.n fun (i : Nat) ↦ f.grey.g i)) (5 : Int), L.tab (L.Film.mk f.id (L.Sq.mk f.grey.n fun (i : Nat) ↦ f.grey.g i)) (6 :
 Int), L.tab (L.Film.mk f.id (L.Sq.mk f.grey.n fun (i : Nat) ↦ f.grey.g i)) (7 : Int), L.tab (L.Film.mk f.id (L.Sq.mk f.grey.n fun (i : Nat) ↦ f.grey.g i)) (8 : Int), L.tab (L.Film.mk f.id (L.Sq.mk f.grey.n fun (i : Nat) ↦ f.grey.g i)) (9 : Int), L.tab (L.Film.mk f.id (L.Sq.mk f.grey.n fun (i : Nat) ↦ f.grey.g i)) (10 : Int), L.tab (L.Film.mk f.id (L.Sq.mk f.grey.n fun (i : Nat) ↦ f.grey.g i)) (11
 : Int), L.tab (L.Film.mk f.id (L.Sq.mk f.grey.n fun (i : Nat) ↦ f.grey.g i)) (12 : Int), L.tab (L.Film.mk f.id (L.Sq.mk f.grey.n fun (i : Nat) ↦ f.grey.g i)) (13 : Int), L.tab (L.Film.mk f.id (L.Sq.mk f.grey.n fun (i : Nat) ↦ f.grey.g i)) (14 : Int), L.tab (L.Film.mk f.id (L.Sq.mk f.grey.n fun (i : Nat) ↦ f.grey.g i)) (15 : Int), L.tab (L.Film.mk f.id (L.Sq.mk f.grey.n fun (i : Nat) ↦ f.grey.g i))
 (16 : Int)] (nat_lit 0 + Int.toNat (cs.g (Int.toNat (↑g : Int)))) < (0 : Int)) = Bool.false → (Decidable.decide ((↑g : Int) = (0 : Int)) = Bool.true → Go.SE.InK Go.IntKind.i64 ((↑g : Int) + (1 : Int)) ∧ ∃ (g' : Nat), (↑g : Int) + (1 : Int) = (↑g' : Int) ∧ (↑cs.n : Int) = (↑cs.n : Int) ∧ (cs.n = cs.n ∧ ∀ (i : Nat), i < cs.n → [Go.SE.SV.int Go.IntKind.i64 (cs.g i)] = [Go.SE.SV.int Go.IntKind.i64
 (cs.g i)]) ∧ nat_lit 0 = nat_lit 0 ∧ (nat_lit 0 = nat_lit 0 ∧ nat_lit 0 = nat_lit 0) ∧ (0 : Int) = (0 : Int) ∧ nat_lit 0 = nat_lit 0 ∧ Min.min (Go.SE.nthI [L.tab (L.Film.mk f.id (L.Sq.mk f.grey.n fun (i : Nat) ↦ f.grey.g i)) (0 : Int), L.tab (L.Film.mk f.id (L.Sq.mk f.grey.n fun (i : Nat) ↦ f.grey.g i)) (1 : Int), L.tab (L.Film.mk f.id (L.Sq.mk f.grey.n fun (i : Nat) ↦ f.grey.g i)) (2 : Int),
 L.tab (L.Film.mk f.id (L.Sq.mk f.grey.n fun (i : Nat) ↦ f.grey.g i)) (3 : Int), L.tab (L.Film.mk f.id (L.Sq.mk f.grey.n fun (i : Nat) ↦ f.grey.g i)) (4 : Int), L.tab (L.Film.mk f.id (L.Sq.mk f.grey.n fun (i : Nat) ↦ f.grey.g i)) (5 : Int), L.tab (L.Film.mk f.id (L.Sq.mk f.grey.n fun (i : Nat) ↦ f.grey.g i)) (6 : Int), L.tab (L.Film.mk f.id (L.Sq.mk f.grey.n fun (i : Nat) ↦ f.grey.g i)) (7 : Int),
 L.tab (L.Film.mk f.id (L.Sq.mk f.grey.n fun (i : Nat) ↦ f.grey.g i)) (8 : Int), L.tab (L.Film.mk f.id (L.Sq.mk f.grey.n fun (i : Nat) ↦ f.grey.g i)) (9 : Int), L.tab (L.Film.mk f.id (L.Sq.mk f.grey.n fun (i : Nat) ↦ f.grey.g i)) (10 : Int), L.tab (L.Film.mk f.id (L.Sq.mk f.grey.n fun (i : Nat) ↦ f.grey.g i)) (11 : Int), L.tab (L.Film.mk f.id (L.Sq.mk f.grey.n fun (i : Nat) ↦ f.grey.g i)) (12 :
 Int), L.tab (L.Film.mk f.id (L.Sq.mk f.grey.n fun (i : Nat) ↦ f.grey.g i)) (13 : Int), L.tab (L.Film.mk f.id (L.Sq.mk f.grey.n fun (i : Nat) ↦ f.grey.g i)) (14 : Int), L.tab (L.Film.mk f.id (L.Sq.mk f.grey.n fun (i : Nat) ↦ f.grey.g i)) (15 : Int), L.tab (L.Film.mk f.id (L.Sq.mk f.grey.n fun (i : Nat) ↦ f.grey.g i)) (16 : Int)] (nat_lit 0 + Int.toNat (cs.g (Int.toNat (↑g : Int))))) (Go.SE.nthI
 [L.tab (L.Film.mk f.id (L.Sq.mk f.grey.n fun (i : Nat) ↦ f.grey.g i)) (0 : Int), L.tab (L.Film.mk f.id (L.Sq.mk f.grey.n fun (i : Nat) ↦ f.grey.g i)) (1 : Int), L.tab (L.Film.mk f.id (L.Sq.mk f.grey.n fun (i : Nat) ↦ f.grey.g i)) (2 : Int), L.tab (L.Film.mk f.id (L.Sq.mk f.grey.n fun (i : Nat) ↦ f.grey.g i)) (3 : Int), L.tab (L.Film.mk f.id (L.Sq.mk f.grey.n fun (i : Nat) ↦ f.grey.g i)) (4 : Int),
 L.tab (L.Film.mk f.id (L.Sq.mk f.grey.n fun (i : Nat) ↦ f.grey.g i)) (5 : Int), L.tab (L.Film.mk f.id (L.Sq.mk f.grey.n fun (i : Nat) ↦ f.grey.g i)) (6 : Int), L.tab (L.Film.mk f.id (L.Sq.mk f.grey.n fun (i : Nat) ↦ f.grey.g i)) (7 : Int), L.tab (L.Film.mk f.id (L.Sq.mk f.grey.n fun (i : Nat) ↦ f.grey.g i)) (8 : Int), L.tab (L.Film.mk f.id (L.Sq.mk f.grey.n fun (i : Nat) ↦ f.grey.g i)) (9 : Int),
 L.tab (L.Film.mk f.id (L.Sq.mk f.grey.n fun (i : Nat) ↦ f.grey.g i)) (10 : Int), L.tab (L.Film.mk f.id (L.Sq.mk f.grey.n fun (i : Nat) ↦ f.grey.g i)) (11 : Int), L.tab (L.Film.mk f.id (L.Sq.mk f.grey.n fun (i : Nat) ↦ f.grey.g i)) (12 : Int), L.tab (L.Film.mk f.id (L.Sq.mk f.grey.n fun (i : Nat) ↦ f.grey.g i)) (13 : Int), L.tab (L.Film.mk f.id (L.Sq.mk f.grey.n fun (i : Nat) ↦ f.grey.g i)) (14 :
 Int), L.tab (L.Film.mk f.id (L.Sq.mk f.grey.n fun (i : Nat) ↦ f.grey.g i)) (15 : Int), L.tab (L.Film.mk f.id (L.Sq.mk f.grey.n fun (i : Nat) ↦ f.grey.g i)) (16 : Int)] (nat_lit 0 + Int.toNat (cs.g (Int.toNat (↑g : Int))))) = L.gLo f cs.g g' ∧ Max.max (Go.SE.nthI [L.tab (L.Film.mk f.id (L.Sq.mk f.grey.n fun (i : Nat) ↦ f.grey.g i)) (0 : Int), L.tab (L.Film.mk f.id (L.Sq.mk f.grey.n fun (i : Nat) ↦
 f.grey.g i)) (1 : Int), L.tab (L.Film.mk f.id (L.Sq.mk f.grey.n fun (i : Nat) ↦ f.grey.g i)) (2 : Int), L.tab (L.Film.mk f.id (L.Sq.mk f.grey.n fun (i : Nat) ↦ f.grey.g i)) (3 : Int), L.tab (L.Film.mk f.id (L.Sq.mk f.grey.n fun (i : Nat) ↦ f.grey.g i)) (4 : Int), L.tab (L.Film.mk f.id (L.Sq.mk f.grey.n fun (i : Nat) ↦ f.grey.g i)) (5 : Int), L.tab (L.Film.mk f.id (L.Sq.mk f.grey.n fun (i : Nat) ↦
 f.grey.g i)) (6 : Int), L.tab (L.Film.mk f.id (L.Sq.mk f.grey.n fun (i : Nat) ↦ f.grey.g i)) (7 : Int), L.tab (L.Film.mk f.id (L.Sq.mk f.grey.n fun (i : Nat) ↦ f.grey.g i)) (8 : Int), L.tab (L.Film.mk f.id (L.Sq.mk f.grey.n fun (i : Nat) ↦ f.grey.g i)) (9 : Int), L.tab (L.Film.mk f.id (L.Sq.mk f.grey.n fun (i : Nat) ↦ f.grey.g i)) (10 : Int), L.tab (L.Film.mk f.id (L.Sq.mk f.grey.n fun (i : Nat) ↦
 f.grey.g i)) (11 : Int), L.tab (L.Film.mk f.id (L.Sq.mk f.grey.n fun (i : Nat) ↦ f.grey.g i)) (12 : Int), L.tab (L.Film.mk f.id (L.Sq.mk f.grey.n fun (i : Nat) ↦ f.grey.g i)) (13 : Int), L.tab (L.Film.mk f.id (L.Sq.mk f.grey.n fun (i : Nat) ↦ f.grey.g i)) (14 : Int), L.tab (L.Film.mk f.id (L.Sq.mk f.grey.n fun (i : Nat) ↦ f.grey.g i)) (15 : Int), L.tab (L.Film.mk f.id (L.Sq.mk f.grey.n fun (i :
 Nat) ↦ f.grey.g i)) (16 : Int)] (nat_lit 0 + Int.toNat (cs.g (Int.toNat (↑g : Int))))) (Go.SE.nthI [L.tab (L.Film.mk f.id (L.Sq.mk f.grey.n fun (i : Nat) ↦ f.grey.g i)) (0 : Int), L.tab (L.Film.mk f.id (L.Sq.mk f.grey.n fun (i : Nat) ↦ f.grey.g i)) (1 : Int), L.tab (L.Film.mk f.id (L.Sq.mk f.grey.n fun (i : Nat) ↦ f.grey.g i)) (2 : Int), L.tab (L.Film.mk f.id (L.Sq.mk f.grey.n fun (i : Nat) ↦
 f.grey.g i)) (3 : Int), L.tab (L.Film.mk f.id (L.Sq.mk f.grey.n fun (i : Nat) ↦ f.grey.g i)) (4 : Int), L.tab (L.Film.mk f.id (L.Sq.mk f.grey.n fun (i : Nat) ↦ f.grey.g i)) (5 : Int), L.tab (L.Film.mk f.id (L.Sq.mk f.grey.n fun (i : Nat) ↦ f.grey.g i)) (6 : Int), L.tab (L.Film.mk f.id (L.Sq.mk f.grey.n fun (i : Nat) ↦ f.grey.g i)) (7 : Int), L.tab (L.Film.mk f.id (L.Sq.mk f.grey.n fun (i : Nat) ↦
 f.grey.g i)) (8 : Int), L.tab (L.Film.mk f.id (L.Sq.mk f.grey.n fun (i : Nat) ↦ f.grey.g i)) (9 : Int), L.tab (L.Film.mk f.id (L.Sq.mk f.grey.n fun (i : Nat) ↦ f.grey.g i)) (10 : Int), L.tab (L.Film.mk f.id (L.Sq.mk f.grey.n fun (i : Nat) ↦ f.grey.g i)) (11 : Int), L.tab (L.Film.mk f.id (L.Sq.mk f.grey.n fun (i : Nat) ↦ f.grey.g i)) (12 : Int), L.tab (L.Film.mk f.id (L.Sq.mk f.grey.n fun (i : Nat)
 ↦ f.grey.g i)) (13 : Int), L.tab (L.Film.mk f.id (L.Sq.mk f.grey.n fun (i : Nat) ↦ f.grey.g i)) (14 : Int), L.tab (L.Film.mk f.id (L.Sq.mk f.grey.n fun (i : Nat) ↦ f.grey.g i)) (15 : Int), L.tab (L.Film.mk f.id (L.Sq.mk f.grey.n fun (i : Nat) ↦ f.grey.g i)) (16 : Int)] (nat_lit 0 + Int.toNat (cs.g (Int.toNat (↑g : Int))))) = L.gHi f cs.g g' ∧ (nat_lit 17 = nat_lit 17 ∧ ∀ (i : Nat), i < nat_lit 17
 → [Go.SE.SV.int Go.IntKind.i64 (Go.SE.nthI [L.tab (L.Film.mk f.id (L.Sq.mk f.grey.n fun (i : Nat) ↦ f.grey.g i)) (0 : Int), L.tab (L.Film.mk f.id (L.Sq.mk f.grey.n fun (i : Nat) ↦ f.grey.g i)) (1 : Int), L.tab (L.Film.mk f.id (L.Sq.mk f.grey.n fun (i : Nat) ↦ f.grey.g i)) (2 : Int), L.tab (L.Film.mk f.id (L.Sq.mk f.grey.n fun (i : Nat) ↦ f.grey.g i)) (3 : Int), L.tab (L.Film.mk f.id (L.Sq.mk
 f.grey.n fun (i : Nat) ↦ f.grey.g i)) (4 : Int), L.tab (L.Film.mk f.id (L.Sq.mk f.grey.n fun (i : Nat) ↦ f.grey.g i)) (5 : Int), L.tab (L.Film.mk f.id (L.Sq.mk f.grey.n fun (i : Nat) ↦ f.grey.g i)) (6 : Int), L.tab (L.Film.mk f.id (L.Sq.mk f.grey.n fun (i : Nat) ↦ f.grey.g i)) (7 : Int), L.tab (L.Film.mk f.id (L.Sq.mk f.grey.n fun (i : Nat) ↦ f.grey.g i)) (8 : Int), L.tab (L.Film.mk f.id (L.Sq.mk
 f.grey.n fun (i : Nat) ↦ f.grey.g i)) (9 : Int), L.tab (L.Film.mk f.id (L.Sq.mk f.grey.n fun (i : Nat) ↦ f.grey.g i)) (10 : Int), L.tab (L.Film.mk f.id (L.Sq.mk f.grey.n fun (i : Nat) ↦ f.grey.g i)) (11 : Int), L.tab (L.Film.mk f.id (L.Sq.mk f.grey.n fun (i : Nat) ↦ f.grey.g i)) (12 : Int), L.tab (L.Film.mk f.id (L.Sq.mk f.grey.n fun (i : Nat) ↦ f.grey.g i)) (13 : Int), L.tab (L.Film.mk f.id
 (L.Sq.mk f.grey.n fun (i : Nat) ↦ f.grey.g i)) (14 : Int), L.tab (L.Film.mk f.id (L.Sq.mk f.grey.n fun (i : Nat) ↦ f.grey.g i)) (15 : Int), L.tab (L.Film.mk f.id (L.Sq.mk f.grey.n fun (i : Nat) ↦ f.grey.g i)) (16 : Int)] i)] = [Go.SE.SV.int Go.IntKind.i64 (Go.SE.nthI [L.tab (L.Film.mk f.id (L.Sq.mk f.grey.n fun (i : Nat) ↦ f.grey.g i)) (0 : Int), L.tab (L.Film.mk f.id (L.Sq.mk f.grey.n fun (i :
 Nat) ↦ f.grey.g i)) (1 : Int), L.tab (L.Film.mk f.id (L.Sq.mk f.grey.n fun (i : Nat) ↦ f.grey.g i)) (2 : Int), L.tab (L.Film.mk f.id (L.Sq.mk f.grey.n fun (i : Nat) ↦ f.grey.g i)) (3 : Int), L.tab (L.Film.mk f.id (L.Sq.mk f.grey.n fun (i : Nat) ↦ f.grey.g i)) (4 : Int), L.tab (L.Film.mk f.id (L.Sq.mk f.grey.n fun (i : Nat) ↦ f.grey.g i)) (5 : Int), L.tab (L.Film.mk f.id (L.Sq.mk f.grey.n fun (i :
 Nat) ↦ f.grey.g i)) (6 : Int), L.tab (L.Film.mk f.id (L.Sq.mk f.grey.n fun (i : Nat) ↦ f.grey.g i)) (7 : Int), L.tab (L.Film.mk f.id (L.Sq.mk f.grey.n fun (i : Nat) ↦ f.grey.g i)) (8 : Int), L.tab (L.Film.mk f.id (L.Sq.mk f.grey.n fun (i : Nat) ↦ f.grey.g i)) (9 : Int), L.tab (L.Film.mk f.id (L.Sq.mk f.grey.n fun (i : Nat) ↦ f.grey.g i)) (10 : Int), L.tab (L.Film.mk f.id (L.Sq.mk f.grey.n fun (i :
 Nat) ↦ f.grey.g i)) (11 : Int), L.tab (L.Film.mk f.id (L.Sq.mk f.grey.n fun (i : Nat) ↦ f.grey.g i)) (12 : Int), L.tab (L.Film.mk f.id (L.Sq.mk f.grey.n fun (i : Nat) ↦ f.grey.g i)) (13 : Int), L.tab (L.Film.mk f.id (L.Sq.mk f.grey.n fun (i : Nat) ↦ f.grey.g i)) (14 : Int), L.tab (L.Film.mk f.id (L.Sq.mk f.grey.n fun (i : Nat) ↦ f.grey.g i)) (15 : Int), L.tab (L.Film.mk f.id (L.Sq.mk f.grey.n fun
 (i : Nat) ↦ f.grey.g i)) (16 : Int)] i)]) ∧ (0 : Int) = (0 : Int) ∧ (0 : Int) = (0 : Int) ∧ (g' ≤ cs.n ∧ ∀ (j : Nat), j < g' → (0 : Int) ≤ L.tab f (cs.g j)) ∧ cs.n - g' < cs.n - g) ∧ (Decidable.decide ((↑g : Int) = (0 : Int)) = Bool.false → Go.SE.InK Go.IntKind.i64 ((↑g : Int) + (1 : Int)) ∧ ∃ (g' : Nat), (↑g : Int) + (1 : Int) = (↑g' : Int) ∧ (↑cs.n : Int) = (↑cs.n : Int) ∧ (cs.n = cs.n ∧ ∀ (i :
 Nat), i < cs.n → [Go.SE.SV.int Go.IntKind.i64 (cs.g i)] = [Go.SE.SV.int Go.IntKind.i64 (cs.g i)]) ∧ nat_lit 0 = nat_lit 0 ∧ (nat_lit 0 = nat_lit 0 ∧ nat_lit 0 = nat_lit 0) ∧ (0 : Int) = (0 : Int) ∧ nat_lit 0 = nat_lit 0 ∧ Min.min (L.gLo f cs.g g) (Go.SE.nthI [L.tab (L.Film.mk f.id (L.Sq.mk f.grey.n fun (i : Nat) ↦ f.grey.g i)) (0 : Int), L.tab (L.Film.mk f.id (L.Sq.mk f.grey.n fun (i : Nat) ↦
 f.grey.g i)) (1 : Int), L.tab (L.Film.mk f.id (L.Sq.mk f.grey.n fun (i : Nat) ↦ f.grey.g i)) (2 : Int), L.tab (L.Film.mk f.id (L.Sq.mk f.grey.n fun (i : Nat) ↦ f.grey.g i)) (3 : Int), L.tab (L.Film.mk f.id (L.Sq.mk f.grey.n fun (i : Nat) ↦ f.grey.g i)) (4 : Int), L.tab (L.Film.mk f.id (L.Sq.mk f.grey.n fun (i : Nat) ↦ f.grey.g i)) (5 : Int), L.tab (L.Film.mk f.id (L.Sq.mk f.grey.n fun (i : Nat) ↦
 f.grey.g i)) (6 : Int), L.tab (L.Film.mk f.id (L.Sq.mk f.grey.n fun (i : Nat) ↦ f.grey.g i)) (7 : Int), L.tab (L.Film.mk f.id (L.Sq.mk f.grey.n fun (i : Nat) ↦ f.grey.g i)) (8 : Int), L.tab (L.Film.mk f.id (L.Sq.mk f.grey.n fun (i : Nat) ↦ f.grey.g i)) (9 : Int), L.tab (L.Film.mk f.id (L.Sq.mk f.grey.n fun (i : Nat) ↦ f.grey.g i)) (10 : Int), L.tab (L.Film.mk f.id (L.Sq.mk f.grey.n fun (i : Nat) ↦
 f.grey.g i)) (11 : Int), L.tab (L.Film.mk f.id (L.Sq.mk f.grey.n fun (i : Nat) ↦ f.grey.g i)) (12 : Int), L.tab (L.Film.mk f.id (L.Sq.mk f.grey.n fun (i : Nat) ↦ f.grey.g i)) (13 : Int), L.tab (L.Film.mk f.id (L.Sq.mk f.grey.n fun (i : Nat) ↦ f.grey.g i)) (14 : Int), L.tab (L.Film.mk f.id (L.Sq.mk f.grey.n fun (i : Nat) ↦ f.grey.g i)) (15 : Int), L.tab (L.Film.mk f.id (L.Sq.mk f.grey.n fun (i :
 Nat) ↦ f.grey.g i)) (16 : Int)] (nat_lit 0 + Int.toNat (cs.g (Int.toNat (↑g : Int))))) = L.gLo f cs.g g' ∧ Max.max (L.gHi f cs.g g) (Go.SE.nthI [L.tab (L.Film.mk f.id (L.Sq.mk f.grey.n fun (i : Nat) ↦ f.grey.g i)) (0 : Int), L.tab (L.Film.mk f.id (L.Sq.mk f.grey.n fun (i : Nat) ↦ f.grey.g i)) (1 : Int), L.tab (L.Film.mk f.id (L.Sq.mk f.grey.n fun (i : Nat) ↦ f.grey.g i)) (2 : Int), L.tab
 (L.Film.mk f.id (L.Sq.mk f.grey.n fun (i : Nat) ↦ f.grey.g i)) (3 : Int), L.tab (L.Film.mk f.id (L.Sq.mk f.grey.n fun (i : Nat) ↦ f.grey.g i)) (4 : Int), L.tab (L.Film.mk f.id (L.Sq.mk f.grey.n fun (i : Nat) ↦ f.grey.g i)) (5 : Int), L.tab (L.Film.mk f.id (L.Sq.mk f.grey.n fun (i : Nat) ↦ f.grey.g i)) (6 : Int), L.tab (L.Film.mk f.id (L.Sq.mk f.grey.n fun (i : Nat) ↦ f.grey.g i)) (7 : Int), L.tab
 (L.Film.mk f.id (L.Sq.mk f.grey.n fun (i : Nat) ↦ f.grey.g i)) (8 : Int), L.tab (L.Film.mk f.id (L.Sq.mk f.grey.n fun (i : Nat) ↦ f.grey.g i)) (9 : Int), L.tab (L.Film.mk f.id (L.Sq.mk f.grey.n fun (i : Nat) ↦ f.grey.g i)) (10 : Int), L.tab (L.Film.mk f.id (L.Sq.mk f.grey.n fun (i : Nat) ↦ f.grey.g i)) (11 : Int), L.tab (L.Film.mk f.id (L.Sq.mk f.grey.n fun (i : Nat) ↦ f.grey.g i)) (12 : Int),
 L.tab (L.Film.mk f.id (L.Sq.mk f.grey.n fun (i : Nat) ↦ f.grey.g i)) (13 : Int), L.tab (L.Film.mk f.id (L.Sq.mk f.grey.n fun (i : Nat) ↦ f.grey.g i)) (14 : Int), L.tab (L.Film.mk f.id (L.Sq.mk f.grey.n fun (i : Nat) ↦ f.grey.g i)) (15 : Int), L.tab (L.Film.mk f.id (L.Sq.mk f.grey.n fun (i : Nat) ↦ f.grey.g i)) (16 : Int)] (nat_lit 0 + Int.toNat (cs.g (Int.toNat (↑g : Int))))) = L.gHi f cs.g g' ∧
 (nat_lit 17 = nat_lit 17 ∧ ∀ (i : Nat), i < nat_lit 17 → [Go.SE.SV.int Go.IntKind.i64 (Go.SE.nthI [L.tab (L.Film.mk f.id (L.Sq.mk f.grey.n fun (i : Nat) ↦ f.grey.g i)) (0 : Int), L.tab (L.Film.mk f.id (L.Sq.mk f.grey.n fun (i : Nat) ↦ f.grey.g i)) (1 : Int), L.tab (L.Film.mk f.id (L.Sq.mk f.grey.n fun (i : Nat) ↦ f.grey.g i)) (2 : Int), L.tab (L.Film.mk f.id (L.Sq.mk f.grey.n fun (i : Nat) ↦
 f.grey.g i)) (3 : Int), L.tab (L.Film.mk f.id (L.Sq.mk f.grey.n fun (i : Nat) ↦ f.grey.g i)) (4 : Int), L.tab (L.Film.mk f.id (L.Sq.mk f.grey.n fun (i : Nat) ↦ f.grey.g i)) (5 : Int), L.tab (L.Film.mk f.id (L.Sq.mk f.grey.n fun (i : Nat) ↦ f.grey.g i)) (6 : Int), L.tab (L.Film.mk f.id (L.Sq.mk f.grey.n fun (i : Nat) ↦ f.grey.g i)) (7 : Int), L.tab (L.Film.mk f.id (L.Sq.mk f.grey.n fun (i : Nat) ↦
 f.grey.g i)) (8 : Int), L.tab (L.Film.mk f.id (L.Sq.mk f.grey.n fun (i : Nat) ↦ f.grey.g i)) (9 : Int), L.tab (L.Film.mk f.id (L.Sq.mk f.grey.n fun (i : Nat) ↦ f.grey.g i)) (10 : Int), L.tab (L.Film.mk f.id (L.Sq.mk f.grey.n fun (i : Nat) ↦ f.grey.g i)) (11 : Int), L.tab (L.Film.mk f.id (L.Sq.mk f.grey.n fun (i : Nat) ↦ f.grey.g i)) (12 : Int), L.tab (L.Film.mk f.id (L.Sq.mk f.grey.n fun (i : Nat)
 ↦ f.grey.g i)) (13 : Int), L.tab (L.Film.mk f.id (L.Sq.mk f.grey.n fun (i : Nat) ↦ f.grey.g i)) (14 : Int), L.tab (L.Film.mk f.id (L.Sq.mk f.grey.n fun (i : Nat) ↦ f.grey.g i)) (15 : Int), L.tab (L.Film.mk f.id (L.Sq.mk f.grey.n fun (i : Nat) ↦ f.grey.g i)) (16 : Int)] i)] = [Go.SE.SV.int Go.IntKind.i64 (Go.SE.nthI [L.tab (L.Film.mk f.id (L.Sq.mk f.grey.n fun (i : Nat) ↦ f.grey.g i)) (0 : Int),
 L.tab (L.Film.mk f.id (L.Sq.mk f.grey.n fun (i : Nat) ↦ f.grey.g i)) (1 : Int), L.tab (L.Film.mk f.id (L.Sq.mk f.grey.n fun (i : Nat) ↦ f.grey.g i)) (2 : Int), L.tab (L.Film.mk f.id (L.Sq.mk f.grey.n fun (i : Nat) ↦ f.grey.g i)) (3 : Int), L.tab (L.Film.mk f.id (L.Sq.mk f.grey.n fun (i : Nat) ↦ f.grey.g i)) (4 : Int), L.tab (L.Film.mk f.id (L.Sq.mk f.grey.n fun (i : Nat) ↦ f.grey.g i)) (5 : Int),
 L.tab (L.Film.mk f.id (L.Sq.mk f.grey.n fun (i : Nat) ↦ f.grey.g i)) (6 : Int), L.tab (L.Film.mk f.id (L.Sq.mk f.grey.n fun (i : Nat) ↦ f.grey.g i)) (7 : Int), L.tab (L.Film.mk f.id (L.Sq.mk f.grey.n fun (i : Nat) ↦ f.grey.g i)) (8 : Int), L.tab (L.Film.mk f.id (L.Sq.mk f.grey.n fun (i : Nat) ↦ f.grey.g i)) (9 : Int), L.tab (L.Film.mk f.id (L.Sq.mk f.grey.n fun (i : Nat) ↦ f.grey.g i)) (10 : Int),
 L.tab (L.Film.mk f.id (L.Sq.mk f.grey.n fun (i : Nat) ↦ f.grey.g i)) (11 : Int), L.tab (L.Film.mk f.id (L.Sq.mk f.grey.n fun (i : Nat) ↦ f.grey.g i)) (12 : Int), L.tab (L.Film.mk f.id (L.Sq.mk f.grey.n fun (i : Nat) ↦ f.grey.g i)) (13 : Int), L.tab (L.Film.mk f.id (L.Sq.mk f.grey.n fun (i : Nat) ↦ f.grey.g i)) (14 : Int), L.tab (L.Film.mk f.id (L.Sq.mk f.grey.n fun (i : Nat) ↦ f.grey.g i)) (15 :
 Int), L.tab (L.Film.mk f.id (L.Sq.mk f.grey.n fun (i : Nat) ↦ f.grey.g i)) (16 : Int)] i)]) ∧ (0 : Int) = (0 : Int) ∧ (0 : Int) = (0 : Int) ∧ (g' ≤ cs.n ∧ ∀ (j : Nat), j < g' → (0 : Int) ≤ L.tab f (cs.g j)) ∧ cs.n - g' < cs.n - g))) ∧ (Decidable.decide ((↑g : Int) < (↑cs.n : Int)) = Bool.false → Go.SE.SV.agg [Go.SE.SV.int Go.IntKind.i64 (L.gLo f cs.g g), Go.SE.SV.int Go.IntKind.i64 (L.gHi f cs.g
 g)] = Go.SE.SV.agg [Go.SE.SV.int Go.IntKind.i64 (bif Decidable.decide (L.gErr f cs = (0 : Int)) then L.gLo f cs.g cs.n else (0 : Int)), Go.SE.SV.int Go.IntKind.i64 (bif Decidable.decide (L.gErr f cs = (0 : Int)) then L.gHi f cs.g cs.n else (0 : Int))] ∧ (0 : Int) = L.gErr f cs)))) (by kernel_rfl) (by
    obtain ⟨hn, hc⟩ := hp
    have isbad : (bif !L.riseI cs.n cs.g then true else L.anyB cs.n (fun i => !L.within (cs.g i) 1 16)) = L.colsBad cs := rfl
    refine ⟨⟨fun _ _ => rfl, hn⟩, fun h => ?_, fun h => ⟨⟨fun _ _ => rfl, isI_of c_cmp_I _, hc, fun _ _ => trivial⟩, fun _ => ⟨fun _ _ => rfl, isB_of g_Greys1_B _, hc, fun _ _ => trivial⟩, fun hb => ?_, fun hb => ?_⟩⟩
    · have hv : L.validFilm f = false := by simpa using (show (!L.validFilm f) = true from h)
      have : L.gErr f cs = 32 := by unfold L.gErr; rw [hv]; rfl
      rw [this]; exact ⟨rfl, rfl⟩
    · have hv : L.validFilm f = true := by simpa using (show (!L.validFilm f) = false from h)
      have hb : L.colsBad cs = true := hb
      have : L.gErr f cs = 1 := by unfold L.gErr; rw [hv, hb]; rfl
      rw [this]; exact ⟨rfl, rfl⟩
    have hv : L.validFilm f = true := by simpa using (show (!L.validFilm f) = false from h)
    have hb : L.colsBad cs = false := hb
    have hin : ∀ i, i < cs.n → 1 ≤ cs.g i ∧ cs.g i ≤ 16 := fun i hi => by
      have h1 : L.anyB cs.n (fun i => !L.within (cs.g i) 1 16) = false := by
        unfold L.colsBad at hb; rw [bor, Bool.or_eq_false_iff] at hb; exact hb.2
      have h2 : L.within (cs.g i) 1 16 = true := by
        cases h3 : L.within (cs.g i) 1 16 with
        | true => rfl
        | false => rw [anyB_iff.2 ⟨i, hi, by rw [h3]; rfl⟩] at h1; cases h1
      exact within_iff.1 h2
    refine ⟨⟨fun _ _ => rfl, hn⟩, ⟨(0 : Nat), rfl, rfl, rfl, Nat.zero_le _, fun j hj => absurd hj (Nat.not_lt_zero _)⟩, fun g hg => ⟨fun hlt => ?_, fun hge => ?_⟩⟩
    · have hb' : (g : Int) < (cs.n : Int) := of_decide_eq_true hlt
      have e0 : ((g : Int)).toNat = g := by omega
      obtain ⟨i1, i2⟩ := hin g (by omega)
      have e1 : (((cs.g g).toNat : Nat) : Int) = cs.g g := by omega
      have e2 := nth_tab (f := f) (j := 0 + (cs.g g).toNat) (by omega)
      rw [Nat.zero_add, e1] at e2
      rw [e0]
      refine ⟨by omega, ⟨by omega, by show cs.g g < ((17 : Nat) : Int); omega⟩, by show 0 + (cs.g g).toNat < 17; omega, fun h1 => ?_, fun h1 => ⟨fun h2 => ?_, fun h2 => ?_⟩⟩
      · rw [Nat.zero_add] at h1
        have h1 : decide (L.tab f (cs.g g) < 0) = true := by rw [← e2]; exact h1
        have : L.gErr f cs = 3 := by
          unfold L.gErr; rw [hv, hb, show L.gNone f cs = true from anyB_iff.2 ⟨g, by omega, h1⟩]; rfl
        rw [this]; exact ⟨rfl, rfl⟩
      · rw [Nat.zero_add] at h1 ⊢
        have h1 : decide (L.tab f (cs.g g) < 0) = false := by rw [← e2]; exact h1
        have h1 := of_decide_eq_false h1
        refine ⟨InK.of (by omega) (by omega), g + 1, by omega, rfl, ⟨rfl, fun _ _ => rfl⟩, rfl, ⟨rfl, rfl⟩, rfl, rfl, ?_, ?_, ⟨rfl, fun _ _ => rfl⟩, rfl, rfl, ⟨by omega, fun j hj => ?_⟩, by omega⟩
        · show _ = min (bif decide ((g : Int) = 0) then L.tab f (cs.g g) else L.gLo f cs.g g) (L.tab f (cs.g g))
          rw [h2, ← e2]; rfl
        · show _ = max (bif decide ((g : Int) = 0) then L.tab f (cs.g g) else L.gHi f cs.g g) (L.tab f (cs.g g))
          rw [h2, ← e2]; rfl
        · rcases Nat.lt_succ_iff_lt_or_eq.1 hj with h' | rfl
          · exact hg.2 j h'
          · omega
      · rw [Nat.zero_add] at h1 ⊢
        have h1 : decide (L.tab f (cs.g g) < 0) = false := by rw [← e2]; exact h1
        have h1 := of_decide_eq_false h1
        refine ⟨InK.of (by omega) (by omega), g + 1, by omega, rfl, ⟨rfl, fun _ _ => rfl⟩, rfl, ⟨rfl, rfl⟩, rfl, rfl, ?_, ?_, ⟨rfl, fun _ _ => rfl⟩, rfl, rfl, ⟨by omega, fun j hj => ?_⟩, by omega⟩
        · show _ = min (bif decide ((g : Int) = 0) then L.tab f (cs.g g) else L.gLo f cs.g g) (L.tab f (cs.g g))
          rw [h2, ← e2]; rfl
        · show _ = max (bif decide ((g : Int) = 0) then L.tab f (cs.g g) else L.gHi f cs.g g) (L.tab f (cs.g g))
          rw [h2, ← e2]; rfl
        · rcases Nat.lt_succ_iff_lt_or_eq.1 hj with h' | rfl
          · exact hg.2 j h'
          · omega
    · have hb' : ¬ (g : Int) < (cs.n : Int) := of_decide_eq_false hge
      have : L.gNone f cs = false := by
        cases h' : L.gNone f cs with
        | false => rfl
        | true =>
          obtain ⟨i, hi, h1⟩ := anyB_iff.1 h'
          have h1 := of_decide_eq_true h1
          have := hg.2 i (by omega)
          omega
      have : L.gErr f cs = 0 := by unfold L.gErr; rw [hv, hb, this]; rfl
      obtain rfl : g = cs.n := by omega
      rw [this]; exact ⟨rfl, rfl⟩)
theorem g_Greys_ok : SpecOk Try.prog 32 g_Greys_S := fnX Try.func32 (c := bodyOf Try.f32) (by kernel_rfl) mixed (fun args p r hs hp => by
  unfold g_Greys_s at hs
  split at hs
  · cases hs; exact ⟨_, _, g_Greys_vc _ _ hp.2.2, (.p (.agg rfl (fun i hi => by
      rcases i with _ | i
      · exact (Ext.refl _ : Ext _ _)
      rcases i with _ | i
      · exact (Ext.sl hp.1 : Ext _ _)
      exact absurd hi (by simp; try omega))) (.p (.sl hp.2.1) .nil)), ⟨show SpecsL Try.prog _ from (SpecsL.cons g_ValidFilm_ok g_ValidFilm_en (SpecsL.cons g_greys_ok g_greys_en (SpecsL.cons g_risingI_ok g_risingI_en (SpecsL.cons c_cmp_ok c_cmp_en (SpecsL.cons s_conFI_ok s_conFI_en (SpecsL.cons g_Greys1_ok g_Greys1_en SpecsL.nil)))))), rfl, ⟨show ItersL Try.prog _ from ItersL.nil, (TrsOk.none (fun _ => rfl))⟩⟩⟩
  · cases hs)
theorem g_Greys_en : Enters Try.prog 32 := fun args w => by kernel_rfl
end Go.Proofs.Ytipaekbdalahdaa

namespace Go.Proofs.Ytipaekbdalahdaa
open Go.SE Go.RowKit
set_option maxRecDepth 100000
set_option maxHeartbeats 4000000
set_option linter.unusedVariables false
attribute [local irreducible] Go.SE.vc

def L.colN (f : L.Film) (s : L.Span) : Nat := bif L.validFilm f then L.cnt (L.shows f s) 17 else 0
def L.colV (f : L.Film) (s : L.Span) (k : Nat) : Int := L.sel (L.shows f s) (fun c => (c : Int)) 17 k
def L.foundC (f : L.Film) (s : L.Span) (c : Int) : Bool := L.anyB (L.colN f s) (fun k => decide (L.colV f s k = c))
theorem notT {b : Bool} (h : (!b) = true) : b = false := by cases b with | false => rfl | true => cases h
theorem notF {b : Bool} (h : (!b) = false) : b = true := by cases b with | true => rfl | false => cases h
theorem anyB_no {n : Nat} {f : Nat → Bool} (h : ∀ i, i < n → f i = false) : L.anyB n f = false := by
  cases h' : L.anyB n f with
  | false => rfl
  | true =>
    obtain ⟨i, hi, h1⟩ := anyB_iff.1 h'
    rw [h i hi] at h1; cases h1
theorem cmp_lt {a b : Int} : L.cmp a b < 0 ↔ a < b := by
  unfold L.cmp
  by_cases h : a < b
  · simp [h]
  · by_cases h' : b < a <;> simp [h, h']
theorem cols_iff {cs : L.Sq Int} : L.colsBad cs = false ↔ ∀ j, j < cs.n → L.within (cs.g j) 1 16 = true ∧ (0 < j → cs.g (j - 1) < cs.g j) := by
  unfold L.colsBad
  rw [bor, Bool.or_eq_false_iff]
  constructor
  · intro h j hj
    refine ⟨?_, fun h0 => cmp_lt.1 (rise_iff.1 (notF h.1) j hj h0)⟩
    cases hw : L.within (cs.g j) 1 16 with
    | true => rfl
    | false =>
      have := h.2
      rw [anyB_iff.2 ⟨j, hj, by rw [hw]; rfl⟩] at this; cases this
  · intro h
    refine ⟨?_, anyB_no (fun i hi => by rw [(h i hi).1]; rfl)⟩
    rw [show L.riseI cs.n cs.g = true from rise_iff.2 (fun i hi h0 => cmp_lt.2 ((h i hi).2 h0))]; rfl
theorem none_iff {f : L.Film} {cs : L.Sq Int} : L.gNone f cs = false ↔ ∀ j, j < cs.n → 0 ≤ L.tab f (cs.g j) := by
  constructor
  · intro h j hj
    rcases Int.lt_or_le (L.tab f (cs.g j)) 0 with h' | h'
    · rw [show L.gNone f cs = true from anyB_iff.2 ⟨j, hj, decide_eq_true h'⟩] at h; cases h
    · exact h'
  · exact fun h => anyB_no (fun i hi => decide_eq_false (by have := h i hi; omega))
theorem err_zero {f : L.Film} {cs : L.Sq Int} (h : L.gErr f cs = 0) : L.validFilm f = true ∧ L.colsBad cs = false ∧ L.gNone f cs = false := by
  unfold L.gErr at h
  cases h1 : L.validFilm f with
  | false => rw [h1] at h; cases h
  | true => cases h2 : L.colsBad cs with
    | true => rw [h1, h2] at h; cases h
    | false => cases h3 : L.gNone f cs with
      | true => rw [h1, h2, h3] at h; cases h
      | false => exact ⟨rfl, rfl, rfl⟩
theorem sel_mem {p : Nat → Bool} {v : Nat → Int} {x : Int} : ∀ {n : Nat}, (∃ k, k < L.cnt p n ∧ L.sel p v n k = x) ↔ ∃ c, c < n ∧ p c = true ∧ v c = x
  | 0 => ⟨fun ⟨k, h, _⟩ => absurd h (Nat.not_lt_zero _), fun ⟨k, h, _⟩ => absurd h (Nat.not_lt_zero _)⟩
  | n + 1 => by
    have ih := sel_mem (p := p) (v := v) (x := x) (n := n)
    cases hp : p n with
    | false =>
      have e1 : L.cnt p (n + 1) = L.cnt p n := by simp [L.cnt, hp]
      have e2 : ∀ k, L.sel p v (n + 1) k = L.sel p v n k := fun k => by simp [L.sel, hp]
      simp only [e1, e2]
      rw [ih]
      constructor
      · rintro ⟨c, h, h1⟩; exact ⟨c, by omega, h1⟩
      · rintro ⟨c, h, h1, h2⟩
        rcases Nat.lt_succ_iff_lt_or_eq.1 h with h' | rfl
        · exact ⟨c, h', h1, h2⟩
        · rw [hp] at h1; cases h1
    | true =>
      have e1 : L.cnt p (n + 1) = L.cnt p n + 1 := by simp [L.cnt, hp]
      rw [e1]
      constructor
      · rintro ⟨k, h, h1⟩
        by_cases hk : k = L.cnt p n
        · refine ⟨n, Nat.lt_succ_self n, hp, ?_⟩
          rw [← h1]; simp [L.sel, hp, hk]
        · have h1 : L.sel p v n k = x := by rw [← h1]; simp [L.sel, hp, hk]
          obtain ⟨c, q, q1⟩ := ih.1 ⟨k, by omega, h1⟩
          exact ⟨c, by omega, q1⟩
      · rintro ⟨c, h, h1, h2⟩
        rcases Nat.lt_succ_iff_lt_or_eq.1 h with h' | rfl
        · obtain ⟨k, q, q1⟩ := ih.2 ⟨c, h', h1, h2⟩
          refine ⟨k, by omega, ?_⟩
          rw [← q1]; simp [L.sel, hp, Nat.ne_of_lt q]
        · exact ⟨L.cnt p c, Nat.lt_succ_self _, by rw [← h2]; simp [L.sel, hp]⟩
theorem found_iff {f : L.Film} {s : L.Span} {c : Int} (hv : L.validFilm f = true) (h1 : 1 ≤ c) (h2 : c ≤ 16) (h3 : 0 ≤ L.tab f c) : L.foundC f s c = true ↔ s.lo ≤ L.tab f c ∧ L.tab f c ≤ s.hi := by
  unfold L.foundC
  rw [anyB_iff]
  have e : L.colN f s = L.cnt (L.shows f s) 17 := by unfold L.colN; rw [hv]; rfl
  rw [e]
  have : (∃ i, i < L.cnt (L.shows f s) 17 ∧ decide (L.colV f s i = c) = true) ↔ (∃ i, i < L.cnt (L.shows f s) 17 ∧ L.sel (L.shows f s) (fun c => (c : Int)) 17 i = c) :=
    ⟨fun ⟨i, a, b⟩ => ⟨i, a, of_decide_eq_true b⟩, fun ⟨i, a, b⟩ => ⟨i, a, decide_eq_true b⟩⟩
  rw [this, sel_mem]
  constructor
  · rintro ⟨j, _, q, rfl⟩
    unfold L.shows at q
    rw [decide_eq_true h3] at q
    exact within_iff.1 q
  · intro q
    have ec : ((c.toNat : Nat) : Int) = c := by omega
    refine ⟨c.toNat, by omega, ?_, ec⟩
    unfold L.shows
    rw [ec, decide_eq_true h3]
    exact within_iff.2 q
theorem lohi {f : L.Film} {g : Nat → Int} : ∀ {n : Nat}, 0 < n → L.gLo f g n ≤ L.gHi f g n ∧ ∀ a b, (a ≤ L.gLo f g n ∧ L.gHi f g n ≤ b) ↔ ∀ j, j < n → a ≤ L.tab f (g j) ∧ L.tab f (g j) ≤ b
  | 0, h => absurd h (Nat.lt_irrefl 0)
  | n + 1, _ => by
    by_cases h0 : n = 0
    · subst h0
      have e1 : L.gLo f g 1 = L.tab f (g 0) := by simp [L.gLo]
      have e2 : L.gHi f g 1 = L.tab f (g 0) := by simp [L.gHi]
      rw [e1, e2]
      refine ⟨Int.le_refl _, fun a b => ⟨fun h j hj => ?_, fun h => h 0 (by omega)⟩⟩
      obtain rfl : j = 0 := by omega
      exact h
    · obtain ⟨i1, i2⟩ := lohi (f := f) (g := g) (n := n) (by omega)
      have e1 : L.gLo f g (n + 1) = min (L.gLo f g n) (L.tab f (g n)) := by simp [L.gLo, h0]
      have e2 : L.gHi f g (n + 1) = max (L.gHi f g n) (L.tab f (g n)) := by simp [L.gHi, h0]
      rw [e1, e2]
      refine ⟨by omega, fun a b => ⟨fun h j hj => ?_, fun h => ?_⟩⟩
      · rcases Nat.lt_succ_iff_lt_or_eq.1 hj with h' | rfl
        · exact (i2 a b).1 (by omega) j h'
        · omega
      · have h1 := (i2 a b).2 (fun j hj => h j (by omega))
        have h2 := h n (by omega)
        omega
theorem adj {f : L.Film} {cs : L.Sq Int} {s : L.Span} (he : L.gErr f cs = 0) (lo hi : Int) (h1 : lo = L.gLo f cs.g cs.n) (h2 : hi = L.gHi f cs.g cs.n) :
    (bif (bif true then ((bif decide (hi < lo) then true else bif decide (s.lo ≤ lo) then decide (hi ≤ s.hi) else false) == L.allB cs.n (fun j => L.foundC f s (cs.g j))) else false) then (decide (hi < lo) == decide ((cs.n : Int) = 0)) else false) = true := by
  obtain ⟨hv, hb, hn⟩ := err_zero he
  have hb := cols_iff.1 hb
  have hn := none_iff.1 hn
  have fnd : ∀ j, j < cs.n → (L.foundC f s (cs.g j) = true ↔ s.lo ≤ L.tab f (cs.g j) ∧ L.tab f (cs.g j) ≤ s.hi) := fun j hj =>
    found_iff hv (within_iff.1 (hb j hj).1).1 (within_iff.1 (hb j hj).1).2 (hn j hj)
  by_cases h0 : cs.n = 0
  · rw [h0] at h1 h2 ⊢
    have h1 : lo = 1 := h1
    have h2 : hi = 0 := h2
    subst h1; subst h2; rfl
  · obtain ⟨l1, l2⟩ := lohi (f := f) (g := cs.g) (n := cs.n) (by omega)
    rw [← h1, ← h2] at l1 l2
    have e1 : decide (hi < lo) = false := decide_eq_false (by omega)
    have e2 : decide ((cs.n : Int) = 0) = false := decide_eq_false (by omega)
    have e3 : (bif decide (s.lo ≤ lo) then decide (hi ≤ s.hi) else false) = L.allB cs.n (fun j => L.foundC f s (cs.g j)) := by
      rw [band, Bool.eq_iff_iff, allB_iff, Bool.and_eq_true, decide_eq_true_eq, decide_eq_true_eq, l2]
      exact forall_congr' fun j => forall_congr' fun hj => (fnd j hj).symm
    rw [e1, e2, e3]
    simp
def w_GlassAdjoint_p (f : L.Film) (cs : (L.Sq Int)) (s : L.Span) : Prop := True
def w_GlassAdjoint_r (f : L.Film) (cs : (L.Sq Int)) (s : L.Span) : SV := .bool true
def w_GlassAdjoint_s : List EV → Option (Prop × SV)
  | [.p (.agg [.int .i64 f_id, .sl 1 f_grey_n f_grey_g]), .p (.sl 1 cs_n cs_g), .p (.agg [.int .i64 s_lo, .int .i64 s_hi])] => some ((∀ i, i < f_grey_n → f_grey_g i = [.int .i64 ((intOf (f_grey_g i)))]) ∧ (∀ i, i < cs_n → cs_g i = [.int .i64 ((intOf (cs_g i)))]) ∧ w_GlassAdjoint_p (⟨f_id, (⟨f_grey_n, fun i => intOf (f_grey_g i)⟩ : (L.Sq Int))⟩ : L.Film) (⟨cs_n, fun i => intOf (cs_g i)⟩ : (L.Sq Int)) (⟨s_lo, s_hi⟩ : L.Span), w_GlassAdjoint_r (⟨f_id, (⟨f_grey_n, fun i => intOf (f_grey_g i)⟩ : (L.Sq Int))⟩ : L.Film) (⟨cs_n, fun i => intOf (cs_g i)⟩ : (L.Sq Int)) (⟨s_lo, s_hi⟩ : L.Span))
  | _ => none
abbrev w_GlassAdjoint_S : SE.Spec := (specO w_GlassAdjoint_s)
def w_GlassAdjoint_C : Cfg := { muts := [], frz := lookN [], specs := lookS [(12, w_awake_S), (31, g_Colours_S), (32, g_Greys_S)], loops := fun _ => none, iters := lookI [], rfs := lookR [], nils := lookM [] }
theorem w_GlassAdjoint_vc (f : L.Film) (cs : (L.Sq Int)) (s : L.Span) (hp : w_GlassAdjoint_p f cs s) : vc Try.prog ({ w_GlassAdjoint_C with loops := lookL [(10, { T := Nat, keep := [1, 5, 7, 8, 10], keepO := [10], chg := fun i => [(12, .p (.bool (L.allB i (fun j => L.foundC f s (cs.g j))))), (13, .p (.int .i64 (i : Int)))], own := fun _ => [], inv := fun i => i ≤ cs.n, mu := fun i => cs.n - i }), (14, { T := Nat × Nat, keep := [1, 5, 7, 8, 10, 12, 13], keepO := [10], tie := fun g => [(13, .int .i64 (g.1 : Int))], chg := fun g => [(14, .p (.bool (L.anyB g.2 (fun k => decide (L.colV f s k = cs.g g.1))))), (15, .p (.int .i64 (g.2 : Int)))], own := fun _ => [], inv := fun g => g.1 < cs.n ∧ g.2 ≤ L.colN f s, mu := fun g => L.colN f s - g.2 })], rfs := lookR [] }) (bodyOf Try.f7) (st0 Try.f7 [.p (.agg [.int .i64 f.id, .sl 1 f.grey.n (fun i => [.int .i64 ((f.grey.g i))])]), .p (.sl 1 cs.n (fun i => [.int .i64 ((cs.g i))])), .p (.agg [.int .i64 s.lo, .int .i64 s.hi])]) (retFn Try.prog Try.f7 (w_GlassAdjoint_r f cs s)) :=
  @Eq.mpr _ (True ∧ ((bif Decidable.decide ((100 : Int) < (↑f.grey.n : Int)) then Bool.true else Decidable.decide ((100 : Int) < (↑cs.n : Int))) = Bool.true → Bool.true = Bool.true) ∧ ((bif Decidable.decide ((100 : Int) < (↑f.grey.n : Int)) then Bool.true else Decidable.decide ((100 : Int) < (↑cs.n : Int))) = Bool.false → ((∀ (i : Nat), i < f.grey.n → [Go.SE.SV.int Go.IntKind.i64 (f.grey.g i)] = [Go.SE.SV.int
 Go.IntKind.i64 (f.grey.g i)]) ∧ f.grey.n ≤ (1000000 : Nat)) ∧ ((∀ (i : Nat), i < f.grey.n → [Go.SE.SV.int Go.IntKind.i64 (f.grey.g i)] = [Go.SE.SV.int Go.IntKind.i64 (f.grey.g i)]) ∧ (∀ (i : Nat), i < cs.n → [Go.SE.SV.int Go.IntKind.i64 (cs.g i)] = [Go.SE.SV.int Go.IntKind.i64 (cs.g i)]) ∧ f.grey.n ≤ (1000000 : Nat) ∧ cs.n ≤ (1000000 : Nat)) ∧ ((bif !Decidable.decide ((bif L.validFilm (L.Film.mk
 f.id (L.Sq.mk f.grey.n fun (i : Nat) ↦ f.grey.g i)) then (0 : Int) else (32 : Int)) = (0 : Int)) then Bool.true else !Decidable.decide (L.gErr (L.Film.mk f.id (L.Sq.mk f.grey.n fun (i : Nat) ↦ f.grey.g i)) (L.Sq.mk cs.n fun (i : Nat) ↦ cs.g i) = (0 : Int))) = Bool.true → Bool.true = Bool.true) ∧ ((bif !Decidable.decide ((bif L.validFilm (L.Film.mk f.id (L.Sq.mk f.grey.n fun (i : Nat) ↦ f.grey.g
 i)) then (0 : Int) else (32 : Int)) = (0 : Int)) then Bool.true else !Decidable.decide (L.gErr (L.Film.mk f.id (L.Sq.mk f.grey.n fun (i : Nat) ↦ f.grey.g i)) (L.Sq.mk cs.n fun (i : Nat) ↦ cs.g i) = (0 : Int))) = Bool.false → (∃ (g : Nat), (Bool.true = L.allB g fun (j : Nat) ↦ L.foundC f s (cs.g j)) ∧ (0 : Int) = (↑g : Int) ∧ g ≤ cs.n) ∧ ∀ (g : Nat), g ≤ cs.n → (Decidable.decide ((↑g : Int) <
 (↑cs.n : Int)) = Bool.true → (∃ (g_1 : Nat × Nat), (Bool.false = L.anyB g_1.2 fun (k : Nat) ↦ Decidable.decide (L.colV f s k = cs.g g_1.1)) ∧ (0 : Int) = (↑g_1.2 : Int) ∧ (↑g : Int) = (↑g_1.1 : Int) ∧ g_1.1 < cs.n ∧ g_1.2 ≤ L.colN f s) ∧ ∀ (g_1 : Nat × Nat), (↑g : Int) = (↑g_1.1 : Int) ∧ g_1.1 < cs.n ∧ g_1.2 ≤ L.colN f s → (Decidable.decide ((↑g_1.2 : Int) < (↑(bif L.validFilm (L.Film.mk f.id
 (L.Sq.mk f.grey.n fun (i : Nat) ↦ f.grey.g i)) then L.cnt (L.shows (L.Film.mk f.id (L.Sq.mk f.grey.n fun (i : Nat) ↦ f.grey.g i)) s) (17 : Nat) else (0 : Nat)) : Int)) = Bool.true → ((!L.anyB g_1.2 fun (k : Nat) ↦ Decidable.decide (L.colV f s k = cs.g g_1.1)) = Bool.true → (0 : Int) ≤ (↑g_1.2 : Int) ∧ (↑g_1.2 : Int) < (↑(bif L.validFilm (L.Film.mk f.id (L.Sq.mk f.grey.n fun (i : Nat) ↦ f.grey.g
 i)) then L.cnt (L.shows (L.Film.mk f.id (L.Sq.mk f.grey.n fun (i : Nat) ↦ f.grey.g i)) s) (17 : Nat) else (0 : Nat)) : Int)) ∧ ((!L.anyB g_1.2 fun (k : Nat) ↦ Decidable.decide (L.colV f s k = cs.g g_1.1)) = Bool.true → (0 : Int) ≤ (↑g : Int) ∧ (↑g : Int) < (↑cs.n : Int)) ∧ Go.SE.InK Go.IntKind.i64 ((↑g_1.2 : Int) + (1 : Int)) ∧ ∃ (g' : Nat × Nat), ((bif L.anyB g_1.2 fun (k : Nat) ↦
 Decidable.decide (L.colV f s k = cs.g g_1.1) then Bool.true else Decidable.decide (L.sel (L.shows (L.Film.mk f.id (L.Sq.mk f.grey.n fun (i : Nat) ↦ f.grey.g i)) s) (fun (c : Nat) ↦ (↑c : Int)) (17 : Nat) (Int.toNat (↑g_1.2 : Int)) = cs.g (Int.toNat (↑g : Int)))) = L.anyB g'.2 fun (k : Nat) ↦ Decidable.decide (L.colV f s k = cs.g g'.1)) ∧ (↑g_1.2 : Int) + (1 : Int) = (↑g'.2 : Int) ∧ ((L.allB g fun
 (j : Nat) ↦ L.foundC f s (cs.g j)) = L.allB g fun (j : Nat) ↦ L.foundC f s (cs.g j)) ∧ (↑g : Int) = (↑g : Int) ∧ nat_lit 0 = nat_lit 0 ∧ (((bif L.validFilm (L.Film.mk f.id (L.Sq.mk f.grey.n fun (i : Nat) ↦ f.grey.g i)) then L.cnt (L.shows (L.Film.mk f.id (L.Sq.mk f.grey.n fun (i : Nat) ↦ f.grey.g i)) s) (17 : Nat) else (0 : Nat)) = bif L.validFilm (L.Film.mk f.id (L.Sq.mk f.grey.n fun (i : Nat) ↦
 f.grey.g i)) then L.cnt (L.shows (L.Film.mk f.id (L.Sq.mk f.grey.n fun (i : Nat) ↦ f.grey.g i)) s) (17 : Nat) else (0 : Nat)) ∧ ∀ (i : Nat), (i < bif L.validFilm (L.Film.mk f.id (L.Sq.mk f.grey.n fun (i : Nat) ↦ f.grey.g i)) then L.cnt (L.shows (L.Film.mk f.id (L.Sq.mk f.grey.n fun (i : Nat) ↦ f.grey.g i)) s) (17 : Nat) else (0 : Nat)) → [Go.SE.SV.int Go.IntKind.i64 (L.sel (L.shows (L.Film.mk f.id
 (L.Sq.mk f.grey.n fun (i : Nat) ↦ f.grey.g i)) s) (fun (c : Nat) ↦ (↑c : Int)) (17 : Nat) i)] = [Go.SE.SV.int Go.IntKind.i64 (L.sel (L.shows (L.Film.mk f.id (L.Sq.mk f.grey.n fun (i : Nat) ↦ f.grey.g i)) s) (fun (c : Nat) ↦ (↑c : Int)) (17 : Nat) i)]) ∧ Bool.true = Bool.true ∧ Go.SE.SV.ref [Go.SE.SV.int Go.IntKind.i64 s.lo, Go.SE.SV.int Go.IntKind.i64 s.hi] (nat_lit 0) = Go.SE.SV.ref [Go.SE.SV.int
 Go.IntKind.i64 s.lo, Go.SE.SV.int Go.IntKind.i64 s.hi] (nat_lit 0) ∧ (cs.n = cs.n ∧ ∀ (i : Nat), i < cs.n → [Go.SE.SV.int Go.IntKind.i64 (cs.g i)] = [Go.SE.SV.int Go.IntKind.i64 (cs.g i)]) ∧ ((bif Decidable.decide (L.gErr (L.Film.mk f.id (L.Sq.mk f.grey.n fun (i : Nat) ↦ f.grey.g i)) (L.Sq.mk cs.n fun (i : Nat) ↦ cs.g i) = (0 : Int)) then L.gLo (L.Film.mk f.id (L.Sq.mk f.grey.n fun (i : Nat) ↦
 f.grey.g i)) (fun (i : Nat) ↦ cs.g i) cs.n else (0 : Int)) = bif Decidable.decide (L.gErr (L.Film.mk f.id (L.Sq.mk f.grey.n fun (i : Nat) ↦ f.grey.g i)) (L.Sq.mk cs.n fun (i : Nat) ↦ cs.g i) = (0 : Int)) then L.gLo (L.Film.mk f.id (L.Sq.mk f.grey.n fun (i : Nat) ↦ f.grey.g i)) (fun (i : Nat) ↦ cs.g i) cs.n else (0 : Int)) ∧ ((bif Decidable.decide (L.gErr (L.Film.mk f.id (L.Sq.mk f.grey.n fun (i :
 Nat) ↦ f.grey.g i)) (L.Sq.mk cs.n fun (i : Nat) ↦ cs.g i) = (0 : Int)) then L.gHi (L.Film.mk f.id (L.Sq.mk f.grey.n fun (i : Nat) ↦ f.grey.g i)) (fun (i : Nat) ↦ cs.g i) cs.n else (0 : Int)) = bif Decidable.decide (L.gErr (L.Film.mk f.id (L.Sq.mk f.grey.n fun (i : Nat) ↦ f.grey.g i)) (L.Sq.mk cs.n fun (i : Nat) ↦ cs.g i) = (0 : Int)) then L.gHi (L.Film.mk f.id (L.Sq.mk f.grey.n fun (i : Nat) ↦
 f.grey.g i)) (fun (i : Nat) ↦ cs.g i) cs.n else (0 : Int)) ∧ ((↑g : Int) = (↑g'.1 : Int) ∧ g'.1 < cs.n ∧ g'.2 ≤ L.colN f s) ∧ L.colN f s - g'.2 < L.colN f s - g_1.2) ∧ (Decidable.decide ((↑g_1.2 : Int) < (↑(bif L.validFilm (L.Film.mk f.id (L.Sq.mk f.grey.n fun (i : Nat) ↦ f.grey.g i)) then L.cnt (L.shows (L.Film.mk f.id (L.Sq.mk f.grey.n fun (i : Nat) ↦ f.grey.g i)) s) (17 : Nat) else (0 : Nat)) :
 Int)) = Bool.false → Go.SE.InK Go.IntKind.i64 ((↑g : Int) + (1 : Int)) ∧ ∃ (g' : Nat), ((bif L.allB g fun (j : Nat) ↦ L.foundC f s (cs.g j) then L.anyB g_1.2 fun (k : Nat) ↦ Decidable.decide (L.colV f s k = cs.g g_1.1) else Bool.false) = L.allB g' fun (j : Nat) ↦ L.foundC f s (cs.g j)) ∧ (↑g : Int) + (1 : Int) = (↑g' : Int) ∧ nat_lit 0 = nat_lit 0 ∧ (((bif L.validFilm (L.Film.mk f.id (L.Sq.mk
 f.grey.n fun (i : Nat) ↦ f.grey.g i)) then L.cnt (L.shows (L.Film.mk f.id (L.Sq.mk f.grey.n fun (i : Nat) ↦ f.grey.g i)) s) (17 : Nat) else (0 : Nat)) = bif L.validFilm (L.Film.mk f.id (L.Sq.mk f.grey.n fun (i : Nat) ↦ f.grey.g i)) then L.cnt (L.shows (L.Film.mk f.id (L.Sq.mk f.grey.n fun (i : Nat) ↦ f.grey.g i)) s) (17 : Nat) else (0 : Nat)) ∧ ∀ (i : Nat), (i < bif L.validFilm (L.Film.mk f.id
 (L.Sq.mk f.grey.n fun (i : Nat) ↦ f.grey.g i)) then L.cnt (L.shows (L.Film.mk f.id (L.Sq.mk f.grey.n fun (i : Nat) ↦ f.grey.g i)) s) (17 : Nat) else (0 : Nat)) → [Go.SE.SV.int Go.IntKind.i64 (L.sel (L.shows (L.Film.mk f.id (L.Sq.mk f.grey.n fun (i : Nat) ↦ f.grey.g i)) s) (fun (c : Nat) ↦ (↑c : Int)) (17 : Nat) i)] = [Go.SE.SV.int Go.IntKind.i64 (L.sel (L.shows (L.Film.mk f.id (L.Sq.mk f.grey.n
 fun (i : Nat) ↦ f.grey.g i)) s) (fun (c : Nat) ↦ (↑c : Int)) (17 : Nat) i)]) ∧ Bool.true = Bool.true ∧ Go.SE.SV.ref [Go.SE.SV.int Go.IntKind.i64 s.lo, Go.SE.SV.int Go.IntKind.i64 s.hi] (nat_lit 0) = Go.SE.SV.ref [Go.SE.SV.int Go.IntKind.i64 s.lo, Go.SE.SV.int Go.IntKind.i64 s.hi] (nat_lit 0) ∧ (cs.n = cs.n ∧ ∀ (i : Nat), i < cs.n → [Go.SE.SV.int Go.IntKind.i64 (cs.g i)] = [Go.SE.SV.int
 Go.IntKind.i64 (cs.g i)]) ∧ ((bif Decidable.decide (L.gErr (L.Film.mk f.id (L.Sq.mk f.grey.n fun (i : Nat) ↦ f.grey.g i)) (L.Sq.mk cs.n fun (i : Nat) ↦ cs.g i) = (0 : Int)) then L.gLo (L.Film.mk f.id (L.Sq.mk f.grey.n fun (i : Nat) ↦ f.grey.g i)) (fun (i : Nat) ↦ cs.g i) cs.n else (0 : Int)) = bif Decidable.decide (L.gErr (L.Film.mk f.id (L.Sq.mk f.grey.n fun (i : Nat) ↦ f.grey.g i)) (L.Sq.mk cs.n
 fun (i : Nat) ↦ cs.g i) = (0 : Int)) then L.gLo (L.Film.mk f.id (L.Sq.mk f.grey.n fun (i : Nat) ↦ f.grey.g i)) (fun (i : Nat) ↦ cs.g i) cs.n else (0 : Int)) ∧ ((bif Decidable.decide (L.gErr (L.Film.mk f.id (L.Sq.mk f.grey.n fun (i : Nat) ↦ f.grey.g i)) (L.Sq.mk cs.n fun (i : Nat) ↦ cs.g i) = (0 : Int)) then L.gHi (L.Film.mk f.id (L.Sq.mk f.grey.n fun (i : Nat) ↦ f.grey.g i)) (fun (i : Nat) ↦ cs.g
 i) cs.n else (0 : Int)) = bif Decidable.decide (L.gErr (L.Film.mk f.id (L.Sq.mk f.grey.n fun (i : Nat) ↦ f.grey.g i)) (L.Sq.mk cs.n fun (i : Nat) ↦ cs.g i) = (0 : Int)) then L.gHi (L.Film.mk f.id (L.Sq.mk f.grey.n fun (i : Nat) ↦ f.grey.g i)) (fun (i : Nat) ↦ cs.g i) cs.n else (0 : Int)) ∧ g' ≤ cs.n ∧ cs.n - g' < cs.n - g)) ∧ (Decidable.decide ((↑g : Int) < (↑cs.n : Int)) = Bool.false → (bif bif
 Bool.true then (bif Decidable.decide ((bif Decidable.decide (L.gErr (L.Film.mk f.id (L.Sq.mk f.grey.n fun (i : Nat) ↦ f.grey.g i)) (L.Sq.mk cs.n fun (i : Nat) ↦ cs.g i) = (0 : Int)) then L.gHi (L.Film.mk f.id (L.Sq.mk f.grey.n fun (i : Nat) ↦ f.grey.g i)) (fun (i : Nat) ↦ cs.g i) cs.n else (0 : Int)) < bif Decidable.decide (L.gErr (L.Film.mk f.id (L.Sq.mk f.grey.n fun (i : Nat) ↦ f.grey.g i))
 (L.Sq.mk cs.n fun (i : Nat) ↦ cs.g i) = (0 : Int)) then L.gLo (L.Film.mk f.id (L.Sq.mk f.grey.n fun (i : Nat) ↦ f.grey.g i)) (fun (i : Nat) ↦ cs.g i) cs.n else (0 : Int)) then Bool.true else bif Decidable.decide (s.lo ≤ bif Decidable.decide (L.gErr (L.Film.mk f.id (L.Sq.mk f.grey.n fun (i : Nat) ↦ f.grey.g i)) (L.Sq.mk cs.n fun (i : Nat) ↦ cs.g i) = (0 : Int)) then L.gLo (L.Film.mk f.id (L.Sq.mk
 f.grey.n fun (i : Nat) ↦ f.grey.g i)) (fun (i : Nat) ↦ cs.g i) cs.n else (0 : Int)) then Decidable.decide ((bif Decidable.decide (L.gErr (L.Film.mk f.id (L.Sq.mk f.grey.n fun (i : Nat) ↦ f.grey.g i)) (L.Sq.mk cs.n fun (i : Nat) ↦ cs.g i) = (0 : Int)) then L.gHi (L.Film.mk f.id (L.Sq.mk f.grey.n fun (i : Nat) ↦ f.grey.g i)) (fun (i : Nat) ↦ cs.g i) cs.n else (0 : Int)) ≤ s.hi) else Bool.false) ==
 L.allB g fun (j : Nat) ↦ L.foundC f s (cs.g j) else Bool.false then Decidable.decide ((bif Decidable.decide (L.gErr (L.Film.mk f.id (L.Sq.mk f.grey.n fun (i : Nat) ↦ f.grey.g i)) (L.Sq.mk cs.n fun (i : Nat) ↦ cs.g i) = (0 : Int)) then L.gHi (L.Film.mk f.id (L.Sq.mk f.grey.n fun (i : Nat) ↦ f.grey.g i)) (fun (i : Nat) ↦ cs.g i) cs.n else (0 : Int)) < bif Decidable.decide (L.gErr (L.Film.mk f.id
 (L.Sq.mk f.grey.n fun (i : Nat) ↦ f.grey.g i)) (L.Sq.mk cs.n fun (i : Nat) ↦ cs.g i) = (0 : Int)) then L.gLo (L.Film.mk f.id (L.Sq.mk f.grey.n fun (i : Nat) ↦ f.grey.g i)) (fun (i : Nat) ↦ cs.g i) cs.n else (0 : Int)) == Decidable.decide ((↑cs.n : Int) = (0 : Int)) else Bool.false) = Bool.true)))) (by kernel_rfl) (by
    refine ⟨trivial, fun _ => rfl, fun h => ?_⟩
    have hs : f.grey.n ≤ 100 ∧ cs.n ≤ 100 := by
      simp only [bor, Bool.or_eq_false_iff, decide_eq_false_iff_not] at h; omega
    refine ⟨⟨fun _ _ => rfl, by omega⟩, ⟨fun _ _ => rfl, fun _ _ => rfl, by omega, by omega⟩, fun _ => rfl, fun hE => ?_⟩
    have hE : (bif !decide ((bif L.validFilm f then (0 : Int) else 32) = 0) then true else !decide (L.gErr f cs = 0)) = false := hE
    rw [bor, Bool.or_eq_false_iff] at hE
    have he : L.gErr f cs = 0 := of_decide_eq_true (notF hE.2)
    have hv := (err_zero he).1
    have hcn : L.colN f s ≤ 17 := by
      unfold L.colN; rw [hv]; exact cnt_le
    refine ⟨⟨(0 : Nat), rfl, rfl, Nat.zero_le _⟩, fun g hg => ⟨fun hlt => ?_, fun hge => ?_⟩⟩
    · have hb : (g : Int) < (cs.n : Int) := of_decide_eq_true hlt
      refine ⟨⟨(g, 0), rfl, rfl, rfl, by show g < cs.n; omega, Nat.zero_le _⟩, ?_⟩
      rintro ⟨g', k⟩ ⟨e1, e2, e3⟩
      have e1 : (g : Int) = (g' : Int) := e1
      obtain rfl : g = g' := by omega
      have e2 : g < cs.n := e2
      have e3 : k ≤ L.colN f s := e3
      have eg : ((g : Int)).toNat = g := by omega
      have ek : ((k : Int)).toNat = k := by omega
      refine ⟨fun hlt2 => ?_, fun hge2 => ?_⟩
      · have hb2 : (k : Int) < (L.colN f s : Int) := of_decide_eq_true hlt2
        refine ⟨fun _ => ⟨by show 0 ≤ (k : Int); omega, hb2⟩, fun _ => by omega, InK.of (by show _ ≤ (k : Int) + 1; omega) (by show (k : Int) + 1 ≤ _; omega), (g, k + 1), ?_, by show (k : Int) + 1 = ((k + 1 : Nat) : Int); omega, rfl, rfl, rfl, ⟨rfl, fun _ _ => rfl⟩, rfl, rfl, ⟨rfl, fun _ _ => rfl⟩, rfl, rfl, ⟨rfl, e2, by show k + 1 ≤ L.colN f s; omega⟩, by show L.colN f s - (k + 1) < L.colN f s - k; omega⟩
        show (bif L.anyB k (fun k => decide (L.colV f s k = cs.g g)) then true else decide (L.colV f s (k : Int).toNat = cs.g (g : Int).toNat)) = L.anyB (k + 1) (fun k => decide (L.colV f s k = cs.g g))
        rw [ek, eg, bor]; rfl
      · have hb2 : ¬ (k : Int) < (L.colN f s : Int) := of_decide_eq_false hge2
        obtain rfl : k = L.colN f s := by omega
        refine ⟨InK.of (by omega) (by omega), g + 1, ?_, by omega, rfl, ⟨rfl, fun _ _ => rfl⟩, rfl, rfl, ⟨rfl, fun _ _ => rfl⟩, rfl, rfl, by omega, by omega⟩
        show (bif L.allB g (fun j => L.foundC f s (cs.g j)) then L.foundC f s (cs.g g) else false) = L.allB (g + 1) (fun j => L.foundC f s (cs.g j))
        rw [band]; rfl
    · have hb : ¬ (g : Int) < (cs.n : Int) := of_decide_eq_false hge
      obtain rfl : g = cs.n := by omega
      have c1 : (bif decide (L.gErr f cs = 0) then L.gLo f cs.g cs.n else 0) = L.gLo f cs.g cs.n := by rw [decide_eq_true he]; rfl
      have c2 : (bif decide (L.gErr f cs = 0) then L.gHi f cs.g cs.n else 0) = L.gHi f cs.g cs.n := by rw [decide_eq_true he]; rfl
      exact adj (s := s) he _ _ c1 c2)
theorem w_GlassAdjoint_ok : SpecOk Try.prog 7 w_GlassAdjoint_S := fnX Try.func7 (c := bodyOf Try.f7) (by kernel_rfl) mixed (fun args p r hs hp => by
  unfold w_GlassAdjoint_s at hs
  split at hs
  · cases hs; exact ⟨_, _, w_GlassAdjoint_vc _ _ _ hp.2.2, (.p (.agg rfl (fun i hi => by
      rcases i with _ | i
      · exact (Ext.refl _ : Ext _ _)
      rcases i with _ | i
      · exact (Ext.sl hp.1 : Ext _ _)
      exact absurd hi (by simp; try omega))) (.p (.sl hp.2.1) (.same _ .nil))), ⟨show SpecsL Try.prog _ from (SpecsL.cons w_awake_ok w_awake_en (SpecsL.cons g_Colours_ok g_Colours_en (SpecsL.cons g_Greys_ok g_Greys_en SpecsL.nil))), rfl, ⟨show ItersL Try.prog _ from ItersL.nil, (TrsOk.none (fun _ => rfl))⟩⟩⟩
  · cases hs)
theorem w_GlassAdjoint_en : Enters Try.prog 7 := fun args w => by kernel_rfl
theorem w_GlassAdjoint_B : ∀ args p r, w_GlassAdjoint_s args = some (p, r) → ∃ b, r = .bool b := by
  intro args p r h
  unfold w_GlassAdjoint_s at h
  split at h
  · cases h; exact ⟨_, rfl⟩
  · cases h
end Go.Proofs.Ytipaekbdalahdaa
