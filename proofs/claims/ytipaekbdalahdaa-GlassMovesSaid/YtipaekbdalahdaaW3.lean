/- A symbolic walk over the model, and what it shows of functions of the program: parts of the proof that the text of the row joins. -/
import Derived.Test.YtipaekbdalahdaaW2
import Derived.Test.YtipaekbdalahdaaE3
import Derived.KernelRfl

namespace Go.Proofs.Ytipaekbdalahdaa
open Go.SE Go.RowKit
set_option maxRecDepth 100000
set_option maxHeartbeats 4000000
set_option linter.unusedVariables false
attribute [local irreducible] Go.SE.vc

def L.vSpan (s : L.Span) (least : Int) : Bool := bif (bif decide (least ≤ s.lo) then decide (s.lo ≤ s.hi) else false) then decide (s.hi ≤ 33554432) else false
def L.vGauge (g : L.Gauge) : Bool := bif (bif L.vSpan g.edge 1 then L.vSpan g.across 0 else false) then L.within g.bend (-1) 1 else false
def L.gauges (l : L.Sq L.Gauge) : Bool := bif L.within l.n 3 24 then L.allB l.n (fun i => L.vGauge (l.g i)) else false
def L.edges (l : L.Sq L.Mark) (n : Int) : Bool := L.allB l.n (fun i => L.within (l.g i).edge 0 (n - 1))
def L.vMarks (l : L.Sq L.Mark) (n : Int) : Bool := bif L.edges l n then L.marks l else false
def L.badMk (m : L.Mark) (n : Int) : Bool := bif (bif !L.within m.edge 0 (n - 1) then true else !L.within m.place 0 16) then true else !L.within m.tone 1 16
def L.nums (p : L.Piece) : Bool := bif (bif (bif (bif L.within p.id 1 65535 then L.within p.colour 1 16 else false) then L.within p.rev 1 16 else false) then L.within p.made 0 9999 else false) then L.within p.swell (-64) 64 else false
def L.validPiece (p : L.Piece) : Bool := bif (bif L.nums p then L.gauges p.gauges else false) then L.vMarks p.marks p.gauges.n else false
def L.validFilm (f : L.Film) : Bool := bif (bif L.within f.id 1 65535 then L.within f.grey.n 1 16 else false) then L.allB f.grey.n (fun i => L.within (f.grey.g i) 0 255) else false
def L.few (p : L.Piece) (l : L.Sq L.Pt) : Bool := bif (bif decide ((p.gauges.n : Int) ≤ 60) then decide ((p.marks.n : Int) ≤ 100) else false) then decide ((l.n : Int) ≤ 60) else false
theorem band (a b : Bool) : (bif a then b else false) = (a && b) := by cases a <;> rfl
theorem bor (a b : Bool) : (bif a then true else b) = (a || b) := by cases a <;> rfl
theorem not_any_not {n : Nat} {f : Nat → Bool} : (!L.anyB n (fun i => !f i)) = L.allB n f := by
  rw [not_anyB]
  exact congrArg (L.allB n) (funext fun i => Bool.not_not (f i))
theorem cmpMark_lt {a b : L.Mark} : L.cmpMark a b < 0 ↔ L.earlier a b = true := by
  unfold L.cmpMark L.or2 L.cmp L.earlier
  rcases Int.lt_trichotomy a.edge b.edge with h1 | h1 | h1 <;> rcases Int.lt_trichotomy a.place b.place with h2 | h2 | h2 <;> rcases Int.lt_trichotomy a.tone b.tone with h3 | h3 | h3 <;> grind
theorem rise_iff {n : Nat} {f : Nat → Int} : L.rise n f = true ↔ ∀ i, i < n → 0 < i → f i < 0 := by
  unfold L.rise
  rw [allB_iff]
  refine forall_congr' fun i => forall_congr' fun _ => ?_
  by_cases h : 0 < i
  · have h' : (0 : Int) < (i : Int) := by omega
    simp [h, h', Int.not_le]
  · have h' : ¬ (0 : Int) < (i : Int) := by omega
    simp [h, h']
theorem vMarks_eq {l : L.Sq L.Mark} {n : Int} : (bif (bif decide ((l.n : Int) ≤ 32) then L.rise l.n (fun i => L.cmpMark (l.g (i - 1)) (l.g i)) else false) then !L.anyB l.n (fun i => L.badMk (l.g i) n) else false) = L.vMarks l n := by
  rw [not_anyB, Bool.eq_iff_iff]
  unfold L.vMarks L.marks L.edges
  simp only [band, Bool.and_eq_true, decide_eq_true_eq, rise_iff, allB_iff, cmpMark_lt, L.badMk, L.mark1, bor, Bool.not_eq_true', Bool.or_eq_false_iff, Bool.not_eq_false']
  constructor
  · rintro ⟨⟨h1, h2⟩, h3⟩
    refine ⟨fun i hi => (h3 i hi).1.1, by omega, fun i hi => ⟨⟨(h3 i hi).1.2, (h3 i hi).2⟩, ?_⟩⟩
    by_cases h : 0 < i
    · simp [h, h2 i hi h]
    · simp [h]
  · rintro ⟨h1, h2, h3⟩
    refine ⟨⟨by omega, fun i hi h => ?_⟩, fun i hi => ⟨⟨h1 i hi, (h3 i hi).1.1⟩, (h3 i hi).1.2⟩⟩
    have := (h3 i hi).2
    simpa [h] using this
theorem few_iff {p : L.Piece} {l : L.Sq L.Pt} : L.few p l = true ↔ p.gauges.n ≤ 60 ∧ p.marks.n ≤ 100 ∧ l.n ≤ 60 := by
  unfold L.few
  simp only [band, Bool.and_eq_true, decide_eq_true_eq]
  omega
theorem notT {b : Bool} (h : (!b) = true) : b = false := by cases b with | false => rfl | true => cases h
theorem notF {b : Bool} (h : (!b) = false) : b = true := by cases b with | true => rfl | false => cases h
theorem anyB_no {n : Nat} {f : Nat → Bool} (h : ∀ i, i < n → f i = false) : L.anyB n f = false := by
  cases h' : L.anyB n f with
  | false => rfl
  | true =>
    obtain ⟨i, hi, h1⟩ := anyB_iff.1 h'
    rw [h i hi] at h1; cases h1
theorem anyB_congr {n : Nat} {f g : Nat → Bool} (h : ∀ i, i < n → f i = g i) : L.anyB n f = L.anyB n g := by
  rw [Bool.eq_iff_iff, anyB_iff, anyB_iff]
  exact ⟨fun ⟨i, hi, e⟩ => ⟨i, hi, by rw [← h i hi]; exact e⟩, fun ⟨i, hi, e⟩ => ⟨i, hi, by rw [h i hi]; exact e⟩⟩
def L.cnt (p : Nat → Bool) : Nat → Nat
  | 0 => 0
  | n + 1 => bif p n then L.cnt p n + 1 else L.cnt p n
theorem cnt_le {p : Nat → Bool} : ∀ {n : Nat}, L.cnt p n ≤ n
  | 0 => Nat.le_refl _
  | n + 1 => by
    have := cnt_le (p := p) (n := n)
    unfold L.cnt
    cases p n <;> simp <;> omega
def L.selN (p : Nat → Bool) : Nat → Nat → Nat
  | 0, _ => 0
  | n + 1, k => bif p n && decide (k = L.cnt p n) then n else L.selN p n k
theorem cnt_yes {p : Nat → Bool} {n : Nat} (h : p n = true) : L.cnt p (n + 1) = L.cnt p n + 1 := by simp [L.cnt, h]
theorem cnt_not {p : Nat → Bool} {n : Nat} (h : p n = false) : L.cnt p (n + 1) = L.cnt p n := by simp [L.cnt, h]
theorem selN_new {p : Nat → Bool} {n : Nat} (h : p n = true) : L.selN p (n + 1) (L.cnt p n) = n := by simp [L.selN, h]
theorem selN_old {p : Nat → Bool} {n k : Nat} (h : k ≠ L.cnt p n) : L.selN p (n + 1) k = L.selN p n k := by simp [L.selN, h]
theorem selN_not {p : Nat → Bool} {n k : Nat} (h : p n = false) : L.selN p (n + 1) k = L.selN p n k := by simp [L.selN, h]
def ofFilm : List SV → L.Film
  | [.int _ a, .sl _ n g] => ⟨a, ⟨n, fun i => intOf (g i)⟩⟩
  | _ => ⟨0, ⟨0, fun _ => 0⟩⟩
def g_validSpan_p (s : L.Span) (n : Int) : Prop := True
def g_validSpan_r (s : L.Span) (n : Int) : SV := .bool (L.vSpan s n)
def g_validSpan_s : List EV → Option (Prop × SV)
  | [.p (.agg [.int .i64 s_lo, .int .i64 s_hi]), .p (.int .i64 n)] => some (g_validSpan_p (⟨s_lo, s_hi⟩ : L.Span) n, g_validSpan_r (⟨s_lo, s_hi⟩ : L.Span) n)
  | _ => none
abbrev g_validSpan_S : SE.Spec := (specO g_validSpan_s)
def g_validSpan_C : Cfg := { muts := [], frz := lookN [], specs := lookS [], loops := lookL [], iters := lookI [], rfs := lookR [], nils := lookM [] }
theorem g_validSpan_vc (s : L.Span) (n : Int) (hp : g_validSpan_p s n) : vc Try.prog (g_validSpan_C) (bodyOf Try.f145) (st0 Try.f145 [.p (.agg [.int .i64 s.lo, .int .i64 s.hi]), .p (.int .i64 n)]) (retFn Try.prog Try.f145 (g_validSpan_r s n)) :=
  @Eq.mpr _ ((bif bif Decidable.decide (n ≤ s.lo) then Decidable.decide (s.lo ≤ s.hi) else Bool.false then Decidable.decide (s.hi ≤ (33554432 : Int)) else Bool.false) = L.vSpan s n) (by kernel_rfl) (by
    rfl)
theorem g_validSpan_ok : SpecOk Try.prog 145 g_validSpan_S := fnX Try.func145 (c := bodyOf Try.f145) (by kernel_rfl) mixed (fun args p r hs hp => by
  unfold g_validSpan_s at hs
  split at hs
  · cases hs; exact ⟨_, _, g_validSpan_vc _ _ hp, (.same _ (.same _ .nil)), ⟨show SpecsL Try.prog _ from SpecsL.nil, rfl, ⟨show ItersL Try.prog _ from ItersL.nil, (TrsOk.none (fun _ => rfl))⟩⟩⟩
  · cases hs)
theorem g_validSpan_en : Enters Try.prog 145 := fun args w => by kernel_rfl
theorem g_validSpan_B : ∀ args p r, g_validSpan_s args = some (p, r) → ∃ b, r = .bool b := by
  intro args p r h
  unfold g_validSpan_s at h
  split at h
  · cases h; exact ⟨_, rfl⟩
  · cases h
def g_validGauge_p (g : L.Gauge) : Prop := True
def g_validGauge_r (g : L.Gauge) : SV := .bool (L.vGauge g)
def g_validGauge_s : List EV → Option (Prop × SV)
  | [.p (.agg [.int .i64 g_edge_lo, .int .i64 g_edge_hi, .int .i64 g_across_lo, .int .i64 g_across_hi, .int .i64 g_bend])] => some (g_validGauge_p (⟨(⟨g_edge_lo, g_edge_hi⟩ : L.Span), (⟨g_across_lo, g_across_hi⟩ : L.Span), g_bend⟩ : L.Gauge), g_validGauge_r (⟨(⟨g_edge_lo, g_edge_hi⟩ : L.Span), (⟨g_across_lo, g_across_hi⟩ : L.Span), g_bend⟩ : L.Gauge))
  | _ => none
abbrev g_validGauge_S : SE.Spec := (specO g_validGauge_s)
def g_validGauge_C : Cfg := { muts := [], frz := lookN [], specs := lookS [(145, g_validSpan_S), (52, g_within_S)], loops := lookL [], iters := lookI [], rfs := lookR [], nils := lookM [] }
theorem g_validGauge_vc (g : L.Gauge) (hp : g_validGauge_p g) : vc Try.prog (g_validGauge_C) (bodyOf Try.f108) (st0 Try.f108 [.p (.agg [.int .i64 g.edge.lo, .int .i64 g.edge.hi, .int .i64 g.across.lo, .int .i64 g.across.hi, .int .i64 g.bend])]) (retFn Try.prog Try.f108 (g_validGauge_r g)) :=
  @Eq.mpr _ (True ∧ (L.vSpan g.edge (1 : Int) = Bool.true → True) ∧ ((bif L.vSpan g.edge (1 : Int) then L.vSpan g.across (0 : Int) else Bool.false) = Bool.true → True) ∧ (bif bif L.vSpan g.edge (1 : Int) then L.vSpan g.across (0 : Int) else Bool.false then L.within g.bend (-1 : Int) (1 : Int) else Bool.false) = L.vGauge g) (by kernel_rfl) (by
    exact ⟨trivial, fun _ => trivial, fun _ => trivial, rfl⟩)
theorem g_validGauge_ok : SpecOk Try.prog 108 g_validGauge_S := fnX Try.func108 (c := bodyOf Try.f108) (by kernel_rfl) mixed (fun args p r hs hp => by
  unfold g_validGauge_s at hs
  split at hs
  · cases hs; exact ⟨_, _, g_validGauge_vc _ hp, (.same _ .nil), ⟨show SpecsL Try.prog _ from (SpecsL.cons g_validSpan_ok g_validSpan_en (SpecsL.cons g_within_ok g_within_en SpecsL.nil)), rfl, ⟨show ItersL Try.prog _ from ItersL.nil, (TrsOk.none (fun _ => rfl))⟩⟩⟩
  · cases hs)
theorem g_validGauge_en : Enters Try.prog 108 := fun args w => by kernel_rfl
theorem g_validGauge_B : ∀ args p r, g_validGauge_s args = some (p, r) → ∃ b, r = .bool b := by
  intro args p r h
  unfold g_validGauge_s at h
  split at h
  · cases h; exact ⟨_, rfl⟩
  · cases h
def g_validGauges1_p (g : L.Gauge) : Prop := True
def g_validGauges1_r (g : L.Gauge) : SV := .bool (!L.vGauge g)
def g_validGauges1_s : List EV → Option (Prop × SV)
  | [.p (.agg [.int .i64 g_edge_lo, .int .i64 g_edge_hi, .int .i64 g_across_lo, .int .i64 g_across_hi, .int .i64 g_bend])] => some (g_validGauges1_p (⟨(⟨g_edge_lo, g_edge_hi⟩ : L.Span), (⟨g_across_lo, g_across_hi⟩ : L.Span), g_bend⟩ : L.Gauge), g_validGauges1_r (⟨(⟨g_edge_lo, g_edge_hi⟩ : L.Span), (⟨g_across_lo, g_across_hi⟩ : L.Span), g_bend⟩ : L.Gauge))
  | _ => none
abbrev g_validGauges1_S : SE.Spec := (specO g_validGauges1_s)
def g_validGauges1_C : Cfg := { muts := [], frz := lookN [], specs := lookS [(108, g_validGauge_S)], loops := lookL [], iters := lookI [], rfs := lookR [], nils := lookM [] }
theorem g_validGauges1_vc (g : L.Gauge) (hp : g_validGauges1_p g) : vc Try.prog (g_validGauges1_C) (bodyOf Try.f107) (st0 Try.f107 [.p (.agg [.int .i64 g.edge.lo, .int .i64 g.edge.hi, .int .i64 g.across.lo, .int .i64 g.across.hi, .int .i64 g.bend])]) (retFn Try.prog Try.f107 (g_validGauges1_r g)) :=
  @Eq.mpr _ (True ∧ (!L.vGauge g) = !L.vGauge g) (by kernel_rfl) (by
    exact ⟨trivial, rfl⟩)
theorem g_validGauges1_ok : SpecOk Try.prog 107 g_validGauges1_S := fnX Try.func107 (c := bodyOf Try.f107) (by kernel_rfl) mixed (fun args p r hs hp => by
  unfold g_validGauges1_s at hs
  split at hs
  · cases hs; exact ⟨_, _, g_validGauges1_vc _ hp, (.same _ .nil), ⟨show SpecsL Try.prog _ from (SpecsL.cons g_validGauge_ok g_validGauge_en SpecsL.nil), rfl, ⟨show ItersL Try.prog _ from ItersL.nil, (TrsOk.none (fun _ => rfl))⟩⟩⟩
  · cases hs)
theorem g_validGauges1_en : Enters Try.prog 107 := fun args w => by kernel_rfl
theorem g_validGauges1_B : ∀ args p r, g_validGauges1_s args = some (p, r) → ∃ b, r = .bool b := by
  intro args p r h
  unfold g_validGauges1_s at h
  split at h
  · cases h; exact ⟨_, rfl⟩
  · cases h
def g_validGauges_p (l : (L.Sq L.Gauge)) : Prop := l.n ≤ 1000000
def g_validGauges_r (l : (L.Sq L.Gauge)) : SV := .bool (L.gauges l)
def g_validGauges_s : List EV → Option (Prop × SV)
  | [.p (.sl 5 l_n l_g)] => some ((∀ i, i < l_n → l_g i = [.int .i64 ((ofGauge (l_g i)).edge.lo), .int .i64 ((ofGauge (l_g i)).edge.hi), .int .i64 ((ofGauge (l_g i)).across.lo), .int .i64 ((ofGauge (l_g i)).across.hi), .int .i64 ((ofGauge (l_g i)).bend)]) ∧ g_validGauges_p (⟨l_n, fun i => ofGauge (l_g i)⟩ : (L.Sq L.Gauge)), g_validGauges_r (⟨l_n, fun i => ofGauge (l_g i)⟩ : (L.Sq L.Gauge)))
  | _ => none
abbrev g_validGauges_S : SE.Spec := (specO g_validGauges_s)
def g_validGauges_C : Cfg := { muts := [], frz := lookN [], specs := lookS [(52, g_within_S), (106, s_conFG_S), (107, g_validGauges1_S)], loops := lookL [], iters := lookI [], rfs := lookR [], nils := lookM [] }
theorem g_validGauges_vc (l : (L.Sq L.Gauge)) (hp : g_validGauges_p l) : vc Try.prog (g_validGauges_C) (bodyOf Try.f57) (st0 Try.f57 [.p (.sl 5 l.n (fun i => [.int .i64 ((l.g i).edge.lo), .int .i64 ((l.g i).edge.hi), .int .i64 ((l.g i).across.lo), .int .i64 ((l.g i).across.hi), .int .i64 ((l.g i).bend)]))]) (retFn Try.prog Try.f57 (g_validGauges_r l)) :=
  @Eq.mpr _ (True ∧ (L.within (↑l.n : Int) (3 : Int) (24 : Int) = Bool.true → (∀ (i : Nat), i < l.n → [Go.SE.SV.int Go.IntKind.i64 (l.g i).edge.lo, Go.SE.SV.int Go.IntKind.i64 (l.g i).edge.hi, Go.SE.SV.int Go.IntKind.i64 (l.g i).across.lo, Go.SE.SV.int Go.IntKind.i64 (l.g i).across.hi, Go.SE.SV.int Go.IntKind.i64 (l.g i).bend] = [Go.SE.SV.int Go.IntKind.i64 (l.g i).edge.lo, Go.SE.SV.int Go.IntKind.i64 (l.g
 i).edge.hi, Go.SE.SV.int Go.IntKind.i64 (l.g i).across.lo, Go.SE.SV.int Go.IntKind.i64 (l.g i).across.hi, Go.SE.SV.int Go.IntKind.i64 (l.g i).bend]) ∧ Go.SE.isB (Go.SE.FSpec.mk (fun («as» : List Go.SE.SV) ↦ Go.SE.preO g_validGauges1_s (List.map Go.SE.EV.p «as» ++ List.map Go.SE.EV.p [])) fun («as» : List Go.SE.SV) ↦ Go.SE.resO g_validGauges1_s (List.map Go.SE.EV.p «as» ++ List.map Go.SE.EV.p []))
 ∧ l.n ≤ (1000000 : Nat) ∧ ∀ (i : Nat), i < l.n → True) ∧ (bif L.within (↑l.n : Int) (3 : Int) (24 : Int) then !L.anyB l.n fun (i : Nat) ↦ L.fbl (Go.SE.FSpec.mk (fun («as» : List Go.SE.SV) ↦ Go.SE.preO g_validGauges1_s (List.map Go.SE.EV.p «as» ++ List.map Go.SE.EV.p [])) fun («as» : List Go.SE.SV) ↦ Go.SE.resO g_validGauges1_s (List.map Go.SE.EV.p «as» ++ List.map Go.SE.EV.p [])) [Go.SE.SV.agg
 [Go.SE.SV.int Go.IntKind.i64 (l.g i).edge.lo, Go.SE.SV.int Go.IntKind.i64 (l.g i).edge.hi, Go.SE.SV.int Go.IntKind.i64 (l.g i).across.lo, Go.SE.SV.int Go.IntKind.i64 (l.g i).across.hi, Go.SE.SV.int Go.IntKind.i64 (l.g i).bend]] else Bool.false) = L.gauges l) (by kernel_rfl) (by
    refine ⟨trivial, fun _ => ⟨fun _ _ => rfl, isB_of g_validGauges1_B _, hp, fun _ _ => trivial⟩, ?_⟩
    exact congrArg (fun b => bif L.within l.n 3 24 then b else false) (not_any_not (f := fun i => L.vGauge (l.g i))))
theorem g_validGauges_ok : SpecOk Try.prog 57 g_validGauges_S := fnX Try.func57 (c := bodyOf Try.f57) (by kernel_rfl) mixed (fun args p r hs hp => by
  unfold g_validGauges_s at hs
  split at hs
  · cases hs; exact ⟨_, _, g_validGauges_vc _ hp.2, (.p (.sl hp.1) .nil), ⟨show SpecsL Try.prog _ from (SpecsL.cons g_within_ok g_within_en (SpecsL.cons s_conFG_ok s_conFG_en (SpecsL.cons g_validGauges1_ok g_validGauges1_en SpecsL.nil))), rfl, ⟨show ItersL Try.prog _ from ItersL.nil, (TrsOk.none (fun _ => rfl))⟩⟩⟩
  · cases hs)
theorem g_validGauges_en : Enters Try.prog 57 := fun args w => by kernel_rfl
theorem g_validGauges_B : ∀ args p r, g_validGauges_s args = some (p, r) → ∃ b, r = .bool b := by
  intro args p r h
  unfold g_validGauges_s at h
  split at h
  · cases h; exact ⟨_, rfl⟩
  · cases h
def g_validMarks1_p (m : L.Mark) (n : Int) : Prop := -1000000 ≤ n ∧ n ≤ 1000000
def g_validMarks1_r (m : L.Mark) (n : Int) : SV := .bool (L.badMk m n)
def g_validMarks1_s : List EV → Option (Prop × SV)
  | [.p (.agg [.int .i64 m_edge, .int .i64 m_place, .int .i64 m_tone]), .p (.ref [.int .i64 n] 0)] => some (g_validMarks1_p (⟨m_edge, m_place, m_tone⟩ : L.Mark) n, g_validMarks1_r (⟨m_edge, m_place, m_tone⟩ : L.Mark) n)
  | _ => none
abbrev g_validMarks1_S : SE.Spec := (specO g_validMarks1_s)
def g_validMarks1_C : Cfg := { muts := [], frz := lookN [], specs := lookS [(52, g_within_S)], loops := lookL [], iters := lookI [], rfs := lookR [], nils := lookM [] }
theorem g_validMarks1_vc (m : L.Mark) (n : Int) (hp : g_validMarks1_p m n) : vc Try.prog (g_validMarks1_C) (bodyOf Try.f109) (st0 Try.f109 [.p (.agg [.int .i64 m.edge, .int .i64 m.place, .int .i64 m.tone]), .p (.ref [.int .i64 n] 0)]) (retFn Try.prog Try.f109 (g_validMarks1_r m n)) :=
  @Eq.mpr _ (Go.SE.InK Go.IntKind.i64 (n - (1 : Int)) ∧ True ∧ ((!!L.within m.edge (0 : Int) (n - (1 : Int))) = Bool.true → True) ∧ ((!bif !L.within m.edge (0 : Int) (n - (1 : Int)) then Bool.true else !L.within m.place (0 : Int) (16 : Int)) = Bool.true → True) ∧ (bif bif !L.within m.edge (0 : Int) (n - (1 : Int)) then Bool.true else !L.within m.place (0 : Int) (16 : Int) then Bool.true else !L.within m.tone
 (1 : Int) (16 : Int)) = L.badMk m n) (by kernel_rfl) (by
    obtain ⟨h1, h2⟩ := hp
    exact ⟨InK.of (by omega) (by omega), trivial, fun _ => trivial, fun _ => trivial, rfl⟩)
theorem g_validMarks1_ok : SpecOk Try.prog 109 g_validMarks1_S := fnX Try.func109 (c := bodyOf Try.f109) (by kernel_rfl) mixed (fun args p r hs hp => by
  unfold g_validMarks1_s at hs
  split at hs
  · cases hs; exact ⟨_, _, g_validMarks1_vc _ _ hp, (.same _ (.same _ .nil)), ⟨show SpecsL Try.prog _ from (SpecsL.cons g_within_ok g_within_en SpecsL.nil), rfl, ⟨show ItersL Try.prog _ from ItersL.nil, (TrsOk.none (fun _ => rfl))⟩⟩⟩
  · cases hs)
theorem g_validMarks1_en : Enters Try.prog 109 := fun args w => by kernel_rfl
theorem g_validMarks1_B : ∀ args p r, g_validMarks1_s args = some (p, r) → ∃ b, r = .bool b := by
  intro args p r h
  unfold g_validMarks1_s at h
  split at h
  · cases h; exact ⟨_, rfl⟩
  · cases h
def g_validMarks_p (l : (L.Sq L.Mark)) (n : Int) : Prop := l.n ≤ 1000000 ∧ -1000000 ≤ n ∧ n ≤ 1000000
def g_validMarks_r (l : (L.Sq L.Mark)) (n : Int) : SV := .bool (L.vMarks l n)
def g_validMarks_s : List EV → Option (Prop × SV)
  | [.p (.sl 3 l_n l_g), .p (.int .i64 n)] => some ((∀ i, i < l_n → l_g i = [.int .i64 ((ofMark (l_g i)).edge), .int .i64 ((ofMark (l_g i)).place), .int .i64 ((ofMark (l_g i)).tone)]) ∧ g_validMarks_p (⟨l_n, fun i => ofMark (l_g i)⟩ : (L.Sq L.Mark)) n, g_validMarks_r (⟨l_n, fun i => ofMark (l_g i)⟩ : (L.Sq L.Mark)) n)
  | _ => none
abbrev g_validMarks_S : SE.Spec := (specO g_validMarks_s)
def g_validMarks_C : Cfg := { muts := [], frz := lookN [], specs := lookS [(102, g_risingM_S), (103, g_cmpMarks_S), (104, s_conFM_S), (109, g_validMarks1_S)], loops := lookL [], iters := lookI [], rfs := lookR [], nils := lookM [] }
theorem g_validMarks_vc (l : (L.Sq L.Mark)) (n : Int) (hp : g_validMarks_p l n) : vc Try.prog (g_validMarks_C) (bodyOf Try.f58) (st0 Try.f58 [.p (.sl 3 l.n (fun i => [.int .i64 ((l.g i).edge), .int .i64 ((l.g i).place), .int .i64 ((l.g i).tone)])), .p (.int .i64 n)]) (retFn Try.prog Try.f58 (g_validMarks_r l n)) :=
  @Eq.mpr _ ((Decidable.decide ((↑l.n : Int) ≤ (32 : Int)) = Bool.true → (∀ (i : Nat), i < l.n → [Go.SE.SV.int Go.IntKind.i64 (l.g i).edge, Go.SE.SV.int Go.IntKind.i64 (l.g i).place, Go.SE.SV.int Go.IntKind.i64 (l.g i).tone] = [Go.SE.SV.int Go.IntKind.i64 (l.g i).edge, Go.SE.SV.int Go.IntKind.i64 (l.g i).place, Go.SE.SV.int Go.IntKind.i64 (l.g i).tone]) ∧ Go.SE.isI (Go.SE.FSpec.mk (fun («as» : List Go.SE.SV) ↦
 Go.SE.preO g_cmpMarks_s (List.map Go.SE.EV.p «as» ++ List.map Go.SE.EV.p [])) fun («as» : List Go.SE.SV) ↦ Go.SE.resO g_cmpMarks_s (List.map Go.SE.EV.p «as» ++ List.map Go.SE.EV.p [])) ∧ l.n ≤ (1000000 : Nat) ∧ ∀ (i : Nat), i + (1 : Nat) < l.n → True) ∧ ((bif Decidable.decide ((↑l.n : Int) ≤ (32 : Int)) then L.rise l.n fun (i : Nat) ↦ L.fil (Go.SE.FSpec.mk (fun («as» : List Go.SE.SV) ↦ Go.SE.preO
 g_cmpMarks_s (List.map Go.SE.EV.p «as» ++ List.map Go.SE.EV.p [])) fun («as» : List Go.SE.SV) ↦ Go.SE.resO g_cmpMarks_s (List.map Go.SE.EV.p «as» ++ List.map Go.SE.EV.p [])) [Go.SE.SV.agg [Go.SE.SV.int Go.IntKind.i64 (l.g (i - (1 : Nat))).edge, Go.SE.SV.int Go.IntKind.i64 (l.g (i - (1 : Nat))).place, Go.SE.SV.int Go.IntKind.i64 (l.g (i - (1 : Nat))).tone], Go.SE.SV.agg [Go.SE.SV.int Go.IntKind.i64
 (l.g i).edge, Go.SE.SV.int Go.IntKind.i64 (l.g i).place, Go.SE.SV.int Go.IntKind.i64 (l.g i).tone]] else Bool.false) = Bool.true → (∀ (i : Nat), i < l.n → [Go.SE.SV.int Go.IntKind.i64 (l.g i).edge, Go.SE.SV.int Go.IntKind.i64 (l.g i).place, Go.SE.SV.int Go.IntKind.i64 (l.g i).tone] = [Go.SE.SV.int Go.IntKind.i64 (l.g i).edge, Go.SE.SV.int Go.IntKind.i64 (l.g i).place, Go.SE.SV.int Go.IntKind.i64
 (l.g i).tone]) ∧ Go.SE.isB (Go.SE.FSpec.mk (fun («as» : List Go.SE.SV) ↦ Go.SE.preO g_validMarks1_s (List.map Go.SE.EV.p «as» ++ List.map Go.SE.EV.p [Go.SE.SV.ref [Go.SE.SV.int Go.IntKind.i64 n] (nat_lit 0)])) fun («as» : List Go.SE.SV) ↦ Go.SE.resO g_validMarks1_s (List.map Go.SE.EV.p «as» ++ List.map Go.SE.EV.p [Go.SE.SV.ref [Go.SE.SV.int Go.IntKind.i64 n] (nat_lit 0)])) ∧ l.n ≤ (1000000 : Nat)
 ∧ ∀ (i : Nat), i < l.n → (-1000000 : Int) ≤ n ∧ n ≤ (1000000 : Int)) ∧ (bif bif Decidable.decide ((↑l.n : Int) ≤ (32 : Int)) then L.rise l.n fun (i : Nat) ↦ L.fil (Go.SE.FSpec.mk (fun («as» : List Go.SE.SV) ↦ Go.SE.preO g_cmpMarks_s (List.map Go.SE.EV.p «as» ++ List.map Go.SE.EV.p [])) fun («as» : List Go.SE.SV) ↦ Go.SE.resO g_cmpMarks_s (List.map Go.SE.EV.p «as» ++ List.map Go.SE.EV.p []))
 [Go.SE.SV.agg [Go.SE.SV.int Go.IntKind.i64 (l.g (i - (1 : Nat))).edge, Go.SE.SV.int Go.IntKind.i64 (l.g (i - (1 : Nat))).place, Go.SE.SV.int Go.IntKind.i64 (l.g (i - (1 : Nat))).tone], Go.SE.SV.agg [Go.SE.SV.int Go.IntKind.i64 (l.g i).edge, Go.SE.SV.int Go.IntKind.i64 (l.g i).place, Go.SE.SV.int Go.IntKind.i64 (l.g i).tone]] else Bool.false then !L.anyB l.n fun (i : Nat) ↦ L.fbl (Go.SE.FSpec.mk
 (fun («as» : List Go.SE.SV) ↦ Go.SE.preO g_validMarks1_s (List.map Go.SE.EV.p «as» ++ List.map Go.SE.EV.p [Go.SE.SV.ref [Go.SE.SV.int Go.IntKind.i64 n] (nat_lit 0)])) fun («as» : List Go.SE.SV) ↦ Go.SE.resO g_validMarks1_s (List.map Go.SE.EV.p «as» ++ List.map Go.SE.EV.p [Go.SE.SV.ref [Go.SE.SV.int Go.IntKind.i64 n] (nat_lit 0)])) [Go.SE.SV.agg [Go.SE.SV.int Go.IntKind.i64 (l.g i).edge,
 Go.SE.SV.int Go.IntKind.i64 (l.g i).place, Go.SE.SV.int Go.IntKind.i64 (l.g i).tone]] else Bool.false) = L.vMarks l n) (by kernel_rfl) (by
    obtain ⟨h1, h2⟩ := hp
    exact ⟨fun _ => ⟨fun _ _ => rfl, isI_of g_cmpMarks_I _, h1, fun _ _ => trivial⟩, fun _ => ⟨fun _ _ => rfl, isB_of g_validMarks1_B _, h1, fun _ _ => h2⟩, vMarks_eq⟩)
theorem g_validMarks_ok : SpecOk Try.prog 58 g_validMarks_S := fnX Try.func58 (c := bodyOf Try.f58) (by kernel_rfl) mixed (fun args p r hs hp => by
  unfold g_validMarks_s at hs
  split at hs
  · cases hs; exact ⟨_, _, g_validMarks_vc _ _ hp.2, (.p (.sl hp.1) (.same _ .nil)), ⟨show SpecsL Try.prog _ from (SpecsL.cons g_risingM_ok g_risingM_en (SpecsL.cons g_cmpMarks_ok g_cmpMarks_en (SpecsL.cons s_conFM_ok s_conFM_en (SpecsL.cons g_validMarks1_ok g_validMarks1_en SpecsL.nil)))), rfl, ⟨show ItersL Try.prog _ from ItersL.nil, (TrsOk.none (fun _ => rfl))⟩⟩⟩
  · cases hs)
theorem g_validMarks_en : Enters Try.prog 58 := fun args w => by kernel_rfl
theorem g_validMarks_B : ∀ args p r, g_validMarks_s args = some (p, r) → ∃ b, r = .bool b := by
  intro args p r h
  unfold g_validMarks_s at h
  split at h
  · cases h; exact ⟨_, rfl⟩
  · cases h
def g_ValidPiece_p (p : L.Piece) : Prop := p.gauges.n ≤ 1000000 ∧ p.marks.n ≤ 1000000
def g_ValidPiece_r (p : L.Piece) : SV := .bool (L.validPiece p)
def g_ValidPiece_s : List EV → Option (Prop × SV)
  | [.p (.agg [.int .i64 p_id, .int .i64 p_colour, .int .i64 p_rev, .int .i64 p_made, .int .i64 p_swell, .sl 5 p_gauges_n p_gauges_g, .sl 3 p_marks_n p_marks_g])] => some ((∀ i, i < p_gauges_n → p_gauges_g i = [.int .i64 ((ofGauge (p_gauges_g i)).edge.lo), .int .i64 ((ofGauge (p_gauges_g i)).edge.hi), .int .i64 ((ofGauge (p_gauges_g i)).across.lo), .int .i64 ((ofGauge (p_gauges_g i)).across.hi), .int .i64 ((ofGauge (p_gauges_g i)).bend)]) ∧ (∀ i, i < p_marks_n → p_marks_g i = [.int .i64 ((ofMark (p_marks_g i)).edge), .int .i64 ((ofMark (p_marks_g i)).place), .int .i64 ((ofMark (p_marks_g i)).tone)]) ∧ g_ValidPiece_p (⟨p_id, p_colour, p_rev, p_made, p_swell, (⟨p_gauges_n, fun i => ofGauge (p_gauges_g i)⟩ : (L.Sq L.Gauge)), (⟨p_marks_n, fun i => ofMark (p_marks_g i)⟩ : (L.Sq L.Mark))⟩ : L.Piece), g_ValidPiece_r (⟨p_id, p_colour, p_rev, p_made, p_swell, (⟨p_gauges_n, fun i => ofGauge (p_gauges_g i)⟩ : (L.Sq L.Gauge)), (⟨p_marks_n, fun i => ofMark (p_marks_g i)⟩ : (L.Sq L.Mark))⟩ : L.Piece))
  | _ => none
abbrev g_ValidPiece_S : SE.Spec := (specO g_ValidPiece_s)
def g_ValidPiece_C : Cfg := { muts := [], frz := lookN [], specs := lookS [(52, g_within_S), (57, g_validGauges_S), (58, g_validMarks_S)], loops := lookL [], iters := lookI [], rfs := lookR [], nils := lookM [] }
theorem g_ValidPiece_vc (p : L.Piece) (hp : g_ValidPiece_p p) : vc Try.prog (g_ValidPiece_C) (bodyOf Try.f15) (st0 Try.f15 [.p (.agg [.int .i64 p.id, .int .i64 p.colour, .int .i64 p.rev, .int .i64 p.made, .int .i64 p.swell, .sl 5 p.gauges.n (fun i => [.int .i64 ((p.gauges.g i).edge.lo), .int .i64 ((p.gauges.g i).edge.hi), .int .i64 ((p.gauges.g i).across.lo), .int .i64 ((p.gauges.g i).across.hi), .int .i64 ((p.gauges.g i).bend)]), .sl 3 p.marks.n (fun i => [.int .i64 ((p.marks.g i).edge), .int .i64 ((p.marks.g i).place), .int .i64 ((p.marks.g i).tone)])])]) (retFn Try.prog Try.f15 (g_ValidPiece_r p)) :=
  @Eq.mpr _ (True ∧ (L.within p.id (1 : Int) (65535 : Int) = Bool.true → True) ∧ ((bif L.within p.id (1 : Int) (65535 : Int) then L.within p.colour (1 : Int) (16 : Int) else Bool.false) = Bool.true → True) ∧ ((bif bif L.within p.id (1 : Int) (65535 : Int) then L.within p.colour (1 : Int) (16 : Int) else Bool.false then L.within p.rev (1 : Int) (16 : Int) else Bool.false) = Bool.true → True) ∧ ((bif bif bif
 L.within p.id (1 : Int) (65535 : Int) then L.within p.colour (1 : Int) (16 : Int) else Bool.false then L.within p.rev (1 : Int) (16 : Int) else Bool.false then L.within p.made (0 : Int) (9999 : Int) else Bool.false) = Bool.true → True) ∧ ((bif bif bif bif L.within p.id (1 : Int) (65535 : Int) then L.within p.colour (1 : Int) (16 : Int) else Bool.false then L.within p.rev (1 : Int) (16 : Int) else
 Bool.false then L.within p.made (0 : Int) (9999 : Int) else Bool.false then L.within p.swell (-64 : Int) (64 : Int) else Bool.false) = Bool.true → (∀ (i : Nat), i < p.gauges.n → [Go.SE.SV.int Go.IntKind.i64 (p.gauges.g i).edge.lo, Go.SE.SV.int Go.IntKind.i64 (p.gauges.g i).edge.hi, Go.SE.SV.int Go.IntKind.i64 (p.gauges.g i).across.lo, Go.SE.SV.int Go.IntKind.i64 (p.gauges.g i).across.hi,
 Go.SE.SV.int Go.IntKind.i64 (p.gauges.g i).bend] = [Go.SE.SV.int Go.IntKind.i64 (p.gauges.g i).edge.lo, Go.SE.SV.int Go.IntKind.i64 (p.gauges.g i).edge.hi, Go.SE.SV.int Go.IntKind.i64 (p.gauges.g i).across.lo, Go.SE.SV.int Go.IntKind.i64 (p.gauges.g i).across.hi, Go.SE.SV.int Go.IntKind.i64 (p.gauges.g i).bend]) ∧ p.gauges.n ≤ (1000000 : Nat)) ∧ ((bif bif bif bif bif L.within p.id (1 : Int) (65535
 : Int) then L.within p.colour (1 : Int) (16 : Int) else Bool.false then L.within p.rev (1 : Int) (16 : Int) else Bool.false then L.within p.made (0 : Int) (9999 : Int) else Bool.false then L.within p.swell (-64 : Int) (64 : Int) else Bool.false then L.gauges (L.Sq.mk p.gauges.n fun (i : Nat) ↦ p.gauges.g i) else Bool.false) = Bool.true → (∀ (i : Nat), i < p.marks.n → [Go.SE.SV.int Go.IntKind.i64
 (p.marks.g i).edge, Go.SE.SV.int Go.IntKind.i64 (p.marks.g i).place, Go.SE.SV.int Go.IntKind.i64 (p.marks.g i).tone] = [Go.SE.SV.int Go.IntKind.i64 (p.marks.g i).edge, Go.SE.SV.int Go.IntKind.i64 (p.marks.g i).place, Go.SE.SV.int Go.IntKind.i64 (p.marks.g i).tone]) ∧ p.marks.n ≤ (1000000 : Nat) ∧ (-1000000 : Int) ≤ (↑p.gauges.n : Int) ∧ (↑p.gauges.n : Int) ≤ (1000000 : Int)) ∧ (bif bif bif bif bif
 bif L.within p.id (1 : Int) (65535 : Int) then L.within p.colour (1 : Int) (16 : Int) else Bool.false then L.within p.rev (1 : Int) (16 : Int) else Bool.false then L.within p.made (0 : Int) (9999 : Int) else Bool.false then L.within p.swell (-64 : Int) (64 : Int) else Bool.false then L.gauges (L.Sq.mk p.gauges.n fun (i : Nat) ↦ p.gauges.g i) else Bool.false then L.vMarks (L.Sq.mk p.marks.n fun (i
 : Nat) ↦ p.marks.g i) (↑p.gauges.n : Int) else Bool.false) = L.validPiece p) (by kernel_rfl) (by
    obtain ⟨h1, h2⟩ := hp
    exact ⟨trivial, fun _ => trivial, fun _ => trivial, fun _ => trivial, fun _ => trivial, fun _ => ⟨fun _ _ => rfl, h1⟩, fun _ => ⟨fun _ _ => rfl, h2, by omega, by omega⟩, rfl⟩)
theorem g_ValidPiece_ok : SpecOk Try.prog 15 g_ValidPiece_S := fnX Try.func15 (c := bodyOf Try.f15) (by kernel_rfl) mixed (fun args p r hs hp => by
  unfold g_ValidPiece_s at hs
  split at hs
  · cases hs; exact ⟨_, _, g_ValidPiece_vc _ hp.2.2, (.p (.agg rfl (fun i hi => by
      rcases i with _ | i
      · exact (Ext.refl _ : Ext _ _)
      rcases i with _ | i
      · exact (Ext.refl _ : Ext _ _)
      rcases i with _ | i
      · exact (Ext.refl _ : Ext _ _)
      rcases i with _ | i
      · exact (Ext.refl _ : Ext _ _)
      rcases i with _ | i
      · exact (Ext.refl _ : Ext _ _)
      rcases i with _ | i
      · exact (Ext.sl hp.1 : Ext _ _)
      rcases i with _ | i
      · exact (Ext.sl hp.2.1 : Ext _ _)
      exact absurd hi (by simp; try omega))) .nil), ⟨show SpecsL Try.prog _ from (SpecsL.cons g_within_ok g_within_en (SpecsL.cons g_validGauges_ok g_validGauges_en (SpecsL.cons g_validMarks_ok g_validMarks_en SpecsL.nil))), rfl, ⟨show ItersL Try.prog _ from ItersL.nil, (TrsOk.none (fun _ => rfl))⟩⟩⟩
  · cases hs)
theorem g_ValidPiece_en : Enters Try.prog 15 := fun args w => by kernel_rfl
theorem g_ValidPiece_B : ∀ args p r, g_ValidPiece_s args = some (p, r) → ∃ b, r = .bool b := by
  intro args p r h
  unfold g_ValidPiece_s at h
  split at h
  · cases h; exact ⟨_, rfl⟩
  · cases h
def g_ValidFilm1_p (n : Int) : Prop := True
def g_ValidFilm1_r (n : Int) : SV := .bool (!L.within n 0 255)
def g_ValidFilm1_s : List EV → Option (Prop × SV)
  | [.p (.int .i64 n)] => some (g_ValidFilm1_p n, g_ValidFilm1_r n)
  | _ => none
abbrev g_ValidFilm1_S : SE.Spec := (specO g_ValidFilm1_s)
def g_ValidFilm1_C : Cfg := { muts := [], frz := lookN [], specs := lookS [(52, g_within_S)], loops := lookL [], iters := lookI [], rfs := lookR [], nils := lookM [] }
theorem g_ValidFilm1_vc (n : Int) (hp : g_ValidFilm1_p n) : vc Try.prog (g_ValidFilm1_C) (bodyOf Try.f63) (st0 Try.f63 [.p (.int .i64 n)]) (retFn Try.prog Try.f63 (g_ValidFilm1_r n)) :=
  @Eq.mpr _ (True ∧ (!L.within n (0 : Int) (255 : Int)) = !L.within n (0 : Int) (255 : Int)) (by kernel_rfl) (by
    exact ⟨trivial, rfl⟩)
theorem g_ValidFilm1_ok : SpecOk Try.prog 63 g_ValidFilm1_S := fnX Try.func63 (c := bodyOf Try.f63) (by kernel_rfl) mixed (fun args p r hs hp => by
  unfold g_ValidFilm1_s at hs
  split at hs
  · cases hs; exact ⟨_, _, g_ValidFilm1_vc _ hp, (.same _ .nil), ⟨show SpecsL Try.prog _ from (SpecsL.cons g_within_ok g_within_en SpecsL.nil), rfl, ⟨show ItersL Try.prog _ from ItersL.nil, (TrsOk.none (fun _ => rfl))⟩⟩⟩
  · cases hs)
theorem g_ValidFilm1_en : Enters Try.prog 63 := fun args w => by kernel_rfl
theorem g_ValidFilm1_B : ∀ args p r, g_ValidFilm1_s args = some (p, r) → ∃ b, r = .bool b := by
  intro args p r h
  unfold g_ValidFilm1_s at h
  split at h
  · cases h; exact ⟨_, rfl⟩
  · cases h
def g_ValidFilm_p (f : L.Film) : Prop := f.grey.n ≤ 1000000
def g_ValidFilm_r (f : L.Film) : SV := .bool (L.validFilm f)
def g_ValidFilm_s : List EV → Option (Prop × SV)
  | [.p (.agg [.int .i64 f_id, .sl 1 f_grey_n f_grey_g])] => some ((∀ i, i < f_grey_n → f_grey_g i = [.int .i64 ((intOf (f_grey_g i)))]) ∧ g_ValidFilm_p (⟨f_id, (⟨f_grey_n, fun i => intOf (f_grey_g i)⟩ : (L.Sq Int))⟩ : L.Film), g_ValidFilm_r (⟨f_id, (⟨f_grey_n, fun i => intOf (f_grey_g i)⟩ : (L.Sq Int))⟩ : L.Film))
  | _ => none
abbrev g_ValidFilm_S : SE.Spec := (specO g_ValidFilm_s)
def g_ValidFilm_C : Cfg := { muts := [], frz := lookN [], specs := lookS [(52, g_within_S), (62, s_conFI_S), (63, g_ValidFilm1_S)], loops := lookL [], iters := lookI [], rfs := lookR [], nils := lookM [] }
theorem g_ValidFilm_vc (f : L.Film) (hp : g_ValidFilm_p f) : vc Try.prog (g_ValidFilm_C) (bodyOf Try.f17) (st0 Try.f17 [.p (.agg [.int .i64 f.id, .sl 1 f.grey.n (fun i => [.int .i64 ((f.grey.g i))])])]) (retFn Try.prog Try.f17 (g_ValidFilm_r f)) :=
  @Eq.mpr _ (True ∧ (L.within f.id (1 : Int) (65535 : Int) = Bool.true → True) ∧ ((bif L.within f.id (1 : Int) (65535 : Int) then L.within (↑f.grey.n : Int) (1 : Int) (16 : Int) else Bool.false) = Bool.true → (∀ (i : Nat), i < f.grey.n → [Go.SE.SV.int Go.IntKind.i64 (f.grey.g i)] = [Go.SE.SV.int Go.IntKind.i64 (f.grey.g i)]) ∧ Go.SE.isB (Go.SE.FSpec.mk (fun («as» : List Go.SE.SV) ↦ Go.SE.preO g_ValidFilm1_s
 (List.map Go.SE.EV.p «as» ++ List.map Go.SE.EV.p [])) fun («as» : List Go.SE.SV) ↦ Go.SE.resO g_ValidFilm1_s (List.map Go.SE.EV.p «as» ++ List.map Go.SE.EV.p [])) ∧ f.grey.n ≤ (1000000 : Nat) ∧ ∀ (i : Nat), i < f.grey.n → True) ∧ (bif bif L.within f.id (1 : Int) (65535 : Int) then L.within (↑f.grey.n : Int) (1 : Int) (16 : Int) else Bool.false then !L.anyB f.grey.n fun (i : Nat) ↦ L.fbl
 (Go.SE.FSpec.mk (fun («as» : List Go.SE.SV) ↦ Go.SE.preO g_ValidFilm1_s (List.map Go.SE.EV.p «as» ++ List.map Go.SE.EV.p [])) fun («as» : List Go.SE.SV) ↦ Go.SE.resO g_ValidFilm1_s (List.map Go.SE.EV.p «as» ++ List.map Go.SE.EV.p [])) [Go.SE.SV.int Go.IntKind.i64 (f.grey.g i)] else Bool.false) = L.validFilm f) (by kernel_rfl) (by
    refine ⟨trivial, fun _ => trivial, fun _ => ⟨fun _ _ => rfl, isB_of g_ValidFilm1_B _, hp, fun _ _ => trivial⟩, ?_⟩
    exact congrArg (fun b => bif (bif L.within f.id 1 65535 then L.within f.grey.n 1 16 else false) then b else false) (not_any_not (f := fun i => L.within (f.grey.g i) 0 255)))
theorem g_ValidFilm_ok : SpecOk Try.prog 17 g_ValidFilm_S := fnX Try.func17 (c := bodyOf Try.f17) (by kernel_rfl) mixed (fun args p r hs hp => by
  unfold g_ValidFilm_s at hs
  split at hs
  · cases hs; exact ⟨_, _, g_ValidFilm_vc _ hp.2, (.p (.agg rfl (fun i hi => by
      rcases i with _ | i
      · exact (Ext.refl _ : Ext _ _)
      rcases i with _ | i
      · exact (Ext.sl hp.1 : Ext _ _)
      exact absurd hi (by simp; try omega))) .nil), ⟨show SpecsL Try.prog _ from (SpecsL.cons g_within_ok g_within_en (SpecsL.cons s_conFI_ok s_conFI_en (SpecsL.cons g_ValidFilm1_ok g_ValidFilm1_en SpecsL.nil))), rfl, ⟨show ItersL Try.prog _ from ItersL.nil, (TrsOk.none (fun _ => rfl))⟩⟩⟩
  · cases hs)
theorem g_ValidFilm_en : Enters Try.prog 17 := fun args w => by kernel_rfl
theorem g_ValidFilm_B : ∀ args p r, g_ValidFilm_s args = some (p, r) → ∃ b, r = .bool b := by
  intro args p r h
  unfold g_ValidFilm_s at h
  split at h
  · cases h; exact ⟨_, rfl⟩
  · cases h
def g_in_p (n : Int) (s : L.Span) : Prop := True
def g_in_r (n : Int) (s : L.Span) : SV := .bool (L.within n s.lo s.hi)
def g_in_s : List EV → Option (Prop × SV)
  | [.p (.int .i64 n), .p (.agg [.int .i64 s_lo, .int .i64 s_hi])] => some (g_in_p n (⟨s_lo, s_hi⟩ : L.Span), g_in_r n (⟨s_lo, s_hi⟩ : L.Span))
  | _ => none
abbrev g_in_S : SE.Spec := (specO g_in_s)
def g_in_C : Cfg := { muts := [], frz := lookN [], specs := lookS [(52, g_within_S)], loops := lookL [], iters := lookI [], rfs := lookR [], nils := lookM [] }
theorem g_in_vc (n : Int) (s : L.Span) (hp : g_in_p n s) : vc Try.prog (g_in_C) (bodyOf Try.f72) (st0 Try.f72 [.p (.int .i64 n), .p (.agg [.int .i64 s.lo, .int .i64 s.hi])]) (retFn Try.prog Try.f72 (g_in_r n s)) :=
  @Eq.mpr _ (True ∧ L.within n s.lo s.hi = L.within n s.lo s.hi) (by kernel_rfl) (by
    exact ⟨trivial, rfl⟩)
theorem g_in_ok : SpecOk Try.prog 72 g_in_S := fnX Try.func72 (c := bodyOf Try.f72) (by kernel_rfl) mixed (fun args p r hs hp => by
  unfold g_in_s at hs
  split at hs
  · cases hs; exact ⟨_, _, g_in_vc _ _ hp, (.same _ (.same _ .nil)), ⟨show SpecsL Try.prog _ from (SpecsL.cons g_within_ok g_within_en SpecsL.nil), rfl, ⟨show ItersL Try.prog _ from ItersL.nil, (TrsOk.none (fun _ => rfl))⟩⟩⟩
  · cases hs)
theorem g_in_en : Enters Try.prog 72 := fun args w => by kernel_rfl
theorem g_in_B : ∀ args p r, g_in_s args = some (p, r) → ∃ b, r = .bool b := by
  intro args p r h
  unfold g_in_s at h
  split at h
  · cases h; exact ⟨_, rfl⟩
  · cases h
def r3_ValidGauge_p (g : L.Gauge) : Prop := True
def r3_ValidGauge_r (g : L.Gauge) : SV := .bool (L.vGauge g)
def r3_ValidGauge_s : List EV → Option (Prop × SV)
  | [.p (.agg [.int .i64 g_edge_lo, .int .i64 g_edge_hi, .int .i64 g_across_lo, .int .i64 g_across_hi, .int .i64 g_bend])] => some (r3_ValidGauge_p (⟨(⟨g_edge_lo, g_edge_hi⟩ : L.Span), (⟨g_across_lo, g_across_hi⟩ : L.Span), g_bend⟩ : L.Gauge), r3_ValidGauge_r (⟨(⟨g_edge_lo, g_edge_hi⟩ : L.Span), (⟨g_across_lo, g_across_hi⟩ : L.Span), g_bend⟩ : L.Gauge))
  | _ => none
abbrev r3_ValidGauge_S : SE.Spec := (specO r3_ValidGauge_s)
def r3_ValidGauge_C : Cfg := { muts := [], frz := lookN [], specs := lookS [(59, r3_within_S)], loops := lookL [], iters := lookI [], rfs := lookR [], nils := lookM [] }
theorem r3_ValidGauge_vc (g : L.Gauge) (hp : r3_ValidGauge_p g) : vc Try.prog (r3_ValidGauge_C) (bodyOf Try.f110) (st0 Try.f110 [.p (.agg [.int .i64 g.edge.lo, .int .i64 g.edge.hi, .int .i64 g.across.lo, .int .i64 g.across.hi, .int .i64 g.bend])]) (retFn Try.prog Try.f110 (r3_ValidGauge_r g)) :=
  @Eq.mpr _ (((bif bif bif bif bif Decidable.decide ((0 : Int) < g.edge.lo) then Decidable.decide (g.edge.lo ≤ g.edge.hi) else Bool.false then Decidable.decide (g.edge.hi ≤ (33554432 : Int)) else Bool.false then Decidable.decide ((0 : Int) ≤ g.across.lo) else Bool.false then Decidable.decide (g.across.lo ≤ g.across.hi) else Bool.false then Decidable.decide (g.across.hi ≤ (33554432 : Int)) else Bool.false) =
 Bool.true → True) ∧ (bif bif bif bif bif bif Decidable.decide ((0 : Int) < g.edge.lo) then Decidable.decide (g.edge.lo ≤ g.edge.hi) else Bool.false then Decidable.decide (g.edge.hi ≤ (33554432 : Int)) else Bool.false then Decidable.decide ((0 : Int) ≤ g.across.lo) else Bool.false then Decidable.decide (g.across.lo ≤ g.across.hi) else Bool.false then Decidable.decide (g.across.hi ≤ (33554432 :
 Int)) else Bool.false then L.within g.bend (-1 : Int) (1 : Int) else Bool.false) = L.vGauge g) (by kernel_rfl) (by
    refine ⟨fun _ => trivial, ?_⟩
    rw [Bool.eq_iff_iff]
    simp only [band, L.vGauge, L.vSpan, Bool.and_eq_true, decide_eq_true_eq]
    grind)
theorem r3_ValidGauge_ok : SpecOk Try.prog 110 r3_ValidGauge_S := fnX Try.func110 (c := bodyOf Try.f110) (by kernel_rfl) mixed (fun args p r hs hp => by
  unfold r3_ValidGauge_s at hs
  split at hs
  · cases hs; exact ⟨_, _, r3_ValidGauge_vc _ hp, (.same _ .nil), ⟨show SpecsL Try.prog _ from (SpecsL.cons r3_within_ok r3_within_en SpecsL.nil), rfl, ⟨show ItersL Try.prog _ from ItersL.nil, (TrsOk.none (fun _ => rfl))⟩⟩⟩
  · cases hs)
theorem r3_ValidGauge_en : Enters Try.prog 110 := fun args w => by kernel_rfl
theorem r3_ValidGauge_B : ∀ args p r, r3_ValidGauge_s args = some (p, r) → ∃ b, r = .bool b := by
  intro args p r h
  unfold r3_ValidGauge_s at h
  split at h
  · cases h; exact ⟨_, rfl⟩
  · cases h
def r3_gauges_p (l : (L.Sq L.Gauge)) : Prop := l.n ≤ 9223372036854775807
def r3_gauges_r (l : (L.Sq L.Gauge)) : SV := .bool (L.gauges l)
def r3_gauges_s : List EV → Option (Prop × SV)
  | [.p (.sl 5 l_n l_g)] => some ((∀ i, i < l_n → l_g i = [.int .i64 ((ofGauge (l_g i)).edge.lo), .int .i64 ((ofGauge (l_g i)).edge.hi), .int .i64 ((ofGauge (l_g i)).across.lo), .int .i64 ((ofGauge (l_g i)).across.hi), .int .i64 ((ofGauge (l_g i)).bend)]) ∧ r3_gauges_p (⟨l_n, fun i => ofGauge (l_g i)⟩ : (L.Sq L.Gauge)), r3_gauges_r (⟨l_n, fun i => ofGauge (l_g i)⟩ : (L.Sq L.Gauge)))
  | _ => none
abbrev r3_gauges_S : SE.Spec := (specO r3_gauges_s)
def r3_gauges_C : Cfg := { muts := [], frz := lookN [], specs := lookS [(110, r3_ValidGauge_S)], loops := fun _ => none, iters := lookI [], rfs := lookR [], nils := lookM [] }
theorem r3_gauges_vc (l : (L.Sq L.Gauge)) (hp : r3_gauges_p l) : vc Try.prog ({ r3_gauges_C with loops := lookL [(4, { T := Nat, keep := [0], keepO := [], chg := fun i => [(3, .p (.int .i64 (i : Int)))], own := fun _ => [], inv := fun i => i ≤ l.n ∧ ∀ j, j < i → L.vGauge (l.g j) = true, mu := fun i => l.n - i })], rfs := lookR [] }) (bodyOf Try.f60) (st0 Try.f60 [.p (.sl 5 l.n (fun i => [.int .i64 ((l.g i).edge.lo), .int .i64 ((l.g i).edge.hi), .int .i64 ((l.g i).across.lo), .int .i64 ((l.g i).across.hi), .int .i64 ((l.g i).bend)]))]) (retFn Try.prog Try.f60 (r3_gauges_r l)) :=
  @Eq.mpr _ (((bif Decidable.decide ((↑l.n : Int) < (3 : Int)) then Bool.true else Decidable.decide ((24 : Int) < (↑l.n : Int))) = Bool.true → Bool.false = L.gauges l) ∧ ((bif Decidable.decide ((↑l.n : Int) < (3 : Int)) then Bool.true else Decidable.decide ((24 : Int) < (↑l.n : Int))) = Bool.false → (∃ (g : Nat), (0 : Int) = (↑g : Int) ∧ g ≤ l.n ∧ ∀ (j : Nat), j < g → L.vGauge (l.g j) = Bool.true) ∧ ∀ (g :
 Nat), (g ≤ l.n ∧ ∀ (j : Nat), j < g → L.vGauge (l.g j) = Bool.true) → (Decidable.decide ((↑g : Int) < (↑l.n : Int)) = Bool.true → ((0 : Int) ≤ (↑g : Int) ∧ (↑g : Int) < (↑l.n : Int)) ∧ True ∧ ((!L.vGauge (l.g (Int.toNat (↑g : Int)))) = Bool.true → Bool.false = L.gauges l) ∧ ((!L.vGauge (l.g (Int.toNat (↑g : Int)))) = Bool.false → Go.SE.InK Go.IntKind.i64 ((↑g : Int) + (1 : Int)) ∧ ∃ (g' : Nat),
 (↑g : Int) + (1 : Int) = (↑g' : Int) ∧ (l.n = l.n ∧ ∀ (i : Nat), i < l.n → [Go.SE.SV.int Go.IntKind.i64 (l.g i).edge.lo, Go.SE.SV.int Go.IntKind.i64 (l.g i).edge.hi, Go.SE.SV.int Go.IntKind.i64 (l.g i).across.lo, Go.SE.SV.int Go.IntKind.i64 (l.g i).across.hi, Go.SE.SV.int Go.IntKind.i64 (l.g i).bend] = [Go.SE.SV.int Go.IntKind.i64 (l.g i).edge.lo, Go.SE.SV.int Go.IntKind.i64 (l.g i).edge.hi,
 Go.SE.SV.int Go.IntKind.i64 (l.g i).across.lo, Go.SE.SV.int Go.IntKind.i64 (l.g i).across.hi, Go.SE.SV.int Go.IntKind.i64 (l.g i).bend]) ∧ (g' ≤ l.n ∧ ∀ (j : Nat), j < g' → L.vGauge (l.g j) = Bool.true) ∧ l.n - g' < l.n - g)) ∧ (Decidable.decide ((↑g : Int) < (↑l.n : Int)) = Bool.false → Bool.true = L.gauges l))) (by kernel_rfl) (by
    have hn : l.n ≤ 9223372036854775807 := hp
    refine ⟨fun h => ?_, fun h => ⟨⟨(0 : Nat), rfl, Nat.zero_le _, fun j hj => absurd hj (Nat.not_lt_zero _)⟩, fun g hg => ⟨fun hlt => ?_, fun hge => ?_⟩⟩⟩
    · have : L.within l.n 3 24 = false := by
        rw [Bool.eq_false_iff, Ne, within_iff]; simp only [bor, Bool.or_eq_true, decide_eq_true_eq] at h; omega
      unfold L.gauges; rw [this]; rfl
    · have hb : (g : Int) < (l.n : Int) := of_decide_eq_true hlt
      have e0 : ((g : Int)).toNat = g := by omega
      rw [e0]
      refine ⟨by omega, trivial, fun h => ?_, fun h => ?_⟩
      · have h : L.vGauge (l.g g) = false := by simpa using h
        unfold L.gauges
        rw [allB_false (i := g) (by omega) h]
        cases L.within l.n 3 24 <;> rfl
      · have h : L.vGauge (l.g g) = true := by simpa using h
        exact ⟨InK.of (by omega) (by omega), g + 1, by omega, ⟨rfl, fun _ _ => rfl⟩, ⟨by omega, fun j hj => by
          rcases Nat.lt_succ_iff_lt_or_eq.1 hj with h' | rfl
          · exact hg.2 j h'
          · exact h⟩, by omega⟩
    · have hb : ¬ (g : Int) < (l.n : Int) := of_decide_eq_false hge
      have : L.within l.n 3 24 = true := by
        rw [within_iff]; simp only [bor, Bool.or_eq_false_iff, decide_eq_false_iff_not] at h; omega
      unfold L.gauges
      rw [this, allB_iff.2 (fun i hi => hg.2 i (by omega))]; rfl)
theorem r3_gauges_ok : SpecOk Try.prog 60 r3_gauges_S := fnX Try.func60 (c := bodyOf Try.f60) (by kernel_rfl) mixed (fun args p r hs hp => by
  unfold r3_gauges_s at hs
  split at hs
  · cases hs; exact ⟨_, _, r3_gauges_vc _ hp.2, (.p (.sl hp.1) .nil), ⟨show SpecsL Try.prog _ from (SpecsL.cons r3_ValidGauge_ok r3_ValidGauge_en SpecsL.nil), rfl, ⟨show ItersL Try.prog _ from ItersL.nil, (TrsOk.none (fun _ => rfl))⟩⟩⟩
  · cases hs)
theorem r3_gauges_en : Enters Try.prog 60 := fun args w => by kernel_rfl
theorem r3_gauges_B : ∀ args p r, r3_gauges_s args = some (p, r) → ∃ b, r = .bool b := by
  intro args p r h
  unfold r3_gauges_s at h
  split at h
  · cases h; exact ⟨_, rfl⟩
  · cases h
def r3_ValidPiece_p (p : L.Piece) : Prop := p.gauges.n ≤ 9223372036854775807 ∧ p.marks.n ≤ 9223372036854775807
def r3_ValidPiece_r (p : L.Piece) : SV := .bool (L.validPiece p)
def r3_ValidPiece_s : List EV → Option (Prop × SV)
  | [.p (.agg [.int .i64 p_id, .int .i64 p_colour, .int .i64 p_rev, .int .i64 p_made, .int .i64 p_swell, .sl 5 p_gauges_n p_gauges_g, .sl 3 p_marks_n p_marks_g])] => some ((∀ i, i < p_gauges_n → p_gauges_g i = [.int .i64 ((ofGauge (p_gauges_g i)).edge.lo), .int .i64 ((ofGauge (p_gauges_g i)).edge.hi), .int .i64 ((ofGauge (p_gauges_g i)).across.lo), .int .i64 ((ofGauge (p_gauges_g i)).across.hi), .int .i64 ((ofGauge (p_gauges_g i)).bend)]) ∧ (∀ i, i < p_marks_n → p_marks_g i = [.int .i64 ((ofMark (p_marks_g i)).edge), .int .i64 ((ofMark (p_marks_g i)).place), .int .i64 ((ofMark (p_marks_g i)).tone)]) ∧ r3_ValidPiece_p (⟨p_id, p_colour, p_rev, p_made, p_swell, (⟨p_gauges_n, fun i => ofGauge (p_gauges_g i)⟩ : (L.Sq L.Gauge)), (⟨p_marks_n, fun i => ofMark (p_marks_g i)⟩ : (L.Sq L.Mark))⟩ : L.Piece), r3_ValidPiece_r (⟨p_id, p_colour, p_rev, p_made, p_swell, (⟨p_gauges_n, fun i => ofGauge (p_gauges_g i)⟩ : (L.Sq L.Gauge)), (⟨p_marks_n, fun i => ofMark (p_marks_g i)⟩ : (L.Sq L.Mark))⟩ : L.Piece))
  | _ => none
abbrev r3_ValidPiece_S : SE.Spec := (specO r3_ValidPiece_s)
def r3_ValidPiece_C : Cfg := { muts := [], frz := lookN [], specs := lookS [(59, r3_within_S), (60, r3_gauges_S), (61, r3_marks_S)], loops := fun _ => none, iters := lookI [], rfs := lookR [], nils := lookM [] }
theorem r3_ValidPiece_vc (p : L.Piece) (hp : r3_ValidPiece_p p) : vc Try.prog ({ r3_ValidPiece_C with loops := lookL [(2, { T := Nat, keep := [1], keepO := [], chg := fun i => [(3, .p (.int .i64 (i : Int)))], own := fun _ => [], inv := fun i => i ≤ p.marks.n ∧ ∀ j, j < i → L.within (p.marks.g j).edge 0 (p.gauges.n - 1) = true, mu := fun i => p.marks.n - i })], rfs := lookR [] }) (bodyOf Try.f16) (st0 Try.f16 [.p (.agg [.int .i64 p.id, .int .i64 p.colour, .int .i64 p.rev, .int .i64 p.made, .int .i64 p.swell, .sl 5 p.gauges.n (fun i => [.int .i64 ((p.gauges.g i).edge.lo), .int .i64 ((p.gauges.g i).edge.hi), .int .i64 ((p.gauges.g i).across.lo), .int .i64 ((p.gauges.g i).across.hi), .int .i64 ((p.gauges.g i).bend)]), .sl 3 p.marks.n (fun i => [.int .i64 ((p.marks.g i).edge), .int .i64 ((p.marks.g i).place), .int .i64 ((p.marks.g i).tone)])])]) (retFn Try.prog Try.f16 (r3_ValidPiece_r p)) :=
  @Eq.mpr _ ((∃ (g : Nat), (0 : Int) = (↑g : Int) ∧ g ≤ p.marks.n ∧ ∀ (j : Nat), j < g → L.within (p.marks.g j).edge (0 : Int) ((↑p.gauges.n : Int) - (1 : Int)) = Bool.true) ∧ ∀ (g : Nat), (g ≤ p.marks.n ∧ ∀ (j : Nat), j < g → L.within (p.marks.g j).edge (0 : Int) ((↑p.gauges.n : Int) - (1 : Int)) = Bool.true) → (Decidable.decide ((↑g : Int) < (↑p.marks.n : Int)) = Bool.true → ((0 : Int) ≤ (↑g : Int) ∧ (↑g :
 Int) < (↑p.marks.n : Int)) ∧ Go.SE.InK Go.IntKind.i64 ((↑p.gauges.n : Int) - (1 : Int)) ∧ True ∧ ((!L.within (p.marks.g (Int.toNat (↑g : Int))).edge (0 : Int) ((↑p.gauges.n : Int) - (1 : Int))) = Bool.true → Bool.false = L.validPiece p) ∧ ((!L.within (p.marks.g (Int.toNat (↑g : Int))).edge (0 : Int) ((↑p.gauges.n : Int) - (1 : Int))) = Bool.false → Go.SE.InK Go.IntKind.i64 ((↑g : Int) + (1 : Int))
 ∧ ∃ (g' : Nat), (↑g : Int) + (1 : Int) = (↑g' : Int) ∧ Go.SE.SV.ref [Go.SE.SV.int Go.IntKind.i64 p.id, Go.SE.SV.int Go.IntKind.i64 p.colour, Go.SE.SV.int Go.IntKind.i64 p.rev, Go.SE.SV.int Go.IntKind.i64 p.made, Go.SE.SV.int Go.IntKind.i64 p.swell, Go.SE.SV.sl (nat_lit 5) p.gauges.n fun (i : Nat) ↦ [Go.SE.SV.int Go.IntKind.i64 (p.gauges.g i).edge.lo, Go.SE.SV.int Go.IntKind.i64 (p.gauges.g
 i).edge.hi, Go.SE.SV.int Go.IntKind.i64 (p.gauges.g i).across.lo, Go.SE.SV.int Go.IntKind.i64 (p.gauges.g i).across.hi, Go.SE.SV.int Go.IntKind.i64 (p.gauges.g i).bend], Go.SE.SV.sl (nat_lit 3) p.marks.n fun (i : Nat) ↦ [Go.SE.SV.int Go.IntKind.i64 (p.marks.g i).edge, Go.SE.SV.int Go.IntKind.i64 (p.marks.g i).place, Go.SE.SV.int Go.IntKind.i64 (p.marks.g i).tone]] (nat_lit 0) = Go.SE.SV.ref
 [Go.SE.SV.int Go.IntKind.i64 p.id, Go.SE.SV.int Go.IntKind.i64 p.colour, Go.SE.SV.int Go.IntKind.i64 p.rev, Go.SE.SV.int Go.IntKind.i64 p.made, Go.SE.SV.int Go.IntKind.i64 p.swell, Go.SE.SV.sl (nat_lit 5) p.gauges.n fun (i : Nat) ↦ [Go.SE.SV.int Go.IntKind.i64 (p.gauges.g i).edge.lo, Go.SE.SV.int Go.IntKind.i64 (p.gauges.g i).edge.hi, Go.SE.SV.int Go.IntKind.i64 (p.gauges.g i).across.lo,
 Go.SE.SV.int Go.IntKind.i64 (p.gauges.g i).across.hi, Go.SE.SV.int Go.IntKind.i64 (p.gauges.g i).bend], Go.SE.SV.sl (nat_lit 3) p.marks.n fun (i : Nat) ↦ [Go.SE.SV.int Go.IntKind.i64 (p.marks.g i).edge, Go.SE.SV.int Go.IntKind.i64 (p.marks.g i).place, Go.SE.SV.int Go.IntKind.i64 (p.marks.g i).tone]] (nat_lit 0) ∧ (g' ≤ p.marks.n ∧ ∀ (j : Nat), j < g' → L.within (p.marks.g j).edge (0 : Int)
 ((↑p.gauges.n : Int) - (1 : Int)) = Bool.true) ∧ p.marks.n - g' < p.marks.n - g)) ∧ (Decidable.decide ((↑g : Int) < (↑p.marks.n : Int)) = Bool.false → True ∧ (L.within p.id (1 : Int) (65535 : Int) = Bool.true → True) ∧ ((bif L.within p.id (1 : Int) (65535 : Int) then L.within p.colour (1 : Int) (16 : Int) else Bool.false) = Bool.true → True) ∧ ((bif bif L.within p.id (1 : Int) (65535 : Int) then
 L.within p.colour (1 : Int) (16 : Int) else Bool.false then L.within p.rev (1 : Int) (16 : Int) else Bool.false) = Bool.true → True) ∧ ((bif bif bif L.within p.id (1 : Int) (65535 : Int) then L.within p.colour (1 : Int) (16 : Int) else Bool.false then L.within p.rev (1 : Int) (16 : Int) else Bool.false then L.within p.made (0 : Int) (9999 : Int) else Bool.false) = Bool.true → True) ∧ ((bif bif bif
 bif L.within p.id (1 : Int) (65535 : Int) then L.within p.colour (1 : Int) (16 : Int) else Bool.false then L.within p.rev (1 : Int) (16 : Int) else Bool.false then L.within p.made (0 : Int) (9999 : Int) else Bool.false then L.within p.swell (-64 : Int) (64 : Int) else Bool.false) = Bool.true → (∀ (i : Nat), i < p.gauges.n → [Go.SE.SV.int Go.IntKind.i64 (p.gauges.g i).edge.lo, Go.SE.SV.int
 Go.IntKind.i64 (p.gauges.g i).edge.hi, Go.SE.SV.int Go.IntKind.i64 (p.gauges.g i).across.lo, Go.SE.SV.int Go.IntKind.i64 (p.gauges.g i).across.hi, Go.SE.SV.int Go.IntKind.i64 (p.gauges.g i).bend] = [Go.SE.SV.int Go.IntKind.i64 (p.gauges.g i).edge.lo, Go.SE.SV.int Go.IntKind.i64 (p.gauges.g i).edge.hi, Go.SE.SV.int Go.IntKind.i64 (p.gauges.g i).across.lo, Go.SE.SV.int Go.IntKind.i64 (p.gauges.g
 i).across.hi, Go.SE.SV.int Go.IntKind.i64 (p.gauges.g i).bend]) ∧ p.gauges.n ≤ (9223372036854775807 : Nat)) ∧ ((bif bif bif bif bif L.within p.id (1 : Int) (65535 : Int) then L.within p.colour (1 : Int) (16 : Int) else Bool.false then L.within p.rev (1 : Int) (16 : Int) else Bool.false then L.within p.made (0 : Int) (9999 : Int) else Bool.false then L.within p.swell (-64 : Int) (64 : Int) else
 Bool.false then L.gauges (L.Sq.mk p.gauges.n fun (i : Nat) ↦ p.gauges.g i) else Bool.false) = Bool.true → (∀ (i : Nat), i < p.marks.n → [Go.SE.SV.int Go.IntKind.i64 (p.marks.g i).edge, Go.SE.SV.int Go.IntKind.i64 (p.marks.g i).place, Go.SE.SV.int Go.IntKind.i64 (p.marks.g i).tone] = [Go.SE.SV.int Go.IntKind.i64 (p.marks.g i).edge, Go.SE.SV.int Go.IntKind.i64 (p.marks.g i).place, Go.SE.SV.int
 Go.IntKind.i64 (p.marks.g i).tone]) ∧ True) ∧ (bif bif bif bif bif bif L.within p.id (1 : Int) (65535 : Int) then L.within p.colour (1 : Int) (16 : Int) else Bool.false then L.within p.rev (1 : Int) (16 : Int) else Bool.false then L.within p.made (0 : Int) (9999 : Int) else Bool.false then L.within p.swell (-64 : Int) (64 : Int) else Bool.false then L.gauges (L.Sq.mk p.gauges.n fun (i : Nat) ↦
 p.gauges.g i) else Bool.false then L.marks (L.Sq.mk p.marks.n fun (i : Nat) ↦ p.marks.g i) else Bool.false) = L.validPiece p)) (by kernel_rfl) (by
    obtain ⟨h1, h2⟩ := hp
    refine ⟨⟨(0 : Nat), rfl, Nat.zero_le _, fun j hj => absurd hj (Nat.not_lt_zero _)⟩, fun g hg => ⟨fun hlt => ?_, fun hge => ?_⟩⟩
    · have hb : (g : Int) < (p.marks.n : Int) := of_decide_eq_true hlt
      have e0 : ((g : Int)).toNat = g := by omega
      rw [e0]
      refine ⟨by omega, InK.of (by omega) (by omega), trivial, fun h => ?_, fun h => ?_⟩
      · have h : L.within (p.marks.g g).edge 0 (p.gauges.n - 1) = false := by simpa using h
        have : L.edges p.marks p.gauges.n = false := allB_false (i := g) (by omega) h
        unfold L.validPiece L.vMarks
        rw [this]
        cases L.nums p <;> cases L.gauges p.gauges <;> rfl
      · have h : L.within (p.marks.g g).edge 0 (p.gauges.n - 1) = true := by simpa using h
        exact ⟨InK.of (by omega) (by omega), g + 1, by omega, rfl, ⟨by omega, fun j hj => by
          rcases Nat.lt_succ_iff_lt_or_eq.1 hj with h' | rfl
          · exact hg.2 j h'
          · exact h⟩, by omega⟩
    · have hb : ¬ (g : Int) < (p.marks.n : Int) := of_decide_eq_false hge
      have : L.edges p.marks p.gauges.n = true := allB_iff.2 (fun i hi => hg.2 i (by omega))
      refine ⟨trivial, fun _ => trivial, fun _ => trivial, fun _ => trivial, fun _ => trivial, fun _ => ⟨fun _ _ => rfl, h1⟩, fun _ => ⟨fun _ _ => rfl, trivial⟩, ?_⟩
      unfold L.validPiece L.vMarks
      rw [this]; rfl)
theorem r3_ValidPiece_ok : SpecOk Try.prog 16 r3_ValidPiece_S := fnX Try.func16 (c := bodyOf Try.f16) (by kernel_rfl) mixed (fun args p r hs hp => by
  unfold r3_ValidPiece_s at hs
  split at hs
  · cases hs; exact ⟨_, _, r3_ValidPiece_vc _ hp.2.2, (.p (.agg rfl (fun i hi => by
      rcases i with _ | i
      · exact (Ext.refl _ : Ext _ _)
      rcases i with _ | i
      · exact (Ext.refl _ : Ext _ _)
      rcases i with _ | i
      · exact (Ext.refl _ : Ext _ _)
      rcases i with _ | i
      · exact (Ext.refl _ : Ext _ _)
      rcases i with _ | i
      · exact (Ext.refl _ : Ext _ _)
      rcases i with _ | i
      · exact (Ext.sl hp.1 : Ext _ _)
      rcases i with _ | i
      · exact (Ext.sl hp.2.1 : Ext _ _)
      exact absurd hi (by simp; try omega))) .nil), ⟨show SpecsL Try.prog _ from (SpecsL.cons r3_within_ok r3_within_en (SpecsL.cons r3_gauges_ok r3_gauges_en (SpecsL.cons r3_marks_ok r3_marks_en SpecsL.nil))), rfl, ⟨show ItersL Try.prog _ from ItersL.nil, (TrsOk.none (fun _ => rfl))⟩⟩⟩
  · cases hs)
theorem r3_ValidPiece_en : Enters Try.prog 16 := fun args w => by kernel_rfl
theorem r3_ValidPiece_B : ∀ args p r, r3_ValidPiece_s args = some (p, r) → ∃ b, r = .bool b := by
  intro args p r h
  unfold r3_ValidPiece_s at h
  split at h
  · cases h; exact ⟨_, rfl⟩
  · cases h
def r3_ValidFilm_p (f : L.Film) : Prop := f.grey.n ≤ 1000000
def r3_ValidFilm_r (f : L.Film) : SV := .bool (L.validFilm f)
def r3_ValidFilm_s : List EV → Option (Prop × SV)
  | [.p (.agg [.int .i64 f_id, .sl 1 f_grey_n f_grey_g])] => some ((∀ i, i < f_grey_n → f_grey_g i = [.int .i64 ((intOf (f_grey_g i)))]) ∧ r3_ValidFilm_p (⟨f_id, (⟨f_grey_n, fun i => intOf (f_grey_g i)⟩ : (L.Sq Int))⟩ : L.Film), r3_ValidFilm_r (⟨f_id, (⟨f_grey_n, fun i => intOf (f_grey_g i)⟩ : (L.Sq Int))⟩ : L.Film))
  | _ => none
abbrev r3_ValidFilm_S : SE.Spec := (specO r3_ValidFilm_s)
def r3_ValidFilm_C : Cfg := { muts := [], frz := lookN [], specs := lookS [(59, r3_within_S)], loops := fun _ => none, iters := lookI [], rfs := lookR [], nils := lookM [] }
theorem r3_ValidFilm_vc (f : L.Film) (hp : r3_ValidFilm_p f) : vc Try.prog ({ r3_ValidFilm_C with loops := lookL [(4, { T := Nat, keep := [1], keepO := [], chg := fun i => [(3, .p (.int .i64 (i : Int)))], own := fun _ => [], inv := fun i => i ≤ f.grey.n ∧ ∀ j, j < i → L.within (f.grey.g j) 0 255 = true, mu := fun i => f.grey.n - i })], rfs := lookR [] }) (bodyOf Try.f18) (st0 Try.f18 [.p (.agg [.int .i64 f.id, .sl 1 f.grey.n (fun i => [.int .i64 ((f.grey.g i))])])]) (retFn Try.prog Try.f18 (r3_ValidFilm_r f)) :=
  @Eq.mpr _ (True ∧ ((bif bif !L.within f.id (1 : Int) (65535 : Int) then Bool.true else Decidable.decide ((↑f.grey.n : Int) < (1 : Int)) then Bool.true else Decidable.decide ((16 : Int) < (↑f.grey.n : Int))) = Bool.true → Bool.false = L.validFilm f) ∧ ((bif bif !L.within f.id (1 : Int) (65535 : Int) then Bool.true else Decidable.decide ((↑f.grey.n : Int) < (1 : Int)) then Bool.true else Decidable.decide ((16
 : Int) < (↑f.grey.n : Int))) = Bool.false → (∃ (g : Nat), (0 : Int) = (↑g : Int) ∧ g ≤ f.grey.n ∧ ∀ (j : Nat), j < g → L.within (f.grey.g j) (0 : Int) (255 : Int) = Bool.true) ∧ ∀ (g : Nat), (g ≤ f.grey.n ∧ ∀ (j : Nat), j < g → L.within (f.grey.g j) (0 : Int) (255 : Int) = Bool.true) → (Decidable.decide ((↑g : Int) < (↑f.grey.n : Int)) = Bool.true → ((0 : Int) ≤ (↑g : Int) ∧ (↑g : Int) <
 (↑f.grey.n : Int)) ∧ True ∧ ((!L.within (f.grey.g (Int.toNat (↑g : Int))) (0 : Int) (255 : Int)) = Bool.true → Bool.false = L.validFilm f) ∧ ((!L.within (f.grey.g (Int.toNat (↑g : Int))) (0 : Int) (255 : Int)) = Bool.false → Go.SE.InK Go.IntKind.i64 ((↑g : Int) + (1 : Int)) ∧ ∃ (g' : Nat), (↑g : Int) + (1 : Int) = (↑g' : Int) ∧ Go.SE.SV.ref [Go.SE.SV.int Go.IntKind.i64 f.id, Go.SE.SV.sl (nat_lit
 1) f.grey.n fun (i : Nat) ↦ [Go.SE.SV.int Go.IntKind.i64 (f.grey.g i)]] (nat_lit 0) = Go.SE.SV.ref [Go.SE.SV.int Go.IntKind.i64 f.id, Go.SE.SV.sl (nat_lit 1) f.grey.n fun (i : Nat) ↦ [Go.SE.SV.int Go.IntKind.i64 (f.grey.g i)]] (nat_lit 0) ∧ (g' ≤ f.grey.n ∧ ∀ (j : Nat), j < g' → L.within (f.grey.g j) (0 : Int) (255 : Int) = Bool.true) ∧ f.grey.n - g' < f.grey.n - g)) ∧ (Decidable.decide ((↑g :
 Int) < (↑f.grey.n : Int)) = Bool.false → Bool.true = L.validFilm f))) (by kernel_rfl) (by
    have hn : f.grey.n ≤ 1000000 := hp
    refine ⟨trivial, fun h => ?_, fun h => ⟨⟨(0 : Nat), rfl, Nat.zero_le _, fun j hj => absurd hj (Nat.not_lt_zero _)⟩, fun g hg => ⟨fun hlt => ?_, fun hge => ?_⟩⟩⟩
    · have : (bif L.within f.id 1 65535 then L.within f.grey.n 1 16 else false) = false := by
        simp only [bor, band, Bool.or_eq_true, decide_eq_true_eq, Bool.not_eq_true', Bool.and_eq_false_iff] at h ⊢
        rcases h with (h | h) | h
        · exact .inl h
        · right; rw [Bool.eq_false_iff, Ne, within_iff]; omega
        · right; rw [Bool.eq_false_iff, Ne, within_iff]; omega
      unfold L.validFilm; rw [this]; rfl
    · have hb : (g : Int) < (f.grey.n : Int) := of_decide_eq_true hlt
      have e0 : ((g : Int)).toNat = g := by omega
      rw [e0]
      refine ⟨by omega, trivial, fun h => ?_, fun h => ?_⟩
      · have h : L.within (f.grey.g g) 0 255 = false := by simpa using h
        unfold L.validFilm
        rw [allB_false (i := g) (by omega) h]
        cases L.within f.id 1 65535 <;> cases L.within f.grey.n 1 16 <;> rfl
      · have h : L.within (f.grey.g g) 0 255 = true := by simpa using h
        exact ⟨InK.of (by omega) (by omega), g + 1, by omega, rfl, ⟨by omega, fun j hj => by
          rcases Nat.lt_succ_iff_lt_or_eq.1 hj with h' | rfl
          · exact hg.2 j h'
          · exact h⟩, by omega⟩
    · have hb : ¬ (g : Int) < (f.grey.n : Int) := of_decide_eq_false hge
      have h3 : L.within f.id 1 65535 = true ∧ L.within f.grey.n 1 16 = true := by
        simp only [bor, Bool.or_eq_false_iff, decide_eq_false_iff_not, Bool.not_eq_false'] at h
        exact ⟨h.1.1, within_iff.2 (by omega)⟩
      unfold L.validFilm
      rw [h3.1, h3.2, allB_iff.2 (fun i hi => hg.2 i (by omega))]; rfl)
theorem r3_ValidFilm_ok : SpecOk Try.prog 18 r3_ValidFilm_S := fnX Try.func18 (c := bodyOf Try.f18) (by kernel_rfl) mixed (fun args p r hs hp => by
  unfold r3_ValidFilm_s at hs
  split at hs
  · cases hs; exact ⟨_, _, r3_ValidFilm_vc _ hp.2, (.p (.agg rfl (fun i hi => by
      rcases i with _ | i
      · exact (Ext.refl _ : Ext _ _)
      rcases i with _ | i
      · exact (Ext.sl hp.1 : Ext _ _)
      exact absurd hi (by simp; try omega))) .nil), ⟨show SpecsL Try.prog _ from (SpecsL.cons r3_within_ok r3_within_en SpecsL.nil), rfl, ⟨show ItersL Try.prog _ from ItersL.nil, (TrsOk.none (fun _ => rfl))⟩⟩⟩
  · cases hs)
theorem r3_ValidFilm_en : Enters Try.prog 18 := fun args w => by kernel_rfl
theorem r3_ValidFilm_B : ∀ args p r, r3_ValidFilm_s args = some (p, r) → ∃ b, r = .bool b := by
  intro args p r h
  unfold r3_ValidFilm_s at h
  split at h
  · cases h; exact ⟨_, rfl⟩
  · cases h
def w_few_p (p : L.Piece) (l : (L.Sq L.Pt)) : Prop := True
def w_few_r (p : L.Piece) (l : (L.Sq L.Pt)) : SV := .bool (L.few p l)
def w_few_s : List EV → Option (Prop × SV)
  | [.p (.agg [.int .i64 p_id, .int .i64 p_colour, .int .i64 p_rev, .int .i64 p_made, .int .i64 p_swell, .sl 5 p_gauges_n p_gauges_g, .sl 3 p_marks_n p_marks_g]), .p (.sl 2 l_n l_g)] => some ((∀ i, i < p_gauges_n → p_gauges_g i = [.int .i64 ((ofGauge (p_gauges_g i)).edge.lo), .int .i64 ((ofGauge (p_gauges_g i)).edge.hi), .int .i64 ((ofGauge (p_gauges_g i)).across.lo), .int .i64 ((ofGauge (p_gauges_g i)).across.hi), .int .i64 ((ofGauge (p_gauges_g i)).bend)]) ∧ (∀ i, i < p_marks_n → p_marks_g i = [.int .i64 ((ofMark (p_marks_g i)).edge), .int .i64 ((ofMark (p_marks_g i)).place), .int .i64 ((ofMark (p_marks_g i)).tone)]) ∧ (∀ i, i < l_n → l_g i = [.int .i64 ((ofPt (l_g i)).x), .int .i64 ((ofPt (l_g i)).y)]) ∧ w_few_p (⟨p_id, p_colour, p_rev, p_made, p_swell, (⟨p_gauges_n, fun i => ofGauge (p_gauges_g i)⟩ : (L.Sq L.Gauge)), (⟨p_marks_n, fun i => ofMark (p_marks_g i)⟩ : (L.Sq L.Mark))⟩ : L.Piece) (⟨l_n, fun i => ofPt (l_g i)⟩ : (L.Sq L.Pt)), w_few_r (⟨p_id, p_colour, p_rev, p_made, p_swell, (⟨p_gauges_n, fun i => ofGauge (p_gauges_g i)⟩ : (L.Sq L.Gauge)), (⟨p_marks_n, fun i => ofMark (p_marks_g i)⟩ : (L.Sq L.Mark))⟩ : L.Piece) (⟨l_n, fun i => ofPt (l_g i)⟩ : (L.Sq L.Pt)))
  | _ => none
abbrev w_few_S : SE.Spec := (specO w_few_s)
def w_few_C : Cfg := { muts := [], frz := lookN [], specs := lookS [], loops := lookL [], iters := lookI [], rfs := lookR [], nils := lookM [] }
theorem w_few_vc (p : L.Piece) (l : (L.Sq L.Pt)) (hp : w_few_p p l) : vc Try.prog (w_few_C) (bodyOf Try.f14) (st0 Try.f14 [.p (.agg [.int .i64 p.id, .int .i64 p.colour, .int .i64 p.rev, .int .i64 p.made, .int .i64 p.swell, .sl 5 p.gauges.n (fun i => [.int .i64 ((p.gauges.g i).edge.lo), .int .i64 ((p.gauges.g i).edge.hi), .int .i64 ((p.gauges.g i).across.lo), .int .i64 ((p.gauges.g i).across.hi), .int .i64 ((p.gauges.g i).bend)]), .sl 3 p.marks.n (fun i => [.int .i64 ((p.marks.g i).edge), .int .i64 ((p.marks.g i).place), .int .i64 ((p.marks.g i).tone)])]), .p (.sl 2 l.n (fun i => [.int .i64 ((l.g i).x), .int .i64 ((l.g i).y)]))]) (retFn Try.prog Try.f14 (w_few_r p l)) :=
  @Eq.mpr _ ((bif bif Decidable.decide ((↑p.gauges.n : Int) ≤ (60 : Int)) then Decidable.decide ((↑p.marks.n : Int) ≤ (100 : Int)) else Bool.false then Decidable.decide ((↑l.n : Int) ≤ (60 : Int)) else Bool.false) = L.few p l) (by kernel_rfl) (by
    rfl)
theorem w_few_ok : SpecOk Try.prog 14 w_few_S := fnX Try.func14 (c := bodyOf Try.f14) (by kernel_rfl) mixed (fun args p r hs hp => by
  unfold w_few_s at hs
  split at hs
  · cases hs; exact ⟨_, _, w_few_vc _ _ hp.2.2.2, (.p (.agg rfl (fun i hi => by
      rcases i with _ | i
      · exact (Ext.refl _ : Ext _ _)
      rcases i with _ | i
      · exact (Ext.refl _ : Ext _ _)
      rcases i with _ | i
      · exact (Ext.refl _ : Ext _ _)
      rcases i with _ | i
      · exact (Ext.refl _ : Ext _ _)
      rcases i with _ | i
      · exact (Ext.refl _ : Ext _ _)
      rcases i with _ | i
      · exact (Ext.sl hp.1 : Ext _ _)
      rcases i with _ | i
      · exact (Ext.sl hp.2.1 : Ext _ _)
      exact absurd hi (by simp; try omega))) (.p (.sl hp.2.2.1) .nil)), ⟨show SpecsL Try.prog _ from SpecsL.nil, rfl, ⟨show ItersL Try.prog _ from ItersL.nil, (TrsOk.none (fun _ => rfl))⟩⟩⟩
  · cases hs)
theorem w_few_en : Enters Try.prog 14 := fun args w => by kernel_rfl
theorem w_few_B : ∀ args p r, w_few_s args = some (p, r) → ∃ b, r = .bool b := by
  intro args p r h
  unfold w_few_s at h
  split at h
  · cases h; exact ⟨_, rfl⟩
  · cases h
def w_GlassValid_p (p : L.Piece) (f : L.Film) : Prop := True
def w_GlassValid_r (p : L.Piece) (f : L.Film) : SV := .bool true
def w_GlassValid_s : List EV → Option (Prop × SV)
  | [.p (.agg [.int .i64 p_id, .int .i64 p_colour, .int .i64 p_rev, .int .i64 p_made, .int .i64 p_swell, .sl 5 p_gauges_n p_gauges_g, .sl 3 p_marks_n p_marks_g]), .p (.agg [.int .i64 f_id, .sl 1 f_grey_n f_grey_g])] => some ((∀ i, i < p_gauges_n → p_gauges_g i = [.int .i64 ((ofGauge (p_gauges_g i)).edge.lo), .int .i64 ((ofGauge (p_gauges_g i)).edge.hi), .int .i64 ((ofGauge (p_gauges_g i)).across.lo), .int .i64 ((ofGauge (p_gauges_g i)).across.hi), .int .i64 ((ofGauge (p_gauges_g i)).bend)]) ∧ (∀ i, i < p_marks_n → p_marks_g i = [.int .i64 ((ofMark (p_marks_g i)).edge), .int .i64 ((ofMark (p_marks_g i)).place), .int .i64 ((ofMark (p_marks_g i)).tone)]) ∧ (∀ i, i < f_grey_n → f_grey_g i = [.int .i64 ((intOf (f_grey_g i)))]) ∧ w_GlassValid_p (⟨p_id, p_colour, p_rev, p_made, p_swell, (⟨p_gauges_n, fun i => ofGauge (p_gauges_g i)⟩ : (L.Sq L.Gauge)), (⟨p_marks_n, fun i => ofMark (p_marks_g i)⟩ : (L.Sq L.Mark))⟩ : L.Piece) (⟨f_id, (⟨f_grey_n, fun i => intOf (f_grey_g i)⟩ : (L.Sq Int))⟩ : L.Film), w_GlassValid_r (⟨p_id, p_colour, p_rev, p_made, p_swell, (⟨p_gauges_n, fun i => ofGauge (p_gauges_g i)⟩ : (L.Sq L.Gauge)), (⟨p_marks_n, fun i => ofMark (p_marks_g i)⟩ : (L.Sq L.Mark))⟩ : L.Piece) (⟨f_id, (⟨f_grey_n, fun i => intOf (f_grey_g i)⟩ : (L.Sq Int))⟩ : L.Film))
  | _ => none
abbrev w_GlassValid_S : SE.Spec := (specO w_GlassValid_s)
def w_GlassValid_C : Cfg := { muts := [], frz := lookN [], specs := lookS [(12, w_awake_S), (14, w_few_S), (15, g_ValidPiece_S), (16, r3_ValidPiece_S), (17, g_ValidFilm_S), (18, r3_ValidFilm_S)], loops := lookL [], iters := lookI [], rfs := lookR [], nils := lookM [] }
theorem w_GlassValid_vc (p : L.Piece) (f : L.Film) (hp : w_GlassValid_p p f) : vc Try.prog (w_GlassValid_C) (bodyOf Try.f4) (st0 Try.f4 [.p (.agg [.int .i64 p.id, .int .i64 p.colour, .int .i64 p.rev, .int .i64 p.made, .int .i64 p.swell, .sl 5 p.gauges.n (fun i => [.int .i64 ((p.gauges.g i).edge.lo), .int .i64 ((p.gauges.g i).edge.hi), .int .i64 ((p.gauges.g i).across.lo), .int .i64 ((p.gauges.g i).across.hi), .int .i64 ((p.gauges.g i).bend)]), .sl 3 p.marks.n (fun i => [.int .i64 ((p.marks.g i).edge), .int .i64 ((p.marks.g i).place), .int .i64 ((p.marks.g i).tone)])]), .p (.agg [.int .i64 f.id, .sl 1 f.grey.n (fun i => [.int .i64 ((f.grey.g i))])])]) (retFn Try.prog Try.f4 (w_GlassValid_r p f)) :=
  @Eq.mpr _ (True ∧ ((∀ (i : Nat), i < p.gauges.n → [Go.SE.SV.int Go.IntKind.i64 (p.gauges.g i).edge.lo, Go.SE.SV.int Go.IntKind.i64 (p.gauges.g i).edge.hi, Go.SE.SV.int Go.IntKind.i64 (p.gauges.g i).across.lo, Go.SE.SV.int Go.IntKind.i64 (p.gauges.g i).across.hi, Go.SE.SV.int Go.IntKind.i64 (p.gauges.g i).bend] = [Go.SE.SV.int Go.IntKind.i64 (p.gauges.g i).edge.lo, Go.SE.SV.int Go.IntKind.i64 (p.gauges.g
 i).edge.hi, Go.SE.SV.int Go.IntKind.i64 (p.gauges.g i).across.lo, Go.SE.SV.int Go.IntKind.i64 (p.gauges.g i).across.hi, Go.SE.SV.int Go.IntKind.i64 (p.gauges.g i).bend]) ∧ (∀ (i : Nat), i < p.marks.n → [Go.SE.SV.int Go.IntKind.i64 (p.marks.g i).edge, Go.SE.SV.int Go.IntKind.i64 (p.marks.g i).place, Go.SE.SV.int Go.IntKind.i64 (p.marks.g i).tone] = [Go.SE.SV.int Go.IntKind.i64 (p.marks.g i).edge,
 Go.SE.SV.int Go.IntKind.i64 (p.marks.g i).place, Go.SE.SV.int Go.IntKind.i64 (p.marks.g i).tone]) ∧ (∀ (i : Nat), i < nat_lit 0 → [] = [Go.SE.SV.int Go.IntKind.i64 (0 : Int), Go.SE.SV.int Go.IntKind.i64 (0 : Int)]) ∧ True) ∧ ((bif !L.few (L.Piece.mk p.id p.colour p.rev p.made p.swell (L.Sq.mk p.gauges.n fun (i : Nat) ↦ p.gauges.g i) (L.Sq.mk p.marks.n fun (i : Nat) ↦ p.marks.g i)) (L.Sq.mk
 (nat_lit 0) fun (i : Nat) ↦ L.Pt.mk (0 : Int) (0 : Int)) then Bool.true else Decidable.decide ((100 : Int) < (↑f.grey.n : Int))) = Bool.true → Bool.true = Bool.true) ∧ ((bif !L.few (L.Piece.mk p.id p.colour p.rev p.made p.swell (L.Sq.mk p.gauges.n fun (i : Nat) ↦ p.gauges.g i) (L.Sq.mk p.marks.n fun (i : Nat) ↦ p.marks.g i)) (L.Sq.mk (nat_lit 0) fun (i : Nat) ↦ L.Pt.mk (0 : Int) (0 : Int)) then
 Bool.true else Decidable.decide ((100 : Int) < (↑f.grey.n : Int))) = Bool.false → (Bool.true = Bool.true → (∀ (i : Nat), i < p.gauges.n → [Go.SE.SV.int Go.IntKind.i64 (p.gauges.g i).edge.lo, Go.SE.SV.int Go.IntKind.i64 (p.gauges.g i).edge.hi, Go.SE.SV.int Go.IntKind.i64 (p.gauges.g i).across.lo, Go.SE.SV.int Go.IntKind.i64 (p.gauges.g i).across.hi, Go.SE.SV.int Go.IntKind.i64 (p.gauges.g i).bend]
 = [Go.SE.SV.int Go.IntKind.i64 (p.gauges.g i).edge.lo, Go.SE.SV.int Go.IntKind.i64 (p.gauges.g i).edge.hi, Go.SE.SV.int Go.IntKind.i64 (p.gauges.g i).across.lo, Go.SE.SV.int Go.IntKind.i64 (p.gauges.g i).across.hi, Go.SE.SV.int Go.IntKind.i64 (p.gauges.g i).bend]) ∧ (∀ (i : Nat), i < p.marks.n → [Go.SE.SV.int Go.IntKind.i64 (p.marks.g i).edge, Go.SE.SV.int Go.IntKind.i64 (p.marks.g i).place,
 Go.SE.SV.int Go.IntKind.i64 (p.marks.g i).tone] = [Go.SE.SV.int Go.IntKind.i64 (p.marks.g i).edge, Go.SE.SV.int Go.IntKind.i64 (p.marks.g i).place, Go.SE.SV.int Go.IntKind.i64 (p.marks.g i).tone]) ∧ p.gauges.n ≤ (1000000 : Nat) ∧ p.marks.n ≤ (1000000 : Nat)) ∧ (Bool.true = Bool.true → (∀ (i : Nat), i < p.gauges.n → [Go.SE.SV.int Go.IntKind.i64 (p.gauges.g i).edge.lo, Go.SE.SV.int Go.IntKind.i64
 (p.gauges.g i).edge.hi, Go.SE.SV.int Go.IntKind.i64 (p.gauges.g i).across.lo, Go.SE.SV.int Go.IntKind.i64 (p.gauges.g i).across.hi, Go.SE.SV.int Go.IntKind.i64 (p.gauges.g i).bend] = [Go.SE.SV.int Go.IntKind.i64 (p.gauges.g i).edge.lo, Go.SE.SV.int Go.IntKind.i64 (p.gauges.g i).edge.hi, Go.SE.SV.int Go.IntKind.i64 (p.gauges.g i).across.lo, Go.SE.SV.int Go.IntKind.i64 (p.gauges.g i).across.hi,
 Go.SE.SV.int Go.IntKind.i64 (p.gauges.g i).bend]) ∧ (∀ (i : Nat), i < p.marks.n → [Go.SE.SV.int Go.IntKind.i64 (p.marks.g i).edge, Go.SE.SV.int Go.IntKind.i64 (p.marks.g i).place, Go.SE.SV.int Go.IntKind.i64 (p.marks.g i).tone] = [Go.SE.SV.int Go.IntKind.i64 (p.marks.g i).edge, Go.SE.SV.int Go.IntKind.i64 (p.marks.g i).place, Go.SE.SV.int Go.IntKind.i64 (p.marks.g i).tone]) ∧ p.gauges.n ≤
 (9223372036854775807 : Nat) ∧ p.marks.n ≤ (9223372036854775807 : Nat)) ∧ ((bif Bool.true then L.validPiece (L.Piece.mk p.id p.colour p.rev p.made p.swell (L.Sq.mk p.gauges.n fun (i : Nat) ↦ p.gauges.g i) (L.Sq.mk p.marks.n fun (i : Nat) ↦ p.marks.g i)) == L.validPiece (L.Piece.mk p.id p.colour p.rev p.made p.swell (L.Sq.mk p.gauges.n fun (i : Nat) ↦ p.gauges.g i) (L.Sq.mk p.marks.n fun (i : Nat) ↦
 p.marks.g i)) else Bool.false) = Bool.true → (∀ (i : Nat), i < f.grey.n → [Go.SE.SV.int Go.IntKind.i64 (f.grey.g i)] = [Go.SE.SV.int Go.IntKind.i64 (f.grey.g i)]) ∧ f.grey.n ≤ (1000000 : Nat)) ∧ ((bif Bool.true then L.validPiece (L.Piece.mk p.id p.colour p.rev p.made p.swell (L.Sq.mk p.gauges.n fun (i : Nat) ↦ p.gauges.g i) (L.Sq.mk p.marks.n fun (i : Nat) ↦ p.marks.g i)) == L.validPiece
 (L.Piece.mk p.id p.colour p.rev p.made p.swell (L.Sq.mk p.gauges.n fun (i : Nat) ↦ p.gauges.g i) (L.Sq.mk p.marks.n fun (i : Nat) ↦ p.marks.g i)) else Bool.false) = Bool.true → (∀ (i : Nat), i < f.grey.n → [Go.SE.SV.int Go.IntKind.i64 (f.grey.g i)] = [Go.SE.SV.int Go.IntKind.i64 (f.grey.g i)]) ∧ f.grey.n ≤ (1000000 : Nat)) ∧ (bif bif Bool.true then L.validPiece (L.Piece.mk p.id p.colour p.rev
 p.made p.swell (L.Sq.mk p.gauges.n fun (i : Nat) ↦ p.gauges.g i) (L.Sq.mk p.marks.n fun (i : Nat) ↦ p.marks.g i)) == L.validPiece (L.Piece.mk p.id p.colour p.rev p.made p.swell (L.Sq.mk p.gauges.n fun (i : Nat) ↦ p.gauges.g i) (L.Sq.mk p.marks.n fun (i : Nat) ↦ p.marks.g i)) else Bool.false then L.validFilm (L.Film.mk f.id (L.Sq.mk f.grey.n fun (i : Nat) ↦ f.grey.g i)) == L.validFilm (L.Film.mk
 f.id (L.Sq.mk f.grey.n fun (i : Nat) ↦ f.grey.g i)) else Bool.false) = Bool.true)) (by kernel_rfl) (by
    refine ⟨trivial, ⟨fun _ _ => rfl, fun _ _ => rfl, fun i hi => absurd hi (Nat.not_lt_zero _), trivial⟩, fun _ => rfl, fun h => ?_⟩
    have hs : p.gauges.n ≤ 60 ∧ p.marks.n ≤ 100 ∧ f.grey.n ≤ 100 := by
      have h : (bif !L.few p ⟨0, fun _ => ⟨0, 0⟩⟩ then true else decide (100 < (f.grey.n : Int))) = false := h
      simp only [bor, Bool.or_eq_false_iff, Bool.not_eq_false', decide_eq_false_iff_not, few_iff] at h
      omega
    refine ⟨fun _ => ⟨fun _ _ => rfl, fun _ _ => rfl, by omega, by omega⟩, fun _ => ⟨fun _ _ => rfl, fun _ _ => rfl, by omega, by omega⟩, fun _ => ⟨fun _ _ => rfl, by omega⟩, fun _ => ⟨fun _ _ => rfl, by omega⟩, ?_⟩
    show (bif (bif true then (L.validPiece p == L.validPiece p) else false) then (L.validFilm f == L.validFilm f) else false) = true
    rw [beq_self_eq_true, beq_self_eq_true]; rfl)
theorem w_GlassValid_ok : SpecOk Try.prog 4 w_GlassValid_S := fnX Try.func4 (c := bodyOf Try.f4) (by kernel_rfl) mixed (fun args p r hs hp => by
  unfold w_GlassValid_s at hs
  split at hs
  · cases hs; exact ⟨_, _, w_GlassValid_vc _ _ hp.2.2.2, (.p (.agg rfl (fun i hi => by
      rcases i with _ | i
      · exact (Ext.refl _ : Ext _ _)
      rcases i with _ | i
      · exact (Ext.refl _ : Ext _ _)
      rcases i with _ | i
      · exact (Ext.refl _ : Ext _ _)
      rcases i with _ | i
      · exact (Ext.refl _ : Ext _ _)
      rcases i with _ | i
      · exact (Ext.refl _ : Ext _ _)
      rcases i with _ | i
      · exact (Ext.sl hp.1 : Ext _ _)
      rcases i with _ | i
      · exact (Ext.sl hp.2.1 : Ext _ _)
      exact absurd hi (by simp; try omega))) (.p (.agg rfl (fun i hi => by
      rcases i with _ | i
      · exact (Ext.refl _ : Ext _ _)
      rcases i with _ | i
      · exact (Ext.sl hp.2.2.1 : Ext _ _)
      exact absurd hi (by simp; try omega))) .nil)), ⟨show SpecsL Try.prog _ from (SpecsL.cons w_awake_ok w_awake_en (SpecsL.cons w_few_ok w_few_en (SpecsL.cons g_ValidPiece_ok g_ValidPiece_en (SpecsL.cons r3_ValidPiece_ok r3_ValidPiece_en (SpecsL.cons g_ValidFilm_ok g_ValidFilm_en (SpecsL.cons r3_ValidFilm_ok r3_ValidFilm_en SpecsL.nil)))))), rfl, ⟨show ItersL Try.prog _ from ItersL.nil, (TrsOk.none (fun _ => rfl))⟩⟩⟩
  · cases hs)
theorem w_GlassValid_en : Enters Try.prog 4 := fun args w => by kernel_rfl
theorem w_GlassValid_B : ∀ args p r, w_GlassValid_s args = some (p, r) → ∃ b, r = .bool b := by
  intro args p r h
  unfold w_GlassValid_s at h
  split at h
  · cases h; exact ⟨_, rfl⟩
  · cases h
end Go.Proofs.Ytipaekbdalahdaa

namespace Go.Proofs.Ytipaekbdalahdaa
open Go.SE Go.RowKit
set_option maxRecDepth 100000
set_option maxHeartbeats 4000000
set_option linter.unusedVariables false
attribute [local irreducible] Go.SE.vc

def L.ix (n : Nat) (i : Int) : Nat := (Int.tmod (Int.tmod i (n : Int) + (n : Int)) (n : Int)).toNat
theorem tmod_add {m n : Int} (h0 : 0 ≤ m) (h1 : m < n) : Int.tmod (m + n) n = m := by
  rw [Int.tmod_eq_emod_of_nonneg (by omega), Int.add_emod_right, Int.emod_eq_of_lt h0 h1]
theorem ix_self {n k : Nat} (h : k < n) : L.ix n (k : Int) = k := by
  unfold L.ix
  rw [Int.tmod_eq_of_lt (show 0 ≤ (k : Int) by omega) (show (k : Int) < n by omega), tmod_add (by omega) (by omega)]
  omega
theorem ix_next {n k : Nat} (h : k < n) : L.ix n ((k : Int) + 1) = L.next n k := by
  unfold L.ix L.next
  by_cases e : k + 1 < n
  · rw [Int.tmod_eq_of_lt (show 0 ≤ (k : Int) + 1 by omega) (show (k : Int) + 1 < n by omega), tmod_add (by omega) (by omega)]
  · rw [show (k : Int) + 1 = (n : Int) by omega, Int.tmod_self, Int.zero_add, Int.tmod_self]
theorem ix_prev {n k : Nat} (h : k < n) : L.ix n ((k : Int) - 1) = L.prev n k := by
  unfold L.ix L.prev
  by_cases e : 1 ≤ k
  · rw [Int.tmod_eq_of_lt (show 0 ≤ (k : Int) - 1 by omega) (show (k : Int) - 1 < n by omega), show (k : Int) + (n : Int) - 1 = (k : Int) - 1 + n by omega]
  · obtain rfl : k = 0 := by omega
    by_cases e1 : n = 1
    · subst e1; rfl
    · rw [show ((0 : Nat) : Int) - 1 = -(1 : Int) by omega, Int.neg_tmod, Int.tmod_eq_of_lt (show 0 ≤ (1 : Int) by omega) (show (1 : Int) < n by omega), show -(1 : Int) + (n : Int) = ((0 : Nat) : Int) + (n : Int) - 1 by omega]
theorem ix_bd {n : Nat} {i : Int} (h : 0 < n) : 0 ≤ Int.tmod i (n : Int) + (n : Int) ∧ Int.tmod i (n : Int) + (n : Int) ≤ 2 * (n : Int) ∧ 0 ≤ Int.tmod (Int.tmod i (n : Int) + (n : Int)) (n : Int) ∧ Int.tmod (Int.tmod i (n : Int) + (n : Int)) (n : Int) < (n : Int) := by
  have h1 := Int.lt_tmod_of_pos i (show 0 < (n : Int) by omega)
  have h2 := Int.tmod_lt_of_pos i (show 0 < (n : Int) by omega)
  exact ⟨by omega, by omega, Int.tmod_nonneg _ (by omega), Int.tmod_lt_of_pos _ (by omega)⟩
theorem ix_lt {n : Nat} {i : Int} (h : 0 < n) : L.ix n i < n := by
  have := ix_bd (i := i) h
  unfold L.ix; omega
theorem cmpPt_neg {a b : L.Pt} : decide (L.cmpPt a b < 0) = (bif decide (a.x < b.x) then true else bif decide (a.x = b.x) then decide (a.y < b.y) else false) := by
  unfold L.cmpPt L.or2 L.cmp
  rcases Int.lt_trichotomy a.x b.x with h1 | h1 | h1 <;> rcases Int.lt_trichotomy a.y b.y with h2 | h2 | h2 <;> grind
def r1_ValidPoint_p (p : L.Pt) : Prop := True
def r1_ValidPoint_r (p : L.Pt) : SV := .bool (L.validPt p)
def r1_ValidPoint_s : List EV → Option (Prop × SV)
  | [.p (.agg [.int .i64 p_x, .int .i64 p_y])] => some (r1_ValidPoint_p (⟨p_x, p_y⟩ : L.Pt), r1_ValidPoint_r (⟨p_x, p_y⟩ : L.Pt))
  | _ => none
abbrev r1_ValidPoint_S : SE.Spec := (specO r1_ValidPoint_s)
def r1_ValidPoint_C : Cfg := { muts := [], frz := lookN [], specs := lookS [], loops := lookL [], iters := lookI [], rfs := lookR [], nils := lookM [] }
theorem r1_ValidPoint_vc (p : L.Pt) (hp : r1_ValidPoint_p p) : vc Try.prog (r1_ValidPoint_C) (bodyOf Try.f131) (st0 Try.f131 [.p (.agg [.int .i64 p.x, .int .i64 p.y])]) (retFn Try.prog Try.f131 (r1_ValidPoint_r p)) :=
  @Eq.mpr _ ((bif bif bif Decidable.decide ((0 : Int) ≤ p.x) then Decidable.decide (p.x ≤ (4096 : Int)) else Bool.false then Decidable.decide ((0 : Int) ≤ p.y) else Bool.false then Decidable.decide (p.y ≤ (4096 : Int)) else Bool.false) = L.validPt p) (by kernel_rfl) (by
    unfold L.validPt L.within
    rw [band, band, band]
    cases decide (0 ≤ p.x) <;> cases decide (p.x ≤ 4096) <;> cases decide (0 ≤ p.y) <;> cases decide (p.y ≤ 4096) <;> rfl)
theorem r1_ValidPoint_ok : SpecOk Try.prog 131 r1_ValidPoint_S := fnX Try.func131 (c := bodyOf Try.f131) (by kernel_rfl) mixed (fun args p r hs hp => by
  unfold r1_ValidPoint_s at hs
  split at hs
  · cases hs; exact ⟨_, _, r1_ValidPoint_vc _ hp, (.same _ .nil), ⟨show SpecsL Try.prog _ from SpecsL.nil, rfl, ⟨show ItersL Try.prog _ from ItersL.nil, (TrsOk.none (fun _ => rfl))⟩⟩⟩
  · cases hs)
theorem r1_ValidPoint_en : Enters Try.prog 131 := fun args w => by kernel_rfl
theorem r1_ValidPoint_B : ∀ args p r, r1_ValidPoint_s args = some (p, r) → ∃ b, r = .bool b := by
  intro args p r h
  unfold r1_ValidPoint_s at h
  split at h
  · cases h; exact ⟨_, rfl⟩
  · cases h
def r1_points_p (l : (L.Sq L.Pt)) : Prop := l.n ≤ 1000000
def r1_points_r (l : (L.Sq L.Pt)) : SV := .bool (L.validPts l)
def r1_points_s : List EV → Option (Prop × SV)
  | [.p (.sl 2 l_n l_g)] => some ((∀ i, i < l_n → l_g i = [.int .i64 ((ofPt (l_g i)).x), .int .i64 ((ofPt (l_g i)).y)]) ∧ r1_points_p (⟨l_n, fun i => ofPt (l_g i)⟩ : (L.Sq L.Pt)), r1_points_r (⟨l_n, fun i => ofPt (l_g i)⟩ : (L.Sq L.Pt)))
  | _ => none
abbrev r1_points_S : SE.Spec := (specO r1_points_s)
def r1_points_C : Cfg := { muts := [], frz := lookN [], specs := lookS [(131, r1_ValidPoint_S)], loops := fun _ => none, iters := lookI [], rfs := lookR [], nils := lookM [] }
theorem r1_points_vc (l : (L.Sq L.Pt)) (hp : r1_points_p l) : vc Try.prog ({ r1_points_C with loops := lookL [(2, { T := Nat, keep := [0], keepO := [], chg := fun i => [(3, .p (.int .i64 (i : Int)))], own := fun _ => [], inv := fun i => i ≤ l.n ∧ ∀ j, j < i → L.validPt (l.g j) = true, mu := fun i => l.n - i })], rfs := lookR [] }) (bodyOf Try.f87) (st0 Try.f87 [.p (.sl 2 l.n (fun i => [.int .i64 ((l.g i).x), .int .i64 ((l.g i).y)]))]) (retFn Try.prog Try.f87 (r1_points_r l)) :=
  @Eq.mpr _ ((∃ (g : Nat), (0 : Int) = (↑g : Int) ∧ g ≤ l.n ∧ ∀ (j : Nat), j < g → L.validPt (l.g j) = Bool.true) ∧ ∀ (g : Nat), (g ≤ l.n ∧ ∀ (j : Nat), j < g → L.validPt (l.g j) = Bool.true) → (Decidable.decide ((↑g : Int) < (↑l.n : Int)) = Bool.true → ((0 : Int) ≤ (↑g : Int) ∧ (↑g : Int) < (↑l.n : Int)) ∧ True ∧ ((!L.validPt (l.g (Int.toNat (↑g : Int)))) = Bool.true → Bool.false = L.validPts l) ∧
 ((!L.validPt (l.g (Int.toNat (↑g : Int)))) = Bool.false → Go.SE.InK Go.IntKind.i64 ((↑g : Int) + (1 : Int)) ∧ ∃ (g' : Nat), (↑g : Int) + (1 : Int) = (↑g' : Int) ∧ (l.n = l.n ∧ ∀ (i : Nat), i < l.n → [Go.SE.SV.int Go.IntKind.i64 (l.g i).x, Go.SE.SV.int Go.IntKind.i64 (l.g i).y] = [Go.SE.SV.int Go.IntKind.i64 (l.g i).x, Go.SE.SV.int Go.IntKind.i64 (l.g i).y]) ∧ (g' ≤ l.n ∧ ∀ (j : Nat), j < g' →
 L.validPt (l.g j) = Bool.true) ∧ l.n - g' < l.n - g)) ∧ (Decidable.decide ((↑g : Int) < (↑l.n : Int)) = Bool.false → Bool.true = L.validPts l)) (by kernel_rfl) (by
    have hn : l.n ≤ 1000000 := hp
    refine ⟨⟨(0 : Nat), rfl, Nat.zero_le _, fun j hj => absurd hj (Nat.not_lt_zero _)⟩, fun g hg => ⟨fun hlt => ?_, fun hge => ?_⟩⟩
    · have hb : (g : Int) < (l.n : Int) := of_decide_eq_true hlt
      have e0 : ((g : Int)).toNat = g := by omega
      rw [e0]
      refine ⟨by omega, trivial, fun h1 => ?_, fun h1 => ?_⟩
      · unfold L.validPts; rw [allB_false (i := g) (by omega) (notT h1)]
      · exact ⟨InK.of (by omega) (by omega), g + 1, by omega, ⟨rfl, fun _ _ => rfl⟩, ⟨by omega, fun j hj => by
          rcases Nat.lt_succ_iff_lt_or_eq.1 hj with h' | rfl
          · exact hg.2 j h'
          · exact notF h1⟩, by omega⟩
    · have hb : ¬ (g : Int) < (l.n : Int) := of_decide_eq_false hge
      exact (allB_iff.2 (fun i hi => hg.2 i (by omega))).symm)
theorem r1_points_ok : SpecOk Try.prog 87 r1_points_S := fnX Try.func87 (c := bodyOf Try.f87) (by kernel_rfl) mixed (fun args p r hs hp => by
  unfold r1_points_s at hs
  split at hs
  · cases hs; exact ⟨_, _, r1_points_vc _ hp.2, (.p (.sl hp.1) .nil), ⟨show SpecsL Try.prog _ from (SpecsL.cons r1_ValidPoint_ok r1_ValidPoint_en SpecsL.nil), rfl, ⟨show ItersL Try.prog _ from ItersL.nil, (TrsOk.none (fun _ => rfl))⟩⟩⟩
  · cases hs)
theorem r1_points_en : Enters Try.prog 87 := fun args w => by kernel_rfl
theorem r1_points_B : ∀ args p r, r1_points_s args = some (p, r) → ∃ b, r = .bool b := by
  intro args p r h
  unfold r1_points_s at h
  split at h
  · cases h; exact ⟨_, rfl⟩
  · cases h
def r1_Cross_p (a : L.Pt) (b : L.Pt) (c : L.Pt) : Prop := L.bd a ∧ L.bd b ∧ L.bd c
def r1_Cross_r (a : L.Pt) (b : L.Pt) (c : L.Pt) : SV := .int .i64 (L.cross a b c)
def r1_Cross_s : List EV → Option (Prop × SV)
  | [.p (.agg [.int .i64 a_x, .int .i64 a_y]), .p (.agg [.int .i64 b_x, .int .i64 b_y]), .p (.agg [.int .i64 c_x, .int .i64 c_y])] => some (r1_Cross_p (⟨a_x, a_y⟩ : L.Pt) (⟨b_x, b_y⟩ : L.Pt) (⟨c_x, c_y⟩ : L.Pt), r1_Cross_r (⟨a_x, a_y⟩ : L.Pt) (⟨b_x, b_y⟩ : L.Pt) (⟨c_x, c_y⟩ : L.Pt))
  | _ => none
abbrev r1_Cross_S : SE.Spec := (specO r1_Cross_s)
def r1_Cross_C : Cfg := { muts := [], frz := lookN [], specs := lookS [], loops := lookL [], iters := lookI [], rfs := lookR [], nils := lookM [] }
theorem r1_Cross_vc (a : L.Pt) (b : L.Pt) (c : L.Pt) (hp : r1_Cross_p a b c) : vc Try.prog (r1_Cross_C) (bodyOf Try.f91) (st0 Try.f91 [.p (.agg [.int .i64 a.x, .int .i64 a.y]), .p (.agg [.int .i64 b.x, .int .i64 b.y]), .p (.agg [.int .i64 c.x, .int .i64 c.y])]) (retFn Try.prog Try.f91 (r1_Cross_r a b c)) :=
  @Eq.mpr _ (Go.SE.InK Go.IntKind.i64 (b.x - a.x) ∧ Go.SE.InK Go.IntKind.i64 (c.y - a.y) ∧ Go.SE.InK Go.IntKind.i64 ((b.x - a.x) * (c.y - a.y)) ∧ Go.SE.InK Go.IntKind.i64 (b.y - a.y) ∧ Go.SE.InK Go.IntKind.i64 (c.x - a.x) ∧ Go.SE.InK Go.IntKind.i64 ((b.y - a.y) * (c.x - a.x)) ∧ Go.SE.InK Go.IntKind.i64 ((b.x - a.x) * (c.y - a.y) - (b.y - a.y) * (c.x - a.x)) ∧ (b.x - a.x) * (c.y - a.y) - (b.y - a.y) * (c.x -
 a.x) = L.cross a b c) (by kernel_rfl) (by
    obtain ⟨h1, h2, h3⟩ := hp
    unfold L.bd at h1 h2 h3
    have m1 := mul_bd (a := b.x - a.x) (b := c.y - a.y) (m := 8000000) (n := 8000000) (by omega) (by omega) (by omega) (by omega)
    have m2 := mul_bd (a := b.y - a.y) (b := c.x - a.x) (m := 8000000) (n := 8000000) (by omega) (by omega) (by omega) (by omega)
    exact ⟨InK.of (by omega) (by omega), InK.of (by omega) (by omega), InK.of (by omega) (by omega), InK.of (by omega) (by omega), InK.of (by omega) (by omega), InK.of (by omega) (by omega), InK.of (by omega) (by omega), rfl⟩)
theorem r1_Cross_ok : SpecOk Try.prog 91 r1_Cross_S := fnX Try.func91 (c := bodyOf Try.f91) (by kernel_rfl) mixed (fun args p r hs hp => by
  unfold r1_Cross_s at hs
  split at hs
  · cases hs; exact ⟨_, _, r1_Cross_vc _ _ _ hp, (.same _ (.same _ (.same _ .nil))), ⟨show SpecsL Try.prog _ from SpecsL.nil, rfl, ⟨show ItersL Try.prog _ from ItersL.nil, (TrsOk.none (fun _ => rfl))⟩⟩⟩
  · cases hs)
theorem r1_Cross_en : Enters Try.prog 91 := fun args w => by kernel_rfl
theorem r1_Cross_I : ∀ args p r, r1_Cross_s args = some (p, r) → ∃ n, r = .int .i64 n := by
  intro args p r h
  unfold r1_Cross_s at h
  split at h
  · cases h; exact ⟨_, rfl⟩
  · cases h
def r1_Dist_p (a : L.Pt) (b : L.Pt) : Prop := L.bd a ∧ L.bd b
def r1_Dist_r (a : L.Pt) (b : L.Pt) : SV := .int .i64 (L.dist a b)
def r1_Dist_s : List EV → Option (Prop × SV)
  | [.p (.agg [.int .i64 a_x, .int .i64 a_y]), .p (.agg [.int .i64 b_x, .int .i64 b_y])] => some (r1_Dist_p (⟨a_x, a_y⟩ : L.Pt) (⟨b_x, b_y⟩ : L.Pt), r1_Dist_r (⟨a_x, a_y⟩ : L.Pt) (⟨b_x, b_y⟩ : L.Pt))
  | _ => none
abbrev r1_Dist_S : SE.Spec := (specO r1_Dist_s)
def r1_Dist_C : Cfg := { muts := [], frz := lookN [], specs := lookS [], loops := lookL [], iters := lookI [], rfs := lookR [], nils := lookM [] }
theorem r1_Dist_vc (a : L.Pt) (b : L.Pt) (hp : r1_Dist_p a b) : vc Try.prog (r1_Dist_C) (bodyOf Try.f123) (st0 Try.f123 [.p (.agg [.int .i64 a.x, .int .i64 a.y]), .p (.agg [.int .i64 b.x, .int .i64 b.y])]) (retFn Try.prog Try.f123 (r1_Dist_r a b)) :=
  @Eq.mpr _ (Go.SE.InK Go.IntKind.i64 (a.x - b.x) ∧ Go.SE.InK Go.IntKind.i64 (a.x - b.x) ∧ Go.SE.InK Go.IntKind.i64 ((a.x - b.x) * (a.x - b.x)) ∧ Go.SE.InK Go.IntKind.i64 (a.y - b.y) ∧ Go.SE.InK Go.IntKind.i64 (a.y - b.y) ∧ Go.SE.InK Go.IntKind.i64 ((a.y - b.y) * (a.y - b.y)) ∧ Go.SE.InK Go.IntKind.i64 ((a.x - b.x) * (a.x - b.x) + (a.y - b.y) * (a.y - b.y)) ∧ (a.x - b.x) * (a.x - b.x) + (a.y - b.y) * (a.y -
 b.y) = L.dist a b) (by kernel_rfl) (by
    obtain ⟨h1, h2⟩ := hp
    unfold L.bd at h1 h2
    have m1 := mul_bd (a := a.x - b.x) (b := a.x - b.x) (m := 8000000) (n := 8000000) (by omega) (by omega) (by omega) (by omega)
    have m2 := mul_bd (a := a.y - b.y) (b := a.y - b.y) (m := 8000000) (n := 8000000) (by omega) (by omega) (by omega) (by omega)
    refine ⟨InK.of (by omega) (by omega), InK.of (by omega) (by omega), InK.of (by omega) (by omega), InK.of (by omega) (by omega), InK.of (by omega) (by omega), InK.of (by omega) (by omega), InK.of (by omega) (by omega), ?_⟩
    unfold L.dist
    rw [show a.x - b.x = -(b.x - a.x) by omega, show a.y - b.y = -(b.y - a.y) by omega, Int.neg_mul_neg, Int.neg_mul_neg])
theorem r1_Dist_ok : SpecOk Try.prog 123 r1_Dist_S := fnX Try.func123 (c := bodyOf Try.f123) (by kernel_rfl) mixed (fun args p r hs hp => by
  unfold r1_Dist_s at hs
  split at hs
  · cases hs; exact ⟨_, _, r1_Dist_vc _ _ hp, (.same _ (.same _ .nil)), ⟨show SpecsL Try.prog _ from SpecsL.nil, rfl, ⟨show ItersL Try.prog _ from ItersL.nil, (TrsOk.none (fun _ => rfl))⟩⟩⟩
  · cases hs)
theorem r1_Dist_en : Enters Try.prog 123 := fun args w => by kernel_rfl
theorem r1_Dist_I : ∀ args p r, r1_Dist_s args = some (p, r) → ∃ n, r = .int .i64 n := by
  intro args p r h
  unfold r1_Dist_s at h
  split at h
  · cases h; exact ⟨_, rfl⟩
  · cases h
def r1_less_p (a : L.Pt) (b : L.Pt) : Prop := True
def r1_less_r (a : L.Pt) (b : L.Pt) : SV := .bool (decide (L.cmpPt a b < 0))
def r1_less_s : List EV → Option (Prop × SV)
  | [.p (.agg [.int .i64 a_x, .int .i64 a_y]), .p (.agg [.int .i64 b_x, .int .i64 b_y])] => some (r1_less_p (⟨a_x, a_y⟩ : L.Pt) (⟨b_x, b_y⟩ : L.Pt), r1_less_r (⟨a_x, a_y⟩ : L.Pt) (⟨b_x, b_y⟩ : L.Pt))
  | _ => none
abbrev r1_less_S : SE.Spec := (specO r1_less_s)
def r1_less_C : Cfg := { muts := [], frz := lookN [], specs := lookS [], loops := lookL [], iters := lookI [], rfs := lookR [], nils := lookM [] }
theorem r1_less_vc (a : L.Pt) (b : L.Pt) (hp : r1_less_p a b) : vc Try.prog (r1_less_C) (bodyOf Try.f90) (st0 Try.f90 [.p (.agg [.int .i64 a.x, .int .i64 a.y]), .p (.agg [.int .i64 b.x, .int .i64 b.y])]) (retFn Try.prog Try.f90 (r1_less_r a b)) :=
  @Eq.mpr _ ((bif Decidable.decide (a.x < b.x) then Bool.true else bif Decidable.decide (a.x = b.x) then Decidable.decide (a.y < b.y) else Bool.false) = Decidable.decide (L.cmpPt a b < (0 : Int))) (by kernel_rfl) (by
    exact cmpPt_neg.symm)
theorem r1_less_ok : SpecOk Try.prog 90 r1_less_S := fnX Try.func90 (c := bodyOf Try.f90) (by kernel_rfl) mixed (fun args p r hs hp => by
  unfold r1_less_s at hs
  split at hs
  · cases hs; exact ⟨_, _, r1_less_vc _ _ hp, (.same _ (.same _ .nil)), ⟨show SpecsL Try.prog _ from SpecsL.nil, rfl, ⟨show ItersL Try.prog _ from ItersL.nil, (TrsOk.none (fun _ => rfl))⟩⟩⟩
  · cases hs)
theorem r1_less_en : Enters Try.prog 90 := fun args w => by kernel_rfl
theorem r1_less_B : ∀ args p r, r1_less_s args = some (p, r) → ∃ b, r = .bool b := by
  intro args p r h
  unfold r1_less_s at h
  split at h
  · cases h; exact ⟨_, rfl⟩
  · cases h
def r1_On_p (a : L.Pt) (b : L.Pt) (p : L.Pt) : Prop := L.bd a ∧ L.bd b ∧ L.bd p
def r1_On_r (a : L.Pt) (b : L.Pt) (p : L.Pt) : SV := .bool (L.on a b p)
def r1_On_s : List EV → Option (Prop × SV)
  | [.p (.agg [.int .i64 a_x, .int .i64 a_y]), .p (.agg [.int .i64 b_x, .int .i64 b_y]), .p (.agg [.int .i64 p_x, .int .i64 p_y])] => some (r1_On_p (⟨a_x, a_y⟩ : L.Pt) (⟨b_x, b_y⟩ : L.Pt) (⟨p_x, p_y⟩ : L.Pt), r1_On_r (⟨a_x, a_y⟩ : L.Pt) (⟨b_x, b_y⟩ : L.Pt) (⟨p_x, p_y⟩ : L.Pt))
  | _ => none
abbrev r1_On_S : SE.Spec := (specO r1_On_s)
def r1_On_C : Cfg := { muts := [], frz := lookN [], specs := lookS [(91, r1_Cross_S)], loops := lookL [], iters := lookI [], rfs := lookR [], nils := lookM [] }
theorem r1_On_vc (a : L.Pt) (b : L.Pt) (p : L.Pt) (hp : r1_On_p a b p) : vc Try.prog (r1_On_C) (bodyOf Try.f148) (st0 Try.f148 [.p (.agg [.int .i64 a.x, .int .i64 a.y]), .p (.agg [.int .i64 b.x, .int .i64 b.y]), .p (.agg [.int .i64 p.x, .int .i64 p.y])]) (retFn Try.prog Try.f148 (r1_On_r a b p)) :=
  @Eq.mpr _ ((L.bd a ∧ L.bd b ∧ L.bd p) ∧ (bif bif bif bif Decidable.decide (L.cross a b p = (0 : Int)) then Decidable.decide (Min.min a.x b.x ≤ p.x) else Bool.false then Decidable.decide (p.x ≤ Max.max a.x b.x) else Bool.false then Decidable.decide (Min.min a.y b.y ≤ p.y) else Bool.false then Decidable.decide (p.y ≤ Max.max a.y b.y) else Bool.false) = L.on a b p) (by kernel_rfl) (by
    obtain ⟨h1, h2, h3⟩ := hp
    refine ⟨⟨h1, h2, h3⟩, ?_⟩
    unfold L.on L.within
    rw [band, band, band, band]
    cases decide (L.cross a b p = 0) <;> cases decide (min a.x b.x ≤ p.x) <;> cases decide (p.x ≤ max a.x b.x) <;> cases decide (min a.y b.y ≤ p.y) <;> cases decide (p.y ≤ max a.y b.y) <;> rfl)
theorem r1_On_ok : SpecOk Try.prog 148 r1_On_S := fnX Try.func148 (c := bodyOf Try.f148) (by kernel_rfl) mixed (fun args p r hs hp => by
  unfold r1_On_s at hs
  split at hs
  · cases hs; exact ⟨_, _, r1_On_vc _ _ _ hp, (.same _ (.same _ (.same _ .nil))), ⟨show SpecsL Try.prog _ from (SpecsL.cons r1_Cross_ok r1_Cross_en SpecsL.nil), rfl, ⟨show ItersL Try.prog _ from ItersL.nil, (TrsOk.none (fun _ => rfl))⟩⟩⟩
  · cases hs)
theorem r1_On_en : Enters Try.prog 148 := fun args w => by kernel_rfl
theorem r1_On_B : ∀ args p r, r1_On_s args = some (p, r) → ∃ b, r = .bool b := by
  intro args p r h
  unfold r1_On_s at h
  split at h
  · cases h; exact ⟨_, rfl⟩
  · cases h
def r1_sign_p (n : Int) : Prop := True
def r1_sign_r (n : Int) : SV := .int .i64 (L.cmp n 0)
def r1_sign_s : List EV → Option (Prop × SV)
  | [.p (.int .i64 n)] => some (r1_sign_p n, r1_sign_r n)
  | _ => none
abbrev r1_sign_S : SE.Spec := (specO r1_sign_s)
def r1_sign_C : Cfg := { muts := [], frz := lookN [], specs := lookS [], loops := lookL [], iters := lookI [], rfs := lookR [], nils := lookM [] }
theorem r1_sign_vc (n : Int) (hp : r1_sign_p n) : vc Try.prog (r1_sign_C) (bodyOf Try.f149) (st0 Try.f149 [.p (.int .i64 n)]) (retFn Try.prog Try.f149 (r1_sign_r n)) :=
  @Eq.mpr _ ((Decidable.decide ((0 : Int) < n) = Bool.true → (1 : Int) = L.cmp n (0 : Int)) ∧ (Decidable.decide ((0 : Int) < n) = Bool.false → (Decidable.decide (n < (0 : Int)) = Bool.true → (-1 : Int) = L.cmp n (0 : Int)) ∧ (Decidable.decide (n < (0 : Int)) = Bool.false → (0 : Int) = L.cmp n (0 : Int)))) (by kernel_rfl) (by
    refine ⟨fun h => ?_, fun h => ⟨fun h1 => ?_, fun h1 => ?_⟩⟩
    · have h := of_decide_eq_true h
      unfold L.cmp; rw [decide_eq_false (by omega), decide_eq_true h]; rfl
    · have h1 := of_decide_eq_true h1
      unfold L.cmp; rw [decide_eq_true h1]; rfl
    · unfold L.cmp; rw [h1, h]; rfl)
theorem r1_sign_ok : SpecOk Try.prog 149 r1_sign_S := fnX Try.func149 (c := bodyOf Try.f149) (by kernel_rfl) mixed (fun args p r hs hp => by
  unfold r1_sign_s at hs
  split at hs
  · cases hs; exact ⟨_, _, r1_sign_vc _ hp, (.same _ .nil), ⟨show SpecsL Try.prog _ from SpecsL.nil, rfl, ⟨show ItersL Try.prog _ from ItersL.nil, (TrsOk.none (fun _ => rfl))⟩⟩⟩
  · cases hs)
theorem r1_sign_en : Enters Try.prog 149 := fun args w => by kernel_rfl
theorem r1_sign_I : ∀ args p r, r1_sign_s args = some (p, r) → ∃ n, r = .int .i64 n := by
  intro args p r h
  unfold r1_sign_s at h
  split at h
  · cases h; exact ⟨_, rfl⟩
  · cases h
def r1_at_p (l : (L.Sq L.Pt)) (i : Int) : Prop := 1 ≤ l.n ∧ l.n ≤ 1000000 ∧ -1000000 ≤ i ∧ i ≤ 1000000
def r1_at_r (l : (L.Sq L.Pt)) (i : Int) : SV := (.agg [.int .i64 ((l.g (L.ix l.n i)).x), .int .i64 ((l.g (L.ix l.n i)).y)])
def r1_at_s : List EV → Option (Prop × SV)
  | [.p (.sl 2 l_n l_g), .p (.int .i64 i)] => some ((∀ i, i < l_n → l_g i = [.int .i64 ((ofPt (l_g i)).x), .int .i64 ((ofPt (l_g i)).y)]) ∧ r1_at_p (⟨l_n, fun i => ofPt (l_g i)⟩ : (L.Sq L.Pt)) i, r1_at_r (⟨l_n, fun i => ofPt (l_g i)⟩ : (L.Sq L.Pt)) i)
  | _ => none
abbrev r1_at_S : SE.Spec := (specO r1_at_s)
def r1_at_C : Cfg := { muts := [], frz := lookN [], specs := lookS [], loops := lookL [], iters := lookI [], rfs := lookR [], nils := lookM [] }
theorem r1_at_vc (l : (L.Sq L.Pt)) (i : Int) (hp : r1_at_p l i) : vc Try.prog (r1_at_C) (bodyOf Try.f92) (st0 Try.f92 [.p (.sl 2 l.n (fun i => [.int .i64 ((l.g i).x), .int .i64 ((l.g i).y)])), .p (.int .i64 i)]) (retFn Try.prog Try.f92 (r1_at_r l i)) :=
  @Eq.mpr _ ((↑l.n : Int) ≠ (0 : Int) ∧ Go.SE.InK Go.IntKind.i64 (Int.tmod i (↑l.n : Int) + (↑l.n : Int)) ∧ (↑l.n : Int) ≠ (0 : Int) ∧ ((0 : Int) ≤ Int.tmod (Int.tmod i (↑l.n : Int) + (↑l.n : Int)) (↑l.n : Int) ∧ Int.tmod (Int.tmod i (↑l.n : Int) + (↑l.n : Int)) (↑l.n : Int) < (↑l.n : Int)) ∧ Go.SE.SV.agg [Go.SE.SV.int Go.IntKind.i64 (l.g (Int.toNat (Int.tmod (Int.tmod i (↑l.n : Int) + (↑l.n : Int)) (↑l.n :
 Int)))).x, Go.SE.SV.int Go.IntKind.i64 (l.g (Int.toNat (Int.tmod (Int.tmod i (↑l.n : Int) + (↑l.n : Int)) (↑l.n : Int)))).y] = Go.SE.SV.agg [Go.SE.SV.int Go.IntKind.i64 (l.g (L.ix l.n i)).x, Go.SE.SV.int Go.IntKind.i64 (l.g (L.ix l.n i)).y]) (by kernel_rfl) (by
    obtain ⟨h1, h2, h3, h4⟩ := hp
    obtain ⟨q1, q2, q3, q4⟩ := ix_bd (n := l.n) (i := i) (by omega)
    exact ⟨by omega, InK.of (by omega) (by omega), by omega, ⟨q3, q4⟩, rfl⟩)
theorem r1_at_ok : SpecOk Try.prog 92 r1_at_S := fnX Try.func92 (c := bodyOf Try.f92) (by kernel_rfl) mixed (fun args p r hs hp => by
  unfold r1_at_s at hs
  split at hs
  · cases hs; exact ⟨_, _, r1_at_vc _ _ hp.2, (.p (.sl hp.1) (.same _ .nil)), ⟨show SpecsL Try.prog _ from SpecsL.nil, rfl, ⟨show ItersL Try.prog _ from ItersL.nil, (TrsOk.none (fun _ => rfl))⟩⟩⟩
  · cases hs)
theorem r1_at_en : Enters Try.prog 92 := fun args w => by kernel_rfl
def r1_sum_p (l : (L.Sq L.Pt)) : Prop := L.small l
def r1_sum_r (l : (L.Sq L.Pt)) : SV := .int .i64 (L.areaTo l l.n)
def r1_sum_s : List EV → Option (Prop × SV)
  | [.p (.sl 2 l_n l_g)] => some ((∀ i, i < l_n → l_g i = [.int .i64 ((ofPt (l_g i)).x), .int .i64 ((ofPt (l_g i)).y)]) ∧ r1_sum_p (⟨l_n, fun i => ofPt (l_g i)⟩ : (L.Sq L.Pt)), r1_sum_r (⟨l_n, fun i => ofPt (l_g i)⟩ : (L.Sq L.Pt)))
  | _ => none
abbrev r1_sum_S : SE.Spec := (specO r1_sum_s)
def r1_sum_C : Cfg := { muts := [], frz := lookN [], specs := lookS [(92, r1_at_S)], loops := fun _ => none, iters := lookI [], rfs := lookR [], nils := lookM [] }
theorem r1_sum_vc (l : (L.Sq L.Pt)) (hp : r1_sum_p l) : vc Try.prog ({ r1_sum_C with loops := lookL [(3, { T := Nat, keep := [0], keepO := [], chg := fun i => [(3, .p (.int .i64 (L.areaTo l i))), (4, .p (.int .i64 (i : Int)))], own := fun _ => [], inv := fun i => i ≤ l.n, mu := fun i => l.n - i })], rfs := lookR [] }) (bodyOf Try.f89) (st0 Try.f89 [.p (.sl 2 l.n (fun i => [.int .i64 ((l.g i).x), .int .i64 ((l.g i).y)]))]) (retFn Try.prog Try.f89 (r1_sum_r l)) :=
  @Eq.mpr _ ((∃ (g : Nat), (0 : Int) = L.areaTo l g ∧ (0 : Int) = (↑g : Int) ∧ g ≤ l.n) ∧ ∀ (g : Nat), g ≤ l.n → (Decidable.decide ((↑g : Int) < (↑l.n : Int)) = Bool.true → ((∀ (i : Nat), i < l.n → [Go.SE.SV.int Go.IntKind.i64 (l.g i).x, Go.SE.SV.int Go.IntKind.i64 (l.g i).y] = [Go.SE.SV.int Go.IntKind.i64 (l.g i).x, Go.SE.SV.int Go.IntKind.i64 (l.g i).y]) ∧ (1 : Nat) ≤ l.n ∧ l.n ≤ (1000000 : Nat) ∧ (-1000000
 : Int) ≤ (↑g : Int) ∧ (↑g : Int) ≤ (1000000 : Int)) ∧ Go.SE.InK Go.IntKind.i64 ((↑g : Int) + (1 : Int)) ∧ ((∀ (i : Nat), i < l.n → [Go.SE.SV.int Go.IntKind.i64 (l.g i).x, Go.SE.SV.int Go.IntKind.i64 (l.g i).y] = [Go.SE.SV.int Go.IntKind.i64 (l.g i).x, Go.SE.SV.int Go.IntKind.i64 (l.g i).y]) ∧ (1 : Nat) ≤ l.n ∧ l.n ≤ (1000000 : Nat) ∧ (-1000000 : Int) ≤ (↑g : Int) + (1 : Int) ∧ (↑g : Int) + (1 :
 Int) ≤ (1000000 : Int)) ∧ Go.SE.InK Go.IntKind.i64 ((l.g (L.ix l.n (↑g : Int))).x * (l.g (L.ix l.n ((↑g : Int) + (1 : Int)))).y) ∧ Go.SE.InK Go.IntKind.i64 ((l.g (L.ix l.n ((↑g : Int) + (1 : Int)))).x * (l.g (L.ix l.n (↑g : Int))).y) ∧ Go.SE.InK Go.IntKind.i64 ((l.g (L.ix l.n (↑g : Int))).x * (l.g (L.ix l.n ((↑g : Int) + (1 : Int)))).y - (l.g (L.ix l.n ((↑g : Int) + (1 : Int)))).x * (l.g (L.ix l.n
 (↑g : Int))).y) ∧ Go.SE.InK Go.IntKind.i64 (L.areaTo l g + ((l.g (L.ix l.n (↑g : Int))).x * (l.g (L.ix l.n ((↑g : Int) + (1 : Int)))).y - (l.g (L.ix l.n ((↑g : Int) + (1 : Int)))).x * (l.g (L.ix l.n (↑g : Int))).y)) ∧ Go.SE.InK Go.IntKind.i64 ((↑g : Int) + (1 : Int)) ∧ ∃ (g' : Nat), L.areaTo l g + ((l.g (L.ix l.n (↑g : Int))).x * (l.g (L.ix l.n ((↑g : Int) + (1 : Int)))).y - (l.g (L.ix l.n ((↑g :
 Int) + (1 : Int)))).x * (l.g (L.ix l.n (↑g : Int))).y) = L.areaTo l g' ∧ (↑g : Int) + (1 : Int) = (↑g' : Int) ∧ (l.n = l.n ∧ ∀ (i : Nat), i < l.n → [Go.SE.SV.int Go.IntKind.i64 (l.g i).x, Go.SE.SV.int Go.IntKind.i64 (l.g i).y] = [Go.SE.SV.int Go.IntKind.i64 (l.g i).x, Go.SE.SV.int Go.IntKind.i64 (l.g i).y]) ∧ g' ≤ l.n ∧ l.n - g' < l.n - g) ∧ (Decidable.decide ((↑g : Int) < (↑l.n : Int)) =
 Bool.false → L.areaTo l g = L.areaTo l l.n)) (by kernel_rfl) (by
    have hs : L.small l := hp
    have hn := hs.1
    refine ⟨⟨(0 : Nat), rfl, rfl, Nat.zero_le _⟩, fun g hg => ⟨fun hlt => ?_, fun hge => ?_⟩⟩
    · have hb : (g : Int) < (l.n : Int) := of_decide_eq_true hlt
      have hk : g < l.n := by omega
      rw [ix_self hk, ix_next hk]
      have b1 := area_term hs hk
      have b2 := areaTo_bd hs g hg
      exact ⟨⟨fun _ _ => rfl, by omega, by omega, by omega, by omega⟩, InK.of (by omega) (by omega), ⟨fun _ _ => rfl, by omega, by omega, by omega, by omega⟩, InK.of (by omega) (by omega), InK.of (by omega) (by omega), InK.of (by omega) (by omega), InK.of (by omega) (by omega), InK.of (by omega) (by omega), g + 1, rfl, by omega, ⟨rfl, fun _ _ => rfl⟩, by omega, by omega⟩
    · have hb : ¬ (g : Int) < (l.n : Int) := of_decide_eq_false hge
      obtain rfl : g = l.n := by omega
      rfl)
theorem r1_sum_ok : SpecOk Try.prog 89 r1_sum_S := fnX Try.func89 (c := bodyOf Try.f89) (by kernel_rfl) mixed (fun args p r hs hp => by
  unfold r1_sum_s at hs
  split at hs
  · cases hs; exact ⟨_, _, r1_sum_vc _ hp.2, (.p (.sl hp.1) .nil), ⟨show SpecsL Try.prog _ from (SpecsL.cons r1_at_ok r1_at_en SpecsL.nil), rfl, ⟨show ItersL Try.prog _ from ItersL.nil, (TrsOk.none (fun _ => rfl))⟩⟩⟩
  · cases hs)
theorem r1_sum_en : Enters Try.prog 89 := fun args w => by kernel_rfl
theorem r1_sum_I : ∀ args p r, r1_sum_s args = some (p, r) → ∃ n, r = .int .i64 n := by
  intro args p r h
  unfold r1_sum_s at h
  split at h
  · cases h; exact ⟨_, rfl⟩
  · cases h
end Go.Proofs.Ytipaekbdalahdaa

namespace Go.Proofs.Ytipaekbdalahdaa
open Go.SE Go.RowKit
set_option maxRecDepth 100000
set_option maxHeartbeats 4000000
set_option linter.unusedVariables false
attribute [local irreducible] Go.SE.vc

def L.pick4 (a b c d : L.Pt) (i : Nat) : L.Pt := bif decide (i = 0) then a else bif decide (i = 1) then b else bif decide (i = 2) then c else d
def L.onB (a b c d p : L.Pt) : Bool := L.on a b p && L.on c d p
def L.cm (a b c d : L.Pt) : Nat → L.Sq L.Pt
  | 0 => L.no
  | n + 1 => L.putIf (L.onB a b c d (L.pick4 a b c d n)) (L.cm a b c d n) (L.pick4 a b c d n)
theorem on_left {a b : L.Pt} : L.on a b a = true := by
  unfold L.on
  rw [Bool.and_eq_true, Bool.and_eq_true, within_iff, within_iff]
  refine ⟨⟨decide_eq_true ?_, by omega⟩, by omega⟩
  unfold L.cross; simp
theorem on_right {a b : L.Pt} : L.on a b b = true := by
  unfold L.on
  rw [Bool.and_eq_true, Bool.and_eq_true, within_iff, within_iff]
  refine ⟨⟨decide_eq_true ?_, by omega⟩, by omega⟩
  unfold L.cross; rw [Int.mul_comm]; omega
theorem cm_eq {a b c d : L.Pt} : L.cm a b c d 4 = L.k2 a b c d 2 := by
  have h1 : L.onB a b c d a = L.on c d a := by unfold L.onB; rw [on_left]; rfl
  have h2 : L.onB a b c d b = L.on c d b := by unfold L.onB; rw [on_right]; rfl
  have h3 : L.onB a b c d c = L.on a b c := by unfold L.onB; rw [on_left (a := c), Bool.and_true]
  have h4 : L.onB a b c d d = L.on a b d := by unfold L.onB; rw [on_right (a := c), Bool.and_true]
  show L.putIf (L.onB a b c d d) (L.putIf (L.onB a b c d c) (L.putIf (L.onB a b c d b) (L.putIf (L.onB a b c d a) L.no a) b) c) d = _
  rw [h1, h2, h3, h4]; rfl
theorem same_sym (p q : L.Pt) : L.same p q = L.same q p := by
  unfold L.same
  rw [show decide (p.x = q.x) = decide (q.x = p.x) from by by_cases h : p.x = q.x <;> simp [h, eq_comm], show decide (p.y = q.y) = decide (q.y = p.y) from by by_cases h : p.y = q.y <;> simp [h, eq_comm]]
theorem put_n {ks : L.Sq L.Pt} {p : L.Pt} : (L.put ks p).n ≤ ks.n + 1 := by
  unfold L.put
  cases L.has ks p
  · exact Nat.le_refl _
  · exact Nat.le_succ _
theorem cm_n {a b c d : L.Pt} : ∀ {i : Nat}, (L.cm a b c d i).n ≤ i
  | 0 => Nat.le_refl _
  | i + 1 => by
    have ih := cm_n (a := a) (b := b) (c := c) (d := d) (i := i)
    rw [L.cm]
    cases L.onB a b c d (L.pick4 a b c d i)
    · exact Nat.le_trans ih (Nat.le_succ _)
    · exact Nat.le_trans put_n (Nat.succ_le_succ ih)
theorem corner_eq {l : L.Sq L.Pt} {k : Nat} : (bif bif decide (0 < (k : Int)) then !decide (L.cmpPt (l.g 0) (l.g k) < 0) else false then true else decide (L.cross (l.g (L.prev l.n k)) (l.g k) (l.g (L.next l.n k)) = 0)) = !L.corner l k := by
  unfold L.corner
  have : decide (0 ≤ L.cmpPt (l.g 0) (l.g k)) = !decide (L.cmpPt (l.g 0) (l.g k) < 0) := by
    by_cases h : L.cmpPt (l.g 0) (l.g k) < 0
    · rw [decide_eq_true h, decide_eq_false (by omega)]; rfl
    · rw [decide_eq_false h, decide_eq_true (by omega)]; rfl
  rw [this, Bool.not_not]
  cases decide (0 < (k : Int)) <;> cases decide (L.cmpPt (l.g 0) (l.g k) < 0) <;> cases decide (L.cross (l.g (L.prev l.n k)) (l.g k) (l.g (L.next l.n k)) = 0) <;> rfl
def r1_meet_p (a : L.Pt) (b : L.Pt) (c : L.Pt) (d : L.Pt) : Prop := L.bd a ∧ L.bd b ∧ L.bd c ∧ L.bd d
def r1_meet_r (a : L.Pt) (b : L.Pt) (c : L.Pt) (d : L.Pt) : SV := .int .i64 (L.meet a b c d)
def r1_meet_s : List EV → Option (Prop × SV)
  | [.p (.agg [.int .i64 a_x, .int .i64 a_y]), .p (.agg [.int .i64 b_x, .int .i64 b_y]), .p (.agg [.int .i64 c_x, .int .i64 c_y]), .p (.agg [.int .i64 d_x, .int .i64 d_y])] => some (r1_meet_p (⟨a_x, a_y⟩ : L.Pt) (⟨b_x, b_y⟩ : L.Pt) (⟨c_x, c_y⟩ : L.Pt) (⟨d_x, d_y⟩ : L.Pt), r1_meet_r (⟨a_x, a_y⟩ : L.Pt) (⟨b_x, b_y⟩ : L.Pt) (⟨c_x, c_y⟩ : L.Pt) (⟨d_x, d_y⟩ : L.Pt))
  | _ => none
abbrev r1_meet_S : SE.Spec := (specO r1_meet_s)
def r1_meet_C : Cfg := { muts := [], frz := lookN [], specs := lookS [(148, r1_On_S), (91, r1_Cross_S), (149, r1_sign_S)], loops := fun _ => none, iters := lookI [], rfs := lookR [], nils := lookM [(2, [(9, 20, 77, 2)])] }
theorem r1_meet_vc (a : L.Pt) (b : L.Pt) (c : L.Pt) (d : L.Pt) (hp : r1_meet_p a b c d) : vc Try.prog ({ r1_meet_C with loops := lookL [(4, { T := Nat, keep := [4, 5, 6, 7, 9], keepO := [], chg := fun i => [(10, .p (.sl 2 4 (fun j => [.int .i64 ((L.pick4 a b c d j).x), .int .i64 ((L.pick4 a b c d j).y)]))), (11, .p (.int .i64 (i : Int)))], own := fun i => [(20, .row 77 2 (L.cm a b c d i).n (fun j => [.int .i64 (((L.cm a b c d i).g j).x), .int .i64 (((L.cm a b c d i).g j).y)]))], inv := fun i => i ≤ 4, mu := fun i => 4 - i }), (9, { T := Nat × Nat, keep := [4, 5, 6, 7, 9, 10, 11], keepO := [], tie := fun g => [(11, .int .i64 (g.1 : Int))], chg := fun g => [(12, .p (.bool (L.anyB g.2 (fun j => L.same ((L.cm a b c d g.1).g j) (L.pick4 a b c d g.1))))), (13, .p (.int .i64 (g.2 : Int)))], own := fun g => [(20, .row 77 2 (L.cm a b c d g.1).n (fun j => [.int .i64 (((L.cm a b c d g.1).g j).x), .int .i64 (((L.cm a b c d g.1).g j).y)]))], inv := fun g => g.1 < 4 ∧ g.2 ≤ (L.cm a b c d g.1).n, mu := fun g => (L.cm a b c d g.1).n - g.2 })], rfs := lookR [] }) (bodyOf Try.f132) (st0 Try.f132 [.p (.agg [.int .i64 a.x, .int .i64 a.y]), .p (.agg [.int .i64 b.x, .int .i64 b.y]), .p (.agg [.int .i64 c.x, .int .i64 c.y]), .p (.agg [.int .i64 d.x, .int .i64 d.y])]) (retFn Try.prog Try.f132 (r1_meet_r a b c d)) :=
  @Eq.mpr _ ((∃ (g : Nat), (nat_lit 4 = (4 : Nat) ∧ ∀ (i : Nat), i < nat_lit 4 → Go.SE.rowsOf [Go.SE.SV.int Go.IntKind.i64 a.x, Go.SE.SV.int Go.IntKind.i64 a.y, Go.SE.SV.int Go.IntKind.i64 b.x, Go.SE.SV.int Go.IntKind.i64 b.y, Go.SE.SV.int Go.IntKind.i64 c.x, Go.SE.SV.int Go.IntKind.i64 c.y, Go.SE.SV.int Go.IntKind.i64 d.x, Go.SE.SV.int Go.IntKind.i64 d.y] (nat_lit 2) i = [Go.SE.SV.int Go.IntKind.i64 (L.pick4
 a b c d i).x, Go.SE.SV.int Go.IntKind.i64 (L.pick4 a b c d i).y]) ∧ (0 : Int) = (↑g : Int) ∧ (nat_lit 0 = (L.cm a b c d g).n ∧ ∀ (i : Nat), i < nat_lit 0 → [] = [Go.SE.SV.int Go.IntKind.i64 ((L.cm a b c d g).g i).x, Go.SE.SV.int Go.IntKind.i64 ((L.cm a b c d g).g i).y]) ∧ g ≤ (4 : Nat)) ∧ ∀ (g : Nat), g ≤ (4 : Nat) → (Decidable.decide ((↑g : Int) < (4 : Int)) = Bool.true → ((0 : Int) ≤ (↑g : Int)
 ∧ (↑g : Int) < (↑(nat_lit 4) : Int)) ∧ (L.bd a ∧ L.bd b ∧ L.bd (L.pick4 a b c d (Int.toNat (↑g : Int)))) ∧ ((!!L.on a b (L.pick4 a b c d (Int.toNat (↑g : Int)))) = Bool.true → (0 : Int) ≤ (↑g : Int) ∧ (↑g : Int) < (↑(nat_lit 4) : Int)) ∧ ((!!L.on a b (L.pick4 a b c d (Int.toNat (↑g : Int)))) = Bool.true → L.bd c ∧ L.bd d ∧ L.bd (L.pick4 a b c d (Int.toNat (↑g : Int)))) ∧ ((bif !L.on a b (L.pick4 a
 b c d (Int.toNat (↑g : Int))) then Bool.true else !L.on c d (L.pick4 a b c d (Int.toNat (↑g : Int)))) = Bool.true → Go.SE.InK Go.IntKind.i64 ((↑g : Int) + (1 : Int)) ∧ ∃ (g' : Nat), (nat_lit 4 = (4 : Nat) ∧ ∀ (i : Nat), i < nat_lit 4 → [Go.SE.SV.int Go.IntKind.i64 (L.pick4 a b c d i).x, Go.SE.SV.int Go.IntKind.i64 (L.pick4 a b c d i).y] = [Go.SE.SV.int Go.IntKind.i64 (L.pick4 a b c d i).x,
 Go.SE.SV.int Go.IntKind.i64 (L.pick4 a b c d i).y]) ∧ (↑g : Int) + (1 : Int) = (↑g' : Int) ∧ Go.SE.SV.ref [Go.SE.SV.int Go.IntKind.i64 d.x, Go.SE.SV.int Go.IntKind.i64 d.y] (nat_lit 0) = Go.SE.SV.ref [Go.SE.SV.int Go.IntKind.i64 d.x, Go.SE.SV.int Go.IntKind.i64 d.y] (nat_lit 0) ∧ Go.SE.SV.ref [Go.SE.SV.int Go.IntKind.i64 c.x, Go.SE.SV.int Go.IntKind.i64 c.y] (nat_lit 0) = Go.SE.SV.ref
 [Go.SE.SV.int Go.IntKind.i64 c.x, Go.SE.SV.int Go.IntKind.i64 c.y] (nat_lit 0) ∧ Go.SE.SV.ref [Go.SE.SV.int Go.IntKind.i64 b.x, Go.SE.SV.int Go.IntKind.i64 b.y] (nat_lit 0) = Go.SE.SV.ref [Go.SE.SV.int Go.IntKind.i64 b.x, Go.SE.SV.int Go.IntKind.i64 b.y] (nat_lit 0) ∧ Go.SE.SV.ref [Go.SE.SV.int Go.IntKind.i64 a.x, Go.SE.SV.int Go.IntKind.i64 a.y] (nat_lit 0) = Go.SE.SV.ref [Go.SE.SV.int
 Go.IntKind.i64 a.x, Go.SE.SV.int Go.IntKind.i64 a.y] (nat_lit 0) ∧ ((L.cm a b c d g).n = (L.cm a b c d g').n ∧ ∀ (i : Nat), i < (L.cm a b c d g).n → [Go.SE.SV.int Go.IntKind.i64 ((L.cm a b c d g).g i).x, Go.SE.SV.int Go.IntKind.i64 ((L.cm a b c d g).g i).y] = [Go.SE.SV.int Go.IntKind.i64 ((L.cm a b c d g').g i).x, Go.SE.SV.int Go.IntKind.i64 ((L.cm a b c d g').g i).y]) ∧ g' ≤ (4 : Nat) ∧ (4 : Nat)
 - g' < (4 : Nat) - g) ∧ ((bif !L.on a b (L.pick4 a b c d (Int.toNat (↑g : Int))) then Bool.true else !L.on c d (L.pick4 a b c d (Int.toNat (↑g : Int)))) = Bool.false → (∃ (g_1 : Nat × Nat), (Bool.false = L.anyB g_1.2 fun (j : Nat) ↦ L.same ((L.cm a b c d g_1.1).g j) (L.pick4 a b c d g_1.1)) ∧ (0 : Int) = (↑g_1.2 : Int) ∧ ((L.cm a b c d g).n = (L.cm a b c d g_1.1).n ∧ ∀ (i : Nat), i < (L.cm a b c d
 g).n → [Go.SE.SV.int Go.IntKind.i64 ((L.cm a b c d g).g i).x, Go.SE.SV.int Go.IntKind.i64 ((L.cm a b c d g).g i).y] = [Go.SE.SV.int Go.IntKind.i64 ((L.cm a b c d g_1.1).g i).x, Go.SE.SV.int Go.IntKind.i64 ((L.cm a b c d g_1.1).g i).y]) ∧ (↑g : Int) = (↑g_1.1 : Int) ∧ g_1.1 < (4 : Nat) ∧ g_1.2 ≤ (L.cm a b c d g_1.1).n) ∧ ∀ (g_1 : Nat × Nat), (↑g : Int) = (↑g_1.1 : Int) ∧ g_1.1 < (4 : Nat) ∧ g_1.2 ≤
 (L.cm a b c d g_1.1).n → (Decidable.decide ((↑g_1.2 : Int) < (↑(L.cm a b c d g_1.1).n : Int)) = Bool.true → ((!L.anyB g_1.2 fun (j : Nat) ↦ L.same ((L.cm a b c d g_1.1).g j) (L.pick4 a b c d g_1.1)) = Bool.true → (0 : Int) ≤ (↑g_1.2 : Int) ∧ (↑g_1.2 : Int) < (↑(L.cm a b c d g_1.1).n : Int)) ∧ ((!L.anyB g_1.2 fun (j : Nat) ↦ L.same ((L.cm a b c d g_1.1).g j) (L.pick4 a b c d g_1.1)) = Bool.true →
 Int.toNat (↑g_1.2 : Int) < (L.cm a b c d g_1.1).n) ∧ ((!L.anyB g_1.2 fun (j : Nat) ↦ L.same ((L.cm a b c d g_1.1).g j) (L.pick4 a b c d g_1.1)) = Bool.true → (0 : Int) ≤ (↑g : Int) ∧ (↑g : Int) < (↑(nat_lit 4) : Int)) ∧ Go.SE.InK Go.IntKind.i64 ((↑g_1.2 : Int) + (1 : Int)) ∧ ∃ (g' : Nat × Nat), ((bif L.anyB g_1.2 fun (j : Nat) ↦ L.same ((L.cm a b c d g_1.1).g j) (L.pick4 a b c d g_1.1) then
 Bool.true else Decidable.decide (((L.cm a b c d g_1.1).g (Int.toNat (↑g_1.2 : Int))).x = (L.pick4 a b c d (Int.toNat (↑g : Int))).x) && Decidable.decide (((L.cm a b c d g_1.1).g (Int.toNat (↑g_1.2 : Int))).y = (L.pick4 a b c d (Int.toNat (↑g : Int))).y)) = L.anyB g'.2 fun (j : Nat) ↦ L.same ((L.cm a b c d g'.1).g j) (L.pick4 a b c d g'.1)) ∧ (↑g_1.2 : Int) + (1 : Int) = (↑g'.2 : Int) ∧ (nat_lit 4
 = nat_lit 4 ∧ ∀ (i : Nat), i < nat_lit 4 → [Go.SE.SV.int Go.IntKind.i64 (L.pick4 a b c d i).x, Go.SE.SV.int Go.IntKind.i64 (L.pick4 a b c d i).y] = [Go.SE.SV.int Go.IntKind.i64 (L.pick4 a b c d i).x, Go.SE.SV.int Go.IntKind.i64 (L.pick4 a b c d i).y]) ∧ (↑g : Int) = (↑g : Int) ∧ Go.SE.SV.ref [Go.SE.SV.int Go.IntKind.i64 d.x, Go.SE.SV.int Go.IntKind.i64 d.y] (nat_lit 0) = Go.SE.SV.ref [Go.SE.SV.int
 Go.IntKind.i64 d.x, Go.SE.SV.int Go.IntKind.i64 d.y] (nat_lit 0) ∧ Go.SE.SV.ref [Go.SE.SV.int Go.IntKind.i64 c.x, Go.SE.SV.int Go.IntKind.i64 c.y] (nat_lit 0) = Go.SE.SV.ref [Go.SE.SV.int Go.IntKind.i64 c.x, Go.SE.SV.int Go.IntKind.i64 c.y] (nat_lit 0) ∧ Go.SE.SV.ref [Go.SE.SV.int Go.IntKind.i64 b.x, Go.SE.SV.int Go.IntKind.i64 b.y] (nat_lit 0) = Go.SE.SV.ref [Go.SE.SV.int Go.IntKind.i64 b.x,
 Go.SE.SV.int Go.IntKind.i64 b.y] (nat_lit 0) ∧ Go.SE.SV.ref [Go.SE.SV.int Go.IntKind.i64 a.x, Go.SE.SV.int Go.IntKind.i64 a.y] (nat_lit 0) = Go.SE.SV.ref [Go.SE.SV.int Go.IntKind.i64 a.x, Go.SE.SV.int Go.IntKind.i64 a.y] (nat_lit 0) ∧ ((L.cm a b c d g_1.1).n = (L.cm a b c d g'.1).n ∧ ∀ (i : Nat), i < (L.cm a b c d g_1.1).n → [Go.SE.SV.int Go.IntKind.i64 ((L.cm a b c d g_1.1).g i).x, Go.SE.SV.int
 Go.IntKind.i64 ((L.cm a b c d g_1.1).g i).y] = [Go.SE.SV.int Go.IntKind.i64 ((L.cm a b c d g'.1).g i).x, Go.SE.SV.int Go.IntKind.i64 ((L.cm a b c d g'.1).g i).y]) ∧ ((↑g : Int) = (↑g'.1 : Int) ∧ g'.1 < (4 : Nat) ∧ g'.2 ≤ (L.cm a b c d g'.1).n) ∧ (L.cm a b c d g'.1).n - g'.2 < (L.cm a b c d g_1.1).n - g_1.2) ∧ (Decidable.decide ((↑g_1.2 : Int) < (↑(L.cm a b c d g_1.1).n : Int)) = Bool.false →
 ((!L.anyB g_1.2 fun (j : Nat) ↦ L.same ((L.cm a b c d g_1.1).g j) (L.pick4 a b c d g_1.1)) = Bool.true → ((0 : Int) ≤ (↑g : Int) ∧ (↑g : Int) < (↑(nat_lit 4) : Int)) ∧ ((L.cm a b c d g_1.1).n + nat_lit 1) * nat_lit 16 ≤ (140737488355328 : Nat) ∧ Go.SE.InK Go.IntKind.i64 ((↑g : Int) + (1 : Int)) ∧ ∃ (g' : Nat), (nat_lit 4 = (4 : Nat) ∧ ∀ (i : Nat), i < nat_lit 4 → [Go.SE.SV.int Go.IntKind.i64
 (L.pick4 a b c d i).x, Go.SE.SV.int Go.IntKind.i64 (L.pick4 a b c d i).y] = [Go.SE.SV.int Go.IntKind.i64 (L.pick4 a b c d i).x, Go.SE.SV.int Go.IntKind.i64 (L.pick4 a b c d i).y]) ∧ (↑g : Int) + (1 : Int) = (↑g' : Int) ∧ Go.SE.SV.ref [Go.SE.SV.int Go.IntKind.i64 d.x, Go.SE.SV.int Go.IntKind.i64 d.y] (nat_lit 0) = Go.SE.SV.ref [Go.SE.SV.int Go.IntKind.i64 d.x, Go.SE.SV.int Go.IntKind.i64 d.y]
 (nat_lit 0) ∧ Go.SE.SV.ref [Go.SE.SV.int Go.IntKind.i64 c.x, Go.SE.SV.int Go.IntKind.i64 c.y] (nat_lit 0) = Go.SE.SV.ref [Go.SE.SV.int Go.IntKind.i64 c.x, Go.SE.SV.int Go.IntKind.i64 c.y] (nat_lit 0) ∧ Go.SE.SV.ref [Go.SE.SV.int Go.IntKind.i64 b.x, Go.SE.SV.int Go.IntKind.i64 b.y] (nat_lit 0) = Go.SE.SV.ref [Go.SE.SV.int Go.IntKind.i64 b.x, Go.SE.SV.int Go.IntKind.i64 b.y] (nat_lit 0) ∧
 Go.SE.SV.ref [Go.SE.SV.int Go.IntKind.i64 a.x, Go.SE.SV.int Go.IntKind.i64 a.y] (nat_lit 0) = Go.SE.SV.ref [Go.SE.SV.int Go.IntKind.i64 a.x, Go.SE.SV.int Go.IntKind.i64 a.y] (nat_lit 0) ∧ ((L.cm a b c d g_1.1).n + nat_lit 1 = (L.cm a b c d g').n ∧ ∀ (i : Nat), i < (L.cm a b c d g_1.1).n + nat_lit 1 → Go.SE.appGet (L.cm a b c d g_1.1).n (fun (j : Nat) ↦ [Go.SE.SV.int Go.IntKind.i64 ((L.cm a b c d
 g_1.1).g j).x, Go.SE.SV.int Go.IntKind.i64 ((L.cm a b c d g_1.1).g j).y]) (fun (x : Nat) ↦ [Go.SE.SV.int Go.IntKind.i64 (L.pick4 a b c d (Int.toNat (↑g : Int))).x, Go.SE.SV.int Go.IntKind.i64 (L.pick4 a b c d (Int.toNat (↑g : Int))).y]) i = [Go.SE.SV.int Go.IntKind.i64 ((L.cm a b c d g').g i).x, Go.SE.SV.int Go.IntKind.i64 ((L.cm a b c d g').g i).y]) ∧ g' ≤ (4 : Nat) ∧ (4 : Nat) - g' < (4 : Nat) -
 g) ∧ ((!L.anyB g_1.2 fun (j : Nat) ↦ L.same ((L.cm a b c d g_1.1).g j) (L.pick4 a b c d g_1.1)) = Bool.false → Go.SE.InK Go.IntKind.i64 ((↑g : Int) + (1 : Int)) ∧ ∃ (g' : Nat), (nat_lit 4 = (4 : Nat) ∧ ∀ (i : Nat), i < nat_lit 4 → [Go.SE.SV.int Go.IntKind.i64 (L.pick4 a b c d i).x, Go.SE.SV.int Go.IntKind.i64 (L.pick4 a b c d i).y] = [Go.SE.SV.int Go.IntKind.i64 (L.pick4 a b c d i).x, Go.SE.SV.int
 Go.IntKind.i64 (L.pick4 a b c d i).y]) ∧ (↑g : Int) + (1 : Int) = (↑g' : Int) ∧ Go.SE.SV.ref [Go.SE.SV.int Go.IntKind.i64 d.x, Go.SE.SV.int Go.IntKind.i64 d.y] (nat_lit 0) = Go.SE.SV.ref [Go.SE.SV.int Go.IntKind.i64 d.x, Go.SE.SV.int Go.IntKind.i64 d.y] (nat_lit 0) ∧ Go.SE.SV.ref [Go.SE.SV.int Go.IntKind.i64 c.x, Go.SE.SV.int Go.IntKind.i64 c.y] (nat_lit 0) = Go.SE.SV.ref [Go.SE.SV.int
 Go.IntKind.i64 c.x, Go.SE.SV.int Go.IntKind.i64 c.y] (nat_lit 0) ∧ Go.SE.SV.ref [Go.SE.SV.int Go.IntKind.i64 b.x, Go.SE.SV.int Go.IntKind.i64 b.y] (nat_lit 0) = Go.SE.SV.ref [Go.SE.SV.int Go.IntKind.i64 b.x, Go.SE.SV.int Go.IntKind.i64 b.y] (nat_lit 0) ∧ Go.SE.SV.ref [Go.SE.SV.int Go.IntKind.i64 a.x, Go.SE.SV.int Go.IntKind.i64 a.y] (nat_lit 0) = Go.SE.SV.ref [Go.SE.SV.int Go.IntKind.i64 a.x,
 Go.SE.SV.int Go.IntKind.i64 a.y] (nat_lit 0) ∧ ((L.cm a b c d g_1.1).n = (L.cm a b c d g').n ∧ ∀ (i : Nat), i < (L.cm a b c d g_1.1).n → [Go.SE.SV.int Go.IntKind.i64 ((L.cm a b c d g_1.1).g i).x, Go.SE.SV.int Go.IntKind.i64 ((L.cm a b c d g_1.1).g i).y] = [Go.SE.SV.int Go.IntKind.i64 ((L.cm a b c d g').g i).x, Go.SE.SV.int Go.IntKind.i64 ((L.cm a b c d g').g i).y]) ∧ g' ≤ (4 : Nat) ∧ (4 : Nat) -
 g' < (4 : Nat) - g)))) ∧ (Decidable.decide ((↑g : Int) < (4 : Int)) = Bool.false → (Decidable.decide ((1 : Int) < (↑(L.cm a b c d g).n : Int)) = Bool.true → (3 : Int) = L.meet a b c d) ∧ (Decidable.decide ((1 : Int) < (↑(L.cm a b c d g).n : Int)) = Bool.false → (Decidable.decide ((↑(L.cm a b c d g).n : Int) = (1 : Int)) = Bool.true → (1 : Int) = L.meet a b c d) ∧ (Decidable.decide ((↑(L.cm a b c d
 g).n : Int) = (1 : Int)) = Bool.false → (L.bd a ∧ L.bd b ∧ L.bd c) ∧ True ∧ (L.bd a ∧ L.bd b ∧ L.bd d) ∧ True ∧ Go.SE.InK Go.IntKind.i64 (L.cmp (L.cross a b c) (0 : Int) * L.cmp (L.cross a b d) (0 : Int)) ∧ (Decidable.decide (L.cmp (L.cross a b c) (0 : Int) * L.cmp (L.cross a b d) (0 : Int) < (0 : Int)) = Bool.true → L.bd c ∧ L.bd d ∧ L.bd a) ∧ (Decidable.decide (L.cmp (L.cross a b c) (0 : Int) *
 L.cmp (L.cross a b d) (0 : Int) < (0 : Int)) = Bool.true → True) ∧ (Decidable.decide (L.cmp (L.cross a b c) (0 : Int) * L.cmp (L.cross a b d) (0 : Int) < (0 : Int)) = Bool.true → L.bd c ∧ L.bd d ∧ L.bd b) ∧ (Decidable.decide (L.cmp (L.cross a b c) (0 : Int) * L.cmp (L.cross a b d) (0 : Int) < (0 : Int)) = Bool.true → True) ∧ (Decidable.decide (L.cmp (L.cross a b c) (0 : Int) * L.cmp (L.cross a b
 d) (0 : Int) < (0 : Int)) = Bool.true → Go.SE.InK Go.IntKind.i64 (L.cmp (L.cross c d a) (0 : Int) * L.cmp (L.cross c d b) (0 : Int))) ∧ ((bif Decidable.decide (L.cmp (L.cross a b c) (0 : Int) * L.cmp (L.cross a b d) (0 : Int) < (0 : Int)) then Decidable.decide (L.cmp (L.cross c d a) (0 : Int) * L.cmp (L.cross c d b) (0 : Int) < (0 : Int)) else Bool.false) = Bool.true → (2 : Int) = L.meet a b c d)
 ∧ ((bif Decidable.decide (L.cmp (L.cross a b c) (0 : Int) * L.cmp (L.cross a b d) (0 : Int) < (0 : Int)) then Decidable.decide (L.cmp (L.cross c d a) (0 : Int) * L.cmp (L.cross c d b) (0 : Int) < (0 : Int)) else Bool.false) = Bool.false → (0 : Int) = L.meet a b c d))))) (by kernel_rfl) (by
    obtain ⟨ha, hb, hc, hd⟩ := hp
    have hp4 : ∀ i, L.bd (L.pick4 a b c d i) := fun i => by
      unfold L.pick4
      cases decide (i = 0) <;> cases decide (i = 1) <;> cases decide (i = 2) <;> assumption
    refine ⟨⟨(0 : Nat), ⟨rfl, fun i hi => by match i, hi with | 0, _ => rfl | 1, _ => rfl | 2, _ => rfl | 3, _ => rfl⟩, rfl, ⟨rfl, fun i hi => absurd hi (Nat.not_lt_zero _)⟩, by decide⟩, fun g hg => ⟨fun hlt => ?_, fun hge => ?_⟩⟩
    · have hb1 : (g : Int) < 4 := of_decide_eq_true hlt
      have e0 : ((g : Int)).toNat = g := by omega
      rw [e0]
      refine ⟨⟨by omega, hb1⟩, ⟨ha, hb, hp4 g⟩, fun _ => ⟨by omega, hb1⟩, fun _ => ⟨hc, hd, hp4 g⟩, fun h1 => ?_, fun h1 => ?_⟩
      · have hoff : L.onB a b c d (L.pick4 a b c d g) = false := by
          unfold L.onB
          revert h1
          cases L.on a b (L.pick4 a b c d g) <;> cases L.on c d (L.pick4 a b c d g) <;> intro h1 <;> first | rfl | cases h1
        have e : L.cm a b c d (g + 1) = L.cm a b c d g := by rw [L.cm, hoff]; rfl
        refine ⟨InK.of (by omega) (by omega), g + 1, ⟨rfl, fun _ _ => rfl⟩, by omega, rfl, rfl, rfl, rfl, ?_, by omega, by omega⟩
        rw [e]; exact ⟨rfl, fun _ _ => rfl⟩
      · have hon : L.onB a b c d (L.pick4 a b c d g) = true := by
          unfold L.onB
          revert h1
          cases L.on a b (L.pick4 a b c d g) <;> cases L.on c d (L.pick4 a b c d g) <;> intro h1 <;> first | rfl | cases h1
        refine ⟨⟨(g, 0), rfl, rfl, ⟨rfl, fun _ _ => rfl⟩, rfl, by show g < 4; omega, Nat.zero_le _⟩, ?_⟩
        rintro ⟨g', k⟩ ⟨e1, e2, e3⟩
        have e1 : (g : Int) = (g' : Int) := e1
        obtain rfl : g = g' := by omega
        have e3 : k ≤ (L.cm a b c d g).n := e3
        have ek : ((k : Int)).toNat = k := by omega
        have hcn := cm_n (a := a) (b := b) (c := c) (d := d) (i := g)
        dsimp only
        rw [ek]
        refine ⟨fun hlt2 => ?_, fun hge2 => ?_⟩
        · have hk : (k : Int) < ((L.cm a b c d g).n : Int) := of_decide_eq_true hlt2
          refine ⟨fun _ => ⟨by omega, hk⟩, fun _ => (show k < (L.cm a b c d g).n by omega), fun _ => ⟨by omega, hb1⟩, InK.of (by omega) (by omega), (g, k + 1), ?_, by show (k : Int) + 1 = ((k + 1 : Nat) : Int); omega, ⟨rfl, fun _ _ => rfl⟩, rfl, rfl, rfl, rfl, rfl, ⟨rfl, fun _ _ => rfl⟩, ⟨rfl, by show g < 4; omega, by show k + 1 ≤ (L.cm a b c d g).n; omega⟩, by show (L.cm a b c d g).n - (k + 1) < (L.cm a b c d g).n - k; omega⟩
          rw [bor]; rfl
        · have hk : ¬ (k : Int) < ((L.cm a b c d g).n : Int) := of_decide_eq_false hge2
          obtain rfl : k = (L.cm a b c d g).n := by omega
          have hhas : L.anyB (L.cm a b c d g).n (fun j => L.same ((L.cm a b c d g).g j) (L.pick4 a b c d g)) = L.has (L.cm a b c d g) (L.pick4 a b c d g) :=
            anyB_congr (fun i _ => same_sym _ _)
          rw [hhas]
          refine ⟨fun h2 => ?_, fun h2 => ?_⟩
          · have e : L.cm a b c d (g + 1) = ⟨(L.cm a b c d g).n + 1, fun i => if i < (L.cm a b c d g).n then (L.cm a b c d g).g i else L.pick4 a b c d g⟩ := by
              rw [L.cm, hon]
              show L.put _ _ = _
              unfold L.put; rw [notT h2]; rfl
            refine ⟨⟨by omega, hb1⟩, show ((L.cm a b c d g).n + 1) * 16 ≤ 140737488355328 by omega, InK.of (by omega) (by omega), g + 1, ⟨rfl, fun _ _ => rfl⟩, by omega, rfl, rfl, rfl, rfl, ?_, by omega, by omega⟩
            rw [e]
            refine ⟨rfl, fun i hi => ?_⟩
            unfold appGet
            dsimp only
            by_cases h' : i < (L.cm a b c d g).n
            · rw [if_pos h', if_pos h']
            · rw [if_neg h', if_neg h']
          · have e : L.cm a b c d (g + 1) = L.cm a b c d g := by
              rw [L.cm, hon]
              show L.put _ _ = _
              unfold L.put; rw [notF h2]; rfl
            refine ⟨InK.of (by omega) (by omega), g + 1, ⟨rfl, fun _ _ => rfl⟩, by omega, rfl, rfl, rfl, rfl, ?_, by omega, by omega⟩
            rw [e]; exact ⟨rfl, fun _ _ => rfl⟩
    · have hb1 : ¬ (g : Int) < 4 := of_decide_eq_false hge
      obtain rfl : g = 4 := by omega
      rw [cm_eq]
      have q1 := cmp_bd (L.cross a b c) 0
      have q2 := cmp_bd (L.cross a b d) 0
      have q3 := cmp_bd (L.cross c d a) 0
      have q4 := cmp_bd (L.cross c d b) 0
      have m1 := mul_bd (m := 1) (n := 1) q1.1 q1.2 q2.1 q2.2
      have m2 := mul_bd (m := 1) (n := 1) q3.1 q3.2 q4.1 q4.2
      refine ⟨fun h1 => ?_, fun h1 => ⟨fun h2 => ?_, fun h2 => ⟨⟨ha, hb, hc⟩, trivial, ⟨ha, hb, hd⟩, trivial, InK.of (by omega) (by omega), fun _ => ⟨hc, hd, ha⟩, fun _ => trivial, fun _ => ⟨hc, hd, hb⟩, fun _ => trivial, fun _ => InK.of (by omega) (by omega), fun h3 => ?_, fun h3 => ?_⟩⟩⟩
      · unfold L.meet; rw [h1]; rfl
      · unfold L.meet; rw [h1, h2]; rfl
      · have h3 : (bif L.apart a b c d then L.apart c d a b else false) = true := h3
        unfold L.meet; rw [h1, h2, h3]; rfl
      · have h3 : (bif L.apart a b c d then L.apart c d a b else false) = false := h3
        unfold L.meet; rw [h1, h2, h3]; rfl)
theorem r1_meet_ok : SpecOk Try.prog 132 r1_meet_S := fnX Try.func132 (c := bodyOf Try.f132) (by kernel_rfl) mixed (fun args p r hs hp => by
  unfold r1_meet_s at hs
  split at hs
  · cases hs; exact ⟨_, _, r1_meet_vc _ _ _ _ hp, (.same _ (.same _ (.same _ (.same _ .nil)))), ⟨show SpecsL Try.prog _ from (SpecsL.cons r1_On_ok r1_On_en (SpecsL.cons r1_Cross_ok r1_Cross_en (SpecsL.cons r1_sign_ok r1_sign_en SpecsL.nil))), rfl, ⟨show ItersL Try.prog _ from ItersL.nil, (TrsOk.none (fun _ => rfl))⟩⟩⟩
  · cases hs)
theorem r1_meet_en : Enters Try.prog 132 := fun args w => by kernel_rfl
theorem r1_meet_I : ∀ args p r, r1_meet_s args = some (p, r) → ∃ n, r = .int .i64 n := by
  intro args p r h
  unfold r1_meet_s at h
  split at h
  · cases h; exact ⟨_, rfl⟩
  · cases h
def r1_simple_p (l : (L.Sq L.Pt)) : Prop := L.allBd l
def r1_simple_r (l : (L.Sq L.Pt)) : SV := .bool (L.simple l)
def r1_simple_s : List EV → Option (Prop × SV)
  | [.p (.sl 2 l_n l_g)] => some ((∀ i, i < l_n → l_g i = [.int .i64 ((ofPt (l_g i)).x), .int .i64 ((ofPt (l_g i)).y)]) ∧ r1_simple_p (⟨l_n, fun i => ofPt (l_g i)⟩ : (L.Sq L.Pt)), r1_simple_r (⟨l_n, fun i => ofPt (l_g i)⟩ : (L.Sq L.Pt)))
  | _ => none
abbrev r1_simple_S : SE.Spec := (specO r1_simple_s)
def r1_simple_C : Cfg := { muts := [], frz := lookN [], specs := lookS [(92, r1_at_S), (132, r1_meet_S)], loops := fun _ => none, iters := lookI [], rfs := lookR [], nils := lookM [] }
theorem r1_simple_vc (l : (L.Sq L.Pt)) (hp : r1_simple_p l) : vc Try.prog ({ r1_simple_C with loops := lookL [(3, { T := Nat, keep := [0, 3], keepO := [], chg := fun i => [(4, .p (.int .i64 (i : Int)))], own := fun _ => [], inv := fun i => i ≤ l.n ∧ ∀ j, j < i → ∀ k, j < k → k < l.n → L.okPair l j k = true, mu := fun i => l.n - i }), (6, { T := Nat × Nat, keep := [0, 3, 4], keepO := [], tie := fun i => [(4, .int .i64 (i.1 : Int))], chg := fun i => [(5, .p (.int .i64 (i.2 : Int)))], own := fun _ => [], inv := fun i => i.1 < i.2 ∧ i.2 ≤ l.n ∧ (∀ j, j < i.1 → ∀ k, j < k → k < l.n → L.okPair l j k = true) ∧ ∀ k, i.1 < k → k < i.2 → L.okPair l i.1 k = true, mu := fun i => l.n - i.2 })], rfs := lookR [] }) (bodyOf Try.f88) (st0 Try.f88 [.p (.sl 2 l.n (fun i => [.int .i64 ((l.g i).x), .int .i64 ((l.g i).y)]))]) (retFn Try.prog Try.f88 (r1_simple_r l)) :=
  @Eq.mpr _ ((∃ (g : Nat), (0 : Int) = (↑g : Int) ∧ g ≤ l.n ∧ ∀ (j : Nat), j < g → ∀ (k : Nat), j < k → k < l.n → L.okPair l j k = Bool.true) ∧ ∀ (g : Nat), (g ≤ l.n ∧ ∀ (j : Nat), j < g → ∀ (k : Nat), j < k → k < l.n → L.okPair l j k = Bool.true) → (Decidable.decide ((↑g : Int) < (↑l.n : Int)) = Bool.true → Go.SE.InK Go.IntKind.i64 ((↑g : Int) + (1 : Int)) ∧ (∃ (g_1 : Nat × Nat), (↑g : Int) + (1 : Int) =
 (↑g_1.2 : Int) ∧ (↑g : Int) = (↑g_1.1 : Int) ∧ g_1.1 < g_1.2 ∧ g_1.2 ≤ l.n ∧ (∀ (j : Nat), j < g_1.1 → ∀ (k : Nat), j < k → k < l.n → L.okPair l j k = Bool.true) ∧ ∀ (k : Nat), g_1.1 < k → k < g_1.2 → L.okPair l g_1.1 k = Bool.true) ∧ ∀ (g_1 : Nat × Nat), ((↑g : Int) = (↑g_1.1 : Int) ∧ g_1.1 < g_1.2 ∧ g_1.2 ≤ l.n ∧ (∀ (j : Nat), j < g_1.1 → ∀ (k : Nat), j < k → k < l.n → L.okPair l j k =
 Bool.true) ∧ ∀ (k : Nat), g_1.1 < k → k < g_1.2 → L.okPair l g_1.1 k = Bool.true) → (Decidable.decide ((↑g_1.2 : Int) < (↑l.n : Int)) = Bool.true → ((∀ (i : Nat), i < l.n → [Go.SE.SV.int Go.IntKind.i64 (l.g i).x, Go.SE.SV.int Go.IntKind.i64 (l.g i).y] = [Go.SE.SV.int Go.IntKind.i64 (l.g i).x, Go.SE.SV.int Go.IntKind.i64 (l.g i).y]) ∧ (1 : Nat) ≤ l.n ∧ l.n ≤ (1000000 : Nat) ∧ (-1000000 : Int) ≤ (↑g
 : Int) ∧ (↑g : Int) ≤ (1000000 : Int)) ∧ Go.SE.InK Go.IntKind.i64 ((↑g : Int) + (1 : Int)) ∧ ((∀ (i : Nat), i < l.n → [Go.SE.SV.int Go.IntKind.i64 (l.g i).x, Go.SE.SV.int Go.IntKind.i64 (l.g i).y] = [Go.SE.SV.int Go.IntKind.i64 (l.g i).x, Go.SE.SV.int Go.IntKind.i64 (l.g i).y]) ∧ (1 : Nat) ≤ l.n ∧ l.n ≤ (1000000 : Nat) ∧ (-1000000 : Int) ≤ (↑g : Int) + (1 : Int) ∧ (↑g : Int) + (1 : Int) ≤ (1000000
 : Int)) ∧ ((∀ (i : Nat), i < l.n → [Go.SE.SV.int Go.IntKind.i64 (l.g i).x, Go.SE.SV.int Go.IntKind.i64 (l.g i).y] = [Go.SE.SV.int Go.IntKind.i64 (l.g i).x, Go.SE.SV.int Go.IntKind.i64 (l.g i).y]) ∧ (1 : Nat) ≤ l.n ∧ l.n ≤ (1000000 : Nat) ∧ (-1000000 : Int) ≤ (↑g_1.2 : Int) ∧ (↑g_1.2 : Int) ≤ (1000000 : Int)) ∧ Go.SE.InK Go.IntKind.i64 ((↑g_1.2 : Int) + (1 : Int)) ∧ ((∀ (i : Nat), i < l.n →
 [Go.SE.SV.int Go.IntKind.i64 (l.g i).x, Go.SE.SV.int Go.IntKind.i64 (l.g i).y] = [Go.SE.SV.int Go.IntKind.i64 (l.g i).x, Go.SE.SV.int Go.IntKind.i64 (l.g i).y]) ∧ (1 : Nat) ≤ l.n ∧ l.n ≤ (1000000 : Nat) ∧ (-1000000 : Int) ≤ (↑g_1.2 : Int) + (1 : Int) ∧ (↑g_1.2 : Int) + (1 : Int) ≤ (1000000 : Int)) ∧ (L.bd (l.g (L.ix l.n (↑g : Int))) ∧ L.bd (l.g (L.ix l.n ((↑g : Int) + (1 : Int)))) ∧ L.bd (l.g
 (L.ix l.n (↑g_1.2 : Int))) ∧ L.bd (l.g (L.ix l.n ((↑g_1.2 : Int) + (1 : Int))))) ∧ Go.SE.InK Go.IntKind.i64 ((↑g : Int) + (1 : Int)) ∧ ((!Decidable.decide ((↑g_1.2 : Int) = (↑g : Int) + (1 : Int)) && Decidable.decide ((↑g : Int) = (0 : Int))) = Bool.true → Go.SE.InK Go.IntKind.i64 ((↑l.n : Int) - (1 : Int))) ∧ ((bif bif bif Decidable.decide ((↑g_1.2 : Int) = (↑g : Int) + (1 : Int)) then Bool.true
 else bif Decidable.decide ((↑g : Int) = (0 : Int)) then Decidable.decide ((↑g_1.2 : Int) = (↑l.n : Int) - (1 : Int)) else Bool.false then !Decidable.decide (L.meet (l.g (L.ix l.n (↑g : Int))) (l.g (L.ix l.n ((↑g : Int) + (1 : Int)))) (l.g (L.ix l.n (↑g_1.2 : Int))) (l.g (L.ix l.n ((↑g_1.2 : Int) + (1 : Int)))) = (1 : Int)) else Bool.false then Bool.true else bif !bif Decidable.decide ((↑g_1.2 :
 Int) = (↑g : Int) + (1 : Int)) then Bool.true else bif Decidable.decide ((↑g : Int) = (0 : Int)) then Decidable.decide ((↑g_1.2 : Int) = (↑l.n : Int) - (1 : Int)) else Bool.false then !Decidable.decide (L.meet (l.g (L.ix l.n (↑g : Int))) (l.g (L.ix l.n ((↑g : Int) + (1 : Int)))) (l.g (L.ix l.n (↑g_1.2 : Int))) (l.g (L.ix l.n ((↑g_1.2 : Int) + (1 : Int)))) = (0 : Int)) else Bool.false) = Bool.true
 → Bool.false = L.simple l) ∧ ((bif bif bif Decidable.decide ((↑g_1.2 : Int) = (↑g : Int) + (1 : Int)) then Bool.true else bif Decidable.decide ((↑g : Int) = (0 : Int)) then Decidable.decide ((↑g_1.2 : Int) = (↑l.n : Int) - (1 : Int)) else Bool.false then !Decidable.decide (L.meet (l.g (L.ix l.n (↑g : Int))) (l.g (L.ix l.n ((↑g : Int) + (1 : Int)))) (l.g (L.ix l.n (↑g_1.2 : Int))) (l.g (L.ix l.n
 ((↑g_1.2 : Int) + (1 : Int)))) = (1 : Int)) else Bool.false then Bool.true else bif !bif Decidable.decide ((↑g_1.2 : Int) = (↑g : Int) + (1 : Int)) then Bool.true else bif Decidable.decide ((↑g : Int) = (0 : Int)) then Decidable.decide ((↑g_1.2 : Int) = (↑l.n : Int) - (1 : Int)) else Bool.false then !Decidable.decide (L.meet (l.g (L.ix l.n (↑g : Int))) (l.g (L.ix l.n ((↑g : Int) + (1 : Int))))
 (l.g (L.ix l.n (↑g_1.2 : Int))) (l.g (L.ix l.n ((↑g_1.2 : Int) + (1 : Int)))) = (0 : Int)) else Bool.false) = Bool.false → Go.SE.InK Go.IntKind.i64 ((↑g_1.2 : Int) + (1 : Int)) ∧ ∃ (g' : Nat × Nat), (↑g_1.2 : Int) + (1 : Int) = (↑g'.2 : Int) ∧ (↑g : Int) = (↑g : Int) ∧ (↑l.n : Int) = (↑l.n : Int) ∧ (l.n = l.n ∧ ∀ (i : Nat), i < l.n → [Go.SE.SV.int Go.IntKind.i64 (l.g i).x, Go.SE.SV.int
 Go.IntKind.i64 (l.g i).y] = [Go.SE.SV.int Go.IntKind.i64 (l.g i).x, Go.SE.SV.int Go.IntKind.i64 (l.g i).y]) ∧ ((↑g : Int) = (↑g'.1 : Int) ∧ g'.1 < g'.2 ∧ g'.2 ≤ l.n ∧ (∀ (j : Nat), j < g'.1 → ∀ (k : Nat), j < k → k < l.n → L.okPair l j k = Bool.true) ∧ ∀ (k : Nat), g'.1 < k → k < g'.2 → L.okPair l g'.1 k = Bool.true) ∧ l.n - g'.2 < l.n - g_1.2)) ∧ (Decidable.decide ((↑g_1.2 : Int) < (↑l.n : Int))
 = Bool.false → Go.SE.InK Go.IntKind.i64 ((↑g : Int) + (1 : Int)) ∧ ∃ (g' : Nat), (↑g : Int) + (1 : Int) = (↑g' : Int) ∧ (↑l.n : Int) = (↑l.n : Int) ∧ (l.n = l.n ∧ ∀ (i : Nat), i < l.n → [Go.SE.SV.int Go.IntKind.i64 (l.g i).x, Go.SE.SV.int Go.IntKind.i64 (l.g i).y] = [Go.SE.SV.int Go.IntKind.i64 (l.g i).x, Go.SE.SV.int Go.IntKind.i64 (l.g i).y]) ∧ (g' ≤ l.n ∧ ∀ (j : Nat), j < g' → ∀ (k : Nat), j <
 k → k < l.n → L.okPair l j k = Bool.true) ∧ l.n - g' < l.n - g)) ∧ (Decidable.decide ((↑g : Int) < (↑l.n : Int)) = Bool.false → Bool.true = L.simple l)) (by kernel_rfl) (by
    obtain ⟨hn, hb⟩ := hp
    have fin0 : ∀ {i k : Nat}, i < k → k < l.n → L.okPair l i k = false → false = L.simple l := fun {i k} hik hk h => by
      unfold L.simple
      rw [allB_false (i := i) (by omega) (allB_false (i := k) hk (by simp [hik, h]))]
    refine ⟨⟨(0 : Nat), rfl, Nat.zero_le _, fun j hj => absurd hj (Nat.not_lt_zero _)⟩, fun g hg => ⟨fun hlt => ?_, fun hge => ?_⟩⟩
    · have hb1 : (g : Int) < (l.n : Int) := of_decide_eq_true hlt
      refine ⟨InK.of (by omega) (by omega), ⟨(g, g + 1), by show (g : Int) + 1 = ((g + 1 : Nat) : Int); omega, rfl, Nat.lt_succ_self g, by show g + 1 ≤ l.n; omega, hg.2, fun k h1 h2 => ?_⟩, ?_⟩
      · have h1 : g < k := h1
        have h2 : k < g + 1 := h2
        omega
      rintro ⟨i, k⟩ ⟨e1, hik, hkn, h0, h1⟩
      have e1 : (g : Int) = (i : Int) := e1
      obtain rfl : g = i := by omega
      have hik : g < k := hik
      have hkn : k ≤ l.n := hkn
      have h0 : ∀ j, j < g → ∀ k, j < k → k < l.n → L.okPair l j k = true := h0
      have h1 : ∀ m, g < m → m < k → L.okPair l g m = true := h1
      dsimp only
      refine ⟨fun hlt2 => ?_, fun hge2 => ?_⟩
      · have hk : (k : Int) < (l.n : Int) := of_decide_eq_true hlt2
        have c5 : L.next l.n k < l.n := next_lt (by omega)
        have c2 : L.ix l.n ((g : Int) + 1) = g + 1 := by
          rw [show (g : Int) + 1 = ((g + 1 : Nat) : Int) by omega, ix_self (by omega)]
        rw [ix_self (n := l.n) (k := g) (by omega), c2, ix_self (n := l.n) (k := k) (by omega), ix_next (n := l.n) (k := k) (by omega)]
        have key : (bif (bif (bif decide ((k : Int) = (g : Int) + 1) then true else bif decide ((g : Int) = 0) then decide ((k : Int) = (l.n : Int) - 1) else false) then !decide (L.meet (l.g g) (l.g (g + 1)) (l.g k) (l.g (L.next l.n k)) = 1) else false) then true else bif !(bif decide ((k : Int) = (g : Int) + 1) then true else bif decide ((g : Int) = 0) then decide ((k : Int) = (l.n : Int) - 1) else false) then !decide (L.meet (l.g g) (l.g (g + 1)) (l.g k) (l.g (L.next l.n k)) = 0) else false) = !L.okPair l g k := by
          unfold L.okPair L.nxt L.how
          generalize (bif decide ((k : Int) = (g : Int) + 1) then true else bif decide ((g : Int) = 0) then decide ((k : Int) = (l.n : Int) - 1) else false) = q
          generalize decide (L.meet (l.g g) (l.g (g + 1)) (l.g k) (l.g (L.next l.n k)) = 1) = q1
          generalize decide (L.meet (l.g g) (l.g (g + 1)) (l.g k) (l.g (L.next l.n k)) = 0) = q2
          cases q <;> cases q1 <;> cases q2 <;> rfl
        rw [key]
        refine ⟨⟨fun _ _ => rfl, by omega, by omega, by omega, by omega⟩, InK.of (by omega) (by omega), ⟨fun _ _ => rfl, by omega, by omega, by omega, by omega⟩, ⟨fun _ _ => rfl, by omega, by omega, by omega, by omega⟩, InK.of (by omega) (by omega), ⟨fun _ _ => rfl, by omega, by omega, by omega, by omega⟩, ⟨hb g (by omega), hb (g + 1) (by omega), hb k (by omega), hb _ c5⟩, InK.of (by omega) (by omega), fun _ => InK.of (by omega) (by omega), fun h => fin0 hik (by omega) (notT h), fun h => ?_⟩
        have hok : L.okPair l g k = true := notF h
        refine ⟨InK.of (by omega) (by omega), (g, k + 1), by show (k : Int) + 1 = ((k + 1 : Nat) : Int); omega, rfl, rfl, ⟨rfl, fun _ _ => rfl⟩, ⟨rfl, by show g < k + 1; omega, by show k + 1 ≤ l.n; omega, h0, fun m hm1 hm2 => ?_⟩, by show l.n - (k + 1) < l.n - k; omega⟩
        have hm1 : g < m := hm1
        have hm2 : m < k + 1 := hm2
        show L.okPair l g m = true
        rcases Nat.lt_succ_iff_lt_or_eq.1 hm2 with h' | rfl
        · exact h1 m hm1 h'
        · exact hok
      · have hk : ¬ (k : Int) < (l.n : Int) := of_decide_eq_false hge2
        refine ⟨InK.of (by omega) (by omega), g + 1, by omega, rfl, ⟨rfl, fun _ _ => rfl⟩, ⟨by omega, fun j hj m hm1 hm2 => ?_⟩, by omega⟩
        rcases Nat.lt_succ_iff_lt_or_eq.1 hj with h' | rfl
        · exact h0 j h' m hm1 hm2
        · exact h1 m hm1 (by omega)
    · have hb1 : ¬ (g : Int) < (l.n : Int) := of_decide_eq_false hge
      unfold L.simple
      rw [allB_iff.2 (fun i hi => allB_iff.2 (fun k hk => ?_))]
      by_cases hik : i < k
      · simp [hik, hg.2 i (by omega) k hik hk]
      · simp [hik])
theorem r1_simple_ok : SpecOk Try.prog 88 r1_simple_S := fnX Try.func88 (c := bodyOf Try.f88) (by kernel_rfl) mixed (fun args p r hs hp => by
  unfold r1_simple_s at hs
  split at hs
  · cases hs; exact ⟨_, _, r1_simple_vc _ hp.2, (.p (.sl hp.1) .nil), ⟨show SpecsL Try.prog _ from (SpecsL.cons r1_at_ok r1_at_en (SpecsL.cons r1_meet_ok r1_meet_en SpecsL.nil)), rfl, ⟨show ItersL Try.prog _ from ItersL.nil, (TrsOk.none (fun _ => rfl))⟩⟩⟩
  · cases hs)
theorem r1_simple_en : Enters Try.prog 88 := fun args w => by kernel_rfl
theorem r1_simple_B : ∀ args p r, r1_simple_s args = some (p, r) → ∃ b, r = .bool b := by
  intro args p r h
  unfold r1_simple_s at h
  split at h
  · cases h; exact ⟨_, rfl⟩
  · cases h
def r1_ValidOutline_p (l : (L.Sq L.Pt)) : Prop := True
def r1_ValidOutline_r (l : (L.Sq L.Pt)) : SV := .bool (L.validOutline l)
def r1_ValidOutline_s : List EV → Option (Prop × SV)
  | [.p (.sl 2 l_n l_g)] => some ((∀ i, i < l_n → l_g i = [.int .i64 ((ofPt (l_g i)).x), .int .i64 ((ofPt (l_g i)).y)]) ∧ r1_ValidOutline_p (⟨l_n, fun i => ofPt (l_g i)⟩ : (L.Sq L.Pt)), r1_ValidOutline_r (⟨l_n, fun i => ofPt (l_g i)⟩ : (L.Sq L.Pt)))
  | _ => none
abbrev r1_ValidOutline_S : SE.Spec := (specO r1_ValidOutline_s)
def r1_ValidOutline_C : Cfg := { muts := [], frz := lookN [], specs := lookS [(87, r1_points_S), (88, r1_simple_S), (89, r1_sum_S), (90, r1_less_S), (92, r1_at_S), (91, r1_Cross_S)], loops := fun _ => none, iters := lookI [], rfs := lookR [], nils := lookM [] }
theorem r1_ValidOutline_vc (l : (L.Sq L.Pt)) (hp : r1_ValidOutline_p l) : vc Try.prog ({ r1_ValidOutline_C with loops := lookL [(4, { T := Nat, keep := [0], keepO := [], chg := fun i => [(3, .p (.int .i64 (i : Int)))], own := fun _ => [], inv := fun i => i ≤ l.n ∧ ∀ j, j < i → L.corner l j = true, mu := fun i => l.n - i })], rfs := lookR [] }) (bodyOf Try.f44) (st0 Try.f44 [.p (.sl 2 l.n (fun i => [.int .i64 ((l.g i).x), .int .i64 ((l.g i).y)]))]) (retFn Try.prog Try.f44 (r1_ValidOutline_r l)) :=
  @Eq.mpr _ (((!bif Decidable.decide ((↑l.n : Int) < (3 : Int)) then Bool.true else Decidable.decide ((24 : Int) < (↑l.n : Int))) = Bool.true → (∀ (i : Nat), i < l.n → [Go.SE.SV.int Go.IntKind.i64 (l.g i).x, Go.SE.SV.int Go.IntKind.i64 (l.g i).y] = [Go.SE.SV.int Go.IntKind.i64 (l.g i).x, Go.SE.SV.int Go.IntKind.i64 (l.g i).y]) ∧ l.n ≤ (1000000 : Nat)) ∧ ((!bif bif Decidable.decide ((↑l.n : Int) < (3 : Int))
 then Bool.true else Decidable.decide ((24 : Int) < (↑l.n : Int)) then Bool.true else !L.validPts (L.Sq.mk l.n fun (i : Nat) ↦ l.g i)) = Bool.true → (∀ (i : Nat), i < l.n → [Go.SE.SV.int Go.IntKind.i64 (l.g i).x, Go.SE.SV.int Go.IntKind.i64 (l.g i).y] = [Go.SE.SV.int Go.IntKind.i64 (l.g i).x, Go.SE.SV.int Go.IntKind.i64 (l.g i).y]) ∧ L.allBd (L.Sq.mk l.n fun (i : Nat) ↦ l.g i)) ∧ ((!bif bif bif
 Decidable.decide ((↑l.n : Int) < (3 : Int)) then Bool.true else Decidable.decide ((24 : Int) < (↑l.n : Int)) then Bool.true else !L.validPts (L.Sq.mk l.n fun (i : Nat) ↦ l.g i) then Bool.true else !L.simple (L.Sq.mk l.n fun (i : Nat) ↦ l.g i)) = Bool.true → (∀ (i : Nat), i < l.n → [Go.SE.SV.int Go.IntKind.i64 (l.g i).x, Go.SE.SV.int Go.IntKind.i64 (l.g i).y] = [Go.SE.SV.int Go.IntKind.i64 (l.g
 i).x, Go.SE.SV.int Go.IntKind.i64 (l.g i).y]) ∧ L.small (L.Sq.mk l.n fun (i : Nat) ↦ l.g i)) ∧ ((bif bif bif bif Decidable.decide ((↑l.n : Int) < (3 : Int)) then Bool.true else Decidable.decide ((24 : Int) < (↑l.n : Int)) then Bool.true else !L.validPts (L.Sq.mk l.n fun (i : Nat) ↦ l.g i) then Bool.true else !L.simple (L.Sq.mk l.n fun (i : Nat) ↦ l.g i) then Bool.true else Decidable.decide
 (L.areaTo (L.Sq.mk l.n fun (i : Nat) ↦ l.g i) l.n ≤ (0 : Int))) = Bool.true → Bool.false = L.validOutline l) ∧ ((bif bif bif bif Decidable.decide ((↑l.n : Int) < (3 : Int)) then Bool.true else Decidable.decide ((24 : Int) < (↑l.n : Int)) then Bool.true else !L.validPts (L.Sq.mk l.n fun (i : Nat) ↦ l.g i) then Bool.true else !L.simple (L.Sq.mk l.n fun (i : Nat) ↦ l.g i) then Bool.true else
 Decidable.decide (L.areaTo (L.Sq.mk l.n fun (i : Nat) ↦ l.g i) l.n ≤ (0 : Int))) = Bool.false → (∃ (g : Nat), (0 : Int) = (↑g : Int) ∧ g ≤ l.n ∧ ∀ (j : Nat), j < g → L.corner l j = Bool.true) ∧ ∀ (g : Nat), (g ≤ l.n ∧ ∀ (j : Nat), j < g → L.corner l j = Bool.true) → (Decidable.decide ((↑g : Int) < (↑l.n : Int)) = Bool.true → (Decidable.decide ((0 : Int) < (↑g : Int)) = Bool.true → (0 : Int) ≤ (0 :
 Int) ∧ (0 : Int) < (↑l.n : Int)) ∧ (Decidable.decide ((0 : Int) < (↑g : Int)) = Bool.true → (0 : Int) ≤ (↑g : Int) ∧ (↑g : Int) < (↑l.n : Int)) ∧ (Decidable.decide ((0 : Int) < (↑g : Int)) = Bool.true → True) ∧ ((!bif Decidable.decide ((0 : Int) < (↑g : Int)) then !Decidable.decide (L.cmpPt (l.g (Int.toNat (0 : Int))) (l.g (Int.toNat (↑g : Int))) < (0 : Int)) else Bool.false) = Bool.true →
 Go.SE.InK Go.IntKind.i64 ((↑g : Int) - (1 : Int))) ∧ ((!bif Decidable.decide ((0 : Int) < (↑g : Int)) then !Decidable.decide (L.cmpPt (l.g (Int.toNat (0 : Int))) (l.g (Int.toNat (↑g : Int))) < (0 : Int)) else Bool.false) = Bool.true → (∀ (i : Nat), i < l.n → [Go.SE.SV.int Go.IntKind.i64 (l.g i).x, Go.SE.SV.int Go.IntKind.i64 (l.g i).y] = [Go.SE.SV.int Go.IntKind.i64 (l.g i).x, Go.SE.SV.int
 Go.IntKind.i64 (l.g i).y]) ∧ (1 : Nat) ≤ l.n ∧ l.n ≤ (1000000 : Nat) ∧ (-1000000 : Int) ≤ (↑g : Int) - (1 : Int) ∧ (↑g : Int) - (1 : Int) ≤ (1000000 : Int)) ∧ ((!bif Decidable.decide ((0 : Int) < (↑g : Int)) then !Decidable.decide (L.cmpPt (l.g (Int.toNat (0 : Int))) (l.g (Int.toNat (↑g : Int))) < (0 : Int)) else Bool.false) = Bool.true → (0 : Int) ≤ (↑g : Int) ∧ (↑g : Int) < (↑l.n : Int)) ∧
 ((!bif Decidable.decide ((0 : Int) < (↑g : Int)) then !Decidable.decide (L.cmpPt (l.g (Int.toNat (0 : Int))) (l.g (Int.toNat (↑g : Int))) < (0 : Int)) else Bool.false) = Bool.true → Go.SE.InK Go.IntKind.i64 ((↑g : Int) + (1 : Int))) ∧ ((!bif Decidable.decide ((0 : Int) < (↑g : Int)) then !Decidable.decide (L.cmpPt (l.g (Int.toNat (0 : Int))) (l.g (Int.toNat (↑g : Int))) < (0 : Int)) else
 Bool.false) = Bool.true → (∀ (i : Nat), i < l.n → [Go.SE.SV.int Go.IntKind.i64 (l.g i).x, Go.SE.SV.int Go.IntKind.i64 (l.g i).y] = [Go.SE.SV.int Go.IntKind.i64 (l.g i).x, Go.SE.SV.int Go.IntKind.i64 (l.g i).y]) ∧ (1 : Nat) ≤ l.n ∧ l.n ≤ (1000000 : Nat) ∧ (-1000000 : Int) ≤ (↑g : Int) + (1 : Int) ∧ (↑g : Int) + (1 : Int) ≤ (1000000 : Int)) ∧ ((!bif Decidable.decide ((0 : Int) < (↑g : Int)) then
 !Decidable.decide (L.cmpPt (l.g (Int.toNat (0 : Int))) (l.g (Int.toNat (↑g : Int))) < (0 : Int)) else Bool.false) = Bool.true → L.bd (l.g (L.ix l.n ((↑g : Int) - (1 : Int)))) ∧ L.bd (l.g (Int.toNat (↑g : Int))) ∧ L.bd (l.g (L.ix l.n ((↑g : Int) + (1 : Int))))) ∧ ((bif bif Decidable.decide ((0 : Int) < (↑g : Int)) then !Decidable.decide (L.cmpPt (l.g (Int.toNat (0 : Int))) (l.g (Int.toNat (↑g :
 Int))) < (0 : Int)) else Bool.false then Bool.true else Decidable.decide (L.cross (l.g (L.ix l.n ((↑g : Int) - (1 : Int)))) (l.g (Int.toNat (↑g : Int))) (l.g (L.ix l.n ((↑g : Int) + (1 : Int)))) = (0 : Int))) = Bool.true → Bool.false = L.validOutline l) ∧ ((bif bif Decidable.decide ((0 : Int) < (↑g : Int)) then !Decidable.decide (L.cmpPt (l.g (Int.toNat (0 : Int))) (l.g (Int.toNat (↑g : Int))) <
 (0 : Int)) else Bool.false then Bool.true else Decidable.decide (L.cross (l.g (L.ix l.n ((↑g : Int) - (1 : Int)))) (l.g (Int.toNat (↑g : Int))) (l.g (L.ix l.n ((↑g : Int) + (1 : Int)))) = (0 : Int))) = Bool.false → Go.SE.InK Go.IntKind.i64 ((↑g : Int) + (1 : Int)) ∧ ∃ (g' : Nat), (↑g : Int) + (1 : Int) = (↑g' : Int) ∧ (l.n = l.n ∧ ∀ (i : Nat), i < l.n → [Go.SE.SV.int Go.IntKind.i64 (l.g i).x,
 Go.SE.SV.int Go.IntKind.i64 (l.g i).y] = [Go.SE.SV.int Go.IntKind.i64 (l.g i).x, Go.SE.SV.int Go.IntKind.i64 (l.g i).y]) ∧ (g' ≤ l.n ∧ ∀ (j : Nat), j < g' → L.corner l j = Bool.true) ∧ l.n - g' < l.n - g)) ∧ (Decidable.decide ((↑g : Int) < (↑l.n : Int)) = Bool.false → Bool.true = L.validOutline l))) (by kernel_rfl) (by
    have c1 : (bif decide ((l.n : Int) < 3) then true else decide (24 < (l.n : Int))) = !L.within (l.n : Int) 3 24 := by
      rw [bor, Bool.eq_iff_iff, Bool.or_eq_true, decide_eq_true_eq, decide_eq_true_eq, Bool.not_eq_true', Bool.eq_false_iff, Ne, within_iff]
      omega
    rw [c1]
    have sp : L.within (l.n : Int) 3 24 = true → L.validPts l = true → 3 ≤ l.n ∧ l.n ≤ 24 ∧ L.small l ∧ L.allBd l := valid3_spec
    refine ⟨fun h => ⟨fun _ _ => rfl, ?_⟩, fun h => ⟨fun _ _ => rfl, ?_⟩, fun h => ⟨fun _ _ => rfl, ?_⟩, fun h => ?_, fun h => ?_⟩
    · have := within_iff.1 (notF (notT h)); omega
    · have h := notT h
      rw [bor, Bool.or_eq_false_iff] at h
      exact (sp (notF h.1) (notF h.2)).2.2.2
    · have h := notT h
      rw [bor, bor, Bool.or_eq_false_iff, Bool.or_eq_false_iff] at h
      exact (sp (notF h.1.1) (notF h.1.2)).2.2.1
    · have h : (bif bif bif !L.within (l.n : Int) 3 24 then true else !L.validPts l then true else !L.simple l then true else decide (L.areaTo l l.n ≤ 0)) = true := h
      have e3 : L.valid3 l = false ∨ L.simple l = false := by
        rw [bor, bor, bor, Bool.or_eq_true, Bool.or_eq_true, Bool.or_eq_true] at h
        unfold L.valid3
        rcases h with ((h | h) | h) | h
        · rw [notT h]; exact .inl rfl
        · rw [notT h]; left; cases L.within (l.n : Int) 3 24 <;> rfl
        · exact .inr (notT h)
        · left
          have := of_decide_eq_true h
          rw [decide_eq_false (show ¬ 0 < L.areaTo l l.n by omega)]
          cases L.within (l.n : Int) 3 24 <;> cases L.validPts l <;> rfl
      unfold L.validOutline
      rcases e3 with e3 | e3 <;> rw [e3] <;> simp
    have h : (bif bif bif !L.within (l.n : Int) 3 24 then true else !L.validPts l then true else !L.simple l then true else decide (L.areaTo l l.n ≤ 0)) = false := h
    rw [bor, bor, bor, Bool.or_eq_false_iff, Bool.or_eq_false_iff, Bool.or_eq_false_iff] at h
    obtain ⟨⟨⟨h1, h2⟩, h3⟩, h4⟩ := h
    have h1 := notF h1
    have h2 := notF h2
    have h3 := notF h3
    have h4 := of_decide_eq_false h4
    obtain ⟨n3, n24, hsm, hbd⟩ := sp h1 h2
    have hv : L.valid3 l = true := by
      unfold L.valid3; rw [h1, h2, decide_eq_true (show 0 < L.areaTo l l.n by omega)]; rfl
    refine ⟨⟨(0 : Nat), rfl, Nat.zero_le _, fun j hj => absurd hj (Nat.not_lt_zero _)⟩, fun g hg => ⟨fun hlt => ?_, fun hge => ?_⟩⟩
    · have hb : (g : Int) < (l.n : Int) := of_decide_eq_true hlt
      have hk : g < l.n := by omega
      have e0 : ((g : Int)).toNat = g := by omega
      have key := corner_eq (l := l) (k := g)
      rw [e0, ix_prev hk, ix_next hk]
      refine ⟨fun _ => by omega, fun _ => by omega, fun _ => trivial, fun _ => InK.of (by omega) (by omega), fun _ => ⟨fun _ _ => rfl, by omega, by omega, by omega, by omega⟩, fun _ => by omega, fun _ => InK.of (by omega) (by omega), fun _ => ⟨fun _ _ => rfl, by omega, by omega, by omega, by omega⟩, fun _ => ⟨hbd.2 _ (prev_lt (by omega)), hbd.2 _ hk, hbd.2 _ (next_lt (by omega))⟩, fun h => ?_, fun h => ?_⟩
      · have h : L.corner l g = false := notT (key.symm.trans h)
        unfold L.validOutline
        rw [allB_false hk h]; simp
      · have h : L.corner l g = true := notF (key.symm.trans h)
        exact ⟨InK.of (by omega) (by omega), g + 1, by omega, ⟨rfl, fun _ _ => rfl⟩, ⟨by omega, fun j hj => by
          rcases Nat.lt_succ_iff_lt_or_eq.1 hj with h' | rfl
          · exact hg.2 j h'
          · exact h⟩, by omega⟩
    · have hb : ¬ (g : Int) < (l.n : Int) := of_decide_eq_false hge
      unfold L.validOutline
      rw [hv, allB_iff.2 (fun i hi => hg.2 i (by omega)), h3]; rfl)
theorem r1_ValidOutline_ok : SpecOk Try.prog 44 r1_ValidOutline_S := fnX Try.func44 (c := bodyOf Try.f44) (by kernel_rfl) mixed (fun args p r hs hp => by
  unfold r1_ValidOutline_s at hs
  split at hs
  · cases hs; exact ⟨_, _, r1_ValidOutline_vc _ hp.2, (.p (.sl hp.1) .nil), ⟨show SpecsL Try.prog _ from (SpecsL.cons r1_points_ok r1_points_en (SpecsL.cons r1_simple_ok r1_simple_en (SpecsL.cons r1_sum_ok r1_sum_en (SpecsL.cons r1_less_ok r1_less_en (SpecsL.cons r1_at_ok r1_at_en (SpecsL.cons r1_Cross_ok r1_Cross_en SpecsL.nil)))))), rfl, ⟨show ItersL Try.prog _ from ItersL.nil, (TrsOk.none (fun _ => rfl))⟩⟩⟩
  · cases hs)
theorem r1_ValidOutline_en : Enters Try.prog 44 := fun args w => by kernel_rfl
theorem r1_ValidOutline_B : ∀ args p r, r1_ValidOutline_s args = some (p, r) → ∃ b, r = .bool b := by
  intro args p r h
  unfold r1_ValidOutline_s at h
  split at h
  · cases h; exact ⟨_, rfl⟩
  · cases h
end Go.Proofs.Ytipaekbdalahdaa

namespace Go.Proofs.Ytipaekbdalahdaa
open Go.SE Go.RowKit
set_option maxRecDepth 100000
set_option maxHeartbeats 4000000
set_option linter.unusedVariables false
attribute [local irreducible] Go.SE.vc

def L.bendR (l : L.Sq L.Pt) (i : Int) : Int := bif decide (0 < L.cross (l.g (L.ix l.n (i - 1))) (l.g (L.ix l.n i)) (l.g (L.ix l.n (i + 1)))) then 1 else -1
def L.measR (l : L.Sq L.Pt) (s : L.Setting) (i : Int) : L.Meas :=
  bif s.back then ⟨L.dist (l.g (L.ix l.n (s.shift - i))) (l.g (L.ix l.n (s.shift - i + 1))), L.dist (l.g (L.ix l.n (s.shift - i - 1))) (l.g (L.ix l.n (s.shift - i + 1))), L.bendR l (s.shift - i)⟩
  else ⟨L.dist (l.g (L.ix l.n (s.shift + i))) (l.g (L.ix l.n (s.shift + i + 1))), L.dist (l.g (L.ix l.n (s.shift + i))) (l.g (L.ix l.n (s.shift + i + 2))), L.bendR l (s.shift + i + 1)⟩
def L.wSpan (s : L.Span) (least by_ : Int) : L.Span := ⟨max least (s.lo - by_), min 33554432 (s.hi + by_)⟩
def L.widen (g : L.Gauge) (by_ : Int) : L.Gauge := ⟨L.wSpan g.edge 1 by_, L.wSpan g.across 0 by_, g.bend⟩
def L.wid (l : L.Sq L.Gauge) (by_ : Int) (i k : Nat) : L.Gauge := bif decide (k < i) then L.widen (l.g k) by_ else l.g k
def L.wBad (l : L.Sq L.Gauge) (by_ : Int) : Bool := bif !L.gauges l then true else !L.within by_ 0 33554432
def L.wN (l : L.Sq L.Gauge) (by_ : Int) : Nat := bif L.wBad l by_ then 0 else l.n
def L.sameG (a b : L.Gauge) : Bool := (decide (a.edge.lo = b.edge.lo) && decide (a.edge.hi = b.edge.hi)) && ((decide (a.across.lo = b.across.lo) && decide (a.across.hi = b.across.hi)) && decide (a.bend = b.bend))
def L.sameGs (a b : L.Sq L.Gauge) : Bool := bif decide ((a.n : Int) = b.n) then L.allB a.n (fun i => L.sameG (a.g i) (b.g i)) else false
theorem ix_emod {n : Nat} {a : Int} (h : 0 < n) : ((L.ix n a : Nat) : Int) = a % (n : Int) := by
  obtain ⟨q1, q2, q3, q4⟩ := ix_bd (i := a) h
  unfold L.ix
  rw [Int.toNat_of_nonneg q3, Int.tmod_eq_emod_of_nonneg q1, Int.add_emod_right]
  have := Int.tmod_add_mul_tdiv a (n : Int)
  conv => rhs; rw [← this]
  rw [Int.add_mul_emod_self_left]
theorem ix_congr {n : Nat} {a b : Int} (hn : 0 < n) (h : a % (n : Int) = b % (n : Int)) (c : Int) : L.ix n (a + c) = L.ix n (b + c) := by
  have h1 := ix_emod (a := a + c) hn
  have h2 := ix_emod (a := b + c) hn
  rw [← Int.emod_add_emod, h, Int.emod_add_emod] at h1
  omega
theorem ix_ix {n : Nat} {a : Int} (hn : 0 < n) (c : Int) : L.ix n (((L.ix n a : Nat) : Int) + c) = L.ix n (a + c) :=
  ix_congr hn (by rw [ix_emod hn, Int.emod_emod]) c
theorem pt_ix {l : L.Sq L.Pt} {a : Int} (hn : 0 < l.n) (h : 0 ≤ a + (l.n : Int)) : L.pt l a = l.g (L.ix l.n a) := by
  unfold L.pt
  have h1 := ix_emod (a := a) hn
  rw [Int.tmod_eq_emod_of_nonneg h, Int.add_emod_right, ← h1, Int.toNat_natCast]
theorem outline_all {l : L.Sq L.Pt} (hv : L.validOutline l = true) : (∀ i, i < l.n → L.validPt (l.g i) = true) ∧ ∀ i, i < l.n → L.cross (l.g (L.prev l.n i)) (l.g i) (l.g (L.next l.n i)) ≠ 0 := by
  unfold L.validOutline at hv
  rw [Bool.and_eq_true, Bool.and_eq_true] at hv
  constructor
  · have h := hv.1
    unfold L.valid3 at h
    cases h2 : L.validPts l with
    | true => exact allB_iff.1 h2
    | false =>
      rw [h2] at h
      revert h
      cases L.within (l.n : Int) 3 24 <;> intro h <;> cases h
  · intro i hi e
    have h := allB_iff.1 hv.2.1 i hi
    unfold L.corner at h
    rw [decide_eq_true e] at h
    cases h
theorem bend_ix {l : L.Sq L.Pt} (hv : L.validOutline l = true) (a : Int) : L.bend l (L.ix l.n a) = L.bendR l a := by
  have hn := (validOutline_of hv).1
  have hk := ix_lt (n := l.n) (i := a) (by omega)
  have hc := (outline_all hv).2 _ hk
  unfold L.bend L.bendR
  have e1 : L.prev l.n (L.ix l.n a) = L.ix l.n (a - 1) := by
    rw [← ix_prev hk, show ((L.ix l.n a : Nat) : Int) - 1 = ((L.ix l.n a : Nat) : Int) + -1 by omega, ix_ix (by omega)]; rfl
  have e2 : L.next l.n (L.ix l.n a) = L.ix l.n (a + 1) := by
    rw [← ix_next hk, ix_ix (by omega)]
  rw [e1, e2] at hc ⊢
  generalize L.cross (l.g (L.ix l.n (a - 1))) (l.g (L.ix l.n a)) (l.g (L.ix l.n (a + 1))) = q at hc ⊢
  unfold L.cmp
  by_cases h : 0 < q
  · rw [decide_eq_true h, decide_eq_false (by omega)]; rfl
  · rw [decide_eq_false h, decide_eq_true (show q < 0 by omega)]; rfl
theorem sq_ix {l : L.Sq L.Pt} (hv : L.validOutline l = true) {a b : Int} (ha : 0 ≤ a + (l.n : Int)) (hb : 0 ≤ b + (l.n : Int)) : L.sq l a b = L.dist (l.g (L.ix l.n a)) (l.g (L.ix l.n b)) := by
  have hn := (validOutline_of hv).1
  unfold L.sq
  rw [pt_ix (by omega) ha, pt_ix (by omega) hb, (outline_all hv).1 _ (ix_lt (by omega)), (outline_all hv).1 _ (ix_lt (by omega))]; rfl
theorem meas_eq {l : L.Sq L.Pt} {s : L.Setting} {i : Nat} (hv : L.validOutline l = true) (h1 : 0 ≤ s.shift) (h2 : s.shift < (l.n : Int)) (hi : i < l.n) : L.meas l s i = L.measR l s (i : Int) := by
  have hn : 0 < l.n := by have := (validOutline_of hv).1; omega
  unfold L.meas L.measR
  cases s.back with
  | false =>
    have hK0 := Int.tmod_nonneg (l.n : Int) (show 0 ≤ s.shift + (i : Int) by omega)
    have hK1 := Int.tmod_lt_of_pos (s.shift + (i : Int)) (show 0 < (l.n : Int) by omega)
    have hK : L.kF l s i % (l.n : Int) = (s.shift + (i : Int)) % (l.n : Int) := by
      unfold L.kF; rw [Int.tmod_eq_emod_of_nonneg (by omega), Int.emod_emod]
    have hk0 : 0 ≤ L.kF l s i := hK0
    have e0 : L.ix l.n (L.kF l s i) = L.ix l.n (s.shift + (i : Int)) := by
      have := ix_congr hn hK 0
      rwa [Int.add_zero, Int.add_zero] at this
    have e3 : (Int.tmod (L.kF l s i + 1) (l.n : Int)).toNat = L.ix l.n (s.shift + (i : Int) + 1) := by
      rw [← ix_congr hn hK 1]
      have := ix_emod (a := L.kF l s i + 1) hn
      rw [Int.tmod_eq_emod_of_nonneg (by omega), ← this, Int.toNat_natCast]
    simp only [cond_false]
    rw [sq_ix hv (by omega) (by omega), sq_ix hv (by omega) (by omega), e0, ix_congr hn hK 1, ix_congr hn hK 2, e3, bend_ix hv]
  | true =>
    have hK0 := Int.tmod_nonneg (l.n : Int) (show 0 ≤ s.shift + (l.n : Int) - (i : Int) by omega)
    have hK1 := Int.tmod_lt_of_pos (s.shift + (l.n : Int) - (i : Int)) (show 0 < (l.n : Int) by omega)
    have hK : L.kB l s i % (l.n : Int) = (s.shift - (i : Int)) % (l.n : Int) := by
      unfold L.kB
      rw [Int.tmod_eq_emod_of_nonneg (by omega), Int.emod_emod, show s.shift + (l.n : Int) - (i : Int) = s.shift - (i : Int) + (l.n : Int) by omega, Int.add_emod_right]
    have hk0 : 0 ≤ L.kB l s i := hK0
    have hk1 : L.kB l s i < (l.n : Int) := hK1
    have e0 : L.ix l.n (L.kB l s i) = L.ix l.n (s.shift - (i : Int)) := by
      have := ix_congr hn hK 0
      rwa [Int.add_zero, Int.add_zero] at this
    have e3 : (L.kB l s i).toNat = L.ix l.n (s.shift - (i : Int)) := by
      rw [← e0]
      have := ix_self (n := l.n) (k := (L.kB l s i).toNat) (by omega)
      rw [Int.toNat_of_nonneg hk0] at this
      exact this.symm
    simp only [cond_true]
    rw [sq_ix hv (by omega) (by omega), sq_ix hv (by omega) (by omega), e0, ix_congr hn hK 1, show L.kB l s i - 1 = L.kB l s i + -1 by omega, ix_congr hn hK (-1), e3, bend_ix hv]
    rfl
theorem gauge_ok {l : L.Sq L.Gauge} (h : L.gauges l = true) : (3 ≤ l.n ∧ l.n ≤ 24) ∧ ∀ i, i < l.n → 1 ≤ (l.g i).edge.lo ∧ (l.g i).edge.lo ≤ (l.g i).edge.hi ∧ (l.g i).edge.hi ≤ 33554432 ∧ 0 ≤ (l.g i).across.lo ∧ (l.g i).across.lo ≤ (l.g i).across.hi ∧ (l.g i).across.hi ≤ 33554432 ∧ -1 ≤ (l.g i).bend ∧ (l.g i).bend ≤ 1 := by
  unfold L.gauges at h
  rw [band, Bool.and_eq_true, within_iff, allB_iff] at h
  refine ⟨by omega, fun i hi => ?_⟩
  have := h.2 i hi
  unfold L.vGauge L.vSpan at this
  simp only [band, Bool.and_eq_true, decide_eq_true_eq, within_iff] at this
  omega
theorem sameG_refl (a : L.Gauge) : L.sameG a a = true := by simp [L.sameG]
theorem sameGs_refl (a : L.Sq L.Gauge) : L.sameGs a a = true := by
  unfold L.sameGs
  rw [decide_eq_true rfl, allB_iff.2 (fun i _ => sameG_refl (a.g i))]; rfl
def r3_at_p (l : (L.Sq L.Pt)) (i : Int) : Prop := 1 ≤ l.n ∧ l.n ≤ 1000000 ∧ -1000000 ≤ i ∧ i ≤ 1000000
def r3_at_r (l : (L.Sq L.Pt)) (i : Int) : SV := (.agg [.int .i64 ((l.g (L.ix l.n i)).x), .int .i64 ((l.g (L.ix l.n i)).y)])
def r3_at_s : List EV → Option (Prop × SV)
  | [.p (.sl 2 l_n l_g), .p (.int .i64 i)] => some ((∀ i, i < l_n → l_g i = [.int .i64 ((ofPt (l_g i)).x), .int .i64 ((ofPt (l_g i)).y)]) ∧ r3_at_p (⟨l_n, fun i => ofPt (l_g i)⟩ : (L.Sq L.Pt)) i, r3_at_r (⟨l_n, fun i => ofPt (l_g i)⟩ : (L.Sq L.Pt)) i)
  | _ => none
abbrev r3_at_S : SE.Spec := (specO r3_at_s)
def r3_at_C : Cfg := { muts := [], frz := lookN [], specs := lookS [], loops := lookL [], iters := lookI [], rfs := lookR [], nils := lookM [] }
theorem r3_at_vc (l : (L.Sq L.Pt)) (i : Int) (hp : r3_at_p l i) : vc Try.prog (r3_at_C) (bodyOf Try.f124) (st0 Try.f124 [.p (.sl 2 l.n (fun i => [.int .i64 ((l.g i).x), .int .i64 ((l.g i).y)])), .p (.int .i64 i)]) (retFn Try.prog Try.f124 (r3_at_r l i)) :=
  @Eq.mpr _ ((↑l.n : Int) ≠ (0 : Int) ∧ Go.SE.InK Go.IntKind.i64 (Int.tmod i (↑l.n : Int) + (↑l.n : Int)) ∧ (↑l.n : Int) ≠ (0 : Int) ∧ ((0 : Int) ≤ Int.tmod (Int.tmod i (↑l.n : Int) + (↑l.n : Int)) (↑l.n : Int) ∧ Int.tmod (Int.tmod i (↑l.n : Int) + (↑l.n : Int)) (↑l.n : Int) < (↑l.n : Int)) ∧ Go.SE.SV.agg [Go.SE.SV.int Go.IntKind.i64 (l.g (Int.toNat (Int.tmod (Int.tmod i (↑l.n : Int) + (↑l.n : Int)) (↑l.n :
 Int)))).x, Go.SE.SV.int Go.IntKind.i64 (l.g (Int.toNat (Int.tmod (Int.tmod i (↑l.n : Int) + (↑l.n : Int)) (↑l.n : Int)))).y] = Go.SE.SV.agg [Go.SE.SV.int Go.IntKind.i64 (l.g (L.ix l.n i)).x, Go.SE.SV.int Go.IntKind.i64 (l.g (L.ix l.n i)).y]) (by kernel_rfl) (by
    obtain ⟨h1, h2, h3, h4⟩ := hp
    obtain ⟨q1, q2, q3, q4⟩ := ix_bd (n := l.n) (i := i) (by omega)
    exact ⟨by omega, InK.of (by omega) (by omega), by omega, ⟨q3, q4⟩, rfl⟩)
theorem r3_at_ok : SpecOk Try.prog 124 r3_at_S := fnX Try.func124 (c := bodyOf Try.f124) (by kernel_rfl) mixed (fun args p r hs hp => by
  unfold r3_at_s at hs
  split at hs
  · cases hs; exact ⟨_, _, r3_at_vc _ _ hp.2, (.p (.sl hp.1) (.same _ .nil)), ⟨show SpecsL Try.prog _ from SpecsL.nil, rfl, ⟨show ItersL Try.prog _ from ItersL.nil, (TrsOk.none (fun _ => rfl))⟩⟩⟩
  · cases hs)
theorem r3_at_en : Enters Try.prog 124 := fun args w => by kernel_rfl
def r3_bend_p (l : (L.Sq L.Pt)) (i : Int) : Prop := L.allBd l ∧ 1 ≤ l.n ∧ -100000 ≤ i ∧ i ≤ 100000
def r3_bend_r (l : (L.Sq L.Pt)) (i : Int) : SV := .int .i64 (L.bendR l i)
def r3_bend_s : List EV → Option (Prop × SV)
  | [.p (.sl 2 l_n l_g), .p (.int .i64 i)] => some ((∀ i, i < l_n → l_g i = [.int .i64 ((ofPt (l_g i)).x), .int .i64 ((ofPt (l_g i)).y)]) ∧ r3_bend_p (⟨l_n, fun i => ofPt (l_g i)⟩ : (L.Sq L.Pt)) i, r3_bend_r (⟨l_n, fun i => ofPt (l_g i)⟩ : (L.Sq L.Pt)) i)
  | _ => none
abbrev r3_bend_S : SE.Spec := (specO r3_bend_s)
def r3_bend_C : Cfg := { muts := [], frz := lookN [], specs := lookS [(124, r3_at_S), (91, r1_Cross_S)], loops := lookL [], iters := lookI [], rfs := lookR [], nils := lookM [] }
theorem r3_bend_vc (l : (L.Sq L.Pt)) (i : Int) (hp : r3_bend_p l i) : vc Try.prog (r3_bend_C) (bodyOf Try.f125) (st0 Try.f125 [.p (.sl 2 l.n (fun i => [.int .i64 ((l.g i).x), .int .i64 ((l.g i).y)])), .p (.int .i64 i)]) (retFn Try.prog Try.f125 (r3_bend_r l i)) :=
  @Eq.mpr _ (Go.SE.InK Go.IntKind.i64 (i - (1 : Int)) ∧ ((∀ (i : Nat), i < l.n → [Go.SE.SV.int Go.IntKind.i64 (l.g i).x, Go.SE.SV.int Go.IntKind.i64 (l.g i).y] = [Go.SE.SV.int Go.IntKind.i64 (l.g i).x, Go.SE.SV.int Go.IntKind.i64 (l.g i).y]) ∧ (1 : Nat) ≤ l.n ∧ l.n ≤ (1000000 : Nat) ∧ (-1000000 : Int) ≤ i - (1 : Int) ∧ i - (1 : Int) ≤ (1000000 : Int)) ∧ ((∀ (i : Nat), i < l.n → [Go.SE.SV.int Go.IntKind.i64
 (l.g i).x, Go.SE.SV.int Go.IntKind.i64 (l.g i).y] = [Go.SE.SV.int Go.IntKind.i64 (l.g i).x, Go.SE.SV.int Go.IntKind.i64 (l.g i).y]) ∧ (1 : Nat) ≤ l.n ∧ l.n ≤ (1000000 : Nat) ∧ (-1000000 : Int) ≤ i ∧ i ≤ (1000000 : Int)) ∧ Go.SE.InK Go.IntKind.i64 (i + (1 : Int)) ∧ ((∀ (i : Nat), i < l.n → [Go.SE.SV.int Go.IntKind.i64 (l.g i).x, Go.SE.SV.int Go.IntKind.i64 (l.g i).y] = [Go.SE.SV.int Go.IntKind.i64
 (l.g i).x, Go.SE.SV.int Go.IntKind.i64 (l.g i).y]) ∧ (1 : Nat) ≤ l.n ∧ l.n ≤ (1000000 : Nat) ∧ (-1000000 : Int) ≤ i + (1 : Int) ∧ i + (1 : Int) ≤ (1000000 : Int)) ∧ (L.bd (l.g (L.ix l.n (i - (1 : Int)))) ∧ L.bd (l.g (L.ix l.n i)) ∧ L.bd (l.g (L.ix l.n (i + (1 : Int))))) ∧ (Decidable.decide ((0 : Int) < L.cross (l.g (L.ix l.n (i - (1 : Int)))) (l.g (L.ix l.n i)) (l.g (L.ix l.n (i + (1 : Int))))) =
 Bool.true → (1 : Int) = L.bendR l i) ∧ (Decidable.decide ((0 : Int) < L.cross (l.g (L.ix l.n (i - (1 : Int)))) (l.g (L.ix l.n i)) (l.g (L.ix l.n (i + (1 : Int))))) = Bool.false → (-1 : Int) = L.bendR l i)) (by kernel_rfl) (by
    obtain ⟨hb, h1, h2, h3⟩ := hp
    have hn := hb.1
    have hx : ∀ a, L.ix l.n a < l.n := fun a => ix_lt (by omega)
    refine ⟨InK.of (by omega) (by omega), ⟨fun _ _ => rfl, h1, by omega, by omega, by omega⟩, ⟨fun _ _ => rfl, h1, by omega, by omega, by omega⟩, InK.of (by omega) (by omega), ⟨fun _ _ => rfl, h1, by omega, by omega, by omega⟩, ⟨hb.2 _ (hx _), hb.2 _ (hx _), hb.2 _ (hx _)⟩, fun h => ?_, fun h => ?_⟩
    · unfold L.bendR; rw [h]; rfl
    · unfold L.bendR; rw [h]; rfl)
theorem r3_bend_ok : SpecOk Try.prog 125 r3_bend_S := fnX Try.func125 (c := bodyOf Try.f125) (by kernel_rfl) mixed (fun args p r hs hp => by
  unfold r3_bend_s at hs
  split at hs
  · cases hs; exact ⟨_, _, r3_bend_vc _ _ hp.2, (.p (.sl hp.1) (.same _ .nil)), ⟨show SpecsL Try.prog _ from (SpecsL.cons r3_at_ok r3_at_en (SpecsL.cons r1_Cross_ok r1_Cross_en SpecsL.nil)), rfl, ⟨show ItersL Try.prog _ from ItersL.nil, (TrsOk.none (fun _ => rfl))⟩⟩⟩
  · cases hs)
theorem r3_bend_en : Enters Try.prog 125 := fun args w => by kernel_rfl
theorem r3_bend_I : ∀ args p r, r3_bend_s args = some (p, r) → ∃ n, r = .int .i64 n := by
  intro args p r h
  unfold r3_bend_s at h
  split at h
  · cases h; exact ⟨_, rfl⟩
  · cases h
def r3_measure_p (l : (L.Sq L.Pt)) (s : L.Setting) (i : Int) : Prop := L.allBd l ∧ 1 ≤ l.n ∧ -10000 ≤ i ∧ i ≤ 10000 ∧ -10000 ≤ s.shift ∧ s.shift ≤ 10000
def r3_measure_r (l : (L.Sq L.Pt)) (s : L.Setting) (i : Int) : SV := (.agg [.int .i64 ((L.measR l s i).edge), .int .i64 ((L.measR l s i).across), .int .i64 ((L.measR l s i).bend)])
def r3_measure_s : List EV → Option (Prop × SV)
  | [.p (.sl 2 l_n l_g), .p (.agg [.int .i64 s_shift, .bool s_back]), .p (.int .i64 i)] => some ((∀ i, i < l_n → l_g i = [.int .i64 ((ofPt (l_g i)).x), .int .i64 ((ofPt (l_g i)).y)]) ∧ r3_measure_p (⟨l_n, fun i => ofPt (l_g i)⟩ : (L.Sq L.Pt)) (⟨s_shift, s_back⟩ : L.Setting) i, r3_measure_r (⟨l_n, fun i => ofPt (l_g i)⟩ : (L.Sq L.Pt)) (⟨s_shift, s_back⟩ : L.Setting) i)
  | _ => none
abbrev r3_measure_S : SE.Spec := (specO r3_measure_s)
def r3_measure_C : Cfg := { muts := [], frz := lookN [], specs := lookS [(124, r3_at_S), (123, r1_Dist_S), (125, r3_bend_S)], loops := lookL [], iters := lookI [], rfs := lookR [], nils := lookM [] }
theorem r3_measure_vc (l : (L.Sq L.Pt)) (s : L.Setting) (i : Int) (hp : r3_measure_p l s i) : vc Try.prog (r3_measure_C) (bodyOf Try.f66) (st0 Try.f66 [.p (.sl 2 l.n (fun i => [.int .i64 ((l.g i).x), .int .i64 ((l.g i).y)])), .p (.agg [.int .i64 s.shift, .bool s.back]), .p (.int .i64 i)]) (retFn Try.prog Try.f66 (r3_measure_r l s i)) :=
  @Eq.mpr _ ((s.back = Bool.true → Go.SE.InK Go.IntKind.i64 (s.shift - i) ∧ ((∀ (i : Nat), i < l.n → [Go.SE.SV.int Go.IntKind.i64 (l.g i).x, Go.SE.SV.int Go.IntKind.i64 (l.g i).y] = [Go.SE.SV.int Go.IntKind.i64 (l.g i).x, Go.SE.SV.int Go.IntKind.i64 (l.g i).y]) ∧ (1 : Nat) ≤ l.n ∧ l.n ≤ (1000000 : Nat) ∧ (-1000000 : Int) ≤ s.shift - i ∧ s.shift - i ≤ (1000000 : Int)) ∧ Go.SE.InK Go.IntKind.i64 (s.shift - i +
 (1 : Int)) ∧ ((∀ (i : Nat), i < l.n → [Go.SE.SV.int Go.IntKind.i64 (l.g i).x, Go.SE.SV.int Go.IntKind.i64 (l.g i).y] = [Go.SE.SV.int Go.IntKind.i64 (l.g i).x, Go.SE.SV.int Go.IntKind.i64 (l.g i).y]) ∧ (1 : Nat) ≤ l.n ∧ l.n ≤ (1000000 : Nat) ∧ (-1000000 : Int) ≤ s.shift - i + (1 : Int) ∧ s.shift - i + (1 : Int) ≤ (1000000 : Int)) ∧ (L.bd (l.g (L.ix l.n (s.shift - i))) ∧ L.bd (l.g (L.ix l.n (s.shift
 - i + (1 : Int))))) ∧ Go.SE.InK Go.IntKind.i64 (s.shift - i - (1 : Int)) ∧ ((∀ (i : Nat), i < l.n → [Go.SE.SV.int Go.IntKind.i64 (l.g i).x, Go.SE.SV.int Go.IntKind.i64 (l.g i).y] = [Go.SE.SV.int Go.IntKind.i64 (l.g i).x, Go.SE.SV.int Go.IntKind.i64 (l.g i).y]) ∧ (1 : Nat) ≤ l.n ∧ l.n ≤ (1000000 : Nat) ∧ (-1000000 : Int) ≤ s.shift - i - (1 : Int) ∧ s.shift - i - (1 : Int) ≤ (1000000 : Int)) ∧
 Go.SE.InK Go.IntKind.i64 (s.shift - i + (1 : Int)) ∧ ((∀ (i : Nat), i < l.n → [Go.SE.SV.int Go.IntKind.i64 (l.g i).x, Go.SE.SV.int Go.IntKind.i64 (l.g i).y] = [Go.SE.SV.int Go.IntKind.i64 (l.g i).x, Go.SE.SV.int Go.IntKind.i64 (l.g i).y]) ∧ (1 : Nat) ≤ l.n ∧ l.n ≤ (1000000 : Nat) ∧ (-1000000 : Int) ≤ s.shift - i + (1 : Int) ∧ s.shift - i + (1 : Int) ≤ (1000000 : Int)) ∧ (L.bd (l.g (L.ix l.n
 (s.shift - i - (1 : Int)))) ∧ L.bd (l.g (L.ix l.n (s.shift - i + (1 : Int))))) ∧ ((∀ (i : Nat), i < l.n → [Go.SE.SV.int Go.IntKind.i64 (l.g i).x, Go.SE.SV.int Go.IntKind.i64 (l.g i).y] = [Go.SE.SV.int Go.IntKind.i64 (l.g i).x, Go.SE.SV.int Go.IntKind.i64 (l.g i).y]) ∧ L.allBd (L.Sq.mk l.n fun (i : Nat) ↦ l.g i) ∧ (1 : Nat) ≤ l.n ∧ (-100000 : Int) ≤ s.shift - i ∧ s.shift - i ≤ (100000 : Int)) ∧
 Go.SE.SV.agg [Go.SE.SV.int Go.IntKind.i64 (L.dist (l.g (L.ix l.n (s.shift - i))) (l.g (L.ix l.n (s.shift - i + (1 : Int))))), Go.SE.SV.int Go.IntKind.i64 (L.dist (l.g (L.ix l.n (s.shift - i - (1 : Int)))) (l.g (L.ix l.n (s.shift - i + (1 : Int))))), Go.SE.SV.int Go.IntKind.i64 (L.bendR (L.Sq.mk l.n fun (i : Nat) ↦ l.g i) (s.shift - i))] = Go.SE.SV.agg [Go.SE.SV.int Go.IntKind.i64 (L.measR l s
 i).edge, Go.SE.SV.int Go.IntKind.i64 (L.measR l s i).across, Go.SE.SV.int Go.IntKind.i64 (L.measR l s i).bend]) ∧ (s.back = Bool.false → Go.SE.InK Go.IntKind.i64 (s.shift + i) ∧ ((∀ (i : Nat), i < l.n → [Go.SE.SV.int Go.IntKind.i64 (l.g i).x, Go.SE.SV.int Go.IntKind.i64 (l.g i).y] = [Go.SE.SV.int Go.IntKind.i64 (l.g i).x, Go.SE.SV.int Go.IntKind.i64 (l.g i).y]) ∧ (1 : Nat) ≤ l.n ∧ l.n ≤ (1000000 :
 Nat) ∧ (-1000000 : Int) ≤ s.shift + i ∧ s.shift + i ≤ (1000000 : Int)) ∧ Go.SE.InK Go.IntKind.i64 (s.shift + i + (1 : Int)) ∧ ((∀ (i : Nat), i < l.n → [Go.SE.SV.int Go.IntKind.i64 (l.g i).x, Go.SE.SV.int Go.IntKind.i64 (l.g i).y] = [Go.SE.SV.int Go.IntKind.i64 (l.g i).x, Go.SE.SV.int Go.IntKind.i64 (l.g i).y]) ∧ (1 : Nat) ≤ l.n ∧ l.n ≤ (1000000 : Nat) ∧ (-1000000 : Int) ≤ s.shift + i + (1 : Int) ∧
 s.shift + i + (1 : Int) ≤ (1000000 : Int)) ∧ (L.bd (l.g (L.ix l.n (s.shift + i))) ∧ L.bd (l.g (L.ix l.n (s.shift + i + (1 : Int))))) ∧ ((∀ (i : Nat), i < l.n → [Go.SE.SV.int Go.IntKind.i64 (l.g i).x, Go.SE.SV.int Go.IntKind.i64 (l.g i).y] = [Go.SE.SV.int Go.IntKind.i64 (l.g i).x, Go.SE.SV.int Go.IntKind.i64 (l.g i).y]) ∧ (1 : Nat) ≤ l.n ∧ l.n ≤ (1000000 : Nat) ∧ (-1000000 : Int) ≤ s.shift + i ∧
 s.shift + i ≤ (1000000 : Int)) ∧ Go.SE.InK Go.IntKind.i64 (s.shift + i + (2 : Int)) ∧ ((∀ (i : Nat), i < l.n → [Go.SE.SV.int Go.IntKind.i64 (l.g i).x, Go.SE.SV.int Go.IntKind.i64 (l.g i).y] = [Go.SE.SV.int Go.IntKind.i64 (l.g i).x, Go.SE.SV.int Go.IntKind.i64 (l.g i).y]) ∧ (1 : Nat) ≤ l.n ∧ l.n ≤ (1000000 : Nat) ∧ (-1000000 : Int) ≤ s.shift + i + (2 : Int) ∧ s.shift + i + (2 : Int) ≤ (1000000 :
 Int)) ∧ (L.bd (l.g (L.ix l.n (s.shift + i))) ∧ L.bd (l.g (L.ix l.n (s.shift + i + (2 : Int))))) ∧ Go.SE.InK Go.IntKind.i64 (s.shift + i + (1 : Int)) ∧ ((∀ (i : Nat), i < l.n → [Go.SE.SV.int Go.IntKind.i64 (l.g i).x, Go.SE.SV.int Go.IntKind.i64 (l.g i).y] = [Go.SE.SV.int Go.IntKind.i64 (l.g i).x, Go.SE.SV.int Go.IntKind.i64 (l.g i).y]) ∧ L.allBd (L.Sq.mk l.n fun (i : Nat) ↦ l.g i) ∧ (1 : Nat) ≤ l.n
 ∧ (-100000 : Int) ≤ s.shift + i + (1 : Int) ∧ s.shift + i + (1 : Int) ≤ (100000 : Int)) ∧ Go.SE.SV.agg [Go.SE.SV.int Go.IntKind.i64 (L.dist (l.g (L.ix l.n (s.shift + i))) (l.g (L.ix l.n (s.shift + i + (1 : Int))))), Go.SE.SV.int Go.IntKind.i64 (L.dist (l.g (L.ix l.n (s.shift + i))) (l.g (L.ix l.n (s.shift + i + (2 : Int))))), Go.SE.SV.int Go.IntKind.i64 (L.bendR (L.Sq.mk l.n fun (i : Nat) ↦ l.g i)
 (s.shift + i + (1 : Int)))] = Go.SE.SV.agg [Go.SE.SV.int Go.IntKind.i64 (L.measR l s i).edge, Go.SE.SV.int Go.IntKind.i64 (L.measR l s i).across, Go.SE.SV.int Go.IntKind.i64 (L.measR l s i).bend])) (by kernel_rfl) (by
    obtain ⟨hb, h1, h2, h3, h4, h5⟩ := hp
    have hn := hb.1
    have hx : ∀ a, L.bd (l.g (L.ix l.n a)) := fun a => hb.2 _ (ix_lt (by omega))
    refine ⟨fun h => ?_, fun h => ?_⟩
    · refine ⟨InK.of (by omega) (by omega), ⟨fun _ _ => rfl, h1, by omega, by omega, by omega⟩, InK.of (by omega) (by omega), ⟨fun _ _ => rfl, h1, by omega, by omega, by omega⟩, ⟨hx _, hx _⟩, InK.of (by omega) (by omega), ⟨fun _ _ => rfl, h1, by omega, by omega, by omega⟩, InK.of (by omega) (by omega), ⟨fun _ _ => rfl, h1, by omega, by omega, by omega⟩, ⟨hx _, hx _⟩, ⟨fun _ _ => rfl, hb, h1, by omega, by omega⟩, ?_⟩
      have e : L.measR l s i = ⟨L.dist (l.g (L.ix l.n (s.shift - i))) (l.g (L.ix l.n (s.shift - i + 1))), L.dist (l.g (L.ix l.n (s.shift - i - 1))) (l.g (L.ix l.n (s.shift - i + 1))), L.bendR l (s.shift - i)⟩ := by
        unfold L.measR; rw [h]; rfl
      rw [e]
    · refine ⟨InK.of (by omega) (by omega), ⟨fun _ _ => rfl, h1, by omega, by omega, by omega⟩, InK.of (by omega) (by omega), ⟨fun _ _ => rfl, h1, by omega, by omega, by omega⟩, ⟨hx _, hx _⟩, ⟨fun _ _ => rfl, h1, by omega, by omega, by omega⟩, InK.of (by omega) (by omega), ⟨fun _ _ => rfl, h1, by omega, by omega, by omega⟩, ⟨hx _, hx _⟩, InK.of (by omega) (by omega), ⟨fun _ _ => rfl, hb, h1, by omega, by omega⟩, ?_⟩
      have e : L.measR l s i = ⟨L.dist (l.g (L.ix l.n (s.shift + i))) (l.g (L.ix l.n (s.shift + i + 1))), L.dist (l.g (L.ix l.n (s.shift + i))) (l.g (L.ix l.n (s.shift + i + 2))), L.bendR l (s.shift + i + 1)⟩ := by
        unfold L.measR; rw [h]; rfl
      rw [e])
theorem r3_measure_ok : SpecOk Try.prog 66 r3_measure_S := fnX Try.func66 (c := bodyOf Try.f66) (by kernel_rfl) mixed (fun args p r hs hp => by
  unfold r3_measure_s at hs
  split at hs
  · cases hs; exact ⟨_, _, r3_measure_vc _ _ _ hp.2, (.p (.sl hp.1) (.same _ (.same _ .nil))), ⟨show SpecsL Try.prog _ from (SpecsL.cons r3_at_ok r3_at_en (SpecsL.cons r1_Dist_ok r1_Dist_en (SpecsL.cons r3_bend_ok r3_bend_en SpecsL.nil))), rfl, ⟨show ItersL Try.prog _ from ItersL.nil, (TrsOk.none (fun _ => rfl))⟩⟩⟩
  · cases hs)
theorem r3_measure_en : Enters Try.prog 66 := fun args w => by kernel_rfl
def r3_Gauges_p (l : (L.Sq L.Pt)) : Prop := l.n ≤ 1000000
def r3_Gauges_r (l : (L.Sq L.Pt)) : SV := .tup [.sl 5 (bif L.validOutline l then l.n else 0) (fun k => [.int .i64 ((L.gaugeOf l k).edge.lo), .int .i64 ((L.gaugeOf l k).edge.hi), .int .i64 ((L.gaugeOf l k).across.lo), .int .i64 ((L.gaugeOf l k).across.hi), .int .i64 ((L.gaugeOf l k).bend)]), .int .i64 (bif L.validOutline l then 0 else 1)]
def r3_Gauges_s : List EV → Option (Prop × SV)
  | [.p (.sl 2 l_n l_g)] => some ((∀ i, i < l_n → l_g i = [.int .i64 ((ofPt (l_g i)).x), .int .i64 ((ofPt (l_g i)).y)]) ∧ r3_Gauges_p (⟨l_n, fun i => ofPt (l_g i)⟩ : (L.Sq L.Pt)), r3_Gauges_r (⟨l_n, fun i => ofPt (l_g i)⟩ : (L.Sq L.Pt)))
  | _ => none
abbrev r3_Gauges_S : SE.Spec := (specO r3_Gauges_s)
def r3_Gauges_C : Cfg := { muts := [], frz := lookN [], specs := lookS [(44, r1_ValidOutline_S), (66, r3_measure_S)], loops := fun _ => none, iters := lookI [], rfs := lookR [], nils := lookM [(4, [(4, 28, 88, 5)])] }
theorem r3_Gauges_vc (l : (L.Sq L.Pt)) (hp : r3_Gauges_p l) : vc Try.prog ({ r3_Gauges_C with loops := lookL [(5, { T := Nat, keep := [0, 4], keepO := [], chg := fun i => [(5, .p (.int .i64 (i : Int)))], own := fun i => [(28, .row 88 5 i (fun k => [.int .i64 ((L.gaugeOf l k).edge.lo), .int .i64 ((L.gaugeOf l k).edge.hi), .int .i64 ((L.gaugeOf l k).across.lo), .int .i64 ((L.gaugeOf l k).across.hi), .int .i64 ((L.gaugeOf l k).bend)]))], inv := fun i => i ≤ l.n, mu := fun i => l.n - i })], rfs := lookR [] }) (bodyOf Try.f20) (st0 Try.f20 [.p (.sl 2 l.n (fun i => [.int .i64 ((l.g i).x), .int .i64 ((l.g i).y)]))]) (retFn Try.prog Try.f20 (r3_Gauges_r l)) :=
  @Eq.mpr _ (((∀ (i : Nat), i < l.n → [Go.SE.SV.int Go.IntKind.i64 (l.g i).x, Go.SE.SV.int Go.IntKind.i64 (l.g i).y] = [Go.SE.SV.int Go.IntKind.i64 (l.g i).x, Go.SE.SV.int Go.IntKind.i64 (l.g i).y]) ∧ True) ∧ ((!L.validOutline (L.Sq.mk l.n fun (i : Nat) ↦ l.g i)) = Bool.true → (bif L.validOutline l then l.n else (0 : Nat)) = (0 : Nat) ∧ (1 : Int) = bif L.validOutline l then (0 : Int) else (1 : Int)) ∧
 ((!L.validOutline (L.Sq.mk l.n fun (i : Nat) ↦ l.g i)) = Bool.false → (∃ (g : Nat), (0 : Int) = (↑g : Int) ∧ (nat_lit 0 = g ∧ ∀ (i : Nat), i < nat_lit 0 → [] = [Go.SE.SV.int Go.IntKind.i64 (L.gaugeOf l i).edge.lo, Go.SE.SV.int Go.IntKind.i64 (L.gaugeOf l i).edge.hi, Go.SE.SV.int Go.IntKind.i64 (L.gaugeOf l i).across.lo, Go.SE.SV.int Go.IntKind.i64 (L.gaugeOf l i).across.hi, Go.SE.SV.int
 Go.IntKind.i64 (L.gaugeOf l i).bend]) ∧ g ≤ l.n) ∧ ∀ (g : Nat), g ≤ l.n → (Decidable.decide ((↑g : Int) < (↑l.n : Int)) = Bool.true → ((∀ (i : Nat), i < l.n → [Go.SE.SV.int Go.IntKind.i64 (l.g i).x, Go.SE.SV.int Go.IntKind.i64 (l.g i).y] = [Go.SE.SV.int Go.IntKind.i64 (l.g i).x, Go.SE.SV.int Go.IntKind.i64 (l.g i).y]) ∧ L.allBd (L.Sq.mk l.n fun (i : Nat) ↦ l.g i) ∧ (1 : Nat) ≤ l.n ∧ (-10000 : Int)
 ≤ (↑g : Int) ∧ (↑g : Int) ≤ (10000 : Int) ∧ (-10000 : Int) ≤ (0 : Int) ∧ (0 : Int) ≤ (10000 : Int)) ∧ (g + nat_lit 1) * nat_lit 40 ≤ (140737488355328 : Nat) ∧ Go.SE.InK Go.IntKind.i64 ((↑g : Int) + (1 : Int)) ∧ ∃ (g' : Nat), (↑g : Int) + (1 : Int) = (↑g' : Int) ∧ (l.n = l.n ∧ ∀ (i : Nat), i < l.n → [Go.SE.SV.int Go.IntKind.i64 (l.g i).x, Go.SE.SV.int Go.IntKind.i64 (l.g i).y] = [Go.SE.SV.int
 Go.IntKind.i64 (l.g i).x, Go.SE.SV.int Go.IntKind.i64 (l.g i).y]) ∧ (g + nat_lit 1 = g' ∧ ∀ (i : Nat), i < g + nat_lit 1 → Go.SE.appGet g (fun (k : Nat) ↦ [Go.SE.SV.int Go.IntKind.i64 (L.gaugeOf l k).edge.lo, Go.SE.SV.int Go.IntKind.i64 (L.gaugeOf l k).edge.hi, Go.SE.SV.int Go.IntKind.i64 (L.gaugeOf l k).across.lo, Go.SE.SV.int Go.IntKind.i64 (L.gaugeOf l k).across.hi, Go.SE.SV.int Go.IntKind.i64
 (L.gaugeOf l k).bend]) (fun (x : Nat) ↦ [Go.SE.SV.int Go.IntKind.i64 (L.measR (L.Sq.mk l.n fun (i : Nat) ↦ l.g i) (L.Setting.mk (0 : Int) Bool.false) (↑g : Int)).edge, Go.SE.SV.int Go.IntKind.i64 (L.measR (L.Sq.mk l.n fun (i : Nat) ↦ l.g i) (L.Setting.mk (0 : Int) Bool.false) (↑g : Int)).edge, Go.SE.SV.int Go.IntKind.i64 (L.measR (L.Sq.mk l.n fun (i : Nat) ↦ l.g i) (L.Setting.mk (0 : Int)
 Bool.false) (↑g : Int)).across, Go.SE.SV.int Go.IntKind.i64 (L.measR (L.Sq.mk l.n fun (i : Nat) ↦ l.g i) (L.Setting.mk (0 : Int) Bool.false) (↑g : Int)).across, Go.SE.SV.int Go.IntKind.i64 (L.measR (L.Sq.mk l.n fun (i : Nat) ↦ l.g i) (L.Setting.mk (0 : Int) Bool.false) (↑g : Int)).bend]) i = [Go.SE.SV.int Go.IntKind.i64 (L.gaugeOf l i).edge.lo, Go.SE.SV.int Go.IntKind.i64 (L.gaugeOf l i).edge.hi,
 Go.SE.SV.int Go.IntKind.i64 (L.gaugeOf l i).across.lo, Go.SE.SV.int Go.IntKind.i64 (L.gaugeOf l i).across.hi, Go.SE.SV.int Go.IntKind.i64 (L.gaugeOf l i).bend]) ∧ g' ≤ l.n ∧ l.n - g' < l.n - g) ∧ (Decidable.decide ((↑g : Int) < (↑l.n : Int)) = Bool.false → ((g = bif L.validOutline l then l.n else (0 : Nat)) ∧ ∀ (i : Nat), i < g → [Go.SE.SV.int Go.IntKind.i64 (L.gaugeOf l i).edge.lo, Go.SE.SV.int
 Go.IntKind.i64 (L.gaugeOf l i).edge.hi, Go.SE.SV.int Go.IntKind.i64 (L.gaugeOf l i).across.lo, Go.SE.SV.int Go.IntKind.i64 (L.gaugeOf l i).across.hi, Go.SE.SV.int Go.IntKind.i64 (L.gaugeOf l i).bend] = [Go.SE.SV.int Go.IntKind.i64 (L.gaugeOf l i).edge.lo, Go.SE.SV.int Go.IntKind.i64 (L.gaugeOf l i).edge.hi, Go.SE.SV.int Go.IntKind.i64 (L.gaugeOf l i).across.lo, Go.SE.SV.int Go.IntKind.i64
 (L.gaugeOf l i).across.hi, Go.SE.SV.int Go.IntKind.i64 (L.gaugeOf l i).bend]) ∧ (0 : Int) = bif L.validOutline l then (0 : Int) else (1 : Int)))) (by kernel_rfl) (by
    have hn : l.n ≤ 1000000 := hp
    refine ⟨⟨fun _ _ => rfl, trivial⟩, fun h => ?_, fun h => ?_⟩
    · have hv : L.validOutline l = false := notT h
      rw [hv]; exact ⟨rfl, rfl⟩
    have hv : L.validOutline l = true := notF h
    obtain ⟨n3, n24, hsm, hbd⟩ := validOutline_of hv
    refine ⟨⟨(0 : Nat), rfl, ⟨rfl, fun i hi => absurd hi (Nat.not_lt_zero _)⟩, Nat.zero_le _⟩, fun g hg => ⟨fun hlt => ?_, fun hge => ?_⟩⟩
    · have hb : (g : Int) < (l.n : Int) := of_decide_eq_true hlt
      refine ⟨⟨fun _ _ => rfl, hbd, by omega, by omega, by omega, by decide, by decide⟩, show (g + 1) * 40 ≤ 140737488355328 by omega, InK.of (by omega) (by omega), g + 1, by omega, ⟨rfl, fun _ _ => rfl⟩, ⟨rfl, fun i hi => ?_⟩, by omega, by omega⟩
      have hi : i < g + 1 := hi
      unfold appGet
      by_cases h' : i < g
      · rw [if_pos h']
      · obtain rfl : i = g := by omega
        rw [if_neg h']
        have := meas_eq (s := ⟨0, false⟩) (i := i) hv (by decide) (by show (0 : Int) < (l.n : Int); omega) (by omega)
        have e : L.measR (L.Sq.mk l.n fun i => l.g i) (L.Setting.mk 0 false) (i : Int) = L.meas l ⟨0, false⟩ i := this.symm
        rw [e]; rfl
    · have hb : ¬ (g : Int) < (l.n : Int) := of_decide_eq_false hge
      obtain rfl : g = l.n := by omega
      rw [hv]; exact ⟨⟨rfl, fun _ _ => rfl⟩, rfl⟩)
theorem r3_Gauges_ok : SpecOk Try.prog 20 r3_Gauges_S := fnX Try.func20 (c := bodyOf Try.f20) (by kernel_rfl) mixed (fun args p r hs hp => by
  unfold r3_Gauges_s at hs
  split at hs
  · cases hs; exact ⟨_, _, r3_Gauges_vc _ hp.2, (.p (.sl hp.1) .nil), ⟨show SpecsL Try.prog _ from (SpecsL.cons r1_ValidOutline_ok r1_ValidOutline_en (SpecsL.cons r3_measure_ok r3_measure_en SpecsL.nil)), rfl, ⟨show ItersL Try.prog _ from ItersL.nil, (TrsOk.none (fun _ => rfl))⟩⟩⟩
  · cases hs)
theorem r3_Gauges_en : Enters Try.prog 20 := fun args w => by kernel_rfl
def s_cloneG_p (l : (L.Sq L.Gauge)) : Prop := l.n ≤ 1000000
def s_cloneG_q (l : (L.Sq L.Gauge)) : Nat → Prop := fun _ => True
def s_cloneG_n (l : (L.Sq L.Gauge)) : Nat → Nat := fun _ => l.n
def s_cloneG_g (l : (L.Sq L.Gauge)) : Nat → Nat → List SV := fun _ i => [.int .i64 ((l.g i).edge.lo), .int .i64 ((l.g i).edge.hi), .int .i64 ((l.g i).across.lo), .int .i64 ((l.g i).across.hi), .int .i64 ((l.g i).bend)]
def s_cloneG_s : List EV → Option (Prop × (Nat → Prop) × (Nat → Nat) × (Nat → Nat → List SV))
  | [.p (.sl 5 l_n l_g)] => some ((∀ i, i < l_n → l_g i = [.int .i64 ((ofGauge (l_g i)).edge.lo), .int .i64 ((ofGauge (l_g i)).edge.hi), .int .i64 ((ofGauge (l_g i)).across.lo), .int .i64 ((ofGauge (l_g i)).across.hi), .int .i64 ((ofGauge (l_g i)).bend)]) ∧ s_cloneG_p (⟨l_n, fun i => ofGauge (l_g i)⟩ : (L.Sq L.Gauge)), s_cloneG_q (⟨l_n, fun i => ofGauge (l_g i)⟩ : (L.Sq L.Gauge)), s_cloneG_n (⟨l_n, fun i => ofGauge (l_g i)⟩ : (L.Sq L.Gauge)), s_cloneG_g (⟨l_n, fun i => ofGauge (l_g i)⟩ : (L.Sq L.Gauge)))
  | _ => none
abbrev s_cloneG_S : SE.Spec := (specF Nat 0 88 5 s_cloneG_s)
def s_cloneG_C : Cfg := { muts := [5], frz := lookN [], specs := lookS [], loops := lookL [], iters := lookI [], rfs := lookR [], nils := lookM [] }
theorem s_cloneG_vc (l : (L.Sq L.Gauge)) (hp : s_cloneG_p l) : vc Try.prog (s_cloneG_C) (bodyOf Try.f67) (st0 Try.f67 [.p (.sl 5 l.n (fun i => [.int .i64 ((l.g i).edge.lo), .int .i64 ((l.g i).edge.hi), .int .i64 ((l.g i).across.lo), .int .i64 ((l.g i).across.hi), .int .i64 ((l.g i).bend)]))]) (retFresh Try.prog Try.f67 (Nat) (s_cloneG_q l) 88 5 (s_cloneG_n l) (s_cloneG_g l)) :=
  @Eq.mpr _ (∀ (b : Bool), (b = !Bool.false → l.n = (0 : Nat)) → (b = Bool.true → ∃ (t : Nat), l.n = (0 : Nat) ∧ True) ∧ (b = Bool.false → (nat_lit 0 + l.n) * nat_lit 40 ≤ (140737488355328 : Nat) ∧ ∃ (t : Nat), (nat_lit 0 + l.n = l.n ∧ ∀ (i : Nat), i < nat_lit 0 + l.n → Go.SE.appGet (nat_lit 0) (Go.SE.rowsOf [] (nat_lit 5)) (fun (i : Nat) ↦ [Go.SE.SV.int Go.IntKind.i64 (l.g i).edge.lo, Go.SE.SV.int
 Go.IntKind.i64 (l.g i).edge.hi, Go.SE.SV.int Go.IntKind.i64 (l.g i).across.lo, Go.SE.SV.int Go.IntKind.i64 (l.g i).across.hi, Go.SE.SV.int Go.IntKind.i64 (l.g i).bend]) i = [Go.SE.SV.int Go.IntKind.i64 (l.g i).edge.lo, Go.SE.SV.int Go.IntKind.i64 (l.g i).edge.hi, Go.SE.SV.int Go.IntKind.i64 (l.g i).across.lo, Go.SE.SV.int Go.IntKind.i64 (l.g i).across.hi, Go.SE.SV.int Go.IntKind.i64 (l.g i).bend])
 ∧ True)) (by kernel_rfl) (by
    have hn : l.n ≤ 1000000 := hp
    refine fun b hb => ⟨fun h => ⟨(0 : Nat), hb h, trivial⟩, fun h => ⟨show (0 + l.n) * 40 ≤ 140737488355328 by omega, (0 : Nat), ⟨Nat.zero_add _, fun i hi => ?_⟩, trivial⟩⟩
    unfold appGet; rw [if_neg (Nat.not_lt_zero _)]; rfl)
theorem s_cloneG_ok : SpecOk Try.prog 67 s_cloneG_S := freshX Try.func67 (c := bodyOf Try.f67) (by kernel_rfl) mixed (fun args p q n g hs hp => by
  unfold s_cloneG_s at hs
  split at hs
  · cases hs; exact ⟨_, _, s_cloneG_vc _ hp.2, (.p (.sl hp.1) .nil), ⟨show SpecsL Try.prog _ from SpecsL.nil, rfl, ⟨show ItersL Try.prog _ from ItersL.nil, (TrsOk.none (fun _ => rfl))⟩⟩⟩
  · cases hs)
theorem s_cloneG_en : Enters Try.prog 67 := fun args w => by kernel_rfl
def g_Widen1_p (s : L.Span) (n : Int) (by_ : Int) : Prop := -100000000 ≤ s.lo ∧ s.lo ≤ 100000000 ∧ -100000000 ≤ s.hi ∧ s.hi ≤ 100000000 ∧ -100000000 ≤ by_ ∧ by_ ≤ 100000000
def g_Widen1_r (s : L.Span) (n : Int) (by_ : Int) : SV := (.agg [.int .i64 ((L.wSpan s n by_).lo), .int .i64 ((L.wSpan s n by_).hi)])
def g_Widen1_s : List EV → Option (Prop × SV)
  | [.p (.agg [.int .i64 s_lo, .int .i64 s_hi]), .p (.int .i64 n), .p (.ref [.int .i64 by_] 0)] => some (g_Widen1_p (⟨s_lo, s_hi⟩ : L.Span) n by_, g_Widen1_r (⟨s_lo, s_hi⟩ : L.Span) n by_)
  | _ => none
abbrev g_Widen1_S : SE.Spec := (specO g_Widen1_s)
def g_Widen1_C : Cfg := { muts := [], frz := lookN [], specs := lookS [], loops := lookL [], iters := lookI [], rfs := lookR [], nils := lookM [] }
theorem g_Widen1_vc (s : L.Span) (n : Int) (by_ : Int) (hp : g_Widen1_p s n by_) : vc Try.prog (g_Widen1_C) (bodyOf Try.f68) (st0 Try.f68 [.p (.agg [.int .i64 s.lo, .int .i64 s.hi]), .p (.int .i64 n), .p (.ref [.int .i64 by_] 0)]) (retFn Try.prog Try.f68 (g_Widen1_r s n by_)) :=
  @Eq.mpr _ (Go.SE.InK Go.IntKind.i64 (s.lo - by_) ∧ Go.SE.InK Go.IntKind.i64 (s.hi + by_) ∧ Go.SE.SV.agg [Go.SE.SV.int Go.IntKind.i64 (Max.max n (s.lo - by_)), Go.SE.SV.int Go.IntKind.i64 (Min.min (33554432 : Int) (s.hi + by_))] = Go.SE.SV.agg [Go.SE.SV.int Go.IntKind.i64 (L.wSpan s n by_).lo, Go.SE.SV.int Go.IntKind.i64 (L.wSpan s n by_).hi]) (by kernel_rfl) (by
    obtain ⟨h1, h2, h3, h4, h5, h6⟩ := hp
    exact ⟨InK.of (by omega) (by omega), InK.of (by omega) (by omega), rfl⟩)
theorem g_Widen1_ok : SpecOk Try.prog 68 g_Widen1_S := fnX Try.func68 (c := bodyOf Try.f68) (by kernel_rfl) mixed (fun args p r hs hp => by
  unfold g_Widen1_s at hs
  split at hs
  · cases hs; exact ⟨_, _, g_Widen1_vc _ _ _ hp, (.same _ (.same _ (.same _ .nil))), ⟨show SpecsL Try.prog _ from SpecsL.nil, rfl, ⟨show ItersL Try.prog _ from ItersL.nil, (TrsOk.none (fun _ => rfl))⟩⟩⟩
  · cases hs)
theorem g_Widen1_en : Enters Try.prog 68 := fun args w => by kernel_rfl
def g_Widen_p (l : (L.Sq L.Gauge)) (by_ : Int) : Prop := l.n ≤ 1000000
def g_Widen_r (l : (L.Sq L.Gauge)) (by_ : Int) : SV := .tup [.sl 5 (L.wN l by_) (fun k => [.int .i64 ((L.widen (l.g k) by_).edge.lo), .int .i64 ((L.widen (l.g k) by_).edge.hi), .int .i64 ((L.widen (l.g k) by_).across.lo), .int .i64 ((L.widen (l.g k) by_).across.hi), .int .i64 ((L.widen (l.g k) by_).bend)]), .int .i64 (bif L.wBad l by_ then 1 else 0)]
def g_Widen_s : List EV → Option (Prop × SV)
  | [.p (.sl 5 l_n l_g), .p (.int .i64 by_)] => some ((∀ i, i < l_n → l_g i = [.int .i64 ((ofGauge (l_g i)).edge.lo), .int .i64 ((ofGauge (l_g i)).edge.hi), .int .i64 ((ofGauge (l_g i)).across.lo), .int .i64 ((ofGauge (l_g i)).across.hi), .int .i64 ((ofGauge (l_g i)).bend)]) ∧ g_Widen_p (⟨l_n, fun i => ofGauge (l_g i)⟩ : (L.Sq L.Gauge)) by_, g_Widen_r (⟨l_n, fun i => ofGauge (l_g i)⟩ : (L.Sq L.Gauge)) by_)
  | _ => none
abbrev g_Widen_S : SE.Spec := (specO g_Widen_s)
def g_Widen_C : Cfg := { muts := [18], frz := lookN [], specs := lookS [(57, g_validGauges_S), (52, g_within_S), (67, s_cloneG_S), (68, g_Widen1_S)], loops := fun _ => none, iters := lookI [], rfs := lookR [], nils := lookM [] }
theorem g_Widen_vc (l : (L.Sq L.Gauge)) (by_ : Int) (hp : g_Widen_p l by_) : vc Try.prog ({ g_Widen_C with loops := lookL [(6, { T := Nat, keep := [0, 3, 6, 7, 21], keepO := [], chg := fun i => [(22, .p (.int .i64 (i : Int)))], own := fun i => [(18, .row 88 5 l.n (fun k => [.int .i64 ((L.wid l by_ i k).edge.lo), .int .i64 ((L.wid l by_ i k).edge.hi), .int .i64 ((L.wid l by_ i k).across.lo), .int .i64 ((L.wid l by_ i k).across.hi), .int .i64 ((L.wid l by_ i k).bend)]))], inv := fun i => i ≤ l.n, mu := fun i => l.n - i })], rfs := lookR [] }) (bodyOf Try.f21) (st0 Try.f21 [.p (.sl 5 l.n (fun i => [.int .i64 ((l.g i).edge.lo), .int .i64 ((l.g i).edge.hi), .int .i64 ((l.g i).across.lo), .int .i64 ((l.g i).across.hi), .int .i64 ((l.g i).bend)])), .p (.int .i64 by_)]) (retFn Try.prog Try.f21 (g_Widen_r l by_)) :=
  @Eq.mpr _ (((∀ (i : Nat), i < l.n → [Go.SE.SV.int Go.IntKind.i64 (l.g i).edge.lo, Go.SE.SV.int Go.IntKind.i64 (l.g i).edge.hi, Go.SE.SV.int Go.IntKind.i64 (l.g i).across.lo, Go.SE.SV.int Go.IntKind.i64 (l.g i).across.hi, Go.SE.SV.int Go.IntKind.i64 (l.g i).bend] = [Go.SE.SV.int Go.IntKind.i64 (l.g i).edge.lo, Go.SE.SV.int Go.IntKind.i64 (l.g i).edge.hi, Go.SE.SV.int Go.IntKind.i64 (l.g i).across.lo,
 Go.SE.SV.int Go.IntKind.i64 (l.g i).across.hi, Go.SE.SV.int Go.IntKind.i64 (l.g i).bend]) ∧ l.n ≤ (1000000 : Nat)) ∧ ((!!L.gauges (L.Sq.mk l.n fun (i : Nat) ↦ l.g i)) = Bool.true → True) ∧ ((bif !L.gauges (L.Sq.mk l.n fun (i : Nat) ↦ l.g i) then Bool.true else !L.within by_ (0 : Int) (33554432 : Int)) = Bool.true → L.wN l by_ = (0 : Nat) ∧ (1 : Int) = bif L.wBad l by_ then (1 : Int) else (0 :
 Int)) ∧ ((bif !L.gauges (L.Sq.mk l.n fun (i : Nat) ↦ l.g i) then Bool.true else !L.within by_ (0 : Int) (33554432 : Int)) = Bool.false → ((∀ (i : Nat), i < l.n → [Go.SE.SV.int Go.IntKind.i64 (l.g i).edge.lo, Go.SE.SV.int Go.IntKind.i64 (l.g i).edge.hi, Go.SE.SV.int Go.IntKind.i64 (l.g i).across.lo, Go.SE.SV.int Go.IntKind.i64 (l.g i).across.hi, Go.SE.SV.int Go.IntKind.i64 (l.g i).bend] =
 [Go.SE.SV.int Go.IntKind.i64 (l.g i).edge.lo, Go.SE.SV.int Go.IntKind.i64 (l.g i).edge.hi, Go.SE.SV.int Go.IntKind.i64 (l.g i).across.lo, Go.SE.SV.int Go.IntKind.i64 (l.g i).across.hi, Go.SE.SV.int Go.IntKind.i64 (l.g i).bend]) ∧ l.n ≤ (1000000 : Nat)) ∧ ∀ (t : Nat), True → (∃ (g : Nat), (0 : Int) = (↑g : Int) ∧ (l.n = l.n ∧ ∀ (i : Nat), i < l.n → [Go.SE.SV.int Go.IntKind.i64 (l.g i).edge.lo,
 Go.SE.SV.int Go.IntKind.i64 (l.g i).edge.hi, Go.SE.SV.int Go.IntKind.i64 (l.g i).across.lo, Go.SE.SV.int Go.IntKind.i64 (l.g i).across.hi, Go.SE.SV.int Go.IntKind.i64 (l.g i).bend] = [Go.SE.SV.int Go.IntKind.i64 (L.wid l by_ g i).edge.lo, Go.SE.SV.int Go.IntKind.i64 (L.wid l by_ g i).edge.hi, Go.SE.SV.int Go.IntKind.i64 (L.wid l by_ g i).across.lo, Go.SE.SV.int Go.IntKind.i64 (L.wid l by_ g
 i).across.hi, Go.SE.SV.int Go.IntKind.i64 (L.wid l by_ g i).bend]) ∧ g ≤ l.n) ∧ ∀ (g : Nat), g ≤ l.n → (Decidable.decide ((↑g : Int) < (↑l.n : Int)) = Bool.true → ((0 : Int) ≤ (↑g : Int) ∧ (↑g : Int) < (↑l.n : Int)) ∧ ((-100000000 : Int) ≤ (l.g (Int.toNat (↑g : Int))).edge.lo ∧ (l.g (Int.toNat (↑g : Int))).edge.lo ≤ (100000000 : Int) ∧ (-100000000 : Int) ≤ (l.g (Int.toNat (↑g : Int))).edge.hi ∧
 (l.g (Int.toNat (↑g : Int))).edge.hi ≤ (100000000 : Int) ∧ (-100000000 : Int) ≤ by_ ∧ by_ ≤ (100000000 : Int)) ∧ ((0 : Int) ≤ (↑g : Int) ∧ (↑g : Int) < (↑l.n : Int)) ∧ ((-100000000 : Int) ≤ (l.g (Int.toNat (↑g : Int))).across.lo ∧ (l.g (Int.toNat (↑g : Int))).across.lo ≤ (100000000 : Int) ∧ (-100000000 : Int) ≤ (l.g (Int.toNat (↑g : Int))).across.hi ∧ (l.g (Int.toNat (↑g : Int))).across.hi ≤
 (100000000 : Int) ∧ (-100000000 : Int) ≤ by_ ∧ by_ ≤ (100000000 : Int)) ∧ ((0 : Int) ≤ (↑g : Int) ∧ (↑g : Int) < (↑l.n : Int)) ∧ Int.toNat (↑g : Int) < l.n ∧ ((0 : Int) ≤ (↑g : Int) ∧ (↑g : Int) < (↑l.n : Int)) ∧ Int.toNat (↑g : Int) < l.n ∧ Go.SE.InK Go.IntKind.i64 ((↑g : Int) + (1 : Int)) ∧ ∃ (g' : Nat), (↑g : Int) + (1 : Int) = (↑g' : Int) ∧ (↑l.n : Int) = (↑l.n : Int) ∧ Go.SE.SV.clo (nat_lit
 68) [Go.SE.SV.ref [Go.SE.SV.int Go.IntKind.i64 by_] (nat_lit 0)] = Go.SE.SV.clo (nat_lit 68) [Go.SE.SV.ref [Go.SE.SV.int Go.IntKind.i64 by_] (nat_lit 0)] ∧ Go.SE.SV.ref [Go.SE.SV.int Go.IntKind.i64 by_] (nat_lit 0) = Go.SE.SV.ref [Go.SE.SV.int Go.IntKind.i64 by_] (nat_lit 0) ∧ (l.n = l.n ∧ ∀ (i : Nat), i < l.n → [Go.SE.SV.int Go.IntKind.i64 (l.g i).edge.lo, Go.SE.SV.int Go.IntKind.i64 (l.g
 i).edge.hi, Go.SE.SV.int Go.IntKind.i64 (l.g i).across.lo, Go.SE.SV.int Go.IntKind.i64 (l.g i).across.hi, Go.SE.SV.int Go.IntKind.i64 (l.g i).bend] = [Go.SE.SV.int Go.IntKind.i64 (l.g i).edge.lo, Go.SE.SV.int Go.IntKind.i64 (l.g i).edge.hi, Go.SE.SV.int Go.IntKind.i64 (l.g i).across.lo, Go.SE.SV.int Go.IntKind.i64 (l.g i).across.hi, Go.SE.SV.int Go.IntKind.i64 (l.g i).bend]) ∧ (l.n = l.n ∧ ∀ (i :
 Nat), i < l.n → Go.SE.setRow (Go.SE.setRow (fun (k : Nat) ↦ [Go.SE.SV.int Go.IntKind.i64 (L.wid l by_ g k).edge.lo, Go.SE.SV.int Go.IntKind.i64 (L.wid l by_ g k).edge.hi, Go.SE.SV.int Go.IntKind.i64 (L.wid l by_ g k).across.lo, Go.SE.SV.int Go.IntKind.i64 (L.wid l by_ g k).across.hi, Go.SE.SV.int Go.IntKind.i64 (L.wid l by_ g k).bend]) (Int.toNat (↑g : Int)) (nat_lit 0) [Go.SE.SV.int
 Go.IntKind.i64 (L.wSpan (l.g (Int.toNat (↑g : Int))).edge (1 : Int) by_).lo, Go.SE.SV.int Go.IntKind.i64 (L.wSpan (l.g (Int.toNat (↑g : Int))).edge (1 : Int) by_).hi]) (Int.toNat (↑g : Int)) (nat_lit 2) [Go.SE.SV.int Go.IntKind.i64 (L.wSpan (l.g (Int.toNat (↑g : Int))).across (0 : Int) by_).lo, Go.SE.SV.int Go.IntKind.i64 (L.wSpan (l.g (Int.toNat (↑g : Int))).across (0 : Int) by_).hi] i =
 [Go.SE.SV.int Go.IntKind.i64 (L.wid l by_ g' i).edge.lo, Go.SE.SV.int Go.IntKind.i64 (L.wid l by_ g' i).edge.hi, Go.SE.SV.int Go.IntKind.i64 (L.wid l by_ g' i).across.lo, Go.SE.SV.int Go.IntKind.i64 (L.wid l by_ g' i).across.hi, Go.SE.SV.int Go.IntKind.i64 (L.wid l by_ g' i).bend]) ∧ g' ≤ l.n ∧ l.n - g' < l.n - g) ∧ (Decidable.decide ((↑g : Int) < (↑l.n : Int)) = Bool.false → (l.n = L.wN l by_ ∧ ∀
 (i : Nat), i < l.n → [Go.SE.SV.int Go.IntKind.i64 (L.wid l by_ g i).edge.lo, Go.SE.SV.int Go.IntKind.i64 (L.wid l by_ g i).edge.hi, Go.SE.SV.int Go.IntKind.i64 (L.wid l by_ g i).across.lo, Go.SE.SV.int Go.IntKind.i64 (L.wid l by_ g i).across.hi, Go.SE.SV.int Go.IntKind.i64 (L.wid l by_ g i).bend] = [Go.SE.SV.int Go.IntKind.i64 (L.widen (l.g i) by_).edge.lo, Go.SE.SV.int Go.IntKind.i64 (L.widen
 (l.g i) by_).edge.hi, Go.SE.SV.int Go.IntKind.i64 (L.widen (l.g i) by_).across.lo, Go.SE.SV.int Go.IntKind.i64 (L.widen (l.g i) by_).across.hi, Go.SE.SV.int Go.IntKind.i64 (L.widen (l.g i) by_).bend]) ∧ (0 : Int) = bif L.wBad l by_ then (1 : Int) else (0 : Int)))) (by kernel_rfl) (by
    have hn : l.n ≤ 1000000 := hp
    refine ⟨⟨fun _ _ => rfl, hn⟩, fun _ => trivial, fun h => ?_, fun h => ?_⟩
    · have h : L.wBad l by_ = true := h
      unfold L.wN; rw [h]; exact ⟨rfl, rfl⟩
    have hbad : L.wBad l by_ = false := h
    have h := hbad
    unfold L.wBad at h
    rw [bor, Bool.or_eq_false_iff] at h
    obtain ⟨_, hg⟩ := gauge_ok (notF h.1)
    have hby := within_iff.1 (notF h.2)
    refine ⟨⟨fun _ _ => rfl, hn⟩, fun _ _ => ⟨⟨(0 : Nat), rfl, ⟨rfl, fun i hi => rfl⟩, Nat.zero_le _⟩, fun g hgl => ⟨fun hlt => ?_, fun hge => ?_⟩⟩⟩
    · have hb : (g : Int) < (l.n : Int) := of_decide_eq_true hlt
      have e0 : ((g : Int)).toNat = g := by omega
      have hgg := hg g (by omega)
      rw [e0]
      refine ⟨by omega, ⟨by omega, by omega, by omega, by omega, by omega, by omega⟩, by omega, ⟨by omega, by omega, by omega, by omega, by omega, by omega⟩, by omega, by show g < l.n; omega, by omega, by show g < l.n; omega, InK.of (by omega) (by omega), g + 1, by omega, rfl, rfl, rfl, ⟨rfl, fun _ _ => rfl⟩, ⟨rfl, fun i hi => ?_⟩, by omega, by omega⟩
      unfold setRow
      by_cases e : i = g
      · subst e
        have w1 : L.wid l by_ i i = l.g i := by unfold L.wid; rw [decide_eq_false (Nat.lt_irrefl i)]; rfl
        have w2 : L.wid l by_ (i + 1) i = L.widen (l.g i) by_ := by unfold L.wid; rw [decide_eq_true (Nat.lt_succ_self i)]; rfl
        rw [if_pos rfl, if_pos rfl]
        dsimp only
        rw [w1, w2]; rfl
      · have w : L.wid l by_ (g + 1) i = L.wid l by_ g i := by
          unfold L.wid
          by_cases q : i < g
          · rw [decide_eq_true q, decide_eq_true (by omega)]
          · rw [decide_eq_false q, decide_eq_false (by omega)]
        rw [if_neg e, if_neg e, w]
    · have hb : ¬ (g : Int) < (l.n : Int) := of_decide_eq_false hge
      obtain rfl : g = l.n := by omega
      refine ⟨⟨?_, fun i hi => ?_⟩, by rw [hbad]; rfl⟩
      · unfold L.wN; rw [hbad]; rfl
      · have hi : i < l.n := hi
        have w : L.wid l by_ l.n i = L.widen (l.g i) by_ := by unfold L.wid; rw [decide_eq_true hi]; rfl
        rw [w])
theorem g_Widen_ok : SpecOk Try.prog 21 g_Widen_S := fnX Try.func21 (c := bodyOf Try.f21) (by kernel_rfl) mixed (fun args p r hs hp => by
  unfold g_Widen_s at hs
  split at hs
  · cases hs; exact ⟨_, _, g_Widen_vc _ _ hp.2, (.p (.sl hp.1) (.same _ .nil)), ⟨show SpecsL Try.prog _ from (SpecsL.cons g_validGauges_ok g_validGauges_en (SpecsL.cons g_within_ok g_within_en (SpecsL.cons s_cloneG_ok s_cloneG_en (SpecsL.cons g_Widen1_ok g_Widen1_en SpecsL.nil)))), rfl, ⟨show ItersL Try.prog _ from ItersL.nil, (TrsOk.none (fun _ => rfl))⟩⟩⟩
  · cases hs)
theorem g_Widen_en : Enters Try.prog 21 := fun args w => by kernel_rfl
def r3_Widen_p (l : (L.Sq L.Gauge)) (by_ : Int) : Prop := l.n ≤ 1000000
def r3_Widen_r (l : (L.Sq L.Gauge)) (by_ : Int) : SV := .tup [.sl 5 (L.wN l by_) (fun k => [.int .i64 ((L.widen (l.g k) by_).edge.lo), .int .i64 ((L.widen (l.g k) by_).edge.hi), .int .i64 ((L.widen (l.g k) by_).across.lo), .int .i64 ((L.widen (l.g k) by_).across.hi), .int .i64 ((L.widen (l.g k) by_).bend)]), .int .i64 (bif L.wBad l by_ then 1 else 0)]
def r3_Widen_s : List EV → Option (Prop × SV)
  | [.p (.sl 5 l_n l_g), .p (.int .i64 by_)] => some ((∀ i, i < l_n → l_g i = [.int .i64 ((ofGauge (l_g i)).edge.lo), .int .i64 ((ofGauge (l_g i)).edge.hi), .int .i64 ((ofGauge (l_g i)).across.lo), .int .i64 ((ofGauge (l_g i)).across.hi), .int .i64 ((ofGauge (l_g i)).bend)]) ∧ r3_Widen_p (⟨l_n, fun i => ofGauge (l_g i)⟩ : (L.Sq L.Gauge)) by_, r3_Widen_r (⟨l_n, fun i => ofGauge (l_g i)⟩ : (L.Sq L.Gauge)) by_)
  | _ => none
abbrev r3_Widen_S : SE.Spec := (specO r3_Widen_s)
def r3_Widen_C : Cfg := { muts := [], frz := lookN [], specs := lookS [(60, r3_gauges_S), (59, r3_within_S)], loops := fun _ => none, iters := lookI [], rfs := lookR [], nils := lookM [(4, [(6, 28, 88, 5)])] }
theorem r3_Widen_vc (l : (L.Sq L.Gauge)) (by_ : Int) (hp : r3_Widen_p l by_) : vc Try.prog ({ r3_Widen_C with loops := lookL [(5, { T := Nat, keep := [0, 1, 6], keepO := [], chg := fun i => [(7, .p (.int .i64 (i : Int)))], own := fun i => [(28, .row 88 5 i (fun k => [.int .i64 ((L.widen (l.g k) by_).edge.lo), .int .i64 ((L.widen (l.g k) by_).edge.hi), .int .i64 ((L.widen (l.g k) by_).across.lo), .int .i64 ((L.widen (l.g k) by_).across.hi), .int .i64 ((L.widen (l.g k) by_).bend)]))], inv := fun i => i ≤ l.n, mu := fun i => l.n - i })], rfs := lookR [] }) (bodyOf Try.f22) (st0 Try.f22 [.p (.sl 5 l.n (fun i => [.int .i64 ((l.g i).edge.lo), .int .i64 ((l.g i).edge.hi), .int .i64 ((l.g i).across.lo), .int .i64 ((l.g i).across.hi), .int .i64 ((l.g i).bend)])), .p (.int .i64 by_)]) (retFn Try.prog Try.f22 (r3_Widen_r l by_)) :=
  @Eq.mpr _ (((∀ (i : Nat), i < l.n → [Go.SE.SV.int Go.IntKind.i64 (l.g i).edge.lo, Go.SE.SV.int Go.IntKind.i64 (l.g i).edge.hi, Go.SE.SV.int Go.IntKind.i64 (l.g i).across.lo, Go.SE.SV.int Go.IntKind.i64 (l.g i).across.hi, Go.SE.SV.int Go.IntKind.i64 (l.g i).bend] = [Go.SE.SV.int Go.IntKind.i64 (l.g i).edge.lo, Go.SE.SV.int Go.IntKind.i64 (l.g i).edge.hi, Go.SE.SV.int Go.IntKind.i64 (l.g i).across.lo,
 Go.SE.SV.int Go.IntKind.i64 (l.g i).across.hi, Go.SE.SV.int Go.IntKind.i64 (l.g i).bend]) ∧ l.n ≤ (9223372036854775807 : Nat)) ∧ ((!!L.gauges (L.Sq.mk l.n fun (i : Nat) ↦ l.g i)) = Bool.true → True) ∧ ((bif !L.gauges (L.Sq.mk l.n fun (i : Nat) ↦ l.g i) then Bool.true else !L.within by_ (0 : Int) (33554432 : Int)) = Bool.true → L.wN l by_ = (0 : Nat) ∧ (1 : Int) = bif L.wBad l by_ then (1 : Int)
 else (0 : Int)) ∧ ((bif !L.gauges (L.Sq.mk l.n fun (i : Nat) ↦ l.g i) then Bool.true else !L.within by_ (0 : Int) (33554432 : Int)) = Bool.false → (∃ (g : Nat), (0 : Int) = (↑g : Int) ∧ (nat_lit 0 = g ∧ ∀ (i : Nat), i < nat_lit 0 → [] = [Go.SE.SV.int Go.IntKind.i64 (L.widen (l.g i) by_).edge.lo, Go.SE.SV.int Go.IntKind.i64 (L.widen (l.g i) by_).edge.hi, Go.SE.SV.int Go.IntKind.i64 (L.widen (l.g i)
 by_).across.lo, Go.SE.SV.int Go.IntKind.i64 (L.widen (l.g i) by_).across.hi, Go.SE.SV.int Go.IntKind.i64 (L.widen (l.g i) by_).bend]) ∧ g ≤ l.n) ∧ ∀ (g : Nat), g ≤ l.n → (Decidable.decide ((↑g : Int) < (↑l.n : Int)) = Bool.true → ((0 : Int) ≤ (↑g : Int) ∧ (↑g : Int) < (↑l.n : Int)) ∧ Go.SE.InK Go.IntKind.i64 ((l.g (Int.toNat (↑g : Int))).edge.lo - by_) ∧ Go.SE.InK Go.IntKind.i64 ((l.g (Int.toNat
 (↑g : Int))).edge.hi + by_) ∧ Go.SE.InK Go.IntKind.i64 ((l.g (Int.toNat (↑g : Int))).across.lo - by_) ∧ Go.SE.InK Go.IntKind.i64 ((l.g (Int.toNat (↑g : Int))).across.hi + by_) ∧ (g + nat_lit 1) * nat_lit 40 ≤ (140737488355328 : Nat) ∧ Go.SE.InK Go.IntKind.i64 ((↑g : Int) + (1 : Int)) ∧ ∃ (g' : Nat), (↑g : Int) + (1 : Int) = (↑g' : Int) ∧ (l.n = l.n ∧ ∀ (i : Nat), i < l.n → [Go.SE.SV.int
 Go.IntKind.i64 (l.g i).edge.lo, Go.SE.SV.int Go.IntKind.i64 (l.g i).edge.hi, Go.SE.SV.int Go.IntKind.i64 (l.g i).across.lo, Go.SE.SV.int Go.IntKind.i64 (l.g i).across.hi, Go.SE.SV.int Go.IntKind.i64 (l.g i).bend] = [Go.SE.SV.int Go.IntKind.i64 (l.g i).edge.lo, Go.SE.SV.int Go.IntKind.i64 (l.g i).edge.hi, Go.SE.SV.int Go.IntKind.i64 (l.g i).across.lo, Go.SE.SV.int Go.IntKind.i64 (l.g i).across.hi,
 Go.SE.SV.int Go.IntKind.i64 (l.g i).bend]) ∧ by_ = by_ ∧ (g + nat_lit 1 = g' ∧ ∀ (i : Nat), i < g + nat_lit 1 → Go.SE.appGet g (fun (k : Nat) ↦ [Go.SE.SV.int Go.IntKind.i64 (L.widen (l.g k) by_).edge.lo, Go.SE.SV.int Go.IntKind.i64 (L.widen (l.g k) by_).edge.hi, Go.SE.SV.int Go.IntKind.i64 (L.widen (l.g k) by_).across.lo, Go.SE.SV.int Go.IntKind.i64 (L.widen (l.g k) by_).across.hi, Go.SE.SV.int
 Go.IntKind.i64 (L.widen (l.g k) by_).bend]) (fun (x : Nat) ↦ [Go.SE.SV.int Go.IntKind.i64 (Max.max (1 : Int) ((l.g (Int.toNat (↑g : Int))).edge.lo - by_)), Go.SE.SV.int Go.IntKind.i64 (Min.min (33554432 : Int) ((l.g (Int.toNat (↑g : Int))).edge.hi + by_)), Go.SE.SV.int Go.IntKind.i64 (Max.max (0 : Int) ((l.g (Int.toNat (↑g : Int))).across.lo - by_)), Go.SE.SV.int Go.IntKind.i64 (Min.min (33554432
 : Int) ((l.g (Int.toNat (↑g : Int))).across.hi + by_)), Go.SE.SV.int Go.IntKind.i64 (l.g (Int.toNat (↑g : Int))).bend]) i = [Go.SE.SV.int Go.IntKind.i64 (L.widen (l.g i) by_).edge.lo, Go.SE.SV.int Go.IntKind.i64 (L.widen (l.g i) by_).edge.hi, Go.SE.SV.int Go.IntKind.i64 (L.widen (l.g i) by_).across.lo, Go.SE.SV.int Go.IntKind.i64 (L.widen (l.g i) by_).across.hi, Go.SE.SV.int Go.IntKind.i64
 (L.widen (l.g i) by_).bend]) ∧ g' ≤ l.n ∧ l.n - g' < l.n - g) ∧ (Decidable.decide ((↑g : Int) < (↑l.n : Int)) = Bool.false → (g = L.wN l by_ ∧ ∀ (i : Nat), i < g → [Go.SE.SV.int Go.IntKind.i64 (L.widen (l.g i) by_).edge.lo, Go.SE.SV.int Go.IntKind.i64 (L.widen (l.g i) by_).edge.hi, Go.SE.SV.int Go.IntKind.i64 (L.widen (l.g i) by_).across.lo, Go.SE.SV.int Go.IntKind.i64 (L.widen (l.g i)
 by_).across.hi, Go.SE.SV.int Go.IntKind.i64 (L.widen (l.g i) by_).bend] = [Go.SE.SV.int Go.IntKind.i64 (L.widen (l.g i) by_).edge.lo, Go.SE.SV.int Go.IntKind.i64 (L.widen (l.g i) by_).edge.hi, Go.SE.SV.int Go.IntKind.i64 (L.widen (l.g i) by_).across.lo, Go.SE.SV.int Go.IntKind.i64 (L.widen (l.g i) by_).across.hi, Go.SE.SV.int Go.IntKind.i64 (L.widen (l.g i) by_).bend]) ∧ (0 : Int) = bif L.wBad l
 by_ then (1 : Int) else (0 : Int)))) (by kernel_rfl) (by
    have hn : l.n ≤ 1000000 := hp
    refine ⟨⟨fun _ _ => rfl, by omega⟩, fun _ => trivial, fun h => ?_, fun h => ?_⟩
    · have h : L.wBad l by_ = true := h
      unfold L.wN; rw [h]; exact ⟨rfl, rfl⟩
    have hbad : L.wBad l by_ = false := h
    have h := hbad
    unfold L.wBad at h
    rw [bor, Bool.or_eq_false_iff] at h
    obtain ⟨_, hg⟩ := gauge_ok (notF h.1)
    have hby := within_iff.1 (notF h.2)
    refine ⟨⟨(0 : Nat), rfl, ⟨rfl, fun i hi => absurd hi (Nat.not_lt_zero _)⟩, Nat.zero_le _⟩, fun g hgl => ⟨fun hlt => ?_, fun hge => ?_⟩⟩
    · have hb : (g : Int) < (l.n : Int) := of_decide_eq_true hlt
      have e0 : ((g : Int)).toNat = g := by omega
      have hgg := hg g (by omega)
      rw [e0]
      refine ⟨by omega, InK.of (by omega) (by omega), InK.of (by omega) (by omega), InK.of (by omega) (by omega), InK.of (by omega) (by omega), show (g + 1) * 40 ≤ 140737488355328 by omega, InK.of (by omega) (by omega), g + 1, by omega, ⟨rfl, fun _ _ => rfl⟩, rfl, ⟨rfl, fun i hi => ?_⟩, by omega, by omega⟩
      have hi : i < g + 1 := hi
      unfold appGet
      by_cases h' : i < g
      · rw [if_pos h']
      · obtain rfl : i = g := by omega
        rw [if_neg h']; rfl
    · have hb : ¬ (g : Int) < (l.n : Int) := of_decide_eq_false hge
      obtain rfl : g = l.n := by omega
      refine ⟨⟨?_, fun _ _ => rfl⟩, by rw [hbad]; rfl⟩
      unfold L.wN; rw [hbad]; rfl)
theorem r3_Widen_ok : SpecOk Try.prog 22 r3_Widen_S := fnX Try.func22 (c := bodyOf Try.f22) (by kernel_rfl) mixed (fun args p r hs hp => by
  unfold r3_Widen_s at hs
  split at hs
  · cases hs; exact ⟨_, _, r3_Widen_vc _ _ hp.2, (.p (.sl hp.1) (.same _ .nil)), ⟨show SpecsL Try.prog _ from (SpecsL.cons r3_gauges_ok r3_gauges_en (SpecsL.cons r3_within_ok r3_within_en SpecsL.nil)), rfl, ⟨show ItersL Try.prog _ from ItersL.nil, (TrsOk.none (fun _ => rfl))⟩⟩⟩
  · cases hs)
theorem r3_Widen_en : Enters Try.prog 22 := fun args w => by kernel_rfl
def r3_SameGauges_p (a : (L.Sq L.Gauge)) (b : (L.Sq L.Gauge)) : Prop := a.n ≤ 1000000
def r3_SameGauges_r (a : (L.Sq L.Gauge)) (b : (L.Sq L.Gauge)) : SV := .bool (L.sameGs a b)
def r3_SameGauges_s : List EV → Option (Prop × SV)
  | [.p (.sl 5 a_n a_g), .p (.sl 5 b_n b_g)] => some ((∀ i, i < a_n → a_g i = [.int .i64 ((ofGauge (a_g i)).edge.lo), .int .i64 ((ofGauge (a_g i)).edge.hi), .int .i64 ((ofGauge (a_g i)).across.lo), .int .i64 ((ofGauge (a_g i)).across.hi), .int .i64 ((ofGauge (a_g i)).bend)]) ∧ (∀ i, i < b_n → b_g i = [.int .i64 ((ofGauge (b_g i)).edge.lo), .int .i64 ((ofGauge (b_g i)).edge.hi), .int .i64 ((ofGauge (b_g i)).across.lo), .int .i64 ((ofGauge (b_g i)).across.hi), .int .i64 ((ofGauge (b_g i)).bend)]) ∧ r3_SameGauges_p (⟨a_n, fun i => ofGauge (a_g i)⟩ : (L.Sq L.Gauge)) (⟨b_n, fun i => ofGauge (b_g i)⟩ : (L.Sq L.Gauge)), r3_SameGauges_r (⟨a_n, fun i => ofGauge (a_g i)⟩ : (L.Sq L.Gauge)) (⟨b_n, fun i => ofGauge (b_g i)⟩ : (L.Sq L.Gauge)))
  | _ => none
abbrev r3_SameGauges_S : SE.Spec := (specO r3_SameGauges_s)
def r3_SameGauges_C : Cfg := { muts := [], frz := lookN [], specs := lookS [], loops := fun _ => none, iters := lookI [], rfs := lookR [], nils := lookM [] }
theorem r3_SameGauges_vc (a : (L.Sq L.Gauge)) (b : (L.Sq L.Gauge)) (hp : r3_SameGauges_p a b) : vc Try.prog ({ r3_SameGauges_C with loops := lookL [(4, { T := Nat, keep := [0, 1], keepO := [], chg := fun i => [(5, .p (.int .i64 (i : Int)))], own := fun _ => [], inv := fun i => i ≤ a.n ∧ ∀ j, j < i → L.sameG (a.g j) (b.g j) = true, mu := fun i => a.n - i })], rfs := lookR [] }) (bodyOf Try.f23) (st0 Try.f23 [.p (.sl 5 a.n (fun i => [.int .i64 ((a.g i).edge.lo), .int .i64 ((a.g i).edge.hi), .int .i64 ((a.g i).across.lo), .int .i64 ((a.g i).across.hi), .int .i64 ((a.g i).bend)])), .p (.sl 5 b.n (fun i => [.int .i64 ((b.g i).edge.lo), .int .i64 ((b.g i).edge.hi), .int .i64 ((b.g i).across.lo), .int .i64 ((b.g i).across.hi), .int .i64 ((b.g i).bend)]))]) (retFn Try.prog Try.f23 (r3_SameGauges_r a b)) :=
  @Eq.mpr _ (((!Decidable.decide ((↑a.n : Int) = (↑b.n : Int))) = Bool.true → Bool.false = L.sameGs a b) ∧ ((!Decidable.decide ((↑a.n : Int) = (↑b.n : Int))) = Bool.false → (∃ (g : Nat), (0 : Int) = (↑g : Int) ∧ g ≤ a.n ∧ ∀ (j : Nat), j < g → L.sameG (a.g j) (b.g j) = Bool.true) ∧ ∀ (g : Nat), (g ≤ a.n ∧ ∀ (j : Nat), j < g → L.sameG (a.g j) (b.g j) = Bool.true) → (Decidable.decide ((↑g : Int) < (↑a.n : Int)) =
 Bool.true → ((0 : Int) ≤ (↑g : Int) ∧ (↑g : Int) < (↑a.n : Int)) ∧ ((0 : Int) ≤ (↑g : Int) ∧ (↑g : Int) < (↑b.n : Int)) ∧ ((!(Decidable.decide ((a.g (Int.toNat (↑g : Int))).edge.lo = (b.g (Int.toNat (↑g : Int))).edge.lo) && Decidable.decide ((a.g (Int.toNat (↑g : Int))).edge.hi = (b.g (Int.toNat (↑g : Int))).edge.hi) && (Decidable.decide ((a.g (Int.toNat (↑g : Int))).across.lo = (b.g (Int.toNat
 (↑g : Int))).across.lo) && Decidable.decide ((a.g (Int.toNat (↑g : Int))).across.hi = (b.g (Int.toNat (↑g : Int))).across.hi) && Decidable.decide ((a.g (Int.toNat (↑g : Int))).bend = (b.g (Int.toNat (↑g : Int))).bend)))) = Bool.true → Bool.false = L.sameGs a b) ∧ ((!(Decidable.decide ((a.g (Int.toNat (↑g : Int))).edge.lo = (b.g (Int.toNat (↑g : Int))).edge.lo) && Decidable.decide ((a.g (Int.toNat
 (↑g : Int))).edge.hi = (b.g (Int.toNat (↑g : Int))).edge.hi) && (Decidable.decide ((a.g (Int.toNat (↑g : Int))).across.lo = (b.g (Int.toNat (↑g : Int))).across.lo) && Decidable.decide ((a.g (Int.toNat (↑g : Int))).across.hi = (b.g (Int.toNat (↑g : Int))).across.hi) && Decidable.decide ((a.g (Int.toNat (↑g : Int))).bend = (b.g (Int.toNat (↑g : Int))).bend)))) = Bool.false → Go.SE.InK Go.IntKind.i64
 ((↑g : Int) + (1 : Int)) ∧ ∃ (g' : Nat), (↑g : Int) + (1 : Int) = (↑g' : Int) ∧ (a.n = a.n ∧ ∀ (i : Nat), i < a.n → [Go.SE.SV.int Go.IntKind.i64 (a.g i).edge.lo, Go.SE.SV.int Go.IntKind.i64 (a.g i).edge.hi, Go.SE.SV.int Go.IntKind.i64 (a.g i).across.lo, Go.SE.SV.int Go.IntKind.i64 (a.g i).across.hi, Go.SE.SV.int Go.IntKind.i64 (a.g i).bend] = [Go.SE.SV.int Go.IntKind.i64 (a.g i).edge.lo,
 Go.SE.SV.int Go.IntKind.i64 (a.g i).edge.hi, Go.SE.SV.int Go.IntKind.i64 (a.g i).across.lo, Go.SE.SV.int Go.IntKind.i64 (a.g i).across.hi, Go.SE.SV.int Go.IntKind.i64 (a.g i).bend]) ∧ (b.n = b.n ∧ ∀ (i : Nat), i < b.n → [Go.SE.SV.int Go.IntKind.i64 (b.g i).edge.lo, Go.SE.SV.int Go.IntKind.i64 (b.g i).edge.hi, Go.SE.SV.int Go.IntKind.i64 (b.g i).across.lo, Go.SE.SV.int Go.IntKind.i64 (b.g
 i).across.hi, Go.SE.SV.int Go.IntKind.i64 (b.g i).bend] = [Go.SE.SV.int Go.IntKind.i64 (b.g i).edge.lo, Go.SE.SV.int Go.IntKind.i64 (b.g i).edge.hi, Go.SE.SV.int Go.IntKind.i64 (b.g i).across.lo, Go.SE.SV.int Go.IntKind.i64 (b.g i).across.hi, Go.SE.SV.int Go.IntKind.i64 (b.g i).bend]) ∧ (g' ≤ a.n ∧ ∀ (j : Nat), j < g' → L.sameG (a.g j) (b.g j) = Bool.true) ∧ a.n - g' < a.n - g)) ∧
 (Decidable.decide ((↑g : Int) < (↑a.n : Int)) = Bool.false → Bool.true = L.sameGs a b))) (by kernel_rfl) (by
    have ha : a.n ≤ 1000000 := hp
    refine ⟨fun h => ?_, fun h => ?_⟩
    · unfold L.sameGs; rw [notT h]; rfl
    have hd := notF h
    have hn := of_decide_eq_true hd
    refine ⟨⟨(0 : Nat), rfl, Nat.zero_le _, fun j hj => absurd hj (Nat.not_lt_zero _)⟩, fun g hg => ⟨fun hlt => ?_, fun hge => ?_⟩⟩
    · have hb : (g : Int) < (a.n : Int) := of_decide_eq_true hlt
      have e0 : ((g : Int)).toNat = g := by omega
      rw [e0]
      refine ⟨by omega, by omega, fun h1 => ?_, fun h1 => ?_⟩
      · have h1 : L.sameG (a.g g) (b.g g) = false := notT h1
        unfold L.sameGs; rw [hd, allB_false (i := g) (by omega) h1]; rfl
      · have h1 : L.sameG (a.g g) (b.g g) = true := notF h1
        exact ⟨InK.of (by omega) (by omega), g + 1, by omega, ⟨rfl, fun _ _ => rfl⟩, ⟨rfl, fun _ _ => rfl⟩, ⟨by omega, fun j hj => by
          rcases Nat.lt_succ_iff_lt_or_eq.1 hj with h' | rfl
          · exact hg.2 j h'
          · exact h1⟩, by omega⟩
    · have hb : ¬ (g : Int) < (a.n : Int) := of_decide_eq_false hge
      unfold L.sameGs; rw [hd, allB_iff.2 (fun i hi => hg.2 i (by omega))]; rfl)
theorem r3_SameGauges_ok : SpecOk Try.prog 23 r3_SameGauges_S := fnX Try.func23 (c := bodyOf Try.f23) (by kernel_rfl) mixed (fun args p r hs hp => by
  unfold r3_SameGauges_s at hs
  split at hs
  · cases hs; exact ⟨_, _, r3_SameGauges_vc _ _ hp.2.2, (.p (.sl hp.1) (.p (.sl hp.2.1) .nil)), ⟨show SpecsL Try.prog _ from SpecsL.nil, rfl, ⟨show ItersL Try.prog _ from ItersL.nil, (TrsOk.none (fun _ => rfl))⟩⟩⟩
  · cases hs)
theorem r3_SameGauges_en : Enters Try.prog 23 := fun args w => by kernel_rfl
theorem r3_SameGauges_B : ∀ args p r, r3_SameGauges_s args = some (p, r) → ∃ b, r = .bool b := by
  intro args p r h
  unfold r3_SameGauges_s at h
  split at h
  · cases h; exact ⟨_, rfl⟩
  · cases h
def w_GlassGauges_p (l : (L.Sq L.Pt)) (g : (L.Sq L.Gauge)) (by_ : Int) : Prop := True
def w_GlassGauges_r (l : (L.Sq L.Pt)) (g : (L.Sq L.Gauge)) (by_ : Int) : SV := .bool true
def w_GlassGauges_s : List EV → Option (Prop × SV)
  | [.p (.sl 2 l_n l_g), .p (.sl 5 g_n g_g), .p (.int .i64 by_)] => some ((∀ i, i < l_n → l_g i = [.int .i64 ((ofPt (l_g i)).x), .int .i64 ((ofPt (l_g i)).y)]) ∧ (∀ i, i < g_n → g_g i = [.int .i64 ((ofGauge (g_g i)).edge.lo), .int .i64 ((ofGauge (g_g i)).edge.hi), .int .i64 ((ofGauge (g_g i)).across.lo), .int .i64 ((ofGauge (g_g i)).across.hi), .int .i64 ((ofGauge (g_g i)).bend)]) ∧ w_GlassGauges_p (⟨l_n, fun i => ofPt (l_g i)⟩ : (L.Sq L.Pt)) (⟨g_n, fun i => ofGauge (g_g i)⟩ : (L.Sq L.Gauge)) by_, w_GlassGauges_r (⟨l_n, fun i => ofPt (l_g i)⟩ : (L.Sq L.Pt)) (⟨g_n, fun i => ofGauge (g_g i)⟩ : (L.Sq L.Gauge)) by_)
  | _ => none
abbrev w_GlassGauges_S : SE.Spec := (specO w_GlassGauges_s)
def w_GlassGauges_C : Cfg := { muts := [], frz := lookN [], specs := lookS [(12, w_awake_S), (19, g_Gauges_S), (20, r3_Gauges_S), (21, g_Widen_S), (22, r3_Widen_S), (23, r3_SameGauges_S)], loops := lookL [], iters := lookI [], rfs := lookR [], nils := lookM [] }
theorem w_GlassGauges_vc (l : (L.Sq L.Pt)) (g : (L.Sq L.Gauge)) (by_ : Int) (hp : w_GlassGauges_p l g by_) : vc Try.prog (w_GlassGauges_C) (bodyOf Try.f5) (st0 Try.f5 [.p (.sl 2 l.n (fun i => [.int .i64 ((l.g i).x), .int .i64 ((l.g i).y)])), .p (.sl 5 g.n (fun i => [.int .i64 ((g.g i).edge.lo), .int .i64 ((g.g i).edge.hi), .int .i64 ((g.g i).across.lo), .int .i64 ((g.g i).across.hi), .int .i64 ((g.g i).bend)])), .p (.int .i64 by_)]) (retFn Try.prog Try.f5 (w_GlassGauges_r l g by_)) :=
  @Eq.mpr _ (True ∧ ((bif Decidable.decide ((60 : Int) < (↑l.n : Int)) then Bool.true else Decidable.decide ((60 : Int) < (↑g.n : Int))) = Bool.true → Bool.true = Bool.true) ∧ ((bif Decidable.decide ((60 : Int) < (↑l.n : Int)) then Bool.true else Decidable.decide ((60 : Int) < (↑g.n : Int))) = Bool.false → ((∀ (i : Nat), i < l.n → [Go.SE.SV.int Go.IntKind.i64 (l.g i).x, Go.SE.SV.int Go.IntKind.i64 (l.g i).y] =
 [Go.SE.SV.int Go.IntKind.i64 (l.g i).x, Go.SE.SV.int Go.IntKind.i64 (l.g i).y]) ∧ l.n ≤ (1000000 : Nat)) ∧ ((∀ (i : Nat), i < l.n → [Go.SE.SV.int Go.IntKind.i64 (l.g i).x, Go.SE.SV.int Go.IntKind.i64 (l.g i).y] = [Go.SE.SV.int Go.IntKind.i64 (l.g i).x, Go.SE.SV.int Go.IntKind.i64 (l.g i).y]) ∧ l.n ≤ (1000000 : Nat)) ∧ ((∀ (i : Nat), i < g.n → [Go.SE.SV.int Go.IntKind.i64 (g.g i).edge.lo,
 Go.SE.SV.int Go.IntKind.i64 (g.g i).edge.hi, Go.SE.SV.int Go.IntKind.i64 (g.g i).across.lo, Go.SE.SV.int Go.IntKind.i64 (g.g i).across.hi, Go.SE.SV.int Go.IntKind.i64 (g.g i).bend] = [Go.SE.SV.int Go.IntKind.i64 (g.g i).edge.lo, Go.SE.SV.int Go.IntKind.i64 (g.g i).edge.hi, Go.SE.SV.int Go.IntKind.i64 (g.g i).across.lo, Go.SE.SV.int Go.IntKind.i64 (g.g i).across.hi, Go.SE.SV.int Go.IntKind.i64 (g.g
 i).bend]) ∧ g.n ≤ (1000000 : Nat)) ∧ ((∀ (i : Nat), i < g.n → [Go.SE.SV.int Go.IntKind.i64 (g.g i).edge.lo, Go.SE.SV.int Go.IntKind.i64 (g.g i).edge.hi, Go.SE.SV.int Go.IntKind.i64 (g.g i).across.lo, Go.SE.SV.int Go.IntKind.i64 (g.g i).across.hi, Go.SE.SV.int Go.IntKind.i64 (g.g i).bend] = [Go.SE.SV.int Go.IntKind.i64 (g.g i).edge.lo, Go.SE.SV.int Go.IntKind.i64 (g.g i).edge.hi, Go.SE.SV.int
 Go.IntKind.i64 (g.g i).across.lo, Go.SE.SV.int Go.IntKind.i64 (g.g i).across.hi, Go.SE.SV.int Go.IntKind.i64 (g.g i).bend]) ∧ g.n ≤ (1000000 : Nat)) ∧ ((bif Bool.true then Decidable.decide ((bif L.validOutline (L.Sq.mk l.n fun (i : Nat) ↦ l.g i) then (0 : Int) else (1 : Int)) = bif L.validOutline (L.Sq.mk l.n fun (i : Nat) ↦ l.g i) then (0 : Int) else (1 : Int)) else Bool.false) = Bool.true → (∀
 (i : Nat), (i < bif L.validOutline (L.Sq.mk l.n fun (i : Nat) ↦ l.g i) then l.n else (0 : Nat)) → [Go.SE.SV.int Go.IntKind.i64 (L.gaugeOf (L.Sq.mk l.n fun (i : Nat) ↦ l.g i) i).edge.lo, Go.SE.SV.int Go.IntKind.i64 (L.gaugeOf (L.Sq.mk l.n fun (i : Nat) ↦ l.g i) i).edge.hi, Go.SE.SV.int Go.IntKind.i64 (L.gaugeOf (L.Sq.mk l.n fun (i : Nat) ↦ l.g i) i).across.lo, Go.SE.SV.int Go.IntKind.i64 (L.gaugeOf
 (L.Sq.mk l.n fun (i : Nat) ↦ l.g i) i).across.hi, Go.SE.SV.int Go.IntKind.i64 (L.gaugeOf (L.Sq.mk l.n fun (i : Nat) ↦ l.g i) i).bend] = [Go.SE.SV.int Go.IntKind.i64 (L.gaugeOf (L.Sq.mk l.n fun (i : Nat) ↦ l.g i) i).edge.lo, Go.SE.SV.int Go.IntKind.i64 (L.gaugeOf (L.Sq.mk l.n fun (i : Nat) ↦ l.g i) i).edge.hi, Go.SE.SV.int Go.IntKind.i64 (L.gaugeOf (L.Sq.mk l.n fun (i : Nat) ↦ l.g i) i).across.lo,
 Go.SE.SV.int Go.IntKind.i64 (L.gaugeOf (L.Sq.mk l.n fun (i : Nat) ↦ l.g i) i).across.hi, Go.SE.SV.int Go.IntKind.i64 (L.gaugeOf (L.Sq.mk l.n fun (i : Nat) ↦ l.g i) i).bend]) ∧ (∀ (i : Nat), (i < bif L.validOutline (L.Sq.mk l.n fun (i : Nat) ↦ l.g i) then l.n else (0 : Nat)) → [Go.SE.SV.int Go.IntKind.i64 (L.gaugeOf (L.Sq.mk l.n fun (i : Nat) ↦ l.g i) i).edge.lo, Go.SE.SV.int Go.IntKind.i64
 (L.gaugeOf (L.Sq.mk l.n fun (i : Nat) ↦ l.g i) i).edge.hi, Go.SE.SV.int Go.IntKind.i64 (L.gaugeOf (L.Sq.mk l.n fun (i : Nat) ↦ l.g i) i).across.lo, Go.SE.SV.int Go.IntKind.i64 (L.gaugeOf (L.Sq.mk l.n fun (i : Nat) ↦ l.g i) i).across.hi, Go.SE.SV.int Go.IntKind.i64 (L.gaugeOf (L.Sq.mk l.n fun (i : Nat) ↦ l.g i) i).bend] = [Go.SE.SV.int Go.IntKind.i64 (L.gaugeOf (L.Sq.mk l.n fun (i : Nat) ↦ l.g i)
 i).edge.lo, Go.SE.SV.int Go.IntKind.i64 (L.gaugeOf (L.Sq.mk l.n fun (i : Nat) ↦ l.g i) i).edge.hi, Go.SE.SV.int Go.IntKind.i64 (L.gaugeOf (L.Sq.mk l.n fun (i : Nat) ↦ l.g i) i).across.lo, Go.SE.SV.int Go.IntKind.i64 (L.gaugeOf (L.Sq.mk l.n fun (i : Nat) ↦ l.g i) i).across.hi, Go.SE.SV.int Go.IntKind.i64 (L.gaugeOf (L.Sq.mk l.n fun (i : Nat) ↦ l.g i) i).bend]) ∧ (bif L.validOutline (L.Sq.mk l.n fun
 (i : Nat) ↦ l.g i) then l.n else (0 : Nat)) ≤ (1000000 : Nat)) ∧ ((bif bif bif Bool.true then Decidable.decide ((bif L.validOutline (L.Sq.mk l.n fun (i : Nat) ↦ l.g i) then (0 : Int) else (1 : Int)) = bif L.validOutline (L.Sq.mk l.n fun (i : Nat) ↦ l.g i) then (0 : Int) else (1 : Int)) else Bool.false then L.sameGs (L.Sq.mk (bif L.validOutline (L.Sq.mk l.n fun (i : Nat) ↦ l.g i) then l.n else (0 :
 Nat)) fun (i : Nat) ↦ L.gaugeOf (L.Sq.mk l.n fun (i : Nat) ↦ l.g i) i) (L.Sq.mk (bif L.validOutline (L.Sq.mk l.n fun (i : Nat) ↦ l.g i) then l.n else (0 : Nat)) fun (i : Nat) ↦ L.gaugeOf (L.Sq.mk l.n fun (i : Nat) ↦ l.g i) i) else Bool.false then Decidable.decide ((bif L.wBad (L.Sq.mk g.n fun (i : Nat) ↦ g.g i) by_ then (1 : Int) else (0 : Int)) = bif L.wBad (L.Sq.mk g.n fun (i : Nat) ↦ g.g i) by_
 then (1 : Int) else (0 : Int)) else Bool.false) = Bool.true → (∀ (i : Nat), i < L.wN (L.Sq.mk g.n fun (i : Nat) ↦ g.g i) by_ → [Go.SE.SV.int Go.IntKind.i64 (L.widen (g.g i) by_).edge.lo, Go.SE.SV.int Go.IntKind.i64 (L.widen (g.g i) by_).edge.hi, Go.SE.SV.int Go.IntKind.i64 (L.widen (g.g i) by_).across.lo, Go.SE.SV.int Go.IntKind.i64 (L.widen (g.g i) by_).across.hi, Go.SE.SV.int Go.IntKind.i64
 (L.widen (g.g i) by_).bend] = [Go.SE.SV.int Go.IntKind.i64 (L.widen (g.g i) by_).edge.lo, Go.SE.SV.int Go.IntKind.i64 (L.widen (g.g i) by_).edge.hi, Go.SE.SV.int Go.IntKind.i64 (L.widen (g.g i) by_).across.lo, Go.SE.SV.int Go.IntKind.i64 (L.widen (g.g i) by_).across.hi, Go.SE.SV.int Go.IntKind.i64 (L.widen (g.g i) by_).bend]) ∧ (∀ (i : Nat), i < L.wN (L.Sq.mk g.n fun (i : Nat) ↦ g.g i) by_ →
 [Go.SE.SV.int Go.IntKind.i64 (L.widen (g.g i) by_).edge.lo, Go.SE.SV.int Go.IntKind.i64 (L.widen (g.g i) by_).edge.hi, Go.SE.SV.int Go.IntKind.i64 (L.widen (g.g i) by_).across.lo, Go.SE.SV.int Go.IntKind.i64 (L.widen (g.g i) by_).across.hi, Go.SE.SV.int Go.IntKind.i64 (L.widen (g.g i) by_).bend] = [Go.SE.SV.int Go.IntKind.i64 (L.widen (g.g i) by_).edge.lo, Go.SE.SV.int Go.IntKind.i64 (L.widen (g.g
 i) by_).edge.hi, Go.SE.SV.int Go.IntKind.i64 (L.widen (g.g i) by_).across.lo, Go.SE.SV.int Go.IntKind.i64 (L.widen (g.g i) by_).across.hi, Go.SE.SV.int Go.IntKind.i64 (L.widen (g.g i) by_).bend]) ∧ L.wN (L.Sq.mk g.n fun (i : Nat) ↦ g.g i) by_ ≤ (1000000 : Nat)) ∧ (bif bif bif bif Bool.true then Decidable.decide ((bif L.validOutline (L.Sq.mk l.n fun (i : Nat) ↦ l.g i) then (0 : Int) else (1 : Int))
 = bif L.validOutline (L.Sq.mk l.n fun (i : Nat) ↦ l.g i) then (0 : Int) else (1 : Int)) else Bool.false then L.sameGs (L.Sq.mk (bif L.validOutline (L.Sq.mk l.n fun (i : Nat) ↦ l.g i) then l.n else (0 : Nat)) fun (i : Nat) ↦ L.gaugeOf (L.Sq.mk l.n fun (i : Nat) ↦ l.g i) i) (L.Sq.mk (bif L.validOutline (L.Sq.mk l.n fun (i : Nat) ↦ l.g i) then l.n else (0 : Nat)) fun (i : Nat) ↦ L.gaugeOf (L.Sq.mk
 l.n fun (i : Nat) ↦ l.g i) i) else Bool.false then Decidable.decide ((bif L.wBad (L.Sq.mk g.n fun (i : Nat) ↦ g.g i) by_ then (1 : Int) else (0 : Int)) = bif L.wBad (L.Sq.mk g.n fun (i : Nat) ↦ g.g i) by_ then (1 : Int) else (0 : Int)) else Bool.false then L.sameGs (L.Sq.mk (L.wN (L.Sq.mk g.n fun (i : Nat) ↦ g.g i) by_) fun (i : Nat) ↦ L.widen (g.g i) by_) (L.Sq.mk (L.wN (L.Sq.mk g.n fun (i : Nat)
 ↦ g.g i) by_) fun (i : Nat) ↦ L.widen (g.g i) by_) else Bool.false) = Bool.true)) (by kernel_rfl) (by
    refine ⟨trivial, fun _ => rfl, fun h => ?_⟩
    have hs : l.n ≤ 60 ∧ g.n ≤ 60 := by
      simp only [bor, Bool.or_eq_false_iff, decide_eq_false_iff_not] at h; omega
    have h1 : (bif L.validOutline l then l.n else 0) ≤ 1000000 := by
      cases L.validOutline l
      · exact Nat.zero_le _
      · show l.n ≤ 1000000; omega
    have h2 : L.wN g by_ ≤ 1000000 := by
      unfold L.wN
      cases L.wBad g by_
      · show g.n ≤ 1000000; omega
      · exact Nat.zero_le _
    refine ⟨⟨fun _ _ => rfl, by omega⟩, ⟨fun _ _ => rfl, by omega⟩, ⟨fun _ _ => rfl, by omega⟩, ⟨fun _ _ => rfl, by omega⟩, fun _ => ⟨fun _ _ => rfl, fun _ _ => rfl, h1⟩, fun _ => ⟨fun _ _ => rfl, fun _ _ => rfl, h2⟩, ?_⟩
    rw [sameGs_refl, sameGs_refl]
    simp only [decide_true, cond_true])
theorem w_GlassGauges_ok : SpecOk Try.prog 5 w_GlassGauges_S := fnX Try.func5 (c := bodyOf Try.f5) (by kernel_rfl) mixed (fun args p r hs hp => by
  unfold w_GlassGauges_s at hs
  split at hs
  · cases hs; exact ⟨_, _, w_GlassGauges_vc _ _ _ hp.2.2, (.p (.sl hp.1) (.p (.sl hp.2.1) (.same _ .nil))), ⟨show SpecsL Try.prog _ from (SpecsL.cons w_awake_ok w_awake_en (SpecsL.cons g_Gauges_ok g_Gauges_en (SpecsL.cons r3_Gauges_ok r3_Gauges_en (SpecsL.cons g_Widen_ok g_Widen_en (SpecsL.cons r3_Widen_ok r3_Widen_en (SpecsL.cons r3_SameGauges_ok r3_SameGauges_en SpecsL.nil)))))), rfl, ⟨show ItersL Try.prog _ from ItersL.nil, (TrsOk.none (fun _ => rfl))⟩⟩⟩
  · cases hs)
theorem w_GlassGauges_en : Enters Try.prog 5 := fun args w => by kernel_rfl
theorem w_GlassGauges_B : ∀ args p r, w_GlassGauges_s args = some (p, r) → ∃ b, r = .bool b := by
  intro args p r h
  unfold w_GlassGauges_s at h
  split at h
  · cases h; exact ⟨_, rfl⟩
  · cases h
end Go.Proofs.Ytipaekbdalahdaa
