/- A symbolic walk over the model, and what it shows of functions of the program: parts of the proof that the text of the row joins. -/
import Derived.Test.YtipaekbdalahdaaW3
import Derived.Test.YtipaekbdalahdaaE3
import Derived.KernelRfl

namespace Go.Proofs.Ytipaekbdalahdaa
open Go.SE Go.RowKit
set_option maxRecDepth 100000
set_option maxHeartbeats 4000000
set_option linter.unusedVariables false
attribute [local irreducible] Go.SE.vc

def L.vSpan (s : L.Span) (least : Int) : Bool := bif (bif decide (least ≤ s.lo) then decide (s.lo ≤ s.hi) else false) then decide (s.hi ≤ 33554432) else false
def L.vGauge (g : L.Gauge) : Bool := bif (bif L.vSpan g.edge 1 then L.vSpan g.across 0 else false) then L.within g.bend (-1) 1 else false
def L.gauges (l : L.Sq L.Gauge) : Bool := bif L.within l.n 3 24 then L.allB l.n (fun i => L.vGauge (l.g i)) else false
def L.edges (l : L.Sq L.Mark) (n : Int) : Bool := L.allB l.n (fun i => L.within (l.g i).edge 0 (n - 1))
def L.vMarks (l : L.Sq L.Mark) (n : Int) : Bool := bif L.edges l n then L.marks l else false
def L.badMk (m : L.Mark) (n : Int) : Bool := bif (bif !L.within m.edge 0 (n - 1) then true else !L.within m.place 0 16) then true else !L.within m.tone 1 16
def L.nums (p : L.Piece) : Bool := bif (bif (bif (bif L.within p.id 1 65535 then L.within p.colour 1 16 else false) then L.within p.rev 1 16 else false) then L.within p.made 0 9999 else false) then L.within p.swell (-64) 64 else false
def L.validPiece (p : L.Piece) : Bool := bif (bif L.nums p then L.gauges p.gauges else false) then L.vMarks p.marks p.gauges.n else false
def L.validFilm (f : L.Film) : Bool := bif (bif L.within f.id 1 65535 then L.within f.grey.n 1 16 else false) then L.allB f.grey.n (fun i => L.within (f.grey.g i) 0 255) else false
def L.few (p : L.Piece) (l : L.Sq L.Pt) : Bool := bif (bif decide ((p.gauges.n : Int) ≤ 60) then decide ((p.marks.n : Int) ≤ 100) else false) then decide ((l.n : Int) ≤ 60) else false
theorem band (a b : Bool) : (bif a then b else false) = (a && b) := by cases a <;> rfl
theorem bor (a b : Bool) : (bif a then true else b) = (a || b) := by cases a <;> rfl
theorem not_any_not {n : Nat} {f : Nat → Bool} : (!L.anyB n (fun i => !f i)) = L.allB n f := by
  rw [not_anyB]
  exact congrArg (L.allB n) (funext fun i => Bool.not_not (f i))
theorem cmpMark_lt {a b : L.Mark} : L.cmpMark a b < 0 ↔ L.earlier a b = true := by
  unfold L.cmpMark L.or2 L.cmp L.earlier
  rcases Int.lt_trichotomy a.edge b.edge with h1 | h1 | h1 <;> rcases Int.lt_trichotomy a.place b.place with h2 | h2 | h2 <;> rcases Int.lt_trichotomy a.tone b.tone with h3 | h3 | h3 <;> grind
theorem rise_iff {n : Nat} {f : Nat → Int} : L.rise n f = true ↔ ∀ i, i < n → 0 < i → f i < 0 := by
  unfold L.rise
  rw [allB_iff]
  refine forall_congr' fun i => forall_congr' fun _ => ?_
  by_cases h : 0 < i
  · have h' : (0 : Int) < (i : Int) := by omega
    simp [h, h', Int.not_le]
  · have h' : ¬ (0 : Int) < (i : Int) := by omega
    simp [h, h']
theorem vMarks_eq {l : L.Sq L.Mark} {n : Int} : (bif (bif decide ((l.n : Int) ≤ 32) then L.rise l.n (fun i => L.cmpMark (l.g (i - 1)) (l.g i)) else false) then !L.anyB l.n (fun i => L.badMk (l.g i) n) else false) = L.vMarks l n := by
  rw [not_anyB, Bool.eq_iff_iff]
  unfold L.vMarks L.marks L.edges
  simp only [band, Bool.and_eq_true, decide_eq_true_eq, rise_iff, allB_iff, cmpMark_lt, L.badMk, L.mark1, bor, Bool.not_eq_true', Bool.or_eq_false_iff, Bool.not_eq_false']
  constructor
  · rintro ⟨⟨h1, h2⟩, h3⟩
    refine ⟨fun i hi => (h3 i hi).1.1, by omega, fun i hi => ⟨⟨(h3 i hi).1.2, (h3 i hi).2⟩, ?_⟩⟩
    by_cases h : 0 < i
    · simp [h, h2 i hi h]
    · simp [h]
  · rintro ⟨h1, h2, h3⟩
    refine ⟨⟨by omega, fun i hi h => ?_⟩, fun i hi => ⟨⟨h1 i hi, (h3 i hi).1.1⟩, (h3 i hi).1.2⟩⟩
    have := (h3 i hi).2
    simpa [h] using this
theorem few_iff {p : L.Piece} {l : L.Sq L.Pt} : L.few p l = true ↔ p.gauges.n ≤ 60 ∧ p.marks.n ≤ 100 ∧ l.n ≤ 60 := by
  unfold L.few
  simp only [band, Bool.and_eq_true, decide_eq_true_eq]
  omega
def ofFilm : List SV → L.Film
  | [.int _ a, .sl _ n g] => ⟨a, ⟨n, fun i => intOf (g i)⟩⟩
  | _ => ⟨0, ⟨0, fun _ => 0⟩⟩
def g_validSpan_p (s : L.Span) (n : Int) : Prop := True
def g_validSpan_r (s : L.Span) (n : Int) : SV := .bool (L.vSpan s n)
def g_validSpan_s : List EV → Option (Prop × SV)
  | [.p (.agg [.int .i64 s_lo, .int .i64 s_hi]), .p (.int .i64 n)] => some (g_validSpan_p (⟨s_lo, s_hi⟩ : L.Span) n, g_validSpan_r (⟨s_lo, s_hi⟩ : L.Span) n)
  | _ => none
abbrev g_validSpan_S : SE.Spec := (specO g_validSpan_s)
def g_validSpan_C : Cfg := { muts := [], frz := lookN [], specs := lookS [], loops := lookL [], iters := lookI [], rfs := lookR [], nils := lookM [] }
theorem g_validSpan_vc (s : L.Span) (n : Int) (hp : g_validSpan_p s n) : vc Try.prog (g_validSpan_C) (bodyOf Try.f145) (st0 Try.f145 [.p (.agg [.int .i64 s.lo, .int .i64 s.hi]), .p (.int .i64 n)]) (retFn Try.prog Try.f145 (g_validSpan_r s n)) :=
  @Eq.mpr _ ((bif bif Decidable.decide (n ≤ s.lo) then Decidable.decide (s.lo ≤ s.hi) else Bool.false then Decidable.decide (s.hi ≤ (33554432 : Int)) else Bool.false) =
  Go.Proofs.Ytipaekbdalahdaa.L.vSpan s n) (by kernel_rfl) (by
    rfl)
theorem g_validSpan_ok : SpecOk Try.prog 145 g_validSpan_S := fnX Try.func145 (c := bodyOf Try.f145) (by kernel_rfl) mixed (fun args p r hs hp => by
  unfold g_validSpan_s at hs
  split at hs
  · cases hs; exact ⟨_, _, g_validSpan_vc _ _ hp, (.same _ (.same _ .nil)), ⟨show SpecsL Try.prog _ from SpecsL.nil, rfl, ⟨show ItersL Try.prog _ from ItersL.nil, (TrsOk.none (fun _ => rfl))⟩⟩⟩
  · cases hs)
theorem g_validSpan_en : Enters Try.prog 145 := fun args w => by kernel_rfl
theorem g_validSpan_B : ∀ args p r, g_validSpan_s args = some (p, r) → ∃ b, r = .bool b := by
  intro args p r h
  unfold g_validSpan_s at h
  split at h
  · cases h; exact ⟨_, rfl⟩
  · cases h
def g_validGauge_p (g : L.Gauge) : Prop := True
def g_validGauge_r (g : L.Gauge) : SV := .bool (L.vGauge g)
def g_validGauge_s : List EV → Option (Prop × SV)
  | [.p (.agg [.int .i64 g_edge_lo, .int .i64 g_edge_hi, .int .i64 g_across_lo, .int .i64 g_across_hi, .int .i64 g_bend])] => some (g_validGauge_p (⟨(⟨g_edge_lo, g_edge_hi⟩ : L.Span), (⟨g_across_lo, g_across_hi⟩ : L.Span), g_bend⟩ : L.Gauge), g_validGauge_r (⟨(⟨g_edge_lo, g_edge_hi⟩ : L.Span), (⟨g_across_lo, g_across_hi⟩ : L.Span), g_bend⟩ : L.Gauge))
  | _ => none
abbrev g_validGauge_S : SE.Spec := (specO g_validGauge_s)
def g_validGauge_C : Cfg := { muts := [], frz := lookN [], specs := lookS [(145, g_validSpan_S), (52, g_within_S)], loops := lookL [], iters := lookI [], rfs := lookR [], nils := lookM [] }
theorem g_validGauge_vc (g : L.Gauge) (hp : g_validGauge_p g) : vc Try.prog (g_validGauge_C) (bodyOf Try.f108) (st0 Try.f108 [.p (.agg [.int .i64 g.edge.lo, .int .i64 g.edge.hi, .int .i64 g.across.lo, .int .i64 g.across.hi, .int .i64 g.bend])]) (retFn Try.prog Try.f108 (g_validGauge_r g)) :=
  @Eq.mpr _ (True ∧
  (Go.Proofs.Ytipaekbdalahdaa.L.vSpan g.edge (1 : Int) = Bool.true → True) ∧
    ((bif Go.Proofs.Ytipaekbdalahdaa.L.vSpan g.edge (1 : Int) then Go.Proofs.Ytipaekbdalahdaa.L.vSpan g.across (0 : Int) else Bool.false) = Bool.true → True) ∧
      (bif bif Go.Proofs.Ytipaekbdalahdaa.L.vSpan g.edge (1 : Int) then Go.Proofs.Ytipaekbdalahdaa.L.vSpan g.across (0 : Int) else Bool.false then
          Go.Proofs.Ytipaekbdalahdaa.L.within g.bend (-1 : Int) (1 : Int)
        else Bool.false) =
        Go.Proofs.Ytipaekbdalahdaa.L.vGauge g) (by kernel_rfl) (by
    exact ⟨trivial, fun _ => trivial, fun _ => trivial, rfl⟩)
theorem g_validGauge_ok : SpecOk Try.prog 108 g_validGauge_S := fnX Try.func108 (c := bodyOf Try.f108) (by kernel_rfl) mixed (fun args p r hs hp => by
  unfold g_validGauge_s at hs
  split at hs
  · cases hs; exact ⟨_, _, g_validGauge_vc _ hp, (.same _ .nil), ⟨show SpecsL Try.prog _ from (SpecsL.cons g_validSpan_ok g_validSpan_en (SpecsL.cons g_within_ok g_within_en SpecsL.nil)), rfl, ⟨show ItersL Try.prog _ from ItersL.nil, (TrsOk.none (fun _ => rfl))⟩⟩⟩
  · cases hs)
theorem g_validGauge_en : Enters Try.prog 108 := fun args w => by kernel_rfl
theorem g_validGauge_B : ∀ args p r, g_validGauge_s args = some (p, r) → ∃ b, r = .bool b := by
  intro args p r h
  unfold g_validGauge_s at h
  split at h
  · cases h; exact ⟨_, rfl⟩
  · cases h
def g_validGauges1_p (g : L.Gauge) : Prop := True
def g_validGauges1_r (g : L.Gauge) : SV := .bool (!L.vGauge g)
def g_validGauges1_s : List EV → Option (Prop × SV)
  | [.p (.agg [.int .i64 g_edge_lo, .int .i64 g_edge_hi, .int .i64 g_across_lo, .int .i64 g_across_hi, .int .i64 g_bend])] => some (g_validGauges1_p (⟨(⟨g_edge_lo, g_edge_hi⟩ : L.Span), (⟨g_across_lo, g_across_hi⟩ : L.Span), g_bend⟩ : L.Gauge), g_validGauges1_r (⟨(⟨g_edge_lo, g_edge_hi⟩ : L.Span), (⟨g_across_lo, g_across_hi⟩ : L.Span), g_bend⟩ : L.Gauge))
  | _ => none
abbrev g_validGauges1_S : SE.Spec := (specO g_validGauges1_s)
def g_validGauges1_C : Cfg := { muts := [], frz := lookN [], specs := lookS [(108, g_validGauge_S)], loops := lookL [], iters := lookI [], rfs := lookR [], nils := lookM [] }
theorem g_validGauges1_vc (g : L.Gauge) (hp : g_validGauges1_p g) : vc Try.prog (g_validGauges1_C) (bodyOf Try.f107) (st0 Try.f107 [.p (.agg [.int .i64 g.edge.lo, .int .i64 g.edge.hi, .int .i64 g.across.lo, .int .i64 g.across.hi, .int .i64 g.bend])]) (retFn Try.prog Try.f107 (g_validGauges1_r g)) :=
  @Eq.mpr _ (True ∧ (!Go.Proofs.Ytipaekbdalahdaa.L.vGauge g) = !Go.Proofs.Ytipaekbdalahdaa.L.vGauge g) (by kernel_rfl) (by
    exact ⟨trivial, rfl⟩)
theorem g_validGauges1_ok : SpecOk Try.prog 107 g_validGauges1_S := fnX Try.func107 (c := bodyOf Try.f107) (by kernel_rfl) mixed (fun args p r hs hp => by
  unfold g_validGauges1_s at hs
  split at hs
  · cases hs; exact ⟨_, _, g_validGauges1_vc _ hp, (.same _ .nil), ⟨show SpecsL Try.prog _ from (SpecsL.cons g_validGauge_ok g_validGauge_en SpecsL.nil), rfl, ⟨show ItersL Try.prog _ from ItersL.nil, (TrsOk.none (fun _ => rfl))⟩⟩⟩
  · cases hs)
theorem g_validGauges1_en : Enters Try.prog 107 := fun args w => by kernel_rfl
theorem g_validGauges1_B : ∀ args p r, g_validGauges1_s args = some (p, r) → ∃ b, r = .bool b := by
  intro args p r h
  unfold g_validGauges1_s at h
  split at h
  · cases h; exact ⟨_, rfl⟩
  · cases h
def g_validGauges_p (l : (L.Sq L.Gauge)) : Prop := l.n ≤ 1000000
def g_validGauges_r (l : (L.Sq L.Gauge)) : SV := .bool (L.gauges l)
def g_validGauges_s : List EV → Option (Prop × SV)
  | [.p (.sl 5 l_n l_g)] => some ((∀ i, i < l_n → l_g i = [.int .i64 ((ofGauge (l_g i)).edge.lo), .int .i64 ((ofGauge (l_g i)).edge.hi), .int .i64 ((ofGauge (l_g i)).across.lo), .int .i64 ((ofGauge (l_g i)).across.hi), .int .i64 ((ofGauge (l_g i)).bend)]) ∧ g_validGauges_p (⟨l_n, fun i => ofGauge (l_g i)⟩ : (L.Sq L.Gauge)), g_validGauges_r (⟨l_n, fun i => ofGauge (l_g i)⟩ : (L.Sq L.Gauge)))
  | _ => none
abbrev g_validGauges_S : SE.Spec := (specO g_validGauges_s)
def g_validGauges_C : Cfg := { muts := [], frz := lookN [], specs := lookS [(52, g_within_S), (106, s_conFG_S), (107, g_validGauges1_S)], loops := lookL [], iters := lookI [], rfs := lookR [], nils := lookM [] }
theorem g_validGauges_vc (l : (L.Sq L.Gauge)) (hp : g_validGauges_p l) : vc Try.prog (g_validGauges_C) (bodyOf Try.f57) (st0 Try.f57 [.p (.sl 5 l.n (fun i => [.int .i64 ((l.g i).edge.lo), .int .i64 ((l.g i).edge.hi), .int .i64 ((l.g i).across.lo), .int .i64 ((l.g i).across.hi), .int .i64 ((l.g i).bend)]))]) (retFn Try.prog Try.f57 (g_validGauges_r l)) :=
  @Eq.mpr _ (True ∧
  (Go.Proofs.Ytipaekbdalahdaa.L.within (↑l.n : Int) (3 : Int) (24 : Int) = Bool.true →
      (∀ (i : Nat),
          i < l.n →
            [Go.SE.SV.int Go.IntKind.i64 (l.g i).edge.lo, Go.SE.SV.int Go.IntKind.i64 (l.g i).edge.hi, Go.SE.SV.int Go.IntKind.i64 (l.g i).across.lo,
                Go.SE.SV.int Go.IntKind.i64 (l.g i).across.hi, Go.SE.SV.int Go.IntKind.i64 (l.g i).bend] =
              [Go.SE.SV.int Go.IntKind.i64 (l.g i).edge.lo, Go.SE.SV.int Go.IntKind.i64 (l.g i).edge.hi, Go.SE.SV.int Go.IntKind.i64 (l.g i).across.lo,
                Go.SE.SV.int Go.IntKind.i64 (l.g i).across.hi, Go.SE.SV.int Go.IntKind.i64 (l.g i).bend]) ∧
        Go.SE.isB
            (Go.SE.FSpec.mk
              (fun («as» : List Go.SE.SV) ↦ Go.SE.preO Go.Proofs.Ytipaekbdalahdaa.g_validGauges1_s (List.map Go.SE.EV.p «as» ++ List.map Go.SE.EV.p []))
              fun («as» : List Go.SE.SV) ↦ Go.SE.resO Go.Proofs.Ytipaekbdalahdaa.g_validGauges1_s (List.map Go.SE.EV.p «as» ++ List.map Go.SE.EV.p [])) ∧
          l.n ≤ (1000000 : Nat) ∧ ∀ (i : Nat), i < l.n → True) ∧
    (bif Go.Proofs.Ytipaekbdalahdaa.L.within (↑l.n : Int) (3 : Int) (24 : Int) then
        !Go.Proofs.Ytipaekbdalahdaa.L.anyB l.n fun (i : Nat) ↦
            Go.Proofs.Ytipaekbdalahdaa.L.fbl
              (Go.SE.FSpec.mk
                (fun («as» : List Go.SE.SV) ↦ Go.SE.preO Go.Proofs.Ytipaekbdalahdaa.g_validGauges1_s (List.map Go.SE.EV.p «as» ++ List.map Go.SE.EV.p []))
                fun («as» : List Go.SE.SV) ↦ Go.SE.resO Go.Proofs.Ytipaekbdalahdaa.g_validGauges1_s (List.map Go.SE.EV.p «as» ++ List.map Go.SE.EV.p []))
              [Go.SE.SV.agg
                  [Go.SE.SV.int Go.IntKind.i64 (l.g i).edge.lo, Go.SE.SV.int Go.IntKind.i64 (l.g i).edge.hi, Go.SE.SV.int Go.IntKind.i64 (l.g i).across.lo,
                    Go.SE.SV.int Go.IntKind.i64 (l.g i).across.hi, Go.SE.SV.int Go.IntKind.i64 (l.g i).bend]]
      else Bool.false) =
      Go.Proofs.Ytipaekbdalahdaa.L.gauges l) (by kernel_rfl) (by
    refine ⟨trivial, fun _ => ⟨fun _ _ => rfl, isB_of g_validGauges1_B _, hp, fun _ _ => trivial⟩, ?_⟩
    exact congrArg (fun b => bif L.within l.n 3 24 then b else false) (not_any_not (f := fun i => L.vGauge (l.g i))))
theorem g_validGauges_ok : SpecOk Try.prog 57 g_validGauges_S := fnX Try.func57 (c := bodyOf Try.f57) (by kernel_rfl) mixed (fun args p r hs hp => by
  unfold g_validGauges_s at hs
  split at hs
  · cases hs; exact ⟨_, _, g_validGauges_vc _ hp.2, (.p (.sl hp.1) .nil), ⟨show SpecsL Try.prog _ from (SpecsL.cons g_within_ok g_within_en (SpecsL.cons s_conFG_ok s_conFG_en (SpecsL.cons g_validGauges1_ok g_validGauges1_en SpecsL.nil))), rfl, ⟨show ItersL Try.prog _ from ItersL.nil, (TrsOk.none (fun _ => rfl))⟩⟩⟩
  · cases hs)
theorem g_validGauges_en : Enters Try.prog 57 := fun args w => by kernel_rfl
theorem g_validGauges_B : ∀ args p r, g_validGauges_s args = some (p, r) → ∃ b, r = .bool b := by
  intro args p r h
  unfold g_validGauges_s at h
  split at h
  · cases h; exact ⟨_, rfl⟩
  · cases h
def g_validMarks1_p (m : L.Mark) (n : Int) : Prop := -1000000 ≤ n ∧ n ≤ 1000000
def g_validMarks1_r (m : L.Mark) (n : Int) : SV := .bool (L.badMk m n)
def g_validMarks1_s : List EV → Option (Prop × SV)
  | [.p (.agg [.int .i64 m_edge, .int .i64 m_place, .int .i64 m_tone]), .p (.ref [.int .i64 n] 0)] => some (g_validMarks1_p (⟨m_edge, m_place, m_tone⟩ : L.Mark) n, g_validMarks1_r (⟨m_edge, m_place, m_tone⟩ : L.Mark) n)
  | _ => none
abbrev g_validMarks1_S : SE.Spec := (specO g_validMarks1_s)
def g_validMarks1_C : Cfg := { muts := [], frz := lookN [], specs := lookS [(52, g_within_S)], loops := lookL [], iters := lookI [], rfs := lookR [], nils := lookM [] }
theorem g_validMarks1_vc (m : L.Mark) (n : Int) (hp : g_validMarks1_p m n) : vc Try.prog (g_validMarks1_C) (bodyOf Try.f109) (st0 Try.f109 [.p (.agg [.int .i64 m.edge, .int .i64 m.place, .int .i64 m.tone]), .p (.ref [.int .i64 n] 0)]) (retFn Try.prog Try.f109 (g_validMarks1_r m n)) :=
  @Eq.mpr _ (Go.SE.InK Go.IntKind.i64 (n - (1 : Int)) ∧
  True ∧
    ((!!Go.Proofs.Ytipaekbdalahdaa.L.within m.edge (0 : Int) (n - (1 : Int))) = Bool.true → True) ∧
      ((!bif !Go.Proofs.Ytipaekbdalahdaa.L.within m.edge (0 : Int) (n - (1 : Int)) then Bool.true
              else !Go.Proofs.Ytipaekbdalahdaa.L.within m.place (0 : Int) (16 : Int)) =
            Bool.true →
          True) ∧
        (bif
              bif !Go.Proofs.Ytipaekbdalahdaa.L.within m.edge (0 : Int) (n - (1 : Int)) then Bool.true
              else !Go.Proofs.Ytipaekbdalahdaa.L.within m.place (0 : Int) (16 : Int) then
            Bool.true
          else !Go.Proofs.Ytipaekbdalahdaa.L.within m.tone (1 : Int) (16 : Int)) =
          Go.Proofs.Ytipaekbdalahdaa.L.badMk m n) (by kernel_rfl) (by
    obtain ⟨h1, h2⟩ := hp
    exact ⟨InK.of (by omega) (by omega), trivial, fun _ => trivial, fun _ => trivial, rfl⟩)
theorem g_validMarks1_ok : SpecOk Try.prog 109 g_validMarks1_S := fnX Try.func109 (c := bodyOf Try.f109) (by kernel_rfl) mixed (fun args p r hs hp => by
  unfold g_validMarks1_s at hs
  split at hs
  · cases hs; exact ⟨_, _, g_validMarks1_vc _ _ hp, (.same _ (.same _ .nil)), ⟨show SpecsL Try.prog _ from (SpecsL.cons g_within_ok g_within_en SpecsL.nil), rfl, ⟨show ItersL Try.prog _ from ItersL.nil, (TrsOk.none (fun _ => rfl))⟩⟩⟩
  · cases hs)
theorem g_validMarks1_en : Enters Try.prog 109 := fun args w => by kernel_rfl
theorem g_validMarks1_B : ∀ args p r, g_validMarks1_s args = some (p, r) → ∃ b, r = .bool b := by
  intro args p r h
  unfold g_validMarks1_s at h
  split at h
  · cases h; exact ⟨_, rfl⟩
  · cases h
def g_validMarks_p (l : (L.Sq L.Mark)) (n : Int) : Prop := l.n ≤ 1000000 ∧ -1000000 ≤ n ∧ n ≤ 1000000
def g_validMarks_r (l : (L.Sq L.Mark)) (n : Int) : SV := .bool (L.vMarks l n)
def g_validMarks_s : List EV → Option (Prop × SV)
  | [.p (.sl 3 l_n l_g), .p (.int .i64 n)] => some ((∀ i, i < l_n → l_g i = [.int .i64 ((ofMark (l_g i)).edge), .int .i64 ((ofMark (l_g i)).place), .int .i64 ((ofMark (l_g i)).tone)]) ∧ g_validMarks_p (⟨l_n, fun i => ofMark (l_g i)⟩ : (L.Sq L.Mark)) n, g_validMarks_r (⟨l_n, fun i => ofMark (l_g i)⟩ : (L.Sq L.Mark)) n)
  | _ => none
abbrev g_validMarks_S : SE.Spec := (specO g_validMarks_s)
def g_validMarks_C : Cfg := { muts := [], frz := lookN [], specs := lookS [(102, g_risingM_S), (103, g_cmpMarks_S), (104, s_conFM_S), (109, g_validMarks1_S)], loops := lookL [], iters := lookI [], rfs := lookR [], nils := lookM [] }
theorem g_validMarks_vc (l : (L.Sq L.Mark)) (n : Int) (hp : g_validMarks_p l n) : vc Try.prog (g_validMarks_C) (bodyOf Try.f58) (st0 Try.f58 [.p (.sl 3 l.n (fun i => [.int .i64 ((l.g i).edge), .int .i64 ((l.g i).place), .int .i64 ((l.g i).tone)])), .p (.int .i64 n)]) (retFn Try.prog Try.f58 (g_validMarks_r l n)) :=
  @Eq.mpr _ ((Decidable.decide ((↑l.n : Int) ≤ (32 : Int)) = Bool.true →
    (∀ (i : Nat),
        i < l.n →
          [Go.SE.SV.int Go.IntKind.i64 (l.g i).edge, Go.SE.SV.int Go.IntKind.i64 (l.g i).place, Go.SE.SV.int Go.IntKind.i64 (l.g i).tone] =
            [Go.SE.SV.int Go.IntKind.i64 (l.g i).edge, Go.SE.SV.int Go.IntKind.i64 (l.g i).place, Go.SE.SV.int Go.IntKind.i64 (l.g i).tone]) ∧
      Go.SE.isI
          (Go.SE.FSpec.mk (fun («as» : List Go.SE.SV) ↦ Go.SE.preO Go.Proofs.Ytipaekbdalahdaa.g_cmpMarks_s (List.map Go.SE.EV.p «as» ++ List.map Go.SE.EV.p []))
            fun («as» : List Go.SE.SV) ↦ Go.SE.resO Go.Proofs.Ytipaekbdalahdaa.g_cmpMarks_s (List.map Go.SE.EV.p «as» ++ List.map Go.SE.EV.p [])) ∧
        l.n ≤ (1000000 : Nat) ∧ ∀ (i : Nat), i + (1 : Nat) < l.n → True) ∧
  ((bif Decidable.decide ((↑l.n : Int) ≤ (32 : Int)) then
          Go.Proofs.Ytipaekbdalahdaa.L.rise l.n fun (i : Nat) ↦
            Go.Proofs.Ytipaekbdalahdaa.L.fil
              (Go.SE.FSpec.mk
                (fun («as» : List Go.SE.SV) ↦ Go.SE.preO Go.Proofs.Ytipaekbdalahdaa.g_cmpMarks_s (List.map Go.SE.EV.p «as» ++ List.map Go.SE.EV.p []))
                fun («as» : List Go.SE.SV) ↦ Go.SE.resO Go.Proofs.Ytipaekbdalahdaa.g_cmpMarks_s (List.map Go.SE.EV.p «as» ++ List.map Go.SE.EV.p []))
              [Go.SE.SV.agg
                  [Go.SE.SV.int Go.IntKind.i64 (l.g (i - (1 : Nat))).edge, Go.SE.SV.int Go.IntKind.i64 (l.g (i - (1 : Nat))).place,
                    Go.SE.SV.int Go.IntKind.i64 (l.g (i - (1 : Nat))).tone],
                Go.SE.SV.agg [Go.SE.SV.int Go.IntKind.i64 (l.g i).edge, Go.SE.SV.int Go.IntKind.i64 (l.g i).place, Go.SE.SV.int Go.IntKind.i64 (l.g i).tone]]
        else Bool.false) =
        Bool.true →
      (∀ (i : Nat),
          i < l.n →
            [Go.SE.SV.int Go.IntKind.i64 (l.g i).edge, Go.SE.SV.int Go.IntKind.i64 (l.g i).place, Go.SE.SV.int Go.IntKind.i64 (l.g i).tone] =
              [Go.SE.SV.int Go.IntKind.i64 (l.g i).edge, Go.SE.SV.int Go.IntKind.i64 (l.g i).place, Go.SE.SV.int Go.IntKind.i64 (l.g i).tone]) ∧
        Go.SE.isB
            (Go.SE.FSpec.mk
              (fun («as» : List Go.SE.SV) ↦
                Go.SE.preO Go.Proofs.Ytipaekbdalahdaa.g_validMarks1_s
                  (List.map Go.SE.EV.p «as» ++ List.map Go.SE.EV.p [Go.SE.SV.ref [Go.SE.SV.int Go.IntKind.i64 n] (nat_lit 0)]))
              fun («as» : List Go.SE.SV) ↦
              Go.SE.resO Go.Proofs.Ytipaekbdalahdaa.g_validMarks1_s
                (List.map Go.SE.EV.p «as» ++ List.map Go.SE.EV.p [Go.SE.SV.ref [Go.SE.SV.int Go.IntKind.i64 n] (nat_lit 0)])) ∧
          l.n ≤ (1000000 : Nat) ∧ ∀ (i : Nat), i < l.n → (-1000000 : Int) ≤ n ∧ n ≤ (1000000 : Int)) ∧
    (bif
          bif Decidable.decide ((↑l.n : Int) ≤ (32 : Int)) then
            Go.Proofs.Ytipaekbdalahdaa.L.rise l.n fun (i : Nat) ↦
              Go.Proofs.Ytipaekbdalahdaa.L.fil
                (Go.SE.FSpec.mk
                  (fun («as» : List Go.SE.SV) ↦ Go.SE.preO Go.Proofs.Ytipaekbdalahdaa.g_cmpMarks_s (List.map Go.SE.EV.p «as» ++ List.map Go.SE.EV.p []))
                  fun («as» : List Go.SE.SV) ↦ Go.SE.resO Go.Proofs.Ytipaekbdalahdaa.g_cmpMarks_s (List.map Go.SE.EV.p «as» ++ List.map Go.SE.EV.p []))
                [Go.SE.SV.agg
                    [Go.SE.SV.int Go.IntKind.i64 (l.g (i - (1 : Nat))).edge, Go.SE.SV.int Go.IntKind.i64 (l.g (i - (1 : Nat))).place,
                      Go.SE.SV.int Go.IntKind.i64 (l.g (i - (1 : Nat))).tone],
                  Go.SE.SV.agg [Go.SE.SV.int Go.IntKind.i64 (l.g i).edge, Go.SE.SV.int Go.IntKind.i64 (l.g i).place, Go.SE.SV.int Go.IntKind.i64 (l.g i).tone]]
          else Bool.false then
        !Go.Proofs.Ytipaekbdalahdaa.L.anyB l.n fun (i : Nat) ↦
            Go.Proofs.Ytipaekbdalahdaa.L.fbl
              (Go.SE.FSpec.mk
                (fun («as» : List Go.SE.SV) ↦
                  Go.SE.preO Go.Proofs.Ytipaekbdalahdaa.g_validMarks1_s
                    (List.map Go.SE.EV.p «as» ++ List.map Go.SE.EV.p [Go.SE.SV.ref [Go.SE.SV.int Go.IntKind.i64 n] (nat_lit 0)]))
                fun («as» : List Go.SE.SV) ↦
                Go.SE.resO Go.Proofs.Ytipaekbdalahdaa.g_validMarks1_s
                  (List.map Go.SE.EV.p «as» ++ List.map Go.SE.EV.p [Go.SE.SV.ref [Go.SE.SV.int Go.IntKind.i64 n] (nat_lit 0)]))
              [Go.SE.SV.agg [Go.SE.SV.int Go.IntKind.i64 (l.g i).edge, Go.SE.SV.int Go.IntKind.i64 (l.g i).place, Go.SE.SV.int Go.IntKind.i64 (l.g i).tone]]
      else Bool.false) =
      Go.Proofs.Ytipaekbdalahdaa.L.vMarks l n) (by kernel_rfl) (by
    obtain ⟨h1, h2⟩ := hp
    exact ⟨fun _ => ⟨fun _ _ => rfl, isI_of g_cmpMarks_I _, h1, fun _ _ => trivial⟩, fun _ => ⟨fun _ _ => rfl, isB_of g_validMarks1_B _, h1, fun _ _ => h2⟩, vMarks_eq⟩)
theorem g_validMarks_ok : SpecOk Try.prog 58 g_validMarks_S := fnX Try.func58 (c := bodyOf Try.f58) (by kernel_rfl) mixed (fun args p r hs hp => by
  unfold g_validMarks_s at hs
  split at hs
  · cases hs; exact ⟨_, _, g_validMarks_vc _ _ hp.2, (.p (.sl hp.1) (.same _ .nil)), ⟨show SpecsL Try.prog _ from (SpecsL.cons g_risingM_ok g_risingM_en (SpecsL.cons g_cmpMarks_ok g_cmpMarks_en (SpecsL.cons s_conFM_ok s_conFM_en (SpecsL.cons g_validMarks1_ok g_validMarks1_en SpecsL.nil)))), rfl, ⟨show ItersL Try.prog _ from ItersL.nil, (TrsOk.none (fun _ => rfl))⟩⟩⟩
  · cases hs)
theorem g_validMarks_en : Enters Try.prog 58 := fun args w => by kernel_rfl
theorem g_validMarks_B : ∀ args p r, g_validMarks_s args = some (p, r) → ∃ b, r = .bool b := by
  intro args p r h
  unfold g_validMarks_s at h
  split at h
  · cases h; exact ⟨_, rfl⟩
  · cases h
def g_ValidPiece_p (p : L.Piece) : Prop := p.gauges.n ≤ 1000000 ∧ p.marks.n ≤ 1000000
def g_ValidPiece_r (p : L.Piece) : SV := .bool (L.validPiece p)
def g_ValidPiece_s : List EV → Option (Prop × SV)
  | [.p (.agg [.int .i64 p_id, .int .i64 p_colour, .int .i64 p_rev, .int .i64 p_made, .int .i64 p_swell, .sl 5 p_gauges_n p_gauges_g, .sl 3 p_marks_n p_marks_g])] => some ((∀ i, i < p_gauges_n → p_gauges_g i = [.int .i64 ((ofGauge (p_gauges_g i)).edge.lo), .int .i64 ((ofGauge (p_gauges_g i)).edge.hi), .int .i64 ((ofGauge (p_gauges_g i)).across.lo), .int .i64 ((ofGauge (p_gauges_g i)).across.hi), .int .i64 ((ofGauge (p_gauges_g i)).bend)]) ∧ (∀ i, i < p_marks_n → p_marks_g i = [.int .i64 ((ofMark (p_marks_g i)).edge), .int .i64 ((ofMark (p_marks_g i)).place), .int .i64 ((ofMark (p_marks_g i)).tone)]) ∧ g_ValidPiece_p (⟨p_id, p_colour, p_rev, p_made, p_swell, (⟨p_gauges_n, fun i => ofGauge (p_gauges_g i)⟩ : (L.Sq L.Gauge)), (⟨p_marks_n, fun i => ofMark (p_marks_g i)⟩ : (L.Sq L.Mark))⟩ : L.Piece), g_ValidPiece_r (⟨p_id, p_colour, p_rev, p_made, p_swell, (⟨p_gauges_n, fun i => ofGauge (p_gauges_g i)⟩ : (L.Sq L.Gauge)), (⟨p_marks_n, fun i => ofMark (p_marks_g i)⟩ : (L.Sq L.Mark))⟩ : L.Piece))
  | _ => none
abbrev g_ValidPiece_S : SE.Spec := (specO g_ValidPiece_s)
def g_ValidPiece_C : Cfg := { muts := [], frz := lookN [], specs := lookS [(52, g_within_S), (57, g_validGauges_S), (58, g_validMarks_S)], loops := lookL [], iters := lookI [], rfs := lookR [], nils := lookM [] }
theorem g_ValidPiece_vc (p : L.Piece) (hp : g_ValidPiece_p p) : vc Try.prog (g_ValidPiece_C) (bodyOf Try.f15) (st0 Try.f15 [.p (.agg [.int .i64 p.id, .int .i64 p.colour, .int .i64 p.rev, .int .i64 p.made, .int .i64 p.swell, .sl 5 p.gauges.n (fun i => [.int .i64 ((p.gauges.g i).edge.lo), .int .i64 ((p.gauges.g i).edge.hi), .int .i64 ((p.gauges.g i).across.lo), .int .i64 ((p.gauges.g i).across.hi), .int .i64 ((p.gauges.g i).bend)]), .sl 3 p.marks.n (fun i => [.int .i64 ((p.marks.g i).edge), .int .i64 ((p.marks.g i).place), .int .i64 ((p.marks.g i).tone)])])]) (retFn Try.prog Try.f15 (g_ValidPiece_r p)) :=
  @Eq.mpr _ (True ∧
  (Go.Proofs.Ytipaekbdalahdaa.L.within p.id (1 : Int) (65535 : Int) = Bool.true → True) ∧
    ((bif Go.Proofs.Ytipaekbdalahdaa.L.within p.id (1 : Int) (65535 : Int) then Go.Proofs.Ytipaekbdalahdaa.L.within p.colour (1 : Int) (16 : Int)
          else Bool.false) =
          Bool.true →
        True) ∧
      ((bif
                bif Go.Proofs.Ytipaekbdalahdaa.L.within p.id (1 : Int) (65535 : Int) then Go.Proofs.Ytipaekbdalahdaa.L.within p.colour (1 : Int) (16 : Int)
                else Bool.false then
              Go.Proofs.Ytipaekbdalahdaa.L.within p.rev (1 : Int) (16 : Int)
            else Bool.false) =
            Bool.true →
          True) ∧
        ((bif
                  bif
                      bif Go.Proofs.Ytipaekbdalahdaa.L.within p.id (1 : Int) (65535 : Int) then
                        Go.Proofs.Ytipaekbdalahdaa.L.within p.colour (1 : Int) (16 : Int)
                      else Bool.false then
                    Go.Proofs.Ytipaekbdalahdaa.L.within p.rev (1 : Int) (16 : Int)
                  else Bool.false then
                Go.Proofs.Ytipaekbdalahdaa.L.within p.made (0 : Int) (9999 : Int)
              else Bool.false) =
              Bool.true →
            True) ∧
          ((bif
                    bif
                        bif
                            bif Go.Proofs.Ytipaekbdalahdaa.L.within p.id (1 : Int) (65535 : Int) then
                              Go.Proofs.Ytipaekbdalahdaa.L.within p.colour (1 : Int) (16 : Int)
                            else Bool.false then
                          Go.Proofs.Ytipaekbdalahdaa.L.within p.rev (1 : Int) (16 : Int)
                        else Bool.false then
                      Go.Proofs.Ytipaekbdalahdaa.L.within p.made (0 : Int) (9999 : Int)
                    else Bool.false then
                  Go.Proofs.Ytipaekbdalahdaa.L.within p.swell (-64 : Int) (64 : Int)
                else Bool.false) =
                Bool.true →
              (∀ (i : Nat),
                  i < p.gauges.n →
                    [Go.SE.SV.int Go.IntKind.i64 (p.gauges.g i).edge.lo, Go.SE.SV.int Go.IntKind.i64 (p.gauges.g i).edge.hi,
                        Go.SE.SV.int Go.IntKind.i64 (p.gauges.g i).across.lo, Go.SE.SV.int Go.IntKind.i64 (p.gauges.g i).across.hi,
                        Go.SE.SV.int Go.IntKind.i64 (p.gauges.g i).bend] =
                      [Go.SE.SV.int Go.IntKind.i64 (p.gauges.g i).edge.lo, Go.SE.SV.int Go.IntKind.i64 (p.gauges.g i).edge.hi,
                        Go.SE.SV.int Go.IntKind.i64 (p.gauges.g i).across.lo, Go.SE.SV.int Go.IntKind.i64 (p.gauges.g i).across.hi,
                        Go.SE.SV.int Go.IntKind.i64 (p.gauges.g i).bend]) ∧
                p.gauges.n ≤ (1000000 : Nat)) ∧
            ((bif
                      bif
                          bif
                              bif
                                  bif Go.Proofs.Ytipaekbdalahdaa.L.within p.id (1 : Int) (65535 : Int) then
                                    Go.Proofs.Ytipaekbdalahdaa.L.within p.colour (1 : Int) (16 : Int)
                                  else Bool.false then
                                Go.Proofs.Ytipaekbdalahdaa.L.within p.rev (1 : Int) (16 : Int)
                              else Bool.false then
                            Go.Proofs.Ytipaekbdalahdaa.L.within p.made (0 : Int) (9999 : Int)
                          else Bool.false then
                        Go.Proofs.Ytipaekbdalahdaa.L.within p.swell (-64 : Int) (64 : Int)
                      else Bool.false then
                    Go.Proofs.Ytipaekbdalahdaa.L.gauges (Go.Proofs.Ytipaekbdalahdaa.L.Sq.mk p.gauges.n fun (i : Nat) ↦ p.gauges.g i)
                  else Bool.false) =
                  Bool.true →
                (∀ (i : Nat),
                    i < p.marks.n →
                      [Go.SE.SV.int Go.IntKind.i64 (p.marks.g i).edge, Go.SE.SV.int Go.IntKind.i64 (p.marks.g i).place,
                          Go.SE.SV.int Go.IntKind.i64 (p.marks.g i).tone] =
                        [Go.SE.SV.int Go.IntKind.i64 (p.marks.g i).edge, Go.SE.SV.int Go.IntKind.i64 (p.marks.g i).place,
                          Go.SE.SV.int Go.IntKind.i64 (p.marks.g i).tone]) ∧
                  p.marks.n ≤ (1000000 : Nat) ∧ (-1000000 : Int) ≤ (↑p.gauges.n : Int) ∧ (↑p.gauges.n : Int) ≤ (1000000 : Int)) ∧
              (bif
                    bif
                        bif
                            bif
                                bif
                                    bif Go.Proofs.Ytipaekbdalahdaa.L.within p.id (1 : Int) (65535 : Int) then
                                      Go.Proofs.Ytipaekbdalahdaa.L.within p.colour (1 : Int) (16 : Int)
                                    else Bool.false then
                                  Go.Proofs.Ytipaekbdalahdaa.L.within p.rev (1 : Int) (16 : Int)
                                else Bool.false then
                              Go.Proofs.Ytipaekbdalahdaa.L.within p.made (0 : Int) (9999 : Int)
                            else Bool.false then
                          Go.Proofs.Ytipaekbdalahdaa.L.within p.swell (-64 : Int) (64 : Int)
                        else Bool.false then
                      Go.Proofs.Ytipaekbdalahdaa.L.gauges (Go.Proofs.Ytipaekbdalahdaa.L.Sq.mk p.gauges.n fun (i : Nat) ↦ p.gauges.g i)
                    else Bool.false then
                  Go.Proofs.Ytipaekbdalahdaa.L.vMarks (Go.Proofs.Ytipaekbdalahdaa.L.Sq.mk p.marks.n fun (i : Nat) ↦ p.marks.g i) (↑p.gauges.n : Int)
                else Bool.false) =
                Go.Proofs.Ytipaekbdalahdaa.L.validPiece p) (by kernel_rfl) (by
    obtain ⟨h1, h2⟩ := hp
    exact ⟨trivial, fun _ => trivial, fun _ => trivial, fun _ => trivial, fun _ => trivial, fun _ => ⟨fun _ _ => rfl, h1⟩, fun _ => ⟨fun _ _ => rfl, h2, by omega, by omega⟩, rfl⟩)
theorem g_ValidPiece_ok : SpecOk Try.prog 15 g_ValidPiece_S := fnX Try.func15 (c := bodyOf Try.f15) (by kernel_rfl) mixed (fun args p r hs hp => by
  unfold g_ValidPiece_s at hs
  split at hs
  · cases hs; exact ⟨_, _, g_ValidPiece_vc _ hp.2.2, (.p (.agg rfl (fun i hi => by
      rcases i with _ | i
      · exact (Ext.refl _ : Ext _ _)
      rcases i with _ | i
      · exact (Ext.refl _ : Ext _ _)
      rcases i with _ | i
      · exact (Ext.refl _ : Ext _ _)
      rcases i with _ | i
      · exact (Ext.refl _ : Ext _ _)
      rcases i with _ | i
      · exact (Ext.refl _ : Ext _ _)
      rcases i with _ | i
      · exact (Ext.sl hp.1 : Ext _ _)
      rcases i with _ | i
      · exact (Ext.sl hp.2.1 : Ext _ _)
      exact absurd hi (by simp; try omega))) .nil), ⟨show SpecsL Try.prog _ from (SpecsL.cons g_within_ok g_within_en (SpecsL.cons g_validGauges_ok g_validGauges_en (SpecsL.cons g_validMarks_ok g_validMarks_en SpecsL.nil))), rfl, ⟨show ItersL Try.prog _ from ItersL.nil, (TrsOk.none (fun _ => rfl))⟩⟩⟩
  · cases hs)
theorem g_ValidPiece_en : Enters Try.prog 15 := fun args w => by kernel_rfl
theorem g_ValidPiece_B : ∀ args p r, g_ValidPiece_s args = some (p, r) → ∃ b, r = .bool b := by
  intro args p r h
  unfold g_ValidPiece_s at h
  split at h
  · cases h; exact ⟨_, rfl⟩
  · cases h
def g_ValidFilm1_p (n : Int) : Prop := True
def g_ValidFilm1_r (n : Int) : SV := .bool (!L.within n 0 255)
def g_ValidFilm1_s : List EV → Option (Prop × SV)
  | [.p (.int .i64 n)] => some (g_ValidFilm1_p n, g_ValidFilm1_r n)
  | _ => none
abbrev g_ValidFilm1_S : SE.Spec := (specO g_ValidFilm1_s)
def g_ValidFilm1_C : Cfg := { muts := [], frz := lookN [], specs := lookS [(52, g_within_S)], loops := lookL [], iters := lookI [], rfs := lookR [], nils := lookM [] }
theorem g_ValidFilm1_vc (n : Int) (hp : g_ValidFilm1_p n) : vc Try.prog (g_ValidFilm1_C) (bodyOf Try.f63) (st0 Try.f63 [.p (.int .i64 n)]) (retFn Try.prog Try.f63 (g_ValidFilm1_r n)) :=
  @Eq.mpr _ (True ∧ (!Go.Proofs.Ytipaekbdalahdaa.L.within n (0 : Int) (255 : Int)) = !Go.Proofs.Ytipaekbdalahdaa.L.within n (0 : Int) (255 : Int)) (by kernel_rfl) (by
    exact ⟨trivial, rfl⟩)
theorem g_ValidFilm1_ok : SpecOk Try.prog 63 g_ValidFilm1_S := fnX Try.func63 (c := bodyOf Try.f63) (by kernel_rfl) mixed (fun args p r hs hp => by
  unfold g_ValidFilm1_s at hs
  split at hs
  · cases hs; exact ⟨_, _, g_ValidFilm1_vc _ hp, (.same _ .nil), ⟨show SpecsL Try.prog _ from (SpecsL.cons g_within_ok g_within_en SpecsL.nil), rfl, ⟨show ItersL Try.prog _ from ItersL.nil, (TrsOk.none (fun _ => rfl))⟩⟩⟩
  · cases hs)
theorem g_ValidFilm1_en : Enters Try.prog 63 := fun args w => by kernel_rfl
theorem g_ValidFilm1_B : ∀ args p r, g_ValidFilm1_s args = some (p, r) → ∃ b, r = .bool b := by
  intro args p r h
  unfold g_ValidFilm1_s at h
  split at h
  · cases h; exact ⟨_, rfl⟩
  · cases h
def g_ValidFilm_p (f : L.Film) : Prop := f.grey.n ≤ 1000000
def g_ValidFilm_r (f : L.Film) : SV := .bool (L.validFilm f)
def g_ValidFilm_s : List EV → Option (Prop × SV)
  | [.p (.agg [.int .i64 f_id, .sl 1 f_grey_n f_grey_g])] => some ((∀ i, i < f_grey_n → f_grey_g i = [.int .i64 ((intOf (f_grey_g i)))]) ∧ g_ValidFilm_p (⟨f_id, (⟨f_grey_n, fun i => intOf (f_grey_g i)⟩ : (L.Sq Int))⟩ : L.Film), g_ValidFilm_r (⟨f_id, (⟨f_grey_n, fun i => intOf (f_grey_g i)⟩ : (L.Sq Int))⟩ : L.Film))
  | _ => none
abbrev g_ValidFilm_S : SE.Spec := (specO g_ValidFilm_s)
def g_ValidFilm_C : Cfg := { muts := [], frz := lookN [], specs := lookS [(52, g_within_S), (62, s_conFI_S), (63, g_ValidFilm1_S)], loops := lookL [], iters := lookI [], rfs := lookR [], nils := lookM [] }
theorem g_ValidFilm_vc (f : L.Film) (hp : g_ValidFilm_p f) : vc Try.prog (g_ValidFilm_C) (bodyOf Try.f17) (st0 Try.f17 [.p (.agg [.int .i64 f.id, .sl 1 f.grey.n (fun i => [.int .i64 ((f.grey.g i))])])]) (retFn Try.prog Try.f17 (g_ValidFilm_r f)) :=
  @Eq.mpr _ (True ∧
  (Go.Proofs.Ytipaekbdalahdaa.L.within f.id (1 : Int) (65535 : Int) = Bool.true → True) ∧
    ((bif Go.Proofs.Ytipaekbdalahdaa.L.within f.id (1 : Int) (65535 : Int) then Go.Proofs.Ytipaekbdalahdaa.L.within (↑f.grey.n : Int) (1 : Int) (16 : Int)
          else Bool.false) =
          Bool.true →
        (∀ (i : Nat), i < f.grey.n → [Go.SE.SV.int Go.IntKind.i64 (f.grey.g i)] = [Go.SE.SV.int Go.IntKind.i64 (f.grey.g i)]) ∧
          Go.SE.isB
              (Go.SE.FSpec.mk
                (fun («as» : List Go.SE.SV) ↦ Go.SE.preO Go.Proofs.Ytipaekbdalahdaa.g_ValidFilm1_s (List.map Go.SE.EV.p «as» ++ List.map Go.SE.EV.p []))
                fun («as» : List Go.SE.SV) ↦ Go.SE.resO Go.Proofs.Ytipaekbdalahdaa.g_ValidFilm1_s (List.map Go.SE.EV.p «as» ++ List.map Go.SE.EV.p [])) ∧
            f.grey.n ≤ (1000000 : Nat) ∧ ∀ (i : Nat), i < f.grey.n → True) ∧
      (bif
            bif Go.Proofs.Ytipaekbdalahdaa.L.within f.id (1 : Int) (65535 : Int) then Go.Proofs.Ytipaekbdalahdaa.L.within (↑f.grey.n : Int) (1 : Int) (16 : Int)
            else Bool.false then
          !Go.Proofs.Ytipaekbdalahdaa.L.anyB f.grey.n fun (i : Nat) ↦
              Go.Proofs.Ytipaekbdalahdaa.L.fbl
                (Go.SE.FSpec.mk
                  (fun («as» : List Go.SE.SV) ↦ Go.SE.preO Go.Proofs.Ytipaekbdalahdaa.g_ValidFilm1_s (List.map Go.SE.EV.p «as» ++ List.map Go.SE.EV.p []))
                  fun («as» : List Go.SE.SV) ↦ Go.SE.resO Go.Proofs.Ytipaekbdalahdaa.g_ValidFilm1_s (List.map Go.SE.EV.p «as» ++ List.map Go.SE.EV.p []))
                [Go.SE.SV.int Go.IntKind.i64 (f.grey.g i)]
        else Bool.false) =
        Go.Proofs.Ytipaekbdalahdaa.L.validFilm f) (by kernel_rfl) (by
    refine ⟨trivial, fun _ => trivial, fun _ => ⟨fun _ _ => rfl, isB_of g_ValidFilm1_B _, hp, fun _ _ => trivial⟩, ?_⟩
    exact congrArg (fun b => bif (bif L.within f.id 1 65535 then L.within f.grey.n 1 16 else false) then b else false) (not_any_not (f := fun i => L.within (f.grey.g i) 0 255)))
theorem g_ValidFilm_ok : SpecOk Try.prog 17 g_ValidFilm_S := fnX Try.func17 (c := bodyOf Try.f17) (by kernel_rfl) mixed (fun args p r hs hp => by
  unfold g_ValidFilm_s at hs
  split at hs
  · cases hs; exact ⟨_, _, g_ValidFilm_vc _ hp.2, (.p (.agg rfl (fun i hi => by
      rcases i with _ | i
      · exact (Ext.refl _ : Ext _ _)
      rcases i with _ | i
      · exact (Ext.sl hp.1 : Ext _ _)
      exact absurd hi (by simp; try omega))) .nil), ⟨show SpecsL Try.prog _ from (SpecsL.cons g_within_ok g_within_en (SpecsL.cons s_conFI_ok s_conFI_en (SpecsL.cons g_ValidFilm1_ok g_ValidFilm1_en SpecsL.nil))), rfl, ⟨show ItersL Try.prog _ from ItersL.nil, (TrsOk.none (fun _ => rfl))⟩⟩⟩
  · cases hs)
theorem g_ValidFilm_en : Enters Try.prog 17 := fun args w => by kernel_rfl
theorem g_ValidFilm_B : ∀ args p r, g_ValidFilm_s args = some (p, r) → ∃ b, r = .bool b := by
  intro args p r h
  unfold g_ValidFilm_s at h
  split at h
  · cases h; exact ⟨_, rfl⟩
  · cases h
def r3_ValidGauge_p (g : L.Gauge) : Prop := True
def r3_ValidGauge_r (g : L.Gauge) : SV := .bool (L.vGauge g)
def r3_ValidGauge_s : List EV → Option (Prop × SV)
  | [.p (.agg [.int .i64 g_edge_lo, .int .i64 g_edge_hi, .int .i64 g_across_lo, .int .i64 g_across_hi, .int .i64 g_bend])] => some (r3_ValidGauge_p (⟨(⟨g_edge_lo, g_edge_hi⟩ : L.Span), (⟨g_across_lo, g_across_hi⟩ : L.Span), g_bend⟩ : L.Gauge), r3_ValidGauge_r (⟨(⟨g_edge_lo, g_edge_hi⟩ : L.Span), (⟨g_across_lo, g_across_hi⟩ : L.Span), g_bend⟩ : L.Gauge))
  | _ => none
abbrev r3_ValidGauge_S : SE.Spec := (specO r3_ValidGauge_s)
def r3_ValidGauge_C : Cfg := { muts := [], frz := lookN [], specs := lookS [(59, r3_within_S)], loops := lookL [], iters := lookI [], rfs := lookR [], nils := lookM [] }
theorem r3_ValidGauge_vc (g : L.Gauge) (hp : r3_ValidGauge_p g) : vc Try.prog (r3_ValidGauge_C) (bodyOf Try.f110) (st0 Try.f110 [.p (.agg [.int .i64 g.edge.lo, .int .i64 g.edge.hi, .int .i64 g.across.lo, .int .i64 g.across.hi, .int .i64 g.bend])]) (retFn Try.prog Try.f110 (r3_ValidGauge_r g)) :=
  @Eq.mpr _ (((bif
          bif
              bif
                  bif bif Decidable.decide ((0 : Int) < g.edge.lo) then Decidable.decide (g.edge.lo ≤ g.edge.hi) else Bool.false then
                    Decidable.decide (g.edge.hi ≤ (33554432 : Int))
                  else Bool.false then
                Decidable.decide ((0 : Int) ≤ g.across.lo)
              else Bool.false then
            Decidable.decide (g.across.lo ≤ g.across.hi)
          else Bool.false then
        Decidable.decide (g.across.hi ≤ (33554432 : Int))
      else Bool.false) =
      Bool.true →
    True) ∧
  (bif
        bif
            bif
                bif
                    bif bif Decidable.decide ((0 : Int) < g.edge.lo) then Decidable.decide (g.edge.lo ≤ g.edge.hi) else Bool.false then
                      Decidable.decide (g.edge.hi ≤ (33554432 : Int))
                    else Bool.false then
                  Decidable.decide ((0 : Int) ≤ g.across.lo)
                else Bool.false then
              Decidable.decide (g.across.lo ≤ g.across.hi)
            else Bool.false then
          Decidable.decide (g.across.hi ≤ (33554432 : Int))
        else Bool.false then
      Go.Proofs.Ytipaekbdalahdaa.L.within g.bend (-1 : Int) (1 : Int)
    else Bool.false) =
    Go.Proofs.Ytipaekbdalahdaa.L.vGauge g) (by kernel_rfl) (by
    refine ⟨fun _ => trivial, ?_⟩
    rw [Bool.eq_iff_iff]
    simp only [band, L.vGauge, L.vSpan, Bool.and_eq_true, decide_eq_true_eq]
    grind)
theorem r3_ValidGauge_ok : SpecOk Try.prog 110 r3_ValidGauge_S := fnX Try.func110 (c := bodyOf Try.f110) (by kernel_rfl) mixed (fun args p r hs hp => by
  unfold r3_ValidGauge_s at hs
  split at hs
  · cases hs; exact ⟨_, _, r3_ValidGauge_vc _ hp, (.same _ .nil), ⟨show SpecsL Try.prog _ from (SpecsL.cons r3_within_ok r3_within_en SpecsL.nil), rfl, ⟨show ItersL Try.prog _ from ItersL.nil, (TrsOk.none (fun _ => rfl))⟩⟩⟩
  · cases hs)
theorem r3_ValidGauge_en : Enters Try.prog 110 := fun args w => by kernel_rfl
theorem r3_ValidGauge_B : ∀ args p r, r3_ValidGauge_s args = some (p, r) → ∃ b, r = .bool b := by
  intro args p r h
  unfold r3_ValidGauge_s at h
  split at h
  · cases h; exact ⟨_, rfl⟩
  · cases h
def r3_gauges_p (l : (L.Sq L.Gauge)) : Prop := l.n ≤ 1000000
def r3_gauges_r (l : (L.Sq L.Gauge)) : SV := .bool (L.gauges l)
def r3_gauges_s : List EV → Option (Prop × SV)
  | [.p (.sl 5 l_n l_g)] => some ((∀ i, i < l_n → l_g i = [.int .i64 ((ofGauge (l_g i)).edge.lo), .int .i64 ((ofGauge (l_g i)).edge.hi), .int .i64 ((ofGauge (l_g i)).across.lo), .int .i64 ((ofGauge (l_g i)).across.hi), .int .i64 ((ofGauge (l_g i)).bend)]) ∧ r3_gauges_p (⟨l_n, fun i => ofGauge (l_g i)⟩ : (L.Sq L.Gauge)), r3_gauges_r (⟨l_n, fun i => ofGauge (l_g i)⟩ : (L.Sq L.Gauge)))
  | _ => none
abbrev r3_gauges_S : SE.Spec := (specO r3_gauges_s)
def r3_gauges_C : Cfg := { muts := [], frz := lookN [], specs := lookS [(110, r3_ValidGauge_S)], loops := fun _ => none, iters := lookI [], rfs := lookR [], nils := lookM [] }
theorem r3_gauges_vc (l : (L.Sq L.Gauge)) (hp : r3_gauges_p l) : vc Try.prog ({ r3_gauges_C with loops := lookL [(4, { T := Nat, keep := [0], keepO := [], chg := fun i => [(3, .p (.int .i64 (i : Int)))], own := fun _ => [], inv := fun i => i ≤ l.n ∧ ∀ j, j < i → L.vGauge (l.g j) = true, mu := fun i => l.n - i })], rfs := lookR [] }) (bodyOf Try.f60) (st0 Try.f60 [.p (.sl 5 l.n (fun i => [.int .i64 ((l.g i).edge.lo), .int .i64 ((l.g i).edge.hi), .int .i64 ((l.g i).across.lo), .int .i64 ((l.g i).across.hi), .int .i64 ((l.g i).bend)]))]) (retFn Try.prog Try.f60 (r3_gauges_r l)) :=
  @Eq.mpr _ (((bif Decidable.decide ((↑l.n : Int) < (3 : Int)) then Bool.true else Decidable.decide ((24 : Int) < (↑l.n : Int))) = Bool.true →
    Bool.false = Go.Proofs.Ytipaekbdalahdaa.L.gauges l) ∧
  ((bif Decidable.decide ((↑l.n : Int) < (3 : Int)) then Bool.true else Decidable.decide ((24 : Int) < (↑l.n : Int))) = Bool.false →
    (∃ (g : Nat), (0 : Int) = (↑g : Int) ∧ g ≤ l.n ∧ ∀ (j : Nat), j < g → Go.Proofs.Ytipaekbdalahdaa.L.vGauge (l.g j) = Bool.true) ∧
      ∀ (g : Nat),
        (g ≤ l.n ∧ ∀ (j : Nat), j < g → Go.Proofs.Ytipaekbdalahdaa.L.vGauge (l.g j) = Bool.true) →
          (Decidable.decide ((↑g : Int) < (↑l.n : Int)) = Bool.true →
              ((0 : Int) ≤ (↑g : Int) ∧ (↑g : Int) < (↑l.n : Int)) ∧
                True ∧
                  ((!Go.Proofs.Ytipaekbdalahdaa.L.vGauge (l.g (Int.toNat (↑g : Int)))) = Bool.true → Bool.false = Go.Proofs.Ytipaekbdalahdaa.L.gauges l) ∧
                    ((!Go.Proofs.Ytipaekbdalahdaa.L.vGauge (l.g (Int.toNat (↑g : Int)))) = Bool.false →
                      Go.SE.InK Go.IntKind.i64 ((↑g : Int) + (1 : Int)) ∧
                        ∃ (g' : Nat),
                          (↑g : Int) + (1 : Int) = (↑g' : Int) ∧
                            (l.n = l.n ∧
                                ∀ (i : Nat),
                                  i < l.n →
                                    [Go.SE.SV.int Go.IntKind.i64 (l.g i).edge.lo, Go.SE.SV.int Go.IntKind.i64 (l.g i).edge.hi,
                                        Go.SE.SV.int Go.IntKind.i64 (l.g i).across.lo, Go.SE.SV.int Go.IntKind.i64 (l.g i).across.hi,
                                        Go.SE.SV.int Go.IntKind.i64 (l.g i).bend] =
                                      [Go.SE.SV.int Go.IntKind.i64 (l.g i).edge.lo, Go.SE.SV.int Go.IntKind.i64 (l.g i).edge.hi,
                                        Go.SE.SV.int Go.IntKind.i64 (l.g i).across.lo, Go.SE.SV.int Go.IntKind.i64 (l.g i).across.hi,
                                        Go.SE.SV.int Go.IntKind.i64 (l.g i).bend]) ∧
                              (g' ≤ l.n ∧ ∀ (j : Nat), j < g' → Go.Proofs.Ytipaekbdalahdaa.L.vGauge (l.g j) = Bool.true) ∧ l.n - g' < l.n - g)) ∧
            (Decidable.decide ((↑g : Int) < (↑l.n : Int)) = Bool.false → Bool.true = Go.Proofs.Ytipaekbdalahdaa.L.gauges l))) (by kernel_rfl) (by
    have hn : l.n ≤ 1000000 := hp
    refine ⟨fun h => ?_, fun h => ⟨⟨(0 : Nat), rfl, Nat.zero_le _, fun j hj => absurd hj (Nat.not_lt_zero _)⟩, fun g hg => ⟨fun hlt => ?_, fun hge => ?_⟩⟩⟩
    · have : L.within l.n 3 24 = false := by
        rw [Bool.eq_false_iff, Ne, within_iff]; simp only [bor, Bool.or_eq_true, decide_eq_true_eq] at h; omega
      unfold L.gauges; rw [this]; rfl
    · have hb : (g : Int) < (l.n : Int) := of_decide_eq_true hlt
      have e0 : ((g : Int)).toNat = g := by omega
      rw [e0]
      refine ⟨by omega, trivial, fun h => ?_, fun h => ?_⟩
      · have h : L.vGauge (l.g g) = false := by simpa using h
        unfold L.gauges
        rw [allB_false (i := g) (by omega) h]
        cases L.within l.n 3 24 <;> rfl
      · have h : L.vGauge (l.g g) = true := by simpa using h
        exact ⟨InK.of (by omega) (by omega), g + 1, by omega, ⟨rfl, fun _ _ => rfl⟩, ⟨by omega, fun j hj => by
          rcases Nat.lt_succ_iff_lt_or_eq.1 hj with h' | rfl
          · exact hg.2 j h'
          · exact h⟩, by omega⟩
    · have hb : ¬ (g : Int) < (l.n : Int) := of_decide_eq_false hge
      have : L.within l.n 3 24 = true := by
        rw [within_iff]; simp only [bor, Bool.or_eq_false_iff, decide_eq_false_iff_not] at h; omega
      unfold L.gauges
      rw [this, allB_iff.2 (fun i hi => hg.2 i (by omega))]; rfl)
theorem r3_gauges_ok : SpecOk Try.prog 60 r3_gauges_S := fnX Try.func60 (c := bodyOf Try.f60) (by kernel_rfl) mixed (fun args p r hs hp => by
  unfold r3_gauges_s at hs
  split at hs
  · cases hs; exact ⟨_, _, r3_gauges_vc _ hp.2, (.p (.sl hp.1) .nil), ⟨show SpecsL Try.prog _ from (SpecsL.cons r3_ValidGauge_ok r3_ValidGauge_en SpecsL.nil), rfl, ⟨show ItersL Try.prog _ from ItersL.nil, (TrsOk.none (fun _ => rfl))⟩⟩⟩
  · cases hs)
theorem r3_gauges_en : Enters Try.prog 60 := fun args w => by kernel_rfl
theorem r3_gauges_B : ∀ args p r, r3_gauges_s args = some (p, r) → ∃ b, r = .bool b := by
  intro args p r h
  unfold r3_gauges_s at h
  split at h
  · cases h; exact ⟨_, rfl⟩
  · cases h
def r3_ValidPiece_p (p : L.Piece) : Prop := p.gauges.n ≤ 1000000 ∧ p.marks.n ≤ 1000000
def r3_ValidPiece_r (p : L.Piece) : SV := .bool (L.validPiece p)
def r3_ValidPiece_s : List EV → Option (Prop × SV)
  | [.p (.agg [.int .i64 p_id, .int .i64 p_colour, .int .i64 p_rev, .int .i64 p_made, .int .i64 p_swell, .sl 5 p_gauges_n p_gauges_g, .sl 3 p_marks_n p_marks_g])] => some ((∀ i, i < p_gauges_n → p_gauges_g i = [.int .i64 ((ofGauge (p_gauges_g i)).edge.lo), .int .i64 ((ofGauge (p_gauges_g i)).edge.hi), .int .i64 ((ofGauge (p_gauges_g i)).across.lo), .int .i64 ((ofGauge (p_gauges_g i)).across.hi), .int .i64 ((ofGauge (p_gauges_g i)).bend)]) ∧ (∀ i, i < p_marks_n → p_marks_g i = [.int .i64 ((ofMark (p_marks_g i)).edge), .int .i64 ((ofMark (p_marks_g i)).place), .int .i64 ((ofMark (p_marks_g i)).tone)]) ∧ r3_ValidPiece_p (⟨p_id, p_colour, p_rev, p_made, p_swell, (⟨p_gauges_n, fun i => ofGauge (p_gauges_g i)⟩ : (L.Sq L.Gauge)), (⟨p_marks_n, fun i => ofMark (p_marks_g i)⟩ : (L.Sq L.Mark))⟩ : L.Piece), r3_ValidPiece_r (⟨p_id, p_colour, p_rev, p_made, p_swell, (⟨p_gauges_n, fun i => ofGauge (p_gauges_g i)⟩ : (L.Sq L.Gauge)), (⟨p_marks_n, fun i => ofMark (p_marks_g i)⟩ : (L.Sq L.Mark))⟩ : L.Piece))
  | _ => none
abbrev r3_ValidPiece_S : SE.Spec := (specO r3_ValidPiece_s)
def r3_ValidPiece_C : Cfg := { muts := [], frz := lookN [], specs := lookS [(59, r3_within_S), (60, r3_gauges_S), (61, r3_marks_S)], loops := fun _ => none, iters := lookI [], rfs := lookR [], nils := lookM [] }
theorem r3_ValidPiece_vc (p : L.Piece) (hp : r3_ValidPiece_p p) : vc Try.prog ({ r3_ValidPiece_C with loops := lookL [(2, { T := Nat, keep := [1], keepO := [], chg := fun i => [(3, .p (.int .i64 (i : Int)))], own := fun _ => [], inv := fun i => i ≤ p.marks.n ∧ ∀ j, j < i → L.within (p.marks.g j).edge 0 (p.gauges.n - 1) = true, mu := fun i => p.marks.n - i })], rfs := lookR [] }) (bodyOf Try.f16) (st0 Try.f16 [.p (.agg [.int .i64 p.id, .int .i64 p.colour, .int .i64 p.rev, .int .i64 p.made, .int .i64 p.swell, .sl 5 p.gauges.n (fun i => [.int .i64 ((p.gauges.g i).edge.lo), .int .i64 ((p.gauges.g i).edge.hi), .int .i64 ((p.gauges.g i).across.lo), .int .i64 ((p.gauges.g i).across.hi), .int .i64 ((p.gauges.g i).bend)]), .sl 3 p.marks.n (fun i => [.int .i64 ((p.marks.g i).edge), .int .i64 ((p.marks.g i).place), .int .i64 ((p.marks.g i).tone)])])]) (retFn Try.prog Try.f16 (r3_ValidPiece_r p)) :=
  @Eq.mpr _ ((∃ (g : Nat),
    (0 : Int) = (↑g : Int) ∧
      g ≤ p.marks.n ∧ ∀ (j : Nat), j < g → Go.Proofs.Ytipaekbdalahdaa.L.within (p.marks.g j).edge (0 : Int) ((↑p.gauges.n : Int) - (1 : Int)) = Bool.true) ∧
  ∀ (g : Nat),
    (g ≤ p.marks.n ∧ ∀ (j : Nat), j < g → Go.Proofs.Ytipaekbdalahdaa.L.within (p.marks.g j).edge (0 : Int) ((↑p.gauges.n : Int) - (1 : Int)) = Bool.true) →
      (Decidable.decide ((↑g : Int) < (↑p.marks.n : Int)) = Bool.true →
          ((0 : Int) ≤ (↑g : Int) ∧ (↑g : Int) < (↑p.marks.n : Int)) ∧
            Go.SE.InK Go.IntKind.i64 ((↑p.gauges.n : Int) - (1 : Int)) ∧
              True ∧
                ((!Go.Proofs.Ytipaekbdalahdaa.L.within (p.marks.g (Int.toNat (↑g : Int))).edge (0 : Int) ((↑p.gauges.n : Int) - (1 : Int))) = Bool.true →
                    Bool.false = Go.Proofs.Ytipaekbdalahdaa.L.validPiece p) ∧
                  ((!Go.Proofs.Ytipaekbdalahdaa.L.within (p.marks.g (Int.toNat (↑g : Int))).edge (0 : Int) ((↑p.gauges.n : Int) - (1 : Int))) = Bool.false →
                    Go.SE.InK Go.IntKind.i64 ((↑g : Int) + (1 : Int)) ∧
                      ∃ (g' : Nat),
                        (↑g : Int) + (1 : Int) = (↑g' : Int) ∧
                          Go.SE.SV.ref
                                [Go.SE.SV.int Go.IntKind.i64 p.id, Go.SE.SV.int Go.IntKind.i64 p.colour, Go.SE.SV.int Go.IntKind.i64 p.rev,
                                  Go.SE.SV.int Go.IntKind.i64 p.made, Go.SE.SV.int Go.IntKind.i64 p.swell,
                                  Go.SE.SV.sl (nat_lit 5) p.gauges.n fun (i : Nat) ↦
                                    [Go.SE.SV.int Go.IntKind.i64 (p.gauges.g i).edge.lo, Go.SE.SV.int Go.IntKind.i64 (p.gauges.g i).edge.hi,
                                      Go.SE.SV.int Go.IntKind.i64 (p.gauges.g i).across.lo, Go.SE.SV.int Go.IntKind.i64 (p.gauges.g i).across.hi,
                                      Go.SE.SV.int Go.IntKind.i64 (p.gauges.g i).bend],
                                  Go.SE.SV.sl (nat_lit 3) p.marks.n fun (i : Nat) ↦
                                    [Go.SE.SV.int Go.IntKind.i64 (p.marks.g i).edge, Go.SE.SV.int Go.IntKind.i64 (p.marks.g i).place,
                                      Go.SE.SV.int Go.IntKind.i64 (p.marks.g i).tone]]
                                (nat_lit 0) =
                              Go.SE.SV.ref
                                [Go.SE.SV.int Go.IntKind.i64 p.id, Go.SE.SV.int Go.IntKind.i64 p.colour, Go.SE.SV.int Go.IntKind.i64 p.rev,
                                  Go.SE.SV.int Go.IntKind.i64 p.made, Go.SE.SV.int Go.IntKind.i64 p.swell,
                                  Go.SE.SV.sl (nat_lit 5) p.gauges.n fun (i : Nat) ↦
                                    [Go.SE.SV.int Go.IntKind.i64 (p.gauges.g i).edge.lo, Go.SE.SV.int Go.IntKind.i64 (p.gauges.g i).edge.hi,
                                      Go.SE.SV.int Go.IntKind.i64 (p.gauges.g i).across.lo, Go.SE.SV.int Go.IntKind.i64 (p.gauges.g i).across.hi,
                                      Go.SE.SV.int Go.IntKind.i64 (p.gauges.g i).bend],
                                  Go.SE.SV.sl (nat_lit 3) p.marks.n fun (i : Nat) ↦
                                    [Go.SE.SV.int Go.IntKind.i64 (p.marks.g i).edge, Go.SE.SV.int Go.IntKind.i64 (p.marks.g i).place,
                                      Go.SE.SV.int Go.IntKind.i64 (p.marks.g i).tone]]
                                (nat_lit 0) ∧
                            (g' ≤ p.marks.n ∧
                                ∀ (j : Nat),
                                  j < g' → Go.Proofs.Ytipaekbdalahdaa.L.within (p.marks.g j).edge (0 : Int) ((↑p.gauges.n : Int) - (1 : Int)) = Bool.true) ∧
                              p.marks.n - g' < p.marks.n - g)) ∧
        (Decidable.decide ((↑g : Int) < (↑p.marks.n : Int)) = Bool.false →
          True ∧
            (Go.Proofs.Ytipaekbdalahdaa.L.within p.id (1 : Int) (65535 : Int) = Bool.true → True) ∧
              ((bif Go.Proofs.Ytipaekbdalahdaa.L.within p.id (1 : Int) (65535 : Int) then Go.Proofs.Ytipaekbdalahdaa.L.within p.colour (1 : Int) (16 : Int)
                    else Bool.false) =
                    Bool.true →
                  True) ∧
                ((bif
                          bif Go.Proofs.Ytipaekbdalahdaa.L.within p.id (1 : Int) (65535 : Int) then
                            Go.Proofs.Ytipaekbdalahdaa.L.within p.colour (1 : Int) (16 : Int)
                          else Bool.false then
                        Go.Proofs.Ytipaekbdalahdaa.L.within p.rev (1 : Int) (16 : Int)
                      else Bool.false) =
                      Bool.true →
                    True) ∧
                  ((bif
                            bif
                                bif Go.Proofs.Ytipaekbdalahdaa.L.within p.id (1 : Int) (65535 : Int) then
                                  Go.Proofs.Ytipaekbdalahdaa.L.within p.colour (1 : Int) (16 : Int)
                                else Bool.false then
                              Go.Proofs.Ytipaekbdalahdaa.L.within p.rev (1 : Int) (16 : Int)
                            else Bool.false then
                          Go.Proofs.Ytipaekbdalahdaa.L.within p.made (0 : Int) (9999 : Int)
                        else Bool.false) =
                        Bool.true →
                      True) ∧
                    ((bif
                              bif
                                  bif
                                      bif Go.Proofs.Ytipaekbdalahdaa.L.within p.id (1 : Int) (65535 : Int) then
                                        Go.Proofs.Ytipaekbdalahdaa.L.within p.colour (1 : Int) (16 : Int)
                                      else Bool.false then
                                    Go.Proofs.Ytipaekbdalahdaa.L.within p.rev (1 : Int) (16 : Int)
                                  else Bool.false then
                                Go.Proofs.Ytipaekbdalahdaa.L.within p.made (0 : Int) (9999 : Int)
                              else Bool.false then
                            Go.Proofs.Ytipaekbdalahdaa.L.within p.swell (-64 : Int) (64 : Int)
                          else Bool.false) =
                          Bool.true →
                        (∀ (i : Nat),
                            i < p.gauges.n →
                              [Go.SE.SV.int Go.IntKind.i64 (p.gauges.g i).edge.lo, Go.SE.SV.int Go.IntKind.i64 (p.gauges.g i).edge.hi,
                                  Go.SE.SV.int Go.IntKind.i64 (p.gauges.g i).across.lo, Go.SE.SV.int Go.IntKind.i64 (p.gauges.g i).across.hi,
                                  Go.SE.SV.int Go.IntKind.i64 (p.gauges.g i).bend] =
                                [Go.SE.SV.int Go.IntKind.i64 (p.gauges.g i).edge.lo, Go.SE.SV.int Go.IntKind.i64 (p.gauges.g i).edge.hi,
                                  Go.SE.SV.int Go.IntKind.i64 (p.gauges.g i).across.lo, Go.SE.SV.int Go.IntKind.i64 (p.gauges.g i).across.hi,
                                  Go.SE.SV.int Go.IntKind.i64 (p.gauges.g i).bend]) ∧
                          p.gauges.n ≤ (1000000 : Nat)) ∧
                      ((bif
                                bif
                                    bif
                                        bif
                                            bif Go.Proofs.Ytipaekbdalahdaa.L.within p.id (1 : Int) (65535 : Int) then
                                              Go.Proofs.Ytipaekbdalahdaa.L.within p.colour (1 : Int) (16 : Int)
                                            else Bool.false then
                                          Go.Proofs.Ytipaekbdalahdaa.L.within p.rev (1 : Int) (16 : Int)
                                        else Bool.false then
                                      Go.Proofs.Ytipaekbdalahdaa.L.within p.made (0 : Int) (9999 : Int)
                                    else Bool.false then
                                  Go.Proofs.Ytipaekbdalahdaa.L.within p.swell (-64 : Int) (64 : Int)
                                else Bool.false then
                              Go.Proofs.Ytipaekbdalahdaa.L.gauges (Go.Proofs.Ytipaekbdalahdaa.L.Sq.mk p.gauges.n fun (i : Nat) ↦ p.gauges.g i)
                            else Bool.false) =
                            Bool.true →
                          (∀ (i : Nat),
                              i < p.marks.n →
                                [Go.SE.SV.int Go.IntKind.i64 (p.marks.g i).edge, Go.SE.SV.int Go.IntKind.i64 (p.marks.g i).place,
                                    Go.SE.SV.int Go.IntKind.i64 (p.marks.g i).tone] =
                                  [Go.SE.SV.int Go.IntKind.i64 (p.marks.g i).edge, Go.SE.SV.int Go.IntKind.i64 (p.marks.g i).place,
                                    Go.SE.SV.int Go.IntKind.i64 (p.marks.g i).tone]) ∧
                            True) ∧
                        (bif
                              bif
                                  bif
                                      bif
                                          bif
                                              bif Go.Proofs.Ytipaekbdalahdaa.L.within p.id (1 : Int) (65535 : Int) then
                                                Go.Proofs.Ytipaekbdalahdaa.L.within p.colour (1 : Int) (16 : Int)
                                              else Bool.false then
                                            Go.Proofs.Ytipaekbdalahdaa.L.within p.rev (1 : Int) (16 : Int)
                                          else Bool.false then
                                        Go.Proofs.Ytipaekbdalahdaa.L.within p.made (0 : Int) (9999 : Int)
                                      else Bool.false then
                                    Go.Proofs.Ytipaekbdalahdaa.L.within p.swell (-64 : Int) (64 : Int)
                                  else Bool.false then
                                Go.Proofs.Ytipaekbdalahdaa.L.gauges (Go.Proofs.Ytipaekbdalahdaa.L.Sq.mk p.gauges.n fun (i : Nat) ↦ p.gauges.g i)
                              else Bool.false then
                            Go.Proofs.Ytipaekbdalahdaa.L.marks (Go.Proofs.Ytipaekbdalahdaa.L.Sq.mk p.marks.n fun (i : Nat) ↦ p.marks.g i)
                          else Bool.false) =
                          Go.Proofs.Ytipaekbdalahdaa.L.validPiece p)) (by kernel_rfl) (by
    obtain ⟨h1, h2⟩ := hp
    refine ⟨⟨(0 : Nat), rfl, Nat.zero_le _, fun j hj => absurd hj (Nat.not_lt_zero _)⟩, fun g hg => ⟨fun hlt => ?_, fun hge => ?_⟩⟩
    · have hb : (g : Int) < (p.marks.n : Int) := of_decide_eq_true hlt
      have e0 : ((g : Int)).toNat = g := by omega
      rw [e0]
      refine ⟨by omega, InK.of (by omega) (by omega), trivial, fun h => ?_, fun h => ?_⟩
      · have h : L.within (p.marks.g g).edge 0 (p.gauges.n - 1) = false := by simpa using h
        have : L.edges p.marks p.gauges.n = false := allB_false (i := g) (by omega) h
        unfold L.validPiece L.vMarks
        rw [this]
        cases L.nums p <;> cases L.gauges p.gauges <;> rfl
      · have h : L.within (p.marks.g g).edge 0 (p.gauges.n - 1) = true := by simpa using h
        exact ⟨InK.of (by omega) (by omega), g + 1, by omega, rfl, ⟨by omega, fun j hj => by
          rcases Nat.lt_succ_iff_lt_or_eq.1 hj with h' | rfl
          · exact hg.2 j h'
          · exact h⟩, by omega⟩
    · have hb : ¬ (g : Int) < (p.marks.n : Int) := of_decide_eq_false hge
      have : L.edges p.marks p.gauges.n = true := allB_iff.2 (fun i hi => hg.2 i (by omega))
      refine ⟨trivial, fun _ => trivial, fun _ => trivial, fun _ => trivial, fun _ => trivial, fun _ => ⟨fun _ _ => rfl, h1⟩, fun _ => ⟨fun _ _ => rfl, trivial⟩, ?_⟩
      unfold L.validPiece L.vMarks
      rw [this]; rfl)
theorem r3_ValidPiece_ok : SpecOk Try.prog 16 r3_ValidPiece_S := fnX Try.func16 (c := bodyOf Try.f16) (by kernel_rfl) mixed (fun args p r hs hp => by
  unfold r3_ValidPiece_s at hs
  split at hs
  · cases hs; exact ⟨_, _, r3_ValidPiece_vc _ hp.2.2, (.p (.agg rfl (fun i hi => by
      rcases i with _ | i
      · exact (Ext.refl _ : Ext _ _)
      rcases i with _ | i
      · exact (Ext.refl _ : Ext _ _)
      rcases i with _ | i
      · exact (Ext.refl _ : Ext _ _)
      rcases i with _ | i
      · exact (Ext.refl _ : Ext _ _)
      rcases i with _ | i
      · exact (Ext.refl _ : Ext _ _)
      rcases i with _ | i
      · exact (Ext.sl hp.1 : Ext _ _)
      rcases i with _ | i
      · exact (Ext.sl hp.2.1 : Ext _ _)
      exact absurd hi (by simp; try omega))) .nil), ⟨show SpecsL Try.prog _ from (SpecsL.cons r3_within_ok r3_within_en (SpecsL.cons r3_gauges_ok r3_gauges_en (SpecsL.cons r3_marks_ok r3_marks_en SpecsL.nil))), rfl, ⟨show ItersL Try.prog _ from ItersL.nil, (TrsOk.none (fun _ => rfl))⟩⟩⟩
  · cases hs)
theorem r3_ValidPiece_en : Enters Try.prog 16 := fun args w => by kernel_rfl
theorem r3_ValidPiece_B : ∀ args p r, r3_ValidPiece_s args = some (p, r) → ∃ b, r = .bool b := by
  intro args p r h
  unfold r3_ValidPiece_s at h
  split at h
  · cases h; exact ⟨_, rfl⟩
  · cases h
def r3_ValidFilm_p (f : L.Film) : Prop := f.grey.n ≤ 1000000
def r3_ValidFilm_r (f : L.Film) : SV := .bool (L.validFilm f)
def r3_ValidFilm_s : List EV → Option (Prop × SV)
  | [.p (.agg [.int .i64 f_id, .sl 1 f_grey_n f_grey_g])] => some ((∀ i, i < f_grey_n → f_grey_g i = [.int .i64 ((intOf (f_grey_g i)))]) ∧ r3_ValidFilm_p (⟨f_id, (⟨f_grey_n, fun i => intOf (f_grey_g i)⟩ : (L.Sq Int))⟩ : L.Film), r3_ValidFilm_r (⟨f_id, (⟨f_grey_n, fun i => intOf (f_grey_g i)⟩ : (L.Sq Int))⟩ : L.Film))
  | _ => none
abbrev r3_ValidFilm_S : SE.Spec := (specO r3_ValidFilm_s)
def r3_ValidFilm_C : Cfg := { muts := [], frz := lookN [], specs := lookS [(59, r3_within_S)], loops := fun _ => none, iters := lookI [], rfs := lookR [], nils := lookM [] }
theorem r3_ValidFilm_vc (f : L.Film) (hp : r3_ValidFilm_p f) : vc Try.prog ({ r3_ValidFilm_C with loops := lookL [(4, { T := Nat, keep := [1], keepO := [], chg := fun i => [(3, .p (.int .i64 (i : Int)))], own := fun _ => [], inv := fun i => i ≤ f.grey.n ∧ ∀ j, j < i → L.within (f.grey.g j) 0 255 = true, mu := fun i => f.grey.n - i })], rfs := lookR [] }) (bodyOf Try.f18) (st0 Try.f18 [.p (.agg [.int .i64 f.id, .sl 1 f.grey.n (fun i => [.int .i64 ((f.grey.g i))])])]) (retFn Try.prog Try.f18 (r3_ValidFilm_r f)) :=
  @Eq.mpr _ (True ∧
  ((bif bif !Go.Proofs.Ytipaekbdalahdaa.L.within f.id (1 : Int) (65535 : Int) then Bool.true else Decidable.decide ((↑f.grey.n : Int) < (1 : Int)) then
          Bool.true
        else Decidable.decide ((16 : Int) < (↑f.grey.n : Int))) =
        Bool.true →
      Bool.false = Go.Proofs.Ytipaekbdalahdaa.L.validFilm f) ∧
    ((bif bif !Go.Proofs.Ytipaekbdalahdaa.L.within f.id (1 : Int) (65535 : Int) then Bool.true else Decidable.decide ((↑f.grey.n : Int) < (1 : Int)) then
          Bool.true
        else Decidable.decide ((16 : Int) < (↑f.grey.n : Int))) =
        Bool.false →
      (∃ (g : Nat),
          (0 : Int) = (↑g : Int) ∧ g ≤ f.grey.n ∧ ∀ (j : Nat), j < g → Go.Proofs.Ytipaekbdalahdaa.L.within (f.grey.g j) (0 : Int) (255 : Int) = Bool.true) ∧
        ∀ (g : Nat),
          (g ≤ f.grey.n ∧ ∀ (j : Nat), j < g → Go.Proofs.Ytipaekbdalahdaa.L.within (f.grey.g j) (0 : Int) (255 : Int) = Bool.true) →
            (Decidable.decide ((↑g : Int) < (↑f.grey.n : Int)) = Bool.true →
                ((0 : Int) ≤ (↑g : Int) ∧ (↑g : Int) < (↑f.grey.n : Int)) ∧
                  True ∧
                    ((!Go.Proofs.Ytipaekbdalahdaa.L.within (f.grey.g (Int.toNat (↑g : Int))) (0 : Int) (255 : Int)) = Bool.true →
                        Bool.false = Go.Proofs.Ytipaekbdalahdaa.L.validFilm f) ∧
                      ((!Go.Proofs.Ytipaekbdalahdaa.L.within (f.grey.g (Int.toNat (↑g : Int))) (0 : Int) (255 : Int)) = Bool.false →
                        Go.SE.InK Go.IntKind.i64 ((↑g : Int) + (1 : Int)) ∧
                          ∃ (g' : Nat),
                            (↑g : Int) + (1 : Int) = (↑g' : Int) ∧
                              Go.SE.SV.ref
                                    [Go.SE.SV.int Go.IntKind.i64 f.id,
                                      Go.SE.SV.sl (nat_lit 1) f.grey.n fun (i : Nat) ↦ [Go.SE.SV.int Go.IntKind.i64 (f.grey.g i)]]
                                    (nat_lit 0) =
                                  Go.SE.SV.ref
                                    [Go.SE.SV.int Go.IntKind.i64 f.id,
                                      Go.SE.SV.sl (nat_lit 1) f.grey.n fun (i : Nat) ↦ [Go.SE.SV.int Go.IntKind.i64 (f.grey.g i)]]
                                    (nat_lit 0) ∧
                                (g' ≤ f.grey.n ∧ ∀ (j : Nat), j < g' → Go.Proofs.Ytipaekbdalahdaa.L.within (f.grey.g j) (0 : Int) (255 : Int) = Bool.true) ∧
                                  f.grey.n - g' < f.grey.n - g)) ∧
              (Decidable.decide ((↑g : Int) < (↑f.grey.n : Int)) = Bool.false → Bool.true = Go.Proofs.Ytipaekbdalahdaa.L.validFilm f))) (by kernel_rfl) (by
    have hn : f.grey.n ≤ 1000000 := hp
    refine ⟨trivial, fun h => ?_, fun h => ⟨⟨(0 : Nat), rfl, Nat.zero_le _, fun j hj => absurd hj (Nat.not_lt_zero _)⟩, fun g hg => ⟨fun hlt => ?_, fun hge => ?_⟩⟩⟩
    · have : (bif L.within f.id 1 65535 then L.within f.grey.n 1 16 else false) = false := by
        simp only [bor, band, Bool.or_eq_true, decide_eq_true_eq, Bool.not_eq_true', Bool.and_eq_false_iff] at h ⊢
        rcases h with (h | h) | h
        · exact .inl h
        · right; rw [Bool.eq_false_iff, Ne, within_iff]; omega
        · right; rw [Bool.eq_false_iff, Ne, within_iff]; omega
      unfold L.validFilm; rw [this]; rfl
    · have hb : (g : Int) < (f.grey.n : Int) := of_decide_eq_true hlt
      have e0 : ((g : Int)).toNat = g := by omega
      rw [e0]
      refine ⟨by omega, trivial, fun h => ?_, fun h => ?_⟩
      · have h : L.within (f.grey.g g) 0 255 = false := by simpa using h
        unfold L.validFilm
        rw [allB_false (i := g) (by omega) h]
        cases L.within f.id 1 65535 <;> cases L.within f.grey.n 1 16 <;> rfl
      · have h : L.within (f.grey.g g) 0 255 = true := by simpa using h
        exact ⟨InK.of (by omega) (by omega), g + 1, by omega, rfl, ⟨by omega, fun j hj => by
          rcases Nat.lt_succ_iff_lt_or_eq.1 hj with h' | rfl
          · exact hg.2 j h'
          · exact h⟩, by omega⟩
    · have hb : ¬ (g : Int) < (f.grey.n : Int) := of_decide_eq_false hge
      have h3 : L.within f.id 1 65535 = true ∧ L.within f.grey.n 1 16 = true := by
        simp only [bor, Bool.or_eq_false_iff, decide_eq_false_iff_not, Bool.not_eq_false'] at h
        exact ⟨h.1.1, within_iff.2 (by omega)⟩
      unfold L.validFilm
      rw [h3.1, h3.2, allB_iff.2 (fun i hi => hg.2 i (by omega))]; rfl)
theorem r3_ValidFilm_ok : SpecOk Try.prog 18 r3_ValidFilm_S := fnX Try.func18 (c := bodyOf Try.f18) (by kernel_rfl) mixed (fun args p r hs hp => by
  unfold r3_ValidFilm_s at hs
  split at hs
  · cases hs; exact ⟨_, _, r3_ValidFilm_vc _ hp.2, (.p (.agg rfl (fun i hi => by
      rcases i with _ | i
      · exact (Ext.refl _ : Ext _ _)
      rcases i with _ | i
      · exact (Ext.sl hp.1 : Ext _ _)
      exact absurd hi (by simp; try omega))) .nil), ⟨show SpecsL Try.prog _ from (SpecsL.cons r3_within_ok r3_within_en SpecsL.nil), rfl, ⟨show ItersL Try.prog _ from ItersL.nil, (TrsOk.none (fun _ => rfl))⟩⟩⟩
  · cases hs)
theorem r3_ValidFilm_en : Enters Try.prog 18 := fun args w => by kernel_rfl
theorem r3_ValidFilm_B : ∀ args p r, r3_ValidFilm_s args = some (p, r) → ∃ b, r = .bool b := by
  intro args p r h
  unfold r3_ValidFilm_s at h
  split at h
  · cases h; exact ⟨_, rfl⟩
  · cases h
def w_few_p (p : L.Piece) (l : (L.Sq L.Pt)) : Prop := True
def w_few_r (p : L.Piece) (l : (L.Sq L.Pt)) : SV := .bool (L.few p l)
def w_few_s : List EV → Option (Prop × SV)
  | [.p (.agg [.int .i64 p_id, .int .i64 p_colour, .int .i64 p_rev, .int .i64 p_made, .int .i64 p_swell, .sl 5 p_gauges_n p_gauges_g, .sl 3 p_marks_n p_marks_g]), .p (.sl 2 l_n l_g)] => some ((∀ i, i < p_gauges_n → p_gauges_g i = [.int .i64 ((ofGauge (p_gauges_g i)).edge.lo), .int .i64 ((ofGauge (p_gauges_g i)).edge.hi), .int .i64 ((ofGauge (p_gauges_g i)).across.lo), .int .i64 ((ofGauge (p_gauges_g i)).across.hi), .int .i64 ((ofGauge (p_gauges_g i)).bend)]) ∧ (∀ i, i < p_marks_n → p_marks_g i = [.int .i64 ((ofMark (p_marks_g i)).edge), .int .i64 ((ofMark (p_marks_g i)).place), .int .i64 ((ofMark (p_marks_g i)).tone)]) ∧ (∀ i, i < l_n → l_g i = [.int .i64 ((ofPt (l_g i)).x), .int .i64 ((ofPt (l_g i)).y)]) ∧ w_few_p (⟨p_id, p_colour, p_rev, p_made, p_swell, (⟨p_gauges_n, fun i => ofGauge (p_gauges_g i)⟩ : (L.Sq L.Gauge)), (⟨p_marks_n, fun i => ofMark (p_marks_g i)⟩ : (L.Sq L.Mark))⟩ : L.Piece) (⟨l_n, fun i => ofPt (l_g i)⟩ : (L.Sq L.Pt)), w_few_r (⟨p_id, p_colour, p_rev, p_made, p_swell, (⟨p_gauges_n, fun i => ofGauge (p_gauges_g i)⟩ : (L.Sq L.Gauge)), (⟨p_marks_n, fun i => ofMark (p_marks_g i)⟩ : (L.Sq L.Mark))⟩ : L.Piece) (⟨l_n, fun i => ofPt (l_g i)⟩ : (L.Sq L.Pt)))
  | _ => none
abbrev w_few_S : SE.Spec := (specO w_few_s)
def w_few_C : Cfg := { muts := [], frz := lookN [], specs := lookS [], loops := lookL [], iters := lookI [], rfs := lookR [], nils := lookM [] }
theorem w_few_vc (p : L.Piece) (l : (L.Sq L.Pt)) (hp : w_few_p p l) : vc Try.prog (w_few_C) (bodyOf Try.f14) (st0 Try.f14 [.p (.agg [.int .i64 p.id, .int .i64 p.colour, .int .i64 p.rev, .int .i64 p.made, .int .i64 p.swell, .sl 5 p.gauges.n (fun i => [.int .i64 ((p.gauges.g i).edge.lo), .int .i64 ((p.gauges.g i).edge.hi), .int .i64 ((p.gauges.g i).across.lo), .int .i64 ((p.gauges.g i).across.hi), .int .i64 ((p.gauges.g i).bend)]), .sl 3 p.marks.n (fun i => [.int .i64 ((p.marks.g i).edge), .int .i64 ((p.marks.g i).place), .int .i64 ((p.marks.g i).tone)])]), .p (.sl 2 l.n (fun i => [.int .i64 ((l.g i).x), .int .i64 ((l.g i).y)]))]) (retFn Try.prog Try.f14 (w_few_r p l)) :=
  @Eq.mpr _ ((bif bif Decidable.decide ((↑p.gauges.n : Int) ≤ (60 : Int)) then Decidable.decide ((↑p.marks.n : Int) ≤ (100 : Int)) else Bool.false then
    Decidable.decide ((↑l.n : Int) ≤ (60 : Int))
  else Bool.false) =
  Go.Proofs.Ytipaekbdalahdaa.L.few p l) (by kernel_rfl) (by
    rfl)
theorem w_few_ok : SpecOk Try.prog 14 w_few_S := fnX Try.func14 (c := bodyOf Try.f14) (by kernel_rfl) mixed (fun args p r hs hp => by
  unfold w_few_s at hs
  split at hs
  · cases hs; exact ⟨_, _, w_few_vc _ _ hp.2.2.2, (.p (.agg rfl (fun i hi => by
      rcases i with _ | i
      · exact (Ext.refl _ : Ext _ _)
      rcases i with _ | i
      · exact (Ext.refl _ : Ext _ _)
      rcases i with _ | i
      · exact (Ext.refl _ : Ext _ _)
      rcases i with _ | i
      · exact (Ext.refl _ : Ext _ _)
      rcases i with _ | i
      · exact (Ext.refl _ : Ext _ _)
      rcases i with _ | i
      · exact (Ext.sl hp.1 : Ext _ _)
      rcases i with _ | i
      · exact (Ext.sl hp.2.1 : Ext _ _)
      exact absurd hi (by simp; try omega))) (.p (.sl hp.2.2.1) .nil)), ⟨show SpecsL Try.prog _ from SpecsL.nil, rfl, ⟨show ItersL Try.prog _ from ItersL.nil, (TrsOk.none (fun _ => rfl))⟩⟩⟩
  · cases hs)
theorem w_few_en : Enters Try.prog 14 := fun args w => by kernel_rfl
theorem w_few_B : ∀ args p r, w_few_s args = some (p, r) → ∃ b, r = .bool b := by
  intro args p r h
  unfold w_few_s at h
  split at h
  · cases h; exact ⟨_, rfl⟩
  · cases h
def w_GlassValid_p (p : L.Piece) (f : L.Film) : Prop := True
def w_GlassValid_r (p : L.Piece) (f : L.Film) : SV := .bool true
def w_GlassValid_s : List EV → Option (Prop × SV)
  | [.p (.agg [.int .i64 p_id, .int .i64 p_colour, .int .i64 p_rev, .int .i64 p_made, .int .i64 p_swell, .sl 5 p_gauges_n p_gauges_g, .sl 3 p_marks_n p_marks_g]), .p (.agg [.int .i64 f_id, .sl 1 f_grey_n f_grey_g])] => some ((∀ i, i < p_gauges_n → p_gauges_g i = [.int .i64 ((ofGauge (p_gauges_g i)).edge.lo), .int .i64 ((ofGauge (p_gauges_g i)).edge.hi), .int .i64 ((ofGauge (p_gauges_g i)).across.lo), .int .i64 ((ofGauge (p_gauges_g i)).across.hi), .int .i64 ((ofGauge (p_gauges_g i)).bend)]) ∧ (∀ i, i < p_marks_n → p_marks_g i = [.int .i64 ((ofMark (p_marks_g i)).edge), .int .i64 ((ofMark (p_marks_g i)).place), .int .i64 ((ofMark (p_marks_g i)).tone)]) ∧ (∀ i, i < f_grey_n → f_grey_g i = [.int .i64 ((intOf (f_grey_g i)))]) ∧ w_GlassValid_p (⟨p_id, p_colour, p_rev, p_made, p_swell, (⟨p_gauges_n, fun i => ofGauge (p_gauges_g i)⟩ : (L.Sq L.Gauge)), (⟨p_marks_n, fun i => ofMark (p_marks_g i)⟩ : (L.Sq L.Mark))⟩ : L.Piece) (⟨f_id, (⟨f_grey_n, fun i => intOf (f_grey_g i)⟩ : (L.Sq Int))⟩ : L.Film), w_GlassValid_r (⟨p_id, p_colour, p_rev, p_made, p_swell, (⟨p_gauges_n, fun i => ofGauge (p_gauges_g i)⟩ : (L.Sq L.Gauge)), (⟨p_marks_n, fun i => ofMark (p_marks_g i)⟩ : (L.Sq L.Mark))⟩ : L.Piece) (⟨f_id, (⟨f_grey_n, fun i => intOf (f_grey_g i)⟩ : (L.Sq Int))⟩ : L.Film))
  | _ => none
abbrev w_GlassValid_S : SE.Spec := (specO w_GlassValid_s)
def w_GlassValid_C : Cfg := { muts := [], frz := lookN [], specs := lookS [(12, w_awake_S), (14, w_few_S), (15, g_ValidPiece_S), (16, r3_ValidPiece_S), (17, g_ValidFilm_S), (18, r3_ValidFilm_S)], loops := lookL [], iters := lookI [], rfs := lookR [], nils := lookM [] }
theorem w_GlassValid_vc (p : L.Piece) (f : L.Film) (hp : w_GlassValid_p p f) : vc Try.prog (w_GlassValid_C) (bodyOf Try.f4) (st0 Try.f4 [.p (.agg [.int .i64 p.id, .int .i64 p.colour, .int .i64 p.rev, .int .i64 p.made, .int .i64 p.swell, .sl 5 p.gauges.n (fun i => [.int .i64 ((p.gauges.g i).edge.lo), .int .i64 ((p.gauges.g i).edge.hi), .int .i64 ((p.gauges.g i).across.lo), .int .i64 ((p.gauges.g i).across.hi), .int .i64 ((p.gauges.g i).bend)]), .sl 3 p.marks.n (fun i => [.int .i64 ((p.marks.g i).edge), .int .i64 ((p.marks.g i).place), .int .i64 ((p.marks.g i).tone)])]), .p (.agg [.int .i64 f.id, .sl 1 f.grey.n (fun i => [.int .i64 ((f.grey.g i))])])]) (retFn Try.prog Try.f4 (w_GlassValid_r p f)) :=
  @Eq.mpr _ (True ∧
  ((∀ (i : Nat),
        i < p.gauges.n →
          [Go.SE.SV.int Go.IntKind.i64 (p.gauges.g i).edge.lo, Go.SE.SV.int Go.IntKind.i64 (p.gauges.g i).edge.hi,
              Go.SE.SV.int Go.IntKind.i64 (p.gauges.g i).across.lo, Go.SE.SV.int Go.IntKind.i64 (p.gauges.g i).across.hi,
              Go.SE.SV.int Go.IntKind.i64 (p.gauges.g i).bend] =
            [Go.SE.SV.int Go.IntKind.i64 (p.gauges.g i).edge.lo, Go.SE.SV.int Go.IntKind.i64 (p.gauges.g i).edge.hi,
              Go.SE.SV.int Go.IntKind.i64 (p.gauges.g i).across.lo, Go.SE.SV.int Go.IntKind.i64 (p.gauges.g i).across.hi,
              Go.SE.SV.int Go.IntKind.i64 (p.gauges.g i).bend]) ∧
      (∀ (i : Nat),
          i < p.marks.n →
            [Go.SE.SV.int Go.IntKind.i64 (p.marks.g i).edge, Go.SE.SV.int Go.IntKind.i64 (p.marks.g i).place, Go.SE.SV.int Go.IntKind.i64 (p.marks.g i).tone] =
              [Go.SE.SV.int Go.IntKind.i64 (p.marks.g i).edge, Go.SE.SV.int Go.IntKind.i64 (p.marks.g i).place,
                Go.SE.SV.int Go.IntKind.i64 (p.marks.g i).tone]) ∧
        (∀ (i : Nat), i < nat_lit 0 → [] = [Go.SE.SV.int Go.IntKind.i64 (0 : Int), Go.SE.SV.int Go.IntKind.i64 (0 : Int)]) ∧ True) ∧
    ((bif
              !Go.Proofs.Ytipaekbdalahdaa.L.few
                  (Go.Proofs.Ytipaekbdalahdaa.L.Piece.mk p.id p.colour p.rev p.made p.swell
                    (Go.Proofs.Ytipaekbdalahdaa.L.Sq.mk p.gauges.n fun (i : Nat) ↦ p.gauges.g i)
                    (Go.Proofs.Ytipaekbdalahdaa.L.Sq.mk p.marks.n fun (i : Nat) ↦ p.marks.g i))
                  (Go.Proofs.Ytipaekbdalahdaa.L.Sq.mk (nat_lit 0) fun (i : Nat) ↦ Go.Proofs.Ytipaekbdalahdaa.L.Pt.mk (0 : Int) (0 : Int)) then
            Bool.true
          else Decidable.decide ((100 : Int) < (↑f.grey.n : Int))) =
          Bool.true →
        Bool.true = Bool.true) ∧
      ((bif
              !Go.Proofs.Ytipaekbdalahdaa.L.few
                  (Go.Proofs.Ytipaekbdalahdaa.L.Piece.mk p.id p.colour p.rev p.made p.swell
                    (Go.Proofs.Ytipaekbdalahdaa.L.Sq.mk p.gauges.n fun (i : Nat) ↦ p.gauges.g i)
                    (Go.Proofs.Ytipaekbdalahdaa.L.Sq.mk p.marks.n fun (i : Nat) ↦ p.marks.g i))
                  (Go.Proofs.Ytipaekbdalahdaa.L.Sq.mk (nat_lit 0) fun (i : Nat) ↦ Go.Proofs.Ytipaekbdalahdaa.L.Pt.mk (0 : Int) (0 : Int)) then
            Bool.true
          else Decidable.decide ((100 : Int) < (↑f.grey.n : Int))) =
          Bool.false →
        (Bool.true = Bool.true →
            (∀ (i : Nat),
                i < p.gauges.n →
                  [Go.SE.SV.int Go.IntKind.i64 (p.gauges.g i).edge.lo, Go.SE.SV.int Go.IntKind.i64 (p.gauges.g i).edge.hi,
                      Go.SE.SV.int Go.IntKind.i64 (p.gauges.g i).across.lo, Go.SE.SV.int Go.IntKind.i64 (p.gauges.g i).across.hi,
                      Go.SE.SV.int Go.IntKind.i64 (p.gauges.g i).bend] =
                    [Go.SE.SV.int Go.IntKind.i64 (p.gauges.g i).edge.lo, Go.SE.SV.int Go.IntKind.i64 (p.gauges.g i).edge.hi,
                      Go.SE.SV.int Go.IntKind.i64 (p.gauges.g i).across.lo, Go.SE.SV.int Go.IntKind.i64 (p.gauges.g i).across.hi,
                      Go.SE.SV.int Go.IntKind.i64 (p.gauges.g i).bend]) ∧
              (∀ (i : Nat),
                  i < p.marks.n →
                    [Go.SE.SV.int Go.IntKind.i64 (p.marks.g i).edge, Go.SE.SV.int Go.IntKind.i64 (p.marks.g i).place,
                        Go.SE.SV.int Go.IntKind.i64 (p.marks.g i).tone] =
                      [Go.SE.SV.int Go.IntKind.i64 (p.marks.g i).edge, Go.SE.SV.int Go.IntKind.i64 (p.marks.g i).place,
                        Go.SE.SV.int Go.IntKind.i64 (p.marks.g i).tone]) ∧
                p.gauges.n ≤ (1000000 : Nat) ∧ p.marks.n ≤ (1000000 : Nat)) ∧
          (Bool.true = Bool.true →
              (∀ (i : Nat),
                  i < p.gauges.n →
                    [Go.SE.SV.int Go.IntKind.i64 (p.gauges.g i).edge.lo, Go.SE.SV.int Go.IntKind.i64 (p.gauges.g i).edge.hi,
                        Go.SE.SV.int Go.IntKind.i64 (p.gauges.g i).across.lo, Go.SE.SV.int Go.IntKind.i64 (p.gauges.g i).across.hi,
                        Go.SE.SV.int Go.IntKind.i64 (p.gauges.g i).bend] =
                      [Go.SE.SV.int Go.IntKind.i64 (p.gauges.g i).edge.lo, Go.SE.SV.int Go.IntKind.i64 (p.gauges.g i).edge.hi,
                        Go.SE.SV.int Go.IntKind.i64 (p.gauges.g i).across.lo, Go.SE.SV.int Go.IntKind.i64 (p.gauges.g i).across.hi,
                        Go.SE.SV.int Go.IntKind.i64 (p.gauges.g i).bend]) ∧
                (∀ (i : Nat),
                    i < p.marks.n →
                      [Go.SE.SV.int Go.IntKind.i64 (p.marks.g i).edge, Go.SE.SV.int Go.IntKind.i64 (p.marks.g i).place,
                          Go.SE.SV.int Go.IntKind.i64 (p.marks.g i).tone] =
                        [Go.SE.SV.int Go.IntKind.i64 (p.marks.g i).edge, Go.SE.SV.int Go.IntKind.i64 (p.marks.g i).place,
                          Go.SE.SV.int Go.IntKind.i64 (p.marks.g i).tone]) ∧
                  p.gauges.n ≤ (1000000 : Nat) ∧ p.marks.n ≤ (1000000 : Nat)) ∧
            ((bif Bool.true then
                    Go.Proofs.Ytipaekbdalahdaa.L.validPiece
                        (Go.Proofs.Ytipaekbdalahdaa.L.Piece.mk p.id p.colour p.rev p.made p.swell
                          (Go.Proofs.Ytipaekbdalahdaa.L.Sq.mk p.gauges.n fun (i : Nat) ↦ p.gauges.g i)
                          (Go.Proofs.Ytipaekbdalahdaa.L.Sq.mk p.marks.n fun (i : Nat) ↦ p.marks.g i)) ==
                      Go.Proofs.Ytipaekbdalahdaa.L.validPiece
                        (Go.Proofs.Ytipaekbdalahdaa.L.Piece.mk p.id p.colour p.rev p.made p.swell
                          (Go.Proofs.Ytipaekbdalahdaa.L.Sq.mk p.gauges.n fun (i : Nat) ↦ p.gauges.g i)
                          (Go.Proofs.Ytipaekbdalahdaa.L.Sq.mk p.marks.n fun (i : Nat) ↦ p.marks.g i))
                  else Bool.false) =
                  Bool.true →
                (∀ (i : Nat), i < f.grey.n → [Go.SE.SV.int Go.IntKind.i64 (f.grey.g i)] = [Go.SE.SV.int Go.IntKind.i64 (f.grey.g i)]) ∧
                  f.grey.n ≤ (1000000 : Nat)) ∧
              ((bif Bool.true then
                      Go.Proofs.Ytipaekbdalahdaa.L.validPiece
                          (Go.Proofs.Ytipaekbdalahdaa.L.Piece.mk p.id p.colour p.rev p.made p.swell
                            (Go.Proofs.Ytipaekbdalahdaa.L.Sq.mk p.gauges.n fun (i : Nat) ↦ p.gauges.g i)
                            (Go.Proofs.Ytipaekbdalahdaa.L.Sq.mk p.marks.n fun (i : Nat) ↦ p.marks.g i)) ==
                        Go.Proofs.Ytipaekbdalahdaa.L.validPiece
                          (Go.Proofs.Ytipaekbdalahdaa.L.Piece.mk p.id p.colour p.rev p.made p.swell
                            (Go.Proofs.Ytipaekbdalahdaa.L.Sq.mk p.gauges.n fun (i : Nat) ↦ p.gauges.g i)
                            (Go.Proofs.Ytipaekbdalahdaa.L.Sq.mk p.marks.n fun (i : Nat) ↦ p.marks.g i))
                    else Bool.false) =
                    Bool.true →
                  (∀ (i : Nat), i < f.grey.n → [Go.SE.SV.int Go.IntKind.i64 (f.grey.g i)] = [Go.SE.SV.int Go.IntKind.i64 (f.grey.g i)]) ∧
                    f.grey.n ≤ (1000000 : Nat)) ∧
                (bif
                      bif Bool.true then
                        Go.Proofs.Ytipaekbdalahdaa.L.validPiece
                            (Go.Proofs.Ytipaekbdalahdaa.L.Piece.mk p.id p.colour p.rev p.made p.swell
                              (Go.Proofs.Ytipaekbdalahdaa.L.Sq.mk p.gauges.n fun (i : Nat) ↦ p.gauges.g i)
                              (Go.Proofs.Ytipaekbdalahdaa.L.Sq.mk p.marks.n fun (i : Nat) ↦ p.marks.g i)) ==
                          Go.Proofs.Ytipaekbdalahdaa.L.validPiece
                            (Go.Proofs.Ytipaekbdalahdaa.L.Piece.mk p.id p.colour p.rev p.made p.swell
                              (Go.Proofs.Ytipaekbdalahdaa.L.Sq.mk p.gauges.n fun (i : Nat) ↦ p.gauges.g i)
                              (Go.Proofs.Ytipaekbdalahdaa.L.Sq.mk p.marks.n fun (i : Nat) ↦ p.marks.g i))
                      else Bool.false then
                    Go.Proofs.Ytipaekbdalahdaa.L.validFilm
                        (Go.Proofs.Ytipaekbdalahdaa.L.Film.mk f.id (Go.Proofs.Ytipaekbdalahdaa.L.Sq.mk f.grey.n fun (i : Nat) ↦ f.grey.g i)) ==
                      Go.Proofs.Ytipaekbdalahdaa.L.validFilm
                        (Go.Proofs.Ytipaekbdalahdaa.L.Film.mk f.id (Go.Proofs.Ytipaekbdalahdaa.L.Sq.mk f.grey.n fun (i : Nat) ↦ f.grey.g i))
                  else Bool.false) =
                  Bool.true)) (by kernel_rfl) (by
    refine ⟨trivial, ⟨fun _ _ => rfl, fun _ _ => rfl, fun i hi => absurd hi (Nat.not_lt_zero _), trivial⟩, fun _ => rfl, fun h => ?_⟩
    have hs : p.gauges.n ≤ 60 ∧ p.marks.n ≤ 100 ∧ f.grey.n ≤ 100 := by
      have h : (bif !L.few p ⟨0, fun _ => ⟨0, 0⟩⟩ then true else decide (100 < (f.grey.n : Int))) = false := h
      simp only [bor, Bool.or_eq_false_iff, Bool.not_eq_false', decide_eq_false_iff_not, few_iff] at h
      omega
    refine ⟨fun _ => ⟨fun _ _ => rfl, fun _ _ => rfl, by omega, by omega⟩, fun _ => ⟨fun _ _ => rfl, fun _ _ => rfl, by omega, by omega⟩, fun _ => ⟨fun _ _ => rfl, by omega⟩, fun _ => ⟨fun _ _ => rfl, by omega⟩, ?_⟩
    show (bif (bif true then (L.validPiece p == L.validPiece p) else false) then (L.validFilm f == L.validFilm f) else false) = true
    rw [beq_self_eq_true, beq_self_eq_true]; rfl)
theorem w_GlassValid_ok : SpecOk Try.prog 4 w_GlassValid_S := fnX Try.func4 (c := bodyOf Try.f4) (by kernel_rfl) mixed (fun args p r hs hp => by
  unfold w_GlassValid_s at hs
  split at hs
  · cases hs; exact ⟨_, _, w_GlassValid_vc _ _ hp.2.2.2, (.p (.agg rfl (fun i hi => by
      rcases i with _ | i
      · exact (Ext.refl _ : Ext _ _)
      rcases i with _ | i
      · exact (Ext.refl _ : Ext _ _)
      rcases i with _ | i
      · exact (Ext.refl _ : Ext _ _)
      rcases i with _ | i
      · exact (Ext.refl _ : Ext _ _)
      rcases i with _ | i
      · exact (Ext.refl _ : Ext _ _)
      rcases i with _ | i
      · exact (Ext.sl hp.1 : Ext _ _)
      rcases i with _ | i
      · exact (Ext.sl hp.2.1 : Ext _ _)
      exact absurd hi (by simp; try omega))) (.p (.agg rfl (fun i hi => by
      rcases i with _ | i
      · exact (Ext.refl _ : Ext _ _)
      rcases i with _ | i
      · exact (Ext.sl hp.2.2.1 : Ext _ _)
      exact absurd hi (by simp; try omega))) .nil)), ⟨show SpecsL Try.prog _ from (SpecsL.cons w_awake_ok w_awake_en (SpecsL.cons w_few_ok w_few_en (SpecsL.cons g_ValidPiece_ok g_ValidPiece_en (SpecsL.cons r3_ValidPiece_ok r3_ValidPiece_en (SpecsL.cons g_ValidFilm_ok g_ValidFilm_en (SpecsL.cons r3_ValidFilm_ok r3_ValidFilm_en SpecsL.nil)))))), rfl, ⟨show ItersL Try.prog _ from ItersL.nil, (TrsOk.none (fun _ => rfl))⟩⟩⟩
  · cases hs)
theorem w_GlassValid_en : Enters Try.prog 4 := fun args w => by kernel_rfl
theorem w_GlassValid_B : ∀ args p r, w_GlassValid_s args = some (p, r) → ∃ b, r = .bool b := by
  intro args p r h
  unfold w_GlassValid_s at h
  split at h
  · cases h; exact ⟨_, rfl⟩
  · cases h
end Go.Proofs.Ytipaekbdalahdaa
