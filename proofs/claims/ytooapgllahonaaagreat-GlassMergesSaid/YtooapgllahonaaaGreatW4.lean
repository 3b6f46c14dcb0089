/- A symbolic walk over the model, and what it shows of functions of the program: parts of the proof that the text of the row joins. -/
import Derived.Test.YtooapgllahonaaaGreatW3
import Derived.Test.YtooapgllahonaaaGreatE4
import Derived.KernelRfl

namespace Go.Proofs.YtooapgllahonaaaGreat
open Go.SE Go.RowKit
set_option maxRecDepth 100000
set_option maxHeartbeats 4000000
set_option linter.unusedVariables false
attribute [local irreducible] vc

def L.bothS (a b : L.Span) : L.Span := ⟨max a.lo b.lo, min a.hi b.hi⟩
def L.agG (g h : L.Gauge) : Bool := !(bif (bif decide ((L.bothS g.edge h.edge).hi < (L.bothS g.edge h.edge).lo) then true else decide ((L.bothS g.across h.across).hi < (L.bothS g.across h.across).lo)) then true else (bif (bif !decide (g.bend = h.bend) then !decide (g.bend = 0) else false) then !decide (h.bend = 0) else false))
def L.agNum (r q : L.Piece) : Bool := bif (bif (bif (bif (bif (bif !decide ((r.gauges.n : Int) = q.gauges.n) then true else !decide (r.colour = q.colour)) then true else !decide (r.rev = q.rev)) then true else !decide (r.made = q.made)) then true else !decide (r.swell = q.swell)) then true else !L.sameMs r.marks q.marks) then false else true
def L.agr (r q : L.Piece) : Bool := L.agNum r q && L.allB r.gauges.n (fun i => L.agG (r.gauges.g i) (q.gauges.g i))
def L.agrK (p q : L.Piece) (k : Nat) : Bool := L.agr (L.rs p (L.sett k)) q
def L.agE (p q : L.Piece) : Int := bif (bif !L.validPiece p then true else !L.validPiece q) then 30 else 0
def L.agN (p q : L.Piece) : Nat := bif decide (L.agE p q = 0) then L.cnt (L.agrK p q) (2 * p.gauges.n) else 0
def L.agS (p q : L.Piece) (k : Nat) : L.Setting := L.sett (L.selN (L.agrK p q) (2 * p.gauges.n) k)
def L.mgG (g h : L.Gauge) : L.Gauge := ⟨L.bothS g.edge h.edge, L.bothS g.across h.across, L.or2 h.bend g.bend⟩
def L.mg (r q : L.Piece) : L.Piece := ⟨q.id, q.colour, q.rev, q.made, q.swell, ⟨q.gauges.n, fun i => L.mgG (r.gauges.g i) (q.gauges.g i)⟩, q.marks⟩
def L.mgTo (r q : L.Piece) (i k : Nat) : L.Gauge := bif decide (k < i) then L.mgG (r.gauges.g k) (q.gauges.g k) else q.gauges.g k
def L.mgE (p q : L.Piece) (s : L.Setting) : Int := bif !L.validPiece q then 30 else bif !decide (L.wrE p s = 0) then L.wrE p s else bif !L.agr (L.rs p s) q then 31 else 0
def L.mgV (p q : L.Piece) (s : L.Setting) : L.Piece := bif decide (L.mgE p q s = 0) then L.mg (L.rs p s) q else L.zeroP
def g_both_p (a : L.Span) (b : L.Span) : Prop := True
def g_both_r (a : L.Span) (b : L.Span) : SV := (.agg [.int .i64 ((L.bothS a b).lo), .int .i64 ((L.bothS a b).hi)])
def g_both_s : List EV → Option (Prop × SV)
  | [.p (.agg [.int .i64 a_lo, .int .i64 a_hi]), .p (.agg [.int .i64 b_lo, .int .i64 b_hi])] => some (g_both_p (⟨a_lo, a_hi⟩ : L.Span) (⟨b_lo, b_hi⟩ : L.Span), g_both_r (⟨a_lo, a_hi⟩ : L.Span) (⟨b_lo, b_hi⟩ : L.Span))
  | _ => none
abbrev g_both_S : SE.Spec := (specO g_both_s)
def g_both_C : Cfg := { muts := [4], frz := lookN [], specs := lookS [], loops := lookL [], iters := lookI [], rfs := lookR [], nils := lookM [] }
theorem g_both_vc (a : L.Span) (b : L.Span) (hp : g_both_p a b) : vc Tryz.prog (g_both_C) (bodyOf Tryz.f115) (st0 Tryz.f115 [.p (.agg [.int .i64 a.lo, .int .i64 a.hi]), .p (.agg [.int .i64 b.lo, .int .i64 b.hi])]) (retFn Tryz.prog Tryz.f115 (g_both_r a b)) :=
  @Eq.mpr _ (SV.agg [SV.int .i64 (Max.max a.lo b.lo), SV.int .i64 (Min.min a.hi b.hi)] = SV.agg [SV.int .i64 (L.bothS a b).lo, SV.int .i64 (L.bothS a b).hi]) (by kernel_rfl) (by
    rfl)
theorem g_both_ok : SpecOk Tryz.prog 115 g_both_S := fnX Tryz.func115 (c := bodyOf Tryz.f115) (by kernel_rfl) mixed (fun args p r hs hp => by
  unfold g_both_s at hs
  split at hs
  · cases hs; exact ⟨_, _, g_both_vc _ _ hp, (.same _ (.same _ .nil)), ⟨show SpecsL Tryz.prog _ from SpecsL.nil, rfl, ⟨show ItersL Tryz.prog _ from ItersL.nil, (TrsOk.none (fun _ => rfl))⟩⟩⟩
  · cases hs)
theorem g_both_en : Enters Tryz.prog 115 := fun args w => by kernel_rfl
def s_eqM_p (a : (L.Sq L.Mark)) (b : (L.Sq L.Mark)) : Prop := a.n ≤ 1000000
def s_eqM_r (a : (L.Sq L.Mark)) (b : (L.Sq L.Mark)) : SV := .bool (L.sameMs a b)
def s_eqM_s : List EV → Option (Prop × SV)
  | [.p (.sl 3 a_n a_g), .p (.sl 3 b_n b_g)] => some ((∀ i, i < a_n → a_g i = [.int .i64 ((ofMark (a_g i)).edge), .int .i64 ((ofMark (a_g i)).place), .int .i64 ((ofMark (a_g i)).tone)]) ∧ (∀ i, i < b_n → b_g i = [.int .i64 ((ofMark (b_g i)).edge), .int .i64 ((ofMark (b_g i)).place), .int .i64 ((ofMark (b_g i)).tone)]) ∧ s_eqM_p (⟨a_n, fun i => ofMark (a_g i)⟩ : (L.Sq L.Mark)) (⟨b_n, fun i => ofMark (b_g i)⟩ : (L.Sq L.Mark)), s_eqM_r (⟨a_n, fun i => ofMark (a_g i)⟩ : (L.Sq L.Mark)) (⟨b_n, fun i => ofMark (b_g i)⟩ : (L.Sq L.Mark)))
  | _ => none
abbrev s_eqM_S : SE.Spec := (specO s_eqM_s)
def s_eqM_C : Cfg := { muts := [], frz := lookN [], specs := lookS [], loops := fun _ => none, iters := lookI [], rfs := lookR [], nils := lookM [] }
theorem s_eqM_vc (a : (L.Sq L.Mark)) (b : (L.Sq L.Mark)) (hp : s_eqM_p a b) : vc Tryz.prog ({ s_eqM_C with loops := lookL [(4, { T := Nat, keep := [0, 1, 12], keepO := [], chg := fun i => [(13, .p (.int .i64 (i : Int)))], own := fun _ => [], inv := fun i => i ≤ a.n ∧ ∀ j, j < i → L.sameM (a.g j) (b.g j) = true, mu := fun i => a.n - i })], rfs := lookR [] }) (bodyOf Tryz.f167) (st0 Tryz.f167 [.p (.sl 3 a.n (fun i => [.int .i64 ((a.g i).edge), .int .i64 ((a.g i).place), .int .i64 ((a.g i).tone)])), .p (.sl 3 b.n (fun i => [.int .i64 ((b.g i).edge), .int .i64 ((b.g i).place), .int .i64 ((b.g i).tone)]))]) (retFn Tryz.prog Tryz.f167 (s_eqM_r a b)) :=
  @Eq.mpr _ (((!decide ((↑a.n : Int) = (↑b.n : Int))) = true → false = L.sameMs a b) ∧ ((!decide ((↑a.n : Int) = (↑b.n : Int))) = false → (∃ (g : Nat), (0 : Int) = (↑g : Int) ∧ g ≤ a.n ∧ ∀ (j : Nat), j < g → L.sameM (a.g j) (b.g j) = true) ∧ ∀ (g : Nat), (g ≤ a.n ∧ ∀ (j : Nat), j < g → L.sameM (a.g j) (b.g j) = true) → (decide ((↑g : Int) < (↑a.n : Int)) = true → ((0 : Int) ≤ (↑g : Int) ∧ (↑g : Int) < (↑a.n :
 Int)) ∧ ((0 : Int) ≤ (↑g : Int) ∧ (↑g : Int) < (↑b.n : Int)) ∧ ((!(decide ((a.g (Int.toNat (↑g : Int))).edge = (b.g (Int.toNat (↑g : Int))).edge) && (decide ((a.g (Int.toNat (↑g : Int))).place = (b.g (Int.toNat (↑g : Int))).place) && decide ((a.g (Int.toNat (↑g : Int))).tone = (b.g (Int.toNat (↑g : Int))).tone)))) = true → false = L.sameMs a b) ∧ ((!(decide ((a.g (Int.toNat (↑g : Int))).edge =
 (b.g (Int.toNat (↑g : Int))).edge) && (decide ((a.g (Int.toNat (↑g : Int))).place = (b.g (Int.toNat (↑g : Int))).place) && decide ((a.g (Int.toNat (↑g : Int))).tone = (b.g (Int.toNat (↑g : Int))).tone)))) = false → InK .i64 ((↑g : Int) + (1 : Int)) ∧ ∃ (g' : Nat), (↑g : Int) + (1 : Int) = (↑g' : Int) ∧ (↑a.n : Int) = (↑a.n : Int) ∧ (a.n = a.n ∧ ∀ (i : Nat), i < a.n → (cM (a.g i)) = (cM (a.g i))) ∧
 (b.n = b.n ∧ ∀ (i : Nat), i < b.n → (cM (b.g i)) = (cM (b.g i))) ∧ (g' ≤ a.n ∧ ∀ (j : Nat), j < g' → L.sameM (a.g j) (b.g j) = true) ∧ a.n - g' < a.n - g)) ∧ (decide ((↑g : Int) < (↑a.n : Int)) = false → true = L.sameMs a b))) (by kernel_rfl) (by
    have ha : a.n ≤ 1000000 := hp
    refine ⟨fun h => ?_, fun h => ?_⟩
    · unfold L.sameMs; rw [notT h]; rfl
    have hd := notF h
    have hn := of_decide_eq_true hd
    refine ⟨⟨(0 : Nat), rfl, Nat.zero_le _, fun j hj => absurd hj (Nat.not_lt_zero _)⟩, fun g hg => ⟨fun hlt => ?_, fun hge => ?_⟩⟩
    · have hb : (g : Int) < (a.n : Int) := of_decide_eq_true hlt
      have e0 : ((g : Int)).toNat = g := by omega
      rw [e0]
      refine ⟨⟨by omega, hb⟩, ⟨by omega, by omega⟩, fun h1 => ?_, fun h1 => ?_⟩
      · have h1 : L.sameM (a.g g) (b.g g) = false := notT h1
        unfold L.sameMs; rw [hd, allB_false (i := g) (by omega) h1]; rfl
      · have h1 : L.sameM (a.g g) (b.g g) = true := notF h1
        exact ⟨InK.of (by omega) (by omega), g + 1, by omega, rfl, ⟨rfl, fun _ _ => rfl⟩, ⟨rfl, fun _ _ => rfl⟩, ⟨by omega, fun j hj => by
          rcases Nat.lt_succ_iff_lt_or_eq.1 hj with h' | rfl
          · exact hg.2 j h'
          · exact h1⟩, by omega⟩
    · have hb : ¬ (g : Int) < (a.n : Int) := of_decide_eq_false hge
      unfold L.sameMs; rw [hd, allB_iff.2 (fun i hi => hg.2 i (by omega))]; rfl)
theorem s_eqM_ok : SpecOk Tryz.prog 167 s_eqM_S := fnX Tryz.func167 (c := bodyOf Tryz.f167) (by kernel_rfl) mixed (fun args p r hs hp => by
  unfold s_eqM_s at hs
  split at hs
  · cases hs; exact ⟨_, _, s_eqM_vc _ _ hp.2.2, (.p (.sl hp.1) (.p (.sl hp.2.1) .nil)), ⟨show SpecsL Tryz.prog _ from SpecsL.nil, rfl, ⟨show ItersL Tryz.prog _ from ItersL.nil, (TrsOk.none (fun _ => rfl))⟩⟩⟩
  · cases hs)
theorem s_eqM_en : Enters Tryz.prog 167 := fun args w => by kernel_rfl
def g_agree_p (r : L.Piece) (q : L.Piece) : Prop := r.gauges.n ≤ 1000000 ∧ r.marks.n ≤ 1000000 ∧ q.gauges.n ≤ 1000000 ∧ q.marks.n ≤ 1000000
def g_agree_r (r : L.Piece) (q : L.Piece) : SV := .bool (L.agr r q)
def g_agree_s : List EV → Option (Prop × SV)
  | [.p (.agg [.int .i64 r_id, .int .i64 r_colour, .int .i64 r_rev, .int .i64 r_made, .int .i64 r_swell, .sl 5 r_gauges_n r_gauges_g, .sl 3 r_marks_n r_marks_g]), .p (.agg [.int .i64 q_id, .int .i64 q_colour, .int .i64 q_rev, .int .i64 q_made, .int .i64 q_swell, .sl 5 q_gauges_n q_gauges_g, .sl 3 q_marks_n q_marks_g])] => some ((∀ i, i < r_gauges_n → r_gauges_g i = [.int .i64 ((ofGauge (r_gauges_g i)).edge.lo), .int .i64 ((ofGauge (r_gauges_g i)).edge.hi), .int .i64 ((ofGauge (r_gauges_g i)).across.lo), .int .i64 ((ofGauge (r_gauges_g i)).across.hi), .int .i64 ((ofGauge (r_gauges_g i)).bend)]) ∧ (∀ i, i < r_marks_n → r_marks_g i = [.int .i64 ((ofMark (r_marks_g i)).edge), .int .i64 ((ofMark (r_marks_g i)).place), .int .i64 ((ofMark (r_marks_g i)).tone)]) ∧ (∀ i, i < q_gauges_n → q_gauges_g i = [.int .i64 ((ofGauge (q_gauges_g i)).edge.lo), .int .i64 ((ofGauge (q_gauges_g i)).edge.hi), .int .i64 ((ofGauge (q_gauges_g i)).across.lo), .int .i64 ((ofGauge (q_gauges_g i)).across.hi), .int .i64 ((ofGauge (q_gauges_g i)).bend)]) ∧ (∀ i, i < q_marks_n → q_marks_g i = [.int .i64 ((ofMark (q_marks_g i)).edge), .int .i64 ((ofMark (q_marks_g i)).place), .int .i64 ((ofMark (q_marks_g i)).tone)]) ∧ g_agree_p (⟨r_id, r_colour, r_rev, r_made, r_swell, (⟨r_gauges_n, fun i => ofGauge (r_gauges_g i)⟩ : (L.Sq L.Gauge)), (⟨r_marks_n, fun i => ofMark (r_marks_g i)⟩ : (L.Sq L.Mark))⟩ : L.Piece) (⟨q_id, q_colour, q_rev, q_made, q_swell, (⟨q_gauges_n, fun i => ofGauge (q_gauges_g i)⟩ : (L.Sq L.Gauge)), (⟨q_marks_n, fun i => ofMark (q_marks_g i)⟩ : (L.Sq L.Mark))⟩ : L.Piece), g_agree_r (⟨r_id, r_colour, r_rev, r_made, r_swell, (⟨r_gauges_n, fun i => ofGauge (r_gauges_g i)⟩ : (L.Sq L.Gauge)), (⟨r_marks_n, fun i => ofMark (r_marks_g i)⟩ : (L.Sq L.Mark))⟩ : L.Piece) (⟨q_id, q_colour, q_rev, q_made, q_swell, (⟨q_gauges_n, fun i => ofGauge (q_gauges_g i)⟩ : (L.Sq L.Gauge)), (⟨q_marks_n, fun i => ofMark (q_marks_g i)⟩ : (L.Sq L.Mark))⟩ : L.Piece))
  | _ => none
abbrev g_agree_S : SE.Spec := (specO g_agree_s)
def g_agree_C : Cfg := { muts := [6, 7, 8, 9], frz := lookN [], specs := lookS [(167, s_eqM_S), (115, g_both_S)], loops := fun _ => none, iters := lookI [], rfs := lookR [], nils := lookM [] }
theorem g_agree_vc (r : L.Piece) (q : L.Piece) (hp : g_agree_p r q) : vc Tryz.prog ({ g_agree_C with loops := lookL [(4, { T := Nat, keep := [2, 3, 54, 55], keepO := [], chg := fun i => [(56, .p (.int .i64 (i : Int)))], own := fun _ => [], inv := fun i => i ≤ r.gauges.n ∧ ∀ j, j < i → L.agG (r.gauges.g j) (q.gauges.g j) = true, mu := fun i => r.gauges.n - i })], rfs := lookR [] }) (bodyOf Tryz.f110) (st0 Tryz.f110 [.p (.agg [.int .i64 r.id, .int .i64 r.colour, .int .i64 r.rev, .int .i64 r.made, .int .i64 r.swell, .sl 5 r.gauges.n (fun i => [.int .i64 ((r.gauges.g i).edge.lo), .int .i64 ((r.gauges.g i).edge.hi), .int .i64 ((r.gauges.g i).across.lo), .int .i64 ((r.gauges.g i).across.hi), .int .i64 ((r.gauges.g i).bend)]), .sl 3 r.marks.n (fun i => [.int .i64 ((r.marks.g i).edge), .int .i64 ((r.marks.g i).place), .int .i64 ((r.marks.g i).tone)])]), .p (.agg [.int .i64 q.id, .int .i64 q.colour, .int .i64 q.rev, .int .i64 q.made, .int .i64 q.swell, .sl 5 q.gauges.n (fun i => [.int .i64 ((q.gauges.g i).edge.lo), .int .i64 ((q.gauges.g i).edge.hi), .int .i64 ((q.gauges.g i).across.lo), .int .i64 ((q.gauges.g i).across.hi), .int .i64 ((q.gauges.g i).bend)]), .sl 3 q.marks.n (fun i => [.int .i64 ((q.marks.g i).edge), .int .i64 ((q.marks.g i).place), .int .i64 ((q.marks.g i).tone)])])]) (retFn Tryz.prog Tryz.f110 (g_agree_r r q)) :=
  @Eq.mpr _ (((!bif bif bif bif !decide ((↑r.gauges.n : Int) = (↑q.gauges.n : Int)) then true else !decide (r.colour = q.colour) then true else !decide (r.rev = q.rev) then true else !decide (r.made = q.made) then true else !decide (r.swell = q.swell)) = true → (∀ (i : Nat), i < r.marks.n → (cM (r.marks.g i)) = (cM (r.marks.g i))) ∧ (∀ (i : Nat), i < q.marks.n → (cM (q.marks.g i)) = (cM (q.marks.g i))) ∧
 r.marks.n ≤ (1000000 : Nat)) ∧ ((bif bif bif bif bif !decide ((↑r.gauges.n : Int) = (↑q.gauges.n : Int)) then true else !decide (r.colour = q.colour) then true else !decide (r.rev = q.rev) then true else !decide (r.made = q.made) then true else !decide (r.swell = q.swell) then true else !L.sameMs r.marks q.marks) = true → false = L.agr r q) ∧ ((bif bif bif bif bif !decide ((↑r.gauges.n : Int) =
 (↑q.gauges.n : Int)) then true else !decide (r.colour = q.colour) then true else !decide (r.rev = q.rev) then true else !decide (r.made = q.made) then true else !decide (r.swell = q.swell) then true else !L.sameMs r.marks q.marks) = false → (∃ (g : Nat), (0 : Int) = (↑g : Int) ∧ g ≤ r.gauges.n ∧ ∀ (j : Nat), j < g → L.agG (r.gauges.g j) (q.gauges.g j) = true) ∧ ∀ (g : Nat), (g ≤ r.gauges.n ∧ ∀ (j
 : Nat), j < g → L.agG (r.gauges.g j) (q.gauges.g j) = true) → (decide ((↑g : Int) < (↑r.gauges.n : Int)) = true → ((0 : Int) ≤ (↑g : Int) ∧ (↑g : Int) < (↑r.gauges.n : Int)) ∧ ((0 : Int) ≤ (↑g : Int) ∧ (↑g : Int) < (↑q.gauges.n : Int)) ∧ True ∧ True ∧ ((bif bif decide ((L.bothS (r.gauges.g (Int.toNat (↑g : Int))).edge (q.gauges.g (Int.toNat (↑g : Int))).edge).hi < (L.bothS (r.gauges.g (Int.toNat
 (↑g : Int))).edge (q.gauges.g (Int.toNat (↑g : Int))).edge).lo) then true else decide ((L.bothS (r.gauges.g (Int.toNat (↑g : Int))).across (q.gauges.g (Int.toNat (↑g : Int))).across).hi < (L.bothS (r.gauges.g (Int.toNat (↑g : Int))).across (q.gauges.g (Int.toNat (↑g : Int))).across).lo) then true else bif bif !decide ((r.gauges.g (Int.toNat (↑g : Int))).bend = (q.gauges.g (Int.toNat (↑g :
 Int))).bend) then !decide ((r.gauges.g (Int.toNat (↑g : Int))).bend = (0 : Int)) else false then !decide ((q.gauges.g (Int.toNat (↑g : Int))).bend = (0 : Int)) else false) = true → false = L.agr r q) ∧ ((bif bif decide ((L.bothS (r.gauges.g (Int.toNat (↑g : Int))).edge (q.gauges.g (Int.toNat (↑g : Int))).edge).hi < (L.bothS (r.gauges.g (Int.toNat (↑g : Int))).edge (q.gauges.g (Int.toNat (↑g :
 Int))).edge).lo) then true else decide ((L.bothS (r.gauges.g (Int.toNat (↑g : Int))).across (q.gauges.g (Int.toNat (↑g : Int))).across).hi < (L.bothS (r.gauges.g (Int.toNat (↑g : Int))).across (q.gauges.g (Int.toNat (↑g : Int))).across).lo) then true else bif bif !decide ((r.gauges.g (Int.toNat (↑g : Int))).bend = (q.gauges.g (Int.toNat (↑g : Int))).bend) then !decide ((r.gauges.g (Int.toNat (↑g :
 Int))).bend = (0 : Int)) else false then !decide ((q.gauges.g (Int.toNat (↑g : Int))).bend = (0 : Int)) else false) = false → InK .i64 ((↑g : Int) + (1 : Int)) ∧ ∃ (g' : Nat), (↑g : Int) + (1 : Int) = (↑g' : Int) ∧ (↑r.gauges.n : Int) = (↑r.gauges.n : Int) ∧ (r.gauges.n = r.gauges.n ∧ ∀ (i : Nat), i < r.gauges.n → (cG (r.gauges.g i)) = (cG (r.gauges.g i))) ∧ SV.ref [SV.int .i64 q.id, SV.int .i64
 q.colour, SV.int .i64 q.rev, SV.int .i64 q.made, SV.int .i64 q.swell, SV.sl (nat_lit 5) q.gauges.n fun (i : Nat) ↦ (cG (q.gauges.g i)), SV.sl (nat_lit 3) q.marks.n fun (i : Nat) ↦ (cM (q.marks.g i))] (nat_lit 0) = SV.ref [SV.int .i64 q.id, SV.int .i64 q.colour, SV.int .i64 q.rev, SV.int .i64 q.made, SV.int .i64 q.swell, SV.sl (nat_lit 5) q.gauges.n fun (i : Nat) ↦ (cG (q.gauges.g i)), SV.sl
 (nat_lit 3) q.marks.n fun (i : Nat) ↦ (cM (q.marks.g i))] (nat_lit 0) ∧ SV.ref [SV.int .i64 r.id, SV.int .i64 r.colour, SV.int .i64 r.rev, SV.int .i64 r.made, SV.int .i64 r.swell, SV.sl (nat_lit 5) r.gauges.n fun (i : Nat) ↦ (cG (r.gauges.g i)), SV.sl (nat_lit 3) r.marks.n fun (i : Nat) ↦ (cM (r.marks.g i))] (nat_lit 0) = SV.ref [SV.int .i64 r.id, SV.int .i64 r.colour, SV.int .i64 r.rev, SV.int
 .i64 r.made, SV.int .i64 r.swell, SV.sl (nat_lit 5) r.gauges.n fun (i : Nat) ↦ (cG (r.gauges.g i)), SV.sl (nat_lit 3) r.marks.n fun (i : Nat) ↦ (cM (r.marks.g i))] (nat_lit 0) ∧ (g' ≤ r.gauges.n ∧ ∀ (j : Nat), j < g' → L.agG (r.gauges.g j) (q.gauges.g j) = true) ∧ r.gauges.n - g' < r.gauges.n - g)) ∧ (decide ((↑g : Int) < (↑r.gauges.n : Int)) = false → true = L.agr r q))) (by kernel_rfl) (by
    obtain ⟨h1, h2, h3, h4⟩ := hp
    refine ⟨fun _ => ⟨fun _ _ => rfl, fun _ _ => rfl, h2⟩, fun h => ?_, fun h => ?_⟩
    · unfold L.agr L.agNum; rw [h]; rfl
    have hN : L.agNum r q = true := by unfold L.agNum; rw [h]; rfl
    have hn : (r.gauges.n : Int) = q.gauges.n := by
      simp only [bor, Bool.or_eq_false_iff] at h
      exact of_decide_eq_true (notF h.1.1.1.1.1)
    refine ⟨⟨(0 : Nat), rfl, Nat.zero_le _, fun j hj => absurd hj (Nat.not_lt_zero _)⟩, fun g hg => ⟨fun hlt => ?_, fun hge => ?_⟩⟩
    · have hb : (g : Int) < (r.gauges.n : Int) := of_decide_eq_true hlt
      have e0 : ((g : Int)).toNat = g := Int.toNat_natCast g
      rw [e0]
      refine ⟨⟨by omega, hb⟩, ⟨by omega, by omega⟩, trivial, trivial, fun h5 => ?_, fun h5 => ?_⟩
      · have h6 : L.agG (r.gauges.g g) (q.gauges.g g) = false := by unfold L.agG; rw [h5]; rfl
        unfold L.agr; rw [hN, allB_false (i := g) (by omega) h6]; rfl
      · have h6 : L.agG (r.gauges.g g) (q.gauges.g g) = true := by unfold L.agG; rw [h5]; rfl
        exact ⟨InK.of (by omega) (by omega), g + 1, by omega, rfl, ⟨rfl, fun _ _ => rfl⟩, rfl, rfl, ⟨by omega, fun j hj => by
          rcases Nat.lt_succ_iff_lt_or_eq.1 hj with h' | rfl
          · exact hg.2 j h'
          · exact h6⟩, by omega⟩
    · have hb : ¬ (g : Int) < (r.gauges.n : Int) := of_decide_eq_false hge
      unfold L.agr; rw [hN, allB_iff.2 (fun i hi => hg.2 i (by omega))]; rfl)
theorem g_agree_ok : SpecOk Tryz.prog 110 g_agree_S := fnX Tryz.func110 (c := bodyOf Tryz.f110) (by kernel_rfl) mixed (fun args p r hs hp => by
  unfold g_agree_s at hs
  split at hs
  · cases hs; exact ⟨_, _, g_agree_vc _ _ hp.2.2.2.2, (.p (.agg rfl (fun i hi => by
      rcases i with _ | i
      · exact (Ext.refl _ : Ext _ _)
      rcases i with _ | i
      · exact (Ext.refl _ : Ext _ _)
      rcases i with _ | i
      · exact (Ext.refl _ : Ext _ _)
      rcases i with _ | i
      · exact (Ext.refl _ : Ext _ _)
      rcases i with _ | i
      · exact (Ext.refl _ : Ext _ _)
      rcases i with _ | i
      · exact (Ext.sl hp.1 : Ext _ _)
      rcases i with _ | i
      · exact (Ext.sl hp.2.1 : Ext _ _)
      exact absurd hi (by simp; try omega))) (.p (.agg rfl (fun i hi => by
      rcases i with _ | i
      · exact (Ext.refl _ : Ext _ _)
      rcases i with _ | i
      · exact (Ext.refl _ : Ext _ _)
      rcases i with _ | i
      · exact (Ext.refl _ : Ext _ _)
      rcases i with _ | i
      · exact (Ext.refl _ : Ext _ _)
      rcases i with _ | i
      · exact (Ext.refl _ : Ext _ _)
      rcases i with _ | i
      · exact (Ext.sl hp.2.2.1 : Ext _ _)
      rcases i with _ | i
      · exact (Ext.sl hp.2.2.2.1 : Ext _ _)
      exact absurd hi (by simp; try omega))) .nil)), ⟨show SpecsL Tryz.prog _ from (SpecsL.cons s_eqM_ok s_eqM_en (SpecsL.cons g_both_ok g_both_en SpecsL.nil)), rfl, ⟨show ItersL Tryz.prog _ from ItersL.nil, (TrsOk.none (fun _ => rfl))⟩⟩⟩
  · cases hs)
theorem g_agree_en : Enters Tryz.prog 110 := fun args w => by kernel_rfl
def g_Agree_p (p : L.Piece) (q : L.Piece) : Prop := p.gauges.n ≤ 1000000 ∧ p.marks.n ≤ 1000000 ∧ q.gauges.n ≤ 1000000 ∧ q.marks.n ≤ 1000000
def g_Agree_r (p : L.Piece) (q : L.Piece) : SV := .tup [.sl 2 (L.agN p q) (fun k => [.int .i64 ((L.agS p q k).shift), .bool ((L.agS p q k).back)]), .int .i64 (L.agE p q)]
def g_Agree_s : List EV → Option (Prop × SV)
  | [.p (.agg [.int .i64 p_id, .int .i64 p_colour, .int .i64 p_rev, .int .i64 p_made, .int .i64 p_swell, .sl 5 p_gauges_n p_gauges_g, .sl 3 p_marks_n p_marks_g]), .p (.agg [.int .i64 q_id, .int .i64 q_colour, .int .i64 q_rev, .int .i64 q_made, .int .i64 q_swell, .sl 5 q_gauges_n q_gauges_g, .sl 3 q_marks_n q_marks_g])] => some ((∀ i, i < p_gauges_n → p_gauges_g i = [.int .i64 ((ofGauge (p_gauges_g i)).edge.lo), .int .i64 ((ofGauge (p_gauges_g i)).edge.hi), .int .i64 ((ofGauge (p_gauges_g i)).across.lo), .int .i64 ((ofGauge (p_gauges_g i)).across.hi), .int .i64 ((ofGauge (p_gauges_g i)).bend)]) ∧ (∀ i, i < p_marks_n → p_marks_g i = [.int .i64 ((ofMark (p_marks_g i)).edge), .int .i64 ((ofMark (p_marks_g i)).place), .int .i64 ((ofMark (p_marks_g i)).tone)]) ∧ (∀ i, i < q_gauges_n → q_gauges_g i = [.int .i64 ((ofGauge (q_gauges_g i)).edge.lo), .int .i64 ((ofGauge (q_gauges_g i)).edge.hi), .int .i64 ((ofGauge (q_gauges_g i)).across.lo), .int .i64 ((ofGauge (q_gauges_g i)).across.hi), .int .i64 ((ofGauge (q_gauges_g i)).bend)]) ∧ (∀ i, i < q_marks_n → q_marks_g i = [.int .i64 ((ofMark (q_marks_g i)).edge), .int .i64 ((ofMark (q_marks_g i)).place), .int .i64 ((ofMark (q_marks_g i)).tone)]) ∧ g_Agree_p (⟨p_id, p_colour, p_rev, p_made, p_swell, (⟨p_gauges_n, fun i => ofGauge (p_gauges_g i)⟩ : (L.Sq L.Gauge)), (⟨p_marks_n, fun i => ofMark (p_marks_g i)⟩ : (L.Sq L.Mark))⟩ : L.Piece) (⟨q_id, q_colour, q_rev, q_made, q_swell, (⟨q_gauges_n, fun i => ofGauge (q_gauges_g i)⟩ : (L.Sq L.Gauge)), (⟨q_marks_n, fun i => ofMark (q_marks_g i)⟩ : (L.Sq L.Mark))⟩ : L.Piece), g_Agree_r (⟨p_id, p_colour, p_rev, p_made, p_swell, (⟨p_gauges_n, fun i => ofGauge (p_gauges_g i)⟩ : (L.Sq L.Gauge)), (⟨p_marks_n, fun i => ofMark (p_marks_g i)⟩ : (L.Sq L.Mark))⟩ : L.Piece) (⟨q_id, q_colour, q_rev, q_made, q_swell, (⟨q_gauges_n, fun i => ofGauge (q_gauges_g i)⟩ : (L.Sq L.Gauge)), (⟨q_marks_n, fun i => ofMark (q_marks_g i)⟩ : (L.Sq L.Mark))⟩ : L.Piece))
  | _ => none
abbrev g_Agree_S : SE.Spec := (specO g_Agree_s)
def g_Agree_C : Cfg := { muts := [], frz := lookN [], specs := lookS [(47, g_ValidPiece_S), (109, g_all_S), (62, g_reset_S), (110, g_agree_S)], loops := lookL [], iters := lookI [(166, g_all1_it)], rfs := lookR [], nils := lookM [(4, [(6, 29, 27, 2)])] }
theorem g_Agree_vc (p : L.Piece) (q : L.Piece) (hp : g_Agree_p p q) : vc Tryz.prog ({ g_Agree_C with loops := lookL [], rfs := lookR [(5, { T := Nat, keep := [2, 3, 6], keepO := [], own := fun k _ => [(6, .blk 73 [.row 29]), (29, .row 27 2 (L.cnt (L.agrK p q) k) (fun i => [.int .i64 ((L.sett (L.selN (L.agrK p q) k i)).shift), .bool ((L.sett (L.selN (L.agrK p q) k i)).back)]))], inv := fun k _ => k ≤ 2 * p.gauges.n })] }) (bodyOf Tryz.f49) (st0 Tryz.f49 [.p (.agg [.int .i64 p.id, .int .i64 p.colour, .int .i64 p.rev, .int .i64 p.made, .int .i64 p.swell, .sl 5 p.gauges.n (fun i => [.int .i64 ((p.gauges.g i).edge.lo), .int .i64 ((p.gauges.g i).edge.hi), .int .i64 ((p.gauges.g i).across.lo), .int .i64 ((p.gauges.g i).across.hi), .int .i64 ((p.gauges.g i).bend)]), .sl 3 p.marks.n (fun i => [.int .i64 ((p.marks.g i).edge), .int .i64 ((p.marks.g i).place), .int .i64 ((p.marks.g i).tone)])]), .p (.agg [.int .i64 q.id, .int .i64 q.colour, .int .i64 q.rev, .int .i64 q.made, .int .i64 q.swell, .sl 5 q.gauges.n (fun i => [.int .i64 ((q.gauges.g i).edge.lo), .int .i64 ((q.gauges.g i).edge.hi), .int .i64 ((q.gauges.g i).across.lo), .int .i64 ((q.gauges.g i).across.hi), .int .i64 ((q.gauges.g i).bend)]), .sl 3 q.marks.n (fun i => [.int .i64 ((q.marks.g i).edge), .int .i64 ((q.marks.g i).place), .int .i64 ((q.marks.g i).tone)])])]) (retFn Tryz.prog Tryz.f49 (g_Agree_r p q)) :=
  @Eq.mpr _ (((∀ (i : Nat), i < p.gauges.n → (cG (p.gauges.g i)) = (cG (p.gauges.g i))) ∧ (∀ (i : Nat), i < p.marks.n → (cM (p.marks.g i)) = (cM (p.marks.g i))) ∧ p.gauges.n ≤ (1000000 : Nat) ∧ p.marks.n ≤ (1000000 : Nat)) ∧ ((!!L.validPiece p) = true → (∀ (i : Nat), i < q.gauges.n → (cG (q.gauges.g i)) = (cG (q.gauges.g i))) ∧ (∀ (i : Nat), i < q.marks.n → (cM (q.marks.g i)) = (cM (q.marks.g i))) ∧ q.gauges.n
 ≤ (1000000 : Nat) ∧ q.marks.n ≤ (1000000 : Nat)) ∧ ((bif !L.validPiece p then true else !L.validPiece q) = true → L.agN p q = (0 : Nat) ∧ (30 : Int) = L.agE p q) ∧ ((bif !L.validPiece p then true else !L.validPiece q) = false → True ∧ (((0 : Int) ≤ (↑p.gauges.n : Int) ∧ (↑p.gauges.n : Int) ≤ (1000 : Int)) ∧ ∃ (t : Nat), (nat_lit 0 = L.cnt (L.agrK p q) (0 : Nat) ∧ ∀ (i : Nat), i < nat_lit 0 → [] =
 [SV.int .i64 (L.sett (L.selN (L.agrK p q) (0 : Nat) i)).shift, SV.bool (L.sett (L.selN (L.agrK p q) (0 : Nat) i)).back]) ∧ (0 : Nat) ≤ (2 : Nat) * p.gauges.n) ∧ (∀ (k t : Nat) (vk : Nat → Go.Value), k < Int.toNat ((2 : Int) * (↑p.gauges.n : Int)) → k ≤ (2 : Nat) * p.gauges.n → ((∀ (i : Nat), i < p.gauges.n → (cG (p.gauges.g i)) = (cG (p.gauges.g i))) ∧ (∀ (i : Nat), i < p.marks.n → (cM (p.marks.g
 i)) = (cM (p.marks.g i))) ∧ L.validPiece p = true ∧ L.validSet (L.sett k) (↑p.gauges.n : Int) = true) ∧ ((∀ (i : Nat), i < (L.rs p (L.sett k)).gauges.n → (cG ((L.rs p (L.sett k)).gauges.g i)) = (cG ((L.rs p (L.sett k)).gauges.g i))) ∧ (∀ (i : Nat), i < (L.rs p (L.sett k)).marks.n → (cM ((L.rs p (L.sett k)).marks.g i)) = (cM ((L.rs p (L.sett k)).marks.g i))) ∧ (∀ (i : Nat), i < q.gauges.n → (cG
 (q.gauges.g i)) = (cG (q.gauges.g i))) ∧ (∀ (i : Nat), i < q.marks.n → (cM (q.marks.g i)) = (cM (q.marks.g i))) ∧ (L.rs p (L.sett k)).gauges.n ≤ (1000000 : Nat) ∧ (L.rs p (L.sett k)).marks.n ≤ (1000000 : Nat) ∧ q.gauges.n ≤ (1000000 : Nat) ∧ q.marks.n ≤ (1000000 : Nat)) ∧ (L.agr (L.rs p (L.sett k)) q = true → (L.cnt (L.agrK p q) k + nat_lit 1) * nat_lit 16 ≤ (140737488355328 : Nat) ∧ ∃ (t' : Nat),
 nat_lit 0 = nat_lit 0 ∧ SV.ref [SV.int .i64 q.id, SV.int .i64 q.colour, SV.int .i64 q.rev, SV.int .i64 q.made, SV.int .i64 q.swell, SV.sl (nat_lit 5) q.gauges.n fun (i : Nat) ↦ (cG (q.gauges.g i)), SV.sl (nat_lit 3) q.marks.n fun (i : Nat) ↦ (cM (q.marks.g i))] (nat_lit 0) = SV.ref [SV.int .i64 q.id, SV.int .i64 q.colour, SV.int .i64 q.rev, SV.int .i64 q.made, SV.int .i64 q.swell, SV.sl (nat_lit
 5) q.gauges.n fun (i : Nat) ↦ (cG (q.gauges.g i)), SV.sl (nat_lit 3) q.marks.n fun (i : Nat) ↦ (cM (q.marks.g i))] (nat_lit 0) ∧ SV.ref [SV.int .i64 p.id, SV.int .i64 p.colour, SV.int .i64 p.rev, SV.int .i64 p.made, SV.int .i64 p.swell, SV.sl (nat_lit 5) p.gauges.n fun (i : Nat) ↦ (cG (p.gauges.g i)), SV.sl (nat_lit 3) p.marks.n fun (i : Nat) ↦ (cM (p.marks.g i))] (nat_lit 0) = SV.ref [SV.int .i64
 p.id, SV.int .i64 p.colour, SV.int .i64 p.rev, SV.int .i64 p.made, SV.int .i64 p.swell, SV.sl (nat_lit 5) p.gauges.n fun (i : Nat) ↦ (cG (p.gauges.g i)), SV.sl (nat_lit 3) p.marks.n fun (i : Nat) ↦ (cM (p.marks.g i))] (nat_lit 0) ∧ vk (nat_lit 6) = vk (nat_lit 6) ∧ vk (nat_lit 3) = vk (nat_lit 3) ∧ vk (nat_lit 2) = vk (nat_lit 2) ∧ (L.cnt (L.agrK p q) k + nat_lit 1 = L.cnt (L.agrK p q) (k + (1 :
 Nat)) ∧ ∀ (i : Nat), i < L.cnt (L.agrK p q) k + nat_lit 1 → appGet (L.cnt (L.agrK p q) k) (fun (i : Nat) ↦ [SV.int .i64 (L.sett (L.selN (L.agrK p q) k i)).shift, SV.bool (L.sett (L.selN (L.agrK p q) k i)).back]) (fun (x : Nat) ↦ [SV.int .i64 (L.sett k).shift, SV.bool (L.sett k).back]) i = [SV.int .i64 (L.sett (L.selN (L.agrK p q) (k + (1 : Nat)) i)).shift, SV.bool (L.sett (L.selN (L.agrK p q) (k +
 (1 : Nat)) i)).back]) ∧ k + (1 : Nat) ≤ (2 : Nat) * p.gauges.n) ∧ (L.agr (L.rs p (L.sett k)) q = false → ∃ (t' : Nat), nat_lit 0 = nat_lit 0 ∧ SV.ref [SV.int .i64 q.id, SV.int .i64 q.colour, SV.int .i64 q.rev, SV.int .i64 q.made, SV.int .i64 q.swell, SV.sl (nat_lit 5) q.gauges.n fun (i : Nat) ↦ (cG (q.gauges.g i)), SV.sl (nat_lit 3) q.marks.n fun (i : Nat) ↦ (cM (q.marks.g i))] (nat_lit 0) =
 SV.ref [SV.int .i64 q.id, SV.int .i64 q.colour, SV.int .i64 q.rev, SV.int .i64 q.made, SV.int .i64 q.swell, SV.sl (nat_lit 5) q.gauges.n fun (i : Nat) ↦ (cG (q.gauges.g i)), SV.sl (nat_lit 3) q.marks.n fun (i : Nat) ↦ (cM (q.marks.g i))] (nat_lit 0) ∧ SV.ref [SV.int .i64 p.id, SV.int .i64 p.colour, SV.int .i64 p.rev, SV.int .i64 p.made, SV.int .i64 p.swell, SV.sl (nat_lit 5) p.gauges.n fun (i :
 Nat) ↦ (cG (p.gauges.g i)), SV.sl (nat_lit 3) p.marks.n fun (i : Nat) ↦ (cM (p.marks.g i))] (nat_lit 0) = SV.ref [SV.int .i64 p.id, SV.int .i64 p.colour, SV.int .i64 p.rev, SV.int .i64 p.made, SV.int .i64 p.swell, SV.sl (nat_lit 5) p.gauges.n fun (i : Nat) ↦ (cG (p.gauges.g i)), SV.sl (nat_lit 3) p.marks.n fun (i : Nat) ↦ (cM (p.marks.g i))] (nat_lit 0) ∧ vk (nat_lit 6) = vk (nat_lit 6) ∧ vk
 (nat_lit 3) = vk (nat_lit 3) ∧ vk (nat_lit 2) = vk (nat_lit 2) ∧ (L.cnt (L.agrK p q) k = L.cnt (L.agrK p q) (k + (1 : Nat)) ∧ ∀ (i : Nat), i < L.cnt (L.agrK p q) k → [SV.int .i64 (L.sett (L.selN (L.agrK p q) k i)).shift, SV.bool (L.sett (L.selN (L.agrK p q) k i)).back] = [SV.int .i64 (L.sett (L.selN (L.agrK p q) (k + (1 : Nat)) i)).shift, SV.bool (L.sett (L.selN (L.agrK p q) (k + (1 : Nat))
 i)).back]) ∧ k + (1 : Nat) ≤ (2 : Nat) * p.gauges.n)) ∧ ∀ (t : Nat), Int.toNat ((2 : Int) * (↑p.gauges.n : Int)) ≤ (2 : Nat) * p.gauges.n → (L.cnt (L.agrK p q) (Int.toNat ((2 : Int) * (↑p.gauges.n : Int))) = L.agN p q ∧ ∀ (i : Nat), i < L.cnt (L.agrK p q) (Int.toNat ((2 : Int) * (↑p.gauges.n : Int))) → [SV.int .i64 (L.sett (L.selN (L.agrK p q) (Int.toNat ((2 : Int) * (↑p.gauges.n : Int)))
 i)).shift, SV.bool (L.sett (L.selN (L.agrK p q) (Int.toNat ((2 : Int) * (↑p.gauges.n : Int))) i)).back] = [SV.int .i64 (L.agS p q i).shift, SV.bool (L.agS p q i).back]) ∧ (0 : Int) = L.agE p q)) (by kernel_rfl) (by
    obtain ⟨h1, h2, h3, h4⟩ := hp
    refine ⟨⟨fun _ _ => rfl, fun _ _ => rfl, h1, h2⟩, fun _ => ⟨fun _ _ => rfl, fun _ _ => rfl, h3, h4⟩, fun h => ?_, fun h => ?_⟩
    · have e : L.agE p q = 30 := by unfold L.agE; rw [h]; rfl
      unfold L.agN; rw [e]; exact ⟨rfl, rfl⟩
    have e : L.agE p q = 0 := by unfold L.agE; rw [h]; rfl
    rw [bor, Bool.or_eq_false_iff] at h
    have hv : L.validPiece p = true := notF h.1
    have hgn := gauges_n (piece_of hv).2.1
    have hmk := (marks_in (piece_of hv).2.2).1
    have et : (2 * (p.gauges.n : Int)).toNat = 2 * p.gauges.n := by omega
    rw [et]
    refine ⟨trivial, ⟨⟨by omega, by omega⟩, (0 : Nat), ⟨rfl, fun i hi => absurd hi (Nat.not_lt_zero _)⟩, Nat.zero_le _⟩, fun k t vk hk hi => ?_, fun t _ => ⟨⟨?_, fun i hi => rfl⟩, e.symm⟩⟩
    · have hs := sett_lt hk
      have hsv : L.validSet (L.sett k) p.gauges.n = true := validSet_iff.2 ⟨⟨by omega, by omega⟩, hs.1, hs.2⟩
      have hc := cnt_le (p := L.agrK p q) (n := k)
      refine ⟨⟨fun _ _ => rfl, fun _ _ => rfl, hv, hsv⟩, ⟨fun _ _ => rfl, fun _ _ => rfl, fun _ _ => rfl, fun _ _ => rfl, h1, h2, h3, h4⟩, fun h5 => ?_, fun h5 => ?_⟩
      · have h5 : L.agrK p q k = true := h5
        have c1 := cnt_yes h5
        refine ⟨show (L.cnt (L.agrK p q) k + 1) * 16 ≤ 140737488355328 by omega, t, rfl, rfl, rfl, rfl, rfl, rfl, ⟨c1.symm, fun i hi => ?_⟩, by omega⟩
        have hi : i < L.cnt (L.agrK p q) k + 1 := hi
        unfold appGet
        by_cases h' : i < L.cnt (L.agrK p q) k
        · rw [if_pos h', selN_old (Nat.ne_of_lt h')]
        · have : i = L.cnt (L.agrK p q) k := by omega
          rw [if_neg h', this, selN_new h5]
      · have h5 : L.agrK p q k = false := h5
        exact ⟨t, rfl, rfl, rfl, rfl, rfl, rfl, ⟨(cnt_not h5).symm, fun i hi => by rw [selN_not h5]⟩, by omega⟩
    · unfold L.agN; rw [e]; rfl)
theorem g_Agree_ok : SpecOk Tryz.prog 49 g_Agree_S := fnX Tryz.func49 (c := bodyOf Tryz.f49) (by kernel_rfl) mixed (fun args p r hs hp => by
  unfold g_Agree_s at hs
  split at hs
  · cases hs; exact ⟨_, _, g_Agree_vc _ _ hp.2.2.2.2, (.p (.agg rfl (fun i hi => by
      rcases i with _ | i
      · exact (Ext.refl _ : Ext _ _)
      rcases i with _ | i
      · exact (Ext.refl _ : Ext _ _)
      rcases i with _ | i
      · exact (Ext.refl _ : Ext _ _)
      rcases i with _ | i
      · exact (Ext.refl _ : Ext _ _)
      rcases i with _ | i
      · exact (Ext.refl _ : Ext _ _)
      rcases i with _ | i
      · exact (Ext.sl hp.1 : Ext _ _)
      rcases i with _ | i
      · exact (Ext.sl hp.2.1 : Ext _ _)
      exact absurd hi (by simp; try omega))) (.p (.agg rfl (fun i hi => by
      rcases i with _ | i
      · exact (Ext.refl _ : Ext _ _)
      rcases i with _ | i
      · exact (Ext.refl _ : Ext _ _)
      rcases i with _ | i
      · exact (Ext.refl _ : Ext _ _)
      rcases i with _ | i
      · exact (Ext.refl _ : Ext _ _)
      rcases i with _ | i
      · exact (Ext.refl _ : Ext _ _)
      rcases i with _ | i
      · exact (Ext.sl hp.2.2.1 : Ext _ _)
      rcases i with _ | i
      · exact (Ext.sl hp.2.2.2.1 : Ext _ _)
      exact absurd hi (by simp; try omega))) .nil)), ⟨show SpecsL Tryz.prog _ from (SpecsL.cons g_ValidPiece_ok g_ValidPiece_en (SpecsL.cons g_all_ok g_all_en (SpecsL.cons g_reset_ok g_reset_en (SpecsL.cons g_agree_ok g_agree_en SpecsL.nil)))), rfl, ⟨show ItersL Tryz.prog _ from (ItersL.cons g_all1_itok g_all1_en ItersL.nil), (TrsOk.none (fun _ => rfl))⟩⟩⟩
  · cases hs)
theorem g_Agree_en : Enters Tryz.prog 49 := fun args w => by kernel_rfl
end Go.Proofs.YtooapgllahonaaaGreat

namespace Go.Proofs.YtooapgllahonaaaGreat
open Go.SE Go.RowKit
set_option maxRecDepth 100000
set_option maxHeartbeats 4000000
set_option linter.unusedVariables false
attribute [local irreducible] vc

theorem agr_n {r q : L.Piece} (h : L.agr r q = true) : r.gauges.n = q.gauges.n := by
  unfold L.agr at h
  rw [Bool.and_eq_true] at h
  have h1 := h.1
  unfold L.agNum at h1
  cases hx : decide ((r.gauges.n : Int) = q.gauges.n) with
  | true => have := of_decide_eq_true hx; omega
  | false => rw [hx] at h1; simp at h1
def g_Merge_p (p : L.Piece) (q : L.Piece) (s : L.Setting) : Prop := p.gauges.n ≤ 1000000 ∧ p.marks.n ≤ 1000000 ∧ q.gauges.n ≤ 1000000 ∧ q.marks.n ≤ 1000000
def g_Merge_r (p : L.Piece) (q : L.Piece) (s : L.Setting) : SV := .tup [(.agg [.int .i64 ((L.mgV p q s).id), .int .i64 ((L.mgV p q s).colour), .int .i64 ((L.mgV p q s).rev), .int .i64 ((L.mgV p q s).made), .int .i64 ((L.mgV p q s).swell), .sl 5 (L.mgV p q s).gauges.n (fun i => [.int .i64 (((L.mgV p q s).gauges.g i).edge.lo), .int .i64 (((L.mgV p q s).gauges.g i).edge.hi), .int .i64 (((L.mgV p q s).gauges.g i).across.lo), .int .i64 (((L.mgV p q s).gauges.g i).across.hi), .int .i64 (((L.mgV p q s).gauges.g i).bend)]), .sl 3 (L.mgV p q s).marks.n (fun i => [.int .i64 (((L.mgV p q s).marks.g i).edge), .int .i64 (((L.mgV p q s).marks.g i).place), .int .i64 (((L.mgV p q s).marks.g i).tone)])]), .int .i64 (L.mgE p q s)]
def g_Merge_s : List EV → Option (Prop × SV)
  | [.p (.agg [.int .i64 p_id, .int .i64 p_colour, .int .i64 p_rev, .int .i64 p_made, .int .i64 p_swell, .sl 5 p_gauges_n p_gauges_g, .sl 3 p_marks_n p_marks_g]), .p (.agg [.int .i64 q_id, .int .i64 q_colour, .int .i64 q_rev, .int .i64 q_made, .int .i64 q_swell, .sl 5 q_gauges_n q_gauges_g, .sl 3 q_marks_n q_marks_g]), .p (.agg [.int .i64 s_shift, .bool s_back])] => some ((∀ i, i < p_gauges_n → p_gauges_g i = [.int .i64 ((ofGauge (p_gauges_g i)).edge.lo), .int .i64 ((ofGauge (p_gauges_g i)).edge.hi), .int .i64 ((ofGauge (p_gauges_g i)).across.lo), .int .i64 ((ofGauge (p_gauges_g i)).across.hi), .int .i64 ((ofGauge (p_gauges_g i)).bend)]) ∧ (∀ i, i < p_marks_n → p_marks_g i = [.int .i64 ((ofMark (p_marks_g i)).edge), .int .i64 ((ofMark (p_marks_g i)).place), .int .i64 ((ofMark (p_marks_g i)).tone)]) ∧ (∀ i, i < q_gauges_n → q_gauges_g i = [.int .i64 ((ofGauge (q_gauges_g i)).edge.lo), .int .i64 ((ofGauge (q_gauges_g i)).edge.hi), .int .i64 ((ofGauge (q_gauges_g i)).across.lo), .int .i64 ((ofGauge (q_gauges_g i)).across.hi), .int .i64 ((ofGauge (q_gauges_g i)).bend)]) ∧ (∀ i, i < q_marks_n → q_marks_g i = [.int .i64 ((ofMark (q_marks_g i)).edge), .int .i64 ((ofMark (q_marks_g i)).place), .int .i64 ((ofMark (q_marks_g i)).tone)]) ∧ g_Merge_p (⟨p_id, p_colour, p_rev, p_made, p_swell, (⟨p_gauges_n, fun i => ofGauge (p_gauges_g i)⟩ : (L.Sq L.Gauge)), (⟨p_marks_n, fun i => ofMark (p_marks_g i)⟩ : (L.Sq L.Mark))⟩ : L.Piece) (⟨q_id, q_colour, q_rev, q_made, q_swell, (⟨q_gauges_n, fun i => ofGauge (q_gauges_g i)⟩ : (L.Sq L.Gauge)), (⟨q_marks_n, fun i => ofMark (q_marks_g i)⟩ : (L.Sq L.Mark))⟩ : L.Piece) (⟨s_shift, s_back⟩ : L.Setting), g_Merge_r (⟨p_id, p_colour, p_rev, p_made, p_swell, (⟨p_gauges_n, fun i => ofGauge (p_gauges_g i)⟩ : (L.Sq L.Gauge)), (⟨p_marks_n, fun i => ofMark (p_marks_g i)⟩ : (L.Sq L.Mark))⟩ : L.Piece) (⟨q_id, q_colour, q_rev, q_made, q_swell, (⟨q_gauges_n, fun i => ofGauge (q_gauges_g i)⟩ : (L.Sq L.Gauge)), (⟨q_marks_n, fun i => ofMark (q_marks_g i)⟩ : (L.Sq L.Mark))⟩ : L.Piece) (⟨s_shift, s_back⟩ : L.Setting))
  | _ => none
abbrev g_Merge_S : SE.Spec := (specO g_Merge_s)
def g_Merge_C : Cfg := { muts := [6, 9, 10, 12, 36, 40], frz := lookN [(19, [36, 40])], specs := lookS [(47, g_ValidPiece_S), (61, g_wrong_S), (62, g_reset_S), (110, g_agree_S), (113, s_cloneG_S), (114, s_cloneM_S), (115, g_both_S), (116, c_or_S)], loops := fun _ => none, iters := lookI [], rfs := lookR [], nils := lookM [], cuts := [78] }
theorem g_Merge_vc (p : L.Piece) (q : L.Piece) (s : L.Setting) (hp : g_Merge_p p q s) : vc Tryz.prog ({ g_Merge_C with loops := lookL [(13, { T := Nat, keep := [3, 4, 5, 6, 7, 9, 10, 43, 44], keepO := [6, 9, 10, 40], chg := fun i => [(45, .p (.int .i64 (i : Int)))], own := fun i => [(36, .row 92 5 q.gauges.n (fun k => [.int .i64 ((L.mgTo (L.rs p s) q i k).edge.lo), .int .i64 ((L.mgTo (L.rs p s) q i k).edge.hi), .int .i64 ((L.mgTo (L.rs p s) q i k).across.lo), .int .i64 ((L.mgTo (L.rs p s) q i k).across.hi), .int .i64 ((L.mgTo (L.rs p s) q i k).bend)]))], inv := fun i => i ≤ q.gauges.n, mu := fun i => q.gauges.n - i })], rfs := lookR [] }) (bodyOf Tryz.f51) (st0 Tryz.f51 [.p (.agg [.int .i64 p.id, .int .i64 p.colour, .int .i64 p.rev, .int .i64 p.made, .int .i64 p.swell, .sl 5 p.gauges.n (fun i => [.int .i64 ((p.gauges.g i).edge.lo), .int .i64 ((p.gauges.g i).edge.hi), .int .i64 ((p.gauges.g i).across.lo), .int .i64 ((p.gauges.g i).across.hi), .int .i64 ((p.gauges.g i).bend)]), .sl 3 p.marks.n (fun i => [.int .i64 ((p.marks.g i).edge), .int .i64 ((p.marks.g i).place), .int .i64 ((p.marks.g i).tone)])]), .p (.agg [.int .i64 q.id, .int .i64 q.colour, .int .i64 q.rev, .int .i64 q.made, .int .i64 q.swell, .sl 5 q.gauges.n (fun i => [.int .i64 ((q.gauges.g i).edge.lo), .int .i64 ((q.gauges.g i).edge.hi), .int .i64 ((q.gauges.g i).across.lo), .int .i64 ((q.gauges.g i).across.hi), .int .i64 ((q.gauges.g i).bend)]), .sl 3 q.marks.n (fun i => [.int .i64 ((q.marks.g i).edge), .int .i64 ((q.marks.g i).place), .int .i64 ((q.marks.g i).tone)])]), .p (.agg [.int .i64 s.shift, .bool s.back])]) (retFn Tryz.prog Tryz.f51 (g_Merge_r p q s)) :=
  @Eq.mpr _ (((∀ (i : Nat), i < q.gauges.n → (cG (q.gauges.g i)) = (cG (q.gauges.g i))) ∧ (∀ (i : Nat), i < q.marks.n → (cM (q.marks.g i)) = (cM (q.marks.g i))) ∧ q.gauges.n ≤ (1000000 : Nat) ∧ q.marks.n ≤ (1000000 : Nat)) ∧ ((!L.validPiece q) = true → (0 : Int) = (L.mgV p q s).id ∧ (0 : Int) = (L.mgV p q s).colour ∧ (0 : Int) = (L.mgV p q s).rev ∧ (0 : Int) = (L.mgV p q s).made ∧ (0 : Int) = (L.mgV p q
 s).swell ∧ (L.mgV p q s).gauges.n = (0 : Nat) ∧ (L.mgV p q s).marks.n = (0 : Nat) ∧ (30 : Int) = L.mgE p q s) ∧ ((!L.validPiece q) = false → ((∀ (i : Nat), i < p.gauges.n → (cG (p.gauges.g i)) = (cG (p.gauges.g i))) ∧ (∀ (i : Nat), i < p.marks.n → (cM (p.marks.g i)) = (cM (p.marks.g i))) ∧ p.gauges.n ≤ (1000000 : Nat) ∧ p.marks.n ≤ (1000000 : Nat)) ∧ ((!decide (L.wrE p s = (0 : Int))) = true → (0
 : Int) = (L.mgV p q s).id ∧ (0 : Int) = (L.mgV p q s).colour ∧ (0 : Int) = (L.mgV p q s).rev ∧ (0 : Int) = (L.mgV p q s).made ∧ (0 : Int) = (L.mgV p q s).swell ∧ (L.mgV p q s).gauges.n = (0 : Nat) ∧ (L.mgV p q s).marks.n = (0 : Nat) ∧ L.wrE p s = L.mgE p q s) ∧ ((!decide (L.wrE p s = (0 : Int))) = false → ((∀ (i : Nat), i < p.gauges.n → (cG (p.gauges.g i)) = (cG (p.gauges.g i))) ∧ (∀ (i : Nat), i
 < p.marks.n → (cM (p.marks.g i)) = (cM (p.marks.g i))) ∧ L.validPiece p = true ∧ L.validSet s (↑p.gauges.n : Int) = true) ∧ ((∀ (i : Nat), i < (L.rs p s).gauges.n → (cG ((L.rs p s).gauges.g i)) = (cG ((L.rs p s).gauges.g i))) ∧ (∀ (i : Nat), i < (L.rs p s).marks.n → (cM ((L.rs p s).marks.g i)) = (cM ((L.rs p s).marks.g i))) ∧ (∀ (i : Nat), i < q.gauges.n → (cG (q.gauges.g i)) = (cG (q.gauges.g
 i))) ∧ (∀ (i : Nat), i < q.marks.n → (cM (q.marks.g i)) = (cM (q.marks.g i))) ∧ (L.rs p s).gauges.n ≤ (1000000 : Nat) ∧ (L.rs p s).marks.n ≤ (1000000 : Nat) ∧ q.gauges.n ≤ (1000000 : Nat) ∧ q.marks.n ≤ (1000000 : Nat)) ∧ ((!L.agr (L.rs p s) q) = true → (0 : Int) = (L.mgV p q s).id ∧ (0 : Int) = (L.mgV p q s).colour ∧ (0 : Int) = (L.mgV p q s).rev ∧ (0 : Int) = (L.mgV p q s).made ∧ (0 : Int) =
 (L.mgV p q s).swell ∧ (L.mgV p q s).gauges.n = (0 : Nat) ∧ (L.mgV p q s).marks.n = (0 : Nat) ∧ (31 : Int) = L.mgE p q s) ∧ ((!L.agr (L.rs p s) q) = false → ((∀ (i : Nat), i < q.gauges.n → (cG (q.gauges.g i)) = (cG (q.gauges.g i))) ∧ q.gauges.n ≤ (1000000 : Nat)) ∧ ∀ (t : Nat), True → ((∀ (i : Nat), i < q.marks.n → (cM (q.marks.g i)) = (cM (q.marks.g i))) ∧ q.marks.n ≤ (1000000 : Nat)) ∧ ∀ (t_1 :
 Nat), True → (∃ (g : Nat), (0 : Int) = (↑g : Int) ∧ (q.gauges.n = q.gauges.n ∧ ∀ (i : Nat), i < q.gauges.n → (cG (q.gauges.g i)) = (cG (L.mgTo (L.rs p s) q g i))) ∧ g ≤ q.gauges.n) ∧ ∀ (g : Nat), g ≤ q.gauges.n → (decide ((↑g : Int) < (↑(L.rs p s).gauges.n : Int)) = true → ((0 : Int) ≤ (↑g : Int) ∧ (↑g : Int) < (↑(L.rs p s).gauges.n : Int)) ∧ ((0 : Int) ≤ (↑g : Int) ∧ (↑g : Int) < (↑q.gauges.n :
 Int)) ∧ Int.toNat (↑g : Int) < q.gauges.n ∧ True ∧ Int.toNat (↑g : Int) < q.gauges.n ∧ True ∧ Int.toNat (↑g : Int) < q.gauges.n ∧ Int.toNat (↑g : Int) < q.gauges.n ∧ Int.toNat (↑g : Int) < q.gauges.n ∧ SV.at (setRow (setRow (fun (k : Nat) ↦ (cG (L.mgTo (L.rs p s) q g k))) (Int.toNat (↑g : Int)) (nat_lit 0) (cellsOf (SV.agg [SV.int .i64 (L.bothS ((L.rs p s).gauges.g (Int.toNat (↑g : Int))).edge
 (L.mgTo (L.rs p s) q g (Int.toNat (↑g : Int))).edge).lo, SV.int .i64 (L.bothS ((L.rs p s).gauges.g (Int.toNat (↑g : Int))).edge (L.mgTo (L.rs p s) q g (Int.toNat (↑g : Int))).edge).hi]))) (Int.toNat (↑g : Int)) (nat_lit 2) (cellsOf (SV.agg [SV.int .i64 (L.bothS ((L.rs p s).gauges.g (Int.toNat (↑g : Int))).across (L.mgTo (L.rs p s) q g (Int.toNat (↑g : Int))).across).lo, SV.int .i64 (L.bothS ((L.rs
 p s).gauges.g (Int.toNat (↑g : Int))).across (L.mgTo (L.rs p s) q g (Int.toNat (↑g : Int))).across).hi])) (Int.toNat (↑g : Int))) (nat_lit 0 + (4 : Nat)) = SV.int .i64 (intV (SV.at (setRow (setRow (fun (k : Nat) ↦ (cG (L.mgTo (L.rs p s) q g k))) (Int.toNat (↑g : Int)) (nat_lit 0) (cellsOf (SV.agg [SV.int .i64 (L.bothS ((L.rs p s).gauges.g (Int.toNat (↑g : Int))).edge (L.mgTo (L.rs p s) q g
 (Int.toNat (↑g : Int))).edge).lo, SV.int .i64 (L.bothS ((L.rs p s).gauges.g (Int.toNat (↑g : Int))).edge (L.mgTo (L.rs p s) q g (Int.toNat (↑g : Int))).edge).hi]))) (Int.toNat (↑g : Int)) (nat_lit 2) (cellsOf (SV.agg [SV.int .i64 (L.bothS ((L.rs p s).gauges.g (Int.toNat (↑g : Int))).across (L.mgTo (L.rs p s) q g (Int.toNat (↑g : Int))).across).lo, SV.int .i64 (L.bothS ((L.rs p s).gauges.g
 (Int.toNat (↑g : Int))).across (L.mgTo (L.rs p s) q g (Int.toNat (↑g : Int))).across).hi])) (Int.toNat (↑g : Int))) (nat_lit 0 + (4 : Nat)))) ∧ ((∀ (i : Nat), i < nat_lit 2 → rowsOf [SV.int .i64 (intV (SV.at (setRow (setRow (fun (k : Nat) ↦ (cG (L.mgTo (L.rs p s) q g k))) (Int.toNat (↑g : Int)) (nat_lit 0) (cellsOf (SV.agg [SV.int .i64 (L.bothS ((L.rs p s).gauges.g (Int.toNat (↑g : Int))).edge
 (L.mgTo (L.rs p s) q g (Int.toNat (↑g : Int))).edge).lo, SV.int .i64 (L.bothS ((L.rs p s).gauges.g (Int.toNat (↑g : Int))).edge (L.mgTo (L.rs p s) q g (Int.toNat (↑g : Int))).edge).hi]))) (Int.toNat (↑g : Int)) (nat_lit 2) (cellsOf (SV.agg [SV.int .i64 (L.bothS ((L.rs p s).gauges.g (Int.toNat (↑g : Int))).across (L.mgTo (L.rs p s) q g (Int.toNat (↑g : Int))).across).lo, SV.int .i64 (L.bothS ((L.rs
 p s).gauges.g (Int.toNat (↑g : Int))).across (L.mgTo (L.rs p s) q g (Int.toNat (↑g : Int))).across).hi])) (Int.toNat (↑g : Int))) (nat_lit 0 + (4 : Nat)))), SV.int .i64 ((L.rs p s).gauges.g (Int.toNat (↑g : Int))).bend] (nat_lit 1) i = [SV.int .i64 (intOf (rowsOf [SV.int .i64 (intV (SV.at (setRow (setRow (fun (k : Nat) ↦ (cG (L.mgTo (L.rs p s) q g k))) (Int.toNat (↑g : Int)) (nat_lit 0) (cellsOf
 (SV.agg [SV.int .i64 (L.bothS ((L.rs p s).gauges.g (Int.toNat (↑g : Int))).edge (L.mgTo (L.rs p s) q g (Int.toNat (↑g : Int))).edge).lo, SV.int .i64 (L.bothS ((L.rs p s).gauges.g (Int.toNat (↑g : Int))).edge (L.mgTo (L.rs p s) q g (Int.toNat (↑g : Int))).edge).hi]))) (Int.toNat (↑g : Int)) (nat_lit 2) (cellsOf (SV.agg [SV.int .i64 (L.bothS ((L.rs p s).gauges.g (Int.toNat (↑g : Int))).across
 (L.mgTo (L.rs p s) q g (Int.toNat (↑g : Int))).across).lo, SV.int .i64 (L.bothS ((L.rs p s).gauges.g (Int.toNat (↑g : Int))).across (L.mgTo (L.rs p s) q g (Int.toNat (↑g : Int))).across).hi])) (Int.toNat (↑g : Int))) (nat_lit 0 + (4 : Nat)))), SV.int .i64 ((L.rs p s).gauges.g (Int.toNat (↑g : Int))).bend] (nat_lit 1) i))]) ∧ nat_lit 2 ≤ (1000000 : Nat)) ∧ Int.toNat (↑g : Int) < q.gauges.n ∧ InK
 .i64 ((↑g : Int) + (1 : Int)) ∧ ∃ (g' : Nat), (↑g : Int) + (1 : Int) = (↑g' : Int) ∧ (↑(L.rs p s).gauges.n : Int) = (↑(L.rs p s).gauges.n : Int) ∧ ((L.rs p s).gauges.n = (L.rs p s).gauges.n ∧ ∀ (i : Nat), i < (L.rs p s).gauges.n → (cG ((L.rs p s).gauges.g i)) = (cG ((L.rs p s).gauges.g i))) ∧ nat_lit 0 = nat_lit 0 ∧ nat_lit 0 = nat_lit 0 ∧ (0 : Int) = (0 : Int) ∧ nat_lit 0 = nat_lit 0 ∧ SV.ref
 [SV.int .i64 s.shift, SV.bool s.back] (nat_lit 0) = SV.ref [SV.int .i64 s.shift, SV.bool s.back] (nat_lit 0) ∧ SV.ref [SV.int .i64 q.id, SV.int .i64 q.colour, SV.int .i64 q.rev, SV.int .i64 q.made, SV.int .i64 q.swell, SV.sl (nat_lit 5) q.gauges.n fun (i : Nat) ↦ (cG (q.gauges.g i)), SV.sl (nat_lit 3) q.marks.n fun (i : Nat) ↦ (cM (q.marks.g i))] (nat_lit 0) = SV.ref [SV.int .i64 q.id, SV.int .i64
 q.colour, SV.int .i64 q.rev, SV.int .i64 q.made, SV.int .i64 q.swell, SV.sl (nat_lit 5) q.gauges.n fun (i : Nat) ↦ (cG (q.gauges.g i)), SV.sl (nat_lit 3) q.marks.n fun (i : Nat) ↦ (cM (q.marks.g i))] (nat_lit 0) ∧ SV.ref [SV.int .i64 p.id, SV.int .i64 p.colour, SV.int .i64 p.rev, SV.int .i64 p.made, SV.int .i64 p.swell, SV.sl (nat_lit 5) p.gauges.n fun (i : Nat) ↦ (cG (p.gauges.g i)), SV.sl
 (nat_lit 3) p.marks.n fun (i : Nat) ↦ (cM (p.marks.g i))] (nat_lit 0) = SV.ref [SV.int .i64 p.id, SV.int .i64 p.colour, SV.int .i64 p.rev, SV.int .i64 p.made, SV.int .i64 p.swell, SV.sl (nat_lit 5) p.gauges.n fun (i : Nat) ↦ (cG (p.gauges.g i)), SV.sl (nat_lit 3) p.marks.n fun (i : Nat) ↦ (cM (p.marks.g i))] (nat_lit 0) ∧ (q.gauges.n = q.gauges.n ∧ ∀ (i : Nat), i < q.gauges.n → setRow (setRow
 (setRow (fun (k : Nat) ↦ (cG (L.mgTo (L.rs p s) q g k))) (Int.toNat (↑g : Int)) (nat_lit 0) [SV.int .i64 (L.bothS ((L.rs p s).gauges.g (Int.toNat (↑g : Int))).edge (L.mgTo (L.rs p s) q g (Int.toNat (↑g : Int))).edge).lo, SV.int .i64 (L.bothS ((L.rs p s).gauges.g (Int.toNat (↑g : Int))).edge (L.mgTo (L.rs p s) q g (Int.toNat (↑g : Int))).edge).hi]) (Int.toNat (↑g : Int)) (nat_lit 2) [SV.int .i64
 (L.bothS ((L.rs p s).gauges.g (Int.toNat (↑g : Int))).across (L.mgTo (L.rs p s) q g (Int.toNat (↑g : Int))).across).lo, SV.int .i64 (L.bothS ((L.rs p s).gauges.g (Int.toNat (↑g : Int))).across (L.mgTo (L.rs p s) q g (Int.toNat (↑g : Int))).across).hi]) (Int.toNat (↑g : Int)) (nat_lit 4) [SV.int .i64 (L.firstNZ (fun (i : Nat) ↦ intOf (rowsOf [SV.int .i64 (intV (SV.at (setRow (setRow (fun (k : Nat)
 ↦ (cG (L.mgTo (L.rs p s) q g k))) (Int.toNat (↑g : Int)) (nat_lit 0) (cellsOf (SV.agg [SV.int .i64 (L.bothS ((L.rs p s).gauges.g (Int.toNat (↑g : Int))).edge (L.mgTo (L.rs p s) q g (Int.toNat (↑g : Int))).edge).lo, SV.int .i64 (L.bothS ((L.rs p s).gauges.g (Int.toNat (↑g : Int))).edge (L.mgTo (L.rs p s) q g (Int.toNat (↑g : Int))).edge).hi]))) (Int.toNat (↑g : Int)) (nat_lit 2) (cellsOf (SV.agg
 [SV.int .i64 (L.bothS ((L.rs p s).gauges.g (Int.toNat (↑g : Int))).across (L.mgTo (L.rs p s) q g (Int.toNat (↑g : Int))).across).lo, SV.int .i64 (L.bothS ((L.rs p s).gauges.g (Int.toNat (↑g : Int))).across (L.mgTo (L.rs p s) q g (Int.toNat (↑g : Int))).across).hi])) (Int.toNat (↑g : Int))) (nat_lit 0 + (4 : Nat)))), SV.int .i64 ((L.rs p s).gauges.g (Int.toNat (↑g : Int))).bend] (nat_lit 1) i)) (2
 : Nat))] i = (cG (L.mgTo (L.rs p s) q g' i))) ∧ (q.marks.n = q.marks.n ∧ ∀ (i : Nat), i < q.marks.n → (cM (q.marks.g i)) = (cM (q.marks.g i))) ∧ q.id = q.id ∧ q.colour = q.colour ∧ q.rev = q.rev ∧ q.made = q.made ∧ q.swell = q.swell ∧ (L.rs p s).id = (L.rs p s).id ∧ (L.rs p s).colour = (L.rs p s).colour ∧ (L.rs p s).rev = (L.rs p s).rev ∧ (L.rs p s).made = (L.rs p s).made ∧ (L.rs p s).swell =
 (L.rs p s).swell ∧ ((L.rs p s).gauges.n = (L.rs p s).gauges.n ∧ ∀ (i : Nat), i < (L.rs p s).gauges.n → (cG ((L.rs p s).gauges.g i)) = (cG ((L.rs p s).gauges.g i))) ∧ ((L.rs p s).marks.n = (L.rs p s).marks.n ∧ ∀ (i : Nat), i < (L.rs p s).marks.n → (cM ((L.rs p s).marks.g i)) = (cM ((L.rs p s).marks.g i))) ∧ (0 : Int) = (0 : Int) ∧ (0 : Int) = (0 : Int) ∧ (0 : Int) = (0 : Int) ∧ (0 : Int) = (0 :
 Int) ∧ (0 : Int) = (0 : Int) ∧ Value.slice Option.none (0 : Nat) (0 : Nat) = Value.slice Option.none (0 : Nat) (0 : Nat) ∧ Value.slice Option.none (0 : Nat) (0 : Nat) = Value.slice Option.none (0 : Nat) (0 : Nat) ∧ g' ≤ q.gauges.n ∧ q.gauges.n - g' < q.gauges.n - g) ∧ (decide ((↑g : Int) < (↑(L.rs p s).gauges.n : Int)) = false → q.id = (L.mgV p q s).id ∧ q.colour = (L.mgV p q s).colour ∧ q.rev =
 (L.mgV p q s).rev ∧ q.made = (L.mgV p q s).made ∧ q.swell = (L.mgV p q s).swell ∧ (q.gauges.n = (L.mgV p q s).gauges.n ∧ ∀ (i : Nat), i < q.gauges.n → (cG (L.mgTo (L.rs p s) q g i)) = (cG ((L.mgV p q s).gauges.g i))) ∧ (q.marks.n = (L.mgV p q s).marks.n ∧ ∀ (i : Nat), i < q.marks.n → (cM (q.marks.g i)) = (cM ((L.mgV p q s).marks.g i))) ∧ (0 : Int) = L.mgE p q s))))) (by kernel_rfl) (by
    obtain ⟨h1, h2, h3, h4⟩ := hp
    have zero : ∀ e : Int, e ≠ 0 → L.mgE p q s = e → (0 = (L.mgV p q s).id ∧ 0 = (L.mgV p q s).colour ∧ 0 = (L.mgV p q s).rev ∧ 0 = (L.mgV p q s).made ∧ 0 = (L.mgV p q s).swell ∧ (L.mgV p q s).gauges.n = 0 ∧ (L.mgV p q s).marks.n = 0 ∧ e = L.mgE p q s) := fun e he h => by
      have V : L.mgV p q s = L.zeroP := by unfold L.mgV; rw [h, decide_eq_false he]; rfl
      rw [V]; exact ⟨rfl, rfl, rfl, rfl, rfl, rfl, rfl, h.symm⟩
    refine ⟨⟨fun _ _ => rfl, fun _ _ => rfl, h3, h4⟩, fun h => ?_, fun h => ⟨⟨fun _ _ => rfl, fun _ _ => rfl, h1, h2⟩, fun k => ?_, fun k => ?_⟩⟩
    · exact zero 30 (by decide) (by unfold L.mgE; rw [h]; rfl)
    · exact zero _ (of_decide_eq_false (notT k)) (by unfold L.mgE; rw [h, k]; rfl)
    have hw : L.wrE p s = 0 := of_decide_eq_true (notF k)
    obtain ⟨hv, hs⟩ : L.validPiece p = true ∧ L.validSet s p.gauges.n = true := by
      rcases wrE_cases p s with ⟨_, a, b, _⟩ | ⟨a, _⟩
      · exact ⟨a, b⟩
      · exact absurd hw a
    refine ⟨⟨fun _ _ => rfl, fun _ _ => rfl, hv, hs⟩, ⟨fun _ _ => rfl, fun _ _ => rfl, fun _ _ => rfl, fun _ _ => rfl, h1, h2, h3, h4⟩, fun m => ?_, fun m => ?_⟩
    · exact zero 31 (by decide) (by unfold L.mgE; rw [h, k, m]; rfl)
    have e0 : L.mgE p q s = 0 := by unfold L.mgE; rw [h, k, m]; rfl
    have V : L.mgV p q s = L.mg (L.rs p s) q := by unfold L.mgV; rw [e0]; rfl
    have hn : (L.rs p s).gauges.n = q.gauges.n := agr_n (notF m)
    refine ⟨⟨fun _ _ => rfl, h3⟩, fun t _ => ⟨⟨fun _ _ => rfl, h4⟩, fun t1 _ => ⟨⟨(0 : Nat), rfl, ⟨rfl, fun i _ => ?_⟩, Nat.zero_le _⟩, fun g hg => ⟨fun hlt => ?_, fun hge => ?_⟩⟩⟩⟩
    · have : L.mgTo (L.rs p s) q 0 i = q.gauges.g i := by unfold L.mgTo; rw [decide_eq_false (Nat.not_lt_zero _)]; rfl
      rw [this]
    · have hb : (g : Int) < ((L.rs p s).gauges.n : Int) := of_decide_eq_true hlt
      have eT : L.mgTo (L.rs p s) q g g = q.gauges.g g := by unfold L.mgTo; rw [decide_eq_false (Nat.lt_irrefl g)]; rfl
      have hc : ∀ l, cellsOf (SV.agg l) = l := fun _ => rfl
      have hX : ∀ a b c d : SV, SV.at (setRow (setRow (fun (k : Nat) => (cG (L.mgTo (L.rs p s) q g k))) g 0 [a, b]) g 2 [c, d] g) (0 + 4) = .int .i64 (q.gauges.g g).bend := fun a b c d => by
        unfold setRow
        rw [if_pos rfl, if_pos rfl]
        show SV.at (fillAt (fillAt (cG (L.mgTo (L.rs p s) q g g)) 0 [a, b]) 2 [c, d]) (0 + 4) = _
        rw [eT]; rfl
      rw [Int.toNat_natCast, hc, hc]
      have hg2 : g < q.gauges.n := by omega
      have row : ∀ i, i < q.gauges.n → setRow (setRow (setRow (fun (k : Nat) => (cG (L.mgTo (L.rs p s) q g k))) g 0 [SV.int .i64 (L.bothS ((L.rs p s).gauges.g g).edge (L.mgTo (L.rs p s) q g g).edge).lo, SV.int .i64 (L.bothS ((L.rs p s).gauges.g g).edge (L.mgTo (L.rs p s) q g g).edge).hi]) g 2 [SV.int .i64 (L.bothS ((L.rs p s).gauges.g g).across (L.mgTo (L.rs p s) q g g).across).lo, SV.int .i64 (L.bothS ((L.rs p s).gauges.g g).across (L.mgTo (L.rs p s) q g g).across).hi]) g 4 [SV.int .i64 (L.or2 (q.gauges.g g).bend ((L.rs p s).gauges.g g).bend)] i = (cG (L.mgTo (L.rs p s) q (g + 1) i)) := fun i hi => by
        unfold setRow
        by_cases hi2 : i = g
        · rw [if_pos hi2, if_pos hi2, if_pos hi2, hi2]
          have w : L.mgTo (L.rs p s) q (g + 1) g = L.mgG ((L.rs p s).gauges.g g) (q.gauges.g g) := by unfold L.mgTo; rw [decide_eq_true (Nat.lt_succ_self g)]; rfl
          rw [w, eT]; rfl
        · rw [if_neg hi2, if_neg hi2, if_neg hi2]
          have w : L.mgTo (L.rs p s) q (g + 1) i = L.mgTo (L.rs p s) q g i := by
            unfold L.mgTo
            by_cases h5 : i < g
            · rw [decide_eq_true h5, decide_eq_true (by omega)]
            · rw [decide_eq_false h5, decide_eq_false (by omega)]
          rw [w]
      rw [hX]
      exact ⟨⟨by omega, hb⟩, ⟨by omega, by omega⟩, hg2, trivial, hg2, trivial, hg2, hg2, hg2, rfl, ⟨fun i hi => by match i, hi with | 0, _ => rfl | 1, _ => rfl, show 2 ≤ 1000000 by decide⟩, hg2, InK.of (by omega) (by omega), g + 1, by omega, rfl, ⟨rfl, fun _ _ => rfl⟩, rfl, rfl, rfl, rfl, rfl, rfl, rfl, ⟨rfl, row⟩, ⟨rfl, fun _ _ => rfl⟩, rfl, rfl, rfl, rfl, rfl, rfl, rfl, rfl, rfl, rfl, ⟨rfl, fun _ _ => rfl⟩, ⟨rfl, fun _ _ => rfl⟩, rfl, rfl, rfl, rfl, rfl, rfl, rfl, by omega, by omega⟩
    · have hb : ¬ (g : Int) < ((L.rs p s).gauges.n : Int) := of_decide_eq_false hge
      obtain rfl : g = q.gauges.n := by omega
      rw [V, e0]
      refine ⟨rfl, rfl, rfl, rfl, rfl, ⟨rfl, fun i hi => ?_⟩, ⟨rfl, fun _ _ => rfl⟩, rfl⟩
      have w : L.mgTo (L.rs p s) q q.gauges.n i = L.mgG ((L.rs p s).gauges.g i) (q.gauges.g i) := by unfold L.mgTo; rw [decide_eq_true hi]; rfl
      rw [w]; rfl)
theorem g_Merge_ok : SpecOk Tryz.prog 51 g_Merge_S := fnX Tryz.func51 (c := bodyOf Tryz.f51) (by kernel_rfl) mixed (fun args p r hs hp => by
  unfold g_Merge_s at hs
  split at hs
  · cases hs; exact ⟨_, _, g_Merge_vc _ _ _ hp.2.2.2.2, (.p (.agg rfl (fun i hi => by
      rcases i with _ | i
      · exact (Ext.refl _ : Ext _ _)
      rcases i with _ | i
      · exact (Ext.refl _ : Ext _ _)
      rcases i with _ | i
      · exact (Ext.refl _ : Ext _ _)
      rcases i with _ | i
      · exact (Ext.refl _ : Ext _ _)
      rcases i with _ | i
      · exact (Ext.refl _ : Ext _ _)
      rcases i with _ | i
      · exact (Ext.sl hp.1 : Ext _ _)
      rcases i with _ | i
      · exact (Ext.sl hp.2.1 : Ext _ _)
      exact absurd hi (by simp; try omega))) (.p (.agg rfl (fun i hi => by
      rcases i with _ | i
      · exact (Ext.refl _ : Ext _ _)
      rcases i with _ | i
      · exact (Ext.refl _ : Ext _ _)
      rcases i with _ | i
      · exact (Ext.refl _ : Ext _ _)
      rcases i with _ | i
      · exact (Ext.refl _ : Ext _ _)
      rcases i with _ | i
      · exact (Ext.refl _ : Ext _ _)
      rcases i with _ | i
      · exact (Ext.sl hp.2.2.1 : Ext _ _)
      rcases i with _ | i
      · exact (Ext.sl hp.2.2.2.1 : Ext _ _)
      exact absurd hi (by simp; try omega))) (.same _ .nil))), ⟨show SpecsL Tryz.prog _ from (SpecsL.cons g_ValidPiece_ok g_ValidPiece_en (SpecsL.cons g_wrong_ok g_wrong_en (SpecsL.cons g_reset_ok g_reset_en (SpecsL.cons g_agree_ok g_agree_en (SpecsL.cons s_cloneG_ok s_cloneG_en (SpecsL.cons s_cloneM_ok s_cloneM_en (SpecsL.cons g_both_ok g_both_en (SpecsL.cons c_or_ok c_or_en SpecsL.nil)))))))), rfl, ⟨show ItersL Tryz.prog _ from ItersL.nil, (TrsOk.none (fun _ => rfl))⟩⟩⟩
  · cases hs)
theorem g_Merge_en : Enters Tryz.prog 51 := fun args w => by kernel_rfl
end Go.Proofs.YtooapgllahonaaaGreat

namespace Go.Proofs.YtooapgllahonaaaGreat
open Go.SE Go.RowKit
set_option maxRecDepth 100000
set_option maxHeartbeats 4000000
set_option linter.unusedVariables false
attribute [local irreducible] vc

def L.bothR (a b : L.Gauge) : L.Gauge := ⟨L.bothS a.edge b.edge, L.bothS a.across b.across, bif decide (a.bend = 0) then b.bend else a.bend⟩
def L.unV (p q : L.Piece) (s : L.Setting) : L.Piece := bif L.agr (L.rs p s) q then L.mg (L.rs p s) q else L.zeroP
theorem agG_eq (a b : L.Gauge) : (bif (bif decide ((L.bothS a.edge b.edge).lo ≤ (L.bothS a.edge b.edge).hi) then decide ((L.bothS a.across b.across).lo ≤ (L.bothS a.across b.across).hi) else false) then (bif (bif decide (a.bend = 0) then true else decide (b.bend = 0)) then true else decide (a.bend = b.bend)) else false) = L.agG a b := by
  unfold L.agG
  rw [Bool.eq_iff_iff]
  simp only [band, bor, Bool.and_eq_true, Bool.or_eq_true, decide_eq_true_eq, Bool.not_eq_true', Bool.or_eq_false_iff, decide_eq_false_iff_not, Bool.and_eq_false_iff, Bool.not_eq_false']
  omega
theorem bothR_eq {a b : L.Gauge} (h : L.agG a b = true) : L.bothR a b = L.mgG a b := by
  unfold L.agG at h
  simp only [band, bor, Bool.not_eq_true', Bool.or_eq_false_iff, Bool.and_eq_false_iff, decide_eq_false_iff_not, Bool.not_eq_false', decide_eq_true_eq] at h
  have hb : (bif decide (a.bend = 0) then b.bend else a.bend) = L.or2 b.bend a.bend := by
    unfold L.or2
    by_cases h1 : a.bend = 0
    · rw [decide_eq_true h1]
      by_cases h2 : b.bend = 0
      · rw [decide_eq_true h2, h1, h2]
      · rw [decide_eq_false h2]; rfl
    · rw [decide_eq_false h1]
      by_cases h2 : b.bend = 0
      · rw [decide_eq_true h2]; rfl
      · rw [decide_eq_false h2, cond_false, cond_false]; omega
  unfold L.bothR L.mgG
  rw [hb]
def r3_common_p (a : L.Span) (b : L.Span) : Prop := True
def r3_common_r (a : L.Span) (b : L.Span) : SV := .tup [(.agg [.int .i64 ((L.bothS a b).lo), .int .i64 ((L.bothS a b).hi)]), .bool (decide ((L.bothS a b).lo ≤ (L.bothS a b).hi))]
def r3_common_s : List EV → Option (Prop × SV)
  | [.p (.agg [.int .i64 a_lo, .int .i64 a_hi]), .p (.agg [.int .i64 b_lo, .int .i64 b_hi])] => some (r3_common_p (⟨a_lo, a_hi⟩ : L.Span) (⟨b_lo, b_hi⟩ : L.Span), r3_common_r (⟨a_lo, a_hi⟩ : L.Span) (⟨b_lo, b_hi⟩ : L.Span))
  | _ => none
abbrev r3_common_S : SE.Spec := (specO r3_common_s)
def r3_common_C : Cfg := { muts := [4, 6], frz := lookN [], specs := lookS [], loops := lookL [], iters := lookI [], rfs := lookR [], nils := lookM [] }
theorem r3_common_vc (a : L.Span) (b : L.Span) (hp : r3_common_p a b) : vc Tryz.prog (r3_common_C) (bodyOf Tryz.f195) (st0 Tryz.f195 [.p (.agg [.int .i64 a.lo, .int .i64 a.hi]), .p (.agg [.int .i64 b.lo, .int .i64 b.hi])]) (retFn Tryz.prog Tryz.f195 (r3_common_r a b)) :=
  @Eq.mpr _ (SV.agg [SV.int .i64 (Max.max a.lo b.lo), SV.int .i64 (Min.min a.hi b.hi)] = SV.agg [SV.int .i64 (L.bothS a b).lo, SV.int .i64 (L.bothS a b).hi] ∧ decide (Max.max a.lo b.lo ≤ Min.min a.hi b.hi) = decide ((L.bothS a b).lo ≤ (L.bothS a b).hi)) (by kernel_rfl) (by
    exact ⟨rfl, rfl⟩)
theorem r3_common_ok : SpecOk Tryz.prog 195 r3_common_S := fnX Tryz.func195 (c := bodyOf Tryz.f195) (by kernel_rfl) mixed (fun args p r hs hp => by
  unfold r3_common_s at hs
  split at hs
  · cases hs; exact ⟨_, _, r3_common_vc _ _ hp, (.same _ (.same _ .nil)), ⟨show SpecsL Tryz.prog _ from SpecsL.nil, rfl, ⟨show ItersL Tryz.prog _ from ItersL.nil, (TrsOk.none (fun _ => rfl))⟩⟩⟩
  · cases hs)
theorem r3_common_en : Enters Tryz.prog 195 := fun args w => by kernel_rfl
def r3_both_p (a : L.Gauge) (b : L.Gauge) : Prop := True
def r3_both_r (a : L.Gauge) (b : L.Gauge) : SV := .tup [(.agg [.int .i64 ((L.bothR a b).edge.lo), .int .i64 ((L.bothR a b).edge.hi), .int .i64 ((L.bothR a b).across.lo), .int .i64 ((L.bothR a b).across.hi), .int .i64 ((L.bothR a b).bend)]), .bool (L.agG a b)]
def r3_both_s : List EV → Option (Prop × SV)
  | [.p (.agg [.int .i64 a_edge_lo, .int .i64 a_edge_hi, .int .i64 a_across_lo, .int .i64 a_across_hi, .int .i64 a_bend]), .p (.agg [.int .i64 b_edge_lo, .int .i64 b_edge_hi, .int .i64 b_across_lo, .int .i64 b_across_hi, .int .i64 b_bend])] => some (r3_both_p (⟨(⟨a_edge_lo, a_edge_hi⟩ : L.Span), (⟨a_across_lo, a_across_hi⟩ : L.Span), a_bend⟩ : L.Gauge) (⟨(⟨b_edge_lo, b_edge_hi⟩ : L.Span), (⟨b_across_lo, b_across_hi⟩ : L.Span), b_bend⟩ : L.Gauge), r3_both_r (⟨(⟨a_edge_lo, a_edge_hi⟩ : L.Span), (⟨a_across_lo, a_across_hi⟩ : L.Span), a_bend⟩ : L.Gauge) (⟨(⟨b_edge_lo, b_edge_hi⟩ : L.Span), (⟨b_across_lo, b_across_hi⟩ : L.Span), b_bend⟩ : L.Gauge))
  | _ => none
abbrev r3_both_S : SE.Spec := (specO r3_both_s)
def r3_both_C : Cfg := { muts := [4, 6, 8, 10], frz := lookN [], specs := lookS [(195, r3_common_S)], loops := lookL [], iters := lookI [], rfs := lookR [], nils := lookM [] }
theorem r3_both_vc (a : L.Gauge) (b : L.Gauge) (hp : r3_both_p a b) : vc Tryz.prog (r3_both_C) (bodyOf Tryz.f168) (st0 Tryz.f168 [.p (.agg [.int .i64 a.edge.lo, .int .i64 a.edge.hi, .int .i64 a.across.lo, .int .i64 a.across.hi, .int .i64 a.bend]), .p (.agg [.int .i64 b.edge.lo, .int .i64 b.edge.hi, .int .i64 b.across.lo, .int .i64 b.across.hi, .int .i64 b.bend])]) (retFn Tryz.prog Tryz.f168 (r3_both_r a b)) :=
  @Eq.mpr _ (True ∧ True ∧ (decide (a.bend = (0 : Int)) = true → SV.agg [SV.int .i64 (L.bothS a.edge b.edge).lo, SV.int .i64 (L.bothS a.edge b.edge).hi, SV.int .i64 (L.bothS a.across b.across).lo, SV.int .i64 (L.bothS a.across b.across).hi, SV.int .i64 b.bend] = SV.agg (cG (L.bothR a b)) ∧ (bif bif decide ((L.bothS a.edge b.edge).lo ≤ (L.bothS a.edge b.edge).hi) then decide ((L.bothS a.across b.across).lo ≤
 (L.bothS a.across b.across).hi) else false then bif bif decide (a.bend = (0 : Int)) then true else decide (b.bend = (0 : Int)) then true else decide (a.bend = b.bend) else false) = L.agG a b) ∧ (decide (a.bend = (0 : Int)) = false → SV.agg [SV.int .i64 (L.bothS a.edge b.edge).lo, SV.int .i64 (L.bothS a.edge b.edge).hi, SV.int .i64 (L.bothS a.across b.across).lo, SV.int .i64 (L.bothS a.across
 b.across).hi, SV.int .i64 a.bend] = SV.agg (cG (L.bothR a b)) ∧ (bif bif decide ((L.bothS a.edge b.edge).lo ≤ (L.bothS a.edge b.edge).hi) then decide ((L.bothS a.across b.across).lo ≤ (L.bothS a.across b.across).hi) else false then bif bif decide (a.bend = (0 : Int)) then true else decide (b.bend = (0 : Int)) then true else decide (a.bend = b.bend) else false) = L.agG a b)) (by kernel_rfl) (by
    refine ⟨trivial, trivial, fun h => ⟨?_, agG_eq a b⟩, fun h => ⟨?_, agG_eq a b⟩⟩
    · unfold L.bothR; rw [h]; rfl
    · unfold L.bothR; rw [h]; rfl)
theorem r3_both_ok : SpecOk Tryz.prog 168 r3_both_S := fnX Tryz.func168 (c := bodyOf Tryz.f168) (by kernel_rfl) mixed (fun args p r hs hp => by
  unfold r3_both_s at hs
  split at hs
  · cases hs; exact ⟨_, _, r3_both_vc _ _ hp, (.same _ (.same _ .nil)), ⟨show SpecsL Tryz.prog _ from (SpecsL.cons r3_common_ok r3_common_en SpecsL.nil), rfl, ⟨show ItersL Tryz.prog _ from ItersL.nil, (TrsOk.none (fun _ => rfl))⟩⟩⟩
  · cases hs)
theorem r3_both_en : Enters Tryz.prog 168 := fun args w => by kernel_rfl
def r3_united_p (p : L.Piece) (q : L.Piece) (s : L.Setting) : Prop := L.validPiece p = true ∧ L.validPiece q = true ∧ L.validSet s p.gauges.n = true ∧ p.gauges.n = q.gauges.n
def r3_united_r (p : L.Piece) (q : L.Piece) (s : L.Setting) : SV := .tup [(.agg [.int .i64 ((L.unV p q s).id), .int .i64 ((L.unV p q s).colour), .int .i64 ((L.unV p q s).rev), .int .i64 ((L.unV p q s).made), .int .i64 ((L.unV p q s).swell), .sl 5 (L.unV p q s).gauges.n (fun i => [.int .i64 (((L.unV p q s).gauges.g i).edge.lo), .int .i64 (((L.unV p q s).gauges.g i).edge.hi), .int .i64 (((L.unV p q s).gauges.g i).across.lo), .int .i64 (((L.unV p q s).gauges.g i).across.hi), .int .i64 (((L.unV p q s).gauges.g i).bend)]), .sl 3 (L.unV p q s).marks.n (fun i => [.int .i64 (((L.unV p q s).marks.g i).edge), .int .i64 (((L.unV p q s).marks.g i).place), .int .i64 (((L.unV p q s).marks.g i).tone)])]), .bool (L.agr (L.rs p s) q)]
def r3_united_s : List EV → Option (Prop × SV)
  | [.p (.agg [.int .i64 p_id, .int .i64 p_colour, .int .i64 p_rev, .int .i64 p_made, .int .i64 p_swell, .sl 5 p_gauges_n p_gauges_g, .sl 3 p_marks_n p_marks_g]), .p (.agg [.int .i64 q_id, .int .i64 q_colour, .int .i64 q_rev, .int .i64 q_made, .int .i64 q_swell, .sl 5 q_gauges_n q_gauges_g, .sl 3 q_marks_n q_marks_g]), .p (.agg [.int .i64 s_shift, .bool s_back])] => some ((∀ i, i < p_gauges_n → p_gauges_g i = [.int .i64 ((ofGauge (p_gauges_g i)).edge.lo), .int .i64 ((ofGauge (p_gauges_g i)).edge.hi), .int .i64 ((ofGauge (p_gauges_g i)).across.lo), .int .i64 ((ofGauge (p_gauges_g i)).across.hi), .int .i64 ((ofGauge (p_gauges_g i)).bend)]) ∧ (∀ i, i < p_marks_n → p_marks_g i = [.int .i64 ((ofMark (p_marks_g i)).edge), .int .i64 ((ofMark (p_marks_g i)).place), .int .i64 ((ofMark (p_marks_g i)).tone)]) ∧ (∀ i, i < q_gauges_n → q_gauges_g i = [.int .i64 ((ofGauge (q_gauges_g i)).edge.lo), .int .i64 ((ofGauge (q_gauges_g i)).edge.hi), .int .i64 ((ofGauge (q_gauges_g i)).across.lo), .int .i64 ((ofGauge (q_gauges_g i)).across.hi), .int .i64 ((ofGauge (q_gauges_g i)).bend)]) ∧ (∀ i, i < q_marks_n → q_marks_g i = [.int .i64 ((ofMark (q_marks_g i)).edge), .int .i64 ((ofMark (q_marks_g i)).place), .int .i64 ((ofMark (q_marks_g i)).tone)]) ∧ r3_united_p (⟨p_id, p_colour, p_rev, p_made, p_swell, (⟨p_gauges_n, fun i => ofGauge (p_gauges_g i)⟩ : (L.Sq L.Gauge)), (⟨p_marks_n, fun i => ofMark (p_marks_g i)⟩ : (L.Sq L.Mark))⟩ : L.Piece) (⟨q_id, q_colour, q_rev, q_made, q_swell, (⟨q_gauges_n, fun i => ofGauge (q_gauges_g i)⟩ : (L.Sq L.Gauge)), (⟨q_marks_n, fun i => ofMark (q_marks_g i)⟩ : (L.Sq L.Mark))⟩ : L.Piece) (⟨s_shift, s_back⟩ : L.Setting), r3_united_r (⟨p_id, p_colour, p_rev, p_made, p_swell, (⟨p_gauges_n, fun i => ofGauge (p_gauges_g i)⟩ : (L.Sq L.Gauge)), (⟨p_marks_n, fun i => ofMark (p_marks_g i)⟩ : (L.Sq L.Mark))⟩ : L.Piece) (⟨q_id, q_colour, q_rev, q_made, q_swell, (⟨q_gauges_n, fun i => ofGauge (q_gauges_g i)⟩ : (L.Sq L.Gauge)), (⟨q_marks_n, fun i => ofMark (q_marks_g i)⟩ : (L.Sq L.Mark))⟩ : L.Piece) (⟨s_shift, s_back⟩ : L.Setting))
  | _ => none
abbrev r3_united_S : SE.Spec := (specO r3_united_s)
def r3_united_C : Cfg := { muts := [6, 8, 9, 11, 53], frz := lookN [(14, [86, 53])], specs := lookS [(63, r3_reset_S), (19, r3_SameMarks_S), (168, r3_both_S)], loops := fun _ => none, iters := lookI [], rfs := lookR [], nils := lookM [(6, [(9, 86, 92, 5)])] }
theorem r3_united_vc (p : L.Piece) (q : L.Piece) (s : L.Setting) (hp : r3_united_p p q s) : vc Tryz.prog ({ r3_united_C with loops := lookL [(8, { T := Nat, keep := [3, 4, 5, 6, 8, 9], keepO := [6, 8, 9, 53], chg := fun i => [(10, .p (.int .i64 (i : Int)))], own := fun i => [(86, .row 92 5 i (fun k => [.int .i64 ((L.mgG ((L.rs p s).gauges.g k) (q.gauges.g k)).edge.lo), .int .i64 ((L.mgG ((L.rs p s).gauges.g k) (q.gauges.g k)).edge.hi), .int .i64 ((L.mgG ((L.rs p s).gauges.g k) (q.gauges.g k)).across.lo), .int .i64 ((L.mgG ((L.rs p s).gauges.g k) (q.gauges.g k)).across.hi), .int .i64 ((L.mgG ((L.rs p s).gauges.g k) (q.gauges.g k)).bend)]))], inv := fun i => i ≤ q.gauges.n ∧ ∀ j, j < i → L.agG ((L.rs p s).gauges.g j) (q.gauges.g j) = true, mu := fun i => q.gauges.n - i })], rfs := lookR [] }) (bodyOf Tryz.f112) (st0 Tryz.f112 [.p (.agg [.int .i64 p.id, .int .i64 p.colour, .int .i64 p.rev, .int .i64 p.made, .int .i64 p.swell, .sl 5 p.gauges.n (fun i => [.int .i64 ((p.gauges.g i).edge.lo), .int .i64 ((p.gauges.g i).edge.hi), .int .i64 ((p.gauges.g i).across.lo), .int .i64 ((p.gauges.g i).across.hi), .int .i64 ((p.gauges.g i).bend)]), .sl 3 p.marks.n (fun i => [.int .i64 ((p.marks.g i).edge), .int .i64 ((p.marks.g i).place), .int .i64 ((p.marks.g i).tone)])]), .p (.agg [.int .i64 q.id, .int .i64 q.colour, .int .i64 q.rev, .int .i64 q.made, .int .i64 q.swell, .sl 5 q.gauges.n (fun i => [.int .i64 ((q.gauges.g i).edge.lo), .int .i64 ((q.gauges.g i).edge.hi), .int .i64 ((q.gauges.g i).across.lo), .int .i64 ((q.gauges.g i).across.hi), .int .i64 ((q.gauges.g i).bend)]), .sl 3 q.marks.n (fun i => [.int .i64 ((q.marks.g i).edge), .int .i64 ((q.marks.g i).place), .int .i64 ((q.marks.g i).tone)])]), .p (.agg [.int .i64 s.shift, .bool s.back])]) (retFn Tryz.prog Tryz.f112 (r3_united_r p q s)) :=
  @Eq.mpr _ (((∀ (i : Nat), i < p.gauges.n → (cG (p.gauges.g i)) = (cG (p.gauges.g i))) ∧ (∀ (i : Nat), i < p.marks.n → (cM (p.marks.g i)) = (cM (p.marks.g i))) ∧ L.validPiece p = true ∧ L.validSet s (↑p.gauges.n : Int) = true) ∧ ((!bif bif bif !decide ((L.rs p s).colour = q.colour) then true else !decide ((L.rs p s).rev = q.rev) then true else !decide ((L.rs p s).made = q.made) then true else !decide ((L.rs p
 s).swell = q.swell)) = true → (∀ (i : Nat), i < (L.rs p s).marks.n → (cM ((L.rs p s).marks.g i)) = (cM ((L.rs p s).marks.g i))) ∧ (∀ (i : Nat), i < q.marks.n → (cM (q.marks.g i)) = (cM (q.marks.g i))) ∧ (L.rs p s).marks.n ≤ (1000000 : Nat)) ∧ ((bif bif bif bif !decide ((L.rs p s).colour = q.colour) then true else !decide ((L.rs p s).rev = q.rev) then true else !decide ((L.rs p s).made = q.made)
 then true else !decide ((L.rs p s).swell = q.swell) then true else !L.sameMs (L.rs p s).marks q.marks) = true → (0 : Int) = (L.unV p q s).id ∧ (0 : Int) = (L.unV p q s).colour ∧ (0 : Int) = (L.unV p q s).rev ∧ (0 : Int) = (L.unV p q s).made ∧ (0 : Int) = (L.unV p q s).swell ∧ (L.unV p q s).gauges.n = (0 : Nat) ∧ (L.unV p q s).marks.n = (0 : Nat) ∧ false = L.agr (L.rs p s) q) ∧ ((bif bif bif bif
 !decide ((L.rs p s).colour = q.colour) then true else !decide ((L.rs p s).rev = q.rev) then true else !decide ((L.rs p s).made = q.made) then true else !decide ((L.rs p s).swell = q.swell) then true else !L.sameMs (L.rs p s).marks q.marks) = false → (nat_lit 0 + q.marks.n) * nat_lit 24 ≤ (140737488355328 : Nat) ∧ (∃ (g : Nat), (0 : Int) = (↑g : Int) ∧ (nat_lit 0 = g ∧ ∀ (i : Nat), i < nat_lit 0 →
 [] = (cG (L.mgG ((L.rs p s).gauges.g i) (q.gauges.g i)))) ∧ g ≤ q.gauges.n ∧ ∀ (j : Nat), j < g → L.agG ((L.rs p s).gauges.g j) (q.gauges.g j) = true) ∧ ∀ (g : Nat), (g ≤ q.gauges.n ∧ ∀ (j : Nat), j < g → L.agG ((L.rs p s).gauges.g j) (q.gauges.g j) = true) → (decide ((↑g : Int) < (↑q.gauges.n : Int)) = true → ((0 : Int) ≤ (↑g : Int) ∧ (↑g : Int) < (↑(L.rs p s).gauges.n : Int)) ∧ ((0 : Int) ≤ (↑g
 : Int) ∧ (↑g : Int) < (↑q.gauges.n : Int)) ∧ True ∧ ((!L.agG ((L.rs p s).gauges.g (Int.toNat (↑g : Int))) (q.gauges.g (Int.toNat (↑g : Int)))) = true → (0 : Int) = (L.unV p q s).id ∧ (0 : Int) = (L.unV p q s).colour ∧ (0 : Int) = (L.unV p q s).rev ∧ (0 : Int) = (L.unV p q s).made ∧ (0 : Int) = (L.unV p q s).swell ∧ (L.unV p q s).gauges.n = (0 : Nat) ∧ (L.unV p q s).marks.n = (0 : Nat) ∧ false =
 L.agr (L.rs p s) q) ∧ ((!L.agG ((L.rs p s).gauges.g (Int.toNat (↑g : Int))) (q.gauges.g (Int.toNat (↑g : Int)))) = false → (g + nat_lit 1) * nat_lit 40 ≤ (140737488355328 : Nat) ∧ InK .i64 ((↑g : Int) + (1 : Int)) ∧ ∃ (g' : Nat), (↑g : Int) + (1 : Int) = (↑g' : Int) ∧ nat_lit 0 = nat_lit 0 ∧ nat_lit 0 = nat_lit 0 ∧ nat_lit 0 = nat_lit 0 ∧ SV.ref [SV.int .i64 s.shift, SV.bool s.back] (nat_lit 0) =
 SV.ref [SV.int .i64 s.shift, SV.bool s.back] (nat_lit 0) ∧ SV.ref [SV.int .i64 q.id, SV.int .i64 q.colour, SV.int .i64 q.rev, SV.int .i64 q.made, SV.int .i64 q.swell, SV.sl (nat_lit 5) q.gauges.n fun (i : Nat) ↦ (cG (q.gauges.g i)), SV.sl (nat_lit 3) q.marks.n fun (i : Nat) ↦ (cM (q.marks.g i))] (nat_lit 0) = SV.ref [SV.int .i64 q.id, SV.int .i64 q.colour, SV.int .i64 q.rev, SV.int .i64 q.made,
 SV.int .i64 q.swell, SV.sl (nat_lit 5) q.gauges.n fun (i : Nat) ↦ (cG (q.gauges.g i)), SV.sl (nat_lit 3) q.marks.n fun (i : Nat) ↦ (cM (q.marks.g i))] (nat_lit 0) ∧ SV.ref [SV.int .i64 p.id, SV.int .i64 p.colour, SV.int .i64 p.rev, SV.int .i64 p.made, SV.int .i64 p.swell, SV.sl (nat_lit 5) p.gauges.n fun (i : Nat) ↦ (cG (p.gauges.g i)), SV.sl (nat_lit 3) p.marks.n fun (i : Nat) ↦ (cM (p.marks.g
 i))] (nat_lit 0) = SV.ref [SV.int .i64 p.id, SV.int .i64 p.colour, SV.int .i64 p.rev, SV.int .i64 p.made, SV.int .i64 p.swell, SV.sl (nat_lit 5) p.gauges.n fun (i : Nat) ↦ (cG (p.gauges.g i)), SV.sl (nat_lit 3) p.marks.n fun (i : Nat) ↦ (cM (p.marks.g i))] (nat_lit 0) ∧ (g + nat_lit 1 = g' ∧ ∀ (i : Nat), i < g + nat_lit 1 → appGet g (fun (k : Nat) ↦ (cG (L.mgG ((L.rs p s).gauges.g k) (q.gauges.g
 k)))) (fun (x : Nat) ↦ (cG (L.bothR ((L.rs p s).gauges.g (Int.toNat (↑g : Int))) (q.gauges.g (Int.toNat (↑g : Int)))))) i = (cG (L.mgG ((L.rs p s).gauges.g i) (q.gauges.g i)))) ∧ (nat_lit 0 + q.marks.n = nat_lit 0 + q.marks.n ∧ ∀ (i : Nat), i < nat_lit 0 + q.marks.n → appGet (nat_lit 0) (rowsOf [] (nat_lit 3)) (fun (i : Nat) ↦ (cM (q.marks.g i))) i = appGet (nat_lit 0) (rowsOf [] (nat_lit 3)) (fun
 (i : Nat) ↦ (cM (q.marks.g i))) i) ∧ q.id = q.id ∧ q.colour = q.colour ∧ q.rev = q.rev ∧ q.made = q.made ∧ q.swell = q.swell ∧ (L.rs p s).id = (L.rs p s).id ∧ (L.rs p s).colour = (L.rs p s).colour ∧ (L.rs p s).rev = (L.rs p s).rev ∧ (L.rs p s).made = (L.rs p s).made ∧ (L.rs p s).swell = (L.rs p s).swell ∧ ((L.rs p s).gauges.n = (L.rs p s).gauges.n ∧ ∀ (i : Nat), i < (L.rs p s).gauges.n → (cG
 ((L.rs p s).gauges.g i)) = (cG ((L.rs p s).gauges.g i))) ∧ ((L.rs p s).marks.n = (L.rs p s).marks.n ∧ ∀ (i : Nat), i < (L.rs p s).marks.n → (cM ((L.rs p s).marks.g i)) = (cM ((L.rs p s).marks.g i))) ∧ (0 : Int) = (0 : Int) ∧ (0 : Int) = (0 : Int) ∧ (0 : Int) = (0 : Int) ∧ (0 : Int) = (0 : Int) ∧ (0 : Int) = (0 : Int) ∧ Value.slice Option.none (0 : Nat) (0 : Nat) = Value.slice Option.none (0 : Nat)
 (0 : Nat) ∧ Value.slice Option.none (0 : Nat) (0 : Nat) = Value.slice Option.none (0 : Nat) (0 : Nat) ∧ (g' ≤ q.gauges.n ∧ ∀ (j : Nat), j < g' → L.agG ((L.rs p s).gauges.g j) (q.gauges.g j) = true) ∧ q.gauges.n - g' < q.gauges.n - g)) ∧ (decide ((↑g : Int) < (↑q.gauges.n : Int)) = false → q.id = (L.unV p q s).id ∧ q.colour = (L.unV p q s).colour ∧ q.rev = (L.unV p q s).rev ∧ q.made = (L.unV p q
 s).made ∧ q.swell = (L.unV p q s).swell ∧ (g = (L.unV p q s).gauges.n ∧ ∀ (i : Nat), i < g → (cG (L.mgG ((L.rs p s).gauges.g i) (q.gauges.g i))) = (cG ((L.unV p q s).gauges.g i))) ∧ (nat_lit 0 + q.marks.n = (L.unV p q s).marks.n ∧ ∀ (i : Nat), i < nat_lit 0 + q.marks.n → appGet (nat_lit 0) (rowsOf [] (nat_lit 3)) (fun (i : Nat) ↦ (cM (q.marks.g i))) i = (cM ((L.unV p q s).marks.g i))) ∧ true =
 L.agr (L.rs p s) q))) (by kernel_rfl) (by
    obtain ⟨hv, hq, hs, hn⟩ := hp
    have hg1 := gauges_n (piece_of hv).2.1
    have hm1 := (marks_in (piece_of hv).2.2).1
    have hm2 := (marks_in (piece_of hq).2.2).1
    have hnI : (((L.rs p s).gauges.n : Nat) : Int) = q.gauges.n := by show (p.gauges.n : Int) = q.gauges.n; omega
    have zero : L.agr (L.rs p s) q = false → (0 = (L.unV p q s).id ∧ 0 = (L.unV p q s).colour ∧ 0 = (L.unV p q s).rev ∧ 0 = (L.unV p q s).made ∧ 0 = (L.unV p q s).swell ∧ (L.unV p q s).gauges.n = 0 ∧ (L.unV p q s).marks.n = 0 ∧ false = L.agr (L.rs p s) q) := fun h => by
      have V : L.unV p q s = L.zeroP := by unfold L.unV; rw [h]; rfl
      rw [V, h]; exact ⟨rfl, rfl, rfl, rfl, rfl, rfl, rfl, rfl⟩
    refine ⟨⟨fun _ _ => rfl, fun _ _ => rfl, hv, hs⟩, fun _ => ⟨fun _ _ => rfl, fun _ _ => rfl, show p.marks.n ≤ 1000000 by omega⟩, fun h => zero ?_, fun h => ?_⟩
    · have : L.agNum (L.rs p s) q = false := by
        unfold L.agNum
        rw [decide_eq_true hnI]
        exact congrArg (fun b => bif b then false else true) h
      unfold L.agr; rw [this]; rfl
    have hN : L.agNum (L.rs p s) q = true := by
      unfold L.agNum
      rw [decide_eq_true hnI]
      exact congrArg (fun b => bif b then false else true) h
    refine ⟨show (0 + q.marks.n) * 24 ≤ 140737488355328 by omega, ⟨(0 : Nat), rfl, ⟨rfl, fun i hi => absurd hi (Nat.not_lt_zero _)⟩, Nat.zero_le _, fun j hj => absurd hj (Nat.not_lt_zero _)⟩, fun g hg => ⟨fun hlt => ?_, fun hge => ?_⟩⟩
    · have hb : (g : Int) < (q.gauges.n : Int) := of_decide_eq_true hlt
      rw [Int.toNat_natCast]
      refine ⟨⟨by omega, show (g : Int) < (p.gauges.n : Int) by omega⟩, ⟨by omega, hb⟩, trivial, fun h5 => zero ?_, fun h5 => ?_⟩
      · unfold L.agr
        have h7 : L.agG ((L.rs p s).gauges.g g) (q.gauges.g g) = false := notT h5
        rw [hN, allB_false (n := (L.rs p s).gauges.n) (i := g) (show g < p.gauges.n by omega) h7]; rfl
      · have h6 := notF h5
        have app : ∀ i, i < g + 1 → appGet g (fun (k : Nat) => (cG (L.mgG ((L.rs p s).gauges.g k) (q.gauges.g k)))) (fun (x : Nat) => (cG (L.bothR ((L.rs p s).gauges.g g) (q.gauges.g g)))) i = (cG (L.mgG ((L.rs p s).gauges.g i) (q.gauges.g i))) := fun i hi => by
          unfold appGet
          by_cases h' : i < g
          · rw [if_pos h']
          · rw [if_neg h', bothR_eq h6]
            obtain rfl : i = g := by omega
            rfl
        exact ⟨show (g + 1) * 40 ≤ 140737488355328 by omega, InK.of (by omega) (by omega), g + 1, by omega, rfl, rfl, rfl, rfl, rfl, rfl, ⟨rfl, app⟩, ⟨rfl, fun _ _ => rfl⟩, rfl, rfl, rfl, rfl, rfl, rfl, rfl, rfl, rfl, rfl, ⟨rfl, fun _ _ => rfl⟩, ⟨rfl, fun _ _ => rfl⟩, rfl, rfl, rfl, rfl, rfl, rfl, rfl, ⟨by omega, fun j hj => by
          rcases Nat.lt_succ_iff_lt_or_eq.1 hj with h' | rfl
          · exact hg.2 j h'
          · exact h6⟩, by omega⟩
    · have hb : ¬ (g : Int) < (q.gauges.n : Int) := of_decide_eq_false hge
      obtain rfl : g = q.gauges.n := by omega
      have ha : L.agr (L.rs p s) q = true := by
        unfold L.agr
        rw [hN, allB_iff.2 (fun i hi => hg.2 i (by rw [← hn]; exact hi))]; rfl
      have V : L.unV p q s = L.mg (L.rs p s) q := by unfold L.unV; rw [ha]; rfl
      rw [V, ha]
      refine ⟨rfl, rfl, rfl, rfl, rfl, ⟨rfl, fun _ _ => rfl⟩, ⟨by show 0 + q.marks.n = q.marks.n; omega, fun i hi => ?_⟩, rfl⟩
      unfold appGet
      rw [if_neg (Nat.not_lt_zero _)]; rfl)
theorem r3_united_ok : SpecOk Tryz.prog 112 r3_united_S := fnX Tryz.func112 (c := bodyOf Tryz.f112) (by kernel_rfl) mixed (fun args p r hs hp => by
  unfold r3_united_s at hs
  split at hs
  · cases hs; exact ⟨_, _, r3_united_vc _ _ _ hp.2.2.2.2, (.p (.agg rfl (fun i hi => by
      rcases i with _ | i
      · exact (Ext.refl _ : Ext _ _)
      rcases i with _ | i
      · exact (Ext.refl _ : Ext _ _)
      rcases i with _ | i
      · exact (Ext.refl _ : Ext _ _)
      rcases i with _ | i
      · exact (Ext.refl _ : Ext _ _)
      rcases i with _ | i
      · exact (Ext.refl _ : Ext _ _)
      rcases i with _ | i
      · exact (Ext.sl hp.1 : Ext _ _)
      rcases i with _ | i
      · exact (Ext.sl hp.2.1 : Ext _ _)
      exact absurd hi (by simp; try omega))) (.p (.agg rfl (fun i hi => by
      rcases i with _ | i
      · exact (Ext.refl _ : Ext _ _)
      rcases i with _ | i
      · exact (Ext.refl _ : Ext _ _)
      rcases i with _ | i
      · exact (Ext.refl _ : Ext _ _)
      rcases i with _ | i
      · exact (Ext.refl _ : Ext _ _)
      rcases i with _ | i
      · exact (Ext.refl _ : Ext _ _)
      rcases i with _ | i
      · exact (Ext.sl hp.2.2.1 : Ext _ _)
      rcases i with _ | i
      · exact (Ext.sl hp.2.2.2.1 : Ext _ _)
      exact absurd hi (by simp; try omega))) (.same _ .nil))), ⟨show SpecsL Tryz.prog _ from (SpecsL.cons r3_reset_ok r3_reset_en (SpecsL.cons r3_SameMarks_ok r3_SameMarks_en (SpecsL.cons r3_both_ok r3_both_en SpecsL.nil))), rfl, ⟨show ItersL Tryz.prog _ from ItersL.nil, (TrsOk.none (fun _ => rfl))⟩⟩⟩
  · cases hs)
theorem r3_united_en : Enters Tryz.prog 112 := fun args w => by kernel_rfl
def r3_Agree_p (p : L.Piece) (q : L.Piece) : Prop := p.gauges.n ≤ 1000000 ∧ p.marks.n ≤ 1000000 ∧ q.gauges.n ≤ 1000000 ∧ q.marks.n ≤ 1000000
def r3_Agree_r (p : L.Piece) (q : L.Piece) : SV := .tup [.sl 2 (L.agN p q) (fun k => [.int .i64 ((L.agS p q k).shift), .bool ((L.agS p q k).back)]), .int .i64 (L.agE p q)]
def r3_Agree_s : List EV → Option (Prop × SV)
  | [.p (.agg [.int .i64 p_id, .int .i64 p_colour, .int .i64 p_rev, .int .i64 p_made, .int .i64 p_swell, .sl 5 p_gauges_n p_gauges_g, .sl 3 p_marks_n p_marks_g]), .p (.agg [.int .i64 q_id, .int .i64 q_colour, .int .i64 q_rev, .int .i64 q_made, .int .i64 q_swell, .sl 5 q_gauges_n q_gauges_g, .sl 3 q_marks_n q_marks_g])] => some ((∀ i, i < p_gauges_n → p_gauges_g i = [.int .i64 ((ofGauge (p_gauges_g i)).edge.lo), .int .i64 ((ofGauge (p_gauges_g i)).edge.hi), .int .i64 ((ofGauge (p_gauges_g i)).across.lo), .int .i64 ((ofGauge (p_gauges_g i)).across.hi), .int .i64 ((ofGauge (p_gauges_g i)).bend)]) ∧ (∀ i, i < p_marks_n → p_marks_g i = [.int .i64 ((ofMark (p_marks_g i)).edge), .int .i64 ((ofMark (p_marks_g i)).place), .int .i64 ((ofMark (p_marks_g i)).tone)]) ∧ (∀ i, i < q_gauges_n → q_gauges_g i = [.int .i64 ((ofGauge (q_gauges_g i)).edge.lo), .int .i64 ((ofGauge (q_gauges_g i)).edge.hi), .int .i64 ((ofGauge (q_gauges_g i)).across.lo), .int .i64 ((ofGauge (q_gauges_g i)).across.hi), .int .i64 ((ofGauge (q_gauges_g i)).bend)]) ∧ (∀ i, i < q_marks_n → q_marks_g i = [.int .i64 ((ofMark (q_marks_g i)).edge), .int .i64 ((ofMark (q_marks_g i)).place), .int .i64 ((ofMark (q_marks_g i)).tone)]) ∧ r3_Agree_p (⟨p_id, p_colour, p_rev, p_made, p_swell, (⟨p_gauges_n, fun i => ofGauge (p_gauges_g i)⟩ : (L.Sq L.Gauge)), (⟨p_marks_n, fun i => ofMark (p_marks_g i)⟩ : (L.Sq L.Mark))⟩ : L.Piece) (⟨q_id, q_colour, q_rev, q_made, q_swell, (⟨q_gauges_n, fun i => ofGauge (q_gauges_g i)⟩ : (L.Sq L.Gauge)), (⟨q_marks_n, fun i => ofMark (q_marks_g i)⟩ : (L.Sq L.Mark))⟩ : L.Piece), r3_Agree_r (⟨p_id, p_colour, p_rev, p_made, p_swell, (⟨p_gauges_n, fun i => ofGauge (p_gauges_g i)⟩ : (L.Sq L.Gauge)), (⟨p_marks_n, fun i => ofMark (p_marks_g i)⟩ : (L.Sq L.Mark))⟩ : L.Piece) (⟨q_id, q_colour, q_rev, q_made, q_swell, (⟨q_gauges_n, fun i => ofGauge (q_gauges_g i)⟩ : (L.Sq L.Gauge)), (⟨q_marks_n, fun i => ofMark (q_marks_g i)⟩ : (L.Sq L.Mark))⟩ : L.Piece))
  | _ => none
abbrev r3_Agree_S : SE.Spec := (specO r3_Agree_s)
def r3_Agree_C : Cfg := { muts := [9], frz := lookN [], specs := lookS [(43, r3_ValidPiece_S), (111, r1_All_S), (112, r3_united_S)], loops := fun _ => none, iters := lookI [], rfs := lookR [], nils := lookM [(7, [(6, 53, 27, 2)])] }
theorem r3_Agree_vc (p : L.Piece) (q : L.Piece) (hp : r3_Agree_p p q) : vc Tryz.prog ({ r3_Agree_C with loops := lookL [(8, { T := Nat, keep := [2, 3, 6, 7], keepO := [], chg := fun i => [(8, .p (.int .i64 (i : Int)))], own := fun i => [(53, .row 27 2 (L.cnt (L.agrK p q) i) (fun k => [.int .i64 ((L.sett (L.selN (L.agrK p q) i k)).shift), .bool ((L.sett (L.selN (L.agrK p q) i k)).back)]))], inv := fun i => i ≤ 2 * p.gauges.n, mu := fun i => 2 * p.gauges.n - i })], rfs := lookR [] }) (bodyOf Tryz.f50) (st0 Tryz.f50 [.p (.agg [.int .i64 p.id, .int .i64 p.colour, .int .i64 p.rev, .int .i64 p.made, .int .i64 p.swell, .sl 5 p.gauges.n (fun i => [.int .i64 ((p.gauges.g i).edge.lo), .int .i64 ((p.gauges.g i).edge.hi), .int .i64 ((p.gauges.g i).across.lo), .int .i64 ((p.gauges.g i).across.hi), .int .i64 ((p.gauges.g i).bend)]), .sl 3 p.marks.n (fun i => [.int .i64 ((p.marks.g i).edge), .int .i64 ((p.marks.g i).place), .int .i64 ((p.marks.g i).tone)])]), .p (.agg [.int .i64 q.id, .int .i64 q.colour, .int .i64 q.rev, .int .i64 q.made, .int .i64 q.swell, .sl 5 q.gauges.n (fun i => [.int .i64 ((q.gauges.g i).edge.lo), .int .i64 ((q.gauges.g i).edge.hi), .int .i64 ((q.gauges.g i).across.lo), .int .i64 ((q.gauges.g i).across.hi), .int .i64 ((q.gauges.g i).bend)]), .sl 3 q.marks.n (fun i => [.int .i64 ((q.marks.g i).edge), .int .i64 ((q.marks.g i).place), .int .i64 ((q.marks.g i).tone)])])]) (retFn Tryz.prog Tryz.f50 (r3_Agree_r p q)) :=
  @Eq.mpr _ (((∀ (i : Nat), i < p.gauges.n → (cG (p.gauges.g i)) = (cG (p.gauges.g i))) ∧ (∀ (i : Nat), i < p.marks.n → (cM (p.marks.g i)) = (cM (p.marks.g i))) ∧ p.gauges.n ≤ (9223372036854775807 : Nat) ∧ p.marks.n ≤ (9223372036854775807 : Nat)) ∧ ((!!L.validPiece p) = true → (∀ (i : Nat), i < q.gauges.n → (cG (q.gauges.g i)) = (cG (q.gauges.g i))) ∧ (∀ (i : Nat), i < q.marks.n → (cM (q.marks.g i)) = (cM
 (q.marks.g i))) ∧ q.gauges.n ≤ (9223372036854775807 : Nat) ∧ q.marks.n ≤ (9223372036854775807 : Nat)) ∧ ((bif !L.validPiece p then true else !L.validPiece q) = true → L.agN p q = (0 : Nat) ∧ (30 : Int) = L.agE p q) ∧ ((bif !L.validPiece p then true else !L.validPiece q) = false → ((!decide ((↑p.gauges.n : Int) = (↑q.gauges.n : Int))) = true → L.agN p q = (0 : Nat) ∧ (0 : Int) = L.agE p q) ∧
 ((!decide ((↑p.gauges.n : Int) = (↑q.gauges.n : Int))) = false → ((0 : Int) ≤ (↑p.gauges.n : Int) ∧ (↑p.gauges.n : Int) ≤ (1000 : Int)) ∧ ∀ (t : Nat), True → (∃ (g : Nat), (0 : Int) = (↑g : Int) ∧ (nat_lit 0 = L.cnt (L.agrK p q) g ∧ ∀ (i : Nat), i < nat_lit 0 → [] = [SV.int .i64 (L.sett (L.selN (L.agrK p q) g i)).shift, SV.bool (L.sett (L.selN (L.agrK p q) g i)).back]) ∧ g ≤ (2 : Nat) *
 p.gauges.n) ∧ ∀ (g : Nat), g ≤ (2 : Nat) * p.gauges.n → (decide ((↑g : Int) < (↑(Int.toNat ((2 : Int) * (↑p.gauges.n : Int))) : Int)) = true → ((0 : Int) ≤ (↑g : Int) ∧ (↑g : Int) < (↑(Int.toNat ((2 : Int) * (↑p.gauges.n : Int))) : Int)) ∧ ((∀ (i : Nat), i < p.gauges.n → (cG (p.gauges.g i)) = (cG (p.gauges.g i))) ∧ (∀ (i : Nat), i < p.marks.n → (cM (p.marks.g i)) = (cM (p.marks.g i))) ∧ (∀ (i :
 Nat), i < q.gauges.n → (cG (q.gauges.g i)) = (cG (q.gauges.g i))) ∧ (∀ (i : Nat), i < q.marks.n → (cM (q.marks.g i)) = (cM (q.marks.g i))) ∧ L.validPiece p = true ∧ L.validPiece q = true ∧ L.validSet (L.sett (Int.toNat (↑g : Int))) (↑p.gauges.n : Int) = true ∧ p.gauges.n = q.gauges.n) ∧ (L.agr (L.rs p (L.sett (Int.toNat (↑g : Int)))) q = true → ((0 : Int) ≤ (↑g : Int) ∧ (↑g : Int) < (↑(Int.toNat
 ((2 : Int) * (↑p.gauges.n : Int))) : Int)) ∧ (L.cnt (L.agrK p q) g + nat_lit 1) * nat_lit 16 ≤ (140737488355328 : Nat) ∧ InK .i64 ((↑g : Int) + (1 : Int)) ∧ ∃ (g' : Nat), (↑g : Int) + (1 : Int) = (↑g' : Int) ∧ (Int.toNat ((2 : Int) * (↑p.gauges.n : Int)) = Int.toNat ((2 : Int) * (↑p.gauges.n : Int)) ∧ ∀ (i : Nat), i < Int.toNat ((2 : Int) * (↑p.gauges.n : Int)) → [SV.int .i64 (L.sett i).shift,
 SV.bool (L.sett i).back] = [SV.int .i64 (L.sett i).shift, SV.bool (L.sett i).back]) ∧ SV.ref [SV.int .i64 q.id, SV.int .i64 q.colour, SV.int .i64 q.rev, SV.int .i64 q.made, SV.int .i64 q.swell, SV.sl (nat_lit 5) q.gauges.n fun (i : Nat) ↦ (cG (q.gauges.g i)), SV.sl (nat_lit 3) q.marks.n fun (i : Nat) ↦ (cM (q.marks.g i))] (nat_lit 0) = SV.ref [SV.int .i64 q.id, SV.int .i64 q.colour, SV.int .i64
 q.rev, SV.int .i64 q.made, SV.int .i64 q.swell, SV.sl (nat_lit 5) q.gauges.n fun (i : Nat) ↦ (cG (q.gauges.g i)), SV.sl (nat_lit 3) q.marks.n fun (i : Nat) ↦ (cM (q.marks.g i))] (nat_lit 0) ∧ SV.ref [SV.int .i64 p.id, SV.int .i64 p.colour, SV.int .i64 p.rev, SV.int .i64 p.made, SV.int .i64 p.swell, SV.sl (nat_lit 5) p.gauges.n fun (i : Nat) ↦ (cG (p.gauges.g i)), SV.sl (nat_lit 3) p.marks.n fun (i
 : Nat) ↦ (cM (p.marks.g i))] (nat_lit 0) = SV.ref [SV.int .i64 p.id, SV.int .i64 p.colour, SV.int .i64 p.rev, SV.int .i64 p.made, SV.int .i64 p.swell, SV.sl (nat_lit 5) p.gauges.n fun (i : Nat) ↦ (cG (p.gauges.g i)), SV.sl (nat_lit 3) p.marks.n fun (i : Nat) ↦ (cM (p.marks.g i))] (nat_lit 0) ∧ (L.cnt (L.agrK p q) g + nat_lit 1 = L.cnt (L.agrK p q) g' ∧ ∀ (i : Nat), i < L.cnt (L.agrK p q) g +
 nat_lit 1 → appGet (L.cnt (L.agrK p q) g) (fun (k : Nat) ↦ [SV.int .i64 (L.sett (L.selN (L.agrK p q) g k)).shift, SV.bool (L.sett (L.selN (L.agrK p q) g k)).back]) (fun (x : Nat) ↦ [SV.int .i64 (L.sett (Int.toNat (↑g : Int))).shift, SV.bool (L.sett (Int.toNat (↑g : Int))).back]) i = [SV.int .i64 (L.sett (L.selN (L.agrK p q) g' i)).shift, SV.bool (L.sett (L.selN (L.agrK p q) g' i)).back]) ∧ g' ≤ (2
 : Nat) * p.gauges.n ∧ (2 : Nat) * p.gauges.n - g' < (2 : Nat) * p.gauges.n - g) ∧ (L.agr (L.rs p (L.sett (Int.toNat (↑g : Int)))) q = false → InK .i64 ((↑g : Int) + (1 : Int)) ∧ ∃ (g' : Nat), (↑g : Int) + (1 : Int) = (↑g' : Int) ∧ (Int.toNat ((2 : Int) * (↑p.gauges.n : Int)) = Int.toNat ((2 : Int) * (↑p.gauges.n : Int)) ∧ ∀ (i : Nat), i < Int.toNat ((2 : Int) * (↑p.gauges.n : Int)) → [SV.int .i64
 (L.sett i).shift, SV.bool (L.sett i).back] = [SV.int .i64 (L.sett i).shift, SV.bool (L.sett i).back]) ∧ SV.ref [SV.int .i64 q.id, SV.int .i64 q.colour, SV.int .i64 q.rev, SV.int .i64 q.made, SV.int .i64 q.swell, SV.sl (nat_lit 5) q.gauges.n fun (i : Nat) ↦ (cG (q.gauges.g i)), SV.sl (nat_lit 3) q.marks.n fun (i : Nat) ↦ (cM (q.marks.g i))] (nat_lit 0) = SV.ref [SV.int .i64 q.id, SV.int .i64
 q.colour, SV.int .i64 q.rev, SV.int .i64 q.made, SV.int .i64 q.swell, SV.sl (nat_lit 5) q.gauges.n fun (i : Nat) ↦ (cG (q.gauges.g i)), SV.sl (nat_lit 3) q.marks.n fun (i : Nat) ↦ (cM (q.marks.g i))] (nat_lit 0) ∧ SV.ref [SV.int .i64 p.id, SV.int .i64 p.colour, SV.int .i64 p.rev, SV.int .i64 p.made, SV.int .i64 p.swell, SV.sl (nat_lit 5) p.gauges.n fun (i : Nat) ↦ (cG (p.gauges.g i)), SV.sl
 (nat_lit 3) p.marks.n fun (i : Nat) ↦ (cM (p.marks.g i))] (nat_lit 0) = SV.ref [SV.int .i64 p.id, SV.int .i64 p.colour, SV.int .i64 p.rev, SV.int .i64 p.made, SV.int .i64 p.swell, SV.sl (nat_lit 5) p.gauges.n fun (i : Nat) ↦ (cG (p.gauges.g i)), SV.sl (nat_lit 3) p.marks.n fun (i : Nat) ↦ (cM (p.marks.g i))] (nat_lit 0) ∧ (L.cnt (L.agrK p q) g = L.cnt (L.agrK p q) g' ∧ ∀ (i : Nat), i < L.cnt
 (L.agrK p q) g → [SV.int .i64 (L.sett (L.selN (L.agrK p q) g i)).shift, SV.bool (L.sett (L.selN (L.agrK p q) g i)).back] = [SV.int .i64 (L.sett (L.selN (L.agrK p q) g' i)).shift, SV.bool (L.sett (L.selN (L.agrK p q) g' i)).back]) ∧ g' ≤ (2 : Nat) * p.gauges.n ∧ (2 : Nat) * p.gauges.n - g' < (2 : Nat) * p.gauges.n - g)) ∧ (decide ((↑g : Int) < (↑(Int.toNat ((2 : Int) * (↑p.gauges.n : Int))) : Int))
 = false → (L.cnt (L.agrK p q) g = L.agN p q ∧ ∀ (i : Nat), i < L.cnt (L.agrK p q) g → [SV.int .i64 (L.sett (L.selN (L.agrK p q) g i)).shift, SV.bool (L.sett (L.selN (L.agrK p q) g i)).back] = [SV.int .i64 (L.agS p q i).shift, SV.bool (L.agS p q i).back]) ∧ (0 : Int) = L.agE p q)))) (by kernel_rfl) (by
    obtain ⟨h1, h2, h3, h4⟩ := hp
    refine ⟨⟨fun _ _ => rfl, fun _ _ => rfl, by omega, by omega⟩, fun _ => ⟨fun _ _ => rfl, fun _ _ => rfl, by omega, by omega⟩, fun h => ?_, fun h => ⟨fun k => ?_, fun k => ?_⟩⟩
    · have e : L.agE p q = 30 := by unfold L.agE; rw [h]; rfl
      unfold L.agN; rw [e]; exact ⟨rfl, rfl⟩
    · have e : L.agE p q = 0 := by unfold L.agE; rw [h]; rfl
      refine ⟨?_, e.symm⟩
      have hne : ¬ (p.gauges.n : Int) = q.gauges.n := of_decide_eq_false (notT k)
      have hz : ∀ c, c ≤ 2 * p.gauges.n → L.cnt (L.agrK p q) c = 0 := by
        intro c
        induction c with
        | zero => intro _; rfl
        | succ c ih =>
          intro hc
          have hf : L.agrK p q c = false := by
            cases hx : L.agrK p q c with
            | false => rfl
            | true =>
              have := agr_n (r := L.rs p (L.sett c)) (q := q) hx
              have : p.gauges.n = q.gauges.n := this
              omega
          rw [cnt_not hf]; exact ih (by omega)
      unfold L.agN; rw [e]
      exact hz _ (Nat.le_refl _)
    have e : L.agE p q = 0 := by unfold L.agE; rw [h]; rfl
    rw [bor, Bool.or_eq_false_iff] at h
    have hv : L.validPiece p = true := notF h.1
    have hq : L.validPiece q = true := notF h.2
    have hn : p.gauges.n = q.gauges.n := by have := of_decide_eq_true (notF k); omega
    have hgn := gauges_n (piece_of hv).2.1
    have et : (2 * (p.gauges.n : Int)).toNat = 2 * p.gauges.n := by omega
    have hN : L.agN p q = L.cnt (L.agrK p q) (2 * p.gauges.n) := by unfold L.agN; rw [e]; rfl
    rw [et]
    refine ⟨⟨by omega, by omega⟩, fun t _ => ⟨⟨(0 : Nat), rfl, ⟨rfl, fun i hi => absurd hi (Nat.not_lt_zero _)⟩, Nat.zero_le _⟩, fun g hg => ⟨fun hlt => ?_, fun hge => ?_⟩⟩⟩
    · have hb : (g : Int) < ((2 * p.gauges.n : Nat) : Int) := of_decide_eq_true hlt
      have hs := sett_lt (k := g) (n := p.gauges.n) (by omega)
      have hsv : L.validSet (L.sett g) p.gauges.n = true := validSet_iff.2 ⟨⟨by omega, by omega⟩, hs.1, hs.2⟩
      have hcl : L.cnt (L.agrK p q) g ≤ g := cnt_le
      rw [Int.toNat_natCast]
      refine ⟨⟨by omega, hb⟩, ⟨fun _ _ => rfl, fun _ _ => rfl, fun _ _ => rfl, fun _ _ => rfl, hv, hq, hsv, hn⟩, fun hc => ?_, fun hc => ?_⟩
      · have hk : L.agrK p q g = true := hc
        refine ⟨⟨by omega, hb⟩, show (L.cnt (L.agrK p q) g + 1) * 16 ≤ 140737488355328 by omega, InK.of (by omega) (by omega), g + 1, by omega, ⟨rfl, fun _ _ => rfl⟩, rfl, rfl, ⟨(cnt_yes hk).symm, fun i hi => ?_⟩, by omega, by omega⟩
        have hi : i < L.cnt (L.agrK p q) g + 1 := hi
        unfold appGet
        by_cases h' : i < L.cnt (L.agrK p q) g
        · rw [if_pos h', selN_old (Nat.ne_of_lt h')]
        · rw [if_neg h']
          obtain rfl : i = L.cnt (L.agrK p q) g := by omega
          rw [selN_new hk]
      · have hk : L.agrK p q g = false := hc
        refine ⟨InK.of (by omega) (by omega), g + 1, by omega, ⟨rfl, fun _ _ => rfl⟩, rfl, rfl, ⟨(cnt_not hk).symm, fun i hi => ?_⟩, by omega, by omega⟩
        rw [selN_not hk]
    · have hb : ¬ (g : Int) < ((2 * p.gauges.n : Nat) : Int) := of_decide_eq_false hge
      obtain rfl : g = 2 * p.gauges.n := by omega
      exact ⟨⟨hN.symm, fun _ _ => rfl⟩, e.symm⟩)
theorem r3_Agree_ok : SpecOk Tryz.prog 50 r3_Agree_S := fnX Tryz.func50 (c := bodyOf Tryz.f50) (by kernel_rfl) mixed (fun args p r hs hp => by
  unfold r3_Agree_s at hs
  split at hs
  · cases hs; exact ⟨_, _, r3_Agree_vc _ _ hp.2.2.2.2, (.p (.agg rfl (fun i hi => by
      rcases i with _ | i
      · exact (Ext.refl _ : Ext _ _)
      rcases i with _ | i
      · exact (Ext.refl _ : Ext _ _)
      rcases i with _ | i
      · exact (Ext.refl _ : Ext _ _)
      rcases i with _ | i
      · exact (Ext.refl _ : Ext _ _)
      rcases i with _ | i
      · exact (Ext.refl _ : Ext _ _)
      rcases i with _ | i
      · exact (Ext.sl hp.1 : Ext _ _)
      rcases i with _ | i
      · exact (Ext.sl hp.2.1 : Ext _ _)
      exact absurd hi (by simp; try omega))) (.p (.agg rfl (fun i hi => by
      rcases i with _ | i
      · exact (Ext.refl _ : Ext _ _)
      rcases i with _ | i
      · exact (Ext.refl _ : Ext _ _)
      rcases i with _ | i
      · exact (Ext.refl _ : Ext _ _)
      rcases i with _ | i
      · exact (Ext.refl _ : Ext _ _)
      rcases i with _ | i
      · exact (Ext.refl _ : Ext _ _)
      rcases i with _ | i
      · exact (Ext.sl hp.2.2.1 : Ext _ _)
      rcases i with _ | i
      · exact (Ext.sl hp.2.2.2.1 : Ext _ _)
      exact absurd hi (by simp; try omega))) .nil)), ⟨show SpecsL Tryz.prog _ from (SpecsL.cons r3_ValidPiece_ok r3_ValidPiece_en (SpecsL.cons r1_All_ok r1_All_en (SpecsL.cons r3_united_ok r3_united_en SpecsL.nil))), rfl, ⟨show ItersL Tryz.prog _ from ItersL.nil, (TrsOk.none (fun _ => rfl))⟩⟩⟩
  · cases hs)
theorem r3_Agree_en : Enters Tryz.prog 50 := fun args w => by kernel_rfl
def r3_Merge_p (p : L.Piece) (q : L.Piece) (s : L.Setting) : Prop := p.gauges.n ≤ 1000000 ∧ p.marks.n ≤ 1000000 ∧ q.gauges.n ≤ 1000000 ∧ q.marks.n ≤ 1000000
def r3_Merge_r (p : L.Piece) (q : L.Piece) (s : L.Setting) : SV := .tup [(.agg [.int .i64 ((L.mgV p q s).id), .int .i64 ((L.mgV p q s).colour), .int .i64 ((L.mgV p q s).rev), .int .i64 ((L.mgV p q s).made), .int .i64 ((L.mgV p q s).swell), .sl 5 (L.mgV p q s).gauges.n (fun i => [.int .i64 (((L.mgV p q s).gauges.g i).edge.lo), .int .i64 (((L.mgV p q s).gauges.g i).edge.hi), .int .i64 (((L.mgV p q s).gauges.g i).across.lo), .int .i64 (((L.mgV p q s).gauges.g i).across.hi), .int .i64 (((L.mgV p q s).gauges.g i).bend)]), .sl 3 (L.mgV p q s).marks.n (fun i => [.int .i64 (((L.mgV p q s).marks.g i).edge), .int .i64 (((L.mgV p q s).marks.g i).place), .int .i64 (((L.mgV p q s).marks.g i).tone)])]), .int .i64 (L.mgE p q s)]
def r3_Merge_s : List EV → Option (Prop × SV)
  | [.p (.agg [.int .i64 p_id, .int .i64 p_colour, .int .i64 p_rev, .int .i64 p_made, .int .i64 p_swell, .sl 5 p_gauges_n p_gauges_g, .sl 3 p_marks_n p_marks_g]), .p (.agg [.int .i64 q_id, .int .i64 q_colour, .int .i64 q_rev, .int .i64 q_made, .int .i64 q_swell, .sl 5 q_gauges_n q_gauges_g, .sl 3 q_marks_n q_marks_g]), .p (.agg [.int .i64 s_shift, .bool s_back])] => some ((∀ i, i < p_gauges_n → p_gauges_g i = [.int .i64 ((ofGauge (p_gauges_g i)).edge.lo), .int .i64 ((ofGauge (p_gauges_g i)).edge.hi), .int .i64 ((ofGauge (p_gauges_g i)).across.lo), .int .i64 ((ofGauge (p_gauges_g i)).across.hi), .int .i64 ((ofGauge (p_gauges_g i)).bend)]) ∧ (∀ i, i < p_marks_n → p_marks_g i = [.int .i64 ((ofMark (p_marks_g i)).edge), .int .i64 ((ofMark (p_marks_g i)).place), .int .i64 ((ofMark (p_marks_g i)).tone)]) ∧ (∀ i, i < q_gauges_n → q_gauges_g i = [.int .i64 ((ofGauge (q_gauges_g i)).edge.lo), .int .i64 ((ofGauge (q_gauges_g i)).edge.hi), .int .i64 ((ofGauge (q_gauges_g i)).across.lo), .int .i64 ((ofGauge (q_gauges_g i)).across.hi), .int .i64 ((ofGauge (q_gauges_g i)).bend)]) ∧ (∀ i, i < q_marks_n → q_marks_g i = [.int .i64 ((ofMark (q_marks_g i)).edge), .int .i64 ((ofMark (q_marks_g i)).place), .int .i64 ((ofMark (q_marks_g i)).tone)]) ∧ r3_Merge_p (⟨p_id, p_colour, p_rev, p_made, p_swell, (⟨p_gauges_n, fun i => ofGauge (p_gauges_g i)⟩ : (L.Sq L.Gauge)), (⟨p_marks_n, fun i => ofMark (p_marks_g i)⟩ : (L.Sq L.Mark))⟩ : L.Piece) (⟨q_id, q_colour, q_rev, q_made, q_swell, (⟨q_gauges_n, fun i => ofGauge (q_gauges_g i)⟩ : (L.Sq L.Gauge)), (⟨q_marks_n, fun i => ofMark (q_marks_g i)⟩ : (L.Sq L.Mark))⟩ : L.Piece) (⟨s_shift, s_back⟩ : L.Setting), r3_Merge_r (⟨p_id, p_colour, p_rev, p_made, p_swell, (⟨p_gauges_n, fun i => ofGauge (p_gauges_g i)⟩ : (L.Sq L.Gauge)), (⟨p_marks_n, fun i => ofMark (p_marks_g i)⟩ : (L.Sq L.Mark))⟩ : L.Piece) (⟨q_id, q_colour, q_rev, q_made, q_swell, (⟨q_gauges_n, fun i => ofGauge (q_gauges_g i)⟩ : (L.Sq L.Gauge)), (⟨q_marks_n, fun i => ofMark (q_marks_g i)⟩ : (L.Sq L.Mark))⟩ : L.Piece) (⟨s_shift, s_back⟩ : L.Setting))
  | _ => none
abbrev r3_Merge_S : SE.Spec := (specO r3_Merge_s)
def r3_Merge_C : Cfg := { muts := [6, 8], frz := lookN [], specs := lookS [(43, r3_ValidPiece_S), (44, r1_ValidSetting_S), (112, r3_united_S)], loops := lookL [], iters := lookI [], rfs := lookR [], nils := lookM [] }
theorem r3_Merge_vc (p : L.Piece) (q : L.Piece) (s : L.Setting) (hp : r3_Merge_p p q s) : vc Tryz.prog (r3_Merge_C) (bodyOf Tryz.f52) (st0 Tryz.f52 [.p (.agg [.int .i64 p.id, .int .i64 p.colour, .int .i64 p.rev, .int .i64 p.made, .int .i64 p.swell, .sl 5 p.gauges.n (fun i => [.int .i64 ((p.gauges.g i).edge.lo), .int .i64 ((p.gauges.g i).edge.hi), .int .i64 ((p.gauges.g i).across.lo), .int .i64 ((p.gauges.g i).across.hi), .int .i64 ((p.gauges.g i).bend)]), .sl 3 p.marks.n (fun i => [.int .i64 ((p.marks.g i).edge), .int .i64 ((p.marks.g i).place), .int .i64 ((p.marks.g i).tone)])]), .p (.agg [.int .i64 q.id, .int .i64 q.colour, .int .i64 q.rev, .int .i64 q.made, .int .i64 q.swell, .sl 5 q.gauges.n (fun i => [.int .i64 ((q.gauges.g i).edge.lo), .int .i64 ((q.gauges.g i).edge.hi), .int .i64 ((q.gauges.g i).across.lo), .int .i64 ((q.gauges.g i).across.hi), .int .i64 ((q.gauges.g i).bend)]), .sl 3 q.marks.n (fun i => [.int .i64 ((q.marks.g i).edge), .int .i64 ((q.marks.g i).place), .int .i64 ((q.marks.g i).tone)])]), .p (.agg [.int .i64 s.shift, .bool s.back])]) (retFn Tryz.prog Tryz.f52 (r3_Merge_r p q s)) :=
  @Eq.mpr _ (((∀ (i : Nat), i < p.gauges.n → (cG (p.gauges.g i)) = (cG (p.gauges.g i))) ∧ (∀ (i : Nat), i < p.marks.n → (cM (p.marks.g i)) = (cM (p.marks.g i))) ∧ p.gauges.n ≤ (9223372036854775807 : Nat) ∧ p.marks.n ≤ (9223372036854775807 : Nat)) ∧ ((!!L.validPiece p) = true → (∀ (i : Nat), i < q.gauges.n → (cG (q.gauges.g i)) = (cG (q.gauges.g i))) ∧ (∀ (i : Nat), i < q.marks.n → (cM (q.marks.g i)) = (cM
 (q.marks.g i))) ∧ q.gauges.n ≤ (9223372036854775807 : Nat) ∧ q.marks.n ≤ (9223372036854775807 : Nat)) ∧ ((bif !L.validPiece p then true else !L.validPiece q) = true → (0 : Int) = (L.mgV p q s).id ∧ (0 : Int) = (L.mgV p q s).colour ∧ (0 : Int) = (L.mgV p q s).rev ∧ (0 : Int) = (L.mgV p q s).made ∧ (0 : Int) = (L.mgV p q s).swell ∧ (L.mgV p q s).gauges.n = (0 : Nat) ∧ (L.mgV p q s).marks.n = (0 :
 Nat) ∧ (30 : Int) = L.mgE p q s) ∧ ((bif !L.validPiece p then true else !L.validPiece q) = false → True ∧ ((!L.validSet s (↑p.gauges.n : Int)) = true → (0 : Int) = (L.mgV p q s).id ∧ (0 : Int) = (L.mgV p q s).colour ∧ (0 : Int) = (L.mgV p q s).rev ∧ (0 : Int) = (L.mgV p q s).made ∧ (0 : Int) = (L.mgV p q s).swell ∧ (L.mgV p q s).gauges.n = (0 : Nat) ∧ (L.mgV p q s).marks.n = (0 : Nat) ∧ (1 : Int)
 = L.mgE p q s) ∧ ((!L.validSet s (↑p.gauges.n : Int)) = false → ((!decide ((↑p.gauges.n : Int) = (↑q.gauges.n : Int))) = true → (0 : Int) = (L.mgV p q s).id ∧ (0 : Int) = (L.mgV p q s).colour ∧ (0 : Int) = (L.mgV p q s).rev ∧ (0 : Int) = (L.mgV p q s).made ∧ (0 : Int) = (L.mgV p q s).swell ∧ (L.mgV p q s).gauges.n = (0 : Nat) ∧ (L.mgV p q s).marks.n = (0 : Nat) ∧ (31 : Int) = L.mgE p q s) ∧
 ((!decide ((↑p.gauges.n : Int) = (↑q.gauges.n : Int))) = false → ((∀ (i : Nat), i < p.gauges.n → (cG (p.gauges.g i)) = (cG (p.gauges.g i))) ∧ (∀ (i : Nat), i < p.marks.n → (cM (p.marks.g i)) = (cM (p.marks.g i))) ∧ (∀ (i : Nat), i < q.gauges.n → (cG (q.gauges.g i)) = (cG (q.gauges.g i))) ∧ (∀ (i : Nat), i < q.marks.n → (cM (q.marks.g i)) = (cM (q.marks.g i))) ∧ L.validPiece p = true ∧ L.validPiece
 q = true ∧ L.validSet s (↑p.gauges.n : Int) = true ∧ p.gauges.n = q.gauges.n) ∧ ((!L.agr (L.rs p s) q) = true → (0 : Int) = (L.mgV p q s).id ∧ (0 : Int) = (L.mgV p q s).colour ∧ (0 : Int) = (L.mgV p q s).rev ∧ (0 : Int) = (L.mgV p q s).made ∧ (0 : Int) = (L.mgV p q s).swell ∧ (L.mgV p q s).gauges.n = (0 : Nat) ∧ (L.mgV p q s).marks.n = (0 : Nat) ∧ (31 : Int) = L.mgE p q s) ∧ ((!L.agr (L.rs p s) q)
 = false → (L.unV p q s).id = (L.mgV p q s).id ∧ (L.unV p q s).colour = (L.mgV p q s).colour ∧ (L.unV p q s).rev = (L.mgV p q s).rev ∧ (L.unV p q s).made = (L.mgV p q s).made ∧ (L.unV p q s).swell = (L.mgV p q s).swell ∧ ((L.unV p q s).gauges.n = (L.mgV p q s).gauges.n ∧ ∀ (i : Nat), i < (L.unV p q s).gauges.n → (cG ((L.unV p q s).gauges.g i)) = (cG ((L.mgV p q s).gauges.g i))) ∧ ((L.unV p q
 s).marks.n = (L.mgV p q s).marks.n ∧ ∀ (i : Nat), i < (L.unV p q s).marks.n → (cM ((L.unV p q s).marks.g i)) = (cM ((L.mgV p q s).marks.g i))) ∧ (0 : Int) = L.mgE p q s))))) (by kernel_rfl) (by
    obtain ⟨h1, h2, h3, h4⟩ := hp
    have zero : ∀ e : Int, e ≠ 0 → L.mgE p q s = e → (0 = (L.mgV p q s).id ∧ 0 = (L.mgV p q s).colour ∧ 0 = (L.mgV p q s).rev ∧ 0 = (L.mgV p q s).made ∧ 0 = (L.mgV p q s).swell ∧ (L.mgV p q s).gauges.n = 0 ∧ (L.mgV p q s).marks.n = 0 ∧ e = L.mgE p q s) := fun e he h => by
      have V : L.mgV p q s = L.zeroP := by unfold L.mgV; rw [h, decide_eq_false he]; rfl
      rw [V]; exact ⟨rfl, rfl, rfl, rfl, rfl, rfl, rfl, h.symm⟩
    refine ⟨⟨fun _ _ => rfl, fun _ _ => rfl, by omega, by omega⟩, fun _ => ⟨fun _ _ => rfl, fun _ _ => rfl, by omega, by omega⟩, fun h => zero 30 (by decide) ?_, fun h => ?_⟩
    · unfold L.mgE
      cases hq : L.validPiece q with
      | false => rfl
      | true =>
        rw [hq, bor, Bool.or_eq_true] at h
        rcases h with h | h
        · have hw : L.wrE p s = 30 := by unfold L.wrE; rw [h]; rfl
          rw [hw]; rfl
        · cases h
    rw [bor, Bool.or_eq_false_iff] at h
    have hv : L.validPiece p = true := notF h.1
    have hq : L.validPiece q = true := notF h.2
    have hM : L.mgE p q s = bif !decide (L.wrE p s = 0) then L.wrE p s else bif !L.agr (L.rs p s) q then 31 else 0 := by unfold L.mgE; rw [hq]; rfl
    refine ⟨trivial, fun k => zero 1 (by decide) ?_, fun k => ?_⟩
    · have hw : L.wrE p s = 1 := by unfold L.wrE; rw [hv, k]; rfl
      rw [hM, hw]; rfl
    have hs := notF k
    have hw : L.wrE p s = 0 := (wrE_of hv hs).1
    refine ⟨fun m => zero 31 (by decide) ?_, fun m => ?_⟩
    · have hne : ¬ (p.gauges.n : Int) = q.gauges.n := of_decide_eq_false (notT m)
      have hf : L.agr (L.rs p s) q = false := by
        cases hx : L.agr (L.rs p s) q with
        | false => rfl
        | true =>
          have : p.gauges.n = q.gauges.n := agr_n (r := L.rs p s) (q := q) hx
          omega
      rw [hM, hw, hf]; rfl
    have hn : p.gauges.n = q.gauges.n := by have := of_decide_eq_true (notF m); omega
    refine ⟨⟨fun _ _ => rfl, fun _ _ => rfl, fun _ _ => rfl, fun _ _ => rfl, hv, hq, hs, hn⟩, fun hc => zero 31 (by decide) ?_, fun hc => ?_⟩
    · rw [hM, hw, notT hc]; rfl
    · have e0 : L.mgE p q s = 0 := by rw [hM, hw, notF hc]; rfl
      have V : L.mgV p q s = L.mg (L.rs p s) q := by unfold L.mgV; rw [e0]; rfl
      have U : L.unV p q s = L.mg (L.rs p s) q := by unfold L.unV; rw [notF hc]; rfl
      rw [V, U]
      exact ⟨rfl, rfl, rfl, rfl, rfl, ⟨rfl, fun _ _ => rfl⟩, ⟨rfl, fun _ _ => rfl⟩, e0.symm⟩)
theorem r3_Merge_ok : SpecOk Tryz.prog 52 r3_Merge_S := fnX Tryz.func52 (c := bodyOf Tryz.f52) (by kernel_rfl) mixed (fun args p r hs hp => by
  unfold r3_Merge_s at hs
  split at hs
  · cases hs; exact ⟨_, _, r3_Merge_vc _ _ _ hp.2.2.2.2, (.p (.agg rfl (fun i hi => by
      rcases i with _ | i
      · exact (Ext.refl _ : Ext _ _)
      rcases i with _ | i
      · exact (Ext.refl _ : Ext _ _)
      rcases i with _ | i
      · exact (Ext.refl _ : Ext _ _)
      rcases i with _ | i
      · exact (Ext.refl _ : Ext _ _)
      rcases i with _ | i
      · exact (Ext.refl _ : Ext _ _)
      rcases i with _ | i
      · exact (Ext.sl hp.1 : Ext _ _)
      rcases i with _ | i
      · exact (Ext.sl hp.2.1 : Ext _ _)
      exact absurd hi (by simp; try omega))) (.p (.agg rfl (fun i hi => by
      rcases i with _ | i
      · exact (Ext.refl _ : Ext _ _)
      rcases i with _ | i
      · exact (Ext.refl _ : Ext _ _)
      rcases i with _ | i
      · exact (Ext.refl _ : Ext _ _)
      rcases i with _ | i
      · exact (Ext.refl _ : Ext _ _)
      rcases i with _ | i
      · exact (Ext.refl _ : Ext _ _)
      rcases i with _ | i
      · exact (Ext.sl hp.2.2.1 : Ext _ _)
      rcases i with _ | i
      · exact (Ext.sl hp.2.2.2.1 : Ext _ _)
      exact absurd hi (by simp; try omega))) (.same _ .nil))), ⟨show SpecsL Tryz.prog _ from (SpecsL.cons r3_ValidPiece_ok r3_ValidPiece_en (SpecsL.cons r1_ValidSetting_ok r1_ValidSetting_en (SpecsL.cons r3_united_ok r3_united_en SpecsL.nil))), rfl, ⟨show ItersL Tryz.prog _ from ItersL.nil, (TrsOk.none (fun _ => rfl))⟩⟩⟩
  · cases hs)
theorem r3_Merge_en : Enters Tryz.prog 52 := fun args w => by kernel_rfl
end Go.Proofs.YtooapgllahonaaaGreat

namespace Go.Proofs.YtooapgllahonaaaGreat
open Go.SE Go.RowKit
set_option maxRecDepth 100000
set_option maxHeartbeats 4000000
set_option linter.unusedVariables false
attribute [local irreducible] vc

theorem agN_le (p q : L.Piece) : L.agN p q ≤ 2 * p.gauges.n := by
  unfold L.agN
  have := cnt_le (p := L.agrK p q) (n := 2 * p.gauges.n)
  cases decide (L.agE p q = 0)
  · exact Nat.zero_le _
  · exact this
theorem mgV_le (p q : L.Piece) (s : L.Setting) : (L.mgV p q s).gauges.n ≤ q.gauges.n ∧ (L.mgV p q s).marks.n ≤ q.marks.n := by
  unfold L.mgV
  cases decide (L.mgE p q s = 0)
  · exact ⟨Nat.zero_le _, Nat.zero_le _⟩
  · exact ⟨Nat.le_refl _, Nat.le_refl _⟩
def w_Merges_p (p : L.Piece) (q : L.Piece) (s : L.Setting) : Prop := p.gauges.n ≤ 9223372036854775807 ∧ p.marks.n ≤ 9223372036854775807 ∧ q.gauges.n ≤ 9223372036854775807 ∧ q.marks.n ≤ 9223372036854775807
def w_Merges_r (p : L.Piece) (q : L.Piece) (s : L.Setting) : SV := .bool true
def w_Merges_s : List EV → Option (Prop × SV)
  | [.p (.agg [.int .i64 p_id, .int .i64 p_colour, .int .i64 p_rev, .int .i64 p_made, .int .i64 p_swell, .sl 5 p_gauges_n p_gauges_g, .sl 3 p_marks_n p_marks_g]), .p (.agg [.int .i64 q_id, .int .i64 q_colour, .int .i64 q_rev, .int .i64 q_made, .int .i64 q_swell, .sl 5 q_gauges_n q_gauges_g, .sl 3 q_marks_n q_marks_g]), .p (.agg [.int .i64 s_shift, .bool s_back])] => some ((∀ i, i < p_gauges_n → p_gauges_g i = [.int .i64 ((ofGauge (p_gauges_g i)).edge.lo), .int .i64 ((ofGauge (p_gauges_g i)).edge.hi), .int .i64 ((ofGauge (p_gauges_g i)).across.lo), .int .i64 ((ofGauge (p_gauges_g i)).across.hi), .int .i64 ((ofGauge (p_gauges_g i)).bend)]) ∧ (∀ i, i < p_marks_n → p_marks_g i = [.int .i64 ((ofMark (p_marks_g i)).edge), .int .i64 ((ofMark (p_marks_g i)).place), .int .i64 ((ofMark (p_marks_g i)).tone)]) ∧ (∀ i, i < q_gauges_n → q_gauges_g i = [.int .i64 ((ofGauge (q_gauges_g i)).edge.lo), .int .i64 ((ofGauge (q_gauges_g i)).edge.hi), .int .i64 ((ofGauge (q_gauges_g i)).across.lo), .int .i64 ((ofGauge (q_gauges_g i)).across.hi), .int .i64 ((ofGauge (q_gauges_g i)).bend)]) ∧ (∀ i, i < q_marks_n → q_marks_g i = [.int .i64 ((ofMark (q_marks_g i)).edge), .int .i64 ((ofMark (q_marks_g i)).place), .int .i64 ((ofMark (q_marks_g i)).tone)]) ∧ w_Merges_p (⟨p_id, p_colour, p_rev, p_made, p_swell, (⟨p_gauges_n, fun i => ofGauge (p_gauges_g i)⟩ : (L.Sq L.Gauge)), (⟨p_marks_n, fun i => ofMark (p_marks_g i)⟩ : (L.Sq L.Mark))⟩ : L.Piece) (⟨q_id, q_colour, q_rev, q_made, q_swell, (⟨q_gauges_n, fun i => ofGauge (q_gauges_g i)⟩ : (L.Sq L.Gauge)), (⟨q_marks_n, fun i => ofMark (q_marks_g i)⟩ : (L.Sq L.Mark))⟩ : L.Piece) (⟨s_shift, s_back⟩ : L.Setting), w_Merges_r (⟨p_id, p_colour, p_rev, p_made, p_swell, (⟨p_gauges_n, fun i => ofGauge (p_gauges_g i)⟩ : (L.Sq L.Gauge)), (⟨p_marks_n, fun i => ofMark (p_marks_g i)⟩ : (L.Sq L.Mark))⟩ : L.Piece) (⟨q_id, q_colour, q_rev, q_made, q_swell, (⟨q_gauges_n, fun i => ofGauge (q_gauges_g i)⟩ : (L.Sq L.Gauge)), (⟨q_marks_n, fun i => ofMark (q_marks_g i)⟩ : (L.Sq L.Mark))⟩ : L.Piece) (⟨s_shift, s_back⟩ : L.Setting))
  | _ => none
abbrev w_Merges_S : SE.Spec := (specO w_Merges_s)
def w_Merges_C : Cfg := { muts := [9, 11, 13, 15], frz := lookN [], specs := lookS [(10, w_awake_S), (11, w_few_S), (49, g_Agree_S), (50, r3_Agree_S), (51, g_Merge_S), (52, r3_Merge_S), (53, r1_SameSettings_S), (18, r3_SamePiece_S)], loops := lookL [], iters := lookI [], rfs := lookR [], nils := lookM [] }
theorem w_Merges_vc (p : L.Piece) (q : L.Piece) (s : L.Setting) (hp : w_Merges_p p q s) : vc Tryz.prog (w_Merges_C) (bodyOf Tryz.f7) (st0 Tryz.f7 [.p (.agg [.int .i64 p.id, .int .i64 p.colour, .int .i64 p.rev, .int .i64 p.made, .int .i64 p.swell, .sl 5 p.gauges.n (fun i => [.int .i64 ((p.gauges.g i).edge.lo), .int .i64 ((p.gauges.g i).edge.hi), .int .i64 ((p.gauges.g i).across.lo), .int .i64 ((p.gauges.g i).across.hi), .int .i64 ((p.gauges.g i).bend)]), .sl 3 p.marks.n (fun i => [.int .i64 ((p.marks.g i).edge), .int .i64 ((p.marks.g i).place), .int .i64 ((p.marks.g i).tone)])]), .p (.agg [.int .i64 q.id, .int .i64 q.colour, .int .i64 q.rev, .int .i64 q.made, .int .i64 q.swell, .sl 5 q.gauges.n (fun i => [.int .i64 ((q.gauges.g i).edge.lo), .int .i64 ((q.gauges.g i).edge.hi), .int .i64 ((q.gauges.g i).across.lo), .int .i64 ((q.gauges.g i).across.hi), .int .i64 ((q.gauges.g i).bend)]), .sl 3 q.marks.n (fun i => [.int .i64 ((q.marks.g i).edge), .int .i64 ((q.marks.g i).place), .int .i64 ((q.marks.g i).tone)])]), .p (.agg [.int .i64 s.shift, .bool s.back])]) (retFn Tryz.prog Tryz.f7 (w_Merges_r p q s)) :=
  @Eq.mpr _ (True ∧ ((∀ (i : Nat), i < p.gauges.n → (cG (p.gauges.g i)) = (cG (p.gauges.g i))) ∧ (∀ (i : Nat), i < p.marks.n → (cM (p.marks.g i)) = (cM (p.marks.g i))) ∧ (∀ (i : Nat), i < nat_lit 0 → [] = [SV.int .i64 (0 : Int), SV.int .i64 (0 : Int)]) ∧ True) ∧ ((!!L.few p (L.Sq.mk (nat_lit 0) fun (i : Nat) ↦ L.Pt.mk (0 : Int) (0 : Int))) = true → (∀ (i : Nat), i < q.gauges.n → (cG (q.gauges.g i)) = (cG
 (q.gauges.g i))) ∧ (∀ (i : Nat), i < q.marks.n → (cM (q.marks.g i)) = (cM (q.marks.g i))) ∧ (∀ (i : Nat), i < nat_lit 0 → [] = [SV.int .i64 (0 : Int), SV.int .i64 (0 : Int)]) ∧ True) ∧ ((bif !L.few p (L.Sq.mk (nat_lit 0) fun (i : Nat) ↦ L.Pt.mk (0 : Int) (0 : Int)) then true else !L.few q (L.Sq.mk (nat_lit 0) fun (i : Nat) ↦ L.Pt.mk (0 : Int) (0 : Int))) = true → true = true) ∧ ((bif !L.few p
 (L.Sq.mk (nat_lit 0) fun (i : Nat) ↦ L.Pt.mk (0 : Int) (0 : Int)) then true else !L.few q (L.Sq.mk (nat_lit 0) fun (i : Nat) ↦ L.Pt.mk (0 : Int) (0 : Int))) = false → ((∀ (i : Nat), i < p.gauges.n → (cG (p.gauges.g i)) = (cG (p.gauges.g i))) ∧ (∀ (i : Nat), i < p.marks.n → (cM (p.marks.g i)) = (cM (p.marks.g i))) ∧ (∀ (i : Nat), i < q.gauges.n → (cG (q.gauges.g i)) = (cG (q.gauges.g i))) ∧ (∀ (i :
 Nat), i < q.marks.n → (cM (q.marks.g i)) = (cM (q.marks.g i))) ∧ p.gauges.n ≤ (1000000 : Nat) ∧ p.marks.n ≤ (1000000 : Nat) ∧ q.gauges.n ≤ (1000000 : Nat) ∧ q.marks.n ≤ (1000000 : Nat)) ∧ ((∀ (i : Nat), i < p.gauges.n → (cG (p.gauges.g i)) = (cG (p.gauges.g i))) ∧ (∀ (i : Nat), i < p.marks.n → (cM (p.marks.g i)) = (cM (p.marks.g i))) ∧ (∀ (i : Nat), i < q.gauges.n → (cG (q.gauges.g i)) = (cG
 (q.gauges.g i))) ∧ (∀ (i : Nat), i < q.marks.n → (cM (q.marks.g i)) = (cM (q.marks.g i))) ∧ p.gauges.n ≤ (1000000 : Nat) ∧ p.marks.n ≤ (1000000 : Nat) ∧ q.gauges.n ≤ (1000000 : Nat) ∧ q.marks.n ≤ (1000000 : Nat)) ∧ ((∀ (i : Nat), i < p.gauges.n → (cG (p.gauges.g i)) = (cG (p.gauges.g i))) ∧ (∀ (i : Nat), i < p.marks.n → (cM (p.marks.g i)) = (cM (p.marks.g i))) ∧ (∀ (i : Nat), i < q.gauges.n → (cG
 (q.gauges.g i)) = (cG (q.gauges.g i))) ∧ (∀ (i : Nat), i < q.marks.n → (cM (q.marks.g i)) = (cM (q.marks.g i))) ∧ p.gauges.n ≤ (1000000 : Nat) ∧ p.marks.n ≤ (1000000 : Nat) ∧ q.gauges.n ≤ (1000000 : Nat) ∧ q.marks.n ≤ (1000000 : Nat)) ∧ ((∀ (i : Nat), i < p.gauges.n → (cG (p.gauges.g i)) = (cG (p.gauges.g i))) ∧ (∀ (i : Nat), i < p.marks.n → (cM (p.marks.g i)) = (cM (p.marks.g i))) ∧ (∀ (i : Nat),
 i < q.gauges.n → (cG (q.gauges.g i)) = (cG (q.gauges.g i))) ∧ (∀ (i : Nat), i < q.marks.n → (cM (q.marks.g i)) = (cM (q.marks.g i))) ∧ p.gauges.n ≤ (1000000 : Nat) ∧ p.marks.n ≤ (1000000 : Nat) ∧ q.gauges.n ≤ (1000000 : Nat) ∧ q.marks.n ≤ (1000000 : Nat)) ∧ ((bif true then decide (L.agE p q = L.agE p q) else false) = true → (∀ (i : Nat), i < L.agN p q → [SV.int .i64 (L.agS p q i).shift, SV.bool
 (L.agS p q i).back] = [SV.int .i64 (L.agS p q i).shift, SV.bool (L.agS p q i).back]) ∧ (∀ (i : Nat), i < L.agN p q → [SV.int .i64 (L.agS p q i).shift, SV.bool (L.agS p q i).back] = [SV.int .i64 (L.agS p q i).shift, SV.bool (L.agS p q i).back]) ∧ L.agN p q ≤ (1000000 : Nat)) ∧ ((bif bif bif true then decide (L.agE p q = L.agE p q) else false then L.sameSs (L.Sq.mk (L.agN p q) fun (i : Nat) ↦ L.agS
 p q i) (L.Sq.mk (L.agN p q) fun (i : Nat) ↦ L.agS p q i) else false then decide (L.mgE p q s = L.mgE p q s) else false) = true → (∀ (i : Nat), i < (L.mgV p q s).gauges.n → (cG ((L.mgV p q s).gauges.g i)) = (cG ((L.mgV p q s).gauges.g i))) ∧ (∀ (i : Nat), i < (L.mgV p q s).marks.n → (cM ((L.mgV p q s).marks.g i)) = (cM ((L.mgV p q s).marks.g i))) ∧ (∀ (i : Nat), i < (L.mgV p q s).gauges.n → (cG
 ((L.mgV p q s).gauges.g i)) = (cG ((L.mgV p q s).gauges.g i))) ∧ (∀ (i : Nat), i < (L.mgV p q s).marks.n → (cM ((L.mgV p q s).marks.g i)) = (cM ((L.mgV p q s).marks.g i))) ∧ (L.mgV p q s).gauges.n ≤ (1000000 : Nat) ∧ (L.mgV p q s).marks.n ≤ (1000000 : Nat)) ∧ (bif bif bif bif true then decide (L.agE p q = L.agE p q) else false then L.sameSs (L.Sq.mk (L.agN p q) fun (i : Nat) ↦ L.agS p q i)
 (L.Sq.mk (L.agN p q) fun (i : Nat) ↦ L.agS p q i) else false then decide (L.mgE p q s = L.mgE p q s) else false then L.samePc (L.mgV p q s) (L.mgV p q s) else false) = true)) (by kernel_rfl) (by
    refine ⟨trivial, ⟨fun _ _ => rfl, fun _ _ => rfl, fun i hi => absurd hi (Nat.not_lt_zero _), trivial⟩, fun _ => ⟨fun _ _ => rfl, fun _ _ => rfl, fun i hi => absurd hi (Nat.not_lt_zero _), trivial⟩, fun _ => rfl, fun h => ?_⟩
    rw [bor, Bool.or_eq_false_iff] at h
    have a := few_iff.1 (show L.few p ⟨0, fun _ => ⟨0, 0⟩⟩ = true from notF h.1)
    have b := few_iff.1 (show L.few q ⟨0, fun _ => ⟨0, 0⟩⟩ = true from notF h.2)
    have W : p.gauges.n ≤ 1000000 ∧ p.marks.n ≤ 1000000 ∧ q.gauges.n ≤ 1000000 ∧ q.marks.n ≤ 1000000 := by omega
    have hN := agN_le p q
    have hN1 : L.agN p q ≤ 1000000 := by omega
    have hM := mgV_le p q s
    have hM1 : (L.mgV p q s).gauges.n ≤ 1000000 := by omega
    have hM2 : (L.mgV p q s).marks.n ≤ 1000000 := by omega
    refine ⟨⟨fun _ _ => rfl, fun _ _ => rfl, fun _ _ => rfl, fun _ _ => rfl, W⟩, ⟨fun _ _ => rfl, fun _ _ => rfl, fun _ _ => rfl, fun _ _ => rfl, W⟩, ⟨fun _ _ => rfl, fun _ _ => rfl, fun _ _ => rfl, fun _ _ => rfl, W⟩, ⟨fun _ _ => rfl, fun _ _ => rfl, fun _ _ => rfl, fun _ _ => rfl, W⟩, fun _ => ⟨fun _ _ => rfl, fun _ _ => rfl, hN1⟩, fun _ => ⟨fun _ _ => rfl, fun _ _ => rfl, fun _ _ => rfl, fun _ _ => rfl, hM1, hM2⟩, ?_⟩
    rw [samePc_refl, sameSs_refl]
    simp)
theorem w_Merges_ok : SpecOk Tryz.prog 7 w_Merges_S := fnX Tryz.func7 (c := bodyOf Tryz.f7) (by kernel_rfl) mixed (fun args p r hs hp => by
  unfold w_Merges_s at hs
  split at hs
  · cases hs; exact ⟨_, _, w_Merges_vc _ _ _ hp.2.2.2.2, (.p (.agg rfl (fun i hi => by
      rcases i with _ | i
      · exact (Ext.refl _ : Ext _ _)
      rcases i with _ | i
      · exact (Ext.refl _ : Ext _ _)
      rcases i with _ | i
      · exact (Ext.refl _ : Ext _ _)
      rcases i with _ | i
      · exact (Ext.refl _ : Ext _ _)
      rcases i with _ | i
      · exact (Ext.refl _ : Ext _ _)
      rcases i with _ | i
      · exact (Ext.sl hp.1 : Ext _ _)
      rcases i with _ | i
      · exact (Ext.sl hp.2.1 : Ext _ _)
      exact absurd hi (by simp; try omega))) (.p (.agg rfl (fun i hi => by
      rcases i with _ | i
      · exact (Ext.refl _ : Ext _ _)
      rcases i with _ | i
      · exact (Ext.refl _ : Ext _ _)
      rcases i with _ | i
      · exact (Ext.refl _ : Ext _ _)
      rcases i with _ | i
      · exact (Ext.refl _ : Ext _ _)
      rcases i with _ | i
      · exact (Ext.refl _ : Ext _ _)
      rcases i with _ | i
      · exact (Ext.sl hp.2.2.1 : Ext _ _)
      rcases i with _ | i
      · exact (Ext.sl hp.2.2.2.1 : Ext _ _)
      exact absurd hi (by simp; try omega))) (.same _ .nil))), ⟨show SpecsL Tryz.prog _ from (SpecsL.cons w_awake_ok w_awake_en (SpecsL.cons w_few_ok w_few_en (SpecsL.cons g_Agree_ok g_Agree_en (SpecsL.cons r3_Agree_ok r3_Agree_en (SpecsL.cons g_Merge_ok g_Merge_en (SpecsL.cons r3_Merge_ok r3_Merge_en (SpecsL.cons r1_SameSettings_ok r1_SameSettings_en (SpecsL.cons r3_SamePiece_ok r3_SamePiece_en SpecsL.nil)))))))), rfl, ⟨show ItersL Tryz.prog _ from ItersL.nil, (TrsOk.none (fun _ => rfl))⟩⟩⟩
  · cases hs)
end Go.Proofs.YtooapgllahonaaaGreat
