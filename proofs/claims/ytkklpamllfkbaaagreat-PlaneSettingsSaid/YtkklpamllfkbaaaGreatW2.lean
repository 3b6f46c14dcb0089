/- A symbolic walk over the model, and what it shows of functions of the program: parts of the proof that the text of the row joins. -/
import Derived.Test.YtkklpamllfkbaaaGreatW1
import Derived.Test.YtkklpamllfkbaaaGreatE3
import Derived.KernelRfl

namespace Go.Proofs.YtkklpamllfkbaaaGreat
open Go.SE Go.RowKit
set_option maxRecDepth 100000
set_option maxHeartbeats 4000000
set_option linter.unusedVariables false
attribute [local irreducible] Go.SE.vc

def L.cor (s : L.Setting) (n : Int) (i : Int) : Int := bif s.back then Int.tmod (s.shift + n - i + 1) n else Int.tmod (s.shift + i) n
def L.laid (q : L.Sq L.Pt) (s : L.Setting) (n : Nat) (i : Nat) : L.Pt := q.g (L.cor s n (i : Int)).toNat
def L.laidTo (q : L.Sq L.Pt) (s : L.Setting) (n i k : Nat) : L.Pt := bif decide (k < i) then L.laid q s n k else ⟨0, 0⟩
def L.conD (p q : L.Sq L.Pt) (s : L.Setting) (i k : Nat) : Bool := decide (L.dist (p.g i) (p.g k) = L.dist (L.laid q s p.n i) (L.laid q s p.n k))
def L.conB (p q : L.Sq L.Pt) (s : L.Setting) (i : Nat) : Bool := decide (0 < L.cross (p.g (L.prev p.n i)) (p.g i) (p.g (L.next p.n i))) == !(decide (0 < L.cross (L.laid q s p.n (L.prev p.n i)) (L.laid q s p.n i) (L.laid q s p.n (L.next p.n i))) == s.back)
def L.conI (p q : L.Sq L.Pt) (s : L.Setting) (i : Nat) : Bool := L.allB i (L.conD p q s i) && L.conB p q s i
def L.congr (p q : L.Sq L.Pt) (s : L.Setting) : Bool := L.allB p.n (L.conI p q s)
def L.conK (p q : L.Sq L.Pt) (k : Nat) : Bool := L.congr p q (L.sett k)
def L.conE (p q : L.Sq L.Pt) : Int := bif (bif !L.validOutline p then true else !L.validOutline q) then 1 else 0
def L.conN (p q : L.Sq L.Pt) : Nat := bif decide (L.conE p q = 0) then (bif decide ((p.n : Int) = q.n) then L.cnt (L.conK p q) (2 * p.n) else 0) else 0
def L.conG (p q : L.Sq L.Pt) (k : Nat) : L.Setting := L.sett (L.selN (L.conK p q) (2 * p.n) k)
def L.among (l : L.Sq L.Setting) (s : L.Setting) : Bool := L.anyB l.n (fun i => L.sameS (l.g i) s)
def p_corner_p (s : L.Setting) (n : Int) (i : Int) : Prop := 1 ≤ n ∧ n ≤ 1000 ∧ 0 ≤ s.shift ∧ s.shift ≤ 1000 ∧ 0 ≤ i ∧ i ≤ 1000
def p_corner_r (s : L.Setting) (n : Int) (i : Int) : SV := .int .i64 (L.cor s n i)
def p_corner_s : List EV → Option (Prop × SV)
  | [.p (.agg [.int .i64 s_shift, .bool s_back]), .p (.int .i64 n), .p (.int .i64 i)] => some (p_corner_p (⟨s_shift, s_back⟩ : L.Setting) n i, p_corner_r (⟨s_shift, s_back⟩ : L.Setting) n i)
  | _ => none
abbrev p_corner_S : SE.Spec := (specO p_corner_s)
def p_corner_C : Cfg := { muts := [], frz := lookN [], specs := lookS [], loops := lookL [], iters := lookI [], rfs := lookR [], nils := lookM [] }
theorem p_corner_vc (s : L.Setting) (n : Int) (i : Int) (hp : p_corner_p s n i) : vc Tryz.prog (p_corner_C) (bodyOf Tryz.f136) (st0 Tryz.f136 [.p (.agg [.int .i64 s.shift, .bool s.back]), .p (.int .i64 n), .p (.int .i64 i)]) (retFn Tryz.prog Tryz.f136 (p_corner_r s n i)) :=
  @Eq.mpr _ ((s.back = Bool.true → Go.SE.InK Go.IntKind.i64 (s.shift + n) ∧ Go.SE.InK Go.IntKind.i64 (s.shift + n - i) ∧ Go.SE.InK Go.IntKind.i64 (s.shift + n - i + (1 : Int)) ∧ n ≠ (0 : Int) ∧ Int.tmod (s.shift + n - i + (1 : Int)) n = L.cor s n i) ∧ (s.back = Bool.false → Go.SE.InK Go.IntKind.i64 (s.shift + i) ∧ n ≠ (0 : Int) ∧ Int.tmod (s.shift + i) n = L.cor s n i)) (by kernel_rfl) (by
    obtain ⟨h1, h2, h3, h4, h5, h6⟩ := hp
    refine ⟨fun h => ⟨InK.of (by omega) (by omega), InK.of (by omega) (by omega), InK.of (by omega) (by omega), by omega, ?_⟩, fun h => ⟨InK.of (by omega) (by omega), by omega, ?_⟩⟩
    · unfold L.cor; rw [h]; rfl
    · unfold L.cor; rw [h]; rfl)
theorem p_corner_ok : SpecOk Tryz.prog 136 p_corner_S := fnX Tryz.func136 (c := bodyOf Tryz.f136) (by kernel_rfl) mixed (fun args p r hs hp => by
  unfold p_corner_s at hs
  split at hs
  · cases hs; exact ⟨_, _, p_corner_vc _ _ _ hp, (.same _ (.same _ (.same _ .nil))), ⟨show SpecsL Tryz.prog _ from SpecsL.nil, rfl, ⟨show ItersL Tryz.prog _ from ItersL.nil, (TrsOk.none (fun _ => rfl))⟩⟩⟩
  · cases hs)
theorem p_corner_en : Enters Tryz.prog 136 := fun args w => by kernel_rfl
theorem p_corner_I : ∀ args p r, p_corner_s args = some (p, r) → ∃ n, r = .int .i64 n := by
  intro args p r h
  unfold p_corner_s at h
  split at h
  · cases h; exact ⟨_, rfl⟩
  · cases h
def p_congruent_p (p : (L.Sq L.Pt)) (q : (L.Sq L.Pt)) (s : L.Setting) : Prop := L.allBd p ∧ L.allBd q ∧ p.n = q.n ∧ 1 ≤ p.n ∧ 0 ≤ s.shift ∧ s.shift < (p.n : Int)
def p_congruent_r (p : (L.Sq L.Pt)) (q : (L.Sq L.Pt)) (s : L.Setting) : SV := .bool (L.congr p q s)
def p_congruent_s : List EV → Option (Prop × SV)
  | [.p (.sl 2 p_n p_g), .p (.sl 2 q_n q_g), .p (.agg [.int .i64 s_shift, .bool s_back])] => some ((∀ i, i < p_n → p_g i = [.int .i64 ((ofPt (p_g i)).x), .int .i64 ((ofPt (p_g i)).y)]) ∧ (∀ i, i < q_n → q_g i = [.int .i64 ((ofPt (q_g i)).x), .int .i64 ((ofPt (q_g i)).y)]) ∧ p_congruent_p (⟨p_n, fun i => ofPt (p_g i)⟩ : (L.Sq L.Pt)) (⟨q_n, fun i => ofPt (q_g i)⟩ : (L.Sq L.Pt)) (⟨s_shift, s_back⟩ : L.Setting), p_congruent_r (⟨p_n, fun i => ofPt (p_g i)⟩ : (L.Sq L.Pt)) (⟨q_n, fun i => ofPt (q_g i)⟩ : (L.Sq L.Pt)) (⟨s_shift, s_back⟩ : L.Setting))
  | _ => none
abbrev p_congruent_S : SE.Spec := (specO p_congruent_s)
def p_congruent_C : Cfg := { muts := [], frz := lookN [], specs := lookS [(136, p_corner_S), (137, p_square_S), (120, p_cross_S)], loops := fun _ => none, iters := lookI [], rfs := lookR [], nils := lookM [] }
theorem p_congruent_vc (p : (L.Sq L.Pt)) (q : (L.Sq L.Pt)) (s : L.Setting) (hp : p_congruent_p p q s) : vc Tryz.prog ({ p_congruent_C with loops := lookL [(4, { T := Nat, keep := [0, 1, 5, 7, 8, 19], keepO := [], chg := fun i => [(20, .p (.int .i64 (i : Int)))], own := fun i => [(17, .row 63 2 p.n (fun k => [.int .i64 ((L.laidTo q s p.n i k).x), .int .i64 ((L.laidTo q s p.n i k).y)]))], inv := fun i => i ≤ p.n, mu := fun i => p.n - i }), (9, { T := Nat, keep := [0, 5, 7, 8, 35], keepO := [], chg := fun i => [(36, .p (.int .i64 (i : Int)))], own := fun i => [(17, .row 63 2 p.n (fun k => [.int .i64 ((L.laidTo q s p.n p.n k).x), .int .i64 ((L.laidTo q s p.n p.n k).y)]))], inv := fun i => i ≤ p.n ∧ ∀ j, j < i → L.conI p q s j = true, mu := fun i => p.n - i }), (12, { T := Nat × Nat, keep := [0, 5, 7, 8, 10, 35, 36, 39], keepO := [], tie := fun g => [(10, .int .i64 (g.1 : Int)), (36, .int .i64 (g.1 : Int)), (39, .int .i64 (g.1 : Int))], chg := fun g => [(40, .p (.int .i64 (g.2 : Int)))], own := fun g => [(17, .row 63 2 p.n (fun k => [.int .i64 ((L.laidTo q s p.n p.n k).x), .int .i64 ((L.laidTo q s p.n p.n k).y)]))], inv := fun g => g.1 < p.n ∧ g.2 ≤ g.1 ∧ (∀ j, j < g.1 → L.conI p q s j = true) ∧ ∀ j, j < g.2 → L.conD p q s g.1 j = true, mu := fun g => g.1 - g.2 })], rfs := lookR [] }) (bodyOf Tryz.f84) (st0 Tryz.f84 [.p (.sl 2 p.n (fun i => [.int .i64 ((p.g i).x), .int .i64 ((p.g i).y)])), .p (.sl 2 q.n (fun i => [.int .i64 ((q.g i).x), .int .i64 ((q.g i).y)])), .p (.agg [.int .i64 s.shift, .bool s.back])]) (retFn Tryz.prog Tryz.f84 (p_congruent_r p q s)) :=
  @Eq.mpr _ (((0 : Int) ≤ (↑p.n : Int) ∧ (↑p.n : Int) ≤ (↑p.n : Int) ∧ (↑p.n : Int) * (↑(nat_lit 16) : Int) ≤ (140737488355328 : Int)) ∧ (∃ (g : Nat), (0 : Int) = (↑g : Int) ∧ (Int.toNat (↑p.n : Int) = p.n ∧ ∀ (i : Nat), i < Int.toNat (↑p.n : Int) → [Go.SE.SV.int Go.IntKind.i64 (0 : Int), Go.SE.SV.int Go.IntKind.i64 (0 : Int)] = [Go.SE.SV.int Go.IntKind.i64 (L.laidTo q s p.n g i).x, Go.SE.SV.int Go.IntKind.i64
 (L.laidTo q s p.n g i).y]) ∧ g ≤ p.n) ∧ ∀ (g : Nat), g ≤ p.n → (Decidable.decide ((↑g : Int) < (↑(Int.toNat (↑p.n : Int)) : Int)) = Bool.true → ((1 : Int) ≤ (↑p.n : Int) ∧ (↑p.n : Int) ≤ (1000 : Int) ∧ (0 : Int) ≤ s.shift ∧ s.shift ≤ (1000 : Int) ∧ (0 : Int) ≤ (↑g : Int) ∧ (↑g : Int) ≤ (1000 : Int)) ∧ ((0 : Int) ≤ L.cor s (↑p.n : Int) (↑g : Int) ∧ L.cor s (↑p.n : Int) (↑g : Int) < (↑q.n : Int)) ∧
 ((0 : Int) ≤ (↑g : Int) ∧ (↑g : Int) < (↑p.n : Int)) ∧ Int.toNat (↑g : Int) < p.n ∧ Go.SE.InK Go.IntKind.i64 ((↑g : Int) + (1 : Int)) ∧ ∃ (g' : Nat), (↑g : Int) + (1 : Int) = (↑g' : Int) ∧ (↑(Int.toNat (↑p.n : Int)) : Int) = (↑(Int.toNat (↑p.n : Int)) : Int) ∧ (↑p.n : Int) = (↑p.n : Int) ∧ Go.SE.SV.ref [Go.SE.SV.int Go.IntKind.i64 s.shift, Go.SE.SV.bool s.back] (nat_lit 0) = Go.SE.SV.ref
 [Go.SE.SV.int Go.IntKind.i64 s.shift, Go.SE.SV.bool s.back] (nat_lit 0) ∧ (p.n = p.n ∧ ∀ (i : Nat), i < p.n → [Go.SE.SV.int Go.IntKind.i64 (p.g i).x, Go.SE.SV.int Go.IntKind.i64 (p.g i).y] = [Go.SE.SV.int Go.IntKind.i64 (p.g i).x, Go.SE.SV.int Go.IntKind.i64 (p.g i).y]) ∧ (q.n = q.n ∧ ∀ (i : Nat), i < q.n → [Go.SE.SV.int Go.IntKind.i64 (q.g i).x, Go.SE.SV.int Go.IntKind.i64 (q.g i).y] =
 [Go.SE.SV.int Go.IntKind.i64 (q.g i).x, Go.SE.SV.int Go.IntKind.i64 (q.g i).y]) ∧ (p.n = p.n ∧ ∀ (i : Nat), i < p.n → Go.SE.setRow (fun (k : Nat) ↦ [Go.SE.SV.int Go.IntKind.i64 (L.laidTo q s p.n g k).x, Go.SE.SV.int Go.IntKind.i64 (L.laidTo q s p.n g k).y]) (Int.toNat (↑g : Int)) (nat_lit 0) [Go.SE.SV.int Go.IntKind.i64 (q.g (Int.toNat (L.cor s (↑p.n : Int) (↑g : Int)))).x, Go.SE.SV.int
 Go.IntKind.i64 (q.g (Int.toNat (L.cor s (↑p.n : Int) (↑g : Int)))).y] i = [Go.SE.SV.int Go.IntKind.i64 (L.laidTo q s p.n g' i).x, Go.SE.SV.int Go.IntKind.i64 (L.laidTo q s p.n g' i).y]) ∧ g' ≤ p.n ∧ p.n - g' < p.n - g) ∧ (Decidable.decide ((↑g : Int) < (↑(Int.toNat (↑p.n : Int)) : Int)) = Bool.false → (∃ (g_1 : Nat), (0 : Int) = (↑g_1 : Int) ∧ (p.n = p.n ∧ ∀ (i : Nat), i < p.n → [Go.SE.SV.int
 Go.IntKind.i64 (L.laidTo q s p.n g i).x, Go.SE.SV.int Go.IntKind.i64 (L.laidTo q s p.n g i).y] = [Go.SE.SV.int Go.IntKind.i64 (L.laidTo q s p.n p.n i).x, Go.SE.SV.int Go.IntKind.i64 (L.laidTo q s p.n p.n i).y]) ∧ g_1 ≤ p.n ∧ ∀ (j : Nat), j < g_1 → L.conI p q s j = Bool.true) ∧ ∀ (g_1 : Nat), (g_1 ≤ p.n ∧ ∀ (j : Nat), j < g_1 → L.conI p q s j = Bool.true) → (Decidable.decide ((↑g_1 : Int) < (↑p.n :
 Int)) = Bool.true → (∃ (g : Nat × Nat), (0 : Int) = (↑g.2 : Int) ∧ (p.n = p.n ∧ ∀ (i : Nat), i < p.n → [Go.SE.SV.int Go.IntKind.i64 (L.laidTo q s p.n p.n i).x, Go.SE.SV.int Go.IntKind.i64 (L.laidTo q s p.n p.n i).y] = [Go.SE.SV.int Go.IntKind.i64 (L.laidTo q s p.n p.n i).x, Go.SE.SV.int Go.IntKind.i64 (L.laidTo q s p.n p.n i).y]) ∧ (↑g_1 : Int) = (↑g.1 : Int) ∧ (↑g_1 : Int) = (↑g.1 : Int) ∧ (↑g_1
 : Int) = (↑g.1 : Int) ∧ g.1 < p.n ∧ g.2 ≤ g.1 ∧ (∀ (j : Nat), j < g.1 → L.conI p q s j = Bool.true) ∧ ∀ (j : Nat), j < g.2 → L.conD p q s g.1 j = Bool.true) ∧ ∀ (g_2 : Nat × Nat), ((↑g_1 : Int) = (↑g_2.1 : Int) ∧ (↑g_1 : Int) = (↑g_2.1 : Int) ∧ (↑g_1 : Int) = (↑g_2.1 : Int) ∧ g_2.1 < p.n ∧ g_2.2 ≤ g_2.1 ∧ (∀ (j : Nat), j < g_2.1 → L.conI p q s j = Bool.true) ∧ ∀ (j : Nat), j < g_2.2 → L.conD p q s
 g_2.1 j = Bool.true) → (Decidable.decide ((↑g_2.2 : Int) < (↑g_1 : Int)) = Bool.true → ((0 : Int) ≤ (↑g_1 : Int) ∧ (↑g_1 : Int) < (↑p.n : Int)) ∧ ((0 : Int) ≤ (↑g_2.2 : Int) ∧ (↑g_2.2 : Int) < (↑p.n : Int)) ∧ (L.bd (p.g (Int.toNat (↑g_1 : Int))) ∧ L.bd (p.g (Int.toNat (↑g_2.2 : Int)))) ∧ ((0 : Int) ≤ (↑g_1 : Int) ∧ (↑g_1 : Int) < (↑p.n : Int)) ∧ Int.toNat (↑g_1 : Int) < p.n ∧ ((0 : Int) ≤ (↑g_2.2
 : Int) ∧ (↑g_2.2 : Int) < (↑p.n : Int)) ∧ Int.toNat (↑g_2.2 : Int) < p.n ∧ (L.bd (L.laidTo q s p.n p.n (Int.toNat (↑g_1 : Int))) ∧ L.bd (L.laidTo q s p.n p.n (Int.toNat (↑g_2.2 : Int)))) ∧ ((!Decidable.decide (L.dist (p.g (Int.toNat (↑g_1 : Int))) (p.g (Int.toNat (↑g_2.2 : Int))) = L.dist (L.laidTo q s p.n p.n (Int.toNat (↑g_1 : Int))) (L.laidTo q s p.n p.n (Int.toNat (↑g_2.2 : Int))))) =
 Bool.true → Bool.false = L.congr p q s) ∧ ((!Decidable.decide (L.dist (p.g (Int.toNat (↑g_1 : Int))) (p.g (Int.toNat (↑g_2.2 : Int))) = L.dist (L.laidTo q s p.n p.n (Int.toNat (↑g_1 : Int))) (L.laidTo q s p.n p.n (Int.toNat (↑g_2.2 : Int))))) = Bool.false → Go.SE.InK Go.IntKind.i64 ((↑g_2.2 : Int) + (1 : Int)) ∧ ∃ (g' : Nat × Nat), (↑g_2.2 : Int) + (1 : Int) = (↑g'.2 : Int) ∧ (↑g_1 : Int) = (↑g_1
 : Int) ∧ (↑g_1 : Int) = (↑g_1 : Int) ∧ (↑g_1 : Int) = (↑g_1 : Int) ∧ (↑p.n : Int) = (↑p.n : Int) ∧ (↑p.n : Int) = (↑p.n : Int) ∧ Go.SE.SV.ref [Go.SE.SV.int Go.IntKind.i64 s.shift, Go.SE.SV.bool s.back] (nat_lit 0) = Go.SE.SV.ref [Go.SE.SV.int Go.IntKind.i64 s.shift, Go.SE.SV.bool s.back] (nat_lit 0) ∧ (p.n = p.n ∧ ∀ (i : Nat), i < p.n → [Go.SE.SV.int Go.IntKind.i64 (p.g i).x, Go.SE.SV.int
 Go.IntKind.i64 (p.g i).y] = [Go.SE.SV.int Go.IntKind.i64 (p.g i).x, Go.SE.SV.int Go.IntKind.i64 (p.g i).y]) ∧ (p.n = p.n ∧ ∀ (i : Nat), i < p.n → [Go.SE.SV.int Go.IntKind.i64 (L.laidTo q s p.n p.n i).x, Go.SE.SV.int Go.IntKind.i64 (L.laidTo q s p.n p.n i).y] = [Go.SE.SV.int Go.IntKind.i64 (L.laidTo q s p.n p.n i).x, Go.SE.SV.int Go.IntKind.i64 (L.laidTo q s p.n p.n i).y]) ∧ ((↑g_1 : Int) = (↑g'.1
 : Int) ∧ (↑g_1 : Int) = (↑g'.1 : Int) ∧ (↑g_1 : Int) = (↑g'.1 : Int) ∧ g'.1 < p.n ∧ g'.2 ≤ g'.1 ∧ (∀ (j : Nat), j < g'.1 → L.conI p q s j = Bool.true) ∧ ∀ (j : Nat), j < g'.2 → L.conD p q s g'.1 j = Bool.true) ∧ g'.1 - g'.2 < g_2.1 - g_2.2)) ∧ (Decidable.decide ((↑g_2.2 : Int) < (↑g_1 : Int)) = Bool.false → Go.SE.InK Go.IntKind.i64 ((↑g_1 : Int) + (↑p.n : Int)) ∧ Go.SE.InK Go.IntKind.i64 ((↑g_1 :
 Int) + (↑p.n : Int) - (1 : Int)) ∧ (↑p.n : Int) ≠ (0 : Int) ∧ ((0 : Int) ≤ Int.tmod ((↑g_1 : Int) + (↑p.n : Int) - (1 : Int)) (↑p.n : Int) ∧ Int.tmod ((↑g_1 : Int) + (↑p.n : Int) - (1 : Int)) (↑p.n : Int) < (↑p.n : Int)) ∧ ((0 : Int) ≤ (↑g_1 : Int) ∧ (↑g_1 : Int) < (↑p.n : Int)) ∧ Go.SE.InK Go.IntKind.i64 ((↑g_1 : Int) + (1 : Int)) ∧ (↑p.n : Int) ≠ (0 : Int) ∧ ((0 : Int) ≤ Int.tmod ((↑g_1 : Int) +
 (1 : Int)) (↑p.n : Int) ∧ Int.tmod ((↑g_1 : Int) + (1 : Int)) (↑p.n : Int) < (↑p.n : Int)) ∧ (L.bd (p.g (Int.toNat (Int.tmod ((↑g_1 : Int) + (↑p.n : Int) - (1 : Int)) (↑p.n : Int)))) ∧ L.bd (p.g (Int.toNat (↑g_1 : Int))) ∧ L.bd (p.g (Int.toNat (Int.tmod ((↑g_1 : Int) + (1 : Int)) (↑p.n : Int))))) ∧ Go.SE.InK Go.IntKind.i64 ((↑g_1 : Int) + (↑p.n : Int)) ∧ Go.SE.InK Go.IntKind.i64 ((↑g_1 : Int) +
 (↑p.n : Int) - (1 : Int)) ∧ (↑p.n : Int) ≠ (0 : Int) ∧ ((0 : Int) ≤ Int.tmod ((↑g_1 : Int) + (↑p.n : Int) - (1 : Int)) (↑p.n : Int) ∧ Int.tmod ((↑g_1 : Int) + (↑p.n : Int) - (1 : Int)) (↑p.n : Int) < (↑p.n : Int)) ∧ Int.toNat (Int.tmod ((↑g_1 : Int) + (↑p.n : Int) - (1 : Int)) (↑p.n : Int)) < p.n ∧ ((0 : Int) ≤ (↑g_1 : Int) ∧ (↑g_1 : Int) < (↑p.n : Int)) ∧ Int.toNat (↑g_1 : Int) < p.n ∧ Go.SE.InK
 Go.IntKind.i64 ((↑g_1 : Int) + (1 : Int)) ∧ (↑p.n : Int) ≠ (0 : Int) ∧ ((0 : Int) ≤ Int.tmod ((↑g_1 : Int) + (1 : Int)) (↑p.n : Int) ∧ Int.tmod ((↑g_1 : Int) + (1 : Int)) (↑p.n : Int) < (↑p.n : Int)) ∧ Int.toNat (Int.tmod ((↑g_1 : Int) + (1 : Int)) (↑p.n : Int)) < p.n ∧ (L.bd (L.laidTo q s p.n p.n (Int.toNat (Int.tmod ((↑g_1 : Int) + (↑p.n : Int) - (1 : Int)) (↑p.n : Int)))) ∧ L.bd (L.laidTo q s
 p.n p.n (Int.toNat (↑g_1 : Int))) ∧ L.bd (L.laidTo q s p.n p.n (Int.toNat (Int.tmod ((↑g_1 : Int) + (1 : Int)) (↑p.n : Int))))) ∧ ((!Decidable.decide ((0 : Int) < L.cross (p.g (Int.toNat (Int.tmod ((↑g_1 : Int) + (↑p.n : Int) - (1 : Int)) (↑p.n : Int)))) (p.g (Int.toNat (↑g_1 : Int))) (p.g (Int.toNat (Int.tmod ((↑g_1 : Int) + (1 : Int)) (↑p.n : Int))))) == !Decidable.decide ((0 : Int) < L.cross
 (L.laidTo q s p.n p.n (Int.toNat (Int.tmod ((↑g_1 : Int) + (↑p.n : Int) - (1 : Int)) (↑p.n : Int)))) (L.laidTo q s p.n p.n (Int.toNat (↑g_1 : Int))) (L.laidTo q s p.n p.n (Int.toNat (Int.tmod ((↑g_1 : Int) + (1 : Int)) (↑p.n : Int))))) == s.back) = Bool.true → Bool.false = L.congr p q s) ∧ ((!Decidable.decide ((0 : Int) < L.cross (p.g (Int.toNat (Int.tmod ((↑g_1 : Int) + (↑p.n : Int) - (1 : Int))
 (↑p.n : Int)))) (p.g (Int.toNat (↑g_1 : Int))) (p.g (Int.toNat (Int.tmod ((↑g_1 : Int) + (1 : Int)) (↑p.n : Int))))) == !Decidable.decide ((0 : Int) < L.cross (L.laidTo q s p.n p.n (Int.toNat (Int.tmod ((↑g_1 : Int) + (↑p.n : Int) - (1 : Int)) (↑p.n : Int)))) (L.laidTo q s p.n p.n (Int.toNat (↑g_1 : Int))) (L.laidTo q s p.n p.n (Int.toNat (Int.tmod ((↑g_1 : Int) + (1 : Int)) (↑p.n : Int))))) ==
 s.back) = Bool.false → Go.SE.InK Go.IntKind.i64 ((↑g_1 : Int) + (1 : Int)) ∧ ∃ (g' : Nat), (↑g_1 : Int) + (1 : Int) = (↑g' : Int) ∧ (↑p.n : Int) = (↑p.n : Int) ∧ (↑p.n : Int) = (↑p.n : Int) ∧ Go.SE.SV.ref [Go.SE.SV.int Go.IntKind.i64 s.shift, Go.SE.SV.bool s.back] (nat_lit 0) = Go.SE.SV.ref [Go.SE.SV.int Go.IntKind.i64 s.shift, Go.SE.SV.bool s.back] (nat_lit 0) ∧ (p.n = p.n ∧ ∀ (i : Nat), i < p.n
 → [Go.SE.SV.int Go.IntKind.i64 (p.g i).x, Go.SE.SV.int Go.IntKind.i64 (p.g i).y] = [Go.SE.SV.int Go.IntKind.i64 (p.g i).x, Go.SE.SV.int Go.IntKind.i64 (p.g i).y]) ∧ (p.n = p.n ∧ ∀ (i : Nat), i < p.n → [Go.SE.SV.int Go.IntKind.i64 (L.laidTo q s p.n p.n i).x, Go.SE.SV.int Go.IntKind.i64 (L.laidTo q s p.n p.n i).y] = [Go.SE.SV.int Go.IntKind.i64 (L.laidTo q s p.n p.n i).x, Go.SE.SV.int Go.IntKind.i64
 (L.laidTo q s p.n p.n i).y]) ∧ (g' ≤ p.n ∧ ∀ (j : Nat), j < g' → L.conI p q s j = Bool.true) ∧ p.n - g' < p.n - g_1))) ∧ (Decidable.decide ((↑g_1 : Int) < (↑p.n : Int)) = Bool.false → Bool.true = L.congr p q s))) (by kernel_rfl) (by
    obtain ⟨hbp, hbq, hn, h1, s0, s1⟩ := hp
    have hpn := hbp.1
    have hc : ∀ k : Nat, k < p.n → 0 ≤ L.cor s (p.n : Int) (k : Int) ∧ L.cor s (p.n : Int) (k : Int) < (q.n : Int) := fun k hk => by
      unfold L.cor
      rw [← hn]
      cases s.back
      · exact ⟨Int.tmod_nonneg _ (by omega), Int.tmod_lt_of_pos _ (by omega)⟩
      · exact ⟨Int.tmod_nonneg _ (by omega), Int.tmod_lt_of_pos _ (by omega)⟩
    have hl : ∀ k, k < p.n → L.laidTo q s p.n p.n k = L.laid q s p.n k := fun k hk => by
      unfold L.laidTo; rw [decide_eq_true hk]; rfl
    have hlb : ∀ k, k < p.n → L.bd (L.laidTo q s p.n p.n k) := fun k hk => by
      rw [hl k hk]; exact hbq.2 _ (by have := hc k hk; omega)
    have fin0 : ∀ {i : Nat}, i < p.n → L.conI p q s i = false → false = L.congr p q s := fun {i} hi h => by
      unfold L.congr; rw [allB_false hi h]
    have et : ((p.n : Int)).toNat = p.n := by omega
    rw [et]
    refine ⟨⟨by omega, by omega, by show (p.n : Int) * 16 ≤ 140737488355328; omega⟩, ⟨(0 : Nat), rfl, ⟨rfl, fun i hi => rfl⟩, Nat.zero_le _⟩, fun g hg => ⟨fun hlt => ?_, fun hge => ⟨⟨(0 : Nat), rfl, ⟨rfl, fun i hi => ?_⟩, Nat.zero_le _, fun j hj => absurd hj (Nat.not_lt_zero _)⟩, fun g1 hg1 => ⟨fun hlt1 => ?_, fun hge1 => ?_⟩⟩⟩⟩
    · have hb : (g : Int) < (p.n : Int) := of_decide_eq_true hlt
      have e0 : ((g : Int)).toNat = g := by omega
      rw [e0]
      refine ⟨⟨by omega, by omega, by omega, by omega, by omega, by omega⟩, hc g (by omega), ⟨by omega, hb⟩, by omega, InK.of (by omega) (by omega), g + 1, by omega, rfl, rfl, rfl, ⟨rfl, fun _ _ => rfl⟩, ⟨rfl, fun _ _ => rfl⟩, ⟨rfl, fun i hi => ?_⟩, by omega, by omega⟩
      unfold setRow
      by_cases e : i = g
      · subst e
        rw [if_pos rfl]
        unfold L.laidTo
        rw [decide_eq_true (Nat.lt_succ_self i)]; rfl
      · rw [if_neg e]
        dsimp only
        have w : L.laidTo q s p.n (g + 1) i = L.laidTo q s p.n g i := by
          unfold L.laidTo
          by_cases c : i < g
          · rw [decide_eq_true c, decide_eq_true (by omega)]
          · rw [decide_eq_false c, decide_eq_false (by omega)]
        rw [w]
    · have hb : ¬ (g : Int) < (p.n : Int) := of_decide_eq_false hge
      obtain rfl : g = p.n := by omega
      rfl
    · have hb1 : (g1 : Int) < (p.n : Int) := of_decide_eq_true hlt1
      have hk1 : g1 < p.n := by omega
      have e1 : ((g1 : Int)).toNat = g1 := by omega
      rw [e1]
      refine ⟨⟨(g1, 0), rfl, ⟨rfl, fun _ _ => rfl⟩, rfl, rfl, rfl, hk1, Nat.zero_le _, hg1.2, fun j hj => absurd hj (Nat.not_lt_zero _)⟩, ?_⟩
      rintro ⟨i, k⟩ ⟨t1, _, _, _, hki, h0, hD⟩
      have t1 : (g1 : Int) = (i : Int) := t1
      obtain rfl : g1 = i := by omega
      have hki : k ≤ g1 := hki
      have h0 : ∀ j, j < g1 → L.conI p q s j = true := h0
      have hD : ∀ j, j < k → L.conD p q s g1 j = true := hD
      dsimp only
      have ek : ((k : Int)).toNat = k := by omega
      rw [ek]
      refine ⟨fun hlt2 => ?_, fun hge2 => ?_⟩
      · have hk : (k : Int) < (g1 : Int) := of_decide_eq_true hlt2
        have key : decide (L.dist (p.g g1) (p.g k) = L.dist (L.laidTo q s p.n p.n g1) (L.laidTo q s p.n p.n k)) = L.conD p q s g1 k := by
          rw [hl g1 hk1, hl k (by omega)]; rfl
        rw [key]
        refine ⟨⟨by omega, hb1⟩, ⟨by omega, by omega⟩, ⟨hbp.2 _ hk1, hbp.2 _ (by omega)⟩, ⟨by omega, hb1⟩, hk1, ⟨by omega, by omega⟩, by omega, ⟨hlb _ hk1, hlb _ (by omega)⟩, fun h => ?_, fun h => ?_⟩
        · refine fin0 hk1 ?_
          unfold L.conI
          rw [allB_false (i := k) (by omega) (notT h)]; rfl
        · refine ⟨InK.of (by omega) (by omega), (g1, k + 1), by show (k : Int) + 1 = ((k + 1 : Nat) : Int); omega, rfl, rfl, rfl, rfl, rfl, rfl, ⟨rfl, fun _ _ => rfl⟩, ⟨rfl, fun _ _ => rfl⟩, ⟨rfl, rfl, rfl, hk1, by show k + 1 ≤ g1; omega, h0, fun j hj => ?_⟩, by show g1 - (k + 1) < g1 - k; omega⟩
          have hj : j < k + 1 := hj
          show L.conD p q s g1 j = true
          rcases Nat.lt_succ_iff_lt_or_eq.1 hj with h' | rfl
          · exact hD j h'
          · exact notF h
      · have hk : ¬ (k : Int) < (g1 : Int) := of_decide_eq_false hge2
        have hpv : L.prev p.n g1 < p.n := prev_lt (by omega)
        have hnx : L.next p.n g1 < p.n := next_lt (by omega)
        have hp0 := Int.tmod_nonneg (p.n : Int) (show 0 ≤ (g1 : Int) + (p.n : Int) - 1 by omega)
        have hp1 := Int.tmod_lt_of_pos ((g1 : Int) + (p.n : Int) - 1) (show 0 < (p.n : Int) by omega)
        have hn0 := Int.tmod_nonneg (p.n : Int) (show 0 ≤ (g1 : Int) + 1 by omega)
        have hn1 := Int.tmod_lt_of_pos ((g1 : Int) + 1) (show 0 < (p.n : Int) by omega)
        have key : (decide (0 < L.cross (p.g (L.prev p.n g1)) (p.g g1) (p.g (L.next p.n g1))) == !(decide (0 < L.cross (L.laidTo q s p.n p.n (L.prev p.n g1)) (L.laidTo q s p.n p.n g1) (L.laidTo q s p.n p.n (L.next p.n g1))) == s.back)) = L.conB p q s g1 := by
          rw [hl g1 hk1, hl _ hpv, hl _ hnx]; rfl
        refine ⟨InK.of (by omega) (by omega), InK.of (by omega) (by omega), by omega, ⟨hp0, hp1⟩, ⟨by omega, hb1⟩, InK.of (by omega) (by omega), by omega, ⟨hn0, hn1⟩, ⟨hbp.2 _ hpv, hbp.2 _ hk1, hbp.2 _ hnx⟩, InK.of (by omega) (by omega), InK.of (by omega) (by omega), by omega, ⟨hp0, hp1⟩, hpv, ⟨by omega, hb1⟩, hk1, InK.of (by omega) (by omega), by omega, ⟨hn0, hn1⟩, hnx, ⟨hlb _ hpv, hlb _ hk1, hlb _ hnx⟩, fun h => ?_, fun h => ?_⟩
        · have h : (!(decide (0 < L.cross (p.g (L.prev p.n g1)) (p.g g1) (p.g (L.next p.n g1))) == !(decide (0 < L.cross (L.laidTo q s p.n p.n (L.prev p.n g1)) (L.laidTo q s p.n p.n g1) (L.laidTo q s p.n p.n (L.next p.n g1))) == s.back))) = true := h
          rw [key] at h
          refine fin0 hk1 ?_
          unfold L.conI
          rw [notT h, Bool.and_false]
        · have h : (!(decide (0 < L.cross (p.g (L.prev p.n g1)) (p.g g1) (p.g (L.next p.n g1))) == !(decide (0 < L.cross (L.laidTo q s p.n p.n (L.prev p.n g1)) (L.laidTo q s p.n p.n g1) (L.laidTo q s p.n p.n (L.next p.n g1))) == s.back))) = false := h
          rw [key] at h
          refine ⟨InK.of (by omega) (by omega), g1 + 1, by omega, rfl, rfl, rfl, ⟨rfl, fun _ _ => rfl⟩, ⟨rfl, fun _ _ => rfl⟩, ⟨by omega, fun j hj => ?_⟩, by omega⟩
          rcases Nat.lt_succ_iff_lt_or_eq.1 hj with h' | rfl
          · exact h0 j h'
          · unfold L.conI
            rw [allB_iff.2 (fun m hm => hD m (by omega)), notF h]; rfl
    · have hb1 : ¬ (g1 : Int) < (p.n : Int) := of_decide_eq_false hge1
      unfold L.congr
      rw [allB_iff.2 (fun i hi => hg1.2 i (by omega))])
theorem p_congruent_ok : SpecOk Tryz.prog 84 p_congruent_S := fnX Tryz.func84 (c := bodyOf Tryz.f84) (by kernel_rfl) mixed (fun args p r hs hp => by
  unfold p_congruent_s at hs
  split at hs
  · cases hs; exact ⟨_, _, p_congruent_vc _ _ _ hp.2.2, (.p (.sl hp.1) (.p (.sl hp.2.1) (.same _ .nil))), ⟨show SpecsL Tryz.prog _ from (SpecsL.cons p_corner_ok p_corner_en (SpecsL.cons p_square_ok p_square_en (SpecsL.cons p_cross_ok p_cross_en SpecsL.nil))), rfl, ⟨show ItersL Tryz.prog _ from ItersL.nil, (TrsOk.none (fun _ => rfl))⟩⟩⟩
  · cases hs)
theorem p_congruent_en : Enters Tryz.prog 84 := fun args w => by kernel_rfl
theorem p_congruent_B : ∀ args p r, p_congruent_s args = some (p, r) → ∃ b, r = .bool b := by
  intro args p r h
  unfold p_congruent_s at h
  split at h
  · cases h; exact ⟨_, rfl⟩
  · cases h
def p_Settings_p (p : (L.Sq L.Pt)) (q : (L.Sq L.Pt)) : Prop := p.n ≤ 1000000 ∧ q.n ≤ 1000000
def p_Settings_r (p : (L.Sq L.Pt)) (q : (L.Sq L.Pt)) : SV := .tup [.sl 2 (L.conN p q) (fun k => [.int .i64 ((L.conG p q k).shift), .bool ((L.conG p q k).back)]), .int .i64 (L.conE p q)]
def p_Settings_s : List EV → Option (Prop × SV)
  | [.p (.sl 2 p_n p_g), .p (.sl 2 q_n q_g)] => some ((∀ i, i < p_n → p_g i = [.int .i64 ((ofPt (p_g i)).x), .int .i64 ((ofPt (p_g i)).y)]) ∧ (∀ i, i < q_n → q_g i = [.int .i64 ((ofPt (q_g i)).x), .int .i64 ((ofPt (q_g i)).y)]) ∧ p_Settings_p (⟨p_n, fun i => ofPt (p_g i)⟩ : (L.Sq L.Pt)) (⟨q_n, fun i => ofPt (q_g i)⟩ : (L.Sq L.Pt)), p_Settings_r (⟨p_n, fun i => ofPt (p_g i)⟩ : (L.Sq L.Pt)) (⟨q_n, fun i => ofPt (q_g i)⟩ : (L.Sq L.Pt)))
  | _ => none
abbrev p_Settings_S : SE.Spec := (specO p_Settings_s)
def p_Settings_C : Cfg := { muts := [], frz := lookN [], specs := lookS [(70, p_ValidOutline_S), (84, p_congruent_S)], loops := fun _ => none, iters := lookI [], rfs := lookR [], nils := lookM [(6, [(6, 28, 27, 2)])] }
theorem p_Settings_vc (p : (L.Sq L.Pt)) (q : (L.Sq L.Pt)) (hp : p_Settings_p p q) : vc Tryz.prog ({ p_Settings_C with loops := lookL [(7, { T := Nat, keep := [0, 1, 6, 24], keepO := [], chg := fun i => [(25, .p (.int .i64 (i : Int)))], own := fun i => [(28, .row 27 2 (L.cnt (L.conK p q) i) (fun k => [.int .i64 ((L.sett (L.selN (L.conK p q) i k)).shift), .bool ((L.sett (L.selN (L.conK p q) i k)).back)]))], inv := fun i => i ≤ 2 * p.n, mu := fun i => 2 * p.n - i })], rfs := lookR [] }) (bodyOf Tryz.f34) (st0 Tryz.f34 [.p (.sl 2 p.n (fun i => [.int .i64 ((p.g i).x), .int .i64 ((p.g i).y)])), .p (.sl 2 q.n (fun i => [.int .i64 ((q.g i).x), .int .i64 ((q.g i).y)]))]) (retFn Tryz.prog Tryz.f34 (p_Settings_r p q)) :=
  @Eq.mpr _ (((∀ (i : Nat), i < p.n → [Go.SE.SV.int Go.IntKind.i64 (p.g i).x, Go.SE.SV.int Go.IntKind.i64 (p.g i).y] = [Go.SE.SV.int Go.IntKind.i64 (p.g i).x, Go.SE.SV.int Go.IntKind.i64 (p.g i).y]) ∧ p.n ≤ (1000000 : Nat)) ∧ ((!!L.validOutline (L.Sq.mk p.n fun (i : Nat) ↦ p.g i)) = Bool.true → (∀ (i : Nat), i < q.n → [Go.SE.SV.int Go.IntKind.i64 (q.g i).x, Go.SE.SV.int Go.IntKind.i64 (q.g i).y] =
 [Go.SE.SV.int Go.IntKind.i64 (q.g i).x, Go.SE.SV.int Go.IntKind.i64 (q.g i).y]) ∧ q.n ≤ (1000000 : Nat)) ∧ ((bif !L.validOutline (L.Sq.mk p.n fun (i : Nat) ↦ p.g i) then Bool.true else !L.validOutline (L.Sq.mk q.n fun (i : Nat) ↦ q.g i)) = Bool.true → L.conN p q = (0 : Nat) ∧ (1 : Int) = L.conE p q) ∧ ((bif !L.validOutline (L.Sq.mk p.n fun (i : Nat) ↦ p.g i) then Bool.true else !L.validOutline
 (L.Sq.mk q.n fun (i : Nat) ↦ q.g i)) = Bool.false → ((!Decidable.decide ((↑p.n : Int) = (↑q.n : Int))) = Bool.true → L.conN p q = (0 : Nat) ∧ (0 : Int) = L.conE p q) ∧ ((!Decidable.decide ((↑p.n : Int) = (↑q.n : Int))) = Bool.false → Go.SE.InK Go.IntKind.i64 ((2 : Int) * (↑p.n : Int)) ∧ (∃ (g : Nat), (0 : Int) = (↑g : Int) ∧ (nat_lit 0 = L.cnt (L.conK p q) g ∧ ∀ (i : Nat), i < nat_lit 0 → [] =
 [Go.SE.SV.int Go.IntKind.i64 (L.sett (L.selN (L.conK p q) g i)).shift, Go.SE.SV.bool (L.sett (L.selN (L.conK p q) g i)).back]) ∧ g ≤ (2 : Nat) * p.n) ∧ ∀ (g : Nat), g ≤ (2 : Nat) * p.n → (Decidable.decide ((↑g : Int) < (2 : Int) * (↑p.n : Int)) = Bool.true → (2 : Int) ≠ (0 : Int) ∧ Go.SE.InK Go.IntKind.i64 (Int.tdiv (↑g : Int) (2 : Int)) ∧ (2 : Int) ≠ (0 : Int) ∧ ((∀ (i : Nat), i < p.n →
 [Go.SE.SV.int Go.IntKind.i64 (p.g i).x, Go.SE.SV.int Go.IntKind.i64 (p.g i).y] = [Go.SE.SV.int Go.IntKind.i64 (p.g i).x, Go.SE.SV.int Go.IntKind.i64 (p.g i).y]) ∧ (∀ (i : Nat), i < q.n → [Go.SE.SV.int Go.IntKind.i64 (q.g i).x, Go.SE.SV.int Go.IntKind.i64 (q.g i).y] = [Go.SE.SV.int Go.IntKind.i64 (q.g i).x, Go.SE.SV.int Go.IntKind.i64 (q.g i).y]) ∧ L.allBd (L.Sq.mk p.n fun (i : Nat) ↦ p.g i) ∧
 L.allBd (L.Sq.mk q.n fun (i : Nat) ↦ q.g i) ∧ p.n = q.n ∧ (1 : Nat) ≤ p.n ∧ (0 : Int) ≤ Int.tdiv (↑g : Int) (2 : Int) ∧ Int.tdiv (↑g : Int) (2 : Int) < (↑p.n : Int)) ∧ (L.congr (L.Sq.mk p.n fun (i : Nat) ↦ p.g i) (L.Sq.mk q.n fun (i : Nat) ↦ q.g i) (L.Setting.mk (Int.tdiv (↑g : Int) (2 : Int)) (Decidable.decide (Int.tmod (↑g : Int) (2 : Int) = (1 : Int)))) = Bool.true → (L.cnt (L.conK p q) g +
 nat_lit 1) * nat_lit 16 ≤ (140737488355328 : Nat) ∧ Go.SE.InK Go.IntKind.i64 ((↑g : Int) + (1 : Int)) ∧ ∃ (g' : Nat), (↑g : Int) + (1 : Int) = (↑g' : Int) ∧ (2 : Int) * (↑p.n : Int) = (2 : Int) * (↑p.n : Int) ∧ (p.n = p.n ∧ ∀ (i : Nat), i < p.n → [Go.SE.SV.int Go.IntKind.i64 (p.g i).x, Go.SE.SV.int Go.IntKind.i64 (p.g i).y] = [Go.SE.SV.int Go.IntKind.i64 (p.g i).x, Go.SE.SV.int Go.IntKind.i64 (p.g
 i).y]) ∧ (q.n = q.n ∧ ∀ (i : Nat), i < q.n → [Go.SE.SV.int Go.IntKind.i64 (q.g i).x, Go.SE.SV.int Go.IntKind.i64 (q.g i).y] = [Go.SE.SV.int Go.IntKind.i64 (q.g i).x, Go.SE.SV.int Go.IntKind.i64 (q.g i).y]) ∧ (L.cnt (L.conK p q) g + nat_lit 1 = L.cnt (L.conK p q) g' ∧ ∀ (i : Nat), i < L.cnt (L.conK p q) g + nat_lit 1 → Go.SE.appGet (L.cnt (L.conK p q) g) (fun (k : Nat) ↦ [Go.SE.SV.int
 Go.IntKind.i64 (L.sett (L.selN (L.conK p q) g k)).shift, Go.SE.SV.bool (L.sett (L.selN (L.conK p q) g k)).back]) (fun (x : Nat) ↦ [Go.SE.SV.int Go.IntKind.i64 (Int.tdiv (↑g : Int) (2 : Int)), Go.SE.SV.bool (Decidable.decide (Int.tmod (↑g : Int) (2 : Int) = (1 : Int)))]) i = [Go.SE.SV.int Go.IntKind.i64 (L.sett (L.selN (L.conK p q) g' i)).shift, Go.SE.SV.bool (L.sett (L.selN (L.conK p q) g'
 i)).back]) ∧ g' ≤ (2 : Nat) * p.n ∧ (2 : Nat) * p.n - g' < (2 : Nat) * p.n - g) ∧ (L.congr (L.Sq.mk p.n fun (i : Nat) ↦ p.g i) (L.Sq.mk q.n fun (i : Nat) ↦ q.g i) (L.Setting.mk (Int.tdiv (↑g : Int) (2 : Int)) (Decidable.decide (Int.tmod (↑g : Int) (2 : Int) = (1 : Int)))) = Bool.false → Go.SE.InK Go.IntKind.i64 ((↑g : Int) + (1 : Int)) ∧ ∃ (g' : Nat), (↑g : Int) + (1 : Int) = (↑g' : Int) ∧ (2 :
 Int) * (↑p.n : Int) = (2 : Int) * (↑p.n : Int) ∧ (p.n = p.n ∧ ∀ (i : Nat), i < p.n → [Go.SE.SV.int Go.IntKind.i64 (p.g i).x, Go.SE.SV.int Go.IntKind.i64 (p.g i).y] = [Go.SE.SV.int Go.IntKind.i64 (p.g i).x, Go.SE.SV.int Go.IntKind.i64 (p.g i).y]) ∧ (q.n = q.n ∧ ∀ (i : Nat), i < q.n → [Go.SE.SV.int Go.IntKind.i64 (q.g i).x, Go.SE.SV.int Go.IntKind.i64 (q.g i).y] = [Go.SE.SV.int Go.IntKind.i64 (q.g
 i).x, Go.SE.SV.int Go.IntKind.i64 (q.g i).y]) ∧ (L.cnt (L.conK p q) g = L.cnt (L.conK p q) g' ∧ ∀ (i : Nat), i < L.cnt (L.conK p q) g → [Go.SE.SV.int Go.IntKind.i64 (L.sett (L.selN (L.conK p q) g i)).shift, Go.SE.SV.bool (L.sett (L.selN (L.conK p q) g i)).back] = [Go.SE.SV.int Go.IntKind.i64 (L.sett (L.selN (L.conK p q) g' i)).shift, Go.SE.SV.bool (L.sett (L.selN (L.conK p q) g' i)).back]) ∧ g' ≤
 (2 : Nat) * p.n ∧ (2 : Nat) * p.n - g' < (2 : Nat) * p.n - g)) ∧ (Decidable.decide ((↑g : Int) < (2 : Int) * (↑p.n : Int)) = Bool.false → (L.cnt (L.conK p q) g = L.conN p q ∧ ∀ (i : Nat), i < L.cnt (L.conK p q) g → [Go.SE.SV.int Go.IntKind.i64 (L.sett (L.selN (L.conK p q) g i)).shift, Go.SE.SV.bool (L.sett (L.selN (L.conK p q) g i)).back] = [Go.SE.SV.int Go.IntKind.i64 (L.conG p q i).shift,
 Go.SE.SV.bool (L.conG p q i).back]) ∧ (0 : Int) = L.conE p q)))) (by kernel_rfl) (by
    obtain ⟨h1, h2⟩ := hp
    refine ⟨⟨fun _ _ => rfl, h1⟩, fun _ => ⟨fun _ _ => rfl, h2⟩, fun h => ?_, fun h => ⟨fun h3 => ?_, fun h3 => ?_⟩⟩
    · have h : (bif !L.validOutline p then true else !L.validOutline q) = true := h
      have e : L.conE p q = 1 := by unfold L.conE; rw [h]; rfl
      unfold L.conN; rw [e]; exact ⟨rfl, rfl⟩
    · have h : (bif !L.validOutline p then true else !L.validOutline q) = false := h
      have e : L.conE p q = 0 := by unfold L.conE; rw [h]; rfl
      unfold L.conN; rw [e, notT h3]; exact ⟨rfl, rfl⟩
    have h : (bif !L.validOutline p then true else !L.validOutline q) = false := h
    have e : L.conE p q = 0 := by unfold L.conE; rw [h]; rfl
    rw [bor, Bool.or_eq_false_iff] at h
    obtain ⟨n3, n24, _, hbp⟩ := validOutline_of (notF h.1)
    obtain ⟨_, _, _, hbq⟩ := validOutline_of (notF h.2)
    have hd := notF h3
    have hn : p.n = q.n := by have := of_decide_eq_true hd; omega
    refine ⟨InK.of (by omega) (by omega), ⟨(0 : Nat), rfl, ⟨rfl, fun i hi => absurd hi (Nat.not_lt_zero _)⟩, Nat.zero_le _⟩, fun k hk' => ⟨fun hlt => ?_, fun hge => ?_⟩⟩
    · have hb : (k : Int) < 2 * (p.n : Int) := of_decide_eq_true hlt
      have hk : k < 2 * p.n := by omega
      have hs := sett_lt hk
      have hc := cnt_le (p := L.conK p q) (n := k)
      refine ⟨by decide, InK.of (by rw [Int.tdiv_eq_ediv_of_nonneg (by omega)]; omega) (by rw [Int.tdiv_eq_ediv_of_nonneg (by omega)]; omega), by decide, ⟨fun _ _ => rfl, fun _ _ => rfl, hbp, hbq, hn, by omega, hs.1, hs.2⟩, fun h5 => ?_, fun h5 => ?_⟩
      · have h5 : L.conK p q k = true := h5
        have c1 := cnt_yes h5
        refine ⟨show (L.cnt (L.conK p q) k + 1) * 16 ≤ 140737488355328 by omega, InK.of (by omega) (by omega), k + 1, by omega, rfl, ⟨rfl, fun _ _ => rfl⟩, ⟨rfl, fun _ _ => rfl⟩, ⟨c1.symm, fun i hi => ?_⟩, by omega, by omega⟩
        have hi : i < L.cnt (L.conK p q) k + 1 := hi
        unfold appGet
        by_cases h' : i < L.cnt (L.conK p q) k
        · rw [if_pos h', selN_old (Nat.ne_of_lt h')]
        · have : i = L.cnt (L.conK p q) k := by omega
          rw [if_neg h', this, selN_new h5]; rfl
      · have h5 : L.conK p q k = false := h5
        exact ⟨InK.of (by omega) (by omega), k + 1, by omega, rfl, ⟨rfl, fun _ _ => rfl⟩, ⟨rfl, fun _ _ => rfl⟩, ⟨(cnt_not h5).symm, fun i hi => by rw [selN_not h5]⟩, by omega, by omega⟩
    · have hb : ¬ (k : Int) < 2 * (p.n : Int) := of_decide_eq_false hge
      obtain rfl : k = 2 * p.n := by omega
      refine ⟨⟨?_, fun _ _ => rfl⟩, e.symm⟩
      unfold L.conN; rw [e, hd]; rfl)
theorem p_Settings_ok : SpecOk Tryz.prog 34 p_Settings_S := fnX Tryz.func34 (c := bodyOf Tryz.f34) (by kernel_rfl) mixed (fun args p r hs hp => by
  unfold p_Settings_s at hs
  split at hs
  · cases hs; exact ⟨_, _, p_Settings_vc _ _ hp.2.2, (.p (.sl hp.1) (.p (.sl hp.2.1) .nil)), ⟨show SpecsL Tryz.prog _ from (SpecsL.cons p_ValidOutline_ok p_ValidOutline_en (SpecsL.cons p_congruent_ok p_congruent_en SpecsL.nil)), rfl, ⟨show ItersL Tryz.prog _ from ItersL.nil, (TrsOk.none (fun _ => rfl))⟩⟩⟩
  · cases hs)
theorem p_Settings_en : Enters Tryz.prog 34 := fun args w => by kernel_rfl
def w_among_p (l : (L.Sq L.Setting)) (s : L.Setting) : Prop := l.n ≤ 1000000
def w_among_r (l : (L.Sq L.Setting)) (s : L.Setting) : SV := .bool (L.among l s)
def w_among_s : List EV → Option (Prop × SV)
  | [.p (.sl 2 l_n l_g), .p (.agg [.int .i64 s_shift, .bool s_back])] => some ((∀ i, i < l_n → l_g i = [.int .i64 ((ofSetting (l_g i)).shift), .bool ((ofSetting (l_g i)).back)]) ∧ w_among_p (⟨l_n, fun i => ofSetting (l_g i)⟩ : (L.Sq L.Setting)) (⟨s_shift, s_back⟩ : L.Setting), w_among_r (⟨l_n, fun i => ofSetting (l_g i)⟩ : (L.Sq L.Setting)) (⟨s_shift, s_back⟩ : L.Setting))
  | _ => none
abbrev w_among_S : SE.Spec := (specO w_among_s)
def w_among_C : Cfg := { muts := [], frz := lookN [], specs := lookS [], loops := fun _ => none, iters := lookI [], rfs := lookR [], nils := lookM [] }
theorem w_among_vc (l : (L.Sq L.Setting)) (s : L.Setting) (hp : w_among_p l s) : vc Tryz.prog ({ w_among_C with loops := lookL [(2, { T := Nat, keep := [0, 3], keepO := [], chg := fun i => [(5, .p (.int .i64 (i : Int)))], own := fun _ => [], inv := fun i => i ≤ l.n ∧ ∀ j, j < i → L.sameS (l.g j) s = false, mu := fun i => l.n - i })], rfs := lookR [] }) (bodyOf Tryz.f31) (st0 Tryz.f31 [.p (.sl 2 l.n (fun i => [.int .i64 ((l.g i).shift), .bool ((l.g i).back)])), .p (.agg [.int .i64 s.shift, .bool s.back])]) (retFn Tryz.prog Tryz.f31 (w_among_r l s)) :=
  @Eq.mpr _ ((∃ (g : Nat), (0 : Int) = (↑g : Int) ∧ g ≤ l.n ∧ ∀ (j : Nat), j < g → L.sameS (l.g j) s = Bool.false) ∧ ∀ (g : Nat), (g ≤ l.n ∧ ∀ (j : Nat), j < g → L.sameS (l.g j) s = Bool.false) → (Decidable.decide ((↑g : Int) < (↑l.n : Int)) = Bool.true → ((0 : Int) ≤ (↑g : Int) ∧ (↑g : Int) < (↑l.n : Int)) ∧ ((Decidable.decide ((l.g (Int.toNat (↑g : Int))).shift = s.shift) && (l.g (Int.toNat (↑g : Int))).back
 == s.back) = Bool.true → Bool.true = L.among l s) ∧ ((Decidable.decide ((l.g (Int.toNat (↑g : Int))).shift = s.shift) && (l.g (Int.toNat (↑g : Int))).back == s.back) = Bool.false → Go.SE.InK Go.IntKind.i64 ((↑g : Int) + (1 : Int)) ∧ ∃ (g' : Nat), (↑g : Int) + (1 : Int) = (↑g' : Int) ∧ Go.SE.SV.ref [Go.SE.SV.int Go.IntKind.i64 s.shift, Go.SE.SV.bool s.back] (nat_lit 0) = Go.SE.SV.ref [Go.SE.SV.int
 Go.IntKind.i64 s.shift, Go.SE.SV.bool s.back] (nat_lit 0) ∧ (l.n = l.n ∧ ∀ (i : Nat), i < l.n → [Go.SE.SV.int Go.IntKind.i64 (l.g i).shift, Go.SE.SV.bool (l.g i).back] = [Go.SE.SV.int Go.IntKind.i64 (l.g i).shift, Go.SE.SV.bool (l.g i).back]) ∧ (g' ≤ l.n ∧ ∀ (j : Nat), j < g' → L.sameS (l.g j) s = Bool.false) ∧ l.n - g' < l.n - g)) ∧ (Decidable.decide ((↑g : Int) < (↑l.n : Int)) = Bool.false →
 Bool.false = L.among l s)) (by kernel_rfl) (by
    have hn : l.n ≤ 1000000 := hp
    refine ⟨⟨(0 : Nat), rfl, Nat.zero_le _, fun j hj => absurd hj (Nat.not_lt_zero _)⟩, fun g hg => ⟨fun hlt => ?_, fun hge => ?_⟩⟩
    · have hb : (g : Int) < (l.n : Int) := of_decide_eq_true hlt
      have e0 : ((g : Int)).toNat = g := by omega
      rw [e0]
      refine ⟨⟨by omega, hb⟩, fun h => ?_, fun h => ?_⟩
      · have h : L.sameS (l.g g) s = true := h
        exact (anyB_iff.2 ⟨g, by omega, h⟩).symm
      · have h : L.sameS (l.g g) s = false := h
        exact ⟨InK.of (by omega) (by omega), g + 1, by omega, rfl, ⟨rfl, fun _ _ => rfl⟩, ⟨by omega, fun j hj => by
          rcases Nat.lt_succ_iff_lt_or_eq.1 hj with h' | rfl
          · exact hg.2 j h'
          · exact h⟩, by omega⟩
    · have hb : ¬ (g : Int) < (l.n : Int) := of_decide_eq_false hge
      exact (anyB_no (fun i hi => hg.2 i (by omega))).symm)
theorem w_among_ok : SpecOk Tryz.prog 31 w_among_S := fnX Tryz.func31 (c := bodyOf Tryz.f31) (by kernel_rfl) mixed (fun args p r hs hp => by
  unfold w_among_s at hs
  split at hs
  · cases hs; exact ⟨_, _, w_among_vc _ _ hp.2, (.p (.sl hp.1) (.same _ .nil)), ⟨show SpecsL Tryz.prog _ from SpecsL.nil, rfl, ⟨show ItersL Tryz.prog _ from ItersL.nil, (TrsOk.none (fun _ => rfl))⟩⟩⟩
  · cases hs)
theorem w_among_en : Enters Tryz.prog 31 := fun args w => by kernel_rfl
theorem w_among_B : ∀ args p r, w_among_s args = some (p, r) → ∃ b, r = .bool b := by
  intro args p r h
  unfold w_among_s at h
  split at h
  · cases h; exact ⟨_, rfl⟩
  · cases h
end Go.Proofs.YtkklpamllfkbaaaGreat

namespace Go.Proofs.YtkklpamllfkbaaaGreat
open Go.SE Go.RowKit
set_option maxRecDepth 100000
set_option maxHeartbeats 4000000
set_option linter.unusedVariables false
attribute [local irreducible] Go.SE.vc

def L.ix (n : Nat) (i : Int) : Nat := (Int.tmod (Int.tmod i (n : Int) + (n : Int)) (n : Int)).toNat
theorem tmod_add {m n : Int} (h0 : 0 ≤ m) (h1 : m < n) : Int.tmod (m + n) n = m := by
  rw [Int.tmod_eq_emod_of_nonneg (by omega), Int.add_emod_right, Int.emod_eq_of_lt h0 h1]
theorem ix_self {n k : Nat} (h : k < n) : L.ix n (k : Int) = k := by
  unfold L.ix
  rw [Int.tmod_eq_of_lt (show 0 ≤ (k : Int) by omega) (show (k : Int) < n by omega), tmod_add (by omega) (by omega)]
  omega
theorem ix_next {n k : Nat} (h : k < n) : L.ix n ((k : Int) + 1) = L.next n k := by
  unfold L.ix L.next
  by_cases e : k + 1 < n
  · rw [Int.tmod_eq_of_lt (show 0 ≤ (k : Int) + 1 by omega) (show (k : Int) + 1 < n by omega), tmod_add (by omega) (by omega)]
  · rw [show (k : Int) + 1 = (n : Int) by omega, Int.tmod_self, Int.zero_add, Int.tmod_self]
theorem ix_prev {n k : Nat} (h : k < n) : L.ix n ((k : Int) - 1) = L.prev n k := by
  unfold L.ix L.prev
  by_cases e : 1 ≤ k
  · rw [Int.tmod_eq_of_lt (show 0 ≤ (k : Int) - 1 by omega) (show (k : Int) - 1 < n by omega), show (k : Int) + (n : Int) - 1 = (k : Int) - 1 + n by omega]
  · obtain rfl : k = 0 := by omega
    by_cases e1 : n = 1
    · subst e1; rfl
    · rw [show ((0 : Nat) : Int) - 1 = -(1 : Int) by omega, Int.neg_tmod, Int.tmod_eq_of_lt (show 0 ≤ (1 : Int) by omega) (show (1 : Int) < n by omega), show -(1 : Int) + (n : Int) = ((0 : Nat) : Int) + (n : Int) - 1 by omega]
theorem ix_bd {n : Nat} {i : Int} (h : 0 < n) : 0 ≤ Int.tmod i (n : Int) + (n : Int) ∧ Int.tmod i (n : Int) + (n : Int) ≤ 2 * (n : Int) ∧ 0 ≤ Int.tmod (Int.tmod i (n : Int) + (n : Int)) (n : Int) ∧ Int.tmod (Int.tmod i (n : Int) + (n : Int)) (n : Int) < (n : Int) := by
  have h1 := Int.lt_tmod_of_pos i (show 0 < (n : Int) by omega)
  have h2 := Int.tmod_lt_of_pos i (show 0 < (n : Int) by omega)
  exact ⟨by omega, by omega, Int.tmod_nonneg _ (by omega), Int.tmod_lt_of_pos _ (by omega)⟩
theorem ix_lt {n : Nat} {i : Int} (h : 0 < n) : L.ix n i < n := by
  have := ix_bd (i := i) h
  unfold L.ix; omega
theorem cmpPt_neg {a b : L.Pt} : decide (L.cmpPt a b < 0) = (bif decide (a.x < b.x) then true else bif decide (a.x = b.x) then decide (a.y < b.y) else false) := by
  unfold L.cmpPt L.or2 L.cmp
  rcases Int.lt_trichotomy a.x b.x with h1 | h1 | h1 <;> rcases Int.lt_trichotomy a.y b.y with h2 | h2 | h2 <;> grind
theorem ix_emod {n : Nat} {a : Int} (h : 0 < n) : ((L.ix n a : Nat) : Int) = a % (n : Int) := by
  obtain ⟨q1, q2, q3, q4⟩ := ix_bd (i := a) h
  unfold L.ix
  rw [Int.toNat_of_nonneg q3, Int.tmod_eq_emod_of_nonneg q1, Int.add_emod_right]
  have := Int.tmod_add_mul_tdiv a (n : Int)
  conv => rhs; rw [← this]
  rw [Int.add_mul_emod_self_left]
theorem ix_congr {n : Nat} {a b : Int} (hn : 0 < n) (h : a % (n : Int) = b % (n : Int)) (c : Int) : L.ix n (a + c) = L.ix n (b + c) := by
  have h1 := ix_emod (a := a + c) hn
  have h2 := ix_emod (a := b + c) hn
  rw [← Int.emod_add_emod, h, Int.emod_add_emod] at h1
  omega
theorem ix_ix {n : Nat} {a : Int} (hn : 0 < n) (c : Int) : L.ix n (((L.ix n a : Nat) : Int) + c) = L.ix n (a + c) :=
  ix_congr hn (by rw [ix_emod hn, Int.emod_emod]) c
theorem outline_all {l : L.Sq L.Pt} (hv : L.validOutline l = true) : (∀ i, i < l.n → L.validPt (l.g i) = true) ∧ ∀ i, i < l.n → L.cross (l.g (L.prev l.n i)) (l.g i) (l.g (L.next l.n i)) ≠ 0 := by
  unfold L.validOutline at hv
  rw [Bool.and_eq_true, Bool.and_eq_true] at hv
  constructor
  · have h := hv.1
    unfold L.valid3 at h
    cases h2 : L.validPts l with
    | true => exact allB_iff.1 h2
    | false =>
      rw [h2] at h
      revert h
      cases L.within (l.n : Int) 3 24 <;> intro h <;> cases h
  · intro i hi e
    have h := allB_iff.1 hv.2.1 i hi
    unfold L.corner at h
    rw [decide_eq_true e] at h
    cases h
def r1_ValidPoint_p (p : L.Pt) : Prop := True
def r1_ValidPoint_r (p : L.Pt) : SV := .bool (L.validPt p)
def r1_ValidPoint_s : List EV → Option (Prop × SV)
  | [.p (.agg [.int .i64 p_x, .int .i64 p_y])] => some (r1_ValidPoint_p (⟨p_x, p_y⟩ : L.Pt), r1_ValidPoint_r (⟨p_x, p_y⟩ : L.Pt))
  | _ => none
abbrev r1_ValidPoint_S : SE.Spec := (specO r1_ValidPoint_s)
def r1_ValidPoint_C : Cfg := { muts := [], frz := lookN [], specs := lookS [], loops := lookL [], iters := lookI [], rfs := lookR [], nils := lookM [] }
theorem r1_ValidPoint_vc (p : L.Pt) (hp : r1_ValidPoint_p p) : vc Tryz.prog (r1_ValidPoint_C) (bodyOf Tryz.f110) (st0 Tryz.f110 [.p (.agg [.int .i64 p.x, .int .i64 p.y])]) (retFn Tryz.prog Tryz.f110 (r1_ValidPoint_r p)) :=
  @Eq.mpr _ ((bif bif bif Decidable.decide ((0 : Int) ≤ p.x) then Decidable.decide (p.x ≤ (4096 : Int)) else Bool.false then Decidable.decide ((0 : Int) ≤ p.y) else Bool.false then Decidable.decide (p.y ≤ (4096 : Int)) else Bool.false) = L.validPt p) (by kernel_rfl) (by
    unfold L.validPt L.within
    rw [band, band, band]
    cases decide (0 ≤ p.x) <;> cases decide (p.x ≤ 4096) <;> cases decide (0 ≤ p.y) <;> cases decide (p.y ≤ 4096) <;> rfl)
theorem r1_ValidPoint_ok : SpecOk Tryz.prog 110 r1_ValidPoint_S := fnX Tryz.func110 (c := bodyOf Tryz.f110) (by kernel_rfl) mixed (fun args p r hs hp => by
  unfold r1_ValidPoint_s at hs
  split at hs
  · cases hs; exact ⟨_, _, r1_ValidPoint_vc _ hp, (.same _ .nil), ⟨show SpecsL Tryz.prog _ from SpecsL.nil, rfl, ⟨show ItersL Tryz.prog _ from ItersL.nil, (TrsOk.none (fun _ => rfl))⟩⟩⟩
  · cases hs)
theorem r1_ValidPoint_en : Enters Tryz.prog 110 := fun args w => by kernel_rfl
theorem r1_ValidPoint_B : ∀ args p r, r1_ValidPoint_s args = some (p, r) → ∃ b, r = .bool b := by
  intro args p r h
  unfold r1_ValidPoint_s at h
  split at h
  · cases h; exact ⟨_, rfl⟩
  · cases h
def r1_points_p (l : (L.Sq L.Pt)) : Prop := l.n ≤ 1000000
def r1_points_r (l : (L.Sq L.Pt)) : SV := .bool (L.validPts l)
def r1_points_s : List EV → Option (Prop × SV)
  | [.p (.sl 2 l_n l_g)] => some ((∀ i, i < l_n → l_g i = [.int .i64 ((ofPt (l_g i)).x), .int .i64 ((ofPt (l_g i)).y)]) ∧ r1_points_p (⟨l_n, fun i => ofPt (l_g i)⟩ : (L.Sq L.Pt)), r1_points_r (⟨l_n, fun i => ofPt (l_g i)⟩ : (L.Sq L.Pt)))
  | _ => none
abbrev r1_points_S : SE.Spec := (specO r1_points_s)
def r1_points_C : Cfg := { muts := [], frz := lookN [], specs := lookS [(110, r1_ValidPoint_S)], loops := fun _ => none, iters := lookI [], rfs := lookR [], nils := lookM [] }
theorem r1_points_vc (l : (L.Sq L.Pt)) (hp : r1_points_p l) : vc Tryz.prog ({ r1_points_C with loops := lookL [(2, { T := Nat, keep := [0], keepO := [], chg := fun i => [(3, .p (.int .i64 (i : Int)))], own := fun _ => [], inv := fun i => i ≤ l.n ∧ ∀ j, j < i → L.validPt (l.g j) = true, mu := fun i => l.n - i })], rfs := lookR [] }) (bodyOf Tryz.f60) (st0 Tryz.f60 [.p (.sl 2 l.n (fun i => [.int .i64 ((l.g i).x), .int .i64 ((l.g i).y)]))]) (retFn Tryz.prog Tryz.f60 (r1_points_r l)) :=
  @Eq.mpr _ ((∃ (g : Nat), (0 : Int) = (↑g : Int) ∧ g ≤ l.n ∧ ∀ (j : Nat), j < g → L.validPt (l.g j) = Bool.true) ∧ ∀ (g : Nat), (g ≤ l.n ∧ ∀ (j : Nat), j < g → L.validPt (l.g j) = Bool.true) → (Decidable.decide ((↑g : Int) < (↑l.n : Int)) = Bool.true → ((0 : Int) ≤ (↑g : Int) ∧ (↑g : Int) < (↑l.n : Int)) ∧ True ∧ ((!L.validPt (l.g (Int.toNat (↑g : Int)))) = Bool.true → Bool.false = L.validPts l) ∧
 ((!L.validPt (l.g (Int.toNat (↑g : Int)))) = Bool.false → Go.SE.InK Go.IntKind.i64 ((↑g : Int) + (1 : Int)) ∧ ∃ (g' : Nat), (↑g : Int) + (1 : Int) = (↑g' : Int) ∧ (l.n = l.n ∧ ∀ (i : Nat), i < l.n → [Go.SE.SV.int Go.IntKind.i64 (l.g i).x, Go.SE.SV.int Go.IntKind.i64 (l.g i).y] = [Go.SE.SV.int Go.IntKind.i64 (l.g i).x, Go.SE.SV.int Go.IntKind.i64 (l.g i).y]) ∧ (g' ≤ l.n ∧ ∀ (j : Nat), j < g' →
 L.validPt (l.g j) = Bool.true) ∧ l.n - g' < l.n - g)) ∧ (Decidable.decide ((↑g : Int) < (↑l.n : Int)) = Bool.false → Bool.true = L.validPts l)) (by kernel_rfl) (by
    have hn : l.n ≤ 1000000 := hp
    refine ⟨⟨(0 : Nat), rfl, Nat.zero_le _, fun j hj => absurd hj (Nat.not_lt_zero _)⟩, fun g hg => ⟨fun hlt => ?_, fun hge => ?_⟩⟩
    · have hb : (g : Int) < (l.n : Int) := of_decide_eq_true hlt
      have e0 : ((g : Int)).toNat = g := by omega
      rw [e0]
      refine ⟨by omega, trivial, fun h1 => ?_, fun h1 => ?_⟩
      · unfold L.validPts; rw [allB_false (i := g) (by omega) (notT h1)]
      · exact ⟨InK.of (by omega) (by omega), g + 1, by omega, ⟨rfl, fun _ _ => rfl⟩, ⟨by omega, fun j hj => by
          rcases Nat.lt_succ_iff_lt_or_eq.1 hj with h' | rfl
          · exact hg.2 j h'
          · exact notF h1⟩, by omega⟩
    · have hb : ¬ (g : Int) < (l.n : Int) := of_decide_eq_false hge
      exact (allB_iff.2 (fun i hi => hg.2 i (by omega))).symm)
theorem r1_points_ok : SpecOk Tryz.prog 60 r1_points_S := fnX Tryz.func60 (c := bodyOf Tryz.f60) (by kernel_rfl) mixed (fun args p r hs hp => by
  unfold r1_points_s at hs
  split at hs
  · cases hs; exact ⟨_, _, r1_points_vc _ hp.2, (.p (.sl hp.1) .nil), ⟨show SpecsL Tryz.prog _ from (SpecsL.cons r1_ValidPoint_ok r1_ValidPoint_en SpecsL.nil), rfl, ⟨show ItersL Tryz.prog _ from ItersL.nil, (TrsOk.none (fun _ => rfl))⟩⟩⟩
  · cases hs)
theorem r1_points_en : Enters Tryz.prog 60 := fun args w => by kernel_rfl
theorem r1_points_B : ∀ args p r, r1_points_s args = some (p, r) → ∃ b, r = .bool b := by
  intro args p r h
  unfold r1_points_s at h
  split at h
  · cases h; exact ⟨_, rfl⟩
  · cases h
def r1_Cross_p (a : L.Pt) (b : L.Pt) (c : L.Pt) : Prop := L.bd a ∧ L.bd b ∧ L.bd c
def r1_Cross_r (a : L.Pt) (b : L.Pt) (c : L.Pt) : SV := .int .i64 (L.cross a b c)
def r1_Cross_s : List EV → Option (Prop × SV)
  | [.p (.agg [.int .i64 a_x, .int .i64 a_y]), .p (.agg [.int .i64 b_x, .int .i64 b_y]), .p (.agg [.int .i64 c_x, .int .i64 c_y])] => some (r1_Cross_p (⟨a_x, a_y⟩ : L.Pt) (⟨b_x, b_y⟩ : L.Pt) (⟨c_x, c_y⟩ : L.Pt), r1_Cross_r (⟨a_x, a_y⟩ : L.Pt) (⟨b_x, b_y⟩ : L.Pt) (⟨c_x, c_y⟩ : L.Pt))
  | _ => none
abbrev r1_Cross_S : SE.Spec := (specO r1_Cross_s)
def r1_Cross_C : Cfg := { muts := [], frz := lookN [], specs := lookS [], loops := lookL [], iters := lookI [], rfs := lookR [], nils := lookM [] }
theorem r1_Cross_vc (a : L.Pt) (b : L.Pt) (c : L.Pt) (hp : r1_Cross_p a b c) : vc Tryz.prog (r1_Cross_C) (bodyOf Tryz.f64) (st0 Tryz.f64 [.p (.agg [.int .i64 a.x, .int .i64 a.y]), .p (.agg [.int .i64 b.x, .int .i64 b.y]), .p (.agg [.int .i64 c.x, .int .i64 c.y])]) (retFn Tryz.prog Tryz.f64 (r1_Cross_r a b c)) :=
  @Eq.mpr _ (Go.SE.InK Go.IntKind.i64 (b.x - a.x) ∧ Go.SE.InK Go.IntKind.i64 (c.y - a.y) ∧ Go.SE.InK Go.IntKind.i64 ((b.x - a.x) * (c.y - a.y)) ∧ Go.SE.InK Go.IntKind.i64 (b.y - a.y) ∧ Go.SE.InK Go.IntKind.i64 (c.x - a.x) ∧ Go.SE.InK Go.IntKind.i64 ((b.y - a.y) * (c.x - a.x)) ∧ Go.SE.InK Go.IntKind.i64 ((b.x - a.x) * (c.y - a.y) - (b.y - a.y) * (c.x - a.x)) ∧ (b.x - a.x) * (c.y - a.y) - (b.y - a.y) * (c.x -
 a.x) = L.cross a b c) (by kernel_rfl) (by
    obtain ⟨h1, h2, h3⟩ := hp
    unfold L.bd at h1 h2 h3
    have m1 := mul_bd (a := b.x - a.x) (b := c.y - a.y) (m := 8000000) (n := 8000000) (by omega) (by omega) (by omega) (by omega)
    have m2 := mul_bd (a := b.y - a.y) (b := c.x - a.x) (m := 8000000) (n := 8000000) (by omega) (by omega) (by omega) (by omega)
    exact ⟨InK.of (by omega) (by omega), InK.of (by omega) (by omega), InK.of (by omega) (by omega), InK.of (by omega) (by omega), InK.of (by omega) (by omega), InK.of (by omega) (by omega), InK.of (by omega) (by omega), rfl⟩)
theorem r1_Cross_ok : SpecOk Tryz.prog 64 r1_Cross_S := fnX Tryz.func64 (c := bodyOf Tryz.f64) (by kernel_rfl) mixed (fun args p r hs hp => by
  unfold r1_Cross_s at hs
  split at hs
  · cases hs; exact ⟨_, _, r1_Cross_vc _ _ _ hp, (.same _ (.same _ (.same _ .nil))), ⟨show SpecsL Tryz.prog _ from SpecsL.nil, rfl, ⟨show ItersL Tryz.prog _ from ItersL.nil, (TrsOk.none (fun _ => rfl))⟩⟩⟩
  · cases hs)
theorem r1_Cross_en : Enters Tryz.prog 64 := fun args w => by kernel_rfl
theorem r1_Cross_I : ∀ args p r, r1_Cross_s args = some (p, r) → ∃ n, r = .int .i64 n := by
  intro args p r h
  unfold r1_Cross_s at h
  split at h
  · cases h; exact ⟨_, rfl⟩
  · cases h
def r1_Dist_p (a : L.Pt) (b : L.Pt) : Prop := L.bd a ∧ L.bd b
def r1_Dist_r (a : L.Pt) (b : L.Pt) : SV := .int .i64 (L.dist a b)
def r1_Dist_s : List EV → Option (Prop × SV)
  | [.p (.agg [.int .i64 a_x, .int .i64 a_y]), .p (.agg [.int .i64 b_x, .int .i64 b_y])] => some (r1_Dist_p (⟨a_x, a_y⟩ : L.Pt) (⟨b_x, b_y⟩ : L.Pt), r1_Dist_r (⟨a_x, a_y⟩ : L.Pt) (⟨b_x, b_y⟩ : L.Pt))
  | _ => none
abbrev r1_Dist_S : SE.Spec := (specO r1_Dist_s)
def r1_Dist_C : Cfg := { muts := [], frz := lookN [], specs := lookS [], loops := lookL [], iters := lookI [], rfs := lookR [], nils := lookM [] }
theorem r1_Dist_vc (a : L.Pt) (b : L.Pt) (hp : r1_Dist_p a b) : vc Tryz.prog (r1_Dist_C) (bodyOf Tryz.f140) (st0 Tryz.f140 [.p (.agg [.int .i64 a.x, .int .i64 a.y]), .p (.agg [.int .i64 b.x, .int .i64 b.y])]) (retFn Tryz.prog Tryz.f140 (r1_Dist_r a b)) :=
  @Eq.mpr _ (Go.SE.InK Go.IntKind.i64 (a.x - b.x) ∧ Go.SE.InK Go.IntKind.i64 (a.x - b.x) ∧ Go.SE.InK Go.IntKind.i64 ((a.x - b.x) * (a.x - b.x)) ∧ Go.SE.InK Go.IntKind.i64 (a.y - b.y) ∧ Go.SE.InK Go.IntKind.i64 (a.y - b.y) ∧ Go.SE.InK Go.IntKind.i64 ((a.y - b.y) * (a.y - b.y)) ∧ Go.SE.InK Go.IntKind.i64 ((a.x - b.x) * (a.x - b.x) + (a.y - b.y) * (a.y - b.y)) ∧ (a.x - b.x) * (a.x - b.x) + (a.y - b.y) * (a.y -
 b.y) = L.dist a b) (by kernel_rfl) (by
    obtain ⟨h1, h2⟩ := hp
    unfold L.bd at h1 h2
    have m1 := mul_bd (a := a.x - b.x) (b := a.x - b.x) (m := 8000000) (n := 8000000) (by omega) (by omega) (by omega) (by omega)
    have m2 := mul_bd (a := a.y - b.y) (b := a.y - b.y) (m := 8000000) (n := 8000000) (by omega) (by omega) (by omega) (by omega)
    refine ⟨InK.of (by omega) (by omega), InK.of (by omega) (by omega), InK.of (by omega) (by omega), InK.of (by omega) (by omega), InK.of (by omega) (by omega), InK.of (by omega) (by omega), InK.of (by omega) (by omega), ?_⟩
    unfold L.dist
    rw [show a.x - b.x = -(b.x - a.x) by omega, show a.y - b.y = -(b.y - a.y) by omega, Int.neg_mul_neg, Int.neg_mul_neg])
theorem r1_Dist_ok : SpecOk Tryz.prog 140 r1_Dist_S := fnX Tryz.func140 (c := bodyOf Tryz.f140) (by kernel_rfl) mixed (fun args p r hs hp => by
  unfold r1_Dist_s at hs
  split at hs
  · cases hs; exact ⟨_, _, r1_Dist_vc _ _ hp, (.same _ (.same _ .nil)), ⟨show SpecsL Tryz.prog _ from SpecsL.nil, rfl, ⟨show ItersL Tryz.prog _ from ItersL.nil, (TrsOk.none (fun _ => rfl))⟩⟩⟩
  · cases hs)
theorem r1_Dist_en : Enters Tryz.prog 140 := fun args w => by kernel_rfl
theorem r1_Dist_I : ∀ args p r, r1_Dist_s args = some (p, r) → ∃ n, r = .int .i64 n := by
  intro args p r h
  unfold r1_Dist_s at h
  split at h
  · cases h; exact ⟨_, rfl⟩
  · cases h
def r1_less_p (a : L.Pt) (b : L.Pt) : Prop := True
def r1_less_r (a : L.Pt) (b : L.Pt) : SV := .bool (decide (L.cmpPt a b < 0))
def r1_less_s : List EV → Option (Prop × SV)
  | [.p (.agg [.int .i64 a_x, .int .i64 a_y]), .p (.agg [.int .i64 b_x, .int .i64 b_y])] => some (r1_less_p (⟨a_x, a_y⟩ : L.Pt) (⟨b_x, b_y⟩ : L.Pt), r1_less_r (⟨a_x, a_y⟩ : L.Pt) (⟨b_x, b_y⟩ : L.Pt))
  | _ => none
abbrev r1_less_S : SE.Spec := (specO r1_less_s)
def r1_less_C : Cfg := { muts := [], frz := lookN [], specs := lookS [], loops := lookL [], iters := lookI [], rfs := lookR [], nils := lookM [] }
theorem r1_less_vc (a : L.Pt) (b : L.Pt) (hp : r1_less_p a b) : vc Tryz.prog (r1_less_C) (bodyOf Tryz.f63) (st0 Tryz.f63 [.p (.agg [.int .i64 a.x, .int .i64 a.y]), .p (.agg [.int .i64 b.x, .int .i64 b.y])]) (retFn Tryz.prog Tryz.f63 (r1_less_r a b)) :=
  @Eq.mpr _ ((bif Decidable.decide (a.x < b.x) then Bool.true else bif Decidable.decide (a.x = b.x) then Decidable.decide (a.y < b.y) else Bool.false) = Decidable.decide (L.cmpPt a b < (0 : Int))) (by kernel_rfl) (by
    exact cmpPt_neg.symm)
theorem r1_less_ok : SpecOk Tryz.prog 63 r1_less_S := fnX Tryz.func63 (c := bodyOf Tryz.f63) (by kernel_rfl) mixed (fun args p r hs hp => by
  unfold r1_less_s at hs
  split at hs
  · cases hs; exact ⟨_, _, r1_less_vc _ _ hp, (.same _ (.same _ .nil)), ⟨show SpecsL Tryz.prog _ from SpecsL.nil, rfl, ⟨show ItersL Tryz.prog _ from ItersL.nil, (TrsOk.none (fun _ => rfl))⟩⟩⟩
  · cases hs)
theorem r1_less_en : Enters Tryz.prog 63 := fun args w => by kernel_rfl
theorem r1_less_B : ∀ args p r, r1_less_s args = some (p, r) → ∃ b, r = .bool b := by
  intro args p r h
  unfold r1_less_s at h
  split at h
  · cases h; exact ⟨_, rfl⟩
  · cases h
def r1_On_p (a : L.Pt) (b : L.Pt) (p : L.Pt) : Prop := L.bd a ∧ L.bd b ∧ L.bd p
def r1_On_r (a : L.Pt) (b : L.Pt) (p : L.Pt) : SV := .bool (L.on a b p)
def r1_On_s : List EV → Option (Prop × SV)
  | [.p (.agg [.int .i64 a_x, .int .i64 a_y]), .p (.agg [.int .i64 b_x, .int .i64 b_y]), .p (.agg [.int .i64 p_x, .int .i64 p_y])] => some (r1_On_p (⟨a_x, a_y⟩ : L.Pt) (⟨b_x, b_y⟩ : L.Pt) (⟨p_x, p_y⟩ : L.Pt), r1_On_r (⟨a_x, a_y⟩ : L.Pt) (⟨b_x, b_y⟩ : L.Pt) (⟨p_x, p_y⟩ : L.Pt))
  | _ => none
abbrev r1_On_S : SE.Spec := (specO r1_On_s)
def r1_On_C : Cfg := { muts := [], frz := lookN [], specs := lookS [(64, r1_Cross_S)], loops := lookL [], iters := lookI [], rfs := lookR [], nils := lookM [] }
theorem r1_On_vc (a : L.Pt) (b : L.Pt) (p : L.Pt) (hp : r1_On_p a b p) : vc Tryz.prog (r1_On_C) (bodyOf Tryz.f158) (st0 Tryz.f158 [.p (.agg [.int .i64 a.x, .int .i64 a.y]), .p (.agg [.int .i64 b.x, .int .i64 b.y]), .p (.agg [.int .i64 p.x, .int .i64 p.y])]) (retFn Tryz.prog Tryz.f158 (r1_On_r a b p)) :=
  @Eq.mpr _ ((L.bd a ∧ L.bd b ∧ L.bd p) ∧ (bif bif bif bif Decidable.decide (L.cross a b p = (0 : Int)) then Decidable.decide (Min.min a.x b.x ≤ p.x) else Bool.false then Decidable.decide (p.x ≤ Max.max a.x b.x) else Bool.false then Decidable.decide (Min.min a.y b.y ≤ p.y) else Bool.false then Decidable.decide (p.y ≤ Max.max a.y b.y) else Bool.false) = L.on a b p) (by kernel_rfl) (by
    obtain ⟨h1, h2, h3⟩ := hp
    refine ⟨⟨h1, h2, h3⟩, ?_⟩
    unfold L.on L.within
    rw [band, band, band, band]
    cases decide (L.cross a b p = 0) <;> cases decide (min a.x b.x ≤ p.x) <;> cases decide (p.x ≤ max a.x b.x) <;> cases decide (min a.y b.y ≤ p.y) <;> cases decide (p.y ≤ max a.y b.y) <;> rfl)
theorem r1_On_ok : SpecOk Tryz.prog 158 r1_On_S := fnX Tryz.func158 (c := bodyOf Tryz.f158) (by kernel_rfl) mixed (fun args p r hs hp => by
  unfold r1_On_s at hs
  split at hs
  · cases hs; exact ⟨_, _, r1_On_vc _ _ _ hp, (.same _ (.same _ (.same _ .nil))), ⟨show SpecsL Tryz.prog _ from (SpecsL.cons r1_Cross_ok r1_Cross_en SpecsL.nil), rfl, ⟨show ItersL Tryz.prog _ from ItersL.nil, (TrsOk.none (fun _ => rfl))⟩⟩⟩
  · cases hs)
theorem r1_On_en : Enters Tryz.prog 158 := fun args w => by kernel_rfl
theorem r1_On_B : ∀ args p r, r1_On_s args = some (p, r) → ∃ b, r = .bool b := by
  intro args p r h
  unfold r1_On_s at h
  split at h
  · cases h; exact ⟨_, rfl⟩
  · cases h
def r1_sign_p (n : Int) : Prop := True
def r1_sign_r (n : Int) : SV := .int .i64 (L.cmp n 0)
def r1_sign_s : List EV → Option (Prop × SV)
  | [.p (.int .i64 n)] => some (r1_sign_p n, r1_sign_r n)
  | _ => none
abbrev r1_sign_S : SE.Spec := (specO r1_sign_s)
def r1_sign_C : Cfg := { muts := [], frz := lookN [], specs := lookS [], loops := lookL [], iters := lookI [], rfs := lookR [], nils := lookM [] }
theorem r1_sign_vc (n : Int) (hp : r1_sign_p n) : vc Tryz.prog (r1_sign_C) (bodyOf Tryz.f139) (st0 Tryz.f139 [.p (.int .i64 n)]) (retFn Tryz.prog Tryz.f139 (r1_sign_r n)) :=
  @Eq.mpr _ ((Decidable.decide ((0 : Int) < n) = Bool.true → (1 : Int) = L.cmp n (0 : Int)) ∧ (Decidable.decide ((0 : Int) < n) = Bool.false → (Decidable.decide (n < (0 : Int)) = Bool.true → (-1 : Int) = L.cmp n (0 : Int)) ∧ (Decidable.decide (n < (0 : Int)) = Bool.false → (0 : Int) = L.cmp n (0 : Int)))) (by kernel_rfl) (by
    refine ⟨fun h => ?_, fun h => ⟨fun h1 => ?_, fun h1 => ?_⟩⟩
    · have h := of_decide_eq_true h
      unfold L.cmp; rw [decide_eq_false (by omega), decide_eq_true h]; rfl
    · have h1 := of_decide_eq_true h1
      unfold L.cmp; rw [decide_eq_true h1]; rfl
    · unfold L.cmp; rw [h1, h]; rfl)
theorem r1_sign_ok : SpecOk Tryz.prog 139 r1_sign_S := fnX Tryz.func139 (c := bodyOf Tryz.f139) (by kernel_rfl) mixed (fun args p r hs hp => by
  unfold r1_sign_s at hs
  split at hs
  · cases hs; exact ⟨_, _, r1_sign_vc _ hp, (.same _ .nil), ⟨show SpecsL Tryz.prog _ from SpecsL.nil, rfl, ⟨show ItersL Tryz.prog _ from ItersL.nil, (TrsOk.none (fun _ => rfl))⟩⟩⟩
  · cases hs)
theorem r1_sign_en : Enters Tryz.prog 139 := fun args w => by kernel_rfl
theorem r1_sign_I : ∀ args p r, r1_sign_s args = some (p, r) → ∃ n, r = .int .i64 n := by
  intro args p r h
  unfold r1_sign_s at h
  split at h
  · cases h; exact ⟨_, rfl⟩
  · cases h
def r1_at_p (l : (L.Sq L.Pt)) (i : Int) : Prop := 1 ≤ l.n ∧ l.n ≤ 1000000 ∧ -1000000 ≤ i ∧ i ≤ 1000000
def r1_at_r (l : (L.Sq L.Pt)) (i : Int) : SV := (.agg [.int .i64 ((l.g (L.ix l.n i)).x), .int .i64 ((l.g (L.ix l.n i)).y)])
def r1_at_s : List EV → Option (Prop × SV)
  | [.p (.sl 2 l_n l_g), .p (.int .i64 i)] => some ((∀ i, i < l_n → l_g i = [.int .i64 ((ofPt (l_g i)).x), .int .i64 ((ofPt (l_g i)).y)]) ∧ r1_at_p (⟨l_n, fun i => ofPt (l_g i)⟩ : (L.Sq L.Pt)) i, r1_at_r (⟨l_n, fun i => ofPt (l_g i)⟩ : (L.Sq L.Pt)) i)
  | _ => none
abbrev r1_at_S : SE.Spec := (specO r1_at_s)
def r1_at_C : Cfg := { muts := [], frz := lookN [], specs := lookS [], loops := lookL [], iters := lookI [], rfs := lookR [], nils := lookM [] }
theorem r1_at_vc (l : (L.Sq L.Pt)) (i : Int) (hp : r1_at_p l i) : vc Tryz.prog (r1_at_C) (bodyOf Tryz.f65) (st0 Tryz.f65 [.p (.sl 2 l.n (fun i => [.int .i64 ((l.g i).x), .int .i64 ((l.g i).y)])), .p (.int .i64 i)]) (retFn Tryz.prog Tryz.f65 (r1_at_r l i)) :=
  @Eq.mpr _ ((↑l.n : Int) ≠ (0 : Int) ∧ Go.SE.InK Go.IntKind.i64 (Int.tmod i (↑l.n : Int) + (↑l.n : Int)) ∧ (↑l.n : Int) ≠ (0 : Int) ∧ ((0 : Int) ≤ Int.tmod (Int.tmod i (↑l.n : Int) + (↑l.n : Int)) (↑l.n : Int) ∧ Int.tmod (Int.tmod i (↑l.n : Int) + (↑l.n : Int)) (↑l.n : Int) < (↑l.n : Int)) ∧ Go.SE.SV.agg [Go.SE.SV.int Go.IntKind.i64 (l.g (Int.toNat (Int.tmod (Int.tmod i (↑l.n : Int) + (↑l.n : Int)) (↑l.n :
 Int)))).x, Go.SE.SV.int Go.IntKind.i64 (l.g (Int.toNat (Int.tmod (Int.tmod i (↑l.n : Int) + (↑l.n : Int)) (↑l.n : Int)))).y] = Go.SE.SV.agg [Go.SE.SV.int Go.IntKind.i64 (l.g (L.ix l.n i)).x, Go.SE.SV.int Go.IntKind.i64 (l.g (L.ix l.n i)).y]) (by kernel_rfl) (by
    obtain ⟨h1, h2, h3, h4⟩ := hp
    obtain ⟨q1, q2, q3, q4⟩ := ix_bd (n := l.n) (i := i) (by omega)
    exact ⟨by omega, InK.of (by omega) (by omega), by omega, ⟨q3, q4⟩, rfl⟩)
theorem r1_at_ok : SpecOk Tryz.prog 65 r1_at_S := fnX Tryz.func65 (c := bodyOf Tryz.f65) (by kernel_rfl) mixed (fun args p r hs hp => by
  unfold r1_at_s at hs
  split at hs
  · cases hs; exact ⟨_, _, r1_at_vc _ _ hp.2, (.p (.sl hp.1) (.same _ .nil)), ⟨show SpecsL Tryz.prog _ from SpecsL.nil, rfl, ⟨show ItersL Tryz.prog _ from ItersL.nil, (TrsOk.none (fun _ => rfl))⟩⟩⟩
  · cases hs)
theorem r1_at_en : Enters Tryz.prog 65 := fun args w => by kernel_rfl
def r1_sum_p (l : (L.Sq L.Pt)) : Prop := L.small l
def r1_sum_r (l : (L.Sq L.Pt)) : SV := .int .i64 (L.areaTo l l.n)
def r1_sum_s : List EV → Option (Prop × SV)
  | [.p (.sl 2 l_n l_g)] => some ((∀ i, i < l_n → l_g i = [.int .i64 ((ofPt (l_g i)).x), .int .i64 ((ofPt (l_g i)).y)]) ∧ r1_sum_p (⟨l_n, fun i => ofPt (l_g i)⟩ : (L.Sq L.Pt)), r1_sum_r (⟨l_n, fun i => ofPt (l_g i)⟩ : (L.Sq L.Pt)))
  | _ => none
abbrev r1_sum_S : SE.Spec := (specO r1_sum_s)
def r1_sum_C : Cfg := { muts := [], frz := lookN [], specs := lookS [(65, r1_at_S)], loops := fun _ => none, iters := lookI [], rfs := lookR [], nils := lookM [] }
theorem r1_sum_vc (l : (L.Sq L.Pt)) (hp : r1_sum_p l) : vc Tryz.prog ({ r1_sum_C with loops := lookL [(3, { T := Nat, keep := [0], keepO := [], chg := fun i => [(3, .p (.int .i64 (L.areaTo l i))), (4, .p (.int .i64 (i : Int)))], own := fun _ => [], inv := fun i => i ≤ l.n, mu := fun i => l.n - i })], rfs := lookR [] }) (bodyOf Tryz.f62) (st0 Tryz.f62 [.p (.sl 2 l.n (fun i => [.int .i64 ((l.g i).x), .int .i64 ((l.g i).y)]))]) (retFn Tryz.prog Tryz.f62 (r1_sum_r l)) :=
  @Eq.mpr _ ((∃ (g : Nat), (0 : Int) = L.areaTo l g ∧ (0 : Int) = (↑g : Int) ∧ g ≤ l.n) ∧ ∀ (g : Nat), g ≤ l.n → (Decidable.decide ((↑g : Int) < (↑l.n : Int)) = Bool.true → ((∀ (i : Nat), i < l.n → [Go.SE.SV.int Go.IntKind.i64 (l.g i).x, Go.SE.SV.int Go.IntKind.i64 (l.g i).y] = [Go.SE.SV.int Go.IntKind.i64 (l.g i).x, Go.SE.SV.int Go.IntKind.i64 (l.g i).y]) ∧ (1 : Nat) ≤ l.n ∧ l.n ≤ (1000000 : Nat) ∧ (-1000000
 : Int) ≤ (↑g : Int) ∧ (↑g : Int) ≤ (1000000 : Int)) ∧ Go.SE.InK Go.IntKind.i64 ((↑g : Int) + (1 : Int)) ∧ ((∀ (i : Nat), i < l.n → [Go.SE.SV.int Go.IntKind.i64 (l.g i).x, Go.SE.SV.int Go.IntKind.i64 (l.g i).y] = [Go.SE.SV.int Go.IntKind.i64 (l.g i).x, Go.SE.SV.int Go.IntKind.i64 (l.g i).y]) ∧ (1 : Nat) ≤ l.n ∧ l.n ≤ (1000000 : Nat) ∧ (-1000000 : Int) ≤ (↑g : Int) + (1 : Int) ∧ (↑g : Int) + (1 :
 Int) ≤ (1000000 : Int)) ∧ Go.SE.InK Go.IntKind.i64 ((l.g (L.ix l.n (↑g : Int))).x * (l.g (L.ix l.n ((↑g : Int) + (1 : Int)))).y) ∧ Go.SE.InK Go.IntKind.i64 ((l.g (L.ix l.n ((↑g : Int) + (1 : Int)))).x * (l.g (L.ix l.n (↑g : Int))).y) ∧ Go.SE.InK Go.IntKind.i64 ((l.g (L.ix l.n (↑g : Int))).x * (l.g (L.ix l.n ((↑g : Int) + (1 : Int)))).y - (l.g (L.ix l.n ((↑g : Int) + (1 : Int)))).x * (l.g (L.ix l.n
 (↑g : Int))).y) ∧ Go.SE.InK Go.IntKind.i64 (L.areaTo l g + ((l.g (L.ix l.n (↑g : Int))).x * (l.g (L.ix l.n ((↑g : Int) + (1 : Int)))).y - (l.g (L.ix l.n ((↑g : Int) + (1 : Int)))).x * (l.g (L.ix l.n (↑g : Int))).y)) ∧ Go.SE.InK Go.IntKind.i64 ((↑g : Int) + (1 : Int)) ∧ ∃ (g' : Nat), L.areaTo l g + ((l.g (L.ix l.n (↑g : Int))).x * (l.g (L.ix l.n ((↑g : Int) + (1 : Int)))).y - (l.g (L.ix l.n ((↑g :
 Int) + (1 : Int)))).x * (l.g (L.ix l.n (↑g : Int))).y) = L.areaTo l g' ∧ (↑g : Int) + (1 : Int) = (↑g' : Int) ∧ (l.n = l.n ∧ ∀ (i : Nat), i < l.n → [Go.SE.SV.int Go.IntKind.i64 (l.g i).x, Go.SE.SV.int Go.IntKind.i64 (l.g i).y] = [Go.SE.SV.int Go.IntKind.i64 (l.g i).x, Go.SE.SV.int Go.IntKind.i64 (l.g i).y]) ∧ g' ≤ l.n ∧ l.n - g' < l.n - g) ∧ (Decidable.decide ((↑g : Int) < (↑l.n : Int)) =
 Bool.false → L.areaTo l g = L.areaTo l l.n)) (by kernel_rfl) (by
    have hs : L.small l := hp
    have hn := hs.1
    refine ⟨⟨(0 : Nat), rfl, rfl, Nat.zero_le _⟩, fun g hg => ⟨fun hlt => ?_, fun hge => ?_⟩⟩
    · have hb : (g : Int) < (l.n : Int) := of_decide_eq_true hlt
      have hk : g < l.n := by omega
      rw [ix_self hk, ix_next hk]
      have b1 := area_term hs hk
      have b2 := areaTo_bd hs g hg
      exact ⟨⟨fun _ _ => rfl, by omega, by omega, by omega, by omega⟩, InK.of (by omega) (by omega), ⟨fun _ _ => rfl, by omega, by omega, by omega, by omega⟩, InK.of (by omega) (by omega), InK.of (by omega) (by omega), InK.of (by omega) (by omega), InK.of (by omega) (by omega), InK.of (by omega) (by omega), g + 1, rfl, by omega, ⟨rfl, fun _ _ => rfl⟩, by omega, by omega⟩
    · have hb : ¬ (g : Int) < (l.n : Int) := of_decide_eq_false hge
      obtain rfl : g = l.n := by omega
      rfl)
theorem r1_sum_ok : SpecOk Tryz.prog 62 r1_sum_S := fnX Tryz.func62 (c := bodyOf Tryz.f62) (by kernel_rfl) mixed (fun args p r hs hp => by
  unfold r1_sum_s at hs
  split at hs
  · cases hs; exact ⟨_, _, r1_sum_vc _ hp.2, (.p (.sl hp.1) .nil), ⟨show SpecsL Tryz.prog _ from (SpecsL.cons r1_at_ok r1_at_en SpecsL.nil), rfl, ⟨show ItersL Tryz.prog _ from ItersL.nil, (TrsOk.none (fun _ => rfl))⟩⟩⟩
  · cases hs)
theorem r1_sum_en : Enters Tryz.prog 62 := fun args w => by kernel_rfl
theorem r1_sum_I : ∀ args p r, r1_sum_s args = some (p, r) → ∃ n, r = .int .i64 n := by
  intro args p r h
  unfold r1_sum_s at h
  split at h
  · cases h; exact ⟨_, rfl⟩
  · cases h
end Go.Proofs.YtkklpamllfkbaaaGreat

namespace Go.Proofs.YtkklpamllfkbaaaGreat
open Go.SE Go.RowKit
set_option maxRecDepth 100000
set_option maxHeartbeats 4000000
set_option linter.unusedVariables false
attribute [local irreducible] Go.SE.vc

def ofSqPt : List SV → L.Sq L.Pt
  | [.sl _ n g] => ⟨n, fun i => ofPt (g i)⟩
  | _ => ⟨0, fun _ => ⟨0, 0⟩⟩
def rowPt : List SV → Prop
  | [.sl 2 n g] => ∀ i, i < n → g i = [.int .i64 (ofPt (g i)).x, .int .i64 (ofPt (g i)).y]
  | _ => False
theorem row_len {l : List SV} (h : rowPt l) : l.length = 1 ∧ Ext (SV.at l 0) (.sl 2 (ofSqPt l).n (fun k => [.int .i64 ((ofSqPt l).g k).x, .int .i64 ((ofSqPt l).g k).y])) := by
  unfold rowPt at h
  split at h
  · rename_i n g
    exact ⟨rfl, .sl h⟩
  · exact h.elim
def L.two (a b : L.Sq L.Pt) (i : Nat) : L.Sq L.Pt := bif decide (i = 0) then a else b
theorem rows_ext {g : Nat → List SV} (h : rowPt (g 0) ∧ rowPt (g 1)) : Ext (.sl 1 2 g) (.sl 1 2 (fun i => [.sl 2 (L.two (ofSqPt (g 0)) (ofSqPt (g 1)) i).n (fun k => [.int .i64 ((L.two (ofSqPt (g 0)) (ofSqPt (g 1)) i).g k).x, .int .i64 ((L.two (ofSqPt (g 0)) (ofSqPt (g 1)) i).g k).y])])) := by
  have key : ∀ i, i < 2 → rowPt (g i) ∧ L.two (ofSqPt (g 0)) (ofSqPt (g 1)) i = ofSqPt (g i) := fun i hi => by
    match i, hi with
    | 0, _ => exact ⟨h.1, rfl⟩
    | 1, _ => exact ⟨h.2, rfl⟩
  refine .sl2 (fun i hi => (row_len (key i hi).1).1.symm) (fun i hi j hj => ?_)
  rw [(row_len (key i hi).1).1] at hj
  obtain rfl : j = 0 := by omega
  rw [(key i hi).2]
  exact (row_len (key i hi).1).2
def L.catTo (c : Nat → L.Sq L.Pt) : Nat → L.Sq L.Pt
  | 0 => ⟨0, fun _ => ⟨0, 0⟩⟩
  | i + 1 => ⟨(L.catTo c i).n + (c i).n, fun k => bif decide (k < (L.catTo c i).n) then (L.catTo c i).g k else (c i).g (k - (L.catTo c i).n)⟩
def L.revTo (l : L.Sq L.Pt) (i k : Nat) : L.Pt := bif decide (k < i) || decide (l.n ≤ k + i) then l.g (l.n - 1 - k) else l.g k
def L.minTo (l : L.Sq L.Pt) : Nat → L.Pt
  | 0 => l.g 0
  | i + 1 => bif decide (L.cmpPt (l.g (i + 1)) (L.minTo l i) < 0) then l.g (i + 1) else L.minTo l i
def L.ptIdx (l : L.Sq L.Pt) (v : L.Pt) : Int := L.idx l.n (fun i => L.same v (l.g i))
def L.flip (l : L.Sq L.Pt) : L.Sq L.Pt := bif decide (L.areaTo l l.n < 0) then ⟨l.n, fun k => l.g (l.n - 1 - k)⟩ else l
def L.minK (l : L.Sq L.Pt) : Nat := (L.ptIdx l (L.minTo l (l.n - 1))).toNat
def L.rot (l : L.Sq L.Pt) (d : Nat) : L.Sq L.Pt := ⟨l.n, fun k => bif decide (k < l.n - d) then l.g (d + k) else l.g (k - (l.n - d))⟩
def L.norm (l : L.Sq L.Pt) : L.Sq L.Pt := ⟨l.n, fun k => (L.rot (L.flip l) (L.minK (L.flip l))).g k⟩
theorem same_eq {a b : L.Pt} (h : L.same a b = true) : a = b := by
  unfold L.same at h
  rw [Bool.and_eq_true, decide_eq_true_eq, decide_eq_true_eq] at h
  cases a; cases b
  simp only at h
  rw [h.1, h.2]
theorem same_refl (a : L.Pt) : L.same a a = true := by simp [L.same]
theorem ptIdx_of {l : L.Sq L.Pt} {j : Nat} (hj : j < l.n) : ∃ i, i ≤ j ∧ L.ptIdx l (l.g j) = (i : Int) ∧ l.g i = l.g j ∧ ∀ k, k < i → l.g k ≠ l.g j := by
  unfold L.ptIdx
  rcases idx_cases (f := fun i => L.same (l.g j) (l.g i)) (n := l.n) with ⟨_, h2⟩ | ⟨i, h1, h2, h3, h4⟩
  · have := h2 j hj
    rw [same_refl] at this; cases this
  · refine ⟨i, ?_, h2, (same_eq h3).symm, fun k hk e => ?_⟩
    · rcases Nat.lt_or_ge j i with h | h
      · have := h4 j h
        rw [same_refl] at this; cases this
      · exact h
    · have := h4 k hk
      rw [e, same_refl] at this; cases this
theorem cmpPt_lt {a b : L.Pt} : L.cmpPt a b < 0 ↔ a.x < b.x ∨ (a.x = b.x ∧ a.y < b.y) := by
  unfold L.cmpPt L.or2 L.cmp
  by_cases h1 : a.x < b.x
  · simp [h1]
  · by_cases h2 : b.x < a.x
    · simp [h1, h2]; omega
    · by_cases h3 : a.y < b.y
      · simp [h1, h2, h3]; try omega
      · by_cases h4 : b.y < a.y
        · simp [h1, h2, h3, h4]
        · simp [h1, h2, h3, h4]
def s_cloneP_p (l : (L.Sq L.Pt)) : Prop := l.n ≤ 1000000
def s_cloneP_q (l : (L.Sq L.Pt)) : Nat → Prop := fun _ => True
def s_cloneP_n (l : (L.Sq L.Pt)) : Nat → Nat := fun _ => l.n
def s_cloneP_g (l : (L.Sq L.Pt)) : Nat → Nat → List SV := fun _ i => [.int .i64 ((l.g i).x), .int .i64 ((l.g i).y)]
def s_cloneP_s : List EV → Option (Prop × (Nat → Prop) × (Nat → Nat) × (Nat → Nat → List SV))
  | [.p (.sl 2 l_n l_g)] => some ((∀ i, i < l_n → l_g i = [.int .i64 ((ofPt (l_g i)).x), .int .i64 ((ofPt (l_g i)).y)]) ∧ s_cloneP_p (⟨l_n, fun i => ofPt (l_g i)⟩ : (L.Sq L.Pt)), s_cloneP_q (⟨l_n, fun i => ofPt (l_g i)⟩ : (L.Sq L.Pt)), s_cloneP_n (⟨l_n, fun i => ofPt (l_g i)⟩ : (L.Sq L.Pt)), s_cloneP_g (⟨l_n, fun i => ofPt (l_g i)⟩ : (L.Sq L.Pt)))
  | _ => none
abbrev s_cloneP_S : SE.Spec := (specF Nat 0 63 2 s_cloneP_s)
def s_cloneP_C : Cfg := { muts := [5], frz := lookN [], specs := lookS [], loops := lookL [], iters := lookI [], rfs := lookR [], nils := lookM [] }
theorem s_cloneP_vc (l : (L.Sq L.Pt)) (hp : s_cloneP_p l) : vc Tryz.prog (s_cloneP_C) (bodyOf Tryz.f143) (st0 Tryz.f143 [.p (.sl 2 l.n (fun i => [.int .i64 ((l.g i).x), .int .i64 ((l.g i).y)]))]) (retFresh Tryz.prog Tryz.f143 (Nat) (s_cloneP_q l) 63 2 (s_cloneP_n l) (s_cloneP_g l)) :=
  @Eq.mpr _ (∀ (b : Bool), (b = !Bool.false → l.n = (0 : Nat)) → (b = Bool.true → ∃ (t : Nat), l.n = (0 : Nat) ∧ True) ∧ (b = Bool.false → (nat_lit 0 + l.n) * nat_lit 16 ≤ (140737488355328 : Nat) ∧ ∃ (t : Nat), (nat_lit 0 + l.n = l.n ∧ ∀ (i : Nat), i < nat_lit 0 + l.n → Go.SE.appGet (nat_lit 0) (Go.SE.rowsOf [] (nat_lit 2)) (fun (i : Nat) ↦ [Go.SE.SV.int Go.IntKind.i64 (l.g i).x, Go.SE.SV.int Go.IntKind.i64
 (l.g i).y]) i = [Go.SE.SV.int Go.IntKind.i64 (l.g i).x, Go.SE.SV.int Go.IntKind.i64 (l.g i).y]) ∧ True)) (by kernel_rfl) (by
    have hn : l.n ≤ 1000000 := hp
    refine fun b hb => ⟨fun h => ⟨(0 : Nat), hb h, trivial⟩, fun h => ⟨show (0 + l.n) * 16 ≤ 140737488355328 by omega, (0 : Nat), ⟨Nat.zero_add _, fun i hi => ?_⟩, trivial⟩⟩
    unfold appGet; rw [if_neg (Nat.not_lt_zero _)]; rfl)
theorem s_cloneP_ok : SpecOk Tryz.prog 143 s_cloneP_S := freshX Tryz.func143 (c := bodyOf Tryz.f143) (by kernel_rfl) mixed (fun args p q n g hs hp => by
  unfold s_cloneP_s at hs
  split at hs
  · cases hs; exact ⟨_, _, s_cloneP_vc _ hp.2, (.p (.sl hp.1) .nil), ⟨show SpecsL Tryz.prog _ from SpecsL.nil, rfl, ⟨show ItersL Tryz.prog _ from ItersL.nil, (TrsOk.none (fun _ => rfl))⟩⟩⟩
  · cases hs)
theorem s_cloneP_en : Enters Tryz.prog 143 := fun args w => by kernel_rfl
def s_grow_p (s : Nat) (n : Int) : Prop := 1 ≤ n ∧ n ≤ 2000000
def s_grow_q (s : Nat) (n : Int) : Nat → Prop := fun _ => True
def s_grow_n (s : Nat) (n : Int) : Nat → Nat := fun _ => 0
def s_grow_g (s : Nat) (n : Int) : Nat → Nat → List SV := fun _ _ => []
def s_grow_s : List EV → Option (Prop × (Nat → Prop) × (Nat → Nat) × (Nat → Nat → List SV))
  | [.p (.raw (.slice none 0 0)), .p (.int .i64 n)] => some (s_grow_p (0 : Nat) n, s_grow_q (0 : Nat) n, s_grow_n (0 : Nat) n, s_grow_g (0 : Nat) n)
  | _ => none
abbrev s_grow_S : SE.Spec := (specF Nat 0 63 2 s_grow_s)
def s_grow_C : Cfg := { muts := [22], frz := lookN [], specs := lookS [], loops := lookL [], iters := lookI [], rfs := lookR [], nils := lookM [], cuts := [25] }
theorem s_grow_vc (s : Nat) (n : Int) (hp : s_grow_p s n) : vc Tryz.prog (s_grow_C) (bodyOf Tryz.f176) (st0 Tryz.f176 [.p (.raw (.slice none 0 0)), .p (.int .i64 n)]) (retFresh Tryz.prog Tryz.f176 (Nat) (s_grow_q s n) 63 2 (s_grow_n s n) (s_grow_g s n)) :=
  @Eq.mpr _ ((Decidable.decide (n < (0 : Int)) = Bool.true → False) ∧ (Decidable.decide (n < (0 : Int)) = Bool.false → Go.SE.InK Go.IntKind.i64 ((↑(0 : Nat) : Int) - (↑(0 : Nat) : Int)) ∧ Go.SE.InK Go.IntKind.i64 (n - ((↑(0 : Nat) : Int) - (↑(0 : Nat) : Int))) ∧ (Decidable.decide ((0 : Int) < n - ((↑(0 : Nat) : Int) - (↑(0 : Nat) : Int))) = Bool.true → ((0 : Int) ≤ (0 : Int) ∧ (0 : Int) ≤ (↑(0 : Nat) : Int) ∧
 (↑(0 : Nat) : Int) ≤ (0 : Int)) ∧ ((0 : Int) < n - ((↑(0 : Nat) : Int) - (↑(0 : Nat) : Int)) ∧ (n - ((↑(0 : Nat) : Int) - (↑(0 : Nat) : Int))) * (↑(nat_lit 16) : Int) ≤ (140737488355328 : Int)) ∧ ((0 : Int) ≤ (↑(0 : Nat) : Int) ∧ (↑(0 : Nat) : Int) ≤ (↑(Int.toNat (n - ((↑(0 : Nat) : Int) - (↑(0 : Nat) : Int)))) : Int)) ∧ ∃ (t : Nat), (nat_lit 0 = (0 : Nat) ∧ ∀ (i : Nat), i < nat_lit 0 →
 [Go.SE.SV.int Go.IntKind.i64 (0 : Int), Go.SE.SV.int Go.IntKind.i64 (0 : Int)] = []) ∧ True) ∧ (Decidable.decide ((0 : Int) < n - ((↑(0 : Nat) : Int) - (↑(0 : Nat) : Int))) = Bool.false → ∃ (t : Nat), (0 : Nat) = (0 : Nat) ∧ True))) (by kernel_rfl) (by
    obtain ⟨h1, h2⟩ := hp
    refine ⟨fun h => ?_, fun _ => ⟨InK.of (by omega) (by omega), InK.of (by omega) (by omega), fun h => ⟨⟨by omega, by omega, by omega⟩, ⟨by omega, show (n - (((0 : Nat) : Int) - ((0 : Nat) : Int))) * 16 ≤ 140737488355328 by omega⟩, ⟨by omega, by omega⟩, (0 : Nat), ⟨rfl, fun i hi => absurd hi (Nat.not_lt_zero _)⟩, trivial⟩, fun h => ⟨(0 : Nat), rfl, trivial⟩⟩⟩
    have := of_decide_eq_true h
    omega)
theorem s_grow_ok : SpecOk Tryz.prog 176 s_grow_S := freshX Tryz.func176 (c := bodyOf Tryz.f176) (by kernel_rfl) mixed (fun args p q n g hs hp => by
  unfold s_grow_s at hs
  split at hs
  · cases hs; exact ⟨_, _, s_grow_vc _ _ hp, (.same _ (.same _ .nil)), ⟨show SpecsL Tryz.prog _ from SpecsL.nil, rfl, ⟨show ItersL Tryz.prog _ from ItersL.nil, (TrsOk.none (fun _ => rfl))⟩⟩⟩
  · cases hs)
theorem s_grow_en : Enters Tryz.prog 176 := fun args w => by kernel_rfl
def s_concat_p (c : (Nat → L.Sq L.Pt)) : Prop := 1 ≤ (c 0).n + (c 1).n ∧ (c 0).n ≤ 1000000 ∧ (c 1).n ≤ 1000000
def s_concat_q (c : (Nat → L.Sq L.Pt)) : Nat → Prop := fun _ => True
def s_concat_n (c : (Nat → L.Sq L.Pt)) : Nat → Nat := fun _ => (L.catTo c 2).n
def s_concat_g (c : (Nat → L.Sq L.Pt)) : Nat → Nat → List SV := fun _ k => [.int .i64 (((L.catTo c 2).g k).x), .int .i64 (((L.catTo c 2).g k).y)]
def s_concat_s : List EV → Option (Prop × (Nat → Prop) × (Nat → Nat) × (Nat → Nat → List SV))
  | [.p (.sl 1 2 c_g)] => some ((rowPt (c_g 0) ∧ rowPt (c_g 1)) ∧ s_concat_p (L.two (ofSqPt (c_g 0)) (ofSqPt (c_g 1))), s_concat_q (L.two (ofSqPt (c_g 0)) (ofSqPt (c_g 1))), s_concat_n (L.two (ofSqPt (c_g 0)) (ofSqPt (c_g 1))), s_concat_g (L.two (ofSqPt (c_g 0)) (ofSqPt (c_g 1))))
  | _ => none
abbrev s_concat_S : SE.Spec := (specF Nat 0 63 2 s_concat_s)
def s_concat_C : Cfg := { muts := [24], frz := lookN [], specs := lookS [(176, s_grow_S)], loops := fun _ => none, iters := lookI [], rfs := lookR [], nils := lookM [], raws := [176] }
theorem s_concat_vc (c : (Nat → L.Sq L.Pt)) (hp : s_concat_p c) : vc Tryz.prog ({ s_concat_C with loops := lookL [(3, { T := Nat, keep := [0, 9, 10], keepO := [], chg := fun i => [(3, .p (.int .i64 ((L.catTo c i).n : Int))), (11, .p (.int .i64 (i : Int)))], own := fun _ => [], inv := fun i => i ≤ 2, mu := fun i => 2 - i }), (11, { T := Nat, keep := [0, 6, 25, 26], keepO := [], chg := fun i => [(27, .p (.int .i64 (i : Int)))], own := fun i => [(24, .row 63 2 (L.catTo c i).n (fun k => [.int .i64 (((L.catTo c i).g k).x), .int .i64 (((L.catTo c i).g k).y)]))], inv := fun i => i ≤ 2, mu := fun i => 2 - i })], rfs := lookR [] }) (bodyOf Tryz.f146) (st0 Tryz.f146 [.p (.sl 1 2 (fun i => [.sl 2 (c i).n (fun k => [.int .i64 ((c i).g k).x, .int .i64 ((c i).g k).y])]))]) (retFresh Tryz.prog Tryz.f146 (Nat) (s_concat_q c) 63 2 (s_concat_n c) (s_concat_g c)) :=
  @Eq.mpr _ ((∃ (g : Nat), (0 : Int) = (↑(L.catTo c g).n : Int) ∧ (0 : Int) = (↑g : Int) ∧ g ≤ (2 : Nat)) ∧ ∀ (g : Nat), g ≤ (2 : Nat) → (Decidable.decide ((↑g : Int) < (↑(nat_lit 2) : Int)) = Bool.true → ((0 : Int) ≤ (↑g : Int) ∧ (↑g : Int) < (↑(nat_lit 2) : Int)) ∧ Go.SE.InK Go.IntKind.i64 ((↑(L.catTo c g).n : Int) + (↑(c (Int.toNat (↑g : Int))).n : Int)) ∧ (Bool.false = Bool.true → False) ∧ (Bool.false =
 Bool.false → Go.SE.InK Go.IntKind.i64 ((↑g : Int) + (1 : Int)) ∧ ∃ (g' : Nat), (↑(L.catTo c g).n : Int) + (↑(c (Int.toNat (↑g : Int))).n : Int) = (↑(L.catTo c g').n : Int) ∧ (↑g : Int) + (1 : Int) = (↑g' : Int) ∧ (↑(nat_lit 2) : Int) = (↑(nat_lit 2) : Int) ∧ (nat_lit 2 = nat_lit 2 ∧ ∀ (i : Nat), i < nat_lit 2 → [Go.SE.SV.sl (2 : Nat) (c i).n fun (k : Nat) ↦ [Go.SE.SV.int Go.IntKind.i64 ((c i).g
 k).x, Go.SE.SV.int Go.IntKind.i64 ((c i).g k).y]] = [Go.SE.SV.sl (2 : Nat) (c i).n fun (k : Nat) ↦ [Go.SE.SV.int Go.IntKind.i64 ((c i).g k).x, Go.SE.SV.int Go.IntKind.i64 ((c i).g k).y]]) ∧ (nat_lit 2 = nat_lit 2 ∧ ∀ (i : Nat), i < nat_lit 2 → [Go.SE.SV.sl (2 : Nat) (c i).n fun (k : Nat) ↦ [Go.SE.SV.int Go.IntKind.i64 ((c i).g k).x, Go.SE.SV.int Go.IntKind.i64 ((c i).g k).y]] = [Go.SE.SV.sl (2 :
 Nat) (c i).n fun (k : Nat) ↦ [Go.SE.SV.int Go.IntKind.i64 ((c i).g k).x, Go.SE.SV.int Go.IntKind.i64 ((c i).g k).y]]) ∧ g' ≤ (2 : Nat) ∧ (2 : Nat) - g' < (2 : Nat) - g)) ∧ (Decidable.decide ((↑g : Int) < (↑(nat_lit 2) : Int)) = Bool.false → ((1 : Int) ≤ (↑(L.catTo c g).n : Int) ∧ (↑(L.catTo c g).n : Int) ≤ (2000000 : Int)) ∧ ∀ (t : Nat), True → (∃ (g : Nat), (0 : Int) = (↑g : Int) ∧ ((0 : Nat) =
 (L.catTo c g).n ∧ ∀ (i : Nat), i < (0 : Nat) → [] = [Go.SE.SV.int Go.IntKind.i64 ((L.catTo c g).g i).x, Go.SE.SV.int Go.IntKind.i64 ((L.catTo c g).g i).y]) ∧ g ≤ (2 : Nat)) ∧ ∀ (g_1 : Nat), g_1 ≤ (2 : Nat) → (Decidable.decide ((↑g_1 : Int) < (↑(nat_lit 2) : Int)) = Bool.true → ((0 : Int) ≤ (↑g_1 : Int) ∧ (↑g_1 : Int) < (↑(nat_lit 2) : Int)) ∧ ((L.catTo c g_1).n + (c (Int.toNat (↑g_1 : Int))).n) *
 nat_lit 16 ≤ (140737488355328 : Nat) ∧ Go.SE.InK Go.IntKind.i64 ((↑g_1 : Int) + (1 : Int)) ∧ ∃ (g' : Nat), (↑g_1 : Int) + (1 : Int) = (↑g' : Int) ∧ (↑(nat_lit 2) : Int) = (↑(nat_lit 2) : Int) ∧ (nat_lit 2 = nat_lit 2 ∧ ∀ (i : Nat), i < nat_lit 2 → [Go.SE.SV.sl (2 : Nat) (c i).n fun (k : Nat) ↦ [Go.SE.SV.int Go.IntKind.i64 ((c i).g k).x, Go.SE.SV.int Go.IntKind.i64 ((c i).g k).y]] = [Go.SE.SV.sl (2
 : Nat) (c i).n fun (k : Nat) ↦ [Go.SE.SV.int Go.IntKind.i64 ((c i).g k).x, Go.SE.SV.int Go.IntKind.i64 ((c i).g k).y]]) ∧ (nat_lit 2 = nat_lit 2 ∧ ∀ (i : Nat), i < nat_lit 2 → [Go.SE.SV.sl (2 : Nat) (c i).n fun (k : Nat) ↦ [Go.SE.SV.int Go.IntKind.i64 ((c i).g k).x, Go.SE.SV.int Go.IntKind.i64 ((c i).g k).y]] = [Go.SE.SV.sl (2 : Nat) (c i).n fun (k : Nat) ↦ [Go.SE.SV.int Go.IntKind.i64 ((c i).g
 k).x, Go.SE.SV.int Go.IntKind.i64 ((c i).g k).y]]) ∧ ((L.catTo c g_1).n + (c (Int.toNat (↑g_1 : Int))).n = (L.catTo c g').n ∧ ∀ (i : Nat), i < (L.catTo c g_1).n + (c (Int.toNat (↑g_1 : Int))).n → Go.SE.appGet (L.catTo c g_1).n (fun (k : Nat) ↦ [Go.SE.SV.int Go.IntKind.i64 ((L.catTo c g_1).g k).x, Go.SE.SV.int Go.IntKind.i64 ((L.catTo c g_1).g k).y]) (fun (k : Nat) ↦ [Go.SE.SV.int Go.IntKind.i64
 ((c (Int.toNat (↑g_1 : Int))).g k).x, Go.SE.SV.int Go.IntKind.i64 ((c (Int.toNat (↑g_1 : Int))).g k).y]) i = [Go.SE.SV.int Go.IntKind.i64 ((L.catTo c g').g i).x, Go.SE.SV.int Go.IntKind.i64 ((L.catTo c g').g i).y]) ∧ g' ≤ (2 : Nat) ∧ (2 : Nat) - g' < (2 : Nat) - g_1) ∧ (Decidable.decide ((↑g_1 : Int) < (↑(nat_lit 2) : Int)) = Bool.false → ∃ (t : Nat), ((L.catTo c g_1).n = (L.catTo c (2 : Nat)).n ∧
 ∀ (i : Nat), i < (L.catTo c g_1).n → [Go.SE.SV.int Go.IntKind.i64 ((L.catTo c g_1).g i).x, Go.SE.SV.int Go.IntKind.i64 ((L.catTo c g_1).g i).y] = [Go.SE.SV.int Go.IntKind.i64 ((L.catTo c (2 : Nat)).g i).x, Go.SE.SV.int Go.IntKind.i64 ((L.catTo c (2 : Nat)).g i).y]) ∧ True))) (by kernel_rfl) (by
    obtain ⟨h1, h2, h3⟩ := hp
    have hc : ∀ i, i < 2 → (c i).n ≤ 1000000 := fun i hi => by
      match i, hi with
      | 0, _ => exact h2
      | 1, _ => exact h3
    have e1 : (L.catTo c 1).n = 0 + (c 0).n := rfl
    have e2 : (L.catTo c 2).n = 0 + (c 0).n + (c 1).n := rfl
    have ht : ∀ i, i ≤ 2 → (L.catTo c i).n ≤ 2000000 := fun i hi => by
      match i, hi with
      | 0, _ => exact Nat.zero_le _
      | 1, _ => omega
      | 2, _ => omega
    refine ⟨⟨(0 : Nat), rfl, rfl, Nat.zero_le _⟩, fun g hg => ⟨fun hlt => ?_, fun hge => ?_⟩⟩
    · have hb : (g : Int) < 2 := of_decide_eq_true hlt
      have e0 : ((g : Int)).toNat = g := by omega
      have hcg := hc g (by omega)
      have htg := ht g hg
      rw [e0]
      exact ⟨⟨by omega, hb⟩, InK.of (by omega) (by omega), fun h => Bool.false_ne_true h, fun _ => ⟨InK.of (by omega) (by omega), g + 1, by show ((L.catTo c g).n : Int) + ((c g).n : Int) = (((L.catTo c g).n + (c g).n : Nat) : Int); omega, by omega, rfl, ⟨rfl, fun _ _ => rfl⟩, ⟨rfl, fun _ _ => rfl⟩, by omega, by omega⟩⟩
    · have hb : ¬ (g : Int) < 2 := of_decide_eq_false hge
      obtain rfl : g = 2 := by omega
      refine ⟨⟨by omega, by omega⟩, fun _ _ => ⟨⟨(0 : Nat), rfl, ⟨rfl, fun i hi => absurd hi (Nat.not_lt_zero _)⟩, Nat.zero_le _⟩, fun k hk => ⟨fun hlt => ?_, fun hge => ?_⟩⟩⟩
      · have hb : (k : Int) < 2 := of_decide_eq_true hlt
        have e0 : ((k : Int)).toNat = k := by omega
        have hck := hc k (by omega)
        have htk := ht k hk
        rw [e0]
        refine ⟨⟨by omega, hb⟩, show ((L.catTo c k).n + (c k).n) * 16 ≤ 140737488355328 by omega, InK.of (by omega) (by omega), k + 1, by omega, rfl, ⟨rfl, fun _ _ => rfl⟩, ⟨rfl, fun _ _ => rfl⟩, ⟨rfl, fun i hi => ?_⟩, by omega, by omega⟩
        unfold appGet
        by_cases h : i < (L.catTo c k).n
        · have w : (L.catTo c (k + 1)).g i = (L.catTo c k).g i := by
            show (bif decide (i < (L.catTo c k).n) then _ else _) = _
            rw [decide_eq_true h]; rfl
          rw [if_pos h, w]
        · have w : (L.catTo c (k + 1)).g i = (c k).g (i - (L.catTo c k).n) := by
            show (bif decide (i < (L.catTo c k).n) then _ else _) = _
            rw [decide_eq_false h]; rfl
          rw [if_neg h, w]
      · have hb : ¬ (k : Int) < 2 := of_decide_eq_false hge
        obtain rfl : k = 2 := by omega
        exact ⟨(0 : Nat), ⟨rfl, fun _ _ => rfl⟩, trivial⟩)
theorem s_concat_ok : SpecOk Tryz.prog 146 s_concat_S := freshX Tryz.func146 (c := bodyOf Tryz.f146) (by kernel_rfl) mixed (fun args p q n g hs hp => by
  unfold s_concat_s at hs
  split at hs
  · cases hs; exact ⟨_, _, s_concat_vc _ hp.2, (.p (rows_ext hp.1) .nil), ⟨show SpecsL Tryz.prog _ from (SpecsL.cons s_grow_ok s_grow_en SpecsL.nil), rfl, ⟨show ItersL Tryz.prog _ from ItersL.nil, (TrsOk.none (fun _ => rfl))⟩⟩⟩
  · cases hs)
theorem s_concat_en : Enters Tryz.prog 146 := fun args w => by kernel_rfl
abbrev s_revP_tr : Tr := { T := (L.Sq L.Pt), U := Nat, args := fun t => (fun l => [.row 1005]) t, own := fun t => (fun l => [(1005, .row 63 2 l.n (fun k => [.int .i64 ((l.g k).x), .int .i64 ((l.g k).y)]))]) t, pre := fun t => (fun l => l.n ≤ 1000000) t, post := fun t u => (fun l => fun u => True) t u, own' := fun t u => (fun l => fun u => [(1005, .row 63 2 l.n (fun k => [.int .i64 ((l.g (l.n - 1 - k)).x), .int .i64 ((l.g (l.n - 1 - k)).y)]))]) t u, res := fun t u => (fun l => fun u => .p (.tup [])) t u }
theorem s_revP_vc (l : L.Sq L.Pt) (hp : s_revP_tr.pre l) : vc Tryz.prog ({ muts := [], frz := lookN [], specs := lookS [], loops := lookL [(1, { T := Nat, keep := [0], keepO := [], chg := fun i => [(2, .p (.int .i64 (i : Int))), (3, .p (.int .i64 ((l.n : Int) - 1 - (i : Int))))], own := fun i => [(1005, .row 63 2 l.n (fun k => [.int .i64 ((L.revTo l i k).x), .int .i64 ((L.revTo l i k).y)]))], inv := fun i => 2 * i ≤ l.n, mu := fun i => l.n - i })], iters := lookI [], rfs := lookR [], nils := lookM [] }) (bodyOf Tryz.f144) (stTr Tryz.f144 (s_revP_tr.args l) (s_revP_tr.own l)) (retTr Tryz.prog Tryz.f144 s_revP_tr l) :=
  @Eq.mpr _ (Go.SE.InK Go.IntKind.i64 ((↑l.n : Int) - (1 : Int)) ∧ (∃ (g : Nat), (0 : Int) = (↑g : Int) ∧ (↑l.n : Int) - (1 : Int) = (↑l.n : Int) - (1 : Int) - (↑g : Int) ∧ (l.n = l.n ∧ ∀ (i : Nat), i < l.n → [Go.SE.SV.int Go.IntKind.i64 (l.g i).x, Go.SE.SV.int Go.IntKind.i64 (l.g i).y] = [Go.SE.SV.int Go.IntKind.i64 (L.revTo l g i).x, Go.SE.SV.int Go.IntKind.i64 (L.revTo l g i).y]) ∧ (2 : Nat) * g ≤ l.n) ∧ ∀
 (g : Nat), (2 : Nat) * g ≤ l.n → (Decidable.decide ((↑g : Int) < (↑l.n : Int) - (1 : Int) - (↑g : Int)) = Bool.true → ((0 : Int) ≤ (↑l.n : Int) - (1 : Int) - (↑g : Int) ∧ (↑l.n : Int) - (1 : Int) - (↑g : Int) < (↑l.n : Int)) ∧ Int.toNat ((↑l.n : Int) - (1 : Int) - (↑g : Int)) < l.n ∧ ((0 : Int) ≤ (↑g : Int) ∧ (↑g : Int) < (↑l.n : Int)) ∧ Int.toNat (↑g : Int) < l.n ∧ ((0 : Int) ≤ (↑g : Int) ∧ (↑g :
 Int) < (↑l.n : Int)) ∧ Int.toNat (↑g : Int) < l.n ∧ ((0 : Int) ≤ (↑l.n : Int) - (1 : Int) - (↑g : Int) ∧ (↑l.n : Int) - (1 : Int) - (↑g : Int) < (↑l.n : Int)) ∧ Int.toNat ((↑l.n : Int) - (1 : Int) - (↑g : Int)) < l.n ∧ Go.SE.InK Go.IntKind.i64 ((↑g : Int) + (1 : Int)) ∧ Go.SE.InK Go.IntKind.i64 ((↑l.n : Int) - (1 : Int) - (↑g : Int) - (1 : Int)) ∧ ∃ (g' : Nat), (↑g : Int) + (1 : Int) = (↑g' : Int)
 ∧ (↑l.n : Int) - (1 : Int) - (↑g : Int) - (1 : Int) = (↑l.n : Int) - (1 : Int) - (↑g' : Int) ∧ (l.n = l.n ∧ ∀ (i : Nat), i < l.n → Go.SE.setRow (Go.SE.setRow (fun (k : Nat) ↦ [Go.SE.SV.int Go.IntKind.i64 (L.revTo l g k).x, Go.SE.SV.int Go.IntKind.i64 (L.revTo l g k).y]) (Int.toNat (↑g : Int)) (nat_lit 0) [Go.SE.SV.int Go.IntKind.i64 (L.revTo l g (Int.toNat ((↑l.n : Int) - (1 : Int) - (↑g :
 Int)))).x, Go.SE.SV.int Go.IntKind.i64 (L.revTo l g (Int.toNat ((↑l.n : Int) - (1 : Int) - (↑g : Int)))).y]) (Int.toNat ((↑l.n : Int) - (1 : Int) - (↑g : Int))) (nat_lit 0) [Go.SE.SV.int Go.IntKind.i64 (L.revTo l g (Int.toNat (↑g : Int))).x, Go.SE.SV.int Go.IntKind.i64 (L.revTo l g (Int.toNat (↑g : Int))).y] i = [Go.SE.SV.int Go.IntKind.i64 (L.revTo l g' i).x, Go.SE.SV.int Go.IntKind.i64 (L.revTo
 l g' i).y]) ∧ (2 : Nat) * g' ≤ l.n ∧ l.n - g' < l.n - g) ∧ (Decidable.decide ((↑g : Int) < (↑l.n : Int) - (1 : Int) - (↑g : Int)) = Bool.false → ∃ (u : Nat), (l.n = l.n ∧ ∀ (i : Nat), i < l.n → [Go.SE.SV.int Go.IntKind.i64 (L.revTo l g i).x, Go.SE.SV.int Go.IntKind.i64 (L.revTo l g i).y] = [Go.SE.SV.int Go.IntKind.i64 (l.g (l.n - (1 : Nat) - i)).x, Go.SE.SV.int Go.IntKind.i64 (l.g (l.n - (1 : Nat)
 - i)).y]) ∧ True)) (by kernel_rfl) (by
    have hn : l.n ≤ 1000000 := hp
    refine ⟨InK.of (by omega) (by omega), ⟨(0 : Nat), rfl, by omega, ⟨rfl, fun i hi => ?_⟩, Nat.zero_le _⟩, fun g hg => ⟨fun hlt => ?_, fun hge => ?_⟩⟩
    · have hi : i < l.n := hi
      have w : L.revTo l 0 i = l.g i := by unfold L.revTo; rw [decide_eq_false (Nat.not_lt_zero _), decide_eq_false (by omega)]; rfl
      rw [w]
    · have hb : (g : Int) < (l.n : Int) - 1 - (g : Int) := of_decide_eq_true hlt
      have e0 : ((g : Int)).toNat = g := by omega
      have e1 : ((l.n : Int) - 1 - (g : Int)).toNat = l.n - 1 - g := by omega
      rw [e0, e1]
      refine ⟨⟨by omega, by omega⟩, by omega, ⟨by omega, by omega⟩, by omega, ⟨by omega, by omega⟩, by omega, ⟨by omega, by omega⟩, by omega, InK.of (by omega) (by omega), InK.of (by omega) (by omega), g + 1, by omega, by omega, ⟨rfl, fun i hi => ?_⟩, by omega, by omega⟩
      have hi : i < l.n := hi
      have r0 : ∀ k, ¬ k < g → ¬ l.n ≤ k + g → L.revTo l g k = l.g k := fun k h1 h2 => by
        unfold L.revTo; rw [decide_eq_false h1, decide_eq_false h2]; rfl
      have r1 : ∀ j k, k < j ∨ l.n ≤ k + j → L.revTo l j k = l.g (l.n - 1 - k) := fun j k h => by
        unfold L.revTo
        rcases h with h | h
        · rw [decide_eq_true h]; rfl
        · rw [decide_eq_true h, Bool.or_true]; rfl
      unfold setRow
      by_cases c1 : i = l.n - 1 - g
      · subst c1
        rw [if_pos rfl, r0 g (by omega) (by omega), r1 (g + 1) _ (.inr (by omega)), show l.n - 1 - (l.n - 1 - g) = g by omega]
        rw [if_neg (show ¬ (l.n - 1 - g = g) by omega)]
        rfl
      · rw [if_neg c1]
        by_cases c2 : i = g
        · subst c2
          rw [if_pos rfl, r0 (l.n - 1 - i) (by omega) (by omega), r1 (i + 1) i (.inl (by omega))]
          rfl
        · rw [if_neg c2]
          dsimp only
          by_cases c3 : i < g ∨ l.n ≤ i + g
          · rw [r1 g i c3, r1 (g + 1) i (by omega)]
          · rw [r0 i (by omega) (by omega)]
            have : L.revTo l (g + 1) i = l.g i := by
              unfold L.revTo; rw [decide_eq_false (by omega), decide_eq_false (by omega)]; rfl
            rw [this]
    · have hb : ¬ (g : Int) < (l.n : Int) - 1 - (g : Int) := of_decide_eq_false hge
      refine ⟨(0 : Nat), ⟨rfl, fun i hi => ?_⟩, trivial⟩
      have hi : i < l.n := hi
      have w : L.revTo l g i = l.g (l.n - 1 - i) := by
        unfold L.revTo
        by_cases c1 : i < g
        · rw [decide_eq_true c1]; rfl
        · by_cases c2 : l.n ≤ i + g
          · rw [decide_eq_true c2, Bool.or_true]; rfl
          · rw [decide_eq_false c1, decide_eq_false c2, show l.n - 1 - i = i by omega]; rfl
      rw [w])
theorem s_revP_en : Enters Tryz.prog 144 := fun args w => by kernel_rfl
theorem s_revP_tok : TrOk Tryz.prog 144 s_revP_tr := tr_ok (ks := [1005]) (n := 1) Tryz.func144 (c := bodyOf Tryz.f144) (by kernel_rfl) mixed ⟨fun t => rfl, fun t => rfl, fun t u => rfl, fun t u => rfl, fun t u => rfl, by kernel_rfl⟩ (fun l hp => ⟨_, s_revP_vc l hp, ⟨show SpecsL Tryz.prog _ from SpecsL.nil, rfl, ⟨show ItersL Tryz.prog _ from ItersL.nil, (TrsOk.none (fun _ => rfl))⟩⟩⟩)
def s_minP_p (l : (L.Sq L.Pt)) (f : FSpec) : Prop := 1 ≤ l.n ∧ l.n ≤ 1000000 ∧ ∀ a b : L.Pt, f.pre [(.agg [.int .i64 ((a).x), .int .i64 ((a).y)]), (.agg [.int .i64 ((b).x), .int .i64 ((b).y)])] ∧ L.fil f [(.agg [.int .i64 ((a).x), .int .i64 ((a).y)]), (.agg [.int .i64 ((b).x), .int .i64 ((b).y)])] = L.cmpPt a b
def s_minP_r (l : (L.Sq L.Pt)) (f : FSpec) : SV := (.agg [.int .i64 ((L.minTo l (l.n - 1)).x), .int .i64 ((L.minTo l (l.n - 1)).y)])
def s_minP_s : List EV → Option (Prop × SV)
  | [.p (.sl 2 l_n l_g), .fn f] => some ((∀ i, i < l_n → l_g i = [.int .i64 ((ofPt (l_g i)).x), .int .i64 ((ofPt (l_g i)).y)]) ∧ isI f ∧ s_minP_p (⟨l_n, fun i => ofPt (l_g i)⟩ : (L.Sq L.Pt)) f, s_minP_r (⟨l_n, fun i => ofPt (l_g i)⟩ : (L.Sq L.Pt)) f)
  | _ => none
abbrev s_minP_S : SE.Spec := (specO s_minP_s)
def s_minP_C : Cfg := { muts := [4, 5], frz := lookN [], specs := lookS [], loops := fun _ => none, iters := lookI [], rfs := lookR [], nils := lookM [] }
theorem s_minP_vc (l : (L.Sq L.Pt)) (f : FSpec) (hp : s_minP_p l f) : vc Tryz.prog ({ s_minP_C with loops := lookL [(5, { T := Nat, keep := [0, 1, 4, 5], keepO := [4], chg := fun i => [(6, .p (.int .i64 ((i : Int) + 1)))], own := fun i => [(5, .blk 63 [.p (.int .i64 (L.minTo l i).x), .p (.int .i64 (L.minTo l i).y)])], inv := fun i => i + 1 ≤ l.n, mu := fun i => l.n - i })], rfs := lookR [] }) (bodyOf Tryz.f145) (st0 Tryz.f145 [.p (.sl 2 l.n (fun i => [.int .i64 ((l.g i).x), .int .i64 ((l.g i).y)])), .fn ⟨f.pre, fun xs => .int .i64 (L.fil f xs)⟩]) (retFn Tryz.prog Tryz.f145 (s_minP_r l f)) :=
  @Eq.mpr _ ((Decidable.decide ((↑l.n : Int) < (1 : Int)) = Bool.true → False) ∧ (Decidable.decide ((↑l.n : Int) < (1 : Int)) = Bool.false → ((0 : Int) ≤ (0 : Int) ∧ (0 : Int) < (↑l.n : Int)) ∧ (∃ (g : Nat), (1 : Int) = (↑g : Int) + (1 : Int) ∧ (l.g (Int.toNat (0 : Int))).x = (L.minTo l g).x ∧ (l.g (Int.toNat (0 : Int))).y = (L.minTo l g).y ∧ g + (1 : Nat) ≤ l.n) ∧ ∀ (g : Nat), g + (1 : Nat) ≤ l.n →
 (Decidable.decide ((↑g : Int) + (1 : Int) < (↑l.n : Int)) = Bool.true → ((0 : Int) ≤ (↑g : Int) + (1 : Int) ∧ (↑g : Int) + (1 : Int) < (↑l.n : Int)) ∧ f.1 [Go.SE.SV.agg [Go.SE.SV.int Go.IntKind.i64 (l.g (Int.toNat ((↑g : Int) + (1 : Int)))).x, Go.SE.SV.int Go.IntKind.i64 (l.g (Int.toNat ((↑g : Int) + (1 : Int)))).y], Go.SE.SV.agg [Go.SE.SV.int Go.IntKind.i64 (L.minTo l g).x, Go.SE.SV.int
 Go.IntKind.i64 (L.minTo l g).y]] ∧ (Decidable.decide (L.fil f [Go.SE.SV.agg [Go.SE.SV.int Go.IntKind.i64 (l.g (Int.toNat ((↑g : Int) + (1 : Int)))).x, Go.SE.SV.int Go.IntKind.i64 (l.g (Int.toNat ((↑g : Int) + (1 : Int)))).y], Go.SE.SV.agg [Go.SE.SV.int Go.IntKind.i64 (L.minTo l g).x, Go.SE.SV.int Go.IntKind.i64 (L.minTo l g).y]] < (0 : Int)) = Bool.true → ((0 : Int) ≤ (↑g : Int) + (1 : Int) ∧ (↑g
 : Int) + (1 : Int) < (↑l.n : Int)) ∧ Go.SE.InK Go.IntKind.i64 ((↑g : Int) + (1 : Int) + (1 : Int)) ∧ ∃ (g' : Nat), (↑g : Int) + (1 : Int) + (1 : Int) = (↑g' : Int) + (1 : Int) ∧ nat_lit 0 = nat_lit 0 ∧ nat_lit 0 = nat_lit 0 ∧ (l.n = l.n ∧ ∀ (i : Nat), i < l.n → [Go.SE.SV.int Go.IntKind.i64 (l.g i).x, Go.SE.SV.int Go.IntKind.i64 (l.g i).y] = [Go.SE.SV.int Go.IntKind.i64 (l.g i).x, Go.SE.SV.int
 Go.IntKind.i64 (l.g i).y]) ∧ ((Go.SE.FSpec.mk f.pre fun (xs : List Go.SE.SV) ↦ Go.SE.SV.int Go.IntKind.i64 (L.fil f xs)) = Go.SE.FSpec.mk f.pre fun (xs : List Go.SE.SV) ↦ Go.SE.SV.int Go.IntKind.i64 (L.fil f xs)) ∧ (l.g (Int.toNat ((↑g : Int) + (1 : Int)))).x = (L.minTo l g').x ∧ (l.g (Int.toNat ((↑g : Int) + (1 : Int)))).y = (L.minTo l g').y ∧ (0 : Int) = (0 : Int) ∧ (0 : Int) = (0 : Int) ∧ g' +
 (1 : Nat) ≤ l.n ∧ l.n - g' < l.n - g) ∧ (Decidable.decide (L.fil f [Go.SE.SV.agg [Go.SE.SV.int Go.IntKind.i64 (l.g (Int.toNat ((↑g : Int) + (1 : Int)))).x, Go.SE.SV.int Go.IntKind.i64 (l.g (Int.toNat ((↑g : Int) + (1 : Int)))).y], Go.SE.SV.agg [Go.SE.SV.int Go.IntKind.i64 (L.minTo l g).x, Go.SE.SV.int Go.IntKind.i64 (L.minTo l g).y]] < (0 : Int)) = Bool.false → Go.SE.InK Go.IntKind.i64 ((↑g : Int)
 + (1 : Int) + (1 : Int)) ∧ ∃ (g' : Nat), (↑g : Int) + (1 : Int) + (1 : Int) = (↑g' : Int) + (1 : Int) ∧ nat_lit 0 = nat_lit 0 ∧ nat_lit 0 = nat_lit 0 ∧ (l.n = l.n ∧ ∀ (i : Nat), i < l.n → [Go.SE.SV.int Go.IntKind.i64 (l.g i).x, Go.SE.SV.int Go.IntKind.i64 (l.g i).y] = [Go.SE.SV.int Go.IntKind.i64 (l.g i).x, Go.SE.SV.int Go.IntKind.i64 (l.g i).y]) ∧ ((Go.SE.FSpec.mk f.pre fun (xs : List Go.SE.SV) ↦
 Go.SE.SV.int Go.IntKind.i64 (L.fil f xs)) = Go.SE.FSpec.mk f.pre fun (xs : List Go.SE.SV) ↦ Go.SE.SV.int Go.IntKind.i64 (L.fil f xs)) ∧ (L.minTo l g).x = (L.minTo l g').x ∧ (L.minTo l g).y = (L.minTo l g').y ∧ (0 : Int) = (0 : Int) ∧ (0 : Int) = (0 : Int) ∧ g' + (1 : Nat) ≤ l.n ∧ l.n - g' < l.n - g)) ∧ (Decidable.decide ((↑g : Int) + (1 : Int) < (↑l.n : Int)) = Bool.false → Go.SE.SV.agg
 [Go.SE.SV.int Go.IntKind.i64 (L.minTo l g).x, Go.SE.SV.int Go.IntKind.i64 (L.minTo l g).y] = Go.SE.SV.agg [Go.SE.SV.int Go.IntKind.i64 (L.minTo l (l.n - (1 : Nat))).x, Go.SE.SV.int Go.IntKind.i64 (L.minTo l (l.n - (1 : Nat))).y]))) (by kernel_rfl) (by
    obtain ⟨h1, h2, hf⟩ := hp
    refine ⟨fun h => ?_, fun _ => ⟨⟨by omega, by omega⟩, ⟨(0 : Nat), rfl, rfl, rfl, by omega⟩, fun g hg => ⟨fun hlt => ?_, fun hge => ?_⟩⟩⟩
    · have := of_decide_eq_true h
      omega
    · have hb : (g : Int) + 1 < (l.n : Int) := of_decide_eq_true hlt
      have e0 : ((g : Int) + 1).toNat = g + 1 := by omega
      obtain ⟨q1, q2⟩ := hf (l.g (g + 1)) (L.minTo l g)
      rw [e0, q2]
      refine ⟨⟨by omega, hb⟩, q1, fun h => ⟨⟨by omega, hb⟩, InK.of (by omega) (by omega), g + 1, by omega, rfl, rfl, ⟨rfl, fun _ _ => rfl⟩, rfl, ?_, ?_, rfl, rfl, by omega, by omega⟩, fun h => ⟨InK.of (by omega) (by omega), g + 1, by omega, rfl, rfl, ⟨rfl, fun _ _ => rfl⟩, rfl, ?_, ?_, rfl, rfl, by omega, by omega⟩⟩ <;> rw [L.minTo, h] <;> rfl
    · have hb : ¬ (g : Int) + 1 < (l.n : Int) := of_decide_eq_false hge
      obtain rfl : g = l.n - 1 := by omega
      rfl)
theorem s_minP_ok : SpecOk Tryz.prog 145 s_minP_S := fnX Tryz.func145 (c := bodyOf Tryz.f145) (by kernel_rfl) mixed (fun args p r hs hp => by
  unfold s_minP_s at hs
  split at hs
  · cases hs; exact ⟨_, _, s_minP_vc _ _ hp.2.2, (.p (.sl hp.1) (.fn (fun xs h => ⟨h, (fil_res hp.2.1 h).symm⟩) .nil)), ⟨show SpecsL Tryz.prog _ from SpecsL.nil, rfl, ⟨show ItersL Tryz.prog _ from ItersL.nil, (TrsOk.none (fun _ => rfl))⟩⟩⟩
  · cases hs)
theorem s_minP_en : Enters Tryz.prog 145 := fun args w => by kernel_rfl
def s_idxPt_p (l : (L.Sq L.Pt)) (v : L.Pt) : Prop := l.n ≤ 1000000
def s_idxPt_r (l : (L.Sq L.Pt)) (v : L.Pt) : SV := .int .i64 (L.ptIdx l v)
def s_idxPt_s : List EV → Option (Prop × SV)
  | [.p (.sl 2 l_n l_g), .p (.agg [.int .i64 v_x, .int .i64 v_y])] => some ((∀ i, i < l_n → l_g i = [.int .i64 ((ofPt (l_g i)).x), .int .i64 ((ofPt (l_g i)).y)]) ∧ s_idxPt_p (⟨l_n, fun i => ofPt (l_g i)⟩ : (L.Sq L.Pt)) (⟨v_x, v_y⟩ : L.Pt), s_idxPt_r (⟨l_n, fun i => ofPt (l_g i)⟩ : (L.Sq L.Pt)) (⟨v_x, v_y⟩ : L.Pt))
  | _ => none
abbrev s_idxPt_S : SE.Spec := (specO s_idxPt_s)
def s_idxPt_C : Cfg := { muts := [], frz := lookN [], specs := lookS [], loops := fun _ => none, iters := lookI [], rfs := lookR [], nils := lookM [] }
theorem s_idxPt_vc (l : (L.Sq L.Pt)) (v : L.Pt) (hp : s_idxPt_p l v) : vc Tryz.prog ({ s_idxPt_C with loops := lookL [(2, { T := Nat, keep := [0, 3, 6, 7], keepO := [], chg := fun i => [(8, .p (.int .i64 i))], own := fun _ => [], inv := fun i => i ≤ l.n ∧ (∀ j, j < i → L.same v (l.g j) = false), mu := fun i => l.n - i })], rfs := lookR [] }) (bodyOf Tryz.f92) (st0 Tryz.f92 [.p (.sl 2 l.n (fun i => [.int .i64 ((l.g i).x), .int .i64 ((l.g i).y)])), .p (.agg [.int .i64 v.x, .int .i64 v.y])]) (retFn Tryz.prog Tryz.f92 (s_idxPt_r l v)) :=
  @Eq.mpr _ ((∃ (g : Nat), (0 : Int) = (↑g : Int) ∧ g ≤ l.n ∧ ∀ (j : Nat), j < g → L.same v (l.g j) = Bool.false) ∧ ∀ (g : Nat), (g ≤ l.n ∧ ∀ (j : Nat), j < g → L.same v (l.g j) = Bool.false) → (Decidable.decide ((↑g : Int) < (↑l.n : Int)) = Bool.true → ((0 : Int) ≤ (↑g : Int) ∧ (↑g : Int) < (↑l.n : Int)) ∧ ((Decidable.decide (v.x = (l.g (Int.toNat (↑g : Int))).x) && Decidable.decide (v.y = (l.g (Int.toNat (↑g
 : Int))).y)) = Bool.true → (↑g : Int) = L.ptIdx l v) ∧ ((Decidable.decide (v.x = (l.g (Int.toNat (↑g : Int))).x) && Decidable.decide (v.y = (l.g (Int.toNat (↑g : Int))).y)) = Bool.false → Go.SE.InK Go.IntKind.i64 ((↑g : Int) + (1 : Int)) ∧ ∃ (g' : Nat), (↑g : Int) + (1 : Int) = (↑g' : Int) ∧ (↑l.n : Int) = (↑l.n : Int) ∧ (l.n = l.n ∧ ∀ (i : Nat), i < l.n → [Go.SE.SV.int Go.IntKind.i64 (l.g i).x,
 Go.SE.SV.int Go.IntKind.i64 (l.g i).y] = [Go.SE.SV.int Go.IntKind.i64 (l.g i).x, Go.SE.SV.int Go.IntKind.i64 (l.g i).y]) ∧ Go.SE.SV.ref [Go.SE.SV.int Go.IntKind.i64 v.x, Go.SE.SV.int Go.IntKind.i64 v.y] (nat_lit 0) = Go.SE.SV.ref [Go.SE.SV.int Go.IntKind.i64 v.x, Go.SE.SV.int Go.IntKind.i64 v.y] (nat_lit 0) ∧ (l.n = l.n ∧ ∀ (i : Nat), i < l.n → [Go.SE.SV.int Go.IntKind.i64 (l.g i).x, Go.SE.SV.int
 Go.IntKind.i64 (l.g i).y] = [Go.SE.SV.int Go.IntKind.i64 (l.g i).x, Go.SE.SV.int Go.IntKind.i64 (l.g i).y]) ∧ (g' ≤ l.n ∧ ∀ (j : Nat), j < g' → L.same v (l.g j) = Bool.false) ∧ l.n - g' < l.n - g)) ∧ (Decidable.decide ((↑g : Int) < (↑l.n : Int)) = Bool.false → (-1 : Int) = L.ptIdx l v)) (by kernel_rfl) (by
    have hn : l.n ≤ 1000000 := hp
    refine ⟨⟨(0 : Nat), rfl, Nat.zero_le _, fun j hj => absurd hj (Nat.not_lt_zero _)⟩, fun g hg => ⟨fun hlt => ?_, fun hge => ?_⟩⟩
    · have hb : (g : Int) < (l.n : Int) := of_decide_eq_true hlt
      have e0 : ((g : Int)).toNat = g := by omega
      rw [e0]
      refine ⟨⟨by omega, hb⟩, fun h => ?_, fun h => ?_⟩
      · have h : L.same v (l.g g) = true := h
        exact (idx_at (f := fun i => L.same v (l.g i)) hg.2 h (by omega)).symm
      · have h : L.same v (l.g g) = false := h
        exact ⟨InK.of (by omega) (by omega), g + 1, by omega, rfl, ⟨rfl, fun _ _ => rfl⟩, rfl, ⟨rfl, fun _ _ => rfl⟩, ⟨by omega, fun j hj => by
          rcases Nat.lt_succ_iff_lt_or_eq.1 hj with h' | rfl
          · exact hg.2 j h'
          · exact h⟩, by omega⟩
    · have hb : ¬ (g : Int) < (l.n : Int) := of_decide_eq_false hge
      exact (idx_none (f := fun i => L.same v (l.g i)) (fun j hj => hg.2 j (by omega))).symm)
theorem s_idxPt_ok : SpecOk Tryz.prog 92 s_idxPt_S := fnX Tryz.func92 (c := bodyOf Tryz.f92) (by kernel_rfl) mixed (fun args p r hs hp => by
  unfold s_idxPt_s at hs
  split at hs
  · cases hs; exact ⟨_, _, s_idxPt_vc _ _ hp.2, (.p (.sl hp.1) (.same _ .nil)), ⟨show SpecsL Tryz.prog _ from SpecsL.nil, rfl, ⟨show ItersL Tryz.prog _ from ItersL.nil, (TrsOk.none (fun _ => rfl))⟩⟩⟩
  · cases hs)
theorem s_idxPt_en : Enters Tryz.prog 92 := fun args w => by kernel_rfl
theorem s_idxPt_I : ∀ args p r, s_idxPt_s args = some (p, r) → ∃ n, r = .int .i64 n := by
  intro args p r h
  unfold s_idxPt_s at h
  split at h
  · cases h; exact ⟨_, rfl⟩
  · cases h
end Go.Proofs.YtkklpamllfkbaaaGreat

namespace Go.Proofs.YtkklpamllfkbaaaGreat
open Go.SE Go.RowKit
set_option maxRecDepth 100000
set_option maxHeartbeats 4000000
set_option linter.unusedVariables false
attribute [local irreducible] Go.SE.vc

instance : Inhabited L.Pt := ⟨⟨0, 0⟩⟩
def L.lePt (a b : L.Pt) : Prop := L.cmpPt a b ≤ 0
theorem cmpPt_le {a b : L.Pt} : L.cmpPt a b ≤ 0 ↔ a.x < b.x ∨ (a.x = b.x ∧ a.y ≤ b.y) := by
  unfold L.cmpPt L.or2 L.cmp
  by_cases h1 : a.x < b.x
  · simp [h1]
  · by_cases h2 : b.x < a.x
    · simp [h1, h2]; omega
    · by_cases h3 : a.y < b.y
      · simp [h1, h2, h3]; omega
      · by_cases h4 : b.y < a.y
        · simp [h1, h2, h3, h4]; try omega
        · simp [h1, h2, h3, h4]; try omega
theorem swoPt : Go.Sort.SWO (Go.Proofs.ltOf L.cmpPt) := by
  have k : ∀ x y, Go.Proofs.ltOf L.cmpPt x y = true ↔ (x.x < y.x ∨ (x.x = y.x ∧ x.y < y.y)) := fun x y => by
    unfold Go.Proofs.ltOf; rw [decide_eq_true_iff]; exact cmpPt_lt
  have kf : ∀ x y, Go.Proofs.ltOf L.cmpPt x y = false ↔ ¬ (x.x < y.x ∨ (x.x = y.x ∧ x.y < y.y)) := fun x y => by
    rw [← k, Bool.not_eq_true]
  refine ⟨fun x => ?_, fun x y z => ?_, fun x y z => ?_⟩
  · rw [kf]; omega
  · simp only [k]; omega
  · simp only [kf]; omega
def L.insPt (p : L.Pt) : List L.Pt → List L.Pt
  | [] => [p]
  | q :: r => bif decide (L.cmpPt p q ≤ 0) then p :: q :: r else q :: L.insPt p r
def L.isortPt : List L.Pt → List L.Pt
  | [] => []
  | p :: r => L.insPt p (L.isortPt r)
def L.listPt (l : L.Sq L.Pt) : List L.Pt := (List.range l.n).map l.g
def L.sorted (l : L.Sq L.Pt) : L.Sq L.Pt := ⟨l.n, fun k => (L.isortPt (L.listPt l)).getD k ⟨0, 0⟩⟩
theorem lePt_total (a b : L.Pt) : L.lePt a b ∨ L.lePt b a := by unfold L.lePt; simp only [cmpPt_le]; omega
theorem lePt_trans {a b c : L.Pt} (h : L.lePt a b) (k : L.lePt b c) : L.lePt a c := by unfold L.lePt at *; simp only [cmpPt_le] at *; omega
theorem lePt_anti {a b : L.Pt} (h : L.lePt a b) (k : L.lePt b a) : a = b := by
  unfold L.lePt at *; simp only [cmpPt_le] at *
  obtain ⟨ax, ay⟩ := a; obtain ⟨bx, by'⟩ := b
  simp only at h k
  obtain rfl : ax = bx := by omega
  obtain rfl : ay = by' := by omega
  rfl
theorem insPt_perm (p : L.Pt) : ∀ l, (L.insPt p l).Perm (p :: l)
  | [] => .refl _
  | q :: r => by
    unfold L.insPt
    cases decide (L.cmpPt p q ≤ 0) with
    | true => exact .refl _
    | false => exact ((insPt_perm p r).cons q).trans (.swap p q r)
theorem isortPt_perm : ∀ l, (L.isortPt l).Perm l
  | [] => .refl _
  | p :: r => (insPt_perm p _).trans ((isortPt_perm r).cons p)
theorem insPt_asc {p : L.Pt} : ∀ {l}, l.Pairwise L.lePt → (L.insPt p l).Pairwise L.lePt
  | [], _ => List.pairwise_singleton _ _
  | q :: r, h => by
    obtain ⟨h1, h2⟩ := List.pairwise_cons.1 h
    unfold L.insPt
    cases hd : decide (L.cmpPt p q ≤ 0) with
    | true =>
      have hd : L.lePt p q := of_decide_eq_true (p := L.cmpPt p q ≤ 0) hd
      exact List.pairwise_cons.2 ⟨fun x hx => by
        rcases List.mem_cons.1 hx with rfl | hx
        · exact hd
        · exact lePt_trans hd (h1 x hx), h⟩
    | false =>
      have hd : ¬ L.lePt p q := of_decide_eq_false (p := L.cmpPt p q ≤ 0) hd
      have hqp : L.lePt q p := (lePt_total p q).resolve_left hd
      exact List.pairwise_cons.2 ⟨fun x hx => by
        rcases List.mem_cons.1 ((insPt_perm p r).mem_iff.1 hx) with rfl | hx
        · exact hqp
        · exact h1 x hx, insPt_asc h2⟩
theorem isortPt_asc : ∀ l, (L.isortPt l).Pairwise L.lePt
  | [] => .nil
  | p :: r => insPt_asc (isortPt_asc r)
theorem sorted_is {l : L.Sq L.Pt} {u : Nat → L.Pt} (h : SortedBy L.cmpPt l.n l.g u) : ∀ k, k < l.n → (L.sorted l).g k = u k := fun k hk => by
  have e : (List.range l.n).map u = L.isortPt (L.listPt l) := by
    refine List.Perm.eq_of_pairwise (le := L.lePt) (fun a b _ _ => lePt_anti) ?_ (isortPt_asc _) (h.perm.trans (isortPt_perm _).symm)
    rw [List.pairwise_iff_getElem]
    intro i j hi hj hij
    simp only [List.getElem_map, List.getElem_range]
    have hj : j < l.n := by simpa using hj
    have := h.asc i j hij hj
    rcases lePt_total (u i) (u j) with h1 | h1
    · exact h1
    · unfold L.lePt at *
      simp only [cmpPt_le, cmpPt_lt] at *
      omega
  show (L.isortPt (L.listPt l)).getD k ⟨0, 0⟩ = u k
  rw [← e]
  simp [List.getD_eq_getElem?_getD, hk]
theorem sorted_mem (l : L.Sq L.Pt) {k : Nat} (hk : k < l.n) : ∃ i, i < l.n ∧ (L.sorted l).g k = l.g i := by
  have hl : (L.isortPt (L.listPt l)).length = l.n := by rw [(isortPt_perm _).length_eq]; simp [L.listPt]
  have hm : (L.isortPt (L.listPt l)).getD k ⟨0, 0⟩ ∈ L.isortPt (L.listPt l) := by
    rw [List.getD_eq_getElem?_getD, List.getElem?_eq_getElem (by rw [hl]; exact hk)]
    exact List.getElem_mem _
  have hm := (isortPt_perm _).mem_iff.1 hm
  unfold L.listPt at hm
  obtain ⟨i, hi, e⟩ := List.mem_map.1 hm
  exact ⟨i, List.mem_range.1 hi, e.symm⟩
def encPt (p : L.Pt) : List Int := [p.x, p.y]
def sortPt_ren : Go.Shelf.Ren := ⟨fun | 6 => 183 | 15 => 170 | 14 => 199 | 28 => 193 | 29 => 194 | 20 => 213 | 21 => 214 | 22 => 215 | 23 => 216 | 24 => 217 | 25 => 218 | 26 => 219 | 27 => 220 | 46 => 225 | 47 => 201 | 48 => 202 | 49 => 226 | 50 => 227 | 57 => 229 | n => n, fun | 22 => 40 | 24 => 63 | 25 => 152 | 3 => 3 | 39 => 193 | 0 => 0 | 53 => 213 | 55 => 215 | 4 => 4 | 46 => 206 | 45 => 205 | 50 => 210 | 5 => 5 | 9 => 9 | 66 => 220 | 70 => 224 | 76 => 236 | 77 => 237 | n => n, fun | n => n⟩
theorem sortPt_lay : Go.Proofs.SlLaysF0.n6 Tryz.prog sortPt_ren := {
  mixed := by kernel_rfl
  f6 := ⟨Tryz.f183.name, by decide, Tryz.func183.trans (congrArg some (by kernel_rfl))⟩
  f14 := ⟨Tryz.f199.name, by decide, Tryz.func199.trans (congrArg some (by kernel_rfl))⟩
  f15 := Tryz.func170.trans (congrArg some (by kernel_rfl))
  f20 := ⟨Tryz.f213.name, by decide, Tryz.func213.trans (congrArg some (by kernel_rfl))⟩
  f21 := ⟨Tryz.f214.name, by decide, Tryz.func214.trans (congrArg some (by kernel_rfl))⟩
  f22 := ⟨Tryz.f215.name, by decide, Tryz.func215.trans (congrArg some (by kernel_rfl))⟩
  f23 := ⟨Tryz.f216.name, by decide, Tryz.func216.trans (congrArg some (by kernel_rfl))⟩
  f24 := ⟨Tryz.f217.name, by decide, Tryz.func217.trans (congrArg some (by kernel_rfl))⟩
  f25 := ⟨Tryz.f218.name, by decide, Tryz.func218.trans (congrArg some (by kernel_rfl))⟩
  f26 := ⟨Tryz.f219.name, by decide, Tryz.func219.trans (congrArg some (by kernel_rfl))⟩
  f27 := ⟨Tryz.f220.name, by decide, Tryz.func220.trans (congrArg some (by kernel_rfl))⟩
  f28 := Tryz.func193.trans (congrArg some (by kernel_rfl))
  f29 := Tryz.func194.trans (congrArg some (by kernel_rfl))
  f46 := ⟨Tryz.f225.name, by decide, Tryz.func225.trans (congrArg some (by kernel_rfl))⟩
  f47 := Tryz.func201.trans (congrArg some (by kernel_rfl))
  f48 := Tryz.func202.trans (congrArg some (by kernel_rfl))
  f49 := ⟨Tryz.f226.name, by decide, Tryz.func226.trans (congrArg some (by kernel_rfl))⟩
  f50 := ⟨Tryz.f227.name, by decide, Tryz.func227.trans (congrArg some (by kernel_rfl))⟩
  f57 := ⟨Tryz.f229.name, by decide, Tryz.func229.trans (congrArg some (by kernel_rfl))⟩
  t0 := Tryz.underlying0
  a0 := Tryz.isAgg0
  z0 := Tryz.sizeOf0
  v0 := Tryz.zeroValue0
  t3 := Tryz.underlying3
  a3 := Tryz.isAgg3
  z3 := Tryz.sizeOf3
  v3 := Tryz.zeroValue3
  t4 := Tryz.underlying4
  a4 := Tryz.isAgg4
  z4 := Tryz.sizeOf4
  v4 := Tryz.zeroValue4
  t5 := Tryz.underlying5
  a5 := Tryz.isAgg5
  z5 := Tryz.sizeOf5
  v5 := Tryz.zeroValue5
  t9 := Tryz.underlying9
  a9 := Tryz.isAgg9
  z9 := Tryz.sizeOf9
  v9 := Tryz.zeroValue9
  t22 := Tryz.underlying40
  a22 := Tryz.isAgg40
  z22 := Tryz.sizeOf40
  v22 := Tryz.zeroValue40
  t25 := Tryz.underlying152
  a25 := Tryz.isAgg152
  z25 := Tryz.sizeOf152
  v25 := Tryz.zeroValue152
  t39 := Tryz.underlying193
  a39 := Tryz.isAgg193
  z39 := Tryz.sizeOf193
  v39 := Tryz.zeroValue193
  t45 := Tryz.underlying205
  a45 := Tryz.isAgg205
  z45 := Tryz.sizeOf205
  v45 := Tryz.zeroValue205
  t46 := Tryz.underlying206
  a46 := Tryz.isAgg206
  z46 := Tryz.sizeOf206
  v46 := Tryz.zeroValue206
  t50 := Tryz.underlying210
  a50 := Tryz.isAgg210
  z50 := Tryz.sizeOf210
  v50 := Tryz.zeroValue210
  t53 := Tryz.underlying213
  a53 := Tryz.isAgg213
  z53 := Tryz.sizeOf213
  v53 := Tryz.zeroValue213
  t55 := Tryz.underlying215
  a55 := Tryz.isAgg215
  z55 := Tryz.sizeOf215
  v55 := Tryz.zeroValue215
  t66 := Tryz.underlying220
  a66 := Tryz.isAgg220
  z66 := Tryz.sizeOf220
  v66 := Tryz.zeroValue220
  t70 := Tryz.underlying224
  a70 := Tryz.isAgg224
  z70 := Tryz.sizeOf224
  v70 := Tryz.zeroValue224
  t76 := Tryz.underlying236
  a76 := Tryz.isAgg236
  z76 := Tryz.sizeOf236
  v76 := Tryz.zeroValue236
  t77 := Tryz.underlying237
  a77 := Tryz.isAgg237
  z77 := Tryz.sizeOf237
  v77 := Tryz.zeroValue237 }

abbrev s_sortP_tr : Tr := sortTr 63 2 121 1005 encPt L.cmpPt
theorem s_sortP_tok : TrOk Tryz.prog 183 s_sortP_tr := sortTr_ok (enc := encPt) sortPt_lay (by decide) (fun w => Tryz.isAgg63 w) (fun w => Tryz.sizeOf63 w) (fun _ => rfl) swoPt p_compare_ok p_compare_en (fun x y => show preO p_compare_s [.p (.agg [.int .i64 x.x, .int .i64 x.y]), .p (.agg [.int .i64 y.x, .int .i64 y.y])] from trivial) (fun x y => rfl) _ _
theorem s_sortP_en : Enters Tryz.prog 183 := fun args w => by kernel_rfl
def L.popPt (p : L.Pt) : List L.Pt → List L.Pt
  | [] => []
  | [a] => [a]
  | b :: a :: r => bif decide (L.cross a b p ≤ 0) then L.popPt p (a :: r) else b :: a :: r
def L.chainTo (l : L.Sq L.Pt) : Nat → List L.Pt
  | 0 => []
  | k + 1 => l.g k :: L.popPt (l.g k) (L.chainTo l k)
def L.len (st : List L.Pt) : Nat := st.length
def L.lmem (q : L.Pt) (st : List L.Pt) : Prop := q ∈ st
def L.fromTop (st : List L.Pt) (k : Nat) : L.Pt := st.getD (st.length - 1 - k) ⟨0, 0⟩
def L.chain (l : L.Sq L.Pt) : L.Sq L.Pt := ⟨(L.chainTo l l.n).length - 1, fun k => L.fromTop (L.chainTo l l.n) k⟩
theorem popPt_mem {p q : L.Pt} : ∀ {st : List L.Pt}, q ∈ L.popPt p st → q ∈ st
  | [], h => h
  | [a], h => h
  | b :: a :: r, h => by
    unfold L.popPt at h
    cases hd : decide (L.cross a b p ≤ 0) with
    | true => rw [hd] at h; exact List.mem_cons_of_mem _ (popPt_mem (st := a :: r) h)
    | false => rw [hd] at h; exact h
theorem popPt_len {p : L.Pt} : ∀ {st : List L.Pt}, (L.popPt p st).length ≤ st.length
  | [] => Nat.le_refl _
  | [a] => Nat.le_refl _
  | b :: a :: r => by
    unfold L.popPt
    cases decide (L.cross a b p ≤ 0) with
    | true => exact Nat.le_trans (popPt_len (st := a :: r)) (Nat.le_succ _)
    | false => exact Nat.le_refl _
theorem popPt_pos {p : L.Pt} : ∀ {st : List L.Pt}, 1 ≤ st.length → 1 ≤ (L.popPt p st).length
  | [], h => h
  | [a], h => h
  | b :: a :: r, h => by
    unfold L.popPt
    cases decide (L.cross a b p ≤ 0) with
    | true => exact popPt_pos (st := a :: r) (Nat.succ_le_succ (Nat.zero_le _))
    | false => exact h
theorem chain_pos {l : L.Sq L.Pt} (h : 2 ≤ l.n) : 1 ≤ (L.chainTo l l.n).length - 1 := by
  match hh : l.n, h with
  | m + 2, _ =>
    have := popPt_pos (p := l.g (m + 1)) (st := L.chainTo l (m + 1)) (Nat.succ_le_succ (Nat.zero_le _))
    show 1 ≤ (L.popPt (l.g (m + 1)) (L.chainTo l (m + 1))).length + 1 - 1
    omega
theorem chainTo_mem {l : L.Sq L.Pt} {q : L.Pt} : ∀ {k}, q ∈ L.chainTo l k → ∃ i, i < k ∧ q = l.g i
  | 0, h => nomatch h
  | k + 1, h => by
    rcases List.mem_cons.1 h with rfl | h
    · exact ⟨k, Nat.lt_succ_self _, rfl⟩
    · obtain ⟨i, hi, e⟩ := chainTo_mem (popPt_mem h)
      exact ⟨i, Nat.lt_succ_of_lt hi, e⟩
theorem chainTo_len (l : L.Sq L.Pt) : ∀ k, (L.chainTo l k).length ≤ k
  | 0 => Nat.le_refl _
  | k + 1 => Nat.succ_le_succ (Nat.le_trans popPt_len (chainTo_len l k))
theorem fromTop_mem {st : List L.Pt} {k : Nat} (h : k < st.length) : L.fromTop st k ∈ st := by
  unfold L.fromTop
  rw [List.getD_eq_getElem?_getD, List.getElem?_eq_getElem (by omega)]
  exact List.getElem_mem _
theorem fromTop_tail {a : L.Pt} {r : List L.Pt} {k : Nat} (h : k < r.length) : L.fromTop (a :: r) k = L.fromTop r k := by
  unfold L.fromTop
  rw [show (a :: r).length - 1 - k = (r.length - 1 - k) + 1 by simp only [List.length_cons]; omega]
  rfl
theorem fromTop_head {a : L.Pt} {r : List L.Pt} : L.fromTop (a :: r) r.length = a := by
  unfold L.fromTop
  rw [show (a :: r).length - 1 - r.length = 0 by simp only [List.length_cons]; omega]
  rfl
def L.revd (l : L.Sq L.Pt) : L.Sq L.Pt := ⟨l.n, fun k => l.g (l.n - 1 - k)⟩
def L.hull (l : L.Sq L.Pt) : L.Sq L.Pt := L.catTo (L.two (L.chain (L.sorted l)) (L.chain (L.revd (L.sorted l)))) 2
theorem chain_mem (l : L.Sq L.Pt) {k : Nat} (h : k < (L.chain l).n) : ∃ i, i < l.n ∧ (L.chain l).g k = l.g i := chainTo_mem (fromTop_mem (st := L.chainTo l l.n) (show k < _ by have : k < (L.chainTo l l.n).length - 1 := h; omega))
theorem hull_mem (l : L.Sq L.Pt) {k : Nat} (h : k < (L.hull l).n) : ∃ i, i < l.n ∧ (L.hull l).g k = l.g i := by
  have a1 : ∀ k, k < (L.chain (L.sorted l)).n → ∃ i, i < l.n ∧ (L.chain (L.sorted l)).g k = l.g i := fun k hk => by
    obtain ⟨i, hi, e⟩ := chain_mem _ hk
    obtain ⟨j, hj, e2⟩ := sorted_mem l hi
    exact ⟨j, hj, e.trans e2⟩
  have a2 : ∀ k, k < (L.chain (L.revd (L.sorted l))).n → ∃ i, i < l.n ∧ (L.chain (L.revd (L.sorted l))).g k = l.g i := fun k hk => by
    obtain ⟨i, hi, e⟩ := chain_mem _ hk
    have hi : i < l.n := hi
    obtain ⟨j, hj, e2⟩ := sorted_mem l (k := l.n - 1 - i) (by omega)
    exact ⟨j, hj, e.trans e2⟩
  have h : k < 0 + (L.chain (L.sorted l)).n + (L.chain (L.revd (L.sorted l))).n := h
  have e : (L.hull l).g k = bif decide (k < 0 + (L.chain (L.sorted l)).n) then (bif decide (k < 0) then (⟨0, 0⟩ : L.Pt) else (L.chain (L.sorted l)).g (k - 0)) else (L.chain (L.revd (L.sorted l))).g (k - (0 + (L.chain (L.sorted l)).n)) := rfl
  rw [e]
  cases hd : decide (k < 0 + (L.chain (L.sorted l)).n) with
  | true => have := of_decide_eq_true hd; exact a1 k (by omega)
  | false => have := of_decide_eq_false hd; exact a2 _ (by omega)
def s_values1_p (l : (L.Sq L.Pt)) : Prop := l.n ≤ 1000000
def s_values1_n (l : (L.Sq L.Pt)) : Nat := l.n
def s_values1_i (l : (L.Sq L.Pt)) : Nat → List SV := fun k => [(.agg [.int .i64 ((l.g (k : Int).toNat).x), .int .i64 ((l.g (k : Int).toNat).y)])]
def s_values1_ic : List SV → Option (Prop × Nat × (Nat → List SV))
  | [.ref [.sl 2 l_n l_g] 0] => some ((∀ i, i < l_n → l_g i = [.int .i64 ((ofPt (l_g i)).x), .int .i64 ((ofPt (l_g i)).y)]) ∧ s_values1_p (⟨l_n, fun i => ofPt (l_g i)⟩ : (L.Sq L.Pt)), s_values1_n (⟨l_n, fun i => ofPt (l_g i)⟩ : (L.Sq L.Pt)), s_values1_i (⟨l_n, fun i => ofPt (l_g i)⟩ : (L.Sq L.Pt)))
  | _ => none
abbrev s_values1_it : ItSpec := itOf s_values1_ic
def s_values1_C : Cfg := { muts := [], frz := lookN [], specs := lookS [], loops := fun _ => none, iters := lookI [], rfs := lookR [] }
theorem s_values1_vc (yl : Nat) (l : (L.Sq L.Pt)) (hp : s_values1_p l) : vc Tryz.prog { s_values1_C with loops := lookL [(1, { T := Nat, keep := [0, 1, 5, 6], keepO := [], chg := fun i => [(7, .p (.int .i64 (i : Int)))], own := fun _ => [], inv := fun i => i ≤ l.n, mu := fun i => l.n - i, yk := some (fun i => i) })], yld := some ⟨yl, s_values1_n l, s_values1_i l⟩ } (bodyOf Tryz.f184) (st0 Tryz.f184 (.yield yl :: ([.ref [.sl 2 l.n (fun i => [.int .i64 ((l.g i).x), .int .i64 ((l.g i).y)])] 0] : List SV).map .p)) (retIt Tryz.prog Tryz.f184 (s_values1_n l)) :=
  @Eq.mpr _ ((∃ (g : Nat), nat_lit 0 = g ∧ Bool.false = Bool.false ∧ (0 : Int) = (↑g : Int) ∧ g ≤ l.n) ∧ ∀ (g : Nat), g ≤ l.n → (Decidable.decide ((↑g : Int) < (↑l.n : Int)) = Bool.true → ((0 : Int) ≤ (↑g : Int) ∧ (↑g : Int) < (↑l.n : Int)) ∧ yl = yl ∧ g < l.n ∧ [Go.SE.SV.agg [Go.SE.SV.int Go.IntKind.i64 (l.g (Int.toNat (↑g : Int))).x, Go.SE.SV.int Go.IntKind.i64 (l.g (Int.toNat (↑g : Int))).y]] =
 [Go.SE.SV.agg [Go.SE.SV.int Go.IntKind.i64 (l.g (Int.toNat (↑g : Int))).x, Go.SE.SV.int Go.IntKind.i64 (l.g (Int.toNat (↑g : Int))).y]] ∧ ((Bool.false = Bool.true → g + (1 : Nat) = l.n ∨ g + (1 : Nat) = l.n + (1 : Nat)) ∧ (Bool.false = Bool.false → Go.SE.InK Go.IntKind.i64 ((↑g : Int) + (1 : Int)) ∧ ∃ (g' : Nat), g + (1 : Nat) = g' ∧ Bool.false = Bool.false ∧ (↑g : Int) + (1 : Int) = (↑g' : Int) ∧
 (↑l.n : Int) = (↑l.n : Int) ∧ (l.n = l.n ∧ ∀ (i : Nat), i < l.n → [Go.SE.SV.int Go.IntKind.i64 (l.g i).x, Go.SE.SV.int Go.IntKind.i64 (l.g i).y] = [Go.SE.SV.int Go.IntKind.i64 (l.g i).x, Go.SE.SV.int Go.IntKind.i64 (l.g i).y]) ∧ yl = yl ∧ Go.SE.SV.ref [Go.SE.SV.sl (nat_lit 2) l.n fun (i : Nat) ↦ [Go.SE.SV.int Go.IntKind.i64 (l.g i).x, Go.SE.SV.int Go.IntKind.i64 (l.g i).y]] (nat_lit 0) =
 Go.SE.SV.ref [Go.SE.SV.sl (nat_lit 2) l.n fun (i : Nat) ↦ [Go.SE.SV.int Go.IntKind.i64 (l.g i).x, Go.SE.SV.int Go.IntKind.i64 (l.g i).y]] (nat_lit 0) ∧ g' ≤ l.n ∧ l.n - g' < l.n - g)) ∧ (Bool.true = Bool.true → l.n + (1 : Nat) = l.n ∨ l.n + (1 : Nat) = l.n + (1 : Nat)) ∧ (Bool.true = Bool.false → Go.SE.InK Go.IntKind.i64 ((↑g : Int) + (1 : Int)) ∧ ∃ (g' : Nat), l.n + (1 : Nat) = g' ∧ Bool.false =
 Bool.false ∧ (↑g : Int) + (1 : Int) = (↑g' : Int) ∧ (↑l.n : Int) = (↑l.n : Int) ∧ (l.n = l.n ∧ ∀ (i : Nat), i < l.n → [Go.SE.SV.int Go.IntKind.i64 (l.g i).x, Go.SE.SV.int Go.IntKind.i64 (l.g i).y] = [Go.SE.SV.int Go.IntKind.i64 (l.g i).x, Go.SE.SV.int Go.IntKind.i64 (l.g i).y]) ∧ yl = yl ∧ Go.SE.SV.ref [Go.SE.SV.sl (nat_lit 2) l.n fun (i : Nat) ↦ [Go.SE.SV.int Go.IntKind.i64 (l.g i).x,
 Go.SE.SV.int Go.IntKind.i64 (l.g i).y]] (nat_lit 0) = Go.SE.SV.ref [Go.SE.SV.sl (nat_lit 2) l.n fun (i : Nat) ↦ [Go.SE.SV.int Go.IntKind.i64 (l.g i).x, Go.SE.SV.int Go.IntKind.i64 (l.g i).y]] (nat_lit 0) ∧ g' ≤ l.n ∧ l.n - g' < l.n - g)) ∧ (Decidable.decide ((↑g : Int) < (↑l.n : Int)) = Bool.false → g = l.n ∨ g = l.n + (1 : Nat))) (by kernel_rfl) (by
    have hn : l.n ≤ 1000000 := hp
    refine ⟨⟨(0 : Nat), rfl, rfl, rfl, Nat.zero_le _⟩, fun g hg => ⟨fun hlt => ?_, fun hge => ?_⟩⟩
    · have hb : (g : Int) < (l.n : Int) := of_decide_eq_true hlt
      refine ⟨⟨by omega, hb⟩, rfl, by omega, rfl, ?_⟩
      exact ⟨⟨fun h => (by cases h), fun _ => ⟨InK.of (by omega) (by omega), g + 1, rfl, rfl, by omega, rfl, ⟨rfl, fun _ _ => rfl⟩, rfl, rfl, by omega, by omega⟩⟩, fun _ => .inr rfl, fun h => (by cases h)⟩
    · have hb : ¬ (g : Int) < (l.n : Int) := of_decide_eq_false hge
      exact .inl (by omega))
theorem s_values1_itok : ItOk Tryz.prog 184 s_values1_it := iterX Tryz.func184 (c := bodyOf Tryz.f184) (by kernel_rfl) mixed (fun caps l p n g hs hp => by
  unfold s_values1_ic at hs
  split at hs
  · cases hs; exact ⟨_, _, s_values1_vc l _ hp.2, (.cons (Ext.ref rfl (fun i hi => by
      rcases i with _ | i
      · show Ext (SV.sl _ _ _) (SV.sl _ _ _); exact (Ext.sl hp.1)
      exact absurd hi (by simp; try omega))) .nil), rfl, show SpecsL Tryz.prog _ from SpecsL.nil, ⟨show ItersL Tryz.prog _ from ItersL.nil, TrsOk.none (fun _ => rfl)⟩⟩
  · cases hs)
theorem s_values1_en : Enters Tryz.prog 184 := fun args w => by kernel_rfl
def s_values_p (l : (L.Sq L.Pt)) : Prop := l.n ≤ 1000000
def s_values_r (l : (L.Sq L.Pt)) : SV := .clo 184 [.ref [(.sl 2 l.n (fun i => [.int .i64 ((l.g i).x), .int .i64 ((l.g i).y)]))] 0]
def s_values_s : List EV → Option (Prop × SV)
  | [.p (.sl 2 l_n l_g)] => some ((∀ i, i < l_n → l_g i = [.int .i64 ((ofPt (l_g i)).x), .int .i64 ((ofPt (l_g i)).y)]) ∧ s_values_p (⟨l_n, fun i => ofPt (l_g i)⟩ : (L.Sq L.Pt)), s_values_r (⟨l_n, fun i => ofPt (l_g i)⟩ : (L.Sq L.Pt)))
  | _ => none
abbrev s_values_S : SE.Spec := (specO s_values_s)
def s_values_C : Cfg := { muts := [], frz := lookN [], specs := lookS [], loops := lookL [], iters := lookI [], rfs := lookR [], nils := lookM [] }
theorem s_values_vc (l : (L.Sq L.Pt)) (hp : s_values_p l) : vc Tryz.prog (s_values_C) (bodyOf Tryz.f167) (st0 Tryz.f167 [.p (.sl 2 l.n (fun i => [.int .i64 ((l.g i).x), .int .i64 ((l.g i).y)]))]) (retFn Tryz.prog Tryz.f167 (s_values_r l)) :=
  @Eq.mpr _ (Go.SE.SV.clo (nat_lit 184) [Go.SE.SV.ref [Go.SE.SV.sl (nat_lit 2) l.n fun (i : Nat) ↦ [Go.SE.SV.int Go.IntKind.i64 (l.g i).x, Go.SE.SV.int Go.IntKind.i64 (l.g i).y]] (nat_lit 0)] = Go.SE.SV.clo (nat_lit 184) [Go.SE.SV.ref [Go.SE.SV.sl (nat_lit 2) l.n fun (i : Nat) ↦ [Go.SE.SV.int Go.IntKind.i64 (l.g i).x, Go.SE.SV.int Go.IntKind.i64 (l.g i).y]] (nat_lit 0)]) (by kernel_rfl) (by
    rfl)
theorem s_values_ok : SpecOk Tryz.prog 167 s_values_S := fnX Tryz.func167 (c := bodyOf Tryz.f167) (by kernel_rfl) mixed (fun args p r hs hp => by
  unfold s_values_s at hs
  split at hs
  · cases hs; exact ⟨_, _, s_values_vc _ hp.2, (.p (.sl hp.1) .nil), ⟨show SpecsL Tryz.prog _ from SpecsL.nil, rfl, ⟨show ItersL Tryz.prog _ from ItersL.nil, (TrsOk.none (fun _ => rfl))⟩⟩⟩
  · cases hs)
theorem s_values_en : Enters Tryz.prog 167 := fun args w => by kernel_rfl
def s_appendSeq_p (s : Nat) (l : (L.Sq L.Pt)) : Prop := l.n ≤ 1000000
def s_appendSeq_q (s : Nat) (l : (L.Sq L.Pt)) : Nat → Prop := fun _ => True
def s_appendSeq_n (s : Nat) (l : (L.Sq L.Pt)) : Nat → Nat := fun _ => l.n
def s_appendSeq_g (s : Nat) (l : (L.Sq L.Pt)) : Nat → Nat → List SV := fun _ k => [.int .i64 ((l.g k).x), .int .i64 ((l.g k).y)]
def s_appendSeq_s : List EV → Option (Prop × (Nat → Prop) × (Nat → Nat) × (Nat → Nat → List SV))
  | [.p (.raw (.slice none 0 0)), .p (.clo 184 [.ref [.sl 2 l_n l_g] 0])] => some ((∀ i, i < l_n → l_g i = [.int .i64 ((ofPt (l_g i)).x), .int .i64 ((ofPt (l_g i)).y)]) ∧ s_appendSeq_p (0 : Nat) (⟨l_n, fun i => ofPt (l_g i)⟩ : (L.Sq L.Pt)), s_appendSeq_q (0 : Nat) (⟨l_n, fun i => ofPt (l_g i)⟩ : (L.Sq L.Pt)), s_appendSeq_n (0 : Nat) (⟨l_n, fun i => ofPt (l_g i)⟩ : (L.Sq L.Pt)), s_appendSeq_g (0 : Nat) (⟨l_n, fun i => ofPt (l_g i)⟩ : (L.Sq L.Pt)))
  | _ => none
abbrev s_appendSeq_S : SE.Spec := (specF Nat 0 63 2 s_appendSeq_s)
def s_appendSeq_C : Cfg := { muts := [2, 5], frz := lookN [], specs := lookS [], loops := lookL [], iters := lookI [(184, s_values1_it)], rfs := lookR [], nils := lookM [(1, [(2, 10, 63, 2)])] }
theorem s_appendSeq_vc (s : Nat) (l : (L.Sq L.Pt)) (hp : s_appendSeq_p s l) : vc Tryz.prog ({ s_appendSeq_C with loops := lookL [], rfs := lookR [(2, { T := Nat, keep := [2], keepO := [], own := fun k _ => [(2, .blk 40 [.row 10]), (10, .row 63 2 k (fun k => [.int .i64 ((l.g k).x), .int .i64 ((l.g k).y)]))], inv := fun k _ => k ≤ l.n })] }) (bodyOf Tryz.f198) (st0 Tryz.f198 [.p (.raw (.slice none 0 0)), .p (.clo 184 [.ref [.sl 2 l.n (fun i => [.int .i64 ((l.g i).x), .int .i64 ((l.g i).y)])] 0])]) (retFresh Tryz.prog Tryz.f198 (Nat) (s_appendSeq_q s l) 63 2 (s_appendSeq_n s l) (s_appendSeq_g s l)) :=
  @Eq.mpr _ ((((∀ (i : Nat), i < l.n → [Go.SE.SV.int Go.IntKind.i64 (l.g i).x, Go.SE.SV.int Go.IntKind.i64 (l.g i).y] = [Go.SE.SV.int Go.IntKind.i64 (l.g i).x, Go.SE.SV.int Go.IntKind.i64 (l.g i).y]) ∧ l.n ≤ (1000000 : Nat)) ∧ ∃ (t : Nat), (nat_lit 0 = (0 : Nat) ∧ ∀ (i : Nat), i < nat_lit 0 → [] = [Go.SE.SV.int Go.IntKind.i64 (l.g i).x, Go.SE.SV.int Go.IntKind.i64 (l.g i).y]) ∧ (0 : Nat) ≤ l.n) ∧ (∀ (k t :
 Nat) (vk : Nat → Go.Value), k < l.n → k ≤ l.n → (k + nat_lit 1) * nat_lit 16 ≤ (140737488355328 : Nat) ∧ ∃ (t' : Nat), nat_lit 0 = nat_lit 0 ∧ vk (nat_lit 2) = vk (nat_lit 2) ∧ (k + nat_lit 1 = k + (1 : Nat) ∧ ∀ (i : Nat), i < k + nat_lit 1 → Go.SE.appGet k (fun (k : Nat) ↦ [Go.SE.SV.int Go.IntKind.i64 (l.g k).x, Go.SE.SV.int Go.IntKind.i64 (l.g k).y]) (fun (x : Nat) ↦ [Go.SE.SV.int Go.IntKind.i64
 (l.g (Int.toNat (↑k : Int))).x, Go.SE.SV.int Go.IntKind.i64 (l.g (Int.toNat (↑k : Int))).y]) i = [Go.SE.SV.int Go.IntKind.i64 (l.g i).x, Go.SE.SV.int Go.IntKind.i64 (l.g i).y]) ∧ k + (1 : Nat) ≤ l.n) ∧ ∀ (t : Nat), l.n ≤ l.n → ∃ (t : Nat), (l.n = l.n ∧ ∀ (i : Nat), i < l.n → [Go.SE.SV.int Go.IntKind.i64 (l.g i).x, Go.SE.SV.int Go.IntKind.i64 (l.g i).y] = [Go.SE.SV.int Go.IntKind.i64 (l.g i).x,
 Go.SE.SV.int Go.IntKind.i64 (l.g i).y]) ∧ True) (by kernel_rfl) (by
    have hn : l.n ≤ 1000000 := hp
    refine ⟨⟨⟨fun _ _ => rfl, hn⟩, (0 : Nat), ⟨rfl, fun i hi => absurd hi (Nat.not_lt_zero _)⟩, Nat.zero_le _⟩, fun k t vk hk hi => ⟨show (k + 1) * 16 ≤ 140737488355328 by omega, (0 : Nat), rfl, rfl, ⟨rfl, fun i hi => ?_⟩, by omega⟩, fun t hi => ⟨(0 : Nat), ⟨rfl, fun _ _ => rfl⟩, trivial⟩⟩
    have hi : i < k + 1 := hi
    have e0 : ((k : Int)).toNat = k := by omega
    unfold appGet
    by_cases h' : i < k
    · rw [if_pos h']
    · rw [if_neg h']
      obtain rfl : i = k := by omega
      dsimp only
      rw [e0])
theorem s_appendSeq_ok : SpecOk Tryz.prog 198 s_appendSeq_S := freshX Tryz.func198 (c := bodyOf Tryz.f198) (by kernel_rfl) mixed (fun args p q n g hs hp => by
  unfold s_appendSeq_s at hs
  split at hs
  · cases hs; exact ⟨_, _, s_appendSeq_vc _ _ hp.2, (.same _ (.p (Ext.clo rfl (fun i hi => by
      rcases i with _ | i
      · show Ext (SV.ref _ _) (SV.ref _ _); exact (Ext.ref rfl (fun i hi => by
      rcases i with _ | i
      · show Ext (SV.sl _ _ _) (SV.sl _ _ _); exact (Ext.sl hp.1)
      exact absurd hi (by simp; try omega)))
      exact absurd hi (by simp; try omega))) .nil)), ⟨show SpecsL Tryz.prog _ from SpecsL.nil, rfl, ⟨show ItersL Tryz.prog _ from (ItersL.cons s_values1_itok s_values1_en ItersL.nil), (TrsOk.none (fun _ => rfl))⟩⟩⟩
  · cases hs)
theorem s_appendSeq_en : Enters Tryz.prog 198 := fun args w => by kernel_rfl
def s_collect_p (l : (L.Sq L.Pt)) : Prop := l.n ≤ 1000000
def s_collect_q (l : (L.Sq L.Pt)) : Nat → Prop := fun _ => True
def s_collect_n (l : (L.Sq L.Pt)) : Nat → Nat := fun _ => l.n
def s_collect_g (l : (L.Sq L.Pt)) : Nat → Nat → List SV := fun _ k => [.int .i64 ((l.g k).x), .int .i64 ((l.g k).y)]
def s_collect_s : List EV → Option (Prop × (Nat → Prop) × (Nat → Nat) × (Nat → Nat → List SV))
  | [.p (.clo 184 [.ref [.sl 2 l_n l_g] 0])] => some ((∀ i, i < l_n → l_g i = [.int .i64 ((ofPt (l_g i)).x), .int .i64 ((ofPt (l_g i)).y)]) ∧ s_collect_p (⟨l_n, fun i => ofPt (l_g i)⟩ : (L.Sq L.Pt)), s_collect_q (⟨l_n, fun i => ofPt (l_g i)⟩ : (L.Sq L.Pt)), s_collect_n (⟨l_n, fun i => ofPt (l_g i)⟩ : (L.Sq L.Pt)), s_collect_g (⟨l_n, fun i => ofPt (l_g i)⟩ : (L.Sq L.Pt)))
  | _ => none
abbrev s_collect_S : SE.Spec := (specF Nat 0 63 2 s_collect_s)
def s_collect_C : Cfg := { muts := [4], frz := lookN [], specs := lookS [(198, s_appendSeq_S)], loops := lookL [], iters := lookI [], rfs := lookR [], nils := lookM [], raws := [198] }
theorem s_collect_vc (l : (L.Sq L.Pt)) (hp : s_collect_p l) : vc Tryz.prog (s_collect_C) (bodyOf Tryz.f182) (st0 Tryz.f182 [.p (.clo 184 [.ref [.sl 2 l.n (fun i => [.int .i64 ((l.g i).x), .int .i64 ((l.g i).y)])] 0])]) (retFresh Tryz.prog Tryz.f182 (Nat) (s_collect_q l) 63 2 (s_collect_n l) (s_collect_g l)) :=
  @Eq.mpr _ (((∀ (i : Nat), i < l.n → [Go.SE.SV.int Go.IntKind.i64 (l.g i).x, Go.SE.SV.int Go.IntKind.i64 (l.g i).y] = [Go.SE.SV.int Go.IntKind.i64 (l.g i).x, Go.SE.SV.int Go.IntKind.i64 (l.g i).y]) ∧ l.n ≤ (1000000 : Nat)) ∧ ∀ (t : Nat), True → ∃ (t : Nat), (l.n = l.n ∧ ∀ (i : Nat), i < l.n → [Go.SE.SV.int Go.IntKind.i64 (l.g i).x, Go.SE.SV.int Go.IntKind.i64 (l.g i).y] = [Go.SE.SV.int Go.IntKind.i64 (l.g
 i).x, Go.SE.SV.int Go.IntKind.i64 (l.g i).y]) ∧ True) (by kernel_rfl) (by
    exact ⟨⟨fun _ _ => rfl, hp⟩, fun t _ => ⟨(0 : Nat), ⟨rfl, fun _ _ => rfl⟩, trivial⟩⟩)
theorem s_collect_ok : SpecOk Tryz.prog 182 s_collect_S := freshX Tryz.func182 (c := bodyOf Tryz.f182) (by kernel_rfl) mixed (fun args p q n g hs hp => by
  unfold s_collect_s at hs
  split at hs
  · cases hs; exact ⟨_, _, s_collect_vc _ hp.2, (.p (Ext.clo rfl (fun i hi => by
      rcases i with _ | i
      · show Ext (SV.ref _ _) (SV.ref _ _); exact (Ext.ref rfl (fun i hi => by
      rcases i with _ | i
      · show Ext (SV.sl _ _ _) (SV.sl _ _ _); exact (Ext.sl hp.1)
      exact absurd hi (by simp; try omega)))
      exact absurd hi (by simp; try omega))) .nil), ⟨show SpecsL Tryz.prog _ from (SpecsL.cons s_appendSeq_ok s_appendSeq_en SpecsL.nil), rfl, ⟨show ItersL Tryz.prog _ from ItersL.nil, (TrsOk.none (fun _ => rfl))⟩⟩⟩
  · cases hs)
theorem s_collect_en : Enters Tryz.prog 182 := fun args w => by kernel_rfl
def s_sortedF_p (l : (L.Sq L.Pt)) : Prop := l.n ≤ 1000000
def s_sortedF_q (l : (L.Sq L.Pt)) : Nat → Prop := fun _ => True
def s_sortedF_n (l : (L.Sq L.Pt)) : Nat → Nat := fun _ => l.n
def s_sortedF_g (l : (L.Sq L.Pt)) : Nat → Nat → List SV := fun _ k => [.int .i64 (((L.sorted l).g k).x), .int .i64 (((L.sorted l).g k).y)]
def s_sortedF_s : List EV → Option (Prop × (Nat → Prop) × (Nat → Nat) × (Nat → Nat → List SV))
  | [.p (.clo 184 [.ref [.sl 2 l_n l_g] 0]), .p (.clo 121 [])] => some ((∀ i, i < l_n → l_g i = [.int .i64 ((ofPt (l_g i)).x), .int .i64 ((ofPt (l_g i)).y)]) ∧ s_sortedF_p (⟨l_n, fun i => ofPt (l_g i)⟩ : (L.Sq L.Pt)), s_sortedF_q (⟨l_n, fun i => ofPt (l_g i)⟩ : (L.Sq L.Pt)), s_sortedF_n (⟨l_n, fun i => ofPt (l_g i)⟩ : (L.Sq L.Pt)), s_sortedF_g (⟨l_n, fun i => ofPt (l_g i)⟩ : (L.Sq L.Pt)))
  | _ => none
abbrev s_sortedF_S : SE.Spec := (specF Nat 0 63 2 s_sortedF_s)
def s_sortedF_C : Cfg := { muts := [7], frz := lookN [], specs := lookS [(182, s_collect_S), (121, p_compare_S)], loops := lookL [], iters := lookI [], rfs := lookR [], nils := lookM [], trs := lookT [(183, s_sortP_tr)], ren := fun k => k - 998, raws := [182] }
theorem s_sortedF_vc (l : (L.Sq L.Pt)) (hp : s_sortedF_p l) : vc Tryz.prog (s_sortedF_C) (bodyOf Tryz.f166) (st0 Tryz.f166 [.p (.clo 184 [.ref [.sl 2 l.n (fun i => [.int .i64 ((l.g i).x), .int .i64 ((l.g i).y)])] 0]), .p (.clo 121 [])]) (retFresh Tryz.prog Tryz.f166 (Nat) (s_sortedF_q l) 63 2 (s_sortedF_n l) (s_sortedF_g l)) :=
  @Eq.mpr _ (((∀ (i : Nat), i < l.n → [Go.SE.SV.int Go.IntKind.i64 (l.g i).x, Go.SE.SV.int Go.IntKind.i64 (l.g i).y] = [Go.SE.SV.int Go.IntKind.i64 (l.g i).x, Go.SE.SV.int Go.IntKind.i64 (l.g i).y]) ∧ l.n ≤ (1000000 : Nat)) ∧ ∀ (t : Nat), True → ∃ (t : Nat × (Nat → L.Pt)), Go.SE.SV.clo (nat_lit 121) [] = Go.SE.SV.clo (121 : Nat) [] ∧ (l.n = t.1 ∧ ∀ (i : Nat), i < l.n → [Go.SE.SV.int Go.IntKind.i64 (l.g i).x,
 Go.SE.SV.int Go.IntKind.i64 (l.g i).y] = [Go.SE.SV.int Go.IntKind.i64 (t.2 i).x, Go.SE.SV.int Go.IntKind.i64 (t.2 i).y]) ∧ t.1 ≤ (1000000 : Nat) ∧ ∀ (u : Nat → L.Pt), Go.SE.SortedBy L.cmpPt t.1 t.2 u → ∃ (t_1 : Nat), (t.1 = l.n ∧ ∀ (i : Nat), i < t.1 → [Go.SE.SV.int Go.IntKind.i64 (u i).x, Go.SE.SV.int Go.IntKind.i64 (u i).y] = [Go.SE.SV.int Go.IntKind.i64 ((L.sorted l).g i).x, Go.SE.SV.int
 Go.IntKind.i64 ((L.sorted l).g i).y]) ∧ True) (by kernel_rfl) (by
    have hn : l.n ≤ 1000000 := hp
    refine ⟨⟨fun _ _ => rfl, hn⟩, fun t _ => ⟨(l.n, l.g), rfl, ⟨rfl, fun _ _ => rfl⟩, hn, fun u hu => ⟨(0 : Nat), ⟨rfl, fun i hi => ?_⟩, trivial⟩⟩⟩
    rw [sorted_is (l := l) hu i hi])
theorem s_sortedF_ok : SpecOk Tryz.prog 166 s_sortedF_S := freshX Tryz.func166 (c := bodyOf Tryz.f166) (by kernel_rfl) mixed (fun args p q n g hs hp => by
  unfold s_sortedF_s at hs
  split at hs
  · cases hs; exact ⟨_, _, s_sortedF_vc _ hp.2, (.p (Ext.clo rfl (fun i hi => by
      rcases i with _ | i
      · show Ext (SV.ref _ _) (SV.ref _ _); exact (Ext.ref rfl (fun i hi => by
      rcases i with _ | i
      · show Ext (SV.sl _ _ _) (SV.sl _ _ _); exact (Ext.sl hp.1)
      exact absurd hi (by simp; try omega)))
      exact absurd hi (by simp; try omega))) (.p (Ext.clo rfl (fun i hi => by
      
      exact absurd hi (by simp; try omega))) .nil)), ⟨show SpecsL Tryz.prog _ from (SpecsL.cons s_collect_ok s_collect_en (SpecsL.cons p_compare_ok p_compare_en SpecsL.nil)), rfl, ⟨show ItersL Tryz.prog _ from ItersL.nil, (show TrsL Tryz.prog _ from (TrsL.cons s_sortP_tok s_sortP_en TrsL.nil))⟩⟩⟩
  · cases hs)
theorem s_sortedF_en : Enters Tryz.prog 166 := fun args w => by kernel_rfl
def p_chain_p (l : (L.Sq L.Pt)) : Prop := 1 ≤ l.n ∧ l.n ≤ 1000000 ∧ ∀ i, i < l.n → L.bd (l.g i)
def p_chain_q (l : (L.Sq L.Pt)) : Nat → Prop := fun _ => True
def p_chain_n (l : (L.Sq L.Pt)) : Nat → Nat := fun _ => (L.chain l).n
def p_chain_g (l : (L.Sq L.Pt)) : Nat → Nat → List SV := fun _ k => [.int .i64 (((L.chain l).g k).x), .int .i64 (((L.chain l).g k).y)]
def p_chain_s : List EV → Option (Prop × (Nat → Prop) × (Nat → Nat) × (Nat → Nat → List SV))
  | [.p (.sl 2 l_n l_g)] => some ((∀ i, i < l_n → l_g i = [.int .i64 ((ofPt (l_g i)).x), .int .i64 ((ofPt (l_g i)).y)]) ∧ p_chain_p (⟨l_n, fun i => ofPt (l_g i)⟩ : (L.Sq L.Pt)), p_chain_q (⟨l_n, fun i => ofPt (l_g i)⟩ : (L.Sq L.Pt)), p_chain_n (⟨l_n, fun i => ofPt (l_g i)⟩ : (L.Sq L.Pt)), p_chain_g (⟨l_n, fun i => ofPt (l_g i)⟩ : (L.Sq L.Pt)))
  | _ => none
abbrev p_chain_S : SE.Spec := (specF Nat 0 63 2 p_chain_s)
def p_chain_C : Cfg := { muts := [5], frz := lookN [], specs := lookS [(120, p_cross_S)], loops := fun _ => none, iters := lookI [], rfs := lookR [], nils := lookM [(2, [(3, 32, 63, 2)])], cuts := [36, 46] }
theorem p_chain_vc (l : (L.Sq L.Pt)) (hp : p_chain_p l) : vc Tryz.prog ({ p_chain_C with loops := lookL [(3, { T := Nat, keep := [3, 6, 7], keepO := [], chg := fun i => [(8, .p (.int .i64 (i : Int)))], own := fun i => [(32, .row 63 2 (L.len (L.chainTo l i)) (fun k => [.int .i64 ((L.fromTop (L.chainTo l i) k).x), .int .i64 ((L.fromTop (L.chainTo l i) k).y)]))], inv := fun i => i ≤ l.n, mu := fun i => l.n - i }), (5, { T := Nat × List L.Pt, keep := [3, 5, 6, 7, 8], keepO := [5], tie := fun g => [(8, .int .i64 (g.1 : Int))], chg := fun g => [], own := fun g => [(32, .row 63 2 (L.len g.2) (fun k => [.int .i64 ((L.fromTop g.2 k).x), .int .i64 ((L.fromTop g.2 k).y)]))], inv := fun g => g.1 < l.n ∧ L.popPt (l.g g.1) g.2 = L.popPt (l.g g.1) (L.chainTo l g.1) ∧ (∀ q, L.lmem q g.2 → L.lmem q (L.chainTo l g.1)) ∧ L.len g.2 ≤ g.1, mu := fun g => L.len g.2 })], rfs := lookR [] }) (bodyOf Tryz.f168) (st0 Tryz.f168 [.p (.sl 2 l.n (fun i => [.int .i64 ((l.g i).x), .int .i64 ((l.g i).y)]))]) (retFresh Tryz.prog Tryz.f168 (Nat) (p_chain_q l) 63 2 (p_chain_n l) (p_chain_g l)) :=
  @Eq.mpr _ ((∃ (g : Nat), (0 : Int) = (↑g : Int) ∧ (nat_lit 0 = L.len (L.chainTo l g) ∧ ∀ (i : Nat), i < nat_lit 0 → [] = [Go.SE.SV.int Go.IntKind.i64 (L.fromTop (L.chainTo l g) i).x, Go.SE.SV.int Go.IntKind.i64 (L.fromTop (L.chainTo l g) i).y]) ∧ g ≤ l.n) ∧ ∀ (g : Nat), g ≤ l.n → (Decidable.decide ((↑g : Int) < (↑l.n : Int)) = Bool.true → ((0 : Int) ≤ (↑g : Int) ∧ (↑g : Int) < (↑l.n : Int)) ∧ (∃ (g_1 : Nat ×
 List L.Pt), (L.len (L.chainTo l g) = L.len g_1.2 ∧ ∀ (i : Nat), i < L.len (L.chainTo l g) → [Go.SE.SV.int Go.IntKind.i64 (L.fromTop (L.chainTo l g) i).x, Go.SE.SV.int Go.IntKind.i64 (L.fromTop (L.chainTo l g) i).y] = [Go.SE.SV.int Go.IntKind.i64 (L.fromTop g_1.2 i).x, Go.SE.SV.int Go.IntKind.i64 (L.fromTop g_1.2 i).y]) ∧ (↑g : Int) = (↑g_1.1 : Int) ∧ g_1.1 < l.n ∧ L.popPt (l.g g_1.1) g_1.2 =
 L.popPt (l.g g_1.1) (L.chainTo l g_1.1) ∧ (∀ (q : L.Pt), L.lmem q g_1.2 → L.lmem q (L.chainTo l g_1.1)) ∧ L.len g_1.2 ≤ g_1.1) ∧ ∀ (g_1 : Nat × List L.Pt), (↑g : Int) = (↑g_1.1 : Int) ∧ g_1.1 < l.n ∧ L.popPt (l.g g_1.1) g_1.2 = L.popPt (l.g g_1.1) (L.chainTo l g_1.1) ∧ (∀ (q : L.Pt), L.lmem q g_1.2 → L.lmem q (L.chainTo l g_1.1)) ∧ L.len g_1.2 ≤ g_1.1 → (Decidable.decide ((1 : Int) < (↑(L.len
 g_1.2) : Int)) = Bool.true → Go.SE.InK Go.IntKind.i64 ((↑(L.len g_1.2) : Int) - (2 : Int))) ∧ (Decidable.decide ((1 : Int) < (↑(L.len g_1.2) : Int)) = Bool.true → (0 : Int) ≤ (↑(L.len g_1.2) : Int) - (2 : Int) ∧ (↑(L.len g_1.2) : Int) - (2 : Int) < (↑(L.len g_1.2) : Int)) ∧ (Decidable.decide ((1 : Int) < (↑(L.len g_1.2) : Int)) = Bool.true → Int.toNat ((↑(L.len g_1.2) : Int) - (2 : Int)) < L.len
 g_1.2) ∧ (Decidable.decide ((1 : Int) < (↑(L.len g_1.2) : Int)) = Bool.true → Go.SE.InK Go.IntKind.i64 ((↑(L.len g_1.2) : Int) - (1 : Int))) ∧ (Decidable.decide ((1 : Int) < (↑(L.len g_1.2) : Int)) = Bool.true → (0 : Int) ≤ (↑(L.len g_1.2) : Int) - (1 : Int) ∧ (↑(L.len g_1.2) : Int) - (1 : Int) < (↑(L.len g_1.2) : Int)) ∧ (Decidable.decide ((1 : Int) < (↑(L.len g_1.2) : Int)) = Bool.true →
 Int.toNat ((↑(L.len g_1.2) : Int) - (1 : Int)) < L.len g_1.2) ∧ (Decidable.decide ((1 : Int) < (↑(L.len g_1.2) : Int)) = Bool.true → L.bd (L.fromTop g_1.2 (Int.toNat ((↑(L.len g_1.2) : Int) - (2 : Int)))) ∧ L.bd (L.fromTop g_1.2 (Int.toNat ((↑(L.len g_1.2) : Int) - (1 : Int)))) ∧ L.bd (l.g (Int.toNat (↑g : Int)))) ∧ ((bif Decidable.decide ((1 : Int) < (↑(L.len g_1.2) : Int)) then Decidable.decide
 (L.cross (L.fromTop g_1.2 (Int.toNat ((↑(L.len g_1.2) : Int) - (2 : Int)))) (L.fromTop g_1.2 (Int.toNat ((↑(L.len g_1.2) : Int) - (1 : Int)))) (l.g (Int.toNat (↑g : Int))) ≤ (0 : Int)) else Bool.false) = Bool.true → Go.SE.InK Go.IntKind.i64 ((↑(L.len g_1.2) : Int) - (1 : Int)) ∧ ((0 : Int) ≤ (↑(L.len g_1.2) : Int) - (1 : Int) ∧ (↑(L.len g_1.2) : Int) - (1 : Int) ≤ (↑(L.len g_1.2) : Int)) ∧ ∃ (g' :
 Nat × List L.Pt), nat_lit 0 = nat_lit 0 ∧ (↑g : Int) = (↑g : Int) ∧ (↑l.n : Int) = (↑l.n : Int) ∧ (l.n = l.n ∧ ∀ (i : Nat), i < l.n → [Go.SE.SV.int Go.IntKind.i64 (l.g i).x, Go.SE.SV.int Go.IntKind.i64 (l.g i).y] = [Go.SE.SV.int Go.IntKind.i64 (l.g i).x, Go.SE.SV.int Go.IntKind.i64 (l.g i).y]) ∧ (Int.toNat ((↑(L.len g_1.2) : Int) - (1 : Int)) = L.len g'.2 ∧ ∀ (i : Nat), i < Int.toNat ((↑(L.len
 g_1.2) : Int) - (1 : Int)) → [Go.SE.SV.int Go.IntKind.i64 (L.fromTop g_1.2 i).x, Go.SE.SV.int Go.IntKind.i64 (L.fromTop g_1.2 i).y] = [Go.SE.SV.int Go.IntKind.i64 (L.fromTop g'.2 i).x, Go.SE.SV.int Go.IntKind.i64 (L.fromTop g'.2 i).y]) ∧ (l.g (Int.toNat (↑g : Int))).x = (l.g (Int.toNat (↑g : Int))).x ∧ (l.g (Int.toNat (↑g : Int))).y = (l.g (Int.toNat (↑g : Int))).y ∧ ((↑g : Int) = (↑g'.1 : Int) ∧
 g'.1 < l.n ∧ L.popPt (l.g g'.1) g'.2 = L.popPt (l.g g'.1) (L.chainTo l g'.1) ∧ (∀ (q : L.Pt), L.lmem q g'.2 → L.lmem q (L.chainTo l g'.1)) ∧ L.len g'.2 ≤ g'.1) ∧ L.len g'.2 < L.len g_1.2) ∧ ((bif Decidable.decide ((1 : Int) < (↑(L.len g_1.2) : Int)) then Decidable.decide (L.cross (L.fromTop g_1.2 (Int.toNat ((↑(L.len g_1.2) : Int) - (2 : Int)))) (L.fromTop g_1.2 (Int.toNat ((↑(L.len g_1.2) : Int)
 - (1 : Int)))) (l.g (Int.toNat (↑g : Int))) ≤ (0 : Int)) else Bool.false) = Bool.false → (L.len g_1.2 + nat_lit 1) * nat_lit 16 ≤ (140737488355328 : Nat) ∧ Go.SE.InK Go.IntKind.i64 ((↑g : Int) + (1 : Int)) ∧ ∃ (g' : Nat), (↑g : Int) + (1 : Int) = (↑g' : Int) ∧ (↑l.n : Int) = (↑l.n : Int) ∧ (l.n = l.n ∧ ∀ (i : Nat), i < l.n → [Go.SE.SV.int Go.IntKind.i64 (l.g i).x, Go.SE.SV.int Go.IntKind.i64 (l.g
 i).y] = [Go.SE.SV.int Go.IntKind.i64 (l.g i).x, Go.SE.SV.int Go.IntKind.i64 (l.g i).y]) ∧ (L.len g_1.2 + nat_lit 1 = L.len (L.chainTo l g') ∧ ∀ (i : Nat), i < L.len g_1.2 + nat_lit 1 → Go.SE.appGet (L.len g_1.2) (fun (k : Nat) ↦ [Go.SE.SV.int Go.IntKind.i64 (L.fromTop g_1.2 k).x, Go.SE.SV.int Go.IntKind.i64 (L.fromTop g_1.2 k).y]) (fun (x : Nat) ↦ [Go.SE.SV.int Go.IntKind.i64 (l.g (Int.toNat (↑g :
 Int))).x, Go.SE.SV.int Go.IntKind.i64 (l.g (Int.toNat (↑g : Int))).y]) i = [Go.SE.SV.int Go.IntKind.i64 (L.fromTop (L.chainTo l g') i).x, Go.SE.SV.int Go.IntKind.i64 (L.fromTop (L.chainTo l g') i).y]) ∧ g' ≤ l.n ∧ l.n - g' < l.n - g)) ∧ (Decidable.decide ((↑g : Int) < (↑l.n : Int)) = Bool.false → Go.SE.InK Go.IntKind.i64 ((↑(L.len (L.chainTo l g)) : Int) - (1 : Int)) ∧ ((0 : Int) ≤ (↑(L.len
 (L.chainTo l g)) : Int) - (1 : Int) ∧ (↑(L.len (L.chainTo l g)) : Int) - (1 : Int) ≤ (↑(L.len (L.chainTo l g)) : Int)) ∧ ∃ (t : Nat), (Int.toNat ((↑(L.len (L.chainTo l g)) : Int) - (1 : Int)) = (L.chain l).n ∧ ∀ (i : Nat), i < Int.toNat ((↑(L.len (L.chainTo l g)) : Int) - (1 : Int)) → [Go.SE.SV.int Go.IntKind.i64 (L.fromTop (L.chainTo l g) i).x, Go.SE.SV.int Go.IntKind.i64 (L.fromTop (L.chainTo l
 g) i).y] = [Go.SE.SV.int Go.IntKind.i64 ((L.chain l).g i).x, Go.SE.SV.int Go.IntKind.i64 ((L.chain l).g i).y]) ∧ True)) (by kernel_rfl) (by
    obtain ⟨h1, hn, hb⟩ := hp
    have len0 : ∀ k, L.len (L.chainTo l k) ≤ k := chainTo_len l
    have bdc : ∀ k, k ≤ l.n → ∀ q, L.lmem q (L.chainTo l k) → L.bd q := fun k hk q hq => by
      obtain ⟨i, hi, rfl⟩ := chainTo_mem hq
      exact hb i (by omega)
    refine ⟨⟨(0 : Nat), rfl, ⟨rfl, fun i hi => absurd hi (Nat.not_lt_zero _)⟩, Nat.zero_le _⟩, fun g hg => ⟨fun hlt => ?_, fun hge => ?_⟩⟩
    · have hb' : (g : Int) < (l.n : Int) := of_decide_eq_true hlt
      have e0 : ((g : Int)).toNat = g := by omega
      refine ⟨⟨by omega, hb'⟩, ⟨(g, L.chainTo l g), ⟨rfl, fun _ _ => rfl⟩, rfl, by omega, rfl, fun _ h => h, len0 g⟩, fun g1 hg1 => ?_⟩
      obtain ⟨g0, st⟩ := g1
      obtain ⟨e1, q1, q2, q3, q4⟩ := hg1
      have e1 : (g : Int) = (g0 : Int) := e1
      obtain rfl : g = g0 := by omega
      have q2 : L.popPt (l.g g) st = L.popPt (l.g g) (L.chainTo l g) := q2
      have q3 : ∀ q, L.lmem q st → L.lmem q (L.chainTo l g) := q3
      have q4 : L.len st ≤ g := q4
      have mb : ∀ k, k < L.len st → L.bd (L.fromTop st k) := fun k hk => bdc g hg _ (q3 _ (fromTop_mem hk))
      rw [e0]
      dsimp only
      refine ⟨fun h => ?_, fun h => ?_, fun h => ?_, fun h => ?_, fun h => ?_, fun h => ?_, fun h => ?_, fun hc => ?_, fun hc => ?_⟩
      any_goals (try have h : (1 : Int) < (L.len st : Int) := of_decide_eq_true h)
      · exact InK.of (by omega) (by omega)
      · omega
      · omega
      · exact InK.of (by omega) (by omega)
      · omega
      · omega
      · exact ⟨mb _ (by omega), mb _ (by omega), hb g (by omega)⟩
      · cases hd : decide ((1 : Int) < (L.len st : Int)) with
        | false => rw [hd] at hc; cases hc
        | true =>
          have h : (1 : Int) < (L.len st : Int) := of_decide_eq_true hd
          rw [hd] at hc
          have hc := of_decide_eq_true hc
          match st, h with
          | b :: a :: r, h =>
            have f1 : (((L.len (b :: a :: r) : Nat) : Int) - 2).toNat = r.length := by show (((r.length + 1 + 1 : Nat) : Int) - 2).toNat = r.length; omega
            have f2 : (((L.len (b :: a :: r) : Nat) : Int) - 1).toNat = r.length + 1 := by show (((r.length + 1 + 1 : Nat) : Int) - 1).toNat = r.length + 1; omega
            have g1 : L.fromTop (b :: a :: r) (r.length + 1) = b := fromTop_head
            have g2 : L.fromTop (b :: a :: r) r.length = a := (fromTop_tail (by simp)).trans fromTop_head
            rw [f1, f2, g1, g2] at hc
            refine ⟨InK.of (by omega) (by omega), ⟨by omega, by omega⟩, (g, a :: r), rfl, rfl, rfl, ⟨rfl, fun _ _ => rfl⟩, ⟨f2, fun i hi => ?_⟩, rfl, rfl, ⟨rfl, q1, ?_, fun q hq => q3 q (List.mem_cons_of_mem _ hq), ?_⟩, ?_⟩
            · rw [f2] at hi
              have : L.fromTop (b :: a :: r) i = L.fromTop (a :: r) i := fromTop_tail (by simpa using hi)
              rw [this]
            · rw [← q2]
              show L.popPt (l.g g) (a :: r) = bif decide (L.cross a b (l.g g) ≤ 0) then L.popPt (l.g g) (a :: r) else b :: a :: r
              rw [decide_eq_true hc]; rfl
            · have : r.length + 1 + 1 ≤ g := q4
              show r.length + 1 ≤ g
              omega
            · show r.length + 1 < r.length + 1 + 1
              omega
          | [], h => exact absurd h (by show ¬ (1 : Int) < ((0 : Nat) : Int); omega)
          | [a], h => exact absurd h (by show ¬ (1 : Int) < ((1 : Nat) : Int); omega)
      · have hp' : L.popPt (l.g g) st = st := by
          match st, hc with
          | [], _ => rfl
          | [a], _ => rfl
          | b :: a :: r, hc =>
            have f1 : (((L.len (b :: a :: r) : Nat) : Int) - 2).toNat = r.length := by show (((r.length + 1 + 1 : Nat) : Int) - 2).toNat = r.length; omega
            have f2 : (((L.len (b :: a :: r) : Nat) : Int) - 1).toNat = r.length + 1 := by show (((r.length + 1 + 1 : Nat) : Int) - 1).toNat = r.length + 1; omega
            have g1 : L.fromTop (b :: a :: r) (r.length + 1) = b := fromTop_head
            have g2 : L.fromTop (b :: a :: r) r.length = a := (fromTop_tail (by simp)).trans fromTop_head
            have hl : (1 : Int) < ((L.len (b :: a :: r) : Nat) : Int) := by show (1 : Int) < ((r.length + 1 + 1 : Nat) : Int); omega
            rw [decide_eq_true hl, f1, f2, g1, g2] at hc
            have hc : decide (L.cross a b (l.g g) ≤ 0) = false := hc
            show (bif decide (L.cross a b (l.g g) ≤ 0) then L.popPt (l.g g) (a :: r) else b :: a :: r) = b :: a :: r
            rw [hc]; rfl
        have e2 : L.chainTo l (g + 1) = l.g g :: st := by
          show l.g g :: L.popPt (l.g g) (L.chainTo l g) = l.g g :: st
          rw [← q2, hp']
        refine ⟨show (L.len st + 1) * 16 ≤ 140737488355328 by omega, InK.of (by omega) (by omega), g + 1, by omega, rfl, ⟨rfl, fun _ _ => rfl⟩, ?_, by omega, by omega⟩
        rw [e2]
        refine ⟨rfl, fun i hi => ?_⟩
        have hi : i < L.len st + 1 := hi
        unfold appGet
        by_cases h' : i < L.len st
        · rw [if_pos h']
          have : L.fromTop (l.g g :: st) i = L.fromTop st i := fromTop_tail h'
          rw [this]
        · rw [if_neg h']
          obtain rfl : i = L.len st := by omega
          have : L.fromTop (l.g g :: st) (L.len st) = l.g g := fromTop_head
          rw [this]
    · have hb' : ¬ (g : Int) < (l.n : Int) := of_decide_eq_false hge
      obtain rfl : g = l.n := by omega
      have l1 : 1 ≤ L.len (L.chainTo l l.n) := by
        match hh : l.n, h1 with
        | m + 1, _ => exact Nat.succ_le_succ (Nat.zero_le _)
      have l2 := len0 l.n
      have e2 : (((L.len (L.chainTo l l.n) : Nat) : Int) - 1).toNat = (L.chain l).n := by
        show (((L.len (L.chainTo l l.n) : Nat) : Int) - 1).toNat = L.len (L.chainTo l l.n) - 1
        omega
      exact ⟨InK.of (by omega) (by omega), ⟨by omega, by omega⟩, (0 : Nat), ⟨e2, fun _ _ => rfl⟩, trivial⟩)
theorem p_chain_ok : SpecOk Tryz.prog 168 p_chain_S := freshX Tryz.func168 (c := bodyOf Tryz.f168) (by kernel_rfl) mixed (fun args p q n g hs hp => by
  unfold p_chain_s at hs
  split at hs
  · cases hs; exact ⟨_, _, p_chain_vc _ hp.2, (.p (.sl hp.1) .nil), ⟨show SpecsL Tryz.prog _ from (SpecsL.cons p_cross_ok p_cross_en SpecsL.nil), rfl, ⟨show ItersL Tryz.prog _ from ItersL.nil, (TrsOk.none (fun _ => rfl))⟩⟩⟩
  · cases hs)
theorem p_chain_en : Enters Tryz.prog 168 := fun args w => by kernel_rfl
def p_hull_p (l : (L.Sq L.Pt)) : Prop := 2 ≤ l.n ∧ l.n ≤ 1000 ∧ ∀ i, i < l.n → L.bd (l.g i)
def p_hull_q (l : (L.Sq L.Pt)) : Nat → Prop := fun _ => True
def p_hull_n (l : (L.Sq L.Pt)) : Nat → Nat := fun _ => (L.hull l).n
def p_hull_g (l : (L.Sq L.Pt)) : Nat → Nat → List SV := fun _ k => [.int .i64 (((L.hull l).g k).x), .int .i64 (((L.hull l).g k).y)]
def p_hull_s : List EV → Option (Prop × (Nat → Prop) × (Nat → Nat) × (Nat → Nat → List SV))
  | [.p (.sl 2 l_n l_g)] => some ((∀ i, i < l_n → l_g i = [.int .i64 ((ofPt (l_g i)).x), .int .i64 ((ofPt (l_g i)).y)]) ∧ p_hull_p (⟨l_n, fun i => ofPt (l_g i)⟩ : (L.Sq L.Pt)), p_hull_q (⟨l_n, fun i => ofPt (l_g i)⟩ : (L.Sq L.Pt)), p_hull_n (⟨l_n, fun i => ofPt (l_g i)⟩ : (L.Sq L.Pt)), p_hull_g (⟨l_n, fun i => ofPt (l_g i)⟩ : (L.Sq L.Pt)))
  | _ => none
abbrev p_hull_S : SE.Spec := (specF Nat 0 63 2 p_hull_s)
def p_hull_C : Cfg := { muts := [7, 18], frz := lookN [], specs := lookS [(167, s_values_S), (166, s_sortedF_S), (168, p_chain_S), (146, s_concat_S)], loops := lookL [], iters := lookI [], rfs := lookR [], nils := lookM [], trs := lookT [(144, s_revP_tr)], ren := fun k => k - 998, raws := [166] }
theorem p_hull_vc (l : (L.Sq L.Pt)) (hp : p_hull_p l) : vc Tryz.prog (p_hull_C) (bodyOf Tryz.f127) (st0 Tryz.f127 [.p (.sl 2 l.n (fun i => [.int .i64 ((l.g i).x), .int .i64 ((l.g i).y)]))]) (retFresh Tryz.prog Tryz.f127 (Nat) (p_hull_q l) 63 2 (p_hull_n l) (p_hull_g l)) :=
  @Eq.mpr _ (((∀ (i : Nat), i < l.n → [Go.SE.SV.int Go.IntKind.i64 (l.g i).x, Go.SE.SV.int Go.IntKind.i64 (l.g i).y] = [Go.SE.SV.int Go.IntKind.i64 (l.g i).x, Go.SE.SV.int Go.IntKind.i64 (l.g i).y]) ∧ l.n ≤ (1000000 : Nat)) ∧ ((∀ (i : Nat), i < l.n → [Go.SE.SV.int Go.IntKind.i64 (l.g i).x, Go.SE.SV.int Go.IntKind.i64 (l.g i).y] = [Go.SE.SV.int Go.IntKind.i64 (l.g i).x, Go.SE.SV.int Go.IntKind.i64 (l.g i).y]) ∧
 l.n ≤ (1000000 : Nat)) ∧ ∀ (t : Nat), True → ((∀ (i : Nat), i < l.n → [Go.SE.SV.int Go.IntKind.i64 ((L.sorted (L.Sq.mk l.n fun (i : Nat) ↦ l.g i)).g i).x, Go.SE.SV.int Go.IntKind.i64 ((L.sorted (L.Sq.mk l.n fun (i : Nat) ↦ l.g i)).g i).y] = [Go.SE.SV.int Go.IntKind.i64 ((L.sorted (L.Sq.mk l.n fun (i : Nat) ↦ l.g i)).g i).x, Go.SE.SV.int Go.IntKind.i64 ((L.sorted (L.Sq.mk l.n fun (i : Nat) ↦ l.g
 i)).g i).y]) ∧ (1 : Nat) ≤ l.n ∧ l.n ≤ (1000000 : Nat) ∧ ∀ (i : Nat), i < l.n → L.bd ((L.sorted (L.Sq.mk l.n fun (i : Nat) ↦ l.g i)).g i)) ∧ ∀ (t : Nat), True → (∀ (i : Nat), i < (L.chain (L.Sq.mk l.n fun (i : Nat) ↦ (L.sorted (L.Sq.mk l.n fun (i : Nat) ↦ l.g i)).g i)).n → (Bool.true && (Bool.true && Bool.true)) = Bool.true) ∧ ∃ (t : L.Sq L.Pt), (l.n = t.n ∧ ∀ (i : Nat), i < l.n → [Go.SE.SV.int
 Go.IntKind.i64 ((L.sorted (L.Sq.mk l.n fun (i : Nat) ↦ l.g i)).g i).x, Go.SE.SV.int Go.IntKind.i64 ((L.sorted (L.Sq.mk l.n fun (i : Nat) ↦ l.g i)).g i).y] = [Go.SE.SV.int Go.IntKind.i64 (t.g i).x, Go.SE.SV.int Go.IntKind.i64 (t.g i).y]) ∧ t.n ≤ (1000000 : Nat) ∧ ∀ (u : Nat), True → ((∀ (i : Nat), i < t.n → [Go.SE.SV.int Go.IntKind.i64 (t.g (t.n - (1 : Nat) - i)).x, Go.SE.SV.int Go.IntKind.i64 (t.g
 (t.n - (1 : Nat) - i)).y] = [Go.SE.SV.int Go.IntKind.i64 (t.g (t.n - (1 : Nat) - i)).x, Go.SE.SV.int Go.IntKind.i64 (t.g (t.n - (1 : Nat) - i)).y]) ∧ (1 : Nat) ≤ t.n ∧ t.n ≤ (1000000 : Nat) ∧ ∀ (i : Nat), i < t.n → L.bd (t.g (t.n - (1 : Nat) - i))) ∧ ∀ (t_1 : Nat), True → (∀ (i : Nat), i < (L.chain (L.Sq.mk t.n fun (i : Nat) ↦ t.g (t.n - (1 : Nat) - i))).n → (Bool.true && (Bool.true && Bool.true))
 = Bool.true) ∧ (((∀ (i : Nat), i < (L.chain (L.Sq.mk l.n fun (i : Nat) ↦ (L.sorted (L.Sq.mk l.n fun (i : Nat) ↦ l.g i)).g i)).n → [Go.SE.SV.int Go.IntKind.i64 ((L.chain (L.Sq.mk l.n fun (i : Nat) ↦ (L.sorted (L.Sq.mk l.n fun (i : Nat) ↦ l.g i)).g i)).g i).x, Go.SE.SV.int Go.IntKind.i64 ((L.chain (L.Sq.mk l.n fun (i : Nat) ↦ (L.sorted (L.Sq.mk l.n fun (i : Nat) ↦ l.g i)).g i)).g i).y] =
 [Go.SE.SV.int Go.IntKind.i64 ((L.chain (L.Sq.mk l.n fun (i : Nat) ↦ (L.sorted (L.Sq.mk l.n fun (i : Nat) ↦ l.g i)).g i)).g i).x, Go.SE.SV.int Go.IntKind.i64 ((L.chain (L.Sq.mk l.n fun (i : Nat) ↦ (L.sorted (L.Sq.mk l.n fun (i : Nat) ↦ l.g i)).g i)).g i).y]) ∧ ∀ (i : Nat), i < (L.chain (L.Sq.mk t.n fun (i : Nat) ↦ t.g (t.n - (1 : Nat) - i))).n → [Go.SE.SV.int Go.IntKind.i64 ((L.chain (L.Sq.mk t.n
 fun (i : Nat) ↦ t.g (t.n - (1 : Nat) - i))).g i).x, Go.SE.SV.int Go.IntKind.i64 ((L.chain (L.Sq.mk t.n fun (i : Nat) ↦ t.g (t.n - (1 : Nat) - i))).g i).y] = [Go.SE.SV.int Go.IntKind.i64 ((L.chain (L.Sq.mk t.n fun (i : Nat) ↦ t.g (t.n - (1 : Nat) - i))).g i).x, Go.SE.SV.int Go.IntKind.i64 ((L.chain (L.Sq.mk t.n fun (i : Nat) ↦ t.g (t.n - (1 : Nat) - i))).g i).y]) ∧ (1 : Nat) ≤ (L.two (L.Sq.mk
 (L.chain (L.Sq.mk l.n fun (i : Nat) ↦ (L.sorted (L.Sq.mk l.n fun (i : Nat) ↦ l.g i)).g i)).n fun (i : Nat) ↦ (L.chain (L.Sq.mk l.n fun (i : Nat) ↦ (L.sorted (L.Sq.mk l.n fun (i : Nat) ↦ l.g i)).g i)).g i) (L.Sq.mk (L.chain (L.Sq.mk t.n fun (i : Nat) ↦ t.g (t.n - (1 : Nat) - i))).n fun (i : Nat) ↦ (L.chain (L.Sq.mk t.n fun (i : Nat) ↦ t.g (t.n - (1 : Nat) - i))).g i) (0 : Nat)).n + (L.two (L.Sq.mk
 (L.chain (L.Sq.mk l.n fun (i : Nat) ↦ (L.sorted (L.Sq.mk l.n fun (i : Nat) ↦ l.g i)).g i)).n fun (i : Nat) ↦ (L.chain (L.Sq.mk l.n fun (i : Nat) ↦ (L.sorted (L.Sq.mk l.n fun (i : Nat) ↦ l.g i)).g i)).g i) (L.Sq.mk (L.chain (L.Sq.mk t.n fun (i : Nat) ↦ t.g (t.n - (1 : Nat) - i))).n fun (i : Nat) ↦ (L.chain (L.Sq.mk t.n fun (i : Nat) ↦ t.g (t.n - (1 : Nat) - i))).g i) (1 : Nat)).n ∧ (L.two (L.Sq.mk
 (L.chain (L.Sq.mk l.n fun (i : Nat) ↦ (L.sorted (L.Sq.mk l.n fun (i : Nat) ↦ l.g i)).g i)).n fun (i : Nat) ↦ (L.chain (L.Sq.mk l.n fun (i : Nat) ↦ (L.sorted (L.Sq.mk l.n fun (i : Nat) ↦ l.g i)).g i)).g i) (L.Sq.mk (L.chain (L.Sq.mk t.n fun (i : Nat) ↦ t.g (t.n - (1 : Nat) - i))).n fun (i : Nat) ↦ (L.chain (L.Sq.mk t.n fun (i : Nat) ↦ t.g (t.n - (1 : Nat) - i))).g i) (0 : Nat)).n ≤ (1000000 : Nat)
 ∧ (L.two (L.Sq.mk (L.chain (L.Sq.mk l.n fun (i : Nat) ↦ (L.sorted (L.Sq.mk l.n fun (i : Nat) ↦ l.g i)).g i)).n fun (i : Nat) ↦ (L.chain (L.Sq.mk l.n fun (i : Nat) ↦ (L.sorted (L.Sq.mk l.n fun (i : Nat) ↦ l.g i)).g i)).g i) (L.Sq.mk (L.chain (L.Sq.mk t.n fun (i : Nat) ↦ t.g (t.n - (1 : Nat) - i))).n fun (i : Nat) ↦ (L.chain (L.Sq.mk t.n fun (i : Nat) ↦ t.g (t.n - (1 : Nat) - i))).g i) (1 : Nat)).n
 ≤ (1000000 : Nat)) ∧ ∀ (t_2 : Nat), True → ∃ (t_3 : Nat), ((L.catTo (L.two (L.Sq.mk (L.chain (L.Sq.mk l.n fun (i : Nat) ↦ (L.sorted (L.Sq.mk l.n fun (i : Nat) ↦ l.g i)).g i)).n fun (i : Nat) ↦ (L.chain (L.Sq.mk l.n fun (i : Nat) ↦ (L.sorted (L.Sq.mk l.n fun (i : Nat) ↦ l.g i)).g i)).g i) (L.Sq.mk (L.chain (L.Sq.mk t.n fun (i : Nat) ↦ t.g (t.n - (1 : Nat) - i))).n fun (i : Nat) ↦ (L.chain (L.Sq.mk
 t.n fun (i : Nat) ↦ t.g (t.n - (1 : Nat) - i))).g i)) (2 : Nat)).n = (L.hull l).n ∧ ∀ (i : Nat), i < (L.catTo (L.two (L.Sq.mk (L.chain (L.Sq.mk l.n fun (i : Nat) ↦ (L.sorted (L.Sq.mk l.n fun (i : Nat) ↦ l.g i)).g i)).n fun (i : Nat) ↦ (L.chain (L.Sq.mk l.n fun (i : Nat) ↦ (L.sorted (L.Sq.mk l.n fun (i : Nat) ↦ l.g i)).g i)).g i) (L.Sq.mk (L.chain (L.Sq.mk t.n fun (i : Nat) ↦ t.g (t.n - (1 : Nat) -
 i))).n fun (i : Nat) ↦ (L.chain (L.Sq.mk t.n fun (i : Nat) ↦ t.g (t.n - (1 : Nat) - i))).g i)) (2 : Nat)).n → [Go.SE.SV.int Go.IntKind.i64 ((L.catTo (L.two (L.Sq.mk (L.chain (L.Sq.mk l.n fun (i : Nat) ↦ (L.sorted (L.Sq.mk l.n fun (i : Nat) ↦ l.g i)).g i)).n fun (i : Nat) ↦ (L.chain (L.Sq.mk l.n fun (i : Nat) ↦ (L.sorted (L.Sq.mk l.n fun (i : Nat) ↦ l.g i)).g i)).g i) (L.Sq.mk (L.chain (L.Sq.mk t.n
 fun (i : Nat) ↦ t.g (t.n - (1 : Nat) - i))).n fun (i : Nat) ↦ (L.chain (L.Sq.mk t.n fun (i : Nat) ↦ t.g (t.n - (1 : Nat) - i))).g i)) (2 : Nat)).g i).x, Go.SE.SV.int Go.IntKind.i64 ((L.catTo (L.two (L.Sq.mk (L.chain (L.Sq.mk l.n fun (i : Nat) ↦ (L.sorted (L.Sq.mk l.n fun (i : Nat) ↦ l.g i)).g i)).n fun (i : Nat) ↦ (L.chain (L.Sq.mk l.n fun (i : Nat) ↦ (L.sorted (L.Sq.mk l.n fun (i : Nat) ↦ l.g
 i)).g i)).g i) (L.Sq.mk (L.chain (L.Sq.mk t.n fun (i : Nat) ↦ t.g (t.n - (1 : Nat) - i))).n fun (i : Nat) ↦ (L.chain (L.Sq.mk t.n fun (i : Nat) ↦ t.g (t.n - (1 : Nat) - i))).g i)) (2 : Nat)).g i).y] = [Go.SE.SV.int Go.IntKind.i64 ((L.hull l).g i).x, Go.SE.SV.int Go.IntKind.i64 ((L.hull l).g i).y]) ∧ True) (by kernel_rfl) (by
    obtain ⟨h1, hn, hb⟩ := hp
    have sb : ∀ i, i < l.n → L.bd ((L.sorted l).g i) := fun i hi => by
      obtain ⟨j, hj, e⟩ := sorted_mem l hi
      rw [e]; exact hb j hj
    have cl : ∀ m : L.Sq L.Pt, (L.chain m).n ≤ m.n := fun m => by
      have := chainTo_len m m.n
      show (L.chainTo m m.n).length - 1 ≤ m.n
      omega
    have c1 : (L.chain (L.sorted l)).n ≤ l.n := cl (L.sorted l)
    have c2 : (L.chain (L.revd (L.sorted l))).n ≤ l.n := cl (L.revd (L.sorted l))
    have c3 : 1 ≤ (L.chain (L.sorted l)).n := chain_pos (l := L.sorted l) h1
    refine ⟨⟨fun _ _ => rfl, by omega⟩, ⟨fun _ _ => rfl, by omega⟩, fun t _ => ⟨⟨fun _ _ => rfl, by omega, by omega, sb⟩, fun t _ => ⟨fun _ _ => rfl, L.sorted l, ⟨rfl, fun _ _ => rfl⟩, show l.n ≤ 1000000 by omega, fun u _ => ⟨⟨fun _ _ => rfl, show 1 ≤ l.n by omega, show l.n ≤ 1000000 by omega, fun i hi => sb _ ?_⟩, fun t1 _ => ⟨fun _ _ => rfl, ⟨⟨fun _ _ => rfl, fun _ _ => rfl⟩, ?_, ?_, ?_⟩, fun t2 _ => ⟨(0 : Nat), ⟨rfl, fun _ _ => rfl⟩, trivial⟩⟩⟩⟩⟩⟩
    · have hi : i < l.n := hi
      show l.n - 1 - i < l.n
      omega
    · show 1 ≤ (L.chain (L.sorted l)).n + (L.chain (L.revd (L.sorted l))).n
      omega
    · show (L.chain (L.sorted l)).n ≤ 1000000
      omega
    · show (L.chain (L.revd (L.sorted l))).n ≤ 1000000
      omega)
theorem p_hull_ok : SpecOk Tryz.prog 127 p_hull_S := freshX Tryz.func127 (c := bodyOf Tryz.f127) (by kernel_rfl) mixed (fun args p q n g hs hp => by
  unfold p_hull_s at hs
  split at hs
  · cases hs; exact ⟨_, _, p_hull_vc _ hp.2, (.p (.sl hp.1) .nil), ⟨show SpecsL Tryz.prog _ from (SpecsL.cons s_values_ok s_values_en (SpecsL.cons s_sortedF_ok s_sortedF_en (SpecsL.cons p_chain_ok p_chain_en (SpecsL.cons s_concat_ok s_concat_en SpecsL.nil)))), rfl, ⟨show ItersL Tryz.prog _ from ItersL.nil, (show TrsL Tryz.prog _ from (TrsL.cons s_revP_tok s_revP_en TrsL.nil))⟩⟩⟩
  · cases hs)
theorem p_hull_en : Enters Tryz.prog 127 := fun args w => by kernel_rfl
end Go.Proofs.YtkklpamllfkbaaaGreat

namespace Go.Proofs.YtkklpamllfkbaaaGreat
open Go.SE Go.RowKit
set_option maxRecDepth 100000
set_option maxHeartbeats 4000000
set_option linter.unusedVariables false
attribute [local irreducible] Go.SE.vc

structure L.Pocket where
  fr : Int
  to_ : Int
  area : Int
def ofPocket : List SV → L.Pocket
  | [.int _ a, .int _ b, .int _ c] => ⟨a, b, c⟩
  | _ => ⟨0, 0, 0⟩
instance : Inhabited L.Pocket := ⟨⟨0, 0, 0⟩⟩
def encPk (p : L.Pocket) : List Int := [p.fr, p.to_, p.area]
def L.cmpFr (a b : L.Pocket) : Int := L.cmp a.fr b.fr
theorem swoPk : Go.Sort.SWO (Go.Proofs.ltOf L.cmpFr) := by
  have k : ∀ x y, Go.Proofs.ltOf L.cmpFr x y = true ↔ x.fr < y.fr := fun x y => by
    unfold Go.Proofs.ltOf L.cmpFr L.cmp; rw [decide_eq_true_iff]
    by_cases h1 : x.fr < y.fr
    · simp [h1]
    · by_cases h2 : y.fr < x.fr <;> simp [h1, h2]
  have kf : ∀ x y, Go.Proofs.ltOf L.cmpFr x y = false ↔ ¬ x.fr < y.fr := fun x y => by
    rw [← k, Bool.not_eq_true]
  refine ⟨fun x => ?_, fun x y z => ?_, fun x y z => ?_⟩
  · rw [kf]; omega
  · simp only [k]; omega
  · simp only [kf]; omega
def L.pkFrom (l h : L.Sq L.Pt) (k : Nat) : Int := L.ptIdx l (h.g k)
def L.pkTo (l h : L.Sq L.Pt) (k : Nat) : Int := L.ptIdx l (h.g (L.next h.n k))
def L.isPk (l h : L.Sq L.Pt) (k : Nat) : Bool := !decide (L.pkTo l h k = Int.tmod (L.pkFrom l h k + 1) (l.n : Int))
def L.back (n : Nat) (to_ : Int) (j : Nat) : Int := Int.tmod (to_ + (n : Int) - (j : Int)) (n : Int)
def L.pkLen (n : Nat) (fr to_ : Int) : Nat := (Int.tmod (to_ + (n : Int) - fr) (n : Int)).toNat
def L.pkRow (l : L.Sq L.Pt) (fr to_ : Int) : L.Sq L.Pt := ⟨L.pkLen l.n fr to_ + 1, fun j => l.g (L.back l.n to_ j).toNat⟩
def L.pk (l h : L.Sq L.Pt) (k : Nat) : L.Pocket := ⟨L.pkFrom l h k, L.pkTo l h k, L.areaTo (L.pkRow l (L.pkFrom l h k) (L.pkTo l h k)) (L.pkRow l (L.pkFrom l h k) (L.pkTo l h k)).n⟩
def L.pks (l : L.Sq L.Pt) : L.Sq L.Pocket := ⟨L.cnt (L.isPk l (L.hull l)) (L.hull l).n, fun i => L.pk l (L.hull l) (L.selN (L.isPk l (L.hull l)) (L.hull l).n i)⟩
def L.pkN (l : L.Sq L.Pt) : Nat := bif L.validOutline l then (L.pks l).n else 0
def sortPk_ren : Go.Shelf.Ren := ⟨fun | 6 => 128 | 15 => 170 | 14 => 169 | 28 => 193 | 29 => 194 | 20 => 185 | 21 => 186 | 22 => 187 | 23 => 188 | 24 => 189 | 25 => 190 | 26 => 191 | 27 => 192 | 46 => 200 | 47 => 201 | 48 => 202 | 49 => 203 | 50 => 204 | 57 => 221 | n => n, fun | 22 => 111 | 24 => 118 | 25 => 159 | 3 => 3 | 39 => 193 | 0 => 0 | 53 => 213 | 55 => 215 | 4 => 4 | 46 => 206 | 45 => 205 | 50 => 210 | 5 => 5 | 9 => 9 | 66 => 220 | 70 => 224 | 76 => 236 | 77 => 237 | n => n, fun | n => n⟩
theorem sortPk_lay : Go.Proofs.SlLaysF0.n6 Tryz.prog sortPk_ren := {
  mixed := by kernel_rfl
  f6 := ⟨Tryz.f128.name, by decide, Tryz.func128.trans (congrArg some (by kernel_rfl))⟩
  f14 := ⟨Tryz.f169.name, by decide, Tryz.func169.trans (congrArg some (by kernel_rfl))⟩
  f15 := Tryz.func170.trans (congrArg some (by kernel_rfl))
  f20 := ⟨Tryz.f185.name, by decide, Tryz.func185.trans (congrArg some (by kernel_rfl))⟩
  f21 := ⟨Tryz.f186.name, by decide, Tryz.func186.trans (congrArg some (by kernel_rfl))⟩
  f22 := ⟨Tryz.f187.name, by decide, Tryz.func187.trans (congrArg some (by kernel_rfl))⟩
  f23 := ⟨Tryz.f188.name, by decide, Tryz.func188.trans (congrArg some (by kernel_rfl))⟩
  f24 := ⟨Tryz.f189.name, by decide, Tryz.func189.trans (congrArg some (by kernel_rfl))⟩
  f25 := ⟨Tryz.f190.name, by decide, Tryz.func190.trans (congrArg some (by kernel_rfl))⟩
  f26 := ⟨Tryz.f191.name, by decide, Tryz.func191.trans (congrArg some (by kernel_rfl))⟩
  f27 := ⟨Tryz.f192.name, by decide, Tryz.func192.trans (congrArg some (by kernel_rfl))⟩
  f28 := Tryz.func193.trans (congrArg some (by kernel_rfl))
  f29 := Tryz.func194.trans (congrArg some (by kernel_rfl))
  f46 := ⟨Tryz.f200.name, by decide, Tryz.func200.trans (congrArg some (by kernel_rfl))⟩
  f47 := Tryz.func201.trans (congrArg some (by kernel_rfl))
  f48 := Tryz.func202.trans (congrArg some (by kernel_rfl))
  f49 := ⟨Tryz.f203.name, by decide, Tryz.func203.trans (congrArg some (by kernel_rfl))⟩
  f50 := ⟨Tryz.f204.name, by decide, Tryz.func204.trans (congrArg some (by kernel_rfl))⟩
  f57 := ⟨Tryz.f221.name, by decide, Tryz.func221.trans (congrArg some (by kernel_rfl))⟩
  t0 := Tryz.underlying0
  a0 := Tryz.isAgg0
  z0 := Tryz.sizeOf0
  v0 := Tryz.zeroValue0
  t3 := Tryz.underlying3
  a3 := Tryz.isAgg3
  z3 := Tryz.sizeOf3
  v3 := Tryz.zeroValue3
  t4 := Tryz.underlying4
  a4 := Tryz.isAgg4
  z4 := Tryz.sizeOf4
  v4 := Tryz.zeroValue4
  t5 := Tryz.underlying5
  a5 := Tryz.isAgg5
  z5 := Tryz.sizeOf5
  v5 := Tryz.zeroValue5
  t9 := Tryz.underlying9
  a9 := Tryz.isAgg9
  z9 := Tryz.sizeOf9
  v9 := Tryz.zeroValue9
  t22 := Tryz.underlying111
  a22 := Tryz.isAgg111
  z22 := Tryz.sizeOf111
  v22 := Tryz.zeroValue111
  t25 := Tryz.underlying159
  a25 := Tryz.isAgg159
  z25 := Tryz.sizeOf159
  v25 := Tryz.zeroValue159
  t39 := Tryz.underlying193
  a39 := Tryz.isAgg193
  z39 := Tryz.sizeOf193
  v39 := Tryz.zeroValue193
  t45 := Tryz.underlying205
  a45 := Tryz.isAgg205
  z45 := Tryz.sizeOf205
  v45 := Tryz.zeroValue205
  t46 := Tryz.underlying206
  a46 := Tryz.isAgg206
  z46 := Tryz.sizeOf206
  v46 := Tryz.zeroValue206
  t50 := Tryz.underlying210
  a50 := Tryz.isAgg210
  z50 := Tryz.sizeOf210
  v50 := Tryz.zeroValue210
  t53 := Tryz.underlying213
  a53 := Tryz.isAgg213
  z53 := Tryz.sizeOf213
  v53 := Tryz.zeroValue213
  t55 := Tryz.underlying215
  a55 := Tryz.isAgg215
  z55 := Tryz.sizeOf215
  v55 := Tryz.zeroValue215
  t66 := Tryz.underlying220
  a66 := Tryz.isAgg220
  z66 := Tryz.sizeOf220
  v66 := Tryz.zeroValue220
  t70 := Tryz.underlying224
  a70 := Tryz.isAgg224
  z70 := Tryz.sizeOf224
  v70 := Tryz.zeroValue224
  t76 := Tryz.underlying236
  a76 := Tryz.isAgg236
  z76 := Tryz.sizeOf236
  v76 := Tryz.zeroValue236
  t77 := Tryz.underlying237
  a77 := Tryz.isAgg237
  z77 := Tryz.sizeOf237
  v77 := Tryz.zeroValue237 }

theorem back_bd {n : Nat} {to_ : Int} (hn : 0 < n) (h0 : 0 ≤ to_) {j : Nat} (hj : j ≤ n) : 0 ≤ L.back n to_ j ∧ L.back n to_ j < (n : Int) := by
  unfold L.back
  exact ⟨Int.tmod_nonneg (n : Int) (by omega), Int.tmod_lt_of_pos _ (by omega)⟩
theorem back_0 {n : Nat} {to_ : Int} (h0 : 0 ≤ to_) (h1 : to_ < (n : Int)) : L.back n to_ 0 = to_ := by
  unfold L.back
  rw [show to_ + (n : Int) - ((0 : Nat) : Int) = to_ + (n : Int) by omega, Int.tmod_eq_emod_of_nonneg (by omega), Int.add_emod_right, Int.emod_eq_of_lt h0 h1]
theorem back_succ {n : Nat} {to_ : Int} (hn : 0 < n) (h0 : 0 ≤ to_) {j : Nat} (hj : j < n) : Int.tmod (L.back n to_ j + (n : Int) - 1) (n : Int) = L.back n to_ (j + 1) := by
  have hb := back_bd hn h0 (j := j) (by omega)
  unfold L.back at hb ⊢
  rw [Int.tmod_eq_emod_of_nonneg (a := to_ + (n : Int) - (j : Int)) (by omega)] at hb ⊢
  rw [Int.tmod_eq_emod_of_nonneg (by omega), Int.tmod_eq_emod_of_nonneg (a := to_ + (n : Int) - ((j + 1 : Nat) : Int)) (by omega)]
  rw [show (to_ + (n : Int) - (j : Int)) % (n : Int) + (n : Int) - 1 = (to_ + (n : Int) - (j : Int)) % (n : Int) + ((n : Int) - 1) by omega, Int.emod_add_emod, show to_ + (n : Int) - (j : Int) + ((n : Int) - 1) = to_ + (n : Int) - ((j + 1 : Nat) : Int) + (n : Int) by omega, Int.add_emod_right]
theorem back_end {n : Nat} {fr to_ : Int} (hf0 : 0 ≤ fr) (hf1 : fr < (n : Int)) (ht0 : 0 ≤ to_) (ht1 : to_ < (n : Int)) {j : Nat} (hj : j ≤ L.pkLen n fr to_) : (L.back n to_ j = fr ↔ j = L.pkLen n fr to_) ∧ L.pkLen n fr to_ < n := by
  unfold L.pkLen L.back at *
  rw [Int.tmod_eq_emod_of_nonneg (a := to_ + (n : Int) - fr) (by omega)] at hj ⊢
  by_cases h : fr ≤ to_
  · have e1 : (to_ + (n : Int) - fr) % (n : Int) = to_ - fr := by
      rw [show to_ + (n : Int) - fr = to_ - fr + (n : Int) by omega, Int.add_emod_right, Int.emod_eq_of_lt (by omega) (by omega)]
    rw [e1] at hj ⊢
    rw [Int.tmod_eq_emod_of_nonneg (by omega), show to_ + (n : Int) - (j : Int) = to_ - (j : Int) + (n : Int) by omega, Int.add_emod_right, Int.emod_eq_of_lt (by omega) (by omega)]
    omega
  · have e1 : (to_ + (n : Int) - fr) % (n : Int) = to_ + (n : Int) - fr := Int.emod_eq_of_lt (by omega) (by omega)
    rw [e1] at hj ⊢
    rw [Int.tmod_eq_emod_of_nonneg (by omega)]
    by_cases h2 : (j : Int) ≤ to_
    · rw [show to_ + (n : Int) - (j : Int) = to_ - (j : Int) + (n : Int) by omega, Int.add_emod_right, Int.emod_eq_of_lt (by omega) (by omega)]
      omega
    · rw [Int.emod_eq_of_lt (by omega) (by omega)]
      omega
theorem pkRow_small {l : L.Sq L.Pt} (hs : L.small l) {fr to_ : Int} (hn : l.n ≤ 900) (hf0 : 0 ≤ fr) (hf1 : fr < (l.n : Int)) (ht0 : 0 ≤ to_) (ht1 : to_ < (l.n : Int)) : L.small (L.pkRow l fr to_) := by
  have hlen := (back_end hf0 hf1 ht0 ht1 (j := 0) (Nat.zero_le _)).2
  refine ⟨show L.pkLen l.n fr to_ + 1 ≤ 1000 by omega, fun i hi => ?_⟩
  have hi : i < L.pkLen l.n fr to_ + 1 := hi
  have hb := back_bd (n := l.n) (by omega) ht0 (j := i) (by omega)
  exact hs.2 _ (by omega)
theorem pk_idx {l : L.Sq L.Pt} {k : Nat} (hk : k < (L.hull l).n) : 0 ≤ L.ptIdx l ((L.hull l).g k) ∧ L.ptIdx l ((L.hull l).g k) < (l.n : Int) := by
  obtain ⟨i, hi, e⟩ := hull_mem l hk
  obtain ⟨j, hj, e2, _⟩ := ptIdx_of (l := l) hi
  rw [e, e2]; omega
def p_pk1_p (a : L.Pocket) (b : L.Pocket) : Prop := True
def p_pk1_r (a : L.Pocket) (b : L.Pocket) : SV := .int .i64 (L.cmpFr a b)
def p_pk1_s : List EV → Option (Prop × SV)
  | [.p (.agg [.int .i64 a_fr, .int .i64 a_to_, .int .i64 a_area]), .p (.agg [.int .i64 b_fr, .int .i64 b_to_, .int .i64 b_area])] => some (p_pk1_p (⟨a_fr, a_to_, a_area⟩ : L.Pocket) (⟨b_fr, b_to_, b_area⟩ : L.Pocket), p_pk1_r (⟨a_fr, a_to_, a_area⟩ : L.Pocket) (⟨b_fr, b_to_, b_area⟩ : L.Pocket))
  | _ => none
abbrev p_pk1_S : SE.Spec := (specO p_pk1_s)
def p_pk1_C : Cfg := { muts := [], frz := lookN [], specs := lookS [(130, c_cmp_S)], loops := lookL [], iters := lookI [], rfs := lookR [], nils := lookM [] }
theorem p_pk1_vc (a : L.Pocket) (b : L.Pocket) (hp : p_pk1_p a b) : vc Tryz.prog (p_pk1_C) (bodyOf Tryz.f129) (st0 Tryz.f129 [.p (.agg [.int .i64 a.fr, .int .i64 a.to_, .int .i64 a.area]), .p (.agg [.int .i64 b.fr, .int .i64 b.to_, .int .i64 b.area])]) (retFn Tryz.prog Tryz.f129 (p_pk1_r a b)) :=
  @Eq.mpr _ (True ∧ L.cmp a.fr b.fr = L.cmpFr a b) (by kernel_rfl) (by
    exact ⟨trivial, rfl⟩)
theorem p_pk1_ok : SpecOk Tryz.prog 129 p_pk1_S := fnX Tryz.func129 (c := bodyOf Tryz.f129) (by kernel_rfl) mixed (fun args p r hs hp => by
  unfold p_pk1_s at hs
  split at hs
  · cases hs; exact ⟨_, _, p_pk1_vc _ _ hp, (.same _ (.same _ .nil)), ⟨show SpecsL Tryz.prog _ from (SpecsL.cons c_cmp_ok c_cmp_en SpecsL.nil), rfl, ⟨show ItersL Tryz.prog _ from ItersL.nil, (TrsOk.none (fun _ => rfl))⟩⟩⟩
  · cases hs)
theorem p_pk1_en : Enters Tryz.prog 129 := fun args w => by kernel_rfl
theorem p_pk1_I : ∀ args p r, p_pk1_s args = some (p, r) → ∃ n, r = .int .i64 n := by
  intro args p r h
  unfold p_pk1_s at h
  split at h
  · cases h; exact ⟨_, rfl⟩
  · cases h
abbrev s_sortK_tr : Tr := sortTr 118 3 129 1005 encPk L.cmpFr
theorem s_sortK_tok : TrOk Tryz.prog 128 s_sortK_tr := sortTr_ok (enc := encPk) sortPk_lay (by decide) (fun w => Tryz.isAgg118 w) (fun w => Tryz.sizeOf118 w) (fun _ => rfl) swoPk p_pk1_ok p_pk1_en (fun x y => show preO p_pk1_s [.p (.agg [.int .i64 x.fr, .int .i64 x.to_, .int .i64 x.area]), .p (.agg [.int .i64 y.fr, .int .i64 y.to_, .int .i64 y.area])] from trivial) (fun x y => rfl) _ _
theorem s_sortK_en : Enters Tryz.prog 128 := fun args w => by kernel_rfl
def p_Pockets_p (l : (L.Sq L.Pt)) : Prop := l.n ≤ 1000000
def p_Pockets_q (l : (L.Sq L.Pt)) : (Nat → L.Pocket) → Prop := fun u => L.validOutline l = true → SortedBy L.cmpFr (L.pks l).n (L.pks l).g u
def p_Pockets_r (l : (L.Sq L.Pt)) : (Nat → L.Pocket) → SV := fun u => .tup [.sl 3 (L.pkN l) (fun i => [.int .i64 ((u i).fr), .int .i64 ((u i).to_), .int .i64 ((u i).area)]), .int .i64 (bif L.validOutline l then 0 else 1)]
def p_Pockets_s : List EV → Option (Prop × ((Nat → L.Pocket) → Prop) × ((Nat → L.Pocket) → SV))
  | [.p (.sl 2 l_n l_g)] => some ((∀ i, i < l_n → l_g i = [.int .i64 ((ofPt (l_g i)).x), .int .i64 ((ofPt (l_g i)).y)]) ∧ p_Pockets_p (⟨l_n, fun i => ofPt (l_g i)⟩ : (L.Sq L.Pt)), p_Pockets_q (⟨l_n, fun i => ofPt (l_g i)⟩ : (L.Sq L.Pt)), p_Pockets_r (⟨l_n, fun i => ofPt (l_g i)⟩ : (L.Sq L.Pt)))
  | _ => none
abbrev p_Pockets_S : SE.Spec := (specR (Nat → L.Pocket) (fun _ => ⟨0, 0, 0⟩) p_Pockets_s)
def p_Pockets_C : Cfg := { muts := [4, 5, 7, 40], frz := lookN [], specs := lookS [(70, p_ValidOutline_S), (127, p_hull_S), (119, p_triples_S), (92, s_idxPt_S), (118, p_area_S), (129, p_pk1_S)], loops := fun _ => none, iters := lookI [(162, p_triples1_it)], rfs := lookR [], nils := lookM [(5, [(4, 68, 118, 3)])], trs := lookT [(128, s_sortK_tr)], ren := fun k => k - 937 }
theorem p_Pockets_vc (l : (L.Sq L.Pt)) (hp : p_Pockets_p l) : vc Tryz.prog ({ p_Pockets_C with loops := lookL [(11, { T := Nat × Int × Int, keep := [1, 4, 5, 8, 9, 10], keepO := [4, 5, 68], tie := fun g => [(8, .int .i64 g.2.1), (9, .int .i64 g.2.2)], chg := fun g => [(11, .p (.int .i64 (L.back l.n g.2.2 g.1)))], own := fun g => [(40, .row 63 2 (g.1 + 1) (fun j => [.int .i64 ((l.g (L.back l.n g.2.2 j).toNat).x), .int .i64 ((l.g (L.back l.n g.2.2 j).toNat).y)]))], inv := fun g => (0 ≤ g.2.1 ∧ g.2.1 < (l.n : Int)) ∧ (0 ≤ g.2.2 ∧ g.2.2 < (l.n : Int)) ∧ g.1 ≤ L.pkLen l.n g.2.1 g.2.2, mu := fun g => l.n - g.1 })], rfs := lookR [(6, { T := Nat, keep := [1, 4, 5], keepO := [5], own := fun k _ => [(4, .blk 111 [.row 68]), (68, .row 118 3 (L.cnt (L.isPk l (L.hull l)) k) (fun i => [.int .i64 ((L.pk l (L.hull l) (L.selN (L.isPk l (L.hull l)) k i)).fr), .int .i64 ((L.pk l (L.hull l) (L.selN (L.isPk l (L.hull l)) k i)).to_), .int .i64 ((L.pk l (L.hull l) (L.selN (L.isPk l (L.hull l)) k i)).area)]))], inv := fun k _ => k ≤ (L.hull l).n })] }) (bodyOf Tryz.f81) (st0 Tryz.f81 [.p (.sl 2 l.n (fun i => [.int .i64 ((l.g i).x), .int .i64 ((l.g i).y)]))]) (retRel Tryz.prog Tryz.f81 ((Nat → L.Pocket)) (p_Pockets_q l) (p_Pockets_r l)) :=
  @Eq.mpr _ (((∀ (i : Nat), i < l.n → [Go.SE.SV.int Go.IntKind.i64 (l.g i).x, Go.SE.SV.int Go.IntKind.i64 (l.g i).y] = [Go.SE.SV.int Go.IntKind.i64 (l.g i).x, Go.SE.SV.int Go.IntKind.i64 (l.g i).y]) ∧ l.n ≤ (1000000 : Nat)) ∧ ((!L.validOutline (L.Sq.mk l.n fun (i : Nat) ↦ l.g i)) = Bool.true → ∃ (t : Nat → L.Pocket), L.pkN l = (0 : Nat) ∧ ((1 : Int) = bif L.validOutline l then (0 : Int) else (1 : Int)) ∧
 (L.validOutline l = Bool.true → Go.SE.SortedBy L.cmpFr (L.pks l).n (L.pks l).g t)) ∧ ((!L.validOutline (L.Sq.mk l.n fun (i : Nat) ↦ l.g i)) = Bool.false → ((∀ (i : Nat), i < l.n → [Go.SE.SV.int Go.IntKind.i64 (l.g i).x, Go.SE.SV.int Go.IntKind.i64 (l.g i).y] = [Go.SE.SV.int Go.IntKind.i64 (l.g i).x, Go.SE.SV.int Go.IntKind.i64 (l.g i).y]) ∧ (2 : Nat) ≤ l.n ∧ l.n ≤ (1000 : Nat) ∧ ∀ (i : Nat), i <
 l.n → L.bd (l.g i)) ∧ ∀ (t : Nat), True → ((∀ (i : Nat), i < (L.hull (L.Sq.mk l.n fun (i : Nat) ↦ l.g i)).n → [Go.SE.SV.int Go.IntKind.i64 ((L.hull (L.Sq.mk l.n fun (i : Nat) ↦ l.g i)).g i).x, Go.SE.SV.int Go.IntKind.i64 ((L.hull (L.Sq.mk l.n fun (i : Nat) ↦ l.g i)).g i).y] = [Go.SE.SV.int Go.IntKind.i64 ((L.hull (L.Sq.mk l.n fun (i : Nat) ↦ l.g i)).g i).x, Go.SE.SV.int Go.IntKind.i64 ((L.hull
 (L.Sq.mk l.n fun (i : Nat) ↦ l.g i)).g i).y]) ∧ (L.hull (L.Sq.mk l.n fun (i : Nat) ↦ l.g i)).n ≤ (1000 : Nat)) ∧ (((∀ (i : Nat), i < (L.hull (L.Sq.mk l.n fun (i : Nat) ↦ l.g i)).n → [Go.SE.SV.int Go.IntKind.i64 ((L.hull (L.Sq.mk l.n fun (i : Nat) ↦ l.g i)).g i).x, Go.SE.SV.int Go.IntKind.i64 ((L.hull (L.Sq.mk l.n fun (i : Nat) ↦ l.g i)).g i).y] = [Go.SE.SV.int Go.IntKind.i64 ((L.hull (L.Sq.mk l.n
 fun (i : Nat) ↦ l.g i)).g i).x, Go.SE.SV.int Go.IntKind.i64 ((L.hull (L.Sq.mk l.n fun (i : Nat) ↦ l.g i)).g i).y]) ∧ (L.hull (L.Sq.mk l.n fun (i : Nat) ↦ l.g i)).n ≤ (1000 : Nat)) ∧ ∃ (t : Nat), (nat_lit 0 = L.cnt (L.isPk l (L.hull l)) (0 : Nat) ∧ ∀ (i : Nat), i < nat_lit 0 → [] = [Go.SE.SV.int Go.IntKind.i64 (L.pk l (L.hull l) (L.selN (L.isPk l (L.hull l)) (0 : Nat) i)).fr, Go.SE.SV.int
 Go.IntKind.i64 (L.pk l (L.hull l) (L.selN (L.isPk l (L.hull l)) (0 : Nat) i)).to_, Go.SE.SV.int Go.IntKind.i64 (L.pk l (L.hull l) (L.selN (L.isPk l (L.hull l)) (0 : Nat) i)).area]) ∧ (↑l.n : Int) = (↑l.n : Int) ∧ (0 : Nat) ≤ (L.hull l).n) ∧ (∀ (k t_1 : Nat) (vk : Nat → Go.Value), k < (L.hull (L.Sq.mk l.n fun (i : Nat) ↦ l.g i)).n → k ≤ (L.hull l).n → ((0 : Int) ≤ (1 : Int) ∧ (1 : Int) < (↑(3 :
 Nat) : Int)) ∧ ((∀ (i : Nat), i < l.n → [Go.SE.SV.int Go.IntKind.i64 (l.g i).x, Go.SE.SV.int Go.IntKind.i64 (l.g i).y] = [Go.SE.SV.int Go.IntKind.i64 (l.g i).x, Go.SE.SV.int Go.IntKind.i64 (l.g i).y]) ∧ l.n ≤ (1000000 : Nat)) ∧ ((0 : Int) ≤ (2 : Int) ∧ (2 : Int) < (↑(3 : Nat) : Int)) ∧ ((∀ (i : Nat), i < l.n → [Go.SE.SV.int Go.IntKind.i64 (l.g i).x, Go.SE.SV.int Go.IntKind.i64 (l.g i).y] =
 [Go.SE.SV.int Go.IntKind.i64 (l.g i).x, Go.SE.SV.int Go.IntKind.i64 (l.g i).y]) ∧ l.n ≤ (1000000 : Nat)) ∧ Go.SE.InK Go.IntKind.i64 (L.ptIdx (L.Sq.mk l.n fun (i : Nat) ↦ l.g i) ((L.hull (L.Sq.mk l.n fun (i : Nat) ↦ l.g i)).g (Int.toNat (↑k : Int))) + (1 : Int)) ∧ (↑l.n : Int) ≠ (0 : Int) ∧ (Decidable.decide (L.ptIdx (L.Sq.mk l.n fun (i : Nat) ↦ l.g i) ((L.hull (L.Sq.mk l.n fun (i : Nat) ↦ l.g
 i)).g (Int.toNat (Int.tmod ((↑k : Int) + (1 : Int)) (↑(L.hull (L.Sq.mk l.n fun (i : Nat) ↦ l.g i)).n : Int)))) = Int.tmod (L.ptIdx (L.Sq.mk l.n fun (i : Nat) ↦ l.g i) ((L.hull (L.Sq.mk l.n fun (i : Nat) ↦ l.g i)).g (Int.toNat (↑k : Int))) + (1 : Int)) (↑l.n : Int)) = Bool.true → ∃ (t' : Nat), nat_lit 0 = nat_lit 0 ∧ nat_lit 0 = nat_lit 0 ∧ Go.SE.SV.ref [Go.SE.SV.sl (nat_lit 2) l.n fun (i : Nat) ↦
 [Go.SE.SV.int Go.IntKind.i64 (l.g i).x, Go.SE.SV.int Go.IntKind.i64 (l.g i).y]] (nat_lit 0) = Go.SE.SV.ref [Go.SE.SV.sl (nat_lit 2) l.n fun (i : Nat) ↦ [Go.SE.SV.int Go.IntKind.i64 (l.g i).x, Go.SE.SV.int Go.IntKind.i64 (l.g i).y]] (nat_lit 0) ∧ vk (nat_lit 5) = vk (nat_lit 5) ∧ vk (nat_lit 4) = vk (nat_lit 4) ∧ vk (nat_lit 1) = vk (nat_lit 1) ∧ (L.cnt (L.isPk l (L.hull l)) k = L.cnt (L.isPk l
 (L.hull l)) (k + (1 : Nat)) ∧ ∀ (i : Nat), i < L.cnt (L.isPk l (L.hull l)) k → [Go.SE.SV.int Go.IntKind.i64 (L.pk l (L.hull l) (L.selN (L.isPk l (L.hull l)) k i)).fr, Go.SE.SV.int Go.IntKind.i64 (L.pk l (L.hull l) (L.selN (L.isPk l (L.hull l)) k i)).to_, Go.SE.SV.int Go.IntKind.i64 (L.pk l (L.hull l) (L.selN (L.isPk l (L.hull l)) k i)).area] = [Go.SE.SV.int Go.IntKind.i64 (L.pk l (L.hull l)
 (L.selN (L.isPk l (L.hull l)) (k + (1 : Nat)) i)).fr, Go.SE.SV.int Go.IntKind.i64 (L.pk l (L.hull l) (L.selN (L.isPk l (L.hull l)) (k + (1 : Nat)) i)).to_, Go.SE.SV.int Go.IntKind.i64 (L.pk l (L.hull l) (L.selN (L.isPk l (L.hull l)) (k + (1 : Nat)) i)).area]) ∧ (↑l.n : Int) = (↑l.n : Int) ∧ k + (1 : Nat) ≤ (L.hull l).n) ∧ (Decidable.decide (L.ptIdx (L.Sq.mk l.n fun (i : Nat) ↦ l.g i) ((L.hull
 (L.Sq.mk l.n fun (i : Nat) ↦ l.g i)).g (Int.toNat (Int.tmod ((↑k : Int) + (1 : Int)) (↑(L.hull (L.Sq.mk l.n fun (i : Nat) ↦ l.g i)).n : Int)))) = Int.tmod (L.ptIdx (L.Sq.mk l.n fun (i : Nat) ↦ l.g i) ((L.hull (L.Sq.mk l.n fun (i : Nat) ↦ l.g i)).g (Int.toNat (↑k : Int))) + (1 : Int)) (↑l.n : Int)) = Bool.false → ((0 : Int) ≤ L.ptIdx (L.Sq.mk l.n fun (i : Nat) ↦ l.g i) ((L.hull (L.Sq.mk l.n fun (i
 : Nat) ↦ l.g i)).g (Int.toNat (Int.tmod ((↑k : Int) + (1 : Int)) (↑(L.hull (L.Sq.mk l.n fun (i : Nat) ↦ l.g i)).n : Int)))) ∧ L.ptIdx (L.Sq.mk l.n fun (i : Nat) ↦ l.g i) ((L.hull (L.Sq.mk l.n fun (i : Nat) ↦ l.g i)).g (Int.toNat (Int.tmod ((↑k : Int) + (1 : Int)) (↑(L.hull (L.Sq.mk l.n fun (i : Nat) ↦ l.g i)).n : Int)))) < (↑l.n : Int)) ∧ (∃ (g : Nat × Int × Int), L.ptIdx (L.Sq.mk l.n fun (i :
 Nat) ↦ l.g i) ((L.hull (L.Sq.mk l.n fun (i : Nat) ↦ l.g i)).g (Int.toNat (Int.tmod ((↑k : Int) + (1 : Int)) (↑(L.hull (L.Sq.mk l.n fun (i : Nat) ↦ l.g i)).n : Int)))) = L.back l.n g.2.2 g.1 ∧ (nat_lit 1 = g.1 + (1 : Nat) ∧ ∀ (i : Nat), i < nat_lit 1 → Go.SE.rowsOf [Go.SE.SV.int Go.IntKind.i64 (l.g (Int.toNat (L.ptIdx (L.Sq.mk l.n fun (i : Nat) ↦ l.g i) ((L.hull (L.Sq.mk l.n fun (i : Nat) ↦ l.g
 i)).g (Int.toNat (Int.tmod ((↑k : Int) + (1 : Int)) (↑(L.hull (L.Sq.mk l.n fun (i : Nat) ↦ l.g i)).n : Int))))))).x, Go.SE.SV.int Go.IntKind.i64 (l.g (Int.toNat (L.ptIdx (L.Sq.mk l.n fun (i : Nat) ↦ l.g i) ((L.hull (L.Sq.mk l.n fun (i : Nat) ↦ l.g i)).g (Int.toNat (Int.tmod ((↑k : Int) + (1 : Int)) (↑(L.hull (L.Sq.mk l.n fun (i : Nat) ↦ l.g i)).n : Int))))))).y] (nat_lit 2) i = [Go.SE.SV.int
 Go.IntKind.i64 (l.g (Int.toNat (L.back l.n g.2.2 i))).x, Go.SE.SV.int Go.IntKind.i64 (l.g (Int.toNat (L.back l.n g.2.2 i))).y]) ∧ L.ptIdx (L.Sq.mk l.n fun (i : Nat) ↦ l.g i) ((L.hull (L.Sq.mk l.n fun (i : Nat) ↦ l.g i)).g (Int.toNat (↑k : Int))) = g.2.1 ∧ L.ptIdx (L.Sq.mk l.n fun (i : Nat) ↦ l.g i) ((L.hull (L.Sq.mk l.n fun (i : Nat) ↦ l.g i)).g (Int.toNat (Int.tmod ((↑k : Int) + (1 : Int))
 (↑(L.hull (L.Sq.mk l.n fun (i : Nat) ↦ l.g i)).n : Int)))) = g.2.2 ∧ ((0 : Int) ≤ g.2.1 ∧ g.2.1 < (↑l.n : Int)) ∧ ((0 : Int) ≤ g.2.2 ∧ g.2.2 < (↑l.n : Int)) ∧ g.1 ≤ L.pkLen l.n g.2.1 g.2.2) ∧ ∀ (g : Nat × Int × Int), L.ptIdx (L.Sq.mk l.n fun (i : Nat) ↦ l.g i) ((L.hull (L.Sq.mk l.n fun (i : Nat) ↦ l.g i)).g (Int.toNat (↑k : Int))) = g.2.1 ∧ L.ptIdx (L.Sq.mk l.n fun (i : Nat) ↦ l.g i) ((L.hull
 (L.Sq.mk l.n fun (i : Nat) ↦ l.g i)).g (Int.toNat (Int.tmod ((↑k : Int) + (1 : Int)) (↑(L.hull (L.Sq.mk l.n fun (i : Nat) ↦ l.g i)).n : Int)))) = g.2.2 ∧ ((0 : Int) ≤ g.2.1 ∧ g.2.1 < (↑l.n : Int)) ∧ ((0 : Int) ≤ g.2.2 ∧ g.2.2 < (↑l.n : Int)) ∧ g.1 ≤ L.pkLen l.n g.2.1 g.2.2 → ((!Decidable.decide (L.back l.n g.2.2 g.1 = L.ptIdx (L.Sq.mk l.n fun (i : Nat) ↦ l.g i) ((L.hull (L.Sq.mk l.n fun (i : Nat)
 ↦ l.g i)).g (Int.toNat (↑k : Int))))) = Bool.true → Go.SE.InK Go.IntKind.i64 (L.back l.n g.2.2 g.1 + (↑l.n : Int)) ∧ Go.SE.InK Go.IntKind.i64 (L.back l.n g.2.2 g.1 + (↑l.n : Int) - (1 : Int)) ∧ (↑l.n : Int) ≠ (0 : Int) ∧ ((0 : Int) ≤ Int.tmod (L.back l.n g.2.2 g.1 + (↑l.n : Int) - (1 : Int)) (↑l.n : Int) ∧ Int.tmod (L.back l.n g.2.2 g.1 + (↑l.n : Int) - (1 : Int)) (↑l.n : Int) < (↑l.n : Int)) ∧
 (g.1 + (1 : Nat) + nat_lit 1) * nat_lit 16 ≤ (140737488355328 : Nat) ∧ ∃ (g' : Nat × Int × Int), Int.tmod (L.back l.n g.2.2 g.1 + (↑l.n : Int) - (1 : Int)) (↑l.n : Int) = L.back l.n g'.2.2 g'.1 ∧ L.ptIdx (L.Sq.mk l.n fun (i : Nat) ↦ l.g i) ((L.hull (L.Sq.mk l.n fun (i : Nat) ↦ l.g i)).g (Int.toNat (Int.tmod ((↑k : Int) + (1 : Int)) (↑(L.hull (L.Sq.mk l.n fun (i : Nat) ↦ l.g i)).n : Int)))) =
 L.ptIdx (L.Sq.mk l.n fun (i : Nat) ↦ l.g i) ((L.hull (L.Sq.mk l.n fun (i : Nat) ↦ l.g i)).g (Int.toNat (Int.tmod ((↑k : Int) + (1 : Int)) (↑(L.hull (L.Sq.mk l.n fun (i : Nat) ↦ l.g i)).n : Int)))) ∧ L.ptIdx (L.Sq.mk l.n fun (i : Nat) ↦ l.g i) ((L.hull (L.Sq.mk l.n fun (i : Nat) ↦ l.g i)).g (Int.toNat (↑k : Int))) = L.ptIdx (L.Sq.mk l.n fun (i : Nat) ↦ l.g i) ((L.hull (L.Sq.mk l.n fun (i : Nat) ↦
 l.g i)).g (Int.toNat (↑k : Int))) ∧ nat_lit 0 = nat_lit 0 ∧ nat_lit 0 = nat_lit 0 ∧ Go.SE.SV.ref [Go.SE.SV.sl (nat_lit 2) l.n fun (i : Nat) ↦ [Go.SE.SV.int Go.IntKind.i64 (l.g i).x, Go.SE.SV.int Go.IntKind.i64 (l.g i).y]] (nat_lit 0) = Go.SE.SV.ref [Go.SE.SV.sl (nat_lit 2) l.n fun (i : Nat) ↦ [Go.SE.SV.int Go.IntKind.i64 (l.g i).x, Go.SE.SV.int Go.IntKind.i64 (l.g i).y]] (nat_lit 0) ∧ vk (nat_lit
 5) = vk (nat_lit 5) ∧ vk (nat_lit 4) = vk (nat_lit 4) ∧ vk (nat_lit 1) = vk (nat_lit 1) ∧ (g.1 + (1 : Nat) + nat_lit 1 = g'.1 + (1 : Nat) ∧ ∀ (i : Nat), i < g.1 + (1 : Nat) + nat_lit 1 → Go.SE.appGet (g.1 + (1 : Nat)) (fun (j : Nat) ↦ [Go.SE.SV.int Go.IntKind.i64 (l.g (Int.toNat (L.back l.n g.2.2 j))).x, Go.SE.SV.int Go.IntKind.i64 (l.g (Int.toNat (L.back l.n g.2.2 j))).y]) (fun (x : Nat) ↦
 [Go.SE.SV.int Go.IntKind.i64 (l.g (Int.toNat (Int.tmod (L.back l.n g.2.2 g.1 + (↑l.n : Int) - (1 : Int)) (↑l.n : Int)))).x, Go.SE.SV.int Go.IntKind.i64 (l.g (Int.toNat (Int.tmod (L.back l.n g.2.2 g.1 + (↑l.n : Int) - (1 : Int)) (↑l.n : Int)))).y]) i = [Go.SE.SV.int Go.IntKind.i64 (l.g (Int.toNat (L.back l.n g'.2.2 i))).x, Go.SE.SV.int Go.IntKind.i64 (l.g (Int.toNat (L.back l.n g'.2.2 i))).y]) ∧
 (L.cnt (L.isPk l (L.hull l)) k = L.cnt (L.isPk l (L.hull l)) k ∧ ∀ (i : Nat), i < L.cnt (L.isPk l (L.hull l)) k → [Go.SE.SV.int Go.IntKind.i64 (L.pk l (L.hull l) (L.selN (L.isPk l (L.hull l)) k i)).fr, Go.SE.SV.int Go.IntKind.i64 (L.pk l (L.hull l) (L.selN (L.isPk l (L.hull l)) k i)).to_, Go.SE.SV.int Go.IntKind.i64 (L.pk l (L.hull l) (L.selN (L.isPk l (L.hull l)) k i)).area] = [Go.SE.SV.int
 Go.IntKind.i64 (L.pk l (L.hull l) (L.selN (L.isPk l (L.hull l)) k i)).fr, Go.SE.SV.int Go.IntKind.i64 (L.pk l (L.hull l) (L.selN (L.isPk l (L.hull l)) k i)).to_, Go.SE.SV.int Go.IntKind.i64 (L.pk l (L.hull l) (L.selN (L.isPk l (L.hull l)) k i)).area]) ∧ (↑l.n : Int) = (↑l.n : Int) ∧ (L.ptIdx (L.Sq.mk l.n fun (i : Nat) ↦ l.g i) ((L.hull (L.Sq.mk l.n fun (i : Nat) ↦ l.g i)).g (Int.toNat (↑k : Int)))
 = g'.2.1 ∧ L.ptIdx (L.Sq.mk l.n fun (i : Nat) ↦ l.g i) ((L.hull (L.Sq.mk l.n fun (i : Nat) ↦ l.g i)).g (Int.toNat (Int.tmod ((↑k : Int) + (1 : Int)) (↑(L.hull (L.Sq.mk l.n fun (i : Nat) ↦ l.g i)).n : Int)))) = g'.2.2 ∧ ((0 : Int) ≤ g'.2.1 ∧ g'.2.1 < (↑l.n : Int)) ∧ ((0 : Int) ≤ g'.2.2 ∧ g'.2.2 < (↑l.n : Int)) ∧ g'.1 ≤ L.pkLen l.n g'.2.1 g'.2.2) ∧ l.n - g'.1 < l.n - g.1) ∧ ((!Decidable.decide
 (L.back l.n g.2.2 g.1 = L.ptIdx (L.Sq.mk l.n fun (i : Nat) ↦ l.g i) ((L.hull (L.Sq.mk l.n fun (i : Nat) ↦ l.g i)).g (Int.toNat (↑k : Int))))) = Bool.false → ((∀ (i : Nat), i < g.1 + (1 : Nat) → [Go.SE.SV.int Go.IntKind.i64 (l.g (Int.toNat (L.back l.n g.2.2 i))).x, Go.SE.SV.int Go.IntKind.i64 (l.g (Int.toNat (L.back l.n g.2.2 i))).y] = [Go.SE.SV.int Go.IntKind.i64 (l.g (Int.toNat (L.back l.n g.2.2
 i))).x, Go.SE.SV.int Go.IntKind.i64 (l.g (Int.toNat (L.back l.n g.2.2 i))).y]) ∧ L.small (L.Sq.mk (g.1 + (1 : Nat)) fun (i : Nat) ↦ l.g (Int.toNat (L.back l.n g.2.2 i)))) ∧ (L.cnt (L.isPk l (L.hull l)) k + nat_lit 1) * nat_lit 24 ≤ (140737488355328 : Nat) ∧ ∃ (t' : Nat), nat_lit 0 = nat_lit 0 ∧ nat_lit 0 = nat_lit 0 ∧ Go.SE.SV.ref [Go.SE.SV.sl (nat_lit 2) l.n fun (i : Nat) ↦ [Go.SE.SV.int
 Go.IntKind.i64 (l.g i).x, Go.SE.SV.int Go.IntKind.i64 (l.g i).y]] (nat_lit 0) = Go.SE.SV.ref [Go.SE.SV.sl (nat_lit 2) l.n fun (i : Nat) ↦ [Go.SE.SV.int Go.IntKind.i64 (l.g i).x, Go.SE.SV.int Go.IntKind.i64 (l.g i).y]] (nat_lit 0) ∧ vk (nat_lit 5) = vk (nat_lit 5) ∧ vk (nat_lit 4) = vk (nat_lit 4) ∧ vk (nat_lit 1) = vk (nat_lit 1) ∧ (L.cnt (L.isPk l (L.hull l)) k + nat_lit 1 = L.cnt (L.isPk l
 (L.hull l)) (k + (1 : Nat)) ∧ ∀ (i : Nat), i < L.cnt (L.isPk l (L.hull l)) k + nat_lit 1 → Go.SE.appGet (L.cnt (L.isPk l (L.hull l)) k) (fun (i : Nat) ↦ [Go.SE.SV.int Go.IntKind.i64 (L.pk l (L.hull l) (L.selN (L.isPk l (L.hull l)) k i)).fr, Go.SE.SV.int Go.IntKind.i64 (L.pk l (L.hull l) (L.selN (L.isPk l (L.hull l)) k i)).to_, Go.SE.SV.int Go.IntKind.i64 (L.pk l (L.hull l) (L.selN (L.isPk l
 (L.hull l)) k i)).area]) (fun (x : Nat) ↦ [Go.SE.SV.int Go.IntKind.i64 (L.ptIdx (L.Sq.mk l.n fun (i : Nat) ↦ l.g i) ((L.hull (L.Sq.mk l.n fun (i : Nat) ↦ l.g i)).g (Int.toNat (↑k : Int)))), Go.SE.SV.int Go.IntKind.i64 (L.ptIdx (L.Sq.mk l.n fun (i : Nat) ↦ l.g i) ((L.hull (L.Sq.mk l.n fun (i : Nat) ↦ l.g i)).g (Int.toNat (Int.tmod ((↑k : Int) + (1 : Int)) (↑(L.hull (L.Sq.mk l.n fun (i : Nat) ↦ l.g
 i)).n : Int))))), Go.SE.SV.int Go.IntKind.i64 (L.areaTo (L.Sq.mk (g.1 + (1 : Nat)) fun (i : Nat) ↦ l.g (Int.toNat (L.back l.n g.2.2 i))) (g.1 + (1 : Nat)))]) i = [Go.SE.SV.int Go.IntKind.i64 (L.pk l (L.hull l) (L.selN (L.isPk l (L.hull l)) (k + (1 : Nat)) i)).fr, Go.SE.SV.int Go.IntKind.i64 (L.pk l (L.hull l) (L.selN (L.isPk l (L.hull l)) (k + (1 : Nat)) i)).to_, Go.SE.SV.int Go.IntKind.i64 (L.pk
 l (L.hull l) (L.selN (L.isPk l (L.hull l)) (k + (1 : Nat)) i)).area]) ∧ (↑l.n : Int) = (↑l.n : Int) ∧ k + (1 : Nat) ≤ (L.hull l).n))) ∧ ∀ (t : Nat), (L.hull (L.Sq.mk l.n fun (i : Nat) ↦ l.g i)).n ≤ (L.hull l).n → ∃ (t : Nat × (Nat → L.Pocket)), Go.SE.SV.clo (nat_lit 129) [] = Go.SE.SV.clo (129 : Nat) [] ∧ (L.cnt (L.isPk l (L.hull l)) (L.hull (L.Sq.mk l.n fun (i : Nat) ↦ l.g i)).n = t.1 ∧ ∀ (i :
 Nat), i < L.cnt (L.isPk l (L.hull l)) (L.hull (L.Sq.mk l.n fun (i : Nat) ↦ l.g i)).n → [Go.SE.SV.int Go.IntKind.i64 (L.pk l (L.hull l) (L.selN (L.isPk l (L.hull l)) (L.hull (L.Sq.mk l.n fun (i : Nat) ↦ l.g i)).n i)).fr, Go.SE.SV.int Go.IntKind.i64 (L.pk l (L.hull l) (L.selN (L.isPk l (L.hull l)) (L.hull (L.Sq.mk l.n fun (i : Nat) ↦ l.g i)).n i)).to_, Go.SE.SV.int Go.IntKind.i64 (L.pk l (L.hull l)
 (L.selN (L.isPk l (L.hull l)) (L.hull (L.Sq.mk l.n fun (i : Nat) ↦ l.g i)).n i)).area] = [Go.SE.SV.int Go.IntKind.i64 (t.2 i).fr, Go.SE.SV.int Go.IntKind.i64 (t.2 i).to_, Go.SE.SV.int Go.IntKind.i64 (t.2 i).area]) ∧ t.1 ≤ (1000000 : Nat) ∧ ∀ (u : Nat → L.Pocket), Go.SE.SortedBy L.cmpFr t.1 t.2 u → ∃ (t_1 : Nat → L.Pocket), (t.1 = L.pkN l ∧ ∀ (i : Nat), i < t.1 → [Go.SE.SV.int Go.IntKind.i64 (u
 i).fr, Go.SE.SV.int Go.IntKind.i64 (u i).to_, Go.SE.SV.int Go.IntKind.i64 (u i).area] = [Go.SE.SV.int Go.IntKind.i64 (t_1 i).fr, Go.SE.SV.int Go.IntKind.i64 (t_1 i).to_, Go.SE.SV.int Go.IntKind.i64 (t_1 i).area]) ∧ ((0 : Int) = bif L.validOutline l then (0 : Int) else (1 : Int)) ∧ (L.validOutline l = Bool.true → Go.SE.SortedBy L.cmpFr (L.pks l).n (L.pks l).g t_1))) (by kernel_rfl) (by
    have hn : l.n ≤ 1000000 := hp
    refine ⟨⟨fun _ _ => rfl, hn⟩, fun h => ?_, fun h => ?_⟩
    · have hv : L.validOutline l = false := by simpa using (show (!L.validOutline l) = true from h)
      unfold L.pkN
      rw [hv]; exact ⟨fun _ => ⟨0, 0, 0⟩, rfl, rfl, fun h => (by cases h)⟩
    have hv : L.validOutline l = true := by simpa using (show (!L.validOutline l) = false from h)
    obtain ⟨n3, n24, hsm, hbd⟩ := validOutline_of hv
    have hHN : (L.hull l).n ≤ 1000 := by
      have cl : ∀ m : L.Sq L.Pt, (L.chain m).n ≤ m.n := fun m => by
        have := chainTo_len m m.n
        show (L.chainTo m m.n).length - 1 ≤ m.n
        omega
      have c1 : (L.chain (L.sorted l)).n ≤ l.n := cl (L.sorted l)
      have c2 : (L.chain (L.revd (L.sorted l))).n ≤ l.n := cl (L.revd (L.sorted l))
      show 0 + (L.chain (L.sorted l)).n + (L.chain (L.revd (L.sorted l))).n ≤ 1000
      omega
    have hck : ∀ k, L.cnt (L.isPk l (L.hull l)) k ≤ k := fun k => cnt_le
    refine ⟨⟨fun _ _ => rfl, by omega, by omega, hbd.2⟩, fun t _ => ⟨⟨fun _ _ => rfl, hHN⟩, ⟨⟨fun _ _ => rfl, hHN⟩, (0 : Nat), ⟨rfl, fun i hi => absurd hi (Nat.not_lt_zero _)⟩, rfl, Nat.zero_le _⟩, fun k t1 vk hk hk' => ?_, fun t _ => ?_⟩⟩
    · have hk : k < (L.hull l).n := hk
      have e0 : ((k : Int)).toNat = k := by omega
      have e1 : (Int.tmod ((k : Int) + 1) ((L.hull l).n : Int)).toNat = L.next (L.hull l).n k := rfl
      have hf := pk_idx (l := l) hk
      have ht := pk_idx (l := l) (k := L.next (L.hull l).n k) (next_lt (by omega))
      have eF : L.ptIdx l ((L.hull l).g k) = L.pkFrom l (L.hull l) k := rfl
      have eT : L.ptIdx l ((L.hull l).g (L.next (L.hull l).n k)) = L.pkTo l (L.hull l) k := rfl
      rw [eF] at hf
      rw [eT] at ht
      rw [e0, e1, eF, eT]
      have hkk := hck k
      refine ⟨⟨by decide, by decide⟩, ⟨fun _ _ => rfl, hn⟩, ⟨by decide, by decide⟩, ⟨fun _ _ => rfl, hn⟩, InK.of (by omega) (by omega), by omega, fun hc => ?_, fun hc => ?_⟩
      · have hp : L.isPk l (L.hull l) k = false := by unfold L.isPk; rw [hc]; rfl
        refine ⟨(0 : Nat), rfl, rfl, rfl, rfl, rfl, rfl, ⟨(cnt_not hp).symm, fun i hi => ?_⟩, rfl, by omega⟩
        rw [selN_not hp]
      have hp : L.isPk l (L.hull l) k = true := by unfold L.isPk; rw [hc]; rfl
      refine ⟨ht, ⟨(0, L.pkFrom l (L.hull l) k, L.pkTo l (L.hull l) k), (back_0 ht.1 ht.2).symm, ⟨rfl, fun i hi => ?_⟩, rfl, rfl, hf, ht, Nat.zero_le _⟩, fun g hg => ?_⟩
      · have hi : i < 1 := hi
        obtain rfl : i = 0 := by omega
        dsimp only
        rw [back_0 ht.1 ht.2]; rfl
      obtain ⟨j, fr, to_⟩ := g
      dsimp only at hg ⊢
      obtain ⟨e2, e3, _, _, hj⟩ := hg
      rw [← e2, ← e3] at *
      have hlen := back_end hf.1 hf.2 ht.1 ht.2 hj
      have hb := back_bd (n := l.n) (by omega) ht.1 (j := j) (by omega)
      refine ⟨fun hd => ?_, fun hd => ?_⟩
      · have hd : L.back l.n (L.pkTo l (L.hull l) k) j ≠ L.pkFrom l (L.hull l) k := fun e => by
          rw [decide_eq_true e] at hd; cases hd
        have hne : j ≠ L.pkLen l.n (L.pkFrom l (L.hull l) k) (L.pkTo l (L.hull l) k) := fun e => hd (hlen.1.2 e)
        have hs := back_succ (n := l.n) (by omega) ht.1 (j := j) (by omega)
        have hb2 := back_bd (n := l.n) (by omega) ht.1 (j := j + 1) (by omega)
        rw [hs]
        refine ⟨InK.of (by omega) (by omega), InK.of (by omega) (by omega), by omega, hb2, show (j + 1 + 1) * 16 ≤ 140737488355328 by omega, (j + 1, L.pkFrom l (L.hull l) k, L.pkTo l (L.hull l) k), rfl, rfl, rfl, rfl, rfl, rfl, rfl, rfl, rfl, ⟨rfl, fun i hi => ?_⟩, ⟨rfl, fun _ _ => rfl⟩, rfl, ⟨rfl, rfl, hf, ht, by show j + 1 ≤ L.pkLen l.n (L.pkFrom l (L.hull l) k) (L.pkTo l (L.hull l) k); omega⟩, by show l.n - (j + 1) < l.n - j; omega⟩
        have hi : i < j + 1 + 1 := hi
        unfold appGet
        by_cases h' : i < j + 1
        · rw [if_pos h']
        · rw [if_neg h']
          obtain rfl : i = j + 1 := by omega
          rfl
      · have hd : L.back l.n (L.pkTo l (L.hull l) k) j = L.pkFrom l (L.hull l) k := by
          apply Decidable.byContradiction
          intro e
          rw [decide_eq_false e] at hd; cases hd
        have hje := hlen.1.1 hd
        have hrow : (L.Sq.mk (j + 1) fun (i : Nat) => l.g (L.back l.n (L.pkTo l (L.hull l) k) i).toNat) = L.pkRow l (L.pkFrom l (L.hull l) k) (L.pkTo l (L.hull l) k) := by
          rw [hje]; rfl
        have hj1 : j + 1 = (L.pkRow l (L.pkFrom l (L.hull l) k) (L.pkTo l (L.hull l) k)).n := by rw [← hrow]
        rw [hrow, hj1]
        refine ⟨⟨fun _ _ => rfl, pkRow_small hsm (by omega) hf.1 hf.2 ht.1 ht.2⟩, show (L.cnt (L.isPk l (L.hull l)) k + 1) * 24 ≤ 140737488355328 by omega, (0 : Nat), rfl, rfl, rfl, rfl, rfl, rfl, ⟨(cnt_yes hp).symm, fun i hi => ?_⟩, rfl, by omega⟩
        have hi : i < L.cnt (L.isPk l (L.hull l)) k + 1 := hi
        unfold appGet
        by_cases h' : i < L.cnt (L.isPk l (L.hull l)) k
        · rw [if_pos h', selN_old (Nat.ne_of_lt h')]
        · rw [if_neg h']
          obtain rfl : i = L.cnt (L.isPk l (L.hull l)) k := by omega
          rw [selN_new hp]; rfl
    · have hcn := hck (L.hull l).n
      refine ⟨((L.pks l).n, (L.pks l).g), rfl, ⟨rfl, fun _ _ => rfl⟩, show L.cnt (L.isPk l (L.hull l)) (L.hull l).n ≤ 1000000 by omega, fun u hu => ⟨u, ⟨?_, fun _ _ => rfl⟩, ?_, fun _ => hu⟩⟩
      · unfold L.pkN; rw [hv]; rfl
      · rw [hv]; rfl)
theorem p_Pockets_ok : SpecOk Tryz.prog 81 p_Pockets_S := relX Tryz.func81 (c := bodyOf Tryz.f81) (by kernel_rfl) mixed (fun args p q r hs hp => by
  unfold p_Pockets_s at hs
  split at hs
  · cases hs; exact ⟨_, _, p_Pockets_vc _ hp.2, (.p (.sl hp.1) .nil), ⟨show SpecsL Tryz.prog _ from (SpecsL.cons p_ValidOutline_ok p_ValidOutline_en (SpecsL.cons p_hull_ok p_hull_en (SpecsL.cons p_triples_ok p_triples_en (SpecsL.cons s_idxPt_ok s_idxPt_en (SpecsL.cons p_area_ok p_area_en (SpecsL.cons p_pk1_ok p_pk1_en SpecsL.nil)))))), rfl, ⟨show ItersL Tryz.prog _ from (ItersL.cons p_triples1_itok p_triples1_en ItersL.nil), (show TrsL Tryz.prog _ from (TrsL.cons s_sortK_tok s_sortK_en TrsL.nil))⟩⟩⟩
  · cases hs)
theorem p_Pockets_en : Enters Tryz.prog 81 := fun args w => by kernel_rfl
end Go.Proofs.YtkklpamllfkbaaaGreat

namespace Go.Proofs.YtkklpamllfkbaaaGreat
open Go.SE Go.RowKit
set_option maxRecDepth 100000
set_option maxHeartbeats 4000000
set_option linter.unusedVariables false
attribute [local irreducible] Go.SE.vc

def L.gcd (a b : Int) : Int := ((Nat.gcd a.natAbs b.natAbs : Nat) : Int)
def L.ng (x y : Nat) : Nat := Nat.gcd x y
def L.nabs (a : Int) : Nat := a.natAbs
def L.hit (d n : L.Pt) : Bool := decide (0 < d.x * n.x + d.y * n.y)
def L.free (d : L.Pt) (N : L.Sq L.Pt) : Bool := !L.anyB N.n (fun i => L.hit d (N.g i))
def L.isNrm (p : L.Pt) : Bool := !(decide (p.x = 0) && decide (p.y = 0)) && (L.within p.x (-4096) 4096 && L.within p.y (-4096) 4096)
def L.nrms (N : L.Sq L.Pt) : Prop := N.n ≤ 1000000 ∧ ∀ i, i < N.n → L.isNrm (N.g i) = true
def L.dir (p : L.Pt) (s : Nat) : L.Pt := bif decide (s = 0) then ⟨Int.tdiv (0 - p.y) (L.gcd p.x p.y), Int.tdiv p.x (L.gcd p.x p.y)⟩ else ⟨Int.tdiv p.y (L.gcd p.x p.y), Int.tdiv (0 - p.x) (L.gcd p.x p.y)⟩
def L.cand (N : L.Sq L.Pt) (c : Nat) : L.Pt := L.dir (N.g (c / 2)) (c % 2)
def L.wayI (N : L.Sq L.Pt) : Int := L.idx (2 * N.n) (fun c => L.free (L.cand N c) N)
def L.wayOk (N : L.Sq L.Pt) : Bool := decide (N.n = 0) || decide (0 ≤ L.wayI N)
def L.wayD (N : L.Sq L.Pt) : L.Pt := bif decide (N.n = 0) then ⟨1, 0⟩ else bif decide (0 ≤ L.wayI N) then L.cand N (L.wayI N).toNat else ⟨0, 0⟩
theorem isNrm_of {p : L.Pt} (h : L.isNrm p = true) : ((-4096 ≤ p.x ∧ p.x ≤ 4096) ∧ (-4096 ≤ p.y ∧ p.y ≤ 4096)) ∧ 1 ≤ L.gcd p.x p.y ∧ L.bd p := by
  unfold L.isNrm L.within at h
  simp only [Bool.and_eq_true, Bool.not_eq_true', Bool.and_eq_false_iff, decide_eq_true_eq, decide_eq_false_iff_not] at h
  obtain ⟨h1, h2, h3⟩ := h
  have hg : 0 < Nat.gcd p.x.natAbs p.y.natAbs := by
    rcases h1 with h1 | h1
    · exact Nat.gcd_pos_of_pos_left _ (by omega)
    · exact Nat.gcd_pos_of_pos_right _ (by omega)
  refine ⟨⟨h2, h3⟩, ?_, ?_⟩
  · unfold L.gcd; omega
  · unfold L.bd; omega
theorem tdiv_bd {a g : Int} (h0 : -4096 ≤ a) (h1 : a ≤ 4096) (hg : 1 ≤ g) : -4096 ≤ Int.tdiv a g ∧ Int.tdiv a g ≤ 4096 := by
  have h : (Int.tdiv a g).natAbs = a.natAbs / g.natAbs := Int.natAbs_tdiv a g
  have h2 : a.natAbs / g.natAbs ≤ a.natAbs := Nat.div_le_self _ _
  omega
theorem cand_eq (N : L.Sq L.Pt) (g : Nat) {s : Nat} (h : s < 2) : L.cand N (2 * g + s) = L.dir (N.g g) s := by
  unfold L.cand
  rw [show (2 * g + s) / 2 = g by omega, show (2 * g + s) % 2 = s by omega]
theorem way_at {N : L.Sq L.Pt} {c : Nat} (h0 : ∀ j, j < c → L.free (L.cand N j) N = false) (hi : L.free (L.cand N c) N = true) (hc : c < 2 * N.n) : L.wayD N = L.cand N c ∧ L.wayOk N = true := by
  have e : L.wayI N = (c : Int) := idx_at (f := fun c => L.free (L.cand N c) N) h0 hi hc
  have hd : decide (N.n = 0) = false := decide_eq_false (by omega)
  unfold L.wayD L.wayOk
  rw [e, hd, decide_eq_true (show (0 : Int) ≤ (c : Int) by omega)]
  exact ⟨by show L.cand N (c : Int).toNat = _; rw [Int.toNat_natCast], rfl⟩
theorem way_no {N : L.Sq L.Pt} (h1 : 0 < N.n) (h0 : ∀ j, j < 2 * N.n → L.free (L.cand N j) N = false) : L.wayD N = ⟨0, 0⟩ ∧ L.wayOk N = false := by
  have e : L.wayI N = -1 := idx_none (f := fun c => L.free (L.cand N c) N) h0
  have hd : decide (N.n = 0) = false := decide_eq_false (by omega)
  unfold L.wayD L.wayOk
  rw [e, hd]
  exact ⟨rfl, rfl⟩
theorem way_0 {N : L.Sq L.Pt} (h : N.n = 0) : L.wayD N = ⟨1, 0⟩ ∧ L.wayOk N = true := by
  unfold L.wayD L.wayOk
  rw [decide_eq_true h]
  exact ⟨rfl, rfl⟩
theorem dir_bd {p : L.Pt} (h : L.isNrm p = true) (s : Nat) : L.bd (L.dir p s) := by
  obtain ⟨⟨⟨a1, a2⟩, b1, b2⟩, hg, _⟩ := isNrm_of h
  have t1 := tdiv_bd (a := p.x) (g := L.gcd p.x p.y) a1 a2 hg
  have t2 := tdiv_bd (a := p.y) (g := L.gcd p.x p.y) b1 b2 hg
  have t3 := tdiv_bd (a := 0 - p.x) (g := L.gcd p.x p.y) (by omega) (by omega) hg
  have t4 := tdiv_bd (a := 0 - p.y) (g := L.gcd p.x p.y) (by omega) (by omega) hg
  unfold L.dir
  cases decide (s = 0)
  · unfold L.bd; simp only [cond_false]; omega
  · unfold L.bd; simp only [cond_true]; omega
def p_gcd_p (a : Int) (b : Int) : Prop := (-4611686018427387904 ≤ a ∧ a ≤ 4611686018427387904) ∧ -4611686018427387904 ≤ b ∧ b ≤ 4611686018427387904
def p_gcd_r (a : Int) (b : Int) : SV := .int .i64 (L.gcd a b)
def p_gcd_s : List EV → Option (Prop × SV)
  | [.p (.int .i64 a), .p (.int .i64 b)] => some (p_gcd_p a b, p_gcd_r a b)
  | _ => none
abbrev p_gcd_S : SE.Spec := (specO p_gcd_s)
def p_gcd_C : Cfg := { muts := [], frz := lookN [], specs := lookS [], loops := fun _ => none, iters := lookI [], rfs := lookR [], nils := lookM [] }
theorem p_gcd_vc (a : Int) (b : Int) (hp : p_gcd_p a b) : vc Tryz.prog ({ p_gcd_C with loops := lookL [(2, { T := Nat × Nat, keep := [], keepO := [], chg := fun g => [(0, .p (.int .i64 (g.1 : Int))), (1, .p (.int .i64 (g.2 : Int)))], own := fun _ => [], inv := fun g => L.ng g.1 g.2 = L.ng (L.nabs a) (L.nabs b) ∧ g.1 ≤ 4611686018427387904 ∧ g.2 ≤ 4611686018427387904, mu := fun g => g.2 })], rfs := lookR [] }) (bodyOf Tryz.f173) (st0 Tryz.f173 [.p (.int .i64 a), .p (.int .i64 b)]) (retFn Tryz.prog Tryz.f173 (p_gcd_r a b)) :=
  @Eq.mpr _ (Go.SE.InK Go.IntKind.i64 ((0 : Int) - a) ∧ Go.SE.InK Go.IntKind.i64 ((0 : Int) - b) ∧ (∃ (g : Nat × Nat), Max.max a ((0 : Int) - a) = (↑g.1 : Int) ∧ Max.max b ((0 : Int) - b) = (↑g.2 : Int) ∧ L.ng g.1 g.2 = L.ng (L.nabs a) (L.nabs b) ∧ g.1 ≤ (4611686018427387904 : Nat) ∧ g.2 ≤ (4611686018427387904 : Nat)) ∧ ∀ (g : Nat × Nat), L.ng g.1 g.2 = L.ng (L.nabs a) (L.nabs b) ∧ g.1 ≤ (4611686018427387904 :
 Nat) ∧ g.2 ≤ (4611686018427387904 : Nat) → (Decidable.decide ((0 : Int) < (↑g.2 : Int)) = Bool.true → (↑g.2 : Int) ≠ (0 : Int) ∧ ∃ (g' : Nat × Nat), (↑g.2 : Int) = (↑g'.1 : Int) ∧ Int.tmod (↑g.1 : Int) (↑g.2 : Int) = (↑g'.2 : Int) ∧ (L.ng g'.1 g'.2 = L.ng (L.nabs a) (L.nabs b) ∧ g'.1 ≤ (4611686018427387904 : Nat) ∧ g'.2 ≤ (4611686018427387904 : Nat)) ∧ g'.2 < g.2) ∧ (Decidable.decide ((0 : Int) <
 (↑g.2 : Int)) = Bool.false → (↑g.1 : Int) = L.gcd a b)) (by kernel_rfl) (by
    obtain ⟨⟨a1, a2⟩, b1, b2⟩ := hp
    refine ⟨InK.of (by omega) (by omega), InK.of (by omega) (by omega), ⟨(a.natAbs, b.natAbs), by show max a (0 - a) = ((a.natAbs : Nat) : Int); omega, by show max b (0 - b) = ((b.natAbs : Nat) : Int); omega, rfl, by show a.natAbs ≤ 4611686018427387904; omega, by show b.natAbs ≤ 4611686018427387904; omega⟩, ?_⟩
    rintro ⟨x, y⟩ ⟨h1, h2, h3⟩
    have h1 : Nat.gcd x y = Nat.gcd a.natAbs b.natAbs := h1
    have h2 : x ≤ 4611686018427387904 := h2
    have h3 : y ≤ 4611686018427387904 := h3
    refine ⟨fun hd => ?_, fun hd => ?_⟩
    · have hd : (0 : Int) < (y : Int) := of_decide_eq_true hd
      have hm : x % y < y := Nat.mod_lt _ (by omega)
      refine ⟨by show (y : Int) ≠ 0; omega, (y, x % y), rfl, rfl, ⟨?_, h3, by show x % y ≤ 4611686018427387904; omega⟩, hm⟩
      show Nat.gcd y (x % y) = Nat.gcd a.natAbs b.natAbs
      rw [← h1, Nat.gcd_comm y (x % y), ← Nat.gcd_rec y x, Nat.gcd_comm y x]
    · have hd : ¬ (0 : Int) < (y : Int) := of_decide_eq_false hd
      obtain rfl : y = 0 := by omega
      rw [Nat.gcd_zero_right] at h1
      show (x : Int) = L.gcd a b
      unfold L.gcd
      rw [h1])
theorem p_gcd_ok : SpecOk Tryz.prog 173 p_gcd_S := fnX Tryz.func173 (c := bodyOf Tryz.f173) (by kernel_rfl) mixed (fun args p r hs hp => by
  unfold p_gcd_s at hs
  split at hs
  · cases hs; exact ⟨_, _, p_gcd_vc _ _ hp, (.same _ (.same _ .nil)), ⟨show SpecsL Tryz.prog _ from SpecsL.nil, rfl, ⟨show ItersL Tryz.prog _ from ItersL.nil, (TrsOk.none (fun _ => rfl))⟩⟩⟩
  · cases hs)
theorem p_gcd_en : Enters Tryz.prog 173 := fun args w => by kernel_rfl
theorem p_gcd_I : ∀ args p r, p_gcd_s args = some (p, r) → ∃ n, r = .int .i64 n := by
  intro args p r h
  unfold p_gcd_s at h
  split at h
  · cases h; exact ⟨_, rfl⟩
  · cases h
def p_free1_p (n : L.Pt) (d : L.Pt) : Prop := L.bd n ∧ L.bd d
def p_free1_r (n : L.Pt) (d : L.Pt) : SV := .bool (L.hit d n)
def p_free1_s : List EV → Option (Prop × SV)
  | [.p (.agg [.int .i64 n_x, .int .i64 n_y]), .p (.ref [.int .i64 d_x, .int .i64 d_y] 0)] => some (p_free1_p (⟨n_x, n_y⟩ : L.Pt) (⟨d_x, d_y⟩ : L.Pt), p_free1_r (⟨n_x, n_y⟩ : L.Pt) (⟨d_x, d_y⟩ : L.Pt))
  | _ => none
abbrev p_free1_S : SE.Spec := (specO p_free1_s)
def p_free1_C : Cfg := { muts := [], frz := lookN [], specs := lookS [], loops := lookL [], iters := lookI [], rfs := lookR [], nils := lookM [] }
theorem p_free1_vc (n : L.Pt) (d : L.Pt) (hp : p_free1_p n d) : vc Tryz.prog (p_free1_C) (bodyOf Tryz.f195) (st0 Tryz.f195 [.p (.agg [.int .i64 n.x, .int .i64 n.y]), .p (.ref [.int .i64 d.x, .int .i64 d.y] 0)]) (retFn Tryz.prog Tryz.f195 (p_free1_r n d)) :=
  @Eq.mpr _ (Go.SE.InK Go.IntKind.i64 (d.x * n.x) ∧ Go.SE.InK Go.IntKind.i64 (d.y * n.y) ∧ Go.SE.InK Go.IntKind.i64 (d.x * n.x + d.y * n.y) ∧ Decidable.decide ((0 : Int) < d.x * n.x + d.y * n.y) = L.hit d n) (by kernel_rfl) (by
    obtain ⟨h1, h2⟩ := hp
    unfold L.bd at h1 h2
    have m1 := mul_bd (a := d.x) (b := n.x) (m := 4000000) (n := 4000000) (by omega) (by omega) (by omega) (by omega)
    have m2 := mul_bd (a := d.y) (b := n.y) (m := 4000000) (n := 4000000) (by omega) (by omega) (by omega) (by omega)
    exact ⟨InK.of (by omega) (by omega), InK.of (by omega) (by omega), InK.of (by omega) (by omega), rfl⟩)
theorem p_free1_ok : SpecOk Tryz.prog 195 p_free1_S := fnX Tryz.func195 (c := bodyOf Tryz.f195) (by kernel_rfl) mixed (fun args p r hs hp => by
  unfold p_free1_s at hs
  split at hs
  · cases hs; exact ⟨_, _, p_free1_vc _ _ hp, (.same _ (.same _ .nil)), ⟨show SpecsL Tryz.prog _ from SpecsL.nil, rfl, ⟨show ItersL Tryz.prog _ from ItersL.nil, (TrsOk.none (fun _ => rfl))⟩⟩⟩
  · cases hs)
theorem p_free1_en : Enters Tryz.prog 195 := fun args w => by kernel_rfl
theorem p_free1_B : ∀ args p r, p_free1_s args = some (p, r) → ∃ b, r = .bool b := by
  intro args p r h
  unfold p_free1_s at h
  split at h
  · cases h; exact ⟨_, rfl⟩
  · cases h
def p_free_p (d : L.Pt) (l : (L.Sq L.Pt)) : Prop := l.n ≤ 1000000 ∧ L.bd d ∧ ∀ i, i < l.n → L.bd (l.g i)
def p_free_r (d : L.Pt) (l : (L.Sq L.Pt)) : SV := .bool (L.free d l)
def p_free_s : List EV → Option (Prop × SV)
  | [.p (.agg [.int .i64 d_x, .int .i64 d_y]), .p (.sl 2 l_n l_g)] => some ((∀ i, i < l_n → l_g i = [.int .i64 ((ofPt (l_g i)).x), .int .i64 ((ofPt (l_g i)).y)]) ∧ p_free_p (⟨d_x, d_y⟩ : L.Pt) (⟨l_n, fun i => ofPt (l_g i)⟩ : (L.Sq L.Pt)), p_free_r (⟨d_x, d_y⟩ : L.Pt) (⟨l_n, fun i => ofPt (l_g i)⟩ : (L.Sq L.Pt)))
  | _ => none
abbrev p_free_S : SE.Spec := (specO p_free_s)
def p_free_C : Cfg := { muts := [], frz := lookN [], specs := lookS [(132, s_conFP_S), (195, p_free1_S)], loops := lookL [], iters := lookI [], rfs := lookR [], nils := lookM [] }
theorem p_free_vc (d : L.Pt) (l : (L.Sq L.Pt)) (hp : p_free_p d l) : vc Tryz.prog (p_free_C) (bodyOf Tryz.f174) (st0 Tryz.f174 [.p (.agg [.int .i64 d.x, .int .i64 d.y]), .p (.sl 2 l.n (fun i => [.int .i64 ((l.g i).x), .int .i64 ((l.g i).y)]))]) (retFn Tryz.prog Tryz.f174 (p_free_r d l)) :=
  @Eq.mpr _ (((∀ (i : Nat), i < l.n → [Go.SE.SV.int Go.IntKind.i64 (l.g i).x, Go.SE.SV.int Go.IntKind.i64 (l.g i).y] = [Go.SE.SV.int Go.IntKind.i64 (l.g i).x, Go.SE.SV.int Go.IntKind.i64 (l.g i).y]) ∧ Go.SE.isB (Go.SE.FSpec.mk (fun («as» : List Go.SE.SV) ↦ Go.SE.preO p_free1_s (List.map Go.SE.EV.p «as» ++ List.map Go.SE.EV.p [Go.SE.SV.ref [Go.SE.SV.int Go.IntKind.i64 d.x, Go.SE.SV.int Go.IntKind.i64 d.y]
 (nat_lit 0)])) fun («as» : List Go.SE.SV) ↦ Go.SE.resO p_free1_s (List.map Go.SE.EV.p «as» ++ List.map Go.SE.EV.p [Go.SE.SV.ref [Go.SE.SV.int Go.IntKind.i64 d.x, Go.SE.SV.int Go.IntKind.i64 d.y] (nat_lit 0)])) ∧ l.n ≤ (1000000 : Nat) ∧ ∀ (i : Nat), i < l.n → L.bd (l.g i) ∧ L.bd d) ∧ (!L.anyB l.n fun (i : Nat) ↦ L.fbl (Go.SE.FSpec.mk (fun («as» : List Go.SE.SV) ↦ Go.SE.preO p_free1_s (List.map
 Go.SE.EV.p «as» ++ List.map Go.SE.EV.p [Go.SE.SV.ref [Go.SE.SV.int Go.IntKind.i64 d.x, Go.SE.SV.int Go.IntKind.i64 d.y] (nat_lit 0)])) fun («as» : List Go.SE.SV) ↦ Go.SE.resO p_free1_s (List.map Go.SE.EV.p «as» ++ List.map Go.SE.EV.p [Go.SE.SV.ref [Go.SE.SV.int Go.IntKind.i64 d.x, Go.SE.SV.int Go.IntKind.i64 d.y] (nat_lit 0)])) [Go.SE.SV.agg [Go.SE.SV.int Go.IntKind.i64 (l.g i).x, Go.SE.SV.int
 Go.IntKind.i64 (l.g i).y]]) = L.free d l) (by kernel_rfl) (by
    obtain ⟨h1, h2, h3⟩ := hp
    exact ⟨⟨fun _ _ => rfl, isB_of p_free1_B _, h1, fun i hi => ⟨h3 i hi, h2⟩⟩, rfl⟩)
theorem p_free_ok : SpecOk Tryz.prog 174 p_free_S := fnX Tryz.func174 (c := bodyOf Tryz.f174) (by kernel_rfl) mixed (fun args p r hs hp => by
  unfold p_free_s at hs
  split at hs
  · cases hs; exact ⟨_, _, p_free_vc _ _ hp.2, (.same _ (.p (.sl hp.1) .nil)), ⟨show SpecsL Tryz.prog _ from (SpecsL.cons s_conFP_ok s_conFP_en (SpecsL.cons p_free1_ok p_free1_en SpecsL.nil)), rfl, ⟨show ItersL Tryz.prog _ from ItersL.nil, (TrsOk.none (fun _ => rfl))⟩⟩⟩
  · cases hs)
theorem p_free_en : Enters Tryz.prog 174 := fun args w => by kernel_rfl
theorem p_free_B : ∀ args p r, p_free_s args = some (p, r) → ∃ b, r = .bool b := by
  intro args p r h
  unfold p_free_s at h
  split at h
  · cases h; exact ⟨_, rfl⟩
  · cases h
def p_way_p (l : (L.Sq L.Pt)) : Prop := L.nrms l
def p_way_r (l : (L.Sq L.Pt)) : SV := .tup [.agg [.int .i64 (L.wayD l).x, .int .i64 (L.wayD l).y], .bool (L.wayOk l)]
def p_way_s : List EV → Option (Prop × SV)
  | [.p (.sl 2 l_n l_g)] => some ((∀ i, i < l_n → l_g i = [.int .i64 ((ofPt (l_g i)).x), .int .i64 ((ofPt (l_g i)).y)]) ∧ p_way_p (⟨l_n, fun i => ofPt (l_g i)⟩ : (L.Sq L.Pt)), p_way_r (⟨l_n, fun i => ofPt (l_g i)⟩ : (L.Sq L.Pt)))
  | _ => none
abbrev p_way_S : SE.Spec := (specO p_way_s)
def p_way_C : Cfg := { muts := [2, 5, 8], frz := lookN [], specs := lookS [(173, p_gcd_S), (174, p_free_S)], loops := fun _ => none, iters := lookI [], rfs := lookR [], nils := lookM [] }
theorem p_way_vc (l : (L.Sq L.Pt)) (hp : p_way_p l) : vc Tryz.prog ({ p_way_C with loops := lookL [(4, { T := Nat, keep := [0, 2, 13, 14], keepO := [2], chg := fun i => [(15, .p (.int .i64 (i : Int)))], own := fun _ => [], inv := fun i => i ≤ l.n ∧ ∀ c, c < 2 * i → L.free (L.cand l c) l = false, mu := fun i => l.n - i }), (8, { T := Nat × Nat, keep := [0, 2, 5, 13, 14, 15, 45], keepO := [2, 5], tie := fun g => [(15, .int .i64 (g.1 : Int))], chg := fun g => [(46, .p (.int .i64 (g.2 : Int))), (44, .p (.sl 2 2 (fun s => [.int .i64 ((L.dir (l.g g.1) s).x), .int .i64 ((L.dir (l.g g.1) s).y)])))], own := fun _ => [], inv := fun g => g.1 < l.n ∧ g.2 ≤ 2 ∧ ∀ c, c < 2 * g.1 + g.2 → L.free (L.cand l c) l = false, mu := fun g => 2 - g.2 })], rfs := lookR [] }) (bodyOf Tryz.f133) (st0 Tryz.f133 [.p (.sl 2 l.n (fun i => [.int .i64 ((l.g i).x), .int .i64 ((l.g i).y)]))]) (retFn Tryz.prog Tryz.f133 (p_way_r l)) :=
  @Eq.mpr _ ((Decidable.decide ((↑l.n : Int) = (0 : Int)) = Bool.true → Go.SE.SV.agg [Go.SE.SV.int Go.IntKind.i64 (1 : Int), Go.SE.SV.int Go.IntKind.i64 (0 : Int)] = Go.SE.SV.agg [Go.SE.SV.int Go.IntKind.i64 (L.wayD l).x, Go.SE.SV.int Go.IntKind.i64 (L.wayD l).y] ∧ Bool.true = L.wayOk l) ∧ (Decidable.decide ((↑l.n : Int) = (0 : Int)) = Bool.false → (∃ (g : Nat), (0 : Int) = (↑g : Int) ∧ g ≤ l.n ∧ ∀ (c : Nat),
 c < (2 : Nat) * g → L.free (L.cand l c) l = Bool.false) ∧ ∀ (g : Nat), (g ≤ l.n ∧ ∀ (c : Nat), c < (2 : Nat) * g → L.free (L.cand l c) l = Bool.false) → (Decidable.decide ((↑g : Int) < (↑l.n : Int)) = Bool.true → ((0 : Int) ≤ (↑g : Int) ∧ (↑g : Int) < (↑l.n : Int)) ∧ (((-4611686018427387904 : Int) ≤ (l.g (Int.toNat (↑g : Int))).x ∧ (l.g (Int.toNat (↑g : Int))).x ≤ (4611686018427387904 : Int)) ∧
 (-4611686018427387904 : Int) ≤ (l.g (Int.toNat (↑g : Int))).y ∧ (l.g (Int.toNat (↑g : Int))).y ≤ (4611686018427387904 : Int)) ∧ Go.SE.InK Go.IntKind.i64 ((0 : Int) - (l.g (Int.toNat (↑g : Int))).y) ∧ L.gcd (l.g (Int.toNat (↑g : Int))).x (l.g (Int.toNat (↑g : Int))).y ≠ (0 : Int) ∧ Go.SE.InK Go.IntKind.i64 (Int.tdiv ((0 : Int) - (l.g (Int.toNat (↑g : Int))).y) (L.gcd (l.g (Int.toNat (↑g : Int))).x
 (l.g (Int.toNat (↑g : Int))).y)) ∧ L.gcd (l.g (Int.toNat (↑g : Int))).x (l.g (Int.toNat (↑g : Int))).y ≠ (0 : Int) ∧ Go.SE.InK Go.IntKind.i64 (Int.tdiv (l.g (Int.toNat (↑g : Int))).x (L.gcd (l.g (Int.toNat (↑g : Int))).x (l.g (Int.toNat (↑g : Int))).y)) ∧ L.gcd (l.g (Int.toNat (↑g : Int))).x (l.g (Int.toNat (↑g : Int))).y ≠ (0 : Int) ∧ Go.SE.InK Go.IntKind.i64 (Int.tdiv (l.g (Int.toNat (↑g :
 Int))).y (L.gcd (l.g (Int.toNat (↑g : Int))).x (l.g (Int.toNat (↑g : Int))).y)) ∧ Go.SE.InK Go.IntKind.i64 ((0 : Int) - (l.g (Int.toNat (↑g : Int))).x) ∧ L.gcd (l.g (Int.toNat (↑g : Int))).x (l.g (Int.toNat (↑g : Int))).y ≠ (0 : Int) ∧ Go.SE.InK Go.IntKind.i64 (Int.tdiv ((0 : Int) - (l.g (Int.toNat (↑g : Int))).x) (L.gcd (l.g (Int.toNat (↑g : Int))).x (l.g (Int.toNat (↑g : Int))).y)) ∧ (∃ (g_1 :
 Nat × Nat), (0 : Int) = (↑g_1.2 : Int) ∧ (nat_lit 2 = (2 : Nat) ∧ ∀ (i : Nat), i < nat_lit 2 → Go.SE.rowsOf [Go.SE.SV.int Go.IntKind.i64 (Int.tdiv ((0 : Int) - (l.g (Int.toNat (↑g : Int))).y) (L.gcd (l.g (Int.toNat (↑g : Int))).x (l.g (Int.toNat (↑g : Int))).y)), Go.SE.SV.int Go.IntKind.i64 (Int.tdiv (l.g (Int.toNat (↑g : Int))).x (L.gcd (l.g (Int.toNat (↑g : Int))).x (l.g (Int.toNat (↑g :
 Int))).y)), Go.SE.SV.int Go.IntKind.i64 (Int.tdiv (l.g (Int.toNat (↑g : Int))).y (L.gcd (l.g (Int.toNat (↑g : Int))).x (l.g (Int.toNat (↑g : Int))).y)), Go.SE.SV.int Go.IntKind.i64 (Int.tdiv ((0 : Int) - (l.g (Int.toNat (↑g : Int))).x) (L.gcd (l.g (Int.toNat (↑g : Int))).x (l.g (Int.toNat (↑g : Int))).y))] (nat_lit 2) i = [Go.SE.SV.int Go.IntKind.i64 (L.dir (l.g g_1.1) i).x, Go.SE.SV.int
 Go.IntKind.i64 (L.dir (l.g g_1.1) i).y]) ∧ (↑g : Int) = (↑g_1.1 : Int) ∧ g_1.1 < l.n ∧ g_1.2 ≤ (2 : Nat) ∧ ∀ (c : Nat), c < (2 : Nat) * g_1.1 + g_1.2 → L.free (L.cand l c) l = Bool.false) ∧ ∀ (g_1 : Nat × Nat), ((↑g : Int) = (↑g_1.1 : Int) ∧ g_1.1 < l.n ∧ g_1.2 ≤ (2 : Nat) ∧ ∀ (c : Nat), c < (2 : Nat) * g_1.1 + g_1.2 → L.free (L.cand l c) l = Bool.false) → (Decidable.decide ((↑g_1.2 : Int) < (↑(2
 : Nat) : Int)) = Bool.true → ((0 : Int) ≤ (↑g_1.2 : Int) ∧ (↑g_1.2 : Int) < (↑(nat_lit 2) : Int)) ∧ ((∀ (i : Nat), i < l.n → [Go.SE.SV.int Go.IntKind.i64 (l.g i).x, Go.SE.SV.int Go.IntKind.i64 (l.g i).y] = [Go.SE.SV.int Go.IntKind.i64 (l.g i).x, Go.SE.SV.int Go.IntKind.i64 (l.g i).y]) ∧ l.n ≤ (1000000 : Nat) ∧ L.bd (L.dir (l.g g_1.1) (Int.toNat (↑g_1.2 : Int))) ∧ ∀ (i : Nat), i < l.n → L.bd (l.g
 i)) ∧ (L.free (L.dir (l.g g_1.1) (Int.toNat (↑g_1.2 : Int))) (L.Sq.mk l.n fun (i : Nat) ↦ l.g i) = Bool.true → Go.SE.SV.agg [Go.SE.SV.int Go.IntKind.i64 (L.dir (l.g g_1.1) (Int.toNat (↑g_1.2 : Int))).x, Go.SE.SV.int Go.IntKind.i64 (L.dir (l.g g_1.1) (Int.toNat (↑g_1.2 : Int))).y] = Go.SE.SV.agg [Go.SE.SV.int Go.IntKind.i64 (L.wayD l).x, Go.SE.SV.int Go.IntKind.i64 (L.wayD l).y] ∧ Bool.true =
 L.wayOk l) ∧ (L.free (L.dir (l.g g_1.1) (Int.toNat (↑g_1.2 : Int))) (L.Sq.mk l.n fun (i : Nat) ↦ l.g i) = Bool.false → Go.SE.InK Go.IntKind.i64 ((↑g_1.2 : Int) + (1 : Int)) ∧ ∃ (g' : Nat × Nat), (↑g_1.2 : Int) + (1 : Int) = (↑g'.2 : Int) ∧ (nat_lit 2 = (2 : Nat) ∧ ∀ (i : Nat), i < nat_lit 2 → [Go.SE.SV.int Go.IntKind.i64 (L.dir (l.g g_1.1) i).x, Go.SE.SV.int Go.IntKind.i64 (L.dir (l.g g_1.1) i).y]
 = [Go.SE.SV.int Go.IntKind.i64 (L.dir (l.g g'.1) i).x, Go.SE.SV.int Go.IntKind.i64 (L.dir (l.g g'.1) i).y]) ∧ (↑(2 : Nat) : Int) = (↑(2 : Nat) : Int) ∧ nat_lit 0 = nat_lit 0 ∧ (↑g : Int) = (↑g : Int) ∧ (↑l.n : Int) = (↑l.n : Int) ∧ (l.n = l.n ∧ ∀ (i : Nat), i < l.n → [Go.SE.SV.int Go.IntKind.i64 (l.g i).x, Go.SE.SV.int Go.IntKind.i64 (l.g i).y] = [Go.SE.SV.int Go.IntKind.i64 (l.g i).x,
 Go.SE.SV.int Go.IntKind.i64 (l.g i).y]) ∧ nat_lit 0 = nat_lit 0 ∧ (l.n = l.n ∧ ∀ (i : Nat), i < l.n → [Go.SE.SV.int Go.IntKind.i64 (l.g i).x, Go.SE.SV.int Go.IntKind.i64 (l.g i).y] = [Go.SE.SV.int Go.IntKind.i64 (l.g i).x, Go.SE.SV.int Go.IntKind.i64 (l.g i).y]) ∧ (l.g (Int.toNat (↑g : Int))).x = (l.g (Int.toNat (↑g : Int))).x ∧ (l.g (Int.toNat (↑g : Int))).y = (l.g (Int.toNat (↑g : Int))).y ∧ (0
 : Int) = (0 : Int) ∧ (0 : Int) = (0 : Int) ∧ ((↑g : Int) = (↑g'.1 : Int) ∧ g'.1 < l.n ∧ g'.2 ≤ (2 : Nat) ∧ ∀ (c : Nat), c < (2 : Nat) * g'.1 + g'.2 → L.free (L.cand l c) l = Bool.false) ∧ (2 : Nat) - g'.2 < (2 : Nat) - g_1.2)) ∧ (Decidable.decide ((↑g_1.2 : Int) < (↑(2 : Nat) : Int)) = Bool.false → Go.SE.InK Go.IntKind.i64 ((↑g : Int) + (1 : Int)) ∧ ∃ (g' : Nat), (↑g : Int) + (1 : Int) = (↑g' :
 Int) ∧ (↑l.n : Int) = (↑l.n : Int) ∧ (l.n = l.n ∧ ∀ (i : Nat), i < l.n → [Go.SE.SV.int Go.IntKind.i64 (l.g i).x, Go.SE.SV.int Go.IntKind.i64 (l.g i).y] = [Go.SE.SV.int Go.IntKind.i64 (l.g i).x, Go.SE.SV.int Go.IntKind.i64 (l.g i).y]) ∧ nat_lit 0 = nat_lit 0 ∧ (l.n = l.n ∧ ∀ (i : Nat), i < l.n → [Go.SE.SV.int Go.IntKind.i64 (l.g i).x, Go.SE.SV.int Go.IntKind.i64 (l.g i).y] = [Go.SE.SV.int
 Go.IntKind.i64 (l.g i).x, Go.SE.SV.int Go.IntKind.i64 (l.g i).y]) ∧ (0 : Int) = (0 : Int) ∧ (0 : Int) = (0 : Int) ∧ (g' ≤ l.n ∧ ∀ (c : Nat), c < (2 : Nat) * g' → L.free (L.cand l c) l = Bool.false) ∧ l.n - g' < l.n - g)) ∧ (Decidable.decide ((↑g : Int) < (↑l.n : Int)) = Bool.false → Go.SE.SV.agg [Go.SE.SV.int Go.IntKind.i64 (0 : Int), Go.SE.SV.int Go.IntKind.i64 (0 : Int)] = Go.SE.SV.agg
 [Go.SE.SV.int Go.IntKind.i64 (L.wayD l).x, Go.SE.SV.int Go.IntKind.i64 (L.wayD l).y] ∧ Bool.false = L.wayOk l))) (by kernel_rfl) (by
    obtain ⟨hn, hN⟩ := hp
    refine ⟨fun h0 => ?_, fun h0 => ?_⟩
    · have h0 : ((l.n : Nat) : Int) = 0 := of_decide_eq_true h0
      obtain ⟨e1, e2⟩ := way_0 (N := l) (by omega)
      rw [e1, e2]; exact ⟨rfl, rfl⟩
    have h0 : ¬ ((l.n : Nat) : Int) = 0 := of_decide_eq_false h0
    refine ⟨⟨(0 : Nat), rfl, Nat.zero_le _, fun c hc => absurd hc (Nat.not_lt_zero _)⟩, fun g hg => ⟨fun hlt => ?_, fun hge => ?_⟩⟩
    · obtain ⟨hg1, hg2⟩ := hg
      have hb : (g : Int) < (l.n : Int) := of_decide_eq_true hlt
      have e0 : ((g : Int)).toNat = g := by omega
      have hgl : g < l.n := by omega
      obtain ⟨⟨⟨a1, a2⟩, b1, b2⟩, hgc, _⟩ := isNrm_of (hN g hgl)
      have t1 := tdiv_bd (a := (l.g g).x) (g := L.gcd (l.g g).x (l.g g).y) a1 a2 hgc
      have t2 := tdiv_bd (a := (l.g g).y) (g := L.gcd (l.g g).x (l.g g).y) b1 b2 hgc
      have t3 := tdiv_bd (a := 0 - (l.g g).x) (g := L.gcd (l.g g).x (l.g g).y) (by omega) (by omega) hgc
      have t4 := tdiv_bd (a := 0 - (l.g g).y) (g := L.gcd (l.g g).x (l.g g).y) (by omega) (by omega) hgc
      rw [e0]
      refine ⟨⟨by omega, hb⟩, ⟨⟨by omega, by omega⟩, by omega, by omega⟩, InK.of (by omega) (by omega), by omega, InK.of (by omega) (by omega), by omega, InK.of (by omega) (by omega), by omega, InK.of (by omega) (by omega), InK.of (by omega) (by omega), by omega, InK.of (by omega) (by omega), ⟨(g, 0), rfl, ⟨rfl, fun i hi => ?_⟩, rfl, hgl, Nat.zero_le _, hg2⟩, fun h hh => ?_⟩
      · match i, hi with
        | 0, _ => rfl
        | 1, _ => rfl
      obtain ⟨g0, s⟩ := h
      obtain ⟨e1, q1, q2, q3⟩ := hh
      have e1 : (g : Int) = (g0 : Int) := e1
      obtain rfl : g = g0 := by omega
      have q2 : s ≤ 2 := q2
      have q3 : ∀ c, c < 2 * g + s → L.free (L.cand l c) l = false := q3
      have es : ((s : Int)).toNat = s := by omega
      dsimp only
      rw [es]
      refine ⟨fun hs => ?_, fun hs => ?_⟩
      · have hs : (s : Int) < (2 : Int) := of_decide_eq_true hs
        have hs2 : s < 2 := by omega
        have hc := cand_eq l g hs2
        refine ⟨⟨by omega, hs⟩, ⟨fun _ _ => rfl, hn, dir_bd (hN g hgl) s, fun i hi => (isNrm_of (hN i hi)).2.2⟩, fun hf => ?_, fun hf => ?_⟩
        · rw [← hc] at hf
          obtain ⟨w1, w2⟩ := way_at q3 hf (by omega)
          rw [w1, w2, hc]; exact ⟨rfl, rfl⟩
        · rw [← hc] at hf
          refine ⟨InK.of (by omega) (by omega), (g, s + 1), by show (s : Int) + 1 = ((s + 1 : Nat) : Int); omega, ⟨rfl, fun _ _ => rfl⟩, rfl, rfl, rfl, rfl, ⟨rfl, fun _ _ => rfl⟩, rfl, ⟨rfl, fun _ _ => rfl⟩, rfl, rfl, rfl, rfl, ⟨rfl, q1, by show s + 1 ≤ 2; omega, fun c hc' => ?_⟩, by show 2 - (s + 1) < 2 - s; omega⟩
          have hc' : c < 2 * g + s + 1 := hc'
          rcases Nat.lt_succ_iff_lt_or_eq.1 hc' with h | rfl
          · exact q3 c h
          · exact hf
      · have hs : ¬ (s : Int) < (2 : Int) := of_decide_eq_false hs
        obtain rfl : s = 2 := by omega
        exact ⟨InK.of (by omega) (by omega), g + 1, by omega, rfl, ⟨rfl, fun _ _ => rfl⟩, rfl, ⟨rfl, fun _ _ => rfl⟩, rfl, rfl, ⟨by omega, fun c hc => q3 c (by omega)⟩, by omega⟩
    · obtain ⟨hg1, hg2⟩ := hg
      have hb : ¬ (g : Int) < (l.n : Int) := of_decide_eq_false hge
      obtain rfl : g = l.n := by omega
      obtain ⟨w1, w2⟩ := way_no (N := l) (by omega) hg2
      rw [w1, w2]; exact ⟨rfl, rfl⟩)
theorem p_way_ok : SpecOk Tryz.prog 133 p_way_S := fnX Tryz.func133 (c := bodyOf Tryz.f133) (by kernel_rfl) mixed (fun args p r hs hp => by
  unfold p_way_s at hs
  split at hs
  · cases hs; exact ⟨_, _, p_way_vc _ hp.2, (.p (.sl hp.1) .nil), ⟨show SpecsL Tryz.prog _ from (SpecsL.cons p_gcd_ok p_gcd_en (SpecsL.cons p_free_ok p_free_en SpecsL.nil)), rfl, ⟨show ItersL Tryz.prog _ from ItersL.nil, (TrsOk.none (fun _ => rfl))⟩⟩⟩
  · cases hs)
theorem p_way_en : Enters Tryz.prog 133 := fun args w => by kernel_rfl
def p_bad_p (n : L.Pt) : Prop := True
def p_bad_r (n : L.Pt) : SV := .bool (!L.isNrm n)
def p_bad_s : List EV → Option (Prop × SV)
  | [.p (.agg [.int .i64 n_x, .int .i64 n_y])] => some (p_bad_p (⟨n_x, n_y⟩ : L.Pt), p_bad_r (⟨n_x, n_y⟩ : L.Pt))
  | _ => none
abbrev p_bad_S : SE.Spec := (specO p_bad_s)
def p_bad_C : Cfg := { muts := [], frz := lookN [], specs := lookS [(86, p_within_S)], loops := lookL [], iters := lookI [], rfs := lookR [], nils := lookM [] }
theorem p_bad_vc (n : L.Pt) (hp : p_bad_p n) : vc Tryz.prog (p_bad_C) (bodyOf Tryz.f131) (st0 Tryz.f131 [.p (.agg [.int .i64 n.x, .int .i64 n.y])]) (retFn Tryz.prog Tryz.f131 (p_bad_r n)) :=
  @Eq.mpr _ (((!(Decidable.decide (n.x = (0 : Int)) && Decidable.decide (n.y = (0 : Int)))) = Bool.true → True) ∧ ((!bif Decidable.decide (n.x = (0 : Int)) && Decidable.decide (n.y = (0 : Int)) then Bool.true else !L.within n.x (-4096 : Int) (4096 : Int)) = Bool.true → True) ∧ (bif bif Decidable.decide (n.x = (0 : Int)) && Decidable.decide (n.y = (0 : Int)) then Bool.true else !L.within n.x (-4096 : Int) (4096
 : Int) then Bool.true else !L.within n.y (-4096 : Int) (4096 : Int)) = !L.isNrm n) (by kernel_rfl) (by
    refine ⟨fun _ => trivial, fun _ => trivial, ?_⟩
    unfold L.isNrm
    cases (decide (n.x = 0) && decide (n.y = 0)) <;> cases L.within n.x (-4096) 4096 <;> cases L.within n.y (-4096) 4096 <;> rfl)
theorem p_bad_ok : SpecOk Tryz.prog 131 p_bad_S := fnX Tryz.func131 (c := bodyOf Tryz.f131) (by kernel_rfl) mixed (fun args p r hs hp => by
  unfold p_bad_s at hs
  split at hs
  · cases hs; exact ⟨_, _, p_bad_vc _ hp, (.same _ .nil), ⟨show SpecsL Tryz.prog _ from (SpecsL.cons p_within_ok p_within_en SpecsL.nil), rfl, ⟨show ItersL Tryz.prog _ from ItersL.nil, (TrsOk.none (fun _ => rfl))⟩⟩⟩
  · cases hs)
theorem p_bad_en : Enters Tryz.prog 131 := fun args w => by kernel_rfl
theorem p_bad_B : ∀ args p r, p_bad_s args = some (p, r) → ∃ b, r = .bool b := by
  intro args p r h
  unfold p_bad_s at h
  split at h
  · cases h; exact ⟨_, rfl⟩
  · cases h
end Go.Proofs.YtkklpamllfkbaaaGreat
