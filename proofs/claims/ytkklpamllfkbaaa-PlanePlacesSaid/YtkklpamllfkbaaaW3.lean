/- A symbolic walk over the model, and what it shows of functions of the program: parts of the proof that the text of the row joins. -/
import Derived.Test.YtkklpamllfkbaaaW2
import Derived.Test.YtkklpamllfkbaaaE3
import Derived.KernelRfl

namespace Go.Proofs.Ytkklpamllfkbaaa
open Go.SE Go.RowKit
set_option maxRecDepth 100000
set_option maxHeartbeats 4000000
set_option linter.unusedVariables false
attribute [local irreducible] Go.SE.vc

def L.dbl (p : L.Pt) : L.Pt := ⟨2 * p.x, 2 * p.y⟩
def L.onE (l : L.Sq L.Pt) (p : L.Pt) (k : Nat) : Bool := L.on (l.g k) (l.g (L.next l.n k)) p
def L.upE (a b p : L.Pt) : Bool := bif (bif decide (a.y ≤ p.y) then decide (p.y < b.y) else false) then decide (0 < L.cross a b p) else false
def L.crE (a b p : L.Pt) : Bool := bif L.upE a b p then true else bif (bif decide (b.y ≤ p.y) then decide (p.y < a.y) else false) then decide (L.cross a b p < 0) else false
def L.par (l : L.Sq L.Pt) (p : L.Pt) : Nat → Bool
  | 0 => false
  | k + 1 => bif L.crE (l.g k) (l.g (L.next l.n k)) p then !L.par l p k else L.par l p k
def L.sgn (b : Bool) : Int := bif b then 1 else -1
def L.wher (l : L.Sq L.Pt) (p : L.Pt) : Int := bif L.anyB l.n (L.onE l p) then 0 else L.sgn (L.par l p l.n)
def L.plE (l : L.Sq L.Pt) (p : L.Pt) : Int := bif (bif !L.validOutline l then true else !L.validPt p) then 1 else 0
def L.plV (l : L.Sq L.Pt) (p : L.Pt) : Int := bif decide (L.plE l p = 0) then L.wher l p else 0
theorem cross_dbl (a b c : L.Pt) : L.cross (L.dbl a) (L.dbl b) (L.dbl c) = 4 * L.cross a b c := by
  unfold L.cross L.dbl
  simp only [Int.sub_mul, Int.mul_sub]
  have h : ∀ x y : Int, 2 * x * (2 * y) = 4 * (x * y) := fun x y => by rw [Int.mul_assoc, Int.mul_left_comm x 2 y, ← Int.mul_assoc]; rfl
  simp only [h]
theorem on_dbl (a b p : L.Pt) : L.on (L.dbl a) (L.dbl b) (L.dbl p) = L.on a b p := by
  unfold L.on
  rw [cross_dbl, Bool.eq_iff_iff]
  simp only [Bool.and_eq_true, decide_eq_true_eq, within_iff]
  unfold L.dbl
  simp only
  omega
theorem up_dbl (a b p : L.Pt) : L.upE (L.dbl a) (L.dbl b) (L.dbl p) = L.upE a b p := by
  unfold L.upE
  rw [cross_dbl, Bool.eq_iff_iff]
  simp only [band, Bool.and_eq_true, decide_eq_true_eq]
  unfold L.dbl
  dsimp only
  omega
theorem cross_fl (a b c : L.Pt) : L.cross b a c = - L.cross a b c := by
  unfold L.cross
  simp only [Int.sub_mul, Int.mul_sub]
  have h1 := Int.mul_comm a.x b.y
  have h2 := Int.mul_comm a.x c.y
  have h3 := Int.mul_comm a.y b.x
  have h4 := Int.mul_comm a.y c.x
  have h5 := Int.mul_comm b.x c.y
  have h6 := Int.mul_comm b.y c.x
  have h7 := Int.mul_comm a.y a.x
  have h8 := Int.mul_comm b.y b.x
  omega
theorem cr_sorted (a b p : L.Pt) : L.crE a b p = bif decide (b.y < a.y) then L.upE b a p else L.upE a b p := by
  rw [Bool.eq_iff_iff]
  unfold L.crE L.upE
  rw [cross_fl a b p]
  by_cases h : b.y < a.y
  · rw [decide_eq_true h]
    simp only [band, bor, Bool.or_eq_true, Bool.and_eq_true, decide_eq_true_eq, cond_true]
    omega
  · rw [decide_eq_false h]
    simp only [band, bor, Bool.or_eq_true, Bool.and_eq_true, decide_eq_true_eq, cond_false]
    omega
theorem cr_dbl (a b p : L.Pt) : L.crE (L.dbl a) (L.dbl b) (L.dbl p) = L.crE a b p := by
  rw [cr_sorted, cr_sorted, up_dbl, up_dbl]
  have : decide ((L.dbl b).y < (L.dbl a).y) = decide (b.y < a.y) := by
    rw [Bool.eq_iff_iff, decide_eq_true_eq, decide_eq_true_eq]
    unfold L.dbl; dsimp only; omega
  rw [this]
def L.dblS (l : L.Sq L.Pt) : L.Sq L.Pt := ⟨l.n, fun k => L.dbl (l.g k)⟩
theorem par_dbl (l : L.Sq L.Pt) (p : L.Pt) : ∀ k, L.par (L.dblS l) (L.dbl p) k = L.par l p k
  | 0 => rfl
  | k + 1 => by
    have h : L.crE ((L.dblS l).g k) ((L.dblS l).g (L.next (L.dblS l).n k)) (L.dbl p) = L.crE (l.g k) (l.g (L.next l.n k)) p := cr_dbl _ _ _
    unfold L.par
    rw [h, par_dbl l p k]
theorem wher_dbl (l : L.Sq L.Pt) (p : L.Pt) : L.wher (L.dblS l) (L.dbl p) = L.wher l p := by
  have h : L.onE (L.dblS l) (L.dbl p) = L.onE l p := funext fun k => on_dbl _ _ _
  unfold L.wher
  rw [h, par_dbl]; rfl
theorem sgn_bd (b : Bool) : -1 ≤ L.sgn b ∧ L.sgn b ≤ 1 := by cases b <;> decide
theorem sgn_not (b : Bool) : 0 - L.sgn b = L.sgn (!b) := by cases b <;> rfl
theorem wher_on {l : L.Sq L.Pt} {p : L.Pt} {k : Nat} (hk : k < l.n) (h : L.onE l p k = true) : 0 = L.wher l p := by
  unfold L.wher; rw [anyB_iff.2 ⟨k, hk, h⟩]; rfl
theorem wher_off {l : L.Sq L.Pt} {p : L.Pt} (h : ∀ j, j < l.n → L.onE l p j = false) : L.sgn (L.par l p l.n) = L.wher l p := by
  unfold L.wher; rw [anyB_no h]; rfl
theorem pts_valid {l : L.Sq L.Pt} (h : L.validOutline l = true) : ∀ i, i < l.n → L.validPt (l.g i) = true := by
  unfold L.validOutline L.valid3 at h
  rw [Bool.and_eq_true] at h
  cases hc : (bif !L.within (l.n : Int) 3 24 then true else !L.validPts l) with
  | true => rw [hc] at h; exact absurd h.1 Bool.noConfusion
  | false =>
    rw [bor, Bool.or_eq_false_iff] at hc
    exact allB_iff.1 (notF hc.2)
theorem dbl_bd {p : L.Pt} (h : L.validPt p = true) : (0 ≤ (L.dbl p).x ∧ (L.dbl p).x ≤ 8192 ∧ 0 ≤ (L.dbl p).y ∧ (L.dbl p).y ≤ 8192) ∧ L.bd (L.dbl p) := by
  unfold L.validPt at h
  rw [Bool.and_eq_true, within_iff, within_iff] at h
  unfold L.bd L.dbl
  dsimp only
  omega
def p_place_p (l : (L.Sq L.Pt)) (p : L.Pt) : Prop := L.validOutline l = true ∧ ∃ q, L.validPt q = true ∧ p = L.dbl q
def p_place_r (l : (L.Sq L.Pt)) (p : L.Pt) : SV := .int .i64 (L.wher (⟨l.n, fun k => L.dbl (l.g k)⟩ : L.Sq L.Pt) p)
def p_place_s : List EV → Option (Prop × SV)
  | [.p (.sl 2 l_n l_g), .p (.agg [.int .i64 p_x, .int .i64 p_y])] => some ((∀ i, i < l_n → l_g i = [.int .i64 ((ofPt (l_g i)).x), .int .i64 ((ofPt (l_g i)).y)]) ∧ p_place_p (⟨l_n, fun i => ofPt (l_g i)⟩ : (L.Sq L.Pt)) (⟨p_x, p_y⟩ : L.Pt), p_place_r (⟨l_n, fun i => ofPt (l_g i)⟩ : (L.Sq L.Pt)) (⟨p_x, p_y⟩ : L.Pt))
  | _ => none
abbrev p_place_S : SE.Spec := (specO p_place_s)
def p_place_C : Cfg := { muts := [4, 5, 7, 8, 9], frz := lookN [], specs := lookS [(57, p_triples_S), (63, p_on_S), (34, p_cross_S)], loops := lookL [], iters := lookI [(83, p_triples1_it)], rfs := lookR [], nils := lookM [] }
theorem p_place_vc (l : (L.Sq L.Pt)) (p : L.Pt) (hp : p_place_p l p) : vc Try.prog ({ p_place_C with loops := lookL [], rfs := lookR [(3, { T := Nat, keep := [3, 4, 5], keepO := [4], own := fun k _ => [(5, .blk 3 [.p (.int .i64 (L.sgn (L.par (⟨l.n, fun k => L.dbl (l.g k)⟩ : L.Sq L.Pt) p k)))])], inv := fun k _ => ∀ j, j < k → L.onE (⟨l.n, fun k => L.dbl (l.g k)⟩ : L.Sq L.Pt) p j = false })] }) (bodyOf Try.f45) (st0 Try.f45 [.p (.sl 2 l.n (fun i => [.int .i64 ((l.g i).x), .int .i64 ((l.g i).y)])), .p (.agg [.int .i64 p.x, .int .i64 p.y])]) (retFn Try.prog Try.f45 (p_place_r l p)) :=
  @Eq.mpr _ (((∀ (i : Nat), i < l.n → [Go.SE.SV.int Go.IntKind.i64 (l.g i).x, Go.SE.SV.int Go.IntKind.i64 (l.g i).y] = [Go.SE.SV.int Go.IntKind.i64 (l.g i).x, Go.SE.SV.int Go.IntKind.i64 (l.g i).y]) ∧ l.n ≤ (1000 : Nat)) ∧ (((∀ (i : Nat), i < l.n → [Go.SE.SV.int Go.IntKind.i64 (l.g i).x, Go.SE.SV.int Go.IntKind.i64 (l.g i).y] = [Go.SE.SV.int Go.IntKind.i64 (l.g i).x, Go.SE.SV.int Go.IntKind.i64 (l.g i).y]) ∧
 l.n ≤ (1000 : Nat)) ∧ ∃ (t : Nat), (-1 : Int) = L.sgn (L.par (L.Sq.mk l.n fun (k : Nat) ↦ L.dbl (l.g k)) p (0 : Nat)) ∧ (0 : Int) = (0 : Int) ∧ ∀ (j : Nat), j < (0 : Nat) → L.onE (L.Sq.mk l.n fun (k : Nat) ↦ L.dbl (l.g k)) p j = Bool.false) ∧ (∀ (k t : Nat) (vk : Nat → Go.Value), k < l.n → (∀ (j : Nat), j < k → L.onE (L.Sq.mk l.n fun (k : Nat) ↦ L.dbl (l.g k)) p j = Bool.false) → ((0 : Int) ≤ (1 :
 Int) ∧ (1 : Int) < (↑(3 : Nat) : Int)) ∧ Go.SE.InK Go.IntKind.i64 ((2 : Int) * (l.g (Int.toNat (↑k : Int))).x) ∧ ((0 : Int) ≤ (1 : Int) ∧ (1 : Int) < (↑(3 : Nat) : Int)) ∧ Go.SE.InK Go.IntKind.i64 ((2 : Int) * (l.g (Int.toNat (↑k : Int))).y) ∧ ((0 : Int) ≤ (2 : Int) ∧ (2 : Int) < (↑(3 : Nat) : Int)) ∧ Go.SE.InK Go.IntKind.i64 ((2 : Int) * (l.g (Int.toNat (Int.tmod ((↑k : Int) + (1 : Int)) (↑l.n :
 Int)))).x) ∧ ((0 : Int) ≤ (2 : Int) ∧ (2 : Int) < (↑(3 : Nat) : Int)) ∧ Go.SE.InK Go.IntKind.i64 ((2 : Int) * (l.g (Int.toNat (Int.tmod ((↑k : Int) + (1 : Int)) (↑l.n : Int)))).y) ∧ (L.bd (L.Pt.mk ((2 : Int) * (l.g (Int.toNat (↑k : Int))).x) ((2 : Int) * (l.g (Int.toNat (↑k : Int))).y)) ∧ L.bd (L.Pt.mk ((2 : Int) * (l.g (Int.toNat (Int.tmod ((↑k : Int) + (1 : Int)) (↑l.n : Int)))).x) ((2 : Int) *
 (l.g (Int.toNat (Int.tmod ((↑k : Int) + (1 : Int)) (↑l.n : Int)))).y)) ∧ L.bd p) ∧ (L.on (L.Pt.mk ((2 : Int) * (l.g (Int.toNat (↑k : Int))).x) ((2 : Int) * (l.g (Int.toNat (↑k : Int))).y)) (L.Pt.mk ((2 : Int) * (l.g (Int.toNat (Int.tmod ((↑k : Int) + (1 : Int)) (↑l.n : Int)))).x) ((2 : Int) * (l.g (Int.toNat (Int.tmod ((↑k : Int) + (1 : Int)) (↑l.n : Int)))).y)) p = Bool.true → nat_lit 0 = nat_lit
 0 ∧ nat_lit 0 = nat_lit 0 ∧ Go.SE.SV.ref [Go.SE.SV.int Go.IntKind.i64 p.x, Go.SE.SV.int Go.IntKind.i64 p.y] (nat_lit 0) = Go.SE.SV.ref [Go.SE.SV.int Go.IntKind.i64 p.x, Go.SE.SV.int Go.IntKind.i64 p.y] (nat_lit 0) ∧ vk (nat_lit 5) = vk (nat_lit 5) ∧ vk (nat_lit 4) = vk (nat_lit 4) ∧ vk (nat_lit 3) = vk (nat_lit 3) ∧ (0 : Int) = L.wher (L.Sq.mk l.n fun (k : Nat) ↦ L.dbl (l.g k)) p) ∧ (L.on (L.Pt.mk
 ((2 : Int) * (l.g (Int.toNat (↑k : Int))).x) ((2 : Int) * (l.g (Int.toNat (↑k : Int))).y)) (L.Pt.mk ((2 : Int) * (l.g (Int.toNat (Int.tmod ((↑k : Int) + (1 : Int)) (↑l.n : Int)))).x) ((2 : Int) * (l.g (Int.toNat (Int.tmod ((↑k : Int) + (1 : Int)) (↑l.n : Int)))).y)) p = Bool.false → (Decidable.decide ((2 : Int) * (l.g (Int.toNat (Int.tmod ((↑k : Int) + (1 : Int)) (↑l.n : Int)))).y < (2 : Int) *
 (l.g (Int.toNat (↑k : Int))).y) = Bool.true → ((bif Decidable.decide ((2 : Int) * (l.g (Int.toNat (Int.tmod ((↑k : Int) + (1 : Int)) (↑l.n : Int)))).y ≤ p.y) then Decidable.decide (p.y < (2 : Int) * (l.g (Int.toNat (↑k : Int))).y) else Bool.false) = Bool.true → L.bd (L.Pt.mk ((2 : Int) * (l.g (Int.toNat (Int.tmod ((↑k : Int) + (1 : Int)) (↑l.n : Int)))).x) ((2 : Int) * (l.g (Int.toNat (Int.tmod
 ((↑k : Int) + (1 : Int)) (↑l.n : Int)))).y)) ∧ L.bd (L.Pt.mk ((2 : Int) * (l.g (Int.toNat (↑k : Int))).x) ((2 : Int) * (l.g (Int.toNat (↑k : Int))).y)) ∧ L.bd p) ∧ ((bif bif Decidable.decide ((2 : Int) * (l.g (Int.toNat (Int.tmod ((↑k : Int) + (1 : Int)) (↑l.n : Int)))).y ≤ p.y) then Decidable.decide (p.y < (2 : Int) * (l.g (Int.toNat (↑k : Int))).y) else Bool.false then Decidable.decide ((0 :
 Int) < L.cross (L.Pt.mk ((2 : Int) * (l.g (Int.toNat (Int.tmod ((↑k : Int) + (1 : Int)) (↑l.n : Int)))).x) ((2 : Int) * (l.g (Int.toNat (Int.tmod ((↑k : Int) + (1 : Int)) (↑l.n : Int)))).y)) (L.Pt.mk ((2 : Int) * (l.g (Int.toNat (↑k : Int))).x) ((2 : Int) * (l.g (Int.toNat (↑k : Int))).y)) p) else Bool.false) = Bool.true → Go.SE.InK Go.IntKind.i64 ((0 : Int) - L.sgn (L.par (L.Sq.mk l.n fun (k :
 Nat) ↦ L.dbl (l.g k)) p k)) ∧ ∃ (t' : Nat), nat_lit 0 = nat_lit 0 ∧ nat_lit 0 = nat_lit 0 ∧ Go.SE.SV.ref [Go.SE.SV.int Go.IntKind.i64 p.x, Go.SE.SV.int Go.IntKind.i64 p.y] (nat_lit 0) = Go.SE.SV.ref [Go.SE.SV.int Go.IntKind.i64 p.x, Go.SE.SV.int Go.IntKind.i64 p.y] (nat_lit 0) ∧ vk (nat_lit 5) = vk (nat_lit 5) ∧ vk (nat_lit 4) = vk (nat_lit 4) ∧ vk (nat_lit 3) = vk (nat_lit 3) ∧ (0 : Int) - L.sgn
 (L.par (L.Sq.mk l.n fun (k : Nat) ↦ L.dbl (l.g k)) p k) = L.sgn (L.par (L.Sq.mk l.n fun (k : Nat) ↦ L.dbl (l.g k)) p (k + (1 : Nat))) ∧ (0 : Int) = (0 : Int) ∧ ∀ (j : Nat), j < k + (1 : Nat) → L.onE (L.Sq.mk l.n fun (k : Nat) ↦ L.dbl (l.g k)) p j = Bool.false) ∧ ((bif bif Decidable.decide ((2 : Int) * (l.g (Int.toNat (Int.tmod ((↑k : Int) + (1 : Int)) (↑l.n : Int)))).y ≤ p.y) then Decidable.decide
 (p.y < (2 : Int) * (l.g (Int.toNat (↑k : Int))).y) else Bool.false then Decidable.decide ((0 : Int) < L.cross (L.Pt.mk ((2 : Int) * (l.g (Int.toNat (Int.tmod ((↑k : Int) + (1 : Int)) (↑l.n : Int)))).x) ((2 : Int) * (l.g (Int.toNat (Int.tmod ((↑k : Int) + (1 : Int)) (↑l.n : Int)))).y)) (L.Pt.mk ((2 : Int) * (l.g (Int.toNat (↑k : Int))).x) ((2 : Int) * (l.g (Int.toNat (↑k : Int))).y)) p) else
 Bool.false) = Bool.false → ∃ (t' : Nat), nat_lit 0 = nat_lit 0 ∧ nat_lit 0 = nat_lit 0 ∧ Go.SE.SV.ref [Go.SE.SV.int Go.IntKind.i64 p.x, Go.SE.SV.int Go.IntKind.i64 p.y] (nat_lit 0) = Go.SE.SV.ref [Go.SE.SV.int Go.IntKind.i64 p.x, Go.SE.SV.int Go.IntKind.i64 p.y] (nat_lit 0) ∧ vk (nat_lit 5) = vk (nat_lit 5) ∧ vk (nat_lit 4) = vk (nat_lit 4) ∧ vk (nat_lit 3) = vk (nat_lit 3) ∧ L.sgn (L.par (L.Sq.mk
 l.n fun (k : Nat) ↦ L.dbl (l.g k)) p k) = L.sgn (L.par (L.Sq.mk l.n fun (k : Nat) ↦ L.dbl (l.g k)) p (k + (1 : Nat))) ∧ (0 : Int) = (0 : Int) ∧ ∀ (j : Nat), j < k + (1 : Nat) → L.onE (L.Sq.mk l.n fun (k : Nat) ↦ L.dbl (l.g k)) p j = Bool.false)) ∧ (Decidable.decide ((2 : Int) * (l.g (Int.toNat (Int.tmod ((↑k : Int) + (1 : Int)) (↑l.n : Int)))).y < (2 : Int) * (l.g (Int.toNat (↑k : Int))).y) =
 Bool.false → ((bif Decidable.decide ((2 : Int) * (l.g (Int.toNat (↑k : Int))).y ≤ p.y) then Decidable.decide (p.y < (2 : Int) * (l.g (Int.toNat (Int.tmod ((↑k : Int) + (1 : Int)) (↑l.n : Int)))).y) else Bool.false) = Bool.true → L.bd (L.Pt.mk ((2 : Int) * (l.g (Int.toNat (↑k : Int))).x) ((2 : Int) * (l.g (Int.toNat (↑k : Int))).y)) ∧ L.bd (L.Pt.mk ((2 : Int) * (l.g (Int.toNat (Int.tmod ((↑k : Int)
 + (1 : Int)) (↑l.n : Int)))).x) ((2 : Int) * (l.g (Int.toNat (Int.tmod ((↑k : Int) + (1 : Int)) (↑l.n : Int)))).y)) ∧ L.bd p) ∧ ((bif bif Decidable.decide ((2 : Int) * (l.g (Int.toNat (↑k : Int))).y ≤ p.y) then Decidable.decide (p.y < (2 : Int) * (l.g (Int.toNat (Int.tmod ((↑k : Int) + (1 : Int)) (↑l.n : Int)))).y) else Bool.false then Decidable.decide ((0 : Int) < L.cross (L.Pt.mk ((2 : Int) *
 (l.g (Int.toNat (↑k : Int))).x) ((2 : Int) * (l.g (Int.toNat (↑k : Int))).y)) (L.Pt.mk ((2 : Int) * (l.g (Int.toNat (Int.tmod ((↑k : Int) + (1 : Int)) (↑l.n : Int)))).x) ((2 : Int) * (l.g (Int.toNat (Int.tmod ((↑k : Int) + (1 : Int)) (↑l.n : Int)))).y)) p) else Bool.false) = Bool.true → Go.SE.InK Go.IntKind.i64 ((0 : Int) - L.sgn (L.par (L.Sq.mk l.n fun (k : Nat) ↦ L.dbl (l.g k)) p k)) ∧ ∃ (t' :
 Nat), nat_lit 0 = nat_lit 0 ∧ nat_lit 0 = nat_lit 0 ∧ Go.SE.SV.ref [Go.SE.SV.int Go.IntKind.i64 p.x, Go.SE.SV.int Go.IntKind.i64 p.y] (nat_lit 0) = Go.SE.SV.ref [Go.SE.SV.int Go.IntKind.i64 p.x, Go.SE.SV.int Go.IntKind.i64 p.y] (nat_lit 0) ∧ vk (nat_lit 5) = vk (nat_lit 5) ∧ vk (nat_lit 4) = vk (nat_lit 4) ∧ vk (nat_lit 3) = vk (nat_lit 3) ∧ (0 : Int) - L.sgn (L.par (L.Sq.mk l.n fun (k : Nat) ↦
 L.dbl (l.g k)) p k) = L.sgn (L.par (L.Sq.mk l.n fun (k : Nat) ↦ L.dbl (l.g k)) p (k + (1 : Nat))) ∧ (0 : Int) = (0 : Int) ∧ ∀ (j : Nat), j < k + (1 : Nat) → L.onE (L.Sq.mk l.n fun (k : Nat) ↦ L.dbl (l.g k)) p j = Bool.false) ∧ ((bif bif Decidable.decide ((2 : Int) * (l.g (Int.toNat (↑k : Int))).y ≤ p.y) then Decidable.decide (p.y < (2 : Int) * (l.g (Int.toNat (Int.tmod ((↑k : Int) + (1 : Int))
 (↑l.n : Int)))).y) else Bool.false then Decidable.decide ((0 : Int) < L.cross (L.Pt.mk ((2 : Int) * (l.g (Int.toNat (↑k : Int))).x) ((2 : Int) * (l.g (Int.toNat (↑k : Int))).y)) (L.Pt.mk ((2 : Int) * (l.g (Int.toNat (Int.tmod ((↑k : Int) + (1 : Int)) (↑l.n : Int)))).x) ((2 : Int) * (l.g (Int.toNat (Int.tmod ((↑k : Int) + (1 : Int)) (↑l.n : Int)))).y)) p) else Bool.false) = Bool.false → ∃ (t' :
 Nat), nat_lit 0 = nat_lit 0 ∧ nat_lit 0 = nat_lit 0 ∧ Go.SE.SV.ref [Go.SE.SV.int Go.IntKind.i64 p.x, Go.SE.SV.int Go.IntKind.i64 p.y] (nat_lit 0) = Go.SE.SV.ref [Go.SE.SV.int Go.IntKind.i64 p.x, Go.SE.SV.int Go.IntKind.i64 p.y] (nat_lit 0) ∧ vk (nat_lit 5) = vk (nat_lit 5) ∧ vk (nat_lit 4) = vk (nat_lit 4) ∧ vk (nat_lit 3) = vk (nat_lit 3) ∧ L.sgn (L.par (L.Sq.mk l.n fun (k : Nat) ↦ L.dbl (l.g k))
 p k) = L.sgn (L.par (L.Sq.mk l.n fun (k : Nat) ↦ L.dbl (l.g k)) p (k + (1 : Nat))) ∧ (0 : Int) = (0 : Int) ∧ ∀ (j : Nat), j < k + (1 : Nat) → L.onE (L.Sq.mk l.n fun (k : Nat) ↦ L.dbl (l.g k)) p j = Bool.false)))) ∧ ∀ (t : Nat), (∀ (j : Nat), j < l.n → L.onE (L.Sq.mk l.n fun (k : Nat) ↦ L.dbl (l.g k)) p j = Bool.false) → L.sgn (L.par (L.Sq.mk l.n fun (k : Nat) ↦ L.dbl (l.g k)) p l.n) = L.wher
 (L.Sq.mk l.n fun (k : Nat) ↦ L.dbl (l.g k)) p) (by kernel_rfl) (by
    obtain ⟨hv, q, hq, rfl⟩ := hp
    obtain ⟨n3, n24, _, _⟩ := validOutline_of hv
    have hpt := pts_valid hv
    have hbq := (dbl_bd hq).2
    refine ⟨⟨fun _ _ => rfl, by omega⟩, ⟨⟨fun _ _ => rfl, by omega⟩, 0, rfl, rfl, fun j hj => absurd hj (Nat.not_lt_zero _)⟩, fun k t vk hk h0 => ?_, fun t h0 => wher_off (l := L.dblS l) h0⟩
    have hkn : L.next l.n k < l.n := next_lt (by omega)
    have hk : k < l.n := hk
    obtain ⟨⟨a1, a2, a3, a4⟩, ha⟩ := dbl_bd (hpt k hk)
    obtain ⟨⟨b1, b2, b3, b4⟩, hb⟩ := dbl_bd (hpt _ hkn)
    have e0 : ((k : Int)).toNat = k := Int.toNat_natCast k
    rw [e0]
    have hs := sgn_bd (L.par (L.dblS l) (L.dbl q) k)
    have hst : L.par (L.dblS l) (L.dbl q) (k + 1) = bif L.crE (L.dbl (l.g k)) (L.dbl (l.g (L.next l.n k))) (L.dbl q) then !L.par (L.dblS l) (L.dbl q) k else L.par (L.dblS l) (L.dbl q) k := rfl
    rw [cr_sorted] at hst
    have hoff : L.onE (L.dblS l) (L.dbl q) k = false → ∀ j, j < k + 1 → L.onE (L.dblS l) (L.dbl q) j = false := fun h j hj => by
      rcases Nat.lt_succ_iff_lt_or_eq.1 hj with h' | rfl
      · exact h0 j h'
      · exact h
    have yes : ∀ {c : Bool}, L.par (L.dblS l) (L.dbl q) (k + 1) = (bif c then !L.par (L.dblS l) (L.dbl q) k else L.par (L.dblS l) (L.dbl q) k) → c = true → 0 - L.sgn (L.par (L.dblS l) (L.dbl q) k) = L.sgn (L.par (L.dblS l) (L.dbl q) (k + 1)) := fun h hc => by
      rw [h, hc, sgn_not]; rfl
    have no : ∀ {c : Bool}, L.par (L.dblS l) (L.dbl q) (k + 1) = (bif c then !L.par (L.dblS l) (L.dbl q) k else L.par (L.dblS l) (L.dbl q) k) → c = false → L.sgn (L.par (L.dblS l) (L.dbl q) k) = L.sgn (L.par (L.dblS l) (L.dbl q) (k + 1)) := fun h hc => by
      rw [h, hc]; rfl
    refine ⟨by decide, InK.of (Int.le_trans (by decide) a1) (Int.le_trans a2 (by decide)), by decide, InK.of (Int.le_trans (by decide) a3) (Int.le_trans a4 (by decide)), by decide, InK.of (Int.le_trans (by decide) b1) (Int.le_trans b2 (by decide)), by decide, InK.of (Int.le_trans (by decide) b3) (Int.le_trans b4 (by decide)), ⟨ha, hb, hbq⟩, fun h => ⟨rfl, rfl, rfl, rfl, rfl, rfl, wher_on (l := L.dblS l) hk h⟩, fun h => ⟨fun hc => ?_, fun hc => ?_⟩⟩
    · have hc : decide ((L.dbl (l.g (L.next l.n k))).y < (L.dbl (l.g k)).y) = true := hc
      rw [hc] at hst
      exact ⟨fun _ => ⟨hb, ha, hbq⟩, fun hu => ⟨InK.of (by show _ ≤ 0 - L.sgn (L.par (L.dblS l) (L.dbl q) k); omega) (by show 0 - L.sgn (L.par (L.dblS l) (L.dbl q) k) ≤ _; omega), 0, rfl, rfl, rfl, rfl, rfl, rfl, yes hst hu, rfl, hoff h⟩, fun hu => ⟨0, rfl, rfl, rfl, rfl, rfl, rfl, no hst hu, rfl, hoff h⟩⟩
    · have hc : decide ((L.dbl (l.g (L.next l.n k))).y < (L.dbl (l.g k)).y) = false := hc
      rw [hc] at hst
      exact ⟨fun _ => ⟨ha, hb, hbq⟩, fun hu => ⟨InK.of (by show _ ≤ 0 - L.sgn (L.par (L.dblS l) (L.dbl q) k); omega) (by show 0 - L.sgn (L.par (L.dblS l) (L.dbl q) k) ≤ _; omega), 0, rfl, rfl, rfl, rfl, rfl, rfl, yes hst hu, rfl, hoff h⟩, fun hu => ⟨0, rfl, rfl, rfl, rfl, rfl, rfl, no hst hu, rfl, hoff h⟩⟩)
theorem p_place_ok : SpecOk Try.prog 45 p_place_S := fnX Try.func45 (c := bodyOf Try.f45) (by kernel_rfl) mixed (fun args p r hs hp => by
  unfold p_place_s at hs
  split at hs
  · cases hs; exact ⟨_, _, p_place_vc _ _ hp.2, (.p (.sl hp.1) (.same _ .nil)), ⟨show SpecsL Try.prog _ from (SpecsL.cons p_triples_ok p_triples_en (SpecsL.cons p_on_ok p_on_en (SpecsL.cons p_cross_ok p_cross_en SpecsL.nil))), rfl, ⟨show ItersL Try.prog _ from (ItersL.cons p_triples1_itok p_triples1_en ItersL.nil), (TrsOk.none (fun _ => rfl))⟩⟩⟩
  · cases hs)
theorem p_place_en : Enters Try.prog 45 := fun args w => by kernel_rfl
theorem p_place_I : ∀ args p r, p_place_s args = some (p, r) → ∃ n, r = .int .i64 n := by
  intro args p r h
  unfold p_place_s at h
  split at h
  · cases h; exact ⟨_, rfl⟩
  · cases h
def p_Place_p (l : (L.Sq L.Pt)) (p : L.Pt) : Prop := l.n ≤ 1000000
def p_Place_r (l : (L.Sq L.Pt)) (p : L.Pt) : SV := .tup [.int .i64 (L.plV l p), .int .i64 (L.plE l p)]
def p_Place_s : List EV → Option (Prop × SV)
  | [.p (.sl 2 l_n l_g), .p (.agg [.int .i64 p_x, .int .i64 p_y])] => some ((∀ i, i < l_n → l_g i = [.int .i64 ((ofPt (l_g i)).x), .int .i64 ((ofPt (l_g i)).y)]) ∧ p_Place_p (⟨l_n, fun i => ofPt (l_g i)⟩ : (L.Sq L.Pt)) (⟨p_x, p_y⟩ : L.Pt), p_Place_r (⟨l_n, fun i => ofPt (l_g i)⟩ : (L.Sq L.Pt)) (⟨p_x, p_y⟩ : L.Pt))
  | _ => none
abbrev p_Place_S : SE.Spec := (specO p_Place_s)
def p_Place_C : Cfg := { muts := [], frz := lookN [], specs := lookS [(43, p_ValidOutline_S), (13, p_validPoint_S), (45, p_place_S)], loops := lookL [], iters := lookI [], rfs := lookR [], nils := lookM [] }
theorem p_Place_vc (l : (L.Sq L.Pt)) (p : L.Pt) (hp : p_Place_p l p) : vc Try.prog (p_Place_C) (bodyOf Try.f24) (st0 Try.f24 [.p (.sl 2 l.n (fun i => [.int .i64 ((l.g i).x), .int .i64 ((l.g i).y)])), .p (.agg [.int .i64 p.x, .int .i64 p.y])]) (retFn Try.prog Try.f24 (p_Place_r l p)) :=
  @Eq.mpr _ (((∀ (i : Nat), i < l.n → [Go.SE.SV.int Go.IntKind.i64 (l.g i).x, Go.SE.SV.int Go.IntKind.i64 (l.g i).y] = [Go.SE.SV.int Go.IntKind.i64 (l.g i).x, Go.SE.SV.int Go.IntKind.i64 (l.g i).y]) ∧ l.n ≤ (1000000 : Nat)) ∧ ((!!L.validOutline (L.Sq.mk l.n fun (i : Nat) ↦ l.g i)) = Bool.true → True) ∧ ((bif !L.validOutline (L.Sq.mk l.n fun (i : Nat) ↦ l.g i) then Bool.true else !L.validPt p) = Bool.true → (0
 : Int) = L.plV l p ∧ (1 : Int) = L.plE l p) ∧ ((bif !L.validOutline (L.Sq.mk l.n fun (i : Nat) ↦ l.g i) then Bool.true else !L.validPt p) = Bool.false → Go.SE.InK Go.IntKind.i64 ((2 : Int) * p.x) ∧ Go.SE.InK Go.IntKind.i64 ((2 : Int) * p.y) ∧ ((∀ (i : Nat), i < l.n → [Go.SE.SV.int Go.IntKind.i64 (l.g i).x, Go.SE.SV.int Go.IntKind.i64 (l.g i).y] = [Go.SE.SV.int Go.IntKind.i64 (l.g i).x,
 Go.SE.SV.int Go.IntKind.i64 (l.g i).y]) ∧ L.validOutline (L.Sq.mk l.n fun (i : Nat) ↦ l.g i) = Bool.true ∧ ∃ (q : L.Pt), L.validPt q = Bool.true ∧ L.Pt.mk ((2 : Int) * p.x) ((2 : Int) * p.y) = L.dbl q) ∧ L.wher (L.Sq.mk l.n fun (k : Nat) ↦ L.dbl (l.g k)) (L.Pt.mk ((2 : Int) * p.x) ((2 : Int) * p.y)) = L.plV l p ∧ (0 : Int) = L.plE l p)) (by kernel_rfl) (by
    have h1 : l.n ≤ 1000000 := hp
    refine ⟨⟨fun _ _ => rfl, h1⟩, fun _ => trivial, fun h => ?_, fun h => ?_⟩
    · have h : (bif !L.validOutline l then true else !L.validPt p) = true := h
      have e : L.plE l p = 1 := by unfold L.plE; rw [h]; rfl
      unfold L.plV; rw [e]; exact ⟨rfl, rfl⟩
    · have h : (bif !L.validOutline l then true else !L.validPt p) = false := h
      have e : L.plE l p = 0 := by unfold L.plE; rw [h]; rfl
      rw [bor, Bool.or_eq_false_iff] at h
      have hq := notF h.2
      obtain ⟨⟨a1, a2, a3, a4⟩, ha⟩ := dbl_bd hq
      refine ⟨InK.of (Int.le_trans (by decide) a1) (Int.le_trans a2 (by decide)), InK.of (Int.le_trans (by decide) a3) (Int.le_trans a4 (by decide)), ⟨fun _ _ => rfl, notF h.1, p, hq, rfl⟩, ?_, e.symm⟩
      unfold L.plV; rw [e]; exact wher_dbl l p)
theorem p_Place_ok : SpecOk Try.prog 24 p_Place_S := fnX Try.func24 (c := bodyOf Try.f24) (by kernel_rfl) mixed (fun args p r hs hp => by
  unfold p_Place_s at hs
  split at hs
  · cases hs; exact ⟨_, _, p_Place_vc _ _ hp.2, (.p (.sl hp.1) (.same _ .nil)), ⟨show SpecsL Try.prog _ from (SpecsL.cons p_ValidOutline_ok p_ValidOutline_en (SpecsL.cons p_validPoint_ok p_validPoint_en (SpecsL.cons p_place_ok p_place_en SpecsL.nil))), rfl, ⟨show ItersL Try.prog _ from ItersL.nil, (TrsOk.none (fun _ => rfl))⟩⟩⟩
  · cases hs)
theorem p_Place_en : Enters Try.prog 24 := fun args w => by kernel_rfl
def r1_Where_p (l : (L.Sq L.Pt)) (p : L.Pt) : Prop := L.validOutline l = true ∧ L.validPt p = true
def r1_Where_r (l : (L.Sq L.Pt)) (p : L.Pt) : SV := .int .i64 (L.wher l p)
def r1_Where_s : List EV → Option (Prop × SV)
  | [.p (.sl 2 l_n l_g), .p (.agg [.int .i64 p_x, .int .i64 p_y])] => some ((∀ i, i < l_n → l_g i = [.int .i64 ((ofPt (l_g i)).x), .int .i64 ((ofPt (l_g i)).y)]) ∧ r1_Where_p (⟨l_n, fun i => ofPt (l_g i)⟩ : (L.Sq L.Pt)) (⟨p_x, p_y⟩ : L.Pt), r1_Where_r (⟨l_n, fun i => ofPt (l_g i)⟩ : (L.Sq L.Pt)) (⟨p_x, p_y⟩ : L.Pt))
  | _ => none
abbrev r1_Where_S : SE.Spec := (specO r1_Where_s)
def r1_Where_C : Cfg := { muts := [7, 8], frz := lookN [], specs := lookS [(74, r1_at_S), (66, r1_On_S), (36, r1_Cross_S)], loops := fun _ => none, iters := lookI [], rfs := lookR [], nils := lookM [] }
theorem r1_Where_vc (l : (L.Sq L.Pt)) (p : L.Pt) (hp : r1_Where_p l p) : vc Try.prog ({ r1_Where_C with loops := lookL [(3, { T := Nat, keep := [0, 3], keepO := [], chg := fun i => [(5, .p (.bool (L.par l p i))), (6, .p (.int .i64 (i : Int)))], own := fun _ => [], inv := fun i => i ≤ l.n ∧ ∀ j, j < i → L.onE l p j = false, mu := fun i => l.n - i })], rfs := lookR [] }) (bodyOf Try.f47) (st0 Try.f47 [.p (.sl 2 l.n (fun i => [.int .i64 ((l.g i).x), .int .i64 ((l.g i).y)])), .p (.agg [.int .i64 p.x, .int .i64 p.y])]) (retFn Try.prog Try.f47 (r1_Where_r l p)) :=
  @Eq.mpr _ ((∃ (g : Nat), Bool.false = L.par l p g ∧ (0 : Int) = (↑g : Int) ∧ g ≤ l.n ∧ ∀ (j : Nat), j < g → L.onE l p j = Bool.false) ∧ ∀ (g : Nat), (g ≤ l.n ∧ ∀ (j : Nat), j < g → L.onE l p j = Bool.false) → (Decidable.decide ((↑g : Int) < (↑l.n : Int)) = Bool.true → ((0 : Int) ≤ (↑g : Int) ∧ (↑g : Int) < (↑l.n : Int)) ∧ Go.SE.InK Go.IntKind.i64 ((↑g : Int) + (1 : Int)) ∧ ((∀ (i : Nat), i < l.n →
 [Go.SE.SV.int Go.IntKind.i64 (l.g i).x, Go.SE.SV.int Go.IntKind.i64 (l.g i).y] = [Go.SE.SV.int Go.IntKind.i64 (l.g i).x, Go.SE.SV.int Go.IntKind.i64 (l.g i).y]) ∧ (1 : Nat) ≤ l.n ∧ l.n ≤ (1000000 : Nat) ∧ (-1000000 : Int) ≤ (↑g : Int) + (1 : Int) ∧ (↑g : Int) + (1 : Int) ≤ (1000000 : Int)) ∧ (L.bd (l.g (Int.toNat (↑g : Int))) ∧ L.bd (l.g (L.ix l.n ((↑g : Int) + (1 : Int)))) ∧ L.bd p) ∧ (L.on (l.g
 (Int.toNat (↑g : Int))) (l.g (L.ix l.n ((↑g : Int) + (1 : Int)))) p = Bool.true → (0 : Int) = L.wher l p) ∧ (L.on (l.g (Int.toNat (↑g : Int))) (l.g (L.ix l.n ((↑g : Int) + (1 : Int)))) p = Bool.false → ((bif Decidable.decide ((l.g (Int.toNat (↑g : Int))).y ≤ p.y) then Decidable.decide (p.y < (l.g (L.ix l.n ((↑g : Int) + (1 : Int)))).y) else Bool.false) = Bool.true → L.bd (l.g (Int.toNat (↑g :
 Int))) ∧ L.bd (l.g (L.ix l.n ((↑g : Int) + (1 : Int)))) ∧ L.bd p) ∧ (((!bif bif Decidable.decide ((l.g (Int.toNat (↑g : Int))).y ≤ p.y) then Decidable.decide (p.y < (l.g (L.ix l.n ((↑g : Int) + (1 : Int)))).y) else Bool.false then Decidable.decide ((0 : Int) < L.cross (l.g (Int.toNat (↑g : Int))) (l.g (L.ix l.n ((↑g : Int) + (1 : Int)))) p) else Bool.false) && bif Decidable.decide ((l.g (L.ix l.n
 ((↑g : Int) + (1 : Int)))).y ≤ p.y) then Decidable.decide (p.y < (l.g (Int.toNat (↑g : Int))).y) else Bool.false) = Bool.true → L.bd (l.g (Int.toNat (↑g : Int))) ∧ L.bd (l.g (L.ix l.n ((↑g : Int) + (1 : Int)))) ∧ L.bd p) ∧ ((bif bif bif Decidable.decide ((l.g (Int.toNat (↑g : Int))).y ≤ p.y) then Decidable.decide (p.y < (l.g (L.ix l.n ((↑g : Int) + (1 : Int)))).y) else Bool.false then
 Decidable.decide ((0 : Int) < L.cross (l.g (Int.toNat (↑g : Int))) (l.g (L.ix l.n ((↑g : Int) + (1 : Int)))) p) else Bool.false then Bool.true else bif bif Decidable.decide ((l.g (L.ix l.n ((↑g : Int) + (1 : Int)))).y ≤ p.y) then Decidable.decide (p.y < (l.g (Int.toNat (↑g : Int))).y) else Bool.false then Decidable.decide (L.cross (l.g (Int.toNat (↑g : Int))) (l.g (L.ix l.n ((↑g : Int) + (1 :
 Int)))) p < (0 : Int)) else Bool.false) = Bool.true → Go.SE.InK Go.IntKind.i64 ((↑g : Int) + (1 : Int)) ∧ ∃ (g' : Nat), (!L.par l p g) = L.par l p g' ∧ (↑g : Int) + (1 : Int) = (↑g' : Int) ∧ Go.SE.SV.ref [Go.SE.SV.int Go.IntKind.i64 p.x, Go.SE.SV.int Go.IntKind.i64 p.y] (nat_lit 0) = Go.SE.SV.ref [Go.SE.SV.int Go.IntKind.i64 p.x, Go.SE.SV.int Go.IntKind.i64 p.y] (nat_lit 0) ∧ (l.n = l.n ∧ ∀ (i :
 Nat), i < l.n → [Go.SE.SV.int Go.IntKind.i64 (l.g i).x, Go.SE.SV.int Go.IntKind.i64 (l.g i).y] = [Go.SE.SV.int Go.IntKind.i64 (l.g i).x, Go.SE.SV.int Go.IntKind.i64 (l.g i).y]) ∧ (g' ≤ l.n ∧ ∀ (j : Nat), j < g' → L.onE l p j = Bool.false) ∧ l.n - g' < l.n - g) ∧ ((bif bif bif Decidable.decide ((l.g (Int.toNat (↑g : Int))).y ≤ p.y) then Decidable.decide (p.y < (l.g (L.ix l.n ((↑g : Int) + (1 :
 Int)))).y) else Bool.false then Decidable.decide ((0 : Int) < L.cross (l.g (Int.toNat (↑g : Int))) (l.g (L.ix l.n ((↑g : Int) + (1 : Int)))) p) else Bool.false then Bool.true else bif bif Decidable.decide ((l.g (L.ix l.n ((↑g : Int) + (1 : Int)))).y ≤ p.y) then Decidable.decide (p.y < (l.g (Int.toNat (↑g : Int))).y) else Bool.false then Decidable.decide (L.cross (l.g (Int.toNat (↑g : Int))) (l.g
 (L.ix l.n ((↑g : Int) + (1 : Int)))) p < (0 : Int)) else Bool.false) = Bool.false → Go.SE.InK Go.IntKind.i64 ((↑g : Int) + (1 : Int)) ∧ ∃ (g' : Nat), L.par l p g = L.par l p g' ∧ (↑g : Int) + (1 : Int) = (↑g' : Int) ∧ Go.SE.SV.ref [Go.SE.SV.int Go.IntKind.i64 p.x, Go.SE.SV.int Go.IntKind.i64 p.y] (nat_lit 0) = Go.SE.SV.ref [Go.SE.SV.int Go.IntKind.i64 p.x, Go.SE.SV.int Go.IntKind.i64 p.y] (nat_lit
 0) ∧ (l.n = l.n ∧ ∀ (i : Nat), i < l.n → [Go.SE.SV.int Go.IntKind.i64 (l.g i).x, Go.SE.SV.int Go.IntKind.i64 (l.g i).y] = [Go.SE.SV.int Go.IntKind.i64 (l.g i).x, Go.SE.SV.int Go.IntKind.i64 (l.g i).y]) ∧ (g' ≤ l.n ∧ ∀ (j : Nat), j < g' → L.onE l p j = Bool.false) ∧ l.n - g' < l.n - g))) ∧ (Decidable.decide ((↑g : Int) < (↑l.n : Int)) = Bool.false → (L.par l p g = Bool.true → (1 : Int) = L.wher l
 p) ∧ (L.par l p g = Bool.false → (-1 : Int) = L.wher l p))) (by kernel_rfl) (by
    obtain ⟨hv, hq⟩ := hp
    obtain ⟨n3, n24, _, _, hb⟩ := validOutline_of hv
    have hbq := validPt_bd hq
    refine ⟨⟨0, rfl, rfl, Nat.zero_le _, fun j hj => absurd hj (Nat.not_lt_zero _)⟩, fun g hg => ⟨fun hlt => ?_, fun hge => ?_⟩⟩
    · have hlt : (g : Int) < (l.n : Int) := of_decide_eq_true hlt
      have hk : g < l.n := by omega
      have e0 : ((g : Int)).toNat = g := Int.toNat_natCast g
      have hkn : L.next l.n g < l.n := next_lt (by omega)
      rw [e0, ix_next hk]
      have hst : L.par l p (g + 1) = bif L.crE (l.g g) (l.g (L.next l.n g)) p then !L.par l p g else L.par l p g := rfl
      have hoff : L.onE l p g = false → ∀ j, j < g + 1 → L.onE l p j = false := fun h j hj => by
        rcases Nat.lt_succ_iff_lt_or_eq.1 hj with h' | rfl
        · exact hg.2 j h'
        · exact h
      refine ⟨⟨by omega, hlt⟩, InK.of (by omega) (by omega), ⟨fun _ _ => rfl, by omega, by omega, by omega, by omega⟩, ⟨hb _ hk, hb _ hkn, hbq⟩, fun h => wher_on hk h, fun h => ⟨fun _ => ⟨hb _ hk, hb _ hkn, hbq⟩, fun _ => ⟨hb _ hk, hb _ hkn, hbq⟩, fun hc => ?_, fun hc => ?_⟩⟩
      · have hc : L.crE (l.g g) (l.g (L.next l.n g)) p = true := hc
        exact ⟨InK.of (by omega) (by omega), g + 1, by rw [hst, hc]; rfl, by omega, rfl, ⟨rfl, fun _ _ => rfl⟩, ⟨by omega, hoff h⟩, by omega⟩
      · have hc : L.crE (l.g g) (l.g (L.next l.n g)) p = false := hc
        exact ⟨InK.of (by omega) (by omega), g + 1, by rw [hst, hc]; rfl, by omega, rfl, ⟨rfl, fun _ _ => rfl⟩, ⟨by omega, hoff h⟩, by omega⟩
    · have hge : ¬ (g : Int) < (l.n : Int) := of_decide_eq_false hge
      obtain rfl : g = l.n := by omega
      have hw := wher_off hg.2
      exact ⟨fun h => by have h : L.par l p l.n = true := h; rw [h] at hw; exact hw, fun h => by have h : L.par l p l.n = false := h; rw [h] at hw; exact hw⟩)
theorem r1_Where_ok : SpecOk Try.prog 47 r1_Where_S := fnX Try.func47 (c := bodyOf Try.f47) (by kernel_rfl) mixed (fun args p r hs hp => by
  unfold r1_Where_s at hs
  split at hs
  · cases hs; exact ⟨_, _, r1_Where_vc _ _ hp.2, (.p (.sl hp.1) (.same _ .nil)), ⟨show SpecsL Try.prog _ from (SpecsL.cons r1_at_ok r1_at_en (SpecsL.cons r1_On_ok r1_On_en (SpecsL.cons r1_Cross_ok r1_Cross_en SpecsL.nil))), rfl, ⟨show ItersL Try.prog _ from ItersL.nil, (TrsOk.none (fun _ => rfl))⟩⟩⟩
  · cases hs)
theorem r1_Where_en : Enters Try.prog 47 := fun args w => by kernel_rfl
theorem r1_Where_I : ∀ args p r, r1_Where_s args = some (p, r) → ∃ n, r = .int .i64 n := by
  intro args p r h
  unfold r1_Where_s at h
  split at h
  · cases h; exact ⟨_, rfl⟩
  · cases h
def r1_Place_p (l : (L.Sq L.Pt)) (p : L.Pt) : Prop := l.n ≤ 1000000
def r1_Place_r (l : (L.Sq L.Pt)) (p : L.Pt) : SV := .tup [.int .i64 (L.plV l p), .int .i64 (L.plE l p)]
def r1_Place_s : List EV → Option (Prop × SV)
  | [.p (.sl 2 l_n l_g), .p (.agg [.int .i64 p_x, .int .i64 p_y])] => some ((∀ i, i < l_n → l_g i = [.int .i64 ((ofPt (l_g i)).x), .int .i64 ((ofPt (l_g i)).y)]) ∧ r1_Place_p (⟨l_n, fun i => ofPt (l_g i)⟩ : (L.Sq L.Pt)) (⟨p_x, p_y⟩ : L.Pt), r1_Place_r (⟨l_n, fun i => ofPt (l_g i)⟩ : (L.Sq L.Pt)) (⟨p_x, p_y⟩ : L.Pt))
  | _ => none
abbrev r1_Place_S : SE.Spec := (specO r1_Place_s)
def r1_Place_C : Cfg := { muts := [], frz := lookN [], specs := lookS [(46, r1_ValidOutline_S), (14, r1_ValidPoint_S), (47, r1_Where_S)], loops := lookL [], iters := lookI [], rfs := lookR [], nils := lookM [] }
theorem r1_Place_vc (l : (L.Sq L.Pt)) (p : L.Pt) (hp : r1_Place_p l p) : vc Try.prog (r1_Place_C) (bodyOf Try.f25) (st0 Try.f25 [.p (.sl 2 l.n (fun i => [.int .i64 ((l.g i).x), .int .i64 ((l.g i).y)])), .p (.agg [.int .i64 p.x, .int .i64 p.y])]) (retFn Try.prog Try.f25 (r1_Place_r l p)) :=
  @Eq.mpr _ (((∀ (i : Nat), i < l.n → [Go.SE.SV.int Go.IntKind.i64 (l.g i).x, Go.SE.SV.int Go.IntKind.i64 (l.g i).y] = [Go.SE.SV.int Go.IntKind.i64 (l.g i).x, Go.SE.SV.int Go.IntKind.i64 (l.g i).y]) ∧ True) ∧ ((!!L.validOutline (L.Sq.mk l.n fun (i : Nat) ↦ l.g i)) = Bool.true → True) ∧ ((bif !L.validOutline (L.Sq.mk l.n fun (i : Nat) ↦ l.g i) then Bool.true else !L.validPt p) = Bool.true → (0 : Int) = L.plV l
 p ∧ (1 : Int) = L.plE l p) ∧ ((bif !L.validOutline (L.Sq.mk l.n fun (i : Nat) ↦ l.g i) then Bool.true else !L.validPt p) = Bool.false → ((∀ (i : Nat), i < l.n → [Go.SE.SV.int Go.IntKind.i64 (l.g i).x, Go.SE.SV.int Go.IntKind.i64 (l.g i).y] = [Go.SE.SV.int Go.IntKind.i64 (l.g i).x, Go.SE.SV.int Go.IntKind.i64 (l.g i).y]) ∧ L.validOutline (L.Sq.mk l.n fun (i : Nat) ↦ l.g i) = Bool.true ∧ L.validPt p
 = Bool.true) ∧ L.wher (L.Sq.mk l.n fun (i : Nat) ↦ l.g i) p = L.plV l p ∧ (0 : Int) = L.plE l p)) (by kernel_rfl) (by
    have _ := hp
    refine ⟨⟨fun _ _ => rfl, trivial⟩, fun _ => trivial, fun h => ?_, fun h => ?_⟩
    · have h : (bif !L.validOutline l then true else !L.validPt p) = true := h
      have e : L.plE l p = 1 := by unfold L.plE; rw [h]; rfl
      unfold L.plV; rw [e]; exact ⟨rfl, rfl⟩
    · have h : (bif !L.validOutline l then true else !L.validPt p) = false := h
      have e : L.plE l p = 0 := by unfold L.plE; rw [h]; rfl
      rw [bor, Bool.or_eq_false_iff] at h
      refine ⟨⟨fun _ _ => rfl, notF h.1, notF h.2⟩, ?_, e.symm⟩
      unfold L.plV; rw [e]; rfl)
theorem r1_Place_ok : SpecOk Try.prog 25 r1_Place_S := fnX Try.func25 (c := bodyOf Try.f25) (by kernel_rfl) mixed (fun args p r hs hp => by
  unfold r1_Place_s at hs
  split at hs
  · cases hs; exact ⟨_, _, r1_Place_vc _ _ hp.2, (.p (.sl hp.1) (.same _ .nil)), ⟨show SpecsL Try.prog _ from (SpecsL.cons r1_ValidOutline_ok r1_ValidOutline_en (SpecsL.cons r1_ValidPoint_ok r1_ValidPoint_en (SpecsL.cons r1_Where_ok r1_Where_en SpecsL.nil))), rfl, ⟨show ItersL Try.prog _ from ItersL.nil, (TrsOk.none (fun _ => rfl))⟩⟩⟩
  · cases hs)
theorem r1_Place_en : Enters Try.prog 25 := fun args w => by kernel_rfl
def w_Places_p (l : (L.Sq L.Pt)) (p : L.Pt) : Prop := l.n ≤ 9223372036854775807
def w_Places_r (l : (L.Sq L.Pt)) (p : L.Pt) : SV := .bool true
def w_Places_s : List EV → Option (Prop × SV)
  | [.p (.sl 2 l_n l_g), .p (.agg [.int .i64 p_x, .int .i64 p_y])] => some ((∀ i, i < l_n → l_g i = [.int .i64 ((ofPt (l_g i)).x), .int .i64 ((ofPt (l_g i)).y)]) ∧ w_Places_p (⟨l_n, fun i => ofPt (l_g i)⟩ : (L.Sq L.Pt)) (⟨p_x, p_y⟩ : L.Pt), w_Places_r (⟨l_n, fun i => ofPt (l_g i)⟩ : (L.Sq L.Pt)) (⟨p_x, p_y⟩ : L.Pt))
  | _ => none
abbrev w_Places_S : SE.Spec := (specO w_Places_s)
def w_Places_C : Cfg := { muts := [], frz := lookN [], specs := lookS [(9, w_awake_S), (24, p_Place_S), (25, r1_Place_S)], loops := lookL [], iters := lookI [], rfs := lookR [], nils := lookM [] }
theorem w_Places_vc (l : (L.Sq L.Pt)) (p : L.Pt) (hp : w_Places_p l p) : vc Try.prog (w_Places_C) (bodyOf Try.f7) (st0 Try.f7 [.p (.sl 2 l.n (fun i => [.int .i64 ((l.g i).x), .int .i64 ((l.g i).y)])), .p (.agg [.int .i64 p.x, .int .i64 p.y])]) (retFn Try.prog Try.f7 (w_Places_r l p)) :=
  @Eq.mpr _ (True ∧ (Decidable.decide ((100 : Int) < (↑l.n : Int)) = Bool.true → Bool.true = Bool.true) ∧ (Decidable.decide ((100 : Int) < (↑l.n : Int)) = Bool.false → ((∀ (i : Nat), i < l.n → [Go.SE.SV.int Go.IntKind.i64 (l.g i).x, Go.SE.SV.int Go.IntKind.i64 (l.g i).y] = [Go.SE.SV.int Go.IntKind.i64 (l.g i).x, Go.SE.SV.int Go.IntKind.i64 (l.g i).y]) ∧ l.n ≤ (1000000 : Nat)) ∧ ((∀ (i : Nat), i < l.n →
 [Go.SE.SV.int Go.IntKind.i64 (l.g i).x, Go.SE.SV.int Go.IntKind.i64 (l.g i).y] = [Go.SE.SV.int Go.IntKind.i64 (l.g i).x, Go.SE.SV.int Go.IntKind.i64 (l.g i).y]) ∧ l.n ≤ (1000000 : Nat)) ∧ (bif bif Bool.true then Decidable.decide (L.plV (L.Sq.mk l.n fun (i : Nat) ↦ l.g i) p = L.plV (L.Sq.mk l.n fun (i : Nat) ↦ l.g i) p) else Bool.false then Decidable.decide (L.plE (L.Sq.mk l.n fun (i : Nat) ↦ l.g
 i) p = L.plE (L.Sq.mk l.n fun (i : Nat) ↦ l.g i) p) else Bool.false) = Bool.true)) (by kernel_rfl) (by
    have _ := hp
    refine ⟨trivial, fun _ => rfl, fun h => ?_⟩
    have h : ¬ (100 : Int) < (l.n : Int) := of_decide_eq_false h
    refine ⟨⟨fun _ _ => rfl, by omega⟩, ⟨fun _ _ => rfl, by omega⟩, ?_⟩
    rw [decide_eq_true rfl, decide_eq_true rfl]; rfl)
theorem w_Places_ok : SpecOk Try.prog 7 w_Places_S := fnX Try.func7 (c := bodyOf Try.f7) (by kernel_rfl) mixed (fun args p r hs hp => by
  unfold w_Places_s at hs
  split at hs
  · cases hs; exact ⟨_, _, w_Places_vc _ _ hp.2, (.p (.sl hp.1) (.same _ .nil)), ⟨show SpecsL Try.prog _ from (SpecsL.cons w_awake_ok w_awake_en (SpecsL.cons p_Place_ok p_Place_en (SpecsL.cons r1_Place_ok r1_Place_en SpecsL.nil))), rfl, ⟨show ItersL Try.prog _ from ItersL.nil, (TrsOk.none (fun _ => rfl))⟩⟩⟩
  · cases hs)
theorem w_Places_en : Enters Try.prog 7 := fun args w => by kernel_rfl
theorem w_Places_B : ∀ args p r, w_Places_s args = some (p, r) → ∃ b, r = .bool b := by
  intro args p r h
  unfold w_Places_s at h
  split at h
  · cases h; exact ⟨_, rfl⟩
  · cases h
end Go.Proofs.Ytkklpamllfkbaaa
