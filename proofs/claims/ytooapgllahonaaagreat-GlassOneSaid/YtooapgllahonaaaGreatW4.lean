/- A symbolic walk over the model, and what it shows of functions of the program: parts of the proof that the text of the row joins. -/
import Derived.Test.YtooapgllahonaaaGreatW3
import Derived.Test.YtooapgllahonaaaGreatE4
import Derived.KernelRfl
import Derived.Test.YtooapgllahonaaaGreatW2

namespace Go.Proofs.YtooapgllahonaaaGreat
open Go.SE Go.RowKit
set_option maxRecDepth 100000
set_option maxHeartbeats 4000000
set_option linter.unusedVariables false
attribute [local irreducible] vc

def L.pick4 (a b c d : L.Pt) (i : Nat) : L.Pt := bif decide (i = 0) then a else bif decide (i = 1) then b else bif decide (i = 2) then c else d
def L.onB (a b c d p : L.Pt) : Bool := L.on a b p && L.on c d p
def L.cm (a b c d : L.Pt) : Nat → L.Sq L.Pt
  | 0 => L.no
  | n + 1 => L.putIf (L.onB a b c d (L.pick4 a b c d n)) (L.cm a b c d n) (L.pick4 a b c d n)
theorem on_left {a b : L.Pt} : L.on a b a = true := by
  unfold L.on
  rw [Bool.and_eq_true, Bool.and_eq_true, within_iff, within_iff]
  refine ⟨⟨decide_eq_true ?_, by omega⟩, by omega⟩
  unfold L.cross; simp
theorem on_right {a b : L.Pt} : L.on a b b = true := by
  unfold L.on
  rw [Bool.and_eq_true, Bool.and_eq_true, within_iff, within_iff]
  refine ⟨⟨decide_eq_true ?_, by omega⟩, by omega⟩
  unfold L.cross; rw [Int.mul_comm]; omega
theorem cm_eq {a b c d : L.Pt} : L.cm a b c d 4 = L.k2 a b c d 2 := by
  have h1 : L.onB a b c d a = L.on c d a := by unfold L.onB; rw [on_left]; rfl
  have h2 : L.onB a b c d b = L.on c d b := by unfold L.onB; rw [on_right]; rfl
  have h3 : L.onB a b c d c = L.on a b c := by unfold L.onB; rw [on_left (a := c), Bool.and_true]
  have h4 : L.onB a b c d d = L.on a b d := by unfold L.onB; rw [on_right (a := c), Bool.and_true]
  show L.putIf (L.onB a b c d d) (L.putIf (L.onB a b c d c) (L.putIf (L.onB a b c d b) (L.putIf (L.onB a b c d a) L.no a) b) c) d = _
  rw [h1, h2, h3, h4]; rfl
theorem same_sym (p q : L.Pt) : L.same p q = L.same q p := by
  unfold L.same
  rw [show decide (p.x = q.x) = decide (q.x = p.x) from by by_cases h : p.x = q.x <;> simp [h, eq_comm], show decide (p.y = q.y) = decide (q.y = p.y) from by by_cases h : p.y = q.y <;> simp [h, eq_comm]]
theorem put_n {ks : L.Sq L.Pt} {p : L.Pt} : (L.put ks p).n ≤ ks.n + 1 := by
  unfold L.put
  cases L.has ks p
  · exact Nat.le_refl _
  · exact Nat.le_succ _
theorem cm_n {a b c d : L.Pt} : ∀ {i : Nat}, (L.cm a b c d i).n ≤ i
  | 0 => Nat.le_refl _
  | i + 1 => by
    have ih := cm_n (a := a) (b := b) (c := c) (d := d) (i := i)
    rw [L.cm]
    cases L.onB a b c d (L.pick4 a b c d i)
    · exact Nat.le_trans ih (Nat.le_succ _)
    · exact Nat.le_trans put_n (Nat.succ_le_succ ih)
theorem corner_eq {l : L.Sq L.Pt} {k : Nat} : (bif bif decide (0 < (k : Int)) then !decide (L.cmpPt (l.g 0) (l.g k) < 0) else false then true else decide (L.cross (l.g (L.prev l.n k)) (l.g k) (l.g (L.next l.n k)) = 0)) = !L.corner l k := by
  unfold L.corner
  have : decide (0 ≤ L.cmpPt (l.g 0) (l.g k)) = !decide (L.cmpPt (l.g 0) (l.g k) < 0) := by
    by_cases h : L.cmpPt (l.g 0) (l.g k) < 0
    · rw [decide_eq_true h, decide_eq_false (by omega)]; rfl
    · rw [decide_eq_false h, decide_eq_true (by omega)]; rfl
  rw [this, Bool.not_not]
  cases decide (0 < (k : Int)) <;> cases decide (L.cmpPt (l.g 0) (l.g k) < 0) <;> cases decide (L.cross (l.g (L.prev l.n k)) (l.g k) (l.g (L.next l.n k)) = 0) <;> rfl
def r1_meet_p (a : L.Pt) (b : L.Pt) (c : L.Pt) (d : L.Pt) : Prop := L.bd a ∧ L.bd b ∧ L.bd c ∧ L.bd d
def r1_meet_r (a : L.Pt) (b : L.Pt) (c : L.Pt) (d : L.Pt) : SV := .int .i64 (L.meet a b c d)
def r1_meet_s : List EV → Option (Prop × SV)
  | [.p (.agg [.int .i64 a_x, .int .i64 a_y]), .p (.agg [.int .i64 b_x, .int .i64 b_y]), .p (.agg [.int .i64 c_x, .int .i64 c_y]), .p (.agg [.int .i64 d_x, .int .i64 d_y])] => some (r1_meet_p (⟨a_x, a_y⟩ : L.Pt) (⟨b_x, b_y⟩ : L.Pt) (⟨c_x, c_y⟩ : L.Pt) (⟨d_x, d_y⟩ : L.Pt), r1_meet_r (⟨a_x, a_y⟩ : L.Pt) (⟨b_x, b_y⟩ : L.Pt) (⟨c_x, c_y⟩ : L.Pt) (⟨d_x, d_y⟩ : L.Pt))
  | _ => none
abbrev r1_meet_S : SE.Spec := (specO r1_meet_s)
def r1_meet_C : Cfg := { muts := [], frz := lookN [], specs := lookS [(190, r1_On_S), (93, r1_Cross_S), (95, r1_sign_S)], loops := fun _ => none, iters := lookI [], rfs := lookR [], nils := lookM [(2, [(9, 20, 42, 2)])] }
theorem r1_meet_vc (a : L.Pt) (b : L.Pt) (c : L.Pt) (d : L.Pt) (hp : r1_meet_p a b c d) : vc Tryz.prog ({ r1_meet_C with loops := lookL [(4, { T := Nat, keep := [4, 5, 6, 7, 9], keepO := [], chg := fun i => [(10, .p (.sl 2 4 (fun j => [.int .i64 ((L.pick4 a b c d j).x), .int .i64 ((L.pick4 a b c d j).y)]))), (11, .p (.int .i64 (i : Int)))], own := fun i => [(20, .row 42 2 (L.cm a b c d i).n (fun j => [.int .i64 (((L.cm a b c d i).g j).x), .int .i64 (((L.cm a b c d i).g j).y)]))], inv := fun i => i ≤ 4, mu := fun i => 4 - i }), (9, { T := Nat × Nat, keep := [4, 5, 6, 7, 9, 10, 11], keepO := [], tie := fun g => [(11, .int .i64 (g.1 : Int))], chg := fun g => [(12, .p (.bool (L.anyB g.2 (fun j => L.same ((L.cm a b c d g.1).g j) (L.pick4 a b c d g.1))))), (13, .p (.int .i64 (g.2 : Int)))], own := fun g => [(20, .row 42 2 (L.cm a b c d g.1).n (fun j => [.int .i64 (((L.cm a b c d g.1).g j).x), .int .i64 (((L.cm a b c d g.1).g j).y)]))], inv := fun g => g.1 < 4 ∧ g.2 ≤ (L.cm a b c d g.1).n, mu := fun g => (L.cm a b c d g.1).n - g.2 })], rfs := lookR [] }) (bodyOf Tryz.f154) (st0 Tryz.f154 [.p (.agg [.int .i64 a.x, .int .i64 a.y]), .p (.agg [.int .i64 b.x, .int .i64 b.y]), .p (.agg [.int .i64 c.x, .int .i64 c.y]), .p (.agg [.int .i64 d.x, .int .i64 d.y])]) (retFn Tryz.prog Tryz.f154 (r1_meet_r a b c d)) :=
  @Eq.mpr _ ((∃ (g : Nat), (nat_lit 4 = (4 : Nat) ∧ ∀ (i : Nat), i < nat_lit 4 → rowsOf [SV.int .i64 a.x, SV.int .i64 a.y, SV.int .i64 b.x, SV.int .i64 b.y, SV.int .i64 c.x, SV.int .i64 c.y, SV.int .i64 d.x, SV.int .i64 d.y] (nat_lit 2) i = [SV.int .i64 (L.pick4
 a b c d i).x, SV.int .i64 (L.pick4 a b c d i).y]) ∧ (0 : Int) = (↑g : Int) ∧ (nat_lit 0 = (L.cm a b c d g).n ∧ ∀ (i : Nat), i < nat_lit 0 → [] = [SV.int .i64 ((L.cm a b c d g).g i).x, SV.int .i64 ((L.cm a b c d g).g i).y]) ∧ g ≤ (4 : Nat)) ∧ ∀ (g : Nat), g ≤ (4 : Nat) → (decide ((↑g : Int) < (4 : Int)) = true → ((0 : Int) ≤ (↑g : Int)
 ∧ (↑g : Int) < (↑(nat_lit 4) : Int)) ∧ (L.bd a ∧ L.bd b ∧ L.bd (L.pick4 a b c d (Int.toNat (↑g : Int)))) ∧ ((!!L.on a b (L.pick4 a b c d (Int.toNat (↑g : Int)))) = true → (0 : Int) ≤ (↑g : Int) ∧ (↑g : Int) < (↑(nat_lit 4) : Int)) ∧ ((!!L.on a b (L.pick4 a b c d (Int.toNat (↑g : Int)))) = true → L.bd c ∧ L.bd d ∧ L.bd (L.pick4 a b c d (Int.toNat (↑g : Int)))) ∧ ((bif !L.on a b (L.pick4 a
 b c d (Int.toNat (↑g : Int))) then true else !L.on c d (L.pick4 a b c d (Int.toNat (↑g : Int)))) = true → InK .i64 ((↑g : Int) + (1 : Int)) ∧ ∃ (g' : Nat), (nat_lit 4 = (4 : Nat) ∧ ∀ (i : Nat), i < nat_lit 4 → [SV.int .i64 (L.pick4 a b c d i).x, SV.int .i64 (L.pick4 a b c d i).y] = [SV.int .i64 (L.pick4 a b c d i).x,
 SV.int .i64 (L.pick4 a b c d i).y]) ∧ (↑g : Int) + (1 : Int) = (↑g' : Int) ∧ SV.ref [SV.int .i64 d.x, SV.int .i64 d.y] (nat_lit 0) = SV.ref [SV.int .i64 d.x, SV.int .i64 d.y] (nat_lit 0) ∧ SV.ref [SV.int .i64 c.x, SV.int .i64 c.y] (nat_lit 0) = SV.ref
 [SV.int .i64 c.x, SV.int .i64 c.y] (nat_lit 0) ∧ SV.ref [SV.int .i64 b.x, SV.int .i64 b.y] (nat_lit 0) = SV.ref [SV.int .i64 b.x, SV.int .i64 b.y] (nat_lit 0) ∧ SV.ref [SV.int .i64 a.x, SV.int .i64 a.y] (nat_lit 0) = SV.ref [SV.int
 .i64 a.x, SV.int .i64 a.y] (nat_lit 0) ∧ ((L.cm a b c d g).n = (L.cm a b c d g').n ∧ ∀ (i : Nat), i < (L.cm a b c d g).n → [SV.int .i64 ((L.cm a b c d g).g i).x, SV.int .i64 ((L.cm a b c d g).g i).y] = [SV.int .i64 ((L.cm a b c d g').g i).x, SV.int .i64 ((L.cm a b c d g').g i).y]) ∧ g' ≤ (4 : Nat) ∧ (4 : Nat)
 - g' < (4 : Nat) - g) ∧ ((bif !L.on a b (L.pick4 a b c d (Int.toNat (↑g : Int))) then true else !L.on c d (L.pick4 a b c d (Int.toNat (↑g : Int)))) = false → (∃ (g_1 : Nat × Nat), (false = L.anyB g_1.2 fun (j : Nat) ↦ L.same ((L.cm a b c d g_1.1).g j) (L.pick4 a b c d g_1.1)) ∧ (0 : Int) = (↑g_1.2 : Int) ∧ ((L.cm a b c d g).n = (L.cm a b c d g_1.1).n ∧ ∀ (i : Nat), i < (L.cm a b c d
 g).n → [SV.int .i64 ((L.cm a b c d g).g i).x, SV.int .i64 ((L.cm a b c d g).g i).y] = [SV.int .i64 ((L.cm a b c d g_1.1).g i).x, SV.int .i64 ((L.cm a b c d g_1.1).g i).y]) ∧ (↑g : Int) = (↑g_1.1 : Int) ∧ g_1.1 < (4 : Nat) ∧ g_1.2 ≤ (L.cm a b c d g_1.1).n) ∧ ∀ (g_1 : Nat × Nat), (↑g : Int) = (↑g_1.1 : Int) ∧ g_1.1 < (4 : Nat) ∧ g_1.2 ≤
 (L.cm a b c d g_1.1).n → (decide ((↑g_1.2 : Int) < (↑(L.cm a b c d g_1.1).n : Int)) = true → ((!L.anyB g_1.2 fun (j : Nat) ↦ L.same ((L.cm a b c d g_1.1).g j) (L.pick4 a b c d g_1.1)) = true → (0 : Int) ≤ (↑g_1.2 : Int) ∧ (↑g_1.2 : Int) < (↑(L.cm a b c d g_1.1).n : Int)) ∧ ((!L.anyB g_1.2 fun (j : Nat) ↦ L.same ((L.cm a b c d g_1.1).g j) (L.pick4 a b c d g_1.1)) = true →
 Int.toNat (↑g_1.2 : Int) < (L.cm a b c d g_1.1).n) ∧ ((!L.anyB g_1.2 fun (j : Nat) ↦ L.same ((L.cm a b c d g_1.1).g j) (L.pick4 a b c d g_1.1)) = true → (0 : Int) ≤ (↑g : Int) ∧ (↑g : Int) < (↑(nat_lit 4) : Int)) ∧ InK .i64 ((↑g_1.2 : Int) + (1 : Int)) ∧ ∃ (g' : Nat × Nat), ((bif L.anyB g_1.2 fun (j : Nat) ↦ L.same ((L.cm a b c d g_1.1).g j) (L.pick4 a b c d g_1.1) then
 true else decide (((L.cm a b c d g_1.1).g (Int.toNat (↑g_1.2 : Int))).x = (L.pick4 a b c d (Int.toNat (↑g : Int))).x) && decide (((L.cm a b c d g_1.1).g (Int.toNat (↑g_1.2 : Int))).y = (L.pick4 a b c d (Int.toNat (↑g : Int))).y)) = L.anyB g'.2 fun (j : Nat) ↦ L.same ((L.cm a b c d g'.1).g j) (L.pick4 a b c d g'.1)) ∧ (↑g_1.2 : Int) + (1 : Int) = (↑g'.2 : Int) ∧ (nat_lit 4
 = nat_lit 4 ∧ ∀ (i : Nat), i < nat_lit 4 → [SV.int .i64 (L.pick4 a b c d i).x, SV.int .i64 (L.pick4 a b c d i).y] = [SV.int .i64 (L.pick4 a b c d i).x, SV.int .i64 (L.pick4 a b c d i).y]) ∧ (↑g : Int) = (↑g : Int) ∧ SV.ref [SV.int .i64 d.x, SV.int .i64 d.y] (nat_lit 0) = SV.ref [SV.int
 .i64 d.x, SV.int .i64 d.y] (nat_lit 0) ∧ SV.ref [SV.int .i64 c.x, SV.int .i64 c.y] (nat_lit 0) = SV.ref [SV.int .i64 c.x, SV.int .i64 c.y] (nat_lit 0) ∧ SV.ref [SV.int .i64 b.x, SV.int .i64 b.y] (nat_lit 0) = SV.ref [SV.int .i64 b.x,
 SV.int .i64 b.y] (nat_lit 0) ∧ SV.ref [SV.int .i64 a.x, SV.int .i64 a.y] (nat_lit 0) = SV.ref [SV.int .i64 a.x, SV.int .i64 a.y] (nat_lit 0) ∧ ((L.cm a b c d g_1.1).n = (L.cm a b c d g'.1).n ∧ ∀ (i : Nat), i < (L.cm a b c d g_1.1).n → [SV.int .i64 ((L.cm a b c d g_1.1).g i).x, SV.int
 .i64 ((L.cm a b c d g_1.1).g i).y] = [SV.int .i64 ((L.cm a b c d g'.1).g i).x, SV.int .i64 ((L.cm a b c d g'.1).g i).y]) ∧ ((↑g : Int) = (↑g'.1 : Int) ∧ g'.1 < (4 : Nat) ∧ g'.2 ≤ (L.cm a b c d g'.1).n) ∧ (L.cm a b c d g'.1).n - g'.2 < (L.cm a b c d g_1.1).n - g_1.2) ∧ (decide ((↑g_1.2 : Int) < (↑(L.cm a b c d g_1.1).n : Int)) = false →
 ((!L.anyB g_1.2 fun (j : Nat) ↦ L.same ((L.cm a b c d g_1.1).g j) (L.pick4 a b c d g_1.1)) = true → ((0 : Int) ≤ (↑g : Int) ∧ (↑g : Int) < (↑(nat_lit 4) : Int)) ∧ ((L.cm a b c d g_1.1).n + nat_lit 1) * nat_lit 16 ≤ (140737488355328 : Nat) ∧ InK .i64 ((↑g : Int) + (1 : Int)) ∧ ∃ (g' : Nat), (nat_lit 4 = (4 : Nat) ∧ ∀ (i : Nat), i < nat_lit 4 → [SV.int .i64
 (L.pick4 a b c d i).x, SV.int .i64 (L.pick4 a b c d i).y] = [SV.int .i64 (L.pick4 a b c d i).x, SV.int .i64 (L.pick4 a b c d i).y]) ∧ (↑g : Int) + (1 : Int) = (↑g' : Int) ∧ SV.ref [SV.int .i64 d.x, SV.int .i64 d.y] (nat_lit 0) = SV.ref [SV.int .i64 d.x, SV.int .i64 d.y]
 (nat_lit 0) ∧ SV.ref [SV.int .i64 c.x, SV.int .i64 c.y] (nat_lit 0) = SV.ref [SV.int .i64 c.x, SV.int .i64 c.y] (nat_lit 0) ∧ SV.ref [SV.int .i64 b.x, SV.int .i64 b.y] (nat_lit 0) = SV.ref [SV.int .i64 b.x, SV.int .i64 b.y] (nat_lit 0) ∧
 SV.ref [SV.int .i64 a.x, SV.int .i64 a.y] (nat_lit 0) = SV.ref [SV.int .i64 a.x, SV.int .i64 a.y] (nat_lit 0) ∧ ((L.cm a b c d g_1.1).n + nat_lit 1 = (L.cm a b c d g').n ∧ ∀ (i : Nat), i < (L.cm a b c d g_1.1).n + nat_lit 1 → appGet (L.cm a b c d g_1.1).n (fun (j : Nat) ↦ [SV.int .i64 ((L.cm a b c d
 g_1.1).g j).x, SV.int .i64 ((L.cm a b c d g_1.1).g j).y]) (fun (x : Nat) ↦ [SV.int .i64 (L.pick4 a b c d (Int.toNat (↑g : Int))).x, SV.int .i64 (L.pick4 a b c d (Int.toNat (↑g : Int))).y]) i = [SV.int .i64 ((L.cm a b c d g').g i).x, SV.int .i64 ((L.cm a b c d g').g i).y]) ∧ g' ≤ (4 : Nat) ∧ (4 : Nat) - g' < (4 : Nat) -
 g) ∧ ((!L.anyB g_1.2 fun (j : Nat) ↦ L.same ((L.cm a b c d g_1.1).g j) (L.pick4 a b c d g_1.1)) = false → InK .i64 ((↑g : Int) + (1 : Int)) ∧ ∃ (g' : Nat), (nat_lit 4 = (4 : Nat) ∧ ∀ (i : Nat), i < nat_lit 4 → [SV.int .i64 (L.pick4 a b c d i).x, SV.int .i64 (L.pick4 a b c d i).y] = [SV.int .i64 (L.pick4 a b c d i).x, SV.int
 .i64 (L.pick4 a b c d i).y]) ∧ (↑g : Int) + (1 : Int) = (↑g' : Int) ∧ SV.ref [SV.int .i64 d.x, SV.int .i64 d.y] (nat_lit 0) = SV.ref [SV.int .i64 d.x, SV.int .i64 d.y] (nat_lit 0) ∧ SV.ref [SV.int .i64 c.x, SV.int .i64 c.y] (nat_lit 0) = SV.ref [SV.int
 .i64 c.x, SV.int .i64 c.y] (nat_lit 0) ∧ SV.ref [SV.int .i64 b.x, SV.int .i64 b.y] (nat_lit 0) = SV.ref [SV.int .i64 b.x, SV.int .i64 b.y] (nat_lit 0) ∧ SV.ref [SV.int .i64 a.x, SV.int .i64 a.y] (nat_lit 0) = SV.ref [SV.int .i64 a.x,
 SV.int .i64 a.y] (nat_lit 0) ∧ ((L.cm a b c d g_1.1).n = (L.cm a b c d g').n ∧ ∀ (i : Nat), i < (L.cm a b c d g_1.1).n → [SV.int .i64 ((L.cm a b c d g_1.1).g i).x, SV.int .i64 ((L.cm a b c d g_1.1).g i).y] = [SV.int .i64 ((L.cm a b c d g').g i).x, SV.int .i64 ((L.cm a b c d g').g i).y]) ∧ g' ≤ (4 : Nat) ∧ (4 : Nat) -
 g' < (4 : Nat) - g)))) ∧ (decide ((↑g : Int) < (4 : Int)) = false → (decide ((1 : Int) < (↑(L.cm a b c d g).n : Int)) = true → (3 : Int) = L.meet a b c d) ∧ (decide ((1 : Int) < (↑(L.cm a b c d g).n : Int)) = false → (decide ((↑(L.cm a b c d g).n : Int) = (1 : Int)) = true → (1 : Int) = L.meet a b c d) ∧ (decide ((↑(L.cm a b c d
 g).n : Int) = (1 : Int)) = false → (L.bd a ∧ L.bd b ∧ L.bd c) ∧ True ∧ (L.bd a ∧ L.bd b ∧ L.bd d) ∧ True ∧ InK .i64 (L.cmp (L.cross a b c) (0 : Int) * L.cmp (L.cross a b d) (0 : Int)) ∧ (decide (L.cmp (L.cross a b c) (0 : Int) * L.cmp (L.cross a b d) (0 : Int) < (0 : Int)) = true → L.bd c ∧ L.bd d ∧ L.bd a) ∧ (decide (L.cmp (L.cross a b c) (0 : Int) *
 L.cmp (L.cross a b d) (0 : Int) < (0 : Int)) = true → True) ∧ (decide (L.cmp (L.cross a b c) (0 : Int) * L.cmp (L.cross a b d) (0 : Int) < (0 : Int)) = true → L.bd c ∧ L.bd d ∧ L.bd b) ∧ (decide (L.cmp (L.cross a b c) (0 : Int) * L.cmp (L.cross a b d) (0 : Int) < (0 : Int)) = true → True) ∧ (decide (L.cmp (L.cross a b c) (0 : Int) * L.cmp (L.cross a b
 d) (0 : Int) < (0 : Int)) = true → InK .i64 (L.cmp (L.cross c d a) (0 : Int) * L.cmp (L.cross c d b) (0 : Int))) ∧ ((bif decide (L.cmp (L.cross a b c) (0 : Int) * L.cmp (L.cross a b d) (0 : Int) < (0 : Int)) then decide (L.cmp (L.cross c d a) (0 : Int) * L.cmp (L.cross c d b) (0 : Int) < (0 : Int)) else false) = true → (2 : Int) = L.meet a b c d)
 ∧ ((bif decide (L.cmp (L.cross a b c) (0 : Int) * L.cmp (L.cross a b d) (0 : Int) < (0 : Int)) then decide (L.cmp (L.cross c d a) (0 : Int) * L.cmp (L.cross c d b) (0 : Int) < (0 : Int)) else false) = false → (0 : Int) = L.meet a b c d))))) (by kernel_rfl) (by
    obtain ⟨ha, hb, hc, hd⟩ := hp
    have hp4 : ∀ i, L.bd (L.pick4 a b c d i) := fun i => by
      unfold L.pick4
      cases decide (i = 0) <;> cases decide (i = 1) <;> cases decide (i = 2) <;> assumption
    refine ⟨⟨(0 : Nat), ⟨rfl, fun i hi => by match i, hi with | 0, _ => rfl | 1, _ => rfl | 2, _ => rfl | 3, _ => rfl⟩, rfl, ⟨rfl, fun i hi => absurd hi (Nat.not_lt_zero _)⟩, by decide⟩, fun g hg => ⟨fun hlt => ?_, fun hge => ?_⟩⟩
    · have hb1 : (g : Int) < 4 := of_decide_eq_true hlt
      have e0 : ((g : Int)).toNat = g := by omega
      rw [e0]
      refine ⟨⟨by omega, hb1⟩, ⟨ha, hb, hp4 g⟩, fun _ => ⟨by omega, hb1⟩, fun _ => ⟨hc, hd, hp4 g⟩, fun h1 => ?_, fun h1 => ?_⟩
      · have hoff : L.onB a b c d (L.pick4 a b c d g) = false := by
          unfold L.onB
          revert h1
          cases L.on a b (L.pick4 a b c d g) <;> cases L.on c d (L.pick4 a b c d g) <;> intro h1 <;> first | rfl | cases h1
        have e : L.cm a b c d (g + 1) = L.cm a b c d g := by rw [L.cm, hoff]; rfl
        refine ⟨InK.of (by omega) (by omega), g + 1, ⟨rfl, fun _ _ => rfl⟩, by omega, rfl, rfl, rfl, rfl, ?_, by omega, by omega⟩
        rw [e]; exact ⟨rfl, fun _ _ => rfl⟩
      · have hon : L.onB a b c d (L.pick4 a b c d g) = true := by
          unfold L.onB
          revert h1
          cases L.on a b (L.pick4 a b c d g) <;> cases L.on c d (L.pick4 a b c d g) <;> intro h1 <;> first | rfl | cases h1
        refine ⟨⟨(g, 0), rfl, rfl, ⟨rfl, fun _ _ => rfl⟩, rfl, by show g < 4; omega, Nat.zero_le _⟩, ?_⟩
        rintro ⟨g', k⟩ ⟨e1, e2, e3⟩
        have e1 : (g : Int) = (g' : Int) := e1
        obtain rfl : g = g' := by omega
        have e3 : k ≤ (L.cm a b c d g).n := e3
        have ek : ((k : Int)).toNat = k := by omega
        have hcn := cm_n (a := a) (b := b) (c := c) (d := d) (i := g)
        dsimp only
        rw [ek]
        refine ⟨fun hlt2 => ?_, fun hge2 => ?_⟩
        · have hk : (k : Int) < ((L.cm a b c d g).n : Int) := of_decide_eq_true hlt2
          refine ⟨fun _ => ⟨by omega, hk⟩, fun _ => (show k < (L.cm a b c d g).n by omega), fun _ => ⟨by omega, hb1⟩, InK.of (by omega) (by omega), (g, k + 1), ?_, by show (k : Int) + 1 = ((k + 1 : Nat) : Int); omega, ⟨rfl, fun _ _ => rfl⟩, rfl, rfl, rfl, rfl, rfl, ⟨rfl, fun _ _ => rfl⟩, ⟨rfl, by show g < 4; omega, by show k + 1 ≤ (L.cm a b c d g).n; omega⟩, by show (L.cm a b c d g).n - (k + 1) < (L.cm a b c d g).n - k; omega⟩
          rw [bor]; rfl
        · have hk : ¬ (k : Int) < ((L.cm a b c d g).n : Int) := of_decide_eq_false hge2
          obtain rfl : k = (L.cm a b c d g).n := by omega
          have hhas : L.anyB (L.cm a b c d g).n (fun j => L.same ((L.cm a b c d g).g j) (L.pick4 a b c d g)) = L.has (L.cm a b c d g) (L.pick4 a b c d g) :=
            anyB_congr (fun i _ => same_sym _ _)
          rw [hhas]
          refine ⟨fun h2 => ?_, fun h2 => ?_⟩
          · have e : L.cm a b c d (g + 1) = ⟨(L.cm a b c d g).n + 1, fun i => if i < (L.cm a b c d g).n then (L.cm a b c d g).g i else L.pick4 a b c d g⟩ := by
              rw [L.cm, hon]
              show L.put _ _ = _
              unfold L.put; rw [notT h2]; rfl
            refine ⟨⟨by omega, hb1⟩, show ((L.cm a b c d g).n + 1) * 16 ≤ 140737488355328 by omega, InK.of (by omega) (by omega), g + 1, ⟨rfl, fun _ _ => rfl⟩, by omega, rfl, rfl, rfl, rfl, ?_, by omega, by omega⟩
            rw [e]
            refine ⟨rfl, fun i hi => ?_⟩
            unfold appGet
            dsimp only
            by_cases h' : i < (L.cm a b c d g).n
            · rw [if_pos h', if_pos h']
            · rw [if_neg h', if_neg h']
          · have e : L.cm a b c d (g + 1) = L.cm a b c d g := by
              rw [L.cm, hon]
              show L.put _ _ = _
              unfold L.put; rw [notF h2]; rfl
            refine ⟨InK.of (by omega) (by omega), g + 1, ⟨rfl, fun _ _ => rfl⟩, by omega, rfl, rfl, rfl, rfl, ?_, by omega, by omega⟩
            rw [e]; exact ⟨rfl, fun _ _ => rfl⟩
    · have hb1 : ¬ (g : Int) < 4 := of_decide_eq_false hge
      obtain rfl : g = 4 := by omega
      rw [cm_eq]
      have q1 := cmp_bd (L.cross a b c) 0
      have q2 := cmp_bd (L.cross a b d) 0
      have q3 := cmp_bd (L.cross c d a) 0
      have q4 := cmp_bd (L.cross c d b) 0
      have m1 := mul_bd (m := 1) (n := 1) q1.1 q1.2 q2.1 q2.2
      have m2 := mul_bd (m := 1) (n := 1) q3.1 q3.2 q4.1 q4.2
      refine ⟨fun h1 => ?_, fun h1 => ⟨fun h2 => ?_, fun h2 => ⟨⟨ha, hb, hc⟩, trivial, ⟨ha, hb, hd⟩, trivial, InK.of (by omega) (by omega), fun _ => ⟨hc, hd, ha⟩, fun _ => trivial, fun _ => ⟨hc, hd, hb⟩, fun _ => trivial, fun _ => InK.of (by omega) (by omega), fun h3 => ?_, fun h3 => ?_⟩⟩⟩
      · unfold L.meet; rw [h1]; rfl
      · unfold L.meet; rw [h1, h2]; rfl
      · have h3 : (bif L.apart a b c d then L.apart c d a b else false) = true := h3
        unfold L.meet; rw [h1, h2, h3]; rfl
      · have h3 : (bif L.apart a b c d then L.apart c d a b else false) = false := h3
        unfold L.meet; rw [h1, h2, h3]; rfl)
theorem r1_meet_ok : SpecOk Tryz.prog 154 r1_meet_S := fnX Tryz.func154 (c := bodyOf Tryz.f154) (by kernel_rfl) mixed (fun args p r hs hp => by
  unfold r1_meet_s at hs
  split at hs
  · cases hs; exact ⟨_, _, r1_meet_vc _ _ _ _ hp, (.same _ (.same _ (.same _ (.same _ .nil)))), ⟨show SpecsL Tryz.prog _ from (SpecsL.cons r1_On_ok r1_On_en (SpecsL.cons r1_Cross_ok r1_Cross_en (SpecsL.cons r1_sign_ok r1_sign_en SpecsL.nil))), rfl, ⟨show ItersL Tryz.prog _ from ItersL.nil, (TrsOk.none (fun _ => rfl))⟩⟩⟩
  · cases hs)
theorem r1_meet_en : Enters Tryz.prog 154 := fun args w => by kernel_rfl
def r1_simple_p (l : (L.Sq L.Pt)) : Prop := L.allBd l
def r1_simple_r (l : (L.Sq L.Pt)) : SV := .bool (L.simple l)
def r1_simple_s : List EV → Option (Prop × SV)
  | [.p (.sl 2 l_n l_g)] => some ((∀ i, i < l_n → l_g i = [.int .i64 ((ofPt (l_g i)).x), .int .i64 ((ofPt (l_g i)).y)]) ∧ r1_simple_p (⟨l_n, fun i => ofPt (l_g i)⟩ : (L.Sq L.Pt)), r1_simple_r (⟨l_n, fun i => ofPt (l_g i)⟩ : (L.Sq L.Pt)))
  | _ => none
abbrev r1_simple_S : SE.Spec := (specO r1_simple_s)
def r1_simple_C : Cfg := { muts := [], frz := lookN [], specs := lookS [(76, r1_at_S), (154, r1_meet_S)], loops := fun _ => none, iters := lookI [], rfs := lookR [], nils := lookM [] }
theorem r1_simple_vc (l : (L.Sq L.Pt)) (hp : r1_simple_p l) : vc Tryz.prog ({ r1_simple_C with loops := lookL [(3, { T := Nat, keep := [0, 3], keepO := [], chg := fun i => [(4, .p (.int .i64 (i : Int)))], own := fun _ => [], inv := fun i => i ≤ l.n ∧ ∀ j, j < i → ∀ k, j < k → k < l.n → L.okPair l j k = true, mu := fun i => l.n - i }), (6, { T := Nat × Nat, keep := [0, 3, 4], keepO := [], tie := fun i => [(4, .int .i64 (i.1 : Int))], chg := fun i => [(5, .p (.int .i64 (i.2 : Int)))], own := fun _ => [], inv := fun i => i.1 < i.2 ∧ i.2 ≤ l.n ∧ (∀ j, j < i.1 → ∀ k, j < k → k < l.n → L.okPair l j k = true) ∧ ∀ k, i.1 < k → k < i.2 → L.okPair l i.1 k = true, mu := fun i => l.n - i.2 })], rfs := lookR [] }) (bodyOf Tryz.f87) (st0 Tryz.f87 [.p (.sl 2 l.n (fun i => [.int .i64 ((l.g i).x), .int .i64 ((l.g i).y)]))]) (retFn Tryz.prog Tryz.f87 (r1_simple_r l)) :=
  @Eq.mpr _ ((∃ (g : Nat), (0 : Int) = (↑g : Int) ∧ g ≤ l.n ∧ ∀ (j : Nat), j < g → ∀ (k : Nat), j < k → k < l.n → L.okPair l j k = true) ∧ ∀ (g : Nat), (g ≤ l.n ∧ ∀ (j : Nat), j < g → ∀ (k : Nat), j < k → k < l.n → L.okPair l j k = true) → (decide ((↑g : Int) < (↑l.n : Int)) = true → InK .i64 ((↑g : Int) + (1 : Int)) ∧ (∃ (g_1 : Nat × Nat), (↑g : Int) + (1 : Int) =
 (↑g_1.2 : Int) ∧ (↑g : Int) = (↑g_1.1 : Int) ∧ g_1.1 < g_1.2 ∧ g_1.2 ≤ l.n ∧ (∀ (j : Nat), j < g_1.1 → ∀ (k : Nat), j < k → k < l.n → L.okPair l j k = true) ∧ ∀ (k : Nat), g_1.1 < k → k < g_1.2 → L.okPair l g_1.1 k = true) ∧ ∀ (g_1 : Nat × Nat), ((↑g : Int) = (↑g_1.1 : Int) ∧ g_1.1 < g_1.2 ∧ g_1.2 ≤ l.n ∧ (∀ (j : Nat), j < g_1.1 → ∀ (k : Nat), j < k → k < l.n → L.okPair l j k =
 true) ∧ ∀ (k : Nat), g_1.1 < k → k < g_1.2 → L.okPair l g_1.1 k = true) → (decide ((↑g_1.2 : Int) < (↑l.n : Int)) = true → ((∀ (i : Nat), i < l.n → [SV.int .i64 (l.g i).x, SV.int .i64 (l.g i).y] = [SV.int .i64 (l.g i).x, SV.int .i64 (l.g i).y]) ∧ (1 : Nat) ≤ l.n ∧ l.n ≤ (1000000 : Nat) ∧ (-1000000 : Int) ≤ (↑g
 : Int) ∧ (↑g : Int) ≤ (1000000 : Int)) ∧ InK .i64 ((↑g : Int) + (1 : Int)) ∧ ((∀ (i : Nat), i < l.n → [SV.int .i64 (l.g i).x, SV.int .i64 (l.g i).y] = [SV.int .i64 (l.g i).x, SV.int .i64 (l.g i).y]) ∧ (1 : Nat) ≤ l.n ∧ l.n ≤ (1000000 : Nat) ∧ (-1000000 : Int) ≤ (↑g : Int) + (1 : Int) ∧ (↑g : Int) + (1 : Int) ≤ (1000000
 : Int)) ∧ ((∀ (i : Nat), i < l.n → [SV.int .i64 (l.g i).x, SV.int .i64 (l.g i).y] = [SV.int .i64 (l.g i).x, SV.int .i64 (l.g i).y]) ∧ (1 : Nat) ≤ l.n ∧ l.n ≤ (1000000 : Nat) ∧ (-1000000 : Int) ≤ (↑g_1.2 : Int) ∧ (↑g_1.2 : Int) ≤ (1000000 : Int)) ∧ InK .i64 ((↑g_1.2 : Int) + (1 : Int)) ∧ ((∀ (i : Nat), i < l.n →
 [SV.int .i64 (l.g i).x, SV.int .i64 (l.g i).y] = [SV.int .i64 (l.g i).x, SV.int .i64 (l.g i).y]) ∧ (1 : Nat) ≤ l.n ∧ l.n ≤ (1000000 : Nat) ∧ (-1000000 : Int) ≤ (↑g_1.2 : Int) + (1 : Int) ∧ (↑g_1.2 : Int) + (1 : Int) ≤ (1000000 : Int)) ∧ (L.bd (l.g (L.ix l.n (↑g : Int))) ∧ L.bd (l.g (L.ix l.n ((↑g : Int) + (1 : Int)))) ∧ L.bd (l.g
 (L.ix l.n (↑g_1.2 : Int))) ∧ L.bd (l.g (L.ix l.n ((↑g_1.2 : Int) + (1 : Int))))) ∧ InK .i64 ((↑g : Int) + (1 : Int)) ∧ ((!decide ((↑g_1.2 : Int) = (↑g : Int) + (1 : Int)) && decide ((↑g : Int) = (0 : Int))) = true → InK .i64 ((↑l.n : Int) - (1 : Int))) ∧ ((bif bif bif decide ((↑g_1.2 : Int) = (↑g : Int) + (1 : Int)) then true
 else bif decide ((↑g : Int) = (0 : Int)) then decide ((↑g_1.2 : Int) = (↑l.n : Int) - (1 : Int)) else false then !decide (L.meet (l.g (L.ix l.n (↑g : Int))) (l.g (L.ix l.n ((↑g : Int) + (1 : Int)))) (l.g (L.ix l.n (↑g_1.2 : Int))) (l.g (L.ix l.n ((↑g_1.2 : Int) + (1 : Int)))) = (1 : Int)) else false then true else bif !bif decide ((↑g_1.2 :
 Int) = (↑g : Int) + (1 : Int)) then true else bif decide ((↑g : Int) = (0 : Int)) then decide ((↑g_1.2 : Int) = (↑l.n : Int) - (1 : Int)) else false then !decide (L.meet (l.g (L.ix l.n (↑g : Int))) (l.g (L.ix l.n ((↑g : Int) + (1 : Int)))) (l.g (L.ix l.n (↑g_1.2 : Int))) (l.g (L.ix l.n ((↑g_1.2 : Int) + (1 : Int)))) = (0 : Int)) else false) = true
 → false = L.simple l) ∧ ((bif bif bif decide ((↑g_1.2 : Int) = (↑g : Int) + (1 : Int)) then true else bif decide ((↑g : Int) = (0 : Int)) then decide ((↑g_1.2 : Int) = (↑l.n : Int) - (1 : Int)) else false then !decide (L.meet (l.g (L.ix l.n (↑g : Int))) (l.g (L.ix l.n ((↑g : Int) + (1 : Int)))) (l.g (L.ix l.n (↑g_1.2 : Int))) (l.g (L.ix l.n
 ((↑g_1.2 : Int) + (1 : Int)))) = (1 : Int)) else false then true else bif !bif decide ((↑g_1.2 : Int) = (↑g : Int) + (1 : Int)) then true else bif decide ((↑g : Int) = (0 : Int)) then decide ((↑g_1.2 : Int) = (↑l.n : Int) - (1 : Int)) else false then !decide (L.meet (l.g (L.ix l.n (↑g : Int))) (l.g (L.ix l.n ((↑g : Int) + (1 : Int))))
 (l.g (L.ix l.n (↑g_1.2 : Int))) (l.g (L.ix l.n ((↑g_1.2 : Int) + (1 : Int)))) = (0 : Int)) else false) = false → InK .i64 ((↑g_1.2 : Int) + (1 : Int)) ∧ ∃ (g' : Nat × Nat), (↑g_1.2 : Int) + (1 : Int) = (↑g'.2 : Int) ∧ (↑g : Int) = (↑g : Int) ∧ (↑l.n : Int) = (↑l.n : Int) ∧ (l.n = l.n ∧ ∀ (i : Nat), i < l.n → [SV.int .i64 (l.g i).x, SV.int
 .i64 (l.g i).y] = [SV.int .i64 (l.g i).x, SV.int .i64 (l.g i).y]) ∧ ((↑g : Int) = (↑g'.1 : Int) ∧ g'.1 < g'.2 ∧ g'.2 ≤ l.n ∧ (∀ (j : Nat), j < g'.1 → ∀ (k : Nat), j < k → k < l.n → L.okPair l j k = true) ∧ ∀ (k : Nat), g'.1 < k → k < g'.2 → L.okPair l g'.1 k = true) ∧ l.n - g'.2 < l.n - g_1.2)) ∧ (decide ((↑g_1.2 : Int) < (↑l.n : Int))
 = false → InK .i64 ((↑g : Int) + (1 : Int)) ∧ ∃ (g' : Nat), (↑g : Int) + (1 : Int) = (↑g' : Int) ∧ (↑l.n : Int) = (↑l.n : Int) ∧ (l.n = l.n ∧ ∀ (i : Nat), i < l.n → [SV.int .i64 (l.g i).x, SV.int .i64 (l.g i).y] = [SV.int .i64 (l.g i).x, SV.int .i64 (l.g i).y]) ∧ (g' ≤ l.n ∧ ∀ (j : Nat), j < g' → ∀ (k : Nat), j <
 k → k < l.n → L.okPair l j k = true) ∧ l.n - g' < l.n - g)) ∧ (decide ((↑g : Int) < (↑l.n : Int)) = false → true = L.simple l)) (by kernel_rfl) (by
    obtain ⟨hn, hb⟩ := hp
    have fin0 : ∀ {i k : Nat}, i < k → k < l.n → L.okPair l i k = false → false = L.simple l := fun {i k} hik hk h => by
      unfold L.simple
      rw [allB_false (i := i) (by omega) (allB_false (i := k) hk (by simp [hik, h]))]
    refine ⟨⟨(0 : Nat), rfl, Nat.zero_le _, fun j hj => absurd hj (Nat.not_lt_zero _)⟩, fun g hg => ⟨fun hlt => ?_, fun hge => ?_⟩⟩
    · have hb1 : (g : Int) < (l.n : Int) := of_decide_eq_true hlt
      refine ⟨InK.of (by omega) (by omega), ⟨(g, g + 1), by show (g : Int) + 1 = ((g + 1 : Nat) : Int); omega, rfl, Nat.lt_succ_self g, by show g + 1 ≤ l.n; omega, hg.2, fun k h1 h2 => ?_⟩, ?_⟩
      · have h1 : g < k := h1
        have h2 : k < g + 1 := h2
        omega
      rintro ⟨i, k⟩ ⟨e1, hik, hkn, h0, h1⟩
      have e1 : (g : Int) = (i : Int) := e1
      obtain rfl : g = i := by omega
      have hik : g < k := hik
      have hkn : k ≤ l.n := hkn
      have h0 : ∀ j, j < g → ∀ k, j < k → k < l.n → L.okPair l j k = true := h0
      have h1 : ∀ m, g < m → m < k → L.okPair l g m = true := h1
      dsimp only
      refine ⟨fun hlt2 => ?_, fun hge2 => ?_⟩
      · have hk : (k : Int) < (l.n : Int) := of_decide_eq_true hlt2
        have c5 : L.next l.n k < l.n := next_lt (by omega)
        have c2 : L.ix l.n ((g : Int) + 1) = g + 1 := by
          rw [show (g : Int) + 1 = ((g + 1 : Nat) : Int) by omega, ix_self (by omega)]
        rw [ix_self (n := l.n) (k := g) (by omega), c2, ix_self (n := l.n) (k := k) (by omega), ix_next (n := l.n) (k := k) (by omega)]
        have key : (bif (bif (bif decide ((k : Int) = (g : Int) + 1) then true else bif decide ((g : Int) = 0) then decide ((k : Int) = (l.n : Int) - 1) else false) then !decide (L.meet (l.g g) (l.g (g + 1)) (l.g k) (l.g (L.next l.n k)) = 1) else false) then true else bif !(bif decide ((k : Int) = (g : Int) + 1) then true else bif decide ((g : Int) = 0) then decide ((k : Int) = (l.n : Int) - 1) else false) then !decide (L.meet (l.g g) (l.g (g + 1)) (l.g k) (l.g (L.next l.n k)) = 0) else false) = !L.okPair l g k := by
          unfold L.okPair L.nxt L.how
          generalize (bif decide ((k : Int) = (g : Int) + 1) then true else bif decide ((g : Int) = 0) then decide ((k : Int) = (l.n : Int) - 1) else false) = q
          generalize decide (L.meet (l.g g) (l.g (g + 1)) (l.g k) (l.g (L.next l.n k)) = 1) = q1
          generalize decide (L.meet (l.g g) (l.g (g + 1)) (l.g k) (l.g (L.next l.n k)) = 0) = q2
          cases q <;> cases q1 <;> cases q2 <;> rfl
        rw [key]
        refine ⟨⟨fun _ _ => rfl, by omega, by omega, by omega, by omega⟩, InK.of (by omega) (by omega), ⟨fun _ _ => rfl, by omega, by omega, by omega, by omega⟩, ⟨fun _ _ => rfl, by omega, by omega, by omega, by omega⟩, InK.of (by omega) (by omega), ⟨fun _ _ => rfl, by omega, by omega, by omega, by omega⟩, ⟨hb g (by omega), hb (g + 1) (by omega), hb k (by omega), hb _ c5⟩, InK.of (by omega) (by omega), fun _ => InK.of (by omega) (by omega), fun h => fin0 hik (by omega) (notT h), fun h => ?_⟩
        have hok : L.okPair l g k = true := notF h
        refine ⟨InK.of (by omega) (by omega), (g, k + 1), by show (k : Int) + 1 = ((k + 1 : Nat) : Int); omega, rfl, rfl, ⟨rfl, fun _ _ => rfl⟩, ⟨rfl, by show g < k + 1; omega, by show k + 1 ≤ l.n; omega, h0, fun m hm1 hm2 => ?_⟩, by show l.n - (k + 1) < l.n - k; omega⟩
        have hm1 : g < m := hm1
        have hm2 : m < k + 1 := hm2
        show L.okPair l g m = true
        rcases Nat.lt_succ_iff_lt_or_eq.1 hm2 with h' | rfl
        · exact h1 m hm1 h'
        · exact hok
      · have hk : ¬ (k : Int) < (l.n : Int) := of_decide_eq_false hge2
        refine ⟨InK.of (by omega) (by omega), g + 1, by omega, rfl, ⟨rfl, fun _ _ => rfl⟩, ⟨by omega, fun j hj m hm1 hm2 => ?_⟩, by omega⟩
        rcases Nat.lt_succ_iff_lt_or_eq.1 hj with h' | rfl
        · exact h0 j h' m hm1 hm2
        · exact h1 m hm1 (by omega)
    · have hb1 : ¬ (g : Int) < (l.n : Int) := of_decide_eq_false hge
      unfold L.simple
      rw [allB_iff.2 (fun i hi => allB_iff.2 (fun k hk => ?_))]
      by_cases hik : i < k
      · simp [hik, hg.2 i (by omega) k hik hk]
      · simp [hik])
theorem r1_simple_ok : SpecOk Tryz.prog 87 r1_simple_S := fnX Tryz.func87 (c := bodyOf Tryz.f87) (by kernel_rfl) mixed (fun args p r hs hp => by
  unfold r1_simple_s at hs
  split at hs
  · cases hs; exact ⟨_, _, r1_simple_vc _ hp.2, (.p (.sl hp.1) .nil), ⟨show SpecsL Tryz.prog _ from (SpecsL.cons r1_at_ok r1_at_en (SpecsL.cons r1_meet_ok r1_meet_en SpecsL.nil)), rfl, ⟨show ItersL Tryz.prog _ from ItersL.nil, (TrsOk.none (fun _ => rfl))⟩⟩⟩
  · cases hs)
theorem r1_simple_en : Enters Tryz.prog 87 := fun args w => by kernel_rfl
def r1_ValidOutline_p (l : (L.Sq L.Pt)) : Prop := True
def r1_ValidOutline_r (l : (L.Sq L.Pt)) : SV := .bool (L.validOutline l)
def r1_ValidOutline_s : List EV → Option (Prop × SV)
  | [.p (.sl 2 l_n l_g)] => some ((∀ i, i < l_n → l_g i = [.int .i64 ((ofPt (l_g i)).x), .int .i64 ((ofPt (l_g i)).y)]) ∧ r1_ValidOutline_p (⟨l_n, fun i => ofPt (l_g i)⟩ : (L.Sq L.Pt)), r1_ValidOutline_r (⟨l_n, fun i => ofPt (l_g i)⟩ : (L.Sq L.Pt)))
  | _ => none
abbrev r1_ValidOutline_S : SE.Spec := (specO r1_ValidOutline_s)
def r1_ValidOutline_C : Cfg := { muts := [], frz := lookN [], specs := lookS [(74, r1_points_S), (87, r1_simple_S), (88, r1_sum_S), (92, r1_less_S), (76, r1_at_S), (93, r1_Cross_S)], loops := fun _ => none, iters := lookI [], rfs := lookR [], nils := lookM [] }
theorem r1_ValidOutline_vc (l : (L.Sq L.Pt)) (hp : r1_ValidOutline_p l) : vc Tryz.prog ({ r1_ValidOutline_C with loops := lookL [(4, { T := Nat, keep := [0], keepO := [], chg := fun i => [(3, .p (.int .i64 (i : Int)))], own := fun _ => [], inv := fun i => i ≤ l.n ∧ ∀ j, j < i → L.corner l j = true, mu := fun i => l.n - i })], rfs := lookR [] }) (bodyOf Tryz.f33) (st0 Tryz.f33 [.p (.sl 2 l.n (fun i => [.int .i64 ((l.g i).x), .int .i64 ((l.g i).y)]))]) (retFn Tryz.prog Tryz.f33 (r1_ValidOutline_r l)) :=
  @Eq.mpr _ (((!bif decide ((↑l.n : Int) < (3 : Int)) then true else decide ((24 : Int) < (↑l.n : Int))) = true → (∀ (i : Nat), i < l.n → [SV.int .i64 (l.g i).x, SV.int .i64 (l.g i).y] = [SV.int .i64 (l.g i).x, SV.int .i64 (l.g i).y]) ∧ l.n ≤ (1000000 : Nat)) ∧ ((!bif bif decide ((↑l.n : Int) < (3 : Int))
 then true else decide ((24 : Int) < (↑l.n : Int)) then true else !L.validPts (L.Sq.mk l.n fun (i : Nat) ↦ l.g i)) = true → (∀ (i : Nat), i < l.n → [SV.int .i64 (l.g i).x, SV.int .i64 (l.g i).y] = [SV.int .i64 (l.g i).x, SV.int .i64 (l.g i).y]) ∧ L.allBd (L.Sq.mk l.n fun (i : Nat) ↦ l.g i)) ∧ ((!bif bif bif
 decide ((↑l.n : Int) < (3 : Int)) then true else decide ((24 : Int) < (↑l.n : Int)) then true else !L.validPts (L.Sq.mk l.n fun (i : Nat) ↦ l.g i) then true else !L.simple (L.Sq.mk l.n fun (i : Nat) ↦ l.g i)) = true → (∀ (i : Nat), i < l.n → [SV.int .i64 (l.g i).x, SV.int .i64 (l.g i).y] = [SV.int .i64 (l.g
 i).x, SV.int .i64 (l.g i).y]) ∧ L.small (L.Sq.mk l.n fun (i : Nat) ↦ l.g i)) ∧ ((bif bif bif bif decide ((↑l.n : Int) < (3 : Int)) then true else decide ((24 : Int) < (↑l.n : Int)) then true else !L.validPts (L.Sq.mk l.n fun (i : Nat) ↦ l.g i) then true else !L.simple (L.Sq.mk l.n fun (i : Nat) ↦ l.g i) then true else decide
 (L.areaTo (L.Sq.mk l.n fun (i : Nat) ↦ l.g i) l.n ≤ (0 : Int))) = true → false = L.validOutline l) ∧ ((bif bif bif bif decide ((↑l.n : Int) < (3 : Int)) then true else decide ((24 : Int) < (↑l.n : Int)) then true else !L.validPts (L.Sq.mk l.n fun (i : Nat) ↦ l.g i) then true else !L.simple (L.Sq.mk l.n fun (i : Nat) ↦ l.g i) then true else
 decide (L.areaTo (L.Sq.mk l.n fun (i : Nat) ↦ l.g i) l.n ≤ (0 : Int))) = false → (∃ (g : Nat), (0 : Int) = (↑g : Int) ∧ g ≤ l.n ∧ ∀ (j : Nat), j < g → L.corner l j = true) ∧ ∀ (g : Nat), (g ≤ l.n ∧ ∀ (j : Nat), j < g → L.corner l j = true) → (decide ((↑g : Int) < (↑l.n : Int)) = true → (decide ((0 : Int) < (↑g : Int)) = true → (0 : Int) ≤ (0 :
 Int) ∧ (0 : Int) < (↑l.n : Int)) ∧ (decide ((0 : Int) < (↑g : Int)) = true → (0 : Int) ≤ (↑g : Int) ∧ (↑g : Int) < (↑l.n : Int)) ∧ (decide ((0 : Int) < (↑g : Int)) = true → True) ∧ ((!bif decide ((0 : Int) < (↑g : Int)) then !decide (L.cmpPt (l.g (Int.toNat (0 : Int))) (l.g (Int.toNat (↑g : Int))) < (0 : Int)) else false) = true →
 InK .i64 ((↑g : Int) - (1 : Int))) ∧ ((!bif decide ((0 : Int) < (↑g : Int)) then !decide (L.cmpPt (l.g (Int.toNat (0 : Int))) (l.g (Int.toNat (↑g : Int))) < (0 : Int)) else false) = true → (∀ (i : Nat), i < l.n → [SV.int .i64 (l.g i).x, SV.int .i64 (l.g i).y] = [SV.int .i64 (l.g i).x, SV.int
 .i64 (l.g i).y]) ∧ (1 : Nat) ≤ l.n ∧ l.n ≤ (1000000 : Nat) ∧ (-1000000 : Int) ≤ (↑g : Int) - (1 : Int) ∧ (↑g : Int) - (1 : Int) ≤ (1000000 : Int)) ∧ ((!bif decide ((0 : Int) < (↑g : Int)) then !decide (L.cmpPt (l.g (Int.toNat (0 : Int))) (l.g (Int.toNat (↑g : Int))) < (0 : Int)) else false) = true → (0 : Int) ≤ (↑g : Int) ∧ (↑g : Int) < (↑l.n : Int)) ∧
 ((!bif decide ((0 : Int) < (↑g : Int)) then !decide (L.cmpPt (l.g (Int.toNat (0 : Int))) (l.g (Int.toNat (↑g : Int))) < (0 : Int)) else false) = true → InK .i64 ((↑g : Int) + (1 : Int))) ∧ ((!bif decide ((0 : Int) < (↑g : Int)) then !decide (L.cmpPt (l.g (Int.toNat (0 : Int))) (l.g (Int.toNat (↑g : Int))) < (0 : Int)) else
 false) = true → (∀ (i : Nat), i < l.n → [SV.int .i64 (l.g i).x, SV.int .i64 (l.g i).y] = [SV.int .i64 (l.g i).x, SV.int .i64 (l.g i).y]) ∧ (1 : Nat) ≤ l.n ∧ l.n ≤ (1000000 : Nat) ∧ (-1000000 : Int) ≤ (↑g : Int) + (1 : Int) ∧ (↑g : Int) + (1 : Int) ≤ (1000000 : Int)) ∧ ((!bif decide ((0 : Int) < (↑g : Int)) then
 !decide (L.cmpPt (l.g (Int.toNat (0 : Int))) (l.g (Int.toNat (↑g : Int))) < (0 : Int)) else false) = true → L.bd (l.g (L.ix l.n ((↑g : Int) - (1 : Int)))) ∧ L.bd (l.g (Int.toNat (↑g : Int))) ∧ L.bd (l.g (L.ix l.n ((↑g : Int) + (1 : Int))))) ∧ ((bif bif decide ((0 : Int) < (↑g : Int)) then !decide (L.cmpPt (l.g (Int.toNat (0 : Int))) (l.g (Int.toNat (↑g :
 Int))) < (0 : Int)) else false then true else decide (L.cross (l.g (L.ix l.n ((↑g : Int) - (1 : Int)))) (l.g (Int.toNat (↑g : Int))) (l.g (L.ix l.n ((↑g : Int) + (1 : Int)))) = (0 : Int))) = true → false = L.validOutline l) ∧ ((bif bif decide ((0 : Int) < (↑g : Int)) then !decide (L.cmpPt (l.g (Int.toNat (0 : Int))) (l.g (Int.toNat (↑g : Int))) <
 (0 : Int)) else false then true else decide (L.cross (l.g (L.ix l.n ((↑g : Int) - (1 : Int)))) (l.g (Int.toNat (↑g : Int))) (l.g (L.ix l.n ((↑g : Int) + (1 : Int)))) = (0 : Int))) = false → InK .i64 ((↑g : Int) + (1 : Int)) ∧ ∃ (g' : Nat), (↑g : Int) + (1 : Int) = (↑g' : Int) ∧ (l.n = l.n ∧ ∀ (i : Nat), i < l.n → [SV.int .i64 (l.g i).x,
 SV.int .i64 (l.g i).y] = [SV.int .i64 (l.g i).x, SV.int .i64 (l.g i).y]) ∧ (g' ≤ l.n ∧ ∀ (j : Nat), j < g' → L.corner l j = true) ∧ l.n - g' < l.n - g)) ∧ (decide ((↑g : Int) < (↑l.n : Int)) = false → true = L.validOutline l))) (by kernel_rfl) (by
    have c1 : (bif decide ((l.n : Int) < 3) then true else decide (24 < (l.n : Int))) = !L.within (l.n : Int) 3 24 := by
      rw [bor, Bool.eq_iff_iff, Bool.or_eq_true, decide_eq_true_eq, decide_eq_true_eq, Bool.not_eq_true', Bool.eq_false_iff, Ne, within_iff]
      omega
    rw [c1]
    have sp : L.within (l.n : Int) 3 24 = true → L.validPts l = true → 3 ≤ l.n ∧ l.n ≤ 24 ∧ L.small l ∧ L.allBd l := valid3_spec
    refine ⟨fun h => ⟨fun _ _ => rfl, ?_⟩, fun h => ⟨fun _ _ => rfl, ?_⟩, fun h => ⟨fun _ _ => rfl, ?_⟩, fun h => ?_, fun h => ?_⟩
    · have := within_iff.1 (notF (notT h)); omega
    · have h := notT h
      rw [bor, Bool.or_eq_false_iff] at h
      exact (sp (notF h.1) (notF h.2)).2.2.2
    · have h := notT h
      rw [bor, bor, Bool.or_eq_false_iff, Bool.or_eq_false_iff] at h
      exact (sp (notF h.1.1) (notF h.1.2)).2.2.1
    · have h : (bif bif bif !L.within (l.n : Int) 3 24 then true else !L.validPts l then true else !L.simple l then true else decide (L.areaTo l l.n ≤ 0)) = true := h
      have e3 : L.valid3 l = false ∨ L.simple l = false := by
        rw [bor, bor, bor, Bool.or_eq_true, Bool.or_eq_true, Bool.or_eq_true] at h
        unfold L.valid3
        rcases h with ((h | h) | h) | h
        · rw [notT h]; exact .inl rfl
        · rw [notT h]; left; cases L.within (l.n : Int) 3 24 <;> rfl
        · exact .inr (notT h)
        · left
          have := of_decide_eq_true h
          rw [decide_eq_false (show ¬ 0 < L.areaTo l l.n by omega)]
          cases L.within (l.n : Int) 3 24 <;> cases L.validPts l <;> rfl
      unfold L.validOutline
      rcases e3 with e3 | e3 <;> rw [e3] <;> simp
    have h : (bif bif bif !L.within (l.n : Int) 3 24 then true else !L.validPts l then true else !L.simple l then true else decide (L.areaTo l l.n ≤ 0)) = false := h
    rw [bor, bor, bor, Bool.or_eq_false_iff, Bool.or_eq_false_iff, Bool.or_eq_false_iff] at h
    obtain ⟨⟨⟨h1, h2⟩, h3⟩, h4⟩ := h
    have h1 := notF h1
    have h2 := notF h2
    have h3 := notF h3
    have h4 := of_decide_eq_false h4
    obtain ⟨n3, n24, hsm, hbd⟩ := sp h1 h2
    have hv : L.valid3 l = true := by
      unfold L.valid3; rw [h1, h2, decide_eq_true (show 0 < L.areaTo l l.n by omega)]; rfl
    refine ⟨⟨(0 : Nat), rfl, Nat.zero_le _, fun j hj => absurd hj (Nat.not_lt_zero _)⟩, fun g hg => ⟨fun hlt => ?_, fun hge => ?_⟩⟩
    · have hb : (g : Int) < (l.n : Int) := of_decide_eq_true hlt
      have hk : g < l.n := by omega
      have e0 : ((g : Int)).toNat = g := by omega
      have key := corner_eq (l := l) (k := g)
      rw [e0, ix_prev hk, ix_next hk]
      refine ⟨fun _ => by omega, fun _ => by omega, fun _ => trivial, fun _ => InK.of (by omega) (by omega), fun _ => ⟨fun _ _ => rfl, by omega, by omega, by omega, by omega⟩, fun _ => by omega, fun _ => InK.of (by omega) (by omega), fun _ => ⟨fun _ _ => rfl, by omega, by omega, by omega, by omega⟩, fun _ => ⟨hbd.2 _ (prev_lt (by omega)), hbd.2 _ hk, hbd.2 _ (next_lt (by omega))⟩, fun h => ?_, fun h => ?_⟩
      · have h : L.corner l g = false := notT (key.symm.trans h)
        unfold L.validOutline
        rw [allB_false hk h]; simp
      · have h : L.corner l g = true := notF (key.symm.trans h)
        exact ⟨InK.of (by omega) (by omega), g + 1, by omega, ⟨rfl, fun _ _ => rfl⟩, ⟨by omega, fun j hj => by
          rcases Nat.lt_succ_iff_lt_or_eq.1 hj with h' | rfl
          · exact hg.2 j h'
          · exact h⟩, by omega⟩
    · have hb : ¬ (g : Int) < (l.n : Int) := of_decide_eq_false hge
      unfold L.validOutline
      rw [hv, allB_iff.2 (fun i hi => hg.2 i (by omega)), h3]; rfl)
theorem r1_ValidOutline_ok : SpecOk Tryz.prog 33 r1_ValidOutline_S := fnX Tryz.func33 (c := bodyOf Tryz.f33) (by kernel_rfl) mixed (fun args p r hs hp => by
  unfold r1_ValidOutline_s at hs
  split at hs
  · cases hs; exact ⟨_, _, r1_ValidOutline_vc _ hp.2, (.p (.sl hp.1) .nil), ⟨show SpecsL Tryz.prog _ from (SpecsL.cons r1_points_ok r1_points_en (SpecsL.cons r1_simple_ok r1_simple_en (SpecsL.cons r1_sum_ok r1_sum_en (SpecsL.cons r1_less_ok r1_less_en (SpecsL.cons r1_at_ok r1_at_en (SpecsL.cons r1_Cross_ok r1_Cross_en SpecsL.nil)))))), rfl, ⟨show ItersL Tryz.prog _ from ItersL.nil, (TrsOk.none (fun _ => rfl))⟩⟩⟩
  · cases hs)
theorem r1_ValidOutline_en : Enters Tryz.prog 33 := fun args w => by kernel_rfl
end Go.Proofs.YtooapgllahonaaaGreat

namespace Go.Proofs.YtooapgllahonaaaGreat
open Go.SE Go.RowKit
set_option maxRecDepth 100000
set_option maxHeartbeats 4000000
set_option linter.unusedVariables false
attribute [local irreducible] vc

def L.bendR (l : L.Sq L.Pt) (i : Int) : Int := bif decide (0 < L.cross (l.g (L.ix l.n (i - 1))) (l.g (L.ix l.n i)) (l.g (L.ix l.n (i + 1)))) then 1 else -1
def L.measR (l : L.Sq L.Pt) (s : L.Setting) (i : Int) : L.Meas :=
  bif s.back then ⟨L.dist (l.g (L.ix l.n (s.shift - i))) (l.g (L.ix l.n (s.shift - i + 1))), L.dist (l.g (L.ix l.n (s.shift - i - 1))) (l.g (L.ix l.n (s.shift - i + 1))), L.bendR l (s.shift - i)⟩
  else ⟨L.dist (l.g (L.ix l.n (s.shift + i))) (l.g (L.ix l.n (s.shift + i + 1))), L.dist (l.g (L.ix l.n (s.shift + i))) (l.g (L.ix l.n (s.shift + i + 2))), L.bendR l (s.shift + i + 1)⟩
theorem pt_ix {l : L.Sq L.Pt} {a : Int} (hn : 0 < l.n) (h : 0 ≤ a + (l.n : Int)) : L.pt l a = l.g (L.ix l.n a) := by
  unfold L.pt
  have h1 := ix_emod (a := a) hn
  rw [Int.tmod_eq_emod_of_nonneg h, Int.add_emod_right, ← h1, Int.toNat_natCast]
theorem bend_ix {l : L.Sq L.Pt} (hv : L.validOutline l = true) (a : Int) : L.bend l (L.ix l.n a) = L.bendR l a := by
  have hn := (validOutline_of hv).1
  have hk := ix_lt (n := l.n) (i := a) (by omega)
  have hc := (outline_all hv).2 _ hk
  unfold L.bend L.bendR
  have e1 : L.prev l.n (L.ix l.n a) = L.ix l.n (a - 1) := by
    rw [← ix_prev hk, show ((L.ix l.n a : Nat) : Int) - 1 = ((L.ix l.n a : Nat) : Int) + -1 by omega, ix_ix (by omega)]; rfl
  have e2 : L.next l.n (L.ix l.n a) = L.ix l.n (a + 1) := by
    rw [← ix_next hk, ix_ix (by omega)]
  rw [e1, e2] at hc ⊢
  generalize L.cross (l.g (L.ix l.n (a - 1))) (l.g (L.ix l.n a)) (l.g (L.ix l.n (a + 1))) = q at hc ⊢
  unfold L.cmp
  by_cases h : 0 < q
  · rw [decide_eq_true h, decide_eq_false (by omega)]; rfl
  · rw [decide_eq_false h, decide_eq_true (show q < 0 by omega)]; rfl
theorem sq_ix {l : L.Sq L.Pt} (hv : L.validOutline l = true) {a b : Int} (ha : 0 ≤ a + (l.n : Int)) (hb : 0 ≤ b + (l.n : Int)) : L.sq l a b = L.dist (l.g (L.ix l.n a)) (l.g (L.ix l.n b)) := by
  have hn := (validOutline_of hv).1
  unfold L.sq
  rw [pt_ix (by omega) ha, pt_ix (by omega) hb, (outline_all hv).1 _ (ix_lt (by omega)), (outline_all hv).1 _ (ix_lt (by omega))]; rfl
theorem meas_eq {l : L.Sq L.Pt} {s : L.Setting} {i : Nat} (hv : L.validOutline l = true) (h1 : 0 ≤ s.shift) (h2 : s.shift < (l.n : Int)) (hi : i < l.n) : L.meas l s i = L.measR l s (i : Int) := by
  have hn : 0 < l.n := by have := (validOutline_of hv).1; omega
  unfold L.meas L.measR
  cases s.back with
  | false =>
    have hK0 := Int.tmod_nonneg (l.n : Int) (show 0 ≤ s.shift + (i : Int) by omega)
    have hK1 := Int.tmod_lt_of_pos (s.shift + (i : Int)) (show 0 < (l.n : Int) by omega)
    have hK : L.kF l s i % (l.n : Int) = (s.shift + (i : Int)) % (l.n : Int) := by
      unfold L.kF; rw [Int.tmod_eq_emod_of_nonneg (by omega), Int.emod_emod]
    have hk0 : 0 ≤ L.kF l s i := hK0
    have e0 : L.ix l.n (L.kF l s i) = L.ix l.n (s.shift + (i : Int)) := by
      have := ix_congr hn hK 0
      rwa [Int.add_zero, Int.add_zero] at this
    have e3 : (Int.tmod (L.kF l s i + 1) (l.n : Int)).toNat = L.ix l.n (s.shift + (i : Int) + 1) := by
      rw [← ix_congr hn hK 1]
      have := ix_emod (a := L.kF l s i + 1) hn
      rw [Int.tmod_eq_emod_of_nonneg (by omega), ← this, Int.toNat_natCast]
    simp only [cond_false]
    rw [sq_ix hv (by omega) (by omega), sq_ix hv (by omega) (by omega), e0, ix_congr hn hK 1, ix_congr hn hK 2, e3, bend_ix hv]
  | true =>
    have hK0 := Int.tmod_nonneg (l.n : Int) (show 0 ≤ s.shift + (l.n : Int) - (i : Int) by omega)
    have hK1 := Int.tmod_lt_of_pos (s.shift + (l.n : Int) - (i : Int)) (show 0 < (l.n : Int) by omega)
    have hK : L.kB l s i % (l.n : Int) = (s.shift - (i : Int)) % (l.n : Int) := by
      unfold L.kB
      rw [Int.tmod_eq_emod_of_nonneg (by omega), Int.emod_emod, show s.shift + (l.n : Int) - (i : Int) = s.shift - (i : Int) + (l.n : Int) by omega, Int.add_emod_right]
    have hk0 : 0 ≤ L.kB l s i := hK0
    have hk1 : L.kB l s i < (l.n : Int) := hK1
    have e0 : L.ix l.n (L.kB l s i) = L.ix l.n (s.shift - (i : Int)) := by
      have := ix_congr hn hK 0
      rwa [Int.add_zero, Int.add_zero] at this
    have e3 : (L.kB l s i).toNat = L.ix l.n (s.shift - (i : Int)) := by
      rw [← e0]
      have := ix_self (n := l.n) (k := (L.kB l s i).toNat) (by omega)
      rw [Int.toNat_of_nonneg hk0] at this
      exact this.symm
    simp only [cond_true]
    rw [sq_ix hv (by omega) (by omega), sq_ix hv (by omega) (by omega), e0, ix_congr hn hK 1, show L.kB l s i - 1 = L.kB l s i + -1 by omega, ix_congr hn hK (-1), e3, bend_ix hv]
    rfl
theorem gauge_ok {l : L.Sq L.Gauge} (h : L.gauges l = true) : (3 ≤ l.n ∧ l.n ≤ 24) ∧ ∀ i, i < l.n → 1 ≤ (l.g i).edge.lo ∧ (l.g i).edge.lo ≤ (l.g i).edge.hi ∧ (l.g i).edge.hi ≤ 33554432 ∧ 0 ≤ (l.g i).across.lo ∧ (l.g i).across.lo ≤ (l.g i).across.hi ∧ (l.g i).across.hi ≤ 33554432 ∧ -1 ≤ (l.g i).bend ∧ (l.g i).bend ≤ 1 := by
  unfold L.gauges at h
  rw [band, Bool.and_eq_true, within_iff, allB_iff] at h
  refine ⟨by omega, fun i hi => ?_⟩
  have := h.2 i hi
  unfold L.vGauge L.vSpan at this
  simp only [band, Bool.and_eq_true, decide_eq_true_eq, within_iff] at this
  omega
end Go.Proofs.YtooapgllahonaaaGreat

namespace Go.Proofs.YtooapgllahonaaaGreat
open Go.SE Go.RowKit
set_option maxRecDepth 100000
set_option maxHeartbeats 4000000
set_option linter.unusedVariables false
attribute [local irreducible] vc

def L.holdsR (g : L.Gauge) (m : L.Meas) : Bool := bif (bif L.within m.edge g.edge.lo g.edge.hi then L.within m.across g.across.lo g.across.hi else false) then (bif decide (g.bend = 0) then true else decide (g.bend = m.bend)) else false
def L.fits (p : L.Piece) (l : L.Sq L.Pt) (s : L.Setting) : Bool := bif decide ((l.n : Int) = p.gauges.n) then L.allB l.n (fun i => L.holdsR (p.gauges.g i) (L.meas l s i)) else false
def L.fitP (p : L.Piece) (l : L.Sq L.Pt) (s : L.Setting) : Prop := L.validOutline l = true ∧ L.gauges p.gauges = true ∧ 0 ≤ s.shift ∧ s.shift < (p.gauges.n : Int)
def L.fitK (p : L.Piece) (l : L.Sq L.Pt) (k : Nat) : Bool := L.fits p l (L.sett k)
def L.fitsE (p : L.Piece) (l : L.Sq L.Pt) (s : L.Setting) : Int := bif !L.validPiece p then 30 else bif (bif !L.validOutline l then true else !L.validSet s p.gauges.n) then 1 else 0
def L.fitsV (p : L.Piece) (l : L.Sq L.Pt) (s : L.Setting) : Bool := bif decide (L.fitsE p l s = 0) then L.fits p l s else false
def L.setE (p : L.Piece) (l : L.Sq L.Pt) : Int := bif !L.validPiece p then 30 else bif !L.validOutline l then 1 else 0
def L.setN (p : L.Piece) (l : L.Sq L.Pt) : Nat := bif decide (L.setE p l = 0) then L.cnt (L.fitK p l) (2 * p.gauges.n) else 0
def L.setG (p : L.Piece) (l : L.Sq L.Pt) (k : Nat) : L.Setting := L.sett (L.selN (L.fitK p l) (2 * p.gauges.n) k)
theorem piece_gauges {p : L.Piece} (h : L.validPiece p = true) : L.gauges p.gauges = true := by
  unfold L.validPiece at h
  rw [band, band, Bool.and_eq_true, Bool.and_eq_true] at h
  exact h.1.2
def g_holds_p (g : L.Gauge) (m : L.Meas) : Prop := g.edge.lo ≤ g.edge.hi ∧ g.across.lo ≤ g.across.hi
def g_holds_r (g : L.Gauge) (m : L.Meas) : SV := .bool (L.holdsR g m)
def g_holds_s : List EV → Option (Prop × SV)
  | [.p (.agg [.int .i64 g_edge_lo, .int .i64 g_edge_hi, .int .i64 g_across_lo, .int .i64 g_across_hi, .int .i64 g_bend]), .p (.agg [.int .i64 m_edge, .int .i64 m_across, .int .i64 m_bend])] => some (g_holds_p (⟨(⟨g_edge_lo, g_edge_hi⟩ : L.Span), (⟨g_across_lo, g_across_hi⟩ : L.Span), g_bend⟩ : L.Gauge) (⟨m_edge, m_across, m_bend⟩ : L.Meas), g_holds_r (⟨(⟨g_edge_lo, g_edge_hi⟩ : L.Span), (⟨g_across_lo, g_across_hi⟩ : L.Span), g_bend⟩ : L.Gauge) (⟨m_edge, m_across, m_bend⟩ : L.Meas))
  | _ => none
abbrev g_holds_S : SE.Spec := (specO g_holds_s)
def g_holds_C : Cfg := { muts := [], frz := lookN [], specs := lookS [(194, g_in_S)], loops := lookL [], iters := lookI [], rfs := lookR [], nils := lookM [] }
theorem g_holds_vc (g : L.Gauge) (m : L.Meas) (hp : g_holds_p g m) : vc Tryz.prog (g_holds_C) (bodyOf Tryz.f165) (st0 Tryz.f165 [.p (.agg [.int .i64 g.edge.lo, .int .i64 g.edge.hi, .int .i64 g.across.lo, .int .i64 g.across.hi, .int .i64 g.bend]), .p (.agg [.int .i64 m.edge, .int .i64 m.across, .int .i64 m.bend])]) (retFn Tryz.prog Tryz.f165 (g_holds_r g m)) :=
  @Eq.mpr _ (((decide (m.edge = g.edge.lo) && (decide (m.across = g.across.lo) && decide (m.bend = g.bend))) = true → true = L.holdsR g m) ∧ ((decide (m.edge = g.edge.lo) && (decide (m.across = g.across.lo) && decide (m.bend = g.bend))) = false → True ∧ (L.within m.edge g.edge.lo g.edge.hi = true → True) ∧ (bif bif L.within m.edge
 g.edge.lo g.edge.hi then L.within m.across g.across.lo g.across.hi else false then bif decide (g.bend = (0 : Int)) then true else decide (g.bend = m.bend) else false) = L.holdsR g m)) (by kernel_rfl) (by
    obtain ⟨h1, h2⟩ := hp
    refine ⟨fun h => ?_, fun h => ⟨trivial, fun _ => trivial, rfl⟩⟩
    rw [Bool.and_eq_true, Bool.and_eq_true, decide_eq_true_eq, decide_eq_true_eq, decide_eq_true_eq] at h
    unfold L.holdsR
    rw [within_iff.2 (show g.edge.lo ≤ m.edge ∧ m.edge ≤ g.edge.hi by omega), within_iff.2 (show g.across.lo ≤ m.across ∧ m.across ≤ g.across.hi by omega), decide_eq_true (show g.bend = m.bend by omega)]
    cases decide (g.bend = 0) <;> rfl)
theorem g_holds_ok : SpecOk Tryz.prog 165 g_holds_S := fnX Tryz.func165 (c := bodyOf Tryz.f165) (by kernel_rfl) mixed (fun args p r hs hp => by
  unfold g_holds_s at hs
  split at hs
  · cases hs; exact ⟨_, _, g_holds_vc _ _ hp, (.same _ (.same _ .nil)), ⟨show SpecsL Tryz.prog _ from (SpecsL.cons g_in_ok g_in_en SpecsL.nil), rfl, ⟨show ItersL Tryz.prog _ from ItersL.nil, (TrsOk.none (fun _ => rfl))⟩⟩⟩
  · cases hs)
theorem g_holds_en : Enters Tryz.prog 165 := fun args w => by kernel_rfl
def g_fits_p (p : L.Piece) (l : (L.Sq L.Pt)) (s : L.Setting) : Prop := L.fitP p l s
def g_fits_r (p : L.Piece) (l : (L.Sq L.Pt)) (s : L.Setting) : SV := .bool (L.fits p l s)
def g_fits_s : List EV → Option (Prop × SV)
  | [.p (.agg [.int .i64 p_id, .int .i64 p_colour, .int .i64 p_rev, .int .i64 p_made, .int .i64 p_swell, .sl 5 p_gauges_n p_gauges_g, .sl 3 p_marks_n p_marks_g]), .p (.sl 2 l_n l_g), .p (.agg [.int .i64 s_shift, .bool s_back])] => some ((∀ i, i < p_gauges_n → p_gauges_g i = [.int .i64 ((ofGauge (p_gauges_g i)).edge.lo), .int .i64 ((ofGauge (p_gauges_g i)).edge.hi), .int .i64 ((ofGauge (p_gauges_g i)).across.lo), .int .i64 ((ofGauge (p_gauges_g i)).across.hi), .int .i64 ((ofGauge (p_gauges_g i)).bend)]) ∧ (∀ i, i < p_marks_n → p_marks_g i = [.int .i64 ((ofMark (p_marks_g i)).edge), .int .i64 ((ofMark (p_marks_g i)).place), .int .i64 ((ofMark (p_marks_g i)).tone)]) ∧ (∀ i, i < l_n → l_g i = [.int .i64 ((ofPt (l_g i)).x), .int .i64 ((ofPt (l_g i)).y)]) ∧ g_fits_p (⟨p_id, p_colour, p_rev, p_made, p_swell, (⟨p_gauges_n, fun i => ofGauge (p_gauges_g i)⟩ : (L.Sq L.Gauge)), (⟨p_marks_n, fun i => ofMark (p_marks_g i)⟩ : (L.Sq L.Mark))⟩ : L.Piece) (⟨l_n, fun i => ofPt (l_g i)⟩ : (L.Sq L.Pt)) (⟨s_shift, s_back⟩ : L.Setting), g_fits_r (⟨p_id, p_colour, p_rev, p_made, p_swell, (⟨p_gauges_n, fun i => ofGauge (p_gauges_g i)⟩ : (L.Sq L.Gauge)), (⟨p_marks_n, fun i => ofMark (p_marks_g i)⟩ : (L.Sq L.Mark))⟩ : L.Piece) (⟨l_n, fun i => ofPt (l_g i)⟩ : (L.Sq L.Pt)) (⟨s_shift, s_back⟩ : L.Setting))
  | _ => none
abbrev g_fits_S : SE.Spec := (specO g_fits_s)
def g_fits_C : Cfg := { muts := [], frz := lookN [], specs := lookS [(118, g_measures_S), (165, g_holds_S)], loops := lookL [], iters := lookI [(173, g_meas2_it)], rfs := lookR [], nils := lookM [] }
theorem g_fits_vc (p : L.Piece) (l : (L.Sq L.Pt)) (s : L.Setting) (hp : g_fits_p p l s) : vc Tryz.prog ({ g_fits_C with loops := lookL [], rfs := lookR [(4, { T := Nat, keep := [3, 6], keepO := [6], own := fun k _ => [], inv := fun k _ => ∀ j, j < k → L.holdsR (p.gauges.g j) (L.meas l s j) = true })] }) (bodyOf Tryz.f108) (st0 Tryz.f108 [.p (.agg [.int .i64 p.id, .int .i64 p.colour, .int .i64 p.rev, .int .i64 p.made, .int .i64 p.swell, .sl 5 p.gauges.n (fun i => [.int .i64 ((p.gauges.g i).edge.lo), .int .i64 ((p.gauges.g i).edge.hi), .int .i64 ((p.gauges.g i).across.lo), .int .i64 ((p.gauges.g i).across.hi), .int .i64 ((p.gauges.g i).bend)]), .sl 3 p.marks.n (fun i => [.int .i64 ((p.marks.g i).edge), .int .i64 ((p.marks.g i).place), .int .i64 ((p.marks.g i).tone)])]), .p (.sl 2 l.n (fun i => [.int .i64 ((l.g i).x), .int .i64 ((l.g i).y)])), .p (.agg [.int .i64 s.shift, .bool s.back])]) (retFn Tryz.prog Tryz.f108 (g_fits_r p l s)) :=
  @Eq.mpr _ (((!decide ((↑l.n : Int) = (↑p.gauges.n : Int))) = true → false = L.fits p l s) ∧ ((!decide ((↑l.n : Int) = (↑p.gauges.n : Int))) = false → ((∀ (i : Nat), i < l.n → [SV.int .i64 (l.g i).x, SV.int .i64 (l.g i).y] = [SV.int .i64 (l.g i).x, SV.int .i64 (l.g i).y]) ∧ l.n ≤ (1000000 : Nat)) ∧ (((∀ (i :
 Nat), i < l.n → [SV.int .i64 (l.g i).x, SV.int .i64 (l.g i).y] = [SV.int .i64 (l.g i).x, SV.int .i64 (l.g i).y]) ∧ (∀ (i : Nat), (i < bif L.validOutline (L.Sq.mk l.n fun (i : Nat) ↦ l.g i) then l.n else (0 : Nat)) → [SV.int .i64 (L.bend (L.Sq.mk l.n fun (i : Nat) ↦ l.g i) i)] = [SV.int .i64 (L.bend
 (L.Sq.mk l.n fun (i : Nat) ↦ l.g i) i)]) ∧ (↑l.n : Int) = (↑l.n : Int) ∧ (↑l.n : Int) = (↑l.n : Int) ∧ (bif L.validOutline (L.Sq.mk l.n fun (i : Nat) ↦ l.g i) then l.n else (0 : Nat)) = l.n ∧ (∀ (i : Nat), i < l.n → L.bend (L.Sq.mk l.n fun (i : Nat) ↦ l.g i) i = L.bend (L.Sq.mk l.n fun (i : Nat) ↦ l.g i) i) ∧ (1 : Nat) ≤ l.n ∧ l.n ≤ (1000 : Nat) ∧ (0 : Int) ≤ s.shift ∧ s.shift ≤ (1000 : Int)) ∧ ∃
 (t : Nat), false = false ∧ ∀ (j : Nat), j < (0 : Nat) → L.holdsR (p.gauges.g j) (L.meas l s j) = true) ∧ (∀ (k t : Nat) (vk : Nat → Go.Value), k < l.n → (∀ (j : Nat), j < k → L.holdsR (p.gauges.g j) (L.meas l s j) = true) → ((0 : Int) ≤ (↑k : Int) ∧ (↑k : Int) < (↑p.gauges.n : Int)) ∧ ((p.gauges.g (Int.toNat (↑k : Int))).edge.lo ≤ (p.gauges.g (Int.toNat (↑k : Int))).edge.hi ∧
 (p.gauges.g (Int.toNat (↑k : Int))).across.lo ≤ (p.gauges.g (Int.toNat (↑k : Int))).across.hi) ∧ ((!L.holdsR (p.gauges.g (Int.toNat (↑k : Int))) (L.meas (L.Sq.mk l.n fun (i : Nat) ↦ l.g i) s k)) = true → nat_lit 0 = nat_lit 0 ∧ SV.ref [SV.int .i64 p.id, SV.int .i64 p.colour, SV.int .i64 p.rev, SV.int .i64 p.made,
 SV.int .i64 p.swell, SV.sl (nat_lit 5) p.gauges.n fun (i : Nat) ↦ [SV.int .i64 (p.gauges.g i).edge.lo, SV.int .i64 (p.gauges.g i).edge.hi, SV.int .i64 (p.gauges.g i).across.lo, SV.int .i64 (p.gauges.g i).across.hi, SV.int .i64 (p.gauges.g i).bend], SV.sl (nat_lit 3) p.marks.n fun (i : Nat) ↦
 [SV.int .i64 (p.marks.g i).edge, SV.int .i64 (p.marks.g i).place, SV.int .i64 (p.marks.g i).tone]] (nat_lit 0) = SV.ref [SV.int .i64 p.id, SV.int .i64 p.colour, SV.int .i64 p.rev, SV.int .i64 p.made, SV.int .i64 p.swell, SV.sl (nat_lit 5) p.gauges.n fun (i :
 Nat) ↦ [SV.int .i64 (p.gauges.g i).edge.lo, SV.int .i64 (p.gauges.g i).edge.hi, SV.int .i64 (p.gauges.g i).across.lo, SV.int .i64 (p.gauges.g i).across.hi, SV.int .i64 (p.gauges.g i).bend], SV.sl (nat_lit 3) p.marks.n fun (i : Nat) ↦ [SV.int .i64 (p.marks.g i).edge, SV.int .i64
 (p.marks.g i).place, SV.int .i64 (p.marks.g i).tone]] (nat_lit 0) ∧ vk (nat_lit 6) = vk (nat_lit 6) ∧ vk (nat_lit 3) = vk (nat_lit 3) ∧ false = L.fits p l s) ∧ ((!L.holdsR (p.gauges.g (Int.toNat (↑k : Int))) (L.meas (L.Sq.mk l.n fun (i : Nat) ↦ l.g i) s k)) = false → ∃ (t' : Nat), nat_lit 0 = nat_lit 0 ∧ SV.ref [SV.int .i64 p.id, SV.int
 .i64 p.colour, SV.int .i64 p.rev, SV.int .i64 p.made, SV.int .i64 p.swell, SV.sl (nat_lit 5) p.gauges.n fun (i : Nat) ↦ [SV.int .i64 (p.gauges.g i).edge.lo, SV.int .i64 (p.gauges.g i).edge.hi, SV.int .i64 (p.gauges.g i).across.lo, SV.int .i64 (p.gauges.g i).across.hi,
 SV.int .i64 (p.gauges.g i).bend], SV.sl (nat_lit 3) p.marks.n fun (i : Nat) ↦ [SV.int .i64 (p.marks.g i).edge, SV.int .i64 (p.marks.g i).place, SV.int .i64 (p.marks.g i).tone]] (nat_lit 0) = SV.ref [SV.int .i64 p.id, SV.int .i64 p.colour, SV.int .i64 p.rev, SV.int
 .i64 p.made, SV.int .i64 p.swell, SV.sl (nat_lit 5) p.gauges.n fun (i : Nat) ↦ [SV.int .i64 (p.gauges.g i).edge.lo, SV.int .i64 (p.gauges.g i).edge.hi, SV.int .i64 (p.gauges.g i).across.lo, SV.int .i64 (p.gauges.g i).across.hi, SV.int .i64 (p.gauges.g i).bend], SV.sl (nat_lit 3)
 p.marks.n fun (i : Nat) ↦ [SV.int .i64 (p.marks.g i).edge, SV.int .i64 (p.marks.g i).place, SV.int .i64 (p.marks.g i).tone]] (nat_lit 0) ∧ vk (nat_lit 6) = vk (nat_lit 6) ∧ vk (nat_lit 3) = vk (nat_lit 3) ∧ false = false ∧ ∀ (j : Nat), j < k + (1 : Nat) → L.holdsR (p.gauges.g j) (L.meas l s j) = true)) ∧ ∀ (t : Nat), (∀ (j : Nat), j <
 l.n → L.holdsR (p.gauges.g j) (L.meas l s j) = true) → true = L.fits p l s)) (by kernel_rfl) (by
    obtain ⟨hv, hgg, s0, s1⟩ := hp
    obtain ⟨⟨g3, g24⟩, hg⟩ := gauge_ok hgg
    refine ⟨fun h => ?_, fun h => ?_⟩
    · unfold L.fits; rw [notT h]; rfl
    have hd := notF h
    have hn : l.n = p.gauges.n := by have := of_decide_eq_true hd; omega
    refine ⟨⟨fun _ _ => rfl, by omega⟩, ⟨⟨fun _ _ => rfl, fun _ _ => rfl, rfl, rfl, ?_, fun _ _ => rfl, by omega, by omega, by omega, by omega⟩, (0 : Nat), rfl, fun j hj => absurd hj (Nat.not_lt_zero _)⟩, fun k t vk hk hi => ?_, fun t hi => ?_⟩
    · rw [show L.validOutline (L.Sq.mk l.n fun i => l.g i) = true from hv]; rfl
    · have e0 : ((k : Int)).toNat = k := by omega
      have hgk := hg k (by omega)
      rw [e0]
      refine ⟨by omega, ⟨by omega, by omega⟩, fun h1 => ⟨rfl, rfl, rfl, rfl, ?_⟩, fun h1 => ⟨t, rfl, rfl, rfl, rfl, rfl, fun j hj => ?_⟩⟩
      · have h1 : L.holdsR (p.gauges.g k) (L.meas l s k) = false := notT h1
        unfold L.fits; rw [hd, allB_false (i := k) hk h1]; rfl
      · rcases Nat.lt_succ_iff_lt_or_eq.1 hj with h' | rfl
        · exact hi j h'
        · exact notF h1
    · unfold L.fits; rw [hd, allB_iff.2 hi]; rfl)
theorem g_fits_ok : SpecOk Tryz.prog 108 g_fits_S := fnX Tryz.func108 (c := bodyOf Tryz.f108) (by kernel_rfl) mixed (fun args p r hs hp => by
  unfold g_fits_s at hs
  split at hs
  · cases hs; exact ⟨_, _, g_fits_vc _ _ _ hp.2.2.2, (.p (.agg rfl (fun i hi => by
      rcases i with _ | i
      · exact (Ext.refl _ : Ext _ _)
      rcases i with _ | i
      · exact (Ext.refl _ : Ext _ _)
      rcases i with _ | i
      · exact (Ext.refl _ : Ext _ _)
      rcases i with _ | i
      · exact (Ext.refl _ : Ext _ _)
      rcases i with _ | i
      · exact (Ext.refl _ : Ext _ _)
      rcases i with _ | i
      · exact (Ext.sl hp.1 : Ext _ _)
      rcases i with _ | i
      · exact (Ext.sl hp.2.1 : Ext _ _)
      exact absurd hi (by simp; try omega))) (.p (.sl hp.2.2.1) (.same _ .nil))), ⟨show SpecsL Tryz.prog _ from (SpecsL.cons g_measures_ok g_measures_en (SpecsL.cons g_holds_ok g_holds_en SpecsL.nil)), rfl, ⟨show ItersL Tryz.prog _ from (ItersL.cons g_meas2_itok g_meas2_en ItersL.nil), (TrsOk.none (fun _ => rfl))⟩⟩⟩
  · cases hs)
theorem g_fits_en : Enters Tryz.prog 108 := fun args w => by kernel_rfl
def g_Fits_p (p : L.Piece) (l : (L.Sq L.Pt)) (s : L.Setting) : Prop := p.gauges.n ≤ 1000000 ∧ p.marks.n ≤ 1000000 ∧ l.n ≤ 1000000
def g_Fits_r (p : L.Piece) (l : (L.Sq L.Pt)) (s : L.Setting) : SV := .tup [.bool (L.fitsV p l s), .int .i64 (L.fitsE p l s)]
def g_Fits_s : List EV → Option (Prop × SV)
  | [.p (.agg [.int .i64 p_id, .int .i64 p_colour, .int .i64 p_rev, .int .i64 p_made, .int .i64 p_swell, .sl 5 p_gauges_n p_gauges_g, .sl 3 p_marks_n p_marks_g]), .p (.sl 2 l_n l_g), .p (.agg [.int .i64 s_shift, .bool s_back])] => some ((∀ i, i < p_gauges_n → p_gauges_g i = [.int .i64 ((ofGauge (p_gauges_g i)).edge.lo), .int .i64 ((ofGauge (p_gauges_g i)).edge.hi), .int .i64 ((ofGauge (p_gauges_g i)).across.lo), .int .i64 ((ofGauge (p_gauges_g i)).across.hi), .int .i64 ((ofGauge (p_gauges_g i)).bend)]) ∧ (∀ i, i < p_marks_n → p_marks_g i = [.int .i64 ((ofMark (p_marks_g i)).edge), .int .i64 ((ofMark (p_marks_g i)).place), .int .i64 ((ofMark (p_marks_g i)).tone)]) ∧ (∀ i, i < l_n → l_g i = [.int .i64 ((ofPt (l_g i)).x), .int .i64 ((ofPt (l_g i)).y)]) ∧ g_Fits_p (⟨p_id, p_colour, p_rev, p_made, p_swell, (⟨p_gauges_n, fun i => ofGauge (p_gauges_g i)⟩ : (L.Sq L.Gauge)), (⟨p_marks_n, fun i => ofMark (p_marks_g i)⟩ : (L.Sq L.Mark))⟩ : L.Piece) (⟨l_n, fun i => ofPt (l_g i)⟩ : (L.Sq L.Pt)) (⟨s_shift, s_back⟩ : L.Setting), g_Fits_r (⟨p_id, p_colour, p_rev, p_made, p_swell, (⟨p_gauges_n, fun i => ofGauge (p_gauges_g i)⟩ : (L.Sq L.Gauge)), (⟨p_marks_n, fun i => ofMark (p_marks_g i)⟩ : (L.Sq L.Mark))⟩ : L.Piece) (⟨l_n, fun i => ofPt (l_g i)⟩ : (L.Sq L.Pt)) (⟨s_shift, s_back⟩ : L.Setting))
  | _ => none
abbrev g_Fits_S : SE.Spec := (specO g_Fits_s)
def g_Fits_C : Cfg := { muts := [], frz := lookN [], specs := lookS [(47, g_ValidPiece_S), (32, p_ValidOutline_S), (103, p_ValidSetting_S), (108, g_fits_S)], loops := lookL [], iters := lookI [], rfs := lookR [], nils := lookM [] }
theorem g_Fits_vc (p : L.Piece) (l : (L.Sq L.Pt)) (s : L.Setting) (hp : g_Fits_p p l s) : vc Tryz.prog (g_Fits_C) (bodyOf Tryz.f48) (st0 Tryz.f48 [.p (.agg [.int .i64 p.id, .int .i64 p.colour, .int .i64 p.rev, .int .i64 p.made, .int .i64 p.swell, .sl 5 p.gauges.n (fun i => [.int .i64 ((p.gauges.g i).edge.lo), .int .i64 ((p.gauges.g i).edge.hi), .int .i64 ((p.gauges.g i).across.lo), .int .i64 ((p.gauges.g i).across.hi), .int .i64 ((p.gauges.g i).bend)]), .sl 3 p.marks.n (fun i => [.int .i64 ((p.marks.g i).edge), .int .i64 ((p.marks.g i).place), .int .i64 ((p.marks.g i).tone)])]), .p (.sl 2 l.n (fun i => [.int .i64 ((l.g i).x), .int .i64 ((l.g i).y)])), .p (.agg [.int .i64 s.shift, .bool s.back])]) (retFn Tryz.prog Tryz.f48 (g_Fits_r p l s)) :=
  @Eq.mpr _ (((∀ (i : Nat), i < p.gauges.n → [SV.int .i64 (p.gauges.g i).edge.lo, SV.int .i64 (p.gauges.g i).edge.hi, SV.int .i64 (p.gauges.g i).across.lo, SV.int .i64 (p.gauges.g i).across.hi, SV.int .i64 (p.gauges.g i).bend] = [SV.int .i64 (p.gauges.g i).edge.lo, SV.int .i64 (p.gauges.g i).edge.hi,
 SV.int .i64 (p.gauges.g i).across.lo, SV.int .i64 (p.gauges.g i).across.hi, SV.int .i64 (p.gauges.g i).bend]) ∧ (∀ (i : Nat), i < p.marks.n → [SV.int .i64 (p.marks.g i).edge, SV.int .i64 (p.marks.g i).place, SV.int .i64 (p.marks.g i).tone] = [SV.int .i64 (p.marks.g i).edge, SV.int
 .i64 (p.marks.g i).place, SV.int .i64 (p.marks.g i).tone]) ∧ p.gauges.n ≤ (1000000 : Nat) ∧ p.marks.n ≤ (1000000 : Nat)) ∧ ((!L.validPiece (L.Piece.mk p.id p.colour p.rev p.made p.swell (L.Sq.mk p.gauges.n fun (i : Nat) ↦ p.gauges.g i) (L.Sq.mk p.marks.n fun (i : Nat) ↦ p.marks.g i))) = true → false = L.fitsV p l s ∧ (30 : Int) = L.fitsE p l s) ∧ ((!L.validPiece
 (L.Piece.mk p.id p.colour p.rev p.made p.swell (L.Sq.mk p.gauges.n fun (i : Nat) ↦ p.gauges.g i) (L.Sq.mk p.marks.n fun (i : Nat) ↦ p.marks.g i))) = false → ((∀ (i : Nat), i < l.n → [SV.int .i64 (l.g i).x, SV.int .i64 (l.g i).y] = [SV.int .i64 (l.g i).x, SV.int .i64 (l.g i).y]) ∧ l.n ≤ (1000000 : Nat)) ∧ ((!!L.validOutline
 (L.Sq.mk l.n fun (i : Nat) ↦ l.g i)) = true → True) ∧ ((bif !L.validOutline (L.Sq.mk l.n fun (i : Nat) ↦ l.g i) then true else !L.validSet s (↑p.gauges.n : Int)) = true → false = L.fitsV p l s ∧ (1 : Int) = L.fitsE p l s) ∧ ((bif !L.validOutline (L.Sq.mk l.n fun (i : Nat) ↦ l.g i) then true else !L.validSet s (↑p.gauges.n : Int)) = false → ((∀ (i : Nat), i <
 p.gauges.n → [SV.int .i64 (p.gauges.g i).edge.lo, SV.int .i64 (p.gauges.g i).edge.hi, SV.int .i64 (p.gauges.g i).across.lo, SV.int .i64 (p.gauges.g i).across.hi, SV.int .i64 (p.gauges.g i).bend] = [SV.int .i64 (p.gauges.g i).edge.lo, SV.int .i64 (p.gauges.g i).edge.hi, SV.int
 .i64 (p.gauges.g i).across.lo, SV.int .i64 (p.gauges.g i).across.hi, SV.int .i64 (p.gauges.g i).bend]) ∧ (∀ (i : Nat), i < p.marks.n → [SV.int .i64 (p.marks.g i).edge, SV.int .i64 (p.marks.g i).place, SV.int .i64 (p.marks.g i).tone] = [SV.int .i64 (p.marks.g i).edge, SV.int
 .i64 (p.marks.g i).place, SV.int .i64 (p.marks.g i).tone]) ∧ (∀ (i : Nat), i < l.n → [SV.int .i64 (l.g i).x, SV.int .i64 (l.g i).y] = [SV.int .i64 (l.g i).x, SV.int .i64 (l.g i).y]) ∧ L.fitP (L.Piece.mk p.id p.colour p.rev p.made p.swell (L.Sq.mk p.gauges.n fun (i : Nat) ↦ p.gauges.g i) (L.Sq.mk p.marks.n fun
 (i : Nat) ↦ p.marks.g i)) (L.Sq.mk l.n fun (i : Nat) ↦ l.g i) s) ∧ L.fits (L.Piece.mk p.id p.colour p.rev p.made p.swell (L.Sq.mk p.gauges.n fun (i : Nat) ↦ p.gauges.g i) (L.Sq.mk p.marks.n fun (i : Nat) ↦ p.marks.g i)) (L.Sq.mk l.n fun (i : Nat) ↦ l.g i) s = L.fitsV p l s ∧ (0 : Int) = L.fitsE p l s))) (by kernel_rfl) (by
    obtain ⟨h1, h2, h3⟩ := hp
    refine ⟨⟨fun _ _ => rfl, fun _ _ => rfl, h1, h2⟩, fun h => ?_, fun h => ⟨⟨fun _ _ => rfl, h3⟩, fun _ => trivial, fun h4 => ?_, fun h4 => ?_⟩⟩
    · have hv : L.validPiece p = false := notT h
      have e : L.fitsE p l s = 30 := by unfold L.fitsE; rw [hv]; rfl
      unfold L.fitsV; rw [e]; exact ⟨rfl, rfl⟩
    · have hv : L.validPiece p = true := notF h
      have h4 : (bif !L.validOutline l then true else !L.validSet s p.gauges.n) = true := h4
      have e : L.fitsE p l s = 1 := by unfold L.fitsE; rw [hv, h4]; rfl
      unfold L.fitsV; rw [e]; exact ⟨rfl, rfl⟩
    · have hv : L.validPiece p = true := notF h
      have h4 : (bif !L.validOutline l then true else !L.validSet s p.gauges.n) = false := h4
      have e : L.fitsE p l s = 0 := by unfold L.fitsE; rw [hv, h4]; rfl
      rw [bor, Bool.or_eq_false_iff] at h4
      have hs := validSet_iff.1 (notF h4.2)
      refine ⟨⟨fun _ _ => rfl, fun _ _ => rfl, fun _ _ => rfl, notF h4.1, piece_gauges hv, hs.2.1, hs.2.2⟩, ?_, e.symm⟩
      unfold L.fitsV; rw [e]; rfl)
theorem g_Fits_ok : SpecOk Tryz.prog 48 g_Fits_S := fnX Tryz.func48 (c := bodyOf Tryz.f48) (by kernel_rfl) mixed (fun args p r hs hp => by
  unfold g_Fits_s at hs
  split at hs
  · cases hs; exact ⟨_, _, g_Fits_vc _ _ _ hp.2.2.2, (.p (.agg rfl (fun i hi => by
      rcases i with _ | i
      · exact (Ext.refl _ : Ext _ _)
      rcases i with _ | i
      · exact (Ext.refl _ : Ext _ _)
      rcases i with _ | i
      · exact (Ext.refl _ : Ext _ _)
      rcases i with _ | i
      · exact (Ext.refl _ : Ext _ _)
      rcases i with _ | i
      · exact (Ext.refl _ : Ext _ _)
      rcases i with _ | i
      · exact (Ext.sl hp.1 : Ext _ _)
      rcases i with _ | i
      · exact (Ext.sl hp.2.1 : Ext _ _)
      exact absurd hi (by simp; try omega))) (.p (.sl hp.2.2.1) (.same _ .nil))), ⟨show SpecsL Tryz.prog _ from (SpecsL.cons g_ValidPiece_ok g_ValidPiece_en (SpecsL.cons p_ValidOutline_ok p_ValidOutline_en (SpecsL.cons p_ValidSetting_ok p_ValidSetting_en (SpecsL.cons g_fits_ok g_fits_en SpecsL.nil)))), rfl, ⟨show ItersL Tryz.prog _ from ItersL.nil, (TrsOk.none (fun _ => rfl))⟩⟩⟩
  · cases hs)
theorem g_Fits_en : Enters Tryz.prog 48 := fun args w => by kernel_rfl
def g_Settings_p (p : L.Piece) (l : (L.Sq L.Pt)) : Prop := p.gauges.n ≤ 1000000 ∧ p.marks.n ≤ 1000000 ∧ l.n ≤ 1000000
def g_Settings_r (p : L.Piece) (l : (L.Sq L.Pt)) : SV := .tup [.sl 2 (L.setN p l) (fun k => [.int .i64 ((L.setG p l k).shift), .bool ((L.setG p l k).back)]), .int .i64 (L.setE p l)]
def g_Settings_s : List EV → Option (Prop × SV)
  | [.p (.agg [.int .i64 p_id, .int .i64 p_colour, .int .i64 p_rev, .int .i64 p_made, .int .i64 p_swell, .sl 5 p_gauges_n p_gauges_g, .sl 3 p_marks_n p_marks_g]), .p (.sl 2 l_n l_g)] => some ((∀ i, i < p_gauges_n → p_gauges_g i = [.int .i64 ((ofGauge (p_gauges_g i)).edge.lo), .int .i64 ((ofGauge (p_gauges_g i)).edge.hi), .int .i64 ((ofGauge (p_gauges_g i)).across.lo), .int .i64 ((ofGauge (p_gauges_g i)).across.hi), .int .i64 ((ofGauge (p_gauges_g i)).bend)]) ∧ (∀ i, i < p_marks_n → p_marks_g i = [.int .i64 ((ofMark (p_marks_g i)).edge), .int .i64 ((ofMark (p_marks_g i)).place), .int .i64 ((ofMark (p_marks_g i)).tone)]) ∧ (∀ i, i < l_n → l_g i = [.int .i64 ((ofPt (l_g i)).x), .int .i64 ((ofPt (l_g i)).y)]) ∧ g_Settings_p (⟨p_id, p_colour, p_rev, p_made, p_swell, (⟨p_gauges_n, fun i => ofGauge (p_gauges_g i)⟩ : (L.Sq L.Gauge)), (⟨p_marks_n, fun i => ofMark (p_marks_g i)⟩ : (L.Sq L.Mark))⟩ : L.Piece) (⟨l_n, fun i => ofPt (l_g i)⟩ : (L.Sq L.Pt)), g_Settings_r (⟨p_id, p_colour, p_rev, p_made, p_swell, (⟨p_gauges_n, fun i => ofGauge (p_gauges_g i)⟩ : (L.Sq L.Gauge)), (⟨p_marks_n, fun i => ofMark (p_marks_g i)⟩ : (L.Sq L.Mark))⟩ : L.Piece) (⟨l_n, fun i => ofPt (l_g i)⟩ : (L.Sq L.Pt)))
  | _ => none
abbrev g_Settings_S : SE.Spec := (specO g_Settings_s)
def g_Settings_C : Cfg := { muts := [], frz := lookN [], specs := lookS [(47, g_ValidPiece_S), (32, p_ValidOutline_S), (109, g_all_S), (108, g_fits_S)], loops := lookL [], iters := lookI [(166, g_all1_it)], rfs := lookR [], nils := lookM [(6, [(6, 13, 27, 2)])] }
theorem g_Settings_vc (p : L.Piece) (l : (L.Sq L.Pt)) (hp : g_Settings_p p l) : vc Tryz.prog ({ g_Settings_C with loops := lookL [], rfs := lookR [(7, { T := Nat, keep := [2, 3, 6], keepO := [], own := fun k _ => [(6, .blk 73 [.row 13]), (13, .row 27 2 (L.cnt (L.fitK p l) k) (fun i => [.int .i64 ((L.sett (L.selN (L.fitK p l) k i)).shift), .bool ((L.sett (L.selN (L.fitK p l) k i)).back)]))], inv := fun k _ => k ≤ 2 * p.gauges.n })] }) (bodyOf Tryz.f57) (st0 Tryz.f57 [.p (.agg [.int .i64 p.id, .int .i64 p.colour, .int .i64 p.rev, .int .i64 p.made, .int .i64 p.swell, .sl 5 p.gauges.n (fun i => [.int .i64 ((p.gauges.g i).edge.lo), .int .i64 ((p.gauges.g i).edge.hi), .int .i64 ((p.gauges.g i).across.lo), .int .i64 ((p.gauges.g i).across.hi), .int .i64 ((p.gauges.g i).bend)]), .sl 3 p.marks.n (fun i => [.int .i64 ((p.marks.g i).edge), .int .i64 ((p.marks.g i).place), .int .i64 ((p.marks.g i).tone)])]), .p (.sl 2 l.n (fun i => [.int .i64 ((l.g i).x), .int .i64 ((l.g i).y)]))]) (retFn Tryz.prog Tryz.f57 (g_Settings_r p l)) :=
  @Eq.mpr _ (((∀ (i : Nat), i < p.gauges.n → [SV.int .i64 (p.gauges.g i).edge.lo, SV.int .i64 (p.gauges.g i).edge.hi, SV.int .i64 (p.gauges.g i).across.lo, SV.int .i64 (p.gauges.g i).across.hi, SV.int .i64 (p.gauges.g i).bend] = [SV.int .i64 (p.gauges.g i).edge.lo, SV.int .i64 (p.gauges.g i).edge.hi,
 SV.int .i64 (p.gauges.g i).across.lo, SV.int .i64 (p.gauges.g i).across.hi, SV.int .i64 (p.gauges.g i).bend]) ∧ (∀ (i : Nat), i < p.marks.n → [SV.int .i64 (p.marks.g i).edge, SV.int .i64 (p.marks.g i).place, SV.int .i64 (p.marks.g i).tone] = [SV.int .i64 (p.marks.g i).edge, SV.int
 .i64 (p.marks.g i).place, SV.int .i64 (p.marks.g i).tone]) ∧ p.gauges.n ≤ (1000000 : Nat) ∧ p.marks.n ≤ (1000000 : Nat)) ∧ ((!L.validPiece (L.Piece.mk p.id p.colour p.rev p.made p.swell (L.Sq.mk p.gauges.n fun (i : Nat) ↦ p.gauges.g i) (L.Sq.mk p.marks.n fun (i : Nat) ↦ p.marks.g i))) = true → L.setN p l = (0 : Nat) ∧ (30 : Int) = L.setE p l) ∧ ((!L.validPiece
 (L.Piece.mk p.id p.colour p.rev p.made p.swell (L.Sq.mk p.gauges.n fun (i : Nat) ↦ p.gauges.g i) (L.Sq.mk p.marks.n fun (i : Nat) ↦ p.marks.g i))) = false → ((∀ (i : Nat), i < l.n → [SV.int .i64 (l.g i).x, SV.int .i64 (l.g i).y] = [SV.int .i64 (l.g i).x, SV.int .i64 (l.g i).y]) ∧ l.n ≤ (1000000 : Nat)) ∧ ((!L.validOutline
 (L.Sq.mk l.n fun (i : Nat) ↦ l.g i)) = true → L.setN p l = (0 : Nat) ∧ (1 : Int) = L.setE p l) ∧ ((!L.validOutline (L.Sq.mk l.n fun (i : Nat) ↦ l.g i)) = false → True ∧ (((0 : Int) ≤ (↑p.gauges.n : Int) ∧ (↑p.gauges.n : Int) ≤ (1000 : Int)) ∧ ∃ (t : Nat), (nat_lit 0 = L.cnt (L.fitK p l) (0 : Nat) ∧ ∀ (i : Nat), i < nat_lit 0 → [] = [SV.int .i64 (L.sett (L.selN (L.fitK p
 l) (0 : Nat) i)).shift, SV.bool (L.sett (L.selN (L.fitK p l) (0 : Nat) i)).back]) ∧ (0 : Nat) ≤ (2 : Nat) * p.gauges.n) ∧ (∀ (k t : Nat) (vk : Nat → Go.Value), k < Int.toNat ((2 : Int) * (↑p.gauges.n : Int)) → k ≤ (2 : Nat) * p.gauges.n → ((∀ (i : Nat), i < p.gauges.n → [SV.int .i64 (p.gauges.g i).edge.lo, SV.int .i64 (p.gauges.g i).edge.hi, SV.int
 .i64 (p.gauges.g i).across.lo, SV.int .i64 (p.gauges.g i).across.hi, SV.int .i64 (p.gauges.g i).bend] = [SV.int .i64 (p.gauges.g i).edge.lo, SV.int .i64 (p.gauges.g i).edge.hi, SV.int .i64 (p.gauges.g i).across.lo, SV.int .i64 (p.gauges.g i).across.hi, SV.int .i64 (p.gauges.g
 i).bend]) ∧ (∀ (i : Nat), i < p.marks.n → [SV.int .i64 (p.marks.g i).edge, SV.int .i64 (p.marks.g i).place, SV.int .i64 (p.marks.g i).tone] = [SV.int .i64 (p.marks.g i).edge, SV.int .i64 (p.marks.g i).place, SV.int .i64 (p.marks.g i).tone]) ∧ (∀ (i : Nat), i < l.n → [SV.int .i64 (l.g
 i).x, SV.int .i64 (l.g i).y] = [SV.int .i64 (l.g i).x, SV.int .i64 (l.g i).y]) ∧ L.fitP (L.Piece.mk p.id p.colour p.rev p.made p.swell (L.Sq.mk p.gauges.n fun (i : Nat) ↦ p.gauges.g i) (L.Sq.mk p.marks.n fun (i : Nat) ↦ p.marks.g i)) (L.Sq.mk l.n fun (i : Nat) ↦ l.g i) (L.sett k)) ∧ (L.fits (L.Piece.mk p.id p.colour p.rev p.made p.swell (L.Sq.mk
 p.gauges.n fun (i : Nat) ↦ p.gauges.g i) (L.Sq.mk p.marks.n fun (i : Nat) ↦ p.marks.g i)) (L.Sq.mk l.n fun (i : Nat) ↦ l.g i) (L.sett k) = true → (L.cnt (L.fitK p l) k + nat_lit 1) * nat_lit 16 ≤ (140737488355328 : Nat) ∧ ∃ (t' : Nat), nat_lit 0 = nat_lit 0 ∧ SV.ref [SV.sl (nat_lit 2) l.n fun (i : Nat) ↦ [SV.int .i64 (l.g i).x, SV.int .i64 (l.g
 i).y]] (nat_lit 0) = SV.ref [SV.sl (nat_lit 2) l.n fun (i : Nat) ↦ [SV.int .i64 (l.g i).x, SV.int .i64 (l.g i).y]] (nat_lit 0) ∧ SV.ref [SV.int .i64 p.id, SV.int .i64 p.colour, SV.int .i64 p.rev, SV.int .i64 p.made, SV.int .i64 p.swell, SV.sl (nat_lit 5)
 p.gauges.n fun (i : Nat) ↦ [SV.int .i64 (p.gauges.g i).edge.lo, SV.int .i64 (p.gauges.g i).edge.hi, SV.int .i64 (p.gauges.g i).across.lo, SV.int .i64 (p.gauges.g i).across.hi, SV.int .i64 (p.gauges.g i).bend], SV.sl (nat_lit 3) p.marks.n fun (i : Nat) ↦ [SV.int .i64 (p.marks.g i).edge,
 SV.int .i64 (p.marks.g i).place, SV.int .i64 (p.marks.g i).tone]] (nat_lit 0) = SV.ref [SV.int .i64 p.id, SV.int .i64 p.colour, SV.int .i64 p.rev, SV.int .i64 p.made, SV.int .i64 p.swell, SV.sl (nat_lit 5) p.gauges.n fun (i : Nat) ↦ [SV.int .i64 (p.gauges.g
 i).edge.lo, SV.int .i64 (p.gauges.g i).edge.hi, SV.int .i64 (p.gauges.g i).across.lo, SV.int .i64 (p.gauges.g i).across.hi, SV.int .i64 (p.gauges.g i).bend], SV.sl (nat_lit 3) p.marks.n fun (i : Nat) ↦ [SV.int .i64 (p.marks.g i).edge, SV.int .i64 (p.marks.g i).place, SV.int .i64
 (p.marks.g i).tone]] (nat_lit 0) ∧ vk (nat_lit 6) = vk (nat_lit 6) ∧ vk (nat_lit 3) = vk (nat_lit 3) ∧ vk (nat_lit 2) = vk (nat_lit 2) ∧ (L.cnt (L.fitK p l) k + nat_lit 1 = L.cnt (L.fitK p l) (k + (1 : Nat)) ∧ ∀ (i : Nat), i < L.cnt (L.fitK p l) k + nat_lit 1 → appGet (L.cnt (L.fitK p l) k) (fun (i : Nat) ↦ [SV.int .i64 (L.sett (L.selN (L.fitK p l) k i)).shift, SV.bool
 (L.sett (L.selN (L.fitK p l) k i)).back]) (fun (x : Nat) ↦ [SV.int .i64 (L.sett k).shift, SV.bool (L.sett k).back]) i = [SV.int .i64 (L.sett (L.selN (L.fitK p l) (k + (1 : Nat)) i)).shift, SV.bool (L.sett (L.selN (L.fitK p l) (k + (1 : Nat)) i)).back]) ∧ k + (1 : Nat) ≤ (2 : Nat) * p.gauges.n) ∧ (L.fits (L.Piece.mk p.id p.colour p.rev p.made p.swell
 (L.Sq.mk p.gauges.n fun (i : Nat) ↦ p.gauges.g i) (L.Sq.mk p.marks.n fun (i : Nat) ↦ p.marks.g i)) (L.Sq.mk l.n fun (i : Nat) ↦ l.g i) (L.sett k) = false → ∃ (t' : Nat), nat_lit 0 = nat_lit 0 ∧ SV.ref [SV.sl (nat_lit 2) l.n fun (i : Nat) ↦ [SV.int .i64 (l.g i).x, SV.int .i64 (l.g i).y]] (nat_lit 0) = SV.ref [SV.sl (nat_lit 2) l.n fun (i
 : Nat) ↦ [SV.int .i64 (l.g i).x, SV.int .i64 (l.g i).y]] (nat_lit 0) ∧ SV.ref [SV.int .i64 p.id, SV.int .i64 p.colour, SV.int .i64 p.rev, SV.int .i64 p.made, SV.int .i64 p.swell, SV.sl (nat_lit 5) p.gauges.n fun (i : Nat) ↦ [SV.int .i64 (p.gauges.g i).edge.lo,
 SV.int .i64 (p.gauges.g i).edge.hi, SV.int .i64 (p.gauges.g i).across.lo, SV.int .i64 (p.gauges.g i).across.hi, SV.int .i64 (p.gauges.g i).bend], SV.sl (nat_lit 3) p.marks.n fun (i : Nat) ↦ [SV.int .i64 (p.marks.g i).edge, SV.int .i64 (p.marks.g i).place, SV.int .i64 (p.marks.g
 i).tone]] (nat_lit 0) = SV.ref [SV.int .i64 p.id, SV.int .i64 p.colour, SV.int .i64 p.rev, SV.int .i64 p.made, SV.int .i64 p.swell, SV.sl (nat_lit 5) p.gauges.n fun (i : Nat) ↦ [SV.int .i64 (p.gauges.g i).edge.lo, SV.int .i64 (p.gauges.g i).edge.hi, SV.int
 .i64 (p.gauges.g i).across.lo, SV.int .i64 (p.gauges.g i).across.hi, SV.int .i64 (p.gauges.g i).bend], SV.sl (nat_lit 3) p.marks.n fun (i : Nat) ↦ [SV.int .i64 (p.marks.g i).edge, SV.int .i64 (p.marks.g i).place, SV.int .i64 (p.marks.g i).tone]] (nat_lit 0) ∧ vk (nat_lit 6) = vk (nat_lit 6) ∧ vk
 (nat_lit 3) = vk (nat_lit 3) ∧ vk (nat_lit 2) = vk (nat_lit 2) ∧ (L.cnt (L.fitK p l) k = L.cnt (L.fitK p l) (k + (1 : Nat)) ∧ ∀ (i : Nat), i < L.cnt (L.fitK p l) k → [SV.int .i64 (L.sett (L.selN (L.fitK p l) k i)).shift, SV.bool (L.sett (L.selN (L.fitK p l) k i)).back] = [SV.int .i64 (L.sett (L.selN (L.fitK p l) (k + (1 : Nat)) i)).shift, SV.bool (L.sett
 (L.selN (L.fitK p l) (k + (1 : Nat)) i)).back]) ∧ k + (1 : Nat) ≤ (2 : Nat) * p.gauges.n)) ∧ ∀ (t : Nat), Int.toNat ((2 : Int) * (↑p.gauges.n : Int)) ≤ (2 : Nat) * p.gauges.n → (L.cnt (L.fitK p l) (Int.toNat ((2 : Int) * (↑p.gauges.n : Int))) = L.setN p l ∧ ∀ (i : Nat), i < L.cnt (L.fitK p l) (Int.toNat ((2 : Int) * (↑p.gauges.n : Int))) → [SV.int .i64 (L.sett (L.selN (L.fitK p l)
 (Int.toNat ((2 : Int) * (↑p.gauges.n : Int))) i)).shift, SV.bool (L.sett (L.selN (L.fitK p l) (Int.toNat ((2 : Int) * (↑p.gauges.n : Int))) i)).back] = [SV.int .i64 (L.setG p l i).shift, SV.bool (L.setG p l i).back]) ∧ (0 : Int) = L.setE p l))) (by kernel_rfl) (by
    obtain ⟨h1, h2, h3⟩ := hp
    refine ⟨⟨fun _ _ => rfl, fun _ _ => rfl, h1, h2⟩, fun h => ?_, fun h => ⟨⟨fun _ _ => rfl, h3⟩, fun h4 => ?_, fun h4 => ?_⟩⟩
    · have hv : L.validPiece p = false := notT h
      have e : L.setE p l = 30 := by unfold L.setE; rw [hv]; rfl
      unfold L.setN; rw [e]; exact ⟨rfl, rfl⟩
    · have hv : L.validPiece p = true := notF h
      have hv2 : L.validOutline l = false := notT h4
      have e : L.setE p l = 1 := by unfold L.setE; rw [hv, hv2]; rfl
      unfold L.setN; rw [e]; exact ⟨rfl, rfl⟩
    have hv : L.validPiece p = true := notF h
    have hv2 : L.validOutline l = true := notF h4
    have e : L.setE p l = 0 := by unfold L.setE; rw [hv, hv2]; rfl
    have hgg := piece_gauges hv
    obtain ⟨⟨g3, g24⟩, hg⟩ := gauge_ok hgg
    have et : (2 * (p.gauges.n : Int)).toNat = 2 * p.gauges.n := by omega
    rw [et]
    refine ⟨trivial, ⟨by omega, (0 : Nat), ⟨rfl, fun i hi => absurd hi (Nat.not_lt_zero _)⟩, Nat.zero_le _⟩, fun k t vk hk hi => ?_, fun t _ => ⟨⟨?_, fun i hi => rfl⟩, e.symm⟩⟩
    · have hs := sett_lt hk
      have hc := cnt_le (p := L.fitK p l) (n := k)
      refine ⟨⟨fun _ _ => rfl, fun _ _ => rfl, fun _ _ => rfl, hv2, hgg, hs.1, hs.2⟩, fun h5 => ?_, fun h5 => ?_⟩
      · have h5 : L.fitK p l k = true := h5
        have c1 := cnt_yes h5
        refine ⟨show (L.cnt (L.fitK p l) k + 1) * 16 ≤ 140737488355328 by omega, t, rfl, rfl, rfl, rfl, rfl, rfl, ⟨c1.symm, fun i hi => ?_⟩, by omega⟩
        have hi : i < L.cnt (L.fitK p l) k + 1 := hi
        unfold appGet
        by_cases h' : i < L.cnt (L.fitK p l) k
        · rw [if_pos h', selN_old (Nat.ne_of_lt h')]
        · have : i = L.cnt (L.fitK p l) k := by omega
          rw [if_neg h', this, selN_new h5]
      · have h5 : L.fitK p l k = false := h5
        exact ⟨t, rfl, rfl, rfl, rfl, rfl, rfl, ⟨(cnt_not h5).symm, fun i hi => by rw [selN_not h5]⟩, by omega⟩
    · unfold L.setN; rw [e]; rfl)
theorem g_Settings_ok : SpecOk Tryz.prog 57 g_Settings_S := fnX Tryz.func57 (c := bodyOf Tryz.f57) (by kernel_rfl) mixed (fun args p r hs hp => by
  unfold g_Settings_s at hs
  split at hs
  · cases hs; exact ⟨_, _, g_Settings_vc _ _ hp.2.2.2, (.p (.agg rfl (fun i hi => by
      rcases i with _ | i
      · exact (Ext.refl _ : Ext _ _)
      rcases i with _ | i
      · exact (Ext.refl _ : Ext _ _)
      rcases i with _ | i
      · exact (Ext.refl _ : Ext _ _)
      rcases i with _ | i
      · exact (Ext.refl _ : Ext _ _)
      rcases i with _ | i
      · exact (Ext.refl _ : Ext _ _)
      rcases i with _ | i
      · exact (Ext.sl hp.1 : Ext _ _)
      rcases i with _ | i
      · exact (Ext.sl hp.2.1 : Ext _ _)
      exact absurd hi (by simp; try omega))) (.p (.sl hp.2.2.1) .nil)), ⟨show SpecsL Tryz.prog _ from (SpecsL.cons g_ValidPiece_ok g_ValidPiece_en (SpecsL.cons p_ValidOutline_ok p_ValidOutline_en (SpecsL.cons g_all_ok g_all_en (SpecsL.cons g_fits_ok g_fits_en SpecsL.nil)))), rfl, ⟨show ItersL Tryz.prog _ from (ItersL.cons g_all1_itok g_all1_en ItersL.nil), (TrsOk.none (fun _ => rfl))⟩⟩⟩
  · cases hs)
theorem g_Settings_en : Enters Tryz.prog 57 := fun args w => by kernel_rfl
end Go.Proofs.YtooapgllahonaaaGreat

namespace Go.Proofs.YtooapgllahonaaaGreat
open Go.SE Go.RowKit
set_option maxRecDepth 100000
set_option maxHeartbeats 4000000
set_option linter.unusedVariables false
attribute [local irreducible] vc

theorem rsM1_inj {s : L.Setting} {n : Nat} {a b : L.Mark} (hs : L.validSet s n = true) (a0 : 0 ≤ a.edge) (a1 : a.edge < n) (b0 : 0 ≤ b.edge) (b1 : b.edge < n) (h : L.rsM1 s n a = L.rsM1 s n b) : a = b := by
  have i := inv_ok hs
  have e1 := rsM1_comp hs i.2.1 a0 a1
  have e2 := rsM1_comp hs i.2.1 b0 b1
  rw [h, e2, i.2.2] at e1
  have one : ∀ m : L.Mark, 0 ≤ m.edge → m.edge < n → L.rsM1 L.one n m = m := fun m h0 h1 => mk_ext (lay_one h0 h1) rfl rfl
  rw [one a a0 a1, one b b0 b1] at e1
  exact e1.symm
theorem rs_marks {p : L.Piece} {s : L.Setting} (hv : L.validPiece p = true) (hs : L.validSet s p.gauges.n = true) : L.vMarks (L.rs p s).marks p.gauges.n = true := by
  obtain ⟨_, hg, hm⟩ := piece_of hv
  have hmk := marks_in hm
  have hasc := marks_asc hm
  have hL : L.listMk (L.rs p s).marks = L.isortMk ((L.listMk p.marks).map (L.rsM1 s p.gauges.n)) := by
    show L.listMk (L.sortM (L.rsMs p.marks s p.gauges.n)) = _
    rw [list_sortM, list_rsMs]
  have hn : (L.rs p s).marks.n = p.marks.n := rfl
  have hnd : (L.listMk (L.rs p s).marks).Pairwise (fun a b => a ≠ b) := by
    rw [hL]
    refine ((isortMk_perm _).pairwise_iff (fun {a b} h e => h e.symm)).2 ?_
    rw [List.pairwise_map]
    refine hasc.imp_of_mem fun {a b} ha hb h e => ?_
    obtain ⟨i, hi, rfl⟩ := mem_listMk.1 ha
    obtain ⟨j, hj, rfl⟩ := mem_listMk.1 hb
    have := rsM1_inj hs (hmk.2 i hi).1.1 (hmk.2 i hi).1.2 (hmk.2 j hj).1.1 (hmk.2 j hj).1.2 e
    rw [this, cmpMk_lt] at h
    omega
  have hle : (L.listMk (L.rs p s).marks).Pairwise L.leMk := by rw [hL]; exact isortMk_asc _
  have hlt : ∀ i, i + 1 < p.marks.n → L.cmpMark ((L.rs p s).marks.g i) ((L.rs p s).marks.g (i + 1)) < 0 := fun i hi => by
    have h1 := List.pairwise_iff_getElem.1 hle i (i + 1) (by simp [L.listMk, hn]; omega) (by simp [L.listMk, hn]; omega) (Nat.lt_succ_self i)
    have h2 := List.pairwise_iff_getElem.1 hnd i (i + 1) (by simp [L.listMk, hn]; omega) (by simp [L.listMk, hn]; omega) (Nat.lt_succ_self i)
    simp only [L.listMk, List.getElem_map, List.getElem_range] at h1 h2
    unfold L.leMk at h1
    rw [cmpMk_le] at h1
    rw [cmpMk_lt]
    have h3 : ¬ (((L.rs p s).marks.g i).edge = ((L.rs p s).marks.g (i + 1)).edge ∧ ((L.rs p s).marks.g i).place = ((L.rs p s).marks.g (i + 1)).place ∧ ((L.rs p s).marks.g i).tone = ((L.rs p s).marks.g (i + 1)).tone) := fun h => h2 (mk_ext h.1 h.2.1 h.2.2)
    omega
  have hin : ∀ i, i < p.marks.n → ∃ q, q < p.marks.n ∧ (L.rs p s).marks.g i = L.rsM1 s p.gauges.n (p.marks.g q) := fun i hi => by
    have h1 : (L.rs p s).marks.g i ∈ L.listMk (L.rs p s).marks := mem_listMk.2 ⟨i, hi, rfl⟩
    rw [hL] at h1
    obtain ⟨m, h2, h3⟩ := List.mem_map.1 ((isortMk_perm _).mem_iff.1 h1)
    obtain ⟨q, h4, rfl⟩ := mem_listMk.1 h2
    exact ⟨q, h4, h3.symm⟩
  unfold L.vMarks L.marks L.edges
  simp only [band, Bool.and_eq_true, decide_eq_true_eq, allB_iff]
  refine ⟨fun i hi => ?_, by rw [hn]; omega, fun i hi => ?_⟩
  · obtain ⟨q, h1, h2⟩ := hin i hi
    have m := hmk.2 q h1
    obtain ⟨_, a, b⟩ := lay_comp hs hs m.1.1 m.1.2
    rw [h2]
    exact within_iff.2 ⟨a, by show L.lay s p.gauges.n (p.marks.g q).edge ≤ _; omega⟩
  · obtain ⟨q, h1, h2⟩ := hin i hi
    have m := (hmk.2 q h1).2
    unfold L.mark1
    rw [Bool.and_eq_true, Bool.and_eq_true]
    refine ⟨⟨?_, ?_⟩, ?_⟩
    · rw [h2]
      show L.within (bif s.back then 16 - (p.marks.g q).place else (p.marks.g q).place) 0 16 = true
      refine within_iff.2 ?_
      cases s.back
      · exact m.1
      · rw [cond_true]; omega
    · rw [h2]
      exact within_iff.2 m.2
    · by_cases h0 : 0 < i
      · rw [decide_eq_true h0, cond_true, ← cmpMark_lt]
        have := hlt (i - 1) (by rw [hn] at hi; omega)
        rwa [show i - 1 + 1 = i by omega] at this
      · rw [decide_eq_false h0]; rfl
theorem gauge_in {l : L.Sq L.Gauge} (h : L.gauges l = true) : ∀ i, i < l.n → L.vGauge (l.g i) = true := by
  unfold L.gauges at h
  rw [band, Bool.and_eq_true, allB_iff] at h
  exact h.2
theorem rs_valid {p : L.Piece} {s : L.Setting} (hv : L.validPiece p = true) (hs : L.validSet s p.gauges.n = true) : L.validPiece (L.rs p s) = true := by
  obtain ⟨hnum, hg, hm⟩ := piece_of hv
  have hgn := gauges_n hg
  have hgi := gauge_in hg
  have hn0 : 0 < p.gauges.n := by omega
  have w1 : L.nums (L.rs p s) = true := by
    unfold L.nums at hnum ⊢
    simp only [band, Bool.and_eq_true] at hnum ⊢
    obtain ⟨⟨⟨⟨a, b⟩, c⟩, d⟩, e⟩ := hnum
    refine ⟨⟨⟨⟨a, ?_⟩, ?_⟩, d⟩, e⟩
    · show L.within (bif s.back then p.rev else p.colour) 1 16 = true
      cases s.back
      · exact b
      · exact c
    · show L.within (bif s.back then p.colour else p.rev) 1 16 = true
      cases s.back
      · exact c
      · exact b
  have w2 : L.gauges (L.rs p s).gauges = true := by
    unfold L.gauges
    rw [band, Bool.and_eq_true, allB_iff]
    refine ⟨within_iff.2 (show 3 ≤ (p.gauges.n : Int) ∧ (p.gauges.n : Int) ≤ 24 by omega), fun j hj => ?_⟩
    show L.vGauge (L.rsG1 p s (L.rsI s p.gauges.n j)) = true
    have h1 := hgi _ (rsI_lt s hn0 j)
    have h2 := hgi _ (prevI_lt (k := L.rsI s p.gauges.n j) hn0)
    unfold L.rsG1
    cases s.back with
    | false => exact h1
    | true =>
      unfold L.vGauge at h1 h2 ⊢
      simp only [band, Bool.and_eq_true, cond_true] at h1 h2 ⊢
      exact ⟨⟨h1.1.1, h2.1.2⟩, h2.2⟩
  unfold L.validPiece
  rw [w1, w2, show (L.rs p s).gauges.n = p.gauges.n from rfl, rs_marks hv hs]; rfl
def L.mB (l : L.Sq L.Pt) (x : Int) : L.Meas := ⟨L.dist (l.g (L.ix l.n x)) (l.g (L.ix l.n (x + 1))), L.dist (l.g (L.ix l.n (x - 1))) (l.g (L.ix l.n (x + 1))), L.bendR l x⟩
def L.mF (l : L.Sq L.Pt) (x : Int) : L.Meas := ⟨L.dist (l.g (L.ix l.n x)) (l.g (L.ix l.n (x + 1))), L.dist (l.g (L.ix l.n x)) (l.g (L.ix l.n (x + 2))), L.bendR l (x + 1)⟩
theorem measR_is (l : L.Sq L.Pt) (s : L.Setting) (a : Int) : L.measR l s a = bif s.back then L.mB l (s.shift - a) else L.mF l (s.shift + a) := by
  unfold L.measR
  cases s.back <;> rfl
theorem ix_0 {n : Nat} {x y : Int} (hn : 0 < n) (h : x % (n : Int) = y % (n : Int)) : L.ix n x = L.ix n y := by
  have := ix_congr hn h 0
  rwa [Int.add_zero, Int.add_zero] at this
theorem bendR_mod {l : L.Sq L.Pt} {x y : Int} (hn : 0 < l.n) (h : x % (l.n : Int) = y % (l.n : Int)) (c : Int) : L.bendR l (x + c) = L.bendR l (y + c) := by
  unfold L.bendR
  rw [show x + c - 1 = x + (c - 1) by omega, show y + c - 1 = y + (c - 1) by omega, show x + c + 1 = x + (c + 1) by omega, show y + c + 1 = y + (c + 1) by omega, ix_congr hn h, ix_congr hn h, ix_congr hn h]
theorem mB_mod {l : L.Sq L.Pt} {x y : Int} (hn : 0 < l.n) (h : x % (l.n : Int) = y % (l.n : Int)) : L.mB l x = L.mB l y := by
  unfold L.mB
  have := bendR_mod hn h 0
  rw [Int.add_zero, Int.add_zero] at this
  rw [ix_0 hn h, ix_congr hn h, show x - 1 = x + -1 by omega, show y - 1 = y + -1 by omega, ix_congr hn h, this]
theorem mF_mod {l : L.Sq L.Pt} {x y : Int} (hn : 0 < l.n) (h : x % (l.n : Int) = y % (l.n : Int)) : L.mF l x = L.mF l y := by
  unfold L.mF
  rw [ix_0 hn h, ix_congr hn h, ix_congr hn h, bendR_mod hn h]
theorem mB_next (l : L.Sq L.Pt) (x : Int) : (L.mB l (x + 1)).across = (L.mF l x).across ∧ (L.mB l (x + 1)).bend = (L.mF l x).bend := by
  unfold L.mB L.mF
  dsimp only
  rw [show x + 1 - 1 = x by omega, show x + 1 + 1 = x + 2 by omega]
  exact ⟨rfl, rfl⟩
theorem measR_mod {l : L.Sq L.Pt} {s : L.Setting} {a b : Int} (hn : 0 < l.n) (h : a % (l.n : Int) = b % (l.n : Int)) : L.measR l s a = L.measR l s b := by
  rw [measR_is, measR_is]
  cases s.back with
  | false => exact mF_mod hn (by rw [Int.add_emod, h, ← Int.add_emod])
  | true => exact mB_mod hn (by rw [Int.sub_emod, h, ← Int.sub_emod])
theorem meas_comp {l : L.Sq L.Pt} {s t : L.Setting} (hn : 0 < l.n) (hs : L.validSet s l.n = true) (ht : L.validSet t l.n = true) (a : Int) : (L.measR l t (s.shift + L.sg s.back * a)).edge = (L.measR l (L.comp s t l.n) a).edge ∧
    (L.measR l t (s.shift + L.sg s.back * a)).across = (L.measR l (L.comp s t l.n) (bif s.back then a - 1 else a)).across ∧ (L.measR l t (s.shift + L.sg s.back * a)).bend = (L.measR l (L.comp s t l.n) (bif s.back then a - 1 else a)).bend := by
  obtain ⟨_, ec, _⟩ := comp_ok hs ht
  have k : ∀ a b : Bool, (!(a == b)) = (bif a then !b else b) := fun a b => by cases a <;> cases b <;> rfl
  rw [ec, measR_is, measR_is, measR_is, k]
  dsimp only
  have F : ∀ x y : Int, x % (l.n : Int) = y % (l.n : Int) → ∀ c : Int, L.mF l (x + c) = L.mF l (y + c) := fun x y h c => mF_mod hn (by rw [Int.add_emod, h, ← Int.add_emod])
  have B : ∀ x y : Int, x % (l.n : Int) = y % (l.n : Int) → ∀ c : Int, L.mB l (x + c) = L.mB l (y + c) := fun x y h c => mB_mod hn (by rw [Int.add_emod, h, ← Int.add_emod])
  have E : ((t.shift + L.sg t.back * s.shift) % (l.n : Int)) % (l.n : Int) = (t.shift + L.sg t.back * s.shift) % (l.n : Int) := Int.emod_emod _ _
  cases hs1 : s.back <;> cases ht1 : t.back <;> rw [ht1] at E <;> simp only [L.sg, cond_true, cond_false, Bool.not_false, Bool.not_true] at E ⊢
  · rw [F _ _ E a, show t.shift + (s.shift + 1 * a) = t.shift + 1 * s.shift + a by omega]
    exact ⟨rfl, rfl, rfl⟩
  · have := B _ _ E (-a)
    rw [show ∀ x : Int, x - a = x + -a from fun x => by omega, this, show t.shift - (s.shift + 1 * a) = t.shift + -1 * s.shift + -a by omega]
    exact ⟨rfl, rfl, rfl⟩
  · have h1 := B _ _ E (-a)
    have h2 := B _ _ E (-a + 1)
    rw [show ∀ x : Int, x - a = x + -a from fun x => by omega, show ∀ x : Int, x - (a - 1) = x + (-a + 1) from fun x => by omega, h1, h2, show t.shift + (s.shift + -1 * a) = t.shift + 1 * s.shift + -a by omega, show t.shift + 1 * s.shift + (-a + 1) = t.shift + 1 * s.shift + -a + 1 by omega]
    have h3 := mB_next l (t.shift + 1 * s.shift + -a)
    exact ⟨rfl, h3.1.symm, h3.2.symm⟩
  · have h1 := F _ _ E a
    have h2 := F _ _ E (a - 1)
    rw [h1, h2, show t.shift - (s.shift + -1 * a) = t.shift + -1 * s.shift + (a - 1) + 1 by omega, show t.shift + -1 * s.shift + a = t.shift + -1 * s.shift + (a - 1) + 1 by omega]
    have h3 := mB_next l (t.shift + -1 * s.shift + (a - 1))
    exact ⟨rfl, h3.1, h3.2⟩
end Go.Proofs.YtooapgllahonaaaGreat

namespace Go.Proofs.YtooapgllahonaaaGreat
open Go.SE Go.RowKit
set_option maxRecDepth 100000
set_option maxHeartbeats 4000000
set_option linter.unusedVariables false
attribute [local irreducible] vc

def L.pE (p : L.Piece) (l : L.Sq L.Pt) (s : L.Setting) (i : Nat) : Prop := L.within (L.measR l s i).edge (p.gauges.g i).edge.lo (p.gauges.g i).edge.hi = true
def L.pA (p : L.Piece) (l : L.Sq L.Pt) (s : L.Setting) (i : Nat) : Prop := L.within (L.measR l s i).across (p.gauges.g i).across.lo (p.gauges.g i).across.hi = true ∧ ((p.gauges.g i).bend = 0 ∨ (p.gauges.g i).bend = (L.measR l s i).bend)
theorem holds_iff {g : L.Gauge} {m : L.Meas} : L.holdsR g m = true ↔ L.within m.edge g.edge.lo g.edge.hi = true ∧ L.within m.across g.across.lo g.across.hi = true ∧ (g.bend = 0 ∨ g.bend = m.bend) := by
  unfold L.holdsR
  rw [band, band, bor, Bool.and_eq_true, Bool.and_eq_true, Bool.or_eq_true, decide_eq_true_eq, decide_eq_true_eq, and_assoc]
theorem holds_rs {p : L.Piece} {l : L.Sq L.Pt} {s t : L.Setting} (hn : l.n = p.gauges.n) (hs : L.validSet s p.gauges.n = true) (ht : L.validSet t p.gauges.n = true) {i : Nat} (hi : i < p.gauges.n) : L.holdsR (L.rsG1 p s i) (L.measR l t (L.lay s p.gauges.n i)) = true ↔ L.pE p l (L.comp s t p.gauges.n) i ∧ L.pA p l (L.comp s t p.gauges.n) (bif s.back then L.prev p.gauges.n i else i) := by
  have vs := validSet_iff.1 hs
  have hn0 : 0 < l.n := by omega
  obtain ⟨m1, m2, m3⟩ := meas_comp (l := l) hn0 (by rw [hn]; exact hs) (by rw [hn]; exact ht) (i : Int)
  have hlay := lay_lin (s := s) (n := p.gauges.n) (i := i) vs.2.1 vs.2.2 (by omega) (by omega)
  have hm : L.measR l t (L.lay s p.gauges.n i) = L.measR l t (s.shift + L.sg s.back * i) := measR_mod hn0 (by rw [hlay, hn, Int.emod_emod])
  rw [hm, holds_iff, m1, m2, m3, hn]
  unfold L.pE L.pA L.rsG1
  cases s.back with
  | false => exact Iff.rfl
  | true =>
    have hp : L.measR l (L.comp s t p.gauges.n) ((i : Int) - 1) = L.measR l (L.comp s t p.gauges.n) ((L.prev p.gauges.n i : Nat) : Int) := measR_mod hn0 (by rw [prev_int (by omega), hn, Int.emod_emod])
    simp only [cond_true]
    rw [hp]
theorem all_prev {n : Nat} {P : Nat → Prop} (h : ∀ i, i < n → P (L.prev n i)) : ∀ i, i < n → P i := fun i hi => by
  have hn : 0 < n := by omega
  have h1 := ix_lt (n := n) (i := (i : Int) + 1) hn
  have h2 := ix_emod (n := n) (a := (i : Int) + 1) hn
  have h3 := prev_int (n := n) (k := L.ix n ((i : Int) + 1)) hn
  rw [h2, Int.emod_sub_emod, show (i : Int) + 1 - 1 = i by omega, Int.emod_eq_of_lt (by omega) (by omega)] at h3
  have h4 : L.prev n (L.ix n ((i : Int) + 1)) = i := by omega
  have := h _ h1
  rwa [h4] at this
theorem fits_comp {p : L.Piece} {l : L.Sq L.Pt} {s t : L.Setting} (hl : L.validOutline l = true) (hs : L.validSet s p.gauges.n = true) (ht : L.validSet t p.gauges.n = true) : L.fits (L.rs p s) l t = L.fits p l (L.comp s t p.gauges.n) := by
  have gn : (L.rs p s).gauges.n = p.gauges.n := rfl
  have vt := validSet_iff.1 ht
  have vc := validSet_iff.1 (comp_ok hs ht).2.2
  unfold L.fits
  rw [gn]
  by_cases hn : l.n = p.gauges.n
  · rw [decide_eq_true (show (l.n : Int) = (p.gauges.n : Int) by omega), cond_true, cond_true, Bool.eq_iff_iff, allB_iff, allB_iff]
    have e1 : ∀ j, j < l.n → L.meas l t j = L.measR l t j := fun j hj => meas_eq hl vt.2.1 (by rw [hn]; exact vt.2.2) hj
    have e2 : ∀ j, j < l.n → L.meas l (L.comp s t p.gauges.n) j = L.measR l (L.comp s t p.gauges.n) j := fun j hj => meas_eq hl vc.2.1 (by rw [hn]; exact vc.2.2) hj
    have key : (∀ j, j < l.n → L.holdsR ((L.rs p s).gauges.g j) (L.meas l t j) = true) ↔ ∀ i, i < p.gauges.n → L.pE p l (L.comp s t p.gauges.n) i ∧ L.pA p l (L.comp s t p.gauges.n) (bif s.back then L.prev p.gauges.n i else i) := by
      constructor
      · intro h i hi
        obtain ⟨a, b, c⟩ := rsI_lay hs hi
        have h1 := h (L.lay s p.gauges.n i).toNat (by omega)
        rw [e1 _ (by omega)] at h1
        have h2 : (L.rs p s).gauges.g (L.lay s p.gauges.n i).toNat = L.rsG1 p s (L.rsI s p.gauges.n (L.lay s p.gauges.n i).toNat) := rfl
        rw [h2, c, Int.toNat_of_nonneg a] at h1
        exact (holds_rs hn hs ht hi).1 h1
      · intro h j hj
        obtain ⟨a, b⟩ := lay_rsI hs (show j < p.gauges.n by omega)
        have h1 := (holds_rs hn hs ht a).2 (h _ a)
        rw [b] at h1
        rw [e1 j hj]
        exact h1
    have key2 : (∀ i, i < l.n → L.holdsR (p.gauges.g i) (L.meas l (L.comp s t p.gauges.n) i) = true) ↔ ∀ i, i < p.gauges.n → L.pE p l (L.comp s t p.gauges.n) i ∧ L.pA p l (L.comp s t p.gauges.n) i := by
      constructor
      · intro h i hi
        have h1 := h i (by omega)
        rw [e2 i (by omega)] at h1
        exact holds_iff.1 h1
      · intro h i hi
        rw [e2 i hi]
        exact holds_iff.2 (h i (by omega))
    rw [key, key2]
    cases s.back with
    | false => exact Iff.rfl
    | true =>
      have pl : ∀ i, i < p.gauges.n → L.prev p.gauges.n i < p.gauges.n := fun i hi => prevI_lt (by omega)
      exact ⟨fun h i hi => ⟨(h i hi).1, all_prev (P := fun i => L.pA p l (L.comp s t p.gauges.n) i) (fun i hi => (h i hi).2) i hi⟩, fun h i hi => ⟨(h i hi).1, (h _ (pl i hi)).2⟩⟩
  · rw [decide_eq_false (show ¬ (l.n : Int) = (p.gauges.n : Int) by omega)]; rfl
end Go.Proofs.YtooapgllahonaaaGreat

namespace Go.Proofs.YtooapgllahonaaaGreat
open Go.SE Go.RowKit
set_option maxRecDepth 100000
set_option maxHeartbeats 4000000
set_option linter.unusedVariables false
attribute [local irreducible] vc

theorem fits_of {p : L.Piece} {l : L.Sq L.Pt} {s : L.Setting} (hv : L.validPiece p = true) (hl : L.validOutline l = true) (hs : L.validSet s p.gauges.n = true) : L.fitsE p l s = 0 ∧ L.fitsV p l s = L.fits p l s := by
  have e : L.fitsE p l s = 0 := by unfold L.fitsE; rw [hv, hl, hs]; rfl
  refine ⟨e, ?_⟩
  unfold L.fitsV; rw [e]; rfl
end Go.Proofs.YtooapgllahonaaaGreat

namespace Go.Proofs.YtooapgllahonaaaGreat
open Go.SE Go.RowKit
set_option maxRecDepth 100000
set_option maxHeartbeats 4000000
set_option linter.unusedVariables false
attribute [local irreducible] vc

def L.cor (s : L.Setting) (n : Int) (i : Int) : Int := bif s.back then Int.tmod (s.shift + n - i + 1) n else Int.tmod (s.shift + i) n
def L.laid (q : L.Sq L.Pt) (s : L.Setting) (n : Nat) (i : Nat) : L.Pt := q.g (L.cor s n (i : Int)).toNat
def L.conD (p q : L.Sq L.Pt) (s : L.Setting) (i k : Nat) : Bool := decide (L.dist (p.g i) (p.g k) = L.dist (L.laid q s p.n i) (L.laid q s p.n k))
def L.conB (p q : L.Sq L.Pt) (s : L.Setting) (i : Nat) : Bool := decide (0 < L.cross (p.g (L.prev p.n i)) (p.g i) (p.g (L.next p.n i))) == !(decide (0 < L.cross (L.laid q s p.n (L.prev p.n i)) (L.laid q s p.n i) (L.laid q s p.n (L.next p.n i))) == s.back)
def L.conI (p q : L.Sq L.Pt) (s : L.Setting) (i : Nat) : Bool := L.allB i (L.conD p q s i) && L.conB p q s i
def L.congr (p q : L.Sq L.Pt) (s : L.Setting) : Bool := L.allB p.n (L.conI p q s)
def L.among (l : L.Sq L.Setting) (s : L.Setting) : Bool := L.anyB l.n (fun i => L.sameS (l.g i) s)
def w_among_p (l : (L.Sq L.Setting)) (s : L.Setting) : Prop := l.n ≤ 1000000
def w_among_r (l : (L.Sq L.Setting)) (s : L.Setting) : SV := .bool (L.among l s)
def w_among_s : List EV → Option (Prop × SV)
  | [.p (.sl 2 l_n l_g), .p (.agg [.int .i64 s_shift, .bool s_back])] => some ((∀ i, i < l_n → l_g i = [.int .i64 ((ofSetting (l_g i)).shift), .bool ((ofSetting (l_g i)).back)]) ∧ w_among_p (⟨l_n, fun i => ofSetting (l_g i)⟩ : (L.Sq L.Setting)) (⟨s_shift, s_back⟩ : L.Setting), w_among_r (⟨l_n, fun i => ofSetting (l_g i)⟩ : (L.Sq L.Setting)) (⟨s_shift, s_back⟩ : L.Setting))
  | _ => none
abbrev w_among_S : SE.Spec := (specO w_among_s)
def w_among_C : Cfg := { muts := [], frz := lookN [], specs := lookS [], loops := fun _ => none, iters := lookI [], rfs := lookR [], nils := lookM [] }
theorem w_among_vc (l : (L.Sq L.Setting)) (s : L.Setting) (hp : w_among_p l s) : vc Tryz.prog ({ w_among_C with loops := lookL [(2, { T := Nat, keep := [0, 3], keepO := [], chg := fun i => [(5, .p (.int .i64 (i : Int)))], own := fun _ => [], inv := fun i => i ≤ l.n ∧ ∀ j, j < i → L.sameS (l.g j) s = false, mu := fun i => l.n - i })], rfs := lookR [] }) (bodyOf Tryz.f56) (st0 Tryz.f56 [.p (.sl 2 l.n (fun i => [.int .i64 ((l.g i).shift), .bool ((l.g i).back)])), .p (.agg [.int .i64 s.shift, .bool s.back])]) (retFn Tryz.prog Tryz.f56 (w_among_r l s)) :=
  @Eq.mpr _ ((∃ (g : Nat), (0 : Int) = (↑g : Int) ∧ g ≤ l.n ∧ ∀ (j : Nat), j < g → L.sameS (l.g j) s = false) ∧ ∀ (g : Nat), (g ≤ l.n ∧ ∀ (j : Nat), j < g → L.sameS (l.g j) s = false) → (decide ((↑g : Int) < (↑l.n : Int)) = true → ((0 : Int) ≤ (↑g : Int) ∧ (↑g : Int) < (↑l.n : Int)) ∧ ((decide ((l.g (Int.toNat (↑g : Int))).shift = s.shift) && (l.g (Int.toNat (↑g : Int))).back
 == s.back) = true → true = L.among l s) ∧ ((decide ((l.g (Int.toNat (↑g : Int))).shift = s.shift) && (l.g (Int.toNat (↑g : Int))).back == s.back) = false → InK .i64 ((↑g : Int) + (1 : Int)) ∧ ∃ (g' : Nat), (↑g : Int) + (1 : Int) = (↑g' : Int) ∧ SV.ref [SV.int .i64 s.shift, SV.bool s.back] (nat_lit 0) = SV.ref [SV.int
 .i64 s.shift, SV.bool s.back] (nat_lit 0) ∧ (l.n = l.n ∧ ∀ (i : Nat), i < l.n → [SV.int .i64 (l.g i).shift, SV.bool (l.g i).back] = [SV.int .i64 (l.g i).shift, SV.bool (l.g i).back]) ∧ (g' ≤ l.n ∧ ∀ (j : Nat), j < g' → L.sameS (l.g j) s = false) ∧ l.n - g' < l.n - g)) ∧ (decide ((↑g : Int) < (↑l.n : Int)) = false →
 false = L.among l s)) (by kernel_rfl) (by
    have hn : l.n ≤ 1000000 := hp
    refine ⟨⟨(0 : Nat), rfl, Nat.zero_le _, fun j hj => absurd hj (Nat.not_lt_zero _)⟩, fun g hg => ⟨fun hlt => ?_, fun hge => ?_⟩⟩
    · have hb : (g : Int) < (l.n : Int) := of_decide_eq_true hlt
      have e0 : ((g : Int)).toNat = g := by omega
      rw [e0]
      refine ⟨⟨by omega, hb⟩, fun h => ?_, fun h => ?_⟩
      · have h : L.sameS (l.g g) s = true := h
        exact (anyB_iff.2 ⟨g, by omega, h⟩).symm
      · have h : L.sameS (l.g g) s = false := h
        exact ⟨InK.of (by omega) (by omega), g + 1, by omega, rfl, ⟨rfl, fun _ _ => rfl⟩, ⟨by omega, fun j hj => by
          rcases Nat.lt_succ_iff_lt_or_eq.1 hj with h' | rfl
          · exact hg.2 j h'
          · exact h⟩, by omega⟩
    · have hb : ¬ (g : Int) < (l.n : Int) := of_decide_eq_false hge
      exact (anyB_no (fun i hi => hg.2 i (by omega))).symm)
theorem w_among_ok : SpecOk Tryz.prog 56 w_among_S := fnX Tryz.func56 (c := bodyOf Tryz.f56) (by kernel_rfl) mixed (fun args p r hs hp => by
  unfold w_among_s at hs
  split at hs
  · cases hs; exact ⟨_, _, w_among_vc _ _ hp.2, (.p (.sl hp.1) (.same _ .nil)), ⟨show SpecsL Tryz.prog _ from SpecsL.nil, rfl, ⟨show ItersL Tryz.prog _ from ItersL.nil, (TrsOk.none (fun _ => rfl))⟩⟩⟩
  · cases hs)
theorem w_among_en : Enters Tryz.prog 56 := fun args w => by kernel_rfl
end Go.Proofs.YtooapgllahonaaaGreat

namespace Go.Proofs.YtooapgllahonaaaGreat
open Go.SE Go.RowKit
set_option maxRecDepth 100000
set_option maxHeartbeats 4000000
set_option linter.unusedVariables false
attribute [local irreducible] vc

def L.es (s : L.Setting) (a : Int) : Int := bif s.back then s.shift - a + 1 else s.shift + a
end Go.Proofs.YtooapgllahonaaaGreat

namespace Go.Proofs.YtooapgllahonaaaGreat
open Go.SE Go.RowKit
set_option maxRecDepth 100000
set_option maxHeartbeats 4000000
set_option linter.unusedVariables false
attribute [local irreducible] vc

def L.kOf (s : L.Setting) : Nat := 2 * s.shift.toNat + (bif s.back then 1 else 0)
theorem sett_kOf {s : L.Setting} {n : Nat} (h : L.validSet s n = true) : L.sett (L.kOf s) = s ∧ L.kOf s < 2 * n := by
  have a := validSet_iff.1 h
  unfold L.kOf
  cases hb : s.back with
  | false =>
    rw [cond_false, Nat.add_zero, sett_even]
    exact ⟨set_ext (by show ((s.shift.toNat : Nat) : Int) = s.shift; omega) hb.symm, by omega⟩
  | true =>
    rw [cond_true, sett_odd]
    exact ⟨set_ext (by show ((s.shift.toNat : Nat) : Int) = s.shift; omega) hb.symm, by omega⟩
theorem sett_valid {k n : Nat} (h3 : 3 ≤ n) (h24 : n ≤ 24) (h : k < 2 * n) : L.validSet (L.sett k) n = true := by
  have := sett_lt h
  exact validSet_iff.2 ⟨⟨by omega, by omega⟩, this.1, this.2⟩
theorem kOf_sett (k : Nat) : L.kOf (L.sett k) = k := by
  have hk : k = 2 * (k / 2) ∨ k = 2 * (k / 2) + 1 := by omega
  generalize k / 2 = m at hk
  rcases hk with rfl | rfl
  · rw [sett_even]; unfold L.kOf; rw [cond_false]; show 2 * ((m : Int)).toNat + 0 = 2 * m; omega
  · rw [sett_odd]; unfold L.kOf; rw [cond_true]; show 2 * ((m : Int)).toNat + 1 = 2 * m + 1; omega
theorem cnt_del {q : Nat → Bool} {a : Nat} (hq : q a = true) : ∀ {m : Nat}, a < m → L.cnt q m = L.cnt (fun j => q j && !decide (j = a)) m + 1
  | 0, h => absurd h (Nat.not_lt_zero _)
  | m + 1, h => by
    rcases Nat.lt_succ_iff_lt_or_eq.1 h with h' | rfl
    · have ih := cnt_del hq h'
      have e : (q m && !decide (m = a)) = q m := by rw [decide_eq_false (by omega)]; simp
      cases hm : q m with
      | true => rw [cnt_yes hm, cnt_yes (p := fun j => q j && !decide (j = a)) (by show (q m && !decide (m = a)) = true; rw [e, hm]), ih]
      | false => rw [cnt_not hm, cnt_not (p := fun j => q j && !decide (j = a)) (by show (q m && !decide (m = a)) = false; rw [e, hm]), ih]
    · rw [cnt_yes hq, cnt_not (p := fun j => q j && !decide (j = a)) (by show (q a && !decide (a = a)) = false; simp)]
      have : ∀ c, c ≤ a → L.cnt q c = L.cnt (fun j => q j && !decide (j = a)) c := by
        intro c
        induction c with
        | zero => intro _; rfl
        | succ c ih =>
          intro hc
          have e : (q c && !decide (c = a)) = q c := by rw [decide_eq_false (by omega)]; simp
          cases hm : q c with
          | true => rw [cnt_yes hm, cnt_yes (p := fun j => q j && !decide (j = a)) (by show (q c && !decide (c = a)) = true; rw [e, hm]), ih (by omega)]
          | false => rw [cnt_not hm, cnt_not (p := fun j => q j && !decide (j = a)) (by show (q c && !decide (c = a)) = false; rw [e, hm]), ih (by omega)]
      rw [this a (Nat.le_refl _)]
theorem cnt_inj {p : Nat → Bool} {m : Nat} {f : Nat → Nat} : ∀ {n : Nat} {q : Nat → Bool}, (∀ k, k < n → p k = true → f k < m ∧ q (f k) = true) → (∀ j k, j < n → k < n → p j = true → p k = true → f j = f k → j = k) → L.cnt p n ≤ L.cnt q m
  | 0, q, _, _ => Nat.zero_le _
  | n + 1, q, h1, h2 => by
    cases hp : p n with
    | false =>
      rw [cnt_not hp]
      exact cnt_inj (fun k hk => h1 k (by omega)) (fun j k hj hk => h2 j k (by omega) (by omega))
    | true =>
      obtain ⟨a1, a2⟩ := h1 n (Nat.lt_succ_self n) hp
      rw [cnt_yes hp, cnt_del a2 a1]
      refine Nat.succ_le_succ (cnt_inj (fun k hk hpk => ?_) (fun j k hj hk => h2 j k (by omega) (by omega)))
      obtain ⟨b1, b2⟩ := h1 k (by omega) hpk
      refine ⟨b1, ?_⟩
      rw [b2, decide_eq_false (fun e => by have := h2 k n (by omega) (Nat.lt_succ_self n) hpk hp e; omega)]; rfl
theorem inv_inj {s t : L.Setting} {n : Int} (hs : L.validSet s n = true) (ht : L.validSet t n = true) (h : L.inv s n = L.inv t n) : s = t := by
  have e1 := comp_assoc hs (inv_ok hs).2.1 ht
  rw [(inv_ok hs).2.2, one_comp ht] at e1
  rw [e1]
  have e2 : L.comp (L.inv s n) t n = L.one := by
    rw [h]
    have i1 := (inv_ok ht)
    have i2 := (inv_ok i1.2.1)
    have a1 := comp_assoc i1.2.1 ht i1.2.1
    rw [i1.2.2, comp_one i1.2.1] at a1
    have a2 := comp_assoc (comp_ok i1.2.1 ht).2.2 i1.2.1 i2.2.1
    rw [a1, i2.2.2, comp_one (comp_ok i1.2.1 ht).2.2] at a2
    exact a2.symm
  rw [e2, comp_one hs]
end Go.Proofs.YtooapgllahonaaaGreat

namespace Go.Proofs.YtooapgllahonaaaGreat
open Go.SE Go.RowKit
set_option maxRecDepth 100000
set_option maxHeartbeats 4000000
set_option linter.unusedVariables false
attribute [local irreducible] vc

theorem agG_iff {g h : L.Gauge} : L.agG g h = true ↔ (L.bothS g.edge h.edge).lo ≤ (L.bothS g.edge h.edge).hi ∧ ((L.bothS g.across h.across).lo ≤ (L.bothS g.across h.across).hi ∧ (g.bend = h.bend ∨ g.bend = 0 ∨ h.bend = 0)) := by
  unfold L.agG
  simp only [band, bor, Bool.not_eq_true', Bool.or_eq_false_iff, Bool.and_eq_false_iff, decide_eq_false_iff_not, Bool.not_eq_false', decide_eq_true_eq]
  omega
theorem agNum_iff {r q : L.Piece} : L.agNum r q = true ↔ r.gauges.n = q.gauges.n ∧ r.colour = q.colour ∧ r.rev = q.rev ∧ r.made = q.made ∧ r.swell = q.swell ∧ (r.marks.n = q.marks.n ∧ ∀ i, i < q.marks.n → r.marks.g i = q.marks.g i) := by
  have hm : L.sameMs r.marks q.marks = true ↔ (r.marks.n = q.marks.n ∧ ∀ i, i < q.marks.n → r.marks.g i = q.marks.g i) := by
    constructor
    · intro h
      unfold L.sameMs at h
      rw [band, Bool.and_eq_true, decide_eq_true_eq, allB_iff] at h
      exact ⟨by omega, fun i hi => sameM_eq (h.2 i (by omega))⟩
    · rintro ⟨h1, h2⟩
      exact sameMs_of h1 h2
  rw [← hm]
  unfold L.agNum
  have k : ∀ b : Bool, (bif b then false else true) = !b := fun b => by cases b <;> rfl
  rw [k]
  simp only [bor, Bool.not_eq_true', Bool.or_eq_false_iff, Bool.not_eq_false', decide_eq_true_eq]
  constructor
  · rintro ⟨⟨⟨⟨⟨h1, h2⟩, h3⟩, h4⟩, h5⟩, h6⟩
    exact ⟨by omega, h2, h3, h4, h5, h6⟩
  · rintro ⟨h1, h2, h3, h4, h5, h6⟩
    exact ⟨⟨⟨⟨⟨by omega, h2⟩, h3⟩, h4⟩, h5⟩, h6⟩
theorem agr_iff {r q : L.Piece} : L.agr r q = true ↔ L.agNum r q = true ∧ ∀ i, i < r.gauges.n → L.agG (r.gauges.g i) (q.gauges.g i) = true := by
  unfold L.agr
  rw [Bool.and_eq_true, allB_iff]
theorem agG_self {g : L.Gauge} (h : L.vGauge g = true) : L.agG g g = true := by
  unfold L.vGauge L.vSpan at h
  simp only [band, Bool.and_eq_true, decide_eq_true_eq, within_iff] at h
  refine agG_iff.2 ⟨?_, ?_, .inl rfl⟩
  · show max g.edge.lo g.edge.lo ≤ min g.edge.hi g.edge.hi; omega
  · show max g.across.lo g.across.lo ≤ min g.across.hi g.across.hi; omega
theorem agG_sym {g h : L.Gauge} (k : L.agG g h = true) : L.agG h g = true := by
  rw [agG_iff] at k ⊢
  obtain ⟨k1, k2, k3⟩ := k
  have k1 : max g.edge.lo h.edge.lo ≤ min g.edge.hi h.edge.hi := k1
  have k2 : max g.across.lo h.across.lo ≤ min g.across.hi h.across.hi := k2
  refine ⟨?_, ?_, ?_⟩
  · show max h.edge.lo g.edge.lo ≤ min h.edge.hi g.edge.hi; omega
  · show max h.across.lo g.across.lo ≤ min h.across.hi g.across.hi; omega
  · rcases k3 with h1 | h1 | h1
    · exact .inl h1.symm
    · exact .inr (.inr h1)
    · exact .inr (.inl h1)
theorem agr_sym {r q : L.Piece} (h : L.agr r q = true) : L.agr q r = true := by
  rw [agr_iff, agNum_iff] at h ⊢
  obtain ⟨⟨h1, h2, h3, h4, h5, h6, h7⟩, h8⟩ := h
  exact ⟨⟨h1.symm, h2.symm, h3.symm, h4.symm, h5.symm, h6.symm, fun i hi => (h7 i (by omega)).symm⟩, fun i hi => agG_sym (h8 i (by omega))⟩
theorem agr_same {a b q : L.Piece} (h : L.samePc a b = true) (k : L.agr a q = true) : L.agr b q = true := by
  rw [samePc_iff] at h
  rw [agr_iff, agNum_iff] at k ⊢
  obtain ⟨_, h2, h3, h4, h5, ⟨h6, h7⟩, h8, h9⟩ := h
  obtain ⟨⟨k1, k2, k3, k4, k5, k6, k7⟩, k8⟩ := k
  refine ⟨⟨by omega, by omega, by omega, by omega, by omega, by omega, fun i hi => ?_⟩, fun i hi => ?_⟩
  · rw [← h9 i (by omega)]; exact k7 i hi
  · rw [← h7 i hi]; exact k8 i (by omega)
theorem agr_self {p r : L.Piece} (hv : L.validPiece p = true) (h : L.samePc r p = true) : L.agr r p = true := by
  rw [samePc_iff] at h
  obtain ⟨_, h2, h3, h4, h5, ⟨h6, h7⟩, h8, h9⟩ := h
  rw [agr_iff, agNum_iff]
  refine ⟨⟨h6, h2, h3, h4, h5, h8, h9⟩, fun i hi => ?_⟩
  rw [h7 i (by omega)]
  exact agG_self (gauge_in (piece_of hv).2.1 i (by omega))
theorem list_same {a b : L.Sq L.Mark} (hn : a.n = b.n) (h : ∀ i, i < b.n → a.g i = b.g i) : L.listMk a = L.listMk b := by
  unfold L.listMk
  rw [hn]
  exact List.map_congr_left fun k hk => h k (List.mem_range.1 hk)
theorem agr_rs {r q : L.Piece} {t : L.Setting} (ht : L.validSet t r.gauges.n = true) (h : L.agr r q = true) : L.agr (L.rs r t) (L.rs q t) = true := by
  rw [agr_iff, agNum_iff] at h ⊢
  obtain ⟨⟨h1, h2, h3, h4, h5, h6, h7⟩, h8⟩ := h
  have v := validSet_iff.1 ht
  have hn0 : 0 < r.gauges.n := by omega
  refine ⟨⟨h1, ?_, ?_, h4, h5, h6, fun i hi => ?_⟩, fun j hj => ?_⟩
  · show (bif t.back then r.rev else r.colour) = (bif t.back then q.rev else q.colour)
    rw [h2, h3]
  · show (bif t.back then r.colour else r.rev) = (bif t.back then q.colour else q.rev)
    rw [h2, h3]
  · refine sortM_list (a := L.rsMs r.marks t r.gauges.n) (b := L.rsMs q.marks t q.gauges.n) ?_ i
    rw [list_sortM, list_sortM, list_rsMs, list_rsMs, h1, list_same h6 h7]
  · have hj : j < r.gauges.n := hj
    have hi := rsI_lt t hn0 j
    show L.agG (L.rsG1 r t (L.rsI t r.gauges.n j)) (L.rsG1 q t (L.rsI t q.gauges.n j)) = true
    rw [← h1]
    generalize L.rsI t r.gauges.n j = i at hi
    have a := h8 i hi
    have b := h8 _ (prevI_lt (k := i) hn0)
    unfold L.rsG1
    rw [← h1]
    cases t.back with
    | false => exact a
    | true =>
      rw [agG_iff] at a b ⊢
      exact ⟨a.1, b.2⟩
theorem agr_inv {p q : L.Piece} {s : L.Setting} (hp : L.validPiece p = true) (hs : L.validSet s p.gauges.n = true) (h : L.agr (L.rs p s) q = true) : L.agr (L.rs q (L.inv s p.gauges.n)) p = true := by
  have i := inv_ok hs
  have h1 := agr_rs (r := L.rs p s) (q := q) (t := L.inv s p.gauges.n) i.2.1 h
  have h2 := rs_comp hp hs i.2.1
  rw [i.2.2] at h2
  exact agr_sym (agr_same (samePc_trans h2 (rs_one hp)) h1)
theorem ag_in {p q : L.Piece} {k : Nat} (h : k < L.agN p q) : L.validPiece p = true ∧ L.validPiece q = true ∧ L.validSet (L.agS p q k) p.gauges.n = true ∧ L.agr (L.rs p (L.agS p q k)) q = true := by
  unfold L.agN at h
  cases he : decide (L.agE p q = 0) with
  | false => rw [he] at h; exact absurd h (Nat.not_lt_zero _)
  | true =>
    rw [he] at h
    have h : k < L.cnt (L.agrK p q) (2 * p.gauges.n) := h
    have he := of_decide_eq_true he
    have hv : L.validPiece p = true ∧ L.validPiece q = true := by
      unfold L.agE at he
      cases h1 : L.validPiece p <;> cases h2 : L.validPiece q <;> rw [h1, h2] at he <;> first | exact ⟨rfl, rfl⟩ | cases he
    obtain ⟨h1, h2⟩ := sel_in h
    have hgn := gauges_n (piece_of hv.1).2.1
    exact ⟨hv.1, hv.2, sett_valid hgn.1 hgn.2 h1, h2⟩
theorem agN_eq {p q : L.Piece} (hp : L.validPiece p = true) (hq : L.validPiece q = true) : L.agE p q = 0 ∧ L.agN p q = L.cnt (L.agrK p q) (2 * p.gauges.n) := by
  have e : L.agE p q = 0 := by unfold L.agE; rw [hp, hq]; rfl
  refine ⟨e, ?_⟩
  unfold L.agN; rw [e]; rfl
theorem ag_of {p q : L.Piece} {s : L.Setting} (hp : L.validPiece p = true) (hq : L.validPiece q = true) (hs : L.validSet s p.gauges.n = true) (h : L.agr (L.rs p s) q = true) : L.among ⟨L.agN p q, fun i => L.agS p q i⟩ s = true := by
  obtain ⟨h1, h2⟩ := sett_kOf hs
  have h3 : L.agrK p q (L.kOf s) = true := by unfold L.agrK; rw [h1]; exact h
  obtain ⟨k, h4, h5⟩ := sel_of h3 h2
  unfold L.among
  rw [(agN_eq hp hq).2]
  refine anyB_iff.2 ⟨k, h4, ?_⟩
  unfold L.agS
  dsimp only
  rw [h5, h1]; exact sameS_refl _
theorem ag_le {p q : L.Piece} (hp : L.validPiece p = true) (hq : L.validPiece q = true) : L.agN p q ≤ L.agN q p := by
  rw [(agN_eq hp hq).2, (agN_eq hq hp).2]
  have hgn := gauges_n (piece_of hp).2.1
  refine cnt_inj (f := fun k => L.kOf (L.inv (L.sett k) p.gauges.n)) (fun k hk hpk => ?_) (fun j k hj hk _ _ e => ?_)
  · have v := sett_valid hgn.1 hgn.2 hk
    have w := sett_kOf (inv_ok v).2.1
    have hn : p.gauges.n = q.gauges.n := agr_n (r := L.rs p (L.sett k)) (q := q) hpk
    refine ⟨by have := w.2; omega, ?_⟩
    unfold L.agrK
    rw [w.1]
    exact agr_inv hp v hpk
  · have vj := sett_valid hgn.1 hgn.2 hj
    have vk := sett_valid hgn.1 hgn.2 hk
    have e : L.kOf (L.inv (L.sett j) p.gauges.n) = L.kOf (L.inv (L.sett k) p.gauges.n) := e
    have wj := (sett_kOf (inv_ok vj).2.1).1
    have wk := (sett_kOf (inv_ok vk).2.1).1
    rw [e, wk] at wj
    have := inv_inj vk vj wj
    rw [← kOf_sett j, ← kOf_sett k, this]
theorem mg_valid {r q : L.Piece} (hr : L.validPiece r = true) (hq : L.validPiece q = true) (h : L.agr r q = true) : L.validPiece (L.mg r q) = true := by
  obtain ⟨hnum, hg, hm⟩ := piece_of hq
  have hgn := gauges_n hg
  have hn := agr_n h
  have ha := (agr_iff.1 h).2
  have w1 : L.nums (L.mg r q) = true := hnum
  have w2 : L.gauges (L.mg r q).gauges = true := by
    unfold L.gauges
    rw [band, Bool.and_eq_true, allB_iff]
    refine ⟨within_iff.2 (show 3 ≤ (q.gauges.n : Int) ∧ (q.gauges.n : Int) ≤ 24 by omega), fun j hj => ?_⟩
    have hj : j < q.gauges.n := hj
    show L.vGauge (L.mgG (r.gauges.g j) (q.gauges.g j)) = true
    have g1 := gauge_in (piece_of hr).2.1 j (by omega)
    have g2 := gauge_in hg j hj
    have g3 := agG_iff.1 (ha j (by omega))
    generalize r.gauges.g j = a at g1 g3
    generalize q.gauges.g j = b at g2 g3
    have e1 : max a.edge.lo b.edge.lo ≤ min a.edge.hi b.edge.hi := g3.1
    have e2 : max a.across.lo b.across.lo ≤ min a.across.hi b.across.hi := g3.2.1
    unfold L.vGauge L.vSpan at g1 g2 ⊢
    simp only [band, Bool.and_eq_true, decide_eq_true_eq, within_iff] at g1 g2 ⊢
    have e3 : (L.mgG a b).bend = a.bend ∨ (L.mgG a b).bend = b.bend := by
      show L.or2 b.bend a.bend = a.bend ∨ L.or2 b.bend a.bend = b.bend
      unfold L.or2
      cases decide (b.bend = 0)
      · exact .inr rfl
      · exact .inl rfl
    have e4 : (L.mgG a b).edge = ⟨max a.edge.lo b.edge.lo, min a.edge.hi b.edge.hi⟩ := rfl
    have e5 : (L.mgG a b).across = ⟨max a.across.lo b.across.lo, min a.across.hi b.across.hi⟩ := rfl
    rw [e4, e5]
    dsimp only
    refine ⟨⟨⟨⟨by omega, by omega⟩, by omega⟩, ⟨⟨by omega, by omega⟩, by omega⟩⟩, ?_⟩
    rcases e3 with e3 | e3 <;> rw [e3]
    · exact g1.2
    · exact g2.2
  unfold L.validPiece
  rw [w1, w2, show L.vMarks (L.mg r q).marks (L.mg r q).gauges.n = true from hm]; rfl
theorem mg_holds {a b : L.Gauge} {m : L.Meas} (h : L.agG a b = true) (k : L.holdsR (L.mgG a b) m = true) : L.holdsR a m = true ∧ L.holdsR b m = true := by
  have g3 := (agG_iff.1 h).2.2
  rw [holds_iff] at k
  obtain ⟨k1, k2, k3⟩ := k
  have k1 := within_iff.1 k1
  have k2 := within_iff.1 k2
  have e4 : (L.mgG a b).edge = ⟨max a.edge.lo b.edge.lo, min a.edge.hi b.edge.hi⟩ := rfl
  have e5 : (L.mgG a b).across = ⟨max a.across.lo b.across.lo, min a.across.hi b.across.hi⟩ := rfl
  rw [e4] at k1
  rw [e5] at k2
  dsimp only at k1 k2
  have k3 : L.or2 b.bend a.bend = 0 ∨ L.or2 b.bend a.bend = m.bend := k3
  have e6 : (b.bend = 0 ∧ L.or2 b.bend a.bend = a.bend) ∨ (b.bend ≠ 0 ∧ L.or2 b.bend a.bend = b.bend) := by
    unfold L.or2
    by_cases hb : b.bend = 0
    · rw [decide_eq_true hb]; exact .inl ⟨hb, rfl⟩
    · rw [decide_eq_false hb]; exact .inr ⟨hb, rfl⟩
  rw [holds_iff, holds_iff]
  refine ⟨⟨within_iff.2 (by omega), within_iff.2 (by omega), ?_⟩, within_iff.2 (by omega), within_iff.2 (by omega), ?_⟩
  · rcases e6 with ⟨e, f⟩ | ⟨e, f⟩ <;> rw [f] at k3 <;> omega
  · rcases e6 with ⟨e, f⟩ | ⟨e, f⟩ <;> rw [f] at k3 <;> omega
theorem mg_fits {r q : L.Piece} {l : L.Sq L.Pt} {t : L.Setting} (h : L.agr r q = true) (k : L.fits (L.mg r q) l t = true) : L.fits r l t = true ∧ L.fits q l t = true := by
  have hn := agr_n h
  have ha := (agr_iff.1 h).2
  have gn : (L.mg r q).gauges.n = q.gauges.n := rfl
  unfold L.fits at k ⊢
  rw [gn] at k
  rw [hn]
  cases hd : decide ((l.n : Int) = q.gauges.n) with
  | false => rw [hd] at k; cases k
  | true =>
    rw [hd] at k
    have k := allB_iff.1 (show L.allB l.n _ = true from k)
    have hl := of_decide_eq_true hd
    exact ⟨allB_iff.2 fun i hi => (mg_holds (ha i (by omega)) (k i hi)).1, allB_iff.2 fun i hi => (mg_holds (ha i (by omega)) (k i hi)).2⟩
theorem mg_of {p q : L.Piece} {s : L.Setting} (hp : L.validPiece p = true) (hq : L.validPiece q = true) (hs : L.validSet s p.gauges.n = true) (h : L.agr (L.rs p s) q = true) : L.mgE p q s = 0 ∧ L.mgV p q s = L.mg (L.rs p s) q := by
  have e : L.mgE p q s = 0 := by unfold L.mgE; rw [hq, (wrE_of hp hs).1, h]; rfl
  refine ⟨e, ?_⟩
  unfold L.mgV; rw [e]; rfl
theorem set_in {m : L.Piece} {l : L.Sq L.Pt} {x : Nat} (hm : L.validPiece m = true) (hl : L.validOutline l = true) (h : x < L.setN m l) : L.validSet (L.setG m l x) m.gauges.n = true ∧ L.fits m l (L.setG m l x) = true := by
  have e : L.setE m l = 0 := by unfold L.setE; rw [hm, hl]; rfl
  unfold L.setN at h
  rw [e] at h
  obtain ⟨h1, h2⟩ := sel_in (show x < L.cnt (L.fitK m l) (2 * m.gauges.n) from h)
  have hgn := gauges_n (piece_of hm).2.1
  exact ⟨sett_valid hgn.1 hgn.2 h1, h2⟩
theorem set_le (m : L.Piece) (l : L.Sq L.Pt) : L.setN m l ≤ 2 * m.gauges.n := by
  unfold L.setN
  have := cnt_le (p := L.fitK m l) (n := 2 * m.gauges.n)
  cases decide (L.setE m l = 0)
  · exact Nat.zero_le _
  · exact this
end Go.Proofs.YtooapgllahonaaaGreat

namespace Go.Proofs.YtooapgllahonaaaGreat
open Go.SE Go.RowKit
set_option maxRecDepth 100000
set_option maxHeartbeats 4000000
set_option linter.unusedVariables false
attribute [local irreducible] vc

def w_One_p (p : L.Piece) (q : L.Piece) (l : (L.Sq L.Pt)) : Prop := p.gauges.n ≤ 9223372036854775807 ∧ p.marks.n ≤ 9223372036854775807 ∧ q.gauges.n ≤ 9223372036854775807 ∧ q.marks.n ≤ 9223372036854775807 ∧ l.n ≤ 9223372036854775807
def w_One_r (p : L.Piece) (q : L.Piece) (l : (L.Sq L.Pt)) : SV := .bool true
def w_One_s : List EV → Option (Prop × SV)
  | [.p (.agg [.int .i64 p_id, .int .i64 p_colour, .int .i64 p_rev, .int .i64 p_made, .int .i64 p_swell, .sl 5 p_gauges_n p_gauges_g, .sl 3 p_marks_n p_marks_g]), .p (.agg [.int .i64 q_id, .int .i64 q_colour, .int .i64 q_rev, .int .i64 q_made, .int .i64 q_swell, .sl 5 q_gauges_n q_gauges_g, .sl 3 q_marks_n q_marks_g]), .p (.sl 2 l_n l_g)] => some ((∀ i, i < p_gauges_n → p_gauges_g i = [.int .i64 ((ofGauge (p_gauges_g i)).edge.lo), .int .i64 ((ofGauge (p_gauges_g i)).edge.hi), .int .i64 ((ofGauge (p_gauges_g i)).across.lo), .int .i64 ((ofGauge (p_gauges_g i)).across.hi), .int .i64 ((ofGauge (p_gauges_g i)).bend)]) ∧ (∀ i, i < p_marks_n → p_marks_g i = [.int .i64 ((ofMark (p_marks_g i)).edge), .int .i64 ((ofMark (p_marks_g i)).place), .int .i64 ((ofMark (p_marks_g i)).tone)]) ∧ (∀ i, i < q_gauges_n → q_gauges_g i = [.int .i64 ((ofGauge (q_gauges_g i)).edge.lo), .int .i64 ((ofGauge (q_gauges_g i)).edge.hi), .int .i64 ((ofGauge (q_gauges_g i)).across.lo), .int .i64 ((ofGauge (q_gauges_g i)).across.hi), .int .i64 ((ofGauge (q_gauges_g i)).bend)]) ∧ (∀ i, i < q_marks_n → q_marks_g i = [.int .i64 ((ofMark (q_marks_g i)).edge), .int .i64 ((ofMark (q_marks_g i)).place), .int .i64 ((ofMark (q_marks_g i)).tone)]) ∧ (∀ i, i < l_n → l_g i = [.int .i64 ((ofPt (l_g i)).x), .int .i64 ((ofPt (l_g i)).y)]) ∧ w_One_p (⟨p_id, p_colour, p_rev, p_made, p_swell, (⟨p_gauges_n, fun i => ofGauge (p_gauges_g i)⟩ : (L.Sq L.Gauge)), (⟨p_marks_n, fun i => ofMark (p_marks_g i)⟩ : (L.Sq L.Mark))⟩ : L.Piece) (⟨q_id, q_colour, q_rev, q_made, q_swell, (⟨q_gauges_n, fun i => ofGauge (q_gauges_g i)⟩ : (L.Sq L.Gauge)), (⟨q_marks_n, fun i => ofMark (q_marks_g i)⟩ : (L.Sq L.Mark))⟩ : L.Piece) (⟨l_n, fun i => ofPt (l_g i)⟩ : (L.Sq L.Pt)), w_One_r (⟨p_id, p_colour, p_rev, p_made, p_swell, (⟨p_gauges_n, fun i => ofGauge (p_gauges_g i)⟩ : (L.Sq L.Gauge)), (⟨p_marks_n, fun i => ofMark (p_marks_g i)⟩ : (L.Sq L.Mark))⟩ : L.Piece) (⟨q_id, q_colour, q_rev, q_made, q_swell, (⟨q_gauges_n, fun i => ofGauge (q_gauges_g i)⟩ : (L.Sq L.Gauge)), (⟨q_marks_n, fun i => ofMark (q_marks_g i)⟩ : (L.Sq L.Mark))⟩ : L.Piece) (⟨l_n, fun i => ofPt (l_g i)⟩ : (L.Sq L.Pt)))
  | _ => none
abbrev w_One_S : SE.Spec := (specO w_One_s)
def w_One_C : Cfg := { muts := [16, 18, 23], frz := lookN [], specs := lookS [(10, w_awake_S), (43, r3_ValidPiece_S), (33, r1_ValidOutline_S), (49, g_Agree_S), (56, w_among_S), (46, p_Inverse_S), (51, g_Merge_S), (57, g_Settings_S), (47, g_ValidPiece_S), (45, p_Compose_S), (48, g_Fits_S)], loops := fun _ => none, iters := lookI [], rfs := lookR [], nils := lookM [] }
theorem w_One_vc (p : L.Piece) (q : L.Piece) (l : (L.Sq L.Pt)) (hp : w_One_p p q l) : vc Tryz.prog ({ w_One_C with loops := lookL [(11, { T := Nat, keep := [2, 3, 4, 5, 7, 8, 10, 14], keepO := [], chg := fun i => [(15, .p (.int .i64 (i : Int)))], own := fun _ => [], inv := fun i => i ≤ L.agN p q, mu := fun i => L.agN p q - i }), (19, { T := Nat × Nat, keep := [2, 3, 4, 5, 7, 8, 10, 14, 15, 16, 18, 20], keepO := [16, 18], tie := fun g => [(15, .int .i64 (g.1 : Int))], chg := fun g => [(22, .p (.int .i64 (g.2 : Int)))], own := fun _ => [], inv := fun g => g.1 < L.agN p q ∧ g.2 ≤ L.setN (L.mgV p q (L.agS p q g.1)) l, mu := fun g => L.setN (L.mgV p q (L.agS p q g.1)) l - g.2 })], rfs := lookR [] }) (bodyOf Tryz.f9) (st0 Tryz.f9 [.p (.agg [.int .i64 p.id, .int .i64 p.colour, .int .i64 p.rev, .int .i64 p.made, .int .i64 p.swell, .sl 5 p.gauges.n (fun i => [.int .i64 ((p.gauges.g i).edge.lo), .int .i64 ((p.gauges.g i).edge.hi), .int .i64 ((p.gauges.g i).across.lo), .int .i64 ((p.gauges.g i).across.hi), .int .i64 ((p.gauges.g i).bend)]), .sl 3 p.marks.n (fun i => [.int .i64 ((p.marks.g i).edge), .int .i64 ((p.marks.g i).place), .int .i64 ((p.marks.g i).tone)])]), .p (.agg [.int .i64 q.id, .int .i64 q.colour, .int .i64 q.rev, .int .i64 q.made, .int .i64 q.swell, .sl 5 q.gauges.n (fun i => [.int .i64 ((q.gauges.g i).edge.lo), .int .i64 ((q.gauges.g i).edge.hi), .int .i64 ((q.gauges.g i).across.lo), .int .i64 ((q.gauges.g i).across.hi), .int .i64 ((q.gauges.g i).bend)]), .sl 3 q.marks.n (fun i => [.int .i64 ((q.marks.g i).edge), .int .i64 ((q.marks.g i).place), .int .i64 ((q.marks.g i).tone)])]), .p (.sl 2 l.n (fun i => [.int .i64 ((l.g i).x), .int .i64 ((l.g i).y)]))]) (retFn Tryz.prog Tryz.f9 (w_One_r p q l)) :=
  @Eq.mpr _ (True ∧ ((∀ (i : Nat), i < p.gauges.n → (cG (p.gauges.g i)) = (cG (p.gauges.g i))) ∧ (∀ (i : Nat), i < p.marks.n → (cM (p.marks.g i)) = (cM (p.marks.g i))) ∧ p.gauges.n ≤ (9223372036854775807 : Nat) ∧ p.marks.n ≤ (9223372036854775807 : Nat)) ∧ ((!!L.validPiece p) = true → (∀ (i : Nat), i < q.gauges.n → (cG (q.gauges.g i)) = (cG (q.gauges.g i))) ∧ (∀ (i : Nat), i < q.marks.n → (cM (q.marks.g i)) =
 (cM (q.marks.g i))) ∧ q.gauges.n ≤ (9223372036854775807 : Nat) ∧ q.marks.n ≤ (9223372036854775807 : Nat)) ∧ ((!bif !L.validPiece p then true else !L.validPiece q) = true → (∀ (i : Nat), i < l.n → (cP (l.g i)) = (cP (l.g i))) ∧ True) ∧ ((bif bif !L.validPiece p then true else !L.validPiece q then true else !L.validOutline l) = true → true = true) ∧ ((bif bif !L.validPiece p then true else
 !L.validPiece q then true else !L.validOutline l) = false → ((∀ (i : Nat), i < p.gauges.n → (cG (p.gauges.g i)) = (cG (p.gauges.g i))) ∧ (∀ (i : Nat), i < p.marks.n → (cM (p.marks.g i)) = (cM (p.marks.g i))) ∧ (∀ (i : Nat), i < q.gauges.n → (cG (q.gauges.g i)) = (cG (q.gauges.g i))) ∧ (∀ (i : Nat), i < q.marks.n → (cM (q.marks.g i)) = (cM (q.marks.g i))) ∧ p.gauges.n ≤ (1000000 : Nat) ∧ p.marks.n
 ≤ (1000000 : Nat) ∧ q.gauges.n ≤ (1000000 : Nat) ∧ q.marks.n ≤ (1000000 : Nat)) ∧ ((∀ (i : Nat), i < q.gauges.n → (cG (q.gauges.g i)) = (cG (q.gauges.g i))) ∧ (∀ (i : Nat), i < q.marks.n → (cM (q.marks.g i)) = (cM (q.marks.g i))) ∧ (∀ (i : Nat), i < p.gauges.n → (cG (p.gauges.g i)) = (cG (p.gauges.g i))) ∧ (∀ (i : Nat), i < p.marks.n → (cM (p.marks.g i)) = (cM (p.marks.g i))) ∧ q.gauges.n ≤
 (1000000 : Nat) ∧ q.marks.n ≤ (1000000 : Nat) ∧ p.gauges.n ≤ (1000000 : Nat) ∧ p.marks.n ≤ (1000000 : Nat)) ∧ ((∀ (i : Nat), i < p.gauges.n → (cG (p.gauges.g i)) = (cG (p.gauges.g i))) ∧ (∀ (i : Nat), i < p.marks.n → (cM (p.marks.g i)) = (cM (p.marks.g i))) ∧ (∀ (i : Nat), i < p.gauges.n → (cG (p.gauges.g i)) = (cG (p.gauges.g i))) ∧ (∀ (i : Nat), i < p.marks.n → (cM (p.marks.g i)) = (cM
 (p.marks.g i))) ∧ p.gauges.n ≤ (1000000 : Nat) ∧ p.marks.n ≤ (1000000 : Nat) ∧ p.gauges.n ≤ (1000000 : Nat) ∧ p.marks.n ≤ (1000000 : Nat)) ∧ ((!bif bif !decide (L.agE p q = (0 : Int)) then true else !decide (L.agE q p = (0 : Int)) then true else !decide (L.agE p p = (0 : Int))) = true → (∀ (i : Nat), i < L.agN p p → [SV.int .i64 (L.agS p p i).shift, SV.bool (L.agS p p i).back] = [SV.int .i64
 (L.agS p p i).shift, SV.bool (L.agS p p i).back]) ∧ L.agN p p ≤ (1000000 : Nat)) ∧ ((bif bif bif bif !decide (L.agE p q = (0 : Int)) then true else !decide (L.agE q p = (0 : Int)) then true else !decide (L.agE p p = (0 : Int)) then true else !L.among (L.Sq.mk (L.agN p p) fun (i : Nat) ↦ L.agS p p i) (L.Setting.mk (0 : Int) false) then true else !decide ((↑(L.agN p q) : Int) = (↑(L.agN q p) :
 Int))) = true → false = true) ∧ ((bif bif bif bif !decide (L.agE p q = (0 : Int)) then true else !decide (L.agE q p = (0 : Int)) then true else !decide (L.agE p p = (0 : Int)) then true else !L.among (L.Sq.mk (L.agN p p) fun (i : Nat) ↦ L.agS p p i) (L.Setting.mk (0 : Int) false) then true else !decide ((↑(L.agN p q) : Int) = (↑(L.agN q p) : Int))) = false → (∃ (g : Nat), (0 : Int) = (↑g : Int) ∧
 g ≤ L.agN p q) ∧ ∀ (g : Nat), g ≤ L.agN p q → (decide ((↑g : Int) < (↑(L.agN p q) : Int)) = true → ((0 : Int) ≤ (↑g : Int) ∧ (↑g : Int) < (↑(L.agN p q) : Int)) ∧ True ∧ ((0 : Int) ≤ (↑g : Int) ∧ (↑g : Int) < (↑(L.agN p q) : Int)) ∧ ((∀ (i : Nat), i < p.gauges.n → (cG (p.gauges.g i)) = (cG (p.gauges.g i))) ∧ (∀ (i : Nat), i < p.marks.n → (cM (p.marks.g i)) = (cM (p.marks.g i))) ∧ (∀ (i : Nat), i <
 q.gauges.n → (cG (q.gauges.g i)) = (cG (q.gauges.g i))) ∧ (∀ (i : Nat), i < q.marks.n → (cM (q.marks.g i)) = (cM (q.marks.g i))) ∧ p.gauges.n ≤ (1000000 : Nat) ∧ p.marks.n ≤ (1000000 : Nat) ∧ q.gauges.n ≤ (1000000 : Nat) ∧ q.marks.n ≤ (1000000 : Nat)) ∧ ((∀ (i : Nat), i < (L.mgV p q (L.agS p q (Int.toNat (↑g : Int)))).gauges.n → (cG ((L.mgV p q (L.agS p q (Int.toNat (↑g : Int)))).gauges.g i)) =
 (cG ((L.mgV p q (L.agS p q (Int.toNat (↑g : Int)))).gauges.g i))) ∧ (∀ (i : Nat), i < (L.mgV p q (L.agS p q (Int.toNat (↑g : Int)))).marks.n → (cM ((L.mgV p q (L.agS p q (Int.toNat (↑g : Int)))).marks.g i)) = (cM ((L.mgV p q (L.agS p q (Int.toNat (↑g : Int)))).marks.g i))) ∧ (∀ (i : Nat), i < l.n → (cP (l.g i)) = (cP (l.g i))) ∧ (L.mgV p q (L.agS p q (Int.toNat (↑g : Int)))).gauges.n ≤ (1000000 :
 Nat) ∧ (L.mgV p q (L.agS p q (Int.toNat (↑g : Int)))).marks.n ≤ (1000000 : Nat) ∧ l.n ≤ (1000000 : Nat)) ∧ ((!bif bif !decide (L.invE (L.agS p q (Int.toNat (↑g : Int))) (↑p.gauges.n : Int) = (0 : Int)) then true else !decide (L.mgE p q (L.agS p q (Int.toNat (↑g : Int))) = (0 : Int)) then true else !decide (L.setE (L.mgV p q (L.agS p q (Int.toNat (↑g : Int)))) l = (0 : Int))) = true → (∀ (i : Nat),
 i < L.agN q p → [SV.int .i64 (L.agS q p i).shift, SV.bool (L.agS q p i).back] = [SV.int .i64 (L.agS q p i).shift, SV.bool (L.agS q p i).back]) ∧ L.agN q p ≤ (1000000 : Nat)) ∧ ((!bif bif bif !decide (L.invE (L.agS p q (Int.toNat (↑g : Int))) (↑p.gauges.n : Int) = (0 : Int)) then true else !decide (L.mgE p q (L.agS p q (Int.toNat (↑g : Int))) = (0 : Int)) then true else !decide (L.setE (L.mgV p q
 (L.agS p q (Int.toNat (↑g : Int)))) l = (0 : Int)) then true else !L.among (L.Sq.mk (L.agN q p) fun (i : Nat) ↦ L.agS q p i) (L.inv (L.agS p q (Int.toNat (↑g : Int))) (↑p.gauges.n : Int))) = true → (∀ (i : Nat), i < (L.mgV p q (L.agS p q (Int.toNat (↑g : Int)))).gauges.n → (cG ((L.mgV p q (L.agS p q (Int.toNat (↑g : Int)))).gauges.g i)) = (cG ((L.mgV p q (L.agS p q (Int.toNat (↑g :
 Int)))).gauges.g i))) ∧ (∀ (i : Nat), i < (L.mgV p q (L.agS p q (Int.toNat (↑g : Int)))).marks.n → (cM ((L.mgV p q (L.agS p q (Int.toNat (↑g : Int)))).marks.g i)) = (cM ((L.mgV p q (L.agS p q (Int.toNat (↑g : Int)))).marks.g i))) ∧ (L.mgV p q (L.agS p q (Int.toNat (↑g : Int)))).gauges.n ≤ (1000000 : Nat) ∧ (L.mgV p q (L.agS p q (Int.toNat (↑g : Int)))).marks.n ≤ (1000000 : Nat)) ∧ ((bif bif bif
 bif !decide (L.invE (L.agS p q (Int.toNat (↑g : Int))) (↑p.gauges.n : Int) = (0 : Int)) then true else !decide (L.mgE p q (L.agS p q (Int.toNat (↑g : Int))) = (0 : Int)) then true else !decide (L.setE (L.mgV p q (L.agS p q (Int.toNat (↑g : Int)))) l = (0 : Int)) then true else !L.among (L.Sq.mk (L.agN q p) fun (i : Nat) ↦ L.agS q p i) (L.inv (L.agS p q (Int.toNat (↑g : Int))) (↑p.gauges.n : Int))
 then true else !L.validPiece (L.mgV p q (L.agS p q (Int.toNat (↑g : Int))))) = true → false = true) ∧ ((bif bif bif bif !decide (L.invE (L.agS p q (Int.toNat (↑g : Int))) (↑p.gauges.n : Int) = (0 : Int)) then true else !decide (L.mgE p q (L.agS p q (Int.toNat (↑g : Int))) = (0 : Int)) then true else !decide (L.setE (L.mgV p q (L.agS p q (Int.toNat (↑g : Int)))) l = (0 : Int)) then true else
 !L.among (L.Sq.mk (L.agN q p) fun (i : Nat) ↦ L.agS q p i) (L.inv (L.agS p q (Int.toNat (↑g : Int))) (↑p.gauges.n : Int)) then true else !L.validPiece (L.mgV p q (L.agS p q (Int.toNat (↑g : Int))))) = false → (∃ (g_1 : Nat × Nat), (0 : Int) = (↑g_1.2 : Int) ∧ (↑g : Int) = (↑g_1.1 : Int) ∧ g_1.1 < L.agN p q ∧ g_1.2 ≤ L.setN (L.mgV p q (L.agS p q g_1.1)) l) ∧ ∀ (g_1 : Nat × Nat), (↑g : Int) =
 (↑g_1.1 : Int) ∧ g_1.1 < L.agN p q ∧ g_1.2 ≤ L.setN (L.mgV p q (L.agS p q g_1.1)) l → (decide ((↑g_1.2 : Int) < (↑(L.setN (L.mgV p q (L.agS p q (Int.toNat (↑g : Int)))) l) : Int)) = true → ((0 : Int) ≤ (↑g : Int) ∧ (↑g : Int) < (↑(L.agN p q) : Int)) ∧ ((0 : Int) ≤ (↑g_1.2 : Int) ∧ (↑g_1.2 : Int) < (↑(L.setN (L.mgV p q (L.agS p q (Int.toNat (↑g : Int)))) l) : Int)) ∧ True ∧ ((∀ (i : Nat), i <
 p.gauges.n → (cG (p.gauges.g i)) = (cG (p.gauges.g i))) ∧ (∀ (i : Nat), i < p.marks.n → (cM (p.marks.g i)) = (cM (p.marks.g i))) ∧ (∀ (i : Nat), i < l.n → (cP (l.g i)) = (cP (l.g i))) ∧ p.gauges.n ≤ (1000000 : Nat) ∧ p.marks.n ≤ (1000000 : Nat) ∧ l.n ≤ (1000000 : Nat)) ∧ ((0 : Int) ≤ (↑g_1.2 : Int) ∧ (↑g_1.2 : Int) < (↑(L.setN (L.mgV p q (L.agS p q (Int.toNat (↑g : Int)))) l) : Int)) ∧ ((∀ (i :
 Nat), i < q.gauges.n → (cG (q.gauges.g i)) = (cG (q.gauges.g i))) ∧ (∀ (i : Nat), i < q.marks.n → (cM (q.marks.g i)) = (cM (q.marks.g i))) ∧ (∀ (i : Nat), i < l.n → (cP (l.g i)) = (cP (l.g i))) ∧ q.gauges.n ≤ (1000000 : Nat) ∧ q.marks.n ≤ (1000000 : Nat) ∧ l.n ≤ (1000000 : Nat)) ∧ ((bif bif bif bif !decide (L.compE (L.agS p q (Int.toNat (↑g : Int))) (L.setG (L.mgV p q (L.agS p q (Int.toNat (↑g :
 Int)))) l (Int.toNat (↑g_1.2 : Int))) (↑p.gauges.n : Int) = (0 : Int)) then true else !decide (L.fitsE p l (L.comp (L.agS p q (Int.toNat (↑g : Int))) (L.setG (L.mgV p q (L.agS p q (Int.toNat (↑g : Int)))) l (Int.toNat (↑g_1.2 : Int))) (↑p.gauges.n : Int)) = (0 : Int)) then true else !decide (L.fitsE q l (L.setG (L.mgV p q (L.agS p q (Int.toNat (↑g : Int)))) l (Int.toNat (↑g_1.2 : Int))) = (0 :
 Int)) then true else !L.fitsV p l (L.comp (L.agS p q (Int.toNat (↑g : Int))) (L.setG (L.mgV p q (L.agS p q (Int.toNat (↑g : Int)))) l (Int.toNat (↑g_1.2 : Int))) (↑p.gauges.n : Int)) then true else !L.fitsV q l (L.setG (L.mgV p q (L.agS p q (Int.toNat (↑g : Int)))) l (Int.toNat (↑g_1.2 : Int)))) = true → false = true) ∧ ((bif bif bif bif !decide (L.compE (L.agS p q (Int.toNat (↑g : Int))) (L.setG
 (L.mgV p q (L.agS p q (Int.toNat (↑g : Int)))) l (Int.toNat (↑g_1.2 : Int))) (↑p.gauges.n : Int) = (0 : Int)) then true else !decide (L.fitsE p l (L.comp (L.agS p q (Int.toNat (↑g : Int))) (L.setG (L.mgV p q (L.agS p q (Int.toNat (↑g : Int)))) l (Int.toNat (↑g_1.2 : Int))) (↑p.gauges.n : Int)) = (0 : Int)) then true else !decide (L.fitsE q l (L.setG (L.mgV p q (L.agS p q (Int.toNat (↑g : Int)))) l
 (Int.toNat (↑g_1.2 : Int))) = (0 : Int)) then true else !L.fitsV p l (L.comp (L.agS p q (Int.toNat (↑g : Int))) (L.setG (L.mgV p q (L.agS p q (Int.toNat (↑g : Int)))) l (Int.toNat (↑g_1.2 : Int))) (↑p.gauges.n : Int)) then true else !L.fitsV q l (L.setG (L.mgV p q (L.agS p q (Int.toNat (↑g : Int)))) l (Int.toNat (↑g_1.2 : Int)))) = false → InK .i64 ((↑g_1.2 : Int) + (1 : Int)) ∧ ∃ (g' : Nat ×
 Nat), (↑g_1.2 : Int) + (1 : Int) = (↑g'.2 : Int) ∧ (L.setN (L.mgV p q (L.agS p q (Int.toNat (↑g : Int)))) l = L.setN (L.mgV p q (L.agS p q (Int.toNat (↑g : Int)))) l ∧ ∀ (i : Nat), i < L.setN (L.mgV p q (L.agS p q (Int.toNat (↑g : Int)))) l → [SV.int .i64 (L.setG (L.mgV p q (L.agS p q (Int.toNat (↑g : Int)))) l i).shift, SV.bool (L.setG (L.mgV p q (L.agS p q (Int.toNat (↑g : Int)))) l i).back] =
 [SV.int .i64 (L.setG (L.mgV p q (L.agS p q (Int.toNat (↑g : Int)))) l i).shift, SV.bool (L.setG (L.mgV p q (L.agS p q (Int.toNat (↑g : Int)))) l i).back]) ∧ nat_lit 0 = nat_lit 0 ∧ nat_lit 0 = nat_lit 0 ∧ (↑g : Int) = (↑g : Int) ∧ (↑p.gauges.n : Int) = (↑p.gauges.n : Int) ∧ (L.agN q p = L.agN q p ∧ ∀ (i : Nat), i < L.agN q p → [SV.int .i64 (L.agS q p i).shift, SV.bool (L.agS q p i).back] = [SV.int
 .i64 (L.agS q p i).shift, SV.bool (L.agS q p i).back]) ∧ (L.agN p q = L.agN p q ∧ ∀ (i : Nat), i < L.agN p q → [SV.int .i64 (L.agS p q i).shift, SV.bool (L.agS p q i).back] = [SV.int .i64 (L.agS p q i).shift, SV.bool (L.agS p q i).back]) ∧ true = true ∧ SV.ref [SV.int .i64 q.id, SV.int .i64 q.colour, SV.int .i64 q.rev, SV.int .i64 q.made, SV.int .i64 q.swell, SV.sl (nat_lit 5) q.gauges.n fun (i :
 Nat) ↦ (cG (q.gauges.g i)), SV.sl (nat_lit 3) q.marks.n fun (i : Nat) ↦ (cM (q.marks.g i))] (nat_lit 0) = SV.ref [SV.int .i64 q.id, SV.int .i64 q.colour, SV.int .i64 q.rev, SV.int .i64 q.made, SV.int .i64 q.swell, SV.sl (nat_lit 5) q.gauges.n fun (i : Nat) ↦ (cG (q.gauges.g i)), SV.sl (nat_lit 3) q.marks.n fun (i : Nat) ↦ (cM (q.marks.g i))] (nat_lit 0) ∧ SV.ref [SV.int .i64 p.id, SV.int .i64
 p.colour, SV.int .i64 p.rev, SV.int .i64 p.made, SV.int .i64 p.swell, SV.sl (nat_lit 5) p.gauges.n fun (i : Nat) ↦ (cG (p.gauges.g i)), SV.sl (nat_lit 3) p.marks.n fun (i : Nat) ↦ (cM (p.marks.g i))] (nat_lit 0) = SV.ref [SV.int .i64 p.id, SV.int .i64 p.colour, SV.int .i64 p.rev, SV.int .i64 p.made, SV.int .i64 p.swell, SV.sl (nat_lit 5) p.gauges.n fun (i : Nat) ↦ (cG (p.gauges.g i)), SV.sl
 (nat_lit 3) p.marks.n fun (i : Nat) ↦ (cM (p.marks.g i))] (nat_lit 0) ∧ (l.n = l.n ∧ ∀ (i : Nat), i < l.n → (cP (l.g i)) = (cP (l.g i))) ∧ (L.mgV p q (L.agS p q (Int.toNat (↑g : Int)))).id = (L.mgV p q (L.agS p q (Int.toNat (↑g : Int)))).id ∧ (L.mgV p q (L.agS p q (Int.toNat (↑g : Int)))).colour = (L.mgV p q (L.agS p q (Int.toNat (↑g : Int)))).colour ∧ (L.mgV p q (L.agS p q (Int.toNat (↑g :
 Int)))).rev = (L.mgV p q (L.agS p q (Int.toNat (↑g : Int)))).rev ∧ (L.mgV p q (L.agS p q (Int.toNat (↑g : Int)))).made = (L.mgV p q (L.agS p q (Int.toNat (↑g : Int)))).made ∧ (L.mgV p q (L.agS p q (Int.toNat (↑g : Int)))).swell = (L.mgV p q (L.agS p q (Int.toNat (↑g : Int)))).swell ∧ ((L.mgV p q (L.agS p q (Int.toNat (↑g : Int)))).gauges.n = (L.mgV p q (L.agS p q (Int.toNat (↑g : Int)))).gauges.n
 ∧ ∀ (i : Nat), i < (L.mgV p q (L.agS p q (Int.toNat (↑g : Int)))).gauges.n → (cG ((L.mgV p q (L.agS p q (Int.toNat (↑g : Int)))).gauges.g i)) = (cG ((L.mgV p q (L.agS p q (Int.toNat (↑g : Int)))).gauges.g i))) ∧ ((L.mgV p q (L.agS p q (Int.toNat (↑g : Int)))).marks.n = (L.mgV p q (L.agS p q (Int.toNat (↑g : Int)))).marks.n ∧ ∀ (i : Nat), i < (L.mgV p q (L.agS p q (Int.toNat (↑g : Int)))).marks.n →
 (cM ((L.mgV p q (L.agS p q (Int.toNat (↑g : Int)))).marks.g i)) = (cM ((L.mgV p q (L.agS p q (Int.toNat (↑g : Int)))).marks.g i))) ∧ (L.inv (L.agS p q (Int.toNat (↑g : Int))) (↑p.gauges.n : Int)).shift = (L.inv (L.agS p q (Int.toNat (↑g : Int))) (↑p.gauges.n : Int)).shift ∧ (L.inv (L.agS p q (Int.toNat (↑g : Int))) (↑p.gauges.n : Int)).back = (L.inv (L.agS p q (Int.toNat (↑g : Int))) (↑p.gauges.n
 : Int)).back ∧ ((↑g : Int) = (↑g'.1 : Int) ∧ g'.1 < L.agN p q ∧ g'.2 ≤ L.setN (L.mgV p q (L.agS p q g'.1)) l) ∧ L.setN (L.mgV p q (L.agS p q g'.1)) l - g'.2 < L.setN (L.mgV p q (L.agS p q g_1.1)) l - g_1.2)) ∧ (decide ((↑g_1.2 : Int) < (↑(L.setN (L.mgV p q (L.agS p q (Int.toNat (↑g : Int)))) l) : Int)) = false → InK .i64 ((↑g : Int) + (1 : Int)) ∧ ∃ (g' : Nat), (↑g : Int) + (1 : Int) = (↑g' : Int)
 ∧ (↑p.gauges.n : Int) = (↑p.gauges.n : Int) ∧ (L.agN q p = L.agN q p ∧ ∀ (i : Nat), i < L.agN q p → [SV.int .i64 (L.agS q p i).shift, SV.bool (L.agS q p i).back] = [SV.int .i64 (L.agS q p i).shift, SV.bool (L.agS q p i).back]) ∧ (L.agN p q = L.agN p q ∧ ∀ (i : Nat), i < L.agN p q → [SV.int .i64 (L.agS p q i).shift, SV.bool (L.agS p q i).back] = [SV.int .i64 (L.agS p q i).shift, SV.bool (L.agS p q
 i).back]) ∧ true = true ∧ SV.ref [SV.int .i64 q.id, SV.int .i64 q.colour, SV.int .i64 q.rev, SV.int .i64 q.made, SV.int .i64 q.swell, SV.sl (nat_lit 5) q.gauges.n fun (i : Nat) ↦ (cG (q.gauges.g i)), SV.sl (nat_lit 3) q.marks.n fun (i : Nat) ↦ (cM (q.marks.g i))] (nat_lit 0) = SV.ref [SV.int .i64 q.id, SV.int .i64 q.colour, SV.int .i64 q.rev, SV.int .i64 q.made, SV.int .i64 q.swell, SV.sl (nat_lit
 5) q.gauges.n fun (i : Nat) ↦ (cG (q.gauges.g i)), SV.sl (nat_lit 3) q.marks.n fun (i : Nat) ↦ (cM (q.marks.g i))] (nat_lit 0) ∧ SV.ref [SV.int .i64 p.id, SV.int .i64 p.colour, SV.int .i64 p.rev, SV.int .i64 p.made, SV.int .i64 p.swell, SV.sl (nat_lit 5) p.gauges.n fun (i : Nat) ↦ (cG (p.gauges.g i)), SV.sl (nat_lit 3) p.marks.n fun (i : Nat) ↦ (cM (p.marks.g i))] (nat_lit 0) = SV.ref [SV.int .i64
 p.id, SV.int .i64 p.colour, SV.int .i64 p.rev, SV.int .i64 p.made, SV.int .i64 p.swell, SV.sl (nat_lit 5) p.gauges.n fun (i : Nat) ↦ (cG (p.gauges.g i)), SV.sl (nat_lit 3) p.marks.n fun (i : Nat) ↦ (cM (p.marks.g i))] (nat_lit 0) ∧ (l.n = l.n ∧ ∀ (i : Nat), i < l.n → (cP (l.g i)) = (cP (l.g i))) ∧ g' ≤ L.agN p q ∧ L.agN p q - g' < L.agN p q - g))) ∧ (decide ((↑g : Int) < (↑(L.agN p q) : Int)) =
 false → true = true)))) (by kernel_rfl) (by
    obtain ⟨p1, p2, p3, p4, p5⟩ := hp
    refine ⟨trivial, ⟨fun _ _ => rfl, fun _ _ => rfl, p1, p2⟩, fun _ => ⟨fun _ _ => rfl, fun _ _ => rfl, p3, p4⟩, fun _ => ⟨fun _ _ => rfl, trivial⟩, fun _ => rfl, fun h => ?_⟩
    simp only [bor, Bool.or_eq_false_iff] at h
    obtain ⟨⟨h1, h2⟩, h3⟩ := h
    have hv : L.validPiece p = true := notF h1
    have hq : L.validPiece q = true := notF h2
    have hl : L.validOutline l = true := notF h3
    have g1 := gauges_n (piece_of hv).2.1
    have g2 := gauges_n (piece_of hq).2.1
    have m1 := (marks_in (piece_of hv).2.2).1
    have m2 := (marks_in (piece_of hq).2.2).1
    obtain ⟨n3, n24, _, _⟩ := validOutline_of hl
    have hln : l.n ≤ 1000000 := by omega
    have a1 : p.gauges.n ≤ 1000000 := by omega
    have a2 : p.marks.n ≤ 1000000 := by omega
    have a3 : q.gauges.n ≤ 1000000 := by omega
    have a4 : q.marks.n ≤ 1000000 := by omega
    have eA := agN_eq hv hq
    have eB := agN_eq hq hv
    have eO := agN_eq hv hv
    have b1 := agN_le p q
    have b2 := agN_le q p
    have b3 := agN_le p p
    have hone : L.validSet ⟨0, false⟩ p.gauges.n = true := validSet_iff.2 ⟨⟨by omega, by omega⟩, Int.le_refl _, by show (0 : Int) < p.gauges.n; omega⟩
    have hO : L.among ⟨L.agN p p, fun i => L.agS p p i⟩ ⟨0, false⟩ = true := ag_of hv hv hone (agr_self hv (rs_one hv))
    have hlen : L.agN p q = L.agN q p := Nat.le_antisymm (ag_le hv hq) (ag_le hq hv)
    refine ⟨⟨fun _ _ => rfl, fun _ _ => rfl, fun _ _ => rfl, fun _ _ => rfl, a1, a2, a3, a4⟩, ⟨fun _ _ => rfl, fun _ _ => rfl, fun _ _ => rfl, fun _ _ => rfl, a3, a4, a1, a2⟩, ⟨fun _ _ => rfl, fun _ _ => rfl, fun _ _ => rfl, fun _ _ => rfl, a1, a2, a1, a2⟩, fun _ => ⟨fun _ _ => rfl, show L.agN p p ≤ 1000000 by omega⟩, fun h => ?_, fun _ => ⟨⟨(0 : Nat), rfl, Nat.zero_le _⟩, fun g hg => ⟨fun hlt => ?_, fun _ => rfl⟩⟩⟩
    · exfalso
      simp [eA.1, eB.1, eO.1, hO, hlen] at h
    have hb : (g : Int) < (L.agN p q : Int) := of_decide_eq_true hlt
    have hgN : g < L.agN p q := by omega
    rw [Int.toNat_natCast]
    obtain ⟨_, _, hs, ha⟩ := ag_in hgN
    have M := mg_of hv hq hs ha
    have hmv : L.validPiece (L.mgV p q (L.agS p q g)) = true := by rw [M.2]; exact mg_valid (rs_valid hv hs) hq ha
    have hn : p.gauges.n = q.gauges.n := agr_n (r := L.rs p (L.agS p q g)) (q := q) ha
    have I := inv_ok hs
    have hB : L.among ⟨L.agN q p, fun i => L.agS q p i⟩ (L.inv (L.agS p q g) p.gauges.n) = true := ag_of hq hv (by rw [← hn]; exact I.2.1) (agr_inv hv hs ha)
    have hsE : L.setE (L.mgV p q (L.agS p q g)) l = 0 := by unfold L.setE; rw [hmv, hl]; rfl
    have hM := mgV_le p q (L.agS p q g)
    have hM1 : (L.mgV p q (L.agS p q g)).gauges.n ≤ 1000000 := by omega
    have hM2 : (L.mgV p q (L.agS p q g)).marks.n ≤ 1000000 := by omega
    have hSl := set_le (L.mgV p q (L.agS p q g)) l
    refine ⟨⟨by omega, hb⟩, trivial, ⟨by omega, hb⟩, ⟨fun _ _ => rfl, fun _ _ => rfl, fun _ _ => rfl, fun _ _ => rfl, a1, a2, a3, a4⟩, ⟨fun _ _ => rfl, fun _ _ => rfl, fun _ _ => rfl, hM1, hM2, hln⟩, fun _ => ⟨fun _ _ => rfl, show L.agN q p ≤ 1000000 by omega⟩, fun _ => ⟨fun _ _ => rfl, fun _ _ => rfl, hM1, hM2⟩, fun h => ?_, fun _ => ⟨⟨(g, 0), rfl, rfl, hgN, Nat.zero_le _⟩, fun x hx => ⟨fun hlt2 => ?_, fun hge2 => ?_⟩⟩⟩
    · exfalso
      simp [I.1, M.1, hsE, hB, hmv] at h
    · obtain ⟨i, k⟩ := x
      obtain ⟨e1, x1, x2⟩ := hx
      have e1 : (g : Int) = (i : Int) := e1
      obtain rfl : g = i := by omega
      have hkI : (k : Int) < (L.setN (L.mgV p q (L.agS p q g)) l : Int) := of_decide_eq_true hlt2
      have hk : k < L.setN (L.mgV p q (L.agS p q g)) l := by omega
      obtain ⟨t1, t2⟩ := set_in hmv hl hk
      have gm : (L.mgV p q (L.agS p q g)).gauges.n = q.gauges.n := by rw [M.2]; rfl
      have htq : L.validSet (L.setG (L.mgV p q (L.agS p q g)) l k) q.gauges.n = true := by rw [gm] at t1; exact t1
      have htp : L.validSet (L.setG (L.mgV p q (L.agS p q g)) l k) p.gauges.n = true := by rw [hn]; exact htq
      have C := comp_ok hs htp
      have t2 : L.fits (L.mg (L.rs p (L.agS p q g)) q) l (L.setG (L.mgV p q (L.agS p q g)) l k) = true := by
        have h5 := congrArg (fun m => L.fits m l (L.setG (L.mgV p q (L.agS p q g)) l k)) M.2
        exact h5.symm.trans t2
      have F := mg_fits ha t2
      have F1 := fits_of hv hl C.2.2
      have F2 := fits_of hq hl htq
      have f1 : L.fitsV p l (L.comp (L.agS p q g) (L.setG (L.mgV p q (L.agS p q g)) l k) p.gauges.n) = true := by
        rw [F1.2, ← fits_comp hl hs htp]; exact F.1
      have f2 : L.fitsV q l (L.setG (L.mgV p q (L.agS p q g)) l k) = true := by rw [F2.2]; exact F.2
      have ek : ((k : Int)).toNat = k := Int.toNat_natCast k
      dsimp only
      rw [ek]
      refine ⟨⟨by omega, hb⟩, ⟨by omega, hkI⟩, trivial, ⟨fun _ _ => rfl, fun _ _ => rfl, fun _ _ => rfl, a1, a2, hln⟩, ⟨by omega, hkI⟩, ⟨fun _ _ => rfl, fun _ _ => rfl, fun _ _ => rfl, a3, a4, hln⟩, fun h => ?_, fun _ => ⟨InK.of (by omega) (by omega), (g, k + 1), show (k : Int) + 1 = ((k + 1 : Nat) : Int) by omega, ⟨rfl, fun _ _ => rfl⟩, rfl, rfl, rfl, rfl, ⟨rfl, fun _ _ => rfl⟩, ⟨rfl, fun _ _ => rfl⟩, rfl, rfl, rfl, ⟨rfl, fun _ _ => rfl⟩, rfl, rfl, rfl, rfl, rfl, ⟨rfl, fun _ _ => rfl⟩, ⟨rfl, fun _ _ => rfl⟩, rfl, rfl, ⟨rfl, hgN, show k + 1 ≤ L.setN (L.mgV p q (L.agS p q g)) l by omega⟩, show L.setN (L.mgV p q (L.agS p q g)) l - (k + 1) < L.setN (L.mgV p q (L.agS p q g)) l - k by omega⟩⟩
      exfalso
      simp [C.1, F1.1, F2.1, f1, f2] at h
    · exact ⟨InK.of (by omega) (by omega), g + 1, by omega, rfl, ⟨rfl, fun _ _ => rfl⟩, ⟨rfl, fun _ _ => rfl⟩, rfl, rfl, rfl, ⟨rfl, fun _ _ => rfl⟩, by omega, by omega⟩)
theorem w_One_ok : SpecOk Tryz.prog 9 w_One_S := fnX Tryz.func9 (c := bodyOf Tryz.f9) (by kernel_rfl) mixed (fun args p r hs hp => by
  unfold w_One_s at hs
  split at hs
  · cases hs; exact ⟨_, _, w_One_vc _ _ _ hp.2.2.2.2.2, (.p (.agg rfl (fun i hi => by
      rcases i with _ | i
      · exact (Ext.refl _ : Ext _ _)
      rcases i with _ | i
      · exact (Ext.refl _ : Ext _ _)
      rcases i with _ | i
      · exact (Ext.refl _ : Ext _ _)
      rcases i with _ | i
      · exact (Ext.refl _ : Ext _ _)
      rcases i with _ | i
      · exact (Ext.refl _ : Ext _ _)
      rcases i with _ | i
      · exact (Ext.sl hp.1 : Ext _ _)
      rcases i with _ | i
      · exact (Ext.sl hp.2.1 : Ext _ _)
      exact absurd hi (by simp; try omega))) (.p (.agg rfl (fun i hi => by
      rcases i with _ | i
      · exact (Ext.refl _ : Ext _ _)
      rcases i with _ | i
      · exact (Ext.refl _ : Ext _ _)
      rcases i with _ | i
      · exact (Ext.refl _ : Ext _ _)
      rcases i with _ | i
      · exact (Ext.refl _ : Ext _ _)
      rcases i with _ | i
      · exact (Ext.refl _ : Ext _ _)
      rcases i with _ | i
      · exact (Ext.sl hp.2.2.1 : Ext _ _)
      rcases i with _ | i
      · exact (Ext.sl hp.2.2.2.1 : Ext _ _)
      exact absurd hi (by simp; try omega))) (.p (.sl hp.2.2.2.2.1) .nil))), ⟨show SpecsL Tryz.prog _ from (SpecsL.cons w_awake_ok w_awake_en (SpecsL.cons r3_ValidPiece_ok r3_ValidPiece_en (SpecsL.cons r1_ValidOutline_ok r1_ValidOutline_en (SpecsL.cons g_Agree_ok g_Agree_en (SpecsL.cons w_among_ok w_among_en (SpecsL.cons p_Inverse_ok p_Inverse_en (SpecsL.cons g_Merge_ok g_Merge_en (SpecsL.cons g_Settings_ok g_Settings_en (SpecsL.cons g_ValidPiece_ok g_ValidPiece_en (SpecsL.cons p_Compose_ok p_Compose_en (SpecsL.cons g_Fits_ok g_Fits_en SpecsL.nil))))))))))), rfl, ⟨show ItersL Tryz.prog _ from ItersL.nil, (TrsOk.none (fun _ => rfl))⟩⟩⟩
  · cases hs)
end Go.Proofs.YtooapgllahonaaaGreat
