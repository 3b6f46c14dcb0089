/- A symbolic walk over the model, and what it shows of functions of the program: parts of the proof that the text of the row joins. -/
import Derived.Test.YtooapgllahonaaaGreatW2
import Derived.Test.YtooapgllahonaaaGreatE3
import Derived.KernelRfl

namespace Go.Proofs.YtooapgllahonaaaGreat
open Go.SE Go.RowKit
set_option maxRecDepth 100000
set_option maxHeartbeats 4000000
set_option linter.unusedVariables false
attribute [local irreducible] Go.SE.vc

def L.pick4 (a b c d : L.Pt) (i : Nat) : L.Pt := bif decide (i = 0) then a else bif decide (i = 1) then b else bif decide (i = 2) then c else d
def L.onB (a b c d p : L.Pt) : Bool := L.on a b p && L.on c d p
def L.cm (a b c d : L.Pt) : Nat → L.Sq L.Pt
  | 0 => L.no
  | n + 1 => L.putIf (L.onB a b c d (L.pick4 a b c d n)) (L.cm a b c d n) (L.pick4 a b c d n)
theorem on_left {a b : L.Pt} : L.on a b a = true := by
  unfold L.on
  rw [Bool.and_eq_true, Bool.and_eq_true, within_iff, within_iff]
  refine ⟨⟨decide_eq_true ?_, by omega⟩, by omega⟩
  unfold L.cross; simp
theorem on_right {a b : L.Pt} : L.on a b b = true := by
  unfold L.on
  rw [Bool.and_eq_true, Bool.and_eq_true, within_iff, within_iff]
  refine ⟨⟨decide_eq_true ?_, by omega⟩, by omega⟩
  unfold L.cross; rw [Int.mul_comm]; omega
theorem cm_eq {a b c d : L.Pt} : L.cm a b c d 4 = L.k2 a b c d 2 := by
  have h1 : L.onB a b c d a = L.on c d a := by unfold L.onB; rw [on_left]; rfl
  have h2 : L.onB a b c d b = L.on c d b := by unfold L.onB; rw [on_right]; rfl
  have h3 : L.onB a b c d c = L.on a b c := by unfold L.onB; rw [on_left (a := c), Bool.and_true]
  have h4 : L.onB a b c d d = L.on a b d := by unfold L.onB; rw [on_right (a := c), Bool.and_true]
  show L.putIf (L.onB a b c d d) (L.putIf (L.onB a b c d c) (L.putIf (L.onB a b c d b) (L.putIf (L.onB a b c d a) L.no a) b) c) d = _
  rw [h1, h2, h3, h4]; rfl
theorem same_sym (p q : L.Pt) : L.same p q = L.same q p := by
  unfold L.same
  rw [show decide (p.x = q.x) = decide (q.x = p.x) from by by_cases h : p.x = q.x <;> simp [h, eq_comm], show decide (p.y = q.y) = decide (q.y = p.y) from by by_cases h : p.y = q.y <;> simp [h, eq_comm]]
theorem put_n {ks : L.Sq L.Pt} {p : L.Pt} : (L.put ks p).n ≤ ks.n + 1 := by
  unfold L.put
  cases L.has ks p
  · exact Nat.le_refl _
  · exact Nat.le_succ _
theorem cm_n {a b c d : L.Pt} : ∀ {i : Nat}, (L.cm a b c d i).n ≤ i
  | 0 => Nat.le_refl _
  | i + 1 => by
    have ih := cm_n (a := a) (b := b) (c := c) (d := d) (i := i)
    rw [L.cm]
    cases L.onB a b c d (L.pick4 a b c d i)
    · exact Nat.le_trans ih (Nat.le_succ _)
    · exact Nat.le_trans put_n (Nat.succ_le_succ ih)
theorem corner_eq {l : L.Sq L.Pt} {k : Nat} : (bif bif decide (0 < (k : Int)) then !decide (L.cmpPt (l.g 0) (l.g k) < 0) else false then true else decide (L.cross (l.g (L.prev l.n k)) (l.g k) (l.g (L.next l.n k)) = 0)) = !L.corner l k := by
  unfold L.corner
  have : decide (0 ≤ L.cmpPt (l.g 0) (l.g k)) = !decide (L.cmpPt (l.g 0) (l.g k) < 0) := by
    by_cases h : L.cmpPt (l.g 0) (l.g k) < 0
    · rw [decide_eq_true h, decide_eq_false (by omega)]; rfl
    · rw [decide_eq_false h, decide_eq_true (by omega)]; rfl
  rw [this, Bool.not_not]
  cases decide (0 < (k : Int)) <;> cases decide (L.cmpPt (l.g 0) (l.g k) < 0) <;> cases decide (L.cross (l.g (L.prev l.n k)) (l.g k) (l.g (L.next l.n k)) = 0) <;> rfl
def r1_meet_p (a : L.Pt) (b : L.Pt) (c : L.Pt) (d : L.Pt) : Prop := L.bd a ∧ L.bd b ∧ L.bd c ∧ L.bd d
def r1_meet_r (a : L.Pt) (b : L.Pt) (c : L.Pt) (d : L.Pt) : SV := .int .i64 (L.meet a b c d)
def r1_meet_s : List EV → Option (Prop × SV)
  | [.p (.agg [.int .i64 a_x, .int .i64 a_y]), .p (.agg [.int .i64 b_x, .int .i64 b_y]), .p (.agg [.int .i64 c_x, .int .i64 c_y]), .p (.agg [.int .i64 d_x, .int .i64 d_y])] => some (r1_meet_p (⟨a_x, a_y⟩ : L.Pt) (⟨b_x, b_y⟩ : L.Pt) (⟨c_x, c_y⟩ : L.Pt) (⟨d_x, d_y⟩ : L.Pt), r1_meet_r (⟨a_x, a_y⟩ : L.Pt) (⟨b_x, b_y⟩ : L.Pt) (⟨c_x, c_y⟩ : L.Pt) (⟨d_x, d_y⟩ : L.Pt))
  | _ => none
abbrev r1_meet_S : SE.Spec := (specO r1_meet_s)
def r1_meet_C : Cfg := { muts := [], frz := lookN [], specs := lookS [(190, r1_On_S), (93, r1_Cross_S), (95, r1_sign_S)], loops := fun _ => none, iters := lookI [], rfs := lookR [], nils := lookM [(2, [(9, 20, 42, 2)])] }
theorem r1_meet_vc (a : L.Pt) (b : L.Pt) (c : L.Pt) (d : L.Pt) (hp : r1_meet_p a b c d) : vc Tryz.prog ({ r1_meet_C with loops := lookL [(4, { T := Nat, keep := [4, 5, 6, 7, 9], keepO := [], chg := fun i => [(10, .p (.sl 2 4 (fun j => [.int .i64 ((L.pick4 a b c d j).x), .int .i64 ((L.pick4 a b c d j).y)]))), (11, .p (.int .i64 (i : Int)))], own := fun i => [(20, .row 42 2 (L.cm a b c d i).n (fun j => [.int .i64 (((L.cm a b c d i).g j).x), .int .i64 (((L.cm a b c d i).g j).y)]))], inv := fun i => i ≤ 4, mu := fun i => 4 - i }), (9, { T := Nat × Nat, keep := [4, 5, 6, 7, 9, 10, 11], keepO := [], tie := fun g => [(11, .int .i64 (g.1 : Int))], chg := fun g => [(12, .p (.bool (L.anyB g.2 (fun j => L.same ((L.cm a b c d g.1).g j) (L.pick4 a b c d g.1))))), (13, .p (.int .i64 (g.2 : Int)))], own := fun g => [(20, .row 42 2 (L.cm a b c d g.1).n (fun j => [.int .i64 (((L.cm a b c d g.1).g j).x), .int .i64 (((L.cm a b c d g.1).g j).y)]))], inv := fun g => g.1 < 4 ∧ g.2 ≤ (L.cm a b c d g.1).n, mu := fun g => (L.cm a b c d g.1).n - g.2 })], rfs := lookR [] }) (bodyOf Tryz.f154) (st0 Tryz.f154 [.p (.agg [.int .i64 a.x, .int .i64 a.y]), .p (.agg [.int .i64 b.x, .int .i64 b.y]), .p (.agg [.int .i64 c.x, .int .i64 c.y]), .p (.agg [.int .i64 d.x, .int .i64 d.y])]) (retFn Tryz.prog Tryz.f154 (r1_meet_r a b c d)) :=
  @Eq.mpr _ ((∃ (g : Nat), (nat_lit 4 = (4 : Nat) ∧ ∀ (i : Nat), i < nat_lit 4 → Go.SE.rowsOf [Go.SE.SV.int Go.IntKind.i64 a.x, Go.SE.SV.int Go.IntKind.i64 a.y, Go.SE.SV.int Go.IntKind.i64 b.x, Go.SE.SV.int Go.IntKind.i64 b.y, Go.SE.SV.int Go.IntKind.i64 c.x, Go.SE.SV.int Go.IntKind.i64 c.y, Go.SE.SV.int Go.IntKind.i64 d.x, Go.SE.SV.int Go.IntKind.i64 d.y] (nat_lit 2) i = [Go.SE.SV.int Go.IntKind.i64 (L.pick4
 a b c d i).x, Go.SE.SV.int Go.IntKind.i64 (L.pick4 a b c d i).y]) ∧ (0 : Int) = (↑g : Int) ∧ (nat_lit 0 = (L.cm a b c d g).n ∧ ∀ (i : Nat), i < nat_lit 0 → [] = [Go.SE.SV.int Go.IntKind.i64 ((L.cm a b c d g).g i).x, Go.SE.SV.int Go.IntKind.i64 ((L.cm a b c d g).g i).y]) ∧ g ≤ (4 : Nat)) ∧ ∀ (g : Nat), g ≤ (4 : Nat) → (Decidable.decide ((↑g : Int) < (4 : Int)) = Bool.true → ((0 : Int) ≤ (↑g : Int)
 ∧ (↑g : Int) < (↑(nat_lit 4) : Int)) ∧ (L.bd a ∧ L.bd b ∧ L.bd (L.pick4 a b c d (Int.toNat (↑g : Int)))) ∧ ((!!L.on a b (L.pick4 a b c d (Int.toNat (↑g : Int)))) = Bool.true → (0 : Int) ≤ (↑g : Int) ∧ (↑g : Int) < (↑(nat_lit 4) : Int)) ∧ ((!!L.on a b (L.pick4 a b c d (Int.toNat (↑g : Int)))) = Bool.true → L.bd c ∧ L.bd d ∧ L.bd (L.pick4 a b c d (Int.toNat (↑g : Int)))) ∧ ((bif !L.on a b (L.pick4 a
 b c d (Int.toNat (↑g : Int))) then Bool.true else !L.on c d (L.pick4 a b c d (Int.toNat (↑g : Int)))) = Bool.true → Go.SE.InK Go.IntKind.i64 ((↑g : Int) + (1 : Int)) ∧ ∃ (g' : Nat), (nat_lit 4 = (4 : Nat) ∧ ∀ (i : Nat), i < nat_lit 4 → [Go.SE.SV.int Go.IntKind.i64 (L.pick4 a b c d i).x, Go.SE.SV.int Go.IntKind.i64 (L.pick4 a b c d i).y] = [Go.SE.SV.int Go.IntKind.i64 (L.pick4 a b c d i).x,
 Go.SE.SV.int Go.IntKind.i64 (L.pick4 a b c d i).y]) ∧ (↑g : Int) + (1 : Int) = (↑g' : Int) ∧ Go.SE.SV.ref [Go.SE.SV.int Go.IntKind.i64 d.x, Go.SE.SV.int Go.IntKind.i64 d.y] (nat_lit 0) = Go.SE.SV.ref [Go.SE.SV.int Go.IntKind.i64 d.x, Go.SE.SV.int Go.IntKind.i64 d.y] (nat_lit 0) ∧ Go.SE.SV.ref [Go.SE.SV.int Go.IntKind.i64 c.x, Go.SE.SV.int Go.IntKind.i64 c.y] (nat_lit 0) = Go.SE.SV.ref
 [Go.SE.SV.int Go.IntKind.i64 c.x, Go.SE.SV.int Go.IntKind.i64 c.y] (nat_lit 0) ∧ Go.SE.SV.ref [Go.SE.SV.int Go.IntKind.i64 b.x, Go.SE.SV.int Go.IntKind.i64 b.y] (nat_lit 0) = Go.SE.SV.ref [Go.SE.SV.int Go.IntKind.i64 b.x, Go.SE.SV.int Go.IntKind.i64 b.y] (nat_lit 0) ∧ Go.SE.SV.ref [Go.SE.SV.int Go.IntKind.i64 a.x, Go.SE.SV.int Go.IntKind.i64 a.y] (nat_lit 0) = Go.SE.SV.ref [Go.SE.SV.int
 Go.IntKind.i64 a.x, Go.SE.SV.int Go.IntKind.i64 a.y] (nat_lit 0) ∧ ((L.cm a b c d g).n = (L.cm a b c d g').n ∧ ∀ (i : Nat), i < (L.cm a b c d g).n → [Go.SE.SV.int Go.IntKind.i64 ((L.cm a b c d g).g i).x, Go.SE.SV.int Go.IntKind.i64 ((L.cm a b c d g).g i).y] = [Go.SE.SV.int Go.IntKind.i64 ((L.cm a b c d g').g i).x, Go.SE.SV.int Go.IntKind.i64 ((L.cm a b c d g').g i).y]) ∧ g' ≤ (4 : Nat) ∧ (4 : Nat)
 - g' < (4 : Nat) - g) ∧ ((bif !L.on a b (L.pick4 a b c d (Int.toNat (↑g : Int))) then Bool.true else !L.on c d (L.pick4 a b c d (Int.toNat (↑g : Int)))) = Bool.false → (∃ (g_1 : Nat × Nat), (Bool.false = L.anyB g_1.2 fun (j : Nat) ↦ L.same ((L.cm a b c d g_1.1).g j) (L.pick4 a b c d g_1.1)) ∧ (0 : Int) = (↑g_1.2 : Int) ∧ ((L.cm a b c d g).n = (L.cm a b c d g_1.1).n ∧ ∀ (i : Nat), i < (L.cm a b c d
 g).n → [Go.SE.SV.int Go.IntKind.i64 ((L.cm a b c d g).g i).x, Go.SE.SV.int Go.IntKind.i64 ((L.cm a b c d g).g i).y] = [Go.SE.SV.int Go.IntKind.i64 ((L.cm a b c d g_1.1).g i).x, Go.SE.SV.int Go.IntKind.i64 ((L.cm a b c d g_1.1).g i).y]) ∧ (↑g : Int) = (↑g_1.1 : Int) ∧ g_1.1 < (4 : Nat) ∧ g_1.2 ≤ (L.cm a b c d g_1.1).n) ∧ ∀ (g_1 : Nat × Nat), (↑g : Int) = (↑g_1.1 : Int) ∧ g_1.1 < (4 : Nat) ∧ g_1.2 ≤
 (L.cm a b c d g_1.1).n → (Decidable.decide ((↑g_1.2 : Int) < (↑(L.cm a b c d g_1.1).n : Int)) = Bool.true → ((!L.anyB g_1.2 fun (j : Nat) ↦ L.same ((L.cm a b c d g_1.1).g j) (L.pick4 a b c d g_1.1)) = Bool.true → (0 : Int) ≤ (↑g_1.2 : Int) ∧ (↑g_1.2 : Int) < (↑(L.cm a b c d g_1.1).n : Int)) ∧ ((!L.anyB g_1.2 fun (j : Nat) ↦ L.same ((L.cm a b c d g_1.1).g j) (L.pick4 a b c d g_1.1)) = Bool.true →
 Int.toNat (↑g_1.2 : Int) < (L.cm a b c d g_1.1).n) ∧ ((!L.anyB g_1.2 fun (j : Nat) ↦ L.same ((L.cm a b c d g_1.1).g j) (L.pick4 a b c d g_1.1)) = Bool.true → (0 : Int) ≤ (↑g : Int) ∧ (↑g : Int) < (↑(nat_lit 4) : Int)) ∧ Go.SE.InK Go.IntKind.i64 ((↑g_1.2 : Int) + (1 : Int)) ∧ ∃ (g' : Nat × Nat), ((bif L.anyB g_1.2 fun (j : Nat) ↦ L.same ((L.cm a b c d g_1.1).g j) (L.pick4 a b c d g_1.1) then
 Bool.true else Decidable.decide (((L.cm a b c d g_1.1).g (Int.toNat (↑g_1.2 : Int))).x = (L.pick4 a b c d (Int.toNat (↑g : Int))).x) && Decidable.decide (((L.cm a b c d g_1.1).g (Int.toNat (↑g_1.2 : Int))).y = (L.pick4 a b c d (Int.toNat (↑g : Int))).y)) = L.anyB g'.2 fun (j : Nat) ↦ L.same ((L.cm a b c d g'.1).g j) (L.pick4 a b c d g'.1)) ∧ (↑g_1.2 : Int) + (1 : Int) = (↑g'.2 : Int) ∧ (nat_lit 4
 = nat_lit 4 ∧ ∀ (i : Nat), i < nat_lit 4 → [Go.SE.SV.int Go.IntKind.i64 (L.pick4 a b c d i).x, Go.SE.SV.int Go.IntKind.i64 (L.pick4 a b c d i).y] = [Go.SE.SV.int Go.IntKind.i64 (L.pick4 a b c d i).x, Go.SE.SV.int Go.IntKind.i64 (L.pick4 a b c d i).y]) ∧ (↑g : Int) = (↑g : Int) ∧ Go.SE.SV.ref [Go.SE.SV.int Go.IntKind.i64 d.x, Go.SE.SV.int Go.IntKind.i64 d.y] (nat_lit 0) = Go.SE.SV.ref [Go.SE.SV.int
 Go.IntKind.i64 d.x, Go.SE.SV.int Go.IntKind.i64 d.y] (nat_lit 0) ∧ Go.SE.SV.ref [Go.SE.SV.int Go.IntKind.i64 c.x, Go.SE.SV.int Go.IntKind.i64 c.y] (nat_lit 0) = Go.SE.SV.ref [Go.SE.SV.int Go.IntKind.i64 c.x, Go.SE.SV.int Go.IntKind.i64 c.y] (nat_lit 0) ∧ Go.SE.SV.ref [Go.SE.SV.int Go.IntKind.i64 b.x, Go.SE.SV.int Go.IntKind.i64 b.y] (nat_lit 0) = Go.SE.SV.ref [Go.SE.SV.int Go.IntKind.i64 b.x,
 Go.SE.SV.int Go.IntKind.i64 b.y] (nat_lit 0) ∧ Go.SE.SV.ref [Go.SE.SV.int Go.IntKind.i64 a.x, Go.SE.SV.int Go.IntKind.i64 a.y] (nat_lit 0) = Go.SE.SV.ref [Go.SE.SV.int Go.IntKind.i64 a.x, Go.SE.SV.int Go.IntKind.i64 a.y] (nat_lit 0) ∧ ((L.cm a b c d g_1.1).n = (L.cm a b c d g'.1).n ∧ ∀ (i : Nat), i < (L.cm a b c d g_1.1).n → [Go.SE.SV.int Go.IntKind.i64 ((L.cm a b c d g_1.1).g i).x, Go.SE.SV.int
 Go.IntKind.i64 ((L.cm a b c d g_1.1).g i).y] = [Go.SE.SV.int Go.IntKind.i64 ((L.cm a b c d g'.1).g i).x, Go.SE.SV.int Go.IntKind.i64 ((L.cm a b c d g'.1).g i).y]) ∧ ((↑g : Int) = (↑g'.1 : Int) ∧ g'.1 < (4 : Nat) ∧ g'.2 ≤ (L.cm a b c d g'.1).n) ∧ (L.cm a b c d g'.1).n - g'.2 < (L.cm a b c d g_1.1).n - g_1.2) ∧ (Decidable.decide ((↑g_1.2 : Int) < (↑(L.cm a b c d g_1.1).n : Int)) = Bool.false →
 ((!L.anyB g_1.2 fun (j : Nat) ↦ L.same ((L.cm a b c d g_1.1).g j) (L.pick4 a b c d g_1.1)) = Bool.true → ((0 : Int) ≤ (↑g : Int) ∧ (↑g : Int) < (↑(nat_lit 4) : Int)) ∧ ((L.cm a b c d g_1.1).n + nat_lit 1) * nat_lit 16 ≤ (140737488355328 : Nat) ∧ Go.SE.InK Go.IntKind.i64 ((↑g : Int) + (1 : Int)) ∧ ∃ (g' : Nat), (nat_lit 4 = (4 : Nat) ∧ ∀ (i : Nat), i < nat_lit 4 → [Go.SE.SV.int Go.IntKind.i64
 (L.pick4 a b c d i).x, Go.SE.SV.int Go.IntKind.i64 (L.pick4 a b c d i).y] = [Go.SE.SV.int Go.IntKind.i64 (L.pick4 a b c d i).x, Go.SE.SV.int Go.IntKind.i64 (L.pick4 a b c d i).y]) ∧ (↑g : Int) + (1 : Int) = (↑g' : Int) ∧ Go.SE.SV.ref [Go.SE.SV.int Go.IntKind.i64 d.x, Go.SE.SV.int Go.IntKind.i64 d.y] (nat_lit 0) = Go.SE.SV.ref [Go.SE.SV.int Go.IntKind.i64 d.x, Go.SE.SV.int Go.IntKind.i64 d.y]
 (nat_lit 0) ∧ Go.SE.SV.ref [Go.SE.SV.int Go.IntKind.i64 c.x, Go.SE.SV.int Go.IntKind.i64 c.y] (nat_lit 0) = Go.SE.SV.ref [Go.SE.SV.int Go.IntKind.i64 c.x, Go.SE.SV.int Go.IntKind.i64 c.y] (nat_lit 0) ∧ Go.SE.SV.ref [Go.SE.SV.int Go.IntKind.i64 b.x, Go.SE.SV.int Go.IntKind.i64 b.y] (nat_lit 0) = Go.SE.SV.ref [Go.SE.SV.int Go.IntKind.i64 b.x, Go.SE.SV.int Go.IntKind.i64 b.y] (nat_lit 0) ∧
 Go.SE.SV.ref [Go.SE.SV.int Go.IntKind.i64 a.x, Go.SE.SV.int Go.IntKind.i64 a.y] (nat_lit 0) = Go.SE.SV.ref [Go.SE.SV.int Go.IntKind.i64 a.x, Go.SE.SV.int Go.IntKind.i64 a.y] (nat_lit 0) ∧ ((L.cm a b c d g_1.1).n + nat_lit 1 = (L.cm a b c d g').n ∧ ∀ (i : Nat), i < (L.cm a b c d g_1.1).n + nat_lit 1 → Go.SE.appGet (L.cm a b c d g_1.1).n (fun (j : Nat) ↦ [Go.SE.SV.int Go.IntKind.i64 ((L.cm a b c d
 g_1.1).g j).x, Go.SE.SV.int Go.IntKind.i64 ((L.cm a b c d g_1.1).g j).y]) (fun (x : Nat) ↦ [Go.SE.SV.int Go.IntKind.i64 (L.pick4 a b c d (Int.toNat (↑g : Int))).x, Go.SE.SV.int Go.IntKind.i64 (L.pick4 a b c d (Int.toNat (↑g : Int))).y]) i = [Go.SE.SV.int Go.IntKind.i64 ((L.cm a b c d g').g i).x, Go.SE.SV.int Go.IntKind.i64 ((L.cm a b c d g').g i).y]) ∧ g' ≤ (4 : Nat) ∧ (4 : Nat) - g' < (4 : Nat) -
 g) ∧ ((!L.anyB g_1.2 fun (j : Nat) ↦ L.same ((L.cm a b c d g_1.1).g j) (L.pick4 a b c d g_1.1)) = Bool.false → Go.SE.InK Go.IntKind.i64 ((↑g : Int) + (1 : Int)) ∧ ∃ (g' : Nat), (nat_lit 4 = (4 : Nat) ∧ ∀ (i : Nat), i < nat_lit 4 → [Go.SE.SV.int Go.IntKind.i64 (L.pick4 a b c d i).x, Go.SE.SV.int Go.IntKind.i64 (L.pick4 a b c d i).y] = [Go.SE.SV.int Go.IntKind.i64 (L.pick4 a b c d i).x, Go.SE.SV.int
 Go.IntKind.i64 (L.pick4 a b c d i).y]) ∧ (↑g : Int) + (1 : Int) = (↑g' : Int) ∧ Go.SE.SV.ref [Go.SE.SV.int Go.IntKind.i64 d.x, Go.SE.SV.int Go.IntKind.i64 d.y] (nat_lit 0) = Go.SE.SV.ref [Go.SE.SV.int Go.IntKind.i64 d.x, Go.SE.SV.int Go.IntKind.i64 d.y] (nat_lit 0) ∧ Go.SE.SV.ref [Go.SE.SV.int Go.IntKind.i64 c.x, Go.SE.SV.int Go.IntKind.i64 c.y] (nat_lit 0) = Go.SE.SV.ref [Go.SE.SV.int
 Go.IntKind.i64 c.x, Go.SE.SV.int Go.IntKind.i64 c.y] (nat_lit 0) ∧ Go.SE.SV.ref [Go.SE.SV.int Go.IntKind.i64 b.x, Go.SE.SV.int Go.IntKind.i64 b.y] (nat_lit 0) = Go.SE.SV.ref [Go.SE.SV.int Go.IntKind.i64 b.x, Go.SE.SV.int Go.IntKind.i64 b.y] (nat_lit 0) ∧ Go.SE.SV.ref [Go.SE.SV.int Go.IntKind.i64 a.x, Go.SE.SV.int Go.IntKind.i64 a.y] (nat_lit 0) = Go.SE.SV.ref [Go.SE.SV.int Go.IntKind.i64 a.x,
 Go.SE.SV.int Go.IntKind.i64 a.y] (nat_lit 0) ∧ ((L.cm a b c d g_1.1).n = (L.cm a b c d g').n ∧ ∀ (i : Nat), i < (L.cm a b c d g_1.1).n → [Go.SE.SV.int Go.IntKind.i64 ((L.cm a b c d g_1.1).g i).x, Go.SE.SV.int Go.IntKind.i64 ((L.cm a b c d g_1.1).g i).y] = [Go.SE.SV.int Go.IntKind.i64 ((L.cm a b c d g').g i).x, Go.SE.SV.int Go.IntKind.i64 ((L.cm a b c d g').g i).y]) ∧ g' ≤ (4 : Nat) ∧ (4 : Nat) -
 g' < (4 : Nat) - g)))) ∧ (Decidable.decide ((↑g : Int) < (4 : Int)) = Bool.false → (Decidable.decide ((1 : Int) < (↑(L.cm a b c d g).n : Int)) = Bool.true → (3 : Int) = L.meet a b c d) ∧ (Decidable.decide ((1 : Int) < (↑(L.cm a b c d g).n : Int)) = Bool.false → (Decidable.decide ((↑(L.cm a b c d g).n : Int) = (1 : Int)) = Bool.true → (1 : Int) = L.meet a b c d) ∧ (Decidable.decide ((↑(L.cm a b c d
 g).n : Int) = (1 : Int)) = Bool.false → (L.bd a ∧ L.bd b ∧ L.bd c) ∧ True ∧ (L.bd a ∧ L.bd b ∧ L.bd d) ∧ True ∧ Go.SE.InK Go.IntKind.i64 (L.cmp (L.cross a b c) (0 : Int) * L.cmp (L.cross a b d) (0 : Int)) ∧ (Decidable.decide (L.cmp (L.cross a b c) (0 : Int) * L.cmp (L.cross a b d) (0 : Int) < (0 : Int)) = Bool.true → L.bd c ∧ L.bd d ∧ L.bd a) ∧ (Decidable.decide (L.cmp (L.cross a b c) (0 : Int) *
 L.cmp (L.cross a b d) (0 : Int) < (0 : Int)) = Bool.true → True) ∧ (Decidable.decide (L.cmp (L.cross a b c) (0 : Int) * L.cmp (L.cross a b d) (0 : Int) < (0 : Int)) = Bool.true → L.bd c ∧ L.bd d ∧ L.bd b) ∧ (Decidable.decide (L.cmp (L.cross a b c) (0 : Int) * L.cmp (L.cross a b d) (0 : Int) < (0 : Int)) = Bool.true → True) ∧ (Decidable.decide (L.cmp (L.cross a b c) (0 : Int) * L.cmp (L.cross a b
 d) (0 : Int) < (0 : Int)) = Bool.true → Go.SE.InK Go.IntKind.i64 (L.cmp (L.cross c d a) (0 : Int) * L.cmp (L.cross c d b) (0 : Int))) ∧ ((bif Decidable.decide (L.cmp (L.cross a b c) (0 : Int) * L.cmp (L.cross a b d) (0 : Int) < (0 : Int)) then Decidable.decide (L.cmp (L.cross c d a) (0 : Int) * L.cmp (L.cross c d b) (0 : Int) < (0 : Int)) else Bool.false) = Bool.true → (2 : Int) = L.meet a b c d)
 ∧ ((bif Decidable.decide (L.cmp (L.cross a b c) (0 : Int) * L.cmp (L.cross a b d) (0 : Int) < (0 : Int)) then Decidable.decide (L.cmp (L.cross c d a) (0 : Int) * L.cmp (L.cross c d b) (0 : Int) < (0 : Int)) else Bool.false) = Bool.false → (0 : Int) = L.meet a b c d))))) (by kernel_rfl) (by
    obtain ⟨ha, hb, hc, hd⟩ := hp
    have hp4 : ∀ i, L.bd (L.pick4 a b c d i) := fun i => by
      unfold L.pick4
      cases decide (i = 0) <;> cases decide (i = 1) <;> cases decide (i = 2) <;> assumption
    refine ⟨⟨(0 : Nat), ⟨rfl, fun i hi => by match i, hi with | 0, _ => rfl | 1, _ => rfl | 2, _ => rfl | 3, _ => rfl⟩, rfl, ⟨rfl, fun i hi => absurd hi (Nat.not_lt_zero _)⟩, by decide⟩, fun g hg => ⟨fun hlt => ?_, fun hge => ?_⟩⟩
    · have hb1 : (g : Int) < 4 := of_decide_eq_true hlt
      have e0 : ((g : Int)).toNat = g := by omega
      rw [e0]
      refine ⟨⟨by omega, hb1⟩, ⟨ha, hb, hp4 g⟩, fun _ => ⟨by omega, hb1⟩, fun _ => ⟨hc, hd, hp4 g⟩, fun h1 => ?_, fun h1 => ?_⟩
      · have hoff : L.onB a b c d (L.pick4 a b c d g) = false := by
          unfold L.onB
          revert h1
          cases L.on a b (L.pick4 a b c d g) <;> cases L.on c d (L.pick4 a b c d g) <;> intro h1 <;> first | rfl | cases h1
        have e : L.cm a b c d (g + 1) = L.cm a b c d g := by rw [L.cm, hoff]; rfl
        refine ⟨InK.of (by omega) (by omega), g + 1, ⟨rfl, fun _ _ => rfl⟩, by omega, rfl, rfl, rfl, rfl, ?_, by omega, by omega⟩
        rw [e]; exact ⟨rfl, fun _ _ => rfl⟩
      · have hon : L.onB a b c d (L.pick4 a b c d g) = true := by
          unfold L.onB
          revert h1
          cases L.on a b (L.pick4 a b c d g) <;> cases L.on c d (L.pick4 a b c d g) <;> intro h1 <;> first | rfl | cases h1
        refine ⟨⟨(g, 0), rfl, rfl, ⟨rfl, fun _ _ => rfl⟩, rfl, by show g < 4; omega, Nat.zero_le _⟩, ?_⟩
        rintro ⟨g', k⟩ ⟨e1, e2, e3⟩
        have e1 : (g : Int) = (g' : Int) := e1
        obtain rfl : g = g' := by omega
        have e3 : k ≤ (L.cm a b c d g).n := e3
        have ek : ((k : Int)).toNat = k := by omega
        have hcn := cm_n (a := a) (b := b) (c := c) (d := d) (i := g)
        dsimp only
        rw [ek]
        refine ⟨fun hlt2 => ?_, fun hge2 => ?_⟩
        · have hk : (k : Int) < ((L.cm a b c d g).n : Int) := of_decide_eq_true hlt2
          refine ⟨fun _ => ⟨by omega, hk⟩, fun _ => (show k < (L.cm a b c d g).n by omega), fun _ => ⟨by omega, hb1⟩, InK.of (by omega) (by omega), (g, k + 1), ?_, by show (k : Int) + 1 = ((k + 1 : Nat) : Int); omega, ⟨rfl, fun _ _ => rfl⟩, rfl, rfl, rfl, rfl, rfl, ⟨rfl, fun _ _ => rfl⟩, ⟨rfl, by show g < 4; omega, by show k + 1 ≤ (L.cm a b c d g).n; omega⟩, by show (L.cm a b c d g).n - (k + 1) < (L.cm a b c d g).n - k; omega⟩
          rw [bor]; rfl
        · have hk : ¬ (k : Int) < ((L.cm a b c d g).n : Int) := of_decide_eq_false hge2
          obtain rfl : k = (L.cm a b c d g).n := by omega
          have hhas : L.anyB (L.cm a b c d g).n (fun j => L.same ((L.cm a b c d g).g j) (L.pick4 a b c d g)) = L.has (L.cm a b c d g) (L.pick4 a b c d g) :=
            anyB_congr (fun i _ => same_sym _ _)
          rw [hhas]
          refine ⟨fun h2 => ?_, fun h2 => ?_⟩
          · have e : L.cm a b c d (g + 1) = ⟨(L.cm a b c d g).n + 1, fun i => if i < (L.cm a b c d g).n then (L.cm a b c d g).g i else L.pick4 a b c d g⟩ := by
              rw [L.cm, hon]
              show L.put _ _ = _
              unfold L.put; rw [notT h2]; rfl
            refine ⟨⟨by omega, hb1⟩, show ((L.cm a b c d g).n + 1) * 16 ≤ 140737488355328 by omega, InK.of (by omega) (by omega), g + 1, ⟨rfl, fun _ _ => rfl⟩, by omega, rfl, rfl, rfl, rfl, ?_, by omega, by omega⟩
            rw [e]
            refine ⟨rfl, fun i hi => ?_⟩
            unfold appGet
            dsimp only
            by_cases h' : i < (L.cm a b c d g).n
            · rw [if_pos h', if_pos h']
            · rw [if_neg h', if_neg h']
          · have e : L.cm a b c d (g + 1) = L.cm a b c d g := by
              rw [L.cm, hon]
              show L.put _ _ = _
              unfold L.put; rw [notF h2]; rfl
            refine ⟨InK.of (by omega) (by omega), g + 1, ⟨rfl, fun _ _ => rfl⟩, by omega, rfl, rfl, rfl, rfl, ?_, by omega, by omega⟩
            rw [e]; exact ⟨rfl, fun _ _ => rfl⟩
    · have hb1 : ¬ (g : Int) < 4 := of_decide_eq_false hge
      obtain rfl : g = 4 := by omega
      rw [cm_eq]
      have q1 := cmp_bd (L.cross a b c) 0
      have q2 := cmp_bd (L.cross a b d) 0
      have q3 := cmp_bd (L.cross c d a) 0
      have q4 := cmp_bd (L.cross c d b) 0
      have m1 := mul_bd (m := 1) (n := 1) q1.1 q1.2 q2.1 q2.2
      have m2 := mul_bd (m := 1) (n := 1) q3.1 q3.2 q4.1 q4.2
      refine ⟨fun h1 => ?_, fun h1 => ⟨fun h2 => ?_, fun h2 => ⟨⟨ha, hb, hc⟩, trivial, ⟨ha, hb, hd⟩, trivial, InK.of (by omega) (by omega), fun _ => ⟨hc, hd, ha⟩, fun _ => trivial, fun _ => ⟨hc, hd, hb⟩, fun _ => trivial, fun _ => InK.of (by omega) (by omega), fun h3 => ?_, fun h3 => ?_⟩⟩⟩
      · unfold L.meet; rw [h1]; rfl
      · unfold L.meet; rw [h1, h2]; rfl
      · have h3 : (bif L.apart a b c d then L.apart c d a b else false) = true := h3
        unfold L.meet; rw [h1, h2, h3]; rfl
      · have h3 : (bif L.apart a b c d then L.apart c d a b else false) = false := h3
        unfold L.meet; rw [h1, h2, h3]; rfl)
theorem r1_meet_ok : SpecOk Tryz.prog 154 r1_meet_S := fnX Tryz.func154 (c := bodyOf Tryz.f154) (by kernel_rfl) mixed (fun args p r hs hp => by
  unfold r1_meet_s at hs
  split at hs
  · cases hs; exact ⟨_, _, r1_meet_vc _ _ _ _ hp, (.same _ (.same _ (.same _ (.same _ .nil)))), ⟨show SpecsL Tryz.prog _ from (SpecsL.cons r1_On_ok r1_On_en (SpecsL.cons r1_Cross_ok r1_Cross_en (SpecsL.cons r1_sign_ok r1_sign_en SpecsL.nil))), rfl, ⟨show ItersL Tryz.prog _ from ItersL.nil, (TrsOk.none (fun _ => rfl))⟩⟩⟩
  · cases hs)
theorem r1_meet_en : Enters Tryz.prog 154 := fun args w => by kernel_rfl
theorem r1_meet_I : ∀ args p r, r1_meet_s args = some (p, r) → ∃ n, r = .int .i64 n := by
  intro args p r h
  unfold r1_meet_s at h
  split at h
  · cases h; exact ⟨_, rfl⟩
  · cases h
def r1_simple_p (l : (L.Sq L.Pt)) : Prop := L.allBd l
def r1_simple_r (l : (L.Sq L.Pt)) : SV := .bool (L.simple l)
def r1_simple_s : List EV → Option (Prop × SV)
  | [.p (.sl 2 l_n l_g)] => some ((∀ i, i < l_n → l_g i = [.int .i64 ((ofPt (l_g i)).x), .int .i64 ((ofPt (l_g i)).y)]) ∧ r1_simple_p (⟨l_n, fun i => ofPt (l_g i)⟩ : (L.Sq L.Pt)), r1_simple_r (⟨l_n, fun i => ofPt (l_g i)⟩ : (L.Sq L.Pt)))
  | _ => none
abbrev r1_simple_S : SE.Spec := (specO r1_simple_s)
def r1_simple_C : Cfg := { muts := [], frz := lookN [], specs := lookS [(76, r1_at_S), (154, r1_meet_S)], loops := fun _ => none, iters := lookI [], rfs := lookR [], nils := lookM [] }
theorem r1_simple_vc (l : (L.Sq L.Pt)) (hp : r1_simple_p l) : vc Tryz.prog ({ r1_simple_C with loops := lookL [(3, { T := Nat, keep := [0, 3], keepO := [], chg := fun i => [(4, .p (.int .i64 (i : Int)))], own := fun _ => [], inv := fun i => i ≤ l.n ∧ ∀ j, j < i → ∀ k, j < k → k < l.n → L.okPair l j k = true, mu := fun i => l.n - i }), (6, { T := Nat × Nat, keep := [0, 3, 4], keepO := [], tie := fun i => [(4, .int .i64 (i.1 : Int))], chg := fun i => [(5, .p (.int .i64 (i.2 : Int)))], own := fun _ => [], inv := fun i => i.1 < i.2 ∧ i.2 ≤ l.n ∧ (∀ j, j < i.1 → ∀ k, j < k → k < l.n → L.okPair l j k = true) ∧ ∀ k, i.1 < k → k < i.2 → L.okPair l i.1 k = true, mu := fun i => l.n - i.2 })], rfs := lookR [] }) (bodyOf Tryz.f87) (st0 Tryz.f87 [.p (.sl 2 l.n (fun i => [.int .i64 ((l.g i).x), .int .i64 ((l.g i).y)]))]) (retFn Tryz.prog Tryz.f87 (r1_simple_r l)) :=
  @Eq.mpr _ ((∃ (g : Nat), (0 : Int) = (↑g : Int) ∧ g ≤ l.n ∧ ∀ (j : Nat), j < g → ∀ (k : Nat), j < k → k < l.n → L.okPair l j k = Bool.true) ∧ ∀ (g : Nat), (g ≤ l.n ∧ ∀ (j : Nat), j < g → ∀ (k : Nat), j < k → k < l.n → L.okPair l j k = Bool.true) → (Decidable.decide ((↑g : Int) < (↑l.n : Int)) = Bool.true → Go.SE.InK Go.IntKind.i64 ((↑g : Int) + (1 : Int)) ∧ (∃ (g_1 : Nat × Nat), (↑g : Int) + (1 : Int) =
 (↑g_1.2 : Int) ∧ (↑g : Int) = (↑g_1.1 : Int) ∧ g_1.1 < g_1.2 ∧ g_1.2 ≤ l.n ∧ (∀ (j : Nat), j < g_1.1 → ∀ (k : Nat), j < k → k < l.n → L.okPair l j k = Bool.true) ∧ ∀ (k : Nat), g_1.1 < k → k < g_1.2 → L.okPair l g_1.1 k = Bool.true) ∧ ∀ (g_1 : Nat × Nat), ((↑g : Int) = (↑g_1.1 : Int) ∧ g_1.1 < g_1.2 ∧ g_1.2 ≤ l.n ∧ (∀ (j : Nat), j < g_1.1 → ∀ (k : Nat), j < k → k < l.n → L.okPair l j k =
 Bool.true) ∧ ∀ (k : Nat), g_1.1 < k → k < g_1.2 → L.okPair l g_1.1 k = Bool.true) → (Decidable.decide ((↑g_1.2 : Int) < (↑l.n : Int)) = Bool.true → ((∀ (i : Nat), i < l.n → [Go.SE.SV.int Go.IntKind.i64 (l.g i).x, Go.SE.SV.int Go.IntKind.i64 (l.g i).y] = [Go.SE.SV.int Go.IntKind.i64 (l.g i).x, Go.SE.SV.int Go.IntKind.i64 (l.g i).y]) ∧ (1 : Nat) ≤ l.n ∧ l.n ≤ (1000000 : Nat) ∧ (-1000000 : Int) ≤ (↑g
 : Int) ∧ (↑g : Int) ≤ (1000000 : Int)) ∧ Go.SE.InK Go.IntKind.i64 ((↑g : Int) + (1 : Int)) ∧ ((∀ (i : Nat), i < l.n → [Go.SE.SV.int Go.IntKind.i64 (l.g i).x, Go.SE.SV.int Go.IntKind.i64 (l.g i).y] = [Go.SE.SV.int Go.IntKind.i64 (l.g i).x, Go.SE.SV.int Go.IntKind.i64 (l.g i).y]) ∧ (1 : Nat) ≤ l.n ∧ l.n ≤ (1000000 : Nat) ∧ (-1000000 : Int) ≤ (↑g : Int) + (1 : Int) ∧ (↑g : Int) + (1 : Int) ≤ (1000000
 : Int)) ∧ ((∀ (i : Nat), i < l.n → [Go.SE.SV.int Go.IntKind.i64 (l.g i).x, Go.SE.SV.int Go.IntKind.i64 (l.g i).y] = [Go.SE.SV.int Go.IntKind.i64 (l.g i).x, Go.SE.SV.int Go.IntKind.i64 (l.g i).y]) ∧ (1 : Nat) ≤ l.n ∧ l.n ≤ (1000000 : Nat) ∧ (-1000000 : Int) ≤ (↑g_1.2 : Int) ∧ (↑g_1.2 : Int) ≤ (1000000 : Int)) ∧ Go.SE.InK Go.IntKind.i64 ((↑g_1.2 : Int) + (1 : Int)) ∧ ((∀ (i : Nat), i < l.n →
 [Go.SE.SV.int Go.IntKind.i64 (l.g i).x, Go.SE.SV.int Go.IntKind.i64 (l.g i).y] = [Go.SE.SV.int Go.IntKind.i64 (l.g i).x, Go.SE.SV.int Go.IntKind.i64 (l.g i).y]) ∧ (1 : Nat) ≤ l.n ∧ l.n ≤ (1000000 : Nat) ∧ (-1000000 : Int) ≤ (↑g_1.2 : Int) + (1 : Int) ∧ (↑g_1.2 : Int) + (1 : Int) ≤ (1000000 : Int)) ∧ (L.bd (l.g (L.ix l.n (↑g : Int))) ∧ L.bd (l.g (L.ix l.n ((↑g : Int) + (1 : Int)))) ∧ L.bd (l.g
 (L.ix l.n (↑g_1.2 : Int))) ∧ L.bd (l.g (L.ix l.n ((↑g_1.2 : Int) + (1 : Int))))) ∧ Go.SE.InK Go.IntKind.i64 ((↑g : Int) + (1 : Int)) ∧ ((!Decidable.decide ((↑g_1.2 : Int) = (↑g : Int) + (1 : Int)) && Decidable.decide ((↑g : Int) = (0 : Int))) = Bool.true → Go.SE.InK Go.IntKind.i64 ((↑l.n : Int) - (1 : Int))) ∧ ((bif bif bif Decidable.decide ((↑g_1.2 : Int) = (↑g : Int) + (1 : Int)) then Bool.true
 else bif Decidable.decide ((↑g : Int) = (0 : Int)) then Decidable.decide ((↑g_1.2 : Int) = (↑l.n : Int) - (1 : Int)) else Bool.false then !Decidable.decide (L.meet (l.g (L.ix l.n (↑g : Int))) (l.g (L.ix l.n ((↑g : Int) + (1 : Int)))) (l.g (L.ix l.n (↑g_1.2 : Int))) (l.g (L.ix l.n ((↑g_1.2 : Int) + (1 : Int)))) = (1 : Int)) else Bool.false then Bool.true else bif !bif Decidable.decide ((↑g_1.2 :
 Int) = (↑g : Int) + (1 : Int)) then Bool.true else bif Decidable.decide ((↑g : Int) = (0 : Int)) then Decidable.decide ((↑g_1.2 : Int) = (↑l.n : Int) - (1 : Int)) else Bool.false then !Decidable.decide (L.meet (l.g (L.ix l.n (↑g : Int))) (l.g (L.ix l.n ((↑g : Int) + (1 : Int)))) (l.g (L.ix l.n (↑g_1.2 : Int))) (l.g (L.ix l.n ((↑g_1.2 : Int) + (1 : Int)))) = (0 : Int)) else Bool.false) = Bool.true
 → Bool.false = L.simple l) ∧ ((bif bif bif Decidable.decide ((↑g_1.2 : Int) = (↑g : Int) + (1 : Int)) then Bool.true else bif Decidable.decide ((↑g : Int) = (0 : Int)) then Decidable.decide ((↑g_1.2 : Int) = (↑l.n : Int) - (1 : Int)) else Bool.false then !Decidable.decide (L.meet (l.g (L.ix l.n (↑g : Int))) (l.g (L.ix l.n ((↑g : Int) + (1 : Int)))) (l.g (L.ix l.n (↑g_1.2 : Int))) (l.g (L.ix l.n
 ((↑g_1.2 : Int) + (1 : Int)))) = (1 : Int)) else Bool.false then Bool.true else bif !bif Decidable.decide ((↑g_1.2 : Int) = (↑g : Int) + (1 : Int)) then Bool.true else bif Decidable.decide ((↑g : Int) = (0 : Int)) then Decidable.decide ((↑g_1.2 : Int) = (↑l.n : Int) - (1 : Int)) else Bool.false then !Decidable.decide (L.meet (l.g (L.ix l.n (↑g : Int))) (l.g (L.ix l.n ((↑g : Int) + (1 : Int))))
 (l.g (L.ix l.n (↑g_1.2 : Int))) (l.g (L.ix l.n ((↑g_1.2 : Int) + (1 : Int)))) = (0 : Int)) else Bool.false) = Bool.false → Go.SE.InK Go.IntKind.i64 ((↑g_1.2 : Int) + (1 : Int)) ∧ ∃ (g' : Nat × Nat), (↑g_1.2 : Int) + (1 : Int) = (↑g'.2 : Int) ∧ (↑g : Int) = (↑g : Int) ∧ (↑l.n : Int) = (↑l.n : Int) ∧ (l.n = l.n ∧ ∀ (i : Nat), i < l.n → [Go.SE.SV.int Go.IntKind.i64 (l.g i).x, Go.SE.SV.int
 Go.IntKind.i64 (l.g i).y] = [Go.SE.SV.int Go.IntKind.i64 (l.g i).x, Go.SE.SV.int Go.IntKind.i64 (l.g i).y]) ∧ ((↑g : Int) = (↑g'.1 : Int) ∧ g'.1 < g'.2 ∧ g'.2 ≤ l.n ∧ (∀ (j : Nat), j < g'.1 → ∀ (k : Nat), j < k → k < l.n → L.okPair l j k = Bool.true) ∧ ∀ (k : Nat), g'.1 < k → k < g'.2 → L.okPair l g'.1 k = Bool.true) ∧ l.n - g'.2 < l.n - g_1.2)) ∧ (Decidable.decide ((↑g_1.2 : Int) < (↑l.n : Int))
 = Bool.false → Go.SE.InK Go.IntKind.i64 ((↑g : Int) + (1 : Int)) ∧ ∃ (g' : Nat), (↑g : Int) + (1 : Int) = (↑g' : Int) ∧ (↑l.n : Int) = (↑l.n : Int) ∧ (l.n = l.n ∧ ∀ (i : Nat), i < l.n → [Go.SE.SV.int Go.IntKind.i64 (l.g i).x, Go.SE.SV.int Go.IntKind.i64 (l.g i).y] = [Go.SE.SV.int Go.IntKind.i64 (l.g i).x, Go.SE.SV.int Go.IntKind.i64 (l.g i).y]) ∧ (g' ≤ l.n ∧ ∀ (j : Nat), j < g' → ∀ (k : Nat), j <
 k → k < l.n → L.okPair l j k = Bool.true) ∧ l.n - g' < l.n - g)) ∧ (Decidable.decide ((↑g : Int) < (↑l.n : Int)) = Bool.false → Bool.true = L.simple l)) (by kernel_rfl) (by
    obtain ⟨hn, hb⟩ := hp
    have fin0 : ∀ {i k : Nat}, i < k → k < l.n → L.okPair l i k = false → false = L.simple l := fun {i k} hik hk h => by
      unfold L.simple
      rw [allB_false (i := i) (by omega) (allB_false (i := k) hk (by simp [hik, h]))]
    refine ⟨⟨(0 : Nat), rfl, Nat.zero_le _, fun j hj => absurd hj (Nat.not_lt_zero _)⟩, fun g hg => ⟨fun hlt => ?_, fun hge => ?_⟩⟩
    · have hb1 : (g : Int) < (l.n : Int) := of_decide_eq_true hlt
      refine ⟨InK.of (by omega) (by omega), ⟨(g, g + 1), by show (g : Int) + 1 = ((g + 1 : Nat) : Int); omega, rfl, Nat.lt_succ_self g, by show g + 1 ≤ l.n; omega, hg.2, fun k h1 h2 => ?_⟩, ?_⟩
      · have h1 : g < k := h1
        have h2 : k < g + 1 := h2
        omega
      rintro ⟨i, k⟩ ⟨e1, hik, hkn, h0, h1⟩
      have e1 : (g : Int) = (i : Int) := e1
      obtain rfl : g = i := by omega
      have hik : g < k := hik
      have hkn : k ≤ l.n := hkn
      have h0 : ∀ j, j < g → ∀ k, j < k → k < l.n → L.okPair l j k = true := h0
      have h1 : ∀ m, g < m → m < k → L.okPair l g m = true := h1
      dsimp only
      refine ⟨fun hlt2 => ?_, fun hge2 => ?_⟩
      · have hk : (k : Int) < (l.n : Int) := of_decide_eq_true hlt2
        have c5 : L.next l.n k < l.n := next_lt (by omega)
        have c2 : L.ix l.n ((g : Int) + 1) = g + 1 := by
          rw [show (g : Int) + 1 = ((g + 1 : Nat) : Int) by omega, ix_self (by omega)]
        rw [ix_self (n := l.n) (k := g) (by omega), c2, ix_self (n := l.n) (k := k) (by omega), ix_next (n := l.n) (k := k) (by omega)]
        have key : (bif (bif (bif decide ((k : Int) = (g : Int) + 1) then true else bif decide ((g : Int) = 0) then decide ((k : Int) = (l.n : Int) - 1) else false) then !decide (L.meet (l.g g) (l.g (g + 1)) (l.g k) (l.g (L.next l.n k)) = 1) else false) then true else bif !(bif decide ((k : Int) = (g : Int) + 1) then true else bif decide ((g : Int) = 0) then decide ((k : Int) = (l.n : Int) - 1) else false) then !decide (L.meet (l.g g) (l.g (g + 1)) (l.g k) (l.g (L.next l.n k)) = 0) else false) = !L.okPair l g k := by
          unfold L.okPair L.nxt L.how
          generalize (bif decide ((k : Int) = (g : Int) + 1) then true else bif decide ((g : Int) = 0) then decide ((k : Int) = (l.n : Int) - 1) else false) = q
          generalize decide (L.meet (l.g g) (l.g (g + 1)) (l.g k) (l.g (L.next l.n k)) = 1) = q1
          generalize decide (L.meet (l.g g) (l.g (g + 1)) (l.g k) (l.g (L.next l.n k)) = 0) = q2
          cases q <;> cases q1 <;> cases q2 <;> rfl
        rw [key]
        refine ⟨⟨fun _ _ => rfl, by omega, by omega, by omega, by omega⟩, InK.of (by omega) (by omega), ⟨fun _ _ => rfl, by omega, by omega, by omega, by omega⟩, ⟨fun _ _ => rfl, by omega, by omega, by omega, by omega⟩, InK.of (by omega) (by omega), ⟨fun _ _ => rfl, by omega, by omega, by omega, by omega⟩, ⟨hb g (by omega), hb (g + 1) (by omega), hb k (by omega), hb _ c5⟩, InK.of (by omega) (by omega), fun _ => InK.of (by omega) (by omega), fun h => fin0 hik (by omega) (notT h), fun h => ?_⟩
        have hok : L.okPair l g k = true := notF h
        refine ⟨InK.of (by omega) (by omega), (g, k + 1), by show (k : Int) + 1 = ((k + 1 : Nat) : Int); omega, rfl, rfl, ⟨rfl, fun _ _ => rfl⟩, ⟨rfl, by show g < k + 1; omega, by show k + 1 ≤ l.n; omega, h0, fun m hm1 hm2 => ?_⟩, by show l.n - (k + 1) < l.n - k; omega⟩
        have hm1 : g < m := hm1
        have hm2 : m < k + 1 := hm2
        show L.okPair l g m = true
        rcases Nat.lt_succ_iff_lt_or_eq.1 hm2 with h' | rfl
        · exact h1 m hm1 h'
        · exact hok
      · have hk : ¬ (k : Int) < (l.n : Int) := of_decide_eq_false hge2
        refine ⟨InK.of (by omega) (by omega), g + 1, by omega, rfl, ⟨rfl, fun _ _ => rfl⟩, ⟨by omega, fun j hj m hm1 hm2 => ?_⟩, by omega⟩
        rcases Nat.lt_succ_iff_lt_or_eq.1 hj with h' | rfl
        · exact h0 j h' m hm1 hm2
        · exact h1 m hm1 (by omega)
    · have hb1 : ¬ (g : Int) < (l.n : Int) := of_decide_eq_false hge
      unfold L.simple
      rw [allB_iff.2 (fun i hi => allB_iff.2 (fun k hk => ?_))]
      by_cases hik : i < k
      · simp [hik, hg.2 i (by omega) k hik hk]
      · simp [hik])
theorem r1_simple_ok : SpecOk Tryz.prog 87 r1_simple_S := fnX Tryz.func87 (c := bodyOf Tryz.f87) (by kernel_rfl) mixed (fun args p r hs hp => by
  unfold r1_simple_s at hs
  split at hs
  · cases hs; exact ⟨_, _, r1_simple_vc _ hp.2, (.p (.sl hp.1) .nil), ⟨show SpecsL Tryz.prog _ from (SpecsL.cons r1_at_ok r1_at_en (SpecsL.cons r1_meet_ok r1_meet_en SpecsL.nil)), rfl, ⟨show ItersL Tryz.prog _ from ItersL.nil, (TrsOk.none (fun _ => rfl))⟩⟩⟩
  · cases hs)
theorem r1_simple_en : Enters Tryz.prog 87 := fun args w => by kernel_rfl
theorem r1_simple_B : ∀ args p r, r1_simple_s args = some (p, r) → ∃ b, r = .bool b := by
  intro args p r h
  unfold r1_simple_s at h
  split at h
  · cases h; exact ⟨_, rfl⟩
  · cases h
def r1_ValidOutline_p (l : (L.Sq L.Pt)) : Prop := True
def r1_ValidOutline_r (l : (L.Sq L.Pt)) : SV := .bool (L.validOutline l)
def r1_ValidOutline_s : List EV → Option (Prop × SV)
  | [.p (.sl 2 l_n l_g)] => some ((∀ i, i < l_n → l_g i = [.int .i64 ((ofPt (l_g i)).x), .int .i64 ((ofPt (l_g i)).y)]) ∧ r1_ValidOutline_p (⟨l_n, fun i => ofPt (l_g i)⟩ : (L.Sq L.Pt)), r1_ValidOutline_r (⟨l_n, fun i => ofPt (l_g i)⟩ : (L.Sq L.Pt)))
  | _ => none
abbrev r1_ValidOutline_S : SE.Spec := (specO r1_ValidOutline_s)
def r1_ValidOutline_C : Cfg := { muts := [], frz := lookN [], specs := lookS [(74, r1_points_S), (87, r1_simple_S), (88, r1_sum_S), (92, r1_less_S), (76, r1_at_S), (93, r1_Cross_S)], loops := fun _ => none, iters := lookI [], rfs := lookR [], nils := lookM [] }
theorem r1_ValidOutline_vc (l : (L.Sq L.Pt)) (hp : r1_ValidOutline_p l) : vc Tryz.prog ({ r1_ValidOutline_C with loops := lookL [(4, { T := Nat, keep := [0], keepO := [], chg := fun i => [(3, .p (.int .i64 (i : Int)))], own := fun _ => [], inv := fun i => i ≤ l.n ∧ ∀ j, j < i → L.corner l j = true, mu := fun i => l.n - i })], rfs := lookR [] }) (bodyOf Tryz.f33) (st0 Tryz.f33 [.p (.sl 2 l.n (fun i => [.int .i64 ((l.g i).x), .int .i64 ((l.g i).y)]))]) (retFn Tryz.prog Tryz.f33 (r1_ValidOutline_r l)) :=
  @Eq.mpr _ (((!bif Decidable.decide ((↑l.n : Int) < (3 : Int)) then Bool.true else Decidable.decide ((24 : Int) < (↑l.n : Int))) = Bool.true → (∀ (i : Nat), i < l.n → [Go.SE.SV.int Go.IntKind.i64 (l.g i).x, Go.SE.SV.int Go.IntKind.i64 (l.g i).y] = [Go.SE.SV.int Go.IntKind.i64 (l.g i).x, Go.SE.SV.int Go.IntKind.i64 (l.g i).y]) ∧ l.n ≤ (1000000 : Nat)) ∧ ((!bif bif Decidable.decide ((↑l.n : Int) < (3 : Int))
 then Bool.true else Decidable.decide ((24 : Int) < (↑l.n : Int)) then Bool.true else !L.validPts (L.Sq.mk l.n fun (i : Nat) ↦ l.g i)) = Bool.true → (∀ (i : Nat), i < l.n → [Go.SE.SV.int Go.IntKind.i64 (l.g i).x, Go.SE.SV.int Go.IntKind.i64 (l.g i).y] = [Go.SE.SV.int Go.IntKind.i64 (l.g i).x, Go.SE.SV.int Go.IntKind.i64 (l.g i).y]) ∧ L.allBd (L.Sq.mk l.n fun (i : Nat) ↦ l.g i)) ∧ ((!bif bif bif
 Decidable.decide ((↑l.n : Int) < (3 : Int)) then Bool.true else Decidable.decide ((24 : Int) < (↑l.n : Int)) then Bool.true else !L.validPts (L.Sq.mk l.n fun (i : Nat) ↦ l.g i) then Bool.true else !L.simple (L.Sq.mk l.n fun (i : Nat) ↦ l.g i)) = Bool.true → (∀ (i : Nat), i < l.n → [Go.SE.SV.int Go.IntKind.i64 (l.g i).x, Go.SE.SV.int Go.IntKind.i64 (l.g i).y] = [Go.SE.SV.int Go.IntKind.i64 (l.g
 i).x, Go.SE.SV.int Go.IntKind.i64 (l.g i).y]) ∧ L.small (L.Sq.mk l.n fun (i : Nat) ↦ l.g i)) ∧ ((bif bif bif bif Decidable.decide ((↑l.n : Int) < (3 : Int)) then Bool.true else Decidable.decide ((24 : Int) < (↑l.n : Int)) then Bool.true else !L.validPts (L.Sq.mk l.n fun (i : Nat) ↦ l.g i) then Bool.true else !L.simple (L.Sq.mk l.n fun (i : Nat) ↦ l.g i) then Bool.true else Decidable.decide
 (L.areaTo (L.Sq.mk l.n fun (i : Nat) ↦ l.g i) l.n ≤ (0 : Int))) = Bool.true → Bool.false = L.validOutline l) ∧ ((bif bif bif bif Decidable.decide ((↑l.n : Int) < (3 : Int)) then Bool.true else Decidable.decide ((24 : Int) < (↑l.n : Int)) then Bool.true else !L.validPts (L.Sq.mk l.n fun (i : Nat) ↦ l.g i) then Bool.true else !L.simple (L.Sq.mk l.n fun (i : Nat) ↦ l.g i) then Bool.true else
 Decidable.decide (L.areaTo (L.Sq.mk l.n fun (i : Nat) ↦ l.g i) l.n ≤ (0 : Int))) = Bool.false → (∃ (g : Nat), (0 : Int) = (↑g : Int) ∧ g ≤ l.n ∧ ∀ (j : Nat), j < g → L.corner l j = Bool.true) ∧ ∀ (g : Nat), (g ≤ l.n ∧ ∀ (j : Nat), j < g → L.corner l j = Bool.true) → (Decidable.decide ((↑g : Int) < (↑l.n : Int)) = Bool.true → (Decidable.decide ((0 : Int) < (↑g : Int)) = Bool.true → (0 : Int) ≤ (0 :
 Int) ∧ (0 : Int) < (↑l.n : Int)) ∧ (Decidable.decide ((0 : Int) < (↑g : Int)) = Bool.true → (0 : Int) ≤ (↑g : Int) ∧ (↑g : Int) < (↑l.n : Int)) ∧ (Decidable.decide ((0 : Int) < (↑g : Int)) = Bool.true → True) ∧ ((!bif Decidable.decide ((0 : Int) < (↑g : Int)) then !Decidable.decide (L.cmpPt (l.g (Int.toNat (0 : Int))) (l.g (Int.toNat (↑g : Int))) < (0 : Int)) else Bool.false) = Bool.true →
 Go.SE.InK Go.IntKind.i64 ((↑g : Int) - (1 : Int))) ∧ ((!bif Decidable.decide ((0 : Int) < (↑g : Int)) then !Decidable.decide (L.cmpPt (l.g (Int.toNat (0 : Int))) (l.g (Int.toNat (↑g : Int))) < (0 : Int)) else Bool.false) = Bool.true → (∀ (i : Nat), i < l.n → [Go.SE.SV.int Go.IntKind.i64 (l.g i).x, Go.SE.SV.int Go.IntKind.i64 (l.g i).y] = [Go.SE.SV.int Go.IntKind.i64 (l.g i).x, Go.SE.SV.int
 Go.IntKind.i64 (l.g i).y]) ∧ (1 : Nat) ≤ l.n ∧ l.n ≤ (1000000 : Nat) ∧ (-1000000 : Int) ≤ (↑g : Int) - (1 : Int) ∧ (↑g : Int) - (1 : Int) ≤ (1000000 : Int)) ∧ ((!bif Decidable.decide ((0 : Int) < (↑g : Int)) then !Decidable.decide (L.cmpPt (l.g (Int.toNat (0 : Int))) (l.g (Int.toNat (↑g : Int))) < (0 : Int)) else Bool.false) = Bool.true → (0 : Int) ≤ (↑g : Int) ∧ (↑g : Int) < (↑l.n : Int)) ∧
 ((!bif Decidable.decide ((0 : Int) < (↑g : Int)) then !Decidable.decide (L.cmpPt (l.g (Int.toNat (0 : Int))) (l.g (Int.toNat (↑g : Int))) < (0 : Int)) else Bool.false) = Bool.true → Go.SE.InK Go.IntKind.i64 ((↑g : Int) + (1 : Int))) ∧ ((!bif Decidable.decide ((0 : Int) < (↑g : Int)) then !Decidable.decide (L.cmpPt (l.g (Int.toNat (0 : Int))) (l.g (Int.toNat (↑g : Int))) < (0 : Int)) else
 Bool.false) = Bool.true → (∀ (i : Nat), i < l.n → [Go.SE.SV.int Go.IntKind.i64 (l.g i).x, Go.SE.SV.int Go.IntKind.i64 (l.g i).y] = [Go.SE.SV.int Go.IntKind.i64 (l.g i).x, Go.SE.SV.int Go.IntKind.i64 (l.g i).y]) ∧ (1 : Nat) ≤ l.n ∧ l.n ≤ (1000000 : Nat) ∧ (-1000000 : Int) ≤ (↑g : Int) + (1 : Int) ∧ (↑g : Int) + (1 : Int) ≤ (1000000 : Int)) ∧ ((!bif Decidable.decide ((0 : Int) < (↑g : Int)) then
 !Decidable.decide (L.cmpPt (l.g (Int.toNat (0 : Int))) (l.g (Int.toNat (↑g : Int))) < (0 : Int)) else Bool.false) = Bool.true → L.bd (l.g (L.ix l.n ((↑g : Int) - (1 : Int)))) ∧ L.bd (l.g (Int.toNat (↑g : Int))) ∧ L.bd (l.g (L.ix l.n ((↑g : Int) + (1 : Int))))) ∧ ((bif bif Decidable.decide ((0 : Int) < (↑g : Int)) then !Decidable.decide (L.cmpPt (l.g (Int.toNat (0 : Int))) (l.g (Int.toNat (↑g :
 Int))) < (0 : Int)) else Bool.false then Bool.true else Decidable.decide (L.cross (l.g (L.ix l.n ((↑g : Int) - (1 : Int)))) (l.g (Int.toNat (↑g : Int))) (l.g (L.ix l.n ((↑g : Int) + (1 : Int)))) = (0 : Int))) = Bool.true → Bool.false = L.validOutline l) ∧ ((bif bif Decidable.decide ((0 : Int) < (↑g : Int)) then !Decidable.decide (L.cmpPt (l.g (Int.toNat (0 : Int))) (l.g (Int.toNat (↑g : Int))) <
 (0 : Int)) else Bool.false then Bool.true else Decidable.decide (L.cross (l.g (L.ix l.n ((↑g : Int) - (1 : Int)))) (l.g (Int.toNat (↑g : Int))) (l.g (L.ix l.n ((↑g : Int) + (1 : Int)))) = (0 : Int))) = Bool.false → Go.SE.InK Go.IntKind.i64 ((↑g : Int) + (1 : Int)) ∧ ∃ (g' : Nat), (↑g : Int) + (1 : Int) = (↑g' : Int) ∧ (l.n = l.n ∧ ∀ (i : Nat), i < l.n → [Go.SE.SV.int Go.IntKind.i64 (l.g i).x,
 Go.SE.SV.int Go.IntKind.i64 (l.g i).y] = [Go.SE.SV.int Go.IntKind.i64 (l.g i).x, Go.SE.SV.int Go.IntKind.i64 (l.g i).y]) ∧ (g' ≤ l.n ∧ ∀ (j : Nat), j < g' → L.corner l j = Bool.true) ∧ l.n - g' < l.n - g)) ∧ (Decidable.decide ((↑g : Int) < (↑l.n : Int)) = Bool.false → Bool.true = L.validOutline l))) (by kernel_rfl) (by
    have c1 : (bif decide ((l.n : Int) < 3) then true else decide (24 < (l.n : Int))) = !L.within (l.n : Int) 3 24 := by
      rw [bor, Bool.eq_iff_iff, Bool.or_eq_true, decide_eq_true_eq, decide_eq_true_eq, Bool.not_eq_true', Bool.eq_false_iff, Ne, within_iff]
      omega
    rw [c1]
    have sp : L.within (l.n : Int) 3 24 = true → L.validPts l = true → 3 ≤ l.n ∧ l.n ≤ 24 ∧ L.small l ∧ L.allBd l := valid3_spec
    refine ⟨fun h => ⟨fun _ _ => rfl, ?_⟩, fun h => ⟨fun _ _ => rfl, ?_⟩, fun h => ⟨fun _ _ => rfl, ?_⟩, fun h => ?_, fun h => ?_⟩
    · have := within_iff.1 (notF (notT h)); omega
    · have h := notT h
      rw [bor, Bool.or_eq_false_iff] at h
      exact (sp (notF h.1) (notF h.2)).2.2.2
    · have h := notT h
      rw [bor, bor, Bool.or_eq_false_iff, Bool.or_eq_false_iff] at h
      exact (sp (notF h.1.1) (notF h.1.2)).2.2.1
    · have h : (bif bif bif !L.within (l.n : Int) 3 24 then true else !L.validPts l then true else !L.simple l then true else decide (L.areaTo l l.n ≤ 0)) = true := h
      have e3 : L.valid3 l = false ∨ L.simple l = false := by
        rw [bor, bor, bor, Bool.or_eq_true, Bool.or_eq_true, Bool.or_eq_true] at h
        unfold L.valid3
        rcases h with ((h | h) | h) | h
        · rw [notT h]; exact .inl rfl
        · rw [notT h]; left; cases L.within (l.n : Int) 3 24 <;> rfl
        · exact .inr (notT h)
        · left
          have := of_decide_eq_true h
          rw [decide_eq_false (show ¬ 0 < L.areaTo l l.n by omega)]
          cases L.within (l.n : Int) 3 24 <;> cases L.validPts l <;> rfl
      unfold L.validOutline
      rcases e3 with e3 | e3 <;> rw [e3] <;> simp
    have h : (bif bif bif !L.within (l.n : Int) 3 24 then true else !L.validPts l then true else !L.simple l then true else decide (L.areaTo l l.n ≤ 0)) = false := h
    rw [bor, bor, bor, Bool.or_eq_false_iff, Bool.or_eq_false_iff, Bool.or_eq_false_iff] at h
    obtain ⟨⟨⟨h1, h2⟩, h3⟩, h4⟩ := h
    have h1 := notF h1
    have h2 := notF h2
    have h3 := notF h3
    have h4 := of_decide_eq_false h4
    obtain ⟨n3, n24, hsm, hbd⟩ := sp h1 h2
    have hv : L.valid3 l = true := by
      unfold L.valid3; rw [h1, h2, decide_eq_true (show 0 < L.areaTo l l.n by omega)]; rfl
    refine ⟨⟨(0 : Nat), rfl, Nat.zero_le _, fun j hj => absurd hj (Nat.not_lt_zero _)⟩, fun g hg => ⟨fun hlt => ?_, fun hge => ?_⟩⟩
    · have hb : (g : Int) < (l.n : Int) := of_decide_eq_true hlt
      have hk : g < l.n := by omega
      have e0 : ((g : Int)).toNat = g := by omega
      have key := corner_eq (l := l) (k := g)
      rw [e0, ix_prev hk, ix_next hk]
      refine ⟨fun _ => by omega, fun _ => by omega, fun _ => trivial, fun _ => InK.of (by omega) (by omega), fun _ => ⟨fun _ _ => rfl, by omega, by omega, by omega, by omega⟩, fun _ => by omega, fun _ => InK.of (by omega) (by omega), fun _ => ⟨fun _ _ => rfl, by omega, by omega, by omega, by omega⟩, fun _ => ⟨hbd.2 _ (prev_lt (by omega)), hbd.2 _ hk, hbd.2 _ (next_lt (by omega))⟩, fun h => ?_, fun h => ?_⟩
      · have h : L.corner l g = false := notT (key.symm.trans h)
        unfold L.validOutline
        rw [allB_false hk h]; simp
      · have h : L.corner l g = true := notF (key.symm.trans h)
        exact ⟨InK.of (by omega) (by omega), g + 1, by omega, ⟨rfl, fun _ _ => rfl⟩, ⟨by omega, fun j hj => by
          rcases Nat.lt_succ_iff_lt_or_eq.1 hj with h' | rfl
          · exact hg.2 j h'
          · exact h⟩, by omega⟩
    · have hb : ¬ (g : Int) < (l.n : Int) := of_decide_eq_false hge
      unfold L.validOutline
      rw [hv, allB_iff.2 (fun i hi => hg.2 i (by omega)), h3]; rfl)
theorem r1_ValidOutline_ok : SpecOk Tryz.prog 33 r1_ValidOutline_S := fnX Tryz.func33 (c := bodyOf Tryz.f33) (by kernel_rfl) mixed (fun args p r hs hp => by
  unfold r1_ValidOutline_s at hs
  split at hs
  · cases hs; exact ⟨_, _, r1_ValidOutline_vc _ hp.2, (.p (.sl hp.1) .nil), ⟨show SpecsL Tryz.prog _ from (SpecsL.cons r1_points_ok r1_points_en (SpecsL.cons r1_simple_ok r1_simple_en (SpecsL.cons r1_sum_ok r1_sum_en (SpecsL.cons r1_less_ok r1_less_en (SpecsL.cons r1_at_ok r1_at_en (SpecsL.cons r1_Cross_ok r1_Cross_en SpecsL.nil)))))), rfl, ⟨show ItersL Tryz.prog _ from ItersL.nil, (TrsOk.none (fun _ => rfl))⟩⟩⟩
  · cases hs)
theorem r1_ValidOutline_en : Enters Tryz.prog 33 := fun args w => by kernel_rfl
theorem r1_ValidOutline_B : ∀ args p r, r1_ValidOutline_s args = some (p, r) → ∃ b, r = .bool b := by
  intro args p r h
  unfold r1_ValidOutline_s at h
  split at h
  · cases h; exact ⟨_, rfl⟩
  · cases h
end Go.Proofs.YtooapgllahonaaaGreat

namespace Go.Proofs.YtooapgllahonaaaGreat
open Go.SE Go.RowKit
set_option maxRecDepth 100000
set_option maxHeartbeats 4000000
set_option linter.unusedVariables false
attribute [local irreducible] Go.SE.vc

theorem minTo_le {l : L.Sq L.Pt} : ∀ {i j : Nat}, j ≤ i → ¬ L.cmpPt (l.g j) (L.minTo l i) < 0
  | 0, j, h => by
    obtain rfl : j = 0 := by omega
    rw [cmpPt_lt, L.minTo]; omega
  | i + 1, j, h => by
    rw [L.minTo]
    cases hd : decide (L.cmpPt (l.g (i + 1)) (L.minTo l i) < 0) with
    | false =>
      rw [cond_false]
      by_cases e : j = i + 1
      · rw [e]; exact of_decide_eq_false hd
      · exact minTo_le (by omega)
    | true =>
      rw [cond_true]
      have h1 := of_decide_eq_true hd
      by_cases e : j = i + 1
      · rw [e, cmpPt_lt]; omega
      · have h2 := minTo_le (l := l) (i := i) (j := j) (by omega)
        rw [cmpPt_lt] at h1 h2 ⊢
        omega
structure L.Iso (e : Int) (T : L.Pt → L.Pt) : Prop where
  sg : e = 1 ∨ e = -1
  ds : ∀ a b, L.dist (T a) (T b) = L.dist a b
  cr : ∀ a b c, L.cross (T a) (T b) (T c) = e * L.cross a b c
  on : ∀ a b p, L.on (T a) (T b) (T p) = L.on a b p
  inj : ∀ a b, T a = T b → a = b
theorem meet_iso {e : Int} {T : L.Pt → L.Pt} (h : L.Iso e T) (a b c d : L.Pt) : L.meet (T a) (T b) (T c) (T d) = L.meet a b c d := by
  refine meet_map T h.inj (fun q => ?_) (by rw [apart_eq h.sg (h.cr _ _ _) (h.cr _ _ _), apart_eq h.sg (h.cr _ _ _) (h.cr _ _ _)])
  unfold L.S
  rw [h.on, h.on, h.on, h.on]
  constructor
  · rintro (⟨h, rfl⟩ | ⟨h, rfl⟩ | ⟨h, rfl⟩ | ⟨h, rfl⟩)
    · exact ⟨a, .inl ⟨h, rfl⟩, rfl⟩
    · exact ⟨b, .inr (.inl ⟨h, rfl⟩), rfl⟩
    · exact ⟨c, .inr (.inr (.inl ⟨h, rfl⟩)), rfl⟩
    · exact ⟨d, .inr (.inr (.inr ⟨h, rfl⟩)), rfl⟩
  · rintro ⟨p, ⟨h, rfl⟩ | ⟨h, rfl⟩ | ⟨h, rfl⟩ | ⟨h, rfl⟩, rfl⟩
    · exact .inl ⟨h, rfl⟩
    · exact .inr (.inl ⟨h, rfl⟩)
    · exact .inr (.inr (.inl ⟨h, rfl⟩))
    · exact .inr (.inr (.inr ⟨h, rfl⟩))
theorem pt_ext {a b : L.Pt} (h1 : a.x = b.x) (h2 : a.y = b.y) : a = b := by cases a; cases b; simp only at h1 h2; rw [h1, h2]
theorem isoT_comp {e f : Int} {T U : L.Pt → L.Pt} (h : L.Iso e T) (k : L.Iso f U) : L.Iso (e * f) (fun p => T (U p)) where
  sg := by rcases h.sg with rfl | rfl <;> rcases k.sg with rfl | rfl <;> decide
  ds := fun a b => by rw [h.ds, k.ds]
  cr := fun a b c => by rw [h.cr, k.cr, Int.mul_assoc]
  on := fun a b p => by rw [h.on, k.on]
  inj := fun a b e => k.inj _ _ (h.inj _ _ e)
theorem iso_id : L.Iso 1 (fun p => p) where
  sg := .inl rfl
  ds := fun _ _ => rfl
  cr := fun _ _ _ => by rw [Int.one_mul]
  on := fun _ _ _ => rfl
  inj := fun _ _ h => h
theorem iso_turn : L.Iso 1 (fun p => (⟨-p.y, p.x⟩ : L.Pt)) where
  sg := .inl rfl
  ds := fun a b => by unfold L.dist; grind
  cr := fun a b c => by unfold L.cross; grind
  on := fun a b p => by
    unfold L.on
    have e : L.cross (⟨-a.y, a.x⟩ : L.Pt) ⟨-b.y, b.x⟩ ⟨-p.y, p.x⟩ = L.cross a b p := by unfold L.cross; grind
    rw [e, Bool.eq_iff_iff]
    simp only [Bool.and_eq_true, within_iff]
    constructor
    · rintro ⟨⟨h1, h2⟩, h3⟩; exact ⟨⟨h1, by omega⟩, by omega⟩
    · rintro ⟨⟨h1, h2⟩, h3⟩; exact ⟨⟨h1, by omega⟩, by omega⟩
  inj := fun a b h => by
    have h1 := congrArg L.Pt.x h
    have h2 := congrArg L.Pt.y h
    dsimp only at h1 h2
    exact pt_ext h2 (by omega)
theorem iso_mir : L.Iso (-1) (fun p => (⟨-p.x, p.y⟩ : L.Pt)) where
  sg := .inr rfl
  ds := fun a b => by unfold L.dist; grind
  cr := fun a b c => by unfold L.cross; grind
  on := fun a b p => by
    unfold L.on
    have e : L.cross (⟨-a.x, a.y⟩ : L.Pt) ⟨-b.x, b.y⟩ ⟨-p.x, p.y⟩ = - L.cross a b p := by unfold L.cross; grind
    rw [e, Bool.eq_iff_iff]
    simp only [Bool.and_eq_true, within_iff, decide_eq_true_eq]
    constructor
    · rintro ⟨⟨h1, h2⟩, h3⟩; exact ⟨⟨by omega, by omega⟩, by omega⟩
    · rintro ⟨⟨h1, h2⟩, h3⟩; exact ⟨⟨by omega, by omega⟩, by omega⟩
  inj := fun a b h => by
    have h1 := congrArg L.Pt.x h
    have h2 := congrArg L.Pt.y h
    dsimp only at h1 h2
    exact pt_ext (by omega) h2
theorem iso_by (u : L.Pt) : L.Iso 1 (fun p => (⟨p.x + u.x, p.y + u.y⟩ : L.Pt)) where
  sg := .inl rfl
  ds := fun a b => by
    unfold L.dist
    dsimp only
    rw [show b.x + u.x - (a.x + u.x) = b.x - a.x by omega, show b.y + u.y - (a.y + u.y) = b.y - a.y by omega]
  cr := fun a b c => by
    unfold L.cross
    dsimp only
    rw [show b.x + u.x - (a.x + u.x) = b.x - a.x by omega, show b.y + u.y - (a.y + u.y) = b.y - a.y by omega, show c.x + u.x - (a.x + u.x) = c.x - a.x by omega, show c.y + u.y - (a.y + u.y) = c.y - a.y by omega, Int.one_mul]
  on := fun a b p => by
    unfold L.on
    have e : L.cross (⟨a.x + u.x, a.y + u.y⟩ : L.Pt) ⟨b.x + u.x, b.y + u.y⟩ ⟨p.x + u.x, p.y + u.y⟩ = L.cross a b p := by
      unfold L.cross
      dsimp only
      rw [show b.x + u.x - (a.x + u.x) = b.x - a.x by omega, show b.y + u.y - (a.y + u.y) = b.y - a.y by omega, show p.x + u.x - (a.x + u.x) = p.x - a.x by omega, show p.y + u.y - (a.y + u.y) = p.y - a.y by omega]
    rw [e, Bool.eq_iff_iff]
    simp only [Bool.and_eq_true, within_iff]
    constructor
    · rintro ⟨⟨h1, h2⟩, h3⟩; exact ⟨⟨h1, by omega⟩, by omega⟩
    · rintro ⟨⟨h1, h2⟩, h3⟩; exact ⟨⟨h1, by omega⟩, by omega⟩
  inj := fun a b h => by
    have h1 := congrArg L.Pt.x h
    have h2 := congrArg L.Pt.y h
    dsimp only at h1 h2
    exact pt_ext (by omega) (by omega)
theorem iso_turnN : ∀ k, L.Iso 1 (fun p => L.turnN p k)
  | 0 => iso_id
  | k + 1 => isoT_comp iso_turn (iso_turnN k)
def L.sgM (m : L.Motion) : Int := bif m.mirror then -1 else 1
theorem iso_mirM (m : L.Motion) : L.Iso (L.sgM m) (L.mir m) := by
  unfold L.sgM L.mir
  cases m.mirror
  · exact iso_id
  · exact iso_mir
theorem iso_apply (m : L.Motion) : L.Iso (L.sgM m) (L.apply m) := by
  have := isoT_comp (iso_by m.by_) (isoT_comp (iso_turnN m.turn.toNat) (iso_mirM m))
  rw [Int.one_mul, Int.one_mul] at this
  exact this
theorem cy_nat {l : L.Sq L.Pt} {k : Nat} (h : k < l.n) : L.cy l (k : Int) = l.g k := by unfold L.cy; rw [ix_self h]
theorem cy_next {l : L.Sq L.Pt} {k : Nat} (h : k < l.n) : L.cy l ((k : Int) + 1) = l.g (L.next l.n k) := by unfold L.cy; rw [ix_next h]
theorem cy_congr {l : L.Sq L.Pt} {a b : Int} (hn : 0 < l.n) (h : a % (l.n : Int) = b % (l.n : Int)) (c : Int) : L.cy l (a + c) = L.cy l (b + c) := by unfold L.cy; rw [ix_congr hn h c]
theorem cy_ix {l : L.Sq L.Pt} (hn : 0 < l.n) (a c : Int) : L.cy l (((L.ix l.n a : Nat) : Int) + c) = L.cy l (a + c) := by unfold L.cy; rw [ix_ix hn c]
def L.simpC (n : Nat) (f : Int → L.Pt) : Prop := ∀ a b : Int, a % (n : Int) ≠ b % (n : Int) → L.meet (f a) (f (a + 1)) (f b) (f (b + 1)) = (if (b - a) % (n : Int) = 1 ∨ (a - b) % (n : Int) = 1 then 1 else 0)
theorem pair_cy {l : L.Sq L.Pt} {i k : Nat} (h1 : i < k) (h2 : k < l.n) : L.how l i k = L.meet (L.cy l i) (L.cy l (i + 1)) (L.cy l k) (L.cy l (k + 1)) ∧ (L.nxt l i k = true ↔ ((k : Int) - i) % (l.n : Int) = 1 ∨ ((i : Int) - k) % (l.n : Int) = 1) := by
  constructor
  · unfold L.how
    have e : L.cy l ((i : Int) + 1) = l.g (i + 1) := by
      have := cy_nat (l := l) (k := i + 1) (by omega)
      rw [← this]; congr 1
    rw [cy_nat (l := l) (k := i) (by omega), e, cy_nat h2, cy_next h2]
  · unfold L.nxt
    rw [bor, Bool.or_eq_true, band, Bool.and_eq_true, decide_eq_true_eq, decide_eq_true_eq, decide_eq_true_eq]
    have m1 : ((k : Int) - i) % (l.n : Int) = (k : Int) - i := Int.emod_eq_of_lt (by omega) (by omega)
    have m2 : ((i : Int) - k) % (l.n : Int) = (i : Int) - k + l.n := by
      rw [← Int.add_emod_right, Int.emod_eq_of_lt (by omega) (by omega)]
    rw [m1, m2]
    omega
theorem simpC_of {l : L.Sq L.Pt} (hn : 0 < l.n) (h : L.simple l = true) : L.simpC l.n (L.cy l) := by
  have hp : ∀ i k, i < k → k < l.n → L.okPair l i k = true := fun i k h1 h2 => by
    unfold L.simple at h
    have := allB_iff.1 (allB_iff.1 h i (by omega)) k h2
    rw [decide_eq_true h1] at this
    exact this
  have key : ∀ i k : Nat, i < k → k < l.n → L.meet (L.cy l i) (L.cy l (i + 1)) (L.cy l k) (L.cy l (k + 1)) = (if ((k : Int) - i) % (l.n : Int) = 1 ∨ ((i : Int) - k) % (l.n : Int) = 1 then 1 else 0) := fun i k h1 h2 => by
    obtain ⟨e1, e2⟩ := pair_cy (l := l) h1 h2
    have := hp i k h1 h2
    unfold L.okPair at this
    rw [← e1]
    cases hx : L.nxt l i k with
    | true => rw [hx] at this; rw [if_pos (e2.1 hx)]; exact of_decide_eq_true this
    | false =>
      rw [hx] at this
      rw [if_neg (fun h => by rw [e2.2 h] at hx; cases hx)]
      exact of_decide_eq_true this
  intro a b hab
  have ha := ix_emod (a := a) hn
  have hb := ix_emod (a := b) hn
  have la := ix_lt (n := l.n) (i := a) hn
  have lb := ix_lt (n := l.n) (i := b) hn
  have m : ∀ x y : Int, (((L.ix l.n x : Nat) : Int) - ((L.ix l.n y : Nat) : Int)) % (l.n : Int) = (x - y) % (l.n : Int) := fun x y => by
    rw [ix_emod hn, ix_emod hn, ← Int.sub_emod]
  have c0 : ∀ x : Int, L.cy l ((L.ix l.n x : Nat) : Int) = L.cy l x := fun x => by
    have := cy_ix hn x 0
    rwa [Int.add_zero, Int.add_zero] at this
  rcases Nat.lt_trichotomy (L.ix l.n a) (L.ix l.n b) with h1 | h1 | h1
  · have := key _ _ h1 lb
    rw [c0, c0, cy_ix hn, cy_ix hn, m, m] at this
    exact this
  · exact absurd (by rw [← ha, ← hb, h1]) hab
  · have := key _ _ h1 la
    rw [c0, c0, cy_ix hn, cy_ix hn, m, m, meet_swap] at this
    rw [this]
    by_cases c : (a - b) % (l.n : Int) = 1 ∨ (b - a) % (l.n : Int) = 1
    · rw [if_pos c, if_pos c.symm]
    · rw [if_neg c, if_neg (fun h => c h.symm)]
theorem simple_of {l : L.Sq L.Pt} (h : L.simpC l.n (L.cy l)) : L.simple l = true := by
  unfold L.simple
  refine allB_iff.2 (fun i hi => allB_iff.2 (fun k hk => ?_))
  by_cases hik : i < k
  · obtain ⟨e1, e2⟩ := pair_cy (l := l) hik hk
    have := h i k (by rw [Int.emod_eq_of_lt (by omega) (by omega), Int.emod_eq_of_lt (by omega) (by omega)]; omega)
    rw [← e1] at this
    rw [decide_eq_true hik]
    unfold L.okPair
    cases hx : L.nxt l i k with
    | true => rw [if_pos (e2.1 hx)] at this; exact decide_eq_true this
    | false =>
      rw [if_neg (fun h => by rw [e2.2 h] at hx; cases hx)] at this
      exact decide_eq_true this
  · rw [decide_eq_false hik]; rfl
theorem cross_turn (a b c : L.Pt) : L.cross a b c = - L.cross c b a := by
  unfold L.cross
  grind
theorem dist_com (a b : L.Pt) : L.dist a b = L.dist b a := by
  unfold L.dist
  rw [show a.x - b.x = -(b.x - a.x) by omega, show a.y - b.y = -(b.y - a.y) by omega, Int.neg_mul_neg, Int.neg_mul_neg]
theorem cross_cy {l : L.Sq L.Pt} (hv : L.validOutline l = true) (a : Int) : L.cross (L.cy l (a - 1)) (L.cy l a) (L.cy l (a + 1)) ≠ 0 := by
  have hn := (validOutline_of hv).1
  have hk := ix_lt (n := l.n) (i := a) (by omega)
  have hc := (outline_all hv).2 _ hk
  have e1 : L.prev l.n (L.ix l.n a) = L.ix l.n (a - 1) := by
    rw [← ix_prev hk, show ((L.ix l.n a : Nat) : Int) - 1 = ((L.ix l.n a : Nat) : Int) + -1 by omega, ix_ix (by omega)]; rfl
  have e2 : L.next l.n (L.ix l.n a) = L.ix l.n (a + 1) := by
    rw [← ix_next hk, ix_ix (by omega)]
  rw [e1, e2] at hc
  exact hc
theorem emod_eq_of {n a b : Int} (h : (b - a) % n = 1 % n) : b % n = (a + 1) % n := by
  have := Int.emod_emod_of_dvd (b - a) (Int.dvd_refl n)
  have e : b = (b - a) + a := by omega
  rw [e, Int.add_emod, h, ← Int.add_emod, Int.add_comm]
theorem cy_inj {l : L.Sq L.Pt} (hv : L.validOutline l = true) {a b : Int} (h : L.cy l a = L.cy l b) : a % (l.n : Int) = b % (l.n : Int) := by
  obtain ⟨n3, _, _, _⟩ := validOutline_of hv
  have hn : 0 < l.n := by omega
  have hs : L.simple l = true := by
    unfold L.validOutline at hv
    rw [Bool.and_eq_true, Bool.and_eq_true] at hv
    exact hv.2.2
  have next_ne : ∀ x y : Int, (y - x) % (l.n : Int) = 1 → L.cy l x ≠ L.cy l y := fun x y hxy e => by
    have h1 : y % (l.n : Int) = (x + 1) % (l.n : Int) := emod_eq_of (by rw [hxy, Int.emod_eq_of_lt (by omega) (by omega)])
    have h2 : L.cy l y = L.cy l (x + 1) := by
      have := cy_congr (l := l) hn h1 0
      rwa [Int.add_zero, Int.add_zero] at this
    refine cross_cy hv x ?_
    rw [← h2, ← e]
    unfold L.cross
    rw [Int.mul_comm]; omega
  by_cases hab : a % (l.n : Int) = b % (l.n : Int)
  · exact hab
  · have hm := simpC_of hn hs a b hab
    by_cases c1 : (b - a) % (l.n : Int) = 1
    · exact absurd h (next_ne a b c1)
    by_cases c2 : (a - b) % (l.n : Int) = 1
    · exact absurd h.symm (next_ne b a c2)
    rw [if_neg (fun h => by rcases h with h | h; exact c1 h; exact c2 h)] at hm
    exact absurd (.inl ⟨by rw [h]; exact on_left, rfl⟩) (meet_none hm (L.cy l a))
def L.tm (p q : L.Pt) : Int := p.x * q.y - q.x * p.y
def L.sm (f : Int → Int) : Nat → Int
  | 0 => 0
  | k + 1 => L.sm f k + f (k : Int)
theorem sm_congr {f g : Int → Int} (h : ∀ i, f i = g i) : ∀ k, L.sm f k = L.sm g k
  | 0 => rfl
  | k + 1 => by rw [L.sm, L.sm, sm_congr h k, h]
theorem sm_left {f : Int → Int} : ∀ k, L.sm f (k + 1) = f 0 + L.sm (fun i => f (i + 1)) k
  | 0 => by show 0 + f 0 = f 0 + 0; omega
  | k + 1 => by
    rw [L.sm, sm_left k]
    show f 0 + L.sm (fun i => f (i + 1)) k + f ((k + 1 : Nat) : Int) = f 0 + (L.sm (fun i => f (i + 1)) k + f ((k : Int) + 1))
    rw [show ((k + 1 : Nat) : Int) = (k : Int) + 1 by omega]
    omega
theorem sm_rev {f : Int → Int} : ∀ k : Nat, L.sm (fun i => f ((k : Int) - 1 - i)) k = L.sm f k
  | 0 => rfl
  | k + 1 => by
    rw [sm_left, L.sm]
    have e : L.sm (fun i => f (((k + 1 : Nat) : Int) - 1 - (i + 1))) k = L.sm (fun i => f ((k : Int) - 1 - i)) k := sm_congr (fun i => by rw [show ((k + 1 : Nat) : Int) - 1 - (i + 1) = (k : Int) - 1 - i by omega]) k
    rw [e, sm_rev k, show ((k + 1 : Nat) : Int) - 1 - 0 = (k : Int) by omega]
    omega
theorem sm_neg {f : Int → Int} : ∀ k, L.sm (fun i => - f i) k = - L.sm f k
  | 0 => rfl
  | k + 1 => by rw [L.sm, L.sm, sm_neg k]; omega
theorem sm_tele {f g : Int → Int} (e : Int) : ∀ k : Nat, L.sm (fun i => e * f i + (g (i + 1) - g i)) k = e * L.sm f k + (g (k : Int) - g 0)
  | 0 => by show 0 = e * 0 + (g 0 - g 0); rw [Int.mul_zero]; omega
  | k + 1 => by
    rw [L.sm, L.sm, sm_tele e k, Int.mul_add, show ((k + 1 : Nat) : Int) = (k : Int) + 1 by omega]
    omega
theorem sm_shift1 {f : Int → Int} {n : Nat} (hp : ∀ a, f (a + n) = f a) : L.sm (fun i => f (i + 1)) n = L.sm f n := by
  have h1 := sm_left (f := f) n
  rw [L.sm] at h1
  have h2 := hp 0
  rw [Int.zero_add] at h2
  omega
theorem sm_shift {n : Nat} : ∀ (c : Nat) {f : Int → Int}, (∀ a, f (a + n) = f a) → L.sm (fun i => f (i + c)) n = L.sm f n
  | 0, f, _ => sm_congr (fun i => by rw [show i + ((0 : Nat) : Int) = i by omega]) n
  | c + 1, f, hp => by
    have e : L.sm (fun i => f (i + ((c + 1 : Nat) : Int))) n = L.sm (fun i => (fun j => f (j + c)) (i + 1)) n := sm_congr (fun i => by
      show f (i + ((c + 1 : Nat) : Int)) = f (i + 1 + (c : Int))
      rw [show i + ((c + 1 : Nat) : Int) = i + 1 + (c : Int) by omega]) n
    rw [e, sm_shift1 (f := fun j => f (j + c)) (fun a => by
      show f (a + (n : Int) + (c : Int)) = f (a + (c : Int))
      rw [show a + (n : Int) + (c : Int) = a + c + n by omega, hp]), sm_shift c hp]
theorem sm_shiftI {f : Int → Int} {n : Nat} (hn : 0 < n) (hp : ∀ a b : Int, a % (n : Int) = b % (n : Int) → f a = f b) (c : Int) : L.sm (fun i => f (i + c)) n = L.sm f n := by
  have h0 := Int.emod_nonneg c (show (n : Int) ≠ 0 by omega)
  have e : L.sm (fun i => f (i + c)) n = L.sm (fun i => f (i + (c % (n : Int)).toNat)) n := sm_congr (fun i => hp _ _ (by
    rw [Int.toNat_of_nonneg h0, Int.add_emod_emod])) n
  rw [e, sm_shift _ (fun a => hp _ _ (by rw [Int.add_emod_right]))]
def L.ct (l : L.Sq L.Pt) (i : Int) : Int := L.tm (L.cy l i) (L.cy l (i + 1))
theorem ct_per {l : L.Sq L.Pt} (hn : 0 < l.n) (a b : Int) (h : a % (l.n : Int) = b % (l.n : Int)) : L.ct l a = L.ct l b := by
  unfold L.ct
  have h0 := cy_congr (l := l) hn h 0
  rw [Int.add_zero, Int.add_zero] at h0
  rw [h0, cy_congr hn h 1]
theorem area_sm {l : L.Sq L.Pt} : ∀ {k : Nat}, k ≤ l.n → L.areaTo l k = L.sm (L.ct l) k
  | 0, _ => rfl
  | k + 1, h => by
    rw [L.areaTo, L.sm, area_sm (k := k) (by omega)]
    unfold L.ct L.tm
    rw [cy_nat (by omega), cy_next (by omega)]
theorem tm_turnN (p q : L.Pt) : ∀ k, L.tm (L.turnN p k) (L.turnN q k) = L.tm p q
  | 0 => rfl
  | k + 1 => by
    rw [← tm_turnN p q k]
    unfold L.tm
    show -(L.turnN p k).y * (L.turnN q k).x - -(L.turnN q k).y * (L.turnN p k).x = _
    grind
theorem tm_mir (m : L.Motion) (p q : L.Pt) : L.tm (L.mir m p) (L.mir m q) = L.sgM m * L.tm p q := by
  unfold L.mir L.sgM L.tm
  cases m.mirror
  · simp only [cond_false]; omega
  · simp only [cond_true]; grind
theorem area_moved {l : L.Sq L.Pt} {m : L.Motion} (hn : 0 < l.n) : L.areaTo (L.moved l m) l.n = L.sgM m * L.areaTo l l.n := by
  have a1 := area_sm (l := L.moved l m) (k := l.n) (Nat.le_refl _)
  have a2 := area_sm (l := l) (k := l.n) (Nat.le_refl _)
  rw [a1, a2]
  have e : ∀ i, L.ct (L.moved l m) i = L.sgM m * L.ct l i + ((fun j => m.by_.x * (L.turned m (L.cy l j)).y - m.by_.y * (L.turned m (L.cy l j)).x) (i + 1) - (fun j => m.by_.x * (L.turned m (L.cy l j)).y - m.by_.y * (L.turned m (L.cy l j)).x) i) := fun i => by
    have h1 : L.tm (L.turned m (L.cy l i)) (L.turned m (L.cy l (i + 1))) = L.sgM m * L.ct l i := by
      unfold L.turned
      rw [tm_turnN, tm_mir]; rfl
    rw [← h1]
    show L.tm (L.apply m (L.cy l i)) (L.apply m (L.cy l (i + 1))) = _
    unfold L.tm L.apply
    dsimp only
    grind
  refine (sm_congr e l.n).trans ((sm_tele (f := L.ct l) (g := fun j => m.by_.x * (L.turned m (L.cy l j)).y - m.by_.y * (L.turned m (L.cy l j)).x) (L.sgM m) l.n).trans ?_)
  have h0 : L.cy l (l.n : Int) = L.cy l 0 := by
    have := cy_congr (l := l) (a := (l.n : Int)) (b := 0) hn (by rw [Int.emod_self, Int.zero_emod]) 0
    rwa [Int.add_zero, Int.add_zero] at this
  rw [h0]
  omega
theorem ix_neg {n : Nat} (hn : 0 < n) (a : Int) : n - 1 - L.ix n a = L.ix n (-1 - a) := by
  have h1 := ix_emod (a := a) hn
  have h2 := ix_emod (a := -1 - a) hn
  have h3 := ix_lt (n := n) (i := a) hn
  have h4 : (-1 - a) % (n : Int) = (n : Int) - 1 - ((L.ix n a : Nat) : Int) := by
    rw [h1]
    have e : (-1 - a) % (n : Int) = ((n : Int) - 1 - a % (n : Int)) % (n : Int) := by
      rw [Int.sub_emod (n - 1 : Int) (a % (n : Int)), Int.emod_emod, ← Int.sub_emod, show (n : Int) - 1 - a = -1 - a + n by omega, Int.add_emod_right]
    rw [e, Int.emod_eq_of_lt (by omega) (by omega)]
  omega
theorem flip_cy {l : L.Sq L.Pt} (hn : 0 < l.n) : (L.flip l).n = l.n ∧ ((L.areaTo l l.n < 0 ∧ ∀ a, L.cy (L.flip l) a = L.cy l (-1 - a)) ∨ (¬ L.areaTo l l.n < 0 ∧ ∀ a, L.cy (L.flip l) a = L.cy l a)) := by
  unfold L.flip
  by_cases h : L.areaTo l l.n < 0
  · rw [decide_eq_true h, cond_true]
    refine ⟨rfl, .inl ⟨h, fun a => ?_⟩⟩
    show l.g (l.n - 1 - L.ix l.n a) = l.g (L.ix l.n (-1 - a))
    rw [ix_neg hn]
  · rw [decide_eq_false h, cond_false]
    exact ⟨rfl, .inr ⟨h, fun _ => rfl⟩⟩
theorem norm_cy {l : L.Sq L.Pt} (hn : 0 < l.n) : ∃ K : Nat, K < l.n ∧ (L.flip l).g K = L.minTo (L.flip l) (l.n - 1) ∧ ∀ a, L.cy (L.norm l) a = L.cy (L.flip l) (K + a) := by
  have hf := (flip_cy hn).1
  obtain ⟨K, h1, h2, h3⟩ := minIdx (l := L.flip l) (by rw [hf]; omega)
  rw [hf] at h1 h2 h3
  have hk : L.minK (L.flip l) = K := by unfold L.minK; rw [hf, h2]; rfl
  refine ⟨K, h1, h3, fun a => ?_⟩
  have hx := ix_lt (n := l.n) (i := a) hn
  have e0 : L.cy (L.flip l) ((K : Int) + a) = L.cy (L.flip l) (((L.ix l.n a : Nat) : Int) + K) := by
    have := cy_ix (l := L.flip l) (by rw [hf]; exact hn) a K
    rw [hf] at this
    rw [this, Int.add_comm]
  show (L.rot (L.flip l) (L.minK (L.flip l))).g (L.ix l.n a) = _
  rw [hk, e0]
  show (bif decide (L.ix l.n a < (L.flip l).n - K) then (L.flip l).g (K + L.ix l.n a) else (L.flip l).g (L.ix l.n a - ((L.flip l).n - K))) = _
  rw [hf]
  unfold L.cy
  rw [hf]
  by_cases c : L.ix l.n a < l.n - K
  · rw [decide_eq_true c, cond_true]
    have := ix_self (n := l.n) (k := K + L.ix l.n a) (by omega)
    rw [show ((K + L.ix l.n a : Nat) : Int) = ((L.ix l.n a : Nat) : Int) + (K : Int) by omega] at this
    rw [this]
  · rw [decide_eq_false c, cond_false]
    have := ix_self (n := l.n) (k := L.ix l.n a - (l.n - K)) (by omega)
    have e2 := ix_congr (n := l.n) (a := ((L.ix l.n a - (l.n - K) : Nat) : Int)) (b := ((L.ix l.n a : Nat) : Int) + (K : Int)) hn (by rw [show ((L.ix l.n a : Nat) : Int) + (K : Int) = ((L.ix l.n a - (l.n - K) : Nat) : Int) + l.n by omega, Int.add_emod_right]) 0
    rw [Int.add_zero, Int.add_zero] at e2
    rw [← e2, this]
theorem sgM_or (m : L.Motion) : L.sgM m = 1 ∨ L.sgM m = -1 := (iso_mirM m).sg
/-- How the normal position of a moved outline lies. -/
theorem norm_map {l : L.Sq L.Pt} {m : L.Motion} (hv : L.validOutline l = true) : ∃ c : Int, ∀ a, L.cy (L.norm (L.moved l m)) a = L.cy (L.moved l m) (c + L.sgM m * a) := by
  obtain ⟨n3, _, _, _⟩ := validOutline_of hv
  have hn : 0 < (L.moved l m).n := by show 0 < l.n; omega
  have hA : 0 < L.areaTo l l.n := by
    unfold L.validOutline L.valid3 at hv
    rw [Bool.and_eq_true] at hv
    have h1 := hv.1
    cases hx : (bif !L.within (l.n : Int) 3 24 then true else !L.validPts l) with
    | true => rw [hx] at h1; cases h1
    | false => rw [hx] at h1; exact of_decide_eq_true h1
  have hM := area_moved (l := l) (m := m) (by omega)
  obtain ⟨K, h1, h2, h3⟩ := norm_cy hn
  obtain ⟨_, hf⟩ := flip_cy hn
  have hf : (L.areaTo (L.moved l m) l.n < 0 ∧ ∀ a, L.cy (L.flip (L.moved l m)) a = L.cy (L.moved l m) (-1 - a)) ∨ (¬ L.areaTo (L.moved l m) l.n < 0 ∧ ∀ a, L.cy (L.flip (L.moved l m)) a = L.cy (L.moved l m) a) := hf
  rcases sgM_or m with e | e <;> rw [e] at hM ⊢
  · rcases hf with ⟨h, _⟩ | ⟨_, hf⟩
    · omega
    · exact ⟨K, fun a => by rw [h3, hf, Int.one_mul]⟩
  · rcases hf with ⟨_, hf⟩ | ⟨h, _⟩
    · exact ⟨-1 - K, fun a => by rw [h3, hf]; congr 1; omega⟩
    · omega
theorem cy_moved (l : L.Sq L.Pt) (m : L.Motion) (a : Int) : L.cy (L.moved l m) a = L.apply m (L.cy l a) := rfl
theorem sg_sg (m : L.Motion) (a : Int) : L.sgM m * (L.sgM m * a) = a := by
  rcases sgM_or m with e | e <;> rw [e] <;> omega
theorem norm_inj {l : L.Sq L.Pt} {m : L.Motion} (hv : L.validOutline l = true) {a b : Int} (h : L.cy (L.norm (L.moved l m)) a = L.cy (L.norm (L.moved l m)) b) : a % (l.n : Int) = b % (l.n : Int) := by
  obtain ⟨c, hc⟩ := norm_map (m := m) hv
  rw [hc, hc, cy_moved, cy_moved] at h
  have h1 := cy_inj hv ((iso_apply m).inj _ _ h)
  rcases sgM_or m with e | e <;> rw [e] at h1
  · rw [Int.one_mul, Int.one_mul] at h1
    have h2 : (-c + (c + a)) % (l.n : Int) = (-c + (c + b)) % (l.n : Int) := by rw [Int.add_emod, h1, ← Int.add_emod]
    rwa [show -c + (c + a) = a by omega, show -c + (c + b) = b by omega] at h2
  · have h2 : (c - (c + -1 * a)) % (l.n : Int) = (c - (c + -1 * b)) % (l.n : Int) := by rw [Int.sub_emod, h1, ← Int.sub_emod]
    rwa [show c - (c + -1 * a) = a by omega, show c - (c + -1 * b) = b by omega] at h2
theorem norm_cross {l : L.Sq L.Pt} {m : L.Motion} (hv : L.validOutline l = true) (a : Int) : L.cross (L.cy (L.norm (L.moved l m)) (a - 1)) (L.cy (L.norm (L.moved l m)) a) (L.cy (L.norm (L.moved l m)) (a + 1)) ≠ 0 := by
  obtain ⟨c, hc⟩ := norm_map (m := m) hv
  rw [hc, hc, hc, cy_moved, cy_moved, cy_moved, (iso_apply m).cr]
  rcases sgM_or m with e | e <;> rw [e]
  · have := cross_cy hv (c + a)
    rw [show c + 1 * (a - 1) = c + a - 1 by omega, show c + 1 * a = c + a by omega, show c + 1 * (a + 1) = c + a + 1 by omega]
    omega
  · have := cross_cy hv (c - a)
    rw [cross_turn] at this
    rw [show c + -1 * (a - 1) = c - a + 1 by omega, show c + -1 * a = c - a by omega, show c + -1 * (a + 1) = c - a - 1 by omega]
    omega
theorem norm_area {l : L.Sq L.Pt} {m : L.Motion} (hv : L.validOutline l = true) : 0 < L.areaTo (L.norm (L.moved l m)) l.n := by
  obtain ⟨n3, _, _, _⟩ := validOutline_of hv
  have hn : 0 < l.n := by omega
  have hA : 0 < L.areaTo l l.n := by
    unfold L.validOutline L.valid3 at hv
    rw [Bool.and_eq_true] at hv
    have h1 := hv.1
    cases hx : (bif !L.within (l.n : Int) 3 24 then true else !L.validPts l) with
    | true => rw [hx] at h1; cases h1
    | false => rw [hx] at h1; exact of_decide_eq_true h1
  have hM := area_moved (l := l) (m := m) hn
  obtain ⟨c, hc⟩ := norm_map (m := m) hv
  have a1 := area_sm (l := L.norm (L.moved l m)) (k := l.n) (Nat.le_refl _)
  have a2 := area_sm (l := L.moved l m) (k := l.n) (Nat.le_refl _)
  rw [a1]
  rw [a2] at hM
  have per := ct_per (l := L.moved l m) hn
  have per : ∀ a b : Int, a % (l.n : Int) = b % (l.n : Int) → L.ct (L.moved l m) a = L.ct (L.moved l m) b := per
  rcases sgM_or m with e | e <;> rw [e] at hM
  · have h1 : L.sm (L.ct (L.norm (L.moved l m))) l.n = L.sm (fun i => L.ct (L.moved l m) (i + c)) l.n := sm_congr (fun i => by
      unfold L.ct
      rw [hc, hc, e, show c + 1 * i = i + c by omega, show c + 1 * (i + 1) = i + c + 1 by omega]) l.n
    rw [h1, sm_shiftI hn per]
    omega
  · have key : L.sm (fun i => - L.ct (L.moved l m) ((l.n : Int) - 1 - i + (c - (l.n : Int)))) l.n = L.sm (fun j => - L.ct (L.moved l m) (j + (c - (l.n : Int)))) l.n := sm_rev (f := fun j => - L.ct (L.moved l m) (j + (c - (l.n : Int)))) l.n
    have h1 : L.sm (L.ct (L.norm (L.moved l m))) l.n = L.sm (fun i => - L.ct (L.moved l m) ((l.n : Int) - 1 - i + (c - (l.n : Int)))) l.n := sm_congr (fun i => by
      unfold L.ct
      rw [hc, hc, e, show (l.n : Int) - 1 - i + (c - (l.n : Int)) = c - 1 - i by omega, show c + -1 * i = c - 1 - i + 1 by omega, show c + -1 * (i + 1) = c - 1 - i by omega]
      unfold L.tm
      omega) l.n
    rw [h1, key, sm_neg (f := fun j => L.ct (L.moved l m) (j + (c - (l.n : Int)))), sm_shiftI hn per]
    omega
theorem norm_simple {l : L.Sq L.Pt} {m : L.Motion} (hv : L.validOutline l = true) : L.simple (L.norm (L.moved l m)) = true := by
  obtain ⟨n3, _, _, _⟩ := validOutline_of hv
  have hn : 0 < l.n := by omega
  have hs : L.simple l = true := by
    unfold L.validOutline at hv
    rw [Bool.and_eq_true, Bool.and_eq_true] at hv
    exact hv.2.2
  have hS := simpC_of hn hs
  obtain ⟨c, hc⟩ := norm_map (m := m) hv
  refine simple_of ?_
  show L.simpC l.n (L.cy (L.norm (L.moved l m)))
  intro a b hab
  have ne : ∀ x y : Int, L.cy (L.norm (L.moved l m)) x ≠ L.cy (L.norm (L.moved l m)) y ∨ x % (l.n : Int) = y % (l.n : Int) := fun x y => by
    by_cases h : L.cy (L.norm (L.moved l m)) x = L.cy (L.norm (L.moved l m)) y
    · exact .inr (norm_inj hv h)
    · exact .inl h
  rw [hc, hc, hc, hc, cy_moved, cy_moved, cy_moved, cy_moved, meet_iso (iso_apply m)]
  rcases sgM_or m with e | e <;> rw [e]
  · have h1 : (c + a) % (l.n : Int) ≠ (c + b) % (l.n : Int) := fun h => hab (by
      have h2 : (-c + (c + a)) % (l.n : Int) = (-c + (c + b)) % (l.n : Int) := by rw [Int.add_emod, h, ← Int.add_emod]
      rwa [show -c + (c + a) = a by omega, show -c + (c + b) = b by omega] at h2)
    have := hS (c + a) (c + b) h1
    rw [show c + 1 * a = c + a by omega, show c + 1 * (a + 1) = c + a + 1 by omega, show c + 1 * b = c + b by omega, show c + 1 * (b + 1) = c + b + 1 by omega, this, show c + b - (c + a) = b - a by omega, show c + a - (c + b) = a - b by omega]
  · have h1 : (c - a - 1) % (l.n : Int) ≠ (c - b - 1) % (l.n : Int) := fun h => hab (by
      have h2 : (c - 1 - (c - a - 1)) % (l.n : Int) = (c - 1 - (c - b - 1)) % (l.n : Int) := by rw [Int.sub_emod, h, ← Int.sub_emod]
      rwa [show c - 1 - (c - a - 1) = a by omega, show c - 1 - (c - b - 1) = b by omega] at h2)
    have := hS (c - a - 1) (c - b - 1) h1
    rw [meet_rev2] at *
    rw [show c + -1 * a = c - a - 1 + 1 by omega, show c + -1 * (a + 1) = c - a - 1 by omega, show c + -1 * b = c - b - 1 + 1 by omega, show c + -1 * (b + 1) = c - b - 1 by omega, meet_rev2, this, show c - b - 1 - (c - a - 1) = a - b by omega, show c - a - 1 - (c - b - 1) = b - a by omega]
    by_cases q : (a - b) % (l.n : Int) = 1 ∨ (b - a) % (l.n : Int) = 1
    · rw [if_pos q, if_pos q.symm]
    · rw [if_neg q, if_neg (fun h => q h.symm)]
theorem norm_valid {l : L.Sq L.Pt} {m : L.Motion} (hv : L.validOutline l = true) (hp : L.validPts (L.moved l m) = true) : L.validOutline (L.norm (L.moved l m)) = true := by
  obtain ⟨n3, n24, _, _⟩ := validOutline_of hv
  have hn : 0 < l.n := by omega
  obtain ⟨c, hc⟩ := norm_map (m := m) hv
  obtain ⟨K, k1, k2, k3⟩ := norm_cy (l := L.moved l m) hn
  have hf := (flip_cy (l := L.moved l m) hn).1
  have hq : ∀ k, k < l.n → (L.norm (L.moved l m)).g k = L.cy (L.norm (L.moved l m)) (k : Int) := fun k hk => (cy_nat (l := L.norm (L.moved l m)) hk).symm
  have w1 : L.within ((L.norm (L.moved l m)).n : Int) 3 24 = true := within_iff.2 (show 3 ≤ (l.n : Int) ∧ (l.n : Int) ≤ 24 by omega)
  have w2 : L.validPts (L.norm (L.moved l m)) = true := allB_iff.2 (fun k hk => by
    have hk : k < l.n := hk
    show L.validPt ((L.norm (L.moved l m)).g k) = true
    rw [hq k hk, hc]
    exact allB_iff.1 hp _ (ix_lt (n := l.n) hn))
  have w3 := norm_area (m := m) hv
  unfold L.validOutline L.valid3
  rw [w1, w2, norm_simple hv, decide_eq_true (show 0 < L.areaTo (L.norm (L.moved l m)) (L.norm (L.moved l m)).n from w3)]
  rw [allB_iff.2 (fun k hk => ?_)]
  · rfl
  have hk : k < l.n := hk
  unfold L.corner
  have c1 := norm_cross (m := m) hv (k : Int)
  have e1 : (L.norm (L.moved l m)).g (L.prev l.n k) = L.cy (L.norm (L.moved l m)) ((k : Int) - 1) := by
    rw [← ix_prev hk]; rfl
  have e2 : (L.norm (L.moved l m)).g (L.next l.n k) = L.cy (L.norm (L.moved l m)) ((k : Int) + 1) := by
    rw [← ix_next hk]; rfl
  have d1 : decide (L.cross ((L.norm (L.moved l m)).g (L.prev (L.norm (L.moved l m)).n k)) ((L.norm (L.moved l m)).g k) ((L.norm (L.moved l m)).g (L.next (L.norm (L.moved l m)).n k)) = 0) = false := by
    refine decide_eq_false ?_
    show ¬ L.cross ((L.norm (L.moved l m)).g (L.prev l.n k)) ((L.norm (L.moved l m)).g k) ((L.norm (L.moved l m)).g (L.next l.n k)) = 0
    rw [e1, e2, hq k hk]; exact c1
  rw [d1, cond_false]
  by_cases h0 : 0 < (k : Int)
  · rw [decide_eq_true h0, cond_true]
    have g0 : (L.norm (L.moved l m)).g 0 = L.minTo (L.flip (L.moved l m)) (l.n - 1) := by
      rw [hq 0 hn, k3]
      have k2 : (L.flip (L.moved l m)).g K = L.minTo (L.flip (L.moved l m)) (l.n - 1) := k2
      have := cy_nat (l := L.flip (L.moved l m)) (k := K) (by rw [hf]; exact k1)
      rw [← k2, ← this]
      congr 1
    have gk : (L.norm (L.moved l m)).g k = (L.flip (L.moved l m)).g (L.ix l.n ((K : Int) + (k : Int))) := by
      rw [hq k hk, k3]
      unfold L.cy
      rw [hf]; rfl
    have hx := ix_lt (n := l.n) (i := (K : Int) + (k : Int)) hn
    have h1 := minTo_le (l := L.flip (L.moved l m)) (i := l.n - 1) (j := L.ix l.n ((K : Int) + (k : Int))) (by omega)
    rw [← g0, ← gk, cmpPt_lt] at h1
    have hne : (L.norm (L.moved l m)).g 0 ≠ (L.norm (L.moved l m)).g k := fun e => by
      rw [hq 0 hn, hq k hk] at e
      have := norm_inj hv e
      rw [Int.emod_eq_of_lt (by omega) (by omega), Int.emod_eq_of_lt (by omega) (by omega)] at this
      omega
    have h2 : L.cmpPt ((L.norm (L.moved l m)).g 0) ((L.norm (L.moved l m)).g k) < 0 := by
      rw [cmpPt_lt]
      by_cases hx : ((L.norm (L.moved l m)).g 0).x = ((L.norm (L.moved l m)).g k).x
      · by_cases hy : ((L.norm (L.moved l m)).g 0).y = ((L.norm (L.moved l m)).g k).y
        · exact absurd (pt_ext hx hy) hne
        · omega
      · omega
    rw [decide_eq_false (by omega)]; rfl
  · rw [decide_eq_false h0]; rfl
theorem movE_of {l : L.Sq L.Pt} {m : L.Motion} (hv : L.validOutline l = true) (hm : L.validM m = true) : (L.movE l m = 0 ∧ L.validPts (L.moved l m) = true) ∨ (L.movE l m = 2) := by
  unfold L.movE
  rw [hv, hm]
  cases h : L.validPts (L.moved l m) with
  | true => exact .inl ⟨rfl, rfl⟩
  | false => exact .inr rfl
/-- The setting of the moved outline: how its corners lie. -/
theorem movS_of {l : L.Sq L.Pt} {m : L.Motion} (hv : L.validOutline l = true) (he : L.movE l m = 0) : 0 ≤ (L.movS l m).shift ∧ (L.movS l m).shift < (l.n : Int) ∧ (L.movS l m).back = m.mirror ∧
    ∀ b : Int, L.cy (L.norm (L.moved l m)) ((L.movS l m).shift + b) = L.cy (L.moved l m) (bif m.mirror then 1 - b else b) := by
  obtain ⟨n3, n24, _, _⟩ := validOutline_of hv
  have hn : 0 < l.n := by omega
  obtain ⟨c, hc⟩ := norm_map (m := m) hv
  have find : ∀ x : Int, ∃ i : Nat, i < l.n ∧ L.ptIdx (L.norm (L.moved l m)) (L.cy (L.moved l m) x) = (i : Int) ∧ L.cy (L.norm (L.moved l m)) (i : Int) = L.cy (L.moved l m) x := fun x => by
    have e0 : L.cy (L.moved l m) x = (L.norm (L.moved l m)).g (L.ix l.n (L.sgM m * (x - c))) := by
      have := hc (L.sgM m * (x - c))
      rw [sg_sg, show c + (x - c) = x by omega] at this
      exact this.symm
    have hx := ix_lt (n := l.n) (i := L.sgM m * (x - c)) hn
    obtain ⟨i, h1, h2, h3, _⟩ := ptIdx_of (l := L.norm (L.moved l m)) (j := L.ix l.n (L.sgM m * (x - c))) hx
    rw [e0]
    exact ⟨i, by omega, h2, by rw [cy_nat (l := L.norm (L.moved l m)) (show i < l.n by omega)]; exact h3⟩
  have step : ∀ (x : Int) (i : Nat), L.cy (L.norm (L.moved l m)) (i : Int) = L.cy (L.moved l m) x → ∀ b : Int, L.cy (L.norm (L.moved l m)) ((i : Int) + b) = L.cy (L.moved l m) (x + L.sgM m * b) := fun x i h b => by
    rw [hc] at h
    rw [hc]
    have h1 : (c + L.sgM m * (i : Int)) % (l.n : Int) = x % (l.n : Int) := by
      rw [cy_moved, cy_moved] at h
      exact cy_inj hv ((iso_apply m).inj _ _ h)
    rw [Int.mul_add, ← Int.add_assoc]
    exact cy_congr (l := L.moved l m) hn h1 _
  unfold L.movS
  rw [he]
  show 0 ≤ (bif m.mirror then (⟨L.ptIdx (L.norm (L.moved l m)) (L.apply m (l.g 1)), true⟩ : L.Setting) else ⟨L.ptIdx (L.norm (L.moved l m)) (L.apply m (l.g 0)), false⟩).shift ∧ (bif m.mirror then (⟨L.ptIdx (L.norm (L.moved l m)) (L.apply m (l.g 1)), true⟩ : L.Setting) else ⟨L.ptIdx (L.norm (L.moved l m)) (L.apply m (l.g 0)), false⟩).shift < (l.n : Int) ∧ (bif m.mirror then (⟨L.ptIdx (L.norm (L.moved l m)) (L.apply m (l.g 1)), true⟩ : L.Setting) else ⟨L.ptIdx (L.norm (L.moved l m)) (L.apply m (l.g 0)), false⟩).back = m.mirror ∧ ∀ b : Int, L.cy (L.norm (L.moved l m)) ((bif m.mirror then (⟨L.ptIdx (L.norm (L.moved l m)) (L.apply m (l.g 1)), true⟩ : L.Setting) else ⟨L.ptIdx (L.norm (L.moved l m)) (L.apply m (l.g 0)), false⟩).shift + b) = L.cy (L.moved l m) (bif m.mirror then 1 - b else b)
  cases hk : m.mirror with
  | false =>
    obtain ⟨i, h1, h2, h3⟩ := find 0
    have e0 : L.apply m (l.g 0) = L.cy (L.moved l m) 0 := by
      rw [cy_moved]; exact congrArg _ (cy_nat (l := l) (k := 0) hn).symm
    simp only [cond_false]
    rw [e0, h2]
    refine ⟨by omega, by omega, trivial, fun b => ?_⟩
    rw [step 0 i h3 b]
    unfold L.sgM
    rw [hk]
    simp only [cond_false]
    congr 1; omega
  | true =>
    obtain ⟨i, h1, h2, h3⟩ := find 1
    have e0 : L.apply m (l.g 1) = L.cy (L.moved l m) 1 := by
      rw [cy_moved]; exact congrArg _ (cy_nat (l := l) (k := 1) (by omega)).symm
    simp only [cond_true]
    rw [e0, h2]
    refine ⟨by omega, by omega, trivial, fun b => ?_⟩
    rw [step 1 i h3 b]
    unfold L.sgM
    rw [hk]
    simp only [cond_true]
    congr 1; omega
end Go.Proofs.YtooapgllahonaaaGreat

namespace Go.Proofs.YtooapgllahonaaaGreat
open Go.SE Go.RowKit
set_option maxRecDepth 100000
set_option maxHeartbeats 4000000
set_option linter.unusedVariables false
attribute [local irreducible] Go.SE.vc

instance : Inhabited L.Pt := ⟨⟨0, 0⟩⟩
def L.lePt (a b : L.Pt) : Prop := L.cmpPt a b ≤ 0
theorem cmpPt_le {a b : L.Pt} : L.cmpPt a b ≤ 0 ↔ a.x < b.x ∨ (a.x = b.x ∧ a.y ≤ b.y) := by
  unfold L.cmpPt L.or2 L.cmp
  by_cases h1 : a.x < b.x
  · simp [h1]
  · by_cases h2 : b.x < a.x
    · simp [h1, h2]; omega
    · by_cases h3 : a.y < b.y
      · simp [h1, h2, h3]; omega
      · by_cases h4 : b.y < a.y
        · simp [h1, h2, h3, h4]; try omega
        · simp [h1, h2, h3, h4]; try omega
theorem swoPt : Go.Sort.SWO (Go.Proofs.ltOf L.cmpPt) := by
  have k : ∀ x y, Go.Proofs.ltOf L.cmpPt x y = true ↔ (x.x < y.x ∨ (x.x = y.x ∧ x.y < y.y)) := fun x y => by
    unfold Go.Proofs.ltOf; rw [decide_eq_true_iff]; exact cmpPt_lt
  have kf : ∀ x y, Go.Proofs.ltOf L.cmpPt x y = false ↔ ¬ (x.x < y.x ∨ (x.x = y.x ∧ x.y < y.y)) := fun x y => by
    rw [← k, Bool.not_eq_true]
  refine ⟨fun x => ?_, fun x y z => ?_, fun x y z => ?_⟩
  · rw [kf]; omega
  · simp only [k]; omega
  · simp only [kf]; omega
def L.insPt (p : L.Pt) : List L.Pt → List L.Pt
  | [] => [p]
  | q :: r => bif decide (L.cmpPt p q ≤ 0) then p :: q :: r else q :: L.insPt p r
def L.isortPt : List L.Pt → List L.Pt
  | [] => []
  | p :: r => L.insPt p (L.isortPt r)
def L.listPt (l : L.Sq L.Pt) : List L.Pt := (List.range l.n).map l.g
def L.sorted (l : L.Sq L.Pt) : L.Sq L.Pt := ⟨l.n, fun k => (L.isortPt (L.listPt l)).getD k ⟨0, 0⟩⟩
theorem lePt_total (a b : L.Pt) : L.lePt a b ∨ L.lePt b a := by unfold L.lePt; simp only [cmpPt_le]; omega
theorem lePt_trans {a b c : L.Pt} (h : L.lePt a b) (k : L.lePt b c) : L.lePt a c := by unfold L.lePt at *; simp only [cmpPt_le] at *; omega
theorem lePt_anti {a b : L.Pt} (h : L.lePt a b) (k : L.lePt b a) : a = b := by
  unfold L.lePt at *; simp only [cmpPt_le] at *
  obtain ⟨ax, ay⟩ := a; obtain ⟨bx, by'⟩ := b
  simp only at h k
  obtain rfl : ax = bx := by omega
  obtain rfl : ay = by' := by omega
  rfl
theorem insPt_perm (p : L.Pt) : ∀ l, (L.insPt p l).Perm (p :: l)
  | [] => .refl _
  | q :: r => by
    unfold L.insPt
    cases decide (L.cmpPt p q ≤ 0) with
    | true => exact .refl _
    | false => exact ((insPt_perm p r).cons q).trans (.swap p q r)
theorem isortPt_perm : ∀ l, (L.isortPt l).Perm l
  | [] => .refl _
  | p :: r => (insPt_perm p _).trans ((isortPt_perm r).cons p)
theorem insPt_asc {p : L.Pt} : ∀ {l}, l.Pairwise L.lePt → (L.insPt p l).Pairwise L.lePt
  | [], _ => List.pairwise_singleton _ _
  | q :: r, h => by
    obtain ⟨h1, h2⟩ := List.pairwise_cons.1 h
    unfold L.insPt
    cases hd : decide (L.cmpPt p q ≤ 0) with
    | true =>
      have hd : L.lePt p q := of_decide_eq_true (p := L.cmpPt p q ≤ 0) hd
      exact List.pairwise_cons.2 ⟨fun x hx => by
        rcases List.mem_cons.1 hx with rfl | hx
        · exact hd
        · exact lePt_trans hd (h1 x hx), h⟩
    | false =>
      have hd : ¬ L.lePt p q := of_decide_eq_false (p := L.cmpPt p q ≤ 0) hd
      have hqp : L.lePt q p := (lePt_total p q).resolve_left hd
      exact List.pairwise_cons.2 ⟨fun x hx => by
        rcases List.mem_cons.1 ((insPt_perm p r).mem_iff.1 hx) with rfl | hx
        · exact hqp
        · exact h1 x hx, insPt_asc h2⟩
theorem isortPt_asc : ∀ l, (L.isortPt l).Pairwise L.lePt
  | [] => .nil
  | p :: r => insPt_asc (isortPt_asc r)
theorem sorted_is {l : L.Sq L.Pt} {u : Nat → L.Pt} (h : SortedBy L.cmpPt l.n l.g u) : ∀ k, k < l.n → (L.sorted l).g k = u k := fun k hk => by
  have e : (List.range l.n).map u = L.isortPt (L.listPt l) := by
    refine List.Perm.eq_of_pairwise (le := L.lePt) (fun a b _ _ => lePt_anti) ?_ (isortPt_asc _) (h.perm.trans (isortPt_perm _).symm)
    rw [List.pairwise_iff_getElem]
    intro i j hi hj hij
    simp only [List.getElem_map, List.getElem_range]
    have hj : j < l.n := by simpa using hj
    have := h.asc i j hij hj
    rcases lePt_total (u i) (u j) with h1 | h1
    · exact h1
    · unfold L.lePt at *
      simp only [cmpPt_le, cmpPt_lt] at *
      omega
  show (L.isortPt (L.listPt l)).getD k ⟨0, 0⟩ = u k
  rw [← e]
  simp [List.getD_eq_getElem?_getD, hk]
theorem sorted_mem (l : L.Sq L.Pt) {k : Nat} (hk : k < l.n) : ∃ i, i < l.n ∧ (L.sorted l).g k = l.g i := by
  have hl : (L.isortPt (L.listPt l)).length = l.n := by rw [(isortPt_perm _).length_eq]; simp [L.listPt]
  have hm : (L.isortPt (L.listPt l)).getD k ⟨0, 0⟩ ∈ L.isortPt (L.listPt l) := by
    rw [List.getD_eq_getElem?_getD, List.getElem?_eq_getElem (by rw [hl]; exact hk)]
    exact List.getElem_mem _
  have hm := (isortPt_perm _).mem_iff.1 hm
  unfold L.listPt at hm
  obtain ⟨i, hi, e⟩ := List.mem_map.1 hm
  exact ⟨i, List.mem_range.1 hi, e.symm⟩
def encPt (p : L.Pt) : List Int := [p.x, p.y]
def sortPt_ren : Go.Shelf.Ren := ⟨fun | 6 => 200 | 15 => 184 | 14 => 216 | 28 => 210 | 29 => 211 | 20 => 230 | 21 => 231 | 22 => 232 | 23 => 233 | 24 => 234 | 25 => 235 | 26 => 236 | 27 => 237 | 46 => 242 | 47 => 218 | 48 => 219 | 49 => 243 | 50 => 244 | 57 => 246 | n => n, fun | 22 => 40 | 24 => 42 | 25 => 121 | 3 => 3 | 39 => 199 | 0 => 0 | 53 => 224 | 55 => 226 | 4 => 4 | 46 => 217 | 45 => 216 | 50 => 221 | 5 => 5 | 9 => 9 | 66 => 231 | 70 => 235 | 76 => 247 | 77 => 248 | n => n, fun | n => n⟩
theorem sortPt_lay : Go.Proofs.SlLaysF0.n6 Tryz.prog sortPt_ren := {
  mixed := by kernel_rfl
  f6 := ⟨Tryz.f200.name, by decide, Tryz.func200.trans (congrArg some (by kernel_rfl))⟩
  f14 := ⟨Tryz.f216.name, by decide, Tryz.func216.trans (congrArg some (by kernel_rfl))⟩
  f15 := Tryz.func184.trans (congrArg some (by kernel_rfl))
  f20 := ⟨Tryz.f230.name, by decide, Tryz.func230.trans (congrArg some (by kernel_rfl))⟩
  f21 := ⟨Tryz.f231.name, by decide, Tryz.func231.trans (congrArg some (by kernel_rfl))⟩
  f22 := ⟨Tryz.f232.name, by decide, Tryz.func232.trans (congrArg some (by kernel_rfl))⟩
  f23 := ⟨Tryz.f233.name, by decide, Tryz.func233.trans (congrArg some (by kernel_rfl))⟩
  f24 := ⟨Tryz.f234.name, by decide, Tryz.func234.trans (congrArg some (by kernel_rfl))⟩
  f25 := ⟨Tryz.f235.name, by decide, Tryz.func235.trans (congrArg some (by kernel_rfl))⟩
  f26 := ⟨Tryz.f236.name, by decide, Tryz.func236.trans (congrArg some (by kernel_rfl))⟩
  f27 := ⟨Tryz.f237.name, by decide, Tryz.func237.trans (congrArg some (by kernel_rfl))⟩
  f28 := Tryz.func210.trans (congrArg some (by kernel_rfl))
  f29 := Tryz.func211.trans (congrArg some (by kernel_rfl))
  f46 := ⟨Tryz.f242.name, by decide, Tryz.func242.trans (congrArg some (by kernel_rfl))⟩
  f47 := Tryz.func218.trans (congrArg some (by kernel_rfl))
  f48 := Tryz.func219.trans (congrArg some (by kernel_rfl))
  f49 := ⟨Tryz.f243.name, by decide, Tryz.func243.trans (congrArg some (by kernel_rfl))⟩
  f50 := ⟨Tryz.f244.name, by decide, Tryz.func244.trans (congrArg some (by kernel_rfl))⟩
  f57 := ⟨Tryz.f246.name, by decide, Tryz.func246.trans (congrArg some (by kernel_rfl))⟩
  t0 := Tryz.underlying0
  a0 := Tryz.isAgg0
  z0 := Tryz.sizeOf0
  v0 := Tryz.zeroValue0
  t3 := Tryz.underlying3
  a3 := Tryz.isAgg3
  z3 := Tryz.sizeOf3
  v3 := Tryz.zeroValue3
  t4 := Tryz.underlying4
  a4 := Tryz.isAgg4
  z4 := Tryz.sizeOf4
  v4 := Tryz.zeroValue4
  t5 := Tryz.underlying5
  a5 := Tryz.isAgg5
  z5 := Tryz.sizeOf5
  v5 := Tryz.zeroValue5
  t9 := Tryz.underlying9
  a9 := Tryz.isAgg9
  z9 := Tryz.sizeOf9
  v9 := Tryz.zeroValue9
  t22 := Tryz.underlying40
  a22 := Tryz.isAgg40
  z22 := Tryz.sizeOf40
  v22 := Tryz.zeroValue40
  t25 := Tryz.underlying121
  a25 := Tryz.isAgg121
  z25 := Tryz.sizeOf121
  v25 := Tryz.zeroValue121
  t39 := Tryz.underlying199
  a39 := Tryz.isAgg199
  z39 := Tryz.sizeOf199
  v39 := Tryz.zeroValue199
  t45 := Tryz.underlying216
  a45 := Tryz.isAgg216
  z45 := Tryz.sizeOf216
  v45 := Tryz.zeroValue216
  t46 := Tryz.underlying217
  a46 := Tryz.isAgg217
  z46 := Tryz.sizeOf217
  v46 := Tryz.zeroValue217
  t50 := Tryz.underlying221
  a50 := Tryz.isAgg221
  z50 := Tryz.sizeOf221
  v50 := Tryz.zeroValue221
  t53 := Tryz.underlying224
  a53 := Tryz.isAgg224
  z53 := Tryz.sizeOf224
  v53 := Tryz.zeroValue224
  t55 := Tryz.underlying226
  a55 := Tryz.isAgg226
  z55 := Tryz.sizeOf226
  v55 := Tryz.zeroValue226
  t66 := Tryz.underlying231
  a66 := Tryz.isAgg231
  z66 := Tryz.sizeOf231
  v66 := Tryz.zeroValue231
  t70 := Tryz.underlying235
  a70 := Tryz.isAgg235
  z70 := Tryz.sizeOf235
  v70 := Tryz.zeroValue235
  t76 := Tryz.underlying247
  a76 := Tryz.isAgg247
  z76 := Tryz.sizeOf247
  v76 := Tryz.zeroValue247
  t77 := Tryz.underlying248
  a77 := Tryz.isAgg248
  z77 := Tryz.sizeOf248
  v77 := Tryz.zeroValue248 }

abbrev s_sortP_tr : Tr := sortTr 42 2 91 1005 encPt L.cmpPt
theorem s_sortP_tok : TrOk Tryz.prog 200 s_sortP_tr := sortTr_ok (enc := encPt) sortPt_lay (by decide) (fun w => Tryz.isAgg42 w) (fun w => Tryz.sizeOf42 w) (fun _ => rfl) swoPt p_compare_ok p_compare_en (fun x y => show preO p_compare_s [.p (.agg [.int .i64 x.x, .int .i64 x.y]), .p (.agg [.int .i64 y.x, .int .i64 y.y])] from trivial) (fun x y => rfl) _ _
theorem s_sortP_en : Enters Tryz.prog 200 := fun args w => by kernel_rfl
def L.popPt (p : L.Pt) : List L.Pt → List L.Pt
  | [] => []
  | [a] => [a]
  | b :: a :: r => bif decide (L.cross a b p ≤ 0) then L.popPt p (a :: r) else b :: a :: r
def L.chainTo (l : L.Sq L.Pt) : Nat → List L.Pt
  | 0 => []
  | k + 1 => l.g k :: L.popPt (l.g k) (L.chainTo l k)
def L.len (st : List L.Pt) : Nat := st.length
def L.lmem (q : L.Pt) (st : List L.Pt) : Prop := q ∈ st
def L.fromTop (st : List L.Pt) (k : Nat) : L.Pt := st.getD (st.length - 1 - k) ⟨0, 0⟩
def L.chain (l : L.Sq L.Pt) : L.Sq L.Pt := ⟨(L.chainTo l l.n).length - 1, fun k => L.fromTop (L.chainTo l l.n) k⟩
theorem popPt_mem {p q : L.Pt} : ∀ {st : List L.Pt}, q ∈ L.popPt p st → q ∈ st
  | [], h => h
  | [a], h => h
  | b :: a :: r, h => by
    unfold L.popPt at h
    cases hd : decide (L.cross a b p ≤ 0) with
    | true => rw [hd] at h; exact List.mem_cons_of_mem _ (popPt_mem (st := a :: r) h)
    | false => rw [hd] at h; exact h
theorem popPt_len {p : L.Pt} : ∀ {st : List L.Pt}, (L.popPt p st).length ≤ st.length
  | [] => Nat.le_refl _
  | [a] => Nat.le_refl _
  | b :: a :: r => by
    unfold L.popPt
    cases decide (L.cross a b p ≤ 0) with
    | true => exact Nat.le_trans (popPt_len (st := a :: r)) (Nat.le_succ _)
    | false => exact Nat.le_refl _
theorem popPt_pos {p : L.Pt} : ∀ {st : List L.Pt}, 1 ≤ st.length → 1 ≤ (L.popPt p st).length
  | [], h => h
  | [a], h => h
  | b :: a :: r, h => by
    unfold L.popPt
    cases decide (L.cross a b p ≤ 0) with
    | true => exact popPt_pos (st := a :: r) (Nat.succ_le_succ (Nat.zero_le _))
    | false => exact h
theorem chain_pos {l : L.Sq L.Pt} (h : 2 ≤ l.n) : 1 ≤ (L.chainTo l l.n).length - 1 := by
  match hh : l.n, h with
  | m + 2, _ =>
    have := popPt_pos (p := l.g (m + 1)) (st := L.chainTo l (m + 1)) (Nat.succ_le_succ (Nat.zero_le _))
    show 1 ≤ (L.popPt (l.g (m + 1)) (L.chainTo l (m + 1))).length + 1 - 1
    omega
theorem chainTo_mem {l : L.Sq L.Pt} {q : L.Pt} : ∀ {k}, q ∈ L.chainTo l k → ∃ i, i < k ∧ q = l.g i
  | 0, h => nomatch h
  | k + 1, h => by
    rcases List.mem_cons.1 h with rfl | h
    · exact ⟨k, Nat.lt_succ_self _, rfl⟩
    · obtain ⟨i, hi, e⟩ := chainTo_mem (popPt_mem h)
      exact ⟨i, Nat.lt_succ_of_lt hi, e⟩
theorem chainTo_len (l : L.Sq L.Pt) : ∀ k, (L.chainTo l k).length ≤ k
  | 0 => Nat.le_refl _
  | k + 1 => Nat.succ_le_succ (Nat.le_trans popPt_len (chainTo_len l k))
theorem fromTop_mem {st : List L.Pt} {k : Nat} (h : k < st.length) : L.fromTop st k ∈ st := by
  unfold L.fromTop
  rw [List.getD_eq_getElem?_getD, List.getElem?_eq_getElem (by omega)]
  exact List.getElem_mem _
theorem fromTop_tail {a : L.Pt} {r : List L.Pt} {k : Nat} (h : k < r.length) : L.fromTop (a :: r) k = L.fromTop r k := by
  unfold L.fromTop
  rw [show (a :: r).length - 1 - k = (r.length - 1 - k) + 1 by simp only [List.length_cons]; omega]
  rfl
theorem fromTop_head {a : L.Pt} {r : List L.Pt} : L.fromTop (a :: r) r.length = a := by
  unfold L.fromTop
  rw [show (a :: r).length - 1 - r.length = 0 by simp only [List.length_cons]; omega]
  rfl
def L.revd (l : L.Sq L.Pt) : L.Sq L.Pt := ⟨l.n, fun k => l.g (l.n - 1 - k)⟩
def L.hull (l : L.Sq L.Pt) : L.Sq L.Pt := L.catTo (L.two (L.chain (L.sorted l)) (L.chain (L.revd (L.sorted l)))) 2
theorem chain_mem (l : L.Sq L.Pt) {k : Nat} (h : k < (L.chain l).n) : ∃ i, i < l.n ∧ (L.chain l).g k = l.g i := chainTo_mem (fromTop_mem (st := L.chainTo l l.n) (show k < _ by have : k < (L.chainTo l l.n).length - 1 := h; omega))
theorem hull_mem (l : L.Sq L.Pt) {k : Nat} (h : k < (L.hull l).n) : ∃ i, i < l.n ∧ (L.hull l).g k = l.g i := by
  have a1 : ∀ k, k < (L.chain (L.sorted l)).n → ∃ i, i < l.n ∧ (L.chain (L.sorted l)).g k = l.g i := fun k hk => by
    obtain ⟨i, hi, e⟩ := chain_mem _ hk
    obtain ⟨j, hj, e2⟩ := sorted_mem l hi
    exact ⟨j, hj, e.trans e2⟩
  have a2 : ∀ k, k < (L.chain (L.revd (L.sorted l))).n → ∃ i, i < l.n ∧ (L.chain (L.revd (L.sorted l))).g k = l.g i := fun k hk => by
    obtain ⟨i, hi, e⟩ := chain_mem _ hk
    have hi : i < l.n := hi
    obtain ⟨j, hj, e2⟩ := sorted_mem l (k := l.n - 1 - i) (by omega)
    exact ⟨j, hj, e.trans e2⟩
  have h : k < 0 + (L.chain (L.sorted l)).n + (L.chain (L.revd (L.sorted l))).n := h
  have e : (L.hull l).g k = bif decide (k < 0 + (L.chain (L.sorted l)).n) then (bif decide (k < 0) then (⟨0, 0⟩ : L.Pt) else (L.chain (L.sorted l)).g (k - 0)) else (L.chain (L.revd (L.sorted l))).g (k - (0 + (L.chain (L.sorted l)).n)) := rfl
  rw [e]
  cases hd : decide (k < 0 + (L.chain (L.sorted l)).n) with
  | true => have := of_decide_eq_true hd; exact a1 k (by omega)
  | false => have := of_decide_eq_false hd; exact a2 _ (by omega)
def s_values1_p (l : (L.Sq L.Pt)) : Prop := l.n ≤ 1000000
def s_values1_n (l : (L.Sq L.Pt)) : Nat := l.n
def s_values1_i (l : (L.Sq L.Pt)) : Nat → List SV := fun k => [(.agg [.int .i64 ((l.g (k : Int).toNat).x), .int .i64 ((l.g (k : Int).toNat).y)])]
def s_values1_ic : List SV → Option (Prop × Nat × (Nat → List SV))
  | [.ref [.sl 2 l_n l_g] 0] => some ((∀ i, i < l_n → l_g i = [.int .i64 ((ofPt (l_g i)).x), .int .i64 ((ofPt (l_g i)).y)]) ∧ s_values1_p (⟨l_n, fun i => ofPt (l_g i)⟩ : (L.Sq L.Pt)), s_values1_n (⟨l_n, fun i => ofPt (l_g i)⟩ : (L.Sq L.Pt)), s_values1_i (⟨l_n, fun i => ofPt (l_g i)⟩ : (L.Sq L.Pt)))
  | _ => none
abbrev s_values1_it : ItSpec := itOf s_values1_ic
def s_values1_C : Cfg := { muts := [], frz := lookN [], specs := lookS [], loops := fun _ => none, iters := lookI [], rfs := lookR [] }
theorem s_values1_vc (yl : Nat) (l : (L.Sq L.Pt)) (hp : s_values1_p l) : vc Tryz.prog { s_values1_C with loops := lookL [(1, { T := Nat, keep := [0, 1, 5, 6], keepO := [], chg := fun i => [(7, .p (.int .i64 (i : Int)))], own := fun _ => [], inv := fun i => i ≤ l.n, mu := fun i => l.n - i, yk := some (fun i => i) })], yld := some ⟨yl, s_values1_n l, s_values1_i l⟩ } (bodyOf Tryz.f201) (st0 Tryz.f201 (.yield yl :: ([.ref [.sl 2 l.n (fun i => [.int .i64 ((l.g i).x), .int .i64 ((l.g i).y)])] 0] : List SV).map .p)) (retIt Tryz.prog Tryz.f201 (s_values1_n l)) :=
  @Eq.mpr _ ((∃ (g : Nat), nat_lit 0 = g ∧ Bool.false = Bool.false ∧ (0 : Int) = (↑g : Int) ∧ g ≤ l.n) ∧ ∀ (g : Nat), g ≤ l.n → (Decidable.decide ((↑g : Int) < (↑l.n : Int)) = Bool.true → ((0 : Int) ≤ (↑g : Int) ∧ (↑g : Int) < (↑l.n : Int)) ∧ yl = yl ∧ g < l.n ∧ [Go.SE.SV.agg [Go.SE.SV.int Go.IntKind.i64 (l.g (Int.toNat (↑g : Int))).x, Go.SE.SV.int Go.IntKind.i64 (l.g (Int.toNat (↑g : Int))).y]] =
 [Go.SE.SV.agg [Go.SE.SV.int Go.IntKind.i64 (l.g (Int.toNat (↑g : Int))).x, Go.SE.SV.int Go.IntKind.i64 (l.g (Int.toNat (↑g : Int))).y]] ∧ ((Bool.false = Bool.true → g + (1 : Nat) = l.n ∨ g + (1 : Nat) = l.n + (1 : Nat)) ∧ (Bool.false = Bool.false → Go.SE.InK Go.IntKind.i64 ((↑g : Int) + (1 : Int)) ∧ ∃ (g' : Nat), g + (1 : Nat) = g' ∧ Bool.false = Bool.false ∧ (↑g : Int) + (1 : Int) = (↑g' : Int) ∧
 (↑l.n : Int) = (↑l.n : Int) ∧ (l.n = l.n ∧ ∀ (i : Nat), i < l.n → [Go.SE.SV.int Go.IntKind.i64 (l.g i).x, Go.SE.SV.int Go.IntKind.i64 (l.g i).y] = [Go.SE.SV.int Go.IntKind.i64 (l.g i).x, Go.SE.SV.int Go.IntKind.i64 (l.g i).y]) ∧ yl = yl ∧ Go.SE.SV.ref [Go.SE.SV.sl (nat_lit 2) l.n fun (i : Nat) ↦ [Go.SE.SV.int Go.IntKind.i64 (l.g i).x, Go.SE.SV.int Go.IntKind.i64 (l.g i).y]] (nat_lit 0) =
 Go.SE.SV.ref [Go.SE.SV.sl (nat_lit 2) l.n fun (i : Nat) ↦ [Go.SE.SV.int Go.IntKind.i64 (l.g i).x, Go.SE.SV.int Go.IntKind.i64 (l.g i).y]] (nat_lit 0) ∧ g' ≤ l.n ∧ l.n - g' < l.n - g)) ∧ (Bool.true = Bool.true → l.n + (1 : Nat) = l.n ∨ l.n + (1 : Nat) = l.n + (1 : Nat)) ∧ (Bool.true = Bool.false → Go.SE.InK Go.IntKind.i64 ((↑g : Int) + (1 : Int)) ∧ ∃ (g' : Nat), l.n + (1 : Nat) = g' ∧ Bool.false =
 Bool.false ∧ (↑g : Int) + (1 : Int) = (↑g' : Int) ∧ (↑l.n : Int) = (↑l.n : Int) ∧ (l.n = l.n ∧ ∀ (i : Nat), i < l.n → [Go.SE.SV.int Go.IntKind.i64 (l.g i).x, Go.SE.SV.int Go.IntKind.i64 (l.g i).y] = [Go.SE.SV.int Go.IntKind.i64 (l.g i).x, Go.SE.SV.int Go.IntKind.i64 (l.g i).y]) ∧ yl = yl ∧ Go.SE.SV.ref [Go.SE.SV.sl (nat_lit 2) l.n fun (i : Nat) ↦ [Go.SE.SV.int Go.IntKind.i64 (l.g i).x,
 Go.SE.SV.int Go.IntKind.i64 (l.g i).y]] (nat_lit 0) = Go.SE.SV.ref [Go.SE.SV.sl (nat_lit 2) l.n fun (i : Nat) ↦ [Go.SE.SV.int Go.IntKind.i64 (l.g i).x, Go.SE.SV.int Go.IntKind.i64 (l.g i).y]] (nat_lit 0) ∧ g' ≤ l.n ∧ l.n - g' < l.n - g)) ∧ (Decidable.decide ((↑g : Int) < (↑l.n : Int)) = Bool.false → g = l.n ∨ g = l.n + (1 : Nat))) (by kernel_rfl) (by
    have hn : l.n ≤ 1000000 := hp
    refine ⟨⟨(0 : Nat), rfl, rfl, rfl, Nat.zero_le _⟩, fun g hg => ⟨fun hlt => ?_, fun hge => ?_⟩⟩
    · have hb : (g : Int) < (l.n : Int) := of_decide_eq_true hlt
      refine ⟨⟨by omega, hb⟩, rfl, by omega, rfl, ?_⟩
      exact ⟨⟨fun h => (by cases h), fun _ => ⟨InK.of (by omega) (by omega), g + 1, rfl, rfl, by omega, rfl, ⟨rfl, fun _ _ => rfl⟩, rfl, rfl, by omega, by omega⟩⟩, fun _ => .inr rfl, fun h => (by cases h)⟩
    · have hb : ¬ (g : Int) < (l.n : Int) := of_decide_eq_false hge
      exact .inl (by omega))
theorem s_values1_itok : ItOk Tryz.prog 201 s_values1_it := iterX Tryz.func201 (c := bodyOf Tryz.f201) (by kernel_rfl) mixed (fun caps l p n g hs hp => by
  unfold s_values1_ic at hs
  split at hs
  · cases hs; exact ⟨_, _, s_values1_vc l _ hp.2, (.cons (Ext.ref rfl (fun i hi => by
      rcases i with _ | i
      · show Ext (SV.sl _ _ _) (SV.sl _ _ _); exact (Ext.sl hp.1)
      exact absurd hi (by simp; try omega))) .nil), rfl, show SpecsL Tryz.prog _ from SpecsL.nil, ⟨show ItersL Tryz.prog _ from ItersL.nil, TrsOk.none (fun _ => rfl)⟩⟩
  · cases hs)
theorem s_values1_en : Enters Tryz.prog 201 := fun args w => by kernel_rfl
def s_values_p (l : (L.Sq L.Pt)) : Prop := l.n ≤ 1000000
def s_values_r (l : (L.Sq L.Pt)) : SV := .clo 201 [.ref [(.sl 2 l.n (fun i => [.int .i64 ((l.g i).x), .int .i64 ((l.g i).y)]))] 0]
def s_values_s : List EV → Option (Prop × SV)
  | [.p (.sl 2 l_n l_g)] => some ((∀ i, i < l_n → l_g i = [.int .i64 ((ofPt (l_g i)).x), .int .i64 ((ofPt (l_g i)).y)]) ∧ s_values_p (⟨l_n, fun i => ofPt (l_g i)⟩ : (L.Sq L.Pt)), s_values_r (⟨l_n, fun i => ofPt (l_g i)⟩ : (L.Sq L.Pt)))
  | _ => none
abbrev s_values_S : SE.Spec := (specO s_values_s)
def s_values_C : Cfg := { muts := [], frz := lookN [], specs := lookS [], loops := lookL [], iters := lookI [], rfs := lookR [], nils := lookM [] }
theorem s_values_vc (l : (L.Sq L.Pt)) (hp : s_values_p l) : vc Tryz.prog (s_values_C) (bodyOf Tryz.f181) (st0 Tryz.f181 [.p (.sl 2 l.n (fun i => [.int .i64 ((l.g i).x), .int .i64 ((l.g i).y)]))]) (retFn Tryz.prog Tryz.f181 (s_values_r l)) :=
  @Eq.mpr _ (Go.SE.SV.clo (nat_lit 201) [Go.SE.SV.ref [Go.SE.SV.sl (nat_lit 2) l.n fun (i : Nat) ↦ [Go.SE.SV.int Go.IntKind.i64 (l.g i).x, Go.SE.SV.int Go.IntKind.i64 (l.g i).y]] (nat_lit 0)] = Go.SE.SV.clo (nat_lit 201) [Go.SE.SV.ref [Go.SE.SV.sl (nat_lit 2) l.n fun (i : Nat) ↦ [Go.SE.SV.int Go.IntKind.i64 (l.g i).x, Go.SE.SV.int Go.IntKind.i64 (l.g i).y]] (nat_lit 0)]) (by kernel_rfl) (by
    rfl)
theorem s_values_ok : SpecOk Tryz.prog 181 s_values_S := fnX Tryz.func181 (c := bodyOf Tryz.f181) (by kernel_rfl) mixed (fun args p r hs hp => by
  unfold s_values_s at hs
  split at hs
  · cases hs; exact ⟨_, _, s_values_vc _ hp.2, (.p (.sl hp.1) .nil), ⟨show SpecsL Tryz.prog _ from SpecsL.nil, rfl, ⟨show ItersL Tryz.prog _ from ItersL.nil, (TrsOk.none (fun _ => rfl))⟩⟩⟩
  · cases hs)
theorem s_values_en : Enters Tryz.prog 181 := fun args w => by kernel_rfl
def s_appendSeq_p (s : Nat) (l : (L.Sq L.Pt)) : Prop := l.n ≤ 1000000
def s_appendSeq_q (s : Nat) (l : (L.Sq L.Pt)) : Nat → Prop := fun _ => True
def s_appendSeq_n (s : Nat) (l : (L.Sq L.Pt)) : Nat → Nat := fun _ => l.n
def s_appendSeq_g (s : Nat) (l : (L.Sq L.Pt)) : Nat → Nat → List SV := fun _ k => [.int .i64 ((l.g k).x), .int .i64 ((l.g k).y)]
def s_appendSeq_s : List EV → Option (Prop × (Nat → Prop) × (Nat → Nat) × (Nat → Nat → List SV))
  | [.p (.raw (.slice none 0 0)), .p (.clo 201 [.ref [.sl 2 l_n l_g] 0])] => some ((∀ i, i < l_n → l_g i = [.int .i64 ((ofPt (l_g i)).x), .int .i64 ((ofPt (l_g i)).y)]) ∧ s_appendSeq_p (0 : Nat) (⟨l_n, fun i => ofPt (l_g i)⟩ : (L.Sq L.Pt)), s_appendSeq_q (0 : Nat) (⟨l_n, fun i => ofPt (l_g i)⟩ : (L.Sq L.Pt)), s_appendSeq_n (0 : Nat) (⟨l_n, fun i => ofPt (l_g i)⟩ : (L.Sq L.Pt)), s_appendSeq_g (0 : Nat) (⟨l_n, fun i => ofPt (l_g i)⟩ : (L.Sq L.Pt)))
  | _ => none
abbrev s_appendSeq_S : SE.Spec := (specF Nat 0 42 2 s_appendSeq_s)
def s_appendSeq_C : Cfg := { muts := [2, 5], frz := lookN [], specs := lookS [], loops := lookL [], iters := lookI [(201, s_values1_it)], rfs := lookR [], nils := lookM [(1, [(2, 10, 42, 2)])] }
theorem s_appendSeq_vc (s : Nat) (l : (L.Sq L.Pt)) (hp : s_appendSeq_p s l) : vc Tryz.prog ({ s_appendSeq_C with loops := lookL [], rfs := lookR [(2, { T := Nat, keep := [2], keepO := [], own := fun k _ => [(2, .blk 40 [.row 10]), (10, .row 42 2 k (fun k => [.int .i64 ((l.g k).x), .int .i64 ((l.g k).y)]))], inv := fun k _ => k ≤ l.n })] }) (bodyOf Tryz.f215) (st0 Tryz.f215 [.p (.raw (.slice none 0 0)), .p (.clo 201 [.ref [.sl 2 l.n (fun i => [.int .i64 ((l.g i).x), .int .i64 ((l.g i).y)])] 0])]) (retFresh Tryz.prog Tryz.f215 (Nat) (s_appendSeq_q s l) 42 2 (s_appendSeq_n s l) (s_appendSeq_g s l)) :=
  @Eq.mpr _ ((((∀ (i : Nat), i < l.n → [Go.SE.SV.int Go.IntKind.i64 (l.g i).x, Go.SE.SV.int Go.IntKind.i64 (l.g i).y] = [Go.SE.SV.int Go.IntKind.i64 (l.g i).x, Go.SE.SV.int Go.IntKind.i64 (l.g i).y]) ∧ l.n ≤ (1000000 : Nat)) ∧ ∃ (t : Nat), (nat_lit 0 = (0 : Nat) ∧ ∀ (i : Nat), i < nat_lit 0 → [] = [Go.SE.SV.int Go.IntKind.i64 (l.g i).x, Go.SE.SV.int Go.IntKind.i64 (l.g i).y]) ∧ (0 : Nat) ≤ l.n) ∧ (∀ (k t :
 Nat) (vk : Nat → Go.Value), k < l.n → k ≤ l.n → (k + nat_lit 1) * nat_lit 16 ≤ (140737488355328 : Nat) ∧ ∃ (t' : Nat), nat_lit 0 = nat_lit 0 ∧ vk (nat_lit 2) = vk (nat_lit 2) ∧ (k + nat_lit 1 = k + (1 : Nat) ∧ ∀ (i : Nat), i < k + nat_lit 1 → Go.SE.appGet k (fun (k : Nat) ↦ [Go.SE.SV.int Go.IntKind.i64 (l.g k).x, Go.SE.SV.int Go.IntKind.i64 (l.g k).y]) (fun (x : Nat) ↦ [Go.SE.SV.int Go.IntKind.i64
 (l.g (Int.toNat (↑k : Int))).x, Go.SE.SV.int Go.IntKind.i64 (l.g (Int.toNat (↑k : Int))).y]) i = [Go.SE.SV.int Go.IntKind.i64 (l.g i).x, Go.SE.SV.int Go.IntKind.i64 (l.g i).y]) ∧ k + (1 : Nat) ≤ l.n) ∧ ∀ (t : Nat), l.n ≤ l.n → ∃ (t : Nat), (l.n = l.n ∧ ∀ (i : Nat), i < l.n → [Go.SE.SV.int Go.IntKind.i64 (l.g i).x, Go.SE.SV.int Go.IntKind.i64 (l.g i).y] = [Go.SE.SV.int Go.IntKind.i64 (l.g i).x,
 Go.SE.SV.int Go.IntKind.i64 (l.g i).y]) ∧ True) (by kernel_rfl) (by
    have hn : l.n ≤ 1000000 := hp
    refine ⟨⟨⟨fun _ _ => rfl, hn⟩, (0 : Nat), ⟨rfl, fun i hi => absurd hi (Nat.not_lt_zero _)⟩, Nat.zero_le _⟩, fun k t vk hk hi => ⟨show (k + 1) * 16 ≤ 140737488355328 by omega, (0 : Nat), rfl, rfl, ⟨rfl, fun i hi => ?_⟩, by omega⟩, fun t hi => ⟨(0 : Nat), ⟨rfl, fun _ _ => rfl⟩, trivial⟩⟩
    have hi : i < k + 1 := hi
    have e0 : ((k : Int)).toNat = k := by omega
    unfold appGet
    by_cases h' : i < k
    · rw [if_pos h']
    · rw [if_neg h']
      obtain rfl : i = k := by omega
      dsimp only
      rw [e0])
theorem s_appendSeq_ok : SpecOk Tryz.prog 215 s_appendSeq_S := freshX Tryz.func215 (c := bodyOf Tryz.f215) (by kernel_rfl) mixed (fun args p q n g hs hp => by
  unfold s_appendSeq_s at hs
  split at hs
  · cases hs; exact ⟨_, _, s_appendSeq_vc _ _ hp.2, (.same _ (.p (Ext.clo rfl (fun i hi => by
      rcases i with _ | i
      · show Ext (SV.ref _ _) (SV.ref _ _); exact (Ext.ref rfl (fun i hi => by
      rcases i with _ | i
      · show Ext (SV.sl _ _ _) (SV.sl _ _ _); exact (Ext.sl hp.1)
      exact absurd hi (by simp; try omega)))
      exact absurd hi (by simp; try omega))) .nil)), ⟨show SpecsL Tryz.prog _ from SpecsL.nil, rfl, ⟨show ItersL Tryz.prog _ from (ItersL.cons s_values1_itok s_values1_en ItersL.nil), (TrsOk.none (fun _ => rfl))⟩⟩⟩
  · cases hs)
theorem s_appendSeq_en : Enters Tryz.prog 215 := fun args w => by kernel_rfl
def s_collect_p (l : (L.Sq L.Pt)) : Prop := l.n ≤ 1000000
def s_collect_q (l : (L.Sq L.Pt)) : Nat → Prop := fun _ => True
def s_collect_n (l : (L.Sq L.Pt)) : Nat → Nat := fun _ => l.n
def s_collect_g (l : (L.Sq L.Pt)) : Nat → Nat → List SV := fun _ k => [.int .i64 ((l.g k).x), .int .i64 ((l.g k).y)]
def s_collect_s : List EV → Option (Prop × (Nat → Prop) × (Nat → Nat) × (Nat → Nat → List SV))
  | [.p (.clo 201 [.ref [.sl 2 l_n l_g] 0])] => some ((∀ i, i < l_n → l_g i = [.int .i64 ((ofPt (l_g i)).x), .int .i64 ((ofPt (l_g i)).y)]) ∧ s_collect_p (⟨l_n, fun i => ofPt (l_g i)⟩ : (L.Sq L.Pt)), s_collect_q (⟨l_n, fun i => ofPt (l_g i)⟩ : (L.Sq L.Pt)), s_collect_n (⟨l_n, fun i => ofPt (l_g i)⟩ : (L.Sq L.Pt)), s_collect_g (⟨l_n, fun i => ofPt (l_g i)⟩ : (L.Sq L.Pt)))
  | _ => none
abbrev s_collect_S : SE.Spec := (specF Nat 0 42 2 s_collect_s)
def s_collect_C : Cfg := { muts := [4], frz := lookN [], specs := lookS [(215, s_appendSeq_S)], loops := lookL [], iters := lookI [], rfs := lookR [], nils := lookM [], raws := [215] }
theorem s_collect_vc (l : (L.Sq L.Pt)) (hp : s_collect_p l) : vc Tryz.prog (s_collect_C) (bodyOf Tryz.f199) (st0 Tryz.f199 [.p (.clo 201 [.ref [.sl 2 l.n (fun i => [.int .i64 ((l.g i).x), .int .i64 ((l.g i).y)])] 0])]) (retFresh Tryz.prog Tryz.f199 (Nat) (s_collect_q l) 42 2 (s_collect_n l) (s_collect_g l)) :=
  @Eq.mpr _ (((∀ (i : Nat), i < l.n → [Go.SE.SV.int Go.IntKind.i64 (l.g i).x, Go.SE.SV.int Go.IntKind.i64 (l.g i).y] = [Go.SE.SV.int Go.IntKind.i64 (l.g i).x, Go.SE.SV.int Go.IntKind.i64 (l.g i).y]) ∧ l.n ≤ (1000000 : Nat)) ∧ ∀ (t : Nat), True → ∃ (t : Nat), (l.n = l.n ∧ ∀ (i : Nat), i < l.n → [Go.SE.SV.int Go.IntKind.i64 (l.g i).x, Go.SE.SV.int Go.IntKind.i64 (l.g i).y] = [Go.SE.SV.int Go.IntKind.i64 (l.g
 i).x, Go.SE.SV.int Go.IntKind.i64 (l.g i).y]) ∧ True) (by kernel_rfl) (by
    exact ⟨⟨fun _ _ => rfl, hp⟩, fun t _ => ⟨(0 : Nat), ⟨rfl, fun _ _ => rfl⟩, trivial⟩⟩)
theorem s_collect_ok : SpecOk Tryz.prog 199 s_collect_S := freshX Tryz.func199 (c := bodyOf Tryz.f199) (by kernel_rfl) mixed (fun args p q n g hs hp => by
  unfold s_collect_s at hs
  split at hs
  · cases hs; exact ⟨_, _, s_collect_vc _ hp.2, (.p (Ext.clo rfl (fun i hi => by
      rcases i with _ | i
      · show Ext (SV.ref _ _) (SV.ref _ _); exact (Ext.ref rfl (fun i hi => by
      rcases i with _ | i
      · show Ext (SV.sl _ _ _) (SV.sl _ _ _); exact (Ext.sl hp.1)
      exact absurd hi (by simp; try omega)))
      exact absurd hi (by simp; try omega))) .nil), ⟨show SpecsL Tryz.prog _ from (SpecsL.cons s_appendSeq_ok s_appendSeq_en SpecsL.nil), rfl, ⟨show ItersL Tryz.prog _ from ItersL.nil, (TrsOk.none (fun _ => rfl))⟩⟩⟩
  · cases hs)
theorem s_collect_en : Enters Tryz.prog 199 := fun args w => by kernel_rfl
def s_sortedF_p (l : (L.Sq L.Pt)) : Prop := l.n ≤ 1000000
def s_sortedF_q (l : (L.Sq L.Pt)) : Nat → Prop := fun _ => True
def s_sortedF_n (l : (L.Sq L.Pt)) : Nat → Nat := fun _ => l.n
def s_sortedF_g (l : (L.Sq L.Pt)) : Nat → Nat → List SV := fun _ k => [.int .i64 (((L.sorted l).g k).x), .int .i64 (((L.sorted l).g k).y)]
def s_sortedF_s : List EV → Option (Prop × (Nat → Prop) × (Nat → Nat) × (Nat → Nat → List SV))
  | [.p (.clo 201 [.ref [.sl 2 l_n l_g] 0]), .p (.clo 91 [])] => some ((∀ i, i < l_n → l_g i = [.int .i64 ((ofPt (l_g i)).x), .int .i64 ((ofPt (l_g i)).y)]) ∧ s_sortedF_p (⟨l_n, fun i => ofPt (l_g i)⟩ : (L.Sq L.Pt)), s_sortedF_q (⟨l_n, fun i => ofPt (l_g i)⟩ : (L.Sq L.Pt)), s_sortedF_n (⟨l_n, fun i => ofPt (l_g i)⟩ : (L.Sq L.Pt)), s_sortedF_g (⟨l_n, fun i => ofPt (l_g i)⟩ : (L.Sq L.Pt)))
  | _ => none
abbrev s_sortedF_S : SE.Spec := (specF Nat 0 42 2 s_sortedF_s)
def s_sortedF_C : Cfg := { muts := [7], frz := lookN [], specs := lookS [(199, s_collect_S), (91, p_compare_S)], loops := lookL [], iters := lookI [], rfs := lookR [], nils := lookM [], trs := lookT [(200, s_sortP_tr)], ren := fun k => k - 998, raws := [199] }
theorem s_sortedF_vc (l : (L.Sq L.Pt)) (hp : s_sortedF_p l) : vc Tryz.prog (s_sortedF_C) (bodyOf Tryz.f180) (st0 Tryz.f180 [.p (.clo 201 [.ref [.sl 2 l.n (fun i => [.int .i64 ((l.g i).x), .int .i64 ((l.g i).y)])] 0]), .p (.clo 91 [])]) (retFresh Tryz.prog Tryz.f180 (Nat) (s_sortedF_q l) 42 2 (s_sortedF_n l) (s_sortedF_g l)) :=
  @Eq.mpr _ (((∀ (i : Nat), i < l.n → [Go.SE.SV.int Go.IntKind.i64 (l.g i).x, Go.SE.SV.int Go.IntKind.i64 (l.g i).y] = [Go.SE.SV.int Go.IntKind.i64 (l.g i).x, Go.SE.SV.int Go.IntKind.i64 (l.g i).y]) ∧ l.n ≤ (1000000 : Nat)) ∧ ∀ (t : Nat), True → ∃ (t : Nat × (Nat → L.Pt)), Go.SE.SV.clo (nat_lit 91) [] = Go.SE.SV.clo (91 : Nat) [] ∧ (l.n = t.1 ∧ ∀ (i : Nat), i < l.n → [Go.SE.SV.int Go.IntKind.i64 (l.g i).x,
 Go.SE.SV.int Go.IntKind.i64 (l.g i).y] = [Go.SE.SV.int Go.IntKind.i64 (t.2 i).x, Go.SE.SV.int Go.IntKind.i64 (t.2 i).y]) ∧ t.1 ≤ (1000000 : Nat) ∧ ∀ (u : Nat → L.Pt), Go.SE.SortedBy L.cmpPt t.1 t.2 u → ∃ (t_1 : Nat), (t.1 = l.n ∧ ∀ (i : Nat), i < t.1 → [Go.SE.SV.int Go.IntKind.i64 (u i).x, Go.SE.SV.int Go.IntKind.i64 (u i).y] = [Go.SE.SV.int Go.IntKind.i64 ((L.sorted l).g i).x, Go.SE.SV.int
 Go.IntKind.i64 ((L.sorted l).g i).y]) ∧ True) (by kernel_rfl) (by
    have hn : l.n ≤ 1000000 := hp
    refine ⟨⟨fun _ _ => rfl, hn⟩, fun t _ => ⟨(l.n, l.g), rfl, ⟨rfl, fun _ _ => rfl⟩, hn, fun u hu => ⟨(0 : Nat), ⟨rfl, fun i hi => ?_⟩, trivial⟩⟩⟩
    rw [sorted_is (l := l) hu i hi])
theorem s_sortedF_ok : SpecOk Tryz.prog 180 s_sortedF_S := freshX Tryz.func180 (c := bodyOf Tryz.f180) (by kernel_rfl) mixed (fun args p q n g hs hp => by
  unfold s_sortedF_s at hs
  split at hs
  · cases hs; exact ⟨_, _, s_sortedF_vc _ hp.2, (.p (Ext.clo rfl (fun i hi => by
      rcases i with _ | i
      · show Ext (SV.ref _ _) (SV.ref _ _); exact (Ext.ref rfl (fun i hi => by
      rcases i with _ | i
      · show Ext (SV.sl _ _ _) (SV.sl _ _ _); exact (Ext.sl hp.1)
      exact absurd hi (by simp; try omega)))
      exact absurd hi (by simp; try omega))) (.p (Ext.clo rfl (fun i hi => by
      
      exact absurd hi (by simp; try omega))) .nil)), ⟨show SpecsL Tryz.prog _ from (SpecsL.cons s_collect_ok s_collect_en (SpecsL.cons p_compare_ok p_compare_en SpecsL.nil)), rfl, ⟨show ItersL Tryz.prog _ from ItersL.nil, (show TrsL Tryz.prog _ from (TrsL.cons s_sortP_tok s_sortP_en TrsL.nil))⟩⟩⟩
  · cases hs)
theorem s_sortedF_en : Enters Tryz.prog 180 := fun args w => by kernel_rfl
def p_chain_p (l : (L.Sq L.Pt)) : Prop := 1 ≤ l.n ∧ l.n ≤ 1000000 ∧ ∀ i, i < l.n → L.bd (l.g i)
def p_chain_q (l : (L.Sq L.Pt)) : Nat → Prop := fun _ => True
def p_chain_n (l : (L.Sq L.Pt)) : Nat → Nat := fun _ => (L.chain l).n
def p_chain_g (l : (L.Sq L.Pt)) : Nat → Nat → List SV := fun _ k => [.int .i64 (((L.chain l).g k).x), .int .i64 (((L.chain l).g k).y)]
def p_chain_s : List EV → Option (Prop × (Nat → Prop) × (Nat → Nat) × (Nat → Nat → List SV))
  | [.p (.sl 2 l_n l_g)] => some ((∀ i, i < l_n → l_g i = [.int .i64 ((ofPt (l_g i)).x), .int .i64 ((ofPt (l_g i)).y)]) ∧ p_chain_p (⟨l_n, fun i => ofPt (l_g i)⟩ : (L.Sq L.Pt)), p_chain_q (⟨l_n, fun i => ofPt (l_g i)⟩ : (L.Sq L.Pt)), p_chain_n (⟨l_n, fun i => ofPt (l_g i)⟩ : (L.Sq L.Pt)), p_chain_g (⟨l_n, fun i => ofPt (l_g i)⟩ : (L.Sq L.Pt)))
  | _ => none
abbrev p_chain_S : SE.Spec := (specF Nat 0 42 2 p_chain_s)
def p_chain_C : Cfg := { muts := [5], frz := lookN [], specs := lookS [(83, p_cross_S)], loops := fun _ => none, iters := lookI [], rfs := lookR [], nils := lookM [(2, [(3, 32, 42, 2)])], cuts := [36, 46] }
theorem p_chain_vc (l : (L.Sq L.Pt)) (hp : p_chain_p l) : vc Tryz.prog ({ p_chain_C with loops := lookL [(3, { T := Nat, keep := [3, 6, 7], keepO := [], chg := fun i => [(8, .p (.int .i64 (i : Int)))], own := fun i => [(32, .row 42 2 (L.len (L.chainTo l i)) (fun k => [.int .i64 ((L.fromTop (L.chainTo l i) k).x), .int .i64 ((L.fromTop (L.chainTo l i) k).y)]))], inv := fun i => i ≤ l.n, mu := fun i => l.n - i }), (5, { T := Nat × List L.Pt, keep := [3, 5, 6, 7, 8], keepO := [5], tie := fun g => [(8, .int .i64 (g.1 : Int))], chg := fun g => [], own := fun g => [(32, .row 42 2 (L.len g.2) (fun k => [.int .i64 ((L.fromTop g.2 k).x), .int .i64 ((L.fromTop g.2 k).y)]))], inv := fun g => g.1 < l.n ∧ L.popPt (l.g g.1) g.2 = L.popPt (l.g g.1) (L.chainTo l g.1) ∧ (∀ q, L.lmem q g.2 → L.lmem q (L.chainTo l g.1)) ∧ L.len g.2 ≤ g.1, mu := fun g => L.len g.2 })], rfs := lookR [] }) (bodyOf Tryz.f182) (st0 Tryz.f182 [.p (.sl 2 l.n (fun i => [.int .i64 ((l.g i).x), .int .i64 ((l.g i).y)]))]) (retFresh Tryz.prog Tryz.f182 (Nat) (p_chain_q l) 42 2 (p_chain_n l) (p_chain_g l)) :=
  @Eq.mpr _ ((∃ (g : Nat), (0 : Int) = (↑g : Int) ∧ (nat_lit 0 = L.len (L.chainTo l g) ∧ ∀ (i : Nat), i < nat_lit 0 → [] = [Go.SE.SV.int Go.IntKind.i64 (L.fromTop (L.chainTo l g) i).x, Go.SE.SV.int Go.IntKind.i64 (L.fromTop (L.chainTo l g) i).y]) ∧ g ≤ l.n) ∧ ∀ (g : Nat), g ≤ l.n → (Decidable.decide ((↑g : Int) < (↑l.n : Int)) = Bool.true → ((0 : Int) ≤ (↑g : Int) ∧ (↑g : Int) < (↑l.n : Int)) ∧ (∃ (g_1 : Nat ×
 List L.Pt), (L.len (L.chainTo l g) = L.len g_1.2 ∧ ∀ (i : Nat), i < L.len (L.chainTo l g) → [Go.SE.SV.int Go.IntKind.i64 (L.fromTop (L.chainTo l g) i).x, Go.SE.SV.int Go.IntKind.i64 (L.fromTop (L.chainTo l g) i).y] = [Go.SE.SV.int Go.IntKind.i64 (L.fromTop g_1.2 i).x, Go.SE.SV.int Go.IntKind.i64 (L.fromTop g_1.2 i).y]) ∧ (↑g : Int) = (↑g_1.1 : Int) ∧ g_1.1 < l.n ∧ L.popPt (l.g g_1.1) g_1.2 =
 L.popPt (l.g g_1.1) (L.chainTo l g_1.1) ∧ (∀ (q : L.Pt), L.lmem q g_1.2 → L.lmem q (L.chainTo l g_1.1)) ∧ L.len g_1.2 ≤ g_1.1) ∧ ∀ (g_1 : Nat × List L.Pt), (↑g : Int) = (↑g_1.1 : Int) ∧ g_1.1 < l.n ∧ L.popPt (l.g g_1.1) g_1.2 = L.popPt (l.g g_1.1) (L.chainTo l g_1.1) ∧ (∀ (q : L.Pt), L.lmem q g_1.2 → L.lmem q (L.chainTo l g_1.1)) ∧ L.len g_1.2 ≤ g_1.1 → (Decidable.decide ((1 : Int) < (↑(L.len
 g_1.2) : Int)) = Bool.true → Go.SE.InK Go.IntKind.i64 ((↑(L.len g_1.2) : Int) - (2 : Int))) ∧ (Decidable.decide ((1 : Int) < (↑(L.len g_1.2) : Int)) = Bool.true → (0 : Int) ≤ (↑(L.len g_1.2) : Int) - (2 : Int) ∧ (↑(L.len g_1.2) : Int) - (2 : Int) < (↑(L.len g_1.2) : Int)) ∧ (Decidable.decide ((1 : Int) < (↑(L.len g_1.2) : Int)) = Bool.true → Int.toNat ((↑(L.len g_1.2) : Int) - (2 : Int)) < L.len
 g_1.2) ∧ (Decidable.decide ((1 : Int) < (↑(L.len g_1.2) : Int)) = Bool.true → Go.SE.InK Go.IntKind.i64 ((↑(L.len g_1.2) : Int) - (1 : Int))) ∧ (Decidable.decide ((1 : Int) < (↑(L.len g_1.2) : Int)) = Bool.true → (0 : Int) ≤ (↑(L.len g_1.2) : Int) - (1 : Int) ∧ (↑(L.len g_1.2) : Int) - (1 : Int) < (↑(L.len g_1.2) : Int)) ∧ (Decidable.decide ((1 : Int) < (↑(L.len g_1.2) : Int)) = Bool.true →
 Int.toNat ((↑(L.len g_1.2) : Int) - (1 : Int)) < L.len g_1.2) ∧ (Decidable.decide ((1 : Int) < (↑(L.len g_1.2) : Int)) = Bool.true → L.bd (L.fromTop g_1.2 (Int.toNat ((↑(L.len g_1.2) : Int) - (2 : Int)))) ∧ L.bd (L.fromTop g_1.2 (Int.toNat ((↑(L.len g_1.2) : Int) - (1 : Int)))) ∧ L.bd (l.g (Int.toNat (↑g : Int)))) ∧ ((bif Decidable.decide ((1 : Int) < (↑(L.len g_1.2) : Int)) then Decidable.decide
 (L.cross (L.fromTop g_1.2 (Int.toNat ((↑(L.len g_1.2) : Int) - (2 : Int)))) (L.fromTop g_1.2 (Int.toNat ((↑(L.len g_1.2) : Int) - (1 : Int)))) (l.g (Int.toNat (↑g : Int))) ≤ (0 : Int)) else Bool.false) = Bool.true → Go.SE.InK Go.IntKind.i64 ((↑(L.len g_1.2) : Int) - (1 : Int)) ∧ ((0 : Int) ≤ (↑(L.len g_1.2) : Int) - (1 : Int) ∧ (↑(L.len g_1.2) : Int) - (1 : Int) ≤ (↑(L.len g_1.2) : Int)) ∧ ∃ (g' :
 Nat × List L.Pt), nat_lit 0 = nat_lit 0 ∧ (↑g : Int) = (↑g : Int) ∧ (↑l.n : Int) = (↑l.n : Int) ∧ (l.n = l.n ∧ ∀ (i : Nat), i < l.n → [Go.SE.SV.int Go.IntKind.i64 (l.g i).x, Go.SE.SV.int Go.IntKind.i64 (l.g i).y] = [Go.SE.SV.int Go.IntKind.i64 (l.g i).x, Go.SE.SV.int Go.IntKind.i64 (l.g i).y]) ∧ (Int.toNat ((↑(L.len g_1.2) : Int) - (1 : Int)) = L.len g'.2 ∧ ∀ (i : Nat), i < Int.toNat ((↑(L.len
 g_1.2) : Int) - (1 : Int)) → [Go.SE.SV.int Go.IntKind.i64 (L.fromTop g_1.2 i).x, Go.SE.SV.int Go.IntKind.i64 (L.fromTop g_1.2 i).y] = [Go.SE.SV.int Go.IntKind.i64 (L.fromTop g'.2 i).x, Go.SE.SV.int Go.IntKind.i64 (L.fromTop g'.2 i).y]) ∧ (l.g (Int.toNat (↑g : Int))).x = (l.g (Int.toNat (↑g : Int))).x ∧ (l.g (Int.toNat (↑g : Int))).y = (l.g (Int.toNat (↑g : Int))).y ∧ ((↑g : Int) = (↑g'.1 : Int) ∧
 g'.1 < l.n ∧ L.popPt (l.g g'.1) g'.2 = L.popPt (l.g g'.1) (L.chainTo l g'.1) ∧ (∀ (q : L.Pt), L.lmem q g'.2 → L.lmem q (L.chainTo l g'.1)) ∧ L.len g'.2 ≤ g'.1) ∧ L.len g'.2 < L.len g_1.2) ∧ ((bif Decidable.decide ((1 : Int) < (↑(L.len g_1.2) : Int)) then Decidable.decide (L.cross (L.fromTop g_1.2 (Int.toNat ((↑(L.len g_1.2) : Int) - (2 : Int)))) (L.fromTop g_1.2 (Int.toNat ((↑(L.len g_1.2) : Int)
 - (1 : Int)))) (l.g (Int.toNat (↑g : Int))) ≤ (0 : Int)) else Bool.false) = Bool.false → (L.len g_1.2 + nat_lit 1) * nat_lit 16 ≤ (140737488355328 : Nat) ∧ Go.SE.InK Go.IntKind.i64 ((↑g : Int) + (1 : Int)) ∧ ∃ (g' : Nat), (↑g : Int) + (1 : Int) = (↑g' : Int) ∧ (↑l.n : Int) = (↑l.n : Int) ∧ (l.n = l.n ∧ ∀ (i : Nat), i < l.n → [Go.SE.SV.int Go.IntKind.i64 (l.g i).x, Go.SE.SV.int Go.IntKind.i64 (l.g
 i).y] = [Go.SE.SV.int Go.IntKind.i64 (l.g i).x, Go.SE.SV.int Go.IntKind.i64 (l.g i).y]) ∧ (L.len g_1.2 + nat_lit 1 = L.len (L.chainTo l g') ∧ ∀ (i : Nat), i < L.len g_1.2 + nat_lit 1 → Go.SE.appGet (L.len g_1.2) (fun (k : Nat) ↦ [Go.SE.SV.int Go.IntKind.i64 (L.fromTop g_1.2 k).x, Go.SE.SV.int Go.IntKind.i64 (L.fromTop g_1.2 k).y]) (fun (x : Nat) ↦ [Go.SE.SV.int Go.IntKind.i64 (l.g (Int.toNat (↑g :
 Int))).x, Go.SE.SV.int Go.IntKind.i64 (l.g (Int.toNat (↑g : Int))).y]) i = [Go.SE.SV.int Go.IntKind.i64 (L.fromTop (L.chainTo l g') i).x, Go.SE.SV.int Go.IntKind.i64 (L.fromTop (L.chainTo l g') i).y]) ∧ g' ≤ l.n ∧ l.n - g' < l.n - g)) ∧ (Decidable.decide ((↑g : Int) < (↑l.n : Int)) = Bool.false → Go.SE.InK Go.IntKind.i64 ((↑(L.len (L.chainTo l g)) : Int) - (1 : Int)) ∧ ((0 : Int) ≤ (↑(L.len
 (L.chainTo l g)) : Int) - (1 : Int) ∧ (↑(L.len (L.chainTo l g)) : Int) - (1 : Int) ≤ (↑(L.len (L.chainTo l g)) : Int)) ∧ ∃ (t : Nat), (Int.toNat ((↑(L.len (L.chainTo l g)) : Int) - (1 : Int)) = (L.chain l).n ∧ ∀ (i : Nat), i < Int.toNat ((↑(L.len (L.chainTo l g)) : Int) - (1 : Int)) → [Go.SE.SV.int Go.IntKind.i64 (L.fromTop (L.chainTo l g) i).x, Go.SE.SV.int Go.IntKind.i64 (L.fromTop (L.chainTo l
 g) i).y] = [Go.SE.SV.int Go.IntKind.i64 ((L.chain l).g i).x, Go.SE.SV.int Go.IntKind.i64 ((L.chain l).g i).y]) ∧ True)) (by kernel_rfl) (by
    obtain ⟨h1, hn, hb⟩ := hp
    have len0 : ∀ k, L.len (L.chainTo l k) ≤ k := chainTo_len l
    have bdc : ∀ k, k ≤ l.n → ∀ q, L.lmem q (L.chainTo l k) → L.bd q := fun k hk q hq => by
      obtain ⟨i, hi, rfl⟩ := chainTo_mem hq
      exact hb i (by omega)
    refine ⟨⟨(0 : Nat), rfl, ⟨rfl, fun i hi => absurd hi (Nat.not_lt_zero _)⟩, Nat.zero_le _⟩, fun g hg => ⟨fun hlt => ?_, fun hge => ?_⟩⟩
    · have hb' : (g : Int) < (l.n : Int) := of_decide_eq_true hlt
      have e0 : ((g : Int)).toNat = g := by omega
      refine ⟨⟨by omega, hb'⟩, ⟨(g, L.chainTo l g), ⟨rfl, fun _ _ => rfl⟩, rfl, by omega, rfl, fun _ h => h, len0 g⟩, fun g1 hg1 => ?_⟩
      obtain ⟨g0, st⟩ := g1
      obtain ⟨e1, q1, q2, q3, q4⟩ := hg1
      have e1 : (g : Int) = (g0 : Int) := e1
      obtain rfl : g = g0 := by omega
      have q2 : L.popPt (l.g g) st = L.popPt (l.g g) (L.chainTo l g) := q2
      have q3 : ∀ q, L.lmem q st → L.lmem q (L.chainTo l g) := q3
      have q4 : L.len st ≤ g := q4
      have mb : ∀ k, k < L.len st → L.bd (L.fromTop st k) := fun k hk => bdc g hg _ (q3 _ (fromTop_mem hk))
      rw [e0]
      dsimp only
      refine ⟨fun h => ?_, fun h => ?_, fun h => ?_, fun h => ?_, fun h => ?_, fun h => ?_, fun h => ?_, fun hc => ?_, fun hc => ?_⟩
      any_goals (try have h : (1 : Int) < (L.len st : Int) := of_decide_eq_true h)
      · exact InK.of (by omega) (by omega)
      · omega
      · omega
      · exact InK.of (by omega) (by omega)
      · omega
      · omega
      · exact ⟨mb _ (by omega), mb _ (by omega), hb g (by omega)⟩
      · cases hd : decide ((1 : Int) < (L.len st : Int)) with
        | false => rw [hd] at hc; cases hc
        | true =>
          have h : (1 : Int) < (L.len st : Int) := of_decide_eq_true hd
          rw [hd] at hc
          have hc := of_decide_eq_true hc
          match st, h with
          | b :: a :: r, h =>
            have f1 : (((L.len (b :: a :: r) : Nat) : Int) - 2).toNat = r.length := by show (((r.length + 1 + 1 : Nat) : Int) - 2).toNat = r.length; omega
            have f2 : (((L.len (b :: a :: r) : Nat) : Int) - 1).toNat = r.length + 1 := by show (((r.length + 1 + 1 : Nat) : Int) - 1).toNat = r.length + 1; omega
            have g1 : L.fromTop (b :: a :: r) (r.length + 1) = b := fromTop_head
            have g2 : L.fromTop (b :: a :: r) r.length = a := (fromTop_tail (by simp)).trans fromTop_head
            rw [f1, f2, g1, g2] at hc
            refine ⟨InK.of (by omega) (by omega), ⟨by omega, by omega⟩, (g, a :: r), rfl, rfl, rfl, ⟨rfl, fun _ _ => rfl⟩, ⟨f2, fun i hi => ?_⟩, rfl, rfl, ⟨rfl, q1, ?_, fun q hq => q3 q (List.mem_cons_of_mem _ hq), ?_⟩, ?_⟩
            · rw [f2] at hi
              have : L.fromTop (b :: a :: r) i = L.fromTop (a :: r) i := fromTop_tail (by simpa using hi)
              rw [this]
            · rw [← q2]
              show L.popPt (l.g g) (a :: r) = bif decide (L.cross a b (l.g g) ≤ 0) then L.popPt (l.g g) (a :: r) else b :: a :: r
              rw [decide_eq_true hc]; rfl
            · have : r.length + 1 + 1 ≤ g := q4
              show r.length + 1 ≤ g
              omega
            · show r.length + 1 < r.length + 1 + 1
              omega
          | [], h => exact absurd h (by show ¬ (1 : Int) < ((0 : Nat) : Int); omega)
          | [a], h => exact absurd h (by show ¬ (1 : Int) < ((1 : Nat) : Int); omega)
      · have hp' : L.popPt (l.g g) st = st := by
          match st, hc with
          | [], _ => rfl
          | [a], _ => rfl
          | b :: a :: r, hc =>
            have f1 : (((L.len (b :: a :: r) : Nat) : Int) - 2).toNat = r.length := by show (((r.length + 1 + 1 : Nat) : Int) - 2).toNat = r.length; omega
            have f2 : (((L.len (b :: a :: r) : Nat) : Int) - 1).toNat = r.length + 1 := by show (((r.length + 1 + 1 : Nat) : Int) - 1).toNat = r.length + 1; omega
            have g1 : L.fromTop (b :: a :: r) (r.length + 1) = b := fromTop_head
            have g2 : L.fromTop (b :: a :: r) r.length = a := (fromTop_tail (by simp)).trans fromTop_head
            have hl : (1 : Int) < ((L.len (b :: a :: r) : Nat) : Int) := by show (1 : Int) < ((r.length + 1 + 1 : Nat) : Int); omega
            rw [decide_eq_true hl, f1, f2, g1, g2] at hc
            have hc : decide (L.cross a b (l.g g) ≤ 0) = false := hc
            show (bif decide (L.cross a b (l.g g) ≤ 0) then L.popPt (l.g g) (a :: r) else b :: a :: r) = b :: a :: r
            rw [hc]; rfl
        have e2 : L.chainTo l (g + 1) = l.g g :: st := by
          show l.g g :: L.popPt (l.g g) (L.chainTo l g) = l.g g :: st
          rw [← q2, hp']
        refine ⟨show (L.len st + 1) * 16 ≤ 140737488355328 by omega, InK.of (by omega) (by omega), g + 1, by omega, rfl, ⟨rfl, fun _ _ => rfl⟩, ?_, by omega, by omega⟩
        rw [e2]
        refine ⟨rfl, fun i hi => ?_⟩
        have hi : i < L.len st + 1 := hi
        unfold appGet
        by_cases h' : i < L.len st
        · rw [if_pos h']
          have : L.fromTop (l.g g :: st) i = L.fromTop st i := fromTop_tail h'
          rw [this]
        · rw [if_neg h']
          obtain rfl : i = L.len st := by omega
          have : L.fromTop (l.g g :: st) (L.len st) = l.g g := fromTop_head
          rw [this]
    · have hb' : ¬ (g : Int) < (l.n : Int) := of_decide_eq_false hge
      obtain rfl : g = l.n := by omega
      have l1 : 1 ≤ L.len (L.chainTo l l.n) := by
        match hh : l.n, h1 with
        | m + 1, _ => exact Nat.succ_le_succ (Nat.zero_le _)
      have l2 := len0 l.n
      have e2 : (((L.len (L.chainTo l l.n) : Nat) : Int) - 1).toNat = (L.chain l).n := by
        show (((L.len (L.chainTo l l.n) : Nat) : Int) - 1).toNat = L.len (L.chainTo l l.n) - 1
        omega
      exact ⟨InK.of (by omega) (by omega), ⟨by omega, by omega⟩, (0 : Nat), ⟨e2, fun _ _ => rfl⟩, trivial⟩)
theorem p_chain_ok : SpecOk Tryz.prog 182 p_chain_S := freshX Tryz.func182 (c := bodyOf Tryz.f182) (by kernel_rfl) mixed (fun args p q n g hs hp => by
  unfold p_chain_s at hs
  split at hs
  · cases hs; exact ⟨_, _, p_chain_vc _ hp.2, (.p (.sl hp.1) .nil), ⟨show SpecsL Tryz.prog _ from (SpecsL.cons p_cross_ok p_cross_en SpecsL.nil), rfl, ⟨show ItersL Tryz.prog _ from ItersL.nil, (TrsOk.none (fun _ => rfl))⟩⟩⟩
  · cases hs)
theorem p_chain_en : Enters Tryz.prog 182 := fun args w => by kernel_rfl
def p_hull_p (l : (L.Sq L.Pt)) : Prop := 2 ≤ l.n ∧ l.n ≤ 1000 ∧ ∀ i, i < l.n → L.bd (l.g i)
def p_hull_q (l : (L.Sq L.Pt)) : Nat → Prop := fun _ => True
def p_hull_n (l : (L.Sq L.Pt)) : Nat → Nat := fun _ => (L.hull l).n
def p_hull_g (l : (L.Sq L.Pt)) : Nat → Nat → List SV := fun _ k => [.int .i64 (((L.hull l).g k).x), .int .i64 (((L.hull l).g k).y)]
def p_hull_s : List EV → Option (Prop × (Nat → Prop) × (Nat → Nat) × (Nat → Nat → List SV))
  | [.p (.sl 2 l_n l_g)] => some ((∀ i, i < l_n → l_g i = [.int .i64 ((ofPt (l_g i)).x), .int .i64 ((ofPt (l_g i)).y)]) ∧ p_hull_p (⟨l_n, fun i => ofPt (l_g i)⟩ : (L.Sq L.Pt)), p_hull_q (⟨l_n, fun i => ofPt (l_g i)⟩ : (L.Sq L.Pt)), p_hull_n (⟨l_n, fun i => ofPt (l_g i)⟩ : (L.Sq L.Pt)), p_hull_g (⟨l_n, fun i => ofPt (l_g i)⟩ : (L.Sq L.Pt)))
  | _ => none
abbrev p_hull_S : SE.Spec := (specF Nat 0 42 2 p_hull_s)
def p_hull_C : Cfg := { muts := [7, 18], frz := lookN [], specs := lookS [(181, s_values_S), (180, s_sortedF_S), (182, p_chain_S), (145, s_concat_S)], loops := lookL [], iters := lookI [], rfs := lookR [], nils := lookM [], trs := lookT [(143, s_revP_tr)], ren := fun k => k - 998, raws := [180] }
theorem p_hull_vc (l : (L.Sq L.Pt)) (hp : p_hull_p l) : vc Tryz.prog (p_hull_C) (bodyOf Tryz.f132) (st0 Tryz.f132 [.p (.sl 2 l.n (fun i => [.int .i64 ((l.g i).x), .int .i64 ((l.g i).y)]))]) (retFresh Tryz.prog Tryz.f132 (Nat) (p_hull_q l) 42 2 (p_hull_n l) (p_hull_g l)) :=
  @Eq.mpr _ (((∀ (i : Nat), i < l.n → [Go.SE.SV.int Go.IntKind.i64 (l.g i).x, Go.SE.SV.int Go.IntKind.i64 (l.g i).y] = [Go.SE.SV.int Go.IntKind.i64 (l.g i).x, Go.SE.SV.int Go.IntKind.i64 (l.g i).y]) ∧ l.n ≤ (1000000 : Nat)) ∧ ((∀ (i : Nat), i < l.n → [Go.SE.SV.int Go.IntKind.i64 (l.g i).x, Go.SE.SV.int Go.IntKind.i64 (l.g i).y] = [Go.SE.SV.int Go.IntKind.i64 (l.g i).x, Go.SE.SV.int Go.IntKind.i64 (l.g i).y]) ∧
 l.n ≤ (1000000 : Nat)) ∧ ∀ (t : Nat), True → ((∀ (i : Nat), i < l.n → [Go.SE.SV.int Go.IntKind.i64 ((L.sorted (L.Sq.mk l.n fun (i : Nat) ↦ l.g i)).g i).x, Go.SE.SV.int Go.IntKind.i64 ((L.sorted (L.Sq.mk l.n fun (i : Nat) ↦ l.g i)).g i).y] = [Go.SE.SV.int Go.IntKind.i64 ((L.sorted (L.Sq.mk l.n fun (i : Nat) ↦ l.g i)).g i).x, Go.SE.SV.int Go.IntKind.i64 ((L.sorted (L.Sq.mk l.n fun (i : Nat) ↦ l.g
 i)).g i).y]) ∧ (1 : Nat) ≤ l.n ∧ l.n ≤ (1000000 : Nat) ∧ ∀ (i : Nat), i < l.n → L.bd ((L.sorted (L.Sq.mk l.n fun (i : Nat) ↦ l.g i)).g i)) ∧ ∀ (t : Nat), True → (∀ (i : Nat), i < (L.chain (L.Sq.mk l.n fun (i : Nat) ↦ (L.sorted (L.Sq.mk l.n fun (i : Nat) ↦ l.g i)).g i)).n → (Bool.true && (Bool.true && Bool.true)) = Bool.true) ∧ ∃ (t : L.Sq L.Pt), (l.n = t.n ∧ ∀ (i : Nat), i < l.n → [Go.SE.SV.int
 Go.IntKind.i64 ((L.sorted (L.Sq.mk l.n fun (i : Nat) ↦ l.g i)).g i).x, Go.SE.SV.int Go.IntKind.i64 ((L.sorted (L.Sq.mk l.n fun (i : Nat) ↦ l.g i)).g i).y] = [Go.SE.SV.int Go.IntKind.i64 (t.g i).x, Go.SE.SV.int Go.IntKind.i64 (t.g i).y]) ∧ t.n ≤ (1000000 : Nat) ∧ ∀ (u : Nat), True → ((∀ (i : Nat), i < t.n → [Go.SE.SV.int Go.IntKind.i64 (t.g (t.n - (1 : Nat) - i)).x, Go.SE.SV.int Go.IntKind.i64 (t.g
 (t.n - (1 : Nat) - i)).y] = [Go.SE.SV.int Go.IntKind.i64 (t.g (t.n - (1 : Nat) - i)).x, Go.SE.SV.int Go.IntKind.i64 (t.g (t.n - (1 : Nat) - i)).y]) ∧ (1 : Nat) ≤ t.n ∧ t.n ≤ (1000000 : Nat) ∧ ∀ (i : Nat), i < t.n → L.bd (t.g (t.n - (1 : Nat) - i))) ∧ ∀ (t_1 : Nat), True → (∀ (i : Nat), i < (L.chain (L.Sq.mk t.n fun (i : Nat) ↦ t.g (t.n - (1 : Nat) - i))).n → (Bool.true && (Bool.true && Bool.true))
 = Bool.true) ∧ (((∀ (i : Nat), i < (L.chain (L.Sq.mk l.n fun (i : Nat) ↦ (L.sorted (L.Sq.mk l.n fun (i : Nat) ↦ l.g i)).g i)).n → [Go.SE.SV.int Go.IntKind.i64 ((L.chain (L.Sq.mk l.n fun (i : Nat) ↦ (L.sorted (L.Sq.mk l.n fun (i : Nat) ↦ l.g i)).g i)).g i).x, Go.SE.SV.int Go.IntKind.i64 ((L.chain (L.Sq.mk l.n fun (i : Nat) ↦ (L.sorted (L.Sq.mk l.n fun (i : Nat) ↦ l.g i)).g i)).g i).y] =
 [Go.SE.SV.int Go.IntKind.i64 ((L.chain (L.Sq.mk l.n fun (i : Nat) ↦ (L.sorted (L.Sq.mk l.n fun (i : Nat) ↦ l.g i)).g i)).g i).x, Go.SE.SV.int Go.IntKind.i64 ((L.chain (L.Sq.mk l.n fun (i : Nat) ↦ (L.sorted (L.Sq.mk l.n fun (i : Nat) ↦ l.g i)).g i)).g i).y]) ∧ ∀ (i : Nat), i < (L.chain (L.Sq.mk t.n fun (i : Nat) ↦ t.g (t.n - (1 : Nat) - i))).n → [Go.SE.SV.int Go.IntKind.i64 ((L.chain (L.Sq.mk t.n
 fun (i : Nat) ↦ t.g (t.n - (1 : Nat) - i))).g i).x, Go.SE.SV.int Go.IntKind.i64 ((L.chain (L.Sq.mk t.n fun (i : Nat) ↦ t.g (t.n - (1 : Nat) - i))).g i).y] = [Go.SE.SV.int Go.IntKind.i64 ((L.chain (L.Sq.mk t.n fun (i : Nat) ↦ t.g (t.n - (1 : Nat) - i))).g i).x, Go.SE.SV.int Go.IntKind.i64 ((L.chain (L.Sq.mk t.n fun (i : Nat) ↦ t.g (t.n - (1 : Nat) - i))).g i).y]) ∧ (1 : Nat) ≤ (L.two (L.Sq.mk
 (L.chain (L.Sq.mk l.n fun (i : Nat) ↦ (L.sorted (L.Sq.mk l.n fun (i : Nat) ↦ l.g i)).g i)).n fun (i : Nat) ↦ (L.chain (L.Sq.mk l.n fun (i : Nat) ↦ (L.sorted (L.Sq.mk l.n fun (i : Nat) ↦ l.g i)).g i)).g i) (L.Sq.mk (L.chain (L.Sq.mk t.n fun (i : Nat) ↦ t.g (t.n - (1 : Nat) - i))).n fun (i : Nat) ↦ (L.chain (L.Sq.mk t.n fun (i : Nat) ↦ t.g (t.n - (1 : Nat) - i))).g i) (0 : Nat)).n + (L.two (L.Sq.mk
 (L.chain (L.Sq.mk l.n fun (i : Nat) ↦ (L.sorted (L.Sq.mk l.n fun (i : Nat) ↦ l.g i)).g i)).n fun (i : Nat) ↦ (L.chain (L.Sq.mk l.n fun (i : Nat) ↦ (L.sorted (L.Sq.mk l.n fun (i : Nat) ↦ l.g i)).g i)).g i) (L.Sq.mk (L.chain (L.Sq.mk t.n fun (i : Nat) ↦ t.g (t.n - (1 : Nat) - i))).n fun (i : Nat) ↦ (L.chain (L.Sq.mk t.n fun (i : Nat) ↦ t.g (t.n - (1 : Nat) - i))).g i) (1 : Nat)).n ∧ (L.two (L.Sq.mk
 (L.chain (L.Sq.mk l.n fun (i : Nat) ↦ (L.sorted (L.Sq.mk l.n fun (i : Nat) ↦ l.g i)).g i)).n fun (i : Nat) ↦ (L.chain (L.Sq.mk l.n fun (i : Nat) ↦ (L.sorted (L.Sq.mk l.n fun (i : Nat) ↦ l.g i)).g i)).g i) (L.Sq.mk (L.chain (L.Sq.mk t.n fun (i : Nat) ↦ t.g (t.n - (1 : Nat) - i))).n fun (i : Nat) ↦ (L.chain (L.Sq.mk t.n fun (i : Nat) ↦ t.g (t.n - (1 : Nat) - i))).g i) (0 : Nat)).n ≤ (1000000 : Nat)
 ∧ (L.two (L.Sq.mk (L.chain (L.Sq.mk l.n fun (i : Nat) ↦ (L.sorted (L.Sq.mk l.n fun (i : Nat) ↦ l.g i)).g i)).n fun (i : Nat) ↦ (L.chain (L.Sq.mk l.n fun (i : Nat) ↦ (L.sorted (L.Sq.mk l.n fun (i : Nat) ↦ l.g i)).g i)).g i) (L.Sq.mk (L.chain (L.Sq.mk t.n fun (i : Nat) ↦ t.g (t.n - (1 : Nat) - i))).n fun (i : Nat) ↦ (L.chain (L.Sq.mk t.n fun (i : Nat) ↦ t.g (t.n - (1 : Nat) - i))).g i) (1 : Nat)).n
 ≤ (1000000 : Nat)) ∧ ∀ (t_2 : Nat), True → ∃ (t_3 : Nat), ((L.catTo (L.two (L.Sq.mk (L.chain (L.Sq.mk l.n fun (i : Nat) ↦ (L.sorted (L.Sq.mk l.n fun (i : Nat) ↦ l.g i)).g i)).n fun (i : Nat) ↦ (L.chain (L.Sq.mk l.n fun (i : Nat) ↦ (L.sorted (L.Sq.mk l.n fun (i : Nat) ↦ l.g i)).g i)).g i) (L.Sq.mk (L.chain (L.Sq.mk t.n fun (i : Nat) ↦ t.g (t.n - (1 : Nat) - i))).n fun (i : Nat) ↦ (L.chain (L.Sq.mk
 t.n fun (i : Nat) ↦ t.g (t.n - (1 : Nat) - i))).g i)) (2 : Nat)).n = (L.hull l).n ∧ ∀ (i : Nat), i < (L.catTo (L.two (L.Sq.mk (L.chain (L.Sq.mk l.n fun (i : Nat) ↦ (L.sorted (L.Sq.mk l.n fun (i : Nat) ↦ l.g i)).g i)).n fun (i : Nat) ↦ (L.chain (L.Sq.mk l.n fun (i : Nat) ↦ (L.sorted (L.Sq.mk l.n fun (i : Nat) ↦ l.g i)).g i)).g i) (L.Sq.mk (L.chain (L.Sq.mk t.n fun (i : Nat) ↦ t.g (t.n - (1 : Nat) -
 i))).n fun (i : Nat) ↦ (L.chain (L.Sq.mk t.n fun (i : Nat) ↦ t.g (t.n - (1 : Nat) - i))).g i)) (2 : Nat)).n → [Go.SE.SV.int Go.IntKind.i64 ((L.catTo (L.two (L.Sq.mk (L.chain (L.Sq.mk l.n fun (i : Nat) ↦ (L.sorted (L.Sq.mk l.n fun (i : Nat) ↦ l.g i)).g i)).n fun (i : Nat) ↦ (L.chain (L.Sq.mk l.n fun (i : Nat) ↦ (L.sorted (L.Sq.mk l.n fun (i : Nat) ↦ l.g i)).g i)).g i) (L.Sq.mk (L.chain (L.Sq.mk t.n
 fun (i : Nat) ↦ t.g (t.n - (1 : Nat) - i))).n fun (i : Nat) ↦ (L.chain (L.Sq.mk t.n fun (i : Nat) ↦ t.g (t.n - (1 : Nat) - i))).g i)) (2 : Nat)).g i).x, Go.SE.SV.int Go.IntKind.i64 ((L.catTo (L.two (L.Sq.mk (L.chain (L.Sq.mk l.n fun (i : Nat) ↦ (L.sorted (L.Sq.mk l.n fun (i : Nat) ↦ l.g i)).g i)).n fun (i : Nat) ↦ (L.chain (L.Sq.mk l.n fun (i : Nat) ↦ (L.sorted (L.Sq.mk l.n fun (i : Nat) ↦ l.g
 i)).g i)).g i) (L.Sq.mk (L.chain (L.Sq.mk t.n fun (i : Nat) ↦ t.g (t.n - (1 : Nat) - i))).n fun (i : Nat) ↦ (L.chain (L.Sq.mk t.n fun (i : Nat) ↦ t.g (t.n - (1 : Nat) - i))).g i)) (2 : Nat)).g i).y] = [Go.SE.SV.int Go.IntKind.i64 ((L.hull l).g i).x, Go.SE.SV.int Go.IntKind.i64 ((L.hull l).g i).y]) ∧ True) (by kernel_rfl) (by
    obtain ⟨h1, hn, hb⟩ := hp
    have sb : ∀ i, i < l.n → L.bd ((L.sorted l).g i) := fun i hi => by
      obtain ⟨j, hj, e⟩ := sorted_mem l hi
      rw [e]; exact hb j hj
    have cl : ∀ m : L.Sq L.Pt, (L.chain m).n ≤ m.n := fun m => by
      have := chainTo_len m m.n
      show (L.chainTo m m.n).length - 1 ≤ m.n
      omega
    have c1 : (L.chain (L.sorted l)).n ≤ l.n := cl (L.sorted l)
    have c2 : (L.chain (L.revd (L.sorted l))).n ≤ l.n := cl (L.revd (L.sorted l))
    have c3 : 1 ≤ (L.chain (L.sorted l)).n := chain_pos (l := L.sorted l) h1
    refine ⟨⟨fun _ _ => rfl, by omega⟩, ⟨fun _ _ => rfl, by omega⟩, fun t _ => ⟨⟨fun _ _ => rfl, by omega, by omega, sb⟩, fun t _ => ⟨fun _ _ => rfl, L.sorted l, ⟨rfl, fun _ _ => rfl⟩, show l.n ≤ 1000000 by omega, fun u _ => ⟨⟨fun _ _ => rfl, show 1 ≤ l.n by omega, show l.n ≤ 1000000 by omega, fun i hi => sb _ ?_⟩, fun t1 _ => ⟨fun _ _ => rfl, ⟨⟨fun _ _ => rfl, fun _ _ => rfl⟩, ?_, ?_, ?_⟩, fun t2 _ => ⟨(0 : Nat), ⟨rfl, fun _ _ => rfl⟩, trivial⟩⟩⟩⟩⟩⟩
    · have hi : i < l.n := hi
      show l.n - 1 - i < l.n
      omega
    · show 1 ≤ (L.chain (L.sorted l)).n + (L.chain (L.revd (L.sorted l))).n
      omega
    · show (L.chain (L.sorted l)).n ≤ 1000000
      omega
    · show (L.chain (L.revd (L.sorted l))).n ≤ 1000000
      omega)
theorem p_hull_ok : SpecOk Tryz.prog 132 p_hull_S := freshX Tryz.func132 (c := bodyOf Tryz.f132) (by kernel_rfl) mixed (fun args p q n g hs hp => by
  unfold p_hull_s at hs
  split at hs
  · cases hs; exact ⟨_, _, p_hull_vc _ hp.2, (.p (.sl hp.1) .nil), ⟨show SpecsL Tryz.prog _ from (SpecsL.cons s_values_ok s_values_en (SpecsL.cons s_sortedF_ok s_sortedF_en (SpecsL.cons p_chain_ok p_chain_en (SpecsL.cons s_concat_ok s_concat_en SpecsL.nil)))), rfl, ⟨show ItersL Tryz.prog _ from ItersL.nil, (show TrsL Tryz.prog _ from (TrsL.cons s_revP_tok s_revP_en TrsL.nil))⟩⟩⟩
  · cases hs)
theorem p_hull_en : Enters Tryz.prog 132 := fun args w => by kernel_rfl
end Go.Proofs.YtooapgllahonaaaGreat

namespace Go.Proofs.YtooapgllahonaaaGreat
open Go.SE Go.RowKit
set_option maxRecDepth 100000
set_option maxHeartbeats 4000000
set_option linter.unusedVariables false
attribute [local irreducible] Go.SE.vc

structure L.Pocket where
  fr : Int
  to_ : Int
  area : Int
def ofPocket : List SV → L.Pocket
  | [.int _ a, .int _ b, .int _ c] => ⟨a, b, c⟩
  | _ => ⟨0, 0, 0⟩
instance : Inhabited L.Pocket := ⟨⟨0, 0, 0⟩⟩
def encPk (p : L.Pocket) : List Int := [p.fr, p.to_, p.area]
def L.cmpFr (a b : L.Pocket) : Int := L.cmp a.fr b.fr
theorem swoPk : Go.Sort.SWO (Go.Proofs.ltOf L.cmpFr) := by
  have k : ∀ x y, Go.Proofs.ltOf L.cmpFr x y = true ↔ x.fr < y.fr := fun x y => by
    unfold Go.Proofs.ltOf L.cmpFr L.cmp; rw [decide_eq_true_iff]
    by_cases h1 : x.fr < y.fr
    · simp [h1]
    · by_cases h2 : y.fr < x.fr <;> simp [h1, h2]
  have kf : ∀ x y, Go.Proofs.ltOf L.cmpFr x y = false ↔ ¬ x.fr < y.fr := fun x y => by
    rw [← k, Bool.not_eq_true]
  refine ⟨fun x => ?_, fun x y z => ?_, fun x y z => ?_⟩
  · rw [kf]; omega
  · simp only [k]; omega
  · simp only [kf]; omega
def L.pkFrom (l h : L.Sq L.Pt) (k : Nat) : Int := L.ptIdx l (h.g k)
def L.pkTo (l h : L.Sq L.Pt) (k : Nat) : Int := L.ptIdx l (h.g (L.next h.n k))
def L.isPk (l h : L.Sq L.Pt) (k : Nat) : Bool := !decide (L.pkTo l h k = Int.tmod (L.pkFrom l h k + 1) (l.n : Int))
def L.back (n : Nat) (to_ : Int) (j : Nat) : Int := Int.tmod (to_ + (n : Int) - (j : Int)) (n : Int)
def L.pkLen (n : Nat) (fr to_ : Int) : Nat := (Int.tmod (to_ + (n : Int) - fr) (n : Int)).toNat
def L.pkRow (l : L.Sq L.Pt) (fr to_ : Int) : L.Sq L.Pt := ⟨L.pkLen l.n fr to_ + 1, fun j => l.g (L.back l.n to_ j).toNat⟩
def L.pk (l h : L.Sq L.Pt) (k : Nat) : L.Pocket := ⟨L.pkFrom l h k, L.pkTo l h k, L.areaTo (L.pkRow l (L.pkFrom l h k) (L.pkTo l h k)) (L.pkRow l (L.pkFrom l h k) (L.pkTo l h k)).n⟩
def L.pks (l : L.Sq L.Pt) : L.Sq L.Pocket := ⟨L.cnt (L.isPk l (L.hull l)) (L.hull l).n, fun i => L.pk l (L.hull l) (L.selN (L.isPk l (L.hull l)) (L.hull l).n i)⟩
def L.pkN (l : L.Sq L.Pt) : Nat := bif L.validOutline l then (L.pks l).n else 0
def sortPk_ren : Go.Shelf.Ren := ⟨fun | 6 => 133 | 15 => 184 | 14 => 183 | 28 => 210 | 29 => 211 | 20 => 202 | 21 => 203 | 22 => 204 | 23 => 205 | 24 => 206 | 25 => 207 | 26 => 208 | 27 => 209 | 46 => 217 | 47 => 218 | 48 => 219 | 49 => 220 | 50 => 221 | 57 => 238 | n => n, fun | 22 => 96 | 24 => 103 | 25 => 159 | 3 => 3 | 39 => 199 | 0 => 0 | 53 => 224 | 55 => 226 | 4 => 4 | 46 => 217 | 45 => 216 | 50 => 221 | 5 => 5 | 9 => 9 | 66 => 231 | 70 => 235 | 76 => 247 | 77 => 248 | n => n, fun | n => n⟩
theorem sortPk_lay : Go.Proofs.SlLaysF0.n6 Tryz.prog sortPk_ren := {
  mixed := by kernel_rfl
  f6 := ⟨Tryz.f133.name, by decide, Tryz.func133.trans (congrArg some (by kernel_rfl))⟩
  f14 := ⟨Tryz.f183.name, by decide, Tryz.func183.trans (congrArg some (by kernel_rfl))⟩
  f15 := Tryz.func184.trans (congrArg some (by kernel_rfl))
  f20 := ⟨Tryz.f202.name, by decide, Tryz.func202.trans (congrArg some (by kernel_rfl))⟩
  f21 := ⟨Tryz.f203.name, by decide, Tryz.func203.trans (congrArg some (by kernel_rfl))⟩
  f22 := ⟨Tryz.f204.name, by decide, Tryz.func204.trans (congrArg some (by kernel_rfl))⟩
  f23 := ⟨Tryz.f205.name, by decide, Tryz.func205.trans (congrArg some (by kernel_rfl))⟩
  f24 := ⟨Tryz.f206.name, by decide, Tryz.func206.trans (congrArg some (by kernel_rfl))⟩
  f25 := ⟨Tryz.f207.name, by decide, Tryz.func207.trans (congrArg some (by kernel_rfl))⟩
  f26 := ⟨Tryz.f208.name, by decide, Tryz.func208.trans (congrArg some (by kernel_rfl))⟩
  f27 := ⟨Tryz.f209.name, by decide, Tryz.func209.trans (congrArg some (by kernel_rfl))⟩
  f28 := Tryz.func210.trans (congrArg some (by kernel_rfl))
  f29 := Tryz.func211.trans (congrArg some (by kernel_rfl))
  f46 := ⟨Tryz.f217.name, by decide, Tryz.func217.trans (congrArg some (by kernel_rfl))⟩
  f47 := Tryz.func218.trans (congrArg some (by kernel_rfl))
  f48 := Tryz.func219.trans (congrArg some (by kernel_rfl))
  f49 := ⟨Tryz.f220.name, by decide, Tryz.func220.trans (congrArg some (by kernel_rfl))⟩
  f50 := ⟨Tryz.f221.name, by decide, Tryz.func221.trans (congrArg some (by kernel_rfl))⟩
  f57 := ⟨Tryz.f238.name, by decide, Tryz.func238.trans (congrArg some (by kernel_rfl))⟩
  t0 := Tryz.underlying0
  a0 := Tryz.isAgg0
  z0 := Tryz.sizeOf0
  v0 := Tryz.zeroValue0
  t3 := Tryz.underlying3
  a3 := Tryz.isAgg3
  z3 := Tryz.sizeOf3
  v3 := Tryz.zeroValue3
  t4 := Tryz.underlying4
  a4 := Tryz.isAgg4
  z4 := Tryz.sizeOf4
  v4 := Tryz.zeroValue4
  t5 := Tryz.underlying5
  a5 := Tryz.isAgg5
  z5 := Tryz.sizeOf5
  v5 := Tryz.zeroValue5
  t9 := Tryz.underlying9
  a9 := Tryz.isAgg9
  z9 := Tryz.sizeOf9
  v9 := Tryz.zeroValue9
  t22 := Tryz.underlying96
  a22 := Tryz.isAgg96
  z22 := Tryz.sizeOf96
  v22 := Tryz.zeroValue96
  t25 := Tryz.underlying159
  a25 := Tryz.isAgg159
  z25 := Tryz.sizeOf159
  v25 := Tryz.zeroValue159
  t39 := Tryz.underlying199
  a39 := Tryz.isAgg199
  z39 := Tryz.sizeOf199
  v39 := Tryz.zeroValue199
  t45 := Tryz.underlying216
  a45 := Tryz.isAgg216
  z45 := Tryz.sizeOf216
  v45 := Tryz.zeroValue216
  t46 := Tryz.underlying217
  a46 := Tryz.isAgg217
  z46 := Tryz.sizeOf217
  v46 := Tryz.zeroValue217
  t50 := Tryz.underlying221
  a50 := Tryz.isAgg221
  z50 := Tryz.sizeOf221
  v50 := Tryz.zeroValue221
  t53 := Tryz.underlying224
  a53 := Tryz.isAgg224
  z53 := Tryz.sizeOf224
  v53 := Tryz.zeroValue224
  t55 := Tryz.underlying226
  a55 := Tryz.isAgg226
  z55 := Tryz.sizeOf226
  v55 := Tryz.zeroValue226
  t66 := Tryz.underlying231
  a66 := Tryz.isAgg231
  z66 := Tryz.sizeOf231
  v66 := Tryz.zeroValue231
  t70 := Tryz.underlying235
  a70 := Tryz.isAgg235
  z70 := Tryz.sizeOf235
  v70 := Tryz.zeroValue235
  t76 := Tryz.underlying247
  a76 := Tryz.isAgg247
  z76 := Tryz.sizeOf247
  v76 := Tryz.zeroValue247
  t77 := Tryz.underlying248
  a77 := Tryz.isAgg248
  z77 := Tryz.sizeOf248
  v77 := Tryz.zeroValue248 }

theorem back_bd {n : Nat} {to_ : Int} (hn : 0 < n) (h0 : 0 ≤ to_) {j : Nat} (hj : j ≤ n) : 0 ≤ L.back n to_ j ∧ L.back n to_ j < (n : Int) := by
  unfold L.back
  exact ⟨Int.tmod_nonneg (n : Int) (by omega), Int.tmod_lt_of_pos _ (by omega)⟩
theorem back_0 {n : Nat} {to_ : Int} (h0 : 0 ≤ to_) (h1 : to_ < (n : Int)) : L.back n to_ 0 = to_ := by
  unfold L.back
  rw [show to_ + (n : Int) - ((0 : Nat) : Int) = to_ + (n : Int) by omega, Int.tmod_eq_emod_of_nonneg (by omega), Int.add_emod_right, Int.emod_eq_of_lt h0 h1]
theorem back_succ {n : Nat} {to_ : Int} (hn : 0 < n) (h0 : 0 ≤ to_) {j : Nat} (hj : j < n) : Int.tmod (L.back n to_ j + (n : Int) - 1) (n : Int) = L.back n to_ (j + 1) := by
  have hb := back_bd hn h0 (j := j) (by omega)
  unfold L.back at hb ⊢
  rw [Int.tmod_eq_emod_of_nonneg (a := to_ + (n : Int) - (j : Int)) (by omega)] at hb ⊢
  rw [Int.tmod_eq_emod_of_nonneg (by omega), Int.tmod_eq_emod_of_nonneg (a := to_ + (n : Int) - ((j + 1 : Nat) : Int)) (by omega)]
  rw [show (to_ + (n : Int) - (j : Int)) % (n : Int) + (n : Int) - 1 = (to_ + (n : Int) - (j : Int)) % (n : Int) + ((n : Int) - 1) by omega, Int.emod_add_emod, show to_ + (n : Int) - (j : Int) + ((n : Int) - 1) = to_ + (n : Int) - ((j + 1 : Nat) : Int) + (n : Int) by omega, Int.add_emod_right]
theorem back_end {n : Nat} {fr to_ : Int} (hf0 : 0 ≤ fr) (hf1 : fr < (n : Int)) (ht0 : 0 ≤ to_) (ht1 : to_ < (n : Int)) {j : Nat} (hj : j ≤ L.pkLen n fr to_) : (L.back n to_ j = fr ↔ j = L.pkLen n fr to_) ∧ L.pkLen n fr to_ < n := by
  unfold L.pkLen L.back at *
  rw [Int.tmod_eq_emod_of_nonneg (a := to_ + (n : Int) - fr) (by omega)] at hj ⊢
  by_cases h : fr ≤ to_
  · have e1 : (to_ + (n : Int) - fr) % (n : Int) = to_ - fr := by
      rw [show to_ + (n : Int) - fr = to_ - fr + (n : Int) by omega, Int.add_emod_right, Int.emod_eq_of_lt (by omega) (by omega)]
    rw [e1] at hj ⊢
    rw [Int.tmod_eq_emod_of_nonneg (by omega), show to_ + (n : Int) - (j : Int) = to_ - (j : Int) + (n : Int) by omega, Int.add_emod_right, Int.emod_eq_of_lt (by omega) (by omega)]
    omega
  · have e1 : (to_ + (n : Int) - fr) % (n : Int) = to_ + (n : Int) - fr := Int.emod_eq_of_lt (by omega) (by omega)
    rw [e1] at hj ⊢
    rw [Int.tmod_eq_emod_of_nonneg (by omega)]
    by_cases h2 : (j : Int) ≤ to_
    · rw [show to_ + (n : Int) - (j : Int) = to_ - (j : Int) + (n : Int) by omega, Int.add_emod_right, Int.emod_eq_of_lt (by omega) (by omega)]
      omega
    · rw [Int.emod_eq_of_lt (by omega) (by omega)]
      omega
theorem pkRow_small {l : L.Sq L.Pt} (hs : L.small l) {fr to_ : Int} (hn : l.n ≤ 900) (hf0 : 0 ≤ fr) (hf1 : fr < (l.n : Int)) (ht0 : 0 ≤ to_) (ht1 : to_ < (l.n : Int)) : L.small (L.pkRow l fr to_) := by
  have hlen := (back_end hf0 hf1 ht0 ht1 (j := 0) (Nat.zero_le _)).2
  refine ⟨show L.pkLen l.n fr to_ + 1 ≤ 1000 by omega, fun i hi => ?_⟩
  have hi : i < L.pkLen l.n fr to_ + 1 := hi
  have hb := back_bd (n := l.n) (by omega) ht0 (j := i) (by omega)
  exact hs.2 _ (by omega)
theorem pk_idx {l : L.Sq L.Pt} {k : Nat} (hk : k < (L.hull l).n) : 0 ≤ L.ptIdx l ((L.hull l).g k) ∧ L.ptIdx l ((L.hull l).g k) < (l.n : Int) := by
  obtain ⟨i, hi, e⟩ := hull_mem l hk
  obtain ⟨j, hj, e2, _⟩ := ptIdx_of (l := l) hi
  rw [e, e2]; omega
def p_pk1_p (a : L.Pocket) (b : L.Pocket) : Prop := True
def p_pk1_r (a : L.Pocket) (b : L.Pocket) : SV := .int .i64 (L.cmpFr a b)
def p_pk1_s : List EV → Option (Prop × SV)
  | [.p (.agg [.int .i64 a_fr, .int .i64 a_to_, .int .i64 a_area]), .p (.agg [.int .i64 b_fr, .int .i64 b_to_, .int .i64 b_area])] => some (p_pk1_p (⟨a_fr, a_to_, a_area⟩ : L.Pocket) (⟨b_fr, b_to_, b_area⟩ : L.Pocket), p_pk1_r (⟨a_fr, a_to_, a_area⟩ : L.Pocket) (⟨b_fr, b_to_, b_area⟩ : L.Pocket))
  | _ => none
abbrev p_pk1_S : SE.Spec := (specO p_pk1_s)
def p_pk1_C : Cfg := { muts := [], frz := lookN [], specs := lookS [(94, c_cmp_S)], loops := lookL [], iters := lookI [], rfs := lookR [], nils := lookM [] }
theorem p_pk1_vc (a : L.Pocket) (b : L.Pocket) (hp : p_pk1_p a b) : vc Tryz.prog (p_pk1_C) (bodyOf Tryz.f134) (st0 Tryz.f134 [.p (.agg [.int .i64 a.fr, .int .i64 a.to_, .int .i64 a.area]), .p (.agg [.int .i64 b.fr, .int .i64 b.to_, .int .i64 b.area])]) (retFn Tryz.prog Tryz.f134 (p_pk1_r a b)) :=
  @Eq.mpr _ (True ∧ L.cmp a.fr b.fr = L.cmpFr a b) (by kernel_rfl) (by
    exact ⟨trivial, rfl⟩)
theorem p_pk1_ok : SpecOk Tryz.prog 134 p_pk1_S := fnX Tryz.func134 (c := bodyOf Tryz.f134) (by kernel_rfl) mixed (fun args p r hs hp => by
  unfold p_pk1_s at hs
  split at hs
  · cases hs; exact ⟨_, _, p_pk1_vc _ _ hp, (.same _ (.same _ .nil)), ⟨show SpecsL Tryz.prog _ from (SpecsL.cons c_cmp_ok c_cmp_en SpecsL.nil), rfl, ⟨show ItersL Tryz.prog _ from ItersL.nil, (TrsOk.none (fun _ => rfl))⟩⟩⟩
  · cases hs)
theorem p_pk1_en : Enters Tryz.prog 134 := fun args w => by kernel_rfl
theorem p_pk1_I : ∀ args p r, p_pk1_s args = some (p, r) → ∃ n, r = .int .i64 n := by
  intro args p r h
  unfold p_pk1_s at h
  split at h
  · cases h; exact ⟨_, rfl⟩
  · cases h
abbrev s_sortK_tr : Tr := sortTr 103 3 134 1005 encPk L.cmpFr
theorem s_sortK_tok : TrOk Tryz.prog 133 s_sortK_tr := sortTr_ok (enc := encPk) sortPk_lay (by decide) (fun w => Tryz.isAgg103 w) (fun w => Tryz.sizeOf103 w) (fun _ => rfl) swoPk p_pk1_ok p_pk1_en (fun x y => show preO p_pk1_s [.p (.agg [.int .i64 x.fr, .int .i64 x.to_, .int .i64 x.area]), .p (.agg [.int .i64 y.fr, .int .i64 y.to_, .int .i64 y.area])] from trivial) (fun x y => rfl) _ _
theorem s_sortK_en : Enters Tryz.prog 133 := fun args w => by kernel_rfl
def p_Pockets_p (l : (L.Sq L.Pt)) : Prop := l.n ≤ 1000000
def p_Pockets_q (l : (L.Sq L.Pt)) : (Nat → L.Pocket) → Prop := fun u => L.validOutline l = true → SortedBy L.cmpFr (L.pks l).n (L.pks l).g u
def p_Pockets_r (l : (L.Sq L.Pt)) : (Nat → L.Pocket) → SV := fun u => .tup [.sl 3 (L.pkN l) (fun i => [.int .i64 ((u i).fr), .int .i64 ((u i).to_), .int .i64 ((u i).area)]), .int .i64 (bif L.validOutline l then 0 else 1)]
def p_Pockets_s : List EV → Option (Prop × ((Nat → L.Pocket) → Prop) × ((Nat → L.Pocket) → SV))
  | [.p (.sl 2 l_n l_g)] => some ((∀ i, i < l_n → l_g i = [.int .i64 ((ofPt (l_g i)).x), .int .i64 ((ofPt (l_g i)).y)]) ∧ p_Pockets_p (⟨l_n, fun i => ofPt (l_g i)⟩ : (L.Sq L.Pt)), p_Pockets_q (⟨l_n, fun i => ofPt (l_g i)⟩ : (L.Sq L.Pt)), p_Pockets_r (⟨l_n, fun i => ofPt (l_g i)⟩ : (L.Sq L.Pt)))
  | _ => none
abbrev p_Pockets_S : SE.Spec := (specR (Nat → L.Pocket) (fun _ => ⟨0, 0, 0⟩) p_Pockets_s)
def p_Pockets_C : Cfg := { muts := [4, 5, 7, 40], frz := lookN [], specs := lookS [(32, p_ValidOutline_S), (132, p_hull_S), (90, p_triples_S), (72, s_idxPt_S), (89, p_area_S), (134, p_pk1_S)], loops := fun _ => none, iters := lookI [(155, p_triples1_it)], rfs := lookR [], nils := lookM [(5, [(4, 68, 103, 3)])], trs := lookT [(133, s_sortK_tr)], ren := fun k => k - 937 }
theorem p_Pockets_vc (l : (L.Sq L.Pt)) (hp : p_Pockets_p l) : vc Tryz.prog ({ p_Pockets_C with loops := lookL [(11, { T := Nat × Int × Int, keep := [1, 4, 5, 8, 9, 10], keepO := [4, 5, 68], tie := fun g => [(8, .int .i64 g.2.1), (9, .int .i64 g.2.2)], chg := fun g => [(11, .p (.int .i64 (L.back l.n g.2.2 g.1)))], own := fun g => [(40, .row 42 2 (g.1 + 1) (fun j => [.int .i64 ((l.g (L.back l.n g.2.2 j).toNat).x), .int .i64 ((l.g (L.back l.n g.2.2 j).toNat).y)]))], inv := fun g => (0 ≤ g.2.1 ∧ g.2.1 < (l.n : Int)) ∧ (0 ≤ g.2.2 ∧ g.2.2 < (l.n : Int)) ∧ g.1 ≤ L.pkLen l.n g.2.1 g.2.2, mu := fun g => l.n - g.1 })], rfs := lookR [(6, { T := Nat, keep := [1, 4, 5], keepO := [5], own := fun k _ => [(4, .blk 96 [.row 68]), (68, .row 103 3 (L.cnt (L.isPk l (L.hull l)) k) (fun i => [.int .i64 ((L.pk l (L.hull l) (L.selN (L.isPk l (L.hull l)) k i)).fr), .int .i64 ((L.pk l (L.hull l) (L.selN (L.isPk l (L.hull l)) k i)).to_), .int .i64 ((L.pk l (L.hull l) (L.selN (L.isPk l (L.hull l)) k i)).area)]))], inv := fun k _ => k ≤ (L.hull l).n })] }) (bodyOf Tryz.f65) (st0 Tryz.f65 [.p (.sl 2 l.n (fun i => [.int .i64 ((l.g i).x), .int .i64 ((l.g i).y)]))]) (retRel Tryz.prog Tryz.f65 ((Nat → L.Pocket)) (p_Pockets_q l) (p_Pockets_r l)) :=
  @Eq.mpr _ (((∀ (i : Nat), i < l.n → [Go.SE.SV.int Go.IntKind.i64 (l.g i).x, Go.SE.SV.int Go.IntKind.i64 (l.g i).y] = [Go.SE.SV.int Go.IntKind.i64 (l.g i).x, Go.SE.SV.int Go.IntKind.i64 (l.g i).y]) ∧ l.n ≤ (1000000 : Nat)) ∧ ((!L.validOutline (L.Sq.mk l.n fun (i : Nat) ↦ l.g i)) = Bool.true → ∃ (t : Nat → L.Pocket), L.pkN l = (0 : Nat) ∧ ((1 : Int) = bif L.validOutline l then (0 : Int) else (1 : Int)) ∧
 (L.validOutline l = Bool.true → Go.SE.SortedBy L.cmpFr (L.pks l).n (L.pks l).g t)) ∧ ((!L.validOutline (L.Sq.mk l.n fun (i : Nat) ↦ l.g i)) = Bool.false → ((∀ (i : Nat), i < l.n → [Go.SE.SV.int Go.IntKind.i64 (l.g i).x, Go.SE.SV.int Go.IntKind.i64 (l.g i).y] = [Go.SE.SV.int Go.IntKind.i64 (l.g i).x, Go.SE.SV.int Go.IntKind.i64 (l.g i).y]) ∧ (2 : Nat) ≤ l.n ∧ l.n ≤ (1000 : Nat) ∧ ∀ (i : Nat), i <
 l.n → L.bd (l.g i)) ∧ ∀ (t : Nat), True → ((∀ (i : Nat), i < (L.hull (L.Sq.mk l.n fun (i : Nat) ↦ l.g i)).n → [Go.SE.SV.int Go.IntKind.i64 ((L.hull (L.Sq.mk l.n fun (i : Nat) ↦ l.g i)).g i).x, Go.SE.SV.int Go.IntKind.i64 ((L.hull (L.Sq.mk l.n fun (i : Nat) ↦ l.g i)).g i).y] = [Go.SE.SV.int Go.IntKind.i64 ((L.hull (L.Sq.mk l.n fun (i : Nat) ↦ l.g i)).g i).x, Go.SE.SV.int Go.IntKind.i64 ((L.hull
 (L.Sq.mk l.n fun (i : Nat) ↦ l.g i)).g i).y]) ∧ (L.hull (L.Sq.mk l.n fun (i : Nat) ↦ l.g i)).n ≤ (1000 : Nat)) ∧ (((∀ (i : Nat), i < (L.hull (L.Sq.mk l.n fun (i : Nat) ↦ l.g i)).n → [Go.SE.SV.int Go.IntKind.i64 ((L.hull (L.Sq.mk l.n fun (i : Nat) ↦ l.g i)).g i).x, Go.SE.SV.int Go.IntKind.i64 ((L.hull (L.Sq.mk l.n fun (i : Nat) ↦ l.g i)).g i).y] = [Go.SE.SV.int Go.IntKind.i64 ((L.hull (L.Sq.mk l.n
 fun (i : Nat) ↦ l.g i)).g i).x, Go.SE.SV.int Go.IntKind.i64 ((L.hull (L.Sq.mk l.n fun (i : Nat) ↦ l.g i)).g i).y]) ∧ (L.hull (L.Sq.mk l.n fun (i : Nat) ↦ l.g i)).n ≤ (1000 : Nat)) ∧ ∃ (t : Nat), (nat_lit 0 = L.cnt (L.isPk l (L.hull l)) (0 : Nat) ∧ ∀ (i : Nat), i < nat_lit 0 → [] = [Go.SE.SV.int Go.IntKind.i64 (L.pk l (L.hull l) (L.selN (L.isPk l (L.hull l)) (0 : Nat) i)).fr, Go.SE.SV.int
 Go.IntKind.i64 (L.pk l (L.hull l) (L.selN (L.isPk l (L.hull l)) (0 : Nat) i)).to_, Go.SE.SV.int Go.IntKind.i64 (L.pk l (L.hull l) (L.selN (L.isPk l (L.hull l)) (0 : Nat) i)).area]) ∧ (↑l.n : Int) = (↑l.n : Int) ∧ (0 : Nat) ≤ (L.hull l).n) ∧ (∀ (k t_1 : Nat) (vk : Nat → Go.Value), k < (L.hull (L.Sq.mk l.n fun (i : Nat) ↦ l.g i)).n → k ≤ (L.hull l).n → ((0 : Int) ≤ (1 : Int) ∧ (1 : Int) < (↑(3 :
 Nat) : Int)) ∧ ((∀ (i : Nat), i < l.n → [Go.SE.SV.int Go.IntKind.i64 (l.g i).x, Go.SE.SV.int Go.IntKind.i64 (l.g i).y] = [Go.SE.SV.int Go.IntKind.i64 (l.g i).x, Go.SE.SV.int Go.IntKind.i64 (l.g i).y]) ∧ l.n ≤ (1000000 : Nat)) ∧ ((0 : Int) ≤ (2 : Int) ∧ (2 : Int) < (↑(3 : Nat) : Int)) ∧ ((∀ (i : Nat), i < l.n → [Go.SE.SV.int Go.IntKind.i64 (l.g i).x, Go.SE.SV.int Go.IntKind.i64 (l.g i).y] =
 [Go.SE.SV.int Go.IntKind.i64 (l.g i).x, Go.SE.SV.int Go.IntKind.i64 (l.g i).y]) ∧ l.n ≤ (1000000 : Nat)) ∧ Go.SE.InK Go.IntKind.i64 (L.ptIdx (L.Sq.mk l.n fun (i : Nat) ↦ l.g i) ((L.hull (L.Sq.mk l.n fun (i : Nat) ↦ l.g i)).g (Int.toNat (↑k : Int))) + (1 : Int)) ∧ (↑l.n : Int) ≠ (0 : Int) ∧ (Decidable.decide (L.ptIdx (L.Sq.mk l.n fun (i : Nat) ↦ l.g i) ((L.hull (L.Sq.mk l.n fun (i : Nat) ↦ l.g
 i)).g (Int.toNat (Int.tmod ((↑k : Int) + (1 : Int)) (↑(L.hull (L.Sq.mk l.n fun (i : Nat) ↦ l.g i)).n : Int)))) = Int.tmod (L.ptIdx (L.Sq.mk l.n fun (i : Nat) ↦ l.g i) ((L.hull (L.Sq.mk l.n fun (i : Nat) ↦ l.g i)).g (Int.toNat (↑k : Int))) + (1 : Int)) (↑l.n : Int)) = Bool.true → ∃ (t' : Nat), nat_lit 0 = nat_lit 0 ∧ nat_lit 0 = nat_lit 0 ∧ Go.SE.SV.ref [Go.SE.SV.sl (nat_lit 2) l.n fun (i : Nat) ↦
 [Go.SE.SV.int Go.IntKind.i64 (l.g i).x, Go.SE.SV.int Go.IntKind.i64 (l.g i).y]] (nat_lit 0) = Go.SE.SV.ref [Go.SE.SV.sl (nat_lit 2) l.n fun (i : Nat) ↦ [Go.SE.SV.int Go.IntKind.i64 (l.g i).x, Go.SE.SV.int Go.IntKind.i64 (l.g i).y]] (nat_lit 0) ∧ vk (nat_lit 5) = vk (nat_lit 5) ∧ vk (nat_lit 4) = vk (nat_lit 4) ∧ vk (nat_lit 1) = vk (nat_lit 1) ∧ (L.cnt (L.isPk l (L.hull l)) k = L.cnt (L.isPk l
 (L.hull l)) (k + (1 : Nat)) ∧ ∀ (i : Nat), i < L.cnt (L.isPk l (L.hull l)) k → [Go.SE.SV.int Go.IntKind.i64 (L.pk l (L.hull l) (L.selN (L.isPk l (L.hull l)) k i)).fr, Go.SE.SV.int Go.IntKind.i64 (L.pk l (L.hull l) (L.selN (L.isPk l (L.hull l)) k i)).to_, Go.SE.SV.int Go.IntKind.i64 (L.pk l (L.hull l) (L.selN (L.isPk l (L.hull l)) k i)).area] = [Go.SE.SV.int Go.IntKind.i64 (L.pk l (L.hull l)
 (L.selN (L.isPk l (L.hull l)) (k + (1 : Nat)) i)).fr, Go.SE.SV.int Go.IntKind.i64 (L.pk l (L.hull l) (L.selN (L.isPk l (L.hull l)) (k + (1 : Nat)) i)).to_, Go.SE.SV.int Go.IntKind.i64 (L.pk l (L.hull l) (L.selN (L.isPk l (L.hull l)) (k + (1 : Nat)) i)).area]) ∧ (↑l.n : Int) = (↑l.n : Int) ∧ k + (1 : Nat) ≤ (L.hull l).n) ∧ (Decidable.decide (L.ptIdx (L.Sq.mk l.n fun (i : Nat) ↦ l.g i) ((L.hull
 (L.Sq.mk l.n fun (i : Nat) ↦ l.g i)).g (Int.toNat (Int.tmod ((↑k : Int) + (1 : Int)) (↑(L.hull (L.Sq.mk l.n fun (i : Nat) ↦ l.g i)).n : Int)))) = Int.tmod (L.ptIdx (L.Sq.mk l.n fun (i : Nat) ↦ l.g i) ((L.hull (L.Sq.mk l.n fun (i : Nat) ↦ l.g i)).g (Int.toNat (↑k : Int))) + (1 : Int)) (↑l.n : Int)) = Bool.false → ((0 : Int) ≤ L.ptIdx (L.Sq.mk l.n fun (i : Nat) ↦ l.g i) ((L.hull (L.Sq.mk l.n fun (i
 : Nat) ↦ l.g i)).g (Int.toNat (Int.tmod ((↑k : Int) + (1 : Int)) (↑(L.hull (L.Sq.mk l.n fun (i : Nat) ↦ l.g i)).n : Int)))) ∧ L.ptIdx (L.Sq.mk l.n fun (i : Nat) ↦ l.g i) ((L.hull (L.Sq.mk l.n fun (i : Nat) ↦ l.g i)).g (Int.toNat (Int.tmod ((↑k : Int) + (1 : Int)) (↑(L.hull (L.Sq.mk l.n fun (i : Nat) ↦ l.g i)).n : Int)))) < (↑l.n : Int)) ∧ (∃ (g : Nat × Int × Int), L.ptIdx (L.Sq.mk l.n fun (i :
 Nat) ↦ l.g i) ((L.hull (L.Sq.mk l.n fun (i : Nat) ↦ l.g i)).g (Int.toNat (Int.tmod ((↑k : Int) + (1 : Int)) (↑(L.hull (L.Sq.mk l.n fun (i : Nat) ↦ l.g i)).n : Int)))) = L.back l.n g.2.2 g.1 ∧ (nat_lit 1 = g.1 + (1 : Nat) ∧ ∀ (i : Nat), i < nat_lit 1 → Go.SE.rowsOf [Go.SE.SV.int Go.IntKind.i64 (l.g (Int.toNat (L.ptIdx (L.Sq.mk l.n fun (i : Nat) ↦ l.g i) ((L.hull (L.Sq.mk l.n fun (i : Nat) ↦ l.g
 i)).g (Int.toNat (Int.tmod ((↑k : Int) + (1 : Int)) (↑(L.hull (L.Sq.mk l.n fun (i : Nat) ↦ l.g i)).n : Int))))))).x, Go.SE.SV.int Go.IntKind.i64 (l.g (Int.toNat (L.ptIdx (L.Sq.mk l.n fun (i : Nat) ↦ l.g i) ((L.hull (L.Sq.mk l.n fun (i : Nat) ↦ l.g i)).g (Int.toNat (Int.tmod ((↑k : Int) + (1 : Int)) (↑(L.hull (L.Sq.mk l.n fun (i : Nat) ↦ l.g i)).n : Int))))))).y] (nat_lit 2) i = [Go.SE.SV.int
 Go.IntKind.i64 (l.g (Int.toNat (L.back l.n g.2.2 i))).x, Go.SE.SV.int Go.IntKind.i64 (l.g (Int.toNat (L.back l.n g.2.2 i))).y]) ∧ L.ptIdx (L.Sq.mk l.n fun (i : Nat) ↦ l.g i) ((L.hull (L.Sq.mk l.n fun (i : Nat) ↦ l.g i)).g (Int.toNat (↑k : Int))) = g.2.1 ∧ L.ptIdx (L.Sq.mk l.n fun (i : Nat) ↦ l.g i) ((L.hull (L.Sq.mk l.n fun (i : Nat) ↦ l.g i)).g (Int.toNat (Int.tmod ((↑k : Int) + (1 : Int))
 (↑(L.hull (L.Sq.mk l.n fun (i : Nat) ↦ l.g i)).n : Int)))) = g.2.2 ∧ ((0 : Int) ≤ g.2.1 ∧ g.2.1 < (↑l.n : Int)) ∧ ((0 : Int) ≤ g.2.2 ∧ g.2.2 < (↑l.n : Int)) ∧ g.1 ≤ L.pkLen l.n g.2.1 g.2.2) ∧ ∀ (g : Nat × Int × Int), L.ptIdx (L.Sq.mk l.n fun (i : Nat) ↦ l.g i) ((L.hull (L.Sq.mk l.n fun (i : Nat) ↦ l.g i)).g (Int.toNat (↑k : Int))) = g.2.1 ∧ L.ptIdx (L.Sq.mk l.n fun (i : Nat) ↦ l.g i) ((L.hull
 (L.Sq.mk l.n fun (i : Nat) ↦ l.g i)).g (Int.toNat (Int.tmod ((↑k : Int) + (1 : Int)) (↑(L.hull (L.Sq.mk l.n fun (i : Nat) ↦ l.g i)).n : Int)))) = g.2.2 ∧ ((0 : Int) ≤ g.2.1 ∧ g.2.1 < (↑l.n : Int)) ∧ ((0 : Int) ≤ g.2.2 ∧ g.2.2 < (↑l.n : Int)) ∧ g.1 ≤ L.pkLen l.n g.2.1 g.2.2 → ((!Decidable.decide (L.back l.n g.2.2 g.1 = L.ptIdx (L.Sq.mk l.n fun (i : Nat) ↦ l.g i) ((L.hull (L.Sq.mk l.n fun (i : Nat)
 ↦ l.g i)).g (Int.toNat (↑k : Int))))) = Bool.true → Go.SE.InK Go.IntKind.i64 (L.back l.n g.2.2 g.1 + (↑l.n : Int)) ∧ Go.SE.InK Go.IntKind.i64 (L.back l.n g.2.2 g.1 + (↑l.n : Int) - (1 : Int)) ∧ (↑l.n : Int) ≠ (0 : Int) ∧ ((0 : Int) ≤ Int.tmod (L.back l.n g.2.2 g.1 + (↑l.n : Int) - (1 : Int)) (↑l.n : Int) ∧ Int.tmod (L.back l.n g.2.2 g.1 + (↑l.n : Int) - (1 : Int)) (↑l.n : Int) < (↑l.n : Int)) ∧
 (g.1 + (1 : Nat) + nat_lit 1) * nat_lit 16 ≤ (140737488355328 : Nat) ∧ ∃ (g' : Nat × Int × Int), Int.tmod (L.back l.n g.2.2 g.1 + (↑l.n : Int) - (1 : Int)) (↑l.n : Int) = L.back l.n g'.2.2 g'.1 ∧ L.ptIdx (L.Sq.mk l.n fun (i : Nat) ↦ l.g i) ((L.hull (L.Sq.mk l.n fun (i : Nat) ↦ l.g i)).g (Int.toNat (Int.tmod ((↑k : Int) + (1 : Int)) (↑(L.hull (L.Sq.mk l.n fun (i : Nat) ↦ l.g i)).n : Int)))) =
 L.ptIdx (L.Sq.mk l.n fun (i : Nat) ↦ l.g i) ((L.hull (L.Sq.mk l.n fun (i : Nat) ↦ l.g i)).g (Int.toNat (Int.tmod ((↑k : Int) + (1 : Int)) (↑(L.hull (L.Sq.mk l.n fun (i : Nat) ↦ l.g i)).n : Int)))) ∧ L.ptIdx (L.Sq.mk l.n fun (i : Nat) ↦ l.g i) ((L.hull (L.Sq.mk l.n fun (i : Nat) ↦ l.g i)).g (Int.toNat (↑k : Int))) = L.ptIdx (L.Sq.mk l.n fun (i : Nat) ↦ l.g i) ((L.hull (L.Sq.mk l.n fun (i : Nat) ↦
 l.g i)).g (Int.toNat (↑k : Int))) ∧ nat_lit 0 = nat_lit 0 ∧ nat_lit 0 = nat_lit 0 ∧ Go.SE.SV.ref [Go.SE.SV.sl (nat_lit 2) l.n fun (i : Nat) ↦ [Go.SE.SV.int Go.IntKind.i64 (l.g i).x, Go.SE.SV.int Go.IntKind.i64 (l.g i).y]] (nat_lit 0) = Go.SE.SV.ref [Go.SE.SV.sl (nat_lit 2) l.n fun (i : Nat) ↦ [Go.SE.SV.int Go.IntKind.i64 (l.g i).x, Go.SE.SV.int Go.IntKind.i64 (l.g i).y]] (nat_lit 0) ∧ vk (nat_lit
 5) = vk (nat_lit 5) ∧ vk (nat_lit 4) = vk (nat_lit 4) ∧ vk (nat_lit 1) = vk (nat_lit 1) ∧ (g.1 + (1 : Nat) + nat_lit 1 = g'.1 + (1 : Nat) ∧ ∀ (i : Nat), i < g.1 + (1 : Nat) + nat_lit 1 → Go.SE.appGet (g.1 + (1 : Nat)) (fun (j : Nat) ↦ [Go.SE.SV.int Go.IntKind.i64 (l.g (Int.toNat (L.back l.n g.2.2 j))).x, Go.SE.SV.int Go.IntKind.i64 (l.g (Int.toNat (L.back l.n g.2.2 j))).y]) (fun (x : Nat) ↦
 [Go.SE.SV.int Go.IntKind.i64 (l.g (Int.toNat (Int.tmod (L.back l.n g.2.2 g.1 + (↑l.n : Int) - (1 : Int)) (↑l.n : Int)))).x, Go.SE.SV.int Go.IntKind.i64 (l.g (Int.toNat (Int.tmod (L.back l.n g.2.2 g.1 + (↑l.n : Int) - (1 : Int)) (↑l.n : Int)))).y]) i = [Go.SE.SV.int Go.IntKind.i64 (l.g (Int.toNat (L.back l.n g'.2.2 i))).x, Go.SE.SV.int Go.IntKind.i64 (l.g (Int.toNat (L.back l.n g'.2.2 i))).y]) ∧
 (L.cnt (L.isPk l (L.hull l)) k = L.cnt (L.isPk l (L.hull l)) k ∧ ∀ (i : Nat), i < L.cnt (L.isPk l (L.hull l)) k → [Go.SE.SV.int Go.IntKind.i64 (L.pk l (L.hull l) (L.selN (L.isPk l (L.hull l)) k i)).fr, Go.SE.SV.int Go.IntKind.i64 (L.pk l (L.hull l) (L.selN (L.isPk l (L.hull l)) k i)).to_, Go.SE.SV.int Go.IntKind.i64 (L.pk l (L.hull l) (L.selN (L.isPk l (L.hull l)) k i)).area] = [Go.SE.SV.int
 Go.IntKind.i64 (L.pk l (L.hull l) (L.selN (L.isPk l (L.hull l)) k i)).fr, Go.SE.SV.int Go.IntKind.i64 (L.pk l (L.hull l) (L.selN (L.isPk l (L.hull l)) k i)).to_, Go.SE.SV.int Go.IntKind.i64 (L.pk l (L.hull l) (L.selN (L.isPk l (L.hull l)) k i)).area]) ∧ (↑l.n : Int) = (↑l.n : Int) ∧ (L.ptIdx (L.Sq.mk l.n fun (i : Nat) ↦ l.g i) ((L.hull (L.Sq.mk l.n fun (i : Nat) ↦ l.g i)).g (Int.toNat (↑k : Int)))
 = g'.2.1 ∧ L.ptIdx (L.Sq.mk l.n fun (i : Nat) ↦ l.g i) ((L.hull (L.Sq.mk l.n fun (i : Nat) ↦ l.g i)).g (Int.toNat (Int.tmod ((↑k : Int) + (1 : Int)) (↑(L.hull (L.Sq.mk l.n fun (i : Nat) ↦ l.g i)).n : Int)))) = g'.2.2 ∧ ((0 : Int) ≤ g'.2.1 ∧ g'.2.1 < (↑l.n : Int)) ∧ ((0 : Int) ≤ g'.2.2 ∧ g'.2.2 < (↑l.n : Int)) ∧ g'.1 ≤ L.pkLen l.n g'.2.1 g'.2.2) ∧ l.n - g'.1 < l.n - g.1) ∧ ((!Decidable.decide
 (L.back l.n g.2.2 g.1 = L.ptIdx (L.Sq.mk l.n fun (i : Nat) ↦ l.g i) ((L.hull (L.Sq.mk l.n fun (i : Nat) ↦ l.g i)).g (Int.toNat (↑k : Int))))) = Bool.false → ((∀ (i : Nat), i < g.1 + (1 : Nat) → [Go.SE.SV.int Go.IntKind.i64 (l.g (Int.toNat (L.back l.n g.2.2 i))).x, Go.SE.SV.int Go.IntKind.i64 (l.g (Int.toNat (L.back l.n g.2.2 i))).y] = [Go.SE.SV.int Go.IntKind.i64 (l.g (Int.toNat (L.back l.n g.2.2
 i))).x, Go.SE.SV.int Go.IntKind.i64 (l.g (Int.toNat (L.back l.n g.2.2 i))).y]) ∧ L.small (L.Sq.mk (g.1 + (1 : Nat)) fun (i : Nat) ↦ l.g (Int.toNat (L.back l.n g.2.2 i)))) ∧ (L.cnt (L.isPk l (L.hull l)) k + nat_lit 1) * nat_lit 24 ≤ (140737488355328 : Nat) ∧ ∃ (t' : Nat), nat_lit 0 = nat_lit 0 ∧ nat_lit 0 = nat_lit 0 ∧ Go.SE.SV.ref [Go.SE.SV.sl (nat_lit 2) l.n fun (i : Nat) ↦ [Go.SE.SV.int
 Go.IntKind.i64 (l.g i).x, Go.SE.SV.int Go.IntKind.i64 (l.g i).y]] (nat_lit 0) = Go.SE.SV.ref [Go.SE.SV.sl (nat_lit 2) l.n fun (i : Nat) ↦ [Go.SE.SV.int Go.IntKind.i64 (l.g i).x, Go.SE.SV.int Go.IntKind.i64 (l.g i).y]] (nat_lit 0) ∧ vk (nat_lit 5) = vk (nat_lit 5) ∧ vk (nat_lit 4) = vk (nat_lit 4) ∧ vk (nat_lit 1) = vk (nat_lit 1) ∧ (L.cnt (L.isPk l (L.hull l)) k + nat_lit 1 = L.cnt (L.isPk l
 (L.hull l)) (k + (1 : Nat)) ∧ ∀ (i : Nat), i < L.cnt (L.isPk l (L.hull l)) k + nat_lit 1 → Go.SE.appGet (L.cnt (L.isPk l (L.hull l)) k) (fun (i : Nat) ↦ [Go.SE.SV.int Go.IntKind.i64 (L.pk l (L.hull l) (L.selN (L.isPk l (L.hull l)) k i)).fr, Go.SE.SV.int Go.IntKind.i64 (L.pk l (L.hull l) (L.selN (L.isPk l (L.hull l)) k i)).to_, Go.SE.SV.int Go.IntKind.i64 (L.pk l (L.hull l) (L.selN (L.isPk l
 (L.hull l)) k i)).area]) (fun (x : Nat) ↦ [Go.SE.SV.int Go.IntKind.i64 (L.ptIdx (L.Sq.mk l.n fun (i : Nat) ↦ l.g i) ((L.hull (L.Sq.mk l.n fun (i : Nat) ↦ l.g i)).g (Int.toNat (↑k : Int)))), Go.SE.SV.int Go.IntKind.i64 (L.ptIdx (L.Sq.mk l.n fun (i : Nat) ↦ l.g i) ((L.hull (L.Sq.mk l.n fun (i : Nat) ↦ l.g i)).g (Int.toNat (Int.tmod ((↑k : Int) + (1 : Int)) (↑(L.hull (L.Sq.mk l.n fun (i : Nat) ↦ l.g
 i)).n : Int))))), Go.SE.SV.int Go.IntKind.i64 (L.areaTo (L.Sq.mk (g.1 + (1 : Nat)) fun (i : Nat) ↦ l.g (Int.toNat (L.back l.n g.2.2 i))) (g.1 + (1 : Nat)))]) i = [Go.SE.SV.int Go.IntKind.i64 (L.pk l (L.hull l) (L.selN (L.isPk l (L.hull l)) (k + (1 : Nat)) i)).fr, Go.SE.SV.int Go.IntKind.i64 (L.pk l (L.hull l) (L.selN (L.isPk l (L.hull l)) (k + (1 : Nat)) i)).to_, Go.SE.SV.int Go.IntKind.i64 (L.pk
 l (L.hull l) (L.selN (L.isPk l (L.hull l)) (k + (1 : Nat)) i)).area]) ∧ (↑l.n : Int) = (↑l.n : Int) ∧ k + (1 : Nat) ≤ (L.hull l).n))) ∧ ∀ (t : Nat), (L.hull (L.Sq.mk l.n fun (i : Nat) ↦ l.g i)).n ≤ (L.hull l).n → ∃ (t : Nat × (Nat → L.Pocket)), Go.SE.SV.clo (nat_lit 134) [] = Go.SE.SV.clo (134 : Nat) [] ∧ (L.cnt (L.isPk l (L.hull l)) (L.hull (L.Sq.mk l.n fun (i : Nat) ↦ l.g i)).n = t.1 ∧ ∀ (i :
 Nat), i < L.cnt (L.isPk l (L.hull l)) (L.hull (L.Sq.mk l.n fun (i : Nat) ↦ l.g i)).n → [Go.SE.SV.int Go.IntKind.i64 (L.pk l (L.hull l) (L.selN (L.isPk l (L.hull l)) (L.hull (L.Sq.mk l.n fun (i : Nat) ↦ l.g i)).n i)).fr, Go.SE.SV.int Go.IntKind.i64 (L.pk l (L.hull l) (L.selN (L.isPk l (L.hull l)) (L.hull (L.Sq.mk l.n fun (i : Nat) ↦ l.g i)).n i)).to_, Go.SE.SV.int Go.IntKind.i64 (L.pk l (L.hull l)
 (L.selN (L.isPk l (L.hull l)) (L.hull (L.Sq.mk l.n fun (i : Nat) ↦ l.g i)).n i)).area] = [Go.SE.SV.int Go.IntKind.i64 (t.2 i).fr, Go.SE.SV.int Go.IntKind.i64 (t.2 i).to_, Go.SE.SV.int Go.IntKind.i64 (t.2 i).area]) ∧ t.1 ≤ (1000000 : Nat) ∧ ∀ (u : Nat → L.Pocket), Go.SE.SortedBy L.cmpFr t.1 t.2 u → ∃ (t_1 : Nat → L.Pocket), (t.1 = L.pkN l ∧ ∀ (i : Nat), i < t.1 → [Go.SE.SV.int Go.IntKind.i64 (u
 i).fr, Go.SE.SV.int Go.IntKind.i64 (u i).to_, Go.SE.SV.int Go.IntKind.i64 (u i).area] = [Go.SE.SV.int Go.IntKind.i64 (t_1 i).fr, Go.SE.SV.int Go.IntKind.i64 (t_1 i).to_, Go.SE.SV.int Go.IntKind.i64 (t_1 i).area]) ∧ ((0 : Int) = bif L.validOutline l then (0 : Int) else (1 : Int)) ∧ (L.validOutline l = Bool.true → Go.SE.SortedBy L.cmpFr (L.pks l).n (L.pks l).g t_1))) (by kernel_rfl) (by
    have hn : l.n ≤ 1000000 := hp
    refine ⟨⟨fun _ _ => rfl, hn⟩, fun h => ?_, fun h => ?_⟩
    · have hv : L.validOutline l = false := by simpa using (show (!L.validOutline l) = true from h)
      unfold L.pkN
      rw [hv]; exact ⟨fun _ => ⟨0, 0, 0⟩, rfl, rfl, fun h => (by cases h)⟩
    have hv : L.validOutline l = true := by simpa using (show (!L.validOutline l) = false from h)
    obtain ⟨n3, n24, hsm, hbd⟩ := validOutline_of hv
    have hHN : (L.hull l).n ≤ 1000 := by
      have cl : ∀ m : L.Sq L.Pt, (L.chain m).n ≤ m.n := fun m => by
        have := chainTo_len m m.n
        show (L.chainTo m m.n).length - 1 ≤ m.n
        omega
      have c1 : (L.chain (L.sorted l)).n ≤ l.n := cl (L.sorted l)
      have c2 : (L.chain (L.revd (L.sorted l))).n ≤ l.n := cl (L.revd (L.sorted l))
      show 0 + (L.chain (L.sorted l)).n + (L.chain (L.revd (L.sorted l))).n ≤ 1000
      omega
    have hck : ∀ k, L.cnt (L.isPk l (L.hull l)) k ≤ k := fun k => cnt_le
    refine ⟨⟨fun _ _ => rfl, by omega, by omega, hbd.2⟩, fun t _ => ⟨⟨fun _ _ => rfl, hHN⟩, ⟨⟨fun _ _ => rfl, hHN⟩, (0 : Nat), ⟨rfl, fun i hi => absurd hi (Nat.not_lt_zero _)⟩, rfl, Nat.zero_le _⟩, fun k t1 vk hk hk' => ?_, fun t _ => ?_⟩⟩
    · have hk : k < (L.hull l).n := hk
      have e0 : ((k : Int)).toNat = k := by omega
      have e1 : (Int.tmod ((k : Int) + 1) ((L.hull l).n : Int)).toNat = L.next (L.hull l).n k := rfl
      have hf := pk_idx (l := l) hk
      have ht := pk_idx (l := l) (k := L.next (L.hull l).n k) (next_lt (by omega))
      have eF : L.ptIdx l ((L.hull l).g k) = L.pkFrom l (L.hull l) k := rfl
      have eT : L.ptIdx l ((L.hull l).g (L.next (L.hull l).n k)) = L.pkTo l (L.hull l) k := rfl
      rw [eF] at hf
      rw [eT] at ht
      rw [e0, e1, eF, eT]
      have hkk := hck k
      refine ⟨⟨by decide, by decide⟩, ⟨fun _ _ => rfl, hn⟩, ⟨by decide, by decide⟩, ⟨fun _ _ => rfl, hn⟩, InK.of (by omega) (by omega), by omega, fun hc => ?_, fun hc => ?_⟩
      · have hp : L.isPk l (L.hull l) k = false := by unfold L.isPk; rw [hc]; rfl
        refine ⟨(0 : Nat), rfl, rfl, rfl, rfl, rfl, rfl, ⟨(cnt_not hp).symm, fun i hi => ?_⟩, rfl, by omega⟩
        rw [selN_not hp]
      have hp : L.isPk l (L.hull l) k = true := by unfold L.isPk; rw [hc]; rfl
      refine ⟨ht, ⟨(0, L.pkFrom l (L.hull l) k, L.pkTo l (L.hull l) k), (back_0 ht.1 ht.2).symm, ⟨rfl, fun i hi => ?_⟩, rfl, rfl, hf, ht, Nat.zero_le _⟩, fun g hg => ?_⟩
      · have hi : i < 1 := hi
        obtain rfl : i = 0 := by omega
        dsimp only
        rw [back_0 ht.1 ht.2]; rfl
      obtain ⟨j, fr, to_⟩ := g
      dsimp only at hg ⊢
      obtain ⟨e2, e3, _, _, hj⟩ := hg
      rw [← e2, ← e3] at *
      have hlen := back_end hf.1 hf.2 ht.1 ht.2 hj
      have hb := back_bd (n := l.n) (by omega) ht.1 (j := j) (by omega)
      refine ⟨fun hd => ?_, fun hd => ?_⟩
      · have hd : L.back l.n (L.pkTo l (L.hull l) k) j ≠ L.pkFrom l (L.hull l) k := fun e => by
          rw [decide_eq_true e] at hd; cases hd
        have hne : j ≠ L.pkLen l.n (L.pkFrom l (L.hull l) k) (L.pkTo l (L.hull l) k) := fun e => hd (hlen.1.2 e)
        have hs := back_succ (n := l.n) (by omega) ht.1 (j := j) (by omega)
        have hb2 := back_bd (n := l.n) (by omega) ht.1 (j := j + 1) (by omega)
        rw [hs]
        refine ⟨InK.of (by omega) (by omega), InK.of (by omega) (by omega), by omega, hb2, show (j + 1 + 1) * 16 ≤ 140737488355328 by omega, (j + 1, L.pkFrom l (L.hull l) k, L.pkTo l (L.hull l) k), rfl, rfl, rfl, rfl, rfl, rfl, rfl, rfl, rfl, ⟨rfl, fun i hi => ?_⟩, ⟨rfl, fun _ _ => rfl⟩, rfl, ⟨rfl, rfl, hf, ht, by show j + 1 ≤ L.pkLen l.n (L.pkFrom l (L.hull l) k) (L.pkTo l (L.hull l) k); omega⟩, by show l.n - (j + 1) < l.n - j; omega⟩
        have hi : i < j + 1 + 1 := hi
        unfold appGet
        by_cases h' : i < j + 1
        · rw [if_pos h']
        · rw [if_neg h']
          obtain rfl : i = j + 1 := by omega
          rfl
      · have hd : L.back l.n (L.pkTo l (L.hull l) k) j = L.pkFrom l (L.hull l) k := by
          apply Decidable.byContradiction
          intro e
          rw [decide_eq_false e] at hd; cases hd
        have hje := hlen.1.1 hd
        have hrow : (L.Sq.mk (j + 1) fun (i : Nat) => l.g (L.back l.n (L.pkTo l (L.hull l) k) i).toNat) = L.pkRow l (L.pkFrom l (L.hull l) k) (L.pkTo l (L.hull l) k) := by
          rw [hje]; rfl
        have hj1 : j + 1 = (L.pkRow l (L.pkFrom l (L.hull l) k) (L.pkTo l (L.hull l) k)).n := by rw [← hrow]
        rw [hrow, hj1]
        refine ⟨⟨fun _ _ => rfl, pkRow_small hsm (by omega) hf.1 hf.2 ht.1 ht.2⟩, show (L.cnt (L.isPk l (L.hull l)) k + 1) * 24 ≤ 140737488355328 by omega, (0 : Nat), rfl, rfl, rfl, rfl, rfl, rfl, ⟨(cnt_yes hp).symm, fun i hi => ?_⟩, rfl, by omega⟩
        have hi : i < L.cnt (L.isPk l (L.hull l)) k + 1 := hi
        unfold appGet
        by_cases h' : i < L.cnt (L.isPk l (L.hull l)) k
        · rw [if_pos h', selN_old (Nat.ne_of_lt h')]
        · rw [if_neg h']
          obtain rfl : i = L.cnt (L.isPk l (L.hull l)) k := by omega
          rw [selN_new hp]; rfl
    · have hcn := hck (L.hull l).n
      refine ⟨((L.pks l).n, (L.pks l).g), rfl, ⟨rfl, fun _ _ => rfl⟩, show L.cnt (L.isPk l (L.hull l)) (L.hull l).n ≤ 1000000 by omega, fun u hu => ⟨u, ⟨?_, fun _ _ => rfl⟩, ?_, fun _ => hu⟩⟩
      · unfold L.pkN; rw [hv]; rfl
      · rw [hv]; rfl)
theorem p_Pockets_ok : SpecOk Tryz.prog 65 p_Pockets_S := relX Tryz.func65 (c := bodyOf Tryz.f65) (by kernel_rfl) mixed (fun args p q r hs hp => by
  unfold p_Pockets_s at hs
  split at hs
  · cases hs; exact ⟨_, _, p_Pockets_vc _ hp.2, (.p (.sl hp.1) .nil), ⟨show SpecsL Tryz.prog _ from (SpecsL.cons p_ValidOutline_ok p_ValidOutline_en (SpecsL.cons p_hull_ok p_hull_en (SpecsL.cons p_triples_ok p_triples_en (SpecsL.cons s_idxPt_ok s_idxPt_en (SpecsL.cons p_area_ok p_area_en (SpecsL.cons p_pk1_ok p_pk1_en SpecsL.nil)))))), rfl, ⟨show ItersL Tryz.prog _ from (ItersL.cons p_triples1_itok p_triples1_en ItersL.nil), (show TrsL Tryz.prog _ from (TrsL.cons s_sortK_tok s_sortK_en TrsL.nil))⟩⟩⟩
  · cases hs)
theorem p_Pockets_en : Enters Tryz.prog 65 := fun args w => by kernel_rfl
end Go.Proofs.YtooapgllahonaaaGreat

namespace Go.Proofs.YtooapgllahonaaaGreat
open Go.SE Go.RowKit
set_option maxRecDepth 100000
set_option maxHeartbeats 4000000
set_option linter.unusedVariables false
attribute [local irreducible] Go.SE.vc

def L.gcd (a b : Int) : Int := ((Nat.gcd a.natAbs b.natAbs : Nat) : Int)
def L.ng (x y : Nat) : Nat := Nat.gcd x y
def L.nabs (a : Int) : Nat := a.natAbs
def L.hit (d n : L.Pt) : Bool := decide (0 < d.x * n.x + d.y * n.y)
def L.free (d : L.Pt) (N : L.Sq L.Pt) : Bool := !L.anyB N.n (fun i => L.hit d (N.g i))
def L.isNrm (p : L.Pt) : Bool := !(decide (p.x = 0) && decide (p.y = 0)) && (L.within p.x (-4096) 4096 && L.within p.y (-4096) 4096)
def L.nrms (N : L.Sq L.Pt) : Prop := N.n ≤ 1000000 ∧ ∀ i, i < N.n → L.isNrm (N.g i) = true
def L.dir (p : L.Pt) (s : Nat) : L.Pt := bif decide (s = 0) then ⟨Int.tdiv (0 - p.y) (L.gcd p.x p.y), Int.tdiv p.x (L.gcd p.x p.y)⟩ else ⟨Int.tdiv p.y (L.gcd p.x p.y), Int.tdiv (0 - p.x) (L.gcd p.x p.y)⟩
def L.cand (N : L.Sq L.Pt) (c : Nat) : L.Pt := L.dir (N.g (c / 2)) (c % 2)
def L.wayI (N : L.Sq L.Pt) : Int := L.idx (2 * N.n) (fun c => L.free (L.cand N c) N)
def L.wayOk (N : L.Sq L.Pt) : Bool := decide (N.n = 0) || decide (0 ≤ L.wayI N)
def L.wayD (N : L.Sq L.Pt) : L.Pt := bif decide (N.n = 0) then ⟨1, 0⟩ else bif decide (0 ≤ L.wayI N) then L.cand N (L.wayI N).toNat else ⟨0, 0⟩
theorem isNrm_of {p : L.Pt} (h : L.isNrm p = true) : ((-4096 ≤ p.x ∧ p.x ≤ 4096) ∧ (-4096 ≤ p.y ∧ p.y ≤ 4096)) ∧ 1 ≤ L.gcd p.x p.y ∧ L.bd p := by
  unfold L.isNrm L.within at h
  simp only [Bool.and_eq_true, Bool.not_eq_true', Bool.and_eq_false_iff, decide_eq_true_eq, decide_eq_false_iff_not] at h
  obtain ⟨h1, h2, h3⟩ := h
  have hg : 0 < Nat.gcd p.x.natAbs p.y.natAbs := by
    rcases h1 with h1 | h1
    · exact Nat.gcd_pos_of_pos_left _ (by omega)
    · exact Nat.gcd_pos_of_pos_right _ (by omega)
  refine ⟨⟨h2, h3⟩, ?_, ?_⟩
  · unfold L.gcd; omega
  · unfold L.bd; omega
theorem tdiv_bd {a g : Int} (h0 : -4096 ≤ a) (h1 : a ≤ 4096) (hg : 1 ≤ g) : -4096 ≤ Int.tdiv a g ∧ Int.tdiv a g ≤ 4096 := by
  have h : (Int.tdiv a g).natAbs = a.natAbs / g.natAbs := Int.natAbs_tdiv a g
  have h2 : a.natAbs / g.natAbs ≤ a.natAbs := Nat.div_le_self _ _
  omega
theorem cand_eq (N : L.Sq L.Pt) (g : Nat) {s : Nat} (h : s < 2) : L.cand N (2 * g + s) = L.dir (N.g g) s := by
  unfold L.cand
  rw [show (2 * g + s) / 2 = g by omega, show (2 * g + s) % 2 = s by omega]
theorem way_at {N : L.Sq L.Pt} {c : Nat} (h0 : ∀ j, j < c → L.free (L.cand N j) N = false) (hi : L.free (L.cand N c) N = true) (hc : c < 2 * N.n) : L.wayD N = L.cand N c ∧ L.wayOk N = true := by
  have e : L.wayI N = (c : Int) := idx_at (f := fun c => L.free (L.cand N c) N) h0 hi hc
  have hd : decide (N.n = 0) = false := decide_eq_false (by omega)
  unfold L.wayD L.wayOk
  rw [e, hd, decide_eq_true (show (0 : Int) ≤ (c : Int) by omega)]
  exact ⟨by show L.cand N (c : Int).toNat = _; rw [Int.toNat_natCast], rfl⟩
theorem way_no {N : L.Sq L.Pt} (h1 : 0 < N.n) (h0 : ∀ j, j < 2 * N.n → L.free (L.cand N j) N = false) : L.wayD N = ⟨0, 0⟩ ∧ L.wayOk N = false := by
  have e : L.wayI N = -1 := idx_none (f := fun c => L.free (L.cand N c) N) h0
  have hd : decide (N.n = 0) = false := decide_eq_false (by omega)
  unfold L.wayD L.wayOk
  rw [e, hd]
  exact ⟨rfl, rfl⟩
theorem way_0 {N : L.Sq L.Pt} (h : N.n = 0) : L.wayD N = ⟨1, 0⟩ ∧ L.wayOk N = true := by
  unfold L.wayD L.wayOk
  rw [decide_eq_true h]
  exact ⟨rfl, rfl⟩
theorem dir_bd {p : L.Pt} (h : L.isNrm p = true) (s : Nat) : L.bd (L.dir p s) := by
  obtain ⟨⟨⟨a1, a2⟩, b1, b2⟩, hg, _⟩ := isNrm_of h
  have t1 := tdiv_bd (a := p.x) (g := L.gcd p.x p.y) a1 a2 hg
  have t2 := tdiv_bd (a := p.y) (g := L.gcd p.x p.y) b1 b2 hg
  have t3 := tdiv_bd (a := 0 - p.x) (g := L.gcd p.x p.y) (by omega) (by omega) hg
  have t4 := tdiv_bd (a := 0 - p.y) (g := L.gcd p.x p.y) (by omega) (by omega) hg
  unfold L.dir
  cases decide (s = 0)
  · unfold L.bd; simp only [cond_false]; omega
  · unfold L.bd; simp only [cond_true]; omega
def p_gcd_p (a : Int) (b : Int) : Prop := (-4611686018427387904 ≤ a ∧ a ≤ 4611686018427387904) ∧ -4611686018427387904 ≤ b ∧ b ≤ 4611686018427387904
def p_gcd_r (a : Int) (b : Int) : SV := .int .i64 (L.gcd a b)
def p_gcd_s : List EV → Option (Prop × SV)
  | [.p (.int .i64 a), .p (.int .i64 b)] => some (p_gcd_p a b, p_gcd_r a b)
  | _ => none
abbrev p_gcd_S : SE.Spec := (specO p_gcd_s)
def p_gcd_C : Cfg := { muts := [], frz := lookN [], specs := lookS [], loops := fun _ => none, iters := lookI [], rfs := lookR [], nils := lookM [] }
theorem p_gcd_vc (a : Int) (b : Int) (hp : p_gcd_p a b) : vc Tryz.prog ({ p_gcd_C with loops := lookL [(2, { T := Nat × Nat, keep := [], keepO := [], chg := fun g => [(0, .p (.int .i64 (g.1 : Int))), (1, .p (.int .i64 (g.2 : Int)))], own := fun _ => [], inv := fun g => L.ng g.1 g.2 = L.ng (L.nabs a) (L.nabs b) ∧ g.1 ≤ 4611686018427387904 ∧ g.2 ≤ 4611686018427387904, mu := fun g => g.2 })], rfs := lookR [] }) (bodyOf Tryz.f96) (st0 Tryz.f96 [.p (.int .i64 a), .p (.int .i64 b)]) (retFn Tryz.prog Tryz.f96 (p_gcd_r a b)) :=
  @Eq.mpr _ (Go.SE.InK Go.IntKind.i64 ((0 : Int) - a) ∧ Go.SE.InK Go.IntKind.i64 ((0 : Int) - b) ∧ (∃ (g : Nat × Nat), Max.max a ((0 : Int) - a) = (↑g.1 : Int) ∧ Max.max b ((0 : Int) - b) = (↑g.2 : Int) ∧ L.ng g.1 g.2 = L.ng (L.nabs a) (L.nabs b) ∧ g.1 ≤ (4611686018427387904 : Nat) ∧ g.2 ≤ (4611686018427387904 : Nat)) ∧ ∀ (g : Nat × Nat), L.ng g.1 g.2 = L.ng (L.nabs a) (L.nabs b) ∧ g.1 ≤ (4611686018427387904 :
 Nat) ∧ g.2 ≤ (4611686018427387904 : Nat) → (Decidable.decide ((0 : Int) < (↑g.2 : Int)) = Bool.true → (↑g.2 : Int) ≠ (0 : Int) ∧ ∃ (g' : Nat × Nat), (↑g.2 : Int) = (↑g'.1 : Int) ∧ Int.tmod (↑g.1 : Int) (↑g.2 : Int) = (↑g'.2 : Int) ∧ (L.ng g'.1 g'.2 = L.ng (L.nabs a) (L.nabs b) ∧ g'.1 ≤ (4611686018427387904 : Nat) ∧ g'.2 ≤ (4611686018427387904 : Nat)) ∧ g'.2 < g.2) ∧ (Decidable.decide ((0 : Int) <
 (↑g.2 : Int)) = Bool.false → (↑g.1 : Int) = L.gcd a b)) (by kernel_rfl) (by
    obtain ⟨⟨a1, a2⟩, b1, b2⟩ := hp
    refine ⟨InK.of (by omega) (by omega), InK.of (by omega) (by omega), ⟨(a.natAbs, b.natAbs), by show max a (0 - a) = ((a.natAbs : Nat) : Int); omega, by show max b (0 - b) = ((b.natAbs : Nat) : Int); omega, rfl, by show a.natAbs ≤ 4611686018427387904; omega, by show b.natAbs ≤ 4611686018427387904; omega⟩, ?_⟩
    rintro ⟨x, y⟩ ⟨h1, h2, h3⟩
    have h1 : Nat.gcd x y = Nat.gcd a.natAbs b.natAbs := h1
    have h2 : x ≤ 4611686018427387904 := h2
    have h3 : y ≤ 4611686018427387904 := h3
    refine ⟨fun hd => ?_, fun hd => ?_⟩
    · have hd : (0 : Int) < (y : Int) := of_decide_eq_true hd
      have hm : x % y < y := Nat.mod_lt _ (by omega)
      refine ⟨by show (y : Int) ≠ 0; omega, (y, x % y), rfl, rfl, ⟨?_, h3, by show x % y ≤ 4611686018427387904; omega⟩, hm⟩
      show Nat.gcd y (x % y) = Nat.gcd a.natAbs b.natAbs
      rw [← h1, Nat.gcd_comm y (x % y), ← Nat.gcd_rec y x, Nat.gcd_comm y x]
    · have hd : ¬ (0 : Int) < (y : Int) := of_decide_eq_false hd
      obtain rfl : y = 0 := by omega
      rw [Nat.gcd_zero_right] at h1
      show (x : Int) = L.gcd a b
      unfold L.gcd
      rw [h1])
theorem p_gcd_ok : SpecOk Tryz.prog 96 p_gcd_S := fnX Tryz.func96 (c := bodyOf Tryz.f96) (by kernel_rfl) mixed (fun args p r hs hp => by
  unfold p_gcd_s at hs
  split at hs
  · cases hs; exact ⟨_, _, p_gcd_vc _ _ hp, (.same _ (.same _ .nil)), ⟨show SpecsL Tryz.prog _ from SpecsL.nil, rfl, ⟨show ItersL Tryz.prog _ from ItersL.nil, (TrsOk.none (fun _ => rfl))⟩⟩⟩
  · cases hs)
theorem p_gcd_en : Enters Tryz.prog 96 := fun args w => by kernel_rfl
theorem p_gcd_I : ∀ args p r, p_gcd_s args = some (p, r) → ∃ n, r = .int .i64 n := by
  intro args p r h
  unfold p_gcd_s at h
  split at h
  · cases h; exact ⟨_, rfl⟩
  · cases h
def p_free1_p (n : L.Pt) (d : L.Pt) : Prop := L.bd n ∧ L.bd d
def p_free1_r (n : L.Pt) (d : L.Pt) : SV := .bool (L.hit d n)
def p_free1_s : List EV → Option (Prop × SV)
  | [.p (.agg [.int .i64 n_x, .int .i64 n_y]), .p (.ref [.int .i64 d_x, .int .i64 d_y] 0)] => some (p_free1_p (⟨n_x, n_y⟩ : L.Pt) (⟨d_x, d_y⟩ : L.Pt), p_free1_r (⟨n_x, n_y⟩ : L.Pt) (⟨d_x, d_y⟩ : L.Pt))
  | _ => none
abbrev p_free1_S : SE.Spec := (specO p_free1_s)
def p_free1_C : Cfg := { muts := [], frz := lookN [], specs := lookS [], loops := lookL [], iters := lookI [], rfs := lookR [], nils := lookM [] }
theorem p_free1_vc (n : L.Pt) (d : L.Pt) (hp : p_free1_p n d) : vc Tryz.prog (p_free1_C) (bodyOf Tryz.f212) (st0 Tryz.f212 [.p (.agg [.int .i64 n.x, .int .i64 n.y]), .p (.ref [.int .i64 d.x, .int .i64 d.y] 0)]) (retFn Tryz.prog Tryz.f212 (p_free1_r n d)) :=
  @Eq.mpr _ (Go.SE.InK Go.IntKind.i64 (d.x * n.x) ∧ Go.SE.InK Go.IntKind.i64 (d.y * n.y) ∧ Go.SE.InK Go.IntKind.i64 (d.x * n.x + d.y * n.y) ∧ Decidable.decide ((0 : Int) < d.x * n.x + d.y * n.y) = L.hit d n) (by kernel_rfl) (by
    obtain ⟨h1, h2⟩ := hp
    unfold L.bd at h1 h2
    have m1 := mul_bd (a := d.x) (b := n.x) (m := 4000000) (n := 4000000) (by omega) (by omega) (by omega) (by omega)
    have m2 := mul_bd (a := d.y) (b := n.y) (m := 4000000) (n := 4000000) (by omega) (by omega) (by omega) (by omega)
    exact ⟨InK.of (by omega) (by omega), InK.of (by omega) (by omega), InK.of (by omega) (by omega), rfl⟩)
theorem p_free1_ok : SpecOk Tryz.prog 212 p_free1_S := fnX Tryz.func212 (c := bodyOf Tryz.f212) (by kernel_rfl) mixed (fun args p r hs hp => by
  unfold p_free1_s at hs
  split at hs
  · cases hs; exact ⟨_, _, p_free1_vc _ _ hp, (.same _ (.same _ .nil)), ⟨show SpecsL Tryz.prog _ from SpecsL.nil, rfl, ⟨show ItersL Tryz.prog _ from ItersL.nil, (TrsOk.none (fun _ => rfl))⟩⟩⟩
  · cases hs)
theorem p_free1_en : Enters Tryz.prog 212 := fun args w => by kernel_rfl
theorem p_free1_B : ∀ args p r, p_free1_s args = some (p, r) → ∃ b, r = .bool b := by
  intro args p r h
  unfold p_free1_s at h
  split at h
  · cases h; exact ⟨_, rfl⟩
  · cases h
def p_free_p (d : L.Pt) (l : (L.Sq L.Pt)) : Prop := l.n ≤ 1000000 ∧ L.bd d ∧ ∀ i, i < l.n → L.bd (l.g i)
def p_free_r (d : L.Pt) (l : (L.Sq L.Pt)) : SV := .bool (L.free d l)
def p_free_s : List EV → Option (Prop × SV)
  | [.p (.agg [.int .i64 d_x, .int .i64 d_y]), .p (.sl 2 l_n l_g)] => some ((∀ i, i < l_n → l_g i = [.int .i64 ((ofPt (l_g i)).x), .int .i64 ((ofPt (l_g i)).y)]) ∧ p_free_p (⟨d_x, d_y⟩ : L.Pt) (⟨l_n, fun i => ofPt (l_g i)⟩ : (L.Sq L.Pt)), p_free_r (⟨d_x, d_y⟩ : L.Pt) (⟨l_n, fun i => ofPt (l_g i)⟩ : (L.Sq L.Pt)))
  | _ => none
abbrev p_free_S : SE.Spec := (specO p_free_s)
def p_free_C : Cfg := { muts := [], frz := lookN [], specs := lookS [(136, s_conFP_S), (212, p_free1_S)], loops := lookL [], iters := lookI [], rfs := lookR [], nils := lookM [] }
theorem p_free_vc (d : L.Pt) (l : (L.Sq L.Pt)) (hp : p_free_p d l) : vc Tryz.prog (p_free_C) (bodyOf Tryz.f185) (st0 Tryz.f185 [.p (.agg [.int .i64 d.x, .int .i64 d.y]), .p (.sl 2 l.n (fun i => [.int .i64 ((l.g i).x), .int .i64 ((l.g i).y)]))]) (retFn Tryz.prog Tryz.f185 (p_free_r d l)) :=
  @Eq.mpr _ (((∀ (i : Nat), i < l.n → [Go.SE.SV.int Go.IntKind.i64 (l.g i).x, Go.SE.SV.int Go.IntKind.i64 (l.g i).y] = [Go.SE.SV.int Go.IntKind.i64 (l.g i).x, Go.SE.SV.int Go.IntKind.i64 (l.g i).y]) ∧ Go.SE.isB (Go.SE.FSpec.mk (fun («as» : List Go.SE.SV) ↦ Go.SE.preO p_free1_s (List.map Go.SE.EV.p «as» ++ List.map Go.SE.EV.p [Go.SE.SV.ref [Go.SE.SV.int Go.IntKind.i64 d.x, Go.SE.SV.int Go.IntKind.i64 d.y]
 (nat_lit 0)])) fun («as» : List Go.SE.SV) ↦ Go.SE.resO p_free1_s (List.map Go.SE.EV.p «as» ++ List.map Go.SE.EV.p [Go.SE.SV.ref [Go.SE.SV.int Go.IntKind.i64 d.x, Go.SE.SV.int Go.IntKind.i64 d.y] (nat_lit 0)])) ∧ l.n ≤ (1000000 : Nat) ∧ ∀ (i : Nat), i < l.n → L.bd (l.g i) ∧ L.bd d) ∧ (!L.anyB l.n fun (i : Nat) ↦ L.fbl (Go.SE.FSpec.mk (fun («as» : List Go.SE.SV) ↦ Go.SE.preO p_free1_s (List.map
 Go.SE.EV.p «as» ++ List.map Go.SE.EV.p [Go.SE.SV.ref [Go.SE.SV.int Go.IntKind.i64 d.x, Go.SE.SV.int Go.IntKind.i64 d.y] (nat_lit 0)])) fun («as» : List Go.SE.SV) ↦ Go.SE.resO p_free1_s (List.map Go.SE.EV.p «as» ++ List.map Go.SE.EV.p [Go.SE.SV.ref [Go.SE.SV.int Go.IntKind.i64 d.x, Go.SE.SV.int Go.IntKind.i64 d.y] (nat_lit 0)])) [Go.SE.SV.agg [Go.SE.SV.int Go.IntKind.i64 (l.g i).x, Go.SE.SV.int
 Go.IntKind.i64 (l.g i).y]]) = L.free d l) (by kernel_rfl) (by
    obtain ⟨h1, h2, h3⟩ := hp
    exact ⟨⟨fun _ _ => rfl, isB_of p_free1_B _, h1, fun i hi => ⟨h3 i hi, h2⟩⟩, rfl⟩)
theorem p_free_ok : SpecOk Tryz.prog 185 p_free_S := fnX Tryz.func185 (c := bodyOf Tryz.f185) (by kernel_rfl) mixed (fun args p r hs hp => by
  unfold p_free_s at hs
  split at hs
  · cases hs; exact ⟨_, _, p_free_vc _ _ hp.2, (.same _ (.p (.sl hp.1) .nil)), ⟨show SpecsL Tryz.prog _ from (SpecsL.cons s_conFP_ok s_conFP_en (SpecsL.cons p_free1_ok p_free1_en SpecsL.nil)), rfl, ⟨show ItersL Tryz.prog _ from ItersL.nil, (TrsOk.none (fun _ => rfl))⟩⟩⟩
  · cases hs)
theorem p_free_en : Enters Tryz.prog 185 := fun args w => by kernel_rfl
theorem p_free_B : ∀ args p r, p_free_s args = some (p, r) → ∃ b, r = .bool b := by
  intro args p r h
  unfold p_free_s at h
  split at h
  · cases h; exact ⟨_, rfl⟩
  · cases h
def p_way_p (l : (L.Sq L.Pt)) : Prop := L.nrms l
def p_way_r (l : (L.Sq L.Pt)) : SV := .tup [.agg [.int .i64 (L.wayD l).x, .int .i64 (L.wayD l).y], .bool (L.wayOk l)]
def p_way_s : List EV → Option (Prop × SV)
  | [.p (.sl 2 l_n l_g)] => some ((∀ i, i < l_n → l_g i = [.int .i64 ((ofPt (l_g i)).x), .int .i64 ((ofPt (l_g i)).y)]) ∧ p_way_p (⟨l_n, fun i => ofPt (l_g i)⟩ : (L.Sq L.Pt)), p_way_r (⟨l_n, fun i => ofPt (l_g i)⟩ : (L.Sq L.Pt)))
  | _ => none
abbrev p_way_S : SE.Spec := (specO p_way_s)
def p_way_C : Cfg := { muts := [2, 5, 8], frz := lookN [], specs := lookS [(96, p_gcd_S), (185, p_free_S)], loops := fun _ => none, iters := lookI [], rfs := lookR [], nils := lookM [] }
theorem p_way_vc (l : (L.Sq L.Pt)) (hp : p_way_p l) : vc Tryz.prog ({ p_way_C with loops := lookL [(4, { T := Nat, keep := [0, 2, 13, 14], keepO := [2], chg := fun i => [(15, .p (.int .i64 (i : Int)))], own := fun _ => [], inv := fun i => i ≤ l.n ∧ ∀ c, c < 2 * i → L.free (L.cand l c) l = false, mu := fun i => l.n - i }), (8, { T := Nat × Nat, keep := [0, 2, 5, 13, 14, 15, 45], keepO := [2, 5], tie := fun g => [(15, .int .i64 (g.1 : Int))], chg := fun g => [(46, .p (.int .i64 (g.2 : Int))), (44, .p (.sl 2 2 (fun s => [.int .i64 ((L.dir (l.g g.1) s).x), .int .i64 ((L.dir (l.g g.1) s).y)])))], own := fun _ => [], inv := fun g => g.1 < l.n ∧ g.2 ≤ 2 ∧ ∀ c, c < 2 * g.1 + g.2 → L.free (L.cand l c) l = false, mu := fun g => 2 - g.2 })], rfs := lookR [] }) (bodyOf Tryz.f137) (st0 Tryz.f137 [.p (.sl 2 l.n (fun i => [.int .i64 ((l.g i).x), .int .i64 ((l.g i).y)]))]) (retFn Tryz.prog Tryz.f137 (p_way_r l)) :=
  @Eq.mpr _ ((Decidable.decide ((↑l.n : Int) = (0 : Int)) = Bool.true → Go.SE.SV.agg [Go.SE.SV.int Go.IntKind.i64 (1 : Int), Go.SE.SV.int Go.IntKind.i64 (0 : Int)] = Go.SE.SV.agg [Go.SE.SV.int Go.IntKind.i64 (L.wayD l).x, Go.SE.SV.int Go.IntKind.i64 (L.wayD l).y] ∧ Bool.true = L.wayOk l) ∧ (Decidable.decide ((↑l.n : Int) = (0 : Int)) = Bool.false → (∃ (g : Nat), (0 : Int) = (↑g : Int) ∧ g ≤ l.n ∧ ∀ (c : Nat),
 c < (2 : Nat) * g → L.free (L.cand l c) l = Bool.false) ∧ ∀ (g : Nat), (g ≤ l.n ∧ ∀ (c : Nat), c < (2 : Nat) * g → L.free (L.cand l c) l = Bool.false) → (Decidable.decide ((↑g : Int) < (↑l.n : Int)) = Bool.true → ((0 : Int) ≤ (↑g : Int) ∧ (↑g : Int) < (↑l.n : Int)) ∧ (((-4611686018427387904 : Int) ≤ (l.g (Int.toNat (↑g : Int))).x ∧ (l.g (Int.toNat (↑g : Int))).x ≤ (4611686018427387904 : Int)) ∧
 (-4611686018427387904 : Int) ≤ (l.g (Int.toNat (↑g : Int))).y ∧ (l.g (Int.toNat (↑g : Int))).y ≤ (4611686018427387904 : Int)) ∧ Go.SE.InK Go.IntKind.i64 ((0 : Int) - (l.g (Int.toNat (↑g : Int))).y) ∧ L.gcd (l.g (Int.toNat (↑g : Int))).x (l.g (Int.toNat (↑g : Int))).y ≠ (0 : Int) ∧ Go.SE.InK Go.IntKind.i64 (Int.tdiv ((0 : Int) - (l.g (Int.toNat (↑g : Int))).y) (L.gcd (l.g (Int.toNat (↑g : Int))).x
 (l.g (Int.toNat (↑g : Int))).y)) ∧ L.gcd (l.g (Int.toNat (↑g : Int))).x (l.g (Int.toNat (↑g : Int))).y ≠ (0 : Int) ∧ Go.SE.InK Go.IntKind.i64 (Int.tdiv (l.g (Int.toNat (↑g : Int))).x (L.gcd (l.g (Int.toNat (↑g : Int))).x (l.g (Int.toNat (↑g : Int))).y)) ∧ L.gcd (l.g (Int.toNat (↑g : Int))).x (l.g (Int.toNat (↑g : Int))).y ≠ (0 : Int) ∧ Go.SE.InK Go.IntKind.i64 (Int.tdiv (l.g (Int.toNat (↑g :
 Int))).y (L.gcd (l.g (Int.toNat (↑g : Int))).x (l.g (Int.toNat (↑g : Int))).y)) ∧ Go.SE.InK Go.IntKind.i64 ((0 : Int) - (l.g (Int.toNat (↑g : Int))).x) ∧ L.gcd (l.g (Int.toNat (↑g : Int))).x (l.g (Int.toNat (↑g : Int))).y ≠ (0 : Int) ∧ Go.SE.InK Go.IntKind.i64 (Int.tdiv ((0 : Int) - (l.g (Int.toNat (↑g : Int))).x) (L.gcd (l.g (Int.toNat (↑g : Int))).x (l.g (Int.toNat (↑g : Int))).y)) ∧ (∃ (g_1 :
 Nat × Nat), (0 : Int) = (↑g_1.2 : Int) ∧ (nat_lit 2 = (2 : Nat) ∧ ∀ (i : Nat), i < nat_lit 2 → Go.SE.rowsOf [Go.SE.SV.int Go.IntKind.i64 (Int.tdiv ((0 : Int) - (l.g (Int.toNat (↑g : Int))).y) (L.gcd (l.g (Int.toNat (↑g : Int))).x (l.g (Int.toNat (↑g : Int))).y)), Go.SE.SV.int Go.IntKind.i64 (Int.tdiv (l.g (Int.toNat (↑g : Int))).x (L.gcd (l.g (Int.toNat (↑g : Int))).x (l.g (Int.toNat (↑g :
 Int))).y)), Go.SE.SV.int Go.IntKind.i64 (Int.tdiv (l.g (Int.toNat (↑g : Int))).y (L.gcd (l.g (Int.toNat (↑g : Int))).x (l.g (Int.toNat (↑g : Int))).y)), Go.SE.SV.int Go.IntKind.i64 (Int.tdiv ((0 : Int) - (l.g (Int.toNat (↑g : Int))).x) (L.gcd (l.g (Int.toNat (↑g : Int))).x (l.g (Int.toNat (↑g : Int))).y))] (nat_lit 2) i = [Go.SE.SV.int Go.IntKind.i64 (L.dir (l.g g_1.1) i).x, Go.SE.SV.int
 Go.IntKind.i64 (L.dir (l.g g_1.1) i).y]) ∧ (↑g : Int) = (↑g_1.1 : Int) ∧ g_1.1 < l.n ∧ g_1.2 ≤ (2 : Nat) ∧ ∀ (c : Nat), c < (2 : Nat) * g_1.1 + g_1.2 → L.free (L.cand l c) l = Bool.false) ∧ ∀ (g_1 : Nat × Nat), ((↑g : Int) = (↑g_1.1 : Int) ∧ g_1.1 < l.n ∧ g_1.2 ≤ (2 : Nat) ∧ ∀ (c : Nat), c < (2 : Nat) * g_1.1 + g_1.2 → L.free (L.cand l c) l = Bool.false) → (Decidable.decide ((↑g_1.2 : Int) < (↑(2
 : Nat) : Int)) = Bool.true → ((0 : Int) ≤ (↑g_1.2 : Int) ∧ (↑g_1.2 : Int) < (↑(nat_lit 2) : Int)) ∧ ((∀ (i : Nat), i < l.n → [Go.SE.SV.int Go.IntKind.i64 (l.g i).x, Go.SE.SV.int Go.IntKind.i64 (l.g i).y] = [Go.SE.SV.int Go.IntKind.i64 (l.g i).x, Go.SE.SV.int Go.IntKind.i64 (l.g i).y]) ∧ l.n ≤ (1000000 : Nat) ∧ L.bd (L.dir (l.g g_1.1) (Int.toNat (↑g_1.2 : Int))) ∧ ∀ (i : Nat), i < l.n → L.bd (l.g
 i)) ∧ (L.free (L.dir (l.g g_1.1) (Int.toNat (↑g_1.2 : Int))) (L.Sq.mk l.n fun (i : Nat) ↦ l.g i) = Bool.true → Go.SE.SV.agg [Go.SE.SV.int Go.IntKind.i64 (L.dir (l.g g_1.1) (Int.toNat (↑g_1.2 : Int))).x, Go.SE.SV.int Go.IntKind.i64 (L.dir (l.g g_1.1) (Int.toNat (↑g_1.2 : Int))).y] = Go.SE.SV.agg [Go.SE.SV.int Go.IntKind.i64 (L.wayD l).x, Go.SE.SV.int Go.IntKind.i64 (L.wayD l).y] ∧ Bool.true =
 L.wayOk l) ∧ (L.free (L.dir (l.g g_1.1) (Int.toNat (↑g_1.2 : Int))) (L.Sq.mk l.n fun (i : Nat) ↦ l.g i) = Bool.false → Go.SE.InK Go.IntKind.i64 ((↑g_1.2 : Int) + (1 : Int)) ∧ ∃ (g' : Nat × Nat), (↑g_1.2 : Int) + (1 : Int) = (↑g'.2 : Int) ∧ (nat_lit 2 = (2 : Nat) ∧ ∀ (i : Nat), i < nat_lit 2 → [Go.SE.SV.int Go.IntKind.i64 (L.dir (l.g g_1.1) i).x, Go.SE.SV.int Go.IntKind.i64 (L.dir (l.g g_1.1) i).y]
 = [Go.SE.SV.int Go.IntKind.i64 (L.dir (l.g g'.1) i).x, Go.SE.SV.int Go.IntKind.i64 (L.dir (l.g g'.1) i).y]) ∧ (↑(2 : Nat) : Int) = (↑(2 : Nat) : Int) ∧ nat_lit 0 = nat_lit 0 ∧ (↑g : Int) = (↑g : Int) ∧ (↑l.n : Int) = (↑l.n : Int) ∧ (l.n = l.n ∧ ∀ (i : Nat), i < l.n → [Go.SE.SV.int Go.IntKind.i64 (l.g i).x, Go.SE.SV.int Go.IntKind.i64 (l.g i).y] = [Go.SE.SV.int Go.IntKind.i64 (l.g i).x,
 Go.SE.SV.int Go.IntKind.i64 (l.g i).y]) ∧ nat_lit 0 = nat_lit 0 ∧ (l.n = l.n ∧ ∀ (i : Nat), i < l.n → [Go.SE.SV.int Go.IntKind.i64 (l.g i).x, Go.SE.SV.int Go.IntKind.i64 (l.g i).y] = [Go.SE.SV.int Go.IntKind.i64 (l.g i).x, Go.SE.SV.int Go.IntKind.i64 (l.g i).y]) ∧ (l.g (Int.toNat (↑g : Int))).x = (l.g (Int.toNat (↑g : Int))).x ∧ (l.g (Int.toNat (↑g : Int))).y = (l.g (Int.toNat (↑g : Int))).y ∧ (0
 : Int) = (0 : Int) ∧ (0 : Int) = (0 : Int) ∧ ((↑g : Int) = (↑g'.1 : Int) ∧ g'.1 < l.n ∧ g'.2 ≤ (2 : Nat) ∧ ∀ (c : Nat), c < (2 : Nat) * g'.1 + g'.2 → L.free (L.cand l c) l = Bool.false) ∧ (2 : Nat) - g'.2 < (2 : Nat) - g_1.2)) ∧ (Decidable.decide ((↑g_1.2 : Int) < (↑(2 : Nat) : Int)) = Bool.false → Go.SE.InK Go.IntKind.i64 ((↑g : Int) + (1 : Int)) ∧ ∃ (g' : Nat), (↑g : Int) + (1 : Int) = (↑g' :
 Int) ∧ (↑l.n : Int) = (↑l.n : Int) ∧ (l.n = l.n ∧ ∀ (i : Nat), i < l.n → [Go.SE.SV.int Go.IntKind.i64 (l.g i).x, Go.SE.SV.int Go.IntKind.i64 (l.g i).y] = [Go.SE.SV.int Go.IntKind.i64 (l.g i).x, Go.SE.SV.int Go.IntKind.i64 (l.g i).y]) ∧ nat_lit 0 = nat_lit 0 ∧ (l.n = l.n ∧ ∀ (i : Nat), i < l.n → [Go.SE.SV.int Go.IntKind.i64 (l.g i).x, Go.SE.SV.int Go.IntKind.i64 (l.g i).y] = [Go.SE.SV.int
 Go.IntKind.i64 (l.g i).x, Go.SE.SV.int Go.IntKind.i64 (l.g i).y]) ∧ (0 : Int) = (0 : Int) ∧ (0 : Int) = (0 : Int) ∧ (g' ≤ l.n ∧ ∀ (c : Nat), c < (2 : Nat) * g' → L.free (L.cand l c) l = Bool.false) ∧ l.n - g' < l.n - g)) ∧ (Decidable.decide ((↑g : Int) < (↑l.n : Int)) = Bool.false → Go.SE.SV.agg [Go.SE.SV.int Go.IntKind.i64 (0 : Int), Go.SE.SV.int Go.IntKind.i64 (0 : Int)] = Go.SE.SV.agg
 [Go.SE.SV.int Go.IntKind.i64 (L.wayD l).x, Go.SE.SV.int Go.IntKind.i64 (L.wayD l).y] ∧ Bool.false = L.wayOk l))) (by kernel_rfl) (by
    obtain ⟨hn, hN⟩ := hp
    refine ⟨fun h0 => ?_, fun h0 => ?_⟩
    · have h0 : ((l.n : Nat) : Int) = 0 := of_decide_eq_true h0
      obtain ⟨e1, e2⟩ := way_0 (N := l) (by omega)
      rw [e1, e2]; exact ⟨rfl, rfl⟩
    have h0 : ¬ ((l.n : Nat) : Int) = 0 := of_decide_eq_false h0
    refine ⟨⟨(0 : Nat), rfl, Nat.zero_le _, fun c hc => absurd hc (Nat.not_lt_zero _)⟩, fun g hg => ⟨fun hlt => ?_, fun hge => ?_⟩⟩
    · obtain ⟨hg1, hg2⟩ := hg
      have hb : (g : Int) < (l.n : Int) := of_decide_eq_true hlt
      have e0 : ((g : Int)).toNat = g := by omega
      have hgl : g < l.n := by omega
      obtain ⟨⟨⟨a1, a2⟩, b1, b2⟩, hgc, _⟩ := isNrm_of (hN g hgl)
      have t1 := tdiv_bd (a := (l.g g).x) (g := L.gcd (l.g g).x (l.g g).y) a1 a2 hgc
      have t2 := tdiv_bd (a := (l.g g).y) (g := L.gcd (l.g g).x (l.g g).y) b1 b2 hgc
      have t3 := tdiv_bd (a := 0 - (l.g g).x) (g := L.gcd (l.g g).x (l.g g).y) (by omega) (by omega) hgc
      have t4 := tdiv_bd (a := 0 - (l.g g).y) (g := L.gcd (l.g g).x (l.g g).y) (by omega) (by omega) hgc
      rw [e0]
      refine ⟨⟨by omega, hb⟩, ⟨⟨by omega, by omega⟩, by omega, by omega⟩, InK.of (by omega) (by omega), by omega, InK.of (by omega) (by omega), by omega, InK.of (by omega) (by omega), by omega, InK.of (by omega) (by omega), InK.of (by omega) (by omega), by omega, InK.of (by omega) (by omega), ⟨(g, 0), rfl, ⟨rfl, fun i hi => ?_⟩, rfl, hgl, Nat.zero_le _, hg2⟩, fun h hh => ?_⟩
      · match i, hi with
        | 0, _ => rfl
        | 1, _ => rfl
      obtain ⟨g0, s⟩ := h
      obtain ⟨e1, q1, q2, q3⟩ := hh
      have e1 : (g : Int) = (g0 : Int) := e1
      obtain rfl : g = g0 := by omega
      have q2 : s ≤ 2 := q2
      have q3 : ∀ c, c < 2 * g + s → L.free (L.cand l c) l = false := q3
      have es : ((s : Int)).toNat = s := by omega
      dsimp only
      rw [es]
      refine ⟨fun hs => ?_, fun hs => ?_⟩
      · have hs : (s : Int) < (2 : Int) := of_decide_eq_true hs
        have hs2 : s < 2 := by omega
        have hc := cand_eq l g hs2
        refine ⟨⟨by omega, hs⟩, ⟨fun _ _ => rfl, hn, dir_bd (hN g hgl) s, fun i hi => (isNrm_of (hN i hi)).2.2⟩, fun hf => ?_, fun hf => ?_⟩
        · rw [← hc] at hf
          obtain ⟨w1, w2⟩ := way_at q3 hf (by omega)
          rw [w1, w2, hc]; exact ⟨rfl, rfl⟩
        · rw [← hc] at hf
          refine ⟨InK.of (by omega) (by omega), (g, s + 1), by show (s : Int) + 1 = ((s + 1 : Nat) : Int); omega, ⟨rfl, fun _ _ => rfl⟩, rfl, rfl, rfl, rfl, ⟨rfl, fun _ _ => rfl⟩, rfl, ⟨rfl, fun _ _ => rfl⟩, rfl, rfl, rfl, rfl, ⟨rfl, q1, by show s + 1 ≤ 2; omega, fun c hc' => ?_⟩, by show 2 - (s + 1) < 2 - s; omega⟩
          have hc' : c < 2 * g + s + 1 := hc'
          rcases Nat.lt_succ_iff_lt_or_eq.1 hc' with h | rfl
          · exact q3 c h
          · exact hf
      · have hs : ¬ (s : Int) < (2 : Int) := of_decide_eq_false hs
        obtain rfl : s = 2 := by omega
        exact ⟨InK.of (by omega) (by omega), g + 1, by omega, rfl, ⟨rfl, fun _ _ => rfl⟩, rfl, ⟨rfl, fun _ _ => rfl⟩, rfl, rfl, ⟨by omega, fun c hc => q3 c (by omega)⟩, by omega⟩
    · obtain ⟨hg1, hg2⟩ := hg
      have hb : ¬ (g : Int) < (l.n : Int) := of_decide_eq_false hge
      obtain rfl : g = l.n := by omega
      obtain ⟨w1, w2⟩ := way_no (N := l) (by omega) hg2
      rw [w1, w2]; exact ⟨rfl, rfl⟩)
theorem p_way_ok : SpecOk Tryz.prog 137 p_way_S := fnX Tryz.func137 (c := bodyOf Tryz.f137) (by kernel_rfl) mixed (fun args p r hs hp => by
  unfold p_way_s at hs
  split at hs
  · cases hs; exact ⟨_, _, p_way_vc _ hp.2, (.p (.sl hp.1) .nil), ⟨show SpecsL Tryz.prog _ from (SpecsL.cons p_gcd_ok p_gcd_en (SpecsL.cons p_free_ok p_free_en SpecsL.nil)), rfl, ⟨show ItersL Tryz.prog _ from ItersL.nil, (TrsOk.none (fun _ => rfl))⟩⟩⟩
  · cases hs)
theorem p_way_en : Enters Tryz.prog 137 := fun args w => by kernel_rfl
def p_bad_p (n : L.Pt) : Prop := True
def p_bad_r (n : L.Pt) : SV := .bool (!L.isNrm n)
def p_bad_s : List EV → Option (Prop × SV)
  | [.p (.agg [.int .i64 n_x, .int .i64 n_y])] => some (p_bad_p (⟨n_x, n_y⟩ : L.Pt), p_bad_r (⟨n_x, n_y⟩ : L.Pt))
  | _ => none
abbrev p_bad_S : SE.Spec := (specO p_bad_s)
def p_bad_C : Cfg := { muts := [], frz := lookN [], specs := lookS [(77, p_within_S)], loops := lookL [], iters := lookI [], rfs := lookR [], nils := lookM [] }
theorem p_bad_vc (n : L.Pt) (hp : p_bad_p n) : vc Tryz.prog (p_bad_C) (bodyOf Tryz.f135) (st0 Tryz.f135 [.p (.agg [.int .i64 n.x, .int .i64 n.y])]) (retFn Tryz.prog Tryz.f135 (p_bad_r n)) :=
  @Eq.mpr _ (((!(Decidable.decide (n.x = (0 : Int)) && Decidable.decide (n.y = (0 : Int)))) = Bool.true → True) ∧ ((!bif Decidable.decide (n.x = (0 : Int)) && Decidable.decide (n.y = (0 : Int)) then Bool.true else !L.within n.x (-4096 : Int) (4096 : Int)) = Bool.true → True) ∧ (bif bif Decidable.decide (n.x = (0 : Int)) && Decidable.decide (n.y = (0 : Int)) then Bool.true else !L.within n.x (-4096 : Int) (4096
 : Int) then Bool.true else !L.within n.y (-4096 : Int) (4096 : Int)) = !L.isNrm n) (by kernel_rfl) (by
    refine ⟨fun _ => trivial, fun _ => trivial, ?_⟩
    unfold L.isNrm
    cases (decide (n.x = 0) && decide (n.y = 0)) <;> cases L.within n.x (-4096) 4096 <;> cases L.within n.y (-4096) 4096 <;> rfl)
theorem p_bad_ok : SpecOk Tryz.prog 135 p_bad_S := fnX Tryz.func135 (c := bodyOf Tryz.f135) (by kernel_rfl) mixed (fun args p r hs hp => by
  unfold p_bad_s at hs
  split at hs
  · cases hs; exact ⟨_, _, p_bad_vc _ hp, (.same _ .nil), ⟨show SpecsL Tryz.prog _ from (SpecsL.cons p_within_ok p_within_en SpecsL.nil), rfl, ⟨show ItersL Tryz.prog _ from ItersL.nil, (TrsOk.none (fun _ => rfl))⟩⟩⟩
  · cases hs)
theorem p_bad_en : Enters Tryz.prog 135 := fun args w => by kernel_rfl
theorem p_bad_B : ∀ args p r, p_bad_s args = some (p, r) → ∃ b, r = .bool b := by
  intro args p r h
  unfold p_bad_s at h
  split at h
  · cases h; exact ⟨_, rfl⟩
  · cases h
end Go.Proofs.YtooapgllahonaaaGreat
