/- A symbolic walk over the model, and what it shows of functions of the program: parts of the proof that the text of the row joins. -/
import Derived.Test.YtooapgllahonaaaGreatW1
import Derived.Test.YtooapgllahonaaaGreatE3
import Derived.KernelRfl

namespace Go.Proofs.YtooapgllahonaaaGreat
open Go.SE Go.RowKit
set_option maxRecDepth 100000
set_option maxHeartbeats 4000000
set_option linter.unusedVariables false
attribute [local irreducible] Go.SE.vc

def ofSqPt : List SV → L.Sq L.Pt
  | [.sl _ n g] => ⟨n, fun i => ofPt (g i)⟩
  | _ => ⟨0, fun _ => ⟨0, 0⟩⟩
def rowPt : List SV → Prop
  | [.sl 2 n g] => ∀ i, i < n → g i = [.int .i64 (ofPt (g i)).x, .int .i64 (ofPt (g i)).y]
  | _ => False
theorem row_len {l : List SV} (h : rowPt l) : l.length = 1 ∧ Ext (SV.at l 0) (.sl 2 (ofSqPt l).n (fun k => [.int .i64 ((ofSqPt l).g k).x, .int .i64 ((ofSqPt l).g k).y])) := by
  unfold rowPt at h
  split at h
  · rename_i n g
    exact ⟨rfl, .sl h⟩
  · exact h.elim
def L.two (a b : L.Sq L.Pt) (i : Nat) : L.Sq L.Pt := bif decide (i = 0) then a else b
theorem rows_ext {g : Nat → List SV} (h : rowPt (g 0) ∧ rowPt (g 1)) : Ext (.sl 1 2 g) (.sl 1 2 (fun i => [.sl 2 (L.two (ofSqPt (g 0)) (ofSqPt (g 1)) i).n (fun k => [.int .i64 ((L.two (ofSqPt (g 0)) (ofSqPt (g 1)) i).g k).x, .int .i64 ((L.two (ofSqPt (g 0)) (ofSqPt (g 1)) i).g k).y])])) := by
  have key : ∀ i, i < 2 → rowPt (g i) ∧ L.two (ofSqPt (g 0)) (ofSqPt (g 1)) i = ofSqPt (g i) := fun i hi => by
    match i, hi with
    | 0, _ => exact ⟨h.1, rfl⟩
    | 1, _ => exact ⟨h.2, rfl⟩
  refine .sl2 (fun i hi => (row_len (key i hi).1).1.symm) (fun i hi j hj => ?_)
  rw [(row_len (key i hi).1).1] at hj
  obtain rfl : j = 0 := by omega
  rw [(key i hi).2]
  exact (row_len (key i hi).1).2
def L.catTo (c : Nat → L.Sq L.Pt) : Nat → L.Sq L.Pt
  | 0 => ⟨0, fun _ => ⟨0, 0⟩⟩
  | i + 1 => ⟨(L.catTo c i).n + (c i).n, fun k => bif decide (k < (L.catTo c i).n) then (L.catTo c i).g k else (c i).g (k - (L.catTo c i).n)⟩
def L.revTo (l : L.Sq L.Pt) (i k : Nat) : L.Pt := bif decide (k < i) || decide (l.n ≤ k + i) then l.g (l.n - 1 - k) else l.g k
def L.minTo (l : L.Sq L.Pt) : Nat → L.Pt
  | 0 => l.g 0
  | i + 1 => bif decide (L.cmpPt (l.g (i + 1)) (L.minTo l i) < 0) then l.g (i + 1) else L.minTo l i
def L.ptIdx (l : L.Sq L.Pt) (v : L.Pt) : Int := L.idx l.n (fun i => L.same v (l.g i))
def L.flip (l : L.Sq L.Pt) : L.Sq L.Pt := bif decide (L.areaTo l l.n < 0) then ⟨l.n, fun k => l.g (l.n - 1 - k)⟩ else l
def L.minK (l : L.Sq L.Pt) : Nat := (L.ptIdx l (L.minTo l (l.n - 1))).toNat
def L.rot (l : L.Sq L.Pt) (d : Nat) : L.Sq L.Pt := ⟨l.n, fun k => bif decide (k < l.n - d) then l.g (d + k) else l.g (k - (l.n - d))⟩
def L.norm (l : L.Sq L.Pt) : L.Sq L.Pt := ⟨l.n, fun k => (L.rot (L.flip l) (L.minK (L.flip l))).g k⟩
theorem same_eq {a b : L.Pt} (h : L.same a b = true) : a = b := by
  unfold L.same at h
  rw [Bool.and_eq_true, decide_eq_true_eq, decide_eq_true_eq] at h
  cases a; cases b
  simp only at h
  rw [h.1, h.2]
theorem same_refl (a : L.Pt) : L.same a a = true := by simp [L.same]
theorem ptIdx_of {l : L.Sq L.Pt} {j : Nat} (hj : j < l.n) : ∃ i, i ≤ j ∧ L.ptIdx l (l.g j) = (i : Int) ∧ l.g i = l.g j ∧ ∀ k, k < i → l.g k ≠ l.g j := by
  unfold L.ptIdx
  rcases idx_cases (f := fun i => L.same (l.g j) (l.g i)) (n := l.n) with ⟨_, h2⟩ | ⟨i, h1, h2, h3, h4⟩
  · have := h2 j hj
    rw [same_refl] at this; cases this
  · refine ⟨i, ?_, h2, (same_eq h3).symm, fun k hk e => ?_⟩
    · rcases Nat.lt_or_ge j i with h | h
      · have := h4 j h
        rw [same_refl] at this; cases this
      · exact h
    · have := h4 k hk
      rw [e, same_refl] at this; cases this
theorem cmpPt_lt {a b : L.Pt} : L.cmpPt a b < 0 ↔ a.x < b.x ∨ (a.x = b.x ∧ a.y < b.y) := by
  unfold L.cmpPt L.or2 L.cmp
  by_cases h1 : a.x < b.x
  · simp [h1]
  · by_cases h2 : b.x < a.x
    · simp [h1, h2]; omega
    · by_cases h3 : a.y < b.y
      · simp [h1, h2, h3]; try omega
      · by_cases h4 : b.y < a.y
        · simp [h1, h2, h3, h4]
        · simp [h1, h2, h3, h4]
def s_cloneP_p (l : (L.Sq L.Pt)) : Prop := l.n ≤ 1000000
def s_cloneP_q (l : (L.Sq L.Pt)) : Nat → Prop := fun _ => True
def s_cloneP_n (l : (L.Sq L.Pt)) : Nat → Nat := fun _ => l.n
def s_cloneP_g (l : (L.Sq L.Pt)) : Nat → Nat → List SV := fun _ i => [.int .i64 ((l.g i).x), .int .i64 ((l.g i).y)]
def s_cloneP_s : List EV → Option (Prop × (Nat → Prop) × (Nat → Nat) × (Nat → Nat → List SV))
  | [.p (.sl 2 l_n l_g)] => some ((∀ i, i < l_n → l_g i = [.int .i64 ((ofPt (l_g i)).x), .int .i64 ((ofPt (l_g i)).y)]) ∧ s_cloneP_p (⟨l_n, fun i => ofPt (l_g i)⟩ : (L.Sq L.Pt)), s_cloneP_q (⟨l_n, fun i => ofPt (l_g i)⟩ : (L.Sq L.Pt)), s_cloneP_n (⟨l_n, fun i => ofPt (l_g i)⟩ : (L.Sq L.Pt)), s_cloneP_g (⟨l_n, fun i => ofPt (l_g i)⟩ : (L.Sq L.Pt)))
  | _ => none
abbrev s_cloneP_S : SE.Spec := (specF Nat 0 42 2 s_cloneP_s)
def s_cloneP_C : Cfg := { muts := [5], frz := lookN [], specs := lookS [], loops := lookL [], iters := lookI [], rfs := lookR [], nils := lookM [] }
theorem s_cloneP_vc (l : (L.Sq L.Pt)) (hp : s_cloneP_p l) : vc Tryz.prog (s_cloneP_C) (bodyOf Tryz.f142) (st0 Tryz.f142 [.p (.sl 2 l.n (fun i => [.int .i64 ((l.g i).x), .int .i64 ((l.g i).y)]))]) (retFresh Tryz.prog Tryz.f142 (Nat) (s_cloneP_q l) 42 2 (s_cloneP_n l) (s_cloneP_g l)) :=
  @Eq.mpr _ (∀ (b : Bool), (b = !Bool.false → l.n = (0 : Nat)) → (b = Bool.true → ∃ (t : Nat), l.n = (0 : Nat) ∧ True) ∧ (b = Bool.false → (nat_lit 0 + l.n) * nat_lit 16 ≤ (140737488355328 : Nat) ∧ ∃ (t : Nat), (nat_lit 0 + l.n = l.n ∧ ∀ (i : Nat), i < nat_lit 0 + l.n → Go.SE.appGet (nat_lit 0) (Go.SE.rowsOf [] (nat_lit 2)) (fun (i : Nat) ↦ [Go.SE.SV.int Go.IntKind.i64 (l.g i).x, Go.SE.SV.int Go.IntKind.i64
 (l.g i).y]) i = [Go.SE.SV.int Go.IntKind.i64 (l.g i).x, Go.SE.SV.int Go.IntKind.i64 (l.g i).y]) ∧ True)) (by kernel_rfl) (by
    have hn : l.n ≤ 1000000 := hp
    refine fun b hb => ⟨fun h => ⟨(0 : Nat), hb h, trivial⟩, fun h => ⟨show (0 + l.n) * 16 ≤ 140737488355328 by omega, (0 : Nat), ⟨Nat.zero_add _, fun i hi => ?_⟩, trivial⟩⟩
    unfold appGet; rw [if_neg (Nat.not_lt_zero _)]; rfl)
theorem s_cloneP_ok : SpecOk Tryz.prog 142 s_cloneP_S := freshX Tryz.func142 (c := bodyOf Tryz.f142) (by kernel_rfl) mixed (fun args p q n g hs hp => by
  unfold s_cloneP_s at hs
  split at hs
  · cases hs; exact ⟨_, _, s_cloneP_vc _ hp.2, (.p (.sl hp.1) .nil), ⟨show SpecsL Tryz.prog _ from SpecsL.nil, rfl, ⟨show ItersL Tryz.prog _ from ItersL.nil, (TrsOk.none (fun _ => rfl))⟩⟩⟩
  · cases hs)
theorem s_cloneP_en : Enters Tryz.prog 142 := fun args w => by kernel_rfl
def s_grow_p (s : Nat) (n : Int) : Prop := 1 ≤ n ∧ n ≤ 2000000
def s_grow_q (s : Nat) (n : Int) : Nat → Prop := fun _ => True
def s_grow_n (s : Nat) (n : Int) : Nat → Nat := fun _ => 0
def s_grow_g (s : Nat) (n : Int) : Nat → Nat → List SV := fun _ _ => []
def s_grow_s : List EV → Option (Prop × (Nat → Prop) × (Nat → Nat) × (Nat → Nat → List SV))
  | [.p (.raw (.slice none 0 0)), .p (.int .i64 n)] => some (s_grow_p (0 : Nat) n, s_grow_q (0 : Nat) n, s_grow_n (0 : Nat) n, s_grow_g (0 : Nat) n)
  | _ => none
abbrev s_grow_S : SE.Spec := (specF Nat 0 42 2 s_grow_s)
def s_grow_C : Cfg := { muts := [22], frz := lookN [], specs := lookS [], loops := lookL [], iters := lookI [], rfs := lookR [], nils := lookM [], cuts := [25] }
theorem s_grow_vc (s : Nat) (n : Int) (hp : s_grow_p s n) : vc Tryz.prog (s_grow_C) (bodyOf Tryz.f187) (st0 Tryz.f187 [.p (.raw (.slice none 0 0)), .p (.int .i64 n)]) (retFresh Tryz.prog Tryz.f187 (Nat) (s_grow_q s n) 42 2 (s_grow_n s n) (s_grow_g s n)) :=
  @Eq.mpr _ ((Decidable.decide (n < (0 : Int)) = Bool.true → False) ∧ (Decidable.decide (n < (0 : Int)) = Bool.false → Go.SE.InK Go.IntKind.i64 ((↑(0 : Nat) : Int) - (↑(0 : Nat) : Int)) ∧ Go.SE.InK Go.IntKind.i64 (n - ((↑(0 : Nat) : Int) - (↑(0 : Nat) : Int))) ∧ (Decidable.decide ((0 : Int) < n - ((↑(0 : Nat) : Int) - (↑(0 : Nat) : Int))) = Bool.true → ((0 : Int) ≤ (0 : Int) ∧ (0 : Int) ≤ (↑(0 : Nat) : Int) ∧
 (↑(0 : Nat) : Int) ≤ (0 : Int)) ∧ ((0 : Int) < n - ((↑(0 : Nat) : Int) - (↑(0 : Nat) : Int)) ∧ (n - ((↑(0 : Nat) : Int) - (↑(0 : Nat) : Int))) * (↑(nat_lit 16) : Int) ≤ (140737488355328 : Int)) ∧ ((0 : Int) ≤ (↑(0 : Nat) : Int) ∧ (↑(0 : Nat) : Int) ≤ (↑(Int.toNat (n - ((↑(0 : Nat) : Int) - (↑(0 : Nat) : Int)))) : Int)) ∧ ∃ (t : Nat), (nat_lit 0 = (0 : Nat) ∧ ∀ (i : Nat), i < nat_lit 0 →
 [Go.SE.SV.int Go.IntKind.i64 (0 : Int), Go.SE.SV.int Go.IntKind.i64 (0 : Int)] = []) ∧ True) ∧ (Decidable.decide ((0 : Int) < n - ((↑(0 : Nat) : Int) - (↑(0 : Nat) : Int))) = Bool.false → ∃ (t : Nat), (0 : Nat) = (0 : Nat) ∧ True))) (by kernel_rfl) (by
    obtain ⟨h1, h2⟩ := hp
    refine ⟨fun h => ?_, fun _ => ⟨InK.of (by omega) (by omega), InK.of (by omega) (by omega), fun h => ⟨⟨by omega, by omega, by omega⟩, ⟨by omega, show (n - (((0 : Nat) : Int) - ((0 : Nat) : Int))) * 16 ≤ 140737488355328 by omega⟩, ⟨by omega, by omega⟩, (0 : Nat), ⟨rfl, fun i hi => absurd hi (Nat.not_lt_zero _)⟩, trivial⟩, fun h => ⟨(0 : Nat), rfl, trivial⟩⟩⟩
    have := of_decide_eq_true h
    omega)
theorem s_grow_ok : SpecOk Tryz.prog 187 s_grow_S := freshX Tryz.func187 (c := bodyOf Tryz.f187) (by kernel_rfl) mixed (fun args p q n g hs hp => by
  unfold s_grow_s at hs
  split at hs
  · cases hs; exact ⟨_, _, s_grow_vc _ _ hp, (.same _ (.same _ .nil)), ⟨show SpecsL Tryz.prog _ from SpecsL.nil, rfl, ⟨show ItersL Tryz.prog _ from ItersL.nil, (TrsOk.none (fun _ => rfl))⟩⟩⟩
  · cases hs)
theorem s_grow_en : Enters Tryz.prog 187 := fun args w => by kernel_rfl
def s_concat_p (c : (Nat → L.Sq L.Pt)) : Prop := 1 ≤ (c 0).n + (c 1).n ∧ (c 0).n ≤ 1000000 ∧ (c 1).n ≤ 1000000
def s_concat_q (c : (Nat → L.Sq L.Pt)) : Nat → Prop := fun _ => True
def s_concat_n (c : (Nat → L.Sq L.Pt)) : Nat → Nat := fun _ => (L.catTo c 2).n
def s_concat_g (c : (Nat → L.Sq L.Pt)) : Nat → Nat → List SV := fun _ k => [.int .i64 (((L.catTo c 2).g k).x), .int .i64 (((L.catTo c 2).g k).y)]
def s_concat_s : List EV → Option (Prop × (Nat → Prop) × (Nat → Nat) × (Nat → Nat → List SV))
  | [.p (.sl 1 2 c_g)] => some ((rowPt (c_g 0) ∧ rowPt (c_g 1)) ∧ s_concat_p (L.two (ofSqPt (c_g 0)) (ofSqPt (c_g 1))), s_concat_q (L.two (ofSqPt (c_g 0)) (ofSqPt (c_g 1))), s_concat_n (L.two (ofSqPt (c_g 0)) (ofSqPt (c_g 1))), s_concat_g (L.two (ofSqPt (c_g 0)) (ofSqPt (c_g 1))))
  | _ => none
abbrev s_concat_S : SE.Spec := (specF Nat 0 42 2 s_concat_s)
def s_concat_C : Cfg := { muts := [24], frz := lookN [], specs := lookS [(187, s_grow_S)], loops := fun _ => none, iters := lookI [], rfs := lookR [], nils := lookM [], raws := [187] }
theorem s_concat_vc (c : (Nat → L.Sq L.Pt)) (hp : s_concat_p c) : vc Tryz.prog ({ s_concat_C with loops := lookL [(3, { T := Nat, keep := [0, 9, 10], keepO := [], chg := fun i => [(3, .p (.int .i64 ((L.catTo c i).n : Int))), (11, .p (.int .i64 (i : Int)))], own := fun _ => [], inv := fun i => i ≤ 2, mu := fun i => 2 - i }), (11, { T := Nat, keep := [0, 6, 25, 26], keepO := [], chg := fun i => [(27, .p (.int .i64 (i : Int)))], own := fun i => [(24, .row 42 2 (L.catTo c i).n (fun k => [.int .i64 (((L.catTo c i).g k).x), .int .i64 (((L.catTo c i).g k).y)]))], inv := fun i => i ≤ 2, mu := fun i => 2 - i })], rfs := lookR [] }) (bodyOf Tryz.f145) (st0 Tryz.f145 [.p (.sl 1 2 (fun i => [.sl 2 (c i).n (fun k => [.int .i64 ((c i).g k).x, .int .i64 ((c i).g k).y])]))]) (retFresh Tryz.prog Tryz.f145 (Nat) (s_concat_q c) 42 2 (s_concat_n c) (s_concat_g c)) :=
  @Eq.mpr _ ((∃ (g : Nat), (0 : Int) = (↑(L.catTo c g).n : Int) ∧ (0 : Int) = (↑g : Int) ∧ g ≤ (2 : Nat)) ∧ ∀ (g : Nat), g ≤ (2 : Nat) → (Decidable.decide ((↑g : Int) < (↑(nat_lit 2) : Int)) = Bool.true → ((0 : Int) ≤ (↑g : Int) ∧ (↑g : Int) < (↑(nat_lit 2) : Int)) ∧ Go.SE.InK Go.IntKind.i64 ((↑(L.catTo c g).n : Int) + (↑(c (Int.toNat (↑g : Int))).n : Int)) ∧ (Bool.false = Bool.true → False) ∧ (Bool.false =
 Bool.false → Go.SE.InK Go.IntKind.i64 ((↑g : Int) + (1 : Int)) ∧ ∃ (g' : Nat), (↑(L.catTo c g).n : Int) + (↑(c (Int.toNat (↑g : Int))).n : Int) = (↑(L.catTo c g').n : Int) ∧ (↑g : Int) + (1 : Int) = (↑g' : Int) ∧ (↑(nat_lit 2) : Int) = (↑(nat_lit 2) : Int) ∧ (nat_lit 2 = nat_lit 2 ∧ ∀ (i : Nat), i < nat_lit 2 → [Go.SE.SV.sl (2 : Nat) (c i).n fun (k : Nat) ↦ [Go.SE.SV.int Go.IntKind.i64 ((c i).g
 k).x, Go.SE.SV.int Go.IntKind.i64 ((c i).g k).y]] = [Go.SE.SV.sl (2 : Nat) (c i).n fun (k : Nat) ↦ [Go.SE.SV.int Go.IntKind.i64 ((c i).g k).x, Go.SE.SV.int Go.IntKind.i64 ((c i).g k).y]]) ∧ (nat_lit 2 = nat_lit 2 ∧ ∀ (i : Nat), i < nat_lit 2 → [Go.SE.SV.sl (2 : Nat) (c i).n fun (k : Nat) ↦ [Go.SE.SV.int Go.IntKind.i64 ((c i).g k).x, Go.SE.SV.int Go.IntKind.i64 ((c i).g k).y]] = [Go.SE.SV.sl (2 :
 Nat) (c i).n fun (k : Nat) ↦ [Go.SE.SV.int Go.IntKind.i64 ((c i).g k).x, Go.SE.SV.int Go.IntKind.i64 ((c i).g k).y]]) ∧ g' ≤ (2 : Nat) ∧ (2 : Nat) - g' < (2 : Nat) - g)) ∧ (Decidable.decide ((↑g : Int) < (↑(nat_lit 2) : Int)) = Bool.false → ((1 : Int) ≤ (↑(L.catTo c g).n : Int) ∧ (↑(L.catTo c g).n : Int) ≤ (2000000 : Int)) ∧ ∀ (t : Nat), True → (∃ (g : Nat), (0 : Int) = (↑g : Int) ∧ ((0 : Nat) =
 (L.catTo c g).n ∧ ∀ (i : Nat), i < (0 : Nat) → [] = [Go.SE.SV.int Go.IntKind.i64 ((L.catTo c g).g i).x, Go.SE.SV.int Go.IntKind.i64 ((L.catTo c g).g i).y]) ∧ g ≤ (2 : Nat)) ∧ ∀ (g_1 : Nat), g_1 ≤ (2 : Nat) → (Decidable.decide ((↑g_1 : Int) < (↑(nat_lit 2) : Int)) = Bool.true → ((0 : Int) ≤ (↑g_1 : Int) ∧ (↑g_1 : Int) < (↑(nat_lit 2) : Int)) ∧ ((L.catTo c g_1).n + (c (Int.toNat (↑g_1 : Int))).n) *
 nat_lit 16 ≤ (140737488355328 : Nat) ∧ Go.SE.InK Go.IntKind.i64 ((↑g_1 : Int) + (1 : Int)) ∧ ∃ (g' : Nat), (↑g_1 : Int) + (1 : Int) = (↑g' : Int) ∧ (↑(nat_lit 2) : Int) = (↑(nat_lit 2) : Int) ∧ (nat_lit 2 = nat_lit 2 ∧ ∀ (i : Nat), i < nat_lit 2 → [Go.SE.SV.sl (2 : Nat) (c i).n fun (k : Nat) ↦ [Go.SE.SV.int Go.IntKind.i64 ((c i).g k).x, Go.SE.SV.int Go.IntKind.i64 ((c i).g k).y]] = [Go.SE.SV.sl (2
 : Nat) (c i).n fun (k : Nat) ↦ [Go.SE.SV.int Go.IntKind.i64 ((c i).g k).x, Go.SE.SV.int Go.IntKind.i64 ((c i).g k).y]]) ∧ (nat_lit 2 = nat_lit 2 ∧ ∀ (i : Nat), i < nat_lit 2 → [Go.SE.SV.sl (2 : Nat) (c i).n fun (k : Nat) ↦ [Go.SE.SV.int Go.IntKind.i64 ((c i).g k).x, Go.SE.SV.int Go.IntKind.i64 ((c i).g k).y]] = [Go.SE.SV.sl (2 : Nat) (c i).n fun (k : Nat) ↦ [Go.SE.SV.int Go.IntKind.i64 ((c i).g
 k).x, Go.SE.SV.int Go.IntKind.i64 ((c i).g k).y]]) ∧ ((L.catTo c g_1).n + (c (Int.toNat (↑g_1 : Int))).n = (L.catTo c g').n ∧ ∀ (i : Nat), i < (L.catTo c g_1).n + (c (Int.toNat (↑g_1 : Int))).n → Go.SE.appGet (L.catTo c g_1).n (fun (k : Nat) ↦ [Go.SE.SV.int Go.IntKind.i64 ((L.catTo c g_1).g k).x, Go.SE.SV.int Go.IntKind.i64 ((L.catTo c g_1).g k).y]) (fun (k : Nat) ↦ [Go.SE.SV.int Go.IntKind.i64
 ((c (Int.toNat (↑g_1 : Int))).g k).x, Go.SE.SV.int Go.IntKind.i64 ((c (Int.toNat (↑g_1 : Int))).g k).y]) i = [Go.SE.SV.int Go.IntKind.i64 ((L.catTo c g').g i).x, Go.SE.SV.int Go.IntKind.i64 ((L.catTo c g').g i).y]) ∧ g' ≤ (2 : Nat) ∧ (2 : Nat) - g' < (2 : Nat) - g_1) ∧ (Decidable.decide ((↑g_1 : Int) < (↑(nat_lit 2) : Int)) = Bool.false → ∃ (t : Nat), ((L.catTo c g_1).n = (L.catTo c (2 : Nat)).n ∧
 ∀ (i : Nat), i < (L.catTo c g_1).n → [Go.SE.SV.int Go.IntKind.i64 ((L.catTo c g_1).g i).x, Go.SE.SV.int Go.IntKind.i64 ((L.catTo c g_1).g i).y] = [Go.SE.SV.int Go.IntKind.i64 ((L.catTo c (2 : Nat)).g i).x, Go.SE.SV.int Go.IntKind.i64 ((L.catTo c (2 : Nat)).g i).y]) ∧ True))) (by kernel_rfl) (by
    obtain ⟨h1, h2, h3⟩ := hp
    have hc : ∀ i, i < 2 → (c i).n ≤ 1000000 := fun i hi => by
      match i, hi with
      | 0, _ => exact h2
      | 1, _ => exact h3
    have e1 : (L.catTo c 1).n = 0 + (c 0).n := rfl
    have e2 : (L.catTo c 2).n = 0 + (c 0).n + (c 1).n := rfl
    have ht : ∀ i, i ≤ 2 → (L.catTo c i).n ≤ 2000000 := fun i hi => by
      match i, hi with
      | 0, _ => exact Nat.zero_le _
      | 1, _ => omega
      | 2, _ => omega
    refine ⟨⟨(0 : Nat), rfl, rfl, Nat.zero_le _⟩, fun g hg => ⟨fun hlt => ?_, fun hge => ?_⟩⟩
    · have hb : (g : Int) < 2 := of_decide_eq_true hlt
      have e0 : ((g : Int)).toNat = g := by omega
      have hcg := hc g (by omega)
      have htg := ht g hg
      rw [e0]
      exact ⟨⟨by omega, hb⟩, InK.of (by omega) (by omega), fun h => Bool.false_ne_true h, fun _ => ⟨InK.of (by omega) (by omega), g + 1, by show ((L.catTo c g).n : Int) + ((c g).n : Int) = (((L.catTo c g).n + (c g).n : Nat) : Int); omega, by omega, rfl, ⟨rfl, fun _ _ => rfl⟩, ⟨rfl, fun _ _ => rfl⟩, by omega, by omega⟩⟩
    · have hb : ¬ (g : Int) < 2 := of_decide_eq_false hge
      obtain rfl : g = 2 := by omega
      refine ⟨⟨by omega, by omega⟩, fun _ _ => ⟨⟨(0 : Nat), rfl, ⟨rfl, fun i hi => absurd hi (Nat.not_lt_zero _)⟩, Nat.zero_le _⟩, fun k hk => ⟨fun hlt => ?_, fun hge => ?_⟩⟩⟩
      · have hb : (k : Int) < 2 := of_decide_eq_true hlt
        have e0 : ((k : Int)).toNat = k := by omega
        have hck := hc k (by omega)
        have htk := ht k hk
        rw [e0]
        refine ⟨⟨by omega, hb⟩, show ((L.catTo c k).n + (c k).n) * 16 ≤ 140737488355328 by omega, InK.of (by omega) (by omega), k + 1, by omega, rfl, ⟨rfl, fun _ _ => rfl⟩, ⟨rfl, fun _ _ => rfl⟩, ⟨rfl, fun i hi => ?_⟩, by omega, by omega⟩
        unfold appGet
        by_cases h : i < (L.catTo c k).n
        · have w : (L.catTo c (k + 1)).g i = (L.catTo c k).g i := by
            show (bif decide (i < (L.catTo c k).n) then _ else _) = _
            rw [decide_eq_true h]; rfl
          rw [if_pos h, w]
        · have w : (L.catTo c (k + 1)).g i = (c k).g (i - (L.catTo c k).n) := by
            show (bif decide (i < (L.catTo c k).n) then _ else _) = _
            rw [decide_eq_false h]; rfl
          rw [if_neg h, w]
      · have hb : ¬ (k : Int) < 2 := of_decide_eq_false hge
        obtain rfl : k = 2 := by omega
        exact ⟨(0 : Nat), ⟨rfl, fun _ _ => rfl⟩, trivial⟩)
theorem s_concat_ok : SpecOk Tryz.prog 145 s_concat_S := freshX Tryz.func145 (c := bodyOf Tryz.f145) (by kernel_rfl) mixed (fun args p q n g hs hp => by
  unfold s_concat_s at hs
  split at hs
  · cases hs; exact ⟨_, _, s_concat_vc _ hp.2, (.p (rows_ext hp.1) .nil), ⟨show SpecsL Tryz.prog _ from (SpecsL.cons s_grow_ok s_grow_en SpecsL.nil), rfl, ⟨show ItersL Tryz.prog _ from ItersL.nil, (TrsOk.none (fun _ => rfl))⟩⟩⟩
  · cases hs)
theorem s_concat_en : Enters Tryz.prog 145 := fun args w => by kernel_rfl
abbrev s_revP_tr : Tr := { T := (L.Sq L.Pt), U := Nat, args := fun t => (fun l => [.row 1005]) t, own := fun t => (fun l => [(1005, .row 42 2 l.n (fun k => [.int .i64 ((l.g k).x), .int .i64 ((l.g k).y)]))]) t, pre := fun t => (fun l => l.n ≤ 1000000) t, post := fun t u => (fun l => fun u => True) t u, own' := fun t u => (fun l => fun u => [(1005, .row 42 2 l.n (fun k => [.int .i64 ((l.g (l.n - 1 - k)).x), .int .i64 ((l.g (l.n - 1 - k)).y)]))]) t u, res := fun t u => (fun l => fun u => .p (.tup [])) t u }
theorem s_revP_vc (l : L.Sq L.Pt) (hp : s_revP_tr.pre l) : vc Tryz.prog ({ muts := [], frz := lookN [], specs := lookS [], loops := lookL [(1, { T := Nat, keep := [0], keepO := [], chg := fun i => [(2, .p (.int .i64 (i : Int))), (3, .p (.int .i64 ((l.n : Int) - 1 - (i : Int))))], own := fun i => [(1005, .row 42 2 l.n (fun k => [.int .i64 ((L.revTo l i k).x), .int .i64 ((L.revTo l i k).y)]))], inv := fun i => 2 * i ≤ l.n, mu := fun i => l.n - i })], iters := lookI [], rfs := lookR [], nils := lookM [] }) (bodyOf Tryz.f143) (stTr Tryz.f143 (s_revP_tr.args l) (s_revP_tr.own l)) (retTr Tryz.prog Tryz.f143 s_revP_tr l) :=
  @Eq.mpr _ (Go.SE.InK Go.IntKind.i64 ((↑l.n : Int) - (1 : Int)) ∧ (∃ (g : Nat), (0 : Int) = (↑g : Int) ∧ (↑l.n : Int) - (1 : Int) = (↑l.n : Int) - (1 : Int) - (↑g : Int) ∧ (l.n = l.n ∧ ∀ (i : Nat), i < l.n → [Go.SE.SV.int Go.IntKind.i64 (l.g i).x, Go.SE.SV.int Go.IntKind.i64 (l.g i).y] = [Go.SE.SV.int Go.IntKind.i64 (L.revTo l g i).x, Go.SE.SV.int Go.IntKind.i64 (L.revTo l g i).y]) ∧ (2 : Nat) * g ≤ l.n) ∧ ∀
 (g : Nat), (2 : Nat) * g ≤ l.n → (Decidable.decide ((↑g : Int) < (↑l.n : Int) - (1 : Int) - (↑g : Int)) = Bool.true → ((0 : Int) ≤ (↑l.n : Int) - (1 : Int) - (↑g : Int) ∧ (↑l.n : Int) - (1 : Int) - (↑g : Int) < (↑l.n : Int)) ∧ Int.toNat ((↑l.n : Int) - (1 : Int) - (↑g : Int)) < l.n ∧ ((0 : Int) ≤ (↑g : Int) ∧ (↑g : Int) < (↑l.n : Int)) ∧ Int.toNat (↑g : Int) < l.n ∧ ((0 : Int) ≤ (↑g : Int) ∧ (↑g :
 Int) < (↑l.n : Int)) ∧ Int.toNat (↑g : Int) < l.n ∧ ((0 : Int) ≤ (↑l.n : Int) - (1 : Int) - (↑g : Int) ∧ (↑l.n : Int) - (1 : Int) - (↑g : Int) < (↑l.n : Int)) ∧ Int.toNat ((↑l.n : Int) - (1 : Int) - (↑g : Int)) < l.n ∧ Go.SE.InK Go.IntKind.i64 ((↑g : Int) + (1 : Int)) ∧ Go.SE.InK Go.IntKind.i64 ((↑l.n : Int) - (1 : Int) - (↑g : Int) - (1 : Int)) ∧ ∃ (g' : Nat), (↑g : Int) + (1 : Int) = (↑g' : Int)
 ∧ (↑l.n : Int) - (1 : Int) - (↑g : Int) - (1 : Int) = (↑l.n : Int) - (1 : Int) - (↑g' : Int) ∧ (l.n = l.n ∧ ∀ (i : Nat), i < l.n → Go.SE.setRow (Go.SE.setRow (fun (k : Nat) ↦ [Go.SE.SV.int Go.IntKind.i64 (L.revTo l g k).x, Go.SE.SV.int Go.IntKind.i64 (L.revTo l g k).y]) (Int.toNat (↑g : Int)) (nat_lit 0) [Go.SE.SV.int Go.IntKind.i64 (L.revTo l g (Int.toNat ((↑l.n : Int) - (1 : Int) - (↑g :
 Int)))).x, Go.SE.SV.int Go.IntKind.i64 (L.revTo l g (Int.toNat ((↑l.n : Int) - (1 : Int) - (↑g : Int)))).y]) (Int.toNat ((↑l.n : Int) - (1 : Int) - (↑g : Int))) (nat_lit 0) [Go.SE.SV.int Go.IntKind.i64 (L.revTo l g (Int.toNat (↑g : Int))).x, Go.SE.SV.int Go.IntKind.i64 (L.revTo l g (Int.toNat (↑g : Int))).y] i = [Go.SE.SV.int Go.IntKind.i64 (L.revTo l g' i).x, Go.SE.SV.int Go.IntKind.i64 (L.revTo
 l g' i).y]) ∧ (2 : Nat) * g' ≤ l.n ∧ l.n - g' < l.n - g) ∧ (Decidable.decide ((↑g : Int) < (↑l.n : Int) - (1 : Int) - (↑g : Int)) = Bool.false → ∃ (u : Nat), (l.n = l.n ∧ ∀ (i : Nat), i < l.n → [Go.SE.SV.int Go.IntKind.i64 (L.revTo l g i).x, Go.SE.SV.int Go.IntKind.i64 (L.revTo l g i).y] = [Go.SE.SV.int Go.IntKind.i64 (l.g (l.n - (1 : Nat) - i)).x, Go.SE.SV.int Go.IntKind.i64 (l.g (l.n - (1 : Nat)
 - i)).y]) ∧ True)) (by kernel_rfl) (by
    have hn : l.n ≤ 1000000 := hp
    refine ⟨InK.of (by omega) (by omega), ⟨(0 : Nat), rfl, by omega, ⟨rfl, fun i hi => ?_⟩, Nat.zero_le _⟩, fun g hg => ⟨fun hlt => ?_, fun hge => ?_⟩⟩
    · have hi : i < l.n := hi
      have w : L.revTo l 0 i = l.g i := by unfold L.revTo; rw [decide_eq_false (Nat.not_lt_zero _), decide_eq_false (by omega)]; rfl
      rw [w]
    · have hb : (g : Int) < (l.n : Int) - 1 - (g : Int) := of_decide_eq_true hlt
      have e0 : ((g : Int)).toNat = g := by omega
      have e1 : ((l.n : Int) - 1 - (g : Int)).toNat = l.n - 1 - g := by omega
      rw [e0, e1]
      refine ⟨⟨by omega, by omega⟩, by omega, ⟨by omega, by omega⟩, by omega, ⟨by omega, by omega⟩, by omega, ⟨by omega, by omega⟩, by omega, InK.of (by omega) (by omega), InK.of (by omega) (by omega), g + 1, by omega, by omega, ⟨rfl, fun i hi => ?_⟩, by omega, by omega⟩
      have hi : i < l.n := hi
      have r0 : ∀ k, ¬ k < g → ¬ l.n ≤ k + g → L.revTo l g k = l.g k := fun k h1 h2 => by
        unfold L.revTo; rw [decide_eq_false h1, decide_eq_false h2]; rfl
      have r1 : ∀ j k, k < j ∨ l.n ≤ k + j → L.revTo l j k = l.g (l.n - 1 - k) := fun j k h => by
        unfold L.revTo
        rcases h with h | h
        · rw [decide_eq_true h]; rfl
        · rw [decide_eq_true h, Bool.or_true]; rfl
      unfold setRow
      by_cases c1 : i = l.n - 1 - g
      · subst c1
        rw [if_pos rfl, r0 g (by omega) (by omega), r1 (g + 1) _ (.inr (by omega)), show l.n - 1 - (l.n - 1 - g) = g by omega]
        rw [if_neg (show ¬ (l.n - 1 - g = g) by omega)]
        rfl
      · rw [if_neg c1]
        by_cases c2 : i = g
        · subst c2
          rw [if_pos rfl, r0 (l.n - 1 - i) (by omega) (by omega), r1 (i + 1) i (.inl (by omega))]
          rfl
        · rw [if_neg c2]
          dsimp only
          by_cases c3 : i < g ∨ l.n ≤ i + g
          · rw [r1 g i c3, r1 (g + 1) i (by omega)]
          · rw [r0 i (by omega) (by omega)]
            have : L.revTo l (g + 1) i = l.g i := by
              unfold L.revTo; rw [decide_eq_false (by omega), decide_eq_false (by omega)]; rfl
            rw [this]
    · have hb : ¬ (g : Int) < (l.n : Int) - 1 - (g : Int) := of_decide_eq_false hge
      refine ⟨(0 : Nat), ⟨rfl, fun i hi => ?_⟩, trivial⟩
      have hi : i < l.n := hi
      have w : L.revTo l g i = l.g (l.n - 1 - i) := by
        unfold L.revTo
        by_cases c1 : i < g
        · rw [decide_eq_true c1]; rfl
        · by_cases c2 : l.n ≤ i + g
          · rw [decide_eq_true c2, Bool.or_true]; rfl
          · rw [decide_eq_false c1, decide_eq_false c2, show l.n - 1 - i = i by omega]; rfl
      rw [w])
theorem s_revP_en : Enters Tryz.prog 143 := fun args w => by kernel_rfl
theorem s_revP_tok : TrOk Tryz.prog 143 s_revP_tr := tr_ok (ks := [1005]) (n := 1) Tryz.func143 (c := bodyOf Tryz.f143) (by kernel_rfl) mixed ⟨fun t => rfl, fun t => rfl, fun t u => rfl, fun t u => rfl, fun t u => rfl, by kernel_rfl⟩ (fun l hp => ⟨_, s_revP_vc l hp, ⟨show SpecsL Tryz.prog _ from SpecsL.nil, rfl, ⟨show ItersL Tryz.prog _ from ItersL.nil, (TrsOk.none (fun _ => rfl))⟩⟩⟩)
def s_minP_p (l : (L.Sq L.Pt)) (f : FSpec) : Prop := 1 ≤ l.n ∧ l.n ≤ 1000000 ∧ ∀ a b : L.Pt, f.pre [(.agg [.int .i64 ((a).x), .int .i64 ((a).y)]), (.agg [.int .i64 ((b).x), .int .i64 ((b).y)])] ∧ L.fil f [(.agg [.int .i64 ((a).x), .int .i64 ((a).y)]), (.agg [.int .i64 ((b).x), .int .i64 ((b).y)])] = L.cmpPt a b
def s_minP_r (l : (L.Sq L.Pt)) (f : FSpec) : SV := (.agg [.int .i64 ((L.minTo l (l.n - 1)).x), .int .i64 ((L.minTo l (l.n - 1)).y)])
def s_minP_s : List EV → Option (Prop × SV)
  | [.p (.sl 2 l_n l_g), .fn f] => some ((∀ i, i < l_n → l_g i = [.int .i64 ((ofPt (l_g i)).x), .int .i64 ((ofPt (l_g i)).y)]) ∧ isI f ∧ s_minP_p (⟨l_n, fun i => ofPt (l_g i)⟩ : (L.Sq L.Pt)) f, s_minP_r (⟨l_n, fun i => ofPt (l_g i)⟩ : (L.Sq L.Pt)) f)
  | _ => none
abbrev s_minP_S : SE.Spec := (specO s_minP_s)
def s_minP_C : Cfg := { muts := [4, 5], frz := lookN [], specs := lookS [], loops := fun _ => none, iters := lookI [], rfs := lookR [], nils := lookM [] }
theorem s_minP_vc (l : (L.Sq L.Pt)) (f : FSpec) (hp : s_minP_p l f) : vc Tryz.prog ({ s_minP_C with loops := lookL [(5, { T := Nat, keep := [0, 1, 4, 5], keepO := [4], chg := fun i => [(6, .p (.int .i64 ((i : Int) + 1)))], own := fun i => [(5, .blk 42 [.p (.int .i64 (L.minTo l i).x), .p (.int .i64 (L.minTo l i).y)])], inv := fun i => i + 1 ≤ l.n, mu := fun i => l.n - i })], rfs := lookR [] }) (bodyOf Tryz.f144) (st0 Tryz.f144 [.p (.sl 2 l.n (fun i => [.int .i64 ((l.g i).x), .int .i64 ((l.g i).y)])), .fn ⟨f.pre, fun xs => .int .i64 (L.fil f xs)⟩]) (retFn Tryz.prog Tryz.f144 (s_minP_r l f)) :=
  @Eq.mpr _ ((Decidable.decide ((↑l.n : Int) < (1 : Int)) = Bool.true → False) ∧ (Decidable.decide ((↑l.n : Int) < (1 : Int)) = Bool.false → ((0 : Int) ≤ (0 : Int) ∧ (0 : Int) < (↑l.n : Int)) ∧ (∃ (g : Nat), (1 : Int) = (↑g : Int) + (1 : Int) ∧ (l.g (Int.toNat (0 : Int))).x = (L.minTo l g).x ∧ (l.g (Int.toNat (0 : Int))).y = (L.minTo l g).y ∧ g + (1 : Nat) ≤ l.n) ∧ ∀ (g : Nat), g + (1 : Nat) ≤ l.n →
 (Decidable.decide ((↑g : Int) + (1 : Int) < (↑l.n : Int)) = Bool.true → ((0 : Int) ≤ (↑g : Int) + (1 : Int) ∧ (↑g : Int) + (1 : Int) < (↑l.n : Int)) ∧ f.1 [Go.SE.SV.agg [Go.SE.SV.int Go.IntKind.i64 (l.g (Int.toNat ((↑g : Int) + (1 : Int)))).x, Go.SE.SV.int Go.IntKind.i64 (l.g (Int.toNat ((↑g : Int) + (1 : Int)))).y], Go.SE.SV.agg [Go.SE.SV.int Go.IntKind.i64 (L.minTo l g).x, Go.SE.SV.int
 Go.IntKind.i64 (L.minTo l g).y]] ∧ (Decidable.decide (L.fil f [Go.SE.SV.agg [Go.SE.SV.int Go.IntKind.i64 (l.g (Int.toNat ((↑g : Int) + (1 : Int)))).x, Go.SE.SV.int Go.IntKind.i64 (l.g (Int.toNat ((↑g : Int) + (1 : Int)))).y], Go.SE.SV.agg [Go.SE.SV.int Go.IntKind.i64 (L.minTo l g).x, Go.SE.SV.int Go.IntKind.i64 (L.minTo l g).y]] < (0 : Int)) = Bool.true → ((0 : Int) ≤ (↑g : Int) + (1 : Int) ∧ (↑g
 : Int) + (1 : Int) < (↑l.n : Int)) ∧ Go.SE.InK Go.IntKind.i64 ((↑g : Int) + (1 : Int) + (1 : Int)) ∧ ∃ (g' : Nat), (↑g : Int) + (1 : Int) + (1 : Int) = (↑g' : Int) + (1 : Int) ∧ nat_lit 0 = nat_lit 0 ∧ nat_lit 0 = nat_lit 0 ∧ (l.n = l.n ∧ ∀ (i : Nat), i < l.n → [Go.SE.SV.int Go.IntKind.i64 (l.g i).x, Go.SE.SV.int Go.IntKind.i64 (l.g i).y] = [Go.SE.SV.int Go.IntKind.i64 (l.g i).x, Go.SE.SV.int
 Go.IntKind.i64 (l.g i).y]) ∧ ((Go.SE.FSpec.mk f.pre fun (xs : List Go.SE.SV) ↦ Go.SE.SV.int Go.IntKind.i64 (L.fil f xs)) = Go.SE.FSpec.mk f.pre fun (xs : List Go.SE.SV) ↦ Go.SE.SV.int Go.IntKind.i64 (L.fil f xs)) ∧ (l.g (Int.toNat ((↑g : Int) + (1 : Int)))).x = (L.minTo l g').x ∧ (l.g (Int.toNat ((↑g : Int) + (1 : Int)))).y = (L.minTo l g').y ∧ (0 : Int) = (0 : Int) ∧ (0 : Int) = (0 : Int) ∧ g' +
 (1 : Nat) ≤ l.n ∧ l.n - g' < l.n - g) ∧ (Decidable.decide (L.fil f [Go.SE.SV.agg [Go.SE.SV.int Go.IntKind.i64 (l.g (Int.toNat ((↑g : Int) + (1 : Int)))).x, Go.SE.SV.int Go.IntKind.i64 (l.g (Int.toNat ((↑g : Int) + (1 : Int)))).y], Go.SE.SV.agg [Go.SE.SV.int Go.IntKind.i64 (L.minTo l g).x, Go.SE.SV.int Go.IntKind.i64 (L.minTo l g).y]] < (0 : Int)) = Bool.false → Go.SE.InK Go.IntKind.i64 ((↑g : Int)
 + (1 : Int) + (1 : Int)) ∧ ∃ (g' : Nat), (↑g : Int) + (1 : Int) + (1 : Int) = (↑g' : Int) + (1 : Int) ∧ nat_lit 0 = nat_lit 0 ∧ nat_lit 0 = nat_lit 0 ∧ (l.n = l.n ∧ ∀ (i : Nat), i < l.n → [Go.SE.SV.int Go.IntKind.i64 (l.g i).x, Go.SE.SV.int Go.IntKind.i64 (l.g i).y] = [Go.SE.SV.int Go.IntKind.i64 (l.g i).x, Go.SE.SV.int Go.IntKind.i64 (l.g i).y]) ∧ ((Go.SE.FSpec.mk f.pre fun (xs : List Go.SE.SV) ↦
 Go.SE.SV.int Go.IntKind.i64 (L.fil f xs)) = Go.SE.FSpec.mk f.pre fun (xs : List Go.SE.SV) ↦ Go.SE.SV.int Go.IntKind.i64 (L.fil f xs)) ∧ (L.minTo l g).x = (L.minTo l g').x ∧ (L.minTo l g).y = (L.minTo l g').y ∧ (0 : Int) = (0 : Int) ∧ (0 : Int) = (0 : Int) ∧ g' + (1 : Nat) ≤ l.n ∧ l.n - g' < l.n - g)) ∧ (Decidable.decide ((↑g : Int) + (1 : Int) < (↑l.n : Int)) = Bool.false → Go.SE.SV.agg
 [Go.SE.SV.int Go.IntKind.i64 (L.minTo l g).x, Go.SE.SV.int Go.IntKind.i64 (L.minTo l g).y] = Go.SE.SV.agg [Go.SE.SV.int Go.IntKind.i64 (L.minTo l (l.n - (1 : Nat))).x, Go.SE.SV.int Go.IntKind.i64 (L.minTo l (l.n - (1 : Nat))).y]))) (by kernel_rfl) (by
    obtain ⟨h1, h2, hf⟩ := hp
    refine ⟨fun h => ?_, fun _ => ⟨⟨by omega, by omega⟩, ⟨(0 : Nat), rfl, rfl, rfl, by omega⟩, fun g hg => ⟨fun hlt => ?_, fun hge => ?_⟩⟩⟩
    · have := of_decide_eq_true h
      omega
    · have hb : (g : Int) + 1 < (l.n : Int) := of_decide_eq_true hlt
      have e0 : ((g : Int) + 1).toNat = g + 1 := by omega
      obtain ⟨q1, q2⟩ := hf (l.g (g + 1)) (L.minTo l g)
      rw [e0, q2]
      refine ⟨⟨by omega, hb⟩, q1, fun h => ⟨⟨by omega, hb⟩, InK.of (by omega) (by omega), g + 1, by omega, rfl, rfl, ⟨rfl, fun _ _ => rfl⟩, rfl, ?_, ?_, rfl, rfl, by omega, by omega⟩, fun h => ⟨InK.of (by omega) (by omega), g + 1, by omega, rfl, rfl, ⟨rfl, fun _ _ => rfl⟩, rfl, ?_, ?_, rfl, rfl, by omega, by omega⟩⟩ <;> rw [L.minTo, h] <;> rfl
    · have hb : ¬ (g : Int) + 1 < (l.n : Int) := of_decide_eq_false hge
      obtain rfl : g = l.n - 1 := by omega
      rfl)
theorem s_minP_ok : SpecOk Tryz.prog 144 s_minP_S := fnX Tryz.func144 (c := bodyOf Tryz.f144) (by kernel_rfl) mixed (fun args p r hs hp => by
  unfold s_minP_s at hs
  split at hs
  · cases hs; exact ⟨_, _, s_minP_vc _ _ hp.2.2, (.p (.sl hp.1) (.fn (fun xs h => ⟨h, (fil_res hp.2.1 h).symm⟩) .nil)), ⟨show SpecsL Tryz.prog _ from SpecsL.nil, rfl, ⟨show ItersL Tryz.prog _ from ItersL.nil, (TrsOk.none (fun _ => rfl))⟩⟩⟩
  · cases hs)
theorem s_minP_en : Enters Tryz.prog 144 := fun args w => by kernel_rfl
def s_idxPt_p (l : (L.Sq L.Pt)) (v : L.Pt) : Prop := l.n ≤ 1000000
def s_idxPt_r (l : (L.Sq L.Pt)) (v : L.Pt) : SV := .int .i64 (L.ptIdx l v)
def s_idxPt_s : List EV → Option (Prop × SV)
  | [.p (.sl 2 l_n l_g), .p (.agg [.int .i64 v_x, .int .i64 v_y])] => some ((∀ i, i < l_n → l_g i = [.int .i64 ((ofPt (l_g i)).x), .int .i64 ((ofPt (l_g i)).y)]) ∧ s_idxPt_p (⟨l_n, fun i => ofPt (l_g i)⟩ : (L.Sq L.Pt)) (⟨v_x, v_y⟩ : L.Pt), s_idxPt_r (⟨l_n, fun i => ofPt (l_g i)⟩ : (L.Sq L.Pt)) (⟨v_x, v_y⟩ : L.Pt))
  | _ => none
abbrev s_idxPt_S : SE.Spec := (specO s_idxPt_s)
def s_idxPt_C : Cfg := { muts := [], frz := lookN [], specs := lookS [], loops := fun _ => none, iters := lookI [], rfs := lookR [], nils := lookM [] }
theorem s_idxPt_vc (l : (L.Sq L.Pt)) (v : L.Pt) (hp : s_idxPt_p l v) : vc Tryz.prog ({ s_idxPt_C with loops := lookL [(2, { T := Nat, keep := [0, 3, 6, 7], keepO := [], chg := fun i => [(8, .p (.int .i64 i))], own := fun _ => [], inv := fun i => i ≤ l.n ∧ (∀ j, j < i → L.same v (l.g j) = false), mu := fun i => l.n - i })], rfs := lookR [] }) (bodyOf Tryz.f72) (st0 Tryz.f72 [.p (.sl 2 l.n (fun i => [.int .i64 ((l.g i).x), .int .i64 ((l.g i).y)])), .p (.agg [.int .i64 v.x, .int .i64 v.y])]) (retFn Tryz.prog Tryz.f72 (s_idxPt_r l v)) :=
  @Eq.mpr _ ((∃ (g : Nat), (0 : Int) = (↑g : Int) ∧ g ≤ l.n ∧ ∀ (j : Nat), j < g → L.same v (l.g j) = Bool.false) ∧ ∀ (g : Nat), (g ≤ l.n ∧ ∀ (j : Nat), j < g → L.same v (l.g j) = Bool.false) → (Decidable.decide ((↑g : Int) < (↑l.n : Int)) = Bool.true → ((0 : Int) ≤ (↑g : Int) ∧ (↑g : Int) < (↑l.n : Int)) ∧ ((Decidable.decide (v.x = (l.g (Int.toNat (↑g : Int))).x) && Decidable.decide (v.y = (l.g (Int.toNat (↑g
 : Int))).y)) = Bool.true → (↑g : Int) = L.ptIdx l v) ∧ ((Decidable.decide (v.x = (l.g (Int.toNat (↑g : Int))).x) && Decidable.decide (v.y = (l.g (Int.toNat (↑g : Int))).y)) = Bool.false → Go.SE.InK Go.IntKind.i64 ((↑g : Int) + (1 : Int)) ∧ ∃ (g' : Nat), (↑g : Int) + (1 : Int) = (↑g' : Int) ∧ (↑l.n : Int) = (↑l.n : Int) ∧ (l.n = l.n ∧ ∀ (i : Nat), i < l.n → [Go.SE.SV.int Go.IntKind.i64 (l.g i).x,
 Go.SE.SV.int Go.IntKind.i64 (l.g i).y] = [Go.SE.SV.int Go.IntKind.i64 (l.g i).x, Go.SE.SV.int Go.IntKind.i64 (l.g i).y]) ∧ Go.SE.SV.ref [Go.SE.SV.int Go.IntKind.i64 v.x, Go.SE.SV.int Go.IntKind.i64 v.y] (nat_lit 0) = Go.SE.SV.ref [Go.SE.SV.int Go.IntKind.i64 v.x, Go.SE.SV.int Go.IntKind.i64 v.y] (nat_lit 0) ∧ (l.n = l.n ∧ ∀ (i : Nat), i < l.n → [Go.SE.SV.int Go.IntKind.i64 (l.g i).x, Go.SE.SV.int
 Go.IntKind.i64 (l.g i).y] = [Go.SE.SV.int Go.IntKind.i64 (l.g i).x, Go.SE.SV.int Go.IntKind.i64 (l.g i).y]) ∧ (g' ≤ l.n ∧ ∀ (j : Nat), j < g' → L.same v (l.g j) = Bool.false) ∧ l.n - g' < l.n - g)) ∧ (Decidable.decide ((↑g : Int) < (↑l.n : Int)) = Bool.false → (-1 : Int) = L.ptIdx l v)) (by kernel_rfl) (by
    have hn : l.n ≤ 1000000 := hp
    refine ⟨⟨(0 : Nat), rfl, Nat.zero_le _, fun j hj => absurd hj (Nat.not_lt_zero _)⟩, fun g hg => ⟨fun hlt => ?_, fun hge => ?_⟩⟩
    · have hb : (g : Int) < (l.n : Int) := of_decide_eq_true hlt
      have e0 : ((g : Int)).toNat = g := by omega
      rw [e0]
      refine ⟨⟨by omega, hb⟩, fun h => ?_, fun h => ?_⟩
      · have h : L.same v (l.g g) = true := h
        exact (idx_at (f := fun i => L.same v (l.g i)) hg.2 h (by omega)).symm
      · have h : L.same v (l.g g) = false := h
        exact ⟨InK.of (by omega) (by omega), g + 1, by omega, rfl, ⟨rfl, fun _ _ => rfl⟩, rfl, ⟨rfl, fun _ _ => rfl⟩, ⟨by omega, fun j hj => by
          rcases Nat.lt_succ_iff_lt_or_eq.1 hj with h' | rfl
          · exact hg.2 j h'
          · exact h⟩, by omega⟩
    · have hb : ¬ (g : Int) < (l.n : Int) := of_decide_eq_false hge
      exact (idx_none (f := fun i => L.same v (l.g i)) (fun j hj => hg.2 j (by omega))).symm)
theorem s_idxPt_ok : SpecOk Tryz.prog 72 s_idxPt_S := fnX Tryz.func72 (c := bodyOf Tryz.f72) (by kernel_rfl) mixed (fun args p r hs hp => by
  unfold s_idxPt_s at hs
  split at hs
  · cases hs; exact ⟨_, _, s_idxPt_vc _ _ hp.2, (.p (.sl hp.1) (.same _ .nil)), ⟨show SpecsL Tryz.prog _ from SpecsL.nil, rfl, ⟨show ItersL Tryz.prog _ from ItersL.nil, (TrsOk.none (fun _ => rfl))⟩⟩⟩
  · cases hs)
theorem s_idxPt_en : Enters Tryz.prog 72 := fun args w => by kernel_rfl
theorem s_idxPt_I : ∀ args p r, s_idxPt_s args = some (p, r) → ∃ n, r = .int .i64 n := by
  intro args p r h
  unfold s_idxPt_s at h
  split at h
  · cases h; exact ⟨_, rfl⟩
  · cases h
end Go.Proofs.YtooapgllahonaaaGreat

namespace Go.Proofs.YtooapgllahonaaaGreat
open Go.SE Go.RowKit
set_option maxRecDepth 100000
set_option maxHeartbeats 4000000
set_option linter.unusedVariables false
attribute [local irreducible] Go.SE.vc

def L.ix (n : Nat) (i : Int) : Nat := (Int.tmod (Int.tmod i (n : Int) + (n : Int)) (n : Int)).toNat
theorem tmod_add {m n : Int} (h0 : 0 ≤ m) (h1 : m < n) : Int.tmod (m + n) n = m := by
  rw [Int.tmod_eq_emod_of_nonneg (by omega), Int.add_emod_right, Int.emod_eq_of_lt h0 h1]
theorem ix_self {n k : Nat} (h : k < n) : L.ix n (k : Int) = k := by
  unfold L.ix
  rw [Int.tmod_eq_of_lt (show 0 ≤ (k : Int) by omega) (show (k : Int) < n by omega), tmod_add (by omega) (by omega)]
  omega
theorem ix_next {n k : Nat} (h : k < n) : L.ix n ((k : Int) + 1) = L.next n k := by
  unfold L.ix L.next
  by_cases e : k + 1 < n
  · rw [Int.tmod_eq_of_lt (show 0 ≤ (k : Int) + 1 by omega) (show (k : Int) + 1 < n by omega), tmod_add (by omega) (by omega)]
  · rw [show (k : Int) + 1 = (n : Int) by omega, Int.tmod_self, Int.zero_add, Int.tmod_self]
theorem ix_prev {n k : Nat} (h : k < n) : L.ix n ((k : Int) - 1) = L.prev n k := by
  unfold L.ix L.prev
  by_cases e : 1 ≤ k
  · rw [Int.tmod_eq_of_lt (show 0 ≤ (k : Int) - 1 by omega) (show (k : Int) - 1 < n by omega), show (k : Int) + (n : Int) - 1 = (k : Int) - 1 + n by omega]
  · obtain rfl : k = 0 := by omega
    by_cases e1 : n = 1
    · subst e1; rfl
    · rw [show ((0 : Nat) : Int) - 1 = -(1 : Int) by omega, Int.neg_tmod, Int.tmod_eq_of_lt (show 0 ≤ (1 : Int) by omega) (show (1 : Int) < n by omega), show -(1 : Int) + (n : Int) = ((0 : Nat) : Int) + (n : Int) - 1 by omega]
theorem ix_bd {n : Nat} {i : Int} (h : 0 < n) : 0 ≤ Int.tmod i (n : Int) + (n : Int) ∧ Int.tmod i (n : Int) + (n : Int) ≤ 2 * (n : Int) ∧ 0 ≤ Int.tmod (Int.tmod i (n : Int) + (n : Int)) (n : Int) ∧ Int.tmod (Int.tmod i (n : Int) + (n : Int)) (n : Int) < (n : Int) := by
  have h1 := Int.lt_tmod_of_pos i (show 0 < (n : Int) by omega)
  have h2 := Int.tmod_lt_of_pos i (show 0 < (n : Int) by omega)
  exact ⟨by omega, by omega, Int.tmod_nonneg _ (by omega), Int.tmod_lt_of_pos _ (by omega)⟩
theorem ix_lt {n : Nat} {i : Int} (h : 0 < n) : L.ix n i < n := by
  have := ix_bd (i := i) h
  unfold L.ix; omega
theorem cmpPt_neg {a b : L.Pt} : decide (L.cmpPt a b < 0) = (bif decide (a.x < b.x) then true else bif decide (a.x = b.x) then decide (a.y < b.y) else false) := by
  unfold L.cmpPt L.or2 L.cmp
  rcases Int.lt_trichotomy a.x b.x with h1 | h1 | h1 <;> rcases Int.lt_trichotomy a.y b.y with h2 | h2 | h2 <;> grind
theorem ix_emod {n : Nat} {a : Int} (h : 0 < n) : ((L.ix n a : Nat) : Int) = a % (n : Int) := by
  obtain ⟨q1, q2, q3, q4⟩ := ix_bd (i := a) h
  unfold L.ix
  rw [Int.toNat_of_nonneg q3, Int.tmod_eq_emod_of_nonneg q1, Int.add_emod_right]
  have := Int.tmod_add_mul_tdiv a (n : Int)
  conv => rhs; rw [← this]
  rw [Int.add_mul_emod_self_left]
theorem ix_congr {n : Nat} {a b : Int} (hn : 0 < n) (h : a % (n : Int) = b % (n : Int)) (c : Int) : L.ix n (a + c) = L.ix n (b + c) := by
  have h1 := ix_emod (a := a + c) hn
  have h2 := ix_emod (a := b + c) hn
  rw [← Int.emod_add_emod, h, Int.emod_add_emod] at h1
  omega
theorem ix_ix {n : Nat} {a : Int} (hn : 0 < n) (c : Int) : L.ix n (((L.ix n a : Nat) : Int) + c) = L.ix n (a + c) :=
  ix_congr hn (by rw [ix_emod hn, Int.emod_emod]) c
theorem outline_all {l : L.Sq L.Pt} (hv : L.validOutline l = true) : (∀ i, i < l.n → L.validPt (l.g i) = true) ∧ ∀ i, i < l.n → L.cross (l.g (L.prev l.n i)) (l.g i) (l.g (L.next l.n i)) ≠ 0 := by
  unfold L.validOutline at hv
  rw [Bool.and_eq_true, Bool.and_eq_true] at hv
  constructor
  · have h := hv.1
    unfold L.valid3 at h
    cases h2 : L.validPts l with
    | true => exact allB_iff.1 h2
    | false =>
      rw [h2] at h
      revert h
      cases L.within (l.n : Int) 3 24 <;> intro h <;> cases h
  · intro i hi e
    have h := allB_iff.1 hv.2.1 i hi
    unfold L.corner at h
    rw [decide_eq_true e] at h
    cases h
def r1_ValidPoint_p (p : L.Pt) : Prop := True
def r1_ValidPoint_r (p : L.Pt) : SV := .bool (L.validPt p)
def r1_ValidPoint_s : List EV → Option (Prop × SV)
  | [.p (.agg [.int .i64 p_x, .int .i64 p_y])] => some (r1_ValidPoint_p (⟨p_x, p_y⟩ : L.Pt), r1_ValidPoint_r (⟨p_x, p_y⟩ : L.Pt))
  | _ => none
abbrev r1_ValidPoint_S : SE.Spec := (specO r1_ValidPoint_s)
def r1_ValidPoint_C : Cfg := { muts := [], frz := lookN [], specs := lookS [], loops := lookL [], iters := lookI [], rfs := lookR [], nils := lookM [] }
theorem r1_ValidPoint_vc (p : L.Pt) (hp : r1_ValidPoint_p p) : vc Tryz.prog (r1_ValidPoint_C) (bodyOf Tryz.f147) (st0 Tryz.f147 [.p (.agg [.int .i64 p.x, .int .i64 p.y])]) (retFn Tryz.prog Tryz.f147 (r1_ValidPoint_r p)) :=
  @Eq.mpr _ ((bif bif bif Decidable.decide ((0 : Int) ≤ p.x) then Decidable.decide (p.x ≤ (4096 : Int)) else Bool.false then Decidable.decide ((0 : Int) ≤ p.y) else Bool.false then Decidable.decide (p.y ≤ (4096 : Int)) else Bool.false) = L.validPt p) (by kernel_rfl) (by
    unfold L.validPt L.within
    rw [band, band, band]
    cases decide (0 ≤ p.x) <;> cases decide (p.x ≤ 4096) <;> cases decide (0 ≤ p.y) <;> cases decide (p.y ≤ 4096) <;> rfl)
theorem r1_ValidPoint_ok : SpecOk Tryz.prog 147 r1_ValidPoint_S := fnX Tryz.func147 (c := bodyOf Tryz.f147) (by kernel_rfl) mixed (fun args p r hs hp => by
  unfold r1_ValidPoint_s at hs
  split at hs
  · cases hs; exact ⟨_, _, r1_ValidPoint_vc _ hp, (.same _ .nil), ⟨show SpecsL Tryz.prog _ from SpecsL.nil, rfl, ⟨show ItersL Tryz.prog _ from ItersL.nil, (TrsOk.none (fun _ => rfl))⟩⟩⟩
  · cases hs)
theorem r1_ValidPoint_en : Enters Tryz.prog 147 := fun args w => by kernel_rfl
theorem r1_ValidPoint_B : ∀ args p r, r1_ValidPoint_s args = some (p, r) → ∃ b, r = .bool b := by
  intro args p r h
  unfold r1_ValidPoint_s at h
  split at h
  · cases h; exact ⟨_, rfl⟩
  · cases h
def r1_points_p (l : (L.Sq L.Pt)) : Prop := l.n ≤ 1000000
def r1_points_r (l : (L.Sq L.Pt)) : SV := .bool (L.validPts l)
def r1_points_s : List EV → Option (Prop × SV)
  | [.p (.sl 2 l_n l_g)] => some ((∀ i, i < l_n → l_g i = [.int .i64 ((ofPt (l_g i)).x), .int .i64 ((ofPt (l_g i)).y)]) ∧ r1_points_p (⟨l_n, fun i => ofPt (l_g i)⟩ : (L.Sq L.Pt)), r1_points_r (⟨l_n, fun i => ofPt (l_g i)⟩ : (L.Sq L.Pt)))
  | _ => none
abbrev r1_points_S : SE.Spec := (specO r1_points_s)
def r1_points_C : Cfg := { muts := [], frz := lookN [], specs := lookS [(147, r1_ValidPoint_S)], loops := fun _ => none, iters := lookI [], rfs := lookR [], nils := lookM [] }
theorem r1_points_vc (l : (L.Sq L.Pt)) (hp : r1_points_p l) : vc Tryz.prog ({ r1_points_C with loops := lookL [(2, { T := Nat, keep := [0], keepO := [], chg := fun i => [(3, .p (.int .i64 (i : Int)))], own := fun _ => [], inv := fun i => i ≤ l.n ∧ ∀ j, j < i → L.validPt (l.g j) = true, mu := fun i => l.n - i })], rfs := lookR [] }) (bodyOf Tryz.f74) (st0 Tryz.f74 [.p (.sl 2 l.n (fun i => [.int .i64 ((l.g i).x), .int .i64 ((l.g i).y)]))]) (retFn Tryz.prog Tryz.f74 (r1_points_r l)) :=
  @Eq.mpr _ ((∃ (g : Nat), (0 : Int) = (↑g : Int) ∧ g ≤ l.n ∧ ∀ (j : Nat), j < g → L.validPt (l.g j) = Bool.true) ∧ ∀ (g : Nat), (g ≤ l.n ∧ ∀ (j : Nat), j < g → L.validPt (l.g j) = Bool.true) → (Decidable.decide ((↑g : Int) < (↑l.n : Int)) = Bool.true → ((0 : Int) ≤ (↑g : Int) ∧ (↑g : Int) < (↑l.n : Int)) ∧ True ∧ ((!L.validPt (l.g (Int.toNat (↑g : Int)))) = Bool.true → Bool.false = L.validPts l) ∧
 ((!L.validPt (l.g (Int.toNat (↑g : Int)))) = Bool.false → Go.SE.InK Go.IntKind.i64 ((↑g : Int) + (1 : Int)) ∧ ∃ (g' : Nat), (↑g : Int) + (1 : Int) = (↑g' : Int) ∧ (l.n = l.n ∧ ∀ (i : Nat), i < l.n → [Go.SE.SV.int Go.IntKind.i64 (l.g i).x, Go.SE.SV.int Go.IntKind.i64 (l.g i).y] = [Go.SE.SV.int Go.IntKind.i64 (l.g i).x, Go.SE.SV.int Go.IntKind.i64 (l.g i).y]) ∧ (g' ≤ l.n ∧ ∀ (j : Nat), j < g' →
 L.validPt (l.g j) = Bool.true) ∧ l.n - g' < l.n - g)) ∧ (Decidable.decide ((↑g : Int) < (↑l.n : Int)) = Bool.false → Bool.true = L.validPts l)) (by kernel_rfl) (by
    have hn : l.n ≤ 1000000 := hp
    refine ⟨⟨(0 : Nat), rfl, Nat.zero_le _, fun j hj => absurd hj (Nat.not_lt_zero _)⟩, fun g hg => ⟨fun hlt => ?_, fun hge => ?_⟩⟩
    · have hb : (g : Int) < (l.n : Int) := of_decide_eq_true hlt
      have e0 : ((g : Int)).toNat = g := by omega
      rw [e0]
      refine ⟨by omega, trivial, fun h1 => ?_, fun h1 => ?_⟩
      · unfold L.validPts; rw [allB_false (i := g) (by omega) (notT h1)]
      · exact ⟨InK.of (by omega) (by omega), g + 1, by omega, ⟨rfl, fun _ _ => rfl⟩, ⟨by omega, fun j hj => by
          rcases Nat.lt_succ_iff_lt_or_eq.1 hj with h' | rfl
          · exact hg.2 j h'
          · exact notF h1⟩, by omega⟩
    · have hb : ¬ (g : Int) < (l.n : Int) := of_decide_eq_false hge
      exact (allB_iff.2 (fun i hi => hg.2 i (by omega))).symm)
theorem r1_points_ok : SpecOk Tryz.prog 74 r1_points_S := fnX Tryz.func74 (c := bodyOf Tryz.f74) (by kernel_rfl) mixed (fun args p r hs hp => by
  unfold r1_points_s at hs
  split at hs
  · cases hs; exact ⟨_, _, r1_points_vc _ hp.2, (.p (.sl hp.1) .nil), ⟨show SpecsL Tryz.prog _ from (SpecsL.cons r1_ValidPoint_ok r1_ValidPoint_en SpecsL.nil), rfl, ⟨show ItersL Tryz.prog _ from ItersL.nil, (TrsOk.none (fun _ => rfl))⟩⟩⟩
  · cases hs)
theorem r1_points_en : Enters Tryz.prog 74 := fun args w => by kernel_rfl
theorem r1_points_B : ∀ args p r, r1_points_s args = some (p, r) → ∃ b, r = .bool b := by
  intro args p r h
  unfold r1_points_s at h
  split at h
  · cases h; exact ⟨_, rfl⟩
  · cases h
def r1_Cross_p (a : L.Pt) (b : L.Pt) (c : L.Pt) : Prop := L.bd a ∧ L.bd b ∧ L.bd c
def r1_Cross_r (a : L.Pt) (b : L.Pt) (c : L.Pt) : SV := .int .i64 (L.cross a b c)
def r1_Cross_s : List EV → Option (Prop × SV)
  | [.p (.agg [.int .i64 a_x, .int .i64 a_y]), .p (.agg [.int .i64 b_x, .int .i64 b_y]), .p (.agg [.int .i64 c_x, .int .i64 c_y])] => some (r1_Cross_p (⟨a_x, a_y⟩ : L.Pt) (⟨b_x, b_y⟩ : L.Pt) (⟨c_x, c_y⟩ : L.Pt), r1_Cross_r (⟨a_x, a_y⟩ : L.Pt) (⟨b_x, b_y⟩ : L.Pt) (⟨c_x, c_y⟩ : L.Pt))
  | _ => none
abbrev r1_Cross_S : SE.Spec := (specO r1_Cross_s)
def r1_Cross_C : Cfg := { muts := [], frz := lookN [], specs := lookS [], loops := lookL [], iters := lookI [], rfs := lookR [], nils := lookM [] }
theorem r1_Cross_vc (a : L.Pt) (b : L.Pt) (c : L.Pt) (hp : r1_Cross_p a b c) : vc Tryz.prog (r1_Cross_C) (bodyOf Tryz.f93) (st0 Tryz.f93 [.p (.agg [.int .i64 a.x, .int .i64 a.y]), .p (.agg [.int .i64 b.x, .int .i64 b.y]), .p (.agg [.int .i64 c.x, .int .i64 c.y])]) (retFn Tryz.prog Tryz.f93 (r1_Cross_r a b c)) :=
  @Eq.mpr _ (Go.SE.InK Go.IntKind.i64 (b.x - a.x) ∧ Go.SE.InK Go.IntKind.i64 (c.y - a.y) ∧ Go.SE.InK Go.IntKind.i64 ((b.x - a.x) * (c.y - a.y)) ∧ Go.SE.InK Go.IntKind.i64 (b.y - a.y) ∧ Go.SE.InK Go.IntKind.i64 (c.x - a.x) ∧ Go.SE.InK Go.IntKind.i64 ((b.y - a.y) * (c.x - a.x)) ∧ Go.SE.InK Go.IntKind.i64 ((b.x - a.x) * (c.y - a.y) - (b.y - a.y) * (c.x - a.x)) ∧ (b.x - a.x) * (c.y - a.y) - (b.y - a.y) * (c.x -
 a.x) = L.cross a b c) (by kernel_rfl) (by
    obtain ⟨h1, h2, h3⟩ := hp
    unfold L.bd at h1 h2 h3
    have m1 := mul_bd (a := b.x - a.x) (b := c.y - a.y) (m := 8000000) (n := 8000000) (by omega) (by omega) (by omega) (by omega)
    have m2 := mul_bd (a := b.y - a.y) (b := c.x - a.x) (m := 8000000) (n := 8000000) (by omega) (by omega) (by omega) (by omega)
    exact ⟨InK.of (by omega) (by omega), InK.of (by omega) (by omega), InK.of (by omega) (by omega), InK.of (by omega) (by omega), InK.of (by omega) (by omega), InK.of (by omega) (by omega), InK.of (by omega) (by omega), rfl⟩)
theorem r1_Cross_ok : SpecOk Tryz.prog 93 r1_Cross_S := fnX Tryz.func93 (c := bodyOf Tryz.f93) (by kernel_rfl) mixed (fun args p r hs hp => by
  unfold r1_Cross_s at hs
  split at hs
  · cases hs; exact ⟨_, _, r1_Cross_vc _ _ _ hp, (.same _ (.same _ (.same _ .nil))), ⟨show SpecsL Tryz.prog _ from SpecsL.nil, rfl, ⟨show ItersL Tryz.prog _ from ItersL.nil, (TrsOk.none (fun _ => rfl))⟩⟩⟩
  · cases hs)
theorem r1_Cross_en : Enters Tryz.prog 93 := fun args w => by kernel_rfl
theorem r1_Cross_I : ∀ args p r, r1_Cross_s args = some (p, r) → ∃ n, r = .int .i64 n := by
  intro args p r h
  unfold r1_Cross_s at h
  split at h
  · cases h; exact ⟨_, rfl⟩
  · cases h
def r1_less_p (a : L.Pt) (b : L.Pt) : Prop := True
def r1_less_r (a : L.Pt) (b : L.Pt) : SV := .bool (decide (L.cmpPt a b < 0))
def r1_less_s : List EV → Option (Prop × SV)
  | [.p (.agg [.int .i64 a_x, .int .i64 a_y]), .p (.agg [.int .i64 b_x, .int .i64 b_y])] => some (r1_less_p (⟨a_x, a_y⟩ : L.Pt) (⟨b_x, b_y⟩ : L.Pt), r1_less_r (⟨a_x, a_y⟩ : L.Pt) (⟨b_x, b_y⟩ : L.Pt))
  | _ => none
abbrev r1_less_S : SE.Spec := (specO r1_less_s)
def r1_less_C : Cfg := { muts := [], frz := lookN [], specs := lookS [], loops := lookL [], iters := lookI [], rfs := lookR [], nils := lookM [] }
theorem r1_less_vc (a : L.Pt) (b : L.Pt) (hp : r1_less_p a b) : vc Tryz.prog (r1_less_C) (bodyOf Tryz.f92) (st0 Tryz.f92 [.p (.agg [.int .i64 a.x, .int .i64 a.y]), .p (.agg [.int .i64 b.x, .int .i64 b.y])]) (retFn Tryz.prog Tryz.f92 (r1_less_r a b)) :=
  @Eq.mpr _ ((bif Decidable.decide (a.x < b.x) then Bool.true else bif Decidable.decide (a.x = b.x) then Decidable.decide (a.y < b.y) else Bool.false) = Decidable.decide (L.cmpPt a b < (0 : Int))) (by kernel_rfl) (by
    exact cmpPt_neg.symm)
theorem r1_less_ok : SpecOk Tryz.prog 92 r1_less_S := fnX Tryz.func92 (c := bodyOf Tryz.f92) (by kernel_rfl) mixed (fun args p r hs hp => by
  unfold r1_less_s at hs
  split at hs
  · cases hs; exact ⟨_, _, r1_less_vc _ _ hp, (.same _ (.same _ .nil)), ⟨show SpecsL Tryz.prog _ from SpecsL.nil, rfl, ⟨show ItersL Tryz.prog _ from ItersL.nil, (TrsOk.none (fun _ => rfl))⟩⟩⟩
  · cases hs)
theorem r1_less_en : Enters Tryz.prog 92 := fun args w => by kernel_rfl
theorem r1_less_B : ∀ args p r, r1_less_s args = some (p, r) → ∃ b, r = .bool b := by
  intro args p r h
  unfold r1_less_s at h
  split at h
  · cases h; exact ⟨_, rfl⟩
  · cases h
def r1_On_p (a : L.Pt) (b : L.Pt) (p : L.Pt) : Prop := L.bd a ∧ L.bd b ∧ L.bd p
def r1_On_r (a : L.Pt) (b : L.Pt) (p : L.Pt) : SV := .bool (L.on a b p)
def r1_On_s : List EV → Option (Prop × SV)
  | [.p (.agg [.int .i64 a_x, .int .i64 a_y]), .p (.agg [.int .i64 b_x, .int .i64 b_y]), .p (.agg [.int .i64 p_x, .int .i64 p_y])] => some (r1_On_p (⟨a_x, a_y⟩ : L.Pt) (⟨b_x, b_y⟩ : L.Pt) (⟨p_x, p_y⟩ : L.Pt), r1_On_r (⟨a_x, a_y⟩ : L.Pt) (⟨b_x, b_y⟩ : L.Pt) (⟨p_x, p_y⟩ : L.Pt))
  | _ => none
abbrev r1_On_S : SE.Spec := (specO r1_On_s)
def r1_On_C : Cfg := { muts := [], frz := lookN [], specs := lookS [(93, r1_Cross_S)], loops := lookL [], iters := lookI [], rfs := lookR [], nils := lookM [] }
theorem r1_On_vc (a : L.Pt) (b : L.Pt) (p : L.Pt) (hp : r1_On_p a b p) : vc Tryz.prog (r1_On_C) (bodyOf Tryz.f190) (st0 Tryz.f190 [.p (.agg [.int .i64 a.x, .int .i64 a.y]), .p (.agg [.int .i64 b.x, .int .i64 b.y]), .p (.agg [.int .i64 p.x, .int .i64 p.y])]) (retFn Tryz.prog Tryz.f190 (r1_On_r a b p)) :=
  @Eq.mpr _ ((L.bd a ∧ L.bd b ∧ L.bd p) ∧ (bif bif bif bif Decidable.decide (L.cross a b p = (0 : Int)) then Decidable.decide (Min.min a.x b.x ≤ p.x) else Bool.false then Decidable.decide (p.x ≤ Max.max a.x b.x) else Bool.false then Decidable.decide (Min.min a.y b.y ≤ p.y) else Bool.false then Decidable.decide (p.y ≤ Max.max a.y b.y) else Bool.false) = L.on a b p) (by kernel_rfl) (by
    obtain ⟨h1, h2, h3⟩ := hp
    refine ⟨⟨h1, h2, h3⟩, ?_⟩
    unfold L.on L.within
    rw [band, band, band, band]
    cases decide (L.cross a b p = 0) <;> cases decide (min a.x b.x ≤ p.x) <;> cases decide (p.x ≤ max a.x b.x) <;> cases decide (min a.y b.y ≤ p.y) <;> cases decide (p.y ≤ max a.y b.y) <;> rfl)
theorem r1_On_ok : SpecOk Tryz.prog 190 r1_On_S := fnX Tryz.func190 (c := bodyOf Tryz.f190) (by kernel_rfl) mixed (fun args p r hs hp => by
  unfold r1_On_s at hs
  split at hs
  · cases hs; exact ⟨_, _, r1_On_vc _ _ _ hp, (.same _ (.same _ (.same _ .nil))), ⟨show SpecsL Tryz.prog _ from (SpecsL.cons r1_Cross_ok r1_Cross_en SpecsL.nil), rfl, ⟨show ItersL Tryz.prog _ from ItersL.nil, (TrsOk.none (fun _ => rfl))⟩⟩⟩
  · cases hs)
theorem r1_On_en : Enters Tryz.prog 190 := fun args w => by kernel_rfl
theorem r1_On_B : ∀ args p r, r1_On_s args = some (p, r) → ∃ b, r = .bool b := by
  intro args p r h
  unfold r1_On_s at h
  split at h
  · cases h; exact ⟨_, rfl⟩
  · cases h
def r1_sign_p (n : Int) : Prop := True
def r1_sign_r (n : Int) : SV := .int .i64 (L.cmp n 0)
def r1_sign_s : List EV → Option (Prop × SV)
  | [.p (.int .i64 n)] => some (r1_sign_p n, r1_sign_r n)
  | _ => none
abbrev r1_sign_S : SE.Spec := (specO r1_sign_s)
def r1_sign_C : Cfg := { muts := [], frz := lookN [], specs := lookS [], loops := lookL [], iters := lookI [], rfs := lookR [], nils := lookM [] }
theorem r1_sign_vc (n : Int) (hp : r1_sign_p n) : vc Tryz.prog (r1_sign_C) (bodyOf Tryz.f95) (st0 Tryz.f95 [.p (.int .i64 n)]) (retFn Tryz.prog Tryz.f95 (r1_sign_r n)) :=
  @Eq.mpr _ ((Decidable.decide ((0 : Int) < n) = Bool.true → (1 : Int) = L.cmp n (0 : Int)) ∧ (Decidable.decide ((0 : Int) < n) = Bool.false → (Decidable.decide (n < (0 : Int)) = Bool.true → (-1 : Int) = L.cmp n (0 : Int)) ∧ (Decidable.decide (n < (0 : Int)) = Bool.false → (0 : Int) = L.cmp n (0 : Int)))) (by kernel_rfl) (by
    refine ⟨fun h => ?_, fun h => ⟨fun h1 => ?_, fun h1 => ?_⟩⟩
    · have h := of_decide_eq_true h
      unfold L.cmp; rw [decide_eq_false (by omega), decide_eq_true h]; rfl
    · have h1 := of_decide_eq_true h1
      unfold L.cmp; rw [decide_eq_true h1]; rfl
    · unfold L.cmp; rw [h1, h]; rfl)
theorem r1_sign_ok : SpecOk Tryz.prog 95 r1_sign_S := fnX Tryz.func95 (c := bodyOf Tryz.f95) (by kernel_rfl) mixed (fun args p r hs hp => by
  unfold r1_sign_s at hs
  split at hs
  · cases hs; exact ⟨_, _, r1_sign_vc _ hp, (.same _ .nil), ⟨show SpecsL Tryz.prog _ from SpecsL.nil, rfl, ⟨show ItersL Tryz.prog _ from ItersL.nil, (TrsOk.none (fun _ => rfl))⟩⟩⟩
  · cases hs)
theorem r1_sign_en : Enters Tryz.prog 95 := fun args w => by kernel_rfl
theorem r1_sign_I : ∀ args p r, r1_sign_s args = some (p, r) → ∃ n, r = .int .i64 n := by
  intro args p r h
  unfold r1_sign_s at h
  split at h
  · cases h; exact ⟨_, rfl⟩
  · cases h
def r1_at_p (l : (L.Sq L.Pt)) (i : Int) : Prop := 1 ≤ l.n ∧ l.n ≤ 1000000 ∧ -1000000 ≤ i ∧ i ≤ 1000000
def r1_at_r (l : (L.Sq L.Pt)) (i : Int) : SV := (.agg [.int .i64 ((l.g (L.ix l.n i)).x), .int .i64 ((l.g (L.ix l.n i)).y)])
def r1_at_s : List EV → Option (Prop × SV)
  | [.p (.sl 2 l_n l_g), .p (.int .i64 i)] => some ((∀ i, i < l_n → l_g i = [.int .i64 ((ofPt (l_g i)).x), .int .i64 ((ofPt (l_g i)).y)]) ∧ r1_at_p (⟨l_n, fun i => ofPt (l_g i)⟩ : (L.Sq L.Pt)) i, r1_at_r (⟨l_n, fun i => ofPt (l_g i)⟩ : (L.Sq L.Pt)) i)
  | _ => none
abbrev r1_at_S : SE.Spec := (specO r1_at_s)
def r1_at_C : Cfg := { muts := [], frz := lookN [], specs := lookS [], loops := lookL [], iters := lookI [], rfs := lookR [], nils := lookM [] }
theorem r1_at_vc (l : (L.Sq L.Pt)) (i : Int) (hp : r1_at_p l i) : vc Tryz.prog (r1_at_C) (bodyOf Tryz.f76) (st0 Tryz.f76 [.p (.sl 2 l.n (fun i => [.int .i64 ((l.g i).x), .int .i64 ((l.g i).y)])), .p (.int .i64 i)]) (retFn Tryz.prog Tryz.f76 (r1_at_r l i)) :=
  @Eq.mpr _ ((↑l.n : Int) ≠ (0 : Int) ∧ Go.SE.InK Go.IntKind.i64 (Int.tmod i (↑l.n : Int) + (↑l.n : Int)) ∧ (↑l.n : Int) ≠ (0 : Int) ∧ ((0 : Int) ≤ Int.tmod (Int.tmod i (↑l.n : Int) + (↑l.n : Int)) (↑l.n : Int) ∧ Int.tmod (Int.tmod i (↑l.n : Int) + (↑l.n : Int)) (↑l.n : Int) < (↑l.n : Int)) ∧ Go.SE.SV.agg [Go.SE.SV.int Go.IntKind.i64 (l.g (Int.toNat (Int.tmod (Int.tmod i (↑l.n : Int) + (↑l.n : Int)) (↑l.n :
 Int)))).x, Go.SE.SV.int Go.IntKind.i64 (l.g (Int.toNat (Int.tmod (Int.tmod i (↑l.n : Int) + (↑l.n : Int)) (↑l.n : Int)))).y] = Go.SE.SV.agg [Go.SE.SV.int Go.IntKind.i64 (l.g (L.ix l.n i)).x, Go.SE.SV.int Go.IntKind.i64 (l.g (L.ix l.n i)).y]) (by kernel_rfl) (by
    obtain ⟨h1, h2, h3, h4⟩ := hp
    obtain ⟨q1, q2, q3, q4⟩ := ix_bd (n := l.n) (i := i) (by omega)
    exact ⟨by omega, InK.of (by omega) (by omega), by omega, ⟨q3, q4⟩, rfl⟩)
theorem r1_at_ok : SpecOk Tryz.prog 76 r1_at_S := fnX Tryz.func76 (c := bodyOf Tryz.f76) (by kernel_rfl) mixed (fun args p r hs hp => by
  unfold r1_at_s at hs
  split at hs
  · cases hs; exact ⟨_, _, r1_at_vc _ _ hp.2, (.p (.sl hp.1) (.same _ .nil)), ⟨show SpecsL Tryz.prog _ from SpecsL.nil, rfl, ⟨show ItersL Tryz.prog _ from ItersL.nil, (TrsOk.none (fun _ => rfl))⟩⟩⟩
  · cases hs)
theorem r1_at_en : Enters Tryz.prog 76 := fun args w => by kernel_rfl
def r1_sum_p (l : (L.Sq L.Pt)) : Prop := L.small l
def r1_sum_r (l : (L.Sq L.Pt)) : SV := .int .i64 (L.areaTo l l.n)
def r1_sum_s : List EV → Option (Prop × SV)
  | [.p (.sl 2 l_n l_g)] => some ((∀ i, i < l_n → l_g i = [.int .i64 ((ofPt (l_g i)).x), .int .i64 ((ofPt (l_g i)).y)]) ∧ r1_sum_p (⟨l_n, fun i => ofPt (l_g i)⟩ : (L.Sq L.Pt)), r1_sum_r (⟨l_n, fun i => ofPt (l_g i)⟩ : (L.Sq L.Pt)))
  | _ => none
abbrev r1_sum_S : SE.Spec := (specO r1_sum_s)
def r1_sum_C : Cfg := { muts := [], frz := lookN [], specs := lookS [(76, r1_at_S)], loops := fun _ => none, iters := lookI [], rfs := lookR [], nils := lookM [] }
theorem r1_sum_vc (l : (L.Sq L.Pt)) (hp : r1_sum_p l) : vc Tryz.prog ({ r1_sum_C with loops := lookL [(3, { T := Nat, keep := [0], keepO := [], chg := fun i => [(3, .p (.int .i64 (L.areaTo l i))), (4, .p (.int .i64 (i : Int)))], own := fun _ => [], inv := fun i => i ≤ l.n, mu := fun i => l.n - i })], rfs := lookR [] }) (bodyOf Tryz.f88) (st0 Tryz.f88 [.p (.sl 2 l.n (fun i => [.int .i64 ((l.g i).x), .int .i64 ((l.g i).y)]))]) (retFn Tryz.prog Tryz.f88 (r1_sum_r l)) :=
  @Eq.mpr _ ((∃ (g : Nat), (0 : Int) = L.areaTo l g ∧ (0 : Int) = (↑g : Int) ∧ g ≤ l.n) ∧ ∀ (g : Nat), g ≤ l.n → (Decidable.decide ((↑g : Int) < (↑l.n : Int)) = Bool.true → ((∀ (i : Nat), i < l.n → [Go.SE.SV.int Go.IntKind.i64 (l.g i).x, Go.SE.SV.int Go.IntKind.i64 (l.g i).y] = [Go.SE.SV.int Go.IntKind.i64 (l.g i).x, Go.SE.SV.int Go.IntKind.i64 (l.g i).y]) ∧ (1 : Nat) ≤ l.n ∧ l.n ≤ (1000000 : Nat) ∧ (-1000000
 : Int) ≤ (↑g : Int) ∧ (↑g : Int) ≤ (1000000 : Int)) ∧ Go.SE.InK Go.IntKind.i64 ((↑g : Int) + (1 : Int)) ∧ ((∀ (i : Nat), i < l.n → [Go.SE.SV.int Go.IntKind.i64 (l.g i).x, Go.SE.SV.int Go.IntKind.i64 (l.g i).y] = [Go.SE.SV.int Go.IntKind.i64 (l.g i).x, Go.SE.SV.int Go.IntKind.i64 (l.g i).y]) ∧ (1 : Nat) ≤ l.n ∧ l.n ≤ (1000000 : Nat) ∧ (-1000000 : Int) ≤ (↑g : Int) + (1 : Int) ∧ (↑g : Int) + (1 :
 Int) ≤ (1000000 : Int)) ∧ Go.SE.InK Go.IntKind.i64 ((l.g (L.ix l.n (↑g : Int))).x * (l.g (L.ix l.n ((↑g : Int) + (1 : Int)))).y) ∧ Go.SE.InK Go.IntKind.i64 ((l.g (L.ix l.n ((↑g : Int) + (1 : Int)))).x * (l.g (L.ix l.n (↑g : Int))).y) ∧ Go.SE.InK Go.IntKind.i64 ((l.g (L.ix l.n (↑g : Int))).x * (l.g (L.ix l.n ((↑g : Int) + (1 : Int)))).y - (l.g (L.ix l.n ((↑g : Int) + (1 : Int)))).x * (l.g (L.ix l.n
 (↑g : Int))).y) ∧ Go.SE.InK Go.IntKind.i64 (L.areaTo l g + ((l.g (L.ix l.n (↑g : Int))).x * (l.g (L.ix l.n ((↑g : Int) + (1 : Int)))).y - (l.g (L.ix l.n ((↑g : Int) + (1 : Int)))).x * (l.g (L.ix l.n (↑g : Int))).y)) ∧ Go.SE.InK Go.IntKind.i64 ((↑g : Int) + (1 : Int)) ∧ ∃ (g' : Nat), L.areaTo l g + ((l.g (L.ix l.n (↑g : Int))).x * (l.g (L.ix l.n ((↑g : Int) + (1 : Int)))).y - (l.g (L.ix l.n ((↑g :
 Int) + (1 : Int)))).x * (l.g (L.ix l.n (↑g : Int))).y) = L.areaTo l g' ∧ (↑g : Int) + (1 : Int) = (↑g' : Int) ∧ (l.n = l.n ∧ ∀ (i : Nat), i < l.n → [Go.SE.SV.int Go.IntKind.i64 (l.g i).x, Go.SE.SV.int Go.IntKind.i64 (l.g i).y] = [Go.SE.SV.int Go.IntKind.i64 (l.g i).x, Go.SE.SV.int Go.IntKind.i64 (l.g i).y]) ∧ g' ≤ l.n ∧ l.n - g' < l.n - g) ∧ (Decidable.decide ((↑g : Int) < (↑l.n : Int)) =
 Bool.false → L.areaTo l g = L.areaTo l l.n)) (by kernel_rfl) (by
    have hs : L.small l := hp
    have hn := hs.1
    refine ⟨⟨(0 : Nat), rfl, rfl, Nat.zero_le _⟩, fun g hg => ⟨fun hlt => ?_, fun hge => ?_⟩⟩
    · have hb : (g : Int) < (l.n : Int) := of_decide_eq_true hlt
      have hk : g < l.n := by omega
      rw [ix_self hk, ix_next hk]
      have b1 := area_term hs hk
      have b2 := areaTo_bd hs g hg
      exact ⟨⟨fun _ _ => rfl, by omega, by omega, by omega, by omega⟩, InK.of (by omega) (by omega), ⟨fun _ _ => rfl, by omega, by omega, by omega, by omega⟩, InK.of (by omega) (by omega), InK.of (by omega) (by omega), InK.of (by omega) (by omega), InK.of (by omega) (by omega), InK.of (by omega) (by omega), g + 1, rfl, by omega, ⟨rfl, fun _ _ => rfl⟩, by omega, by omega⟩
    · have hb : ¬ (g : Int) < (l.n : Int) := of_decide_eq_false hge
      obtain rfl : g = l.n := by omega
      rfl)
theorem r1_sum_ok : SpecOk Tryz.prog 88 r1_sum_S := fnX Tryz.func88 (c := bodyOf Tryz.f88) (by kernel_rfl) mixed (fun args p r hs hp => by
  unfold r1_sum_s at hs
  split at hs
  · cases hs; exact ⟨_, _, r1_sum_vc _ hp.2, (.p (.sl hp.1) .nil), ⟨show SpecsL Tryz.prog _ from (SpecsL.cons r1_at_ok r1_at_en SpecsL.nil), rfl, ⟨show ItersL Tryz.prog _ from ItersL.nil, (TrsOk.none (fun _ => rfl))⟩⟩⟩
  · cases hs)
theorem r1_sum_en : Enters Tryz.prog 88 := fun args w => by kernel_rfl
theorem r1_sum_I : ∀ args p r, r1_sum_s args = some (p, r) → ∃ n, r = .int .i64 n := by
  intro args p r h
  unfold r1_sum_s at h
  split at h
  · cases h; exact ⟨_, rfl⟩
  · cases h
end Go.Proofs.YtooapgllahonaaaGreat

namespace Go.Proofs.YtooapgllahonaaaGreat
open Go.SE Go.RowKit
set_option maxRecDepth 100000
set_option maxHeartbeats 4000000
set_option linter.unusedVariables false
attribute [local irreducible] Go.SE.vc

def L.isP (f : FSpec) : Prop := ∀ xs, f.pre xs → ∃ a b, f.res xs = .agg [.int .i64 a, .int .i64 b]
theorem isP_of {s : List EV → Option (Prop × SV)} (h : ∀ args p r, s args = some (p, r) → ∃ a b, r = .agg [.int .i64 a, .int .i64 b]) (g : List SV → List EV) : L.isP ⟨fun xs => preO s (g xs), fun xs => resO s (g xs)⟩ := fun xs hp => by
  simp only [preO, resO] at hp ⊢
  cases hs : s (g xs) with
  | none => simp [hs] at hp
  | some q =>
    obtain ⟨p, r⟩ := q
    obtain ⟨a, b, hb⟩ := h _ p r hs
    exact ⟨a, b, hb⟩
def L.fpl (p : FSpec) (xs : List SV) : L.Pt := match p.res xs with
  | .agg cs => ofPt cs
  | _ => ⟨0, 0⟩
theorem fpl_res {p : FSpec} (h : L.isP p) {xs : List SV} (hp : p.pre xs) : p.res xs = .agg [.int .i64 (L.fpl p xs).x, .int .i64 (L.fpl p xs).y] := by
  obtain ⟨a, b, hb⟩ := h xs hp
  rw [hb, L.fpl, hb]; rfl
def L.mapTo (l : L.Sq L.Pt) (f : FSpec) (i k : Nat) : L.Pt := bif decide (k < i) then L.fpl f [(.agg [.int .i64 ((l.g k).x), .int .i64 ((l.g k).y)])] else ⟨0, 0⟩
def L.fmap (f : FSpec) (g : Nat → L.Pt) : Nat → L.Pt := fun i => L.fpl f [(.agg [.int .i64 ((g i).x), .int .i64 ((g i).y)])]
def L.turnN (p : L.Pt) : Nat → L.Pt
  | 0 => p
  | i + 1 => ⟨-(L.turnN p i).y, (L.turnN p i).x⟩
def L.mir (m : L.Motion) (p : L.Pt) : L.Pt := bif m.mirror then ⟨-p.x, p.y⟩ else p
def L.turned (m : L.Motion) (p : L.Pt) : L.Pt := L.turnN (L.mir m p) m.turn.toNat
def L.apply (m : L.Motion) (p : L.Pt) : L.Pt := ⟨(L.turned m p).x + m.by_.x, (L.turned m p).y + m.by_.y⟩
def L.validM (m : L.Motion) : Bool := (L.within m.turn 0 3 && L.within m.by_.x (-8192) 8192) && L.within m.by_.y (-8192) 8192
def L.moved (l : L.Sq L.Pt) (m : L.Motion) : L.Sq L.Pt := ⟨l.n, fun k => L.apply m (l.g k)⟩
def L.movE (l : L.Sq L.Pt) (m : L.Motion) : Int := bif (bif !L.validOutline l then true else !L.validM m) then 1 else bif !L.validPts (L.moved l m) then 2 else 0
def L.movN (l : L.Sq L.Pt) (m : L.Motion) : Nat := bif decide (L.movE l m = 0) then l.n else 0
def L.movS (l : L.Sq L.Pt) (m : L.Motion) : L.Setting := bif decide (L.movE l m = 0) then (bif m.mirror then ⟨L.ptIdx (L.norm (L.moved l m)) (L.apply m (l.g 1)), true⟩ else ⟨L.ptIdx (L.norm (L.moved l m)) (L.apply m (l.g 0)), false⟩) else ⟨0, false⟩
theorem turnN_bd {p : L.Pt} (h : L.bd p) : ∀ i, L.bd (L.turnN p i)
  | 0 => h
  | i + 1 => by
    have := turnN_bd h i
    unfold L.bd at this ⊢
    show -4000000 ≤ -(L.turnN p i).y ∧ -(L.turnN p i).y ≤ 4000000 ∧ -4000000 ≤ (L.turnN p i).x ∧ (L.turnN p i).x ≤ 4000000
    omega
theorem mir_bd {m : L.Motion} {p : L.Pt} (h : L.bd p) : L.bd (L.mir m p) := by
  unfold L.mir
  cases m.mirror
  · exact h
  · unfold L.bd at h ⊢
    show -4000000 ≤ -p.x ∧ -p.x ≤ 4000000 ∧ -4000000 ≤ p.y ∧ p.y ≤ 4000000
    omega
theorem minTo_mem (l : L.Sq L.Pt) : ∀ i, ∃ j, j ≤ i ∧ L.minTo l i = l.g j
  | 0 => ⟨0, Nat.le_refl _, rfl⟩
  | i + 1 => by
    obtain ⟨j, h1, h2⟩ := minTo_mem l i
    cases h : decide (L.cmpPt (l.g (i + 1)) (L.minTo l i) < 0) with
    | true => exact ⟨i + 1, Nat.le_refl _, by rw [L.minTo, h]; rfl⟩
    | false => exact ⟨j, by omega, by rw [L.minTo, h]; exact h2⟩
theorem minIdx {l : L.Sq L.Pt} (h : 1 ≤ l.n) : ∃ i, i < l.n ∧ L.ptIdx l (L.minTo l (l.n - 1)) = (i : Int) ∧ l.g i = L.minTo l (l.n - 1) := by
  obtain ⟨j, h1, h2⟩ := minTo_mem l (l.n - 1)
  obtain ⟨i, h3, h4, h5, _⟩ := ptIdx_of (l := l) (j := j) (by omega)
  rw [h2]
  exact ⟨i, by omega, h4, h5⟩
theorem norm_cat {t : L.Sq L.Pt} {K : Int} (h0 : 0 ≤ K) (h1 : K ≤ (t.n : Int)) (hn : 1 ≤ t.n) (hm : t.n ≤ 1000000) :
    (1 ≤ (L.two ⟨((t.n : Int) - K).toNat, fun i => t.g (K.toNat + i)⟩ ⟨(K - 0).toNat, fun i => t.g ((0 : Int).toNat + i)⟩ 0).n + (L.two ⟨((t.n : Int) - K).toNat, fun i => t.g (K.toNat + i)⟩ ⟨(K - 0).toNat, fun i => t.g ((0 : Int).toNat + i)⟩ 1).n ∧
     (L.two ⟨((t.n : Int) - K).toNat, fun i => t.g (K.toNat + i)⟩ ⟨(K - 0).toNat, fun i => t.g ((0 : Int).toNat + i)⟩ 0).n ≤ 1000000 ∧ (L.two ⟨((t.n : Int) - K).toNat, fun i => t.g (K.toNat + i)⟩ ⟨(K - 0).toNat, fun i => t.g ((0 : Int).toNat + i)⟩ 1).n ≤ 1000000) ∧
    (L.catTo (L.two ⟨((t.n : Int) - K).toNat, fun i => t.g (K.toNat + i)⟩ ⟨(K - 0).toNat, fun i => t.g ((0 : Int).toNat + i)⟩) 2).n = t.n ∧
    ∀ i, (L.catTo (L.two ⟨((t.n : Int) - K).toNat, fun i => t.g (K.toNat + i)⟩ ⟨(K - 0).toNat, fun i => t.g ((0 : Int).toNat + i)⟩) 2).g i = (L.rot t K.toNat).g i := by
  refine ⟨⟨?_, ?_, ?_⟩, ?_, fun i => ?_⟩
  · show 1 ≤ ((t.n : Int) - K).toNat + (K - 0).toNat
    omega
  · show ((t.n : Int) - K).toNat ≤ 1000000
    omega
  · show (K - 0).toNat ≤ 1000000
    omega
  · show 0 + ((t.n : Int) - K).toNat + (K - 0).toNat = t.n
    omega
  · show (bif decide (i < 0 + ((t.n : Int) - K).toNat) then (bif decide (i < 0) then (⟨0, 0⟩ : L.Pt) else t.g (K.toNat + (i - 0))) else t.g ((0 : Int).toNat + (i - (0 + ((t.n : Int) - K).toNat)))) = (bif decide (i < t.n - K.toNat) then t.g (K.toNat + i) else t.g (i - (t.n - K.toNat)))
    rw [decide_eq_false (Nat.not_lt_zero i), show 0 + ((t.n : Int) - K).toNat = t.n - K.toNat by omega, show (0 : Int).toNat + (i - (t.n - K.toNat)) = i - (t.n - K.toNat) by simp]
    rfl
theorem validM_iff {m : L.Motion} : L.validM m = true ↔ (0 ≤ m.turn ∧ m.turn ≤ 3) ∧ (-8192 ≤ m.by_.x ∧ m.by_.x ≤ 8192) ∧ -8192 ≤ m.by_.y ∧ m.by_.y ≤ 8192 := by
  unfold L.validM
  rw [Bool.and_eq_true, Bool.and_eq_true, within_iff, within_iff, within_iff]
  omega
theorem bd_of_valid {p : L.Pt} (h : L.validPt p = true) : L.bd p := by
  unfold L.validPt at h
  rw [Bool.and_eq_true, within_iff, within_iff] at h
  unfold L.bd
  omega
theorem small_of_valid {l : L.Sq L.Pt} (hn : l.n ≤ 1000) (h : L.validPts l = true) : L.small l :=
  ⟨hn, fun i hi => bd_of_valid (allB_iff.1 h i hi)⟩
def p_normal_p (l : (L.Sq L.Pt)) : Prop := L.small l ∧ 1 ≤ l.n
def p_normal_q (l : (L.Sq L.Pt)) : Nat → Prop := fun _ => True
def p_normal_n (l : (L.Sq L.Pt)) : Nat → Nat := fun _ => l.n
def p_normal_g (l : (L.Sq L.Pt)) : Nat → Nat → List SV := fun _ k => [.int .i64 (((L.norm l).g k).x), .int .i64 (((L.norm l).g k).y)]
def p_normal_s : List EV → Option (Prop × (Nat → Prop) × (Nat → Nat) × (Nat → Nat → List SV))
  | [.p (.sl 2 l_n l_g)] => some ((∀ i, i < l_n → l_g i = [.int .i64 ((ofPt (l_g i)).x), .int .i64 ((ofPt (l_g i)).y)]) ∧ p_normal_p (⟨l_n, fun i => ofPt (l_g i)⟩ : (L.Sq L.Pt)), p_normal_q (⟨l_n, fun i => ofPt (l_g i)⟩ : (L.Sq L.Pt)), p_normal_n (⟨l_n, fun i => ofPt (l_g i)⟩ : (L.Sq L.Pt)), p_normal_g (⟨l_n, fun i => ofPt (l_g i)⟩ : (L.Sq L.Pt)))
  | _ => none
abbrev p_normal_S : SE.Spec := (specF Nat 0 42 2 p_normal_s)
def p_normal_C : Cfg := { muts := [5, 22], frz := lookN [(5, [5])], specs := lookS [(142, s_cloneP_S), (89, p_area_S), (144, s_minP_S), (72, s_idxPt_S), (145, s_concat_S), (91, p_compare_S)], loops := lookL [], iters := lookI [], rfs := lookR [], nils := lookM [], trs := lookT [(143, s_revP_tr)], ren := fun k => k - 1000 }
theorem p_normal_vc (l : (L.Sq L.Pt)) (hp : p_normal_p l) : vc Tryz.prog (p_normal_C) (bodyOf Tryz.f71) (st0 Tryz.f71 [.p (.sl 2 l.n (fun i => [.int .i64 ((l.g i).x), .int .i64 ((l.g i).y)]))]) (retFresh Tryz.prog Tryz.f71 (Nat) (p_normal_q l) 42 2 (p_normal_n l) (p_normal_g l)) :=
  @Eq.mpr _ (((∀ (i : Nat), i < l.n → [Go.SE.SV.int Go.IntKind.i64 (l.g i).x, Go.SE.SV.int Go.IntKind.i64 (l.g i).y] = [Go.SE.SV.int Go.IntKind.i64 (l.g i).x, Go.SE.SV.int Go.IntKind.i64 (l.g i).y]) ∧ l.n ≤ (1000000 : Nat)) ∧ ∀ (t : Nat), True → ((∀ (i : Nat), i < l.n → [Go.SE.SV.int Go.IntKind.i64 (l.g i).x, Go.SE.SV.int Go.IntKind.i64 (l.g i).y] = [Go.SE.SV.int Go.IntKind.i64 (l.g i).x, Go.SE.SV.int
 Go.IntKind.i64 (l.g i).y]) ∧ L.small (L.Sq.mk l.n fun (i : Nat) ↦ l.g i)) ∧ (Decidable.decide (L.areaTo (L.Sq.mk l.n fun (i : Nat) ↦ l.g i) l.n < (0 : Int)) = Bool.true → ∃ (t : L.Sq L.Pt), (l.n = t.n ∧ ∀ (i : Nat), i < l.n → [Go.SE.SV.int Go.IntKind.i64 (l.g i).x, Go.SE.SV.int Go.IntKind.i64 (l.g i).y] = [Go.SE.SV.int Go.IntKind.i64 (t.g i).x, Go.SE.SV.int Go.IntKind.i64 (t.g i).y]) ∧ t.n ≤
 (1000000 : Nat) ∧ ∀ (u : Nat), True → ((∀ (i : Nat), i < t.n → [Go.SE.SV.int Go.IntKind.i64 (t.g (t.n - (1 : Nat) - i)).x, Go.SE.SV.int Go.IntKind.i64 (t.g (t.n - (1 : Nat) - i)).y] = [Go.SE.SV.int Go.IntKind.i64 (t.g (t.n - (1 : Nat) - i)).x, Go.SE.SV.int Go.IntKind.i64 (t.g (t.n - (1 : Nat) - i)).y]) ∧ Go.SE.isI (Go.SE.FSpec.mk (fun («as» : List Go.SE.SV) ↦ Go.SE.preO p_compare_s (List.map
 Go.SE.EV.p «as» ++ List.map Go.SE.EV.p [])) fun («as» : List Go.SE.SV) ↦ Go.SE.resO p_compare_s (List.map Go.SE.EV.p «as» ++ List.map Go.SE.EV.p [])) ∧ (1 : Nat) ≤ t.n ∧ t.n ≤ (1000000 : Nat) ∧ ∀ (a b : L.Pt), True ∧ L.fil (Go.SE.FSpec.mk (fun («as» : List Go.SE.SV) ↦ Go.SE.preO p_compare_s (List.map Go.SE.EV.p «as» ++ List.map Go.SE.EV.p [])) fun («as» : List Go.SE.SV) ↦ Go.SE.resO p_compare_s
 (List.map Go.SE.EV.p «as» ++ List.map Go.SE.EV.p [])) [Go.SE.SV.agg [Go.SE.SV.int Go.IntKind.i64 a.x, Go.SE.SV.int Go.IntKind.i64 a.y], Go.SE.SV.agg [Go.SE.SV.int Go.IntKind.i64 b.x, Go.SE.SV.int Go.IntKind.i64 b.y]] = L.cmpPt a b) ∧ ((∀ (i : Nat), i < t.n → [Go.SE.SV.int Go.IntKind.i64 (t.g (t.n - (1 : Nat) - i)).x, Go.SE.SV.int Go.IntKind.i64 (t.g (t.n - (1 : Nat) - i)).y] = [Go.SE.SV.int
 Go.IntKind.i64 (t.g (t.n - (1 : Nat) - i)).x, Go.SE.SV.int Go.IntKind.i64 (t.g (t.n - (1 : Nat) - i)).y]) ∧ t.n ≤ (1000000 : Nat)) ∧ ((0 : Int) ≤ L.ptIdx (L.Sq.mk t.n fun (i : Nat) ↦ t.g (t.n - (1 : Nat) - i)) (L.minTo (L.Sq.mk t.n fun (i : Nat) ↦ t.g (t.n - (1 : Nat) - i)) (t.n - (1 : Nat))) ∧ L.ptIdx (L.Sq.mk t.n fun (i : Nat) ↦ t.g (t.n - (1 : Nat) - i)) (L.minTo (L.Sq.mk t.n fun (i : Nat) ↦
 t.g (t.n - (1 : Nat) - i)) (t.n - (1 : Nat))) ≤ (↑t.n : Int) ∧ (↑t.n : Int) ≤ (↑t.n : Int)) ∧ ((0 : Int) ≤ (0 : Int) ∧ (0 : Int) ≤ L.ptIdx (L.Sq.mk t.n fun (i : Nat) ↦ t.g (t.n - (1 : Nat) - i)) (L.minTo (L.Sq.mk t.n fun (i : Nat) ↦ t.g (t.n - (1 : Nat) - i)) (t.n - (1 : Nat))) ∧ L.ptIdx (L.Sq.mk t.n fun (i : Nat) ↦ t.g (t.n - (1 : Nat) - i)) (L.minTo (L.Sq.mk t.n fun (i : Nat) ↦ t.g (t.n - (1 :
 Nat) - i)) (t.n - (1 : Nat))) ≤ (↑t.n : Int)) ∧ (((∀ (i : Nat), i < Int.toNat ((↑t.n : Int) - L.ptIdx (L.Sq.mk t.n fun (i : Nat) ↦ t.g (t.n - (1 : Nat) - i)) (L.minTo (L.Sq.mk t.n fun (i : Nat) ↦ t.g (t.n - (1 : Nat) - i)) (t.n - (1 : Nat)))) → [Go.SE.SV.int Go.IntKind.i64 (t.g (t.n - (1 : Nat) - (Int.toNat (L.ptIdx (L.Sq.mk t.n fun (i : Nat) ↦ t.g (t.n - (1 : Nat) - i)) (L.minTo (L.Sq.mk t.n fun
 (i : Nat) ↦ t.g (t.n - (1 : Nat) - i)) (t.n - (1 : Nat)))) + i))).x, Go.SE.SV.int Go.IntKind.i64 (t.g (t.n - (1 : Nat) - (Int.toNat (L.ptIdx (L.Sq.mk t.n fun (i : Nat) ↦ t.g (t.n - (1 : Nat) - i)) (L.minTo (L.Sq.mk t.n fun (i : Nat) ↦ t.g (t.n - (1 : Nat) - i)) (t.n - (1 : Nat)))) + i))).y] = [Go.SE.SV.int Go.IntKind.i64 (t.g (t.n - (1 : Nat) - (Int.toNat (L.ptIdx (L.Sq.mk t.n fun (i : Nat) ↦ t.g
 (t.n - (1 : Nat) - i)) (L.minTo (L.Sq.mk t.n fun (i : Nat) ↦ t.g (t.n - (1 : Nat) - i)) (t.n - (1 : Nat)))) + i))).x, Go.SE.SV.int Go.IntKind.i64 (t.g (t.n - (1 : Nat) - (Int.toNat (L.ptIdx (L.Sq.mk t.n fun (i : Nat) ↦ t.g (t.n - (1 : Nat) - i)) (L.minTo (L.Sq.mk t.n fun (i : Nat) ↦ t.g (t.n - (1 : Nat) - i)) (t.n - (1 : Nat)))) + i))).y]) ∧ ∀ (i : Nat), i < Int.toNat (L.ptIdx (L.Sq.mk t.n fun (i
 : Nat) ↦ t.g (t.n - (1 : Nat) - i)) (L.minTo (L.Sq.mk t.n fun (i : Nat) ↦ t.g (t.n - (1 : Nat) - i)) (t.n - (1 : Nat))) - (0 : Int)) → [Go.SE.SV.int Go.IntKind.i64 (t.g (t.n - (1 : Nat) - (Int.toNat (0 : Int) + i))).x, Go.SE.SV.int Go.IntKind.i64 (t.g (t.n - (1 : Nat) - (Int.toNat (0 : Int) + i))).y] = [Go.SE.SV.int Go.IntKind.i64 (t.g (t.n - (1 : Nat) - (Int.toNat (0 : Int) + i))).x, Go.SE.SV.int
 Go.IntKind.i64 (t.g (t.n - (1 : Nat) - (Int.toNat (0 : Int) + i))).y]) ∧ (1 : Nat) ≤ (L.two (L.Sq.mk (Int.toNat ((↑t.n : Int) - L.ptIdx (L.Sq.mk t.n fun (i : Nat) ↦ t.g (t.n - (1 : Nat) - i)) (L.minTo (L.Sq.mk t.n fun (i : Nat) ↦ t.g (t.n - (1 : Nat) - i)) (t.n - (1 : Nat))))) fun (i : Nat) ↦ t.g (t.n - (1 : Nat) - (Int.toNat (L.ptIdx (L.Sq.mk t.n fun (i : Nat) ↦ t.g (t.n - (1 : Nat) - i))
 (L.minTo (L.Sq.mk t.n fun (i : Nat) ↦ t.g (t.n - (1 : Nat) - i)) (t.n - (1 : Nat)))) + i))) (L.Sq.mk (Int.toNat (L.ptIdx (L.Sq.mk t.n fun (i : Nat) ↦ t.g (t.n - (1 : Nat) - i)) (L.minTo (L.Sq.mk t.n fun (i : Nat) ↦ t.g (t.n - (1 : Nat) - i)) (t.n - (1 : Nat))) - (0 : Int))) fun (i : Nat) ↦ t.g (t.n - (1 : Nat) - (Int.toNat (0 : Int) + i))) (0 : Nat)).n + (L.two (L.Sq.mk (Int.toNat ((↑t.n : Int) -
 L.ptIdx (L.Sq.mk t.n fun (i : Nat) ↦ t.g (t.n - (1 : Nat) - i)) (L.minTo (L.Sq.mk t.n fun (i : Nat) ↦ t.g (t.n - (1 : Nat) - i)) (t.n - (1 : Nat))))) fun (i : Nat) ↦ t.g (t.n - (1 : Nat) - (Int.toNat (L.ptIdx (L.Sq.mk t.n fun (i : Nat) ↦ t.g (t.n - (1 : Nat) - i)) (L.minTo (L.Sq.mk t.n fun (i : Nat) ↦ t.g (t.n - (1 : Nat) - i)) (t.n - (1 : Nat)))) + i))) (L.Sq.mk (Int.toNat (L.ptIdx (L.Sq.mk t.n
 fun (i : Nat) ↦ t.g (t.n - (1 : Nat) - i)) (L.minTo (L.Sq.mk t.n fun (i : Nat) ↦ t.g (t.n - (1 : Nat) - i)) (t.n - (1 : Nat))) - (0 : Int))) fun (i : Nat) ↦ t.g (t.n - (1 : Nat) - (Int.toNat (0 : Int) + i))) (1 : Nat)).n ∧ (L.two (L.Sq.mk (Int.toNat ((↑t.n : Int) - L.ptIdx (L.Sq.mk t.n fun (i : Nat) ↦ t.g (t.n - (1 : Nat) - i)) (L.minTo (L.Sq.mk t.n fun (i : Nat) ↦ t.g (t.n - (1 : Nat) - i)) (t.n
 - (1 : Nat))))) fun (i : Nat) ↦ t.g (t.n - (1 : Nat) - (Int.toNat (L.ptIdx (L.Sq.mk t.n fun (i : Nat) ↦ t.g (t.n - (1 : Nat) - i)) (L.minTo (L.Sq.mk t.n fun (i : Nat) ↦ t.g (t.n - (1 : Nat) - i)) (t.n - (1 : Nat)))) + i))) (L.Sq.mk (Int.toNat (L.ptIdx (L.Sq.mk t.n fun (i : Nat) ↦ t.g (t.n - (1 : Nat) - i)) (L.minTo (L.Sq.mk t.n fun (i : Nat) ↦ t.g (t.n - (1 : Nat) - i)) (t.n - (1 : Nat))) - (0 :
 Int))) fun (i : Nat) ↦ t.g (t.n - (1 : Nat) - (Int.toNat (0 : Int) + i))) (0 : Nat)).n ≤ (1000000 : Nat) ∧ (L.two (L.Sq.mk (Int.toNat ((↑t.n : Int) - L.ptIdx (L.Sq.mk t.n fun (i : Nat) ↦ t.g (t.n - (1 : Nat) - i)) (L.minTo (L.Sq.mk t.n fun (i : Nat) ↦ t.g (t.n - (1 : Nat) - i)) (t.n - (1 : Nat))))) fun (i : Nat) ↦ t.g (t.n - (1 : Nat) - (Int.toNat (L.ptIdx (L.Sq.mk t.n fun (i : Nat) ↦ t.g (t.n -
 (1 : Nat) - i)) (L.minTo (L.Sq.mk t.n fun (i : Nat) ↦ t.g (t.n - (1 : Nat) - i)) (t.n - (1 : Nat)))) + i))) (L.Sq.mk (Int.toNat (L.ptIdx (L.Sq.mk t.n fun (i : Nat) ↦ t.g (t.n - (1 : Nat) - i)) (L.minTo (L.Sq.mk t.n fun (i : Nat) ↦ t.g (t.n - (1 : Nat) - i)) (t.n - (1 : Nat))) - (0 : Int))) fun (i : Nat) ↦ t.g (t.n - (1 : Nat) - (Int.toNat (0 : Int) + i))) (1 : Nat)).n ≤ (1000000 : Nat)) ∧ ∀ (t_1 :
 Nat), True → ∃ (t_2 : Nat), ((L.catTo (L.two (L.Sq.mk (Int.toNat ((↑t.n : Int) - L.ptIdx (L.Sq.mk t.n fun (i : Nat) ↦ t.g (t.n - (1 : Nat) - i)) (L.minTo (L.Sq.mk t.n fun (i : Nat) ↦ t.g (t.n - (1 : Nat) - i)) (t.n - (1 : Nat))))) fun (i : Nat) ↦ t.g (t.n - (1 : Nat) - (Int.toNat (L.ptIdx (L.Sq.mk t.n fun (i : Nat) ↦ t.g (t.n - (1 : Nat) - i)) (L.minTo (L.Sq.mk t.n fun (i : Nat) ↦ t.g (t.n - (1 :
 Nat) - i)) (t.n - (1 : Nat)))) + i))) (L.Sq.mk (Int.toNat (L.ptIdx (L.Sq.mk t.n fun (i : Nat) ↦ t.g (t.n - (1 : Nat) - i)) (L.minTo (L.Sq.mk t.n fun (i : Nat) ↦ t.g (t.n - (1 : Nat) - i)) (t.n - (1 : Nat))) - (0 : Int))) fun (i : Nat) ↦ t.g (t.n - (1 : Nat) - (Int.toNat (0 : Int) + i)))) (2 : Nat)).n = l.n ∧ ∀ (i : Nat), i < (L.catTo (L.two (L.Sq.mk (Int.toNat ((↑t.n : Int) - L.ptIdx (L.Sq.mk t.n
 fun (i : Nat) ↦ t.g (t.n - (1 : Nat) - i)) (L.minTo (L.Sq.mk t.n fun (i : Nat) ↦ t.g (t.n - (1 : Nat) - i)) (t.n - (1 : Nat))))) fun (i : Nat) ↦ t.g (t.n - (1 : Nat) - (Int.toNat (L.ptIdx (L.Sq.mk t.n fun (i : Nat) ↦ t.g (t.n - (1 : Nat) - i)) (L.minTo (L.Sq.mk t.n fun (i : Nat) ↦ t.g (t.n - (1 : Nat) - i)) (t.n - (1 : Nat)))) + i))) (L.Sq.mk (Int.toNat (L.ptIdx (L.Sq.mk t.n fun (i : Nat) ↦ t.g
 (t.n - (1 : Nat) - i)) (L.minTo (L.Sq.mk t.n fun (i : Nat) ↦ t.g (t.n - (1 : Nat) - i)) (t.n - (1 : Nat))) - (0 : Int))) fun (i : Nat) ↦ t.g (t.n - (1 : Nat) - (Int.toNat (0 : Int) + i)))) (2 : Nat)).n → [Go.SE.SV.int Go.IntKind.i64 ((L.catTo (L.two (L.Sq.mk (Int.toNat ((↑t.n : Int) - L.ptIdx (L.Sq.mk t.n fun (i : Nat) ↦ t.g (t.n - (1 : Nat) - i)) (L.minTo (L.Sq.mk t.n fun (i : Nat) ↦ t.g (t.n -
 (1 : Nat) - i)) (t.n - (1 : Nat))))) fun (i : Nat) ↦ t.g (t.n - (1 : Nat) - (Int.toNat (L.ptIdx (L.Sq.mk t.n fun (i : Nat) ↦ t.g (t.n - (1 : Nat) - i)) (L.minTo (L.Sq.mk t.n fun (i : Nat) ↦ t.g (t.n - (1 : Nat) - i)) (t.n - (1 : Nat)))) + i))) (L.Sq.mk (Int.toNat (L.ptIdx (L.Sq.mk t.n fun (i : Nat) ↦ t.g (t.n - (1 : Nat) - i)) (L.minTo (L.Sq.mk t.n fun (i : Nat) ↦ t.g (t.n - (1 : Nat) - i)) (t.n -
 (1 : Nat))) - (0 : Int))) fun (i : Nat) ↦ t.g (t.n - (1 : Nat) - (Int.toNat (0 : Int) + i)))) (2 : Nat)).g i).x, Go.SE.SV.int Go.IntKind.i64 ((L.catTo (L.two (L.Sq.mk (Int.toNat ((↑t.n : Int) - L.ptIdx (L.Sq.mk t.n fun (i : Nat) ↦ t.g (t.n - (1 : Nat) - i)) (L.minTo (L.Sq.mk t.n fun (i : Nat) ↦ t.g (t.n - (1 : Nat) - i)) (t.n - (1 : Nat))))) fun (i : Nat) ↦ t.g (t.n - (1 : Nat) - (Int.toNat
 (L.ptIdx (L.Sq.mk t.n fun (i : Nat) ↦ t.g (t.n - (1 : Nat) - i)) (L.minTo (L.Sq.mk t.n fun (i : Nat) ↦ t.g (t.n - (1 : Nat) - i)) (t.n - (1 : Nat)))) + i))) (L.Sq.mk (Int.toNat (L.ptIdx (L.Sq.mk t.n fun (i : Nat) ↦ t.g (t.n - (1 : Nat) - i)) (L.minTo (L.Sq.mk t.n fun (i : Nat) ↦ t.g (t.n - (1 : Nat) - i)) (t.n - (1 : Nat))) - (0 : Int))) fun (i : Nat) ↦ t.g (t.n - (1 : Nat) - (Int.toNat (0 : Int)
 + i)))) (2 : Nat)).g i).y] = [Go.SE.SV.int Go.IntKind.i64 ((L.norm l).g i).x, Go.SE.SV.int Go.IntKind.i64 ((L.norm l).g i).y]) ∧ True) ∧ (Decidable.decide (L.areaTo (L.Sq.mk l.n fun (i : Nat) ↦ l.g i) l.n < (0 : Int)) = Bool.false → ((∀ (i : Nat), i < l.n → [Go.SE.SV.int Go.IntKind.i64 (l.g i).x, Go.SE.SV.int Go.IntKind.i64 (l.g i).y] = [Go.SE.SV.int Go.IntKind.i64 (l.g i).x, Go.SE.SV.int
 Go.IntKind.i64 (l.g i).y]) ∧ Go.SE.isI (Go.SE.FSpec.mk (fun («as» : List Go.SE.SV) ↦ Go.SE.preO p_compare_s (List.map Go.SE.EV.p «as» ++ List.map Go.SE.EV.p [])) fun («as» : List Go.SE.SV) ↦ Go.SE.resO p_compare_s (List.map Go.SE.EV.p «as» ++ List.map Go.SE.EV.p [])) ∧ (1 : Nat) ≤ l.n ∧ l.n ≤ (1000000 : Nat) ∧ ∀ (a b : L.Pt), True ∧ L.fil (Go.SE.FSpec.mk (fun («as» : List Go.SE.SV) ↦ Go.SE.preO
 p_compare_s (List.map Go.SE.EV.p «as» ++ List.map Go.SE.EV.p [])) fun («as» : List Go.SE.SV) ↦ Go.SE.resO p_compare_s (List.map Go.SE.EV.p «as» ++ List.map Go.SE.EV.p [])) [Go.SE.SV.agg [Go.SE.SV.int Go.IntKind.i64 a.x, Go.SE.SV.int Go.IntKind.i64 a.y], Go.SE.SV.agg [Go.SE.SV.int Go.IntKind.i64 b.x, Go.SE.SV.int Go.IntKind.i64 b.y]] = L.cmpPt a b) ∧ ((∀ (i : Nat), i < l.n → [Go.SE.SV.int
 Go.IntKind.i64 (l.g i).x, Go.SE.SV.int Go.IntKind.i64 (l.g i).y] = [Go.SE.SV.int Go.IntKind.i64 (l.g i).x, Go.SE.SV.int Go.IntKind.i64 (l.g i).y]) ∧ l.n ≤ (1000000 : Nat)) ∧ ((0 : Int) ≤ L.ptIdx (L.Sq.mk l.n fun (i : Nat) ↦ l.g i) (L.minTo (L.Sq.mk l.n fun (i : Nat) ↦ l.g i) (l.n - (1 : Nat))) ∧ L.ptIdx (L.Sq.mk l.n fun (i : Nat) ↦ l.g i) (L.minTo (L.Sq.mk l.n fun (i : Nat) ↦ l.g i) (l.n - (1 :
 Nat))) ≤ (↑l.n : Int) ∧ (↑l.n : Int) ≤ (↑l.n : Int)) ∧ ((0 : Int) ≤ (0 : Int) ∧ (0 : Int) ≤ L.ptIdx (L.Sq.mk l.n fun (i : Nat) ↦ l.g i) (L.minTo (L.Sq.mk l.n fun (i : Nat) ↦ l.g i) (l.n - (1 : Nat))) ∧ L.ptIdx (L.Sq.mk l.n fun (i : Nat) ↦ l.g i) (L.minTo (L.Sq.mk l.n fun (i : Nat) ↦ l.g i) (l.n - (1 : Nat))) ≤ (↑l.n : Int)) ∧ (((∀ (i : Nat), i < Int.toNat ((↑l.n : Int) - L.ptIdx (L.Sq.mk l.n fun
 (i : Nat) ↦ l.g i) (L.minTo (L.Sq.mk l.n fun (i : Nat) ↦ l.g i) (l.n - (1 : Nat)))) → [Go.SE.SV.int Go.IntKind.i64 (l.g (Int.toNat (L.ptIdx (L.Sq.mk l.n fun (i : Nat) ↦ l.g i) (L.minTo (L.Sq.mk l.n fun (i : Nat) ↦ l.g i) (l.n - (1 : Nat)))) + i)).x, Go.SE.SV.int Go.IntKind.i64 (l.g (Int.toNat (L.ptIdx (L.Sq.mk l.n fun (i : Nat) ↦ l.g i) (L.minTo (L.Sq.mk l.n fun (i : Nat) ↦ l.g i) (l.n - (1 :
 Nat)))) + i)).y] = [Go.SE.SV.int Go.IntKind.i64 (l.g (Int.toNat (L.ptIdx (L.Sq.mk l.n fun (i : Nat) ↦ l.g i) (L.minTo (L.Sq.mk l.n fun (i : Nat) ↦ l.g i) (l.n - (1 : Nat)))) + i)).x, Go.SE.SV.int Go.IntKind.i64 (l.g (Int.toNat (L.ptIdx (L.Sq.mk l.n fun (i : Nat) ↦ l.g i) (L.minTo (L.Sq.mk l.n fun (i : Nat) ↦ l.g i) (l.n - (1 : Nat)))) + i)).y]) ∧ ∀ (i : Nat), i < Int.toNat (L.ptIdx (L.Sq.mk l.n
 fun (i : Nat) ↦ l.g i) (L.minTo (L.Sq.mk l.n fun (i : Nat) ↦ l.g i) (l.n - (1 : Nat))) - (0 : Int)) → [Go.SE.SV.int Go.IntKind.i64 (l.g (Int.toNat (0 : Int) + i)).x, Go.SE.SV.int Go.IntKind.i64 (l.g (Int.toNat (0 : Int) + i)).y] = [Go.SE.SV.int Go.IntKind.i64 (l.g (Int.toNat (0 : Int) + i)).x, Go.SE.SV.int Go.IntKind.i64 (l.g (Int.toNat (0 : Int) + i)).y]) ∧ (1 : Nat) ≤ (L.two (L.Sq.mk (Int.toNat
 ((↑l.n : Int) - L.ptIdx (L.Sq.mk l.n fun (i : Nat) ↦ l.g i) (L.minTo (L.Sq.mk l.n fun (i : Nat) ↦ l.g i) (l.n - (1 : Nat))))) fun (i : Nat) ↦ l.g (Int.toNat (L.ptIdx (L.Sq.mk l.n fun (i : Nat) ↦ l.g i) (L.minTo (L.Sq.mk l.n fun (i : Nat) ↦ l.g i) (l.n - (1 : Nat)))) + i)) (L.Sq.mk (Int.toNat (L.ptIdx (L.Sq.mk l.n fun (i : Nat) ↦ l.g i) (L.minTo (L.Sq.mk l.n fun (i : Nat) ↦ l.g i) (l.n - (1 :
 Nat))) - (0 : Int))) fun (i : Nat) ↦ l.g (Int.toNat (0 : Int) + i)) (0 : Nat)).n + (L.two (L.Sq.mk (Int.toNat ((↑l.n : Int) - L.ptIdx (L.Sq.mk l.n fun (i : Nat) ↦ l.g i) (L.minTo (L.Sq.mk l.n fun (i : Nat) ↦ l.g i) (l.n - (1 : Nat))))) fun (i : Nat) ↦ l.g (Int.toNat (L.ptIdx (L.Sq.mk l.n fun (i : Nat) ↦ l.g i) (L.minTo (L.Sq.mk l.n fun (i : Nat) ↦ l.g i) (l.n - (1 : Nat)))) + i)) (L.Sq.mk
 (Int.toNat (L.ptIdx (L.Sq.mk l.n fun (i : Nat) ↦ l.g i) (L.minTo (L.Sq.mk l.n fun (i : Nat) ↦ l.g i) (l.n - (1 : Nat))) - (0 : Int))) fun (i : Nat) ↦ l.g (Int.toNat (0 : Int) + i)) (1 : Nat)).n ∧ (L.two (L.Sq.mk (Int.toNat ((↑l.n : Int) - L.ptIdx (L.Sq.mk l.n fun (i : Nat) ↦ l.g i) (L.minTo (L.Sq.mk l.n fun (i : Nat) ↦ l.g i) (l.n - (1 : Nat))))) fun (i : Nat) ↦ l.g (Int.toNat (L.ptIdx (L.Sq.mk
 l.n fun (i : Nat) ↦ l.g i) (L.minTo (L.Sq.mk l.n fun (i : Nat) ↦ l.g i) (l.n - (1 : Nat)))) + i)) (L.Sq.mk (Int.toNat (L.ptIdx (L.Sq.mk l.n fun (i : Nat) ↦ l.g i) (L.minTo (L.Sq.mk l.n fun (i : Nat) ↦ l.g i) (l.n - (1 : Nat))) - (0 : Int))) fun (i : Nat) ↦ l.g (Int.toNat (0 : Int) + i)) (0 : Nat)).n ≤ (1000000 : Nat) ∧ (L.two (L.Sq.mk (Int.toNat ((↑l.n : Int) - L.ptIdx (L.Sq.mk l.n fun (i : Nat) ↦
 l.g i) (L.minTo (L.Sq.mk l.n fun (i : Nat) ↦ l.g i) (l.n - (1 : Nat))))) fun (i : Nat) ↦ l.g (Int.toNat (L.ptIdx (L.Sq.mk l.n fun (i : Nat) ↦ l.g i) (L.minTo (L.Sq.mk l.n fun (i : Nat) ↦ l.g i) (l.n - (1 : Nat)))) + i)) (L.Sq.mk (Int.toNat (L.ptIdx (L.Sq.mk l.n fun (i : Nat) ↦ l.g i) (L.minTo (L.Sq.mk l.n fun (i : Nat) ↦ l.g i) (l.n - (1 : Nat))) - (0 : Int))) fun (i : Nat) ↦ l.g (Int.toNat (0 :
 Int) + i)) (1 : Nat)).n ≤ (1000000 : Nat)) ∧ ∀ (t : Nat), True → ∃ (t : Nat), ((L.catTo (L.two (L.Sq.mk (Int.toNat ((↑l.n : Int) - L.ptIdx (L.Sq.mk l.n fun (i : Nat) ↦ l.g i) (L.minTo (L.Sq.mk l.n fun (i : Nat) ↦ l.g i) (l.n - (1 : Nat))))) fun (i : Nat) ↦ l.g (Int.toNat (L.ptIdx (L.Sq.mk l.n fun (i : Nat) ↦ l.g i) (L.minTo (L.Sq.mk l.n fun (i : Nat) ↦ l.g i) (l.n - (1 : Nat)))) + i)) (L.Sq.mk
 (Int.toNat (L.ptIdx (L.Sq.mk l.n fun (i : Nat) ↦ l.g i) (L.minTo (L.Sq.mk l.n fun (i : Nat) ↦ l.g i) (l.n - (1 : Nat))) - (0 : Int))) fun (i : Nat) ↦ l.g (Int.toNat (0 : Int) + i))) (2 : Nat)).n = l.n ∧ ∀ (i : Nat), i < (L.catTo (L.two (L.Sq.mk (Int.toNat ((↑l.n : Int) - L.ptIdx (L.Sq.mk l.n fun (i : Nat) ↦ l.g i) (L.minTo (L.Sq.mk l.n fun (i : Nat) ↦ l.g i) (l.n - (1 : Nat))))) fun (i : Nat) ↦
 l.g (Int.toNat (L.ptIdx (L.Sq.mk l.n fun (i : Nat) ↦ l.g i) (L.minTo (L.Sq.mk l.n fun (i : Nat) ↦ l.g i) (l.n - (1 : Nat)))) + i)) (L.Sq.mk (Int.toNat (L.ptIdx (L.Sq.mk l.n fun (i : Nat) ↦ l.g i) (L.minTo (L.Sq.mk l.n fun (i : Nat) ↦ l.g i) (l.n - (1 : Nat))) - (0 : Int))) fun (i : Nat) ↦ l.g (Int.toNat (0 : Int) + i))) (2 : Nat)).n → [Go.SE.SV.int Go.IntKind.i64 ((L.catTo (L.two (L.Sq.mk
 (Int.toNat ((↑l.n : Int) - L.ptIdx (L.Sq.mk l.n fun (i : Nat) ↦ l.g i) (L.minTo (L.Sq.mk l.n fun (i : Nat) ↦ l.g i) (l.n - (1 : Nat))))) fun (i : Nat) ↦ l.g (Int.toNat (L.ptIdx (L.Sq.mk l.n fun (i : Nat) ↦ l.g i) (L.minTo (L.Sq.mk l.n fun (i : Nat) ↦ l.g i) (l.n - (1 : Nat)))) + i)) (L.Sq.mk (Int.toNat (L.ptIdx (L.Sq.mk l.n fun (i : Nat) ↦ l.g i) (L.minTo (L.Sq.mk l.n fun (i : Nat) ↦ l.g i) (l.n -
 (1 : Nat))) - (0 : Int))) fun (i : Nat) ↦ l.g (Int.toNat (0 : Int) + i))) (2 : Nat)).g i).x, Go.SE.SV.int Go.IntKind.i64 ((L.catTo (L.two (L.Sq.mk (Int.toNat ((↑l.n : Int) - L.ptIdx (L.Sq.mk l.n fun (i : Nat) ↦ l.g i) (L.minTo (L.Sq.mk l.n fun (i : Nat) ↦ l.g i) (l.n - (1 : Nat))))) fun (i : Nat) ↦ l.g (Int.toNat (L.ptIdx (L.Sq.mk l.n fun (i : Nat) ↦ l.g i) (L.minTo (L.Sq.mk l.n fun (i : Nat) ↦
 l.g i) (l.n - (1 : Nat)))) + i)) (L.Sq.mk (Int.toNat (L.ptIdx (L.Sq.mk l.n fun (i : Nat) ↦ l.g i) (L.minTo (L.Sq.mk l.n fun (i : Nat) ↦ l.g i) (l.n - (1 : Nat))) - (0 : Int))) fun (i : Nat) ↦ l.g (Int.toNat (0 : Int) + i))) (2 : Nat)).g i).y] = [Go.SE.SV.int Go.IntKind.i64 ((L.norm l).g i).x, Go.SE.SV.int Go.IntKind.i64 ((L.norm l).g i).y]) ∧ True)) (by kernel_rfl) (by
    obtain ⟨hs, h1⟩ := hp
    have hn := hs.1
    refine ⟨⟨fun _ _ => rfl, by omega⟩, fun _ _ => ⟨⟨fun _ _ => rfl, hs⟩, fun hA => ?_, fun hA => ?_⟩⟩
    · have fl : L.flip l = ⟨l.n, fun k => l.g (l.n - 1 - k)⟩ := by unfold L.flip; rw [hA]; rfl
      obtain ⟨i0, k1, k2, _⟩ := minIdx (l := ⟨l.n, fun k => l.g (l.n - 1 - k)⟩) h1
      have k1 : i0 < l.n := k1
      obtain ⟨q, c1, c2⟩ := norm_cat (t := ⟨l.n, fun k => l.g (l.n - 1 - k)⟩) (K := L.ptIdx ⟨l.n, fun k => l.g (l.n - 1 - k)⟩ (L.minTo ⟨l.n, fun k => l.g (l.n - 1 - k)⟩ (l.n - 1))) (by rw [k2]; omega) (by rw [k2]; show (i0 : Int) ≤ (l.n : Int); omega) h1 (by show l.n ≤ 1000000; omega)
      have a1 : 0 ≤ L.ptIdx ⟨l.n, fun k => l.g (l.n - 1 - k)⟩ (L.minTo ⟨l.n, fun k => l.g (l.n - 1 - k)⟩ (l.n - 1)) := by rw [k2]; omega
      have a2 : L.ptIdx ⟨l.n, fun k => l.g (l.n - 1 - k)⟩ (L.minTo ⟨l.n, fun k => l.g (l.n - 1 - k)⟩ (l.n - 1)) ≤ (l.n : Int) := by rw [k2]; omega
      refine ⟨l, ⟨rfl, fun _ _ => rfl⟩, by omega, fun _ _ => ⟨⟨fun _ _ => rfl, isI_of p_compare_I _, h1, by omega, fun _ _ => ⟨trivial, rfl⟩⟩, ⟨fun _ _ => rfl, by omega⟩, ⟨a1, a2, Int.le_refl _⟩, ⟨Int.le_refl _, a1, a2⟩, ⟨⟨fun _ _ => rfl, fun _ _ => rfl⟩, q⟩, fun _ _ => ⟨(0 : Nat), ⟨c1, fun i _ => ?_⟩, trivial⟩⟩⟩
      have w : (L.norm l).g i = (L.rot ⟨l.n, fun k => l.g (l.n - 1 - k)⟩ (L.ptIdx ⟨l.n, fun k => l.g (l.n - 1 - k)⟩ (L.minTo ⟨l.n, fun k => l.g (l.n - 1 - k)⟩ (l.n - 1))).toNat).g i := by
        show (L.rot (L.flip l) (L.minK (L.flip l))).g i = _
        unfold L.minK
        rw [fl]
      rw [w, ← c2 i]
    · have fl : L.flip l = l := by unfold L.flip; rw [hA]; rfl
      obtain ⟨i0, k1, k2, _⟩ := minIdx (l := l) h1
      obtain ⟨q, c1, c2⟩ := norm_cat (t := l) (K := L.ptIdx l (L.minTo l (l.n - 1))) (by rw [k2]; omega) (by rw [k2]; omega) h1 (by omega)
      have a1 : 0 ≤ L.ptIdx l (L.minTo l (l.n - 1)) := by rw [k2]; omega
      have a2 : L.ptIdx l (L.minTo l (l.n - 1)) ≤ (l.n : Int) := by rw [k2]; omega
      refine ⟨⟨fun _ _ => rfl, isI_of p_compare_I _, h1, by omega, fun _ _ => ⟨trivial, rfl⟩⟩, ⟨fun _ _ => rfl, by omega⟩, ⟨a1, a2, Int.le_refl _⟩, ⟨Int.le_refl _, a1, a2⟩, ⟨⟨fun _ _ => rfl, fun _ _ => rfl⟩, q⟩, fun _ _ => ⟨(0 : Nat), ⟨c1, fun i _ => ?_⟩, trivial⟩⟩
      have w : (L.norm l).g i = (L.rot l (L.ptIdx l (L.minTo l (l.n - 1))).toNat).g i := by
        show (L.rot (L.flip l) (L.minK (L.flip l))).g i = _
        unfold L.minK
        rw [fl]
      rw [w, ← c2 i])
theorem p_normal_ok : SpecOk Tryz.prog 71 p_normal_S := freshX Tryz.func71 (c := bodyOf Tryz.f71) (by kernel_rfl) mixed (fun args p q n g hs hp => by
  unfold p_normal_s at hs
  split at hs
  · cases hs; exact ⟨_, _, p_normal_vc _ hp.2, (.p (.sl hp.1) .nil), ⟨show SpecsL Tryz.prog _ from (SpecsL.cons s_cloneP_ok s_cloneP_en (SpecsL.cons p_area_ok p_area_en (SpecsL.cons s_minP_ok s_minP_en (SpecsL.cons s_idxPt_ok s_idxPt_en (SpecsL.cons s_concat_ok s_concat_en (SpecsL.cons p_compare_ok p_compare_en SpecsL.nil)))))), rfl, ⟨show ItersL Tryz.prog _ from ItersL.nil, (show TrsL Tryz.prog _ from (TrsL.cons s_revP_tok s_revP_en TrsL.nil))⟩⟩⟩
  · cases hs)
theorem p_normal_en : Enters Tryz.prog 71 := fun args w => by kernel_rfl
def p_turned_p (m : L.Motion) (p : L.Pt) : Prop := L.bd p ∧ 0 ≤ m.turn ∧ m.turn ≤ 3
def p_turned_r (m : L.Motion) (p : L.Pt) : SV := (.agg [.int .i64 ((L.turned m p).x), .int .i64 ((L.turned m p).y)])
def p_turned_s : List EV → Option (Prop × SV)
  | [.p (.agg [.int .i64 m_turn, .bool m_mirror, .int .i64 m_by__x, .int .i64 m_by__y]), .p (.agg [.int .i64 p_x, .int .i64 p_y])] => some (p_turned_p (⟨m_turn, m_mirror, (⟨m_by__x, m_by__y⟩ : L.Pt)⟩ : L.Motion) (⟨p_x, p_y⟩ : L.Pt), p_turned_r (⟨m_turn, m_mirror, (⟨m_by__x, m_by__y⟩ : L.Pt)⟩ : L.Motion) (⟨p_x, p_y⟩ : L.Pt))
  | _ => none
abbrev p_turned_S : SE.Spec := (specO p_turned_s)
def p_turned_C : Cfg := { muts := [3, 4], frz := lookN [], specs := lookS [], loops := fun _ => none, iters := lookI [], rfs := lookR [], nils := lookM [] }
theorem p_turned_vc (m : L.Motion) (p : L.Pt) (hp : p_turned_p m p) : vc Tryz.prog ({ p_turned_C with loops := lookL [(4, { T := Nat, keep := [2, 3, 4, 12], keepO := [4], chg := fun i => [(13, .p (.int .i64 (i : Int)))], own := fun i => [(3, .blk 42 [.p (.int .i64 (L.turnN (L.mir m p) i).x), .p (.int .i64 (L.turnN (L.mir m p) i).y)])], inv := fun i => i ≤ m.turn.toNat, mu := fun i => m.turn.toNat - i })], rfs := lookR [] }) (bodyOf Tryz.f78) (st0 Tryz.f78 [.p (.agg [.int .i64 m.turn, .bool m.mirror, .int .i64 m.by_.x, .int .i64 m.by_.y]), .p (.agg [.int .i64 p.x, .int .i64 p.y])]) (retFn Tryz.prog Tryz.f78 (p_turned_r m p)) :=
  @Eq.mpr _ ((m.mirror = Bool.true → Go.SE.InK Go.IntKind.i64 ((0 : Int) - p.x) ∧ (∃ (g : Nat), (0 : Int) = (↑g : Int) ∧ (0 : Int) - p.x = (L.turnN (L.mir m p) g).x ∧ p.y = (L.turnN (L.mir m p) g).y ∧ g ≤ Int.toNat m.turn) ∧ ∀ (g : Nat), g ≤ Int.toNat m.turn → (Decidable.decide ((↑g : Int) < m.turn) = Bool.true → Go.SE.InK Go.IntKind.i64 ((0 : Int) - (L.turnN (L.mir m p) g).y) ∧ Go.SE.InK Go.IntKind.i64 ((↑g :
 Int) + (1 : Int)) ∧ ∃ (g' : Nat), (↑g : Int) + (1 : Int) = (↑g' : Int) ∧ m.turn = m.turn ∧ nat_lit 0 = nat_lit 0 ∧ nat_lit 0 = nat_lit 0 ∧ Go.SE.SV.ref [Go.SE.SV.int Go.IntKind.i64 m.turn, Go.SE.SV.bool m.mirror, Go.SE.SV.int Go.IntKind.i64 m.by_.x, Go.SE.SV.int Go.IntKind.i64 m.by_.y] (nat_lit 0) = Go.SE.SV.ref [Go.SE.SV.int Go.IntKind.i64 m.turn, Go.SE.SV.bool m.mirror, Go.SE.SV.int
 Go.IntKind.i64 m.by_.x, Go.SE.SV.int Go.IntKind.i64 m.by_.y] (nat_lit 0) ∧ (0 : Int) - (L.turnN (L.mir m p) g).y = (L.turnN (L.mir m p) g').x ∧ (L.turnN (L.mir m p) g).x = (L.turnN (L.mir m p) g').y ∧ (0 : Int) = (0 : Int) ∧ (0 : Int) = (0 : Int) ∧ g' ≤ Int.toNat m.turn ∧ Int.toNat m.turn - g' < Int.toNat m.turn - g) ∧ (Decidable.decide ((↑g : Int) < m.turn) = Bool.false → Go.SE.SV.agg
 [Go.SE.SV.int Go.IntKind.i64 (L.turnN (L.mir m p) g).x, Go.SE.SV.int Go.IntKind.i64 (L.turnN (L.mir m p) g).y] = Go.SE.SV.agg [Go.SE.SV.int Go.IntKind.i64 (L.turned m p).x, Go.SE.SV.int Go.IntKind.i64 (L.turned m p).y])) ∧ (m.mirror = Bool.false → (∃ (g : Nat), (0 : Int) = (↑g : Int) ∧ p.x = (L.turnN (L.mir m p) g).x ∧ p.y = (L.turnN (L.mir m p) g).y ∧ g ≤ Int.toNat m.turn) ∧ ∀ (g : Nat), g ≤
 Int.toNat m.turn → (Decidable.decide ((↑g : Int) < m.turn) = Bool.true → Go.SE.InK Go.IntKind.i64 ((0 : Int) - (L.turnN (L.mir m p) g).y) ∧ Go.SE.InK Go.IntKind.i64 ((↑g : Int) + (1 : Int)) ∧ ∃ (g' : Nat), (↑g : Int) + (1 : Int) = (↑g' : Int) ∧ m.turn = m.turn ∧ nat_lit 0 = nat_lit 0 ∧ nat_lit 0 = nat_lit 0 ∧ Go.SE.SV.ref [Go.SE.SV.int Go.IntKind.i64 m.turn, Go.SE.SV.bool m.mirror, Go.SE.SV.int
 Go.IntKind.i64 m.by_.x, Go.SE.SV.int Go.IntKind.i64 m.by_.y] (nat_lit 0) = Go.SE.SV.ref [Go.SE.SV.int Go.IntKind.i64 m.turn, Go.SE.SV.bool m.mirror, Go.SE.SV.int Go.IntKind.i64 m.by_.x, Go.SE.SV.int Go.IntKind.i64 m.by_.y] (nat_lit 0) ∧ (0 : Int) - (L.turnN (L.mir m p) g).y = (L.turnN (L.mir m p) g').x ∧ (L.turnN (L.mir m p) g).x = (L.turnN (L.mir m p) g').y ∧ (0 : Int) = (0 : Int) ∧ (0 : Int) =
 (0 : Int) ∧ g' ≤ Int.toNat m.turn ∧ Int.toNat m.turn - g' < Int.toNat m.turn - g) ∧ (Decidable.decide ((↑g : Int) < m.turn) = Bool.false → Go.SE.SV.agg [Go.SE.SV.int Go.IntKind.i64 (L.turnN (L.mir m p) g).x, Go.SE.SV.int Go.IntKind.i64 (L.turnN (L.mir m p) g).y] = Go.SE.SV.agg [Go.SE.SV.int Go.IntKind.i64 (L.turned m p).x, Go.SE.SV.int Go.IntKind.i64 (L.turned m p).y]))) (by kernel_rfl) (by
    obtain ⟨hb, t0, t3⟩ := hp
    have hb' : ∀ i, L.bd (L.turnN (L.mir m p) i) := turnN_bd (mir_bd hb)
    unfold L.bd at hb
    refine ⟨fun hm => ⟨InK.of (by omega) (by omega), ⟨(0 : Nat), rfl, ?_, ?_, Nat.zero_le _⟩, fun g hg => ⟨fun hlt => ?_, fun hge => ?_⟩⟩, fun hm => ⟨⟨(0 : Nat), rfl, ?_, ?_, Nat.zero_le _⟩, fun g hg => ⟨fun hlt => ?_, fun hge => ?_⟩⟩⟩
    · show 0 - p.x = (L.mir m p).x
      unfold L.mir; rw [hm]; show 0 - p.x = -p.x; omega
    · show p.y = (L.mir m p).y
      unfold L.mir; rw [hm]; rfl
    · have h := of_decide_eq_true hlt
      have hbg := hb' g
      unfold L.bd at hbg
      exact ⟨InK.of (by omega) (by omega), InK.of (by omega) (by omega), g + 1, by omega, rfl, rfl, rfl, rfl, by show 0 - (L.turnN (L.mir m p) g).y = -(L.turnN (L.mir m p) g).y; omega, rfl, rfl, rfl, by omega, by omega⟩
    · have h := of_decide_eq_false hge
      obtain rfl : g = m.turn.toNat := by omega
      rfl
    · show p.x = (L.mir m p).x
      unfold L.mir; rw [hm]; rfl
    · show p.y = (L.mir m p).y
      unfold L.mir; rw [hm]; rfl
    · have h := of_decide_eq_true hlt
      have hbg := hb' g
      unfold L.bd at hbg
      exact ⟨InK.of (by omega) (by omega), InK.of (by omega) (by omega), g + 1, by omega, rfl, rfl, rfl, rfl, by show 0 - (L.turnN (L.mir m p) g).y = -(L.turnN (L.mir m p) g).y; omega, rfl, rfl, rfl, by omega, by omega⟩
    · have h := of_decide_eq_false hge
      obtain rfl : g = m.turn.toNat := by omega
      rfl)
theorem p_turned_ok : SpecOk Tryz.prog 78 p_turned_S := fnX Tryz.func78 (c := bodyOf Tryz.f78) (by kernel_rfl) mixed (fun args p r hs hp => by
  unfold p_turned_s at hs
  split at hs
  · cases hs; exact ⟨_, _, p_turned_vc _ _ hp, (.same _ (.same _ .nil)), ⟨show SpecsL Tryz.prog _ from SpecsL.nil, rfl, ⟨show ItersL Tryz.prog _ from ItersL.nil, (TrsOk.none (fun _ => rfl))⟩⟩⟩
  · cases hs)
theorem p_turned_en : Enters Tryz.prog 78 := fun args w => by kernel_rfl
def p_apply_p (m : L.Motion) (p : L.Pt) : Prop := L.bd p ∧ L.validM m
def p_apply_r (m : L.Motion) (p : L.Pt) : SV := (.agg [.int .i64 ((L.apply m p).x), .int .i64 ((L.apply m p).y)])
def p_apply_s : List EV → Option (Prop × SV)
  | [.p (.agg [.int .i64 m_turn, .bool m_mirror, .int .i64 m_by__x, .int .i64 m_by__y]), .p (.agg [.int .i64 p_x, .int .i64 p_y])] => some (p_apply_p (⟨m_turn, m_mirror, (⟨m_by__x, m_by__y⟩ : L.Pt)⟩ : L.Motion) (⟨p_x, p_y⟩ : L.Pt), p_apply_r (⟨m_turn, m_mirror, (⟨m_by__x, m_by__y⟩ : L.Pt)⟩ : L.Motion) (⟨p_x, p_y⟩ : L.Pt))
  | _ => none
abbrev p_apply_S : SE.Spec := (specO p_apply_s)
def p_apply_C : Cfg := { muts := [3, 4], frz := lookN [], specs := lookS [(78, p_turned_S)], loops := lookL [], iters := lookI [], rfs := lookR [], nils := lookM [] }
theorem p_apply_vc (m : L.Motion) (p : L.Pt) (hp : p_apply_p m p) : vc Tryz.prog (p_apply_C) (bodyOf Tryz.f69) (st0 Tryz.f69 [.p (.agg [.int .i64 m.turn, .bool m.mirror, .int .i64 m.by_.x, .int .i64 m.by_.y]), .p (.agg [.int .i64 p.x, .int .i64 p.y])]) (retFn Tryz.prog Tryz.f69 (p_apply_r m p)) :=
  @Eq.mpr _ ((L.bd p ∧ (0 : Int) ≤ m.turn ∧ m.turn ≤ (3 : Int)) ∧ Go.SE.InK Go.IntKind.i64 ((L.turned m p).x + m.by_.x) ∧ Go.SE.InK Go.IntKind.i64 ((L.turned m p).y + m.by_.y) ∧ Go.SE.SV.agg [Go.SE.SV.int Go.IntKind.i64 ((L.turned m p).x + m.by_.x), Go.SE.SV.int Go.IntKind.i64 ((L.turned m p).y + m.by_.y)] = Go.SE.SV.agg [Go.SE.SV.int Go.IntKind.i64 (L.apply m p).x, Go.SE.SV.int Go.IntKind.i64 (L.apply m p).y]) (by kernel_rfl) (by
    obtain ⟨hb, hm⟩ := hp
    have hm := validM_iff.1 hm
    have hb' := turnN_bd (mir_bd (m := m) hb) m.turn.toNat
    have hb' : L.bd (L.turned m p) := hb'
    unfold L.bd at hb'
    exact ⟨⟨hb, hm.1.1, hm.1.2⟩, InK.of (by omega) (by omega), InK.of (by omega) (by omega), rfl⟩)
theorem p_apply_ok : SpecOk Tryz.prog 69 p_apply_S := fnX Tryz.func69 (c := bodyOf Tryz.f69) (by kernel_rfl) mixed (fun args p r hs hp => by
  unfold p_apply_s at hs
  split at hs
  · cases hs; exact ⟨_, _, p_apply_vc _ _ hp, (.same _ (.same _ .nil)), ⟨show SpecsL Tryz.prog _ from (SpecsL.cons p_turned_ok p_turned_en SpecsL.nil), rfl, ⟨show ItersL Tryz.prog _ from ItersL.nil, (TrsOk.none (fun _ => rfl))⟩⟩⟩
  · cases hs)
theorem p_apply_en : Enters Tryz.prog 69 := fun args w => by kernel_rfl
theorem p_apply_P : ∀ args p r, p_apply_s args = some (p, r) → ∃ a b, r = .agg [.int .i64 a, .int .i64 b] := by
  intro args p r h
  unfold p_apply_s at h
  split at h
  · cases h; exact ⟨_, _, rfl⟩
  · cases h
def p_mapped_p (l : (L.Sq L.Pt)) (f : FSpec) : Prop := l.n ≤ 1000000 ∧ ∀ i, i < l.n → f.pre [(.agg [.int .i64 ((l.g i).x), .int .i64 ((l.g i).y)])]
def p_mapped_q (l : (L.Sq L.Pt)) (f : FSpec) : (Nat → L.Pt) → Prop := fun t => t = L.fmap f l.g
def p_mapped_n (l : (L.Sq L.Pt)) (f : FSpec) : (Nat → L.Pt) → Nat := fun _ => l.n
def p_mapped_g (l : (L.Sq L.Pt)) (f : FSpec) : (Nat → L.Pt) → Nat → List SV := fun t k => [.int .i64 ((t k).x), .int .i64 ((t k).y)]
def p_mapped_s : List EV → Option (Prop × ((Nat → L.Pt) → Prop) × ((Nat → L.Pt) → Nat) × ((Nat → L.Pt) → Nat → List SV))
  | [.p (.sl 2 l_n l_g), .fn f] => some ((∀ i, i < l_n → l_g i = [.int .i64 ((ofPt (l_g i)).x), .int .i64 ((ofPt (l_g i)).y)]) ∧ L.isP f ∧ p_mapped_p (⟨l_n, fun i => ofPt (l_g i)⟩ : (L.Sq L.Pt)) f, p_mapped_q (⟨l_n, fun i => ofPt (l_g i)⟩ : (L.Sq L.Pt)) f, p_mapped_n (⟨l_n, fun i => ofPt (l_g i)⟩ : (L.Sq L.Pt)) f, p_mapped_g (⟨l_n, fun i => ofPt (l_g i)⟩ : (L.Sq L.Pt)) f)
  | _ => none
abbrev p_mapped_S : SE.Spec := (specF (Nat → L.Pt) (fun _ => ⟨0, 0⟩) 42 2 p_mapped_s)
def p_mapped_C : Cfg := { muts := [7, 10], frz := lookN [], specs := lookS [], loops := fun _ => none, iters := lookI [], rfs := lookR [], nils := lookM [] }
theorem p_mapped_vc (l : (L.Sq L.Pt)) (f : FSpec) (hp : p_mapped_p l f) : vc Tryz.prog ({ p_mapped_C with loops := lookL [(3, { T := Nat, keep := [1, 5, 11, 12], keepO := [], chg := fun i => [(13, .p (.int .i64 (i : Int)))], own := fun i => [(10, .row 42 2 l.n (fun k => [.int .i64 ((L.mapTo l f i k).x), .int .i64 ((L.mapTo l f i k).y)]))], inv := fun i => i ≤ l.n, mu := fun i => l.n - i })], rfs := lookR [] }) (bodyOf Tryz.f68) (st0 Tryz.f68 [.p (.sl 2 l.n (fun i => [.int .i64 ((l.g i).x), .int .i64 ((l.g i).y)])), .fn ⟨f.pre, fun xs => .agg [.int .i64 (L.fpl f xs).x, .int .i64 (L.fpl f xs).y]⟩]) (retFresh Tryz.prog Tryz.f68 ((Nat → L.Pt)) (p_mapped_q l f) 42 2 (p_mapped_n l f) (p_mapped_g l f)) :=
  @Eq.mpr _ (((0 : Int) ≤ (↑l.n : Int) ∧ (↑l.n : Int) ≤ (↑l.n : Int) ∧ (↑l.n : Int) * (↑(nat_lit 16) : Int) ≤ (140737488355328 : Int)) ∧ (∃ (g : Nat), (0 : Int) = (↑g : Int) ∧ (Int.toNat (↑l.n : Int) = l.n ∧ ∀ (i : Nat), i < Int.toNat (↑l.n : Int) → [Go.SE.SV.int Go.IntKind.i64 (0 : Int), Go.SE.SV.int Go.IntKind.i64 (0 : Int)] = [Go.SE.SV.int Go.IntKind.i64 (L.mapTo l f g i).x, Go.SE.SV.int Go.IntKind.i64
 (L.mapTo l f g i).y]) ∧ g ≤ l.n) ∧ ∀ (g : Nat), g ≤ l.n → (Decidable.decide ((↑g : Int) < (↑l.n : Int)) = Bool.true → ((0 : Int) ≤ (↑g : Int) ∧ (↑g : Int) < (↑l.n : Int)) ∧ f.1 [Go.SE.SV.agg [Go.SE.SV.int Go.IntKind.i64 (l.g (Int.toNat (↑g : Int))).x, Go.SE.SV.int Go.IntKind.i64 (l.g (Int.toNat (↑g : Int))).y]] ∧ ((0 : Int) ≤ (↑g : Int) ∧ (↑g : Int) < (↑l.n : Int)) ∧ Int.toNat (↑g : Int) < l.n ∧
 Go.SE.InK Go.IntKind.i64 ((↑g : Int) + (1 : Int)) ∧ ∃ (g' : Nat), (↑g : Int) + (1 : Int) = (↑g' : Int) ∧ (↑l.n : Int) = (↑l.n : Int) ∧ (l.n = l.n ∧ ∀ (i : Nat), i < l.n → [Go.SE.SV.int Go.IntKind.i64 (l.g i).x, Go.SE.SV.int Go.IntKind.i64 (l.g i).y] = [Go.SE.SV.int Go.IntKind.i64 (l.g i).x, Go.SE.SV.int Go.IntKind.i64 (l.g i).y]) ∧ ((Go.SE.FSpec.mk f.pre fun (xs : List Go.SE.SV) ↦ Go.SE.SV.agg
 [Go.SE.SV.int Go.IntKind.i64 (L.fpl f xs).x, Go.SE.SV.int Go.IntKind.i64 (L.fpl f xs).y]) = Go.SE.FSpec.mk f.pre fun (xs : List Go.SE.SV) ↦ Go.SE.SV.agg [Go.SE.SV.int Go.IntKind.i64 (L.fpl f xs).x, Go.SE.SV.int Go.IntKind.i64 (L.fpl f xs).y]) ∧ (l.n = l.n ∧ ∀ (i : Nat), i < l.n → Go.SE.setRow (fun (k : Nat) ↦ [Go.SE.SV.int Go.IntKind.i64 (L.mapTo l f g k).x, Go.SE.SV.int Go.IntKind.i64 (L.mapTo l
 f g k).y]) (Int.toNat (↑g : Int)) (nat_lit 0) [Go.SE.SV.int Go.IntKind.i64 (L.fpl f [Go.SE.SV.agg [Go.SE.SV.int Go.IntKind.i64 (l.g (Int.toNat (↑g : Int))).x, Go.SE.SV.int Go.IntKind.i64 (l.g (Int.toNat (↑g : Int))).y]]).x, Go.SE.SV.int Go.IntKind.i64 (L.fpl f [Go.SE.SV.agg [Go.SE.SV.int Go.IntKind.i64 (l.g (Int.toNat (↑g : Int))).x, Go.SE.SV.int Go.IntKind.i64 (l.g (Int.toNat (↑g : Int))).y]]).y]
 i = [Go.SE.SV.int Go.IntKind.i64 (L.mapTo l f g' i).x, Go.SE.SV.int Go.IntKind.i64 (L.mapTo l f g' i).y]) ∧ g' ≤ l.n ∧ l.n - g' < l.n - g) ∧ (Decidable.decide ((↑g : Int) < (↑l.n : Int)) = Bool.false → ∃ (t : Nat → L.Pt), (l.n = l.n ∧ ∀ (i : Nat), i < l.n → [Go.SE.SV.int Go.IntKind.i64 (L.mapTo l f g i).x, Go.SE.SV.int Go.IntKind.i64 (L.mapTo l f g i).y] = [Go.SE.SV.int Go.IntKind.i64 (t i).x,
 Go.SE.SV.int Go.IntKind.i64 (t i).y]) ∧ t = L.fmap f l.g)) (by kernel_rfl) (by
    obtain ⟨hn, hf⟩ := hp
    refine ⟨⟨by omega, by omega, by show (l.n : Int) * 16 ≤ 140737488355328; omega⟩, ⟨(0 : Nat), rfl, ⟨by omega, fun i hi => rfl⟩, Nat.zero_le _⟩, fun g hg => ⟨fun hlt => ?_, fun hge => ?_⟩⟩
    · have hb : (g : Int) < (l.n : Int) := of_decide_eq_true hlt
      have e0 : ((g : Int)).toNat = g := by omega
      rw [e0]
      refine ⟨⟨by omega, hb⟩, hf g (by omega), ⟨by omega, hb⟩, by omega, InK.of (by omega) (by omega), g + 1, by omega, rfl, ⟨rfl, fun _ _ => rfl⟩, rfl, ⟨rfl, fun i hi => ?_⟩, by omega, by omega⟩
      unfold setRow
      by_cases e : i = g
      · subst e
        rw [if_pos rfl]
        have w : L.mapTo l f (i + 1) i = L.fpl f [.agg [.int .i64 (l.g i).x, .int .i64 (l.g i).y]] := by
          unfold L.mapTo; rw [decide_eq_true (Nat.lt_succ_self i)]; rfl
        rw [w]; rfl
      · rw [if_neg e]
        dsimp only
        have w : L.mapTo l f (g + 1) i = L.mapTo l f g i := by
          unfold L.mapTo
          by_cases c : i < g
          · rw [decide_eq_true c, decide_eq_true (by omega)]
          · rw [decide_eq_false c, decide_eq_false (by omega)]
        rw [w]
    · have hb : ¬ (g : Int) < (l.n : Int) := of_decide_eq_false hge
      obtain rfl : g = l.n := by omega
      refine ⟨L.fmap f l.g, ⟨rfl, fun i hi => ?_⟩, rfl⟩
      have w : L.mapTo l f l.n i = L.fmap f l.g i := by
        unfold L.mapTo; rw [decide_eq_true hi]; rfl
      rw [w])
theorem p_mapped_ok : SpecOk Tryz.prog 68 p_mapped_S := freshX Tryz.func68 (c := bodyOf Tryz.f68) (by kernel_rfl) mixed (fun args p q n g hs hp => by
  unfold p_mapped_s at hs
  split at hs
  · cases hs; exact ⟨_, _, p_mapped_vc _ _ hp.2.2, (.p (.sl hp.1) (.fn (fun xs h => ⟨h, (fpl_res hp.2.1 h).symm⟩) .nil)), ⟨show SpecsL Tryz.prog _ from SpecsL.nil, rfl, ⟨show ItersL Tryz.prog _ from ItersL.nil, (TrsOk.none (fun _ => rfl))⟩⟩⟩
  · cases hs)
theorem p_mapped_en : Enters Tryz.prog 68 := fun args w => by kernel_rfl
def p_ValidMotion_p (m : L.Motion) : Prop := True
def p_ValidMotion_r (m : L.Motion) : SV := .bool (L.validM m)
def p_ValidMotion_s : List EV → Option (Prop × SV)
  | [.p (.agg [.int .i64 m_turn, .bool m_mirror, .int .i64 m_by__x, .int .i64 m_by__y])] => some (p_ValidMotion_p (⟨m_turn, m_mirror, (⟨m_by__x, m_by__y⟩ : L.Pt)⟩ : L.Motion), p_ValidMotion_r (⟨m_turn, m_mirror, (⟨m_by__x, m_by__y⟩ : L.Pt)⟩ : L.Motion))
  | _ => none
abbrev p_ValidMotion_S : SE.Spec := (specO p_ValidMotion_s)
def p_ValidMotion_C : Cfg := { muts := [], frz := lookN [], specs := lookS [(77, p_within_S)], loops := lookL [], iters := lookI [], rfs := lookR [], nils := lookM [] }
theorem p_ValidMotion_vc (m : L.Motion) (hp : p_ValidMotion_p m) : vc Tryz.prog (p_ValidMotion_C) (bodyOf Tryz.f24) (st0 Tryz.f24 [.p (.agg [.int .i64 m.turn, .bool m.mirror, .int .i64 m.by_.x, .int .i64 m.by_.y])]) (retFn Tryz.prog Tryz.f24 (p_ValidMotion_r m)) :=
  @Eq.mpr _ (True ∧ (L.within m.turn (0 : Int) (3 : Int) = Bool.true → True) ∧ ((bif L.within m.turn (0 : Int) (3 : Int) then L.within m.by_.x (-8192 : Int) (8192 : Int) else Bool.false) = Bool.true → True) ∧ (bif bif L.within m.turn (0 : Int) (3 : Int) then L.within m.by_.x (-8192 : Int) (8192 : Int) else Bool.false then L.within m.by_.y (-8192 : Int) (8192 : Int) else Bool.false) = L.validM m) (by kernel_rfl) (by
    refine ⟨trivial, fun _ => trivial, fun _ => trivial, ?_⟩
    rw [band, band]; rfl)
theorem p_ValidMotion_ok : SpecOk Tryz.prog 24 p_ValidMotion_S := fnX Tryz.func24 (c := bodyOf Tryz.f24) (by kernel_rfl) mixed (fun args p r hs hp => by
  unfold p_ValidMotion_s at hs
  split at hs
  · cases hs; exact ⟨_, _, p_ValidMotion_vc _ hp, (.same _ .nil), ⟨show SpecsL Tryz.prog _ from (SpecsL.cons p_within_ok p_within_en SpecsL.nil), rfl, ⟨show ItersL Tryz.prog _ from ItersL.nil, (TrsOk.none (fun _ => rfl))⟩⟩⟩
  · cases hs)
theorem p_ValidMotion_en : Enters Tryz.prog 24 := fun args w => by kernel_rfl
theorem p_ValidMotion_B : ∀ args p r, p_ValidMotion_s args = some (p, r) → ∃ b, r = .bool b := by
  intro args p r h
  unfold p_ValidMotion_s at h
  split at h
  · cases h; exact ⟨_, rfl⟩
  · cases h
def r1_ValidMotion_p (m : L.Motion) : Prop := True
def r1_ValidMotion_r (m : L.Motion) : SV := .bool (L.validM m)
def r1_ValidMotion_s : List EV → Option (Prop × SV)
  | [.p (.agg [.int .i64 m_turn, .bool m_mirror, .int .i64 m_by__x, .int .i64 m_by__y])] => some (r1_ValidMotion_p (⟨m_turn, m_mirror, (⟨m_by__x, m_by__y⟩ : L.Pt)⟩ : L.Motion), r1_ValidMotion_r (⟨m_turn, m_mirror, (⟨m_by__x, m_by__y⟩ : L.Pt)⟩ : L.Motion))
  | _ => none
abbrev r1_ValidMotion_S : SE.Spec := (specO r1_ValidMotion_s)
def r1_ValidMotion_C : Cfg := { muts := [], frz := lookN [], specs := lookS [], loops := lookL [], iters := lookI [], rfs := lookR [], nils := lookM [] }
theorem r1_ValidMotion_vc (m : L.Motion) (hp : r1_ValidMotion_p m) : vc Tryz.prog (r1_ValidMotion_C) (bodyOf Tryz.f25) (st0 Tryz.f25 [.p (.agg [.int .i64 m.turn, .bool m.mirror, .int .i64 m.by_.x, .int .i64 m.by_.y])]) (retFn Tryz.prog Tryz.f25 (r1_ValidMotion_r m)) :=
  @Eq.mpr _ (((bif Decidable.decide ((0 : Int) ≤ m.turn) then Decidable.decide (m.turn ≤ (3 : Int)) else Bool.false) = Bool.true → Go.SE.InK Go.IntKind.i64 ((0 : Int) - (8192 : Int))) ∧ ((bif bif bif Decidable.decide ((0 : Int) ≤ m.turn) then Decidable.decide (m.turn ≤ (3 : Int)) else Bool.false then Decidable.decide ((0 : Int) - (8192 : Int) ≤ m.by_.x) else Bool.false then Decidable.decide (m.by_.x ≤ (8192 :
 Int)) else Bool.false) = Bool.true → Go.SE.InK Go.IntKind.i64 ((0 : Int) - (8192 : Int))) ∧ (bif bif bif bif bif Decidable.decide ((0 : Int) ≤ m.turn) then Decidable.decide (m.turn ≤ (3 : Int)) else Bool.false then Decidable.decide ((0 : Int) - (8192 : Int) ≤ m.by_.x) else Bool.false then Decidable.decide (m.by_.x ≤ (8192 : Int)) else Bool.false then Decidable.decide ((0 : Int) - (8192 : Int) ≤
 m.by_.y) else Bool.false then Decidable.decide (m.by_.y ≤ (8192 : Int)) else Bool.false) = L.validM m) (by kernel_rfl) (by
    refine ⟨fun _ => InK.of (by omega) (by omega), fun _ => InK.of (by omega) (by omega), ?_⟩
    rw [Bool.eq_iff_iff, validM_iff]
    simp only [band, Bool.and_eq_true, decide_eq_true_eq]
    omega)
theorem r1_ValidMotion_ok : SpecOk Tryz.prog 25 r1_ValidMotion_S := fnX Tryz.func25 (c := bodyOf Tryz.f25) (by kernel_rfl) mixed (fun args p r hs hp => by
  unfold r1_ValidMotion_s at hs
  split at hs
  · cases hs; exact ⟨_, _, r1_ValidMotion_vc _ hp, (.same _ .nil), ⟨show SpecsL Tryz.prog _ from SpecsL.nil, rfl, ⟨show ItersL Tryz.prog _ from ItersL.nil, (TrsOk.none (fun _ => rfl))⟩⟩⟩
  · cases hs)
theorem r1_ValidMotion_en : Enters Tryz.prog 25 := fun args w => by kernel_rfl
theorem r1_ValidMotion_B : ∀ args p r, r1_ValidMotion_s args = some (p, r) → ∃ b, r = .bool b := by
  intro args p r h
  unfold r1_ValidMotion_s at h
  split at h
  · cases h; exact ⟨_, rfl⟩
  · cases h
def p_Move_p (l : (L.Sq L.Pt)) (m : L.Motion) : Prop := l.n ≤ 1000000
def p_Move_r (l : (L.Sq L.Pt)) (m : L.Motion) : SV := .tup [.sl 2 (L.movN l m) (fun k => [.int .i64 (((L.norm (L.moved l m)).g k).x), .int .i64 (((L.norm (L.moved l m)).g k).y)]), (.agg [.int .i64 ((L.movS l m).shift), .bool ((L.movS l m).back)]), .int .i64 (L.movE l m)]
def p_Move_s : List EV → Option (Prop × SV)
  | [.p (.sl 2 l_n l_g), .p (.agg [.int .i64 m_turn, .bool m_mirror, .int .i64 m_by__x, .int .i64 m_by__y])] => some ((∀ i, i < l_n → l_g i = [.int .i64 ((ofPt (l_g i)).x), .int .i64 ((ofPt (l_g i)).y)]) ∧ p_Move_p (⟨l_n, fun i => ofPt (l_g i)⟩ : (L.Sq L.Pt)) (⟨m_turn, m_mirror, (⟨m_by__x, m_by__y⟩ : L.Pt)⟩ : L.Motion), p_Move_r (⟨l_n, fun i => ofPt (l_g i)⟩ : (L.Sq L.Pt)) (⟨m_turn, m_mirror, (⟨m_by__x, m_by__y⟩ : L.Pt)⟩ : L.Motion))
  | _ => none
abbrev p_Move_S : SE.Spec := (specO p_Move_s)
def p_Move_C : Cfg := { muts := [5], frz := lookN [], specs := lookS [(32, p_ValidOutline_S), (24, p_ValidMotion_S), (69, p_apply_S), (68, p_mapped_S), (70, p_valid_S), (71, p_normal_S), (72, s_idxPt_S)], loops := lookL [], iters := lookI [], rfs := lookR [], nils := lookM [] }
theorem p_Move_vc (l : (L.Sq L.Pt)) (m : L.Motion) (hp : p_Move_p l m) : vc Tryz.prog (p_Move_C) (bodyOf Tryz.f21) (st0 Tryz.f21 [.p (.sl 2 l.n (fun i => [.int .i64 ((l.g i).x), .int .i64 ((l.g i).y)])), .p (.agg [.int .i64 m.turn, .bool m.mirror, .int .i64 m.by_.x, .int .i64 m.by_.y])]) (retFn Tryz.prog Tryz.f21 (p_Move_r l m)) :=
  @Eq.mpr _ (((∀ (i : Nat), i < l.n → [Go.SE.SV.int Go.IntKind.i64 (l.g i).x, Go.SE.SV.int Go.IntKind.i64 (l.g i).y] = [Go.SE.SV.int Go.IntKind.i64 (l.g i).x, Go.SE.SV.int Go.IntKind.i64 (l.g i).y]) ∧ l.n ≤ (1000000 : Nat)) ∧ ((!!L.validOutline (L.Sq.mk l.n fun (i : Nat) ↦ l.g i)) = Bool.true → True) ∧ ((bif !L.validOutline (L.Sq.mk l.n fun (i : Nat) ↦ l.g i) then Bool.true else !L.validM m) = Bool.true →
 L.movN l m = (0 : Nat) ∧ Go.SE.SV.agg [Go.SE.SV.int Go.IntKind.i64 (0 : Int), Go.SE.SV.bool Bool.false] = Go.SE.SV.agg [Go.SE.SV.int Go.IntKind.i64 (L.movS l m).shift, Go.SE.SV.bool (L.movS l m).back] ∧ (1 : Int) = L.movE l m) ∧ ((bif !L.validOutline (L.Sq.mk l.n fun (i : Nat) ↦ l.g i) then Bool.true else !L.validM m) = Bool.false → ((∀ (i : Nat), i < l.n → [Go.SE.SV.int Go.IntKind.i64 (l.g i).x,
 Go.SE.SV.int Go.IntKind.i64 (l.g i).y] = [Go.SE.SV.int Go.IntKind.i64 (l.g i).x, Go.SE.SV.int Go.IntKind.i64 (l.g i).y]) ∧ L.isP (Go.SE.FSpec.mk (fun (xs : List Go.SE.SV) ↦ Go.SE.preO p_apply_s (List.map Go.SE.EV.p [Go.SE.SV.agg [Go.SE.SV.int Go.IntKind.i64 m.turn, Go.SE.SV.bool m.mirror, Go.SE.SV.int Go.IntKind.i64 m.by_.x, Go.SE.SV.int Go.IntKind.i64 m.by_.y]] ++ List.map Go.SE.EV.p xs)) fun (xs
 : List Go.SE.SV) ↦ Go.SE.resO p_apply_s (List.map Go.SE.EV.p [Go.SE.SV.agg [Go.SE.SV.int Go.IntKind.i64 m.turn, Go.SE.SV.bool m.mirror, Go.SE.SV.int Go.IntKind.i64 m.by_.x, Go.SE.SV.int Go.IntKind.i64 m.by_.y]] ++ List.map Go.SE.EV.p xs)) ∧ l.n ≤ (1000000 : Nat) ∧ ∀ (i : Nat), i < l.n → L.bd (l.g i) ∧ L.validM m = Bool.true) ∧ ∀ (t : Nat → L.Pt), (t = L.fmap (Go.SE.FSpec.mk (fun (xs : List
 Go.SE.SV) ↦ Go.SE.preO p_apply_s (List.map Go.SE.EV.p [Go.SE.SV.agg [Go.SE.SV.int Go.IntKind.i64 m.turn, Go.SE.SV.bool m.mirror, Go.SE.SV.int Go.IntKind.i64 m.by_.x, Go.SE.SV.int Go.IntKind.i64 m.by_.y]] ++ List.map Go.SE.EV.p xs)) fun (xs : List Go.SE.SV) ↦ Go.SE.resO p_apply_s (List.map Go.SE.EV.p [Go.SE.SV.agg [Go.SE.SV.int Go.IntKind.i64 m.turn, Go.SE.SV.bool m.mirror, Go.SE.SV.int
 Go.IntKind.i64 m.by_.x, Go.SE.SV.int Go.IntKind.i64 m.by_.y]] ++ List.map Go.SE.EV.p xs)) fun (i : Nat) ↦ l.g i) → ((∀ (i : Nat), i < l.n → [Go.SE.SV.int Go.IntKind.i64 (t i).x, Go.SE.SV.int Go.IntKind.i64 (t i).y] = [Go.SE.SV.int Go.IntKind.i64 (t i).x, Go.SE.SV.int Go.IntKind.i64 (t i).y]) ∧ l.n ≤ (1000000 : Nat)) ∧ ((!L.allB l.n fun (i : Nat) ↦ L.validPt (t i)) = Bool.true → L.movN l m = (0 :
 Nat) ∧ Go.SE.SV.agg [Go.SE.SV.int Go.IntKind.i64 (0 : Int), Go.SE.SV.bool Bool.false] = Go.SE.SV.agg [Go.SE.SV.int Go.IntKind.i64 (L.movS l m).shift, Go.SE.SV.bool (L.movS l m).back] ∧ (2 : Int) = L.movE l m) ∧ ((!L.allB l.n fun (i : Nat) ↦ L.validPt (t i)) = Bool.false → ((∀ (i : Nat), i < l.n → [Go.SE.SV.int Go.IntKind.i64 (t i).x, Go.SE.SV.int Go.IntKind.i64 (t i).y] = [Go.SE.SV.int
 Go.IntKind.i64 (t i).x, Go.SE.SV.int Go.IntKind.i64 (t i).y]) ∧ L.small (L.Sq.mk l.n fun (i : Nat) ↦ t i) ∧ (1 : Nat) ≤ l.n) ∧ ∀ (t_1 : Nat), True → ((0 : Int) ≤ (0 : Int) ∧ (0 : Int) < (↑l.n : Int)) ∧ ((∀ (i : Nat), i < l.n → [Go.SE.SV.int Go.IntKind.i64 ((L.norm (L.Sq.mk l.n fun (i : Nat) ↦ t i)).g i).x, Go.SE.SV.int Go.IntKind.i64 ((L.norm (L.Sq.mk l.n fun (i : Nat) ↦ t i)).g i).y] =
 [Go.SE.SV.int Go.IntKind.i64 ((L.norm (L.Sq.mk l.n fun (i : Nat) ↦ t i)).g i).x, Go.SE.SV.int Go.IntKind.i64 ((L.norm (L.Sq.mk l.n fun (i : Nat) ↦ t i)).g i).y]) ∧ l.n ≤ (1000000 : Nat)) ∧ ((0 : Int) ≤ (1 : Int) ∧ (1 : Int) < (↑l.n : Int)) ∧ ((∀ (i : Nat), i < l.n → [Go.SE.SV.int Go.IntKind.i64 ((L.norm (L.Sq.mk l.n fun (i : Nat) ↦ t i)).g i).x, Go.SE.SV.int Go.IntKind.i64 ((L.norm (L.Sq.mk l.n
 fun (i : Nat) ↦ t i)).g i).y] = [Go.SE.SV.int Go.IntKind.i64 ((L.norm (L.Sq.mk l.n fun (i : Nat) ↦ t i)).g i).x, Go.SE.SV.int Go.IntKind.i64 ((L.norm (L.Sq.mk l.n fun (i : Nat) ↦ t i)).g i).y]) ∧ l.n ≤ (1000000 : Nat)) ∧ (m.mirror = Bool.true → (l.n = L.movN l m ∧ ∀ (i : Nat), i < l.n → [Go.SE.SV.int Go.IntKind.i64 ((L.norm (L.Sq.mk l.n fun (i : Nat) ↦ t i)).g i).x, Go.SE.SV.int Go.IntKind.i64
 ((L.norm (L.Sq.mk l.n fun (i : Nat) ↦ t i)).g i).y] = [Go.SE.SV.int Go.IntKind.i64 ((L.norm (L.moved l m)).g i).x, Go.SE.SV.int Go.IntKind.i64 ((L.norm (L.moved l m)).g i).y]) ∧ Go.SE.SV.agg [Go.SE.SV.int Go.IntKind.i64 (L.ptIdx (L.Sq.mk l.n fun (i : Nat) ↦ (L.norm (L.Sq.mk l.n fun (i : Nat) ↦ t i)).g i) (t (Int.toNat (1 : Int)))), Go.SE.SV.bool Bool.true] = Go.SE.SV.agg [Go.SE.SV.int
 Go.IntKind.i64 (L.movS l m).shift, Go.SE.SV.bool (L.movS l m).back] ∧ (0 : Int) = L.movE l m) ∧ (m.mirror = Bool.false → (l.n = L.movN l m ∧ ∀ (i : Nat), i < l.n → [Go.SE.SV.int Go.IntKind.i64 ((L.norm (L.Sq.mk l.n fun (i : Nat) ↦ t i)).g i).x, Go.SE.SV.int Go.IntKind.i64 ((L.norm (L.Sq.mk l.n fun (i : Nat) ↦ t i)).g i).y] = [Go.SE.SV.int Go.IntKind.i64 ((L.norm (L.moved l m)).g i).x, Go.SE.SV.int
 Go.IntKind.i64 ((L.norm (L.moved l m)).g i).y]) ∧ Go.SE.SV.agg [Go.SE.SV.int Go.IntKind.i64 (L.ptIdx (L.Sq.mk l.n fun (i : Nat) ↦ (L.norm (L.Sq.mk l.n fun (i : Nat) ↦ t i)).g i) (t (Int.toNat (0 : Int)))), Go.SE.SV.bool Bool.false] = Go.SE.SV.agg [Go.SE.SV.int Go.IntKind.i64 (L.movS l m).shift, Go.SE.SV.bool (L.movS l m).back] ∧ (0 : Int) = L.movE l m)))) (by kernel_rfl) (by
    have hn : l.n ≤ 1000000 := hp
    refine ⟨⟨fun _ _ => rfl, hn⟩, fun _ => trivial, fun h => ?_, fun h => ?_⟩
    · have h : (bif !L.validOutline l then true else !L.validM m) = true := h
      have e : L.movE l m = 1 := by unfold L.movE; rw [h]; rfl
      unfold L.movN L.movS; rw [e]; exact ⟨rfl, rfl, rfl⟩
    have h0 : (bif !L.validOutline l then true else !L.validM m) = false := h
    have h := h0
    rw [bor, Bool.or_eq_false_iff] at h
    have hv := notF h.1
    have hm := notF h.2
    obtain ⟨n3, n24, _, _⟩ := validOutline_of hv
    have hvp := (outline_all hv).1
    refine ⟨⟨fun _ _ => rfl, isP_of p_apply_P (fun xs => List.map EV.p [.agg [.int .i64 m.turn, .bool m.mirror, .int .i64 m.by_.x, .int .i64 m.by_.y]] ++ List.map EV.p xs), hn, fun i hi => ⟨bd_of_valid (hvp i hi), hm⟩⟩, fun t ht => ?_⟩
    have ht : t = (L.moved l m).g := ht
    subst ht
    refine ⟨⟨fun _ _ => rfl, hn⟩, fun h2 => ?_, fun h2 => ?_⟩
    · have h2 : L.validPts (L.moved l m) = false := notT h2
      have e : L.movE l m = 2 := by unfold L.movE; rw [h0, h2]; rfl
      unfold L.movN L.movS; rw [e]; exact ⟨rfl, rfl, rfl⟩
    have h2 : L.validPts (L.moved l m) = true := notF h2
    have e : L.movE l m = 0 := by unfold L.movE; rw [h0, h2]; rfl
    have eN : l.n = L.movN l m := by unfold L.movN; rw [e]; rfl
    refine ⟨⟨fun _ _ => rfl, small_of_valid (by show l.n ≤ 1000; omega) h2, by omega⟩, fun _ _ => ⟨⟨by omega, by omega⟩, ⟨fun _ _ => rfl, hn⟩, ⟨by omega, by omega⟩, ⟨fun _ _ => rfl, hn⟩, fun hk => ⟨⟨eN, fun _ _ => rfl⟩, ?_, e.symm⟩, fun hk => ⟨⟨eN, fun _ _ => rfl⟩, ?_, e.symm⟩⟩⟩
    · unfold L.movS; rw [e, hk]; rfl
    · unfold L.movS; rw [e, hk]; rfl)
theorem p_Move_ok : SpecOk Tryz.prog 21 p_Move_S := fnX Tryz.func21 (c := bodyOf Tryz.f21) (by kernel_rfl) mixed (fun args p r hs hp => by
  unfold p_Move_s at hs
  split at hs
  · cases hs; exact ⟨_, _, p_Move_vc _ _ hp.2, (.p (.sl hp.1) (.same _ .nil)), ⟨show SpecsL Tryz.prog _ from (SpecsL.cons p_ValidOutline_ok p_ValidOutline_en (SpecsL.cons p_ValidMotion_ok p_ValidMotion_en (SpecsL.cons p_apply_ok p_apply_en (SpecsL.cons p_mapped_ok p_mapped_en (SpecsL.cons p_valid_ok p_valid_en (SpecsL.cons p_normal_ok p_normal_en (SpecsL.cons s_idxPt_ok s_idxPt_en SpecsL.nil))))))), rfl, ⟨show ItersL Tryz.prog _ from ItersL.nil, (TrsOk.none (fun _ => rfl))⟩⟩⟩
  · cases hs)
theorem p_Move_en : Enters Tryz.prog 21 := fun args w => by kernel_rfl
end Go.Proofs.YtooapgllahonaaaGreat

namespace Go.Proofs.YtooapgllahonaaaGreat
open Go.SE Go.RowKit
set_option maxRecDepth 100000
set_option maxHeartbeats 4000000
set_option linter.unusedVariables false
attribute [local irreducible] Go.SE.vc

def L.mem (ks : L.Sq L.Pt) (p : L.Pt) : Prop := ∃ i, i < ks.n ∧ ks.g i = p
def L.nod (ks : L.Sq L.Pt) : Prop := ∀ i j, i < ks.n → j < ks.n → ks.g i = ks.g j → i = j
theorem has_iff {ks : L.Sq L.Pt} {p : L.Pt} : L.has ks p = true ↔ L.mem ks p := by
  unfold L.has L.mem
  rw [anyB_iff]
  exact ⟨fun ⟨i, h1, h2⟩ => ⟨i, h1, (same_eq h2).symm⟩, fun ⟨i, h1, h2⟩ => ⟨i, h1, by rw [h2]; exact same_refl p⟩⟩
theorem put_mem {ks : L.Sq L.Pt} {p q : L.Pt} : L.mem (L.put ks p) q ↔ L.mem ks q ∨ q = p := by
  unfold L.put
  cases h : L.has ks p with
  | true =>
    rw [cond_true]
    exact ⟨.inl, fun h' => by rcases h' with h' | rfl; exact h'; exact has_iff.1 h⟩
  | false =>
    rw [cond_false]
    constructor
    · rintro ⟨i, h1, h2⟩
      dsimp only at h1 h2
      by_cases hi : i < ks.n
      · rw [if_pos hi] at h2; exact .inl ⟨i, hi, h2⟩
      · rw [if_neg hi] at h2; exact .inr h2.symm
    · rintro (⟨i, h1, h2⟩ | rfl)
      · exact ⟨i, Nat.lt_succ_of_lt h1, by dsimp only; rw [if_pos h1]; exact h2⟩
      · exact ⟨ks.n, Nat.lt_succ_self _, by dsimp only; rw [if_neg (Nat.lt_irrefl _)]⟩
theorem put_nod {ks : L.Sq L.Pt} {p : L.Pt} (h : L.nod ks) : L.nod (L.put ks p) := by
  unfold L.put
  cases hp : L.has ks p with
  | true => exact h
  | false =>
    have hno : ∀ i, i < ks.n → ks.g i ≠ p := fun i hi e => by
      rw [has_iff.2 ⟨i, hi, e⟩] at hp; cases hp
    rw [cond_false]
    intro i j hi hj e
    dsimp only at hi hj e
    by_cases h1 : i < ks.n <;> by_cases h2 : j < ks.n
    · rw [if_pos h1, if_pos h2] at e; exact h i j h1 h2 e
    · rw [if_pos h1, if_neg h2] at e; exact absurd e (hno i h1)
    · rw [if_neg h1, if_pos h2] at e; exact absurd e.symm (hno j h2)
    · omega
theorem putIf_mem {c : Bool} {ks : L.Sq L.Pt} {p q : L.Pt} : L.mem (L.putIf c ks p) q ↔ L.mem ks q ∨ (c = true ∧ q = p) := by
  unfold L.putIf
  cases c with
  | true => rw [cond_true, put_mem]; exact ⟨fun h => h.imp id (fun e => ⟨rfl, e⟩), fun h => h.imp id (fun e => e.2)⟩
  | false => rw [cond_false]; exact ⟨.inl, fun h => by rcases h with h | h; exact h; exact absurd h.1 Bool.false_ne_true⟩
theorem putIf_nod {c : Bool} {ks : L.Sq L.Pt} {p : L.Pt} (h : L.nod ks) : L.nod (L.putIf c ks p) := by
  unfold L.putIf
  cases c with
  | true => exact put_nod h
  | false => exact h
def L.S (a b c d q : L.Pt) : Prop := (L.on c d a = true ∧ q = a) ∨ (L.on c d b = true ∧ q = b) ∨ (L.on a b c = true ∧ q = c) ∨ (L.on a b d = true ∧ q = d)
theorem no_mem {q : L.Pt} : ¬ L.mem L.no q := fun ⟨_, h, _⟩ => absurd h (Nat.not_lt_zero _)
theorem k2_mem {a b c d q : L.Pt} : L.mem (L.k2 a b c d 2) q ↔ L.S a b c d q := by
  show L.mem (L.putIf (L.on a b d) (L.putIf (L.on a b c) (L.putIf (L.on c d b) (L.putIf (L.on c d a) L.no a) b) c) d) q ↔ _
  rw [putIf_mem, putIf_mem, putIf_mem, putIf_mem]
  unfold L.S
  have := no_mem (q := q)
  constructor
  · rintro ((((h | h) | h) | h) | h)
    · exact absurd h this
    · exact .inl h
    · exact .inr (.inl h)
    · exact .inr (.inr (.inl h))
    · exact .inr (.inr (.inr h))
  · rintro (h | h | h | h)
    · exact .inl (.inl (.inl (.inr h)))
    · exact .inl (.inl (.inr h))
    · exact .inl (.inr h)
    · exact .inr h
theorem k2_nod {a b c d : L.Pt} : L.nod (L.k2 a b c d 2) := by
  show L.nod (L.putIf (L.on a b d) (L.putIf (L.on a b c) (L.putIf (L.on c d b) (L.putIf (L.on c d a) L.no a) b) c) d)
  exact putIf_nod (putIf_nod (putIf_nod (putIf_nod (fun i j hi => absurd hi (Nat.not_lt_zero _)))))
theorem n_two {ks : L.Sq L.Pt} (h : L.nod ks) : 1 < ks.n ↔ ∃ p q, L.mem ks p ∧ L.mem ks q ∧ p ≠ q := by
  constructor
  · intro h1
    refine ⟨ks.g 0, ks.g 1, ⟨0, by omega, rfl⟩, ⟨1, h1, rfl⟩, fun e => ?_⟩
    have := h 0 1 (by omega) h1 e
    omega
  · rintro ⟨p, q, ⟨i, hi, rfl⟩, ⟨j, hj, rfl⟩, hne⟩
    have : i ≠ j := fun e => hne (by rw [e])
    omega
theorem n_pos {ks : L.Sq L.Pt} : 0 < ks.n ↔ ∃ p, L.mem ks p :=
  ⟨fun h => ⟨ks.g 0, 0, h, rfl⟩, fun ⟨_, i, hi, _⟩ => by omega⟩
theorem meet_map {a b c d a' b' c' d' : L.Pt} (T : L.Pt → L.Pt) (inj : ∀ p q, T p = T q → p = q) (hS : ∀ q, L.S a' b' c' d' q ↔ ∃ p, L.S a b c d p ∧ T p = q)
    (hA : (L.apart a' b' c' d' && L.apart c' d' a' b') = (L.apart a b c d && L.apart c d a b)) : L.meet a' b' c' d' = L.meet a b c d := by
  have h2 : 1 < (L.k2 a' b' c' d' 2).n ↔ 1 < (L.k2 a b c d 2).n := by
    rw [n_two k2_nod, n_two k2_nod]
    constructor
    · rintro ⟨p, q, hp, hq, hne⟩
      rw [k2_mem, hS] at hp hq
      obtain ⟨p0, hp, rfl⟩ := hp
      obtain ⟨q0, hq, rfl⟩ := hq
      exact ⟨p0, q0, k2_mem.2 hp, k2_mem.2 hq, fun e => hne (by rw [e])⟩
    · rintro ⟨p, q, hp, hq, hne⟩
      exact ⟨T p, T q, k2_mem.2 ((hS _).2 ⟨p, k2_mem.1 hp, rfl⟩), k2_mem.2 ((hS _).2 ⟨q, k2_mem.1 hq, rfl⟩), fun e => hne (inj _ _ e)⟩
  have h0 : 0 < (L.k2 a' b' c' d' 2).n ↔ 0 < (L.k2 a b c d 2).n := by
    rw [n_pos, n_pos]
    constructor
    · rintro ⟨p, hp⟩
      rw [k2_mem, hS] at hp
      obtain ⟨p0, hp, rfl⟩ := hp
      exact ⟨p0, k2_mem.2 hp⟩
    · rintro ⟨p, hp⟩
      exact ⟨T p, k2_mem.2 ((hS _).2 ⟨p, k2_mem.1 hp, rfl⟩)⟩
  unfold L.meet
  rw [band, band, hA]
  have e1 : decide (1 < ((L.k2 a' b' c' d' 2).n : Int)) = decide (1 < ((L.k2 a b c d 2).n : Int)) := by rw [decide_eq_decide]; omega
  have e2 : decide (((L.k2 a' b' c' d' 2).n : Int) = 1) = decide (((L.k2 a b c d 2).n : Int) = 1) := by rw [decide_eq_decide]; omega
  rw [e1, e2]
theorem meet_none {a b c d : L.Pt} (h : L.meet a b c d = 0) (q : L.Pt) : ¬ L.S a b c d q := fun hS => by
  have h0 := n_pos.2 ⟨q, k2_mem.2 hS⟩
  unfold L.meet at h
  by_cases h1 : 1 < ((L.k2 a b c d 2).n : Int)
  · rw [decide_eq_true h1] at h; cases h
  · rw [decide_eq_false h1, decide_eq_true (show ((L.k2 a b c d 2).n : Int) = 1 by omega)] at h; cases h
theorem meet_swap (a b c d : L.Pt) : L.meet c d a b = L.meet a b c d := by
  refine meet_map id (fun _ _ h => h) (fun q => ?_) (Bool.and_comm _ _)
  unfold L.S
  constructor
  · rintro (h | h | h | h)
    · exact ⟨q, .inr (.inr (.inl h)), rfl⟩
    · exact ⟨q, .inr (.inr (.inr h)), rfl⟩
    · exact ⟨q, .inl h, rfl⟩
    · exact ⟨q, .inr (.inl h), rfl⟩
  · rintro ⟨p, h, rfl⟩
    rcases h with h | h | h | h
    · exact .inr (.inr (.inl h))
    · exact .inr (.inr (.inr h))
    · exact .inl h
    · exact .inr (.inl h)
theorem cross_flip (a b c : L.Pt) : L.cross b a c = - L.cross a b c := by
  unfold L.cross
  grind
theorem on_flip (a b p : L.Pt) : L.on b a p = L.on a b p := by
  unfold L.on
  rw [cross_flip, Int.min_comm b.x, Int.max_comm b.x, Int.min_comm b.y, Int.max_comm b.y]
  congr 2
  rw [decide_eq_decide]
  omega
theorem cmp0 (a : Int) : L.cmp (-a) 0 = - L.cmp a 0 := by
  unfold L.cmp
  rcases Int.lt_trichotomy a 0 with h | h | h
  · rw [decide_eq_true h, decide_eq_false (show ¬ -a < 0 by omega), decide_eq_true (show 0 < -a by omega)]; rfl
  · subst h; rfl
  · rw [decide_eq_false (show ¬ a < 0 by omega), decide_eq_true h, decide_eq_true (show -a < 0 by omega)]; rfl
theorem apart_eq {a b c d a' b' c' d' : L.Pt} {e : Int} (he : e = 1 ∨ e = -1) (h1 : L.cross a' b' c' = e * L.cross a b c) (h2 : L.cross a' b' d' = e * L.cross a b d) : L.apart a' b' c' d' = L.apart a b c d := by
  unfold L.apart
  rw [h1, h2]
  rcases he with rfl | rfl
  · rw [Int.one_mul, Int.one_mul]
  · rw [show ∀ x : Int, -1 * x = -x from fun x => by omega, show ∀ x : Int, -1 * x = -x from fun x => by omega, cmp0, cmp0, Int.neg_mul_neg]
theorem apart_sym (a b c d : L.Pt) : L.apart a b d c = L.apart a b c d := by
  unfold L.apart; rw [Int.mul_comm]
theorem meet_rev (a b c d : L.Pt) : L.meet b a c d = L.meet a b c d := by
  refine meet_map id (fun _ _ h => h) (fun q => ?_) ?_
  · unfold L.S
    rw [on_flip a b c, on_flip a b d]
    constructor
    · rintro (h | h | h | h)
      · exact ⟨q, .inr (.inl h), rfl⟩
      · exact ⟨q, .inl h, rfl⟩
      · exact ⟨q, .inr (.inr (.inl h)), rfl⟩
      · exact ⟨q, .inr (.inr (.inr h)), rfl⟩
    · rintro ⟨p, h, rfl⟩
      rcases h with h | h | h | h
      · exact .inr (.inl h)
      · exact .inl h
      · exact .inr (.inr (.inl h))
      · exact .inr (.inr (.inr h))
  · have e := apart_eq (a := a) (b := b) (c := c) (d := d) (a' := b) (b' := a) (c' := c) (d' := d) (e := -1) (.inr rfl) (by rw [cross_flip a b c]; omega) (by rw [cross_flip a b d]; omega)
    rw [apart_sym c d a b, e]
theorem meet_rev2 (a b c d : L.Pt) : L.meet b a d c = L.meet a b c d := by
  rw [meet_rev, ← meet_swap, meet_rev, meet_swap]
end Go.Proofs.YtooapgllahonaaaGreat

namespace Go.Proofs.YtooapgllahonaaaGreat
open Go.SE Go.RowKit
set_option maxRecDepth 100000
set_option maxHeartbeats 4000000
set_option linter.unusedVariables false
attribute [local irreducible] Go.SE.vc

def L.cor (s : L.Setting) (n : Int) (i : Int) : Int := bif s.back then Int.tmod (s.shift + n - i + 1) n else Int.tmod (s.shift + i) n
def L.laid (q : L.Sq L.Pt) (s : L.Setting) (n : Nat) (i : Nat) : L.Pt := q.g (L.cor s n (i : Int)).toNat
def L.laidTo (q : L.Sq L.Pt) (s : L.Setting) (n i k : Nat) : L.Pt := bif decide (k < i) then L.laid q s n k else ⟨0, 0⟩
def L.conD (p q : L.Sq L.Pt) (s : L.Setting) (i k : Nat) : Bool := decide (L.dist (p.g i) (p.g k) = L.dist (L.laid q s p.n i) (L.laid q s p.n k))
def L.conB (p q : L.Sq L.Pt) (s : L.Setting) (i : Nat) : Bool := decide (0 < L.cross (p.g (L.prev p.n i)) (p.g i) (p.g (L.next p.n i))) == !(decide (0 < L.cross (L.laid q s p.n (L.prev p.n i)) (L.laid q s p.n i) (L.laid q s p.n (L.next p.n i))) == s.back)
def L.conI (p q : L.Sq L.Pt) (s : L.Setting) (i : Nat) : Bool := L.allB i (L.conD p q s i) && L.conB p q s i
def L.congr (p q : L.Sq L.Pt) (s : L.Setting) : Bool := L.allB p.n (L.conI p q s)
def L.conK (p q : L.Sq L.Pt) (k : Nat) : Bool := L.congr p q (L.sett k)
def L.conE (p q : L.Sq L.Pt) : Int := bif (bif !L.validOutline p then true else !L.validOutline q) then 1 else 0
def L.conN (p q : L.Sq L.Pt) : Nat := bif decide (L.conE p q = 0) then (bif decide ((p.n : Int) = q.n) then L.cnt (L.conK p q) (2 * p.n) else 0) else 0
def L.conG (p q : L.Sq L.Pt) (k : Nat) : L.Setting := L.sett (L.selN (L.conK p q) (2 * p.n) k)
def L.among (l : L.Sq L.Setting) (s : L.Setting) : Bool := L.anyB l.n (fun i => L.sameS (l.g i) s)
def p_corner_p (s : L.Setting) (n : Int) (i : Int) : Prop := 1 ≤ n ∧ n ≤ 1000 ∧ 0 ≤ s.shift ∧ s.shift ≤ 1000 ∧ 0 ≤ i ∧ i ≤ 1000
def p_corner_r (s : L.Setting) (n : Int) (i : Int) : SV := .int .i64 (L.cor s n i)
def p_corner_s : List EV → Option (Prop × SV)
  | [.p (.agg [.int .i64 s_shift, .bool s_back]), .p (.int .i64 n), .p (.int .i64 i)] => some (p_corner_p (⟨s_shift, s_back⟩ : L.Setting) n i, p_corner_r (⟨s_shift, s_back⟩ : L.Setting) n i)
  | _ => none
abbrev p_corner_S : SE.Spec := (specO p_corner_s)
def p_corner_C : Cfg := { muts := [], frz := lookN [], specs := lookS [], loops := lookL [], iters := lookI [], rfs := lookR [], nils := lookM [] }
theorem p_corner_vc (s : L.Setting) (n : Int) (i : Int) (hp : p_corner_p s n i) : vc Tryz.prog (p_corner_C) (bodyOf Tryz.f169) (st0 Tryz.f169 [.p (.agg [.int .i64 s.shift, .bool s.back]), .p (.int .i64 n), .p (.int .i64 i)]) (retFn Tryz.prog Tryz.f169 (p_corner_r s n i)) :=
  @Eq.mpr _ ((s.back = Bool.true → Go.SE.InK Go.IntKind.i64 (s.shift + n) ∧ Go.SE.InK Go.IntKind.i64 (s.shift + n - i) ∧ Go.SE.InK Go.IntKind.i64 (s.shift + n - i + (1 : Int)) ∧ n ≠ (0 : Int) ∧ Int.tmod (s.shift + n - i + (1 : Int)) n = L.cor s n i) ∧ (s.back = Bool.false → Go.SE.InK Go.IntKind.i64 (s.shift + i) ∧ n ≠ (0 : Int) ∧ Int.tmod (s.shift + i) n = L.cor s n i)) (by kernel_rfl) (by
    obtain ⟨h1, h2, h3, h4, h5, h6⟩ := hp
    refine ⟨fun h => ⟨InK.of (by omega) (by omega), InK.of (by omega) (by omega), InK.of (by omega) (by omega), by omega, ?_⟩, fun h => ⟨InK.of (by omega) (by omega), by omega, ?_⟩⟩
    · unfold L.cor; rw [h]; rfl
    · unfold L.cor; rw [h]; rfl)
theorem p_corner_ok : SpecOk Tryz.prog 169 p_corner_S := fnX Tryz.func169 (c := bodyOf Tryz.f169) (by kernel_rfl) mixed (fun args p r hs hp => by
  unfold p_corner_s at hs
  split at hs
  · cases hs; exact ⟨_, _, p_corner_vc _ _ _ hp, (.same _ (.same _ (.same _ .nil))), ⟨show SpecsL Tryz.prog _ from SpecsL.nil, rfl, ⟨show ItersL Tryz.prog _ from ItersL.nil, (TrsOk.none (fun _ => rfl))⟩⟩⟩
  · cases hs)
theorem p_corner_en : Enters Tryz.prog 169 := fun args w => by kernel_rfl
theorem p_corner_I : ∀ args p r, p_corner_s args = some (p, r) → ∃ n, r = .int .i64 n := by
  intro args p r h
  unfold p_corner_s at h
  split at h
  · cases h; exact ⟨_, rfl⟩
  · cases h
def p_congruent_p (p : (L.Sq L.Pt)) (q : (L.Sq L.Pt)) (s : L.Setting) : Prop := L.allBd p ∧ L.allBd q ∧ p.n = q.n ∧ 1 ≤ p.n ∧ 0 ≤ s.shift ∧ s.shift < (p.n : Int)
def p_congruent_r (p : (L.Sq L.Pt)) (q : (L.Sq L.Pt)) (s : L.Setting) : SV := .bool (L.congr p q s)
def p_congruent_s : List EV → Option (Prop × SV)
  | [.p (.sl 2 p_n p_g), .p (.sl 2 q_n q_g), .p (.agg [.int .i64 s_shift, .bool s_back])] => some ((∀ i, i < p_n → p_g i = [.int .i64 ((ofPt (p_g i)).x), .int .i64 ((ofPt (p_g i)).y)]) ∧ (∀ i, i < q_n → q_g i = [.int .i64 ((ofPt (q_g i)).x), .int .i64 ((ofPt (q_g i)).y)]) ∧ p_congruent_p (⟨p_n, fun i => ofPt (p_g i)⟩ : (L.Sq L.Pt)) (⟨q_n, fun i => ofPt (q_g i)⟩ : (L.Sq L.Pt)) (⟨s_shift, s_back⟩ : L.Setting), p_congruent_r (⟨p_n, fun i => ofPt (p_g i)⟩ : (L.Sq L.Pt)) (⟨q_n, fun i => ofPt (q_g i)⟩ : (L.Sq L.Pt)) (⟨s_shift, s_back⟩ : L.Setting))
  | _ => none
abbrev p_congruent_S : SE.Spec := (specO p_congruent_s)
def p_congruent_C : Cfg := { muts := [], frz := lookN [], specs := lookS [(169, p_corner_S), (170, p_square_S), (83, p_cross_S)], loops := fun _ => none, iters := lookI [], rfs := lookR [], nils := lookM [] }
theorem p_congruent_vc (p : (L.Sq L.Pt)) (q : (L.Sq L.Pt)) (s : L.Setting) (hp : p_congruent_p p q s) : vc Tryz.prog ({ p_congruent_C with loops := lookL [(4, { T := Nat, keep := [0, 1, 5, 7, 8, 19], keepO := [], chg := fun i => [(20, .p (.int .i64 (i : Int)))], own := fun i => [(17, .row 42 2 p.n (fun k => [.int .i64 ((L.laidTo q s p.n i k).x), .int .i64 ((L.laidTo q s p.n i k).y)]))], inv := fun i => i ≤ p.n, mu := fun i => p.n - i }), (9, { T := Nat, keep := [0, 5, 7, 8, 35], keepO := [], chg := fun i => [(36, .p (.int .i64 (i : Int)))], own := fun i => [(17, .row 42 2 p.n (fun k => [.int .i64 ((L.laidTo q s p.n p.n k).x), .int .i64 ((L.laidTo q s p.n p.n k).y)]))], inv := fun i => i ≤ p.n ∧ ∀ j, j < i → L.conI p q s j = true, mu := fun i => p.n - i }), (12, { T := Nat × Nat, keep := [0, 5, 7, 8, 10, 35, 36, 39], keepO := [], tie := fun g => [(10, .int .i64 (g.1 : Int)), (36, .int .i64 (g.1 : Int)), (39, .int .i64 (g.1 : Int))], chg := fun g => [(40, .p (.int .i64 (g.2 : Int)))], own := fun g => [(17, .row 42 2 p.n (fun k => [.int .i64 ((L.laidTo q s p.n p.n k).x), .int .i64 ((L.laidTo q s p.n p.n k).y)]))], inv := fun g => g.1 < p.n ∧ g.2 ≤ g.1 ∧ (∀ j, j < g.1 → L.conI p q s j = true) ∧ ∀ j, j < g.2 → L.conD p q s g.1 j = true, mu := fun g => g.1 - g.2 })], rfs := lookR [] }) (bodyOf Tryz.f117) (st0 Tryz.f117 [.p (.sl 2 p.n (fun i => [.int .i64 ((p.g i).x), .int .i64 ((p.g i).y)])), .p (.sl 2 q.n (fun i => [.int .i64 ((q.g i).x), .int .i64 ((q.g i).y)])), .p (.agg [.int .i64 s.shift, .bool s.back])]) (retFn Tryz.prog Tryz.f117 (p_congruent_r p q s)) :=
  @Eq.mpr _ (((0 : Int) ≤ (↑p.n : Int) ∧ (↑p.n : Int) ≤ (↑p.n : Int) ∧ (↑p.n : Int) * (↑(nat_lit 16) : Int) ≤ (140737488355328 : Int)) ∧ (∃ (g : Nat), (0 : Int) = (↑g : Int) ∧ (Int.toNat (↑p.n : Int) = p.n ∧ ∀ (i : Nat), i < Int.toNat (↑p.n : Int) → [Go.SE.SV.int Go.IntKind.i64 (0 : Int), Go.SE.SV.int Go.IntKind.i64 (0 : Int)] = [Go.SE.SV.int Go.IntKind.i64 (L.laidTo q s p.n g i).x, Go.SE.SV.int Go.IntKind.i64
 (L.laidTo q s p.n g i).y]) ∧ g ≤ p.n) ∧ ∀ (g : Nat), g ≤ p.n → (Decidable.decide ((↑g : Int) < (↑(Int.toNat (↑p.n : Int)) : Int)) = Bool.true → ((1 : Int) ≤ (↑p.n : Int) ∧ (↑p.n : Int) ≤ (1000 : Int) ∧ (0 : Int) ≤ s.shift ∧ s.shift ≤ (1000 : Int) ∧ (0 : Int) ≤ (↑g : Int) ∧ (↑g : Int) ≤ (1000 : Int)) ∧ ((0 : Int) ≤ L.cor s (↑p.n : Int) (↑g : Int) ∧ L.cor s (↑p.n : Int) (↑g : Int) < (↑q.n : Int)) ∧
 ((0 : Int) ≤ (↑g : Int) ∧ (↑g : Int) < (↑p.n : Int)) ∧ Int.toNat (↑g : Int) < p.n ∧ Go.SE.InK Go.IntKind.i64 ((↑g : Int) + (1 : Int)) ∧ ∃ (g' : Nat), (↑g : Int) + (1 : Int) = (↑g' : Int) ∧ (↑(Int.toNat (↑p.n : Int)) : Int) = (↑(Int.toNat (↑p.n : Int)) : Int) ∧ (↑p.n : Int) = (↑p.n : Int) ∧ Go.SE.SV.ref [Go.SE.SV.int Go.IntKind.i64 s.shift, Go.SE.SV.bool s.back] (nat_lit 0) = Go.SE.SV.ref
 [Go.SE.SV.int Go.IntKind.i64 s.shift, Go.SE.SV.bool s.back] (nat_lit 0) ∧ (p.n = p.n ∧ ∀ (i : Nat), i < p.n → [Go.SE.SV.int Go.IntKind.i64 (p.g i).x, Go.SE.SV.int Go.IntKind.i64 (p.g i).y] = [Go.SE.SV.int Go.IntKind.i64 (p.g i).x, Go.SE.SV.int Go.IntKind.i64 (p.g i).y]) ∧ (q.n = q.n ∧ ∀ (i : Nat), i < q.n → [Go.SE.SV.int Go.IntKind.i64 (q.g i).x, Go.SE.SV.int Go.IntKind.i64 (q.g i).y] =
 [Go.SE.SV.int Go.IntKind.i64 (q.g i).x, Go.SE.SV.int Go.IntKind.i64 (q.g i).y]) ∧ (p.n = p.n ∧ ∀ (i : Nat), i < p.n → Go.SE.setRow (fun (k : Nat) ↦ [Go.SE.SV.int Go.IntKind.i64 (L.laidTo q s p.n g k).x, Go.SE.SV.int Go.IntKind.i64 (L.laidTo q s p.n g k).y]) (Int.toNat (↑g : Int)) (nat_lit 0) [Go.SE.SV.int Go.IntKind.i64 (q.g (Int.toNat (L.cor s (↑p.n : Int) (↑g : Int)))).x, Go.SE.SV.int
 Go.IntKind.i64 (q.g (Int.toNat (L.cor s (↑p.n : Int) (↑g : Int)))).y] i = [Go.SE.SV.int Go.IntKind.i64 (L.laidTo q s p.n g' i).x, Go.SE.SV.int Go.IntKind.i64 (L.laidTo q s p.n g' i).y]) ∧ g' ≤ p.n ∧ p.n - g' < p.n - g) ∧ (Decidable.decide ((↑g : Int) < (↑(Int.toNat (↑p.n : Int)) : Int)) = Bool.false → (∃ (g_1 : Nat), (0 : Int) = (↑g_1 : Int) ∧ (p.n = p.n ∧ ∀ (i : Nat), i < p.n → [Go.SE.SV.int
 Go.IntKind.i64 (L.laidTo q s p.n g i).x, Go.SE.SV.int Go.IntKind.i64 (L.laidTo q s p.n g i).y] = [Go.SE.SV.int Go.IntKind.i64 (L.laidTo q s p.n p.n i).x, Go.SE.SV.int Go.IntKind.i64 (L.laidTo q s p.n p.n i).y]) ∧ g_1 ≤ p.n ∧ ∀ (j : Nat), j < g_1 → L.conI p q s j = Bool.true) ∧ ∀ (g_1 : Nat), (g_1 ≤ p.n ∧ ∀ (j : Nat), j < g_1 → L.conI p q s j = Bool.true) → (Decidable.decide ((↑g_1 : Int) < (↑p.n :
 Int)) = Bool.true → (∃ (g : Nat × Nat), (0 : Int) = (↑g.2 : Int) ∧ (p.n = p.n ∧ ∀ (i : Nat), i < p.n → [Go.SE.SV.int Go.IntKind.i64 (L.laidTo q s p.n p.n i).x, Go.SE.SV.int Go.IntKind.i64 (L.laidTo q s p.n p.n i).y] = [Go.SE.SV.int Go.IntKind.i64 (L.laidTo q s p.n p.n i).x, Go.SE.SV.int Go.IntKind.i64 (L.laidTo q s p.n p.n i).y]) ∧ (↑g_1 : Int) = (↑g.1 : Int) ∧ (↑g_1 : Int) = (↑g.1 : Int) ∧ (↑g_1
 : Int) = (↑g.1 : Int) ∧ g.1 < p.n ∧ g.2 ≤ g.1 ∧ (∀ (j : Nat), j < g.1 → L.conI p q s j = Bool.true) ∧ ∀ (j : Nat), j < g.2 → L.conD p q s g.1 j = Bool.true) ∧ ∀ (g_2 : Nat × Nat), ((↑g_1 : Int) = (↑g_2.1 : Int) ∧ (↑g_1 : Int) = (↑g_2.1 : Int) ∧ (↑g_1 : Int) = (↑g_2.1 : Int) ∧ g_2.1 < p.n ∧ g_2.2 ≤ g_2.1 ∧ (∀ (j : Nat), j < g_2.1 → L.conI p q s j = Bool.true) ∧ ∀ (j : Nat), j < g_2.2 → L.conD p q s
 g_2.1 j = Bool.true) → (Decidable.decide ((↑g_2.2 : Int) < (↑g_1 : Int)) = Bool.true → ((0 : Int) ≤ (↑g_1 : Int) ∧ (↑g_1 : Int) < (↑p.n : Int)) ∧ ((0 : Int) ≤ (↑g_2.2 : Int) ∧ (↑g_2.2 : Int) < (↑p.n : Int)) ∧ (L.bd (p.g (Int.toNat (↑g_1 : Int))) ∧ L.bd (p.g (Int.toNat (↑g_2.2 : Int)))) ∧ ((0 : Int) ≤ (↑g_1 : Int) ∧ (↑g_1 : Int) < (↑p.n : Int)) ∧ Int.toNat (↑g_1 : Int) < p.n ∧ ((0 : Int) ≤ (↑g_2.2
 : Int) ∧ (↑g_2.2 : Int) < (↑p.n : Int)) ∧ Int.toNat (↑g_2.2 : Int) < p.n ∧ (L.bd (L.laidTo q s p.n p.n (Int.toNat (↑g_1 : Int))) ∧ L.bd (L.laidTo q s p.n p.n (Int.toNat (↑g_2.2 : Int)))) ∧ ((!Decidable.decide (L.dist (p.g (Int.toNat (↑g_1 : Int))) (p.g (Int.toNat (↑g_2.2 : Int))) = L.dist (L.laidTo q s p.n p.n (Int.toNat (↑g_1 : Int))) (L.laidTo q s p.n p.n (Int.toNat (↑g_2.2 : Int))))) =
 Bool.true → Bool.false = L.congr p q s) ∧ ((!Decidable.decide (L.dist (p.g (Int.toNat (↑g_1 : Int))) (p.g (Int.toNat (↑g_2.2 : Int))) = L.dist (L.laidTo q s p.n p.n (Int.toNat (↑g_1 : Int))) (L.laidTo q s p.n p.n (Int.toNat (↑g_2.2 : Int))))) = Bool.false → Go.SE.InK Go.IntKind.i64 ((↑g_2.2 : Int) + (1 : Int)) ∧ ∃ (g' : Nat × Nat), (↑g_2.2 : Int) + (1 : Int) = (↑g'.2 : Int) ∧ (↑g_1 : Int) = (↑g_1
 : Int) ∧ (↑g_1 : Int) = (↑g_1 : Int) ∧ (↑g_1 : Int) = (↑g_1 : Int) ∧ (↑p.n : Int) = (↑p.n : Int) ∧ (↑p.n : Int) = (↑p.n : Int) ∧ Go.SE.SV.ref [Go.SE.SV.int Go.IntKind.i64 s.shift, Go.SE.SV.bool s.back] (nat_lit 0) = Go.SE.SV.ref [Go.SE.SV.int Go.IntKind.i64 s.shift, Go.SE.SV.bool s.back] (nat_lit 0) ∧ (p.n = p.n ∧ ∀ (i : Nat), i < p.n → [Go.SE.SV.int Go.IntKind.i64 (p.g i).x, Go.SE.SV.int
 Go.IntKind.i64 (p.g i).y] = [Go.SE.SV.int Go.IntKind.i64 (p.g i).x, Go.SE.SV.int Go.IntKind.i64 (p.g i).y]) ∧ (p.n = p.n ∧ ∀ (i : Nat), i < p.n → [Go.SE.SV.int Go.IntKind.i64 (L.laidTo q s p.n p.n i).x, Go.SE.SV.int Go.IntKind.i64 (L.laidTo q s p.n p.n i).y] = [Go.SE.SV.int Go.IntKind.i64 (L.laidTo q s p.n p.n i).x, Go.SE.SV.int Go.IntKind.i64 (L.laidTo q s p.n p.n i).y]) ∧ ((↑g_1 : Int) = (↑g'.1
 : Int) ∧ (↑g_1 : Int) = (↑g'.1 : Int) ∧ (↑g_1 : Int) = (↑g'.1 : Int) ∧ g'.1 < p.n ∧ g'.2 ≤ g'.1 ∧ (∀ (j : Nat), j < g'.1 → L.conI p q s j = Bool.true) ∧ ∀ (j : Nat), j < g'.2 → L.conD p q s g'.1 j = Bool.true) ∧ g'.1 - g'.2 < g_2.1 - g_2.2)) ∧ (Decidable.decide ((↑g_2.2 : Int) < (↑g_1 : Int)) = Bool.false → Go.SE.InK Go.IntKind.i64 ((↑g_1 : Int) + (↑p.n : Int)) ∧ Go.SE.InK Go.IntKind.i64 ((↑g_1 :
 Int) + (↑p.n : Int) - (1 : Int)) ∧ (↑p.n : Int) ≠ (0 : Int) ∧ ((0 : Int) ≤ Int.tmod ((↑g_1 : Int) + (↑p.n : Int) - (1 : Int)) (↑p.n : Int) ∧ Int.tmod ((↑g_1 : Int) + (↑p.n : Int) - (1 : Int)) (↑p.n : Int) < (↑p.n : Int)) ∧ ((0 : Int) ≤ (↑g_1 : Int) ∧ (↑g_1 : Int) < (↑p.n : Int)) ∧ Go.SE.InK Go.IntKind.i64 ((↑g_1 : Int) + (1 : Int)) ∧ (↑p.n : Int) ≠ (0 : Int) ∧ ((0 : Int) ≤ Int.tmod ((↑g_1 : Int) +
 (1 : Int)) (↑p.n : Int) ∧ Int.tmod ((↑g_1 : Int) + (1 : Int)) (↑p.n : Int) < (↑p.n : Int)) ∧ (L.bd (p.g (Int.toNat (Int.tmod ((↑g_1 : Int) + (↑p.n : Int) - (1 : Int)) (↑p.n : Int)))) ∧ L.bd (p.g (Int.toNat (↑g_1 : Int))) ∧ L.bd (p.g (Int.toNat (Int.tmod ((↑g_1 : Int) + (1 : Int)) (↑p.n : Int))))) ∧ Go.SE.InK Go.IntKind.i64 ((↑g_1 : Int) + (↑p.n : Int)) ∧ Go.SE.InK Go.IntKind.i64 ((↑g_1 : Int) +
 (↑p.n : Int) - (1 : Int)) ∧ (↑p.n : Int) ≠ (0 : Int) ∧ ((0 : Int) ≤ Int.tmod ((↑g_1 : Int) + (↑p.n : Int) - (1 : Int)) (↑p.n : Int) ∧ Int.tmod ((↑g_1 : Int) + (↑p.n : Int) - (1 : Int)) (↑p.n : Int) < (↑p.n : Int)) ∧ Int.toNat (Int.tmod ((↑g_1 : Int) + (↑p.n : Int) - (1 : Int)) (↑p.n : Int)) < p.n ∧ ((0 : Int) ≤ (↑g_1 : Int) ∧ (↑g_1 : Int) < (↑p.n : Int)) ∧ Int.toNat (↑g_1 : Int) < p.n ∧ Go.SE.InK
 Go.IntKind.i64 ((↑g_1 : Int) + (1 : Int)) ∧ (↑p.n : Int) ≠ (0 : Int) ∧ ((0 : Int) ≤ Int.tmod ((↑g_1 : Int) + (1 : Int)) (↑p.n : Int) ∧ Int.tmod ((↑g_1 : Int) + (1 : Int)) (↑p.n : Int) < (↑p.n : Int)) ∧ Int.toNat (Int.tmod ((↑g_1 : Int) + (1 : Int)) (↑p.n : Int)) < p.n ∧ (L.bd (L.laidTo q s p.n p.n (Int.toNat (Int.tmod ((↑g_1 : Int) + (↑p.n : Int) - (1 : Int)) (↑p.n : Int)))) ∧ L.bd (L.laidTo q s
 p.n p.n (Int.toNat (↑g_1 : Int))) ∧ L.bd (L.laidTo q s p.n p.n (Int.toNat (Int.tmod ((↑g_1 : Int) + (1 : Int)) (↑p.n : Int))))) ∧ ((!Decidable.decide ((0 : Int) < L.cross (p.g (Int.toNat (Int.tmod ((↑g_1 : Int) + (↑p.n : Int) - (1 : Int)) (↑p.n : Int)))) (p.g (Int.toNat (↑g_1 : Int))) (p.g (Int.toNat (Int.tmod ((↑g_1 : Int) + (1 : Int)) (↑p.n : Int))))) == !Decidable.decide ((0 : Int) < L.cross
 (L.laidTo q s p.n p.n (Int.toNat (Int.tmod ((↑g_1 : Int) + (↑p.n : Int) - (1 : Int)) (↑p.n : Int)))) (L.laidTo q s p.n p.n (Int.toNat (↑g_1 : Int))) (L.laidTo q s p.n p.n (Int.toNat (Int.tmod ((↑g_1 : Int) + (1 : Int)) (↑p.n : Int))))) == s.back) = Bool.true → Bool.false = L.congr p q s) ∧ ((!Decidable.decide ((0 : Int) < L.cross (p.g (Int.toNat (Int.tmod ((↑g_1 : Int) + (↑p.n : Int) - (1 : Int))
 (↑p.n : Int)))) (p.g (Int.toNat (↑g_1 : Int))) (p.g (Int.toNat (Int.tmod ((↑g_1 : Int) + (1 : Int)) (↑p.n : Int))))) == !Decidable.decide ((0 : Int) < L.cross (L.laidTo q s p.n p.n (Int.toNat (Int.tmod ((↑g_1 : Int) + (↑p.n : Int) - (1 : Int)) (↑p.n : Int)))) (L.laidTo q s p.n p.n (Int.toNat (↑g_1 : Int))) (L.laidTo q s p.n p.n (Int.toNat (Int.tmod ((↑g_1 : Int) + (1 : Int)) (↑p.n : Int))))) ==
 s.back) = Bool.false → Go.SE.InK Go.IntKind.i64 ((↑g_1 : Int) + (1 : Int)) ∧ ∃ (g' : Nat), (↑g_1 : Int) + (1 : Int) = (↑g' : Int) ∧ (↑p.n : Int) = (↑p.n : Int) ∧ (↑p.n : Int) = (↑p.n : Int) ∧ Go.SE.SV.ref [Go.SE.SV.int Go.IntKind.i64 s.shift, Go.SE.SV.bool s.back] (nat_lit 0) = Go.SE.SV.ref [Go.SE.SV.int Go.IntKind.i64 s.shift, Go.SE.SV.bool s.back] (nat_lit 0) ∧ (p.n = p.n ∧ ∀ (i : Nat), i < p.n
 → [Go.SE.SV.int Go.IntKind.i64 (p.g i).x, Go.SE.SV.int Go.IntKind.i64 (p.g i).y] = [Go.SE.SV.int Go.IntKind.i64 (p.g i).x, Go.SE.SV.int Go.IntKind.i64 (p.g i).y]) ∧ (p.n = p.n ∧ ∀ (i : Nat), i < p.n → [Go.SE.SV.int Go.IntKind.i64 (L.laidTo q s p.n p.n i).x, Go.SE.SV.int Go.IntKind.i64 (L.laidTo q s p.n p.n i).y] = [Go.SE.SV.int Go.IntKind.i64 (L.laidTo q s p.n p.n i).x, Go.SE.SV.int Go.IntKind.i64
 (L.laidTo q s p.n p.n i).y]) ∧ (g' ≤ p.n ∧ ∀ (j : Nat), j < g' → L.conI p q s j = Bool.true) ∧ p.n - g' < p.n - g_1))) ∧ (Decidable.decide ((↑g_1 : Int) < (↑p.n : Int)) = Bool.false → Bool.true = L.congr p q s))) (by kernel_rfl) (by
    obtain ⟨hbp, hbq, hn, h1, s0, s1⟩ := hp
    have hpn := hbp.1
    have hc : ∀ k : Nat, k < p.n → 0 ≤ L.cor s (p.n : Int) (k : Int) ∧ L.cor s (p.n : Int) (k : Int) < (q.n : Int) := fun k hk => by
      unfold L.cor
      rw [← hn]
      cases s.back
      · exact ⟨Int.tmod_nonneg _ (by omega), Int.tmod_lt_of_pos _ (by omega)⟩
      · exact ⟨Int.tmod_nonneg _ (by omega), Int.tmod_lt_of_pos _ (by omega)⟩
    have hl : ∀ k, k < p.n → L.laidTo q s p.n p.n k = L.laid q s p.n k := fun k hk => by
      unfold L.laidTo; rw [decide_eq_true hk]; rfl
    have hlb : ∀ k, k < p.n → L.bd (L.laidTo q s p.n p.n k) := fun k hk => by
      rw [hl k hk]; exact hbq.2 _ (by have := hc k hk; omega)
    have fin0 : ∀ {i : Nat}, i < p.n → L.conI p q s i = false → false = L.congr p q s := fun {i} hi h => by
      unfold L.congr; rw [allB_false hi h]
    have et : ((p.n : Int)).toNat = p.n := by omega
    rw [et]
    refine ⟨⟨by omega, by omega, by show (p.n : Int) * 16 ≤ 140737488355328; omega⟩, ⟨(0 : Nat), rfl, ⟨rfl, fun i hi => rfl⟩, Nat.zero_le _⟩, fun g hg => ⟨fun hlt => ?_, fun hge => ⟨⟨(0 : Nat), rfl, ⟨rfl, fun i hi => ?_⟩, Nat.zero_le _, fun j hj => absurd hj (Nat.not_lt_zero _)⟩, fun g1 hg1 => ⟨fun hlt1 => ?_, fun hge1 => ?_⟩⟩⟩⟩
    · have hb : (g : Int) < (p.n : Int) := of_decide_eq_true hlt
      have e0 : ((g : Int)).toNat = g := by omega
      rw [e0]
      refine ⟨⟨by omega, by omega, by omega, by omega, by omega, by omega⟩, hc g (by omega), ⟨by omega, hb⟩, by omega, InK.of (by omega) (by omega), g + 1, by omega, rfl, rfl, rfl, ⟨rfl, fun _ _ => rfl⟩, ⟨rfl, fun _ _ => rfl⟩, ⟨rfl, fun i hi => ?_⟩, by omega, by omega⟩
      unfold setRow
      by_cases e : i = g
      · subst e
        rw [if_pos rfl]
        unfold L.laidTo
        rw [decide_eq_true (Nat.lt_succ_self i)]; rfl
      · rw [if_neg e]
        dsimp only
        have w : L.laidTo q s p.n (g + 1) i = L.laidTo q s p.n g i := by
          unfold L.laidTo
          by_cases c : i < g
          · rw [decide_eq_true c, decide_eq_true (by omega)]
          · rw [decide_eq_false c, decide_eq_false (by omega)]
        rw [w]
    · have hb : ¬ (g : Int) < (p.n : Int) := of_decide_eq_false hge
      obtain rfl : g = p.n := by omega
      rfl
    · have hb1 : (g1 : Int) < (p.n : Int) := of_decide_eq_true hlt1
      have hk1 : g1 < p.n := by omega
      have e1 : ((g1 : Int)).toNat = g1 := by omega
      rw [e1]
      refine ⟨⟨(g1, 0), rfl, ⟨rfl, fun _ _ => rfl⟩, rfl, rfl, rfl, hk1, Nat.zero_le _, hg1.2, fun j hj => absurd hj (Nat.not_lt_zero _)⟩, ?_⟩
      rintro ⟨i, k⟩ ⟨t1, _, _, _, hki, h0, hD⟩
      have t1 : (g1 : Int) = (i : Int) := t1
      obtain rfl : g1 = i := by omega
      have hki : k ≤ g1 := hki
      have h0 : ∀ j, j < g1 → L.conI p q s j = true := h0
      have hD : ∀ j, j < k → L.conD p q s g1 j = true := hD
      dsimp only
      have ek : ((k : Int)).toNat = k := by omega
      rw [ek]
      refine ⟨fun hlt2 => ?_, fun hge2 => ?_⟩
      · have hk : (k : Int) < (g1 : Int) := of_decide_eq_true hlt2
        have key : decide (L.dist (p.g g1) (p.g k) = L.dist (L.laidTo q s p.n p.n g1) (L.laidTo q s p.n p.n k)) = L.conD p q s g1 k := by
          rw [hl g1 hk1, hl k (by omega)]; rfl
        rw [key]
        refine ⟨⟨by omega, hb1⟩, ⟨by omega, by omega⟩, ⟨hbp.2 _ hk1, hbp.2 _ (by omega)⟩, ⟨by omega, hb1⟩, hk1, ⟨by omega, by omega⟩, by omega, ⟨hlb _ hk1, hlb _ (by omega)⟩, fun h => ?_, fun h => ?_⟩
        · refine fin0 hk1 ?_
          unfold L.conI
          rw [allB_false (i := k) (by omega) (notT h)]; rfl
        · refine ⟨InK.of (by omega) (by omega), (g1, k + 1), by show (k : Int) + 1 = ((k + 1 : Nat) : Int); omega, rfl, rfl, rfl, rfl, rfl, rfl, ⟨rfl, fun _ _ => rfl⟩, ⟨rfl, fun _ _ => rfl⟩, ⟨rfl, rfl, rfl, hk1, by show k + 1 ≤ g1; omega, h0, fun j hj => ?_⟩, by show g1 - (k + 1) < g1 - k; omega⟩
          have hj : j < k + 1 := hj
          show L.conD p q s g1 j = true
          rcases Nat.lt_succ_iff_lt_or_eq.1 hj with h' | rfl
          · exact hD j h'
          · exact notF h
      · have hk : ¬ (k : Int) < (g1 : Int) := of_decide_eq_false hge2
        have hpv : L.prev p.n g1 < p.n := prev_lt (by omega)
        have hnx : L.next p.n g1 < p.n := next_lt (by omega)
        have hp0 := Int.tmod_nonneg (p.n : Int) (show 0 ≤ (g1 : Int) + (p.n : Int) - 1 by omega)
        have hp1 := Int.tmod_lt_of_pos ((g1 : Int) + (p.n : Int) - 1) (show 0 < (p.n : Int) by omega)
        have hn0 := Int.tmod_nonneg (p.n : Int) (show 0 ≤ (g1 : Int) + 1 by omega)
        have hn1 := Int.tmod_lt_of_pos ((g1 : Int) + 1) (show 0 < (p.n : Int) by omega)
        have key : (decide (0 < L.cross (p.g (L.prev p.n g1)) (p.g g1) (p.g (L.next p.n g1))) == !(decide (0 < L.cross (L.laidTo q s p.n p.n (L.prev p.n g1)) (L.laidTo q s p.n p.n g1) (L.laidTo q s p.n p.n (L.next p.n g1))) == s.back)) = L.conB p q s g1 := by
          rw [hl g1 hk1, hl _ hpv, hl _ hnx]; rfl
        refine ⟨InK.of (by omega) (by omega), InK.of (by omega) (by omega), by omega, ⟨hp0, hp1⟩, ⟨by omega, hb1⟩, InK.of (by omega) (by omega), by omega, ⟨hn0, hn1⟩, ⟨hbp.2 _ hpv, hbp.2 _ hk1, hbp.2 _ hnx⟩, InK.of (by omega) (by omega), InK.of (by omega) (by omega), by omega, ⟨hp0, hp1⟩, hpv, ⟨by omega, hb1⟩, hk1, InK.of (by omega) (by omega), by omega, ⟨hn0, hn1⟩, hnx, ⟨hlb _ hpv, hlb _ hk1, hlb _ hnx⟩, fun h => ?_, fun h => ?_⟩
        · have h : (!(decide (0 < L.cross (p.g (L.prev p.n g1)) (p.g g1) (p.g (L.next p.n g1))) == !(decide (0 < L.cross (L.laidTo q s p.n p.n (L.prev p.n g1)) (L.laidTo q s p.n p.n g1) (L.laidTo q s p.n p.n (L.next p.n g1))) == s.back))) = true := h
          rw [key] at h
          refine fin0 hk1 ?_
          unfold L.conI
          rw [notT h, Bool.and_false]
        · have h : (!(decide (0 < L.cross (p.g (L.prev p.n g1)) (p.g g1) (p.g (L.next p.n g1))) == !(decide (0 < L.cross (L.laidTo q s p.n p.n (L.prev p.n g1)) (L.laidTo q s p.n p.n g1) (L.laidTo q s p.n p.n (L.next p.n g1))) == s.back))) = false := h
          rw [key] at h
          refine ⟨InK.of (by omega) (by omega), g1 + 1, by omega, rfl, rfl, rfl, ⟨rfl, fun _ _ => rfl⟩, ⟨rfl, fun _ _ => rfl⟩, ⟨by omega, fun j hj => ?_⟩, by omega⟩
          rcases Nat.lt_succ_iff_lt_or_eq.1 hj with h' | rfl
          · exact h0 j h'
          · unfold L.conI
            rw [allB_iff.2 (fun m hm => hD m (by omega)), notF h]; rfl
    · have hb1 : ¬ (g1 : Int) < (p.n : Int) := of_decide_eq_false hge1
      unfold L.congr
      rw [allB_iff.2 (fun i hi => hg1.2 i (by omega))])
theorem p_congruent_ok : SpecOk Tryz.prog 117 p_congruent_S := fnX Tryz.func117 (c := bodyOf Tryz.f117) (by kernel_rfl) mixed (fun args p r hs hp => by
  unfold p_congruent_s at hs
  split at hs
  · cases hs; exact ⟨_, _, p_congruent_vc _ _ _ hp.2.2, (.p (.sl hp.1) (.p (.sl hp.2.1) (.same _ .nil))), ⟨show SpecsL Tryz.prog _ from (SpecsL.cons p_corner_ok p_corner_en (SpecsL.cons p_square_ok p_square_en (SpecsL.cons p_cross_ok p_cross_en SpecsL.nil))), rfl, ⟨show ItersL Tryz.prog _ from ItersL.nil, (TrsOk.none (fun _ => rfl))⟩⟩⟩
  · cases hs)
theorem p_congruent_en : Enters Tryz.prog 117 := fun args w => by kernel_rfl
theorem p_congruent_B : ∀ args p r, p_congruent_s args = some (p, r) → ∃ b, r = .bool b := by
  intro args p r h
  unfold p_congruent_s at h
  split at h
  · cases h; exact ⟨_, rfl⟩
  · cases h
def p_Settings_p (p : (L.Sq L.Pt)) (q : (L.Sq L.Pt)) : Prop := p.n ≤ 1000000 ∧ q.n ≤ 1000000
def p_Settings_r (p : (L.Sq L.Pt)) (q : (L.Sq L.Pt)) : SV := .tup [.sl 2 (L.conN p q) (fun k => [.int .i64 ((L.conG p q k).shift), .bool ((L.conG p q k).back)]), .int .i64 (L.conE p q)]
def p_Settings_s : List EV → Option (Prop × SV)
  | [.p (.sl 2 p_n p_g), .p (.sl 2 q_n q_g)] => some ((∀ i, i < p_n → p_g i = [.int .i64 ((ofPt (p_g i)).x), .int .i64 ((ofPt (p_g i)).y)]) ∧ (∀ i, i < q_n → q_g i = [.int .i64 ((ofPt (q_g i)).x), .int .i64 ((ofPt (q_g i)).y)]) ∧ p_Settings_p (⟨p_n, fun i => ofPt (p_g i)⟩ : (L.Sq L.Pt)) (⟨q_n, fun i => ofPt (q_g i)⟩ : (L.Sq L.Pt)), p_Settings_r (⟨p_n, fun i => ofPt (p_g i)⟩ : (L.Sq L.Pt)) (⟨q_n, fun i => ofPt (q_g i)⟩ : (L.Sq L.Pt)))
  | _ => none
abbrev p_Settings_S : SE.Spec := (specO p_Settings_s)
def p_Settings_C : Cfg := { muts := [], frz := lookN [], specs := lookS [(32, p_ValidOutline_S), (117, p_congruent_S)], loops := fun _ => none, iters := lookI [], rfs := lookR [], nils := lookM [(6, [(6, 28, 27, 2)])] }
theorem p_Settings_vc (p : (L.Sq L.Pt)) (q : (L.Sq L.Pt)) (hp : p_Settings_p p q) : vc Tryz.prog ({ p_Settings_C with loops := lookL [(7, { T := Nat, keep := [0, 1, 6, 24], keepO := [], chg := fun i => [(25, .p (.int .i64 (i : Int)))], own := fun i => [(28, .row 27 2 (L.cnt (L.conK p q) i) (fun k => [.int .i64 ((L.sett (L.selN (L.conK p q) i k)).shift), .bool ((L.sett (L.selN (L.conK p q) i k)).back)]))], inv := fun i => i ≤ 2 * p.n, mu := fun i => 2 * p.n - i })], rfs := lookR [] }) (bodyOf Tryz.f54) (st0 Tryz.f54 [.p (.sl 2 p.n (fun i => [.int .i64 ((p.g i).x), .int .i64 ((p.g i).y)])), .p (.sl 2 q.n (fun i => [.int .i64 ((q.g i).x), .int .i64 ((q.g i).y)]))]) (retFn Tryz.prog Tryz.f54 (p_Settings_r p q)) :=
  @Eq.mpr _ (((∀ (i : Nat), i < p.n → [Go.SE.SV.int Go.IntKind.i64 (p.g i).x, Go.SE.SV.int Go.IntKind.i64 (p.g i).y] = [Go.SE.SV.int Go.IntKind.i64 (p.g i).x, Go.SE.SV.int Go.IntKind.i64 (p.g i).y]) ∧ p.n ≤ (1000000 : Nat)) ∧ ((!!L.validOutline (L.Sq.mk p.n fun (i : Nat) ↦ p.g i)) = Bool.true → (∀ (i : Nat), i < q.n → [Go.SE.SV.int Go.IntKind.i64 (q.g i).x, Go.SE.SV.int Go.IntKind.i64 (q.g i).y] =
 [Go.SE.SV.int Go.IntKind.i64 (q.g i).x, Go.SE.SV.int Go.IntKind.i64 (q.g i).y]) ∧ q.n ≤ (1000000 : Nat)) ∧ ((bif !L.validOutline (L.Sq.mk p.n fun (i : Nat) ↦ p.g i) then Bool.true else !L.validOutline (L.Sq.mk q.n fun (i : Nat) ↦ q.g i)) = Bool.true → L.conN p q = (0 : Nat) ∧ (1 : Int) = L.conE p q) ∧ ((bif !L.validOutline (L.Sq.mk p.n fun (i : Nat) ↦ p.g i) then Bool.true else !L.validOutline
 (L.Sq.mk q.n fun (i : Nat) ↦ q.g i)) = Bool.false → ((!Decidable.decide ((↑p.n : Int) = (↑q.n : Int))) = Bool.true → L.conN p q = (0 : Nat) ∧ (0 : Int) = L.conE p q) ∧ ((!Decidable.decide ((↑p.n : Int) = (↑q.n : Int))) = Bool.false → Go.SE.InK Go.IntKind.i64 ((2 : Int) * (↑p.n : Int)) ∧ (∃ (g : Nat), (0 : Int) = (↑g : Int) ∧ (nat_lit 0 = L.cnt (L.conK p q) g ∧ ∀ (i : Nat), i < nat_lit 0 → [] =
 [Go.SE.SV.int Go.IntKind.i64 (L.sett (L.selN (L.conK p q) g i)).shift, Go.SE.SV.bool (L.sett (L.selN (L.conK p q) g i)).back]) ∧ g ≤ (2 : Nat) * p.n) ∧ ∀ (g : Nat), g ≤ (2 : Nat) * p.n → (Decidable.decide ((↑g : Int) < (2 : Int) * (↑p.n : Int)) = Bool.true → (2 : Int) ≠ (0 : Int) ∧ Go.SE.InK Go.IntKind.i64 (Int.tdiv (↑g : Int) (2 : Int)) ∧ (2 : Int) ≠ (0 : Int) ∧ ((∀ (i : Nat), i < p.n →
 [Go.SE.SV.int Go.IntKind.i64 (p.g i).x, Go.SE.SV.int Go.IntKind.i64 (p.g i).y] = [Go.SE.SV.int Go.IntKind.i64 (p.g i).x, Go.SE.SV.int Go.IntKind.i64 (p.g i).y]) ∧ (∀ (i : Nat), i < q.n → [Go.SE.SV.int Go.IntKind.i64 (q.g i).x, Go.SE.SV.int Go.IntKind.i64 (q.g i).y] = [Go.SE.SV.int Go.IntKind.i64 (q.g i).x, Go.SE.SV.int Go.IntKind.i64 (q.g i).y]) ∧ L.allBd (L.Sq.mk p.n fun (i : Nat) ↦ p.g i) ∧
 L.allBd (L.Sq.mk q.n fun (i : Nat) ↦ q.g i) ∧ p.n = q.n ∧ (1 : Nat) ≤ p.n ∧ (0 : Int) ≤ Int.tdiv (↑g : Int) (2 : Int) ∧ Int.tdiv (↑g : Int) (2 : Int) < (↑p.n : Int)) ∧ (L.congr (L.Sq.mk p.n fun (i : Nat) ↦ p.g i) (L.Sq.mk q.n fun (i : Nat) ↦ q.g i) (L.Setting.mk (Int.tdiv (↑g : Int) (2 : Int)) (Decidable.decide (Int.tmod (↑g : Int) (2 : Int) = (1 : Int)))) = Bool.true → (L.cnt (L.conK p q) g +
 nat_lit 1) * nat_lit 16 ≤ (140737488355328 : Nat) ∧ Go.SE.InK Go.IntKind.i64 ((↑g : Int) + (1 : Int)) ∧ ∃ (g' : Nat), (↑g : Int) + (1 : Int) = (↑g' : Int) ∧ (2 : Int) * (↑p.n : Int) = (2 : Int) * (↑p.n : Int) ∧ (p.n = p.n ∧ ∀ (i : Nat), i < p.n → [Go.SE.SV.int Go.IntKind.i64 (p.g i).x, Go.SE.SV.int Go.IntKind.i64 (p.g i).y] = [Go.SE.SV.int Go.IntKind.i64 (p.g i).x, Go.SE.SV.int Go.IntKind.i64 (p.g
 i).y]) ∧ (q.n = q.n ∧ ∀ (i : Nat), i < q.n → [Go.SE.SV.int Go.IntKind.i64 (q.g i).x, Go.SE.SV.int Go.IntKind.i64 (q.g i).y] = [Go.SE.SV.int Go.IntKind.i64 (q.g i).x, Go.SE.SV.int Go.IntKind.i64 (q.g i).y]) ∧ (L.cnt (L.conK p q) g + nat_lit 1 = L.cnt (L.conK p q) g' ∧ ∀ (i : Nat), i < L.cnt (L.conK p q) g + nat_lit 1 → Go.SE.appGet (L.cnt (L.conK p q) g) (fun (k : Nat) ↦ [Go.SE.SV.int
 Go.IntKind.i64 (L.sett (L.selN (L.conK p q) g k)).shift, Go.SE.SV.bool (L.sett (L.selN (L.conK p q) g k)).back]) (fun (x : Nat) ↦ [Go.SE.SV.int Go.IntKind.i64 (Int.tdiv (↑g : Int) (2 : Int)), Go.SE.SV.bool (Decidable.decide (Int.tmod (↑g : Int) (2 : Int) = (1 : Int)))]) i = [Go.SE.SV.int Go.IntKind.i64 (L.sett (L.selN (L.conK p q) g' i)).shift, Go.SE.SV.bool (L.sett (L.selN (L.conK p q) g'
 i)).back]) ∧ g' ≤ (2 : Nat) * p.n ∧ (2 : Nat) * p.n - g' < (2 : Nat) * p.n - g) ∧ (L.congr (L.Sq.mk p.n fun (i : Nat) ↦ p.g i) (L.Sq.mk q.n fun (i : Nat) ↦ q.g i) (L.Setting.mk (Int.tdiv (↑g : Int) (2 : Int)) (Decidable.decide (Int.tmod (↑g : Int) (2 : Int) = (1 : Int)))) = Bool.false → Go.SE.InK Go.IntKind.i64 ((↑g : Int) + (1 : Int)) ∧ ∃ (g' : Nat), (↑g : Int) + (1 : Int) = (↑g' : Int) ∧ (2 :
 Int) * (↑p.n : Int) = (2 : Int) * (↑p.n : Int) ∧ (p.n = p.n ∧ ∀ (i : Nat), i < p.n → [Go.SE.SV.int Go.IntKind.i64 (p.g i).x, Go.SE.SV.int Go.IntKind.i64 (p.g i).y] = [Go.SE.SV.int Go.IntKind.i64 (p.g i).x, Go.SE.SV.int Go.IntKind.i64 (p.g i).y]) ∧ (q.n = q.n ∧ ∀ (i : Nat), i < q.n → [Go.SE.SV.int Go.IntKind.i64 (q.g i).x, Go.SE.SV.int Go.IntKind.i64 (q.g i).y] = [Go.SE.SV.int Go.IntKind.i64 (q.g
 i).x, Go.SE.SV.int Go.IntKind.i64 (q.g i).y]) ∧ (L.cnt (L.conK p q) g = L.cnt (L.conK p q) g' ∧ ∀ (i : Nat), i < L.cnt (L.conK p q) g → [Go.SE.SV.int Go.IntKind.i64 (L.sett (L.selN (L.conK p q) g i)).shift, Go.SE.SV.bool (L.sett (L.selN (L.conK p q) g i)).back] = [Go.SE.SV.int Go.IntKind.i64 (L.sett (L.selN (L.conK p q) g' i)).shift, Go.SE.SV.bool (L.sett (L.selN (L.conK p q) g' i)).back]) ∧ g' ≤
 (2 : Nat) * p.n ∧ (2 : Nat) * p.n - g' < (2 : Nat) * p.n - g)) ∧ (Decidable.decide ((↑g : Int) < (2 : Int) * (↑p.n : Int)) = Bool.false → (L.cnt (L.conK p q) g = L.conN p q ∧ ∀ (i : Nat), i < L.cnt (L.conK p q) g → [Go.SE.SV.int Go.IntKind.i64 (L.sett (L.selN (L.conK p q) g i)).shift, Go.SE.SV.bool (L.sett (L.selN (L.conK p q) g i)).back] = [Go.SE.SV.int Go.IntKind.i64 (L.conG p q i).shift,
 Go.SE.SV.bool (L.conG p q i).back]) ∧ (0 : Int) = L.conE p q)))) (by kernel_rfl) (by
    obtain ⟨h1, h2⟩ := hp
    refine ⟨⟨fun _ _ => rfl, h1⟩, fun _ => ⟨fun _ _ => rfl, h2⟩, fun h => ?_, fun h => ⟨fun h3 => ?_, fun h3 => ?_⟩⟩
    · have h : (bif !L.validOutline p then true else !L.validOutline q) = true := h
      have e : L.conE p q = 1 := by unfold L.conE; rw [h]; rfl
      unfold L.conN; rw [e]; exact ⟨rfl, rfl⟩
    · have h : (bif !L.validOutline p then true else !L.validOutline q) = false := h
      have e : L.conE p q = 0 := by unfold L.conE; rw [h]; rfl
      unfold L.conN; rw [e, notT h3]; exact ⟨rfl, rfl⟩
    have h : (bif !L.validOutline p then true else !L.validOutline q) = false := h
    have e : L.conE p q = 0 := by unfold L.conE; rw [h]; rfl
    rw [bor, Bool.or_eq_false_iff] at h
    obtain ⟨n3, n24, _, hbp⟩ := validOutline_of (notF h.1)
    obtain ⟨_, _, _, hbq⟩ := validOutline_of (notF h.2)
    have hd := notF h3
    have hn : p.n = q.n := by have := of_decide_eq_true hd; omega
    refine ⟨InK.of (by omega) (by omega), ⟨(0 : Nat), rfl, ⟨rfl, fun i hi => absurd hi (Nat.not_lt_zero _)⟩, Nat.zero_le _⟩, fun k hk' => ⟨fun hlt => ?_, fun hge => ?_⟩⟩
    · have hb : (k : Int) < 2 * (p.n : Int) := of_decide_eq_true hlt
      have hk : k < 2 * p.n := by omega
      have hs := sett_lt hk
      have hc := cnt_le (p := L.conK p q) (n := k)
      refine ⟨by decide, InK.of (by rw [Int.tdiv_eq_ediv_of_nonneg (by omega)]; omega) (by rw [Int.tdiv_eq_ediv_of_nonneg (by omega)]; omega), by decide, ⟨fun _ _ => rfl, fun _ _ => rfl, hbp, hbq, hn, by omega, hs.1, hs.2⟩, fun h5 => ?_, fun h5 => ?_⟩
      · have h5 : L.conK p q k = true := h5
        have c1 := cnt_yes h5
        refine ⟨show (L.cnt (L.conK p q) k + 1) * 16 ≤ 140737488355328 by omega, InK.of (by omega) (by omega), k + 1, by omega, rfl, ⟨rfl, fun _ _ => rfl⟩, ⟨rfl, fun _ _ => rfl⟩, ⟨c1.symm, fun i hi => ?_⟩, by omega, by omega⟩
        have hi : i < L.cnt (L.conK p q) k + 1 := hi
        unfold appGet
        by_cases h' : i < L.cnt (L.conK p q) k
        · rw [if_pos h', selN_old (Nat.ne_of_lt h')]
        · have : i = L.cnt (L.conK p q) k := by omega
          rw [if_neg h', this, selN_new h5]; rfl
      · have h5 : L.conK p q k = false := h5
        exact ⟨InK.of (by omega) (by omega), k + 1, by omega, rfl, ⟨rfl, fun _ _ => rfl⟩, ⟨rfl, fun _ _ => rfl⟩, ⟨(cnt_not h5).symm, fun i hi => by rw [selN_not h5]⟩, by omega, by omega⟩
    · have hb : ¬ (k : Int) < 2 * (p.n : Int) := of_decide_eq_false hge
      obtain rfl : k = 2 * p.n := by omega
      refine ⟨⟨?_, fun _ _ => rfl⟩, e.symm⟩
      unfold L.conN; rw [e, hd]; rfl)
theorem p_Settings_ok : SpecOk Tryz.prog 54 p_Settings_S := fnX Tryz.func54 (c := bodyOf Tryz.f54) (by kernel_rfl) mixed (fun args p r hs hp => by
  unfold p_Settings_s at hs
  split at hs
  · cases hs; exact ⟨_, _, p_Settings_vc _ _ hp.2.2, (.p (.sl hp.1) (.p (.sl hp.2.1) .nil)), ⟨show SpecsL Tryz.prog _ from (SpecsL.cons p_ValidOutline_ok p_ValidOutline_en (SpecsL.cons p_congruent_ok p_congruent_en SpecsL.nil)), rfl, ⟨show ItersL Tryz.prog _ from ItersL.nil, (TrsOk.none (fun _ => rfl))⟩⟩⟩
  · cases hs)
theorem p_Settings_en : Enters Tryz.prog 54 := fun args w => by kernel_rfl
def w_among_p (l : (L.Sq L.Setting)) (s : L.Setting) : Prop := l.n ≤ 1000000
def w_among_r (l : (L.Sq L.Setting)) (s : L.Setting) : SV := .bool (L.among l s)
def w_among_s : List EV → Option (Prop × SV)
  | [.p (.sl 2 l_n l_g), .p (.agg [.int .i64 s_shift, .bool s_back])] => some ((∀ i, i < l_n → l_g i = [.int .i64 ((ofSetting (l_g i)).shift), .bool ((ofSetting (l_g i)).back)]) ∧ w_among_p (⟨l_n, fun i => ofSetting (l_g i)⟩ : (L.Sq L.Setting)) (⟨s_shift, s_back⟩ : L.Setting), w_among_r (⟨l_n, fun i => ofSetting (l_g i)⟩ : (L.Sq L.Setting)) (⟨s_shift, s_back⟩ : L.Setting))
  | _ => none
abbrev w_among_S : SE.Spec := (specO w_among_s)
def w_among_C : Cfg := { muts := [], frz := lookN [], specs := lookS [], loops := fun _ => none, iters := lookI [], rfs := lookR [], nils := lookM [] }
theorem w_among_vc (l : (L.Sq L.Setting)) (s : L.Setting) (hp : w_among_p l s) : vc Tryz.prog ({ w_among_C with loops := lookL [(2, { T := Nat, keep := [0, 3], keepO := [], chg := fun i => [(5, .p (.int .i64 (i : Int)))], own := fun _ => [], inv := fun i => i ≤ l.n ∧ ∀ j, j < i → L.sameS (l.g j) s = false, mu := fun i => l.n - i })], rfs := lookR [] }) (bodyOf Tryz.f56) (st0 Tryz.f56 [.p (.sl 2 l.n (fun i => [.int .i64 ((l.g i).shift), .bool ((l.g i).back)])), .p (.agg [.int .i64 s.shift, .bool s.back])]) (retFn Tryz.prog Tryz.f56 (w_among_r l s)) :=
  @Eq.mpr _ ((∃ (g : Nat), (0 : Int) = (↑g : Int) ∧ g ≤ l.n ∧ ∀ (j : Nat), j < g → L.sameS (l.g j) s = Bool.false) ∧ ∀ (g : Nat), (g ≤ l.n ∧ ∀ (j : Nat), j < g → L.sameS (l.g j) s = Bool.false) → (Decidable.decide ((↑g : Int) < (↑l.n : Int)) = Bool.true → ((0 : Int) ≤ (↑g : Int) ∧ (↑g : Int) < (↑l.n : Int)) ∧ ((Decidable.decide ((l.g (Int.toNat (↑g : Int))).shift = s.shift) && (l.g (Int.toNat (↑g : Int))).back
 == s.back) = Bool.true → Bool.true = L.among l s) ∧ ((Decidable.decide ((l.g (Int.toNat (↑g : Int))).shift = s.shift) && (l.g (Int.toNat (↑g : Int))).back == s.back) = Bool.false → Go.SE.InK Go.IntKind.i64 ((↑g : Int) + (1 : Int)) ∧ ∃ (g' : Nat), (↑g : Int) + (1 : Int) = (↑g' : Int) ∧ Go.SE.SV.ref [Go.SE.SV.int Go.IntKind.i64 s.shift, Go.SE.SV.bool s.back] (nat_lit 0) = Go.SE.SV.ref [Go.SE.SV.int
 Go.IntKind.i64 s.shift, Go.SE.SV.bool s.back] (nat_lit 0) ∧ (l.n = l.n ∧ ∀ (i : Nat), i < l.n → [Go.SE.SV.int Go.IntKind.i64 (l.g i).shift, Go.SE.SV.bool (l.g i).back] = [Go.SE.SV.int Go.IntKind.i64 (l.g i).shift, Go.SE.SV.bool (l.g i).back]) ∧ (g' ≤ l.n ∧ ∀ (j : Nat), j < g' → L.sameS (l.g j) s = Bool.false) ∧ l.n - g' < l.n - g)) ∧ (Decidable.decide ((↑g : Int) < (↑l.n : Int)) = Bool.false →
 Bool.false = L.among l s)) (by kernel_rfl) (by
    have hn : l.n ≤ 1000000 := hp
    refine ⟨⟨(0 : Nat), rfl, Nat.zero_le _, fun j hj => absurd hj (Nat.not_lt_zero _)⟩, fun g hg => ⟨fun hlt => ?_, fun hge => ?_⟩⟩
    · have hb : (g : Int) < (l.n : Int) := of_decide_eq_true hlt
      have e0 : ((g : Int)).toNat = g := by omega
      rw [e0]
      refine ⟨⟨by omega, hb⟩, fun h => ?_, fun h => ?_⟩
      · have h : L.sameS (l.g g) s = true := h
        exact (anyB_iff.2 ⟨g, by omega, h⟩).symm
      · have h : L.sameS (l.g g) s = false := h
        exact ⟨InK.of (by omega) (by omega), g + 1, by omega, rfl, ⟨rfl, fun _ _ => rfl⟩, ⟨by omega, fun j hj => by
          rcases Nat.lt_succ_iff_lt_or_eq.1 hj with h' | rfl
          · exact hg.2 j h'
          · exact h⟩, by omega⟩
    · have hb : ¬ (g : Int) < (l.n : Int) := of_decide_eq_false hge
      exact (anyB_no (fun i hi => hg.2 i (by omega))).symm)
theorem w_among_ok : SpecOk Tryz.prog 56 w_among_S := fnX Tryz.func56 (c := bodyOf Tryz.f56) (by kernel_rfl) mixed (fun args p r hs hp => by
  unfold w_among_s at hs
  split at hs
  · cases hs; exact ⟨_, _, w_among_vc _ _ hp.2, (.p (.sl hp.1) (.same _ .nil)), ⟨show SpecsL Tryz.prog _ from SpecsL.nil, rfl, ⟨show ItersL Tryz.prog _ from ItersL.nil, (TrsOk.none (fun _ => rfl))⟩⟩⟩
  · cases hs)
theorem w_among_en : Enters Tryz.prog 56 := fun args w => by kernel_rfl
theorem w_among_B : ∀ args p r, w_among_s args = some (p, r) → ∃ b, r = .bool b := by
  intro args p r h
  unfold w_among_s at h
  split at h
  · cases h; exact ⟨_, rfl⟩
  · cases h
end Go.Proofs.YtooapgllahonaaaGreat

namespace Go.Proofs.YtooapgllahonaaaGreat
open Go.SE Go.RowKit
set_option maxRecDepth 100000
set_option maxHeartbeats 4000000
set_option linter.unusedVariables false
attribute [local irreducible] Go.SE.vc

/-- Where a setting lays an edge, as a number of the whole line. -/
def L.sg (b : Bool) : Int := bif b then -1 else 1
theorem emod_lin (a e b n : Int) : (a + e * (b % n)) % n = (a + e * b) % n := by
  have h : a + e * (b % n) = a + e * b + n * (-(e * (b / n))) := by
    rw [Int.emod_def]
    simp only [Int.mul_sub, Int.mul_neg, ← Int.mul_assoc, Int.mul_comm n e, Int.mul_left_comm n e]
    omega
  rw [h, Int.add_mul_emod_self_left]
theorem lay_lin {s : L.Setting} {n i : Int} (h0 : 0 ≤ s.shift) (h1 : s.shift < n) (h2 : 0 ≤ i) (h3 : i < n) : L.lay s n i = (s.shift + L.sg s.back * i) % n := by
  unfold L.lay L.sg
  cases s.back with
  | true =>
    simp only [cond_true]
    rw [Int.tmod_eq_emod_of_nonneg (by omega), show s.shift + n - i = s.shift + -1 * i + n by omega, Int.add_emod_right]
  | false =>
    simp only [cond_false]
    rw [Int.tmod_eq_emod_of_nonneg (by omega), Int.one_mul]
theorem sg_xor (a b : Bool) : L.sg (!(a == b)) = L.sg b * L.sg a := by cases a <;> cases b <;> rfl
theorem comp_ok {s t : L.Setting} {n : Int} (hs : L.validSet s n = true) (ht : L.validSet t n = true) : L.compE s t n = 0 ∧ L.comp s t n = ⟨(t.shift + L.sg t.back * s.shift) % n, !(s.back == t.back)⟩ ∧ L.validSet (L.comp s t n) n = true := by
  have a := validSet_iff.1 hs
  have b := validSet_iff.1 ht
  have e : L.compE s t n = 0 := by unfold L.compE; rw [hs, ht]; rfl
  have e2 : L.comp s t n = ⟨(t.shift + L.sg t.back * s.shift) % n, !(s.back == t.back)⟩ := by
    unfold L.comp
    rw [e, lay_lin b.2.1 b.2.2 a.2.1 a.2.2]; rfl
  refine ⟨e, e2, validSet_iff.2 ⟨a.1, ?_⟩⟩
  rw [e2]
  exact ⟨Int.emod_nonneg _ (by omega), Int.emod_lt_of_pos _ (by omega)⟩
theorem comp_assoc {s t u : L.Setting} {n : Int} (hs : L.validSet s n = true) (ht : L.validSet t n = true) (hu : L.validSet u n = true) : L.comp (L.comp s t n) u n = L.comp s (L.comp t u n) n := by
  obtain ⟨_, e1, v1⟩ := comp_ok hs ht
  obtain ⟨_, e2, v2⟩ := comp_ok ht hu
  obtain ⟨_, e3, _⟩ := comp_ok v1 hu
  obtain ⟨_, e4, _⟩ := comp_ok hs v2
  have A : (u.shift + L.sg u.back * ((t.shift + L.sg t.back * s.shift) % n)) % n = ((u.shift + L.sg u.back * t.shift) % n + L.sg (!(t.back == u.back)) * s.shift) % n := by
    rw [emod_lin, sg_xor, Int.emod_add_emod, Int.mul_add, Int.mul_assoc, Int.add_assoc]
  have B : (!((!(s.back == t.back)) == u.back)) = !(s.back == !(t.back == u.back)) := by
    cases s.back <;> cases t.back <;> cases u.back <;> rfl
  rw [e3, e4, e1, e2]
  dsimp only
  rw [A, B]
def L.one : L.Setting := ⟨0, false⟩
theorem one_valid {s : L.Setting} {n : Int} (hs : L.validSet s n = true) : L.validSet L.one n = true := by
  have a := validSet_iff.1 hs
  exact validSet_iff.2 ⟨a.1, Int.le_refl _, show (0 : Int) < n by omega⟩
theorem set_ext {s t : L.Setting} (h : s.shift = t.shift) (k : s.back = t.back) : s = t := by cases s; cases t; simp only at h k; rw [h, k]
theorem comp_one {s : L.Setting} {n : Int} (hs : L.validSet s n = true) : L.comp s L.one n = s := by
  have a := validSet_iff.1 hs
  rw [(comp_ok hs (one_valid hs)).2.1]
  refine set_ext ?_ ?_
  · show (0 + 1 * s.shift) % n = s.shift
    rw [Int.zero_add, Int.one_mul, Int.emod_eq_of_lt a.2.1 a.2.2]
  · show (!(s.back == false)) = s.back
    cases s.back <;> rfl
theorem one_comp {s : L.Setting} {n : Int} (hs : L.validSet s n = true) : L.comp L.one s n = s := by
  have a := validSet_iff.1 hs
  rw [(comp_ok (one_valid hs) hs).2.1]
  refine set_ext ?_ ?_
  · show (s.shift + L.sg s.back * 0) % n = s.shift
    rw [Int.mul_zero, Int.add_zero, Int.emod_eq_of_lt a.2.1 a.2.2]
  · show (!(false == s.back)) = s.back
    cases s.back <;> rfl
theorem inv_ok {s : L.Setting} {n : Int} (hs : L.validSet s n = true) : L.invE s n = 0 ∧ L.validSet (L.inv s n) n = true ∧ L.comp s (L.inv s n) n = L.one := by
  have a := validSet_iff.1 hs
  have hv : L.validSet (L.inv s n) n = true := by
    unfold L.inv
    rw [hs]
    cases hb : s.back with
    | true => exact hs
    | false =>
      refine validSet_iff.2 ⟨a.1, ?_⟩
      show 0 ≤ Int.tmod (n - s.shift) n ∧ Int.tmod (n - s.shift) n < n
      exact ⟨Int.tmod_nonneg _ (by omega), Int.tmod_lt_of_pos _ (by omega)⟩
  refine ⟨by unfold L.invE; rw [hs]; rfl, hv, ?_⟩
  rw [(comp_ok hs hv).2.1]
  unfold L.inv
  rw [hs]
  cases hb : s.back with
  | true =>
    simp only [cond_true]
    refine set_ext ?_ ?_
    · show (s.shift + L.sg s.back * s.shift) % n = 0
      rw [hb]
      show (s.shift + -1 * s.shift) % n = 0
      rw [show s.shift + -1 * s.shift = 0 by omega, Int.zero_emod]
    · show (!(true == s.back)) = false
      rw [hb]; rfl
  | false =>
    simp only [cond_true, cond_false]
    refine set_ext ?_ ?_
    · show (Int.tmod (n - s.shift) n + 1 * s.shift) % n = 0
      rw [Int.tmod_eq_emod_of_nonneg (by omega), Int.emod_add_emod, Int.one_mul, show n - s.shift + s.shift = n by omega, Int.emod_self]
    · rfl
theorem lay_comp {s t : L.Setting} {n i : Int} (hs : L.validSet s n = true) (ht : L.validSet t n = true) (h0 : 0 ≤ i) (h1 : i < n) : L.lay t n (L.lay s n i) = L.lay (L.comp s t n) n i ∧ 0 ≤ L.lay s n i ∧ L.lay s n i < n := by
  have a := validSet_iff.1 hs
  have b := validSet_iff.1 ht
  obtain ⟨_, e1, v1⟩ := comp_ok hs ht
  have c := validSet_iff.1 v1
  have l1 := lay_lin a.2.1 a.2.2 h0 h1
  have r1 : 0 ≤ L.lay s n i ∧ L.lay s n i < n := by
    rw [l1]; exact ⟨Int.emod_nonneg _ (by omega), Int.emod_lt_of_pos _ (by omega)⟩
  refine ⟨?_, r1⟩
  rw [lay_lin b.2.1 b.2.2 r1.1 r1.2, lay_lin c.2.1 c.2.2 h0 h1, l1, e1]
  dsimp only
  rw [emod_lin, sg_xor, Int.emod_add_emod, Int.mul_add, Int.mul_assoc, Int.add_assoc]
theorem ed_ok {s : L.Setting} {n i : Int} (hs : L.validSet s n = true) (h0 : 0 ≤ i) (h1 : i < n) : L.edE s n i = 0 ∧ L.ed s n i = L.lay s n i := by
  have e : L.edE s n i = 0 := by
    unfold L.edE
    rw [hs, within_iff.2 ⟨h0, by omega⟩]; rfl
  exact ⟨e, by unfold L.ed; rw [e]; rfl⟩
theorem one_inv {s : L.Setting} {n : Int} (hs : L.validSet s n = true) : L.comp (L.inv s n) s n = L.one := by
  have i1 := inv_ok hs
  have i2 := inv_ok i1.2.1
  have v := (comp_ok i1.2.1 hs).2.2
  have a1 := comp_assoc i1.2.1 hs i1.2.1
  rw [i1.2.2, comp_one i1.2.1] at a1
  have a2 := comp_assoc v i1.2.1 i2.2.1
  rw [a1, i2.2.2, comp_one v] at a2
  exact a2.symm
theorem inv_of {s t : L.Setting} {n : Int} (hs : L.validSet s n = true) (ht : L.validSet t n = true) (h : L.comp s t n = L.one) : L.inv s n = t := by
  have i1 := inv_ok hs
  have a := comp_assoc i1.2.1 hs ht
  rw [one_inv hs, one_comp ht, h, comp_one i1.2.1] at a
  exact a.symm
end Go.Proofs.YtooapgllahonaaaGreat

namespace Go.Proofs.YtooapgllahonaaaGreat
open Go.SE Go.RowKit
set_option maxRecDepth 100000
set_option maxHeartbeats 4000000
set_option linter.unusedVariables false
attribute [local irreducible] Go.SE.vc

theorem dist_sym (a b : L.Pt) : L.dist a b = L.dist b a := by
  unfold L.dist
  rw [show a.x - b.x = -(b.x - a.x) by omega, show a.y - b.y = -(b.y - a.y) by omega, Int.neg_mul_neg, Int.neg_mul_neg]
theorem dist_self (a : L.Pt) : L.dist a a = 0 := by
  unfold L.dist; rw [Int.sub_self, Int.sub_self]; rfl
theorem cross_ix {l : L.Sq L.Pt} (hv : L.validOutline l = true) (a : Int) : L.cross (l.g (L.ix l.n (a - 1))) (l.g (L.ix l.n a)) (l.g (L.ix l.n (a + 1))) ≠ 0 := by
  have hn := (validOutline_of hv).1
  have hk := ix_lt (n := l.n) (i := a) (by omega)
  have hc := (outline_all hv).2 _ hk
  have e1 : L.prev l.n (L.ix l.n a) = L.ix l.n (a - 1) := by
    rw [← ix_prev hk, show ((L.ix l.n a : Nat) : Int) - 1 = ((L.ix l.n a : Nat) : Int) + -1 by omega, ix_ix (by omega)]; rfl
  have e2 : L.next l.n (L.ix l.n a) = L.ix l.n (a + 1) := by
    rw [← ix_next hk, ix_ix (by omega)]
  rwa [e1, e2] at hc
theorem among_of {p q : Nat → Bool} {n g : Nat} (h : ∀ c, c < n → p c = true → q c = true) (hg : g < L.cnt p n) : L.among ⟨L.cnt q n, fun k => L.sett (L.selN q n k)⟩ (L.sett (L.selN p n g)) = true := by
  obtain ⟨h1, h2⟩ := sel_in hg
  obtain ⟨k, h3, h4⟩ := sel_of (h _ h1 h2) h1
  unfold L.among
  refine anyB_iff.2 ⟨k, h3, ?_⟩
  dsimp only
  rw [h4]; exact sameS_refl _
theorem laid_ix {q : L.Sq L.Pt} {s : L.Setting} {n : Nat} (hn : 0 < n) (s0 : 0 ≤ s.shift) (a : Int) : L.laid q s n (L.ix n a) = q.g (L.ix n (bif s.back then s.shift - a + 1 else s.shift + a)) := by
  have hk := ix_lt (n := n) (i := a) hn
  have he := ix_emod (a := a) hn
  unfold L.laid L.cor
  cases s.back with
  | false =>
    simp only [cond_false]
    have h1 : ((L.ix n (s.shift + a) : Nat) : Int) = Int.tmod (s.shift + ((L.ix n a : Nat) : Int)) (n : Int) := by
      rw [ix_emod hn, Int.tmod_eq_emod_of_nonneg (by omega), he, Int.add_emod_emod]
    rw [← h1, Int.toNat_natCast]
  | true =>
    simp only [cond_true]
    have h1 : ((L.ix n (s.shift - a + 1) : Nat) : Int) = Int.tmod (s.shift + (n : Int) - ((L.ix n a : Nat) : Int) + 1) (n : Int) := by
      rw [ix_emod hn, Int.tmod_eq_emod_of_nonneg (by omega), he]
      rw [show s.shift + (n : Int) - a % (n : Int) + 1 = (s.shift + 1 - a % (n : Int)) + (n : Int) by omega, Int.add_emod_right, show s.shift - a + 1 = s.shift + 1 - a by omega]
      rw [Int.sub_emod, Int.sub_emod (s.shift + 1) (a % (n : Int)), Int.emod_emod]
    rw [← h1, Int.toNat_natCast]
theorem congr_of {p q : L.Sq L.Pt} {s : L.Setting} (h : L.congr p q s = true) : (∀ i j, i < p.n → j < p.n → L.dist (p.g i) (p.g j) = L.dist (L.laid q s p.n i) (L.laid q s p.n j)) ∧ ∀ i, i < p.n → L.conB p q s i = true := by
  have h1 : ∀ i, i < p.n → L.conI p q s i = true := allB_iff.1 h
  have h2 : ∀ i k, i < p.n → k < i → L.dist (p.g i) (p.g k) = L.dist (L.laid q s p.n i) (L.laid q s p.n k) := fun i k hi hk => by
    have := h1 i hi
    unfold L.conI at this
    rw [Bool.and_eq_true] at this
    exact of_decide_eq_true (allB_iff.1 this.1 k hk)
  refine ⟨fun i j hi hj => ?_, fun i hi => ?_⟩
  · rcases Nat.lt_trichotomy i j with h | h | h
    · rw [dist_sym, h2 j i hj h, dist_sym]
    · subst h; rw [dist_self, dist_self]
    · exact h2 i j hi h
  · have := h1 i hi
    unfold L.conI at this
    rw [Bool.and_eq_true] at this
    exact this.2
theorem cross_rev (a b c : L.Pt) : L.cross a b c = - L.cross c b a := by
  unfold L.cross
  grind
def L.cy (l : L.Sq L.Pt) (a : Int) : L.Pt := l.g (L.ix l.n a)
theorem cy_mod {l : L.Sq L.Pt} {a b : Int} (hn : 0 < l.n) (h : a % (l.n : Int) = b % (l.n : Int)) : L.cy l a = L.cy l b := by
  unfold L.cy
  have := ix_congr hn h 0
  rw [Int.add_zero, Int.add_zero] at this
  rw [this]
def L.es (s : L.Setting) (a : Int) : Int := bif s.back then s.shift - a + 1 else s.shift + a
def L.bnd (l : L.Sq L.Pt) (a : Int) : Bool := decide (0 < L.cross (L.cy l (a - 1)) (L.cy l a) (L.cy l (a + 1)))
def L.isoS (p q : L.Sq L.Pt) (s : L.Setting) : Prop := (∀ a b : Int, L.dist (L.cy p a) (L.cy p b) = L.dist (L.cy q (L.es s a)) (L.cy q (L.es s b))) ∧ ∀ a : Int, L.bnd p a = L.bnd q (L.es s a)
theorem dec_rev {a b c : L.Pt} (h : L.cross a b c ≠ 0) : decide (0 < L.cross c b a) = !decide (0 < L.cross a b c) := by
  rw [Bool.eq_iff_iff, Bool.not_eq_true', decide_eq_true_eq, decide_eq_false_iff_not, cross_rev c b a]
  omega
theorem beq_x (x y : Bool) : (x == !(y == false)) = (x == y) := by cases x <;> cases y <;> rfl
theorem beq_y (x y : Bool) : (x == !((!y) == true)) = (x == y) := by cases x <;> cases y <;> rfl
theorem conB_at {p q : L.Sq L.Pt} {s : L.Setting} (hq : L.validOutline q = true) (hn : p.n = q.n) (hp : 0 < p.n) (s0 : 0 ≤ s.shift) (a : Int) : L.conB p q s (L.ix p.n a) = (L.bnd p a == L.bnd q (L.es s a)) := by
  have hk := ix_lt (n := p.n) (i := a) hp
  have e1 : L.prev p.n (L.ix p.n a) = L.ix p.n (a - 1) := by
    rw [← ix_prev hk, show ((L.ix p.n a : Nat) : Int) - 1 = ((L.ix p.n a : Nat) : Int) + -1 by omega, ix_ix hp]; rfl
  have e2 : L.next p.n (L.ix p.n a) = L.ix p.n (a + 1) := by
    rw [← ix_next hk, ix_ix hp]
  have hl : ∀ b, L.laid q s p.n (L.ix p.n b) = L.cy q (L.es s b) := fun b => by rw [laid_ix hp s0]; unfold L.cy L.es; rw [hn]
  have hc : L.cross (L.cy q (L.es s a - 1)) (L.cy q (L.es s a)) (L.cy q (L.es s a + 1)) ≠ 0 := cross_ix hq (L.es s a)
  have hb2 : decide (0 < L.cross (L.cy p (a - 1)) (L.cy p a) (L.cy p (a + 1))) = L.bnd p a := rfl
  unfold L.conB
  rw [e1, e2, hl, hl, hl]
  show (L.bnd p a == !(decide (0 < L.cross (L.cy q (L.es s (a - 1))) (L.cy q (L.es s a)) (L.cy q (L.es s (a + 1)))) == s.back)) = _
  cases hb : s.back with
  | false =>
    have f1 : L.es s (a - 1) = L.es s a - 1 := by unfold L.es; rw [hb]; dsimp only [cond_false]; omega
    have f2 : L.es s (a + 1) = L.es s a + 1 := by unfold L.es; rw [hb]; dsimp only [cond_false]; omega
    rw [f1, f2, beq_x]; rfl
  | true =>
    have f1 : L.es s (a - 1) = L.es s a + 1 := by unfold L.es; rw [hb]; dsimp only [cond_true]; omega
    have f2 : L.es s (a + 1) = L.es s a - 1 := by unfold L.es; rw [hb]; dsimp only [cond_true]; omega
    rw [f1, f2, dec_rev hc, beq_y]; rfl
theorem congr_iff {p q : L.Sq L.Pt} {s : L.Setting} (hq : L.validOutline q = true) (hn : p.n = q.n) (hp : 0 < p.n) (s0 : 0 ≤ s.shift) : L.congr p q s = true ↔ L.isoS p q s := by
  have hd : ∀ a, L.laid q s p.n (L.ix p.n a) = L.cy q (L.es s a) := fun a => by rw [laid_ix hp s0]; unfold L.cy L.es; rw [hn]
  constructor
  · intro h
    obtain ⟨h1, h2⟩ := congr_of h
    refine ⟨fun a b => ?_, fun a => ?_⟩
    · have := h1 (L.ix p.n a) (L.ix p.n b) (ix_lt hp) (ix_lt hp)
      rw [hd, hd] at this
      exact this
    · have := h2 (L.ix p.n a) (ix_lt hp)
      rw [conB_at hq hn hp s0] at this
      exact eq_of_beq this
  · intro ⟨h1, h2⟩
    refine allB_iff.2 (fun i hi => ?_)
    unfold L.conI
    have ei : L.ix p.n (i : Int) = i := ix_self hi
    rw [Bool.and_eq_true]
    refine ⟨allB_iff.2 (fun k hk => decide_eq_true ?_), ?_⟩
    · have hk' : k < p.n := by omega
      have ek : L.ix p.n (k : Int) = k := ix_self hk'
      have := h1 (i : Int) (k : Int)
      rw [← hd, ← hd] at this
      unfold L.cy at this
      rw [ei, ek] at this
      exact this
    · have := conB_at hq hn hp s0 (i : Int)
      rw [ei] at this
      rw [this, h2]
      exact beq_self_eq_true _
theorem emod_of_eq {n a b : Int} (k : Int) (h : a = b + n * k) : a % n = b % n := by rw [h, Int.add_mul_emod_self_left]
theorem es_comp {s t : L.Setting} {n : Int} (hs : L.validSet s n = true) (ht : L.validSet t n = true) (a : Int) : (L.es t (L.es s a)) % n = (L.es (L.comp s t n) a) % n := by
  obtain ⟨_, e, _⟩ := comp_ok hs ht
  have hd : ∀ x : Int, x % n = x + n * (-(x / n)) := fun x => by rw [Int.emod_def, Int.mul_neg]; rfl
  rw [e]
  unfold L.es L.sg
  cases s.back <;> cases t.back <;> simp only [cond_true, cond_false, Bool.not_true, Bool.not_false, beq_self_eq_true, show (true == false) = false from rfl, show (false == true) = false from rfl, Int.one_mul]
  · rw [hd (t.shift + s.shift)]
    exact emod_of_eq ((t.shift + s.shift) / n) (by rw [Int.mul_neg]; omega)
  · rw [hd (t.shift + -1 * s.shift)]
    exact emod_of_eq ((t.shift + -1 * s.shift) / n) (by rw [Int.mul_neg]; omega)
  · rw [hd (t.shift + s.shift)]
    exact emod_of_eq ((t.shift + s.shift) / n) (by rw [Int.mul_neg]; omega)
  · rw [hd (t.shift + -1 * s.shift)]
    exact emod_of_eq ((t.shift + -1 * s.shift) / n) (by rw [Int.mul_neg]; omega)
theorem bnd_mod {l : L.Sq L.Pt} {a b : Int} (hn : 0 < l.n) (h : a % (l.n : Int) = b % (l.n : Int)) : L.bnd l a = L.bnd l b := by
  unfold L.bnd
  rw [cy_mod hn h, cy_mod hn (a := a - 1) (b := b - 1) (Int.emod_sub_cancel_right _ |>.2 h), cy_mod hn (a := a + 1) (b := b + 1) (Int.emod_add_cancel_right _ |>.2 h)]
theorem iso_comp {p q r : L.Sq L.Pt} {s t : L.Setting} {n : Nat} (hr : r.n = n) (h0 : 0 < n) (hs : L.validSet s n = true) (ht : L.validSet t n = true) (h : L.isoS p q s) (k : L.isoS q r t) : L.isoS p r (L.comp s t n) := by
  have e : ∀ a, L.cy r (L.es t (L.es s a)) = L.cy r (L.es (L.comp s t n) a) := fun a => cy_mod (by omega) (by rw [hr]; exact es_comp hs ht a)
  refine ⟨fun a b => ?_, fun a => ?_⟩
  · rw [h.1, k.1, e, e]
  · rw [h.2, k.2]
    exact bnd_mod (by omega) (by rw [hr]; exact es_comp hs ht a)
theorem es_inv {s : L.Setting} {n : Int} (hs : L.validSet s n = true) (a : Int) : (L.es s (L.es (L.inv s n) a)) % n = a % n := by
  have b := validSet_iff.1 hs
  have hd : ∀ x : Int, x % n = x + n * (-(x / n)) := fun x => by rw [Int.emod_def, Int.mul_neg]; rfl
  unfold L.inv
  rw [hs]
  unfold L.es
  cases hb : s.back with
  | true =>
    simp only [cond_true, hb]
    exact emod_of_eq 0 (by omega)
  | false =>
    simp only [cond_true, cond_false]
    rw [Int.tmod_eq_emod_of_nonneg (by omega), hd (n - s.shift)]
    exact emod_of_eq (1 - (n - s.shift) / n) (by rw [Int.mul_neg, Int.mul_sub]; omega)
theorem iso_inv {p q : L.Sq L.Pt} {s : L.Setting} {n : Nat} (hq : q.n = n) (h0 : 0 < n) (hs : L.validSet s n = true) (h : L.isoS p q s) : L.isoS q p (L.inv s n) := by
  have e : ∀ a, L.cy q (L.es s (L.es (L.inv s n) a)) = L.cy q a := fun a => cy_mod (by omega) (by rw [hq]; exact es_inv hs a)
  refine ⟨fun a b => ?_, fun a => ?_⟩
  · rw [h.1, e, e]
  · rw [h.2]
    exact (bnd_mod (by omega) (by rw [hq]; exact es_inv hs a)).symm
end Go.Proofs.YtooapgllahonaaaGreat
