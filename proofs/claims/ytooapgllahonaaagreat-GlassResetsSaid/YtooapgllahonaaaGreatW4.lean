/- A symbolic walk over the model, and what it shows of functions of the program: parts of the proof that the text of the row joins. -/
import Derived.Test.YtooapgllahonaaaGreatW3
import Derived.Test.YtooapgllahonaaaGreatE3
import Derived.KernelRfl

namespace Go.Proofs.YtooapgllahonaaaGreat
open Go.SE Go.RowKit
set_option maxRecDepth 100000
set_option maxHeartbeats 4000000
set_option linter.unusedVariables false
attribute [local irreducible] Go.SE.vc

def L.srt (l : L.Sq L.Mark) (i : Nat) : L.Sq L.Mark := L.sortM ⟨i, l.g⟩
theorem ins_getD (S : List L.Mark) (x : L.Mark) (k j : Nat) (hk : k ≤ S.length) (d : L.Mark) : (S.take k ++ x :: S.drop k).getD j d = if j < k then S.getD j d else if j = k then x else S.getD (j - 1) d := by
  have hl : (S.take k).length = k := by rw [List.length_take]; omega
  by_cases h1 : j < k
  · rw [if_pos h1, List.getD_eq_getElem?_getD, List.getElem?_append_left (by omega), List.getElem?_take, if_pos h1, List.getD_eq_getElem?_getD]
  · rw [if_neg h1, List.getD_eq_getElem?_getD, List.getElem?_append_right (by omega), hl]
    by_cases h2 : j = k
    · rw [if_pos h2, h2, Nat.sub_self]; rfl
    · rw [if_neg h2]
      obtain ⟨m, rfl⟩ : ∃ m, j = k + 1 + m := ⟨j - k - 1, by omega⟩
      rw [show k + 1 + m - k = m + 1 by omega, List.getElem?_cons_succ, List.getElem?_drop, List.getD_eq_getElem?_getD, show k + 1 + m - 1 = k + m by omega]
theorem leMk_of_lt {a b : L.Mark} (h : L.cmpMark a b < 0) : L.leMk a b := Int.le_of_lt h
theorem ins_at {l : L.Sq L.Mark} {i k : Nat} (hk : k ≤ i) (h1 : ∀ j, k ≤ j → j < i → L.earlier (l.g i) ((L.srt l i).g j) = true) (h2 : 0 < k → L.earlier (l.g i) ((L.srt l i).g (k - 1)) = false) (j : Nat) : (L.srt l (i + 1)).g j = if j < k then (L.srt l i).g j else if j = k then l.g i else (L.srt l i).g (j - 1) := by
  have hS : ∀ j, (L.srt l i).g j = (L.isortMk (L.listMk ⟨i, l.g⟩)).getD j ⟨0, 0, 0⟩ := fun j => rfl
  have hT : ∀ j, (L.srt l (i + 1)).g j = (L.isortMk (L.listMk ⟨i + 1, l.g⟩)).getD j ⟨0, 0, 0⟩ := fun j => rfl
  have hlen : (L.isortMk (L.listMk ⟨i, l.g⟩)).length = i := by rw [(isortMk_perm _).length_eq]; simp [L.listMk]
  have hasc := isortMk_asc (L.listMk ⟨i, l.g⟩)
  have hperm := isortMk_perm (L.listMk ⟨i, l.g⟩)
  rw [hT, hS, hS]
  simp only [hS] at h1 h2
  generalize L.isortMk (L.listMk ⟨i, l.g⟩) = S at *
  have key : L.isortMk (L.listMk ⟨i + 1, l.g⟩) = S.take k ++ l.g i :: S.drop k := by
    refine List.Perm.eq_of_pairwise (le := L.leMk) (fun a b _ _ => leMk_anti) (isortMk_asc _) ?_ ?_
    · have hd : S.take k ++ S.drop k = S := List.take_append_drop k S
      have hpt : ∀ a, a ∈ S.take k → L.leMk a (l.g i) := fun a ha => by
        obtain ⟨q, hq, rfl⟩ := List.getElem_of_mem ha
        rw [List.length_take] at hq
        have h3 := h2 (by omega)
        rw [List.getElem_take]
        have h4 : L.leMk (S.getD (k - 1) ⟨0, 0, 0⟩) (l.g i) := by
          rcases leMk_total (S.getD (k - 1) ⟨0, 0, 0⟩) (l.g i) with h5 | h5
          · exact h5
          · have h6 : ¬ L.cmpMark (l.g i) (S.getD (k - 1) ⟨0, 0, 0⟩) < 0 := fun h => by rw [cmpMark_lt, h3] at h; cases h
            unfold L.leMk at h5 ⊢
            rw [cmpMk_lt] at h6
            rw [cmpMk_le] at h5 ⊢
            omega
        rw [List.getD_eq_getElem?_getD, List.getElem?_eq_getElem (by omega)] at h4
        rcases Nat.lt_or_ge q (k - 1) with hlt | hge
        · exact leMk_trans (List.pairwise_iff_getElem.1 hasc q (k - 1) (by omega) (by omega) hlt) h4
        · obtain rfl : q = k - 1 := by omega
          exact h4
      have hdp : ∀ b, b ∈ S.drop k → L.leMk (l.g i) b := fun b hb => by
        obtain ⟨q, hq, rfl⟩ := List.getElem_of_mem hb
        rw [List.length_drop] at hq
        rw [List.getElem_drop]
        have h3 := h1 (k + q) (by omega) (by omega)
        rw [List.getD_eq_getElem?_getD, List.getElem?_eq_getElem (by omega)] at h3
        exact leMk_of_lt (cmpMark_lt.2 h3)
      rw [List.pairwise_append, List.pairwise_cons]
      have hasc' := hasc
      rw [← hd, List.pairwise_append] at hasc'
      refine ⟨hasc'.1, ⟨hdp, hasc'.2.1⟩, fun a ha b hb => ?_⟩
      rcases List.mem_cons.1 hb with rfl | hb
      · exact hpt a ha
      · exact leMk_trans (hpt a ha) (hdp b hb)
    · have e : L.listMk ⟨i + 1, l.g⟩ = L.listMk ⟨i, l.g⟩ ++ [l.g i] := by
        unfold L.listMk
        show (List.range (i + 1)).map l.g = (List.range i).map l.g ++ [l.g i]
        rw [List.range_succ, List.map_append]; rfl
      refine (isortMk_perm _).trans ?_
      rw [e]
      refine (List.perm_append_comm).trans ?_
      have h3 : (S.take k ++ l.g i :: S.drop k).Perm (l.g i :: (S.take k ++ S.drop k)) := List.perm_middle
      rw [List.take_append_drop] at h3
      exact ((hperm.symm.cons (l.g i)).trans h3.symm)
  rw [key]
  exact ins_getD S (l.g i) k j (by omega) _
def r3_inOrder_p (l : (L.Sq L.Mark)) : Prop := l.n ≤ 1000000
def r3_inOrder_q (l : (L.Sq L.Mark)) : Nat → Prop := fun _ => True
def r3_inOrder_n (l : (L.Sq L.Mark)) : Nat → Nat := fun _ => l.n
def r3_inOrder_g (l : (L.Sq L.Mark)) : Nat → Nat → List SV := fun _ k => [.int .i64 (((L.sortM l).g k).edge), .int .i64 (((L.sortM l).g k).place), .int .i64 (((L.sortM l).g k).tone)]
def r3_inOrder_s : List EV → Option (Prop × (Nat → Prop) × (Nat → Nat) × (Nat → Nat → List SV))
  | [.p (.sl 3 l_n l_g)] => some ((∀ i, i < l_n → l_g i = [.int .i64 ((ofMark (l_g i)).edge), .int .i64 ((ofMark (l_g i)).place), .int .i64 ((ofMark (l_g i)).tone)]) ∧ r3_inOrder_p (⟨l_n, fun i => ofMark (l_g i)⟩ : (L.Sq L.Mark)), r3_inOrder_q (⟨l_n, fun i => ofMark (l_g i)⟩ : (L.Sq L.Mark)), r3_inOrder_n (⟨l_n, fun i => ofMark (l_g i)⟩ : (L.Sq L.Mark)), r3_inOrder_g (⟨l_n, fun i => ofMark (l_g i)⟩ : (L.Sq L.Mark)))
  | _ => none
abbrev r3_inOrder_S : SE.Spec := (specF Nat 0 87 3 r3_inOrder_s)
def r3_inOrder_C : Cfg := { muts := [], frz := lookN [(5, [35])], specs := lookS [(158, r3_earlier_S)], loops := fun _ => none, iters := lookI [], rfs := lookR [], nils := lookM [(2, [(3, 35, 87, 3)]), (9, [(6, 35, 87, 3)])] }
theorem r3_inOrder_vc (l : (L.Sq L.Mark)) (hp : r3_inOrder_p l) : vc Tryz.prog ({ r3_inOrder_C with loops := lookL [(3, { T := Nat, keep := [0], keepO := [], chg := fun i => [(3, .row 35), (4, .p (.int .i64 (i : Int)))], own := fun i => [(35, .row 87 3 i (fun k => [.int .i64 (((L.srt l i).g k).edge), .int .i64 (((L.srt l i).g k).place), .int .i64 (((L.srt l i).g k).tone)]))], inv := fun i => i ≤ l.n, mu := fun i => l.n - i }), (6, { T := Nat × Nat, keep := [0, 3, 4], keepO := [], tie := fun g => [(4, .int .i64 (g.1 : Int)), (3, .sl 3 g.1 (fun k => [.int .i64 (((L.srt l g.1).g k).edge), .int .i64 (((L.srt l g.1).g k).place), .int .i64 (((L.srt l g.1).g k).tone)]))], chg := fun g => [(5, .p (.int .i64 (g.2 : Int)))], own := fun _ => [], inv := fun g => g.1 < l.n ∧ g.2 ≤ g.1 ∧ ∀ j, g.2 ≤ j → j < g.1 → L.earlier (l.g g.1) ((L.srt l g.1).g j) = true, mu := fun g => g.2 })], rfs := lookR [] }) (bodyOf Tryz.f179) (st0 Tryz.f179 [.p (.sl 3 l.n (fun i => [.int .i64 ((l.g i).edge), .int .i64 ((l.g i).place), .int .i64 ((l.g i).tone)]))]) (retFresh Tryz.prog Tryz.f179 (Nat) (r3_inOrder_q l) 87 3 (r3_inOrder_n l) (r3_inOrder_g l)) :=
  @Eq.mpr _ ((∃ (g : Nat), (0 : Int) = (↑g : Int) ∧ (nat_lit 0 = g ∧ ∀ (i : Nat), i < nat_lit 0 → [] = [Go.SE.SV.int Go.IntKind.i64 ((L.srt l g).g i).edge, Go.SE.SV.int Go.IntKind.i64 ((L.srt l g).g i).place, Go.SE.SV.int Go.IntKind.i64 ((L.srt l g).g i).tone]) ∧ g ≤ l.n) ∧ ∀ (g : Nat), g ≤ l.n → (Decidable.decide ((↑g : Int) < (↑l.n : Int)) = Bool.true → (∃ (g_1 : Nat × Nat), (↑g : Int) = (↑g_1.2 : Int) ∧ (↑g
 : Int) = (↑g_1.1 : Int) ∧ (g = g_1.1 ∧ ∀ (i : Nat), i < g → [Go.SE.SV.int Go.IntKind.i64 ((L.srt l g).g i).edge, Go.SE.SV.int Go.IntKind.i64 ((L.srt l g).g i).place, Go.SE.SV.int Go.IntKind.i64 ((L.srt l g).g i).tone] = [Go.SE.SV.int Go.IntKind.i64 ((L.srt l g_1.1).g i).edge, Go.SE.SV.int Go.IntKind.i64 ((L.srt l g_1.1).g i).place, Go.SE.SV.int Go.IntKind.i64 ((L.srt l g_1.1).g i).tone]) ∧ g_1.1 <
 l.n ∧ g_1.2 ≤ g_1.1 ∧ ∀ (j : Nat), g_1.2 ≤ j → j < g_1.1 → L.earlier (l.g g_1.1) ((L.srt l g_1.1).g j) = Bool.true) ∧ ∀ (g_1 : Nat × Nat), ((↑g : Int) = (↑g_1.1 : Int) ∧ (g = g_1.1 ∧ ∀ (i : Nat), i < g → [Go.SE.SV.int Go.IntKind.i64 ((L.srt l g).g i).edge, Go.SE.SV.int Go.IntKind.i64 ((L.srt l g).g i).place, Go.SE.SV.int Go.IntKind.i64 ((L.srt l g).g i).tone] = [Go.SE.SV.int Go.IntKind.i64 ((L.srt
 l g_1.1).g i).edge, Go.SE.SV.int Go.IntKind.i64 ((L.srt l g_1.1).g i).place, Go.SE.SV.int Go.IntKind.i64 ((L.srt l g_1.1).g i).tone]) ∧ g_1.1 < l.n ∧ g_1.2 ≤ g_1.1 ∧ ∀ (j : Nat), g_1.2 ≤ j → j < g_1.1 → L.earlier (l.g g_1.1) ((L.srt l g_1.1).g j) = Bool.true) → (Decidable.decide ((0 : Int) < (↑g_1.2 : Int)) = Bool.true → (0 : Int) ≤ (↑g : Int) ∧ (↑g : Int) < (↑l.n : Int)) ∧ (Decidable.decide ((0 :
 Int) < (↑g_1.2 : Int)) = Bool.true → Go.SE.InK Go.IntKind.i64 ((↑g_1.2 : Int) - (1 : Int))) ∧ (Decidable.decide ((0 : Int) < (↑g_1.2 : Int)) = Bool.true → (0 : Int) ≤ (↑g_1.2 : Int) - (1 : Int) ∧ (↑g_1.2 : Int) - (1 : Int) < (↑g : Int)) ∧ (Decidable.decide ((0 : Int) < (↑g_1.2 : Int)) = Bool.true → True) ∧ ((bif Decidable.decide ((0 : Int) < (↑g_1.2 : Int)) then L.earlier (l.g (Int.toNat (↑g :
 Int))) ((L.srt l g).g (Int.toNat ((↑g_1.2 : Int) - (1 : Int)))) else Bool.false) = Bool.true → Go.SE.InK Go.IntKind.i64 ((↑g_1.2 : Int) - (1 : Int)) ∧ ∃ (g' : Nat × Nat), (↑g_1.2 : Int) - (1 : Int) = (↑g'.2 : Int) ∧ (g = g ∧ ∀ (i : Nat), i < g → [Go.SE.SV.int Go.IntKind.i64 ((L.srt l g).g i).edge, Go.SE.SV.int Go.IntKind.i64 ((L.srt l g).g i).place, Go.SE.SV.int Go.IntKind.i64 ((L.srt l g).g
 i).tone] = [Go.SE.SV.int Go.IntKind.i64 ((L.srt l g).g i).edge, Go.SE.SV.int Go.IntKind.i64 ((L.srt l g).g i).place, Go.SE.SV.int Go.IntKind.i64 ((L.srt l g).g i).tone]) ∧ (↑g : Int) = (↑g : Int) ∧ (l.n = l.n ∧ ∀ (i : Nat), i < l.n → [Go.SE.SV.int Go.IntKind.i64 (l.g i).edge, Go.SE.SV.int Go.IntKind.i64 (l.g i).place, Go.SE.SV.int Go.IntKind.i64 (l.g i).tone] = [Go.SE.SV.int Go.IntKind.i64 (l.g
 i).edge, Go.SE.SV.int Go.IntKind.i64 (l.g i).place, Go.SE.SV.int Go.IntKind.i64 (l.g i).tone]) ∧ ((↑g : Int) = (↑g'.1 : Int) ∧ (g = g'.1 ∧ ∀ (i : Nat), i < g → [Go.SE.SV.int Go.IntKind.i64 ((L.srt l g).g i).edge, Go.SE.SV.int Go.IntKind.i64 ((L.srt l g).g i).place, Go.SE.SV.int Go.IntKind.i64 ((L.srt l g).g i).tone] = [Go.SE.SV.int Go.IntKind.i64 ((L.srt l g'.1).g i).edge, Go.SE.SV.int
 Go.IntKind.i64 ((L.srt l g'.1).g i).place, Go.SE.SV.int Go.IntKind.i64 ((L.srt l g'.1).g i).tone]) ∧ g'.1 < l.n ∧ g'.2 ≤ g'.1 ∧ ∀ (j : Nat), g'.2 ≤ j → j < g'.1 → L.earlier (l.g g'.1) ((L.srt l g'.1).g j) = Bool.true) ∧ g'.2 < g_1.2) ∧ ((bif Decidable.decide ((0 : Int) < (↑g_1.2 : Int)) then L.earlier (l.g (Int.toNat (↑g : Int))) ((L.srt l g).g (Int.toNat ((↑g_1.2 : Int) - (1 : Int)))) else
 Bool.false) = Bool.false → ((0 : Int) ≤ (0 : Int) ∧ (0 : Int) ≤ (↑g_1.2 : Int) ∧ (↑g_1.2 : Int) ≤ (↑g : Int)) ∧ (nat_lit 0 + Int.toNat ((↑g_1.2 : Int) - (0 : Int))) * nat_lit 24 ≤ (140737488355328 : Nat) ∧ ((0 : Int) ≤ (↑g : Int) ∧ (↑g : Int) < (↑l.n : Int)) ∧ (nat_lit 0 + Int.toNat ((↑g_1.2 : Int) - (0 : Int)) + nat_lit 1) * nat_lit 24 ≤ (140737488355328 : Nat) ∧ ((0 : Int) ≤ (↑g_1.2 : Int) ∧
 (↑g_1.2 : Int) ≤ (↑g : Int) ∧ (↑g : Int) ≤ (↑g : Int)) ∧ (nat_lit 0 + Int.toNat ((↑g_1.2 : Int) - (0 : Int)) + nat_lit 1 + Int.toNat ((↑g : Int) - (↑g_1.2 : Int))) * nat_lit 24 ≤ (140737488355328 : Nat) ∧ Go.SE.InK Go.IntKind.i64 ((↑g : Int) + (1 : Int)) ∧ ∃ (g' : Nat), (↑g : Int) + (1 : Int) = (↑g' : Int) ∧ (l.n = l.n ∧ ∀ (i : Nat), i < l.n → [Go.SE.SV.int Go.IntKind.i64 (l.g i).edge,
 Go.SE.SV.int Go.IntKind.i64 (l.g i).place, Go.SE.SV.int Go.IntKind.i64 (l.g i).tone] = [Go.SE.SV.int Go.IntKind.i64 (l.g i).edge, Go.SE.SV.int Go.IntKind.i64 (l.g i).place, Go.SE.SV.int Go.IntKind.i64 (l.g i).tone]) ∧ (nat_lit 0 + Int.toNat ((↑g_1.2 : Int) - (0 : Int)) + nat_lit 1 + Int.toNat ((↑g : Int) - (↑g_1.2 : Int)) = g' ∧ ∀ (i : Nat), i < nat_lit 0 + Int.toNat ((↑g_1.2 : Int) - (0 : Int)) +
 nat_lit 1 + Int.toNat ((↑g : Int) - (↑g_1.2 : Int)) → Go.SE.appGet (nat_lit 0 + Int.toNat ((↑g_1.2 : Int) - (0 : Int)) + nat_lit 1) (Go.SE.appGet (nat_lit 0 + Int.toNat ((↑g_1.2 : Int) - (0 : Int))) (Go.SE.appGet (nat_lit 0) (fun (x : Nat) ↦ []) fun (i : Nat) ↦ [Go.SE.SV.int Go.IntKind.i64 ((L.srt l g).g (Int.toNat (0 : Int) + i)).edge, Go.SE.SV.int Go.IntKind.i64 ((L.srt l g).g (Int.toNat (0 :
 Int) + i)).place, Go.SE.SV.int Go.IntKind.i64 ((L.srt l g).g (Int.toNat (0 : Int) + i)).tone]) fun (x : Nat) ↦ [Go.SE.SV.int Go.IntKind.i64 (l.g (Int.toNat (↑g : Int))).edge, Go.SE.SV.int Go.IntKind.i64 (l.g (Int.toNat (↑g : Int))).place, Go.SE.SV.int Go.IntKind.i64 (l.g (Int.toNat (↑g : Int))).tone]) (fun (i : Nat) ↦ [Go.SE.SV.int Go.IntKind.i64 ((L.srt l g).g (Int.toNat (↑g_1.2 : Int) +
 i)).edge, Go.SE.SV.int Go.IntKind.i64 ((L.srt l g).g (Int.toNat (↑g_1.2 : Int) + i)).place, Go.SE.SV.int Go.IntKind.i64 ((L.srt l g).g (Int.toNat (↑g_1.2 : Int) + i)).tone]) i = [Go.SE.SV.int Go.IntKind.i64 ((L.srt l g').g i).edge, Go.SE.SV.int Go.IntKind.i64 ((L.srt l g').g i).place, Go.SE.SV.int Go.IntKind.i64 ((L.srt l g').g i).tone]) ∧ g' ≤ l.n ∧ l.n - g' < l.n - g)) ∧ (Decidable.decide ((↑g :
 Int) < (↑l.n : Int)) = Bool.false → ∃ (t : Nat), (g = l.n ∧ ∀ (i : Nat), i < g → [Go.SE.SV.int Go.IntKind.i64 ((L.srt l g).g i).edge, Go.SE.SV.int Go.IntKind.i64 ((L.srt l g).g i).place, Go.SE.SV.int Go.IntKind.i64 ((L.srt l g).g i).tone] = [Go.SE.SV.int Go.IntKind.i64 ((L.sortM l).g i).edge, Go.SE.SV.int Go.IntKind.i64 ((L.sortM l).g i).place, Go.SE.SV.int Go.IntKind.i64 ((L.sortM l).g i).tone])
 ∧ True)) (by kernel_rfl) (by
    have hn : l.n ≤ 1000000 := hp
    have A : ∀ (n : Nat) (f1 f2 : Nat → List SV) (i : Nat), i < n → appGet n f1 f2 i = f1 i := fun n f1 f2 i h => if_pos h
    have B : ∀ (n : Nat) (f1 f2 : Nat → List SV) (i : Nat), ¬ i < n → appGet n f1 f2 i = f2 (i - n) := fun n f1 f2 i h => if_neg h
    refine ⟨⟨(0 : Nat), rfl, ⟨rfl, fun i hi => absurd hi (Nat.not_lt_zero _)⟩, Nat.zero_le _⟩, fun g hg => ⟨fun hlt => ?_, fun hge => ?_⟩⟩
    · have hb : (g : Int) < (l.n : Int) := of_decide_eq_true hlt
      have e0 : ((g : Int)).toNat = g := Int.toNat_natCast g
      rw [e0]
      refine ⟨⟨(g, g), rfl, rfl, ⟨rfl, fun _ _ => rfl⟩, show g < l.n by omega, Nat.le_refl _, fun j h1 h2 => absurd (show j < g from h2) (Nat.not_lt.2 h1)⟩, fun q hq => ?_⟩
      obtain ⟨i, k⟩ := q
      obtain ⟨_, ⟨e1, _⟩, q2, q3, q4⟩ := hq
      have e1 : g = i := e1
      subst e1
      have q3 : k ≤ g := q3
      have q4 : ∀ j, k ≤ j → j < g → L.earlier (l.g g) ((L.srt l g).g j) = true := q4
      have e3 : ((k : Int) - 1).toNat = k - 1 := by omega
      rw [e3]
      refine ⟨fun _ => ⟨by omega, hb⟩, fun h => ?_, fun h => ?_, fun _ => trivial, fun h => ?_, fun h => ?_⟩
      · have := of_decide_eq_true h
        exact InK.of (by omega) (by omega)
      · have h : (0 : Int) < (k : Int) := of_decide_eq_true h
        exact ⟨show (0 : Int) ≤ (k : Int) - 1 by omega, show (k : Int) - 1 < (g : Int) by omega⟩
      · have h : (bif decide (0 < (k : Int)) then L.earlier (l.g g) ((L.srt l g).g (k - 1)) else false) = true := h
        rw [band, Bool.and_eq_true] at h
        have hk : (0 : Int) < (k : Int) := of_decide_eq_true h.1
        refine ⟨InK.of (show _ ≤ (k : Int) - 1 by omega) (show (k : Int) - 1 ≤ _ by omega), (g, k - 1), show (k : Int) - 1 = ((k - 1 : Nat) : Int) by omega, ⟨rfl, fun _ _ => rfl⟩, rfl, ⟨rfl, fun _ _ => rfl⟩, ⟨rfl, ⟨rfl, fun _ _ => rfl⟩, show g < l.n by omega, show k - 1 ≤ g by omega, fun j h1 h2 => ?_⟩, show k - 1 < k by omega⟩
        have h1 : k - 1 ≤ j := h1
        rcases Nat.lt_or_ge j k with h3 | h3
        · obtain rfl : j = k - 1 := by omega
          exact h.2
        · exact q4 j h3 h2
      · have h : (bif decide (0 < (k : Int)) then L.earlier (l.g g) ((L.srt l g).g (k - 1)) else false) = false := h
        have h2 : 0 < k → L.earlier (l.g g) ((L.srt l g).g (k - 1)) = false := fun hk => by
          rw [decide_eq_true (show (0 : Int) < (k : Int) by omega)] at h
          exact h
        have e4 : ((k : Int) - 0).toNat = k := by omega
        have e5 : ((g : Int) - (k : Int)).toNat = g - k := by omega
        rw [e4, e5]
        refine ⟨⟨Int.le_refl _, show (0 : Int) ≤ (k : Int) by omega, show (k : Int) ≤ (g : Int) by omega⟩, show (0 + k) * 24 ≤ 140737488355328 by omega, ⟨by omega, hb⟩, show (0 + k + 1) * 24 ≤ 140737488355328 by omega, ⟨show (0 : Int) ≤ (k : Int) by omega, show (k : Int) ≤ (g : Int) by omega, Int.le_refl _⟩, show (0 + k + 1 + (g - k)) * 24 ≤ 140737488355328 by omega, InK.of (by omega) (by omega), g + 1, by omega, ⟨rfl, fun _ _ => rfl⟩, ⟨show 0 + k + 1 + (g - k) = g + 1 by omega, fun i hi => ?_⟩, by omega, by omega⟩
        rw [ins_at q3 q4 h2 i]
        by_cases c1 : i < k
        · rw [if_pos c1, A _ _ _ _ (show i < 0 + k + 1 by omega), A _ _ _ _ (show i < 0 + k by omega), B _ _ _ _ (Nat.not_lt_zero i)]
          show ([.int .i64 (((L.srt l g).g (0 + (i - 0))).edge), .int .i64 (((L.srt l g).g (0 + (i - 0))).place), .int .i64 (((L.srt l g).g (0 + (i - 0))).tone)] : List SV) = _
          rw [Nat.sub_zero, Nat.zero_add]
        · rw [if_neg c1]
          by_cases c2 : i = k
          · rw [if_pos c2, A _ _ _ _ (show i < 0 + k + 1 by omega), B _ _ _ _ (show ¬ i < 0 + k by omega)]
          · rw [if_neg c2, B _ _ _ _ (show ¬ i < 0 + k + 1 by omega)]
            show ([.int .i64 (((L.srt l g).g ((k : Int).toNat + (i - (0 + k + 1)))).edge), .int .i64 (((L.srt l g).g ((k : Int).toNat + (i - (0 + k + 1)))).place), .int .i64 (((L.srt l g).g ((k : Int).toNat + (i - (0 + k + 1)))).tone)] : List SV) = _
            rw [show (k : Int).toNat + (i - (0 + k + 1)) = i - 1 by omega]
    · have hb : ¬ (g : Int) < (l.n : Int) := of_decide_eq_false hge
      obtain rfl : g = l.n := by omega
      exact ⟨(0 : Nat), ⟨rfl, fun _ _ => rfl⟩, trivial⟩)
theorem r3_inOrder_ok : SpecOk Tryz.prog 179 r3_inOrder_S := freshX Tryz.func179 (c := bodyOf Tryz.f179) (by kernel_rfl) mixed (fun args p q n g hs hp => by
  unfold r3_inOrder_s at hs
  split at hs
  · cases hs; exact ⟨_, _, r3_inOrder_vc _ hp.2, (.p (.sl hp.1) .nil), ⟨show SpecsL Tryz.prog _ from (SpecsL.cons r3_earlier_ok r3_earlier_en SpecsL.nil), rfl, ⟨show ItersL Tryz.prog _ from ItersL.nil, (TrsOk.none (fun _ => rfl))⟩⟩⟩
  · cases hs)
theorem r3_inOrder_en : Enters Tryz.prog 179 := fun args w => by kernel_rfl
def r3_shown_p (l : (L.Sq L.Mark)) (s : L.Setting) (n : Int) : Prop := l.n ≤ 1000000 ∧ L.validSet s n = true ∧ ∀ k, k < l.n → (0 ≤ (l.g k).edge ∧ (l.g k).edge < n) ∧ 0 ≤ (l.g k).place ∧ (l.g k).place ≤ 16
def r3_shown_q (l : (L.Sq L.Mark)) (s : L.Setting) (n : Int) : Nat → Prop := fun _ => True
def r3_shown_n (l : (L.Sq L.Mark)) (s : L.Setting) (n : Int) : Nat → Nat := fun _ => l.n
def r3_shown_g (l : (L.Sq L.Mark)) (s : L.Setting) (n : Int) : Nat → Nat → List SV := fun _ k => [.int .i64 (((L.sortM (L.rsMs l s n.toNat)).g k).edge), .int .i64 (((L.sortM (L.rsMs l s n.toNat)).g k).place), .int .i64 (((L.sortM (L.rsMs l s n.toNat)).g k).tone)]
def r3_shown_s : List EV → Option (Prop × (Nat → Prop) × (Nat → Nat) × (Nat → Nat → List SV))
  | [.p (.sl 3 l_n l_g), .p (.agg [.int .i64 s_shift, .bool s_back]), .p (.int .i64 n)] => some ((∀ i, i < l_n → l_g i = [.int .i64 ((ofMark (l_g i)).edge), .int .i64 ((ofMark (l_g i)).place), .int .i64 ((ofMark (l_g i)).tone)]) ∧ r3_shown_p (⟨l_n, fun i => ofMark (l_g i)⟩ : (L.Sq L.Mark)) (⟨s_shift, s_back⟩ : L.Setting) n, r3_shown_q (⟨l_n, fun i => ofMark (l_g i)⟩ : (L.Sq L.Mark)) (⟨s_shift, s_back⟩ : L.Setting) n, r3_shown_n (⟨l_n, fun i => ofMark (l_g i)⟩ : (L.Sq L.Mark)) (⟨s_shift, s_back⟩ : L.Setting) n, r3_shown_g (⟨l_n, fun i => ofMark (l_g i)⟩ : (L.Sq L.Mark)) (⟨s_shift, s_back⟩ : L.Setting) n)
  | _ => none
abbrev r3_shown_S : SE.Spec := (specF Nat 0 87 3 r3_shown_s)
def r3_shown_C : Cfg := { muts := [9, 37], frz := lookN [], specs := lookS [(130, r1_Laid_S), (179, r3_inOrder_S)], loops := fun _ => none, iters := lookI [], rfs := lookR [], nils := lookM [(2, [(7, 35, 87, 3)])] }
theorem r3_shown_vc (l : (L.Sq L.Mark)) (s : L.Setting) (n : Int) (hp : r3_shown_p l s n) : vc Tryz.prog ({ r3_shown_C with loops := lookL [(3, { T := Nat, keep := [0, 2, 4, 7], keepO := [], chg := fun i => [(8, .p (.int .i64 (i : Int)))], own := fun i => [(35, .row 87 3 i (fun k => [.int .i64 ((L.rsM1 s n.toNat (l.g k)).edge), .int .i64 ((L.rsM1 s n.toNat (l.g k)).place), .int .i64 ((L.rsM1 s n.toNat (l.g k)).tone)]))], inv := fun i => i ≤ l.n, mu := fun i => l.n - i })], rfs := lookR [] }) (bodyOf Tryz.f131) (st0 Tryz.f131 [.p (.sl 3 l.n (fun i => [.int .i64 ((l.g i).edge), .int .i64 ((l.g i).place), .int .i64 ((l.g i).tone)])), .p (.agg [.int .i64 s.shift, .bool s.back]), .p (.int .i64 n)]) (retFresh Tryz.prog Tryz.f131 (Nat) (r3_shown_q l s n) 87 3 (r3_shown_n l s n) (r3_shown_g l s n)) :=
  @Eq.mpr _ ((∃ (g : Nat), (0 : Int) = (↑g : Int) ∧ (nat_lit 0 = g ∧ ∀ (i : Nat), i < nat_lit 0 → [] = [Go.SE.SV.int Go.IntKind.i64 (L.rsM1 s (Int.toNat n) (l.g i)).edge, Go.SE.SV.int Go.IntKind.i64 (L.rsM1 s (Int.toNat n) (l.g i)).place, Go.SE.SV.int Go.IntKind.i64 (L.rsM1 s (Int.toNat n) (l.g i)).tone]) ∧ g ≤ l.n) ∧ ∀ (g : Nat), g ≤ l.n → (Decidable.decide ((↑g : Int) < (↑l.n : Int)) = Bool.true → ((0 : Int)
 ≤ (↑g : Int) ∧ (↑g : Int) < (↑l.n : Int)) ∧ ((1 : Int) ≤ n ∧ n ≤ (1000000 : Int) ∧ (-1000000 : Int) ≤ s.shift ∧ s.shift ≤ (1000000 : Int) ∧ (-1000000 : Int) ≤ (l.g (Int.toNat (↑g : Int))).edge ∧ (l.g (Int.toNat (↑g : Int))).edge ≤ (1000000 : Int)) ∧ (s.back = Bool.true → Go.SE.InK Go.IntKind.i64 ((16 : Int) - (l.g (Int.toNat (↑g : Int))).place) ∧ (g + nat_lit 1) * nat_lit 24 ≤ (140737488355328 :
 Nat) ∧ Go.SE.InK Go.IntKind.i64 ((↑g : Int) + (1 : Int)) ∧ ∃ (g' : Nat), (↑g : Int) + (1 : Int) = (↑g' : Int) ∧ Go.SE.SV.ref [Go.SE.SV.int Go.IntKind.i64 s.shift, Go.SE.SV.bool s.back] (nat_lit 0) = Go.SE.SV.ref [Go.SE.SV.int Go.IntKind.i64 s.shift, Go.SE.SV.bool s.back] (nat_lit 0) ∧ (l.n = l.n ∧ ∀ (i : Nat), i < l.n → [Go.SE.SV.int Go.IntKind.i64 (l.g i).edge, Go.SE.SV.int Go.IntKind.i64 (l.g
 i).place, Go.SE.SV.int Go.IntKind.i64 (l.g i).tone] = [Go.SE.SV.int Go.IntKind.i64 (l.g i).edge, Go.SE.SV.int Go.IntKind.i64 (l.g i).place, Go.SE.SV.int Go.IntKind.i64 (l.g i).tone]) ∧ n = n ∧ (g + nat_lit 1 = g' ∧ ∀ (i : Nat), i < g + nat_lit 1 → Go.SE.appGet g (fun (k : Nat) ↦ [Go.SE.SV.int Go.IntKind.i64 (L.rsM1 s (Int.toNat n) (l.g k)).edge, Go.SE.SV.int Go.IntKind.i64 (L.rsM1 s (Int.toNat n)
 (l.g k)).place, Go.SE.SV.int Go.IntKind.i64 (L.rsM1 s (Int.toNat n) (l.g k)).tone]) (fun (x : Nat) ↦ [Go.SE.SV.int Go.IntKind.i64 (L.lay s n (l.g (Int.toNat (↑g : Int))).edge), Go.SE.SV.int Go.IntKind.i64 ((16 : Int) - (l.g (Int.toNat (↑g : Int))).place), Go.SE.SV.int Go.IntKind.i64 (l.g (Int.toNat (↑g : Int))).tone]) i = [Go.SE.SV.int Go.IntKind.i64 (L.rsM1 s (Int.toNat n) (l.g i)).edge,
 Go.SE.SV.int Go.IntKind.i64 (L.rsM1 s (Int.toNat n) (l.g i)).place, Go.SE.SV.int Go.IntKind.i64 (L.rsM1 s (Int.toNat n) (l.g i)).tone]) ∧ g' ≤ l.n ∧ l.n - g' < l.n - g) ∧ (s.back = Bool.false → (g + nat_lit 1) * nat_lit 24 ≤ (140737488355328 : Nat) ∧ Go.SE.InK Go.IntKind.i64 ((↑g : Int) + (1 : Int)) ∧ ∃ (g' : Nat), (↑g : Int) + (1 : Int) = (↑g' : Int) ∧ Go.SE.SV.ref [Go.SE.SV.int Go.IntKind.i64
 s.shift, Go.SE.SV.bool s.back] (nat_lit 0) = Go.SE.SV.ref [Go.SE.SV.int Go.IntKind.i64 s.shift, Go.SE.SV.bool s.back] (nat_lit 0) ∧ (l.n = l.n ∧ ∀ (i : Nat), i < l.n → [Go.SE.SV.int Go.IntKind.i64 (l.g i).edge, Go.SE.SV.int Go.IntKind.i64 (l.g i).place, Go.SE.SV.int Go.IntKind.i64 (l.g i).tone] = [Go.SE.SV.int Go.IntKind.i64 (l.g i).edge, Go.SE.SV.int Go.IntKind.i64 (l.g i).place, Go.SE.SV.int
 Go.IntKind.i64 (l.g i).tone]) ∧ n = n ∧ (g + nat_lit 1 = g' ∧ ∀ (i : Nat), i < g + nat_lit 1 → Go.SE.appGet g (fun (k : Nat) ↦ [Go.SE.SV.int Go.IntKind.i64 (L.rsM1 s (Int.toNat n) (l.g k)).edge, Go.SE.SV.int Go.IntKind.i64 (L.rsM1 s (Int.toNat n) (l.g k)).place, Go.SE.SV.int Go.IntKind.i64 (L.rsM1 s (Int.toNat n) (l.g k)).tone]) (fun (x : Nat) ↦ [Go.SE.SV.int Go.IntKind.i64 (L.lay s n (l.g
 (Int.toNat (↑g : Int))).edge), Go.SE.SV.int Go.IntKind.i64 (l.g (Int.toNat (↑g : Int))).place, Go.SE.SV.int Go.IntKind.i64 (l.g (Int.toNat (↑g : Int))).tone]) i = [Go.SE.SV.int Go.IntKind.i64 (L.rsM1 s (Int.toNat n) (l.g i)).edge, Go.SE.SV.int Go.IntKind.i64 (L.rsM1 s (Int.toNat n) (l.g i)).place, Go.SE.SV.int Go.IntKind.i64 (L.rsM1 s (Int.toNat n) (l.g i)).tone]) ∧ g' ≤ l.n ∧ l.n - g' < l.n - g))
 ∧ (Decidable.decide ((↑g : Int) < (↑l.n : Int)) = Bool.false → ((∀ (i : Nat), i < g → [Go.SE.SV.int Go.IntKind.i64 (L.rsM1 s (Int.toNat n) (l.g i)).edge, Go.SE.SV.int Go.IntKind.i64 (L.rsM1 s (Int.toNat n) (l.g i)).place, Go.SE.SV.int Go.IntKind.i64 (L.rsM1 s (Int.toNat n) (l.g i)).tone] = [Go.SE.SV.int Go.IntKind.i64 (L.rsM1 s (Int.toNat n) (l.g i)).edge, Go.SE.SV.int Go.IntKind.i64 (L.rsM1 s
 (Int.toNat n) (l.g i)).place, Go.SE.SV.int Go.IntKind.i64 (L.rsM1 s (Int.toNat n) (l.g i)).tone]) ∧ g ≤ (1000000 : Nat)) ∧ ∀ (t : Nat), True → (∀ (i : Nat), i < g → (Bool.true && (Bool.true && (Bool.true && Bool.true))) = Bool.true) ∧ ∃ (t : Nat), (g = l.n ∧ ∀ (i : Nat), i < g → [Go.SE.SV.int Go.IntKind.i64 ((L.sortM (L.Sq.mk g fun (i : Nat) ↦ L.rsM1 s (Int.toNat n) (l.g i))).g i).edge,
 Go.SE.SV.int Go.IntKind.i64 ((L.sortM (L.Sq.mk g fun (i : Nat) ↦ L.rsM1 s (Int.toNat n) (l.g i))).g i).place, Go.SE.SV.int Go.IntKind.i64 ((L.sortM (L.Sq.mk g fun (i : Nat) ↦ L.rsM1 s (Int.toNat n) (l.g i))).g i).tone] = [Go.SE.SV.int Go.IntKind.i64 ((L.sortM (L.rsMs l s (Int.toNat n))).g i).edge, Go.SE.SV.int Go.IntKind.i64 ((L.sortM (L.rsMs l s (Int.toNat n))).g i).place, Go.SE.SV.int
 Go.IntKind.i64 ((L.sortM (L.rsMs l s (Int.toNat n))).g i).tone]) ∧ True)) (by kernel_rfl) (by
    obtain ⟨hn, hs, hm⟩ := hp
    have hv := validSet_iff.1 hs
    have en : ((n.toNat : Nat) : Int) = n := by omega
    refine ⟨⟨(0 : Nat), rfl, ⟨rfl, fun i hi => absurd hi (Nat.not_lt_zero _)⟩, Nat.zero_le _⟩, fun g hg => ⟨fun hlt => ?_, fun hge => ?_⟩⟩
    · have hb : (g : Int) < (l.n : Int) := of_decide_eq_true hlt
      have e0 : ((g : Int)).toNat = g := Int.toNat_natCast g
      rw [e0]
      have m := hm g (by omega)
      have app : ∀ v : L.Mark, v = L.rsM1 s n.toNat (l.g g) → ∀ i, i < g + 1 → appGet g (fun (k : Nat) => [.int .i64 ((L.rsM1 s n.toNat (l.g k)).edge), .int .i64 ((L.rsM1 s n.toNat (l.g k)).place), .int .i64 ((L.rsM1 s n.toNat (l.g k)).tone)]) (fun (x : Nat) => [.int .i64 v.edge, .int .i64 v.place, .int .i64 v.tone]) i = [.int .i64 ((L.rsM1 s n.toNat (l.g i)).edge), .int .i64 ((L.rsM1 s n.toNat (l.g i)).place), .int .i64 ((L.rsM1 s n.toNat (l.g i)).tone)] := fun v hv i hi => by
        unfold appGet
        by_cases h : i < g
        · rw [if_pos h]
        · rw [if_neg h, hv]
          obtain rfl : i = g := by omega
          rfl
      refine ⟨⟨by omega, hb⟩, ⟨by omega, by omega, by omega, by omega, by omega, by omega⟩, fun hk => ?_, fun hk => ?_⟩
      · have w := app ⟨L.lay s n (l.g g).edge, 16 - (l.g g).place, (l.g g).tone⟩ (by unfold L.rsM1; rw [hk, en]; rfl)
        exact ⟨InK.of (by omega) (by omega), show (g + 1) * 24 ≤ 140737488355328 by omega, InK.of (by omega) (by omega), g + 1, by omega, rfl, ⟨rfl, fun _ _ => rfl⟩, rfl, ⟨rfl, w⟩, by omega, by omega⟩
      · have w := app ⟨L.lay s n (l.g g).edge, (l.g g).place, (l.g g).tone⟩ (by unfold L.rsM1; rw [hk, en]; rfl)
        exact ⟨show (g + 1) * 24 ≤ 140737488355328 by omega, InK.of (by omega) (by omega), g + 1, by omega, rfl, ⟨rfl, fun _ _ => rfl⟩, rfl, ⟨rfl, w⟩, by omega, by omega⟩
    · have hb : ¬ (g : Int) < (l.n : Int) := of_decide_eq_false hge
      obtain rfl : g = l.n := by omega
      exact ⟨⟨fun _ _ => rfl, hn⟩, fun t _ => ⟨fun _ _ => rfl, (0 : Nat), ⟨rfl, fun _ _ => rfl⟩, trivial⟩⟩)
theorem r3_shown_ok : SpecOk Tryz.prog 131 r3_shown_S := freshX Tryz.func131 (c := bodyOf Tryz.f131) (by kernel_rfl) mixed (fun args p q n g hs hp => by
  unfold r3_shown_s at hs
  split at hs
  · cases hs; exact ⟨_, _, r3_shown_vc _ _ _ hp.2, (.p (.sl hp.1) (.same _ (.same _ .nil))), ⟨show SpecsL Tryz.prog _ from (SpecsL.cons r1_Laid_ok r1_Laid_en (SpecsL.cons r3_inOrder_ok r3_inOrder_en SpecsL.nil)), rfl, ⟨show ItersL Tryz.prog _ from ItersL.nil, (TrsOk.none (fun _ => rfl))⟩⟩⟩
  · cases hs)
theorem r3_shown_en : Enters Tryz.prog 131 := fun args w => by kernel_rfl
def r3_reset_p (p : L.Piece) (s : L.Setting) : Prop := L.validPiece p = true ∧ L.validSet s p.gauges.n = true
def r3_reset_r (p : L.Piece) (s : L.Setting) : SV := (.agg [.int .i64 ((L.rs p s).id), .int .i64 ((L.rs p s).colour), .int .i64 ((L.rs p s).rev), .int .i64 ((L.rs p s).made), .int .i64 ((L.rs p s).swell), .sl 5 (L.rs p s).gauges.n (fun i => [.int .i64 (((L.rs p s).gauges.g i).edge.lo), .int .i64 (((L.rs p s).gauges.g i).edge.hi), .int .i64 (((L.rs p s).gauges.g i).across.lo), .int .i64 (((L.rs p s).gauges.g i).across.hi), .int .i64 (((L.rs p s).gauges.g i).bend)]), .sl 3 (L.rs p s).marks.n (fun i => [.int .i64 (((L.rs p s).marks.g i).edge), .int .i64 (((L.rs p s).marks.g i).place), .int .i64 (((L.rs p s).marks.g i).tone)])])
def r3_reset_s : List EV → Option (Prop × SV)
  | [.p (.agg [.int .i64 p_id, .int .i64 p_colour, .int .i64 p_rev, .int .i64 p_made, .int .i64 p_swell, .sl 5 p_gauges_n p_gauges_g, .sl 3 p_marks_n p_marks_g]), .p (.agg [.int .i64 s_shift, .bool s_back])] => some ((∀ i, i < p_gauges_n → p_gauges_g i = [.int .i64 ((ofGauge (p_gauges_g i)).edge.lo), .int .i64 ((ofGauge (p_gauges_g i)).edge.hi), .int .i64 ((ofGauge (p_gauges_g i)).across.lo), .int .i64 ((ofGauge (p_gauges_g i)).across.hi), .int .i64 ((ofGauge (p_gauges_g i)).bend)]) ∧ (∀ i, i < p_marks_n → p_marks_g i = [.int .i64 ((ofMark (p_marks_g i)).edge), .int .i64 ((ofMark (p_marks_g i)).place), .int .i64 ((ofMark (p_marks_g i)).tone)]) ∧ r3_reset_p (⟨p_id, p_colour, p_rev, p_made, p_swell, (⟨p_gauges_n, fun i => ofGauge (p_gauges_g i)⟩ : (L.Sq L.Gauge)), (⟨p_marks_n, fun i => ofMark (p_marks_g i)⟩ : (L.Sq L.Mark))⟩ : L.Piece) (⟨s_shift, s_back⟩ : L.Setting), r3_reset_r (⟨p_id, p_colour, p_rev, p_made, p_swell, (⟨p_gauges_n, fun i => ofGauge (p_gauges_g i)⟩ : (L.Sq L.Gauge)), (⟨p_marks_n, fun i => ofMark (p_marks_g i)⟩ : (L.Sq L.Mark))⟩ : L.Piece) (⟨s_shift, s_back⟩ : L.Setting))
  | _ => none
abbrev r3_reset_S : SE.Spec := (specO r3_reset_s)
def r3_reset_C : Cfg := { muts := [4, 6, 8, 14], frz := lookN [(13, [14])], specs := lookS [(130, r1_Laid_S), (131, r3_shown_S)], loops := fun _ => none, iters := lookI [], rfs := lookR [], nils := lookM [] }
theorem r3_reset_vc (p : L.Piece) (s : L.Setting) (hp : r3_reset_p p s) : vc Tryz.prog ({ r3_reset_C with loops := lookL [(5, { T := Nat, keep := [2, 3, 4, 5, 6], keepO := [4, 6], chg := fun i => [(7, .p (.int .i64 (i : Int)))], own := fun i => [(14, .row 92 5 p.gauges.n (fun j => [.int .i64 ((L.rsTo p s i j).edge.lo), .int .i64 ((L.rsTo p s i j).edge.hi), .int .i64 ((L.rsTo p s i j).across.lo), .int .i64 ((L.rsTo p s i j).across.hi), .int .i64 ((L.rsTo p s i j).bend)]))], inv := fun i => i ≤ p.gauges.n, mu := fun i => p.gauges.n - i })], rfs := lookR [] }) (bodyOf Tryz.f63) (st0 Tryz.f63 [.p (.agg [.int .i64 p.id, .int .i64 p.colour, .int .i64 p.rev, .int .i64 p.made, .int .i64 p.swell, .sl 5 p.gauges.n (fun i => [.int .i64 ((p.gauges.g i).edge.lo), .int .i64 ((p.gauges.g i).edge.hi), .int .i64 ((p.gauges.g i).across.lo), .int .i64 ((p.gauges.g i).across.hi), .int .i64 ((p.gauges.g i).bend)]), .sl 3 p.marks.n (fun i => [.int .i64 ((p.marks.g i).edge), .int .i64 ((p.marks.g i).place), .int .i64 ((p.marks.g i).tone)])]), .p (.agg [.int .i64 s.shift, .bool s.back])]) (retFn Tryz.prog Tryz.f63 (r3_reset_r p s)) :=
  @Eq.mpr _ (((0 : Int) ≤ (↑p.gauges.n : Int) ∧ (↑p.gauges.n : Int) ≤ (↑p.gauges.n : Int) ∧ (↑p.gauges.n : Int) * (↑(nat_lit 40) : Int) ≤ (140737488355328 : Int)) ∧ (∃ (g : Nat), (0 : Int) = (↑g : Int) ∧ (Int.toNat (↑p.gauges.n : Int) = p.gauges.n ∧ ∀ (i : Nat), i < Int.toNat (↑p.gauges.n : Int) → [Go.SE.SV.int Go.IntKind.i64 (0 : Int), Go.SE.SV.int Go.IntKind.i64 (0 : Int), Go.SE.SV.int Go.IntKind.i64 (0 :
 Int), Go.SE.SV.int Go.IntKind.i64 (0 : Int), Go.SE.SV.int Go.IntKind.i64 (0 : Int)] = [Go.SE.SV.int Go.IntKind.i64 (L.rsTo p s g i).edge.lo, Go.SE.SV.int Go.IntKind.i64 (L.rsTo p s g i).edge.hi, Go.SE.SV.int Go.IntKind.i64 (L.rsTo p s g i).across.lo, Go.SE.SV.int Go.IntKind.i64 (L.rsTo p s g i).across.hi, Go.SE.SV.int Go.IntKind.i64 (L.rsTo p s g i).bend]) ∧ g ≤ p.gauges.n) ∧ ∀ (g : Nat), g ≤
 p.gauges.n → (Decidable.decide ((↑g : Int) < (↑p.gauges.n : Int)) = Bool.true → ((0 : Int) ≤ (↑g : Int) ∧ (↑g : Int) < (↑p.gauges.n : Int)) ∧ (s.back = Bool.true → Go.SE.InK Go.IntKind.i64 ((↑g : Int) + (↑p.gauges.n : Int)) ∧ Go.SE.InK Go.IntKind.i64 ((↑g : Int) + (↑p.gauges.n : Int) - (1 : Int)) ∧ (↑p.gauges.n : Int) ≠ (0 : Int) ∧ ((0 : Int) ≤ Int.tmod ((↑g : Int) + (↑p.gauges.n : Int) - (1 :
 Int)) (↑p.gauges.n : Int) ∧ Int.tmod ((↑g : Int) + (↑p.gauges.n : Int) - (1 : Int)) (↑p.gauges.n : Int) < (↑p.gauges.n : Int)) ∧ Go.SE.InK Go.IntKind.i64 ((↑g : Int) + (↑p.gauges.n : Int)) ∧ Go.SE.InK Go.IntKind.i64 ((↑g : Int) + (↑p.gauges.n : Int) - (1 : Int)) ∧ (↑p.gauges.n : Int) ≠ (0 : Int) ∧ ((0 : Int) ≤ Int.tmod ((↑g : Int) + (↑p.gauges.n : Int) - (1 : Int)) (↑p.gauges.n : Int) ∧ Int.tmod
 ((↑g : Int) + (↑p.gauges.n : Int) - (1 : Int)) (↑p.gauges.n : Int) < (↑p.gauges.n : Int)) ∧ ((1 : Int) ≤ (↑p.gauges.n : Int) ∧ (↑p.gauges.n : Int) ≤ (1000000 : Int) ∧ (-1000000 : Int) ≤ s.shift ∧ s.shift ≤ (1000000 : Int) ∧ (-1000000 : Int) ≤ (↑g : Int) ∧ (↑g : Int) ≤ (1000000 : Int)) ∧ ((0 : Int) ≤ L.lay s (↑p.gauges.n : Int) (↑g : Int) ∧ L.lay s (↑p.gauges.n : Int) (↑g : Int) < (↑p.gauges.n :
 Int)) ∧ Int.toNat (L.lay s (↑p.gauges.n : Int) (↑g : Int)) < p.gauges.n ∧ Go.SE.InK Go.IntKind.i64 ((↑g : Int) + (1 : Int)) ∧ ∃ (g' : Nat), (↑g : Int) + (1 : Int) = (↑g' : Int) ∧ nat_lit 0 = nat_lit 0 ∧ (↑p.gauges.n : Int) = (↑p.gauges.n : Int) ∧ nat_lit 0 = nat_lit 0 ∧ Go.SE.SV.ref [Go.SE.SV.int Go.IntKind.i64 s.shift, Go.SE.SV.bool s.back] (nat_lit 0) = Go.SE.SV.ref [Go.SE.SV.int Go.IntKind.i64
 s.shift, Go.SE.SV.bool s.back] (nat_lit 0) ∧ Go.SE.SV.ref [Go.SE.SV.int Go.IntKind.i64 p.id, Go.SE.SV.int Go.IntKind.i64 p.colour, Go.SE.SV.int Go.IntKind.i64 p.rev, Go.SE.SV.int Go.IntKind.i64 p.made, Go.SE.SV.int Go.IntKind.i64 p.swell, Go.SE.SV.sl (nat_lit 5) p.gauges.n fun (i : Nat) ↦ [Go.SE.SV.int Go.IntKind.i64 (p.gauges.g i).edge.lo, Go.SE.SV.int Go.IntKind.i64 (p.gauges.g i).edge.hi,
 Go.SE.SV.int Go.IntKind.i64 (p.gauges.g i).across.lo, Go.SE.SV.int Go.IntKind.i64 (p.gauges.g i).across.hi, Go.SE.SV.int Go.IntKind.i64 (p.gauges.g i).bend], Go.SE.SV.sl (nat_lit 3) p.marks.n fun (i : Nat) ↦ [Go.SE.SV.int Go.IntKind.i64 (p.marks.g i).edge, Go.SE.SV.int Go.IntKind.i64 (p.marks.g i).place, Go.SE.SV.int Go.IntKind.i64 (p.marks.g i).tone]] (nat_lit 0) = Go.SE.SV.ref [Go.SE.SV.int
 Go.IntKind.i64 p.id, Go.SE.SV.int Go.IntKind.i64 p.colour, Go.SE.SV.int Go.IntKind.i64 p.rev, Go.SE.SV.int Go.IntKind.i64 p.made, Go.SE.SV.int Go.IntKind.i64 p.swell, Go.SE.SV.sl (nat_lit 5) p.gauges.n fun (i : Nat) ↦ [Go.SE.SV.int Go.IntKind.i64 (p.gauges.g i).edge.lo, Go.SE.SV.int Go.IntKind.i64 (p.gauges.g i).edge.hi, Go.SE.SV.int Go.IntKind.i64 (p.gauges.g i).across.lo, Go.SE.SV.int
 Go.IntKind.i64 (p.gauges.g i).across.hi, Go.SE.SV.int Go.IntKind.i64 (p.gauges.g i).bend], Go.SE.SV.sl (nat_lit 3) p.marks.n fun (i : Nat) ↦ [Go.SE.SV.int Go.IntKind.i64 (p.marks.g i).edge, Go.SE.SV.int Go.IntKind.i64 (p.marks.g i).place, Go.SE.SV.int Go.IntKind.i64 (p.marks.g i).tone]] (nat_lit 0) ∧ (p.gauges.n = p.gauges.n ∧ ∀ (i : Nat), i < p.gauges.n → Go.SE.setRow (fun (j : Nat) ↦
 [Go.SE.SV.int Go.IntKind.i64 (L.rsTo p s g j).edge.lo, Go.SE.SV.int Go.IntKind.i64 (L.rsTo p s g j).edge.hi, Go.SE.SV.int Go.IntKind.i64 (L.rsTo p s g j).across.lo, Go.SE.SV.int Go.IntKind.i64 (L.rsTo p s g j).across.hi, Go.SE.SV.int Go.IntKind.i64 (L.rsTo p s g j).bend]) (Int.toNat (L.lay s (↑p.gauges.n : Int) (↑g : Int))) (nat_lit 0) [Go.SE.SV.int Go.IntKind.i64 (p.gauges.g (Int.toNat (↑g :
 Int))).edge.lo, Go.SE.SV.int Go.IntKind.i64 (p.gauges.g (Int.toNat (↑g : Int))).edge.hi, Go.SE.SV.int Go.IntKind.i64 (p.gauges.g (Int.toNat (Int.tmod ((↑g : Int) + (↑p.gauges.n : Int) - (1 : Int)) (↑p.gauges.n : Int)))).across.lo, Go.SE.SV.int Go.IntKind.i64 (p.gauges.g (Int.toNat (Int.tmod ((↑g : Int) + (↑p.gauges.n : Int) - (1 : Int)) (↑p.gauges.n : Int)))).across.hi, Go.SE.SV.int Go.IntKind.i64
 (p.gauges.g (Int.toNat (Int.tmod ((↑g : Int) + (↑p.gauges.n : Int) - (1 : Int)) (↑p.gauges.n : Int)))).bend] i = [Go.SE.SV.int Go.IntKind.i64 (L.rsTo p s g' i).edge.lo, Go.SE.SV.int Go.IntKind.i64 (L.rsTo p s g' i).edge.hi, Go.SE.SV.int Go.IntKind.i64 (L.rsTo p s g' i).across.lo, Go.SE.SV.int Go.IntKind.i64 (L.rsTo p s g' i).across.hi, Go.SE.SV.int Go.IntKind.i64 (L.rsTo p s g' i).bend]) ∧ p.id =
 p.id ∧ p.colour = p.colour ∧ p.rev = p.rev ∧ p.made = p.made ∧ p.swell = p.swell ∧ (p.marks.n = p.marks.n ∧ ∀ (i : Nat), i < p.marks.n → [Go.SE.SV.int Go.IntKind.i64 (p.marks.g i).edge, Go.SE.SV.int Go.IntKind.i64 (p.marks.g i).place, Go.SE.SV.int Go.IntKind.i64 (p.marks.g i).tone] = [Go.SE.SV.int Go.IntKind.i64 (p.marks.g i).edge, Go.SE.SV.int Go.IntKind.i64 (p.marks.g i).place, Go.SE.SV.int
 Go.IntKind.i64 (p.marks.g i).tone]) ∧ (0 : Int) = (0 : Int) ∧ (0 : Int) = (0 : Int) ∧ (0 : Int) = (0 : Int) ∧ (0 : Int) = (0 : Int) ∧ (0 : Int) = (0 : Int) ∧ Go.Value.slice Option.none (0 : Nat) (0 : Nat) = Go.Value.slice Option.none (0 : Nat) (0 : Nat) ∧ Go.Value.slice Option.none (0 : Nat) (0 : Nat) = Go.Value.slice Option.none (0 : Nat) (0 : Nat) ∧ g' ≤ p.gauges.n ∧ p.gauges.n - g' < p.gauges.n
 - g) ∧ (s.back = Bool.false → ((1 : Int) ≤ (↑p.gauges.n : Int) ∧ (↑p.gauges.n : Int) ≤ (1000000 : Int) ∧ (-1000000 : Int) ≤ s.shift ∧ s.shift ≤ (1000000 : Int) ∧ (-1000000 : Int) ≤ (↑g : Int) ∧ (↑g : Int) ≤ (1000000 : Int)) ∧ ((0 : Int) ≤ L.lay s (↑p.gauges.n : Int) (↑g : Int) ∧ L.lay s (↑p.gauges.n : Int) (↑g : Int) < (↑p.gauges.n : Int)) ∧ Int.toNat (L.lay s (↑p.gauges.n : Int) (↑g : Int)) <
 p.gauges.n ∧ Go.SE.InK Go.IntKind.i64 ((↑g : Int) + (1 : Int)) ∧ ∃ (g' : Nat), (↑g : Int) + (1 : Int) = (↑g' : Int) ∧ nat_lit 0 = nat_lit 0 ∧ (↑p.gauges.n : Int) = (↑p.gauges.n : Int) ∧ nat_lit 0 = nat_lit 0 ∧ Go.SE.SV.ref [Go.SE.SV.int Go.IntKind.i64 s.shift, Go.SE.SV.bool s.back] (nat_lit 0) = Go.SE.SV.ref [Go.SE.SV.int Go.IntKind.i64 s.shift, Go.SE.SV.bool s.back] (nat_lit 0) ∧ Go.SE.SV.ref
 [Go.SE.SV.int Go.IntKind.i64 p.id, Go.SE.SV.int Go.IntKind.i64 p.colour, Go.SE.SV.int Go.IntKind.i64 p.rev, Go.SE.SV.int Go.IntKind.i64 p.made, Go.SE.SV.int Go.IntKind.i64 p.swell, Go.SE.SV.sl (nat_lit 5) p.gauges.n fun (i : Nat) ↦ [Go.SE.SV.int Go.IntKind.i64 (p.gauges.g i).edge.lo, Go.SE.SV.int Go.IntKind.i64 (p.gauges.g i).edge.hi, Go.SE.SV.int Go.IntKind.i64 (p.gauges.g i).across.lo,
 Go.SE.SV.int Go.IntKind.i64 (p.gauges.g i).across.hi, Go.SE.SV.int Go.IntKind.i64 (p.gauges.g i).bend], Go.SE.SV.sl (nat_lit 3) p.marks.n fun (i : Nat) ↦ [Go.SE.SV.int Go.IntKind.i64 (p.marks.g i).edge, Go.SE.SV.int Go.IntKind.i64 (p.marks.g i).place, Go.SE.SV.int Go.IntKind.i64 (p.marks.g i).tone]] (nat_lit 0) = Go.SE.SV.ref [Go.SE.SV.int Go.IntKind.i64 p.id, Go.SE.SV.int Go.IntKind.i64 p.colour,
 Go.SE.SV.int Go.IntKind.i64 p.rev, Go.SE.SV.int Go.IntKind.i64 p.made, Go.SE.SV.int Go.IntKind.i64 p.swell, Go.SE.SV.sl (nat_lit 5) p.gauges.n fun (i : Nat) ↦ [Go.SE.SV.int Go.IntKind.i64 (p.gauges.g i).edge.lo, Go.SE.SV.int Go.IntKind.i64 (p.gauges.g i).edge.hi, Go.SE.SV.int Go.IntKind.i64 (p.gauges.g i).across.lo, Go.SE.SV.int Go.IntKind.i64 (p.gauges.g i).across.hi, Go.SE.SV.int Go.IntKind.i64
 (p.gauges.g i).bend], Go.SE.SV.sl (nat_lit 3) p.marks.n fun (i : Nat) ↦ [Go.SE.SV.int Go.IntKind.i64 (p.marks.g i).edge, Go.SE.SV.int Go.IntKind.i64 (p.marks.g i).place, Go.SE.SV.int Go.IntKind.i64 (p.marks.g i).tone]] (nat_lit 0) ∧ (p.gauges.n = p.gauges.n ∧ ∀ (i : Nat), i < p.gauges.n → Go.SE.setRow (fun (j : Nat) ↦ [Go.SE.SV.int Go.IntKind.i64 (L.rsTo p s g j).edge.lo, Go.SE.SV.int
 Go.IntKind.i64 (L.rsTo p s g j).edge.hi, Go.SE.SV.int Go.IntKind.i64 (L.rsTo p s g j).across.lo, Go.SE.SV.int Go.IntKind.i64 (L.rsTo p s g j).across.hi, Go.SE.SV.int Go.IntKind.i64 (L.rsTo p s g j).bend]) (Int.toNat (L.lay s (↑p.gauges.n : Int) (↑g : Int))) (nat_lit 0) [Go.SE.SV.int Go.IntKind.i64 (p.gauges.g (Int.toNat (↑g : Int))).edge.lo, Go.SE.SV.int Go.IntKind.i64 (p.gauges.g (Int.toNat (↑g :
 Int))).edge.hi, Go.SE.SV.int Go.IntKind.i64 (p.gauges.g (Int.toNat (↑g : Int))).across.lo, Go.SE.SV.int Go.IntKind.i64 (p.gauges.g (Int.toNat (↑g : Int))).across.hi, Go.SE.SV.int Go.IntKind.i64 (p.gauges.g (Int.toNat (↑g : Int))).bend] i = [Go.SE.SV.int Go.IntKind.i64 (L.rsTo p s g' i).edge.lo, Go.SE.SV.int Go.IntKind.i64 (L.rsTo p s g' i).edge.hi, Go.SE.SV.int Go.IntKind.i64 (L.rsTo p s g'
 i).across.lo, Go.SE.SV.int Go.IntKind.i64 (L.rsTo p s g' i).across.hi, Go.SE.SV.int Go.IntKind.i64 (L.rsTo p s g' i).bend]) ∧ p.id = p.id ∧ p.colour = p.colour ∧ p.rev = p.rev ∧ p.made = p.made ∧ p.swell = p.swell ∧ (p.marks.n = p.marks.n ∧ ∀ (i : Nat), i < p.marks.n → [Go.SE.SV.int Go.IntKind.i64 (p.marks.g i).edge, Go.SE.SV.int Go.IntKind.i64 (p.marks.g i).place, Go.SE.SV.int Go.IntKind.i64
 (p.marks.g i).tone] = [Go.SE.SV.int Go.IntKind.i64 (p.marks.g i).edge, Go.SE.SV.int Go.IntKind.i64 (p.marks.g i).place, Go.SE.SV.int Go.IntKind.i64 (p.marks.g i).tone]) ∧ (0 : Int) = (0 : Int) ∧ (0 : Int) = (0 : Int) ∧ (0 : Int) = (0 : Int) ∧ (0 : Int) = (0 : Int) ∧ (0 : Int) = (0 : Int) ∧ Go.Value.slice Option.none (0 : Nat) (0 : Nat) = Go.Value.slice Option.none (0 : Nat) (0 : Nat) ∧
 Go.Value.slice Option.none (0 : Nat) (0 : Nat) = Go.Value.slice Option.none (0 : Nat) (0 : Nat) ∧ g' ≤ p.gauges.n ∧ p.gauges.n - g' < p.gauges.n - g)) ∧ (Decidable.decide ((↑g : Int) < (↑p.gauges.n : Int)) = Bool.false → ((∀ (i : Nat), i < p.marks.n → [Go.SE.SV.int Go.IntKind.i64 (p.marks.g i).edge, Go.SE.SV.int Go.IntKind.i64 (p.marks.g i).place, Go.SE.SV.int Go.IntKind.i64 (p.marks.g i).tone] =
 [Go.SE.SV.int Go.IntKind.i64 (p.marks.g i).edge, Go.SE.SV.int Go.IntKind.i64 (p.marks.g i).place, Go.SE.SV.int Go.IntKind.i64 (p.marks.g i).tone]) ∧ p.marks.n ≤ (1000000 : Nat) ∧ L.validSet s (↑p.gauges.n : Int) = Bool.true ∧ ∀ (k : Nat), k < p.marks.n → ((0 : Int) ≤ (p.marks.g k).edge ∧ (p.marks.g k).edge < (↑p.gauges.n : Int)) ∧ (0 : Int) ≤ (p.marks.g k).place ∧ (p.marks.g k).place ≤ (16 : Int))
 ∧ ∀ (t : Nat), True → (s.back = Bool.true → p.id = (L.rs p s).id ∧ p.rev = (L.rs p s).colour ∧ p.colour = (L.rs p s).rev ∧ p.made = (L.rs p s).made ∧ p.swell = (L.rs p s).swell ∧ (p.gauges.n = (L.rs p s).gauges.n ∧ ∀ (i : Nat), i < p.gauges.n → [Go.SE.SV.int Go.IntKind.i64 (L.rsTo p s g i).edge.lo, Go.SE.SV.int Go.IntKind.i64 (L.rsTo p s g i).edge.hi, Go.SE.SV.int Go.IntKind.i64 (L.rsTo p s g
 i).across.lo, Go.SE.SV.int Go.IntKind.i64 (L.rsTo p s g i).across.hi, Go.SE.SV.int Go.IntKind.i64 (L.rsTo p s g i).bend] = [Go.SE.SV.int Go.IntKind.i64 ((L.rs p s).gauges.g i).edge.lo, Go.SE.SV.int Go.IntKind.i64 ((L.rs p s).gauges.g i).edge.hi, Go.SE.SV.int Go.IntKind.i64 ((L.rs p s).gauges.g i).across.lo, Go.SE.SV.int Go.IntKind.i64 ((L.rs p s).gauges.g i).across.hi, Go.SE.SV.int Go.IntKind.i64
 ((L.rs p s).gauges.g i).bend]) ∧ p.marks.n = (L.rs p s).marks.n ∧ ∀ (i : Nat), i < p.marks.n → [Go.SE.SV.int Go.IntKind.i64 ((L.sortM (L.rsMs (L.Sq.mk p.marks.n fun (i : Nat) ↦ p.marks.g i) s (Int.toNat (↑p.gauges.n : Int)))).g i).edge, Go.SE.SV.int Go.IntKind.i64 ((L.sortM (L.rsMs (L.Sq.mk p.marks.n fun (i : Nat) ↦ p.marks.g i) s (Int.toNat (↑p.gauges.n : Int)))).g i).place, Go.SE.SV.int
 Go.IntKind.i64 ((L.sortM (L.rsMs (L.Sq.mk p.marks.n fun (i : Nat) ↦ p.marks.g i) s (Int.toNat (↑p.gauges.n : Int)))).g i).tone] = [Go.SE.SV.int Go.IntKind.i64 ((L.rs p s).marks.g i).edge, Go.SE.SV.int Go.IntKind.i64 ((L.rs p s).marks.g i).place, Go.SE.SV.int Go.IntKind.i64 ((L.rs p s).marks.g i).tone]) ∧ (s.back = Bool.false → p.id = (L.rs p s).id ∧ p.colour = (L.rs p s).colour ∧ p.rev = (L.rs p
 s).rev ∧ p.made = (L.rs p s).made ∧ p.swell = (L.rs p s).swell ∧ (p.gauges.n = (L.rs p s).gauges.n ∧ ∀ (i : Nat), i < p.gauges.n → [Go.SE.SV.int Go.IntKind.i64 (L.rsTo p s g i).edge.lo, Go.SE.SV.int Go.IntKind.i64 (L.rsTo p s g i).edge.hi, Go.SE.SV.int Go.IntKind.i64 (L.rsTo p s g i).across.lo, Go.SE.SV.int Go.IntKind.i64 (L.rsTo p s g i).across.hi, Go.SE.SV.int Go.IntKind.i64 (L.rsTo p s g
 i).bend] = [Go.SE.SV.int Go.IntKind.i64 ((L.rs p s).gauges.g i).edge.lo, Go.SE.SV.int Go.IntKind.i64 ((L.rs p s).gauges.g i).edge.hi, Go.SE.SV.int Go.IntKind.i64 ((L.rs p s).gauges.g i).across.lo, Go.SE.SV.int Go.IntKind.i64 ((L.rs p s).gauges.g i).across.hi, Go.SE.SV.int Go.IntKind.i64 ((L.rs p s).gauges.g i).bend]) ∧ p.marks.n = (L.rs p s).marks.n ∧ ∀ (i : Nat), i < p.marks.n → [Go.SE.SV.int
 Go.IntKind.i64 ((L.sortM (L.rsMs (L.Sq.mk p.marks.n fun (i : Nat) ↦ p.marks.g i) s (Int.toNat (↑p.gauges.n : Int)))).g i).edge, Go.SE.SV.int Go.IntKind.i64 ((L.sortM (L.rsMs (L.Sq.mk p.marks.n fun (i : Nat) ↦ p.marks.g i) s (Int.toNat (↑p.gauges.n : Int)))).g i).place, Go.SE.SV.int Go.IntKind.i64 ((L.sortM (L.rsMs (L.Sq.mk p.marks.n fun (i : Nat) ↦ p.marks.g i) s (Int.toNat (↑p.gauges.n :
 Int)))).g i).tone] = [Go.SE.SV.int Go.IntKind.i64 ((L.rs p s).marks.g i).edge, Go.SE.SV.int Go.IntKind.i64 ((L.rs p s).marks.g i).place, Go.SE.SV.int Go.IntKind.i64 ((L.rs p s).marks.g i).tone]))) (by kernel_rfl) (by
    obtain ⟨hv, hs⟩ := hp
    obtain ⟨_, hg0, hm0⟩ := piece_of hv
    have hgn := gauges_n hg0
    have hmk := marks_in hm0
    have hn0 : 0 < p.gauges.n := by omega
    have hsv := validSet_iff.1 hs
    refine ⟨⟨by omega, Int.le_refl _, show (p.gauges.n : Int) * 40 ≤ 140737488355328 by omega⟩, ⟨(0 : Nat), rfl, ⟨Int.toNat_natCast _, fun i _ => ?_⟩, Nat.zero_le _⟩, fun g hg => ⟨fun hlt => ?_, fun hge => ?_⟩⟩
    · unfold L.rsTo; rw [decide_eq_false (Nat.not_lt_zero _)]; rfl
    · have hb : (g : Int) < (p.gauges.n : Int) := of_decide_eq_true hlt
      have hgl : g < p.gauges.n := by omega
      obtain ⟨a1, a2, _⟩ := rsI_lay hs hgl
      have e0 : ((g : Int)).toNat = g := Int.toNat_natCast g
      rw [e0]
      have row : ∀ v : L.Gauge, v = L.rsG1 p s g → ∀ i, i < p.gauges.n → setRow (fun (j : Nat) => [.int .i64 ((L.rsTo p s g j).edge.lo), .int .i64 ((L.rsTo p s g j).edge.hi), .int .i64 ((L.rsTo p s g j).across.lo), .int .i64 ((L.rsTo p s g j).across.hi), .int .i64 ((L.rsTo p s g j).bend)]) (L.lay s p.gauges.n g).toNat 0 [.int .i64 v.edge.lo, .int .i64 v.edge.hi, .int .i64 v.across.lo, .int .i64 v.across.hi, .int .i64 v.bend] i = [.int .i64 ((L.rsTo p s (g + 1) i).edge.lo), .int .i64 ((L.rsTo p s (g + 1) i).edge.hi), .int .i64 ((L.rsTo p s (g + 1) i).across.lo), .int .i64 ((L.rsTo p s (g + 1) i).across.hi), .int .i64 ((L.rsTo p s (g + 1) i).bend)] := fun v hv i hi => by
        rw [rsTo_step hs hgl hi]
        unfold setRow
        by_cases h : i = (L.lay s p.gauges.n g).toNat
        · rw [if_pos h, if_pos h, hv]; rfl
        · rw [if_neg h, if_neg h]
      have t1 : 0 ≤ Int.tmod ((g : Int) + p.gauges.n - 1) p.gauges.n := Int.tmod_nonneg _ (by omega)
      have t2 : Int.tmod ((g : Int) + p.gauges.n - 1) p.gauges.n < p.gauges.n := Int.tmod_lt_of_pos _ (by omega)
      refine ⟨⟨by omega, hb⟩, fun hk => ?_, fun hk => ?_⟩
      · have hw := row ⟨(p.gauges.g g).edge, (p.gauges.g (L.prev p.gauges.n g)).across, (p.gauges.g (L.prev p.gauges.n g)).bend⟩ (by unfold L.rsG1; rw [hk]; rfl)
        exact ⟨InK.of (by omega) (by omega), InK.of (by omega) (by omega), by omega, ⟨t1, t2⟩, InK.of (by omega) (by omega), InK.of (by omega) (by omega), by omega, ⟨t1, t2⟩, ⟨by omega, by omega, by omega, by omega, by omega, by omega⟩, ⟨a1, a2⟩, by omega, InK.of (by omega) (by omega), g + 1, by omega, rfl, rfl, rfl, rfl, rfl, ⟨rfl, hw⟩, rfl, rfl, rfl, rfl, rfl, ⟨rfl, fun _ _ => rfl⟩, rfl, rfl, rfl, rfl, rfl, rfl, rfl, by omega, by omega⟩
      · have hw := row (p.gauges.g g) (by unfold L.rsG1; rw [hk]; rfl)
        exact ⟨⟨by omega, by omega, by omega, by omega, by omega, by omega⟩, ⟨a1, a2⟩, by omega, InK.of (by omega) (by omega), g + 1, by omega, rfl, rfl, rfl, rfl, rfl, ⟨rfl, hw⟩, rfl, rfl, rfl, rfl, rfl, ⟨rfl, fun _ _ => rfl⟩, rfl, rfl, rfl, rfl, rfl, rfl, rfl, by omega, by omega⟩
    have hb : ¬ (g : Int) < (p.gauges.n : Int) := of_decide_eq_false hge
    obtain rfl : g = p.gauges.n := by omega
    have e1 : ∀ i, i < p.gauges.n → ([.int .i64 ((L.rsTo p s p.gauges.n i).edge.lo), .int .i64 ((L.rsTo p s p.gauges.n i).edge.hi), .int .i64 ((L.rsTo p s p.gauges.n i).across.lo), .int .i64 ((L.rsTo p s p.gauges.n i).across.hi), .int .i64 ((L.rsTo p s p.gauges.n i).bend)] : List SV) = [.int .i64 (((L.rs p s).gauges.g i).edge.lo), .int .i64 (((L.rs p s).gauges.g i).edge.hi), .int .i64 (((L.rs p s).gauges.g i).across.lo), .int .i64 (((L.rs p s).gauges.g i).across.hi), .int .i64 (((L.rs p s).gauges.g i).bend)] := fun i _ => by
      rw [rsTo_full (p := p) (s := s) hn0 i]; rfl
    have e0 : ((p.gauges.n : Int)).toNat = p.gauges.n := Int.toNat_natCast _
    rw [e0]
    refine ⟨⟨fun _ _ => rfl, by omega, hs, fun k hk => ⟨(hmk.2 k hk).1, (hmk.2 k hk).2.1⟩⟩, fun t _ => ⟨fun hk => ?_, fun hk => ?_⟩⟩
    · have c1 : p.rev = (L.rs p s).colour := by unfold L.rs; rw [hk]; rfl
      have c2 : p.colour = (L.rs p s).rev := by unfold L.rs; rw [hk]; rfl
      exact ⟨rfl, c1, c2, rfl, rfl, ⟨rfl, e1⟩, rfl, fun _ _ => rfl⟩
    · have c1 : p.colour = (L.rs p s).colour := by unfold L.rs; rw [hk]; rfl
      have c2 : p.rev = (L.rs p s).rev := by unfold L.rs; rw [hk]; rfl
      exact ⟨rfl, c1, c2, rfl, rfl, ⟨rfl, e1⟩, rfl, fun _ _ => rfl⟩)
theorem r3_reset_ok : SpecOk Tryz.prog 63 r3_reset_S := fnX Tryz.func63 (c := bodyOf Tryz.f63) (by kernel_rfl) mixed (fun args p r hs hp => by
  unfold r3_reset_s at hs
  split at hs
  · cases hs; exact ⟨_, _, r3_reset_vc _ _ hp.2.2, (.p (.agg rfl (fun i hi => by
      rcases i with _ | i
      · exact (Ext.refl _ : Ext _ _)
      rcases i with _ | i
      · exact (Ext.refl _ : Ext _ _)
      rcases i with _ | i
      · exact (Ext.refl _ : Ext _ _)
      rcases i with _ | i
      · exact (Ext.refl _ : Ext _ _)
      rcases i with _ | i
      · exact (Ext.refl _ : Ext _ _)
      rcases i with _ | i
      · exact (Ext.sl hp.1 : Ext _ _)
      rcases i with _ | i
      · exact (Ext.sl hp.2.1 : Ext _ _)
      exact absurd hi (by simp; try omega))) (.same _ .nil)), ⟨show SpecsL Tryz.prog _ from (SpecsL.cons r1_Laid_ok r1_Laid_en (SpecsL.cons r3_shown_ok r3_shown_en SpecsL.nil)), rfl, ⟨show ItersL Tryz.prog _ from ItersL.nil, (TrsOk.none (fun _ => rfl))⟩⟩⟩
  · cases hs)
theorem r3_reset_en : Enters Tryz.prog 63 := fun args w => by kernel_rfl
end Go.Proofs.YtooapgllahonaaaGreat

namespace Go.Proofs.YtooapgllahonaaaGreat
open Go.SE Go.RowKit
set_option maxRecDepth 100000
set_option maxHeartbeats 4000000
set_option linter.unusedVariables false
attribute [local irreducible] Go.SE.vc

def L.zeroP : L.Piece := ⟨0, 0, 0, 0, 0, ⟨0, fun _ => ⟨⟨0, 0⟩, ⟨0, 0⟩, 0⟩⟩, ⟨0, fun _ => ⟨0, 0, 0⟩⟩⟩
def L.wrE (p : L.Piece) (s : L.Setting) : Int := bif !L.validPiece p then 30 else bif !L.validSet s p.gauges.n then 1 else 0
def L.rsV (p : L.Piece) (s : L.Setting) : L.Piece := bif decide (L.wrE p s = 0) then L.rs p s else L.zeroP
def L.samePc (a b : L.Piece) : Bool := bif (bif (bif (bif (bif (bif decide (a.id = b.id) then decide (a.colour = b.colour) else false) then decide (a.rev = b.rev) else false) then decide (a.made = b.made) else false) then decide (a.swell = b.swell) else false) then L.sameGs a.gauges b.gauges else false) then L.sameMs a.marks b.marks else false
theorem samePc_refl (a : L.Piece) : L.samePc a a = true := by
  unfold L.samePc
  rw [sameGs_refl, sameMs_refl]
  simp
theorem wrE_cases (p : L.Piece) (s : L.Setting) : (L.wrE p s = 0 ∧ L.validPiece p = true ∧ L.validSet s p.gauges.n = true ∧ L.rsV p s = L.rs p s) ∨ (L.wrE p s ≠ 0 ∧ L.rsV p s = L.zeroP) := by
  unfold L.rsV
  cases h1 : L.validPiece p with
  | false =>
    have : L.wrE p s = 30 := by unfold L.wrE; rw [h1]; rfl
    rw [this]
    exact .inr ⟨by decide, rfl⟩
  | true =>
    cases h2 : L.validSet s p.gauges.n with
    | false =>
      have : L.wrE p s = 1 := by unfold L.wrE; rw [h1, h2]; rfl
      rw [this]
      exact .inr ⟨by decide, rfl⟩
    | true =>
      have : L.wrE p s = 0 := by unfold L.wrE; rw [h1, h2]; rfl
      rw [this]
      exact .inl ⟨rfl, rfl, rfl, rfl⟩
theorem rsV_len (p : L.Piece) (s : L.Setting) : (L.rsV p s).gauges.n ≤ p.gauges.n ∧ (L.rsV p s).marks.n ≤ p.marks.n := by
  rcases wrE_cases p s with ⟨_, _, _, e⟩ | ⟨_, e⟩ <;> rw [e]
  · exact ⟨Nat.le_refl _, Nat.le_refl _⟩
  · exact ⟨Nat.zero_le _, Nat.zero_le _⟩
def g_wrong_p (p : L.Piece) (s : L.Setting) : Prop := p.gauges.n ≤ 1000000 ∧ p.marks.n ≤ 1000000
def g_wrong_r (p : L.Piece) (s : L.Setting) : SV := .int .i64 (L.wrE p s)
def g_wrong_s : List EV → Option (Prop × SV)
  | [.p (.agg [.int .i64 p_id, .int .i64 p_colour, .int .i64 p_rev, .int .i64 p_made, .int .i64 p_swell, .sl 5 p_gauges_n p_gauges_g, .sl 3 p_marks_n p_marks_g]), .p (.agg [.int .i64 s_shift, .bool s_back])] => some ((∀ i, i < p_gauges_n → p_gauges_g i = [.int .i64 ((ofGauge (p_gauges_g i)).edge.lo), .int .i64 ((ofGauge (p_gauges_g i)).edge.hi), .int .i64 ((ofGauge (p_gauges_g i)).across.lo), .int .i64 ((ofGauge (p_gauges_g i)).across.hi), .int .i64 ((ofGauge (p_gauges_g i)).bend)]) ∧ (∀ i, i < p_marks_n → p_marks_g i = [.int .i64 ((ofMark (p_marks_g i)).edge), .int .i64 ((ofMark (p_marks_g i)).place), .int .i64 ((ofMark (p_marks_g i)).tone)]) ∧ g_wrong_p (⟨p_id, p_colour, p_rev, p_made, p_swell, (⟨p_gauges_n, fun i => ofGauge (p_gauges_g i)⟩ : (L.Sq L.Gauge)), (⟨p_marks_n, fun i => ofMark (p_marks_g i)⟩ : (L.Sq L.Mark))⟩ : L.Piece) (⟨s_shift, s_back⟩ : L.Setting), g_wrong_r (⟨p_id, p_colour, p_rev, p_made, p_swell, (⟨p_gauges_n, fun i => ofGauge (p_gauges_g i)⟩ : (L.Sq L.Gauge)), (⟨p_marks_n, fun i => ofMark (p_marks_g i)⟩ : (L.Sq L.Mark))⟩ : L.Piece) (⟨s_shift, s_back⟩ : L.Setting))
  | _ => none
abbrev g_wrong_S : SE.Spec := (specO g_wrong_s)
def g_wrong_C : Cfg := { muts := [], frz := lookN [], specs := lookS [(47, g_ValidPiece_S), (103, p_ValidSetting_S)], loops := lookL [], iters := lookI [], rfs := lookR [], nils := lookM [] }
theorem g_wrong_vc (p : L.Piece) (s : L.Setting) (hp : g_wrong_p p s) : vc Tryz.prog (g_wrong_C) (bodyOf Tryz.f61) (st0 Tryz.f61 [.p (.agg [.int .i64 p.id, .int .i64 p.colour, .int .i64 p.rev, .int .i64 p.made, .int .i64 p.swell, .sl 5 p.gauges.n (fun i => [.int .i64 ((p.gauges.g i).edge.lo), .int .i64 ((p.gauges.g i).edge.hi), .int .i64 ((p.gauges.g i).across.lo), .int .i64 ((p.gauges.g i).across.hi), .int .i64 ((p.gauges.g i).bend)]), .sl 3 p.marks.n (fun i => [.int .i64 ((p.marks.g i).edge), .int .i64 ((p.marks.g i).place), .int .i64 ((p.marks.g i).tone)])]), .p (.agg [.int .i64 s.shift, .bool s.back])]) (retFn Tryz.prog Tryz.f61 (g_wrong_r p s)) :=
  @Eq.mpr _ (((∀ (i : Nat), i < p.gauges.n → [Go.SE.SV.int Go.IntKind.i64 (p.gauges.g i).edge.lo, Go.SE.SV.int Go.IntKind.i64 (p.gauges.g i).edge.hi, Go.SE.SV.int Go.IntKind.i64 (p.gauges.g i).across.lo, Go.SE.SV.int Go.IntKind.i64 (p.gauges.g i).across.hi, Go.SE.SV.int Go.IntKind.i64 (p.gauges.g i).bend] = [Go.SE.SV.int Go.IntKind.i64 (p.gauges.g i).edge.lo, Go.SE.SV.int Go.IntKind.i64 (p.gauges.g i).edge.hi,
 Go.SE.SV.int Go.IntKind.i64 (p.gauges.g i).across.lo, Go.SE.SV.int Go.IntKind.i64 (p.gauges.g i).across.hi, Go.SE.SV.int Go.IntKind.i64 (p.gauges.g i).bend]) ∧ (∀ (i : Nat), i < p.marks.n → [Go.SE.SV.int Go.IntKind.i64 (p.marks.g i).edge, Go.SE.SV.int Go.IntKind.i64 (p.marks.g i).place, Go.SE.SV.int Go.IntKind.i64 (p.marks.g i).tone] = [Go.SE.SV.int Go.IntKind.i64 (p.marks.g i).edge, Go.SE.SV.int
 Go.IntKind.i64 (p.marks.g i).place, Go.SE.SV.int Go.IntKind.i64 (p.marks.g i).tone]) ∧ p.gauges.n ≤ (1000000 : Nat) ∧ p.marks.n ≤ (1000000 : Nat)) ∧ ((!L.validPiece (L.Piece.mk p.id p.colour p.rev p.made p.swell (L.Sq.mk p.gauges.n fun (i : Nat) ↦ p.gauges.g i) (L.Sq.mk p.marks.n fun (i : Nat) ↦ p.marks.g i))) = Bool.true → (30 : Int) = L.wrE p s) ∧ ((!L.validPiece (L.Piece.mk p.id p.colour p.rev
 p.made p.swell (L.Sq.mk p.gauges.n fun (i : Nat) ↦ p.gauges.g i) (L.Sq.mk p.marks.n fun (i : Nat) ↦ p.marks.g i))) = Bool.false → True ∧ ((!L.validSet s (↑p.gauges.n : Int)) = Bool.true → (1 : Int) = L.wrE p s) ∧ ((!L.validSet s (↑p.gauges.n : Int)) = Bool.false → (0 : Int) = L.wrE p s))) (by kernel_rfl) (by
    refine ⟨⟨fun _ _ => rfl, fun _ _ => rfl, hp.1, hp.2⟩, fun h => ?_, fun h => ⟨trivial, fun k => ?_, fun k => ?_⟩⟩
    · have h : (!L.validPiece p) = true := h
      unfold L.wrE; rw [h]; rfl
    · have h : (!L.validPiece p) = false := h
      unfold L.wrE; rw [h, k]; rfl
    · have h : (!L.validPiece p) = false := h
      unfold L.wrE; rw [h, k]; rfl)
theorem g_wrong_ok : SpecOk Tryz.prog 61 g_wrong_S := fnX Tryz.func61 (c := bodyOf Tryz.f61) (by kernel_rfl) mixed (fun args p r hs hp => by
  unfold g_wrong_s at hs
  split at hs
  · cases hs; exact ⟨_, _, g_wrong_vc _ _ hp.2.2, (.p (.agg rfl (fun i hi => by
      rcases i with _ | i
      · exact (Ext.refl _ : Ext _ _)
      rcases i with _ | i
      · exact (Ext.refl _ : Ext _ _)
      rcases i with _ | i
      · exact (Ext.refl _ : Ext _ _)
      rcases i with _ | i
      · exact (Ext.refl _ : Ext _ _)
      rcases i with _ | i
      · exact (Ext.refl _ : Ext _ _)
      rcases i with _ | i
      · exact (Ext.sl hp.1 : Ext _ _)
      rcases i with _ | i
      · exact (Ext.sl hp.2.1 : Ext _ _)
      exact absurd hi (by simp; try omega))) (.same _ .nil)), ⟨show SpecsL Tryz.prog _ from (SpecsL.cons g_ValidPiece_ok g_ValidPiece_en (SpecsL.cons p_ValidSetting_ok p_ValidSetting_en SpecsL.nil)), rfl, ⟨show ItersL Tryz.prog _ from ItersL.nil, (TrsOk.none (fun _ => rfl))⟩⟩⟩
  · cases hs)
theorem g_wrong_en : Enters Tryz.prog 61 := fun args w => by kernel_rfl
theorem g_wrong_I : ∀ args p r, g_wrong_s args = some (p, r) → ∃ n, r = .int .i64 n := by
  intro args p r h
  unfold g_wrong_s at h
  split at h
  · cases h; exact ⟨_, rfl⟩
  · cases h
def g_Reset_p (p : L.Piece) (s : L.Setting) : Prop := p.gauges.n ≤ 1000000 ∧ p.marks.n ≤ 1000000
def g_Reset_r (p : L.Piece) (s : L.Setting) : SV := .tup [(.agg [.int .i64 ((L.rsV p s).id), .int .i64 ((L.rsV p s).colour), .int .i64 ((L.rsV p s).rev), .int .i64 ((L.rsV p s).made), .int .i64 ((L.rsV p s).swell), .sl 5 (L.rsV p s).gauges.n (fun i => [.int .i64 (((L.rsV p s).gauges.g i).edge.lo), .int .i64 (((L.rsV p s).gauges.g i).edge.hi), .int .i64 (((L.rsV p s).gauges.g i).across.lo), .int .i64 (((L.rsV p s).gauges.g i).across.hi), .int .i64 (((L.rsV p s).gauges.g i).bend)]), .sl 3 (L.rsV p s).marks.n (fun i => [.int .i64 (((L.rsV p s).marks.g i).edge), .int .i64 (((L.rsV p s).marks.g i).place), .int .i64 (((L.rsV p s).marks.g i).tone)])]), .int .i64 (L.wrE p s)]
def g_Reset_s : List EV → Option (Prop × SV)
  | [.p (.agg [.int .i64 p_id, .int .i64 p_colour, .int .i64 p_rev, .int .i64 p_made, .int .i64 p_swell, .sl 5 p_gauges_n p_gauges_g, .sl 3 p_marks_n p_marks_g]), .p (.agg [.int .i64 s_shift, .bool s_back])] => some ((∀ i, i < p_gauges_n → p_gauges_g i = [.int .i64 ((ofGauge (p_gauges_g i)).edge.lo), .int .i64 ((ofGauge (p_gauges_g i)).edge.hi), .int .i64 ((ofGauge (p_gauges_g i)).across.lo), .int .i64 ((ofGauge (p_gauges_g i)).across.hi), .int .i64 ((ofGauge (p_gauges_g i)).bend)]) ∧ (∀ i, i < p_marks_n → p_marks_g i = [.int .i64 ((ofMark (p_marks_g i)).edge), .int .i64 ((ofMark (p_marks_g i)).place), .int .i64 ((ofMark (p_marks_g i)).tone)]) ∧ g_Reset_p (⟨p_id, p_colour, p_rev, p_made, p_swell, (⟨p_gauges_n, fun i => ofGauge (p_gauges_g i)⟩ : (L.Sq L.Gauge)), (⟨p_marks_n, fun i => ofMark (p_marks_g i)⟩ : (L.Sq L.Mark))⟩ : L.Piece) (⟨s_shift, s_back⟩ : L.Setting), g_Reset_r (⟨p_id, p_colour, p_rev, p_made, p_swell, (⟨p_gauges_n, fun i => ofGauge (p_gauges_g i)⟩ : (L.Sq L.Gauge)), (⟨p_marks_n, fun i => ofMark (p_marks_g i)⟩ : (L.Sq L.Mark))⟩ : L.Piece) (⟨s_shift, s_back⟩ : L.Setting))
  | _ => none
abbrev g_Reset_S : SE.Spec := (specO g_Reset_s)
def g_Reset_C : Cfg := { muts := [4], frz := lookN [], specs := lookS [(61, g_wrong_S), (62, g_reset_S)], loops := lookL [], iters := lookI [], rfs := lookR [], nils := lookM [] }
theorem g_Reset_vc (p : L.Piece) (s : L.Setting) (hp : g_Reset_p p s) : vc Tryz.prog (g_Reset_C) (bodyOf Tryz.f12) (st0 Tryz.f12 [.p (.agg [.int .i64 p.id, .int .i64 p.colour, .int .i64 p.rev, .int .i64 p.made, .int .i64 p.swell, .sl 5 p.gauges.n (fun i => [.int .i64 ((p.gauges.g i).edge.lo), .int .i64 ((p.gauges.g i).edge.hi), .int .i64 ((p.gauges.g i).across.lo), .int .i64 ((p.gauges.g i).across.hi), .int .i64 ((p.gauges.g i).bend)]), .sl 3 p.marks.n (fun i => [.int .i64 ((p.marks.g i).edge), .int .i64 ((p.marks.g i).place), .int .i64 ((p.marks.g i).tone)])]), .p (.agg [.int .i64 s.shift, .bool s.back])]) (retFn Tryz.prog Tryz.f12 (g_Reset_r p s)) :=
  @Eq.mpr _ (((∀ (i : Nat), i < p.gauges.n → [Go.SE.SV.int Go.IntKind.i64 (p.gauges.g i).edge.lo, Go.SE.SV.int Go.IntKind.i64 (p.gauges.g i).edge.hi, Go.SE.SV.int Go.IntKind.i64 (p.gauges.g i).across.lo, Go.SE.SV.int Go.IntKind.i64 (p.gauges.g i).across.hi, Go.SE.SV.int Go.IntKind.i64 (p.gauges.g i).bend] = [Go.SE.SV.int Go.IntKind.i64 (p.gauges.g i).edge.lo, Go.SE.SV.int Go.IntKind.i64 (p.gauges.g i).edge.hi,
 Go.SE.SV.int Go.IntKind.i64 (p.gauges.g i).across.lo, Go.SE.SV.int Go.IntKind.i64 (p.gauges.g i).across.hi, Go.SE.SV.int Go.IntKind.i64 (p.gauges.g i).bend]) ∧ (∀ (i : Nat), i < p.marks.n → [Go.SE.SV.int Go.IntKind.i64 (p.marks.g i).edge, Go.SE.SV.int Go.IntKind.i64 (p.marks.g i).place, Go.SE.SV.int Go.IntKind.i64 (p.marks.g i).tone] = [Go.SE.SV.int Go.IntKind.i64 (p.marks.g i).edge, Go.SE.SV.int
 Go.IntKind.i64 (p.marks.g i).place, Go.SE.SV.int Go.IntKind.i64 (p.marks.g i).tone]) ∧ p.gauges.n ≤ (1000000 : Nat) ∧ p.marks.n ≤ (1000000 : Nat)) ∧ ((!Decidable.decide (L.wrE (L.Piece.mk p.id p.colour p.rev p.made p.swell (L.Sq.mk p.gauges.n fun (i : Nat) ↦ p.gauges.g i) (L.Sq.mk p.marks.n fun (i : Nat) ↦ p.marks.g i)) s = (0 : Int))) = Bool.true → (0 : Int) = (L.rsV p s).id ∧ (0 : Int) = (L.rsV
 p s).colour ∧ (0 : Int) = (L.rsV p s).rev ∧ (0 : Int) = (L.rsV p s).made ∧ (0 : Int) = (L.rsV p s).swell ∧ (L.rsV p s).gauges.n = (0 : Nat) ∧ (L.rsV p s).marks.n = (0 : Nat) ∧ L.wrE (L.Piece.mk p.id p.colour p.rev p.made p.swell (L.Sq.mk p.gauges.n fun (i : Nat) ↦ p.gauges.g i) (L.Sq.mk p.marks.n fun (i : Nat) ↦ p.marks.g i)) s = L.wrE p s) ∧ ((!Decidable.decide (L.wrE (L.Piece.mk p.id p.colour
 p.rev p.made p.swell (L.Sq.mk p.gauges.n fun (i : Nat) ↦ p.gauges.g i) (L.Sq.mk p.marks.n fun (i : Nat) ↦ p.marks.g i)) s = (0 : Int))) = Bool.false → ((∀ (i : Nat), i < p.gauges.n → [Go.SE.SV.int Go.IntKind.i64 (p.gauges.g i).edge.lo, Go.SE.SV.int Go.IntKind.i64 (p.gauges.g i).edge.hi, Go.SE.SV.int Go.IntKind.i64 (p.gauges.g i).across.lo, Go.SE.SV.int Go.IntKind.i64 (p.gauges.g i).across.hi,
 Go.SE.SV.int Go.IntKind.i64 (p.gauges.g i).bend] = [Go.SE.SV.int Go.IntKind.i64 (p.gauges.g i).edge.lo, Go.SE.SV.int Go.IntKind.i64 (p.gauges.g i).edge.hi, Go.SE.SV.int Go.IntKind.i64 (p.gauges.g i).across.lo, Go.SE.SV.int Go.IntKind.i64 (p.gauges.g i).across.hi, Go.SE.SV.int Go.IntKind.i64 (p.gauges.g i).bend]) ∧ (∀ (i : Nat), i < p.marks.n → [Go.SE.SV.int Go.IntKind.i64 (p.marks.g i).edge,
 Go.SE.SV.int Go.IntKind.i64 (p.marks.g i).place, Go.SE.SV.int Go.IntKind.i64 (p.marks.g i).tone] = [Go.SE.SV.int Go.IntKind.i64 (p.marks.g i).edge, Go.SE.SV.int Go.IntKind.i64 (p.marks.g i).place, Go.SE.SV.int Go.IntKind.i64 (p.marks.g i).tone]) ∧ L.validPiece (L.Piece.mk p.id p.colour p.rev p.made p.swell (L.Sq.mk p.gauges.n fun (i : Nat) ↦ p.gauges.g i) (L.Sq.mk p.marks.n fun (i : Nat) ↦
 p.marks.g i)) = Bool.true ∧ L.validSet s (↑p.gauges.n : Int) = Bool.true) ∧ (L.rs (L.Piece.mk p.id p.colour p.rev p.made p.swell (L.Sq.mk p.gauges.n fun (i : Nat) ↦ p.gauges.g i) (L.Sq.mk p.marks.n fun (i : Nat) ↦ p.marks.g i)) s).id = (L.rsV p s).id ∧ (L.rs (L.Piece.mk p.id p.colour p.rev p.made p.swell (L.Sq.mk p.gauges.n fun (i : Nat) ↦ p.gauges.g i) (L.Sq.mk p.marks.n fun (i : Nat) ↦ p.marks.g
 i)) s).colour = (L.rsV p s).colour ∧ (L.rs (L.Piece.mk p.id p.colour p.rev p.made p.swell (L.Sq.mk p.gauges.n fun (i : Nat) ↦ p.gauges.g i) (L.Sq.mk p.marks.n fun (i : Nat) ↦ p.marks.g i)) s).rev = (L.rsV p s).rev ∧ (L.rs (L.Piece.mk p.id p.colour p.rev p.made p.swell (L.Sq.mk p.gauges.n fun (i : Nat) ↦ p.gauges.g i) (L.Sq.mk p.marks.n fun (i : Nat) ↦ p.marks.g i)) s).made = (L.rsV p s).made ∧
 (L.rs (L.Piece.mk p.id p.colour p.rev p.made p.swell (L.Sq.mk p.gauges.n fun (i : Nat) ↦ p.gauges.g i) (L.Sq.mk p.marks.n fun (i : Nat) ↦ p.marks.g i)) s).swell = (L.rsV p s).swell ∧ ((L.rs (L.Piece.mk p.id p.colour p.rev p.made p.swell (L.Sq.mk p.gauges.n fun (i : Nat) ↦ p.gauges.g i) (L.Sq.mk p.marks.n fun (i : Nat) ↦ p.marks.g i)) s).gauges.n = (L.rsV p s).gauges.n ∧ ∀ (i : Nat), i < (L.rs
 (L.Piece.mk p.id p.colour p.rev p.made p.swell (L.Sq.mk p.gauges.n fun (i : Nat) ↦ p.gauges.g i) (L.Sq.mk p.marks.n fun (i : Nat) ↦ p.marks.g i)) s).gauges.n → [Go.SE.SV.int Go.IntKind.i64 ((L.rs (L.Piece.mk p.id p.colour p.rev p.made p.swell (L.Sq.mk p.gauges.n fun (i : Nat) ↦ p.gauges.g i) (L.Sq.mk p.marks.n fun (i : Nat) ↦ p.marks.g i)) s).gauges.g i).edge.lo, Go.SE.SV.int Go.IntKind.i64 ((L.rs
 (L.Piece.mk p.id p.colour p.rev p.made p.swell (L.Sq.mk p.gauges.n fun (i : Nat) ↦ p.gauges.g i) (L.Sq.mk p.marks.n fun (i : Nat) ↦ p.marks.g i)) s).gauges.g i).edge.hi, Go.SE.SV.int Go.IntKind.i64 ((L.rs (L.Piece.mk p.id p.colour p.rev p.made p.swell (L.Sq.mk p.gauges.n fun (i : Nat) ↦ p.gauges.g i) (L.Sq.mk p.marks.n fun (i : Nat) ↦ p.marks.g i)) s).gauges.g i).across.lo, Go.SE.SV.int
 Go.IntKind.i64 ((L.rs (L.Piece.mk p.id p.colour p.rev p.made p.swell (L.Sq.mk p.gauges.n fun (i : Nat) ↦ p.gauges.g i) (L.Sq.mk p.marks.n fun (i : Nat) ↦ p.marks.g i)) s).gauges.g i).across.hi, Go.SE.SV.int Go.IntKind.i64 ((L.rs (L.Piece.mk p.id p.colour p.rev p.made p.swell (L.Sq.mk p.gauges.n fun (i : Nat) ↦ p.gauges.g i) (L.Sq.mk p.marks.n fun (i : Nat) ↦ p.marks.g i)) s).gauges.g i).bend] =
 [Go.SE.SV.int Go.IntKind.i64 ((L.rsV p s).gauges.g i).edge.lo, Go.SE.SV.int Go.IntKind.i64 ((L.rsV p s).gauges.g i).edge.hi, Go.SE.SV.int Go.IntKind.i64 ((L.rsV p s).gauges.g i).across.lo, Go.SE.SV.int Go.IntKind.i64 ((L.rsV p s).gauges.g i).across.hi, Go.SE.SV.int Go.IntKind.i64 ((L.rsV p s).gauges.g i).bend]) ∧ ((L.rs (L.Piece.mk p.id p.colour p.rev p.made p.swell (L.Sq.mk p.gauges.n fun (i :
 Nat) ↦ p.gauges.g i) (L.Sq.mk p.marks.n fun (i : Nat) ↦ p.marks.g i)) s).marks.n = (L.rsV p s).marks.n ∧ ∀ (i : Nat), i < (L.rs (L.Piece.mk p.id p.colour p.rev p.made p.swell (L.Sq.mk p.gauges.n fun (i : Nat) ↦ p.gauges.g i) (L.Sq.mk p.marks.n fun (i : Nat) ↦ p.marks.g i)) s).marks.n → [Go.SE.SV.int Go.IntKind.i64 ((L.rs (L.Piece.mk p.id p.colour p.rev p.made p.swell (L.Sq.mk p.gauges.n fun (i :
 Nat) ↦ p.gauges.g i) (L.Sq.mk p.marks.n fun (i : Nat) ↦ p.marks.g i)) s).marks.g i).edge, Go.SE.SV.int Go.IntKind.i64 ((L.rs (L.Piece.mk p.id p.colour p.rev p.made p.swell (L.Sq.mk p.gauges.n fun (i : Nat) ↦ p.gauges.g i) (L.Sq.mk p.marks.n fun (i : Nat) ↦ p.marks.g i)) s).marks.g i).place, Go.SE.SV.int Go.IntKind.i64 ((L.rs (L.Piece.mk p.id p.colour p.rev p.made p.swell (L.Sq.mk p.gauges.n fun (i
 : Nat) ↦ p.gauges.g i) (L.Sq.mk p.marks.n fun (i : Nat) ↦ p.marks.g i)) s).marks.g i).tone] = [Go.SE.SV.int Go.IntKind.i64 ((L.rsV p s).marks.g i).edge, Go.SE.SV.int Go.IntKind.i64 ((L.rsV p s).marks.g i).place, Go.SE.SV.int Go.IntKind.i64 ((L.rsV p s).marks.g i).tone]) ∧ (0 : Int) = L.wrE p s)) (by kernel_rfl) (by
    refine ⟨⟨fun _ _ => rfl, fun _ _ => rfl, hp.1, hp.2⟩, fun h => ?_, fun h => ?_⟩
    · have hne : L.wrE p s ≠ 0 := of_decide_eq_false (notT h)
      rcases wrE_cases p s with ⟨e, _⟩ | ⟨_, e⟩
      · exact absurd e hne
      · rw [e]; exact ⟨rfl, rfl, rfl, rfl, rfl, rfl, rfl, rfl⟩
    · have h0 : L.wrE p s = 0 := of_decide_eq_true (notF h)
      rcases wrE_cases p s with ⟨_, hv, hs, e⟩ | ⟨hne, _⟩
      · rw [e]; exact ⟨⟨fun _ _ => rfl, fun _ _ => rfl, hv, hs⟩, rfl, rfl, rfl, rfl, rfl, ⟨rfl, fun _ _ => rfl⟩, ⟨rfl, fun _ _ => rfl⟩, h0.symm⟩
      · exact absurd h0 hne)
theorem g_Reset_ok : SpecOk Tryz.prog 12 g_Reset_S := fnX Tryz.func12 (c := bodyOf Tryz.f12) (by kernel_rfl) mixed (fun args p r hs hp => by
  unfold g_Reset_s at hs
  split at hs
  · cases hs; exact ⟨_, _, g_Reset_vc _ _ hp.2.2, (.p (.agg rfl (fun i hi => by
      rcases i with _ | i
      · exact (Ext.refl _ : Ext _ _)
      rcases i with _ | i
      · exact (Ext.refl _ : Ext _ _)
      rcases i with _ | i
      · exact (Ext.refl _ : Ext _ _)
      rcases i with _ | i
      · exact (Ext.refl _ : Ext _ _)
      rcases i with _ | i
      · exact (Ext.refl _ : Ext _ _)
      rcases i with _ | i
      · exact (Ext.sl hp.1 : Ext _ _)
      rcases i with _ | i
      · exact (Ext.sl hp.2.1 : Ext _ _)
      exact absurd hi (by simp; try omega))) (.same _ .nil)), ⟨show SpecsL Tryz.prog _ from (SpecsL.cons g_wrong_ok g_wrong_en (SpecsL.cons g_reset_ok g_reset_en SpecsL.nil)), rfl, ⟨show ItersL Tryz.prog _ from ItersL.nil, (TrsOk.none (fun _ => rfl))⟩⟩⟩
  · cases hs)
theorem g_Reset_en : Enters Tryz.prog 12 := fun args w => by kernel_rfl
def g_Shows_p (p : L.Piece) (s : L.Setting) : Prop := p.gauges.n ≤ 1000000 ∧ p.marks.n ≤ 1000000
def g_Shows_r (p : L.Piece) (s : L.Setting) : SV := .tup [.int .i64 (L.rsV p s).colour, .int .i64 (L.wrE p s)]
def g_Shows_s : List EV → Option (Prop × SV)
  | [.p (.agg [.int .i64 p_id, .int .i64 p_colour, .int .i64 p_rev, .int .i64 p_made, .int .i64 p_swell, .sl 5 p_gauges_n p_gauges_g, .sl 3 p_marks_n p_marks_g]), .p (.agg [.int .i64 s_shift, .bool s_back])] => some ((∀ i, i < p_gauges_n → p_gauges_g i = [.int .i64 ((ofGauge (p_gauges_g i)).edge.lo), .int .i64 ((ofGauge (p_gauges_g i)).edge.hi), .int .i64 ((ofGauge (p_gauges_g i)).across.lo), .int .i64 ((ofGauge (p_gauges_g i)).across.hi), .int .i64 ((ofGauge (p_gauges_g i)).bend)]) ∧ (∀ i, i < p_marks_n → p_marks_g i = [.int .i64 ((ofMark (p_marks_g i)).edge), .int .i64 ((ofMark (p_marks_g i)).place), .int .i64 ((ofMark (p_marks_g i)).tone)]) ∧ g_Shows_p (⟨p_id, p_colour, p_rev, p_made, p_swell, (⟨p_gauges_n, fun i => ofGauge (p_gauges_g i)⟩ : (L.Sq L.Gauge)), (⟨p_marks_n, fun i => ofMark (p_marks_g i)⟩ : (L.Sq L.Mark))⟩ : L.Piece) (⟨s_shift, s_back⟩ : L.Setting), g_Shows_r (⟨p_id, p_colour, p_rev, p_made, p_swell, (⟨p_gauges_n, fun i => ofGauge (p_gauges_g i)⟩ : (L.Sq L.Gauge)), (⟨p_marks_n, fun i => ofMark (p_marks_g i)⟩ : (L.Sq L.Mark))⟩ : L.Piece) (⟨s_shift, s_back⟩ : L.Setting))
  | _ => none
abbrev g_Shows_S : SE.Spec := (specO g_Shows_s)
def g_Shows_C : Cfg := { muts := [], frz := lookN [], specs := lookS [(61, g_wrong_S)], loops := lookL [], iters := lookI [], rfs := lookR [], nils := lookM [] }
theorem g_Shows_vc (p : L.Piece) (s : L.Setting) (hp : g_Shows_p p s) : vc Tryz.prog (g_Shows_C) (bodyOf Tryz.f14) (st0 Tryz.f14 [.p (.agg [.int .i64 p.id, .int .i64 p.colour, .int .i64 p.rev, .int .i64 p.made, .int .i64 p.swell, .sl 5 p.gauges.n (fun i => [.int .i64 ((p.gauges.g i).edge.lo), .int .i64 ((p.gauges.g i).edge.hi), .int .i64 ((p.gauges.g i).across.lo), .int .i64 ((p.gauges.g i).across.hi), .int .i64 ((p.gauges.g i).bend)]), .sl 3 p.marks.n (fun i => [.int .i64 ((p.marks.g i).edge), .int .i64 ((p.marks.g i).place), .int .i64 ((p.marks.g i).tone)])]), .p (.agg [.int .i64 s.shift, .bool s.back])]) (retFn Tryz.prog Tryz.f14 (g_Shows_r p s)) :=
  @Eq.mpr _ (((∀ (i : Nat), i < p.gauges.n → [Go.SE.SV.int Go.IntKind.i64 (p.gauges.g i).edge.lo, Go.SE.SV.int Go.IntKind.i64 (p.gauges.g i).edge.hi, Go.SE.SV.int Go.IntKind.i64 (p.gauges.g i).across.lo, Go.SE.SV.int Go.IntKind.i64 (p.gauges.g i).across.hi, Go.SE.SV.int Go.IntKind.i64 (p.gauges.g i).bend] = [Go.SE.SV.int Go.IntKind.i64 (p.gauges.g i).edge.lo, Go.SE.SV.int Go.IntKind.i64 (p.gauges.g i).edge.hi,
 Go.SE.SV.int Go.IntKind.i64 (p.gauges.g i).across.lo, Go.SE.SV.int Go.IntKind.i64 (p.gauges.g i).across.hi, Go.SE.SV.int Go.IntKind.i64 (p.gauges.g i).bend]) ∧ (∀ (i : Nat), i < p.marks.n → [Go.SE.SV.int Go.IntKind.i64 (p.marks.g i).edge, Go.SE.SV.int Go.IntKind.i64 (p.marks.g i).place, Go.SE.SV.int Go.IntKind.i64 (p.marks.g i).tone] = [Go.SE.SV.int Go.IntKind.i64 (p.marks.g i).edge, Go.SE.SV.int
 Go.IntKind.i64 (p.marks.g i).place, Go.SE.SV.int Go.IntKind.i64 (p.marks.g i).tone]) ∧ p.gauges.n ≤ (1000000 : Nat) ∧ p.marks.n ≤ (1000000 : Nat)) ∧ ((!Decidable.decide (L.wrE (L.Piece.mk p.id p.colour p.rev p.made p.swell (L.Sq.mk p.gauges.n fun (i : Nat) ↦ p.gauges.g i) (L.Sq.mk p.marks.n fun (i : Nat) ↦ p.marks.g i)) s = (0 : Int))) = Bool.true → (0 : Int) = (L.rsV p s).colour ∧ L.wrE
 (L.Piece.mk p.id p.colour p.rev p.made p.swell (L.Sq.mk p.gauges.n fun (i : Nat) ↦ p.gauges.g i) (L.Sq.mk p.marks.n fun (i : Nat) ↦ p.marks.g i)) s = L.wrE p s) ∧ ((!Decidable.decide (L.wrE (L.Piece.mk p.id p.colour p.rev p.made p.swell (L.Sq.mk p.gauges.n fun (i : Nat) ↦ p.gauges.g i) (L.Sq.mk p.marks.n fun (i : Nat) ↦ p.marks.g i)) s = (0 : Int))) = Bool.false → (s.back = Bool.true → p.rev =
 (L.rsV p s).colour ∧ (0 : Int) = L.wrE p s) ∧ (s.back = Bool.false → p.colour = (L.rsV p s).colour ∧ (0 : Int) = L.wrE p s))) (by kernel_rfl) (by
    refine ⟨⟨fun _ _ => rfl, fun _ _ => rfl, hp.1, hp.2⟩, fun h => ?_, fun h => ?_⟩
    · have hne : L.wrE p s ≠ 0 := of_decide_eq_false (notT h)
      rcases wrE_cases p s with ⟨e, _⟩ | ⟨_, e⟩
      · exact absurd e hne
      · rw [e]; exact ⟨rfl, rfl⟩
    · have h0 : L.wrE p s = 0 := of_decide_eq_true (notF h)
      rcases wrE_cases p s with ⟨_, hv, hs, e⟩ | ⟨hne, _⟩
      · rw [e]
        refine ⟨fun hk => ⟨?_, h0.symm⟩, fun hk => ⟨?_, h0.symm⟩⟩
        · unfold L.rs; rw [hk]; rfl
        · unfold L.rs; rw [hk]; rfl
      · exact absurd h0 hne)
theorem g_Shows_ok : SpecOk Tryz.prog 14 g_Shows_S := fnX Tryz.func14 (c := bodyOf Tryz.f14) (by kernel_rfl) mixed (fun args p r hs hp => by
  unfold g_Shows_s at hs
  split at hs
  · cases hs; exact ⟨_, _, g_Shows_vc _ _ hp.2.2, (.p (.agg rfl (fun i hi => by
      rcases i with _ | i
      · exact (Ext.refl _ : Ext _ _)
      rcases i with _ | i
      · exact (Ext.refl _ : Ext _ _)
      rcases i with _ | i
      · exact (Ext.refl _ : Ext _ _)
      rcases i with _ | i
      · exact (Ext.refl _ : Ext _ _)
      rcases i with _ | i
      · exact (Ext.refl _ : Ext _ _)
      rcases i with _ | i
      · exact (Ext.sl hp.1 : Ext _ _)
      rcases i with _ | i
      · exact (Ext.sl hp.2.1 : Ext _ _)
      exact absurd hi (by simp; try omega))) (.same _ .nil)), ⟨show SpecsL Tryz.prog _ from (SpecsL.cons g_wrong_ok g_wrong_en SpecsL.nil), rfl, ⟨show ItersL Tryz.prog _ from ItersL.nil, (TrsOk.none (fun _ => rfl))⟩⟩⟩
  · cases hs)
theorem g_Shows_en : Enters Tryz.prog 14 := fun args w => by kernel_rfl
def g_Marks_p (p : L.Piece) (s : L.Setting) : Prop := p.gauges.n ≤ 1000000 ∧ p.marks.n ≤ 1000000
def g_Marks_r (p : L.Piece) (s : L.Setting) : SV := .tup [.sl 3 (L.rsV p s).marks.n (fun k => [.int .i64 (((L.rsV p s).marks.g k).edge), .int .i64 (((L.rsV p s).marks.g k).place), .int .i64 (((L.rsV p s).marks.g k).tone)]), .int .i64 (L.wrE p s)]
def g_Marks_s : List EV → Option (Prop × SV)
  | [.p (.agg [.int .i64 p_id, .int .i64 p_colour, .int .i64 p_rev, .int .i64 p_made, .int .i64 p_swell, .sl 5 p_gauges_n p_gauges_g, .sl 3 p_marks_n p_marks_g]), .p (.agg [.int .i64 s_shift, .bool s_back])] => some ((∀ i, i < p_gauges_n → p_gauges_g i = [.int .i64 ((ofGauge (p_gauges_g i)).edge.lo), .int .i64 ((ofGauge (p_gauges_g i)).edge.hi), .int .i64 ((ofGauge (p_gauges_g i)).across.lo), .int .i64 ((ofGauge (p_gauges_g i)).across.hi), .int .i64 ((ofGauge (p_gauges_g i)).bend)]) ∧ (∀ i, i < p_marks_n → p_marks_g i = [.int .i64 ((ofMark (p_marks_g i)).edge), .int .i64 ((ofMark (p_marks_g i)).place), .int .i64 ((ofMark (p_marks_g i)).tone)]) ∧ g_Marks_p (⟨p_id, p_colour, p_rev, p_made, p_swell, (⟨p_gauges_n, fun i => ofGauge (p_gauges_g i)⟩ : (L.Sq L.Gauge)), (⟨p_marks_n, fun i => ofMark (p_marks_g i)⟩ : (L.Sq L.Mark))⟩ : L.Piece) (⟨s_shift, s_back⟩ : L.Setting), g_Marks_r (⟨p_id, p_colour, p_rev, p_made, p_swell, (⟨p_gauges_n, fun i => ofGauge (p_gauges_g i)⟩ : (L.Sq L.Gauge)), (⟨p_marks_n, fun i => ofMark (p_marks_g i)⟩ : (L.Sq L.Mark))⟩ : L.Piece) (⟨s_shift, s_back⟩ : L.Setting))
  | _ => none
abbrev g_Marks_S : SE.Spec := (specO g_Marks_s)
def g_Marks_C : Cfg := { muts := [], frz := lookN [], specs := lookS [(61, g_wrong_S), (62, g_reset_S)], loops := lookL [], iters := lookI [], rfs := lookR [], nils := lookM [] }
theorem g_Marks_vc (p : L.Piece) (s : L.Setting) (hp : g_Marks_p p s) : vc Tryz.prog (g_Marks_C) (bodyOf Tryz.f16) (st0 Tryz.f16 [.p (.agg [.int .i64 p.id, .int .i64 p.colour, .int .i64 p.rev, .int .i64 p.made, .int .i64 p.swell, .sl 5 p.gauges.n (fun i => [.int .i64 ((p.gauges.g i).edge.lo), .int .i64 ((p.gauges.g i).edge.hi), .int .i64 ((p.gauges.g i).across.lo), .int .i64 ((p.gauges.g i).across.hi), .int .i64 ((p.gauges.g i).bend)]), .sl 3 p.marks.n (fun i => [.int .i64 ((p.marks.g i).edge), .int .i64 ((p.marks.g i).place), .int .i64 ((p.marks.g i).tone)])]), .p (.agg [.int .i64 s.shift, .bool s.back])]) (retFn Tryz.prog Tryz.f16 (g_Marks_r p s)) :=
  @Eq.mpr _ (((∀ (i : Nat), i < p.gauges.n → [Go.SE.SV.int Go.IntKind.i64 (p.gauges.g i).edge.lo, Go.SE.SV.int Go.IntKind.i64 (p.gauges.g i).edge.hi, Go.SE.SV.int Go.IntKind.i64 (p.gauges.g i).across.lo, Go.SE.SV.int Go.IntKind.i64 (p.gauges.g i).across.hi, Go.SE.SV.int Go.IntKind.i64 (p.gauges.g i).bend] = [Go.SE.SV.int Go.IntKind.i64 (p.gauges.g i).edge.lo, Go.SE.SV.int Go.IntKind.i64 (p.gauges.g i).edge.hi,
 Go.SE.SV.int Go.IntKind.i64 (p.gauges.g i).across.lo, Go.SE.SV.int Go.IntKind.i64 (p.gauges.g i).across.hi, Go.SE.SV.int Go.IntKind.i64 (p.gauges.g i).bend]) ∧ (∀ (i : Nat), i < p.marks.n → [Go.SE.SV.int Go.IntKind.i64 (p.marks.g i).edge, Go.SE.SV.int Go.IntKind.i64 (p.marks.g i).place, Go.SE.SV.int Go.IntKind.i64 (p.marks.g i).tone] = [Go.SE.SV.int Go.IntKind.i64 (p.marks.g i).edge, Go.SE.SV.int
 Go.IntKind.i64 (p.marks.g i).place, Go.SE.SV.int Go.IntKind.i64 (p.marks.g i).tone]) ∧ p.gauges.n ≤ (1000000 : Nat) ∧ p.marks.n ≤ (1000000 : Nat)) ∧ ((!Decidable.decide (L.wrE (L.Piece.mk p.id p.colour p.rev p.made p.swell (L.Sq.mk p.gauges.n fun (i : Nat) ↦ p.gauges.g i) (L.Sq.mk p.marks.n fun (i : Nat) ↦ p.marks.g i)) s = (0 : Int))) = Bool.true → (L.rsV p s).marks.n = (0 : Nat) ∧ L.wrE
 (L.Piece.mk p.id p.colour p.rev p.made p.swell (L.Sq.mk p.gauges.n fun (i : Nat) ↦ p.gauges.g i) (L.Sq.mk p.marks.n fun (i : Nat) ↦ p.marks.g i)) s = L.wrE p s) ∧ ((!Decidable.decide (L.wrE (L.Piece.mk p.id p.colour p.rev p.made p.swell (L.Sq.mk p.gauges.n fun (i : Nat) ↦ p.gauges.g i) (L.Sq.mk p.marks.n fun (i : Nat) ↦ p.marks.g i)) s = (0 : Int))) = Bool.false → ((∀ (i : Nat), i < p.gauges.n →
 [Go.SE.SV.int Go.IntKind.i64 (p.gauges.g i).edge.lo, Go.SE.SV.int Go.IntKind.i64 (p.gauges.g i).edge.hi, Go.SE.SV.int Go.IntKind.i64 (p.gauges.g i).across.lo, Go.SE.SV.int Go.IntKind.i64 (p.gauges.g i).across.hi, Go.SE.SV.int Go.IntKind.i64 (p.gauges.g i).bend] = [Go.SE.SV.int Go.IntKind.i64 (p.gauges.g i).edge.lo, Go.SE.SV.int Go.IntKind.i64 (p.gauges.g i).edge.hi, Go.SE.SV.int Go.IntKind.i64
 (p.gauges.g i).across.lo, Go.SE.SV.int Go.IntKind.i64 (p.gauges.g i).across.hi, Go.SE.SV.int Go.IntKind.i64 (p.gauges.g i).bend]) ∧ (∀ (i : Nat), i < p.marks.n → [Go.SE.SV.int Go.IntKind.i64 (p.marks.g i).edge, Go.SE.SV.int Go.IntKind.i64 (p.marks.g i).place, Go.SE.SV.int Go.IntKind.i64 (p.marks.g i).tone] = [Go.SE.SV.int Go.IntKind.i64 (p.marks.g i).edge, Go.SE.SV.int Go.IntKind.i64 (p.marks.g
 i).place, Go.SE.SV.int Go.IntKind.i64 (p.marks.g i).tone]) ∧ L.validPiece (L.Piece.mk p.id p.colour p.rev p.made p.swell (L.Sq.mk p.gauges.n fun (i : Nat) ↦ p.gauges.g i) (L.Sq.mk p.marks.n fun (i : Nat) ↦ p.marks.g i)) = Bool.true ∧ L.validSet s (↑p.gauges.n : Int) = Bool.true) ∧ ((L.rs (L.Piece.mk p.id p.colour p.rev p.made p.swell (L.Sq.mk p.gauges.n fun (i : Nat) ↦ p.gauges.g i) (L.Sq.mk
 p.marks.n fun (i : Nat) ↦ p.marks.g i)) s).marks.n = (L.rsV p s).marks.n ∧ ∀ (i : Nat), i < (L.rs (L.Piece.mk p.id p.colour p.rev p.made p.swell (L.Sq.mk p.gauges.n fun (i : Nat) ↦ p.gauges.g i) (L.Sq.mk p.marks.n fun (i : Nat) ↦ p.marks.g i)) s).marks.n → [Go.SE.SV.int Go.IntKind.i64 ((L.rs (L.Piece.mk p.id p.colour p.rev p.made p.swell (L.Sq.mk p.gauges.n fun (i : Nat) ↦ p.gauges.g i) (L.Sq.mk
 p.marks.n fun (i : Nat) ↦ p.marks.g i)) s).marks.g i).edge, Go.SE.SV.int Go.IntKind.i64 ((L.rs (L.Piece.mk p.id p.colour p.rev p.made p.swell (L.Sq.mk p.gauges.n fun (i : Nat) ↦ p.gauges.g i) (L.Sq.mk p.marks.n fun (i : Nat) ↦ p.marks.g i)) s).marks.g i).place, Go.SE.SV.int Go.IntKind.i64 ((L.rs (L.Piece.mk p.id p.colour p.rev p.made p.swell (L.Sq.mk p.gauges.n fun (i : Nat) ↦ p.gauges.g i)
 (L.Sq.mk p.marks.n fun (i : Nat) ↦ p.marks.g i)) s).marks.g i).tone] = [Go.SE.SV.int Go.IntKind.i64 ((L.rsV p s).marks.g i).edge, Go.SE.SV.int Go.IntKind.i64 ((L.rsV p s).marks.g i).place, Go.SE.SV.int Go.IntKind.i64 ((L.rsV p s).marks.g i).tone]) ∧ (0 : Int) = L.wrE p s)) (by kernel_rfl) (by
    refine ⟨⟨fun _ _ => rfl, fun _ _ => rfl, hp.1, hp.2⟩, fun h => ?_, fun h => ?_⟩
    · have hne : L.wrE p s ≠ 0 := of_decide_eq_false (notT h)
      rcases wrE_cases p s with ⟨e, _⟩ | ⟨_, e⟩
      · exact absurd e hne
      · rw [e]; exact ⟨rfl, rfl⟩
    · have h0 : L.wrE p s = 0 := of_decide_eq_true (notF h)
      rcases wrE_cases p s with ⟨_, hv, hs, e⟩ | ⟨hne, _⟩
      · rw [e]; exact ⟨⟨fun _ _ => rfl, fun _ _ => rfl, hv, hs⟩, ⟨rfl, fun _ _ => rfl⟩, h0.symm⟩
      · exact absurd h0 hne)
theorem g_Marks_ok : SpecOk Tryz.prog 16 g_Marks_S := fnX Tryz.func16 (c := bodyOf Tryz.f16) (by kernel_rfl) mixed (fun args p r hs hp => by
  unfold g_Marks_s at hs
  split at hs
  · cases hs; exact ⟨_, _, g_Marks_vc _ _ hp.2.2, (.p (.agg rfl (fun i hi => by
      rcases i with _ | i
      · exact (Ext.refl _ : Ext _ _)
      rcases i with _ | i
      · exact (Ext.refl _ : Ext _ _)
      rcases i with _ | i
      · exact (Ext.refl _ : Ext _ _)
      rcases i with _ | i
      · exact (Ext.refl _ : Ext _ _)
      rcases i with _ | i
      · exact (Ext.refl _ : Ext _ _)
      rcases i with _ | i
      · exact (Ext.sl hp.1 : Ext _ _)
      rcases i with _ | i
      · exact (Ext.sl hp.2.1 : Ext _ _)
      exact absurd hi (by simp; try omega))) (.same _ .nil)), ⟨show SpecsL Tryz.prog _ from (SpecsL.cons g_wrong_ok g_wrong_en (SpecsL.cons g_reset_ok g_reset_en SpecsL.nil)), rfl, ⟨show ItersL Tryz.prog _ from ItersL.nil, (TrsOk.none (fun _ => rfl))⟩⟩⟩
  · cases hs)
theorem g_Marks_en : Enters Tryz.prog 16 := fun args w => by kernel_rfl
def r3_Reset_p (p : L.Piece) (s : L.Setting) : Prop := p.gauges.n ≤ 1000000 ∧ p.marks.n ≤ 1000000
def r3_Reset_r (p : L.Piece) (s : L.Setting) : SV := .tup [(.agg [.int .i64 ((L.rsV p s).id), .int .i64 ((L.rsV p s).colour), .int .i64 ((L.rsV p s).rev), .int .i64 ((L.rsV p s).made), .int .i64 ((L.rsV p s).swell), .sl 5 (L.rsV p s).gauges.n (fun i => [.int .i64 (((L.rsV p s).gauges.g i).edge.lo), .int .i64 (((L.rsV p s).gauges.g i).edge.hi), .int .i64 (((L.rsV p s).gauges.g i).across.lo), .int .i64 (((L.rsV p s).gauges.g i).across.hi), .int .i64 (((L.rsV p s).gauges.g i).bend)]), .sl 3 (L.rsV p s).marks.n (fun i => [.int .i64 (((L.rsV p s).marks.g i).edge), .int .i64 (((L.rsV p s).marks.g i).place), .int .i64 (((L.rsV p s).marks.g i).tone)])]), .int .i64 (L.wrE p s)]
def r3_Reset_s : List EV → Option (Prop × SV)
  | [.p (.agg [.int .i64 p_id, .int .i64 p_colour, .int .i64 p_rev, .int .i64 p_made, .int .i64 p_swell, .sl 5 p_gauges_n p_gauges_g, .sl 3 p_marks_n p_marks_g]), .p (.agg [.int .i64 s_shift, .bool s_back])] => some ((∀ i, i < p_gauges_n → p_gauges_g i = [.int .i64 ((ofGauge (p_gauges_g i)).edge.lo), .int .i64 ((ofGauge (p_gauges_g i)).edge.hi), .int .i64 ((ofGauge (p_gauges_g i)).across.lo), .int .i64 ((ofGauge (p_gauges_g i)).across.hi), .int .i64 ((ofGauge (p_gauges_g i)).bend)]) ∧ (∀ i, i < p_marks_n → p_marks_g i = [.int .i64 ((ofMark (p_marks_g i)).edge), .int .i64 ((ofMark (p_marks_g i)).place), .int .i64 ((ofMark (p_marks_g i)).tone)]) ∧ r3_Reset_p (⟨p_id, p_colour, p_rev, p_made, p_swell, (⟨p_gauges_n, fun i => ofGauge (p_gauges_g i)⟩ : (L.Sq L.Gauge)), (⟨p_marks_n, fun i => ofMark (p_marks_g i)⟩ : (L.Sq L.Mark))⟩ : L.Piece) (⟨s_shift, s_back⟩ : L.Setting), r3_Reset_r (⟨p_id, p_colour, p_rev, p_made, p_swell, (⟨p_gauges_n, fun i => ofGauge (p_gauges_g i)⟩ : (L.Sq L.Gauge)), (⟨p_marks_n, fun i => ofMark (p_marks_g i)⟩ : (L.Sq L.Mark))⟩ : L.Piece) (⟨s_shift, s_back⟩ : L.Setting))
  | _ => none
abbrev r3_Reset_S : SE.Spec := (specO r3_Reset_s)
def r3_Reset_C : Cfg := { muts := [4], frz := lookN [], specs := lookS [(43, r3_ValidPiece_S), (44, r1_ValidSetting_S), (63, r3_reset_S)], loops := lookL [], iters := lookI [], rfs := lookR [], nils := lookM [] }
theorem r3_Reset_vc (p : L.Piece) (s : L.Setting) (hp : r3_Reset_p p s) : vc Tryz.prog (r3_Reset_C) (bodyOf Tryz.f13) (st0 Tryz.f13 [.p (.agg [.int .i64 p.id, .int .i64 p.colour, .int .i64 p.rev, .int .i64 p.made, .int .i64 p.swell, .sl 5 p.gauges.n (fun i => [.int .i64 ((p.gauges.g i).edge.lo), .int .i64 ((p.gauges.g i).edge.hi), .int .i64 ((p.gauges.g i).across.lo), .int .i64 ((p.gauges.g i).across.hi), .int .i64 ((p.gauges.g i).bend)]), .sl 3 p.marks.n (fun i => [.int .i64 ((p.marks.g i).edge), .int .i64 ((p.marks.g i).place), .int .i64 ((p.marks.g i).tone)])]), .p (.agg [.int .i64 s.shift, .bool s.back])]) (retFn Tryz.prog Tryz.f13 (r3_Reset_r p s)) :=
  @Eq.mpr _ (((∀ (i : Nat), i < p.gauges.n → [Go.SE.SV.int Go.IntKind.i64 (p.gauges.g i).edge.lo, Go.SE.SV.int Go.IntKind.i64 (p.gauges.g i).edge.hi, Go.SE.SV.int Go.IntKind.i64 (p.gauges.g i).across.lo, Go.SE.SV.int Go.IntKind.i64 (p.gauges.g i).across.hi, Go.SE.SV.int Go.IntKind.i64 (p.gauges.g i).bend] = [Go.SE.SV.int Go.IntKind.i64 (p.gauges.g i).edge.lo, Go.SE.SV.int Go.IntKind.i64 (p.gauges.g i).edge.hi,
 Go.SE.SV.int Go.IntKind.i64 (p.gauges.g i).across.lo, Go.SE.SV.int Go.IntKind.i64 (p.gauges.g i).across.hi, Go.SE.SV.int Go.IntKind.i64 (p.gauges.g i).bend]) ∧ (∀ (i : Nat), i < p.marks.n → [Go.SE.SV.int Go.IntKind.i64 (p.marks.g i).edge, Go.SE.SV.int Go.IntKind.i64 (p.marks.g i).place, Go.SE.SV.int Go.IntKind.i64 (p.marks.g i).tone] = [Go.SE.SV.int Go.IntKind.i64 (p.marks.g i).edge, Go.SE.SV.int
 Go.IntKind.i64 (p.marks.g i).place, Go.SE.SV.int Go.IntKind.i64 (p.marks.g i).tone]) ∧ p.gauges.n ≤ (9223372036854775807 : Nat) ∧ p.marks.n ≤ (9223372036854775807 : Nat)) ∧ ((!L.validPiece (L.Piece.mk p.id p.colour p.rev p.made p.swell (L.Sq.mk p.gauges.n fun (i : Nat) ↦ p.gauges.g i) (L.Sq.mk p.marks.n fun (i : Nat) ↦ p.marks.g i))) = Bool.true → (0 : Int) = (L.rsV p s).id ∧ (0 : Int) = (L.rsV p
 s).colour ∧ (0 : Int) = (L.rsV p s).rev ∧ (0 : Int) = (L.rsV p s).made ∧ (0 : Int) = (L.rsV p s).swell ∧ (L.rsV p s).gauges.n = (0 : Nat) ∧ (L.rsV p s).marks.n = (0 : Nat) ∧ (30 : Int) = L.wrE p s) ∧ ((!L.validPiece (L.Piece.mk p.id p.colour p.rev p.made p.swell (L.Sq.mk p.gauges.n fun (i : Nat) ↦ p.gauges.g i) (L.Sq.mk p.marks.n fun (i : Nat) ↦ p.marks.g i))) = Bool.false → True ∧ ((!L.validSet s
 (↑p.gauges.n : Int)) = Bool.true → (0 : Int) = (L.rsV p s).id ∧ (0 : Int) = (L.rsV p s).colour ∧ (0 : Int) = (L.rsV p s).rev ∧ (0 : Int) = (L.rsV p s).made ∧ (0 : Int) = (L.rsV p s).swell ∧ (L.rsV p s).gauges.n = (0 : Nat) ∧ (L.rsV p s).marks.n = (0 : Nat) ∧ (1 : Int) = L.wrE p s) ∧ ((!L.validSet s (↑p.gauges.n : Int)) = Bool.false → ((∀ (i : Nat), i < p.gauges.n → [Go.SE.SV.int Go.IntKind.i64
 (p.gauges.g i).edge.lo, Go.SE.SV.int Go.IntKind.i64 (p.gauges.g i).edge.hi, Go.SE.SV.int Go.IntKind.i64 (p.gauges.g i).across.lo, Go.SE.SV.int Go.IntKind.i64 (p.gauges.g i).across.hi, Go.SE.SV.int Go.IntKind.i64 (p.gauges.g i).bend] = [Go.SE.SV.int Go.IntKind.i64 (p.gauges.g i).edge.lo, Go.SE.SV.int Go.IntKind.i64 (p.gauges.g i).edge.hi, Go.SE.SV.int Go.IntKind.i64 (p.gauges.g i).across.lo,
 Go.SE.SV.int Go.IntKind.i64 (p.gauges.g i).across.hi, Go.SE.SV.int Go.IntKind.i64 (p.gauges.g i).bend]) ∧ (∀ (i : Nat), i < p.marks.n → [Go.SE.SV.int Go.IntKind.i64 (p.marks.g i).edge, Go.SE.SV.int Go.IntKind.i64 (p.marks.g i).place, Go.SE.SV.int Go.IntKind.i64 (p.marks.g i).tone] = [Go.SE.SV.int Go.IntKind.i64 (p.marks.g i).edge, Go.SE.SV.int Go.IntKind.i64 (p.marks.g i).place, Go.SE.SV.int
 Go.IntKind.i64 (p.marks.g i).tone]) ∧ L.validPiece (L.Piece.mk p.id p.colour p.rev p.made p.swell (L.Sq.mk p.gauges.n fun (i : Nat) ↦ p.gauges.g i) (L.Sq.mk p.marks.n fun (i : Nat) ↦ p.marks.g i)) = Bool.true ∧ L.validSet s (↑p.gauges.n : Int) = Bool.true) ∧ (L.rs (L.Piece.mk p.id p.colour p.rev p.made p.swell (L.Sq.mk p.gauges.n fun (i : Nat) ↦ p.gauges.g i) (L.Sq.mk p.marks.n fun (i : Nat) ↦
 p.marks.g i)) s).id = (L.rsV p s).id ∧ (L.rs (L.Piece.mk p.id p.colour p.rev p.made p.swell (L.Sq.mk p.gauges.n fun (i : Nat) ↦ p.gauges.g i) (L.Sq.mk p.marks.n fun (i : Nat) ↦ p.marks.g i)) s).colour = (L.rsV p s).colour ∧ (L.rs (L.Piece.mk p.id p.colour p.rev p.made p.swell (L.Sq.mk p.gauges.n fun (i : Nat) ↦ p.gauges.g i) (L.Sq.mk p.marks.n fun (i : Nat) ↦ p.marks.g i)) s).rev = (L.rsV p s).rev
 ∧ (L.rs (L.Piece.mk p.id p.colour p.rev p.made p.swell (L.Sq.mk p.gauges.n fun (i : Nat) ↦ p.gauges.g i) (L.Sq.mk p.marks.n fun (i : Nat) ↦ p.marks.g i)) s).made = (L.rsV p s).made ∧ (L.rs (L.Piece.mk p.id p.colour p.rev p.made p.swell (L.Sq.mk p.gauges.n fun (i : Nat) ↦ p.gauges.g i) (L.Sq.mk p.marks.n fun (i : Nat) ↦ p.marks.g i)) s).swell = (L.rsV p s).swell ∧ ((L.rs (L.Piece.mk p.id p.colour
 p.rev p.made p.swell (L.Sq.mk p.gauges.n fun (i : Nat) ↦ p.gauges.g i) (L.Sq.mk p.marks.n fun (i : Nat) ↦ p.marks.g i)) s).gauges.n = (L.rsV p s).gauges.n ∧ ∀ (i : Nat), i < (L.rs (L.Piece.mk p.id p.colour p.rev p.made p.swell (L.Sq.mk p.gauges.n fun (i : Nat) ↦ p.gauges.g i) (L.Sq.mk p.marks.n fun (i : Nat) ↦ p.marks.g i)) s).gauges.n → [Go.SE.SV.int Go.IntKind.i64 ((L.rs (L.Piece.mk p.id
 p.colour p.rev p.made p.swell (L.Sq.mk p.gauges.n fun (i : Nat) ↦ p.gauges.g i) (L.Sq.mk p.marks.n fun (i : Nat) ↦ p.marks.g i)) s).gauges.g i).edge.lo, Go.SE.SV.int Go.IntKind.i64 ((L.rs (L.Piece.mk p.id p.colour p.rev p.made p.swell (L.Sq.mk p.gauges.n fun (i : Nat) ↦ p.gauges.g i) (L.Sq.mk p.marks.n fun (i : Nat) ↦ p.marks.g i)) s).gauges.g i).edge.hi, Go.SE.SV.int Go.IntKind.i64 ((L.rs
 (L.Piece.mk p.id p.colour p.rev p.made p.swell (L.Sq.mk p.gauges.n fun (i : Nat) ↦ p.gauges.g i) (L.Sq.mk p.marks.n fun (i : Nat) ↦ p.marks.g i)) s).gauges.g i).across.lo, Go.SE.SV.int Go.IntKind.i64 ((L.rs (L.Piece.mk p.id p.colour p.rev p.made p.swell (L.Sq.mk p.gauges.n fun (i : Nat) ↦ p.gauges.g i) (L.Sq.mk p.marks.n fun (i : Nat) ↦ p.marks.g i)) s).gauges.g i).across.hi, Go.SE.SV.int
 Go.IntKind.i64 ((L.rs (L.Piece.mk p.id p.colour p.rev p.made p.swell (L.Sq.mk p.gauges.n fun (i : Nat) ↦ p.gauges.g i) (L.Sq.mk p.marks.n fun (i : Nat) ↦ p.marks.g i)) s).gauges.g i).bend] = [Go.SE.SV.int Go.IntKind.i64 ((L.rsV p s).gauges.g i).edge.lo, Go.SE.SV.int Go.IntKind.i64 ((L.rsV p s).gauges.g i).edge.hi, Go.SE.SV.int Go.IntKind.i64 ((L.rsV p s).gauges.g i).across.lo, Go.SE.SV.int
 Go.IntKind.i64 ((L.rsV p s).gauges.g i).across.hi, Go.SE.SV.int Go.IntKind.i64 ((L.rsV p s).gauges.g i).bend]) ∧ ((L.rs (L.Piece.mk p.id p.colour p.rev p.made p.swell (L.Sq.mk p.gauges.n fun (i : Nat) ↦ p.gauges.g i) (L.Sq.mk p.marks.n fun (i : Nat) ↦ p.marks.g i)) s).marks.n = (L.rsV p s).marks.n ∧ ∀ (i : Nat), i < (L.rs (L.Piece.mk p.id p.colour p.rev p.made p.swell (L.Sq.mk p.gauges.n fun (i :
 Nat) ↦ p.gauges.g i) (L.Sq.mk p.marks.n fun (i : Nat) ↦ p.marks.g i)) s).marks.n → [Go.SE.SV.int Go.IntKind.i64 ((L.rs (L.Piece.mk p.id p.colour p.rev p.made p.swell (L.Sq.mk p.gauges.n fun (i : Nat) ↦ p.gauges.g i) (L.Sq.mk p.marks.n fun (i : Nat) ↦ p.marks.g i)) s).marks.g i).edge, Go.SE.SV.int Go.IntKind.i64 ((L.rs (L.Piece.mk p.id p.colour p.rev p.made p.swell (L.Sq.mk p.gauges.n fun (i : Nat)
 ↦ p.gauges.g i) (L.Sq.mk p.marks.n fun (i : Nat) ↦ p.marks.g i)) s).marks.g i).place, Go.SE.SV.int Go.IntKind.i64 ((L.rs (L.Piece.mk p.id p.colour p.rev p.made p.swell (L.Sq.mk p.gauges.n fun (i : Nat) ↦ p.gauges.g i) (L.Sq.mk p.marks.n fun (i : Nat) ↦ p.marks.g i)) s).marks.g i).tone] = [Go.SE.SV.int Go.IntKind.i64 ((L.rsV p s).marks.g i).edge, Go.SE.SV.int Go.IntKind.i64 ((L.rsV p s).marks.g
 i).place, Go.SE.SV.int Go.IntKind.i64 ((L.rsV p s).marks.g i).tone]) ∧ (0 : Int) = L.wrE p s))) (by kernel_rfl) (by
    obtain ⟨h1, h2⟩ := hp
    refine ⟨⟨fun _ _ => rfl, fun _ _ => rfl, by omega, by omega⟩, fun h => ?_, fun h => ⟨trivial, fun k => ?_, fun k => ?_⟩⟩
    · have h : (!L.validPiece p) = true := h
      have e0 : L.wrE p s = 30 := by unfold L.wrE; rw [h]; rfl
      rcases wrE_cases p s with ⟨e, _⟩ | ⟨_, e⟩
      · omega
      · rw [e]; exact ⟨rfl, rfl, rfl, rfl, rfl, rfl, rfl, e0.symm⟩
    · have h : (!L.validPiece p) = false := h
      have e0 : L.wrE p s = 1 := by unfold L.wrE; rw [h, k]; rfl
      rcases wrE_cases p s with ⟨e, _⟩ | ⟨_, e⟩
      · omega
      · rw [e]; exact ⟨rfl, rfl, rfl, rfl, rfl, rfl, rfl, e0.symm⟩
    · have h : (!L.validPiece p) = false := h
      have e0 : L.wrE p s = 0 := by unfold L.wrE; rw [h, k]; rfl
      rcases wrE_cases p s with ⟨_, hv, hs, e⟩ | ⟨hne, _⟩
      · rw [e]; exact ⟨⟨fun _ _ => rfl, fun _ _ => rfl, hv, hs⟩, rfl, rfl, rfl, rfl, rfl, ⟨rfl, fun _ _ => rfl⟩, ⟨rfl, fun _ _ => rfl⟩, e0.symm⟩
      · exact absurd e0 hne)
theorem r3_Reset_ok : SpecOk Tryz.prog 13 r3_Reset_S := fnX Tryz.func13 (c := bodyOf Tryz.f13) (by kernel_rfl) mixed (fun args p r hs hp => by
  unfold r3_Reset_s at hs
  split at hs
  · cases hs; exact ⟨_, _, r3_Reset_vc _ _ hp.2.2, (.p (.agg rfl (fun i hi => by
      rcases i with _ | i
      · exact (Ext.refl _ : Ext _ _)
      rcases i with _ | i
      · exact (Ext.refl _ : Ext _ _)
      rcases i with _ | i
      · exact (Ext.refl _ : Ext _ _)
      rcases i with _ | i
      · exact (Ext.refl _ : Ext _ _)
      rcases i with _ | i
      · exact (Ext.refl _ : Ext _ _)
      rcases i with _ | i
      · exact (Ext.sl hp.1 : Ext _ _)
      rcases i with _ | i
      · exact (Ext.sl hp.2.1 : Ext _ _)
      exact absurd hi (by simp; try omega))) (.same _ .nil)), ⟨show SpecsL Tryz.prog _ from (SpecsL.cons r3_ValidPiece_ok r3_ValidPiece_en (SpecsL.cons r1_ValidSetting_ok r1_ValidSetting_en (SpecsL.cons r3_reset_ok r3_reset_en SpecsL.nil))), rfl, ⟨show ItersL Tryz.prog _ from ItersL.nil, (TrsOk.none (fun _ => rfl))⟩⟩⟩
  · cases hs)
theorem r3_Reset_en : Enters Tryz.prog 13 := fun args w => by kernel_rfl
def r3_Shows_p (p : L.Piece) (s : L.Setting) : Prop := p.gauges.n ≤ 1000000 ∧ p.marks.n ≤ 1000000
def r3_Shows_r (p : L.Piece) (s : L.Setting) : SV := .tup [.int .i64 (L.rsV p s).colour, .int .i64 (L.wrE p s)]
def r3_Shows_s : List EV → Option (Prop × SV)
  | [.p (.agg [.int .i64 p_id, .int .i64 p_colour, .int .i64 p_rev, .int .i64 p_made, .int .i64 p_swell, .sl 5 p_gauges_n p_gauges_g, .sl 3 p_marks_n p_marks_g]), .p (.agg [.int .i64 s_shift, .bool s_back])] => some ((∀ i, i < p_gauges_n → p_gauges_g i = [.int .i64 ((ofGauge (p_gauges_g i)).edge.lo), .int .i64 ((ofGauge (p_gauges_g i)).edge.hi), .int .i64 ((ofGauge (p_gauges_g i)).across.lo), .int .i64 ((ofGauge (p_gauges_g i)).across.hi), .int .i64 ((ofGauge (p_gauges_g i)).bend)]) ∧ (∀ i, i < p_marks_n → p_marks_g i = [.int .i64 ((ofMark (p_marks_g i)).edge), .int .i64 ((ofMark (p_marks_g i)).place), .int .i64 ((ofMark (p_marks_g i)).tone)]) ∧ r3_Shows_p (⟨p_id, p_colour, p_rev, p_made, p_swell, (⟨p_gauges_n, fun i => ofGauge (p_gauges_g i)⟩ : (L.Sq L.Gauge)), (⟨p_marks_n, fun i => ofMark (p_marks_g i)⟩ : (L.Sq L.Mark))⟩ : L.Piece) (⟨s_shift, s_back⟩ : L.Setting), r3_Shows_r (⟨p_id, p_colour, p_rev, p_made, p_swell, (⟨p_gauges_n, fun i => ofGauge (p_gauges_g i)⟩ : (L.Sq L.Gauge)), (⟨p_marks_n, fun i => ofMark (p_marks_g i)⟩ : (L.Sq L.Mark))⟩ : L.Piece) (⟨s_shift, s_back⟩ : L.Setting))
  | _ => none
abbrev r3_Shows_S : SE.Spec := (specO r3_Shows_s)
def r3_Shows_C : Cfg := { muts := [6], frz := lookN [], specs := lookS [(13, r3_Reset_S)], loops := lookL [], iters := lookI [], rfs := lookR [], nils := lookM [] }
theorem r3_Shows_vc (p : L.Piece) (s : L.Setting) (hp : r3_Shows_p p s) : vc Tryz.prog (r3_Shows_C) (bodyOf Tryz.f15) (st0 Tryz.f15 [.p (.agg [.int .i64 p.id, .int .i64 p.colour, .int .i64 p.rev, .int .i64 p.made, .int .i64 p.swell, .sl 5 p.gauges.n (fun i => [.int .i64 ((p.gauges.g i).edge.lo), .int .i64 ((p.gauges.g i).edge.hi), .int .i64 ((p.gauges.g i).across.lo), .int .i64 ((p.gauges.g i).across.hi), .int .i64 ((p.gauges.g i).bend)]), .sl 3 p.marks.n (fun i => [.int .i64 ((p.marks.g i).edge), .int .i64 ((p.marks.g i).place), .int .i64 ((p.marks.g i).tone)])]), .p (.agg [.int .i64 s.shift, .bool s.back])]) (retFn Tryz.prog Tryz.f15 (r3_Shows_r p s)) :=
  @Eq.mpr _ (((∀ (i : Nat), i < p.gauges.n → [Go.SE.SV.int Go.IntKind.i64 (p.gauges.g i).edge.lo, Go.SE.SV.int Go.IntKind.i64 (p.gauges.g i).edge.hi, Go.SE.SV.int Go.IntKind.i64 (p.gauges.g i).across.lo, Go.SE.SV.int Go.IntKind.i64 (p.gauges.g i).across.hi, Go.SE.SV.int Go.IntKind.i64 (p.gauges.g i).bend] = [Go.SE.SV.int Go.IntKind.i64 (p.gauges.g i).edge.lo, Go.SE.SV.int Go.IntKind.i64 (p.gauges.g i).edge.hi,
 Go.SE.SV.int Go.IntKind.i64 (p.gauges.g i).across.lo, Go.SE.SV.int Go.IntKind.i64 (p.gauges.g i).across.hi, Go.SE.SV.int Go.IntKind.i64 (p.gauges.g i).bend]) ∧ (∀ (i : Nat), i < p.marks.n → [Go.SE.SV.int Go.IntKind.i64 (p.marks.g i).edge, Go.SE.SV.int Go.IntKind.i64 (p.marks.g i).place, Go.SE.SV.int Go.IntKind.i64 (p.marks.g i).tone] = [Go.SE.SV.int Go.IntKind.i64 (p.marks.g i).edge, Go.SE.SV.int
 Go.IntKind.i64 (p.marks.g i).place, Go.SE.SV.int Go.IntKind.i64 (p.marks.g i).tone]) ∧ p.gauges.n ≤ (1000000 : Nat) ∧ p.marks.n ≤ (1000000 : Nat)) ∧ (L.rsV (L.Piece.mk p.id p.colour p.rev p.made p.swell (L.Sq.mk p.gauges.n fun (i : Nat) ↦ p.gauges.g i) (L.Sq.mk p.marks.n fun (i : Nat) ↦ p.marks.g i)) s).colour = (L.rsV p s).colour ∧ L.wrE (L.Piece.mk p.id p.colour p.rev p.made p.swell (L.Sq.mk
 p.gauges.n fun (i : Nat) ↦ p.gauges.g i) (L.Sq.mk p.marks.n fun (i : Nat) ↦ p.marks.g i)) s = L.wrE p s) (by kernel_rfl) (by
    exact ⟨⟨fun _ _ => rfl, fun _ _ => rfl, hp.1, hp.2⟩, rfl, rfl⟩)
theorem r3_Shows_ok : SpecOk Tryz.prog 15 r3_Shows_S := fnX Tryz.func15 (c := bodyOf Tryz.f15) (by kernel_rfl) mixed (fun args p r hs hp => by
  unfold r3_Shows_s at hs
  split at hs
  · cases hs; exact ⟨_, _, r3_Shows_vc _ _ hp.2.2, (.p (.agg rfl (fun i hi => by
      rcases i with _ | i
      · exact (Ext.refl _ : Ext _ _)
      rcases i with _ | i
      · exact (Ext.refl _ : Ext _ _)
      rcases i with _ | i
      · exact (Ext.refl _ : Ext _ _)
      rcases i with _ | i
      · exact (Ext.refl _ : Ext _ _)
      rcases i with _ | i
      · exact (Ext.refl _ : Ext _ _)
      rcases i with _ | i
      · exact (Ext.sl hp.1 : Ext _ _)
      rcases i with _ | i
      · exact (Ext.sl hp.2.1 : Ext _ _)
      exact absurd hi (by simp; try omega))) (.same _ .nil)), ⟨show SpecsL Tryz.prog _ from (SpecsL.cons r3_Reset_ok r3_Reset_en SpecsL.nil), rfl, ⟨show ItersL Tryz.prog _ from ItersL.nil, (TrsOk.none (fun _ => rfl))⟩⟩⟩
  · cases hs)
theorem r3_Shows_en : Enters Tryz.prog 15 := fun args w => by kernel_rfl
def r3_Marks_p (p : L.Piece) (s : L.Setting) : Prop := p.gauges.n ≤ 1000000 ∧ p.marks.n ≤ 1000000
def r3_Marks_r (p : L.Piece) (s : L.Setting) : SV := .tup [.sl 3 (L.rsV p s).marks.n (fun k => [.int .i64 (((L.rsV p s).marks.g k).edge), .int .i64 (((L.rsV p s).marks.g k).place), .int .i64 (((L.rsV p s).marks.g k).tone)]), .int .i64 (L.wrE p s)]
def r3_Marks_s : List EV → Option (Prop × SV)
  | [.p (.agg [.int .i64 p_id, .int .i64 p_colour, .int .i64 p_rev, .int .i64 p_made, .int .i64 p_swell, .sl 5 p_gauges_n p_gauges_g, .sl 3 p_marks_n p_marks_g]), .p (.agg [.int .i64 s_shift, .bool s_back])] => some ((∀ i, i < p_gauges_n → p_gauges_g i = [.int .i64 ((ofGauge (p_gauges_g i)).edge.lo), .int .i64 ((ofGauge (p_gauges_g i)).edge.hi), .int .i64 ((ofGauge (p_gauges_g i)).across.lo), .int .i64 ((ofGauge (p_gauges_g i)).across.hi), .int .i64 ((ofGauge (p_gauges_g i)).bend)]) ∧ (∀ i, i < p_marks_n → p_marks_g i = [.int .i64 ((ofMark (p_marks_g i)).edge), .int .i64 ((ofMark (p_marks_g i)).place), .int .i64 ((ofMark (p_marks_g i)).tone)]) ∧ r3_Marks_p (⟨p_id, p_colour, p_rev, p_made, p_swell, (⟨p_gauges_n, fun i => ofGauge (p_gauges_g i)⟩ : (L.Sq L.Gauge)), (⟨p_marks_n, fun i => ofMark (p_marks_g i)⟩ : (L.Sq L.Mark))⟩ : L.Piece) (⟨s_shift, s_back⟩ : L.Setting), r3_Marks_r (⟨p_id, p_colour, p_rev, p_made, p_swell, (⟨p_gauges_n, fun i => ofGauge (p_gauges_g i)⟩ : (L.Sq L.Gauge)), (⟨p_marks_n, fun i => ofMark (p_marks_g i)⟩ : (L.Sq L.Mark))⟩ : L.Piece) (⟨s_shift, s_back⟩ : L.Setting))
  | _ => none
abbrev r3_Marks_S : SE.Spec := (specO r3_Marks_s)
def r3_Marks_C : Cfg := { muts := [6], frz := lookN [], specs := lookS [(13, r3_Reset_S)], loops := lookL [], iters := lookI [], rfs := lookR [], nils := lookM [] }
theorem r3_Marks_vc (p : L.Piece) (s : L.Setting) (hp : r3_Marks_p p s) : vc Tryz.prog (r3_Marks_C) (bodyOf Tryz.f17) (st0 Tryz.f17 [.p (.agg [.int .i64 p.id, .int .i64 p.colour, .int .i64 p.rev, .int .i64 p.made, .int .i64 p.swell, .sl 5 p.gauges.n (fun i => [.int .i64 ((p.gauges.g i).edge.lo), .int .i64 ((p.gauges.g i).edge.hi), .int .i64 ((p.gauges.g i).across.lo), .int .i64 ((p.gauges.g i).across.hi), .int .i64 ((p.gauges.g i).bend)]), .sl 3 p.marks.n (fun i => [.int .i64 ((p.marks.g i).edge), .int .i64 ((p.marks.g i).place), .int .i64 ((p.marks.g i).tone)])]), .p (.agg [.int .i64 s.shift, .bool s.back])]) (retFn Tryz.prog Tryz.f17 (r3_Marks_r p s)) :=
  @Eq.mpr _ (((∀ (i : Nat), i < p.gauges.n → [Go.SE.SV.int Go.IntKind.i64 (p.gauges.g i).edge.lo, Go.SE.SV.int Go.IntKind.i64 (p.gauges.g i).edge.hi, Go.SE.SV.int Go.IntKind.i64 (p.gauges.g i).across.lo, Go.SE.SV.int Go.IntKind.i64 (p.gauges.g i).across.hi, Go.SE.SV.int Go.IntKind.i64 (p.gauges.g i).bend] = [Go.SE.SV.int Go.IntKind.i64 (p.gauges.g i).edge.lo, Go.SE.SV.int Go.IntKind.i64 (p.gauges.g i).edge.hi,
 Go.SE.SV.int Go.IntKind.i64 (p.gauges.g i).across.lo, Go.SE.SV.int Go.IntKind.i64 (p.gauges.g i).across.hi, Go.SE.SV.int Go.IntKind.i64 (p.gauges.g i).bend]) ∧ (∀ (i : Nat), i < p.marks.n → [Go.SE.SV.int Go.IntKind.i64 (p.marks.g i).edge, Go.SE.SV.int Go.IntKind.i64 (p.marks.g i).place, Go.SE.SV.int Go.IntKind.i64 (p.marks.g i).tone] = [Go.SE.SV.int Go.IntKind.i64 (p.marks.g i).edge, Go.SE.SV.int
 Go.IntKind.i64 (p.marks.g i).place, Go.SE.SV.int Go.IntKind.i64 (p.marks.g i).tone]) ∧ p.gauges.n ≤ (1000000 : Nat) ∧ p.marks.n ≤ (1000000 : Nat)) ∧ ((L.rsV (L.Piece.mk p.id p.colour p.rev p.made p.swell (L.Sq.mk p.gauges.n fun (i : Nat) ↦ p.gauges.g i) (L.Sq.mk p.marks.n fun (i : Nat) ↦ p.marks.g i)) s).marks.n = (L.rsV p s).marks.n ∧ ∀ (i : Nat), i < (L.rsV (L.Piece.mk p.id p.colour p.rev p.made
 p.swell (L.Sq.mk p.gauges.n fun (i : Nat) ↦ p.gauges.g i) (L.Sq.mk p.marks.n fun (i : Nat) ↦ p.marks.g i)) s).marks.n → [Go.SE.SV.int Go.IntKind.i64 ((L.rsV (L.Piece.mk p.id p.colour p.rev p.made p.swell (L.Sq.mk p.gauges.n fun (i : Nat) ↦ p.gauges.g i) (L.Sq.mk p.marks.n fun (i : Nat) ↦ p.marks.g i)) s).marks.g i).edge, Go.SE.SV.int Go.IntKind.i64 ((L.rsV (L.Piece.mk p.id p.colour p.rev p.made
 p.swell (L.Sq.mk p.gauges.n fun (i : Nat) ↦ p.gauges.g i) (L.Sq.mk p.marks.n fun (i : Nat) ↦ p.marks.g i)) s).marks.g i).place, Go.SE.SV.int Go.IntKind.i64 ((L.rsV (L.Piece.mk p.id p.colour p.rev p.made p.swell (L.Sq.mk p.gauges.n fun (i : Nat) ↦ p.gauges.g i) (L.Sq.mk p.marks.n fun (i : Nat) ↦ p.marks.g i)) s).marks.g i).tone] = [Go.SE.SV.int Go.IntKind.i64 ((L.rsV p s).marks.g i).edge,
 Go.SE.SV.int Go.IntKind.i64 ((L.rsV p s).marks.g i).place, Go.SE.SV.int Go.IntKind.i64 ((L.rsV p s).marks.g i).tone]) ∧ L.wrE (L.Piece.mk p.id p.colour p.rev p.made p.swell (L.Sq.mk p.gauges.n fun (i : Nat) ↦ p.gauges.g i) (L.Sq.mk p.marks.n fun (i : Nat) ↦ p.marks.g i)) s = L.wrE p s) (by kernel_rfl) (by
    exact ⟨⟨fun _ _ => rfl, fun _ _ => rfl, hp.1, hp.2⟩, ⟨rfl, fun _ _ => rfl⟩, rfl⟩)
theorem r3_Marks_ok : SpecOk Tryz.prog 17 r3_Marks_S := fnX Tryz.func17 (c := bodyOf Tryz.f17) (by kernel_rfl) mixed (fun args p r hs hp => by
  unfold r3_Marks_s at hs
  split at hs
  · cases hs; exact ⟨_, _, r3_Marks_vc _ _ hp.2.2, (.p (.agg rfl (fun i hi => by
      rcases i with _ | i
      · exact (Ext.refl _ : Ext _ _)
      rcases i with _ | i
      · exact (Ext.refl _ : Ext _ _)
      rcases i with _ | i
      · exact (Ext.refl _ : Ext _ _)
      rcases i with _ | i
      · exact (Ext.refl _ : Ext _ _)
      rcases i with _ | i
      · exact (Ext.refl _ : Ext _ _)
      rcases i with _ | i
      · exact (Ext.sl hp.1 : Ext _ _)
      rcases i with _ | i
      · exact (Ext.sl hp.2.1 : Ext _ _)
      exact absurd hi (by simp; try omega))) (.same _ .nil)), ⟨show SpecsL Tryz.prog _ from (SpecsL.cons r3_Reset_ok r3_Reset_en SpecsL.nil), rfl, ⟨show ItersL Tryz.prog _ from ItersL.nil, (TrsOk.none (fun _ => rfl))⟩⟩⟩
  · cases hs)
theorem r3_Marks_en : Enters Tryz.prog 17 := fun args w => by kernel_rfl
def r3_SamePiece_p (p : L.Piece) (q : L.Piece) : Prop := p.gauges.n ≤ 1000000 ∧ p.marks.n ≤ 1000000
def r3_SamePiece_r (p : L.Piece) (q : L.Piece) : SV := .bool (L.samePc p q)
def r3_SamePiece_s : List EV → Option (Prop × SV)
  | [.p (.agg [.int .i64 p_id, .int .i64 p_colour, .int .i64 p_rev, .int .i64 p_made, .int .i64 p_swell, .sl 5 p_gauges_n p_gauges_g, .sl 3 p_marks_n p_marks_g]), .p (.agg [.int .i64 q_id, .int .i64 q_colour, .int .i64 q_rev, .int .i64 q_made, .int .i64 q_swell, .sl 5 q_gauges_n q_gauges_g, .sl 3 q_marks_n q_marks_g])] => some ((∀ i, i < p_gauges_n → p_gauges_g i = [.int .i64 ((ofGauge (p_gauges_g i)).edge.lo), .int .i64 ((ofGauge (p_gauges_g i)).edge.hi), .int .i64 ((ofGauge (p_gauges_g i)).across.lo), .int .i64 ((ofGauge (p_gauges_g i)).across.hi), .int .i64 ((ofGauge (p_gauges_g i)).bend)]) ∧ (∀ i, i < p_marks_n → p_marks_g i = [.int .i64 ((ofMark (p_marks_g i)).edge), .int .i64 ((ofMark (p_marks_g i)).place), .int .i64 ((ofMark (p_marks_g i)).tone)]) ∧ (∀ i, i < q_gauges_n → q_gauges_g i = [.int .i64 ((ofGauge (q_gauges_g i)).edge.lo), .int .i64 ((ofGauge (q_gauges_g i)).edge.hi), .int .i64 ((ofGauge (q_gauges_g i)).across.lo), .int .i64 ((ofGauge (q_gauges_g i)).across.hi), .int .i64 ((ofGauge (q_gauges_g i)).bend)]) ∧ (∀ i, i < q_marks_n → q_marks_g i = [.int .i64 ((ofMark (q_marks_g i)).edge), .int .i64 ((ofMark (q_marks_g i)).place), .int .i64 ((ofMark (q_marks_g i)).tone)]) ∧ r3_SamePiece_p (⟨p_id, p_colour, p_rev, p_made, p_swell, (⟨p_gauges_n, fun i => ofGauge (p_gauges_g i)⟩ : (L.Sq L.Gauge)), (⟨p_marks_n, fun i => ofMark (p_marks_g i)⟩ : (L.Sq L.Mark))⟩ : L.Piece) (⟨q_id, q_colour, q_rev, q_made, q_swell, (⟨q_gauges_n, fun i => ofGauge (q_gauges_g i)⟩ : (L.Sq L.Gauge)), (⟨q_marks_n, fun i => ofMark (q_marks_g i)⟩ : (L.Sq L.Mark))⟩ : L.Piece), r3_SamePiece_r (⟨p_id, p_colour, p_rev, p_made, p_swell, (⟨p_gauges_n, fun i => ofGauge (p_gauges_g i)⟩ : (L.Sq L.Gauge)), (⟨p_marks_n, fun i => ofMark (p_marks_g i)⟩ : (L.Sq L.Mark))⟩ : L.Piece) (⟨q_id, q_colour, q_rev, q_made, q_swell, (⟨q_gauges_n, fun i => ofGauge (q_gauges_g i)⟩ : (L.Sq L.Gauge)), (⟨q_marks_n, fun i => ofMark (q_marks_g i)⟩ : (L.Sq L.Mark))⟩ : L.Piece))
  | _ => none
abbrev r3_SamePiece_S : SE.Spec := (specO r3_SamePiece_s)
def r3_SamePiece_C : Cfg := { muts := [], frz := lookN [], specs := lookS [(64, r3_SameGauges_S), (19, r3_SameMarks_S)], loops := lookL [], iters := lookI [], rfs := lookR [], nils := lookM [] }
theorem r3_SamePiece_vc (p : L.Piece) (q : L.Piece) (hp : r3_SamePiece_p p q) : vc Tryz.prog (r3_SamePiece_C) (bodyOf Tryz.f18) (st0 Tryz.f18 [.p (.agg [.int .i64 p.id, .int .i64 p.colour, .int .i64 p.rev, .int .i64 p.made, .int .i64 p.swell, .sl 5 p.gauges.n (fun i => [.int .i64 ((p.gauges.g i).edge.lo), .int .i64 ((p.gauges.g i).edge.hi), .int .i64 ((p.gauges.g i).across.lo), .int .i64 ((p.gauges.g i).across.hi), .int .i64 ((p.gauges.g i).bend)]), .sl 3 p.marks.n (fun i => [.int .i64 ((p.marks.g i).edge), .int .i64 ((p.marks.g i).place), .int .i64 ((p.marks.g i).tone)])]), .p (.agg [.int .i64 q.id, .int .i64 q.colour, .int .i64 q.rev, .int .i64 q.made, .int .i64 q.swell, .sl 5 q.gauges.n (fun i => [.int .i64 ((q.gauges.g i).edge.lo), .int .i64 ((q.gauges.g i).edge.hi), .int .i64 ((q.gauges.g i).across.lo), .int .i64 ((q.gauges.g i).across.hi), .int .i64 ((q.gauges.g i).bend)]), .sl 3 q.marks.n (fun i => [.int .i64 ((q.marks.g i).edge), .int .i64 ((q.marks.g i).place), .int .i64 ((q.marks.g i).tone)])])]) (retFn Tryz.prog Tryz.f18 (r3_SamePiece_r p q)) :=
  @Eq.mpr _ (((bif bif bif bif Decidable.decide (p.id = q.id) then Decidable.decide (p.colour = q.colour) else Bool.false then Decidable.decide (p.rev = q.rev) else Bool.false then Decidable.decide (p.made = q.made) else Bool.false then Decidable.decide (p.swell = q.swell) else Bool.false) = Bool.true → (∀ (i : Nat), i < p.gauges.n → [Go.SE.SV.int Go.IntKind.i64 (p.gauges.g i).edge.lo, Go.SE.SV.int
 Go.IntKind.i64 (p.gauges.g i).edge.hi, Go.SE.SV.int Go.IntKind.i64 (p.gauges.g i).across.lo, Go.SE.SV.int Go.IntKind.i64 (p.gauges.g i).across.hi, Go.SE.SV.int Go.IntKind.i64 (p.gauges.g i).bend] = [Go.SE.SV.int Go.IntKind.i64 (p.gauges.g i).edge.lo, Go.SE.SV.int Go.IntKind.i64 (p.gauges.g i).edge.hi, Go.SE.SV.int Go.IntKind.i64 (p.gauges.g i).across.lo, Go.SE.SV.int Go.IntKind.i64 (p.gauges.g
 i).across.hi, Go.SE.SV.int Go.IntKind.i64 (p.gauges.g i).bend]) ∧ (∀ (i : Nat), i < q.gauges.n → [Go.SE.SV.int Go.IntKind.i64 (q.gauges.g i).edge.lo, Go.SE.SV.int Go.IntKind.i64 (q.gauges.g i).edge.hi, Go.SE.SV.int Go.IntKind.i64 (q.gauges.g i).across.lo, Go.SE.SV.int Go.IntKind.i64 (q.gauges.g i).across.hi, Go.SE.SV.int Go.IntKind.i64 (q.gauges.g i).bend] = [Go.SE.SV.int Go.IntKind.i64
 (q.gauges.g i).edge.lo, Go.SE.SV.int Go.IntKind.i64 (q.gauges.g i).edge.hi, Go.SE.SV.int Go.IntKind.i64 (q.gauges.g i).across.lo, Go.SE.SV.int Go.IntKind.i64 (q.gauges.g i).across.hi, Go.SE.SV.int Go.IntKind.i64 (q.gauges.g i).bend]) ∧ p.gauges.n ≤ (1000000 : Nat)) ∧ ((bif bif bif bif bif Decidable.decide (p.id = q.id) then Decidable.decide (p.colour = q.colour) else Bool.false then
 Decidable.decide (p.rev = q.rev) else Bool.false then Decidable.decide (p.made = q.made) else Bool.false then Decidable.decide (p.swell = q.swell) else Bool.false then L.sameGs (L.Sq.mk p.gauges.n fun (i : Nat) ↦ p.gauges.g i) (L.Sq.mk q.gauges.n fun (i : Nat) ↦ q.gauges.g i) else Bool.false) = Bool.true → (∀ (i : Nat), i < p.marks.n → [Go.SE.SV.int Go.IntKind.i64 (p.marks.g i).edge, Go.SE.SV.int
 Go.IntKind.i64 (p.marks.g i).place, Go.SE.SV.int Go.IntKind.i64 (p.marks.g i).tone] = [Go.SE.SV.int Go.IntKind.i64 (p.marks.g i).edge, Go.SE.SV.int Go.IntKind.i64 (p.marks.g i).place, Go.SE.SV.int Go.IntKind.i64 (p.marks.g i).tone]) ∧ (∀ (i : Nat), i < q.marks.n → [Go.SE.SV.int Go.IntKind.i64 (q.marks.g i).edge, Go.SE.SV.int Go.IntKind.i64 (q.marks.g i).place, Go.SE.SV.int Go.IntKind.i64
 (q.marks.g i).tone] = [Go.SE.SV.int Go.IntKind.i64 (q.marks.g i).edge, Go.SE.SV.int Go.IntKind.i64 (q.marks.g i).place, Go.SE.SV.int Go.IntKind.i64 (q.marks.g i).tone]) ∧ p.marks.n ≤ (1000000 : Nat)) ∧ (bif bif bif bif bif bif Decidable.decide (p.id = q.id) then Decidable.decide (p.colour = q.colour) else Bool.false then Decidable.decide (p.rev = q.rev) else Bool.false then Decidable.decide
 (p.made = q.made) else Bool.false then Decidable.decide (p.swell = q.swell) else Bool.false then L.sameGs (L.Sq.mk p.gauges.n fun (i : Nat) ↦ p.gauges.g i) (L.Sq.mk q.gauges.n fun (i : Nat) ↦ q.gauges.g i) else Bool.false then L.sameMs (L.Sq.mk p.marks.n fun (i : Nat) ↦ p.marks.g i) (L.Sq.mk q.marks.n fun (i : Nat) ↦ q.marks.g i) else Bool.false) = L.samePc p q) (by kernel_rfl) (by
    exact ⟨fun _ => ⟨fun _ _ => rfl, fun _ _ => rfl, hp.1⟩, fun _ => ⟨fun _ _ => rfl, fun _ _ => rfl, hp.2⟩, rfl⟩)
theorem r3_SamePiece_ok : SpecOk Tryz.prog 18 r3_SamePiece_S := fnX Tryz.func18 (c := bodyOf Tryz.f18) (by kernel_rfl) mixed (fun args p r hs hp => by
  unfold r3_SamePiece_s at hs
  split at hs
  · cases hs; exact ⟨_, _, r3_SamePiece_vc _ _ hp.2.2.2.2, (.p (.agg rfl (fun i hi => by
      rcases i with _ | i
      · exact (Ext.refl _ : Ext _ _)
      rcases i with _ | i
      · exact (Ext.refl _ : Ext _ _)
      rcases i with _ | i
      · exact (Ext.refl _ : Ext _ _)
      rcases i with _ | i
      · exact (Ext.refl _ : Ext _ _)
      rcases i with _ | i
      · exact (Ext.refl _ : Ext _ _)
      rcases i with _ | i
      · exact (Ext.sl hp.1 : Ext _ _)
      rcases i with _ | i
      · exact (Ext.sl hp.2.1 : Ext _ _)
      exact absurd hi (by simp; try omega))) (.p (.agg rfl (fun i hi => by
      rcases i with _ | i
      · exact (Ext.refl _ : Ext _ _)
      rcases i with _ | i
      · exact (Ext.refl _ : Ext _ _)
      rcases i with _ | i
      · exact (Ext.refl _ : Ext _ _)
      rcases i with _ | i
      · exact (Ext.refl _ : Ext _ _)
      rcases i with _ | i
      · exact (Ext.refl _ : Ext _ _)
      rcases i with _ | i
      · exact (Ext.sl hp.2.2.1 : Ext _ _)
      rcases i with _ | i
      · exact (Ext.sl hp.2.2.2.1 : Ext _ _)
      exact absurd hi (by simp; try omega))) .nil)), ⟨show SpecsL Tryz.prog _ from (SpecsL.cons r3_SameGauges_ok r3_SameGauges_en (SpecsL.cons r3_SameMarks_ok r3_SameMarks_en SpecsL.nil)), rfl, ⟨show ItersL Tryz.prog _ from ItersL.nil, (TrsOk.none (fun _ => rfl))⟩⟩⟩
  · cases hs)
theorem r3_SamePiece_en : Enters Tryz.prog 18 := fun args w => by kernel_rfl
theorem r3_SamePiece_B : ∀ args p r, r3_SamePiece_s args = some (p, r) → ∃ b, r = .bool b := by
  intro args p r h
  unfold r3_SamePiece_s at h
  split at h
  · cases h; exact ⟨_, rfl⟩
  · cases h
def w_Resets_p (p : L.Piece) (s : L.Setting) : Prop := p.gauges.n ≤ 9223372036854775807 ∧ p.marks.n ≤ 9223372036854775807
def w_Resets_r (p : L.Piece) (s : L.Setting) : SV := .bool true
def w_Resets_s : List EV → Option (Prop × SV)
  | [.p (.agg [.int .i64 p_id, .int .i64 p_colour, .int .i64 p_rev, .int .i64 p_made, .int .i64 p_swell, .sl 5 p_gauges_n p_gauges_g, .sl 3 p_marks_n p_marks_g]), .p (.agg [.int .i64 s_shift, .bool s_back])] => some ((∀ i, i < p_gauges_n → p_gauges_g i = [.int .i64 ((ofGauge (p_gauges_g i)).edge.lo), .int .i64 ((ofGauge (p_gauges_g i)).edge.hi), .int .i64 ((ofGauge (p_gauges_g i)).across.lo), .int .i64 ((ofGauge (p_gauges_g i)).across.hi), .int .i64 ((ofGauge (p_gauges_g i)).bend)]) ∧ (∀ i, i < p_marks_n → p_marks_g i = [.int .i64 ((ofMark (p_marks_g i)).edge), .int .i64 ((ofMark (p_marks_g i)).place), .int .i64 ((ofMark (p_marks_g i)).tone)]) ∧ w_Resets_p (⟨p_id, p_colour, p_rev, p_made, p_swell, (⟨p_gauges_n, fun i => ofGauge (p_gauges_g i)⟩ : (L.Sq L.Gauge)), (⟨p_marks_n, fun i => ofMark (p_marks_g i)⟩ : (L.Sq L.Mark))⟩ : L.Piece) (⟨s_shift, s_back⟩ : L.Setting), w_Resets_r (⟨p_id, p_colour, p_rev, p_made, p_swell, (⟨p_gauges_n, fun i => ofGauge (p_gauges_g i)⟩ : (L.Sq L.Gauge)), (⟨p_marks_n, fun i => ofMark (p_marks_g i)⟩ : (L.Sq L.Mark))⟩ : L.Piece) (⟨s_shift, s_back⟩ : L.Setting))
  | _ => none
abbrev w_Resets_S : SE.Spec := (specO w_Resets_s)
def w_Resets_C : Cfg := { muts := [7, 9], frz := lookN [], specs := lookS [(10, w_awake_S), (11, w_few_S), (12, g_Reset_S), (13, r3_Reset_S), (14, g_Shows_S), (15, r3_Shows_S), (16, g_Marks_S), (17, r3_Marks_S), (18, r3_SamePiece_S), (19, r3_SameMarks_S)], loops := lookL [], iters := lookI [], rfs := lookR [], nils := lookM [] }
theorem w_Resets_vc (p : L.Piece) (s : L.Setting) (hp : w_Resets_p p s) : vc Tryz.prog (w_Resets_C) (bodyOf Tryz.f3) (st0 Tryz.f3 [.p (.agg [.int .i64 p.id, .int .i64 p.colour, .int .i64 p.rev, .int .i64 p.made, .int .i64 p.swell, .sl 5 p.gauges.n (fun i => [.int .i64 ((p.gauges.g i).edge.lo), .int .i64 ((p.gauges.g i).edge.hi), .int .i64 ((p.gauges.g i).across.lo), .int .i64 ((p.gauges.g i).across.hi), .int .i64 ((p.gauges.g i).bend)]), .sl 3 p.marks.n (fun i => [.int .i64 ((p.marks.g i).edge), .int .i64 ((p.marks.g i).place), .int .i64 ((p.marks.g i).tone)])]), .p (.agg [.int .i64 s.shift, .bool s.back])]) (retFn Tryz.prog Tryz.f3 (w_Resets_r p s)) :=
  @Eq.mpr _ (True ∧ ((∀ (i : Nat), i < p.gauges.n → [Go.SE.SV.int Go.IntKind.i64 (p.gauges.g i).edge.lo, Go.SE.SV.int Go.IntKind.i64 (p.gauges.g i).edge.hi, Go.SE.SV.int Go.IntKind.i64 (p.gauges.g i).across.lo, Go.SE.SV.int Go.IntKind.i64 (p.gauges.g i).across.hi, Go.SE.SV.int Go.IntKind.i64 (p.gauges.g i).bend] = [Go.SE.SV.int Go.IntKind.i64 (p.gauges.g i).edge.lo, Go.SE.SV.int Go.IntKind.i64 (p.gauges.g
 i).edge.hi, Go.SE.SV.int Go.IntKind.i64 (p.gauges.g i).across.lo, Go.SE.SV.int Go.IntKind.i64 (p.gauges.g i).across.hi, Go.SE.SV.int Go.IntKind.i64 (p.gauges.g i).bend]) ∧ (∀ (i : Nat), i < p.marks.n → [Go.SE.SV.int Go.IntKind.i64 (p.marks.g i).edge, Go.SE.SV.int Go.IntKind.i64 (p.marks.g i).place, Go.SE.SV.int Go.IntKind.i64 (p.marks.g i).tone] = [Go.SE.SV.int Go.IntKind.i64 (p.marks.g i).edge,
 Go.SE.SV.int Go.IntKind.i64 (p.marks.g i).place, Go.SE.SV.int Go.IntKind.i64 (p.marks.g i).tone]) ∧ (∀ (i : Nat), i < nat_lit 0 → [] = [Go.SE.SV.int Go.IntKind.i64 (0 : Int), Go.SE.SV.int Go.IntKind.i64 (0 : Int)]) ∧ True) ∧ ((!L.few (L.Piece.mk p.id p.colour p.rev p.made p.swell (L.Sq.mk p.gauges.n fun (i : Nat) ↦ p.gauges.g i) (L.Sq.mk p.marks.n fun (i : Nat) ↦ p.marks.g i)) (L.Sq.mk (nat_lit 0)
 fun (i : Nat) ↦ L.Pt.mk (0 : Int) (0 : Int))) = Bool.true → Bool.true = Bool.true) ∧ ((!L.few (L.Piece.mk p.id p.colour p.rev p.made p.swell (L.Sq.mk p.gauges.n fun (i : Nat) ↦ p.gauges.g i) (L.Sq.mk p.marks.n fun (i : Nat) ↦ p.marks.g i)) (L.Sq.mk (nat_lit 0) fun (i : Nat) ↦ L.Pt.mk (0 : Int) (0 : Int))) = Bool.false → ((∀ (i : Nat), i < p.gauges.n → [Go.SE.SV.int Go.IntKind.i64 (p.gauges.g
 i).edge.lo, Go.SE.SV.int Go.IntKind.i64 (p.gauges.g i).edge.hi, Go.SE.SV.int Go.IntKind.i64 (p.gauges.g i).across.lo, Go.SE.SV.int Go.IntKind.i64 (p.gauges.g i).across.hi, Go.SE.SV.int Go.IntKind.i64 (p.gauges.g i).bend] = [Go.SE.SV.int Go.IntKind.i64 (p.gauges.g i).edge.lo, Go.SE.SV.int Go.IntKind.i64 (p.gauges.g i).edge.hi, Go.SE.SV.int Go.IntKind.i64 (p.gauges.g i).across.lo, Go.SE.SV.int
 Go.IntKind.i64 (p.gauges.g i).across.hi, Go.SE.SV.int Go.IntKind.i64 (p.gauges.g i).bend]) ∧ (∀ (i : Nat), i < p.marks.n → [Go.SE.SV.int Go.IntKind.i64 (p.marks.g i).edge, Go.SE.SV.int Go.IntKind.i64 (p.marks.g i).place, Go.SE.SV.int Go.IntKind.i64 (p.marks.g i).tone] = [Go.SE.SV.int Go.IntKind.i64 (p.marks.g i).edge, Go.SE.SV.int Go.IntKind.i64 (p.marks.g i).place, Go.SE.SV.int Go.IntKind.i64
 (p.marks.g i).tone]) ∧ p.gauges.n ≤ (1000000 : Nat) ∧ p.marks.n ≤ (1000000 : Nat)) ∧ ((∀ (i : Nat), i < p.gauges.n → [Go.SE.SV.int Go.IntKind.i64 (p.gauges.g i).edge.lo, Go.SE.SV.int Go.IntKind.i64 (p.gauges.g i).edge.hi, Go.SE.SV.int Go.IntKind.i64 (p.gauges.g i).across.lo, Go.SE.SV.int Go.IntKind.i64 (p.gauges.g i).across.hi, Go.SE.SV.int Go.IntKind.i64 (p.gauges.g i).bend] = [Go.SE.SV.int
 Go.IntKind.i64 (p.gauges.g i).edge.lo, Go.SE.SV.int Go.IntKind.i64 (p.gauges.g i).edge.hi, Go.SE.SV.int Go.IntKind.i64 (p.gauges.g i).across.lo, Go.SE.SV.int Go.IntKind.i64 (p.gauges.g i).across.hi, Go.SE.SV.int Go.IntKind.i64 (p.gauges.g i).bend]) ∧ (∀ (i : Nat), i < p.marks.n → [Go.SE.SV.int Go.IntKind.i64 (p.marks.g i).edge, Go.SE.SV.int Go.IntKind.i64 (p.marks.g i).place, Go.SE.SV.int
 Go.IntKind.i64 (p.marks.g i).tone] = [Go.SE.SV.int Go.IntKind.i64 (p.marks.g i).edge, Go.SE.SV.int Go.IntKind.i64 (p.marks.g i).place, Go.SE.SV.int Go.IntKind.i64 (p.marks.g i).tone]) ∧ p.gauges.n ≤ (1000000 : Nat) ∧ p.marks.n ≤ (1000000 : Nat)) ∧ ((∀ (i : Nat), i < p.gauges.n → [Go.SE.SV.int Go.IntKind.i64 (p.gauges.g i).edge.lo, Go.SE.SV.int Go.IntKind.i64 (p.gauges.g i).edge.hi, Go.SE.SV.int
 Go.IntKind.i64 (p.gauges.g i).across.lo, Go.SE.SV.int Go.IntKind.i64 (p.gauges.g i).across.hi, Go.SE.SV.int Go.IntKind.i64 (p.gauges.g i).bend] = [Go.SE.SV.int Go.IntKind.i64 (p.gauges.g i).edge.lo, Go.SE.SV.int Go.IntKind.i64 (p.gauges.g i).edge.hi, Go.SE.SV.int Go.IntKind.i64 (p.gauges.g i).across.lo, Go.SE.SV.int Go.IntKind.i64 (p.gauges.g i).across.hi, Go.SE.SV.int Go.IntKind.i64 (p.gauges.g
 i).bend]) ∧ (∀ (i : Nat), i < p.marks.n → [Go.SE.SV.int Go.IntKind.i64 (p.marks.g i).edge, Go.SE.SV.int Go.IntKind.i64 (p.marks.g i).place, Go.SE.SV.int Go.IntKind.i64 (p.marks.g i).tone] = [Go.SE.SV.int Go.IntKind.i64 (p.marks.g i).edge, Go.SE.SV.int Go.IntKind.i64 (p.marks.g i).place, Go.SE.SV.int Go.IntKind.i64 (p.marks.g i).tone]) ∧ p.gauges.n ≤ (1000000 : Nat) ∧ p.marks.n ≤ (1000000 : Nat)) ∧
 ((∀ (i : Nat), i < p.gauges.n → [Go.SE.SV.int Go.IntKind.i64 (p.gauges.g i).edge.lo, Go.SE.SV.int Go.IntKind.i64 (p.gauges.g i).edge.hi, Go.SE.SV.int Go.IntKind.i64 (p.gauges.g i).across.lo, Go.SE.SV.int Go.IntKind.i64 (p.gauges.g i).across.hi, Go.SE.SV.int Go.IntKind.i64 (p.gauges.g i).bend] = [Go.SE.SV.int Go.IntKind.i64 (p.gauges.g i).edge.lo, Go.SE.SV.int Go.IntKind.i64 (p.gauges.g i).edge.hi,
 Go.SE.SV.int Go.IntKind.i64 (p.gauges.g i).across.lo, Go.SE.SV.int Go.IntKind.i64 (p.gauges.g i).across.hi, Go.SE.SV.int Go.IntKind.i64 (p.gauges.g i).bend]) ∧ (∀ (i : Nat), i < p.marks.n → [Go.SE.SV.int Go.IntKind.i64 (p.marks.g i).edge, Go.SE.SV.int Go.IntKind.i64 (p.marks.g i).place, Go.SE.SV.int Go.IntKind.i64 (p.marks.g i).tone] = [Go.SE.SV.int Go.IntKind.i64 (p.marks.g i).edge, Go.SE.SV.int
 Go.IntKind.i64 (p.marks.g i).place, Go.SE.SV.int Go.IntKind.i64 (p.marks.g i).tone]) ∧ p.gauges.n ≤ (1000000 : Nat) ∧ p.marks.n ≤ (1000000 : Nat)) ∧ ((∀ (i : Nat), i < p.gauges.n → [Go.SE.SV.int Go.IntKind.i64 (p.gauges.g i).edge.lo, Go.SE.SV.int Go.IntKind.i64 (p.gauges.g i).edge.hi, Go.SE.SV.int Go.IntKind.i64 (p.gauges.g i).across.lo, Go.SE.SV.int Go.IntKind.i64 (p.gauges.g i).across.hi,
 Go.SE.SV.int Go.IntKind.i64 (p.gauges.g i).bend] = [Go.SE.SV.int Go.IntKind.i64 (p.gauges.g i).edge.lo, Go.SE.SV.int Go.IntKind.i64 (p.gauges.g i).edge.hi, Go.SE.SV.int Go.IntKind.i64 (p.gauges.g i).across.lo, Go.SE.SV.int Go.IntKind.i64 (p.gauges.g i).across.hi, Go.SE.SV.int Go.IntKind.i64 (p.gauges.g i).bend]) ∧ (∀ (i : Nat), i < p.marks.n → [Go.SE.SV.int Go.IntKind.i64 (p.marks.g i).edge,
 Go.SE.SV.int Go.IntKind.i64 (p.marks.g i).place, Go.SE.SV.int Go.IntKind.i64 (p.marks.g i).tone] = [Go.SE.SV.int Go.IntKind.i64 (p.marks.g i).edge, Go.SE.SV.int Go.IntKind.i64 (p.marks.g i).place, Go.SE.SV.int Go.IntKind.i64 (p.marks.g i).tone]) ∧ p.gauges.n ≤ (1000000 : Nat) ∧ p.marks.n ≤ (1000000 : Nat)) ∧ ((∀ (i : Nat), i < p.gauges.n → [Go.SE.SV.int Go.IntKind.i64 (p.gauges.g i).edge.lo,
 Go.SE.SV.int Go.IntKind.i64 (p.gauges.g i).edge.hi, Go.SE.SV.int Go.IntKind.i64 (p.gauges.g i).across.lo, Go.SE.SV.int Go.IntKind.i64 (p.gauges.g i).across.hi, Go.SE.SV.int Go.IntKind.i64 (p.gauges.g i).bend] = [Go.SE.SV.int Go.IntKind.i64 (p.gauges.g i).edge.lo, Go.SE.SV.int Go.IntKind.i64 (p.gauges.g i).edge.hi, Go.SE.SV.int Go.IntKind.i64 (p.gauges.g i).across.lo, Go.SE.SV.int Go.IntKind.i64
 (p.gauges.g i).across.hi, Go.SE.SV.int Go.IntKind.i64 (p.gauges.g i).bend]) ∧ (∀ (i : Nat), i < p.marks.n → [Go.SE.SV.int Go.IntKind.i64 (p.marks.g i).edge, Go.SE.SV.int Go.IntKind.i64 (p.marks.g i).place, Go.SE.SV.int Go.IntKind.i64 (p.marks.g i).tone] = [Go.SE.SV.int Go.IntKind.i64 (p.marks.g i).edge, Go.SE.SV.int Go.IntKind.i64 (p.marks.g i).place, Go.SE.SV.int Go.IntKind.i64 (p.marks.g
 i).tone]) ∧ p.gauges.n ≤ (1000000 : Nat) ∧ p.marks.n ≤ (1000000 : Nat)) ∧ ((bif Bool.true then Decidable.decide (L.wrE (L.Piece.mk p.id p.colour p.rev p.made p.swell (L.Sq.mk p.gauges.n fun (i : Nat) ↦ p.gauges.g i) (L.Sq.mk p.marks.n fun (i : Nat) ↦ p.marks.g i)) s = L.wrE (L.Piece.mk p.id p.colour p.rev p.made p.swell (L.Sq.mk p.gauges.n fun (i : Nat) ↦ p.gauges.g i) (L.Sq.mk p.marks.n fun (i :
 Nat) ↦ p.marks.g i)) s) else Bool.false) = Bool.true → (∀ (i : Nat), i < (L.rsV (L.Piece.mk p.id p.colour p.rev p.made p.swell (L.Sq.mk p.gauges.n fun (i : Nat) ↦ p.gauges.g i) (L.Sq.mk p.marks.n fun (i : Nat) ↦ p.marks.g i)) s).gauges.n → [Go.SE.SV.int Go.IntKind.i64 ((L.rsV (L.Piece.mk p.id p.colour p.rev p.made p.swell (L.Sq.mk p.gauges.n fun (i : Nat) ↦ p.gauges.g i) (L.Sq.mk p.marks.n fun (i
 : Nat) ↦ p.marks.g i)) s).gauges.g i).edge.lo, Go.SE.SV.int Go.IntKind.i64 ((L.rsV (L.Piece.mk p.id p.colour p.rev p.made p.swell (L.Sq.mk p.gauges.n fun (i : Nat) ↦ p.gauges.g i) (L.Sq.mk p.marks.n fun (i : Nat) ↦ p.marks.g i)) s).gauges.g i).edge.hi, Go.SE.SV.int Go.IntKind.i64 ((L.rsV (L.Piece.mk p.id p.colour p.rev p.made p.swell (L.Sq.mk p.gauges.n fun (i : Nat) ↦ p.gauges.g i) (L.Sq.mk
 p.marks.n fun (i : Nat) ↦ p.marks.g i)) s).gauges.g i).across.lo, Go.SE.SV.int Go.IntKind.i64 ((L.rsV (L.Piece.mk p.id p.colour p.rev p.made p.swell (L.Sq.mk p.gauges.n fun (i : Nat) ↦ p.gauges.g i) (L.Sq.mk p.marks.n fun (i : Nat) ↦ p.marks.g i)) s).gauges.g i).across.hi, Go.SE.SV.int Go.IntKind.i64 ((L.rsV (L.Piece.mk p.id p.colour p.rev p.made p.swell (L.Sq.mk p.gauges.n fun (i : Nat) ↦
 p.gauges.g i) (L.Sq.mk p.marks.n fun (i : Nat) ↦ p.marks.g i)) s).gauges.g i).bend] = [Go.SE.SV.int Go.IntKind.i64 ((L.rsV (L.Piece.mk p.id p.colour p.rev p.made p.swell (L.Sq.mk p.gauges.n fun (i : Nat) ↦ p.gauges.g i) (L.Sq.mk p.marks.n fun (i : Nat) ↦ p.marks.g i)) s).gauges.g i).edge.lo, Go.SE.SV.int Go.IntKind.i64 ((L.rsV (L.Piece.mk p.id p.colour p.rev p.made p.swell (L.Sq.mk p.gauges.n fun
 (i : Nat) ↦ p.gauges.g i) (L.Sq.mk p.marks.n fun (i : Nat) ↦ p.marks.g i)) s).gauges.g i).edge.hi, Go.SE.SV.int Go.IntKind.i64 ((L.rsV (L.Piece.mk p.id p.colour p.rev p.made p.swell (L.Sq.mk p.gauges.n fun (i : Nat) ↦ p.gauges.g i) (L.Sq.mk p.marks.n fun (i : Nat) ↦ p.marks.g i)) s).gauges.g i).across.lo, Go.SE.SV.int Go.IntKind.i64 ((L.rsV (L.Piece.mk p.id p.colour p.rev p.made p.swell (L.Sq.mk
 p.gauges.n fun (i : Nat) ↦ p.gauges.g i) (L.Sq.mk p.marks.n fun (i : Nat) ↦ p.marks.g i)) s).gauges.g i).across.hi, Go.SE.SV.int Go.IntKind.i64 ((L.rsV (L.Piece.mk p.id p.colour p.rev p.made p.swell (L.Sq.mk p.gauges.n fun (i : Nat) ↦ p.gauges.g i) (L.Sq.mk p.marks.n fun (i : Nat) ↦ p.marks.g i)) s).gauges.g i).bend]) ∧ (∀ (i : Nat), i < (L.rsV (L.Piece.mk p.id p.colour p.rev p.made p.swell
 (L.Sq.mk p.gauges.n fun (i : Nat) ↦ p.gauges.g i) (L.Sq.mk p.marks.n fun (i : Nat) ↦ p.marks.g i)) s).marks.n → [Go.SE.SV.int Go.IntKind.i64 ((L.rsV (L.Piece.mk p.id p.colour p.rev p.made p.swell (L.Sq.mk p.gauges.n fun (i : Nat) ↦ p.gauges.g i) (L.Sq.mk p.marks.n fun (i : Nat) ↦ p.marks.g i)) s).marks.g i).edge, Go.SE.SV.int Go.IntKind.i64 ((L.rsV (L.Piece.mk p.id p.colour p.rev p.made p.swell
 (L.Sq.mk p.gauges.n fun (i : Nat) ↦ p.gauges.g i) (L.Sq.mk p.marks.n fun (i : Nat) ↦ p.marks.g i)) s).marks.g i).place, Go.SE.SV.int Go.IntKind.i64 ((L.rsV (L.Piece.mk p.id p.colour p.rev p.made p.swell (L.Sq.mk p.gauges.n fun (i : Nat) ↦ p.gauges.g i) (L.Sq.mk p.marks.n fun (i : Nat) ↦ p.marks.g i)) s).marks.g i).tone] = [Go.SE.SV.int Go.IntKind.i64 ((L.rsV (L.Piece.mk p.id p.colour p.rev p.made
 p.swell (L.Sq.mk p.gauges.n fun (i : Nat) ↦ p.gauges.g i) (L.Sq.mk p.marks.n fun (i : Nat) ↦ p.marks.g i)) s).marks.g i).edge, Go.SE.SV.int Go.IntKind.i64 ((L.rsV (L.Piece.mk p.id p.colour p.rev p.made p.swell (L.Sq.mk p.gauges.n fun (i : Nat) ↦ p.gauges.g i) (L.Sq.mk p.marks.n fun (i : Nat) ↦ p.marks.g i)) s).marks.g i).place, Go.SE.SV.int Go.IntKind.i64 ((L.rsV (L.Piece.mk p.id p.colour p.rev
 p.made p.swell (L.Sq.mk p.gauges.n fun (i : Nat) ↦ p.gauges.g i) (L.Sq.mk p.marks.n fun (i : Nat) ↦ p.marks.g i)) s).marks.g i).tone]) ∧ (∀ (i : Nat), i < (L.rsV (L.Piece.mk p.id p.colour p.rev p.made p.swell (L.Sq.mk p.gauges.n fun (i : Nat) ↦ p.gauges.g i) (L.Sq.mk p.marks.n fun (i : Nat) ↦ p.marks.g i)) s).gauges.n → [Go.SE.SV.int Go.IntKind.i64 ((L.rsV (L.Piece.mk p.id p.colour p.rev p.made
 p.swell (L.Sq.mk p.gauges.n fun (i : Nat) ↦ p.gauges.g i) (L.Sq.mk p.marks.n fun (i : Nat) ↦ p.marks.g i)) s).gauges.g i).edge.lo, Go.SE.SV.int Go.IntKind.i64 ((L.rsV (L.Piece.mk p.id p.colour p.rev p.made p.swell (L.Sq.mk p.gauges.n fun (i : Nat) ↦ p.gauges.g i) (L.Sq.mk p.marks.n fun (i : Nat) ↦ p.marks.g i)) s).gauges.g i).edge.hi, Go.SE.SV.int Go.IntKind.i64 ((L.rsV (L.Piece.mk p.id p.colour
 p.rev p.made p.swell (L.Sq.mk p.gauges.n fun (i : Nat) ↦ p.gauges.g i) (L.Sq.mk p.marks.n fun (i : Nat) ↦ p.marks.g i)) s).gauges.g i).across.lo, Go.SE.SV.int Go.IntKind.i64 ((L.rsV (L.Piece.mk p.id p.colour p.rev p.made p.swell (L.Sq.mk p.gauges.n fun (i : Nat) ↦ p.gauges.g i) (L.Sq.mk p.marks.n fun (i : Nat) ↦ p.marks.g i)) s).gauges.g i).across.hi, Go.SE.SV.int Go.IntKind.i64 ((L.rsV
 (L.Piece.mk p.id p.colour p.rev p.made p.swell (L.Sq.mk p.gauges.n fun (i : Nat) ↦ p.gauges.g i) (L.Sq.mk p.marks.n fun (i : Nat) ↦ p.marks.g i)) s).gauges.g i).bend] = [Go.SE.SV.int Go.IntKind.i64 ((L.rsV (L.Piece.mk p.id p.colour p.rev p.made p.swell (L.Sq.mk p.gauges.n fun (i : Nat) ↦ p.gauges.g i) (L.Sq.mk p.marks.n fun (i : Nat) ↦ p.marks.g i)) s).gauges.g i).edge.lo, Go.SE.SV.int
 Go.IntKind.i64 ((L.rsV (L.Piece.mk p.id p.colour p.rev p.made p.swell (L.Sq.mk p.gauges.n fun (i : Nat) ↦ p.gauges.g i) (L.Sq.mk p.marks.n fun (i : Nat) ↦ p.marks.g i)) s).gauges.g i).edge.hi, Go.SE.SV.int Go.IntKind.i64 ((L.rsV (L.Piece.mk p.id p.colour p.rev p.made p.swell (L.Sq.mk p.gauges.n fun (i : Nat) ↦ p.gauges.g i) (L.Sq.mk p.marks.n fun (i : Nat) ↦ p.marks.g i)) s).gauges.g i).across.lo,
 Go.SE.SV.int Go.IntKind.i64 ((L.rsV (L.Piece.mk p.id p.colour p.rev p.made p.swell (L.Sq.mk p.gauges.n fun (i : Nat) ↦ p.gauges.g i) (L.Sq.mk p.marks.n fun (i : Nat) ↦ p.marks.g i)) s).gauges.g i).across.hi, Go.SE.SV.int Go.IntKind.i64 ((L.rsV (L.Piece.mk p.id p.colour p.rev p.made p.swell (L.Sq.mk p.gauges.n fun (i : Nat) ↦ p.gauges.g i) (L.Sq.mk p.marks.n fun (i : Nat) ↦ p.marks.g i))
 s).gauges.g i).bend]) ∧ (∀ (i : Nat), i < (L.rsV (L.Piece.mk p.id p.colour p.rev p.made p.swell (L.Sq.mk p.gauges.n fun (i : Nat) ↦ p.gauges.g i) (L.Sq.mk p.marks.n fun (i : Nat) ↦ p.marks.g i)) s).marks.n → [Go.SE.SV.int Go.IntKind.i64 ((L.rsV (L.Piece.mk p.id p.colour p.rev p.made p.swell (L.Sq.mk p.gauges.n fun (i : Nat) ↦ p.gauges.g i) (L.Sq.mk p.marks.n fun (i : Nat) ↦ p.marks.g i))
 s).marks.g i).edge, Go.SE.SV.int Go.IntKind.i64 ((L.rsV (L.Piece.mk p.id p.colour p.rev p.made p.swell (L.Sq.mk p.gauges.n fun (i : Nat) ↦ p.gauges.g i) (L.Sq.mk p.marks.n fun (i : Nat) ↦ p.marks.g i)) s).marks.g i).place, Go.SE.SV.int Go.IntKind.i64 ((L.rsV (L.Piece.mk p.id p.colour p.rev p.made p.swell (L.Sq.mk p.gauges.n fun (i : Nat) ↦ p.gauges.g i) (L.Sq.mk p.marks.n fun (i : Nat) ↦ p.marks.g
 i)) s).marks.g i).tone] = [Go.SE.SV.int Go.IntKind.i64 ((L.rsV (L.Piece.mk p.id p.colour p.rev p.made p.swell (L.Sq.mk p.gauges.n fun (i : Nat) ↦ p.gauges.g i) (L.Sq.mk p.marks.n fun (i : Nat) ↦ p.marks.g i)) s).marks.g i).edge, Go.SE.SV.int Go.IntKind.i64 ((L.rsV (L.Piece.mk p.id p.colour p.rev p.made p.swell (L.Sq.mk p.gauges.n fun (i : Nat) ↦ p.gauges.g i) (L.Sq.mk p.marks.n fun (i : Nat) ↦
 p.marks.g i)) s).marks.g i).place, Go.SE.SV.int Go.IntKind.i64 ((L.rsV (L.Piece.mk p.id p.colour p.rev p.made p.swell (L.Sq.mk p.gauges.n fun (i : Nat) ↦ p.gauges.g i) (L.Sq.mk p.marks.n fun (i : Nat) ↦ p.marks.g i)) s).marks.g i).tone]) ∧ (L.rsV (L.Piece.mk p.id p.colour p.rev p.made p.swell (L.Sq.mk p.gauges.n fun (i : Nat) ↦ p.gauges.g i) (L.Sq.mk p.marks.n fun (i : Nat) ↦ p.marks.g i))
 s).gauges.n ≤ (1000000 : Nat) ∧ (L.rsV (L.Piece.mk p.id p.colour p.rev p.made p.swell (L.Sq.mk p.gauges.n fun (i : Nat) ↦ p.gauges.g i) (L.Sq.mk p.marks.n fun (i : Nat) ↦ p.marks.g i)) s).marks.n ≤ (1000000 : Nat)) ∧ ((bif bif bif bif bif Bool.true then Decidable.decide (L.wrE (L.Piece.mk p.id p.colour p.rev p.made p.swell (L.Sq.mk p.gauges.n fun (i : Nat) ↦ p.gauges.g i) (L.Sq.mk p.marks.n fun (i
 : Nat) ↦ p.marks.g i)) s = L.wrE (L.Piece.mk p.id p.colour p.rev p.made p.swell (L.Sq.mk p.gauges.n fun (i : Nat) ↦ p.gauges.g i) (L.Sq.mk p.marks.n fun (i : Nat) ↦ p.marks.g i)) s) else Bool.false then L.samePc (L.Piece.mk (L.rsV (L.Piece.mk p.id p.colour p.rev p.made p.swell (L.Sq.mk p.gauges.n fun (i : Nat) ↦ p.gauges.g i) (L.Sq.mk p.marks.n fun (i : Nat) ↦ p.marks.g i)) s).id (L.rsV
 (L.Piece.mk p.id p.colour p.rev p.made p.swell (L.Sq.mk p.gauges.n fun (i : Nat) ↦ p.gauges.g i) (L.Sq.mk p.marks.n fun (i : Nat) ↦ p.marks.g i)) s).colour (L.rsV (L.Piece.mk p.id p.colour p.rev p.made p.swell (L.Sq.mk p.gauges.n fun (i : Nat) ↦ p.gauges.g i) (L.Sq.mk p.marks.n fun (i : Nat) ↦ p.marks.g i)) s).rev (L.rsV (L.Piece.mk p.id p.colour p.rev p.made p.swell (L.Sq.mk p.gauges.n fun (i :
 Nat) ↦ p.gauges.g i) (L.Sq.mk p.marks.n fun (i : Nat) ↦ p.marks.g i)) s).made (L.rsV (L.Piece.mk p.id p.colour p.rev p.made p.swell (L.Sq.mk p.gauges.n fun (i : Nat) ↦ p.gauges.g i) (L.Sq.mk p.marks.n fun (i : Nat) ↦ p.marks.g i)) s).swell (L.Sq.mk (L.rsV (L.Piece.mk p.id p.colour p.rev p.made p.swell (L.Sq.mk p.gauges.n fun (i : Nat) ↦ p.gauges.g i) (L.Sq.mk p.marks.n fun (i : Nat) ↦ p.marks.g
 i)) s).gauges.n fun (i : Nat) ↦ (L.rsV (L.Piece.mk p.id p.colour p.rev p.made p.swell (L.Sq.mk p.gauges.n fun (i : Nat) ↦ p.gauges.g i) (L.Sq.mk p.marks.n fun (i : Nat) ↦ p.marks.g i)) s).gauges.g i) (L.Sq.mk (L.rsV (L.Piece.mk p.id p.colour p.rev p.made p.swell (L.Sq.mk p.gauges.n fun (i : Nat) ↦ p.gauges.g i) (L.Sq.mk p.marks.n fun (i : Nat) ↦ p.marks.g i)) s).marks.n fun (i : Nat) ↦ (L.rsV
 (L.Piece.mk p.id p.colour p.rev p.made p.swell (L.Sq.mk p.gauges.n fun (i : Nat) ↦ p.gauges.g i) (L.Sq.mk p.marks.n fun (i : Nat) ↦ p.marks.g i)) s).marks.g i)) (L.Piece.mk (L.rsV (L.Piece.mk p.id p.colour p.rev p.made p.swell (L.Sq.mk p.gauges.n fun (i : Nat) ↦ p.gauges.g i) (L.Sq.mk p.marks.n fun (i : Nat) ↦ p.marks.g i)) s).id (L.rsV (L.Piece.mk p.id p.colour p.rev p.made p.swell (L.Sq.mk
 p.gauges.n fun (i : Nat) ↦ p.gauges.g i) (L.Sq.mk p.marks.n fun (i : Nat) ↦ p.marks.g i)) s).colour (L.rsV (L.Piece.mk p.id p.colour p.rev p.made p.swell (L.Sq.mk p.gauges.n fun (i : Nat) ↦ p.gauges.g i) (L.Sq.mk p.marks.n fun (i : Nat) ↦ p.marks.g i)) s).rev (L.rsV (L.Piece.mk p.id p.colour p.rev p.made p.swell (L.Sq.mk p.gauges.n fun (i : Nat) ↦ p.gauges.g i) (L.Sq.mk p.marks.n fun (i : Nat) ↦
 p.marks.g i)) s).made (L.rsV (L.Piece.mk p.id p.colour p.rev p.made p.swell (L.Sq.mk p.gauges.n fun (i : Nat) ↦ p.gauges.g i) (L.Sq.mk p.marks.n fun (i : Nat) ↦ p.marks.g i)) s).swell (L.Sq.mk (L.rsV (L.Piece.mk p.id p.colour p.rev p.made p.swell (L.Sq.mk p.gauges.n fun (i : Nat) ↦ p.gauges.g i) (L.Sq.mk p.marks.n fun (i : Nat) ↦ p.marks.g i)) s).gauges.n fun (i : Nat) ↦ (L.rsV (L.Piece.mk p.id
 p.colour p.rev p.made p.swell (L.Sq.mk p.gauges.n fun (i : Nat) ↦ p.gauges.g i) (L.Sq.mk p.marks.n fun (i : Nat) ↦ p.marks.g i)) s).gauges.g i) (L.Sq.mk (L.rsV (L.Piece.mk p.id p.colour p.rev p.made p.swell (L.Sq.mk p.gauges.n fun (i : Nat) ↦ p.gauges.g i) (L.Sq.mk p.marks.n fun (i : Nat) ↦ p.marks.g i)) s).marks.n fun (i : Nat) ↦ (L.rsV (L.Piece.mk p.id p.colour p.rev p.made p.swell (L.Sq.mk
 p.gauges.n fun (i : Nat) ↦ p.gauges.g i) (L.Sq.mk p.marks.n fun (i : Nat) ↦ p.marks.g i)) s).marks.g i)) else Bool.false then Decidable.decide ((L.rsV (L.Piece.mk p.id p.colour p.rev p.made p.swell (L.Sq.mk p.gauges.n fun (i : Nat) ↦ p.gauges.g i) (L.Sq.mk p.marks.n fun (i : Nat) ↦ p.marks.g i)) s).colour = (L.rsV (L.Piece.mk p.id p.colour p.rev p.made p.swell (L.Sq.mk p.gauges.n fun (i : Nat) ↦
 p.gauges.g i) (L.Sq.mk p.marks.n fun (i : Nat) ↦ p.marks.g i)) s).colour) else Bool.false then Decidable.decide (L.wrE (L.Piece.mk p.id p.colour p.rev p.made p.swell (L.Sq.mk p.gauges.n fun (i : Nat) ↦ p.gauges.g i) (L.Sq.mk p.marks.n fun (i : Nat) ↦ p.marks.g i)) s = L.wrE (L.Piece.mk p.id p.colour p.rev p.made p.swell (L.Sq.mk p.gauges.n fun (i : Nat) ↦ p.gauges.g i) (L.Sq.mk p.marks.n fun (i :
 Nat) ↦ p.marks.g i)) s) else Bool.false then Decidable.decide (L.wrE (L.Piece.mk p.id p.colour p.rev p.made p.swell (L.Sq.mk p.gauges.n fun (i : Nat) ↦ p.gauges.g i) (L.Sq.mk p.marks.n fun (i : Nat) ↦ p.marks.g i)) s = L.wrE (L.Piece.mk p.id p.colour p.rev p.made p.swell (L.Sq.mk p.gauges.n fun (i : Nat) ↦ p.gauges.g i) (L.Sq.mk p.marks.n fun (i : Nat) ↦ p.marks.g i)) s) else Bool.false) =
 Bool.true → (∀ (i : Nat), i < (L.rsV (L.Piece.mk p.id p.colour p.rev p.made p.swell (L.Sq.mk p.gauges.n fun (i : Nat) ↦ p.gauges.g i) (L.Sq.mk p.marks.n fun (i : Nat) ↦ p.marks.g i)) s).marks.n → [Go.SE.SV.int Go.IntKind.i64 ((L.rsV (L.Piece.mk p.id p.colour p.rev p.made p.swell (L.Sq.mk p.gauges.n fun (i : Nat) ↦ p.gauges.g i) (L.Sq.mk p.marks.n fun (i : Nat) ↦ p.marks.g i)) s).marks.g i).edge,
 Go.SE.SV.int Go.IntKind.i64 ((L.rsV (L.Piece.mk p.id p.colour p.rev p.made p.swell (L.Sq.mk p.gauges.n fun (i : Nat) ↦ p.gauges.g i) (L.Sq.mk p.marks.n fun (i : Nat) ↦ p.marks.g i)) s).marks.g i).place, Go.SE.SV.int Go.IntKind.i64 ((L.rsV (L.Piece.mk p.id p.colour p.rev p.made p.swell (L.Sq.mk p.gauges.n fun (i : Nat) ↦ p.gauges.g i) (L.Sq.mk p.marks.n fun (i : Nat) ↦ p.marks.g i)) s).marks.g
 i).tone] = [Go.SE.SV.int Go.IntKind.i64 ((L.rsV (L.Piece.mk p.id p.colour p.rev p.made p.swell (L.Sq.mk p.gauges.n fun (i : Nat) ↦ p.gauges.g i) (L.Sq.mk p.marks.n fun (i : Nat) ↦ p.marks.g i)) s).marks.g i).edge, Go.SE.SV.int Go.IntKind.i64 ((L.rsV (L.Piece.mk p.id p.colour p.rev p.made p.swell (L.Sq.mk p.gauges.n fun (i : Nat) ↦ p.gauges.g i) (L.Sq.mk p.marks.n fun (i : Nat) ↦ p.marks.g i))
 s).marks.g i).place, Go.SE.SV.int Go.IntKind.i64 ((L.rsV (L.Piece.mk p.id p.colour p.rev p.made p.swell (L.Sq.mk p.gauges.n fun (i : Nat) ↦ p.gauges.g i) (L.Sq.mk p.marks.n fun (i : Nat) ↦ p.marks.g i)) s).marks.g i).tone]) ∧ (∀ (i : Nat), i < (L.rsV (L.Piece.mk p.id p.colour p.rev p.made p.swell (L.Sq.mk p.gauges.n fun (i : Nat) ↦ p.gauges.g i) (L.Sq.mk p.marks.n fun (i : Nat) ↦ p.marks.g i))
 s).marks.n → [Go.SE.SV.int Go.IntKind.i64 ((L.rsV (L.Piece.mk p.id p.colour p.rev p.made p.swell (L.Sq.mk p.gauges.n fun (i : Nat) ↦ p.gauges.g i) (L.Sq.mk p.marks.n fun (i : Nat) ↦ p.marks.g i)) s).marks.g i).edge, Go.SE.SV.int Go.IntKind.i64 ((L.rsV (L.Piece.mk p.id p.colour p.rev p.made p.swell (L.Sq.mk p.gauges.n fun (i : Nat) ↦ p.gauges.g i) (L.Sq.mk p.marks.n fun (i : Nat) ↦ p.marks.g i))
 s).marks.g i).place, Go.SE.SV.int Go.IntKind.i64 ((L.rsV (L.Piece.mk p.id p.colour p.rev p.made p.swell (L.Sq.mk p.gauges.n fun (i : Nat) ↦ p.gauges.g i) (L.Sq.mk p.marks.n fun (i : Nat) ↦ p.marks.g i)) s).marks.g i).tone] = [Go.SE.SV.int Go.IntKind.i64 ((L.rsV (L.Piece.mk p.id p.colour p.rev p.made p.swell (L.Sq.mk p.gauges.n fun (i : Nat) ↦ p.gauges.g i) (L.Sq.mk p.marks.n fun (i : Nat) ↦
 p.marks.g i)) s).marks.g i).edge, Go.SE.SV.int Go.IntKind.i64 ((L.rsV (L.Piece.mk p.id p.colour p.rev p.made p.swell (L.Sq.mk p.gauges.n fun (i : Nat) ↦ p.gauges.g i) (L.Sq.mk p.marks.n fun (i : Nat) ↦ p.marks.g i)) s).marks.g i).place, Go.SE.SV.int Go.IntKind.i64 ((L.rsV (L.Piece.mk p.id p.colour p.rev p.made p.swell (L.Sq.mk p.gauges.n fun (i : Nat) ↦ p.gauges.g i) (L.Sq.mk p.marks.n fun (i :
 Nat) ↦ p.marks.g i)) s).marks.g i).tone]) ∧ (L.rsV (L.Piece.mk p.id p.colour p.rev p.made p.swell (L.Sq.mk p.gauges.n fun (i : Nat) ↦ p.gauges.g i) (L.Sq.mk p.marks.n fun (i : Nat) ↦ p.marks.g i)) s).marks.n ≤ (1000000 : Nat)) ∧ (bif bif bif bif bif bif Bool.true then Decidable.decide (L.wrE (L.Piece.mk p.id p.colour p.rev p.made p.swell (L.Sq.mk p.gauges.n fun (i : Nat) ↦ p.gauges.g i) (L.Sq.mk
 p.marks.n fun (i : Nat) ↦ p.marks.g i)) s = L.wrE (L.Piece.mk p.id p.colour p.rev p.made p.swell (L.Sq.mk p.gauges.n fun (i : Nat) ↦ p.gauges.g i) (L.Sq.mk p.marks.n fun (i : Nat) ↦ p.marks.g i)) s) else Bool.false then L.samePc (L.Piece.mk (L.rsV (L.Piece.mk p.id p.colour p.rev p.made p.swell (L.Sq.mk p.gauges.n fun (i : Nat) ↦ p.gauges.g i) (L.Sq.mk p.marks.n fun (i : Nat) ↦ p.marks.g i)) s).id
 (L.rsV (L.Piece.mk p.id p.colour p.rev p.made p.swell (L.Sq.mk p.gauges.n fun (i : Nat) ↦ p.gauges.g i) (L.Sq.mk p.marks.n fun (i : Nat) ↦ p.marks.g i)) s).colour (L.rsV (L.Piece.mk p.id p.colour p.rev p.made p.swell (L.Sq.mk p.gauges.n fun (i : Nat) ↦ p.gauges.g i) (L.Sq.mk p.marks.n fun (i : Nat) ↦ p.marks.g i)) s).rev (L.rsV (L.Piece.mk p.id p.colour p.rev p.made p.swell (L.Sq.mk p.gauges.n fun
 (i : Nat) ↦ p.gauges.g i) (L.Sq.mk p.marks.n fun (i : Nat) ↦ p.marks.g i)) s).made (L.rsV (L.Piece.mk p.id p.colour p.rev p.made p.swell (L.Sq.mk p.gauges.n fun (i : Nat) ↦ p.gauges.g i) (L.Sq.mk p.marks.n fun (i : Nat) ↦ p.marks.g i)) s).swell (L.Sq.mk (L.rsV (L.Piece.mk p.id p.colour p.rev p.made p.swell (L.Sq.mk p.gauges.n fun (i : Nat) ↦ p.gauges.g i) (L.Sq.mk p.marks.n fun (i : Nat) ↦
 p.marks.g i)) s).gauges.n fun (i : Nat) ↦ (L.rsV (L.Piece.mk p.id p.colour p.rev p.made p.swell (L.Sq.mk p.gauges.n fun (i : Nat) ↦ p.gauges.g i) (L.Sq.mk p.marks.n fun (i : Nat) ↦ p.marks.g i)) s).gauges.g i) (L.Sq.mk (L.rsV (L.Piece.mk p.id p.colour p.rev p.made p.swell (L.Sq.mk p.gauges.n fun (i : Nat) ↦ p.gauges.g i) (L.Sq.mk p.marks.n fun (i : Nat) ↦ p.marks.g i)) s).marks.n fun (i : Nat) ↦
 (L.rsV (L.Piece.mk p.id p.colour p.rev p.made p.swell (L.Sq.mk p.gauges.n fun (i : Nat) ↦ p.gauges.g i) (L.Sq.mk p.marks.n fun (i : Nat) ↦ p.marks.g i)) s).marks.g i)) (L.Piece.mk (L.rsV (L.Piece.mk p.id p.colour p.rev p.made p.swell (L.Sq.mk p.gauges.n fun (i : Nat) ↦ p.gauges.g i) (L.Sq.mk p.marks.n fun (i : Nat) ↦ p.marks.g i)) s).id (L.rsV (L.Piece.mk p.id p.colour p.rev p.made p.swell
 (L.Sq.mk p.gauges.n fun (i : Nat) ↦ p.gauges.g i) (L.Sq.mk p.marks.n fun (i : Nat) ↦ p.marks.g i)) s).colour (L.rsV (L.Piece.mk p.id p.colour p.rev p.made p.swell (L.Sq.mk p.gauges.n fun (i : Nat) ↦ p.gauges.g i) (L.Sq.mk p.marks.n fun (i : Nat) ↦ p.marks.g i)) s).rev (L.rsV (L.Piece.mk p.id p.colour p.rev p.made p.swell (L.Sq.mk p.gauges.n fun (i : Nat) ↦ p.gauges.g i) (L.Sq.mk p.marks.n fun (i :
 Nat) ↦ p.marks.g i)) s).made (L.rsV (L.Piece.mk p.id p.colour p.rev p.made p.swell (L.Sq.mk p.gauges.n fun (i : Nat) ↦ p.gauges.g i) (L.Sq.mk p.marks.n fun (i : Nat) ↦ p.marks.g i)) s).swell (L.Sq.mk (L.rsV (L.Piece.mk p.id p.colour p.rev p.made p.swell (L.Sq.mk p.gauges.n fun (i : Nat) ↦ p.gauges.g i) (L.Sq.mk p.marks.n fun (i : Nat) ↦ p.marks.g i)) s).gauges.n fun (i : Nat) ↦ (L.rsV (L.Piece.mk
 p.id p.colour p.rev p.made p.swell (L.Sq.mk p.gauges.n fun (i : Nat) ↦ p.gauges.g i) (L.Sq.mk p.marks.n fun (i : Nat) ↦ p.marks.g i)) s).gauges.g i) (L.Sq.mk (L.rsV (L.Piece.mk p.id p.colour p.rev p.made p.swell (L.Sq.mk p.gauges.n fun (i : Nat) ↦ p.gauges.g i) (L.Sq.mk p.marks.n fun (i : Nat) ↦ p.marks.g i)) s).marks.n fun (i : Nat) ↦ (L.rsV (L.Piece.mk p.id p.colour p.rev p.made p.swell (L.Sq.mk
 p.gauges.n fun (i : Nat) ↦ p.gauges.g i) (L.Sq.mk p.marks.n fun (i : Nat) ↦ p.marks.g i)) s).marks.g i)) else Bool.false then Decidable.decide ((L.rsV (L.Piece.mk p.id p.colour p.rev p.made p.swell (L.Sq.mk p.gauges.n fun (i : Nat) ↦ p.gauges.g i) (L.Sq.mk p.marks.n fun (i : Nat) ↦ p.marks.g i)) s).colour = (L.rsV (L.Piece.mk p.id p.colour p.rev p.made p.swell (L.Sq.mk p.gauges.n fun (i : Nat) ↦
 p.gauges.g i) (L.Sq.mk p.marks.n fun (i : Nat) ↦ p.marks.g i)) s).colour) else Bool.false then Decidable.decide (L.wrE (L.Piece.mk p.id p.colour p.rev p.made p.swell (L.Sq.mk p.gauges.n fun (i : Nat) ↦ p.gauges.g i) (L.Sq.mk p.marks.n fun (i : Nat) ↦ p.marks.g i)) s = L.wrE (L.Piece.mk p.id p.colour p.rev p.made p.swell (L.Sq.mk p.gauges.n fun (i : Nat) ↦ p.gauges.g i) (L.Sq.mk p.marks.n fun (i :
 Nat) ↦ p.marks.g i)) s) else Bool.false then Decidable.decide (L.wrE (L.Piece.mk p.id p.colour p.rev p.made p.swell (L.Sq.mk p.gauges.n fun (i : Nat) ↦ p.gauges.g i) (L.Sq.mk p.marks.n fun (i : Nat) ↦ p.marks.g i)) s = L.wrE (L.Piece.mk p.id p.colour p.rev p.made p.swell (L.Sq.mk p.gauges.n fun (i : Nat) ↦ p.gauges.g i) (L.Sq.mk p.marks.n fun (i : Nat) ↦ p.marks.g i)) s) else Bool.false then
 L.sameMs (L.Sq.mk (L.rsV (L.Piece.mk p.id p.colour p.rev p.made p.swell (L.Sq.mk p.gauges.n fun (i : Nat) ↦ p.gauges.g i) (L.Sq.mk p.marks.n fun (i : Nat) ↦ p.marks.g i)) s).marks.n fun (i : Nat) ↦ (L.rsV (L.Piece.mk p.id p.colour p.rev p.made p.swell (L.Sq.mk p.gauges.n fun (i : Nat) ↦ p.gauges.g i) (L.Sq.mk p.marks.n fun (i : Nat) ↦ p.marks.g i)) s).marks.g i) (L.Sq.mk (L.rsV (L.Piece.mk p.id
 p.colour p.rev p.made p.swell (L.Sq.mk p.gauges.n fun (i : Nat) ↦ p.gauges.g i) (L.Sq.mk p.marks.n fun (i : Nat) ↦ p.marks.g i)) s).marks.n fun (i : Nat) ↦ (L.rsV (L.Piece.mk p.id p.colour p.rev p.made p.swell (L.Sq.mk p.gauges.n fun (i : Nat) ↦ p.gauges.g i) (L.Sq.mk p.marks.n fun (i : Nat) ↦ p.marks.g i)) s).marks.g i) else Bool.false) = Bool.true)) (by kernel_rfl) (by
    refine ⟨trivial, ⟨fun _ _ => rfl, fun _ _ => rfl, fun i hi => absurd hi (Nat.not_lt_zero _), trivial⟩, fun _ => rfl, fun h => ?_⟩
    have hs : p.gauges.n ≤ 60 ∧ p.marks.n ≤ 100 := by
      have h : L.few p ⟨0, fun _ => ⟨0, 0⟩⟩ = true := notF h
      rw [few_iff] at h
      exact ⟨h.1, h.2.1⟩
    have W : p.gauges.n ≤ 1000000 ∧ p.marks.n ≤ 1000000 := by omega
    have hl := rsV_len p s
    have hl1 : (L.rsV p s).gauges.n ≤ 1000000 := by omega
    have hl2 : (L.rsV p s).marks.n ≤ 1000000 := by omega
    refine ⟨⟨fun _ _ => rfl, fun _ _ => rfl, W⟩, ⟨fun _ _ => rfl, fun _ _ => rfl, W⟩, ⟨fun _ _ => rfl, fun _ _ => rfl, W⟩, ⟨fun _ _ => rfl, fun _ _ => rfl, W⟩, ⟨fun _ _ => rfl, fun _ _ => rfl, W⟩, ⟨fun _ _ => rfl, fun _ _ => rfl, W⟩, fun _ => ⟨fun _ _ => rfl, fun _ _ => rfl, fun _ _ => rfl, fun _ _ => rfl, hl1, hl2⟩, fun _ => ⟨fun _ _ => rfl, fun _ _ => rfl, hl2⟩, ?_⟩
    rw [samePc_refl, sameMs_refl]
    simp)
theorem w_Resets_ok : SpecOk Tryz.prog 3 w_Resets_S := fnX Tryz.func3 (c := bodyOf Tryz.f3) (by kernel_rfl) mixed (fun args p r hs hp => by
  unfold w_Resets_s at hs
  split at hs
  · cases hs; exact ⟨_, _, w_Resets_vc _ _ hp.2.2, (.p (.agg rfl (fun i hi => by
      rcases i with _ | i
      · exact (Ext.refl _ : Ext _ _)
      rcases i with _ | i
      · exact (Ext.refl _ : Ext _ _)
      rcases i with _ | i
      · exact (Ext.refl _ : Ext _ _)
      rcases i with _ | i
      · exact (Ext.refl _ : Ext _ _)
      rcases i with _ | i
      · exact (Ext.refl _ : Ext _ _)
      rcases i with _ | i
      · exact (Ext.sl hp.1 : Ext _ _)
      rcases i with _ | i
      · exact (Ext.sl hp.2.1 : Ext _ _)
      exact absurd hi (by simp; try omega))) (.same _ .nil)), ⟨show SpecsL Tryz.prog _ from (SpecsL.cons w_awake_ok w_awake_en (SpecsL.cons w_few_ok w_few_en (SpecsL.cons g_Reset_ok g_Reset_en (SpecsL.cons r3_Reset_ok r3_Reset_en (SpecsL.cons g_Shows_ok g_Shows_en (SpecsL.cons r3_Shows_ok r3_Shows_en (SpecsL.cons g_Marks_ok g_Marks_en (SpecsL.cons r3_Marks_ok r3_Marks_en (SpecsL.cons r3_SamePiece_ok r3_SamePiece_en (SpecsL.cons r3_SameMarks_ok r3_SameMarks_en SpecsL.nil)))))))))), rfl, ⟨show ItersL Tryz.prog _ from ItersL.nil, (TrsOk.none (fun _ => rfl))⟩⟩⟩
  · cases hs)
theorem w_Resets_en : Enters Tryz.prog 3 := fun args w => by kernel_rfl
theorem w_Resets_B : ∀ args p r, w_Resets_s args = some (p, r) → ∃ b, r = .bool b := by
  intro args p r h
  unfold w_Resets_s at h
  split at h
  · cases h; exact ⟨_, rfl⟩
  · cases h
end Go.Proofs.YtooapgllahonaaaGreat
